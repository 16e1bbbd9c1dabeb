/-
  Part of the proof of the law ProofComplete over this seat: the small logic, the data, the contracts of functions (no condition).
-/
import Derived.Test.YtkeanlfhghlgiaaGreatDoorQProofComplete13
set_option linter.unusedVariables false
set_option linter.unusedSimpArgs false
set_option linter.unusedSectionVars false
set_option maxHeartbeats 1000000
namespace Go.Proofs.YtkeanlfhghlgiaaGreatDoor
open Go Go.Sx Go.Proofs
attribute [local irreducible] Code.wp wpList wpAnyH
open Go.Vs
theorem rh_ (l:List Pc) (ad:Option Addr) (cap:Nat) (hl:l.length≤100000000000):Tri Tryz.prog 48 #[.slice ad (List.length l) cap] [] [ao_ ad (List.flatMap Pc.cells l)] (fun y:{y:Option Addr×Nat // (as_ l).length≤y.2∧y.2≤maxLen∧(y.1=none→y.2=0)}=>.slice y.1.1 (as_ l).length y.1.2) (fun _=>[]) (fun y=>[ao_ y.1.1 ((as_ l).flatMap aF_)]):=by
 refine w_ Tryz.func48 rfl rfl Tryz.ntmps48 rfl fun v0=>?_
 refine Zz 14 ?_
 refine dc_ [(2,.slice none 0 0),(7,.slice ad (List.length l) cap),(8,.int .i64 (List.length l:Int)),(9,.int .i64 ((0:Nat):Int))] zl ?_
 refine dB_ (ι:={y:Nat×Value×Hp // y.1≤l.length∧aH_ 9 1 y.2.1 (bt_ (l.take y.1)).length ((bt_ (l.take y.1)).flatMap aF_) y.2.2}) (fun y=>[(2,y.1.2.1),(7,.slice ad (List.length l) cap),(8,.int .i64 (List.length l:Int)),(9,.int .i64 (y.1.1:Int))]) (fun y=>y.1.2.2) (fun _=>_) (fun y=>l.length - y.1.1) ⟨(0,.slice none 0 0,[]),by simp,aH_.nil _ _⟩ ?_
 rintro ⟨⟨i,sv,Hr⟩,hi,hrow⟩
 dsimp only at hi hrow
 dsimp only
 have hol:=gv_ (l.take i)
 rw[List.length_take]at hol
 refine dc_ [(2,sv),(7,.slice ad (List.length l) cap),(8,.int .i64 (List.length l:Int)),(9,.int .i64 (i:Int))] zl ?_
 refine Zi 2 (fun hr1=>?_) fun hr1=>?_
 ·refine Zz 7 ?_
  have et:l.take i=l:=List.take_of_length_le (by omega)
  rw[et]at hrow hol
  refine Zz 2 ?_
  refine n_ (lj_ hrow (by omega)) rfl aA_ zt rfl fun⟨Hs,hs⟩=>?_
  dsimp only
  refine u_ (List.Perm.symm aA_) ?_
  have hs2:aH_ 9 1 sv ((bt_ l).mergeSort fun x y=>decide (x≤y)).length (((bt_ l).mergeSort fun x y=>decide (x≤y)).flatMap aF_) Hs:=by rw[List.length_mergeSort];exact hs
  refine Zz 5 ?_
  refine n_ (hC_ hs2 (by rw[List.length_mergeSort];omega)) rfl aA_ zt rfl fun⟨⟨sc,Hc⟩,hc⟩=>?_
  dsimp only
  refine u_ (List.Perm.symm aA_) (Zz 4 ?_)
  refine bO_ hc aA_ fun ad2 cp2 hsv hc1 hc2 hc3=>?_
  exact al_ Tryz.results48 ⟨(ad2,cp2),hc1,hc2,hc3⟩ (dk_ rfl hsv) m_ zf
 obtain⟨hlx1,x1,hx1,hmx1⟩:=zge (show i<List.length l by omega)
 refine Zz 12 ?_
 refine L_ aJ_ rfl fun b1=>B_ 0 R_ rfl rfl rfl rfl rfl rfl (Zz 10 ?_)
 refine P_ x_ E_ aL_ rfl rfl rfl rfl rfl rfl fun b2=>?_
 refine aE_ (List.flatMap aF_ [x1.a,x1.b,x1.c]) d_ rfl ?_
 refine Zz 5 ?_
 refine dc_ [(2,sv),(7,.slice ad (List.length l) cap),(8,.int .i64 (List.length l:Int)),(9,.int .i64 (i:Int)),(19,.slice (some ⟨b2,0,none⟩) (List.length [x1.a,x1.b,x1.c]) 3),(20,.int .i64 3),(21,.int .i64 ((0:Nat):Int))] zl ?_
 refine dB_ (ι:={y:Nat×Value×Hp // y.1≤3∧aH_ 9 1 y.2.1 (bt_ (l.take i)++(List.take y.1 [x1.a,x1.b,x1.c]).filter fun s=>!(s==[])).length ((bt_ (l.take i)++(List.take y.1 [x1.a,x1.b,x1.c]).filter fun s=>!(s==[])).flatMap aF_) y.2.2}) (fun y=>[(2,y.1.2.1),(7,.slice ad (List.length l) cap),(8,.int .i64 (List.length l:Int)),(9,.int .i64 (i:Int)),(19,.slice (some ⟨b2,0,none⟩) (List.length [x1.a,x1.b,x1.c]) 3),(20,.int .i64 3),(21,.int .i64 (y.1.1:Int))]) (fun y=>_:: y.1.2.2) (fun _=>_) (fun y=>3 - y.1.1) ⟨(0,sv,Hr),by simp,by simpa using hrow⟩ ?_
 rintro ⟨⟨k,sw,Hw⟩,hk,hkr⟩
 dsimp only at hk hkr
 dsimp only
 have hfl:((bt_ (l.take i)++(List.take k [x1.a,x1.b,x1.c]).filter fun s=>!(s==[]))).length≤(bt_ (l.take i)).length+3:=by
   have:=List.length_filter_le (fun s=>!(s==[])) (List.take k [x1.a,x1.b,x1.c])
   simp only[List.length_append,List.length_take,List.length_cons,List.length_nil]at this ⊢
   omega
 refine dc_ [(2,sw),(7,.slice ad (List.length l) cap),(8,.int .i64 (List.length l:Int)),(9,.int .i64 (i:Int)),(19,.slice (some ⟨b2,0,none⟩) (List.length [x1.a,x1.b,x1.c]) 3),(20,.int .i64 3),(21,.int .i64 (k:Int))] zl ?_
 refine Zi 2 (fun hr2=>?_) fun hr2=>?_
 ·refine Zz 11 ?_
  have hst:bt_ (l.take (i+1))=bt_ (l.take i)++gW_ x1:=by unfold bt_;rw[List.take_add_one,hx1,List.flatMap_append];simp
  exact C_ ⟨(i+1,sw,Hw),hlx1,by dsimp only;rw[hst];have:=hkr;rw[List.take_of_length_le (show [x1.a,x1.b,x1.c].length≤k by simp;omega)]at this;exact this⟩ (by dsimp only;omega) zl (c_ aA_) (fun _ _ h=>h.2)
 have hly1:k<List.length [x1.a,x1.b,x1.c]:=by simp;omega
 obtain⟨y1,hy1⟩:∃ e0,[x1.a,x1.b,x1.c][k]? = some e0:=⟨_,List.getElem?_eq_getElem hly1⟩
 have hmy1:y1∈[x1.a,x1.b,x1.c]:=List.mem_of_getElem? hy1
 refine Zz 11 ?_
 refine i_ (ax_ (ad:=(some ⟨b2,0,none⟩)) M_ rfl zf (y_ am_ hy1 0 _ rfl)) rfl (Zi 6 (fun hr3=>?_) fun hr3=>?_)
 ·refine Zz 10 ?_
  have hst:(bt_ (l.take i)++(List.take (k+1) [x1.a,x1.b,x1.c]).filter fun s=>!(s==[]))=(bt_ (l.take i)++(List.take k [x1.a,x1.b,x1.c]).filter fun s=>!(s==[]))++[y1].filter (fun s=>!(s==[])):=by rw[List.append_assoc,← List.filter_append,List.take_add_one,hy1];simp
  rw[show [y1].filter (fun s=>!(s==[]))=[] by simp[*],List.append_nil]at hst
  exact C_ ⟨(k+1,sw,Hw),by dsimp only;omega,by dsimp only;rw[hst];exact hkr⟩ (by dsimp only;omega) zl zp zh
 refine Zz 6 ?_
 refine P_ x_ E_ aL_ rfl rfl rfl rfl rfl rfl fun b3=>?_
 refine ai_ (news:=[str y1]) ke_ hkr rfl rfl zp rfl (bq_ 0 rfl) (hV_ rfl) (by simp only[maxLen];omega) (by omega) rfl fun sv2 Hr2 hrow2=>?_
 refine u_ (@List.perm_append_comm _ _ [_,_]) (Zz 8 ?_)
 have hst:(bt_ (l.take i)++(List.take (k+1) [x1.a,x1.b,x1.c]).filter fun s=>!(s==[]))=(bt_ (l.take i)++(List.take k [x1.a,x1.b,x1.c]).filter fun s=>!(s==[]))++[y1].filter (fun s=>!(s==[])):=by rw[List.append_assoc,← List.filter_append,List.take_add_one,hy1];simp
 rw[show [y1].filter (fun s=>!(s==[]))=[y1] by simp[*]]at hst
 exact C_ ⟨(k+1,sv2,Hr2),by dsimp only;omega,by dsimp only;rw[hst];rw[List.length_append (bs:=[y1]),List.flatMap_append (ys:=[y1])];exact hrow2⟩ (by dsimp only;omega) zl (f_ (c_ d_) (c_ aA_)) zh
theorem mI_ {p:List Pc}:∀ z∈(([]:List Str)++as_ p)++[[42],[33],[90,122]],z≠[]:=fun z h=>by
 rcases List.mem_append.1 h with h|h
 ·rw[List.nil_append,dD_]at h
  obtain⟨z,_,h⟩:=List.mem_flatMap.1 h
  simpa using (List.mem_filter.1 h).2
 simp only[List.mem_cons,List.not_mem_nil,or_false]at h
 rcases h with rfl|rfl|rfl<;>simp
theorem nH_ {a b:Str} (ha:a≠[]) (hb:b≠[]):wfB (A_ a b)=true:=(iY_ _).2 ⟨ha,.inl ⟨rfl,hb,rfl⟩⟩
theorem lf_ {F:List Fc} {x:Fc} (h:∀ z∈F,wfB z=true) (hx:wfB x=true):∀ z∈F++[x],wfB z=true:=fun z hz=>by
 rcases List.mem_append.1 hz with hz|hz
 ·exact h z hz
 rw[List.mem_singleton]at hz;subst hz;exact hx
set_option maxHeartbeats 1000000 in
theorem sk_ (p:List Pc) (pad:Option Addr) (pcap:Nat) (h14:p.length≤14):Tri Tryz.prog 17 #[.slice pad (List.length p) pcap] [] [ao_ pad (List.flatMap Pc.cells p)] (fun y:{y:List Fc×Value×Hp // zR 24 6 Fc.cells y.2.1 y.1 y.2.2∧(∀ z∈y.1,wfB z=true)∧y.1.length≤81}=>y.1.2.1) (fun y=>y.1.2.2) (fun _=>[]):=by
 refine w_ Tryz.func17 rfl rfl Tryz.ntmps17 rfl fun v0=>?_
 refine Zz 7 ?_
 refine ed_ x_ E_ rfl fun b1=>u_ d_ (Zz 1 ?_)
 refine n_ (rh_ p pad pcap (by omega)) rfl m_ zf rfl fun⟨⟨aad,acap⟩,hac,ham,hnA⟩=>?_
 dsimp only
 refine cc_ (news:=List.flatMap aF_ (as_ p)) cP_ (gD_ b1 9 1) rfl rfl hnA hac aA_ (by rw[cF_ aF_ 1 am_]) zf (fun u hu=>av_ cl_ hu) (by simp only[maxLen];(have:=cb_ p;(try simp only[List.length_append,List.length_cons,List.length_nil]);omega)) (by (have:=cb_ p;(try simp only[List.length_append,List.length_cons,List.length_nil]);omega)) rfl fun sv1 Hr1 hr1=>?_
 refine u_ List.perm_append_comm ?_
 have hq1:aH_ 9 1 sv1 (List.length (([]:List Str)++(as_ p))) (List.flatMap aF_ (([]:List Str)++(as_ p))) Hr1:=by rw[List.length_append,List.flatMap_append];exact hr1
 refine P_ x_ E_ aL_ rfl rfl rfl rfl rfl rfl fun b2=>?_
 refine aE_ (List.flatMap aF_ [[42],[33],[90,122]]) d_ rfl ?_
 refine cc_ (news:=List.flatMap aF_ [[42],[33],[90,122]]) cP_ hq1 rfl rfl (fun q=>by cases q) (by simp) aA_ (by rw[cF_ aF_ 1 am_];rfl) zf (fun u hu=>av_ cl_ hu) (by simp only[maxLen];(have:=cb_ p;(try simp only[List.length_append,List.length_cons,List.length_nil]);omega)) (by (have:=cb_ p;(try simp only[List.length_append,List.length_cons,List.length_nil]);omega)) rfl fun sv2 Hr2 hr2=>?_
 refine u_ List.perm_append_comm ?_
 have hq2:=zsa hr2
 refine Zz 5 ?_
 refine bO_ hq2 aA_ fun lad lcp hlad hclad hmlad hzlad=>?_
 subst hlad
 have hL0:List.length ((([]:List Str)++(as_ p))++[[42],[33],[90,122]])≤1000:=by have:=cb_ p;simp only[List.length_append,List.length_cons,List.length_nil];omega
 refine Zi 3 (fun hr1=>?_) fun hr1=>?_
 ·refine Zz 7 ?_
  refine ed_ T_ z_ rfl fun b3=>u_ d_ (Zz 10 ?_)
  have hne:∀ z∈((([]:List Str)++(as_ p))++[[42],[33],[90,122]]),z≠[]:=mI_
  have hLl:List.length ((([]:List Str)++(as_ p))++[[42],[33],[90,122]])≤9:=by omega
  refine W_ (ι:={y:Nat×List Fc×Value×Hp // y.1≤List.length ((([]:List Str)++(as_ p))++[[42],[33],[90,122]])∧(∀ z∈y.2.1,wfB z=true)∧y.2.1.length≤y.1*9∧zR 24 6 Fc.cells y.2.2.1 y.2.1 y.2.2.2}) (fun y=>[(2,.slice none 0 0),(3,.slice lad (List.length ((([]:List Str)++(as_ p))++[[42],[33],[90,122]])) lcp),(4,y.1.2.2.1),(5,.int .i64 (y.1.1:Int))]) (fun y=>(y.1.2.2.2)) (fun y=>[ao_ lad (List.flatMap aF_ ((([]:List Str)++(as_ p))++[[42],[33],[90,122]])),ao_ (some ⟨b2,0,none⟩) (List.flatMap aF_ [[42],[33],[90,122]]),ao_ aad (List.flatMap aF_ (as_ p)),ao_ pad (List.flatMap Pc.cells p)]) (fun y=>List.length ((([]:List Str)++(as_ p))++[[42],[33],[90,122]]) - y.1.1) ⟨((0:Nat),([]:List Fc),(.slice (some ⟨b3,0,none⟩) 0 0),[(b3,.cells #[] 24 (0,0))]),by simp,by simp,by simp,(gD_ b3 24 6)⟩ zl aA_ zh ?_
  rintro ⟨⟨i,F,sv_Rfc,H_Rfc⟩,hi_i,hF,hFl,hr_Rfc⟩
  dsimp only at hi_i hF hFl hr_Rfc ⊢
  refine Zi 6 (fun hr2=>?_) fun hr2=>?_
  ·refine Zz 12 ?_
   exact al_ Tryz.results17 ⟨(F,sv_Rfc,H_Rfc),hr_Rfc,hF,by dsimp only;omega⟩ rfl aA_ zt
  obtain⟨hlx1,x1,hx1,hmx1⟩:=zge (show i<List.length ((([]:List Str)++(as_ p))++[[42],[33],[90,122]]) by omega)
  refine Zz 13 ?_
  refine W_ (ι:={y:Nat×List Fc×Value×Hp // y.1≤List.length ((([]:List Str)++(as_ p))++[[42],[33],[90,122]])∧(∀ z∈y.2.1,wfB z=true)∧y.2.1.length≤i*9+y.1∧zR 24 6 Fc.cells y.2.2.1 y.2.1 y.2.2.2}) (fun y=>[(2,.slice none 0 0),(3,.slice lad (List.length ((([]:List Str)++(as_ p))++[[42],[33],[90,122]])) lcp),(4,y.1.2.2.1),(5,.int .i64 (i:Int)),(6,.int .i64 (y.1.1:Int))]) (fun y=>(y.1.2.2.2)) (fun y=>[ao_ lad (List.flatMap aF_ ((([]:List Str)++(as_ p))++[[42],[33],[90,122]])),ao_ (some ⟨b2,0,none⟩) (List.flatMap aF_ [[42],[33],[90,122]]),ao_ aad (List.flatMap aF_ (as_ p)),ao_ pad (List.flatMap Pc.cells p)]) (fun y=>List.length ((([]:List Str)++(as_ p))++[[42],[33],[90,122]]) - y.1.1) ⟨((0:Nat),F,sv_Rfc,H_Rfc),by simp,hF,by dsimp only;omega,hr_Rfc⟩ zl aA_ zh ?_
  rintro ⟨⟨j,F2,sv_Rfc,H_Rfc⟩,hi_j,hF2,hFl2,hr_Rfc⟩
  dsimp only at hi_j hF2 hFl2 hr_Rfc ⊢
  refine Zi 6 (fun hr3=>?_) fun hr3=>?_
  ·refine Zz 11 ?_
   exact C_ ⟨(i+1,F2,sv_Rfc,H_Rfc),hlx1,hF2,by dsimp only;omega,hr_Rfc⟩ (by dsimp only;omega) zl aA_ zh
  obtain⟨hlx2,x2,hx2,hmx2⟩:=zge (show j<List.length ((([]:List Str)++(as_ p))++[[42],[33],[90,122]]) by omega)
  refine Zz 7 ?_
  refine af_ ([]) zk ?_
  refine q_ 4 [0,1,2,3,4,5,6,7,8] zk zs (Zz 10 ?_)
  refine l_ 9 rfl zk (n_ (gN_ x1 x2) rfl m_ zt rfl fun _=>Zz 3 ?_)
  refine l_ 10 rfl zk (P_ T_ z_ V_ rfl rfl rfl rfl rfl rfl fun b4=>?_)
  refine aE_ (List.flatMap Fc.cells [(A_ x1 x2)]) d_ rfl ?_
  refine Zz 3 ?_
  refine l_ 11 rfl zk (cc_ (news:=List.flatMap Fc.cells [(A_ x1 x2)]) hB_ hr_Rfc rfl rfl (fun q=>by cases q) (by simp) aA_ (by rw[cF_ Fc.cells 6 Fc.cells_len];rfl) zf (fun u hu=>av_ Fc.cells_one hu) (by simp only[maxLen];(have:=cb_ p;(try simp only[List.length_append,List.length_cons,List.length_nil]);omega)) (by (have:=cb_ p;(try simp only[List.length_append,List.length_cons,List.length_nil]);omega)) rfl fun sv3 Hr3 hr3=>?_)
  refine u_ List.perm_append_comm ?_
  have hq3:=zsa hr3
  refine Zz 3 ?_
  refine q_ 0 [12] zk zs (Zz 10 ?_)
  exact C_ ⟨(j+1,(F2++[(A_ x1 x2)]),sv3,Hr3),hlx2,lf_ hF2 (nH_ (hne _ hmx1) (hne _ hmx2)),by dsimp only;rw[List.length_append];simp only[List.length_singleton];omega,hq3⟩ (by dsimp only;omega) zl aA_ (fun _ _ h=>h.2)
 refine Zz 7 ?_
 refine i_ (aQ_ (df_ rfl rfl rfl (fg_ (by omega) (by omega))) (show Value.int .i64 ((List.length ((([]:List Str)++(as_ p))++[[42],[33],[90,122]]):Int) - 9)=Value.int .i64 ((List.length ((([]:List Str)++(as_ p))++[[42],[33],[90,122]]) - 9:Nat):Int) from congrArg _ (by omega))) rfl (i_ (aQ_ (cX_ (i:=(List.length ((([]:List Str)++(as_ p))++[[42],[33],[90,122]]) - 9:Nat)) (j:=List.length ((([]:List Str)++(as_ p))++[[42],[33],[90,122]])) (kl:=.i64) (kh:=.i64) x_ E_ rfl rfl rfl (by omega) (by have:=hclad;omega)) (show _=Value.slice (sad lad lcp (List.length ((([]:List Str)++(as_ p))++[[42],[33],[90,122]]) - 9:Nat) 1) (List.length (List.drop (List.length ((([]:List Str)++(as_ p))++[[42],[33],[90,122]]) - 9:Nat) ((([]:List Str)++(as_ p))++[[42],[33],[90,122]]))) (lcp - (List.length ((([]:List Str)++(as_ p))++[[42],[33],[90,122]]) - 9:Nat)) by rw[List.length_drop])) rfl ?_)
 refine Zz 5 ?_
 refine ed_ T_ z_ rfl fun b5=>u_ d_ (Zz 10 ?_)
 have hne:∀ z∈(List.drop (List.length ((([]:List Str)++(as_ p))++[[42],[33],[90,122]]) - 9:Nat) ((([]:List Str)++(as_ p))++[[42],[33],[90,122]])),z≠[]:=fun z hz=>mI_ z (List.mem_of_mem_drop hz)
 have hLl:List.length (List.drop (List.length ((([]:List Str)++(as_ p))++[[42],[33],[90,122]]) - 9:Nat) ((([]:List Str)++(as_ p))++[[42],[33],[90,122]]))≤9:=by rw[List.length_drop];omega
 refine W_ (ι:={y:Nat×List Fc×Value×Hp // y.1≤List.length (List.drop (List.length ((([]:List Str)++(as_ p))++[[42],[33],[90,122]]) - 9:Nat) ((([]:List Str)++(as_ p))++[[42],[33],[90,122]]))∧(∀ z∈y.2.1,wfB z=true)∧y.2.1.length≤y.1*9∧zR 24 6 Fc.cells y.2.2.1 y.2.1 y.2.2.2}) (fun y=>[(2,.slice none 0 0),(3,.slice (sad lad lcp (List.length ((([]:List Str)++(as_ p))++[[42],[33],[90,122]]) - 9:Nat) 1) (List.length (List.drop (List.length ((([]:List Str)++(as_ p))++[[42],[33],[90,122]]) - 9:Nat) ((([]:List Str)++(as_ p))++[[42],[33],[90,122]]))) (lcp - (List.length ((([]:List Str)++(as_ p))++[[42],[33],[90,122]]) - 9:Nat))),(4,y.1.2.2.1),(5,.int .i64 (y.1.1:Int))]) (fun y=>(y.1.2.2.2)) (fun y=>[ao_ lad (List.flatMap aF_ ((([]:List Str)++(as_ p))++[[42],[33],[90,122]])),ao_ (some ⟨b2,0,none⟩) (List.flatMap aF_ [[42],[33],[90,122]]),ao_ aad (List.flatMap aF_ (as_ p)),ao_ pad (List.flatMap Pc.cells p)]) (fun y=>List.length (List.drop (List.length ((([]:List Str)++(as_ p))++[[42],[33],[90,122]]) - 9:Nat) ((([]:List Str)++(as_ p))++[[42],[33],[90,122]])) - y.1.1) ⟨((0:Nat),([]:List Fc),(.slice (some ⟨b5,0,none⟩) 0 0),[(b5,.cells #[] 24 (0,0))]),by simp,by simp,by simp,(gD_ b5 24 6)⟩ zl aA_ zh ?_
 rintro ⟨⟨i,F,sv_Rfc,H_Rfc⟩,hi_i,hF,hFl,hr_Rfc⟩
 dsimp only at hi_i hF hFl hr_Rfc ⊢
 refine Zi 6 (fun hr4=>?_) fun hr4=>?_
 ·refine Zz 12 ?_
  exact al_ Tryz.results17 ⟨(F,sv_Rfc,H_Rfc),hr_Rfc,hF,by dsimp only;omega⟩ rfl aA_ zt
 obtain⟨hlx1,x1,hx1,hmx1⟩:=zge (show i<List.length (List.drop (List.length ((([]:List Str)++(as_ p))++[[42],[33],[90,122]]) - 9:Nat) ((([]:List Str)++(as_ p))++[[42],[33],[90,122]])) by omega)
 refine Zz 13 ?_
 refine W_ (ι:={y:Nat×List Fc×Value×Hp // y.1≤List.length (List.drop (List.length ((([]:List Str)++(as_ p))++[[42],[33],[90,122]]) - 9:Nat) ((([]:List Str)++(as_ p))++[[42],[33],[90,122]]))∧(∀ z∈y.2.1,wfB z=true)∧y.2.1.length≤i*9+y.1∧zR 24 6 Fc.cells y.2.2.1 y.2.1 y.2.2.2}) (fun y=>[(2,.slice none 0 0),(3,.slice (sad lad lcp (List.length ((([]:List Str)++(as_ p))++[[42],[33],[90,122]]) - 9:Nat) 1) (List.length (List.drop (List.length ((([]:List Str)++(as_ p))++[[42],[33],[90,122]]) - 9:Nat) ((([]:List Str)++(as_ p))++[[42],[33],[90,122]]))) (lcp - (List.length ((([]:List Str)++(as_ p))++[[42],[33],[90,122]]) - 9:Nat))),(4,y.1.2.2.1),(5,.int .i64 (i:Int)),(6,.int .i64 (y.1.1:Int))]) (fun y=>(y.1.2.2.2)) (fun y=>[ao_ lad (List.flatMap aF_ ((([]:List Str)++(as_ p))++[[42],[33],[90,122]])),ao_ (some ⟨b2,0,none⟩) (List.flatMap aF_ [[42],[33],[90,122]]),ao_ aad (List.flatMap aF_ (as_ p)),ao_ pad (List.flatMap Pc.cells p)]) (fun y=>List.length (List.drop (List.length ((([]:List Str)++(as_ p))++[[42],[33],[90,122]]) - 9:Nat) ((([]:List Str)++(as_ p))++[[42],[33],[90,122]])) - y.1.1) ⟨((0:Nat),F,sv_Rfc,H_Rfc),by simp,hF,by dsimp only;omega,hr_Rfc⟩ zl aA_ zh ?_
 rintro ⟨⟨j,F2,sv_Rfc,H_Rfc⟩,hi_j,hF2,hFl2,hr_Rfc⟩
 dsimp only at hi_j hF2 hFl2 hr_Rfc ⊢
 refine Zi 6 (fun hr5=>?_) fun hr5=>?_
 ·refine Zz 11 ?_
  exact C_ ⟨(i+1,F2,sv_Rfc,H_Rfc),hlx1,hF2,by dsimp only;omega,hr_Rfc⟩ (by dsimp only;omega) zl aA_ zh
 obtain⟨hlx2,x2,hx2,hmx2⟩:=zge (show j<List.length (List.drop (List.length ((([]:List Str)++(as_ p))++[[42],[33],[90,122]]) - 9:Nat) ((([]:List Str)++(as_ p))++[[42],[33],[90,122]])) by omega)
 refine Zz 7 ?_
 refine af_ ([]) zk ?_
 refine q_ 4 [0,1,2,3,4,5,6,7,8] zk zs (Zz 3 ?_)
 refine S_ rfl (Y_ x_ E_ rfl rfl (fun v _ h=>H_ (n:=1) am_ (by decide) (by exact (br_.rest am_ h.1 hclad (List.length ((([]:List Str)++(as_ p))++[[42],[33],[90,122]]) - 9:Nat))) hx1) (by omega) (by first|omega|(simp;done))) rfl ?_
 refine S_ rfl (ax_ (ad:=(sad lad lcp (List.length ((([]:List Str)++(as_ p))++[[42],[33],[90,122]]) - 9:Nat) 1)) M_ rfl (fun v _ h=>by exact (br_.rest am_ h.1 hclad (List.length ((([]:List Str)++(as_ p))++[[42],[33],[90,122]]) - 9:Nat))) (y_ am_ hx1 0 _ rfl)) rfl (Zz 2 ?_)
 refine S_ rfl (Y_ x_ E_ rfl rfl (fun v _ h=>H_ (n:=1) am_ (by decide) (by exact (br_.rest am_ h.1 hclad (List.length ((([]:List Str)++(as_ p))++[[42],[33],[90,122]]) - 9:Nat))) hx2) (by omega) (by first|omega|(simp;done))) rfl ?_
 refine S_ rfl (ax_ (ad:=(sad lad lcp (List.length ((([]:List Str)++(as_ p))++[[42],[33],[90,122]]) - 9:Nat) 1)) M_ rfl (fun v _ h=>by exact (br_.rest am_ h.1 hclad (List.length ((([]:List Str)++(as_ p))++[[42],[33],[90,122]]) - 9:Nat))) (y_ am_ hx2 0 _ rfl)) rfl (dZ_ (l_ 9 rfl zk (n_ (gN_ x1 x2) rfl m_ zt rfl fun _=>Zz 3 ?_)))
 refine l_ 10 rfl zk (P_ T_ z_ V_ rfl rfl rfl rfl rfl rfl fun b6=>?_)
 refine aE_ (List.flatMap Fc.cells [(A_ x1 x2)]) d_ rfl ?_
 refine Zz 3 ?_
 refine l_ 11 rfl zk (cc_ (news:=List.flatMap Fc.cells [(A_ x1 x2)]) hB_ hr_Rfc rfl rfl (fun q=>by cases q) (by simp) aA_ (by rw[cF_ Fc.cells 6 Fc.cells_len];rfl) zf (fun u hu=>av_ Fc.cells_one hu) (by simp only[maxLen];(have:=cb_ p;(try simp only[List.length_append,List.length_cons,List.length_nil]);omega)) (by (have:=cb_ p;(try simp only[List.length_append,List.length_cons,List.length_nil]);omega)) rfl fun sv4 Hr4 hr4=>?_)
 refine u_ List.perm_append_comm ?_
 have hq4:=zsa hr4
 refine Zz 3 ?_
 refine q_ 0 [12] zk zs (Zz 10 ?_)
 exact C_ ⟨(j+1,(F2++[(A_ x1 x2)]),sv4,Hr4),hlx2,lf_ hF2 (nH_ (hne _ hmx1) (hne _ hmx2)),by dsimp only;rw[List.length_append];simp only[List.length_singleton];omega,hq4⟩ (by dsimp only;omega) zl aA_ (fun _ _ h=>h.2)
end Go.Proofs.YtkeanlfhghlgiaaGreatDoor
namespace Go.Proofs.YtkeanlfhghlgiaaGreatDoor
open Go Go.Sx Go.Proofs
attribute [local irreducible] Code.wp wpList wpAnyH
open Go.Vs
theorem yld_bneq {P:Program} {N:Nf} {fr:Fr} {H:Hp} {Γ:List Fct} {ty t t':TypeId} {x y:Operand} {m n:Bool} (hu:P.underlying t=some .bool) (hx:Fr.ev fr x=some (.bool m)) (hy:Fr.ev fr y=some (.bool n)):Yld P N fr H Γ (.binOp .neq t x y t') ty (.bool (m != n)) :=
  fun a v h1 _ _ _ _ _=>by simp[execOp,h1.ev hx,h1.ev hy,eqGuard,binOp,run_equal_bool v.w t m n hu];cases m<;>cases n<;>rfl
theorem qU_ {p:List Pc} {f:Fc} {bu:Int} {Y:List Stp} {e:Int} {c:Cl} (h:ei_ p f bu Y e) (hw:wfB f=true) (hA:dv_ p bu c 0):(e=0→iz_ c.facts f=true)∧(e≠0→iz_ c.facts f=false):=by
 unfold ei_ at h
 rw[if_neg (by simp[hw])]at h
 obtain⟨c2,e0,hA2,h⟩:=h
 obtain⟨_,hf,he⟩:=le_ hA hA2
 subst he
 rw[if_pos rfl]at h
 rw[hf]
 by_cases hd:iz_ c2.facts f=false
 ·rw[if_pos hd]at h;exact⟨fun q=>by rw[h.1]at q;exact absurd q (by decide),fun _=>hd⟩
 rw[if_neg hd]at h;exact⟨fun _=>by simpa using hd,fun q=>absurd h.1 q⟩
theorem qV_ {p:List Pc} {f:Fc} {bu:Int} {Y:List Stp} {e:Int} {c:Cl} {e1:Int} (h:ei_ p f bu Y e) (hw:wfB f=true) (hA:dv_ p bu c e1) (h1:e1≠0):e1=e:=by
  unfold ei_ at h
  rw[if_neg (by simp[hw])]at h
  obtain⟨c2,e0,hA2,h⟩:=h
  obtain⟨_,_,he⟩:=le_ hA hA2
  subst he
  rw[if_neg h1]at h
  exact h.1.symm
theorem all_wf {p:List Pc} {bu:Int} {c:Cl} (hA:dv_ p bu c 0):∀ y∈c.facts,wfB y=true:=fun y hy=>by
  obtain⟨hck,_,_,_,_,h⟩:=hA.good
  have hv:=fA_ hck
  have hd:=(h.2.1 y).1 hy
  exact qS_ (hd.form fun z hz=>fL_ (hv z hz)) (qW_ hv hd)
theorem derF_c (c:Cl) (f:Fc) (hf:c.facts.length≤1000000000000) (h:iz_ c.facts f=false):Tri Tryz.prog 18 #[Cl.val c,Fc.val f] [] [ao_ c.fad (List.flatMap Fc.cells c.facts)] (fun _:Unit=>.bool false) (fun _=>[]) (fun _=>[]):=by
  have q:=qY_ c f hf
  rw[h]at q
  exact q
set_option maxHeartbeats 1000000 in
theorem nA_ (p:List Pc) (pad:Option Addr) (pcap:Nat) (hpl:p.length≤1099511627744) (hpbig:∀ x∈p,x.big):Tri Tryz.prog 4 #[.slice pad (List.length p) pcap] [] [ao_ pad (List.flatMap Pc.cells p),hM_] (fun _:Unit=>.bool true) (fun _=>[]) (fun _=>[]):=by
 refine w_ Tryz.func4 rfl rfl Tryz.ntmps4 rfl fun v0=>?_
 refine Zz 8 ?_
 refine n_ (pF_) rfl m_ zf rfl fun _=>i_ (bL_ rfl) rfl (Zz 9 ?_)
 refine n_ (sj_ p pad pcap 8 hpl hpbig) rfl m_ zf rfl fun⟨fw,hfw⟩=>?_
 dsimp only
 refine i_ (bL_ rfl) rfl (Zz 2 ?_)
 cases fw
 ·refine Zz 7 ?_
  exact al_ Tryz.results4 () rfl m_ zt
 obtain⟨h14q,hsm⟩:=hfw rfl
 have h14:p.length≤14:=by omega
 refine Zz 6 ?_
 refine n_ (sP_ p pad pcap 1073741824 hsm (by omega)) rfl m_ zf rfl fun⟨⟨c1,e1⟩,hA1⟩=>?_
 dsimp only
 dsimp only at hA1
 have hcl1:=hA1.len
 refine Zz 3 ?_
 refine L_ Tryz.zeroValue39 rfl fun b1=>B_ 0 aK_ rfl rfl rfl rfl rfl rfl (Zi 7 (fun hr1=>?_) fun hr1=>?_)
 ·have hA0:dv_ p 1073741824 c1 0:=by have q:=hA1;rwa [hr1]at q
  refine Zz 8 ?_
  refine n_ (sk_ p pad pcap h14) rfl m_ zf rfl fun⟨⟨F0,svF,HF0⟩,hrF,hwF0,hlF0⟩=>?_
  dsimp only
  dsimp only at hrF hwF0 hlF0
  refine Zz 4 ?_
  refine u_ (ap_ Z_) (Zz 6 ?_)
  refine W_ (ι:={y:Nat×List Fc×Value×Hp // y.1≤List.length c1.facts∧(∀ z∈y.2.1,wfB z=true)∧y.2.1.length≤81+y.1∧y.1≤40∧zR 24 6 Fc.cells y.2.2.1 y.2.1 y.2.2.2}) (fun y=>[(0,.slice pad (List.length p) pcap),(2,.bool false),(3,zp_ b1 0),(7,y.1.2.2.1),(8,.int .i64 (y.1.1:Int))]) (fun y=>((b1,.cells #[.slice c1.aad (List.length c1.atoms) c1.acap,.slice c1.fad (List.length c1.facts) c1.fcap] 39 (0,0))::y.1.2.2.2)) (fun y=>[ao_ c1.aad (List.flatMap aF_ c1.atoms),ao_ c1.fad (List.flatMap Fc.cells c1.facts),ao_ pad (List.flatMap Pc.cells p),hM_]) (fun y=>List.length c1.facts - y.1.1) ⟨((0:Nat),F0,svF,HF0),by simp,hwF0,hlF0,by dsimp only;omega,hrF⟩ zl zp zh ?_
  rintro ⟨⟨i,F,sv_Rfc,H_Rfc⟩,hi_i,hwF,hlF,hi40,hr_Rfc⟩
  dsimp only at hi_i hwF hlF hi40 hr_Rfc ⊢
  refine Zz 7 ?_
  refine aS_ (fs_ rfl rfl) rfl fun r2 hr2=>Zz 1 ?_
  refine cU_ 3 ((decide ((i:Int)<(List.length c1.facts:Int)))&&(decide ((i:Int)<40))) (fun r=>[(0,.slice pad (List.length p) pcap),(2,.bool false),(3,zp_ b1 0),(7,sv_Rfc),(8,.int .i64 (i:Int)),(43,.bool r)]) ?_ fun r3 hr3=>?_
  ·cases r2
   ·have qr3:=hr2
    replace hr2:=zdf hr2
    refine Zz 5 ?_
    exact met ⟨rfl,rfl,rfl,rfl,rfl,(t_ rfl (jaf qr3)),trivial⟩
   have qr3:=hr2
   replace hr2:=zdt hr2
   refine Zz 3 ?_
   refine aS_ (fs_ rfl rfl) rfl fun r4 hr4=>Zz 3 ?_
   exact met ⟨rfl,rfl,rfl,rfl,rfl,(t_ rfl (jat qr3 hr4)),trivial⟩
  refine Zz 2 ?_
  cases r3
  ·simp at hr3
   refine Zz 5 ?_
   refine bO_ hr_Rfc J_ fun Fad Fcp hFad hcFad hmFad hzFad=>?_
   subst hFad
   refine Zz 5 ?_
   refine W_ (ι:={y:Nat // y≤List.length F}) (fun y=>[(0,.slice pad (List.length p) pcap),(2,.bool false),(3,zp_ b1 0),(7,.slice Fad (List.length F) Fcp),(8,.int .i64 (i:Int)),(9,.int .i64 (y.1:Int))]) (fun y=>((b1,.cells #[.slice c1.aad (List.length c1.atoms) c1.acap,.slice c1.fad (List.length c1.facts) c1.fcap] 39 (0,0))::[])) (fun y=>[ao_ Fad (List.flatMap Fc.cells F),ao_ c1.aad (List.flatMap aF_ c1.atoms),ao_ c1.fad (List.flatMap Fc.cells c1.facts),ao_ pad (List.flatMap Pc.cells p),hM_]) (fun y=>List.length F - y.1) ⟨(0:Nat),by simp⟩ zl d_ zh ?_
   rintro ⟨k,hi_k⟩
   dsimp only at hi_k ⊢
   refine Zi 6 (fun hr5=>?_) fun hr5=>?_
   ·refine Zz 11 ?_
    exact al_ Tryz.results4 () rfl m_ zt
   obtain⟨hlx2,x2,hx2,hmx2⟩:=zge (show k<List.length F by omega)
   refine Zz 14 ?_
   refine n_ (ix_ p pad pcap x2 1073741824 hsm h14) rfl m_ zf rfl fun⟨⟨Y,yad,ycap,e⟩,hF,hYl,hYc,hYm,hYz⟩=>?_
   dsimp only
   dsimp only at hF hYl hYc hYm hYz
   have hiff:=qU_ hF (hwF _ hmx2) hA0
   refine Zz 3 ?_
   refine L_ cW_ rfl fun b2=>B_ 0 bp_ rfl rfl rfl rfl rfl rfl (Zz 4 ?_)
   by_cases he0:e=0
   ·subst he0
    have hdv:=hiff.1 rfl
    refine Zz 1 ?_
    refine q_ 16 [0,1,2,3,4,5,6] zk zs (Zz 1 ?_)
    refine S_ rfl (aQ_ (cN_ rfl rfl) (show _=Value.bool true from congrArg Value.bool (by decide))) rfl (Zz 6 ?_)
    refine l_ 7 rfl zk (n_ (derT_c c1 x2 (by omega) hdv) rfl m_ zf rfl fun _=>Zz 3 ?_)
    refine q_ 4 [8,9,10,11,12,13,14,15,16,17,18] zk zs (S_ rfl (aQ_ (yld_bneq Tryz.underlying4 rfl rfl) (show Value.bool (true != true)=Value.bool false from rfl)) rfl (Zz 2 ?_))
    refine em_ rfl rfl rfl (aQ_ (cN_ rfl rfl) (show _=Value.bool true from congrArg Value.bool (by decide))) rfl (Zz 8 ?_)
    refine l_ 19 rfl zk (aP_ rfl rfl (n_ (jC_ p pad pcap x2 Y yad ycap (by omega) (qT_ hF rfl)) rfl m_ zf rfl fun _=>Zz 3 ?_))
    refine q_ 0 [20,21,22] zk zs (em_ rfl rfl rfl (bL_ rfl) rfl (Zz 14 ?_))
    exact C_ ⟨k+1,hlx2⟩ (by dsimp only;omega) zl (c_ d_) (fun _ _ h=>h.2.2)
   have hdv:=hiff.2 he0
   refine Zz 1 ?_
   refine q_ 16 [0,1,2,3,4,5,6] zk zs (Zz 1 ?_)
   refine S_ rfl (aQ_ (cN_ rfl rfl) (show Value.bool (e==0)=Value.bool false by simp[he0])) rfl (Zz 6 ?_)
   refine l_ 7 rfl zk (n_ (derF_c c1 x2 (by omega) hdv) rfl m_ zf rfl fun _=>Zz 3 ?_)
   refine q_ 0 [8,9,10,11,12,13,14,15,16,17,18,19,20,21,22] zk zs (S_ rfl (aQ_ (yld_bneq Tryz.underlying4 rfl rfl) (show Value.bool (false != false)=Value.bool false from rfl)) rfl (Zz 2 ?_))
   refine em_ rfl rfl rfl (aQ_ (cN_ rfl rfl) (show Value.bool (e==0)=Value.bool false by simp[he0])) rfl (Zz 23 ?_)
   exact C_ ⟨k+1,hlx2⟩ (by dsimp only;omega) zl (c_ d_) (fun _ _ h=>h.2.2)
  simp at hr3
  obtain⟨hia,hib⟩:=hr3
  obtain⟨hlx1,x1,hx1,hmx1⟩:=zge (show i<List.length c1.facts by omega)
  refine Zz 12 ?_
  refine P_ T_ z_ V_ rfl rfl rfl rfl rfl rfl fun b3=>?_
  refine aE_ (List.flatMap Fc.cells [x1]) d_ rfl ?_
  refine cc_ (news:=List.flatMap Fc.cells [x1]) hB_ hr_Rfc rfl rfl (fun q=>by cases q) (by simp) J_ (by rw[cF_ Fc.cells 6 Fc.cells_len];rfl) zf (fun u hu=>av_ Fc.cells_one hu) (by simp only[maxLen];((try simp only[List.length_append,List.length_cons,List.length_nil]);omega)) (by ((try simp only[List.length_append,List.length_cons,List.length_nil]);omega)) rfl fun sv1 Hr1 hr1=>?_
  refine u_ List.perm_append_comm ?_
  have hq1:=zsa hr1
  refine Zz 9 ?_
  exact C_ ⟨(i+1,(F++[x1]),sv1,Hr1),hlx1,lf_ hwF (all_wf hA0 _ hmx1),by dsimp only;rw[List.length_append];simp only[List.length_singleton];omega,by dsimp only;omega,hq1⟩ (by dsimp only;omega) zl zp (fun _ _ h=>h.2)
 refine Zz 6 ?_
 refine n_ (gN_ [42] [42]) rfl m_ zt rfl fun _=>n_ (ix_ p pad pcap (A_ [42] [42]) 1073741824 hsm h14) rfl m_ zf rfl fun⟨⟨Y,yad,ycap,e⟩,hF,hYl,hYc,hYm,hYz⟩=>?_
 dsimp only
 dsimp only at hF hYl hYc hYm hYz
 have hee:=qV_ hF (by decide +kernel) hA1 hr1
 subst hee
 refine Zz 3 ?_
 refine L_ cW_ rfl fun b4=>B_ 0 bp_ rfl rfl rfl rfl rfl rfl (Zz 7 ?_)
 refine aS_ (cN_ rfl rfl) rfl fun r6 hr6=>Zz 4 ?_
 exact al_ Tryz.results4 () (t_ rfl (by rw[← hr6];simp)) m_ zt
end Go.Proofs.YtkeanlfhghlgiaaGreatDoor
