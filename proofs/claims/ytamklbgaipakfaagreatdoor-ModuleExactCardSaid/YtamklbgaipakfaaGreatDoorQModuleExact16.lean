/-
  Part of the proof of the law ModuleExact over this seat: the small logic, the data, the contracts of functions (no condition).
-/
import Derived.Test.YtamklbgaipakfaaGreatDoorQModuleExact15
import Derived.Test.YtamklbgaipakfaaGreatDoorQModuleExact13
import Derived.Test.YtamklbgaipakfaaGreatDoorQModuleExact7
import Derived.Test.YtamklbgaipakfaaGreatDoorQModuleExact14
import Derived.Test.YtamklbgaipakfaaGreatDoorQModuleExact4
import Derived.Test.YtamklbgaipakfaaGreatDoorRows
set_option linter.unusedVariables false
set_option linter.unusedSimpArgs false
set_option linter.unusedSectionVars false
set_option maxHeartbeats 1000000
namespace Go.Proofs.YtamklbgaipakfaaGreatDoor
open Go Go.Sx Go.Proofs
attribute [local irreducible] Code.wp wpList wpAnyH
open Go.Vs
theorem oV_ {l:List Ax} {p:List Pc} {er:Int} {S:List Str} {R:List Int} (h:gC_ l p er S=(R,0)):er=0∧ge_ S=true∧R=eC_ l p S l.length:=by
 unfold gC_ at h
 by_cases h1:er≠0
 ·rw[if_pos h1]at h
  exact absurd (Prod.mk.inj h).2 h1
 rw[if_neg h1]at h
 by_cases h2:ge_ S=false
 ·rw[if_pos h2]at h
  exact absurd (Prod.mk.inj h).2 (by decide)
 rw[if_neg h2]at h
 exact⟨Decidable.not_not.1 h1,by simpa using h2,(Prod.mk.inj h).1.symm⟩
theorem pg_ {l:List Ax} {p:List Pc} (h12:l.length≤12) (h:az_ l=(p,0)):(∀ x∈l,x.check=0)∧p=ex_ 0 l:=by
 by_cases hb:dd_ l=0
 ·have hc:=hW_ hb
  rw[iL_ (by omega) hc]at h
  exact⟨hc,(Prod.mk.inj h).1.symm⟩
 rw[kr_ (by omega) hb]at h
 exact absurd (Prod.mk.inj h).2 hb
theorem pj_ {l:List Ax} {w:List Int}:(bR_ l w).length≤w.length:=List.length_filterMap_le _ _
theorem lv_ {l:List Ax} {w:List Int} {a:Ax} (h:a∈bR_ l w):a∈l:=by
  obtain⟨i,_,hi⟩:=jT_.1 h
  exact List.mem_of_getElem? hi
theorem lu_ {l:List Ax} {w:List Int} {i:Nat} {x:Int} {a:Ax} (hx:w[i]? = some x) (ha:l[x.toNat]? = some a):bR_ l (List.take (i+1) w)=bR_ l (List.take i w)++[a]:=by
  rw[List.take_add_one,hx,Option.toList_some,gj_ ha]
theorem ni_ {l:List Ax} {S:List Str} (h12:l.length≤12) (hok:∀ x∈l,x.ok) (hc:∀ x∈l,x.check=0) (hv:ge_ S=true) (hS:S.length≤8):dX_ (ex_ 0 l++cD_ S)=0:=by
 have hl:=jv_ 0 l hc
 unfold dX_
 rw[if_neg (by rw[List.length_append,cD_,List.length_map];omega),if_pos]
 rw[List.all_eq_true]
 intro x hx
 rcases List.mem_append.1 hx with hx|hx
 ·exact (lP_ l 0 (by omega) hok hc x hx).2.2.2
 obtain⟨s,hs,rfl⟩:=List.mem_map.1 hx
 unfold ge_ at hv
 rw[Bool.and_eq_true,List.all_eq_true]at hv
 exact sA_ (hv.2 s hs)
theorem ty_ {l:List Ax} {S:List Str} (h12:l.length≤12) (hok:∀ x∈l,x.ok) (hc:∀ x∈l,x.check=0) (hS:∀ s∈S,s.length≤300):∀ x∈ex_ 0 l++cD_ S,x.sm:=fun x hx=>by
 rcases List.mem_append.1 hx with hx|hx
 ·exact (lP_ l 0 (by omega) hok hc x hx).2.2.1
 obtain⟨s,hs,rfl⟩:=List.mem_map.1 hx
 have:=hS s hs
 constructor<;>simp<;>omega
theorem tU_ {S:List Str} {i:Nat} {s:Str} (h:S[i]? = some s):cD_ (List.take (i+1) S)=cD_ (List.take i S)++[⟨1,s,[],[42],[],[],[],0,0,-1⟩]:=by
  unfold cD_
  rw[List.take_add_one,h,Option.toList_some,List.map_append]
  rfl
theorem vw_ {S:List Str} {i:Nat}:(cD_ (List.take i S)).length≤i:=by
  unfold cD_
  rw[List.length_map]
  exact List.length_take_le _ _
theorem mat_at {l:List Ax} {p:List Pc} {S:List Str} {i:Nat} {x:Int} (h:(eC_ l p S l.length)[i]? = some x):0≤x∧x<(l.length:Int):=(pt_.1 (List.mem_of_getElem? h)).1
theorem mat_up {l:List Ax} {p:List Pc} {S:List Str} {i:Nat} {x z:Int} (hx:(eC_ l p S l.length)[i]? = some x) (hz:(eC_ l p S l.length)[i - 1]? = some z) (h0:0<i):z<x:=by
  have h:=vz_ (l:=l) (p:=p) (S:=S) l.length
  have hi:=(List.getElem?_eq_some_iff.1 hx).1
  have hj:=(List.getElem?_eq_some_iff.1 hz).1
  have:=List.pairwise_iff_getElem.1 h (i - 1) i hj hi (by omega)
  rwa [(List.getElem?_eq_some_iff.1 hx).2,(List.getElem?_eq_some_iff.1 hz).2]at this
theorem mK_ (l:List Ax) (ad:Option Addr) (cap:Nat) (hcap:l.length≤2199023255488) (hok:∀ x∈l,x.ok) {p:List Pc} {er:Int} (e:az_ l=(p,er)) :
    Tri Tryz.prog 27 #[.slice ad l.length cap] [] [dw_ ad l,cq_] (fun y:{y:Option Addr×Nat // p.length≤y.2∧y.2≤maxLen∧(y.1=none→y.2=0)}=>.tuple #[.slice y.1.1 p.length y.1.2,.int .i64 er]) (fun _=>[]) (fun y=>[al_ y.1.1 (p.flatMap Pc.cells)]):=by
  have h:=mL_ l ad cap hcap hok
  generalize az_ l=g at h e
  subst e
  exact h
end Go.Proofs.YtamklbgaipakfaaGreatDoor
namespace Go.Proofs.YtamklbgaipakfaaGreatDoor
open Go Go.Sx Go.Proofs
attribute [local irreducible] Code.wp wpList wpAnyH
open Go.Vs
set_option maxHeartbeats 1000000 in
theorem moduleExact_c (hsane:Tri Tryz.prog 8 #[] [] [cq_] (fun _:Unit=>.bool true) (fun _=>[]) (fun _=>[])) (ls:List Ax) (lad:Option Addr) (lcap:Nat) (hcap:ls.length≤lcap∧lcap≤2199023255488) (hok:∀ x∈ls,x.ok) (S:List Str) (sad:Option Addr) (scap:Nat) (hSb:S.length≤8796093021952) (hSl:∀ s∈S,s.length≤140737488351232):Tri Tryz.prog 6 #[.slice lad (List.length ls) lcap,.slice sad (List.length S) scap] [] [dw_ lad ls,al_ sad (List.flatMap aE_ S),cq_,jK_] (fun _:Unit=>.bool true) (fun _=>[]) (fun _=>[]):=by
 refine l_ Tryz.func6 rfl rfl Tryz.ntmps6 rfl fun v0=>?_
 refine X_ ?_
 refine I_ ?_
 refine d_ (W_ rfl) rfl ?_
 refine aa_ ?_
 refine G_ rfl ?_
 refine X_ ?_
 refine X_ ?_
 refine I_ ?_
 refine f_ (hsane) rfl g_ zf rfl fun _=>?_
 refine d_ (bb_ rfl) rfl ?_
 refine aa_ ?_
 refine G_ rfl ?_
 refine aW_ rfl ?_
 refine bt_ ?_
 refine G_ rfl ?_
 refine X_ ?_
 refine X_ ?_
 refine I_ ?_
 refine d_ (t_ rfl) rfl ?_
 refine f_ (vL_ ls lad lcap hcap hok) rfl g_ zf rfl fun⟨fb,hfb⟩=>?_
 dsimp only
 refine d_ (bb_ rfl) rfl ?_
 refine d_ (t_ rfl) rfl ?_
 cases fb
 ·refine ec_ rfl rfl rfl rfl ?_
  refine ec_ rfl rfl rfl rfl ?_
  refine ec_ rfl rfl rfl rfl ?_
  refine d_ (ci_ rfl rfl) rfl ?_
  refine aa_ ?_
  refine G_ rfl ?_
  refine bg_ rfl ?_
  refine X_ ?_
  refine I_ ?_
  refine d_ (W_ rfl) rfl ?_
  refine aa_ ?_
  refine G_ rfl ?_
  refine eK_ ?_
  exact N_ nA_ () rfl g_ zt
 obtain⟨h12,hfw⟩:=hfb rfl
 obtain⟨⟨p,er⟩,hPL⟩:∃ q,az_ ls=q:=⟨_,rfl⟩
 obtain⟨⟨R,e⟩,hR⟩:∃ q,gC_ ls p er S=q:=⟨_,rfl⟩
 have hpl:=qt_ h12 hPL
 refine aF_ rfl rfl ?_
 refine d_ (t_ rfl) rfl ?_
 refine aF_ rfl rfl ?_
 refine f_ (rV_ S sad scap hSb hSl) rfl g_ zf rfl fun⟨sb,hsb⟩=>?_
 dsimp only
 refine aF_ rfl rfl ?_
 refine d_ (bb_ rfl) rfl ?_
 refine d_ (ct_ rfl rfl) rfl ?_
 refine aa_ ?_
 refine G_ rfl ?_
 cases sb
 ·refine bg_ rfl ?_
  refine X_ ?_
  refine I_ ?_
  refine d_ (W_ rfl) rfl ?_
  refine aa_ ?_
  refine G_ rfl ?_
  refine eK_ ?_
  exact N_ nA_ () rfl g_ zt
 obtain⟨hS8,hS3⟩:=hsb rfl
 have hSl2:∀ s∈S,s.length≤100000:=fun s hs=>by have:=hS3 s hs;omega
 refine aW_ rfl ?_
 refine bt_ ?_
 refine G_ rfl ?_
 refine X_ ?_
 refine I_ ?_
 refine d_ (t_ rfl) rfl ?_
 refine d_ (t_ rfl) rfl ?_
 refine f_ (oo_ ls lad lcap hcap hok (by omega) S sad scap (by omega) hSl2 p er hPL (by omega) R e hR) rfl g_ zf rfl fun⟨⟨q1,c1⟩,hq1⟩=>?_
 dsimp only
 refine d_ (t_ rfl) rfl ?_
 refine d_ (bs_ rfl rfl) rfl ?_
 refine d_ (bs_ rfl rfl) rfl ?_
 refine d_ (W_ rfl) rfl ?_
 refine d_ (W_ rfl) rfl ?_
 refine aa_ ?_
 refine G_ rfl ?_
 refine X_ ?_
 refine X_ ?_
 refine I_ ?_
 refine d_ (t_ rfl) rfl ?_
 refine D_ (bS_ rfl rfl) rfl fun r1 hr1=>?_
 refine aa_ ?_
 refine G_ rfl ?_
 cases r1
 ·replace hr1:=dn_ hr1
  have he0:e=0:=by assumption
  obtain⟨her,hvS,hRm⟩:=oV_ (he0▸hR)
  obtain⟨hck,hpf⟩:=pg_ h12 (her▸hPL)
  have hR12:R.length≤12:=by rw[hRm];exact Nat.le_trans (hS_ _) h12
  have hM12:(bR_ ls R).length≤12:=Nat.le_trans pj_ hR12
  have hMc:∀ x∈bR_ ls R,x.check=0:=fun x hx=>hck x (lv_ hx)
  have hMo:∀ x∈bR_ ls R,x.ok:=fun x hx=>hok x (lv_ hx)
  have hQL:az_ (bR_ ls R)=(ex_ 0 (bR_ ls R),0):=iL_ (by omega) hMc
  have hfq:=jv_ 0 _ hMc
  have hsmp:∀ z∈p++cD_ S,z.sm:=by rw[hpf];exact ty_ h12 hok hck hS3
  have hsmq:=ty_ hM12 hMo hMc hS3
  have hmS:(cD_ S).length≤8:=by unfold cD_;rw[List.length_map];exact hS8
  refine aW_ rfl ?_
  refine bt_ ?_
  refine G_ rfl ?_
  refine X_ ?_
  refine I_ ?_
  refine d_ (W_ rfl) rfl ?_
  refine aa_ ?_
  refine G_ rfl ?_
  refine X_ ?_
  refine X_ ?_
  refine I_ ?_
  refine d_ (W_ rfl) rfl ?_
  refine aa_ ?_
  refine G_ rfl ?_
  refine cy_ ?_
  refine ai_ (ι:={y:Nat×Value×Hp // y.1≤List.length R∧zR 48 16 Ax.cells y.2.1 (bR_ ls (List.take y.1 R)) y.2.2}) (fun y=>[(0,.slice lad (List.length ls) lcap),(1,.slice sad (List.length S) scap),(4,.bool false),(5,.slice q1 (List.length R) c1),(7,y.1.2.1),(8,.int .i64 (y.1.1:Int))]) (fun y=>(y.1.2.2)) (fun y=>[al_ q1 (List.flatMap ew_ R),dw_ lad ls,al_ sad (List.flatMap aE_ S),cq_,jK_]) (fun y=>List.length R - y.1.1) ⟨((0:Nat),(.slice none 0 0),[]),by simp,(aL_.nil _ _)⟩ zl g_ zh ?_
  rintro ⟨⟨i,sv_Q,H_Q⟩,hi_i,hr_Q⟩
  dsimp only at hi_i hr_Q ⊢
  have hpk:=Nat.le_trans (pj_ (l:=ls) (w:=List.take i R)) (List.length_take_le _ _)
  refine X_ ?_
  refine X_ ?_
  refine I_ ?_
  refine d_ (t_ rfl) rfl ?_
  refine d_ (t_ rfl) rfl ?_
  refine d_ (dp_ ac_ rfl) rfl ?_
  refine D_ (dg_ rfl rfl) rfl fun r2 hr2=>?_
  refine aa_ ?_
  refine G_ rfl ?_
  cases r2
  ·replace hr2:=zdf hr2
   refine aW_ rfl ?_
   refine fC_ rfl ?_
   refine G_ rfl ?_
   refine X_ ?_
   have hw1:aL_ 48 16 sv_Q (List.length (bR_ ls R)) (List.flatMap Ax.cells (bR_ ls R)) H_Q:=by have q:=hr_Q;rw[List.take_of_length_le (by omega)]at q;exact q
   refine cr_ hw1 aZ_ fun mad mcap hmad hcmad hmmad hzmad=>?_
   subst hmad
   refine jk_ (Γ':=dw_ mad (bR_ ls R)::[al_ mad (List.flatMap Ax.cells (bR_ ls R)),al_ q1 (List.flatMap ew_ R),dw_ lad ls,al_ sad (List.flatMap aE_ S),cq_,jK_]) (fun v _ h=>⟨⟨h.1,fun x hx=>(h.2.2.1).2 x (lv_ hx)⟩,h⟩) ?_
   refine I_ ?_
   refine d_ (t_ rfl) rfl ?_
   refine f_ (mK_ ls lad lcap (by omega) hok hPL) rfl g_ zf rfl fun⟨⟨pad,pcap⟩,hpc⟩=>?_
   dsimp only
   dsimp only at hpc
   refine d_ (t_ rfl) rfl ?_
   refine d_ (bs_ rfl rfl) rfl ?_
   refine d_ (bs_ rfl rfl) rfl ?_
   refine d_ (W_ rfl) rfl ?_
   refine d_ (W_ rfl) rfl ?_
   refine aa_ ?_
   refine G_ rfl ?_
   refine X_ ?_
   refine I_ ?_
   refine d_ (t_ rfl) rfl ?_
   refine f_ (mK_ (bR_ ls R) mad mcap (by omega) hMo hQL) rfl g_ zf rfl fun⟨⟨qad,qcap⟩,hqc⟩=>?_
   dsimp only
   dsimp only at hqc
   refine d_ (t_ rfl) rfl ?_
   refine d_ (bs_ rfl rfl) rfl ?_
   refine d_ (bs_ rfl rfl) rfl ?_
   refine d_ (W_ rfl) rfl ?_
   refine d_ (W_ rfl) rfl ?_
   refine aa_ ?_
   refine G_ rfl ?_
   refine X_ ?_
   refine X_ ?_
   refine I_ ?_
   refine d_ (t_ rfl) rfl ?_
   refine D_ (bS_ rfl rfl) rfl fun r3 hr3=>?_
   refine d_ (t_ rfl) rfl ?_
   cases r3
   ·replace hr3:=dn_ hr3
    refine aF_ rfl rfl ?_
    refine d_ (t_ rfl) rfl ?_
    refine aF_ rfl rfl ?_
    refine d_ (aY_ (bS_ rfl rfl) (show _=Value.bool false from congrArg Value.bool (by decide))) rfl ?_
    refine d_ (ct_ rfl rfl) rfl ?_
    refine aa_ ?_
    refine G_ rfl ?_
    refine aW_ rfl ?_
    refine bt_ ?_
    refine G_ rfl ?_
    refine X_ ?_
    refine I_ ?_
    refine d_ (W_ rfl) rfl ?_
    refine aa_ ?_
    refine G_ rfl ?_
    refine X_ ?_
    refine X_ ?_
    refine I_ ?_
    refine d_ (W_ rfl) rfl ?_
    refine aa_ ?_
    refine G_ rfl ?_
    refine cy_ ?_
    refine ai_ (ι:={y:Nat×Value×Hp // y.1≤List.length S∧zR 58 10 Pc.cells y.2.1 (cD_ (List.take y.1 S)) y.2.2}) (fun y=>[(0,.slice lad (List.length ls) lcap),(1,.slice sad (List.length S) scap),(4,.bool false),(5,.slice q1 (List.length R) c1),(7,.slice mad (List.length (bR_ ls R)) mcap),(8,.int .i64 (i:Int)),(9,.slice pad (List.length p) pcap),(11,.slice qad (List.length (ex_ 0 (bR_ ls R))) qcap),(13,y.1.2.1),(14,.int .i64 (y.1.1:Int))]) (fun y=>(y.1.2.2)) (fun y=>[al_ qad (List.flatMap Pc.cells (ex_ 0 (bR_ ls R))),al_ pad (List.flatMap Pc.cells p),dw_ mad (bR_ ls R),al_ mad (List.flatMap Ax.cells (bR_ ls R)),al_ q1 (List.flatMap ew_ R),dw_ lad ls,al_ sad (List.flatMap aE_ S),cq_,jK_]) (fun y=>List.length S - y.1.1) ⟨((0:Nat),(.slice none 0 0),[]),by simp,(aL_.nil _ _)⟩ zl g_ zh ?_
    rintro ⟨⟨j,sv_N,H_N⟩,hi_j,hr_N⟩
    dsimp only at hi_j hr_N ⊢
    have hml:=vw_ (S:=S) (i:=j)
    refine X_ ?_
    refine X_ ?_
    refine I_ ?_
    refine d_ (t_ rfl) rfl ?_
    refine d_ (t_ rfl) rfl ?_
    refine d_ (dp_ n_ rfl) rfl ?_
    refine D_ (dg_ rfl rfl) rfl fun r4 hr4=>?_
    refine aa_ ?_
    refine G_ rfl ?_
    cases r4
    ·replace hr4:=zdf hr4
     refine aW_ rfl ?_
     refine fC_ rfl ?_
     refine G_ rfl ?_
     refine X_ ?_
     have hw2:aL_ 58 10 sv_N (List.length (cD_ S)) (List.flatMap Pc.cells (cD_ S)) H_N:=by have q:=hr_N;rw[List.take_of_length_le (by omega)]at q;exact q
     refine cr_ hw2 aZ_ fun nad ncap hnad hcnad hmnad hznad=>?_
     subst hnad
     try dsimp only at hcnad hmnad hznad
     refine I_ ?_
     refine jV_ q_ F_ rfl fun b1=>?_
     refine C_ e_ ?_
     refine d_ (t_ rfl) rfl ?_
     refine eS_ (news:=List.flatMap Pc.cells p) hY_ (ll_ b1 58 10) rfl rfl hpc.2.2 hpc.1 aZ_ (by rw[em_ Pc.cells 10 Pc.cells_len]) zf (fun u hu=>bd_ Pc.cells_one hu) (by simp only[maxLen];(first|omega|((try simp only[List.length_append,List.length_cons,List.length_nil]);omega))) (by (first|omega|((try simp only[List.length_append,List.length_cons,List.length_nil]);omega))) rfl fun sv3 Hr3 hr3=>?_
     refine C_ List.perm_append_comm ?_
     have hq3:aL_ 58 10 sv3 (List.length (([]:List Pc)++p)) (List.flatMap Pc.cells (([]:List Pc)++p)) Hr3:=by rw[List.length_append,List.flatMap_append];exact hr3
     refine d_ (t_ rfl) rfl ?_
     refine eS_ (news:=List.flatMap Pc.cells (cD_ S)) hY_ hq3 rfl rfl hznad hcnad aZ_ (by rw[em_ Pc.cells 10 Pc.cells_len]) zf (fun u hu=>bd_ Pc.cells_one hu) (by simp only[maxLen];(first|omega|((try simp only[List.length_append,List.length_cons,List.length_nil]);omega))) (by (first|omega|((try simp only[List.length_append,List.length_cons,List.length_nil]);omega))) rfl fun sv4 Hr4 hr4=>?_
     refine C_ List.perm_append_comm ?_
     have hq4:=zsa hr4
     refine cr_ hq4 aZ_ fun tad tcp htad hctad hmtad hztad=>?_
     subst htad
     refine f_ (wi_ ((([]:List Pc)++p)++(cD_ S)) tad tcp 20000 (fun z hz=>hsmp z (by rwa [List.nil_append]at hz)) (by simp only[List.length_append,List.length_nil];omega)) rfl g_ zf rfl fun⟨⟨c,gg⟩,hA1⟩=>?_
     dsimp only
     dsimp only at hA1
     rw[List.nil_append]at hA1
     refine d_ (t_ rfl) rfl ?_
     refine d_ (bs_ rfl rfl) rfl ?_
     refine d_ (bs_ rfl rfl) rfl ?_
     refine K_ Tryz.zeroValue61 rfl fun b2=>?_
     refine x_ 0 aK_ rfl rfl rfl rfl rfl rfl ?_
     refine d_ (W_ rfl) rfl ?_
     refine aa_ ?_
     refine G_ rfl ?_
     refine X_ ?_
     refine I_ ?_
     refine jV_ q_ F_ rfl fun b3=>?_
     refine C_ e_ ?_
     refine d_ (t_ rfl) rfl ?_
     refine eS_ (news:=List.flatMap Pc.cells (ex_ 0 (bR_ ls R))) hY_ (ll_ b3 58 10) rfl rfl hqc.2.2 hqc.1 o_ (by rw[em_ Pc.cells 10 Pc.cells_len]) zf (fun u hu=>bd_ Pc.cells_one hu) (by simp only[maxLen];(first|omega|((try simp only[List.length_append,List.length_cons,List.length_nil]);omega))) (by (first|omega|((try simp only[List.length_append,List.length_cons,List.length_nil]);omega))) rfl fun sv5 Hr5 hr5=>?_
     refine C_ List.perm_append_comm ?_
     have hq5:aL_ 58 10 sv5 (List.length (([]:List Pc)++(ex_ 0 (bR_ ls R)))) (List.flatMap Pc.cells (([]:List Pc)++(ex_ 0 (bR_ ls R)))) Hr5:=by rw[List.length_append,List.flatMap_append];exact hr5
     refine d_ (t_ rfl) rfl ?_
     refine eS_ (news:=List.flatMap Pc.cells (cD_ S)) hY_ hq5 rfl rfl hznad hcnad M_ (by rw[em_ Pc.cells 10 Pc.cells_len]) zf (fun u hu=>bd_ Pc.cells_one hu) (by simp only[maxLen];(first|omega|((try simp only[List.length_append,List.length_cons,List.length_nil]);omega))) (by (first|omega|((try simp only[List.length_append,List.length_cons,List.length_nil]);omega))) rfl fun sv6 Hr6 hr6=>?_
     refine C_ List.perm_append_comm ?_
     have hq6:=zsa hr6
     refine cr_ hq6 M_ fun uad ucp huad hcuad hmuad hzuad=>?_
     subst huad
     refine f_ (wi_ ((([]:List Pc)++(ex_ 0 (bR_ ls R)))++(cD_ S)) uad ucp 20000 (fun z hz=>hsmq z (by rwa [List.nil_append]at hz)) (by simp only[List.length_append,List.length_nil];omega)) rfl g_ (fun v _ h=>by exact⟨h.1,h.2.2.2.2.2.2.2.2.2.2.2.2.2.1,trivial⟩) rfl fun⟨⟨d,hh⟩,hA2⟩=>?_
     dsimp only
     dsimp only at hA2
     rw[List.nil_append]at hA2
     refine d_ (t_ rfl) rfl ?_
     refine d_ (bs_ rfl rfl) rfl ?_
     refine d_ (bs_ rfl rfl) rfl ?_
     refine K_ Tryz.zeroValue61 rfl fun b4=>?_
     refine x_ 0 aK_ rfl rfl rfl rfl rfl rfl ?_
     refine d_ (W_ rfl) rfl ?_
     refine aa_ ?_
     refine G_ rfl ?_
     refine X_ ?_
     refine X_ ?_
     have hlaw:=sK_ hA1 hA2 (by rw[hpf];exact ni_ h12 hok hck hvS hS8) (ni_ hM12 hMo hMc hvS hS8) (by rw[hpf,hRm,hpf];exact qC_ h12 hok hck) (by rw[hpf];exact pi_)
     refine I_ ?_
     refine d_ (t_ rfl) rfl ?_
     refine D_ (bS_ rfl rfl) rfl fun r5 hr5=>?_
     refine aa_ ?_
     refine G_ rfl ?_
     cases r5
     ·replace hr5:=dn_ hr5
      have hcl:c.facts.length≤20000∧d.facts.length≤20000:=by rcases hlaw with q|⟨_,_,q1,q2,_⟩;omega;exact⟨q1,q2⟩
      refine aW_ rfl ?_
      refine bt_ ?_
      refine G_ rfl ?_
      refine X_ ?_
      refine X_ ?_
      refine I_ ?_
      refine d_ (t_ rfl) rfl ?_
      refine D_ (bS_ rfl rfl) rfl fun r6 hr6=>?_
      refine aa_ ?_
      refine G_ rfl ?_
      cases r6
      ·replace hr6:=dn_ hr6
       refine aW_ rfl ?_
       refine bt_ ?_
       refine G_ rfl ?_
       refine X_ ?_
       refine X_ ?_
       refine I_ ?_
       refine d_ (W_ rfl) rfl ?_
       refine aa_ ?_
       refine G_ rfl ?_
       refine cy_ ?_
       refine ai_ (ι:={y:Nat // y≤List.length S}) (fun y=>[(0,.slice lad (List.length ls) lcap),(1,.slice sad (List.length S) scap),(4,.bool false),(5,.slice q1 (List.length R) c1),(7,.slice mad (List.length (bR_ ls R)) mcap),(8,.int .i64 (i:Int)),(9,.slice pad (List.length p) pcap),(11,.slice qad (List.length (ex_ 0 (bR_ ls R))) qcap),(13,.slice nad (List.length (cD_ S)) ncap),(14,.int .i64 (j:Int)),(15,zp_ b2 0),(17,zp_ b4 0),(19,.int .i64 (y.1:Int))]) (fun y=>((b4,.cells #[.slice d.aad (List.length d.atoms) d.acap,.slice d.fad (List.length d.facts) d.fcap] 61 (0,0))::((b2,.cells #[.slice c.aad (List.length c.atoms) c.acap,.slice c.fad (List.length c.facts) c.fcap] 61 (0,0))::[]))) (fun y=>[al_ d.aad (List.flatMap aE_ d.atoms),al_ d.fad (List.flatMap Fc.cells d.facts),al_ uad (List.flatMap Pc.cells ((([]:List Pc)++(ex_ 0 (bR_ ls R)))++(cD_ S))),al_ c.aad (List.flatMap aE_ c.atoms),al_ c.fad (List.flatMap Fc.cells c.facts),al_ tad (List.flatMap Pc.cells ((([]:List Pc)++p)++(cD_ S))),al_ nad (List.flatMap Pc.cells (cD_ S)),al_ qad (List.flatMap Pc.cells (ex_ 0 (bR_ ls R))),al_ pad (List.flatMap Pc.cells p),dw_ mad (bR_ ls R),al_ mad (List.flatMap Ax.cells (bR_ ls R)),al_ q1 (List.flatMap ew_ R),dw_ lad ls,al_ sad (List.flatMap aE_ S),cq_,jK_]) (fun y=>List.length S - y.1) ⟨(0:Nat),by simp⟩ zl zp zh ?_
       rintro ⟨k,hi_k⟩
       dsimp only at hi_k ⊢
       refine X_ ?_
       refine X_ ?_
       refine I_ ?_
       refine d_ (t_ rfl) rfl ?_
       refine d_ (t_ rfl) rfl ?_
       refine d_ (dp_ n_ rfl) rfl ?_
       refine D_ (dg_ rfl rfl) rfl fun r7 hr7=>?_
       refine aa_ ?_
       refine G_ rfl ?_
       cases r7
       ·replace hr7:=zdf hr7
        refine aW_ rfl ?_
        refine fC_ rfl ?_
        refine G_ rfl ?_
        refine X_ ?_
        refine I_ ?_
        refine d_ (W_ rfl) rfl ?_
        refine aa_ ?_
        refine G_ rfl ?_
        refine eK_ ?_
        exact N_ nA_ () rfl g_ zt
       replace hr7:=zdt hr7
       have hls1:k<List.length S:=by omega
       obtain⟨s1,hs1⟩:∃ e0,S[k]? = some e0:=⟨_,List.getElem?_eq_getElem hls1⟩
       have hms1:s1∈S:=List.mem_of_getElem? hs1
       refine bg_ rfl ?_
       refine bt_ ?_
       refine G_ rfl ?_
       refine X_ ?_
       refine cy_ ?_
       refine X_ ?_
       refine jN_ zk ?_
       refine z_ 4 [0,1,2,3,4,6,7,8,9,10] zk zs ?_
       refine P_ rfl (bz_ 1 cU_ aK_ rfl rfl rfl) rfl ?_
       refine P_ rfl (t_ rfl) rfl ?_
       refine P_ rfl (t_ rfl) rfl ?_
       refine P_ rfl (L_ n_ O_ rfl rfl (fun v _ h=>y_ (n:=1) at_ (by decide) (by exact h.2.2.2.2.2.2.2.2.2.2.2.2.2.1) hs1) (by omega) (by first|omega|(simp;done))) rfl ?_
       refine P_ rfl (ba_ (ad:=sad) av_ rfl (fun v _ h=>by exact h.2.2.2.2.2.2.2.2.2.2.2.2.2.1) (u_ at_ hs1 0 _ rfl)) rfl ?_
       refine P_ rfl (bz_ 0 cU_ aK_ rfl rfl rfl) rfl ?_
       refine P_ rfl (t_ rfl) rfl ?_
       refine P_ rfl (t_ rfl) rfl ?_
       refine P_ rfl (L_ n_ O_ rfl rfl (fun v _ h=>y_ (n:=1) at_ (by decide) (by exact h.2.2.2.2.2.2.2.2.2.2.2.2.2.1) hs1) (by omega) (by first|omega|(simp;done))) rfl ?_
       refine P_ rfl (ba_ (ad:=sad) av_ rfl (fun v _ h=>by exact h.2.2.2.2.2.2.2.2.2.2.2.2.2.1) (u_ at_ hs1 0 _ rfl)) rfl ?_
       refine bA_ ?_
       refine j_ 5 rfl zk ?_
       refine f_ (nn_ c s1 (by omega)) rfl g_ zf rfl fun⟨⟨yad,yac⟩,hya⟩=>?_
       dsimp only
       refine aa_ ?_
       refine bJ_ rfl ?_
       refine H_ zs ?_
       refine j_ 11 rfl zk ?_
       refine f_ (nn_ d s1 (by omega)) rfl g_ zf rfl fun⟨⟨ybd,ybc⟩,hyb⟩=>?_
       dsimp only
       refine aa_ ?_
       refine bJ_ rfl ?_
       refine H_ zs ?_
       refine j_ 12 rfl zk ?_
       refine aj_ (sM_ (dx_ c.facts s1) (dx_ d.facts s1) yad ybd yac ybc (by have:=List.length_filter_le (fun y:Fc=>decide (y.a=s1)) c.facts;unfold dx_;omega) (by have:=List.length_filter_le (fun y:Fc=>decide (y.a=s1)) d.facts;unfold dx_;omega)) rfl g_ zf rfl fun r8 hr8=>?_
       refine aa_ ?_
       refine bJ_ rfl ?_
       refine H_ zs ?_
       refine z_ 0 [13] zk zs ?_
       refine P_ rfl (bb_ rfl) rfl ?_
       refine bA_ ?_
       refine gp_ zk ?_
       refine G_ rfl ?_
       cases r8
       ·replace hr8:=zdf hr8
        exfalso;rcases hlaw with q|⟨_,_,_,_,q⟩;omega;exact absurd (q s1 hms1) (by assumption)
       replace hr8:=zdt hr8
       refine aW_ rfl ?_
       refine bt_ ?_
       refine G_ rfl ?_
       refine I_ ?_
       refine d_ (t_ rfl) rfl ?_
       refine d_ (aT_ rfl rfl rfl (bK_ (by omega) (by omega))) rfl ?_
       refine d_ (W_ rfl) rfl ?_
       refine aa_ ?_
       refine bJ_ rfl ?_
       exact J_ ⟨k+1,hls1⟩ (by dsimp only;omega) zl zp (fun _ _ h=>h.2.2)
      replace hr6:=dl_ hr6
      exfalso;rcases hlaw with q|⟨q,q2,_⟩<;>omega
     replace hr5:=dl_ hr5
     refine bg_ rfl ?_
     refine X_ ?_
     refine I_ ?_
     refine d_ (t_ rfl) rfl ?_
     refine D_ (aI_ rfl rfl) rfl fun r9 hr9=>?_
     refine d_ (t_ rfl) rfl ?_
     cases r9
     ·replace hr9:=znb hr9
      refine aF_ rfl rfl ?_
      refine d_ (t_ rfl) rfl ?_
      refine aF_ rfl rfl ?_
      refine D_ (aI_ rfl rfl) rfl fun r10 hr10=>?_
      refine d_ (ct_ rfl rfl) rfl ?_
      refine d_ (W_ rfl) rfl ?_
      refine aa_ ?_
      refine G_ rfl ?_
      refine eK_ ?_
      exact N_ nA_ () (m_ rfl (by rw[← hr10];simp only[beq_iff_eq];rcases hlaw with q|⟨q,_⟩<;>omega)) g_ zt
     replace hr9:=zeb hr9
     refine ec_ rfl rfl rfl rfl ?_
     refine ec_ rfl rfl rfl rfl ?_
     refine d_ (ci_ rfl rfl) rfl ?_
     refine d_ (W_ rfl) rfl ?_
     refine aa_ ?_
     refine G_ rfl ?_
     refine eK_ ?_
     exact N_ nA_ () rfl g_ zt
    replace hr4:=zdt hr4
    have hls1:j<List.length S:=by omega
    obtain⟨s1,hs1⟩:∃ e0,S[j]? = some e0:=⟨_,List.getElem?_eq_getElem hls1⟩
    have hms1:s1∈S:=List.mem_of_getElem? hs1
    refine bg_ rfl ?_
    refine bt_ ?_
    refine G_ rfl ?_
    refine X_ ?_
    refine cy_ ?_
    refine I_ ?_
    refine d_ (t_ rfl) rfl ?_
    refine d_ (t_ rfl) rfl ?_
    refine d_ (t_ rfl) rfl ?_
    refine d_ (L_ n_ O_ rfl rfl (fun v _ h=>y_ (n:=1) at_ (by decide) (by exact h.2.2.2.2.2.2.1) hs1) (by omega) (by first|omega|(simp;done))) rfl ?_
    refine d_ (ba_ (ad:=sad) av_ rfl zf (u_ at_ hs1 0 _ rfl)) rfl ?_
    refine d_ (w_ dA_ rfl rfl) rfl ?_
    refine E_ q_ F_ Z_ rfl rfl rfl rfl rfl rfl fun b5=>?_
    refine aG_ (news:=List.flatMap Pc.cells [(Pc.mk 1 s1 [] [42] [] [] [] 0 0 (-1))]) hY_ hr_N rfl rfl M_ rfl (bM_ 0 rfl) (fun u hu=>bd_ Pc.cells_one hu) (by simp only[maxLen];(first|omega|((try simp only[List.length_append,List.length_cons,List.length_nil]);omega))) (by (first|omega|((try simp only[List.length_append,List.length_cons,List.length_nil]);omega))) rfl fun sv7 Hr7 hr7=>?_
    refine C_ List.perm_append_comm ?_
    have hq7:=zsa hr7
    refine d_ (W_ rfl) rfl ?_
    refine aa_ ?_
    refine G_ rfl ?_
    refine I_ ?_
    refine d_ (t_ rfl) rfl ?_
    refine d_ (aT_ rfl rfl rfl (bK_ (by omega) (by omega))) rfl ?_
    refine d_ (W_ rfl) rfl ?_
    refine aa_ ?_
    refine bJ_ rfl ?_
    exact J_ ⟨(j+1,sv7,Hr7),hls1,(by rw[tU_ hs1];exact hq7)⟩ (by dsimp only;omega) zl M_ zh
   replace hr3:=dl_ hr3
   exact absurd her hr3
  replace hr2:=zdt hr2
  obtain⟨hlx1,x1,hx1,hmx1⟩:=zge (show i<List.length R by omega)
  have hx10:=mat_at (l:=ls) (p:=p) (S:=S) (i:=i) (x:=x1) (by rw[← hRm];exact hx1)
  have hlz1:(Int.toNat x1)<List.length ls:=by omega
  obtain⟨z1,hz1⟩:∃ e0,ls[(Int.toNat x1)]? = some e0:=⟨_,List.getElem?_eq_getElem hlz1⟩
  have hmz1:z1∈ls:=List.mem_of_getElem? hz1
  refine bg_ rfl ?_
  refine bt_ ?_
  refine G_ rfl ?_
  refine X_ ?_
  refine cy_ ?_
  refine X_ ?_
  refine X_ ?_
  refine jN_ zk ?_
  refine z_ 24 [0,1,2,3,4,5] zk zs ?_
  refine P_ rfl (t_ rfl) rfl ?_
  refine P_ rfl (t_ rfl) rfl ?_
  refine P_ rfl (L_ ac_ ao_ rfl rfl (fun v _ h=>y_ (n:=1) be_ (by decide) (by exact h.1) hx1) (by omega) (by first|omega|(simp;done))) rfl ?_
  refine P_ rfl (ba_ (ad:=q1) aS_ rfl zf (u_ be_ hx1 0 _ rfl)) rfl ?_
  refine gt_ rfl (dg_ rfl rfl) rfl fun r11 hr11=>?_
  refine P_ rfl (t_ rfl) rfl ?_
  refine bA_ ?_
  cases r11
  ·replace hr11:=zdf hr11
   refine z_ 15 [6,7,8,9,10,11,12,13,14] zk zs ?_
   refine bZ_ rfl rfl rfl (t_ rfl) rfl ?_
   refine bZ_ rfl rfl rfl (t_ rfl) rfl ?_
   refine bZ_ rfl rfl rfl (L_ ac_ ao_ rfl rfl (fun v _ h=>y_ (n:=1) be_ (by decide) (by exact h.1) hx1) (by omega) (by first|omega|(simp;done))) rfl ?_
   refine bZ_ rfl rfl rfl (ba_ (ad:=q1) aS_ rfl zf (u_ be_ hx1 0 _ rfl)) rfl ?_
   refine bZ_ rfl rfl rfl (t_ rfl) rfl ?_
   refine bZ_ rfl rfl rfl (dp_ Q_ rfl) rfl ?_
   refine gO_ rfl rfl rfl (gr_ rfl rfl) rfl fun r12 hr12=>?_
   refine P_ rfl (ct_ rfl rfl) rfl ?_
   refine P_ rfl (t_ rfl) rfl ?_
   refine bA_ ?_
   cases r12
   ·replace hr12:=zdf hr12
    refine z_ 12 [15,16,17] zk zs ?_
    refine bZ_ rfl rfl rfl (t_ rfl) rfl ?_
    refine gO_ rfl rfl rfl (ea_ rfl rfl) rfl fun r13 hr13=>?_
    refine bZ_ rfl rfl rfl (t_ rfl) rfl ?_
    refine bA_ ?_
    cases r13
    ·replace hr13:=zdf hr13
     refine z_ 0 [18,19,20,21,22,23,24,25,26,27,28,29] zk zs ?_
     refine hL_ rfl rfl rfl rfl rfl ?_
     refine hL_ rfl rfl rfl rfl rfl ?_
     refine hL_ rfl rfl rfl rfl rfl ?_
     refine hL_ rfl rfl rfl rfl rfl ?_
     refine hL_ rfl rfl rfl rfl rfl ?_
     refine hL_ rfl rfl rfl rfl rfl ?_
     refine hL_ rfl rfl rfl rfl rfl ?_
     refine hL_ rfl rfl rfl rfl rfl ?_
     refine hL_ rfl rfl rfl rfl rfl ?_
     refine hL_ rfl rfl rfl rfl rfl ?_
     refine bZ_ rfl rfl rfl (ct_ rfl rfl) rfl ?_
     refine P_ rfl (ct_ rfl rfl) rfl ?_
     refine bA_ ?_
     refine gp_ zk ?_
     refine G_ rfl ?_
     refine aW_ rfl ?_
     refine bt_ ?_
     refine G_ rfl ?_
     refine I_ ?_
     refine d_ (t_ rfl) rfl ?_
     refine d_ (t_ rfl) rfl ?_
     refine d_ (t_ rfl) rfl ?_
     refine d_ (t_ rfl) rfl ?_
     refine d_ (L_ ac_ ao_ rfl rfl (fun v _ h=>y_ (n:=1) be_ (by decide) (by exact h.1) hx1) (by omega) (by first|omega|(simp;done))) rfl ?_
     refine d_ (ba_ (ad:=q1) aS_ rfl zf (u_ be_ hx1 0 _ rfl)) rfl ?_
     refine d_ (L_ Q_ S_ rfl rfl (fun v _ h=>y_ (n:=16) Ax.cells_len (by decide) (by exact h.2.1.1) hz1) (by omega) (by first|omega|(simp;done))) rfl ?_
     refine d_ (af_ (ad:=lad) (us:=Ax.cells z1) bI_ S_ rfl (fun v _ h=>by exact h.2.1.1) (Ax.cells_len _) (u_ Ax.cells_len hz1)) rfl ?_
     refine E_ Q_ S_ bc_ rfl rfl rfl rfl rfl rfl fun b6=>?_
     refine aG_ (news:=List.flatMap Ax.cells [z1]) oc_ hr_Q rfl rfl M_ rfl (bM_ 0 rfl) (fun u hu=>bd_ Ax.cells_one hu) (by simp only[maxLen];(first|omega|((try simp only[List.length_append,List.length_cons,List.length_nil]);omega))) (by (first|omega|((try simp only[List.length_append,List.length_cons,List.length_nil]);omega))) rfl fun sv8 Hr8 hr8=>?_
     refine C_ List.perm_append_comm ?_
     have hq8:=zsa hr8
     refine d_ (W_ rfl) rfl ?_
     refine aa_ ?_
     refine G_ rfl ?_
     refine I_ ?_
     refine d_ (t_ rfl) rfl ?_
     refine d_ (aT_ rfl rfl rfl (bK_ (by omega) (by omega))) rfl ?_
     refine d_ (W_ rfl) rfl ?_
     refine aa_ ?_
     refine bJ_ rfl ?_
     exact J_ ⟨(i+1,sv8,Hr8),hlx1,(by rw[lu_ hx1 hz1];exact hq8)⟩ (by dsimp only;omega) zl M_ zh
    replace hr13:=zdt hr13
    obtain⟨hlx2,x2,hx2,hmx2⟩:=zge (show (Int.toNat ((i:Int) - 1))<List.length R by omega)
    have hup:=mat_up (l:=ls) (p:=p) (S:=S) (i:=i) (x:=x1) (z:=x2) (by rw[← hRm];exact hx1) (by rw[← hRm,show i - 1=Int.toNat ((i:Int) - 1) by omega];exact hx2) (by omega)
    refine z_ 0 [18,19,20,21,22,23,24,25,26,27,28,29] zk zs ?_
    refine bZ_ rfl rfl rfl (t_ rfl) rfl ?_
    refine bZ_ rfl rfl rfl (t_ rfl) rfl ?_
    refine bZ_ rfl rfl rfl (L_ ac_ ao_ rfl rfl (fun v _ h=>y_ (n:=1) be_ (by decide) (by exact h.1) hx1) (by omega) (by first|omega|(simp;done))) rfl ?_
    refine bZ_ rfl rfl rfl (ba_ (ad:=q1) aS_ rfl zf (u_ be_ hx1 0 _ rfl)) rfl ?_
    refine bZ_ rfl rfl rfl (t_ rfl) rfl ?_
    refine bZ_ rfl rfl rfl (t_ rfl) rfl ?_
    refine bZ_ rfl rfl rfl (aT_ rfl rfl rfl (bK_ (by omega) (by omega))) rfl ?_
    refine bZ_ rfl rfl rfl (L_ ac_ ao_ rfl rfl (fun v _ h=>y_ (n:=1) be_ (by decide) (by exact h.1) hx2) (by omega) (by first|omega|(simp;done))) rfl ?_
    refine bZ_ rfl rfl rfl (ba_ (ad:=q1) aS_ rfl zf (u_ be_ hx2 0 _ rfl)) rfl ?_
    refine gO_ rfl rfl rfl (fu_ rfl rfl) rfl fun r14 hr14=>?_
    refine bZ_ rfl rfl rfl (ci_ rfl rfl) rfl ?_
    refine P_ rfl (ct_ rfl rfl) rfl ?_
    refine bA_ ?_
    refine gp_ zk ?_
    refine G_ rfl ?_
    cases r14
    ·replace hr14:=zdf hr14
     refine aW_ rfl ?_
     refine bt_ ?_
     refine G_ rfl ?_
     refine I_ ?_
     refine d_ (t_ rfl) rfl ?_
     refine d_ (t_ rfl) rfl ?_
     refine d_ (t_ rfl) rfl ?_
     refine d_ (t_ rfl) rfl ?_
     refine d_ (L_ ac_ ao_ rfl rfl (fun v _ h=>y_ (n:=1) be_ (by decide) (by exact h.1) hx1) (by omega) (by first|omega|(simp;done))) rfl ?_
     refine d_ (ba_ (ad:=q1) aS_ rfl zf (u_ be_ hx1 0 _ rfl)) rfl ?_
     refine d_ (L_ Q_ S_ rfl rfl (fun v _ h=>y_ (n:=16) Ax.cells_len (by decide) (by exact h.2.1.1) hz1) (by omega) (by first|omega|(simp;done))) rfl ?_
     refine d_ (af_ (ad:=lad) (us:=Ax.cells z1) bI_ S_ rfl (fun v _ h=>by exact h.2.1.1) (Ax.cells_len _) (u_ Ax.cells_len hz1)) rfl ?_
     refine E_ Q_ S_ bc_ rfl rfl rfl rfl rfl rfl fun b7=>?_
     refine aG_ (news:=List.flatMap Ax.cells [z1]) oc_ hr_Q rfl rfl M_ rfl (bM_ 0 rfl) (fun u hu=>bd_ Ax.cells_one hu) (by simp only[maxLen];(first|omega|((try simp only[List.length_append,List.length_cons,List.length_nil]);omega))) (by (first|omega|((try simp only[List.length_append,List.length_cons,List.length_nil]);omega))) rfl fun sv9 Hr9 hr9=>?_
     refine C_ List.perm_append_comm ?_
     have hq9:=zsa hr9
     refine d_ (W_ rfl) rfl ?_
     refine aa_ ?_
     refine G_ rfl ?_
     refine I_ ?_
     refine d_ (t_ rfl) rfl ?_
     refine d_ (aT_ rfl rfl rfl (bK_ (by omega) (by omega))) rfl ?_
     refine d_ (W_ rfl) rfl ?_
     refine aa_ ?_
     refine bJ_ rfl ?_
     exact J_ ⟨(i+1,sv9,Hr9),hlx1,(by rw[lu_ hx1 hz1];exact hq9)⟩ (by dsimp only;omega) zl M_ zh
    replace hr14:=zdt hr14
    exfalso;omega
   replace hr12:=zdt hr12
   exfalso;omega
  replace hr11:=zdt hr11
  exfalso;omega
 replace hr1:=dl_ hr1
 refine bg_ rfl ?_
 refine X_ ?_
 refine I_ ?_
 refine d_ (W_ rfl) rfl ?_
 refine aa_ ?_
 refine G_ rfl ?_
 refine eK_ ?_
 exact N_ nA_ () rfl g_ zt
end Go.Proofs.YtamklbgaipakfaaGreatDoor
namespace Go.Proofs.YtamklbgaipakfaaGreatDoor
open Go Go.Sx Go.Proofs
attribute [local irreducible] Code.wp wpList wpAnyH
open Go.Vs Go.ChangeShapes Go.WideShapes Go.ChangeAt Go.RowKit
theorem own:ownKnob Tryz.prog.godebug=none:=by kernel_rfl
def gy_ : List (String × DataW Unit) := [("math/bits.deBruijn32tab", Rows.laid_math_bits_deBruijn32tab), ("math/bits.deBruijn64tab", Rows.laid_math_bits_deBruijn64tab), ("internal/strconv.uint64pow10", Rows.laid_internal_strconv_uint64pow10), ("unicode/utf8.acceptRanges", Rows.laid_unicode_utf8_acceptRanges), ("veilstone/terms.needs", Rows.laid_veilstone_terms_needs), ("veilstone/terms.uses", Rows.laid_veilstone_terms_uses), ("veilstone/normal.uses", Rows.laid_veilstone_normal_uses), ("unicode/utf8.first", Rows.laid_unicode_utf8_first)]
theorem ub_:Kids Tryz.prog (·<Tryz.prog.types.size):=kids_rows (by kernel_rfl) (by kernel_rfl)
theorem full:∀ t e,t<Tryz.prog.types.size→Tryz.prog.underlying t=some (.slice e)→0<Tryz.prog.cellsOf e:=slices_full_of _ (by kernel_rfl)
theorem lF_:Tryz.prog.types.size=376:=by kernel_rfl
theorem tysX:Tys Tryz.prog 3 4 9 23 46 44 48 22 58 54 where
  i:=B_
  b:=Tryz.underlying4
  s:=aV_
  ss:=hK_
  c:=⟨_,Tryz.underlying46,rfl⟩
  cs:=Tryz.underlying44
  a:=⟨_,Tryz.underlying48,rfl⟩
  axs:=Tryz.underlying22
  p:=⟨_,fP_,rfl⟩
  ps:=Tryz.underlying54
  ci:=by kernel_rfl
  cb:=by kernel_rfl
  cs1:=by kernel_rfl
  css:=by kernel_rfl
  cc:=by kernel_rfl
  ccs:=by kernel_rfl
  ca:=by kernel_rfl
  cp:=by kernel_rfl
  bs:=by kernel_rfl
  bc:=by kernel_rfl
  ba:=by kernel_rfl
  bp:=by kernel_rfl
theorem kE_ {W:World} (h:laidMetH Tryz.prog gy_ W):∃ T fz,W.heap[3]? = some (.cells (fr_ (H:=Unit) Rows.laid_veilstone_terms_needs).toArray T fz):=by
  rw[MakeChecks.laidMetH_plain _ _ _ zk]at h
  exact jc_ ub_ (name := "veilstone/terms.needs") h (by simp [gy_]) (g := 3) (t := 288) zk zk (by rw [lF_]; decide) (m := 4) zk
theorem lh_ {W:World} (h:laidMetH Tryz.prog gy_ W):∃ T fz,W.heap[0]? = some (.cells (fr_ (H:=Unit) Rows.laid_veilstone_terms_uses).toArray T fz):=by
  rw[MakeChecks.laidMetH_plain _ _ _ zk]at h
  exact jc_ ub_ (name := "veilstone/terms.uses") h (by simp [gy_]) (g := 0) (t := 151) zk zk (by rw [lF_]; decide) (m := 4) zk
theorem kF_ {W:World} (h:laidMetH Tryz.prog gy_ W):∃ T fz,W.heap[1]? = some (.cells (fr_ (H:=Unit) Rows.laid_veilstone_normal_uses).toArray T fz):=by
  rw[MakeChecks.laidMetH_plain _ _ _ zk]at h
  exact jc_ ub_ (name := "veilstone/normal.uses") h (by simp [gy_]) (g := 1) (t := 247) zk zk (by rw [lF_]; decide) (m := 4) zk
theorem gL_ {W:World} (h:laidMetH Tryz.prog gy_ W):∃ T fz,W.heap[6]? = some (.cells (fr_ (H:=Unit) Rows.laid_internal_strconv_uint64pow10).toArray T fz):=by
  rw[MakeChecks.laidMetH_plain _ _ _ zk]at h
  exact jc_ ub_ (name := "internal/strconv.uint64pow10") h (by simp [gy_]) (g := 6) (t := 359) zk zk (by rw [lF_]; decide) (m := 4) zk
theorem nz_ {W:World} {g:Nat} {l:List Value} {d:List Value} (h:∃ T fz,W.heap[g]? = some (.cells l.toArray T fz)) (e:l=d):bY_ (vw W) (some ⟨g,0,none⟩) d:=by
  obtain⟨T,fz,h⟩:=h
  subst e
  exact .inr ⟨g,0,_,T,fz,rfl,(Array.getElem?_eq_some_iff.1 h).1,h,fun j x hj=>by rw[Nat.zero_add];simpa using hj⟩
theorem uU_ {W:World} (h:laidMetH Tryz.prog gy_ W):cq_.p (vw W):=by
  refine⟨nz_ (kE_ h) zk,nz_ (lh_ h) zk,trivial,?_⟩
  obtain⟨T,fz,h2⟩:=gL_ h
  refine⟨trivial,(Array.getElem?_eq_some_iff.1 h2).1,T,fz,?_⟩
  rw[show (Lib.pow10Tab.map fun z=>Value.int .u64 z)=fr_ (H:=Unit) Rows.laid_internal_strconv_uint64pow10 by kernel_rfl]
  exact h2
theorem uV_ {W:World} (h:laidMetH Tryz.prog gy_ W):jK_.p (vw W):=nz_ (kF_ h) (by kernel_rfl)
end Go.Proofs.YtamklbgaipakfaaGreatDoor
