/-
  Part of the proof of the law ProofFindSpec over this seat: the small logic, the data, the contracts of functions (no condition).
-/
import Derived.Test.YtkeanlfhghlgiaaGreatDoorQProofFindSpec16
set_option linter.unusedVariables false
set_option linter.unusedSimpArgs false
set_option linter.unusedSectionVars false
set_option maxHeartbeats 1000000
namespace Go.Proofs.YtkeanlfhghlgiaaGreatDoor
open Go Go.Sx Go.Proofs
attribute [local irreducible] Code.wp wpList wpAnyH
open Go.Vs
theorem sN_ {p:List Pc} {f:Fc} {bu:Int} {Y:List Stp} {e:Int} (h:eN_ p f bu Y e) (he:e=0):PrvH p f Y:=by
 subst he
 unfold eN_ at h
 by_cases hw:wfB f=false
 ·rw[if_pos hw]at h;exact absurd h.1 (by decide)
 rw[if_neg hw]at h
 obtain⟨c,e0,hA,h⟩:=h
 by_cases h0:e0=0
 ·subst h0
  rw[if_pos rfl]at h
  by_cases hd:jZ_ c.facts f=false
  ·rw[if_pos hd]at h;exact absurd h.1 (by decide)
  rw[if_neg hd]at h
  obtain⟨_,L,hP,hl,hT⟩:=h
  exact rQ_ (kB_ hP hT) (hR_ hA.good.1) (by simpa using hw) (by have:=(is_ hP hT).le;omega)
 rw[if_neg h0]at h;exact absurd h.1.symm h0
theorem sO_ {p:List Pc} {f:Fc} {bu:Int} {Y:List Stp} {e:Int} (h:eN_ p f bu Y e) (he:e≠0):Y=[]:=by
 unfold eN_ at h
 by_cases hw:wfB f=false
 ·rw[if_pos hw]at h;exact h.2
 rw[if_neg hw]at h
 obtain⟨c,e0,hA,h⟩:=h
 by_cases h0:e0=0
 ·rw[if_pos h0]at h
  by_cases hd:jZ_ c.facts f=false
  ·rw[if_pos hd]at h;exact h.2
  rw[if_neg hd]at h;exact absurd h.1 he
 rw[if_neg h0]at h;exact h.2
theorem pg_ (p:List Pc) (pad:Option Addr) (pcap:Nat) (f:Fc) (bu:Int) (hp:p.length≤1099511627744) (hbig:∀ x∈p,x.big) (hfa:f.a.length≤844424930107392) (hfb:f.b.length≤844424930107392) (hfr:f.r.length≤844424930107392):Tri Tryz.prog 3 #[.slice pad (List.length p) pcap,Fc.val f,.int .i64 bu] [] [af_ pad (List.flatMap Pc.cells p),jV_] (fun _:Unit=>.bool true) (fun _=>[]) (fun _=>[]):=by
 refine x_ Tryz.func3 rfl rfl Tryz.ntmps3 rfl fun v0=>?_
 refine Zz 2 ?_
 refine ay_ rfl rfl fun b1=>Zz 6 ?_
 refine o_ (rx_) rfl j_ zf rfl fun _=>i_ (bC_ rfl) rfl (Zz 9 ?_)
 refine o_ (uf_ p pad pcap 14 hp hbig) rfl j_ zf rfl fun⟨fw,hfw⟩=>?_
 dsimp only
 refine i_ (bC_ rfl) rfl (Zz 1 ?_)
 cases fw
 ·refine Zz 22 ?_
  exact S_ Tryz.results3 () rfl j_ zt
 obtain⟨h14q,hsm⟩:=hfw rfl
 have h14:p.length≤14:=by omega
 refine Zz 5 ?_
 refine i_ (bG_ C_ rfl) rfl (Zz 5 ?_)
 refine i_ (bG_ C_ rfl) rfl (Zz 7 ?_)
 refine i_ (bG_ C_ rfl) rfl (Zi 3 (fun hr1=>?_) fun hr1=>?_)
 ·refine Zz 11 ?_
  refine o_ (lq_ p pad pcap f bu hsm h14) rfl j_ zf rfl fun⟨⟨Y,yad,ycap,e⟩,hF,hYl,hYc,hYm,hYz⟩=>?_
  dsimp only
  dsimp only at hF hYl hYc hYm hYz
  refine Zz 3 ?_
  refine J_ ea_ rfl fun b2=>w_ 0 bN_ rfl rfl rfl rfl rfl rfl (Zz 10 ?_)
  refine o_ (ub_ p pad pcap f bu hsm h14) rfl j_ zf rfl fun⟨e2,hFo⟩=>?_
  dsimp only
  have hee:=pe_ hF hFo
  subst hee
  refine Zi 0 (fun hr2=>?_) fun hr2=>?_
  ·refine Zi 9 (fun hr3=>?_) fun hr3=>?_
   ·refine Zz 10 ?_
    refine o_ (kN_ p pad pcap f Y yad ycap (by omega) (sN_ hF hr3)) rfl j_ zf rfl fun _=>Zz 4 ?_
    exact S_ Tryz.results3 () rfl j_ zt
   refine Zz 8 ?_
   refine O_ (bR_ rfl rfl) rfl fun r4 hr4=>Zz 4 ?_
   exact S_ Tryz.results3 () (g_ rfl (by rw[← hr4,sO_ hF hr3];rfl)) j_ zt
  exact absurd rfl hr2
 refine Zz 10 ?_
 exact S_ Tryz.results3 () rfl j_ zt
end Go.Proofs.YtkeanlfhghlgiaaGreatDoor
