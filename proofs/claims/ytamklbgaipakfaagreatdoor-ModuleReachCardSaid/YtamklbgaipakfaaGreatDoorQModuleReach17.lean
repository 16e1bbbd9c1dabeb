/-
  Part of the proof of the law ModuleReach over this seat: the small logic, the data, the contracts of functions (no condition).
-/
import Derived.Test.YtamklbgaipakfaaGreatDoorQModuleReach16
import Derived.Test.YtamklbgaipakfaaGreatDoorQModuleReach14
import Derived.Test.YtamklbgaipakfaaGreatDoorQModuleReach9
import Derived.Test.YtamklbgaipakfaaGreatDoorQModuleReach15
import Derived.Test.YtamklbgaipakfaaGreatDoorQModuleReach8
import Derived.Test.YtamklbgaipakfaaGreatDoorQModuleReach3
import Derived.Test.YtamklbgaipakfaaGreatDoorRows
set_option linter.unusedVariables false
set_option linter.unusedSimpArgs false
set_option linter.unusedSectionVars false
set_option maxHeartbeats 1000000
namespace Go.Proofs.YtamklbgaipakfaaGreatDoor
open Go Go.Sx Go.Proofs
attribute [local irreducible] Code.wp wpList wpAnyH
open Go.Vs
theorem kl_ {S:List Str} (h:ep_ S=true):∀ s∈S,s≠[]:=fun s hs e=>by
  unfold ep_ at h
  rw[Bool.and_eq_true,List.all_eq_true]at h
  have:=h.2 s hs
  rw[e]at this
  exact absurd this (by decide)
theorem pK_ {a r f:List Str} {n:Str}:fD_ a r f ⟨1,n⟩↔n∈a:=by unfold fD_;simp
theorem nA_ (ls:List Ax) (lad:Option Addr) (lcap:Nat) (hcap:ls.length≤lcap∧lcap≤2199023255488) (hok:∀ x∈ls,x.ok) (h12:ls.length≤12) (hfw:∀ x∈ls,Ax.Few x) (S:List Str) (sad:Option Addr) (scap:Nat) (hS:S.length≤100000000) (hSl:∀ s∈S,s.length≤100000) (p:List Pc) (er:Int) (hPL:aD_ ls=(p,er)) (R:List Int) (e:Int) (hR:fp_ ls p er S=(R,e)):Tri Tryz.prog 12 #[.slice lad (List.length ls) lcap,.slice sad (List.length S) scap] [] [cH_ lad ls,aw_ sad (List.flatMap aH_ S)] (fun y:{y:Option Addr×Nat // R.length≤y.2∧y.2≤maxLen∧(y.1=none→y.2=0)}=>.tuple #[.slice y.1.1 R.length y.1.2,.int .i64 e]) (fun _=>[]) (fun y=>[aw_ y.1.1 (R.flatMap da_)]):=by
 refine o_ Tryz.func12 rfl rfl Tryz.ntmps12 rfl fun v0=>?_
 refine Zz 9 ?_
 refine i_ (kC_ ls lad lcap hcap hok h12 hfw hPL) rfl f_ zf rfl fun⟨⟨ad,cap⟩,hpc1,hpc2⟩=>?_
 dsimp only
 refine Zi 11 (fun hr1=>?_) fun hr1=>?_
 ·have hpn:=kF_ h12 hok (by rw[hPL,show er=0 by assumption])
  refine Zz 9 ?_
  refine N_ (js_ S sad scap hS hSl) rfl f_ zf rfl fun r2 hr2=>c_ (aE_ rfl) rfl (Zz 2 ?_)
  cases r2
  ·refine Zz 8 ?_
   have e0:=hR.symm.trans (jv_ (iZ_ hr1) hr2)
   obtain⟨rfl,rfl⟩:=Prod.mk.inj e0
   exact fv_ Tryz.results12 ⟨(none,0),by simp[maxLen]⟩ rfl rfl rfl f_ (fun v _ h=>by exact⟨.inl rfl,trivial⟩)
  have hSn:=kl_ (by assumption)
  refine Zz 8 ?_
  refine i_ (qK_ ls lad lcap (by omega) p ad cap S sad scap hpn.1 hSn (by have:=hpn.2;omega) hS) rfl f_ zf rfl fun⟨⟨qad,qcap⟩,hq1,hq2,hq3⟩=>?_
  dsimp only
  refine Zz 5 ?_
  have e0:=hR.symm.trans (kz_ (iZ_ hr1) hr2)
  obtain⟨rfl,rfl⟩:=Prod.mk.inj e0
  exact fv_ Tryz.results12 ⟨(qad,qcap),⟨hq1,hq2,hq3⟩⟩ rfl rfl rfl f_ zf
 refine Zz 11 ?_
 have e0:=hR.symm.trans (kA_ hr1)
 obtain⟨rfl,rfl⟩:=Prod.mk.inj e0
 exact fv_ Tryz.results12 ⟨(none,0),by simp[maxLen]⟩ rfl rfl rfl f_ (fun v _ h=>by exact⟨.inl rfl,trivial⟩)
theorem nC_ (ls:List Ax) (lad:Option Addr) (lcap:Nat) (hcap:ls.length≤lcap∧lcap≤2199023255488) (hok:∀ x∈ls,x.ok) (h12:ls.length≤12) (hfw:∀ x∈ls,Ax.Few x) (S:List Str) (sad:Option Addr) (scap:Nat) (hS:S.length≤100000000) (hSl:∀ s∈S,s.length≤100000) (p:List Pc) (er:Int) (hPL:aD_ ls=(p,er)):Tri Tryz.prog 14 #[.slice lad (List.length ls) lcap,.slice sad (List.length S) scap] [] [cH_ lad ls,aw_ sad (List.flatMap aH_ S)] (fun y:{y:List Str×Option Addr×Nat×Int // gu_ p er (ep_ S) S y.1 y.2.2.2∧y.1.length≤y.2.2.1∧y.2.2.1≤maxLen∧(y.2.1=none→y.2.2.1=0)}=>.tuple #[.slice y.1.2.1 y.1.1.length y.1.2.2.1,.int .i64 y.1.2.2.2]) (fun _=>[]) (fun y=>[aw_ y.1.2.1 (y.1.1.flatMap aH_)]):=by
 refine o_ Tryz.func14 rfl rfl Tryz.ntmps14 rfl fun v0=>?_
 refine Zz 9 ?_
 refine i_ (kC_ ls lad lcap hcap hok h12 hfw hPL) rfl f_ zf rfl fun⟨⟨ad,cap⟩,hpc1,hpc2⟩=>?_
 dsimp only
 refine Zi 11 (fun hr1=>?_) fun hr1=>?_
 ·have hpn:=kF_ h12 hok (by rw[hPL,show er=0 by assumption])
  refine Zz 9 ?_
  refine N_ (js_ S sad scap hS hSl) rfl f_ zf rfl fun r2 hr2=>c_ (aE_ rfl) rfl (Zz 2 ?_)
  cases r2
  ·refine Zz 8 ?_
   exact fv_ Tryz.results14 ⟨([],none,0,1),.inr (.inl ⟨hr1,hr2,rfl,rfl⟩),by simp[maxLen]⟩ rfl rfl rfl f_ (fun v _ h=>by exact⟨.inl rfl,trivial⟩)
  have hSn:=kl_ (by assumption)
  refine Zz 7 ?_
  refine i_ (mq_ p ad cap S sad scap hpn.1 hSn (by have:=hpn.2;omega) hS) rfl f_ zf rfl fun⟨x,hx⟩=>?_
  dsimp only
  refine c_ (nm_ cl_ rfl rfl rfl D_ rfl) rfl (Zz 5 ?_)
  exact fv_ Tryz.results14 ⟨(Rcd.a x,Rcd.aad x,Rcd.acap x,0),.inr (.inr ⟨hr1,hr2,rfl,hx.s.a,fun n=>pK_.symm.trans (hx.m _)⟩),hx.ok.a⟩ rfl rfl rfl f_ zf
 refine Zz 11 ?_
 exact fv_ Tryz.results14 ⟨([],none,0,er),.inl ⟨hr1,rfl,rfl⟩,by simp[maxLen]⟩ rfl rfl rfl f_ (fun v _ h=>by exact⟨.inl rfl,trivial⟩)
end Go.Proofs.YtamklbgaipakfaaGreatDoor
namespace Go.Proofs.YtamklbgaipakfaaGreatDoor
open Go Go.Sx Go.Proofs
attribute [local irreducible] Code.wp wpList wpAnyH
open Go.Vs
theorem iq_:iU_ Tryz.prog 48 [(0,1),(1,1),(2,5),(7,5),(12,1),(13,1),(14,1),(15,1)] [.int .i64 0,.bool false,.int .i64 0,str [],.int .i64 0,.int .i64 0,.slice none 0 0,.int .i64 0,str [],.int .i64 0,.int .i64 0,.slice none 0 0,.slice none 0 0,str [],str [],str []]:=⟨_,bm_,p_,fun w=>by simp[ab_,dZ_,O_,bw_,g_]⟩
theorem el_ (s:Str):Fn0 Tryz.prog 31 #[str s] (Con.val (Con.mk 3 s 0 0 none 0 [])):=by
  refine o_ Tryz.func31 rfl rfl Tryz.ntmps31 rfl fun v0=>?_
  refine Zz 2 ?_
  refine au_ bL_ rfl fun b1=>Zz 5 ?_
  refine c_ (S_ jl_ rfl rfl) rfl (aa_ 0 g_ rfl rfl rfl rfl rfl rfl (Zz 3 ?_))
  exact fB_ () (fun aa v h1 h2=>bZ_ (us:=Con.cells (Con.mk 3 s 0 0 none 0 [])) 0 Tryz.results31 w_ g_ rfl rfl rfl aa v h1 h2) f_ (fun v _ h=>trivial)
theorem gf_ (a b:Str):Fn0 Tryz.prog 32 #[str a,str b] (Ax.val (Ax.mk 1 false (Con.mk 3 a 0 0 none 0 []) (Con.mk 3 b 0 0 none 0 []) none 0 [] [] [] [])):=by
  refine o_ Tryz.func32 rfl rfl Tryz.ntmps32 rfl fun v0=>?_
  refine Zz 2 ?_
  refine au_ bm_ rfl fun b1=>Zz 5 ?_
  refine i_ (el_ a) rfl f_ zt rfl fun _=>Zz 1 ?_
  refine i_ (el_ b) rfl f_ zt rfl fun _=>c_ (S_ iq_ rfl rfl) rfl (aa_ 0 ad_ rfl rfl rfl rfl rfl rfl (Zz 3 ?_))
  exact fB_ () (fun aa v h1 h2=>bZ_ (us:=Ax.cells (Ax.mk 1 false (Con.mk 3 a 0 0 none 0 []) (Con.mk 3 b 0 0 none 0 []) none 0 [] [] [] [])) 0 Tryz.results32 bB_ ad_ rfl rfl rfl aa v h1 h2) f_ (fun v _ h=>trivial)
theorem ss_ (ls:List Ax) (lad:Option Addr) (lcap:Nat) (hcap:ls.length≤lcap∧lcap≤2199023255488) (hok:∀ x∈ls,x.ok):Tri Tryz.prog 9 #[.slice lad (List.length ls) lcap] [] [cH_ lad ls] (fun b:{b:Bool // b=true→ls.length≤12∧∀ x∈ls,Ax.Few x}=>.bool b.1) (fun _=>[]) (fun _=>[]):=by
  refine o_ Tryz.func9 rfl rfl Tryz.ntmps9 rfl fun v0=>?_
  refine Zz 8 ?_
  refine i_ (lJ_ ls lad lcap 12 hcap hok) rfl f_ zf rfl fun⟨r,hr⟩=>?_
  dsimp only
  refine Zz 4 ?_
  exact G_ Tryz.results9 ⟨r,fun h=>⟨by have:=(hr h).1;omega,(hr h).2⟩⟩ rfl (.refl _) zt
theorem pi_ (S:List Str) (sad:Option Addr) (scap:Nat) (hSb:S.length≤8796093021952) (hSl:∀ s∈S,s.length≤140737488351232):Tri Tryz.prog 10 #[.slice sad (List.length S) scap] [] [aw_ sad (List.flatMap aH_ S)] (fun b:{b:Bool // b=true→S.length≤8∧∀ s∈S,s.length≤300}=>.bool b.1) (fun _=>[]) (fun _=>[]):=by
 refine o_ Tryz.func10 rfl rfl Tryz.ntmps10 rfl fun v0=>?_
 refine Zi 10 (fun hr1=>?_) fun hr1=>?_
 ·refine Zz 12 ?_
  refine aO_ (ι:={y:Nat // y≤List.length S∧hG_ S y (fun _ s=>List.length s≤300)}) (fun y=>[(0,.slice sad (List.length S) scap),(2,.bool false),(3,.int .i64 (y.1:Int))]) (fun y=>([])) (fun y=>[aw_ sad (List.flatMap aH_ S)]) (fun y=>List.length S - y.1) ⟨(0:Nat),by simp,hG_.zero⟩ zl f_ zh ?_
  rintro ⟨i,hi_i,hva⟩
  dsimp only at hi_i hva ⊢
  refine Zi 6 (fun hr2=>?_) fun hr2=>?_
  ·refine Zz 11 ?_
   exact G_ Tryz.results10 ⟨true,fun _=>⟨by omega,fun s hs=>by have:=hva.all (by assumption) s hs;omega⟩⟩ rfl f_ zt
  have hls1:i<List.length S:=by omega
  obtain⟨s1,hs1⟩:∃ e0,S[i]? = some e0:=⟨_,List.getElem?_eq_getElem hls1⟩
  have hms1:s1∈S:=List.mem_of_getElem? hs1
  have hsl:=hSl _ hms1
  refine Zz 13 ?_
  refine c_ (ci_ K_ rfl) rfl ?_
  refine Zi 0 (fun hr3=>?_) fun hr3=>?_
  ·refine Zz 11 ?_
   exact R_ ⟨i+1,hls1,hva.step hs1 (by omega)⟩ (by dsimp only;omega) zl f_ zh
  refine Zz 9 ?_
  exact G_ Tryz.results10 ⟨false,fun h=>by cases h⟩ rfl f_ zt
 refine Zz 9 ?_
 exact G_ Tryz.results10 ⟨false,fun h=>by cases h⟩ rfl f_ zt
theorem pj_ (l m:List Int) (ad ae:Option Addr) (cap cpe:Nat) (hl:l.length≤17592186044414) (hm:m.length≤17592186044414):Tri Tryz.prog 15 #[.slice ad (List.length l) cap,.slice ae (List.length m) cpe] [] [aw_ ad (List.flatMap da_ l),aw_ ae (List.flatMap da_ m)] (fun _:Unit=>.bool (decide (l=m))) (fun _=>[]) (fun _=>[]):=by
 refine o_ Tryz.func15 rfl rfl Tryz.ntmps15 rfl fun v0=>?_
 refine Zi 12 (fun hr1=>?_) fun hr1=>?_
 ·refine Zz 12 ?_
  refine aN_ [(0,.slice ad (List.length l) cap),(1,.slice ae (List.length m) cpe),(5,.int .i64 ((0:Nat):Int))] zl ?_
  refine aT_ (ι:={q:Nat // q≤l.length∧l.take q=m.take q}) (fun i=>[(0,.slice ad (List.length l) cap),(1,.slice ae (List.length m) cpe),(5,.int .i64 (i.1:Int))]) (fun _=>_) (fun _=>_) (fun i=>l.length - i.1) ⟨0,by simp⟩ ?_
  rintro ⟨i,hk⟩
  refine aN_ [(0,.slice ad (List.length l) cap),(1,.slice ae (List.length m) cpe),(5,.int .i64 (i:Int))] zl ?_
  refine Zi 6 (fun hr2=>?_) fun hr2=>?_
  ·refine Zz 11 ?_
   exact G_ Tryz.results15 () (l_ rfl (by symm;apply decide_eq_true;have h2:=hk.2;rwa [List.take_of_length_le (by omega),List.take_of_length_le (by omega)]at h2)) (.refl _) zt
  obtain⟨hlx1,x1,hx1,hmx1⟩:=zge (show i<List.length l by omega)
  obtain⟨hlx2,x2,hx2,hmx2⟩:=zge (show i<List.length m by omega)
  refine Zz 9 ?_
  refine U_ 0 [0,1,2,3,4,5,6,7,8] zk zs (Zi 8 (fun hr3=>?_) fun hr3=>?_)
  ·have hxe:x1=x2:=by assumption
   refine Zz 12 ?_
   exact R_ ⟨i+1,hlx1,by rw[List.take_add_one,hx1,List.take_add_one,hx2,hk.2,hxe]⟩ (by simp;omega) zl (.refl _) zh
  refine Zz 10 ?_
  exact G_ Tryz.results15 () (l_ rfl (by symm;apply decide_eq_false;intro e;subst e;rw[hx1]at hx2;simp_all)) (.refl _) zt
 refine Zz 9 ?_
 exact G_ Tryz.results15 () (l_ rfl (by symm;apply decide_eq_false;intro e;subst e;omega)) (.refl _) zt
theorem dQ_ (ls:List Ax) (lad:Option Addr) (lcap:Nat) (hcap:ls.length≤lcap∧lcap≤2199023255488) (hok:∀ x∈ls,x.ok) (hll:ls.length≤100000000) (S:List Str) (sad:Option Addr) (scap:Nat) (hS:S.length≤100000000) (hSl:∀ s∈S,s.length≤100000) (p:List Pc) (er:Int) (hPL:aD_ ls=(p,er)) (hp:p.length≤100000000) (want:List Int) (wad:Option Addr) (wcap:Nat) (hw:want.length≤100000000) (hR:fp_ ls p er S=(want,0)):Tri Tryz.prog 33 #[.slice lad (List.length ls) lcap,.slice sad (List.length S) scap,.slice wad (List.length want) wcap] [] [cH_ lad ls,ck_,aw_ sad (List.flatMap aH_ S),aw_ wad (List.flatMap da_ want)] (fun _:Unit=>.bool true) (fun _=>[]) (fun _=>[]):=by
 refine o_ Tryz.func33 rfl rfl Tryz.ntmps33 rfl fun v0=>?_
 refine Zz 9 ?_
 refine i_ (lU_ ls lad lcap hcap hok hll S sad scap hS hSl p er hPL hp want 0 hR) rfl f_ zf rfl fun⟨⟨qad,qcap⟩,hq1,hq2,hq3⟩=>?_
 dsimp only
 refine Zz 11 ?_
 refine c_ (br_ (bU_ rfl rfl) (show _=Value.bool false from congrArg Value.bool (by decide))) rfl (Zi 10 (fun hr1=>?_) fun hr1=>?_)
 ·refine Zz 13 ?_
  refine aO_ (ι:={y:Nat // y≤List.length want}) (fun y=>[(2,.slice wad (List.length want) wcap),(6,.bool false),(7,.slice qad (List.length want) qcap),(9,.int .i64 (y.1:Int))]) (fun y=>([])) (fun y=>[aw_ qad (List.flatMap da_ want),cH_ lad ls,ck_,aw_ sad (List.flatMap aH_ S),aw_ wad (List.flatMap da_ want)]) (fun y=>List.length want - y.1) ⟨(0:Nat),by simp⟩ zl f_ zh ?_
  rintro ⟨i,hi_i⟩
  dsimp only at hi_i ⊢
  refine Zi 6 (fun hr2=>?_) fun hr2=>?_
  ·refine Zz 11 ?_
   exact G_ Tryz.results33 () rfl f_ zt
  obtain⟨hlx1,x1,hx1,hmx1⟩:=zge (show i<List.length want by omega)
  refine Zz 9 ?_
  refine U_ 0 [0,1,2,3,4,5,6,7,8] zk zs (Zi 8 (fun hr3=>?_) fun hr3=>?_)
  ·refine Zz 12 ?_
   exact R_ ⟨i+1,hlx1⟩ (by dsimp only;omega) zl f_ zh
  exact absurd rfl hr3
 exact absurd rfl hr1
end Go.Proofs.YtamklbgaipakfaaGreatDoor
namespace Go.Proofs.YtamklbgaipakfaaGreatDoor
open Go Go.Sx Go.Proofs
attribute [local irreducible] Code.wp wpList wpAnyH
open Go.Vs
theorem nH_ {l:List Ax} {p:List Pc} {er:Int} (h12:l.length≤12) (h:aD_ l=(p,er)):p.length≤16384:=by
 by_cases hb:cD_ l=0
 ·have hc:=gS_ hb
  rw[hz_ (by omega) hc]at h
  obtain⟨rfl,_⟩:=Prod.mk.inj h
  have:=gR_ 0 l hc
  omega
 rw[gL_ (by omega) hb]at h
 rw[← (Prod.mk.inj h).1]
 simp
theorem ju_ {l:List Ax} {p:List Pc} {er:Int} {S:List Str} {R:List Int} {e:Int} (h:fp_ l p er S=(R,e)):R.length≤l.length:=by
 unfold fp_ at h
 split at h
 ·rw[← (Prod.mk.inj h).1];simp
 split at h
 ·rw[← (Prod.mk.inj h).1];simp
 rw[← (Prod.mk.inj h).1];exact fQ_ _
theorem gu_.len {p:List Pc} {er:Int} {v:Bool} {S X:List Str} {e:Int} (h:gu_ p er v S X e):X.length≤2*p.length+S.length+2:=by
 rcases h with⟨_,rfl,_⟩|⟨_,_,rfl,_⟩|⟨_,_,_,hs,hm⟩
 ·simp
 ·simp
 have h1:(X.map fun n=>(⟨1,n⟩:Thg)).Nodup:=by
   unfold List.Nodup
   rw[List.pairwise_map]
   exact List.Pairwise.imp (fun {a b} hab e=>by have:=(Thg.mk.inj e).2;subst this;exact fJ_ _ hab) hs
 have h2:=dE_ _ (hN_ p S) h1 fun t ht=>by
   obtain⟨n,hn,rfl⟩:=List.mem_map.1 ht
   exact ((hm n).1 hn).univ
 have h3:=eE_ p S
 rw[List.length_map]at h2
 omega
theorem moduleReach_c (hsane:Tri Tryz.prog 8 #[] [] [ck_] (fun _:Unit=>.bool true) (fun _=>[]) (fun _=>[])) (ls:List Ax) (lad:Option Addr) (lcap:Nat) (hcap:ls.length≤lcap∧lcap≤2199023255488) (hok:∀ x∈ls,x.ok) (S:List Str) (sad:Option Addr) (scap:Nat) (hSb:S.length≤8796093021952) (hSl:∀ s∈S,s.length≤140737488351232):Tri Tryz.prog 3 #[.slice lad (List.length ls) lcap,.slice sad (List.length S) scap] [] [cH_ lad ls,aw_ sad (List.flatMap aH_ S),ck_] (fun _:Unit=>.bool true) (fun _=>[]) (fun _=>[]):=by
 refine o_ Tryz.func3 rfl rfl Tryz.ntmps3 rfl fun v0=>?_
 refine Zz 8 ?_
 refine i_ (hsane) rfl f_ zf rfl fun _=>c_ (aE_ rfl) rfl (Zz 9 ?_)
 refine i_ (ss_ ls lad lcap hcap hok) rfl f_ zf rfl fun⟨fb,hfb⟩=>?_
 dsimp only
 refine c_ (aE_ rfl) rfl (Zz 1 ?_)
 cases fb
 ·refine Zz 13 ?_
  exact G_ Tryz.results3 () rfl f_ zt
 obtain⟨h12,hfw⟩:=hfb rfl
 obtain⟨⟨p,er⟩,hPL⟩:∃ q,aD_ ls=q:=⟨_,rfl⟩
 obtain⟨⟨R,e⟩,hR⟩:∃ q,fp_ ls p er S=q:=⟨_,rfl⟩
 have hpl:=nH_ h12 hPL
 refine Zz 3 ?_
 refine i_ (pi_ S sad scap hSb hSl) rfl f_ zf rfl fun⟨sb,hsb⟩=>?_
 dsimp only
 refine ag_ rfl rfl (c_ (aE_ rfl) rfl (Zz 3 ?_))
 cases sb
 ·refine Zz 7 ?_
  exact G_ Tryz.results3 () rfl f_ zt
 obtain⟨hS8,hS3⟩:=hsb rfl
 have hSl2:∀ s∈S,s.length≤100000:=fun s hs=>by have:=hS3 s hs;omega
 refine Zz 7 ?_
 refine i_ (lU_ ls lad lcap hcap hok (by omega) S sad scap (by omega) hSl2 p er hPL (by omega) R e hR) rfl f_ zf rfl fun⟨⟨q1,c1⟩,hq1⟩=>?_
 dsimp only
 refine Zz 11 ?_
 refine i_ (nA_ ls lad lcap hcap hok h12 hfw S sad scap (by omega) hSl2 p er hPL R e hR) rfl f_ zf rfl fun⟨⟨q2,c2⟩,hq2⟩=>?_
 dsimp only
 refine Zz 11 ?_
 refine i_ (sF_ ls lad lcap hcap hok (by omega) S sad scap (by omega) hSl2 p er hPL (by omega)) rfl f_ zf rfl fun⟨⟨X,q3,c3,f⟩,hA1,hq3⟩=>?_
 dsimp only
 refine Zz 11 ?_
 refine i_ (nC_ ls lad lcap hcap hok h12 hfw S sad scap (by omega) hSl2 p er hPL) rfl f_ zf rfl fun⟨⟨Y,q4,c4,g⟩,hA2,hq4⟩=>?_
 dsimp only
 refine Zz 11 ?_
 refine N_ (pj_ R R q1 q2 c1 c2 (by have:=ju_ hR;omega) (by have:=ju_ hR;omega)) rfl f_ zf rfl fun r1 hr1=>?_
 refine Zz 1 ?_
 cases r1
 ·replace hr1:=zdf hr1
  exact absurd rfl hr1
 replace hr1:=zdt hr1
 refine Zi 5 (fun hr2=>?_) fun hr2=>?_
 ·exact absurd rfl hr2
 refine Zz 7 ?_
 refine N_ (rO_ X Y q3 q4 c3 c4 (by have:=gu_.len (X:=X) hA1;omega) (by have:=gu_.len (X:=Y) hA2;omega)) rfl f_ zf rfl fun r3 hr3=>?_
 refine Zz 2 ?_
 cases r3
 ·replace hr3:=zdf hr3
  exact absurd (hA1.uniq hA2).1 hr3
 replace hr3:=zdt hr3
 refine Zz 5 ?_
 refine s_ (V_ rfl rfl) rfl fun r4 hr4=>Zz 5 ?_
 exact G_ Tryz.results3 () (l_ rfl (by rw[← hr4];simp only[beq_iff_eq];exact (hA1.uniq hA2).2)) f_ zt
end Go.Proofs.YtamklbgaipakfaaGreatDoor
namespace Go.Proofs.YtamklbgaipakfaaGreatDoor
open Go Go.Sx Go.Proofs
attribute [local irreducible] Code.wp wpList wpAnyH
open Go.Vs
theorem qH_ {a b:Ax} (h:Ax.cmp a b=-1):∀ (i:Nat) x y,[a,b][i]? = some x→[a,b][i+1]? = some y→Ax.cmp x y=-1:=by
  intro i x y h1 h2
  cases i with
  | zero =>
    simp only[List.getElem?_cons_zero,Nat.zero_add,List.getElem?_cons_succ,Option.some.injEq]at h1 h2
    subst h1;subst h2;exact h
  | succ i=>simp at h2
theorem gY_ {S:List Str} (h:(S.all fun s=>Nat.ble s.length 100000)=true):∀ s∈S,s.length≤100000:=fun s hs=>Nat.le_of_ble_eq_true (List.all_eq_true.1 h s hs)
theorem qp_:Tri Tryz.prog 8 #[] [] [ck_] (fun _:Unit=>.bool true) (fun _=>[]) (fun _=>[]):=by
  refine o_ Tryz.func8 rfl rfl Tryz.ntmps8 rfl fun v0=>?_
  refine Zz 7 ?_
  refine i_ (el_ [66]) rfl f_ zt rfl fun _=>I_ B_ g_ bL_ rfl rfl rfl rfl rfl rfl fun b1=>?_
  refine ak_ (List.flatMap Con.cells [(Con.mk 3 [66] 0 0 none 0 [])]) t_ rfl ?_
  refine c_ (S_ jl_ rfl rfl) rfl (au_ bL_ rfl fun b2=>aa_ 0 g_ rfl rfl rfl rfl rfl rfl (Zz 4 ?_))
  refine U_ 6 [1] zk zs (Zz 2 ?_)
  refine u_ 0 rfl zk (i_ (el_ [65]) rfl f_ zt rfl fun _=>Zz 3 ?_)
  refine U_ 4 [2] zk zs (y_ rfl (S_ iq_ rfl rfl) rfl (aJ_ (u_ 3 rfl zk (i_ (gf_ [66] [67]) rfl f_ zt rfl fun _=>Zz 3 ?_))))
  refine u_ 4 rfl zk (i_ (gf_ [68] [65]) rfl f_ zt rfl fun _=>Zz 3 ?_)
  refine u_ 5 rfl zk (I_ ae_ ad_ bm_ rfl rfl rfl rfl rfl rfl fun b3=>?_)
  refine ak_ (List.flatMap Ax.cells [(Ax.mk 1 false (Con.mk 3 [65] 0 0 none 0 []) (Con.mk 6 [114] 0 0 (some ⟨b1,0,none⟩) 1 [(Con.mk 3 [66] 0 0 none 0 [])]) none 0 [] [] [] []),(Ax.mk 1 false (Con.mk 3 [66] 0 0 none 0 []) (Con.mk 3 [67] 0 0 none 0 []) none 0 [] [] [] []),(Ax.mk 1 false (Con.mk 3 [68] 0 0 none 0 []) (Con.mk 3 [65] 0 0 none 0 []) none 0 [] [] [] [])]) t_ rfl ?_
  refine Zz 3 ?_
  refine U_ 0 [6] zk zs (Zz 8 ?_)
  refine I_ D_ O_ aR_ rfl rfl rfl rfl rfl rfl fun b4=>?_
  refine ak_ (List.flatMap aH_ [[65]]) t_ rfl ?_
  refine I_ am_ ab_ bb_ rfl rfl rfl rfl rfl rfl fun b5=>?_
  refine ak_ (List.flatMap da_ [0,1]) t_ rfl ?_
  refine i_ (dQ_ [(Ax.mk 1 false (Con.mk 3 [65] 0 0 none 0 []) (Con.mk 6 [114] 0 0 (some ⟨b1,0,none⟩) 1 [(Con.mk 3 [66] 0 0 none 0 [])]) none 0 [] [] [] []),(Ax.mk 1 false (Con.mk 3 [66] 0 0 none 0 []) (Con.mk 3 [67] 0 0 none 0 []) none 0 [] [] [] []),(Ax.mk 1 false (Con.mk 3 [68] 0 0 none 0 []) (Con.mk 3 [65] 0 0 none 0 []) none 0 [] [] [] [])] (some ⟨b3,0,none⟩) 3 ⟨by simp,by decide⟩ (fun z9 hz9=>by simp only[List.mem_cons,List.not_mem_nil,or_false]at hz9;rcases hz9 with rfl|rfl|rfl<;>(constructor<;>simp[Con.ok,Con.ok.oks])) (by simp) [[65]] (some ⟨b4,0,none⟩) 1 (by simp) (gY_ zk) (aD_ [(Ax.mk 1 false (Con.mk 3 [65] 0 0 none 0 []) (Con.mk 6 [114] 0 0 (some ⟨b1,0,none⟩) 1 [(Con.mk 3 [66] 0 0 none 0 [])]) none 0 [] [] [] []),(Ax.mk 1 false (Con.mk 3 [66] 0 0 none 0 []) (Con.mk 3 [67] 0 0 none 0 []) none 0 [] [] [] []),(Ax.mk 1 false (Con.mk 3 [68] 0 0 none 0 []) (Con.mk 3 [65] 0 0 none 0 []) none 0 [] [] [] [])]).1 (aD_ [(Ax.mk 1 false (Con.mk 3 [65] 0 0 none 0 []) (Con.mk 6 [114] 0 0 (some ⟨b1,0,none⟩) 1 [(Con.mk 3 [66] 0 0 none 0 [])]) none 0 [] [] [] []),(Ax.mk 1 false (Con.mk 3 [66] 0 0 none 0 []) (Con.mk 3 [67] 0 0 none 0 []) none 0 [] [] [] []),(Ax.mk 1 false (Con.mk 3 [68] 0 0 none 0 []) (Con.mk 3 [65] 0 0 none 0 []) none 0 [] [] [] [])]).2 (Prod.eta _).symm (Nat.le_of_ble_eq_true zk) [0,1] (some ⟨b5,0,none⟩) 2 (by simp) zk) rfl f_ (fun v _ h=>by exact⟨⟨h.2.2.1,fun y hy=>by simp only[List.mem_cons,List.not_mem_nil,or_false]at hy;rcases hy with rfl|rfl|rfl;exact⟨⟨.inl rfl,trivial⟩,⟨h.2.2.2.1,⟨⟨.inl rfl,trivial⟩,trivial⟩⟩,(.inl rfl)⟩;exact⟨⟨.inl rfl,trivial⟩,⟨.inl rfl,trivial⟩,(.inl rfl)⟩;exact⟨⟨.inl rfl,trivial⟩,⟨.inl rfl,trivial⟩,(.inl rfl)⟩⟩,h.2.2.2.2.1,h.2.1,h.1,trivial⟩) rfl fun _=>?_
  refine c_ (aE_ rfl) rfl (Zz 4 ?_)
  refine I_ D_ O_ aR_ rfl rfl rfl rfl rfl rfl fun b6=>?_
  refine ak_ (List.flatMap aH_ [[66]]) t_ rfl ?_
  refine ag_ rfl rfl (I_ am_ ab_ bb_ rfl rfl rfl rfl rfl rfl fun b7=>?_)
  refine ak_ (List.flatMap da_ [1]) t_ rfl ?_
  refine ag_ rfl rfl (i_ (dQ_ [(Ax.mk 1 false (Con.mk 3 [65] 0 0 none 0 []) (Con.mk 6 [114] 0 0 (some ⟨b1,0,none⟩) 1 [(Con.mk 3 [66] 0 0 none 0 [])]) none 0 [] [] [] []),(Ax.mk 1 false (Con.mk 3 [66] 0 0 none 0 []) (Con.mk 3 [67] 0 0 none 0 []) none 0 [] [] [] []),(Ax.mk 1 false (Con.mk 3 [68] 0 0 none 0 []) (Con.mk 3 [65] 0 0 none 0 []) none 0 [] [] [] [])] (some ⟨b3,0,none⟩) 3 ⟨by simp,by decide⟩ (fun z9 hz9=>by simp only[List.mem_cons,List.not_mem_nil,or_false]at hz9;rcases hz9 with rfl|rfl|rfl<;>(constructor<;>simp[Con.ok,Con.ok.oks])) (by simp) [[66]] (some ⟨b6,0,none⟩) 1 (by simp) (gY_ zk) (aD_ [(Ax.mk 1 false (Con.mk 3 [65] 0 0 none 0 []) (Con.mk 6 [114] 0 0 (some ⟨b1,0,none⟩) 1 [(Con.mk 3 [66] 0 0 none 0 [])]) none 0 [] [] [] []),(Ax.mk 1 false (Con.mk 3 [66] 0 0 none 0 []) (Con.mk 3 [67] 0 0 none 0 []) none 0 [] [] [] []),(Ax.mk 1 false (Con.mk 3 [68] 0 0 none 0 []) (Con.mk 3 [65] 0 0 none 0 []) none 0 [] [] [] [])]).1 (aD_ [(Ax.mk 1 false (Con.mk 3 [65] 0 0 none 0 []) (Con.mk 6 [114] 0 0 (some ⟨b1,0,none⟩) 1 [(Con.mk 3 [66] 0 0 none 0 [])]) none 0 [] [] [] []),(Ax.mk 1 false (Con.mk 3 [66] 0 0 none 0 []) (Con.mk 3 [67] 0 0 none 0 []) none 0 [] [] [] []),(Ax.mk 1 false (Con.mk 3 [68] 0 0 none 0 []) (Con.mk 3 [65] 0 0 none 0 []) none 0 [] [] [] [])]).2 (Prod.eta _).symm (Nat.le_of_ble_eq_true zk) [1] (some ⟨b7,0,none⟩) 1 (by simp) zk) rfl f_ (fun v _ h=>by exact⟨⟨h.2.2.2.2.1,fun y hy=>by simp only[List.mem_cons,List.not_mem_nil,or_false]at hy;rcases hy with rfl|rfl|rfl;exact⟨⟨.inl rfl,trivial⟩,⟨h.2.2.2.2.2.1,⟨⟨.inl rfl,trivial⟩,trivial⟩⟩,(.inl rfl)⟩;exact⟨⟨.inl rfl,trivial⟩,⟨.inl rfl,trivial⟩,(.inl rfl)⟩;exact⟨⟨.inl rfl,trivial⟩,⟨.inl rfl,trivial⟩,(.inl rfl)⟩⟩,h.2.2.2.2.2.2.1,h.2.1,h.1,trivial⟩) rfl fun _=>?_)
  refine ag_ rfl rfl (c_ (aE_ rfl) rfl (Zz 5 ?_))
  refine I_ D_ O_ aR_ rfl rfl rfl rfl rfl rfl fun b8=>?_
  refine ak_ (List.flatMap aH_ [[60,115,111,109,101,32,114,32,66,62]]) t_ rfl ?_
  refine ag_ rfl rfl (I_ am_ ab_ bb_ rfl rfl rfl rfl rfl rfl fun b9=>?_)
  refine ak_ (List.flatMap da_ [0,1]) t_ rfl ?_
  refine ag_ rfl rfl (i_ (dQ_ [(Ax.mk 1 false (Con.mk 3 [65] 0 0 none 0 []) (Con.mk 6 [114] 0 0 (some ⟨b1,0,none⟩) 1 [(Con.mk 3 [66] 0 0 none 0 [])]) none 0 [] [] [] []),(Ax.mk 1 false (Con.mk 3 [66] 0 0 none 0 []) (Con.mk 3 [67] 0 0 none 0 []) none 0 [] [] [] []),(Ax.mk 1 false (Con.mk 3 [68] 0 0 none 0 []) (Con.mk 3 [65] 0 0 none 0 []) none 0 [] [] [] [])] (some ⟨b3,0,none⟩) 3 ⟨by simp,by decide⟩ (fun z9 hz9=>by simp only[List.mem_cons,List.not_mem_nil,or_false]at hz9;rcases hz9 with rfl|rfl|rfl<;>(constructor<;>simp[Con.ok,Con.ok.oks])) (by simp) [[60,115,111,109,101,32,114,32,66,62]] (some ⟨b8,0,none⟩) 1 (by simp) (gY_ zk) (aD_ [(Ax.mk 1 false (Con.mk 3 [65] 0 0 none 0 []) (Con.mk 6 [114] 0 0 (some ⟨b1,0,none⟩) 1 [(Con.mk 3 [66] 0 0 none 0 [])]) none 0 [] [] [] []),(Ax.mk 1 false (Con.mk 3 [66] 0 0 none 0 []) (Con.mk 3 [67] 0 0 none 0 []) none 0 [] [] [] []),(Ax.mk 1 false (Con.mk 3 [68] 0 0 none 0 []) (Con.mk 3 [65] 0 0 none 0 []) none 0 [] [] [] [])]).1 (aD_ [(Ax.mk 1 false (Con.mk 3 [65] 0 0 none 0 []) (Con.mk 6 [114] 0 0 (some ⟨b1,0,none⟩) 1 [(Con.mk 3 [66] 0 0 none 0 [])]) none 0 [] [] [] []),(Ax.mk 1 false (Con.mk 3 [66] 0 0 none 0 []) (Con.mk 3 [67] 0 0 none 0 []) none 0 [] [] [] []),(Ax.mk 1 false (Con.mk 3 [68] 0 0 none 0 []) (Con.mk 3 [65] 0 0 none 0 []) none 0 [] [] [] [])]).2 (Prod.eta _).symm (Nat.le_of_ble_eq_true zk) [0,1] (some ⟨b9,0,none⟩) 2 (by simp) zk) rfl f_ (fun v _ h=>by exact⟨⟨h.2.2.2.2.2.2.1,fun y hy=>by simp only[List.mem_cons,List.not_mem_nil,or_false]at hy;rcases hy with rfl|rfl|rfl;exact⟨⟨.inl rfl,trivial⟩,⟨h.2.2.2.2.2.2.2.1,⟨⟨.inl rfl,trivial⟩,trivial⟩⟩,(.inl rfl)⟩;exact⟨⟨.inl rfl,trivial⟩,⟨.inl rfl,trivial⟩,(.inl rfl)⟩;exact⟨⟨.inl rfl,trivial⟩,⟨.inl rfl,trivial⟩,(.inl rfl)⟩⟩,h.2.2.2.2.2.2.2.2.1,h.2.1,h.1,trivial⟩) rfl fun _=>?_)
  refine ag_ rfl rfl (c_ (aE_ rfl) rfl (Zz 8 ?_))
  refine c_ (S_ jl_ rfl rfl) rfl (i_ (el_ [65]) rfl f_ zt rfl fun _=>c_ (S_ iq_ rfl rfl) rfl (I_ ae_ ad_ bm_ rfl rfl rfl rfl rfl rfl fun b10=>?_))
  refine ak_ (List.flatMap Ax.cells [(Ax.mk 1 false (Con.mk 1 [] 0 0 none 0 []) (Con.mk 3 [65] 0 0 none 0 []) none 0 [] [] [] [])]) t_ rfl ?_
  refine Zz 5 ?_
  refine i_ (el_ [65]) rfl f_ zt rfl fun _=>i_ (el_ [66]) rfl f_ zt rfl fun _=>c_ (S_ iq_ rfl rfl) rfl (I_ ae_ ad_ bm_ rfl rfl rfl rfl rfl rfl fun b11=>?_)
  refine ak_ (List.flatMap Ax.cells [(Ax.mk 3 false (Con.mk 3 [65] 0 0 none 0 []) (Con.mk 3 [66] 0 0 none 0 []) none 0 [] [] [] [])]) t_ rfl ?_
  refine Zz 5 ?_
  refine c_ (S_ iq_ rfl rfl) rfl (i_ (el_ [65]) rfl f_ zt rfl fun _=>c_ (S_ iq_ rfl rfl) rfl (i_ (gf_ [65] [66]) rfl f_ zt rfl fun _=>I_ ae_ ad_ bm_ rfl rfl rfl rfl rfl rfl fun b12=>?_))
  refine ak_ (List.flatMap Ax.cells [(Ax.mk 7 true (Con.mk 0 [] 0 0 none 0 []) (Con.mk 0 [] 0 0 none 0 []) none 0 [] [114] [] []),(Ax.mk 4 false (Con.mk 0 [] 0 0 none 0 []) (Con.mk 3 [65] 0 0 none 0 []) none 0 [] [114] [] []),(Ax.mk 1 false (Con.mk 3 [65] 0 0 none 0 []) (Con.mk 3 [66] 0 0 none 0 []) none 0 [] [] [] [])]) t_ rfl ?_
  refine Zz 7 ?_
  refine I_ am_ ab_ bb_ rfl rfl rfl rfl rfl rfl fun b13=>?_
  refine ak_ (List.flatMap da_ [0]) t_ rfl ?_
  refine i_ (dQ_ [(Ax.mk 1 false (Con.mk 1 [] 0 0 none 0 []) (Con.mk 3 [65] 0 0 none 0 []) none 0 [] [] [] [])] (some ⟨b10,0,none⟩) 1 ⟨by simp,by decide⟩ (fun z9 hz9=>by simp only[List.mem_cons,List.not_mem_nil,or_false]at hz9;rcases hz9 with rfl<;>(constructor<;>simp[Con.ok,Con.ok.oks])) (by simp) ([]:List Str) none 0 (by simp) (gY_ zk) (aD_ [(Ax.mk 1 false (Con.mk 1 [] 0 0 none 0 []) (Con.mk 3 [65] 0 0 none 0 []) none 0 [] [] [] [])]).1 (aD_ [(Ax.mk 1 false (Con.mk 1 [] 0 0 none 0 []) (Con.mk 3 [65] 0 0 none 0 []) none 0 [] [] [] [])]).2 (Prod.eta _).symm (Nat.le_of_ble_eq_true zk) [0] (some ⟨b13,0,none⟩) 1 (by simp) zk) rfl f_ (fun v _ h=>by exact⟨⟨h.2.2.2.1,fun y hy=>by simp only[List.mem_cons,List.not_mem_nil,or_false]at hy;rcases hy with rfl;exact⟨⟨.inl rfl,trivial⟩,⟨.inl rfl,trivial⟩,(.inl rfl)⟩⟩,h.2.2.2.2.2.2.2.2.2.2.2.2.1,.inl rfl,h.1,trivial⟩) rfl fun _=>?_
  refine c_ (aE_ rfl) rfl (Zz 4 ?_)
  refine I_ D_ O_ aR_ rfl rfl rfl rfl rfl rfl fun b14=>?_
  refine ak_ (List.flatMap aH_ [[65]]) t_ rfl ?_
  refine ag_ rfl rfl (i_ (dQ_ [(Ax.mk 3 false (Con.mk 3 [65] 0 0 none 0 []) (Con.mk 3 [66] 0 0 none 0 []) none 0 [] [] [] [])] (some ⟨b11,0,none⟩) 1 ⟨by simp,by decide⟩ (fun z9 hz9=>by simp only[List.mem_cons,List.not_mem_nil,or_false]at hz9;rcases hz9 with rfl<;>(constructor<;>simp[Con.ok,Con.ok.oks])) (by simp) [[65]] (some ⟨b14,0,none⟩) 1 (by simp) (gY_ zk) (aD_ [(Ax.mk 3 false (Con.mk 3 [65] 0 0 none 0 []) (Con.mk 3 [66] 0 0 none 0 []) none 0 [] [] [] [])]).1 (aD_ [(Ax.mk 3 false (Con.mk 3 [65] 0 0 none 0 []) (Con.mk 3 [66] 0 0 none 0 []) none 0 [] [] [] [])]).2 (Prod.eta _).symm (Nat.le_of_ble_eq_true zk) ([]:List Int) none 0 (by simp) zk) rfl f_ (fun v _ h=>by exact⟨⟨h.2.2.2.1,fun y hy=>by simp only[List.mem_cons,List.not_mem_nil,or_false]at hy;rcases hy with rfl;exact⟨⟨.inl rfl,trivial⟩,⟨.inl rfl,trivial⟩,(.inl rfl)⟩⟩,h.2.2.2.2.2.2.2.2.2.2.2.2.2.1,h.1,.inl rfl,trivial⟩) rfl fun _=>?_)
  refine ag_ rfl rfl (c_ (aE_ rfl) rfl (Zz 5 ?_))
  refine I_ D_ O_ aR_ rfl rfl rfl rfl rfl rfl fun b15=>?_
  refine ak_ (List.flatMap aH_ [[65],[66]]) t_ rfl ?_
  refine ag_ rfl rfl (I_ am_ ab_ bb_ rfl rfl rfl rfl rfl rfl fun b16=>?_)
  refine ak_ (List.flatMap da_ [0]) t_ rfl ?_
  refine ag_ rfl rfl (i_ (dQ_ [(Ax.mk 3 false (Con.mk 3 [65] 0 0 none 0 []) (Con.mk 3 [66] 0 0 none 0 []) none 0 [] [] [] [])] (some ⟨b11,0,none⟩) 1 ⟨by simp,by decide⟩ (fun z9 hz9=>by simp only[List.mem_cons,List.not_mem_nil,or_false]at hz9;rcases hz9 with rfl<;>(constructor<;>simp[Con.ok,Con.ok.oks])) (by simp) [[65],[66]] (some ⟨b15,0,none⟩) 2 (by simp) (gY_ zk) (aD_ [(Ax.mk 3 false (Con.mk 3 [65] 0 0 none 0 []) (Con.mk 3 [66] 0 0 none 0 []) none 0 [] [] [] [])]).1 (aD_ [(Ax.mk 3 false (Con.mk 3 [65] 0 0 none 0 []) (Con.mk 3 [66] 0 0 none 0 []) none 0 [] [] [] [])]).2 (Prod.eta _).symm (Nat.le_of_ble_eq_true zk) [0] (some ⟨b16,0,none⟩) 1 (by simp) zk) rfl f_ (fun v _ h=>by exact⟨⟨h.2.2.2.2.2.1,fun y hy=>by simp only[List.mem_cons,List.not_mem_nil,or_false]at hy;rcases hy with rfl;exact⟨⟨.inl rfl,trivial⟩,⟨.inl rfl,trivial⟩,(.inl rfl)⟩⟩,h.2.2.2.2.2.2.2.2.2.2.2.2.2.2.2.1,h.2.1,h.1,trivial⟩) rfl fun _=>?_)
  refine ag_ rfl rfl (c_ (aE_ rfl) rfl (Zz 5 ?_))
  refine I_ D_ O_ aR_ rfl rfl rfl rfl rfl rfl fun b17=>?_
  refine ak_ (List.flatMap aH_ [[67]]) t_ rfl ?_
  refine ag_ rfl rfl (I_ am_ ab_ bb_ rfl rfl rfl rfl rfl rfl fun b18=>?_)
  refine ak_ (List.flatMap da_ [0,1,2]) t_ rfl ?_
  refine ag_ rfl rfl (i_ (dQ_ [(Ax.mk 7 true (Con.mk 0 [] 0 0 none 0 []) (Con.mk 0 [] 0 0 none 0 []) none 0 [] [114] [] []),(Ax.mk 4 false (Con.mk 0 [] 0 0 none 0 []) (Con.mk 3 [65] 0 0 none 0 []) none 0 [] [114] [] []),(Ax.mk 1 false (Con.mk 3 [65] 0 0 none 0 []) (Con.mk 3 [66] 0 0 none 0 []) none 0 [] [] [] [])] (some ⟨b12,0,none⟩) 3 ⟨by simp,by decide⟩ (fun z9 hz9=>by simp only[List.mem_cons,List.not_mem_nil,or_false]at hz9;rcases hz9 with rfl|rfl|rfl<;>(constructor<;>simp[Con.ok,Con.ok.oks])) (by simp) [[67]] (some ⟨b17,0,none⟩) 1 (by simp) (gY_ zk) (aD_ [(Ax.mk 7 true (Con.mk 0 [] 0 0 none 0 []) (Con.mk 0 [] 0 0 none 0 []) none 0 [] [114] [] []),(Ax.mk 4 false (Con.mk 0 [] 0 0 none 0 []) (Con.mk 3 [65] 0 0 none 0 []) none 0 [] [114] [] []),(Ax.mk 1 false (Con.mk 3 [65] 0 0 none 0 []) (Con.mk 3 [66] 0 0 none 0 []) none 0 [] [] [] [])]).1 (aD_ [(Ax.mk 7 true (Con.mk 0 [] 0 0 none 0 []) (Con.mk 0 [] 0 0 none 0 []) none 0 [] [114] [] []),(Ax.mk 4 false (Con.mk 0 [] 0 0 none 0 []) (Con.mk 3 [65] 0 0 none 0 []) none 0 [] [114] [] []),(Ax.mk 1 false (Con.mk 3 [65] 0 0 none 0 []) (Con.mk 3 [66] 0 0 none 0 []) none 0 [] [] [] [])]).2 (Prod.eta _).symm (Nat.le_of_ble_eq_true zk) [0,1,2] (some ⟨b18,0,none⟩) 3 (by simp) zk) rfl f_ (fun v _ h=>by exact⟨⟨h.2.2.2.2.2.2.1,fun y hy=>by simp only[List.mem_cons,List.not_mem_nil,or_false]at hy;rcases hy with rfl|rfl|rfl;exact⟨⟨.inl rfl,trivial⟩,⟨.inl rfl,trivial⟩,(.inl rfl)⟩;exact⟨⟨.inl rfl,trivial⟩,⟨.inl rfl,trivial⟩,(.inl rfl)⟩;exact⟨⟨.inl rfl,trivial⟩,⟨.inl rfl,trivial⟩,(.inl rfl)⟩⟩,h.2.2.2.2.2.2.2.2.2.2.2.2.2.2.2.2.2.1,h.2.1,h.1,trivial⟩) rfl fun _=>?_)
  refine ag_ rfl rfl (c_ (aE_ rfl) rfl (Zz 8 ?_))
  refine i_ (gf_ [65] [66]) rfl f_ zt rfl fun _=>i_ (gf_ [67] [68]) rfl f_ zt rfl fun _=>I_ ae_ ad_ bm_ rfl rfl rfl rfl rfl rfl fun b19=>?_
  refine ak_ (List.flatMap Ax.cells [(Ax.mk 1 false (Con.mk 3 [65] 0 0 none 0 []) (Con.mk 3 [66] 0 0 none 0 []) none 0 [] [] [] []),(Ax.mk 1 false (Con.mk 3 [67] 0 0 none 0 []) (Con.mk 3 [68] 0 0 none 0 []) none 0 [] [] [] [])]) t_ rfl ?_
  refine c_ (S_ strt37 rfl rfl) rfl (i_ (gf_ [65] [68]) rfl f_ zt rfl fun _=>?_)
  refine i_ (Of0_c [(Ax.mk 1 false (Con.mk 3 [65] 0 0 none 0 []) (Con.mk 3 [66] 0 0 none 0 []) none 0 [] [] [] []),(Ax.mk 1 false (Con.mk 3 [67] 0 0 none 0 []) (Con.mk 3 [68] 0 0 none 0 []) none 0 [] [] [] [])] (some ⟨b19,0,none⟩) 2 (fun z9 hz9=>by simp only[List.mem_cons,List.not_mem_nil,or_false]at hz9;rcases hz9 with rfl|rfl<;>(constructor<;>simp[Con.ok,Con.ok.oks])) (fun z9 hz9=>by simp only[List.mem_cons,List.not_mem_nil,or_false]at hz9;rcases hz9 with rfl|rfl<;>kernel_rfl) (fun z9 hz9=>by simp only[List.mem_cons,List.not_mem_nil,or_false]at hz9;rcases hz9 with rfl|rfl<;>exact⟨rfl,rfl,rfl⟩) (by simp) (fun z9 hz9=>by simp only[List.mem_cons,List.not_mem_nil,or_false]at hz9;rcases hz9 with rfl|rfl<;>exact⟨Nat.le_of_ble_eq_true zk,Nat.le_of_ble_eq_true zk⟩) (qH_ zk) ⟨by simp,by decide⟩ (aD_ [(Ax.mk 1 false (Con.mk 3 [65] 0 0 none 0 []) (Con.mk 3 [66] 0 0 none 0 []) none 0 [] [] [] []),(Ax.mk 1 false (Con.mk 3 [67] 0 0 none 0 []) (Con.mk 3 [68] 0 0 none 0 []) none 0 [] [] [] [])]).1 zk (Nat.le_of_ble_eq_true zk) (Ax.mk 1 false (Con.mk 3 [65] 0 0 none 0 []) (Con.mk 3 [68] 0 0 none 0 []) none 0 [] [] [] []) (by constructor<;>simp[Con.ok,Con.ok.oks]) (Ax.goalP (Ax.mk 1 false (Con.mk 3 [65] 0 0 none 0 []) (Con.mk 3 [68] 0 0 none 0 []) none 0 [] [] [] [])).1 (Ax.goalP (Ax.mk 1 false (Con.mk 3 [65] 0 0 none 0 []) (Con.mk 3 [68] 0 0 none 0 []) none 0 [] [] [] [])).2.1 zk (Nat.le_of_ble_eq_true zk)) rfl f_ (fun v _ h=>by exact⟨⟨h.1,fun y hy=>by simp only[List.mem_cons,List.not_mem_nil,or_false]at hy;rcases hy with rfl|rfl;exact⟨⟨.inl rfl,trivial⟩,⟨.inl rfl,trivial⟩,(.inl rfl)⟩;exact⟨⟨.inl rfl,trivial⟩,⟨.inl rfl,trivial⟩,(.inl rfl)⟩⟩,h.2.2.2.2.2.2.2.2.2.2.2.2.2.2.2.2.2.2.1,⟨⟨.inl rfl,trivial⟩,⟨.inl rfl,trivial⟩,(.inl rfl)⟩,trivial⟩) rfl fun⟨⟨svq,Hqq⟩,hrq⟩=>?_
  dsimp only
  dsimp only at hrq
  rw[show fP_ [(Ax.mk 1 false (Con.mk 3 [65] 0 0 none 0 []) (Con.mk 3 [66] 0 0 none 0 []) none 0 [] [] [] []),(Ax.mk 1 false (Con.mk 3 [67] 0 0 none 0 []) (Con.mk 3 [68] 0 0 none 0 []) none 0 [] [] [] [])] (ee_ [(Ax.mk 1 false (Con.mk 3 [65] 0 0 none 0 []) (Con.mk 3 [66] 0 0 none 0 []) none 0 [] [] [] []),(Ax.mk 1 false (Con.mk 3 [67] 0 0 none 0 []) (Con.mk 3 [68] 0 0 none 0 []) none 0 [] [] [] [])] ((aD_ [(Ax.mk 1 false (Con.mk 3 [65] 0 0 none 0 []) (Con.mk 3 [66] 0 0 none 0 []) none 0 [] [] [] []),(Ax.mk 1 false (Con.mk 3 [67] 0 0 none 0 []) (Con.mk 3 [68] 0 0 none 0 []) none 0 [] [] [] [])]).1++(Ax.goalP (Ax.mk 1 false (Con.mk 3 [65] 0 0 none 0 []) (Con.mk 3 [68] 0 0 none 0 []) none 0 [] [] [] [])).1) (ey_ (Ax.goalP (Ax.mk 1 false (Con.mk 3 [65] 0 0 none 0 []) (Con.mk 3 [68] 0 0 none 0 []) none 0 [] [] [] [])).1) (List.length [(Ax.mk 1 false (Con.mk 3 [65] 0 0 none 0 []) (Con.mk 3 [66] 0 0 none 0 []) none 0 [] [] [] []),(Ax.mk 1 false (Con.mk 3 [67] 0 0 none 0 []) (Con.mk 3 [68] 0 0 none 0 []) none 0 [] [] [] [])]))=[(Ax.mk 1 false (Con.mk 3 [65] 0 0 none 0 []) (Con.mk 3 [66] 0 0 none 0 []) none 0 [] [] [] [])] from by rw[rt_];kernel_rfl]at hrq
  refine aQ_ hrq aY_ fun oad ocap hoad hcoad hmoad hzoad=>?_
  subst hoad
  refine Zz 3 ?_
  refine au_ Tryz.zeroValue37 rfl fun b20=>aa_ 0 fK_ rfl rfl rfl rfl rfl rfl (Zz 5 ?_)
  refine I_ D_ O_ aR_ rfl rfl rfl rfl rfl rfl fun b21=>?_
  refine ak_ (List.flatMap aH_ [[60]]) t_ rfl ?_
  refine i_ (lU_ ([]:List Ax) none 0 ⟨by simp,by decide⟩ (fun z9 hz9=>by cases hz9) (by simp) [[60]] (some ⟨b21,0,none⟩) 1 (by simp) (gY_ zk) [] 0 zk (by simp) [] 1 zk) rfl f_ (fun v _ h=>by exact⟨⟨.inl rfl,by simp⟩,h.2.2.2.2.2.2.2.2.2.2.2.2.2.2.2.2.2.2.2.2.1,h.1,trivial⟩) rfl fun⟨⟨rad,rcap⟩,hrc⟩=>?_
  dsimp only
  refine Zz 9 ?_
  refine U_ 8 [0,1,2,3,4,5,6,7,8,9,10,11,12] zk zs (Zz 1 ?_)
  refine y_ rfl (br_ (V_ rfl rfl) (show _=Value.bool true from congrArg Value.bool (by decide))) rfl (Zz 4 ?_)
  refine hO_ rfl rfl rfl (br_ (V_ rfl rfl) (show _=Value.bool true from congrArg Value.bool (by decide))) rfl (Zz 4 ?_)
  refine hO_ rfl rfl rfl (T_ ae_ ad_ rfl rfl (fun v _ h=>J_ (n:=16) Ax.cells_len (by decide) (by exact h.2.2.1) (show [(Ax.mk 1 false (Con.mk 3 [65] 0 0 none 0 []) (Con.mk 3 [66] 0 0 none 0 []) none 0 [] [] [] [])][0]? = some _ from rfl)) (by omega) (by first|omega|(simp;done))) rfl ?_
  refine hO_ rfl rfl rfl (al_ (ad:=oad) (us:=Ax.cells (Ax.mk 1 false (Con.mk 3 [65] 0 0 none 0 []) (Con.mk 3 [66] 0 0 none 0 []) none 0 [] [] [] [])) bB_ ad_ rfl zf (Ax.cells_len _) (H_ Ax.cells_len (show [(Ax.mk 1 false (Con.mk 3 [65] 0 0 none 0 []) (Con.mk 3 [66] 0 0 none 0 []) none 0 [] [] [] [])][0]? = some _ from rfl))) rfl (aJ_ (u_ 13 rfl zk (ag_ rfl rfl (i_ (gf_ [65] [66]) rfl f_ zt rfl fun _=>Zz 3 ?_))))
  refine u_ 14 rfl zk (ag_ rfl rfl (i_ ((show Tri Tryz.prog 34 _ [] _ (fun _:Unit=>.bool true) (fun _=>[]) (fun _=>[]) from by have h:=pk_ (Ax.mk 1 false (Con.mk 3 [65] 0 0 none 0 []) (Con.mk 3 [66] 0 0 none 0 []) none 0 [] [] [] []) (Ax.mk 1 false (Con.mk 3 [65] 0 0 none 0 []) (Con.mk 3 [66] 0 0 none 0 []) none 0 [] [] [] []) (by constructor<;>simp[Con.ok,Con.ok.oks]) (by constructor<;>simp[Con.ok,Con.ok.oks]) (Nat.le_of_ble_eq_true zk) (Nat.le_of_ble_eq_true zk) (Nat.le_of_ble_eq_true zk) (Nat.le_of_ble_eq_true zk);rw[show ((Ax.opn (Ax.mk 1 false (Con.mk 3 [65] 0 0 none 0 []) (Con.mk 3 [66] 0 0 none 0 []) none 0 [] [] [] [])==Ax.opn (Ax.mk 1 false (Con.mk 3 [65] 0 0 none 0 []) (Con.mk 3 [66] 0 0 none 0 []) none 0 [] [] [] []))&&(Ax.cmp (Ax.mk 1 false (Con.mk 3 [65] 0 0 none 0 []) (Con.mk 3 [66] 0 0 none 0 []) none 0 [] [] [] []) (Ax.mk 1 false (Con.mk 3 [65] 0 0 none 0 []) (Con.mk 3 [66] 0 0 none 0 []) none 0 [] [] [] [])==0))=true from by kernel_rfl]at h;exact h)) rfl f_ (fun v _ h=>by exact⟨⟨⟨.inl rfl,trivial⟩,⟨.inl rfl,trivial⟩,(.inl rfl)⟩,⟨⟨.inl rfl,trivial⟩,⟨.inl rfl,trivial⟩,(.inl rfl)⟩,trivial⟩) rfl fun _=>?_))
  refine Zz 3 ?_
  refine U_ 0 [15,16,17,18,19,20] zk zs (Zz 3 ?_)
  refine hO_ rfl rfl rfl (br_ (V_ rfl rfl) (show _=Value.bool true from congrArg Value.bool (by decide))) rfl (Zz 6 ?_)
  exact G_ Tryz.results8 () rfl (.refl _) zt
end Go.Proofs.YtamklbgaipakfaaGreatDoor
namespace Go.Proofs.YtamklbgaipakfaaGreatDoor
open Go Go.Sx Go.Proofs
attribute [local irreducible] Code.wp wpList wpAnyH
open Go.Vs Go.ChangeShapes Go.WideShapes Go.ChangeAt Go.RowKit
theorem own:ownKnob Tryz.prog.godebug=none:=by kernel_rfl
def gN_ : List (String × DataW Unit) := [("math/bits.deBruijn32tab", Rows.laid_math_bits_deBruijn32tab), ("math/bits.deBruijn64tab", Rows.laid_math_bits_deBruijn64tab), ("internal/strconv.uint64pow10", Rows.laid_internal_strconv_uint64pow10), ("veilstone/terms.needs", Rows.laid_veilstone_terms_needs), ("veilstone/terms.uses", Rows.laid_veilstone_terms_uses)]
theorem sh_:Kids Tryz.prog (·<Tryz.prog.types.size):=kids_rows (by kernel_rfl) (by kernel_rfl)
theorem full:∀ t e,t<Tryz.prog.types.size→Tryz.prog.underlying t=some (.slice e)→0<Tryz.prog.cellsOf e:=slices_full_of _ (by kernel_rfl)
theorem lq_:Tryz.prog.types.size=376:=by kernel_rfl
theorem tysX:Tys Tryz.prog 3 4 9 23 46 44 48 22 58 54 where
  i:=Q_
  b:=Tryz.underlying4
  s:=cA_
  ss:=Tryz.underlying23
  c:=⟨_,Tryz.underlying46,rfl⟩
  cs:=Tryz.underlying44
  a:=⟨_,Tryz.underlying48,rfl⟩
  axs:=Tryz.underlying22
  p:=⟨_,gG_,rfl⟩
  ps:=Tryz.underlying54
  ci:=by kernel_rfl
  cb:=by kernel_rfl
  cs1:=by kernel_rfl
  css:=by kernel_rfl
  cc:=by kernel_rfl
  ccs:=by kernel_rfl
  ca:=by kernel_rfl
  cp:=by kernel_rfl
  bs:=by kernel_rfl
  bc:=by kernel_rfl
  ba:=by kernel_rfl
  bp:=by kernel_rfl
theorem iQ_ {W:World} (h:laidMetH Tryz.prog gN_ W):∃ T fz,W.heap[3]? = some (.cells (eZ_ (H:=Unit) Rows.laid_veilstone_terms_needs).toArray T fz):=by
  rw[MakeChecks.laidMetH_plain _ _ _ zk]at h
  exact ji_ sh_ (name := "veilstone/terms.needs") h (by simp [gN_]) (g := 3) (t := 288) zk zk (by rw [lq_]; decide) (m := 4) zk
theorem jj_ {W:World} (h:laidMetH Tryz.prog gN_ W):∃ T fz,W.heap[0]? = some (.cells (eZ_ (H:=Unit) Rows.laid_veilstone_terms_uses).toArray T fz):=by
  rw[MakeChecks.laidMetH_plain _ _ _ zk]at h
  exact ji_ sh_ (name := "veilstone/terms.uses") h (by simp [gN_]) (g := 0) (t := 151) zk zk (by rw [lq_]; decide) (m := 4) zk
theorem fI_ {W:World} (h:laidMetH Tryz.prog gN_ W):∃ T fz,W.heap[6]? = some (.cells (eZ_ (H:=Unit) Rows.laid_internal_strconv_uint64pow10).toArray T fz):=by
  rw[MakeChecks.laidMetH_plain _ _ _ zk]at h
  exact ji_ sh_ (name := "internal/strconv.uint64pow10") h (by simp [gN_]) (g := 6) (t := 359) zk zk (by rw [lq_]; decide) (m := 4) zk
theorem ow_ {W:World} {g:Nat} {l:List Value} {d:List Value} (h:∃ T fz,W.heap[g]? = some (.cells l.toArray T fz)) (e:l=d):bN_ (vw W) (some ⟨g,0,none⟩) d:=by
  obtain⟨T,fz,h⟩:=h
  subst e
  exact .inr ⟨g,0,_,T,fz,rfl,(Array.getElem?_eq_some_iff.1 h).1,h,fun j x hj=>by rw[Nat.zero_add];simpa using hj⟩
theorem rJ_ {W:World} (h:laidMetH Tryz.prog gN_ W):ck_.p (vw W):=by
  refine⟨ow_ (iQ_ h) zk,ow_ (jj_ h) zk,trivial,?_⟩
  obtain⟨T,fz,h2⟩:=fI_ h
  refine⟨trivial,(Array.getElem?_eq_some_iff.1 h2).1,T,fz,?_⟩
  rw[show (Lib.pow10Tab.map fun z=>Value.int .u64 z)=eZ_ (H:=Unit) Rows.laid_internal_strconv_uint64pow10 by kernel_rfl]
  exact h2
end Go.Proofs.YtamklbgaipakfaaGreatDoor
