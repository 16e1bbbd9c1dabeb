/-
  Part of the proof of the law ModuleShrinks over this seat: the small logic, the data, the contracts of functions (no condition).
-/
import Derived.Test.YtamklbgaipakfaaGreatDoorQModuleShrinks11
import Derived.Test.YtamklbgaipakfaaGreatDoorQModuleShrinks6
import Derived.Test.YtamklbgaipakfaaGreatDoorQModuleShrinks7
import Derived.Test.YtamklbgaipakfaaGreatDoorQModuleShrinks10
import Derived.Test.YtamklbgaipakfaaGreatDoorQModuleShrinks8
set_option linter.unusedVariables false
set_option linter.unusedSimpArgs false
set_option linter.unusedSectionVars false
set_option maxHeartbeats 1000000
namespace Go.Proofs.YtamklbgaipakfaaGreatDoor
open Go Go.Sx Go.Proofs
attribute [local irreducible] Code.wp wpList wpAnyH
open Go.Vs
theorem mo_ (l:List Ax) (ad:Option Addr) (cap:Nat) (hok:∀ x∈l,x.ok) (hC:∀ x∈l,x.check=0) (hP:∀ x∈l,pln x) (hll:l.length≤1000) (hz:∀ x∈l,x.left.sz≤1000000∧x.right.sz≤1000000) (hS:∀ (i:Nat) x y,l[i]? = some x→l[i+1]? = some y→Ax.cmp x y=-1) (hcap:l.length≤cap∧cap≤2199023255488) (p:List Pc) (hPL:ad_ l=(p,0)) (hpl:p.length≤1000):Tri Tryz.prog 45 #[.agg #[.slice ad (List.length l) cap]] [] [aR_ ad l,bn_] (fun y:{y:Option Addr×Nat // p.length≤y.2∧y.2≤maxLen∧(y.1=none→y.2=0)}=>.tuple #[.slice y.1.1 p.length y.1.2,.int .i64 0]) (fun _=>[]) (fun y=>[ac_ y.1.1 (p.flatMap Pc.cells)]):=by
  refine j_ Tryz.func45 rfl rfl Tryz.ntmps45 rfl fun v0=>?_
  refine Zz 2 ?_
  refine N_ rfl rfl fun b1=>Zz 8 ?_
  refine d_ (mU_ l ad cap hok hC hP hll hz hS) rfl e_ zf rfl fun _=>Zz 6 ?_
  refine c_ (aA_ (bR_ rfl rfl) (show _=Value.bool false from congrArg Value.bool (by decide))) rfl (Zz 9 ?_)
  refine d_ (nH_ l ad cap hcap hok hPL) rfl e_ zf rfl fun⟨⟨pad,pcap⟩,hpc1,hpc2,hpc3⟩=>?_
  dsimp only
  refine Zz 7 ?_
  exact fr_ Tryz.results45 ⟨(pad,pcap),hpc1,hpc2,hpc3⟩ rfl rfl rfl e_ zf
theorem goal_m {x:Ax} (hok:x.ok) {p:List Pc} {fs:List Fc} {er:Int} (e:x.goalP=(p,fs,er)) :
    Tri Tryz.prog 58 #[x.val] [] [x.memF,bn_] (fun y:{y:Option Addr×Nat×Option Addr×Nat // p.length≤y.2.1∧y.2.1≤maxLen∧fs.length≤y.2.2.2∧y.2.2.2≤maxLen∧(y.1=none→y.2.1=0)}=>.tuple #[.slice y.1.1 p.length y.1.2.1,.slice y.1.2.2.1 fs.length y.1.2.2.2,.int .i64 er])
    (fun _=>[]) (fun y=>[ac_ y.1.1 (p.flatMap Pc.cells),ac_ y.1.2.2.1 (fs.flatMap Fc.cells)]):=by
  have h:=goal_c x hok
  generalize x.goalP=g at h e
  subst e
  exact h
theorem Of0_c (l:List Ax) (ad:Option Addr) (cap:Nat) (hok:∀ x∈l,x.ok) (hC:∀ x∈l,x.check=0) (hP:∀ x∈l,pln x) (hll:l.length≤1000) (hz:∀ x∈l,x.left.sz≤1000000∧x.right.sz≤1000000) (hS:∀ (i:Nat) x y,l[i]? = some x→l[i+1]? = some y→Ax.cmp x y=-1) (hcap:l.length≤cap∧cap≤2199023255488) (p:List Pc) (hPL:ad_ l=(p,0)) (hpl:p.length≤1000) (x:Ax) (hox:x.ok) (q:List Pc) (F:List Fc) (hG:x.goalP=(q,F,0)) (hql:q.length≤1000):Tri Tryz.prog 23 #[.agg #[.slice ad (List.length l) cap],Ax.val x] [] [aR_ ad l,bn_,Ax.memF x] (fun y:{y:Value×Hp // zR 48 16 Ax.cells y.1 (cV_ l (di_ l (p++q) (em_ q) (List.length l))) y.2}=>.tuple #[.agg #[y.1.1],.int .i64 0]) (fun y=>y.1.2) (fun _=>[]):=by
 refine j_ Tryz.func23 rfl rfl Tryz.ntmps23 rfl fun v0=>?_
 refine at_ ?_
 refine X_ ?_
 refine N_ rfl rfl fun b1=>?_
 refine N_ rfl rfl fun b2=>?_
 refine G_ cQ_ rfl fun b3=>?_
 refine c_ (aq_ rfl) rfl ?_
 refine ap_ ?_
 refine ab_ rfl ?_
 refine at_ ?_
 refine X_ ?_
 refine c_ (bs_ 2 gE_ bl_ rfl rfl rfl) rfl ?_
 refine d_ (mo_ l ad cap hok hC hP hll hz hS hcap p hPL hpl) rfl e_ zf rfl fun⟨⟨pad,pcap⟩,hpc1,hpc2,hpc3⟩=>?_
 dsimp only
 refine c_ (H_ rfl) rfl ?_
 refine c_ (cG_ rfl rfl) rfl ?_
 refine c_ (cG_ rfl rfl) rfl ?_
 refine c_ (aq_ rfl) rfl ?_
 refine c_ (aq_ rfl) rfl ?_
 refine ap_ ?_
 refine ab_ rfl ?_
 refine at_ ?_
 refine at_ ?_
 refine X_ ?_
 refine c_ (H_ rfl) rfl ?_
 refine c_ (aA_ (bR_ rfl rfl) (show _=Value.bool false from congrArg Value.bool (by decide))) rfl ?_
 refine ap_ ?_
 refine ab_ rfl ?_
 refine bx_ rfl ?_
 refine ch_ ?_
 refine ab_ rfl ?_
 refine at_ ?_
 refine X_ ?_
 refine c_ (bs_ 1 K_ f_ rfl rfl rfl) rfl ?_
 refine d_ (goal_m hox hG) rfl e_ zf rfl fun⟨⟨qad,qcap,fad,fcap⟩,hqc1,hqc2,hfc1,hfc2,hqc3⟩=>?_
 dsimp only
 refine c_ (H_ rfl) rfl ?_
 refine c_ (cG_ rfl rfl) rfl ?_
 refine c_ (cG_ rfl rfl) rfl ?_
 refine c_ (cG_ rfl rfl) rfl ?_
 refine c_ (aq_ rfl) rfl ?_
 refine c_ (aq_ rfl) rfl ?_
 refine c_ (aq_ rfl) rfl ?_
 refine ap_ ?_
 refine ab_ rfl ?_
 refine at_ ?_
 refine at_ ?_
 refine X_ ?_
 refine c_ (H_ rfl) rfl ?_
 refine c_ (aA_ (bR_ rfl rfl) (show _=Value.bool false from congrArg Value.bool (by decide))) rfl ?_
 refine ap_ ?_
 refine ab_ rfl ?_
 refine bx_ rfl ?_
 refine ch_ ?_
 refine ab_ rfl ?_
 refine at_ ?_
 refine at_ ?_
 refine X_ ?_
 refine c_ (H_ rfl) rfl ?_
 refine c_ (dl_ x_ rfl) rfl ?_
 refine c_ (H_ rfl) rfl ?_
 refine c_ (dl_ x_ rfl) rfl ?_
 refine c_ (as_ rfl rfl rfl (aV_ (by omega) (by omega))) rfl ?_
 refine y_ (eb_ rfl rfl) rfl fun r1 hr1=>?_
 refine ap_ ?_
 refine ab_ rfl ?_
 cases r1
 ·replace hr1:=zdf hr1
  refine bx_ rfl ?_
  refine ch_ ?_
  refine ab_ rfl ?_
  refine at_ ?_
  refine bf_ ((b2,.cells #[.int .i64 (Ax.kind x),.bool (Ax.opn x),.int .i64 (Con.kind (Ax.left x)),str (Con.name (Ax.left x)),.int .i64 (Con.lo (Ax.left x)),.int .i64 (Con.hi (Ax.left x)),.slice (Con.ad (Ax.left x)) (List.length (Con.parts (Ax.left x))) (Con.cap (Ax.left x)),.int .i64 (Con.kind (Ax.right x)),str (Con.name (Ax.right x)),.int .i64 (Con.lo (Ax.right x)),.int .i64 (Con.hi (Ax.right x)),.slice (Con.ad (Ax.right x)) (List.length (Con.parts (Ax.right x))) (Con.cap (Ax.right x)),.slice (Ax.ad x) (List.length (Ax.roles x)) (Ax.cap x),str (Ax.role x),str (Ax.a x),str (Ax.b x)] 48 (0,0))::((b1,.cells #[.slice ad (List.length l) cap] 37 (0,0))::[])) zk ?_
  refine Q_ 6 [0,1,2,3,6] zk zs ?_
  refine P_ rfl (dq_ bd_ rfl rfl rfl fy_) rfl ?_
  refine P_ rfl (aO_ 1 jn_ rfl rfl rfl) rfl ?_
  refine P_ rfl (H_ rfl) rfl ?_
  refine P_ rfl (H_ rfl) rfl ?_
  refine P_ rfl (H_ rfl) rfl ?_
  refine ba_ ?_
  refine p_ 4 rfl zk ?_
  refine B_ bw_ fx_ Tryz.zeroValue54 rfl rfl rfl rfl rfl rfl fun b4=>?_
  refine ai_ (List.flatMap PL.cells [(PL.mk p pad pcap),(PL.mk q qad qcap)]) i_ rfl ?_
  refine ap_ ?_
  refine bU_ rfl ?_
  refine S_ zs ?_
  refine p_ 5 rfl zk ?_
  refine d_ ((show Tri Tryz.prog 59 _ [] _ (fun y:{y:Option Addr×Nat // (p++q).length≤y.2∧y.2≤maxLen∧(y.1=none→y.2=0)}=>.slice y.1.1 (p++q).length y.1.2) (fun _=>[]) (fun y=>[ac_ y.1.1 ((p++q).flatMap Pc.cells)]) from by have h:=tB_ [(PL.mk p pad pcap),(PL.mk q qad qcap)] (some ⟨b4,0,none⟩) 2 (fun y hy=>by simp only[List.mem_cons,List.not_mem_nil,or_false]at hy;rcases hy with rfl|rfl;exact⟨hpc1,hpc3,by dsimp only;omega⟩;exact⟨hqc1,hqc3,by dsimp only;omega⟩) (by simp);have eC:(gd_ [(PL.mk p pad pcap),(PL.mk q qad qcap)])=p++q:=(by simp[gd_]);rw[eC]at h;exact h)) rfl e_ (fun v _ h=>by refine⟨h.1,fun y hy=>?_,trivial⟩;simp only[List.mem_cons,List.not_mem_nil,or_false]at hy;rcases hy with rfl|rfl;exact h.2.2.2.1;exact h.2.1) rfl fun⟨⟨ccad,cccap⟩,hcc1,hcc2,hcc3⟩=>?_
  dsimp only
  refine ap_ ?_
  refine bU_ rfl ?_
  refine S_ zs ?_
  refine p_ 7 rfl zk ?_
  refine d_ (uV_ q qad qcap (by omega)) rfl e_ zf rfl fun⟨⟨aad,acap⟩,hac,ham⟩=>?_
  dsimp only
  refine ap_ ?_
  refine bU_ rfl ?_
  refine S_ zs ?_
  refine p_ 8 rfl zk ?_
  refine d_ (sJ_ l ad cap (p++q) ccad cccap (em_ q) aad acap (by rw[List.length_append];omega) (by have:=pz_ q;omega) (by omega)) rfl e_ zf rfl fun⟨⟨svq,Hqq,Lq⟩,hrq,hLq⟩=>?_
  dsimp only
  dsimp only at hrq hLq ⊢
  subst hLq
  refine ap_ ?_
  refine bU_ rfl ?_
  refine S_ zs ?_
  refine p_ 9 rfl zk ?_
  refine u_ (bm_ (an_ i_) (bm_ (an_ i_) (bO_ br_))) ?_
  refine n_ 0 bl_ rfl rfl rfl rfl rfl (by have q:=(db_ hrq).2;simp only[Value.cells,List.all_cons,List.all_nil,q,Bool.and_true]) ?_
  refine ap_ ?_
  refine bU_ rfl ?_
  refine S_ (fun _ a b=>⟨Vw.sat.sub (a.perm (V_ (l_ i_) (l_ i_))),b.2.2.2⟩) ?_
  refine Q_ 0 [10] zk (fun _ a b=>⟨Vw.sat.sub (a.perm (V_ (l_ i_) (l_ i_))),b.2.2.2⟩) ?_
  refine P_ rfl (aq_ rfl) rfl ?_
  refine ba_ ?_
  refine is_ zk ?_
  refine ab_ rfl ?_
  refine gR_ ?_
  exact cr_ ⟨(svq,Hqq),hrq⟩ (fun aa v h1 h2=>bg_ (us:=[svq]) 0 Tryz.results23 gE_ bl_ rfl rfl rfl rfl aa v h1 h2) (l_ (l_ au_)) zt
 replace hr1:=zdt hr1
 exfalso;omega
end Go.Proofs.YtamklbgaipakfaaGreatDoor
namespace Go.Proofs.YtamklbgaipakfaaGreatDoor
open Go Go.Sx Go.Proofs
attribute [local irreducible] Code.wp wpList wpAnyH
open Go.Vs
theorem dn_ (x y:Int):Fn0 Tryz.prog 153 #[.int .i64 x,.int .i64 y] (.int .i64 (Lib.compareInt x y)):=by
 refine j_ Tryz.func153 rfl rfl Tryz.ntmps153 rfl fun v0=>?_
 refine Zi 10 (fun hr1=>?_) fun hr1=>?_
 ·refine Zi 10 (fun hr2=>?_) fun hr2=>?_
  ·refine Zz 11 ?_
   exact E_ Tryz.results153 () (O_ rfl (by unfold Lib.compareInt;rw[if_neg hr1,if_neg hr2])) e_ zt
  refine Zz 9 ?_
  exact E_ Tryz.results153 () (O_ rfl (by unfold Lib.compareInt;rw[if_neg hr1,if_pos hr2])) e_ zt
 refine Zz 9 ?_
 exact E_ Tryz.results153 () (O_ rfl (by unfold Lib.compareInt;rw[if_pos hr1])) e_ zt
theorem cB_ (x y:Str):Fn0 Tryz.prog 156 #[str x,str y] (.int .i64 (Lib.compareBytes x y)):=by
 refine j_ Tryz.func156 rfl rfl Tryz.ntmps156 rfl fun v0=>?_
 refine Zi 10 (fun hr1=>?_) fun hr1=>?_
 ·refine Zz 10 ?_
  refine y_ (nb_ rfl rfl) rfl fun r2 hr2=>Zz 2 ?_
  cases r2
  ·replace hr2:=zdf hr2
   refine Zz 9 ?_
   exact E_ Tryz.results156 () (O_ rfl (by rw[hB_,if_neg hr1,if_neg hr2])) e_ zt
  replace hr2:=zdt hr2
  refine Zz 7 ?_
  exact E_ Tryz.results156 () (O_ rfl (by rw[hB_,if_neg hr1,if_pos hr2])) e_ zt
 refine Zz 9 ?_
 exact E_ Tryz.results156 () (O_ rfl (by rw[hB_,if_pos hr1])) e_ zt
theorem sB_:∀ (m:Nat) (c d:Con),c.sz≤m→c.ok→d.ok→c.sz≤1000→d.sz≤1000→Tri Tryz.prog 155 #[Con.val c,Con.val d] [] [Con.memF c,Con.memF d] (fun _:Unit=>.int .i64 (Con.cmp c d)) (fun _=>[]) (fun _=>[]):=by
 intro m
 induction m with
 | zero=>intro c d h;have:=Con.sz_pos c;omega
 | succ m ih =>
   intro c d h hok1 hok2 hz1 hz2
   have hpl1:=Con.parts_lt c
   have hpl2:=Con.parts_lt d
   refine j_ Tryz.func155 rfl rfl Tryz.ntmps155 rfl fun v0=>?_
   refine Zz 2 ?_
   refine N_ rfl rfl fun b1=>N_ rfl rfl fun b2=>Zz 5 ?_
   refine Q_ 4 [0,2] zk zs (Zz 3 ?_)
   refine p_ 1 rfl zk (d_ (jx_ _ c (Nat.le_refl _) hok1 hz1) rfl e_ zf rfl fun _=>Zz 3 ?_)
   refine p_ 3 rfl zk (d_ (jx_ _ d (Nat.le_refl _) hok2 hz2) rfl e_ zf rfl fun _=>Zz 3 ?_)
   refine p_ 4 rfl zk (d_ (dn_ (Con.sz c:Int) (Con.sz d:Int)) rfl e_ zt rfl fun _=>Zz 3 ?_)
   refine Q_ 0 [5] zk zs (Zz 8 ?_)
   refine y_ (ay_ rfl rfl) rfl fun r1 hr1=>Zz 2 ?_
   refine bB_ (ι:={y:Int // y=orF ([(Lib.compareInt (Con.sz c:Int) (Con.sz d:Int))]++[(Lib.compareInt (Con.kind c) (Con.kind d))])}) (fun y=>[(2,zp_ b1 0),(3,zp_ b2 0),(4,.int .i64 0),(5,.int .i64 y.1)]) (fun y=>((b2,.cells #[.int .i64 (Con.kind d),str (Con.name d),.int .i64 (Con.lo d),.int .i64 (Con.hi d),.slice (Con.ad d) (List.length (Con.parts d)) (Con.cap d)] 46 (0,0))::((b1,.cells #[.int .i64 (Con.kind c),str (Con.name c),.int .i64 (Con.lo c),.int .i64 (Con.hi c),.slice (Con.ad c) (List.length (Con.parts c)) (Con.cap c)] 46 (0,0))::[]))) (fun y=>[Con.memF c,Con.memF d]) ?_ ?_
   · skip
     cases r1
     · skip
       replace hr1:=znb hr1
       refine Zz 3 ?_
       exact al_ ⟨(Lib.compareInt (Con.sz c:Int) (Con.sz d:Int)),(dG_ (hW_ _).symm hr1)⟩ zl zp zf
     · skip
       replace hr1:=zeb hr1
       refine Zz 6 ?_
       refine d_ (dn_ (Con.kind c) (Con.kind d)) rfl e_ zt rfl fun _=>Zz 3 ?_
       exact al_ ⟨(Lib.compareInt (Con.kind c) (Con.kind d)),(cY_ (hW_ _).symm hr1)⟩ zl zp zf
   · skip
     rintro ⟨nn1,hnn1⟩
     dsimp only
     refine Zz 5 ?_
     refine y_ (ay_ rfl rfl) rfl fun r2 hr2=>Zz 2 ?_
     refine bB_ (ι:={y:Int // y=orF (([(Lib.compareInt (Con.sz c:Int) (Con.sz d:Int))]++[(Lib.compareInt (Con.kind c) (Con.kind d))])++[(Lib.compareBytes (Con.name c) (Con.name d))])}) (fun y=>[(2,zp_ b1 0),(3,zp_ b2 0),(4,.int .i64 0),(5,.int .i64 y.1)]) (fun y=>((b2,.cells #[.int .i64 (Con.kind d),str (Con.name d),.int .i64 (Con.lo d),.int .i64 (Con.hi d),.slice (Con.ad d) (List.length (Con.parts d)) (Con.cap d)] 46 (0,0))::((b1,.cells #[.int .i64 (Con.kind c),str (Con.name c),.int .i64 (Con.lo c),.int .i64 (Con.hi c),.slice (Con.ad c) (List.length (Con.parts c)) (Con.cap c)] 46 (0,0))::[]))) (fun y=>[Con.memF c,Con.memF d]) ?_ ?_
     · skip
       cases r2
       · skip
         replace hr2:=znb hr2
         refine Zz 3 ?_
         exact al_ ⟨nn1,(dG_ hnn1 hr2)⟩ zl zp zf
       · skip
         replace hr2:=zeb hr2
         refine Zz 6 ?_
         refine d_ (cB_ (Con.name c) (Con.name d)) rfl e_ zt rfl fun _=>Zz 3 ?_
         exact al_ ⟨(Lib.compareBytes (Con.name c) (Con.name d)),(cY_ hnn1 hr2)⟩ zl zp zf
     · skip
       rintro ⟨nn2,hnn2⟩
       dsimp only
       refine Zz 5 ?_
       refine y_ (ay_ rfl rfl) rfl fun r3 hr3=>Zz 2 ?_
       refine bB_ (ι:={y:Int // y=orF ((([(Lib.compareInt (Con.sz c:Int) (Con.sz d:Int))]++[(Lib.compareInt (Con.kind c) (Con.kind d))])++[(Lib.compareBytes (Con.name c) (Con.name d))])++[(Lib.compareInt (Con.lo c) (Con.lo d))])}) (fun y=>[(2,zp_ b1 0),(3,zp_ b2 0),(4,.int .i64 0),(5,.int .i64 y.1)]) (fun y=>((b2,.cells #[.int .i64 (Con.kind d),str (Con.name d),.int .i64 (Con.lo d),.int .i64 (Con.hi d),.slice (Con.ad d) (List.length (Con.parts d)) (Con.cap d)] 46 (0,0))::((b1,.cells #[.int .i64 (Con.kind c),str (Con.name c),.int .i64 (Con.lo c),.int .i64 (Con.hi c),.slice (Con.ad c) (List.length (Con.parts c)) (Con.cap c)] 46 (0,0))::[]))) (fun y=>[Con.memF c,Con.memF d]) ?_ ?_
       · skip
         cases r3
         · skip
           replace hr3:=znb hr3
           refine Zz 3 ?_
           exact al_ ⟨nn2,(dG_ hnn2 hr3)⟩ zl zp zf
         · skip
           replace hr3:=zeb hr3
           refine Zz 6 ?_
           refine d_ (dn_ (Con.lo c) (Con.lo d)) rfl e_ zt rfl fun _=>Zz 3 ?_
           exact al_ ⟨(Lib.compareInt (Con.lo c) (Con.lo d)),(cY_ hnn2 hr3)⟩ zl zp zf
       · skip
         rintro ⟨nn3,hnn3⟩
         dsimp only
         refine Zz 5 ?_
         refine y_ (ay_ rfl rfl) rfl fun r4 hr4=>Zz 2 ?_
         refine bB_ (ι:={y:Int // y=orF (((([(Lib.compareInt (Con.sz c:Int) (Con.sz d:Int))]++[(Lib.compareInt (Con.kind c) (Con.kind d))])++[(Lib.compareBytes (Con.name c) (Con.name d))])++[(Lib.compareInt (Con.lo c) (Con.lo d))])++[(Lib.compareInt (Con.hi c) (Con.hi d))])}) (fun y=>[(2,zp_ b1 0),(3,zp_ b2 0),(4,.int .i64 0),(5,.int .i64 y.1)]) (fun y=>((b2,.cells #[.int .i64 (Con.kind d),str (Con.name d),.int .i64 (Con.lo d),.int .i64 (Con.hi d),.slice (Con.ad d) (List.length (Con.parts d)) (Con.cap d)] 46 (0,0))::((b1,.cells #[.int .i64 (Con.kind c),str (Con.name c),.int .i64 (Con.lo c),.int .i64 (Con.hi c),.slice (Con.ad c) (List.length (Con.parts c)) (Con.cap c)] 46 (0,0))::[]))) (fun y=>[Con.memF c,Con.memF d]) ?_ ?_
         · skip
           cases r4
           · skip
             replace hr4:=znb hr4
             refine Zz 3 ?_
             exact al_ ⟨nn3,(dG_ hnn3 hr4)⟩ zl zp zf
           · skip
             replace hr4:=zeb hr4
             refine Zz 6 ?_
             refine d_ (dn_ (Con.hi c) (Con.hi d)) rfl e_ zt rfl fun _=>Zz 3 ?_
             exact al_ ⟨(Lib.compareInt (Con.hi c) (Con.hi d)),(cY_ hnn3 hr4)⟩ zl zp zf
         · skip
           rintro ⟨nn4,hnn4⟩
           dsimp only
           refine Zz 8 ?_
           refine Y_ (ι:={y:Nat×Int // ft_ nn4 y.2 (Con.cmp.cmps (Con.parts c) (Con.parts d)) (Con.cmp.cmps (List.drop y.1 (Con.parts c)) (List.drop y.1 (Con.parts d))) (y.1≤List.length (Con.parts c)∧y.1≤List.length (Con.parts d))}) (fun y=>[(2,zp_ b1 0),(3,zp_ b2 0),(4,.int .i64 0),(5,.int .i64 y.1.2),(6,.int .i64 (y.1.1:Int))]) (fun y=>((b2,.cells #[.int .i64 (Con.kind d),str (Con.name d),.int .i64 (Con.lo d),.int .i64 (Con.hi d),.slice (Con.ad d) (List.length (Con.parts d)) (Con.cap d)] 46 (0,0))::((b1,.cells #[.int .i64 (Con.kind c),str (Con.name c),.int .i64 (Con.lo c),.int .i64 (Con.hi c),.slice (Con.ad c) (List.length (Con.parts c)) (Con.cap c)] 46 (0,0))::[]))) (fun y=>[Con.memF c,Con.memF d]) (fun y=>List.length (Con.parts c) - y.1.1) ⟨((0:Nat),nn4),(ft_.init ⟨Nat.zero_le _,Nat.zero_le _⟩)⟩ zl zp zh ?_
           rintro ⟨⟨i,n⟩,hlx⟩
           dsimp only at hlx ⊢
           refine Zi 4 (fun hr5=>?_) fun hr5=>?_
           · skip
             refine Zz 23 ?_
             refine y_ (ay_ rfl rfl) rfl fun r6 hr6=>Zz 2 ?_
             refine bB_ (ι:={y:Int // y=(if n=0 then (Lib.compareInt (List.length (Con.parts c):Int) (List.length (Con.parts d):Int)) else n)}) (fun y=>[(2,zp_ b1 0),(3,zp_ b2 0),(4,.int .i64 0),(6,.int .i64 (i:Int)),(5,.int .i64 y.1)]) (fun y=>((b2,.cells #[.int .i64 (Con.kind d),str (Con.name d),.int .i64 (Con.lo d),.int .i64 (Con.hi d),.slice (Con.ad d) (List.length (Con.parts d)) (Con.cap d)] 46 (0,0))::((b1,.cells #[.int .i64 (Con.kind c),str (Con.name c),.int .i64 (Con.lo c),.int .i64 (Con.hi c),.slice (Con.ad c) (List.length (Con.parts c)) (Con.cap c)] 46 (0,0))::[]))) (fun y=>[Con.memF c,Con.memF d]) ?_ ?_
             · skip
               cases r6
               · skip
                 replace hr6:=znb hr6
                 refine Zz 3 ?_
                 exact al_ ⟨n,(by rw[if_neg hr6])⟩ zl zp zf
               · skip
                 replace hr6:=zeb hr6
                 refine Zz 8 ?_
                 refine d_ (dn_ (List.length (Con.parts c):Int) (List.length (Con.parts d):Int)) rfl e_ zt rfl fun _=>Zz 3 ?_
                 exact al_ ⟨(Lib.compareInt (List.length (Con.parts c):Int) (List.length (Con.parts d):Int)),(by rw[if_pos hr6])⟩ zl zp zf
             · skip
               rintro ⟨nn5,hnn5⟩
               dsimp only
               have hor5:=ft_.or (o:=(Lib.compareInt (List.length (Con.parts c):Int) (List.length (Con.parts d):Int))) hlx hnn4 (fun hn hv ha=>kB_ ha.1 ha.2 (by first|(left;omega)|(right;omega)))
               rw[← hnn5]at hor5
               refine Zz 8 ?_
               exact E_ Tryz.results155 () (O_ rfl (by rw[hor5];exact (Con.cmp_eq c d).symm)) e_ zt
           · skip
             refine Zi 10 (fun hr7=>?_) fun hr7=>?_
             · skip
               refine Zz 17 ?_
               refine y_ (ay_ rfl rfl) rfl fun r8 hr8=>Zz 2 ?_
               refine bB_ (ι:={y:Int // y=(if n=0 then (Lib.compareInt (List.length (Con.parts c):Int) (List.length (Con.parts d):Int)) else n)}) (fun y=>[(2,zp_ b1 0),(3,zp_ b2 0),(4,.int .i64 0),(6,.int .i64 (i:Int)),(5,.int .i64 y.1)]) (fun y=>((b2,.cells #[.int .i64 (Con.kind d),str (Con.name d),.int .i64 (Con.lo d),.int .i64 (Con.hi d),.slice (Con.ad d) (List.length (Con.parts d)) (Con.cap d)] 46 (0,0))::((b1,.cells #[.int .i64 (Con.kind c),str (Con.name c),.int .i64 (Con.lo c),.int .i64 (Con.hi c),.slice (Con.ad c) (List.length (Con.parts c)) (Con.cap c)] 46 (0,0))::[]))) (fun y=>[Con.memF c,Con.memF d]) ?_ ?_
               · skip
                 cases r8
                 · skip
                   replace hr8:=znb hr8
                   refine Zz 3 ?_
                   exact al_ ⟨n,(by rw[if_neg hr8])⟩ zl zp zf
                 · skip
                   replace hr8:=zeb hr8
                   refine Zz 8 ?_
                   refine d_ (dn_ (List.length (Con.parts c):Int) (List.length (Con.parts d):Int)) rfl e_ zt rfl fun _=>Zz 3 ?_
                   exact al_ ⟨(Lib.compareInt (List.length (Con.parts c):Int) (List.length (Con.parts d):Int)),(by rw[if_pos hr8])⟩ zl zp zf
               · skip
                 rintro ⟨nn6,hnn6⟩
                 dsimp only
                 have hor6:=ft_.or (o:=(Lib.compareInt (List.length (Con.parts c):Int) (List.length (Con.parts d):Int))) hlx hnn4 (fun hn hv ha=>kB_ ha.1 ha.2 (by first|(left;omega)|(right;omega)))
                 rw[← hnn6]at hor6
                 refine Zz 8 ?_
                 exact E_ Tryz.results155 () (O_ rfl (by rw[hor6];exact (Con.cmp_eq c d).symm)) e_ zt
             · skip
               refine Zi 11 (fun hr9=>?_) fun hr9=>?_
               · skip
                 refine Zz 10 ?_
                 refine y_ (ay_ rfl rfl) rfl fun r10 hr10=>Zz 2 ?_
                 refine bB_ (ι:={y:Int // y=(if n=0 then (Lib.compareInt (List.length (Con.parts c):Int) (List.length (Con.parts d):Int)) else n)}) (fun y=>[(2,zp_ b1 0),(3,zp_ b2 0),(4,.int .i64 0),(6,.int .i64 (i:Int)),(5,.int .i64 y.1)]) (fun y=>((b2,.cells #[.int .i64 (Con.kind d),str (Con.name d),.int .i64 (Con.lo d),.int .i64 (Con.hi d),.slice (Con.ad d) (List.length (Con.parts d)) (Con.cap d)] 46 (0,0))::((b1,.cells #[.int .i64 (Con.kind c),str (Con.name c),.int .i64 (Con.lo c),.int .i64 (Con.hi c),.slice (Con.ad c) (List.length (Con.parts c)) (Con.cap c)] 46 (0,0))::[]))) (fun y=>[Con.memF c,Con.memF d]) ?_ ?_
                 · skip
                   cases r10
                   · skip
                     replace hr10:=znb hr10
                     refine Zz 3 ?_
                     exact al_ ⟨n,(by rw[if_neg hr10])⟩ zl zp zf
                   · skip
                     replace hr10:=zeb hr10
                     refine Zz 8 ?_
                     refine d_ (dn_ (List.length (Con.parts c):Int) (List.length (Con.parts d):Int)) rfl e_ zt rfl fun _=>Zz 3 ?_
                     exact al_ ⟨(Lib.compareInt (List.length (Con.parts c):Int) (List.length (Con.parts d):Int)),(by rw[if_pos hr10])⟩ zl zp zf
                 · skip
                   rintro ⟨nn7,hnn7⟩
                   dsimp only
                   have hor7:=ft_.or (o:=(Lib.compareInt (List.length (Con.parts c):Int) (List.length (Con.parts d):Int))) hlx hnn4 (fun hn hv ha=>kB_ ha.1 ha.2 (by first|(left;omega)|(right;omega)))
                   rw[← hnn7]at hor7
                   refine Zz 8 ?_
                   exact E_ Tryz.results155 () (O_ rfl (by rw[hor7];exact (Con.cmp_eq c d).symm)) e_ zt
               · skip
                 obtain⟨hlx1,x1,hx1,hmx1⟩:=zge (show i<List.length (Con.parts c) by omega)
                 have hly1:i<List.length (Con.parts d):=by omega
                 obtain⟨y1,hy1⟩:∃ e0,(Con.parts d)[i]? = some e0:=⟨_,List.getElem?_eq_getElem hly1⟩
                 have hmy1:y1∈(Con.parts d):=List.mem_of_getElem? hy1
                 have hn0:n=0:=by assumption
                 refine Zz 9 ?_
                 refine Q_ 2 [0,1,2,3,4,5,6,7,8,9] zk zs (Zz 3 ?_)
                 refine P_ rfl (C_ D_ g_ rfl rfl (fun v _ h=>q_ (n:=5) Con.cells_len (by decide) (by exact ((Con.mem_iff c v).1 h.1).1) hx1) (by omega) (by first|omega|(simp;done))) rfl ?_
                 refine P_ rfl (L_ (ad:=(Con.ad c)) (us:=Con.cells x1) R_ g_ rfl (fun v _ h=>by exact ((Con.mem_iff c v).1 h.1).1) (Con.cells_len _) (o_ Con.cells_len hx1)) rfl (Zz 3 ?_)
                 refine P_ rfl (C_ D_ g_ rfl rfl (fun v _ h=>q_ (n:=5) Con.cells_len (by decide) (by exact ((Con.mem_iff d v).1 h.2.1).1) hy1) (by omega) (by first|omega|(simp;done))) rfl ?_
                 refine P_ rfl (L_ (ad:=(Con.ad d)) (us:=Con.cells y1) R_ g_ rfl (fun v _ h=>by exact ((Con.mem_iff d v).1 h.2.1).1) (Con.cells_len _) (o_ Con.cells_len hy1)) rfl (ba_ (p_ 10 rfl zk (d_ (ih x1 y1 (by have:=Con.sz_part hmx1;omega) (Con.ok_part hok1 hmx1) (Con.ok_part hok2 hmy1) (by have:=Con.sz_part hmx1;omega) (by have:=Con.sz_part hmy1;omega)) rfl e_ (fun v _ h=>by exact⟨(Con.mem_part (c:=c) h.1 hmx1),(Con.mem_part (c:=d) h.2.1 hmy1),trivial⟩) rfl fun _=>?_)))
                 refine Zz 3 ?_
                 refine Q_ 0 [11] zk zs (Zz 10 ?_)
                 exact z_ ⟨(i+1,(Con.cmp x1 y1)),ft_.step (by rw[hn0]at hlx;exact hlx) (by rw[mP_ hx1 hy1]) (fun _=>⟨by omega,by omega⟩)⟩ (by dsimp only;omega) zl zp zh
end Go.Proofs.YtamklbgaipakfaaGreatDoor
namespace Go.Proofs.YtamklbgaipakfaaGreatDoor
open Go Go.Sx Go.Proofs
attribute [local irreducible] Code.wp wpList wpAnyH
open Go.Vs
theorem lo_ (x:Ax) (hok:x.ok) (hz1:x.left.sz≤1000) (hz2:x.right.sz≤1000):Tri Tryz.prog 154 #[Ax.val x] [] [Ax.memF x] (fun _:Unit=>.int .i64 x.wgt) (fun _=>[]) (fun _=>[]):=by
 refine j_ Tryz.func154 rfl rfl Tryz.ntmps154 rfl fun v0=>?_
 have hrl:=hok.len
 have hrc:=hok.cap
 refine Zz 2 ?_
 refine N_ rfl rfl fun b1=>Zz 17 ?_
 refine y_ (bR_ rfl rfl) rfl fun r1 hr1=>Zz 2 ?_
 refine bB_ (ι:={y:Int // y=(if (bne (Con.kind (Ax.left x)) 0)=true then ((List.length (Ax.roles x):Int)+(Con.sz (Ax.left x):Int)) else (List.length (Ax.roles x):Int))}) (fun y=>[(1,zp_ b1 0),(2,.int .i64 0),(3,.int .i64 y.1)]) (fun y=>((b1,.cells #[.int .i64 (Ax.kind x),.bool (Ax.opn x),.int .i64 (Con.kind (Ax.left x)),str (Con.name (Ax.left x)),.int .i64 (Con.lo (Ax.left x)),.int .i64 (Con.hi (Ax.left x)),.slice (Con.ad (Ax.left x)) (List.length (Con.parts (Ax.left x))) (Con.cap (Ax.left x)),.int .i64 (Con.kind (Ax.right x)),str (Con.name (Ax.right x)),.int .i64 (Con.lo (Ax.right x)),.int .i64 (Con.hi (Ax.right x)),.slice (Con.ad (Ax.right x)) (List.length (Con.parts (Ax.right x))) (Con.cap (Ax.right x)),.slice (Ax.ad x) (List.length (Ax.roles x)) (Ax.cap x),str (Ax.role x),str (Ax.a x),str (Ax.b x)] 48 (0,0))::[])) (fun y=>[Ax.memF x]) ?_ ?_
 ·cases r1
  ·replace hr1:=dZ_ hr1
   refine Zz 3 ?_
   exact al_ ⟨(List.length (Ax.roles x):Int),(by rw[if_neg (by simpa using hr1)])⟩ zl i_ zf
  replace hr1:=dV_ hr1
  refine Zz 5 ?_
  refine d_ (jx_ _ (Ax.left x) (Nat.le_refl _) hok.left hz1) rfl e_ (fun v _ h=>by exact⟨h.1.1,trivial⟩) rfl fun _=>Zz 4 ?_
  exact al_ ⟨((List.length (Ax.roles x):Int)+(Con.sz (Ax.left x):Int)),(by rw[if_pos (by simpa using hr1)])⟩ zl i_ zf
 rintro ⟨nn1,hnn1⟩
 dsimp only
 have hbw1:nn1≤8796093021952+1*1001∧0≤nn1:=by have q:=hnn1;split at q<;>omega
 refine Zz 7 ?_
 refine y_ (bR_ rfl rfl) rfl fun r2 hr2=>Zz 2 ?_
 refine bB_ (ι:={y:Int // y=(if (bne (Con.kind (Ax.right x)) 0)=true then (nn1+(Con.sz (Ax.right x):Int)) else nn1)}) (fun y=>[(1,zp_ b1 0),(2,.int .i64 0),(3,.int .i64 y.1)]) (fun y=>((b1,.cells #[.int .i64 (Ax.kind x),.bool (Ax.opn x),.int .i64 (Con.kind (Ax.left x)),str (Con.name (Ax.left x)),.int .i64 (Con.lo (Ax.left x)),.int .i64 (Con.hi (Ax.left x)),.slice (Con.ad (Ax.left x)) (List.length (Con.parts (Ax.left x))) (Con.cap (Ax.left x)),.int .i64 (Con.kind (Ax.right x)),str (Con.name (Ax.right x)),.int .i64 (Con.lo (Ax.right x)),.int .i64 (Con.hi (Ax.right x)),.slice (Con.ad (Ax.right x)) (List.length (Con.parts (Ax.right x))) (Con.cap (Ax.right x)),.slice (Ax.ad x) (List.length (Ax.roles x)) (Ax.cap x),str (Ax.role x),str (Ax.a x),str (Ax.b x)] 48 (0,0))::[])) (fun y=>[Ax.memF x]) ?_ ?_
 ·cases r2
  ·replace hr2:=dZ_ hr2
   refine Zz 3 ?_
   exact al_ ⟨nn1,(by rw[if_neg (by simpa using hr2)])⟩ zl i_ zf
  replace hr2:=dV_ hr2
  refine Zz 5 ?_
  refine d_ (jx_ _ (Ax.right x) (Nat.le_refl _) hok.right hz2) rfl e_ (fun v _ h=>by exact⟨h.1.2.1,trivial⟩) rfl fun _=>Zz 4 ?_
  exact al_ ⟨(nn1+(Con.sz (Ax.right x):Int)),(by rw[if_pos (by simpa using hr2)])⟩ zl i_ zf
 rintro ⟨nn2,hnn2⟩
 dsimp only
 have hbw2:nn2≤8796093021952+2*1001∧0≤nn2:=by have q:=hnn2;split at q<;>omega
 refine Zz 6 ?_
 refine y_ (ea_ rfl rfl) rfl fun r3 hr3=>Zz 2 ?_
 refine bB_ (ι:={y:Int // y=(if (bne (Ax.role x) [])=true then (nn2+1) else nn2)}) (fun y=>[(1,zp_ b1 0),(2,.int .i64 0),(3,.int .i64 y.1)]) (fun y=>((b1,.cells #[.int .i64 (Ax.kind x),.bool (Ax.opn x),.int .i64 (Con.kind (Ax.left x)),str (Con.name (Ax.left x)),.int .i64 (Con.lo (Ax.left x)),.int .i64 (Con.hi (Ax.left x)),.slice (Con.ad (Ax.left x)) (List.length (Con.parts (Ax.left x))) (Con.cap (Ax.left x)),.int .i64 (Con.kind (Ax.right x)),str (Con.name (Ax.right x)),.int .i64 (Con.lo (Ax.right x)),.int .i64 (Con.hi (Ax.right x)),.slice (Con.ad (Ax.right x)) (List.length (Con.parts (Ax.right x))) (Con.cap (Ax.right x)),.slice (Ax.ad x) (List.length (Ax.roles x)) (Ax.cap x),str (Ax.role x),str (Ax.a x),str (Ax.b x)] 48 (0,0))::[])) (fun y=>[Ax.memF x]) ?_ ?_
 ·cases r3
  ·replace hr3:=dZ_ hr3
   refine Zz 3 ?_
   exact al_ ⟨nn2,(by rw[if_neg (by simpa using hr3)])⟩ zl i_ zf
  replace hr3:=dV_ hr3
  refine Zz 7 ?_
  exact al_ ⟨(nn2+1),(by rw[if_pos (by simpa using hr3)])⟩ zl i_ zf
 rintro ⟨nn3,hnn3⟩
 dsimp only
 have hbw3:nn3≤8796093021952+3*1001∧0≤nn3:=by have q:=hnn3;split at q<;>omega
 refine Zz 6 ?_
 refine y_ (ea_ rfl rfl) rfl fun r4 hr4=>Zz 2 ?_
 refine bB_ (ι:={y:Int // y=(if (bne (Ax.a x) [])=true then (nn3+1) else nn3)}) (fun y=>[(1,zp_ b1 0),(2,.int .i64 0),(3,.int .i64 y.1)]) (fun y=>((b1,.cells #[.int .i64 (Ax.kind x),.bool (Ax.opn x),.int .i64 (Con.kind (Ax.left x)),str (Con.name (Ax.left x)),.int .i64 (Con.lo (Ax.left x)),.int .i64 (Con.hi (Ax.left x)),.slice (Con.ad (Ax.left x)) (List.length (Con.parts (Ax.left x))) (Con.cap (Ax.left x)),.int .i64 (Con.kind (Ax.right x)),str (Con.name (Ax.right x)),.int .i64 (Con.lo (Ax.right x)),.int .i64 (Con.hi (Ax.right x)),.slice (Con.ad (Ax.right x)) (List.length (Con.parts (Ax.right x))) (Con.cap (Ax.right x)),.slice (Ax.ad x) (List.length (Ax.roles x)) (Ax.cap x),str (Ax.role x),str (Ax.a x),str (Ax.b x)] 48 (0,0))::[])) (fun y=>[Ax.memF x]) ?_ ?_
 ·cases r4
  ·replace hr4:=dZ_ hr4
   refine Zz 3 ?_
   exact al_ ⟨nn3,(by rw[if_neg (by simpa using hr4)])⟩ zl i_ zf
  replace hr4:=dV_ hr4
  refine Zz 7 ?_
  exact al_ ⟨(nn3+1),(by rw[if_pos (by simpa using hr4)])⟩ zl i_ zf
 rintro ⟨nn4,hnn4⟩
 dsimp only
 have hbw4:nn4≤8796093021952+4*1001∧0≤nn4:=by have q:=hnn4;split at q<;>omega
 refine Zz 6 ?_
 refine y_ (ea_ rfl rfl) rfl fun r5 hr5=>Zz 2 ?_
 refine bB_ (ι:={y:Int // y=(if (bne (Ax.b x) [])=true then (nn4+1) else nn4)}) (fun y=>[(2,.int .i64 0),(3,.int .i64 y.1)]) (fun y=>((b1,.cells #[.int .i64 (Ax.kind x),.bool (Ax.opn x),.int .i64 (Con.kind (Ax.left x)),str (Con.name (Ax.left x)),.int .i64 (Con.lo (Ax.left x)),.int .i64 (Con.hi (Ax.left x)),.slice (Con.ad (Ax.left x)) (List.length (Con.parts (Ax.left x))) (Con.cap (Ax.left x)),.int .i64 (Con.kind (Ax.right x)),str (Con.name (Ax.right x)),.int .i64 (Con.lo (Ax.right x)),.int .i64 (Con.hi (Ax.right x)),.slice (Con.ad (Ax.right x)) (List.length (Con.parts (Ax.right x))) (Con.cap (Ax.right x)),.slice (Ax.ad x) (List.length (Ax.roles x)) (Ax.cap x),str (Ax.role x),str (Ax.a x),str (Ax.b x)] 48 (0,0))::[])) (fun y=>[Ax.memF x]) ?_ ?_
 ·cases r5
  ·replace hr5:=dZ_ hr5
   refine Zz 3 ?_
   exact al_ ⟨nn4,(by rw[if_neg (by simpa using hr5)])⟩ zl i_ zf
  replace hr5:=dV_ hr5
  refine Zz 7 ?_
  exact al_ ⟨(nn4+1),(by rw[if_pos (by simpa using hr5)])⟩ zl i_ zf
 rintro ⟨nn5,hnn5⟩
 dsimp only
 have hbw5:nn5≤8796093021952+5*1001∧0≤nn5:=by have q:=hnn5;split at q<;>omega
 refine Zz 8 ?_
 exact E_ Tryz.results154 () (O_ rfl (by unfold Ax.wgt;simp only[bne_iff_ne,ne_eq]at hnn1 hnn2 hnn3 hnn4 hnn5;rw[hnn5,hnn4,hnn3,hnn2,hnn1];(repeat' split)<;>first|omega|(exfalso;simp_all;done))) e_ zt
theorem sC_ (x w:Ax) (hok1:x.ok) (hok2:w.ok) (hz1l:x.left.sz≤1000) (hz1r:x.right.sz≤1000) (hz2l:w.left.sz≤1000) (hz2r:w.right.sz≤1000):Tri Tryz.prog 77 #[Ax.val x,Ax.val w] [] [Ax.memF x,Ax.memF w] (fun _:Unit=>.int .i64 (Ax.cmp x w)) (fun _=>[]) (fun _=>[]):=by
 refine j_ Tryz.func77 rfl rfl Tryz.ntmps77 rfl fun v0=>?_
 have hrl1:=hok1.len
 have hrc1:=hok1.cap
 have hrl2:=hok2.len
 have hrc2:=hok2.cap
 refine Zz 2 ?_
 refine N_ rfl rfl fun b1=>N_ rfl rfl fun b2=>Zz 5 ?_
 refine Q_ 4 [0,2] zk zs (Zz 3 ?_)
 refine p_ 1 rfl zk (d_ (lo_ x hok1 hz1l hz1r) rfl e_ zf rfl fun _=>Zz 3 ?_)
 refine p_ 3 rfl zk (d_ (lo_ w hok2 hz2l hz2r) rfl e_ zf rfl fun _=>Zz 3 ?_)
 refine p_ 4 rfl zk (d_ (dn_ (Ax.wgt x) (Ax.wgt w)) rfl e_ zt rfl fun _=>Zz 3 ?_)
 refine Q_ 0 [5] zk zs (Zz 8 ?_)
 refine y_ (ay_ rfl rfl) rfl fun r1 hr1=>Zz 2 ?_
 refine bB_ (ι:={y:Int // y=orF ([(Lib.compareInt (Ax.wgt x) (Ax.wgt w))]++[(Lib.compareInt (Ax.kind x) (Ax.kind w))])}) (fun y=>[(2,zp_ b1 0),(3,zp_ b2 0),(4,.int .i64 0),(5,.int .i64 y.1)]) (fun y=>((b2,.cells #[.int .i64 (Ax.kind w),.bool (Ax.opn w),.int .i64 (Con.kind (Ax.left w)),str (Con.name (Ax.left w)),.int .i64 (Con.lo (Ax.left w)),.int .i64 (Con.hi (Ax.left w)),.slice (Con.ad (Ax.left w)) (List.length (Con.parts (Ax.left w))) (Con.cap (Ax.left w)),.int .i64 (Con.kind (Ax.right w)),str (Con.name (Ax.right w)),.int .i64 (Con.lo (Ax.right w)),.int .i64 (Con.hi (Ax.right w)),.slice (Con.ad (Ax.right w)) (List.length (Con.parts (Ax.right w))) (Con.cap (Ax.right w)),.slice (Ax.ad w) (List.length (Ax.roles w)) (Ax.cap w),str (Ax.role w),str (Ax.a w),str (Ax.b w)] 48 (0,0))::((b1,.cells #[.int .i64 (Ax.kind x),.bool (Ax.opn x),.int .i64 (Con.kind (Ax.left x)),str (Con.name (Ax.left x)),.int .i64 (Con.lo (Ax.left x)),.int .i64 (Con.hi (Ax.left x)),.slice (Con.ad (Ax.left x)) (List.length (Con.parts (Ax.left x))) (Con.cap (Ax.left x)),.int .i64 (Con.kind (Ax.right x)),str (Con.name (Ax.right x)),.int .i64 (Con.lo (Ax.right x)),.int .i64 (Con.hi (Ax.right x)),.slice (Con.ad (Ax.right x)) (List.length (Con.parts (Ax.right x))) (Con.cap (Ax.right x)),.slice (Ax.ad x) (List.length (Ax.roles x)) (Ax.cap x),str (Ax.role x),str (Ax.a x),str (Ax.b x)] 48 (0,0))::[]))) (fun y=>[Ax.memF x,Ax.memF w]) ?_ ?_
 ·cases r1
  ·replace hr1:=znb hr1
   refine Zz 3 ?_
   exact al_ ⟨(Lib.compareInt (Ax.wgt x) (Ax.wgt w)),(dG_ (hW_ _).symm hr1)⟩ zl zp zf
  replace hr1:=zeb hr1
  refine Zz 6 ?_
  refine d_ (dn_ (Ax.kind x) (Ax.kind w)) rfl e_ zt rfl fun _=>Zz 3 ?_
  exact al_ ⟨(Lib.compareInt (Ax.kind x) (Ax.kind w)),(cY_ (hW_ _).symm hr1)⟩ zl zp zf
 rintro ⟨nn1,hnn1⟩
 dsimp only
 refine Zz 5 ?_
 refine y_ (ay_ rfl rfl) rfl fun r2 hr2=>Zz 2 ?_
 refine bB_ (ι:={y:Int // y=orF (([(Lib.compareInt (Ax.wgt x) (Ax.wgt w))]++[(Lib.compareInt (Ax.kind x) (Ax.kind w))])++[(Con.cmp (Ax.left x) (Ax.left w))])}) (fun y=>[(2,zp_ b1 0),(3,zp_ b2 0),(4,.int .i64 0),(5,.int .i64 y.1)]) (fun y=>((b2,.cells #[.int .i64 (Ax.kind w),.bool (Ax.opn w),.int .i64 (Con.kind (Ax.left w)),str (Con.name (Ax.left w)),.int .i64 (Con.lo (Ax.left w)),.int .i64 (Con.hi (Ax.left w)),.slice (Con.ad (Ax.left w)) (List.length (Con.parts (Ax.left w))) (Con.cap (Ax.left w)),.int .i64 (Con.kind (Ax.right w)),str (Con.name (Ax.right w)),.int .i64 (Con.lo (Ax.right w)),.int .i64 (Con.hi (Ax.right w)),.slice (Con.ad (Ax.right w)) (List.length (Con.parts (Ax.right w))) (Con.cap (Ax.right w)),.slice (Ax.ad w) (List.length (Ax.roles w)) (Ax.cap w),str (Ax.role w),str (Ax.a w),str (Ax.b w)] 48 (0,0))::((b1,.cells #[.int .i64 (Ax.kind x),.bool (Ax.opn x),.int .i64 (Con.kind (Ax.left x)),str (Con.name (Ax.left x)),.int .i64 (Con.lo (Ax.left x)),.int .i64 (Con.hi (Ax.left x)),.slice (Con.ad (Ax.left x)) (List.length (Con.parts (Ax.left x))) (Con.cap (Ax.left x)),.int .i64 (Con.kind (Ax.right x)),str (Con.name (Ax.right x)),.int .i64 (Con.lo (Ax.right x)),.int .i64 (Con.hi (Ax.right x)),.slice (Con.ad (Ax.right x)) (List.length (Con.parts (Ax.right x))) (Con.cap (Ax.right x)),.slice (Ax.ad x) (List.length (Ax.roles x)) (Ax.cap x),str (Ax.role x),str (Ax.a x),str (Ax.b x)] 48 (0,0))::[]))) (fun y=>[Ax.memF x,Ax.memF w]) ?_ ?_
 ·cases r2
  ·replace hr2:=znb hr2
   refine Zz 3 ?_
   exact al_ ⟨nn1,(dG_ hnn1 hr2)⟩ zl zp zf
  replace hr2:=zeb hr2
  refine Zz 6 ?_
  refine d_ (sB_ _ (Ax.left x) (Ax.left w) (Nat.le_refl _) hok1.left hok2.left hz1l hz2l) rfl e_ (fun v _ h=>by exact⟨h.1.1,h.2.1.1,trivial⟩) rfl fun _=>Zz 3 ?_
  exact al_ ⟨(Con.cmp (Ax.left x) (Ax.left w)),(cY_ hnn1 hr2)⟩ zl zp zf
 rintro ⟨nn2,hnn2⟩
 dsimp only
 refine Zz 5 ?_
 refine y_ (ay_ rfl rfl) rfl fun r3 hr3=>Zz 2 ?_
 refine bB_ (ι:={y:Int // y=orF ((([(Lib.compareInt (Ax.wgt x) (Ax.wgt w))]++[(Lib.compareInt (Ax.kind x) (Ax.kind w))])++[(Con.cmp (Ax.left x) (Ax.left w))])++[(Con.cmp (Ax.right x) (Ax.right w))])}) (fun y=>[(2,zp_ b1 0),(3,zp_ b2 0),(4,.int .i64 0),(5,.int .i64 y.1)]) (fun y=>((b2,.cells #[.int .i64 (Ax.kind w),.bool (Ax.opn w),.int .i64 (Con.kind (Ax.left w)),str (Con.name (Ax.left w)),.int .i64 (Con.lo (Ax.left w)),.int .i64 (Con.hi (Ax.left w)),.slice (Con.ad (Ax.left w)) (List.length (Con.parts (Ax.left w))) (Con.cap (Ax.left w)),.int .i64 (Con.kind (Ax.right w)),str (Con.name (Ax.right w)),.int .i64 (Con.lo (Ax.right w)),.int .i64 (Con.hi (Ax.right w)),.slice (Con.ad (Ax.right w)) (List.length (Con.parts (Ax.right w))) (Con.cap (Ax.right w)),.slice (Ax.ad w) (List.length (Ax.roles w)) (Ax.cap w),str (Ax.role w),str (Ax.a w),str (Ax.b w)] 48 (0,0))::((b1,.cells #[.int .i64 (Ax.kind x),.bool (Ax.opn x),.int .i64 (Con.kind (Ax.left x)),str (Con.name (Ax.left x)),.int .i64 (Con.lo (Ax.left x)),.int .i64 (Con.hi (Ax.left x)),.slice (Con.ad (Ax.left x)) (List.length (Con.parts (Ax.left x))) (Con.cap (Ax.left x)),.int .i64 (Con.kind (Ax.right x)),str (Con.name (Ax.right x)),.int .i64 (Con.lo (Ax.right x)),.int .i64 (Con.hi (Ax.right x)),.slice (Con.ad (Ax.right x)) (List.length (Con.parts (Ax.right x))) (Con.cap (Ax.right x)),.slice (Ax.ad x) (List.length (Ax.roles x)) (Ax.cap x),str (Ax.role x),str (Ax.a x),str (Ax.b x)] 48 (0,0))::[]))) (fun y=>[Ax.memF x,Ax.memF w]) ?_ ?_
 ·cases r3
  ·replace hr3:=znb hr3
   refine Zz 3 ?_
   exact al_ ⟨nn2,(dG_ hnn2 hr3)⟩ zl zp zf
  replace hr3:=zeb hr3
  refine Zz 6 ?_
  refine d_ (sB_ _ (Ax.right x) (Ax.right w) (Nat.le_refl _) hok1.right hok2.right hz1r hz2r) rfl e_ (fun v _ h=>by exact⟨h.1.2.1,h.2.1.2.1,trivial⟩) rfl fun _=>Zz 3 ?_
  exact al_ ⟨(Con.cmp (Ax.right x) (Ax.right w)),(cY_ hnn2 hr3)⟩ zl zp zf
 rintro ⟨nn3,hnn3⟩
 dsimp only
 refine Zz 8 ?_
 refine Y_ (ι:={y:Nat×Int // ft_ nn3 y.2 (bQ_ (Ax.roles x) (Ax.roles w)) (bQ_ (List.drop y.1 (Ax.roles x)) (List.drop y.1 (Ax.roles w))) (y.1≤List.length (Ax.roles x)∧y.1≤List.length (Ax.roles w))}) (fun y=>[(2,zp_ b1 0),(3,zp_ b2 0),(4,.int .i64 0),(5,.int .i64 y.1.2),(6,.int .i64 (y.1.1:Int))]) (fun y=>((b2,.cells #[.int .i64 (Ax.kind w),.bool (Ax.opn w),.int .i64 (Con.kind (Ax.left w)),str (Con.name (Ax.left w)),.int .i64 (Con.lo (Ax.left w)),.int .i64 (Con.hi (Ax.left w)),.slice (Con.ad (Ax.left w)) (List.length (Con.parts (Ax.left w))) (Con.cap (Ax.left w)),.int .i64 (Con.kind (Ax.right w)),str (Con.name (Ax.right w)),.int .i64 (Con.lo (Ax.right w)),.int .i64 (Con.hi (Ax.right w)),.slice (Con.ad (Ax.right w)) (List.length (Con.parts (Ax.right w))) (Con.cap (Ax.right w)),.slice (Ax.ad w) (List.length (Ax.roles w)) (Ax.cap w),str (Ax.role w),str (Ax.a w),str (Ax.b w)] 48 (0,0))::((b1,.cells #[.int .i64 (Ax.kind x),.bool (Ax.opn x),.int .i64 (Con.kind (Ax.left x)),str (Con.name (Ax.left x)),.int .i64 (Con.lo (Ax.left x)),.int .i64 (Con.hi (Ax.left x)),.slice (Con.ad (Ax.left x)) (List.length (Con.parts (Ax.left x))) (Con.cap (Ax.left x)),.int .i64 (Con.kind (Ax.right x)),str (Con.name (Ax.right x)),.int .i64 (Con.lo (Ax.right x)),.int .i64 (Con.hi (Ax.right x)),.slice (Con.ad (Ax.right x)) (List.length (Con.parts (Ax.right x))) (Con.cap (Ax.right x)),.slice (Ax.ad x) (List.length (Ax.roles x)) (Ax.cap x),str (Ax.role x),str (Ax.a x),str (Ax.b x)] 48 (0,0))::[]))) (fun y=>[Ax.memF x,Ax.memF w]) (fun y=>List.length (Ax.roles x) - y.1.1) ⟨((0:Nat),nn3),(ft_.init ⟨Nat.zero_le _,Nat.zero_le _⟩)⟩ zl zp zh ?_
 rintro ⟨⟨i,n⟩,hlx⟩
 dsimp only at hlx ⊢
 refine Zi 4 (fun hr4=>?_) fun hr4=>?_
 ·refine Zz 23 ?_
  refine y_ (ay_ rfl rfl) rfl fun r5 hr5=>Zz 2 ?_
  refine bB_ (ι:={y:Int // y=(if n=0 then (Lib.compareInt (List.length (Ax.roles x):Int) (List.length (Ax.roles w):Int)) else n)}) (fun y=>[(2,zp_ b1 0),(3,zp_ b2 0),(4,.int .i64 0),(6,.int .i64 (i:Int)),(5,.int .i64 y.1)]) (fun y=>((b2,.cells #[.int .i64 (Ax.kind w),.bool (Ax.opn w),.int .i64 (Con.kind (Ax.left w)),str (Con.name (Ax.left w)),.int .i64 (Con.lo (Ax.left w)),.int .i64 (Con.hi (Ax.left w)),.slice (Con.ad (Ax.left w)) (List.length (Con.parts (Ax.left w))) (Con.cap (Ax.left w)),.int .i64 (Con.kind (Ax.right w)),str (Con.name (Ax.right w)),.int .i64 (Con.lo (Ax.right w)),.int .i64 (Con.hi (Ax.right w)),.slice (Con.ad (Ax.right w)) (List.length (Con.parts (Ax.right w))) (Con.cap (Ax.right w)),.slice (Ax.ad w) (List.length (Ax.roles w)) (Ax.cap w),str (Ax.role w),str (Ax.a w),str (Ax.b w)] 48 (0,0))::((b1,.cells #[.int .i64 (Ax.kind x),.bool (Ax.opn x),.int .i64 (Con.kind (Ax.left x)),str (Con.name (Ax.left x)),.int .i64 (Con.lo (Ax.left x)),.int .i64 (Con.hi (Ax.left x)),.slice (Con.ad (Ax.left x)) (List.length (Con.parts (Ax.left x))) (Con.cap (Ax.left x)),.int .i64 (Con.kind (Ax.right x)),str (Con.name (Ax.right x)),.int .i64 (Con.lo (Ax.right x)),.int .i64 (Con.hi (Ax.right x)),.slice (Con.ad (Ax.right x)) (List.length (Con.parts (Ax.right x))) (Con.cap (Ax.right x)),.slice (Ax.ad x) (List.length (Ax.roles x)) (Ax.cap x),str (Ax.role x),str (Ax.a x),str (Ax.b x)] 48 (0,0))::[]))) (fun y=>[Ax.memF x,Ax.memF w]) ?_ ?_
  ·cases r5
   ·replace hr5:=znb hr5
    refine Zz 3 ?_
    exact al_ ⟨n,(by rw[if_neg hr5])⟩ zl zp zf
   replace hr5:=zeb hr5
   refine Zz 8 ?_
   refine d_ (dn_ (List.length (Ax.roles x):Int) (List.length (Ax.roles w):Int)) rfl e_ zt rfl fun _=>Zz 3 ?_
   exact al_ ⟨(Lib.compareInt (List.length (Ax.roles x):Int) (List.length (Ax.roles w):Int)),(by rw[if_pos hr5])⟩ zl zp zf
  rintro ⟨nn4,hnn4⟩
  dsimp only
  have hor4:=ft_.or (o:=(Lib.compareInt (List.length (Ax.roles x):Int) (List.length (Ax.roles w):Int))) hlx hnn3 (fun hn hv ha=>kD_ ha.1 ha.2 (by first|(left;omega)|(right;omega)))
  rw[← hnn4]at hor4
  refine Zz 5 ?_
  refine y_ (ay_ rfl rfl) rfl fun r6 hr6=>Zz 2 ?_
  refine bB_ (ι:={y:Int // y=orF ((((([(Lib.compareInt (Ax.wgt x) (Ax.wgt w))]++[(Lib.compareInt (Ax.kind x) (Ax.kind w))])++[(Con.cmp (Ax.left x) (Ax.left w))])++[(Con.cmp (Ax.right x) (Ax.right w))])++[bQ_ (Ax.roles x) (Ax.roles w)])++[(Lib.compareBytes (Ax.role x) (Ax.role w))])}) (fun y=>[(2,zp_ b1 0),(3,zp_ b2 0),(4,.int .i64 0),(6,.int .i64 (i:Int)),(5,.int .i64 y.1)]) (fun y=>((b2,.cells #[.int .i64 (Ax.kind w),.bool (Ax.opn w),.int .i64 (Con.kind (Ax.left w)),str (Con.name (Ax.left w)),.int .i64 (Con.lo (Ax.left w)),.int .i64 (Con.hi (Ax.left w)),.slice (Con.ad (Ax.left w)) (List.length (Con.parts (Ax.left w))) (Con.cap (Ax.left w)),.int .i64 (Con.kind (Ax.right w)),str (Con.name (Ax.right w)),.int .i64 (Con.lo (Ax.right w)),.int .i64 (Con.hi (Ax.right w)),.slice (Con.ad (Ax.right w)) (List.length (Con.parts (Ax.right w))) (Con.cap (Ax.right w)),.slice (Ax.ad w) (List.length (Ax.roles w)) (Ax.cap w),str (Ax.role w),str (Ax.a w),str (Ax.b w)] 48 (0,0))::((b1,.cells #[.int .i64 (Ax.kind x),.bool (Ax.opn x),.int .i64 (Con.kind (Ax.left x)),str (Con.name (Ax.left x)),.int .i64 (Con.lo (Ax.left x)),.int .i64 (Con.hi (Ax.left x)),.slice (Con.ad (Ax.left x)) (List.length (Con.parts (Ax.left x))) (Con.cap (Ax.left x)),.int .i64 (Con.kind (Ax.right x)),str (Con.name (Ax.right x)),.int .i64 (Con.lo (Ax.right x)),.int .i64 (Con.hi (Ax.right x)),.slice (Con.ad (Ax.right x)) (List.length (Con.parts (Ax.right x))) (Con.cap (Ax.right x)),.slice (Ax.ad x) (List.length (Ax.roles x)) (Ax.cap x),str (Ax.role x),str (Ax.a x),str (Ax.b x)] 48 (0,0))::[]))) (fun y=>[Ax.memF x,Ax.memF w]) ?_ ?_
  ·cases r6
   ·replace hr6:=znb hr6
    refine Zz 3 ?_
    exact al_ ⟨nn4,(dG_ hor4 hr6)⟩ zl zp zf
   replace hr6:=zeb hr6
   refine Zz 6 ?_
   refine d_ (cB_ (Ax.role x) (Ax.role w)) rfl e_ zt rfl fun _=>Zz 3 ?_
   exact al_ ⟨(Lib.compareBytes (Ax.role x) (Ax.role w)),(cY_ hor4 hr6)⟩ zl zp zf
  rintro ⟨nn5,hnn5⟩
  dsimp only
  refine Zz 5 ?_
  refine y_ (ay_ rfl rfl) rfl fun r7 hr7=>Zz 2 ?_
  refine bB_ (ι:={y:Int // y=orF (((((([(Lib.compareInt (Ax.wgt x) (Ax.wgt w))]++[(Lib.compareInt (Ax.kind x) (Ax.kind w))])++[(Con.cmp (Ax.left x) (Ax.left w))])++[(Con.cmp (Ax.right x) (Ax.right w))])++[bQ_ (Ax.roles x) (Ax.roles w)])++[(Lib.compareBytes (Ax.role x) (Ax.role w))])++[(Lib.compareBytes (Ax.a x) (Ax.a w))])}) (fun y=>[(2,zp_ b1 0),(3,zp_ b2 0),(4,.int .i64 0),(6,.int .i64 (i:Int)),(5,.int .i64 y.1)]) (fun y=>((b2,.cells #[.int .i64 (Ax.kind w),.bool (Ax.opn w),.int .i64 (Con.kind (Ax.left w)),str (Con.name (Ax.left w)),.int .i64 (Con.lo (Ax.left w)),.int .i64 (Con.hi (Ax.left w)),.slice (Con.ad (Ax.left w)) (List.length (Con.parts (Ax.left w))) (Con.cap (Ax.left w)),.int .i64 (Con.kind (Ax.right w)),str (Con.name (Ax.right w)),.int .i64 (Con.lo (Ax.right w)),.int .i64 (Con.hi (Ax.right w)),.slice (Con.ad (Ax.right w)) (List.length (Con.parts (Ax.right w))) (Con.cap (Ax.right w)),.slice (Ax.ad w) (List.length (Ax.roles w)) (Ax.cap w),str (Ax.role w),str (Ax.a w),str (Ax.b w)] 48 (0,0))::((b1,.cells #[.int .i64 (Ax.kind x),.bool (Ax.opn x),.int .i64 (Con.kind (Ax.left x)),str (Con.name (Ax.left x)),.int .i64 (Con.lo (Ax.left x)),.int .i64 (Con.hi (Ax.left x)),.slice (Con.ad (Ax.left x)) (List.length (Con.parts (Ax.left x))) (Con.cap (Ax.left x)),.int .i64 (Con.kind (Ax.right x)),str (Con.name (Ax.right x)),.int .i64 (Con.lo (Ax.right x)),.int .i64 (Con.hi (Ax.right x)),.slice (Con.ad (Ax.right x)) (List.length (Con.parts (Ax.right x))) (Con.cap (Ax.right x)),.slice (Ax.ad x) (List.length (Ax.roles x)) (Ax.cap x),str (Ax.role x),str (Ax.a x),str (Ax.b x)] 48 (0,0))::[]))) (fun y=>[Ax.memF x,Ax.memF w]) ?_ ?_
  ·cases r7
   ·replace hr7:=znb hr7
    refine Zz 3 ?_
    exact al_ ⟨nn5,(dG_ hnn5 hr7)⟩ zl zp zf
   replace hr7:=zeb hr7
   refine Zz 6 ?_
   refine d_ (cB_ (Ax.a x) (Ax.a w)) rfl e_ zt rfl fun _=>Zz 3 ?_
   exact al_ ⟨(Lib.compareBytes (Ax.a x) (Ax.a w)),(cY_ hnn5 hr7)⟩ zl zp zf
  rintro ⟨nn6,hnn6⟩
  dsimp only
  refine Zz 5 ?_
  refine y_ (ay_ rfl rfl) rfl fun r8 hr8=>Zz 2 ?_
  refine bB_ (ι:={y:Int // y=orF ((((((([(Lib.compareInt (Ax.wgt x) (Ax.wgt w))]++[(Lib.compareInt (Ax.kind x) (Ax.kind w))])++[(Con.cmp (Ax.left x) (Ax.left w))])++[(Con.cmp (Ax.right x) (Ax.right w))])++[bQ_ (Ax.roles x) (Ax.roles w)])++[(Lib.compareBytes (Ax.role x) (Ax.role w))])++[(Lib.compareBytes (Ax.a x) (Ax.a w))])++[(Lib.compareBytes (Ax.b x) (Ax.b w))])}) (fun y=>[(2,zp_ b1 0),(3,zp_ b2 0),(4,.int .i64 0),(6,.int .i64 (i:Int)),(5,.int .i64 y.1)]) (fun y=>((b2,.cells #[.int .i64 (Ax.kind w),.bool (Ax.opn w),.int .i64 (Con.kind (Ax.left w)),str (Con.name (Ax.left w)),.int .i64 (Con.lo (Ax.left w)),.int .i64 (Con.hi (Ax.left w)),.slice (Con.ad (Ax.left w)) (List.length (Con.parts (Ax.left w))) (Con.cap (Ax.left w)),.int .i64 (Con.kind (Ax.right w)),str (Con.name (Ax.right w)),.int .i64 (Con.lo (Ax.right w)),.int .i64 (Con.hi (Ax.right w)),.slice (Con.ad (Ax.right w)) (List.length (Con.parts (Ax.right w))) (Con.cap (Ax.right w)),.slice (Ax.ad w) (List.length (Ax.roles w)) (Ax.cap w),str (Ax.role w),str (Ax.a w),str (Ax.b w)] 48 (0,0))::((b1,.cells #[.int .i64 (Ax.kind x),.bool (Ax.opn x),.int .i64 (Con.kind (Ax.left x)),str (Con.name (Ax.left x)),.int .i64 (Con.lo (Ax.left x)),.int .i64 (Con.hi (Ax.left x)),.slice (Con.ad (Ax.left x)) (List.length (Con.parts (Ax.left x))) (Con.cap (Ax.left x)),.int .i64 (Con.kind (Ax.right x)),str (Con.name (Ax.right x)),.int .i64 (Con.lo (Ax.right x)),.int .i64 (Con.hi (Ax.right x)),.slice (Con.ad (Ax.right x)) (List.length (Con.parts (Ax.right x))) (Con.cap (Ax.right x)),.slice (Ax.ad x) (List.length (Ax.roles x)) (Ax.cap x),str (Ax.role x),str (Ax.a x),str (Ax.b x)] 48 (0,0))::[]))) (fun y=>[Ax.memF x,Ax.memF w]) ?_ ?_
  ·cases r8
   ·replace hr8:=znb hr8
    refine Zz 3 ?_
    exact al_ ⟨nn6,(dG_ hnn6 hr8)⟩ zl zp zf
   replace hr8:=zeb hr8
   refine Zz 6 ?_
   refine d_ (cB_ (Ax.b x) (Ax.b w)) rfl e_ zt rfl fun _=>Zz 3 ?_
   exact al_ ⟨(Lib.compareBytes (Ax.b x) (Ax.b w)),(cY_ hnn6 hr8)⟩ zl zp zf
  rintro ⟨nn7,hnn7⟩
  dsimp only
  refine Zz 8 ?_
  exact E_ Tryz.results77 () (O_ rfl (by rw[hnn7];exact rfl)) e_ zt
 refine Zi 10 (fun hr9=>?_) fun hr9=>?_
 ·refine Zz 17 ?_
  refine y_ (ay_ rfl rfl) rfl fun r10 hr10=>Zz 2 ?_
  refine bB_ (ι:={y:Int // y=(if n=0 then (Lib.compareInt (List.length (Ax.roles x):Int) (List.length (Ax.roles w):Int)) else n)}) (fun y=>[(2,zp_ b1 0),(3,zp_ b2 0),(4,.int .i64 0),(6,.int .i64 (i:Int)),(5,.int .i64 y.1)]) (fun y=>((b2,.cells #[.int .i64 (Ax.kind w),.bool (Ax.opn w),.int .i64 (Con.kind (Ax.left w)),str (Con.name (Ax.left w)),.int .i64 (Con.lo (Ax.left w)),.int .i64 (Con.hi (Ax.left w)),.slice (Con.ad (Ax.left w)) (List.length (Con.parts (Ax.left w))) (Con.cap (Ax.left w)),.int .i64 (Con.kind (Ax.right w)),str (Con.name (Ax.right w)),.int .i64 (Con.lo (Ax.right w)),.int .i64 (Con.hi (Ax.right w)),.slice (Con.ad (Ax.right w)) (List.length (Con.parts (Ax.right w))) (Con.cap (Ax.right w)),.slice (Ax.ad w) (List.length (Ax.roles w)) (Ax.cap w),str (Ax.role w),str (Ax.a w),str (Ax.b w)] 48 (0,0))::((b1,.cells #[.int .i64 (Ax.kind x),.bool (Ax.opn x),.int .i64 (Con.kind (Ax.left x)),str (Con.name (Ax.left x)),.int .i64 (Con.lo (Ax.left x)),.int .i64 (Con.hi (Ax.left x)),.slice (Con.ad (Ax.left x)) (List.length (Con.parts (Ax.left x))) (Con.cap (Ax.left x)),.int .i64 (Con.kind (Ax.right x)),str (Con.name (Ax.right x)),.int .i64 (Con.lo (Ax.right x)),.int .i64 (Con.hi (Ax.right x)),.slice (Con.ad (Ax.right x)) (List.length (Con.parts (Ax.right x))) (Con.cap (Ax.right x)),.slice (Ax.ad x) (List.length (Ax.roles x)) (Ax.cap x),str (Ax.role x),str (Ax.a x),str (Ax.b x)] 48 (0,0))::[]))) (fun y=>[Ax.memF x,Ax.memF w]) ?_ ?_
  ·cases r10
   ·replace hr10:=znb hr10
    refine Zz 3 ?_
    exact al_ ⟨n,(by rw[if_neg hr10])⟩ zl zp zf
   replace hr10:=zeb hr10
   refine Zz 8 ?_
   refine d_ (dn_ (List.length (Ax.roles x):Int) (List.length (Ax.roles w):Int)) rfl e_ zt rfl fun _=>Zz 3 ?_
   exact al_ ⟨(Lib.compareInt (List.length (Ax.roles x):Int) (List.length (Ax.roles w):Int)),(by rw[if_pos hr10])⟩ zl zp zf
  rintro ⟨nn8,hnn8⟩
  dsimp only
  have hor8:=ft_.or (o:=(Lib.compareInt (List.length (Ax.roles x):Int) (List.length (Ax.roles w):Int))) hlx hnn3 (fun hn hv ha=>kD_ ha.1 ha.2 (by first|(left;omega)|(right;omega)))
  rw[← hnn8]at hor8
  refine Zz 5 ?_
  refine y_ (ay_ rfl rfl) rfl fun r11 hr11=>Zz 2 ?_
  refine bB_ (ι:={y:Int // y=orF ((((([(Lib.compareInt (Ax.wgt x) (Ax.wgt w))]++[(Lib.compareInt (Ax.kind x) (Ax.kind w))])++[(Con.cmp (Ax.left x) (Ax.left w))])++[(Con.cmp (Ax.right x) (Ax.right w))])++[bQ_ (Ax.roles x) (Ax.roles w)])++[(Lib.compareBytes (Ax.role x) (Ax.role w))])}) (fun y=>[(2,zp_ b1 0),(3,zp_ b2 0),(4,.int .i64 0),(6,.int .i64 (i:Int)),(5,.int .i64 y.1)]) (fun y=>((b2,.cells #[.int .i64 (Ax.kind w),.bool (Ax.opn w),.int .i64 (Con.kind (Ax.left w)),str (Con.name (Ax.left w)),.int .i64 (Con.lo (Ax.left w)),.int .i64 (Con.hi (Ax.left w)),.slice (Con.ad (Ax.left w)) (List.length (Con.parts (Ax.left w))) (Con.cap (Ax.left w)),.int .i64 (Con.kind (Ax.right w)),str (Con.name (Ax.right w)),.int .i64 (Con.lo (Ax.right w)),.int .i64 (Con.hi (Ax.right w)),.slice (Con.ad (Ax.right w)) (List.length (Con.parts (Ax.right w))) (Con.cap (Ax.right w)),.slice (Ax.ad w) (List.length (Ax.roles w)) (Ax.cap w),str (Ax.role w),str (Ax.a w),str (Ax.b w)] 48 (0,0))::((b1,.cells #[.int .i64 (Ax.kind x),.bool (Ax.opn x),.int .i64 (Con.kind (Ax.left x)),str (Con.name (Ax.left x)),.int .i64 (Con.lo (Ax.left x)),.int .i64 (Con.hi (Ax.left x)),.slice (Con.ad (Ax.left x)) (List.length (Con.parts (Ax.left x))) (Con.cap (Ax.left x)),.int .i64 (Con.kind (Ax.right x)),str (Con.name (Ax.right x)),.int .i64 (Con.lo (Ax.right x)),.int .i64 (Con.hi (Ax.right x)),.slice (Con.ad (Ax.right x)) (List.length (Con.parts (Ax.right x))) (Con.cap (Ax.right x)),.slice (Ax.ad x) (List.length (Ax.roles x)) (Ax.cap x),str (Ax.role x),str (Ax.a x),str (Ax.b x)] 48 (0,0))::[]))) (fun y=>[Ax.memF x,Ax.memF w]) ?_ ?_
  ·cases r11
   ·replace hr11:=znb hr11
    refine Zz 3 ?_
    exact al_ ⟨nn8,(dG_ hor8 hr11)⟩ zl zp zf
   replace hr11:=zeb hr11
   refine Zz 6 ?_
   refine d_ (cB_ (Ax.role x) (Ax.role w)) rfl e_ zt rfl fun _=>Zz 3 ?_
   exact al_ ⟨(Lib.compareBytes (Ax.role x) (Ax.role w)),(cY_ hor8 hr11)⟩ zl zp zf
  rintro ⟨nn9,hnn9⟩
  dsimp only
  refine Zz 5 ?_
  refine y_ (ay_ rfl rfl) rfl fun r12 hr12=>Zz 2 ?_
  refine bB_ (ι:={y:Int // y=orF (((((([(Lib.compareInt (Ax.wgt x) (Ax.wgt w))]++[(Lib.compareInt (Ax.kind x) (Ax.kind w))])++[(Con.cmp (Ax.left x) (Ax.left w))])++[(Con.cmp (Ax.right x) (Ax.right w))])++[bQ_ (Ax.roles x) (Ax.roles w)])++[(Lib.compareBytes (Ax.role x) (Ax.role w))])++[(Lib.compareBytes (Ax.a x) (Ax.a w))])}) (fun y=>[(2,zp_ b1 0),(3,zp_ b2 0),(4,.int .i64 0),(6,.int .i64 (i:Int)),(5,.int .i64 y.1)]) (fun y=>((b2,.cells #[.int .i64 (Ax.kind w),.bool (Ax.opn w),.int .i64 (Con.kind (Ax.left w)),str (Con.name (Ax.left w)),.int .i64 (Con.lo (Ax.left w)),.int .i64 (Con.hi (Ax.left w)),.slice (Con.ad (Ax.left w)) (List.length (Con.parts (Ax.left w))) (Con.cap (Ax.left w)),.int .i64 (Con.kind (Ax.right w)),str (Con.name (Ax.right w)),.int .i64 (Con.lo (Ax.right w)),.int .i64 (Con.hi (Ax.right w)),.slice (Con.ad (Ax.right w)) (List.length (Con.parts (Ax.right w))) (Con.cap (Ax.right w)),.slice (Ax.ad w) (List.length (Ax.roles w)) (Ax.cap w),str (Ax.role w),str (Ax.a w),str (Ax.b w)] 48 (0,0))::((b1,.cells #[.int .i64 (Ax.kind x),.bool (Ax.opn x),.int .i64 (Con.kind (Ax.left x)),str (Con.name (Ax.left x)),.int .i64 (Con.lo (Ax.left x)),.int .i64 (Con.hi (Ax.left x)),.slice (Con.ad (Ax.left x)) (List.length (Con.parts (Ax.left x))) (Con.cap (Ax.left x)),.int .i64 (Con.kind (Ax.right x)),str (Con.name (Ax.right x)),.int .i64 (Con.lo (Ax.right x)),.int .i64 (Con.hi (Ax.right x)),.slice (Con.ad (Ax.right x)) (List.length (Con.parts (Ax.right x))) (Con.cap (Ax.right x)),.slice (Ax.ad x) (List.length (Ax.roles x)) (Ax.cap x),str (Ax.role x),str (Ax.a x),str (Ax.b x)] 48 (0,0))::[]))) (fun y=>[Ax.memF x,Ax.memF w]) ?_ ?_
  ·cases r12
   ·replace hr12:=znb hr12
    refine Zz 3 ?_
    exact al_ ⟨nn9,(dG_ hnn9 hr12)⟩ zl zp zf
   replace hr12:=zeb hr12
   refine Zz 6 ?_
   refine d_ (cB_ (Ax.a x) (Ax.a w)) rfl e_ zt rfl fun _=>Zz 3 ?_
   exact al_ ⟨(Lib.compareBytes (Ax.a x) (Ax.a w)),(cY_ hnn9 hr12)⟩ zl zp zf
  rintro ⟨nn10,hnn10⟩
  dsimp only
  refine Zz 5 ?_
  refine y_ (ay_ rfl rfl) rfl fun r13 hr13=>Zz 2 ?_
  refine bB_ (ι:={y:Int // y=orF ((((((([(Lib.compareInt (Ax.wgt x) (Ax.wgt w))]++[(Lib.compareInt (Ax.kind x) (Ax.kind w))])++[(Con.cmp (Ax.left x) (Ax.left w))])++[(Con.cmp (Ax.right x) (Ax.right w))])++[bQ_ (Ax.roles x) (Ax.roles w)])++[(Lib.compareBytes (Ax.role x) (Ax.role w))])++[(Lib.compareBytes (Ax.a x) (Ax.a w))])++[(Lib.compareBytes (Ax.b x) (Ax.b w))])}) (fun y=>[(2,zp_ b1 0),(3,zp_ b2 0),(4,.int .i64 0),(6,.int .i64 (i:Int)),(5,.int .i64 y.1)]) (fun y=>((b2,.cells #[.int .i64 (Ax.kind w),.bool (Ax.opn w),.int .i64 (Con.kind (Ax.left w)),str (Con.name (Ax.left w)),.int .i64 (Con.lo (Ax.left w)),.int .i64 (Con.hi (Ax.left w)),.slice (Con.ad (Ax.left w)) (List.length (Con.parts (Ax.left w))) (Con.cap (Ax.left w)),.int .i64 (Con.kind (Ax.right w)),str (Con.name (Ax.right w)),.int .i64 (Con.lo (Ax.right w)),.int .i64 (Con.hi (Ax.right w)),.slice (Con.ad (Ax.right w)) (List.length (Con.parts (Ax.right w))) (Con.cap (Ax.right w)),.slice (Ax.ad w) (List.length (Ax.roles w)) (Ax.cap w),str (Ax.role w),str (Ax.a w),str (Ax.b w)] 48 (0,0))::((b1,.cells #[.int .i64 (Ax.kind x),.bool (Ax.opn x),.int .i64 (Con.kind (Ax.left x)),str (Con.name (Ax.left x)),.int .i64 (Con.lo (Ax.left x)),.int .i64 (Con.hi (Ax.left x)),.slice (Con.ad (Ax.left x)) (List.length (Con.parts (Ax.left x))) (Con.cap (Ax.left x)),.int .i64 (Con.kind (Ax.right x)),str (Con.name (Ax.right x)),.int .i64 (Con.lo (Ax.right x)),.int .i64 (Con.hi (Ax.right x)),.slice (Con.ad (Ax.right x)) (List.length (Con.parts (Ax.right x))) (Con.cap (Ax.right x)),.slice (Ax.ad x) (List.length (Ax.roles x)) (Ax.cap x),str (Ax.role x),str (Ax.a x),str (Ax.b x)] 48 (0,0))::[]))) (fun y=>[Ax.memF x,Ax.memF w]) ?_ ?_
  ·cases r13
   ·replace hr13:=znb hr13
    refine Zz 3 ?_
    exact al_ ⟨nn10,(dG_ hnn10 hr13)⟩ zl zp zf
   replace hr13:=zeb hr13
   refine Zz 6 ?_
   refine d_ (cB_ (Ax.b x) (Ax.b w)) rfl e_ zt rfl fun _=>Zz 3 ?_
   exact al_ ⟨(Lib.compareBytes (Ax.b x) (Ax.b w)),(cY_ hnn10 hr13)⟩ zl zp zf
  rintro ⟨nn11,hnn11⟩
  dsimp only
  refine Zz 8 ?_
  exact E_ Tryz.results77 () (O_ rfl (by rw[hnn11];exact rfl)) e_ zt
 refine Zi 11 (fun hr14=>?_) fun hr14=>?_
 ·refine Zz 10 ?_
  refine y_ (ay_ rfl rfl) rfl fun r15 hr15=>Zz 2 ?_
  refine bB_ (ι:={y:Int // y=(if n=0 then (Lib.compareInt (List.length (Ax.roles x):Int) (List.length (Ax.roles w):Int)) else n)}) (fun y=>[(2,zp_ b1 0),(3,zp_ b2 0),(4,.int .i64 0),(6,.int .i64 (i:Int)),(5,.int .i64 y.1)]) (fun y=>((b2,.cells #[.int .i64 (Ax.kind w),.bool (Ax.opn w),.int .i64 (Con.kind (Ax.left w)),str (Con.name (Ax.left w)),.int .i64 (Con.lo (Ax.left w)),.int .i64 (Con.hi (Ax.left w)),.slice (Con.ad (Ax.left w)) (List.length (Con.parts (Ax.left w))) (Con.cap (Ax.left w)),.int .i64 (Con.kind (Ax.right w)),str (Con.name (Ax.right w)),.int .i64 (Con.lo (Ax.right w)),.int .i64 (Con.hi (Ax.right w)),.slice (Con.ad (Ax.right w)) (List.length (Con.parts (Ax.right w))) (Con.cap (Ax.right w)),.slice (Ax.ad w) (List.length (Ax.roles w)) (Ax.cap w),str (Ax.role w),str (Ax.a w),str (Ax.b w)] 48 (0,0))::((b1,.cells #[.int .i64 (Ax.kind x),.bool (Ax.opn x),.int .i64 (Con.kind (Ax.left x)),str (Con.name (Ax.left x)),.int .i64 (Con.lo (Ax.left x)),.int .i64 (Con.hi (Ax.left x)),.slice (Con.ad (Ax.left x)) (List.length (Con.parts (Ax.left x))) (Con.cap (Ax.left x)),.int .i64 (Con.kind (Ax.right x)),str (Con.name (Ax.right x)),.int .i64 (Con.lo (Ax.right x)),.int .i64 (Con.hi (Ax.right x)),.slice (Con.ad (Ax.right x)) (List.length (Con.parts (Ax.right x))) (Con.cap (Ax.right x)),.slice (Ax.ad x) (List.length (Ax.roles x)) (Ax.cap x),str (Ax.role x),str (Ax.a x),str (Ax.b x)] 48 (0,0))::[]))) (fun y=>[Ax.memF x,Ax.memF w]) ?_ ?_
  ·cases r15
   ·replace hr15:=znb hr15
    refine Zz 3 ?_
    exact al_ ⟨n,(by rw[if_neg hr15])⟩ zl zp zf
   replace hr15:=zeb hr15
   refine Zz 8 ?_
   refine d_ (dn_ (List.length (Ax.roles x):Int) (List.length (Ax.roles w):Int)) rfl e_ zt rfl fun _=>Zz 3 ?_
   exact al_ ⟨(Lib.compareInt (List.length (Ax.roles x):Int) (List.length (Ax.roles w):Int)),(by rw[if_pos hr15])⟩ zl zp zf
  rintro ⟨nn12,hnn12⟩
  dsimp only
  have hor12:=ft_.or (o:=(Lib.compareInt (List.length (Ax.roles x):Int) (List.length (Ax.roles w):Int))) hlx hnn3 (fun hn hv ha=>kD_ ha.1 ha.2 (by first|(left;omega)|(right;omega)))
  rw[← hnn12]at hor12
  refine Zz 5 ?_
  refine y_ (ay_ rfl rfl) rfl fun r16 hr16=>Zz 2 ?_
  refine bB_ (ι:={y:Int // y=orF ((((([(Lib.compareInt (Ax.wgt x) (Ax.wgt w))]++[(Lib.compareInt (Ax.kind x) (Ax.kind w))])++[(Con.cmp (Ax.left x) (Ax.left w))])++[(Con.cmp (Ax.right x) (Ax.right w))])++[bQ_ (Ax.roles x) (Ax.roles w)])++[(Lib.compareBytes (Ax.role x) (Ax.role w))])}) (fun y=>[(2,zp_ b1 0),(3,zp_ b2 0),(4,.int .i64 0),(6,.int .i64 (i:Int)),(5,.int .i64 y.1)]) (fun y=>((b2,.cells #[.int .i64 (Ax.kind w),.bool (Ax.opn w),.int .i64 (Con.kind (Ax.left w)),str (Con.name (Ax.left w)),.int .i64 (Con.lo (Ax.left w)),.int .i64 (Con.hi (Ax.left w)),.slice (Con.ad (Ax.left w)) (List.length (Con.parts (Ax.left w))) (Con.cap (Ax.left w)),.int .i64 (Con.kind (Ax.right w)),str (Con.name (Ax.right w)),.int .i64 (Con.lo (Ax.right w)),.int .i64 (Con.hi (Ax.right w)),.slice (Con.ad (Ax.right w)) (List.length (Con.parts (Ax.right w))) (Con.cap (Ax.right w)),.slice (Ax.ad w) (List.length (Ax.roles w)) (Ax.cap w),str (Ax.role w),str (Ax.a w),str (Ax.b w)] 48 (0,0))::((b1,.cells #[.int .i64 (Ax.kind x),.bool (Ax.opn x),.int .i64 (Con.kind (Ax.left x)),str (Con.name (Ax.left x)),.int .i64 (Con.lo (Ax.left x)),.int .i64 (Con.hi (Ax.left x)),.slice (Con.ad (Ax.left x)) (List.length (Con.parts (Ax.left x))) (Con.cap (Ax.left x)),.int .i64 (Con.kind (Ax.right x)),str (Con.name (Ax.right x)),.int .i64 (Con.lo (Ax.right x)),.int .i64 (Con.hi (Ax.right x)),.slice (Con.ad (Ax.right x)) (List.length (Con.parts (Ax.right x))) (Con.cap (Ax.right x)),.slice (Ax.ad x) (List.length (Ax.roles x)) (Ax.cap x),str (Ax.role x),str (Ax.a x),str (Ax.b x)] 48 (0,0))::[]))) (fun y=>[Ax.memF x,Ax.memF w]) ?_ ?_
  ·cases r16
   ·replace hr16:=znb hr16
    refine Zz 3 ?_
    exact al_ ⟨nn12,(dG_ hor12 hr16)⟩ zl zp zf
   replace hr16:=zeb hr16
   refine Zz 6 ?_
   refine d_ (cB_ (Ax.role x) (Ax.role w)) rfl e_ zt rfl fun _=>Zz 3 ?_
   exact al_ ⟨(Lib.compareBytes (Ax.role x) (Ax.role w)),(cY_ hor12 hr16)⟩ zl zp zf
  rintro ⟨nn13,hnn13⟩
  dsimp only
  refine Zz 5 ?_
  refine y_ (ay_ rfl rfl) rfl fun r17 hr17=>Zz 2 ?_
  refine bB_ (ι:={y:Int // y=orF (((((([(Lib.compareInt (Ax.wgt x) (Ax.wgt w))]++[(Lib.compareInt (Ax.kind x) (Ax.kind w))])++[(Con.cmp (Ax.left x) (Ax.left w))])++[(Con.cmp (Ax.right x) (Ax.right w))])++[bQ_ (Ax.roles x) (Ax.roles w)])++[(Lib.compareBytes (Ax.role x) (Ax.role w))])++[(Lib.compareBytes (Ax.a x) (Ax.a w))])}) (fun y=>[(2,zp_ b1 0),(3,zp_ b2 0),(4,.int .i64 0),(6,.int .i64 (i:Int)),(5,.int .i64 y.1)]) (fun y=>((b2,.cells #[.int .i64 (Ax.kind w),.bool (Ax.opn w),.int .i64 (Con.kind (Ax.left w)),str (Con.name (Ax.left w)),.int .i64 (Con.lo (Ax.left w)),.int .i64 (Con.hi (Ax.left w)),.slice (Con.ad (Ax.left w)) (List.length (Con.parts (Ax.left w))) (Con.cap (Ax.left w)),.int .i64 (Con.kind (Ax.right w)),str (Con.name (Ax.right w)),.int .i64 (Con.lo (Ax.right w)),.int .i64 (Con.hi (Ax.right w)),.slice (Con.ad (Ax.right w)) (List.length (Con.parts (Ax.right w))) (Con.cap (Ax.right w)),.slice (Ax.ad w) (List.length (Ax.roles w)) (Ax.cap w),str (Ax.role w),str (Ax.a w),str (Ax.b w)] 48 (0,0))::((b1,.cells #[.int .i64 (Ax.kind x),.bool (Ax.opn x),.int .i64 (Con.kind (Ax.left x)),str (Con.name (Ax.left x)),.int .i64 (Con.lo (Ax.left x)),.int .i64 (Con.hi (Ax.left x)),.slice (Con.ad (Ax.left x)) (List.length (Con.parts (Ax.left x))) (Con.cap (Ax.left x)),.int .i64 (Con.kind (Ax.right x)),str (Con.name (Ax.right x)),.int .i64 (Con.lo (Ax.right x)),.int .i64 (Con.hi (Ax.right x)),.slice (Con.ad (Ax.right x)) (List.length (Con.parts (Ax.right x))) (Con.cap (Ax.right x)),.slice (Ax.ad x) (List.length (Ax.roles x)) (Ax.cap x),str (Ax.role x),str (Ax.a x),str (Ax.b x)] 48 (0,0))::[]))) (fun y=>[Ax.memF x,Ax.memF w]) ?_ ?_
  ·cases r17
   ·replace hr17:=znb hr17
    refine Zz 3 ?_
    exact al_ ⟨nn13,(dG_ hnn13 hr17)⟩ zl zp zf
   replace hr17:=zeb hr17
   refine Zz 6 ?_
   refine d_ (cB_ (Ax.a x) (Ax.a w)) rfl e_ zt rfl fun _=>Zz 3 ?_
   exact al_ ⟨(Lib.compareBytes (Ax.a x) (Ax.a w)),(cY_ hnn13 hr17)⟩ zl zp zf
  rintro ⟨nn14,hnn14⟩
  dsimp only
  refine Zz 5 ?_
  refine y_ (ay_ rfl rfl) rfl fun r18 hr18=>Zz 2 ?_
  refine bB_ (ι:={y:Int // y=orF ((((((([(Lib.compareInt (Ax.wgt x) (Ax.wgt w))]++[(Lib.compareInt (Ax.kind x) (Ax.kind w))])++[(Con.cmp (Ax.left x) (Ax.left w))])++[(Con.cmp (Ax.right x) (Ax.right w))])++[bQ_ (Ax.roles x) (Ax.roles w)])++[(Lib.compareBytes (Ax.role x) (Ax.role w))])++[(Lib.compareBytes (Ax.a x) (Ax.a w))])++[(Lib.compareBytes (Ax.b x) (Ax.b w))])}) (fun y=>[(2,zp_ b1 0),(3,zp_ b2 0),(4,.int .i64 0),(6,.int .i64 (i:Int)),(5,.int .i64 y.1)]) (fun y=>((b2,.cells #[.int .i64 (Ax.kind w),.bool (Ax.opn w),.int .i64 (Con.kind (Ax.left w)),str (Con.name (Ax.left w)),.int .i64 (Con.lo (Ax.left w)),.int .i64 (Con.hi (Ax.left w)),.slice (Con.ad (Ax.left w)) (List.length (Con.parts (Ax.left w))) (Con.cap (Ax.left w)),.int .i64 (Con.kind (Ax.right w)),str (Con.name (Ax.right w)),.int .i64 (Con.lo (Ax.right w)),.int .i64 (Con.hi (Ax.right w)),.slice (Con.ad (Ax.right w)) (List.length (Con.parts (Ax.right w))) (Con.cap (Ax.right w)),.slice (Ax.ad w) (List.length (Ax.roles w)) (Ax.cap w),str (Ax.role w),str (Ax.a w),str (Ax.b w)] 48 (0,0))::((b1,.cells #[.int .i64 (Ax.kind x),.bool (Ax.opn x),.int .i64 (Con.kind (Ax.left x)),str (Con.name (Ax.left x)),.int .i64 (Con.lo (Ax.left x)),.int .i64 (Con.hi (Ax.left x)),.slice (Con.ad (Ax.left x)) (List.length (Con.parts (Ax.left x))) (Con.cap (Ax.left x)),.int .i64 (Con.kind (Ax.right x)),str (Con.name (Ax.right x)),.int .i64 (Con.lo (Ax.right x)),.int .i64 (Con.hi (Ax.right x)),.slice (Con.ad (Ax.right x)) (List.length (Con.parts (Ax.right x))) (Con.cap (Ax.right x)),.slice (Ax.ad x) (List.length (Ax.roles x)) (Ax.cap x),str (Ax.role x),str (Ax.a x),str (Ax.b x)] 48 (0,0))::[]))) (fun y=>[Ax.memF x,Ax.memF w]) ?_ ?_
  ·cases r18
   ·replace hr18:=znb hr18
    refine Zz 3 ?_
    exact al_ ⟨nn14,(dG_ hnn14 hr18)⟩ zl zp zf
   replace hr18:=zeb hr18
   refine Zz 6 ?_
   refine d_ (cB_ (Ax.b x) (Ax.b w)) rfl e_ zt rfl fun _=>Zz 3 ?_
   exact al_ ⟨(Lib.compareBytes (Ax.b x) (Ax.b w)),(cY_ hnn14 hr18)⟩ zl zp zf
  rintro ⟨nn15,hnn15⟩
  dsimp only
  refine Zz 8 ?_
  exact E_ Tryz.results77 () (O_ rfl (by rw[hnn15];exact rfl)) e_ zt
 obtain⟨hlx1,x1,hx1,hmx1⟩:=zge (show i<List.length (Ax.roles x) by omega)
 have hly1:i<List.length (Ax.roles w):=by omega
 obtain⟨y1,hy1⟩:∃ e0,(Ax.roles w)[i]? = some e0:=⟨_,List.getElem?_eq_getElem hly1⟩
 have hmy1:y1∈(Ax.roles w):=List.mem_of_getElem? hy1
 have hn0:n=0:=by assumption
 refine Zz 9 ?_
 refine Q_ 2 [0,1,2,3,4,5,6,7,8,9] zk zs (Zz 3 ?_)
 refine P_ rfl (C_ t_ ah_ rfl rfl (fun v _ h=>q_ (n:=1) ak_ (by decide) (by exact h.1.2.2) hx1) (by omega) (by first|omega|(simp;done))) rfl ?_
 refine P_ rfl (bt_ (ad:=(Ax.ad x)) aL_ rfl (fun v _ h=>by exact h.1.2.2) (o_ ak_ hx1 0 _ rfl)) rfl (Zz 3 ?_)
 refine P_ rfl (C_ t_ ah_ rfl rfl (fun v _ h=>q_ (n:=1) ak_ (by decide) (by exact h.2.1.2.2) hy1) (by omega) (by first|omega|(simp;done))) rfl ?_
 refine P_ rfl (bt_ (ad:=(Ax.ad w)) aL_ rfl (fun v _ h=>by exact h.2.1.2.2) (o_ ak_ hy1 0 _ rfl)) rfl (ba_ (p_ 10 rfl zk (d_ (cB_ x1 y1) rfl e_ zt rfl fun _=>Zz 3 ?_)))
 refine Q_ 0 [11] zk zs (Zz 10 ?_)
 exact z_ ⟨(i+1,(Lib.compareBytes x1 y1)),ft_.step (by rw[hn0]at hlx;exact hlx) (by rw[mQ_ hx1 hy1]) (fun _=>⟨by omega,by omega⟩)⟩ (by dsimp only;omega) zl zp zh
theorem li_ (x y:Ax) (hok1:x.ok) (hok2:y.ok) (hz1l:x.left.sz≤1000) (hz1r:x.right.sz≤1000) (hz2l:y.left.sz≤1000) (hz2r:y.right.sz≤1000):Tri Tryz.prog 34 #[Ax.val x,Ax.val y] [] [Ax.memF x,Ax.memF y] (fun _:Unit=>.bool ((x.opn==y.opn)&&(Ax.cmp x y==0))) (fun _=>[]) (fun _=>[]):=by
 refine j_ Tryz.func34 rfl rfl Tryz.ntmps34 rfl fun v0=>?_
 refine Zz 2 ?_
 refine N_ rfl rfl fun b1=>N_ rfl rfl fun b2=>Zz 9 ?_
 refine y_ (nd_ Tryz.underlying4 rfl rfl) rfl fun r1 hr1=>Zz 1 ?_
 cases r1
 ·refine Zz 9 ?_
  exact E_ Tryz.results34 () (m_ rfl (by simp only[hr1,if_true,if_false,decide_true,decide_false,Bool.and_true,Bool.and_false,Bool.true_and,Bool.false_and,Bool.or_true,Bool.or_false,Bool.true_or,Bool.false_or,Bool.not_true,Bool.not_false,ne_eq,not_true_eq_false,not_false_eq_true,true_and,and_true,false_and,and_false,true_or,or_true,false_or,or_false,ite_true,ite_false,Bool.false_eq_true])) e_ zt
 refine Zz 5 ?_
 refine d_ (sC_ x y hok1 hok2 hz1l hz1r hz2l hz2r) rfl e_ zf rfl fun _=>az_ rfl rfl (y_ (ay_ rfl rfl) rfl fun r2 hr2=>Zz 5 ?_)
 exact E_ Tryz.results34 () (m_ rfl (by rw[← hr2];simp only[hr1,if_true,if_false,decide_true,decide_false,Bool.and_true,Bool.and_false,Bool.true_and,Bool.false_and,Bool.or_true,Bool.or_false,Bool.true_or,Bool.false_or,Bool.not_true,Bool.not_false,ne_eq,not_true_eq_false,not_false_eq_true,true_and,and_true,false_and,and_false,true_or,or_true,false_or,or_false,ite_true,ite_false,Bool.false_eq_true])) e_ zt
end Go.Proofs.YtamklbgaipakfaaGreatDoor
namespace Go.Vs
open Go Go.Sx Go.Proofs.YtamklbgaipakfaaGreatDoor
structure Rcd.ok (x:Rcd):Prop where
  a:x.a.length≤x.acap∧x.acap≤maxLen∧(x.aad=none→x.acap=0)
  r:x.r.length≤x.rcap∧x.rcap≤maxLen∧(x.rad=none→x.rcap=0)
  f:x.f.length≤x.fcap∧x.fcap≤maxLen∧(x.fad=none→x.fcap=0)
structure Rcd.sm (x:Rcd):Prop where
  a:x.a.length≤10000000000
  r:x.r.length≤10000000000
  f:x.f.length≤10000000000
def Rcd.row (x:Rcd):List Fct:=[ac_ x.aad (x.a.flatMap aJ_),ac_ x.rad (x.r.flatMap aJ_),ac_ x.fad (x.f.flatMap aJ_)]
structure Rcd.srt (x:Rcd):Prop where
  a:SrS x.a
  r:SrS x.r
  f:SrS x.f
structure RcA (S X:List Str):Prop where
  s:SrS X
  l:X.length≤S.length+2
  m:∀ n,n∈X↔n=[33]∨n=[42]∨n∈S
theorem RcA.nil:RcA [] [[33],[42]]:=⟨by decide,by decide,fun n=>by simp⟩
theorem RcA.step {S X:List Str} {s:Str} (h:RcA S X) (hs:s≠[]):RcA (S++[s]) (bE_ X s):=by
 obtain⟨h1,_,_,h4⟩:=eZ_ h.s hs
 refine⟨h1,?_,fun n=>?_⟩
 ·have:=h.l
  by_cases q:s∈X
  ·rw[jH_ h.s q,List.length_append];omega
  rw[ho_ hs q,List.length_append,List.length_singleton];omega
 rw[h4,h.m,List.mem_append,List.mem_singleton]
 constructor
 ·rintro ((q|q|q)|q)
  ·exact .inl q
  ·exact .inr (.inl q)
  ·exact .inr (.inr (.inl q))
  exact .inr (.inr (.inr q))
 rintro (q|q|q|q)
 ·exact .inl (.inl q)
 ·exact .inl (.inr (.inl q))
 ·exact .inl (.inr (.inr q))
 exact .inr q
theorem RcA.inv {p:List Pc} {S X:List Str} (h:RcA S X):RdI p S X [] []:=by
 refine⟨h.s,.nil,.nil,fun t ht=>?_,fun t ht=>?_⟩
 ·obtain⟨k,n⟩:=t
  rcases ht with⟨hk,hn⟩|⟨_,hn⟩|⟨_,hn⟩
  ·dsimp only at hk hn
   subst hk
   refine .base ?_
   unfold cW_
   rcases (h.m n).1 hn with rfl|rfl|q
   ·simp
   ·simp
   exact List.mem_append_right _ (List.mem_map.2 ⟨n,q,rfl⟩)
  ·cases hn
  cases hn
 unfold cW_ at ht
 rcases List.mem_append.1 ht with q|q
 ·rcases List.mem_cons.1 q with rfl|q
  ·exact .inl ⟨rfl,(h.m _).2 (.inr (.inl rfl))⟩
  rw[List.mem_singleton]at q
  subst q
  exact .inl ⟨rfl,(h.m _).2 (.inl rfl)⟩
 obtain⟨n,hn,rfl⟩:=List.mem_map.1 q
 exact .inl ⟨rfl,(h.m _).2 (.inr (.inr hn))⟩
structure Rc1 (p:List Pc) (S:List Str) (x:Rcd):Prop where
  m:∀ t,iK_ x.a x.r x.f t↔Rch p S t
  s:x.srt
  ok:x.ok
  sm:x.sm
theorem RdR.fin {p:List Pc} {S a r f:List Str} {n:Int} (h:RdR p S n p.length a r f) (h0:¬ n<((a.length+r.length+f.length:Nat):Int)):∀ t,iK_ a r f t↔Rch p S t:=by
  have:=h.le
  have e:n=((a.length+r.length+f.length:Nat):Int):=by omega
  subst e
  exact h.done
theorem RdI.sm {p:List Pc} {S:List Str} {x:Rcd} (h:RdI p S x.a x.r x.f) (hp:p.length≤100000000) (hS:S.length≤100000000):x.sm∧x.a.length+x.r.length+x.f.length≤300000002:=by
  have h1:=h.len
  have h2:=eW_ p S
  exact⟨⟨by omega,by omega,by omega⟩,by omega⟩
def MtI (a:Ax) (x:Rcd) (p:List Pc) (i:Nat) (k:Nat) (b:Bool):Prop:=b=true↔fn_ a∨∃ (j:Nat) (q:Pc),j<k∧p[j]? = some q∧q.frm=(i:Int)∧mb_ x.a x.r x.f q=true
theorem MtI.zero {a:Ax} {x:Rcd} {p:List Pc} {i:Nat} {b:Bool} (h:b=true↔fn_ a):MtI a x p i 0 b:=by
  unfold MtI
  rw[h]
  exact⟨.inl,fun q=>q.elim id fun⟨_,_,q,_⟩=>absurd q (Nat.not_lt_zero _)⟩
theorem MtI.step {a:Ax} {x:Rcd} {p:List Pc} {i k:Nat} {q:Pc} {c:Bool} (h:MtI a x p i k false) (hq:p[k]? = some q) (hc:c=true↔q.frm=(i:Int)∧mb_ x.a x.r x.f q=true):MtI a x p i (k+1) c:=by
 have h0:¬ (fn_ a∨∃ (j:Nat) (q:Pc),j<k∧p[j]? = some q∧q.frm=(i:Int)∧mb_ x.a x.r x.f q=true):=fun z=>by have:=h.2 z;cases this
 unfold MtI
 rw[hc]
 constructor
 ·exact fun z=>.inr ⟨k,q,by omega,hq,z⟩
 rintro (z|⟨j,y,hj,hy,z⟩)
 ·exact absurd (.inl z) h0
 rcases Nat.lt_or_ge j k with g|g
 ·exact absurd (.inr ⟨j,y,g,hy,z⟩) h0
 obtain rfl:j=k:=by omega
 rw[hq,Option.some.injEq]at hy
 subst hy
 exact z
theorem Rc1.usb {p:List Pc} {S:List Str} {x:Rcd} (h:Rc1 p S x) (q:Pc):mb_ x.a x.r x.f q=true↔Usb p S q:=by
  unfold mb_ Usb
  rw[decide_eq_true_iff]
  exact⟨fun z u hu=>(h.m u).1 (z u hu),fun z u hu=>(h.m u).2 (z u hu)⟩
theorem MtI.yes {l:List Ax} {a:Ax} {x:Rcd} {p:List Pc} {S:List Str} {i k:Nat} (h:MtI a x p i k true) (hx:Rc1 p S x) (ha:l[i]? = some a):Mat l p S i:=by
 rcases h.1 rfl with z|⟨j,q,_,hq,hf,hu⟩
 ·exact ia_ ha z
 exact .inr ⟨q,List.mem_of_getElem? hq,hf,(hx.usb q).1 hu⟩
theorem MtI.no {l:List Ax} {a:Ax} {x:Rcd} {p:List Pc} {S:List Str} {i k:Nat} (h:MtI a x p i k false) (hx:Rc1 p S x) (ha:l[i]? = some a) (hk:p.length≤k):¬ Mat l p S i:=by
 have h0:¬ (fn_ a∨∃ (j:Nat) (q:Pc),j<k∧p[j]? = some q∧q.frm=(i:Int)∧mb_ x.a x.r x.f q=true):=fun z=>by have:=h.2 z;cases this
 rintro (⟨b,hb,hkb⟩|⟨q,hq,hf,hu⟩)
 ·have:l[i]? = some b:=by simpa using hb
  rw[ha,Option.some.injEq]at this
  subst this
  exact h0 (.inl hkb)
 obtain⟨j,hj⟩:=List.getElem?_of_mem hq
 have:=(List.getElem?_eq_some_iff.1 hj).1
 exact h0 (.inr ⟨j,q,by omega,hj,hf,(hx.usb q).2 hu⟩)
end Go.Vs
namespace Go.Proofs.YtamklbgaipakfaaGreatDoor
open Go Go.Sx Go.Proofs
attribute [local irreducible] Code.wp wpList wpAnyH
open Go.Vs
theorem fh_:KeyT Tryz.prog 9 str:=tb_ cm_
theorem ra_ (l:List Ax) (ad:Option Addr) (cap:Nat) (hok:∀ x∈l,x.ok) (hC:∀ x∈l,x.check=0) (hll:l.length≤100000):Tri Tryz.prog 101 #[.slice ad (List.length l) cap] [] [aR_ ad l,bn_] (fun _:Unit=>.int .i64 0) (fun _=>[]) (fun _=>[]):=by
 refine j_ Tryz.func101 rfl rfl Tryz.ntmps101 rfl fun v0=>?_
 refine Zz 14 ?_
 refine Y_ (ι:={y:Nat // y≤List.length l}) (fun y=>[(2,.int .i64 0),(6,.slice ad (List.length l) cap),(7,.int .i64 (List.length l:Int)),(8,.int .i64 (y.1:Int))]) (fun y=>([])) (fun y=>[aR_ ad l,bn_]) (fun y=>List.length l - y.1) ⟨(0:Nat),by simp⟩ zl e_ zh ?_
 rintro ⟨i,hi_i⟩
 dsimp only at hi_i ⊢
 refine Zi 2 (fun hr1=>?_) fun hr1=>?_
 ·refine Zz 12 ?_
  exact E_ Tryz.results101 () rfl e_ zt
 obtain⟨hlx1,x1,hx1,hmx1⟩:=zge (show i<List.length l by omega)
 refine Zz 10 ?_
 refine c_ (C_ s_ f_ rfl rfl (fun v _ h=>q_ (n:=16) Ax.cells_len (by decide) (by exact h.1.1) hx1) (by omega) (by first|omega|(simp;done))) rfl ?_
 refine c_ (L_ (ad:=ad) (us:=Ax.cells x1) K_ f_ rfl (fun v _ h=>by exact h.1.1) (Ax.cells_len _) (o_ Ax.cells_len hx1)) rfl (G_ av_ rfl fun b1=>n_ 0 f_ rfl rfl rfl rfl rfl rfl (Zz 5 ?_))
 refine d_ (iO_ (hok x1 hmx1) (hC x1 hmx1)) rfl e_ (fun v _ h=>by exact⟨(h.1.2 x1 hmx1),h.2.1,trivial⟩) rfl fun _=>Zz 6 ?_
 refine c_ (aA_ (bR_ rfl rfl) (show _=Value.bool false from congrArg Value.bool (by decide))) rfl (Zz 10 ?_)
 exact z_ ⟨i+1,hlx1⟩ (by dsimp only;omega) zl e_ zh
theorem tp_ (x:Ax) (i:Nat) (hok:x.ok) (hi:i<x.roles.length):Tri Tryz.prog 188 #[Ax.val x,.int .i64 (i:Int)] [] [Ax.memF x] (fun _:Unit=>.bool (x.exm i)) (fun _=>[]) (fun _=>[]):=by
 refine j_ Tryz.func188 rfl rfl Tryz.ntmps188 rfl fun v0=>?_
 have hrl:=hok.len
 have hrc:=hok.cap
 obtain⟨ri,hri⟩:∃ r,x.roles[i]? = some r:=⟨_,List.getElem?_eq_getElem hi⟩
 refine Zz 2 ?_
 refine N_ rfl rfl fun b1=>Zz 6 ?_
 refine Q_ 0 [0,1,2,3,4,5,6,7] zk zs (Zz 3 ?_)
 refine P_ rfl (C_ t_ ah_ rfl rfl (fun v _ h=>q_ (n:=1) ak_ (by decide) (by exact h.1.2.2) hri) (by omega) (by first|omega|(simp;done))) rfl ?_
 refine P_ rfl (bt_ (ad:=(Ax.ad x)) aL_ rfl (fun v _ h=>by exact h.1.2.2) (o_ ak_ hri 0 _ rfl)) rfl (Zi 2 (fun hr1=>?_) fun hr1=>?_)
 ·have hrr:ri=Ax.role x:=by simpa using hr1
  refine Zz 29 ?_
  refine Y_ (ι:={y:Nat×Nat // y.1≤List.length (Ax.roles x)∧y.2=List.countP (fun r=>decide (r=x.role)) (List.take y.1 (Ax.roles x))}) (fun y=>[(1,.int .i64 (i:Int)),(2,zp_ b1 0),(4,.bool false),(5,.int .i64 (List.length (Ax.roles x):Int)),(6,.int .i64 (y.1.2:Int)),(21,.slice (Ax.ad x) (List.length (Ax.roles x)) (Ax.cap x)),(22,.int .i64 (List.length (Ax.roles x):Int)),(23,.int .i64 (y.1.1:Int))]) (fun y=>((b1,.cells #[.int .i64 (Ax.kind x),.bool (Ax.opn x),.int .i64 (Con.kind (Ax.left x)),str (Con.name (Ax.left x)),.int .i64 (Con.lo (Ax.left x)),.int .i64 (Con.hi (Ax.left x)),.slice (Con.ad (Ax.left x)) (List.length (Con.parts (Ax.left x))) (Con.cap (Ax.left x)),.int .i64 (Con.kind (Ax.right x)),str (Con.name (Ax.right x)),.int .i64 (Con.lo (Ax.right x)),.int .i64 (Con.hi (Ax.right x)),.slice (Con.ad (Ax.right x)) (List.length (Con.parts (Ax.right x))) (Con.cap (Ax.right x)),.slice (Ax.ad x) (List.length (Ax.roles x)) (Ax.cap x),str (Ax.role x),str (Ax.a x),str (Ax.b x)] 48 (0,0))::[])) (fun y=>[Ax.memF x]) (fun y=>List.length (Ax.roles x) - y.1.1) ⟨((0:Nat),(0:Nat)),by simp,(by simp)⟩ zl i_ zh ?_
  rintro ⟨⟨j,m⟩,hi_j,hm⟩
  dsimp only at hi_j hm ⊢
  refine Zi 2 (fun hr2=>?_) fun hr2=>?_
  ·refine Zi 9 (fun hr3=>?_) fun hr3=>?_
   ·refine Zi 14 (fun hr4=>?_) fun hr4=>?_
    ·refine Zz 11 ?_
     have hms:Ax.selfs x=m:=by rw[hm,List.take_of_length_le (by omega)];rfl
     exact E_ fM_ () (m_ rfl (by unfold Ax.exm;rw[hri,hms];rw[Bool.eq_iff_iff];simp only[Bool.and_eq_true,Bool.or_eq_true,Bool.not_eq_true',decide_eq_true_eq,decide_eq_false_iff_not,Option.some.injEq,beq_iff_eq,hrr,true_and,false_and,true_iff,Bool.false_eq_true,false_iff,reduceCtorEq];omega)) e_ zt
    refine Zz 5 ?_
    refine y_ (ay_ rfl rfl) rfl fun r5 hr5=>Zz 7 ?_
    have hms:Ax.selfs x=m:=by rw[hm,List.take_of_length_le (by omega)];rfl
    exact E_ fM_ () (m_ rfl (by rw[← hr5];unfold Ax.exm;rw[hri,hms];rw[Bool.eq_iff_iff];simp only[Bool.and_eq_true,Bool.or_eq_true,Bool.not_eq_true',decide_eq_true_eq,decide_eq_false_iff_not,Option.some.injEq,beq_iff_eq,hrr,true_and,false_and,true_iff,Bool.false_eq_true,false_iff,reduceCtorEq];omega)) e_ zt
   refine Zi 4 (fun hr6=>?_) fun hr6=>?_
   ·refine Zz 7 ?_
    refine c_ (aA_ (as_ rfl rfl rfl (aV_ (by omega) (by omega))) (show _=Value.int .i64 ((List.length (Ax.roles x):Int) - 1) from rfl)) rfl (az_ rfl rfl ?_)
    refine Zi 0 (fun hr7=>?_) fun hr7=>?_
    ·refine Zi 7 (fun hr8=>?_) fun hr8=>?_
     ·refine Zz 11 ?_
      have hms:Ax.selfs x=m:=by rw[hm,List.take_of_length_le (by omega)];rfl
      exact E_ fM_ () (m_ rfl (by unfold Ax.exm;rw[hri,hms];rw[Bool.eq_iff_iff];simp only[Bool.and_eq_true,Bool.or_eq_true,Bool.not_eq_true',decide_eq_true_eq,decide_eq_false_iff_not,Option.some.injEq,beq_iff_eq,hrr,true_and,false_and,true_iff,Bool.false_eq_true,false_iff,reduceCtorEq];omega)) e_ zt
     refine Zz 5 ?_
     refine y_ (ay_ rfl rfl) rfl fun r9 hr9=>Zz 7 ?_
     have hms:Ax.selfs x=m:=by rw[hm,List.take_of_length_le (by omega)];rfl
     exact E_ fM_ () (m_ rfl (by rw[← hr9];unfold Ax.exm;rw[hri,hms];rw[Bool.eq_iff_iff];simp only[Bool.and_eq_true,Bool.or_eq_true,Bool.not_eq_true',decide_eq_true_eq,decide_eq_false_iff_not,Option.some.injEq,beq_iff_eq,hrr,true_and,false_and,true_iff,Bool.false_eq_true,false_iff,reduceCtorEq];omega)) e_ zt
    refine Zz 15 ?_
    have hms:Ax.selfs x=m:=by rw[hm,List.take_of_length_le (by omega)];rfl
    exact E_ fM_ () (m_ rfl (by unfold Ax.exm;rw[hri,hms];rw[Bool.eq_iff_iff];simp only[Bool.and_eq_true,Bool.or_eq_true,Bool.not_eq_true',decide_eq_true_eq,decide_eq_false_iff_not,Option.some.injEq,beq_iff_eq,hrr,true_and,false_and,true_iff,Bool.false_eq_true,false_iff,reduceCtorEq];omega)) e_ zt
   refine Zz 21 ?_
   have hms:Ax.selfs x=m:=by rw[hm,List.take_of_length_le (by omega)];rfl
   exact E_ fM_ () (m_ rfl (by unfold Ax.exm;rw[hri,hms];rw[Bool.eq_iff_iff];simp only[Bool.and_eq_true,Bool.or_eq_true,Bool.not_eq_true',decide_eq_true_eq,decide_eq_false_iff_not,Option.some.injEq,beq_iff_eq,hrr,true_and,false_and,true_iff,Bool.false_eq_true,false_iff,reduceCtorEq];omega)) e_ zt
  have hlq1:j<List.length (Ax.roles x):=by omega
  obtain⟨q1,hq1⟩:∃ e0,(Ax.roles x)[j]? = some e0:=⟨_,List.getElem?_eq_getElem hlq1⟩
  have hmq1:q1∈(Ax.roles x):=List.mem_of_getElem? hq1
  refine Zz 10 ?_
  refine c_ (C_ t_ ah_ rfl rfl (fun v _ h=>q_ (n:=1) ak_ (by decide) (by exact h.1.2.2) hq1) (by omega) (by first|omega|(simp;done))) rfl ?_
  refine c_ (bt_ (ad:=(Ax.ad x)) aL_ rfl (fun v _ h=>by exact h.1.2.2) (o_ ak_ hq1 0 _ rfl)) rfl (Zi 8 (fun hr10=>?_) fun hr10=>?_)
  ·refine Zz 10 ?_
   exact z_ ⟨(j+1,m),hlq1,(by rw[take_snoc hq1,List.countP_append,hm];simp[hr10])⟩ (by dsimp only;omega) zl i_ zh
  refine Zz 5 ?_
  refine c_ (aA_ (as_ rfl rfl rfl (aV_ (by have:=List.countP_le_length (p:=fun r=>decide (r=x.role)) (l:=List.take j (Ax.roles x));have:=List.length_take_le j (Ax.roles x);omega) (by have:=List.countP_le_length (p:=fun r=>decide (r=x.role)) (l:=List.take j (Ax.roles x));have:=List.length_take_le j (Ax.roles x);omega))) (show _=Value.int .i64 ((m+1:Nat):Int) from congrArg _ (by omega))) rfl ?_
  refine Zz 8 ?_
  exact z_ ⟨(j+1,(m+1)),hlq1,(by rw[take_snoc hq1,List.countP_append,hm];simp[hr10])⟩ (by dsimp only;omega) zl i_ zh
 refine Zz 10 ?_
 exact E_ fM_ () (m_ rfl (by unfold Ax.exm;rw[hri];simp[hr1])) e_ zt
theorem qA_ (r s:Str) (e:Bool) (cb mb:Nat) (ks:List (Str×Nat)) (S:List RSt) (Hx:Hp) (hT:MmO mb ks S Hx):Tri Tryz.prog 187 #[str r,str s,.bool e,zp_ cb 0] Hx [bj_ cb (.cells #[.map (some mb)] 165 (0,0))] (fun _:{y:List (Str×Nat)×Hp // MmO mb y.1 (S++[(r,s,e)]) y.2∧∀ k∈y.1.map (·.1),k∈ks.map (·.1)∨k=r}=>.tuple #[]) (fun y=>y.1.2) (fun _=>[]):=by
 refine j_ Tryz.func187 rfl rfl Tryz.ntmps187 rfl fun v0=>?_
 refine Zz 5 ?_
 refine c_ (ep_ (k:=r) fh_ cK_ eO_ hT rfl rfl am_) rfl (y_ (rX_ Tryz.underlying184 rfl rfl) rfl fun r1 hr1=>Zz 2 ?_)
 cases r1
 ·replace hr1:=zdf hr1
  obtain⟨bk1,hbk1⟩:=Option.ne_none_iff_exists'.1 hr1
  refine Zz 6 ?_
  refine c_ (aA_ (ep_ (k:=r) fh_ cK_ eO_ hT rfl rfl am_) (congrArg jm_ hbk1)) rfl (Zz 3 ?_)
  refine c_ (aA_ (ep_ (k:=r) fh_ cK_ eO_ hT rfl rfl am_) (congrArg jm_ hbk1)) rfl (Zz 1 ?_)
  refine y_ (hl_ (k:=r) (s:=s) fh_ dC_ fL_ hT hbk1 rfl rfl am_) rfl fun r2 hr2=>Zz 1 ?_
  cases r2
  ·refine Zz 3 ?_
   refine hX_ (k:=r) (s:=s) (e:=e) fh_ (.inr rfl) dC_ hT hbk1 (by rw[hr2];simp) rfl rfl rfl am_ fun HT1 hT1=>?_
   refine u_ dO_ (Zz 2 ?_)
   exact dS_ Tryz.results187 ⟨(ks,HT1),hT1,fun k hk=>.inl hk⟩ rfl am_ zt
  refine Zz 2 ?_
  refine hX_ (k:=r) (s:=s) (e:=e) fh_ (.inr rfl) dC_ hT hbk1 (by rw[hr2];simp) rfl rfl rfl am_ fun HT2 hT2=>?_
  refine u_ dO_ (Zz 2 ?_)
  exact dS_ Tryz.results187 ⟨(ks,HT2),hT2,fun k hk=>.inl hk⟩ rfl am_ zt
 replace hr1:=zdt hr1
 refine Zz 4 ?_
 refine ds_ rfl fun b1=>sM_ (k:=r) fh_ (.inr rfl) cK_ hT hr1 rfl rfl rfl (V_ i_ am_) fun HT3 hT3=>u_ dO_ ?_
 have hb3:eQ_ (ks++[(r,b1)]) r=some b1:=sj_ hr1
 refine Zz 5 ?_
 refine c_ (aA_ (ep_ (k:=r) fh_ cK_ eO_ hT3 rfl rfl am_) (congrArg jm_ hb3)) rfl (Zz 3 ?_)
 refine c_ (aA_ (ep_ (k:=r) fh_ cK_ eO_ hT3 rfl rfl am_) (congrArg jm_ hb3)) rfl (Zz 1 ?_)
 refine y_ (hl_ (k:=r) (s:=s) fh_ dC_ fL_ hT3 hb3 rfl rfl am_) rfl fun r3 hr3=>Zz 1 ?_
 cases r3
 ·refine Zz 3 ?_
  refine hX_ (k:=r) (s:=s) (e:=e) fh_ (.inr rfl) dC_ hT3 hb3 (by rw[hr3];simp) rfl rfl rfl am_ fun HT4 hT4=>?_
  refine u_ dO_ (Zz 2 ?_)
  exact dS_ Tryz.results187 ⟨((ks++[(r,b1)]),HT4),hT4,fun k hk=>by rw[List.map_append,List.mem_append]at hk;exact hk.imp id (by simp)⟩ rfl am_ zt
 refine Zz 2 ?_
 refine hX_ (k:=r) (s:=s) (e:=e) fh_ (.inr rfl) dC_ hT3 hb3 (by rw[hr3];simp) rfl rfl rfl am_ fun HT5 hT5=>?_
 refine u_ dO_ (Zz 2 ?_)
 exact dS_ Tryz.results187 ⟨((ks++[(r,b1)]),HT5),hT5,fun k hk=>by rw[List.map_append,List.mem_append]at hk;exact hk.imp id (by simp)⟩ rfl am_ zt
theorem ui_ (l:List Ax) (ad:Option Addr) (cap:Nat) (hok:∀ x∈l,x.ok) (hC:∀ x∈l,x.check=0) (hll:l.length≤100000):Tri Tryz.prog 103 #[.slice ad (List.length l) cap] [] [aR_ ad l] (fun y:{y:Nat×List (Str×Nat)×Hp // MmO y.1 y.2.1 (da_ l) y.2.2∧Frm y.2.1 (da_ l)}=>.map (some y.1.1)) (fun y=>y.1.2.2) (fun _=>[]):=by
 refine j_ Tryz.func103 rfl rfl Tryz.ntmps103 rfl fun v0=>?_
 refine Zz 7 ?_
 refine ds_ rfl fun b1=>G_ Tryz.zeroValue165 rfl fun b2=>n_ 0 Tryz.sizeOf165 rfl rfl rfl rfl rfl rfl (Zz 4 ?_)
 refine c_ (dw_ rfl rfl) rfl (Zz 12 ?_)
 refine gB_ 0 rfl ?_
 refine Y_ (ι:={y:Nat×List (Str×Nat)×Hp // y.1≤List.length l∧MmO b1 y.2.1 (da_ (List.take y.1 l)) y.2.2∧Frm y.2.1 (da_ (List.take y.1 l))}) (fun y=>[(2,.map none),(3,zp_ b2 0),(4,.func (.func 187) #[] #[zp_ b2 0]),(11,.slice ad (List.length l) cap),(12,.int .i64 (List.length l:Int)),(13,.int .i64 (y.1.1:Int))]) (fun y=>(y.1.2.2)) (fun y=>[bj_ b2 (.cells #[.map (some b1)] 165 (0,0)),aR_ ad l]) (fun y=>List.length l - y.1.1) ⟨((0:Nat),[],[(b1,.map #[] 0)]),by simp,(by rw[List.take_zero];exact MmO.nil b1 0),Frm.nil⟩ zl i_ zh ?_
 rintro ⟨⟨i,ks0,HT0⟩,hi_i,hT0,hF0⟩
 dsimp only at hi_i hT0 hF0 ⊢
 refine Zi 2 (fun hr1=>?_) fun hr1=>?_
 ·refine Zz 13 ?_
  have hti:List.take i l=l:=List.take_of_length_le (by omega)
  rw[hti]at hT0 hF0
  exact E_ Tryz.results103 ⟨(b1,ks0,HT0),hT0,hF0⟩ rfl am_ zt
 obtain⟨hlx1,x1,hx1,hmx1⟩:=zge (show i<List.length l by omega)
 have hGx:=Ax.good_of (hC x1 hmx1)
 refine Zz 10 ?_
 refine c_ (C_ s_ f_ rfl rfl (fun v _ h=>q_ (n:=16) Ax.cells_len (by decide) (by exact h.2.1.1) hx1) (by omega) (by first|omega|(simp;done))) rfl ?_
 refine c_ (L_ (ad:=ad) (us:=Ax.cells x1) K_ f_ rfl (fun v _ h=>by exact h.2.1.1) (Ax.cells_len _) (o_ Ax.cells_len hx1)) rfl (G_ av_ rfl fun b3=>n_ 0 f_ rfl rfl rfl rfl rfl rfl (Zi 11 (fun hr2=>?_) fun hr2=>?_))
 ·refine Zi 6 (fun hr3=>?_) fun hr3=>?_
  ·refine Zz 11 ?_
   exact z_ ⟨(i+1,ks0,HT0),hlx1,(by rw[dd_ hx1,Ax.steps_no hr2 hr3,List.append_nil];exact hT0),(by rw[dd_ hx1,Ax.steps_no hr2 hr3,List.append_nil];exact hF0)⟩ (by dsimp only;omega) zl au_ zh
  have hch:=hGx.chain hr3
  refine Zz 13 ?_
  refine Y_ (ι:={y:Nat×List (Str×Nat)×Hp // y.1≤List.length (Ax.roles x1)∧MmO b1 y.2.1 ((da_ (List.take i l))++Ax.chs x1 y.1) y.2.2∧Frm y.2.1 ((da_ (List.take i l))++Ax.chs x1 y.1)}) (fun y=>[(2,.map none),(3,zp_ b2 0),(4,.func (.func 187) #[] #[zp_ b2 0]),(11,.slice ad (List.length l) cap),(12,.int .i64 (List.length l:Int)),(13,.int .i64 (i:Int)),(6,zp_ b3 0),(39,.slice (Ax.ad x1) (List.length (Ax.roles x1)) (Ax.cap x1)),(40,.int .i64 (List.length (Ax.roles x1):Int)),(41,.int .i64 (y.1.1:Int))]) (fun y=>((b3,.cells #[.int .i64 (Ax.kind x1),.bool (Ax.opn x1),.int .i64 (Con.kind (Ax.left x1)),str (Con.name (Ax.left x1)),.int .i64 (Con.lo (Ax.left x1)),.int .i64 (Con.hi (Ax.left x1)),.slice (Con.ad (Ax.left x1)) (List.length (Con.parts (Ax.left x1))) (Con.cap (Ax.left x1)),.int .i64 (Con.kind (Ax.right x1)),str (Con.name (Ax.right x1)),.int .i64 (Con.lo (Ax.right x1)),.int .i64 (Con.hi (Ax.right x1)),.slice (Con.ad (Ax.right x1)) (List.length (Con.parts (Ax.right x1))) (Con.cap (Ax.right x1)),.slice (Ax.ad x1) (List.length (Ax.roles x1)) (Ax.cap x1),str (Ax.role x1),str (Ax.a x1),str (Ax.b x1)] 48 (0,0))::y.1.2.2)) (fun y=>[bj_ b2 (.cells #[.map (some b1)] 165 (0,0)),aR_ ad l]) (fun y=>List.length (Ax.roles x1) - y.1.1) ⟨((0:Nat),ks0,HT0),by simp,(by rw[Ax.chs,List.append_nil];exact hT0),hF0.more⟩ zl zp zh ?_
  rintro ⟨⟨j,ks1,HT1⟩,hi_j,hT1,hF1⟩
  dsimp only at hi_j hT1 hF1 ⊢
  refine Zi 2 (fun hr4=>?_) fun hr4=>?_
  ·refine Zz 11 ?_
   exact z_ ⟨(i+1,ks1,HT1),hlx1,(by rw[dd_ hx1,Ax.steps_six hr3,show List.length (Ax.roles x1)=j from (by omega)];exact hT1),(by rw[dd_ hx1,Ax.steps_six hr3,show List.length (Ax.roles x1)=j from (by omega)];exact hF1)⟩ (by dsimp only;omega) zl au_ zh
  have hlq1:j<List.length (Ax.roles x1):=by omega
  obtain⟨q1,hq1⟩:∃ e0,(Ax.roles x1)[j]? = some e0:=⟨_,List.getElem?_eq_getElem hlq1⟩
  have hmq1:q1∈(Ax.roles x1):=List.mem_of_getElem? hq1
  refine Zz 11 ?_
  refine c_ (C_ t_ ah_ rfl rfl (fun v _ h=>q_ (n:=1) ak_ (by decide) (by exact (h.2.1.2 x1 hmx1).2.2) hq1) (by omega) (by first|omega|(simp;done))) rfl ?_
  refine c_ (bt_ (ad:=(Ax.ad x1)) aL_ rfl (fun v _ h=>by exact (h.2.1.2 x1 hmx1).2.2) (o_ ak_ hq1 0 _ rfl)) rfl (Zz 8 ?_)
  refine af_ (tp_ x1 j (hok x1 hmx1) hlq1) rfl e_ (fun v _ h=>by exact⟨(h.2.1.2 x1 hmx1),trivial⟩) rfl fun r5 hr5=>c_ (aG_ rfl) rfl (Zz 2 ?_)
  cases r5
  ·refine Zz 6 ?_
   refine ax_ (qA_ q1 (Ax.role x1) true b2 b1 ks1 ((da_ (List.take i l))++Ax.chs x1 j) HT1 hT1) rfl rfl au_ zf rfl fun⟨⟨kA1,HA1⟩,hA1,hFr1⟩=>?_
   dsimp only
   dsimp only at hA1 hFr1
   refine Zz 2 ?_
   refine u_ (bO_ br_) (Zz 5 ?_)
   exact z_ ⟨(j+1,kA1,HA1),hlq1,(by rw[Ax.chs_no hq1 hr5,← List.append_assoc];exact hA1),(by rw[Ax.chs_no hq1 hr5,← List.append_assoc];exact hF1.add hFr1)⟩ (by dsimp only;omega) zl zp zh
  refine Zz 8 ?_
  exact z_ ⟨(j+1,ks1,HT1),hlq1,(by rw[Ax.chs_yes hq1 hr5];exact hT1),(by rw[Ax.chs_yes hq1 hr5];exact hF1)⟩ (by dsimp only;omega) zl zp zh
 have hone:=hGx.one hr2
 have hlq0:0<List.length (Ax.roles x1):=by omega
 obtain⟨q0,hq0⟩:∃ e0,(Ax.roles x1)[0]? = some e0:=⟨_,List.getElem?_eq_getElem hlq0⟩
 have hmq0:q0∈(Ax.roles x1):=List.mem_of_getElem? hq0
 refine Zz 6 ?_
 refine Q_ 0 [0,1,2,3,4,5,6] zk zs (Zz 2 ?_)
 refine P_ rfl (C_ t_ ah_ rfl rfl (fun v _ h=>q_ (n:=1) ak_ (by decide) (by exact (h.2.1.2 x1 hmx1).2.2) hq0) (by omega) (by first|omega|(simp;done))) rfl ?_
 refine P_ rfl (bt_ (ad:=(Ax.ad x1)) aL_ rfl (fun v _ h=>by exact (h.2.1.2 x1 hmx1).2.2) (o_ ak_ hq0 0 _ rfl)) rfl (Zi 2 (fun hr6=>?_) fun hr6=>?_)
 ·refine Zz 11 ?_
  exact z_ ⟨(i+1,ks0,HT0),hlx1,(by rw[dd_ hx1,Ax.steps_same hr2 hq0 hr6,List.append_nil];exact hT0),(by rw[dd_ hx1,Ax.steps_same hr2 hq0 hr6,List.append_nil];exact hF0)⟩ (by dsimp only;omega) zl au_ zh
 refine Zz 4 ?_
 refine bf_ ((b3,.cells #[.int .i64 (Ax.kind x1),.bool (Ax.opn x1),.int .i64 (Con.kind (Ax.left x1)),str (Con.name (Ax.left x1)),.int .i64 (Con.lo (Ax.left x1)),.int .i64 (Con.hi (Ax.left x1)),.slice (Con.ad (Ax.left x1)) (List.length (Con.parts (Ax.left x1))) (Con.cap (Ax.left x1)),.int .i64 (Con.kind (Ax.right x1)),str (Con.name (Ax.right x1)),.int .i64 (Con.lo (Ax.right x1)),.int .i64 (Con.hi (Ax.right x1)),.slice (Con.ad (Ax.right x1)) (List.length (Con.parts (Ax.right x1))) (Con.cap (Ax.right x1)),.slice (Ax.ad x1) (List.length (Ax.roles x1)) (Ax.cap x1),str (Ax.role x1),str (Ax.a x1),str (Ax.b x1)] 48 (0,0))::[]) zk ?_
 refine Q_ 1 [0,1,2,3,4,5,6] zk zs (Zz 3 ?_)
 refine P_ rfl (C_ t_ ah_ rfl rfl (fun v _ h=>q_ (n:=1) ak_ (by decide) (by exact (h.2.1.2 x1 hmx1).2.2) hq0) (by omega) (by first|omega|(simp;done))) rfl ?_
 refine P_ rfl (bt_ (ad:=(Ax.ad x1)) aL_ rfl (fun v _ h=>by exact (h.2.1.2 x1 hmx1).2.2) (o_ ak_ hq0 0 _ rfl)) rfl (Zz 3 ?_)
 refine p_ 7 rfl zk (ax_ (qA_ q0 (Ax.role x1) false b2 b1 ks0 (da_ (List.take i l)) HT0 hT0) rfl rfl au_ zf rfl fun⟨⟨kA2,HA2⟩,hA2,hFr2⟩=>?_)
 dsimp only
 dsimp only at hA2 hFr2
 refine Zz 5 ?_
 refine u_ (bO_ br_) (Zz 5 ?_)
 exact z_ ⟨(i+1,kA2,HA2),hlx1,(by rw[dd_ hx1,Ax.steps_five hr2 hq0 hr6];exact hA2),(by rw[dd_ hx1,Ax.steps_five hr2 hq0 hr6];exact hF0.add hFr2)⟩ (by dsimp only;omega) zl au_ zh
end Go.Proofs.YtamklbgaipakfaaGreatDoor
namespace Go.Proofs.YtamklbgaipakfaaGreatDoor
open Go Go.Sx Go.Proofs
attribute [local irreducible] Code.wp wpList wpAnyH
open Go.Vs
def ok_ (e:Nat×Bool):List Value:=[.int .i64 (e.1:Int),.bool e.2]
theorem kx_ (e:Nat×Bool):(ok_ e).length=2:=rfl
theorem tq_ (e:Nat×Bool):(ok_ e).all Value.oneCell'=true:=rfl
structure Grw where
  st:List (Nat×Bool)
  ad:Option Addr
  cap:Nat
def Grw.cells (x:Grw):List Value:=[.slice x.ad x.st.length x.cap]
theorem Grw.cells_len (x:Grw):x.cells.length=1:=rfl
theorem Grw.cells_one (x:Grw):x.cells.all Value.oneCell'=true:=rfl
def gh_ (X:List Grw):Fct where
  p v:=∀ y∈X,bA_ v y.ad (y.st.flatMap ok_)
  mono v v' h hp y hy:=(ac_ y.ad (y.st.flatMap ok_)).mono v v' h (hp y hy)
theorem pr_ {X:List Grw} {y:Grw} {v:Vw} (h:(gh_ X).p v) (hy:(ac_ y.ad (y.st.flatMap ok_)).p v):(gh_ (X++[y])).p v:=fun z hz=>by
 rcases List.mem_append.1 hz with hz|hz
 ·exact h z hz
 rw[List.mem_singleton]at hz;subst hz;exact hy
def wyC (w:Wy):List Value:=[.int .i64 (w.role:Int),.bool w.strict,.int .i64 (w.before:Int),.int .i64 (w.many:Int)]
theorem ju_ (w:Wy):(wyC w).length=4:=rfl
theorem pF_ (w:Wy):(wyC w).all Value.oneCell'=true:=rfl
theorem gt_ {l:List Str} (hl:l.Nodup):SrS (bb_ l):=by
 have h1:=jY_ l
 have h2:(bb_ l).Nodup:=(List.mergeSort_perm _ _).nodup_iff.2 hl
 unfold List.Nodup at h2
 refine List.Pairwise.imp (fun {a b} hab=>?_) (h1.and h2)
 by_cases g:a<b
 ·exact g
 exact absurd (List.le_antisymm hab.1 (List.not_lt.1 g)) hab.2
theorem SrS.nd {l:List Str} (h:SrS l):l.Nodup:=h.imp fun hab e=>by subst e;exact List.lt_irrefl _ hab
theorem bs_lo {R:List Str} (h:SrS R) {m:Nat} {x t:Str} (hx:R[m]? = some x) (hl:x<t):∀ (a:Nat) y,a<m+1→R[a]? = some y→y<t:=fun a y ha hy=>by
 rcases Nat.lt_or_ge a m with g|g
 ·exact List.lt_trans (oR_ h hy hx g) hl
 obtain rfl:a=m:=by omega
 rw[hx]at hy
 simp only[Option.some.injEq]at hy
 subst hy;exact hl
theorem bs_hi {R:List Str} (h:SrS R) {m:Nat} {x t:Str} (hx:R[m]? = some x) (hl:¬ x<t):∀ (a:Nat) y,m≤a→R[a]? = some y→¬ y<t:=fun a y ha hy hlt=>by
 rcases Nat.lt_or_ge m a with g|g
 ·exact hl (List.lt_trans (oR_ h hx hy g) hlt)
 obtain rfl:a=m:=by omega
 rw[hx]at hy
 simp only[Option.some.injEq]at hy
 subst hy;exact hl hlt
theorem vk_ {R:List Str} (h:SrS R) {m:Nat} {t:Str} (h1:∀ (a:Nat) y,a<m→R[a]? = some y→y<t) (h2:∀ (a:Nat) y,m≤a→R[a]? = some y→¬ y<t) (h3:R[m]? ≠ some t):t ∉ R:=fun ht=>by
 obtain⟨a,ha⟩:=List.getElem?_of_mem ht
 rcases Nat.lt_trichotomy a m with g|g|g
 ·exact List.lt_irrefl t (h1 a t g ha)
 ·subst g;exact h3 ha
 have hl:=(List.getElem?_eq_some_iff.1 ha).1
 have hm:=List.getElem?_eq_getElem (show m<R.length by omega)
 exact h2 m _ (Nat.le_refl _) hm (oR_ h hm ha g)
section
variable {P:Program} {N:Nf} {fr:Fr} {H:Hp} {Γ:List Fct} {ty:TypeId}
theorem rW_ {t t':TypeId} {x y:Operand} {ky:IntKind} {m:Nat} (hx:Fr.ev fr x=some (.int .u64 (m:Int))) (hy:Fr.ev fr y=some (.int ky 1)):Yld P N fr H Γ (.binOp .shr t x y t') ty (.int .u64 ((m / 2:Nat):Int)) :=
  fun a v h1 _ _ _ _ _=>by
    have e1:¬ ((1:Int)<0):=by omega
    have e2:(m:Int).fdiv 2=(m:Int) / 2:=Int.fdiv_eq_ediv_of_nonneg _ (by decide)
    simp[execOp,h1.ev hx,h1.ev hy,eqGuard,binOp,Op.shift,e1,IntKind.bits,e2]
end
def GrR (S:List RSt) (R:List Str) (r:Str) (ss:List Str) (L:List (Nat×Bool)):Prop:=∀ j c,(j,c)∈L↔∃ s,s∈ss∧R[j]? = some s∧c=flg S r s
theorem GrR.nil {S:List RSt} {R:List Str} {r:Str}:GrR S R r [] []:=fun j c=>by simp
theorem GrR.yes {S:List RSt} {R:List Str} {r s:Str} {ss:List Str} {L:List (Nat×Bool)} {n:Nat} (h:GrR S R r ss L) (hn:R.Nodup) (hs:R[n]? = some s):GrR S R r (ss++[s]) (L++[(n,flg S r s)]):=fun j c=>by
 rw[List.mem_append,h,List.mem_singleton,Prod.mk.injEq]
 constructor
 ·rintro (⟨t,h1,h2,h3⟩|⟨rfl,rfl⟩)
  ·exact⟨t,List.mem_append_left _ h1,h2,h3⟩
  exact⟨s,by simp,hs,rfl⟩
 rintro ⟨t,h1,h2,h3⟩
 rcases List.mem_append.1 h1 with h1|h1
 ·exact .inl ⟨t,h1,h2,h3⟩
 rw[List.mem_singleton]at h1
 subst h1
 exact .inr ⟨sO_ hn h2 hs,h3⟩
theorem GrR.no {S:List RSt} {R:List Str} {r s:Str} {ss:List Str} {L:List (Nat×Bool)} (h:GrR S R r ss L) (hs:s ∉ R):GrR S R r (ss++[s]) L:=fun j c=>by
 rw[h]
 constructor
 ·rintro ⟨t,h1,h2,h3⟩;exact⟨t,List.mem_append_left _ h1,h2,h3⟩
 rintro ⟨t,h1,h2,h3⟩
 rcases List.mem_append.1 h1 with h1|h1
 ·exact⟨t,h1,h2,h3⟩
 rw[List.mem_singleton]at h1
 subst h1
 exact absurd (List.mem_of_getElem? h2) hs
structure GrI (S:List RSt) (R:List Str) (X:List Grw) (i:Nat):Prop where
  len:X.length=i
  row:∀ (k:Nat) (r:Str) (y:Grw),R[k]? = some r→X[k]? = some y→GrR S R r (bb_ (ik S r)) y.st
  short:∀ y∈X,y.st.length≤S.length
theorem GrI.nil {S:List RSt} {R:List Str}:GrI S R [] 0:=⟨rfl,fun k r y _ h=>by simp at h,by simp⟩
theorem GrI.snoc {S:List RSt} {R:List Str} {X:List Grw} {i:Nat} {r:Str} {y:Grw} (h:GrI S R X i) (hr:R[i]? = some r) (hy:GrR S R r (bb_ (ik S r)) y.st) (hsh:y.st.length≤S.length):GrI S R (X++[y]) (i+1):=by
 refine⟨by simp[h.len],fun k q z hq hz=>?_,fun z hz=>by rcases List.mem_append.1 hz with hz|hz;exact h.short z hz;rw[List.mem_singleton]at hz;subst hz;exact hsh⟩
 rcases Nat.lt_or_ge k X.length with g|g
 ·rw[List.getElem?_append_left g]at hz;exact h.row k q z hq hz
 rw[List.getElem?_append_right g]at hz
 have hk:k - X.length=0:=by
   have:=(List.getElem?_eq_some_iff.1 hz).1
   simp only[List.length_singleton]at this
   omega
 rw[hk]at hz
 simp only[List.getElem?_cons_zero,Option.some.injEq]at hz
 subst hz
 have hki:k=i:=by have:=h.len;omega
 subst hki
 rw[hr]at hq
 simp only[Option.some.injEq]at hq
 subst hq;exact hy
theorem GrI.done {S:List RSt} {ks:List (Str×Nat)} {X:List Grw} (hF:Frm ks S) (hA:∀ z∈S,z.1∈ks.map (·.1)) (hn:(ks.map (·.1)).Nodup) (h:GrI S (bb_ (ks.map (·.1))) X (bb_ (ks.map (·.1))).length):GrO S (bb_ (ks.map (·.1))) (X.map Grw.st):=by
 refine⟨by rw[List.length_map,h.len],SrS.nd (gt_ hn),fun r=>?_,fun i r l hr hl j c=>?_⟩
 ·rw[List.mem_mergeSort]
  constructor
  ·exact hF r
  rintro ⟨s,c,hz⟩;exact hA _ hz
 rw[List.getElem?_map,Option.map_eq_some_iff]at hl
 obtain⟨y,hy,rfl⟩:=hl
 rw[h.row i r y hr hy j c]
 constructor
 ·rintro ⟨s,h1,h2,h3⟩;rw[List.mem_mergeSort,ks_]at h1;exact⟨s,h2,h1,h3⟩
 rintro ⟨s,h1,h2,h3⟩;exact⟨s,by rw[List.mem_mergeSort,ks_];exact h2,h1,h3⟩
theorem ue_:iT_ Tryz.prog 231 [(0,1),(1,1)] [.int .i64 0,.bool false]:=⟨_,Tryz.zeroValue231,ce_,fun w=>by simp[U_,cj_]⟩
theorem mf_:iT_ Tryz.prog 235 [(0,1),(1,1),(2,1),(3,1)] [.int .i64 0,.bool false,.int .i64 0,.int .i64 0]:=⟨_,kU_,cd_,fun w=>by simp[U_,cj_]⟩
theorem uN_:Elt Tryz.prog 228 231 2 16:=fo_ Tryz.underlying228 (z:=.agg #[.int .i64 0,.bool false]) (by kernel_rfl) rfl (by decide)
theorem uM_:Elt Tryz.prog 161 228 1 24:=fo_ Tryz.underlying161 (z:=.slice none 0 0) (by kernel_rfl) rfl (by decide)
theorem tt_:Elt Tryz.prog 236 235 4 32:=fo_ Tryz.underlying236 (z:=.agg #[.int .i64 0,.bool false,.int .i64 0,.int .i64 0]) (by kernel_rfl) rfl (by decide)
theorem ti_ (s:Str):Fn0 Tryz.prog 240 #[str s] (.bool false):=by
  refine j_ Tryz.func240 rfl rfl Tryz.ntmps240 rfl fun v0=>?_
  refine Zz 9 ?_
  refine c_ (aA_ (ea_ rfl rfl) (show _=Value.bool false from congrArg Value.bool (by simp))) rfl (Zz 4 ?_)
  exact E_ Tryz.results240 () rfl e_ zt
theorem rN_ (x y:Str):Fn0 Tryz.prog 173 #[str x,str y] (.bool (decide (x<y))):=by
  refine j_ Tryz.func173 rfl rfl Tryz.ntmps173 rfl fun v0=>?_
  refine Zz 8 ?_
  refine d_ (mv_ x) rfl e_ zt rfl fun _=>Zz 11 ?_
  refine y_ (hI_ rfl rfl) rfl fun r1 hr1=>Zz 5 ?_
  exact E_ Tryz.results173 () (m_ rfl (by rw[← hr1])) e_ zt
theorem binS_c (R:List Str) (ad:Option Addr) (cap:Nat) (t:Str) (hS:SrS R) (hl:R.length≤100000000):Tri Tryz.prog 186 #[.slice ad (List.length R) cap,str t] [] [ac_ ad (List.flatMap aJ_ R)] (fun y:{y:Nat×Bool // (y.2=true→R[y.1]? = some t)∧(y.2=false→t ∉ R)}=>.tuple #[.int .i64 (y.1.1:Int),.bool y.1.2]) (fun _=>[]) (fun _=>[]):=by
 refine j_ Tryz.func186 rfl rfl Tryz.ntmps186 rfl fun v0=>?_
 refine Zz 22 ?_
 refine Y_ (ι:={y:Nat×Nat // y.1≤y.2∧y.2≤List.length R∧(∀ (a:Nat) (z:Str),a<y.1→R[a]? = some z→z<t)∧(∀ (a:Nat) (z:Str),y.2≤a→R[a]? = some z→¬ z<t)}) (fun y=>[(0,.slice ad (List.length R) cap),(1,str t),(6,.int .i64 (List.length R:Int)),(7,.int .i64 (y.1.1:Int)),(8,.int .i64 (y.1.2:Int))]) (fun y=>([])) (fun y=>[ac_ ad (List.flatMap aJ_ R)]) (fun y=>y.1.2 - y.1.1) ⟨((0:Nat),(List.length R)),(by omega),(by omega),(fun a y h=>absurd h (by dsimp only;omega)),(fun a y h e=>by have:=(List.getElem?_eq_some_iff.1 e).1;dsimp only at h;omega)⟩ zl e_ zh ?_
 rintro ⟨⟨lo,hi⟩,hlh,hh,hA,hB⟩
 dsimp only at hlh hh hA hB ⊢
 refine Zi 5 (fun hr1=>?_) fun hr1=>?_
 ·obtain rfl:lo=hi:=by omega
  refine Zi 10 (fun hr2=>?_) fun hr2=>?_
  ·refine Zz 24 ?_
   exact fr_ Tryz.results186 ⟨(lo,false),fun q=>(by cases q),fun _=>vk_ hS hA hB (fun q=>by have:=(List.getElem?_eq_some_iff.1 q).1;omega)⟩ rfl rfl rfl e_ zt
  obtain⟨hlxl,xl,hxl,hmxl⟩:=zge (show lo<List.length R by omega)
  refine Zi 12 (fun hr3=>?_) fun hr3=>?_
  ·refine Zz 11 ?_
   refine d_ (ti_ xl) rfl e_ zt rfl fun _=>Zz 14 ?_
   exact fr_ Tryz.results186 ⟨(lo,false),fun q=>(by cases q),fun _=>vk_ hS hA hB (fun q=>by rw[hxl]at q;exact hr3 (Option.some.inj q))⟩ rfl rfl rfl e_ zt
  refine Zz 19 ?_
  exact fr_ Tryz.results186 ⟨(lo,true),fun _=>by rw[hxl,hr3],fun q=>by cases q⟩ rfl rfl rfl e_ zt
 have hhm:(lo+hi) / 2<List.length R:=by omega
 have hlxh:((lo+hi) / 2)<List.length R:=hhm
 obtain⟨xh,hxh⟩:∃ e0,R[((lo+hi) / 2)]? = some e0:=⟨_,List.getElem?_eq_getElem hlxh⟩
 have hmxh:xh∈R:=List.mem_of_getElem? hxh
 refine Zz 10 ?_
 refine c_ (aA_ (as_ rfl rfl rfl (aV_ (by omega) (by omega))) (show _=Value.int .i64 ((lo+hi:Nat):Int) from congrArg _ (by omega))) rfl (c_ (pE_ w_ Tryz.underlying145 rfl (wrapU (by omega) (by omega))) rfl (c_ (rW_ rfl rfl) rfl (c_ (pE_ Tryz.underlying145 w_ rfl (aV_ (by omega) (by omega))) rfl (Zz 10 ?_))))
 refine af_ (rN_ xh t) rfl e_ zt rfl fun r4 hr4=>Zz 2 ?_
 cases r4
 ·replace hr4:=zdf hr4
  refine Zz 6 ?_
  exact z_ ⟨(lo,((lo+hi) / 2)),(by omega),(by omega),hA,bs_hi hS hxh hr4⟩ (by dsimp only;omega) zl e_ zh
 replace hr4:=zdt hr4
 refine Zz 3 ?_
 refine c_ (aA_ (as_ rfl rfl rfl (aV_ (by omega) (by omega))) (show _=Value.int .i64 (((lo+hi) / 2+1:Nat):Int) from congrArg _ (by omega))) rfl (Zz 3 ?_)
 exact z_ ⟨(((lo+hi) / 2+1),hi),(by omega),hh,bs_lo hS hxh hr4,hB⟩ (by dsimp only;omega) zl e_ zh
end Go.Proofs.YtamklbgaipakfaaGreatDoor
