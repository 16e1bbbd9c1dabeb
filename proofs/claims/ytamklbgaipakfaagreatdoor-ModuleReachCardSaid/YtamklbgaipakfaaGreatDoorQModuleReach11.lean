/-
  Part of the proof of the law ModuleReach over this seat: the small logic, the data, the contracts of functions (no condition).
-/
import Derived.Test.YtamklbgaipakfaaGreatDoorQModuleReach10
import Derived.Test.YtamklbgaipakfaaGreatDoorQModuleReach6
import Derived.Test.YtamklbgaipakfaaGreatDoorQModuleReach8
import Derived.Test.YtamklbgaipakfaaGreatDoorQModuleReach3
import Derived.Test.YtamklbgaipakfaaGreatDoorQModuleReach2
import Derived.ArgAppend
set_option linter.unusedVariables false
set_option linter.unusedSimpArgs false
set_option linter.unusedSectionVars false
set_option maxHeartbeats 1000000
namespace Go.Proofs.YtamklbgaipakfaaGreatDoor
open Go Go.Sx Go.Proofs
attribute [local irreducible] Code.wp wpList wpAnyH
open Go.Vs
theorem fW_:Elt Tryz.prog 54 58 10 128:=gU_ Tryz.underlying54 (z:=.agg #[.int .i64 0,str [],str [],str [],str [],str [],str [],.int .i64 0,.int .i64 0,.int .i64 0]) (by kernel_rfl) rfl (by decide)
theorem Con.textR_len {c:Con} (hok:c.ok) (hh:c.has) (hz:c.sz≤1000):c.textR.length≤100000:=by
 rcases hh with h|h
 ·rw[Con.textR_fine h]
  have:=Con.text_len _ c (Nat.le_refl _) hok h
  omega
 unfold Con.textR
 rw[if_pos h.1]
 simp
theorem ln_ (c:Con) (hok:c.ok) (hh:c.has) (hz:c.sz≤1000):Tri Tryz.prog 117 #[Con.val c] [] [Con.memF c] (fun _:Unit=>str c.nameR) (fun _=>[]) (fun _=>[]):=by
 refine o_ Tryz.func117 rfl rfl Tryz.ntmps117 rfl fun v0=>?_
 have htl:=Con.textR_len hok hh hz
 refine Zz 2 ?_
 refine ah_ rfl rfl fun b1=>Zi 13 (fun hr1=>?_) fun hr1=>?_
 ·refine Zi 6 (fun hr2=>?_) fun hr2=>?_
  ·refine Zi 6 (fun hr3=>?_) fun hr3=>?_
   ·refine Zi 6 (fun hr4=>?_) fun hr4=>?_
    ·refine Zz 9 ?_
     refine i_ (rT_ c hok hh hz) rfl f_ zf rfl fun _=>?_
     refine c_ (bg_ rfl rfl (by first|omega|(simp only[List.length_append,List.length_cons,List.length_nil];omega))) rfl ?_
     refine c_ (bg_ rfl rfl (by first|omega|(simp only[List.length_append,List.length_cons,List.length_nil];omega))) rfl ?_
     refine Zz 4 ?_
     exact G_ oC_ () (bq_ rfl (by unfold Con.nameR;simp[*])) f_ zt
    have hfi:c.fine:=hh.elim id (fun q=>by omega)
    have hnm:=(Con.fields hfi).nm
    refine Zz 8 ?_
    refine c_ (bg_ rfl rfl (by first|omega|(simp only[List.length_append,List.length_cons,List.length_nil];omega))) rfl ?_
    refine c_ (bg_ rfl rfl (by first|omega|(simp only[List.length_append,List.length_cons,List.length_nil];omega))) rfl ?_
    refine Zz 4 ?_
    exact G_ oC_ () (bq_ rfl (by unfold Con.nameR;simp[*])) f_ zt
   refine Zz 12 ?_
   exact G_ oC_ () (bq_ rfl (by unfold Con.nameR;simp[*])) f_ zt
  refine Zz 10 ?_
  exact G_ oC_ () (bq_ rfl (by unfold Con.nameR;simp[*])) f_ zt
 refine Zz 10 ?_
 exact G_ oC_ () (bq_ rfl (by unfold Con.nameR;simp[*])) f_ zt
theorem dP_ (c:Con) (hok:c.ok) (hc:c.check=0):Tri Tryz.prog 117 #[c.val] [] [c.memF] (fun _:Unit=>str c.atom) (fun _=>[]) (fun _=>[]):=by
  have h:=ln_ c hok (Con.has_of hc) (by have:=(Con.check_zero hc).2;omega)
  rw[Con.nameR_eq hc]at h
  exact h
theorem mw_ (c:Con) (hok:c.ok) (hc:c.check=0) (hk:c.kind=5) (j:Nat) (hj:1≤j∧j≤c.parts.length):Tri Tryz.prog 197 #[Con.val c,.int .i64 (j:Int)] [] [Con.memF c] (fun _:Unit=>str (c.firstS j)) (fun _=>[]) (fun _=>[]):=by
 refine o_ Tryz.func197 rfl rfl Tryz.ntmps197 rfl fun v0=>?_
 have hpl:=Con.ok_len hok
 refine Zz 2 ?_
 refine ah_ rfl rfl fun b1=>Zi 7 (fun hr1=>?_) fun hr1=>?_
 ·refine Zz 10 ?_
  refine c_ (br_ (cM_ (i:=0) (j:=j) (kl:=.i64) (kh:=.i64) B_ g_ rfl rfl rfl (by omega) (by omega)) (show _=Value.slice (sad (Con.ad c) (Con.cap c) 0 5) (List.length (List.take j (Con.parts c))) ((Con.cap c) - 0) by rw[List.length_take,Nat.min_eq_left (by omega)];rfl)) rfl ?_
  refine c_ (S_ jl_ rfl rfl) rfl (i_ (dP_ (Con.mk 5 [] 0 0 (sad (Con.ad c) (Con.cap c) 0 5) ((Con.cap c) - 0) (List.take j (Con.parts c))) (Con.pre_ok hok j) (Con.pre_check hc hk (by omega) (by omega))) rfl f_ (fun v _ h=>by exact⟨(Con.pre_mem hok h.1 j),trivial⟩) rfl fun _=>Zz 4 ?_)
  exact G_ Tryz.results197 () (bq_ rfl (by unfold Con.firstS;rw[if_neg (by omega)];rfl)) f_ zt
 obtain⟨hlx0,x0,hx0,hmx0⟩:=zge (show 0<List.length (Con.parts c) by omega)
 refine Zz 7 ?_
 refine c_ (T_ B_ g_ rfl rfl (fun v _ h=>J_ (n:=5) Con.cells_len (by decide) (by exact ((Con.mem_iff c v).1 h.1).1) hx0) (by omega) (by first|omega|(simp;done))) rfl ?_
 refine c_ (al_ (ad:=(Con.ad c)) (us:=Con.cells x0) w_ g_ rfl (fun v _ h=>by exact ((Con.mem_iff c v).1 h.1).1) (Con.cells_len _) (H_ Con.cells_len hx0)) rfl (i_ (dP_ x0 (Con.ok_part hok hmx0) (Con.check_part hc hmx0)) rfl f_ (fun v _ h=>by exact⟨(Con.mem_part (c:=c) h.1 hmx0),trivial⟩) rfl fun _=>Zz 4 ?_)
 exact G_ Tryz.results197 () (bq_ rfl (by unfold Con.firstS;rw[if_pos (by omega),fU_ (x:=Con.atom x0) (by rw[List.getElem?_map,hx0];rfl)])) f_ zt
theorem iX_ {l:List Pc} {u:Value} (h:u∈l.flatMap Pc.cells):u.oneCell'=true:=by
  obtain⟨y,_,hy⟩:=List.mem_flatMap.1 h
  exact cY_ y.cells_one u hy
theorem Con.rlefts_len (ps:List Con) (i:Nat):(Con.rleft.rlefts (ps.take i)).length≤2*Con.sz.szs ps:=by
  have key:∀ ps:List Con,(Con.rleft.rlefts ps).length≤2*Con.sz.szs ps:=by
    intro ps
    induction ps with
    | nil=>simp[Con.rleft.rlefts]
    | cons p ps ih =>
      have:=Con.rleft_len _ p (Nat.le_refl _)
      simp only[Con.rleft.rlefts,Con.sz.szs,List.length_append]
      omega
  have h1:=key (ps.take i)
  have h2:=Con.szs_take_le ps i
  omega
theorem Con.andL_get (c:Con):∀ (r:List Con) (j q:Nat) (p:Con),r[q]? = some p→(Con.andL c r j)[q]? = some ⟨2,Con.firstS c (j+q),p.atom,Con.firstS c (j+q+1),[],[],[],0,0,0⟩
  | [],_,_,_,h=>by simp at h
  | x::r,j,0,p,h=>by simp only[List.getElem?_cons_zero,Option.some.injEq]at h;subst h;rfl
  | x::r,j,q+1,p,h=>by
    have:=Con.andL_get c r (j+1) q p (by simpa using h)
    rw[show j+1+q=j+(q+1) by omega]at this
    simpa [Con.andL] using this
theorem Con.andL_step (c:Con) {q:Nat} {p:Con} (h:c.parts[(q+1:Nat)]? = some p):(Con.andL c (c.parts.drop 1) 1).take (q+1)=(Con.andL c (c.parts.drop 1) 1).take q++[⟨2,Con.firstS c (q+1),p.atom,Con.firstS c (q+2),[],[],[],0,0,0⟩]:=by
  have h1:=Con.andL_get c (c.parts.drop 1) 1 q p (by rw[List.getElem?_drop,Nat.add_comm];exact h)
  rw[List.take_add_one,h1,show 1+q=q+1 by omega]
  rfl
theorem fy_:∀ (m:Nat) (c:Con),c.sz≤m→c.ok→c.check=0→Tri Tryz.prog 121 #[Con.val c] [] [Con.memF c] (fun y:{y:Value×Hp // aG_ 58 10 y.1 c.rleft.length (c.rleft.flatMap Pc.cells) y.2}=>y.1.1) (fun y=>y.1.2) (fun _=>[]):=by
 intro m
 induction m with
 | zero=>intro c h;have:=c.sz_pos;omega
 | succ m ih =>
   intro c hm hok hc
   have hpl:=Con.ok_len hok
   have hz:=(Con.check_zero hc).2
   refine o_ Tryz.func121 rfl rfl Tryz.ntmps121 rfl fun v0=>?_
   refine m_ ?_
   refine d_ ?_
   refine ah_ rfl rfl fun b1=>?_
   refine c_ (n_ rfl) rfl ?_
   refine j_ ?_
   refine e_ rfl ?_
   refine m_ ?_
   refine d_ ?_
   refine c_ (n_ rfl) rfl ?_
   refine j_ ?_
   refine e_ rfl ?_
   refine m_ ?_
   refine m_ ?_
   refine d_ ?_
   refine c_ (A_ z_ rfl rfl rfl ab_) rfl ?_
   refine c_ (M_ 0 ay_ rfl rfl rfl) rfl ?_
   refine j_ ?_
   refine e_ rfl ?_
   refine aB_ ?_
   refine m_ ?_
   refine d_ ?_
   refine s_ (V_ rfl rfl) rfl fun r1 hr1=>?_
   refine c_ (n_ rfl) rfl ?_
   refine j_ ?_
   refine e_ rfl ?_
   cases r1
   · skip
     replace hr1:=znb hr1
     refine F_ rfl ?_
     refine m_ ?_
     refine d_ ?_
     refine s_ (V_ rfl rfl) rfl fun r2 hr2=>?_
     refine c_ (n_ rfl) rfl ?_
     refine j_ ?_
     refine e_ rfl ?_
     cases r2
     · skip
       replace hr2:=znb hr2
       refine F_ rfl ?_
       refine m_ ?_
       refine d_ ?_
       refine s_ (V_ rfl rfl) rfl fun r3 hr3=>?_
       refine c_ (n_ rfl) rfl ?_
       refine j_ ?_
       refine e_ rfl ?_
       cases r3
       · skip
         replace hr3:=znb hr3
         refine F_ rfl ?_
         refine ai_ ?_
         refine e_ rfl ?_
         refine m_ ?_
         refine d_ ?_
         refine c_ (q_ rfl) rfl ?_
         refine c_ (n_ rfl) rfl ?_
         refine j_ ?_
         refine e_ rfl ?_
         refine ar_ ?_
         exact G_ Tryz.results121 ⟨(.slice none 0 0,[]),by dsimp only;rw[Con.rleft_eq];simp only[*,if_false];exact aG_.nil _ _⟩ rfl f_ zt
       · skip
         replace hr3:=zeb hr3
         refine E_ rfl ?_
         refine bi_ ((b1,.cells #[.int .i64 (Con.kind c),str (Con.name c),.int .i64 (Con.lo c),.int .i64 (Con.hi c),.slice (Con.ad c) (List.length (Con.parts c)) (Con.cap c)] 46 (0,0))::[]) zk ?_
         refine U_ 5 [0,1,2,3,4,5,6,7] zk zs ?_
         refine y_ rfl (q_ rfl) rfl ?_
         refine y_ rfl (A_ z_ rfl rfl rfl O_) rfl ?_
         refine y_ rfl (M_ 0 ap_ rfl rfl rfl) rfl ?_
         refine y_ rfl (A_ z_ rfl rfl rfl ab_) rfl ?_
         refine y_ rfl (M_ 0 ay_ rfl rfl rfl) rfl ?_
         refine y_ rfl (A_ z_ rfl rfl rfl ab_) rfl ?_
         refine y_ rfl (M_ 0 ay_ rfl rfl rfl) rfl ?_
         refine y_ rfl (P_ 0 w_ g_ rfl rfl rfl) rfl ?_
         refine aJ_ ?_
         refine u_ 8 rfl zk ?_
         refine i_ (dP_ c hok hc) rfl f_ zf rfl fun _=>?_
         refine j_ ?_
         refine L_ rfl ?_
         refine X_ zs ?_
         refine U_ 3 [9] zk zs ?_
         refine y_ rfl (S_ bT_ rfl rfl) rfl ?_
         refine aJ_ ?_
         refine u_ 10 rfl zk ?_
         refine I_ x_ Z_ ac_ rfl rfl rfl rfl rfl rfl fun b2=>?_
         refine j_ ?_
         refine L_ rfl ?_
         refine X_ zs ?_
         refine u_ 11 rfl zk ?_
         refine aW_ (news:=Pc.cells (Pc.mk 9 [] [] (Con.atom c) (Con.name c) [] [] (Con.lo c) (Con.hi c) 0)) fW_ (aG_.nil 58 10) rfl rfl f_ rfl (bv_ 0 rfl) (fun u hu=>cY_ (Pc.cells_one _) u hu) (by simp only[maxLen];omega) (by omega) rfl fun sv1 Hr1 hr1=>?_
         refine W_ (@List.perm_append_comm _ _ [_,_]) ?_
         have hq1:aG_ 58 10 sv1 (([]:List Pc)++[(Pc.mk 9 [] [] (Con.atom c) (Con.name c) [] [] (Con.lo c) (Con.hi c) 0)]).length ((([]:List Pc)++[(Pc.mk 9 [] [] (Con.atom c) (Con.name c) [] [] (Con.lo c) (Con.hi c) 0)]).flatMap Pc.cells) Hr1:=by rw[List.length_append,List.flatMap_append];simpa using hr1
         refine j_ ?_
         refine L_ rfl ?_
         refine X_ (fun _ a b=>⟨Vw.sat.sub (a.perm (C_ t_)),b⟩) ?_
         refine U_ 0 [12] zk (fun _ a b=>⟨Vw.sat.sub (a.perm (C_ t_)),b⟩) ?_
         refine y_ rfl (n_ rfl) rfl ?_
         refine aJ_ ?_
         refine bp_ zk ?_
         refine e_ rfl ?_
         refine m_ ?_
         refine d_ ?_
         refine c_ (q_ rfl) rfl ?_
         refine c_ (n_ rfl) rfl ?_
         refine j_ ?_
         refine e_ rfl ?_
         refine ar_ ?_
         exact G_ Tryz.results121 ⟨(sv1,Hr1),by dsimp only;rw[Con.rleft_eq];simp only[*,if_true,if_false];first|exact hq1|(simp[Con.rleft.rlefts,Con.rright.rrighty];simpa using hq1)⟩ rfl zp zt
     · skip
       replace hr2:=zeb hr2
       have hl6:=(Con.fields (Con.check_zero hc).1).le
       have hm6:=(Con.fields (Con.check_zero hc).1).mo
       rw[show c.kind=6 by omega]at hl6 hm6
       simp[nd,cW_]at hl6 hm6
       obtain⟨hlx0,x0,hx0,hmx0⟩:=zge (show 0<List.length (Con.parts c) by omega)
       obtain⟨y0,hy0⟩:=List.length_eq_one_iff.1 (show c.parts.length=1 by omega)
       have hy1:y0=x0:=by rw[hy0]at hx0;simpa using hx0
       subst hy1
       have hzl:=Con.rleft_len _ y0 (Nat.le_refl _)
       have hzr:=Con.rright_len _ y0 (Nat.le_refl _)
       have hz0:=Con.sz_part hmx0
       refine E_ rfl ?_
       refine bi_ ((b1,.cells #[.int .i64 (Con.kind c),str (Con.name c),.int .i64 (Con.lo c),.int .i64 (Con.hi c),.slice (Con.ad c) (List.length (Con.parts c)) (Con.cap c)] 46 (0,0))::[]) zk ?_
       refine U_ 7 [0,1,2,3,5,6,7,8,9,10,12] zk zs ?_
       refine y_ rfl (A_ z_ rfl rfl rfl ba_) rfl ?_
       refine y_ rfl (M_ 0 bk_ rfl rfl rfl) rfl ?_
       refine y_ rfl (T_ B_ g_ rfl rfl (fun v _ h=>J_ (n:=5) Con.cells_len (by decide) (by exact ((Con.mem_iff c v).1 h.1).1) hx0) (by omega) (by first|omega|(simp;done))) rfl ?_
       refine y_ rfl (al_ (ad:=(Con.ad c)) (us:=Con.cells y0) w_ g_ rfl (fun v _ h=>by exact ((Con.mem_iff c v).1 h.1).1) (Con.cells_len _) (H_ Con.cells_len hx0)) rfl ?_
       refine y_ rfl (A_ z_ rfl rfl rfl O_) rfl ?_
       refine y_ rfl (M_ 0 ap_ rfl rfl rfl) rfl ?_
       refine y_ rfl (A_ z_ rfl rfl rfl ba_) rfl ?_
       refine y_ rfl (M_ 0 bk_ rfl rfl rfl) rfl ?_
       refine y_ rfl (T_ B_ g_ rfl rfl (fun v _ h=>J_ (n:=5) Con.cells_len (by decide) (by exact ((Con.mem_iff c v).1 h.1).1) hx0) (by omega) (by first|omega|(simp;done))) rfl ?_
       refine y_ rfl (al_ (ad:=(Con.ad c)) (us:=Con.cells y0) w_ g_ rfl (fun v _ h=>by exact ((Con.mem_iff c v).1 h.1).1) (Con.cells_len _) (H_ Con.cells_len hx0)) rfl ?_
       refine y_ rfl (P_ 0 w_ g_ rfl rfl rfl) rfl ?_
       refine aJ_ ?_
       refine u_ 4 rfl zk ?_
       refine i_ (ih y0 (by have:=Con.sz_part hmx0;omega) (Con.ok_part hok hmx0) (Con.check_part hc hmx0)) rfl f_ (fun v _ h=>by exact⟨(Con.mem_part (c:=c) h.1 hmx0),trivial⟩) rfl fun⟨⟨sl1,HL1⟩,hl1⟩=>?_
       dsimp only
       refine j_ ?_
       refine L_ rfl ?_
       refine X_ zs ?_
       refine u_ 11 rfl zk ?_
       refine i_ (dP_ y0 (Con.ok_part hok hmx0) (Con.check_part hc hmx0)) rfl f_ (fun v _ h=>by exact⟨(Con.mem_part (c:=c) h.1 hmx0),trivial⟩) rfl fun _=>?_
       refine W_ qE_ ?_
       refine j_ ?_
       refine L_ rfl ?_
       refine X_ zs ?_
       refine u_ 13 rfl zk ?_
       refine i_ (dP_ c hok hc) rfl f_ zf rfl fun _=>?_
       refine W_ qE_ ?_
       refine j_ ?_
       refine L_ rfl ?_
       refine X_ zs ?_
       refine U_ 3 [14] zk zs ?_
       refine y_ rfl (S_ bT_ rfl rfl) rfl ?_
       refine aJ_ ?_
       refine u_ 15 rfl zk ?_
       refine I_ x_ Z_ ac_ rfl rfl rfl rfl rfl rfl fun b3=>?_
       refine j_ ?_
       refine L_ rfl ?_
       refine X_ zs ?_
       refine u_ 16 rfl zk ?_
       refine aW_ (news:=Pc.cells (Pc.mk 4 (Con.atom y0) [] (Con.atom c) (Con.name c) [] [] 0 0 0)) fW_ hl1 rfl rfl zp rfl (bv_ 0 rfl) (fun u hu=>cY_ (Pc.cells_one _) u hu) (by simp only[maxLen];omega) (by omega) rfl fun sv2 Hr2 hr2=>?_
       refine W_ (@List.perm_append_comm _ _ [_,_]) ?_
       have hq2:aG_ 58 10 sv2 ((Con.rleft y0)++[(Pc.mk 4 (Con.atom y0) [] (Con.atom c) (Con.name c) [] [] 0 0 0)]).length (((Con.rleft y0)++[(Pc.mk 4 (Con.atom y0) [] (Con.atom c) (Con.name c) [] [] 0 0 0)]).flatMap Pc.cells) Hr2:=by rw[List.length_append,List.flatMap_append];simpa using hr2
       refine j_ ?_
       refine L_ rfl ?_
       refine X_ (fun _ a b=>⟨Vw.sat.sub (a.perm (C_ t_)),b⟩) ?_
       refine U_ 0 [17] zk (fun _ a b=>⟨Vw.sat.sub (a.perm (C_ t_)),b⟩) ?_
       refine y_ rfl (n_ rfl) rfl ?_
       refine aJ_ ?_
       refine bp_ zk ?_
       refine e_ rfl ?_
       refine m_ ?_
       refine d_ ?_
       refine c_ (q_ rfl) rfl ?_
       refine c_ (n_ rfl) rfl ?_
       refine j_ ?_
       refine e_ rfl ?_
       refine ar_ ?_
       exact G_ Tryz.results121 ⟨(sv2,Hr2),by dsimp only;rw[Con.rleft_eq];simp only[*,if_true,if_false];first|exact hq2|(simp[Con.rleft.rlefts,Con.rright.rrighty];simpa using hq2)⟩ rfl zp zt
   · skip
     replace hr1:=zeb hr1
     refine E_ rfl ?_
     refine m_ ?_
     refine m_ ?_
     refine d_ ?_
     refine c_ (n_ rfl) rfl ?_
     refine j_ ?_
     refine e_ rfl ?_
     refine aB_ ?_
     refine aN_ [(1,zp_ b1 0),(3,.slice none 0 0),(4,.int .i64 ((0:Nat):Int))] zl ?_
     refine aT_ (ι:={y:Nat×Value×Hp // y.1≤c.parts.length∧aG_ 58 10 y.2.1 (Con.rleft.rlefts (c.parts.take y.1)).length ((Con.rleft.rlefts (c.parts.take y.1)).flatMap Pc.cells) y.2.2}) (fun y=>[(1,zp_ b1 0),(3,y.1.2.1),(4,.int .i64 (y.1.1:Int))]) (fun y=>_::y.1.2.2) (fun _=>_) (fun y=>c.parts.length - y.1.1) ⟨(0,.slice none 0 0,[]),by simp,aG_.nil _ _⟩ ?_
     rintro ⟨⟨i,sv,Hr⟩,hi,hrow⟩
     dsimp only at hi hrow
     dsimp only
     have hll:=Con.rlefts_len c.parts i
     have hsc:=Con.sz_eq c
     refine aN_ [(1,zp_ b1 0),(3,sv),(4,.int .i64 (i:Int))] zl ?_
     refine m_ ?_
     refine m_ ?_
     refine d_ ?_
     refine c_ (q_ rfl) rfl ?_
     refine c_ (A_ z_ rfl rfl rfl ba_) rfl ?_
     refine c_ (M_ 0 bk_ rfl rfl rfl) rfl ?_
     refine c_ (bM_ B_ rfl) rfl ?_
     refine s_ (bR_ rfl rfl) rfl fun r4 hr4=>?_
     refine j_ ?_
     refine e_ rfl ?_
     cases r4
     · skip
       replace hr4:=zdf hr4
       refine F_ rfl ?_
       refine cp_ rfl ?_
       refine e_ rfl ?_
       refine m_ ?_
       refine d_ ?_
       refine c_ (n_ rfl) rfl ?_
       refine j_ ?_
       refine e_ rfl ?_
       refine aB_ ?_
       have et:c.parts.take i=c.parts:=List.take_of_length_le (by omega)
       rw[et]at hrow hll
       have hal:=Con.andL_len c (c.parts.drop 1) 1
       rw[List.length_drop]at hal
       have hkm:=(Con.fields (Con.check_zero hc).1).le
       have hko:=(Con.fields (Con.check_zero hc).1).mo
       rw[show c.kind=5 by omega]at hkm hko
       simp[nd,cW_]at hkm hko
       refine aN_ [(1,zp_ b1 0),(3,sv),(5,.int .i64 ((0+2:Nat):Int))] zl ?_
       refine aT_ (ι:={y:Nat×Value×Hp // y.1+1≤c.parts.length∧aG_ 58 10 y.2.1 ((Con.rleft.rlefts c.parts)++(Con.andL c (c.parts.drop 1) 1).take y.1).length (((Con.rleft.rlefts c.parts)++(Con.andL c (c.parts.drop 1) 1).take y.1).flatMap Pc.cells) y.2.2}) (fun y=>[(1,zp_ b1 0),(3,y.1.2.1),(5,.int .i64 ((y.1.1+2:Nat):Int))]) (fun y=>_::y.1.2.2) (fun _=>_) (fun y=>c.parts.length - y.1.1) ⟨(0,sv,Hr),by dsimp only;omega,by simpa using hrow⟩ ?_
       rintro ⟨⟨q,sw,Hw⟩,hq0,hrw⟩
       dsimp only at hq0 hrw
       dsimp only
       have hlq:(((Con.rleft.rlefts c.parts)++(Con.andL c (c.parts.drop 1) 1).take q)).length≤2*c.sz+8:=by rw[List.length_append,List.length_take];have hmn:=Nat.min_le_right q (Con.andL c (c.parts.drop 1) 1).length;omega
       refine aN_ [(1,zp_ b1 0),(3,sw),(5,.int .i64 ((q+2:Nat):Int))] zl ?_
       refine m_ ?_
       refine m_ ?_
       refine d_ ?_
       refine c_ (q_ rfl) rfl ?_
       refine c_ (A_ z_ rfl rfl rfl ba_) rfl ?_
       refine c_ (M_ 0 bk_ rfl rfl rfl) rfl ?_
       refine c_ (bM_ B_ rfl) rfl ?_
       refine s_ (du_ rfl rfl) rfl fun r5 hr5=>?_
       refine j_ ?_
       refine e_ rfl ?_
       cases r5
       · skip
         replace hr5:=zdf hr5
         refine F_ rfl ?_
         refine cp_ rfl ?_
         refine e_ rfl ?_
         refine m_ ?_
         refine d_ ?_
         refine c_ (q_ rfl) rfl ?_
         refine c_ (n_ rfl) rfl ?_
         refine j_ ?_
         refine e_ rfl ?_
         refine ar_ ?_
         exact G_ Tryz.results121 ⟨(sw,Hw),by dsimp only;rw[Con.rleft_eq];rw[if_pos (by omega)];have e9:(Con.andL c (c.parts.drop 1) 1).take q=(Con.andL c (c.parts.drop 1) 1):=List.take_of_length_le (by omega);rw[e9]at hrw;exact hrw⟩ rfl (C_ bh_) zt
       · skip
         replace hr5:=zdt hr5
         obtain⟨hlx1,x1,hx1,hmx1⟩:=zge (show (q+1:Nat)<List.length (Con.parts c) by omega)
         refine E_ rfl ?_
         refine ai_ ?_
         refine e_ rfl ?_
         refine m_ ?_
         refine aB_ ?_
         refine bi_ ((b1,.cells #[.int .i64 (Con.kind c),str (Con.name c),.int .i64 (Con.lo c),.int .i64 (Con.hi c),.slice (Con.ad c) (List.length (Con.parts c)) (Con.cap c)] 46 (0,0))::[]) zk ?_
         refine U_ 7 [0,1,2,3,5,6,7,8,9,10,12,13] zk zs ?_
         refine y_ rfl (q_ rfl) rfl ?_
         refine y_ rfl (P_ 0 w_ g_ rfl rfl rfl) rfl ?_
         refine y_ rfl (q_ rfl) rfl ?_
         refine y_ rfl (br_ (aA_ rfl rfl rfl (be_ (by omega) (by omega))) (show _=Value.int .i64 ((q+1:Nat):Int) by congr 1;omega)) rfl ?_
         refine y_ rfl (A_ z_ rfl rfl rfl ba_) rfl ?_
         refine y_ rfl (M_ 0 bk_ rfl rfl rfl) rfl ?_
         refine y_ rfl (q_ rfl) rfl ?_
         refine y_ rfl (br_ (aA_ rfl rfl rfl (be_ (by omega) (by omega))) (show _=Value.int .i64 ((q+1:Nat):Int) by congr 1;omega)) rfl ?_
         refine y_ rfl (T_ B_ g_ rfl rfl (fun v _ h=>J_ (n:=5) Con.cells_len (by decide) (by exact ((Con.mem_iff c v).1 h.1).1) hx1) (by omega) (by first|omega|(simp;done))) rfl ?_
         refine y_ rfl (al_ (ad:=(Con.ad c)) (us:=Con.cells x1) w_ g_ rfl (fun v _ h=>by exact ((Con.mem_iff c v).1 h.1).1) (Con.cells_len _) (H_ Con.cells_len hx1)) rfl ?_
         refine y_ rfl (P_ 0 w_ g_ rfl rfl rfl) rfl ?_
         refine y_ rfl (q_ rfl) rfl ?_
         refine aJ_ ?_
         refine u_ 4 rfl zk ?_
         refine i_ (mw_ c hok hc (by omega) (q+1) ⟨by omega,by omega⟩) rfl f_ zf rfl fun _=>?_
         refine j_ ?_
         refine L_ rfl ?_
         refine X_ zs ?_
         refine u_ 11 rfl zk ?_
         refine i_ (dP_ x1 (Con.ok_part hok hmx1) (Con.check_part hc hmx1)) rfl f_ (fun v _ h=>by exact⟨(Con.mem_part (c:=c) h.1 hmx1),trivial⟩) rfl fun _=>?_
         refine j_ ?_
         refine L_ rfl ?_
         refine X_ zs ?_
         refine u_ 14 rfl zk ?_
         refine i_ (mw_ c hok hc (by omega) (q+2) ⟨by omega,by omega⟩) rfl f_ zf rfl fun _=>?_
         refine j_ ?_
         refine L_ rfl ?_
         refine X_ zs ?_
         refine U_ 3 [15] zk zs ?_
         refine y_ rfl (S_ bT_ rfl rfl) rfl ?_
         refine aJ_ ?_
         refine u_ 16 rfl zk ?_
         refine I_ x_ Z_ ac_ rfl rfl rfl rfl rfl rfl fun b4=>?_
         refine j_ ?_
         refine L_ rfl ?_
         refine X_ (fun _ a b=>⟨Vw.sat.sub (a.perm (C_ t_)),b⟩) ?_
         refine u_ 17 rfl zk ?_
         refine aW_ (news:=Pc.cells (Pc.mk 2 (Con.firstS c (q+1)) (Con.atom x1) (Con.firstS c (q+2)) [] [] [] 0 0 0)) fW_ hrw rfl rfl zp rfl (bv_ 0 rfl) (fun u hu=>cY_ (Pc.cells_one _) u hu) (by simp only[maxLen];omega) (by omega) rfl fun sv3 Hr3 hr3=>?_
         refine W_ (@List.perm_append_comm _ _ [_,_]) ?_
         have hq3:aG_ 58 10 sv3 (((Con.rleft.rlefts c.parts)++(Con.andL c (c.parts.drop 1) 1).take q)++[(Pc.mk 2 (Con.firstS c (q+1)) (Con.atom x1) (Con.firstS c (q+2)) [] [] [] 0 0 0)]).length ((((Con.rleft.rlefts c.parts)++(Con.andL c (c.parts.drop 1) 1).take q)++[(Pc.mk 2 (Con.firstS c (q+1)) (Con.atom x1) (Con.firstS c (q+2)) [] [] [] 0 0 0)]).flatMap Pc.cells) Hr3:=by rw[List.length_append,List.flatMap_append];simpa using hr3
         refine j_ ?_
         refine L_ rfl ?_
         refine X_ (fun _ a b=>⟨Vw.sat.sub (a.perm (C_ t_)),b⟩) ?_
         refine U_ 0 [18] zk (fun _ a b=>⟨Vw.sat.sub (a.perm (C_ t_)),b⟩) ?_
         refine y_ rfl (n_ rfl) rfl ?_
         refine aJ_ ?_
         refine bp_ zk ?_
         refine e_ rfl ?_
         refine d_ ?_
         refine c_ (q_ rfl) rfl ?_
         refine c_ (aA_ rfl rfl rfl (be_ (by omega) (by omega))) rfl ?_
         refine c_ (n_ rfl) rfl ?_
         refine j_ ?_
         refine L_ rfl ?_
         have hst:=Con.andL_step c (q:=q) hx1
         exact R_ ⟨(q+1,sv3,Hr3),by dsimp only;omega,by dsimp only;rw[hst,← List.append_assoc];exact hq3⟩ (by dsimp only;omega) zl (aF_ (C_ t_) (C_ bh_)) zh
     · skip
       replace hr4:=zdt hr4
       obtain⟨hlx1,x1,hx1,hmx1⟩:=zge (show i<List.length (Con.parts c) by omega)
       have hzl:=Con.rleft_len _ x1 (Nat.le_refl _)
       have hz1:=Con.sz_part hmx1
       refine E_ rfl ?_
       refine ai_ ?_
       refine e_ rfl ?_
       refine m_ ?_
       refine aB_ ?_
       refine d_ ?_
       refine c_ (q_ rfl) rfl ?_
       refine c_ (A_ z_ rfl rfl rfl ba_) rfl ?_
       refine c_ (M_ 0 bk_ rfl rfl rfl) rfl ?_
       refine c_ (q_ rfl) rfl ?_
       refine c_ (T_ B_ g_ rfl rfl (fun v _ h=>J_ (n:=5) Con.cells_len (by decide) (by exact ((Con.mem_iff c v).1 h.1).1) hx1) (by omega) (by first|omega|(simp;done))) rfl ?_
       refine c_ (al_ (ad:=(Con.ad c)) (us:=Con.cells x1) w_ g_ rfl (fun v _ h=>by exact ((Con.mem_iff c v).1 h.1).1) (Con.cells_len _) (H_ Con.cells_len hx1)) rfl ?_
       refine i_ (ih x1 (by have:=Con.sz_part hmx1;omega) (Con.ok_part hok hmx1) (Con.check_part hc hmx1)) rfl f_ (fun v _ h=>by exact⟨(Con.mem_part (c:=c) h.1 hmx1),trivial⟩) rfl fun⟨⟨sl2,HL2⟩,hl2⟩=>?_
       dsimp only
       refine aQ_ hl2 aY_ fun al2 cl2 hsl2 hca2 hcb2 hcc2=>?_
       subst hsl2
       refine dh_ (news:=List.flatMap Pc.cells (Con.rleft x1)) fW_ hrow rfl rfl hcc2 hca2 zp (by rw[dR_ Pc.cells 10 Pc.cells_len]) zf (fun u hu=>iX_ hu) (by simp only[maxLen];omega) (by omega) rfl fun sv4 Hr4 hr4=>?_
       refine W_ (@List.perm_append_comm _ _ [_]) ?_
       have hq4:aG_ 58 10 sv4 ((Con.rleft.rlefts (c.parts.take i))++(Con.rleft x1)).length (((Con.rleft.rlefts (c.parts.take i))++(Con.rleft x1)).flatMap Pc.cells) Hr4:=by rw[List.length_append,List.flatMap_append];simpa using hr4
       refine c_ (n_ rfl) rfl ?_
       refine j_ ?_
       refine e_ rfl ?_
       refine d_ ?_
       refine c_ (q_ rfl) rfl ?_
       refine c_ (aA_ rfl rfl rfl (be_ (by omega) (by omega))) rfl ?_
       refine c_ (n_ rfl) rfl ?_
       refine j_ ?_
       refine L_ rfl ?_
       exact R_ ⟨(i+1,sv4,Hr4),hlx1,by dsimp only;rw[Con.rlefts_step hx1];exact hq4⟩ (by dsimp only;omega) zl zp (fun _ _ h=>h.2)
theorem Con.rrights_len (a:Str) (ps:List Con) (i:Nat):(Con.rright.rrights a (ps.take i)).length≤2*Con.sz.szs ps:=by
  have key:∀ ps:List Con,(Con.rright.rrights a ps).length≤2*Con.sz.szs ps:=by
    intro ps
    induction ps with
    | nil=>simp[Con.rright.rrights]
    | cons p ps ih =>
      have:=Con.rright_len _ p (Nat.le_refl _)
      simp only[Con.rright.rrights,Con.sz.szs,List.length_append,List.length_cons]
      omega
  have h1:=key (ps.take i)
  have h2:=Con.szs_take_le ps i
  omega
theorem fN_:∀ (m:Nat) (c:Con),c.sz≤m→c.ok→c.check=0→Tri Tryz.prog 120 #[Con.val c] [] [Con.memF c] (fun y:{y:Value×Hp // aG_ 58 10 y.1 c.rright.length (c.rright.flatMap Pc.cells) y.2}=>y.1.1) (fun y=>y.1.2) (fun _=>[]):=by
 intro m
 induction m with
 | zero=>intro c h;have:=c.sz_pos;omega
 | succ m ih =>
   intro c hm hok hc
   have hpl:=Con.ok_len hok
   have hz:=(Con.check_zero hc).2
   refine o_ Tryz.func120 rfl rfl Tryz.ntmps120 rfl fun v0=>?_
   refine m_ ?_
   refine d_ ?_
   refine ah_ rfl rfl fun b1=>?_
   refine c_ (n_ rfl) rfl ?_
   refine j_ ?_
   refine e_ rfl ?_
   refine m_ ?_
   refine d_ ?_
   refine c_ (n_ rfl) rfl ?_
   refine j_ ?_
   refine e_ rfl ?_
   refine m_ ?_
   refine m_ ?_
   refine d_ ?_
   refine c_ (A_ z_ rfl rfl rfl ab_) rfl ?_
   refine c_ (M_ 0 ay_ rfl rfl rfl) rfl ?_
   refine j_ ?_
   refine e_ rfl ?_
   refine aB_ ?_
   refine m_ ?_
   refine d_ ?_
   refine s_ (V_ rfl rfl) rfl fun r1 hr1=>?_
   refine c_ (n_ rfl) rfl ?_
   refine j_ ?_
   refine e_ rfl ?_
   cases r1
   · skip
     replace hr1:=znb hr1
     refine F_ rfl ?_
     refine m_ ?_
     refine d_ ?_
     refine s_ (V_ rfl rfl) rfl fun r2 hr2=>?_
     refine c_ (n_ rfl) rfl ?_
     refine j_ ?_
     refine e_ rfl ?_
     cases r2
     · skip
       replace hr2:=znb hr2
       refine F_ rfl ?_
       refine m_ ?_
       refine d_ ?_
       refine s_ (V_ rfl rfl) rfl fun r3 hr3=>?_
       refine c_ (n_ rfl) rfl ?_
       refine j_ ?_
       refine e_ rfl ?_
       cases r3
       · skip
         replace hr3:=znb hr3
         refine F_ rfl ?_
         refine ai_ ?_
         refine e_ rfl ?_
         refine m_ ?_
         refine d_ ?_
         refine c_ (q_ rfl) rfl ?_
         refine c_ (n_ rfl) rfl ?_
         refine j_ ?_
         refine e_ rfl ?_
         refine ar_ ?_
         exact G_ Tryz.results120 ⟨(.slice none 0 0,[]),by dsimp only;rw[Con.rright_eq];simp only[*,if_false];exact aG_.nil _ _⟩ rfl f_ zt
       · skip
         replace hr3:=zeb hr3
         refine E_ rfl ?_
         refine bi_ ((b1,.cells #[.int .i64 (Con.kind c),str (Con.name c),.int .i64 (Con.lo c),.int .i64 (Con.hi c),.slice (Con.ad c) (List.length (Con.parts c)) (Con.cap c)] 46 (0,0))::[]) zk ?_
         refine U_ 5 [0,1,3,4,5,6,7,8] zk zs ?_
         refine y_ rfl (q_ rfl) rfl ?_
         refine y_ rfl (P_ 0 w_ g_ rfl rfl rfl) rfl ?_
         refine y_ rfl (A_ z_ rfl rfl rfl O_) rfl ?_
         refine y_ rfl (M_ 0 ap_ rfl rfl rfl) rfl ?_
         refine y_ rfl (A_ z_ rfl rfl rfl ab_) rfl ?_
         refine y_ rfl (M_ 0 ay_ rfl rfl rfl) rfl ?_
         refine y_ rfl (A_ z_ rfl rfl rfl ab_) rfl ?_
         refine y_ rfl (M_ 0 ay_ rfl rfl rfl) rfl ?_
         refine aJ_ ?_
         refine u_ 2 rfl zk ?_
         refine i_ (dP_ c hok hc) rfl f_ zf rfl fun _=>?_
         refine j_ ?_
         refine L_ rfl ?_
         refine X_ zs ?_
         refine U_ 3 [9] zk zs ?_
         refine y_ rfl (S_ bT_ rfl rfl) rfl ?_
         refine aJ_ ?_
         refine u_ 10 rfl zk ?_
         refine I_ x_ Z_ ac_ rfl rfl rfl rfl rfl rfl fun b2=>?_
         refine j_ ?_
         refine L_ rfl ?_
         refine X_ zs ?_
         refine u_ 11 rfl zk ?_
         refine aW_ (news:=Pc.cells (Pc.mk 8 (Con.atom c) [] [] (Con.name c) [] [] (Con.lo c) (Con.hi c) 0)) fW_ (aG_.nil 58 10) rfl rfl f_ rfl (bv_ 0 rfl) (fun u hu=>cY_ (Pc.cells_one _) u hu) (by simp only[maxLen];first|omega|(simp only[List.length_append,List.length_cons,List.length_nil];omega)) (by first|omega|(simp only[List.length_append,List.length_cons,List.length_nil];omega)) rfl fun sv1 Hr1 hr1=>?_
         refine W_ (@List.perm_append_comm _ _ [_,_]) ?_
         have hq1:aG_ 58 10 sv1 (([]:List Pc)++[(Pc.mk 8 (Con.atom c) [] [] (Con.name c) [] [] (Con.lo c) (Con.hi c) 0)]).length ((([]:List Pc)++[(Pc.mk 8 (Con.atom c) [] [] (Con.name c) [] [] (Con.lo c) (Con.hi c) 0)]).flatMap Pc.cells) Hr1:=by rw[List.length_append,List.flatMap_append];simpa using hr1
         refine j_ ?_
         refine L_ rfl ?_
         refine X_ (fun _ a b=>⟨Vw.sat.sub (a.perm (C_ t_)),b⟩) ?_
         refine U_ 0 [12] zk (fun _ a b=>⟨Vw.sat.sub (a.perm (C_ t_)),b⟩) ?_
         refine y_ rfl (n_ rfl) rfl ?_
         refine aJ_ ?_
         refine bp_ zk ?_
         refine e_ rfl ?_
         refine m_ ?_
         refine d_ ?_
         refine c_ (q_ rfl) rfl ?_
         refine c_ (n_ rfl) rfl ?_
         refine j_ ?_
         refine e_ rfl ?_
         refine ar_ ?_
         exact G_ Tryz.results120 ⟨(sv1,Hr1),by dsimp only;rw[Con.rright_eq];simp only[*,if_true,if_false];first|exact hq1|(simp[Con.rright.rrighty];simpa using hq1)⟩ rfl zp zt
     · skip
       replace hr2:=zeb hr2
       have hl6:=(Con.fields (Con.check_zero hc).1).le
       have hm6:=(Con.fields (Con.check_zero hc).1).mo
       rw[show c.kind=6 by omega]at hl6 hm6
       simp[nd,cW_]at hl6 hm6
       obtain⟨hlx0,x0,hx0,hmx0⟩:=zge (show 0<List.length (Con.parts c) by omega)
       obtain⟨y0,hy0⟩:=List.length_eq_one_iff.1 (show c.parts.length=1 by omega)
       have hy1:y0=x0:=by rw[hy0]at hx0;simpa using hx0
       subst hy1
       have hzl:=Con.rleft_len _ y0 (Nat.le_refl _)
       have hzr:=Con.rright_len _ y0 (Nat.le_refl _)
       have hz0:=Con.sz_part hmx0
       refine E_ rfl ?_
       refine m_ ?_
       refine bi_ ((b1,.cells #[.int .i64 (Con.kind c),str (Con.name c),.int .i64 (Con.lo c),.int .i64 (Con.hi c),.slice (Con.ad c) (List.length (Con.parts c)) (Con.cap c)] 46 (0,0))::[]) zk ?_
       refine U_ 6 [0,1,3,4,5,6,7,8] zk zs ?_
       refine y_ rfl (q_ rfl) rfl ?_
       refine y_ rfl (P_ 0 w_ g_ rfl rfl rfl) rfl ?_
       refine y_ rfl (A_ z_ rfl rfl rfl O_) rfl ?_
       refine y_ rfl (M_ 0 ap_ rfl rfl rfl) rfl ?_
       refine y_ rfl (A_ z_ rfl rfl rfl ba_) rfl ?_
       refine y_ rfl (M_ 0 bk_ rfl rfl rfl) rfl ?_
       refine y_ rfl (T_ B_ g_ rfl rfl (fun v _ h=>J_ (n:=5) Con.cells_len (by decide) (by exact ((Con.mem_iff c v).1 h.1).1) hx0) (by omega) (by first|omega|(simp;done))) rfl ?_
       refine y_ rfl (al_ (ad:=(Con.ad c)) (us:=Con.cells y0) w_ g_ rfl (fun v _ h=>by exact ((Con.mem_iff c v).1 h.1).1) (Con.cells_len _) (H_ Con.cells_len hx0)) rfl ?_
       refine aJ_ ?_
       refine u_ 2 rfl zk ?_
       refine i_ (dP_ c hok hc) rfl f_ zf rfl fun _=>?_
       refine j_ ?_
       refine L_ rfl ?_
       refine X_ zs ?_
       refine u_ 9 rfl zk ?_
       refine i_ (dP_ y0 (Con.ok_part hok hmx0) (Con.check_part hc hmx0)) rfl f_ (fun v _ h=>by exact⟨(Con.mem_part (c:=c) h.1 hmx0),trivial⟩) rfl fun _=>?_
       refine j_ ?_
       refine L_ rfl ?_
       refine X_ zs ?_
       refine U_ 3 [10] zk zs ?_
       refine y_ rfl (S_ bT_ rfl rfl) rfl ?_
       refine aJ_ ?_
       refine u_ 11 rfl zk ?_
       refine I_ x_ Z_ ac_ rfl rfl rfl rfl rfl rfl fun b3=>?_
       refine j_ ?_
       refine L_ rfl ?_
       refine X_ zs ?_
       refine u_ 12 rfl zk ?_
       refine aW_ (news:=Pc.cells (Pc.mk 3 (Con.atom c) [] (Con.atom y0) (Con.name c) [] [] 0 0 0)) fW_ (aG_.nil 58 10) rfl rfl f_ rfl (bv_ 0 rfl) (fun u hu=>cY_ (Pc.cells_one _) u hu) (by simp only[maxLen];first|omega|(simp only[List.length_append,List.length_cons,List.length_nil];omega)) (by first|omega|(simp only[List.length_append,List.length_cons,List.length_nil];omega)) rfl fun sv2 Hr2 hr2=>?_
       refine W_ (@List.perm_append_comm _ _ [_,_]) ?_
       have hq2:aG_ 58 10 sv2 (([]:List Pc)++[(Pc.mk 3 (Con.atom c) [] (Con.atom y0) (Con.name c) [] [] 0 0 0)]).length ((([]:List Pc)++[(Pc.mk 3 (Con.atom c) [] (Con.atom y0) (Con.name c) [] [] 0 0 0)]).flatMap Pc.cells) Hr2:=by rw[List.length_append,List.flatMap_append];simpa using hr2
       refine j_ ?_
       refine L_ rfl ?_
       refine X_ (fun _ a b=>⟨Vw.sat.sub (a.perm (C_ t_)),b⟩) ?_
       refine U_ 0 [13] zk (fun _ a b=>⟨Vw.sat.sub (a.perm (C_ t_)),b⟩) ?_
       refine y_ rfl (n_ rfl) rfl ?_
       refine aJ_ ?_
       refine bp_ zk ?_
       refine e_ rfl ?_
       refine d_ ?_
       refine c_ (q_ rfl) rfl ?_
       refine c_ (A_ z_ rfl rfl rfl ba_) rfl ?_
       refine c_ (M_ 1 bk_ rfl rfl rfl) rfl ?_
       refine c_ (T_ B_ g_ rfl rfl (fun v _ h=>J_ (n:=5) Con.cells_len (by decide) (by exact ((Con.mem_iff c v).1 h.1).1) hx0) (by omega) (by first|omega|(simp;done))) rfl ?_
       refine c_ (al_ (ad:=(Con.ad c)) (us:=Con.cells y0) w_ g_ rfl (fun v _ h=>by exact ((Con.mem_iff c v).1 h.1).1) (Con.cells_len _) (H_ Con.cells_len hx0)) rfl ?_
       refine i_ (ih y0 (by have:=Con.sz_part hmx0;omega) (Con.ok_part hok hmx0) (Con.check_part hc hmx0)) rfl f_ (fun v _ h=>by exact⟨(Con.mem_part (c:=c) h.1 hmx0),trivial⟩) rfl fun⟨⟨sl1,HL1⟩,hl1⟩=>?_
       dsimp only
       refine aQ_ hl1 aY_ fun al1 cl1 hsl1 hca1 hcb1 hcc1=>?_
       subst hsl1
       refine dh_ (news:=List.flatMap Pc.cells (Con.rright y0)) fW_ hq2 rfl rfl hcc1 hca1 zp (by rw[dR_ Pc.cells 10 Pc.cells_len]) zf (fun u hu=>iX_ hu) (by simp only[maxLen];first|omega|(simp only[List.length_append,List.length_cons,List.length_nil];omega)) (by first|omega|(simp only[List.length_append,List.length_cons,List.length_nil];omega)) rfl fun sv3 Hr3 hr3=>?_
       refine W_ (@List.perm_append_comm _ _ [_,_]) ?_
       have hq3:aG_ 58 10 sv3 ((([]:List Pc)++[(Pc.mk 3 (Con.atom c) [] (Con.atom y0) (Con.name c) [] [] 0 0 0)])++(Con.rright y0)).length (((([]:List Pc)++[(Pc.mk 3 (Con.atom c) [] (Con.atom y0) (Con.name c) [] [] 0 0 0)])++(Con.rright y0)).flatMap Pc.cells) Hr3:=by rw[List.length_append,List.flatMap_append];simpa using hr3
       refine c_ (n_ rfl) rfl ?_
       refine j_ ?_
       refine e_ rfl ?_
       refine m_ ?_
       refine d_ ?_
       refine c_ (q_ rfl) rfl ?_
       refine c_ (n_ rfl) rfl ?_
       refine j_ ?_
       refine e_ rfl ?_
       refine ar_ ?_
       exact G_ Tryz.results120 ⟨(sv3,Hr3),by dsimp only;rw[Con.rright_eq];simp only[*,if_true,if_false];first|exact hq3|(simp[Con.rright.rrighty];simpa using hq3)⟩ rfl zp zt
   · skip
     replace hr1:=zeb hr1
     refine E_ rfl ?_
     refine m_ ?_
     refine d_ ?_
     refine c_ (n_ rfl) rfl ?_
     refine j_ ?_
     refine e_ rfl ?_
     refine aB_ ?_
     refine aN_ [(1,zp_ b1 0),(3,.slice none 0 0),(4,.int .i64 ((0:Nat):Int))] zl ?_
     refine aT_ (ι:={y:Nat×Value×Hp // y.1≤c.parts.length∧aG_ 58 10 y.2.1 (Con.rright.rrights (Con.atom c) (c.parts.take y.1)).length ((Con.rright.rrights (Con.atom c) (c.parts.take y.1)).flatMap Pc.cells) y.2.2}) (fun y=>[(1,zp_ b1 0),(3,y.1.2.1),(4,.int .i64 (y.1.1:Int))]) (fun y=>_::y.1.2.2) (fun _=>_) (fun y=>c.parts.length - y.1.1) ⟨(0,.slice none 0 0,[]),by simp,aG_.nil _ _⟩ ?_
     rintro ⟨⟨i,sv,Hr⟩,hi,hrow⟩
     dsimp only at hi hrow
     dsimp only
     have hll:=Con.rrights_len (Con.atom c) c.parts i
     have hsc:=Con.sz_eq c
     refine aN_ [(1,zp_ b1 0),(3,sv),(4,.int .i64 (i:Int))] zl ?_
     refine m_ ?_
     refine m_ ?_
     refine d_ ?_
     refine c_ (q_ rfl) rfl ?_
     refine c_ (A_ z_ rfl rfl rfl ba_) rfl ?_
     refine c_ (M_ 0 bk_ rfl rfl rfl) rfl ?_
     refine c_ (bM_ B_ rfl) rfl ?_
     refine s_ (bR_ rfl rfl) rfl fun r4 hr4=>?_
     refine j_ ?_
     refine e_ rfl ?_
     cases r4
     · skip
       replace hr4:=zdf hr4
       refine F_ rfl ?_
       refine cp_ rfl ?_
       refine e_ rfl ?_
       refine m_ ?_
       refine d_ ?_
       refine c_ (q_ rfl) rfl ?_
       refine c_ (n_ rfl) rfl ?_
       refine j_ ?_
       refine e_ rfl ?_
       refine ar_ ?_
       exact G_ Tryz.results120 ⟨(sv,Hr),by dsimp only;rw[Con.rright_eq];rw[if_pos (by omega)];have e9:c.parts.take i=c.parts:=List.take_of_length_le (by omega);rw[e9]at hrow;exact hrow⟩ rfl (C_ bh_) zt
     · skip
       replace hr4:=zdt hr4
       obtain⟨hlx1,x1,hx1,hmx1⟩:=zge (show i<List.length (Con.parts c) by omega)
       have hzl:=Con.rright_len _ x1 (Nat.le_refl _)
       have hz1:=Con.sz_part hmx1
       refine E_ rfl ?_
       refine ai_ ?_
       refine e_ rfl ?_
       refine m_ ?_
       refine aB_ ?_
       refine m_ ?_
       refine bi_ ((b1,.cells #[.int .i64 (Con.kind c),str (Con.name c),.int .i64 (Con.lo c),.int .i64 (Con.hi c),.slice (Con.ad c) (List.length (Con.parts c)) (Con.cap c)] 46 (0,0))::[]) zk ?_
       refine U_ 6 [0,1,3,4,5,6,7] zk zs ?_
       refine y_ rfl (q_ rfl) rfl ?_
       refine y_ rfl (P_ 0 w_ g_ rfl rfl rfl) rfl ?_
       refine y_ rfl (A_ z_ rfl rfl rfl ba_) rfl ?_
       refine y_ rfl (M_ 0 bk_ rfl rfl rfl) rfl ?_
       refine y_ rfl (q_ rfl) rfl ?_
       refine y_ rfl (T_ B_ g_ rfl rfl (fun v _ h=>J_ (n:=5) Con.cells_len (by decide) (by exact ((Con.mem_iff c v).1 h.1).1) hx1) (by omega) (by first|omega|(simp;done))) rfl ?_
       refine y_ rfl (al_ (ad:=(Con.ad c)) (us:=Con.cells x1) w_ g_ rfl (fun v _ h=>by exact ((Con.mem_iff c v).1 h.1).1) (Con.cells_len _) (H_ Con.cells_len hx1)) rfl ?_
       refine aJ_ ?_
       refine u_ 2 rfl zk ?_
       refine i_ (dP_ c hok hc) rfl f_ zf rfl fun _=>?_
       refine j_ ?_
       refine L_ rfl ?_
       refine X_ zs ?_
       refine u_ 8 rfl zk ?_
       refine i_ (dP_ x1 (Con.ok_part hok hmx1) (Con.check_part hc hmx1)) rfl f_ (fun v _ h=>by exact⟨(Con.mem_part (c:=c) h.1 hmx1),trivial⟩) rfl fun _=>?_
       refine j_ ?_
       refine L_ rfl ?_
       refine X_ zs ?_
       refine U_ 3 [9] zk zs ?_
       refine y_ rfl (S_ bT_ rfl rfl) rfl ?_
       refine aJ_ ?_
       refine u_ 10 rfl zk ?_
       refine I_ x_ Z_ ac_ rfl rfl rfl rfl rfl rfl fun b4=>?_
       refine j_ ?_
       refine L_ rfl ?_
       refine X_ (fun _ a b=>⟨Vw.sat.sub (a.perm (C_ t_)),b⟩) ?_
       refine u_ 11 rfl zk ?_
       refine aW_ (news:=Pc.cells (Pc.mk 1 (Con.atom c) [] (Con.atom x1) [] [] [] 0 0 0)) fW_ hrow rfl rfl zp rfl (bv_ 0 rfl) (fun u hu=>cY_ (Pc.cells_one _) u hu) (by simp only[maxLen];first|omega|(simp only[List.length_append,List.length_cons,List.length_nil];omega)) (by first|omega|(simp only[List.length_append,List.length_cons,List.length_nil];omega)) rfl fun sv4 Hr4 hr4=>?_
       refine W_ (@List.perm_append_comm _ _ [_,_]) ?_
       have hq4:aG_ 58 10 sv4 ((Con.rright.rrights (Con.atom c) (c.parts.take i))++[(Pc.mk 1 (Con.atom c) [] (Con.atom x1) [] [] [] 0 0 0)]).length (((Con.rright.rrights (Con.atom c) (c.parts.take i))++[(Pc.mk 1 (Con.atom c) [] (Con.atom x1) [] [] [] 0 0 0)]).flatMap Pc.cells) Hr4:=by rw[List.length_append,List.flatMap_append];simpa using hr4
       refine j_ ?_
       refine L_ rfl ?_
       refine X_ (fun _ a b=>⟨Vw.sat.sub (a.perm (C_ t_)),b⟩) ?_
       refine U_ 0 [12] zk (fun _ a b=>⟨Vw.sat.sub (a.perm (C_ t_)),b⟩) ?_
       refine y_ rfl (n_ rfl) rfl ?_
       refine aJ_ ?_
       refine bp_ zk ?_
       refine e_ rfl ?_
       refine d_ ?_
       refine c_ (q_ rfl) rfl ?_
       refine c_ (A_ z_ rfl rfl rfl ba_) rfl ?_
       refine c_ (M_ 1 bk_ rfl rfl rfl) rfl ?_
       refine c_ (q_ rfl) rfl ?_
       refine c_ (T_ B_ g_ rfl rfl (fun v _ h=>J_ (n:=5) Con.cells_len (by decide) (by exact ((Con.mem_iff c v).1 h.1).1) hx1) (by omega) (by first|omega|(simp;done))) rfl ?_
       refine c_ (al_ (ad:=(Con.ad c)) (us:=Con.cells x1) w_ g_ rfl (fun v _ h=>by exact ((Con.mem_iff c v).1 h.1).1) (Con.cells_len _) (H_ Con.cells_len hx1)) rfl ?_
       refine i_ (ih x1 (by have:=Con.sz_part hmx1;omega) (Con.ok_part hok hmx1) (Con.check_part hc hmx1)) rfl f_ (fun v _ h=>by exact⟨(Con.mem_part (c:=c) h.1 hmx1),trivial⟩) rfl fun⟨⟨sl2,HL2⟩,hl2⟩=>?_
       dsimp only
       refine aQ_ hl2 aY_ fun al2 cl2 hsl2 hca2 hcb2 hcc2=>?_
       subst hsl2
       refine dh_ (news:=List.flatMap Pc.cells (Con.rright x1)) fW_ hq4 rfl rfl hcc2 hca2 zp (by rw[dR_ Pc.cells 10 Pc.cells_len]) zf (fun u hu=>iX_ hu) (by simp only[maxLen];first|omega|(simp only[List.length_append,List.length_cons,List.length_nil];omega)) (by first|omega|(simp only[List.length_append,List.length_cons,List.length_nil];omega)) rfl fun sv5 Hr5 hr5=>?_
       refine W_ (@List.perm_append_comm _ _ [_,_]) ?_
       have hq5:aG_ 58 10 sv5 (((Con.rright.rrights (Con.atom c) (c.parts.take i))++[(Pc.mk 1 (Con.atom c) [] (Con.atom x1) [] [] [] 0 0 0)])++(Con.rright x1)).length ((((Con.rright.rrights (Con.atom c) (c.parts.take i))++[(Pc.mk 1 (Con.atom c) [] (Con.atom x1) [] [] [] 0 0 0)])++(Con.rright x1)).flatMap Pc.cells) Hr5:=by rw[List.length_append,List.flatMap_append];simpa using hr5
       refine c_ (n_ rfl) rfl ?_
       refine j_ ?_
       refine e_ rfl ?_
       refine d_ ?_
       refine c_ (q_ rfl) rfl ?_
       refine c_ (aA_ rfl rfl rfl (be_ (by omega) (by omega))) rfl ?_
       refine c_ (n_ rfl) rfl ?_
       refine j_ ?_
       refine L_ rfl ?_
       exact R_ ⟨(i+1,sv5,Hr5),hlx1,by dsimp only;rw[Con.rrights_step _ hx1];exact hq5⟩ (by dsimp only;omega) zl (aF_ (C_ t_) (C_ bh_)) (fun _ _ h=>h.2)
theorem lm_ (a c:Str):Tri Tryz.prog 123 #[str a,str c] [] [] (fun b:Nat=>.slice (some ⟨b,0,none⟩) 1 1) (fun _=>[]) (fun b=>[aw_ (some ⟨b,0,none⟩) (List.flatMap Pc.cells [(Pc.mk 1 a [] c [] [] [] 0 0 0)])]):=by
  refine o_ Tryz.func123 rfl rfl Tryz.ntmps123 rfl fun v0=>?_
  refine Zz 9 ?_
  refine c_ (S_ bT_ rfl rfl) rfl (I_ x_ Z_ ac_ rfl rfl rfl rfl rfl rfl fun b1=>?_)
  refine ak_ (List.flatMap Pc.cells [(Pc.mk 1 a [] c [] [] [] 0 0 0)]) t_ rfl ?_
  refine Zz 4 ?_
  exact G_ Tryz.results123 b1 rfl f_ zf
theorem hx_ (a:Str) (ha:a.length≤140737488351232):Fn0 Tryz.prog 124 #[str a] (str ([123]++a++[125])):=by
  refine o_ Tryz.func124 rfl rfl Tryz.ntmps124 rfl fun v0=>?_
  refine Zz 8 ?_
  refine c_ (bg_ rfl rfl (by first|omega|(simp only[List.length_append,List.length_cons,List.length_nil];omega))) rfl ?_
  refine c_ (bg_ rfl rfl (by first|omega|(simp only[List.length_append,List.length_cons,List.length_nil];omega))) rfl ?_
  refine Zz 4 ?_
  exact G_ Tryz.results124 () rfl f_ zt
end Go.Proofs.YtamklbgaipakfaaGreatDoor
namespace Go.Proofs.YtamklbgaipakfaaGreatDoor
open Go Go.Sx Go.Proofs
attribute [local irreducible] Code.wp wpList wpAnyH
open Go.Vs
theorem qz_ (x:Ax) (hok:x.ok) (hc:x.check=0) (hk:x.kind=6):Tri Tryz.prog 164 #[Ax.val x] [] [Ax.memF x] (fun y:{y:Option Addr×Nat // (Ax.chainL (Ax.role x) (List.drop 1 (Ax.roles x)) ((Ax.roles x).headD [])).length≤y.2∧y.2≤maxLen∧(y.1=none→y.2=0)}=>.slice y.1.1 (Ax.chainL (Ax.role x) (List.drop 1 (Ax.roles x)) ((Ax.roles x).headD [])).length y.1.2) (fun _=>[]) (fun y=>[aw_ y.1.1 (List.flatMap Pc.cells (Ax.chainL (Ax.role x) (List.drop 1 (Ax.roles x)) ((Ax.roles x).headD [])))]):=by
 refine o_ Tryz.func164 rfl rfl Tryz.ntmps164 rfl fun v0=>?_
 have G:=Ax.good_of hc
 have h24:=G.chain hk
 have hlr:=cS_ (G.role (by omega))
 refine Zz 2 ?_
 refine ah_ rfl rfl fun b1=>Zz 9 ?_
 obtain⟨hlx0,x0,hx0,hmx0⟩:=zge (show 0<List.length (Ax.roles x) by omega)
 have hl0:=cS_ (G.roles x0 hmx0)
 refine Zz 3 ?_
 refine c_ (T_ D_ O_ rfl rfl (fun v _ h=>J_ (n:=1) av_ (by decide) (by exact h.1.2.2) hx0) (by omega) (by first|omega|(simp;done))) rfl ?_
 refine c_ (bu_ (ad:=(Ax.ad x)) ap_ rfl (fun v _ h=>by exact h.1.2.2) (H_ av_ hx0 0 _ rfl)) rfl (Zz 10 ?_)
 refine aN_ [(1,zp_ b1 0),(3,.slice none 0 0),(4,str x0),(5,.int .i64 ((0+1:Nat):Int))] zl ?_
 refine aT_ (ι:={y:Nat×Str×List Pc×Value×Hp // y.1+1≤x.roles.length∧y.2.1.length≤30*(y.1+1)∧y.2.2.1.length=y.1∧y.2.2.1++Ax.chainL (Ax.role x) (List.drop (y.1+1) (Ax.roles x)) y.2.1=(Ax.chainL (Ax.role x) (List.drop 1 (Ax.roles x)) x0)∧aG_ 58 10 y.2.2.2.1 y.2.2.1.length (y.2.2.1.flatMap Pc.cells) y.2.2.2.2}) (fun y=>[(1,zp_ b1 0),(3,y.1.2.2.2.1),(4,str y.1.2.1),(5,.int .i64 ((y.1.1+1:Nat):Int))]) (fun y=>_::y.1.2.2.2.2) (fun _=>_) (fun y=>x.roles.length - y.1.1) ⟨(0,x0,[],.slice none 0 0,[]),by dsimp only;omega,by dsimp only;omega,rfl,rfl,aG_.nil _ _⟩ ?_
 rintro ⟨⟨q,f,L,sv,Hr⟩,hq,hfl,hLl,hch,hrow⟩
 dsimp only at hq hfl hLl hch hrow
 dsimp only
 refine aN_ [(1,zp_ b1 0),(3,sv),(4,str f),(5,.int .i64 ((q+1:Nat):Int))] zl ?_
 refine Zi 7 (fun hr1=>?_) fun hr1=>?_
 ·refine Zz 12 ?_
  have hde:List.drop (q+1) (Ax.roles x)=[]:=List.drop_of_length_le (by omega)
  rw[hde]at hch
  have hLe:L=Ax.chainL (Ax.role x) (List.drop 1 (Ax.roles x)) ((Ax.roles x).headD []):=by rw[fU_ hx0,← hch];simp[Ax.chainL]
  rw[hLe]at hrow
  refine aQ_ hrow (C_ bh_) fun ad2 cp2 hsv hc1 hc2 hc3=>?_
  exact G_ Tryz.results164 ⟨(ad2,cp2),hc1,hc2,hc3⟩ (bO_ rfl hsv) f_ zf
 obtain⟨hlx1,x1,hx1,hmx1⟩:=zge (show (q+1:Nat)<List.length (Ax.roles x) by omega)
 have hl1:=cS_ (G.roles x1 hmx1)
 refine Zz 10 ?_
 refine c_ (bg_ rfl rfl (by first|omega|(simp only[List.length_append,List.length_cons,List.length_nil];omega))) rfl ?_
 refine Zz 3 ?_
 refine c_ (T_ D_ O_ rfl rfl (fun v _ h=>J_ (n:=1) av_ (by decide) (by exact h.1.2.2) hx1) (by omega) (by first|omega|(simp;done))) rfl ?_
 refine c_ (bu_ (ad:=(Ax.ad x)) ap_ rfl (fun v _ h=>by exact h.1.2.2) (H_ av_ hx1 0 _ rfl)) rfl (c_ (bg_ rfl rfl (by first|omega|(simp only[List.length_append,List.length_cons,List.length_nil];omega))) rfl ?_)
 refine Zi 11 (fun hr2=>?_) fun hr2=>?_
 ·refine Zz 12 ?_
  refine c_ (T_ D_ O_ rfl rfl (fun v _ h=>J_ (n:=1) av_ (by decide) (by exact h.1.2.2) hx1) (by omega) (by first|omega|(simp;done))) rfl ?_
  refine c_ (bu_ (ad:=(Ax.ad x)) ap_ rfl (fun v _ h=>by exact h.1.2.2) (H_ av_ hx1 0 _ rfl)) rfl (Zz 1 ?_)
  refine c_ (S_ bT_ rfl rfl) rfl (I_ x_ Z_ ac_ rfl rfl rfl rfl rfl rfl fun b2=>?_)
  refine aW_ (news:=Pc.cells (Pc.mk 6 [] [] [] f x1 ((f++[46])++x1) 0 0 0)) fW_ hrow rfl rfl zp rfl (bv_ 0 rfl) (fun u hu=>cY_ (Pc.cells_one _) u hu) (by simp only[maxLen];omega) (by omega) rfl fun sv1 Hr1 hr1=>?_
  refine W_ (@List.perm_append_comm _ _ [_,_]) ?_
  have hq1:aG_ 58 10 sv1 (L++[(Pc.mk 6 [] [] [] f x1 ((f++[46])++x1) 0 0 0)]).length ((L++[(Pc.mk 6 [] [] [] f x1 ((f++[46])++x1) 0 0 0)]).flatMap Pc.cells) Hr1:=by rw[List.length_append,List.flatMap_append];simpa using hr1
  refine Zz 14 ?_
  have hd:List.drop (q+1) (Ax.roles x)=x1::List.drop (q+2) (Ax.roles x):=fA_ hx1
  have hif:(if List.drop (q+2) (Ax.roles x)=[] then Ax.role x else f++[46]++x1)=(f++[46])++x1:=by rw[if_neg (fun e=>by have:=congrArg List.length e;rw[List.length_drop]at this;simp only[List.length_nil]at this;omega)]
  rw[hd]at hch
  simp only[Ax.chainL]at hch
  rw[hif]at hch
  exact R_ ⟨(q+1,(f++[46])++x1,(L++[(Pc.mk 6 [] [] [] f x1 ((f++[46])++x1) 0 0 0)]),sv1,Hr1),by dsimp only;omega,by dsimp only;first|omega|(simp only[List.length_append,List.length_cons,List.length_nil];omega),by dsimp only;rw[List.length_append,hLl];rfl,by dsimp only;rw[List.append_assoc];exact hch,hq1⟩ (by dsimp only;omega) zl (aF_ (C_ t_) (C_ bh_)) zh
 refine Zz 16 ?_
 refine c_ (T_ D_ O_ rfl rfl (fun v _ h=>J_ (n:=1) av_ (by decide) (by exact h.1.2.2) hx1) (by omega) (by first|omega|(simp;done))) rfl ?_
 refine c_ (bu_ (ad:=(Ax.ad x)) ap_ rfl (fun v _ h=>by exact h.1.2.2) (H_ av_ hx1 0 _ rfl)) rfl (Zz 1 ?_)
 refine c_ (S_ bT_ rfl rfl) rfl (I_ x_ Z_ ac_ rfl rfl rfl rfl rfl rfl fun b3=>?_)
 refine aW_ (news:=Pc.cells (Pc.mk 6 [] [] [] f x1 (Ax.role x) 0 0 0)) fW_ hrow rfl rfl zp rfl (bv_ 0 rfl) (fun u hu=>cY_ (Pc.cells_one _) u hu) (by simp only[maxLen];omega) (by omega) rfl fun sv2 Hr2 hr2=>?_
 refine W_ (@List.perm_append_comm _ _ [_,_]) ?_
 have hq2:aG_ 58 10 sv2 (L++[(Pc.mk 6 [] [] [] f x1 (Ax.role x) 0 0 0)]).length ((L++[(Pc.mk 6 [] [] [] f x1 (Ax.role x) 0 0 0)]).flatMap Pc.cells) Hr2:=by rw[List.length_append,List.flatMap_append];simpa using hr2
 refine Zz 14 ?_
 have hd:List.drop (q+1) (Ax.roles x)=x1::List.drop (q+2) (Ax.roles x):=fA_ hx1
 have hif:(if List.drop (q+2) (Ax.roles x)=[] then Ax.role x else f++[46]++x1)=(Ax.role x):=by rw[if_pos (List.drop_of_length_le (by omega))]
 rw[hd]at hch
 simp only[Ax.chainL]at hch
 rw[hif]at hch
 exact R_ ⟨(q+1,(Ax.role x),(L++[(Pc.mk 6 [] [] [] f x1 (Ax.role x) 0 0 0)]),sv2,Hr2),by dsimp only;omega,by dsimp only;first|omega|(simp only[List.length_append,List.length_cons,List.length_nil];omega),by dsimp only;rw[List.length_append,hLl];rfl,by dsimp only;rw[List.append_assoc];exact hch,hq2⟩ (by dsimp only;omega) zl (aF_ (C_ t_) (C_ bh_)) zh
theorem rh_ {ls:List Pw} {i k:Nat} {w:Pw} (h:ls[i]? = some w):(List.flatMap Pw.l (List.take i ls)++List.take k w.l).length≤(List.flatMap Pw.l ls).length:=by
  have hi:=(List.getElem?_eq_some_iff.1 h).1
  have e:ls=List.take i ls++(w::List.drop (i+1) ls):=by rw[← fA_ h,List.take_append_drop]
  have e2:List.flatMap Pw.l ls=List.flatMap Pw.l (List.take i ls)++(w.l++List.flatMap Pw.l (List.drop (i+1) ls)):=by
    conv=>lhs;rw[e]
    rw[List.flatMap_append,List.flatMap_cons]
  rw[e2]
  simp only[List.length_append,List.length_take]
  omega
theorem sr_ {ls:List Pw} {i:Nat} {w:Pw} (h:ls[i]? = some w):List.flatMap Pw.l (List.take (i+1) ls)=List.flatMap Pw.l (List.take i ls)++w.l:=by
  rw[List.take_add_one,h,Option.toList_some,List.flatMap_append];simp
theorem iA_ (frm:Int) {A l:List Pc} {k:Nat} {y:Pc} (h:l[k]? = some y):ez_ frm [] (A++List.take (k+1) l)=ins frm (ez_ frm [] (A++List.take k l)) y:=by
  rw[List.take_add_one,h,Option.toList_some,← List.append_assoc,bK_,ef_]
theorem pn_ (ls:List Pw) (ad:Option Addr) (cap:Nat) (frm:Int) (hl:ls.length≤100) (ht:(List.flatMap Pw.l ls).length≤100000):Tri Tryz.prog 118 #[.slice ad (List.length ls) cap,.int .i64 frm] [] [aw_ ad (List.flatMap Pw.cells ls),pwF ls] (fun y:{y:Option Addr×Nat // (ez_ frm [] (List.flatMap Pw.l ls)).length≤y.2∧y.2≤maxLen∧(y.1=none→y.2=0)}=>.slice y.1.1 (ez_ frm [] (List.flatMap Pw.l ls)).length y.1.2) (fun _=>[]) (fun y=>[aw_ y.1.1 (List.flatMap Pc.cells (ez_ frm [] (List.flatMap Pw.l ls)))]):=by
 refine o_ Tryz.func118 rfl rfl Tryz.ntmps118 rfl fun v0=>?_
 refine Zz 17 ?_
 refine aN_ [(0,.slice ad (List.length ls) cap),(1,.int .i64 frm),(5,.slice none 0 0),(6,.int .i64 ((0:Nat):Int))] zl ?_
 refine aT_ (ι:={y:Nat×Value×Hp // y.1≤ls.length∧aG_ 58 10 y.2.1 (ez_ frm [] (List.flatMap Pw.l (List.take y.1 ls))).length ((ez_ frm [] (List.flatMap Pw.l (List.take y.1 ls))).flatMap Pc.cells) y.2.2}) (fun y=>[(0,.slice ad (List.length ls) cap),(1,.int .i64 frm),(5,y.1.2.1),(6,.int .i64 (y.1.1:Int))]) (fun y=>y.1.2.2) (fun _=>_) (fun y=>ls.length - y.1.1) ⟨(0,.slice none 0 0,[]),by simp,aG_.nil _ _⟩ ?_
 rintro ⟨⟨i,sv,Hr⟩,hi,hrow⟩
 dsimp only at hi hrow
 dsimp only
 refine aN_ [(0,.slice ad (List.length ls) cap),(1,.int .i64 frm),(5,sv),(6,.int .i64 (i:Int))] zl ?_
 refine Zi 6 (fun hr1=>?_) fun hr1=>?_
 ·refine Zz 12 ?_
  have et:List.take i ls=ls:=List.take_of_length_le (by omega)
  rw[et]at hrow
  refine aQ_ hrow bh_ fun ad2 cp2 hsv hc1 hc2 hc3=>?_
  exact G_ Tryz.results118 ⟨(ad2,cp2),hc1,hc2,hc3⟩ (bO_ rfl hsv) f_ zf
 have hlw:i<List.length ls:=by omega
 obtain⟨w,hw⟩:∃ e0,ls[i]? = some e0:=⟨_,List.getElem?_eq_getElem hlw⟩
 have hmw:w∈ls:=List.mem_of_getElem? hw
 refine Zz 13 ?_
 refine aN_ [(0,.slice ad (List.length ls) cap),(1,.int .i64 frm),(5,sv),(6,.int .i64 (i:Int)),(7,.int .i64 ((0:Nat):Int))] zl ?_
 refine aT_ (ι:={y:Nat×Value×Hp // y.1≤(Pw.l w).length∧aG_ 58 10 y.2.1 (ez_ frm [] ((List.flatMap Pw.l (List.take i ls))++List.take y.1 (Pw.l w))).length ((ez_ frm [] ((List.flatMap Pw.l (List.take i ls))++List.take y.1 (Pw.l w))).flatMap Pc.cells) y.2.2}) (fun y=>[(0,.slice ad (List.length ls) cap),(1,.int .i64 frm),(5,y.1.2.1),(6,.int .i64 (i:Int)),(7,.int .i64 (y.1.1:Int))]) (fun y=>y.1.2.2) (fun _=>_) (fun y=>(Pw.l w).length - y.1.1) ⟨(0,sv,Hr),by simp,by simpa using hrow⟩ ?_
 rintro ⟨⟨k,sw,Hw⟩,hk,hrw⟩
 dsimp only at hk hrw
 dsimp only
 have hfl:=rh_ (k:=k) hw
 have hil:=mW_ frm ((List.flatMap Pw.l (List.take i ls))++List.take k (Pw.l w)) []
 have hwl:=rh_ (k:=(Pw.l w).length) hw
 rw[List.length_append,List.take_length]at hwl
 rw[List.length_nil]at hil
 generalize hJ:(ez_ frm [] ((List.flatMap Pw.l (List.take i ls))++List.take k (Pw.l w)))=J at hrw hil
 refine aN_ [(0,.slice ad (List.length ls) cap),(1,.int .i64 frm),(5,sw),(6,.int .i64 (i:Int)),(7,.int .i64 (k:Int))] zl ?_
 refine Zz 6 ?_
 refine c_ (T_ at_ bd_ rfl rfl (fun v _ h=>J_ (n:=1) Pw.cells_len (by decide) (by exact h.1) hw) (by omega) (by first|omega|(simp;done))) rfl ?_
 refine c_ (bu_ (ad:=ad) eH_ rfl zf (H_ Pw.cells_len hw 0 _ rfl)) rfl (Zi 1 (fun hr2=>?_) fun hr2=>?_)
 ·refine Zz 11 ?_
  exact R_ ⟨(i+1,sw,Hw),hlw,by dsimp only;rw[sr_ hw];have:=hrw;rw[← hJ,List.take_of_length_le (show (Pw.l w).length≤k by omega)]at this;exact this⟩ (by dsimp only;omega) zl bh_ zh
 have hly:k<List.length (Pw.l w):=by omega
 obtain⟨y,hy⟩:∃ e0,(Pw.l w)[k]? = some e0:=⟨_,List.getElem?_eq_getElem hly⟩
 have hmy:y∈(Pw.l w):=List.mem_of_getElem? hy
 refine Zz 11 ?_
 refine c_ (T_ at_ bd_ rfl rfl (fun v _ h=>J_ (n:=1) Pw.cells_len (by decide) (by exact h.1) hw) (by omega) (by first|omega|(simp;done))) rfl ?_
 refine c_ (bu_ (ad:=ad) eH_ rfl zf (H_ Pw.cells_len hw 0 _ rfl)) rfl (Zz 1 ?_)
 refine c_ (T_ x_ Z_ rfl rfl (fun v _ h=>J_ (n:=10) Pc.cells_len (by decide) (by exact (h.2.1 w hmw)) hy) (by omega) (by first|omega|(simp;done))) rfl ?_
 refine c_ (al_ (ad:=(Pw.ad w)) (us:=Pc.cells y) gP_ Z_ rfl (fun v _ h=>by exact (h.2.1 w hmw)) (Pc.cells_len _) (H_ Pc.cells_len hy)) rfl (au_ ac_ rfl fun b1=>aa_ 0 Z_ rfl rfl rfl rfl rfl rfl (Zz 6 ?_))
 refine aa_ 0 ab_ rfl rfl rfl rfl rfl rfl (Zz 14 ?_)
 refine aN_ [(0,.slice ad (List.length ls) cap),(1,.int .i64 frm),(5,sw),(6,.int .i64 (i:Int)),(7,.int .i64 (k:Int)),(8,zp_ b1 0),(9,.bool false),(10,.int .i64 ((0:Nat):Int))] zl ?_
 refine aT_ (ι:={z:Nat×Bool // z.1≤J.length∧z.2=(J.take z.1).any (fun u=>decide (u=(Pc.mk y.kind y.a y.b y.c y.r y.s y.t y.lo y.hi frm)))}) (fun z=>[(0,.slice ad (List.length ls) cap),(1,.int .i64 frm),(5,sw),(6,.int .i64 (i:Int)),(7,.int .i64 (k:Int)),(8,zp_ b1 0),(9,.bool z.1.2),(10,.int .i64 (z.1.1:Int))]) (fun _=>_) (fun _=>_) (fun z=>J.length - z.1.1) ⟨(0,false),by simp,by simp⟩ ?_
 rintro ⟨⟨n,m⟩,hn⟩
 dsimp only at hn
 obtain⟨hn1,hnm⟩:=hn
 refine aN_ [(0,.slice ad (List.length ls) cap),(1,.int .i64 frm),(5,sw),(6,.int .i64 (i:Int)),(7,.int .i64 (k:Int)),(8,zp_ b1 0),(9,.bool m),(10,.int .i64 (n:Int))] zl ?_
 refine Zz 5 ?_
 refine c_ (eC_ hrw x_ rfl) rfl ?_
 refine Zi 0 (fun hr3=>?_) fun hr3=>?_
 ·refine Zz 12 ?_
  refine c_ (aE_ rfl) rfl (Zz 2 ?_)
  cases m
  ·have hin:¬ (Pc.mk y.kind y.a y.b y.c y.r y.s y.t y.lo y.hi frm)∈J:=fun q=>by
     rw[List.take_of_length_le (by omega)]at hnm
     have:=List.any_eq_false.1 hnm.symm _ q
     simp at this
   refine Zz 4 ?_
   refine I_ x_ Z_ ac_ rfl rfl rfl rfl rfl rfl fun b2=>?_
   refine aW_ (news:=Pc.cells (Pc.mk y.kind y.a y.b y.c y.r y.s y.t y.lo y.hi frm)) fW_ hrw rfl rfl (C_ (C_ bh_)) rfl (bv_ 0 rfl) (fun u hu=>cY_ (Pc.cells_one _) u hu) (by simp only[maxLen];omega) (by omega) rfl fun sv1 Hr1 hr1=>?_
   refine W_ (@List.perm_append_comm _ _ [_,_]) ?_
   have hq1:aG_ 58 10 sv1 (J++[(Pc.mk y.kind y.a y.b y.c y.r y.s y.t y.lo y.hi frm)]).length ((J++[(Pc.mk y.kind y.a y.b y.c y.r y.s y.t y.lo y.hi frm)]).flatMap Pc.cells) Hr1:=by rw[List.length_append,List.flatMap_append];simpa using hr1
   refine Zz 9 ?_
   have hst:=iA_ frm (A:=(List.flatMap Pw.l (List.take i ls))) hy
   rw[hJ]at hst
   unfold ins at hst
   rw[if_neg hin]at hst
   exact R_ ⟨(k+1,sv1,Hr1),hly,by dsimp only;rw[hst];exact hq1⟩ (by dsimp only;omega) zl zp zh
  have hin:(Pc.mk y.kind y.a y.b y.c y.r y.s y.t y.lo y.hi frm)∈J:=by
    obtain⟨u,hu,he⟩:=List.any_eq_true.1 hnm.symm
    have he2:=of_decide_eq_true he
    subst he2
    exact List.mem_of_mem_take hu
  refine Zz 9 ?_
  have hst:=iA_ frm (A:=(List.flatMap Pw.l (List.take i ls))) hy
  rw[hJ]at hst
  unfold ins at hst
  rw[if_pos hin]at hst
  exact R_ ⟨(k+1,sw,Hw),hly,by dsimp only;rw[hst];exact hrw⟩ (by dsimp only;omega) zl (C_ bh_) zh
 have hlz:n<J.length:=by omega
 obtain⟨z,hz⟩:∃ z,J[n]? = some z:=⟨_,List.getElem?_eq_getElem hlz⟩
 refine Zz 4 ?_
 refine c_ (aE_ rfl) rfl (Zz 3 ?_)
 cases m
 ·refine Zz 6 ?_
  refine U_ 0 [0,1,2,3,4,5,6] zk zs (Zz 2 ?_)
  refine y_ rfl (ha_ hrw x_ Z_ rfl rfl (by omega) (by omega)) rfl (y_ rfl (kj_ (us:=Pc.cells z) hrw (C_ bh_) gP_ Z_ rfl z.cells_len (by decide) (H_ Pc.cells_len hz)) rfl (Zz 1 ?_))
  refine ot_ rfl (pa_ (p:=z) (q:=(Pc.mk y.kind y.a y.b y.c y.r y.s y.t y.lo y.hi frm)) rfl rfl) rfl fun r4 hr4=>Zz 10 ?_
  exact R_ ⟨(n+1,r4),hlz,by dsimp only;rw[pZ_ hz,← hnm,Bool.false_or];exact hr4.symm⟩ (by dsimp only;omega) zl bh_ zh
 have hin:(Pc.mk y.kind y.a y.b y.c y.r y.s y.t y.lo y.hi frm)∈J:=by
   obtain⟨u,hu,he⟩:=List.any_eq_true.1 hnm.symm
   have he2:=of_decide_eq_true he
   subst he2
   exact List.mem_of_mem_take hu
 refine Zz 6 ?_
 refine c_ (aE_ rfl) rfl (Zz 11 ?_)
 have hst:=iA_ frm (A:=(List.flatMap Pw.l (List.take i ls))) hy
 rw[hJ]at hst
 unfold ins at hst
 rw[if_pos hin]at hst
 exact R_ ⟨(k+1,sw,Hw),hly,by dsimp only;rw[hst];exact hrw⟩ (by dsimp only;omega) zl (C_ bh_) zh
end Go.Proofs.YtamklbgaipakfaaGreatDoor
namespace Go.Proofs.YtamklbgaipakfaaGreatDoor
open Go Go.Sx Go.Proofs
attribute [local irreducible] Code.wp wpList wpAnyH
open Go.Vs
theorem db_ (ls:List Pw) (ad:Option Addr) (cap:Nat) (frm:Int) (hl:ls.length≤100) (ht:(List.flatMap Pw.l ls).length≤100000) {J:List Pc} (e:ez_ frm [] (List.flatMap Pw.l ls)=J) :
    Tri Tryz.prog 118 #[.slice ad ls.length cap,.int .i64 frm] [] [aw_ ad (List.flatMap Pw.cells ls),pwF ls] (fun y:{y:Option Addr×Nat // J.length≤y.2∧y.2≤maxLen∧(y.1=none→y.2=0)}=>.slice y.1.1 J.length y.1.2) (fun _=>[]) (fun y=>[aw_ y.1.1 (List.flatMap Pc.cells J)]):=by
  subst e
  exact pn_ ls ad cap frm hl ht
theorem Con.has_empty {c:Con} (h:c.empty=true):c.has∧c.sz=1:=by
  simp only[Con.empty,Bool.and_eq_true,beq_iff_eq]at h
  have hp:c.parts=[]:=List.eq_nil_of_length_eq_zero (by omega)
  exact⟨.inr ⟨h.1.1.1.1,hp⟩,by rw[Con.sz_eq,hp];rfl⟩
theorem Ax.sides {x:Ax} (hc:x.check=0):(x.left.has∧x.left.sz≤64)∧(x.right.has∧x.right.sz≤64):=by
 have key:∀ c:Con,(c.check=0∨c.empty=true)→c.has∧c.sz≤64:=by
   intro c h
   rcases h with h|h
   · exact⟨Con.has_of h,(Con.check_zero h).2⟩
   · have:=Con.has_empty h
     exact⟨this.1,by omega⟩
 have G:=Ax.good_of hc
 have hs:x.shaped=true:=by
   unfold Ax.check at hc
   split at hc
   · cases hc
   · rename_i h;simpa using h
 have k1:=G.k1
 have k9:=G.k9
 unfold Ax.shaped at hs
 rw[if_neg (by omega)]at hs
 simp only[Bool.and_eq_true,Bool.or_eq_true]at hs
 refine⟨key _ ?_,key _ ?_⟩
 ·by_cases h:x.kind≤3
  ·exact .inl (G.left h)
  right
  have hk:x.kind=4∨x.kind=5∨x.kind=6∨x.kind=7∨x.kind=8∨x.kind=9:=by omega
  have h0:=hs.1.1.1.1.1.1
  rcases hk with e|e|e|e|e|e<;>simpa [us,iP_,e] using h0
 by_cases h:x.kind≤4∨x.kind=8
 ·exact .inl (G.right h)
 right
 have hk:x.kind=5∨x.kind=6∨x.kind=7∨x.kind=9:=by omega
 have h0:=hs.1.1.1.1.1.2
 rcases hk with e|e|e|e<;>simpa [us,iP_,e] using h0
set_option maxHeartbeats 4000000 in
theorem rOf1_c (x:Ax) (hok:x.ok) (hc:x.check=0) (frm:Int):Tri Tryz.prog 82 #[Ax.val x,.int .i64 frm] [] [Ax.memF x] (fun y:{y:Option Addr×Nat // (Ax.pieces frm x).length≤y.2∧y.2≤maxLen∧(y.1=none→y.2=0)}=>.slice y.1.1 (Ax.pieces frm x).length y.1.2) (fun _=>[]) (fun y=>[aw_ y.1.1 (List.flatMap Pc.cells (Ax.pieces frm x))]):=by
 refine o_ Tryz.func82 rfl rfl Tryz.ntmps82 rfl fun v0=>?_
 have G:=Ax.good_of hc
 have S:=Ax.sides hc
 have k1:=G.k1
 have k9:=G.k9
 have hz1:=S.1.2
 have hz2:=S.2.2
 have b11:=Con.rleft_len _ x.left (Nat.le_refl _)
 have b12:=Con.rright_len _ x.left (Nat.le_refl _)
 have b21:=Con.rleft_len _ x.right (Nat.le_refl _)
 have b22:=Con.rright_len _ x.right (Nat.le_refl _)
 have hola:=hok.a
 have holb:=hok.b
 refine Zz 2 ?_
 refine ah_ rfl rfl fun b1=>Zz 7 ?_
 refine i_ (ln_ (Ax.left x) hok.left S.1.1 (by have:=S.1.2;omega)) rfl f_ (fun v _ h=>by exact⟨h.1.1,trivial⟩) rfl fun _=>?_
 refine Zz 7 ?_
 refine i_ (ln_ (Ax.right x) hok.right S.2.1 (by have:=S.2.2;omega)) rfl f_ (fun v _ h=>by exact⟨h.1.2.1,trivial⟩) rfl fun _=>?_
 refine Zi 13 (fun hr1=>?_) fun hr1=>?_
 ·refine Zi 6 (fun hr2=>?_) fun hr2=>?_
  ·refine Zi 6 (fun hr3=>?_) fun hr3=>?_
   ·refine Zi 6 (fun hr4=>?_) fun hr4=>?_
    ·refine Zi 6 (fun hr5=>?_) fun hr5=>?_
     ·refine Zi 6 (fun hr6=>?_) fun hr6=>?_
      ·refine Zi 6 (fun hr7=>?_) fun hr7=>?_
       ·refine Zi 6 (fun hr8=>?_) fun hr8=>?_
        ·refine Zz 8 ?_
         refine U_ 7 [0,1,3,4,5,6,11] zk zs (Zz 8 ?_)
         refine u_ 2 rfl zk (i_ (hx_ (Ax.a x) (by omega)) rfl f_ zt rfl fun _=>Zz 3 ?_)
         refine u_ 7 rfl zk (i_ (hx_ (Ax.b x) (by omega)) rfl f_ zt rfl fun _=>Zz 3 ?_)
         refine U_ 4 [8] zk zs (y_ rfl (S_ bT_ rfl rfl) rfl (aJ_ (u_ 9 rfl zk (I_ x_ Z_ ac_ rfl rfl rfl rfl rfl rfl fun b2=>?_))))
         refine ak_ (List.flatMap Pc.cells [(Pc.mk 3 ([123]++(Ax.a x)++[125]) [] ([123]++(Ax.b x)++[125]) (Ax.role x) [] [] 0 0 0)]) t_ rfl ?_
         refine Zz 3 ?_
         refine u_ 10 rfl zk (I_ at_ bd_ ce_ rfl rfl rfl rfl rfl rfl fun b3=>?_)
         refine ak_ (List.flatMap Pw.cells [(Pw.mk [(Pc.mk 3 ([123]++(Ax.a x)++[125]) [] ([123]++(Ax.b x)++[125]) (Ax.role x) [] [] 0 0 0)] (some ⟨b2,0,none⟩) 1)]) t_ rfl ?_
         refine Zz 3 ?_
         refine u_ 12 rfl zk (i_ (db_ [(Pw.mk [(Pc.mk 3 ([123]++(Ax.a x)++[125]) [] ([123]++(Ax.b x)++[125]) (Ax.role x) [] [] 0 0 0)] (some ⟨b2,0,none⟩) 1)] (some ⟨b3,0,none⟩) 1 frm (by simp) (by simp only[List.flatMap_cons,List.flatMap_nil,List.length_append,List.length_cons,List.length_nil,Ax.chainL_len,List.length_drop];omega) (J:=x.pieces frm) (by rw[Ax.pieces_ins];congr 1;unfold Ax.rpieces;simp[*])) rfl f_ (fun v _ h=>by exact⟨h.1,(bE_ h.2.1 eg_),trivial⟩) rfl fun⟨⟨aj,cj⟩,hcj⟩=>?_)
         dsimp only
         refine Zz 3 ?_
         refine U_ 0 [13] zk zs (Zz 5 ?_)
         exact G_ cP_ ⟨(aj,cj),hcj⟩ rfl f_ zf
        have hnr:=Con.nameR_eq (G.right (by omega))
        refine Zz 6 ?_
        refine U_ 6 [0,1,3,4,6,9] zk zs (Zz 7 ?_)
        refine u_ 2 rfl zk (i_ (fN_ _ (Ax.right x) (Nat.le_refl _) hok.right (G.right (by omega))) rfl f_ (fun v _ h=>by exact⟨h.1.2.1,trivial⟩) rfl fun⟨⟨sl1,HL1⟩,hl1⟩=>?_)
        dsimp only
        refine aQ_ hl1 aY_ fun al1 cl1 hsl1 hca1 hcb1 hcc1=>?_
        subst hsl1
        refine Zz 3 ?_
        refine u_ 5 rfl zk (i_ (hx_ (Ax.a x) (by omega)) rfl f_ zt rfl fun _=>Zz 3 ?_)
        refine u_ 7 rfl zk (i_ (lm_ ([123]++(Ax.a x)++[125]) (Con.nameR (Ax.right x))) rfl f_ zt rfl fun bs1=>Zz 3 ?_)
        refine u_ 8 rfl zk (I_ at_ bd_ ce_ rfl rfl rfl rfl rfl rfl fun b4=>?_)
        refine ak_ (List.flatMap Pw.cells [(Pw.mk (Con.rright (Ax.right x)) al1 cl1),(Pw.mk [(Pc.mk 1 ([123]++(Ax.a x)++[125]) [] (Con.nameR (Ax.right x)) [] [] [] 0 0 0)] (some ⟨bs1,0,none⟩) 1)]) t_ rfl ?_
        refine Zz 3 ?_
        refine u_ 10 rfl zk (i_ (db_ [(Pw.mk (Con.rright (Ax.right x)) al1 cl1),(Pw.mk [(Pc.mk 1 ([123]++(Ax.a x)++[125]) [] (Con.nameR (Ax.right x)) [] [] [] 0 0 0)] (some ⟨bs1,0,none⟩) 1)] (some ⟨b4,0,none⟩) 2 frm (by simp) (by simp only[List.flatMap_cons,List.flatMap_nil,List.length_append,List.length_cons,List.length_nil,Ax.chainL_len,List.length_drop];omega) (J:=x.pieces frm) (by rw[Ax.pieces_ins];congr 1;unfold Ax.rpieces;simp[*])) rfl f_ (fun v _ h=>by exact⟨h.1,(bE_ h.2.2.1 (bE_ h.2.1 eg_)),trivial⟩) rfl fun⟨⟨aj,cj⟩,hcj⟩=>?_)
        dsimp only
        refine Zz 3 ?_
        refine U_ 0 [11] zk zs (Zz 5 ?_)
        exact G_ cP_ ⟨(aj,cj),hcj⟩ rfl f_ zf
       refine Zz 8 ?_
       refine c_ (S_ bT_ rfl rfl) rfl (I_ x_ Z_ ac_ rfl rfl rfl rfl rfl rfl fun b5=>?_)
       refine ak_ (List.flatMap Pc.cells [(Pc.mk 7 [] [] [] (Ax.role x) [] [] 0 0 0)]) t_ rfl ?_
       refine I_ at_ bd_ ce_ rfl rfl rfl rfl rfl rfl fun b6=>?_
       refine ak_ (List.flatMap Pw.cells [(Pw.mk [(Pc.mk 7 [] [] [] (Ax.role x) [] [] 0 0 0)] (some ⟨b5,0,none⟩) 1)]) t_ rfl ?_
       refine Zz 1 ?_
       refine i_ (db_ [(Pw.mk [(Pc.mk 7 [] [] [] (Ax.role x) [] [] 0 0 0)] (some ⟨b5,0,none⟩) 1)] (some ⟨b6,0,none⟩) 1 frm (by simp) (by simp only[List.flatMap_cons,List.flatMap_nil,List.length_append,List.length_cons,List.length_nil,Ax.chainL_len,List.length_drop];omega) (J:=x.pieces frm) (by rw[Ax.pieces_ins];congr 1;unfold Ax.rpieces;simp[*])) rfl f_ (fun v _ h=>by exact⟨h.1,(bE_ h.2.1 eg_),trivial⟩) rfl fun⟨⟨aj,cj⟩,hcj⟩=>?_
       dsimp only
       refine Zz 4 ?_
       exact G_ cP_ ⟨(aj,cj),hcj⟩ rfl f_ zf
      have h6:=G.chain (by omega)
      refine Zz 7 ?_
      refine i_ (qz_ x hok hc (by omega)) rfl f_ zf rfl fun⟨⟨ach,cch⟩,hch⟩=>?_
      dsimp only
      refine I_ at_ bd_ ce_ rfl rfl rfl rfl rfl rfl fun b7=>?_
      refine ak_ (List.flatMap Pw.cells [(Pw.mk (Ax.chainL (Ax.role x) (List.drop 1 (Ax.roles x)) ((Ax.roles x).headD [])) ach cch)]) t_ rfl ?_
      refine Zz 1 ?_
      refine i_ (db_ [(Pw.mk (Ax.chainL (Ax.role x) (List.drop 1 (Ax.roles x)) ((Ax.roles x).headD [])) ach cch)] (some ⟨b7,0,none⟩) 1 frm (by simp) (by simp only[List.flatMap_cons,List.flatMap_nil,List.length_append,List.length_cons,List.length_nil,Ax.chainL_len,List.length_drop];omega) (J:=x.pieces frm) (by rw[Ax.pieces_ins];congr 1;unfold Ax.rpieces;simp[*])) rfl f_ (fun v _ h=>by exact⟨h.1,(bE_ h.2.1 eg_),trivial⟩) rfl fun⟨⟨aj,cj⟩,hcj⟩=>?_
      dsimp only
      refine Zz 4 ?_
      exact G_ cP_ ⟨(aj,cj),hcj⟩ rfl f_ zf
     have h51:=G.one (by omega)
     obtain⟨hlx0,x0,hx0,hmx0⟩:=zge (show 0<List.length (Ax.roles x) by omega)
     have hhd:x.roles.headD []=x0:=fU_ hx0
     refine Zz 6 ?_
     refine U_ 4 [0,1,2,3,4,5,6,9] zk zs (Zz 2 ?_)
     refine y_ rfl (T_ D_ O_ rfl rfl (fun v _ h=>J_ (n:=1) av_ (by decide) (by exact h.1.2.2) hx0) (by omega) (by first|omega|(simp;done))) rfl ?_
     refine y_ rfl (bu_ (ad:=(Ax.ad x)) ap_ rfl (fun v _ h=>by exact h.1.2.2) (H_ av_ hx0 0 _ rfl)) rfl (Zz 2 ?_)
     refine y_ rfl (S_ bT_ rfl rfl) rfl (Zz 2 ?_)
     refine u_ 7 rfl zk (I_ x_ Z_ ac_ rfl rfl rfl rfl rfl rfl fun b8=>?_)
     refine ak_ (List.flatMap Pc.cells [(Pc.mk 5 [] [] [] x0 [] (Ax.role x) 0 0 0)]) t_ rfl ?_
     refine Zz 3 ?_
     refine u_ 8 rfl zk (I_ at_ bd_ ce_ rfl rfl rfl rfl rfl rfl fun b9=>?_)
     refine ak_ (List.flatMap Pw.cells [(Pw.mk [(Pc.mk 5 [] [] [] x0 [] (Ax.role x) 0 0 0)] (some ⟨b8,0,none⟩) 1)]) t_ rfl ?_
     refine Zz 3 ?_
     refine u_ 10 rfl zk (i_ (db_ [(Pw.mk [(Pc.mk 5 [] [] [] x0 [] (Ax.role x) 0 0 0)] (some ⟨b8,0,none⟩) 1)] (some ⟨b9,0,none⟩) 1 frm (by simp) (by simp only[List.flatMap_cons,List.flatMap_nil,List.length_append,List.length_cons,List.length_nil,Ax.chainL_len,List.length_drop];omega) (J:=x.pieces frm) (by rw[Ax.pieces_ins];congr 1;unfold Ax.rpieces;rw[hhd];simp[*])) rfl f_ (fun v _ h=>by exact⟨h.1,(bE_ h.2.1 eg_),trivial⟩) rfl fun⟨⟨aj,cj⟩,hcj⟩=>?_)
     dsimp only
     refine Zz 3 ?_
     refine U_ 0 [11] zk zs (Zz 5 ?_)
     exact G_ cP_ ⟨(aj,cj),hcj⟩ rfl f_ zf
    have hnr:=Con.nameR_eq (G.right (by omega))
    refine Zz 6 ?_
    refine U_ 5 [0,1,3,4,5,6,9] zk zs (Zz 5 ?_)
    refine y_ rfl (S_ bT_ rfl rfl) rfl (Zz 2 ?_)
    refine il_ 2 7 rfl rfl zk ?_ ?_
    ·refine i_ (fN_ _ (Ax.right x) (Nat.le_refl _) hok.right (G.right (by omega))) rfl f_ (fun v _ h=>by exact⟨h.1.2.1,trivial⟩) rfl fun⟨⟨sl2,HL2⟩,hl2⟩=>?_
     dsimp only
     refine aQ_ hl2 aY_ fun al2 cl2 hsl2 hca2 hcb2 hcc2=>?_
     subst hsl2
     refine Zz 3 ?_
     refine u_ 7 rfl zk (I_ x_ Z_ ac_ rfl rfl rfl rfl rfl rfl fun b10=>?_)
     refine ak_ (List.flatMap Pc.cells [(Pc.mk 4 [42] [] (Con.nameR (Ax.right x)) (Ax.role x) [] [] 0 0 0)]) t_ rfl ?_
     refine Zz 3 ?_
     refine u_ 8 rfl zk (I_ at_ bd_ ce_ rfl rfl rfl rfl rfl rfl fun b11=>?_)
     refine ak_ (List.flatMap Pw.cells [(Pw.mk (Con.rright (Ax.right x)) al2 cl2),(Pw.mk [(Pc.mk 4 [42] [] (Con.nameR (Ax.right x)) (Ax.role x) [] [] 0 0 0)] (some ⟨b10,0,none⟩) 1)]) t_ rfl ?_
     refine Zz 3 ?_
     refine u_ 10 rfl zk (i_ (db_ [(Pw.mk (Con.rright (Ax.right x)) al2 cl2),(Pw.mk [(Pc.mk 4 [42] [] (Con.nameR (Ax.right x)) (Ax.role x) [] [] 0 0 0)] (some ⟨b10,0,none⟩) 1)] (some ⟨b11,0,none⟩) 2 frm (by simp) (by simp only[List.flatMap_cons,List.flatMap_nil,List.length_append,List.length_cons,List.length_nil,Ax.chainL_len,List.length_drop];omega) (J:=x.pieces frm) (by rw[Ax.pieces_ins];congr 1;unfold Ax.rpieces;simp[*])) rfl f_ (fun v _ h=>by exact⟨h.1,(bE_ h.2.2.1 (bE_ h.2.1 eg_)),trivial⟩) rfl fun⟨⟨aj,cj⟩,hcj⟩=>?_)
     dsimp only
     refine Zz 3 ?_
     refine U_ 0 [11] zk zs (Zz 5 ?_)
     exact G_ cP_ ⟨(aj,cj),hcj⟩ rfl f_ zf
    refine I_ x_ Z_ ac_ rfl rfl rfl rfl rfl rfl fun b12=>?_
    refine ak_ (List.flatMap Pc.cells [(Pc.mk 4 [42] [] (Con.nameR (Ax.right x)) (Ax.role x) [] [] 0 0 0)]) t_ rfl ?_
    refine Zz 3 ?_
    refine u_ 2 rfl zk (i_ (fN_ _ (Ax.right x) (Nat.le_refl _) hok.right (G.right (by omega))) rfl f_ (fun v _ h=>by exact⟨h.2.1.2.1,trivial⟩) rfl fun⟨⟨sl3,HL3⟩,hl3⟩=>?_)
    dsimp only
    refine aQ_ hl3 aY_ fun al3 cl3 hsl3 hca3 hcb3 hcc3=>?_
    subst hsl3
    refine Zz 3 ?_
    refine u_ 8 rfl zk (I_ at_ bd_ ce_ rfl rfl rfl rfl rfl rfl fun b13=>?_)
    refine ak_ (List.flatMap Pw.cells [(Pw.mk (Con.rright (Ax.right x)) al3 cl3),(Pw.mk [(Pc.mk 4 [42] [] (Con.nameR (Ax.right x)) (Ax.role x) [] [] 0 0 0)] (some ⟨b12,0,none⟩) 1)]) t_ rfl ?_
    refine Zz 3 ?_
    refine u_ 10 rfl zk (i_ (db_ [(Pw.mk (Con.rright (Ax.right x)) al3 cl3),(Pw.mk [(Pc.mk 4 [42] [] (Con.nameR (Ax.right x)) (Ax.role x) [] [] 0 0 0)] (some ⟨b12,0,none⟩) 1)] (some ⟨b13,0,none⟩) 2 frm (by simp) (by simp only[List.flatMap_cons,List.flatMap_nil,List.length_append,List.length_cons,List.length_nil,Ax.chainL_len,List.length_drop];omega) (J:=x.pieces frm) (by rw[Ax.pieces_ins];congr 1;unfold Ax.rpieces;simp[*])) rfl f_ (fun v _ h=>by exact⟨h.1,(bE_ h.2.1 (bE_ h.2.2.1 eg_)),trivial⟩) rfl fun⟨⟨aj,cj⟩,hcj⟩=>?_)
    dsimp only
    refine Zz 3 ?_
    refine U_ 0 [11] zk zs (Zz 5 ?_)
    exact G_ cP_ ⟨(aj,cj),hcj⟩ rfl f_ zf
   have hnl:=Con.nameR_eq (G.left (by omega))
   have hnr:=Con.nameR_eq (G.right (by omega))
   refine Zz 6 ?_
   refine U_ 6 [0,1,3,4,6,7,8,11] zk zs (Zz 6 ?_)
   refine y_ rfl (S_ bT_ rfl rfl) rfl (Zz 2 ?_)
   refine il_ 2 9 rfl rfl zk ?_ ?_
   ·refine i_ (fy_ _ (Ax.left x) (Nat.le_refl _) hok.left (G.left (by omega))) rfl f_ (fun v _ h=>by exact⟨h.1.1,trivial⟩) rfl fun⟨⟨sl4,HL4⟩,hl4⟩=>?_
    dsimp only
    refine aQ_ hl4 aY_ fun al4 cl4 hsl4 hca4 hcb4 hcc4=>?_
    subst hsl4
    refine Zz 3 ?_
    refine il_ 5 9 rfl rfl zk ?_ ?_
    ·refine i_ (fy_ _ (Ax.right x) (Nat.le_refl _) hok.right (G.right (by omega))) rfl f_ (fun v _ h=>by exact⟨h.2.1.2.1,trivial⟩) rfl fun⟨⟨sl5,HL5⟩,hl5⟩=>?_
     dsimp only
     refine aQ_ hl5 aY_ fun al5 cl5 hsl5 hca5 hcb5 hcc5=>?_
     subst hsl5
     refine Zz 3 ?_
     refine u_ 9 rfl zk (I_ x_ Z_ ac_ rfl rfl rfl rfl rfl rfl fun b14=>?_)
     refine ak_ (List.flatMap Pc.cells [(Pc.mk 2 (Con.nameR (Ax.left x)) (Con.nameR (Ax.right x)) [33] [] [] [] 0 0 0)]) t_ rfl ?_
     refine Zz 3 ?_
     refine u_ 10 rfl zk (I_ at_ bd_ ce_ rfl rfl rfl rfl rfl rfl fun b15=>?_)
     refine ak_ (List.flatMap Pw.cells [(Pw.mk (Con.rleft (Ax.left x)) al4 cl4),(Pw.mk (Con.rleft (Ax.right x)) al5 cl5),(Pw.mk [(Pc.mk 2 (Con.nameR (Ax.left x)) (Con.nameR (Ax.right x)) [33] [] [] [] 0 0 0)] (some ⟨b14,0,none⟩) 1)]) t_ rfl ?_
     refine Zz 3 ?_
     refine u_ 12 rfl zk (i_ (db_ [(Pw.mk (Con.rleft (Ax.left x)) al4 cl4),(Pw.mk (Con.rleft (Ax.right x)) al5 cl5),(Pw.mk [(Pc.mk 2 (Con.nameR (Ax.left x)) (Con.nameR (Ax.right x)) [33] [] [] [] 0 0 0)] (some ⟨b14,0,none⟩) 1)] (some ⟨b15,0,none⟩) 3 frm (by simp) (by simp only[List.flatMap_cons,List.flatMap_nil,List.length_append,List.length_cons,List.length_nil,Ax.chainL_len,List.length_drop];omega) (J:=x.pieces frm) (by rw[Ax.pieces_ins];congr 1;unfold Ax.rpieces;simp[*])) rfl f_ (fun v _ h=>by exact⟨h.1,(bE_ h.2.2.2.1 (bE_ h.2.2.1 (bE_ h.2.1 eg_))),trivial⟩) rfl fun⟨⟨aj,cj⟩,hcj⟩=>?_)
     dsimp only
     refine Zz 3 ?_
     refine U_ 0 [13] zk zs (Zz 5 ?_)
     exact G_ cP_ ⟨(aj,cj),hcj⟩ rfl f_ zf
    refine I_ x_ Z_ ac_ rfl rfl rfl rfl rfl rfl fun b16=>?_
    refine ak_ (List.flatMap Pc.cells [(Pc.mk 2 (Con.nameR (Ax.left x)) (Con.nameR (Ax.right x)) [33] [] [] [] 0 0 0)]) t_ rfl ?_
    refine Zz 3 ?_
    refine u_ 5 rfl zk (i_ (fy_ _ (Ax.right x) (Nat.le_refl _) hok.right (G.right (by omega))) rfl f_ (fun v _ h=>by exact⟨h.2.2.1.2.1,trivial⟩) rfl fun⟨⟨sl6,HL6⟩,hl6⟩=>?_)
    dsimp only
    refine aQ_ hl6 aY_ fun al6 cl6 hsl6 hca6 hcb6 hcc6=>?_
    subst hsl6
    refine Zz 3 ?_
    refine u_ 10 rfl zk (I_ at_ bd_ ce_ rfl rfl rfl rfl rfl rfl fun b17=>?_)
    refine ak_ (List.flatMap Pw.cells [(Pw.mk (Con.rleft (Ax.left x)) al4 cl4),(Pw.mk (Con.rleft (Ax.right x)) al6 cl6),(Pw.mk [(Pc.mk 2 (Con.nameR (Ax.left x)) (Con.nameR (Ax.right x)) [33] [] [] [] 0 0 0)] (some ⟨b16,0,none⟩) 1)]) t_ rfl ?_
    refine Zz 3 ?_
    refine u_ 12 rfl zk (i_ (db_ [(Pw.mk (Con.rleft (Ax.left x)) al4 cl4),(Pw.mk (Con.rleft (Ax.right x)) al6 cl6),(Pw.mk [(Pc.mk 2 (Con.nameR (Ax.left x)) (Con.nameR (Ax.right x)) [33] [] [] [] 0 0 0)] (some ⟨b16,0,none⟩) 1)] (some ⟨b17,0,none⟩) 3 frm (by simp) (by simp only[List.flatMap_cons,List.flatMap_nil,List.length_append,List.length_cons,List.length_nil,Ax.chainL_len,List.length_drop];omega) (J:=x.pieces frm) (by rw[Ax.pieces_ins];congr 1;unfold Ax.rpieces;simp[*])) rfl f_ (fun v _ h=>by exact⟨h.1,(bE_ h.2.2.2.1 (bE_ h.2.1 (bE_ h.2.2.1 eg_))),trivial⟩) rfl fun⟨⟨aj,cj⟩,hcj⟩=>?_)
    dsimp only
    refine Zz 3 ?_
    refine U_ 0 [13] zk zs (Zz 5 ?_)
    exact G_ cP_ ⟨(aj,cj),hcj⟩ rfl f_ zf
   refine I_ x_ Z_ ac_ rfl rfl rfl rfl rfl rfl fun b18=>?_
   refine ak_ (List.flatMap Pc.cells [(Pc.mk 2 (Con.nameR (Ax.left x)) (Con.nameR (Ax.right x)) [33] [] [] [] 0 0 0)]) t_ rfl ?_
   refine Zz 3 ?_
   refine u_ 2 rfl zk (i_ (fy_ _ (Ax.left x) (Nat.le_refl _) hok.left (G.left (by omega))) rfl f_ (fun v _ h=>by exact⟨h.2.1.1,trivial⟩) rfl fun⟨⟨sl7,HL7⟩,hl7⟩=>?_)
   dsimp only
   refine aQ_ hl7 aY_ fun al7 cl7 hsl7 hca7 hcb7 hcc7=>?_
   subst hsl7
   refine Zz 3 ?_
   refine u_ 5 rfl zk (i_ (fy_ _ (Ax.right x) (Nat.le_refl _) hok.right (G.right (by omega))) rfl f_ (fun v _ h=>by exact⟨h.2.2.1.2.1,trivial⟩) rfl fun⟨⟨sl8,HL8⟩,hl8⟩=>?_)
   dsimp only
   refine aQ_ hl8 aY_ fun al8 cl8 hsl8 hca8 hcb8 hcc8=>?_
   subst hsl8
   refine Zz 3 ?_
   refine u_ 10 rfl zk (I_ at_ bd_ ce_ rfl rfl rfl rfl rfl rfl fun b19=>?_)
   refine ak_ (List.flatMap Pw.cells [(Pw.mk (Con.rleft (Ax.left x)) al7 cl7),(Pw.mk (Con.rleft (Ax.right x)) al8 cl8),(Pw.mk [(Pc.mk 2 (Con.nameR (Ax.left x)) (Con.nameR (Ax.right x)) [33] [] [] [] 0 0 0)] (some ⟨b18,0,none⟩) 1)]) t_ rfl ?_
   refine Zz 3 ?_
   refine u_ 12 rfl zk (i_ (db_ [(Pw.mk (Con.rleft (Ax.left x)) al7 cl7),(Pw.mk (Con.rleft (Ax.right x)) al8 cl8),(Pw.mk [(Pc.mk 2 (Con.nameR (Ax.left x)) (Con.nameR (Ax.right x)) [33] [] [] [] 0 0 0)] (some ⟨b18,0,none⟩) 1)] (some ⟨b19,0,none⟩) 3 frm (by simp) (by simp only[List.flatMap_cons,List.flatMap_nil,List.length_append,List.length_cons,List.length_nil,Ax.chainL_len,List.length_drop];omega) (J:=x.pieces frm) (by rw[Ax.pieces_ins];congr 1;unfold Ax.rpieces;simp[*])) rfl f_ (fun v _ h=>by exact⟨h.1,(bE_ h.2.2.1 (bE_ h.2.1 (bE_ h.2.2.2.1 eg_))),trivial⟩) rfl fun⟨⟨aj,cj⟩,hcj⟩=>?_)
   dsimp only
   refine Zz 3 ?_
   refine U_ 0 [13] zk zs (Zz 5 ?_)
   exact G_ cP_ ⟨(aj,cj),hcj⟩ rfl f_ zf
  have hnl:=Con.nameR_eq (G.left (by omega))
  have hnr:=Con.nameR_eq (G.right (by omega))
  refine Zz 6 ?_
  refine U_ 9 [0,1,3,4,6,7,9,10,12,13,15,16,19] zk zs (Zz 14 ?_)
  refine u_ 2 rfl zk (i_ (fy_ _ (Ax.left x) (Nat.le_refl _) hok.left (G.left (by omega))) rfl f_ (fun v _ h=>by exact⟨h.1.1,trivial⟩) rfl fun⟨⟨sl9,HL9⟩,hl9⟩=>?_)
  dsimp only
  refine aQ_ hl9 aY_ fun al9 cl9 hsl9 hca9 hcb9 hcc9=>?_
  subst hsl9
  refine Zz 3 ?_
  refine u_ 5 rfl zk (i_ (fN_ _ (Ax.right x) (Nat.le_refl _) hok.right (G.right (by omega))) rfl f_ (fun v _ h=>by exact⟨h.2.1.2.1,trivial⟩) rfl fun⟨⟨sl10,HL10⟩,hl10⟩=>?_)
  dsimp only
  refine aQ_ hl10 aY_ fun al10 cl10 hsl10 hca10 hcb10 hcc10=>?_
  subst hsl10
  refine Zz 3 ?_
  refine u_ 8 rfl zk (i_ (lm_ (Con.nameR (Ax.left x)) (Con.nameR (Ax.right x))) rfl f_ zt rfl fun bs2=>Zz 3 ?_)
  refine u_ 11 rfl zk (i_ (fy_ _ (Ax.right x) (Nat.le_refl _) hok.right (G.right (by omega))) rfl f_ (fun v _ h=>by exact⟨h.2.2.2.1.2.1,trivial⟩) rfl fun⟨⟨sl11,HL11⟩,hl11⟩=>?_)
  dsimp only
  refine aQ_ hl11 aY_ fun al11 cl11 hsl11 hca11 hcb11 hcc11=>?_
  subst hsl11
  refine Zz 3 ?_
  refine u_ 14 rfl zk (i_ (fN_ _ (Ax.left x) (Nat.le_refl _) hok.left (G.left (by omega))) rfl f_ (fun v _ h=>by exact⟨h.2.2.2.2.1.1,trivial⟩) rfl fun⟨⟨sl12,HL12⟩,hl12⟩=>?_)
  dsimp only
  refine aQ_ hl12 aY_ fun al12 cl12 hsl12 hca12 hcb12 hcc12=>?_
  subst hsl12
  refine Zz 3 ?_
  refine u_ 17 rfl zk (i_ (lm_ (Con.nameR (Ax.right x)) (Con.nameR (Ax.left x))) rfl f_ zt rfl fun bs3=>Zz 3 ?_)
  refine u_ 18 rfl zk (I_ at_ bd_ ce_ rfl rfl rfl rfl rfl rfl fun b20=>?_)
  refine ak_ (List.flatMap Pw.cells [(Pw.mk (Con.rleft (Ax.left x)) al9 cl9),(Pw.mk (Con.rright (Ax.right x)) al10 cl10),(Pw.mk [(Pc.mk 1 (Con.nameR (Ax.left x)) [] (Con.nameR (Ax.right x)) [] [] [] 0 0 0)] (some ⟨bs2,0,none⟩) 1),(Pw.mk (Con.rleft (Ax.right x)) al11 cl11),(Pw.mk (Con.rright (Ax.left x)) al12 cl12),(Pw.mk [(Pc.mk 1 (Con.nameR (Ax.right x)) [] (Con.nameR (Ax.left x)) [] [] [] 0 0 0)] (some ⟨bs3,0,none⟩) 1)]) t_ rfl ?_
  refine Zz 3 ?_
  refine u_ 20 rfl zk (i_ (db_ [(Pw.mk (Con.rleft (Ax.left x)) al9 cl9),(Pw.mk (Con.rright (Ax.right x)) al10 cl10),(Pw.mk [(Pc.mk 1 (Con.nameR (Ax.left x)) [] (Con.nameR (Ax.right x)) [] [] [] 0 0 0)] (some ⟨bs2,0,none⟩) 1),(Pw.mk (Con.rleft (Ax.right x)) al11 cl11),(Pw.mk (Con.rright (Ax.left x)) al12 cl12),(Pw.mk [(Pc.mk 1 (Con.nameR (Ax.right x)) [] (Con.nameR (Ax.left x)) [] [] [] 0 0 0)] (some ⟨bs3,0,none⟩) 1)] (some ⟨b20,0,none⟩) 6 frm (by simp) (by simp only[List.flatMap_cons,List.flatMap_nil,List.length_append,List.length_cons,List.length_nil,Ax.chainL_len,List.length_drop];omega) (J:=x.pieces frm) (by rw[Ax.pieces_ins];congr 1;unfold Ax.rpieces;simp[*])) rfl f_ (fun v _ h=>by exact⟨h.1,(bE_ h.2.2.2.2.2.2.1 (bE_ h.2.2.2.2.2.1 (bE_ h.2.2.2.2.1 (bE_ h.2.2.2.1 (bE_ h.2.2.1 (bE_ h.2.1 eg_)))))),trivial⟩) rfl fun⟨⟨aj,cj⟩,hcj⟩=>?_)
  dsimp only
  refine Zz 3 ?_
  refine U_ 0 [21] zk zs (Zz 5 ?_)
  exact G_ cP_ ⟨(aj,cj),hcj⟩ rfl f_ zf
 have hnl:=Con.nameR_eq (G.left (by omega))
 have hnr:=Con.nameR_eq (G.right (by omega))
 refine Zz 6 ?_
 refine U_ 6 [0,1,3,4,6,7,10] zk zs (Zz 8 ?_)
 refine u_ 2 rfl zk (i_ (fy_ _ (Ax.left x) (Nat.le_refl _) hok.left (G.left (by omega))) rfl f_ (fun v _ h=>by exact⟨h.1.1,trivial⟩) rfl fun⟨⟨sl13,HL13⟩,hl13⟩=>?_)
 dsimp only
 refine aQ_ hl13 aY_ fun al13 cl13 hsl13 hca13 hcb13 hcc13=>?_
 subst hsl13
 refine Zz 3 ?_
 refine u_ 5 rfl zk (i_ (fN_ _ (Ax.right x) (Nat.le_refl _) hok.right (G.right (by omega))) rfl f_ (fun v _ h=>by exact⟨h.2.1.2.1,trivial⟩) rfl fun⟨⟨sl14,HL14⟩,hl14⟩=>?_)
 dsimp only
 refine aQ_ hl14 aY_ fun al14 cl14 hsl14 hca14 hcb14 hcc14=>?_
 subst hsl14
 refine Zz 3 ?_
 refine u_ 8 rfl zk (i_ (lm_ (Con.nameR (Ax.left x)) (Con.nameR (Ax.right x))) rfl f_ zt rfl fun bs4=>Zz 3 ?_)
 refine u_ 9 rfl zk (I_ at_ bd_ ce_ rfl rfl rfl rfl rfl rfl fun b21=>?_)
 refine ak_ (List.flatMap Pw.cells [(Pw.mk (Con.rleft (Ax.left x)) al13 cl13),(Pw.mk (Con.rright (Ax.right x)) al14 cl14),(Pw.mk [(Pc.mk 1 (Con.nameR (Ax.left x)) [] (Con.nameR (Ax.right x)) [] [] [] 0 0 0)] (some ⟨bs4,0,none⟩) 1)]) t_ rfl ?_
 refine Zz 3 ?_
 refine u_ 11 rfl zk (i_ (db_ [(Pw.mk (Con.rleft (Ax.left x)) al13 cl13),(Pw.mk (Con.rright (Ax.right x)) al14 cl14),(Pw.mk [(Pc.mk 1 (Con.nameR (Ax.left x)) [] (Con.nameR (Ax.right x)) [] [] [] 0 0 0)] (some ⟨bs4,0,none⟩) 1)] (some ⟨b21,0,none⟩) 3 frm (by simp) (by simp only[List.flatMap_cons,List.flatMap_nil,List.length_append,List.length_cons,List.length_nil,Ax.chainL_len,List.length_drop];omega) (J:=x.pieces frm) (by rw[Ax.pieces_ins];congr 1;unfold Ax.rpieces;simp[*])) rfl f_ (fun v _ h=>by exact⟨h.1,(bE_ h.2.2.2.1 (bE_ h.2.2.1 (bE_ h.2.1 eg_))),trivial⟩) rfl fun⟨⟨aj,cj⟩,hcj⟩=>?_)
 dsimp only
 refine Zz 3 ?_
 refine U_ 0 [12] zk zs (Zz 5 ?_)
 exact G_ cP_ ⟨(aj,cj),hcj⟩ rfl f_ zf
end Go.Proofs.YtamklbgaipakfaaGreatDoor
namespace Go.Sx
open Go
section
variable {P:Program} {N:Nf} {v0:Vw} {H0:Hp} {R:Exit→Act→World→Prop} {K:List Kt} {fr:Fr} {H F:Hp} {Γ:List Fct} {ops:Array Oper} {l:List Oper} {ty:TypeId} {ps:String} {af:Array Edge} {e:TypeId} {sz n:Nat} {sv:Value} {xs:List Value} {Hr:Hp}
theorem ql_ {α:Type} (l:List α) (k m:Nat) (u:α) (hk:k<m) (hm:m≤l.length):(l.take k++[u]++l.drop (k+1)).take m=(l.take m).set k u:=by
 apply List.ext_getElem?
 intro j
 rw[List.getElem?_take,List.getElem?_set,List.length_take]
 by_cases hj:j<m
 ·rw[if_pos hj]
  by_cases h1:j<k
  ·rw[if_neg (by omega),List.append_assoc,List.getElem?_append_left (by rw[List.length_take];omega),List.getElem?_take,if_pos h1,List.getElem?_take,if_pos hj]
  by_cases h2:j=k
  ·subst h2
   rw[if_pos rfl,if_pos (by omega),List.append_assoc,List.getElem?_append_right (by rw[List.length_take];omega),List.length_take,Nat.min_eq_left (by omega),Nat.sub_self];rfl
  rw[if_neg (by omega),List.getElem?_append_right (by rw[List.length_append,List.length_take,List.length_singleton];omega),List.length_append,List.length_take,List.length_singleton,List.getElem?_drop,List.getElem?_take,if_pos hj,Nat.min_eq_left (by omega)]
  congr 1;omega
 rw[if_neg hj,if_neg (by omega),List.getElem?_take,if_neg hj]
theorem px_ {t:TypeId} {x y:Operand} {k:Nat} {u:Value} (hrow:aG_ e sz sv n xs Hr) (hH:H.Perm (Hr++F)) (hs:∀ w,(sizeOf t).run P w=.ok 1 w) (hx:Fr.ev fr x=some (.pointer (some ⟨svB sv,k,none⟩))) (hy:Fr.ev fr y=some u) (hk:k<n*sz) (hu:u.cells=#[u]) (hu1:u.oneCell'=true)
    (h:∀ Hr',aG_ e sz sv n (xs.set k u) Hr'→Ops P R N v0 H0 ops l K fr (Hr'++F) Γ):Ops P R N v0 H0 ops (⟨none,.store t x y,ty,ps,af,none⟩::l) K fr H Γ:=by
  rcases hrow.2 with⟨_,h2,_⟩|⟨g,cap,cur,rfl,rfl,h3,h4,h5,h6⟩
  · subst h2;simp at hk
  · have hle:n*sz≤cap*sz:=Nat.mul_le_mul_right _ h3
    refine W_ hH (aa_ (b:=g) (off:=k) 0 hs hx hy rfl (by rw[hu];rfl) ?_ (by rw[hu];simp[hu1]) ?_)
    · have hb:k+1≤cur.size:=by rw[h5];omega
      simpa using hb
    · rw[hu]
      refine h [(g,.cells (cur.toList.take k++[u]++cur.toList.drop (k+1)).toArray e (0,0))] ⟨by rw[List.length_set];exact hrow.1,.inr ⟨g,cap,_,rfl,rfl,h3,h4,?_,?_⟩⟩
      · simp only[List.size_toArray,List.length_append,List.length_take,List.length_drop,List.length_singleton,Array.length_toList,h5];omega
      · show ((cur.toList.take k++[u]++cur.toList.drop (k+1)).toArray).toList.take (n*sz)=_
        rw[List.toList_toArray,ql_ _ _ _ _ hk (by rw[Array.length_toList,h5];exact hle),h6]
theorem rg_ {α:Type} (f:α→List Value) (z:Nat) (hf:∀ x,(f x).length=z):∀ (l:List α) (i j:Nat) (x y:α) (u:Value),l[i]? = some x→j<z→f y=(f x).set j u→(l.flatMap f).set (i*z+j) u=(l.set i y).flatMap f
  | [],i,_,_,_,_,h,_,_=>by simp at h
  | a::l,0,j,x,y,u,h,hj,he=>by
    simp only[List.getElem?_cons_zero,Option.some.injEq]at h
    subst h
    rw[List.flatMap_cons,List.set_cons_zero,List.flatMap_cons,he,Nat.zero_mul,Nat.zero_add,List.set_append_left _ _ (by rw[hf];exact hj)]
  | a::l,i+1,j,x,y,u,h,hj,he=>by
    simp only[List.getElem?_cons_succ]at h
    rw[List.flatMap_cons,List.set_cons_succ,List.flatMap_cons,← rg_ f z hf l i j x y u h hj he,List.set_append_right _ _ (by rw[hf,Nat.succ_mul];omega),hf]
    congr 2
    rw[Nat.succ_mul];omega
end
end Go.Sx
namespace Go.Sx
open Go
section
variable {P:Program} {N:Nf} {v0:Vw} {H0:Hp} {R:Exit→Act→World→Prop} {K:List Kt} {fr:Fr} {H F:Hp} {Γ:List Fct} {ops:Array Oper} {l:List Oper} {d:Nat} {ty:TypeId} {ps:String} {af:Array Edge} {e:TypeId} {sz n:Nat} {sv:Value} {xs:List Value} {Hr:Hp}
inductive ORow (e:TypeId) (sz:Nat):Value→Nat→List Value→Hp→Prop
  | row {sv:Value} {n:Nat} {xs:List Value} {Hr:Hp} (h:aG_ e sz sv n xs Hr):ORow e sz sv n xs Hr
  | cut {g k n cap:Nat} {pre xs:List Value} {Hr:Hp} (hp:pre.length=k*sz) (h:aG_ e sz (.slice (some ⟨g,0,none⟩) (k+n) (k+cap)) (k+n) (pre++xs) Hr):ORow e sz (.slice (some ⟨g,k*sz,none⟩) n cap) n xs Hr
  | out {g k:Nat} {Hr:Hp}:ORow e sz (.slice (some ⟨g,k*sz,none⟩) 0 0) 0 [] Hr
theorem ORow.len (h:ORow e sz sv n xs Hr):xs.length=n*sz:=by
  cases h with
  | row h=>exact h.1
  | cut hp h=>have:=h.1;rw[List.length_append,hp,Nat.add_mul]at this;omega
  | out=>simp
theorem ORow.form (h:ORow e sz sv n xs Hr):∃ ad cap,sv=.slice ad n cap∧n≤cap∧(ad=none→cap=0):=by
 cases h with
 | row h =>
   rcases h.2 with⟨rfl,rfl,_⟩|⟨g,cap,cur,rfl,_,h3,_⟩
   · exact⟨_,_,rfl,Nat.le_refl _,fun _=>rfl⟩
   · exact⟨_,_,rfl,h3,fun q=>by cases q⟩
 | cut hp h =>
   rcases h.2 with⟨h1,_⟩|⟨g,cap,cur,h1,_,h3,_⟩
   · cases h1
   · simp only[Value.slice.injEq]at h1;obtain⟨_,_,rfl⟩:=h1;exact⟨_,_,rfl,by omega,fun q=>by cases q⟩
 | out=>exact⟨_,_,rfl,Nat.le_refl _,fun q=>by cases q⟩
end
end Go.Sx
namespace Go.Vs
open Go Go.Sx
def dz_ (a b:Str):Fc:=⟨1,a,b,[],0,0⟩
def dt_ (a r b:Str):Fc:=⟨2,a,b,r,0,0⟩
def eA_ (a r:Str) (lo hi:Int):Fc:=⟨3,a,[],r,lo,hi⟩
inductive One (p:List Pc) (A:List Str) (S:Fc→Prop) (M:Fc→Fc→Prop):Fc→Prop
  | r1 {a:Str} (h:a∈A):One p A S M (dz_ a a)
  | r2 {a:Str} (h:a∈A):One p A S M (dz_ a [42])
  | r10 {a:Str} {x:Pc} (hx:x∈p) (hk:x.kind=7) (h:a∈A):One p A S M (dt_ a x.r a)
  | r3 {a:Str} {x:Pc} (hx:x∈p) (hk:x.kind=1) (h:S (dz_ a x.a)):One p A S M (dz_ a x.c)
  | r4 {a:Str} {x:Pc} (hx:x∈p) (hk:x.kind=2) (h:S (dz_ a x.a)) (h':S (dz_ a x.b)):One p A S M (dz_ a x.c)
  | r5 {a:Str} {x:Pc} (hx:x∈p) (hk:x.kind=3) (h:S (dz_ a x.a)):One p A S M (dt_ a x.r x.c)
  | r6 {a b:Str} {x:Pc} (hx:x∈p) (hk:x.kind=5) (h:S (dt_ a x.r b)):One p A S M (dt_ a x.t b)
  | r7 {a b c:Str} {x:Pc} (hx:x∈p) (hk:x.kind=6) (h:S (dt_ a x.r b)) (h':S (dt_ b x.s c)):One p A S M (dt_ a x.t c)
  | r8 {a b:Str} {x:Pc} (hx:x∈p) (hk:x.kind=4) (h:S (dt_ a x.r b)) (h':S (dz_ b x.a)):One p A S M (dz_ a x.c)
  | r9 {a r b:Str} (h:S (dt_ a r b)) (h':S (dz_ b [33])):One p A S M (dz_ a [33])
  | r11 {a:Str} {x:Pc} (hx:x∈p) (hk:x.kind=8) (h:S (dz_ a x.a)):One p A S M (eA_ a x.r x.lo x.hi)
  | r12 {a r:Str} {lo hi lo' hi':Int} (h:S (eA_ a r lo hi)) (h':S (eA_ a r lo' hi')) (hm:M (eA_ a r lo hi) (eA_ a r lo' hi')) (hl:max lo lo'≤min hi hi'):One p A S M (eA_ a r (max lo lo') (min hi hi'))
  | r13 {a r:Str} {lo hi lo' hi':Int} (h:S (eA_ a r lo hi)) (h':S (eA_ a r lo' hi')) (hm:M (eA_ a r lo hi) (eA_ a r lo' hi')) (hl:min hi hi'<max lo lo'):One p A S M (dz_ a [33])
  | r14 {a:Str} {lo hi:Int} {x:Pc} (hx:x∈p) (hk:x.kind=9) (h:S (eA_ a x.r lo hi)) (h1:x.lo≤lo) (h2:hi≤x.hi):One p A S M (dz_ a x.c)
abbrev One' (p:List Pc) (A:List Str) (S:Fc→Prop):Fc→Prop:=One p A S (fun _ _=>True)
theorem One.mono {p p':List Pc} {A A':List Str} {S S':Fc→Prop} {M M':Fc→Fc→Prop} (hp:∀ x∈p,∃ y∈p',∃ n,{ y with frm:=n }=x) (hA:∀ a∈A,a∈A') (hS:∀ y,S y→S' y) (hM:∀ x y,M x y→M' x y) {y:Fc} (h:One p A S M y):One p' A' S' M' y:=by
  cases h with
  | r1 h=>exact .r1 (hA _ h)
  | r2 h=>exact .r2 (hA _ h)
  | r10 hx hk h=>obtain⟨z,hz,n,rfl⟩:=hp _ hx;exact One.r10 (x:=z) hz hk (hA _ h)
  | r3 hx hk h=>obtain⟨z,hz,n,rfl⟩:=hp _ hx;exact One.r3 (x:=z) hz hk (hS _ h)
  | r4 hx hk h h'=>obtain⟨z,hz,n,rfl⟩:=hp _ hx;exact One.r4 (x:=z) hz hk (hS _ h) (hS _ h')
  | r5 hx hk h=>obtain⟨z,hz,n,rfl⟩:=hp _ hx;exact One.r5 (x:=z) hz hk (hS _ h)
  | r6 hx hk h=>obtain⟨z,hz,n,rfl⟩:=hp _ hx;exact One.r6 (x:=z) hz hk (hS _ h)
  | r7 hx hk h h'=>obtain⟨z,hz,n,rfl⟩:=hp _ hx;exact One.r7 (x:=z) hz hk (hS _ h) (hS _ h')
  | r8 hx hk h h'=>obtain⟨z,hz,n,rfl⟩:=hp _ hx;exact One.r8 (x:=z) hz hk (hS _ h) (hS _ h')
  | r9 h h'=>exact .r9 (hS _ h) (hS _ h')
  | r11 hx hk h=>obtain⟨z,hz,n,rfl⟩:=hp _ hx;exact One.r11 (x:=z) hz hk (hS _ h)
  | r12 h h' hm hl=>exact .r12 (hS _ h) (hS _ h') (hM _ _ hm) hl
  | r13 h h' hm hl=>exact .r13 (hS _ h) (hS _ h') (hM _ _ hm) hl
  | r14 hx hk h h1 h2=>obtain⟨z,hz,n,rfl⟩:=hp _ hx;exact One.r14 (x:=z) hz hk (hS _ h) h1 h2
def Der (p:List Pc) (A:List Str) (y:Fc):Prop:=∀ T:Fc→Prop,(∀ y,One' p A T y→T y)→T y
theorem Der.step {p:List Pc} {A:List Str} {y:Fc} (h:One' p A (Der p A) y):Der p A y :=
  fun T hT=>hT y (h.mono (fun x hx=>⟨x,hx,x.frm,rfl⟩) (fun _ h=>h) (fun z hz=>hz T hT) (fun _ _ h=>h))
theorem Der.mono {p p':List Pc} {A A':List Str} (hp:∀ x∈p,∃ y∈p',∃ n,{ y with frm:=n }=x) (hA:∀ a∈A,a∈A') {y:Fc} (h:Der p A y):Der p' A' y :=
  h _ fun _ hz=>Der.step (hz.mono hp hA (fun _ h=>h) (fun _ _ h=>h))
theorem Der.least {p:List Pc} {A:List Str} {T:Fc→Prop} (hT:∀ y,One' p A T y→T y) {y:Fc} (h:Der p A y):T y:=h T hT
structure Ky where
  kind:Int
  role:Str
  atom:Str
deriving DecidableEq
abbrev sE_:=Str×Str
def lat {K D:Type} [DecidableEq K] (l:List (K×D)) (k:K):List D:=(l.filter fun e=>decide (e.1=k)).map (·.2)
theorem lv_ {K D:Type} [DecidableEq K] {l:List (K×D)} {k:K} {d:D}:d∈lat l k↔(k,d)∈l:=by
  unfold lat
  simp only[List.mem_map,List.mem_filter,decide_eq_true_eq]
  exact⟨fun⟨⟨a,b⟩,⟨h1,h2⟩,h3⟩=>by subst h2;subst h3;exact h1,fun h=>⟨(k,d),⟨h,rfl⟩,rfl⟩⟩
theorem hC_ {K D:Type} [DecidableEq K] (l m:List (K×D)) (k:K):lat (l++m) k=lat l k++lat m k:=by simp[lat]
theorem oO_ {K D:Type} [DecidableEq K] (l:List (K×D)) (k:K):(lat l k).length≤l.length:=by
  simp only[lat,List.length_map];exact List.length_filter_le _ _
def putL (x:Pc):List (Ky×Pc) :=
  if x.kind=1∨x.kind=3∨x.kind=8 then [(⟨x.kind,[],x.a⟩,x)]
  else if x.kind=2 then if x.b≠x.a then [(⟨x.kind,[],x.a⟩,x),(⟨x.kind,[],x.b⟩,x)] else [(⟨x.kind,[],x.a⟩,x)]
  else if x.kind=4 then [(⟨x.kind,[],x.a⟩,x),(⟨x.kind,x.r,x.a⟩,x)]
  else if x.kind=5∨x.kind=9 then [(⟨x.kind,x.r,[]⟩,x)]
  else if x.kind=6 then [(⟨x.kind,x.r,[]⟩,x),(⟨x.kind,[],x.s⟩,x)]
  else []
def Pc.zf (x:Pc):Pc:={ x with frm:=0 }
def uniq:List Pc→List Pc→List Pc
  | l,[]=>l
  | l,x::r=>uniq (if x.zf∈l then l else l++[x.zf]) r
def pmOf (ps:List Pc):List (Ky×Pc):=ps.flatMap putL
def sg_ (ps:List Pc):List Str:=(ps.filter fun x=>decide (x.kind=7)).map (·.r)
def Pc.rok (x:Pc):Prop:=(x.kind=4∨x.kind=5∨x.kind=6∨x.kind=9∨x.kind=3∨x.kind=7∨x.kind=8→x.r≠[])∧(x.kind=6→x.s≠[]∧x.t≠[])∧(x.kind=5→x.t≠[])
structure Ix where
  above:List (Str×Str)
  under:List (Str×Str)
  frm:List (sE_×Str)
  into:List (sE_×Str)
  ranges:List (sE_×Fc)
  firms:List (sE_×Fc)
def Ix.nil:Ix:=⟨[],[],[],[],[],[]⟩
def Ix.add (x:Ix) (firm:Bool) (f:Fc):Ix :=
  if f.kind=1 then { x with above:=x.above++[(f.a,f.b)] }
  else if f.kind=2 then { x with under:=x.under++[(f.b,f.a)],frm:=x.frm++[((f.a,f.r),f.b)],into:=x.into++[((f.b,f.r),f.a)] }
  else if f.kind=3 then { x with ranges:=x.ranges++[((f.a,f.r),f)],firms:=if firm then x.firms++[((f.a,f.r),f)] else x.firms }
  else x
section
variable (pm:List (Ky×Pc)) (x:Ix) (f:Fc)
def sL_ (y:Fc):Fc:=eA_ f.a f.r (max f.lo y.lo) (min f.hi y.hi)
end
section
variable (stp:Fc→List Fc→List Fc) (kof:List Fc→List Fc)
end
structure Grows (stp:Fc→List Fc→List Fc) (kof:List Fc→List Fc):Prop where
  up:∀ y s z,z∈kof s→z∈kof (stp y s)
def Fc.form (y:Fc):Prop:=(∃ a b,y=dz_ a b)∨(∃ a r b,y=dt_ a r b∧r≠[])∨(∃ a r lo hi,y=eA_ a r lo hi∧r≠[]∧-1099511627776≤lo∧lo≤hi∧hi≤1099511627776)
structure Pc.vok (x:Pc):Prop where
  rok:x.rok
  num:x.kind=8∨x.kind=9→-1099511627776≤x.lo∧x.lo≤x.hi∧x.hi≤1099511627776
theorem en_ (a b:Str):(dz_ a b).form:=.inl ⟨a,b,rfl⟩
theorem form2 {f:Fc} (h:f.form) (hk:f.kind=2):f=dt_ f.a f.r f.b∧f.r≠[]:=by
 rcases h with⟨a,b,rfl⟩|⟨a,r,b,rfl,h⟩|⟨a,r,lo,hi,rfl,_⟩
 ·simp[dz_]at hk
 ·exact⟨rfl,h⟩
 simp[eA_]at hk
theorem form3 {f:Fc} (h:f.form) (hk:f.kind=3):f=eA_ f.a f.r f.lo f.hi∧f.r≠[]∧-1099511627776≤f.lo∧f.lo≤f.hi∧f.hi≤1099511627776:=by
 rcases h with⟨a,b,rfl⟩|⟨a,r,b,rfl,_⟩|⟨a,r,lo,hi,rfl,h⟩
 ·simp[dz_]at hk
 ·simp[dt_]at hk
 exact⟨rfl,h⟩
theorem One.form {p:List Pc} {A:List Str} {S:Fc→Prop} {M:Fc→Fc→Prop} (hp:∀ x∈p,x.vok) (hS:∀ y,S y→y.form) {y:Fc} (h:One p A S M y):y.form:=by
  have link_r:∀ {a r b:Str},S (dt_ a r b)→r≠[]:=fun h=>(form2 (hS _ h) rfl).2
  have span_r:∀ {a r:Str} {lo hi:Int},S (eA_ a r lo hi)→r≠[]∧-1099511627776≤lo∧lo≤hi∧hi≤1099511627776:=fun h=>(form3 (hS _ h) rfl).2
  cases h with
  | r1 _=>exact en_ _ _
  | r2 _=>exact en_ _ _
  | r10 hx hk _=>exact .inr (.inl ⟨_,_,_,rfl,(hp _ hx).rok.1 (by simp[hk])⟩)
  | r3 _ _ _=>exact en_ _ _
  | r4 _ _ _ _=>exact en_ _ _
  | r5 hx hk _=>exact .inr (.inl ⟨_,_,_,rfl,(hp _ hx).rok.1 (by simp[hk])⟩)
  | r6 hx hk _=>exact .inr (.inl ⟨_,_,_,rfl,(hp _ hx).rok.2.2 hk⟩)
  | r7 hx hk _ _=>exact .inr (.inl ⟨_,_,_,rfl,((hp _ hx).rok.2.1 hk).2⟩)
  | r8 _ _ _ _=>exact en_ _ _
  | r9 _ _=>exact en_ _ _
  | r11 hx hk _=>exact .inr (.inr ⟨_,_,_,_,rfl,(hp _ hx).rok.1 (by simp[hk]),(hp _ hx).num (.inl hk)⟩)
  | r12 h h' _ hl=>exact .inr (.inr ⟨_,_,_,_,rfl,(span_r h).1,by have:=span_r h;omega,hl,by have:=span_r h;omega⟩)
  | r13 _ _ _ _=>exact en_ _ _
  | r14 _ _ _ _ _=>exact en_ _ _
section
variable {ps:List Pc} {A:List Str} {x:Ix} {S Fm:Fc→Prop} {f:Fc} {kn:List Fc}
end
section
variable (stp:Fc→List Fc→List Fc) (kof:List Fc→List Fc) (pm:List (Ky×Pc)) (x:Ix) (f:Fc)
end
structure Cmpl (ps:List Pc) (S Fm kn good:Fc→Prop) (f:Fc):Prop where
  c3:∀ z a,z∈ps→z.kind=1→f=dz_ a z.a→good (dz_ a z.c)
  c4:∀ z a,z∈ps→z.kind=2→f=dz_ a z.a→kn (dz_ a z.b)→good (dz_ a z.c)
  c4':∀ z a,z∈ps→z.kind=2→f=dz_ a z.b→kn (dz_ a z.a)→good (dz_ a z.c)
  c5:∀ z a,z∈ps→z.kind=3→f=dz_ a z.a→good (dt_ a z.r z.c)
  c6:∀ z a b,z∈ps→z.kind=5→f=dt_ a z.r b→good (dt_ a z.t b)
  c7:∀ z a b c,z∈ps→z.kind=6→f=dt_ a z.r b→S (dt_ b z.s c)→good (dt_ a z.t c)
  c7':∀ z a b c,z∈ps→z.kind=6→f=dt_ b z.s c→S (dt_ a z.r b)→good (dt_ a z.t c)
  c8:∀ z a b,z∈ps→z.kind=4→f=dt_ a z.r b→S (dz_ b z.a)→good (dz_ a z.c)
  c8':∀ z a b,z∈ps→z.kind=4→f=dz_ b z.a→S (dt_ a z.r b)→good (dz_ a z.c)
  c9:∀ a r b,f=dt_ a r b→kn (dz_ b [33])→good (dz_ a [33])
  c9':∀ a r b,f=dz_ b [33]→S (dt_ a r b)→good (dz_ a [33])
  c11:∀ z a,z∈ps→z.kind=8→f=dz_ a z.a→good (eA_ a z.r z.lo z.hi)
  c12:∀ y,f.kind=3→S y→y.kind=3→y.a=f.a→y.r=f.r→(Fm f∨Fm y)→max f.lo y.lo≤min f.hi y.hi→good (sL_ f y)
  c13:∀ y,f.kind=3→S y→y.kind=3→y.a=f.a→y.r=f.r→(Fm f∨Fm y)→min f.hi y.hi<max f.lo y.lo→good (dz_ f.a [33])
  c14:∀ z a lo hi,z∈ps→z.kind=9→f=eA_ a z.r lo hi→z.lo≤lo→hi≤z.hi→good (dz_ a z.c)
section
variable {stp:Fc→List Fc→List Fc} {kof:List Fc→List Fc} {ps:List Pc} {A:List Str} {x:Ix} {S Fm:Fc→Prop} {f:Fc}
end
end Go.Vs
