/-
  Part of the proof of the law ModuleReach over this seat: the small logic, the data, the contracts of functions (no condition).
-/
import Derived.Test.YtamklbgaipakfaaGreatDoorQModuleReach4
import Derived.Test.YtamklbgaipakfaaGreatDoorQModuleReach2
set_option linter.unusedVariables false
set_option linter.unusedSimpArgs false
set_option linter.unusedSectionVars false
set_option maxHeartbeats 1000000
namespace Go.Proofs.YtamklbgaipakfaaGreatDoor
open Go Go.Sx Go.Proofs
attribute [local irreducible] Code.wp wpList wpAnyH
open Go.Vs
theorem kQ_ (c:Con):Fn0 Tryz.prog 202 #[c.val] (.bool c.empty):=by
 obtain⟨k,nm,lo,hi,ad,cap,ps⟩:=c
 refine o_ Tryz.func202 rfl rfl Tryz.ntmps202 rfl fun v0=>?_
 refine Zz 2 ?_
 refine ah_ rfl rfl fun b1=>Zz 7 ?_
 refine s_ (V_ rfl rfl) rfl fun r1 hr1=>Zz 1 ?_
 refine as_ 4 ((k==0)&&(nm==[])) (fun r=>[(0,.agg #[.int .i64 k,str nm,.int .i64 lo,.int .i64 hi,.slice ad ps.length cap]),(1,zp_ b1 0),(2,.bool false),(10,.bool r)]) ?_ fun r2 hr2=>?_
 ·cases r1
  ·have qr2:=hr1
   replace hr1:=znb hr1
   try dsimp only[Con.kind,Con.parts,Con.name,Con.lo,Con.hi,Con.cap,Con.ad]at hr1
   refine Zz 6 ?_
   exact met ⟨rfl,rfl,rfl,(l_ rfl (jaf qr2)),trivial⟩
  have qr2:=hr1
  replace hr1:=zeb hr1
  try dsimp only[Con.kind,Con.parts,Con.name,Con.lo,Con.hi,Con.cap,Con.ad]at hr1
  refine Zz 5 ?_
  refine s_ (dK_ rfl rfl) rfl fun r3 hr3=>Zz 3 ?_
  exact met ⟨rfl,rfl,rfl,(l_ rfl (jat qr2 hr3)),trivial⟩
 refine Zz 1 ?_
 refine as_ 4 ((((k==0)&&(nm==[])))&&(lo==0)) (fun r=>[(0,.agg #[.int .i64 k,str nm,.int .i64 lo,.int .i64 hi,.slice ad ps.length cap]),(1,zp_ b1 0),(2,.bool false),(15,.bool r)]) ?_ fun r4 hr4=>?_
 ·cases r2
  ·have qr4:=hr2
   simp at hr2
   try dsimp only[Con.kind,Con.parts,Con.name,Con.lo,Con.hi,Con.cap,Con.ad]at hr2
   refine Zz 6 ?_
   exact met ⟨rfl,rfl,rfl,(l_ rfl (jaf qr4)),trivial⟩
  have qr4:=hr2
  simp at hr2
  try dsimp only[Con.kind,Con.parts,Con.name,Con.lo,Con.hi,Con.cap,Con.ad]at hr2
  refine Zz 5 ?_
  refine s_ (V_ rfl rfl) rfl fun r5 hr5=>Zz 3 ?_
  exact met ⟨rfl,rfl,rfl,(l_ rfl (jat qr4 hr5)),trivial⟩
 refine Zz 1 ?_
 refine as_ 4 ((((((k==0)&&(nm==[])))&&(lo==0)))&&(hi==0)) (fun r=>[(0,.agg #[.int .i64 k,str nm,.int .i64 lo,.int .i64 hi,.slice ad ps.length cap]),(1,zp_ b1 0),(2,.bool false),(20,.bool r)]) ?_ fun r6 hr6=>?_
 ·cases r4
  ·have qr6:=hr4
   simp at hr4
   try dsimp only[Con.kind,Con.parts,Con.name,Con.lo,Con.hi,Con.cap,Con.ad]at hr4
   refine Zz 6 ?_
   exact met ⟨rfl,rfl,rfl,(l_ rfl (jaf qr6)),trivial⟩
  have qr6:=hr4
  simp at hr4
  try dsimp only[Con.kind,Con.parts,Con.name,Con.lo,Con.hi,Con.cap,Con.ad]at hr4
  refine Zz 5 ?_
  refine s_ (V_ rfl rfl) rfl fun r7 hr7=>Zz 3 ?_
  exact met ⟨rfl,rfl,rfl,(l_ rfl (jat qr6 hr7)),trivial⟩
 refine Zz 1 ?_
 refine as_ 5 ((((((((k==0)&&(nm==[])))&&(lo==0)))&&(hi==0)))&&((ps.length:Int)==0)) (fun r=>[(0,.agg #[.int .i64 k,str nm,.int .i64 lo,.int .i64 hi,.slice ad ps.length cap]),(2,.bool false),(26,.bool r)]) ?_ fun r8 hr8=>?_
 ·cases r6
  ·have qr8:=hr6
   simp at hr6
   try dsimp only[Con.kind,Con.parts,Con.name,Con.lo,Con.hi,Con.cap,Con.ad]at hr6
   refine Zz 7 ?_
   exact met ⟨rfl,rfl,(l_ rfl (jaf qr8)),trivial⟩
  have qr8:=hr6
  simp at hr6
  try dsimp only[Con.kind,Con.parts,Con.name,Con.lo,Con.hi,Con.cap,Con.ad]at hr6
  refine Zz 7 ?_
  refine s_ (V_ rfl rfl) rfl fun r9 hr9=>Zz 3 ?_
  exact met ⟨rfl,rfl,(l_ rfl (jat qr8 hr9)),trivial⟩
 refine Zz 4 ?_
 exact G_ Tryz.results202 () (l_ rfl hr8.symm) (.refl _) zt
theorem lE_ {g:FuncId} {pred:Con→Bool} (c:Con) (hok:c.ok) (hT:∀ p∈c.parts,Tri Tryz.prog g #[p.val] [] [p.memF] (fun _:Unit=>.bool (pred p)) (fun _=>[]) (fun _=>[])) :
    Tri Tryz.prog 253 #[.slice c.ad c.parts.length c.cap,.func (.func g) #[] #[]] [] [c.memF] (fun r:{r:Int // decide (0≤r)=c.parts.any pred}=>.int .i64 r.1) (fun _=>[]) (fun _=>[]):=by
  obtain⟨k,nm,lo,hi,ad,cap,ps⟩:=c
  have hlen:=Con.ok_len hok
  simp only[Con.parts,Con.cap]at hlen
  refine o_ Tryz.func253 rfl rfl Tryz.ntmps253 rfl fun v0=>?_
  refine m_ ?_
  refine d_ ?_
  refine c_ (n_ rfl) rfl ?_
  refine j_ ?_
  refine e_ rfl ?_
  refine m_ ?_
  refine m_ ?_
  refine d_ ?_
  refine c_ (q_ rfl) rfl ?_
  refine c_ (bM_ B_ rfl) rfl ?_
  refine c_ (q_ rfl) rfl ?_
  refine j_ ?_
  refine e_ rfl ?_
  refine aB_ ?_
  refine aN_ [(0,.slice ad ps.length cap),(1,.func (.func g) #[] #[]),(7,.int .i64 (ps.length:Int)),(8,.int .i64 ((0:Nat):Int))] zl ?_
  refine aT_ (ι:={q:Nat // q≤ps.length∧(ps.take q).any pred=false}) (fun i=>[(0,.slice ad ps.length cap),(1,.func (.func g) #[] #[]),(7,.int .i64 (ps.length:Int)),(8,.int .i64 (i.1:Int))]) (fun _=>_) (fun _=>_) (fun i=>ps.length - i.1) ⟨0,by simp⟩ ?_
  rintro ⟨i,hk⟩
  refine aN_ [(0,.slice ad ps.length cap),(1,.func (.func g) #[] #[]),(7,.int .i64 (ps.length:Int)),(8,.int .i64 (i:Int))] zl ?_
  refine m_ ?_
  refine d_ ?_
  refine s_ (bR_ rfl rfl) rfl fun r1 hr1=>?_
  refine j_ ?_
  refine e_ rfl ?_
  refine m_ ?_
  cases r1
  · skip
    replace hr1:=zdf hr1
    try dsimp only[Con.kind,Con.parts,Con.name,Con.lo,Con.hi,Con.cap,Con.ad]at hr1
    refine F_ rfl ?_
    refine cp_ rfl ?_
    refine e_ rfl ?_
    refine m_ ?_
    refine d_ ?_
    refine c_ (n_ rfl) rfl ?_
    refine j_ ?_
    refine e_ rfl ?_
    refine ar_ ?_
    exact G_ Tryz.results253 ⟨-1,by have:=hk.2;rw[List.take_of_length_le (by omega)]at this;show _=ps.any pred;rw[this];rfl⟩ rfl (.refl _) zt
  · skip
    replace hr1:=zdt hr1
    try dsimp only[Con.kind,Con.parts,Con.name,Con.lo,Con.hi,Con.cap,Con.ad]at hr1
    have hlt:i<ps.length:=by omega
    obtain⟨p,hp⟩:∃ p,ps[i]? = some p:=⟨_,List.getElem?_eq_getElem hlt⟩
    have hpm:p∈ps:=List.mem_of_getElem? hp
    refine E_ rfl ?_
    refine ai_ ?_
    refine e_ rfl ?_
    refine m_ ?_
    refine aB_ ?_
    refine m_ ?_
    refine d_ ?_
    refine c_ (q_ rfl) rfl ?_
    refine c_ (n_ rfl) rfl ?_
    refine j_ ?_
    refine e_ rfl ?_
    refine m_ ?_
    refine d_ ?_
    refine c_ (q_ rfl) rfl ?_
    refine c_ (q_ rfl) rfl ?_
    refine c_ (q_ rfl) rfl ?_
    refine c_ (T_ B_ g_ rfl rfl (fun v _ h=>J_ (n:=5) Con.cells_len (by decide) (((Con.mem_iff (.mk k nm lo hi ad cap ps) v).1 h.1).1) hp) (by omega) (by first|omega|(simp only[Con.parts];omega)|(simp[Con.parts];done))) rfl ?_
    refine c_ (al_ (ad:=ad) (us:=p.cells) w_ g_ rfl (fun v _ h=>((Con.mem_iff (.mk k nm lo hi ad cap ps) v).1 h.1).1) (Con.cells_len _) (H_ Con.cells_len hp)) rfl ?_
    refine nK_ (hT p hpm) rfl rfl (.refl _) (fun v _ h=>by exact⟨Con.mem_part (c:=(.mk k nm lo hi ad cap ps)) h.1 hpm,trivial⟩) rfl fun r2 hr2=>?_
    refine j_ ?_
    refine e_ rfl ?_
    cases r2
    · skip
      try dsimp only[Con.kind,Con.parts,Con.name,Con.lo,Con.hi,Con.cap,Con.ad]at hr2
      refine F_ rfl ?_
      refine ai_ ?_
      refine e_ rfl ?_
      refine d_ ?_
      refine c_ (aA_ rfl rfl rfl (be_ (by omega) (by omega))) rfl ?_
      refine c_ (q_ rfl) rfl ?_
      refine j_ ?_
      refine L_ rfl ?_
      exact R_ ⟨i+1,hlt,by rw[Con.take_snoc hp,List.any_append,hk.2];simp[*]⟩ (by simp;omega) zl (.refl _) zh
    · skip
      try dsimp only[Con.kind,Con.parts,Con.name,Con.lo,Con.hi,Con.cap,Con.ad]at hr2
      refine E_ rfl ?_
      refine m_ ?_
      refine d_ ?_
      refine c_ (q_ rfl) rfl ?_
      refine c_ (n_ rfl) rfl ?_
      refine j_ ?_
      refine e_ rfl ?_
      refine ar_ ?_
      exact G_ Tryz.results253 ⟨(i:Int),by show _=ps.any pred;rw[show ps.any pred=true from List.any_eq_true.2 ⟨p,hpm,by assumption⟩];exact decide_eq_true (by omega)⟩ rfl (.refl _) zt
theorem iT_ {g:FuncId} {pred:Con→Bool} (c:Con) (hok:c.ok) (hT:∀ p∈c.parts,Tri Tryz.prog g #[p.val] [] [p.memF] (fun _:Unit=>.bool (pred p)) (fun _=>[]) (fun _=>[])) :
    Tri Tryz.prog 206 #[.slice c.ad c.parts.length c.cap,.func (.func g) #[] #[]] [] [c.memF] (fun _:Unit=>.bool (c.parts.any pred)) (fun _=>[]) (fun _=>[]):=by
  obtain⟨k,nm,lo,hi,ad,cap,ps⟩:=c
  refine o_ Tryz.func206 rfl rfl Tryz.ntmps206 rfl fun v0=>?_
  refine Zz 9 ?_
  refine i_ (lE_ (.mk k nm lo hi ad cap ps) hok hT) rfl (.refl _) (fun v _ h=>h) rfl fun x=>s_ (gc_ rfl rfl) rfl fun r1 hr1=>Zz 4 ?_
  exact G_ Tryz.results206 () (l_ rfl (hr1.symm.trans x.2)) (.refl _) zt
theorem cj_:∀ (m:Nat) (c:Con),c.sz≤m→c.ok→Tri Tryz.prog 134 #[c.val] [] [c.memF] (fun _:Unit=>.bool c.bare) (fun _=>[]) (fun _=>[]):=by
 intro m
 induction m with
 | zero=>intro c h;have:=c.sz_pos;omega
 | succ m ih =>
   intro c hm hok
   obtain⟨k,nm,lo,hi,ad,cap,ps⟩:=c
   refine o_ Tryz.func134 rfl rfl Tryz.ntmps134 rfl fun v0=>?_
   refine m_ ?_
   refine d_ ?_
   refine ah_ rfl rfl fun b1=>?_
   refine c_ (n_ rfl) rfl ?_
   refine j_ ?_
   refine e_ rfl ?_
   refine m_ ?_
   refine m_ ?_
   refine d_ ?_
   refine c_ (A_ z_ rfl rfl rfl ab_) rfl ?_
   refine c_ (M_ 0 ay_ rfl rfl rfl) rfl ?_
   refine j_ ?_
   refine e_ rfl ?_
   refine aB_ ?_
   refine m_ ?_
   refine d_ ?_
   refine s_ (V_ rfl rfl) rfl fun r1 hr1=>?_
   refine c_ (n_ rfl) rfl ?_
   refine j_ ?_
   refine e_ rfl ?_
   cases r1
   · skip
     replace hr1:=znb hr1
     try dsimp only[Con.kind,Con.parts,Con.name,Con.lo,Con.hi,Con.cap,Con.ad]at hr1
     refine F_ rfl ?_
     refine m_ ?_
     refine d_ ?_
     refine s_ (V_ rfl rfl) rfl fun r2 hr2=>?_
     refine c_ (n_ rfl) rfl ?_
     refine j_ ?_
     refine e_ rfl ?_
     cases r2
     · skip
       replace hr2:=znb hr2
       try dsimp only[Con.kind,Con.parts,Con.name,Con.lo,Con.hi,Con.cap,Con.ad]at hr2
       refine F_ rfl ?_
       refine ai_ ?_
       refine e_ rfl ?_
       refine m_ ?_
       refine d_ ?_
       refine c_ (n_ rfl) rfl ?_
       refine j_ ?_
       refine e_ rfl ?_
       refine ar_ ?_
       exact G_ Tryz.results134 () (l_ rfl (by rw[Con.bare_eq];simp only[Con.kind,Con.parts]at *;simp[*])) (.refl _) zt
     · skip
       replace hr2:=zeb hr2
       try dsimp only[Con.kind,Con.parts,Con.name,Con.lo,Con.hi,Con.cap,Con.ad]at hr2
       refine E_ rfl ?_
       refine m_ ?_
       refine d_ ?_
       refine c_ (A_ z_ rfl rfl rfl ba_) rfl ?_
       refine c_ (M_ 0 bk_ rfl rfl rfl) rfl ?_
       refine N_ (iT_ (pred:=Con.bare) (.mk k nm lo hi ad cap ps) hok (fun p hp=>ih p (by have:=Con.sz_part (c:=(.mk k nm lo hi ad cap ps)) hp;omega) (Con.ok_part (c:=(.mk k nm lo hi ad cap ps)) hok hp))) rfl (.refl _) (fun v _ h=>h) rfl fun r3 hr3=>?_
       refine c_ (n_ rfl) rfl ?_
       refine j_ ?_
       refine e_ rfl ?_
       refine ar_ ?_
       exact G_ Tryz.results134 () (l_ rfl (by rw[Con.bare_eq];simp only[Con.kind,Con.parts]at *;simp[*])) (.refl _) zt
   · skip
     replace hr1:=zeb hr1
     try dsimp only[Con.kind,Con.parts,Con.name,Con.lo,Con.hi,Con.cap,Con.ad]at hr1
     refine E_ rfl ?_
     refine m_ ?_
     refine d_ ?_
     refine c_ (n_ rfl) rfl ?_
     refine j_ ?_
     refine e_ rfl ?_
     refine ar_ ?_
     exact G_ Tryz.results134 () (l_ rfl (by rw[Con.bare_eq];simp only[Con.kind,Con.parts]at *;simp[*])) (.refl _) zt
theorem nW_ (x:Ax):Tri Tryz.prog 131 #[x.val] [] [ck_] (fun _:Unit=>.bool x.shaped) (fun _=>[]) (fun _=>[]):=by
 obtain⟨k,op,⟨kl,nl,ll,hl,al,cl,pl⟩,⟨kr,nr,lr,hr,ar,cr,pr⟩,ad,cap,rs,ro,a,b⟩:=x
 refine o_ Tryz.func131 rfl rfl Tryz.ntmps131 rfl fun v0=>?_
 refine Zz 2 ?_
 refine ah_ rfl rfl fun b1=>Zz 8 ?_
 refine s_ (bR_ rfl rfl) rfl fun r1 hr1=>Zz 1 ?_
 refine as_ 4 ((decide (k<1))||(decide (9<k))) (fun r=>[(0,.agg #[.int .i64 k,.bool op,.int .i64 kl,str nl,.int .i64 ll,.int .i64 hl,.slice al pl.length cl,.int .i64 kr,str nr,.int .i64 lr,.int .i64 hr,.slice ar pr.length cr,.slice ad rs.length cap,str ro,str a,str b]),(1,zp_ b1 0),(2,.bool false),(11,.bool r)]) ?_ fun r2 hr2=>?_
 ·cases r1
  ·have qr2:=hr1
   replace hr1:=zdf hr1
   try dsimp only[Con.kind,Con.parts,Con.name,Con.lo,Con.hi,Con.cap,Con.ad]at hr1
   refine Zz 5 ?_
   refine s_ (dv_ rfl rfl) rfl fun r3 hr3=>Zz 3 ?_
   exact met ⟨rfl,rfl,rfl,(l_ rfl (jof qr2 hr3)),trivial⟩
  have qr2:=hr1
  replace hr1:=zdt hr1
  try dsimp only[Con.kind,Con.parts,Con.name,Con.lo,Con.hi,Con.cap,Con.ad]at hr1
  refine Zz 6 ?_
  exact met ⟨rfl,rfl,rfl,(l_ rfl (jot qr2)),trivial⟩
 refine Zz 2 ?_
 cases r2
 ·simp at hr2
  try dsimp only[Con.kind,Con.parts,Con.name,Con.lo,Con.hi,Con.cap,Con.ad]at hr2
  obtain⟨u,hx⟩:∃ u,iP_[k.toNat]? = some u:=⟨_,List.getElem?_eq_getElem (show k.toNat<10 by omega)⟩
  have hus:us k=u:=by simp[us,hx]
  obtain⟨ul,ur,uo,ua,ub,um,un⟩:=u
  refine Zz 7 ?_
  refine c_ (gb_ Tryz.runUnderlying151 dn_ rfl rfl (by show (0:Int)≤k;omega) (by show k<(10:Int);omega)) rfl ?_
  refine c_ (al_ (ad:=some ⟨0,0,none⟩) (us:=Use.cells ⟨ul,ur,uo,ua,ub,um,un⟩) sO_ dn_ rfl (fun v _ h=>h.1.2.1) (Use.cells_len _) (H_ Use.cells_len hx)) rfl (au_ Tryz.zeroValue150 rfl fun b2=>aa_ 0 dn_ rfl rfl rfl rfl rfl rfl (Zz 7 ?_))
  refine as_ 4 ((ul)||(Con.empty (.mk kl nl ll hl al cl pl))) (fun r=>[(0,.agg #[.int .i64 k,.bool op,.int .i64 kl,str nl,.int .i64 ll,.int .i64 hl,.slice al pl.length cl,.int .i64 kr,str nr,.int .i64 lr,.int .i64 hr,.slice ar pr.length cr,.slice ad rs.length cap,str ro,str a,str b]),(1,zp_ b1 0),(2,.bool false),(11,.bool false),(12,zp_ b1 0),(13,.int .i64 k),(14,.pointer (some (rad (some ⟨0,0,none⟩) (k.toNat*7)))),(15,.agg #[.bool ul,.bool ur,.bool uo,.bool ua,.bool ub,.int .i64 um,.int .i64 un]),(3,zp_ b2 0),(22,.bool r)]) ?_ fun r4 hr4=>?_
  ·cases ul
   ·try dsimp only[Con.kind,Con.parts,Con.name,Con.lo,Con.hi,Con.cap,Con.ad]at hul
    refine Zz 5 ?_
    refine N_ (kQ_ (.mk kl nl ll hl al cl pl)) rfl (.refl _) zt rfl fun r5 hr5=>Zz 3 ?_
    exact met ⟨rfl,rfl,rfl,rfl,rfl,rfl,rfl,rfl,rfl,(l_ rfl (jof rfl hr5)),trivial⟩
   try dsimp only[Con.kind,Con.parts,Con.name,Con.lo,Con.hi,Con.cap,Con.ad]at hul
   refine Zz 6 ?_
   exact met ⟨rfl,rfl,rfl,rfl,rfl,rfl,rfl,rfl,rfl,(l_ rfl (jot rfl)),trivial⟩
  refine Zz 1 ?_
  refine as_ 8 ((((ul)||(Con.empty (.mk kl nl ll hl al cl pl))))&&(((ur)||(Con.empty (.mk kr nr lr hr ar cr pr))))) (fun r=>[(0,.agg #[.int .i64 k,.bool op,.int .i64 kl,str nl,.int .i64 ll,.int .i64 hl,.slice al pl.length cl,.int .i64 kr,str nr,.int .i64 lr,.int .i64 hr,.slice ar pr.length cr,.slice ad rs.length cap,str ro,str a,str b]),(1,zp_ b1 0),(2,.bool false),(11,.bool false),(12,zp_ b1 0),(13,.int .i64 k),(14,.pointer (some (rad (some ⟨0,0,none⟩) (k.toNat*7)))),(15,.agg #[.bool ul,.bool ur,.bool uo,.bool ua,.bool ub,.int .i64 um,.int .i64 un]),(3,zp_ b2 0),(31,.bool r)]) ?_ fun r6 hr6=>?_
  ·cases r4
   ·have qr6:=hr4
    simp at hr4
    try dsimp only[Con.kind,Con.parts,Con.name,Con.lo,Con.hi,Con.cap,Con.ad]at hr4
    refine Zz 10 ?_
    exact met ⟨rfl,rfl,rfl,rfl,rfl,rfl,rfl,rfl,rfl,(l_ rfl (jaf qr6)),trivial⟩
   have qr6:=hr4
   simp at hr4
   try dsimp only[Con.kind,Con.parts,Con.name,Con.lo,Con.hi,Con.cap,Con.ad]at hr4
   refine Zz 6 ?_
   refine as_ 4 ((ur)||(Con.empty (.mk kr nr lr hr ar cr pr))) (fun r=>[(0,.agg #[.int .i64 k,.bool op,.int .i64 kl,str nl,.int .i64 ll,.int .i64 hl,.slice al pl.length cl,.int .i64 kr,str nr,.int .i64 lr,.int .i64 hr,.slice ar pr.length cr,.slice ad rs.length cap,str ro,str a,str b]),(1,zp_ b1 0),(2,.bool false),(11,.bool false),(12,zp_ b1 0),(13,.int .i64 k),(14,.pointer (some (rad (some ⟨0,0,none⟩) (k.toNat*7)))),(15,.agg #[.bool ul,.bool ur,.bool uo,.bool ua,.bool ub,.int .i64 um,.int .i64 un]),(3,zp_ b2 0),(23,.bool true),(30,.bool r)]) ?_ fun r7 hr7=>?_
   ·cases ur
    ·try dsimp only[Con.kind,Con.parts,Con.name,Con.lo,Con.hi,Con.cap,Con.ad]at hur
     refine Zz 5 ?_
     refine N_ (kQ_ (.mk kr nr lr hr ar cr pr)) rfl (.refl _) zt rfl fun r8 hr8=>Zz 4 ?_
     exact met ⟨rfl,rfl,rfl,rfl,rfl,rfl,rfl,rfl,rfl,rfl,(l_ rfl (jof rfl hr8)),trivial⟩
    try dsimp only[Con.kind,Con.parts,Con.name,Con.lo,Con.hi,Con.cap,Con.ad]at hur
    refine Zz 7 ?_
    exact met ⟨rfl,rfl,rfl,rfl,rfl,rfl,rfl,rfl,rfl,rfl,(l_ rfl (jot rfl)),trivial⟩
   refine Zz 3 ?_
   exact met ⟨rfl,rfl,rfl,rfl,rfl,rfl,rfl,rfl,rfl,(l_ rfl (jat qr6 hr7)),trivial⟩
  refine Zz 1 ?_
  refine as_ 8 ((((((ul)||(Con.empty (.mk kl nl ll hl al cl pl))))&&(((ur)||(Con.empty (.mk kr nr lr hr ar cr pr))))))&&(((uo)||(ro==[])))) (fun r=>[(0,.agg #[.int .i64 k,.bool op,.int .i64 kl,str nl,.int .i64 ll,.int .i64 hl,.slice al pl.length cl,.int .i64 kr,str nr,.int .i64 lr,.int .i64 hr,.slice ar pr.length cr,.slice ad rs.length cap,str ro,str a,str b]),(1,zp_ b1 0),(2,.bool false),(11,.bool false),(12,zp_ b1 0),(13,.int .i64 k),(14,.pointer (some (rad (some ⟨0,0,none⟩) (k.toNat*7)))),(15,.agg #[.bool ul,.bool ur,.bool uo,.bool ua,.bool ub,.int .i64 um,.int .i64 un]),(3,zp_ b2 0),(40,.bool r)]) ?_ fun r9 hr9=>?_
  ·cases r6
   ·have qr9:=hr6
    simp at hr6
    try dsimp only[Con.kind,Con.parts,Con.name,Con.lo,Con.hi,Con.cap,Con.ad]at hr6
    refine Zz 10 ?_
    exact met ⟨rfl,rfl,rfl,rfl,rfl,rfl,rfl,rfl,rfl,(l_ rfl (jaf qr9)),trivial⟩
   have qr9:=hr6
   simp at hr6
   try dsimp only[Con.kind,Con.parts,Con.name,Con.lo,Con.hi,Con.cap,Con.ad]at hr6
   refine Zz 6 ?_
   refine as_ 4 ((uo)||(ro==[])) (fun r=>[(0,.agg #[.int .i64 k,.bool op,.int .i64 kl,str nl,.int .i64 ll,.int .i64 hl,.slice al pl.length cl,.int .i64 kr,str nr,.int .i64 lr,.int .i64 hr,.slice ar pr.length cr,.slice ad rs.length cap,str ro,str a,str b]),(1,zp_ b1 0),(2,.bool false),(11,.bool false),(12,zp_ b1 0),(13,.int .i64 k),(14,.pointer (some (rad (some ⟨0,0,none⟩) (k.toNat*7)))),(15,.agg #[.bool ul,.bool ur,.bool uo,.bool ua,.bool ub,.int .i64 um,.int .i64 un]),(3,zp_ b2 0),(32,.bool true),(39,.bool r)]) ?_ fun r10 hr10=>?_
   ·cases uo
    ·try dsimp only[Con.kind,Con.parts,Con.name,Con.lo,Con.hi,Con.cap,Con.ad]at huo
     refine Zz 5 ?_
     refine s_ (dK_ rfl rfl) rfl fun r11 hr11=>Zz 4 ?_
     exact met ⟨rfl,rfl,rfl,rfl,rfl,rfl,rfl,rfl,rfl,rfl,(l_ rfl (jof rfl hr11)),trivial⟩
    try dsimp only[Con.kind,Con.parts,Con.name,Con.lo,Con.hi,Con.cap,Con.ad]at huo
    refine Zz 7 ?_
    exact met ⟨rfl,rfl,rfl,rfl,rfl,rfl,rfl,rfl,rfl,rfl,(l_ rfl (jot rfl)),trivial⟩
   refine Zz 3 ?_
   exact met ⟨rfl,rfl,rfl,rfl,rfl,rfl,rfl,rfl,rfl,(l_ rfl (jat qr9 hr10)),trivial⟩
  refine Zz 1 ?_
  refine as_ 8 ((((((((ul)||(Con.empty (.mk kl nl ll hl al cl pl))))&&(((ur)||(Con.empty (.mk kr nr lr hr ar cr pr))))))&&(((uo)||(ro==[])))))&&(((ua)||(a==[])))) (fun r=>[(0,.agg #[.int .i64 k,.bool op,.int .i64 kl,str nl,.int .i64 ll,.int .i64 hl,.slice al pl.length cl,.int .i64 kr,str nr,.int .i64 lr,.int .i64 hr,.slice ar pr.length cr,.slice ad rs.length cap,str ro,str a,str b]),(1,zp_ b1 0),(2,.bool false),(11,.bool false),(12,zp_ b1 0),(13,.int .i64 k),(14,.pointer (some (rad (some ⟨0,0,none⟩) (k.toNat*7)))),(15,.agg #[.bool ul,.bool ur,.bool uo,.bool ua,.bool ub,.int .i64 um,.int .i64 un]),(3,zp_ b2 0),(49,.bool r)]) ?_ fun r12 hr12=>?_
  ·cases r9
   ·have qr12:=hr9
    simp at hr9
    try dsimp only[Con.kind,Con.parts,Con.name,Con.lo,Con.hi,Con.cap,Con.ad]at hr9
    refine Zz 10 ?_
    exact met ⟨rfl,rfl,rfl,rfl,rfl,rfl,rfl,rfl,rfl,(l_ rfl (jaf qr12)),trivial⟩
   have qr12:=hr9
   simp at hr9
   try dsimp only[Con.kind,Con.parts,Con.name,Con.lo,Con.hi,Con.cap,Con.ad]at hr9
   refine Zz 6 ?_
   refine as_ 4 ((ua)||(a==[])) (fun r=>[(0,.agg #[.int .i64 k,.bool op,.int .i64 kl,str nl,.int .i64 ll,.int .i64 hl,.slice al pl.length cl,.int .i64 kr,str nr,.int .i64 lr,.int .i64 hr,.slice ar pr.length cr,.slice ad rs.length cap,str ro,str a,str b]),(1,zp_ b1 0),(2,.bool false),(11,.bool false),(12,zp_ b1 0),(13,.int .i64 k),(14,.pointer (some (rad (some ⟨0,0,none⟩) (k.toNat*7)))),(15,.agg #[.bool ul,.bool ur,.bool uo,.bool ua,.bool ub,.int .i64 um,.int .i64 un]),(3,zp_ b2 0),(41,.bool true),(48,.bool r)]) ?_ fun r13 hr13=>?_
   ·cases ua
    ·try dsimp only[Con.kind,Con.parts,Con.name,Con.lo,Con.hi,Con.cap,Con.ad]at hua
     refine Zz 5 ?_
     refine s_ (dK_ rfl rfl) rfl fun r14 hr14=>Zz 4 ?_
     exact met ⟨rfl,rfl,rfl,rfl,rfl,rfl,rfl,rfl,rfl,rfl,(l_ rfl (jof rfl hr14)),trivial⟩
    try dsimp only[Con.kind,Con.parts,Con.name,Con.lo,Con.hi,Con.cap,Con.ad]at hua
    refine Zz 7 ?_
    exact met ⟨rfl,rfl,rfl,rfl,rfl,rfl,rfl,rfl,rfl,rfl,(l_ rfl (jot rfl)),trivial⟩
   refine Zz 3 ?_
   exact met ⟨rfl,rfl,rfl,rfl,rfl,rfl,rfl,rfl,rfl,(l_ rfl (jat qr12 hr13)),trivial⟩
  refine Zz 1 ?_
  refine as_ 8 ((((((((((ul)||(Con.empty (.mk kl nl ll hl al cl pl))))&&(((ur)||(Con.empty (.mk kr nr lr hr ar cr pr))))))&&(((uo)||(ro==[])))))&&(((ua)||(a==[])))))&&(((ub)||(b==[])))) (fun r=>[(0,.agg #[.int .i64 k,.bool op,.int .i64 kl,str nl,.int .i64 ll,.int .i64 hl,.slice al pl.length cl,.int .i64 kr,str nr,.int .i64 lr,.int .i64 hr,.slice ar pr.length cr,.slice ad rs.length cap,str ro,str a,str b]),(1,zp_ b1 0),(2,.bool false),(11,.bool false),(12,zp_ b1 0),(13,.int .i64 k),(14,.pointer (some (rad (some ⟨0,0,none⟩) (k.toNat*7)))),(15,.agg #[.bool ul,.bool ur,.bool uo,.bool ua,.bool ub,.int .i64 um,.int .i64 un]),(3,zp_ b2 0),(58,.bool r)]) ?_ fun r15 hr15=>?_
  ·cases r12
   ·have qr15:=hr12
    simp at hr12
    try dsimp only[Con.kind,Con.parts,Con.name,Con.lo,Con.hi,Con.cap,Con.ad]at hr12
    refine Zz 10 ?_
    exact met ⟨rfl,rfl,rfl,rfl,rfl,rfl,rfl,rfl,rfl,(l_ rfl (jaf qr15)),trivial⟩
   have qr15:=hr12
   simp at hr12
   try dsimp only[Con.kind,Con.parts,Con.name,Con.lo,Con.hi,Con.cap,Con.ad]at hr12
   refine Zz 6 ?_
   refine as_ 4 ((ub)||(b==[])) (fun r=>[(0,.agg #[.int .i64 k,.bool op,.int .i64 kl,str nl,.int .i64 ll,.int .i64 hl,.slice al pl.length cl,.int .i64 kr,str nr,.int .i64 lr,.int .i64 hr,.slice ar pr.length cr,.slice ad rs.length cap,str ro,str a,str b]),(1,zp_ b1 0),(2,.bool false),(11,.bool false),(12,zp_ b1 0),(13,.int .i64 k),(14,.pointer (some (rad (some ⟨0,0,none⟩) (k.toNat*7)))),(15,.agg #[.bool ul,.bool ur,.bool uo,.bool ua,.bool ub,.int .i64 um,.int .i64 un]),(3,zp_ b2 0),(50,.bool true),(57,.bool r)]) ?_ fun r16 hr16=>?_
   ·cases ub
    ·try dsimp only[Con.kind,Con.parts,Con.name,Con.lo,Con.hi,Con.cap,Con.ad]at hub
     refine Zz 5 ?_
     refine s_ (dK_ rfl rfl) rfl fun r17 hr17=>Zz 4 ?_
     exact met ⟨rfl,rfl,rfl,rfl,rfl,rfl,rfl,rfl,rfl,rfl,(l_ rfl (jof rfl hr17)),trivial⟩
    try dsimp only[Con.kind,Con.parts,Con.name,Con.lo,Con.hi,Con.cap,Con.ad]at hub
    refine Zz 7 ?_
    exact met ⟨rfl,rfl,rfl,rfl,rfl,rfl,rfl,rfl,rfl,rfl,(l_ rfl (jot rfl)),trivial⟩
   refine Zz 3 ?_
   exact met ⟨rfl,rfl,rfl,rfl,rfl,rfl,rfl,rfl,rfl,(l_ rfl (jat qr15 hr16)),trivial⟩
  refine Zz 1 ?_
  refine as_ 7 ((((((((((((ul)||(Con.empty (.mk kl nl ll hl al cl pl))))&&(((ur)||(Con.empty (.mk kr nr lr hr ar cr pr))))))&&(((uo)||(ro==[])))))&&(((ua)||(a==[])))))&&(((ub)||(b==[])))))&&(decide (um≤(rs.length:Int)))) (fun r=>[(0,.agg #[.int .i64 k,.bool op,.int .i64 kl,str nl,.int .i64 ll,.int .i64 hl,.slice al pl.length cl,.int .i64 kr,str nr,.int .i64 lr,.int .i64 hr,.slice ar pr.length cr,.slice ad rs.length cap,str ro,str a,str b]),(1,zp_ b1 0),(2,.bool false),(11,.bool false),(12,zp_ b1 0),(13,.int .i64 k),(14,.pointer (some (rad (some ⟨0,0,none⟩) (k.toNat*7)))),(15,.agg #[.bool ul,.bool ur,.bool uo,.bool ua,.bool ub,.int .i64 um,.int .i64 un]),(3,zp_ b2 0),(66,.bool r)]) ?_ fun r18 hr18=>?_
  ·cases r15
   ·have qr18:=hr15
    simp at hr15
    try dsimp only[Con.kind,Con.parts,Con.name,Con.lo,Con.hi,Con.cap,Con.ad]at hr15
    refine Zz 9 ?_
    exact met ⟨rfl,rfl,rfl,rfl,rfl,rfl,rfl,rfl,rfl,(l_ rfl (jaf qr18)),trivial⟩
   have qr18:=hr15
   simp at hr15
   try dsimp only[Con.kind,Con.parts,Con.name,Con.lo,Con.hi,Con.cap,Con.ad]at hr15
   refine Zz 11 ?_
   refine s_ (gc_ rfl rfl) rfl fun r19 hr19=>Zz 3 ?_
   exact met ⟨rfl,rfl,rfl,rfl,rfl,rfl,rfl,rfl,rfl,(l_ rfl (jat qr18 hr19)),trivial⟩
  refine Zz 1 ?_
  refine as_ 7 ((((((((((((((ul)||(Con.empty (.mk kl nl ll hl al cl pl))))&&(((ur)||(Con.empty (.mk kr nr lr hr ar cr pr))))))&&(((uo)||(ro==[])))))&&(((ua)||(a==[])))))&&(((ub)||(b==[])))))&&(decide (um≤(rs.length:Int)))))&&(decide ((rs.length:Int)≤un))) (fun r=>[(0,.agg #[.int .i64 k,.bool op,.int .i64 kl,str nl,.int .i64 ll,.int .i64 hl,.slice al pl.length cl,.int .i64 kr,str nr,.int .i64 lr,.int .i64 hr,.slice ar pr.length cr,.slice ad rs.length cap,str ro,str a,str b]),(1,zp_ b1 0),(2,.bool false),(11,.bool false),(12,zp_ b1 0),(13,.int .i64 k),(14,.pointer (some (rad (some ⟨0,0,none⟩) (k.toNat*7)))),(15,.agg #[.bool ul,.bool ur,.bool uo,.bool ua,.bool ub,.int .i64 um,.int .i64 un]),(3,zp_ b2 0),(74,.bool r)]) ?_ fun r20 hr20=>?_
  ·cases r18
   ·have qr20:=hr18
    simp at hr18
    try dsimp only[Con.kind,Con.parts,Con.name,Con.lo,Con.hi,Con.cap,Con.ad]at hr18
    refine Zz 9 ?_
    exact met ⟨rfl,rfl,rfl,rfl,rfl,rfl,rfl,rfl,rfl,(l_ rfl (jaf qr20)),trivial⟩
   have qr20:=hr18
   simp at hr18
   try dsimp only[Con.kind,Con.parts,Con.name,Con.lo,Con.hi,Con.cap,Con.ad]at hr18
   refine Zz 11 ?_
   refine s_ (du_ rfl rfl) rfl fun r21 hr21=>Zz 3 ?_
   exact met ⟨rfl,rfl,rfl,rfl,rfl,rfl,rfl,rfl,rfl,(l_ rfl (jat qr20 hr21)),trivial⟩
  refine Zz 4 ?_
  exact G_ Tryz.results131 () (l_ rfl (by unfold Ax.shaped;rw[if_neg (by simp only[not_or];omega)];simp only[hus];exact hr20.symm)) (.refl _) zt
 simp at hr2
 try dsimp only[Con.kind,Con.parts,Con.name,Con.lo,Con.hi,Con.cap,Con.ad]at hr2
 refine Zz 7 ?_
 exact G_ Tryz.results131 () (l_ rfl (by unfold Ax.shaped;rw[if_pos (by simpa using hr2)])) (.refl _) zt
theorem pn (s:Str):(((if aK_ s then 0 else 20):Int) != 0)=!aK_ s:=by cases aK_ s<;>rfl
theorem pJ_ (x:Ax) (hok:x.ok) (u:Use):Tri Tryz.prog 132 #[x.val,.agg u.cells.toArray] [] [x.memF] (fun _:Unit=>.bool (x.namedU u)) (fun _=>[]) (fun _=>[]):=by
 obtain⟨k,op,⟨kl,nl,ll,hl,al,cl,pl⟩,⟨kr,nr,lr,hr,ar,cr,pr⟩,ad,cap,rs,ro,a,b⟩:=x
 obtain⟨ul,ur,uo,ua,ub,um,un⟩:=u
 have hlen:=hok.len
 have hcap:=hok.cap
 dsimp only at hlen hcap
 refine o_ Tryz.func132 rfl rfl Tryz.ntmps132 rfl fun v0=>?_
 refine m_ ?_
 refine d_ ?_
 refine ah_ rfl rfl fun b1=>?_
 refine ah_ rfl rfl fun b2=>?_
 refine c_ (n_ rfl) rfl ?_
 refine j_ ?_
 refine e_ rfl ?_
 refine m_ ?_
 refine m_ ?_
 refine d_ ?_
 refine c_ (A_ bl_ rfl rfl rfl dZ_) rfl ?_
 refine c_ (M_ 0 id_ rfl rfl rfl) rfl ?_
 refine c_ (q_ rfl) rfl ?_
 refine as_ 5 ((uo)&&(!(bn_ ro))) (fun r=>[(0,.agg #[.int .i64 k,.bool op,.int .i64 kl,str nl,.int .i64 ll,.int .i64 hl,.slice al pl.length cl,.int .i64 kr,str nr,.int .i64 lr,.int .i64 hr,.slice ar pr.length cr,.slice ad rs.length cap,str ro,str a,str b]),(1,.agg #[.bool ul,.bool ur,.bool uo,.bool ua,.bool ub,.int .i64 um,.int .i64 un]),(2,zp_ b1 0),(3,zp_ b2 0),(4,.bool false),(14,.bool r)]) ?_ fun r1 hr1=>?_
 ·cases uo
  ·try dsimp only[Con.kind,Con.parts,Con.name,Con.lo,Con.hi,Con.cap,Con.ad]at huo
   refine bc_ rfl rfl rfl rfl ?_
   refine bc_ rfl rfl rfl rfl ?_
   refine bc_ rfl rfl rfl rfl ?_
   refine bc_ rfl rfl rfl rfl ?_
   refine c_ (bS_ rfl rfl) rfl ?_
   refine j_ ?_
   refine L_ rfl ?_
   exact met ⟨rfl,rfl,rfl,rfl,rfl,(l_ rfl (jaf rfl)),trivial⟩
  try dsimp only[Con.kind,Con.parts,Con.name,Con.lo,Con.hi,Con.cap,Con.ad]at huo
  refine ag_ rfl rfl ?_
  refine c_ (A_ p_ rfl rfl rfl O_) rfl ?_
  refine ag_ rfl rfl ?_
  refine c_ (M_ 1 ap_ rfl rfl rfl) rfl ?_
  refine ag_ rfl rfl ?_
  refine N_ (fS_ _) rfl (.refl _) zt rfl fun r2 hr2=>?_
  refine ag_ rfl rfl ?_
  refine c_ (aE_ rfl) rfl ?_
  refine c_ (bx_ rfl rfl) rfl ?_
  refine j_ ?_
  refine L_ rfl ?_
  exact met ⟨rfl,rfl,rfl,rfl,rfl,(l_ rfl (jat rfl (jn hr2))),trivial⟩
 refine c_ (q_ rfl) rfl ?_
 refine as_ 9 ((((uo)&&(!(bn_ ro))))||(((ua)&&(((if aK_ a then 0 else 20):Int) != 0)))) (fun r=>[(0,.agg #[.int .i64 k,.bool op,.int .i64 kl,str nl,.int .i64 ll,.int .i64 hl,.slice al pl.length cl,.int .i64 kr,str nr,.int .i64 lr,.int .i64 hr,.slice ar pr.length cr,.slice ad rs.length cap,str ro,str a,str b]),(1,.agg #[.bool ul,.bool ur,.bool uo,.bool ua,.bool ub,.int .i64 um,.int .i64 un]),(2,zp_ b1 0),(3,zp_ b2 0),(4,.bool false),(24,.bool r)]) ?_ fun r3 hr3=>?_
 ·cases r1
  ·have qr3:=hr1
   try dsimp only[Con.kind,Con.parts,Con.name,Con.lo,Con.hi,Con.cap,Con.ad]at hr1
   refine ag_ rfl rfl ?_
   refine c_ (A_ bl_ rfl rfl rfl dZ_) rfl ?_
   refine ag_ rfl rfl ?_
   refine c_ (M_ 0 id_ rfl rfl rfl) rfl ?_
   refine ag_ rfl rfl ?_
   refine c_ (q_ rfl) rfl ?_
   refine as_ 5 ((ua)&&(((if aK_ a then 0 else 20):Int) != 0)) (fun r=>[(0,.agg #[.int .i64 k,.bool op,.int .i64 kl,str nl,.int .i64 ll,.int .i64 hl,.slice al pl.length cl,.int .i64 kr,str nr,.int .i64 lr,.int .i64 hr,.slice ar pr.length cr,.slice ad rs.length cap,str ro,str a,str b]),(1,.agg #[.bool ul,.bool ur,.bool uo,.bool ua,.bool ub,.int .i64 um,.int .i64 un]),(2,zp_ b1 0),(3,zp_ b2 0),(4,.bool false),(15,.bool false),(23,.bool r)]) ?_ fun r4 hr4=>?_
   ·cases ua
    ·try dsimp only[Con.kind,Con.parts,Con.name,Con.lo,Con.hi,Con.cap,Con.ad]at hua
     refine bc_ rfl rfl rfl rfl ?_
     refine bc_ rfl rfl rfl rfl ?_
     refine bc_ rfl rfl rfl rfl ?_
     refine bc_ rfl rfl rfl rfl ?_
     refine ag_ rfl rfl ?_
     refine c_ (bS_ rfl rfl) rfl ?_
     refine j_ ?_
     refine L_ rfl ?_
     exact met ⟨rfl,rfl,rfl,rfl,rfl,rfl,(l_ rfl (jaf rfl)),trivial⟩
    try dsimp only[Con.kind,Con.parts,Con.name,Con.lo,Con.hi,Con.cap,Con.ad]at hua
    refine ag_ rfl rfl ?_
    refine c_ (A_ p_ rfl rfl rfl O_) rfl ?_
    refine ag_ rfl rfl ?_
    refine c_ (M_ 1 ap_ rfl rfl rfl) rfl ?_
    refine ag_ rfl rfl ?_
    refine i_ (cI_ _ hok.a) rfl (.refl _) zt rfl fun _=>?_
    refine ag_ rfl rfl ?_
    refine s_ (bU_ rfl rfl) rfl fun r5 hr5=>?_
    refine ag_ rfl rfl ?_
    refine c_ (bx_ rfl rfl) rfl ?_
    refine j_ ?_
    refine L_ rfl ?_
    exact met ⟨rfl,rfl,rfl,rfl,rfl,rfl,(l_ rfl (jat rfl hr5)),trivial⟩
   refine c_ (bS_ rfl rfl) rfl ?_
   refine j_ ?_
   refine L_ rfl ?_
   exact met ⟨rfl,rfl,rfl,rfl,rfl,(l_ rfl (jof qr3 hr4)),trivial⟩
  have qr3:=hr1
  try dsimp only[Con.kind,Con.parts,Con.name,Con.lo,Con.hi,Con.cap,Con.ad]at hr1
  refine bc_ rfl rfl rfl rfl ?_
  refine bc_ rfl rfl rfl rfl ?_
  refine bc_ rfl rfl rfl rfl ?_
  refine bc_ rfl rfl rfl rfl ?_
  refine bc_ rfl rfl rfl rfl ?_
  refine bc_ rfl rfl rfl rfl ?_
  refine bc_ rfl rfl rfl rfl ?_
  refine bc_ rfl rfl rfl rfl ?_
  refine c_ (bx_ rfl rfl) rfl ?_
  refine j_ ?_
  refine L_ rfl ?_
  exact met ⟨rfl,rfl,rfl,rfl,rfl,(l_ rfl (jot qr3)),trivial⟩
 refine c_ (q_ rfl) rfl ?_
 refine as_ 9 ((((((uo)&&(!(bn_ ro))))||(((ua)&&(((if aK_ a then 0 else 20):Int) != 0)))))||(((ub)&&(((if aK_ b then 0 else 20):Int) != 0)))) (fun r=>[(0,.agg #[.int .i64 k,.bool op,.int .i64 kl,str nl,.int .i64 ll,.int .i64 hl,.slice al pl.length cl,.int .i64 kr,str nr,.int .i64 lr,.int .i64 hr,.slice ar pr.length cr,.slice ad rs.length cap,str ro,str a,str b]),(1,.agg #[.bool ul,.bool ur,.bool uo,.bool ua,.bool ub,.int .i64 um,.int .i64 un]),(2,zp_ b1 0),(4,.bool false),(34,.bool r)]) ?_ fun r6 hr6=>?_
 ·cases r3
  ·have qr6:=hr3
   try dsimp only[Con.kind,Con.parts,Con.name,Con.lo,Con.hi,Con.cap,Con.ad]at hr3
   refine ag_ rfl rfl ?_
   refine c_ (A_ bl_ rfl rfl rfl dZ_) rfl ?_
   refine ag_ rfl rfl ?_
   refine c_ (M_ 0 id_ rfl rfl rfl) rfl ?_
   refine ag_ rfl rfl ?_
   refine c_ (q_ rfl) rfl ?_
   refine as_ 5 ((ub)&&(((if aK_ b then 0 else 20):Int) != 0)) (fun r=>[(0,.agg #[.int .i64 k,.bool op,.int .i64 kl,str nl,.int .i64 ll,.int .i64 hl,.slice al pl.length cl,.int .i64 kr,str nr,.int .i64 lr,.int .i64 hr,.slice ar pr.length cr,.slice ad rs.length cap,str ro,str a,str b]),(1,.agg #[.bool ul,.bool ur,.bool uo,.bool ua,.bool ub,.int .i64 um,.int .i64 un]),(2,zp_ b1 0),(4,.bool false),(25,.bool false),(33,.bool r)]) ?_ fun r7 hr7=>?_
   ·cases ub
    ·try dsimp only[Con.kind,Con.parts,Con.name,Con.lo,Con.hi,Con.cap,Con.ad]at hub
     refine bc_ rfl rfl rfl rfl ?_
     refine bc_ rfl rfl rfl rfl ?_
     refine bc_ rfl rfl rfl rfl ?_
     refine bc_ rfl rfl rfl rfl ?_
     refine ag_ rfl rfl ?_
     refine c_ (bS_ rfl rfl) rfl ?_
     refine j_ ?_
     refine L_ rfl ?_
     exact met ⟨rfl,rfl,rfl,rfl,rfl,(l_ rfl (jaf rfl)),trivial⟩
    try dsimp only[Con.kind,Con.parts,Con.name,Con.lo,Con.hi,Con.cap,Con.ad]at hub
    refine ag_ rfl rfl ?_
    refine c_ (A_ p_ rfl rfl rfl O_) rfl ?_
    refine ag_ rfl rfl ?_
    refine c_ (M_ 1 ap_ rfl rfl rfl) rfl ?_
    refine ag_ rfl rfl ?_
    refine i_ (cI_ _ hok.b) rfl (.refl _) zt rfl fun _=>?_
    refine ag_ rfl rfl ?_
    refine s_ (bU_ rfl rfl) rfl fun r8 hr8=>?_
    refine ag_ rfl rfl ?_
    refine c_ (bx_ rfl rfl) rfl ?_
    refine j_ ?_
    refine L_ rfl ?_
    exact met ⟨rfl,rfl,rfl,rfl,rfl,(l_ rfl (jat rfl hr8)),trivial⟩
   refine c_ (bS_ rfl rfl) rfl ?_
   refine j_ ?_
   refine L_ rfl ?_
   exact met ⟨rfl,rfl,rfl,rfl,(l_ rfl (jof qr6 hr7)),trivial⟩
  have qr6:=hr3
  try dsimp only[Con.kind,Con.parts,Con.name,Con.lo,Con.hi,Con.cap,Con.ad]at hr3
  refine bc_ rfl rfl rfl rfl ?_
  refine bc_ rfl rfl rfl rfl ?_
  refine bc_ rfl rfl rfl rfl ?_
  refine bc_ rfl rfl rfl rfl ?_
  refine bc_ rfl rfl rfl rfl ?_
  refine bc_ rfl rfl rfl rfl ?_
  refine bc_ rfl rfl rfl rfl ?_
  refine bc_ rfl rfl rfl rfl ?_
  refine c_ (bx_ rfl rfl) rfl ?_
  refine j_ ?_
  refine L_ rfl ?_
  exact met ⟨rfl,rfl,rfl,rfl,(l_ rfl (jot qr6)),trivial⟩
 refine j_ ?_
 refine e_ rfl ?_
 cases r6
 ·try dsimp only[Con.kind,Con.parts,Con.name,Con.lo,Con.hi,Con.cap,Con.ad]at hr6
  refine F_ rfl ?_
  refine ai_ ?_
  refine e_ rfl ?_
  refine m_ ?_
  refine m_ ?_
  refine d_ ?_
  refine c_ (A_ p_ rfl rfl rfl bw_) rfl ?_
  refine c_ (M_ 1 fw_ rfl rfl rfl) rfl ?_
  refine c_ (bM_ D_ rfl) rfl ?_
  refine c_ (q_ rfl) rfl ?_
  refine j_ ?_
  refine e_ rfl ?_
  refine aB_ ?_
  refine aN_ [(36,.slice ad rs.length cap),(37,.int .i64 (rs.length:Int)),(38,.int .i64 ((0:Nat):Int))] zl ?_
  refine aT_ (ι:={q:Nat // q≤rs.length∧(rs.take q).all bn_=true}) (fun i=>[(36,.slice ad rs.length cap),(37,.int .i64 (rs.length:Int)),(38,.int .i64 (i.1:Int))]) (fun _=>_) (fun _=>_) (fun i=>rs.length - i.1) ⟨0,by simp⟩ ?_
  rintro ⟨i,hk⟩
  refine aN_ [(36,.slice ad rs.length cap),(37,.int .i64 (rs.length:Int)),(38,.int .i64 (i:Int))] zl ?_
  refine m_ ?_
  refine d_ ?_
  refine s_ (bR_ rfl rfl) rfl fun r9 hr9=>?_
  refine j_ ?_
  refine e_ rfl ?_
  refine m_ ?_
  cases r9
  ·replace hr9:=zdf hr9
   try dsimp only[Con.kind,Con.parts,Con.name,Con.lo,Con.hi,Con.cap,Con.ad]at hr9
   refine F_ rfl ?_
   refine cp_ rfl ?_
   refine e_ rfl ?_
   refine m_ ?_
   refine d_ ?_
   refine c_ (n_ rfl) rfl ?_
   refine j_ ?_
   refine e_ rfl ?_
   refine ar_ ?_
   exact G_ Tryz.results132 () (l_ rfl (by have hf:rs.all bn_=true:=(by have:=hk.2;rwa [List.take_of_length_le (by omega)]at this);unfold Ax.namedU;simp only[pn]at hr6;simp only[hf,hr6];rfl)) (.refl _) zt
  replace hr9:=zdt hr9
  try dsimp only[Con.kind,Con.parts,Con.name,Con.lo,Con.hi,Con.cap,Con.ad]at hr9
  have hlt:i<rs.length:=by omega
  obtain⟨q,hp⟩:∃ q,rs[i]? = some q:=⟨_,List.getElem?_eq_getElem hlt⟩
  refine E_ rfl ?_
  refine ai_ ?_
  refine e_ rfl ?_
  refine m_ ?_
  refine aB_ ?_
  refine m_ ?_
  refine d_ ?_
  refine c_ (T_ D_ O_ rfl rfl (fun v _ h=>J_ (n:=1) av_ (by decide) (h.1.2.2) hp) (by omega) (by first|omega|(simp only[Con.parts];omega)|(simp[Con.parts];done))) rfl ?_
  refine c_ (bu_ (ad:=ad) ap_ rfl (fun v _ h=>h.1.2.2) (H_ av_ hp 0 _ rfl)) rfl ?_
  refine c_ (n_ rfl) rfl ?_
  refine j_ ?_
  refine e_ rfl ?_
  refine m_ ?_
  refine d_ ?_
  refine c_ (q_ rfl) rfl ?_
  refine N_ (fS_ _) rfl (.refl _) zt rfl fun r10 hr10=>?_
  refine c_ (aE_ rfl) rfl ?_
  refine j_ ?_
  refine e_ rfl ?_
  cases r10
  ·try dsimp only[Con.kind,Con.parts,Con.name,Con.lo,Con.hi,Con.cap,Con.ad]at hr10
   refine E_ rfl ?_
   refine m_ ?_
   refine d_ ?_
   refine c_ (n_ rfl) rfl ?_
   refine j_ ?_
   refine e_ rfl ?_
   refine ar_ ?_
   exact G_ Tryz.results132 () (l_ rfl (by have hf:rs.all bn_=false:=List.all_eq_false.2 ⟨q,List.mem_of_getElem? hp,by simp[*]⟩;unfold Ax.namedU;simp only[hf,Bool.and_false])) (.refl _) zt
  try dsimp only[Con.kind,Con.parts,Con.name,Con.lo,Con.hi,Con.cap,Con.ad]at hr10
  refine F_ rfl ?_
  refine ai_ ?_
  refine e_ rfl ?_
  refine d_ ?_
  refine c_ (aA_ rfl rfl rfl (be_ (by omega) (by omega))) rfl ?_
  refine c_ (q_ rfl) rfl ?_
  refine j_ ?_
  refine L_ rfl ?_
  exact R_ ⟨i+1,hlt,by rw[List.take_add_one,hp];simp only[Option.toList_some,List.all_append,hk.2];simp[*]⟩ (by simp;omega) zl (.refl _) zh
 try dsimp only[Con.kind,Con.parts,Con.name,Con.lo,Con.hi,Con.cap,Con.ad]at hr6
 refine E_ rfl ?_
 refine m_ ?_
 refine d_ ?_
 refine c_ (n_ rfl) rfl ?_
 refine j_ ?_
 refine e_ rfl ?_
 refine ar_ ?_
 exact G_ Tryz.results132 () (l_ rfl (by unfold Ax.namedU;simp only[pn]at hr6;simp only[hr6];rfl)) (.refl _) zt
theorem Ax.shaped_kind {x:Ax} (h:x.shaped=true):1≤x.kind∧x.kind≤9:=by
 unfold Ax.shaped at h
 split at h
 ·cases h
 rename_i hh;simp only[not_or]at hh;omega
theorem gt_ (x:Ax) (hok:x.ok):Tri Tryz.prog 65 #[x.val] [] [x.memF,ck_] (fun _:Unit=>.int .i64 x.check) (fun _=>[]) (fun _=>[]):=by
 obtain⟨k,op,⟨kl,nl,ll,hl,al,cl,pl⟩,⟨kr,nr,lr,hr,ar,cr,pr⟩,ad,cap,rs,ro,a,b⟩:=x
 refine o_ Tryz.func65 rfl rfl Tryz.ntmps65 rfl fun v0=>?_
 refine m_ ?_
 refine d_ ?_
 refine ah_ rfl rfl fun b1=>?_
 refine c_ (n_ rfl) rfl ?_
 refine j_ ?_
 refine e_ rfl ?_
 refine m_ ?_
 refine m_ ?_
 refine d_ ?_
 refine c_ (P_ 0 bB_ ad_ rfl rfl rfl) rfl ?_
 refine N_ (nW_ ⟨k,op,(.mk kl nl ll hl al cl pl),(.mk kr nr lr hr ar cr pr),ad,cap,rs,ro,a,b⟩) rfl (.refl _) zf rfl fun r1 hr1=>?_
 refine c_ (aE_ rfl) rfl ?_
 refine j_ ?_
 refine e_ rfl ?_
 cases r1
 ·try dsimp only[Con.kind,Con.parts,Con.name,Con.lo,Con.hi,Con.cap,Con.ad]at hr1
  refine E_ rfl ?_
  refine m_ ?_
  refine d_ ?_
  refine c_ (n_ rfl) rfl ?_
  refine j_ ?_
  refine e_ rfl ?_
  refine ar_ ?_
  exact G_ ao_ () (Y_ rfl (by unfold Ax.check;simp_all)) (.refl _) zt
 try dsimp only[Con.kind,Con.parts,Con.name,Con.lo,Con.hi,Con.cap,Con.ad]at hr1
 have hk0:1≤k∧k≤9:=Ax.shaped_kind hr1
 obtain⟨u,hx⟩:∃ u,iP_[k.toNat]? = some u:=⟨_,List.getElem?_eq_getElem (show k.toNat<10 by omega)⟩
 have hus:us k=u:=by simp[us,hx]
 obtain⟨ul,ur,uo,ua,ub,um,un⟩:=u
 refine F_ rfl ?_
 refine ai_ ?_
 refine e_ rfl ?_
 refine m_ ?_
 refine d_ ?_
 refine c_ (A_ p_ rfl rfl rfl ab_) rfl ?_
 refine c_ (M_ 0 ay_ rfl rfl rfl) rfl ?_
 refine c_ (gb_ Tryz.runUnderlying151 dn_ rfl rfl (by show (0:Int)≤k;omega) (by show k<(10:Int);omega)) rfl ?_
 refine c_ (al_ (ad:=some ⟨0,0,none⟩) (us:=Use.cells ⟨ul,ur,uo,ua,ub,um,un⟩) sO_ dn_ rfl (fun v _ h=>h.2.1.2.1) (Use.cells_len _) (H_ Use.cells_len hx)) rfl ?_
 refine au_ Tryz.zeroValue150 rfl fun b2=>?_
 refine aa_ 0 dn_ rfl rfl rfl rfl rfl rfl ?_
 refine j_ ?_
 refine e_ rfl ?_
 refine m_ ?_
 refine m_ ?_
 refine d_ ?_
 refine c_ (P_ 1 bB_ ad_ rfl rfl rfl) rfl ?_
 refine c_ (P_ 0 sO_ dn_ rfl rfl rfl) rfl ?_
 refine N_ (pJ_ ⟨k,op,(.mk kl nl ll hl al cl pl),(.mk kr nr lr hr ar cr pr),ad,cap,rs,ro,a,b⟩ hok ⟨ul,ur,uo,ua,ub,um,un⟩) rfl (.refl _) zf rfl fun r2 hr2=>?_
 refine c_ (aE_ rfl) rfl ?_
 refine j_ ?_
 refine e_ rfl ?_
 cases r2
 ·try dsimp only[Con.kind,Con.parts,Con.name,Con.lo,Con.hi,Con.cap,Con.ad]at hr2
  refine E_ rfl ?_
  refine m_ ?_
  refine d_ ?_
  refine c_ (n_ rfl) rfl ?_
  refine j_ ?_
  refine e_ rfl ?_
  refine ar_ ?_
  exact G_ ao_ () (Y_ rfl (by unfold Ax.check;simp only[hus];simp_all)) (.refl _) zt
 try dsimp only[Con.kind,Con.parts,Con.name,Con.lo,Con.hi,Con.cap,Con.ad]at hr2
 refine F_ rfl ?_
 refine ai_ ?_
 refine e_ rfl ?_
 refine m_ ?_
 refine m_ ?_
 refine d_ ?_
 refine c_ (A_ bl_ rfl rfl rfl dZ_) rfl ?_
 refine c_ (M_ 0 id_ rfl rfl rfl) rfl ?_
 refine j_ ?_
 refine e_ rfl ?_
 cases ul
 ·try dsimp only[Con.kind,Con.parts,Con.name,Con.lo,Con.hi,Con.cap,Con.ad]at hul
  refine F_ rfl ?_
  refine ai_ ?_
  refine e_ rfl ?_
  refine m_ ?_
  refine m_ ?_
  refine d_ ?_
  refine c_ (A_ bl_ rfl rfl rfl dZ_) rfl ?_
  refine c_ (M_ 0 id_ rfl rfl rfl) rfl ?_
  refine j_ ?_
  refine e_ rfl ?_
  cases ur
  ·try dsimp only[Con.kind,Con.parts,Con.name,Con.lo,Con.hi,Con.cap,Con.ad]at hur
   refine F_ rfl ?_
   refine ai_ ?_
   refine e_ rfl ?_
   refine m_ ?_
   refine m_ ?_
   refine d_ ?_
   refine c_ (A_ p_ rfl rfl rfl ab_) rfl ?_
   refine c_ (M_ 1 ay_ rfl rfl rfl) rfl ?_
   refine j_ ?_
   refine e_ rfl ?_
   refine aB_ ?_
   refine m_ ?_
   refine d_ ?_
   refine s_ (V_ rfl rfl) rfl fun r3 hr3=>?_
   refine c_ (n_ rfl) rfl ?_
   refine j_ ?_
   refine e_ rfl ?_
   cases r3
   ·replace hr3:=znb hr3
    try dsimp only[Con.kind,Con.parts,Con.name,Con.lo,Con.hi,Con.cap,Con.ad]at hr3
    refine F_ rfl ?_
    refine m_ ?_
    refine m_ ?_
    refine d_ ?_
    refine s_ (V_ rfl rfl) rfl fun r4 hr4=>?_
    refine c_ (n_ rfl) rfl ?_
    refine j_ ?_
    refine e_ rfl ?_
    cases r4
    ·replace hr4:=znb hr4
     try dsimp only[Con.kind,Con.parts,Con.name,Con.lo,Con.hi,Con.cap,Con.ad]at hr4
     refine F_ rfl ?_
     refine m_ ?_
     refine d_ ?_
     refine s_ (V_ rfl rfl) rfl fun r5 hr5=>?_
     refine c_ (n_ rfl) rfl ?_
     refine j_ ?_
     refine e_ rfl ?_
     cases r5
     ·replace hr5:=znb hr5
      try dsimp only[Con.kind,Con.parts,Con.name,Con.lo,Con.hi,Con.cap,Con.ad]at hr5
      refine F_ rfl ?_
      refine d_ ?_
      refine s_ (V_ rfl rfl) rfl fun r6 hr6=>?_
      refine c_ (n_ rfl) rfl ?_
      refine j_ ?_
      refine e_ rfl ?_
      cases r6
      ·replace hr6:=znb hr6
       try dsimp only[Con.kind,Con.parts,Con.name,Con.lo,Con.hi,Con.cap,Con.ad]at hr6
       refine F_ rfl ?_
       refine ai_ ?_
       refine e_ rfl ?_
       refine m_ ?_
       refine d_ ?_
       refine c_ (n_ rfl) rfl ?_
       refine j_ ?_
       refine e_ rfl ?_
       refine ar_ ?_
       exact G_ ao_ () (Y_ rfl (by unfold Ax.check;simp only[hus];simp_all)) (.refl _) zt
      replace hr6:=zeb hr6
      try dsimp only[Con.kind,Con.parts,Con.name,Con.lo,Con.hi,Con.cap,Con.ad]at hr6
      refine E_ rfl ?_
      refine m_ ?_
      refine d_ ?_
      refine c_ (A_ p_ rfl rfl rfl g_) rfl ?_
      refine c_ (P_ 1 w_ g_ rfl rfl rfl) rfl ?_
      refine N_ (cj_ _ (.mk kr nr lr hr ar cr pr) (Nat.le_refl _) hok.right) rfl (.refl _) (fun v _ h=>⟨h.1.2.1,trivial⟩) rfl fun r7 hr7=>?_
      refine j_ ?_
      refine e_ rfl ?_
      cases r7
      ·try dsimp only[Con.kind,Con.parts,Con.name,Con.lo,Con.hi,Con.cap,Con.ad]at hr7
       refine F_ rfl ?_
       refine ai_ ?_
       refine e_ rfl ?_
       refine m_ ?_
       refine d_ ?_
       refine c_ (n_ rfl) rfl ?_
       refine j_ ?_
       refine e_ rfl ?_
       refine ar_ ?_
       exact G_ ao_ () (Y_ rfl (by unfold Ax.check;simp only[hus];simp_all)) (.refl _) zt
      try dsimp only[Con.kind,Con.parts,Con.name,Con.lo,Con.hi,Con.cap,Con.ad]at hr7
      refine E_ rfl ?_
      refine m_ ?_
      refine d_ ?_
      refine c_ (n_ rfl) rfl ?_
      refine j_ ?_
      refine e_ rfl ?_
      refine ar_ ?_
      exact G_ ao_ () (Y_ rfl (by unfold Ax.check;simp only[hus];simp_all)) (.refl _) zt
     replace hr5:=zeb hr5
     try dsimp only[Con.kind,Con.parts,Con.name,Con.lo,Con.hi,Con.cap,Con.ad]at hr5
     refine E_ rfl ?_
     refine ai_ ?_
     refine e_ rfl ?_
     refine E_ rfl ?_
     refine m_ ?_
     refine d_ ?_
     refine c_ (A_ p_ rfl rfl rfl g_) rfl ?_
     refine c_ (P_ 1 w_ g_ rfl rfl rfl) rfl ?_
     refine N_ (cj_ _ (.mk kr nr lr hr ar cr pr) (Nat.le_refl _) hok.right) rfl (.refl _) (fun v _ h=>⟨h.1.2.1,trivial⟩) rfl fun r8 hr8=>?_
     refine j_ ?_
     refine e_ rfl ?_
     cases r8
     ·try dsimp only[Con.kind,Con.parts,Con.name,Con.lo,Con.hi,Con.cap,Con.ad]at hr8
      refine F_ rfl ?_
      refine ai_ ?_
      refine e_ rfl ?_
      refine m_ ?_
      refine d_ ?_
      refine c_ (n_ rfl) rfl ?_
      refine j_ ?_
      refine e_ rfl ?_
      refine ar_ ?_
      exact G_ ao_ () (Y_ rfl (by unfold Ax.check;simp only[hus];simp_all)) (.refl _) zt
     try dsimp only[Con.kind,Con.parts,Con.name,Con.lo,Con.hi,Con.cap,Con.ad]at hr8
     refine E_ rfl ?_
     refine m_ ?_
     refine d_ ?_
     refine c_ (n_ rfl) rfl ?_
     refine j_ ?_
     refine e_ rfl ?_
     refine ar_ ?_
     exact G_ ao_ () (Y_ rfl (by unfold Ax.check;simp only[hus];simp_all)) (.refl _) zt
    replace hr4:=zeb hr4
    try dsimp only[Con.kind,Con.parts,Con.name,Con.lo,Con.hi,Con.cap,Con.ad]at hr4
    refine E_ rfl ?_
    refine ai_ ?_
    refine e_ rfl ?_
    refine E_ rfl ?_
    refine m_ ?_
    refine d_ ?_
    refine c_ (A_ p_ rfl rfl rfl g_) rfl ?_
    refine c_ (P_ 1 w_ g_ rfl rfl rfl) rfl ?_
    refine N_ (cj_ _ (.mk kr nr lr hr ar cr pr) (Nat.le_refl _) hok.right) rfl (.refl _) (fun v _ h=>⟨h.1.2.1,trivial⟩) rfl fun r9 hr9=>?_
    refine j_ ?_
    refine e_ rfl ?_
    cases r9
    ·try dsimp only[Con.kind,Con.parts,Con.name,Con.lo,Con.hi,Con.cap,Con.ad]at hr9
     refine F_ rfl ?_
     refine ai_ ?_
     refine e_ rfl ?_
     refine m_ ?_
     refine d_ ?_
     refine c_ (n_ rfl) rfl ?_
     refine j_ ?_
     refine e_ rfl ?_
     refine ar_ ?_
     exact G_ ao_ () (Y_ rfl (by unfold Ax.check;simp only[hus];simp_all)) (.refl _) zt
    try dsimp only[Con.kind,Con.parts,Con.name,Con.lo,Con.hi,Con.cap,Con.ad]at hr9
    refine E_ rfl ?_
    refine m_ ?_
    refine d_ ?_
    refine c_ (n_ rfl) rfl ?_
    refine j_ ?_
    refine e_ rfl ?_
    refine ar_ ?_
    exact G_ ao_ () (Y_ rfl (by unfold Ax.check;simp only[hus];simp_all)) (.refl _) zt
   replace hr3:=zeb hr3
   try dsimp only[Con.kind,Con.parts,Con.name,Con.lo,Con.hi,Con.cap,Con.ad]at hr3
   refine E_ rfl ?_
   refine m_ ?_
   refine d_ ?_
   refine c_ (A_ p_ rfl rfl rfl g_) rfl ?_
   refine c_ (P_ 1 w_ g_ rfl rfl rfl) rfl ?_
   refine N_ (cj_ _ (.mk kl nl ll hl al cl pl) (Nat.le_refl _) hok.left) rfl (.refl _) (fun v _ h=>⟨h.1.1,trivial⟩) rfl fun r10 hr10=>?_
   refine c_ (q_ rfl) rfl ?_
   refine as_ 4 ((Con.bare (.mk kl nl ll hl al cl pl))||(Con.bare (.mk kr nr lr hr ar cr pr))) (fun r=>[(0,.agg #[.int .i64 k,.bool op,.int .i64 kl,str nl,.int .i64 ll,.int .i64 hl,.slice al pl.length cl,.int .i64 kr,str nr,.int .i64 lr,.int .i64 hr,.slice ar pr.length cr,.slice ad rs.length cap,str ro,str a,str b]),(1,zp_ b1 0),(2,.int .i64 0),(6,.agg #[.int .i64 k,.bool op,.int .i64 kl,str nl,.int .i64 ll,.int .i64 hl,.slice al pl.length cl,.int .i64 kr,str nr,.int .i64 lr,.int .i64 hr,.slice ar pr.length cr,.slice ad rs.length cap,str ro,str a,str b]),(7,.bool true),(8,.bool false),(9,zp_ b1 0),(10,.int .i64 k),(11,.pointer (some (rad (some ⟨0,0,none⟩) (k.toNat*7)))),(12,.agg #[.bool false,.bool false,.bool uo,.bool ua,.bool ub,.int .i64 um,.int .i64 un]),(3,zp_ b2 0),(13,.agg #[.int .i64 k,.bool op,.int .i64 kl,str nl,.int .i64 ll,.int .i64 hl,.slice al pl.length cl,.int .i64 kr,str nr,.int .i64 lr,.int .i64 hr,.slice ar pr.length cr,.slice ad rs.length cap,str ro,str a,str b]),(14,.agg #[.bool false,.bool false,.bool uo,.bool ua,.bool ub,.int .i64 um,.int .i64 un]),(15,.bool true),(16,.bool false),(17,zp_ b2 0),(18,.bool false),(25,zp_ b2 1),(26,.bool false),(33,zp_ b1 0),(34,.int .i64 k),(36,.bool true),(35,.bool true),(44,.bool r)]) ?_ fun r11 hr11=>?_
   ·cases r10
    ·have qr11:=hr10
     try dsimp only[Con.kind,Con.parts,Con.name,Con.lo,Con.hi,Con.cap,Con.ad]at hr10
     refine ag_ rfl rfl ?_
     refine c_ (A_ p_ rfl rfl rfl g_) rfl ?_
     refine ag_ rfl rfl ?_
     refine c_ (P_ 1 w_ g_ rfl rfl rfl) rfl ?_
     refine ag_ rfl rfl ?_
     refine N_ (cj_ _ (.mk kr nr lr hr ar cr pr) (Nat.le_refl _) hok.right) rfl (.refl _) (fun v _ h=>⟨h.1.2.1,trivial⟩) rfl fun r12 hr12=>?_
     refine c_ (bS_ rfl rfl) rfl ?_
     refine j_ ?_
     refine L_ rfl ?_
     exact met ⟨rfl,rfl,rfl,rfl,rfl,rfl,rfl,rfl,rfl,rfl,rfl,rfl,rfl,rfl,rfl,rfl,rfl,rfl,rfl,rfl,rfl,rfl,rfl,(l_ rfl (jof qr11 hr12)),trivial⟩
    have qr11:=hr10
    try dsimp only[Con.kind,Con.parts,Con.name,Con.lo,Con.hi,Con.cap,Con.ad]at hr10
    refine bc_ rfl rfl rfl rfl ?_
    refine bc_ rfl rfl rfl rfl ?_
    refine bc_ rfl rfl rfl rfl ?_
    refine c_ (bx_ rfl rfl) rfl ?_
    refine j_ ?_
    refine L_ rfl ?_
    exact met ⟨rfl,rfl,rfl,rfl,rfl,rfl,rfl,rfl,rfl,rfl,rfl,rfl,rfl,rfl,rfl,rfl,rfl,rfl,rfl,rfl,rfl,rfl,rfl,(l_ rfl (jot qr11)),trivial⟩
   refine j_ ?_
   refine e_ rfl ?_
   cases r11
   ·simp at hr11
    try dsimp only[Con.kind,Con.parts,Con.name,Con.lo,Con.hi,Con.cap,Con.ad]at hr11
    refine F_ rfl ?_
    refine ai_ ?_
    refine e_ rfl ?_
    refine m_ ?_
    refine d_ ?_
    refine c_ (n_ rfl) rfl ?_
    refine j_ ?_
    refine e_ rfl ?_
    refine ar_ ?_
    exact G_ ao_ () (Y_ rfl (by unfold Ax.check;simp only[hus];simp_all)) (.refl _) zt
   simp at hr11
   try dsimp only[Con.kind,Con.parts,Con.name,Con.lo,Con.hi,Con.cap,Con.ad]at hr11
   refine E_ rfl ?_
   refine m_ ?_
   refine d_ ?_
   refine c_ (n_ rfl) rfl ?_
   refine j_ ?_
   refine e_ rfl ?_
   refine ar_ ?_
   exact G_ ao_ () (Y_ rfl (by unfold Ax.check;simp only[hus];simp_all)) (.refl _) zt
  try dsimp only[Con.kind,Con.parts,Con.name,Con.lo,Con.hi,Con.cap,Con.ad]at hur
  refine E_ rfl ?_
  refine m_ ?_
  refine d_ ?_
  refine c_ (A_ p_ rfl rfl rfl g_) rfl ?_
  refine c_ (P_ 1 w_ g_ rfl rfl rfl) rfl ?_
  refine i_ (ex_ (.mk kr nr lr hr ar cr pr) hok.right) rfl (.refl _) (fun v _ h=>⟨h.1.2.1,h.2.1,trivial⟩) rfl fun _=>?_
  refine c_ (n_ rfl) rfl ?_
  refine j_ ?_
  refine e_ rfl ?_
  refine m_ ?_
  refine d_ ?_
  refine c_ (q_ rfl) rfl ?_
  refine s_ (bU_ rfl rfl) rfl fun r13 hr13=>?_
  refine j_ ?_
  refine e_ rfl ?_
  cases r13
  ·replace hr13:=cy_ hr13
   try dsimp only[Con.kind,Con.parts,Con.name,Con.lo,Con.hi,Con.cap,Con.ad]at hr13
   refine F_ rfl ?_
   refine ai_ ?_
   refine e_ rfl ?_
   refine m_ ?_
   refine m_ ?_
   refine d_ ?_
   refine c_ (A_ p_ rfl rfl rfl ab_) rfl ?_
   refine c_ (M_ 1 ay_ rfl rfl rfl) rfl ?_
   refine j_ ?_
   refine e_ rfl ?_
   refine aB_ ?_
   refine m_ ?_
   refine d_ ?_
   refine s_ (V_ rfl rfl) rfl fun r14 hr14=>?_
   refine c_ (n_ rfl) rfl ?_
   refine j_ ?_
   refine e_ rfl ?_
   cases r14
   ·replace hr14:=znb hr14
    try dsimp only[Con.kind,Con.parts,Con.name,Con.lo,Con.hi,Con.cap,Con.ad]at hr14
    refine F_ rfl ?_
    refine m_ ?_
    refine m_ ?_
    refine d_ ?_
    refine s_ (V_ rfl rfl) rfl fun r15 hr15=>?_
    refine c_ (n_ rfl) rfl ?_
    refine j_ ?_
    refine e_ rfl ?_
    cases r15
    ·replace hr15:=znb hr15
     try dsimp only[Con.kind,Con.parts,Con.name,Con.lo,Con.hi,Con.cap,Con.ad]at hr15
     refine F_ rfl ?_
     refine m_ ?_
     refine d_ ?_
     refine s_ (V_ rfl rfl) rfl fun r16 hr16=>?_
     refine c_ (n_ rfl) rfl ?_
     refine j_ ?_
     refine e_ rfl ?_
     cases r16
     ·replace hr16:=znb hr16
      try dsimp only[Con.kind,Con.parts,Con.name,Con.lo,Con.hi,Con.cap,Con.ad]at hr16
      refine F_ rfl ?_
      refine d_ ?_
      refine s_ (V_ rfl rfl) rfl fun r17 hr17=>?_
      refine c_ (n_ rfl) rfl ?_
      refine j_ ?_
      refine e_ rfl ?_
      cases r17
      ·replace hr17:=znb hr17
       try dsimp only[Con.kind,Con.parts,Con.name,Con.lo,Con.hi,Con.cap,Con.ad]at hr17
       refine F_ rfl ?_
       refine ai_ ?_
       refine e_ rfl ?_
       refine m_ ?_
       refine d_ ?_
       refine c_ (n_ rfl) rfl ?_
       refine j_ ?_
       refine e_ rfl ?_
       refine ar_ ?_
       exact G_ ao_ () (Y_ rfl (by unfold Ax.check;simp only[hus];simp_all)) (.refl _) zt
      replace hr17:=zeb hr17
      try dsimp only[Con.kind,Con.parts,Con.name,Con.lo,Con.hi,Con.cap,Con.ad]at hr17
      refine E_ rfl ?_
      refine m_ ?_
      refine d_ ?_
      refine c_ (A_ p_ rfl rfl rfl g_) rfl ?_
      refine c_ (P_ 1 w_ g_ rfl rfl rfl) rfl ?_
      refine N_ (cj_ _ (.mk kr nr lr hr ar cr pr) (Nat.le_refl _) hok.right) rfl (.refl _) (fun v _ h=>⟨h.1.2.1,trivial⟩) rfl fun r18 hr18=>?_
      refine j_ ?_
      refine e_ rfl ?_
      cases r18
      ·try dsimp only[Con.kind,Con.parts,Con.name,Con.lo,Con.hi,Con.cap,Con.ad]at hr18
       refine F_ rfl ?_
       refine ai_ ?_
       refine e_ rfl ?_
       refine m_ ?_
       refine d_ ?_
       refine c_ (n_ rfl) rfl ?_
       refine j_ ?_
       refine e_ rfl ?_
       refine ar_ ?_
       exact G_ ao_ () (Y_ rfl (by unfold Ax.check;simp only[hus];simp_all)) (.refl _) zt
      try dsimp only[Con.kind,Con.parts,Con.name,Con.lo,Con.hi,Con.cap,Con.ad]at hr18
      refine E_ rfl ?_
      refine m_ ?_
      refine d_ ?_
      refine c_ (n_ rfl) rfl ?_
      refine j_ ?_
      refine e_ rfl ?_
      refine ar_ ?_
      exact G_ ao_ () (Y_ rfl (by unfold Ax.check;simp only[hus];simp_all)) (.refl _) zt
     replace hr16:=zeb hr16
     try dsimp only[Con.kind,Con.parts,Con.name,Con.lo,Con.hi,Con.cap,Con.ad]at hr16
     refine E_ rfl ?_
     refine ai_ ?_
     refine e_ rfl ?_
     refine E_ rfl ?_
     refine m_ ?_
     refine d_ ?_
     refine c_ (A_ p_ rfl rfl rfl g_) rfl ?_
     refine c_ (P_ 1 w_ g_ rfl rfl rfl) rfl ?_
     refine N_ (cj_ _ (.mk kr nr lr hr ar cr pr) (Nat.le_refl _) hok.right) rfl (.refl _) (fun v _ h=>⟨h.1.2.1,trivial⟩) rfl fun r19 hr19=>?_
     refine j_ ?_
     refine e_ rfl ?_
     cases r19
     ·try dsimp only[Con.kind,Con.parts,Con.name,Con.lo,Con.hi,Con.cap,Con.ad]at hr19
      refine F_ rfl ?_
      refine ai_ ?_
      refine e_ rfl ?_
      refine m_ ?_
      refine d_ ?_
      refine c_ (n_ rfl) rfl ?_
      refine j_ ?_
      refine e_ rfl ?_
      refine ar_ ?_
      exact G_ ao_ () (Y_ rfl (by unfold Ax.check;simp only[hus];simp_all)) (.refl _) zt
     try dsimp only[Con.kind,Con.parts,Con.name,Con.lo,Con.hi,Con.cap,Con.ad]at hr19
     refine E_ rfl ?_
     refine m_ ?_
     refine d_ ?_
     refine c_ (n_ rfl) rfl ?_
     refine j_ ?_
     refine e_ rfl ?_
     refine ar_ ?_
     exact G_ ao_ () (Y_ rfl (by unfold Ax.check;simp only[hus];simp_all)) (.refl _) zt
    replace hr15:=zeb hr15
    try dsimp only[Con.kind,Con.parts,Con.name,Con.lo,Con.hi,Con.cap,Con.ad]at hr15
    refine E_ rfl ?_
    refine ai_ ?_
    refine e_ rfl ?_
    refine E_ rfl ?_
    refine m_ ?_
    refine d_ ?_
    refine c_ (A_ p_ rfl rfl rfl g_) rfl ?_
    refine c_ (P_ 1 w_ g_ rfl rfl rfl) rfl ?_
    refine N_ (cj_ _ (.mk kr nr lr hr ar cr pr) (Nat.le_refl _) hok.right) rfl (.refl _) (fun v _ h=>⟨h.1.2.1,trivial⟩) rfl fun r20 hr20=>?_
    refine j_ ?_
    refine e_ rfl ?_
    cases r20
    ·try dsimp only[Con.kind,Con.parts,Con.name,Con.lo,Con.hi,Con.cap,Con.ad]at hr20
     refine F_ rfl ?_
     refine ai_ ?_
     refine e_ rfl ?_
     refine m_ ?_
     refine d_ ?_
     refine c_ (n_ rfl) rfl ?_
     refine j_ ?_
     refine e_ rfl ?_
     refine ar_ ?_
     exact G_ ao_ () (Y_ rfl (by unfold Ax.check;simp only[hus];simp_all)) (.refl _) zt
    try dsimp only[Con.kind,Con.parts,Con.name,Con.lo,Con.hi,Con.cap,Con.ad]at hr20
    refine E_ rfl ?_
    refine m_ ?_
    refine d_ ?_
    refine c_ (n_ rfl) rfl ?_
    refine j_ ?_
    refine e_ rfl ?_
    refine ar_ ?_
    exact G_ ao_ () (Y_ rfl (by unfold Ax.check;simp only[hus];simp_all)) (.refl _) zt
   replace hr14:=zeb hr14
   try dsimp only[Con.kind,Con.parts,Con.name,Con.lo,Con.hi,Con.cap,Con.ad]at hr14
   refine E_ rfl ?_
   refine m_ ?_
   refine d_ ?_
   refine c_ (A_ p_ rfl rfl rfl g_) rfl ?_
   refine c_ (P_ 1 w_ g_ rfl rfl rfl) rfl ?_
   refine N_ (cj_ _ (.mk kl nl ll hl al cl pl) (Nat.le_refl _) hok.left) rfl (.refl _) (fun v _ h=>⟨h.1.1,trivial⟩) rfl fun r21 hr21=>?_
   refine c_ (q_ rfl) rfl ?_
   refine as_ 4 ((Con.bare (.mk kl nl ll hl al cl pl))||(Con.bare (.mk kr nr lr hr ar cr pr))) (fun r=>[(0,.agg #[.int .i64 k,.bool op,.int .i64 kl,str nl,.int .i64 ll,.int .i64 hl,.slice al pl.length cl,.int .i64 kr,str nr,.int .i64 lr,.int .i64 hr,.slice ar pr.length cr,.slice ad rs.length cap,str ro,str a,str b]),(1,zp_ b1 0),(2,.int .i64 0),(6,.agg #[.int .i64 k,.bool op,.int .i64 kl,str nl,.int .i64 ll,.int .i64 hl,.slice al pl.length cl,.int .i64 kr,str nr,.int .i64 lr,.int .i64 hr,.slice ar pr.length cr,.slice ad rs.length cap,str ro,str a,str b]),(7,.bool true),(8,.bool false),(9,zp_ b1 0),(10,.int .i64 k),(11,.pointer (some (rad (some ⟨0,0,none⟩) (k.toNat*7)))),(12,.agg #[.bool false,.bool true,.bool uo,.bool ua,.bool ub,.int .i64 um,.int .i64 un]),(3,zp_ b2 0),(13,.agg #[.int .i64 k,.bool op,.int .i64 kl,str nl,.int .i64 ll,.int .i64 hl,.slice al pl.length cl,.int .i64 kr,str nr,.int .i64 lr,.int .i64 hr,.slice ar pr.length cr,.slice ad rs.length cap,str ro,str a,str b]),(14,.agg #[.bool false,.bool true,.bool uo,.bool ua,.bool ub,.int .i64 um,.int .i64 un]),(15,.bool true),(16,.bool false),(17,zp_ b2 0),(18,.bool false),(25,zp_ b2 1),(26,.bool true),(27,zp_ b1 7),(28,.agg #[.int .i64 kr,str nr,.int .i64 lr,.int .i64 hr,.slice ar pr.length cr]),(29,.int .i64 (Con.check (.mk kr nr lr hr ar cr pr))),(5,.int .i64 (Con.check (.mk kr nr lr hr ar cr pr))),(30,.int .i64 (Con.check (.mk kr nr lr hr ar cr pr))),(31,.bool false),(33,zp_ b1 0),(34,.int .i64 k),(36,.bool true),(35,.bool true),(44,.bool r)]) ?_ fun r22 hr22=>?_
   ·cases r21
    ·have qr22:=hr21
     try dsimp only[Con.kind,Con.parts,Con.name,Con.lo,Con.hi,Con.cap,Con.ad]at hr21
     refine ag_ rfl rfl ?_
     refine c_ (A_ p_ rfl rfl rfl g_) rfl ?_
     refine ag_ rfl rfl ?_
     refine c_ (P_ 1 w_ g_ rfl rfl rfl) rfl ?_
     refine ag_ rfl rfl ?_
     refine N_ (cj_ _ (.mk kr nr lr hr ar cr pr) (Nat.le_refl _) hok.right) rfl (.refl _) (fun v _ h=>⟨h.1.2.1,trivial⟩) rfl fun r23 hr23=>?_
     refine c_ (bS_ rfl rfl) rfl ?_
     refine j_ ?_
     refine L_ rfl ?_
     exact met ⟨rfl,rfl,rfl,rfl,rfl,rfl,rfl,rfl,rfl,rfl,rfl,rfl,rfl,rfl,rfl,rfl,rfl,rfl,rfl,rfl,rfl,rfl,rfl,rfl,rfl,rfl,rfl,rfl,rfl,(l_ rfl (jof qr22 hr23)),trivial⟩
    have qr22:=hr21
    try dsimp only[Con.kind,Con.parts,Con.name,Con.lo,Con.hi,Con.cap,Con.ad]at hr21
    refine bc_ rfl rfl rfl rfl ?_
    refine bc_ rfl rfl rfl rfl ?_
    refine bc_ rfl rfl rfl rfl ?_
    refine c_ (bx_ rfl rfl) rfl ?_
    refine j_ ?_
    refine L_ rfl ?_
    exact met ⟨rfl,rfl,rfl,rfl,rfl,rfl,rfl,rfl,rfl,rfl,rfl,rfl,rfl,rfl,rfl,rfl,rfl,rfl,rfl,rfl,rfl,rfl,rfl,rfl,rfl,rfl,rfl,rfl,rfl,(l_ rfl (jot qr22)),trivial⟩
   refine j_ ?_
   refine e_ rfl ?_
   cases r22
   ·simp at hr22
    try dsimp only[Con.kind,Con.parts,Con.name,Con.lo,Con.hi,Con.cap,Con.ad]at hr22
    refine F_ rfl ?_
    refine ai_ ?_
    refine e_ rfl ?_
    refine m_ ?_
    refine d_ ?_
    refine c_ (n_ rfl) rfl ?_
    refine j_ ?_
    refine e_ rfl ?_
    refine ar_ ?_
    exact G_ ao_ () (Y_ rfl (by unfold Ax.check;simp only[hus];simp_all)) (.refl _) zt
   simp at hr22
   try dsimp only[Con.kind,Con.parts,Con.name,Con.lo,Con.hi,Con.cap,Con.ad]at hr22
   refine E_ rfl ?_
   refine m_ ?_
   refine d_ ?_
   refine c_ (n_ rfl) rfl ?_
   refine j_ ?_
   refine e_ rfl ?_
   refine ar_ ?_
   exact G_ ao_ () (Y_ rfl (by unfold Ax.check;simp only[hus];simp_all)) (.refl _) zt
  replace hr13:=cw_ hr13
  try dsimp only[Con.kind,Con.parts,Con.name,Con.lo,Con.hi,Con.cap,Con.ad]at hr13
  refine E_ rfl ?_
  refine m_ ?_
  refine d_ ?_
  refine c_ (q_ rfl) rfl ?_
  refine c_ (n_ rfl) rfl ?_
  refine j_ ?_
  refine e_ rfl ?_
  refine ar_ ?_
  exact G_ ao_ () (Y_ rfl (by unfold Ax.check;simp only[hus];simp_all)) (.refl _) zt
 try dsimp only[Con.kind,Con.parts,Con.name,Con.lo,Con.hi,Con.cap,Con.ad]at hul
 refine E_ rfl ?_
 refine m_ ?_
 refine d_ ?_
 refine c_ (A_ p_ rfl rfl rfl g_) rfl ?_
 refine c_ (P_ 1 w_ g_ rfl rfl rfl) rfl ?_
 refine i_ (ex_ (.mk kl nl ll hl al cl pl) hok.left) rfl (.refl _) (fun v _ h=>⟨h.1.1,h.2.1,trivial⟩) rfl fun _=>?_
 refine c_ (n_ rfl) rfl ?_
 refine j_ ?_
 refine e_ rfl ?_
 refine m_ ?_
 refine d_ ?_
 refine c_ (q_ rfl) rfl ?_
 refine s_ (bU_ rfl rfl) rfl fun r24 hr24=>?_
 refine j_ ?_
 refine e_ rfl ?_
 cases r24
 ·replace hr24:=cy_ hr24
  try dsimp only[Con.kind,Con.parts,Con.name,Con.lo,Con.hi,Con.cap,Con.ad]at hr24
  refine F_ rfl ?_
  refine ai_ ?_
  refine e_ rfl ?_
  refine m_ ?_
  refine m_ ?_
  refine d_ ?_
  refine c_ (A_ bl_ rfl rfl rfl dZ_) rfl ?_
  refine c_ (M_ 0 id_ rfl rfl rfl) rfl ?_
  refine j_ ?_
  refine e_ rfl ?_
  cases ur
  ·try dsimp only[Con.kind,Con.parts,Con.name,Con.lo,Con.hi,Con.cap,Con.ad]at hur
   refine F_ rfl ?_
   refine ai_ ?_
   refine e_ rfl ?_
   refine m_ ?_
   refine m_ ?_
   refine d_ ?_
   refine c_ (A_ p_ rfl rfl rfl ab_) rfl ?_
   refine c_ (M_ 1 ay_ rfl rfl rfl) rfl ?_
   refine j_ ?_
   refine e_ rfl ?_
   refine aB_ ?_
   refine m_ ?_
   refine d_ ?_
   refine s_ (V_ rfl rfl) rfl fun r25 hr25=>?_
   refine c_ (n_ rfl) rfl ?_
   refine j_ ?_
   refine e_ rfl ?_
   cases r25
   ·replace hr25:=znb hr25
    try dsimp only[Con.kind,Con.parts,Con.name,Con.lo,Con.hi,Con.cap,Con.ad]at hr25
    refine F_ rfl ?_
    refine m_ ?_
    refine m_ ?_
    refine d_ ?_
    refine s_ (V_ rfl rfl) rfl fun r26 hr26=>?_
    refine c_ (n_ rfl) rfl ?_
    refine j_ ?_
    refine e_ rfl ?_
    cases r26
    ·replace hr26:=znb hr26
     try dsimp only[Con.kind,Con.parts,Con.name,Con.lo,Con.hi,Con.cap,Con.ad]at hr26
     refine F_ rfl ?_
     refine m_ ?_
     refine d_ ?_
     refine s_ (V_ rfl rfl) rfl fun r27 hr27=>?_
     refine c_ (n_ rfl) rfl ?_
     refine j_ ?_
     refine e_ rfl ?_
     cases r27
     ·replace hr27:=znb hr27
      try dsimp only[Con.kind,Con.parts,Con.name,Con.lo,Con.hi,Con.cap,Con.ad]at hr27
      refine F_ rfl ?_
      refine d_ ?_
      refine s_ (V_ rfl rfl) rfl fun r28 hr28=>?_
      refine c_ (n_ rfl) rfl ?_
      refine j_ ?_
      refine e_ rfl ?_
      cases r28
      ·replace hr28:=znb hr28
       try dsimp only[Con.kind,Con.parts,Con.name,Con.lo,Con.hi,Con.cap,Con.ad]at hr28
       refine F_ rfl ?_
       refine ai_ ?_
       refine e_ rfl ?_
       refine m_ ?_
       refine d_ ?_
       refine c_ (n_ rfl) rfl ?_
       refine j_ ?_
       refine e_ rfl ?_
       refine ar_ ?_
       exact G_ ao_ () (Y_ rfl (by unfold Ax.check;simp only[hus];simp_all)) (.refl _) zt
      replace hr28:=zeb hr28
      try dsimp only[Con.kind,Con.parts,Con.name,Con.lo,Con.hi,Con.cap,Con.ad]at hr28
      refine E_ rfl ?_
      refine m_ ?_
      refine d_ ?_
      refine c_ (A_ p_ rfl rfl rfl g_) rfl ?_
      refine c_ (P_ 1 w_ g_ rfl rfl rfl) rfl ?_
      refine N_ (cj_ _ (.mk kr nr lr hr ar cr pr) (Nat.le_refl _) hok.right) rfl (.refl _) (fun v _ h=>⟨h.1.2.1,trivial⟩) rfl fun r29 hr29=>?_
      refine j_ ?_
      refine e_ rfl ?_
      cases r29
      ·try dsimp only[Con.kind,Con.parts,Con.name,Con.lo,Con.hi,Con.cap,Con.ad]at hr29
       refine F_ rfl ?_
       refine ai_ ?_
       refine e_ rfl ?_
       refine m_ ?_
       refine d_ ?_
       refine c_ (n_ rfl) rfl ?_
       refine j_ ?_
       refine e_ rfl ?_
       refine ar_ ?_
       exact G_ ao_ () (Y_ rfl (by unfold Ax.check;simp only[hus];simp_all)) (.refl _) zt
      try dsimp only[Con.kind,Con.parts,Con.name,Con.lo,Con.hi,Con.cap,Con.ad]at hr29
      refine E_ rfl ?_
      refine m_ ?_
      refine d_ ?_
      refine c_ (n_ rfl) rfl ?_
      refine j_ ?_
      refine e_ rfl ?_
      refine ar_ ?_
      exact G_ ao_ () (Y_ rfl (by unfold Ax.check;simp only[hus];simp_all)) (.refl _) zt
     replace hr27:=zeb hr27
     try dsimp only[Con.kind,Con.parts,Con.name,Con.lo,Con.hi,Con.cap,Con.ad]at hr27
     refine E_ rfl ?_
     refine ai_ ?_
     refine e_ rfl ?_
     refine E_ rfl ?_
     refine m_ ?_
     refine d_ ?_
     refine c_ (A_ p_ rfl rfl rfl g_) rfl ?_
     refine c_ (P_ 1 w_ g_ rfl rfl rfl) rfl ?_
     refine N_ (cj_ _ (.mk kr nr lr hr ar cr pr) (Nat.le_refl _) hok.right) rfl (.refl _) (fun v _ h=>⟨h.1.2.1,trivial⟩) rfl fun r30 hr30=>?_
     refine j_ ?_
     refine e_ rfl ?_
     cases r30
     ·try dsimp only[Con.kind,Con.parts,Con.name,Con.lo,Con.hi,Con.cap,Con.ad]at hr30
      refine F_ rfl ?_
      refine ai_ ?_
      refine e_ rfl ?_
      refine m_ ?_
      refine d_ ?_
      refine c_ (n_ rfl) rfl ?_
      refine j_ ?_
      refine e_ rfl ?_
      refine ar_ ?_
      exact G_ ao_ () (Y_ rfl (by unfold Ax.check;simp only[hus];simp_all)) (.refl _) zt
     try dsimp only[Con.kind,Con.parts,Con.name,Con.lo,Con.hi,Con.cap,Con.ad]at hr30
     refine E_ rfl ?_
     refine m_ ?_
     refine d_ ?_
     refine c_ (n_ rfl) rfl ?_
     refine j_ ?_
     refine e_ rfl ?_
     refine ar_ ?_
     exact G_ ao_ () (Y_ rfl (by unfold Ax.check;simp only[hus];simp_all)) (.refl _) zt
    replace hr26:=zeb hr26
    try dsimp only[Con.kind,Con.parts,Con.name,Con.lo,Con.hi,Con.cap,Con.ad]at hr26
    refine E_ rfl ?_
    refine ai_ ?_
    refine e_ rfl ?_
    refine E_ rfl ?_
    refine m_ ?_
    refine d_ ?_
    refine c_ (A_ p_ rfl rfl rfl g_) rfl ?_
    refine c_ (P_ 1 w_ g_ rfl rfl rfl) rfl ?_
    refine N_ (cj_ _ (.mk kr nr lr hr ar cr pr) (Nat.le_refl _) hok.right) rfl (.refl _) (fun v _ h=>⟨h.1.2.1,trivial⟩) rfl fun r31 hr31=>?_
    refine j_ ?_
    refine e_ rfl ?_
    cases r31
    ·try dsimp only[Con.kind,Con.parts,Con.name,Con.lo,Con.hi,Con.cap,Con.ad]at hr31
     refine F_ rfl ?_
     refine ai_ ?_
     refine e_ rfl ?_
     refine m_ ?_
     refine d_ ?_
     refine c_ (n_ rfl) rfl ?_
     refine j_ ?_
     refine e_ rfl ?_
     refine ar_ ?_
     exact G_ ao_ () (Y_ rfl (by unfold Ax.check;simp only[hus];simp_all)) (.refl _) zt
    try dsimp only[Con.kind,Con.parts,Con.name,Con.lo,Con.hi,Con.cap,Con.ad]at hr31
    refine E_ rfl ?_
    refine m_ ?_
    refine d_ ?_
    refine c_ (n_ rfl) rfl ?_
    refine j_ ?_
    refine e_ rfl ?_
    refine ar_ ?_
    exact G_ ao_ () (Y_ rfl (by unfold Ax.check;simp only[hus];simp_all)) (.refl _) zt
   replace hr25:=zeb hr25
   try dsimp only[Con.kind,Con.parts,Con.name,Con.lo,Con.hi,Con.cap,Con.ad]at hr25
   refine E_ rfl ?_
   refine m_ ?_
   refine d_ ?_
   refine c_ (A_ p_ rfl rfl rfl g_) rfl ?_
   refine c_ (P_ 1 w_ g_ rfl rfl rfl) rfl ?_
   refine N_ (cj_ _ (.mk kl nl ll hl al cl pl) (Nat.le_refl _) hok.left) rfl (.refl _) (fun v _ h=>⟨h.1.1,trivial⟩) rfl fun r32 hr32=>?_
   refine c_ (q_ rfl) rfl ?_
   refine as_ 4 ((Con.bare (.mk kl nl ll hl al cl pl))||(Con.bare (.mk kr nr lr hr ar cr pr))) (fun r=>[(0,.agg #[.int .i64 k,.bool op,.int .i64 kl,str nl,.int .i64 ll,.int .i64 hl,.slice al pl.length cl,.int .i64 kr,str nr,.int .i64 lr,.int .i64 hr,.slice ar pr.length cr,.slice ad rs.length cap,str ro,str a,str b]),(1,zp_ b1 0),(2,.int .i64 0),(6,.agg #[.int .i64 k,.bool op,.int .i64 kl,str nl,.int .i64 ll,.int .i64 hl,.slice al pl.length cl,.int .i64 kr,str nr,.int .i64 lr,.int .i64 hr,.slice ar pr.length cr,.slice ad rs.length cap,str ro,str a,str b]),(7,.bool true),(8,.bool false),(9,zp_ b1 0),(10,.int .i64 k),(11,.pointer (some (rad (some ⟨0,0,none⟩) (k.toNat*7)))),(12,.agg #[.bool true,.bool false,.bool uo,.bool ua,.bool ub,.int .i64 um,.int .i64 un]),(3,zp_ b2 0),(13,.agg #[.int .i64 k,.bool op,.int .i64 kl,str nl,.int .i64 ll,.int .i64 hl,.slice al pl.length cl,.int .i64 kr,str nr,.int .i64 lr,.int .i64 hr,.slice ar pr.length cr,.slice ad rs.length cap,str ro,str a,str b]),(14,.agg #[.bool true,.bool false,.bool uo,.bool ua,.bool ub,.int .i64 um,.int .i64 un]),(15,.bool true),(16,.bool false),(17,zp_ b2 0),(18,.bool true),(19,zp_ b1 2),(20,.agg #[.int .i64 kl,str nl,.int .i64 ll,.int .i64 hl,.slice al pl.length cl]),(21,.int .i64 (Con.check (.mk kl nl ll hl al cl pl))),(4,.int .i64 (Con.check (.mk kl nl ll hl al cl pl))),(22,.int .i64 (Con.check (.mk kl nl ll hl al cl pl))),(23,.bool false),(25,zp_ b2 1),(26,.bool false),(33,zp_ b1 0),(34,.int .i64 k),(36,.bool true),(35,.bool true),(44,.bool r)]) ?_ fun r33 hr33=>?_
   ·cases r32
    ·have qr33:=hr32
     try dsimp only[Con.kind,Con.parts,Con.name,Con.lo,Con.hi,Con.cap,Con.ad]at hr32
     refine ag_ rfl rfl ?_
     refine c_ (A_ p_ rfl rfl rfl g_) rfl ?_
     refine ag_ rfl rfl ?_
     refine c_ (P_ 1 w_ g_ rfl rfl rfl) rfl ?_
     refine ag_ rfl rfl ?_
     refine N_ (cj_ _ (.mk kr nr lr hr ar cr pr) (Nat.le_refl _) hok.right) rfl (.refl _) (fun v _ h=>⟨h.1.2.1,trivial⟩) rfl fun r34 hr34=>?_
     refine c_ (bS_ rfl rfl) rfl ?_
     refine j_ ?_
     refine L_ rfl ?_
     exact met ⟨rfl,rfl,rfl,rfl,rfl,rfl,rfl,rfl,rfl,rfl,rfl,rfl,rfl,rfl,rfl,rfl,rfl,rfl,rfl,rfl,rfl,rfl,rfl,rfl,rfl,rfl,rfl,rfl,rfl,(l_ rfl (jof qr33 hr34)),trivial⟩
    have qr33:=hr32
    try dsimp only[Con.kind,Con.parts,Con.name,Con.lo,Con.hi,Con.cap,Con.ad]at hr32
    refine bc_ rfl rfl rfl rfl ?_
    refine bc_ rfl rfl rfl rfl ?_
    refine bc_ rfl rfl rfl rfl ?_
    refine c_ (bx_ rfl rfl) rfl ?_
    refine j_ ?_
    refine L_ rfl ?_
    exact met ⟨rfl,rfl,rfl,rfl,rfl,rfl,rfl,rfl,rfl,rfl,rfl,rfl,rfl,rfl,rfl,rfl,rfl,rfl,rfl,rfl,rfl,rfl,rfl,rfl,rfl,rfl,rfl,rfl,rfl,(l_ rfl (jot qr33)),trivial⟩
   refine j_ ?_
   refine e_ rfl ?_
   cases r33
   ·simp at hr33
    try dsimp only[Con.kind,Con.parts,Con.name,Con.lo,Con.hi,Con.cap,Con.ad]at hr33
    refine F_ rfl ?_
    refine ai_ ?_
    refine e_ rfl ?_
    refine m_ ?_
    refine d_ ?_
    refine c_ (n_ rfl) rfl ?_
    refine j_ ?_
    refine e_ rfl ?_
    refine ar_ ?_
    exact G_ ao_ () (Y_ rfl (by unfold Ax.check;simp only[hus];simp_all)) (.refl _) zt
   simp at hr33
   try dsimp only[Con.kind,Con.parts,Con.name,Con.lo,Con.hi,Con.cap,Con.ad]at hr33
   refine E_ rfl ?_
   refine m_ ?_
   refine d_ ?_
   refine c_ (n_ rfl) rfl ?_
   refine j_ ?_
   refine e_ rfl ?_
   refine ar_ ?_
   exact G_ ao_ () (Y_ rfl (by unfold Ax.check;simp only[hus];simp_all)) (.refl _) zt
  try dsimp only[Con.kind,Con.parts,Con.name,Con.lo,Con.hi,Con.cap,Con.ad]at hur
  refine E_ rfl ?_
  refine m_ ?_
  refine d_ ?_
  refine c_ (A_ p_ rfl rfl rfl g_) rfl ?_
  refine c_ (P_ 1 w_ g_ rfl rfl rfl) rfl ?_
  refine i_ (ex_ (.mk kr nr lr hr ar cr pr) hok.right) rfl (.refl _) (fun v _ h=>⟨h.1.2.1,h.2.1,trivial⟩) rfl fun _=>?_
  refine c_ (n_ rfl) rfl ?_
  refine j_ ?_
  refine e_ rfl ?_
  refine m_ ?_
  refine d_ ?_
  refine c_ (q_ rfl) rfl ?_
  refine s_ (bU_ rfl rfl) rfl fun r35 hr35=>?_
  refine j_ ?_
  refine e_ rfl ?_
  cases r35
  ·replace hr35:=cy_ hr35
   try dsimp only[Con.kind,Con.parts,Con.name,Con.lo,Con.hi,Con.cap,Con.ad]at hr35
   refine F_ rfl ?_
   refine ai_ ?_
   refine e_ rfl ?_
   refine m_ ?_
   refine m_ ?_
   refine d_ ?_
   refine c_ (A_ p_ rfl rfl rfl ab_) rfl ?_
   refine c_ (M_ 1 ay_ rfl rfl rfl) rfl ?_
   refine j_ ?_
   refine e_ rfl ?_
   refine aB_ ?_
   refine m_ ?_
   refine d_ ?_
   refine s_ (V_ rfl rfl) rfl fun r36 hr36=>?_
   refine c_ (n_ rfl) rfl ?_
   refine j_ ?_
   refine e_ rfl ?_
   cases r36
   ·replace hr36:=znb hr36
    try dsimp only[Con.kind,Con.parts,Con.name,Con.lo,Con.hi,Con.cap,Con.ad]at hr36
    refine F_ rfl ?_
    refine m_ ?_
    refine m_ ?_
    refine d_ ?_
    refine s_ (V_ rfl rfl) rfl fun r37 hr37=>?_
    refine c_ (n_ rfl) rfl ?_
    refine j_ ?_
    refine e_ rfl ?_
    cases r37
    ·replace hr37:=znb hr37
     try dsimp only[Con.kind,Con.parts,Con.name,Con.lo,Con.hi,Con.cap,Con.ad]at hr37
     refine F_ rfl ?_
     refine m_ ?_
     refine d_ ?_
     refine s_ (V_ rfl rfl) rfl fun r38 hr38=>?_
     refine c_ (n_ rfl) rfl ?_
     refine j_ ?_
     refine e_ rfl ?_
     cases r38
     ·replace hr38:=znb hr38
      try dsimp only[Con.kind,Con.parts,Con.name,Con.lo,Con.hi,Con.cap,Con.ad]at hr38
      refine F_ rfl ?_
      refine d_ ?_
      refine s_ (V_ rfl rfl) rfl fun r39 hr39=>?_
      refine c_ (n_ rfl) rfl ?_
      refine j_ ?_
      refine e_ rfl ?_
      cases r39
      ·replace hr39:=znb hr39
       try dsimp only[Con.kind,Con.parts,Con.name,Con.lo,Con.hi,Con.cap,Con.ad]at hr39
       refine F_ rfl ?_
       refine ai_ ?_
       refine e_ rfl ?_
       refine m_ ?_
       refine d_ ?_
       refine c_ (n_ rfl) rfl ?_
       refine j_ ?_
       refine e_ rfl ?_
       refine ar_ ?_
       exact G_ ao_ () (Y_ rfl (by unfold Ax.check;simp only[hus];simp_all)) (.refl _) zt
      replace hr39:=zeb hr39
      try dsimp only[Con.kind,Con.parts,Con.name,Con.lo,Con.hi,Con.cap,Con.ad]at hr39
      refine E_ rfl ?_
      refine m_ ?_
      refine d_ ?_
      refine c_ (A_ p_ rfl rfl rfl g_) rfl ?_
      refine c_ (P_ 1 w_ g_ rfl rfl rfl) rfl ?_
      refine N_ (cj_ _ (.mk kr nr lr hr ar cr pr) (Nat.le_refl _) hok.right) rfl (.refl _) (fun v _ h=>⟨h.1.2.1,trivial⟩) rfl fun r40 hr40=>?_
      refine j_ ?_
      refine e_ rfl ?_
      cases r40
      ·try dsimp only[Con.kind,Con.parts,Con.name,Con.lo,Con.hi,Con.cap,Con.ad]at hr40
       refine F_ rfl ?_
       refine ai_ ?_
       refine e_ rfl ?_
       refine m_ ?_
       refine d_ ?_
       refine c_ (n_ rfl) rfl ?_
       refine j_ ?_
       refine e_ rfl ?_
       refine ar_ ?_
       exact G_ ao_ () (Y_ rfl (by unfold Ax.check;simp only[hus];simp_all)) (.refl _) zt
      try dsimp only[Con.kind,Con.parts,Con.name,Con.lo,Con.hi,Con.cap,Con.ad]at hr40
      refine E_ rfl ?_
      refine m_ ?_
      refine d_ ?_
      refine c_ (n_ rfl) rfl ?_
      refine j_ ?_
      refine e_ rfl ?_
      refine ar_ ?_
      exact G_ ao_ () (Y_ rfl (by unfold Ax.check;simp only[hus];simp_all)) (.refl _) zt
     replace hr38:=zeb hr38
     try dsimp only[Con.kind,Con.parts,Con.name,Con.lo,Con.hi,Con.cap,Con.ad]at hr38
     refine E_ rfl ?_
     refine ai_ ?_
     refine e_ rfl ?_
     refine E_ rfl ?_
     refine m_ ?_
     refine d_ ?_
     refine c_ (A_ p_ rfl rfl rfl g_) rfl ?_
     refine c_ (P_ 1 w_ g_ rfl rfl rfl) rfl ?_
     refine N_ (cj_ _ (.mk kr nr lr hr ar cr pr) (Nat.le_refl _) hok.right) rfl (.refl _) (fun v _ h=>⟨h.1.2.1,trivial⟩) rfl fun r41 hr41=>?_
     refine j_ ?_
     refine e_ rfl ?_
     cases r41
     ·try dsimp only[Con.kind,Con.parts,Con.name,Con.lo,Con.hi,Con.cap,Con.ad]at hr41
      refine F_ rfl ?_
      refine ai_ ?_
      refine e_ rfl ?_
      refine m_ ?_
      refine d_ ?_
      refine c_ (n_ rfl) rfl ?_
      refine j_ ?_
      refine e_ rfl ?_
      refine ar_ ?_
      exact G_ ao_ () (Y_ rfl (by unfold Ax.check;simp only[hus];simp_all)) (.refl _) zt
     try dsimp only[Con.kind,Con.parts,Con.name,Con.lo,Con.hi,Con.cap,Con.ad]at hr41
     refine E_ rfl ?_
     refine m_ ?_
     refine d_ ?_
     refine c_ (n_ rfl) rfl ?_
     refine j_ ?_
     refine e_ rfl ?_
     refine ar_ ?_
     exact G_ ao_ () (Y_ rfl (by unfold Ax.check;simp only[hus];simp_all)) (.refl _) zt
    replace hr37:=zeb hr37
    try dsimp only[Con.kind,Con.parts,Con.name,Con.lo,Con.hi,Con.cap,Con.ad]at hr37
    refine E_ rfl ?_
    refine ai_ ?_
    refine e_ rfl ?_
    refine E_ rfl ?_
    refine m_ ?_
    refine d_ ?_
    refine c_ (A_ p_ rfl rfl rfl g_) rfl ?_
    refine c_ (P_ 1 w_ g_ rfl rfl rfl) rfl ?_
    refine N_ (cj_ _ (.mk kr nr lr hr ar cr pr) (Nat.le_refl _) hok.right) rfl (.refl _) (fun v _ h=>⟨h.1.2.1,trivial⟩) rfl fun r42 hr42=>?_
    refine j_ ?_
    refine e_ rfl ?_
    cases r42
    ·try dsimp only[Con.kind,Con.parts,Con.name,Con.lo,Con.hi,Con.cap,Con.ad]at hr42
     refine F_ rfl ?_
     refine ai_ ?_
     refine e_ rfl ?_
     refine m_ ?_
     refine d_ ?_
     refine c_ (n_ rfl) rfl ?_
     refine j_ ?_
     refine e_ rfl ?_
     refine ar_ ?_
     exact G_ ao_ () (Y_ rfl (by unfold Ax.check;simp only[hus];simp_all)) (.refl _) zt
    try dsimp only[Con.kind,Con.parts,Con.name,Con.lo,Con.hi,Con.cap,Con.ad]at hr42
    refine E_ rfl ?_
    refine m_ ?_
    refine d_ ?_
    refine c_ (n_ rfl) rfl ?_
    refine j_ ?_
    refine e_ rfl ?_
    refine ar_ ?_
    exact G_ ao_ () (Y_ rfl (by unfold Ax.check;simp only[hus];simp_all)) (.refl _) zt
   replace hr36:=zeb hr36
   try dsimp only[Con.kind,Con.parts,Con.name,Con.lo,Con.hi,Con.cap,Con.ad]at hr36
   refine E_ rfl ?_
   refine m_ ?_
   refine d_ ?_
   refine c_ (A_ p_ rfl rfl rfl g_) rfl ?_
   refine c_ (P_ 1 w_ g_ rfl rfl rfl) rfl ?_
   refine N_ (cj_ _ (.mk kl nl ll hl al cl pl) (Nat.le_refl _) hok.left) rfl (.refl _) (fun v _ h=>⟨h.1.1,trivial⟩) rfl fun r43 hr43=>?_
   refine c_ (q_ rfl) rfl ?_
   refine as_ 4 ((Con.bare (.mk kl nl ll hl al cl pl))||(Con.bare (.mk kr nr lr hr ar cr pr))) (fun r=>[(0,.agg #[.int .i64 k,.bool op,.int .i64 kl,str nl,.int .i64 ll,.int .i64 hl,.slice al pl.length cl,.int .i64 kr,str nr,.int .i64 lr,.int .i64 hr,.slice ar pr.length cr,.slice ad rs.length cap,str ro,str a,str b]),(1,zp_ b1 0),(2,.int .i64 0),(6,.agg #[.int .i64 k,.bool op,.int .i64 kl,str nl,.int .i64 ll,.int .i64 hl,.slice al pl.length cl,.int .i64 kr,str nr,.int .i64 lr,.int .i64 hr,.slice ar pr.length cr,.slice ad rs.length cap,str ro,str a,str b]),(7,.bool true),(8,.bool false),(9,zp_ b1 0),(10,.int .i64 k),(11,.pointer (some (rad (some ⟨0,0,none⟩) (k.toNat*7)))),(12,.agg #[.bool true,.bool true,.bool uo,.bool ua,.bool ub,.int .i64 um,.int .i64 un]),(3,zp_ b2 0),(13,.agg #[.int .i64 k,.bool op,.int .i64 kl,str nl,.int .i64 ll,.int .i64 hl,.slice al pl.length cl,.int .i64 kr,str nr,.int .i64 lr,.int .i64 hr,.slice ar pr.length cr,.slice ad rs.length cap,str ro,str a,str b]),(14,.agg #[.bool true,.bool true,.bool uo,.bool ua,.bool ub,.int .i64 um,.int .i64 un]),(15,.bool true),(16,.bool false),(17,zp_ b2 0),(18,.bool true),(19,zp_ b1 2),(20,.agg #[.int .i64 kl,str nl,.int .i64 ll,.int .i64 hl,.slice al pl.length cl]),(21,.int .i64 (Con.check (.mk kl nl ll hl al cl pl))),(4,.int .i64 (Con.check (.mk kl nl ll hl al cl pl))),(22,.int .i64 (Con.check (.mk kl nl ll hl al cl pl))),(23,.bool false),(25,zp_ b2 1),(26,.bool true),(27,zp_ b1 7),(28,.agg #[.int .i64 kr,str nr,.int .i64 lr,.int .i64 hr,.slice ar pr.length cr]),(29,.int .i64 (Con.check (.mk kr nr lr hr ar cr pr))),(5,.int .i64 (Con.check (.mk kr nr lr hr ar cr pr))),(30,.int .i64 (Con.check (.mk kr nr lr hr ar cr pr))),(31,.bool false),(33,zp_ b1 0),(34,.int .i64 k),(36,.bool true),(35,.bool true),(44,.bool r)]) ?_ fun r44 hr44=>?_
   ·cases r43
    ·have qr44:=hr43
     try dsimp only[Con.kind,Con.parts,Con.name,Con.lo,Con.hi,Con.cap,Con.ad]at hr43
     refine ag_ rfl rfl ?_
     refine c_ (A_ p_ rfl rfl rfl g_) rfl ?_
     refine ag_ rfl rfl ?_
     refine c_ (P_ 1 w_ g_ rfl rfl rfl) rfl ?_
     refine ag_ rfl rfl ?_
     refine N_ (cj_ _ (.mk kr nr lr hr ar cr pr) (Nat.le_refl _) hok.right) rfl (.refl _) (fun v _ h=>⟨h.1.2.1,trivial⟩) rfl fun r45 hr45=>?_
     refine c_ (bS_ rfl rfl) rfl ?_
     refine j_ ?_
     refine L_ rfl ?_
     exact met ⟨rfl,rfl,rfl,rfl,rfl,rfl,rfl,rfl,rfl,rfl,rfl,rfl,rfl,rfl,rfl,rfl,rfl,rfl,rfl,rfl,rfl,rfl,rfl,rfl,rfl,rfl,rfl,rfl,rfl,rfl,rfl,rfl,rfl,rfl,rfl,(l_ rfl (jof qr44 hr45)),trivial⟩
    have qr44:=hr43
    try dsimp only[Con.kind,Con.parts,Con.name,Con.lo,Con.hi,Con.cap,Con.ad]at hr43
    refine bc_ rfl rfl rfl rfl ?_
    refine bc_ rfl rfl rfl rfl ?_
    refine bc_ rfl rfl rfl rfl ?_
    refine c_ (bx_ rfl rfl) rfl ?_
    refine j_ ?_
    refine L_ rfl ?_
    exact met ⟨rfl,rfl,rfl,rfl,rfl,rfl,rfl,rfl,rfl,rfl,rfl,rfl,rfl,rfl,rfl,rfl,rfl,rfl,rfl,rfl,rfl,rfl,rfl,rfl,rfl,rfl,rfl,rfl,rfl,rfl,rfl,rfl,rfl,rfl,rfl,(l_ rfl (jot qr44)),trivial⟩
   refine j_ ?_
   refine e_ rfl ?_
   cases r44
   ·simp at hr44
    try dsimp only[Con.kind,Con.parts,Con.name,Con.lo,Con.hi,Con.cap,Con.ad]at hr44
    refine F_ rfl ?_
    refine ai_ ?_
    refine e_ rfl ?_
    refine m_ ?_
    refine d_ ?_
    refine c_ (n_ rfl) rfl ?_
    refine j_ ?_
    refine e_ rfl ?_
    refine ar_ ?_
    exact G_ ao_ () (Y_ rfl (by unfold Ax.check;simp only[hus];simp_all)) (.refl _) zt
   simp at hr44
   try dsimp only[Con.kind,Con.parts,Con.name,Con.lo,Con.hi,Con.cap,Con.ad]at hr44
   refine E_ rfl ?_
   refine m_ ?_
   refine d_ ?_
   refine c_ (n_ rfl) rfl ?_
   refine j_ ?_
   refine e_ rfl ?_
   refine ar_ ?_
   exact G_ ao_ () (Y_ rfl (by unfold Ax.check;simp only[hus];simp_all)) (.refl _) zt
  replace hr35:=cw_ hr35
  try dsimp only[Con.kind,Con.parts,Con.name,Con.lo,Con.hi,Con.cap,Con.ad]at hr35
  refine E_ rfl ?_
  refine m_ ?_
  refine d_ ?_
  refine c_ (q_ rfl) rfl ?_
  refine c_ (n_ rfl) rfl ?_
  refine j_ ?_
  refine e_ rfl ?_
  refine ar_ ?_
  exact G_ ao_ () (Y_ rfl (by unfold Ax.check;simp only[hus];simp_all)) (.refl _) zt
 replace hr24:=cw_ hr24
 try dsimp only[Con.kind,Con.parts,Con.name,Con.lo,Con.hi,Con.cap,Con.ad]at hr24
 refine E_ rfl ?_
 refine m_ ?_
 refine d_ ?_
 refine c_ (q_ rfl) rfl ?_
 refine c_ (n_ rfl) rfl ?_
 refine j_ ?_
 refine e_ rfl ?_
 refine ar_ ?_
 exact G_ ao_ () (Y_ rfl (by unfold Ax.check;simp only[hus];simp_all)) (.refl _) zt
end Go.Proofs.YtamklbgaipakfaaGreatDoor
namespace Go.Proofs.YtamklbgaipakfaaGreatDoor
open Go Go.Sx Go.Proofs
attribute [local irreducible] Code.wp wpList wpAnyH
open Go.Vs
def prE:Array MapEntry:=#[⟨.int .i64 1,.func (.func 291) #[] #[],0⟩,⟨.int .i64 2,.func (.func 292) #[] #[],1⟩,⟨.int .i64 3,.func (.func 293) #[] #[],2⟩,⟨.int .i64 4,.func (.func 294) #[] #[],3⟩,⟨.int .i64 5,.func (.func 295) #[] #[],4⟩,⟨.int .i64 6,.func (.func 296) #[] #[],5⟩,⟨.int .i64 7,.func (.func 297) #[] #[],6⟩]
def prF (m:Nat):Fct:=bJ_ m (.map prE 7)
def prV (m n:Nat):Value:=.agg #[.map (some m),.map (some n)]
theorem elt39:Elt Tryz.prog 23 9 1 16:=gU_ Tryz.underlying23 (z:=.string ⟨#[]⟩) (by kernel_rfl) rfl (by decide)
theorem qW_ {b n cap:Nat} (xs:List Str) (sep:Str) (hn:xs.length=n) {arr:Array Value} {T:TypeId} {fz:Nat×Nat} (hc:∀ (j:Nat) (x:Str),xs[j]? = some x→arr[j]? = some (str x)) (hcap:xs.length≤cap) (hN:xs.length≤1000000) (hlen:(Lib.join xs sep).length≤140737488355328) :
    Tri Tryz.prog 315 #[.slice (some ⟨b,0,none⟩) n cap,str sep] [(b,.cells arr T fz)] [ck_] (fun _:Unit=>str (Lib.join xs sep)) (fun _=>[(b,.cells arr T fz)]) (fun _=>[]):=by
  subst hn
  refine dT_ (callable Tryz.func315 rfl rfl) fun v h1 hs=>?_
  have hb:=(h1.own _ List.mem_cons_self).1
  have e:(xs.map fun x=>(⟨x.toArray⟩:ByteArray)).map (·.data.toList)=xs:=by simp[List.map_map,Function.comp_def]
  have:=Tryz.strings_Join b 0 cap (xs.map fun x=>⟨x.toArray⟩) ⟨sep.toArray⟩ v.w (fun j x hj=>by
    simp only[List.getElem?_map,Option.map_eq_some_iff]at hj
    obtain⟨y,hy,rfl⟩:=hj
    simp only[World.cell?,hb,Nat.zero_add]
    exact hc j y hy) (Array.getElem?_eq_some_iff.1 hb).1 (by simp;omega) (by simpa using hcap) (by rw[e];exact hlen)
  rw[e,List.length_map]at this
  exact this.mono fun _ _ q=>⟨q.1,q.2,.inl hs.1.2.2.2.1⟩
theorem ra_ (n:Int) (h0:-9223372036854775808≤n) (h1:n≤9223372036854775807):Tri Tryz.prog 317 #[.int .i64 n] [] [ck_] (fun _:Unit=>str (Lib.itoa n)) (fun _=>[]) (fun _=>[]) :=
  dT_ (callable Tryz.func317 rfl rfl) fun v _ h=>(Tryz.strconv_Itoa n h0 h1 v.w (pq_ h.1.2.2.2)).mono (by
    rintro e w' ⟨rfl,k,os,rfl⟩
    exact⟨rfl,od_ _ _ _,.inr (Nat.le_add_right _ _)⟩)
theorem om_ {b n:Nat} (xs:List Str) (hn:xs.length=n) {arr:Array Value} {T:TypeId} {fz:Nat×Nat} (hc:∀ (j:Nat) (x:Str),xs[j]? = some x→arr[j]? = some (str x)) (hN:xs.length≤1000000) (hlen:(Lib.join xs [32]).length≤140737488355328) :
    Tri Tryz.prog 316 #[.slice (some ⟨b,0,none⟩) n n] [(b,.cells arr T fz)] [ck_] (fun _:Unit=>str (Lib.join xs [32])) (fun _=>[(b,.cells arr T fz)]) (fun _=>[]):=by
  refine o_ Tryz.func316 rfl rfl Tryz.ntmps316 rfl fun v0=>?_
  refine Zz 8 ?_
  refine i_ (qW_ xs [32] hn hc (Nat.le_of_eq hn) hN hlen) rfl (.refl _) (fun v _ h=>h) rfl fun _=>Zz 4 ?_
  exact G_ Tryz.results316 () rfl (F:=[]) (.refl _) zt
theorem pr_top (c:Con) (m n:Nat) (hk:c.kind=1):Tri Tryz.prog 291 #[prV m n,c.val] [] [c.memF,prF m,ck_] (fun _:Unit=>str c.text) (fun _=>[]) (fun _=>[]):=by
  obtain⟨k,nm,lo,hi,ad,cap,ps⟩:=c
  simp only[Con.kind]at hk
  refine o_ Tryz.func291 rfl rfl Tryz.ntmps291 rfl fun v0=>?_
  refine Zz 2 ?_
  refine ah_ rfl rfl fun b1=>ah_ rfl rfl fun b2=>Zz 9 ?_
  exact G_ Tryz.results291 () (bq_ rfl (by rw[Con.text_eq];simp[Con.kind,Con.name,hk])) (.refl _) zt
theorem pp_ (c:Con) (m n:Nat) (hk:c.kind=2):Tri Tryz.prog 292 #[prV m n,c.val] [] [c.memF,prF m,ck_] (fun _:Unit=>str c.text) (fun _=>[]) (fun _=>[]):=by
  obtain⟨k,nm,lo,hi,ad,cap,ps⟩:=c
  simp only[Con.kind]at hk
  refine o_ Tryz.func292 rfl rfl Tryz.ntmps292 rfl fun v0=>?_
  refine Zz 2 ?_
  refine ah_ rfl rfl fun b1=>ah_ rfl rfl fun b2=>Zz 9 ?_
  exact G_ Tryz.results292 () (bq_ rfl (by rw[Con.text_eq];simp[Con.kind,Con.name,hk])) (.refl _) zt
theorem qA_ (c:Con) (m n:Nat) (hk:c.kind=3):Tri Tryz.prog 293 #[prV m n,c.val] [] [c.memF,prF m,ck_] (fun _:Unit=>str c.text) (fun _=>[]) (fun _=>[]):=by
  obtain⟨k,nm,lo,hi,ad,cap,ps⟩:=c
  simp only[Con.kind]at hk
  refine o_ Tryz.func293 rfl rfl Tryz.ntmps293 rfl fun v0=>?_
  refine Zz 2 ?_
  refine ah_ rfl rfl fun b1=>ah_ rfl rfl fun b2=>Zz 11 ?_
  exact G_ Tryz.results293 () (bq_ rfl (by rw[Con.text_eq];simp[Con.kind,Con.name,hk])) (.refl _) zt
theorem nE_ (c:Con) (m n:Nat) (hk:c.kind=4) (hl:c.name.length≤24):Tri Tryz.prog 294 #[prV m n,c.val] [] [c.memF,prF m,ck_] (fun _:Unit=>str c.text) (fun _=>[]) (fun _=>[]):=by
  obtain⟨k,nm,lo,hi,ad,cap,ps⟩:=c
  simp only[Con.kind]at hk
  refine o_ Tryz.func294 rfl rfl Tryz.ntmps294 rfl fun v0=>?_
  simp only[Con.name]at hl
  refine Zz 2 ?_
  refine ah_ rfl rfl fun b1=>ah_ rfl rfl fun b2=>Zz 7 ?_
  refine c_ (bg_ rfl rfl (by simp[Con.name];omega)) rfl ?_
  refine c_ (bg_ rfl rfl (by simp[Con.name];omega)) rfl ?_
  refine Zz 4 ?_
  exact G_ Tryz.results294 () (bq_ rfl (by rw[Con.text_eq];simp[Con.kind,Con.name,hk])) (.refl _) zt
theorem nD_ (c:Con) (m n:Nat) (hl:c.text.length≤100000) (hT:Tri Tryz.prog 272 #[prV m n,c.val] [] [c.memF,prF m,ck_] (fun _:Unit=>str c.text) (fun _=>[]) (fun _=>[])):Tri Tryz.prog 314 #[prV m n,c.val] [] [c.memF,prF m,ck_] (fun _:Unit=>str c.operand) (fun _=>[]) (fun _=>[]):=by
 obtain⟨k,nm,lo,hi,ad,cap,ps⟩:=c
 refine o_ Tryz.func314 rfl rfl Tryz.ntmps314 rfl fun v0=>?_
 refine m_ ?_
 refine d_ ?_
 refine ah_ rfl rfl fun b1=>?_
 refine ah_ rfl rfl fun b2=>?_
 refine c_ (n_ rfl) rfl ?_
 refine j_ ?_
 refine e_ rfl ?_
 refine m_ ?_
 refine m_ ?_
 refine d_ ?_
 refine c_ (A_ z_ rfl rfl rfl ab_) rfl ?_
 refine c_ (M_ 0 ay_ rfl rfl rfl) rfl ?_
 refine s_ (V_ rfl rfl) rfl fun r1 hr1=>?_
 refine j_ ?_
 refine e_ rfl ?_
 cases r1
 ·replace hr1:=znb hr1
  try dsimp only[Con.kind,Con.parts,Con.name,Con.lo,Con.hi,Con.cap,Con.ad]at hr1
  refine F_ rfl ?_
  refine ai_ ?_
  refine e_ rfl ?_
  refine m_ ?_
  refine d_ ?_
  refine c_ (P_ 1 sN_ jr_ rfl rfl rfl) rfl ?_
  refine c_ (P_ 0 w_ g_ rfl rfl rfl) rfl ?_
  refine i_ (hT) rfl (.refl _) (fun v _ h=>h) rfl fun _=>?_
  refine c_ (n_ rfl) rfl ?_
  refine j_ ?_
  refine e_ rfl ?_
  refine ar_ ?_
  exact G_ Tryz.results314 () (bq_ rfl (by unfold Con.operand;first|exact (if_pos (by assumption)).symm|exact (if_neg (by assumption)).symm)) (.refl _) zt
 replace hr1:=zeb hr1
 try dsimp only[Con.kind,Con.parts,Con.name,Con.lo,Con.hi,Con.cap,Con.ad]at hr1
 refine E_ rfl ?_
 refine m_ ?_
 refine d_ ?_
 refine c_ (P_ 1 sN_ jr_ rfl rfl rfl) rfl ?_
 refine c_ (P_ 0 w_ g_ rfl rfl rfl) rfl ?_
 refine i_ (hT) rfl (.refl _) (fun v _ h=>h) rfl fun _=>?_
 refine c_ (bg_ rfl rfl (by simp only[List.length_append,List.length_cons,List.length_nil];omega)) rfl ?_
 refine c_ (bg_ rfl rfl (by simp only[List.length_append,List.length_cons,List.length_nil];omega)) rfl ?_
 refine c_ (n_ rfl) rfl ?_
 refine j_ ?_
 refine e_ rfl ?_
 refine ar_ ?_
 exact G_ Tryz.results314 () (bq_ rfl (by unfold Con.operand;first|exact (if_pos (by assumption)).symm|exact (if_neg (by assumption)).symm)) (.refl _) zt
theorem fq_ (c:Con) (m n:Nat) {g i:Nat} (hf:dS_ Tryz.prog 3 (.int .i64 c.kind) prE.toList (some (i,.func (.func g) #[] #[]))) (hT:Tri Tryz.prog g #[prV m n,c.val] [] [c.memF,prF m,ck_] (fun _:Unit=>str c.text) (fun _=>[]) (fun _=>[])):Tri Tryz.prog 272 #[prV m n,c.val] [] [c.memF,prF m,ck_] (fun _:Unit=>str c.text) (fun _=>[]) (fun _=>[]):=by
  obtain⟨k,nm,lo,hi,ad,cap,ps⟩:=c
  refine o_ Tryz.func272 rfl rfl Tryz.ntmps272 rfl fun v0=>?_
  refine Zz 2 ?_
  refine ah_ rfl rfl fun b1=>ah_ rfl rfl fun b2=>Zz 9 ?_
  refine c_ (ga_ de_ rfl rfl (fun v _ h=>h.2.1.2) (ca_ Q_) hf) rfl (Zz 2 ?_)
  refine aM_ (hT) rfl rfl (.refl _) zf rfl fun _=>Zz 4 ?_
  exact G_ Tryz.results272 () rfl (.refl _) zt
theorem rK_:iU_ Tryz.prog 305 [(0,1),(1,1)] [.map none,.map none]:=⟨_,Tryz.zeroValue305,cs_,fun w=>by simp[Tryz.sizeOf302,Tryz.sizeOf303]⟩
theorem lp_:Tri Tryz.prog 271 #[] [] [] (fun q:Nat×Nat=>prV q.1 q.2) (fun _=>[]) (fun q=>[prF q.1]):=by
  refine o_ Tryz.func271 rfl rfl Tryz.ntmps271 rfl fun v0=>?_
  refine Zz 2 ?_
  refine au_ Tryz.zeroValue305 rfl fun b1=>Zz 4 ?_
  refine ek_ rfl fun b2=>bI_ 0 (.inl rfl) de_ rfl rfl rfl rfl (ca_ Q_) (bz_ Q_ rfl) (bI_ 0 (.inl rfl) de_ rfl rfl rfl rfl (ca_ Q_) (bz_ Q_ rfl) (bI_ 0 (.inl rfl) de_ rfl rfl rfl rfl (ca_ Q_) (bz_ Q_ rfl) (bI_ 0 (.inl rfl) de_ rfl rfl rfl rfl (ca_ Q_) (bz_ Q_ rfl) (bI_ 0 (.inl rfl) de_ rfl rfl rfl rfl (ca_ Q_) (bz_ Q_ rfl) (bI_ 0 (.inl rfl) de_ rfl rfl rfl rfl (ca_ Q_) (bz_ Q_ rfl) (bI_ 0 (.inl rfl) de_ rfl rfl rfl rfl (ca_ Q_) (bz_ Q_ rfl) (Zz 1 ?_)))))))
  refine ek_ rfl fun b3=>bI_ 0 (.inl rfl) ct_ rfl rfl rfl rfl (ca_ Q_) (bz_ Q_ rfl) (bI_ 0 (.inl rfl) ct_ rfl rfl rfl rfl (ca_ Q_) (bz_ Q_ rfl) (bI_ 0 (.inl rfl) ct_ rfl rfl rfl rfl (ca_ Q_) (bz_ Q_ rfl) (bI_ 0 (.inl rfl) ct_ rfl rfl rfl rfl (ca_ Q_) (bz_ Q_ rfl) (bI_ 0 (.inl rfl) ct_ rfl rfl rfl rfl (ca_ Q_) (bz_ Q_ rfl) (bI_ 0 (.inl rfl) ct_ rfl rfl rfl rfl (ca_ Q_) (bz_ Q_ rfl) (bI_ 0 (.inl rfl) ct_ rfl rfl rfl rfl (ca_ Q_) (bz_ Q_ rfl) (bI_ 0 (.inl rfl) ct_ rfl rfl rfl rfl (ca_ Q_) (bz_ Q_ rfl) (bI_ 0 (.inl rfl) ct_ rfl rfl rfl rfl (ca_ Q_) (bz_ Q_ rfl) (Zz 1 ?_)))))))))
  refine c_ (S_ rK_ rfl rfl) rfl (aa_ 2 jr_ rfl rfl rfl rfl rfl rfl (Zz 3 ?_))
  refine hY_ 1 rfl ?_
  exact fB_ (b2,b3) (fun a v h1 h2=>bZ_ (us:=[_,_]) 1 Tryz.results271 sN_ jr_ rfl rfl rfl a v h1 h2) (.refl _) zf
theorem pr_and (c:Con) (m n:Nat) (hk0:c.kind=5) (hps:2≤c.parts.length∧c.parts.length≤8) (hl:(Lib.join (c.parts.map Con.operand) [32,97,110,100,32]).length≤140737488355328) (hop:∀ p∈c.parts,Tri Tryz.prog 314 #[prV m n,p.val] [] [p.memF,prF m,ck_] (fun _:Unit=>str p.operand) (fun _=>[]) (fun _=>[])):Tri Tryz.prog 295 #[prV m n,c.val] [] [c.memF,prF m,ck_] (fun _:Unit=>str c.text) (fun _=>[]) (fun _=>[]):=by
 obtain⟨k,nm,lo,hi,ad,cap,ps⟩:=c
 simp only[Con.kind,Con.parts]at hk0 hps hl hop
 refine o_ Tryz.func295 rfl rfl Tryz.ntmps295 rfl fun v0=>?_
 refine m_ ?_
 refine d_ ?_
 refine ah_ rfl rfl fun b1=>?_
 refine ah_ rfl rfl fun b2=>?_
 refine c_ (n_ rfl) rfl ?_
 refine j_ ?_
 refine e_ rfl ?_
 refine m_ ?_
 refine d_ ?_
 refine c_ (n_ rfl) rfl ?_
 refine j_ ?_
 refine e_ rfl ?_
 refine m_ ?_
 refine m_ ?_
 refine d_ ?_
 refine c_ (A_ z_ rfl rfl rfl ba_) rfl ?_
 refine c_ (M_ 0 bk_ rfl rfl rfl) rfl ?_
 refine c_ (bM_ B_ rfl) rfl ?_
 refine c_ (q_ rfl) rfl ?_
 refine j_ ?_
 refine e_ rfl ?_
 refine aB_ ?_
 refine aN_ [(2,zp_ b1 0),(5,.slice none 0 0),(9,.slice ad ps.length cap),(10,.int .i64 (ps.length:Int)),(11,.int .i64 ((0:Nat):Int))] zl ?_
 refine aT_ (ι:={q:Nat×Value×Hp // q.1≤ps.length∧aG_ 9 1 q.2.1 q.1 ((ps.take q.1).flatMap fun p=>aH_ p.operand) q.2.2}) (fun q=>[(2,zp_ b1 0),(5,q.1.2.1),(9,.slice ad ps.length cap),(10,.int .i64 (ps.length:Int)),(11,.int .i64 (q.1.1:Int))]) (fun q=>_::_::q.1.2.2) (fun _=>_) (fun q=>ps.length - q.1.1) ⟨(0,.slice none 0 0,[]),by simp,aG_.nil _ _⟩ ?_
 rintro ⟨⟨i,sv,Hr⟩,hk⟩
 dsimp only at hk
 refine aN_ [(2,zp_ b1 0),(5,sv),(9,.slice ad ps.length cap),(10,.int .i64 (ps.length:Int)),(11,.int .i64 (i:Int))] zl ?_
 refine m_ ?_
 refine d_ ?_
 refine s_ (bR_ rfl rfl) rfl fun r1 hr1=>?_
 refine j_ ?_
 refine e_ rfl ?_
 refine m_ ?_
 cases r1
 ·replace hr1:=zdf hr1
  try dsimp only[Con.kind,Con.parts,Con.name,Con.lo,Con.hi,Con.cap,Con.ad]at hr1
  obtain rfl:i=ps.length:=by omega
  obtain⟨g,cp,cur,rfl,rfl,h3,h4,h5,h6⟩:=hk.2.some (by omega)
  rw[List.take_length]at h6
  refine F_ rfl ?_
  refine cp_ rfl ?_
  refine e_ rfl ?_
  refine m_ ?_
  refine d_ ?_
  refine c_ (q_ rfl) rfl ?_
  refine i_ (qW_ (ps.map Con.operand) [32,97,110,100,32] (by simp) (kr_ (n:=ps.length) (by rw[h6,List.flatMap_map])) (by simpa using h3) (by simp;omega) hl) rfl (@List.perm_append_comm _ [_,_] _) zf rfl fun _=>?_
  refine c_ (n_ rfl) rfl ?_
  refine j_ ?_
  refine e_ rfl ?_
  refine ar_ ?_
  exact G_ Tryz.results295 () (bq_ rfl (by rw[Con.text_eq];simp[Con.kind,Con.parts,hk0])) (.refl _) zt
 replace hr1:=zdt hr1
 try dsimp only[Con.kind,Con.parts,Con.name,Con.lo,Con.hi,Con.cap,Con.ad]at hr1
 have hlt:i<ps.length:=by omega
 obtain⟨p,hp⟩:∃ p,ps[i]? = some p:=⟨_,List.getElem?_eq_getElem hlt⟩
 have hpm:p∈ps:=List.mem_of_getElem? hp
 refine E_ rfl ?_
 refine ai_ ?_
 refine e_ rfl ?_
 refine m_ ?_
 refine aB_ ?_
 refine m_ ?_
 refine d_ ?_
 refine c_ (T_ B_ g_ rfl rfl (fun v _ h=>J_ (n:=5) Con.cells_len (by decide) (((Con.mem_iff (.mk k nm lo hi ad cap ps) v).1 h.1).1) hp) (by omega) (by first|omega|(simp only[Con.parts];omega)|(simp[Con.parts];done))) rfl ?_
 refine c_ (al_ (ad:=ad) (us:=p.cells) w_ g_ rfl (fun v _ h=>((Con.mem_iff (.mk k nm lo hi ad cap ps) v).1 h.1).1) (Con.cells_len _) (H_ Con.cells_len hp)) rfl ?_
 refine au_ bL_ rfl fun b3=>?_
 refine eG_ 0 g_ rfl rfl rfl rfl ?_
 refine j_ ?_
 refine e_ rfl ?_
 refine d_ ?_
 refine c_ (q_ rfl) rfl ?_
 refine c_ (P_ 2 sN_ jr_ rfl rfl rfl) rfl ?_
 refine c_ (cK_ 0 w_ g_ rfl rfl) rfl ?_
 refine i_ (hop p hpm) rfl (.refl _) (fun v _ h=>⟨Con.mem_part (c:=(.mk k nm lo hi ad cap ps)) h.1 hpm,h.2.1,h.2.2.1,trivial⟩) rfl fun _=>?_
 refine I_ D_ O_ aR_ rfl rfl rfl rfl rfl rfl fun b4=>?_
 refine aW_ elt39 hk.2 rfl rfl (@List.perm_append_comm _ [_,_,_,_] _) rfl (bv_ 0 rfl) (cY_ rfl) (by simp only[maxLen];omega) (by omega) rfl fun sv2 Hr2 hrow=>?_
 refine W_ (@List.perm_append_comm _ _ [_,_,_,_]) ?_
 refine c_ (n_ rfl) rfl ?_
 refine j_ ?_
 refine e_ rfl ?_
 refine d_ ?_
 refine c_ (aA_ rfl rfl rfl (be_ (by omega) (by omega))) rfl ?_
 refine c_ (q_ rfl) rfl ?_
 refine j_ ?_
 refine L_ rfl ?_
 exact R_ ⟨(i+1,sv2,Hr2),hlt,by rw[Con.take_snoc hp,List.flatMap_append];exact hrow⟩ (by simp;omega) zl (F:=[_,_]) (@List.perm_append_comm _ [_,_] _) zh
theorem rX_ (c:Con) (m n:Nat) (hk0:c.kind=6) (hps:c.parts.length=1) (hl:c.text.length≤140737488355328) (hop:∀ p∈c.parts,Tri Tryz.prog 314 #[prV m n,p.val] [] [p.memF,prF m,ck_] (fun _:Unit=>str p.operand) (fun _=>[]) (fun _=>[])):Tri Tryz.prog 296 #[prV m n,c.val] [] [c.memF,prF m,ck_] (fun _:Unit=>str c.text) (fun _=>[]) (fun _=>[]):=by
  obtain⟨k,nm,lo,hi,ad,cap,ps⟩:=c
  simp only[Con.kind,Con.parts]at hk0 hps hop
  obtain⟨p,rfl⟩:=List.length_eq_one_iff.1 hps
  have hp:[p][0]? = some p:=rfl
  have hpm:p∈[p]:=List.mem_singleton.2 rfl
  have ht:(Con.mk k nm lo hi ad cap [p]).text=Lib.join [[115,111,109,101],nm,p.operand] [32]:=by rw[Con.text_eq];simp[Con.kind,Con.parts,Con.name,hk0]
  rw[ht]at hl
  refine o_ Tryz.func296 rfl rfl Tryz.ntmps296 rfl fun v0=>?_
  refine Zz 2 ?_
  refine ah_ rfl rfl fun b1=>ah_ rfl rfl fun b2=>Zz 5 ?_
  refine U_ 4 [0,1,2,3,4,5,6] zk zs (Zz 5 ?_)
  refine y_ rfl (T_ B_ g_ rfl rfl (fun v _ h=>J_ (n:=5) Con.cells_len (by decide) (((Con.mem_iff (.mk k nm lo hi ad cap [p]) v).1 h.1).1) hp) (by omega) (by first|omega|(simp only[Con.parts];omega)|(simp[Con.parts];done))) rfl ?_
  refine y_ rfl (al_ (ad:=ad) (us:=p.cells) w_ g_ rfl (fun v _ h=>((Con.mem_iff (.mk k nm lo hi ad cap [p]) v).1 h.1).1) (Con.cells_len _) (H_ Con.cells_len hp)) rfl (aJ_ (u_ 7 rfl zk (i_ (hop p hpm) rfl (.refl _) (fun v _ h=>⟨Con.mem_part (c:=.mk k nm lo hi ad cap [p]) h.1 hpm,h.2.1,h.2.2.1,trivial⟩) rfl fun _=>Zz 3 ?_)))
  refine u_ 8 rfl zk (I_ D_ O_ aR_ rfl rfl rfl rfl rfl rfl fun b3=>Zz 3 ?_)
  refine u_ 9 rfl zk (i_ (om_ [[115,111,109,101],nm,p.operand] rfl (os_ _) (by simp) hl) rfl (.refl _) zf rfl fun _=>Zz 3 ?_)
  refine U_ 0 [10] zk zs (Zz 5 ?_)
  exact G_ Tryz.results296 () (bq_ rfl ht.symm) (.refl _) zt
theorem rW_ (c:Con) (m n:Nat) (hk0:c.kind=7) (hok:c.ok) (hl:c.text.length≤140737488355328):Tri Tryz.prog 297 #[prV m n,c.val] [] [c.memF,prF m,ck_] (fun _:Unit=>str c.text) (fun _=>[]) (fun _=>[]):=by
  obtain⟨k,nm,lo,hi,ad,cap,ps⟩:=c
  simp only[Con.kind]at hk0
  obtain⟨_,_,_,l1,l2,h1,h2,_⟩:=hok
  have ht:(Con.mk k nm lo hi ad cap ps).text=Lib.join [nm,[105,110],Lib.itoa lo,[116,111],Lib.itoa hi] [32]:=by rw[Con.text_eq];simp[Con.kind,Con.name,Con.lo,Con.hi,hk0]
  rw[ht]at hl
  refine o_ Tryz.func297 rfl rfl Tryz.ntmps297 rfl fun v0=>?_
  refine Zz 2 ?_
  refine ah_ rfl rfl fun b1=>ah_ rfl rfl fun b2=>Zz 5 ?_
  refine U_ 5 [0,1,2,3,5,6] zk zs (Zz 7 ?_)
  refine u_ 4 rfl zk (i_ (ra_ _ l1 l2) rfl (.refl _) zf rfl fun _=>Zz 3 ?_)
  refine u_ 7 rfl zk (i_ (ra_ _ h1 h2) rfl (.refl _) zf rfl fun _=>Zz 3 ?_)
  refine u_ 8 rfl zk (I_ D_ O_ aR_ rfl rfl rfl rfl rfl rfl fun b3=>Zz 3 ?_)
  refine u_ 9 rfl zk (i_ (om_ [nm,[105,110],Lib.itoa lo,[116,111],Lib.itoa hi] rfl (os_ _) (by simp) hl) rfl (.refl _) zf rfl fun _=>Zz 3 ?_)
  refine U_ 0 [10] zk zs (Zz 5 ?_)
  exact G_ Tryz.results297 () (bq_ rfl ht.symm) (.refl _) zt
theorem rV_ (m n:Nat):∀ (d:Nat) (c:Con),c.sz≤d→c.sz≤64→c.ok→c.fine→Tri Tryz.prog 272 #[prV m n,c.val] [] [c.memF,prF m,ck_] (fun _:Unit=>str c.text) (fun _=>[]) (fun _=>[]):=by
 intro d
 induction d with
 | zero=>intro c h;have:=c.sz_pos;omega
 | succ d ih =>
   intro c hd h64 hok hf
   have F:=Con.fields hf
   have hl:=Con.text_len _ c (Nat.le_refl _) hok hf
   have hop:∀ p∈c.parts,Tri Tryz.prog 314 #[prV m n,p.val] [] [p.memF,prF m,ck_] (fun _:Unit=>str p.operand) (fun _=>[]) (fun _=>[]):=fun p hp=>by
     have hz:=Con.sz_part hp
     have hl:=Con.text_len _ p (Nat.le_refl _) (Con.ok_part hok hp) (Con.fine_part hf hp)
     exact nD_ p m n (by omega) (ih p (by omega) (by omega) (Con.ok_part hok hp) (Con.fine_part hf hp))
   have h1:=F.k1
   have h7:=F.k7
   have hm:=F.mo
   have he:=F.le
   have hk:c.kind=1∨c.kind=2∨c.kind=3∨c.kind=4∨c.kind=5∨c.kind=6∨c.kind=7:=by omega
   rcases hk with hk|hk|hk|hk|hk|hk|hk
   · exact fq_ c m n (by rw[hk];exact bz_ Q_ rfl) (pr_top c m n hk)
   · exact fq_ c m n (by rw[hk];exact bz_ Q_ rfl) (pp_ c m n hk)
   · exact fq_ c m n (by rw[hk];exact bz_ Q_ rfl) (qA_ c m n hk)
   · exact fq_ c m n (by rw[hk];exact bz_ Q_ rfl) (nE_ c m n hk F.nm)
   · have ht:c.text=Lib.join (c.parts.map Con.operand) [32,97,110,100,32]:=by rw[Con.text_eq];simp[hk]
     rw[hk]at hm he
     simp[nd,cW_]at hm he
     exact fq_ c m n (by rw[hk];exact bz_ Q_ rfl) (pr_and c m n hk ⟨by omega,by omega⟩ (by rw[← ht];omega) hop)
   · rw[hk]at hm he
     simp[nd,cW_]at hm he
     exact fq_ c m n (by rw[hk];exact bz_ Q_ rfl) (rX_ c m n hk (by omega) (by omega) hop)
   · exact fq_ c m n (by rw[hk];exact bz_ Q_ rfl) (rW_ c m n hk hok (by omega))
end Go.Proofs.YtamklbgaipakfaaGreatDoor
