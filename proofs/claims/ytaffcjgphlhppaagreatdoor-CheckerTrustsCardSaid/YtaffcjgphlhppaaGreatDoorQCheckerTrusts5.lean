/-
  Part of the proof of the law CheckerTrusts over this seat: the small logic, the data, the contracts of functions (no condition).
-/
import Derived.Test.YtaffcjgphlhppaaGreatDoorQCheckerTrusts4
import Derived.Test.YtaffcjgphlhppaaGreatDoorQCheckerTrusts2
set_option linter.unusedVariables false
set_option linter.unusedSimpArgs false
set_option linter.unusedSectionVars false
set_option maxHeartbeats 1000000
namespace Go.Proofs.YtaffcjgphlhppaaGreatDoor
open Go Go.Sx Go.Proofs
attribute [local irreducible] Code.wp wpList wpAnyH
open Go.Vs
theorem nK_ (c:Con):Fn0 Tryz.prog 121 #[c.val] (.bool c.empty):=by
 obtain⟨k,nm,lo,hi,ad,cap,ps⟩:=c;refine w_ Tryz.func121 rfl rfl Tryz.ntmps121 rfl fun v0=>?_;refine Zz 2 ?_;refine ah_ rfl rfl fun b1=>Zz 7 ?_
 refine J_ (aM_ rfl rfl) rfl fun r1 hr1=>Zz 1 ?_
 refine aT_ 4 ((k==0)&&(nm==[])) (fun r=>[(0,.agg #[.int .i64 k,str nm,.int .i64 lo,.int .i64 hi,.slice ad ps.length cap]),(1,zp_ b1 0),(2,.bool false),(10,.bool r)]) ?_ fun r2 hr2=>?_
 ·cases r1
  ·have qr2:=hr1
   replace hr1:=znb hr1;try dsimp only[Con.kind,Con.parts,Con.name,Con.lo,Con.hi,Con.cap,Con.ad]at hr1
   refine Zz 6 ?_;exact met ⟨rfl,rfl,rfl,(l_ rfl (jaf qr2)),trivial⟩
  have qr2:=hr1;replace hr1:=zeb hr1;try dsimp only[Con.kind,Con.parts,Con.name,Con.lo,Con.hi,Con.cap,Con.ad]at hr1
  refine Zz 5 ?_;refine J_ (fT_ rfl rfl) rfl fun r3 hr3=>Zz 3 ?_
  exact met ⟨rfl,rfl,rfl,(l_ rfl (jat qr2 hr3)),trivial⟩
 refine Zz 1 ?_;refine aT_ 4 ((((k==0)&&(nm==[])))&&(lo==0)) (fun r=>[(0,.agg #[.int .i64 k,str nm,.int .i64 lo,.int .i64 hi,.slice ad ps.length cap]),(1,zp_ b1 0),(2,.bool false),(15,.bool r)]) ?_ fun r4 hr4=>?_
 ·cases r2
  ·have qr4:=hr2
   simp at hr2
   try dsimp only[Con.kind,Con.parts,Con.name,Con.lo,Con.hi,Con.cap,Con.ad]at hr2
   refine Zz 6 ?_;exact met ⟨rfl,rfl,rfl,(l_ rfl (jaf qr4)),trivial⟩
  have qr4:=hr2;simp at hr2
  try dsimp only[Con.kind,Con.parts,Con.name,Con.lo,Con.hi,Con.cap,Con.ad]at hr2
  refine Zz 5 ?_;refine J_ (aM_ rfl rfl) rfl fun r5 hr5=>Zz 3 ?_
  exact met ⟨rfl,rfl,rfl,(l_ rfl (jat qr4 hr5)),trivial⟩
 refine Zz 1 ?_;refine aT_ 4 ((((((k==0)&&(nm==[])))&&(lo==0)))&&(hi==0)) (fun r=>[(0,.agg #[.int .i64 k,str nm,.int .i64 lo,.int .i64 hi,.slice ad ps.length cap]),(1,zp_ b1 0),(2,.bool false),(20,.bool r)]) ?_ fun r6 hr6=>?_
 ·cases r4
  ·have qr6:=hr4
   simp at hr4
   try dsimp only[Con.kind,Con.parts,Con.name,Con.lo,Con.hi,Con.cap,Con.ad]at hr4
   refine Zz 6 ?_;exact met ⟨rfl,rfl,rfl,(l_ rfl (jaf qr6)),trivial⟩
  have qr6:=hr4;simp at hr4
  try dsimp only[Con.kind,Con.parts,Con.name,Con.lo,Con.hi,Con.cap,Con.ad]at hr4
  refine Zz 5 ?_;refine J_ (aM_ rfl rfl) rfl fun r7 hr7=>Zz 3 ?_
  exact met ⟨rfl,rfl,rfl,(l_ rfl (jat qr6 hr7)),trivial⟩
 refine Zz 1 ?_;refine aT_ 5 ((((((((k==0)&&(nm==[])))&&(lo==0)))&&(hi==0)))&&((ps.length:Int)==0)) (fun r=>[(0,.agg #[.int .i64 k,str nm,.int .i64 lo,.int .i64 hi,.slice ad ps.length cap]),(2,.bool false),(26,.bool r)]) ?_ fun r8 hr8=>?_
 ·cases r6
  ·have qr8:=hr6
   simp at hr6
   try dsimp only[Con.kind,Con.parts,Con.name,Con.lo,Con.hi,Con.cap,Con.ad]at hr6
   refine Zz 7 ?_;exact met ⟨rfl,rfl,(l_ rfl (jaf qr8)),trivial⟩
  have qr8:=hr6;simp at hr6
  try dsimp only[Con.kind,Con.parts,Con.name,Con.lo,Con.hi,Con.cap,Con.ad]at hr6
  refine Zz 7 ?_;refine J_ (aM_ rfl rfl) rfl fun r9 hr9=>Zz 3 ?_
  exact met ⟨rfl,rfl,(l_ rfl (jat qr8 hr9)),trivial⟩
 refine Zz 4 ?_;exact T_ Tryz.results121 () (l_ rfl hr8.symm) (.refl _) zt
theorem oB_ {g:FuncId} {pred:Con→Bool} (c:Con) (hok:c.ok) (hT:∀ p∈c.parts,Tri Tryz.prog g #[p.val] [] [p.memF] (fun _:Unit=>.bool (pred p)) (fun _=>[]) (fun _=>[])) :
    Tri Tryz.prog 181 #[.slice c.ad c.parts.length c.cap,.func (.func g) #[] #[]] [] [c.memF] (fun r:{r:Int // decide (0≤r)=c.parts.any pred}=>.int .i64 r.1) (fun _=>[]) (fun _=>[]):=by
  obtain⟨k,nm,lo,hi,ad,cap,ps⟩:=c;have hlen:=Con.ok_len hok;simp only[Con.parts,Con.cap]at hlen;refine w_ Tryz.func181 rfl rfl Tryz.ntmps181 rfl fun v0=>?_;refine p_ ?_;refine f_ ?_;refine d_ (u_ rfl) rfl ?_;refine m_ ?_;refine g_ rfl ?_;refine p_ ?_;refine p_ ?_;refine f_ ?_;refine d_ (H_ rfl) rfl ?_;refine d_ (cg_ ao_ rfl) rfl ?_;refine d_ (H_ rfl) rfl ?_;refine m_ ?_;refine g_ rfl ?_;refine ba_ ?_;refine bR_ [(0,.slice ad ps.length cap),(1,.func (.func g) #[] #[]),(7,.int .i64 (ps.length:Int)),(8,.int .i64 ((0:Nat):Int))] zl ?_;refine cb_ (ι:={q:Nat // q≤ps.length∧(ps.take q).any pred=false}) (fun i=>[(0,.slice ad ps.length cap),(1,.func (.func g) #[] #[]),(7,.int .i64 (ps.length:Int)),(8,.int .i64 (i.1:Int))]) (fun _=>_) (fun _=>_) (fun i=>ps.length - i.1) ⟨0,by simp⟩ ?_;rintro ⟨i,hk⟩;refine bR_ [(0,.slice ad ps.length cap),(1,.func (.func g) #[] #[]),(7,.int .i64 (ps.length:Int)),(8,.int .i64 (i:Int))] zl ?_;refine p_ ?_;refine f_ ?_;refine J_ (ca_ rfl rfl) rfl fun r1 hr1=>?_;refine m_ ?_;refine g_ rfl ?_;refine p_ ?_;cases r1
  · skip
    replace hr1:=zdf hr1;try dsimp only[Con.kind,Con.parts,Con.name,Con.lo,Con.hi,Con.cap,Con.ad]at hr1
    refine R_ rfl ?_;refine dO_ rfl ?_;refine g_ rfl ?_;refine p_ ?_;refine f_ ?_;refine d_ (u_ rfl) rfl ?_;refine m_ ?_;refine g_ rfl ?_;refine aA_ ?_;exact T_ Tryz.results181 ⟨-1,by have:=hk.2;rw[List.take_of_length_le (by omega)]at this;show _=ps.any pred;rw[this];rfl⟩ rfl (.refl _) zt
  · skip
    replace hr1:=zdt hr1;try dsimp only[Con.kind,Con.parts,Con.name,Con.lo,Con.hi,Con.cap,Con.ad]at hr1
    have hlt:i<ps.length:=by omega
    obtain⟨p,hp⟩:∃ p,ps[i]? = some p:=⟨_,List.getElem?_eq_getElem hlt⟩;have hpm:p∈ps:=List.mem_of_getElem? hp;refine C_ rfl ?_;refine au_ ?_;refine g_ rfl ?_;refine p_ ?_;refine ba_ ?_;refine p_ ?_;refine f_ ?_;refine d_ (H_ rfl) rfl ?_;refine d_ (u_ rfl) rfl ?_;refine m_ ?_;refine g_ rfl ?_;refine p_ ?_;refine f_ ?_;refine d_ (H_ rfl) rfl ?_;refine d_ (H_ rfl) rfl ?_;refine d_ (H_ rfl) rfl ?_;refine d_ (ab_ ao_ q_ rfl rfl (fun v _ h=>O_ (n:=5) Con.cells_len (by decide) (((Con.mem_iff (.mk k nm lo hi ad cap ps) v).1 h.1).1) hp) (by omega) (by first|omega|(simp only[Con.parts];omega)|(simp[Con.parts];done))) rfl ?_;refine d_ (as_ (ad:=ad) (us:=p.cells) N_ q_ rfl (fun v _ h=>((Con.mem_iff (.mk k nm lo hi ad cap ps) v).1 h.1).1) (Con.cells_len _) (K_ Con.cells_len hp)) rfl ?_;refine cd_ (hT p hpm) rfl rfl (.refl _) (fun v _ h=>by exact⟨Con.mem_part (c:=(.mk k nm lo hi ad cap ps)) h.1 hpm,trivial⟩) rfl fun r2 hr2=>?_;refine m_ ?_;refine g_ rfl ?_;cases r2
    · skip
      try dsimp only[Con.kind,Con.parts,Con.name,Con.lo,Con.hi,Con.cap,Con.ad]at hr2
      refine R_ rfl ?_;refine au_ ?_;refine g_ rfl ?_;refine f_ ?_;refine d_ (bc_ rfl rfl rfl (bW_ (by omega) (by omega))) rfl ?_;refine d_ (H_ rfl) rfl ?_;refine m_ ?_;refine aj_ rfl ?_;exact aa_ ⟨i+1,hlt,by rw[Con.take_snoc hp,List.any_append,hk.2];simp[*]⟩ (by simp;omega) zl (.refl _) zh
    · skip
      try dsimp only[Con.kind,Con.parts,Con.name,Con.lo,Con.hi,Con.cap,Con.ad]at hr2
      refine C_ rfl ?_;refine p_ ?_;refine f_ ?_;refine d_ (H_ rfl) rfl ?_;refine d_ (u_ rfl) rfl ?_;refine m_ ?_;refine g_ rfl ?_;refine aA_ ?_;exact T_ Tryz.results181 ⟨(i:Int),by show _=ps.any pred;rw[show ps.any pred=true from List.any_eq_true.2 ⟨p,hpm,by assumption⟩];exact decide_eq_true (by omega)⟩ rfl (.refl _) zt
theorem lu_ {g:FuncId} {pred:Con→Bool} (c:Con) (hok:c.ok) (hT:∀ p∈c.parts,Tri Tryz.prog g #[p.val] [] [p.memF] (fun _:Unit=>.bool (pred p)) (fun _=>[]) (fun _=>[])) :
    Tri Tryz.prog 127 #[.slice c.ad c.parts.length c.cap,.func (.func g) #[] #[]] [] [c.memF] (fun _:Unit=>.bool (c.parts.any pred)) (fun _=>[]) (fun _=>[]):=by
  obtain⟨k,nm,lo,hi,ad,cap,ps⟩:=c;refine w_ Tryz.func127 rfl rfl Tryz.ntmps127 rfl fun v0=>?_;refine Zz 9 ?_;refine n_ (oB_ (.mk k nm lo hi ad cap ps) hok hT) rfl (.refl _) (fun v _ h=>h) rfl fun x=>J_ (hR_ rfl rfl) rfl fun r1 hr1=>Zz 4 ?_
  exact T_ Tryz.results127 () (l_ rfl (hr1.symm.trans x.2)) (.refl _) zt
theorem cw_:∀ (m:Nat) (c:Con),c.sz≤m→c.ok→Tri Tryz.prog 70 #[c.val] [] [c.memF] (fun _:Unit=>.bool c.bare) (fun _=>[]) (fun _=>[]):=by
 intro m
 induction m with
 | zero=>intro c h;have:=c.sz_pos;omega
 | succ m ih =>
   intro c hm hok;obtain⟨k,nm,lo,hi,ad,cap,ps⟩:=c;refine w_ Tryz.func70 rfl rfl Tryz.ntmps70 rfl fun v0=>?_;refine p_ ?_;refine f_ ?_;refine ah_ rfl rfl fun b1=>?_;refine d_ (u_ rfl) rfl ?_;refine m_ ?_;refine g_ rfl ?_;refine p_ ?_;refine p_ ?_;refine f_ ?_;refine d_ (I_ ac_ rfl rfl rfl aw_) rfl ?_;refine d_ (ai_ 0 aO_ rfl rfl rfl) rfl ?_;refine m_ ?_;refine g_ rfl ?_;refine ba_ ?_;refine p_ ?_;refine f_ ?_;refine J_ (aM_ rfl rfl) rfl fun r1 hr1=>?_;refine d_ (u_ rfl) rfl ?_;refine m_ ?_;refine g_ rfl ?_;cases r1
   · skip
     replace hr1:=znb hr1;try dsimp only[Con.kind,Con.parts,Con.name,Con.lo,Con.hi,Con.cap,Con.ad]at hr1
     refine R_ rfl ?_;refine p_ ?_;refine f_ ?_;refine J_ (aM_ rfl rfl) rfl fun r2 hr2=>?_;refine d_ (u_ rfl) rfl ?_;refine m_ ?_;refine g_ rfl ?_;cases r2
     · skip
       replace hr2:=znb hr2;try dsimp only[Con.kind,Con.parts,Con.name,Con.lo,Con.hi,Con.cap,Con.ad]at hr2
       refine R_ rfl ?_;refine au_ ?_;refine g_ rfl ?_;refine p_ ?_;refine f_ ?_;refine d_ (u_ rfl) rfl ?_;refine m_ ?_;refine g_ rfl ?_;refine aA_ ?_;exact T_ Tryz.results70 () (l_ rfl (by rw[Con.bare_eq];simp only[Con.kind,Con.parts]at *;simp[*])) (.refl _) zt
     · skip
       replace hr2:=zeb hr2;try dsimp only[Con.kind,Con.parts,Con.name,Con.lo,Con.hi,Con.cap,Con.ad]at hr2
       refine C_ rfl ?_;refine p_ ?_;refine f_ ?_;refine d_ (I_ ac_ rfl rfl rfl cI_) rfl ?_;refine d_ (ai_ 0 dG_ rfl rfl rfl) rfl ?_;refine ak_ (lu_ (pred:=Con.bare) (.mk k nm lo hi ad cap ps) hok (fun p hp=>ih p (by have:=Con.sz_part (c:=(.mk k nm lo hi ad cap ps)) hp;omega) (Con.ok_part (c:=(.mk k nm lo hi ad cap ps)) hok hp))) rfl (.refl _) (fun v _ h=>h) rfl fun r3 hr3=>?_;refine d_ (u_ rfl) rfl ?_;refine m_ ?_;refine g_ rfl ?_;refine aA_ ?_;exact T_ Tryz.results70 () (l_ rfl (by rw[Con.bare_eq];simp only[Con.kind,Con.parts]at *;simp[*])) (.refl _) zt
   · skip
     replace hr1:=zeb hr1;try dsimp only[Con.kind,Con.parts,Con.name,Con.lo,Con.hi,Con.cap,Con.ad]at hr1
     refine C_ rfl ?_;refine p_ ?_;refine f_ ?_;refine d_ (u_ rfl) rfl ?_;refine m_ ?_;refine g_ rfl ?_;refine aA_ ?_;exact T_ Tryz.results70 () (l_ rfl (by rw[Con.bare_eq];simp only[Con.kind,Con.parts]at *;simp[*])) (.refl _) zt
theorem qT_ (x:Ax):Tri Tryz.prog 67 #[x.val] [] [dK_] (fun _:Unit=>.bool x.shaped) (fun _=>[]) (fun _=>[]):=by
 obtain⟨k,op,⟨kl,nl,ll,hl,al,cl,pl⟩,⟨kr,nr,lr,hr,ar,cr,pr⟩,ad,cap,rs,ro,a,b⟩:=x;refine w_ Tryz.func67 rfl rfl Tryz.ntmps67 rfl fun v0=>?_;refine Zz 2 ?_;refine ah_ rfl rfl fun b1=>Zz 8 ?_
 refine J_ (ca_ rfl rfl) rfl fun r1 hr1=>Zz 1 ?_
 refine aT_ 4 ((decide (k<1))||(decide (9<k))) (fun r=>[(0,.agg #[.int .i64 k,.bool op,.int .i64 kl,str nl,.int .i64 ll,.int .i64 hl,.slice al pl.length cl,.int .i64 kr,str nr,.int .i64 lr,.int .i64 hr,.slice ar pr.length cr,.slice ad rs.length cap,str ro,str a,str b]),(1,zp_ b1 0),(2,.bool false),(11,.bool r)]) ?_ fun r2 hr2=>?_
 ·cases r1
  ·have qr2:=hr1
   replace hr1:=zdf hr1;try dsimp only[Con.kind,Con.parts,Con.name,Con.lo,Con.hi,Con.cap,Con.ad]at hr1
   refine Zz 5 ?_;refine J_ (dI_ rfl rfl) rfl fun r3 hr3=>Zz 3 ?_
   exact met ⟨rfl,rfl,rfl,(l_ rfl (jof qr2 hr3)),trivial⟩
  have qr2:=hr1;replace hr1:=zdt hr1;try dsimp only[Con.kind,Con.parts,Con.name,Con.lo,Con.hi,Con.cap,Con.ad]at hr1
  refine Zz 6 ?_;exact met ⟨rfl,rfl,rfl,(l_ rfl (jot qr2)),trivial⟩
 refine Zz 2 ?_;cases r2
 ·simp at hr2
  try dsimp only[Con.kind,Con.parts,Con.name,Con.lo,Con.hi,Con.cap,Con.ad]at hr2
  obtain⟨u,hx⟩:∃ u,ti_[k.toNat]? = some u:=⟨_,List.getElem?_eq_getElem (show k.toNat<10 by omega)⟩;have hus:us k=u:=by simp[us,hx]
  obtain⟨ul,ur,uo,ua,ub,um,un⟩:=u;refine Zz 7 ?_;refine d_ (eE_ Tryz.runUnderlying136 gE_ rfl rfl (by show (0:Int)≤k;omega) (by show k<(10:Int);omega)) rfl ?_;refine d_ (as_ (ad:=some ⟨0,0,none⟩) (us:=Use.cells ⟨ul,ur,uo,ua,ub,um,un⟩) Tryz.isAgg135 gE_ rfl (fun v _ h=>h.1.2.1) (Use.cells_len _) (K_ Use.cells_len hx)) rfl (E_ Tryz.zeroValue135 rfl fun b2=>z_ 0 gE_ rfl rfl rfl rfl rfl rfl (Zz 7 ?_));refine aT_ 4 ((ul)||(Con.empty (.mk kl nl ll hl al cl pl))) (fun r=>[(0,.agg #[.int .i64 k,.bool op,.int .i64 kl,str nl,.int .i64 ll,.int .i64 hl,.slice al pl.length cl,.int .i64 kr,str nr,.int .i64 lr,.int .i64 hr,.slice ar pr.length cr,.slice ad rs.length cap,str ro,str a,str b]),(1,zp_ b1 0),(2,.bool false),(11,.bool false),(12,zp_ b1 0),(13,.int .i64 k),(14,.pointer (some (rad (some ⟨0,0,none⟩) (k.toNat*7)))),(15,.agg #[.bool ul,.bool ur,.bool uo,.bool ua,.bool ub,.int .i64 um,.int .i64 un]),(3,zp_ b2 0),(22,.bool r)]) ?_ fun r4 hr4=>?_
  ·cases ul
   ·try dsimp only[Con.kind,Con.parts,Con.name,Con.lo,Con.hi,Con.cap,Con.ad]at hul
    refine Zz 5 ?_;refine ak_ (nK_ (.mk kl nl ll hl al cl pl)) rfl (.refl _) zt rfl fun r5 hr5=>Zz 3 ?_
    exact met ⟨rfl,rfl,rfl,rfl,rfl,rfl,rfl,rfl,rfl,(l_ rfl (jof rfl hr5)),trivial⟩
   try dsimp only[Con.kind,Con.parts,Con.name,Con.lo,Con.hi,Con.cap,Con.ad]at hul
   refine Zz 6 ?_;exact met ⟨rfl,rfl,rfl,rfl,rfl,rfl,rfl,rfl,rfl,(l_ rfl (jot rfl)),trivial⟩
  refine Zz 1 ?_;refine aT_ 8 ((((ul)||(Con.empty (.mk kl nl ll hl al cl pl))))&&(((ur)||(Con.empty (.mk kr nr lr hr ar cr pr))))) (fun r=>[(0,.agg #[.int .i64 k,.bool op,.int .i64 kl,str nl,.int .i64 ll,.int .i64 hl,.slice al pl.length cl,.int .i64 kr,str nr,.int .i64 lr,.int .i64 hr,.slice ar pr.length cr,.slice ad rs.length cap,str ro,str a,str b]),(1,zp_ b1 0),(2,.bool false),(11,.bool false),(12,zp_ b1 0),(13,.int .i64 k),(14,.pointer (some (rad (some ⟨0,0,none⟩) (k.toNat*7)))),(15,.agg #[.bool ul,.bool ur,.bool uo,.bool ua,.bool ub,.int .i64 um,.int .i64 un]),(3,zp_ b2 0),(31,.bool r)]) ?_ fun r6 hr6=>?_
  ·cases r4
   ·have qr6:=hr4
    simp at hr4
    try dsimp only[Con.kind,Con.parts,Con.name,Con.lo,Con.hi,Con.cap,Con.ad]at hr4
    refine Zz 10 ?_;exact met ⟨rfl,rfl,rfl,rfl,rfl,rfl,rfl,rfl,rfl,(l_ rfl (jaf qr6)),trivial⟩
   have qr6:=hr4;simp at hr4
   try dsimp only[Con.kind,Con.parts,Con.name,Con.lo,Con.hi,Con.cap,Con.ad]at hr4
   refine Zz 6 ?_;refine aT_ 4 ((ur)||(Con.empty (.mk kr nr lr hr ar cr pr))) (fun r=>[(0,.agg #[.int .i64 k,.bool op,.int .i64 kl,str nl,.int .i64 ll,.int .i64 hl,.slice al pl.length cl,.int .i64 kr,str nr,.int .i64 lr,.int .i64 hr,.slice ar pr.length cr,.slice ad rs.length cap,str ro,str a,str b]),(1,zp_ b1 0),(2,.bool false),(11,.bool false),(12,zp_ b1 0),(13,.int .i64 k),(14,.pointer (some (rad (some ⟨0,0,none⟩) (k.toNat*7)))),(15,.agg #[.bool ul,.bool ur,.bool uo,.bool ua,.bool ub,.int .i64 um,.int .i64 un]),(3,zp_ b2 0),(23,.bool true),(30,.bool r)]) ?_ fun r7 hr7=>?_
   ·cases ur
    ·try dsimp only[Con.kind,Con.parts,Con.name,Con.lo,Con.hi,Con.cap,Con.ad]at hur
     refine Zz 5 ?_;refine ak_ (nK_ (.mk kr nr lr hr ar cr pr)) rfl (.refl _) zt rfl fun r8 hr8=>Zz 4 ?_
     exact met ⟨rfl,rfl,rfl,rfl,rfl,rfl,rfl,rfl,rfl,rfl,(l_ rfl (jof rfl hr8)),trivial⟩
    try dsimp only[Con.kind,Con.parts,Con.name,Con.lo,Con.hi,Con.cap,Con.ad]at hur
    refine Zz 7 ?_;exact met ⟨rfl,rfl,rfl,rfl,rfl,rfl,rfl,rfl,rfl,rfl,(l_ rfl (jot rfl)),trivial⟩
   refine Zz 3 ?_;exact met ⟨rfl,rfl,rfl,rfl,rfl,rfl,rfl,rfl,rfl,(l_ rfl (jat qr6 hr7)),trivial⟩
  refine Zz 1 ?_;refine aT_ 8 ((((((ul)||(Con.empty (.mk kl nl ll hl al cl pl))))&&(((ur)||(Con.empty (.mk kr nr lr hr ar cr pr))))))&&(((uo)||(ro==[])))) (fun r=>[(0,.agg #[.int .i64 k,.bool op,.int .i64 kl,str nl,.int .i64 ll,.int .i64 hl,.slice al pl.length cl,.int .i64 kr,str nr,.int .i64 lr,.int .i64 hr,.slice ar pr.length cr,.slice ad rs.length cap,str ro,str a,str b]),(1,zp_ b1 0),(2,.bool false),(11,.bool false),(12,zp_ b1 0),(13,.int .i64 k),(14,.pointer (some (rad (some ⟨0,0,none⟩) (k.toNat*7)))),(15,.agg #[.bool ul,.bool ur,.bool uo,.bool ua,.bool ub,.int .i64 um,.int .i64 un]),(3,zp_ b2 0),(40,.bool r)]) ?_ fun r9 hr9=>?_
  ·cases r6
   ·have qr9:=hr6
    simp at hr6
    try dsimp only[Con.kind,Con.parts,Con.name,Con.lo,Con.hi,Con.cap,Con.ad]at hr6
    refine Zz 10 ?_;exact met ⟨rfl,rfl,rfl,rfl,rfl,rfl,rfl,rfl,rfl,(l_ rfl (jaf qr9)),trivial⟩
   have qr9:=hr6;simp at hr6
   try dsimp only[Con.kind,Con.parts,Con.name,Con.lo,Con.hi,Con.cap,Con.ad]at hr6
   refine Zz 6 ?_;refine aT_ 4 ((uo)||(ro==[])) (fun r=>[(0,.agg #[.int .i64 k,.bool op,.int .i64 kl,str nl,.int .i64 ll,.int .i64 hl,.slice al pl.length cl,.int .i64 kr,str nr,.int .i64 lr,.int .i64 hr,.slice ar pr.length cr,.slice ad rs.length cap,str ro,str a,str b]),(1,zp_ b1 0),(2,.bool false),(11,.bool false),(12,zp_ b1 0),(13,.int .i64 k),(14,.pointer (some (rad (some ⟨0,0,none⟩) (k.toNat*7)))),(15,.agg #[.bool ul,.bool ur,.bool uo,.bool ua,.bool ub,.int .i64 um,.int .i64 un]),(3,zp_ b2 0),(32,.bool true),(39,.bool r)]) ?_ fun r10 hr10=>?_
   ·cases uo
    ·try dsimp only[Con.kind,Con.parts,Con.name,Con.lo,Con.hi,Con.cap,Con.ad]at huo
     refine Zz 5 ?_;refine J_ (fT_ rfl rfl) rfl fun r11 hr11=>Zz 4 ?_
     exact met ⟨rfl,rfl,rfl,rfl,rfl,rfl,rfl,rfl,rfl,rfl,(l_ rfl (jof rfl hr11)),trivial⟩
    try dsimp only[Con.kind,Con.parts,Con.name,Con.lo,Con.hi,Con.cap,Con.ad]at huo
    refine Zz 7 ?_;exact met ⟨rfl,rfl,rfl,rfl,rfl,rfl,rfl,rfl,rfl,rfl,(l_ rfl (jot rfl)),trivial⟩
   refine Zz 3 ?_;exact met ⟨rfl,rfl,rfl,rfl,rfl,rfl,rfl,rfl,rfl,(l_ rfl (jat qr9 hr10)),trivial⟩
  refine Zz 1 ?_;refine aT_ 8 ((((((((ul)||(Con.empty (.mk kl nl ll hl al cl pl))))&&(((ur)||(Con.empty (.mk kr nr lr hr ar cr pr))))))&&(((uo)||(ro==[])))))&&(((ua)||(a==[])))) (fun r=>[(0,.agg #[.int .i64 k,.bool op,.int .i64 kl,str nl,.int .i64 ll,.int .i64 hl,.slice al pl.length cl,.int .i64 kr,str nr,.int .i64 lr,.int .i64 hr,.slice ar pr.length cr,.slice ad rs.length cap,str ro,str a,str b]),(1,zp_ b1 0),(2,.bool false),(11,.bool false),(12,zp_ b1 0),(13,.int .i64 k),(14,.pointer (some (rad (some ⟨0,0,none⟩) (k.toNat*7)))),(15,.agg #[.bool ul,.bool ur,.bool uo,.bool ua,.bool ub,.int .i64 um,.int .i64 un]),(3,zp_ b2 0),(49,.bool r)]) ?_ fun r12 hr12=>?_
  ·cases r9
   ·have qr12:=hr9
    simp at hr9
    try dsimp only[Con.kind,Con.parts,Con.name,Con.lo,Con.hi,Con.cap,Con.ad]at hr9
    refine Zz 10 ?_;exact met ⟨rfl,rfl,rfl,rfl,rfl,rfl,rfl,rfl,rfl,(l_ rfl (jaf qr12)),trivial⟩
   have qr12:=hr9;simp at hr9
   try dsimp only[Con.kind,Con.parts,Con.name,Con.lo,Con.hi,Con.cap,Con.ad]at hr9
   refine Zz 6 ?_;refine aT_ 4 ((ua)||(a==[])) (fun r=>[(0,.agg #[.int .i64 k,.bool op,.int .i64 kl,str nl,.int .i64 ll,.int .i64 hl,.slice al pl.length cl,.int .i64 kr,str nr,.int .i64 lr,.int .i64 hr,.slice ar pr.length cr,.slice ad rs.length cap,str ro,str a,str b]),(1,zp_ b1 0),(2,.bool false),(11,.bool false),(12,zp_ b1 0),(13,.int .i64 k),(14,.pointer (some (rad (some ⟨0,0,none⟩) (k.toNat*7)))),(15,.agg #[.bool ul,.bool ur,.bool uo,.bool ua,.bool ub,.int .i64 um,.int .i64 un]),(3,zp_ b2 0),(41,.bool true),(48,.bool r)]) ?_ fun r13 hr13=>?_
   ·cases ua
    ·try dsimp only[Con.kind,Con.parts,Con.name,Con.lo,Con.hi,Con.cap,Con.ad]at hua
     refine Zz 5 ?_;refine J_ (fT_ rfl rfl) rfl fun r14 hr14=>Zz 4 ?_
     exact met ⟨rfl,rfl,rfl,rfl,rfl,rfl,rfl,rfl,rfl,rfl,(l_ rfl (jof rfl hr14)),trivial⟩
    try dsimp only[Con.kind,Con.parts,Con.name,Con.lo,Con.hi,Con.cap,Con.ad]at hua
    refine Zz 7 ?_;exact met ⟨rfl,rfl,rfl,rfl,rfl,rfl,rfl,rfl,rfl,rfl,(l_ rfl (jot rfl)),trivial⟩
   refine Zz 3 ?_;exact met ⟨rfl,rfl,rfl,rfl,rfl,rfl,rfl,rfl,rfl,(l_ rfl (jat qr12 hr13)),trivial⟩
  refine Zz 1 ?_;refine aT_ 8 ((((((((((ul)||(Con.empty (.mk kl nl ll hl al cl pl))))&&(((ur)||(Con.empty (.mk kr nr lr hr ar cr pr))))))&&(((uo)||(ro==[])))))&&(((ua)||(a==[])))))&&(((ub)||(b==[])))) (fun r=>[(0,.agg #[.int .i64 k,.bool op,.int .i64 kl,str nl,.int .i64 ll,.int .i64 hl,.slice al pl.length cl,.int .i64 kr,str nr,.int .i64 lr,.int .i64 hr,.slice ar pr.length cr,.slice ad rs.length cap,str ro,str a,str b]),(1,zp_ b1 0),(2,.bool false),(11,.bool false),(12,zp_ b1 0),(13,.int .i64 k),(14,.pointer (some (rad (some ⟨0,0,none⟩) (k.toNat*7)))),(15,.agg #[.bool ul,.bool ur,.bool uo,.bool ua,.bool ub,.int .i64 um,.int .i64 un]),(3,zp_ b2 0),(58,.bool r)]) ?_ fun r15 hr15=>?_
  ·cases r12
   ·have qr15:=hr12
    simp at hr12
    try dsimp only[Con.kind,Con.parts,Con.name,Con.lo,Con.hi,Con.cap,Con.ad]at hr12
    refine Zz 10 ?_;exact met ⟨rfl,rfl,rfl,rfl,rfl,rfl,rfl,rfl,rfl,(l_ rfl (jaf qr15)),trivial⟩
   have qr15:=hr12;simp at hr12
   try dsimp only[Con.kind,Con.parts,Con.name,Con.lo,Con.hi,Con.cap,Con.ad]at hr12
   refine Zz 6 ?_;refine aT_ 4 ((ub)||(b==[])) (fun r=>[(0,.agg #[.int .i64 k,.bool op,.int .i64 kl,str nl,.int .i64 ll,.int .i64 hl,.slice al pl.length cl,.int .i64 kr,str nr,.int .i64 lr,.int .i64 hr,.slice ar pr.length cr,.slice ad rs.length cap,str ro,str a,str b]),(1,zp_ b1 0),(2,.bool false),(11,.bool false),(12,zp_ b1 0),(13,.int .i64 k),(14,.pointer (some (rad (some ⟨0,0,none⟩) (k.toNat*7)))),(15,.agg #[.bool ul,.bool ur,.bool uo,.bool ua,.bool ub,.int .i64 um,.int .i64 un]),(3,zp_ b2 0),(50,.bool true),(57,.bool r)]) ?_ fun r16 hr16=>?_
   ·cases ub
    ·try dsimp only[Con.kind,Con.parts,Con.name,Con.lo,Con.hi,Con.cap,Con.ad]at hub
     refine Zz 5 ?_;refine J_ (fT_ rfl rfl) rfl fun r17 hr17=>Zz 4 ?_
     exact met ⟨rfl,rfl,rfl,rfl,rfl,rfl,rfl,rfl,rfl,rfl,(l_ rfl (jof rfl hr17)),trivial⟩
    try dsimp only[Con.kind,Con.parts,Con.name,Con.lo,Con.hi,Con.cap,Con.ad]at hub
    refine Zz 7 ?_;exact met ⟨rfl,rfl,rfl,rfl,rfl,rfl,rfl,rfl,rfl,rfl,(l_ rfl (jot rfl)),trivial⟩
   refine Zz 3 ?_;exact met ⟨rfl,rfl,rfl,rfl,rfl,rfl,rfl,rfl,rfl,(l_ rfl (jat qr15 hr16)),trivial⟩
  refine Zz 1 ?_;refine aT_ 7 ((((((((((((ul)||(Con.empty (.mk kl nl ll hl al cl pl))))&&(((ur)||(Con.empty (.mk kr nr lr hr ar cr pr))))))&&(((uo)||(ro==[])))))&&(((ua)||(a==[])))))&&(((ub)||(b==[])))))&&(decide (um≤(rs.length:Int)))) (fun r=>[(0,.agg #[.int .i64 k,.bool op,.int .i64 kl,str nl,.int .i64 ll,.int .i64 hl,.slice al pl.length cl,.int .i64 kr,str nr,.int .i64 lr,.int .i64 hr,.slice ar pr.length cr,.slice ad rs.length cap,str ro,str a,str b]),(1,zp_ b1 0),(2,.bool false),(11,.bool false),(12,zp_ b1 0),(13,.int .i64 k),(14,.pointer (some (rad (some ⟨0,0,none⟩) (k.toNat*7)))),(15,.agg #[.bool ul,.bool ur,.bool uo,.bool ua,.bool ub,.int .i64 um,.int .i64 un]),(3,zp_ b2 0),(66,.bool r)]) ?_ fun r18 hr18=>?_
  ·cases r15
   ·have qr18:=hr15
    simp at hr15
    try dsimp only[Con.kind,Con.parts,Con.name,Con.lo,Con.hi,Con.cap,Con.ad]at hr15
    refine Zz 9 ?_;exact met ⟨rfl,rfl,rfl,rfl,rfl,rfl,rfl,rfl,rfl,(l_ rfl (jaf qr18)),trivial⟩
   have qr18:=hr15;simp at hr15
   try dsimp only[Con.kind,Con.parts,Con.name,Con.lo,Con.hi,Con.cap,Con.ad]at hr15
   refine Zz 11 ?_;refine J_ (hR_ rfl rfl) rfl fun r19 hr19=>Zz 3 ?_
   exact met ⟨rfl,rfl,rfl,rfl,rfl,rfl,rfl,rfl,rfl,(l_ rfl (jat qr18 hr19)),trivial⟩
  refine Zz 1 ?_;refine aT_ 7 ((((((((((((((ul)||(Con.empty (.mk kl nl ll hl al cl pl))))&&(((ur)||(Con.empty (.mk kr nr lr hr ar cr pr))))))&&(((uo)||(ro==[])))))&&(((ua)||(a==[])))))&&(((ub)||(b==[])))))&&(decide (um≤(rs.length:Int)))))&&(decide ((rs.length:Int)≤un))) (fun r=>[(0,.agg #[.int .i64 k,.bool op,.int .i64 kl,str nl,.int .i64 ll,.int .i64 hl,.slice al pl.length cl,.int .i64 kr,str nr,.int .i64 lr,.int .i64 hr,.slice ar pr.length cr,.slice ad rs.length cap,str ro,str a,str b]),(1,zp_ b1 0),(2,.bool false),(11,.bool false),(12,zp_ b1 0),(13,.int .i64 k),(14,.pointer (some (rad (some ⟨0,0,none⟩) (k.toNat*7)))),(15,.agg #[.bool ul,.bool ur,.bool uo,.bool ua,.bool ub,.int .i64 um,.int .i64 un]),(3,zp_ b2 0),(74,.bool r)]) ?_ fun r20 hr20=>?_
  ·cases r18
   ·have qr20:=hr18
    simp at hr18
    try dsimp only[Con.kind,Con.parts,Con.name,Con.lo,Con.hi,Con.cap,Con.ad]at hr18
    refine Zz 9 ?_;exact met ⟨rfl,rfl,rfl,rfl,rfl,rfl,rfl,rfl,rfl,(l_ rfl (jaf qr20)),trivial⟩
   have qr20:=hr18;simp at hr18
   try dsimp only[Con.kind,Con.parts,Con.name,Con.lo,Con.hi,Con.cap,Con.ad]at hr18
   refine Zz 11 ?_;refine J_ (ep_ rfl rfl) rfl fun r21 hr21=>Zz 3 ?_
   exact met ⟨rfl,rfl,rfl,rfl,rfl,rfl,rfl,rfl,rfl,(l_ rfl (jat qr20 hr21)),trivial⟩
  refine Zz 4 ?_;exact T_ Tryz.results67 () (l_ rfl (by unfold Ax.shaped;rw[if_neg (by simp only[not_or];omega)];simp only[hus];exact hr20.symm)) (.refl _) zt
 simp at hr2
 try dsimp only[Con.kind,Con.parts,Con.name,Con.lo,Con.hi,Con.cap,Con.ad]at hr2
 refine Zz 7 ?_;exact T_ Tryz.results67 () (l_ rfl (by unfold Ax.shaped;rw[if_pos (by simpa using hr2)])) (.refl _) zt
theorem pn (s:Str):(((if bb_ s then 0 else 20):Int) != 0)=!bb_ s:=by cases bb_ s<;>rfl
theorem sI_ (x:Ax) (hok:x.ok) (u:Use):Tri Tryz.prog 68 #[x.val,.agg u.cells.toArray] [] [x.memF] (fun _:Unit=>.bool (x.namedU u)) (fun _=>[]) (fun _=>[]):=by
 obtain⟨k,op,⟨kl,nl,ll,hl,al,cl,pl⟩,⟨kr,nr,lr,hr,ar,cr,pr⟩,ad,cap,rs,ro,a,b⟩:=x;obtain⟨ul,ur,uo,ua,ub,um,un⟩:=u;have hlen:=hok.len;have hcap:=hok.cap;dsimp only at hlen hcap;refine w_ Tryz.func68 rfl rfl Tryz.ntmps68 rfl fun v0=>?_;refine p_ ?_;refine f_ ?_;refine ah_ rfl rfl fun b1=>?_;refine ah_ rfl rfl fun b2=>?_;refine d_ (u_ rfl) rfl ?_;refine m_ ?_;refine g_ rfl ?_;refine p_ ?_;refine p_ ?_;refine f_ ?_;refine d_ (I_ br_ rfl rfl rfl fK_) rfl ?_;refine d_ (ai_ 0 gQ_ rfl rfl rfl) rfl ?_;refine d_ (H_ rfl) rfl ?_;refine aT_ 5 ((uo)&&(!(bM_ ro))) (fun r=>[(0,.agg #[.int .i64 k,.bool op,.int .i64 kl,str nl,.int .i64 ll,.int .i64 hl,.slice al pl.length cl,.int .i64 kr,str nr,.int .i64 lr,.int .i64 hr,.slice ar pr.length cr,.slice ad rs.length cap,str ro,str a,str b]),(1,.agg #[.bool ul,.bool ur,.bool uo,.bool ua,.bool ub,.int .i64 um,.int .i64 un]),(2,zp_ b1 0),(3,zp_ b2 0),(4,.bool false),(14,.bool r)]) ?_ fun r1 hr1=>?_
 ·cases uo
  ·try dsimp only[Con.kind,Con.parts,Con.name,Con.lo,Con.hi,Con.cap,Con.ad]at huo
   refine bC_ rfl rfl rfl rfl ?_;refine bC_ rfl rfl rfl rfl ?_;refine bC_ rfl rfl rfl rfl ?_;refine bC_ rfl rfl rfl rfl ?_;refine d_ (cN_ rfl rfl) rfl ?_;refine m_ ?_;refine aj_ rfl ?_;exact met ⟨rfl,rfl,rfl,rfl,rfl,(l_ rfl (jaf rfl)),trivial⟩
  try dsimp only[Con.kind,Con.parts,Con.name,Con.lo,Con.hi,Con.cap,Con.ad]at huo
  refine Y_ rfl rfl ?_;refine d_ (I_ x_ rfl rfl rfl X_) rfl ?_;refine Y_ rfl rfl ?_;refine d_ (ai_ 1 al_ rfl rfl rfl) rfl ?_;refine Y_ rfl rfl ?_;refine ak_ (hz_ _) rfl (.refl _) zt rfl fun r2 hr2=>?_;refine Y_ rfl rfl ?_;refine d_ (bn_ rfl) rfl ?_;refine d_ (cM_ rfl rfl) rfl ?_;refine m_ ?_;refine aj_ rfl ?_;exact met ⟨rfl,rfl,rfl,rfl,rfl,(l_ rfl (jat rfl (jn hr2))),trivial⟩
 refine d_ (H_ rfl) rfl ?_;refine aT_ 9 ((((uo)&&(!(bM_ ro))))||(((ua)&&(((if bb_ a then 0 else 20):Int) != 0)))) (fun r=>[(0,.agg #[.int .i64 k,.bool op,.int .i64 kl,str nl,.int .i64 ll,.int .i64 hl,.slice al pl.length cl,.int .i64 kr,str nr,.int .i64 lr,.int .i64 hr,.slice ar pr.length cr,.slice ad rs.length cap,str ro,str a,str b]),(1,.agg #[.bool ul,.bool ur,.bool uo,.bool ua,.bool ub,.int .i64 um,.int .i64 un]),(2,zp_ b1 0),(3,zp_ b2 0),(4,.bool false),(24,.bool r)]) ?_ fun r3 hr3=>?_
 ·cases r1
  ·have qr3:=hr1
   try dsimp only[Con.kind,Con.parts,Con.name,Con.lo,Con.hi,Con.cap,Con.ad]at hr1
   refine Y_ rfl rfl ?_;refine d_ (I_ br_ rfl rfl rfl fK_) rfl ?_;refine Y_ rfl rfl ?_;refine d_ (ai_ 0 gQ_ rfl rfl rfl) rfl ?_;refine Y_ rfl rfl ?_;refine d_ (H_ rfl) rfl ?_;refine aT_ 5 ((ua)&&(((if bb_ a then 0 else 20):Int) != 0)) (fun r=>[(0,.agg #[.int .i64 k,.bool op,.int .i64 kl,str nl,.int .i64 ll,.int .i64 hl,.slice al pl.length cl,.int .i64 kr,str nr,.int .i64 lr,.int .i64 hr,.slice ar pr.length cr,.slice ad rs.length cap,str ro,str a,str b]),(1,.agg #[.bool ul,.bool ur,.bool uo,.bool ua,.bool ub,.int .i64 um,.int .i64 un]),(2,zp_ b1 0),(3,zp_ b2 0),(4,.bool false),(15,.bool false),(23,.bool r)]) ?_ fun r4 hr4=>?_
   ·cases ua
    ·try dsimp only[Con.kind,Con.parts,Con.name,Con.lo,Con.hi,Con.cap,Con.ad]at hua
     refine bC_ rfl rfl rfl rfl ?_;refine bC_ rfl rfl rfl rfl ?_;refine bC_ rfl rfl rfl rfl ?_;refine bC_ rfl rfl rfl rfl ?_;refine Y_ rfl rfl ?_;refine d_ (cN_ rfl rfl) rfl ?_;refine m_ ?_;refine aj_ rfl ?_;exact met ⟨rfl,rfl,rfl,rfl,rfl,rfl,(l_ rfl (jaf rfl)),trivial⟩
    try dsimp only[Con.kind,Con.parts,Con.name,Con.lo,Con.hi,Con.cap,Con.ad]at hua
    refine Y_ rfl rfl ?_;refine d_ (I_ x_ rfl rfl rfl X_) rfl ?_;refine Y_ rfl rfl ?_;refine d_ (ai_ 1 al_ rfl rfl rfl) rfl ?_;refine Y_ rfl rfl ?_;refine n_ (he_ _ hok.a) rfl (.refl _) zt rfl fun _=>?_;refine Y_ rfl rfl ?_;refine J_ (cy_ rfl rfl) rfl fun r5 hr5=>?_;refine Y_ rfl rfl ?_;refine d_ (cM_ rfl rfl) rfl ?_;refine m_ ?_;refine aj_ rfl ?_;exact met ⟨rfl,rfl,rfl,rfl,rfl,rfl,(l_ rfl (jat rfl hr5)),trivial⟩
   refine d_ (cN_ rfl rfl) rfl ?_;refine m_ ?_;refine aj_ rfl ?_;exact met ⟨rfl,rfl,rfl,rfl,rfl,(l_ rfl (jof qr3 hr4)),trivial⟩
  have qr3:=hr1;try dsimp only[Con.kind,Con.parts,Con.name,Con.lo,Con.hi,Con.cap,Con.ad]at hr1
  refine bC_ rfl rfl rfl rfl ?_;refine bC_ rfl rfl rfl rfl ?_;refine bC_ rfl rfl rfl rfl ?_;refine bC_ rfl rfl rfl rfl ?_;refine bC_ rfl rfl rfl rfl ?_;refine bC_ rfl rfl rfl rfl ?_;refine bC_ rfl rfl rfl rfl ?_;refine bC_ rfl rfl rfl rfl ?_;refine d_ (cM_ rfl rfl) rfl ?_;refine m_ ?_;refine aj_ rfl ?_;exact met ⟨rfl,rfl,rfl,rfl,rfl,(l_ rfl (jot qr3)),trivial⟩
 refine d_ (H_ rfl) rfl ?_;refine aT_ 9 ((((((uo)&&(!(bM_ ro))))||(((ua)&&(((if bb_ a then 0 else 20):Int) != 0)))))||(((ub)&&(((if bb_ b then 0 else 20):Int) != 0)))) (fun r=>[(0,.agg #[.int .i64 k,.bool op,.int .i64 kl,str nl,.int .i64 ll,.int .i64 hl,.slice al pl.length cl,.int .i64 kr,str nr,.int .i64 lr,.int .i64 hr,.slice ar pr.length cr,.slice ad rs.length cap,str ro,str a,str b]),(1,.agg #[.bool ul,.bool ur,.bool uo,.bool ua,.bool ub,.int .i64 um,.int .i64 un]),(2,zp_ b1 0),(4,.bool false),(34,.bool r)]) ?_ fun r6 hr6=>?_
 ·cases r3
  ·have qr6:=hr3
   try dsimp only[Con.kind,Con.parts,Con.name,Con.lo,Con.hi,Con.cap,Con.ad]at hr3
   refine Y_ rfl rfl ?_;refine d_ (I_ br_ rfl rfl rfl fK_) rfl ?_;refine Y_ rfl rfl ?_;refine d_ (ai_ 0 gQ_ rfl rfl rfl) rfl ?_;refine Y_ rfl rfl ?_;refine d_ (H_ rfl) rfl ?_;refine aT_ 5 ((ub)&&(((if bb_ b then 0 else 20):Int) != 0)) (fun r=>[(0,.agg #[.int .i64 k,.bool op,.int .i64 kl,str nl,.int .i64 ll,.int .i64 hl,.slice al pl.length cl,.int .i64 kr,str nr,.int .i64 lr,.int .i64 hr,.slice ar pr.length cr,.slice ad rs.length cap,str ro,str a,str b]),(1,.agg #[.bool ul,.bool ur,.bool uo,.bool ua,.bool ub,.int .i64 um,.int .i64 un]),(2,zp_ b1 0),(4,.bool false),(25,.bool false),(33,.bool r)]) ?_ fun r7 hr7=>?_
   ·cases ub
    ·try dsimp only[Con.kind,Con.parts,Con.name,Con.lo,Con.hi,Con.cap,Con.ad]at hub
     refine bC_ rfl rfl rfl rfl ?_;refine bC_ rfl rfl rfl rfl ?_;refine bC_ rfl rfl rfl rfl ?_;refine bC_ rfl rfl rfl rfl ?_;refine Y_ rfl rfl ?_;refine d_ (cN_ rfl rfl) rfl ?_;refine m_ ?_;refine aj_ rfl ?_;exact met ⟨rfl,rfl,rfl,rfl,rfl,(l_ rfl (jaf rfl)),trivial⟩
    try dsimp only[Con.kind,Con.parts,Con.name,Con.lo,Con.hi,Con.cap,Con.ad]at hub
    refine Y_ rfl rfl ?_;refine d_ (I_ x_ rfl rfl rfl X_) rfl ?_;refine Y_ rfl rfl ?_;refine d_ (ai_ 1 al_ rfl rfl rfl) rfl ?_;refine Y_ rfl rfl ?_;refine n_ (he_ _ hok.b) rfl (.refl _) zt rfl fun _=>?_;refine Y_ rfl rfl ?_;refine J_ (cy_ rfl rfl) rfl fun r8 hr8=>?_;refine Y_ rfl rfl ?_;refine d_ (cM_ rfl rfl) rfl ?_;refine m_ ?_;refine aj_ rfl ?_;exact met ⟨rfl,rfl,rfl,rfl,rfl,(l_ rfl (jat rfl hr8)),trivial⟩
   refine d_ (cN_ rfl rfl) rfl ?_;refine m_ ?_;refine aj_ rfl ?_;exact met ⟨rfl,rfl,rfl,rfl,(l_ rfl (jof qr6 hr7)),trivial⟩
  have qr6:=hr3;try dsimp only[Con.kind,Con.parts,Con.name,Con.lo,Con.hi,Con.cap,Con.ad]at hr3
  refine bC_ rfl rfl rfl rfl ?_;refine bC_ rfl rfl rfl rfl ?_;refine bC_ rfl rfl rfl rfl ?_;refine bC_ rfl rfl rfl rfl ?_;refine bC_ rfl rfl rfl rfl ?_;refine bC_ rfl rfl rfl rfl ?_;refine bC_ rfl rfl rfl rfl ?_;refine bC_ rfl rfl rfl rfl ?_;refine d_ (cM_ rfl rfl) rfl ?_;refine m_ ?_;refine aj_ rfl ?_;exact met ⟨rfl,rfl,rfl,rfl,(l_ rfl (jot qr6)),trivial⟩
 refine m_ ?_;refine g_ rfl ?_;cases r6
 ·try dsimp only[Con.kind,Con.parts,Con.name,Con.lo,Con.hi,Con.cap,Con.ad]at hr6
  refine R_ rfl ?_;refine au_ ?_;refine g_ rfl ?_;refine p_ ?_;refine p_ ?_;refine f_ ?_;refine d_ (I_ x_ rfl rfl rfl eA_) rfl ?_;refine d_ (ai_ 1 qU_ rfl rfl rfl) rfl ?_;refine d_ (cg_ D_ rfl) rfl ?_;refine d_ (H_ rfl) rfl ?_;refine m_ ?_;refine g_ rfl ?_;refine ba_ ?_;refine bR_ [(36,.slice ad rs.length cap),(37,.int .i64 (rs.length:Int)),(38,.int .i64 ((0:Nat):Int))] zl ?_;refine cb_ (ι:={q:Nat // q≤rs.length∧(rs.take q).all bM_=true}) (fun i=>[(36,.slice ad rs.length cap),(37,.int .i64 (rs.length:Int)),(38,.int .i64 (i.1:Int))]) (fun _=>_) (fun _=>_) (fun i=>rs.length - i.1) ⟨0,by simp⟩ ?_;rintro ⟨i,hk⟩;refine bR_ [(36,.slice ad rs.length cap),(37,.int .i64 (rs.length:Int)),(38,.int .i64 (i:Int))] zl ?_;refine p_ ?_;refine f_ ?_;refine J_ (ca_ rfl rfl) rfl fun r9 hr9=>?_;refine m_ ?_;refine g_ rfl ?_;refine p_ ?_;cases r9
  ·replace hr9:=zdf hr9
   try dsimp only[Con.kind,Con.parts,Con.name,Con.lo,Con.hi,Con.cap,Con.ad]at hr9
   refine R_ rfl ?_;refine dO_ rfl ?_;refine g_ rfl ?_;refine p_ ?_;refine f_ ?_;refine d_ (u_ rfl) rfl ?_;refine m_ ?_;refine g_ rfl ?_;refine aA_ ?_;exact T_ Tryz.results68 () (l_ rfl (by have hf:rs.all bM_=true:=(by have:=hk.2;rwa [List.take_of_length_le (by omega)]at this);unfold Ax.namedU;simp only[pn]at hr6;simp only[hf,hr6];rfl)) (.refl _) zt
  replace hr9:=zdt hr9;try dsimp only[Con.kind,Con.parts,Con.name,Con.lo,Con.hi,Con.cap,Con.ad]at hr9
  have hlt:i<rs.length:=by omega
  obtain⟨q,hp⟩:∃ q,rs[i]? = some q:=⟨_,List.getElem?_eq_getElem hlt⟩;refine C_ rfl ?_;refine au_ ?_;refine g_ rfl ?_;refine p_ ?_;refine ba_ ?_;refine p_ ?_;refine f_ ?_;refine d_ (ab_ D_ X_ rfl rfl (fun v _ h=>O_ (n:=1) aK_ (by decide) (h.1.2.2) hp) (by omega) (by first|omega|(simp only[Con.parts];omega)|(simp[Con.parts];done))) rfl ?_;refine d_ (bm_ (ad:=ad) al_ rfl (fun v _ h=>h.1.2.2) (K_ aK_ hp 0 _ rfl)) rfl ?_;refine d_ (u_ rfl) rfl ?_;refine m_ ?_;refine g_ rfl ?_;refine p_ ?_;refine f_ ?_;refine d_ (H_ rfl) rfl ?_;refine ak_ (hz_ _) rfl (.refl _) zt rfl fun r10 hr10=>?_;refine d_ (bn_ rfl) rfl ?_;refine m_ ?_;refine g_ rfl ?_;cases r10
  ·try dsimp only[Con.kind,Con.parts,Con.name,Con.lo,Con.hi,Con.cap,Con.ad]at hr10
   refine C_ rfl ?_;refine p_ ?_;refine f_ ?_;refine d_ (u_ rfl) rfl ?_;refine m_ ?_;refine g_ rfl ?_;refine aA_ ?_;exact T_ Tryz.results68 () (l_ rfl (by have hf:rs.all bM_=false:=List.all_eq_false.2 ⟨q,List.mem_of_getElem? hp,by simp[*]⟩;unfold Ax.namedU;simp only[hf,Bool.and_false])) (.refl _) zt
  try dsimp only[Con.kind,Con.parts,Con.name,Con.lo,Con.hi,Con.cap,Con.ad]at hr10
  refine R_ rfl ?_;refine au_ ?_;refine g_ rfl ?_;refine f_ ?_;refine d_ (bc_ rfl rfl rfl (bW_ (by omega) (by omega))) rfl ?_;refine d_ (H_ rfl) rfl ?_;refine m_ ?_;refine aj_ rfl ?_;exact aa_ ⟨i+1,hlt,by rw[List.take_add_one,hp];simp only[Option.toList_some,List.all_append,hk.2];simp[*]⟩ (by simp;omega) zl (.refl _) zh
 try dsimp only[Con.kind,Con.parts,Con.name,Con.lo,Con.hi,Con.cap,Con.ad]at hr6
 refine C_ rfl ?_;refine p_ ?_;refine f_ ?_;refine d_ (u_ rfl) rfl ?_;refine m_ ?_;refine g_ rfl ?_;refine aA_ ?_;exact T_ Tryz.results68 () (l_ rfl (by unfold Ax.namedU;simp only[pn]at hr6;simp only[hr6];rfl)) (.refl _) zt
theorem Ax.shaped_kind {x:Ax} (h:x.shaped=true):1≤x.kind∧x.kind≤9:=by
 unfold Ax.shaped at h
 split at h
 ·cases h
 rename_i hh;simp only[not_or]at hh;omega
theorem gq_ (x:Ax) (hok:x.ok):Tri Tryz.prog 27 #[x.val] [] [x.memF,dK_] (fun _:Unit=>.int .i64 x.check) (fun _=>[]) (fun _=>[]):=by
 obtain⟨k,op,⟨kl,nl,ll,hl,al,cl,pl⟩,⟨kr,nr,lr,hr,ar,cr,pr⟩,ad,cap,rs,ro,a,b⟩:=x;refine w_ Tryz.func27 rfl rfl Tryz.ntmps27 rfl fun v0=>?_;refine p_ ?_;refine f_ ?_;refine ah_ rfl rfl fun b1=>?_;refine d_ (u_ rfl) rfl ?_;refine m_ ?_;refine g_ rfl ?_;refine p_ ?_;refine p_ ?_;refine f_ ?_;refine d_ (ae_ 0 iI_ dx_ rfl rfl rfl) rfl ?_;refine ak_ (qT_ ⟨k,op,(.mk kl nl ll hl al cl pl),(.mk kr nr lr hr ar cr pr),ad,cap,rs,ro,a,b⟩) rfl (.refl _) zf rfl fun r1 hr1=>?_;refine d_ (bn_ rfl) rfl ?_;refine m_ ?_;refine g_ rfl ?_;cases r1
 ·try dsimp only[Con.kind,Con.parts,Con.name,Con.lo,Con.hi,Con.cap,Con.ad]at hr1
  refine C_ rfl ?_;refine p_ ?_;refine f_ ?_;refine d_ (u_ rfl) rfl ?_;refine m_ ?_;refine g_ rfl ?_;refine aA_ ?_;exact T_ av_ () (aG_ rfl (by unfold Ax.check;simp_all)) (.refl _) zt
 try dsimp only[Con.kind,Con.parts,Con.name,Con.lo,Con.hi,Con.cap,Con.ad]at hr1
 have hk0:1≤k∧k≤9:=Ax.shaped_kind hr1;obtain⟨u,hx⟩:∃ u,ti_[k.toNat]? = some u:=⟨_,List.getElem?_eq_getElem (show k.toNat<10 by omega)⟩;have hus:us k=u:=by simp[us,hx]
 obtain⟨ul,ur,uo,ua,ub,um,un⟩:=u;refine R_ rfl ?_;refine au_ ?_;refine g_ rfl ?_;refine p_ ?_;refine f_ ?_;refine d_ (I_ x_ rfl rfl rfl aw_) rfl ?_;refine d_ (ai_ 0 aO_ rfl rfl rfl) rfl ?_;refine d_ (eE_ Tryz.runUnderlying136 gE_ rfl rfl (by show (0:Int)≤k;omega) (by show k<(10:Int);omega)) rfl ?_;refine d_ (as_ (ad:=some ⟨0,0,none⟩) (us:=Use.cells ⟨ul,ur,uo,ua,ub,um,un⟩) Tryz.isAgg135 gE_ rfl (fun v _ h=>h.2.1.2.1) (Use.cells_len _) (K_ Use.cells_len hx)) rfl ?_;refine E_ Tryz.zeroValue135 rfl fun b2=>?_;refine z_ 0 gE_ rfl rfl rfl rfl rfl rfl ?_;refine m_ ?_;refine g_ rfl ?_;refine p_ ?_;refine p_ ?_;refine f_ ?_;refine d_ (ae_ 1 iI_ dx_ rfl rfl rfl) rfl ?_;refine d_ (ae_ 0 Tryz.isAgg135 gE_ rfl rfl rfl) rfl ?_;refine ak_ (sI_ ⟨k,op,(.mk kl nl ll hl al cl pl),(.mk kr nr lr hr ar cr pr),ad,cap,rs,ro,a,b⟩ hok ⟨ul,ur,uo,ua,ub,um,un⟩) rfl (.refl _) zf rfl fun r2 hr2=>?_;refine d_ (bn_ rfl) rfl ?_;refine m_ ?_;refine g_ rfl ?_;cases r2
 ·try dsimp only[Con.kind,Con.parts,Con.name,Con.lo,Con.hi,Con.cap,Con.ad]at hr2
  refine C_ rfl ?_;refine p_ ?_;refine f_ ?_;refine d_ (u_ rfl) rfl ?_;refine m_ ?_;refine g_ rfl ?_;refine aA_ ?_;exact T_ av_ () (aG_ rfl (by unfold Ax.check;simp only[hus];simp_all)) (.refl _) zt
 try dsimp only[Con.kind,Con.parts,Con.name,Con.lo,Con.hi,Con.cap,Con.ad]at hr2
 refine R_ rfl ?_;refine au_ ?_;refine g_ rfl ?_;refine p_ ?_;refine p_ ?_;refine f_ ?_;refine d_ (I_ br_ rfl rfl rfl fK_) rfl ?_;refine d_ (ai_ 0 gQ_ rfl rfl rfl) rfl ?_;refine m_ ?_;refine g_ rfl ?_;cases ul
 ·try dsimp only[Con.kind,Con.parts,Con.name,Con.lo,Con.hi,Con.cap,Con.ad]at hul
  refine R_ rfl ?_;refine au_ ?_;refine g_ rfl ?_;refine p_ ?_;refine p_ ?_;refine f_ ?_;refine d_ (I_ br_ rfl rfl rfl fK_) rfl ?_;refine d_ (ai_ 0 gQ_ rfl rfl rfl) rfl ?_;refine m_ ?_;refine g_ rfl ?_;cases ur
  ·try dsimp only[Con.kind,Con.parts,Con.name,Con.lo,Con.hi,Con.cap,Con.ad]at hur
   refine R_ rfl ?_;refine au_ ?_;refine g_ rfl ?_;refine p_ ?_;refine p_ ?_;refine f_ ?_;refine d_ (I_ x_ rfl rfl rfl aw_) rfl ?_;refine d_ (ai_ 1 aO_ rfl rfl rfl) rfl ?_;refine m_ ?_;refine g_ rfl ?_;refine ba_ ?_;refine p_ ?_;refine f_ ?_;refine J_ (aM_ rfl rfl) rfl fun r3 hr3=>?_;refine d_ (u_ rfl) rfl ?_;refine m_ ?_;refine g_ rfl ?_;cases r3
   ·replace hr3:=znb hr3
    try dsimp only[Con.kind,Con.parts,Con.name,Con.lo,Con.hi,Con.cap,Con.ad]at hr3
    refine R_ rfl ?_;refine p_ ?_;refine p_ ?_;refine f_ ?_;refine J_ (aM_ rfl rfl) rfl fun r4 hr4=>?_;refine d_ (u_ rfl) rfl ?_;refine m_ ?_;refine g_ rfl ?_;cases r4
    ·replace hr4:=znb hr4
     try dsimp only[Con.kind,Con.parts,Con.name,Con.lo,Con.hi,Con.cap,Con.ad]at hr4
     refine R_ rfl ?_;refine p_ ?_;refine f_ ?_;refine J_ (aM_ rfl rfl) rfl fun r5 hr5=>?_;refine d_ (u_ rfl) rfl ?_;refine m_ ?_;refine g_ rfl ?_;cases r5
     ·replace hr5:=znb hr5
      try dsimp only[Con.kind,Con.parts,Con.name,Con.lo,Con.hi,Con.cap,Con.ad]at hr5
      refine R_ rfl ?_;refine f_ ?_;refine J_ (aM_ rfl rfl) rfl fun r6 hr6=>?_;refine d_ (u_ rfl) rfl ?_;refine m_ ?_;refine g_ rfl ?_;cases r6
      ·replace hr6:=znb hr6
       try dsimp only[Con.kind,Con.parts,Con.name,Con.lo,Con.hi,Con.cap,Con.ad]at hr6
       refine R_ rfl ?_;refine au_ ?_;refine g_ rfl ?_;refine p_ ?_;refine f_ ?_;refine d_ (u_ rfl) rfl ?_;refine m_ ?_;refine g_ rfl ?_;refine aA_ ?_;exact T_ av_ () (aG_ rfl (by unfold Ax.check;simp only[hus];simp_all)) (.refl _) zt
      replace hr6:=zeb hr6;try dsimp only[Con.kind,Con.parts,Con.name,Con.lo,Con.hi,Con.cap,Con.ad]at hr6
      refine C_ rfl ?_;refine p_ ?_;refine f_ ?_;refine d_ (I_ x_ rfl rfl rfl q_) rfl ?_;refine d_ (ae_ 1 N_ q_ rfl rfl rfl) rfl ?_;refine ak_ (cw_ _ (.mk kr nr lr hr ar cr pr) (Nat.le_refl _) hok.right) rfl (.refl _) (fun v _ h=>⟨h.1.2.1,trivial⟩) rfl fun r7 hr7=>?_;refine m_ ?_;refine g_ rfl ?_;cases r7
      ·try dsimp only[Con.kind,Con.parts,Con.name,Con.lo,Con.hi,Con.cap,Con.ad]at hr7
       refine R_ rfl ?_;refine au_ ?_;refine g_ rfl ?_;refine p_ ?_;refine f_ ?_;refine d_ (u_ rfl) rfl ?_;refine m_ ?_;refine g_ rfl ?_;refine aA_ ?_;exact T_ av_ () (aG_ rfl (by unfold Ax.check;simp only[hus];simp_all)) (.refl _) zt
      try dsimp only[Con.kind,Con.parts,Con.name,Con.lo,Con.hi,Con.cap,Con.ad]at hr7
      refine C_ rfl ?_;refine p_ ?_;refine f_ ?_;refine d_ (u_ rfl) rfl ?_;refine m_ ?_;refine g_ rfl ?_;refine aA_ ?_;exact T_ av_ () (aG_ rfl (by unfold Ax.check;simp only[hus];simp_all)) (.refl _) zt
     replace hr5:=zeb hr5;try dsimp only[Con.kind,Con.parts,Con.name,Con.lo,Con.hi,Con.cap,Con.ad]at hr5
     refine C_ rfl ?_;refine au_ ?_;refine g_ rfl ?_;refine C_ rfl ?_;refine p_ ?_;refine f_ ?_;refine d_ (I_ x_ rfl rfl rfl q_) rfl ?_;refine d_ (ae_ 1 N_ q_ rfl rfl rfl) rfl ?_;refine ak_ (cw_ _ (.mk kr nr lr hr ar cr pr) (Nat.le_refl _) hok.right) rfl (.refl _) (fun v _ h=>⟨h.1.2.1,trivial⟩) rfl fun r8 hr8=>?_;refine m_ ?_;refine g_ rfl ?_;cases r8
     ·try dsimp only[Con.kind,Con.parts,Con.name,Con.lo,Con.hi,Con.cap,Con.ad]at hr8
      refine R_ rfl ?_;refine au_ ?_;refine g_ rfl ?_;refine p_ ?_;refine f_ ?_;refine d_ (u_ rfl) rfl ?_;refine m_ ?_;refine g_ rfl ?_;refine aA_ ?_;exact T_ av_ () (aG_ rfl (by unfold Ax.check;simp only[hus];simp_all)) (.refl _) zt
     try dsimp only[Con.kind,Con.parts,Con.name,Con.lo,Con.hi,Con.cap,Con.ad]at hr8
     refine C_ rfl ?_;refine p_ ?_;refine f_ ?_;refine d_ (u_ rfl) rfl ?_;refine m_ ?_;refine g_ rfl ?_;refine aA_ ?_;exact T_ av_ () (aG_ rfl (by unfold Ax.check;simp only[hus];simp_all)) (.refl _) zt
    replace hr4:=zeb hr4;try dsimp only[Con.kind,Con.parts,Con.name,Con.lo,Con.hi,Con.cap,Con.ad]at hr4
    refine C_ rfl ?_;refine au_ ?_;refine g_ rfl ?_;refine C_ rfl ?_;refine p_ ?_;refine f_ ?_;refine d_ (I_ x_ rfl rfl rfl q_) rfl ?_;refine d_ (ae_ 1 N_ q_ rfl rfl rfl) rfl ?_;refine ak_ (cw_ _ (.mk kr nr lr hr ar cr pr) (Nat.le_refl _) hok.right) rfl (.refl _) (fun v _ h=>⟨h.1.2.1,trivial⟩) rfl fun r9 hr9=>?_;refine m_ ?_;refine g_ rfl ?_;cases r9
    ·try dsimp only[Con.kind,Con.parts,Con.name,Con.lo,Con.hi,Con.cap,Con.ad]at hr9
     refine R_ rfl ?_;refine au_ ?_;refine g_ rfl ?_;refine p_ ?_;refine f_ ?_;refine d_ (u_ rfl) rfl ?_;refine m_ ?_;refine g_ rfl ?_;refine aA_ ?_;exact T_ av_ () (aG_ rfl (by unfold Ax.check;simp only[hus];simp_all)) (.refl _) zt
    try dsimp only[Con.kind,Con.parts,Con.name,Con.lo,Con.hi,Con.cap,Con.ad]at hr9
    refine C_ rfl ?_;refine p_ ?_;refine f_ ?_;refine d_ (u_ rfl) rfl ?_;refine m_ ?_;refine g_ rfl ?_;refine aA_ ?_;exact T_ av_ () (aG_ rfl (by unfold Ax.check;simp only[hus];simp_all)) (.refl _) zt
   replace hr3:=zeb hr3;try dsimp only[Con.kind,Con.parts,Con.name,Con.lo,Con.hi,Con.cap,Con.ad]at hr3
   refine C_ rfl ?_;refine p_ ?_;refine f_ ?_;refine d_ (I_ x_ rfl rfl rfl q_) rfl ?_;refine d_ (ae_ 1 N_ q_ rfl rfl rfl) rfl ?_;refine ak_ (cw_ _ (.mk kl nl ll hl al cl pl) (Nat.le_refl _) hok.left) rfl (.refl _) (fun v _ h=>⟨h.1.1,trivial⟩) rfl fun r10 hr10=>?_;refine d_ (H_ rfl) rfl ?_;refine aT_ 4 ((Con.bare (.mk kl nl ll hl al cl pl))||(Con.bare (.mk kr nr lr hr ar cr pr))) (fun r=>[(0,.agg #[.int .i64 k,.bool op,.int .i64 kl,str nl,.int .i64 ll,.int .i64 hl,.slice al pl.length cl,.int .i64 kr,str nr,.int .i64 lr,.int .i64 hr,.slice ar pr.length cr,.slice ad rs.length cap,str ro,str a,str b]),(1,zp_ b1 0),(2,.int .i64 0),(6,.agg #[.int .i64 k,.bool op,.int .i64 kl,str nl,.int .i64 ll,.int .i64 hl,.slice al pl.length cl,.int .i64 kr,str nr,.int .i64 lr,.int .i64 hr,.slice ar pr.length cr,.slice ad rs.length cap,str ro,str a,str b]),(7,.bool true),(8,.bool false),(9,zp_ b1 0),(10,.int .i64 k),(11,.pointer (some (rad (some ⟨0,0,none⟩) (k.toNat*7)))),(12,.agg #[.bool false,.bool false,.bool uo,.bool ua,.bool ub,.int .i64 um,.int .i64 un]),(3,zp_ b2 0),(13,.agg #[.int .i64 k,.bool op,.int .i64 kl,str nl,.int .i64 ll,.int .i64 hl,.slice al pl.length cl,.int .i64 kr,str nr,.int .i64 lr,.int .i64 hr,.slice ar pr.length cr,.slice ad rs.length cap,str ro,str a,str b]),(14,.agg #[.bool false,.bool false,.bool uo,.bool ua,.bool ub,.int .i64 um,.int .i64 un]),(15,.bool true),(16,.bool false),(17,zp_ b2 0),(18,.bool false),(25,zp_ b2 1),(26,.bool false),(33,zp_ b1 0),(34,.int .i64 k),(36,.bool true),(35,.bool true),(44,.bool r)]) ?_ fun r11 hr11=>?_
   ·cases r10
    ·have qr11:=hr10
     try dsimp only[Con.kind,Con.parts,Con.name,Con.lo,Con.hi,Con.cap,Con.ad]at hr10
     refine Y_ rfl rfl ?_;refine d_ (I_ x_ rfl rfl rfl q_) rfl ?_;refine Y_ rfl rfl ?_;refine d_ (ae_ 1 N_ q_ rfl rfl rfl) rfl ?_;refine Y_ rfl rfl ?_;refine ak_ (cw_ _ (.mk kr nr lr hr ar cr pr) (Nat.le_refl _) hok.right) rfl (.refl _) (fun v _ h=>⟨h.1.2.1,trivial⟩) rfl fun r12 hr12=>?_;refine d_ (cN_ rfl rfl) rfl ?_;refine m_ ?_;refine aj_ rfl ?_;exact met ⟨rfl,rfl,rfl,rfl,rfl,rfl,rfl,rfl,rfl,rfl,rfl,rfl,rfl,rfl,rfl,rfl,rfl,rfl,rfl,rfl,rfl,rfl,rfl,(l_ rfl (jof qr11 hr12)),trivial⟩
    have qr11:=hr10;try dsimp only[Con.kind,Con.parts,Con.name,Con.lo,Con.hi,Con.cap,Con.ad]at hr10
    refine bC_ rfl rfl rfl rfl ?_;refine bC_ rfl rfl rfl rfl ?_;refine bC_ rfl rfl rfl rfl ?_;refine d_ (cM_ rfl rfl) rfl ?_;refine m_ ?_;refine aj_ rfl ?_;exact met ⟨rfl,rfl,rfl,rfl,rfl,rfl,rfl,rfl,rfl,rfl,rfl,rfl,rfl,rfl,rfl,rfl,rfl,rfl,rfl,rfl,rfl,rfl,rfl,(l_ rfl (jot qr11)),trivial⟩
   refine m_ ?_;refine g_ rfl ?_;cases r11
   ·simp at hr11
    try dsimp only[Con.kind,Con.parts,Con.name,Con.lo,Con.hi,Con.cap,Con.ad]at hr11
    refine R_ rfl ?_;refine au_ ?_;refine g_ rfl ?_;refine p_ ?_;refine f_ ?_;refine d_ (u_ rfl) rfl ?_;refine m_ ?_;refine g_ rfl ?_;refine aA_ ?_;exact T_ av_ () (aG_ rfl (by unfold Ax.check;simp only[hus];simp_all)) (.refl _) zt
   simp at hr11
   try dsimp only[Con.kind,Con.parts,Con.name,Con.lo,Con.hi,Con.cap,Con.ad]at hr11
   refine C_ rfl ?_;refine p_ ?_;refine f_ ?_;refine d_ (u_ rfl) rfl ?_;refine m_ ?_;refine g_ rfl ?_;refine aA_ ?_;exact T_ av_ () (aG_ rfl (by unfold Ax.check;simp only[hus];simp_all)) (.refl _) zt
  try dsimp only[Con.kind,Con.parts,Con.name,Con.lo,Con.hi,Con.cap,Con.ad]at hur
  refine C_ rfl ?_;refine p_ ?_;refine f_ ?_;refine d_ (I_ x_ rfl rfl rfl q_) rfl ?_;refine d_ (ae_ 1 N_ q_ rfl rfl rfl) rfl ?_;refine n_ (fF_ (.mk kr nr lr hr ar cr pr) hok.right) rfl (.refl _) (fun v _ h=>⟨h.1.2.1,h.2.1,trivial⟩) rfl fun _=>?_;refine d_ (u_ rfl) rfl ?_;refine m_ ?_;refine g_ rfl ?_;refine p_ ?_;refine f_ ?_;refine d_ (H_ rfl) rfl ?_;refine J_ (cy_ rfl rfl) rfl fun r13 hr13=>?_;refine m_ ?_;refine g_ rfl ?_;cases r13
  ·replace hr13:=eO_ hr13
   try dsimp only[Con.kind,Con.parts,Con.name,Con.lo,Con.hi,Con.cap,Con.ad]at hr13
   refine R_ rfl ?_;refine au_ ?_;refine g_ rfl ?_;refine p_ ?_;refine p_ ?_;refine f_ ?_;refine d_ (I_ x_ rfl rfl rfl aw_) rfl ?_;refine d_ (ai_ 1 aO_ rfl rfl rfl) rfl ?_;refine m_ ?_;refine g_ rfl ?_;refine ba_ ?_;refine p_ ?_;refine f_ ?_;refine J_ (aM_ rfl rfl) rfl fun r14 hr14=>?_;refine d_ (u_ rfl) rfl ?_;refine m_ ?_;refine g_ rfl ?_;cases r14
   ·replace hr14:=znb hr14
    try dsimp only[Con.kind,Con.parts,Con.name,Con.lo,Con.hi,Con.cap,Con.ad]at hr14
    refine R_ rfl ?_;refine p_ ?_;refine p_ ?_;refine f_ ?_;refine J_ (aM_ rfl rfl) rfl fun r15 hr15=>?_;refine d_ (u_ rfl) rfl ?_;refine m_ ?_;refine g_ rfl ?_;cases r15
    ·replace hr15:=znb hr15
     try dsimp only[Con.kind,Con.parts,Con.name,Con.lo,Con.hi,Con.cap,Con.ad]at hr15
     refine R_ rfl ?_;refine p_ ?_;refine f_ ?_;refine J_ (aM_ rfl rfl) rfl fun r16 hr16=>?_;refine d_ (u_ rfl) rfl ?_;refine m_ ?_;refine g_ rfl ?_;cases r16
     ·replace hr16:=znb hr16
      try dsimp only[Con.kind,Con.parts,Con.name,Con.lo,Con.hi,Con.cap,Con.ad]at hr16
      refine R_ rfl ?_;refine f_ ?_;refine J_ (aM_ rfl rfl) rfl fun r17 hr17=>?_;refine d_ (u_ rfl) rfl ?_;refine m_ ?_;refine g_ rfl ?_;cases r17
      ·replace hr17:=znb hr17
       try dsimp only[Con.kind,Con.parts,Con.name,Con.lo,Con.hi,Con.cap,Con.ad]at hr17
       refine R_ rfl ?_;refine au_ ?_;refine g_ rfl ?_;refine p_ ?_;refine f_ ?_;refine d_ (u_ rfl) rfl ?_;refine m_ ?_;refine g_ rfl ?_;refine aA_ ?_;exact T_ av_ () (aG_ rfl (by unfold Ax.check;simp only[hus];simp_all)) (.refl _) zt
      replace hr17:=zeb hr17;try dsimp only[Con.kind,Con.parts,Con.name,Con.lo,Con.hi,Con.cap,Con.ad]at hr17
      refine C_ rfl ?_;refine p_ ?_;refine f_ ?_;refine d_ (I_ x_ rfl rfl rfl q_) rfl ?_;refine d_ (ae_ 1 N_ q_ rfl rfl rfl) rfl ?_;refine ak_ (cw_ _ (.mk kr nr lr hr ar cr pr) (Nat.le_refl _) hok.right) rfl (.refl _) (fun v _ h=>⟨h.1.2.1,trivial⟩) rfl fun r18 hr18=>?_;refine m_ ?_;refine g_ rfl ?_;cases r18
      ·try dsimp only[Con.kind,Con.parts,Con.name,Con.lo,Con.hi,Con.cap,Con.ad]at hr18
       refine R_ rfl ?_;refine au_ ?_;refine g_ rfl ?_;refine p_ ?_;refine f_ ?_;refine d_ (u_ rfl) rfl ?_;refine m_ ?_;refine g_ rfl ?_;refine aA_ ?_;exact T_ av_ () (aG_ rfl (by unfold Ax.check;simp only[hus];simp_all)) (.refl _) zt
      try dsimp only[Con.kind,Con.parts,Con.name,Con.lo,Con.hi,Con.cap,Con.ad]at hr18
      refine C_ rfl ?_;refine p_ ?_;refine f_ ?_;refine d_ (u_ rfl) rfl ?_;refine m_ ?_;refine g_ rfl ?_;refine aA_ ?_;exact T_ av_ () (aG_ rfl (by unfold Ax.check;simp only[hus];simp_all)) (.refl _) zt
     replace hr16:=zeb hr16;try dsimp only[Con.kind,Con.parts,Con.name,Con.lo,Con.hi,Con.cap,Con.ad]at hr16
     refine C_ rfl ?_;refine au_ ?_;refine g_ rfl ?_;refine C_ rfl ?_;refine p_ ?_;refine f_ ?_;refine d_ (I_ x_ rfl rfl rfl q_) rfl ?_;refine d_ (ae_ 1 N_ q_ rfl rfl rfl) rfl ?_;refine ak_ (cw_ _ (.mk kr nr lr hr ar cr pr) (Nat.le_refl _) hok.right) rfl (.refl _) (fun v _ h=>⟨h.1.2.1,trivial⟩) rfl fun r19 hr19=>?_;refine m_ ?_;refine g_ rfl ?_;cases r19
     ·try dsimp only[Con.kind,Con.parts,Con.name,Con.lo,Con.hi,Con.cap,Con.ad]at hr19
      refine R_ rfl ?_;refine au_ ?_;refine g_ rfl ?_;refine p_ ?_;refine f_ ?_;refine d_ (u_ rfl) rfl ?_;refine m_ ?_;refine g_ rfl ?_;refine aA_ ?_;exact T_ av_ () (aG_ rfl (by unfold Ax.check;simp only[hus];simp_all)) (.refl _) zt
     try dsimp only[Con.kind,Con.parts,Con.name,Con.lo,Con.hi,Con.cap,Con.ad]at hr19
     refine C_ rfl ?_;refine p_ ?_;refine f_ ?_;refine d_ (u_ rfl) rfl ?_;refine m_ ?_;refine g_ rfl ?_;refine aA_ ?_;exact T_ av_ () (aG_ rfl (by unfold Ax.check;simp only[hus];simp_all)) (.refl _) zt
    replace hr15:=zeb hr15;try dsimp only[Con.kind,Con.parts,Con.name,Con.lo,Con.hi,Con.cap,Con.ad]at hr15
    refine C_ rfl ?_;refine au_ ?_;refine g_ rfl ?_;refine C_ rfl ?_;refine p_ ?_;refine f_ ?_;refine d_ (I_ x_ rfl rfl rfl q_) rfl ?_;refine d_ (ae_ 1 N_ q_ rfl rfl rfl) rfl ?_;refine ak_ (cw_ _ (.mk kr nr lr hr ar cr pr) (Nat.le_refl _) hok.right) rfl (.refl _) (fun v _ h=>⟨h.1.2.1,trivial⟩) rfl fun r20 hr20=>?_;refine m_ ?_;refine g_ rfl ?_;cases r20
    ·try dsimp only[Con.kind,Con.parts,Con.name,Con.lo,Con.hi,Con.cap,Con.ad]at hr20
     refine R_ rfl ?_;refine au_ ?_;refine g_ rfl ?_;refine p_ ?_;refine f_ ?_;refine d_ (u_ rfl) rfl ?_;refine m_ ?_;refine g_ rfl ?_;refine aA_ ?_;exact T_ av_ () (aG_ rfl (by unfold Ax.check;simp only[hus];simp_all)) (.refl _) zt
    try dsimp only[Con.kind,Con.parts,Con.name,Con.lo,Con.hi,Con.cap,Con.ad]at hr20
    refine C_ rfl ?_;refine p_ ?_;refine f_ ?_;refine d_ (u_ rfl) rfl ?_;refine m_ ?_;refine g_ rfl ?_;refine aA_ ?_;exact T_ av_ () (aG_ rfl (by unfold Ax.check;simp only[hus];simp_all)) (.refl _) zt
   replace hr14:=zeb hr14;try dsimp only[Con.kind,Con.parts,Con.name,Con.lo,Con.hi,Con.cap,Con.ad]at hr14
   refine C_ rfl ?_;refine p_ ?_;refine f_ ?_;refine d_ (I_ x_ rfl rfl rfl q_) rfl ?_;refine d_ (ae_ 1 N_ q_ rfl rfl rfl) rfl ?_;refine ak_ (cw_ _ (.mk kl nl ll hl al cl pl) (Nat.le_refl _) hok.left) rfl (.refl _) (fun v _ h=>⟨h.1.1,trivial⟩) rfl fun r21 hr21=>?_;refine d_ (H_ rfl) rfl ?_;refine aT_ 4 ((Con.bare (.mk kl nl ll hl al cl pl))||(Con.bare (.mk kr nr lr hr ar cr pr))) (fun r=>[(0,.agg #[.int .i64 k,.bool op,.int .i64 kl,str nl,.int .i64 ll,.int .i64 hl,.slice al pl.length cl,.int .i64 kr,str nr,.int .i64 lr,.int .i64 hr,.slice ar pr.length cr,.slice ad rs.length cap,str ro,str a,str b]),(1,zp_ b1 0),(2,.int .i64 0),(6,.agg #[.int .i64 k,.bool op,.int .i64 kl,str nl,.int .i64 ll,.int .i64 hl,.slice al pl.length cl,.int .i64 kr,str nr,.int .i64 lr,.int .i64 hr,.slice ar pr.length cr,.slice ad rs.length cap,str ro,str a,str b]),(7,.bool true),(8,.bool false),(9,zp_ b1 0),(10,.int .i64 k),(11,.pointer (some (rad (some ⟨0,0,none⟩) (k.toNat*7)))),(12,.agg #[.bool false,.bool true,.bool uo,.bool ua,.bool ub,.int .i64 um,.int .i64 un]),(3,zp_ b2 0),(13,.agg #[.int .i64 k,.bool op,.int .i64 kl,str nl,.int .i64 ll,.int .i64 hl,.slice al pl.length cl,.int .i64 kr,str nr,.int .i64 lr,.int .i64 hr,.slice ar pr.length cr,.slice ad rs.length cap,str ro,str a,str b]),(14,.agg #[.bool false,.bool true,.bool uo,.bool ua,.bool ub,.int .i64 um,.int .i64 un]),(15,.bool true),(16,.bool false),(17,zp_ b2 0),(18,.bool false),(25,zp_ b2 1),(26,.bool true),(27,zp_ b1 7),(28,.agg #[.int .i64 kr,str nr,.int .i64 lr,.int .i64 hr,.slice ar pr.length cr]),(29,.int .i64 (Con.check (.mk kr nr lr hr ar cr pr))),(5,.int .i64 (Con.check (.mk kr nr lr hr ar cr pr))),(30,.int .i64 (Con.check (.mk kr nr lr hr ar cr pr))),(31,.bool false),(33,zp_ b1 0),(34,.int .i64 k),(36,.bool true),(35,.bool true),(44,.bool r)]) ?_ fun r22 hr22=>?_
   ·cases r21
    ·have qr22:=hr21
     try dsimp only[Con.kind,Con.parts,Con.name,Con.lo,Con.hi,Con.cap,Con.ad]at hr21
     refine Y_ rfl rfl ?_;refine d_ (I_ x_ rfl rfl rfl q_) rfl ?_;refine Y_ rfl rfl ?_;refine d_ (ae_ 1 N_ q_ rfl rfl rfl) rfl ?_;refine Y_ rfl rfl ?_;refine ak_ (cw_ _ (.mk kr nr lr hr ar cr pr) (Nat.le_refl _) hok.right) rfl (.refl _) (fun v _ h=>⟨h.1.2.1,trivial⟩) rfl fun r23 hr23=>?_;refine d_ (cN_ rfl rfl) rfl ?_;refine m_ ?_;refine aj_ rfl ?_;exact met ⟨rfl,rfl,rfl,rfl,rfl,rfl,rfl,rfl,rfl,rfl,rfl,rfl,rfl,rfl,rfl,rfl,rfl,rfl,rfl,rfl,rfl,rfl,rfl,rfl,rfl,rfl,rfl,rfl,rfl,(l_ rfl (jof qr22 hr23)),trivial⟩
    have qr22:=hr21;try dsimp only[Con.kind,Con.parts,Con.name,Con.lo,Con.hi,Con.cap,Con.ad]at hr21
    refine bC_ rfl rfl rfl rfl ?_;refine bC_ rfl rfl rfl rfl ?_;refine bC_ rfl rfl rfl rfl ?_;refine d_ (cM_ rfl rfl) rfl ?_;refine m_ ?_;refine aj_ rfl ?_;exact met ⟨rfl,rfl,rfl,rfl,rfl,rfl,rfl,rfl,rfl,rfl,rfl,rfl,rfl,rfl,rfl,rfl,rfl,rfl,rfl,rfl,rfl,rfl,rfl,rfl,rfl,rfl,rfl,rfl,rfl,(l_ rfl (jot qr22)),trivial⟩
   refine m_ ?_;refine g_ rfl ?_;cases r22
   ·simp at hr22
    try dsimp only[Con.kind,Con.parts,Con.name,Con.lo,Con.hi,Con.cap,Con.ad]at hr22
    refine R_ rfl ?_;refine au_ ?_;refine g_ rfl ?_;refine p_ ?_;refine f_ ?_;refine d_ (u_ rfl) rfl ?_;refine m_ ?_;refine g_ rfl ?_;refine aA_ ?_;exact T_ av_ () (aG_ rfl (by unfold Ax.check;simp only[hus];simp_all)) (.refl _) zt
   simp at hr22
   try dsimp only[Con.kind,Con.parts,Con.name,Con.lo,Con.hi,Con.cap,Con.ad]at hr22
   refine C_ rfl ?_;refine p_ ?_;refine f_ ?_;refine d_ (u_ rfl) rfl ?_;refine m_ ?_;refine g_ rfl ?_;refine aA_ ?_;exact T_ av_ () (aG_ rfl (by unfold Ax.check;simp only[hus];simp_all)) (.refl _) zt
  replace hr13:=eM_ hr13;try dsimp only[Con.kind,Con.parts,Con.name,Con.lo,Con.hi,Con.cap,Con.ad]at hr13
  refine C_ rfl ?_;refine p_ ?_;refine f_ ?_;refine d_ (H_ rfl) rfl ?_;refine d_ (u_ rfl) rfl ?_;refine m_ ?_;refine g_ rfl ?_;refine aA_ ?_;exact T_ av_ () (aG_ rfl (by unfold Ax.check;simp only[hus];simp_all)) (.refl _) zt
 try dsimp only[Con.kind,Con.parts,Con.name,Con.lo,Con.hi,Con.cap,Con.ad]at hul
 refine C_ rfl ?_;refine p_ ?_;refine f_ ?_;refine d_ (I_ x_ rfl rfl rfl q_) rfl ?_;refine d_ (ae_ 1 N_ q_ rfl rfl rfl) rfl ?_;refine n_ (fF_ (.mk kl nl ll hl al cl pl) hok.left) rfl (.refl _) (fun v _ h=>⟨h.1.1,h.2.1,trivial⟩) rfl fun _=>?_;refine d_ (u_ rfl) rfl ?_;refine m_ ?_;refine g_ rfl ?_;refine p_ ?_;refine f_ ?_;refine d_ (H_ rfl) rfl ?_;refine J_ (cy_ rfl rfl) rfl fun r24 hr24=>?_;refine m_ ?_;refine g_ rfl ?_;cases r24
 ·replace hr24:=eO_ hr24
  try dsimp only[Con.kind,Con.parts,Con.name,Con.lo,Con.hi,Con.cap,Con.ad]at hr24
  refine R_ rfl ?_;refine au_ ?_;refine g_ rfl ?_;refine p_ ?_;refine p_ ?_;refine f_ ?_;refine d_ (I_ br_ rfl rfl rfl fK_) rfl ?_;refine d_ (ai_ 0 gQ_ rfl rfl rfl) rfl ?_;refine m_ ?_;refine g_ rfl ?_;cases ur
  ·try dsimp only[Con.kind,Con.parts,Con.name,Con.lo,Con.hi,Con.cap,Con.ad]at hur
   refine R_ rfl ?_;refine au_ ?_;refine g_ rfl ?_;refine p_ ?_;refine p_ ?_;refine f_ ?_;refine d_ (I_ x_ rfl rfl rfl aw_) rfl ?_;refine d_ (ai_ 1 aO_ rfl rfl rfl) rfl ?_;refine m_ ?_;refine g_ rfl ?_;refine ba_ ?_;refine p_ ?_;refine f_ ?_;refine J_ (aM_ rfl rfl) rfl fun r25 hr25=>?_;refine d_ (u_ rfl) rfl ?_;refine m_ ?_;refine g_ rfl ?_;cases r25
   ·replace hr25:=znb hr25
    try dsimp only[Con.kind,Con.parts,Con.name,Con.lo,Con.hi,Con.cap,Con.ad]at hr25
    refine R_ rfl ?_;refine p_ ?_;refine p_ ?_;refine f_ ?_;refine J_ (aM_ rfl rfl) rfl fun r26 hr26=>?_;refine d_ (u_ rfl) rfl ?_;refine m_ ?_;refine g_ rfl ?_;cases r26
    ·replace hr26:=znb hr26
     try dsimp only[Con.kind,Con.parts,Con.name,Con.lo,Con.hi,Con.cap,Con.ad]at hr26
     refine R_ rfl ?_;refine p_ ?_;refine f_ ?_;refine J_ (aM_ rfl rfl) rfl fun r27 hr27=>?_;refine d_ (u_ rfl) rfl ?_;refine m_ ?_;refine g_ rfl ?_;cases r27
     ·replace hr27:=znb hr27
      try dsimp only[Con.kind,Con.parts,Con.name,Con.lo,Con.hi,Con.cap,Con.ad]at hr27
      refine R_ rfl ?_;refine f_ ?_;refine J_ (aM_ rfl rfl) rfl fun r28 hr28=>?_;refine d_ (u_ rfl) rfl ?_;refine m_ ?_;refine g_ rfl ?_;cases r28
      ·replace hr28:=znb hr28
       try dsimp only[Con.kind,Con.parts,Con.name,Con.lo,Con.hi,Con.cap,Con.ad]at hr28
       refine R_ rfl ?_;refine au_ ?_;refine g_ rfl ?_;refine p_ ?_;refine f_ ?_;refine d_ (u_ rfl) rfl ?_;refine m_ ?_;refine g_ rfl ?_;refine aA_ ?_;exact T_ av_ () (aG_ rfl (by unfold Ax.check;simp only[hus];simp_all)) (.refl _) zt
      replace hr28:=zeb hr28;try dsimp only[Con.kind,Con.parts,Con.name,Con.lo,Con.hi,Con.cap,Con.ad]at hr28
      refine C_ rfl ?_;refine p_ ?_;refine f_ ?_;refine d_ (I_ x_ rfl rfl rfl q_) rfl ?_;refine d_ (ae_ 1 N_ q_ rfl rfl rfl) rfl ?_;refine ak_ (cw_ _ (.mk kr nr lr hr ar cr pr) (Nat.le_refl _) hok.right) rfl (.refl _) (fun v _ h=>⟨h.1.2.1,trivial⟩) rfl fun r29 hr29=>?_;refine m_ ?_;refine g_ rfl ?_;cases r29
      ·try dsimp only[Con.kind,Con.parts,Con.name,Con.lo,Con.hi,Con.cap,Con.ad]at hr29
       refine R_ rfl ?_;refine au_ ?_;refine g_ rfl ?_;refine p_ ?_;refine f_ ?_;refine d_ (u_ rfl) rfl ?_;refine m_ ?_;refine g_ rfl ?_;refine aA_ ?_;exact T_ av_ () (aG_ rfl (by unfold Ax.check;simp only[hus];simp_all)) (.refl _) zt
      try dsimp only[Con.kind,Con.parts,Con.name,Con.lo,Con.hi,Con.cap,Con.ad]at hr29
      refine C_ rfl ?_;refine p_ ?_;refine f_ ?_;refine d_ (u_ rfl) rfl ?_;refine m_ ?_;refine g_ rfl ?_;refine aA_ ?_;exact T_ av_ () (aG_ rfl (by unfold Ax.check;simp only[hus];simp_all)) (.refl _) zt
     replace hr27:=zeb hr27;try dsimp only[Con.kind,Con.parts,Con.name,Con.lo,Con.hi,Con.cap,Con.ad]at hr27
     refine C_ rfl ?_;refine au_ ?_;refine g_ rfl ?_;refine C_ rfl ?_;refine p_ ?_;refine f_ ?_;refine d_ (I_ x_ rfl rfl rfl q_) rfl ?_;refine d_ (ae_ 1 N_ q_ rfl rfl rfl) rfl ?_;refine ak_ (cw_ _ (.mk kr nr lr hr ar cr pr) (Nat.le_refl _) hok.right) rfl (.refl _) (fun v _ h=>⟨h.1.2.1,trivial⟩) rfl fun r30 hr30=>?_;refine m_ ?_;refine g_ rfl ?_;cases r30
     ·try dsimp only[Con.kind,Con.parts,Con.name,Con.lo,Con.hi,Con.cap,Con.ad]at hr30
      refine R_ rfl ?_;refine au_ ?_;refine g_ rfl ?_;refine p_ ?_;refine f_ ?_;refine d_ (u_ rfl) rfl ?_;refine m_ ?_;refine g_ rfl ?_;refine aA_ ?_;exact T_ av_ () (aG_ rfl (by unfold Ax.check;simp only[hus];simp_all)) (.refl _) zt
     try dsimp only[Con.kind,Con.parts,Con.name,Con.lo,Con.hi,Con.cap,Con.ad]at hr30
     refine C_ rfl ?_;refine p_ ?_;refine f_ ?_;refine d_ (u_ rfl) rfl ?_;refine m_ ?_;refine g_ rfl ?_;refine aA_ ?_;exact T_ av_ () (aG_ rfl (by unfold Ax.check;simp only[hus];simp_all)) (.refl _) zt
    replace hr26:=zeb hr26;try dsimp only[Con.kind,Con.parts,Con.name,Con.lo,Con.hi,Con.cap,Con.ad]at hr26
    refine C_ rfl ?_;refine au_ ?_;refine g_ rfl ?_;refine C_ rfl ?_;refine p_ ?_;refine f_ ?_;refine d_ (I_ x_ rfl rfl rfl q_) rfl ?_;refine d_ (ae_ 1 N_ q_ rfl rfl rfl) rfl ?_;refine ak_ (cw_ _ (.mk kr nr lr hr ar cr pr) (Nat.le_refl _) hok.right) rfl (.refl _) (fun v _ h=>⟨h.1.2.1,trivial⟩) rfl fun r31 hr31=>?_;refine m_ ?_;refine g_ rfl ?_;cases r31
    ·try dsimp only[Con.kind,Con.parts,Con.name,Con.lo,Con.hi,Con.cap,Con.ad]at hr31
     refine R_ rfl ?_;refine au_ ?_;refine g_ rfl ?_;refine p_ ?_;refine f_ ?_;refine d_ (u_ rfl) rfl ?_;refine m_ ?_;refine g_ rfl ?_;refine aA_ ?_;exact T_ av_ () (aG_ rfl (by unfold Ax.check;simp only[hus];simp_all)) (.refl _) zt
    try dsimp only[Con.kind,Con.parts,Con.name,Con.lo,Con.hi,Con.cap,Con.ad]at hr31
    refine C_ rfl ?_;refine p_ ?_;refine f_ ?_;refine d_ (u_ rfl) rfl ?_;refine m_ ?_;refine g_ rfl ?_;refine aA_ ?_;exact T_ av_ () (aG_ rfl (by unfold Ax.check;simp only[hus];simp_all)) (.refl _) zt
   replace hr25:=zeb hr25;try dsimp only[Con.kind,Con.parts,Con.name,Con.lo,Con.hi,Con.cap,Con.ad]at hr25
   refine C_ rfl ?_;refine p_ ?_;refine f_ ?_;refine d_ (I_ x_ rfl rfl rfl q_) rfl ?_;refine d_ (ae_ 1 N_ q_ rfl rfl rfl) rfl ?_;refine ak_ (cw_ _ (.mk kl nl ll hl al cl pl) (Nat.le_refl _) hok.left) rfl (.refl _) (fun v _ h=>⟨h.1.1,trivial⟩) rfl fun r32 hr32=>?_;refine d_ (H_ rfl) rfl ?_;refine aT_ 4 ((Con.bare (.mk kl nl ll hl al cl pl))||(Con.bare (.mk kr nr lr hr ar cr pr))) (fun r=>[(0,.agg #[.int .i64 k,.bool op,.int .i64 kl,str nl,.int .i64 ll,.int .i64 hl,.slice al pl.length cl,.int .i64 kr,str nr,.int .i64 lr,.int .i64 hr,.slice ar pr.length cr,.slice ad rs.length cap,str ro,str a,str b]),(1,zp_ b1 0),(2,.int .i64 0),(6,.agg #[.int .i64 k,.bool op,.int .i64 kl,str nl,.int .i64 ll,.int .i64 hl,.slice al pl.length cl,.int .i64 kr,str nr,.int .i64 lr,.int .i64 hr,.slice ar pr.length cr,.slice ad rs.length cap,str ro,str a,str b]),(7,.bool true),(8,.bool false),(9,zp_ b1 0),(10,.int .i64 k),(11,.pointer (some (rad (some ⟨0,0,none⟩) (k.toNat*7)))),(12,.agg #[.bool true,.bool false,.bool uo,.bool ua,.bool ub,.int .i64 um,.int .i64 un]),(3,zp_ b2 0),(13,.agg #[.int .i64 k,.bool op,.int .i64 kl,str nl,.int .i64 ll,.int .i64 hl,.slice al pl.length cl,.int .i64 kr,str nr,.int .i64 lr,.int .i64 hr,.slice ar pr.length cr,.slice ad rs.length cap,str ro,str a,str b]),(14,.agg #[.bool true,.bool false,.bool uo,.bool ua,.bool ub,.int .i64 um,.int .i64 un]),(15,.bool true),(16,.bool false),(17,zp_ b2 0),(18,.bool true),(19,zp_ b1 2),(20,.agg #[.int .i64 kl,str nl,.int .i64 ll,.int .i64 hl,.slice al pl.length cl]),(21,.int .i64 (Con.check (.mk kl nl ll hl al cl pl))),(4,.int .i64 (Con.check (.mk kl nl ll hl al cl pl))),(22,.int .i64 (Con.check (.mk kl nl ll hl al cl pl))),(23,.bool false),(25,zp_ b2 1),(26,.bool false),(33,zp_ b1 0),(34,.int .i64 k),(36,.bool true),(35,.bool true),(44,.bool r)]) ?_ fun r33 hr33=>?_
   ·cases r32
    ·have qr33:=hr32
     try dsimp only[Con.kind,Con.parts,Con.name,Con.lo,Con.hi,Con.cap,Con.ad]at hr32
     refine Y_ rfl rfl ?_;refine d_ (I_ x_ rfl rfl rfl q_) rfl ?_;refine Y_ rfl rfl ?_;refine d_ (ae_ 1 N_ q_ rfl rfl rfl) rfl ?_;refine Y_ rfl rfl ?_;refine ak_ (cw_ _ (.mk kr nr lr hr ar cr pr) (Nat.le_refl _) hok.right) rfl (.refl _) (fun v _ h=>⟨h.1.2.1,trivial⟩) rfl fun r34 hr34=>?_;refine d_ (cN_ rfl rfl) rfl ?_;refine m_ ?_;refine aj_ rfl ?_;exact met ⟨rfl,rfl,rfl,rfl,rfl,rfl,rfl,rfl,rfl,rfl,rfl,rfl,rfl,rfl,rfl,rfl,rfl,rfl,rfl,rfl,rfl,rfl,rfl,rfl,rfl,rfl,rfl,rfl,rfl,(l_ rfl (jof qr33 hr34)),trivial⟩
    have qr33:=hr32;try dsimp only[Con.kind,Con.parts,Con.name,Con.lo,Con.hi,Con.cap,Con.ad]at hr32
    refine bC_ rfl rfl rfl rfl ?_;refine bC_ rfl rfl rfl rfl ?_;refine bC_ rfl rfl rfl rfl ?_;refine d_ (cM_ rfl rfl) rfl ?_;refine m_ ?_;refine aj_ rfl ?_;exact met ⟨rfl,rfl,rfl,rfl,rfl,rfl,rfl,rfl,rfl,rfl,rfl,rfl,rfl,rfl,rfl,rfl,rfl,rfl,rfl,rfl,rfl,rfl,rfl,rfl,rfl,rfl,rfl,rfl,rfl,(l_ rfl (jot qr33)),trivial⟩
   refine m_ ?_;refine g_ rfl ?_;cases r33
   ·simp at hr33
    try dsimp only[Con.kind,Con.parts,Con.name,Con.lo,Con.hi,Con.cap,Con.ad]at hr33
    refine R_ rfl ?_;refine au_ ?_;refine g_ rfl ?_;refine p_ ?_;refine f_ ?_;refine d_ (u_ rfl) rfl ?_;refine m_ ?_;refine g_ rfl ?_;refine aA_ ?_;exact T_ av_ () (aG_ rfl (by unfold Ax.check;simp only[hus];simp_all)) (.refl _) zt
   simp at hr33
   try dsimp only[Con.kind,Con.parts,Con.name,Con.lo,Con.hi,Con.cap,Con.ad]at hr33
   refine C_ rfl ?_;refine p_ ?_;refine f_ ?_;refine d_ (u_ rfl) rfl ?_;refine m_ ?_;refine g_ rfl ?_;refine aA_ ?_;exact T_ av_ () (aG_ rfl (by unfold Ax.check;simp only[hus];simp_all)) (.refl _) zt
  try dsimp only[Con.kind,Con.parts,Con.name,Con.lo,Con.hi,Con.cap,Con.ad]at hur
  refine C_ rfl ?_;refine p_ ?_;refine f_ ?_;refine d_ (I_ x_ rfl rfl rfl q_) rfl ?_;refine d_ (ae_ 1 N_ q_ rfl rfl rfl) rfl ?_;refine n_ (fF_ (.mk kr nr lr hr ar cr pr) hok.right) rfl (.refl _) (fun v _ h=>⟨h.1.2.1,h.2.1,trivial⟩) rfl fun _=>?_;refine d_ (u_ rfl) rfl ?_;refine m_ ?_;refine g_ rfl ?_;refine p_ ?_;refine f_ ?_;refine d_ (H_ rfl) rfl ?_;refine J_ (cy_ rfl rfl) rfl fun r35 hr35=>?_;refine m_ ?_;refine g_ rfl ?_;cases r35
  ·replace hr35:=eO_ hr35
   try dsimp only[Con.kind,Con.parts,Con.name,Con.lo,Con.hi,Con.cap,Con.ad]at hr35
   refine R_ rfl ?_;refine au_ ?_;refine g_ rfl ?_;refine p_ ?_;refine p_ ?_;refine f_ ?_;refine d_ (I_ x_ rfl rfl rfl aw_) rfl ?_;refine d_ (ai_ 1 aO_ rfl rfl rfl) rfl ?_;refine m_ ?_;refine g_ rfl ?_;refine ba_ ?_;refine p_ ?_;refine f_ ?_;refine J_ (aM_ rfl rfl) rfl fun r36 hr36=>?_;refine d_ (u_ rfl) rfl ?_;refine m_ ?_;refine g_ rfl ?_;cases r36
   ·replace hr36:=znb hr36
    try dsimp only[Con.kind,Con.parts,Con.name,Con.lo,Con.hi,Con.cap,Con.ad]at hr36
    refine R_ rfl ?_;refine p_ ?_;refine p_ ?_;refine f_ ?_;refine J_ (aM_ rfl rfl) rfl fun r37 hr37=>?_;refine d_ (u_ rfl) rfl ?_;refine m_ ?_;refine g_ rfl ?_;cases r37
    ·replace hr37:=znb hr37
     try dsimp only[Con.kind,Con.parts,Con.name,Con.lo,Con.hi,Con.cap,Con.ad]at hr37
     refine R_ rfl ?_;refine p_ ?_;refine f_ ?_;refine J_ (aM_ rfl rfl) rfl fun r38 hr38=>?_;refine d_ (u_ rfl) rfl ?_;refine m_ ?_;refine g_ rfl ?_;cases r38
     ·replace hr38:=znb hr38
      try dsimp only[Con.kind,Con.parts,Con.name,Con.lo,Con.hi,Con.cap,Con.ad]at hr38
      refine R_ rfl ?_;refine f_ ?_;refine J_ (aM_ rfl rfl) rfl fun r39 hr39=>?_;refine d_ (u_ rfl) rfl ?_;refine m_ ?_;refine g_ rfl ?_;cases r39
      ·replace hr39:=znb hr39
       try dsimp only[Con.kind,Con.parts,Con.name,Con.lo,Con.hi,Con.cap,Con.ad]at hr39
       refine R_ rfl ?_;refine au_ ?_;refine g_ rfl ?_;refine p_ ?_;refine f_ ?_;refine d_ (u_ rfl) rfl ?_;refine m_ ?_;refine g_ rfl ?_;refine aA_ ?_;exact T_ av_ () (aG_ rfl (by unfold Ax.check;simp only[hus];simp_all)) (.refl _) zt
      replace hr39:=zeb hr39;try dsimp only[Con.kind,Con.parts,Con.name,Con.lo,Con.hi,Con.cap,Con.ad]at hr39
      refine C_ rfl ?_;refine p_ ?_;refine f_ ?_;refine d_ (I_ x_ rfl rfl rfl q_) rfl ?_;refine d_ (ae_ 1 N_ q_ rfl rfl rfl) rfl ?_;refine ak_ (cw_ _ (.mk kr nr lr hr ar cr pr) (Nat.le_refl _) hok.right) rfl (.refl _) (fun v _ h=>⟨h.1.2.1,trivial⟩) rfl fun r40 hr40=>?_;refine m_ ?_;refine g_ rfl ?_;cases r40
      ·try dsimp only[Con.kind,Con.parts,Con.name,Con.lo,Con.hi,Con.cap,Con.ad]at hr40
       refine R_ rfl ?_;refine au_ ?_;refine g_ rfl ?_;refine p_ ?_;refine f_ ?_;refine d_ (u_ rfl) rfl ?_;refine m_ ?_;refine g_ rfl ?_;refine aA_ ?_;exact T_ av_ () (aG_ rfl (by unfold Ax.check;simp only[hus];simp_all)) (.refl _) zt
      try dsimp only[Con.kind,Con.parts,Con.name,Con.lo,Con.hi,Con.cap,Con.ad]at hr40
      refine C_ rfl ?_;refine p_ ?_;refine f_ ?_;refine d_ (u_ rfl) rfl ?_;refine m_ ?_;refine g_ rfl ?_;refine aA_ ?_;exact T_ av_ () (aG_ rfl (by unfold Ax.check;simp only[hus];simp_all)) (.refl _) zt
     replace hr38:=zeb hr38;try dsimp only[Con.kind,Con.parts,Con.name,Con.lo,Con.hi,Con.cap,Con.ad]at hr38
     refine C_ rfl ?_;refine au_ ?_;refine g_ rfl ?_;refine C_ rfl ?_;refine p_ ?_;refine f_ ?_;refine d_ (I_ x_ rfl rfl rfl q_) rfl ?_;refine d_ (ae_ 1 N_ q_ rfl rfl rfl) rfl ?_;refine ak_ (cw_ _ (.mk kr nr lr hr ar cr pr) (Nat.le_refl _) hok.right) rfl (.refl _) (fun v _ h=>⟨h.1.2.1,trivial⟩) rfl fun r41 hr41=>?_;refine m_ ?_;refine g_ rfl ?_;cases r41
     ·try dsimp only[Con.kind,Con.parts,Con.name,Con.lo,Con.hi,Con.cap,Con.ad]at hr41
      refine R_ rfl ?_;refine au_ ?_;refine g_ rfl ?_;refine p_ ?_;refine f_ ?_;refine d_ (u_ rfl) rfl ?_;refine m_ ?_;refine g_ rfl ?_;refine aA_ ?_;exact T_ av_ () (aG_ rfl (by unfold Ax.check;simp only[hus];simp_all)) (.refl _) zt
     try dsimp only[Con.kind,Con.parts,Con.name,Con.lo,Con.hi,Con.cap,Con.ad]at hr41
     refine C_ rfl ?_;refine p_ ?_;refine f_ ?_;refine d_ (u_ rfl) rfl ?_;refine m_ ?_;refine g_ rfl ?_;refine aA_ ?_;exact T_ av_ () (aG_ rfl (by unfold Ax.check;simp only[hus];simp_all)) (.refl _) zt
    replace hr37:=zeb hr37;try dsimp only[Con.kind,Con.parts,Con.name,Con.lo,Con.hi,Con.cap,Con.ad]at hr37
    refine C_ rfl ?_;refine au_ ?_;refine g_ rfl ?_;refine C_ rfl ?_;refine p_ ?_;refine f_ ?_;refine d_ (I_ x_ rfl rfl rfl q_) rfl ?_;refine d_ (ae_ 1 N_ q_ rfl rfl rfl) rfl ?_;refine ak_ (cw_ _ (.mk kr nr lr hr ar cr pr) (Nat.le_refl _) hok.right) rfl (.refl _) (fun v _ h=>⟨h.1.2.1,trivial⟩) rfl fun r42 hr42=>?_;refine m_ ?_;refine g_ rfl ?_;cases r42
    ·try dsimp only[Con.kind,Con.parts,Con.name,Con.lo,Con.hi,Con.cap,Con.ad]at hr42
     refine R_ rfl ?_;refine au_ ?_;refine g_ rfl ?_;refine p_ ?_;refine f_ ?_;refine d_ (u_ rfl) rfl ?_;refine m_ ?_;refine g_ rfl ?_;refine aA_ ?_;exact T_ av_ () (aG_ rfl (by unfold Ax.check;simp only[hus];simp_all)) (.refl _) zt
    try dsimp only[Con.kind,Con.parts,Con.name,Con.lo,Con.hi,Con.cap,Con.ad]at hr42
    refine C_ rfl ?_;refine p_ ?_;refine f_ ?_;refine d_ (u_ rfl) rfl ?_;refine m_ ?_;refine g_ rfl ?_;refine aA_ ?_;exact T_ av_ () (aG_ rfl (by unfold Ax.check;simp only[hus];simp_all)) (.refl _) zt
   replace hr36:=zeb hr36;try dsimp only[Con.kind,Con.parts,Con.name,Con.lo,Con.hi,Con.cap,Con.ad]at hr36
   refine C_ rfl ?_;refine p_ ?_;refine f_ ?_;refine d_ (I_ x_ rfl rfl rfl q_) rfl ?_;refine d_ (ae_ 1 N_ q_ rfl rfl rfl) rfl ?_;refine ak_ (cw_ _ (.mk kl nl ll hl al cl pl) (Nat.le_refl _) hok.left) rfl (.refl _) (fun v _ h=>⟨h.1.1,trivial⟩) rfl fun r43 hr43=>?_;refine d_ (H_ rfl) rfl ?_;refine aT_ 4 ((Con.bare (.mk kl nl ll hl al cl pl))||(Con.bare (.mk kr nr lr hr ar cr pr))) (fun r=>[(0,.agg #[.int .i64 k,.bool op,.int .i64 kl,str nl,.int .i64 ll,.int .i64 hl,.slice al pl.length cl,.int .i64 kr,str nr,.int .i64 lr,.int .i64 hr,.slice ar pr.length cr,.slice ad rs.length cap,str ro,str a,str b]),(1,zp_ b1 0),(2,.int .i64 0),(6,.agg #[.int .i64 k,.bool op,.int .i64 kl,str nl,.int .i64 ll,.int .i64 hl,.slice al pl.length cl,.int .i64 kr,str nr,.int .i64 lr,.int .i64 hr,.slice ar pr.length cr,.slice ad rs.length cap,str ro,str a,str b]),(7,.bool true),(8,.bool false),(9,zp_ b1 0),(10,.int .i64 k),(11,.pointer (some (rad (some ⟨0,0,none⟩) (k.toNat*7)))),(12,.agg #[.bool true,.bool true,.bool uo,.bool ua,.bool ub,.int .i64 um,.int .i64 un]),(3,zp_ b2 0),(13,.agg #[.int .i64 k,.bool op,.int .i64 kl,str nl,.int .i64 ll,.int .i64 hl,.slice al pl.length cl,.int .i64 kr,str nr,.int .i64 lr,.int .i64 hr,.slice ar pr.length cr,.slice ad rs.length cap,str ro,str a,str b]),(14,.agg #[.bool true,.bool true,.bool uo,.bool ua,.bool ub,.int .i64 um,.int .i64 un]),(15,.bool true),(16,.bool false),(17,zp_ b2 0),(18,.bool true),(19,zp_ b1 2),(20,.agg #[.int .i64 kl,str nl,.int .i64 ll,.int .i64 hl,.slice al pl.length cl]),(21,.int .i64 (Con.check (.mk kl nl ll hl al cl pl))),(4,.int .i64 (Con.check (.mk kl nl ll hl al cl pl))),(22,.int .i64 (Con.check (.mk kl nl ll hl al cl pl))),(23,.bool false),(25,zp_ b2 1),(26,.bool true),(27,zp_ b1 7),(28,.agg #[.int .i64 kr,str nr,.int .i64 lr,.int .i64 hr,.slice ar pr.length cr]),(29,.int .i64 (Con.check (.mk kr nr lr hr ar cr pr))),(5,.int .i64 (Con.check (.mk kr nr lr hr ar cr pr))),(30,.int .i64 (Con.check (.mk kr nr lr hr ar cr pr))),(31,.bool false),(33,zp_ b1 0),(34,.int .i64 k),(36,.bool true),(35,.bool true),(44,.bool r)]) ?_ fun r44 hr44=>?_
   ·cases r43
    ·have qr44:=hr43
     try dsimp only[Con.kind,Con.parts,Con.name,Con.lo,Con.hi,Con.cap,Con.ad]at hr43
     refine Y_ rfl rfl ?_;refine d_ (I_ x_ rfl rfl rfl q_) rfl ?_;refine Y_ rfl rfl ?_;refine d_ (ae_ 1 N_ q_ rfl rfl rfl) rfl ?_;refine Y_ rfl rfl ?_;refine ak_ (cw_ _ (.mk kr nr lr hr ar cr pr) (Nat.le_refl _) hok.right) rfl (.refl _) (fun v _ h=>⟨h.1.2.1,trivial⟩) rfl fun r45 hr45=>?_;refine d_ (cN_ rfl rfl) rfl ?_;refine m_ ?_;refine aj_ rfl ?_;exact met ⟨rfl,rfl,rfl,rfl,rfl,rfl,rfl,rfl,rfl,rfl,rfl,rfl,rfl,rfl,rfl,rfl,rfl,rfl,rfl,rfl,rfl,rfl,rfl,rfl,rfl,rfl,rfl,rfl,rfl,rfl,rfl,rfl,rfl,rfl,rfl,(l_ rfl (jof qr44 hr45)),trivial⟩
    have qr44:=hr43;try dsimp only[Con.kind,Con.parts,Con.name,Con.lo,Con.hi,Con.cap,Con.ad]at hr43
    refine bC_ rfl rfl rfl rfl ?_;refine bC_ rfl rfl rfl rfl ?_;refine bC_ rfl rfl rfl rfl ?_;refine d_ (cM_ rfl rfl) rfl ?_;refine m_ ?_;refine aj_ rfl ?_;exact met ⟨rfl,rfl,rfl,rfl,rfl,rfl,rfl,rfl,rfl,rfl,rfl,rfl,rfl,rfl,rfl,rfl,rfl,rfl,rfl,rfl,rfl,rfl,rfl,rfl,rfl,rfl,rfl,rfl,rfl,rfl,rfl,rfl,rfl,rfl,rfl,(l_ rfl (jot qr44)),trivial⟩
   refine m_ ?_;refine g_ rfl ?_;cases r44
   ·simp at hr44
    try dsimp only[Con.kind,Con.parts,Con.name,Con.lo,Con.hi,Con.cap,Con.ad]at hr44
    refine R_ rfl ?_;refine au_ ?_;refine g_ rfl ?_;refine p_ ?_;refine f_ ?_;refine d_ (u_ rfl) rfl ?_;refine m_ ?_;refine g_ rfl ?_;refine aA_ ?_;exact T_ av_ () (aG_ rfl (by unfold Ax.check;simp only[hus];simp_all)) (.refl _) zt
   simp at hr44
   try dsimp only[Con.kind,Con.parts,Con.name,Con.lo,Con.hi,Con.cap,Con.ad]at hr44
   refine C_ rfl ?_;refine p_ ?_;refine f_ ?_;refine d_ (u_ rfl) rfl ?_;refine m_ ?_;refine g_ rfl ?_;refine aA_ ?_;exact T_ av_ () (aG_ rfl (by unfold Ax.check;simp only[hus];simp_all)) (.refl _) zt
  replace hr35:=eM_ hr35;try dsimp only[Con.kind,Con.parts,Con.name,Con.lo,Con.hi,Con.cap,Con.ad]at hr35
  refine C_ rfl ?_;refine p_ ?_;refine f_ ?_;refine d_ (H_ rfl) rfl ?_;refine d_ (u_ rfl) rfl ?_;refine m_ ?_;refine g_ rfl ?_;refine aA_ ?_;exact T_ av_ () (aG_ rfl (by unfold Ax.check;simp only[hus];simp_all)) (.refl _) zt
 replace hr24:=eM_ hr24;try dsimp only[Con.kind,Con.parts,Con.name,Con.lo,Con.hi,Con.cap,Con.ad]at hr24
 refine C_ rfl ?_;refine p_ ?_;refine f_ ?_;refine d_ (H_ rfl) rfl ?_;refine d_ (u_ rfl) rfl ?_;refine m_ ?_;refine g_ rfl ?_;refine aA_ ?_;exact T_ av_ () (aG_ rfl (by unfold Ax.check;simp only[hus];simp_all)) (.refl _) zt
end Go.Proofs.YtaffcjgphlhppaaGreatDoor
namespace Go.Proofs.YtaffcjgphlhppaaGreatDoor
open Go Go.Sx Go.Proofs
attribute [local irreducible] Code.wp wpList wpAnyH
open Go.Vs
def prE:Array MapEntry:=#[⟨.int .i64 1,.func (.func 225) #[] #[],0⟩,⟨.int .i64 2,.func (.func 226) #[] #[],1⟩,⟨.int .i64 3,.func (.func 227) #[] #[],2⟩,⟨.int .i64 4,.func (.func 228) #[] #[],3⟩,⟨.int .i64 5,.func (.func 229) #[] #[],4⟩,⟨.int .i64 6,.func (.func 230) #[] #[],5⟩,⟨.int .i64 7,.func (.func 231) #[] #[],6⟩]
def prF (m:Nat):Fct:=bJ_ m (.map prE 7)
def prV (m n:Nat):Value:=.agg #[.map (some m),.map (some n)]
theorem elt39:Elt Tryz.prog 46 9 1 16:=jq_ ix_ (z:=.string ⟨#[]⟩) (by kernel_rfl) rfl (by decide)
theorem ur_ {b n cap:Nat} (xs:List Str) (sep:Str) (hn:xs.length=n) {arr:Array Value} {T:TypeId} {fz:Nat×Nat} (hc:∀ (j:Nat) (x:Str),xs[j]? = some x→arr[j]? = some (str x)) (hcap:xs.length≤cap) (hN:xs.length≤1000000) (hlen:(Lib.join xs sep).length≤140737488355328) :
    Tri Tryz.prog 251 #[.slice (some ⟨b,0,none⟩) n cap,str sep] [(b,.cells arr T fz)] [dK_] (fun _:Unit=>str (Lib.join xs sep)) (fun _=>[(b,.cells arr T fz)]) (fun _=>[]):=by
  subst hn;refine eq_ (callable Tryz.func251 rfl rfl) fun v h1 hs=>?_;have hb:=(h1.own _ List.mem_cons_self).1;have e:(xs.map fun x=>(⟨x.toArray⟩:ByteArray)).map (·.data.toList)=xs:=by simp[List.map_map,Function.comp_def]
  have:=Tryz.strings_Join b 0 cap (xs.map fun x=>⟨x.toArray⟩) ⟨sep.toArray⟩ v.w (fun j x hj=>by
    simp only[List.getElem?_map,Option.map_eq_some_iff]at hj;obtain⟨y,hy,rfl⟩:=hj;simp only[World.cell?,hb,Nat.zero_add];exact hc j y hy) (Array.getElem?_eq_some_iff.1 hb).1 (by simp;omega) (by simpa using hcap) (by rw[e];exact hlen)
  rw[e,List.length_map]at this;exact this.mono fun _ _ q=>⟨q.1,q.2,.inl hs.1.2.2.2.1⟩
theorem uu_ (n:Int) (h0:-9223372036854775808≤n) (h1:n≤9223372036854775807):Tri Tryz.prog 253 #[.int .i64 n] [] [dK_] (fun _:Unit=>str (Lib.itoa n)) (fun _=>[]) (fun _=>[]) :=
  eq_ (callable Tryz.func253 rfl rfl) fun v _ h=>(Tryz.strconv_Itoa n h0 h1 v.w (so_ h.1.2.2.2)).mono (by
    rintro e w' ⟨rfl,k,os,rfl⟩;exact⟨rfl,rg_ _ _ _,.inr (Nat.le_add_right _ _)⟩)
theorem rn_ {b n:Nat} (xs:List Str) (hn:xs.length=n) {arr:Array Value} {T:TypeId} {fz:Nat×Nat} (hc:∀ (j:Nat) (x:Str),xs[j]? = some x→arr[j]? = some (str x)) (hN:xs.length≤1000000) (hlen:(Lib.join xs [32]).length≤140737488355328) :
    Tri Tryz.prog 252 #[.slice (some ⟨b,0,none⟩) n n] [(b,.cells arr T fz)] [dK_] (fun _:Unit=>str (Lib.join xs [32])) (fun _=>[(b,.cells arr T fz)]) (fun _=>[]):=by
  refine w_ Tryz.func252 rfl rfl Tryz.ntmps252 rfl fun v0=>?_;refine Zz 8 ?_;refine n_ (ur_ xs [32] hn hc (Nat.le_of_eq hn) hN hlen) rfl (.refl _) (fun v _ h=>h) rfl fun _=>Zz 4 ?_
  exact T_ Tryz.results252 () rfl (F:=[]) (.refl _) zt
theorem pr_top (c:Con) (m n:Nat) (hk:c.kind=1):Tri Tryz.prog 225 #[prV m n,c.val] [] [c.memF,prF m,dK_] (fun _:Unit=>str c.text) (fun _=>[]) (fun _=>[]):=by
  obtain⟨k,nm,lo,hi,ad,cap,ps⟩:=c;simp only[Con.kind]at hk;refine w_ Tryz.func225 rfl rfl Tryz.ntmps225 rfl fun v0=>?_;refine Zz 2 ?_;refine ah_ rfl rfl fun b1=>ah_ rfl rfl fun b2=>Zz 9 ?_
  exact T_ Tryz.results225 () (eb_ rfl (by rw[Con.text_eq];simp[Con.kind,Con.name,hk])) (.refl _) zt
theorem sn_ (c:Con) (m n:Nat) (hk:c.kind=2):Tri Tryz.prog 226 #[prV m n,c.val] [] [c.memF,prF m,dK_] (fun _:Unit=>str c.text) (fun _=>[]) (fun _=>[]):=by
  obtain⟨k,nm,lo,hi,ad,cap,ps⟩:=c;simp only[Con.kind]at hk;refine w_ Tryz.func226 rfl rfl Tryz.ntmps226 rfl fun v0=>?_;refine Zz 2 ?_;refine ah_ rfl rfl fun b1=>ah_ rfl rfl fun b2=>Zz 9 ?_
  exact T_ Tryz.results226 () (eb_ rfl (by rw[Con.text_eq];simp[Con.kind,Con.name,hk])) (.refl _) zt
theorem tT_ (c:Con) (m n:Nat) (hk:c.kind=3):Tri Tryz.prog 227 #[prV m n,c.val] [] [c.memF,prF m,dK_] (fun _:Unit=>str c.text) (fun _=>[]) (fun _=>[]):=by
  obtain⟨k,nm,lo,hi,ad,cap,ps⟩:=c;simp only[Con.kind]at hk;refine w_ Tryz.func227 rfl rfl Tryz.ntmps227 rfl fun v0=>?_;refine Zz 2 ?_;refine ah_ rfl rfl fun b1=>ah_ rfl rfl fun b2=>Zz 11 ?_
  exact T_ Tryz.results227 () (eb_ rfl (by rw[Con.text_eq];simp[Con.kind,Con.name,hk])) (.refl _) zt
theorem qE_ (c:Con) (m n:Nat) (hk:c.kind=4) (hl:c.name.length≤24):Tri Tryz.prog 228 #[prV m n,c.val] [] [c.memF,prF m,dK_] (fun _:Unit=>str c.text) (fun _=>[]) (fun _=>[]):=by
  obtain⟨k,nm,lo,hi,ad,cap,ps⟩:=c;simp only[Con.kind]at hk;refine w_ Tryz.func228 rfl rfl Tryz.ntmps228 rfl fun v0=>?_;simp only[Con.name]at hl;refine Zz 2 ?_;refine ah_ rfl rfl fun b1=>ah_ rfl rfl fun b2=>Zz 7 ?_
  refine d_ (dJ_ rfl rfl (by simp[Con.name];omega)) rfl ?_;refine d_ (dJ_ rfl rfl (by simp[Con.name];omega)) rfl ?_;refine Zz 4 ?_;exact T_ Tryz.results228 () (eb_ rfl (by rw[Con.text_eq];simp[Con.kind,Con.name,hk])) (.refl _) zt
theorem qD_ (c:Con) (m n:Nat) (hl:c.text.length≤100000) (hT:Tri Tryz.prog 204 #[prV m n,c.val] [] [c.memF,prF m,dK_] (fun _:Unit=>str c.text) (fun _=>[]) (fun _=>[])):Tri Tryz.prog 250 #[prV m n,c.val] [] [c.memF,prF m,dK_] (fun _:Unit=>str c.operand) (fun _=>[]) (fun _=>[]):=by
 obtain⟨k,nm,lo,hi,ad,cap,ps⟩:=c;refine w_ Tryz.func250 rfl rfl Tryz.ntmps250 rfl fun v0=>?_;refine p_ ?_;refine f_ ?_;refine ah_ rfl rfl fun b1=>?_;refine ah_ rfl rfl fun b2=>?_;refine d_ (u_ rfl) rfl ?_;refine m_ ?_;refine g_ rfl ?_;refine p_ ?_;refine p_ ?_;refine f_ ?_;refine d_ (I_ ac_ rfl rfl rfl aw_) rfl ?_;refine d_ (ai_ 0 aO_ rfl rfl rfl) rfl ?_;refine J_ (aM_ rfl rfl) rfl fun r1 hr1=>?_;refine m_ ?_;refine g_ rfl ?_;cases r1
 ·replace hr1:=znb hr1
  try dsimp only[Con.kind,Con.parts,Con.name,Con.lo,Con.hi,Con.cap,Con.ad]at hr1
  refine R_ rfl ?_;refine au_ ?_;refine g_ rfl ?_;refine p_ ?_;refine f_ ?_;refine d_ (ae_ 1 wS_ lU_ rfl rfl rfl) rfl ?_;refine d_ (ae_ 0 N_ q_ rfl rfl rfl) rfl ?_;refine n_ (hT) rfl (.refl _) (fun v _ h=>h) rfl fun _=>?_;refine d_ (u_ rfl) rfl ?_;refine m_ ?_;refine g_ rfl ?_;refine aA_ ?_;exact T_ Tryz.results250 () (eb_ rfl (by unfold Con.operand;first|exact (if_pos (by assumption)).symm|exact (if_neg (by assumption)).symm)) (.refl _) zt
 replace hr1:=zeb hr1;try dsimp only[Con.kind,Con.parts,Con.name,Con.lo,Con.hi,Con.cap,Con.ad]at hr1
 refine C_ rfl ?_;refine p_ ?_;refine f_ ?_;refine d_ (ae_ 1 wS_ lU_ rfl rfl rfl) rfl ?_;refine d_ (ae_ 0 N_ q_ rfl rfl rfl) rfl ?_;refine n_ (hT) rfl (.refl _) (fun v _ h=>h) rfl fun _=>?_;refine d_ (dJ_ rfl rfl (by simp only[List.length_append,List.length_cons,List.length_nil];omega)) rfl ?_;refine d_ (dJ_ rfl rfl (by simp only[List.length_append,List.length_cons,List.length_nil];omega)) rfl ?_;refine d_ (u_ rfl) rfl ?_;refine m_ ?_;refine g_ rfl ?_;refine aA_ ?_;exact T_ Tryz.results250 () (eb_ rfl (by unfold Con.operand;first|exact (if_pos (by assumption)).symm|exact (if_neg (by assumption)).symm)) (.refl _) zt
theorem gH_ (c:Con) (m n:Nat) {g i:Nat} (hf:eB_ Tryz.prog 3 (.int .i64 c.kind) prE.toList (some (i,.func (.func g) #[] #[]))) (hT:Tri Tryz.prog g #[prV m n,c.val] [] [c.memF,prF m,dK_] (fun _:Unit=>str c.text) (fun _=>[]) (fun _=>[])):Tri Tryz.prog 204 #[prV m n,c.val] [] [c.memF,prF m,dK_] (fun _:Unit=>str c.text) (fun _=>[]) (fun _=>[]):=by
  obtain⟨k,nm,lo,hi,ad,cap,ps⟩:=c;refine w_ Tryz.func204 rfl rfl Tryz.ntmps204 rfl fun v0=>?_;refine Zz 2 ?_;refine ah_ rfl rfl fun b1=>ah_ rfl rfl fun b2=>Zz 9 ?_
  refine d_ (hQ_ dP_ rfl rfl (fun v _ h=>h.2.1.2) (cv_ Q_) hf) rfl (Zz 2 ?_);refine aq_ (hT) rfl rfl (.refl _) zf rfl fun _=>Zz 4 ?_
  exact T_ Tryz.results204 () rfl (.refl _) zt
theorem vp_:hN_ Tryz.prog 238 [(0,1),(1,1)] [.map none,.map none]:=⟨_,Tryz.zeroValue238,cV_,fun w=>by simp[Tryz.sizeOf235,Tryz.sizeOf236]⟩
theorem op_:Tri Tryz.prog 203 #[] [] [] (fun q:Nat×Nat=>prV q.1 q.2) (fun _=>[]) (fun q=>[prF q.1]):=by
  refine w_ Tryz.func203 rfl rfl Tryz.ntmps203 rfl fun v0=>?_;refine Zz 2 ?_;refine E_ Tryz.zeroValue238 rfl fun b1=>Zz 4 ?_
  refine dg_ rfl fun b2=>bP_ 0 (.inl rfl) dP_ rfl rfl rfl rfl (cv_ Q_) (bD_ Q_ rfl) (bP_ 0 (.inl rfl) dP_ rfl rfl rfl rfl (cv_ Q_) (bD_ Q_ rfl) (bP_ 0 (.inl rfl) dP_ rfl rfl rfl rfl (cv_ Q_) (bD_ Q_ rfl) (bP_ 0 (.inl rfl) dP_ rfl rfl rfl rfl (cv_ Q_) (bD_ Q_ rfl) (bP_ 0 (.inl rfl) dP_ rfl rfl rfl rfl (cv_ Q_) (bD_ Q_ rfl) (bP_ 0 (.inl rfl) dP_ rfl rfl rfl rfl (cv_ Q_) (bD_ Q_ rfl) (bP_ 0 (.inl rfl) dP_ rfl rfl rfl rfl (cv_ Q_) (bD_ Q_ rfl) (Zz 1 ?_)))))))
  refine dg_ rfl fun b3=>bP_ 0 (.inl rfl) cW_ rfl rfl rfl rfl (cv_ Q_) (bD_ Q_ rfl) (bP_ 0 (.inl rfl) cW_ rfl rfl rfl rfl (cv_ Q_) (bD_ Q_ rfl) (bP_ 0 (.inl rfl) cW_ rfl rfl rfl rfl (cv_ Q_) (bD_ Q_ rfl) (bP_ 0 (.inl rfl) cW_ rfl rfl rfl rfl (cv_ Q_) (bD_ Q_ rfl) (bP_ 0 (.inl rfl) cW_ rfl rfl rfl rfl (cv_ Q_) (bD_ Q_ rfl) (bP_ 0 (.inl rfl) cW_ rfl rfl rfl rfl (cv_ Q_) (bD_ Q_ rfl) (bP_ 0 (.inl rfl) cW_ rfl rfl rfl rfl (cv_ Q_) (bD_ Q_ rfl) (bP_ 0 (.inl rfl) cW_ rfl rfl rfl rfl (cv_ Q_) (bD_ Q_ rfl) (bP_ 0 (.inl rfl) cW_ rfl rfl rfl rfl (cv_ Q_) (bD_ Q_ rfl) (Zz 1 ?_)))))))))
  refine d_ (F_ vp_ rfl rfl) rfl (z_ 2 lU_ rfl rfl rfl rfl rfl rfl (Zz 3 ?_));refine kf_ 1 rfl ?_;exact eQ_ (b2,b3) (fun a v h1 h2=>cf_ (us:=[_,_]) 1 Tryz.results203 wS_ lU_ rfl rfl rfl a v h1 h2) (.refl _) zf
theorem pr_and (c:Con) (m n:Nat) (hk0:c.kind=5) (hps:2≤c.parts.length∧c.parts.length≤8) (hl:(Lib.join (c.parts.map Con.operand) [32,97,110,100,32]).length≤140737488355328) (hop:∀ p∈c.parts,Tri Tryz.prog 250 #[prV m n,p.val] [] [p.memF,prF m,dK_] (fun _:Unit=>str p.operand) (fun _=>[]) (fun _=>[])):Tri Tryz.prog 229 #[prV m n,c.val] [] [c.memF,prF m,dK_] (fun _:Unit=>str c.text) (fun _=>[]) (fun _=>[]):=by
 obtain⟨k,nm,lo,hi,ad,cap,ps⟩:=c;simp only[Con.kind,Con.parts]at hk0 hps hl hop;refine w_ Tryz.func229 rfl rfl Tryz.ntmps229 rfl fun v0=>?_;refine p_ ?_;refine f_ ?_;refine ah_ rfl rfl fun b1=>?_;refine ah_ rfl rfl fun b2=>?_;refine d_ (u_ rfl) rfl ?_;refine m_ ?_;refine g_ rfl ?_;refine p_ ?_;refine f_ ?_;refine d_ (u_ rfl) rfl ?_;refine m_ ?_;refine g_ rfl ?_;refine p_ ?_;refine p_ ?_;refine f_ ?_;refine d_ (I_ ac_ rfl rfl rfl cI_) rfl ?_;refine d_ (ai_ 0 dG_ rfl rfl rfl) rfl ?_;refine d_ (cg_ ao_ rfl) rfl ?_;refine d_ (H_ rfl) rfl ?_;refine m_ ?_;refine g_ rfl ?_;refine ba_ ?_;refine bR_ [(2,zp_ b1 0),(5,.slice none 0 0),(9,.slice ad ps.length cap),(10,.int .i64 (ps.length:Int)),(11,.int .i64 ((0:Nat):Int))] zl ?_;refine cb_ (ι:={q:Nat×Value×Hp // q.1≤ps.length∧bk_ 9 1 q.2.1 q.1 ((ps.take q.1).flatMap fun p=>by_ p.operand) q.2.2}) (fun q=>[(2,zp_ b1 0),(5,q.1.2.1),(9,.slice ad ps.length cap),(10,.int .i64 (ps.length:Int)),(11,.int .i64 (q.1.1:Int))]) (fun q=>_::_::q.1.2.2) (fun _=>_) (fun q=>ps.length - q.1.1) ⟨(0,.slice none 0 0,[]),by simp,bk_.nil _ _⟩ ?_;rintro ⟨⟨i,sv,Hr⟩,hk⟩;dsimp only at hk;refine bR_ [(2,zp_ b1 0),(5,sv),(9,.slice ad ps.length cap),(10,.int .i64 (ps.length:Int)),(11,.int .i64 (i:Int))] zl ?_;refine p_ ?_;refine f_ ?_;refine J_ (ca_ rfl rfl) rfl fun r1 hr1=>?_;refine m_ ?_;refine g_ rfl ?_;refine p_ ?_;cases r1
 ·replace hr1:=zdf hr1
  try dsimp only[Con.kind,Con.parts,Con.name,Con.lo,Con.hi,Con.cap,Con.ad]at hr1
  obtain rfl:i=ps.length:=by omega
  obtain⟨g,cp,cur,rfl,rfl,h3,h4,h5,h6⟩:=hk.2.some (by omega);rw[List.take_length]at h6;refine R_ rfl ?_;refine dO_ rfl ?_;refine g_ rfl ?_;refine p_ ?_;refine f_ ?_;refine d_ (H_ rfl) rfl ?_;refine n_ (ur_ (ps.map Con.operand) [32,97,110,100,32] (by simp) (nm_ (n:=ps.length) (by rw[h6,List.flatMap_map])) (by simpa using h3) (by simp;omega) hl) rfl (@List.perm_append_comm _ [_,_] _) zf rfl fun _=>?_;refine d_ (u_ rfl) rfl ?_;refine m_ ?_;refine g_ rfl ?_;refine aA_ ?_;exact T_ Tryz.results229 () (eb_ rfl (by rw[Con.text_eq];simp[Con.kind,Con.parts,hk0])) (.refl _) zt
 replace hr1:=zdt hr1;try dsimp only[Con.kind,Con.parts,Con.name,Con.lo,Con.hi,Con.cap,Con.ad]at hr1
 have hlt:i<ps.length:=by omega
 obtain⟨p,hp⟩:∃ p,ps[i]? = some p:=⟨_,List.getElem?_eq_getElem hlt⟩;have hpm:p∈ps:=List.mem_of_getElem? hp;refine C_ rfl ?_;refine au_ ?_;refine g_ rfl ?_;refine p_ ?_;refine ba_ ?_;refine p_ ?_;refine f_ ?_;refine d_ (ab_ ao_ q_ rfl rfl (fun v _ h=>O_ (n:=5) Con.cells_len (by decide) (((Con.mem_iff (.mk k nm lo hi ad cap ps) v).1 h.1).1) hp) (by omega) (by first|omega|(simp only[Con.parts];omega)|(simp[Con.parts];done))) rfl ?_;refine d_ (as_ (ad:=ad) (us:=p.cells) N_ q_ rfl (fun v _ h=>((Con.mem_iff (.mk k nm lo hi ad cap ps) v).1 h.1).1) (Con.cells_len _) (K_ Con.cells_len hp)) rfl ?_;refine E_ fn_ rfl fun b3=>?_;refine fM_ 0 q_ rfl rfl rfl rfl ?_;refine m_ ?_;refine g_ rfl ?_;refine f_ ?_;refine d_ (H_ rfl) rfl ?_;refine d_ (ae_ 2 wS_ lU_ rfl rfl rfl) rfl ?_;refine d_ (dM_ 0 N_ q_ rfl rfl) rfl ?_;refine n_ (hop p hpm) rfl (.refl _) (fun v _ h=>⟨Con.mem_part (c:=(.mk k nm lo hi ad cap ps)) h.1 hpm,h.2.1,h.2.2.1,trivial⟩) rfl fun _=>?_;refine af_ D_ X_ aP_ rfl rfl rfl rfl rfl rfl fun b4=>?_;refine aJ_ elt39 hk.2 rfl rfl (@List.perm_append_comm _ [_,_,_,_] _) rfl (bF_ 0 rfl) (jc_ rfl) (by simp only[maxLen];omega) (by omega) rfl fun sv2 Hr2 hrow=>?_;refine S_ (@List.perm_append_comm _ _ [_,_,_,_]) ?_;refine d_ (u_ rfl) rfl ?_;refine m_ ?_;refine g_ rfl ?_;refine f_ ?_;refine d_ (bc_ rfl rfl rfl (bW_ (by omega) (by omega))) rfl ?_;refine d_ (H_ rfl) rfl ?_;refine m_ ?_;refine aj_ rfl ?_;exact aa_ ⟨(i+1,sv2,Hr2),hlt,by rw[Con.take_snoc hp,List.flatMap_append];exact hrow⟩ (by simp;omega) zl (F:=[_,_]) (@List.perm_append_comm _ [_,_] _) zh
theorem vJ_ (c:Con) (m n:Nat) (hk0:c.kind=6) (hps:c.parts.length=1) (hl:c.text.length≤140737488355328) (hop:∀ p∈c.parts,Tri Tryz.prog 250 #[prV m n,p.val] [] [p.memF,prF m,dK_] (fun _:Unit=>str p.operand) (fun _=>[]) (fun _=>[])):Tri Tryz.prog 230 #[prV m n,c.val] [] [c.memF,prF m,dK_] (fun _:Unit=>str c.text) (fun _=>[]) (fun _=>[]):=by
  obtain⟨k,nm,lo,hi,ad,cap,ps⟩:=c;simp only[Con.kind,Con.parts]at hk0 hps hop;obtain⟨p,rfl⟩:=List.length_eq_one_iff.1 hps;have hp:[p][0]? = some p:=rfl;have hpm:p∈[p]:=List.mem_singleton.2 rfl;have ht:(Con.mk k nm lo hi ad cap [p]).text=Lib.join [[115,111,109,101],nm,p.operand] [32]:=by rw[Con.text_eq];simp[Con.kind,Con.parts,Con.name,hk0]
  rw[ht]at hl;refine w_ Tryz.func230 rfl rfl Tryz.ntmps230 rfl fun v0=>?_;refine Zz 2 ?_;refine ah_ rfl rfl fun b1=>ah_ rfl rfl fun b2=>Zz 5 ?_
  refine o_ 4 [0,1,2,3,4,5,6] zk zs (Zz 5 ?_);refine B_ rfl (ab_ ao_ q_ rfl rfl (fun v _ h=>O_ (n:=5) Con.cells_len (by decide) (((Con.mem_iff (.mk k nm lo hi ad cap [p]) v).1 h.1).1) hp) (by omega) (by first|omega|(simp only[Con.parts];omega)|(simp[Con.parts];done))) rfl ?_;refine B_ rfl (as_ (ad:=ad) (us:=p.cells) N_ q_ rfl (fun v _ h=>((Con.mem_iff (.mk k nm lo hi ad cap [p]) v).1 h.1).1) (Con.cells_len _) (K_ Con.cells_len hp)) rfl (bi_ (i_ 7 rfl zk (n_ (hop p hpm) rfl (.refl _) (fun v _ h=>⟨Con.mem_part (c:=.mk k nm lo hi ad cap [p]) h.1 hpm,h.2.1,h.2.2.1,trivial⟩) rfl fun _=>Zz 3 ?_)));refine i_ 8 rfl zk (af_ D_ X_ aP_ rfl rfl rfl rfl rfl rfl fun b3=>Zz 3 ?_);refine i_ 9 rfl zk (n_ (rn_ [[115,111,109,101],nm,p.operand] rfl (rs_ _) (by simp) hl) rfl (.refl _) zf rfl fun _=>Zz 3 ?_);refine o_ 0 [10] zk zs (Zz 5 ?_);exact T_ Tryz.results230 () (eb_ rfl ht.symm) (.refl _) zt
theorem vI_ (c:Con) (m n:Nat) (hk0:c.kind=7) (hok:c.ok) (hl:c.text.length≤140737488355328):Tri Tryz.prog 231 #[prV m n,c.val] [] [c.memF,prF m,dK_] (fun _:Unit=>str c.text) (fun _=>[]) (fun _=>[]):=by
  obtain⟨k,nm,lo,hi,ad,cap,ps⟩:=c;simp only[Con.kind]at hk0;obtain⟨_,_,_,l1,l2,h1,h2,_⟩:=hok;have ht:(Con.mk k nm lo hi ad cap ps).text=Lib.join [nm,[105,110],Lib.itoa lo,[116,111],Lib.itoa hi] [32]:=by rw[Con.text_eq];simp[Con.kind,Con.name,Con.lo,Con.hi,hk0]
  rw[ht]at hl;refine w_ Tryz.func231 rfl rfl Tryz.ntmps231 rfl fun v0=>?_;refine Zz 2 ?_;refine ah_ rfl rfl fun b1=>ah_ rfl rfl fun b2=>Zz 5 ?_
  refine o_ 5 [0,1,2,3,5,6] zk zs (Zz 7 ?_);refine i_ 4 rfl zk (n_ (uu_ _ l1 l2) rfl (.refl _) zf rfl fun _=>Zz 3 ?_);refine i_ 7 rfl zk (n_ (uu_ _ h1 h2) rfl (.refl _) zf rfl fun _=>Zz 3 ?_);refine i_ 8 rfl zk (af_ D_ X_ aP_ rfl rfl rfl rfl rfl rfl fun b3=>Zz 3 ?_);refine i_ 9 rfl zk (n_ (rn_ [nm,[105,110],Lib.itoa lo,[116,111],Lib.itoa hi] rfl (rs_ _) (by simp) hl) rfl (.refl _) zf rfl fun _=>Zz 3 ?_);refine o_ 0 [10] zk zs (Zz 5 ?_);exact T_ Tryz.results231 () (eb_ rfl ht.symm) (.refl _) zt
theorem vH_ (m n:Nat):∀ (d:Nat) (c:Con),c.sz≤d→c.sz≤64→c.ok→c.fine→Tri Tryz.prog 204 #[prV m n,c.val] [] [c.memF,prF m,dK_] (fun _:Unit=>str c.text) (fun _=>[]) (fun _=>[]):=by
 intro d
 induction d with
 | zero=>intro c h;have:=c.sz_pos;omega
 | succ d ih =>
   intro c hd h64 hok hf;have F:=Con.fields hf;have hl:=Con.text_len _ c (Nat.le_refl _) hok hf
   have hop:∀ p∈c.parts,Tri Tryz.prog 250 #[prV m n,p.val] [] [p.memF,prF m,dK_] (fun _:Unit=>str p.operand) (fun _=>[]) (fun _=>[]):=fun p hp=>by
     have hz:=Con.sz_part hp;have hl:=Con.text_len _ p (Nat.le_refl _) (Con.ok_part hok hp) (Con.fine_part hf hp);exact qD_ p m n (by omega) (ih p (by omega) (by omega) (Con.ok_part hok hp) (Con.fine_part hf hp))
   have h1:=F.k1;have h7:=F.k7;have hm:=F.mo;have he:=F.le;have hk:c.kind=1∨c.kind=2∨c.kind=3∨c.kind=4∨c.kind=5∨c.kind=6∨c.kind=7:=by omega
   rcases hk with hk|hk|hk|hk|hk|hk|hk
   · exact gH_ c m n (by rw[hk];exact bD_ Q_ rfl) (pr_top c m n hk)
   · exact gH_ c m n (by rw[hk];exact bD_ Q_ rfl) (sn_ c m n hk)
   · exact gH_ c m n (by rw[hk];exact bD_ Q_ rfl) (tT_ c m n hk)
   · exact gH_ c m n (by rw[hk];exact bD_ Q_ rfl) (qE_ c m n hk F.nm)
   · have ht:c.text=Lib.join (c.parts.map Con.operand) [32,97,110,100,32]:=by rw[Con.text_eq];simp[hk]
     rw[hk]at hm he;simp[nd,fg_]at hm he
     exact gH_ c m n (by rw[hk];exact bD_ Q_ rfl) (pr_and c m n hk ⟨by omega,by omega⟩ (by rw[← ht];omega) hop)
   · rw[hk]at hm he
     simp[nd,fg_]at hm he
     exact gH_ c m n (by rw[hk];exact bD_ Q_ rfl) (vJ_ c m n hk (by omega) (by omega) hop)
   · exact gH_ c m n (by rw[hk];exact bD_ Q_ rfl) (vI_ c m n hk hok (by omega))
end Go.Proofs.YtaffcjgphlhppaaGreatDoor
