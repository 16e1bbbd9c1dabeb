/-
  Part of the proof of the law CheckerSound over this seat: the small logic, the data, the contracts of functions (no condition).
-/
import Derived.Test.YtaffcjgphlhppaaGreatDoorQCheckerSound3
import Derived.Test.YtaffcjgphlhppaaGreatDoorQCheckerSound2
import Derived.Test.YtaffcjgphlhppaaGreatDoorProg
set_option linter.unusedVariables false
set_option linter.unusedSimpArgs false
set_option linter.unusedSectionVars false
set_option maxHeartbeats 1000000
namespace Go.Proofs.YtaffcjgphlhppaaGreatDoor
open Go Go.Sx Go.Proofs
attribute [local irreducible] Code.wp wpList wpAnyH
open Go.Vs
theorem lO_ (c:Con):Fn0 Tryz.prog 121 #[c.val] (.bool c.empty):=by
 obtain⟨k,nm,lo,hi,ad,cap,ps⟩:=c
 refine t_ Tryz.func121 rfl rfl Tryz.ntmps121 rfl fun v0=>?_
 refine s_ ?_
 refine m_ ?_
 refine ag_ rfl rfl fun b1=>?_
 refine d_ (z_ rfl) rfl ?_
 refine p_ ?_
 refine l_ rfl ?_
 refine s_ ?_
 refine m_ ?_
 refine d_ (R_ aU_ rfl rfl rfl aq_) rfl ?_
 refine d_ (ak_ 0 aK_ rfl rfl rfl) rfl ?_
 refine O_ (bf_ rfl rfl) rfl fun r1 hr1=>?_
 refine d_ (V_ rfl) rfl ?_
 refine aL_ 4 ((k==0)&&(nm==[])) (fun r=>[(0,.agg #[.int .i64 k,str nm,.int .i64 lo,.int .i64 hi,.slice ad ps.length cap]),(1,zp_ b1 0),(2,.bool false),(10,.bool r)]) ?_ fun r2 hr2=>?_
 ·cases r1
  ·have qr2:=hr1
   replace hr1:=ne_of_beq_false hr1
   try dsimp only[Con.kind,Con.parts,Con.name,Con.lo,Con.hi,Con.cap,Con.ad]at hr1
   refine W_ rfl rfl rfl rfl ?_
   refine W_ rfl rfl rfl rfl ?_
   refine W_ rfl rfl rfl rfl ?_
   refine d_ (aX_ rfl rfl) rfl ?_
   refine p_ ?_
   refine aD_ rfl ?_
   exact met ⟨rfl,rfl,rfl,(f_ rfl (jaf qr2)),trivial⟩
  have qr2:=hr1
  replace hr1:=eq_of_beq hr1
  try dsimp only[Con.kind,Con.parts,Con.name,Con.lo,Con.hi,Con.cap,Con.ad]at hr1
  refine y_ rfl rfl ?_
  refine d_ (R_ aU_ rfl rfl rfl al_) rfl ?_
  refine y_ rfl rfl ?_
  refine d_ (ak_ 0 ai_ rfl rfl rfl) rfl ?_
  refine y_ rfl rfl ?_
  refine O_ (eW_ rfl rfl) rfl fun r3 hr3=>?_
  refine d_ (aW_ rfl rfl) rfl ?_
  refine p_ ?_
  refine aD_ rfl ?_
  exact met ⟨rfl,rfl,rfl,(f_ rfl (jat qr2 hr3)),trivial⟩
 refine d_ (V_ rfl) rfl ?_
 refine aL_ 4 ((((k==0)&&(nm==[])))&&(lo==0)) (fun r=>[(0,.agg #[.int .i64 k,str nm,.int .i64 lo,.int .i64 hi,.slice ad ps.length cap]),(1,zp_ b1 0),(2,.bool false),(15,.bool r)]) ?_ fun r4 hr4=>?_
 ·cases r2
  ·have qr4:=hr2
   simp at hr2
   try dsimp only[Con.kind,Con.parts,Con.name,Con.lo,Con.hi,Con.cap,Con.ad]at hr2
   refine W_ rfl rfl rfl rfl ?_
   refine W_ rfl rfl rfl rfl ?_
   refine W_ rfl rfl rfl rfl ?_
   refine d_ (aX_ rfl rfl) rfl ?_
   refine p_ ?_
   refine aD_ rfl ?_
   exact met ⟨rfl,rfl,rfl,(f_ rfl (jaf qr4)),trivial⟩
  have qr4:=hr2
  simp at hr2
  try dsimp only[Con.kind,Con.parts,Con.name,Con.lo,Con.hi,Con.cap,Con.ad]at hr2
  refine y_ rfl rfl ?_
  refine d_ (R_ aU_ rfl rfl rfl aq_) rfl ?_
  refine y_ rfl rfl ?_
  refine d_ (ak_ 0 aK_ rfl rfl rfl) rfl ?_
  refine y_ rfl rfl ?_
  refine O_ (bf_ rfl rfl) rfl fun r5 hr5=>?_
  refine d_ (aW_ rfl rfl) rfl ?_
  refine p_ ?_
  refine aD_ rfl ?_
  exact met ⟨rfl,rfl,rfl,(f_ rfl (jat qr4 hr5)),trivial⟩
 refine d_ (V_ rfl) rfl ?_
 refine aL_ 4 ((((((k==0)&&(nm==[])))&&(lo==0)))&&(hi==0)) (fun r=>[(0,.agg #[.int .i64 k,str nm,.int .i64 lo,.int .i64 hi,.slice ad ps.length cap]),(1,zp_ b1 0),(2,.bool false),(20,.bool r)]) ?_ fun r6 hr6=>?_
 ·cases r4
  ·have qr6:=hr4
   simp at hr4
   try dsimp only[Con.kind,Con.parts,Con.name,Con.lo,Con.hi,Con.cap,Con.ad]at hr4
   refine W_ rfl rfl rfl rfl ?_
   refine W_ rfl rfl rfl rfl ?_
   refine W_ rfl rfl rfl rfl ?_
   refine d_ (aX_ rfl rfl) rfl ?_
   refine p_ ?_
   refine aD_ rfl ?_
   exact met ⟨rfl,rfl,rfl,(f_ rfl (jaf qr6)),trivial⟩
  have qr6:=hr4
  simp at hr4
  try dsimp only[Con.kind,Con.parts,Con.name,Con.lo,Con.hi,Con.cap,Con.ad]at hr4
  refine y_ rfl rfl ?_
  refine d_ (R_ aU_ rfl rfl rfl aq_) rfl ?_
  refine y_ rfl rfl ?_
  refine d_ (ak_ 0 aK_ rfl rfl rfl) rfl ?_
  refine y_ rfl rfl ?_
  refine O_ (bf_ rfl rfl) rfl fun r7 hr7=>?_
  refine d_ (aW_ rfl rfl) rfl ?_
  refine p_ ?_
  refine aD_ rfl ?_
  exact met ⟨rfl,rfl,rfl,(f_ rfl (jat qr6 hr7)),trivial⟩
 refine d_ (V_ rfl) rfl ?_
 refine aL_ 5 ((((((((k==0)&&(nm==[])))&&(lo==0)))&&(hi==0)))&&((ps.length:Int)==0)) (fun r=>[(0,.agg #[.int .i64 k,str nm,.int .i64 lo,.int .i64 hi,.slice ad ps.length cap]),(2,.bool false),(26,.bool r)]) ?_ fun r8 hr8=>?_
 ·cases r6
  ·have qr8:=hr6
   simp at hr6
   try dsimp only[Con.kind,Con.parts,Con.name,Con.lo,Con.hi,Con.cap,Con.ad]at hr6
   refine W_ rfl rfl rfl rfl ?_
   refine W_ rfl rfl rfl rfl ?_
   refine W_ rfl rfl rfl rfl ?_
   refine W_ rfl rfl rfl rfl ?_
   refine d_ (aX_ rfl rfl) rfl ?_
   refine p_ ?_
   refine aD_ rfl ?_
   exact met ⟨rfl,rfl,(f_ rfl (jaf qr8)),trivial⟩
  have qr8:=hr6
  simp at hr6
  try dsimp only[Con.kind,Con.parts,Con.name,Con.lo,Con.hi,Con.cap,Con.ad]at hr6
  refine y_ rfl rfl ?_
  refine d_ (R_ aU_ rfl rfl rfl tW_) rfl ?_
  refine y_ rfl rfl ?_
  refine d_ (ak_ 0 Tryz.isAgg54 rfl rfl rfl) rfl ?_
  refine y_ rfl rfl ?_
  refine d_ (dc_ bd_ rfl) rfl ?_
  refine y_ rfl rfl ?_
  refine O_ (bf_ rfl rfl) rfl fun r9 hr9=>?_
  refine d_ (aW_ rfl rfl) rfl ?_
  refine p_ ?_
  refine aD_ rfl ?_
  exact met ⟨rfl,rfl,(f_ rfl (jat qr8 hr9)),trivial⟩
 refine d_ (z_ rfl) rfl ?_
 refine p_ ?_
 refine l_ rfl ?_
 refine ar_ ?_
 exact J_ Tryz.results121 () (f_ rfl hr8.symm) (.refl _) (fun _ _ _=>trivial)
theorem mB_ {g:FuncId} {pred:Con→Bool} (c:Con) (hok:c.ok) (hT:∀ p∈c.parts,Tri Tryz.prog g #[p.val] [] [p.memF] (fun _:Unit=>.bool (pred p)) (fun _=>[]) (fun _=>[])) :
    Tri Tryz.prog 181 #[.slice c.ad c.parts.length c.cap,.func (.func g) #[] #[]] [] [c.memF] (fun r:{r:Int // decide (0≤r)=c.parts.any pred}=>.int .i64 r.1) (fun _=>[]) (fun _=>[]):=by
  obtain⟨k,nm,lo,hi,ad,cap,ps⟩:=c
  have hlen:=Con.ok_len hok
  simp only[Con.parts,Con.cap]at hlen
  refine t_ Tryz.func181 rfl rfl Tryz.ntmps181 rfl fun v0=>?_
  refine s_ ?_
  refine m_ ?_
  refine d_ (z_ rfl) rfl ?_
  refine p_ ?_
  refine l_ rfl ?_
  refine s_ ?_
  refine s_ ?_
  refine m_ ?_
  refine d_ (V_ rfl) rfl ?_
  refine d_ (dc_ bd_ rfl) rfl ?_
  refine d_ (V_ rfl) rfl ?_
  refine p_ ?_
  refine l_ rfl ?_
  refine cc_ ?_
  refine dA_ [(0,.slice ad ps.length cap),(1,.func (.func g) #[] #[]),(7,.int .i64 (ps.length:Int)),(8,.int .i64 ((0:Nat):Int))] ⟨rfl,rfl,rfl,rfl,trivial⟩ ?_
  refine dO_ (ι:={q:Nat // q≤ps.length∧(ps.take q).any pred=false}) (fun i=>[(0,.slice ad ps.length cap),(1,.func (.func g) #[] #[]),(7,.int .i64 (ps.length:Int)),(8,.int .i64 (i.1:Int))]) (fun _=>_) (fun _=>_) (fun i=>ps.length - i.1) ⟨0,by simp⟩ ?_
  rintro ⟨i,hk⟩
  refine dA_ [(0,.slice ad ps.length cap),(1,.func (.func g) #[] #[]),(7,.int .i64 (ps.length:Int)),(8,.int .i64 (i:Int))] ⟨rfl,rfl,rfl,rfl,trivial⟩ ?_
  refine s_ ?_
  refine m_ ?_
  refine O_ (db_ rfl rfl) rfl fun r1 hr1=>?_
  refine p_ ?_
  refine l_ rfl ?_
  refine s_ ?_
  cases r1
  · skip
    replace hr1:=of_decide_eq_false hr1
    try dsimp only[Con.kind,Con.parts,Con.name,Con.lo,Con.hi,Con.cap,Con.ad]at hr1
    refine U_ rfl ?_
    refine go_ rfl ?_
    refine l_ rfl ?_
    refine s_ ?_
    refine m_ ?_
    refine d_ (z_ rfl) rfl ?_
    refine p_ ?_
    refine l_ rfl ?_
    refine ar_ ?_
    exact J_ Tryz.results181 ⟨-1,by have:=hk.2;rw[List.take_of_length_le (by omega)]at this;show _=ps.any pred;rw[this];rfl⟩ rfl (.refl _) (fun _ _ _=>trivial)
  · skip
    replace hr1:=of_decide_eq_true hr1
    try dsimp only[Con.kind,Con.parts,Con.name,Con.lo,Con.hi,Con.cap,Con.ad]at hr1
    have hlt:i<ps.length:=by omega
    obtain⟨p,hp⟩:∃ p,ps[i]? = some p:=⟨_,List.getElem?_eq_getElem hlt⟩
    have hpm:p∈ps:=List.mem_of_getElem? hp
    refine L_ rfl ?_
    refine aw_ ?_
    refine l_ rfl ?_
    refine s_ ?_
    refine cc_ ?_
    refine s_ ?_
    refine m_ ?_
    refine d_ (V_ rfl) rfl ?_
    refine d_ (z_ rfl) rfl ?_
    refine p_ ?_
    refine l_ rfl ?_
    refine s_ ?_
    refine m_ ?_
    refine d_ (V_ rfl) rfl ?_
    refine d_ (V_ rfl) rfl ?_
    refine d_ (V_ rfl) rfl ?_
    refine d_ (X_ bd_ F_ rfl rfl (fun v _ h=>I_ (n:=5) Con.cells_len (by decide) (((Con.mem_iff (.mk k nm lo hi ad cap ps) v).1 h.1).1) hp) (by omega) (by first|omega|(simp only[Con.parts];omega)|(simp[Con.parts];done))) rfl ?_
    refine d_ (aA_ (ad:=ad) (us:=p.cells) aB_ F_ rfl (fun v _ h=>((Con.mem_iff (.mk k nm lo hi ad cap ps) v).1 h.1).1) (Con.cells_len _) (G_ Con.cells_len hp)) rfl ?_
    refine bP_ (hT p hpm) rfl rfl (.refl _) (fun v _ h=>by exact⟨Con.mem_part (c:=(.mk k nm lo hi ad cap ps)) h.1 hpm,trivial⟩) rfl fun r2 hr2=>?_
    refine p_ ?_
    refine l_ rfl ?_
    cases r2
    · skip
      try dsimp only[Con.kind,Con.parts,Con.name,Con.lo,Con.hi,Con.cap,Con.ad]at hr2
      refine U_ rfl ?_
      refine aw_ ?_
      refine l_ rfl ?_
      refine m_ ?_
      refine d_ (bC_ rfl rfl rfl (cZ_ (by omega) (by omega))) rfl ?_
      refine d_ (V_ rfl) rfl ?_
      refine p_ ?_
      refine aD_ rfl ?_
      exact Q_ ⟨i+1,hlt,by rw[Con.take_snoc hp,List.any_append,hk.2];simp[*]⟩ (by simp;omega) ⟨rfl,rfl,rfl,rfl,trivial⟩ (.refl _) (fun _ _ h=>h)
    · skip
      try dsimp only[Con.kind,Con.parts,Con.name,Con.lo,Con.hi,Con.cap,Con.ad]at hr2
      refine L_ rfl ?_
      refine s_ ?_
      refine m_ ?_
      refine d_ (V_ rfl) rfl ?_
      refine d_ (z_ rfl) rfl ?_
      refine p_ ?_
      refine l_ rfl ?_
      refine ar_ ?_
      exact J_ Tryz.results181 ⟨(i:Int),by show _=ps.any pred;rw[show ps.any pred=true from List.any_eq_true.2 ⟨p,hpm,by assumption⟩];exact decide_eq_true (by omega)⟩ rfl (.refl _) (fun _ _ _=>trivial)
theorem jK_ {g:FuncId} {pred:Con→Bool} (c:Con) (hok:c.ok) (hT:∀ p∈c.parts,Tri Tryz.prog g #[p.val] [] [p.memF] (fun _:Unit=>.bool (pred p)) (fun _=>[]) (fun _=>[])) :
    Tri Tryz.prog 127 #[.slice c.ad c.parts.length c.cap,.func (.func g) #[] #[]] [] [c.memF] (fun _:Unit=>.bool (c.parts.any pred)) (fun _=>[]) (fun _=>[]):=by
  obtain⟨k,nm,lo,hi,ad,cap,ps⟩:=c
  refine t_ Tryz.func127 rfl rfl Tryz.ntmps127 rfl fun v0=>?_
  refine s_ ?_
  refine m_ ?_
  refine d_ (z_ rfl) rfl ?_
  refine p_ ?_
  refine l_ rfl ?_
  refine s_ ?_
  refine m_ ?_
  refine d_ (V_ rfl) rfl ?_
  refine d_ (V_ rfl) rfl ?_
  refine q_ (mB_ (.mk k nm lo hi ad cap ps) hok hT) rfl (.refl _) (fun v _ h=>h) rfl fun x=>?_
  refine O_ (gH_ rfl rfl) rfl fun r1 hr1=>?_
  refine d_ (z_ rfl) rfl ?_
  refine p_ ?_
  refine l_ rfl ?_
  refine ar_ ?_
  exact J_ Tryz.results127 () (f_ rfl (hr1.symm.trans x.2)) (.refl _) (fun _ _ _=>trivial)
theorem ce_:∀ (m:Nat) (c:Con),c.sz≤m→c.ok→Tri Tryz.prog 70 #[c.val] [] [c.memF] (fun _:Unit=>.bool c.bare) (fun _=>[]) (fun _=>[]):=by
 intro m
 induction m with
 | zero=>intro c h;have:=c.sz_pos;omega
 | succ m ih =>
   intro c hm hok
   obtain⟨k,nm,lo,hi,ad,cap,ps⟩:=c
   refine t_ Tryz.func70 rfl rfl Tryz.ntmps70 rfl fun v0=>?_
   refine s_ ?_
   refine m_ ?_
   refine ag_ rfl rfl fun b1=>?_
   refine d_ (z_ rfl) rfl ?_
   refine p_ ?_
   refine l_ rfl ?_
   refine s_ ?_
   refine s_ ?_
   refine m_ ?_
   refine d_ (R_ aU_ rfl rfl rfl aq_) rfl ?_
   refine d_ (ak_ 0 aK_ rfl rfl rfl) rfl ?_
   refine p_ ?_
   refine l_ rfl ?_
   refine cc_ ?_
   refine s_ ?_
   refine m_ ?_
   refine O_ (bf_ rfl rfl) rfl fun r1 hr1=>?_
   refine d_ (z_ rfl) rfl ?_
   refine p_ ?_
   refine l_ rfl ?_
   cases r1
   · skip
     replace hr1:=ne_of_beq_false hr1
     try dsimp only[Con.kind,Con.parts,Con.name,Con.lo,Con.hi,Con.cap,Con.ad]at hr1
     refine U_ rfl ?_
     refine s_ ?_
     refine m_ ?_
     refine O_ (bf_ rfl rfl) rfl fun r2 hr2=>?_
     refine d_ (z_ rfl) rfl ?_
     refine p_ ?_
     refine l_ rfl ?_
     cases r2
     · skip
       replace hr2:=ne_of_beq_false hr2
       try dsimp only[Con.kind,Con.parts,Con.name,Con.lo,Con.hi,Con.cap,Con.ad]at hr2
       refine U_ rfl ?_
       refine aw_ ?_
       refine l_ rfl ?_
       refine s_ ?_
       refine m_ ?_
       refine d_ (z_ rfl) rfl ?_
       refine p_ ?_
       refine l_ rfl ?_
       refine ar_ ?_
       exact J_ Tryz.results70 () (f_ rfl (by rw[Con.bare_eq];simp only[Con.kind,Con.parts]at *;simp[*])) (.refl _) (fun _ _ _=>trivial)
     · skip
       replace hr2:=eq_of_beq hr2
       try dsimp only[Con.kind,Con.parts,Con.name,Con.lo,Con.hi,Con.cap,Con.ad]at hr2
       refine L_ rfl ?_
       refine s_ ?_
       refine m_ ?_
       refine d_ (R_ aU_ rfl rfl rfl tW_) rfl ?_
       refine d_ (ak_ 0 Tryz.isAgg54 rfl rfl rfl) rfl ?_
       refine S_ (jK_ (pred:=Con.bare) (.mk k nm lo hi ad cap ps) hok (fun p hp=>ih p (by have:=Con.sz_part (c:=(.mk k nm lo hi ad cap ps)) hp;omega) (Con.ok_part (c:=(.mk k nm lo hi ad cap ps)) hok hp))) rfl (.refl _) (fun v _ h=>h) rfl fun r3 hr3=>?_
       refine d_ (z_ rfl) rfl ?_
       refine p_ ?_
       refine l_ rfl ?_
       refine ar_ ?_
       exact J_ Tryz.results70 () (f_ rfl (by rw[Con.bare_eq];simp only[Con.kind,Con.parts]at *;simp[*])) (.refl _) (fun _ _ _=>trivial)
   · skip
     replace hr1:=eq_of_beq hr1
     try dsimp only[Con.kind,Con.parts,Con.name,Con.lo,Con.hi,Con.cap,Con.ad]at hr1
     refine L_ rfl ?_
     refine s_ ?_
     refine m_ ?_
     refine d_ (z_ rfl) rfl ?_
     refine p_ ?_
     refine l_ rfl ?_
     refine ar_ ?_
     exact J_ Tryz.results70 () (f_ rfl (by rw[Con.bare_eq];simp only[Con.kind,Con.parts]at *;simp[*])) (.refl _) (fun _ _ _=>trivial)
theorem oB_ (x:Ax):Tri Tryz.prog 67 #[x.val] [] [iv_] (fun _:Unit=>.bool x.shaped) (fun _=>[]) (fun _=>[]):=by
 obtain⟨k,op,⟨kl,nl,ll,hl,al,cl,pl⟩,⟨kr,nr,lr,hr,ar,cr,pr⟩,ad,cap,rs,ro,a,b⟩:=x
 refine t_ Tryz.func67 rfl rfl Tryz.ntmps67 rfl fun v0=>?_
 refine s_ ?_
 refine m_ ?_
 refine ag_ rfl rfl fun b1=>?_
 refine d_ (z_ rfl) rfl ?_
 refine p_ ?_
 refine l_ rfl ?_
 refine s_ ?_
 refine s_ ?_
 refine m_ ?_
 refine d_ (R_ A_ rfl rfl rfl aq_) rfl ?_
 refine d_ (ak_ 0 aK_ rfl rfl rfl) rfl ?_
 refine O_ (db_ rfl rfl) rfl fun r1 hr1=>?_
 refine d_ (V_ rfl) rfl ?_
 refine aL_ 4 ((decide (k<1))||(decide (9<k))) (fun r=>[(0,.agg #[.int .i64 k,.bool op,.int .i64 kl,str nl,.int .i64 ll,.int .i64 hl,.slice al pl.length cl,.int .i64 kr,str nr,.int .i64 lr,.int .i64 hr,.slice ar pr.length cr,.slice ad rs.length cap,str ro,str a,str b]),(1,zp_ b1 0),(2,.bool false),(11,.bool r)]) ?_ fun r2 hr2=>?_
 ·cases r1
  ·have qr2:=hr1
   replace hr1:=of_decide_eq_false hr1
   try dsimp only[Con.kind,Con.parts,Con.name,Con.lo,Con.hi,Con.cap,Con.ad]at hr1
   refine y_ rfl rfl ?_
   refine d_ (R_ A_ rfl rfl rfl aq_) rfl ?_
   refine y_ rfl rfl ?_
   refine d_ (ak_ 0 aK_ rfl rfl rfl) rfl ?_
   refine y_ rfl rfl ?_
   refine O_ (dl_ rfl rfl) rfl fun r3 hr3=>?_
   refine d_ (aX_ rfl rfl) rfl ?_
   refine p_ ?_
   refine aD_ rfl ?_
   exact met ⟨rfl,rfl,rfl,(f_ rfl (jof qr2 hr3)),trivial⟩
  have qr2:=hr1
  replace hr1:=of_decide_eq_true hr1
  try dsimp only[Con.kind,Con.parts,Con.name,Con.lo,Con.hi,Con.cap,Con.ad]at hr1
  refine W_ rfl rfl rfl rfl ?_
  refine W_ rfl rfl rfl rfl ?_
  refine W_ rfl rfl rfl rfl ?_
  refine d_ (aW_ rfl rfl) rfl ?_
  refine p_ ?_
  refine aD_ rfl ?_
  exact met ⟨rfl,rfl,rfl,(f_ rfl (jot qr2)),trivial⟩
 refine p_ ?_
 refine l_ rfl ?_
 cases r2
 ·simp at hr2
  try dsimp only[Con.kind,Con.parts,Con.name,Con.lo,Con.hi,Con.cap,Con.ad]at hr2
  obtain⟨u,hx⟩:∃ u,sz_[k.toNat]? = some u:=⟨_,List.getElem?_eq_getElem (show k.toNat<10 by omega)⟩
  have hus:us k=u:=by simp[us,hx]
  obtain⟨ul,ur,uo,ua,ub,um,un⟩:=u
  refine U_ rfl ?_
  refine aw_ ?_
  refine l_ rfl ?_
  refine s_ ?_
  refine m_ ?_
  refine d_ (R_ A_ rfl rfl rfl aq_) rfl ?_
  refine d_ (ak_ 0 aK_ rfl rfl rfl) rfl ?_
  refine d_ (dM_ Tryz.runUnderlying136 fC_ rfl rfl (by show (0:Int)≤k;omega) (by show k<(10:Int);omega)) rfl ?_
  refine d_ (aA_ (ad:=some ⟨0,0,none⟩) (us:=Use.cells ⟨ul,ur,uo,ua,ub,um,un⟩) Tryz.isAgg135 fC_ rfl (fun v _ h=>h.1.2.1) (Use.cells_len _) (G_ Use.cells_len hx)) rfl ?_
  refine C_ Tryz.zeroValue135 rfl fun b2=>?_
  refine w_ 0 fC_ rfl rfl rfl rfl rfl rfl ?_
  refine p_ ?_
  refine l_ rfl ?_
  refine s_ ?_
  refine m_ ?_
  refine d_ (R_ az_ rfl rfl rfl cy_) rfl ?_
  refine d_ (ak_ 0 cY_ rfl rfl rfl) rfl ?_
  refine d_ (V_ rfl) rfl ?_
  refine aL_ 4 ((ul)||(Con.empty (.mk kl nl ll hl al cl pl))) (fun r=>[(0,.agg #[.int .i64 k,.bool op,.int .i64 kl,str nl,.int .i64 ll,.int .i64 hl,.slice al pl.length cl,.int .i64 kr,str nr,.int .i64 lr,.int .i64 hr,.slice ar pr.length cr,.slice ad rs.length cap,str ro,str a,str b]),(1,zp_ b1 0),(2,.bool false),(11,.bool false),(12,zp_ b1 0),(13,.int .i64 k),(14,.pointer (some (rad (some ⟨0,0,none⟩) (k.toNat*7)))),(15,.agg #[.bool ul,.bool ur,.bool uo,.bool ua,.bool ub,.int .i64 um,.int .i64 un]),(3,zp_ b2 0),(22,.bool r)]) ?_ fun r4 hr4=>?_
  ·cases ul
   ·try dsimp only[Con.kind,Con.parts,Con.name,Con.lo,Con.hi,Con.cap,Con.ad]at hul
    refine y_ rfl rfl ?_
    refine d_ (R_ A_ rfl rfl rfl F_) rfl ?_
    refine y_ rfl rfl ?_
    refine d_ (as_ 1 aB_ F_ rfl rfl rfl) rfl ?_
    refine y_ rfl rfl ?_
    refine S_ (lO_ (.mk kl nl ll hl al cl pl)) rfl (.refl _) (fun _ _ _=>trivial) rfl fun r5 hr5=>?_
    refine d_ (aX_ rfl rfl) rfl ?_
    refine p_ ?_
    refine aD_ rfl ?_
    exact met ⟨rfl,rfl,rfl,rfl,rfl,rfl,rfl,rfl,rfl,(f_ rfl (jof rfl hr5)),trivial⟩
   try dsimp only[Con.kind,Con.parts,Con.name,Con.lo,Con.hi,Con.cap,Con.ad]at hul
   refine W_ rfl rfl rfl rfl ?_
   refine W_ rfl rfl rfl rfl ?_
   refine W_ rfl rfl rfl rfl ?_
   refine d_ (aW_ rfl rfl) rfl ?_
   refine p_ ?_
   refine aD_ rfl ?_
   exact met ⟨rfl,rfl,rfl,rfl,rfl,rfl,rfl,rfl,rfl,(f_ rfl (jot rfl)),trivial⟩
  refine d_ (V_ rfl) rfl ?_
  refine aL_ 8 ((((ul)||(Con.empty (.mk kl nl ll hl al cl pl))))&&(((ur)||(Con.empty (.mk kr nr lr hr ar cr pr))))) (fun r=>[(0,.agg #[.int .i64 k,.bool op,.int .i64 kl,str nl,.int .i64 ll,.int .i64 hl,.slice al pl.length cl,.int .i64 kr,str nr,.int .i64 lr,.int .i64 hr,.slice ar pr.length cr,.slice ad rs.length cap,str ro,str a,str b]),(1,zp_ b1 0),(2,.bool false),(11,.bool false),(12,zp_ b1 0),(13,.int .i64 k),(14,.pointer (some (rad (some ⟨0,0,none⟩) (k.toNat*7)))),(15,.agg #[.bool ul,.bool ur,.bool uo,.bool ua,.bool ub,.int .i64 um,.int .i64 un]),(3,zp_ b2 0),(31,.bool r)]) ?_ fun r6 hr6=>?_
  ·cases r4
   ·have qr6:=hr4
    simp at hr4
    try dsimp only[Con.kind,Con.parts,Con.name,Con.lo,Con.hi,Con.cap,Con.ad]at hr4
    refine W_ rfl rfl rfl rfl ?_
    refine W_ rfl rfl rfl rfl ?_
    refine W_ rfl rfl rfl rfl ?_
    refine W_ rfl rfl rfl rfl ?_
    refine W_ rfl rfl rfl rfl ?_
    refine W_ rfl rfl rfl rfl ?_
    refine W_ rfl rfl rfl rfl ?_
    refine d_ (aX_ rfl rfl) rfl ?_
    refine p_ ?_
    refine aD_ rfl ?_
    exact met ⟨rfl,rfl,rfl,rfl,rfl,rfl,rfl,rfl,rfl,(f_ rfl (jaf qr6)),trivial⟩
   have qr6:=hr4
   simp at hr4
   try dsimp only[Con.kind,Con.parts,Con.name,Con.lo,Con.hi,Con.cap,Con.ad]at hr4
   refine y_ rfl rfl ?_
   refine d_ (R_ az_ rfl rfl rfl cy_) rfl ?_
   refine y_ rfl rfl ?_
   refine d_ (ak_ 0 cY_ rfl rfl rfl) rfl ?_
   refine y_ rfl rfl ?_
   refine d_ (V_ rfl) rfl ?_
   refine aL_ 4 ((ur)||(Con.empty (.mk kr nr lr hr ar cr pr))) (fun r=>[(0,.agg #[.int .i64 k,.bool op,.int .i64 kl,str nl,.int .i64 ll,.int .i64 hl,.slice al pl.length cl,.int .i64 kr,str nr,.int .i64 lr,.int .i64 hr,.slice ar pr.length cr,.slice ad rs.length cap,str ro,str a,str b]),(1,zp_ b1 0),(2,.bool false),(11,.bool false),(12,zp_ b1 0),(13,.int .i64 k),(14,.pointer (some (rad (some ⟨0,0,none⟩) (k.toNat*7)))),(15,.agg #[.bool ul,.bool ur,.bool uo,.bool ua,.bool ub,.int .i64 um,.int .i64 un]),(3,zp_ b2 0),(23,.bool true),(30,.bool r)]) ?_ fun r7 hr7=>?_
   ·cases ur
    ·try dsimp only[Con.kind,Con.parts,Con.name,Con.lo,Con.hi,Con.cap,Con.ad]at hur
     refine y_ rfl rfl ?_
     refine d_ (R_ A_ rfl rfl rfl F_) rfl ?_
     refine y_ rfl rfl ?_
     refine d_ (as_ 1 aB_ F_ rfl rfl rfl) rfl ?_
     refine y_ rfl rfl ?_
     refine S_ (lO_ (.mk kr nr lr hr ar cr pr)) rfl (.refl _) (fun _ _ _=>trivial) rfl fun r8 hr8=>?_
     refine y_ rfl rfl ?_
     refine d_ (aX_ rfl rfl) rfl ?_
     refine p_ ?_
     refine aD_ rfl ?_
     exact met ⟨rfl,rfl,rfl,rfl,rfl,rfl,rfl,rfl,rfl,rfl,(f_ rfl (jof rfl hr8)),trivial⟩
    try dsimp only[Con.kind,Con.parts,Con.name,Con.lo,Con.hi,Con.cap,Con.ad]at hur
    refine W_ rfl rfl rfl rfl ?_
    refine W_ rfl rfl rfl rfl ?_
    refine W_ rfl rfl rfl rfl ?_
    refine y_ rfl rfl ?_
    refine d_ (aW_ rfl rfl) rfl ?_
    refine p_ ?_
    refine aD_ rfl ?_
    exact met ⟨rfl,rfl,rfl,rfl,rfl,rfl,rfl,rfl,rfl,rfl,(f_ rfl (jot rfl)),trivial⟩
   refine d_ (aW_ rfl rfl) rfl ?_
   refine p_ ?_
   refine aD_ rfl ?_
   exact met ⟨rfl,rfl,rfl,rfl,rfl,rfl,rfl,rfl,rfl,(f_ rfl (jat qr6 hr7)),trivial⟩
  refine d_ (V_ rfl) rfl ?_
  refine aL_ 8 ((((((ul)||(Con.empty (.mk kl nl ll hl al cl pl))))&&(((ur)||(Con.empty (.mk kr nr lr hr ar cr pr))))))&&(((uo)||(ro==[])))) (fun r=>[(0,.agg #[.int .i64 k,.bool op,.int .i64 kl,str nl,.int .i64 ll,.int .i64 hl,.slice al pl.length cl,.int .i64 kr,str nr,.int .i64 lr,.int .i64 hr,.slice ar pr.length cr,.slice ad rs.length cap,str ro,str a,str b]),(1,zp_ b1 0),(2,.bool false),(11,.bool false),(12,zp_ b1 0),(13,.int .i64 k),(14,.pointer (some (rad (some ⟨0,0,none⟩) (k.toNat*7)))),(15,.agg #[.bool ul,.bool ur,.bool uo,.bool ua,.bool ub,.int .i64 um,.int .i64 un]),(3,zp_ b2 0),(40,.bool r)]) ?_ fun r9 hr9=>?_
  ·cases r6
   ·have qr9:=hr6
    simp at hr6
    try dsimp only[Con.kind,Con.parts,Con.name,Con.lo,Con.hi,Con.cap,Con.ad]at hr6
    refine W_ rfl rfl rfl rfl ?_
    refine W_ rfl rfl rfl rfl ?_
    refine W_ rfl rfl rfl rfl ?_
    refine W_ rfl rfl rfl rfl ?_
    refine W_ rfl rfl rfl rfl ?_
    refine W_ rfl rfl rfl rfl ?_
    refine W_ rfl rfl rfl rfl ?_
    refine d_ (aX_ rfl rfl) rfl ?_
    refine p_ ?_
    refine aD_ rfl ?_
    exact met ⟨rfl,rfl,rfl,rfl,rfl,rfl,rfl,rfl,rfl,(f_ rfl (jaf qr9)),trivial⟩
   have qr9:=hr6
   simp at hr6
   try dsimp only[Con.kind,Con.parts,Con.name,Con.lo,Con.hi,Con.cap,Con.ad]at hr6
   refine y_ rfl rfl ?_
   refine d_ (R_ az_ rfl rfl rfl cy_) rfl ?_
   refine y_ rfl rfl ?_
   refine d_ (ak_ 0 cY_ rfl rfl rfl) rfl ?_
   refine y_ rfl rfl ?_
   refine d_ (V_ rfl) rfl ?_
   refine aL_ 4 ((uo)||(ro==[])) (fun r=>[(0,.agg #[.int .i64 k,.bool op,.int .i64 kl,str nl,.int .i64 ll,.int .i64 hl,.slice al pl.length cl,.int .i64 kr,str nr,.int .i64 lr,.int .i64 hr,.slice ar pr.length cr,.slice ad rs.length cap,str ro,str a,str b]),(1,zp_ b1 0),(2,.bool false),(11,.bool false),(12,zp_ b1 0),(13,.int .i64 k),(14,.pointer (some (rad (some ⟨0,0,none⟩) (k.toNat*7)))),(15,.agg #[.bool ul,.bool ur,.bool uo,.bool ua,.bool ub,.int .i64 um,.int .i64 un]),(3,zp_ b2 0),(32,.bool true),(39,.bool r)]) ?_ fun r10 hr10=>?_
   ·cases uo
    ·try dsimp only[Con.kind,Con.parts,Con.name,Con.lo,Con.hi,Con.cap,Con.ad]at huo
     refine y_ rfl rfl ?_
     refine d_ (R_ A_ rfl rfl rfl al_) rfl ?_
     refine y_ rfl rfl ?_
     refine d_ (ak_ 1 ai_ rfl rfl rfl) rfl ?_
     refine y_ rfl rfl ?_
     refine O_ (eW_ rfl rfl) rfl fun r11 hr11=>?_
     refine y_ rfl rfl ?_
     refine d_ (aX_ rfl rfl) rfl ?_
     refine p_ ?_
     refine aD_ rfl ?_
     exact met ⟨rfl,rfl,rfl,rfl,rfl,rfl,rfl,rfl,rfl,rfl,(f_ rfl (jof rfl hr11)),trivial⟩
    try dsimp only[Con.kind,Con.parts,Con.name,Con.lo,Con.hi,Con.cap,Con.ad]at huo
    refine W_ rfl rfl rfl rfl ?_
    refine W_ rfl rfl rfl rfl ?_
    refine W_ rfl rfl rfl rfl ?_
    refine y_ rfl rfl ?_
    refine d_ (aW_ rfl rfl) rfl ?_
    refine p_ ?_
    refine aD_ rfl ?_
    exact met ⟨rfl,rfl,rfl,rfl,rfl,rfl,rfl,rfl,rfl,rfl,(f_ rfl (jot rfl)),trivial⟩
   refine d_ (aW_ rfl rfl) rfl ?_
   refine p_ ?_
   refine aD_ rfl ?_
   exact met ⟨rfl,rfl,rfl,rfl,rfl,rfl,rfl,rfl,rfl,(f_ rfl (jat qr9 hr10)),trivial⟩
  refine d_ (V_ rfl) rfl ?_
  refine aL_ 8 ((((((((ul)||(Con.empty (.mk kl nl ll hl al cl pl))))&&(((ur)||(Con.empty (.mk kr nr lr hr ar cr pr))))))&&(((uo)||(ro==[])))))&&(((ua)||(a==[])))) (fun r=>[(0,.agg #[.int .i64 k,.bool op,.int .i64 kl,str nl,.int .i64 ll,.int .i64 hl,.slice al pl.length cl,.int .i64 kr,str nr,.int .i64 lr,.int .i64 hr,.slice ar pr.length cr,.slice ad rs.length cap,str ro,str a,str b]),(1,zp_ b1 0),(2,.bool false),(11,.bool false),(12,zp_ b1 0),(13,.int .i64 k),(14,.pointer (some (rad (some ⟨0,0,none⟩) (k.toNat*7)))),(15,.agg #[.bool ul,.bool ur,.bool uo,.bool ua,.bool ub,.int .i64 um,.int .i64 un]),(3,zp_ b2 0),(49,.bool r)]) ?_ fun r12 hr12=>?_
  ·cases r9
   ·have qr12:=hr9
    simp at hr9
    try dsimp only[Con.kind,Con.parts,Con.name,Con.lo,Con.hi,Con.cap,Con.ad]at hr9
    refine W_ rfl rfl rfl rfl ?_
    refine W_ rfl rfl rfl rfl ?_
    refine W_ rfl rfl rfl rfl ?_
    refine W_ rfl rfl rfl rfl ?_
    refine W_ rfl rfl rfl rfl ?_
    refine W_ rfl rfl rfl rfl ?_
    refine W_ rfl rfl rfl rfl ?_
    refine d_ (aX_ rfl rfl) rfl ?_
    refine p_ ?_
    refine aD_ rfl ?_
    exact met ⟨rfl,rfl,rfl,rfl,rfl,rfl,rfl,rfl,rfl,(f_ rfl (jaf qr12)),trivial⟩
   have qr12:=hr9
   simp at hr9
   try dsimp only[Con.kind,Con.parts,Con.name,Con.lo,Con.hi,Con.cap,Con.ad]at hr9
   refine y_ rfl rfl ?_
   refine d_ (R_ az_ rfl rfl rfl cy_) rfl ?_
   refine y_ rfl rfl ?_
   refine d_ (ak_ 0 cY_ rfl rfl rfl) rfl ?_
   refine y_ rfl rfl ?_
   refine d_ (V_ rfl) rfl ?_
   refine aL_ 4 ((ua)||(a==[])) (fun r=>[(0,.agg #[.int .i64 k,.bool op,.int .i64 kl,str nl,.int .i64 ll,.int .i64 hl,.slice al pl.length cl,.int .i64 kr,str nr,.int .i64 lr,.int .i64 hr,.slice ar pr.length cr,.slice ad rs.length cap,str ro,str a,str b]),(1,zp_ b1 0),(2,.bool false),(11,.bool false),(12,zp_ b1 0),(13,.int .i64 k),(14,.pointer (some (rad (some ⟨0,0,none⟩) (k.toNat*7)))),(15,.agg #[.bool ul,.bool ur,.bool uo,.bool ua,.bool ub,.int .i64 um,.int .i64 un]),(3,zp_ b2 0),(41,.bool true),(48,.bool r)]) ?_ fun r13 hr13=>?_
   ·cases ua
    ·try dsimp only[Con.kind,Con.parts,Con.name,Con.lo,Con.hi,Con.cap,Con.ad]at hua
     refine y_ rfl rfl ?_
     refine d_ (R_ A_ rfl rfl rfl al_) rfl ?_
     refine y_ rfl rfl ?_
     refine d_ (ak_ 1 ai_ rfl rfl rfl) rfl ?_
     refine y_ rfl rfl ?_
     refine O_ (eW_ rfl rfl) rfl fun r14 hr14=>?_
     refine y_ rfl rfl ?_
     refine d_ (aX_ rfl rfl) rfl ?_
     refine p_ ?_
     refine aD_ rfl ?_
     exact met ⟨rfl,rfl,rfl,rfl,rfl,rfl,rfl,rfl,rfl,rfl,(f_ rfl (jof rfl hr14)),trivial⟩
    try dsimp only[Con.kind,Con.parts,Con.name,Con.lo,Con.hi,Con.cap,Con.ad]at hua
    refine W_ rfl rfl rfl rfl ?_
    refine W_ rfl rfl rfl rfl ?_
    refine W_ rfl rfl rfl rfl ?_
    refine y_ rfl rfl ?_
    refine d_ (aW_ rfl rfl) rfl ?_
    refine p_ ?_
    refine aD_ rfl ?_
    exact met ⟨rfl,rfl,rfl,rfl,rfl,rfl,rfl,rfl,rfl,rfl,(f_ rfl (jot rfl)),trivial⟩
   refine d_ (aW_ rfl rfl) rfl ?_
   refine p_ ?_
   refine aD_ rfl ?_
   exact met ⟨rfl,rfl,rfl,rfl,rfl,rfl,rfl,rfl,rfl,(f_ rfl (jat qr12 hr13)),trivial⟩
  refine d_ (V_ rfl) rfl ?_
  refine aL_ 8 ((((((((((ul)||(Con.empty (.mk kl nl ll hl al cl pl))))&&(((ur)||(Con.empty (.mk kr nr lr hr ar cr pr))))))&&(((uo)||(ro==[])))))&&(((ua)||(a==[])))))&&(((ub)||(b==[])))) (fun r=>[(0,.agg #[.int .i64 k,.bool op,.int .i64 kl,str nl,.int .i64 ll,.int .i64 hl,.slice al pl.length cl,.int .i64 kr,str nr,.int .i64 lr,.int .i64 hr,.slice ar pr.length cr,.slice ad rs.length cap,str ro,str a,str b]),(1,zp_ b1 0),(2,.bool false),(11,.bool false),(12,zp_ b1 0),(13,.int .i64 k),(14,.pointer (some (rad (some ⟨0,0,none⟩) (k.toNat*7)))),(15,.agg #[.bool ul,.bool ur,.bool uo,.bool ua,.bool ub,.int .i64 um,.int .i64 un]),(3,zp_ b2 0),(58,.bool r)]) ?_ fun r15 hr15=>?_
  ·cases r12
   ·have qr15:=hr12
    simp at hr12
    try dsimp only[Con.kind,Con.parts,Con.name,Con.lo,Con.hi,Con.cap,Con.ad]at hr12
    refine W_ rfl rfl rfl rfl ?_
    refine W_ rfl rfl rfl rfl ?_
    refine W_ rfl rfl rfl rfl ?_
    refine W_ rfl rfl rfl rfl ?_
    refine W_ rfl rfl rfl rfl ?_
    refine W_ rfl rfl rfl rfl ?_
    refine W_ rfl rfl rfl rfl ?_
    refine d_ (aX_ rfl rfl) rfl ?_
    refine p_ ?_
    refine aD_ rfl ?_
    exact met ⟨rfl,rfl,rfl,rfl,rfl,rfl,rfl,rfl,rfl,(f_ rfl (jaf qr15)),trivial⟩
   have qr15:=hr12
   simp at hr12
   try dsimp only[Con.kind,Con.parts,Con.name,Con.lo,Con.hi,Con.cap,Con.ad]at hr12
   refine y_ rfl rfl ?_
   refine d_ (R_ az_ rfl rfl rfl cy_) rfl ?_
   refine y_ rfl rfl ?_
   refine d_ (ak_ 0 cY_ rfl rfl rfl) rfl ?_
   refine y_ rfl rfl ?_
   refine d_ (V_ rfl) rfl ?_
   refine aL_ 4 ((ub)||(b==[])) (fun r=>[(0,.agg #[.int .i64 k,.bool op,.int .i64 kl,str nl,.int .i64 ll,.int .i64 hl,.slice al pl.length cl,.int .i64 kr,str nr,.int .i64 lr,.int .i64 hr,.slice ar pr.length cr,.slice ad rs.length cap,str ro,str a,str b]),(1,zp_ b1 0),(2,.bool false),(11,.bool false),(12,zp_ b1 0),(13,.int .i64 k),(14,.pointer (some (rad (some ⟨0,0,none⟩) (k.toNat*7)))),(15,.agg #[.bool ul,.bool ur,.bool uo,.bool ua,.bool ub,.int .i64 um,.int .i64 un]),(3,zp_ b2 0),(50,.bool true),(57,.bool r)]) ?_ fun r16 hr16=>?_
   ·cases ub
    ·try dsimp only[Con.kind,Con.parts,Con.name,Con.lo,Con.hi,Con.cap,Con.ad]at hub
     refine y_ rfl rfl ?_
     refine d_ (R_ A_ rfl rfl rfl al_) rfl ?_
     refine y_ rfl rfl ?_
     refine d_ (ak_ 1 ai_ rfl rfl rfl) rfl ?_
     refine y_ rfl rfl ?_
     refine O_ (eW_ rfl rfl) rfl fun r17 hr17=>?_
     refine y_ rfl rfl ?_
     refine d_ (aX_ rfl rfl) rfl ?_
     refine p_ ?_
     refine aD_ rfl ?_
     exact met ⟨rfl,rfl,rfl,rfl,rfl,rfl,rfl,rfl,rfl,rfl,(f_ rfl (jof rfl hr17)),trivial⟩
    try dsimp only[Con.kind,Con.parts,Con.name,Con.lo,Con.hi,Con.cap,Con.ad]at hub
    refine W_ rfl rfl rfl rfl ?_
    refine W_ rfl rfl rfl rfl ?_
    refine W_ rfl rfl rfl rfl ?_
    refine y_ rfl rfl ?_
    refine d_ (aW_ rfl rfl) rfl ?_
    refine p_ ?_
    refine aD_ rfl ?_
    exact met ⟨rfl,rfl,rfl,rfl,rfl,rfl,rfl,rfl,rfl,rfl,(f_ rfl (jot rfl)),trivial⟩
   refine d_ (aW_ rfl rfl) rfl ?_
   refine p_ ?_
   refine aD_ rfl ?_
   exact met ⟨rfl,rfl,rfl,rfl,rfl,rfl,rfl,rfl,rfl,(f_ rfl (jat qr15 hr16)),trivial⟩
  refine d_ (V_ rfl) rfl ?_
  refine aL_ 7 ((((((((((((ul)||(Con.empty (.mk kl nl ll hl al cl pl))))&&(((ur)||(Con.empty (.mk kr nr lr hr ar cr pr))))))&&(((uo)||(ro==[])))))&&(((ua)||(a==[])))))&&(((ub)||(b==[])))))&&(decide (um≤(rs.length:Int)))) (fun r=>[(0,.agg #[.int .i64 k,.bool op,.int .i64 kl,str nl,.int .i64 ll,.int .i64 hl,.slice al pl.length cl,.int .i64 kr,str nr,.int .i64 lr,.int .i64 hr,.slice ar pr.length cr,.slice ad rs.length cap,str ro,str a,str b]),(1,zp_ b1 0),(2,.bool false),(11,.bool false),(12,zp_ b1 0),(13,.int .i64 k),(14,.pointer (some (rad (some ⟨0,0,none⟩) (k.toNat*7)))),(15,.agg #[.bool ul,.bool ur,.bool uo,.bool ua,.bool ub,.int .i64 um,.int .i64 un]),(3,zp_ b2 0),(66,.bool r)]) ?_ fun r18 hr18=>?_
  ·cases r15
   ·have qr18:=hr15
    simp at hr15
    try dsimp only[Con.kind,Con.parts,Con.name,Con.lo,Con.hi,Con.cap,Con.ad]at hr15
    refine W_ rfl rfl rfl rfl ?_
    refine W_ rfl rfl rfl rfl ?_
    refine W_ rfl rfl rfl rfl ?_
    refine W_ rfl rfl rfl rfl ?_
    refine W_ rfl rfl rfl rfl ?_
    refine W_ rfl rfl rfl rfl ?_
    refine d_ (aX_ rfl rfl) rfl ?_
    refine p_ ?_
    refine aD_ rfl ?_
    exact met ⟨rfl,rfl,rfl,rfl,rfl,rfl,rfl,rfl,rfl,(f_ rfl (jaf qr18)),trivial⟩
   have qr18:=hr15
   simp at hr15
   try dsimp only[Con.kind,Con.parts,Con.name,Con.lo,Con.hi,Con.cap,Con.ad]at hr15
   refine y_ rfl rfl ?_
   refine d_ (R_ A_ rfl rfl rfl fe_) rfl ?_
   refine y_ rfl rfl ?_
   refine d_ (ak_ 1 Tryz.isAgg46 rfl rfl rfl) rfl ?_
   refine y_ rfl rfl ?_
   refine d_ (dc_ N_ rfl) rfl ?_
   refine y_ rfl rfl ?_
   refine d_ (R_ az_ rfl rfl rfl aq_) rfl ?_
   refine y_ rfl rfl ?_
   refine d_ (ak_ 0 aK_ rfl rfl rfl) rfl ?_
   refine y_ rfl rfl ?_
   refine O_ (gH_ rfl rfl) rfl fun r19 hr19=>?_
   refine d_ (aW_ rfl rfl) rfl ?_
   refine p_ ?_
   refine aD_ rfl ?_
   exact met ⟨rfl,rfl,rfl,rfl,rfl,rfl,rfl,rfl,rfl,(f_ rfl (jat qr18 hr19)),trivial⟩
  refine d_ (V_ rfl) rfl ?_
  refine aL_ 7 ((((((((((((((ul)||(Con.empty (.mk kl nl ll hl al cl pl))))&&(((ur)||(Con.empty (.mk kr nr lr hr ar cr pr))))))&&(((uo)||(ro==[])))))&&(((ua)||(a==[])))))&&(((ub)||(b==[])))))&&(decide (um≤(rs.length:Int)))))&&(decide ((rs.length:Int)≤un))) (fun r=>[(0,.agg #[.int .i64 k,.bool op,.int .i64 kl,str nl,.int .i64 ll,.int .i64 hl,.slice al pl.length cl,.int .i64 kr,str nr,.int .i64 lr,.int .i64 hr,.slice ar pr.length cr,.slice ad rs.length cap,str ro,str a,str b]),(1,zp_ b1 0),(2,.bool false),(11,.bool false),(12,zp_ b1 0),(13,.int .i64 k),(14,.pointer (some (rad (some ⟨0,0,none⟩) (k.toNat*7)))),(15,.agg #[.bool ul,.bool ur,.bool uo,.bool ua,.bool ub,.int .i64 um,.int .i64 un]),(3,zp_ b2 0),(74,.bool r)]) ?_ fun r20 hr20=>?_
  ·cases r18
   ·have qr20:=hr18
    simp at hr18
    try dsimp only[Con.kind,Con.parts,Con.name,Con.lo,Con.hi,Con.cap,Con.ad]at hr18
    refine W_ rfl rfl rfl rfl ?_
    refine W_ rfl rfl rfl rfl ?_
    refine W_ rfl rfl rfl rfl ?_
    refine W_ rfl rfl rfl rfl ?_
    refine W_ rfl rfl rfl rfl ?_
    refine W_ rfl rfl rfl rfl ?_
    refine d_ (aX_ rfl rfl) rfl ?_
    refine p_ ?_
    refine aD_ rfl ?_
    exact met ⟨rfl,rfl,rfl,rfl,rfl,rfl,rfl,rfl,rfl,(f_ rfl (jaf qr20)),trivial⟩
   have qr20:=hr18
   simp at hr18
   try dsimp only[Con.kind,Con.parts,Con.name,Con.lo,Con.hi,Con.cap,Con.ad]at hr18
   refine y_ rfl rfl ?_
   refine d_ (R_ A_ rfl rfl rfl fe_) rfl ?_
   refine y_ rfl rfl ?_
   refine d_ (ak_ 1 Tryz.isAgg46 rfl rfl rfl) rfl ?_
   refine y_ rfl rfl ?_
   refine d_ (dc_ N_ rfl) rfl ?_
   refine y_ rfl rfl ?_
   refine d_ (R_ az_ rfl rfl rfl aq_) rfl ?_
   refine y_ rfl rfl ?_
   refine d_ (ak_ 0 aK_ rfl rfl rfl) rfl ?_
   refine y_ rfl rfl ?_
   refine O_ (dV_ rfl rfl) rfl fun r21 hr21=>?_
   refine d_ (aW_ rfl rfl) rfl ?_
   refine p_ ?_
   refine aD_ rfl ?_
   exact met ⟨rfl,rfl,rfl,rfl,rfl,rfl,rfl,rfl,rfl,(f_ rfl (jat qr20 hr21)),trivial⟩
  refine d_ (z_ rfl) rfl ?_
  refine p_ ?_
  refine l_ rfl ?_
  refine ar_ ?_
  exact J_ Tryz.results67 () (f_ rfl (by unfold Ax.shaped;rw[if_neg (by simp only[not_or];omega)];simp only[hus];exact hr20.symm)) (.refl _) (fun _ _ _=>trivial)
 simp at hr2
 try dsimp only[Con.kind,Con.parts,Con.name,Con.lo,Con.hi,Con.cap,Con.ad]at hr2
 refine L_ rfl ?_
 refine s_ ?_
 refine m_ ?_
 refine d_ (z_ rfl) rfl ?_
 refine p_ ?_
 refine l_ rfl ?_
 refine ar_ ?_
 exact J_ Tryz.results67 () (f_ rfl (by unfold Ax.shaped;rw[if_pos (by simpa using hr2)])) (.refl _) (fun _ _ _=>trivial)
theorem pn (s:Str):(((if bm_ s then 0 else 20):Int) != 0)=!bm_ s:=by cases bm_ s<;>rfl
theorem qg_ (x:Ax) (hok:x.ok) (u:Use):Tri Tryz.prog 68 #[x.val,.agg u.cells.toArray] [] [x.memF] (fun _:Unit=>.bool (x.namedU u)) (fun _=>[]) (fun _=>[]):=by
 obtain⟨k,op,⟨kl,nl,ll,hl,al,cl,pl⟩,⟨kr,nr,lr,hr,ar,cr,pr⟩,ad,cap,rs,ro,a,b⟩:=x
 obtain⟨ul,ur,uo,ua,ub,um,un⟩:=u
 have hlen:=hok.len
 have hcap:=hok.cap
 dsimp only at hlen hcap
 refine t_ Tryz.func68 rfl rfl Tryz.ntmps68 rfl fun v0=>?_
 refine s_ ?_
 refine m_ ?_
 refine ag_ rfl rfl fun b1=>?_
 refine ag_ rfl rfl fun b2=>?_
 refine d_ (z_ rfl) rfl ?_
 refine p_ ?_
 refine l_ rfl ?_
 refine s_ ?_
 refine s_ ?_
 refine m_ ?_
 refine d_ (R_ az_ rfl rfl rfl cy_) rfl ?_
 refine d_ (ak_ 0 cY_ rfl rfl rfl) rfl ?_
 refine d_ (V_ rfl) rfl ?_
 refine aL_ 5 ((uo)&&(!(cE_ ro))) (fun r=>[(0,.agg #[.int .i64 k,.bool op,.int .i64 kl,str nl,.int .i64 ll,.int .i64 hl,.slice al pl.length cl,.int .i64 kr,str nr,.int .i64 lr,.int .i64 hr,.slice ar pr.length cr,.slice ad rs.length cap,str ro,str a,str b]),(1,.agg #[.bool ul,.bool ur,.bool uo,.bool ua,.bool ub,.int .i64 um,.int .i64 un]),(2,zp_ b1 0),(3,zp_ b2 0),(4,.bool false),(14,.bool r)]) ?_ fun r1 hr1=>?_
 ·cases uo
  ·try dsimp only[Con.kind,Con.parts,Con.name,Con.lo,Con.hi,Con.cap,Con.ad]at huo
   refine W_ rfl rfl rfl rfl ?_
   refine W_ rfl rfl rfl rfl ?_
   refine W_ rfl rfl rfl rfl ?_
   refine W_ rfl rfl rfl rfl ?_
   refine d_ (aX_ rfl rfl) rfl ?_
   refine p_ ?_
   refine aD_ rfl ?_
   exact met ⟨rfl,rfl,rfl,rfl,rfl,(f_ rfl (jaf rfl)),trivial⟩
  try dsimp only[Con.kind,Con.parts,Con.name,Con.lo,Con.hi,Con.cap,Con.ad]at huo
  refine y_ rfl rfl ?_
  refine d_ (R_ A_ rfl rfl rfl al_) rfl ?_
  refine y_ rfl rfl ?_
  refine d_ (ak_ 1 ai_ rfl rfl rfl) rfl ?_
  refine y_ rfl rfl ?_
  refine S_ (gs_ _) rfl (.refl _) (fun _ _ _=>trivial) rfl fun r2 hr2=>?_
  refine y_ rfl rfl ?_
  refine d_ (bj_ rfl) rfl ?_
  refine d_ (aW_ rfl rfl) rfl ?_
  refine p_ ?_
  refine aD_ rfl ?_
  exact met ⟨rfl,rfl,rfl,rfl,rfl,(f_ rfl (jat rfl (jn hr2))),trivial⟩
 refine d_ (V_ rfl) rfl ?_
 refine aL_ 9 ((((uo)&&(!(cE_ ro))))||(((ua)&&(((if bm_ a then 0 else 20):Int) != 0)))) (fun r=>[(0,.agg #[.int .i64 k,.bool op,.int .i64 kl,str nl,.int .i64 ll,.int .i64 hl,.slice al pl.length cl,.int .i64 kr,str nr,.int .i64 lr,.int .i64 hr,.slice ar pr.length cr,.slice ad rs.length cap,str ro,str a,str b]),(1,.agg #[.bool ul,.bool ur,.bool uo,.bool ua,.bool ub,.int .i64 um,.int .i64 un]),(2,zp_ b1 0),(3,zp_ b2 0),(4,.bool false),(24,.bool r)]) ?_ fun r3 hr3=>?_
 ·cases r1
  ·have qr3:=hr1
   try dsimp only[Con.kind,Con.parts,Con.name,Con.lo,Con.hi,Con.cap,Con.ad]at hr1
   refine y_ rfl rfl ?_
   refine d_ (R_ az_ rfl rfl rfl cy_) rfl ?_
   refine y_ rfl rfl ?_
   refine d_ (ak_ 0 cY_ rfl rfl rfl) rfl ?_
   refine y_ rfl rfl ?_
   refine d_ (V_ rfl) rfl ?_
   refine aL_ 5 ((ua)&&(((if bm_ a then 0 else 20):Int) != 0)) (fun r=>[(0,.agg #[.int .i64 k,.bool op,.int .i64 kl,str nl,.int .i64 ll,.int .i64 hl,.slice al pl.length cl,.int .i64 kr,str nr,.int .i64 lr,.int .i64 hr,.slice ar pr.length cr,.slice ad rs.length cap,str ro,str a,str b]),(1,.agg #[.bool ul,.bool ur,.bool uo,.bool ua,.bool ub,.int .i64 um,.int .i64 un]),(2,zp_ b1 0),(3,zp_ b2 0),(4,.bool false),(15,.bool false),(23,.bool r)]) ?_ fun r4 hr4=>?_
   ·cases ua
    ·try dsimp only[Con.kind,Con.parts,Con.name,Con.lo,Con.hi,Con.cap,Con.ad]at hua
     refine W_ rfl rfl rfl rfl ?_
     refine W_ rfl rfl rfl rfl ?_
     refine W_ rfl rfl rfl rfl ?_
     refine W_ rfl rfl rfl rfl ?_
     refine y_ rfl rfl ?_
     refine d_ (aX_ rfl rfl) rfl ?_
     refine p_ ?_
     refine aD_ rfl ?_
     exact met ⟨rfl,rfl,rfl,rfl,rfl,rfl,(f_ rfl (jaf rfl)),trivial⟩
    try dsimp only[Con.kind,Con.parts,Con.name,Con.lo,Con.hi,Con.cap,Con.ad]at hua
    refine y_ rfl rfl ?_
    refine d_ (R_ A_ rfl rfl rfl al_) rfl ?_
    refine y_ rfl rfl ?_
    refine d_ (ak_ 1 ai_ rfl rfl rfl) rfl ?_
    refine y_ rfl rfl ?_
    refine q_ (fX_ _ hok.a) rfl (.refl _) (fun _ _ _=>trivial) rfl fun _=>?_
    refine y_ rfl rfl ?_
    refine O_ (cg_ rfl rfl) rfl fun r5 hr5=>?_
    refine y_ rfl rfl ?_
    refine d_ (aW_ rfl rfl) rfl ?_
    refine p_ ?_
    refine aD_ rfl ?_
    exact met ⟨rfl,rfl,rfl,rfl,rfl,rfl,(f_ rfl (jat rfl hr5)),trivial⟩
   refine d_ (aX_ rfl rfl) rfl ?_
   refine p_ ?_
   refine aD_ rfl ?_
   exact met ⟨rfl,rfl,rfl,rfl,rfl,(f_ rfl (jof qr3 hr4)),trivial⟩
  have qr3:=hr1
  try dsimp only[Con.kind,Con.parts,Con.name,Con.lo,Con.hi,Con.cap,Con.ad]at hr1
  refine W_ rfl rfl rfl rfl ?_
  refine W_ rfl rfl rfl rfl ?_
  refine W_ rfl rfl rfl rfl ?_
  refine W_ rfl rfl rfl rfl ?_
  refine W_ rfl rfl rfl rfl ?_
  refine W_ rfl rfl rfl rfl ?_
  refine W_ rfl rfl rfl rfl ?_
  refine W_ rfl rfl rfl rfl ?_
  refine d_ (aW_ rfl rfl) rfl ?_
  refine p_ ?_
  refine aD_ rfl ?_
  exact met ⟨rfl,rfl,rfl,rfl,rfl,(f_ rfl (jot qr3)),trivial⟩
 refine d_ (V_ rfl) rfl ?_
 refine aL_ 9 ((((((uo)&&(!(cE_ ro))))||(((ua)&&(((if bm_ a then 0 else 20):Int) != 0)))))||(((ub)&&(((if bm_ b then 0 else 20):Int) != 0)))) (fun r=>[(0,.agg #[.int .i64 k,.bool op,.int .i64 kl,str nl,.int .i64 ll,.int .i64 hl,.slice al pl.length cl,.int .i64 kr,str nr,.int .i64 lr,.int .i64 hr,.slice ar pr.length cr,.slice ad rs.length cap,str ro,str a,str b]),(1,.agg #[.bool ul,.bool ur,.bool uo,.bool ua,.bool ub,.int .i64 um,.int .i64 un]),(2,zp_ b1 0),(4,.bool false),(34,.bool r)]) ?_ fun r6 hr6=>?_
 ·cases r3
  ·have qr6:=hr3
   try dsimp only[Con.kind,Con.parts,Con.name,Con.lo,Con.hi,Con.cap,Con.ad]at hr3
   refine y_ rfl rfl ?_
   refine d_ (R_ az_ rfl rfl rfl cy_) rfl ?_
   refine y_ rfl rfl ?_
   refine d_ (ak_ 0 cY_ rfl rfl rfl) rfl ?_
   refine y_ rfl rfl ?_
   refine d_ (V_ rfl) rfl ?_
   refine aL_ 5 ((ub)&&(((if bm_ b then 0 else 20):Int) != 0)) (fun r=>[(0,.agg #[.int .i64 k,.bool op,.int .i64 kl,str nl,.int .i64 ll,.int .i64 hl,.slice al pl.length cl,.int .i64 kr,str nr,.int .i64 lr,.int .i64 hr,.slice ar pr.length cr,.slice ad rs.length cap,str ro,str a,str b]),(1,.agg #[.bool ul,.bool ur,.bool uo,.bool ua,.bool ub,.int .i64 um,.int .i64 un]),(2,zp_ b1 0),(4,.bool false),(25,.bool false),(33,.bool r)]) ?_ fun r7 hr7=>?_
   ·cases ub
    ·try dsimp only[Con.kind,Con.parts,Con.name,Con.lo,Con.hi,Con.cap,Con.ad]at hub
     refine W_ rfl rfl rfl rfl ?_
     refine W_ rfl rfl rfl rfl ?_
     refine W_ rfl rfl rfl rfl ?_
     refine W_ rfl rfl rfl rfl ?_
     refine y_ rfl rfl ?_
     refine d_ (aX_ rfl rfl) rfl ?_
     refine p_ ?_
     refine aD_ rfl ?_
     exact met ⟨rfl,rfl,rfl,rfl,rfl,(f_ rfl (jaf rfl)),trivial⟩
    try dsimp only[Con.kind,Con.parts,Con.name,Con.lo,Con.hi,Con.cap,Con.ad]at hub
    refine y_ rfl rfl ?_
    refine d_ (R_ A_ rfl rfl rfl al_) rfl ?_
    refine y_ rfl rfl ?_
    refine d_ (ak_ 1 ai_ rfl rfl rfl) rfl ?_
    refine y_ rfl rfl ?_
    refine q_ (fX_ _ hok.b) rfl (.refl _) (fun _ _ _=>trivial) rfl fun _=>?_
    refine y_ rfl rfl ?_
    refine O_ (cg_ rfl rfl) rfl fun r8 hr8=>?_
    refine y_ rfl rfl ?_
    refine d_ (aW_ rfl rfl) rfl ?_
    refine p_ ?_
    refine aD_ rfl ?_
    exact met ⟨rfl,rfl,rfl,rfl,rfl,(f_ rfl (jat rfl hr8)),trivial⟩
   refine d_ (aX_ rfl rfl) rfl ?_
   refine p_ ?_
   refine aD_ rfl ?_
   exact met ⟨rfl,rfl,rfl,rfl,(f_ rfl (jof qr6 hr7)),trivial⟩
  have qr6:=hr3
  try dsimp only[Con.kind,Con.parts,Con.name,Con.lo,Con.hi,Con.cap,Con.ad]at hr3
  refine W_ rfl rfl rfl rfl ?_
  refine W_ rfl rfl rfl rfl ?_
  refine W_ rfl rfl rfl rfl ?_
  refine W_ rfl rfl rfl rfl ?_
  refine W_ rfl rfl rfl rfl ?_
  refine W_ rfl rfl rfl rfl ?_
  refine W_ rfl rfl rfl rfl ?_
  refine W_ rfl rfl rfl rfl ?_
  refine d_ (aW_ rfl rfl) rfl ?_
  refine p_ ?_
  refine aD_ rfl ?_
  exact met ⟨rfl,rfl,rfl,rfl,(f_ rfl (jot qr6)),trivial⟩
 refine p_ ?_
 refine l_ rfl ?_
 cases r6
 ·try dsimp only[Con.kind,Con.parts,Con.name,Con.lo,Con.hi,Con.cap,Con.ad]at hr6
  refine U_ rfl ?_
  refine aw_ ?_
  refine l_ rfl ?_
  refine s_ ?_
  refine s_ ?_
  refine m_ ?_
  refine d_ (R_ A_ rfl rfl rfl fe_) rfl ?_
  refine d_ (ak_ 1 Tryz.isAgg46 rfl rfl rfl) rfl ?_
  refine d_ (dc_ N_ rfl) rfl ?_
  refine d_ (V_ rfl) rfl ?_
  refine p_ ?_
  refine l_ rfl ?_
  refine cc_ ?_
  refine dA_ [(36,.slice ad rs.length cap),(37,.int .i64 (rs.length:Int)),(38,.int .i64 ((0:Nat):Int))] ⟨rfl,rfl,rfl,trivial⟩ ?_
  refine dO_ (ι:={q:Nat // q≤rs.length∧(rs.take q).all cE_=true}) (fun i=>[(36,.slice ad rs.length cap),(37,.int .i64 (rs.length:Int)),(38,.int .i64 (i.1:Int))]) (fun _=>_) (fun _=>_) (fun i=>rs.length - i.1) ⟨0,by simp⟩ ?_
  rintro ⟨i,hk⟩
  refine dA_ [(36,.slice ad rs.length cap),(37,.int .i64 (rs.length:Int)),(38,.int .i64 (i:Int))] ⟨rfl,rfl,rfl,trivial⟩ ?_
  refine s_ ?_
  refine m_ ?_
  refine O_ (db_ rfl rfl) rfl fun r9 hr9=>?_
  refine p_ ?_
  refine l_ rfl ?_
  refine s_ ?_
  cases r9
  ·replace hr9:=of_decide_eq_false hr9
   try dsimp only[Con.kind,Con.parts,Con.name,Con.lo,Con.hi,Con.cap,Con.ad]at hr9
   refine U_ rfl ?_
   refine go_ rfl ?_
   refine l_ rfl ?_
   refine s_ ?_
   refine m_ ?_
   refine d_ (z_ rfl) rfl ?_
   refine p_ ?_
   refine l_ rfl ?_
   refine ar_ ?_
   exact J_ Tryz.results68 () (f_ rfl (by have hf:rs.all cE_=true:=(by have:=hk.2;rwa [List.take_of_length_le (by omega)]at this);unfold Ax.namedU;simp only[pn]at hr6;simp only[hf,hr6];rfl)) (.refl _) (fun _ _ _=>trivial)
  replace hr9:=of_decide_eq_true hr9
  try dsimp only[Con.kind,Con.parts,Con.name,Con.lo,Con.hi,Con.cap,Con.ad]at hr9
  have hlt:i<rs.length:=by omega
  obtain⟨q,hp⟩:∃ q,rs[i]? = some q:=⟨_,List.getElem?_eq_getElem hlt⟩
  refine L_ rfl ?_
  refine aw_ ?_
  refine l_ rfl ?_
  refine s_ ?_
  refine cc_ ?_
  refine s_ ?_
  refine m_ ?_
  refine d_ (X_ N_ al_ rfl rfl (fun v _ h=>I_ (n:=1) aS_ (by decide) (h.1.2.2) hp) (by omega) (by first|omega|(simp only[Con.parts];omega)|(simp[Con.parts];done))) rfl ?_
  refine d_ (bn_ (ad:=ad) ai_ rfl (fun v _ h=>h.1.2.2) (G_ aS_ hp 0 _ rfl)) rfl ?_
  refine d_ (z_ rfl) rfl ?_
  refine p_ ?_
  refine l_ rfl ?_
  refine s_ ?_
  refine m_ ?_
  refine d_ (V_ rfl) rfl ?_
  refine S_ (gs_ _) rfl (.refl _) (fun _ _ _=>trivial) rfl fun r10 hr10=>?_
  refine d_ (bj_ rfl) rfl ?_
  refine p_ ?_
  refine l_ rfl ?_
  cases r10
  ·try dsimp only[Con.kind,Con.parts,Con.name,Con.lo,Con.hi,Con.cap,Con.ad]at hr10
   refine L_ rfl ?_
   refine s_ ?_
   refine m_ ?_
   refine d_ (z_ rfl) rfl ?_
   refine p_ ?_
   refine l_ rfl ?_
   refine ar_ ?_
   exact J_ Tryz.results68 () (f_ rfl (by have hf:rs.all cE_=false:=List.all_eq_false.2 ⟨q,List.mem_of_getElem? hp,by simp[*]⟩;unfold Ax.namedU;simp only[hf,Bool.and_false])) (.refl _) (fun _ _ _=>trivial)
  try dsimp only[Con.kind,Con.parts,Con.name,Con.lo,Con.hi,Con.cap,Con.ad]at hr10
  refine U_ rfl ?_
  refine aw_ ?_
  refine l_ rfl ?_
  refine m_ ?_
  refine d_ (bC_ rfl rfl rfl (cZ_ (by omega) (by omega))) rfl ?_
  refine d_ (V_ rfl) rfl ?_
  refine p_ ?_
  refine aD_ rfl ?_
  exact Q_ ⟨i+1,hlt,by rw[List.take_add_one,hp];simp only[Option.toList_some,List.all_append,hk.2];simp[*]⟩ (by simp;omega) ⟨rfl,rfl,rfl,trivial⟩ (.refl _) (fun _ _ h=>h)
 try dsimp only[Con.kind,Con.parts,Con.name,Con.lo,Con.hi,Con.cap,Con.ad]at hr6
 refine L_ rfl ?_
 refine s_ ?_
 refine m_ ?_
 refine d_ (z_ rfl) rfl ?_
 refine p_ ?_
 refine l_ rfl ?_
 refine ar_ ?_
 exact J_ Tryz.results68 () (f_ rfl (by unfold Ax.namedU;simp only[pn]at hr6;simp only[hr6];rfl)) (.refl _) (fun _ _ _=>trivial)
theorem Ax.shaped_kind {x:Ax} (h:x.shaped=true):1≤x.kind∧x.kind≤9:=by
 unfold Ax.shaped at h
 split at h
 ·cases h
 rename_i hh;simp only[not_or]at hh;omega
theorem mJ_ (x:Ax) (hok:x.ok):Tri Tryz.prog 27 #[x.val] [] [x.memF,iv_] (fun _:Unit=>.int .i64 x.check) (fun _=>[]) (fun _=>[]):=by
 obtain⟨k,op,⟨kl,nl,ll,hl,al,cl,pl⟩,⟨kr,nr,lr,hr,ar,cr,pr⟩,ad,cap,rs,ro,a,b⟩:=x
 refine t_ Tryz.func27 rfl rfl Tryz.ntmps27 rfl fun v0=>?_
 refine s_ ?_
 refine m_ ?_
 refine ag_ rfl rfl fun b1=>?_
 refine d_ (z_ rfl) rfl ?_
 refine p_ ?_
 refine l_ rfl ?_
 refine s_ ?_
 refine s_ ?_
 refine m_ ?_
 refine d_ (as_ 0 Tryz.isAgg58 Tryz.sizeOf58 rfl rfl rfl) rfl ?_
 refine S_ (oB_ ⟨k,op,(.mk kl nl ll hl al cl pl),(.mk kr nr lr hr ar cr pr),ad,cap,rs,ro,a,b⟩) rfl (.refl _) (fun v _ h=>⟨h.2.1,trivial⟩) rfl fun r1 hr1=>?_
 refine d_ (bj_ rfl) rfl ?_
 refine p_ ?_
 refine l_ rfl ?_
 cases r1
 ·try dsimp only[Con.kind,Con.parts,Con.name,Con.lo,Con.hi,Con.cap,Con.ad]at hr1
  refine L_ rfl ?_
  refine s_ ?_
  refine m_ ?_
  refine d_ (z_ rfl) rfl ?_
  refine p_ ?_
  refine l_ rfl ?_
  refine ar_ ?_
  exact J_ ab_ () (au_ rfl (by unfold Ax.check;simp_all)) (.refl _) (fun _ _ _=>trivial)
 try dsimp only[Con.kind,Con.parts,Con.name,Con.lo,Con.hi,Con.cap,Con.ad]at hr1
 have hk0:1≤k∧k≤9:=Ax.shaped_kind hr1
 obtain⟨u,hx⟩:∃ u,sz_[k.toNat]? = some u:=⟨_,List.getElem?_eq_getElem (show k.toNat<10 by omega)⟩
 have hus:us k=u:=by simp[us,hx]
 obtain⟨ul,ur,uo,ua,ub,um,un⟩:=u
 refine U_ rfl ?_
 refine aw_ ?_
 refine l_ rfl ?_
 refine s_ ?_
 refine m_ ?_
 refine d_ (R_ A_ rfl rfl rfl aq_) rfl ?_
 refine d_ (ak_ 0 aK_ rfl rfl rfl) rfl ?_
 refine d_ (dM_ Tryz.runUnderlying136 fC_ rfl rfl (by show (0:Int)≤k;omega) (by show k<(10:Int);omega)) rfl ?_
 refine d_ (aA_ (ad:=some ⟨0,0,none⟩) (us:=Use.cells ⟨ul,ur,uo,ua,ub,um,un⟩) Tryz.isAgg135 fC_ rfl (fun v _ h=>h.2.1.2.1) (Use.cells_len _) (G_ Use.cells_len hx)) rfl ?_
 refine C_ Tryz.zeroValue135 rfl fun b2=>?_
 refine w_ 0 fC_ rfl rfl rfl rfl rfl rfl ?_
 refine p_ ?_
 refine l_ rfl ?_
 refine s_ ?_
 refine s_ ?_
 refine m_ ?_
 refine d_ (as_ 1 Tryz.isAgg58 Tryz.sizeOf58 rfl rfl rfl) rfl ?_
 refine d_ (as_ 0 Tryz.isAgg135 fC_ rfl rfl rfl) rfl ?_
 refine S_ (qg_ ⟨k,op,(.mk kl nl ll hl al cl pl),(.mk kr nr lr hr ar cr pr),ad,cap,rs,ro,a,b⟩ hok ⟨ul,ur,uo,ua,ub,um,un⟩) rfl (.refl _) (fun v _ h=>⟨h.1,trivial⟩) rfl fun r2 hr2=>?_
 refine d_ (bj_ rfl) rfl ?_
 refine p_ ?_
 refine l_ rfl ?_
 cases r2
 ·try dsimp only[Con.kind,Con.parts,Con.name,Con.lo,Con.hi,Con.cap,Con.ad]at hr2
  refine L_ rfl ?_
  refine s_ ?_
  refine m_ ?_
  refine d_ (z_ rfl) rfl ?_
  refine p_ ?_
  refine l_ rfl ?_
  refine ar_ ?_
  exact J_ ab_ () (au_ rfl (by unfold Ax.check;simp only[hus];simp_all)) (.refl _) (fun _ _ _=>trivial)
 try dsimp only[Con.kind,Con.parts,Con.name,Con.lo,Con.hi,Con.cap,Con.ad]at hr2
 refine U_ rfl ?_
 refine aw_ ?_
 refine l_ rfl ?_
 refine s_ ?_
 refine s_ ?_
 refine m_ ?_
 refine d_ (R_ az_ rfl rfl rfl cy_) rfl ?_
 refine d_ (ak_ 0 cY_ rfl rfl rfl) rfl ?_
 refine p_ ?_
 refine l_ rfl ?_
 cases ul
 ·try dsimp only[Con.kind,Con.parts,Con.name,Con.lo,Con.hi,Con.cap,Con.ad]at hul
  refine U_ rfl ?_
  refine aw_ ?_
  refine l_ rfl ?_
  refine s_ ?_
  refine s_ ?_
  refine m_ ?_
  refine d_ (R_ az_ rfl rfl rfl cy_) rfl ?_
  refine d_ (ak_ 0 cY_ rfl rfl rfl) rfl ?_
  refine p_ ?_
  refine l_ rfl ?_
  cases ur
  ·try dsimp only[Con.kind,Con.parts,Con.name,Con.lo,Con.hi,Con.cap,Con.ad]at hur
   refine U_ rfl ?_
   refine aw_ ?_
   refine l_ rfl ?_
   refine s_ ?_
   refine s_ ?_
   refine m_ ?_
   refine d_ (R_ A_ rfl rfl rfl aq_) rfl ?_
   refine d_ (ak_ 1 aK_ rfl rfl rfl) rfl ?_
   refine p_ ?_
   refine l_ rfl ?_
   refine cc_ ?_
   refine s_ ?_
   refine m_ ?_
   refine O_ (bf_ rfl rfl) rfl fun r3 hr3=>?_
   refine d_ (z_ rfl) rfl ?_
   refine p_ ?_
   refine l_ rfl ?_
   cases r3
   ·replace hr3:=ne_of_beq_false hr3
    try dsimp only[Con.kind,Con.parts,Con.name,Con.lo,Con.hi,Con.cap,Con.ad]at hr3
    refine U_ rfl ?_
    refine s_ ?_
    refine s_ ?_
    refine m_ ?_
    refine O_ (bf_ rfl rfl) rfl fun r4 hr4=>?_
    refine d_ (z_ rfl) rfl ?_
    refine p_ ?_
    refine l_ rfl ?_
    cases r4
    ·replace hr4:=ne_of_beq_false hr4
     try dsimp only[Con.kind,Con.parts,Con.name,Con.lo,Con.hi,Con.cap,Con.ad]at hr4
     refine U_ rfl ?_
     refine s_ ?_
     refine m_ ?_
     refine O_ (bf_ rfl rfl) rfl fun r5 hr5=>?_
     refine d_ (z_ rfl) rfl ?_
     refine p_ ?_
     refine l_ rfl ?_
     cases r5
     ·replace hr5:=ne_of_beq_false hr5
      try dsimp only[Con.kind,Con.parts,Con.name,Con.lo,Con.hi,Con.cap,Con.ad]at hr5
      refine U_ rfl ?_
      refine m_ ?_
      refine O_ (bf_ rfl rfl) rfl fun r6 hr6=>?_
      refine d_ (z_ rfl) rfl ?_
      refine p_ ?_
      refine l_ rfl ?_
      cases r6
      ·replace hr6:=ne_of_beq_false hr6
       try dsimp only[Con.kind,Con.parts,Con.name,Con.lo,Con.hi,Con.cap,Con.ad]at hr6
       refine U_ rfl ?_
       refine aw_ ?_
       refine l_ rfl ?_
       refine s_ ?_
       refine m_ ?_
       refine d_ (z_ rfl) rfl ?_
       refine p_ ?_
       refine l_ rfl ?_
       refine ar_ ?_
       exact J_ ab_ () (au_ rfl (by unfold Ax.check;simp only[hus];simp_all)) (.refl _) (fun _ _ _=>trivial)
      replace hr6:=eq_of_beq hr6
      try dsimp only[Con.kind,Con.parts,Con.name,Con.lo,Con.hi,Con.cap,Con.ad]at hr6
      refine L_ rfl ?_
      refine s_ ?_
      refine m_ ?_
      refine d_ (R_ A_ rfl rfl rfl F_) rfl ?_
      refine d_ (as_ 1 aB_ F_ rfl rfl rfl) rfl ?_
      refine S_ (ce_ _ (.mk kr nr lr hr ar cr pr) (Nat.le_refl _) hok.right) rfl (.refl _) (fun v _ h=>⟨h.1.2.1,trivial⟩) rfl fun r7 hr7=>?_
      refine p_ ?_
      refine l_ rfl ?_
      cases r7
      ·try dsimp only[Con.kind,Con.parts,Con.name,Con.lo,Con.hi,Con.cap,Con.ad]at hr7
       refine U_ rfl ?_
       refine aw_ ?_
       refine l_ rfl ?_
       refine s_ ?_
       refine m_ ?_
       refine d_ (z_ rfl) rfl ?_
       refine p_ ?_
       refine l_ rfl ?_
       refine ar_ ?_
       exact J_ ab_ () (au_ rfl (by unfold Ax.check;simp only[hus];simp_all)) (.refl _) (fun _ _ _=>trivial)
      try dsimp only[Con.kind,Con.parts,Con.name,Con.lo,Con.hi,Con.cap,Con.ad]at hr7
      refine L_ rfl ?_
      refine s_ ?_
      refine m_ ?_
      refine d_ (z_ rfl) rfl ?_
      refine p_ ?_
      refine l_ rfl ?_
      refine ar_ ?_
      exact J_ ab_ () (au_ rfl (by unfold Ax.check;simp only[hus];simp_all)) (.refl _) (fun _ _ _=>trivial)
     replace hr5:=eq_of_beq hr5
     try dsimp only[Con.kind,Con.parts,Con.name,Con.lo,Con.hi,Con.cap,Con.ad]at hr5
     refine L_ rfl ?_
     refine aw_ ?_
     refine l_ rfl ?_
     refine L_ rfl ?_
     refine s_ ?_
     refine m_ ?_
     refine d_ (R_ A_ rfl rfl rfl F_) rfl ?_
     refine d_ (as_ 1 aB_ F_ rfl rfl rfl) rfl ?_
     refine S_ (ce_ _ (.mk kr nr lr hr ar cr pr) (Nat.le_refl _) hok.right) rfl (.refl _) (fun v _ h=>⟨h.1.2.1,trivial⟩) rfl fun r8 hr8=>?_
     refine p_ ?_
     refine l_ rfl ?_
     cases r8
     ·try dsimp only[Con.kind,Con.parts,Con.name,Con.lo,Con.hi,Con.cap,Con.ad]at hr8
      refine U_ rfl ?_
      refine aw_ ?_
      refine l_ rfl ?_
      refine s_ ?_
      refine m_ ?_
      refine d_ (z_ rfl) rfl ?_
      refine p_ ?_
      refine l_ rfl ?_
      refine ar_ ?_
      exact J_ ab_ () (au_ rfl (by unfold Ax.check;simp only[hus];simp_all)) (.refl _) (fun _ _ _=>trivial)
     try dsimp only[Con.kind,Con.parts,Con.name,Con.lo,Con.hi,Con.cap,Con.ad]at hr8
     refine L_ rfl ?_
     refine s_ ?_
     refine m_ ?_
     refine d_ (z_ rfl) rfl ?_
     refine p_ ?_
     refine l_ rfl ?_
     refine ar_ ?_
     exact J_ ab_ () (au_ rfl (by unfold Ax.check;simp only[hus];simp_all)) (.refl _) (fun _ _ _=>trivial)
    replace hr4:=eq_of_beq hr4
    try dsimp only[Con.kind,Con.parts,Con.name,Con.lo,Con.hi,Con.cap,Con.ad]at hr4
    refine L_ rfl ?_
    refine aw_ ?_
    refine l_ rfl ?_
    refine L_ rfl ?_
    refine s_ ?_
    refine m_ ?_
    refine d_ (R_ A_ rfl rfl rfl F_) rfl ?_
    refine d_ (as_ 1 aB_ F_ rfl rfl rfl) rfl ?_
    refine S_ (ce_ _ (.mk kr nr lr hr ar cr pr) (Nat.le_refl _) hok.right) rfl (.refl _) (fun v _ h=>⟨h.1.2.1,trivial⟩) rfl fun r9 hr9=>?_
    refine p_ ?_
    refine l_ rfl ?_
    cases r9
    ·try dsimp only[Con.kind,Con.parts,Con.name,Con.lo,Con.hi,Con.cap,Con.ad]at hr9
     refine U_ rfl ?_
     refine aw_ ?_
     refine l_ rfl ?_
     refine s_ ?_
     refine m_ ?_
     refine d_ (z_ rfl) rfl ?_
     refine p_ ?_
     refine l_ rfl ?_
     refine ar_ ?_
     exact J_ ab_ () (au_ rfl (by unfold Ax.check;simp only[hus];simp_all)) (.refl _) (fun _ _ _=>trivial)
    try dsimp only[Con.kind,Con.parts,Con.name,Con.lo,Con.hi,Con.cap,Con.ad]at hr9
    refine L_ rfl ?_
    refine s_ ?_
    refine m_ ?_
    refine d_ (z_ rfl) rfl ?_
    refine p_ ?_
    refine l_ rfl ?_
    refine ar_ ?_
    exact J_ ab_ () (au_ rfl (by unfold Ax.check;simp only[hus];simp_all)) (.refl _) (fun _ _ _=>trivial)
   replace hr3:=eq_of_beq hr3
   try dsimp only[Con.kind,Con.parts,Con.name,Con.lo,Con.hi,Con.cap,Con.ad]at hr3
   refine L_ rfl ?_
   refine s_ ?_
   refine m_ ?_
   refine d_ (R_ A_ rfl rfl rfl F_) rfl ?_
   refine d_ (as_ 1 aB_ F_ rfl rfl rfl) rfl ?_
   refine S_ (ce_ _ (.mk kl nl ll hl al cl pl) (Nat.le_refl _) hok.left) rfl (.refl _) (fun v _ h=>⟨h.1.1,trivial⟩) rfl fun r10 hr10=>?_
   refine d_ (V_ rfl) rfl ?_
   refine aL_ 4 ((Con.bare (.mk kl nl ll hl al cl pl))||(Con.bare (.mk kr nr lr hr ar cr pr))) (fun r=>[(0,.agg #[.int .i64 k,.bool op,.int .i64 kl,str nl,.int .i64 ll,.int .i64 hl,.slice al pl.length cl,.int .i64 kr,str nr,.int .i64 lr,.int .i64 hr,.slice ar pr.length cr,.slice ad rs.length cap,str ro,str a,str b]),(1,zp_ b1 0),(2,.int .i64 0),(6,.agg #[.int .i64 k,.bool op,.int .i64 kl,str nl,.int .i64 ll,.int .i64 hl,.slice al pl.length cl,.int .i64 kr,str nr,.int .i64 lr,.int .i64 hr,.slice ar pr.length cr,.slice ad rs.length cap,str ro,str a,str b]),(7,.bool true),(8,.bool false),(9,zp_ b1 0),(10,.int .i64 k),(11,.pointer (some (rad (some ⟨0,0,none⟩) (k.toNat*7)))),(12,.agg #[.bool false,.bool false,.bool uo,.bool ua,.bool ub,.int .i64 um,.int .i64 un]),(3,zp_ b2 0),(13,.agg #[.int .i64 k,.bool op,.int .i64 kl,str nl,.int .i64 ll,.int .i64 hl,.slice al pl.length cl,.int .i64 kr,str nr,.int .i64 lr,.int .i64 hr,.slice ar pr.length cr,.slice ad rs.length cap,str ro,str a,str b]),(14,.agg #[.bool false,.bool false,.bool uo,.bool ua,.bool ub,.int .i64 um,.int .i64 un]),(15,.bool true),(16,.bool false),(17,zp_ b2 0),(18,.bool false),(25,zp_ b2 1),(26,.bool false),(33,zp_ b1 0),(34,.int .i64 k),(36,.bool true),(35,.bool true),(44,.bool r)]) ?_ fun r11 hr11=>?_
   ·cases r10
    ·have qr11:=hr10
     try dsimp only[Con.kind,Con.parts,Con.name,Con.lo,Con.hi,Con.cap,Con.ad]at hr10
     refine y_ rfl rfl ?_
     refine d_ (R_ A_ rfl rfl rfl F_) rfl ?_
     refine y_ rfl rfl ?_
     refine d_ (as_ 1 aB_ F_ rfl rfl rfl) rfl ?_
     refine y_ rfl rfl ?_
     refine S_ (ce_ _ (.mk kr nr lr hr ar cr pr) (Nat.le_refl _) hok.right) rfl (.refl _) (fun v _ h=>⟨h.1.2.1,trivial⟩) rfl fun r12 hr12=>?_
     refine d_ (aX_ rfl rfl) rfl ?_
     refine p_ ?_
     refine aD_ rfl ?_
     exact met ⟨rfl,rfl,rfl,rfl,rfl,rfl,rfl,rfl,rfl,rfl,rfl,rfl,rfl,rfl,rfl,rfl,rfl,rfl,rfl,rfl,rfl,rfl,rfl,(f_ rfl (jof qr11 hr12)),trivial⟩
    have qr11:=hr10
    try dsimp only[Con.kind,Con.parts,Con.name,Con.lo,Con.hi,Con.cap,Con.ad]at hr10
    refine W_ rfl rfl rfl rfl ?_
    refine W_ rfl rfl rfl rfl ?_
    refine W_ rfl rfl rfl rfl ?_
    refine d_ (aW_ rfl rfl) rfl ?_
    refine p_ ?_
    refine aD_ rfl ?_
    exact met ⟨rfl,rfl,rfl,rfl,rfl,rfl,rfl,rfl,rfl,rfl,rfl,rfl,rfl,rfl,rfl,rfl,rfl,rfl,rfl,rfl,rfl,rfl,rfl,(f_ rfl (jot qr11)),trivial⟩
   refine p_ ?_
   refine l_ rfl ?_
   cases r11
   ·simp at hr11
    try dsimp only[Con.kind,Con.parts,Con.name,Con.lo,Con.hi,Con.cap,Con.ad]at hr11
    refine U_ rfl ?_
    refine aw_ ?_
    refine l_ rfl ?_
    refine s_ ?_
    refine m_ ?_
    refine d_ (z_ rfl) rfl ?_
    refine p_ ?_
    refine l_ rfl ?_
    refine ar_ ?_
    exact J_ ab_ () (au_ rfl (by unfold Ax.check;simp only[hus];simp_all)) (.refl _) (fun _ _ _=>trivial)
   simp at hr11
   try dsimp only[Con.kind,Con.parts,Con.name,Con.lo,Con.hi,Con.cap,Con.ad]at hr11
   refine L_ rfl ?_
   refine s_ ?_
   refine m_ ?_
   refine d_ (z_ rfl) rfl ?_
   refine p_ ?_
   refine l_ rfl ?_
   refine ar_ ?_
   exact J_ ab_ () (au_ rfl (by unfold Ax.check;simp only[hus];simp_all)) (.refl _) (fun _ _ _=>trivial)
  try dsimp only[Con.kind,Con.parts,Con.name,Con.lo,Con.hi,Con.cap,Con.ad]at hur
  refine L_ rfl ?_
  refine s_ ?_
  refine m_ ?_
  refine d_ (R_ A_ rfl rfl rfl F_) rfl ?_
  refine d_ (as_ 1 aB_ F_ rfl rfl rfl) rfl ?_
  refine q_ (fM_ (.mk kr nr lr hr ar cr pr) hok.right) rfl (.refl _) (fun v _ h=>⟨h.1.2.1,h.2.1,trivial⟩) rfl fun _=>?_
  refine d_ (z_ rfl) rfl ?_
  refine p_ ?_
  refine l_ rfl ?_
  refine s_ ?_
  refine m_ ?_
  refine d_ (V_ rfl) rfl ?_
  refine O_ (cg_ rfl rfl) rfl fun r13 hr13=>?_
  refine p_ ?_
  refine l_ rfl ?_
  cases r13
  ·replace hr13:=et_ hr13
   try dsimp only[Con.kind,Con.parts,Con.name,Con.lo,Con.hi,Con.cap,Con.ad]at hr13
   refine U_ rfl ?_
   refine aw_ ?_
   refine l_ rfl ?_
   refine s_ ?_
   refine s_ ?_
   refine m_ ?_
   refine d_ (R_ A_ rfl rfl rfl aq_) rfl ?_
   refine d_ (ak_ 1 aK_ rfl rfl rfl) rfl ?_
   refine p_ ?_
   refine l_ rfl ?_
   refine cc_ ?_
   refine s_ ?_
   refine m_ ?_
   refine O_ (bf_ rfl rfl) rfl fun r14 hr14=>?_
   refine d_ (z_ rfl) rfl ?_
   refine p_ ?_
   refine l_ rfl ?_
   cases r14
   ·replace hr14:=ne_of_beq_false hr14
    try dsimp only[Con.kind,Con.parts,Con.name,Con.lo,Con.hi,Con.cap,Con.ad]at hr14
    refine U_ rfl ?_
    refine s_ ?_
    refine s_ ?_
    refine m_ ?_
    refine O_ (bf_ rfl rfl) rfl fun r15 hr15=>?_
    refine d_ (z_ rfl) rfl ?_
    refine p_ ?_
    refine l_ rfl ?_
    cases r15
    ·replace hr15:=ne_of_beq_false hr15
     try dsimp only[Con.kind,Con.parts,Con.name,Con.lo,Con.hi,Con.cap,Con.ad]at hr15
     refine U_ rfl ?_
     refine s_ ?_
     refine m_ ?_
     refine O_ (bf_ rfl rfl) rfl fun r16 hr16=>?_
     refine d_ (z_ rfl) rfl ?_
     refine p_ ?_
     refine l_ rfl ?_
     cases r16
     ·replace hr16:=ne_of_beq_false hr16
      try dsimp only[Con.kind,Con.parts,Con.name,Con.lo,Con.hi,Con.cap,Con.ad]at hr16
      refine U_ rfl ?_
      refine m_ ?_
      refine O_ (bf_ rfl rfl) rfl fun r17 hr17=>?_
      refine d_ (z_ rfl) rfl ?_
      refine p_ ?_
      refine l_ rfl ?_
      cases r17
      ·replace hr17:=ne_of_beq_false hr17
       try dsimp only[Con.kind,Con.parts,Con.name,Con.lo,Con.hi,Con.cap,Con.ad]at hr17
       refine U_ rfl ?_
       refine aw_ ?_
       refine l_ rfl ?_
       refine s_ ?_
       refine m_ ?_
       refine d_ (z_ rfl) rfl ?_
       refine p_ ?_
       refine l_ rfl ?_
       refine ar_ ?_
       exact J_ ab_ () (au_ rfl (by unfold Ax.check;simp only[hus];simp_all)) (.refl _) (fun _ _ _=>trivial)
      replace hr17:=eq_of_beq hr17
      try dsimp only[Con.kind,Con.parts,Con.name,Con.lo,Con.hi,Con.cap,Con.ad]at hr17
      refine L_ rfl ?_
      refine s_ ?_
      refine m_ ?_
      refine d_ (R_ A_ rfl rfl rfl F_) rfl ?_
      refine d_ (as_ 1 aB_ F_ rfl rfl rfl) rfl ?_
      refine S_ (ce_ _ (.mk kr nr lr hr ar cr pr) (Nat.le_refl _) hok.right) rfl (.refl _) (fun v _ h=>⟨h.1.2.1,trivial⟩) rfl fun r18 hr18=>?_
      refine p_ ?_
      refine l_ rfl ?_
      cases r18
      ·try dsimp only[Con.kind,Con.parts,Con.name,Con.lo,Con.hi,Con.cap,Con.ad]at hr18
       refine U_ rfl ?_
       refine aw_ ?_
       refine l_ rfl ?_
       refine s_ ?_
       refine m_ ?_
       refine d_ (z_ rfl) rfl ?_
       refine p_ ?_
       refine l_ rfl ?_
       refine ar_ ?_
       exact J_ ab_ () (au_ rfl (by unfold Ax.check;simp only[hus];simp_all)) (.refl _) (fun _ _ _=>trivial)
      try dsimp only[Con.kind,Con.parts,Con.name,Con.lo,Con.hi,Con.cap,Con.ad]at hr18
      refine L_ rfl ?_
      refine s_ ?_
      refine m_ ?_
      refine d_ (z_ rfl) rfl ?_
      refine p_ ?_
      refine l_ rfl ?_
      refine ar_ ?_
      exact J_ ab_ () (au_ rfl (by unfold Ax.check;simp only[hus];simp_all)) (.refl _) (fun _ _ _=>trivial)
     replace hr16:=eq_of_beq hr16
     try dsimp only[Con.kind,Con.parts,Con.name,Con.lo,Con.hi,Con.cap,Con.ad]at hr16
     refine L_ rfl ?_
     refine aw_ ?_
     refine l_ rfl ?_
     refine L_ rfl ?_
     refine s_ ?_
     refine m_ ?_
     refine d_ (R_ A_ rfl rfl rfl F_) rfl ?_
     refine d_ (as_ 1 aB_ F_ rfl rfl rfl) rfl ?_
     refine S_ (ce_ _ (.mk kr nr lr hr ar cr pr) (Nat.le_refl _) hok.right) rfl (.refl _) (fun v _ h=>⟨h.1.2.1,trivial⟩) rfl fun r19 hr19=>?_
     refine p_ ?_
     refine l_ rfl ?_
     cases r19
     ·try dsimp only[Con.kind,Con.parts,Con.name,Con.lo,Con.hi,Con.cap,Con.ad]at hr19
      refine U_ rfl ?_
      refine aw_ ?_
      refine l_ rfl ?_
      refine s_ ?_
      refine m_ ?_
      refine d_ (z_ rfl) rfl ?_
      refine p_ ?_
      refine l_ rfl ?_
      refine ar_ ?_
      exact J_ ab_ () (au_ rfl (by unfold Ax.check;simp only[hus];simp_all)) (.refl _) (fun _ _ _=>trivial)
     try dsimp only[Con.kind,Con.parts,Con.name,Con.lo,Con.hi,Con.cap,Con.ad]at hr19
     refine L_ rfl ?_
     refine s_ ?_
     refine m_ ?_
     refine d_ (z_ rfl) rfl ?_
     refine p_ ?_
     refine l_ rfl ?_
     refine ar_ ?_
     exact J_ ab_ () (au_ rfl (by unfold Ax.check;simp only[hus];simp_all)) (.refl _) (fun _ _ _=>trivial)
    replace hr15:=eq_of_beq hr15
    try dsimp only[Con.kind,Con.parts,Con.name,Con.lo,Con.hi,Con.cap,Con.ad]at hr15
    refine L_ rfl ?_
    refine aw_ ?_
    refine l_ rfl ?_
    refine L_ rfl ?_
    refine s_ ?_
    refine m_ ?_
    refine d_ (R_ A_ rfl rfl rfl F_) rfl ?_
    refine d_ (as_ 1 aB_ F_ rfl rfl rfl) rfl ?_
    refine S_ (ce_ _ (.mk kr nr lr hr ar cr pr) (Nat.le_refl _) hok.right) rfl (.refl _) (fun v _ h=>⟨h.1.2.1,trivial⟩) rfl fun r20 hr20=>?_
    refine p_ ?_
    refine l_ rfl ?_
    cases r20
    ·try dsimp only[Con.kind,Con.parts,Con.name,Con.lo,Con.hi,Con.cap,Con.ad]at hr20
     refine U_ rfl ?_
     refine aw_ ?_
     refine l_ rfl ?_
     refine s_ ?_
     refine m_ ?_
     refine d_ (z_ rfl) rfl ?_
     refine p_ ?_
     refine l_ rfl ?_
     refine ar_ ?_
     exact J_ ab_ () (au_ rfl (by unfold Ax.check;simp only[hus];simp_all)) (.refl _) (fun _ _ _=>trivial)
    try dsimp only[Con.kind,Con.parts,Con.name,Con.lo,Con.hi,Con.cap,Con.ad]at hr20
    refine L_ rfl ?_
    refine s_ ?_
    refine m_ ?_
    refine d_ (z_ rfl) rfl ?_
    refine p_ ?_
    refine l_ rfl ?_
    refine ar_ ?_
    exact J_ ab_ () (au_ rfl (by unfold Ax.check;simp only[hus];simp_all)) (.refl _) (fun _ _ _=>trivial)
   replace hr14:=eq_of_beq hr14
   try dsimp only[Con.kind,Con.parts,Con.name,Con.lo,Con.hi,Con.cap,Con.ad]at hr14
   refine L_ rfl ?_
   refine s_ ?_
   refine m_ ?_
   refine d_ (R_ A_ rfl rfl rfl F_) rfl ?_
   refine d_ (as_ 1 aB_ F_ rfl rfl rfl) rfl ?_
   refine S_ (ce_ _ (.mk kl nl ll hl al cl pl) (Nat.le_refl _) hok.left) rfl (.refl _) (fun v _ h=>⟨h.1.1,trivial⟩) rfl fun r21 hr21=>?_
   refine d_ (V_ rfl) rfl ?_
   refine aL_ 4 ((Con.bare (.mk kl nl ll hl al cl pl))||(Con.bare (.mk kr nr lr hr ar cr pr))) (fun r=>[(0,.agg #[.int .i64 k,.bool op,.int .i64 kl,str nl,.int .i64 ll,.int .i64 hl,.slice al pl.length cl,.int .i64 kr,str nr,.int .i64 lr,.int .i64 hr,.slice ar pr.length cr,.slice ad rs.length cap,str ro,str a,str b]),(1,zp_ b1 0),(2,.int .i64 0),(6,.agg #[.int .i64 k,.bool op,.int .i64 kl,str nl,.int .i64 ll,.int .i64 hl,.slice al pl.length cl,.int .i64 kr,str nr,.int .i64 lr,.int .i64 hr,.slice ar pr.length cr,.slice ad rs.length cap,str ro,str a,str b]),(7,.bool true),(8,.bool false),(9,zp_ b1 0),(10,.int .i64 k),(11,.pointer (some (rad (some ⟨0,0,none⟩) (k.toNat*7)))),(12,.agg #[.bool false,.bool true,.bool uo,.bool ua,.bool ub,.int .i64 um,.int .i64 un]),(3,zp_ b2 0),(13,.agg #[.int .i64 k,.bool op,.int .i64 kl,str nl,.int .i64 ll,.int .i64 hl,.slice al pl.length cl,.int .i64 kr,str nr,.int .i64 lr,.int .i64 hr,.slice ar pr.length cr,.slice ad rs.length cap,str ro,str a,str b]),(14,.agg #[.bool false,.bool true,.bool uo,.bool ua,.bool ub,.int .i64 um,.int .i64 un]),(15,.bool true),(16,.bool false),(17,zp_ b2 0),(18,.bool false),(25,zp_ b2 1),(26,.bool true),(27,zp_ b1 7),(28,.agg #[.int .i64 kr,str nr,.int .i64 lr,.int .i64 hr,.slice ar pr.length cr]),(29,.int .i64 (Con.check (.mk kr nr lr hr ar cr pr))),(5,.int .i64 (Con.check (.mk kr nr lr hr ar cr pr))),(30,.int .i64 (Con.check (.mk kr nr lr hr ar cr pr))),(31,.bool false),(33,zp_ b1 0),(34,.int .i64 k),(36,.bool true),(35,.bool true),(44,.bool r)]) ?_ fun r22 hr22=>?_
   ·cases r21
    ·have qr22:=hr21
     try dsimp only[Con.kind,Con.parts,Con.name,Con.lo,Con.hi,Con.cap,Con.ad]at hr21
     refine y_ rfl rfl ?_
     refine d_ (R_ A_ rfl rfl rfl F_) rfl ?_
     refine y_ rfl rfl ?_
     refine d_ (as_ 1 aB_ F_ rfl rfl rfl) rfl ?_
     refine y_ rfl rfl ?_
     refine S_ (ce_ _ (.mk kr nr lr hr ar cr pr) (Nat.le_refl _) hok.right) rfl (.refl _) (fun v _ h=>⟨h.1.2.1,trivial⟩) rfl fun r23 hr23=>?_
     refine d_ (aX_ rfl rfl) rfl ?_
     refine p_ ?_
     refine aD_ rfl ?_
     exact met ⟨rfl,rfl,rfl,rfl,rfl,rfl,rfl,rfl,rfl,rfl,rfl,rfl,rfl,rfl,rfl,rfl,rfl,rfl,rfl,rfl,rfl,rfl,rfl,rfl,rfl,rfl,rfl,rfl,rfl,(f_ rfl (jof qr22 hr23)),trivial⟩
    have qr22:=hr21
    try dsimp only[Con.kind,Con.parts,Con.name,Con.lo,Con.hi,Con.cap,Con.ad]at hr21
    refine W_ rfl rfl rfl rfl ?_
    refine W_ rfl rfl rfl rfl ?_
    refine W_ rfl rfl rfl rfl ?_
    refine d_ (aW_ rfl rfl) rfl ?_
    refine p_ ?_
    refine aD_ rfl ?_
    exact met ⟨rfl,rfl,rfl,rfl,rfl,rfl,rfl,rfl,rfl,rfl,rfl,rfl,rfl,rfl,rfl,rfl,rfl,rfl,rfl,rfl,rfl,rfl,rfl,rfl,rfl,rfl,rfl,rfl,rfl,(f_ rfl (jot qr22)),trivial⟩
   refine p_ ?_
   refine l_ rfl ?_
   cases r22
   ·simp at hr22
    try dsimp only[Con.kind,Con.parts,Con.name,Con.lo,Con.hi,Con.cap,Con.ad]at hr22
    refine U_ rfl ?_
    refine aw_ ?_
    refine l_ rfl ?_
    refine s_ ?_
    refine m_ ?_
    refine d_ (z_ rfl) rfl ?_
    refine p_ ?_
    refine l_ rfl ?_
    refine ar_ ?_
    exact J_ ab_ () (au_ rfl (by unfold Ax.check;simp only[hus];simp_all)) (.refl _) (fun _ _ _=>trivial)
   simp at hr22
   try dsimp only[Con.kind,Con.parts,Con.name,Con.lo,Con.hi,Con.cap,Con.ad]at hr22
   refine L_ rfl ?_
   refine s_ ?_
   refine m_ ?_
   refine d_ (z_ rfl) rfl ?_
   refine p_ ?_
   refine l_ rfl ?_
   refine ar_ ?_
   exact J_ ab_ () (au_ rfl (by unfold Ax.check;simp only[hus];simp_all)) (.refl _) (fun _ _ _=>trivial)
  replace hr13:=eo_ hr13
  try dsimp only[Con.kind,Con.parts,Con.name,Con.lo,Con.hi,Con.cap,Con.ad]at hr13
  refine L_ rfl ?_
  refine s_ ?_
  refine m_ ?_
  refine d_ (V_ rfl) rfl ?_
  refine d_ (z_ rfl) rfl ?_
  refine p_ ?_
  refine l_ rfl ?_
  refine ar_ ?_
  exact J_ ab_ () (au_ rfl (by unfold Ax.check;simp only[hus];simp_all)) (.refl _) (fun _ _ _=>trivial)
 try dsimp only[Con.kind,Con.parts,Con.name,Con.lo,Con.hi,Con.cap,Con.ad]at hul
 refine L_ rfl ?_
 refine s_ ?_
 refine m_ ?_
 refine d_ (R_ A_ rfl rfl rfl F_) rfl ?_
 refine d_ (as_ 1 aB_ F_ rfl rfl rfl) rfl ?_
 refine q_ (fM_ (.mk kl nl ll hl al cl pl) hok.left) rfl (.refl _) (fun v _ h=>⟨h.1.1,h.2.1,trivial⟩) rfl fun _=>?_
 refine d_ (z_ rfl) rfl ?_
 refine p_ ?_
 refine l_ rfl ?_
 refine s_ ?_
 refine m_ ?_
 refine d_ (V_ rfl) rfl ?_
 refine O_ (cg_ rfl rfl) rfl fun r24 hr24=>?_
 refine p_ ?_
 refine l_ rfl ?_
 cases r24
 ·replace hr24:=et_ hr24
  try dsimp only[Con.kind,Con.parts,Con.name,Con.lo,Con.hi,Con.cap,Con.ad]at hr24
  refine U_ rfl ?_
  refine aw_ ?_
  refine l_ rfl ?_
  refine s_ ?_
  refine s_ ?_
  refine m_ ?_
  refine d_ (R_ az_ rfl rfl rfl cy_) rfl ?_
  refine d_ (ak_ 0 cY_ rfl rfl rfl) rfl ?_
  refine p_ ?_
  refine l_ rfl ?_
  cases ur
  ·try dsimp only[Con.kind,Con.parts,Con.name,Con.lo,Con.hi,Con.cap,Con.ad]at hur
   refine U_ rfl ?_
   refine aw_ ?_
   refine l_ rfl ?_
   refine s_ ?_
   refine s_ ?_
   refine m_ ?_
   refine d_ (R_ A_ rfl rfl rfl aq_) rfl ?_
   refine d_ (ak_ 1 aK_ rfl rfl rfl) rfl ?_
   refine p_ ?_
   refine l_ rfl ?_
   refine cc_ ?_
   refine s_ ?_
   refine m_ ?_
   refine O_ (bf_ rfl rfl) rfl fun r25 hr25=>?_
   refine d_ (z_ rfl) rfl ?_
   refine p_ ?_
   refine l_ rfl ?_
   cases r25
   ·replace hr25:=ne_of_beq_false hr25
    try dsimp only[Con.kind,Con.parts,Con.name,Con.lo,Con.hi,Con.cap,Con.ad]at hr25
    refine U_ rfl ?_
    refine s_ ?_
    refine s_ ?_
    refine m_ ?_
    refine O_ (bf_ rfl rfl) rfl fun r26 hr26=>?_
    refine d_ (z_ rfl) rfl ?_
    refine p_ ?_
    refine l_ rfl ?_
    cases r26
    ·replace hr26:=ne_of_beq_false hr26
     try dsimp only[Con.kind,Con.parts,Con.name,Con.lo,Con.hi,Con.cap,Con.ad]at hr26
     refine U_ rfl ?_
     refine s_ ?_
     refine m_ ?_
     refine O_ (bf_ rfl rfl) rfl fun r27 hr27=>?_
     refine d_ (z_ rfl) rfl ?_
     refine p_ ?_
     refine l_ rfl ?_
     cases r27
     ·replace hr27:=ne_of_beq_false hr27
      try dsimp only[Con.kind,Con.parts,Con.name,Con.lo,Con.hi,Con.cap,Con.ad]at hr27
      refine U_ rfl ?_
      refine m_ ?_
      refine O_ (bf_ rfl rfl) rfl fun r28 hr28=>?_
      refine d_ (z_ rfl) rfl ?_
      refine p_ ?_
      refine l_ rfl ?_
      cases r28
      ·replace hr28:=ne_of_beq_false hr28
       try dsimp only[Con.kind,Con.parts,Con.name,Con.lo,Con.hi,Con.cap,Con.ad]at hr28
       refine U_ rfl ?_
       refine aw_ ?_
       refine l_ rfl ?_
       refine s_ ?_
       refine m_ ?_
       refine d_ (z_ rfl) rfl ?_
       refine p_ ?_
       refine l_ rfl ?_
       refine ar_ ?_
       exact J_ ab_ () (au_ rfl (by unfold Ax.check;simp only[hus];simp_all)) (.refl _) (fun _ _ _=>trivial)
      replace hr28:=eq_of_beq hr28
      try dsimp only[Con.kind,Con.parts,Con.name,Con.lo,Con.hi,Con.cap,Con.ad]at hr28
      refine L_ rfl ?_
      refine s_ ?_
      refine m_ ?_
      refine d_ (R_ A_ rfl rfl rfl F_) rfl ?_
      refine d_ (as_ 1 aB_ F_ rfl rfl rfl) rfl ?_
      refine S_ (ce_ _ (.mk kr nr lr hr ar cr pr) (Nat.le_refl _) hok.right) rfl (.refl _) (fun v _ h=>⟨h.1.2.1,trivial⟩) rfl fun r29 hr29=>?_
      refine p_ ?_
      refine l_ rfl ?_
      cases r29
      ·try dsimp only[Con.kind,Con.parts,Con.name,Con.lo,Con.hi,Con.cap,Con.ad]at hr29
       refine U_ rfl ?_
       refine aw_ ?_
       refine l_ rfl ?_
       refine s_ ?_
       refine m_ ?_
       refine d_ (z_ rfl) rfl ?_
       refine p_ ?_
       refine l_ rfl ?_
       refine ar_ ?_
       exact J_ ab_ () (au_ rfl (by unfold Ax.check;simp only[hus];simp_all)) (.refl _) (fun _ _ _=>trivial)
      try dsimp only[Con.kind,Con.parts,Con.name,Con.lo,Con.hi,Con.cap,Con.ad]at hr29
      refine L_ rfl ?_
      refine s_ ?_
      refine m_ ?_
      refine d_ (z_ rfl) rfl ?_
      refine p_ ?_
      refine l_ rfl ?_
      refine ar_ ?_
      exact J_ ab_ () (au_ rfl (by unfold Ax.check;simp only[hus];simp_all)) (.refl _) (fun _ _ _=>trivial)
     replace hr27:=eq_of_beq hr27
     try dsimp only[Con.kind,Con.parts,Con.name,Con.lo,Con.hi,Con.cap,Con.ad]at hr27
     refine L_ rfl ?_
     refine aw_ ?_
     refine l_ rfl ?_
     refine L_ rfl ?_
     refine s_ ?_
     refine m_ ?_
     refine d_ (R_ A_ rfl rfl rfl F_) rfl ?_
     refine d_ (as_ 1 aB_ F_ rfl rfl rfl) rfl ?_
     refine S_ (ce_ _ (.mk kr nr lr hr ar cr pr) (Nat.le_refl _) hok.right) rfl (.refl _) (fun v _ h=>⟨h.1.2.1,trivial⟩) rfl fun r30 hr30=>?_
     refine p_ ?_
     refine l_ rfl ?_
     cases r30
     ·try dsimp only[Con.kind,Con.parts,Con.name,Con.lo,Con.hi,Con.cap,Con.ad]at hr30
      refine U_ rfl ?_
      refine aw_ ?_
      refine l_ rfl ?_
      refine s_ ?_
      refine m_ ?_
      refine d_ (z_ rfl) rfl ?_
      refine p_ ?_
      refine l_ rfl ?_
      refine ar_ ?_
      exact J_ ab_ () (au_ rfl (by unfold Ax.check;simp only[hus];simp_all)) (.refl _) (fun _ _ _=>trivial)
     try dsimp only[Con.kind,Con.parts,Con.name,Con.lo,Con.hi,Con.cap,Con.ad]at hr30
     refine L_ rfl ?_
     refine s_ ?_
     refine m_ ?_
     refine d_ (z_ rfl) rfl ?_
     refine p_ ?_
     refine l_ rfl ?_
     refine ar_ ?_
     exact J_ ab_ () (au_ rfl (by unfold Ax.check;simp only[hus];simp_all)) (.refl _) (fun _ _ _=>trivial)
    replace hr26:=eq_of_beq hr26
    try dsimp only[Con.kind,Con.parts,Con.name,Con.lo,Con.hi,Con.cap,Con.ad]at hr26
    refine L_ rfl ?_
    refine aw_ ?_
    refine l_ rfl ?_
    refine L_ rfl ?_
    refine s_ ?_
    refine m_ ?_
    refine d_ (R_ A_ rfl rfl rfl F_) rfl ?_
    refine d_ (as_ 1 aB_ F_ rfl rfl rfl) rfl ?_
    refine S_ (ce_ _ (.mk kr nr lr hr ar cr pr) (Nat.le_refl _) hok.right) rfl (.refl _) (fun v _ h=>⟨h.1.2.1,trivial⟩) rfl fun r31 hr31=>?_
    refine p_ ?_
    refine l_ rfl ?_
    cases r31
    ·try dsimp only[Con.kind,Con.parts,Con.name,Con.lo,Con.hi,Con.cap,Con.ad]at hr31
     refine U_ rfl ?_
     refine aw_ ?_
     refine l_ rfl ?_
     refine s_ ?_
     refine m_ ?_
     refine d_ (z_ rfl) rfl ?_
     refine p_ ?_
     refine l_ rfl ?_
     refine ar_ ?_
     exact J_ ab_ () (au_ rfl (by unfold Ax.check;simp only[hus];simp_all)) (.refl _) (fun _ _ _=>trivial)
    try dsimp only[Con.kind,Con.parts,Con.name,Con.lo,Con.hi,Con.cap,Con.ad]at hr31
    refine L_ rfl ?_
    refine s_ ?_
    refine m_ ?_
    refine d_ (z_ rfl) rfl ?_
    refine p_ ?_
    refine l_ rfl ?_
    refine ar_ ?_
    exact J_ ab_ () (au_ rfl (by unfold Ax.check;simp only[hus];simp_all)) (.refl _) (fun _ _ _=>trivial)
   replace hr25:=eq_of_beq hr25
   try dsimp only[Con.kind,Con.parts,Con.name,Con.lo,Con.hi,Con.cap,Con.ad]at hr25
   refine L_ rfl ?_
   refine s_ ?_
   refine m_ ?_
   refine d_ (R_ A_ rfl rfl rfl F_) rfl ?_
   refine d_ (as_ 1 aB_ F_ rfl rfl rfl) rfl ?_
   refine S_ (ce_ _ (.mk kl nl ll hl al cl pl) (Nat.le_refl _) hok.left) rfl (.refl _) (fun v _ h=>⟨h.1.1,trivial⟩) rfl fun r32 hr32=>?_
   refine d_ (V_ rfl) rfl ?_
   refine aL_ 4 ((Con.bare (.mk kl nl ll hl al cl pl))||(Con.bare (.mk kr nr lr hr ar cr pr))) (fun r=>[(0,.agg #[.int .i64 k,.bool op,.int .i64 kl,str nl,.int .i64 ll,.int .i64 hl,.slice al pl.length cl,.int .i64 kr,str nr,.int .i64 lr,.int .i64 hr,.slice ar pr.length cr,.slice ad rs.length cap,str ro,str a,str b]),(1,zp_ b1 0),(2,.int .i64 0),(6,.agg #[.int .i64 k,.bool op,.int .i64 kl,str nl,.int .i64 ll,.int .i64 hl,.slice al pl.length cl,.int .i64 kr,str nr,.int .i64 lr,.int .i64 hr,.slice ar pr.length cr,.slice ad rs.length cap,str ro,str a,str b]),(7,.bool true),(8,.bool false),(9,zp_ b1 0),(10,.int .i64 k),(11,.pointer (some (rad (some ⟨0,0,none⟩) (k.toNat*7)))),(12,.agg #[.bool true,.bool false,.bool uo,.bool ua,.bool ub,.int .i64 um,.int .i64 un]),(3,zp_ b2 0),(13,.agg #[.int .i64 k,.bool op,.int .i64 kl,str nl,.int .i64 ll,.int .i64 hl,.slice al pl.length cl,.int .i64 kr,str nr,.int .i64 lr,.int .i64 hr,.slice ar pr.length cr,.slice ad rs.length cap,str ro,str a,str b]),(14,.agg #[.bool true,.bool false,.bool uo,.bool ua,.bool ub,.int .i64 um,.int .i64 un]),(15,.bool true),(16,.bool false),(17,zp_ b2 0),(18,.bool true),(19,zp_ b1 2),(20,.agg #[.int .i64 kl,str nl,.int .i64 ll,.int .i64 hl,.slice al pl.length cl]),(21,.int .i64 (Con.check (.mk kl nl ll hl al cl pl))),(4,.int .i64 (Con.check (.mk kl nl ll hl al cl pl))),(22,.int .i64 (Con.check (.mk kl nl ll hl al cl pl))),(23,.bool false),(25,zp_ b2 1),(26,.bool false),(33,zp_ b1 0),(34,.int .i64 k),(36,.bool true),(35,.bool true),(44,.bool r)]) ?_ fun r33 hr33=>?_
   ·cases r32
    ·have qr33:=hr32
     try dsimp only[Con.kind,Con.parts,Con.name,Con.lo,Con.hi,Con.cap,Con.ad]at hr32
     refine y_ rfl rfl ?_
     refine d_ (R_ A_ rfl rfl rfl F_) rfl ?_
     refine y_ rfl rfl ?_
     refine d_ (as_ 1 aB_ F_ rfl rfl rfl) rfl ?_
     refine y_ rfl rfl ?_
     refine S_ (ce_ _ (.mk kr nr lr hr ar cr pr) (Nat.le_refl _) hok.right) rfl (.refl _) (fun v _ h=>⟨h.1.2.1,trivial⟩) rfl fun r34 hr34=>?_
     refine d_ (aX_ rfl rfl) rfl ?_
     refine p_ ?_
     refine aD_ rfl ?_
     exact met ⟨rfl,rfl,rfl,rfl,rfl,rfl,rfl,rfl,rfl,rfl,rfl,rfl,rfl,rfl,rfl,rfl,rfl,rfl,rfl,rfl,rfl,rfl,rfl,rfl,rfl,rfl,rfl,rfl,rfl,(f_ rfl (jof qr33 hr34)),trivial⟩
    have qr33:=hr32
    try dsimp only[Con.kind,Con.parts,Con.name,Con.lo,Con.hi,Con.cap,Con.ad]at hr32
    refine W_ rfl rfl rfl rfl ?_
    refine W_ rfl rfl rfl rfl ?_
    refine W_ rfl rfl rfl rfl ?_
    refine d_ (aW_ rfl rfl) rfl ?_
    refine p_ ?_
    refine aD_ rfl ?_
    exact met ⟨rfl,rfl,rfl,rfl,rfl,rfl,rfl,rfl,rfl,rfl,rfl,rfl,rfl,rfl,rfl,rfl,rfl,rfl,rfl,rfl,rfl,rfl,rfl,rfl,rfl,rfl,rfl,rfl,rfl,(f_ rfl (jot qr33)),trivial⟩
   refine p_ ?_
   refine l_ rfl ?_
   cases r33
   ·simp at hr33
    try dsimp only[Con.kind,Con.parts,Con.name,Con.lo,Con.hi,Con.cap,Con.ad]at hr33
    refine U_ rfl ?_
    refine aw_ ?_
    refine l_ rfl ?_
    refine s_ ?_
    refine m_ ?_
    refine d_ (z_ rfl) rfl ?_
    refine p_ ?_
    refine l_ rfl ?_
    refine ar_ ?_
    exact J_ ab_ () (au_ rfl (by unfold Ax.check;simp only[hus];simp_all)) (.refl _) (fun _ _ _=>trivial)
   simp at hr33
   try dsimp only[Con.kind,Con.parts,Con.name,Con.lo,Con.hi,Con.cap,Con.ad]at hr33
   refine L_ rfl ?_
   refine s_ ?_
   refine m_ ?_
   refine d_ (z_ rfl) rfl ?_
   refine p_ ?_
   refine l_ rfl ?_
   refine ar_ ?_
   exact J_ ab_ () (au_ rfl (by unfold Ax.check;simp only[hus];simp_all)) (.refl _) (fun _ _ _=>trivial)
  try dsimp only[Con.kind,Con.parts,Con.name,Con.lo,Con.hi,Con.cap,Con.ad]at hur
  refine L_ rfl ?_
  refine s_ ?_
  refine m_ ?_
  refine d_ (R_ A_ rfl rfl rfl F_) rfl ?_
  refine d_ (as_ 1 aB_ F_ rfl rfl rfl) rfl ?_
  refine q_ (fM_ (.mk kr nr lr hr ar cr pr) hok.right) rfl (.refl _) (fun v _ h=>⟨h.1.2.1,h.2.1,trivial⟩) rfl fun _=>?_
  refine d_ (z_ rfl) rfl ?_
  refine p_ ?_
  refine l_ rfl ?_
  refine s_ ?_
  refine m_ ?_
  refine d_ (V_ rfl) rfl ?_
  refine O_ (cg_ rfl rfl) rfl fun r35 hr35=>?_
  refine p_ ?_
  refine l_ rfl ?_
  cases r35
  ·replace hr35:=et_ hr35
   try dsimp only[Con.kind,Con.parts,Con.name,Con.lo,Con.hi,Con.cap,Con.ad]at hr35
   refine U_ rfl ?_
   refine aw_ ?_
   refine l_ rfl ?_
   refine s_ ?_
   refine s_ ?_
   refine m_ ?_
   refine d_ (R_ A_ rfl rfl rfl aq_) rfl ?_
   refine d_ (ak_ 1 aK_ rfl rfl rfl) rfl ?_
   refine p_ ?_
   refine l_ rfl ?_
   refine cc_ ?_
   refine s_ ?_
   refine m_ ?_
   refine O_ (bf_ rfl rfl) rfl fun r36 hr36=>?_
   refine d_ (z_ rfl) rfl ?_
   refine p_ ?_
   refine l_ rfl ?_
   cases r36
   ·replace hr36:=ne_of_beq_false hr36
    try dsimp only[Con.kind,Con.parts,Con.name,Con.lo,Con.hi,Con.cap,Con.ad]at hr36
    refine U_ rfl ?_
    refine s_ ?_
    refine s_ ?_
    refine m_ ?_
    refine O_ (bf_ rfl rfl) rfl fun r37 hr37=>?_
    refine d_ (z_ rfl) rfl ?_
    refine p_ ?_
    refine l_ rfl ?_
    cases r37
    ·replace hr37:=ne_of_beq_false hr37
     try dsimp only[Con.kind,Con.parts,Con.name,Con.lo,Con.hi,Con.cap,Con.ad]at hr37
     refine U_ rfl ?_
     refine s_ ?_
     refine m_ ?_
     refine O_ (bf_ rfl rfl) rfl fun r38 hr38=>?_
     refine d_ (z_ rfl) rfl ?_
     refine p_ ?_
     refine l_ rfl ?_
     cases r38
     ·replace hr38:=ne_of_beq_false hr38
      try dsimp only[Con.kind,Con.parts,Con.name,Con.lo,Con.hi,Con.cap,Con.ad]at hr38
      refine U_ rfl ?_
      refine m_ ?_
      refine O_ (bf_ rfl rfl) rfl fun r39 hr39=>?_
      refine d_ (z_ rfl) rfl ?_
      refine p_ ?_
      refine l_ rfl ?_
      cases r39
      ·replace hr39:=ne_of_beq_false hr39
       try dsimp only[Con.kind,Con.parts,Con.name,Con.lo,Con.hi,Con.cap,Con.ad]at hr39
       refine U_ rfl ?_
       refine aw_ ?_
       refine l_ rfl ?_
       refine s_ ?_
       refine m_ ?_
       refine d_ (z_ rfl) rfl ?_
       refine p_ ?_
       refine l_ rfl ?_
       refine ar_ ?_
       exact J_ ab_ () (au_ rfl (by unfold Ax.check;simp only[hus];simp_all)) (.refl _) (fun _ _ _=>trivial)
      replace hr39:=eq_of_beq hr39
      try dsimp only[Con.kind,Con.parts,Con.name,Con.lo,Con.hi,Con.cap,Con.ad]at hr39
      refine L_ rfl ?_
      refine s_ ?_
      refine m_ ?_
      refine d_ (R_ A_ rfl rfl rfl F_) rfl ?_
      refine d_ (as_ 1 aB_ F_ rfl rfl rfl) rfl ?_
      refine S_ (ce_ _ (.mk kr nr lr hr ar cr pr) (Nat.le_refl _) hok.right) rfl (.refl _) (fun v _ h=>⟨h.1.2.1,trivial⟩) rfl fun r40 hr40=>?_
      refine p_ ?_
      refine l_ rfl ?_
      cases r40
      ·try dsimp only[Con.kind,Con.parts,Con.name,Con.lo,Con.hi,Con.cap,Con.ad]at hr40
       refine U_ rfl ?_
       refine aw_ ?_
       refine l_ rfl ?_
       refine s_ ?_
       refine m_ ?_
       refine d_ (z_ rfl) rfl ?_
       refine p_ ?_
       refine l_ rfl ?_
       refine ar_ ?_
       exact J_ ab_ () (au_ rfl (by unfold Ax.check;simp only[hus];simp_all)) (.refl _) (fun _ _ _=>trivial)
      try dsimp only[Con.kind,Con.parts,Con.name,Con.lo,Con.hi,Con.cap,Con.ad]at hr40
      refine L_ rfl ?_
      refine s_ ?_
      refine m_ ?_
      refine d_ (z_ rfl) rfl ?_
      refine p_ ?_
      refine l_ rfl ?_
      refine ar_ ?_
      exact J_ ab_ () (au_ rfl (by unfold Ax.check;simp only[hus];simp_all)) (.refl _) (fun _ _ _=>trivial)
     replace hr38:=eq_of_beq hr38
     try dsimp only[Con.kind,Con.parts,Con.name,Con.lo,Con.hi,Con.cap,Con.ad]at hr38
     refine L_ rfl ?_
     refine aw_ ?_
     refine l_ rfl ?_
     refine L_ rfl ?_
     refine s_ ?_
     refine m_ ?_
     refine d_ (R_ A_ rfl rfl rfl F_) rfl ?_
     refine d_ (as_ 1 aB_ F_ rfl rfl rfl) rfl ?_
     refine S_ (ce_ _ (.mk kr nr lr hr ar cr pr) (Nat.le_refl _) hok.right) rfl (.refl _) (fun v _ h=>⟨h.1.2.1,trivial⟩) rfl fun r41 hr41=>?_
     refine p_ ?_
     refine l_ rfl ?_
     cases r41
     ·try dsimp only[Con.kind,Con.parts,Con.name,Con.lo,Con.hi,Con.cap,Con.ad]at hr41
      refine U_ rfl ?_
      refine aw_ ?_
      refine l_ rfl ?_
      refine s_ ?_
      refine m_ ?_
      refine d_ (z_ rfl) rfl ?_
      refine p_ ?_
      refine l_ rfl ?_
      refine ar_ ?_
      exact J_ ab_ () (au_ rfl (by unfold Ax.check;simp only[hus];simp_all)) (.refl _) (fun _ _ _=>trivial)
     try dsimp only[Con.kind,Con.parts,Con.name,Con.lo,Con.hi,Con.cap,Con.ad]at hr41
     refine L_ rfl ?_
     refine s_ ?_
     refine m_ ?_
     refine d_ (z_ rfl) rfl ?_
     refine p_ ?_
     refine l_ rfl ?_
     refine ar_ ?_
     exact J_ ab_ () (au_ rfl (by unfold Ax.check;simp only[hus];simp_all)) (.refl _) (fun _ _ _=>trivial)
    replace hr37:=eq_of_beq hr37
    try dsimp only[Con.kind,Con.parts,Con.name,Con.lo,Con.hi,Con.cap,Con.ad]at hr37
    refine L_ rfl ?_
    refine aw_ ?_
    refine l_ rfl ?_
    refine L_ rfl ?_
    refine s_ ?_
    refine m_ ?_
    refine d_ (R_ A_ rfl rfl rfl F_) rfl ?_
    refine d_ (as_ 1 aB_ F_ rfl rfl rfl) rfl ?_
    refine S_ (ce_ _ (.mk kr nr lr hr ar cr pr) (Nat.le_refl _) hok.right) rfl (.refl _) (fun v _ h=>⟨h.1.2.1,trivial⟩) rfl fun r42 hr42=>?_
    refine p_ ?_
    refine l_ rfl ?_
    cases r42
    ·try dsimp only[Con.kind,Con.parts,Con.name,Con.lo,Con.hi,Con.cap,Con.ad]at hr42
     refine U_ rfl ?_
     refine aw_ ?_
     refine l_ rfl ?_
     refine s_ ?_
     refine m_ ?_
     refine d_ (z_ rfl) rfl ?_
     refine p_ ?_
     refine l_ rfl ?_
     refine ar_ ?_
     exact J_ ab_ () (au_ rfl (by unfold Ax.check;simp only[hus];simp_all)) (.refl _) (fun _ _ _=>trivial)
    try dsimp only[Con.kind,Con.parts,Con.name,Con.lo,Con.hi,Con.cap,Con.ad]at hr42
    refine L_ rfl ?_
    refine s_ ?_
    refine m_ ?_
    refine d_ (z_ rfl) rfl ?_
    refine p_ ?_
    refine l_ rfl ?_
    refine ar_ ?_
    exact J_ ab_ () (au_ rfl (by unfold Ax.check;simp only[hus];simp_all)) (.refl _) (fun _ _ _=>trivial)
   replace hr36:=eq_of_beq hr36
   try dsimp only[Con.kind,Con.parts,Con.name,Con.lo,Con.hi,Con.cap,Con.ad]at hr36
   refine L_ rfl ?_
   refine s_ ?_
   refine m_ ?_
   refine d_ (R_ A_ rfl rfl rfl F_) rfl ?_
   refine d_ (as_ 1 aB_ F_ rfl rfl rfl) rfl ?_
   refine S_ (ce_ _ (.mk kl nl ll hl al cl pl) (Nat.le_refl _) hok.left) rfl (.refl _) (fun v _ h=>⟨h.1.1,trivial⟩) rfl fun r43 hr43=>?_
   refine d_ (V_ rfl) rfl ?_
   refine aL_ 4 ((Con.bare (.mk kl nl ll hl al cl pl))||(Con.bare (.mk kr nr lr hr ar cr pr))) (fun r=>[(0,.agg #[.int .i64 k,.bool op,.int .i64 kl,str nl,.int .i64 ll,.int .i64 hl,.slice al pl.length cl,.int .i64 kr,str nr,.int .i64 lr,.int .i64 hr,.slice ar pr.length cr,.slice ad rs.length cap,str ro,str a,str b]),(1,zp_ b1 0),(2,.int .i64 0),(6,.agg #[.int .i64 k,.bool op,.int .i64 kl,str nl,.int .i64 ll,.int .i64 hl,.slice al pl.length cl,.int .i64 kr,str nr,.int .i64 lr,.int .i64 hr,.slice ar pr.length cr,.slice ad rs.length cap,str ro,str a,str b]),(7,.bool true),(8,.bool false),(9,zp_ b1 0),(10,.int .i64 k),(11,.pointer (some (rad (some ⟨0,0,none⟩) (k.toNat*7)))),(12,.agg #[.bool true,.bool true,.bool uo,.bool ua,.bool ub,.int .i64 um,.int .i64 un]),(3,zp_ b2 0),(13,.agg #[.int .i64 k,.bool op,.int .i64 kl,str nl,.int .i64 ll,.int .i64 hl,.slice al pl.length cl,.int .i64 kr,str nr,.int .i64 lr,.int .i64 hr,.slice ar pr.length cr,.slice ad rs.length cap,str ro,str a,str b]),(14,.agg #[.bool true,.bool true,.bool uo,.bool ua,.bool ub,.int .i64 um,.int .i64 un]),(15,.bool true),(16,.bool false),(17,zp_ b2 0),(18,.bool true),(19,zp_ b1 2),(20,.agg #[.int .i64 kl,str nl,.int .i64 ll,.int .i64 hl,.slice al pl.length cl]),(21,.int .i64 (Con.check (.mk kl nl ll hl al cl pl))),(4,.int .i64 (Con.check (.mk kl nl ll hl al cl pl))),(22,.int .i64 (Con.check (.mk kl nl ll hl al cl pl))),(23,.bool false),(25,zp_ b2 1),(26,.bool true),(27,zp_ b1 7),(28,.agg #[.int .i64 kr,str nr,.int .i64 lr,.int .i64 hr,.slice ar pr.length cr]),(29,.int .i64 (Con.check (.mk kr nr lr hr ar cr pr))),(5,.int .i64 (Con.check (.mk kr nr lr hr ar cr pr))),(30,.int .i64 (Con.check (.mk kr nr lr hr ar cr pr))),(31,.bool false),(33,zp_ b1 0),(34,.int .i64 k),(36,.bool true),(35,.bool true),(44,.bool r)]) ?_ fun r44 hr44=>?_
   ·cases r43
    ·have qr44:=hr43
     try dsimp only[Con.kind,Con.parts,Con.name,Con.lo,Con.hi,Con.cap,Con.ad]at hr43
     refine y_ rfl rfl ?_
     refine d_ (R_ A_ rfl rfl rfl F_) rfl ?_
     refine y_ rfl rfl ?_
     refine d_ (as_ 1 aB_ F_ rfl rfl rfl) rfl ?_
     refine y_ rfl rfl ?_
     refine S_ (ce_ _ (.mk kr nr lr hr ar cr pr) (Nat.le_refl _) hok.right) rfl (.refl _) (fun v _ h=>⟨h.1.2.1,trivial⟩) rfl fun r45 hr45=>?_
     refine d_ (aX_ rfl rfl) rfl ?_
     refine p_ ?_
     refine aD_ rfl ?_
     exact met ⟨rfl,rfl,rfl,rfl,rfl,rfl,rfl,rfl,rfl,rfl,rfl,rfl,rfl,rfl,rfl,rfl,rfl,rfl,rfl,rfl,rfl,rfl,rfl,rfl,rfl,rfl,rfl,rfl,rfl,rfl,rfl,rfl,rfl,rfl,rfl,(f_ rfl (jof qr44 hr45)),trivial⟩
    have qr44:=hr43
    try dsimp only[Con.kind,Con.parts,Con.name,Con.lo,Con.hi,Con.cap,Con.ad]at hr43
    refine W_ rfl rfl rfl rfl ?_
    refine W_ rfl rfl rfl rfl ?_
    refine W_ rfl rfl rfl rfl ?_
    refine d_ (aW_ rfl rfl) rfl ?_
    refine p_ ?_
    refine aD_ rfl ?_
    exact met ⟨rfl,rfl,rfl,rfl,rfl,rfl,rfl,rfl,rfl,rfl,rfl,rfl,rfl,rfl,rfl,rfl,rfl,rfl,rfl,rfl,rfl,rfl,rfl,rfl,rfl,rfl,rfl,rfl,rfl,rfl,rfl,rfl,rfl,rfl,rfl,(f_ rfl (jot qr44)),trivial⟩
   refine p_ ?_
   refine l_ rfl ?_
   cases r44
   ·simp at hr44
    try dsimp only[Con.kind,Con.parts,Con.name,Con.lo,Con.hi,Con.cap,Con.ad]at hr44
    refine U_ rfl ?_
    refine aw_ ?_
    refine l_ rfl ?_
    refine s_ ?_
    refine m_ ?_
    refine d_ (z_ rfl) rfl ?_
    refine p_ ?_
    refine l_ rfl ?_
    refine ar_ ?_
    exact J_ ab_ () (au_ rfl (by unfold Ax.check;simp only[hus];simp_all)) (.refl _) (fun _ _ _=>trivial)
   simp at hr44
   try dsimp only[Con.kind,Con.parts,Con.name,Con.lo,Con.hi,Con.cap,Con.ad]at hr44
   refine L_ rfl ?_
   refine s_ ?_
   refine m_ ?_
   refine d_ (z_ rfl) rfl ?_
   refine p_ ?_
   refine l_ rfl ?_
   refine ar_ ?_
   exact J_ ab_ () (au_ rfl (by unfold Ax.check;simp only[hus];simp_all)) (.refl _) (fun _ _ _=>trivial)
  replace hr35:=eo_ hr35
  try dsimp only[Con.kind,Con.parts,Con.name,Con.lo,Con.hi,Con.cap,Con.ad]at hr35
  refine L_ rfl ?_
  refine s_ ?_
  refine m_ ?_
  refine d_ (V_ rfl) rfl ?_
  refine d_ (z_ rfl) rfl ?_
  refine p_ ?_
  refine l_ rfl ?_
  refine ar_ ?_
  exact J_ ab_ () (au_ rfl (by unfold Ax.check;simp only[hus];simp_all)) (.refl _) (fun _ _ _=>trivial)
 replace hr24:=eo_ hr24
 try dsimp only[Con.kind,Con.parts,Con.name,Con.lo,Con.hi,Con.cap,Con.ad]at hr24
 refine L_ rfl ?_
 refine s_ ?_
 refine m_ ?_
 refine d_ (V_ rfl) rfl ?_
 refine d_ (z_ rfl) rfl ?_
 refine p_ ?_
 refine l_ rfl ?_
 refine ar_ ?_
 exact J_ ab_ () (au_ rfl (by unfold Ax.check;simp only[hus];simp_all)) (.refl _) (fun _ _ _=>trivial)
end Go.Proofs.YtaffcjgphlhppaaGreatDoor
namespace Go.Proofs.YtaffcjgphlhppaaGreatDoor
open Go Go.Sx Go.Proofs
attribute [local irreducible] Code.wp wpList wpAnyH
open Go.Vs
theorem eqPc (p q:Pc) (w:World):(Op.equalIn 10000 73 p.val q.val).run Tryz.prog w=.ok (decide (p=q)) w:=by
  have h:=run_equalIn_struct (P:=Tryz.prog) w 9999 73 p.cells.toArray q.cells.toArray (by simp only[Program.fieldsOf,ln_]) Tryz.stoodInHeld73
  refine h.trans ?_
  rw[← Pc.eqb_eq]
  simp only[Program.fieldsOf,ln_]
  exact bW_ rfl aK_ rfl rfl (eqI bh_ w) (bW_ rfl ai_ rfl rfl (eqS aM_ w) (bW_ rfl ai_ rfl rfl (eqS aM_ w) (bW_ rfl ai_ rfl rfl (eqS aM_ w) (bW_ rfl ai_ rfl rfl (eqS aM_ w) (bW_ rfl ai_ rfl rfl (eqS aM_ w) (bW_ rfl ai_ rfl rfl (eqS aM_ w) (bW_ rfl aK_ rfl rfl (eqI bh_ w) (bW_ rfl aK_ rfl rfl (eqI bh_ w) (bW_ rfl aK_ rfl rfl (eqI bh_ w) (jQ_ w))))))))))
theorem eqFc (p q:Fc) (w:World):(Op.equalIn 10000 24 p.val q.val).run Tryz.prog w=.ok (decide (p=q)) w:=by
  have h:=run_equalIn_struct (P:=Tryz.prog) w 9999 24 p.cells.toArray q.cells.toArray (by simp only[Program.fieldsOf,lq_]) Tryz.stoodInHeld24
  refine h.trans ?_
  rw[← Fc.eqb_eq]
  simp only[Program.fieldsOf,lq_]
  exact bW_ rfl aK_ rfl rfl (eqI bh_ w) (bW_ rfl ai_ rfl rfl (eqS aM_ w) (bW_ rfl ai_ rfl rfl (eqS aM_ w) (bW_ rfl ai_ rfl rfl (eqS aM_ w) (bW_ rfl aK_ rfl rfl (eqI bh_ w) (bW_ rfl aK_ rfl rfl (eqI bh_ w) (jQ_ w))))))
theorem keyPc (p:Pc):iU_ Tryz.prog 73 p.val:=fun e w=>by
 have hi:∀ (n:Int) (w:World),(Instr.checkKey e (9998+1) 3 (.int .i64 n)).run Tryz.prog w=.ok () w:=fun n w=>MapKept.run_checkKey (d:=.int .i64) bh_ (by simp[MapKept.IsKey]) e 9998
 have hs:∀ (n:Str) (w:World),(Instr.checkKey e (9998+1) 9 (str n)).run Tryz.prog w=.ok () w:=fun n w=>MapKept.run_checkKey (d:=.string) aM_ (by simp[MapKept.IsKey,str]) e 9998
 refine ckF (n:=9999) ln_ fun f hf=>?_
 simp only[List.mem_cons,List.not_mem_nil,or_false]at hf
 rcases hf with rfl|rfl|rfl|rfl|rfl|rfl|rfl|rfl|rfl|rfl
 ·exact⟨rfl,aK_,_,rfl,hi _⟩
 ·exact⟨rfl,ai_,_,rfl,hs _⟩
 ·exact⟨rfl,ai_,_,rfl,hs _⟩
 ·exact⟨rfl,ai_,_,rfl,hs _⟩
 ·exact⟨rfl,ai_,_,rfl,hs _⟩
 ·exact⟨rfl,ai_,_,rfl,hs _⟩
 ·exact⟨rfl,ai_,_,rfl,hs _⟩
 ·exact⟨rfl,aK_,_,rfl,hi _⟩
 ·exact⟨rfl,aK_,_,rfl,hi _⟩
 exact⟨rfl,aK_,_,rfl,hi _⟩
theorem fZ_:hy_ Tryz.prog 24 [(0,1),(1,1),(2,1),(3,1),(4,1),(5,1)] [.int .i64 0,str [],str [],str [],.int .i64 0,.int .i64 0]:=⟨_,ad_,cN_,fun w=>by simp[aq_,al_]⟩
end Go.Proofs.YtaffcjgphlhppaaGreatDoor
namespace Go.Proofs.YtaffcjgphlhppaaGreatDoor
open Go Go.Sx Go.Proofs
attribute [local irreducible] Code.wp wpList wpAnyH
open Go.Vs
structure CS where
  sv:Value
  bm:Nat
  es:Array MapEntry
  clk:Nat
  Hr:Hp
def collH (kb:Nat) (frm:Int) (q:CS):Hp:=(kb,.cells #[.int .i64 frm,q.sv,.map (some q.bm)] 126 (0,0))::(q.bm,.map q.es q.clk)::q.Hr
structure CInv (l:List Pc) (q:CS):Prop where
  row:bA_ 73 10 q.sv l.length (l.flatMap Pc.cells) q.Hr
  keys:q.es.toList.map (·.key)=l.map Pc.val
  vals:∀ x∈q.es.toList,x.val=.bool true
theorem CInv.push {l:List Pc} {p:Pc} {sv sv2:Value} {bm clk:Nat} {es:Array MapEntry} {Hr Hr2:Hp} (h:CInv l ⟨sv,bm,es,clk,Hr⟩) (hr:bA_ 73 10 sv2 (l.length+1) (l.flatMap Pc.cells++p.cells) Hr2):CInv (l++[p]) ⟨sv2,bm,es.push ⟨p.val,.bool true,clk⟩,clk+1,Hr2⟩:=by
 refine⟨?_,?_,?_⟩
 ·simpa [List.flatMap_append] using hr
 ·have:=h.keys
  simp only at this
  simp[this]
 intro x hx
 simp only[Array.toList_push,List.mem_append,List.mem_singleton]at hx
 rcases hx with hx|rfl
 ·exact h.vals x hx
 rfl
end Go.Proofs.YtaffcjgphlhppaaGreatDoor
namespace Go.Proofs.YtaffcjgphlhppaaGreatDoor
open Go Go.Sx Go.Proofs
attribute [local irreducible] Code.wp wpList wpAnyH
open Go.Vs
theorem sE_:hy_ Tryz.prog 126 [(0,1),(1,1),(2,1)] [.int .i64 0,.slice none 0 0,.map none]:=⟨_,Tryz.zeroValue126,Tryz.runUnderlying126,fun w=>by simp[aq_,Tryz.sizeOf22,Tryz.sizeOf124]⟩
theorem kB_ (frm:Int):Tri Tryz.prog 58 #[.int .i64 frm] [] [] (fun x:Nat×Nat=>zp_ x.1 0) (fun x=>collH x.1 frm ⟨.slice none 0 0,x.2,#[],0,[]⟩) (fun _=>[]):=by
  refine t_ Tryz.func58 rfl rfl Tryz.ntmps58 rfl fun v0=>?_
  refine Zz 8 ?_
  refine da_ rfl fun b1=>d_ (K_ sE_ rfl rfl) rfl (ag_ rfl rfl fun b2=>Zz 4 ?_)
  exact J_ Tryz.results58 (b2,b1) rfl (F:=[]) (.refl _) zt
def kF (b kb:Nat):Fct:=by_ b (.cells [zp_ kb 0].toArray 121 (0,0))
def lFn (b bk:Nat):Value:=.func (.func 118) #[] #[zp_ b 0,zp_ bk 0]
def lF (b bk:Nat):Fct:=by_ b (.cells [lFn b bk].toArray 127 (0,0))
def rFn (b bk:Nat):Value:=.func (.func 119) #[] #[zp_ bk 0,zp_ b 0]
def rcF (b bk:Nat):Fct:=by_ b (.cells [rFn b bk].toArray 127 (0,0))
theorem sJ_ (kb:Nat):Tri Tryz.prog 60 #[zp_ kb 0] [] [] (fun x:Nat×Nat×Nat=>.tuple #[lFn x.2.1 x.1,rFn x.2.2 x.1]) (fun _=>[]) (fun x=>[kF x.1 kb,lF x.2.1 x.1,rcF x.2.2 x.1]):=by
  refine t_ Tryz.func60 rfl rfl Tryz.ntmps60 rfl fun v0=>?_
  refine Zz 2 ?_
  refine ag_ rfl rfl fun b1=>C_ Tryz.zeroValue127 rfl fun b2=>C_ Tryz.zeroValue127 rfl fun b3=>Zz 4 ?_
  refine d_ (bI_ rfl rfl) rfl (w_ 1 Tryz.sizeOf127 rfl rfl rfl rfl rfl rfl (Zz 4 ?_))
  refine d_ (bI_ rfl rfl) rfl (w_ 0 Tryz.sizeOf127 rfl rfl rfl rfl rfl rfl (Zz 4 ?_))
  refine n_ 2 [0,1] zk zs (Zz 3 ?_)
  refine i_ 2 rfl zk (w_ 1 Tryz.sizeOf127 rfl rfl rfl rfl rfl rfl (Zz 3 ?_))
  refine i_ 3 rfl zk (w_ 0 Tryz.sizeOf127 rfl rfl rfl rfl rfl rfl (Zz 6 ?_))
  refine ky_ 0 rfl ?_
  refine ky_ 0 rfl ?_
  refine ky_ 0 rfl ?_
  exact retG (b1,b2,b3) (fun a v h1 h2 h=>sU_ Tryz.results60 Tryz.isAgg127 Tryz.isAgg127 h1 rfl rfl (kz_ (cs:=[lFn b2 b1]) 0 h.2.1 rfl) (kz_ (cs:=[rFn b3 b1]) 0 h.2.2.1 rfl)) (F:=[]) (.refl _) zf
end Go.Proofs.YtaffcjgphlhppaaGreatDoor
namespace Go.Proofs.YtaffcjgphlhppaaGreatDoor
open Go Go.Sx Go.Proofs
attribute [local irreducible] Code.wp wpList wpAnyH
open Go.Vs
theorem Con.drop_at {ps:List Con} {p:Con} {i:Nat} (hp:ps[i]? = some p):ps.drop i=p::ps.drop (i+1):=by
  have hi:=(List.getElem?_eq_some_iff.1 hp).1
  rw[List.getElem?_eq_getElem hi]at hp
  simp only[Option.some.injEq]at hp
  subst hp
  exact List.drop_eq_getElem_cons hi
end Go.Proofs.YtaffcjgphlhppaaGreatDoor
