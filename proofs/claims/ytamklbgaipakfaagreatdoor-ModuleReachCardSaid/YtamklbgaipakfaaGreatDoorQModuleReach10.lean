/-
  Part of the proof of the law ModuleReach over this seat: the small logic, the data, the contracts of functions (no condition).
-/
import Derived.Test.YtamklbgaipakfaaGreatDoorQModuleReach9
import Derived.Test.YtamklbgaipakfaaGreatDoorQModuleReach8
import Derived.Test.YtamklbgaipakfaaGreatDoorQModuleReach2
import Derived.Test.YtamklbgaipakfaaGreatDoorProg
import Derived.Lib.ItoaMem
import Derived.Laws.IdiomStrings
set_option linter.unusedVariables false
set_option linter.unusedSimpArgs false
set_option linter.unusedSectionVars false
set_option maxHeartbeats 1000000
namespace Go.Proofs.YtamklbgaipakfaaGreatDoor
open Go Go.Sx Go.Proofs
attribute [local irreducible] Code.wp wpList wpAnyH
open Go.Vs
theorem hR_:∀ (m:Nat) (c:Con),c.sz≤m→c.ok→c.sz≤1000→Tri Tryz.prog 222 #[Con.val c] [] [Con.memF c] (fun _:Unit=>.int .i64 (c.sz:Int)) (fun _=>[]) (fun _=>[]):=by
 intro m
 induction m with
 | zero=>intro c h;have:=c.sz_pos;omega
 | succ m ih =>
   intro c hm hok hz
   have hpl:=Con.ok_len hok
   refine o_ Tryz.func222 rfl rfl Tryz.ntmps222 rfl fun v0=>?_
   refine Zz 2 ?_
   refine ah_ rfl rfl fun b1=>Zz 15 ?_
   have hsz:=Con.sz_eq c
   refine aN_ [(1,zp_ b1 0),(3,.int .i64 1),(4,.int .i64 ((0:Nat):Int))] zl ?_
   refine aT_ (ι:={z:Nat // z≤c.parts.length}) (fun z=>[(1,zp_ b1 0),(3,.int .i64 ((1+Con.sz.szs (c.parts.take z.1):Nat):Int)),(4,.int .i64 (z.1:Int))]) (fun _=>_) (fun _=>_) (fun z=>c.parts.length - z.1) ⟨0,by simp⟩ ?_
   rintro ⟨i,hi⟩
   dsimp only
   have hle:=Con.szs_take_le c.parts i
   refine aN_ [(1,zp_ b1 0),(3,.int .i64 ((1+Con.sz.szs (c.parts.take i):Nat):Int)),(4,.int .i64 (i:Int))] zl ?_
   refine Zi 7 (fun hr1=>?_) fun hr1=>?_
   · skip
     refine Zz 12 ?_
     exact G_ Tryz.results222 () (Y_ rfl (by rw[hsz,List.take_of_length_le (by omega)])) f_ zt
   · skip
     obtain⟨hlx1,x1,hx1,hmx1⟩:=zge (show i<List.length (Con.parts c) by omega)
     have hsp:=Con.sz_part hmx1
     have hle2:=Con.szs_take_le c.parts (i+1)
     rw[Con.szs_step hx1]at hle2
     refine Zz 12 ?_
     refine c_ (T_ B_ g_ rfl rfl (fun v _ h=>J_ (n:=5) Con.cells_len (by decide) (by exact ((Con.mem_iff c v).1 h.1).1) hx1) (by omega) (by first|omega|(simp;done))) rfl ?_
     refine c_ (al_ (ad:=(Con.ad c)) (us:=Con.cells x1) w_ g_ rfl (fun v _ h=>by exact ((Con.mem_iff c v).1 h.1).1) (Con.cells_len _) (H_ Con.cells_len hx1)) rfl (i_ (ih x1 (by omega) (Con.ok_part hok hmx1) (by omega)) rfl f_ (fun v _ h=>by exact⟨(Con.mem_part (c:=c) h.1 hmx1),trivial⟩) rfl fun _=>Zz 10 ?_)
     have hst:=Con.szs_step hx1
     exact R_ ⟨i+1,hlx1⟩ (by dsimp only;omega) ⟨rfl,(Y_ rfl (by dsimp only;omega)),rfl,trivial⟩ (.refl _) zh
theorem qw_:∀ (m:Nat) (c:Con),c.sz≤m→c.ok→c.sz≤1000→Tri Tryz.prog 226 #[Con.val c] [] [Con.memF c] (fun _:Unit=>.int .i64 (c.dep:Int)) (fun _=>[]) (fun _=>[]):=by
 intro m
 induction m with
 | zero=>intro c h;have:=c.sz_pos;omega
 | succ m ih =>
   intro c hm hok hz
   have hpl:=Con.ok_len hok
   refine o_ Tryz.func226 rfl rfl Tryz.ntmps226 rfl fun v0=>?_
   refine Zz 2 ?_
   refine ah_ rfl rfl fun b1=>Zz 15 ?_
   refine aN_ [(1,zp_ b1 0),(3,.int .i64 0),(4,.int .i64 ((0:Nat):Int))] zl ?_
   refine aT_ (ι:={z:Nat // z≤c.parts.length}) (fun z=>[(1,zp_ b1 0),(3,.int .i64 (Con.dep.deps (c.parts.take z.1):Int)),(4,.int .i64 (z.1:Int))]) (fun _=>_) (fun _=>_) (fun z=>c.parts.length - z.1) ⟨0,by simp⟩ ?_
   rintro ⟨i,hi⟩
   dsimp only
   refine aN_ [(1,zp_ b1 0),(3,.int .i64 (Con.dep.deps (c.parts.take i):Int)),(4,.int .i64 (i:Int))] zl ?_
   refine Zi 7 (fun hr1=>?_) fun hr1=>?_
   · skip
     refine Zz 12 ?_
     exact G_ Tryz.results226 () (Y_ rfl (by rw[Con.dep_eq,List.take_of_length_le (by omega)])) f_ zt
   · skip
     obtain⟨hlx1,x1,hx1,hmx1⟩:=zge (show i<List.length (Con.parts c) by omega)
     have hsp:=Con.sz_part hmx1
     have hds:=Con.dep_sz _ x1 (Nat.le_refl _)
     refine Zz 12 ?_
     refine c_ (T_ B_ g_ rfl rfl (fun v _ h=>J_ (n:=5) Con.cells_len (by decide) (by exact ((Con.mem_iff c v).1 h.1).1) hx1) (by omega) (by first|omega|(simp;done))) rfl ?_
     refine c_ (al_ (ad:=(Con.ad c)) (us:=Con.cells x1) w_ g_ rfl (fun v _ h=>by exact ((Con.mem_iff c v).1 h.1).1) (Con.cells_len _) (H_ Con.cells_len hx1)) rfl (i_ (ih x1 (by omega) (Con.ok_part hok hmx1) (by omega)) rfl f_ (fun v _ h=>by exact⟨(Con.mem_part (c:=c) h.1 hmx1),trivial⟩) rfl fun _=>Zz 1 ?_)
     refine c_ (rz_ rfl rfl) rfl (Zz 9 ?_)
     have hst:=Con.deps_step hx1
     exact R_ ⟨i+1,hlx1⟩ (by dsimp only;omega) ⟨rfl,(Y_ rfl (by dsimp only;rw[hst];split<;>omega)),rfl,trivial⟩ (.refl _) zh
theorem qu_ (c:Con):Fn0 Tryz.prog 265 #[Con.val c] (.bool c.shapeS):=by
 refine o_ Tryz.func265 rfl rfl Tryz.ntmps265 rfl fun v0=>?_
 refine Zz 2 ?_
 refine ah_ rfl rfl fun b1=>Zz 7 ?_
 refine s_ (V_ rfl rfl) rfl fun r1 hr1=>Zz 1 ?_
 refine as_ 4 (((Con.lo c)==0)&&((Con.hi c)==0)) (fun r=>[(0,Con.val c),(1,zp_ b1 0),(2,.bool false),(11,.bool r)]) ?_ fun r2 hr2=>?_
 ·cases r1
  ·have qr2:=hr1
   replace hr1:=znb hr1
   refine Zz 6 ?_
   exact met ⟨rfl,rfl,rfl,(l_ rfl (jaf qr2)),trivial⟩
  have qr2:=hr1
  replace hr1:=zeb hr1
  refine Zz 5 ?_
  refine s_ (V_ rfl rfl) rfl fun r3 hr3=>Zz 3 ?_
  exact met ⟨rfl,rfl,rfl,(l_ rfl (jat qr2 hr3)),trivial⟩
 refine Zi 14 (fun hr4=>?_) fun hr4=>?_
 ·refine Zi 5 (fun hr5=>?_) fun hr5=>?_
  ·refine Zi 7 (fun hr6=>?_) fun hr6=>?_
   ·refine Zi 5 (fun hr7=>?_) fun hr7=>?_
    ·refine Zi 6 (fun hr8=>?_) fun hr8=>?_
     ·refine Zi 6 (fun hr9=>?_) fun hr9=>?_
      ·refine Zi 6 (fun hr10=>?_) fun hr10=>?_
       ·refine Zz 12 ?_
        exact G_ eS_ () (l_ rfl (by unfold Con.shapeS;subst_vars;simp[*])) f_ zt
       refine Zz 9 ?_
       refine s_ (V_ rfl rfl) rfl fun r11 hr11=>Zz 1 ?_
       refine as_ 4 (((List.length (Con.parts c):Int)==0)&&(decide ((-1099511627776)≤(Con.lo c)))) (fun r=>[(0,Con.val c),(1,zp_ b1 0),(2,.bool false),(11,.bool r2),(3,.bool r2),(12,zp_ b1 0),(13,.int .i64 (Con.kind c)),(15,.bool false),(14,.bool false),(16,.bool false),(30,.bool false),(29,.bool false),(31,.bool false),(40,.bool false),(39,.bool false),(60,.bool false),(59,.bool false),(69,.bool true),(68,.bool true),(78,.bool r)]) ?_ fun r12 hr12=>?_
       ·cases r11
        ·have qr12:=hr11
         replace hr11:=znb hr11
         refine Zz 6 ?_
         exact met ⟨rfl,rfl,rfl,rfl,rfl,rfl,rfl,rfl,rfl,rfl,rfl,rfl,rfl,rfl,rfl,rfl,rfl,rfl,rfl,(l_ rfl (jaf qr12)),trivial⟩
        have qr12:=hr11
        replace hr11:=zeb hr11
        refine Zz 5 ?_
        refine s_ (gc_ rfl rfl) rfl fun r13 hr13=>Zz 3 ?_
        exact met ⟨rfl,rfl,rfl,rfl,rfl,rfl,rfl,rfl,rfl,rfl,rfl,rfl,rfl,rfl,rfl,rfl,rfl,rfl,rfl,(l_ rfl (jat qr12 hr13)),trivial⟩
       refine Zz 1 ?_
       refine as_ 6 (((((List.length (Con.parts c):Int)==0)&&(decide ((-1099511627776)≤(Con.lo c)))))&&(decide ((Con.lo c)≤(Con.hi c)))) (fun r=>[(0,Con.val c),(1,zp_ b1 0),(2,.bool false),(11,.bool r2),(3,.bool r2),(12,zp_ b1 0),(13,.int .i64 (Con.kind c)),(15,.bool false),(14,.bool false),(16,.bool false),(30,.bool false),(29,.bool false),(31,.bool false),(40,.bool false),(39,.bool false),(60,.bool false),(59,.bool false),(69,.bool true),(68,.bool true),(85,.bool r)]) ?_ fun r14 hr14=>?_
       ·cases r12
        ·have qr14:=hr12
         simp at hr12
         refine Zz 8 ?_
         exact met ⟨rfl,rfl,rfl,rfl,rfl,rfl,rfl,rfl,rfl,rfl,rfl,rfl,rfl,rfl,rfl,rfl,rfl,rfl,rfl,(l_ rfl (jaf qr14)),trivial⟩
        have qr14:=hr12
        simp at hr12
        refine Zz 9 ?_
        refine s_ (du_ rfl rfl) rfl fun r15 hr15=>Zz 3 ?_
        exact met ⟨rfl,rfl,rfl,rfl,rfl,rfl,rfl,rfl,rfl,rfl,rfl,rfl,rfl,rfl,rfl,rfl,rfl,rfl,rfl,(l_ rfl (jat qr14 hr15)),trivial⟩
       refine Zz 1 ?_
       refine as_ 4 (((((((List.length (Con.parts c):Int)==0)&&(decide ((-1099511627776)≤(Con.lo c)))))&&(decide ((Con.lo c)≤(Con.hi c)))))&&(decide ((Con.hi c)≤1099511627776))) (fun r=>[(0,Con.val c),(1,zp_ b1 0),(2,.bool false),(11,.bool r2),(3,.bool r2),(12,zp_ b1 0),(13,.int .i64 (Con.kind c)),(15,.bool false),(14,.bool false),(16,.bool false),(30,.bool false),(29,.bool false),(31,.bool false),(40,.bool false),(39,.bool false),(60,.bool false),(59,.bool false),(69,.bool true),(68,.bool true),(90,.bool r)]) ?_ fun r16 hr16=>?_
       ·cases r14
        ·have qr16:=hr14
         simp at hr14
         refine Zz 6 ?_
         exact met ⟨rfl,rfl,rfl,rfl,rfl,rfl,rfl,rfl,rfl,rfl,rfl,rfl,rfl,rfl,rfl,rfl,rfl,rfl,rfl,(l_ rfl (jaf qr16)),trivial⟩
        have qr16:=hr14
        simp at hr14
        refine Zz 5 ?_
        refine s_ (du_ rfl rfl) rfl fun r17 hr17=>Zz 3 ?_
        exact met ⟨rfl,rfl,rfl,rfl,rfl,rfl,rfl,rfl,rfl,rfl,rfl,rfl,rfl,rfl,rfl,rfl,rfl,rfl,rfl,(l_ rfl (jat qr16 hr17)),trivial⟩
       refine Zz 4 ?_
       exact G_ eS_ () (l_ rfl (by unfold Con.shapeS;subst_vars;simp[*])) f_ zt
      refine Zz 8 ?_
      refine as_ 5 (((((Con.lo c)==0)&&((Con.hi c)==0)))&&((List.length (Con.parts c):Int)==1)) (fun r=>[(0,Con.val c),(1,zp_ b1 0),(2,.bool false),(11,.bool r2),(3,.bool r2),(12,zp_ b1 0),(13,.int .i64 (Con.kind c)),(15,.bool false),(14,.bool false),(16,.bool false),(30,.bool false),(29,.bool false),(31,.bool false),(40,.bool false),(39,.bool false),(60,.bool true),(59,.bool true),(67,.bool r)]) ?_ fun r18 hr18=>?_
      ·cases r2
       ·have qr18:=hr2
        simp at hr2
        refine Zz 7 ?_
        exact met ⟨rfl,rfl,rfl,rfl,rfl,rfl,rfl,rfl,rfl,rfl,rfl,rfl,rfl,rfl,rfl,rfl,rfl,(l_ rfl (jaf qr18)),trivial⟩
       have qr18:=hr2
       simp at hr2
       refine Zz 7 ?_
       refine s_ (V_ rfl rfl) rfl fun r19 hr19=>Zz 3 ?_
       exact met ⟨rfl,rfl,rfl,rfl,rfl,rfl,rfl,rfl,rfl,rfl,rfl,rfl,rfl,rfl,rfl,rfl,rfl,(l_ rfl (jat qr18 hr19)),trivial⟩
      refine Zz 4 ?_
      exact G_ eS_ () (l_ rfl (by unfold Con.shapeS;subst_vars;simp[*])) f_ zt
     refine Zz 8 ?_
     refine as_ 4 (((((Con.lo c)==0)&&((Con.hi c)==0)))&&((Con.name c)==[])) (fun r=>[(0,Con.val c),(1,zp_ b1 0),(2,.bool false),(11,.bool r2),(3,.bool r2),(12,zp_ b1 0),(13,.int .i64 (Con.kind c)),(15,.bool false),(14,.bool false),(16,.bool false),(30,.bool false),(29,.bool false),(31,.bool false),(40,.bool true),(39,.bool true),(46,.bool r)]) ?_ fun r20 hr20=>?_
     ·cases r2
      ·have qr20:=hr2
       simp at hr2
       refine Zz 6 ?_
       exact met ⟨rfl,rfl,rfl,rfl,rfl,rfl,rfl,rfl,rfl,rfl,rfl,rfl,rfl,rfl,rfl,(l_ rfl (jaf qr20)),trivial⟩
      have qr20:=hr2
      simp at hr2
      refine Zz 5 ?_
      refine s_ (dK_ rfl rfl) rfl fun r21 hr21=>Zz 3 ?_
      exact met ⟨rfl,rfl,rfl,rfl,rfl,rfl,rfl,rfl,rfl,rfl,rfl,rfl,rfl,rfl,rfl,(l_ rfl (jat qr20 hr21)),trivial⟩
     refine Zz 1 ?_
     refine as_ 5 (((((((Con.lo c)==0)&&((Con.hi c)==0)))&&((Con.name c)==[])))&&(decide (2≤(List.length (Con.parts c):Int)))) (fun r=>[(0,Con.val c),(1,zp_ b1 0),(2,.bool false),(11,.bool r2),(3,.bool r2),(12,zp_ b1 0),(13,.int .i64 (Con.kind c)),(15,.bool false),(14,.bool false),(16,.bool false),(30,.bool false),(29,.bool false),(31,.bool false),(40,.bool true),(39,.bool true),(52,.bool r)]) ?_ fun r22 hr22=>?_
     ·cases r20
      ·have qr22:=hr20
       simp at hr20
       refine Zz 7 ?_
       exact met ⟨rfl,rfl,rfl,rfl,rfl,rfl,rfl,rfl,rfl,rfl,rfl,rfl,rfl,rfl,rfl,(l_ rfl (jaf qr22)),trivial⟩
      have qr22:=hr20
      simp at hr20
      refine Zz 7 ?_
      refine s_ (gc_ rfl rfl) rfl fun r23 hr23=>Zz 3 ?_
      exact met ⟨rfl,rfl,rfl,rfl,rfl,rfl,rfl,rfl,rfl,rfl,rfl,rfl,rfl,rfl,rfl,(l_ rfl (jat qr22 hr23)),trivial⟩
     refine Zz 1 ?_
     refine as_ 5 (((((((((Con.lo c)==0)&&((Con.hi c)==0)))&&((Con.name c)==[])))&&(decide (2≤(List.length (Con.parts c):Int)))))&&(decide ((List.length (Con.parts c):Int)≤8))) (fun r=>[(0,Con.val c),(1,zp_ b1 0),(2,.bool false),(11,.bool r2),(3,.bool r2),(12,zp_ b1 0),(13,.int .i64 (Con.kind c)),(15,.bool false),(14,.bool false),(16,.bool false),(30,.bool false),(29,.bool false),(31,.bool false),(40,.bool true),(39,.bool true),(58,.bool r)]) ?_ fun r24 hr24=>?_
     ·cases r22
      ·have qr24:=hr22
       simp at hr22
       refine Zz 7 ?_
       exact met ⟨rfl,rfl,rfl,rfl,rfl,rfl,rfl,rfl,rfl,rfl,rfl,rfl,rfl,rfl,rfl,(l_ rfl (jaf qr24)),trivial⟩
      have qr24:=hr22
      simp at hr22
      refine Zz 7 ?_
      refine s_ (du_ rfl rfl) rfl fun r25 hr25=>Zz 3 ?_
      exact met ⟨rfl,rfl,rfl,rfl,rfl,rfl,rfl,rfl,rfl,rfl,rfl,rfl,rfl,rfl,rfl,(l_ rfl (jat qr24 hr25)),trivial⟩
     refine Zz 4 ?_
     exact G_ eS_ () (l_ rfl (by unfold Con.shapeS;subst_vars;simp[*])) f_ zt
    refine Zz 8 ?_
    refine as_ 5 (((((Con.lo c)==0)&&((Con.hi c)==0)))&&((List.length (Con.parts c):Int)==0)) (fun r=>[(0,Con.val c),(1,zp_ b1 0),(2,.bool false),(11,.bool r2),(3,.bool r2),(12,zp_ b1 0),(13,.int .i64 (Con.kind c)),(15,.bool false),(14,.bool false),(16,.bool false),(30,.bool false),(29,.bool true),(31,.bool true),(38,.bool r)]) ?_ fun r26 hr26=>?_
    ·cases r2
     ·have qr26:=hr2
      simp at hr2
      refine Zz 7 ?_
      exact met ⟨rfl,rfl,rfl,rfl,rfl,rfl,rfl,rfl,rfl,rfl,rfl,rfl,rfl,(l_ rfl (jaf qr26)),trivial⟩
     have qr26:=hr2
     simp at hr2
     refine Zz 7 ?_
     refine s_ (V_ rfl rfl) rfl fun r27 hr27=>Zz 3 ?_
     exact met ⟨rfl,rfl,rfl,rfl,rfl,rfl,rfl,rfl,rfl,rfl,rfl,rfl,rfl,(l_ rfl (jat qr26 hr27)),trivial⟩
    refine Zz 4 ?_
    exact G_ eS_ () (l_ rfl (by unfold Con.shapeS;subst_vars;simp[*])) f_ zt
   refine Zz 11 ?_
   refine as_ 5 (((((Con.lo c)==0)&&((Con.hi c)==0)))&&((List.length (Con.parts c):Int)==0)) (fun r=>[(0,Con.val c),(1,zp_ b1 0),(2,.bool false),(11,.bool r2),(3,.bool r2),(12,zp_ b1 0),(13,.int .i64 (Con.kind c)),(15,.bool false),(14,.bool false),(16,.bool false),(30,.bool true),(29,.bool true),(38,.bool r)]) ?_ fun r28 hr28=>?_
   ·cases r2
    ·have qr28:=hr2
     simp at hr2
     refine Zz 7 ?_
     exact met ⟨rfl,rfl,rfl,rfl,rfl,rfl,rfl,rfl,rfl,rfl,rfl,rfl,(l_ rfl (jaf qr28)),trivial⟩
    have qr28:=hr2
    simp at hr2
    refine Zz 7 ?_
    refine s_ (V_ rfl rfl) rfl fun r29 hr29=>Zz 3 ?_
    exact met ⟨rfl,rfl,rfl,rfl,rfl,rfl,rfl,rfl,rfl,rfl,rfl,rfl,(l_ rfl (jat qr28 hr29)),trivial⟩
   refine Zz 4 ?_
   exact G_ eS_ () (l_ rfl (by unfold Con.shapeS;subst_vars;simp[*])) f_ zt
  refine Zz 8 ?_
  refine as_ 4 (((((Con.lo c)==0)&&((Con.hi c)==0)))&&((Con.name c)==[])) (fun r=>[(0,Con.val c),(1,zp_ b1 0),(2,.bool false),(11,.bool r2),(3,.bool r2),(12,zp_ b1 0),(13,.int .i64 (Con.kind c)),(15,.bool false),(14,.bool true),(16,.bool true),(22,.bool r)]) ?_ fun r30 hr30=>?_
  ·cases r2
   ·have qr30:=hr2
    simp at hr2
    refine Zz 6 ?_
    exact met ⟨rfl,rfl,rfl,rfl,rfl,rfl,rfl,rfl,rfl,rfl,(l_ rfl (jaf qr30)),trivial⟩
   have qr30:=hr2
   simp at hr2
   refine Zz 5 ?_
   refine s_ (dK_ rfl rfl) rfl fun r31 hr31=>Zz 3 ?_
   exact met ⟨rfl,rfl,rfl,rfl,rfl,rfl,rfl,rfl,rfl,rfl,(l_ rfl (jat qr30 hr31)),trivial⟩
  refine Zz 1 ?_
  refine as_ 5 (((((((Con.lo c)==0)&&((Con.hi c)==0)))&&((Con.name c)==[])))&&((List.length (Con.parts c):Int)==0)) (fun r=>[(0,Con.val c),(1,zp_ b1 0),(2,.bool false),(11,.bool r2),(3,.bool r2),(12,zp_ b1 0),(13,.int .i64 (Con.kind c)),(15,.bool false),(14,.bool true),(16,.bool true),(28,.bool r)]) ?_ fun r32 hr32=>?_
  ·cases r30
   ·have qr32:=hr30
    simp at hr30
    refine Zz 7 ?_
    exact met ⟨rfl,rfl,rfl,rfl,rfl,rfl,rfl,rfl,rfl,rfl,(l_ rfl (jaf qr32)),trivial⟩
   have qr32:=hr30
   simp at hr30
   refine Zz 7 ?_
   refine s_ (V_ rfl rfl) rfl fun r33 hr33=>Zz 3 ?_
   exact met ⟨rfl,rfl,rfl,rfl,rfl,rfl,rfl,rfl,rfl,rfl,(l_ rfl (jat qr32 hr33)),trivial⟩
  refine Zz 4 ?_
  exact G_ eS_ () (l_ rfl (by unfold Con.shapeS;subst_vars;simp[*])) f_ zt
 refine Zz 11 ?_
 refine as_ 4 (((((Con.lo c)==0)&&((Con.hi c)==0)))&&((Con.name c)==[])) (fun r=>[(0,Con.val c),(1,zp_ b1 0),(2,.bool false),(11,.bool r2),(3,.bool r2),(12,zp_ b1 0),(13,.int .i64 (Con.kind c)),(15,.bool true),(14,.bool true),(22,.bool r)]) ?_ fun r34 hr34=>?_
 ·cases r2
  ·have qr34:=hr2
   simp at hr2
   refine Zz 6 ?_
   exact met ⟨rfl,rfl,rfl,rfl,rfl,rfl,rfl,rfl,rfl,(l_ rfl (jaf qr34)),trivial⟩
  have qr34:=hr2
  simp at hr2
  refine Zz 5 ?_
  refine s_ (dK_ rfl rfl) rfl fun r35 hr35=>Zz 3 ?_
  exact met ⟨rfl,rfl,rfl,rfl,rfl,rfl,rfl,rfl,rfl,(l_ rfl (jat qr34 hr35)),trivial⟩
 refine Zz 1 ?_
 refine as_ 5 (((((((Con.lo c)==0)&&((Con.hi c)==0)))&&((Con.name c)==[])))&&((List.length (Con.parts c):Int)==0)) (fun r=>[(0,Con.val c),(1,zp_ b1 0),(2,.bool false),(11,.bool r2),(3,.bool r2),(12,zp_ b1 0),(13,.int .i64 (Con.kind c)),(15,.bool true),(14,.bool true),(28,.bool r)]) ?_ fun r36 hr36=>?_
 ·cases r34
  ·have qr36:=hr34
   simp at hr34
   refine Zz 7 ?_
   exact met ⟨rfl,rfl,rfl,rfl,rfl,rfl,rfl,rfl,rfl,(l_ rfl (jaf qr36)),trivial⟩
  have qr36:=hr34
  simp at hr34
  refine Zz 7 ?_
  refine s_ (V_ rfl rfl) rfl fun r37 hr37=>Zz 3 ?_
  exact met ⟨rfl,rfl,rfl,rfl,rfl,rfl,rfl,rfl,rfl,(l_ rfl (jat qr36 hr37)),trivial⟩
 refine Zz 4 ?_
 exact G_ eS_ () (l_ rfl (by unfold Con.shapeS;subst_vars;simp[*])) f_ zt
theorem qv_ (c:Con):Fn0 Tryz.prog 266 #[Con.val c] (.bool c.namedS):=by
 refine o_ Tryz.func266 rfl rfl Tryz.ntmps266 rfl fun v0=>?_
 refine Zz 2 ?_
 refine ah_ rfl rfl fun b1=>Zi 14 (fun hr1=>?_) fun hr1=>?_
 ·refine Zi 6 (fun hr2=>?_) fun hr2=>?_
  ·refine Zi 5 (fun hr3=>?_) fun hr3=>?_
   ·refine Zi 6 (fun hr4=>?_) fun hr4=>?_
    ·refine Zz 12 ?_
     exact G_ oy_ () (l_ rfl (by unfold Con.namedS;subst_vars;simp[*])) f_ zt
    refine Zz 8 ?_
    refine N_ (he_ _) rfl f_ zt rfl fun r5 hr5=>Zz 4 ?_
    exact G_ oy_ () (l_ rfl (by unfold Con.namedS;subst_vars;simp[*])) f_ zt
   refine Zz 8 ?_
   refine N_ (fO_ _) rfl f_ zt rfl fun r6 hr6=>Zz 4 ?_
   exact G_ oy_ () (l_ rfl (by unfold Con.namedS;subst_vars;simp[*])) f_ zt
  refine Zz 11 ?_
  refine N_ (fO_ _) rfl f_ zt rfl fun r7 hr7=>Zz 4 ?_
  exact G_ oy_ () (l_ rfl (by unfold Con.namedS;subst_vars;simp[*])) f_ zt
 refine Zz 11 ?_
 refine N_ (fO_ _) rfl f_ zt rfl fun r8 hr8=>Zz 4 ?_
 exact G_ oy_ () (l_ rfl (by unfold Con.namedS;subst_vars;simp[*])) f_ zt
theorem rR_:∀ (m:Nat) (c:Con),c.sz≤m→c.ok→Tri Tryz.prog 227 #[Con.val c] [] [Con.memF c] (fun _:Unit=>.int .i64 c.firstErr) (fun _=>[]) (fun _=>[]):=by
 intro m
 induction m with
 | zero=>intro c h;have:=c.sz_pos;omega
 | succ m ih =>
   intro c hm hok
   have hpl:=Con.ok_len hok
   refine o_ Tryz.func227 rfl rfl Tryz.ntmps227 rfl fun v0=>?_
   refine Zz 2 ?_
   refine ah_ rfl rfl fun b1=>Zz 7 ?_
   refine N_ (qu_ c) rfl f_ zt rfl fun r1 hr1=>c_ (aE_ rfl) rfl (Zz 2 ?_)
   cases r1
   · skip
     refine Zz 7 ?_
     exact G_ Tryz.results227 () (Y_ rfl (by rw[Con.firstErr_eq,Con.fieldErr_ref];simp[*])) f_ zt
   · skip
     refine Zz 7 ?_
     refine N_ (qv_ c) rfl f_ zt rfl fun r2 hr2=>c_ (aE_ rfl) rfl (Zz 2 ?_)
     cases r2
     · skip
       refine Zz 7 ?_
       exact G_ Tryz.results227 () (Y_ rfl (by rw[Con.firstErr_eq,Con.fieldErr_ref];simp[*])) f_ zt
     · skip
       refine Zz 10 ?_
       have hfe:c.fieldErr=0:=by rw[Con.fieldErr_ref];simp[*]
       refine aN_ [(1,zp_ b1 0),(3,.int .i64 ((0:Nat):Int))] zl ?_
       refine aT_ (ι:={q:Nat // q≤c.parts.length∧Con.firstErr.firstErrs (c.parts.take q)=0}) (fun i=>[(1,zp_ b1 0),(3,.int .i64 (i.1:Int))]) (fun _=>_) (fun _=>_) (fun i=>c.parts.length - i.1) ⟨0,by simp,rfl⟩ ?_
       rintro ⟨i,hk⟩
       refine aN_ [(1,zp_ b1 0),(3,.int .i64 (i:Int))] zl ?_
       refine Zi 7 (fun hr3=>?_) fun hr3=>?_
       · skip
         refine Zz 11 ?_
         exact G_ Tryz.results227 () (Y_ rfl (by have:=hk.2;rw[List.take_of_length_le (by omega)]at this;rw[Con.firstErr_eq,if_pos hfe,this])) f_ zt
       · skip
         obtain⟨hlx1,x1,hx1,hmx1⟩:=zge (show i<List.length (Con.parts c) by omega)
         have hsp:=Con.sz_part hmx1
         refine Zz 12 ?_
         refine c_ (T_ B_ g_ rfl rfl (fun v _ h=>J_ (n:=5) Con.cells_len (by decide) (by exact ((Con.mem_iff c v).1 h.1).1) hx1) (by omega) (by first|omega|(simp;done))) rfl ?_
         refine c_ (al_ (ad:=(Con.ad c)) (us:=Con.cells x1) w_ g_ rfl (fun v _ h=>by exact ((Con.mem_iff c v).1 h.1).1) (Con.cells_len _) (H_ Con.cells_len hx1)) rfl (i_ (ih x1 (by omega) (Con.ok_part hok hmx1)) rfl f_ (fun v _ h=>by exact⟨(Con.mem_part (c:=c) h.1 hmx1),trivial⟩) rfl fun _=>Zi 6 (fun hr4=>?_) fun hr4=>?_)
         · skip
           refine Zz 11 ?_
           exact R_ ⟨i+1,hlx1,Con.firstErrs_step hk.2 hx1 (by assumption)⟩ (by simp;omega) zl (.refl _) zh
         · skip
           refine Zz 10 ?_
           exact G_ Tryz.results227 () (Y_ rfl (by rw[Con.firstErr_eq c,if_pos hfe,Con.firstErrs_first hk.2 hx1 (by assumption)])) f_ zt
theorem eY_ (c:Con) (hok:c.ok) (hz:c.sz≤1000):Tri Tryz.prog 162 #[Con.val c] [] [Con.memF c] (fun _:Unit=>.int .i64 c.check) (fun _=>[]) (fun _=>[]):=by
 refine o_ Tryz.func162 rfl rfl Tryz.ntmps162 rfl fun v0=>?_
 refine Zz 2 ?_
 refine ah_ rfl rfl fun b1=>Zz 7 ?_
 refine i_ (qw_ _ c (Nat.le_refl _) hok hz) rfl f_ zf rfl fun _=>?_
 refine Zi 0 (fun hr1=>?_) fun hr1=>?_
 ·refine Zz 4 ?_
  refine i_ (hR_ _ c (Nat.le_refl _) hok hz) rfl f_ zf rfl fun _=>ag_ rfl rfl ?_
  refine Zi 0 (fun hr2=>?_) fun hr2=>?_
  ·refine Zz 9 ?_
   refine i_ (rR_ _ c (Nat.le_refl _) hok) rfl f_ zf rfl fun _=>Zz 4 ?_
   exact G_ Tryz.results162 () (Y_ rfl (by rw[Con.check_ref,if_neg (by omega)])) f_ zt
  refine Zz 10 ?_
  exact G_ Tryz.results162 () (Y_ rfl (by rw[Con.check_ref,if_pos (by omega)])) f_ zt
 refine Zz 14 ?_
 exact G_ Tryz.results162 () (Y_ rfl (by rw[Con.check_ref,if_pos (by omega)])) f_ zt
theorem mx_ (c:Con):Fn0 Tryz.prog 159 #[Con.val c] (.bool c.empty):=by
 refine o_ Tryz.func159 rfl rfl Tryz.ntmps159 rfl fun v0=>?_
 refine Zz 2 ?_
 refine ah_ rfl rfl fun b1=>Zz 7 ?_
 refine s_ (V_ rfl rfl) rfl fun r1 hr1=>Zz 1 ?_
 refine as_ 4 (((Con.kind c)==0)&&((Con.name c)==[])) (fun r=>[(0,Con.val c),(1,zp_ b1 0),(2,.bool false),(10,.bool r)]) ?_ fun r2 hr2=>?_
 ·cases r1
  ·have qr2:=hr1
   replace hr1:=znb hr1
   refine Zz 6 ?_
   exact met ⟨rfl,rfl,rfl,(l_ rfl (jaf qr2)),trivial⟩
  have qr2:=hr1
  replace hr1:=zeb hr1
  refine Zz 5 ?_
  refine s_ (dK_ rfl rfl) rfl fun r3 hr3=>Zz 3 ?_
  exact met ⟨rfl,rfl,rfl,(l_ rfl (jat qr2 hr3)),trivial⟩
 refine Zz 1 ?_
 refine as_ 4 (((((Con.kind c)==0)&&((Con.name c)==[])))&&((Con.lo c)==0)) (fun r=>[(0,Con.val c),(1,zp_ b1 0),(2,.bool false),(15,.bool r)]) ?_ fun r4 hr4=>?_
 ·cases r2
  ·have qr4:=hr2
   simp at hr2
   refine Zz 6 ?_
   exact met ⟨rfl,rfl,rfl,(l_ rfl (jaf qr4)),trivial⟩
  have qr4:=hr2
  simp at hr2
  refine Zz 5 ?_
  refine s_ (V_ rfl rfl) rfl fun r5 hr5=>Zz 3 ?_
  exact met ⟨rfl,rfl,rfl,(l_ rfl (jat qr4 hr5)),trivial⟩
 refine Zz 1 ?_
 refine as_ 4 (((((((Con.kind c)==0)&&((Con.name c)==[])))&&((Con.lo c)==0)))&&((Con.hi c)==0)) (fun r=>[(0,Con.val c),(1,zp_ b1 0),(2,.bool false),(20,.bool r)]) ?_ fun r6 hr6=>?_
 ·cases r4
  ·have qr6:=hr4
   simp at hr4
   refine Zz 6 ?_
   exact met ⟨rfl,rfl,rfl,(l_ rfl (jaf qr6)),trivial⟩
  have qr6:=hr4
  simp at hr4
  refine Zz 5 ?_
  refine s_ (V_ rfl rfl) rfl fun r7 hr7=>Zz 3 ?_
  exact met ⟨rfl,rfl,rfl,(l_ rfl (jat qr6 hr7)),trivial⟩
 refine Zz 1 ?_
 refine as_ 5 (((((((((Con.kind c)==0)&&((Con.name c)==[])))&&((Con.lo c)==0)))&&((Con.hi c)==0)))&&((List.length (Con.parts c):Int)==0)) (fun r=>[(0,Con.val c),(2,.bool false),(26,.bool r)]) ?_ fun r8 hr8=>?_
 ·cases r6
  ·have qr8:=hr6
   simp at hr6
   refine Zz 7 ?_
   exact met ⟨rfl,rfl,(l_ rfl (jaf qr8)),trivial⟩
  have qr8:=hr6
  simp at hr6
  refine Zz 7 ?_
  refine s_ (V_ rfl rfl) rfl fun r9 hr9=>Zz 3 ?_
  exact met ⟨rfl,rfl,(l_ rfl (jat qr8 hr9)),trivial⟩
 refine Zz 4 ?_
 exact G_ Tryz.results159 () (l_ rfl (by unfold Con.empty;subst_vars;simp[*])) f_ zt
theorem hf_:∀ (m:Nat) (c:Con),c.sz≤m→c.ok→Tri Tryz.prog 163 #[Con.val c] [] [Con.memF c] (fun _:Unit=>.bool c.rbare) (fun _=>[]) (fun _=>[]):=by
 intro m
 induction m with
 | zero=>intro c h;have:=c.sz_pos;omega
 | succ m ih =>
   intro c hm hok
   have hpl:=Con.ok_len hok
   refine o_ Tryz.func163 rfl rfl Tryz.ntmps163 rfl fun v0=>?_
   refine Zz 2 ?_
   refine ah_ rfl rfl fun b1=>Zi 8 (fun hr1=>?_) fun hr1=>?_
   · skip
     refine Zi 10 (fun hr2=>?_) fun hr2=>?_
     · skip
       refine Zz 12 ?_
       refine aN_ [(1,zp_ b1 0),(3,.int .i64 ((0:Nat):Int))] zl ?_
       refine aT_ (ι:={q:Nat // q≤c.parts.length∧(c.parts.take q).any Con.rbare=false}) (fun i=>[(1,zp_ b1 0),(3,.int .i64 (i.1:Int))]) (fun _=>_) (fun _=>_) (fun i=>c.parts.length - i.1) ⟨0,by simp⟩ ?_
       rintro ⟨i,hk⟩
       refine aN_ [(1,zp_ b1 0),(3,.int .i64 (i:Int))] zl ?_
       refine Zi 7 (fun hr3=>?_) fun hr3=>?_
       · skip
         refine Zz 11 ?_
         exact G_ Tryz.results163 () (l_ rfl (by have:=hk.2;rw[List.take_of_length_le (by omega)]at this;rw[Con.rbare_eq,if_neg (by assumption),if_neg (by assumption),this])) f_ zt
       · skip
         obtain⟨hlx1,x1,hx1,hmx1⟩:=zge (show i<List.length (Con.parts c) by omega)
         have hsp:=Con.sz_part hmx1
         refine Zz 12 ?_
         refine c_ (T_ B_ g_ rfl rfl (fun v _ h=>J_ (n:=5) Con.cells_len (by decide) (by exact ((Con.mem_iff c v).1 h.1).1) hx1) (by omega) (by first|omega|(simp;done))) rfl ?_
         refine c_ (al_ (ad:=(Con.ad c)) (us:=Con.cells x1) w_ g_ rfl (fun v _ h=>by exact ((Con.mem_iff c v).1 h.1).1) (Con.cells_len _) (H_ Con.cells_len hx1)) rfl (N_ (ih x1 (by omega) (Con.ok_part hok hmx1)) rfl f_ (fun v _ h=>by exact⟨(Con.mem_part (c:=c) h.1 hmx1),trivial⟩) rfl fun r4 hr4=>Zz 2 ?_)
         cases r4
         · skip
           refine Zz 9 ?_
           exact R_ ⟨i+1,hlx1,by rw[List.take_add_one,hx1];simp only[Option.toList_some,List.any_append,hk.2];simp[*]⟩ (by simp;omega) zl (.refl _) zh
         · skip
           refine Zz 7 ?_
           exact G_ Tryz.results163 () (l_ rfl (by rw[Con.rbare_eq,if_neg (by assumption),if_neg (by assumption)];symm;exact List.any_eq_true.2 ⟨x1,hmx1,by assumption⟩)) f_ zt
     · skip
       refine Zz 9 ?_
       exact G_ Tryz.results163 () (l_ rfl (by rw[Con.rbare_eq];simp[*])) f_ zt
   · skip
     refine Zz 9 ?_
     exact G_ Tryz.results163 () (l_ rfl (by rw[Con.rbare_eq];simp[*])) f_ zt
theorem us_no {k:Int} (h:k<1∨9<k):(iP_[k.toNat]?).getD ⟨false,false,false,false,false,0,0⟩=⟨false,false,false,false,false,0,0⟩:=by
 rcases h with h|h
 ·have:k.toNat=0:=by omega
  rw[this];rfl
 have:iP_.length≤k.toNat:=by show 10≤k.toNat;omega
 rw[List.getElem?_eq_none this];rfl
theorem po_ (k:Int):Fn0 Tryz.prog 158 #[.int .i64 k] (.tuple #[.bool (us k).left,.bool (us k).right,.bool (us k).role,.bool (us k).a,.bool (us k).b,.int .i64 (us k).least,.int .i64 (us k).most]):=by
 refine o_ Tryz.func158 rfl rfl Tryz.ntmps158 rfl fun v0=>?_
 refine Zi 21 (fun hr1=>?_) fun hr1=>?_
 ·refine Zi 6 (fun hr2=>?_) fun hr2=>?_
  ·refine Zi 5 (fun hr3=>?_) fun hr3=>?_
   ·refine Zi 6 (fun hr4=>?_) fun hr4=>?_
    ·refine Zi 6 (fun hr5=>?_) fun hr5=>?_
     ·refine Zi 6 (fun hr6=>?_) fun hr6=>?_
      ·refine Zi 6 (fun hr7=>?_) fun hr7=>?_
       ·refine Zi 6 (fun hr8=>?_) fun hr8=>?_
        ·refine Zi 6 (fun hr9=>?_) fun hr9=>?_
         ·refine Zz 18 ?_
          exact kc_ dw_ () rfl rfl rfl rfl rfl rfl rfl (by unfold us;have:(iP_[k.toNat]?).getD ⟨false,false,false,false,false,0,0⟩=⟨false,false,false,false,false,0,0⟩:=us_no (by omega);rw[this]) f_ zt
         refine Zz 16 ?_
         exact kc_ dw_ () rfl rfl rfl rfl rfl rfl rfl (by subst k;rfl) f_ zt
        refine Zz 16 ?_
        exact kc_ dw_ () rfl rfl rfl rfl rfl rfl rfl (by subst k;rfl) f_ zt
       refine Zz 16 ?_
       exact kc_ dw_ () rfl rfl rfl rfl rfl rfl rfl (by subst k;rfl) f_ zt
      refine Zz 16 ?_
      exact kc_ dw_ () rfl rfl rfl rfl rfl rfl rfl (by subst k;rfl) f_ zt
     refine Zz 16 ?_
     exact kc_ dw_ () rfl rfl rfl rfl rfl rfl rfl (by subst k;rfl) f_ zt
    refine Zz 16 ?_
    exact kc_ dw_ () rfl rfl rfl rfl rfl rfl rfl (by subst k;rfl) f_ zt
   refine Zz 16 ?_
   exact kc_ dw_ () rfl rfl rfl rfl rfl rfl rfl (by subst k;rfl) f_ zt
  refine Zz 19 ?_
  exact kc_ dw_ () rfl rfl rfl rfl rfl rfl rfl (by subst k;rfl) f_ zt
 refine Zz 19 ?_
 exact kc_ dw_ () rfl rfl rfl rfl rfl rfl rfl (by subst k;rfl) f_ zt
theorem kd_ (x:Ax) (hok:x.ok) (hzl:x.left.sz≤1000) (hzr:x.right.sz≤1000):Tri Tryz.prog 81 #[Ax.val x] [] [Ax.memF x] (fun _:Unit=>.int .i64 x.check) (fun _=>[]) (fun _=>[]):=by
 refine o_ Tryz.func81 rfl rfl Tryz.ntmps81 rfl fun v0=>?_
 have h4:=hok.len
 have h5:=hok.cap
 refine Zz 2 ?_
 refine ah_ rfl rfl fun b1=>Zz 7 ?_
 refine i_ (po_ x.kind) rfl f_ zt rfl fun _=>?_
 rcases hu:us x.kind with⟨ul,ur,uo,ua,ub,um,un⟩
 dsimp only
 refine Zz 22 ?_
 refine s_ (bR_ rfl rfl) rfl fun r1 hr1=>Zz 1 ?_
 refine as_ 4 ((decide ((Ax.kind x)<1))||(decide (9<(Ax.kind x)))) (fun r=>[(1,zp_ b1 0),(2,.int .i64 0),(3,.bool ul),(4,.bool ur),(5,.bool uo),(6,.bool ua),(7,.bool ub),(8,.int .i64 um),(9,.int .i64 un),(31,.bool r)]) ?_ fun r2 hr2=>?_
 ·cases r1
  ·have qr2:=hr1
   replace hr1:=zdf hr1
   refine Zz 5 ?_
   refine s_ (dv_ rfl rfl) rfl fun r3 hr3=>Zz 3 ?_
   exact met ⟨rfl,rfl,rfl,rfl,rfl,rfl,rfl,rfl,rfl,(l_ rfl (jof qr2 hr3)),trivial⟩
  have qr2:=hr1
  replace hr1:=zdt hr1
  refine Zz 6 ?_
  exact met ⟨rfl,rfl,rfl,rfl,rfl,rfl,rfl,rfl,rfl,(l_ rfl (jot qr2)),trivial⟩
 refine Zz 1 ?_
 refine as_ 9 ((((decide ((Ax.kind x)<1))||(decide (9<(Ax.kind x)))))||(((!(ul))&&(!(Con.empty (Ax.left x)))))) (fun r=>[(1,zp_ b1 0),(2,.int .i64 0),(3,.bool ul),(4,.bool ur),(5,.bool uo),(6,.bool ua),(7,.bool ub),(8,.int .i64 um),(9,.int .i64 un),(41,.bool r)]) ?_ fun r4 hr4=>?_
 ·cases r2
  ·have qr4:=hr2
   refine Zz 3 ?_
   refine c_ (aE_ rfl) rfl (Zz 2 ?_)
   refine as_ 5 ((!(ul))&&(!(Con.empty (Ax.left x)))) (fun r=>[(1,zp_ b1 0),(2,.int .i64 0),(3,.bool ul),(4,.bool ur),(5,.bool uo),(6,.bool ua),(7,.bool ub),(8,.int .i64 um),(9,.int .i64 un),(32,.bool false),(40,.bool r)]) ?_ fun r5 hr5=>?_
   ·cases ul
    ·refine Zz 5 ?_
     refine N_ (mx_ (Ax.left x)) rfl f_ zt rfl fun r6 hr6=>ag_ rfl rfl (c_ (aE_ rfl) rfl (Zz 4 ?_))
     exact met ⟨rfl,rfl,rfl,rfl,rfl,rfl,rfl,rfl,rfl,rfl,(l_ rfl (jat (jn rfl) (jn hr6))),trivial⟩
    refine Zz 8 ?_
    exact met ⟨rfl,rfl,rfl,rfl,rfl,rfl,rfl,rfl,rfl,rfl,(l_ rfl (jaf (jn rfl))),trivial⟩
   refine Zz 3 ?_
   exact met ⟨rfl,rfl,rfl,rfl,rfl,rfl,rfl,rfl,rfl,(l_ rfl (jof qr4 hr5)),trivial⟩
  have qr4:=hr2
  refine Zz 11 ?_
  exact met ⟨rfl,rfl,rfl,rfl,rfl,rfl,rfl,rfl,rfl,(l_ rfl (jot qr4)),trivial⟩
 refine Zz 1 ?_
 refine as_ 9 ((((((decide ((Ax.kind x)<1))||(decide (9<(Ax.kind x)))))||(((!(ul))&&(!(Con.empty (Ax.left x)))))))||(((!(ur))&&(!(Con.empty (Ax.right x)))))) (fun r=>[(1,zp_ b1 0),(2,.int .i64 0),(3,.bool ul),(4,.bool ur),(5,.bool uo),(6,.bool ua),(7,.bool ub),(8,.int .i64 um),(9,.int .i64 un),(51,.bool r)]) ?_ fun r7 hr7=>?_
 ·cases r4
  ·have qr7:=hr4
   refine Zz 3 ?_
   refine c_ (aE_ rfl) rfl (Zz 2 ?_)
   refine as_ 5 ((!(ur))&&(!(Con.empty (Ax.right x)))) (fun r=>[(1,zp_ b1 0),(2,.int .i64 0),(3,.bool ul),(4,.bool ur),(5,.bool uo),(6,.bool ua),(7,.bool ub),(8,.int .i64 um),(9,.int .i64 un),(42,.bool false),(50,.bool r)]) ?_ fun r8 hr8=>?_
   ·cases ur
    ·refine Zz 5 ?_
     refine N_ (mx_ (Ax.right x)) rfl f_ zt rfl fun r9 hr9=>ag_ rfl rfl (c_ (aE_ rfl) rfl (Zz 4 ?_))
     exact met ⟨rfl,rfl,rfl,rfl,rfl,rfl,rfl,rfl,rfl,rfl,(l_ rfl (jat (jn rfl) (jn hr9))),trivial⟩
    refine Zz 8 ?_
    exact met ⟨rfl,rfl,rfl,rfl,rfl,rfl,rfl,rfl,rfl,rfl,(l_ rfl (jaf (jn rfl))),trivial⟩
   refine Zz 3 ?_
   exact met ⟨rfl,rfl,rfl,rfl,rfl,rfl,rfl,rfl,rfl,(l_ rfl (jof qr7 hr8)),trivial⟩
  have qr7:=hr4
  refine Zz 11 ?_
  exact met ⟨rfl,rfl,rfl,rfl,rfl,rfl,rfl,rfl,rfl,(l_ rfl (jot qr7)),trivial⟩
 refine Zz 1 ?_
 refine as_ 8 ((((((((decide ((Ax.kind x)<1))||(decide (9<(Ax.kind x)))))||(((!(ul))&&(!(Con.empty (Ax.left x)))))))||(((!(ur))&&(!(Con.empty (Ax.right x)))))))||(((!(uo))&&((Ax.role x) != [])))) (fun r=>[(1,zp_ b1 0),(2,.int .i64 0),(3,.bool ul),(4,.bool ur),(5,.bool uo),(6,.bool ua),(7,.bool ub),(8,.int .i64 um),(9,.int .i64 un),(60,.bool r)]) ?_ fun r10 hr10=>?_
 ·cases r7
  ·have qr10:=hr7
   refine Zz 3 ?_
   refine c_ (aE_ rfl) rfl (Zz 2 ?_)
   refine as_ 4 ((!(uo))&&((Ax.role x) != [])) (fun r=>[(1,zp_ b1 0),(2,.int .i64 0),(3,.bool ul),(4,.bool ur),(5,.bool uo),(6,.bool ua),(7,.bool ub),(8,.int .i64 um),(9,.int .i64 un),(52,.bool false),(59,.bool r)]) ?_ fun r11 hr11=>?_
   ·cases uo
    ·refine Zz 5 ?_
     refine s_ (dJ_ rfl rfl) rfl fun r12 hr12=>Zz 4 ?_
     exact met ⟨rfl,rfl,rfl,rfl,rfl,rfl,rfl,rfl,rfl,rfl,(l_ rfl (jat (jn rfl) hr12)),trivial⟩
    refine Zz 7 ?_
    exact met ⟨rfl,rfl,rfl,rfl,rfl,rfl,rfl,rfl,rfl,rfl,(l_ rfl (jaf (jn rfl))),trivial⟩
   refine Zz 3 ?_
   exact met ⟨rfl,rfl,rfl,rfl,rfl,rfl,rfl,rfl,rfl,(l_ rfl (jof qr10 hr11)),trivial⟩
  have qr10:=hr7
  refine Zz 10 ?_
  exact met ⟨rfl,rfl,rfl,rfl,rfl,rfl,rfl,rfl,rfl,(l_ rfl (jot qr10)),trivial⟩
 refine Zz 1 ?_
 refine as_ 8 ((((((((((decide ((Ax.kind x)<1))||(decide (9<(Ax.kind x)))))||(((!(ul))&&(!(Con.empty (Ax.left x)))))))||(((!(ur))&&(!(Con.empty (Ax.right x)))))))||(((!(uo))&&((Ax.role x) != [])))))||(((!(ua))&&((Ax.a x) != [])))) (fun r=>[(1,zp_ b1 0),(2,.int .i64 0),(3,.bool ul),(4,.bool ur),(5,.bool uo),(6,.bool ua),(7,.bool ub),(8,.int .i64 um),(9,.int .i64 un),(69,.bool r)]) ?_ fun r13 hr13=>?_
 ·cases r10
  ·have qr13:=hr10
   refine Zz 3 ?_
   refine c_ (aE_ rfl) rfl (Zz 2 ?_)
   refine as_ 4 ((!(ua))&&((Ax.a x) != [])) (fun r=>[(1,zp_ b1 0),(2,.int .i64 0),(3,.bool ul),(4,.bool ur),(5,.bool uo),(6,.bool ua),(7,.bool ub),(8,.int .i64 um),(9,.int .i64 un),(61,.bool false),(68,.bool r)]) ?_ fun r14 hr14=>?_
   ·cases ua
    ·refine Zz 5 ?_
     refine s_ (dJ_ rfl rfl) rfl fun r15 hr15=>Zz 4 ?_
     exact met ⟨rfl,rfl,rfl,rfl,rfl,rfl,rfl,rfl,rfl,rfl,(l_ rfl (jat (jn rfl) hr15)),trivial⟩
    refine Zz 7 ?_
    exact met ⟨rfl,rfl,rfl,rfl,rfl,rfl,rfl,rfl,rfl,rfl,(l_ rfl (jaf (jn rfl))),trivial⟩
   refine Zz 3 ?_
   exact met ⟨rfl,rfl,rfl,rfl,rfl,rfl,rfl,rfl,rfl,(l_ rfl (jof qr13 hr14)),trivial⟩
  have qr13:=hr10
  refine Zz 10 ?_
  exact met ⟨rfl,rfl,rfl,rfl,rfl,rfl,rfl,rfl,rfl,(l_ rfl (jot qr13)),trivial⟩
 refine Zz 1 ?_
 refine as_ 8 ((((((((((((decide ((Ax.kind x)<1))||(decide (9<(Ax.kind x)))))||(((!(ul))&&(!(Con.empty (Ax.left x)))))))||(((!(ur))&&(!(Con.empty (Ax.right x)))))))||(((!(uo))&&((Ax.role x) != [])))))||(((!(ua))&&((Ax.a x) != [])))))||(((!(ub))&&((Ax.b x) != [])))) (fun r=>[(1,zp_ b1 0),(2,.int .i64 0),(3,.bool ul),(4,.bool ur),(5,.bool uo),(6,.bool ua),(7,.bool ub),(8,.int .i64 um),(9,.int .i64 un),(78,.bool r)]) ?_ fun r16 hr16=>?_
 ·cases r13
  ·have qr16:=hr13
   refine Zz 3 ?_
   refine c_ (aE_ rfl) rfl (Zz 2 ?_)
   refine as_ 4 ((!(ub))&&((Ax.b x) != [])) (fun r=>[(1,zp_ b1 0),(2,.int .i64 0),(3,.bool ul),(4,.bool ur),(5,.bool uo),(6,.bool ua),(7,.bool ub),(8,.int .i64 um),(9,.int .i64 un),(70,.bool false),(77,.bool r)]) ?_ fun r17 hr17=>?_
   ·cases ub
    ·refine Zz 5 ?_
     refine s_ (dJ_ rfl rfl) rfl fun r18 hr18=>Zz 4 ?_
     exact met ⟨rfl,rfl,rfl,rfl,rfl,rfl,rfl,rfl,rfl,rfl,(l_ rfl (jat (jn rfl) hr18)),trivial⟩
    refine Zz 7 ?_
    exact met ⟨rfl,rfl,rfl,rfl,rfl,rfl,rfl,rfl,rfl,rfl,(l_ rfl (jaf (jn rfl))),trivial⟩
   refine Zz 3 ?_
   exact met ⟨rfl,rfl,rfl,rfl,rfl,rfl,rfl,rfl,rfl,(l_ rfl (jof qr16 hr17)),trivial⟩
  have qr16:=hr13
  refine Zz 10 ?_
  exact met ⟨rfl,rfl,rfl,rfl,rfl,rfl,rfl,rfl,rfl,(l_ rfl (jot qr16)),trivial⟩
 refine Zz 1 ?_
 refine as_ 6 ((((((((((((((decide ((Ax.kind x)<1))||(decide (9<(Ax.kind x)))))||(((!(ul))&&(!(Con.empty (Ax.left x)))))))||(((!(ur))&&(!(Con.empty (Ax.right x)))))))||(((!(uo))&&((Ax.role x) != [])))))||(((!(ua))&&((Ax.a x) != [])))))||(((!(ub))&&((Ax.b x) != [])))))||(decide ((List.length (Ax.roles x):Int)<um))) (fun r=>[(1,zp_ b1 0),(2,.int .i64 0),(3,.bool ul),(4,.bool ur),(5,.bool uo),(6,.bool ua),(7,.bool ub),(9,.int .i64 un),(85,.bool r)]) ?_ fun r19 hr19=>?_
 ·cases r16
  ·have qr19:=hr16
   refine Zz 9 ?_
   refine s_ (bR_ rfl rfl) rfl fun r20 hr20=>Zz 3 ?_
   exact met ⟨rfl,rfl,rfl,rfl,rfl,rfl,rfl,rfl,(l_ rfl (jof qr19 hr20)),trivial⟩
  have qr19:=hr16
  refine Zz 8 ?_
  exact met ⟨rfl,rfl,rfl,rfl,rfl,rfl,rfl,rfl,(l_ rfl (jot qr19)),trivial⟩
 refine Zz 1 ?_
 refine as_ 6 ((((((((((((((((decide ((Ax.kind x)<1))||(decide (9<(Ax.kind x)))))||(((!(ul))&&(!(Con.empty (Ax.left x)))))))||(((!(ur))&&(!(Con.empty (Ax.right x)))))))||(((!(uo))&&((Ax.role x) != [])))))||(((!(ua))&&((Ax.a x) != [])))))||(((!(ub))&&((Ax.b x) != [])))))||(decide ((List.length (Ax.roles x):Int)<um))))||(decide (un<(List.length (Ax.roles x):Int)))) (fun r=>[(1,zp_ b1 0),(2,.int .i64 0),(3,.bool ul),(4,.bool ur),(5,.bool uo),(6,.bool ua),(7,.bool ub),(92,.bool r)]) ?_ fun r21 hr21=>?_
 ·cases r19
  ·have qr21:=hr19
   refine Zz 9 ?_
   refine s_ (dv_ rfl rfl) rfl fun r22 hr22=>Zz 3 ?_
   exact met ⟨rfl,rfl,rfl,rfl,rfl,rfl,rfl,(l_ rfl (jof qr21 hr22)),trivial⟩
  have qr21:=hr19
  refine Zz 8 ?_
  exact met ⟨rfl,rfl,rfl,rfl,rfl,rfl,rfl,(l_ rfl (jot qr21)),trivial⟩
 refine Zz 2 ?_
 cases r21
 ·have hsh:x.shaped=true:=by rw[Ax.shaped_ref hu,hr21];rfl
  refine Zz 8 ?_
  refine as_ 5 ((uo)&&(!(bn_ (Ax.role x)))) (fun r=>[(1,zp_ b1 0),(2,.int .i64 0),(3,.bool ul),(4,.bool ur),(6,.bool ua),(7,.bool ub),(99,.bool r)]) ?_ fun r23 hr23=>?_
  ·cases uo
   ·refine Zz 7 ?_
    exact met ⟨rfl,rfl,rfl,rfl,rfl,rfl,(l_ rfl (jaf rfl)),trivial⟩
   refine Zz 5 ?_
   refine N_ (fO_ _) rfl f_ zt rfl fun r24 hr24=>ag_ rfl rfl (c_ (aE_ rfl) rfl (Zz 3 ?_))
   exact met ⟨rfl,rfl,rfl,rfl,rfl,rfl,(l_ rfl (jat rfl (jn hr24))),trivial⟩
  refine Zz 2 ?_
  cases r23
  ·refine Zz 10 ?_
   refine aN_ [(1,zp_ b1 0),(3,.bool ul),(4,.bool ur),(6,.bool ua),(7,.bool ub),(10,.int .i64 ((0:Nat):Int))] zl ?_
   refine aT_ (ι:={q:Nat // q≤x.roles.length∧(x.roles.take q).all bn_=true}) (fun i=>[(1,zp_ b1 0),(3,.bool ul),(4,.bool ur),(6,.bool ua),(7,.bool ub),(10,.int .i64 (i.1:Int))]) (fun _=>_) (fun _=>_) (fun i=>x.roles.length - i.1) ⟨0,by simp⟩ ?_
   rintro ⟨i,hk⟩
   refine aN_ [(1,zp_ b1 0),(3,.bool ul),(4,.bool ur),(6,.bool ua),(7,.bool ub),(10,.int .i64 (i:Int))] zl ?_
   refine Zi 7 (fun hr25=>?_) fun hr25=>?_
   ·refine Zz 10 ?_
    refine as_ 5 ((ua)&&(!(aK_ (Ax.a x)))) (fun r=>[(1,zp_ b1 0),(3,.bool ul),(4,.bool ur),(7,.bool ub),(120,.bool r)]) ?_ fun r26 hr26=>?_
    ·cases ua
     ·refine Zz 7 ?_
      exact met ⟨rfl,rfl,rfl,rfl,(l_ rfl (jaf rfl)),trivial⟩
     refine Zz 5 ?_
     refine N_ (he_ _) rfl f_ zt rfl fun r27 hr27=>ag_ rfl rfl (c_ (aE_ rfl) rfl (Zz 3 ?_))
     exact met ⟨rfl,rfl,rfl,rfl,(l_ rfl (jat rfl (jn hr27))),trivial⟩
    refine Zz 1 ?_
    refine as_ 8 ((((ua)&&(!(aK_ (Ax.a x)))))||(((ub)&&(!(aK_ (Ax.b x)))))) (fun r=>[(1,zp_ b1 0),(3,.bool ul),(4,.bool ur),(129,.bool r)]) ?_ fun r28 hr28=>?_
    ·cases r26
     ·have qr28:=hr26
      refine Zz 4 ?_
      refine as_ 5 ((ub)&&(!(aK_ (Ax.b x)))) (fun r=>[(1,zp_ b1 0),(3,.bool ul),(4,.bool ur),(7,.bool ub),(121,.bool false),(128,.bool r)]) ?_ fun r29 hr29=>?_
      ·cases ub
       ·refine Zz 8 ?_
        exact met ⟨rfl,rfl,rfl,rfl,rfl,(l_ rfl (jaf rfl)),trivial⟩
       refine Zz 5 ?_
       refine N_ (he_ _) rfl f_ zt rfl fun r30 hr30=>ag_ rfl rfl (c_ (aE_ rfl) rfl (Zz 4 ?_))
       exact met ⟨rfl,rfl,rfl,rfl,rfl,(l_ rfl (jat rfl (jn hr30))),trivial⟩
      refine Zz 3 ?_
      exact met ⟨rfl,rfl,rfl,(l_ rfl (jof qr28 hr29)),trivial⟩
     have qr28:=hr26
     refine Zz 10 ?_
     exact met ⟨rfl,rfl,rfl,(l_ rfl (jot qr28)),trivial⟩
    refine Zz 2 ?_
    cases r28
    ·refine Zz 5 ?_
     have hnm:x.namedU (us x.kind)=true:=by rw[hu];unfold Ax.namedU;have:=hk.2;rw[List.take_of_length_le (by omega)]at this;rw[this];clear hsh hu;cases uo<;>cases ua<;>cases ub<;>simp_all
     refine Zz 4 ?_
     cases ul
     ·refine Zz 9 ?_
      cases ur
      ·refine Zz 23 ?_
       refine s_ (V_ rfl rfl) rfl fun r31 hr31=>Zz 2 ?_
       refine as_ 4 (((Ax.kind x)==2)&&(Con.rbare (Ax.left x))) (fun r=>[(155,.bool false),(163,.bool r)]) ?_ fun r32 hr32=>?_
       ·cases r31
        ·have qr32:=hr31
         replace hr31:=znb hr31
         refine Zz 7 ?_
         exact met ⟨rfl,(l_ rfl (jaf qr32)),trivial⟩
        have qr32:=hr31
        replace hr31:=zeb hr31
        refine Zz 5 ?_
        refine N_ (hf_ _ (Ax.left x) (Nat.le_refl _) hok.left) rfl f_ (fun v _ h=>by exact⟨h.1.1,trivial⟩) rfl fun r33 hr33=>Zz 4 ?_
        exact met ⟨rfl,(l_ rfl (jat qr32 hr33)),trivial⟩
       refine Zz 3 ?_
       cases r32
       ·refine Zz 9 ?_
        exact G_ cc_ () (Y_ rfl (by rw[Ax.check_last hsh hnm (by rw[hu];intro q;first|assumption|cases q) (by rw[hu];intro q;first|assumption|cases q),hu];simp only[Bool.false_and,Bool.false_or,Bool.true_and];rw[hr32];rfl)) f_ zt
       refine Zz 7 ?_
       exact G_ cc_ () (Y_ rfl (by rw[Ax.check_last hsh hnm (by rw[hu];intro q;first|assumption|cases q) (by rw[hu];intro q;first|assumption|cases q),hu];simp only[Bool.false_and,Bool.false_or,Bool.true_and];rw[hr32];rfl)) f_ zt
      refine Zz 5 ?_
      refine i_ (eY_ (Ax.right x) hok.right (by omega)) rfl f_ (fun v _ h=>by exact⟨h.1.2.1,trivial⟩) rfl fun _=>Zi 6 (fun hr34=>?_) fun hr34=>?_
      ·refine Zz 15 ?_
       refine s_ (bU_ rfl rfl) rfl fun r35 hr35=>Zz 2 ?_
       refine as_ 4 (((Ax.kind x) != 3)&&(Con.rbare (Ax.right x))) (fun r=>[(1,zp_ b1 0),(154,.bool r)]) ?_ fun r36 hr36=>?_
       ·cases r35
        ·have qr36:=hr35
         replace hr35:=cy_ hr35
         refine Zz 6 ?_
         exact met ⟨rfl,(l_ rfl (jaf qr36)),trivial⟩
        have qr36:=hr35
        replace hr35:=cw_ hr35
        refine Zz 5 ?_
        refine N_ (hf_ _ (Ax.right x) (Nat.le_refl _) hok.right) rfl f_ (fun v _ h=>by exact⟨h.1.2.1,trivial⟩) rfl fun r37 hr37=>Zz 3 ?_
        exact met ⟨rfl,(l_ rfl (jat qr36 hr37)),trivial⟩
       refine Zz 1 ?_
       refine as_ 9 (((((Ax.kind x) != 3)&&(Con.rbare (Ax.right x))))||((((Ax.kind x)==2)&&(Con.rbare (Ax.left x))))) (fun r=>[(164,.bool r)]) ?_ fun r38 hr38=>?_
       ·cases r36
        ·have qr38:=hr36
         refine Zz 5 ?_
         refine s_ (V_ rfl rfl) rfl fun r39 hr39=>Zz 2 ?_
         refine as_ 4 (((Ax.kind x)==2)&&(Con.rbare (Ax.left x))) (fun r=>[(1,zp_ b1 0),(155,.bool false),(163,.bool r)]) ?_ fun r40 hr40=>?_
         ·cases r39
          ·have qr40:=hr39
           replace hr39:=znb hr39
           refine Zz 7 ?_
           exact met ⟨rfl,rfl,(l_ rfl (jaf qr40)),trivial⟩
          have qr40:=hr39
          replace hr39:=zeb hr39
          refine Zz 5 ?_
          refine N_ (hf_ _ (Ax.left x) (Nat.le_refl _) hok.left) rfl f_ (fun v _ h=>by exact⟨h.1.1,trivial⟩) rfl fun r41 hr41=>Zz 4 ?_
          exact met ⟨rfl,rfl,(l_ rfl (jat qr40 hr41)),trivial⟩
         refine Zz 3 ?_
         exact met ⟨(l_ rfl (jof qr38 hr40)),trivial⟩
        have qr38:=hr36
        refine Zz 11 ?_
        exact met ⟨(l_ rfl (jot qr38)),trivial⟩
       refine Zz 2 ?_
       cases r38
       ·refine Zz 9 ?_
        exact G_ cc_ () (Y_ rfl (by rw[Ax.check_last hsh hnm (by rw[hu];intro q;first|assumption|cases q) (by rw[hu];intro q;first|assumption|cases q),hu];simp only[Bool.false_and,Bool.false_or,Bool.true_and];rw[hr38];rfl)) f_ zt
       refine Zz 7 ?_
       exact G_ cc_ () (Y_ rfl (by rw[Ax.check_last hsh hnm (by rw[hu];intro q;first|assumption|cases q) (by rw[hu];intro q;first|assumption|cases q),hu];simp only[Bool.false_and,Bool.false_or,Bool.true_and];rw[hr38];rfl)) f_ zt
      refine Zz 10 ?_
      exact G_ cc_ () (Y_ rfl (by symm;exact Ax.check_right hsh hnm (by rw[hu];intro q;first|assumption|cases q) (by rw[hu]) (by assumption))) f_ zt
     refine Zz 5 ?_
     refine i_ (eY_ (Ax.left x) hok.left (by omega)) rfl f_ (fun v _ h=>by exact⟨h.1.1,trivial⟩) rfl fun _=>Zi 6 (fun hr42=>?_) fun hr42=>?_
     ·refine Zz 11 ?_
      cases ur
      ·refine Zz 23 ?_
       refine s_ (V_ rfl rfl) rfl fun r43 hr43=>Zz 2 ?_
       refine as_ 4 (((Ax.kind x)==2)&&(Con.rbare (Ax.left x))) (fun r=>[(155,.bool false),(163,.bool r)]) ?_ fun r44 hr44=>?_
       ·cases r43
        ·have qr44:=hr43
         replace hr43:=znb hr43
         refine Zz 7 ?_
         exact met ⟨rfl,(l_ rfl (jaf qr44)),trivial⟩
        have qr44:=hr43
        replace hr43:=zeb hr43
        refine Zz 5 ?_
        refine N_ (hf_ _ (Ax.left x) (Nat.le_refl _) hok.left) rfl f_ (fun v _ h=>by exact⟨h.1.1,trivial⟩) rfl fun r45 hr45=>Zz 4 ?_
        exact met ⟨rfl,(l_ rfl (jat qr44 hr45)),trivial⟩
       refine Zz 3 ?_
       cases r44
       ·refine Zz 9 ?_
        exact G_ cc_ () (Y_ rfl (by rw[Ax.check_last hsh hnm (by rw[hu];intro q;first|assumption|cases q) (by rw[hu];intro q;first|assumption|cases q),hu];simp only[Bool.false_and,Bool.false_or,Bool.true_and];rw[hr44];rfl)) f_ zt
       refine Zz 7 ?_
       exact G_ cc_ () (Y_ rfl (by rw[Ax.check_last hsh hnm (by rw[hu];intro q;first|assumption|cases q) (by rw[hu];intro q;first|assumption|cases q),hu];simp only[Bool.false_and,Bool.false_or,Bool.true_and];rw[hr44];rfl)) f_ zt
      refine Zz 5 ?_
      refine i_ (eY_ (Ax.right x) hok.right (by omega)) rfl f_ (fun v _ h=>by exact⟨h.1.2.1,trivial⟩) rfl fun _=>Zi 6 (fun hr46=>?_) fun hr46=>?_
      ·refine Zz 15 ?_
       refine s_ (bU_ rfl rfl) rfl fun r47 hr47=>Zz 2 ?_
       refine as_ 4 (((Ax.kind x) != 3)&&(Con.rbare (Ax.right x))) (fun r=>[(1,zp_ b1 0),(154,.bool r)]) ?_ fun r48 hr48=>?_
       ·cases r47
        ·have qr48:=hr47
         replace hr47:=cy_ hr47
         refine Zz 6 ?_
         exact met ⟨rfl,(l_ rfl (jaf qr48)),trivial⟩
        have qr48:=hr47
        replace hr47:=cw_ hr47
        refine Zz 5 ?_
        refine N_ (hf_ _ (Ax.right x) (Nat.le_refl _) hok.right) rfl f_ (fun v _ h=>by exact⟨h.1.2.1,trivial⟩) rfl fun r49 hr49=>Zz 3 ?_
        exact met ⟨rfl,(l_ rfl (jat qr48 hr49)),trivial⟩
       refine Zz 1 ?_
       refine as_ 9 (((((Ax.kind x) != 3)&&(Con.rbare (Ax.right x))))||((((Ax.kind x)==2)&&(Con.rbare (Ax.left x))))) (fun r=>[(164,.bool r)]) ?_ fun r50 hr50=>?_
       ·cases r48
        ·have qr50:=hr48
         refine Zz 5 ?_
         refine s_ (V_ rfl rfl) rfl fun r51 hr51=>Zz 2 ?_
         refine as_ 4 (((Ax.kind x)==2)&&(Con.rbare (Ax.left x))) (fun r=>[(1,zp_ b1 0),(155,.bool false),(163,.bool r)]) ?_ fun r52 hr52=>?_
         ·cases r51
          ·have qr52:=hr51
           replace hr51:=znb hr51
           refine Zz 7 ?_
           exact met ⟨rfl,rfl,(l_ rfl (jaf qr52)),trivial⟩
          have qr52:=hr51
          replace hr51:=zeb hr51
          refine Zz 5 ?_
          refine N_ (hf_ _ (Ax.left x) (Nat.le_refl _) hok.left) rfl f_ (fun v _ h=>by exact⟨h.1.1,trivial⟩) rfl fun r53 hr53=>Zz 4 ?_
          exact met ⟨rfl,rfl,(l_ rfl (jat qr52 hr53)),trivial⟩
         refine Zz 3 ?_
         exact met ⟨(l_ rfl (jof qr50 hr52)),trivial⟩
        have qr50:=hr48
        refine Zz 11 ?_
        exact met ⟨(l_ rfl (jot qr50)),trivial⟩
       refine Zz 2 ?_
       cases r50
       ·refine Zz 9 ?_
        exact G_ cc_ () (Y_ rfl (by rw[Ax.check_last hsh hnm (by rw[hu];intro q;first|assumption|cases q) (by rw[hu];intro q;first|assumption|cases q),hu];simp only[Bool.false_and,Bool.false_or,Bool.true_and];rw[hr50];rfl)) f_ zt
       refine Zz 7 ?_
       exact G_ cc_ () (Y_ rfl (by rw[Ax.check_last hsh hnm (by rw[hu];intro q;first|assumption|cases q) (by rw[hu];intro q;first|assumption|cases q),hu];simp only[Bool.false_and,Bool.false_or,Bool.true_and];rw[hr50];rfl)) f_ zt
      refine Zz 10 ?_
      exact G_ cc_ () (Y_ rfl (by symm;exact Ax.check_right hsh hnm (by rw[hu];intro q;first|assumption|cases q) (by rw[hu]) (by assumption))) f_ zt
     refine Zz 10 ?_
     exact G_ cc_ () (Y_ rfl (by symm;exact Ax.check_left hsh hnm (by rw[hu]) (by assumption))) f_ zt
    refine Zz 7 ?_
    exact G_ cc_ () (Y_ rfl (by symm;apply Ax.check_20 hsh;rw[hu];unfold Ax.namedU;rw[Bool.or_assoc,hr28];simp)) f_ zt
   obtain⟨hlx1,x1,hx1,hmx1⟩:=zge (show i<List.length (Ax.roles x) by omega)
   refine Zz 12 ?_
   refine c_ (T_ D_ O_ rfl rfl (fun v _ h=>J_ (n:=1) av_ (by decide) (by exact h.1.2.2) hx1) (by omega) (by first|omega|(simp;done))) rfl ?_
   refine c_ (bu_ (ad:=(Ax.ad x)) ap_ rfl (fun v _ h=>by exact h.1.2.2) (H_ av_ hx1 0 _ rfl)) rfl (N_ (fO_ _) rfl f_ zt rfl fun r54 hr54=>c_ (aE_ rfl) rfl (Zz 2 ?_))
   cases r54
   ·refine Zz 7 ?_
    exact G_ cc_ () (Y_ rfl (by symm;apply Ax.check_20 hsh;rw[hu];unfold Ax.namedU;rw[show x.roles.all bn_=false from List.all_eq_false.2 ⟨x1,hmx1,by simp[*]⟩];simp)) f_ zt
   refine Zz 9 ?_
   exact R_ ⟨i+1,hlx1,by rw[List.take_add_one,hx1];simp only[Option.toList_some,List.all_append,hk.2];simp[*]⟩ (by simp;omega) zl (.refl _) zh
  refine Zz 7 ?_
  exact G_ cc_ () (Y_ rfl (by symm;apply Ax.check_20 hsh;rw[hu];unfold Ax.namedU;simp[*])) f_ zt
 refine Zz 7 ?_
 exact G_ cc_ () (Y_ rfl (by symm;apply Ax.check_22;rw[Ax.shaped_ref hu,hr21];rfl)) f_ zt
end Go.Proofs.YtamklbgaipakfaaGreatDoor
namespace Go.Sx
open Go
section
variable {P:Program} {N:Nf} {fr:Fr} {H:Hp} {Γ:List Fct} {ty:TypeId}
theorem lf_ {t:TypeId} {x:Operand} {m:Int} (hx:Fr.ev fr x=some (.int .i64 m)) (hw:IntKind.wrap .i64 (-m)=-m):Yld P N fr H Γ (.unOp .neg t x) ty (.int .i64 (-m)) :=
  fun a v h1 _ _ _ _ _=>by simp[execOp,h1.ev hx,Op.unary,Op.intArith,hw]
theorem ol_ {t t':TypeId} {x y:Operand} {m n:Int} (hx:Fr.ev fr x=some (.int .i64 m)) (hy:Fr.ev fr y=some (.int .i64 n)) (hn:n≠0) (hw:IntKind.wrap .i64 (m.tmod n)=m.tmod n) :
    Yld P N fr H Γ (.binOp .rem t x y t') ty (.int .i64 (m.tmod n)) :=
  fun a v h1 _ _ _ _ _=>by simp[execOp,h1.ev hx,h1.ev hy,eqGuard,binOp,Op.intDiv,hn,hw]
theorem rB_ {t t':TypeId} {x:Operand} {k k':IntKind} {m r:Int} {u:TypeDesc} (hs:P.underlying t=some u) (hd:P.underlying t'=some (.int k')) (hx:Fr.ev fr x=some (.int k m)) (hw:IntKind.wrap k' m=r):Yld P N fr H Γ (.convert t t' x) ty (.int k' r) :=
  fun a v h1 _ _ _ _ _=>by subst hw;simp[execOp,h1.ev hx,convert,run_underlying hs,run_underlying hd,Conv.intToInt]
theorem rA_ {t t' e:TypeId} {x:Operand} {b:Nat} {l:List UInt8} {c:Nat} {T:TypeId} {fz:Nat×Nat} (i:Nat) (hs:P.underlying t=some (.slice e)) (he:P.underlying e=some (.int .u8)) (hd:P.underlying t'=some .string)
    (hx:Fr.ev fr x=some (.slice (some ⟨b,0,none⟩) l.length c)) (hi:H[i]? = some (b,.cells (l.map fun z=>Value.int .u8 (z.toNat:Int)).toArray T fz)):Yld P N fr H Γ (.convert t t' x) ty (str l) :=
  fun a v h1 h2 _ _ _ _=>by
    have h:=run_convert_bytes_back (P:=P) v.w t t' e ⟨b,0,none⟩ c l hs he hd (fun j hj=>by
      rw[cX_,Nat.zero_add,ec_ h2 hi]
      simp[List.getElem?_eq_getElem hj])
    simp[execOp,h1.ev hx,h,str]
end
end Go.Sx
namespace Go.Vs
open Go Go.Sx
theorem qk_ {n:Int} (h:¬ n<0):n.tdiv 10=n / 10∧n.tmod 10=n%10:=⟨Int.tdiv_eq_ediv_of_nonneg (by omega),Int.tmod_eq_emod_of_nonneg (by omega)⟩
theorem td_neg {n:Int} (h:n<0):n.tdiv 10=-((-n) / 10)∧n.tmod 10=-((-n)%10):=by
  have h1:=qk_ (n:=-n) (by omega)
  rw[← h1.1,← h1.2,Int.neg_tdiv,Int.neg_tmod,Int.neg_neg,Int.neg_neg]
  exact⟨rfl,rfl⟩
theorem pN_ {n:Int} (h0:0≤n) (h1:n<10):Lib.itoa n=[UInt8.ofNat (48+n.toNat)]:=by
  unfold Lib.itoa
  rw[if_neg (by omega),Lib.decDigits_one (by omega)]
theorem oU_ {n:Int} (h:10≤n):Lib.itoa (n.tdiv 10)++Lib.itoa (n.tmod 10)=Lib.itoa n:=by
  obtain⟨u,rfl⟩:∃ u:Nat,n=(u:Int):=⟨n.toNat,by omega⟩
  have e1:((u:Int).tdiv 10)=((u / 10:Nat):Int):=rfl
  have e2:((u:Int).tmod 10)=((u%10:Nat):Int):=rfl
  rw[e1,e2,Lib.itoa_nonneg,Lib.itoa_nonneg,Lib.itoa_nonneg,Lib.decDigits_one (i:=u%10) (by omega)]
  conv=>rhs;rw[Lib.decDigits]
  rw[dif_neg (by omega)]
theorem sx_ {n:Int} (h:n≤-10):([45]++Lib.itoa (-(n.tdiv 10)))++Lib.itoa (-(n.tmod 10))=Lib.itoa n:=by
  obtain⟨u,rfl⟩:∃ u:Nat,n=-(u:Int):=⟨n.natAbs,by omega⟩
  rw[Int.neg_tdiv,Int.neg_tmod,Int.neg_neg,Int.neg_neg,List.append_assoc,oU_ (by omega),Lib.itoa_nonneg,Lib.itoa_neg u (by omega)]
  rfl
theorem rl_ {n:Int} (h:n<0):[45]++Lib.itoa (-n)=Lib.itoa n:=by
  obtain⟨u,rfl⟩:∃ u:Nat,n=-(u:Int):=⟨n.natAbs,by omega⟩
  rw[Int.neg_neg,Lib.itoa_nonneg,Lib.itoa_neg u (by omega)]
  rfl
theorem gs_ {n:Int} (h0:-9223372036854775808≤n) (h1:n≤9223372036854775807):(Lib.itoa n).length≤21:=Lib.itoa_length_le n h0 h1
theorem rG_ {n:Int} (h0:0≤n) (h1:n<10):IntKind.wrap .u8 (48+n)=((UInt8.ofNat (48+n.toNat)).toNat:Int):=by
  obtain⟨u,rfl⟩:∃ u:Nat,n=(u:Int):=⟨n.toNat,by omega⟩
  have:u<10:=by omega
  have hu:u=0∨u=1∨u=2∨u=3∨u=4∨u=5∨u=6∨u=7∨u=8∨u=9:=by omega
  rcases hu with rfl|rfl|rfl|rfl|rfl|rfl|rfl|rfl|rfl|rfl<;>rfl
namespace Con
def textR (c:Con):Str:=if c.kind=0 then [] else c.text
def has (c:Con):Prop:=c.fine∨c.kind=0∧c.parts=[]
theorem fine_k {c:Con} (h:c.fine):1≤c.kind∧c.kind≤7:=⟨(fields h).k1,(fields h).k7⟩
theorem textR_fine {c:Con} (h:c.fine):c.textR=c.text:=by unfold textR;rw[if_neg (by have:=fine_k h;omega)]
theorem join_bound {sep:Str} {B:Nat}:∀ {xs:List Str},(∀ x∈xs,x.length≤B)→(Lib.join xs sep).length≤xs.length*(B+sep.length)
  | [],_=>by simp[Lib.join_nil]
  | x::xs,h=>by
    have h1:=gO_ sep (x::xs)
    have key:∀ ys:List Str,(∀ y∈ys,y.length≤B)→(ys.map fun y=>y.length+sep.length).sum≤ys.length*(B+sep.length):=by
      intro ys
      induction ys with
      | nil=>intro _;simp
      | cons y ys ih =>
        intro hy
        have a:=hy y (by simp)
        have b:=ih fun z hz=>hy z (by simp[hz])
        simp only[List.map_cons,List.sum_cons,List.length_cons,Nat.add_mul,Nat.one_mul]
        simp only[Nat.mul_add]at b ⊢
        omega
    have:=key (x::xs) h
    omega
theorem join_snoc (sep:Str):∀ (xs:List Str) (y:Str),xs≠[]→Lib.join (xs++[y]) sep=Lib.join xs sep++sep++y
  | [x],y,_=>by simp[Lib.join,List.intercalate]
  | x::z::r,y,_=>by
    have ih:=join_snoc sep (z::r) y (by simp)
    have e:∀ w:List Str,Lib.join (x::z::w) sep=x++sep++Lib.join (z::w) sep:=fun w=>by simp[Lib.join,List.intercalate]
    rw[List.cons_append,List.cons_append,e,e,← List.cons_append,ih]
    simp
theorem oper_len {c p:Con} (hok:c.ok) (hf:c.fine) (hz:c.sz≤1000) (hp:p∈c.parts):p.operand.length≤100010:=by
  have h1:=text_len _ p (Nat.le_refl _) (ok_part hok hp) (fine_part hf hp)
  have h2:=sz_part hp
  unfold operand
  split<;>simp<;>omega
end Con
end Go.Vs
namespace Go.Proofs.YtamklbgaipakfaaGreatDoor
open Go Go.Sx Go.Proofs
attribute [local irreducible] Code.wp wpList wpAnyH
open Go.Vs
theorem jy_:∀ (m:Nat) (n:Int),2*n.natAbs+(if n<0 then 1 else 0)≤m→-1099511627776≤n→n≤1099511627776→Fn0 Tryz.prog 249 #[.int .i64 n] (str (Lib.itoa n)):=by
 intro m
 induction m using Nat.strongRecOn with
 | ind m ih0 =>
   intro n hm hlo hhi
   have ih:∀ (k:Int),2*k.natAbs+(if k<0 then 1 else 0)<m→-1099511627776≤k→k≤1099511627776→Fn0 Tryz.prog 249 #[.int .i64 k] (str (Lib.itoa k)):=fun k hk=>ih0 _ hk k (Nat.le_refl _)
   refine o_ Tryz.func249 rfl rfl Tryz.ntmps249 rfl fun v0=>?_
   refine Zi 9 (fun hr1=>?_) fun hr1=>?_
   · skip
     have htd:=qk_ (n:=n) (by omega)
     refine Zi 9 (fun hr2=>?_) fun hr2=>?_
     · skip
       refine Zz 9 ?_
       refine c_ (rB_ Q_ Tryz.underlying5 rfl (rG_ (by omega) (by omega))) rfl (I_ bP_ Tryz.sizeOf5 Tryz.zeroValue5 rfl rfl rfl rfl rfl rfl fun b1=>c_ (rA_ (l:=[UInt8.ofNat (48+n.toNat)]) 0 Tryz.underlying307 Tryz.underlying5 cA_ rfl rfl) rfl (Zz 4 ?_))
       exact G_ Tryz.results249 () (bq_ rfl (pN_ (by omega) (by omega)).symm) f_ zt
     · skip
       refine Zz 6 ?_
       refine c_ (le_ rfl rfl (by decide) (be_ (by omega) (by omega))) rfl (i_ (ih (Int.tdiv n 10) (by split<;>split at hm<;>omega) (by omega) (by omega)) rfl f_ zt rfl fun _=>?_)
       have hl1:=gs_ (n:=(Int.tdiv n 10)) (by omega) (by omega)
       refine Zz 1 ?_
       refine c_ (ol_ rfl rfl (by decide) (be_ (by omega) (by omega))) rfl (i_ (ih (Int.tmod n 10) (by split<;>split at hm<;>omega) (by omega) (by omega)) rfl f_ zt rfl fun _=>?_)
       have hl2:=gs_ (n:=(Int.tmod n 10)) (by omega) (by omega)
       refine c_ (bg_ rfl rfl (by first|omega|(simp only[List.length_append,List.length_cons,List.length_nil];omega))) rfl ?_
       refine Zz 4 ?_
       exact G_ Tryz.results249 () (bq_ rfl (oU_ (by omega))) f_ zt
   · skip
     have htd:=td_neg (n:=n) (by omega)
     refine Zi 7 (fun hr3=>?_) fun hr3=>?_
     · skip
       refine Zz 8 ?_
       refine c_ (lf_ rfl (be_ (by omega) (by omega))) rfl (i_ (ih (-n) (by split<;>split at hm<;>omega) (by omega) (by omega)) rfl f_ zt rfl fun _=>?_)
       have hl3:=gs_ (n:=(-n)) (by omega) (by omega)
       refine c_ (bg_ rfl rfl (by first|omega|(simp only[List.length_append,List.length_cons,List.length_nil];omega))) rfl ?_
       refine Zz 4 ?_
       exact G_ Tryz.results249 () (bq_ rfl (rl_ (by omega))) f_ zt
     · skip
       refine Zz 6 ?_
       refine c_ (le_ rfl rfl (by decide) (be_ (by omega) (by omega))) rfl (c_ (lf_ rfl (be_ (by omega) (by omega))) rfl (i_ (ih (-(Int.tdiv n 10)) (by split<;>split at hm<;>omega) (by omega) (by omega)) rfl f_ zt rfl fun _=>?_))
       have hl4:=gs_ (n:=(-(Int.tdiv n 10))) (by omega) (by omega)
       refine c_ (bg_ rfl rfl (by first|omega|(simp only[List.length_append,List.length_cons,List.length_nil];omega))) rfl ?_
       refine Zz 1 ?_
       refine c_ (ol_ rfl rfl (by decide) (be_ (by omega) (by omega))) rfl (c_ (lf_ rfl (be_ (by omega) (by omega))) rfl (i_ (ih (-(Int.tmod n 10)) (by split<;>split at hm<;>omega) (by omega) (by omega)) rfl f_ zt rfl fun _=>?_))
       have hl5:=gs_ (n:=(-(Int.tmod n 10))) (by omega) (by omega)
       refine c_ (bg_ rfl rfl (by first|omega|(simp only[List.length_append,List.length_cons,List.length_nil];omega))) rfl ?_
       refine Zz 4 ?_
       exact G_ Tryz.results249 () (bq_ rfl (sx_ (by omega))) f_ zt
theorem Con.range_of {c:Con} (h:c.fine) (hk:c.kind=7):-1099511627776≤c.lo∧c.lo≤c.hi∧c.hi≤1099511627776:=by
 have h0:=((Con.fine_iff c).1 h).1
 rw[Con.fieldErr_ref]at h0
 split at h0
 ·cases h0
 rename_i hs
 simp only[Con.shapeS,hk,Bool.not_eq_false]at hs
 simp at hs
 omega
theorem rS_ (m:Nat) (ihO:(∀ (c:Con),c.sz≤m→c.ok→c.fine→c.sz≤1000→Tri Tryz.prog 122 #[c.val] [] [c.memF] (fun _:Unit=>str c.operand) (fun _=>[]) (fun _=>[]))) (c:Con) (hm:c.sz≤m+1) (hok:c.ok) (hh:c.has) (hz:c.sz≤1000):Tri Tryz.prog 196 #[Con.val c] [] [Con.memF c] (fun _:Unit=>str c.textR) (fun _=>[]) (fun _=>[]):=by
 refine o_ Tryz.func196 rfl rfl Tryz.ntmps196 rfl fun v0=>?_
 have hpl:=Con.ok_len hok
 refine Zz 2 ?_
 refine ah_ rfl rfl fun b1=>Zi 13 (fun hr1=>?_) fun hr1=>?_
 ·refine Zi 6 (fun hr2=>?_) fun hr2=>?_
  ·refine Zi 6 (fun hr3=>?_) fun hr3=>?_
   ·refine Zi 6 (fun hr4=>?_) fun hr4=>?_
    ·refine Zi 6 (fun hr5=>?_) fun hr5=>?_
     ·refine Zi 6 (fun hr6=>?_) fun hr6=>?_
      ·refine Zz 18 ?_
       have hk5:(c.kind=5∧c.fine)∨(c.kind=0∧c.parts=[]):=by rcases hh with h|h;exact .inl ⟨by have:=Con.fine_k h;omega,h⟩;exact .inr h
       have hbd:∀ i,i≤c.parts.length→(Lib.join ((c.parts.take i).map Con.operand) [32,97,110,100,32]).length≤8*100015:=by
         intro i hi
         rcases hk5 with⟨h5,hf⟩|⟨_,h0⟩
         · have h8:=(Con.fields hf).mo
           rw[h5]at h8
           simp[nd,cW_]at h8
           have:=Con.join_bound (sep:=[32,97,110,100,32]) (B:=100010) (xs:=(c.parts.take i).map Con.operand) (fun x hx=>by obtain⟨p,hp,rfl⟩:=List.mem_map.1 hx;exact Con.oper_len hok hf hz (List.mem_of_mem_take hp))
           simp only[List.length_map,List.length_take,List.length_cons,List.length_nil]at this
           have h9:min i c.parts.length≤8:=by omega
           have h10:=Nat.mul_le_mul_right (100010+(0+1+1+1+1+1)) h9
           exact Nat.le_trans this (Nat.le_trans h10 (by decide))
         · rw[h0];simp[Lib.join_nil]
       refine aN_ [(1,zp_ b1 0),(3,str []),(4,.int .i64 ((0:Nat):Int))] zl ?_
       refine aT_ (ι:={z:Nat // z≤c.parts.length}) (fun z=>[(1,zp_ b1 0),(3,str (Lib.join ((c.parts.take z.1).map Con.operand) [32,97,110,100,32])),(4,.int .i64 (z.1:Int))]) (fun _=>_) (fun _=>_) (fun z=>c.parts.length - z.1) ⟨0,by simp⟩ ?_
       rintro ⟨i,hi⟩
       dsimp only
       have hbi:=hbd i hi
       refine aN_ [(1,zp_ b1 0),(3,str (Lib.join ((c.parts.take i).map Con.operand) [32,97,110,100,32])),(4,.int .i64 (i:Int))] zl ?_
       refine Zi 7 (fun hr7=>?_) fun hr7=>?_
       ·refine Zz 12 ?_
        exact G_ fZ_ () (bq_ rfl (by unfold Con.textR;rcases hk5 with⟨h5,_⟩|⟨h0,hp⟩;rw[if_neg (by omega),Con.text_eq,List.take_of_length_le (by omega)];simp[h5];rw[if_pos h0,hp];simp[Lib.join_nil])) f_ zt
       have hfi:c.fine:=hh.elim id (fun q=>by have h0:c.parts.length=0:=(by rw[q.2];rfl);omega)
       obtain⟨hlx1,x1,hx1,hmx1⟩:=zge (show i<List.length (Con.parts c) by omega)
       refine Zi 11 (fun hr8=>?_) fun hr8=>?_
       ·refine Zz 10 ?_
        refine c_ (T_ B_ g_ rfl rfl (fun v _ h=>J_ (n:=5) Con.cells_len (by decide) (by exact ((Con.mem_iff c v).1 h.1).1) hx1) (by omega) (by first|omega|(simp;done))) rfl ?_
        refine c_ (al_ (ad:=(Con.ad c)) (us:=Con.cells x1) w_ g_ rfl (fun v _ h=>by exact ((Con.mem_iff c v).1 h.1).1) (Con.cells_len _) (H_ Con.cells_len hx1)) rfl (i_ (ihO x1 (by have:=Con.sz_part hmx1;omega) (Con.ok_part hok hmx1) (Con.fine_part hfi hmx1) (by have:=Con.sz_part hmx1;omega)) rfl f_ (fun v _ h=>by exact⟨(Con.mem_part (c:=c) h.1 hmx1),trivial⟩) rfl fun _=>?_)
        have hol:=Con.oper_len hok hfi hz hmx1
        refine c_ (bg_ rfl rfl (by first|omega|(simp only[List.length_append,List.length_cons,List.length_nil];omega))) rfl ?_
        refine Zz 9 ?_
        have hst:((Lib.join ((c.parts.take i).map Con.operand) [32,97,110,100,32])++(Con.operand x1))=(Lib.join ((c.parts.take (i+1)).map Con.operand) [32,97,110,100,32]):=by have h0:i=0:=(by omega);subst h0;rw[Con.take_snoc hx1];simp[Lib.join_nil,Lib.join_one]
        exact R_ ⟨i+1,hlx1⟩ (by dsimp only;omega) ⟨rfl,(bq_ rfl hst),rfl,trivial⟩ (.refl _) zh
       refine Zz 5 ?_
       refine c_ (bg_ rfl rfl (by first|omega|(simp only[List.length_append,List.length_cons,List.length_nil];omega))) rfl ?_
       refine Zz 8 ?_
       refine c_ (T_ B_ g_ rfl rfl (fun v _ h=>J_ (n:=5) Con.cells_len (by decide) (by exact ((Con.mem_iff c v).1 h.1).1) hx1) (by omega) (by first|omega|(simp;done))) rfl ?_
       refine c_ (al_ (ad:=(Con.ad c)) (us:=Con.cells x1) w_ g_ rfl (fun v _ h=>by exact ((Con.mem_iff c v).1 h.1).1) (Con.cells_len _) (H_ Con.cells_len hx1)) rfl (i_ (ihO x1 (by have:=Con.sz_part hmx1;omega) (Con.ok_part hok hmx1) (Con.fine_part hfi hmx1) (by have:=Con.sz_part hmx1;omega)) rfl f_ (fun v _ h=>by exact⟨(Con.mem_part (c:=c) h.1 hmx1),trivial⟩) rfl fun _=>?_)
       have hol:=Con.oper_len hok hfi hz hmx1
       refine c_ (bg_ rfl rfl (by first|omega|(simp only[List.length_append,List.length_cons,List.length_nil];omega))) rfl ?_
       refine Zz 9 ?_
       have hst:(((Lib.join ((c.parts.take i).map Con.operand) [32,97,110,100,32])++[32,97,110,100,32])++(Con.operand x1))=(Lib.join ((c.parts.take (i+1)).map Con.operand) [32,97,110,100,32]):=by rw[Con.take_snoc hx1,List.map_append,List.map_cons,List.map_nil,Con.join_snoc _ _ _ (by intro q;have:=congrArg List.length q;rw[List.length_map,List.length_take]at this;simp only[List.length_nil]at this;omega)]
       exact R_ ⟨i+1,hlx1⟩ (by dsimp only;omega) ⟨rfl,(bq_ rfl hst),rfl,trivial⟩ (.refl _) zh
      have hfi:c.fine:=hh.elim id (fun q=>by omega)
      have hnm:=(Con.fields hfi).nm
      have hl6:=(Con.fields hfi).le
      rw[show c.kind=6 by omega]at hl6
      simp[nd,cW_]at hl6
      obtain⟨hlx0,x0,hx0,hmx0⟩:=zge (show 0<List.length (Con.parts c) by omega)
      have hhd:(c.parts.map Con.operand).headD []=Con.operand x0:=by rw[fU_ (x:=Con.operand x0) (by rw[List.getElem?_map,hx0];rfl)]
      refine Zz 6 ?_
      refine U_ 3 [0,1,2,3,4,5,6,7] zk zs (Zz 2 ?_)
      refine y_ rfl (bg_ rfl rfl (by first|omega|(simp only[List.length_append,List.length_cons,List.length_nil];omega))) rfl ?_
      refine y_ rfl (bg_ rfl rfl (by first|omega|(simp only[List.length_append,List.length_cons,List.length_nil];omega))) rfl ?_
      refine Zz 2 ?_
      refine y_ rfl (T_ B_ g_ rfl rfl (fun v _ h=>J_ (n:=5) Con.cells_len (by decide) (by exact ((Con.mem_iff c v).1 h.1).1) hx0) (by omega) (by first|omega|(simp;done))) rfl ?_
      refine y_ rfl (al_ (ad:=(Con.ad c)) (us:=Con.cells x0) w_ g_ rfl (fun v _ h=>by exact ((Con.mem_iff c v).1 h.1).1) (Con.cells_len _) (H_ Con.cells_len hx0)) rfl (aJ_ (u_ 8 rfl zk (i_ (ihO x0 (by have:=Con.sz_part hmx0;omega) (Con.ok_part hok hmx0) (Con.fine_part hfi hmx0) (by have:=Con.sz_part hmx0;omega)) rfl f_ (fun v _ h=>by exact⟨(Con.mem_part (c:=c) h.1 hmx0),trivial⟩) rfl fun _=>?_)))
      have hol:=Con.oper_len hok hfi hz hmx0
      refine Zz 3 ?_
      refine U_ 0 [9,10] zk zs ?_
      refine y_ rfl (bg_ rfl rfl (by first|omega|(simp only[List.length_append,List.length_cons,List.length_nil];omega))) rfl ?_
      refine Zz 5 ?_
      exact G_ fZ_ () (bq_ rfl (by unfold Con.textR;rw[if_neg (by omega),Con.text_eq,hhd];simp[*,Lib.join,List.intercalate])) f_ zt
     have hfi:c.fine:=hh.elim id (fun q=>by omega)
     have hrg:=Con.range_of hfi (by omega)
     have hnm:=(Con.fields hfi).nm
     refine Zz 6 ?_
     refine U_ 6 [0,1,2,3,4,8,9] zk zs (Zz 2 ?_)
     refine y_ rfl (bg_ rfl rfl (by first|omega|(simp only[List.length_append,List.length_cons,List.length_nil];omega))) rfl ?_
     refine Zz 5 ?_
     refine u_ 5 rfl zk (i_ (jy_ _ (Con.lo c) (Nat.le_refl _) (by omega) (by omega)) rfl f_ zt rfl fun _=>?_)
     have hdl:=gs_ (n:=(Con.lo c)) (by omega) (by omega)
     refine Zz 3 ?_
     refine U_ 3 [6,7] zk zs ?_
     refine y_ rfl (bg_ rfl rfl (by first|omega|(simp only[List.length_append,List.length_cons,List.length_nil];omega))) rfl ?_
     refine y_ rfl (bg_ rfl rfl (by first|omega|(simp only[List.length_append,List.length_cons,List.length_nil];omega))) rfl ?_
     refine aJ_ (u_ 10 rfl zk (i_ (jy_ _ (Con.hi c) (Nat.le_refl _) (by omega) (by omega)) rfl f_ zt rfl fun _=>?_))
     have hdh:=gs_ (n:=(Con.hi c)) (by omega) (by omega)
     refine Zz 3 ?_
     refine U_ 0 [11,12] zk zs ?_
     refine y_ rfl (bg_ rfl rfl (by first|omega|(simp only[List.length_append,List.length_cons,List.length_nil];omega))) rfl ?_
     refine Zz 5 ?_
     exact G_ fZ_ () (bq_ rfl (by unfold Con.textR;rw[Con.text_eq];simp[*,Lib.join,List.intercalate])) f_ zt
    have hfi:c.fine:=hh.elim id (fun q=>by omega)
    have hnm:=(Con.fields hfi).nm
    refine Zz 8 ?_
    refine c_ (bg_ rfl rfl (by first|omega|(simp only[List.length_append,List.length_cons,List.length_nil];omega))) rfl ?_
    refine c_ (bg_ rfl rfl (by first|omega|(simp only[List.length_append,List.length_cons,List.length_nil];omega))) rfl ?_
    refine Zz 4 ?_
    exact G_ fZ_ () (bq_ rfl (by unfold Con.textR;rw[Con.text_eq];simp[*,Lib.join,List.intercalate])) f_ zt
   refine Zz 12 ?_
   exact G_ fZ_ () (bq_ rfl (by unfold Con.textR;rw[Con.text_eq];simp[*,Lib.join,List.intercalate])) f_ zt
  refine Zz 10 ?_
  exact G_ fZ_ () (bq_ rfl (by unfold Con.textR;rw[Con.text_eq];simp[*,Lib.join,List.intercalate])) f_ zt
 refine Zz 10 ?_
 exact G_ fZ_ () (bq_ rfl (by unfold Con.textR;rw[Con.text_eq];simp[*,Lib.join,List.intercalate])) f_ zt
theorem nB_ (m:Nat) (ihT:(∀ (c:Con),c.sz≤m→c.ok→c.has→c.sz≤1000→Tri Tryz.prog 196 #[c.val] [] [c.memF] (fun _:Unit=>str c.textR) (fun _=>[]) (fun _=>[]))) (c:Con) (hm:c.sz≤m) (hok:c.ok) (hf:c.fine) (hz:c.sz≤1000):Tri Tryz.prog 122 #[Con.val c] [] [Con.memF c] (fun _:Unit=>str c.operand) (fun _=>[]) (fun _=>[]):=by
 refine o_ Tryz.func122 rfl rfl Tryz.ntmps122 rfl fun v0=>?_
 have htl:=Con.text_len _ c (Nat.le_refl _) hok hf
 have htr:=Con.textR_fine hf
 refine Zz 2 ?_
 refine ah_ rfl rfl fun b1=>Zi 8 (fun hr1=>?_) fun hr1=>?_
 ·refine Zz 8 ?_
  refine i_ (ihT c hm hok (.inl hf) hz) rfl f_ zf rfl fun _=>Zz 4 ?_
  exact G_ Tryz.results122 () (bq_ rfl (by rw[htr];unfold Con.operand;simp[*])) f_ zt
 refine Zz 6 ?_
 refine i_ (ihT c hm hok (.inl hf) hz) rfl f_ zf rfl fun _=>?_
 refine c_ (bg_ rfl rfl (by simp only[List.length_append,List.length_cons,List.length_nil];rw[htr]at *;omega)) rfl ?_
 refine c_ (bg_ rfl rfl (by simp only[List.length_append,List.length_cons,List.length_nil];rw[htr]at *;omega)) rfl ?_
 refine Zz 4 ?_
 exact G_ Tryz.results122 () (bq_ rfl (by rw[htr];unfold Con.operand;simp[*])) f_ zt
theorem jx_:∀ m:Nat,(∀ (c:Con),c.sz≤m→c.ok→c.has→c.sz≤1000→Tri Tryz.prog 196 #[c.val] [] [c.memF] (fun _:Unit=>str c.textR) (fun _=>[]) (fun _=>[]))∧(∀ (c:Con),c.sz≤m→c.ok→c.fine→c.sz≤1000→Tri Tryz.prog 122 #[c.val] [] [c.memF] (fun _:Unit=>str c.operand) (fun _=>[]) (fun _=>[]))
  | 0=>⟨fun c h=>by have:=c.sz_pos;omega,fun c h=>by have:=c.sz_pos;omega⟩
  | m+1 =>
    have ih:=jx_ m
    have hT:∀ (c:Con),c.sz≤m+1→c.ok→c.has→c.sz≤1000→Tri Tryz.prog 196 #[c.val] [] [c.memF] (fun _:Unit=>str c.textR) (fun _=>[]) (fun _=>[]):=fun c h h1 h2 h3=>rS_ m ih.2 c h h1 h2 h3
    ⟨hT,fun c h h1 h2 h3=>nB_ (m+1) hT c h h1 h2 h3⟩
theorem rT_ (c:Con) (hok:c.ok) (hh:c.has) (hz:c.sz≤1000):Tri Tryz.prog 196 #[c.val] [] [c.memF] (fun _:Unit=>str c.textR) (fun _=>[]) (fun _=>[]):=(jx_ _).1 c (Nat.le_refl _) hok hh hz
end Go.Proofs.YtamklbgaipakfaaGreatDoor
namespace Go.Vs
open Go Go.Sx
structure Pw where
  l:List Pc
  ad:Option Addr
  cap:Nat
def Pw.cells (x:Pw):List Value:=[.slice x.ad x.l.length x.cap]
theorem Pw.cells_len (x:Pw):x.cells.length=1:=rfl
def pwF (ls:List Pw):Fct where
  p:=fun v=>∀ x∈ls,bN_ v x.ad (x.l.flatMap Pc.cells)
  mono:=fun v v' h hp x hx=>(aw_ x.ad _).mono v v' h (hp x hx)
theorem eg_ {v:Vw}:(pwF []).p v:=fun _ h=>by simp at h
theorem bE_ {v:Vw} {x:Pw} {ls:List Pw} (h:bN_ v x.ad (x.l.flatMap Pc.cells)) (hs:(pwF ls).p v):(pwF (x::ls)).p v:=fun y hy=>by
 rcases List.mem_cons.1 hy with rfl|hy
 ·exact h
 exact hs y hy
def ez_ (frm:Int) (l ps:List Pc):List Pc:=ps.foldl (ins frm) l
theorem bK_ (frm:Int) (l ps qs:List Pc):ez_ frm l (ps++qs)=ez_ frm (ez_ frm l ps) qs:=by simp[ez_,List.foldl_append]
theorem fT_ (frm:Int) (l:List Pc) (p:Pc) (qs:List Pc):ez_ frm l (p::qs)=ez_ frm (ins frm l p) qs:=rfl
theorem rc_ (frm:Int) (l:List Pc):ez_ frm l []=l:=rfl
theorem ef_ (frm:Int) (l:List Pc) (p:Pc):ez_ frm l [p]=ins frm l p:=rfl
theorem mW_ (frm:Int):∀ (ps l:List Pc),(ez_ frm l ps).length≤l.length+ps.length
  | [],l=>by simp[rc_]
  | p::ps,l=>by
    have h1:=bt_ frm l p
    have h2:=mW_ frm ps (ins frm l p)
    rw[fT_]
    simp only[List.length_cons]
    omega
namespace Con
def firstS (c:Con) (j:Nat):Str:=if j=1 then (c.parts.map atom).headD [] else (c.pre j).atom
def andL (c:Con):List Con→Nat→List Pc
  | [],_=>[]
  | p::r,j=>⟨2,firstS c j,p.atom,firstS c (j+1),[],[],[],0,0,0⟩::andL c r (j+1)
theorem andL_len (c:Con):∀ (r:List Con) (j:Nat),(andL c r j).length=r.length
  | [],_=>rfl
  | p::r,j=>by simp only[andL,List.length_cons,andL_len c r (j+1)]
theorem nj_ (frm:Int) (c:Con):∀ (r:List Con) (j:Nat) (l:List Pc),1≤j→andP frm c r j (firstS c j) l=ez_ frm l (andL c r j)
  | [],_,_,_=>rfl
  | p::r,j,l,h=>by
    have e:(c.pre (j+1)).atom=firstS c (j+1):=by unfold firstS;rw[if_neg (by omega)]
    simp only[andP,andL,fT_]
    rw[e,nj_ frm c r (j+1) _ (by omega)]
def rleft:Con→List Pc
  | c@(mk k nm lo hi _ _ ps) =>
    if k=5 then rlefts ps++andL c (ps.drop 1) 1
    else if k=6 then rlefts ps++[⟨4,(ps.map atom).headD [],[],c.atom,nm,[],[],0,0,0⟩]
    else if k=7 then [⟨9,[],[],c.atom,nm,[],[],lo,hi,0⟩]
    else []
where rlefts:List Con→List Pc
  | []=>[]
  | p::ps=>rleft p++rlefts ps
theorem rleft_eq (c:Con):c.rleft =
    if c.kind=5 then rleft.rlefts c.parts++andL c (c.parts.drop 1) 1
    else if c.kind=6 then rleft.rlefts c.parts++[⟨4,(c.parts.map atom).headD [],[],c.atom,c.name,[],[],0,0,0⟩]
    else if c.kind=7 then [⟨9,[],[],c.atom,c.name,[],[],c.lo,c.hi,0⟩]
    else []:=by cases c;rw[rleft];rfl
theorem hk_:∀ (xs ys:List Con),rleft.rlefts (xs++ys)=rleft.rlefts xs++rleft.rlefts ys
  | [],_=>rfl
  | x::xs,ys=>by simp only[List.cons_append,rleft.rlefts,hk_ xs ys,List.append_assoc]
theorem rlefts_step {ps:List Con} {p:Con} {i:Nat} (hp:ps[i]? = some p):rleft.rlefts (ps.take (i+1))=rleft.rlefts (ps.take i)++p.rleft:=by
  rw[take_snoc hp,hk_];simp[rleft.rlefts]
def rright:Con→List Pc
  | c@(mk k nm lo hi _ _ ps) =>
    if k=5 then rrights c.atom ps
    else if k=6 then ⟨3,c.atom,[],(ps.map atom).headD [],nm,[],[],0,0,0⟩::rrighty ps
    else if k=7 then [⟨8,c.atom,[],[],nm,[],[],lo,hi,0⟩]
    else []
where
  rrights (a:Str):List Con→List Pc
  | []=>[]
  | p::ps=>⟨1,a,[],p.atom,[],[],[],0,0,0⟩::(rright p++rrights a ps)
  rrighty:List Con→List Pc
  | []=>[]
  | p::ps=>rright p++rrighty ps
theorem rright_eq (c:Con):c.rright =
    if c.kind=5 then rright.rrights c.atom c.parts
    else if c.kind=6 then ⟨3,c.atom,[],(c.parts.map atom).headD [],c.name,[],[],0,0,0⟩::rright.rrighty c.parts
    else if c.kind=7 then [⟨8,c.atom,[],[],c.name,[],[],c.lo,c.hi,0⟩]
    else []:=by cases c;rw[rright];rfl
theorem gJ_ (a:Str):∀ (xs ys:List Con),rright.rrights a (xs++ys)=rright.rrights a xs++rright.rrights a ys
  | [],_=>rfl
  | x::xs,ys=>by simp only[List.cons_append,rright.rrights,gJ_ a xs ys,List.append_assoc]
theorem rrights_step (a:Str) {ps:List Con} {p:Con} {i:Nat} (hp:ps[i]? = some p):rright.rrights a (ps.take (i+1))=rright.rrights a (ps.take i)++[⟨1,a,[],p.atom,[],[],[],0,0,0⟩]++p.rright:=by
  rw[take_snoc hp,gJ_];simp[rright.rrights]
theorem leftP_ins (frm:Int):∀ (m:Nat) (c:Con),c.sz≤m→∀ l,c.leftP frm l=ez_ frm l c.rleft
 | 0,c,h=>by have:=c.sz_pos;omega
 | m+1,c,h=>fun l=>by
   have key:∀ ps:List Con,(∀ p∈ps,p.sz≤m)→∀ l,leftP.lefts frm ps l=ez_ frm l (rleft.rlefts ps):=by
     intro ps
     induction ps with
     | nil=>intro _ l;rfl
     | cons p ps ih =>
       intro hp l
       simp only[leftP.lefts,rleft.rlefts]
       rw[leftP_ins frm m p (hp p (by simp)),ih (fun q hq=>hp q (by simp[hq])),bK_]
   have hk:=key c.parts (fun p hp=>by have:=sz_part hp;omega) l
   rw[leftP_eq,rleft_eq]
   split
   · have e:(c.parts.map atom).headD []=firstS c 1:=by unfold firstS;rw[if_pos rfl]
     rw[hk,e,nj_ frm c _ 1 _ (Nat.le_refl _),bK_]
   · split
     · rw[hk,bK_,ef_]
     · split
       · rw[ef_]
       · rfl
theorem rightP_ins (frm:Int):∀ (m:Nat) (c:Con),c.sz≤m→∀ l,c.rightP frm l=ez_ frm l c.rright
 | 0,c,h=>by have:=c.sz_pos;omega
 | m+1,c,h=>fun l=>by
   have key:∀ ps:List Con,(∀ p∈ps,p.sz≤m)→∀ a l,rightP.rights frm a ps l=ez_ frm l (rright.rrights a ps):=by
     intro ps
     induction ps with
     | nil=>intro _ a l;rfl
     | cons p ps ih =>
       intro hp a l
       simp only[rightP.rights,rright.rrights]
       rw[rightP_ins frm m p (hp p (by simp)),ih (fun q hq=>hp q (by simp[hq])),fT_,bK_]
   have key2:∀ ps:List Con,(∀ p∈ps,p.sz≤m)→∀ l,rightP.righty frm ps l=ez_ frm l (rright.rrighty ps):=by
     intro ps
     induction ps with
     | nil=>intro _ l;rfl
     | cons p ps ih =>
       intro hp l
       simp only[rightP.righty,rright.rrighty]
       rw[rightP_ins frm m p (hp p (by simp)),ih (fun q hq=>hp q (by simp[hq])),bK_]
   have hps:∀ p∈c.parts,p.sz≤m:=fun p hp=>by have:=sz_part hp;omega
   rw[rightP_eq,rright_eq]
   split
   · exact key c.parts hps c.atom l
   · split
     · rw[key2 c.parts hps,fT_]
     · split
       · rw[ef_]
       · rfl
theorem rleft_len:∀ (m:Nat) (c:Con),c.sz≤m→c.rleft.length+1≤2*c.sz
 | 0,c,h=>by have:=c.sz_pos;omega
 | m+1,c,h=>by
   have key:∀ ps:List Con,(∀ p∈ps,p.sz≤m)→(rleft.rlefts ps).length+ps.length≤2*sz.szs ps:=by
     intro ps
     induction ps with
     | nil=>intro _;simp[rleft.rlefts]
     | cons p ps ih =>
       intro hp
       have h1:=rleft_len m p (hp p (by simp))
       have h2:=ih fun q hq=>hp q (by simp[hq])
       simp only[rleft.rlefts,sz.szs,List.length_append,List.length_cons]
       omega
   have hk:=key c.parts (fun p hp=>by have:=sz_part hp;omega)
   have hz:=sz_eq c
   rw[rleft_eq]
   split
   · rw[List.length_append,andL_len,List.length_drop];omega
   · split
     · simp only[List.length_append,List.length_cons,List.length_nil];omega
     · split<;>simp only[List.length_cons,List.length_nil]<;>omega
theorem rright_len:∀ (m:Nat) (c:Con),c.sz≤m→c.rright.length+1≤2*c.sz
 | 0,c,h=>by have:=c.sz_pos;omega
 | m+1,c,h=>by
   have key:∀ ps:List Con,(∀ p∈ps,p.sz≤m)→∀ a,(rright.rrights a ps).length≤2*sz.szs ps:=by
     intro ps
     induction ps with
     | nil=>intro _ a;simp[rright.rrights]
     | cons p ps ih =>
       intro hp a
       have h1:=rright_len m p (hp p (by simp))
       have h2:=ih (fun q hq=>hp q (by simp[hq])) a
       simp only[rright.rrights,sz.szs,List.length_append,List.length_cons]
       omega
   have key2:∀ ps:List Con,(∀ p∈ps,p.sz≤m)→(rright.rrighty ps).length≤2*sz.szs ps:=by
     intro ps
     induction ps with
     | nil=>intro _;simp[rright.rrighty]
     | cons p ps ih =>
       intro hp
       have h1:=rright_len m p (hp p (by simp))
       have h2:=ih fun q hq=>hp q (by simp[hq])
       simp only[rright.rrighty,sz.szs,List.length_append]
       omega
   have hps:∀ p∈c.parts,p.sz≤m:=fun p hp=>by have:=sz_part hp;omega
   have hk:=key c.parts hps c.atom
   have hk2:=key2 c.parts hps
   have hz:=sz_eq c
   rw[rright_eq]
   split
   · omega
   · split
     · simp only[List.length_cons];omega
     · split<;>simp only[List.length_cons,List.length_nil]<;>omega
def nameR (c:Con):Str :=
  if c.kind=1 then [42] else if c.kind=2 then [33] else if c.kind=3 then c.name else if c.kind=4 then [123]++c.name++[125] else [60]++c.textR++[62]
theorem nameR_eq {c:Con} (h:c.check=0):c.nameR=c.atom:=by
  unfold nameR atom textN
  rw[if_pos h,textR_fine (check_zero h).1]
theorem has_of {c:Con} (h:c.check=0):c.has:=.inl (check_zero h).1
end Con
namespace Ax
def chainL (role:Str):List Str→Str→List Pc
  | [],_=>[]
  | r::t,f=>⟨6,[],[],[],f,r,if t=[] then role else f++[46]++r,0,0,0⟩::chainL role t (if t=[] then role else f++[46]++r)
theorem jW_ (frm:Int) (role:Str):∀ (rs:List Str) (f:Str) (l:List Pc),chainP frm role rs f l=ez_ frm l (chainL role rs f)
  | [],_,_=>rfl
  | r::t,f,l=>by simp only[chainP,chainL,fT_];exact jW_ frm role t _ _
theorem chainL_len (role:Str):∀ (rs:List Str) (f:Str),(chainL role rs f).length=rs.length
  | [],_=>rfl
  | r::t,f=>by simp only[chainL,List.length_cons,chainL_len role t]
def rpieces (x:Ax):List Pc :=
  if x.kind=1 then (x.left.rleft++x.right.rright)++[⟨1,x.left.atom,[],x.right.atom,[],[],[],0,0,0⟩]
  else if x.kind=2 then ((((x.left.rleft++x.right.rright)++[⟨1,x.left.atom,[],x.right.atom,[],[],[],0,0,0⟩])++x.right.rleft)++x.left.rright)++[⟨1,x.right.atom,[],x.left.atom,[],[],[],0,0,0⟩]
  else if x.kind=3 then (x.left.rleft++x.right.rleft)++[⟨2,x.left.atom,x.right.atom,[33],[],[],[],0,0,0⟩]
  else if x.kind=4 then x.right.rright++[⟨4,[42],[],x.right.atom,x.role,[],[],0,0,0⟩]
  else if x.kind=5 then [⟨5,[],[],[],x.roles.headD [],[],x.role,0,0,0⟩]
  else if x.kind=6 then chainL x.role (x.roles.drop 1) (x.roles.headD [])
  else if x.kind=7 then [⟨7,[],[],[],x.role,[],[],0,0,0⟩]
  else if x.kind=8 then x.right.rright++[⟨1,[123]++x.a++[125],[],x.right.atom,[],[],[],0,0,0⟩]
  else [⟨3,[123]++x.a++[125],[],[123]++x.b++[125],x.role,[],[],0,0,0⟩]
theorem pieces_ins (frm:Int) (x:Ax):x.pieces frm=ez_ frm [] x.rpieces:=by
 have L:=fun (c:Con) l=>Con.leftP_ins frm _ c (Nat.le_refl _) l
 have R:=fun (c:Con) l=>Con.rightP_ins frm _ c (Nat.le_refl _) l
 unfold pieces rpieces
 split
 ·rw[L,R,bK_,bK_,ef_]
 split
 ·rw[L,R,L,R,bK_,bK_,bK_,bK_,bK_,ef_,ef_]
 split
 ·rw[L,L,bK_,bK_,ef_]
 split
 ·rw[R,bK_,ef_]
 split
 ·rfl
 split
 ·exact jW_ frm _ _ _ _
 split
 ·rfl
 split
 ·rw[R,bK_,ef_]
 rfl
end Ax
end Go.Vs
