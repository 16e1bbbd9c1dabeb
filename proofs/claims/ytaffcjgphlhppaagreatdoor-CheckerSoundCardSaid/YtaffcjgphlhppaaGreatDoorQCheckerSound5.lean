/-
  Part of the proof of the law CheckerSound over this seat: the small logic, the data, the contracts of functions (no condition).
-/
import Derived.Test.YtaffcjgphlhppaaGreatDoorQCheckerSound2
import Derived.Test.YtaffcjgphlhppaaGreatDoorQCheckerSound4
import Derived.Test.YtaffcjgphlhppaaGreatDoorQCheckerSound3
import Derived.ProofKit
import Derived.OpenShut
import Derived.ReadAgain
import Derived.Deep.Slices
import Derived.SevenTiedAt
import Derived.Stop.Joined
import Derived.Lay
import Derived.LaidMore
import Derived.Lib.SlicesCompact
import Derived.Sort.EncStr
set_option linter.unusedVariables false
set_option linter.unusedSimpArgs false
set_option linter.unusedSectionVars false
set_option maxHeartbeats 1000000
namespace Go.Proofs.YtaffcjgphlhppaaGreatDoor
open Go Go.Sx Go.Proofs
attribute [local irreducible] Code.wp wpList wpAnyH
open Go.Vs
theorem Y_ {N:Nf} {fr:Fr} {H:Hp} {Γ:List Fct} {ty t':TypeId} {x y:Operand} {p q:Fc} (hx:Fr.ev fr x=some p.val) (hy:Fr.ev fr y=some q.val):Yld Tryz.prog N fr H Γ (.binOp .eql 24 x y t') ty (.bool (decide (p=q))) :=
  fun a v h1 _ _ _ _ _=>by
    have hg:(Program.eqGuardType Tryz.prog Tryz.prog.depth 24)=false:=by kernel_rfl
    have he:=eqFc p q v.w
    simp only[execOp,h1.ev hx,h1.ev hy,eqGuard,Fc.val,binOp,Op.equal,Sem.run_bind,Result.andThen_ok]
    simp only[run_program,Result.andThen_ok,hg,Bool.not_false,if_true,Sem.run_pure]
    simp only[Fc.val]at he
    simp[Op.maxDepth,he]
theorem fs_ {N:Nf} {fr:Fr} {H:Hp} {Γ:List Fct} {ty t':TypeId} {x y:Operand} {p q:Fc} (hx:Fr.ev fr x=some p.val) (hy:Fr.ev fr y=some q.val):Yld Tryz.prog N fr H Γ (.binOp .neq 24 x y t') ty (.bool (decide (p≠q))) :=
  fun a v h1 _ _ _ _ _=>by
    have hg:(Program.eqGuardType Tryz.prog Tryz.prog.depth 24)=false:=by kernel_rfl
    have he:=eqFc p q v.w
    simp only[execOp,h1.ev hx,h1.ev hy,eqGuard,Fc.val,binOp,Op.equal,Sem.run_bind,Result.andThen_ok]
    simp only[run_program,Result.andThen_ok,hg,Bool.not_false,if_true,Sem.run_pure]
    simp only[Fc.val]at he
    simp[Op.maxDepth,he]
theorem mk_ (s:Str) (c:UInt8):Fn0 Tryz.prog 216 #[str s,str [c]] (.int .i64 (Lib.indexByte s c)) :=
  gV_ (callable Tryz.func216 rfl rfl) fun w=>(Tryz.strings_Index_one ⟨s.toArray⟩ c w).mono (by rintro e w' ⟨rfl,rfl⟩;exact⟨rfl,rfl,rfl,rfl,rfl,Nat.le_refl _⟩)
theorem lb_ (s:Str) (c:UInt8) (k:Nat) (hk:ixS c s=some k):Fn0 Tryz.prog 216 #[str s,str [c]] (.int .i64 (k:Int)):=by
  have h:=mk_ s c
  rw[jO_,hk]at h
  exact h
theorem rc_ (s:Str) (c:UInt8):Fn0 Tryz.prog 215 #[str s,str [c]] (.int .i64 (dG_ c s:Int)) :=
  gV_ (callable Tryz.func215 rfl rfl) fun w=>(Tryz.strings_Count_one ⟨s.toArray⟩ c w).mono (by rintro e w' ⟨rfl,rfl⟩;exact⟨rfl,rfl,rfl,rfl,rfl,Nat.le_refl _⟩)
theorem ok_H {N:Nf} {v0:Vw} {H0:Hp} {k:Act→World→Prop} {fr:Fr} {H H':Hp} {Γ:List Fct} (e:H=H') (h:Ok N v0 H0 k fr H' Γ):Ok N v0 H0 k fr H Γ:=e▸h
theorem oD_ (s:Str) (c:UInt8) (hs:s.length≤17592186044414):Tri Tryz.prog 185 #[str s,str [c],.int .i64 0,.int .i64 (-1)] [] [] (fun b:Nat=>.slice (some ⟨b,0,none⟩) (bk_ c s).length (bk_ c s).length) (fun _=>[]) (fun b=>[at_ (some ⟨b,0,none⟩) ((bk_ c s).flatMap bw_)]):=by
 have hcl:=iS_ c s
 refine t_ Tryz.func185 rfl rfl Tryz.ntmps185 rfl fun v0=>?_
 refine Zi 9 (fun hr1=>?_) fun hr1=>?_
 ·refine Zi 9 (fun hr2=>?_) fun hr2=>?_
  ·refine Zi 9 (fun hr3=>?_) fun hr3=>?_
   ·exact absurd (by decide) hr3
   refine Zz 6 ?_
   refine q_ (rc_ s c) rfl (.refl _) zt rfl fun _=>Zz 8 ?_
   refine d_ (bR_ H_ rfl) rfl (Zz 1 ?_)
   refine d_ (bF_ (oQ_ rfl rfl) (show _=Value.int .i64 ((dG_ c s+1:Nat):Int) by rw[if_neg (by omega)];rfl)) rfl ?_
   refine Zz 6 ?_
   refine pW_ (n:=dG_ c s+1) (by':=16) lo_ (z:=.string ⟨#[]⟩) zk rfl rfl rfl (by omega) (by omega) rfl fun b1=>Zz 6 ?_
   refine d_ (bF_ (bC_ rfl rfl rfl (cZ_ (by omega) (by omega))) (show _=Value.int .i64 (dG_ c s:Int) by first|rfl|(congr 1;omega))) rfl ?_
   refine Zz 10 ?_
   refine dA_ [(0,str s),(1,str [c]),(2,.int .i64 0),(3,.int .i64 (dG_ c s:Int)),(9,.slice (some ⟨b1,0,none⟩) (dG_ c s+1) (dG_ c s+1)),(10,.int .i64 ((0:Nat):Int))] zl ?_
   refine dO_ (ι:={x:Nat×List Str×Str // x.2.1.length=x.1∧bk_ c s=x.2.1++bk_ c x.2.2∧x.1+dG_ c x.2.2=dG_ c s∧x.2.2.length≤s.length}) (fun x=>[(0,str x.1.2.2),(1,str [c]),(2,.int .i64 0),(3,.int .i64 (dG_ c s:Int)),(9,.slice (some ⟨b1,0,none⟩) (dG_ c s+1) (dG_ c s+1)),(10,.int .i64 (x.1.1:Int))]) (fun x=>[(b1,.cells (x.1.2.1.map str++List.replicate (dG_ c s+1 - x.1.1) (Value.string ⟨#[]⟩)).toArray 9 (0,0))]) (fun _=>_) (fun x=>dG_ c s - x.1.1) ⟨(0,[],s),rfl,rfl,by simp,by simp⟩ ?_
   rintro ⟨⟨i,dn,r⟩,hk⟩
   dsimp only at hk
   obtain⟨hk1,hk2,hk3,hk4⟩:=hk
   refine dA_ [(0,str r),(1,str [c]),(2,.int .i64 0),(3,.int .i64 (dG_ c s:Int)),(9,.slice (some ⟨b1,0,none⟩) (dG_ c s+1) (dG_ c s+1)),(10,.int .i64 (i:Int))] zl ?_
   have hrep:∀ k,k<dG_ c s+1→List.replicate (dG_ c s+1 - k) (Value.string ⟨#[]⟩)=Value.string ⟨#[]⟩::List.replicate (dG_ c s - k) (Value.string ⟨#[]⟩):=fun k hk=>by rw[show dG_ c s+1 - k=(dG_ c s - k)+1 by omega];rfl
   refine ok_H (H':=[(b1,.cells (dn.map str++Value.string ⟨#[]⟩::List.replicate (dG_ c s - i) (Value.string ⟨#[]⟩)).toArray 9 (0,0))]) (by dsimp only;rw[hrep i (by omega)]) ?_
   refine Zi 5 (fun hr4=>?_) fun hr4=>?_
   ·obtain rfl:i=dG_ c s:=by omega
    have hr0 : bk_ c r = [r] := by
                  cases hx:ixS c r with
                  | none=>exact hh_ hx
                  | some k=>have:=ma_ hx;omega
    rw[hr0]at hk2
    refine Zz 10 ?_
    refine d_ (hC_ N_ al_ rfl rfl (by omega) (by omega)) rfl (kr_ 0 al_ rfl rfl rfl (by simp[hk1]) rfl rfl (Zz 6 ?_))
    refine d_ (bF_ (bC_ rfl rfl rfl (cZ_ (by omega) (by omega))) (show _=Value.int .i64 ((dG_ c s+1:Nat):Int) by first|rfl|(congr 1;omega))) rfl ?_
    refine d_ (bF_ (fx_ (i:=0) (j:=dG_ c s+1) (kl:=.i64) (kh:=.i64) N_ al_ rfl rfl rfl (by omega) (by omega)) (show _=Value.slice (some ⟨b1,0,none⟩) (dG_ c s+1) (dG_ c s+1) by rw[rb_];rfl)) rfl ?_
    refine Zz 4 ?_
    refine bu_ ((bk_ c s).flatMap bw_) e_ (by rw[hk2,kc_];simp) ?_
    have hl:=dC_ c s
    exact J_ Tryz.results185 b1 (hN_ rfl (by rw[hl])) (.refl _) zf
   obtain ⟨k, hix⟩ : ∃ k, ixS c r = some k := by
                 cases hx:ixS c r with
                 | none=>have:=qq_ hx;omega
                 | some k=>exact⟨k,rfl⟩
   have hcs:=ma_ hix
   have hkl:=oz_ hix
   refine Zz 10 ?_
   refine q_ (lb_ r c k hix) rfl (.refl _) zt rfl fun _=>Zi 7 (fun hr5=>?_) fun hr5=>?_
   ·refine Zz 12 ?_
    refine d_ (bF_ (bC_ rfl rfl rfl (cZ_ (by omega) (by omega))) (show _=Value.int .i64 (k:Int) by first|rfl|(congr 1;omega))) rfl ?_
    refine d_ (bF_ (eM_ (i:=0) (j:=k) (kl:=.i64) (kh:=.i64) H_ rfl rfl rfl (by omega) (by omega)) (show _=str (r.take k) by simp)) rfl (d_ (hC_ N_ al_ rfl rfl (by omega) (by omega)) rfl (kr_ 0 al_ rfl rfl rfl (by simp[hk1]) rfl rfl (Zz 7 ?_)))
    refine d_ (bR_ H_ rfl) rfl (d_ (bF_ (bC_ rfl rfl rfl (cZ_ (by simp only[List.length_cons,List.length_nil];omega) (by simp only[List.length_cons,List.length_nil];omega))) (show _=Value.int .i64 ((k+1:Nat):Int) by first|rfl|(congr 1;omega))) rfl ?_)
    refine d_ (bF_ (eM_ (i:=k+1) (j:=r.length) (kl:=.i64) (kh:=.i64) H_ rfl rfl rfl (by omega) (by omega)) (show _=str (r.drop (k+1)) by rw[List.take_of_length_le (by simp)])) rfl (Zz 5 ?_)
    refine d_ (bF_ (bC_ rfl rfl rfl (cZ_ (by omega) (by omega))) (show _=Value.int .i64 ((i+1:Nat):Int) by first|rfl|(congr 1;omega))) rfl ?_
    refine Zz 3 ?_
    exact Q_ ⟨(i+1,dn++[r.take k],r.drop (k+1)),by simp[hk1],by rw[hk2,hg_ hix,List.append_assoc];rfl,by dsimp only;omega,by simp;omega⟩ (by dsimp only;omega) zl (F:=[]) (List.Perm.of_eq (by simp[show dG_ c s+1 - (i+1)=dG_ c s - i by omega])) zh
   exfalso;omega
  cases hr2
 exact absurd hr1 (by decide)
theorem oX_ (s:Str) (c:UInt8) (hs:s.length≤17592186044414):Tri Tryz.prog 156 #[str s,str [c]] [] [] (fun b:Nat=>.slice (some ⟨b,0,none⟩) (bk_ c s).length (bk_ c s).length) (fun _=>[]) (fun b=>[at_ (some ⟨b,0,none⟩) ((bk_ c s).flatMap bw_)]):=by
  refine t_ Tryz.func156 rfl rfl Tryz.ntmps156 rfl fun v0=>?_
  refine Zz 9 ?_
  refine q_ (oD_ s c hs) rfl (.refl _) zt rfl fun b=>Zz 4 ?_
  exact J_ Tryz.results156 b rfl (.refl _) zf
end Go.Proofs.YtaffcjgphlhppaaGreatDoor
namespace Go.Proofs.YtaffcjgphlhppaaGreatDoor
open Go Go.Sx Go.Proofs
attribute [local irreducible] Code.wp wpList wpAnyH
open Go.Vs
theorem mA_ {g:FuncId} {pred:Str→Bool} (xs:List Str) (ad:Option Addr) (cap:Nat) (hlen:xs.length≤17592186044415) (hT:∀ x∈xs,Fn0 Tryz.prog g #[str x] (.bool (pred x))) :
    Tri Tryz.prog 186 #[.slice ad (List.length xs) cap,.func (.func g) #[] #[]] [] [at_ ad (List.flatMap bw_ xs)] (fun r:{r:Int // decide (0≤r)=xs.any pred}=>.int .i64 r.1) (fun _=>[]) (fun _=>[]):=by
  refine t_ Tryz.func186 rfl rfl Tryz.ntmps186 rfl fun v0=>?_
  refine Zz 14 ?_
  refine dA_ [(0,.slice ad (List.length xs) cap),(1,.func (.func g) #[] #[]),(7,.int .i64 (List.length xs:Int)),(8,.int .i64 ((0:Nat):Int))] zl ?_
  refine dO_ (ι:={q:Nat // q≤xs.length∧(xs.take q).any pred=false}) (fun i=>[(0,.slice ad (List.length xs) cap),(1,.func (.func g) #[] #[]),(7,.int .i64 (List.length xs:Int)),(8,.int .i64 (i.1:Int))]) (fun _=>_) (fun _=>_) (fun i=>xs.length - i.1) ⟨0,by simp⟩ ?_
  rintro ⟨i,hk⟩
  refine dA_ [(0,.slice ad (List.length xs) cap),(1,.func (.func g) #[] #[]),(7,.int .i64 (List.length xs:Int)),(8,.int .i64 (i:Int))] zl ?_
  refine Zi 2 (fun hr1=>?_) fun hr1=>?_
  · skip
    refine Zz 12 ?_
    exact J_ Tryz.results186 ⟨-1,by have:=hk.2;rw[List.take_of_length_le (by omega)]at this;show _=xs.any pred;rw[this];rfl⟩ rfl (.refl _) zt
  · skip
    obtain⟨hlx1,x1,hx1,hmx1⟩:=zge (show i<List.length xs by omega)
    refine Zz 21 ?_
    refine bP_ (hT x1 hmx1) rfl rfl g_ zt rfl fun r2 hr2=>Zz 2 ?_
    cases r2
    · skip
      refine Zz 8 ?_
      exact Q_ ⟨i+1,hlx1,by rw[List.take_add_one,hx1];simp only[Option.toList_some,List.any_append,hk.2];simp[*]⟩ (by simp;omega) zl (.refl _) zh
    · skip
      refine Zz 8 ?_
      exact J_ Tryz.results186 ⟨(i:Int),by show _=xs.any pred;rw[show xs.any pred=true from List.any_eq_true.2 ⟨x1,hmx1,by assumption⟩];exact decide_eq_true (by omega)⟩ rfl (.refl _) zt
theorem jJ_ {g:FuncId} {pred:Str→Bool} (xs:List Str) (ad:Option Addr) (cap:Nat) (hlen:xs.length≤17592186044415) (hT:∀ x∈xs,Fn0 Tryz.prog g #[str x] (.bool (pred x))) :
    Tri Tryz.prog 157 #[.slice ad (List.length xs) cap,.func (.func g) #[] #[]] [] [at_ ad (List.flatMap bw_ xs)] (fun _:Unit=>.bool (xs.any pred)) (fun _=>[]) (fun _=>[]):=by
  refine t_ Tryz.func157 rfl rfl Tryz.ntmps157 rfl fun v0=>?_
  refine Zz 9 ?_
  refine q_ (mA_ xs ad cap hlen hT) rfl g_ zf rfl fun x=>O_ (gH_ rfl rfl) rfl fun r1 hr1=>Zz 4 ?_
  exact J_ Tryz.results157 () (f_ rfl (hr1.symm.trans x.2)) (.refl _) zt
theorem qf_ (s:Str) (hs:s.length≤140737488351232):Fn0 Tryz.prog 158 #[str s] (.bool (!bm_ s)):=by
  refine t_ Tryz.func158 rfl rfl Tryz.ntmps158 rfl fun v0=>?_
  refine Zz 8 ?_
  refine S_ (dZ_ s hs) rfl g_ zt rfl fun r1 hr1=>d_ (bj_ rfl) rfl (Zz 4 ?_)
  exact J_ Tryz.results158 () (f_ rfl (by simp[*])) (.refl _) zt
theorem fB_ {c:UInt8}:∀ {s x:Str},x∈bk_ c s→x.length≤s.length
 | [],x,h=>by simp[bk_]at h;simp[h]
 | b::s,x,h=>by
   simp only[bk_]at h
   split at h
   · rcases List.mem_cons.1 h with rfl|h
     · simp
     · have:=fB_ h;simp only[List.length_cons];omega
   · cases hs:bk_ c s with
     | nil=>exact absurd hs (lx_ c s)
     | cons y t =>
       rw[hs]at h
       rcases List.mem_cons.1 h with rfl|h
       · have:=fB_ (c:=c) (s:=s) (x:=y) (by rw[hs];simp);simp only[List.length_cons];omega
       · have:=fB_ (c:=c) (s:=s) (x:=x) (by rw[hs];simp[h]);simp only[List.length_cons];omega
theorem ho_ (s:Str) (hs:s.length≤17592186044414):Fn0 Tryz.prog 84 #[str s] (.bool (di_ s)):=by
 refine t_ Tryz.func84 rfl rfl Tryz.ntmps84 rfl fun v0=>?_
 have hsl:=dC_ 46 s
 have hcl:=iS_ 46 s
 refine Zz 8 ?_
 refine q_ (oX_ s 46 hs) rfl g_ zt rfl fun b=>Zi 7 (fun hr1=>?_) fun hr1=>?_
 ·refine Zz 9 ?_
  exact J_ Tryz.results84 () (f_ rfl (by unfold di_;subst_vars;rw[Bool.eq_iff_iff];simp_all<;>omega)) (.refl _) zt
 refine Zz 4 ?_
 refine S_ (jJ_ (pred:=fun r=>!bm_ r) (bk_ 46 s) _ _ (by omega) (fun x hx=>qf_ x (by have:=fB_ hx;omega))) rfl g_ zf rfl fun r2 hr2=>?_
 refine y_ rfl rfl (d_ (bj_ rfl) rfl (Zz 5 ?_))
 exact J_ Tryz.results84 () (f_ rfl (by unfold di_;subst_vars;rw[Bool.eq_iff_iff];simp_all<;>omega)) (.refl _) zt
theorem gt_ (s:Str) (hs:s.length≤140737488351232):Fn0 Tryz.prog 86 #[str s] (.bool (be_ s)):=by
 refine t_ Tryz.func86 rfl rfl Tryz.ntmps86 rfl fun v0=>?_
 refine Zz 8 ?_
 refine d_ (bR_ H_ rfl) rfl (Zi 8 (fun hr1=>?_) fun hr1=>?_)
 ·refine Zi 4 (fun hr2=>?_) fun hr2=>?_
  ·refine Zi 8 (fun hr3=>?_) fun hr3=>?_
   ·refine Zi 19 (fun hr4=>?_) fun hr4=>?_
    ·refine Zz 21 ?_
     refine S_ (dZ_ _ (by first|exact hs|(simp;omega))) rfl g_ zt rfl fun r5 hr5=>?_
     refine Zz 4 ?_
     exact J_ cR_ () (f_ rfl (by unfold be_;(repeat (any_goals split))<;>first|rfl|(simp_all;done)|(exfalso;simp_all;omega)|(exfalso;simp_all;done))) (.refl _) zt
    exfalso;omega
   obtain⟨c,hc⟩:∃ c,s[0]? = some c:=⟨_,List.getElem?_eq_getElem (by omega)⟩
   obtain⟨e,he⟩:∃ e,s[s.length - 1]? = some e:=⟨_,List.getElem?_eq_getElem (by omega)⟩
   have hc123 : (s[0]? = some 123) ↔ ((c.toNat : Int) = 123) := by
                       rw[hc];simp only[Option.some.injEq];exact⟨fun q=>by subst q;rfl,fun q=>UInt8.toNat_inj.1 (by show c.toNat=123;omega)⟩
   have he125 : (s[s.length - 1]? = some 125) ↔ ((e.toNat : Int) = 125) := by
                       rw[he];simp only[Option.some.injEq];exact⟨fun q=>by subst q;rfl,fun q=>UInt8.toNat_inj.1 (by show e.toNat=125;omega)⟩
   have hc60 : (s[0]? = some 60) ↔ ((c.toNat : Int) = 60) := by
                       rw[hc];simp only[Option.some.injEq];exact⟨fun q=>by subst q;rfl,fun q=>UInt8.toNat_inj.1 (by show c.toNat=60;omega)⟩
   have he62 : (s[s.length - 1]? = some 62) ↔ ((e.toNat : Int) = 62) := by
                       rw[he];simp only[Option.some.injEq];exact⟨fun q=>by subst q;rfl,fun q=>UInt8.toNat_inj.1 (by show e.toNat=62;omega)⟩
   refine Zz 4 ?_
   refine d_ (ch_ H_ rfl rfl (by decide) hc) rfl (y_ rfl rfl ?_)
   refine Zi 0 (fun hr6=>?_) fun hr6=>?_
   ·refine Zi 15 (fun hr7=>?_) fun hr7=>?_
    ·refine Zz 21 ?_
     refine S_ (dZ_ _ (by first|exact hs|(simp;omega))) rfl g_ zt rfl fun r8 hr8=>?_
     refine Zz 4 ?_
     exact J_ cR_ () (f_ rfl (by unfold be_;(repeat (any_goals split))<;>first|rfl|(simp_all;done)|(exfalso;simp_all;omega)|(exfalso;simp_all;done))) (.refl _) zt
    refine Zz 4 ?_
    refine d_ (ch_ H_ rfl rfl (by decide) hc) rfl (y_ rfl rfl ?_)
    refine Zi 0 (fun hr9=>?_) fun hr9=>?_
    ·refine Zz 17 ?_
     refine S_ (dZ_ _ (by first|exact hs|(simp;omega))) rfl g_ zt rfl fun r10 hr10=>?_
     refine Zz 4 ?_
     exact J_ cR_ () (f_ rfl (by unfold be_;(repeat (any_goals split))<;>first|rfl|(simp_all;done)|(exfalso;simp_all;omega)|(exfalso;simp_all;done))) (.refl _) zt
    refine Zz 9 ?_
    refine d_ (ch_ H_ rfl rfl (by omega) (show s[((s.length:Int) - 1).toNat]? = some e by rw[show ((s.length:Int) - 1).toNat=s.length - 1 by omega];exact he)) rfl ?_
    refine y_ rfl rfl ?_
    refine Zi 0 (fun hr11=>?_) fun hr11=>?_
    ·refine Zz 10 ?_
     refine S_ (dZ_ _ (by first|exact hs|(simp;omega))) rfl g_ zt rfl fun r12 hr12=>?_
     refine Zz 4 ?_
     exact J_ cR_ () (f_ rfl (by unfold be_;(repeat (any_goals split))<;>first|rfl|(simp_all;done)|(exfalso;simp_all;omega)|(exfalso;simp_all;done))) (.refl _) zt
    refine Zz 11 ?_
    exact J_ cR_ () (f_ rfl (by unfold be_;(repeat (any_goals split))<;>first|rfl|(simp_all;done)|(exfalso;simp_all;omega)|(exfalso;simp_all;done))) (.refl _) zt
   refine Zz 9 ?_
   refine d_ (ch_ H_ rfl rfl (by omega) (show s[((s.length:Int) - 1).toNat]? = some e by rw[show ((s.length:Int) - 1).toNat=s.length - 1 by omega];exact he)) rfl ?_
   refine y_ rfl rfl ?_
   refine Zi 0 (fun hr13=>?_) fun hr13=>?_
   ·refine Zi 8 (fun hr14=>?_) fun hr14=>?_
    ·refine Zz 21 ?_
     refine S_ (dZ_ _ (by first|exact hs|(simp;omega))) rfl g_ zt rfl fun r15 hr15=>?_
     refine Zz 4 ?_
     exact J_ cR_ () (f_ rfl (by unfold be_;(repeat (any_goals split))<;>first|rfl|(simp_all;done)|(exfalso;simp_all;omega)|(exfalso;simp_all;done))) (.refl _) zt
    refine Zz 4 ?_
    refine d_ (ch_ H_ rfl rfl (by decide) hc) rfl (y_ rfl rfl ?_)
    refine Zi 0 (fun hr16=>?_) fun hr16=>?_
    ·refine Zz 17 ?_
     refine S_ (dZ_ _ (by first|exact hs|(simp;omega))) rfl g_ zt rfl fun r17 hr17=>?_
     refine Zz 4 ?_
     exact J_ cR_ () (f_ rfl (by unfold be_;(repeat (any_goals split))<;>first|rfl|(simp_all;done)|(exfalso;simp_all;omega)|(exfalso;simp_all;done))) (.refl _) zt
    refine Zz 9 ?_
    refine d_ (ch_ H_ rfl rfl (by omega) (show s[((s.length:Int) - 1).toNat]? = some e by rw[show ((s.length:Int) - 1).toNat=s.length - 1 by omega];exact he)) rfl ?_
    refine y_ rfl rfl ?_
    refine Zi 0 (fun hr18=>?_) fun hr18=>?_
    ·refine Zz 10 ?_
     refine S_ (dZ_ _ (by first|exact hs|(simp;omega))) rfl g_ zt rfl fun r19 hr19=>?_
     refine Zz 4 ?_
     exact J_ cR_ () (f_ rfl (by unfold be_;(repeat (any_goals split))<;>first|rfl|(simp_all;done)|(exfalso;simp_all;omega)|(exfalso;simp_all;done))) (.refl _) zt
    refine Zz 11 ?_
    exact J_ cR_ () (f_ rfl (by unfold be_;(repeat (any_goals split))<;>first|rfl|(simp_all;done)|(exfalso;simp_all;omega)|(exfalso;simp_all;done))) (.refl _) zt
   refine Zz 10 ?_
   refine d_ (eM_ (i:=1) (j:=s.length - 1) (kl:=.i64) (kh:=.i64) H_ rfl rfl (show _=some (Value.int .i64 ((s.length - 1:Nat):Int)) by rw[show ((s.length - 1:Nat):Int)=(s.length:Int) - 1 by omega];rfl) (by omega) (by omega)) rfl ?_
   refine S_ (dZ_ _ (by first|exact hs|(simp;omega))) rfl g_ zt rfl fun r20 hr20=>?_
   refine Zz 4 ?_
   exact J_ cR_ () (f_ rfl (by unfold be_;(repeat (any_goals split))<;>first|rfl|(simp_all;done)|(exfalso;simp_all;omega)|(exfalso;simp_all;done))) (.refl _) zt
  refine Zz 11 ?_
  exact J_ cR_ () (f_ rfl (by unfold be_;(repeat (any_goals split))<;>first|rfl|(simp_all;done)|(exfalso;simp_all;omega)|(exfalso;simp_all;done))) (.refl _) zt
 refine Zz 14 ?_
 exact J_ cR_ () (f_ rfl (by unfold be_;(repeat (any_goals split))<;>first|rfl|(simp_all;done)|(exfalso;simp_all;omega)|(exfalso;simp_all;done))) (.refl _) zt
end Go.Proofs.YtaffcjgphlhppaaGreatDoor
namespace Go.Proofs.YtaffcjgphlhppaaGreatDoor
open Go Go.Sx Go.Proofs
attribute [local irreducible] Code.wp wpList wpAnyH
open Go.Vs
theorem eg_ {g:FuncId} (used:Bool) (s:Str) (q:Str→Bool) (hT:Fn0 Tryz.prog g #[str s] (.bool (q s))):Fn0 Tryz.prog 83 #[.bool used,str s,.func (.func g) #[] #[]] (.bool (cr_ used s q)):=by
 refine t_ Tryz.func83 rfl rfl Tryz.ntmps83 rfl fun v0=>?_
 refine Zz 9 ?_
 cases used
 ·refine Zz 8 ?_
  refine d_ (bj_ rfl) rfl (Zz 5 ?_)
  refine O_ (eW_ rfl rfl) rfl fun r1 hr1=>Zz 7 ?_
  exact J_ Tryz.results83 () (f_ rfl (by unfold cr_;subst_vars;rw[Bool.eq_iff_iff];simp_all)) (.refl _) zt
 refine Zz 5 ?_
 refine bP_ (hT) rfl rfl g_ zt rfl fun r2 hr2=>Zz 2 ?_
 cases r2
 ·refine Zz 3 ?_
  refine d_ (bj_ rfl) rfl (Zz 11 ?_)
  exact J_ Tryz.results83 () (f_ rfl (by unfold cr_;subst_vars;rw[Bool.eq_iff_iff];simp_all)) (.refl _) zt
 refine Zz 11 ?_
 exact J_ Tryz.results83 () (f_ rfl (by unfold cr_;subst_vars;rw[Bool.eq_iff_iff];simp_all)) (.refl _) zt
theorem qe_ (p:Pc) (hp:p.sm):Tri Tryz.prog 35 #[Pc.val p] [] [ia_] (fun _:Unit=>.bool p.valid) (fun _=>[]) (fun _=>[]):=by
 refine t_ Tryz.func35 rfl rfl Tryz.ntmps35 rfl fun v0=>?_
 obtain⟨ha,hb,hc,hr,hs,ht⟩:=hp
 refine Zz 2 ?_
 refine ag_ rfl rfl fun b1=>Zz 8 ?_
 refine O_ (db_ rfl rfl) rfl fun r1 hr1=>Zz 1 ?_
 refine aL_ 4 ((decide (p.kind<1))||(decide (9<p.kind))) (fun r=>[(1,zp_ b1 0),(2,.bool false),(13,.bool r)]) ?_ fun r2 hr2=>?_
 ·cases r1
  ·have qr2:=hr1
   replace hr1:=zdf hr1
   refine Zz 5 ?_
   refine O_ (dl_ rfl rfl) rfl fun r3 hr3=>Zz 3 ?_
   exact met ⟨rfl,rfl,(f_ rfl (jof qr2 hr3)),trivial⟩
  have qr2:=hr1
  replace hr1:=zdt hr1
  refine Zz 6 ?_
  exact met ⟨rfl,rfl,(f_ rfl (jot qr2)),trivial⟩
 refine Zz 1 ?_
 refine aL_ 4 ((((decide (p.kind<1))||(decide (9<p.kind))))||(decide (p.frm<(-1)))) (fun r=>[(1,zp_ b1 0),(2,.bool false),(18,.bool r)]) ?_ fun r4 hr4=>?_
 ·cases r2
  ·have qr4:=hr2
   simp at hr2
   refine Zz 5 ?_
   refine O_ (db_ rfl rfl) rfl fun r5 hr5=>Zz 3 ?_
   exact met ⟨rfl,rfl,(f_ rfl (jof qr4 hr5)),trivial⟩
  have qr4:=hr2
  simp at hr2
  refine Zz 6 ?_
  exact met ⟨rfl,rfl,(f_ rfl (jot qr4)),trivial⟩
 refine Zz 1 ?_
 refine aL_ 4 ((((((decide (p.kind<1))||(decide (9<p.kind))))||(decide (p.frm<(-1)))))||(decide (1024≤p.frm))) (fun r=>[(1,zp_ b1 0),(2,.bool false),(23,.bool r)]) ?_ fun r6 hr6=>?_
 ·cases r4
  ·have qr6:=hr4
   simp at hr4
   refine Zz 5 ?_
   refine O_ (gH_ rfl rfl) rfl fun r7 hr7=>Zz 3 ?_
   exact met ⟨rfl,rfl,(f_ rfl (jof qr6 hr7)),trivial⟩
  have qr6:=hr4
  simp at hr4
  refine Zz 6 ?_
  exact met ⟨rfl,rfl,(f_ rfl (jot qr6)),trivial⟩
 refine Zz 2 ?_
 cases r6
 ·simp at hr6
  obtain⟨u,hx⟩:∃ u,pf_[p.kind.toNat]? = some u:=⟨_,List.getElem?_eq_getElem (show p.kind.toNat<10 by omega)⟩
  have hus:nus p.kind=u:=by simp[nus,hx]
  obtain⟨ua,ub,uc,ur,us,ut,un⟩:=u
  refine Zz 7 ?_
  refine d_ (dM_ Tryz.runUnderlying151 Tryz.sizeOf150 rfl rfl (by show (0:Int)≤p.kind;omega) (by show p.kind<(10:Int);omega)) rfl ?_
  refine d_ (aA_ (ad:=some ⟨1,0,none⟩) (us:=NUse.cells ⟨ua,ub,uc,ur,us,ut,un⟩) Tryz.isAgg150 Tryz.sizeOf150 rfl (fun v _ h=>h.1) (NUse.cells_len _) (G_ NUse.cells_len hx)) rfl (C_ Tryz.zeroValue150 rfl fun b2=>w_ 0 Tryz.sizeOf150 rfl rfl rfl rfl rfl rfl (Zz 19 ?_))
  cases un
  ·refine Zz 5 ?_
   refine O_ (cg_ rfl rfl) rfl fun r8 hr8=>Zz 1 ?_
   refine aL_ 4 ((p.lo != 0)||(p.hi != 0)) (fun r=>[(1,zp_ b1 0),(2,.bool false),(3,zp_ b2 0),(4,.func (.func 83) #[] #[]),(5,.func (.func 84) #[] #[]),(52,.bool r)]) ?_ fun r9 hr9=>?_
   ·cases r8
    ·have qr9:=hr8
     replace hr8:=et_ hr8
     refine Zz 5 ?_
     refine O_ (cg_ rfl rfl) rfl fun r10 hr10=>Zz 3 ?_
     exact met ⟨rfl,rfl,rfl,rfl,rfl,(f_ rfl (jof qr9 hr10)),trivial⟩
    have qr9:=hr8
    replace hr8:=eo_ hr8
    refine Zz 6 ?_
    exact met ⟨rfl,rfl,rfl,rfl,rfl,(f_ rfl (jot qr9)),trivial⟩
   refine Zz 2 ?_
   cases r9
   ·simp at hr9
    refine Zz 10 ?_
    refine bP_ (eg_ ua p.a be_ (gt_ _ (by omega))) rfl rfl g_ zt rfl fun r11 hr11=>Zz 1 ?_
    refine aL_ 7 ((cr_ ua p.a be_)&&(cr_ ub p.b be_)) (fun r=>[(1,zp_ b1 0),(2,.bool false),(3,zp_ b2 0),(4,.func (.func 83) #[] #[]),(5,.func (.func 84) #[] #[]),(66,.bool r)]) ?_ fun r12 hr12=>?_
    ·cases r11
     ·have qr12:=hr11
      refine Zz 9 ?_
      exact met ⟨rfl,rfl,rfl,rfl,rfl,(f_ rfl (jaf qr12)),trivial⟩
     have qr12:=hr11
     refine Zz 11 ?_
     refine bP_ (eg_ ub p.b be_ (gt_ _ (by omega))) rfl rfl g_ zt rfl fun r13 hr13=>Zz 3 ?_
     exact met ⟨rfl,rfl,rfl,rfl,rfl,(f_ rfl (jat qr12 hr13)),trivial⟩
    refine Zz 1 ?_
    refine aL_ 7 ((((cr_ ua p.a be_)&&(cr_ ub p.b be_)))&&(cr_ uc p.c be_)) (fun r=>[(1,zp_ b1 0),(2,.bool false),(3,zp_ b2 0),(4,.func (.func 83) #[] #[]),(5,.func (.func 84) #[] #[]),(74,.bool r)]) ?_ fun r14 hr14=>?_
    ·cases r12
     ·have qr14:=hr12
      simp at hr12
      refine Zz 9 ?_
      exact met ⟨rfl,rfl,rfl,rfl,rfl,(f_ rfl (jaf qr14)),trivial⟩
     have qr14:=hr12
     simp at hr12
     refine Zz 11 ?_
     refine bP_ (eg_ uc p.c be_ (gt_ _ (by omega))) rfl rfl g_ zt rfl fun r15 hr15=>Zz 3 ?_
     exact met ⟨rfl,rfl,rfl,rfl,rfl,(f_ rfl (jat qr14 hr15)),trivial⟩
    refine Zz 1 ?_
    refine aL_ 8 ((((((cr_ ua p.a be_)&&(cr_ ub p.b be_)))&&(cr_ uc p.c be_)))&&(cr_ ur p.r di_)) (fun r=>[(1,zp_ b1 0),(2,.bool false),(3,zp_ b2 0),(4,.func (.func 83) #[] #[]),(83,.bool r)]) ?_ fun r16 hr16=>?_
    ·cases r14
     ·have qr16:=hr14
      simp at hr14
      refine Zz 10 ?_
      exact met ⟨rfl,rfl,rfl,rfl,(f_ rfl (jaf qr16)),trivial⟩
     have qr16:=hr14
     simp at hr14
     refine Zz 13 ?_
     refine bP_ (eg_ ur p.r di_ (ho_ _ (by omega))) rfl rfl g_ zt rfl fun r17 hr17=>Zz 3 ?_
     exact met ⟨rfl,rfl,rfl,rfl,(f_ rfl (jat qr16 hr17)),trivial⟩
    refine Zz 1 ?_
    refine aL_ 7 ((((((((cr_ ua p.a be_)&&(cr_ ub p.b be_)))&&(cr_ uc p.c be_)))&&(cr_ ur p.r di_)))&&(cr_ us p.s di_)) (fun r=>[(1,zp_ b1 0),(2,.bool false),(3,zp_ b2 0),(4,.func (.func 83) #[] #[]),(91,.bool r)]) ?_ fun r18 hr18=>?_
    ·cases r16
     ·have qr18:=hr16
      simp at hr16
      refine Zz 9 ?_
      exact met ⟨rfl,rfl,rfl,rfl,(f_ rfl (jaf qr18)),trivial⟩
     have qr18:=hr16
     simp at hr16
     refine Zz 11 ?_
     refine bP_ (eg_ us p.s di_ (ho_ _ (by omega))) rfl rfl g_ zt rfl fun r19 hr19=>Zz 3 ?_
     exact met ⟨rfl,rfl,rfl,rfl,(f_ rfl (jat qr18 hr19)),trivial⟩
    refine Zz 1 ?_
    refine aL_ 7 ((((((((((cr_ ua p.a be_)&&(cr_ ub p.b be_)))&&(cr_ uc p.c be_)))&&(cr_ ur p.r di_)))&&(cr_ us p.s di_)))&&(cr_ ut p.t di_)) (fun r=>[(2,.bool false),(99,.bool r)]) ?_ fun r20 hr20=>?_
    ·cases r18
     ·have qr20:=hr18
      simp at hr18
      refine Zz 9 ?_
      exact met ⟨rfl,(f_ rfl (jaf qr20)),trivial⟩
     have qr20:=hr18
     simp at hr18
     refine Zz 11 ?_
     refine bP_ (eg_ ut p.t di_ (ho_ _ (by omega))) rfl rfl g_ zt rfl fun r21 hr21=>Zz 3 ?_
     exact met ⟨rfl,(f_ rfl (jat qr20 hr21)),trivial⟩
    refine Zz 4 ?_
    exact J_ rl_ () (f_ rfl (by unfold Pc.valid;rw[if_neg (by omega)];simp only[hus];rw[if_neg (by simp<;>omega),if_neg (by simp<;>omega)];exact hr20.symm)) (.refl _) zt
   simp at hr9
   refine Zz 7 ?_
   exact J_ rl_ () (f_ rfl (by unfold Pc.valid;rw[if_neg (by omega)];simp only[hus];first|(rw[if_pos (by first|(simp;omega)|omega)])|(rw[if_neg (by simp),if_pos (by simp;omega)]))) (.refl _) zt
  refine Zz 10 ?_
  refine O_ (db_ rfl rfl) rfl fun r22 hr22=>Zz 1 ?_
  refine aL_ 6 ((decide (p.lo<(-1099511627776)))||(decide (p.hi<p.lo))) (fun r=>[(1,zp_ b1 0),(2,.bool false),(3,zp_ b2 0),(4,.func (.func 83) #[] #[]),(5,.func (.func 85) #[] #[]),(39,.bool r)]) ?_ fun r23 hr23=>?_
  ·cases r22
   ·have qr23:=hr22
    replace hr22:=zdf hr22
    refine Zz 9 ?_
    refine O_ (dl_ rfl rfl) rfl fun r24 hr24=>Zz 3 ?_
    exact met ⟨rfl,rfl,rfl,rfl,rfl,(f_ rfl (jof qr23 hr24)),trivial⟩
   have qr23:=hr22
   replace hr22:=zdt hr22
   refine Zz 8 ?_
   exact met ⟨rfl,rfl,rfl,rfl,rfl,(f_ rfl (jot qr23)),trivial⟩
  refine Zz 1 ?_
  refine aL_ 4 ((((decide (p.lo<(-1099511627776)))||(decide (p.hi<p.lo))))||(decide (1099511627776<p.hi))) (fun r=>[(1,zp_ b1 0),(2,.bool false),(3,zp_ b2 0),(4,.func (.func 83) #[] #[]),(5,.func (.func 85) #[] #[]),(44,.bool r)]) ?_ fun r25 hr25=>?_
  ·cases r23
   ·have qr25:=hr23
    simp at hr23
    refine Zz 5 ?_
    refine O_ (dl_ rfl rfl) rfl fun r26 hr26=>Zz 3 ?_
    exact met ⟨rfl,rfl,rfl,rfl,rfl,(f_ rfl (jof qr25 hr26)),trivial⟩
   have qr25:=hr23
   simp at hr23
   refine Zz 6 ?_
   exact met ⟨rfl,rfl,rfl,rfl,rfl,(f_ rfl (jot qr25)),trivial⟩
  refine Zz 2 ?_
  cases r25
  ·simp at hr25
   refine Zz 10 ?_
   refine bP_ (eg_ ua p.a be_ (gt_ _ (by omega))) rfl rfl g_ zt rfl fun r27 hr27=>Zz 1 ?_
   refine aL_ 7 ((cr_ ua p.a be_)&&(cr_ ub p.b be_)) (fun r=>[(1,zp_ b1 0),(2,.bool false),(3,zp_ b2 0),(4,.func (.func 83) #[] #[]),(5,.func (.func 85) #[] #[]),(66,.bool r)]) ?_ fun r28 hr28=>?_
   ·cases r27
    ·have qr28:=hr27
     refine Zz 9 ?_
     exact met ⟨rfl,rfl,rfl,rfl,rfl,(f_ rfl (jaf qr28)),trivial⟩
    have qr28:=hr27
    refine Zz 11 ?_
    refine bP_ (eg_ ub p.b be_ (gt_ _ (by omega))) rfl rfl g_ zt rfl fun r29 hr29=>Zz 3 ?_
    exact met ⟨rfl,rfl,rfl,rfl,rfl,(f_ rfl (jat qr28 hr29)),trivial⟩
   refine Zz 1 ?_
   refine aL_ 7 ((((cr_ ua p.a be_)&&(cr_ ub p.b be_)))&&(cr_ uc p.c be_)) (fun r=>[(1,zp_ b1 0),(2,.bool false),(3,zp_ b2 0),(4,.func (.func 83) #[] #[]),(5,.func (.func 85) #[] #[]),(74,.bool r)]) ?_ fun r30 hr30=>?_
   ·cases r28
    ·have qr30:=hr28
     simp at hr28
     refine Zz 9 ?_
     exact met ⟨rfl,rfl,rfl,rfl,rfl,(f_ rfl (jaf qr30)),trivial⟩
    have qr30:=hr28
    simp at hr28
    refine Zz 11 ?_
    refine bP_ (eg_ uc p.c be_ (gt_ _ (by omega))) rfl rfl g_ zt rfl fun r31 hr31=>Zz 3 ?_
    exact met ⟨rfl,rfl,rfl,rfl,rfl,(f_ rfl (jat qr30 hr31)),trivial⟩
   refine Zz 1 ?_
   refine aL_ 8 ((((((cr_ ua p.a be_)&&(cr_ ub p.b be_)))&&(cr_ uc p.c be_)))&&(cr_ ur p.r bm_)) (fun r=>[(1,zp_ b1 0),(2,.bool false),(3,zp_ b2 0),(4,.func (.func 83) #[] #[]),(83,.bool r)]) ?_ fun r32 hr32=>?_
   ·cases r30
    ·have qr32:=hr30
     simp at hr30
     refine Zz 10 ?_
     exact met ⟨rfl,rfl,rfl,rfl,(f_ rfl (jaf qr32)),trivial⟩
    have qr32:=hr30
    simp at hr30
    refine Zz 13 ?_
    refine bP_ (eg_ ur p.r bm_ (dZ_ _ (by omega))) rfl rfl g_ zt rfl fun r33 hr33=>Zz 3 ?_
    exact met ⟨rfl,rfl,rfl,rfl,(f_ rfl (jat qr32 hr33)),trivial⟩
   refine Zz 1 ?_
   refine aL_ 7 ((((((((cr_ ua p.a be_)&&(cr_ ub p.b be_)))&&(cr_ uc p.c be_)))&&(cr_ ur p.r bm_)))&&(cr_ us p.s di_)) (fun r=>[(1,zp_ b1 0),(2,.bool false),(3,zp_ b2 0),(4,.func (.func 83) #[] #[]),(91,.bool r)]) ?_ fun r34 hr34=>?_
   ·cases r32
    ·have qr34:=hr32
     simp at hr32
     refine Zz 9 ?_
     exact met ⟨rfl,rfl,rfl,rfl,(f_ rfl (jaf qr34)),trivial⟩
    have qr34:=hr32
    simp at hr32
    refine Zz 11 ?_
    refine bP_ (eg_ us p.s di_ (ho_ _ (by omega))) rfl rfl g_ zt rfl fun r35 hr35=>Zz 3 ?_
    exact met ⟨rfl,rfl,rfl,rfl,(f_ rfl (jat qr34 hr35)),trivial⟩
   refine Zz 1 ?_
   refine aL_ 7 ((((((((((cr_ ua p.a be_)&&(cr_ ub p.b be_)))&&(cr_ uc p.c be_)))&&(cr_ ur p.r bm_)))&&(cr_ us p.s di_)))&&(cr_ ut p.t di_)) (fun r=>[(2,.bool false),(99,.bool r)]) ?_ fun r36 hr36=>?_
   ·cases r34
    ·have qr36:=hr34
     simp at hr34
     refine Zz 9 ?_
     exact met ⟨rfl,(f_ rfl (jaf qr36)),trivial⟩
    have qr36:=hr34
    simp at hr34
    refine Zz 11 ?_
    refine bP_ (eg_ ut p.t di_ (ho_ _ (by omega))) rfl rfl g_ zt rfl fun r37 hr37=>Zz 3 ?_
    exact met ⟨rfl,(f_ rfl (jat qr36 hr37)),trivial⟩
   refine Zz 4 ?_
   exact J_ rl_ () (f_ rfl (by unfold Pc.valid;rw[if_neg (by omega)];simp only[hus];rw[if_neg (by simp<;>omega),if_neg (by simp<;>omega)];exact hr36.symm)) (.refl _) zt
  simp at hr25
  refine Zz 7 ?_
  exact J_ rl_ () (f_ rfl (by unfold Pc.valid;rw[if_neg (by omega)];simp only[hus];first|(rw[if_pos (by first|(simp;omega)|omega)])|(rw[if_neg (by simp),if_pos (by simp;omega)]))) (.refl _) zt
 simp at hr6
 refine Zz 7 ?_
 exact J_ rl_ () (f_ rfl (by unfold Pc.valid;rw[if_pos (by omega)])) (.refl _) zt
theorem mI_ (l:List Pc) (ad:Option Addr) (cap:Nat) (hl:l.length≤17592186044414) (hsm:∀ p∈l,p.sm):Tri Tryz.prog 14 #[.slice ad (List.length l) cap] [] [at_ ad (List.flatMap Pc.cells l),ia_] (fun _:Unit=>.int .i64 (bT_ l)) (fun _=>[]) (fun _=>[]):=by
 refine t_ Tryz.func14 rfl rfl Tryz.ntmps14 rfl fun v0=>?_
 refine Zi 10 (fun hr1=>?_) fun hr1=>?_
 ·refine Zz 14 ?_
  refine dA_ [(8,.slice ad (List.length l) cap),(9,.int .i64 (List.length l:Int)),(10,.int .i64 ((0:Nat):Int))] zl ?_
  refine dO_ (ι:={q:Nat // q≤l.length∧(l.take q).all Pc.valid=true}) (fun i=>[(8,.slice ad (List.length l) cap),(9,.int .i64 (List.length l:Int)),(10,.int .i64 (i.1:Int))]) (fun _=>_) (fun _=>_) (fun i=>l.length - i.1) ⟨0,by simp⟩ ?_
  rintro ⟨i,hk⟩
  refine dA_ [(8,.slice ad (List.length l) cap),(9,.int .i64 (List.length l:Int)),(10,.int .i64 (i:Int))] zl ?_
  refine Zi 2 (fun hr2=>?_) fun hr2=>?_
  ·refine Zz 12 ?_
   exact J_ Tryz.results14 () (au_ rfl (by unfold bT_;rw[if_neg (by omega),if_pos (by have:=hk.2;rwa [List.take_of_length_le (by omega)]at this)])) (.refl _) zt
  obtain⟨hlx1,x1,hx1,hmx1⟩:=zge (show i<List.length l by omega)
  refine Zz 12 ?_
  refine C_ bv_ rfl fun b1=>w_ 0 am_ rfl rfl rfl rfl rfl rfl (Zz 5 ?_)
  refine S_ (qe_ x1 (hsm x1 hmx1)) rfl g_ zf rfl fun r3 hr3=>d_ (bj_ rfl) rfl (Zz 2 ?_)
  cases r3
  ·refine Zz 7 ?_
   exact J_ Tryz.results14 () (au_ rfl (by unfold bT_;rw[if_neg (by omega),if_neg (by rw[show l.all Pc.valid=false from List.all_eq_false.2 ⟨x1,hmx1,by simp[*]⟩];simp)])) (.refl _) zt
  refine Zz 8 ?_
  exact Q_ ⟨i+1,hlx1,by rw[List.take_add_one,hx1];simp only[Option.toList_some,List.all_append,hk.2];simp[*]⟩ (by simp;omega) zl (@List.perm_append_comm _ [_] _) zh
 refine Zz 9 ?_
 exact J_ Tryz.results14 () (au_ rfl (by unfold bT_;rw[if_pos (by omega)])) (.refl _) zt
end Go.Proofs.YtaffcjgphlhppaaGreatDoor
namespace Go.Vs
open Go Go.Sx
def vw (W:World):Vw:=⟨fun b=>b<W.heap.size,W,True⟩
theorem vw_sat (W:World):(vw W).sat []:=⟨(fun _ h=>by cases h),(by simp),fun _ h=>h⟩
section
variable {H:Type} {enc:TypeId×Value→H} {P:Program} {W:World}
abbrev wok (l:List Nat):Prop:=l.all (·≤reachBytes)=true
theorem eh_ {a b:List Nat}:wok (a++b)↔wok a∧wok b:=by simp[wok,List.all_append]
theorem qF_ {n:Nat} {b:List Nat}:wok (n::b)↔n≤reachBytes∧wok b:=by simp[wok]
theorem qG_ {e:TypeId}:∀ {ds:List (DataW H)},wok (DataW.weightsAll P e ds)→∀ d∈ds,wok (d.weights P e)
 | [],_,_,h=>by cases h
 | x::ds,hw,d,hd=>by
   rw[DataW.weightsAll,eh_]at hw
   rcases List.mem_cons.1 hd with rfl|hd
   · exact hw.1
   · exact qG_ hw.2 d hd
theorem ml_ {α:Type} [Inhabited α] (f:α→List Value) (k:Nat) (hk:∀ x,(f x).length=k) (hk0:0<k) (Q:α→Prop) {ts te:TypeId} (hs:P.underlying ts=some (.slice te)) (hc:P.cellsOf te=k) {n:Nat} {cs:List Value} {x:DataW H×List MemPlace}
    (hread:∀ m,m<n→∀ cs' y,DataW.trod enc P W 0 (fun _=>true) true m te cs'=some y→wok (y.1.weights P te)→∃ c,cs'=f c∧Q c)
    (h:DataW.trod enc P W 0 (fun _=>true) true n ts cs=some x) (hw:wok (x.1.weights P ts)) :
    ∃ (l:List α) (ad:Option Addr) (cap:Nat),cs=[.slice ad l.length cap]∧bE_ (vw W) ad (l.flatMap f)∧(∀ c∈l,Q c)∧l.length≤cap∧cap*P.bytesOf te≤reachBytes:=by
  rcases DataW.trod_slice hs h with⟨h0,_⟩|⟨a,len,cap,elems,rest,m,hn,rfl,rfl,_,hl,_,hlen,hel,hsp,_⟩
  · exact⟨[],none,0,h0,.inl rfl,(fun _ h=>by cases h),Nat.le_refl _,by simp⟩
  · obtain⟨hr,_⟩:=hsp rfl
    simp only[DataW.weights,hs,qF_,eh_,List.length_map]at hw
    have hcap:cap*P.bytesOf te≤reachBytes:=by
      have e:elems.length+rest.length=cap:=by omega
      rw[← e];exact hw.1
    have hone:∀ i,i<len→∃ c:α,W.cells? 0 (a.add (i*k)) k=some (f c)∧Q c:=fun i hi=>by
      have he:=hel i hi
      rw[hc,List.getElem?_eq_getElem (by omega)]at he
      obtain⟨cs',h1,h2⟩:=Option.bind_eq_some_iff.1 he
      obtain⟨c,rfl,hq⟩:=hread m (by omega) cs' _ h2 (qG_ hw.2.1 _ (List.mem_map_of_mem (List.getElem_mem (by omega))))
      exact⟨c,h1,hq⟩
    obtain⟨C,hC⟩:=Deep.choose_lt hone
    refine⟨(List.range len).map C,some a,cap,by simp,?_,?_,by simpa using hl,hcap⟩
    · by_cases h0:len=0
      · left;simp[h0]
      · have h1:=(hC 0 (by omega)).1
        obtain⟨_,_,hcell⟩:=World.cells?_some h1
        have hc0:=hcell 0 hk0
        have hlt:0<(f (C 0)).length:=by rw[hk];exact hk0
        rw[List.getElem?_eq_getElem hlt]at hc0
        cases hb:W.heap[a.block]? with
        | none=>simp[World.cell?,Addr.add,hb]at hc0
        | some o =>
          cases o with
          | cells arr T fz =>
            have hspot:a.spot=none:=by
              cases hsp2:a.spot with
              | none=>rfl
              | some s=>simp[World.cell?,Addr.add,hb,hsp2]at hc0
            obtain⟨b,off,sp⟩:=a
            simp only at hspot hb
            subst hspot
            right
            refine⟨b,off,arr,T,fz,rfl,(Array.getElem?_eq_some_iff.1 hb).1,hb,fun j y hj=>?_⟩
            have hjlt:j<len*k:=by
              have:=(List.getElem?_eq_some_iff.1 hj).1
              rw[el_ f k hk]at this
              simpa using this
            have hi:j / k<len:=Nat.div_lt_of_lt_mul (by rw[Nat.mul_comm];exact hjlt)
            have hr':j%k<k:=Nat.mod_lt _ hk0
            have e:j=(j / k)*k+j%k:=by rw[Nat.mul_comm];exact (Nat.div_add_mod j k).symm
            have hget:((List.range len).map C)[j / k]? = some (C (j / k)):=by simp[hi]
            rw[e,jk_ f k hk _ (j / k) (j%k) _ hget hr']at hj
            obtain⟨_,_,hcell⟩:=World.cells?_some (hC (j / k) hi).1
            have:=hcell (j%k) hr'
            rw[hj,dw_,dw_]at this
            rw[e]
            simpa [World.cell?,hb,Nat.add_assoc] using this
          | _=>simp[World.cell?,Addr.add,hb]at hc0
    · intro c hc'
      obtain⟨i,hi,rfl⟩:=List.mem_map.1 hc'
      exact (hC i (by simpa using hi)).2
end
instance:Inhabited Con:=⟨.mk 0 [] 0 0 none 0 []⟩
instance:Inhabited Ax:=⟨⟨0,false,default,default,none,0,[],[],[],[]⟩⟩
instance:Inhabited Pc:=⟨⟨0,[],[],[],[],[],[],0,0,0⟩⟩
structure Tys (P:Program) (tI tB tS tSs tC tCs tA tAs tP tPs:TypeId):Prop where
  i:P.underlying tI=some (.int .i64)
  b:P.underlying tB=some .bool
  s:P.underlying tS=some .string
  ss:P.underlying tSs=some (.slice tS)
  c:∃ fs,P.underlying tC=some (.struct fs)∧fs.toList.map (fun f=>(f.type,f.offset))=[(tI,0),(tS,1),(tI,2),(tI,3),(tCs,4)]
  cs:P.underlying tCs=some (.slice tC)
  a:∃ fs,P.underlying tA=some (.struct fs)∧fs.toList.map (fun f=>(f.type,f.offset))=[(tI,0),(tB,1),(tC,2),(tC,7),(tSs,12),(tS,13),(tS,14),(tS,15)]
  axs:P.underlying tAs=some (.slice tA)
  p:∃ fs,P.underlying tP=some (.struct fs)∧fs.toList.map (fun f=>(f.type,f.offset))=[(tI,0),(tS,1),(tS,2),(tS,3),(tS,4),(tS,5),(tS,6),(tI,7),(tI,8),(tI,9)]
  ps:P.underlying tPs=some (.slice tP)
  ci:P.cellsOf tI=1
  cb:P.cellsOf tB=1
  cs1:P.cellsOf tS=1
  css:P.cellsOf tSs=1
  cc:P.cellsOf tC=5
  ccs:P.cellsOf tCs=1
  ca:P.cellsOf tA=16
  cp:P.cellsOf tP=10
  bs:P.bytesOf tS=16
  bc:P.bytesOf tC=64
  ba:P.bytesOf tA=216
  bp:P.bytesOf tP=128
section
variable {H:Type} {enc:TypeId×Value→H} {P:Program} {W:World} {tI tB tS tSs tC tCs tA tAs tP tPs:TypeId} (X:Tys P tI tB tS tSs tC tCs tA tAs tP tPs)
theorem fields_of {t:TypeId} {fs:Array Field} {L:List (TypeId×Nat)} {cs:List Value} {n:Nat} {x:DataW H×List MemPlace} (ht:P.underlying t=some (.struct fs)) (hL:fs.toList.map (fun f=>(f.type,f.offset))=L) (h:DataW.trod enc P W 0 (fun _=>true) true n t cs=some x) :
    ∃ (xs:List (DataW H×List MemPlace)) (m:Nat),n=m+1∧x.1=.agg (xs.map (·.1))∧cs.length=P.cellsOf t∧xs.length=L.length∧(∀ (i:Nat) q,L[i]? = some q→DataW.trod enc P W 0 (fun _=>true) true m q.1 ((cs.drop q.2).take (P.cellsOf q.1))=xs[i]?) ∧
      (x.1.weights P t=DataW.weightsEach P (L.map (·.1)) (xs.map (·.1))):=by
  obtain⟨xs,m,hn,hx,hl,hlen,hf⟩:=DataW.trod_struct ht h
  refine⟨xs,m,hn,by rw[hx],hl,by rw[hlen,← hL];simp,fun i q hq=>?_,?_⟩
  · rw[← hL,List.getElem?_map,Option.map_eq_some_iff]at hq
    obtain⟨f,hf',rfl⟩:=hq
    exact hf i f (by simpa using hf')
  · rw[hx];simp only[DataW.weights,ht]
    congr 1
    rw[← hL,List.map_map];rfl
include X
theorem gb_ {n:Nat} {cs:List Value} {x:DataW H×List MemPlace} (h:DataW.trod enc P W 0 (fun _=>true) true n tI cs=some x):∃ k:Int,cs=[.int .i64 k]∧-9223372036854775808≤k∧k≤9223372036854775807:=by
  obtain⟨k,h1,_,h3⟩:=DataW.trod_int X.i h
  have:=bounds_i64 h3
  exact⟨k,h1,this.1,this.2⟩
theorem str_of {n:Nat} {cs:List Value} {x:DataW H×List MemPlace} (h:DataW.trod enc P W 0 (fun _=>true) true n tS cs=some x) (hw:wok (x.1.weights P tS)):∃ s:Str,cs=[str s]∧s.length≤140737488351232:=by
  obtain⟨s,h1,h2,_⟩:=DataW.trod_string X.s h
  rw[h2]at hw
  simp[wok,DataW.weights,reachBytes]at hw
  refine⟨s.data.toList,by rw[h1];rfl,by have:=of_decide_eq_true hw;simpa using this⟩
structure Pc.big (p:Pc):Prop where
  a:p.a.length≤140737488351232
  b:p.b.length≤140737488351232
  c:p.c.length≤140737488351232
  r:p.r.length≤140737488351232
  s:p.s.length≤140737488351232
  t:p.t.length≤140737488351232
theorem pc_of {n:Nat} {cs:List Value} {x:DataW H×List MemPlace} (h:DataW.trod enc P W 0 (fun _=>true) true n tP cs=some x) (hw:wok (x.1.weights P tP)):∃ p:Pc,cs=p.cells∧p.big:=by
  obtain⟨fs,hu,hL⟩:=X.p
  obtain⟨xs,m,hn,hx,hl,hlen,hf,hwe⟩:=fields_of hu hL h
  rw[hwe]at hw
  match xs,hlen with
  | [x0,x1,x2,x3,x4,x5,x6,x7,x8,x9],_ =>
  simp only[List.map_cons,List.map_nil,DataW.weightsEach,eh_]at hw
  have f0:=hf 0 _ rfl;have f1:=hf 1 _ rfl;have f2:=hf 2 _ rfl;have f3:=hf 3 _ rfl;have f4:=hf 4 _ rfl;have f5:=hf 5 _ rfl;have f6:=hf 6 _ rfl;have f7:=hf 7 _ rfl;have f8:=hf 8 _ rfl;have f9:=hf 9 _ rfl
  simp only[List.getElem?_cons_zero,List.getElem?_cons_succ,X.ci,X.cs1]at f0 f1 f2 f3 f4 f5 f6 f7 f8 f9
  obtain⟨k,e0,_,_⟩:=gb_ X f0
  obtain⟨a,e1,n1⟩:=str_of X f1 hw.2.1
  obtain⟨b,e2,n2⟩:=str_of X f2 hw.2.2.1
  obtain⟨c,e3,n3⟩:=str_of X f3 hw.2.2.2.1
  obtain⟨r,e4,n4⟩:=str_of X f4 hw.2.2.2.2.1
  obtain⟨s,e5,n5⟩:=str_of X f5 hw.2.2.2.2.2.1
  obtain⟨t,e6,n6⟩:=str_of X f6 hw.2.2.2.2.2.2.1
  obtain⟨lo,e7,_,_⟩:=gb_ X f7
  obtain⟨hi,e8,_,_⟩:=gb_ X f8
  obtain⟨fr,e9,_,_⟩:=gb_ X f9
  rw[X.cp]at hl
  match cs,hl with
  | [c0,c1,c2,c3,c4,c5,c6,c7,c8,c9],_ =>
  simp only[List.drop_succ_cons,List.drop_zero,List.take_succ_cons,List.take_zero,List.cons.injEq,and_true]at e0 e1 e2 e3 e4 e5 e6 e7 e8 e9
  subst e0 e1 e2 e3 e4 e5 e6 e7 e8 e9
  exact⟨⟨k,a,b,c,r,s,t,lo,hi,fr⟩,rfl,n1,n2,n3,n4,n5,n6⟩
theorem pcs_of {n:Nat} {cs:List Value} {x:DataW H×List MemPlace} (h:DataW.trod enc P W 0 (fun _=>true) true n tPs cs=some x) (hw:wok (x.1.weights P tPs)) :
    ∃ (l:List Pc) (ad:Option Addr) (cap:Nat),cs=[.slice ad l.length cap]∧bE_ (vw W) ad (l.flatMap Pc.cells)∧(∀ y∈l,y.big)∧l.length≤cap∧cap≤1099511627744:=by
  obtain⟨l,ad,cap,e,hrow,hq,hlc,hcap⟩:=ml_ Pc.cells 10 Pc.cells_len (by decide) Pc.big X.ps X.cp (fun m' _ cs' y hy hwy=>pc_of X hy hwy) h hw
  rw[X.bp]at hcap;simp only[reachBytes]at hcap
  exact⟨l,ad,cap,e,hrow,hq,hlc,by omega⟩
end
end Go.Vs
namespace Go.Vs
open Go Go.Sx Go.ChangeShapes Go.WideShapes Go.ChangeAt Go.RowKit
section
variable {H:Type} {enc:TypeId×Value→H} {P:Program} {w:World}
mutual
def eQ_ {H:Type}:DataW H→List Value
  | .lit (.int k n)=>[.int k n]
  | .lit (.bool b)=>[.bool b]
  | .agg ps=>iE_ ps
  | _=>[]
def iE_ {H:Type}:List (DataW H)→List Value
  | []=>[]
  | d::r=>eQ_ d++iE_ r
end
def gL_ (P:Program):Nat→TypeId→Bool
  | 0,_=>false
  | n+1,t=>match P.underlying t with
    | some .bool=>true
    | some (.int _)=>true
    | some (.struct fs)=>fs.toList.all fun f=>gL_ P n f.type
    | some (.array _ e)=>gL_ P n e
    | _=>false
theorem ic_:∀ l:List (DataW H),iE_ l=l.flatMap eQ_
  | []=>by simp[iE_]
  | d::r=>by simp only[iE_,ic_ r,List.flatMap_cons]
theorem tile:∀ (ls:List Nat) (cs:List Value) (g:List (List Value)),cs.length=ls.sum→g.length=ls.length→(∀ j n,ls[j]? = some n→some ((cs.drop (ls.take j).sum).take n)=g[j]?)→cs=g.flatten
  | [],cs,g,h,hg,_=>by
    simp only[List.sum_nil]at h
    have h1:=List.eq_nil_of_length_eq_zero h
    have h2:g=[]:=List.eq_nil_of_length_eq_zero hg
    simp[h1,h2]
  | n::ls,cs,[],h,hg,hp=>by simp at hg
  | n::ls,cs,x::g,h,hg,hp=>by
    have h0:=hp 0 n rfl
    simp only[List.take_zero,List.sum_nil,List.drop_zero,List.getElem?_cons_zero,Option.some.injEq]at h0
    have ih:=tile ls (cs.drop n) g (by rw[List.length_drop,h];simp) (by simpa using hg) (fun j m hj=>by
      have:=hp (j+1) m hj
      simp only[List.take_succ_cons,List.sum_cons,List.getElem?_cons_succ]at this
      rw[← this,List.drop_drop])
    rw[List.flatten_cons,← ih,← h0,List.take_append_drop]
theorem rs_ {T:TypeId→Prop} {held:Bool} (K:Kids P T):∀ (n m:Nat) (t:TypeId) (cs:List Value) (x:DataW H×List MemPlace),T t→gL_ P m t=true→DataW.trod enc P w 0 (fun _=>true) held n t cs=some x→cs=eQ_ x.1:=by
 intro n
 induction n with
 | zero=>intro m t cs x _ _ h;simp[DataW.trod]at h
 | succ n ih =>
   intro m t cs x hT hb h
   cases m with
   | zero=>simp[gL_]at hb
   | succ m =>
   cases hu:P.underlying t with
   | none=>simp[gL_,hu]at hb
   | some d =>
     cases d with
     | bool=>obtain⟨b,rfl,rfl⟩:=DataW.trod_bool hu h;simp[eQ_]
     | int k=>obtain⟨b,rfl,rfl,_⟩:=DataW.trod_int hu h;simp[eQ_]
     | struct fs =>
       obtain⟨xs,m',hn,rfl,hl,hlen,hf⟩:=DataW.trod_struct hu h
       obtain rfl:m'=n:=by omega
       obtain⟨k1,k2,k3⟩:=K.struct hT hu
       simp only[gL_,hu]at hb
       simp only[eQ_]
       rw[ic_,List.flatMap_def,List.map_map]
       refine tile (fs.toList.map fun f=>P.cellsOf f.type) cs _ (by rw[hl,k2]) (by simp[hlen]) fun j q hq=>?_
       rw[List.getElem?_map,Option.map_eq_some_iff]at hq
       obtain⟨f,hf',rfl⟩:=hq
       have h1:=hf j f (by simpa using hf')
       have h2:=k3 j f hf'
       have hj:j<xs.length:=by rw[hlen];have:=(List.getElem?_eq_some_iff.1 hf').1;simpa using this
       rw[List.getElem?_eq_getElem hj]at h1
       have h3:=ih m f.type _ _ (k1 f (List.mem_of_getElem? hf')) (List.all_eq_true.1 hb f (List.mem_of_getElem? hf')) h1
       rw[List.getElem?_map,List.getElem?_eq_getElem hj,← List.map_take,← h2,h3]
       rfl
     | array len e =>
       obtain⟨xs,m',hn,rfl,hl,hlen,hf⟩:=DataW.trod_array hu h
       obtain rfl:m'=n:=by omega
       obtain⟨k1,k2⟩:=K.array hT hu
       simp only[gL_,hu]at hb
       simp only[eQ_]
       rw[ic_,List.flatMap_def,List.map_map]
       refine tile (List.replicate len (P.cellsOf e)) cs _ (by rw[hl,k2];simp) (by simp[hlen]) fun j q hq=>?_
       rw[List.getElem?_replicate]at hq
       split at hq
       · rename_i hj
         simp only[Option.some.injEq]at hq
         subst hq
         have h1:=hf j hj
         have hjx:j<xs.length:=by omega
         rw[List.getElem?_eq_getElem hjx]at h1
         have h3:=ih m e _ _ k1 hb h1
         rw[List.getElem?_map,List.getElem?_eq_getElem hjx,List.take_replicate,List.sum_replicate_nat,Nat.min_eq_left (by omega),h3]
         rfl
       · cases hq
     | _=>simp[gL_,hu]at hb
end
section
variable {H:Type} {enc:TypeId×Value→H} {P:Program} {W W':World}
theorem hV_:∀ {ts:List TypeId} {vs:List Value} {ds:List (DataW H)} {ps:List MemPlace} {sp:Nat→Bool},DataW.TrodAll enc P W 0 sp true ts vs ds ps→(∀ p∈ps,W.sameAt W' p)→DataW.TrodAll enc P W' 0 sp true ts vs ds ps
  | [],[],[],_,_,h,_=>h
  | _::_,_::_,_::_,_,_,⟨p,q,⟨n,h1⟩,h2,e⟩,hs=>⟨p,q,⟨n,DataW.trod_carry n _ _ _ h1 (fun x hx=>hs x (by rw[e];exact List.mem_append_left _ hx))⟩,hV_ h2 (fun x hx=>hs x (by rw[e];exact List.mem_append_right _ hx)),e⟩
theorem rA_ {T:TypeId→Prop} (K:Kids P T) (hz:∀ t e,T t→P.underlying t=some (.slice e)→0<P.cellsOf e) {f:Func} {s:ChangeSpec} {args:Array Value} {ds:List (DataW H)} {before:List MemPlace} {tb:TypeId} (hts:∀ t∈f.params.toList,T t) (hvars:s.vars=[])
    (hW:DataW.Whole enc P f.params.toList s.vars false W args.toList ds [] before) (hs:s.fn H (ds++[])={ results:=[.lit (.bool true)],args:=ds }) (hres:f.resultTypes=#[tb]) (hb:P.underlying tb=some .bool) {v':Vw} (hto:(vw W).to [] v' []) :
    s.post enc P f false true false false W args (.bool true) v'.w:=by
  have hW':=hW
  obtain⟨p,q,hA,hV,hp,_,_⟩:=hW
  have hq:q=[]:=by rw[hvars]at hV;exact hV
  subst hq
  simp only[List.append_nil]at hp
  subst hp
  have hblk:∀ b,b<W.heap.size→v'.w.heap[b]? = W.heap[b]? := fun b hb=>hto.block b hb (by simp)
  have hsame:∀ x∈before,W.sameAt v'.w x:=fun x hx=>by
    have hlt:=DataW.TrodAll.lt hA x hx
    cases x with
    | cell b off=>exact World.cell?_of_block (hblk b hlt)
    | map b=>exact hblk b hlt
  have hA':=hV_ hA hsame
  have hA'':=DataW.TrodAll.respare K hz (spare':=fun b=>decide (b<W.heap.size)) hts hA' (fun x hx=>by simpa using DataW.TrodAll.lt hA x hx)
  refine⟨ds,[],before,[],before,[],hW',?_,?_,?_,⟨hto.os,hto.output,fun i hi=>?_⟩,fun h=>by cases h⟩
  · rw[hs,hres];exact trodAll_mk1 (shut_bool hb true)
  · rw[hs];exact hA''
  · rw[hs,hvars];rfl
  · rw[hblk i hi]
    have hsome:∃ o,W.heap[i]? = some o:=⟨_,Array.getElem?_eq_getElem hi⟩
    obtain⟨o,ho⟩:=hsome
    rw[ho]
    cases o<;>simp
section
variable {tI tB tS tSs tC tCs tA tAs tP tPs:TypeId} (X:Tys P tI tB tS tSs tC tCs tA tAs tP tPs) {base:Nat} {v:Value} {d:DataW H} {ps:List MemPlace}
include X
end
theorem iw_ {T:TypeId→Prop} (K:Kids P T) {name:String} {d:DataW Unit} {laid:List (String×DataW Unit)} {W:World} (h:laidMet P laid W) (hm:(name,d)∈laid) {g:Nat} {t:TypeId} (hg:P.globalNamed name=some g) (ht':(P.globals[g]?).map (·.type)=some t) (hT:T t) {m:Nat} (hb:gL_ P m t=true) :
    ∃ T' fz,W.heap[g]? = some (.cells (eQ_ d).toArray T' fz):=by
  obtain⟨ps,hl,_,_⟩:=h
  have key:∀ (l:List (String×DataW Unit)) (ps:List MemPlace),DataW.LaidVars P W l ps→(name,d)∈l→∃ g t cs n p,P.globalNamed name=some g∧(P.globals[g]?).map (·.type)=some t∧W.var? P name=some cs∧DataW.trod (fun _=>()) P W 0 (fun _=>true) false n t cs.toList=some (d,p):=by
    intro l
    induction l with
    | nil=>intro ps _ h;cases h
    | cons x r ih =>
      intro ps h hm
      obtain⟨n',d'⟩:=x
      obtain⟨g,t,cs,fuel,p,q,h1,h2,h3,h4,h5,_⟩:=h
      rcases List.mem_cons.1 hm with e|hm
      · cases e;exact⟨g,t,cs,fuel,p,h1,h2,h3,h4⟩
      · exact ih q h5 hm
  obtain⟨g',t',cs,n,p,h1,h2,h3,h4⟩:=key laid ps hl hm
  obtain rfl:g'=g:=Option.some.inj (h1.symm.trans hg)
  obtain rfl:t'=t:=Option.some.inj (h2.symm.trans ht')
  have e:=rs_ K n m t' cs.toList _ hT hb h4
  simp only[World.var?,hg,Option.bind_some]at h3
  split at h3
  · rename_i c T' fz hc
    simp only[Option.some.injEq]at h3
    subst h3
    exact⟨T',fz,by rw[hc,← e]⟩
  · cases h3
end
end Go.Vs
namespace Go.Sx
open Go
section
variable {P:Program} {N:Nf} {fr:Fr} {H:Hp} {Γ:List Fct}
theorem jZ_ {f:FuncId} {args:Array Value} {r:Value} {g:Nat} {cur:Array Value} {T:TypeId} {d:Array (List UInt8)} (hc:fN_ P f)
    (h:∀ v:Vw,v.sat [(g,.cells cur T (0,0))]→Calls P f args v.w fun e w'=>e=.returned r∧∃ n os,w'=Sort.grow (Sort.putRow Go.Proofs.encStr (Sort.ahead v.w n) g 0 d) os) :
    Tri P f args [(g,.cells cur T (0,0))] Γ (fun _:Unit=>r) (fun _=>[(g,.cells (Sort.putCells Go.Proofs.encStr 0 d cur) T (0,0))]) (fun _=>[]) :=
  ⟨hc,fun v h1 _=>(h v h1).mono fun e w' ⟨he,n,os,hw⟩=>by
    have hg:=(h1.own _ List.mem_cons_self)
    have hlt:g<v.w.heap.size:=(Array.getElem?_eq_some_iff.1 hg.1).1
    have hb:∀ b,b<v.w.heap.size→w'.heap[b]? = if b=g then some (.cells (Sort.putCells Go.Proofs.encStr 0 d cur) T (0,0)) else v.w.heap[b]? := fun b hb=>by
      rw[hw]
      simp only[Sort.grow,Sort.putRow,Sort.mapBlock,Sort.ahead]
      rw[Array.getElem?_append_left (by simpa using hb),Array.getElem?_modify]
      by_cases e:b=g
      · subst e
        simp only[if_true,hg.1,Option.map_some,Sort.onCells]
      · rw[if_neg (fun q=>e q.symm),if_neg e]
    have hsz:v.w.heap.size≤w'.heap.size:=by rw[hw];simp[Sort.grow,Sort.putRow,Sort.mapBlock,Sort.ahead]
    refine⟨(),⟨v.im,w',v.sl⟩,he,rfl,⟨fun p hp=>?_,by simp,fun b hbb=>Nat.lt_of_lt_of_le (h1.lt b hbb) hsz⟩,trivial,⟨by rw[hw];rfl,by rw[hw];rfl,by rw[hw];rfl,hsz,fun b hbb hn=>?_,fun _ h=>h,fun _ h=>.inl h,fun b hm=>.inl (by simpa using hm),rfl,.inr (by rw[hw];exact Nat.le_add_right _ _)⟩⟩
    · simp only[List.mem_singleton]at hp
      subst hp
      exact⟨by show w'.heap[g]? = _;rw[hb g hlt,if_pos rfl],hg.2⟩
    · have hn':b≠g:=by simpa using hn
      show w'.heap[b]? = _
      rw[hb b hbb,if_neg hn']⟩
theorem nl_ {cur:Array Value} {d:List (List UInt8)} (hs:d.length≤cur.size):(Sort.putCells Go.Proofs.encStr 0 d.toArray cur).toList.take d.length=d.flatMap bw_:=by
 rw[kc_]
 apply List.ext_getElem?
 intro j
 rw[List.getElem?_take,List.getElem?_map]
 split
 ·rename_i hj
  simp only[Sort.putCells,Array.getElem?_toList,Array.getElem?_mapIdx]
  rw[Array.getElem?_eq_getElem (by omega)]
  simp only[Option.map_some,Nat.zero_le,true_and,Nat.zero_add,List.size_toArray,hj,if_true,Nat.sub_zero]
  rw[List.getElem?_eq_getElem hj]
  simp only[Option.map_some]
  rw[getElem!_pos d.toArray j (by simpa using hj)]
  rfl
 rename_i hj
 rw[List.getElem?_eq_none (by omega)];rfl
theorem nm_ {cur:Array Value} {d:Array (List UInt8)}:(Sort.putCells Go.Proofs.encStr 0 d cur).size=cur.size:=by simp[Sort.putCells]
end
end Go.Sx
namespace Go.Vs
open Go Go.Sx
def jp_ (p:Pc):List Str:=[p.a,p.b,p.c].filter fun s=>!(s==[])
def cX_ (l:List Pc):List Str:=l.flatMap jp_
def cG_ (l:List Pc):List Str:=Lib.compact ((cX_ l).mergeSort fun x y=>decide (x≤y))
theorem ii_:∀ l:List Pc,(cX_ l).length≤3*l.length
  | []=>by simp[cX_]
  | p::r=>by
    have h1:=ii_ r
    have h2:(jp_ p).length≤3:=by unfold jp_;exact List.length_filter_le _ _
    simp only[cX_,List.flatMap_cons,List.length_append,List.length_cons]at h1 ⊢
    omega
theorem jC_ {zs:List Str}:Lib.compact zs=((List.range zs.length).filter fun j=>decide (j=0∨zs[j]! ≠ zs[j - 1]!)).map fun j=>zs[j]! := by
 unfold Lib.compact Lib.compactUpTo Lib.keeps
 have e:∀ j,zs.toArray[j]! = zs[j]! := fun j=>by
   by_cases h:j<zs.length
   · rw[getElem!_pos zs.toArray j (by simpa using h),getElem!_pos zs j h];simp
   · rw[getElem!_neg zs.toArray j (by simpa using h),getElem!_neg zs j h]
 rw[List.map_congr_left fun j _=>e j]
 congr 2
 funext j
 rw[e,e]
theorem hv_ (zs:List Str):(Lib.compact zs).length≤zs.length:=by
  rw[jC_,List.length_map]
  have:=List.length_filter_le (fun j=>decide (j=0∨zs[j]! ≠ zs[j - 1]!)) (List.range zs.length)
  simpa using this
theorem jB_ {zs:List Str} (x:Str):x∈Lib.compact zs↔x∈zs:=by
 rw[jC_,List.mem_map]
 constructor
 ·rintro ⟨j,hj,rfl⟩
  have hl:=List.mem_range.1 (List.mem_filter.1 hj).1
  rw[getElem!_pos zs j hl]
  exact List.getElem_mem hl
 intro hx
 obtain⟨j,hj,e⟩:=List.mem_iff_getElem.1 hx
 clear hx
 induction j with
 | zero=>exact⟨0,List.mem_filter.2 ⟨List.mem_range.2 hj,by simp⟩,by rw[getElem!_pos zs 0 hj];exact e⟩
 | succ j ih =>
   by_cases h:zs[j+1]! = zs[j]!
   · have hj':j<zs.length:=by omega
     refine ih hj' ?_
     rw[getElem!_pos zs (j+1) hj,getElem!_pos zs j hj']at h
     rw[← h];exact e
   · exact⟨j+1,List.mem_filter.2 ⟨List.mem_range.2 hj,decide_eq_true (.inr h)⟩,by rw[getElem!_pos zs (j+1) hj];exact e⟩
theorem ij_ (l:List Pc) (x:Str):x∈cG_ l↔x∈cX_ l:=by
  unfold cG_
  rw[jB_,List.mem_mergeSort]
theorem em_ (l:List Pc):(cG_ l).length≤3*l.length:=by
  have h1:=hv_ ((cX_ l).mergeSort fun x y=>decide (x≤y))
  rw[List.length_mergeSort]at h1
  have h2:=ii_ l
  unfold cG_
  omega
end Go.Vs
namespace Go.Proofs.YtaffcjgphlhppaaGreatDoor
open Go Go.Sx Go.Proofs
attribute [local irreducible] Code.wp wpList wpAnyH
open Go.Vs
theorem eltS:Elt Tryz.prog 46 9 1 16:=kS_ lo_ (z:=.string ⟨#[]⟩) (by kernel_rfl) rfl (by decide)
theorem lR_ {g n cap:Nat} {cur:Array Value} {xs:List Str} {v:Vw} (hs:v.sat [(g,.cells cur 9 (0,0))]) (ht:cur.toList.take (xs.length*1)=xs.flatMap bw_):Sort.Holds encStr v.w g 0 xs.toArray:=by
 intro j hj
 have hb:=(hs.own _ List.mem_cons_self).1
 simp only[List.size_toArray]at hj
 have hc:cur[j]? = some (str xs[j]):=pz_ ht j xs[j] (List.getElem?_eq_getElem hj)
 refine⟨?_,?_⟩
 ·simp only[World.cell?,Nat.zero_add,hb,Option.isSome_none,Bool.false_eq_true,if_false]
  rw[hc,getElem!_pos xs.toArray j (by simpa using hj)]
  rfl
 simp[World.frozen?,hb]
theorem oY_ {sv:Value} {xs:List Str} {Hr:Hp} (h:bA_ 9 1 sv xs.length (xs.flatMap bw_) Hr) (hl:xs.length≤1000000000000) :
    Tri Tryz.prog 97 #[sv] Hr [] (fun _:{y:Hp // bA_ 9 1 sv xs.length ((xs.mergeSort fun x y=>decide (x≤y)).flatMap bw_) y}=>.tuple #[]) (fun y=>y.1) (fun _=>[]):=by
  rcases h.2 with⟨rfl,h2,rfl⟩|⟨g,cap,cur,rfl,rfl,h3,h4,h5,h6⟩
  · obtain rfl:xs=[]:=List.eq_nil_of_length_eq_zero h2
    have T:=ew_ (P:=Tryz.prog) (H:=[]) (Γ:=[]) (callable Tryz.func97 rfl rfl) (fun v _ _=>(Tryz.slices_Sort_string_none none 0 v.w).mono (by rintro e w' ⟨rfl,rfl⟩;exact⟨rfl,⟨rfl,rfl,rfl,Nat.le_refl _,fun _ _=>rfl⟩,.inr (Nat.le_refl _)⟩))
    exact⟨T.callable,fun v a b=>(T.run v a b).mono (by rintro e w' ⟨x,v',e1,e2,e3,e4,e5⟩;exact⟨⟨[],by simpa using bA_.nil _ _⟩,v',e1,e2,e3,e4,e5⟩)⟩
  · have T:=jZ_ (P:=Tryz.prog) (Γ:=[]) (d:=(xs.mergeSort fun x y=>decide (x≤y)).toArray) (callable Tryz.func97 rfl rfl) (fun v hs=>Tryz.slices_Sort_string g 0 cap xs v.w (lR_ (n:=0) (cap:=0) hs h6) (Array.getElem?_eq_some_iff.1 (hs.own _ List.mem_cons_self).1).1 (by omega))
    have hsz:(xs.mergeSort fun x y=>decide (x≤y)).length=xs.length:=List.length_mergeSort _
    refine⟨T.callable,fun v a b=>(T.run v a b).mono ?_⟩
    rintro e w' ⟨x,v',e1,e2,e3,e4,e5⟩
    refine⟨⟨_,by rw[el_ bw_ 1 aS_,hsz],.inr ⟨g,cap,_,rfl,rfl,h3,h4,by rw[nm_];exact h5,?_⟩⟩,v',e1,e2,e3,e4,e5⟩
    have:=nl_ (cur:=cur) (d:=xs.mergeSort fun x y=>decide (x≤y)) (by rw[hsz,h5];omega)
    rw[hsz]at this
    rw[Nat.mul_one];exact this
theorem kU_ {sv:Value} {xs:List Str} {Hr:Hp} (h:bA_ 9 1 sv xs.length (xs.flatMap bw_) Hr) (hl:xs.length≤1000000000000) :
    Tri Tryz.prog 98 #[sv] Hr [] (fun y:{y:Value×Hp // bA_ 9 1 y.1 (Lib.compact xs).length ((Lib.compact xs).flatMap bw_) y.2}=>y.1.1) (fun y=>y.1.2) (fun _=>[]):=by
  rcases h.2 with⟨rfl,h2,rfl⟩|⟨g,cap,cur,rfl,rfl,h3,h4,h5,h6⟩
  · obtain rfl:xs=[]:=List.eq_nil_of_length_eq_zero h2
    have T:=ew_ (P:=Tryz.prog) (H:=[]) (Γ:=[]) (callable Tryz.func98 rfl rfl) (fun v _ _=>(Tryz.slices_Compact_string_empty none 0 v.w).mono (by rintro e w' ⟨rfl,rfl⟩;exact⟨rfl,⟨rfl,rfl,rfl,Nat.le_refl _,fun _ _=>rfl⟩,.inr (Nat.le_refl _)⟩))
    exact⟨T.callable,fun v a b=>(T.run v a b).mono (by rintro e w' ⟨x,v',e1,e2,e3,e4,e5⟩;exact⟨⟨(.slice none 0 0,[]),by simpa [Lib.compact,Lib.compactUpTo] using bA_.nil _ _⟩,v',e1,e2,e3,e4,e5⟩)⟩
  · have hcl:=hv_ xs
    have T:=jZ_ (P:=Tryz.prog) (Γ:=[]) (r:=.slice (some ⟨g,0,none⟩) (Lib.compact xs).length cap) (d:=(Lib.compact xs++List.replicate (xs.length - (Lib.compact xs).length) []).toArray) (callable Tryz.func98 rfl rfl) (fun v hs=>(Tryz.slices_Compact_string g 0 cap xs v.w (lR_ (n:=0) (cap:=0) hs h6) (by omega) h3).mono (by
      rintro e w' ⟨rfl,q,rfl⟩
      exact⟨rfl,q,#[],by rw[Sort.grow_empty]⟩))
    refine⟨T.callable,fun v a b=>(T.run v a b).mono ?_⟩
    rintro e w' ⟨x,v',e1,e2,e3,e4,e5⟩
    refine⟨⟨(.slice (some ⟨g,0,none⟩) (Lib.compact xs).length cap,_),by rw[el_ bw_ 1 aS_],.inr ⟨g,cap,_,rfl,rfl,by omega,h4,by rw[nm_];exact h5,?_⟩⟩,v',e1,e2,e3,e4,e5⟩
    have hd:(Lib.compact xs++List.replicate (xs.length - (Lib.compact xs).length) ([]:Str)).length=xs.length:=by simp;omega
    have:=nl_ (cur:=cur) (d:=Lib.compact xs++List.replicate (xs.length - (Lib.compact xs).length) []) (by rw[hd,h5];omega)
    rw[hd]at this
    have h7:=congrArg (List.take (Lib.compact xs).length) this
    rw[List.take_take,Nat.min_eq_left hcl,List.flatMap_append,List.take_append_of_le_length (by rw[el_ bw_ 1 aS_];omega),List.take_of_length_le (l:=(Lib.compact xs).flatMap bw_) (by rw[el_ bw_ 1 aS_];omega)]at h7
    rw[Nat.mul_one];exact h7
theorem pr_ (l:List Pc) (ad:Option Addr) (cap:Nat) (hl:l.length≤100000000000):Tri Tryz.prog 73 #[.slice ad (List.length l) cap] [] [at_ ad (List.flatMap Pc.cells l)] (fun y:{y:Option Addr×Nat // (cG_ l).length≤y.2∧y.2≤maxLen}=>.slice y.1.1 (cG_ l).length y.1.2) (fun _=>[]) (fun y=>[at_ y.1.1 ((cG_ l).flatMap bw_)]):=by
 refine t_ Tryz.func73 rfl rfl Tryz.ntmps73 rfl fun v0=>?_
 refine Zz 14 ?_
 refine dA_ [(2,.slice none 0 0),(7,.slice ad (List.length l) cap),(8,.int .i64 (List.length l:Int)),(9,.int .i64 ((0:Nat):Int))] zl ?_
 refine dO_ (ι:={y:Nat×Value×Hp // y.1≤l.length∧bA_ 9 1 y.2.1 (cX_ (l.take y.1)).length ((cX_ (l.take y.1)).flatMap bw_) y.2.2}) (fun y=>[(2,y.1.2.1),(7,.slice ad (List.length l) cap),(8,.int .i64 (List.length l:Int)),(9,.int .i64 (y.1.1:Int))]) (fun y=>y.1.2.2) (fun _=>_) (fun y=>l.length - y.1.1) ⟨(0,.slice none 0 0,[]),by simp,bA_.nil _ _⟩ ?_
 rintro ⟨⟨i,sv,Hr⟩,hi,hrow⟩
 dsimp only at hi hrow
 dsimp only
 have hol:=ii_ (l.take i)
 rw[List.length_take]at hol
 refine dA_ [(2,sv),(7,.slice ad (List.length l) cap),(8,.int .i64 (List.length l:Int)),(9,.int .i64 (i:Int))] zl ?_
 refine Zi 2 (fun hr1=>?_) fun hr1=>?_
 ·refine Zz 7 ?_
  have et:l.take i=l:=List.take_of_length_le (by omega)
  rw[et]at hrow hol
  refine Zz 2 ?_
  refine q_ (oY_ hrow (by omega)) rfl bH_ zt rfl fun⟨Hs,hs⟩=>?_
  dsimp only
  refine ac_ (List.Perm.symm bH_) ?_
  have hs2:bA_ 9 1 sv ((cX_ l).mergeSort fun x y=>decide (x≤y)).length (((cX_ l).mergeSort fun x y=>decide (x≤y)).flatMap bw_) Hs:=by rw[List.length_mergeSort];exact hs
  refine Zz 5 ?_
  refine q_ (kU_ hs2 (by rw[List.length_mergeSort];omega)) rfl bH_ zt rfl fun⟨⟨sc,Hc⟩,hc⟩=>?_
  dsimp only
  refine ac_ (List.Perm.symm bH_) (Zz 4 ?_)
  refine kx_ hc bH_ fun ad2 cp2 hsv hc1 hc2=>?_
  exact J_ Tryz.results73 ⟨(ad2,cp2),hc1,hc2⟩ (hN_ rfl hsv) g_ zf
 obtain⟨hlx1,x1,hx1,hmx1⟩:=zge (show i<List.length l by omega)
 refine Zz 12 ?_
 refine C_ bv_ rfl fun b1=>w_ 0 am_ rfl rfl rfl rfl rfl rfl (Zz 10 ?_)
 refine ap_ N_ al_ br_ rfl rfl rfl rfl rfl rfl fun b2=>?_
 refine bu_ (List.flatMap bw_ [x1.a,x1.b,x1.c]) e_ rfl ?_
 refine Zz 5 ?_
 refine dA_ [(2,sv),(7,.slice ad (List.length l) cap),(8,.int .i64 (List.length l:Int)),(9,.int .i64 (i:Int)),(19,.slice (some ⟨b2,0,none⟩) (List.length [x1.a,x1.b,x1.c]) 3),(20,.int .i64 3),(21,.int .i64 ((0:Nat):Int))] zl ?_
 refine dO_ (ι:={y:Nat×Value×Hp // y.1≤3∧bA_ 9 1 y.2.1 (cX_ (l.take i)++(List.take y.1 [x1.a,x1.b,x1.c]).filter fun s=>!(s==[])).length ((cX_ (l.take i)++(List.take y.1 [x1.a,x1.b,x1.c]).filter fun s=>!(s==[])).flatMap bw_) y.2.2}) (fun y=>[(2,y.1.2.1),(7,.slice ad (List.length l) cap),(8,.int .i64 (List.length l:Int)),(9,.int .i64 (i:Int)),(19,.slice (some ⟨b2,0,none⟩) (List.length [x1.a,x1.b,x1.c]) 3),(20,.int .i64 3),(21,.int .i64 (y.1.1:Int))]) (fun y=>_:: y.1.2.2) (fun _=>_) (fun y=>3 - y.1.1) ⟨(0,sv,Hr),by simp,by simpa using hrow⟩ ?_
 rintro ⟨⟨k,sw,Hw⟩,hk,hkr⟩
 dsimp only at hk hkr
 dsimp only
 have hfl:((cX_ (l.take i)++(List.take k [x1.a,x1.b,x1.c]).filter fun s=>!(s==[]))).length≤(cX_ (l.take i)).length+3:=by
   have:=List.length_filter_le (fun s=>!(s==[])) (List.take k [x1.a,x1.b,x1.c])
   simp only[List.length_append,List.length_take,List.length_cons,List.length_nil]at this ⊢
   omega
 refine dA_ [(2,sw),(7,.slice ad (List.length l) cap),(8,.int .i64 (List.length l:Int)),(9,.int .i64 (i:Int)),(19,.slice (some ⟨b2,0,none⟩) (List.length [x1.a,x1.b,x1.c]) 3),(20,.int .i64 3),(21,.int .i64 (k:Int))] zl ?_
 refine Zi 2 (fun hr2=>?_) fun hr2=>?_
 ·refine Zz 11 ?_
  have hst:cX_ (l.take (i+1))=cX_ (l.take i)++jp_ x1:=by unfold cX_;rw[List.take_add_one,hx1,List.flatMap_append];simp
  exact Q_ ⟨(i+1,sw,Hw),hlx1,by dsimp only;rw[hst];have:=hkr;rw[List.take_of_length_le (show [x1.a,x1.b,x1.c].length≤k by simp;omega)]at this;exact this⟩ (by dsimp only;omega) zl (c_ bH_) (fun _ _ h=>h.2)
 have hly1:k<List.length [x1.a,x1.b,x1.c]:=by simp;omega
 obtain⟨y1,hy1⟩:∃ e0,[x1.a,x1.b,x1.c][k]? = some e0:=⟨_,List.getElem?_eq_getElem hly1⟩
 have hmy1:y1∈[x1.a,x1.b,x1.c]:=List.mem_of_getElem? hy1
 refine Zz 11 ?_
 refine d_ (bn_ (ad:=(some ⟨b2,0,none⟩)) ai_ rfl zf (G_ aS_ hy1 0 _ rfl)) rfl (Zi 6 (fun hr3=>?_) fun hr3=>?_)
 ·refine Zz 10 ?_
  have hst:(cX_ (l.take i)++(List.take (k+1) [x1.a,x1.b,x1.c]).filter fun s=>!(s==[]))=(cX_ (l.take i)++(List.take k [x1.a,x1.b,x1.c]).filter fun s=>!(s==[]))++[y1].filter (fun s=>!(s==[])):=by rw[List.append_assoc,← List.filter_append,List.take_add_one,hy1];simp
  rw[show [y1].filter (fun s=>!(s==[]))=[] by simp[*],List.append_nil]at hst
  exact Q_ ⟨(k+1,sw,Hw),by dsimp only;omega,by dsimp only;rw[hst];exact hkr⟩ (by dsimp only;omega) zl zp zh
 refine Zz 6 ?_
 refine ap_ N_ al_ br_ rfl rfl rfl rfl rfl rfl fun b3=>?_
 refine aH_ (news:=[str y1]) eltS hkr rfl rfl zp rfl (bJ_ 0 rfl) (ta_ rfl) (by simp only[maxLen];omega) (by omega) rfl fun sv2 Hr2 hrow2=>?_
 refine ac_ (@List.perm_append_comm _ _ [_,_]) (Zz 8 ?_)
 have hst:(cX_ (l.take i)++(List.take (k+1) [x1.a,x1.b,x1.c]).filter fun s=>!(s==[]))=(cX_ (l.take i)++(List.take k [x1.a,x1.b,x1.c]).filter fun s=>!(s==[]))++[y1].filter (fun s=>!(s==[])):=by rw[List.append_assoc,← List.filter_append,List.take_add_one,hy1];simp
 rw[show [y1].filter (fun s=>!(s==[]))=[y1] by simp[*]]at hst
 exact Q_ ⟨(k+1,sv2,Hr2),by dsimp only;omega,by dsimp only;rw[hst];rw[List.length_append (bs:=[y1]),List.flatMap_append (ys:=[y1])];exact hrow2⟩ (by dsimp only;omega) zl (o_ (c_ e_) (c_ bH_)) zh
end Go.Proofs.YtaffcjgphlhppaaGreatDoor
namespace Go.Sx
open Go
section
variable {P:Program} {N:Nf} {v0:Vw} {H0:Hp} {R:Exit→Act→World→Prop} {K:List Kt} {fr:Fr} {H:Hp} {Γ:List Fct}
variable {ops:Array Oper} {l:List Oper} {d:Nat} {ty:TypeId} {ps:String} {af:Array Edge}
end
end Go.Sx
namespace Go.Vs
open Go Go.Sx
def Cov (hs:List Bool) (L S:List Str):Prop:=hs.length=L.length∧∀ (n:Nat) (s:Str),L[n]? = some s→s∈S→hs[n]? = some true
theorem Cov.nil (L:List Str):Cov (List.replicate L.length false) L []:=⟨by simp,fun _ _ _ h=>by simp at h⟩
theorem Cov.set {hs:List Bool} {L S:List Str} (h:Cov hs L S) (n:Nat):Cov (hs.set n true) L S:=⟨by rw[List.length_set];exact h.1,fun m s h1 h2=>by
 have h3:=h.2 m s h1 h2
 rw[List.getElem?_set]
 split
 ·rename_i e
  subst e
  rw[if_pos (List.getElem?_eq_some_iff.1 h3).1]
 exact h3⟩
def oP_ (hs:List Bool) (L S:List Str) (y:Str) (n:Nat):Prop:=Cov hs L S∧∀ m,m<n→L[m]? = some y→hs[m]? = some true
theorem oP_.zero {hs:List Bool} {L S:List Str} {y:Str} (h:Cov hs L S):oP_ hs L S y 0:=⟨h,fun _ h=>by omega⟩
theorem oP_.hit {hs:List Bool} {L S:List Str} {y:Str} {n:Nat} (h:oP_ hs L S y n) (hn:n<L.length):oP_ (hs.set n true) L S y (n+1):=⟨h.1.set n,fun m hm e=>by
 rw[List.getElem?_set]
 split
 ·rename_i e
  rw[if_pos (by rw[h.1.1];omega)]
 rename_i e2
 exact h.2 m (by omega) e⟩
theorem oP_.done {hs:List Bool} {L S:List Str} {y:Str} {n:Nat} (h:oP_ hs L S y n) (hn:L.length≤n):Cov hs L (S++[y]):=⟨h.1.1,fun m s h1 h2=>by
 rcases List.mem_append.1 h2 with h2|h2
 ·exact h.1.2 m s h1 h2
 simp only[List.mem_singleton]at h2
 subst h2
 have:=(List.getElem?_eq_some_iff.1 h1).1
 exact h.2 m (by omega) h1⟩
def three (p:Pc):List Str:=[p.a,p.b,p.c]
theorem Cov.all {hs:List Bool} {l:List Pc} (h:Cov hs (cG_ l) (l.flatMap three)) {n:Nat} (hn:n<(cG_ l).length):hs[n]? = some true:=by
  have hm:=(ij_ l _).1 (List.getElem_mem hn)
  refine h.2 n _ (List.getElem?_eq_getElem hn) ?_
  simp only[cX_,List.mem_flatMap,jp_,List.mem_filter]at hm
  obtain⟨p,h1,h2⟩:=hm
  exact List.mem_flatMap.2 ⟨p,h1,h2.1⟩
end Go.Vs
namespace Go.Vs
open Go Go.Sx
-- valid pieces,kind by kind
section
variable {a b c r s t:Str} {lo hi f:Int}
end
-- atoms
-- roles
structure RInv (s:Str) (a i:Nat) (dn:List Str):Prop where
  le:a≤i
  il:i≤s.length
  no:ixS 46 ((s.drop a).take (i - a))=none
  sp:bk_ 46 s=dn++bk_ 46 (s.drop a)
  al:dn.all bm_=true
structure REnd (s:Str) (i:Nat) (dn:List Str):Prop where
  il:i=s.length+1
  sp:bk_ 46 s=dn
  al:dn.all bm_=true
theorem RInv.len {s:Str} {a i:Nat} {dn:List Str} (h:RInv s a i dn):dn.length≤s.length+1:=by
  have h1:=dC_ 46 s
  have h2:=iS_ 46 s
  rw[h.sp,List.length_append]at h1
  omega
theorem REnd.len {s:Str} {i:Nat} {dn:List Str} (h:REnd s i dn):dn.length≤s.length+1:=by
  have h1:=dC_ 46 s
  have h2:=iS_ 46 s
  rw[h.sp]at h1
  omega
theorem REnd.role {s:Str} {i:Nat} {dn:List Str} (h:REnd s i dn):di_ s=decide ((dn.length:Int)≤4):=by
  unfold di_
  rw[h.sp]
  have:dn.any (fun r=>!bm_ r)=false:=by
    rw[List.any_eq_false]
    intro x hx
    have:=List.all_eq_true.1 h.al x hx
    simp[this]
  rw[this]
  simp
  omega
-- sorted insertion
end Go.Vs
