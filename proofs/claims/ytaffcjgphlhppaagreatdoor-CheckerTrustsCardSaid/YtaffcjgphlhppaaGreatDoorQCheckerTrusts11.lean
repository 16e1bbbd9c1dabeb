/-
  Part of the proof of the law CheckerTrusts over this seat: the small logic, the data, the contracts of functions (no condition).
-/
import Derived.Test.YtaffcjgphlhppaaGreatDoorQCheckerTrusts10
import Derived.Test.YtaffcjgphlhppaaGreatDoorQCheckerTrusts7
import Derived.Test.YtaffcjgphlhppaaGreatDoorQCheckerTrusts6
import Derived.Test.YtaffcjgphlhppaaGreatDoorQCheckerTrusts3
set_option linter.unusedVariables false
set_option linter.unusedSimpArgs false
set_option linter.unusedSectionVars false
set_option maxHeartbeats 1000000
namespace Go.Vs
open Go Go.Sx
def I64 (n:Int):Prop:=-9223372036854775808≤n∧n≤9223372036854775807
instance (n:Int):Decidable (I64 n):=by unfold I64;infer_instance
instance (f:Fc):Decidable f.sml:=by unfold Fc.sml;infer_instance
theorem lD_ {n:Int} (h0:0≤n) (h:n<18446744073709551616):(bits n:Int)=n:=by
  unfold bits;rw[show n.emod 18446744073709551616=n from Int.emod_eq_of_lt h0 h];omega
theorem uV_ {n:Int} (h0:n<0) (h:-9223372036854775808≤n):(bits n:Int)=n+18446744073709551616:=by
  have e:n.emod 18446744073709551616=n+18446744073709551616:=by
    show n%18446744073709551616=_
    omega
  unfold bits;rw[e];omega
theorem ko_ (n:Int) (k:Nat) (r:Str):fm_ k (aH_ n k++r)=some (bits n%256 ^ k,r):=by
  rw[kN_ (by simp[cl_])];have e:(aH_ n k++r).take k=aH_ n k:=by rw[List.take_left' (cl_ n k)]
  have e2:(aH_ n k++r).drop k=r:=by rw[List.drop_left' (cl_ n k)]
  rw[e,e2,qo_]
theorem kD_ {n:Int} (h0:0≤n) (h:n≤255) (r:Str):fc_ (aH_ n 1++r)=some (n,r):=by
  have hb:=lD_ h0 (by omega);unfold fc_;rw[ko_,show bits n%256 ^ 1=bits n by rw[Nat.pow_one];exact Nat.mod_eq_of_lt (by omega)];simp[hb]
theorem oC_ {n:Int} (h0:0≤n) (h:n≤2147483647) (r:Str):if_ (aH_ n 4++r)=some (n,r):=by
  have hb:=lD_ h0 (by omega);have e:(256:Nat) ^ 4=4294967296:=by decide
  rw[wT_ (v:=bits n) (r':=r) (by rw[ko_,show bits n%256 ^ 4=bits n by rw[e];exact Nat.mod_eq_of_lt (by omega)]) (by omega),hb]
theorem pO_ {n:Int} (h:I64 n) (r:Str):iG_ (aH_ n 8++r)=some (n,r):=by
 obtain⟨h1,h2⟩:=h;have e:(256:Nat) ^ 8=18446744073709551616:=by decide
 unfold iG_;rw[ko_,e]
 by_cases h0:0≤n
 ·have hb:=lD_ h0 (by omega)
  rw[Nat.mod_eq_of_lt (by omega)];simp only[Option.map_some,jN_];rw[if_pos (by omega),hb]
 have hb:=uV_ (by omega) h1;rw[Nat.mod_eq_of_lt (by omega)];simp only[Option.map_some,jN_];rw[if_neg (by omega),hb]
 congr 2
 omega
theorem lL_ {s:Str} (h:s.length≤65535) (r:Str):gB_ (dn_ s++r)=some (s,r):=by
  have hb:=lD_ (n:=(s.length:Int)) (by omega) (by omega);have e:(256:Nat) ^ 2=65536:=by decide
  have hi:fm_ 2 (dn_ s++r)=some (s.length,s++r):=by
    rw[dn_,List.append_assoc,ko_,show bits (s.length:Int)%256 ^ 2=s.length by rw[e,Nat.mod_eq_of_lt (by omega)];omega]
  rw[tl_ hi (by simp)];simp
theorem pW_:∀ (l:List Int),(∀ q∈l,0≤q∧q≤2147483647)→∀ r:Str,hb_ l.length ((l.flatMap fun q=>aH_ q 4)++r)=some (l,r)
  | [],_,_=>rfl
  | q::l,h,r=>by
    have hq:=h q List.mem_cons_self;rw[List.length_cons,kO_,List.flatMap_cons,List.append_assoc,oC_ hq.1 hq.2,Option.bind_some,pW_ l (fun z hz=>h z (List.mem_cons_of_mem _ hz)) r];rfl
theorem tr_ {s:Stp} (h:hc_ s=true) (hl:I64 s.fact.lo) (hh:I64 s.fact.hi) (r:Str):jW_ (en_ s++r)=some (s.ds,r):=by
  obtain⟨h1,h2,h3,h4,h5,h6,h7,h8,h9,h10,h11⟩:=hJ_.1 h
  have e:en_ s++r=aH_ s.rule 1++(aH_ s.fact.kind 1++(dn_ s.fact.a++(dn_ s.fact.b++(dn_ s.fact.r++(aH_ s.fact.lo 8++(aH_ s.fact.hi 8++(aH_ (s.piece+1) 4++(aH_ (s.frm.length:Int) 1++((s.frm.flatMap fun q=>aH_ q 4)++r))))))))):=by
    simp[en_,List.append_assoc]
  rw[fq_,e];simp only[kD_ h1 h2,kD_ h3 h4,lL_ h9,lL_ h10,lL_ h11,pO_ hl,pO_ hh,oC_ (n:=s.piece+1) (by omega) (by omega),kD_ (n:=(s.frm.length:Int)) (by omega) (by omega),Option.bind_some,Int.toNat_natCast,pW_ s.frm h8,Option.map_some];rw[show s.piece+1 - 1=s.piece by omega];rfl
theorem no_:∀ (l:List Stp),(∀ s∈l,hc_ s=true∧I64 s.fact.lo∧I64 s.fact.hi)→∀ r:Str,fp_ l.length (l.flatMap en_++r)=some (l.map Stp.ds,r)
  | [],_,_=>rfl
  | s::l,h,r=>by
    have hs:=h s List.mem_cons_self;rw[List.length_cons,fp_,List.flatMap_cons,List.append_assoc,tr_ hs.1 hs.2.1 hs.2.2,Option.bind_some,no_ l (fun z hz=>h z (List.mem_cons_of_mem _ hz)) r];rfl
theorem wq_ {l:List Stp} {b:Str} {e:Int} (h:il_ l=(b,e)):(e=0∧l.length≤65536∧(∀ s∈l,hc_ s=true)∧b=sM_ l)∨(e≠0∧b=[]∧¬ (l.length≤65536∧∀ s∈l,hc_ s=true)):=by
 unfold il_ at h
 split at h
 ·simp only[Prod.mk.injEq]at h
  exact .inr ⟨by omega,h.1.symm,fun q=>by omega⟩
 split at h
 ·rename_i h1 h2
  simp only[Prod.mk.injEq]at h;exact .inl ⟨h.2.symm,by omega,List.all_eq_true.1 h2,h.1.symm⟩
 rename_i h1 h2
 simp only[Prod.mk.injEq]at h;exact .inr ⟨by omega,h.1.symm,fun q=>h2 (List.all_eq_true.2 q.2)⟩
theorem wu_ {l:List Stp} {b:Str} (h:il_ l=(b,0)) (hi:∀ s∈l,I64 s.fact.lo∧I64 s.fact.hi):qZ_ b=some (l.map Stp.ds):=by
 rcases wq_ h with⟨_,hl,ho,rfl⟩|⟨h0,_⟩
 ·have e:sM_ l=aH_ (l.length:Int) 4++(l.flatMap en_++[]):=by simp[sM_]
  rw[fD_,e,oC_ (by omega) (by omega),Option.bind_some,if_pos (by omega),Int.toNat_natCast,no_ l (fun s hs=>⟨ho s hs,hi s hs⟩),Option.bind_some,if_pos rfl]
 exact absurd rfl h0
structure Fc.lim (f:Fc):Prop where
  a:f.a.length≤140737488351232
  b:f.b.length≤140737488351232
  r:f.r.length≤140737488351232
structure Pc.lim (p:Pc):Prop where
  a:p.a.length≤140737488351232
  b:p.b.length≤140737488351232
  c:p.c.length≤140737488351232
  r:p.r.length≤140737488351232
  s:p.s.length≤140737488351232
  t:p.t.length≤140737488351232
def Stp.few (s:Stp):Prop:=s.frm.length≤300∧s.fact.a.length+s.fact.b.length+s.fact.r.length≤1500
theorem Stp.few.sml {s:Stp} (h:s.few):s.fact.sml:=by obtain⟨_,h⟩:=h;exact⟨by omega,by omega,by omega⟩
structure SameS (Y Z:List Stp):Prop where
  len:Y.length=Z.length
  eq:∀ (i:Nat) s t,Y[i]? = some s→Z[i]? = some t→s.rule=t.rule∧s.fact=t.fact∧s.piece=t.piece∧s.frm=t.frm
theorem tD_ {Y Z:List Stp} (h:Y.map Stp.ds=Z.map Stp.ds):SameS Y Z:=by
  refine⟨by have:=congrArg List.length h;simpa using this,fun i s t hs ht=>?_⟩;have:=congrArg (fun l=>l[i]?) h;simp only[List.getElem?_map,hs,ht,Option.map_some,Option.some.injEq,Stp.ds,Ds.mk.injEq]at this;exact⟨this.1,this.2.1,this.2.2.1,this.2.2.2⟩
end Go.Vs
namespace Go.Proofs.YtaffcjgphlhppaaGreatDoor
open Go Go.Sx Go.Proofs
attribute [local irreducible] Code.wp wpList wpAnyH
open Go.Vs
theorem ew_ (s:Str) (hs:s.length≤140737488351232):Fn0 Tryz.prog 148 #[str s] (.bool (bb_ s)):=by
  refine w_ Tryz.func148 rfl rfl Tryz.ntmps148 rfl fun v0=>?_;refine Zz 8 ?_;refine n_ (he_ s hs) rfl j_ zt rfl fun _=>J_ (aM_ rfl rfl) rfl fun r1 hr1=>Zz 4 ?_
  exact T_ Tryz.results148 () (l_ rfl (by cases h:bb_ s<;>simp_all)) (.refl _) zt
theorem hL_ (s:Str) (hs:s.length≤140737488351232):Fn0 Tryz.prog 146 #[str s] (.bool (aR_ s)):=by
 refine w_ Tryz.func146 rfl rfl Tryz.ntmps146 rfl fun v0=>?_;refine Zz 8 ?_;refine d_ (cj_ V_ rfl) rfl (Zi 8 (fun hr1=>?_) fun hr1=>?_)
 ·refine Zi 4 (fun hr2=>?_) fun hr2=>?_
  ·refine Zi 8 (fun hr3=>?_) fun hr3=>?_
   ·refine Zi 19 (fun hr4=>?_) fun hr4=>?_
    ·refine Zz 21 ?_
     refine ak_ (ew_ _ (by first|exact hs|(simp;omega))) rfl j_ zt rfl fun r5 hr5=>?_;refine Zz 4 ?_;exact T_ de_ () (l_ rfl (by unfold aR_;(repeat (any_goals split))<;>first|rfl|(simp_all;done)|(exfalso;simp_all;omega)|(exfalso;simp_all;done))) (.refl _) zt
    exfalso;omega
   obtain⟨c,hc⟩:∃ c,s[0]? = some c:=⟨_,List.getElem?_eq_getElem (by omega)⟩;obtain⟨e,he⟩:∃ e,s[s.length - 1]? = some e:=⟨_,List.getElem?_eq_getElem (by omega)⟩
   have hc123 : (s[0]? = some 123) ↔ ((c.toNat : Int) = 123) := by
                       rw[hc];simp only[Option.some.injEq];exact⟨fun q=>by subst q;rfl,fun q=>UInt8.toNat_inj.1 (by show c.toNat=123;omega)⟩
   have he125 : (s[s.length - 1]? = some 125) ↔ ((e.toNat : Int) = 125) := by
                       rw[he];simp only[Option.some.injEq];exact⟨fun q=>by subst q;rfl,fun q=>UInt8.toNat_inj.1 (by show e.toNat=125;omega)⟩
   have hc60 : (s[0]? = some 60) ↔ ((c.toNat : Int) = 60) := by
                       rw[hc];simp only[Option.some.injEq];exact⟨fun q=>by subst q;rfl,fun q=>UInt8.toNat_inj.1 (by show c.toNat=60;omega)⟩
   have he62 : (s[s.length - 1]? = some 62) ↔ ((e.toNat : Int) = 62) := by
                       rw[he];simp only[Option.some.injEq];exact⟨fun q=>by subst q;rfl,fun q=>UInt8.toNat_inj.1 (by show e.toNat=62;omega)⟩
   refine Zz 4 ?_;refine d_ (cA_ V_ rfl rfl (by decide) hc) rfl (Y_ rfl rfl ?_);refine Zi 0 (fun hr6=>?_) fun hr6=>?_
   ·refine Zi 15 (fun hr7=>?_) fun hr7=>?_
    ·refine Zz 21 ?_
     refine ak_ (ew_ _ (by first|exact hs|(simp;omega))) rfl j_ zt rfl fun r8 hr8=>?_;refine Zz 4 ?_;exact T_ de_ () (l_ rfl (by unfold aR_;(repeat (any_goals split))<;>first|rfl|(simp_all;done)|(exfalso;simp_all;omega)|(exfalso;simp_all;done))) (.refl _) zt
    refine Zz 4 ?_;refine d_ (cA_ V_ rfl rfl (by decide) hc) rfl (Y_ rfl rfl ?_);refine Zi 0 (fun hr9=>?_) fun hr9=>?_
    ·refine Zz 17 ?_
     refine ak_ (ew_ _ (by first|exact hs|(simp;omega))) rfl j_ zt rfl fun r10 hr10=>?_;refine Zz 4 ?_;exact T_ de_ () (l_ rfl (by unfold aR_;(repeat (any_goals split))<;>first|rfl|(simp_all;done)|(exfalso;simp_all;omega)|(exfalso;simp_all;done))) (.refl _) zt
    refine Zz 9 ?_;refine d_ (cA_ V_ rfl rfl (by omega) (show s[((s.length:Int) - 1).toNat]? = some e by rw[show ((s.length:Int) - 1).toNat=s.length - 1 by omega];exact he)) rfl ?_;refine Y_ rfl rfl ?_;refine Zi 0 (fun hr11=>?_) fun hr11=>?_
    ·refine Zz 10 ?_
     refine ak_ (ew_ _ (by first|exact hs|(simp;omega))) rfl j_ zt rfl fun r12 hr12=>?_;refine Zz 4 ?_;exact T_ de_ () (l_ rfl (by unfold aR_;(repeat (any_goals split))<;>first|rfl|(simp_all;done)|(exfalso;simp_all;omega)|(exfalso;simp_all;done))) (.refl _) zt
    refine Zz 11 ?_;exact T_ de_ () (l_ rfl (by unfold aR_;(repeat (any_goals split))<;>first|rfl|(simp_all;done)|(exfalso;simp_all;omega)|(exfalso;simp_all;done))) (.refl _) zt
   refine Zz 9 ?_;refine d_ (cA_ V_ rfl rfl (by omega) (show s[((s.length:Int) - 1).toNat]? = some e by rw[show ((s.length:Int) - 1).toNat=s.length - 1 by omega];exact he)) rfl ?_;refine Y_ rfl rfl ?_;refine Zi 0 (fun hr13=>?_) fun hr13=>?_
   ·refine Zi 8 (fun hr14=>?_) fun hr14=>?_
    ·refine Zz 21 ?_
     refine ak_ (ew_ _ (by first|exact hs|(simp;omega))) rfl j_ zt rfl fun r15 hr15=>?_;refine Zz 4 ?_;exact T_ de_ () (l_ rfl (by unfold aR_;(repeat (any_goals split))<;>first|rfl|(simp_all;done)|(exfalso;simp_all;omega)|(exfalso;simp_all;done))) (.refl _) zt
    refine Zz 4 ?_;refine d_ (cA_ V_ rfl rfl (by decide) hc) rfl (Y_ rfl rfl ?_);refine Zi 0 (fun hr16=>?_) fun hr16=>?_
    ·refine Zz 17 ?_
     refine ak_ (ew_ _ (by first|exact hs|(simp;omega))) rfl j_ zt rfl fun r17 hr17=>?_;refine Zz 4 ?_;exact T_ de_ () (l_ rfl (by unfold aR_;(repeat (any_goals split))<;>first|rfl|(simp_all;done)|(exfalso;simp_all;omega)|(exfalso;simp_all;done))) (.refl _) zt
    refine Zz 9 ?_;refine d_ (cA_ V_ rfl rfl (by omega) (show s[((s.length:Int) - 1).toNat]? = some e by rw[show ((s.length:Int) - 1).toNat=s.length - 1 by omega];exact he)) rfl ?_;refine Y_ rfl rfl ?_;refine Zi 0 (fun hr18=>?_) fun hr18=>?_
    ·refine Zz 10 ?_
     refine ak_ (ew_ _ (by first|exact hs|(simp;omega))) rfl j_ zt rfl fun r19 hr19=>?_;refine Zz 4 ?_;exact T_ de_ () (l_ rfl (by unfold aR_;(repeat (any_goals split))<;>first|rfl|(simp_all;done)|(exfalso;simp_all;omega)|(exfalso;simp_all;done))) (.refl _) zt
    refine Zz 11 ?_;exact T_ de_ () (l_ rfl (by unfold aR_;(repeat (any_goals split))<;>first|rfl|(simp_all;done)|(exfalso;simp_all;omega)|(exfalso;simp_all;done))) (.refl _) zt
   refine Zz 10 ?_;refine d_ (fH_ (i:=1) (j:=s.length - 1) (kl:=.i64) (kh:=.i64) V_ rfl rfl (show _=some (Value.int .i64 ((s.length - 1:Nat):Int)) by rw[show ((s.length - 1:Nat):Int)=(s.length:Int) - 1 by omega];rfl) (by omega) (by omega)) rfl ?_;refine ak_ (ew_ _ (by first|exact hs|(simp;omega))) rfl j_ zt rfl fun r20 hr20=>?_;refine Zz 4 ?_;exact T_ de_ () (l_ rfl (by unfold aR_;(repeat (any_goals split))<;>first|rfl|(simp_all;done)|(exfalso;simp_all;omega)|(exfalso;simp_all;done))) (.refl _) zt
  refine Zz 11 ?_;exact T_ de_ () (l_ rfl (by unfold aR_;(repeat (any_goals split))<;>first|rfl|(simp_all;done)|(exfalso;simp_all;omega)|(exfalso;simp_all;done))) (.refl _) zt
 refine Zz 14 ?_;exact T_ de_ () (l_ rfl (by unfold aR_;(repeat (any_goals split))<;>first|rfl|(simp_all;done)|(exfalso;simp_all;omega)|(exfalso;simp_all;done))) (.refl _) zt
theorem sR_ (s:Str) (hs:s.length≤17592186044414):Fn0 Tryz.prog 147 #[str s] (.bool (cp_ s)):=by
 refine w_ Tryz.func147 rfl rfl Tryz.ntmps147 rfl fun v0=>?_;have hsl:=er_ 46 s;have hcl:=kx_ 46 s;refine Zz 8 ?_;refine n_ (ru_ s 46 hs) rfl j_ zt rfl fun b=>Zz 12 ?_
 refine aF_ (ι:={y:Nat // y≤List.length (bd_ 46 s)∧(List.any (List.take y (bd_ 46 s)) fun r=>!bb_ r)=false}) (fun y=>[(2,.bool false),(3,.slice (some ⟨b,0,none⟩) (List.length (bd_ 46 s)) ((bd_ 46 s).length)),(8,.slice (some ⟨b,0,none⟩) (List.length (bd_ 46 s)) ((bd_ 46 s).length)),(9,.int .i64 (List.length (bd_ 46 s):Int)),(10,.int .i64 (y.1:Int))]) (fun y=>([])) (fun y=>[aC_ (some ⟨b,0,none⟩) (List.flatMap by_ (bd_ 46 s))]) (fun y=>List.length (bd_ 46 s) - y.1) ⟨(0:Nat),by simp,by simp⟩ zl j_ zh ?_;rintro ⟨i,hi_i,hA⟩;dsimp only at hi_i hA ⊢;refine Zi 2 (fun hr1=>?_) fun hr1=>?_
 ·refine Zz 10 ?_
  refine J_ (ep_ rfl rfl) rfl fun r2 hr2=>Zz 4 ?_
  exact T_ Tryz.results147 () (l_ rfl (by unfold cp_;rw[show (bd_ 46 s).any (fun r=>!bb_ r)=false from by have q:=hA;rw[List.take_of_length_le (by omega)]at q;exact q];subst_vars;rw[Bool.eq_iff_iff];simp<;>omega)) j_ zt
 obtain⟨hlx1,x1,hx1,hmx1⟩:=zge (show i<List.length (bd_ 46 s) by omega);refine Zz 11 ?_;refine d_ (bm_ (ad:=(some ⟨b,0,none⟩)) al_ rfl zf (K_ aK_ hx1 0 _ rfl)) rfl (Zz 6 ?_);refine ak_ (ew_ x1 (by have:=gD_ hmx1;omega)) rfl j_ zt rfl fun r3 hr3=>?_;refine d_ (bn_ rfl) rfl (Zz 2 ?_);cases r3
 ·refine Zz 7 ?_
  exact T_ Tryz.results147 () (l_ rfl (by unfold cp_;rw[show (bd_ 46 s).any (fun r=>!bb_ r)=true from List.any_eq_true.2 ⟨x1,hmx1,by simp[*]⟩];simp)) j_ zt
 refine Zz 8 ?_;exact aa_ ⟨i+1,hlx1,by rw[List.take_add_one,hx1];simp only[Option.toList_some,List.any_append,hA];simp[*]⟩ (by dsimp only;omega) zl j_ zh
theorem bN_ (a b:Str):Fn0 Tryz.prog 129 #[str a,str b] (Fc.val (W_ a b)):=by
  refine w_ Tryz.func129 rfl rfl Tryz.ntmps129 rfl fun v0=>?_;refine Zz 2 ?_;refine E_ ag_ rfl fun b1=>Zz 6 ?_
  refine d_ (F_ gd_ rfl rfl) rfl (z_ 0 y_ rfl rfl rfl rfl rfl rfl (Zz 3 ?_));exact eQ_ () (fun aa v h1 h2=>cf_ (us:=Fc.cells (W_ a b)) 0 Tryz.results129 aS_ y_ rfl rfl rfl aa v h1 h2) j_ zt
theorem fQ_ (a r b:Str):Fn0 Tryz.prog 134 #[str a,str r,str b] (Fc.val (az_ a r b)):=by
  refine w_ Tryz.func134 rfl rfl Tryz.ntmps134 rfl fun v0=>?_;refine Zz 2 ?_;refine E_ ag_ rfl fun b1=>Zz 7 ?_
  refine d_ (F_ gd_ rfl rfl) rfl (z_ 0 y_ rfl rfl rfl rfl rfl rfl (Zz 3 ?_));exact eQ_ () (fun aa v h1 h2=>cf_ (us:=Fc.cells (az_ a r b)) 0 Tryz.results134 aS_ y_ rfl rfl rfl aa v h1 h2) j_ zt
theorem go_ (a r:Str) (lo hi:Int):Fn0 Tryz.prog 149 #[str a,str r,.int .i64 lo,.int .i64 hi] (Fc.val (M_ a r lo hi)):=by
  refine w_ Tryz.func149 rfl rfl Tryz.ntmps149 rfl fun v0=>?_;refine Zz 2 ?_;refine E_ ag_ rfl fun b1=>Zz 8 ?_
  refine d_ (F_ gd_ rfl rfl) rfl (z_ 0 y_ rfl rfl rfl rfl rfl rfl (Zz 3 ?_));exact eQ_ () (fun aa v h1 h2=>cf_ (us:=Fc.cells (M_ a r lo hi)) 0 Tryz.results149 aS_ y_ rfl rfl rfl aa v h1 h2) j_ zt
theorem wR_ (f:Fc) (hsm:f.sml):Fn0 Tryz.prog 75 #[Fc.val f] (.bool (wf2 f)):=by
 refine w_ Tryz.func75 rfl rfl Tryz.ntmps75 rfl fun v0=>?_;obtain⟨hsa,hsb,hsr⟩:=hsm;refine Zz 2 ?_;refine ah_ rfl rfl fun b1=>Zi 13 (fun hr1=>?_) fun hr1=>?_
 ·refine Zi 6 (fun hr2=>?_) fun hr2=>?_
  ·refine Zi 6 (fun hr3=>?_) fun hr3=>?_
   ·refine Zz 12 ?_
    exact T_ cF_ () (l_ rfl (by have p1:=eq_false hr1;have p2:=eq_false hr2;have p3:=eq_false hr3;simp only[wf2,p1,p2,p3,if_true,if_false,decide_true,decide_false,Bool.and_true,Bool.and_false,Bool.true_and,Bool.false_and,Bool.or_true,Bool.or_false,Bool.true_or,Bool.false_or,Bool.not_true,Bool.not_false,ne_eq,not_true_eq_false,not_false_eq_true,true_and,and_true,false_and,and_false,true_or,or_true,false_or,or_false,ite_true,ite_false,Bool.false_eq_true])) j_ zt
   refine Zz 6 ?_;refine o_ 37 [0,1] zk zs (Zz 3 ?_);refine i_ 2 rfl zk (ak_ (hL_ f.a (by omega)) rfl j_ zt rfl fun r4 hr4=>Zz 3 ?_);refine o_ 35 [3] zk zs (Zz 2 ?_);cases r4
   ·refine o_ 0 [4,5,6,7,8,9,10,11,12,13,14,15,16,17,18,19,20,21,22,23,24,25,26,27,28,29,30,31,32,33,34,35,36,37,38] zk zs (Zz 39 ?_)
    exact T_ cF_ () (l_ rfl (by have p1:=eq_false hr1;have p2:=eq_false hr2;have p3:=eq_true hr3;simp only[wf2,p1,p2,p3,hr4,if_true,if_false,decide_true,decide_false,Bool.and_true,Bool.and_false,Bool.true_and,Bool.false_and,Bool.or_true,Bool.or_false,Bool.true_or,Bool.false_or,Bool.not_true,Bool.not_false,ne_eq,not_true_eq_false,not_false_eq_true,true_and,and_true,false_and,and_false,true_or,or_true,false_or,or_false,ite_true,ite_false,Bool.false_eq_true])) j_ zt
   refine o_ 33 [4,5] zk zs (Zz 3 ?_);refine i_ 6 rfl zk (Y_ rfl rfl (ak_ (ew_ f.r (by omega)) rfl j_ zt rfl fun r5 hr5=>Zz 3 ?_));refine o_ 30 [7,8] zk zs (Zz 3 ?_);cases r5
   ·refine o_ 0 [9,10,11,12,13,14,15,16,17,18,19,20,21,22,23,24,25,26,27,28,29,30,31,32,33,34,35,36,37,38] zk zs (Zz 34 ?_)
    exact T_ cF_ () (l_ rfl (by have p1:=eq_false hr1;have p2:=eq_false hr2;have p3:=eq_true hr3;simp only[wf2,p1,p2,p3,hr4,hr5,if_true,if_false,decide_true,decide_false,Bool.and_true,Bool.and_false,Bool.true_and,Bool.false_and,Bool.or_true,Bool.or_false,Bool.true_or,Bool.false_or,Bool.not_true,Bool.not_false,ne_eq,not_true_eq_false,not_false_eq_true,true_and,and_true,false_and,and_false,true_or,or_true,false_or,or_false,ite_true,ite_false,Bool.false_eq_true])) j_ zt
   refine o_ 21 [9,10,11,12,13,14,15,16,17] zk zs (Zz 10 ?_);refine i_ 18 rfl zk (Y_ rfl rfl (n_ (go_ f.a f.r f.lo f.hi) rfl j_ zt rfl fun _=>Zz 3 ?_));refine o_ 17 [19,20,21] zk zs (aI_ rfl rfl rfl (ar_ (p:=f) (q:=(M_ f.a f.r f.lo f.hi)) rfl rfl) rfl fun r6 hr6=>Zz 3 ?_);cases r6
   ·replace hr6:=zdf hr6
    refine o_ 0 [22,23,24,25,26,27,28,29,30,31,32,33,34,35,36,37,38] zk zs (Zz 21 ?_);exact T_ cF_ () (l_ rfl (by have p1:=eq_false hr1;have p2:=eq_false hr2;have p3:=eq_true hr3;have p6:=eq_false hr6;simp only[wf2,p1,p2,p3,hr4,hr5,p6,if_true,if_false,decide_true,decide_false,Bool.and_true,Bool.and_false,Bool.true_and,Bool.false_and,Bool.or_true,Bool.or_false,Bool.true_or,Bool.false_or,Bool.not_true,Bool.not_false,ne_eq,not_true_eq_false,not_false_eq_true,true_and,and_true,false_and,and_false,true_or,or_true,false_or,or_false,ite_true,ite_false,Bool.false_eq_true])) j_ zt
   replace hr6:=zdt hr6;refine o_ 12 [22,23,24,25,26] zk zs (Zi 2 (fun hr7=>?_) fun hr7=>?_)
   ·refine Zz 3 ?_
    refine o_ 0 [27,28,29,30,31,32,33,34,35,36,37,38] zk zs (Zz 16 ?_);exact T_ cF_ () (l_ rfl (by have p1:=eq_false hr1;have p2:=eq_false hr2;have p3:=eq_true hr3;have p6:=eq_true hr6;have p7:=eq_false hr7;simp only[wf2,p1,p2,p3,hr4,hr5,p6,p7,if_true,if_false,decide_true,decide_false,Bool.and_true,Bool.and_false,Bool.true_and,Bool.false_and,Bool.or_true,Bool.or_false,Bool.true_or,Bool.false_or,Bool.not_true,Bool.not_false,ne_eq,not_true_eq_false,not_false_eq_true,true_and,and_true,false_and,and_false,true_or,or_true,false_or,or_false,ite_true,ite_false,Bool.false_eq_true])) j_ zt
   refine Zz 3 ?_;refine o_ 5 [27,28,29,30,31,32,33] zk zs (Zi 4 (fun hr8=>?_) fun hr8=>?_)
   ·refine Zz 3 ?_
    refine o_ 0 [34,35,36,37,38] zk zs (Zz 9 ?_);exact T_ cF_ () (l_ rfl (by have p1:=eq_false hr1;have p2:=eq_false hr2;have p3:=eq_true hr3;have p6:=eq_true hr6;have p7:=eq_true hr7;have p8:=eq_false hr8;simp only[wf2,p1,p2,p3,hr4,hr5,p6,p7,p8,if_true,if_false,decide_true,decide_false,Bool.and_true,Bool.and_false,Bool.true_and,Bool.false_and,Bool.or_true,Bool.or_false,Bool.true_or,Bool.false_or,Bool.not_true,Bool.not_false,ne_eq,not_true_eq_false,not_false_eq_true,true_and,and_true,false_and,and_false,true_or,or_true,false_or,or_false,ite_true,ite_false,Bool.false_eq_true])) j_ zt
   refine Zz 3 ?_;refine o_ 0 [34,35,36,37,38] zk zs (Zz 2 ?_);refine aI_ rfl rfl rfl (ep_ rfl rfl) rfl fun r9 hr9=>Zz 6 ?_
   exact T_ cF_ () (l_ rfl (by have p1:=eq_false hr1;have p2:=eq_false hr2;have p3:=eq_true hr3;have p6:=eq_true hr6;have p7:=eq_true hr7;have p8:=eq_true hr8;rw[← hr9];simp only[wf2,p1,p2,p3,hr4,hr5,p6,p7,p8,if_true,if_false,decide_true,decide_false,Bool.and_true,Bool.and_false,Bool.true_and,Bool.false_and,Bool.or_true,Bool.or_false,Bool.true_or,Bool.false_or,Bool.not_true,Bool.not_false,ne_eq,not_true_eq_false,not_false_eq_true,true_and,and_true,false_and,and_false,true_or,or_true,false_or,or_false,ite_true,ite_false,Bool.false_eq_true])) j_ zt
  refine Zz 6 ?_;refine o_ 23 [0,1] zk zs (Zz 3 ?_);refine i_ 2 rfl zk (ak_ (hL_ f.a (by omega)) rfl j_ zt rfl fun r10 hr10=>Zz 3 ?_);refine o_ 21 [3] zk zs (Zz 2 ?_);cases r10
  ·refine o_ 0 [4,5,6,7,8,9,10,11,12,13,14,15,16,17,18,19,20,21,22,23,24] zk zs (Zz 25 ?_)
   exact T_ cF_ () (l_ rfl (by have p1:=eq_false hr1;have p2:=eq_true hr2;simp only[wf2,p1,p2,hr10,if_true,if_false,decide_true,decide_false,Bool.and_true,Bool.and_false,Bool.true_and,Bool.false_and,Bool.or_true,Bool.or_false,Bool.true_or,Bool.false_or,Bool.not_true,Bool.not_false,ne_eq,not_true_eq_false,not_false_eq_true,true_and,and_true,false_and,and_false,true_or,or_true,false_or,or_false,ite_true,ite_false,Bool.false_eq_true])) j_ zt
  refine o_ 19 [4,5] zk zs (Zz 3 ?_);refine i_ 6 rfl zk (Y_ rfl rfl (ak_ (hL_ f.b (by omega)) rfl j_ zt rfl fun r11 hr11=>Zz 3 ?_));refine o_ 16 [7,8] zk zs (Zz 3 ?_);cases r11
  ·refine o_ 0 [9,10,11,12,13,14,15,16,17,18,19,20,21,22,23,24] zk zs (Zz 20 ?_)
   exact T_ cF_ () (l_ rfl (by have p1:=eq_false hr1;have p2:=eq_true hr2;simp only[wf2,p1,p2,hr10,hr11,if_true,if_false,decide_true,decide_false,Bool.and_true,Bool.and_false,Bool.true_and,Bool.false_and,Bool.or_true,Bool.or_false,Bool.true_or,Bool.false_or,Bool.not_true,Bool.not_false,ne_eq,not_true_eq_false,not_false_eq_true,true_and,and_true,false_and,and_false,true_or,or_true,false_or,or_false,ite_true,ite_false,Bool.false_eq_true])) j_ zt
  refine o_ 14 [9,10] zk zs (Zz 3 ?_);refine i_ 11 rfl zk (Y_ rfl rfl (ak_ (sR_ f.r (by omega)) rfl j_ zt rfl fun r12 hr12=>Zz 3 ?_));refine o_ 11 [12,13] zk zs (Zz 3 ?_);cases r12
  ·refine o_ 0 [14,15,16,17,18,19,20,21,22,23,24] zk zs (Zz 15 ?_)
   exact T_ cF_ () (l_ rfl (by have p1:=eq_false hr1;have p2:=eq_true hr2;simp only[wf2,p1,p2,hr10,hr11,hr12,if_true,if_false,decide_true,decide_false,Bool.and_true,Bool.and_false,Bool.true_and,Bool.false_and,Bool.or_true,Bool.or_false,Bool.true_or,Bool.false_or,Bool.not_true,Bool.not_false,ne_eq,not_true_eq_false,not_false_eq_true,true_and,and_true,false_and,and_false,true_or,or_true,false_or,or_false,ite_true,ite_false,Bool.false_eq_true])) j_ zt
  refine o_ 4 [14,15,16,17,18,19,20] zk zs (Zz 8 ?_);refine i_ 21 rfl zk (Y_ rfl rfl (n_ (fQ_ f.a f.r f.b) rfl j_ zt rfl fun _=>Zz 3 ?_));refine o_ 0 [22,23,24] zk zs (aI_ rfl rfl rfl (ar_ (p:=f) (q:=(az_ f.a f.r f.b)) rfl rfl) rfl fun r13 hr13=>Zz 6 ?_);exact T_ cF_ () (l_ rfl (by have p1:=eq_false hr1;have p2:=eq_true hr2;rw[← hr13];simp only[wf2,p1,p2,hr10,hr11,hr12,if_true,if_false,decide_true,decide_false,Bool.and_true,Bool.and_false,Bool.true_and,Bool.false_and,Bool.or_true,Bool.or_false,Bool.true_or,Bool.false_or,Bool.not_true,Bool.not_false,ne_eq,not_true_eq_false,not_false_eq_true,true_and,and_true,false_and,and_false,true_or,or_true,false_or,or_false,ite_true,ite_false,Bool.false_eq_true])) j_ zt
 refine Zz 6 ?_;refine o_ 16 [0,1] zk zs (Zz 3 ?_);refine i_ 2 rfl zk (ak_ (hL_ f.a (by omega)) rfl j_ zt rfl fun r14 hr14=>Zz 3 ?_);refine o_ 14 [3] zk zs (Zz 2 ?_);cases r14
 ·refine o_ 0 [4,5,6,7,8,9,10,11,12,13,14,15,16,17] zk zs (Zz 18 ?_)
  exact T_ cF_ () (l_ rfl (by have p1:=eq_true hr1;simp only[wf2,p1,hr14,if_true,if_false,decide_true,decide_false,Bool.and_true,Bool.and_false,Bool.true_and,Bool.false_and,Bool.or_true,Bool.or_false,Bool.true_or,Bool.false_or,Bool.not_true,Bool.not_false,ne_eq,not_true_eq_false,not_false_eq_true,true_and,and_true,false_and,and_false,true_or,or_true,false_or,or_false,ite_true,ite_false,Bool.false_eq_true])) j_ zt
 refine o_ 12 [4,5] zk zs (Zz 3 ?_);refine i_ 6 rfl zk (Y_ rfl rfl (ak_ (hL_ f.b (by omega)) rfl j_ zt rfl fun r15 hr15=>Zz 3 ?_));refine o_ 9 [7,8] zk zs (Zz 3 ?_);cases r15
 ·refine o_ 0 [9,10,11,12,13,14,15,16,17] zk zs (Zz 13 ?_)
  exact T_ cF_ () (l_ rfl (by have p1:=eq_true hr1;simp only[wf2,p1,hr14,hr15,if_true,if_false,decide_true,decide_false,Bool.and_true,Bool.and_false,Bool.true_and,Bool.false_and,Bool.or_true,Bool.or_false,Bool.true_or,Bool.false_or,Bool.not_true,Bool.not_false,ne_eq,not_true_eq_false,not_false_eq_true,true_and,and_true,false_and,and_false,true_or,or_true,false_or,or_false,ite_true,ite_false,Bool.false_eq_true])) j_ zt
 refine o_ 4 [9,10,11,12,13] zk zs (Zz 6 ?_);refine i_ 14 rfl zk (Y_ rfl rfl (n_ (bN_ f.a f.b) rfl j_ zt rfl fun _=>Zz 3 ?_));refine o_ 0 [15,16,17] zk zs (aI_ rfl rfl rfl (ar_ (p:=f) (q:=(W_ f.a f.b)) rfl rfl) rfl fun r16 hr16=>Zz 6 ?_);exact T_ cF_ () (l_ rfl (by have p1:=eq_true hr1;rw[← hr16];simp only[wf2,p1,hr14,hr15,if_true,if_false,decide_true,decide_false,Bool.and_true,Bool.and_false,Bool.true_and,Bool.false_and,Bool.or_true,Bool.or_false,Bool.true_or,Bool.false_or,Bool.not_true,Bool.not_false,ne_eq,not_true_eq_false,not_false_eq_true,true_and,and_true,false_and,and_false,true_or,or_true,false_or,or_false,ite_true,ite_false,Bool.false_eq_true])) j_ zt
theorem tb_ {P:Program} {N:Nf} {fr:Fr} {H:Hp} {Γ:List Fct} {ty t:TypeId} {x:Operand} {u:Value} {fs:Array Field} (hu:∀ w,(underlying t).run P w=.ok (.struct fs) w) (hx:Fr.ev fr x=some u):Yld P N fr H Γ (.makeInterface t x) ty (.iface t u) :=
  fun a v h1 _ _ _ _ _=>by simp[execOp,h1.ev hx,Instr.makeInterface,hu]
theorem vq_:hN_ Tryz.prog 156 [] []:=⟨_,Tryz.zeroValue156,Tryz.runUnderlying156,fun w=>by simp[]⟩
theorem need_t:TriX Tryz.prog 43 #[.bool true] [] [] (fun _:{u:Unit // true=true}=>.tuple #[]) (fun _=>[]) (fun _=>[]) (true=false):=by
  refine bp_ Tryz.func43 rfl rfl Tryz.ntmps43 rfl fun v0=>?_;refine Zz 3 ?_;refine d_ (bn_ rfl) rfl (Zz 5 ?_);refine endX ?_;exact ci_ Tryz.results43 ⟨(),rfl⟩ rfl j_ zt
theorem need_f:TriX Tryz.prog 43 #[.bool false] [] [] (fun _:{u:Unit // false=true}=>.tuple #[]) (fun _=>[]) (fun _=>[]) (false=false):=by
  refine bp_ Tryz.func43 rfl rfl Tryz.ntmps43 rfl fun v0=>?_;refine Zz 3 ?_;refine d_ (bn_ rfl) rfl (Zz 4 ?_);refine d_ (F_ vq_ rfl rfl) rfl (d_ (tb_ Tryz.runUnderlying156 rfl) rfl ?_);exact sw_ rfl (dk_ rfl)
theorem ex_ (ok:Bool):TriX Tryz.prog 43 #[.bool ok] [] [] (fun _:{u:Unit // ok=true}=>.tuple #[]) (fun _=>[]) (fun _=>[]) (ok=false):=by
 cases ok
 ·exact need_f
 exact need_t
end Go.Proofs.YtaffcjgphlhppaaGreatDoor
namespace Go.Vs
open Go Go.Sx
def Ky.cells (k:Ky):List Value:=[.int .i64 k.kind,str k.role,str k.atom]
theorem Ky.cells_len (k:Ky):k.cells.length=3:=rfl
def Ky.val (k:Ky):Value:=.agg k.cells.toArray
def pd_ (s:io_):List Value:=[str s.1,str s.2]
def ip_ (s:io_):Value:=.agg (pd_ s).toArray
def Ky.eqb (p q:Ky):Bool:=(p.kind==q.kind)&&((p.role==q.role)&&((p.atom==q.atom)&&true))
theorem Ky.eqb_eq (p q:Ky):p.eqb q=decide (p=q):=by
  rw[Bool.eq_iff_iff];cases p;cases q;simp[Ky.eqb]
def wL_ (p q:io_):Bool:=(p.1==q.1)&&((p.2==q.2)&&true)
theorem tu_ (p q:io_):wL_ p q=decide (p=q):=by
  rw[Bool.eq_iff_iff];cases p;cases q;simp[wL_]
theorem Fc.cells_one (p:Fc):p.cells.all Value.oneCell'=true:=rfl
end Go.Vs
namespace Go.Sx
open Go Go.Vs
structure Emt (P:Program) (tF:TypeId) where
  stp:Fc→List Fc→List Fc
  kof:List Fc→List Fc
  St:List Fc→List Fc→Hp→Prop
  fn:FuncId
  caps:List Value
  ef:Fct
  kb:Nat
  fb:Nat
  grows:Grows stp kof
  emit:∀ f nw fm H,St nw fm H→Tri P fn (f.val::caps).toArray H [ef] (fun _:{H':Hp // St (stp f nw) fm H'}=>.tuple #[]) (fun y=>y.1) (fun _=>[])
  known:∀ {nw fm H},St nw fm H→∃ es c,(kb,Obj.map es c)∈H∧SetE Fc.val es (kof nw)
  firm:∀ {nw fm H},St nw fm H→∃ es c q,(fb,Obj.map es c)∈H∧SetE Fc.val es q∧∀ f,f∈q↔f∈fm
  setf:∀ {nw fm H} (f:Fc),St nw fm H→∃ es c q Hr,H.Perm ((fb,Obj.map es c)::Hr)∧SetE Fc.val es q∧(∀ f,f∈q↔f∈fm)∧∀ es' c',SetE Fc.val es' (if f∈q then q else q++[f])→∃ H',St nw (f::fm) H'∧H'.Perm ((fb,Obj.map es' c')::Hr)
section
variable {P:Program} {N:Nf} {v0:Vw} {H0:Hp} {R:Exit→Act→World→Prop} {K:List Kt} {fr:Fr} {H:Hp} {Γ:List Fct}
variable {ops:Array Oper} {l:List Oper} {d:Nat} {ty:TypeId} {ps:String} {af:Array Edge} {tF:TypeId} {E:Emt P tF} {nw fm:List Fc} {Hs F:Hp}
theorem mh_ {b:Nat} {o:Obj} {v:Vw} (hp:H.Perm (Hs++F)) (hm:(b,o)∈Hs) (h:v.sat H):v.w.heap[b]? = some o:=(h.own _ (hp.mem_iff.2 (List.mem_append_left _ hm))).1
theorem iT_ {t et:TypeId} {x y:Operand} {f:Fc} (hS:E.St nw fm Hs) (hK:KeyT P tF Fc.val) (hu:∀ w,(underlying t).run P w=.ok (.map tF et) w) (hz:∀ w,(zeroValue et).run P w=.ok (.bool false) w) (hx:Fr.ev fr x=some (.map (some E.kb))) (hy:Fr.ev fr y=some f.val) (hp:H.Perm (Hs++F)) :
    Yld P N fr H Γ (.lookup t x y false) ty (.bool (decide (f∈E.kof nw))):=by
  obtain⟨es,c,g1,g2⟩:=E.known hS;exact eD_ hK hu hz hx hy g2 fun v h _=>mh_ hp g1 h
theorem oV_ {t et:TypeId} {x y:Operand} {f:Fc} (hS:E.St nw fm Hs) (hK:KeyT P tF Fc.val) (hu:∀ w,(underlying t).run P w=.ok (.map tF et) w) (hz:∀ w,(zeroValue et).run P w=.ok (.bool false) w) (hx:Fr.ev fr x=some (.map (some E.fb))) (hy:Fr.ev fr y=some f.val) (hp:H.Perm (Hs++F)) :
    Yld P N fr H Γ (.lookup t x y false) ty (.bool (decide (f∈fm))):=by
  obtain⟨es,c,q,g1,g2,g3⟩:=E.firm hS;have:=eD_ (P:=P) (N:=N) (H:=H) (Γ:=Γ) (ty:=ty) hK hu hz hx hy g2 fun v h _=>mh_ hp g1 h
  have e:decide (f∈q)=decide (f∈fm):=by rw[decide_eq_decide];exact g3 f
  rw[← e];exact this
theorem ua_ {o:Op} {t et:TypeId} {x y z:Operand} {f:Fc} (hS:E.St nw fm Hs) (hK:KeyT P tF Fc.val) (ho:o=.insert t x y z∨o=.mapUpdate t x y z) (hu:∀ w,(underlying t).run P w=.ok (.map tF et) w)
    (hx:Fr.ev fr x=some (.map (some E.fb))) (hy:Fr.ev fr y=some f.val) (hz:Fr.ev fr z=some (.bool true)) (hp:H.Perm (Hs++F))
    (hk:∀ Hs',E.St nw (f::fm) Hs'→Ops P R N v0 H0 ops l K fr (Hs'++F) Γ):Ops P R N v0 H0 ops (⟨none,o,ty,ps,af,none⟩::l) K fr H Γ:=by
  obtain⟨es,c,q,Hr,p1,p2,p3,p4⟩:=E.setf f hS;refine S_ (H':=(E.fb,.map es c)::(Hr++F)) (hp.trans (by have:=p1.append_right F;simpa using this)) ?_;refine hw_ 0 hK ho hu hx hy hz rfl p2 fun es' c' hs'=>?_;obtain⟨H',q1,q2⟩:=p4 es' c' hs';simp only[List.set_cons_zero];exact S_ (by have:=(q2.append_right F).symm;simpa using this) (hk H' q1)
end
structure EngB where
  g:Nat
  pb:Nat
  ab:Nat
  ub:Nat
  ob:Nat
  ib:Nat
  rb:Nat
  sb:Nat
  lad:Option Addr
  lcap:Nat
  lps:List Str
structure EngA where
  p:Ky→Option Addr×Nat
  a:Str→Option Addr×Nat
  u:Str→Option Addr×Nat
  o:io_→Option Addr×Nat
  i:io_→Option Addr×Nat
  r:io_→Option Addr×Nat
  s:io_→Option Addr×Nat
def EngB.cells (B:EngB) {P:Program} {tF:TypeId} (E:Emt P tF):List Value :=
  [.map (some B.pb),.slice B.lad B.lps.length B.lcap,.map (some E.kb),.func (.func E.fn) #[] E.caps.toArray,.map (some B.ab),.map (some B.ub),.map (some B.ob),.map (some B.ib),.map (some B.rb),.map (some B.sb),.map (some E.fb)]
structure IxH where
  a:Hp
  u:Hp
  o:Hp
  i:Hp
  r:Hp
  s:Hp
def IxO (tS tF:TypeId) (B:EngB) (x:Ix) (y:IxH):Prop :=
  ey_ str by_ tS 1 x.above B.ab y.a∧ey_ str by_ tS 1 x.under B.ub y.u∧ey_ ip_ by_ tS 1 x.frm B.ob y.o∧ey_ ip_ by_ tS 1 x.into B.ib y.i∧ey_ ip_ Fc.cells tF 6 x.ranges B.rb y.r∧ey_ ip_ Fc.cells tF 6 x.firms B.sb y.s
end Go.Sx
namespace Go.Proofs.YtaffcjgphlhppaaGreatDoor
open Go Go.Sx Go.Proofs
attribute [local irreducible] Code.wp wpList wpAnyH
open Go.Vs
theorem eqKy (p q:Ky) (w:World):(Op.equalIn 10000 191 (Ky.val p) (Ky.val q)).run Tryz.prog w=.ok (decide (p=q)) w:=by
  have h:=run_equalIn_struct (P:=Tryz.prog) w 9999 191 (Ky.cells p).toArray (Ky.cells q).toArray (by simp only[Program.fieldsOf,Tryz.underlying191]) Tryz.stoodInHeld191;refine h.trans ?_;rw[← Ky.eqb_eq];simp only[Program.fieldsOf,Tryz.underlying191];exact cm_ rfl aO_ rfl rfl (eqI Q_ w) (cm_ rfl al_ rfl rfl (eqS aV_ w) (cm_ rfl al_ rfl rfl (eqS aV_ w) (lB_ w)))
theorem eqSpot (p q:io_) (w:World):(Op.equalIn 10000 171 (ip_ p) (ip_ q)).run Tryz.prog w=.ok (decide (p=q)) w:=by
  have h:=run_equalIn_struct (P:=Tryz.prog) w 9999 171 (pd_ p).toArray (pd_ q).toArray (by simp only[Program.fieldsOf,Tryz.underlying171]) Tryz.stoodInHeld171;refine h.trans ?_;rw[← tu_];simp only[Program.fieldsOf,Tryz.underlying171];exact cm_ rfl al_ rfl rfl (eqS aV_ w) (cm_ rfl al_ rfl rfl (eqS aV_ w) (lB_ w))
theorem okKy (p:Ky):js_ Tryz.prog 191 (Ky.val p):=fun e w=>by
 have hi:∀ (n:Int) (w:World),(Instr.checkKey e (9998+1) 3 (.int .i64 n)).run Tryz.prog w=.ok () w:=fun n w=>MapKept.run_checkKey (d:=.int .i64) Q_ (by simp[MapKept.IsKey]) e 9998
 have hs:∀ (n:Str) (w:World),(Instr.checkKey e (9998+1) 9 (str n)).run Tryz.prog w=.ok () w:=fun n w=>MapKept.run_checkKey (d:=.string) aV_ (by simp[MapKept.IsKey,str]) e 9998
 refine ckF (n:=9999) Tryz.underlying191 fun f hf=>?_;simp only[List.mem_cons,List.not_mem_nil,or_false]at hf;rcases hf with rfl|rfl|rfl
 ·exact⟨rfl,aO_,_,rfl,hi _⟩
 ·exact⟨rfl,al_,_,rfl,hs _⟩
 exact⟨rfl,al_,_,rfl,hs _⟩
theorem okSpot (p:io_):js_ Tryz.prog 171 (ip_ p):=fun e w=>by
 have hi:∀ (n:Int) (w:World),(Instr.checkKey e (9998+1) 3 (.int .i64 n)).run Tryz.prog w=.ok () w:=fun n w=>MapKept.run_checkKey (d:=.int .i64) Q_ (by simp[MapKept.IsKey]) e 9998
 have hs:∀ (n:Str) (w:World),(Instr.checkKey e (9998+1) 9 (str n)).run Tryz.prog w=.ok () w:=fun n w=>MapKept.run_checkKey (d:=.string) aV_ (by simp[MapKept.IsKey,str]) e 9998
 refine ckF (n:=9999) Tryz.underlying171 fun f hf=>?_;simp only[List.mem_cons,List.not_mem_nil,or_false]at hf;rcases hf with rfl|rfl
 ·exact⟨rfl,al_,_,rfl,hs _⟩
 exact⟨rfl,al_,_,rfl,hs _⟩
theorem okFc (p:Fc):js_ Tryz.prog 24 p.val:=fun e w=>by
 have hi:∀ (n:Int) (w:World),(Instr.checkKey e (9998+1) 3 (.int .i64 n)).run Tryz.prog w=.ok () w:=fun n w=>MapKept.run_checkKey (d:=.int .i64) Q_ (by simp[MapKept.IsKey]) e 9998
 have hs:∀ (n:Str) (w:World),(Instr.checkKey e (9998+1) 9 (str n)).run Tryz.prog w=.ok () w:=fun n w=>MapKept.run_checkKey (d:=.string) aV_ (by simp[MapKept.IsKey,str]) e 9998
 refine ckF (n:=9999) nl_ fun f hf=>?_;simp only[List.mem_cons,List.not_mem_nil,or_false]at hf;rcases hf with rfl|rfl|rfl|rfl|rfl|rfl
 ·exact⟨rfl,aO_,_,rfl,hi _⟩
 ·exact⟨rfl,al_,_,rfl,hs _⟩
 ·exact⟨rfl,al_,_,rfl,hs _⟩
 ·exact⟨rfl,al_,_,rfl,hs _⟩
 ·exact⟨rfl,aO_,_,rfl,hi _⟩
 exact⟨rfl,aO_,_,rfl,hi _⟩
theorem is_:KeyT Tryz.prog 191 Ky.val:=ha_ (K:=Ky) Tryz.underlying191 okKy (fun p q w=>eqKy p q w) fun k=>jX_ (l:=Ky.cells k) fun v hv=>by
 simp only[Ky.cells,List.mem_cons,List.not_mem_nil,or_false]at hv;rcases hv with rfl|rfl|rfl
 ·exact fV_ _ _
 ·exact ee_ _ _
 exact ee_ _ _
theorem dt_:KeyT Tryz.prog 171 ip_:=ha_ (K:=io_) Tryz.underlying171 okSpot (fun p q w=>eqSpot p q w) fun k=>jX_ (l:=pd_ k) fun v hv=>by
 simp only[pd_,List.mem_cons,List.not_mem_nil,or_false]at hv;rcases hv with rfl|rfl
 ·exact ee_ _ _
 exact ee_ _ _
theorem kk_:KeyT Tryz.prog 24 Fc.val:=ha_ (K:=Fc) nl_ okFc (fun p q w=>eqFc p q w) fun k=>jX_ (l:=Fc.cells k) fun v hv=>by
 simp only[Fc.cells,List.mem_cons,List.not_mem_nil,or_false]at hv;rcases hv with rfl|rfl|rfl|rfl|rfl|rfl
 ·exact fV_ _ _
 ·exact ee_ _ _
 ·exact ee_ _ _
 ·exact ee_ _ _
 ·exact fV_ _ _
 exact fV_ _ _
theorem uq_:KeyT Tryz.prog 73 Pc.val:=ha_ (K:=Pc) gk_ rF_ (fun p q w=>eqPc p q w) fun k=>jX_ (l:=Pc.cells k) fun v hv=>by
 simp only[Pc.cells,List.mem_cons,List.not_mem_nil,or_false]at hv;rcases hv with rfl|rfl|rfl|rfl|rfl|rfl|rfl|rfl|rfl|rfl
 ·exact fV_ _ _
 ·exact ee_ _ _
 ·exact ee_ _ _
 ·exact ee_ _ _
 ·exact ee_ _ _
 ·exact ee_ _ _
 ·exact ee_ _ _
 ·exact fV_ _ _
 ·exact fV_ _ _
 exact fV_ _ _
theorem kj_:KeyT Tryz.prog 9 str:=pR_ aV_
theorem kT_:Elt Tryz.prog 47 24 6 72:=jq_ Tryz.underlying47 (z:=.agg #[.int .i64 0,str [],str [],str [],.int .i64 0,.int .i64 0]) (by kernel_rfl) rfl (by decide)
theorem mK_:Elt Tryz.prog 22 73 10 128:=jq_ Tryz.underlying22 (z:=.agg #[.int .i64 0,str [],str [],str [],str [],str [],str [],.int .i64 0,.int .i64 0,.int .i64 0]) (by kernel_rfl) rfl (by decide)
theorem ec_:Elt Tryz.prog 46 9 1 16:=jq_ ix_ (z:=.string ⟨#[]⟩) (by kernel_rfl) rfl (by decide)
theorem fo_:hN_ Tryz.prog 191 [(0,1),(1,1),(2,1)] [.int .i64 0,str [],str []]:=⟨_,Tryz.zeroValue191,Tryz.runUnderlying191,fun w=>by simp[aw_,X_]⟩
theorem gm_:hN_ Tryz.prog 171 [(0,1),(1,1)] [str [],str []]:=⟨_,cR_,Tryz.runUnderlying171,fun w=>by simp[X_]⟩
theorem vs_:hN_ Tryz.prog 111 [(0,1),(1,1),(2,1),(3,1),(4,1),(5,1),(6,1),(7,1),(8,1),(9,1),(10,1)] [.map none,.slice none 0 0,.map none,.nilFunc,.map none,.map none,.map none,.map none,.map none,.map none,.map none]:=⟨_,Tryz.zeroValue111,cZ_,fun w=>by simp[eA_,Tryz.sizeOf104,Tryz.sizeOf105,fr_,Tryz.sizeOf107,Tryz.sizeOf108,Tryz.sizeOf109]⟩
theorem do_ (s:Str):(by_ s).all Value.oneCell'=true:=rfl
theorem mA_ (s:Int):(eS_ s).all Value.oneCell'=true:=rfl
def gF (B:EngB) (E:Emt Tryz.prog 24):Fct:=bJ_ B.g (.cells (B.cells E).toArray 111 (0,0))
def pF (B:EngB) (pm:List (Ky×Pc)) (A:EngA):Fct:=mlF Tryz.prog 191 Ky.val Pc.cells B.pb pm A.p
def aF (B:EngB) (x:Ix) (A:EngA):Fct:=mlF Tryz.prog 9 str by_ B.ab x.above A.a
def uF (B:EngB) (x:Ix) (A:EngA):Fct:=mlF Tryz.prog 9 str by_ B.ub x.under A.u
def oF (B:EngB) (x:Ix) (A:EngA):Fct:=mlF Tryz.prog 171 ip_ by_ B.ob x.frm A.o
def iF (B:EngB) (x:Ix) (A:EngA):Fct:=mlF Tryz.prog 171 ip_ by_ B.ib x.into A.i
def rF (B:EngB) (x:Ix) (A:EngA):Fct:=mlF Tryz.prog 171 ip_ Fc.cells B.rb x.ranges A.r
def sF (B:EngB) (x:Ix) (A:EngA):Fct:=mlF Tryz.prog 171 ip_ Fc.cells B.sb x.firms A.s
end Go.Proofs.YtaffcjgphlhppaaGreatDoor
namespace Go.Proofs.YtaffcjgphlhppaaGreatDoor
open Go Go.Sx Go.Proofs
attribute [local irreducible] Code.wp wpList wpAnyH
open Go.Vs
theorem fx_ {α β:Type} {g:α→β} {l:List α} {i:Nat} {x:α} (h:l[i]? = some x):List.map g (List.take (i+1) l)=List.map g (List.take i l)++[g x]:=by
  rw[List.take_add_one,h,Option.toList_some,List.map_append];rfl
theorem gC_ (a b:Str):Fn0 Tryz.prog 55 #[str a,str b] (Fc.val (W_ a b)):=by
  refine w_ Tryz.func55 rfl rfl Tryz.ntmps55 rfl fun v0=>?_;refine Zz 2 ?_;refine E_ ag_ rfl fun b1=>Zz 6 ?_
  refine d_ (F_ gd_ rfl rfl) rfl (z_ 0 y_ rfl rfl rfl rfl rfl rfl (Zz 3 ?_));exact eQ_ () (fun aa v h1 h2=>cf_ (us:=Fc.cells (W_ a b)) 0 Tryz.results55 aS_ y_ rfl rfl rfl aa v h1 h2) j_ zt
theorem mu_ (a r b:Str):Fn0 Tryz.prog 99 #[str a,str r,str b] (Fc.val (az_ a r b)):=by
  refine w_ Tryz.func99 rfl rfl Tryz.ntmps99 rfl fun v0=>?_;refine Zz 2 ?_;refine E_ ag_ rfl fun b1=>Zz 7 ?_
  refine d_ (F_ gd_ rfl rfl) rfl (z_ 0 y_ rfl rfl rfl rfl rfl rfl (Zz 3 ?_));exact eQ_ () (fun aa v h1 h2=>cf_ (us:=Fc.cells (az_ a r b)) 0 Tryz.results99 aS_ y_ rfl rfl rfl aa v h1 h2) j_ zt
theorem lS_ (a r:Str) (lo hi:Int):Fn0 Tryz.prog 56 #[str a,str r,.int .i64 lo,.int .i64 hi] (Fc.val (M_ a r lo hi)):=by
  refine w_ Tryz.func56 rfl rfl Tryz.ntmps56 rfl fun v0=>?_;refine Zz 2 ?_;refine E_ ag_ rfl fun b1=>Zz 8 ?_
  refine d_ (F_ gd_ rfl rfl) rfl (z_ 0 y_ rfl rfl rfl rfl rfl rfl (Zz 3 ?_));exact eQ_ () (fun aa v h1 h2=>cf_ (us:=Fc.cells (M_ a r lo hi)) 0 Tryz.results56 aS_ y_ rfl rfl rfl aa v h1 h2) j_ zt
theorem sP_ (B:EngB) (E:Emt Tryz.prog 24) (A:EngA) (pm:List (Ky×Pc)) (x:Ix) (f:Fc) (nw fm:List Fc) (Hs:Hp) (hS:E.St nw fm Hs) (hpl:∀ k,(lat pm k).length≤1000000000) (hxl:∀ k,(lat x.above k).length≤1000000000∧(lat x.under k).length≤1000000000) (hyl:∀ k,(lat x.frm k).length≤1000000000∧(lat x.into k).length≤1000000000∧(lat x.ranges k).length≤1000000000∧(lat x.firms k).length≤1000000000):Tri Tryz.prog 100 #[zp_ B.g 0,Fc.val f] Hs [gF B E,pF B pm A,aF B x A,uF B x A,oF B x A,iF B x A,rF B x A,sF B x A,E.ef] (fun _:{H':Hp // E.St (emits E.stp (hK_ pm f) nw) fm H'}=>.tuple #[]) (fun y=>y.1) (fun _=>[]):=by
 refine w_ Tryz.func100 rfl rfl Tryz.ntmps100 rfl fun v0=>?_;refine Zz 2 ?_;refine ah_ rfl rfl fun b1=>Zz 4 ?_
 refine o_ 0 [0,1,2,3,4,5,6,7,8,9] zk zs (Zz 6 ?_);refine B_ rfl (F_ fo_ rfl rfl) rfl (B_ rfl (cu_ (k:=(Ky.mk 1 [] f.b)) (adr:=A.p) is_ bZ_ dm_ rfl rfl zf) rfl (Zz 6 ?_));refine aF_ (ι:={y:Nat×Hp // y.1≤List.length (lat pm (Ky.mk 1 [] f.b))∧E.St (emits E.stp (List.map (fun y=>W_ f.a y.c) (List.take y.1 (lat pm (Ky.mk 1 [] f.b)))) nw) fm y.2}) (fun y=>[(0,zp_ B.g 0),(3,zp_ b1 0),(13,.slice (Prod.fst (A.p (Ky.mk 1 [] f.b))) (List.length (lat pm (Ky.mk 1 [] f.b))) (Prod.snd (A.p (Ky.mk 1 [] f.b)))),(14,.int .i64 (List.length (lat pm (Ky.mk 1 [] f.b)):Int)),(15,.int .i64 (y.1.1:Int))]) (fun y=>((b1,.cells #[.int .i64 f.kind,str f.a,str f.b,str f.r,.int .i64 f.lo,.int .i64 f.hi] 24 (0,0))::y.1.2)) (fun y=>[gF B E,pF B pm A,aF B x A,uF B x A,oF B x A,iF B x A,rF B x A,sF B x A,E.ef]) (fun y=>List.length (lat pm (Ky.mk 1 [] f.b)) - y.1.1) ⟨((0:Nat),Hs),by simp,by exact hS⟩ zl zp zh ?_;rintro ⟨⟨i,Hs_i⟩,hi_i,hS_i⟩;dsimp only at hi_i hS_i ⊢;have hb_i:=hpl (Ky.mk 1 [] f.b);refine Zi 2 (fun hr1=>?_) fun hr1=>?_
 ·refine Zz 6 ?_
  exact ci_ Tryz.results100 ⟨Hs_i,by unfold hK_;rw[List.take_of_length_le (by omega)]at hS_i;exact hS_i⟩ rfl ad_ zt
 obtain⟨hlx1,x1,hx1,hmx1⟩:=zge (show i<List.length (lat pm (Ky.mk 1 [] f.b)) by omega);refine Zz 10 ?_;refine d_ (ab_ P_ U_ rfl rfl (fun v _ h=>O_ (n:=10) Pc.cells_len (by decide) (by exact (bE_ h.2.1 (Ky.mk 1 [] f.b))) hx1) (by omega) (by first|omega|(simp;done))) rfl ?_;refine d_ (as_ (ad:=(Prod.fst (A.p (Ky.mk 1 [] f.b)))) (us:=Pc.cells x1) cx_ U_ rfl (fun v _ h=>by exact (bE_ h.2.1 (Ky.mk 1 [] f.b))) (Pc.cells_len _) (K_ Pc.cells_len hx1)) rfl (E_ am_ rfl fun b2=>z_ 0 U_ rfl rfl rfl rfl rfl rfl (Zz 2 ?_));refine ap_ ((b2,.cells #[.int .i64 x1.kind,str x1.a,str x1.b,str x1.c,str x1.r,str x1.s,str x1.t,.int .i64 x1.lo,.int .i64 x1.hi,.int .i64 x1.frm] 73 (0,0))::((b1,.cells #[.int .i64 f.kind,str f.a,str f.b,str f.r,.int .i64 f.lo,.int .i64 f.hi] 24 (0,0))::[])) zk ?_;refine o_ 2 [0,1,2,3,4,5,6,7] zk zs (Zz 9 ?_);refine i_ 8 rfl zk (n_ (gC_ f.a x1.c) rfl j_ zt rfl fun _=>Zz 3 ?_);refine i_ 9 rfl zk (aq_ (first:=[]) (cap:=E.caps) (E.emit (W_ f.a x1.c) (emits E.stp (List.map (fun y=>W_ f.a y.c) (List.take i (lat pm (Ky.mk 1 [] f.b)))) nw) fm Hs_i hS_i) rfl rfl (c_ ad_) zf rfl fun⟨Hs1,hS1⟩=>?_);dsimp only;refine Zz 10 ?_;exact aa_ ⟨(i+1,Hs1),hlx1,(by rw[fx_ hx1,aN_];exact hS1)⟩ (by dsimp only;omega) zl zp zh
theorem some_c (B:EngB) (E:Emt Tryz.prog 24) (A:EngA) (pm:List (Ky×Pc)) (x:Ix) (f:Fc) (nw fm:List Fc) (Hs:Hp) (hS:E.St nw fm Hs) (hpl:∀ k,(lat pm k).length≤1000000000) (hxl:∀ k,(lat x.above k).length≤1000000000∧(lat x.under k).length≤1000000000) (hyl:∀ k,(lat x.frm k).length≤1000000000∧(lat x.into k).length≤1000000000∧(lat x.ranges k).length≤1000000000∧(lat x.firms k).length≤1000000000):Tri Tryz.prog 102 #[zp_ B.g 0,Fc.val f] Hs [gF B E,pF B pm A,aF B x A,uF B x A,oF B x A,iF B x A,rF B x A,sF B x A,E.ef] (fun _:{H':Hp // E.St (emits E.stp (nr_ pm f) nw) fm H'}=>.tuple #[]) (fun y=>y.1) (fun _=>[]):=by
 refine w_ Tryz.func102 rfl rfl Tryz.ntmps102 rfl fun v0=>?_;refine Zz 2 ?_;refine ah_ rfl rfl fun b1=>Zz 4 ?_
 refine o_ 0 [0,1,2,3,4,5,6,7,8,9] zk zs (Zz 6 ?_);refine B_ rfl (F_ fo_ rfl rfl) rfl (B_ rfl (cu_ (k:=(Ky.mk 3 [] f.b)) (adr:=A.p) is_ bZ_ dm_ rfl rfl zf) rfl (Zz 6 ?_));refine aF_ (ι:={y:Nat×Hp // y.1≤List.length (lat pm (Ky.mk 3 [] f.b))∧E.St (emits E.stp (List.map (fun y=>az_ f.a y.r y.c) (List.take y.1 (lat pm (Ky.mk 3 [] f.b)))) nw) fm y.2}) (fun y=>[(0,zp_ B.g 0),(3,zp_ b1 0),(13,.slice (Prod.fst (A.p (Ky.mk 3 [] f.b))) (List.length (lat pm (Ky.mk 3 [] f.b))) (Prod.snd (A.p (Ky.mk 3 [] f.b)))),(14,.int .i64 (List.length (lat pm (Ky.mk 3 [] f.b)):Int)),(15,.int .i64 (y.1.1:Int))]) (fun y=>((b1,.cells #[.int .i64 f.kind,str f.a,str f.b,str f.r,.int .i64 f.lo,.int .i64 f.hi] 24 (0,0))::y.1.2)) (fun y=>[gF B E,pF B pm A,aF B x A,uF B x A,oF B x A,iF B x A,rF B x A,sF B x A,E.ef]) (fun y=>List.length (lat pm (Ky.mk 3 [] f.b)) - y.1.1) ⟨((0:Nat),Hs),by simp,by exact hS⟩ zl zp zh ?_;rintro ⟨⟨i,Hs_i⟩,hi_i,hS_i⟩;dsimp only at hi_i hS_i ⊢;have hb_i:=hpl (Ky.mk 3 [] f.b);refine Zi 2 (fun hr1=>?_) fun hr1=>?_
 ·refine Zz 6 ?_
  exact ci_ Tryz.results102 ⟨Hs_i,by unfold nr_;rw[List.take_of_length_le (by omega)]at hS_i;exact hS_i⟩ rfl ad_ zt
 obtain⟨hlx1,x1,hx1,hmx1⟩:=zge (show i<List.length (lat pm (Ky.mk 3 [] f.b)) by omega);refine Zz 10 ?_;refine d_ (ab_ P_ U_ rfl rfl (fun v _ h=>O_ (n:=10) Pc.cells_len (by decide) (by exact (bE_ h.2.1 (Ky.mk 3 [] f.b))) hx1) (by omega) (by first|omega|(simp;done))) rfl ?_;refine d_ (as_ (ad:=(Prod.fst (A.p (Ky.mk 3 [] f.b)))) (us:=Pc.cells x1) cx_ U_ rfl (fun v _ h=>by exact (bE_ h.2.1 (Ky.mk 3 [] f.b))) (Pc.cells_len _) (K_ Pc.cells_len hx1)) rfl (E_ am_ rfl fun b2=>z_ 0 U_ rfl rfl rfl rfl rfl rfl (Zz 2 ?_));refine ap_ ((b2,.cells #[.int .i64 x1.kind,str x1.a,str x1.b,str x1.c,str x1.r,str x1.s,str x1.t,.int .i64 x1.lo,.int .i64 x1.hi,.int .i64 x1.frm] 73 (0,0))::((b1,.cells #[.int .i64 f.kind,str f.a,str f.b,str f.r,.int .i64 f.lo,.int .i64 f.hi] 24 (0,0))::[])) zk ?_;refine o_ 2 [0,1,2,3,4,5,6,7,8,9] zk zs (Zz 11 ?_);refine i_ 10 rfl zk (n_ (mu_ f.a x1.r x1.c) rfl j_ zt rfl fun _=>Zz 3 ?_);refine i_ 11 rfl zk (aq_ (first:=[]) (cap:=E.caps) (E.emit (az_ f.a x1.r x1.c) (emits E.stp (List.map (fun y=>az_ f.a y.r y.c) (List.take i (lat pm (Ky.mk 3 [] f.b)))) nw) fm Hs_i hS_i) rfl rfl (c_ ad_) zf rfl fun⟨Hs1,hS1⟩=>?_);dsimp only;refine Zz 10 ?_;exact aa_ ⟨(i+1,Hs1),hlx1,(by rw[fx_ hx1,aN_];exact hS1)⟩ (by dsimp only;omega) zl zp zh
theorem sJ_ (B:EngB) (E:Emt Tryz.prog 24) (A:EngA) (pm:List (Ky×Pc)) (x:Ix) (f:Fc) (nw fm:List Fc) (Hs:Hp) (hS:E.St nw fm Hs) (hpl:∀ k,(lat pm k).length≤1000000000) (hxl:∀ k,(lat x.above k).length≤1000000000∧(lat x.under k).length≤1000000000) (hyl:∀ k,(lat x.frm k).length≤1000000000∧(lat x.into k).length≤1000000000∧(lat x.ranges k).length≤1000000000∧(lat x.firms k).length≤1000000000):Tri Tryz.prog 106 #[zp_ B.g 0,Fc.val f] Hs [gF B E,pF B pm A,aF B x A,uF B x A,oF B x A,iF B x A,rF B x A,sF B x A,E.ef] (fun _:{H':Hp // E.St (emits E.stp (hG_ pm f) nw) fm H'}=>.tuple #[]) (fun y=>y.1) (fun _=>[]):=by
 refine w_ Tryz.func106 rfl rfl Tryz.ntmps106 rfl fun v0=>?_;refine Zz 2 ?_;refine ah_ rfl rfl fun b1=>Zz 4 ?_
 refine o_ 0 [0,1,2,3,4,5,6,7,8,9] zk zs (Zz 6 ?_);refine B_ rfl (F_ fo_ rfl rfl) rfl (B_ rfl (cu_ (k:=(Ky.mk 5 f.r [])) (adr:=A.p) is_ bZ_ dm_ rfl rfl zf) rfl (Zz 6 ?_));refine aF_ (ι:={y:Nat×Hp // y.1≤List.length (lat pm (Ky.mk 5 f.r []))∧E.St (emits E.stp (List.map (fun y=>az_ f.a y.t f.b) (List.take y.1 (lat pm (Ky.mk 5 f.r [])))) nw) fm y.2}) (fun y=>[(0,zp_ B.g 0),(3,zp_ b1 0),(13,.slice (Prod.fst (A.p (Ky.mk 5 f.r []))) (List.length (lat pm (Ky.mk 5 f.r []))) (Prod.snd (A.p (Ky.mk 5 f.r [])))),(14,.int .i64 (List.length (lat pm (Ky.mk 5 f.r [])):Int)),(15,.int .i64 (y.1.1:Int))]) (fun y=>((b1,.cells #[.int .i64 f.kind,str f.a,str f.b,str f.r,.int .i64 f.lo,.int .i64 f.hi] 24 (0,0))::y.1.2)) (fun y=>[gF B E,pF B pm A,aF B x A,uF B x A,oF B x A,iF B x A,rF B x A,sF B x A,E.ef]) (fun y=>List.length (lat pm (Ky.mk 5 f.r [])) - y.1.1) ⟨((0:Nat),Hs),by simp,by exact hS⟩ zl zp zh ?_;rintro ⟨⟨i,Hs_i⟩,hi_i,hS_i⟩;dsimp only at hi_i hS_i ⊢;have hb_i:=hpl (Ky.mk 5 f.r []);refine Zi 2 (fun hr1=>?_) fun hr1=>?_
 ·refine Zz 6 ?_
  exact ci_ Tryz.results106 ⟨Hs_i,by unfold hG_;rw[List.take_of_length_le (by omega)]at hS_i;exact hS_i⟩ rfl ad_ zt
 obtain⟨hlx1,x1,hx1,hmx1⟩:=zge (show i<List.length (lat pm (Ky.mk 5 f.r [])) by omega);refine Zz 10 ?_;refine d_ (ab_ P_ U_ rfl rfl (fun v _ h=>O_ (n:=10) Pc.cells_len (by decide) (by exact (bE_ h.2.1 (Ky.mk 5 f.r []))) hx1) (by omega) (by first|omega|(simp;done))) rfl ?_;refine d_ (as_ (ad:=(Prod.fst (A.p (Ky.mk 5 f.r [])))) (us:=Pc.cells x1) cx_ U_ rfl (fun v _ h=>by exact (bE_ h.2.1 (Ky.mk 5 f.r []))) (Pc.cells_len _) (K_ Pc.cells_len hx1)) rfl (E_ am_ rfl fun b2=>z_ 0 U_ rfl rfl rfl rfl rfl rfl (Zz 2 ?_));refine ap_ ((b2,.cells #[.int .i64 x1.kind,str x1.a,str x1.b,str x1.c,str x1.r,str x1.s,str x1.t,.int .i64 x1.lo,.int .i64 x1.hi,.int .i64 x1.frm] 73 (0,0))::((b1,.cells #[.int .i64 f.kind,str f.a,str f.b,str f.r,.int .i64 f.lo,.int .i64 f.hi] 24 (0,0))::[])) zk ?_;refine o_ 2 [0,1,2,3,4,5,6,7,8,9] zk zs (Zz 11 ?_);refine i_ 10 rfl zk (n_ (mu_ f.a x1.t f.b) rfl j_ zt rfl fun _=>Zz 3 ?_);refine i_ 11 rfl zk (aq_ (first:=[]) (cap:=E.caps) (E.emit (az_ f.a x1.t f.b) (emits E.stp (List.map (fun y=>az_ f.a y.t f.b) (List.take i (lat pm (Ky.mk 5 f.r [])))) nw) fm Hs_i hS_i) rfl rfl (c_ ad_) zf rfl fun⟨Hs1,hS1⟩=>?_);dsimp only;refine Zz 10 ?_;exact aa_ ⟨(i+1,Hs1),hlx1,(by rw[fx_ hx1,aN_];exact hS1)⟩ (by dsimp only;omega) zl zp zh
theorem hH_ {α β:Type} {g:α→List β} {l:List α} {i:Nat} {x:α} (h:l[i]? = some x):List.flatMap g (List.take (i+1) l)=List.flatMap g (List.take i l)++g x:=by
  rw[List.take_add_one,h,Option.toList_some,List.flatMap_append];simp
theorem kV_ {stp:Fc→List Fc→List Fc} {kof:List Fc→List Fc} {f:Fc} {l:List Pc} {i:Nat} {x:Pc} {s:List Fc} (h:l[i]? = some x):eZ_ stp kof f (List.take (i+1) l) s=if W_ f.a x.a∈kof (eZ_ stp kof f (List.take i l) s)∧W_ f.a x.b∈kof (eZ_ stp kof f (List.take i l) s) then stp (W_ f.a x.c) (eZ_ stp kof f (List.take i l) s) else eZ_ stp kof f (List.take i l) s:=by
  unfold eZ_;rw[List.take_add_one,h,Option.toList_some,List.foldl_append];rfl
theorem lI_ {stp:Fc→List Fc→List Fc} {kof:List Fc→List Fc} {f:Fc} {l:List Pc} {i:Nat} {x:Pc} {s:List Fc×List Fc} (h:l[i]? = some x):cB_ stp kof f (List.take (i+1) l) s=(stp (M_ f.a x.r x.lo x.hi) (cB_ stp kof f (List.take i l) s).1,if M_ f.a x.r x.lo x.hi∈kof (cB_ stp kof f (List.take i l) s).1 then (cB_ stp kof f (List.take i l) s).2 else M_ f.a x.r x.lo x.hi::(cB_ stp kof f (List.take i l) s).2):=by
  unfold cB_;rw[List.take_add_one,h,Option.toList_some,List.foldl_append];rfl
theorem both_c (B:EngB) (E:Emt Tryz.prog 24) (A:EngA) (pm:List (Ky×Pc)) (x:Ix) (f:Fc) (nw fm:List Fc) (Hs:Hp) (hS:E.St nw fm Hs) (hpl:∀ k,(lat pm k).length≤1000000000) (hxl:∀ k,(lat x.above k).length≤1000000000∧(lat x.under k).length≤1000000000) (hyl:∀ k,(lat x.frm k).length≤1000000000∧(lat x.into k).length≤1000000000∧(lat x.ranges k).length≤1000000000∧(lat x.firms k).length≤1000000000):Tri Tryz.prog 101 #[zp_ B.g 0,Fc.val f] Hs [gF B E,pF B pm A,aF B x A,uF B x A,oF B x A,iF B x A,rF B x A,sF B x A,E.ef] (fun _:{H':Hp // E.St (eZ_ E.stp E.kof f (lat pm (Ky.mk 2 [] f.b)) nw) fm H'}=>.tuple #[]) (fun y=>y.1) (fun _=>[]):=by
 refine w_ Tryz.func101 rfl rfl Tryz.ntmps101 rfl fun v0=>?_;refine Zz 2 ?_;refine ah_ rfl rfl fun b1=>Zz 4 ?_
 refine o_ 0 [0,1,2,3,4,5,6,7,8,9] zk zs (Zz 6 ?_);refine B_ rfl (F_ fo_ rfl rfl) rfl (B_ rfl (cu_ (k:=(Ky.mk 2 [] f.b)) (adr:=A.p) is_ bZ_ dm_ rfl rfl zf) rfl (Zz 6 ?_));refine aF_ (ι:={y:Nat×Hp // y.1≤List.length (lat pm (Ky.mk 2 [] f.b))∧E.St (eZ_ E.stp E.kof f (List.take y.1 (lat pm (Ky.mk 2 [] f.b))) nw) fm y.2}) (fun y=>[(0,zp_ B.g 0),(3,zp_ b1 0),(13,.slice (Prod.fst (A.p (Ky.mk 2 [] f.b))) (List.length (lat pm (Ky.mk 2 [] f.b))) (Prod.snd (A.p (Ky.mk 2 [] f.b)))),(14,.int .i64 (List.length (lat pm (Ky.mk 2 [] f.b)):Int)),(15,.int .i64 (y.1.1:Int))]) (fun y=>((b1,.cells #[.int .i64 f.kind,str f.a,str f.b,str f.r,.int .i64 f.lo,.int .i64 f.hi] 24 (0,0))::y.1.2)) (fun y=>[gF B E,pF B pm A,aF B x A,uF B x A,oF B x A,iF B x A,rF B x A,sF B x A,E.ef]) (fun y=>List.length (lat pm (Ky.mk 2 [] f.b)) - y.1.1) ⟨((0:Nat),Hs),by simp,by exact hS⟩ zl zp zh ?_;rintro ⟨⟨i,Hs_i⟩,hi_i,hS_i⟩;dsimp only at hi_i hS_i ⊢;have hb_i:=hpl (Ky.mk 2 [] f.b);refine Zi 2 (fun hr1=>?_) fun hr1=>?_
 ·refine Zz 6 ?_
  exact ci_ Tryz.results101 ⟨Hs_i,by rw[List.take_of_length_le (by omega)]at hS_i;exact hS_i⟩ rfl ad_ zt
 obtain⟨hlx1,x1,hx1,hmx1⟩:=zge (show i<List.length (lat pm (Ky.mk 2 [] f.b)) by omega);refine Zz 10 ?_;refine d_ (ab_ P_ U_ rfl rfl (fun v _ h=>O_ (n:=10) Pc.cells_len (by decide) (by exact (bE_ h.2.1 (Ky.mk 2 [] f.b))) hx1) (by omega) (by first|omega|(simp;done))) rfl ?_;refine d_ (as_ (ad:=(Prod.fst (A.p (Ky.mk 2 [] f.b)))) (us:=Pc.cells x1) cx_ U_ rfl (fun v _ h=>by exact (bE_ h.2.1 (Ky.mk 2 [] f.b))) (Pc.cells_len _) (K_ Pc.cells_len hx1)) rfl (E_ am_ rfl fun b2=>z_ 0 U_ rfl rfl rfl rfl rfl rfl (Zz 4 ?_));refine o_ 14 [0,1,2,3,4,5,6,7] zk zs (Zz 9 ?_);refine i_ 8 rfl zk (n_ (gC_ f.a x1.a) rfl j_ zt rfl fun _=>Zz 3 ?_);refine o_ 11 [9,10] zk zs (cC_ rfl (iT_ (f:=(W_ f.a x1.a)) hS_i kk_ aZ_ cG_ rfl rfl (c_ ad_)) rfl fun r2 hr2=>Zz 2 ?_);cases r2
 ·replace hr2:=zdf hr2
  refine o_ 0 [11,12,13,14,15,16,17,18,19,20,21] zk zs (Zz 22 ?_);exact aa_ ⟨(i+1,Hs_i),hlx1,(by rw[kV_ hx1];first|(rw[if_pos ⟨by assumption,by assumption⟩];exact hS_i)|(rw[if_neg (fun q=>absurd q.1 (by assumption))];exact hS_i)|(rw[if_neg (fun q=>absurd q.2 (by assumption))];exact hS_i))⟩ (by dsimp only;omega) zl (t_ (c_ e_) ad_) zh
 replace hr2:=zdt hr2;refine o_ 3 [11,12,13,14,15,16,17,18] zk zs (Zz 9 ?_);refine i_ 19 rfl zk (Y_ rfl rfl (n_ (gC_ f.a x1.b) rfl j_ zt rfl fun _=>Zz 3 ?_));refine o_ 0 [20,21] zk zs (aI_ rfl rfl rfl (iT_ (f:=(W_ f.a x1.b)) hS_i kk_ aZ_ cG_ rfl rfl (c_ ad_)) rfl fun r3 hr3=>Zz 4 ?_);cases r3
 ·replace hr3:=zdf hr3
  refine Zz 8 ?_;exact aa_ ⟨(i+1,Hs_i),hlx1,(by rw[kV_ hx1];first|(rw[if_pos ⟨by assumption,by assumption⟩];exact hS_i)|(rw[if_neg (fun q=>absurd q.1 (by assumption))];exact hS_i)|(rw[if_neg (fun q=>absurd q.2 (by assumption))];exact hS_i))⟩ (by dsimp only;omega) zl (t_ (c_ e_) ad_) zh
 replace hr3:=zdt hr3;refine C_ rfl ?_;refine ap_ ((b2,.cells #[.int .i64 x1.kind,str x1.a,str x1.b,str x1.c,str x1.r,str x1.s,str x1.t,.int .i64 x1.lo,.int .i64 x1.hi,.int .i64 x1.frm] 73 (0,0))::((b1,.cells #[.int .i64 f.kind,str f.a,str f.b,str f.r,.int .i64 f.lo,.int .i64 f.hi] 24 (0,0))::[])) zk ?_;refine o_ 2 [0,1,2,3,4,5,6,7] zk zs (Zz 9 ?_);refine i_ 8 rfl zk (n_ (gC_ f.a x1.c) rfl j_ zt rfl fun _=>Zz 3 ?_);refine i_ 9 rfl zk (aq_ (first:=[]) (cap:=E.caps) (E.emit (W_ f.a x1.c) (eZ_ E.stp E.kof f (List.take i (lat pm (Ky.mk 2 [] f.b))) nw) fm Hs_i hS_i) rfl rfl (c_ ad_) zf rfl fun⟨Hs1,hS1⟩=>?_);dsimp only;refine Zz 10 ?_;exact aa_ ⟨(i+1,Hs1),hlx1,(by rw[kV_ hx1];first|(rw[if_pos ⟨by assumption,by assumption⟩];exact hS1)|(rw[if_neg (fun q=>absurd q.1 (by assumption))];exact hS1)|(rw[if_neg (fun q=>absurd q.2 (by assumption))];exact hS1))⟩ (by dsimp only;omega) zl zp zh
theorem vl_ (B:EngB) (E:Emt Tryz.prog 24) (A:EngA) (pm:List (Ky×Pc)) (x:Ix) (f:Fc) (nw fm:List Fc) (Hs:Hp) (hS:E.St nw fm Hs) (hpl:∀ k,(lat pm k).length≤1000000000) (hxl:∀ k,(lat x.above k).length≤1000000000∧(lat x.under k).length≤1000000000) (hyl:∀ k,(lat x.frm k).length≤1000000000∧(lat x.into k).length≤1000000000∧(lat x.ranges k).length≤1000000000∧(lat x.firms k).length≤1000000000):Tri Tryz.prog 105 #[zp_ B.g 0,Fc.val f] Hs [gF B E,pF B pm A,aF B x A,uF B x A,oF B x A,iF B x A,rF B x A,sF B x A,E.ef] (fun _:{H':Hp // E.St (Prod.fst (cB_ E.stp E.kof f (lat pm (Ky.mk 8 [] f.b)) (nw,fm))) (Prod.snd (cB_ E.stp E.kof f (lat pm (Ky.mk 8 [] f.b)) (nw,fm))) H'}=>.tuple #[]) (fun y=>y.1) (fun _=>[]):=by
 refine w_ Tryz.func105 rfl rfl Tryz.ntmps105 rfl fun v0=>?_;refine Zz 2 ?_;refine ah_ rfl rfl fun b1=>Zz 4 ?_
 refine o_ 0 [0,1,2,3,4,5,6,7,8,9] zk zs (Zz 6 ?_);refine B_ rfl (F_ fo_ rfl rfl) rfl (B_ rfl (cu_ (k:=(Ky.mk 8 [] f.b)) (adr:=A.p) is_ bZ_ dm_ rfl rfl zf) rfl (Zz 6 ?_));refine aF_ (ι:={y:Nat×Hp // y.1≤List.length (lat pm (Ky.mk 8 [] f.b))∧E.St (Prod.fst (cB_ E.stp E.kof f (List.take y.1 (lat pm (Ky.mk 8 [] f.b))) (nw,fm))) (Prod.snd (cB_ E.stp E.kof f (List.take y.1 (lat pm (Ky.mk 8 [] f.b))) (nw,fm))) y.2}) (fun y=>[(0,zp_ B.g 0),(3,zp_ b1 0),(14,.slice (Prod.fst (A.p (Ky.mk 8 [] f.b))) (List.length (lat pm (Ky.mk 8 [] f.b))) (Prod.snd (A.p (Ky.mk 8 [] f.b)))),(15,.int .i64 (List.length (lat pm (Ky.mk 8 [] f.b)):Int)),(16,.int .i64 (y.1.1:Int))]) (fun y=>((b1,.cells #[.int .i64 f.kind,str f.a,str f.b,str f.r,.int .i64 f.lo,.int .i64 f.hi] 24 (0,0))::y.1.2)) (fun y=>[gF B E,pF B pm A,aF B x A,uF B x A,oF B x A,iF B x A,rF B x A,sF B x A,E.ef]) (fun y=>List.length (lat pm (Ky.mk 8 [] f.b)) - y.1.1) ⟨((0:Nat),Hs),by simp,by exact hS⟩ zl zp zh ?_;rintro ⟨⟨i,Hs_i⟩,hi_i,hS_i⟩;dsimp only at hi_i hS_i ⊢;have hb_i:=hpl (Ky.mk 8 [] f.b);refine Zi 2 (fun hr1=>?_) fun hr1=>?_
 ·refine Zz 6 ?_
  exact ci_ Tryz.results105 ⟨Hs_i,by rw[List.take_of_length_le (by omega)]at hS_i;exact hS_i⟩ rfl ad_ zt
 obtain⟨hlx1,x1,hx1,hmx1⟩:=zge (show i<List.length (lat pm (Ky.mk 8 [] f.b)) by omega);refine Zz 10 ?_;refine d_ (ab_ P_ U_ rfl rfl (fun v _ h=>O_ (n:=10) Pc.cells_len (by decide) (by exact (bE_ h.2.1 (Ky.mk 8 [] f.b))) hx1) (by omega) (by first|omega|(simp;done))) rfl ?_;refine d_ (as_ (ad:=(Prod.fst (A.p (Ky.mk 8 [] f.b)))) (us:=Pc.cells x1) cx_ U_ rfl (fun v _ h=>by exact (bE_ h.2.1 (Ky.mk 8 [] f.b))) (Pc.cells_len _) (K_ Pc.cells_len hx1)) rfl (E_ am_ rfl fun b2=>z_ 0 U_ rfl rfl rfl rfl rfl rfl (Zz 12 ?_));refine n_ (lS_ f.a x1.r x1.lo x1.hi) rfl j_ zt rfl fun _=>E_ ag_ rfl fun b3=>z_ 0 y_ rfl rfl rfl rfl rfl rfl (Zz 5 ?_)
 refine o_ 0 [0,1,2,3,4,5,6] zk zs (Zz 5 ?_);refine cC_ rfl (iT_ (f:=(M_ f.a x1.r x1.lo x1.hi)) hS_i kk_ aZ_ cG_ rfl rfl (c_ (c_ ad_))) rfl fun r2 hr2=>B_ rfl (bn_ rfl) rfl (Zz 3 ?_)
 cases r2
 ·replace hr2:=zdf hr2
  refine C_ rfl ?_;refine ap_ ((b3,.cells #[.int .i64 (Fc.kind (M_ f.a x1.r x1.lo x1.hi)),str (Fc.a (M_ f.a x1.r x1.lo x1.hi)),str (Fc.b (M_ f.a x1.r x1.lo x1.hi)),str (Fc.r (M_ f.a x1.r x1.lo x1.hi)),.int .i64 (Fc.lo (M_ f.a x1.r x1.lo x1.hi)),.int .i64 (Fc.hi (M_ f.a x1.r x1.lo x1.hi))] 24 (0,0))::((b2,.cells #[.int .i64 x1.kind,str x1.a,str x1.b,str x1.c,str x1.r,str x1.s,str x1.t,.int .i64 x1.lo,.int .i64 x1.hi,.int .i64 x1.frm] 73 (0,0))::((b1,.cells #[.int .i64 f.kind,str f.a,str f.b,str f.r,.int .i64 f.lo,.int .i64 f.hi] 24 (0,0))::[]))) zk ?_;refine o_ 1 [0,1,2,3,4] zk zs (Zz 6 ?_);refine i_ 5 rfl zk (ua_ (f:=(M_ f.a x1.r x1.lo x1.hi)) hS_i kk_ (.inr rfl) aZ_ rfl rfl rfl (c_ (c_ ad_)) fun Hs1 hS1=>Zz 5 ?_);refine ap_ ((b3,.cells #[.int .i64 (Fc.kind (M_ f.a x1.r x1.lo x1.hi)),str (Fc.a (M_ f.a x1.r x1.lo x1.hi)),str (Fc.b (M_ f.a x1.r x1.lo x1.hi)),str (Fc.r (M_ f.a x1.r x1.lo x1.hi)),.int .i64 (Fc.lo (M_ f.a x1.r x1.lo x1.hi)),.int .i64 (Fc.hi (M_ f.a x1.r x1.lo x1.hi))] 24 (0,0))::((b2,.cells #[.int .i64 x1.kind,str x1.a,str x1.b,str x1.c,str x1.r,str x1.s,str x1.t,.int .i64 x1.lo,.int .i64 x1.hi,.int .i64 x1.frm] 73 (0,0))::((b1,.cells #[.int .i64 f.kind,str f.a,str f.b,str f.r,.int .i64 f.lo,.int .i64 f.hi] 24 (0,0))::[]))) zk ?_;refine o_ 1 [0,1,2,3,4] zk zs (Zz 6 ?_);refine i_ 5 rfl zk (aq_ (first:=[]) (cap:=E.caps) (E.emit (M_ f.a x1.r x1.lo x1.hi) (Prod.fst (cB_ E.stp E.kof f (List.take i (lat pm (Ky.mk 8 [] f.b))) (nw,fm))) ((M_ f.a x1.r x1.lo x1.hi)::(Prod.snd (cB_ E.stp E.kof f (List.take i (lat pm (Ky.mk 8 [] f.b))) (nw,fm)))) Hs1 hS1) rfl rfl A_ zf rfl fun⟨Hs2,hS2⟩=>?_);dsimp only;refine Zz 10 ?_;exact aa_ ⟨(i+1,Hs2),hlx1,(by rw[lI_ hx1];dsimp only;first|(rw[if_pos (by assumption)];exact hS2)|(rw[if_neg (by assumption)];exact hS2))⟩ (by dsimp only;omega) zl zp zh
 replace hr2:=zdt hr2;refine Zz 3 ?_;refine ap_ ((b3,.cells #[.int .i64 (Fc.kind (M_ f.a x1.r x1.lo x1.hi)),str (Fc.a (M_ f.a x1.r x1.lo x1.hi)),str (Fc.b (M_ f.a x1.r x1.lo x1.hi)),str (Fc.r (M_ f.a x1.r x1.lo x1.hi)),.int .i64 (Fc.lo (M_ f.a x1.r x1.lo x1.hi)),.int .i64 (Fc.hi (M_ f.a x1.r x1.lo x1.hi))] 24 (0,0))::((b2,.cells #[.int .i64 x1.kind,str x1.a,str x1.b,str x1.c,str x1.r,str x1.s,str x1.t,.int .i64 x1.lo,.int .i64 x1.hi,.int .i64 x1.frm] 73 (0,0))::((b1,.cells #[.int .i64 f.kind,str f.a,str f.b,str f.r,.int .i64 f.lo,.int .i64 f.hi] 24 (0,0))::[]))) zk ?_;refine o_ 1 [0,1,2,3,4] zk zs (Zz 6 ?_);refine i_ 5 rfl zk (aq_ (first:=[]) (cap:=E.caps) (E.emit (M_ f.a x1.r x1.lo x1.hi) (Prod.fst (cB_ E.stp E.kof f (List.take i (lat pm (Ky.mk 8 [] f.b))) (nw,fm))) (Prod.snd (cB_ E.stp E.kof f (List.take i (lat pm (Ky.mk 8 [] f.b))) (nw,fm))) Hs_i hS_i) rfl rfl (c_ (c_ ad_)) zf rfl fun⟨Hs3,hS3⟩=>?_);dsimp only;refine Zz 10 ?_;exact aa_ ⟨(i+1,Hs3),hlx1,(by rw[lI_ hx1];dsimp only;first|(rw[if_pos (by assumption)];exact hS3)|(rw[if_neg (by assumption)];exact hS3))⟩ (by dsimp only;omega) zl zp zh
theorem qY_ (B:EngB) (E:Emt Tryz.prog 24) (A:EngA) (pm:List (Ky×Pc)) (x:Ix) (f:Fc) (nw fm:List Fc) (Hs:Hp) (hS:E.St nw fm Hs) (hpl:∀ k,(lat pm k).length≤1000000000) (hxl:∀ k,(lat x.above k).length≤1000000000∧(lat x.under k).length≤1000000000) (hyl:∀ k,(lat x.frm k).length≤1000000000∧(lat x.into k).length≤1000000000∧(lat x.ranges k).length≤1000000000∧(lat x.firms k).length≤1000000000):Tri Tryz.prog 103 #[zp_ B.g 0,Fc.val f] Hs [gF B E,pF B pm A,aF B x A,uF B x A,oF B x A,iF B x A,rF B x A,sF B x A,E.ef] (fun _:{H':Hp // E.St (emits E.stp (gy_ pm x f) nw) fm H'}=>.tuple #[]) (fun y=>y.1) (fun _=>[]):=by
 refine w_ Tryz.func103 rfl rfl Tryz.ntmps103 rfl fun v0=>?_;refine Zz 2 ?_;refine ah_ rfl rfl fun b1=>Zz 4 ?_
 refine o_ 0 [0,1,2,3,4,5,6,7,8,9] zk zs (Zz 6 ?_);refine B_ rfl (F_ fo_ rfl rfl) rfl (B_ rfl (cu_ (k:=(Ky.mk 4 [] f.b)) (adr:=A.p) is_ bZ_ dm_ rfl rfl zf) rfl (Zz 6 ?_));refine aF_ (ι:={y:Nat×Hp // y.1≤List.length (lat pm (Ky.mk 4 [] f.b))∧E.St (emits E.stp (List.flatMap (fun y=>List.map (fun a=>W_ a y.c) (lat x.into (Fc.a f,Pc.r y))) (List.take y.1 (lat pm (Ky.mk 4 [] f.b)))) nw) fm y.2}) (fun y=>[(0,zp_ B.g 0),(3,zp_ b1 0),(15,.slice (Prod.fst (A.p (Ky.mk 4 [] f.b))) (List.length (lat pm (Ky.mk 4 [] f.b))) (Prod.snd (A.p (Ky.mk 4 [] f.b)))),(16,.int .i64 (List.length (lat pm (Ky.mk 4 [] f.b)):Int)),(17,.int .i64 (y.1.1:Int))]) (fun y=>((b1,.cells #[.int .i64 f.kind,str f.a,str f.b,str f.r,.int .i64 f.lo,.int .i64 f.hi] 24 (0,0))::y.1.2)) (fun y=>[gF B E,pF B pm A,aF B x A,uF B x A,oF B x A,iF B x A,rF B x A,sF B x A,E.ef]) (fun y=>List.length (lat pm (Ky.mk 4 [] f.b)) - y.1.1) ⟨((0:Nat),Hs),by simp,by exact hS⟩ zl zp zh ?_;rintro ⟨⟨i,Hs_i⟩,hi_i,hS_i⟩;dsimp only at hi_i hS_i ⊢;have hb_i:=hpl (Ky.mk 4 [] f.b);refine Zi 2 (fun hr1=>?_) fun hr1=>?_
 ·refine Zz 6 ?_
  exact ci_ Tryz.results103 ⟨Hs_i,by unfold gy_;rw[List.take_of_length_le (by omega)]at hS_i;exact hS_i⟩ rfl ad_ zt
 obtain⟨hlx1,x1,hx1,hmx1⟩:=zge (show i<List.length (lat pm (Ky.mk 4 [] f.b)) by omega);refine Zz 10 ?_;refine d_ (ab_ P_ U_ rfl rfl (fun v _ h=>O_ (n:=10) Pc.cells_len (by decide) (by exact (bE_ h.2.1 (Ky.mk 4 [] f.b))) hx1) (by omega) (by first|omega|(simp;done))) rfl ?_;refine d_ (as_ (ad:=(Prod.fst (A.p (Ky.mk 4 [] f.b)))) (us:=Pc.cells x1) cx_ U_ rfl (fun v _ h=>by exact (bE_ h.2.1 (Ky.mk 4 [] f.b))) (Pc.cells_len _) (K_ Pc.cells_len hx1)) rfl (E_ am_ rfl fun b2=>z_ 0 U_ rfl rfl rfl rfl rfl rfl (Zz 4 ?_));refine o_ 0 [0,1,2,3,4,5,6,7,8,9,10,11] zk zs (Zz 8 ?_);refine B_ rfl (F_ gm_ rfl rfl) rfl (B_ rfl (cu_ (k:=(f.a,x1.r)) (adr:=A.i) dt_ bY_ bA_ rfl rfl zf) rfl (Zz 6 ?_));refine aF_ (ι:={y:Nat×Hp // y.1≤List.length (lat x.into (f.a,x1.r))∧E.St (emits E.stp (List.map (fun a=>W_ a x1.c) (List.take y.1 (lat x.into (f.a,x1.r)))) (emits E.stp (List.flatMap (fun y=>List.map (fun a=>W_ a y.c) (lat x.into (Fc.a f,Pc.r y))) (List.take i (lat pm (Ky.mk 4 [] f.b)))) nw)) fm y.2}) (fun y=>[(0,zp_ B.g 0),(3,zp_ b1 0),(15,.slice (Prod.fst (A.p (Ky.mk 4 [] f.b))) (List.length (lat pm (Ky.mk 4 [] f.b))) (Prod.snd (A.p (Ky.mk 4 [] f.b)))),(16,.int .i64 (List.length (lat pm (Ky.mk 4 [] f.b)):Int)),(17,.int .i64 (i:Int)),(5,zp_ b2 0),(30,.slice (Prod.fst (A.i (f.a,x1.r))) (List.length (lat x.into (f.a,x1.r))) (Prod.snd (A.i (f.a,x1.r)))),(31,.int .i64 (List.length (lat x.into (f.a,x1.r)):Int)),(32,.int .i64 (y.1.1:Int))]) (fun y=>((b2,.cells #[.int .i64 x1.kind,str x1.a,str x1.b,str x1.c,str x1.r,str x1.s,str x1.t,.int .i64 x1.lo,.int .i64 x1.hi,.int .i64 x1.frm] 73 (0,0))::((b1,.cells #[.int .i64 f.kind,str f.a,str f.b,str f.r,.int .i64 f.lo,.int .i64 f.hi] 24 (0,0))::y.1.2))) (fun y=>[gF B E,pF B pm A,aF B x A,uF B x A,oF B x A,iF B x A,rF B x A,sF B x A,E.ef]) (fun y=>List.length (lat x.into (f.a,x1.r)) - y.1.1) ⟨((0:Nat),Hs_i),by simp,by exact hS_i⟩ zl zp zh ?_;rintro ⟨⟨j,Hs_j⟩,hi_j,hS_j⟩;dsimp only at hi_j hS_j ⊢;have hb_j:=(hyl (f.a,x1.r)).2.1;refine Zi 2 (fun hr2=>?_) fun hr2=>?_
 ·refine Zz 11 ?_
  exact aa_ ⟨(i+1,Hs_j),hlx1,(by rw[hH_ hx1,aN_];have e9:List.take j (lat x.into (Fc.a f,Pc.r x1))=(lat x.into (Fc.a f,Pc.r x1)):=List.take_of_length_le (by omega);rw[e9]at hS_j;exact hS_j)⟩ (by dsimp only;omega) zl (t_ (c_ e_) ad_) zh
 obtain⟨hlx2,x2,hx2,hmx2⟩:=zge (show j<List.length (lat x.into (f.a,x1.r)) by omega);refine Zz 10 ?_;refine d_ (ab_ D_ X_ rfl rfl (fun v _ h=>O_ (n:=1) aK_ (by decide) (by exact (bE_ h.2.2.2.2.2.1 (f.a,x1.r))) hx2) (by omega) (by first|omega|(simp;done))) rfl ?_;refine d_ (bm_ (ad:=(Prod.fst (A.i (f.a,x1.r)))) al_ rfl (fun v _ h=>by exact (bE_ h.2.2.2.2.2.1 (f.a,x1.r))) (K_ aK_ hx2 0 _ rfl)) rfl (Zz 3 ?_);refine ap_ ((b2,.cells #[.int .i64 x1.kind,str x1.a,str x1.b,str x1.c,str x1.r,str x1.s,str x1.t,.int .i64 x1.lo,.int .i64 x1.hi,.int .i64 x1.frm] 73 (0,0))::((b1,.cells #[.int .i64 f.kind,str f.a,str f.b,str f.r,.int .i64 f.lo,.int .i64 f.hi] 24 (0,0))::[])) zk ?_;refine o_ 2 [0,1,2,3,4,5,6] zk zs (Zz 8 ?_);refine i_ 7 rfl zk (n_ (gC_ x2 x1.c) rfl j_ zt rfl fun _=>Zz 3 ?_);refine i_ 8 rfl zk (aq_ (first:=[]) (cap:=E.caps) (E.emit (W_ x2 x1.c) (emits E.stp (List.map (fun a=>W_ a x1.c) (List.take j (lat x.into (f.a,x1.r)))) (emits E.stp (List.flatMap (fun y=>List.map (fun a=>W_ a y.c) (lat x.into (Fc.a f,Pc.r y))) (List.take i (lat pm (Ky.mk 4 [] f.b)))) nw)) fm Hs_j hS_j) rfl rfl zp zf rfl fun⟨Hs1,hS1⟩=>?_);dsimp only;refine Zz 10 ?_;exact aa_ ⟨(j+1,Hs1),hlx2,(by rw[fx_ hx2,aN_];exact hS1)⟩ (by dsimp only;omega) zl zp zh
theorem qX_ (B:EngB) (E:Emt Tryz.prog 24) (A:EngA) (pm:List (Ky×Pc)) (x:Ix) (f:Fc) (nw fm:List Fc) (Hs:Hp) (hS:E.St nw fm Hs) (hpl:∀ k,(lat pm k).length≤1000000000) (hxl:∀ k,(lat x.above k).length≤1000000000∧(lat x.under k).length≤1000000000) (hyl:∀ k,(lat x.frm k).length≤1000000000∧(lat x.into k).length≤1000000000∧(lat x.ranges k).length≤1000000000∧(lat x.firms k).length≤1000000000):Tri Tryz.prog 108 #[zp_ B.g 0,Fc.val f] Hs [gF B E,pF B pm A,aF B x A,uF B x A,oF B x A,iF B x A,rF B x A,sF B x A,E.ef] (fun _:{H':Hp // E.St (emits E.stp (gx_ pm x f) nw) fm H'}=>.tuple #[]) (fun y=>y.1) (fun _=>[]):=by
 refine w_ Tryz.func108 rfl rfl Tryz.ntmps108 rfl fun v0=>?_;refine Zz 2 ?_;refine ah_ rfl rfl fun b1=>Zz 4 ?_
 refine o_ 0 [0,1,2,3,4,5,6,7,8] zk zs (Zz 6 ?_);refine B_ rfl (cu_ (k:=f.b) (adr:=A.a) kj_ cr_ bA_ rfl rfl zf) rfl (Zz 6 ?_);refine aF_ (ι:={y:Nat×Hp // y.1≤List.length (lat x.above f.b)∧E.St (emits E.stp (List.flatMap (fun y=>List.map (fun a=>W_ f.a a.c) (lat pm (Ky.mk 4 f.r y))) (List.take y.1 (lat x.above f.b))) nw) fm y.2}) (fun y=>[(0,zp_ B.g 0),(3,zp_ b1 0),(14,.slice (Prod.fst (A.a f.b)) (List.length (lat x.above f.b)) (Prod.snd (A.a f.b))),(15,.int .i64 (List.length (lat x.above f.b):Int)),(16,.int .i64 (y.1.1:Int))]) (fun y=>((b1,.cells #[.int .i64 f.kind,str f.a,str f.b,str f.r,.int .i64 f.lo,.int .i64 f.hi] 24 (0,0))::y.1.2)) (fun y=>[gF B E,pF B pm A,aF B x A,uF B x A,oF B x A,iF B x A,rF B x A,sF B x A,E.ef]) (fun y=>List.length (lat x.above f.b) - y.1.1) ⟨((0:Nat),Hs),by simp,by exact hS⟩ zl zp zh ?_;rintro ⟨⟨i,Hs_i⟩,hi_i,hS_i⟩;dsimp only at hi_i hS_i ⊢;have hb_i:=(hxl f.b).1;refine Zi 2 (fun hr1=>?_) fun hr1=>?_
 ·refine Zz 6 ?_
  exact ci_ Tryz.results108 ⟨Hs_i,by unfold gx_;rw[List.take_of_length_le (by omega)]at hS_i;exact hS_i⟩ rfl ad_ zt
 obtain⟨hlx1,x1,hx1,hmx1⟩:=zge (show i<List.length (lat x.above f.b) by omega);refine Zz 10 ?_;refine d_ (ab_ D_ X_ rfl rfl (fun v _ h=>O_ (n:=1) aK_ (by decide) (by exact (bE_ h.2.2.1 f.b)) hx1) (by omega) (by first|omega|(simp;done))) rfl ?_;refine d_ (bm_ (ad:=(Prod.fst (A.a f.b))) al_ rfl (fun v _ h=>by exact (bE_ h.2.2.1 f.b)) (K_ aK_ hx1 0 _ rfl)) rfl (Zz 5 ?_);refine o_ 0 [0,1,2,3,4,5,6,7,8,9,10] zk zs (Zz 7 ?_);refine B_ rfl (F_ fo_ rfl rfl) rfl (B_ rfl (cu_ (k:=(Ky.mk 4 f.r x1)) (adr:=A.p) is_ bZ_ dm_ rfl rfl zf) rfl (Zz 6 ?_));refine aF_ (ι:={y:Nat×Hp // y.1≤List.length (lat pm (Ky.mk 4 f.r x1))∧E.St (emits E.stp (List.map (fun a=>W_ f.a a.c) (List.take y.1 (lat pm (Ky.mk 4 f.r x1)))) (emits E.stp (List.flatMap (fun y=>List.map (fun a=>W_ f.a a.c) (lat pm (Ky.mk 4 f.r y))) (List.take i (lat x.above f.b))) nw)) fm y.2}) (fun y=>[(0,zp_ B.g 0),(3,zp_ b1 0),(14,.slice (Prod.fst (A.a f.b)) (List.length (lat x.above f.b)) (Prod.snd (A.a f.b))),(15,.int .i64 (List.length (lat x.above f.b):Int)),(16,.int .i64 (i:Int)),(28,.slice (Prod.fst (A.p (Ky.mk 4 f.r x1))) (List.length (lat pm (Ky.mk 4 f.r x1))) (Prod.snd (A.p (Ky.mk 4 f.r x1)))),(29,.int .i64 (List.length (lat pm (Ky.mk 4 f.r x1)):Int)),(30,.int .i64 (y.1.1:Int))]) (fun y=>((b1,.cells #[.int .i64 f.kind,str f.a,str f.b,str f.r,.int .i64 f.lo,.int .i64 f.hi] 24 (0,0))::y.1.2)) (fun y=>[gF B E,pF B pm A,aF B x A,uF B x A,oF B x A,iF B x A,rF B x A,sF B x A,E.ef]) (fun y=>List.length (lat pm (Ky.mk 4 f.r x1)) - y.1.1) ⟨((0:Nat),Hs_i),by simp,by exact hS_i⟩ zl zp zh ?_;rintro ⟨⟨j,Hs_j⟩,hi_j,hS_j⟩;dsimp only at hi_j hS_j ⊢;have hb_j:=hpl (Ky.mk 4 f.r x1);refine Zi 2 (fun hr2=>?_) fun hr2=>?_
 ·refine Zz 11 ?_
  exact aa_ ⟨(i+1,Hs_j),hlx1,(by rw[hH_ hx1,aN_];have e9:List.take j (lat pm (Ky.mk 4 f.r x1))=(lat pm (Ky.mk 4 f.r x1)):=List.take_of_length_le (by omega);rw[e9]at hS_j;exact hS_j)⟩ (by dsimp only;omega) zl (t_ e_ bx_) zh
 obtain⟨hlx2,x2,hx2,hmx2⟩:=zge (show j<List.length (lat pm (Ky.mk 4 f.r x1)) by omega);refine Zz 10 ?_;refine d_ (ab_ P_ U_ rfl rfl (fun v _ h=>O_ (n:=10) Pc.cells_len (by decide) (by exact (bE_ h.2.1 (Ky.mk 4 f.r x1))) hx2) (by omega) (by first|omega|(simp;done))) rfl ?_;refine d_ (as_ (ad:=(Prod.fst (A.p (Ky.mk 4 f.r x1)))) (us:=Pc.cells x2) cx_ U_ rfl (fun v _ h=>by exact (bE_ h.2.1 (Ky.mk 4 f.r x1))) (Pc.cells_len _) (K_ Pc.cells_len hx2)) rfl (E_ am_ rfl fun b2=>z_ 0 U_ rfl rfl rfl rfl rfl rfl (Zz 2 ?_));refine ap_ ((b2,.cells #[.int .i64 x2.kind,str x2.a,str x2.b,str x2.c,str x2.r,str x2.s,str x2.t,.int .i64 x2.lo,.int .i64 x2.hi,.int .i64 x2.frm] 73 (0,0))::((b1,.cells #[.int .i64 f.kind,str f.a,str f.b,str f.r,.int .i64 f.lo,.int .i64 f.hi] 24 (0,0))::[])) zk ?_;refine o_ 2 [0,1,2,3,4,5,6,7] zk zs (Zz 9 ?_);refine i_ 8 rfl zk (n_ (gC_ f.a x2.c) rfl j_ zt rfl fun _=>Zz 3 ?_);refine i_ 9 rfl zk (aq_ (first:=[]) (cap:=E.caps) (E.emit (W_ f.a x2.c) (emits E.stp (List.map (fun a=>W_ f.a a.c) (List.take j (lat pm (Ky.mk 4 f.r x1)))) (emits E.stp (List.flatMap (fun y=>List.map (fun a=>W_ f.a a.c) (lat pm (Ky.mk 4 f.r y))) (List.take i (lat x.above f.b))) nw)) fm Hs_j hS_j) rfl rfl (c_ ad_) zf rfl fun⟨Hs1,hS1⟩=>?_);dsimp only;refine Zz 10 ?_;exact aa_ ⟨(j+1,Hs1),hlx2,(by rw[fx_ hx2,aN_];exact hS1)⟩ (by dsimp only;omega) zl zp zh
theorem wz_ (B:EngB) (E:Emt Tryz.prog 24) (A:EngA) (pm:List (Ky×Pc)) (x:Ix) (f:Fc) (nw fm:List Fc) (Hs:Hp) (hS:E.St nw fm Hs) (hpl:∀ k,(lat pm k).length≤1000000000) (hxl:∀ k,(lat x.above k).length≤1000000000∧(lat x.under k).length≤1000000000) (hyl:∀ k,(lat x.frm k).length≤1000000000∧(lat x.into k).length≤1000000000∧(lat x.ranges k).length≤1000000000∧(lat x.firms k).length≤1000000000):Tri Tryz.prog 107 #[zp_ B.g 0,Fc.val f] Hs [gF B E,pF B pm A,aF B x A,uF B x A,oF B x A,iF B x A,rF B x A,sF B x A,E.ef] (fun _:{H':Hp // E.St (emits E.stp (gr_ pm x f++in_ pm x f) nw) fm H'}=>.tuple #[]) (fun y=>y.1) (fun _=>[]):=by
 refine w_ Tryz.func107 rfl rfl Tryz.ntmps107 rfl fun v0=>?_;refine Zz 2 ?_;refine ah_ rfl rfl fun b1=>Zz 5 ?_
 refine o_ 0 [0,1,2,3,4,5,6,7,8,9] zk zs (Zz 6 ?_);refine B_ rfl (F_ fo_ rfl rfl) rfl (B_ rfl (cu_ (k:=(Ky.mk 6 f.r [])) (adr:=A.p) is_ bZ_ dm_ rfl rfl zf) rfl (Zz 6 ?_));refine aF_ (ι:={y:Nat×Hp // y.1≤List.length (lat pm (Ky.mk 6 f.r []))∧E.St (emits E.stp (List.flatMap (fun y=>List.map (fun a=>az_ f.a y.t a) (lat x.frm (Fc.b f,Pc.s y))) (List.take y.1 (lat pm (Ky.mk 6 f.r [])))) nw) fm y.2}) (fun y=>[(0,zp_ B.g 0),(3,zp_ b1 0),(19,.slice (Prod.fst (A.p (Ky.mk 6 f.r []))) (List.length (lat pm (Ky.mk 6 f.r []))) (Prod.snd (A.p (Ky.mk 6 f.r [])))),(20,.int .i64 (List.length (lat pm (Ky.mk 6 f.r [])):Int)),(21,.int .i64 (y.1.1:Int))]) (fun y=>((b1,.cells #[.int .i64 f.kind,str f.a,str f.b,str f.r,.int .i64 f.lo,.int .i64 f.hi] 24 (0,0))::y.1.2)) (fun y=>[gF B E,pF B pm A,aF B x A,uF B x A,oF B x A,iF B x A,rF B x A,sF B x A,E.ef]) (fun y=>List.length (lat pm (Ky.mk 6 f.r [])) - y.1.1) ⟨((0:Nat),Hs),by simp,by exact hS⟩ zl zp zh ?_;rintro ⟨⟨i,Hs_i⟩,hi_i,hS_i⟩;dsimp only at hi_i hS_i ⊢;have hb_i:=hpl (Ky.mk 6 f.r []);refine Zi 2 (fun hr1=>?_) fun hr1=>?_
 ·refine Zz 8 ?_
  refine o_ 0 [0,1,2,3,4,5,6,7,8,9] zk zs (Zz 6 ?_);refine B_ rfl (F_ fo_ rfl rfl) rfl (B_ rfl (cu_ (k:=(Ky.mk 6 [] f.r)) (adr:=A.p) is_ bZ_ dm_ rfl rfl zf) rfl (Zz 6 ?_));refine aF_ (ι:={y:Nat×Hp // y.1≤List.length (lat pm (Ky.mk 6 [] f.r))∧E.St (emits E.stp (List.flatMap (fun y=>List.map (fun a=>az_ a y.t f.b) (lat x.into (Fc.a f,Pc.r y))) (List.take y.1 (lat pm (Ky.mk 6 [] f.r)))) (emits E.stp (gr_ pm x f) nw)) fm y.2}) (fun y=>[(0,zp_ B.g 0),(3,zp_ b1 0),(19,.slice (Prod.fst (A.p (Ky.mk 6 f.r []))) (List.length (lat pm (Ky.mk 6 f.r []))) (Prod.snd (A.p (Ky.mk 6 f.r [])))),(20,.int .i64 (List.length (lat pm (Ky.mk 6 f.r [])):Int)),(21,.int .i64 (i:Int)),(60,.slice (Prod.fst (A.p (Ky.mk 6 [] f.r))) (List.length (lat pm (Ky.mk 6 [] f.r))) (Prod.snd (A.p (Ky.mk 6 [] f.r)))),(61,.int .i64 (List.length (lat pm (Ky.mk 6 [] f.r)):Int)),(62,.int .i64 (y.1.1:Int))]) (fun y=>((b1,.cells #[.int .i64 f.kind,str f.a,str f.b,str f.r,.int .i64 f.lo,.int .i64 f.hi] 24 (0,0))::y.1.2)) (fun y=>[gF B E,pF B pm A,aF B x A,uF B x A,oF B x A,iF B x A,rF B x A,sF B x A,E.ef]) (fun y=>List.length (lat pm (Ky.mk 6 [] f.r)) - y.1.1) ⟨((0:Nat),Hs_i),by simp,by have e9:List.take i (lat pm (Ky.mk 6 f.r []))=(lat pm (Ky.mk 6 f.r [])):=List.take_of_length_le (by omega);rw[e9]at hS_i;exact hS_i⟩ zl (t_ e_ bx_) zh ?_;rintro ⟨⟨k,Hs_k⟩,hi_k,hS_k⟩;dsimp only at hi_k hS_k ⊢;have hb_k:=hpl (Ky.mk 6 [] f.r);refine Zi 2 (fun hr2=>?_) fun hr2=>?_
  ·refine Zz 6 ?_
   exact ci_ Tryz.results107 ⟨Hs_k,by rw[aN_];unfold in_;have e8:List.take k (lat pm (Ky.mk 6 [] f.r))=lat pm (Ky.mk 6 [] f.r):=List.take_of_length_le (by omega);rw[e8]at hS_k;exact hS_k⟩ rfl ad_ zt
  obtain⟨hlx3,x3,hx3,hmx3⟩:=zge (show k<List.length (lat pm (Ky.mk 6 [] f.r)) by omega);refine Zz 10 ?_;refine d_ (ab_ P_ U_ rfl rfl (fun v _ h=>O_ (n:=10) Pc.cells_len (by decide) (by exact (bE_ h.2.1 (Ky.mk 6 [] f.r))) hx3) (by omega) (by first|omega|(simp;done))) rfl ?_;refine d_ (as_ (ad:=(Prod.fst (A.p (Ky.mk 6 [] f.r)))) (us:=Pc.cells x3) cx_ U_ rfl (fun v _ h=>by exact (bE_ h.2.1 (Ky.mk 6 [] f.r))) (Pc.cells_len _) (K_ Pc.cells_len hx3)) rfl (E_ am_ rfl fun b2=>z_ 0 U_ rfl rfl rfl rfl rfl rfl (Zz 4 ?_));refine o_ 0 [0,1,2,3,4,5,6,7,8,9,10,11] zk zs (Zz 8 ?_);refine B_ rfl (F_ gm_ rfl rfl) rfl (B_ rfl (cu_ (k:=(f.a,x3.r)) (adr:=A.i) dt_ bY_ bA_ rfl rfl zf) rfl (Zz 6 ?_));refine aF_ (ι:={y:Nat×Hp // y.1≤List.length (lat x.into (f.a,x3.r))∧E.St (emits E.stp (List.map (fun a=>az_ a x3.t f.b) (List.take y.1 (lat x.into (f.a,x3.r)))) (emits E.stp (List.flatMap (fun y=>List.map (fun a=>az_ a y.t f.b) (lat x.into (Fc.a f,Pc.r y))) (List.take k (lat pm (Ky.mk 6 [] f.r)))) (emits E.stp (gr_ pm x f) nw))) fm y.2}) (fun y=>[(0,zp_ B.g 0),(3,zp_ b1 0),(19,.slice (Prod.fst (A.p (Ky.mk 6 f.r []))) (List.length (lat pm (Ky.mk 6 f.r []))) (Prod.snd (A.p (Ky.mk 6 f.r [])))),(20,.int .i64 (List.length (lat pm (Ky.mk 6 f.r [])):Int)),(21,.int .i64 (i:Int)),(60,.slice (Prod.fst (A.p (Ky.mk 6 [] f.r))) (List.length (lat pm (Ky.mk 6 [] f.r))) (Prod.snd (A.p (Ky.mk 6 [] f.r)))),(61,.int .i64 (List.length (lat pm (Ky.mk 6 [] f.r)):Int)),(62,.int .i64 (k:Int)),(9,zp_ b2 0),(75,.slice (Prod.fst (A.i (f.a,x3.r))) (List.length (lat x.into (f.a,x3.r))) (Prod.snd (A.i (f.a,x3.r)))),(76,.int .i64 (List.length (lat x.into (f.a,x3.r)):Int)),(77,.int .i64 (y.1.1:Int))]) (fun y=>((b2,.cells #[.int .i64 x3.kind,str x3.a,str x3.b,str x3.c,str x3.r,str x3.s,str x3.t,.int .i64 x3.lo,.int .i64 x3.hi,.int .i64 x3.frm] 73 (0,0))::((b1,.cells #[.int .i64 f.kind,str f.a,str f.b,str f.r,.int .i64 f.lo,.int .i64 f.hi] 24 (0,0))::y.1.2))) (fun y=>[gF B E,pF B pm A,aF B x A,uF B x A,oF B x A,iF B x A,rF B x A,sF B x A,E.ef]) (fun y=>List.length (lat x.into (f.a,x3.r)) - y.1.1) ⟨((0:Nat),Hs_k),by simp,by exact hS_k⟩ zl zp zh ?_;rintro ⟨⟨l,Hs_l⟩,hi_l,hS_l⟩;dsimp only at hi_l hS_l ⊢;have hb_l:=(hyl (f.a,x3.r)).2.1;refine Zi 2 (fun hr3=>?_) fun hr3=>?_
  ·refine Zz 11 ?_
   exact aa_ ⟨(k+1,Hs_l),hlx3,(by rw[hH_ hx3,aN_];have e9:List.take l (lat x.into (Fc.a f,Pc.r x3))=(lat x.into (Fc.a f,Pc.r x3)):=List.take_of_length_le (by omega);rw[e9]at hS_l;exact hS_l)⟩ (by dsimp only;omega) zl (t_ (c_ e_) ad_) zh
  obtain⟨hlx4,x4,hx4,hmx4⟩:=zge (show l<List.length (lat x.into (f.a,x3.r)) by omega);refine Zz 10 ?_;refine d_ (ab_ D_ X_ rfl rfl (fun v _ h=>O_ (n:=1) aK_ (by decide) (by exact (bE_ h.2.2.2.2.2.1 (f.a,x3.r))) hx4) (by omega) (by first|omega|(simp;done))) rfl ?_;refine d_ (bm_ (ad:=(Prod.fst (A.i (f.a,x3.r)))) al_ rfl (fun v _ h=>by exact (bE_ h.2.2.2.2.2.1 (f.a,x3.r))) (K_ aK_ hx4 0 _ rfl)) rfl (Zz 3 ?_);refine ap_ ((b2,.cells #[.int .i64 x3.kind,str x3.a,str x3.b,str x3.c,str x3.r,str x3.s,str x3.t,.int .i64 x3.lo,.int .i64 x3.hi,.int .i64 x3.frm] 73 (0,0))::((b1,.cells #[.int .i64 f.kind,str f.a,str f.b,str f.r,.int .i64 f.lo,.int .i64 f.hi] 24 (0,0))::[])) zk ?_;refine o_ 2 [0,1,2,3,4,5,6,7,8] zk zs (Zz 10 ?_);refine i_ 9 rfl zk (n_ (mu_ x4 x3.t f.b) rfl j_ zt rfl fun _=>Zz 3 ?_);refine i_ 10 rfl zk (aq_ (first:=[]) (cap:=E.caps) (E.emit (az_ x4 x3.t f.b) (emits E.stp (List.map (fun a=>az_ a x3.t f.b) (List.take l (lat x.into (f.a,x3.r)))) (emits E.stp (List.flatMap (fun y=>List.map (fun a=>az_ a y.t f.b) (lat x.into (Fc.a f,Pc.r y))) (List.take k (lat pm (Ky.mk 6 [] f.r)))) (emits E.stp (gr_ pm x f) nw))) fm Hs_l hS_l) rfl rfl zp zf rfl fun⟨Hs1,hS1⟩=>?_);dsimp only;refine Zz 10 ?_;exact aa_ ⟨(l+1,Hs1),hlx4,(by rw[fx_ hx4,aN_];exact hS1)⟩ (by dsimp only;omega) zl zp zh
 obtain⟨hlx1,x1,hx1,hmx1⟩:=zge (show i<List.length (lat pm (Ky.mk 6 f.r [])) by omega);refine Zz 10 ?_;refine d_ (ab_ P_ U_ rfl rfl (fun v _ h=>O_ (n:=10) Pc.cells_len (by decide) (by exact (bE_ h.2.1 (Ky.mk 6 f.r []))) hx1) (by omega) (by first|omega|(simp;done))) rfl ?_;refine d_ (as_ (ad:=(Prod.fst (A.p (Ky.mk 6 f.r [])))) (us:=Pc.cells x1) cx_ U_ rfl (fun v _ h=>by exact (bE_ h.2.1 (Ky.mk 6 f.r []))) (Pc.cells_len _) (K_ Pc.cells_len hx1)) rfl (E_ am_ rfl fun b3=>z_ 0 U_ rfl rfl rfl rfl rfl rfl (Zz 4 ?_));refine o_ 0 [0,1,2,3,4,5,6,7,8,9,10,11] zk zs (Zz 8 ?_);refine B_ rfl (F_ gm_ rfl rfl) rfl (B_ rfl (cu_ (k:=(f.b,x1.s)) (adr:=A.o) dt_ bY_ bA_ rfl rfl zf) rfl (Zz 6 ?_));refine aF_ (ι:={y:Nat×Hp // y.1≤List.length (lat x.frm (f.b,x1.s))∧E.St (emits E.stp (List.map (fun a=>az_ f.a x1.t a) (List.take y.1 (lat x.frm (f.b,x1.s)))) (emits E.stp (List.flatMap (fun y=>List.map (fun a=>az_ f.a y.t a) (lat x.frm (Fc.b f,Pc.s y))) (List.take i (lat pm (Ky.mk 6 f.r [])))) nw)) fm y.2}) (fun y=>[(0,zp_ B.g 0),(3,zp_ b1 0),(19,.slice (Prod.fst (A.p (Ky.mk 6 f.r []))) (List.length (lat pm (Ky.mk 6 f.r []))) (Prod.snd (A.p (Ky.mk 6 f.r [])))),(20,.int .i64 (List.length (lat pm (Ky.mk 6 f.r [])):Int)),(21,.int .i64 (i:Int)),(5,zp_ b3 0),(34,.slice (Prod.fst (A.o (f.b,x1.s))) (List.length (lat x.frm (f.b,x1.s))) (Prod.snd (A.o (f.b,x1.s)))),(35,.int .i64 (List.length (lat x.frm (f.b,x1.s)):Int)),(36,.int .i64 (y.1.1:Int))]) (fun y=>((b3,.cells #[.int .i64 x1.kind,str x1.a,str x1.b,str x1.c,str x1.r,str x1.s,str x1.t,.int .i64 x1.lo,.int .i64 x1.hi,.int .i64 x1.frm] 73 (0,0))::((b1,.cells #[.int .i64 f.kind,str f.a,str f.b,str f.r,.int .i64 f.lo,.int .i64 f.hi] 24 (0,0))::y.1.2))) (fun y=>[gF B E,pF B pm A,aF B x A,uF B x A,oF B x A,iF B x A,rF B x A,sF B x A,E.ef]) (fun y=>List.length (lat x.frm (f.b,x1.s)) - y.1.1) ⟨((0:Nat),Hs_i),by simp,by exact hS_i⟩ zl zp zh ?_;rintro ⟨⟨j,Hs_j⟩,hi_j,hS_j⟩;dsimp only at hi_j hS_j ⊢;have hb_j:=(hyl (f.b,x1.s)).1;refine Zi 2 (fun hr4=>?_) fun hr4=>?_
 ·refine Zz 11 ?_
  exact aa_ ⟨(i+1,Hs_j),hlx1,(by rw[hH_ hx1,aN_];have e9:List.take j (lat x.frm (Fc.b f,Pc.s x1))=(lat x.frm (Fc.b f,Pc.s x1)):=List.take_of_length_le (by omega);rw[e9]at hS_j;exact hS_j)⟩ (by dsimp only;omega) zl (t_ (c_ e_) ad_) zh
 obtain⟨hlx2,x2,hx2,hmx2⟩:=zge (show j<List.length (lat x.frm (f.b,x1.s)) by omega);refine Zz 10 ?_;refine d_ (ab_ D_ X_ rfl rfl (fun v _ h=>O_ (n:=1) aK_ (by decide) (by exact (bE_ h.2.2.2.2.1 (f.b,x1.s))) hx2) (by omega) (by first|omega|(simp;done))) rfl ?_;refine d_ (bm_ (ad:=(Prod.fst (A.o (f.b,x1.s)))) al_ rfl (fun v _ h=>by exact (bE_ h.2.2.2.2.1 (f.b,x1.s))) (K_ aK_ hx2 0 _ rfl)) rfl (Zz 3 ?_);refine ap_ ((b3,.cells #[.int .i64 x1.kind,str x1.a,str x1.b,str x1.c,str x1.r,str x1.s,str x1.t,.int .i64 x1.lo,.int .i64 x1.hi,.int .i64 x1.frm] 73 (0,0))::((b1,.cells #[.int .i64 f.kind,str f.a,str f.b,str f.r,.int .i64 f.lo,.int .i64 f.hi] 24 (0,0))::[])) zk ?_;refine o_ 2 [0,1,2,3,4,5,6,7,8] zk zs (Zz 10 ?_);refine i_ 9 rfl zk (n_ (mu_ f.a x1.t x2) rfl j_ zt rfl fun _=>Zz 3 ?_);refine i_ 10 rfl zk (aq_ (first:=[]) (cap:=E.caps) (E.emit (az_ f.a x1.t x2) (emits E.stp (List.map (fun a=>az_ f.a x1.t a) (List.take j (lat x.frm (f.b,x1.s)))) (emits E.stp (List.flatMap (fun y=>List.map (fun a=>az_ f.a y.t a) (lat x.frm (Fc.b f,Pc.s y))) (List.take i (lat pm (Ky.mk 6 f.r [])))) nw)) fm Hs_j hS_j) rfl rfl zp zf rfl fun⟨Hs2,hS2⟩=>?_);dsimp only;refine Zz 10 ?_;exact aa_ ⟨(j+1,Hs2),hlx2,(by rw[fx_ hx2,aN_];exact hS2)⟩ (by dsimp only;omega) zl zp zh
theorem qg_ (B:EngB) (E:Emt Tryz.prog 24) (A:EngA) (pm:List (Ky×Pc)) (x:Ix) (f:Fc) (nw fm:List Fc) (Hs:Hp) (hS:E.St nw fm Hs) (hpl:∀ k,(lat pm k).length≤1000000000) (hxl:∀ k,(lat x.above k).length≤1000000000∧(lat x.under k).length≤1000000000) (hyl:∀ k,(lat x.frm k).length≤1000000000∧(lat x.into k).length≤1000000000∧(lat x.ranges k).length≤1000000000∧(lat x.firms k).length≤1000000000):Tri Tryz.prog 104 #[zp_ B.g 0,Fc.val f] Hs [gF B E,pF B pm A,aF B x A,uF B x A,oF B x A,iF B x A,rF B x A,sF B x A,E.ef] (fun _:{H':Hp // E.St (emits E.stp (dY_ x f) nw) fm H'}=>.tuple #[]) (fun y=>y.1) (fun _=>[]):=by
 refine w_ Tryz.func104 rfl rfl Tryz.ntmps104 rfl fun v0=>?_;refine Zz 2 ?_;refine ah_ rfl rfl fun b1=>Zi 6 (fun hr1=>?_) fun hr1=>?_
 ·refine Zz 5 ?_
  exact ci_ Tryz.results104 ⟨Hs,by unfold dY_;rw[if_neg (by assumption)];exact hS⟩ rfl ad_ zt
 refine Zz 5 ?_;refine o_ 0 [0,1,2,3,4,5,6,7,8] zk zs (Zz 6 ?_);refine B_ rfl (cu_ (k:=f.a) (adr:=A.u) kj_ cr_ bA_ rfl rfl zf) rfl (Zz 6 ?_);refine aF_ (ι:={y:Nat×Hp // y.1≤List.length (lat x.under f.a)∧E.St (emits E.stp (List.map (fun a=>W_ a [33]) (List.take y.1 (lat x.under f.a))) nw) fm y.2}) (fun y=>[(0,zp_ B.g 0),(15,.slice (Prod.fst (A.u f.a)) (List.length (lat x.under f.a)) (Prod.snd (A.u f.a))),(16,.int .i64 (List.length (lat x.under f.a):Int)),(17,.int .i64 (y.1.1:Int))]) (fun y=>(y.1.2)) (fun y=>[gF B E,pF B pm A,aF B x A,uF B x A,oF B x A,iF B x A,rF B x A,sF B x A,E.ef]) (fun y=>List.length (lat x.under f.a) - y.1.1) ⟨((0:Nat),Hs),by simp,by exact hS⟩ zl ad_ zh ?_;rintro ⟨⟨i,Hs_i⟩,hi_i,hS_i⟩;dsimp only at hi_i hS_i ⊢;have hb_i:=(hxl f.a).2;refine Zi 2 (fun hr2=>?_) fun hr2=>?_
 ·refine Zz 6 ?_
  exact ci_ Tryz.results104 ⟨Hs_i,by unfold dY_;rw[if_pos (by assumption)];rw[List.take_of_length_le (by omega)]at hS_i;exact hS_i⟩ rfl bx_ zt
 obtain⟨hlx1,x1,hx1,hmx1⟩:=zge (show i<List.length (lat x.under f.a) by omega);refine Zz 10 ?_;refine d_ (ab_ D_ X_ rfl rfl (fun v _ h=>O_ (n:=1) aK_ (by decide) (by exact (bE_ h.2.2.2.1 f.a)) hx1) (by omega) (by first|omega|(simp;done))) rfl ?_;refine d_ (bm_ (ad:=(Prod.fst (A.u f.a))) al_ rfl (fun v _ h=>by exact (bE_ h.2.2.2.1 f.a)) (K_ aK_ hx1 0 _ rfl)) rfl (Zz 3 ?_);refine ap_ ([]) zk ?_;refine o_ 2 [0,1,2,3,4] zk zs (Zz 6 ?_);refine i_ 5 rfl zk (n_ (gC_ x1 [33]) rfl j_ zt rfl fun _=>S_ nx_ (Zz 3 ?_));refine i_ 6 rfl zk (aq_ (first:=[]) (cap:=E.caps) (E.emit (W_ x1 [33]) (emits E.stp (List.map (fun a=>W_ a [33]) (List.take i (lat x.under f.a))) nw) fm Hs_i hS_i) rfl rfl bx_ zf rfl fun⟨Hs1,hS1⟩=>?_);dsimp only;refine S_ ke_ (Zz 10 ?_);exact aa_ ⟨(i+1,Hs1),hlx1,(by rw[fx_ hx1,aN_];exact hS1)⟩ (by dsimp only;omega) zl bx_ zh
theorem qf_ (B:EngB) (E:Emt Tryz.prog 24) (A:EngA) (pm:List (Ky×Pc)) (x:Ix) (f:Fc) (nw fm:List Fc) (Hs:Hp) (hS:E.St nw fm Hs) (hpl:∀ k,(lat pm k).length≤1000000000) (hxl:∀ k,(lat x.above k).length≤1000000000∧(lat x.under k).length≤1000000000) (hyl:∀ k,(lat x.frm k).length≤1000000000∧(lat x.into k).length≤1000000000∧(lat x.ranges k).length≤1000000000∧(lat x.firms k).length≤1000000000):Tri Tryz.prog 109 #[zp_ B.g 0,Fc.val f] Hs [gF B E,pF B pm A,aF B x A,uF B x A,oF B x A,iF B x A,rF B x A,sF B x A,E.ef] (fun _:{H':Hp // E.St (if W_ f.b [33]∈E.kof nw then E.stp (W_ f.a [33]) nw else nw) fm H'}=>.tuple #[]) (fun y=>y.1) (fun _=>[]):=by
 refine w_ Tryz.func109 rfl rfl Tryz.ntmps109 rfl fun v0=>?_;refine Zz 2 ?_;refine ah_ rfl rfl fun b1=>Zz 4 ?_
 refine o_ 2 [0,1,2,3,4,5] zk zs (Zz 7 ?_);refine i_ 6 rfl zk (n_ (gC_ f.b [33]) rfl j_ zt rfl fun _=>Zz 3 ?_);refine o_ 0 [7] zk zs (cC_ rfl (iT_ (f:=(W_ f.b [33])) hS kk_ aZ_ cG_ rfl rfl ad_) rfl fun r1 hr1=>Zz 3 ?_);cases r1
 ·replace hr1:=zdf hr1
  refine Zz 3 ?_;exact ci_ Tryz.results109 ⟨Hs,by first|(rw[if_pos (by assumption)];exact hS)|(rw[if_neg (by assumption)];exact hS)⟩ rfl ad_ zt
 replace hr1:=zdt hr1;refine C_ rfl ?_;refine ap_ ((b1,.cells #[.int .i64 f.kind,str f.a,str f.b,str f.r,.int .i64 f.lo,.int .i64 f.hi] 24 (0,0))::[]) zk ?_;refine o_ 2 [0,1,2,3,4,5] zk zs (Zz 7 ?_);refine i_ 6 rfl zk (n_ (gC_ f.a [33]) rfl j_ zt rfl fun _=>Zz 3 ?_);refine i_ 7 rfl zk (aq_ (first:=[]) (cap:=E.caps) (E.emit (W_ f.a [33]) nw fm Hs hS) rfl rfl ad_ zf rfl fun⟨Hs1,hS1⟩=>?_);dsimp only;refine Zz 5 ?_;exact ci_ Tryz.results109 ⟨Hs1,by first|(rw[if_pos (by assumption)];exact hS1)|(rw[if_neg (by assumption)];exact hS1)⟩ rfl A_ zt
end Go.Proofs.YtaffcjgphlhppaaGreatDoor
