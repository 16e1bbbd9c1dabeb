/-
  Part of the proof of the law CheckerSound over this seat: the small logic, the data, the contracts of functions (no condition).
-/
import Derived.Test.YtaffcjgphlhppaaGreatDoorQCheckerSound7
import Derived.Test.YtaffcjgphlhppaaGreatDoorQCheckerSound5
import Derived.Test.YtaffcjgphlhppaaGreatDoorQCheckerSound4
import Derived.Test.YtaffcjgphlhppaaGreatDoorQCheckerSound2
set_option linter.unusedVariables false
set_option linter.unusedSimpArgs false
set_option linter.unusedSectionVars false
set_option maxHeartbeats 1000000
namespace Go.Vs
open Go Go.Sx
def I64 (n:Int):Prop:=-9223372036854775808≤n∧n≤9223372036854775807
instance (n:Int):Decidable (I64 n):=by unfold I64;infer_instance
instance (f:Fc):Decidable f.sml:=by unfold Fc.sml;infer_instance
theorem jS_ {n:Int} (h0:0≤n) (h:n<18446744073709551616):(bits n:Int)=n:=by
  unfold bits
  rw[show n.emod 18446744073709551616=n from Int.emod_eq_of_lt h0 h]
  omega
theorem sk_ {n:Int} (h0:n<0) (h:-9223372036854775808≤n):(bits n:Int)=n+18446744073709551616:=by
  have e:n.emod 18446744073709551616=n+18446744073709551616:=by
    show n%18446744073709551616=_
    omega
  unfold bits
  rw[e];omega
theorem iM_ (n:Int) (k:Nat) (r:Str):ev_ k (ay_ n k++r)=some (bits n%256 ^ k,r):=by
  rw[jg_ (by simp[bV_])]
  have e:(ay_ n k++r).take k=ay_ n k:=by rw[List.take_left' (bV_ n k)]
  have e2:(ay_ n k++r).drop k=r:=by rw[List.drop_left' (bV_ n k)]
  rw[e,e2,oe_]
theorem iY_ {n:Int} (h0:0≤n) (h:n≤255) (r:Str):ei_ (ay_ n 1++r)=some (n,r):=by
  have hb:=jS_ h0 (by omega)
  unfold ei_
  rw[iM_,show bits n%256 ^ 1=bits n by rw[Nat.pow_one];exact Nat.mod_eq_of_lt (by omega)]
  simp[hb]
theorem mC_ {n:Int} (h0:0≤n) (h:n≤2147483647) (r:Str):gT_ (ay_ n 4++r)=some (n,r):=by
  have hb:=jS_ h0 (by omega)
  have e:(256:Nat) ^ 4=4294967296:=by decide
  rw[uc_ (v:=bits n) (r':=r) (by rw[iM_,show bits n%256 ^ 4=bits n by rw[e];exact Nat.mod_eq_of_lt (by omega)]) (by omega),hb]
theorem nK_ {n:Int} (h:I64 n) (r:Str):hn_ (ay_ n 8++r)=some (n,r):=by
 obtain⟨h1,h2⟩:=h
 have e:(256:Nat) ^ 8=18446744073709551616:=by decide
 unfold hn_
 rw[iM_,e]
 by_cases h0:0≤n
 ·have hb:=jS_ h0 (by omega)
  rw[Nat.mod_eq_of_lt (by omega)]
  simp only[Option.map_some,ip_]
  rw[if_pos (by omega),hb]
 have hb:=sk_ (by omega) h1
 rw[Nat.mod_eq_of_lt (by omega)]
 simp only[Option.map_some,ip_]
 rw[if_neg (by omega),hb]
 congr 2
 omega
theorem ka_ {s:Str} (h:s.length≤65535) (r:Str):fz_ (cI_ s++r)=some (s,r):=by
  have hb:=jS_ (n:=(s.length:Int)) (by omega) (by omega)
  have e:(256:Nat) ^ 2=65536:=by decide
  have hi:ev_ 2 (cI_ s++r)=some (s.length,s++r):=by
    rw[cI_,List.append_assoc,iM_,show bits (s.length:Int)%256 ^ 2=s.length by rw[e,Nat.mod_eq_of_lt (by omega)];omega]
  rw[qJ_ hi (by simp)]
  simp
theorem nQ_:∀ (l:List Int),(∀ q∈l,0≤q∧q≤2147483647)→∀ r:Str,fU_ l.length ((l.flatMap fun q=>ay_ q 4)++r)=some (l,r)
  | [],_,_=>rfl
  | q::l,h,r=>by
    have hq:=h q List.mem_cons_self
    rw[List.length_cons,jh_,List.flatMap_cons,List.append_assoc,mC_ hq.1 hq.2,Option.bind_some,nQ_ l (fun z hz=>h z (List.mem_cons_of_mem _ hz)) r]
    rfl
theorem qO_ {s:Stp} (h:fV_ s=true) (hl:I64 s.fact.lo) (hh:I64 s.fact.hi) (r:Str):iy_ (dy_ s++r)=some (s.ds,r):=by
  obtain⟨h1,h2,h3,h4,h5,h6,h7,h8,h9,h10,h11⟩:=gC_.1 h
  have e:dy_ s++r=ay_ s.rule 1++(ay_ s.fact.kind 1++(cI_ s.fact.a++(cI_ s.fact.b++(cI_ s.fact.r++(ay_ s.fact.lo 8++(ay_ s.fact.hi 8++(ay_ (s.piece+1) 4++(ay_ (s.frm.length:Int) 1++((s.frm.flatMap fun q=>ay_ q 4)++r))))))))):=by
    simp[dy_,List.append_assoc]
  rw[ez_,e]
  simp only[iY_ h1 h2,iY_ h3 h4,ka_ h9,ka_ h10,ka_ h11,nK_ hl,nK_ hh,mC_ (n:=s.piece+1) (by omega) (by omega),iY_ (n:=(s.frm.length:Int)) (by omega) (by omega),Option.bind_some,Int.toNat_natCast,nQ_ s.frm h8,Option.map_some]
  rw[show s.piece+1 - 1=s.piece by omega]
  rfl
theorem lu_:∀ (l:List Stp),(∀ s∈l,fV_ s=true∧I64 s.fact.lo∧I64 s.fact.hi)→∀ r:Str,ey_ l.length (l.flatMap dy_++r)=some (l.map Stp.ds,r)
  | [],_,_=>rfl
  | s::l,h,r=>by
    have hs:=h s List.mem_cons_self
    rw[List.length_cons,ey_,List.flatMap_cons,List.append_assoc,qO_ hs.1 hs.2.1 hs.2.2,Option.bind_some,lu_ l (fun z hz=>h z (List.mem_cons_of_mem _ hz)) r]
    rfl
theorem tB_ {l:List Stp} {b:Str} {e:Int} (h:gX_ l=(b,e)):(e=0∧l.length≤65536∧(∀ s∈l,fV_ s=true)∧b=ql_ l)∨(e≠0∧b=[]∧¬ (l.length≤65536∧∀ s∈l,fV_ s=true)):=by
 unfold gX_ at h
 split at h
 ·simp only[Prod.mk.injEq]at h
  exact .inr ⟨by omega,h.1.symm,fun q=>by omega⟩
 split at h
 ·rename_i h1 h2
  simp only[Prod.mk.injEq]at h
  exact .inl ⟨h.2.symm,by omega,List.all_eq_true.1 h2,h.1.symm⟩
 rename_i h1 h2
 simp only[Prod.mk.injEq]at h
 exact .inr ⟨by omega,h.1.symm,fun q=>h2 (List.all_eq_true.2 q.2)⟩
theorem tF_ {l:List Stp} {b:Str} (h:gX_ l=(b,0)) (hi:∀ s∈l,I64 s.fact.lo∧I64 s.fact.hi):oG_ b=some (l.map Stp.ds):=by
 rcases tB_ h with⟨_,hl,ho,rfl⟩|⟨h0,_⟩
 ·have e:ql_ l=ay_ (l.length:Int) 4++(l.flatMap dy_++[]):=by simp[ql_]
  rw[eJ_,e,mC_ (by omega) (by omega),Option.bind_some,if_pos (by omega),Int.toNat_natCast,lu_ l (fun s hs=>⟨ho s hs,hi s hs⟩),Option.bind_some,if_pos rfl]
 exact absurd rfl h0
structure Fc.lim (f:Fc):Prop where
  a:f.a.length≤140737488351232
  b:f.b.length≤140737488351232
  r:f.r.length≤140737488351232
structure Pc.lim (p:Pc):Prop where
  a:p.a.length≤140737488351232
  b:p.b.length≤140737488351232
  c:p.c.length≤140737488351232
  r:p.r.length≤140737488351232
  s:p.s.length≤140737488351232
  t:p.t.length≤140737488351232
def Stp.few (s:Stp):Prop:=s.frm.length≤300∧s.fact.a.length+s.fact.b.length+s.fact.r.length≤1500
theorem Stp.few.sml {s:Stp} (h:s.few):s.fact.sml:=by obtain⟨_,h⟩:=h;exact⟨by omega,by omega,by omega⟩
structure SameS (Y Z:List Stp):Prop where
  len:Y.length=Z.length
  eq:∀ (i:Nat) s t,Y[i]? = some s→Z[i]? = some t→s.rule=t.rule∧s.fact=t.fact∧s.piece=t.piece∧s.frm=t.frm
theorem ra_ {Y Z:List Stp} (h:Y.map Stp.ds=Z.map Stp.ds):SameS Y Z:=by
  refine⟨by have:=congrArg List.length h;simpa using this,fun i s t hs ht=>?_⟩
  have:=congrArg (fun l=>l[i]?) h
  simp only[List.getElem?_map,hs,ht,Option.map_some,Option.some.injEq,Stp.ds,Ds.mk.injEq]at this
  exact⟨this.1,this.2.1,this.2.2.1,this.2.2.2⟩
end Go.Vs
namespace Go.Proofs.YtaffcjgphlhppaaGreatDoor
open Go Go.Sx Go.Proofs
attribute [local irreducible] Code.wp wpList wpAnyH
open Go.Vs
theorem dH_ (s:Str) (hs:s.length≤140737488351232):Fn0 Tryz.prog 148 #[str s] (.bool (bm_ s)):=by
  refine t_ Tryz.func148 rfl rfl Tryz.ntmps148 rfl fun v0=>?_
  refine Zz 8 ?_
  refine q_ (fX_ s hs) rfl g_ zt rfl fun _=>O_ (bf_ rfl rfl) rfl fun r1 hr1=>Zz 4 ?_
  exact J_ Tryz.results148 () (f_ rfl (by cases h:bm_ s<;>simp_all)) (.refl _) zt
theorem gE_ (s:Str) (hs:s.length≤140737488351232):Fn0 Tryz.prog 146 #[str s] (.bool (be_ s)):=by
 refine t_ Tryz.func146 rfl rfl Tryz.ntmps146 rfl fun v0=>?_
 refine Zz 8 ?_
 refine d_ (bR_ H_ rfl) rfl (Zi 8 (fun hr1=>?_) fun hr1=>?_)
 ·refine Zi 4 (fun hr2=>?_) fun hr2=>?_
  ·refine Zi 8 (fun hr3=>?_) fun hr3=>?_
   ·refine Zi 19 (fun hr4=>?_) fun hr4=>?_
    ·refine Zz 21 ?_
     refine S_ (dH_ _ (by first|exact hs|(simp;omega))) rfl g_ zt rfl fun r5 hr5=>?_
     refine Zz 4 ?_
     exact J_ cz_ () (f_ rfl (by unfold be_;(repeat (any_goals split))<;>first|rfl|(simp_all;done)|(exfalso;simp_all;omega)|(exfalso;simp_all;done))) (.refl _) zt
    exfalso;omega
   obtain⟨c,hc⟩:∃ c,s[0]? = some c:=⟨_,List.getElem?_eq_getElem (by omega)⟩
   obtain⟨e,he⟩:∃ e,s[s.length - 1]? = some e:=⟨_,List.getElem?_eq_getElem (by omega)⟩
   have hc123 : (s[0]? = some 123) ↔ ((c.toNat : Int) = 123) := by
                       rw[hc];simp only[Option.some.injEq];exact⟨fun q=>by subst q;rfl,fun q=>UInt8.toNat_inj.1 (by show c.toNat=123;omega)⟩
   have he125 : (s[s.length - 1]? = some 125) ↔ ((e.toNat : Int) = 125) := by
                       rw[he];simp only[Option.some.injEq];exact⟨fun q=>by subst q;rfl,fun q=>UInt8.toNat_inj.1 (by show e.toNat=125;omega)⟩
   have hc60 : (s[0]? = some 60) ↔ ((c.toNat : Int) = 60) := by
                       rw[hc];simp only[Option.some.injEq];exact⟨fun q=>by subst q;rfl,fun q=>UInt8.toNat_inj.1 (by show c.toNat=60;omega)⟩
   have he62 : (s[s.length - 1]? = some 62) ↔ ((e.toNat : Int) = 62) := by
                       rw[he];simp only[Option.some.injEq];exact⟨fun q=>by subst q;rfl,fun q=>UInt8.toNat_inj.1 (by show e.toNat=62;omega)⟩
   refine Zz 4 ?_
   refine d_ (ch_ H_ rfl rfl (by decide) hc) rfl (y_ rfl rfl ?_)
   refine Zi 0 (fun hr6=>?_) fun hr6=>?_
   ·refine Zi 15 (fun hr7=>?_) fun hr7=>?_
    ·refine Zz 21 ?_
     refine S_ (dH_ _ (by first|exact hs|(simp;omega))) rfl g_ zt rfl fun r8 hr8=>?_
     refine Zz 4 ?_
     exact J_ cz_ () (f_ rfl (by unfold be_;(repeat (any_goals split))<;>first|rfl|(simp_all;done)|(exfalso;simp_all;omega)|(exfalso;simp_all;done))) (.refl _) zt
    refine Zz 4 ?_
    refine d_ (ch_ H_ rfl rfl (by decide) hc) rfl (y_ rfl rfl ?_)
    refine Zi 0 (fun hr9=>?_) fun hr9=>?_
    ·refine Zz 17 ?_
     refine S_ (dH_ _ (by first|exact hs|(simp;omega))) rfl g_ zt rfl fun r10 hr10=>?_
     refine Zz 4 ?_
     exact J_ cz_ () (f_ rfl (by unfold be_;(repeat (any_goals split))<;>first|rfl|(simp_all;done)|(exfalso;simp_all;omega)|(exfalso;simp_all;done))) (.refl _) zt
    refine Zz 9 ?_
    refine d_ (ch_ H_ rfl rfl (by omega) (show s[((s.length:Int) - 1).toNat]? = some e by rw[show ((s.length:Int) - 1).toNat=s.length - 1 by omega];exact he)) rfl ?_
    refine y_ rfl rfl ?_
    refine Zi 0 (fun hr11=>?_) fun hr11=>?_
    ·refine Zz 10 ?_
     refine S_ (dH_ _ (by first|exact hs|(simp;omega))) rfl g_ zt rfl fun r12 hr12=>?_
     refine Zz 4 ?_
     exact J_ cz_ () (f_ rfl (by unfold be_;(repeat (any_goals split))<;>first|rfl|(simp_all;done)|(exfalso;simp_all;omega)|(exfalso;simp_all;done))) (.refl _) zt
    refine Zz 11 ?_
    exact J_ cz_ () (f_ rfl (by unfold be_;(repeat (any_goals split))<;>first|rfl|(simp_all;done)|(exfalso;simp_all;omega)|(exfalso;simp_all;done))) (.refl _) zt
   refine Zz 9 ?_
   refine d_ (ch_ H_ rfl rfl (by omega) (show s[((s.length:Int) - 1).toNat]? = some e by rw[show ((s.length:Int) - 1).toNat=s.length - 1 by omega];exact he)) rfl ?_
   refine y_ rfl rfl ?_
   refine Zi 0 (fun hr13=>?_) fun hr13=>?_
   ·refine Zi 8 (fun hr14=>?_) fun hr14=>?_
    ·refine Zz 21 ?_
     refine S_ (dH_ _ (by first|exact hs|(simp;omega))) rfl g_ zt rfl fun r15 hr15=>?_
     refine Zz 4 ?_
     exact J_ cz_ () (f_ rfl (by unfold be_;(repeat (any_goals split))<;>first|rfl|(simp_all;done)|(exfalso;simp_all;omega)|(exfalso;simp_all;done))) (.refl _) zt
    refine Zz 4 ?_
    refine d_ (ch_ H_ rfl rfl (by decide) hc) rfl (y_ rfl rfl ?_)
    refine Zi 0 (fun hr16=>?_) fun hr16=>?_
    ·refine Zz 17 ?_
     refine S_ (dH_ _ (by first|exact hs|(simp;omega))) rfl g_ zt rfl fun r17 hr17=>?_
     refine Zz 4 ?_
     exact J_ cz_ () (f_ rfl (by unfold be_;(repeat (any_goals split))<;>first|rfl|(simp_all;done)|(exfalso;simp_all;omega)|(exfalso;simp_all;done))) (.refl _) zt
    refine Zz 9 ?_
    refine d_ (ch_ H_ rfl rfl (by omega) (show s[((s.length:Int) - 1).toNat]? = some e by rw[show ((s.length:Int) - 1).toNat=s.length - 1 by omega];exact he)) rfl ?_
    refine y_ rfl rfl ?_
    refine Zi 0 (fun hr18=>?_) fun hr18=>?_
    ·refine Zz 10 ?_
     refine S_ (dH_ _ (by first|exact hs|(simp;omega))) rfl g_ zt rfl fun r19 hr19=>?_
     refine Zz 4 ?_
     exact J_ cz_ () (f_ rfl (by unfold be_;(repeat (any_goals split))<;>first|rfl|(simp_all;done)|(exfalso;simp_all;omega)|(exfalso;simp_all;done))) (.refl _) zt
    refine Zz 11 ?_
    exact J_ cz_ () (f_ rfl (by unfold be_;(repeat (any_goals split))<;>first|rfl|(simp_all;done)|(exfalso;simp_all;omega)|(exfalso;simp_all;done))) (.refl _) zt
   refine Zz 10 ?_
   refine d_ (eM_ (i:=1) (j:=s.length - 1) (kl:=.i64) (kh:=.i64) H_ rfl rfl (show _=some (Value.int .i64 ((s.length - 1:Nat):Int)) by rw[show ((s.length - 1:Nat):Int)=(s.length:Int) - 1 by omega];rfl) (by omega) (by omega)) rfl ?_
   refine S_ (dH_ _ (by first|exact hs|(simp;omega))) rfl g_ zt rfl fun r20 hr20=>?_
   refine Zz 4 ?_
   exact J_ cz_ () (f_ rfl (by unfold be_;(repeat (any_goals split))<;>first|rfl|(simp_all;done)|(exfalso;simp_all;omega)|(exfalso;simp_all;done))) (.refl _) zt
  refine Zz 11 ?_
  exact J_ cz_ () (f_ rfl (by unfold be_;(repeat (any_goals split))<;>first|rfl|(simp_all;done)|(exfalso;simp_all;omega)|(exfalso;simp_all;done))) (.refl _) zt
 refine Zz 14 ?_
 exact J_ cz_ () (f_ rfl (by unfold be_;(repeat (any_goals split))<;>first|rfl|(simp_all;done)|(exfalso;simp_all;omega)|(exfalso;simp_all;done))) (.refl _) zt
theorem qr_ (s:Str) (hs:s.length≤17592186044414):Fn0 Tryz.prog 147 #[str s] (.bool (di_ s)):=by
 refine t_ Tryz.func147 rfl rfl Tryz.ntmps147 rfl fun v0=>?_
 have hsl:=dC_ 46 s
 have hcl:=iS_ 46 s
 refine Zz 8 ?_
 refine q_ (oX_ s 46 hs) rfl g_ zt rfl fun b=>Zz 12 ?_
 refine av_ (ι:={y:Nat // y≤List.length (bk_ 46 s)∧(List.any (List.take y (bk_ 46 s)) fun r=>!bm_ r)=false}) (fun y=>[(2,.bool false),(3,.slice (some ⟨b,0,none⟩) (List.length (bk_ 46 s)) ((bk_ 46 s).length)),(8,.slice (some ⟨b,0,none⟩) (List.length (bk_ 46 s)) ((bk_ 46 s).length)),(9,.int .i64 (List.length (bk_ 46 s):Int)),(10,.int .i64 (y.1:Int))]) (fun y=>([])) (fun y=>[at_ (some ⟨b,0,none⟩) (List.flatMap bw_ (bk_ 46 s))]) (fun y=>List.length (bk_ 46 s) - y.1) ⟨(0:Nat),by simp,by simp⟩ zl g_ zh ?_
 rintro ⟨i,hi_i,hA⟩
 dsimp only at hi_i hA ⊢
 refine Zi 2 (fun hr1=>?_) fun hr1=>?_
 ·refine Zz 10 ?_
  refine O_ (dV_ rfl rfl) rfl fun r2 hr2=>Zz 4 ?_
  exact J_ Tryz.results147 () (f_ rfl (by unfold di_;rw[show (bk_ 46 s).any (fun r=>!bm_ r)=false from by have q:=hA;rw[List.take_of_length_le (by omega)]at q;exact q];subst_vars;rw[Bool.eq_iff_iff];simp<;>omega)) g_ zt
 obtain⟨hlx1,x1,hx1,hmx1⟩:=zge (show i<List.length (bk_ 46 s) by omega)
 refine Zz 11 ?_
 refine d_ (bn_ (ad:=(some ⟨b,0,none⟩)) ai_ rfl zf (G_ aS_ hx1 0 _ rfl)) rfl (Zz 6 ?_)
 refine S_ (dH_ x1 (by have:=fB_ hmx1;omega)) rfl g_ zt rfl fun r3 hr3=>?_
 refine d_ (bj_ rfl) rfl (Zz 2 ?_)
 cases r3
 ·refine Zz 7 ?_
  exact J_ Tryz.results147 () (f_ rfl (by unfold di_;rw[show (bk_ 46 s).any (fun r=>!bm_ r)=true from List.any_eq_true.2 ⟨x1,hmx1,by simp[*]⟩];simp)) g_ zt
 refine Zz 8 ?_
 exact Q_ ⟨i+1,hlx1,by rw[List.take_add_one,hx1];simp only[Option.toList_some,List.any_append,hA];simp[*]⟩ (by dsimp only;omega) zl g_ zh
theorem bB_ (a b:Str):Fn0 Tryz.prog 129 #[str a,str b] (Fc.val (M_ a b)):=by
  refine t_ Tryz.func129 rfl rfl Tryz.ntmps129 rfl fun v0=>?_
  refine Zz 2 ?_
  refine C_ ad_ rfl fun b1=>Zz 6 ?_
  refine d_ (K_ fZ_ rfl rfl) rfl (w_ 0 x_ rfl rfl rfl rfl rfl rfl (Zz 3 ?_))
  exact ej_ () (fun aa v h1 h2=>cd_ (us:=Fc.cells (M_ a b)) 0 Tryz.results129 aI_ x_ rfl rfl rfl aa v h1 h2) g_ zt
theorem eT_ (a r b:Str):Fn0 Tryz.prog 134 #[str a,str r,str b] (Fc.val (ah_ a r b)):=by
  refine t_ Tryz.func134 rfl rfl Tryz.ntmps134 rfl fun v0=>?_
  refine Zz 2 ?_
  refine C_ ad_ rfl fun b1=>Zz 7 ?_
  refine d_ (K_ fZ_ rfl rfl) rfl (w_ 0 x_ rfl rfl rfl rfl rfl rfl (Zz 3 ?_))
  exact ej_ () (fun aa v h1 h2=>cd_ (us:=Fc.cells (ah_ a r b)) 0 Tryz.results134 aI_ x_ rfl rfl rfl aa v h1 h2) g_ zt
theorem fo_ (a r:Str) (lo hi:Int):Fn0 Tryz.prog 149 #[str a,str r,.int .i64 lo,.int .i64 hi] (Fc.val (D_ a r lo hi)):=by
  refine t_ Tryz.func149 rfl rfl Tryz.ntmps149 rfl fun v0=>?_
  refine Zz 2 ?_
  refine C_ ad_ rfl fun b1=>Zz 8 ?_
  refine d_ (K_ fZ_ rfl rfl) rfl (w_ 0 x_ rfl rfl rfl rfl rfl rfl (Zz 3 ?_))
  exact ej_ () (fun aa v h1 h2=>cd_ (us:=Fc.cells (D_ a r lo hi)) 0 Tryz.results149 aI_ x_ rfl rfl rfl aa v h1 h2) g_ zt
theorem ub_ (f:Fc) (hsm:f.sml):Fn0 Tryz.prog 75 #[Fc.val f] (.bool (wf2 f)):=by
 refine t_ Tryz.func75 rfl rfl Tryz.ntmps75 rfl fun v0=>?_
 obtain⟨hsa,hsb,hsr⟩:=hsm
 refine Zz 2 ?_
 refine ag_ rfl rfl fun b1=>Zi 13 (fun hr1=>?_) fun hr1=>?_
 ·refine Zi 6 (fun hr2=>?_) fun hr2=>?_
  ·refine Zi 6 (fun hr3=>?_) fun hr3=>?_
   ·refine Zz 12 ?_
    exact J_ ck_ () (f_ rfl (by have p1:=eq_false hr1;have p2:=eq_false hr2;have p3:=eq_false hr3;simp only[wf2,p1,p2,p3,if_true,if_false,decide_true,decide_false,Bool.and_true,Bool.and_false,Bool.true_and,Bool.false_and,Bool.or_true,Bool.or_false,Bool.true_or,Bool.false_or,Bool.not_true,Bool.not_false,ne_eq,not_true_eq_false,not_false_eq_true,true_and,and_true,false_and,and_false,true_or,or_true,false_or,or_false,ite_true,ite_false,Bool.false_eq_true])) g_ zt
   refine Zz 6 ?_
   refine n_ 37 [0,1] zk zs (Zz 3 ?_)
   refine i_ 2 rfl zk (S_ (gE_ f.a (by omega)) rfl g_ zt rfl fun r4 hr4=>Zz 3 ?_)
   refine n_ 35 [3] zk zs (Zz 2 ?_)
   cases r4
   ·refine n_ 0 [4,5,6,7,8,9,10,11,12,13,14,15,16,17,18,19,20,21,22,23,24,25,26,27,28,29,30,31,32,33,34,35,36,37,38] zk zs (Zz 39 ?_)
    exact J_ ck_ () (f_ rfl (by have p1:=eq_false hr1;have p2:=eq_false hr2;have p3:=eq_true hr3;simp only[wf2,p1,p2,p3,hr4,if_true,if_false,decide_true,decide_false,Bool.and_true,Bool.and_false,Bool.true_and,Bool.false_and,Bool.or_true,Bool.or_false,Bool.true_or,Bool.false_or,Bool.not_true,Bool.not_false,ne_eq,not_true_eq_false,not_false_eq_true,true_and,and_true,false_and,and_false,true_or,or_true,false_or,or_false,ite_true,ite_false,Bool.false_eq_true])) g_ zt
   refine n_ 33 [4,5] zk zs (Zz 3 ?_)
   refine i_ 6 rfl zk (y_ rfl rfl (S_ (dH_ f.r (by omega)) rfl g_ zt rfl fun r5 hr5=>Zz 3 ?_))
   refine n_ 30 [7,8] zk zs (Zz 3 ?_)
   cases r5
   ·refine n_ 0 [9,10,11,12,13,14,15,16,17,18,19,20,21,22,23,24,25,26,27,28,29,30,31,32,33,34,35,36,37,38] zk zs (Zz 34 ?_)
    exact J_ ck_ () (f_ rfl (by have p1:=eq_false hr1;have p2:=eq_false hr2;have p3:=eq_true hr3;simp only[wf2,p1,p2,p3,hr4,hr5,if_true,if_false,decide_true,decide_false,Bool.and_true,Bool.and_false,Bool.true_and,Bool.false_and,Bool.or_true,Bool.or_false,Bool.true_or,Bool.false_or,Bool.not_true,Bool.not_false,ne_eq,not_true_eq_false,not_false_eq_true,true_and,and_true,false_and,and_false,true_or,or_true,false_or,or_false,ite_true,ite_false,Bool.false_eq_true])) g_ zt
   refine n_ 21 [9,10,11,12,13,14,15,16,17] zk zs (Zz 10 ?_)
   refine i_ 18 rfl zk (y_ rfl rfl (q_ (fo_ f.a f.r f.lo f.hi) rfl g_ zt rfl fun _=>Zz 3 ?_))
   refine n_ 17 [19,20,21] zk zs (aC_ rfl rfl rfl (Y_ (p:=f) (q:=(D_ f.a f.r f.lo f.hi)) rfl rfl) rfl fun r6 hr6=>Zz 3 ?_)
   cases r6
   ·replace hr6:=zdf hr6
    refine n_ 0 [22,23,24,25,26,27,28,29,30,31,32,33,34,35,36,37,38] zk zs (Zz 21 ?_)
    exact J_ ck_ () (f_ rfl (by have p1:=eq_false hr1;have p2:=eq_false hr2;have p3:=eq_true hr3;have p6:=eq_false hr6;simp only[wf2,p1,p2,p3,hr4,hr5,p6,if_true,if_false,decide_true,decide_false,Bool.and_true,Bool.and_false,Bool.true_and,Bool.false_and,Bool.or_true,Bool.or_false,Bool.true_or,Bool.false_or,Bool.not_true,Bool.not_false,ne_eq,not_true_eq_false,not_false_eq_true,true_and,and_true,false_and,and_false,true_or,or_true,false_or,or_false,ite_true,ite_false,Bool.false_eq_true])) g_ zt
   replace hr6:=zdt hr6
   refine n_ 12 [22,23,24,25,26] zk zs (Zi 2 (fun hr7=>?_) fun hr7=>?_)
   ·refine Zz 3 ?_
    refine n_ 0 [27,28,29,30,31,32,33,34,35,36,37,38] zk zs (Zz 16 ?_)
    exact J_ ck_ () (f_ rfl (by have p1:=eq_false hr1;have p2:=eq_false hr2;have p3:=eq_true hr3;have p6:=eq_true hr6;have p7:=eq_false hr7;simp only[wf2,p1,p2,p3,hr4,hr5,p6,p7,if_true,if_false,decide_true,decide_false,Bool.and_true,Bool.and_false,Bool.true_and,Bool.false_and,Bool.or_true,Bool.or_false,Bool.true_or,Bool.false_or,Bool.not_true,Bool.not_false,ne_eq,not_true_eq_false,not_false_eq_true,true_and,and_true,false_and,and_false,true_or,or_true,false_or,or_false,ite_true,ite_false,Bool.false_eq_true])) g_ zt
   refine Zz 3 ?_
   refine n_ 5 [27,28,29,30,31,32,33] zk zs (Zi 4 (fun hr8=>?_) fun hr8=>?_)
   ·refine Zz 3 ?_
    refine n_ 0 [34,35,36,37,38] zk zs (Zz 9 ?_)
    exact J_ ck_ () (f_ rfl (by have p1:=eq_false hr1;have p2:=eq_false hr2;have p3:=eq_true hr3;have p6:=eq_true hr6;have p7:=eq_true hr7;have p8:=eq_false hr8;simp only[wf2,p1,p2,p3,hr4,hr5,p6,p7,p8,if_true,if_false,decide_true,decide_false,Bool.and_true,Bool.and_false,Bool.true_and,Bool.false_and,Bool.or_true,Bool.or_false,Bool.true_or,Bool.false_or,Bool.not_true,Bool.not_false,ne_eq,not_true_eq_false,not_false_eq_true,true_and,and_true,false_and,and_false,true_or,or_true,false_or,or_false,ite_true,ite_false,Bool.false_eq_true])) g_ zt
   refine Zz 3 ?_
   refine n_ 0 [34,35,36,37,38] zk zs (Zz 2 ?_)
   refine aC_ rfl rfl rfl (dV_ rfl rfl) rfl fun r9 hr9=>Zz 6 ?_
   exact J_ ck_ () (f_ rfl (by have p1:=eq_false hr1;have p2:=eq_false hr2;have p3:=eq_true hr3;have p6:=eq_true hr6;have p7:=eq_true hr7;have p8:=eq_true hr8;rw[← hr9];simp only[wf2,p1,p2,p3,hr4,hr5,p6,p7,p8,if_true,if_false,decide_true,decide_false,Bool.and_true,Bool.and_false,Bool.true_and,Bool.false_and,Bool.or_true,Bool.or_false,Bool.true_or,Bool.false_or,Bool.not_true,Bool.not_false,ne_eq,not_true_eq_false,not_false_eq_true,true_and,and_true,false_and,and_false,true_or,or_true,false_or,or_false,ite_true,ite_false,Bool.false_eq_true])) g_ zt
  refine Zz 6 ?_
  refine n_ 23 [0,1] zk zs (Zz 3 ?_)
  refine i_ 2 rfl zk (S_ (gE_ f.a (by omega)) rfl g_ zt rfl fun r10 hr10=>Zz 3 ?_)
  refine n_ 21 [3] zk zs (Zz 2 ?_)
  cases r10
  ·refine n_ 0 [4,5,6,7,8,9,10,11,12,13,14,15,16,17,18,19,20,21,22,23,24] zk zs (Zz 25 ?_)
   exact J_ ck_ () (f_ rfl (by have p1:=eq_false hr1;have p2:=eq_true hr2;simp only[wf2,p1,p2,hr10,if_true,if_false,decide_true,decide_false,Bool.and_true,Bool.and_false,Bool.true_and,Bool.false_and,Bool.or_true,Bool.or_false,Bool.true_or,Bool.false_or,Bool.not_true,Bool.not_false,ne_eq,not_true_eq_false,not_false_eq_true,true_and,and_true,false_and,and_false,true_or,or_true,false_or,or_false,ite_true,ite_false,Bool.false_eq_true])) g_ zt
  refine n_ 19 [4,5] zk zs (Zz 3 ?_)
  refine i_ 6 rfl zk (y_ rfl rfl (S_ (gE_ f.b (by omega)) rfl g_ zt rfl fun r11 hr11=>Zz 3 ?_))
  refine n_ 16 [7,8] zk zs (Zz 3 ?_)
  cases r11
  ·refine n_ 0 [9,10,11,12,13,14,15,16,17,18,19,20,21,22,23,24] zk zs (Zz 20 ?_)
   exact J_ ck_ () (f_ rfl (by have p1:=eq_false hr1;have p2:=eq_true hr2;simp only[wf2,p1,p2,hr10,hr11,if_true,if_false,decide_true,decide_false,Bool.and_true,Bool.and_false,Bool.true_and,Bool.false_and,Bool.or_true,Bool.or_false,Bool.true_or,Bool.false_or,Bool.not_true,Bool.not_false,ne_eq,not_true_eq_false,not_false_eq_true,true_and,and_true,false_and,and_false,true_or,or_true,false_or,or_false,ite_true,ite_false,Bool.false_eq_true])) g_ zt
  refine n_ 14 [9,10] zk zs (Zz 3 ?_)
  refine i_ 11 rfl zk (y_ rfl rfl (S_ (qr_ f.r (by omega)) rfl g_ zt rfl fun r12 hr12=>Zz 3 ?_))
  refine n_ 11 [12,13] zk zs (Zz 3 ?_)
  cases r12
  ·refine n_ 0 [14,15,16,17,18,19,20,21,22,23,24] zk zs (Zz 15 ?_)
   exact J_ ck_ () (f_ rfl (by have p1:=eq_false hr1;have p2:=eq_true hr2;simp only[wf2,p1,p2,hr10,hr11,hr12,if_true,if_false,decide_true,decide_false,Bool.and_true,Bool.and_false,Bool.true_and,Bool.false_and,Bool.or_true,Bool.or_false,Bool.true_or,Bool.false_or,Bool.not_true,Bool.not_false,ne_eq,not_true_eq_false,not_false_eq_true,true_and,and_true,false_and,and_false,true_or,or_true,false_or,or_false,ite_true,ite_false,Bool.false_eq_true])) g_ zt
  refine n_ 4 [14,15,16,17,18,19,20] zk zs (Zz 8 ?_)
  refine i_ 21 rfl zk (y_ rfl rfl (q_ (eT_ f.a f.r f.b) rfl g_ zt rfl fun _=>Zz 3 ?_))
  refine n_ 0 [22,23,24] zk zs (aC_ rfl rfl rfl (Y_ (p:=f) (q:=(ah_ f.a f.r f.b)) rfl rfl) rfl fun r13 hr13=>Zz 6 ?_)
  exact J_ ck_ () (f_ rfl (by have p1:=eq_false hr1;have p2:=eq_true hr2;rw[← hr13];simp only[wf2,p1,p2,hr10,hr11,hr12,if_true,if_false,decide_true,decide_false,Bool.and_true,Bool.and_false,Bool.true_and,Bool.false_and,Bool.or_true,Bool.or_false,Bool.true_or,Bool.false_or,Bool.not_true,Bool.not_false,ne_eq,not_true_eq_false,not_false_eq_true,true_and,and_true,false_and,and_false,true_or,or_true,false_or,or_false,ite_true,ite_false,Bool.false_eq_true])) g_ zt
 refine Zz 6 ?_
 refine n_ 16 [0,1] zk zs (Zz 3 ?_)
 refine i_ 2 rfl zk (S_ (gE_ f.a (by omega)) rfl g_ zt rfl fun r14 hr14=>Zz 3 ?_)
 refine n_ 14 [3] zk zs (Zz 2 ?_)
 cases r14
 ·refine n_ 0 [4,5,6,7,8,9,10,11,12,13,14,15,16,17] zk zs (Zz 18 ?_)
  exact J_ ck_ () (f_ rfl (by have p1:=eq_true hr1;simp only[wf2,p1,hr14,if_true,if_false,decide_true,decide_false,Bool.and_true,Bool.and_false,Bool.true_and,Bool.false_and,Bool.or_true,Bool.or_false,Bool.true_or,Bool.false_or,Bool.not_true,Bool.not_false,ne_eq,not_true_eq_false,not_false_eq_true,true_and,and_true,false_and,and_false,true_or,or_true,false_or,or_false,ite_true,ite_false,Bool.false_eq_true])) g_ zt
 refine n_ 12 [4,5] zk zs (Zz 3 ?_)
 refine i_ 6 rfl zk (y_ rfl rfl (S_ (gE_ f.b (by omega)) rfl g_ zt rfl fun r15 hr15=>Zz 3 ?_))
 refine n_ 9 [7,8] zk zs (Zz 3 ?_)
 cases r15
 ·refine n_ 0 [9,10,11,12,13,14,15,16,17] zk zs (Zz 13 ?_)
  exact J_ ck_ () (f_ rfl (by have p1:=eq_true hr1;simp only[wf2,p1,hr14,hr15,if_true,if_false,decide_true,decide_false,Bool.and_true,Bool.and_false,Bool.true_and,Bool.false_and,Bool.or_true,Bool.or_false,Bool.true_or,Bool.false_or,Bool.not_true,Bool.not_false,ne_eq,not_true_eq_false,not_false_eq_true,true_and,and_true,false_and,and_false,true_or,or_true,false_or,or_false,ite_true,ite_false,Bool.false_eq_true])) g_ zt
 refine n_ 4 [9,10,11,12,13] zk zs (Zz 6 ?_)
 refine i_ 14 rfl zk (y_ rfl rfl (q_ (bB_ f.a f.b) rfl g_ zt rfl fun _=>Zz 3 ?_))
 refine n_ 0 [15,16,17] zk zs (aC_ rfl rfl rfl (Y_ (p:=f) (q:=(M_ f.a f.b)) rfl rfl) rfl fun r16 hr16=>Zz 6 ?_)
 exact J_ ck_ () (f_ rfl (by have p1:=eq_true hr1;rw[← hr16];simp only[wf2,p1,hr14,hr15,if_true,if_false,decide_true,decide_false,Bool.and_true,Bool.and_false,Bool.true_and,Bool.false_and,Bool.or_true,Bool.or_false,Bool.true_or,Bool.false_or,Bool.not_true,Bool.not_false,ne_eq,not_true_eq_false,not_false_eq_true,true_and,and_true,false_and,and_false,true_or,or_true,false_or,or_false,ite_true,ite_false,Bool.false_eq_true])) g_ zt
theorem qB_ {P:Program} {N:Nf} {fr:Fr} {H:Hp} {Γ:List Fct} {ty t:TypeId} {x:Operand} {u:Value} {fs:Array Field} (hu:∀ w,(underlying t).run P w=.ok (.struct fs) w) (hx:Fr.ev fr x=some u):Yld P N fr H Γ (.makeInterface t x) ty (.iface t u) :=
  fun a v h1 _ _ _ _ _=>by simp[execOp,h1.ev hx,Instr.makeInterface,hu]
theorem sD_:hy_ Tryz.prog 156 [] []:=⟨_,Tryz.zeroValue156,Tryz.runUnderlying156,fun w=>by simp[]⟩
theorem need_t:TriX Tryz.prog 43 #[.bool true] [] [] (fun _:{u:Unit // true=true}=>.tuple #[]) (fun _=>[]) (fun _=>[]) (true=false):=by
  refine bc_ Tryz.func43 rfl rfl Tryz.ntmps43 rfl fun v0=>?_
  refine Zz 3 ?_
  refine d_ (bj_ rfl) rfl (Zz 5 ?_)
  refine endX ?_
  exact cW_ Tryz.results43 ⟨(),rfl⟩ rfl g_ zt
theorem need_f:TriX Tryz.prog 43 #[.bool false] [] [] (fun _:{u:Unit // false=true}=>.tuple #[]) (fun _=>[]) (fun _=>[]) (false=false):=by
  refine bc_ Tryz.func43 rfl rfl Tryz.ntmps43 rfl fun v0=>?_
  refine Zz 3 ?_
  refine d_ (bj_ rfl) rfl (Zz 4 ?_)
  refine d_ (K_ sD_ rfl rfl) rfl (d_ (qB_ Tryz.runUnderlying156 rfl) rfl ?_)
  exact pV_ rfl (cF_ rfl)
theorem dI_ (ok:Bool):TriX Tryz.prog 43 #[.bool ok] [] [] (fun _:{u:Unit // ok=true}=>.tuple #[]) (fun _=>[]) (fun _=>[]) (ok=false):=by
 cases ok
 ·exact need_f
 exact need_t
end Go.Proofs.YtaffcjgphlhppaaGreatDoor
namespace Go.Vs
open Go Go.Sx
def Ky.cells (k:Ky):List Value:=[.int .i64 k.kind,str k.role,str k.atom]
theorem Ky.cells_len (k:Ky):k.cells.length=3:=rfl
def Ky.val (k:Ky):Value:=.agg k.cells.toArray
def nb_ (s:ha_):List Value:=[str s.1,str s.2]
def hb_ (s:ha_):Value:=.agg (nb_ s).toArray
def Ky.eqb (p q:Ky):Bool:=(p.kind==q.kind)&&((p.role==q.role)&&((p.atom==q.atom)&&true))
theorem Ky.eqb_eq (p q:Ky):p.eqb q=decide (p=q):=by
  rw[Bool.eq_iff_iff];cases p;cases q;simp[Ky.eqb]
def tU_ (p q:ha_):Bool:=(p.1==q.1)&&((p.2==q.2)&&true)
theorem qS_ (p q:ha_):tU_ p q=decide (p=q):=by
  rw[Bool.eq_iff_iff];cases p;cases q;simp[tU_]
theorem Fc.cells_one (p:Fc):p.cells.all Value.oneCell'=true:=rfl
end Go.Vs
namespace Go.Sx
open Go Go.Vs
structure Emt (P:Program) (tF:TypeId) where
  stp:Fc→List Fc→List Fc
  kof:List Fc→List Fc
  St:List Fc→List Fc→Hp→Prop
  fn:FuncId
  caps:List Value
  ef:Fct
  kb:Nat
  fb:Nat
  grows:Grows stp kof
  emit:∀ f nw fm H,St nw fm H→Tri P fn (f.val::caps).toArray H [ef] (fun _:{H':Hp // St (stp f nw) fm H'}=>.tuple #[]) (fun y=>y.1) (fun _=>[])
  known:∀ {nw fm H},St nw fm H→∃ es c,(kb,Obj.map es c)∈H∧SetE Fc.val es (kof nw)
  firm:∀ {nw fm H},St nw fm H→∃ es c q,(fb,Obj.map es c)∈H∧SetE Fc.val es q∧∀ f,f∈q↔f∈fm
  setf:∀ {nw fm H} (f:Fc),St nw fm H→∃ es c q Hr,H.Perm ((fb,Obj.map es c)::Hr)∧SetE Fc.val es q∧(∀ f,f∈q↔f∈fm)∧∀ es' c',SetE Fc.val es' (if f∈q then q else q++[f])→∃ H',St nw (f::fm) H'∧H'.Perm ((fb,Obj.map es' c')::Hr)
section
variable {P:Program} {N:Nf} {v0:Vw} {H0:Hp} {R:Exit→Act→World→Prop} {K:List Kt} {fr:Fr} {H:Hp} {Γ:List Fct}
variable {ops:Array Oper} {l:List Oper} {d:Nat} {ty:TypeId} {ps:String} {af:Array Edge} {tF:TypeId} {E:Emt P tF} {nw fm:List Fc} {Hs F:Hp}
theorem kp_ {b:Nat} {o:Obj} {v:Vw} (hp:H.Perm (Hs++F)) (hm:(b,o)∈Hs) (h:v.sat H):v.w.heap[b]? = some o:=(h.own _ (hp.mem_iff.2 (List.mem_append_left _ hm))).1
theorem hB_ {t et:TypeId} {x y:Operand} {f:Fc} (hS:E.St nw fm Hs) (hK:KeyT P tF Fc.val) (hu:∀ w,(underlying t).run P w=.ok (.map tF et) w) (hz:∀ w,(zeroValue et).run P w=.ok (.bool false) w) (hx:Fr.ev fr x=some (.map (some E.kb))) (hy:Fr.ev fr y=some f.val) (hp:H.Perm (Hs++F)) :
    Yld P N fr H Γ (.lookup t x y false) ty (.bool (decide (f∈E.kof nw))):=by
  obtain⟨es,c,g1,g2⟩:=E.known hS
  exact dL_ hK hu hz hx hy g2 fun v h _=>kp_ hp g1 h
theorem mU_ {t et:TypeId} {x y:Operand} {f:Fc} (hS:E.St nw fm Hs) (hK:KeyT P tF Fc.val) (hu:∀ w,(underlying t).run P w=.ok (.map tF et) w) (hz:∀ w,(zeroValue et).run P w=.ok (.bool false) w) (hx:Fr.ev fr x=some (.map (some E.fb))) (hy:Fr.ev fr y=some f.val) (hp:H.Perm (Hs++F)) :
    Yld P N fr H Γ (.lookup t x y false) ty (.bool (decide (f∈fm))):=by
  obtain⟨es,c,q,g1,g2,g3⟩:=E.firm hS
  have:=dL_ (P:=P) (N:=N) (H:=H) (Γ:=Γ) (ty:=ty) hK hu hz hx hy g2 fun v h _=>kp_ hp g1 h
  have e:decide (f∈q)=decide (f∈fm):=by rw[decide_eq_decide];exact g3 f
  rw[← e];exact this
theorem rv_ {o:Op} {t et:TypeId} {x y z:Operand} {f:Fc} (hS:E.St nw fm Hs) (hK:KeyT P tF Fc.val) (ho:o=.insert t x y z∨o=.mapUpdate t x y z) (hu:∀ w,(underlying t).run P w=.ok (.map tF et) w)
    (hx:Fr.ev fr x=some (.map (some E.fb))) (hy:Fr.ev fr y=some f.val) (hz:Fr.ev fr z=some (.bool true)) (hp:H.Perm (Hs++F))
    (hk:∀ Hs',E.St nw (f::fm) Hs'→Ops P R N v0 H0 ops l K fr (Hs'++F) Γ):Ops P R N v0 H0 ops (⟨none,o,ty,ps,af,none⟩::l) K fr H Γ:=by
  obtain⟨es,c,q,Hr,p1,p2,p3,p4⟩:=E.setf f hS
  refine ac_ (H':=(E.fb,.map es c)::(Hr++F)) (hp.trans (by have:=p1.append_right F;simpa using this)) ?_
  refine gp_ 0 hK ho hu hx hy hz rfl p2 fun es' c' hs'=>?_
  obtain⟨H',q1,q2⟩:=p4 es' c' hs'
  simp only[List.set_cons_zero]
  exact ac_ (by have:=(q2.append_right F).symm;simpa using this) (hk H' q1)
end
structure EngB where
  g:Nat
  pb:Nat
  ab:Nat
  ub:Nat
  ob:Nat
  ib:Nat
  rb:Nat
  sb:Nat
  lad:Option Addr
  lcap:Nat
  lps:List Str
structure EngA where
  p:Ky→Option Addr×Nat
  a:Str→Option Addr×Nat
  u:Str→Option Addr×Nat
  o:ha_→Option Addr×Nat
  i:ha_→Option Addr×Nat
  r:ha_→Option Addr×Nat
  s:ha_→Option Addr×Nat
def EngB.cells (B:EngB) {P:Program} {tF:TypeId} (E:Emt P tF):List Value :=
  [.map (some B.pb),.slice B.lad B.lps.length B.lcap,.map (some E.kb),.func (.func E.fn) #[] E.caps.toArray,.map (some B.ab),.map (some B.ub),.map (some B.ob),.map (some B.ib),.map (some B.rb),.map (some B.sb),.map (some E.fb)]
structure IxH where
  a:Hp
  u:Hp
  o:Hp
  i:Hp
  r:Hp
  s:Hp
def IxO (tS tF:TypeId) (B:EngB) (x:Ix) (y:IxH):Prop :=
  dK_ str bw_ tS 1 x.above B.ab y.a∧dK_ str bw_ tS 1 x.under B.ub y.u∧dK_ hb_ bw_ tS 1 x.frm B.ob y.o∧dK_ hb_ bw_ tS 1 x.into B.ib y.i∧dK_ hb_ Fc.cells tF 6 x.ranges B.rb y.r∧dK_ hb_ Fc.cells tF 6 x.firms B.sb y.s
end Go.Sx
namespace Go.Proofs.YtaffcjgphlhppaaGreatDoor
open Go Go.Sx Go.Proofs
attribute [local irreducible] Code.wp wpList wpAnyH
open Go.Vs
theorem eqKy (p q:Ky) (w:World):(Op.equalIn 10000 191 (Ky.val p) (Ky.val q)).run Tryz.prog w=.ok (decide (p=q)) w:=by
  have h:=run_equalIn_struct (P:=Tryz.prog) w 9999 191 (Ky.cells p).toArray (Ky.cells q).toArray (by simp only[Program.fieldsOf,Tryz.underlying191]) Tryz.stoodInHeld191
  refine h.trans ?_
  rw[← Ky.eqb_eq]
  simp only[Program.fieldsOf,Tryz.underlying191]
  exact bW_ rfl aK_ rfl rfl (eqI bh_ w) (bW_ rfl ai_ rfl rfl (eqS aM_ w) (bW_ rfl ai_ rfl rfl (eqS aM_ w) (jQ_ w)))
theorem eqSpot (p q:ha_) (w:World):(Op.equalIn 10000 171 (hb_ p) (hb_ q)).run Tryz.prog w=.ok (decide (p=q)) w:=by
  have h:=run_equalIn_struct (P:=Tryz.prog) w 9999 171 (nb_ p).toArray (nb_ q).toArray (by simp only[Program.fieldsOf,Tryz.underlying171]) Tryz.stoodInHeld171
  refine h.trans ?_
  rw[← qS_]
  simp only[Program.fieldsOf,Tryz.underlying171]
  exact bW_ rfl ai_ rfl rfl (eqS aM_ w) (bW_ rfl ai_ rfl rfl (eqS aM_ w) (jQ_ w))
theorem okKy (p:Ky):iU_ Tryz.prog 191 (Ky.val p):=fun e w=>by
 have hi:∀ (n:Int) (w:World),(Instr.checkKey e (9998+1) 3 (.int .i64 n)).run Tryz.prog w=.ok () w:=fun n w=>MapKept.run_checkKey (d:=.int .i64) bh_ (by simp[MapKept.IsKey]) e 9998
 have hs:∀ (n:Str) (w:World),(Instr.checkKey e (9998+1) 9 (str n)).run Tryz.prog w=.ok () w:=fun n w=>MapKept.run_checkKey (d:=.string) aM_ (by simp[MapKept.IsKey,str]) e 9998
 refine ckF (n:=9999) Tryz.underlying191 fun f hf=>?_
 simp only[List.mem_cons,List.not_mem_nil,or_false]at hf
 rcases hf with rfl|rfl|rfl
 ·exact⟨rfl,aK_,_,rfl,hi _⟩
 ·exact⟨rfl,ai_,_,rfl,hs _⟩
 exact⟨rfl,ai_,_,rfl,hs _⟩
theorem okSpot (p:ha_):iU_ Tryz.prog 171 (hb_ p):=fun e w=>by
 have hi:∀ (n:Int) (w:World),(Instr.checkKey e (9998+1) 3 (.int .i64 n)).run Tryz.prog w=.ok () w:=fun n w=>MapKept.run_checkKey (d:=.int .i64) bh_ (by simp[MapKept.IsKey]) e 9998
 have hs:∀ (n:Str) (w:World),(Instr.checkKey e (9998+1) 9 (str n)).run Tryz.prog w=.ok () w:=fun n w=>MapKept.run_checkKey (d:=.string) aM_ (by simp[MapKept.IsKey,str]) e 9998
 refine ckF (n:=9999) Tryz.underlying171 fun f hf=>?_
 simp only[List.mem_cons,List.not_mem_nil,or_false]at hf
 rcases hf with rfl|rfl
 ·exact⟨rfl,ai_,_,rfl,hs _⟩
 exact⟨rfl,ai_,_,rfl,hs _⟩
theorem okFc (p:Fc):iU_ Tryz.prog 24 p.val:=fun e w=>by
 have hi:∀ (n:Int) (w:World),(Instr.checkKey e (9998+1) 3 (.int .i64 n)).run Tryz.prog w=.ok () w:=fun n w=>MapKept.run_checkKey (d:=.int .i64) bh_ (by simp[MapKept.IsKey]) e 9998
 have hs:∀ (n:Str) (w:World),(Instr.checkKey e (9998+1) 9 (str n)).run Tryz.prog w=.ok () w:=fun n w=>MapKept.run_checkKey (d:=.string) aM_ (by simp[MapKept.IsKey,str]) e 9998
 refine ckF (n:=9999) lq_ fun f hf=>?_
 simp only[List.mem_cons,List.not_mem_nil,or_false]at hf
 rcases hf with rfl|rfl|rfl|rfl|rfl|rfl
 ·exact⟨rfl,aK_,_,rfl,hi _⟩
 ·exact⟨rfl,ai_,_,rfl,hs _⟩
 ·exact⟨rfl,ai_,_,rfl,hs _⟩
 ·exact⟨rfl,ai_,_,rfl,hs _⟩
 ·exact⟨rfl,aK_,_,rfl,hi _⟩
 exact⟨rfl,aK_,_,rfl,hi _⟩
theorem he_:KeyT Tryz.prog 191 Ky.val:=fT_ (K:=Ky) Tryz.underlying191 okKy (fun p q w=>eqKy p q w) fun k=>iz_ (l:=Ky.cells k) fun v hv=>by
 simp only[Ky.cells,List.mem_cons,List.not_mem_nil,or_false]at hv
 rcases hv with rfl|rfl|rfl
 ·exact eY_ _ _
 ·exact do_ _ _
 exact do_ _ _
theorem cO_:KeyT Tryz.prog 171 hb_:=fT_ (K:=ha_) Tryz.underlying171 okSpot (fun p q w=>eqSpot p q w) fun k=>iz_ (l:=nb_ k) fun v hv=>by
 simp only[nb_,List.mem_cons,List.not_mem_nil,or_false]at hv
 rcases hv with rfl|rfl
 ·exact do_ _ _
 exact do_ _ _
theorem iI_:KeyT Tryz.prog 24 Fc.val:=fT_ (K:=Fc) lq_ okFc (fun p q w=>eqFc p q w) fun k=>iz_ (l:=Fc.cells k) fun v hv=>by
 simp only[Fc.cells,List.mem_cons,List.not_mem_nil,or_false]at hv
 rcases hv with rfl|rfl|rfl|rfl|rfl|rfl
 ·exact eY_ _ _
 ·exact do_ _ _
 ·exact do_ _ _
 ·exact do_ _ _
 ·exact eY_ _ _
 exact eY_ _ _
theorem rL_:KeyT Tryz.prog 73 Pc.val:=fT_ (K:=Pc) ln_ keyPc (fun p q w=>eqPc p q w) fun k=>iz_ (l:=Pc.cells k) fun v hv=>by
 simp only[Pc.cells,List.mem_cons,List.not_mem_nil,or_false]at hv
 rcases hv with rfl|rfl|rfl|rfl|rfl|rfl|rfl|rfl|rfl|rfl
 ·exact eY_ _ _
 ·exact do_ _ _
 ·exact do_ _ _
 ·exact do_ _ _
 ·exact do_ _ _
 ·exact do_ _ _
 ·exact do_ _ _
 ·exact eY_ _ _
 ·exact eY_ _ _
 exact eY_ _ _
theorem iH_:KeyT Tryz.prog 9 str:=nL_ aM_
theorem jm_:Elt Tryz.prog 47 24 6 72:=kS_ Tryz.underlying47 (z:=.agg #[.int .i64 0,str [],str [],str [],.int .i64 0,.int .i64 0]) (by kernel_rfl) rfl (by decide)
theorem elt_pc:Elt Tryz.prog 22 73 10 128:=kS_ Tryz.underlying22 (z:=.agg #[.int .i64 0,str [],str [],str [],str [],str [],str [],.int .i64 0,.int .i64 0,.int .i64 0]) (by kernel_rfl) rfl (by decide)
theorem dm_:Elt Tryz.prog 46 9 1 16:=kS_ lo_ (z:=.string ⟨#[]⟩) (by kernel_rfl) rfl (by decide)
theorem ex_:hy_ Tryz.prog 191 [(0,1),(1,1),(2,1)] [.int .i64 0,str [],str []]:=⟨_,Tryz.zeroValue191,Tryz.runUnderlying191,fun w=>by simp[aq_,al_]⟩
theorem fm_:hy_ Tryz.prog 171 [(0,1),(1,1)] [str [],str []]:=⟨_,co_,Tryz.runUnderlying171,fun w=>by simp[al_]⟩
theorem sF_:hy_ Tryz.prog 111 [(0,1),(1,1),(2,1),(3,1),(4,1),(5,1),(6,1),(7,1),(8,1),(9,1),(10,1)] [.map none,.slice none 0 0,.map none,.nilFunc,.map none,.map none,.map none,.map none,.map none,.map none,.map none]:=⟨_,Tryz.zeroValue111,cv_,fun w=>by simp[fe_,Tryz.sizeOf104,Tryz.sizeOf105,eA_,Tryz.sizeOf107,Tryz.sizeOf108,Tryz.sizeOf109]⟩
theorem cJ_ (s:Str):(bw_ s).all Value.oneCell'=true:=rfl
theorem kJ_ (s:Int):(dY_ s).all Value.oneCell'=true:=rfl
def gF (B:EngB) (E:Emt Tryz.prog 24):Fct:=by_ B.g (.cells (B.cells E).toArray 111 (0,0))
def pF (B:EngB) (pm:List (Ky×Pc)) (A:EngA):Fct:=mlF Tryz.prog 191 Ky.val Pc.cells B.pb pm A.p
def aF (B:EngB) (x:Ix) (A:EngA):Fct:=mlF Tryz.prog 9 str bw_ B.ab x.above A.a
def uF (B:EngB) (x:Ix) (A:EngA):Fct:=mlF Tryz.prog 9 str bw_ B.ub x.under A.u
def oF (B:EngB) (x:Ix) (A:EngA):Fct:=mlF Tryz.prog 171 hb_ bw_ B.ob x.frm A.o
def iF (B:EngB) (x:Ix) (A:EngA):Fct:=mlF Tryz.prog 171 hb_ bw_ B.ib x.into A.i
def rF (B:EngB) (x:Ix) (A:EngA):Fct:=mlF Tryz.prog 171 hb_ Fc.cells B.rb x.ranges A.r
def sF (B:EngB) (x:Ix) (A:EngA):Fct:=mlF Tryz.prog 171 hb_ Fc.cells B.sb x.firms A.s
end Go.Proofs.YtaffcjgphlhppaaGreatDoor
namespace Go.Proofs.YtaffcjgphlhppaaGreatDoor
open Go Go.Sx Go.Proofs
attribute [local irreducible] Code.wp wpList wpAnyH
open Go.Vs
theorem eE_ {α β:Type} {g:α→β} {l:List α} {i:Nat} {x:α} (h:l[i]? = some x):List.map g (List.take (i+1) l)=List.map g (List.take i l)++[g x]:=by
  rw[List.take_add_one,h,Option.toList_some,List.map_append];rfl
theorem fA_ (a b:Str):Fn0 Tryz.prog 55 #[str a,str b] (Fc.val (M_ a b)):=by
  refine t_ Tryz.func55 rfl rfl Tryz.ntmps55 rfl fun v0=>?_
  refine Zz 2 ?_
  refine C_ ad_ rfl fun b1=>Zz 6 ?_
  refine d_ (K_ fZ_ rfl rfl) rfl (w_ 0 x_ rfl rfl rfl rfl rfl rfl (Zz 3 ?_))
  exact ej_ () (fun aa v h1 h2=>cd_ (us:=Fc.cells (M_ a b)) 0 Tryz.results55 aI_ x_ rfl rfl rfl aa v h1 h2) g_ zt
theorem kE_ (a r b:Str):Fn0 Tryz.prog 99 #[str a,str r,str b] (Fc.val (ah_ a r b)):=by
  refine t_ Tryz.func99 rfl rfl Tryz.ntmps99 rfl fun v0=>?_
  refine Zz 2 ?_
  refine C_ ad_ rfl fun b1=>Zz 7 ?_
  refine d_ (K_ fZ_ rfl rfl) rfl (w_ 0 x_ rfl rfl rfl rfl rfl rfl (Zz 3 ?_))
  exact ej_ () (fun aa v h1 h2=>cd_ (us:=Fc.cells (ah_ a r b)) 0 Tryz.results99 aI_ x_ rfl rfl rfl aa v h1 h2) g_ zt
theorem kf_ (a r:Str) (lo hi:Int):Fn0 Tryz.prog 56 #[str a,str r,.int .i64 lo,.int .i64 hi] (Fc.val (D_ a r lo hi)):=by
  refine t_ Tryz.func56 rfl rfl Tryz.ntmps56 rfl fun v0=>?_
  refine Zz 2 ?_
  refine C_ ad_ rfl fun b1=>Zz 8 ?_
  refine d_ (K_ fZ_ rfl rfl) rfl (w_ 0 x_ rfl rfl rfl rfl rfl rfl (Zz 3 ?_))
  exact ej_ () (fun aa v h1 h2=>cd_ (us:=Fc.cells (D_ a r lo hi)) 0 Tryz.results56 aI_ x_ rfl rfl rfl aa v h1 h2) g_ zt
theorem qp_ (B:EngB) (E:Emt Tryz.prog 24) (A:EngA) (pm:List (Ky×Pc)) (x:Ix) (f:Fc) (nw fm:List Fc) (Hs:Hp) (hS:E.St nw fm Hs) (hpl:∀ k,(lat pm k).length≤1000000000) (hxl:∀ k,(lat x.above k).length≤1000000000∧(lat x.under k).length≤1000000000) (hyl:∀ k,(lat x.frm k).length≤1000000000∧(lat x.into k).length≤1000000000∧(lat x.ranges k).length≤1000000000∧(lat x.firms k).length≤1000000000):Tri Tryz.prog 100 #[zp_ B.g 0,Fc.val f] Hs [gF B E,pF B pm A,aF B x A,uF B x A,oF B x A,iF B x A,rF B x A,sF B x A,E.ef] (fun _:{H':Hp // E.St (emits E.stp (gD_ pm f) nw) fm H'}=>.tuple #[]) (fun y=>y.1) (fun _=>[]):=by
 refine t_ Tryz.func100 rfl rfl Tryz.ntmps100 rfl fun v0=>?_
 refine Zz 2 ?_
 refine ag_ rfl rfl fun b1=>Zz 4 ?_
 refine n_ 0 [0,1,2,3,4,5,6,7,8,9] zk zs (Zz 6 ?_)
 refine Z_ rfl (K_ ex_ rfl rfl) rfl (Z_ rfl (cb_ (k:=(Ky.mk 1 [] f.b)) (adr:=A.p) he_ bM_ cH_ rfl rfl zf) rfl (Zz 6 ?_))
 refine av_ (ι:={y:Nat×Hp // y.1≤List.length (lat pm (Ky.mk 1 [] f.b))∧E.St (emits E.stp (List.map (fun y=>M_ f.a y.c) (List.take y.1 (lat pm (Ky.mk 1 [] f.b)))) nw) fm y.2}) (fun y=>[(0,zp_ B.g 0),(3,zp_ b1 0),(13,.slice (Prod.fst (A.p (Ky.mk 1 [] f.b))) (List.length (lat pm (Ky.mk 1 [] f.b))) (Prod.snd (A.p (Ky.mk 1 [] f.b)))),(14,.int .i64 (List.length (lat pm (Ky.mk 1 [] f.b)):Int)),(15,.int .i64 (y.1.1:Int))]) (fun y=>((b1,.cells #[.int .i64 f.kind,str f.a,str f.b,str f.r,.int .i64 f.lo,.int .i64 f.hi] 24 (0,0))::y.1.2)) (fun y=>[gF B E,pF B pm A,aF B x A,uF B x A,oF B x A,iF B x A,rF B x A,sF B x A,E.ef]) (fun y=>List.length (lat pm (Ky.mk 1 [] f.b)) - y.1.1) ⟨((0:Nat),Hs),by simp,by exact hS⟩ zl zp zh ?_
 rintro ⟨⟨i,Hs_i⟩,hi_i,hS_i⟩
 dsimp only at hi_i hS_i ⊢
 have hb_i:=hpl (Ky.mk 1 [] f.b)
 refine Zi 2 (fun hr1=>?_) fun hr1=>?_
 ·refine Zz 6 ?_
  exact cW_ Tryz.results100 ⟨Hs_i,by unfold gD_;rw[List.take_of_length_le (by omega)]at hS_i;exact hS_i⟩ rfl P_ zt
 obtain⟨hlx1,x1,hx1,hmx1⟩:=zge (show i<List.length (lat pm (Ky.mk 1 [] f.b)) by omega)
 refine Zz 10 ?_
 refine d_ (X_ aJ_ am_ rfl rfl (fun v _ h=>I_ (n:=10) Pc.cells_len (by decide) (by exact (bs_ h.2.1 (Ky.mk 1 [] f.b))) hx1) (by omega) (by first|omega|(simp;done))) rfl ?_
 refine d_ (aA_ (ad:=(Prod.fst (A.p (Ky.mk 1 [] f.b)))) (us:=Pc.cells x1) dJ_ am_ rfl (fun v _ h=>by exact (bs_ h.2.1 (Ky.mk 1 [] f.b))) (Pc.cells_len _) (G_ Pc.cells_len hx1)) rfl (C_ bv_ rfl fun b2=>w_ 0 am_ rfl rfl rfl rfl rfl rfl (Zz 2 ?_))
 refine ax_ ((b2,.cells #[.int .i64 x1.kind,str x1.a,str x1.b,str x1.c,str x1.r,str x1.s,str x1.t,.int .i64 x1.lo,.int .i64 x1.hi,.int .i64 x1.frm] 73 (0,0))::((b1,.cells #[.int .i64 f.kind,str f.a,str f.b,str f.r,.int .i64 f.lo,.int .i64 f.hi] 24 (0,0))::[])) zk ?_
 refine n_ 2 [0,1,2,3,4,5,6,7] zk zs (Zz 9 ?_)
 refine i_ 8 rfl zk (q_ (fA_ f.a x1.c) rfl g_ zt rfl fun _=>Zz 3 ?_)
 refine i_ 9 rfl zk (aR_ (first:=[]) (cap:=E.caps) (E.emit (M_ f.a x1.c) (emits E.stp (List.map (fun y=>M_ f.a y.c) (List.take i (lat pm (Ky.mk 1 [] f.b)))) nw) fm Hs_i hS_i) rfl rfl (c_ P_) zf rfl fun⟨Hs1,hS1⟩=>?_)
 dsimp only
 refine Zz 10 ?_
 exact Q_ ⟨(i+1,Hs1),hlx1,(by rw[eE_ hx1,aF_];exact hS1)⟩ (by dsimp only;omega) zl zp zh
theorem some_c (B:EngB) (E:Emt Tryz.prog 24) (A:EngA) (pm:List (Ky×Pc)) (x:Ix) (f:Fc) (nw fm:List Fc) (Hs:Hp) (hS:E.St nw fm Hs) (hpl:∀ k,(lat pm k).length≤1000000000) (hxl:∀ k,(lat x.above k).length≤1000000000∧(lat x.under k).length≤1000000000) (hyl:∀ k,(lat x.frm k).length≤1000000000∧(lat x.into k).length≤1000000000∧(lat x.ranges k).length≤1000000000∧(lat x.firms k).length≤1000000000):Tri Tryz.prog 102 #[zp_ B.g 0,Fc.val f] Hs [gF B E,pF B pm A,aF B x A,uF B x A,oF B x A,iF B x A,rF B x A,sF B x A,E.ef] (fun _:{H':Hp // E.St (emits E.stp (ly_ pm f) nw) fm H'}=>.tuple #[]) (fun y=>y.1) (fun _=>[]):=by
 refine t_ Tryz.func102 rfl rfl Tryz.ntmps102 rfl fun v0=>?_
 refine Zz 2 ?_
 refine ag_ rfl rfl fun b1=>Zz 4 ?_
 refine n_ 0 [0,1,2,3,4,5,6,7,8,9] zk zs (Zz 6 ?_)
 refine Z_ rfl (K_ ex_ rfl rfl) rfl (Z_ rfl (cb_ (k:=(Ky.mk 3 [] f.b)) (adr:=A.p) he_ bM_ cH_ rfl rfl zf) rfl (Zz 6 ?_))
 refine av_ (ι:={y:Nat×Hp // y.1≤List.length (lat pm (Ky.mk 3 [] f.b))∧E.St (emits E.stp (List.map (fun y=>ah_ f.a y.r y.c) (List.take y.1 (lat pm (Ky.mk 3 [] f.b)))) nw) fm y.2}) (fun y=>[(0,zp_ B.g 0),(3,zp_ b1 0),(13,.slice (Prod.fst (A.p (Ky.mk 3 [] f.b))) (List.length (lat pm (Ky.mk 3 [] f.b))) (Prod.snd (A.p (Ky.mk 3 [] f.b)))),(14,.int .i64 (List.length (lat pm (Ky.mk 3 [] f.b)):Int)),(15,.int .i64 (y.1.1:Int))]) (fun y=>((b1,.cells #[.int .i64 f.kind,str f.a,str f.b,str f.r,.int .i64 f.lo,.int .i64 f.hi] 24 (0,0))::y.1.2)) (fun y=>[gF B E,pF B pm A,aF B x A,uF B x A,oF B x A,iF B x A,rF B x A,sF B x A,E.ef]) (fun y=>List.length (lat pm (Ky.mk 3 [] f.b)) - y.1.1) ⟨((0:Nat),Hs),by simp,by exact hS⟩ zl zp zh ?_
 rintro ⟨⟨i,Hs_i⟩,hi_i,hS_i⟩
 dsimp only at hi_i hS_i ⊢
 have hb_i:=hpl (Ky.mk 3 [] f.b)
 refine Zi 2 (fun hr1=>?_) fun hr1=>?_
 ·refine Zz 6 ?_
  exact cW_ Tryz.results102 ⟨Hs_i,by unfold ly_;rw[List.take_of_length_le (by omega)]at hS_i;exact hS_i⟩ rfl P_ zt
 obtain⟨hlx1,x1,hx1,hmx1⟩:=zge (show i<List.length (lat pm (Ky.mk 3 [] f.b)) by omega)
 refine Zz 10 ?_
 refine d_ (X_ aJ_ am_ rfl rfl (fun v _ h=>I_ (n:=10) Pc.cells_len (by decide) (by exact (bs_ h.2.1 (Ky.mk 3 [] f.b))) hx1) (by omega) (by first|omega|(simp;done))) rfl ?_
 refine d_ (aA_ (ad:=(Prod.fst (A.p (Ky.mk 3 [] f.b)))) (us:=Pc.cells x1) dJ_ am_ rfl (fun v _ h=>by exact (bs_ h.2.1 (Ky.mk 3 [] f.b))) (Pc.cells_len _) (G_ Pc.cells_len hx1)) rfl (C_ bv_ rfl fun b2=>w_ 0 am_ rfl rfl rfl rfl rfl rfl (Zz 2 ?_))
 refine ax_ ((b2,.cells #[.int .i64 x1.kind,str x1.a,str x1.b,str x1.c,str x1.r,str x1.s,str x1.t,.int .i64 x1.lo,.int .i64 x1.hi,.int .i64 x1.frm] 73 (0,0))::((b1,.cells #[.int .i64 f.kind,str f.a,str f.b,str f.r,.int .i64 f.lo,.int .i64 f.hi] 24 (0,0))::[])) zk ?_
 refine n_ 2 [0,1,2,3,4,5,6,7,8,9] zk zs (Zz 11 ?_)
 refine i_ 10 rfl zk (q_ (kE_ f.a x1.r x1.c) rfl g_ zt rfl fun _=>Zz 3 ?_)
 refine i_ 11 rfl zk (aR_ (first:=[]) (cap:=E.caps) (E.emit (ah_ f.a x1.r x1.c) (emits E.stp (List.map (fun y=>ah_ f.a y.r y.c) (List.take i (lat pm (Ky.mk 3 [] f.b)))) nw) fm Hs_i hS_i) rfl rfl (c_ P_) zf rfl fun⟨Hs1,hS1⟩=>?_)
 dsimp only
 refine Zz 10 ?_
 exact Q_ ⟨(i+1,Hs1),hlx1,(by rw[eE_ hx1,aF_];exact hS1)⟩ (by dsimp only;omega) zl zp zh
theorem qh_ (B:EngB) (E:Emt Tryz.prog 24) (A:EngA) (pm:List (Ky×Pc)) (x:Ix) (f:Fc) (nw fm:List Fc) (Hs:Hp) (hS:E.St nw fm Hs) (hpl:∀ k,(lat pm k).length≤1000000000) (hxl:∀ k,(lat x.above k).length≤1000000000∧(lat x.under k).length≤1000000000) (hyl:∀ k,(lat x.frm k).length≤1000000000∧(lat x.into k).length≤1000000000∧(lat x.ranges k).length≤1000000000∧(lat x.firms k).length≤1000000000):Tri Tryz.prog 106 #[zp_ B.g 0,Fc.val f] Hs [gF B E,pF B pm A,aF B x A,uF B x A,oF B x A,iF B x A,rF B x A,sF B x A,E.ef] (fun _:{H':Hp // E.St (emits E.stp (gz_ pm f) nw) fm H'}=>.tuple #[]) (fun y=>y.1) (fun _=>[]):=by
 refine t_ Tryz.func106 rfl rfl Tryz.ntmps106 rfl fun v0=>?_
 refine Zz 2 ?_
 refine ag_ rfl rfl fun b1=>Zz 4 ?_
 refine n_ 0 [0,1,2,3,4,5,6,7,8,9] zk zs (Zz 6 ?_)
 refine Z_ rfl (K_ ex_ rfl rfl) rfl (Z_ rfl (cb_ (k:=(Ky.mk 5 f.r [])) (adr:=A.p) he_ bM_ cH_ rfl rfl zf) rfl (Zz 6 ?_))
 refine av_ (ι:={y:Nat×Hp // y.1≤List.length (lat pm (Ky.mk 5 f.r []))∧E.St (emits E.stp (List.map (fun y=>ah_ f.a y.t f.b) (List.take y.1 (lat pm (Ky.mk 5 f.r [])))) nw) fm y.2}) (fun y=>[(0,zp_ B.g 0),(3,zp_ b1 0),(13,.slice (Prod.fst (A.p (Ky.mk 5 f.r []))) (List.length (lat pm (Ky.mk 5 f.r []))) (Prod.snd (A.p (Ky.mk 5 f.r [])))),(14,.int .i64 (List.length (lat pm (Ky.mk 5 f.r [])):Int)),(15,.int .i64 (y.1.1:Int))]) (fun y=>((b1,.cells #[.int .i64 f.kind,str f.a,str f.b,str f.r,.int .i64 f.lo,.int .i64 f.hi] 24 (0,0))::y.1.2)) (fun y=>[gF B E,pF B pm A,aF B x A,uF B x A,oF B x A,iF B x A,rF B x A,sF B x A,E.ef]) (fun y=>List.length (lat pm (Ky.mk 5 f.r [])) - y.1.1) ⟨((0:Nat),Hs),by simp,by exact hS⟩ zl zp zh ?_
 rintro ⟨⟨i,Hs_i⟩,hi_i,hS_i⟩
 dsimp only at hi_i hS_i ⊢
 have hb_i:=hpl (Ky.mk 5 f.r [])
 refine Zi 2 (fun hr1=>?_) fun hr1=>?_
 ·refine Zz 6 ?_
  exact cW_ Tryz.results106 ⟨Hs_i,by unfold gz_;rw[List.take_of_length_le (by omega)]at hS_i;exact hS_i⟩ rfl P_ zt
 obtain⟨hlx1,x1,hx1,hmx1⟩:=zge (show i<List.length (lat pm (Ky.mk 5 f.r [])) by omega)
 refine Zz 10 ?_
 refine d_ (X_ aJ_ am_ rfl rfl (fun v _ h=>I_ (n:=10) Pc.cells_len (by decide) (by exact (bs_ h.2.1 (Ky.mk 5 f.r []))) hx1) (by omega) (by first|omega|(simp;done))) rfl ?_
 refine d_ (aA_ (ad:=(Prod.fst (A.p (Ky.mk 5 f.r [])))) (us:=Pc.cells x1) dJ_ am_ rfl (fun v _ h=>by exact (bs_ h.2.1 (Ky.mk 5 f.r []))) (Pc.cells_len _) (G_ Pc.cells_len hx1)) rfl (C_ bv_ rfl fun b2=>w_ 0 am_ rfl rfl rfl rfl rfl rfl (Zz 2 ?_))
 refine ax_ ((b2,.cells #[.int .i64 x1.kind,str x1.a,str x1.b,str x1.c,str x1.r,str x1.s,str x1.t,.int .i64 x1.lo,.int .i64 x1.hi,.int .i64 x1.frm] 73 (0,0))::((b1,.cells #[.int .i64 f.kind,str f.a,str f.b,str f.r,.int .i64 f.lo,.int .i64 f.hi] 24 (0,0))::[])) zk ?_
 refine n_ 2 [0,1,2,3,4,5,6,7,8,9] zk zs (Zz 11 ?_)
 refine i_ 10 rfl zk (q_ (kE_ f.a x1.t f.b) rfl g_ zt rfl fun _=>Zz 3 ?_)
 refine i_ 11 rfl zk (aR_ (first:=[]) (cap:=E.caps) (E.emit (ah_ f.a x1.t f.b) (emits E.stp (List.map (fun y=>ah_ f.a y.t f.b) (List.take i (lat pm (Ky.mk 5 f.r [])))) nw) fm Hs_i hS_i) rfl rfl (c_ P_) zf rfl fun⟨Hs1,hS1⟩=>?_)
 dsimp only
 refine Zz 10 ?_
 exact Q_ ⟨(i+1,Hs1),hlx1,(by rw[eE_ hx1,aF_];exact hS1)⟩ (by dsimp only;omega) zl zp zh
theorem gA_ {α β:Type} {g:α→List β} {l:List α} {i:Nat} {x:α} (h:l[i]? = some x):List.flatMap g (List.take (i+1) l)=List.flatMap g (List.take i l)++g x:=by
  rw[List.take_add_one,h,Option.toList_some,List.flatMap_append];simp
theorem jo_ {stp:Fc→List Fc→List Fc} {kof:List Fc→List Fc} {f:Fc} {l:List Pc} {i:Nat} {x:Pc} {s:List Fc} (h:l[i]? = some x):ee_ stp kof f (List.take (i+1) l) s=if M_ f.a x.a∈kof (ee_ stp kof f (List.take i l) s)∧M_ f.a x.b∈kof (ee_ stp kof f (List.take i l) s) then stp (M_ f.a x.c) (ee_ stp kof f (List.take i l) s) else ee_ stp kof f (List.take i l) s:=by
  unfold ee_
  rw[List.take_add_one,h,Option.toList_some,List.foldl_append];rfl
theorem jX_ {stp:Fc→List Fc→List Fc} {kof:List Fc→List Fc} {f:Fc} {l:List Pc} {i:Nat} {x:Pc} {s:List Fc×List Fc} (h:l[i]? = some x):ci_ stp kof f (List.take (i+1) l) s=(stp (D_ f.a x.r x.lo x.hi) (ci_ stp kof f (List.take i l) s).1,if D_ f.a x.r x.lo x.hi∈kof (ci_ stp kof f (List.take i l) s).1 then (ci_ stp kof f (List.take i l) s).2 else D_ f.a x.r x.lo x.hi::(ci_ stp kof f (List.take i l) s).2):=by
  unfold ci_
  rw[List.take_add_one,h,Option.toList_some,List.foldl_append];rfl
theorem both_c (B:EngB) (E:Emt Tryz.prog 24) (A:EngA) (pm:List (Ky×Pc)) (x:Ix) (f:Fc) (nw fm:List Fc) (Hs:Hp) (hS:E.St nw fm Hs) (hpl:∀ k,(lat pm k).length≤1000000000) (hxl:∀ k,(lat x.above k).length≤1000000000∧(lat x.under k).length≤1000000000) (hyl:∀ k,(lat x.frm k).length≤1000000000∧(lat x.into k).length≤1000000000∧(lat x.ranges k).length≤1000000000∧(lat x.firms k).length≤1000000000):Tri Tryz.prog 101 #[zp_ B.g 0,Fc.val f] Hs [gF B E,pF B pm A,aF B x A,uF B x A,oF B x A,iF B x A,rF B x A,sF B x A,E.ef] (fun _:{H':Hp // E.St (ee_ E.stp E.kof f (lat pm (Ky.mk 2 [] f.b)) nw) fm H'}=>.tuple #[]) (fun y=>y.1) (fun _=>[]):=by
 refine t_ Tryz.func101 rfl rfl Tryz.ntmps101 rfl fun v0=>?_
 refine Zz 2 ?_
 refine ag_ rfl rfl fun b1=>Zz 4 ?_
 refine n_ 0 [0,1,2,3,4,5,6,7,8,9] zk zs (Zz 6 ?_)
 refine Z_ rfl (K_ ex_ rfl rfl) rfl (Z_ rfl (cb_ (k:=(Ky.mk 2 [] f.b)) (adr:=A.p) he_ bM_ cH_ rfl rfl zf) rfl (Zz 6 ?_))
 refine av_ (ι:={y:Nat×Hp // y.1≤List.length (lat pm (Ky.mk 2 [] f.b))∧E.St (ee_ E.stp E.kof f (List.take y.1 (lat pm (Ky.mk 2 [] f.b))) nw) fm y.2}) (fun y=>[(0,zp_ B.g 0),(3,zp_ b1 0),(13,.slice (Prod.fst (A.p (Ky.mk 2 [] f.b))) (List.length (lat pm (Ky.mk 2 [] f.b))) (Prod.snd (A.p (Ky.mk 2 [] f.b)))),(14,.int .i64 (List.length (lat pm (Ky.mk 2 [] f.b)):Int)),(15,.int .i64 (y.1.1:Int))]) (fun y=>((b1,.cells #[.int .i64 f.kind,str f.a,str f.b,str f.r,.int .i64 f.lo,.int .i64 f.hi] 24 (0,0))::y.1.2)) (fun y=>[gF B E,pF B pm A,aF B x A,uF B x A,oF B x A,iF B x A,rF B x A,sF B x A,E.ef]) (fun y=>List.length (lat pm (Ky.mk 2 [] f.b)) - y.1.1) ⟨((0:Nat),Hs),by simp,by exact hS⟩ zl zp zh ?_
 rintro ⟨⟨i,Hs_i⟩,hi_i,hS_i⟩
 dsimp only at hi_i hS_i ⊢
 have hb_i:=hpl (Ky.mk 2 [] f.b)
 refine Zi 2 (fun hr1=>?_) fun hr1=>?_
 ·refine Zz 6 ?_
  exact cW_ Tryz.results101 ⟨Hs_i,by rw[List.take_of_length_le (by omega)]at hS_i;exact hS_i⟩ rfl P_ zt
 obtain⟨hlx1,x1,hx1,hmx1⟩:=zge (show i<List.length (lat pm (Ky.mk 2 [] f.b)) by omega)
 refine Zz 10 ?_
 refine d_ (X_ aJ_ am_ rfl rfl (fun v _ h=>I_ (n:=10) Pc.cells_len (by decide) (by exact (bs_ h.2.1 (Ky.mk 2 [] f.b))) hx1) (by omega) (by first|omega|(simp;done))) rfl ?_
 refine d_ (aA_ (ad:=(Prod.fst (A.p (Ky.mk 2 [] f.b)))) (us:=Pc.cells x1) dJ_ am_ rfl (fun v _ h=>by exact (bs_ h.2.1 (Ky.mk 2 [] f.b))) (Pc.cells_len _) (G_ Pc.cells_len hx1)) rfl (C_ bv_ rfl fun b2=>w_ 0 am_ rfl rfl rfl rfl rfl rfl (Zz 4 ?_))
 refine n_ 14 [0,1,2,3,4,5,6,7] zk zs (Zz 9 ?_)
 refine i_ 8 rfl zk (q_ (fA_ f.a x1.a) rfl g_ zt rfl fun _=>Zz 3 ?_)
 refine n_ 11 [9,10] zk zs (cj_ rfl (hB_ (f:=(M_ f.a x1.a)) hS_i iI_ aQ_ cw_ rfl rfl (c_ P_)) rfl fun r2 hr2=>Zz 2 ?_)
 cases r2
 ·replace hr2:=zdf hr2
  refine n_ 0 [11,12,13,14,15,16,17,18,19,20,21] zk zs (Zz 22 ?_)
  exact Q_ ⟨(i+1,Hs_i),hlx1,(by rw[jo_ hx1];first|(rw[if_pos ⟨by assumption,by assumption⟩];exact hS_i)|(rw[if_neg (fun q=>absurd q.1 (by assumption))];exact hS_i)|(rw[if_neg (fun q=>absurd q.2 (by assumption))];exact hS_i))⟩ (by dsimp only;omega) zl (o_ (c_ e_) P_) zh
 replace hr2:=zdt hr2
 refine n_ 3 [11,12,13,14,15,16,17,18] zk zs (Zz 9 ?_)
 refine i_ 19 rfl zk (y_ rfl rfl (q_ (fA_ f.a x1.b) rfl g_ zt rfl fun _=>Zz 3 ?_))
 refine n_ 0 [20,21] zk zs (aC_ rfl rfl rfl (hB_ (f:=(M_ f.a x1.b)) hS_i iI_ aQ_ cw_ rfl rfl (c_ P_)) rfl fun r3 hr3=>Zz 4 ?_)
 cases r3
 ·replace hr3:=zdf hr3
  refine Zz 8 ?_
  exact Q_ ⟨(i+1,Hs_i),hlx1,(by rw[jo_ hx1];first|(rw[if_pos ⟨by assumption,by assumption⟩];exact hS_i)|(rw[if_neg (fun q=>absurd q.1 (by assumption))];exact hS_i)|(rw[if_neg (fun q=>absurd q.2 (by assumption))];exact hS_i))⟩ (by dsimp only;omega) zl (o_ (c_ e_) P_) zh
 replace hr3:=zdt hr3
 refine L_ rfl ?_
 refine ax_ ((b2,.cells #[.int .i64 x1.kind,str x1.a,str x1.b,str x1.c,str x1.r,str x1.s,str x1.t,.int .i64 x1.lo,.int .i64 x1.hi,.int .i64 x1.frm] 73 (0,0))::((b1,.cells #[.int .i64 f.kind,str f.a,str f.b,str f.r,.int .i64 f.lo,.int .i64 f.hi] 24 (0,0))::[])) zk ?_
 refine n_ 2 [0,1,2,3,4,5,6,7] zk zs (Zz 9 ?_)
 refine i_ 8 rfl zk (q_ (fA_ f.a x1.c) rfl g_ zt rfl fun _=>Zz 3 ?_)
 refine i_ 9 rfl zk (aR_ (first:=[]) (cap:=E.caps) (E.emit (M_ f.a x1.c) (ee_ E.stp E.kof f (List.take i (lat pm (Ky.mk 2 [] f.b))) nw) fm Hs_i hS_i) rfl rfl (c_ P_) zf rfl fun⟨Hs1,hS1⟩=>?_)
 dsimp only
 refine Zz 10 ?_
 exact Q_ ⟨(i+1,Hs1),hlx1,(by rw[jo_ hx1];first|(rw[if_pos ⟨by assumption,by assumption⟩];exact hS1)|(rw[if_neg (fun q=>absurd q.1 (by assumption))];exact hS1)|(rw[if_neg (fun q=>absurd q.2 (by assumption))];exact hS1))⟩ (by dsimp only;omega) zl zp zh
theorem sy_ (B:EngB) (E:Emt Tryz.prog 24) (A:EngA) (pm:List (Ky×Pc)) (x:Ix) (f:Fc) (nw fm:List Fc) (Hs:Hp) (hS:E.St nw fm Hs) (hpl:∀ k,(lat pm k).length≤1000000000) (hxl:∀ k,(lat x.above k).length≤1000000000∧(lat x.under k).length≤1000000000) (hyl:∀ k,(lat x.frm k).length≤1000000000∧(lat x.into k).length≤1000000000∧(lat x.ranges k).length≤1000000000∧(lat x.firms k).length≤1000000000):Tri Tryz.prog 105 #[zp_ B.g 0,Fc.val f] Hs [gF B E,pF B pm A,aF B x A,uF B x A,oF B x A,iF B x A,rF B x A,sF B x A,E.ef] (fun _:{H':Hp // E.St (Prod.fst (ci_ E.stp E.kof f (lat pm (Ky.mk 8 [] f.b)) (nw,fm))) (Prod.snd (ci_ E.stp E.kof f (lat pm (Ky.mk 8 [] f.b)) (nw,fm))) H'}=>.tuple #[]) (fun y=>y.1) (fun _=>[]):=by
 refine t_ Tryz.func105 rfl rfl Tryz.ntmps105 rfl fun v0=>?_
 refine Zz 2 ?_
 refine ag_ rfl rfl fun b1=>Zz 4 ?_
 refine n_ 0 [0,1,2,3,4,5,6,7,8,9] zk zs (Zz 6 ?_)
 refine Z_ rfl (K_ ex_ rfl rfl) rfl (Z_ rfl (cb_ (k:=(Ky.mk 8 [] f.b)) (adr:=A.p) he_ bM_ cH_ rfl rfl zf) rfl (Zz 6 ?_))
 refine av_ (ι:={y:Nat×Hp // y.1≤List.length (lat pm (Ky.mk 8 [] f.b))∧E.St (Prod.fst (ci_ E.stp E.kof f (List.take y.1 (lat pm (Ky.mk 8 [] f.b))) (nw,fm))) (Prod.snd (ci_ E.stp E.kof f (List.take y.1 (lat pm (Ky.mk 8 [] f.b))) (nw,fm))) y.2}) (fun y=>[(0,zp_ B.g 0),(3,zp_ b1 0),(14,.slice (Prod.fst (A.p (Ky.mk 8 [] f.b))) (List.length (lat pm (Ky.mk 8 [] f.b))) (Prod.snd (A.p (Ky.mk 8 [] f.b)))),(15,.int .i64 (List.length (lat pm (Ky.mk 8 [] f.b)):Int)),(16,.int .i64 (y.1.1:Int))]) (fun y=>((b1,.cells #[.int .i64 f.kind,str f.a,str f.b,str f.r,.int .i64 f.lo,.int .i64 f.hi] 24 (0,0))::y.1.2)) (fun y=>[gF B E,pF B pm A,aF B x A,uF B x A,oF B x A,iF B x A,rF B x A,sF B x A,E.ef]) (fun y=>List.length (lat pm (Ky.mk 8 [] f.b)) - y.1.1) ⟨((0:Nat),Hs),by simp,by exact hS⟩ zl zp zh ?_
 rintro ⟨⟨i,Hs_i⟩,hi_i,hS_i⟩
 dsimp only at hi_i hS_i ⊢
 have hb_i:=hpl (Ky.mk 8 [] f.b)
 refine Zi 2 (fun hr1=>?_) fun hr1=>?_
 ·refine Zz 6 ?_
  exact cW_ Tryz.results105 ⟨Hs_i,by rw[List.take_of_length_le (by omega)]at hS_i;exact hS_i⟩ rfl P_ zt
 obtain⟨hlx1,x1,hx1,hmx1⟩:=zge (show i<List.length (lat pm (Ky.mk 8 [] f.b)) by omega)
 refine Zz 10 ?_
 refine d_ (X_ aJ_ am_ rfl rfl (fun v _ h=>I_ (n:=10) Pc.cells_len (by decide) (by exact (bs_ h.2.1 (Ky.mk 8 [] f.b))) hx1) (by omega) (by first|omega|(simp;done))) rfl ?_
 refine d_ (aA_ (ad:=(Prod.fst (A.p (Ky.mk 8 [] f.b)))) (us:=Pc.cells x1) dJ_ am_ rfl (fun v _ h=>by exact (bs_ h.2.1 (Ky.mk 8 [] f.b))) (Pc.cells_len _) (G_ Pc.cells_len hx1)) rfl (C_ bv_ rfl fun b2=>w_ 0 am_ rfl rfl rfl rfl rfl rfl (Zz 12 ?_))
 refine q_ (kf_ f.a x1.r x1.lo x1.hi) rfl g_ zt rfl fun _=>C_ ad_ rfl fun b3=>w_ 0 x_ rfl rfl rfl rfl rfl rfl (Zz 5 ?_)
 refine n_ 0 [0,1,2,3,4,5,6] zk zs (Zz 5 ?_)
 refine cj_ rfl (hB_ (f:=(D_ f.a x1.r x1.lo x1.hi)) hS_i iI_ aQ_ cw_ rfl rfl (c_ (c_ P_))) rfl fun r2 hr2=>Z_ rfl (bj_ rfl) rfl (Zz 3 ?_)
 cases r2
 ·replace hr2:=zdf hr2
  refine L_ rfl ?_
  refine ax_ ((b3,.cells #[.int .i64 (Fc.kind (D_ f.a x1.r x1.lo x1.hi)),str (Fc.a (D_ f.a x1.r x1.lo x1.hi)),str (Fc.b (D_ f.a x1.r x1.lo x1.hi)),str (Fc.r (D_ f.a x1.r x1.lo x1.hi)),.int .i64 (Fc.lo (D_ f.a x1.r x1.lo x1.hi)),.int .i64 (Fc.hi (D_ f.a x1.r x1.lo x1.hi))] 24 (0,0))::((b2,.cells #[.int .i64 x1.kind,str x1.a,str x1.b,str x1.c,str x1.r,str x1.s,str x1.t,.int .i64 x1.lo,.int .i64 x1.hi,.int .i64 x1.frm] 73 (0,0))::((b1,.cells #[.int .i64 f.kind,str f.a,str f.b,str f.r,.int .i64 f.lo,.int .i64 f.hi] 24 (0,0))::[]))) zk ?_
  refine n_ 1 [0,1,2,3,4] zk zs (Zz 6 ?_)
  refine i_ 5 rfl zk (rv_ (f:=(D_ f.a x1.r x1.lo x1.hi)) hS_i iI_ (.inr rfl) aQ_ rfl rfl rfl (c_ (c_ P_)) fun Hs1 hS1=>Zz 5 ?_)
  refine ax_ ((b3,.cells #[.int .i64 (Fc.kind (D_ f.a x1.r x1.lo x1.hi)),str (Fc.a (D_ f.a x1.r x1.lo x1.hi)),str (Fc.b (D_ f.a x1.r x1.lo x1.hi)),str (Fc.r (D_ f.a x1.r x1.lo x1.hi)),.int .i64 (Fc.lo (D_ f.a x1.r x1.lo x1.hi)),.int .i64 (Fc.hi (D_ f.a x1.r x1.lo x1.hi))] 24 (0,0))::((b2,.cells #[.int .i64 x1.kind,str x1.a,str x1.b,str x1.c,str x1.r,str x1.s,str x1.t,.int .i64 x1.lo,.int .i64 x1.hi,.int .i64 x1.frm] 73 (0,0))::((b1,.cells #[.int .i64 f.kind,str f.a,str f.b,str f.r,.int .i64 f.lo,.int .i64 f.hi] 24 (0,0))::[]))) zk ?_
  refine n_ 1 [0,1,2,3,4] zk zs (Zz 6 ?_)
  refine i_ 5 rfl zk (aR_ (first:=[]) (cap:=E.caps) (E.emit (D_ f.a x1.r x1.lo x1.hi) (Prod.fst (ci_ E.stp E.kof f (List.take i (lat pm (Ky.mk 8 [] f.b))) (nw,fm))) ((D_ f.a x1.r x1.lo x1.hi)::(Prod.snd (ci_ E.stp E.kof f (List.take i (lat pm (Ky.mk 8 [] f.b))) (nw,fm)))) Hs1 hS1) rfl rfl u_ zf rfl fun⟨Hs2,hS2⟩=>?_)
  dsimp only
  refine Zz 10 ?_
  exact Q_ ⟨(i+1,Hs2),hlx1,(by rw[jX_ hx1];dsimp only;first|(rw[if_pos (by assumption)];exact hS2)|(rw[if_neg (by assumption)];exact hS2))⟩ (by dsimp only;omega) zl zp zh
 replace hr2:=zdt hr2
 refine Zz 3 ?_
 refine ax_ ((b3,.cells #[.int .i64 (Fc.kind (D_ f.a x1.r x1.lo x1.hi)),str (Fc.a (D_ f.a x1.r x1.lo x1.hi)),str (Fc.b (D_ f.a x1.r x1.lo x1.hi)),str (Fc.r (D_ f.a x1.r x1.lo x1.hi)),.int .i64 (Fc.lo (D_ f.a x1.r x1.lo x1.hi)),.int .i64 (Fc.hi (D_ f.a x1.r x1.lo x1.hi))] 24 (0,0))::((b2,.cells #[.int .i64 x1.kind,str x1.a,str x1.b,str x1.c,str x1.r,str x1.s,str x1.t,.int .i64 x1.lo,.int .i64 x1.hi,.int .i64 x1.frm] 73 (0,0))::((b1,.cells #[.int .i64 f.kind,str f.a,str f.b,str f.r,.int .i64 f.lo,.int .i64 f.hi] 24 (0,0))::[]))) zk ?_
 refine n_ 1 [0,1,2,3,4] zk zs (Zz 6 ?_)
 refine i_ 5 rfl zk (aR_ (first:=[]) (cap:=E.caps) (E.emit (D_ f.a x1.r x1.lo x1.hi) (Prod.fst (ci_ E.stp E.kof f (List.take i (lat pm (Ky.mk 8 [] f.b))) (nw,fm))) (Prod.snd (ci_ E.stp E.kof f (List.take i (lat pm (Ky.mk 8 [] f.b))) (nw,fm))) Hs_i hS_i) rfl rfl (c_ (c_ P_)) zf rfl fun⟨Hs3,hS3⟩=>?_)
 dsimp only
 refine Zz 10 ?_
 exact Q_ ⟨(i+1,Hs3),hlx1,(by rw[jX_ hx1];dsimp only;first|(rw[if_pos (by assumption)];exact hS3)|(rw[if_neg (by assumption)];exact hS3))⟩ (by dsimp only;omega) zl zp zh
theorem oF_ (B:EngB) (E:Emt Tryz.prog 24) (A:EngA) (pm:List (Ky×Pc)) (x:Ix) (f:Fc) (nw fm:List Fc) (Hs:Hp) (hS:E.St nw fm Hs) (hpl:∀ k,(lat pm k).length≤1000000000) (hxl:∀ k,(lat x.above k).length≤1000000000∧(lat x.under k).length≤1000000000) (hyl:∀ k,(lat x.frm k).length≤1000000000∧(lat x.into k).length≤1000000000∧(lat x.ranges k).length≤1000000000∧(lat x.firms k).length≤1000000000):Tri Tryz.prog 103 #[zp_ B.g 0,Fc.val f] Hs [gF B E,pF B pm A,aF B x A,uF B x A,oF B x A,iF B x A,rF B x A,sF B x A,E.ef] (fun _:{H':Hp // E.St (emits E.stp (fv_ pm x f) nw) fm H'}=>.tuple #[]) (fun y=>y.1) (fun _=>[]):=by
 refine t_ Tryz.func103 rfl rfl Tryz.ntmps103 rfl fun v0=>?_
 refine Zz 2 ?_
 refine ag_ rfl rfl fun b1=>Zz 4 ?_
 refine n_ 0 [0,1,2,3,4,5,6,7,8,9] zk zs (Zz 6 ?_)
 refine Z_ rfl (K_ ex_ rfl rfl) rfl (Z_ rfl (cb_ (k:=(Ky.mk 4 [] f.b)) (adr:=A.p) he_ bM_ cH_ rfl rfl zf) rfl (Zz 6 ?_))
 refine av_ (ι:={y:Nat×Hp // y.1≤List.length (lat pm (Ky.mk 4 [] f.b))∧E.St (emits E.stp (List.flatMap (fun y=>List.map (fun a=>M_ a y.c) (lat x.into (Fc.a f,Pc.r y))) (List.take y.1 (lat pm (Ky.mk 4 [] f.b)))) nw) fm y.2}) (fun y=>[(0,zp_ B.g 0),(3,zp_ b1 0),(15,.slice (Prod.fst (A.p (Ky.mk 4 [] f.b))) (List.length (lat pm (Ky.mk 4 [] f.b))) (Prod.snd (A.p (Ky.mk 4 [] f.b)))),(16,.int .i64 (List.length (lat pm (Ky.mk 4 [] f.b)):Int)),(17,.int .i64 (y.1.1:Int))]) (fun y=>((b1,.cells #[.int .i64 f.kind,str f.a,str f.b,str f.r,.int .i64 f.lo,.int .i64 f.hi] 24 (0,0))::y.1.2)) (fun y=>[gF B E,pF B pm A,aF B x A,uF B x A,oF B x A,iF B x A,rF B x A,sF B x A,E.ef]) (fun y=>List.length (lat pm (Ky.mk 4 [] f.b)) - y.1.1) ⟨((0:Nat),Hs),by simp,by exact hS⟩ zl zp zh ?_
 rintro ⟨⟨i,Hs_i⟩,hi_i,hS_i⟩
 dsimp only at hi_i hS_i ⊢
 have hb_i:=hpl (Ky.mk 4 [] f.b)
 refine Zi 2 (fun hr1=>?_) fun hr1=>?_
 ·refine Zz 6 ?_
  exact cW_ Tryz.results103 ⟨Hs_i,by unfold fv_;rw[List.take_of_length_le (by omega)]at hS_i;exact hS_i⟩ rfl P_ zt
 obtain⟨hlx1,x1,hx1,hmx1⟩:=zge (show i<List.length (lat pm (Ky.mk 4 [] f.b)) by omega)
 refine Zz 10 ?_
 refine d_ (X_ aJ_ am_ rfl rfl (fun v _ h=>I_ (n:=10) Pc.cells_len (by decide) (by exact (bs_ h.2.1 (Ky.mk 4 [] f.b))) hx1) (by omega) (by first|omega|(simp;done))) rfl ?_
 refine d_ (aA_ (ad:=(Prod.fst (A.p (Ky.mk 4 [] f.b)))) (us:=Pc.cells x1) dJ_ am_ rfl (fun v _ h=>by exact (bs_ h.2.1 (Ky.mk 4 [] f.b))) (Pc.cells_len _) (G_ Pc.cells_len hx1)) rfl (C_ bv_ rfl fun b2=>w_ 0 am_ rfl rfl rfl rfl rfl rfl (Zz 4 ?_))
 refine n_ 0 [0,1,2,3,4,5,6,7,8,9,10,11] zk zs (Zz 8 ?_)
 refine Z_ rfl (K_ fm_ rfl rfl) rfl (Z_ rfl (cb_ (k:=(f.a,x1.r)) (adr:=A.i) cO_ bL_ bp_ rfl rfl zf) rfl (Zz 6 ?_))
 refine av_ (ι:={y:Nat×Hp // y.1≤List.length (lat x.into (f.a,x1.r))∧E.St (emits E.stp (List.map (fun a=>M_ a x1.c) (List.take y.1 (lat x.into (f.a,x1.r)))) (emits E.stp (List.flatMap (fun y=>List.map (fun a=>M_ a y.c) (lat x.into (Fc.a f,Pc.r y))) (List.take i (lat pm (Ky.mk 4 [] f.b)))) nw)) fm y.2}) (fun y=>[(0,zp_ B.g 0),(3,zp_ b1 0),(15,.slice (Prod.fst (A.p (Ky.mk 4 [] f.b))) (List.length (lat pm (Ky.mk 4 [] f.b))) (Prod.snd (A.p (Ky.mk 4 [] f.b)))),(16,.int .i64 (List.length (lat pm (Ky.mk 4 [] f.b)):Int)),(17,.int .i64 (i:Int)),(5,zp_ b2 0),(30,.slice (Prod.fst (A.i (f.a,x1.r))) (List.length (lat x.into (f.a,x1.r))) (Prod.snd (A.i (f.a,x1.r)))),(31,.int .i64 (List.length (lat x.into (f.a,x1.r)):Int)),(32,.int .i64 (y.1.1:Int))]) (fun y=>((b2,.cells #[.int .i64 x1.kind,str x1.a,str x1.b,str x1.c,str x1.r,str x1.s,str x1.t,.int .i64 x1.lo,.int .i64 x1.hi,.int .i64 x1.frm] 73 (0,0))::((b1,.cells #[.int .i64 f.kind,str f.a,str f.b,str f.r,.int .i64 f.lo,.int .i64 f.hi] 24 (0,0))::y.1.2))) (fun y=>[gF B E,pF B pm A,aF B x A,uF B x A,oF B x A,iF B x A,rF B x A,sF B x A,E.ef]) (fun y=>List.length (lat x.into (f.a,x1.r)) - y.1.1) ⟨((0:Nat),Hs_i),by simp,by exact hS_i⟩ zl zp zh ?_
 rintro ⟨⟨j,Hs_j⟩,hi_j,hS_j⟩
 dsimp only at hi_j hS_j ⊢
 have hb_j:=(hyl (f.a,x1.r)).2.1
 refine Zi 2 (fun hr2=>?_) fun hr2=>?_
 ·refine Zz 11 ?_
  exact Q_ ⟨(i+1,Hs_j),hlx1,(by rw[gA_ hx1,aF_];have e9:List.take j (lat x.into (Fc.a f,Pc.r x1))=(lat x.into (Fc.a f,Pc.r x1)):=List.take_of_length_le (by omega);rw[e9]at hS_j;exact hS_j)⟩ (by dsimp only;omega) zl (o_ (c_ e_) P_) zh
 obtain⟨hlx2,x2,hx2,hmx2⟩:=zge (show j<List.length (lat x.into (f.a,x1.r)) by omega)
 refine Zz 10 ?_
 refine d_ (X_ N_ al_ rfl rfl (fun v _ h=>I_ (n:=1) aS_ (by decide) (by exact (bs_ h.2.2.2.2.2.1 (f.a,x1.r))) hx2) (by omega) (by first|omega|(simp;done))) rfl ?_
 refine d_ (bn_ (ad:=(Prod.fst (A.i (f.a,x1.r)))) ai_ rfl (fun v _ h=>by exact (bs_ h.2.2.2.2.2.1 (f.a,x1.r))) (G_ aS_ hx2 0 _ rfl)) rfl (Zz 3 ?_)
 refine ax_ ((b2,.cells #[.int .i64 x1.kind,str x1.a,str x1.b,str x1.c,str x1.r,str x1.s,str x1.t,.int .i64 x1.lo,.int .i64 x1.hi,.int .i64 x1.frm] 73 (0,0))::((b1,.cells #[.int .i64 f.kind,str f.a,str f.b,str f.r,.int .i64 f.lo,.int .i64 f.hi] 24 (0,0))::[])) zk ?_
 refine n_ 2 [0,1,2,3,4,5,6] zk zs (Zz 8 ?_)
 refine i_ 7 rfl zk (q_ (fA_ x2 x1.c) rfl g_ zt rfl fun _=>Zz 3 ?_)
 refine i_ 8 rfl zk (aR_ (first:=[]) (cap:=E.caps) (E.emit (M_ x2 x1.c) (emits E.stp (List.map (fun a=>M_ a x1.c) (List.take j (lat x.into (f.a,x1.r)))) (emits E.stp (List.flatMap (fun y=>List.map (fun a=>M_ a y.c) (lat x.into (Fc.a f,Pc.r y))) (List.take i (lat pm (Ky.mk 4 [] f.b)))) nw)) fm Hs_j hS_j) rfl rfl zp zf rfl fun⟨Hs1,hS1⟩=>?_)
 dsimp only
 refine Zz 10 ?_
 exact Q_ ⟨(j+1,Hs1),hlx2,(by rw[eE_ hx2,aF_];exact hS1)⟩ (by dsimp only;omega) zl zp zh
theorem oE_ (B:EngB) (E:Emt Tryz.prog 24) (A:EngA) (pm:List (Ky×Pc)) (x:Ix) (f:Fc) (nw fm:List Fc) (Hs:Hp) (hS:E.St nw fm Hs) (hpl:∀ k,(lat pm k).length≤1000000000) (hxl:∀ k,(lat x.above k).length≤1000000000∧(lat x.under k).length≤1000000000) (hyl:∀ k,(lat x.frm k).length≤1000000000∧(lat x.into k).length≤1000000000∧(lat x.ranges k).length≤1000000000∧(lat x.firms k).length≤1000000000):Tri Tryz.prog 108 #[zp_ B.g 0,Fc.val f] Hs [gF B E,pF B pm A,aF B x A,uF B x A,oF B x A,iF B x A,rF B x A,sF B x A,E.ef] (fun _:{H':Hp // E.St (emits E.stp (fu_ pm x f) nw) fm H'}=>.tuple #[]) (fun y=>y.1) (fun _=>[]):=by
 refine t_ Tryz.func108 rfl rfl Tryz.ntmps108 rfl fun v0=>?_
 refine Zz 2 ?_
 refine ag_ rfl rfl fun b1=>Zz 4 ?_
 refine n_ 0 [0,1,2,3,4,5,6,7,8] zk zs (Zz 6 ?_)
 refine Z_ rfl (cb_ (k:=f.b) (adr:=A.a) iH_ ca_ bp_ rfl rfl zf) rfl (Zz 6 ?_)
 refine av_ (ι:={y:Nat×Hp // y.1≤List.length (lat x.above f.b)∧E.St (emits E.stp (List.flatMap (fun y=>List.map (fun a=>M_ f.a a.c) (lat pm (Ky.mk 4 f.r y))) (List.take y.1 (lat x.above f.b))) nw) fm y.2}) (fun y=>[(0,zp_ B.g 0),(3,zp_ b1 0),(14,.slice (Prod.fst (A.a f.b)) (List.length (lat x.above f.b)) (Prod.snd (A.a f.b))),(15,.int .i64 (List.length (lat x.above f.b):Int)),(16,.int .i64 (y.1.1:Int))]) (fun y=>((b1,.cells #[.int .i64 f.kind,str f.a,str f.b,str f.r,.int .i64 f.lo,.int .i64 f.hi] 24 (0,0))::y.1.2)) (fun y=>[gF B E,pF B pm A,aF B x A,uF B x A,oF B x A,iF B x A,rF B x A,sF B x A,E.ef]) (fun y=>List.length (lat x.above f.b) - y.1.1) ⟨((0:Nat),Hs),by simp,by exact hS⟩ zl zp zh ?_
 rintro ⟨⟨i,Hs_i⟩,hi_i,hS_i⟩
 dsimp only at hi_i hS_i ⊢
 have hb_i:=(hxl f.b).1
 refine Zi 2 (fun hr1=>?_) fun hr1=>?_
 ·refine Zz 6 ?_
  exact cW_ Tryz.results108 ⟨Hs_i,by unfold fu_;rw[List.take_of_length_le (by omega)]at hS_i;exact hS_i⟩ rfl P_ zt
 obtain⟨hlx1,x1,hx1,hmx1⟩:=zge (show i<List.length (lat x.above f.b) by omega)
 refine Zz 10 ?_
 refine d_ (X_ N_ al_ rfl rfl (fun v _ h=>I_ (n:=1) aS_ (by decide) (by exact (bs_ h.2.2.1 f.b)) hx1) (by omega) (by first|omega|(simp;done))) rfl ?_
 refine d_ (bn_ (ad:=(Prod.fst (A.a f.b))) ai_ rfl (fun v _ h=>by exact (bs_ h.2.2.1 f.b)) (G_ aS_ hx1 0 _ rfl)) rfl (Zz 5 ?_)
 refine n_ 0 [0,1,2,3,4,5,6,7,8,9,10] zk zs (Zz 7 ?_)
 refine Z_ rfl (K_ ex_ rfl rfl) rfl (Z_ rfl (cb_ (k:=(Ky.mk 4 f.r x1)) (adr:=A.p) he_ bM_ cH_ rfl rfl zf) rfl (Zz 6 ?_))
 refine av_ (ι:={y:Nat×Hp // y.1≤List.length (lat pm (Ky.mk 4 f.r x1))∧E.St (emits E.stp (List.map (fun a=>M_ f.a a.c) (List.take y.1 (lat pm (Ky.mk 4 f.r x1)))) (emits E.stp (List.flatMap (fun y=>List.map (fun a=>M_ f.a a.c) (lat pm (Ky.mk 4 f.r y))) (List.take i (lat x.above f.b))) nw)) fm y.2}) (fun y=>[(0,zp_ B.g 0),(3,zp_ b1 0),(14,.slice (Prod.fst (A.a f.b)) (List.length (lat x.above f.b)) (Prod.snd (A.a f.b))),(15,.int .i64 (List.length (lat x.above f.b):Int)),(16,.int .i64 (i:Int)),(28,.slice (Prod.fst (A.p (Ky.mk 4 f.r x1))) (List.length (lat pm (Ky.mk 4 f.r x1))) (Prod.snd (A.p (Ky.mk 4 f.r x1)))),(29,.int .i64 (List.length (lat pm (Ky.mk 4 f.r x1)):Int)),(30,.int .i64 (y.1.1:Int))]) (fun y=>((b1,.cells #[.int .i64 f.kind,str f.a,str f.b,str f.r,.int .i64 f.lo,.int .i64 f.hi] 24 (0,0))::y.1.2)) (fun y=>[gF B E,pF B pm A,aF B x A,uF B x A,oF B x A,iF B x A,rF B x A,sF B x A,E.ef]) (fun y=>List.length (lat pm (Ky.mk 4 f.r x1)) - y.1.1) ⟨((0:Nat),Hs_i),by simp,by exact hS_i⟩ zl zp zh ?_
 rintro ⟨⟨j,Hs_j⟩,hi_j,hS_j⟩
 dsimp only at hi_j hS_j ⊢
 have hb_j:=hpl (Ky.mk 4 f.r x1)
 refine Zi 2 (fun hr2=>?_) fun hr2=>?_
 ·refine Zz 11 ?_
  exact Q_ ⟨(i+1,Hs_j),hlx1,(by rw[gA_ hx1,aF_];have e9:List.take j (lat pm (Ky.mk 4 f.r x1))=(lat pm (Ky.mk 4 f.r x1)):=List.take_of_length_le (by omega);rw[e9]at hS_j;exact hS_j)⟩ (by dsimp only;omega) zl (o_ e_ bH_) zh
 obtain⟨hlx2,x2,hx2,hmx2⟩:=zge (show j<List.length (lat pm (Ky.mk 4 f.r x1)) by omega)
 refine Zz 10 ?_
 refine d_ (X_ aJ_ am_ rfl rfl (fun v _ h=>I_ (n:=10) Pc.cells_len (by decide) (by exact (bs_ h.2.1 (Ky.mk 4 f.r x1))) hx2) (by omega) (by first|omega|(simp;done))) rfl ?_
 refine d_ (aA_ (ad:=(Prod.fst (A.p (Ky.mk 4 f.r x1)))) (us:=Pc.cells x2) dJ_ am_ rfl (fun v _ h=>by exact (bs_ h.2.1 (Ky.mk 4 f.r x1))) (Pc.cells_len _) (G_ Pc.cells_len hx2)) rfl (C_ bv_ rfl fun b2=>w_ 0 am_ rfl rfl rfl rfl rfl rfl (Zz 2 ?_))
 refine ax_ ((b2,.cells #[.int .i64 x2.kind,str x2.a,str x2.b,str x2.c,str x2.r,str x2.s,str x2.t,.int .i64 x2.lo,.int .i64 x2.hi,.int .i64 x2.frm] 73 (0,0))::((b1,.cells #[.int .i64 f.kind,str f.a,str f.b,str f.r,.int .i64 f.lo,.int .i64 f.hi] 24 (0,0))::[])) zk ?_
 refine n_ 2 [0,1,2,3,4,5,6,7] zk zs (Zz 9 ?_)
 refine i_ 8 rfl zk (q_ (fA_ f.a x2.c) rfl g_ zt rfl fun _=>Zz 3 ?_)
 refine i_ 9 rfl zk (aR_ (first:=[]) (cap:=E.caps) (E.emit (M_ f.a x2.c) (emits E.stp (List.map (fun a=>M_ f.a a.c) (List.take j (lat pm (Ky.mk 4 f.r x1)))) (emits E.stp (List.flatMap (fun y=>List.map (fun a=>M_ f.a a.c) (lat pm (Ky.mk 4 f.r y))) (List.take i (lat x.above f.b))) nw)) fm Hs_j hS_j) rfl rfl (c_ P_) zf rfl fun⟨Hs1,hS1⟩=>?_)
 dsimp only
 refine Zz 10 ?_
 exact Q_ ⟨(j+1,Hs1),hlx2,(by rw[eE_ hx2,aF_];exact hS1)⟩ (by dsimp only;omega) zl zp zh
theorem tJ_ (B:EngB) (E:Emt Tryz.prog 24) (A:EngA) (pm:List (Ky×Pc)) (x:Ix) (f:Fc) (nw fm:List Fc) (Hs:Hp) (hS:E.St nw fm Hs) (hpl:∀ k,(lat pm k).length≤1000000000) (hxl:∀ k,(lat x.above k).length≤1000000000∧(lat x.under k).length≤1000000000) (hyl:∀ k,(lat x.frm k).length≤1000000000∧(lat x.into k).length≤1000000000∧(lat x.ranges k).length≤1000000000∧(lat x.firms k).length≤1000000000):Tri Tryz.prog 107 #[zp_ B.g 0,Fc.val f] Hs [gF B E,pF B pm A,aF B x A,uF B x A,oF B x A,iF B x A,rF B x A,sF B x A,E.ef] (fun _:{H':Hp // E.St (emits E.stp (fq_ pm x f++gZ_ pm x f) nw) fm H'}=>.tuple #[]) (fun y=>y.1) (fun _=>[]):=by
 refine t_ Tryz.func107 rfl rfl Tryz.ntmps107 rfl fun v0=>?_
 refine Zz 2 ?_
 refine ag_ rfl rfl fun b1=>Zz 5 ?_
 refine n_ 0 [0,1,2,3,4,5,6,7,8,9] zk zs (Zz 6 ?_)
 refine Z_ rfl (K_ ex_ rfl rfl) rfl (Z_ rfl (cb_ (k:=(Ky.mk 6 f.r [])) (adr:=A.p) he_ bM_ cH_ rfl rfl zf) rfl (Zz 6 ?_))
 refine av_ (ι:={y:Nat×Hp // y.1≤List.length (lat pm (Ky.mk 6 f.r []))∧E.St (emits E.stp (List.flatMap (fun y=>List.map (fun a=>ah_ f.a y.t a) (lat x.frm (Fc.b f,Pc.s y))) (List.take y.1 (lat pm (Ky.mk 6 f.r [])))) nw) fm y.2}) (fun y=>[(0,zp_ B.g 0),(3,zp_ b1 0),(19,.slice (Prod.fst (A.p (Ky.mk 6 f.r []))) (List.length (lat pm (Ky.mk 6 f.r []))) (Prod.snd (A.p (Ky.mk 6 f.r [])))),(20,.int .i64 (List.length (lat pm (Ky.mk 6 f.r [])):Int)),(21,.int .i64 (y.1.1:Int))]) (fun y=>((b1,.cells #[.int .i64 f.kind,str f.a,str f.b,str f.r,.int .i64 f.lo,.int .i64 f.hi] 24 (0,0))::y.1.2)) (fun y=>[gF B E,pF B pm A,aF B x A,uF B x A,oF B x A,iF B x A,rF B x A,sF B x A,E.ef]) (fun y=>List.length (lat pm (Ky.mk 6 f.r [])) - y.1.1) ⟨((0:Nat),Hs),by simp,by exact hS⟩ zl zp zh ?_
 rintro ⟨⟨i,Hs_i⟩,hi_i,hS_i⟩
 dsimp only at hi_i hS_i ⊢
 have hb_i:=hpl (Ky.mk 6 f.r [])
 refine Zi 2 (fun hr1=>?_) fun hr1=>?_
 ·refine Zz 8 ?_
  refine n_ 0 [0,1,2,3,4,5,6,7,8,9] zk zs (Zz 6 ?_)
  refine Z_ rfl (K_ ex_ rfl rfl) rfl (Z_ rfl (cb_ (k:=(Ky.mk 6 [] f.r)) (adr:=A.p) he_ bM_ cH_ rfl rfl zf) rfl (Zz 6 ?_))
  refine av_ (ι:={y:Nat×Hp // y.1≤List.length (lat pm (Ky.mk 6 [] f.r))∧E.St (emits E.stp (List.flatMap (fun y=>List.map (fun a=>ah_ a y.t f.b) (lat x.into (Fc.a f,Pc.r y))) (List.take y.1 (lat pm (Ky.mk 6 [] f.r)))) (emits E.stp (fq_ pm x f) nw)) fm y.2}) (fun y=>[(0,zp_ B.g 0),(3,zp_ b1 0),(19,.slice (Prod.fst (A.p (Ky.mk 6 f.r []))) (List.length (lat pm (Ky.mk 6 f.r []))) (Prod.snd (A.p (Ky.mk 6 f.r [])))),(20,.int .i64 (List.length (lat pm (Ky.mk 6 f.r [])):Int)),(21,.int .i64 (i:Int)),(60,.slice (Prod.fst (A.p (Ky.mk 6 [] f.r))) (List.length (lat pm (Ky.mk 6 [] f.r))) (Prod.snd (A.p (Ky.mk 6 [] f.r)))),(61,.int .i64 (List.length (lat pm (Ky.mk 6 [] f.r)):Int)),(62,.int .i64 (y.1.1:Int))]) (fun y=>((b1,.cells #[.int .i64 f.kind,str f.a,str f.b,str f.r,.int .i64 f.lo,.int .i64 f.hi] 24 (0,0))::y.1.2)) (fun y=>[gF B E,pF B pm A,aF B x A,uF B x A,oF B x A,iF B x A,rF B x A,sF B x A,E.ef]) (fun y=>List.length (lat pm (Ky.mk 6 [] f.r)) - y.1.1) ⟨((0:Nat),Hs_i),by simp,by have e9:List.take i (lat pm (Ky.mk 6 f.r []))=(lat pm (Ky.mk 6 f.r [])):=List.take_of_length_le (by omega);rw[e9]at hS_i;exact hS_i⟩ zl (o_ e_ bH_) zh ?_
  rintro ⟨⟨k,Hs_k⟩,hi_k,hS_k⟩
  dsimp only at hi_k hS_k ⊢
  have hb_k:=hpl (Ky.mk 6 [] f.r)
  refine Zi 2 (fun hr2=>?_) fun hr2=>?_
  ·refine Zz 6 ?_
   exact cW_ Tryz.results107 ⟨Hs_k,by rw[aF_];unfold gZ_;have e8:List.take k (lat pm (Ky.mk 6 [] f.r))=lat pm (Ky.mk 6 [] f.r):=List.take_of_length_le (by omega);rw[e8]at hS_k;exact hS_k⟩ rfl P_ zt
  obtain⟨hlx3,x3,hx3,hmx3⟩:=zge (show k<List.length (lat pm (Ky.mk 6 [] f.r)) by omega)
  refine Zz 10 ?_
  refine d_ (X_ aJ_ am_ rfl rfl (fun v _ h=>I_ (n:=10) Pc.cells_len (by decide) (by exact (bs_ h.2.1 (Ky.mk 6 [] f.r))) hx3) (by omega) (by first|omega|(simp;done))) rfl ?_
  refine d_ (aA_ (ad:=(Prod.fst (A.p (Ky.mk 6 [] f.r)))) (us:=Pc.cells x3) dJ_ am_ rfl (fun v _ h=>by exact (bs_ h.2.1 (Ky.mk 6 [] f.r))) (Pc.cells_len _) (G_ Pc.cells_len hx3)) rfl (C_ bv_ rfl fun b2=>w_ 0 am_ rfl rfl rfl rfl rfl rfl (Zz 4 ?_))
  refine n_ 0 [0,1,2,3,4,5,6,7,8,9,10,11] zk zs (Zz 8 ?_)
  refine Z_ rfl (K_ fm_ rfl rfl) rfl (Z_ rfl (cb_ (k:=(f.a,x3.r)) (adr:=A.i) cO_ bL_ bp_ rfl rfl zf) rfl (Zz 6 ?_))
  refine av_ (ι:={y:Nat×Hp // y.1≤List.length (lat x.into (f.a,x3.r))∧E.St (emits E.stp (List.map (fun a=>ah_ a x3.t f.b) (List.take y.1 (lat x.into (f.a,x3.r)))) (emits E.stp (List.flatMap (fun y=>List.map (fun a=>ah_ a y.t f.b) (lat x.into (Fc.a f,Pc.r y))) (List.take k (lat pm (Ky.mk 6 [] f.r)))) (emits E.stp (fq_ pm x f) nw))) fm y.2}) (fun y=>[(0,zp_ B.g 0),(3,zp_ b1 0),(19,.slice (Prod.fst (A.p (Ky.mk 6 f.r []))) (List.length (lat pm (Ky.mk 6 f.r []))) (Prod.snd (A.p (Ky.mk 6 f.r [])))),(20,.int .i64 (List.length (lat pm (Ky.mk 6 f.r [])):Int)),(21,.int .i64 (i:Int)),(60,.slice (Prod.fst (A.p (Ky.mk 6 [] f.r))) (List.length (lat pm (Ky.mk 6 [] f.r))) (Prod.snd (A.p (Ky.mk 6 [] f.r)))),(61,.int .i64 (List.length (lat pm (Ky.mk 6 [] f.r)):Int)),(62,.int .i64 (k:Int)),(9,zp_ b2 0),(75,.slice (Prod.fst (A.i (f.a,x3.r))) (List.length (lat x.into (f.a,x3.r))) (Prod.snd (A.i (f.a,x3.r)))),(76,.int .i64 (List.length (lat x.into (f.a,x3.r)):Int)),(77,.int .i64 (y.1.1:Int))]) (fun y=>((b2,.cells #[.int .i64 x3.kind,str x3.a,str x3.b,str x3.c,str x3.r,str x3.s,str x3.t,.int .i64 x3.lo,.int .i64 x3.hi,.int .i64 x3.frm] 73 (0,0))::((b1,.cells #[.int .i64 f.kind,str f.a,str f.b,str f.r,.int .i64 f.lo,.int .i64 f.hi] 24 (0,0))::y.1.2))) (fun y=>[gF B E,pF B pm A,aF B x A,uF B x A,oF B x A,iF B x A,rF B x A,sF B x A,E.ef]) (fun y=>List.length (lat x.into (f.a,x3.r)) - y.1.1) ⟨((0:Nat),Hs_k),by simp,by exact hS_k⟩ zl zp zh ?_
  rintro ⟨⟨l,Hs_l⟩,hi_l,hS_l⟩
  dsimp only at hi_l hS_l ⊢
  have hb_l:=(hyl (f.a,x3.r)).2.1
  refine Zi 2 (fun hr3=>?_) fun hr3=>?_
  ·refine Zz 11 ?_
   exact Q_ ⟨(k+1,Hs_l),hlx3,(by rw[gA_ hx3,aF_];have e9:List.take l (lat x.into (Fc.a f,Pc.r x3))=(lat x.into (Fc.a f,Pc.r x3)):=List.take_of_length_le (by omega);rw[e9]at hS_l;exact hS_l)⟩ (by dsimp only;omega) zl (o_ (c_ e_) P_) zh
  obtain⟨hlx4,x4,hx4,hmx4⟩:=zge (show l<List.length (lat x.into (f.a,x3.r)) by omega)
  refine Zz 10 ?_
  refine d_ (X_ N_ al_ rfl rfl (fun v _ h=>I_ (n:=1) aS_ (by decide) (by exact (bs_ h.2.2.2.2.2.1 (f.a,x3.r))) hx4) (by omega) (by first|omega|(simp;done))) rfl ?_
  refine d_ (bn_ (ad:=(Prod.fst (A.i (f.a,x3.r)))) ai_ rfl (fun v _ h=>by exact (bs_ h.2.2.2.2.2.1 (f.a,x3.r))) (G_ aS_ hx4 0 _ rfl)) rfl (Zz 3 ?_)
  refine ax_ ((b2,.cells #[.int .i64 x3.kind,str x3.a,str x3.b,str x3.c,str x3.r,str x3.s,str x3.t,.int .i64 x3.lo,.int .i64 x3.hi,.int .i64 x3.frm] 73 (0,0))::((b1,.cells #[.int .i64 f.kind,str f.a,str f.b,str f.r,.int .i64 f.lo,.int .i64 f.hi] 24 (0,0))::[])) zk ?_
  refine n_ 2 [0,1,2,3,4,5,6,7,8] zk zs (Zz 10 ?_)
  refine i_ 9 rfl zk (q_ (kE_ x4 x3.t f.b) rfl g_ zt rfl fun _=>Zz 3 ?_)
  refine i_ 10 rfl zk (aR_ (first:=[]) (cap:=E.caps) (E.emit (ah_ x4 x3.t f.b) (emits E.stp (List.map (fun a=>ah_ a x3.t f.b) (List.take l (lat x.into (f.a,x3.r)))) (emits E.stp (List.flatMap (fun y=>List.map (fun a=>ah_ a y.t f.b) (lat x.into (Fc.a f,Pc.r y))) (List.take k (lat pm (Ky.mk 6 [] f.r)))) (emits E.stp (fq_ pm x f) nw))) fm Hs_l hS_l) rfl rfl zp zf rfl fun⟨Hs1,hS1⟩=>?_)
  dsimp only
  refine Zz 10 ?_
  exact Q_ ⟨(l+1,Hs1),hlx4,(by rw[eE_ hx4,aF_];exact hS1)⟩ (by dsimp only;omega) zl zp zh
 obtain⟨hlx1,x1,hx1,hmx1⟩:=zge (show i<List.length (lat pm (Ky.mk 6 f.r [])) by omega)
 refine Zz 10 ?_
 refine d_ (X_ aJ_ am_ rfl rfl (fun v _ h=>I_ (n:=10) Pc.cells_len (by decide) (by exact (bs_ h.2.1 (Ky.mk 6 f.r []))) hx1) (by omega) (by first|omega|(simp;done))) rfl ?_
 refine d_ (aA_ (ad:=(Prod.fst (A.p (Ky.mk 6 f.r [])))) (us:=Pc.cells x1) dJ_ am_ rfl (fun v _ h=>by exact (bs_ h.2.1 (Ky.mk 6 f.r []))) (Pc.cells_len _) (G_ Pc.cells_len hx1)) rfl (C_ bv_ rfl fun b3=>w_ 0 am_ rfl rfl rfl rfl rfl rfl (Zz 4 ?_))
 refine n_ 0 [0,1,2,3,4,5,6,7,8,9,10,11] zk zs (Zz 8 ?_)
 refine Z_ rfl (K_ fm_ rfl rfl) rfl (Z_ rfl (cb_ (k:=(f.b,x1.s)) (adr:=A.o) cO_ bL_ bp_ rfl rfl zf) rfl (Zz 6 ?_))
 refine av_ (ι:={y:Nat×Hp // y.1≤List.length (lat x.frm (f.b,x1.s))∧E.St (emits E.stp (List.map (fun a=>ah_ f.a x1.t a) (List.take y.1 (lat x.frm (f.b,x1.s)))) (emits E.stp (List.flatMap (fun y=>List.map (fun a=>ah_ f.a y.t a) (lat x.frm (Fc.b f,Pc.s y))) (List.take i (lat pm (Ky.mk 6 f.r [])))) nw)) fm y.2}) (fun y=>[(0,zp_ B.g 0),(3,zp_ b1 0),(19,.slice (Prod.fst (A.p (Ky.mk 6 f.r []))) (List.length (lat pm (Ky.mk 6 f.r []))) (Prod.snd (A.p (Ky.mk 6 f.r [])))),(20,.int .i64 (List.length (lat pm (Ky.mk 6 f.r [])):Int)),(21,.int .i64 (i:Int)),(5,zp_ b3 0),(34,.slice (Prod.fst (A.o (f.b,x1.s))) (List.length (lat x.frm (f.b,x1.s))) (Prod.snd (A.o (f.b,x1.s)))),(35,.int .i64 (List.length (lat x.frm (f.b,x1.s)):Int)),(36,.int .i64 (y.1.1:Int))]) (fun y=>((b3,.cells #[.int .i64 x1.kind,str x1.a,str x1.b,str x1.c,str x1.r,str x1.s,str x1.t,.int .i64 x1.lo,.int .i64 x1.hi,.int .i64 x1.frm] 73 (0,0))::((b1,.cells #[.int .i64 f.kind,str f.a,str f.b,str f.r,.int .i64 f.lo,.int .i64 f.hi] 24 (0,0))::y.1.2))) (fun y=>[gF B E,pF B pm A,aF B x A,uF B x A,oF B x A,iF B x A,rF B x A,sF B x A,E.ef]) (fun y=>List.length (lat x.frm (f.b,x1.s)) - y.1.1) ⟨((0:Nat),Hs_i),by simp,by exact hS_i⟩ zl zp zh ?_
 rintro ⟨⟨j,Hs_j⟩,hi_j,hS_j⟩
 dsimp only at hi_j hS_j ⊢
 have hb_j:=(hyl (f.b,x1.s)).1
 refine Zi 2 (fun hr4=>?_) fun hr4=>?_
 ·refine Zz 11 ?_
  exact Q_ ⟨(i+1,Hs_j),hlx1,(by rw[gA_ hx1,aF_];have e9:List.take j (lat x.frm (Fc.b f,Pc.s x1))=(lat x.frm (Fc.b f,Pc.s x1)):=List.take_of_length_le (by omega);rw[e9]at hS_j;exact hS_j)⟩ (by dsimp only;omega) zl (o_ (c_ e_) P_) zh
 obtain⟨hlx2,x2,hx2,hmx2⟩:=zge (show j<List.length (lat x.frm (f.b,x1.s)) by omega)
 refine Zz 10 ?_
 refine d_ (X_ N_ al_ rfl rfl (fun v _ h=>I_ (n:=1) aS_ (by decide) (by exact (bs_ h.2.2.2.2.1 (f.b,x1.s))) hx2) (by omega) (by first|omega|(simp;done))) rfl ?_
 refine d_ (bn_ (ad:=(Prod.fst (A.o (f.b,x1.s)))) ai_ rfl (fun v _ h=>by exact (bs_ h.2.2.2.2.1 (f.b,x1.s))) (G_ aS_ hx2 0 _ rfl)) rfl (Zz 3 ?_)
 refine ax_ ((b3,.cells #[.int .i64 x1.kind,str x1.a,str x1.b,str x1.c,str x1.r,str x1.s,str x1.t,.int .i64 x1.lo,.int .i64 x1.hi,.int .i64 x1.frm] 73 (0,0))::((b1,.cells #[.int .i64 f.kind,str f.a,str f.b,str f.r,.int .i64 f.lo,.int .i64 f.hi] 24 (0,0))::[])) zk ?_
 refine n_ 2 [0,1,2,3,4,5,6,7,8] zk zs (Zz 10 ?_)
 refine i_ 9 rfl zk (q_ (kE_ f.a x1.t x2) rfl g_ zt rfl fun _=>Zz 3 ?_)
 refine i_ 10 rfl zk (aR_ (first:=[]) (cap:=E.caps) (E.emit (ah_ f.a x1.t x2) (emits E.stp (List.map (fun a=>ah_ f.a x1.t a) (List.take j (lat x.frm (f.b,x1.s)))) (emits E.stp (List.flatMap (fun y=>List.map (fun a=>ah_ f.a y.t a) (lat x.frm (Fc.b f,Pc.s y))) (List.take i (lat pm (Ky.mk 6 f.r [])))) nw)) fm Hs_j hS_j) rfl rfl zp zf rfl fun⟨Hs2,hS2⟩=>?_)
 dsimp only
 refine Zz 10 ?_
 exact Q_ ⟨(j+1,Hs2),hlx2,(by rw[eE_ hx2,aF_];exact hS2)⟩ (by dsimp only;omega) zl zp zh
theorem nX_ (B:EngB) (E:Emt Tryz.prog 24) (A:EngA) (pm:List (Ky×Pc)) (x:Ix) (f:Fc) (nw fm:List Fc) (Hs:Hp) (hS:E.St nw fm Hs) (hpl:∀ k,(lat pm k).length≤1000000000) (hxl:∀ k,(lat x.above k).length≤1000000000∧(lat x.under k).length≤1000000000) (hyl:∀ k,(lat x.frm k).length≤1000000000∧(lat x.into k).length≤1000000000∧(lat x.ranges k).length≤1000000000∧(lat x.firms k).length≤1000000000):Tri Tryz.prog 104 #[zp_ B.g 0,Fc.val f] Hs [gF B E,pF B pm A,aF B x A,uF B x A,oF B x A,iF B x A,rF B x A,sF B x A,E.ef] (fun _:{H':Hp // E.St (emits E.stp (dh_ x f) nw) fm H'}=>.tuple #[]) (fun y=>y.1) (fun _=>[]):=by
 refine t_ Tryz.func104 rfl rfl Tryz.ntmps104 rfl fun v0=>?_
 refine Zz 2 ?_
 refine ag_ rfl rfl fun b1=>Zi 6 (fun hr1=>?_) fun hr1=>?_
 ·refine Zz 5 ?_
  exact cW_ Tryz.results104 ⟨Hs,by unfold dh_;rw[if_neg (by assumption)];exact hS⟩ rfl P_ zt
 refine Zz 5 ?_
 refine n_ 0 [0,1,2,3,4,5,6,7,8] zk zs (Zz 6 ?_)
 refine Z_ rfl (cb_ (k:=f.a) (adr:=A.u) iH_ ca_ bp_ rfl rfl zf) rfl (Zz 6 ?_)
 refine av_ (ι:={y:Nat×Hp // y.1≤List.length (lat x.under f.a)∧E.St (emits E.stp (List.map (fun a=>M_ a [33]) (List.take y.1 (lat x.under f.a))) nw) fm y.2}) (fun y=>[(0,zp_ B.g 0),(15,.slice (Prod.fst (A.u f.a)) (List.length (lat x.under f.a)) (Prod.snd (A.u f.a))),(16,.int .i64 (List.length (lat x.under f.a):Int)),(17,.int .i64 (y.1.1:Int))]) (fun y=>(y.1.2)) (fun y=>[gF B E,pF B pm A,aF B x A,uF B x A,oF B x A,iF B x A,rF B x A,sF B x A,E.ef]) (fun y=>List.length (lat x.under f.a) - y.1.1) ⟨((0:Nat),Hs),by simp,by exact hS⟩ zl P_ zh ?_
 rintro ⟨⟨i,Hs_i⟩,hi_i,hS_i⟩
 dsimp only at hi_i hS_i ⊢
 have hb_i:=(hxl f.a).2
 refine Zi 2 (fun hr2=>?_) fun hr2=>?_
 ·refine Zz 6 ?_
  exact cW_ Tryz.results104 ⟨Hs_i,by unfold dh_;rw[if_pos (by assumption)];rw[List.take_of_length_le (by omega)]at hS_i;exact hS_i⟩ rfl bH_ zt
 obtain⟨hlx1,x1,hx1,hmx1⟩:=zge (show i<List.length (lat x.under f.a) by omega)
 refine Zz 10 ?_
 refine d_ (X_ N_ al_ rfl rfl (fun v _ h=>I_ (n:=1) aS_ (by decide) (by exact (bs_ h.2.2.2.1 f.a)) hx1) (by omega) (by first|omega|(simp;done))) rfl ?_
 refine d_ (bn_ (ad:=(Prod.fst (A.u f.a))) ai_ rfl (fun v _ h=>by exact (bs_ h.2.2.2.1 f.a)) (G_ aS_ hx1 0 _ rfl)) rfl (Zz 3 ?_)
 refine ax_ ([]) zk ?_
 refine n_ 2 [0,1,2,3,4] zk zs (Zz 6 ?_)
 refine i_ 5 rfl zk (q_ (fA_ x1 [33]) rfl g_ zt rfl fun _=>ac_ lF_ (Zz 3 ?_))
 refine i_ 6 rfl zk (aR_ (first:=[]) (cap:=E.caps) (E.emit (M_ x1 [33]) (emits E.stp (List.map (fun a=>M_ a [33]) (List.take i (lat x.under f.a))) nw) fm Hs_i hS_i) rfl rfl bH_ zf rfl fun⟨Hs1,hS1⟩=>?_)
 dsimp only
 refine ac_ iF_ (Zz 10 ?_)
 exact Q_ ⟨(i+1,Hs1),hlx1,(by rw[eE_ hx1,aF_];exact hS1)⟩ (by dsimp only;omega) zl bH_ zh
theorem nW_ (B:EngB) (E:Emt Tryz.prog 24) (A:EngA) (pm:List (Ky×Pc)) (x:Ix) (f:Fc) (nw fm:List Fc) (Hs:Hp) (hS:E.St nw fm Hs) (hpl:∀ k,(lat pm k).length≤1000000000) (hxl:∀ k,(lat x.above k).length≤1000000000∧(lat x.under k).length≤1000000000) (hyl:∀ k,(lat x.frm k).length≤1000000000∧(lat x.into k).length≤1000000000∧(lat x.ranges k).length≤1000000000∧(lat x.firms k).length≤1000000000):Tri Tryz.prog 109 #[zp_ B.g 0,Fc.val f] Hs [gF B E,pF B pm A,aF B x A,uF B x A,oF B x A,iF B x A,rF B x A,sF B x A,E.ef] (fun _:{H':Hp // E.St (if M_ f.b [33]∈E.kof nw then E.stp (M_ f.a [33]) nw else nw) fm H'}=>.tuple #[]) (fun y=>y.1) (fun _=>[]):=by
 refine t_ Tryz.func109 rfl rfl Tryz.ntmps109 rfl fun v0=>?_
 refine Zz 2 ?_
 refine ag_ rfl rfl fun b1=>Zz 4 ?_
 refine n_ 2 [0,1,2,3,4,5] zk zs (Zz 7 ?_)
 refine i_ 6 rfl zk (q_ (fA_ f.b [33]) rfl g_ zt rfl fun _=>Zz 3 ?_)
 refine n_ 0 [7] zk zs (cj_ rfl (hB_ (f:=(M_ f.b [33])) hS iI_ aQ_ cw_ rfl rfl P_) rfl fun r1 hr1=>Zz 3 ?_)
 cases r1
 ·replace hr1:=zdf hr1
  refine Zz 3 ?_
  exact cW_ Tryz.results109 ⟨Hs,by first|(rw[if_pos (by assumption)];exact hS)|(rw[if_neg (by assumption)];exact hS)⟩ rfl P_ zt
 replace hr1:=zdt hr1
 refine L_ rfl ?_
 refine ax_ ((b1,.cells #[.int .i64 f.kind,str f.a,str f.b,str f.r,.int .i64 f.lo,.int .i64 f.hi] 24 (0,0))::[]) zk ?_
 refine n_ 2 [0,1,2,3,4,5] zk zs (Zz 7 ?_)
 refine i_ 6 rfl zk (q_ (fA_ f.a [33]) rfl g_ zt rfl fun _=>Zz 3 ?_)
 refine i_ 7 rfl zk (aR_ (first:=[]) (cap:=E.caps) (E.emit (M_ f.a [33]) nw fm Hs hS) rfl rfl P_ zf rfl fun⟨Hs1,hS1⟩=>?_)
 dsimp only
 refine Zz 5 ?_
 exact cW_ Tryz.results109 ⟨Hs1,by first|(rw[if_pos (by assumption)];exact hS1)|(rw[if_neg (by assumption)];exact hS1)⟩ rfl u_ zt
end Go.Proofs.YtaffcjgphlhppaaGreatDoor
