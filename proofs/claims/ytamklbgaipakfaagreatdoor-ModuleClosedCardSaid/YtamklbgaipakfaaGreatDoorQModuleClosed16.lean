/-
  Part of the proof of the law ModuleClosed over this seat: the small logic, the data, the contracts of functions (no condition).
-/
import Derived.Test.YtamklbgaipakfaaGreatDoorQModuleClosed15
import Derived.Test.YtamklbgaipakfaaGreatDoorQModuleClosed13
import Derived.Test.YtamklbgaipakfaaGreatDoorQModuleClosed7
import Derived.Test.YtamklbgaipakfaaGreatDoorQModuleClosed4
import Derived.Test.YtamklbgaipakfaaGreatDoorRows
set_option linter.unusedVariables false
set_option linter.unusedSimpArgs false
set_option linter.unusedSectionVars false
set_option maxHeartbeats 1000000
namespace Go.Proofs.YtamklbgaipakfaaGreatDoor
open Go Go.Sx Go.Proofs
attribute [local irreducible] Code.wp wpList wpAnyH
open Go.Vs
theorem oM_ {l:List Ax} {p:List Pc} (h12:l.length≤12) (h:av_ l=(p,0)):(∀ x∈l,x.check=0)∧p=kw_ 0 l:=by
 by_cases hb:cV_ l=0
 ·have hc:=hN_ hb
  rw[ll_ (by omega) hc]at h
  exact⟨hc,(Prod.mk.inj h).1.symm⟩
 rw[ke_ (by omega) hb]at h
 exact absurd (Prod.mk.inj h).2 hb
theorem sb_ (l:List Ax) (ad:Option Addr) (cap:Nat) (hcap:l.length≤2199023255488) (hok:∀ x∈l,x.ok) {p:List Pc} {er:Int} (e:av_ l=(p,er)) :
    Tri Tryz.prog 27 #[.slice ad l.length cap] [] [dn_ ad l,bZ_] (fun y:{y:Option Addr×Nat // p.length≤y.2∧y.2≤maxLen∧(y.1=none→y.2=0)}=>.tuple #[.slice y.1.1 p.length y.1.2,.int .i64 er]) (fun _=>[]) (fun y=>[ah_ y.1.1 (p.flatMap Pc.cells)]):=by
  have h:=my_ l ad cap hcap hok
  generalize av_ l=g at h e
  subst e
  exact h
end Go.Proofs.YtamklbgaipakfaaGreatDoor
namespace Go.Proofs.YtamklbgaipakfaaGreatDoor
open Go Go.Sx Go.Proofs
attribute [local irreducible] Code.wp wpList wpAnyH
open Go.Vs
theorem pA_ {p:List Pc} {er:Int} {v:Bool} {S X:List Str} (h:hW_ p er v S X 0):er=0∧v=true∧SrS X∧∀ n,n∈X↔Rch p S ⟨1,n⟩:=by
 rcases h with⟨h1,_,h3⟩|⟨_,_,_,h4⟩|⟨h1,h2,_,h4,h5⟩
 ·exact absurd h3.symm h1
 ·exact absurd h4 (by decide)
 exact⟨h1,h2,h4,h5⟩
theorem sL_ {p:List Pc} {S X:List Str} (h:∀ n,n∈X↔Rch p S ⟨1,n⟩):1≤X.length:=by
  have:([33]:Str)∈X:=(h _).2 (.base (by simp[do_]))
  exact List.length_pos_of_mem this
theorem srs_up {X:List Str} {i:Nat} {x z:Str} (h:SrS X) (hx:X[i]? = some x) (hz:X[i - 1]? = some z) (h0:1≤i):z<x:=by
  have hi:=(List.getElem?_eq_some_iff.1 hx).1
  have hj:=(List.getElem?_eq_some_iff.1 hz).1
  have:=List.pairwise_iff_getElem.1 h (i - 1) i hj hi (by omega)
  rwa [(List.getElem?_eq_some_iff.1 hx).2,(List.getElem?_eq_some_iff.1 hz).2]at this
theorem gp_ {α:Type} {f:α→Bool} {X:List α} {k:Nat} {c:Bool} (h:true=(c||(List.take k X).any f)):true=(c||(List.take (k+1) X).any f):=by
 rw[List.take_add_one,List.any_append]
 cases c
 ·rw[Bool.false_or]at h ⊢
  rw[← h,Bool.true_or]
 rfl
theorem gq_ {α:Type} {f:α→Bool} {X:List α} {k:Nat} {c:Bool} {x:α} (h:false=(c||(List.take k X).any f)) (hx:X[k]? = some x):f x=(c||(List.take (k+1) X).any f):=by
  rw[List.take_add_one,List.any_append,hx,← Bool.or_assoc,← h]
  simp
theorem kp_ {X:List Str} {F:List Fc} {p:List Pc} {S:List Str} {k:Nat} {u1:Fc} (hm:∀ n,n∈X↔Rch p S ⟨1,n⟩) (hl:∀ y∈F,Rch p S ⟨1,y.a⟩→y.kind=3∨Rch p S ⟨1,y.b⟩) (hu:u1∈F) (hk:X.length≤k)
    (h1:true=(false||(List.take k X).any (fun z:Str=>decide (z=Fc.a u1)))) (h2:false=((decide (Fc.kind u1=3)||decide (Fc.b u1=[33]))||(List.take k X).any (fun z:Str=>decide (z=Fc.b u1)))):False:=by
  rw[List.take_of_length_le hk]at h1 h2
  rw[Bool.false_or]at h1
  obtain⟨z,hz,e⟩:=List.any_eq_true.1 h1.symm
  obtain rfl:=of_decide_eq_true e
  have h3:=h2.symm
  rw[Bool.or_eq_false_iff,Bool.or_eq_false_iff,List.any_eq_false]at h3
  rcases hl u1 hu ((hm _).1 hz) with q|q
  · exact of_decide_eq_false h3.1.1 q
  · exact h3.2 _ ((hm _).2 q) (decide_eq_true rfl)
set_option maxHeartbeats 1000000 in
theorem moduleClosed_c (hsane:Tri Tryz.prog 8 #[] [] [bZ_] (fun _:Unit=>.bool true) (fun _=>[]) (fun _=>[])) (ls:List Ax) (lad:Option Addr) (lcap:Nat) (hcap:ls.length≤lcap∧lcap≤2199023255488) (hok:∀ x∈ls,x.ok) (S:List Str) (sad:Option Addr) (scap:Nat) (hSb:S.length≤8796093021952) (hSl:∀ s∈S,s.length≤140737488351232):Tri Tryz.prog 7 #[.slice lad (List.length ls) lcap,.slice sad (List.length S) scap] [] [dn_ lad ls,ah_ sad (List.flatMap ax_ S),bZ_,jC_] (fun _:Unit=>.bool true) (fun _=>[]) (fun _=>[]):=by
 refine l_ Tryz.func7 rfl rfl Tryz.ntmps7 rfl fun v0=>?_
 refine Zz 8 ?_
 refine f_ (hsane) rfl g_ zf rfl fun _=>d_ (aT_ rfl) rfl (Zz 9 ?_)
 refine f_ (vu_ ls lad lcap hcap hok) rfl g_ zf rfl fun⟨fb,hfb⟩=>?_
 dsimp only
 refine d_ (aT_ rfl) rfl (Zz 1 ?_)
 cases fb
 ·refine Zz 13 ?_
  exact I_ nl_ () rfl g_ zt
 obtain⟨h12,hfw⟩:=hfb rfl
 obtain⟨⟨p,er⟩,hPL⟩:∃ q,av_ ls=q:=⟨_,rfl⟩
 obtain⟨⟨R,e⟩,hR⟩:∃ q,hH_ ls p er S=q:=⟨_,rfl⟩
 have hpl:=pY_ h12 hPL
 refine Zz 3 ?_
 refine f_ (rH_ S sad scap hSb hSl) rfl g_ zf rfl fun⟨sb,hsb⟩=>?_
 dsimp only
 refine aM_ rfl rfl (d_ (aT_ rfl) rfl (Zz 3 ?_))
 cases sb
 ·refine Zz 7 ?_
  exact I_ nl_ () rfl g_ zt
 obtain⟨hS8,hS3⟩:=hsb rfl
 have hSl2:∀ s∈S,s.length≤100000:=fun s hs=>by have:=hS3 s hs;omega
 refine Zz 7 ?_
 refine f_ (vL_ ls lad lcap hcap hok (by omega) S sad scap (by omega) hSl2 p er hPL (by omega)) rfl g_ zf rfl fun⟨⟨X,q3,c3,f⟩,hA1,hq3⟩=>?_
 dsimp only
 refine Zz 10 ?_
 refine f_ (sb_ ls lad lcap (by omega) hok hPL) rfl g_ zf rfl fun⟨⟨pad,pcap⟩,hpc⟩=>?_
 dsimp only
 dsimp only at hpc
 refine Zi 11 (fun hr1=>?_) fun hr1=>?_
 ·have hf0:f=0:=by assumption
  obtain⟨her,hvS,hXs,hXm⟩:=pA_ (hf0▸hA1)
  obtain⟨hck,hpf⟩:=oM_ h12 (her▸hPL)
  have hsmp:∀ z∈p,z.sm:=fun z hz=>by rw[hpf]at hz;exact (lF_ ls 0 (by omega) hok hck z hz).2.2.1
  have hchk:dS_ p=0:=by unfold dS_;rw[if_neg (by omega),if_pos];rw[List.all_eq_true];exact fun z hz=>by rw[hpf]at hz;exact (lF_ ls 0 (by omega) hok hck z hz).2.2.2
  refine Zi 4 (fun hr2=>?_) fun hr2=>?_
  ·refine Zz 9 ?_
   refine f_ (all_c p pad pcap 20000 hsmp (by omega)) rfl g_ zf rfl fun⟨⟨c,gg⟩,hA2⟩=>?_
   dsimp only
   dsimp only at hA2
   have hlaw:=qE_ (S:=S) hA2 hchk
   refine Zz 3 ?_
   refine F_ Tryz.zeroValue61 rfl fun b1=>w_ 0 aW_ rfl rfl rfl rfl rfl rfl (Zi 7 (fun hr3=>?_) fun hr3=>?_)
   ·have hcl:=(hlaw.resolve_left (by omega)).2
    have hxl:=hW_.len (X:=X) hA1
    refine Zz 12 ?_
    refine ab_ (ι:={y:Nat // y≤List.length X∧1≤y}) (fun y=>[(4,.bool false),(5,.slice q3 (List.length X) c3),(9,zp_ b1 0),(11,.int .i64 (y.1:Int))]) (fun y=>((b1,.cells #[.slice c.aad (List.length c.atoms) c.acap,.slice c.fad (List.length c.facts) c.fcap] 61 (0,0))::[])) (fun y=>[ah_ c.aad (List.flatMap ax_ c.atoms),ah_ c.fad (List.flatMap Fc.cells c.facts),ah_ pad (List.flatMap Pc.cells p),ah_ q3 (List.flatMap ax_ X),dn_ lad ls,ah_ sad (List.flatMap ax_ S),bZ_,jC_]) (fun y=>List.length X - y.1) ⟨(1:Nat),sL_ hXm,Nat.le_refl _⟩ zl e_ zh ?_
    rintro ⟨i,hi_i,hi1⟩
    dsimp only at hi_i hi1 ⊢
    refine Zi 6 (fun hr4=>?_) fun hr4=>?_
    ·refine Zz 12 ?_
     refine ab_ (ι:={y:Nat // y≤List.length c.facts}) (fun y=>[(4,.bool false),(5,.slice q3 (List.length X) c3),(9,zp_ b1 0),(11,.int .i64 (i:Int)),(12,.int .i64 (y.1:Int))]) (fun y=>((b1,.cells #[.slice c.aad (List.length c.atoms) c.acap,.slice c.fad (List.length c.facts) c.fcap] 61 (0,0))::[])) (fun y=>[ah_ c.aad (List.flatMap ax_ c.atoms),ah_ c.fad (List.flatMap Fc.cells c.facts),ah_ pad (List.flatMap Pc.cells p),ah_ q3 (List.flatMap ax_ X),dn_ lad ls,ah_ sad (List.flatMap ax_ S),bZ_,jC_]) (fun y=>List.length c.facts - y.1) ⟨(0:Nat),by simp⟩ zl e_ zh ?_
     rintro ⟨m,hi_m⟩
     dsimp only at hi_m ⊢
     refine Zi 7 (fun hr5=>?_) fun hr5=>?_
     ·refine Zz 11 ?_
      exact I_ nl_ () rfl g_ zt
     have hlu1:m<List.length c.facts:=by omega
     obtain⟨u1,hu1⟩:∃ e0,c.facts[m]? = some e0:=⟨_,List.getElem?_eq_getElem hlu1⟩
     have hmu1:u1∈c.facts:=List.mem_of_getElem? hu1
     refine Zz 14 ?_
     refine F_ aP_ rfl fun b2=>w_ 0 ay_ rfl rfl rfl rfl rfl rfl (Zi 11 (fun hr6=>?_) fun hr6=>?_)
     ·refine Zz 6 ?_
      refine E_ (dd_ rfl rfl) rfl fun r7 hr7=>Zz 11 ?_
      refine ab_ (ι:={y:Nat×Bool×Bool // y.1≤List.length X∧y.2.1=(false||(List.take y.1 X).any (fun z:Str=>decide (z=Fc.a u1)))∧y.2.2=((decide (Fc.kind u1=3)||decide (Fc.b u1=[33]))||(List.take y.1 X).any (fun z:Str=>decide (z=Fc.b u1)))}) (fun y=>[(4,.bool false),(5,.slice q3 (List.length X) c3),(9,zp_ b1 0),(11,.int .i64 (i:Int)),(12,.int .i64 (m:Int)),(13,zp_ b2 0),(14,.bool y.1.2.1),(15,.bool y.1.2.2),(16,.int .i64 (y.1.1:Int))]) (fun y=>((b2,.cells #[.int .i64 u1.kind,str u1.a,str u1.b,str u1.r,.int .i64 u1.lo,.int .i64 u1.hi] 67 (0,0))::((b1,.cells #[.slice c.aad (List.length c.atoms) c.acap,.slice c.fad (List.length c.facts) c.fcap] 61 (0,0))::[]))) (fun y=>[ah_ c.aad (List.flatMap ax_ c.atoms),ah_ c.fad (List.flatMap Fc.cells c.facts),ah_ pad (List.flatMap Pc.cells p),ah_ q3 (List.flatMap ax_ X),dn_ lad ls,ah_ sad (List.flatMap ax_ S),bZ_,jC_]) (fun y=>List.length X - y.1.1) ⟨((0:Nat),false,r7),by simp,(by simp),(by subst hr7;first|(simp[*];done)|(simp[*];rw[Bool.eq_iff_iff];simp))⟩ zl zp zh ?_
      rintro ⟨⟨k,va,vo⟩,hi_k,hb1,hb2⟩
      dsimp only at hi_k hb1 hb2 ⊢
      refine Zi 6 (fun hr8=>?_) fun hr8=>?_
      ·refine Zz 9 ?_
       cases va
       ·refine Zz 14 ?_
        exact B_ ⟨m+1,hlu1⟩ (by dsimp only;omega) zl zp zh
       refine Zz 3 ?_
       refine d_ (aT_ rfl) rfl (Zz 3 ?_)
       cases vo
       ·exact (kp_ (X:=X) hXm hcl.2 hmu1 (by omega) hb1 hb2).elim
       refine Zz 9 ?_
       exact B_ ⟨m+1,hlu1⟩ (by dsimp only;omega) zl zp zh
      obtain⟨hlx1,x1,hx1,hmx1⟩:=zge (show k<List.length X by omega)
      refine Zz 9 ?_
      refine t_ 9 [0,1] zk zs (Zz 3 ?_)
      cases va
      ·refine t_ 0 [2,3,4,5,6,7,8,9,10] zk zs (Zz 6 ?_)
       refine eT_ rfl rfl rfl (dd_ rfl rfl) rfl fun r9 hr9=>Zz 6 ?_
       refine t_ 9 [0,1] zk zs (Zz 3 ?_)
       cases vo
       ·refine t_ 0 [2,3,4,5,6,7,8,9,10] zk zs (Zz 6 ?_)
        refine eT_ rfl rfl rfl (dd_ rfl rfl) rfl fun r10 hr10=>Zz 11 ?_
        exact B_ ⟨(k+1,r9,r10),hlx1,(by have q:=gq_ hb1 hx1;rw[← q,← hr9];first|rfl|(simp;done)|(rw[Bool.eq_iff_iff];simp)),(by have q:=gq_ hb2 hx1;rw[← q,← hr10];first|rfl|(simp;done)|(rw[Bool.eq_iff_iff];simp))⟩ (by dsimp only;omega) zl (o_ e_ e_) zh
       refine t_ 0 [2,3,4,5,6,7,8,9,10] zk zs (Zz 18 ?_)
       exact B_ ⟨(k+1,r9,true),hlx1,(by have q:=gq_ hb1 hx1;rw[← q,← hr9];first|rfl|(simp;done)|(rw[Bool.eq_iff_iff];simp)),gp_ hb2⟩ (by dsimp only;omega) zl (o_ e_ e_) zh
      refine t_ 0 [2,3,4,5,6,7,8,9,10] zk zs (Zz 13 ?_)
      refine t_ 9 [0,1] zk zs (Zz 3 ?_)
      cases vo
      ·refine t_ 0 [2,3,4,5,6,7,8,9,10] zk zs (Zz 6 ?_)
       refine eT_ rfl rfl rfl (dd_ rfl rfl) rfl fun r11 hr11=>Zz 11 ?_
       exact B_ ⟨(k+1,true,r11),hlx1,gp_ hb1,(by have q:=gq_ hb2 hx1;rw[← q,← hr11];first|rfl|(simp;done)|(rw[Bool.eq_iff_iff];simp))⟩ (by dsimp only;omega) zl (o_ e_ e_) zh
      refine t_ 0 [2,3,4,5,6,7,8,9,10] zk zs (Zz 18 ?_)
      exact B_ ⟨(k+1,true,true),hlx1,gp_ hb1,gp_ hb2⟩ (by dsimp only;omega) zl zp zh
     refine Zz 15 ?_
     refine ab_ (ι:={y:Nat×Bool×Bool // y.1≤List.length X∧y.2.1=(false||(List.take y.1 X).any (fun z:Str=>decide (z=Fc.a u1)))∧y.2.2=((decide (Fc.kind u1=3)||decide (Fc.b u1=[33]))||(List.take y.1 X).any (fun z:Str=>decide (z=Fc.b u1)))}) (fun y=>[(4,.bool false),(5,.slice q3 (List.length X) c3),(9,zp_ b1 0),(11,.int .i64 (i:Int)),(12,.int .i64 (m:Int)),(13,zp_ b2 0),(14,.bool y.1.2.1),(15,.bool y.1.2.2),(16,.int .i64 (y.1.1:Int))]) (fun y=>((b2,.cells #[.int .i64 u1.kind,str u1.a,str u1.b,str u1.r,.int .i64 u1.lo,.int .i64 u1.hi] 67 (0,0))::((b1,.cells #[.slice c.aad (List.length c.atoms) c.acap,.slice c.fad (List.length c.facts) c.fcap] 61 (0,0))::[]))) (fun y=>[ah_ c.aad (List.flatMap ax_ c.atoms),ah_ c.fad (List.flatMap Fc.cells c.facts),ah_ pad (List.flatMap Pc.cells p),ah_ q3 (List.flatMap ax_ X),dn_ lad ls,ah_ sad (List.flatMap ax_ S),bZ_,jC_]) (fun y=>List.length X - y.1.1) ⟨((0:Nat),false,true),by simp,(by simp),(by simp[*])⟩ zl zp zh ?_
     rintro ⟨⟨k,va,vo⟩,hi_k,hb1,hb2⟩
     dsimp only at hi_k hb1 hb2 ⊢
     refine Zi 6 (fun hr12=>?_) fun hr12=>?_
     ·refine Zz 9 ?_
      cases va
      ·refine Zz 14 ?_
       exact B_ ⟨m+1,hlu1⟩ (by dsimp only;omega) zl zp zh
      refine Zz 3 ?_
      refine d_ (aT_ rfl) rfl (Zz 3 ?_)
      cases vo
      ·exact (kp_ (X:=X) hXm hcl.2 hmu1 (by omega) hb1 hb2).elim
      refine Zz 9 ?_
      exact B_ ⟨m+1,hlu1⟩ (by dsimp only;omega) zl zp zh
     obtain⟨hlx1,x1,hx1,hmx1⟩:=zge (show k<List.length X by omega)
     refine Zz 9 ?_
     refine t_ 9 [0,1] zk zs (Zz 3 ?_)
     cases va
     ·refine t_ 0 [2,3,4,5,6,7,8,9,10] zk zs (Zz 6 ?_)
      refine eT_ rfl rfl rfl (dd_ rfl rfl) rfl fun r13 hr13=>Zz 6 ?_
      refine t_ 9 [0,1] zk zs (Zz 3 ?_)
      cases vo
      ·refine t_ 0 [2,3,4,5,6,7,8,9,10] zk zs (Zz 6 ?_)
       refine eT_ rfl rfl rfl (dd_ rfl rfl) rfl fun r14 hr14=>Zz 11 ?_
       exact B_ ⟨(k+1,r13,r14),hlx1,(by have q:=gq_ hb1 hx1;rw[← q,← hr13];first|rfl|(simp;done)|(rw[Bool.eq_iff_iff];simp)),(by have q:=gq_ hb2 hx1;rw[← q,← hr14];first|rfl|(simp;done)|(rw[Bool.eq_iff_iff];simp))⟩ (by dsimp only;omega) zl (o_ e_ e_) zh
      refine t_ 0 [2,3,4,5,6,7,8,9,10] zk zs (Zz 18 ?_)
      exact B_ ⟨(k+1,r13,true),hlx1,(by have q:=gq_ hb1 hx1;rw[← q,← hr13];first|rfl|(simp;done)|(rw[Bool.eq_iff_iff];simp)),gp_ hb2⟩ (by dsimp only;omega) zl (o_ e_ e_) zh
     refine t_ 0 [2,3,4,5,6,7,8,9,10] zk zs (Zz 13 ?_)
     refine t_ 9 [0,1] zk zs (Zz 3 ?_)
     cases vo
     ·refine t_ 0 [2,3,4,5,6,7,8,9,10] zk zs (Zz 6 ?_)
      refine eT_ rfl rfl rfl (dd_ rfl rfl) rfl fun r15 hr15=>Zz 11 ?_
      exact B_ ⟨(k+1,true,r15),hlx1,gp_ hb1,(by have q:=gq_ hb2 hx1;rw[← q,← hr15];first|rfl|(simp;done)|(rw[Bool.eq_iff_iff];simp))⟩ (by dsimp only;omega) zl (o_ e_ e_) zh
     refine t_ 0 [2,3,4,5,6,7,8,9,10] zk zs (Zz 18 ?_)
     exact B_ ⟨(k+1,true,true),hlx1,gp_ hb1,gp_ hb2⟩ (by dsimp only;omega) zl zp zh
    obtain⟨hlx1,x1,hx1,hmx1⟩:=zge (show i<List.length X by omega)
    obtain⟨hlx2,x2,hx2,hmx2⟩:=zge (show (Int.toNat ((i:Int) - 1))<List.length X by omega)
    have hup:=srs_up hXs hx1 (by rw[show i - 1=Int.toNat ((i:Int) - 1) by omega];exact hx2) hi1
    refine Zz 9 ?_
    refine t_ 0 [0,1,2,3,4,5,6,7,8,9] zk zs (Zz 9 ?_)
    refine gY_ rfl (sR_ rfl rfl) rfl fun r16 hr16=>Zz 3 ?_
    cases r16
    ·replace hr16:=zdf hr16
     refine Zz 9 ?_
     exact B_ ⟨i+1,hlx1,Nat.le_succ_of_le hi1⟩ (by dsimp only;omega) zl e_ zh
    replace hr16:=zdt hr16
    exact absurd hup (List.not_lt.2 (by assumption))
   refine Zi 6 (fun hr17=>?_) fun hr17=>?_
   ·refine Zz 4 ?_
    refine E_ (aI_ rfl rfl) rfl fun r18 hr18=>Zz 5 ?_
    exact I_ nl_ () (m_ rfl (by rw[← hr18];simp only[beq_iff_eq];rcases hlaw with q|⟨q,_⟩<;>omega)) g_ zt
   refine Zz 8 ?_
   exact I_ nl_ () rfl g_ zt
  exact absurd her hr2
 refine Zz 10 ?_
 refine E_ (cl_ rfl rfl) rfl fun r19 hr19=>Zz 4 ?_
 exact I_ nl_ () (m_ rfl (by rw[← hr19];simp only[bne_iff_ne,ne_eq];assumption)) g_ zt
end Go.Proofs.YtamklbgaipakfaaGreatDoor
namespace Go.Proofs.YtamklbgaipakfaaGreatDoor
open Go Go.Sx Go.Proofs
attribute [local irreducible] Code.wp wpList wpAnyH
open Go.Vs Go.ChangeShapes Go.WideShapes Go.ChangeAt Go.RowKit
theorem own:ownKnob Tryz.prog.godebug=none:=by kernel_rfl
def gm_ : List (String × DataW Unit) := [("math/bits.deBruijn32tab", Rows.laid_math_bits_deBruijn32tab), ("math/bits.deBruijn64tab", Rows.laid_math_bits_deBruijn64tab), ("internal/strconv.uint64pow10", Rows.laid_internal_strconv_uint64pow10), ("unicode/utf8.acceptRanges", Rows.laid_unicode_utf8_acceptRanges), ("veilstone/terms.needs", Rows.laid_veilstone_terms_needs), ("veilstone/terms.uses", Rows.laid_veilstone_terms_uses), ("veilstone/normal.uses", Rows.laid_veilstone_normal_uses), ("unicode/utf8.first", Rows.laid_unicode_utf8_first)]
theorem tM_:Kids Tryz.prog (·<Tryz.prog.types.size):=kids_rows (by kernel_rfl) (by kernel_rfl)
theorem full:∀ t e,t<Tryz.prog.types.size→Tryz.prog.underlying t=some (.slice e)→0<Tryz.prog.cellsOf e:=slices_full_of _ (by kernel_rfl)
theorem lw_:Tryz.prog.types.size=376:=by kernel_rfl
theorem tysX:Tys Tryz.prog 3 4 9 23 46 44 48 22 58 54 where
  i:=z_
  b:=Tryz.underlying4
  s:=aS_
  ss:=hC_
  c:=⟨_,Tryz.underlying46,rfl⟩
  cs:=Tryz.underlying44
  a:=⟨_,Tryz.underlying48,rfl⟩
  axs:=Tryz.underlying22
  p:=⟨_,fI_,rfl⟩
  ps:=Tryz.underlying54
  ci:=by kernel_rfl
  cb:=by kernel_rfl
  cs1:=by kernel_rfl
  css:=by kernel_rfl
  cc:=by kernel_rfl
  ccs:=by kernel_rfl
  ca:=by kernel_rfl
  cp:=by kernel_rfl
  bs:=by kernel_rfl
  bc:=by kernel_rfl
  ba:=by kernel_rfl
  bp:=by kernel_rfl
theorem ks_ {W:World} (h:laidMetH Tryz.prog gm_ W):∃ T fz,W.heap[3]? = some (.cells (fm_ (H:=Unit) Rows.laid_veilstone_terms_needs).toArray T fz):=by
  rw[MakeChecks.laidMetH_plain _ _ _ zk]at h
  exact iU_ tM_ (name := "veilstone/terms.needs") h (by simp [gm_]) (g := 3) (t := 288) zk zk (by rw [lw_]; decide) (m := 4) zk
theorem kY_ {W:World} (h:laidMetH Tryz.prog gm_ W):∃ T fz,W.heap[0]? = some (.cells (fm_ (H:=Unit) Rows.laid_veilstone_terms_uses).toArray T fz):=by
  rw[MakeChecks.laidMetH_plain _ _ _ zk]at h
  exact iU_ tM_ (name := "veilstone/terms.uses") h (by simp [gm_]) (g := 0) (t := 151) zk zk (by rw [lw_]; decide) (m := 4) zk
theorem kt_ {W:World} (h:laidMetH Tryz.prog gm_ W):∃ T fz,W.heap[1]? = some (.cells (fm_ (H:=Unit) Rows.laid_veilstone_normal_uses).toArray T fz):=by
  rw[MakeChecks.laidMetH_plain _ _ _ zk]at h
  exact iU_ tM_ (name := "veilstone/normal.uses") h (by simp [gm_]) (g := 1) (t := 247) zk zk (by rw [lw_]; decide) (m := 4) zk
theorem gz_ {W:World} (h:laidMetH Tryz.prog gm_ W):∃ T fz,W.heap[6]? = some (.cells (fm_ (H:=Unit) Rows.laid_internal_strconv_uint64pow10).toArray T fz):=by
  rw[MakeChecks.laidMetH_plain _ _ _ zk]at h
  exact iU_ tM_ (name := "internal/strconv.uint64pow10") h (by simp [gm_]) (g := 6) (t := 359) zk zk (by rw [lw_]; decide) (m := 4) zk
theorem nk_ {W:World} {g:Nat} {l:List Value} {d:List Value} (h:∃ T fz,W.heap[g]? = some (.cells l.toArray T fz)) (e:l=d):bR_ (vw W) (some ⟨g,0,none⟩) d:=by
  obtain⟨T,fz,h⟩:=h
  subst e
  exact .inr ⟨g,0,_,T,fz,rfl,(Array.getElem?_eq_some_iff.1 h).1,h,fun j x hj=>by rw[Nat.zero_add];simpa using hj⟩
theorem uF_ {W:World} (h:laidMetH Tryz.prog gm_ W):bZ_.p (vw W):=by
  refine⟨nk_ (ks_ h) zk,nk_ (kY_ h) zk,trivial,?_⟩
  obtain⟨T,fz,h2⟩:=gz_ h
  refine⟨trivial,(Array.getElem?_eq_some_iff.1 h2).1,T,fz,?_⟩
  rw[show (Lib.pow10Tab.map fun z=>Value.int .u64 z)=fm_ (H:=Unit) Rows.laid_internal_strconv_uint64pow10 by kernel_rfl]
  exact h2
theorem uG_ {W:World} (h:laidMetH Tryz.prog gm_ W):jC_.p (vw W):=nk_ (kt_ h) (by kernel_rfl)
end Go.Proofs.YtamklbgaipakfaaGreatDoor
