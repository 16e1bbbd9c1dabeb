/-
  Part of the proof of the law ProofFindSpec over this seat: the small logic, the data, the contracts of functions (no condition).
-/
import Derived.Test.YtkeanlfhghlgiaaGreatDoorQProofFindSpec10
import Derived.Test.YtkeanlfhghlgiaaGreatDoorQProofFindSpec4
set_option linter.unusedVariables false
set_option linter.unusedSimpArgs false
set_option linter.unusedSectionVars false
set_option maxHeartbeats 1000000
namespace Go.Proofs.YtkeanlfhghlgiaaGreatDoor
open Go Go.Sx Go.Proofs
attribute [local irreducible] Code.wp wpList wpAnyH
open Go.Vs
theorem tO_ (p:List Pc) (pad:Option Addr) (pcap:Nat) (l:List Fc) (lad:Option Addr) (lcap:Nat) (f:Fc) (hp:p.length≤100) (hl:l.length≤65536) (hs:Srt l):Tri Tryz.prog 113 #[.slice pad (List.length p) pcap,.slice lad (List.length l) lcap,Fc.val f] [] [af_ pad (List.flatMap Pc.cells p),af_ lad (List.flatMap Fc.cells l)] (fun y:{y:Option Addr×Nat // ((mB_ p l f)).length≤y.2∧y.2≤maxLen∧(y.1=none→y.2=0)}=>.slice y.1.1 ((mB_ p l f)).length y.1.2) (fun _=>[]) (fun y=>[af_ y.1.1 (((mB_ p l f)).flatMap Fc.cells)]):=by
 refine x_ Tryz.func113 rfl rfl Tryz.ntmps113 rfl fun v0=>?_
 refine Zz 2 ?_
 refine ay_ rfl rfl fun b1=>Zz 5 ?_
 refine dw_ z_ q_ rfl fun b2=>y_ d_ (Zz 4 ?_)
 refine y_ (av_ ac_) (Zz 6 ?_)
 refine U_ (ι:={y:Nat×Value×Hp // y.1≤List.length p∧zR 24 6 Fc.cells y.2.1 (List.flatMap (fa_ l f) (List.take y.1 p)) y.2.2}) (fun y=>[(0,.slice pad (List.length p) pcap),(1,.slice lad (List.length l) lcap),(5,zp_ b1 0),(6,.slice none 0 0),(7,y.1.2.1),(8,.int .i64 (y.1.1:Int))]) (fun y=>((b1,.cells #[.int .i64 f.kind,str f.a,str f.b,str f.r,.int .i64 f.lo,.int .i64 f.hi] 24 (0,0))::y.1.2.2)) (fun y=>[af_ pad (List.flatMap Pc.cells p),af_ lad (List.flatMap Fc.cells l)]) (fun y=>List.length p - y.1.1) ⟨((0:Nat),(.slice (some ⟨b2,0,none⟩) 0 0),[(b2,.cells #[] 24 (0,0))]),by simp,(ev_ b2 24 6)⟩ zl zp zh ?_
 rintro ⟨⟨i,sv_Rfc,H_Rfc⟩,hi_i,hr_Rfc⟩
 dsimp only at hi_i hr_Rfc ⊢
 have hb1:=dP_ (g:=fa_ l f) (n:=1) (List.take i p) (fun x _=>lT_ l f x)
 rw[List.length_take]at hb1
 refine Zi 6 (fun hr1=>?_) fun hr1=>?_
 ·rw[show List.take i p=p from List.take_of_length_le (by omega)]at hr_Rfc
  refine Zz 12 ?_
  have hw1:=zsw (subB p f) l hr_Rfc
  refine U_ (ι:={y:Nat×Value×Hp // y.1≤List.length l∧zR 24 6 Fc.cells y.2.1 (List.flatMap (fa_ l f) p++List.flatMap (subB p f) (List.take y.1 l)) y.2.2}) (fun y=>[(0,.slice pad (List.length p) pcap),(1,.slice lad (List.length l) lcap),(5,zp_ b1 0),(6,.slice none 0 0),(7,y.1.2.1),(8,.int .i64 (i:Int)),(10,.int .i64 (y.1.1:Int))]) (fun y=>((b1,.cells #[.int .i64 f.kind,str f.a,str f.b,str f.r,.int .i64 f.lo,.int .i64 f.hi] 24 (0,0))::y.1.2.2)) (fun y=>[af_ pad (List.flatMap Pc.cells p),af_ lad (List.flatMap Fc.cells l)]) (fun y=>List.length l - y.1.1) ⟨((0:Nat),sv_Rfc,H_Rfc),by simp,hw1⟩ zl zp zh ?_
  rintro ⟨⟨j,sv_Rfc,H_Rfc⟩,hi_j,hr_Rfc⟩
  dsimp only at hi_j hr_Rfc ⊢
  have hb0:=dP_ (g:=fa_ l f) (n:=1) p (fun x _=>lT_ l f x)
  have hb2:=dP_ (g:=subB p f) (n:=101) (List.take j l) (fun x _=>rp_ hp f x)
  rw[List.length_take]at hb2
  refine Zi 6 (fun hr2=>?_) fun hr2=>?_
  ·rw[show List.take j l=l from List.take_of_length_le (by omega)]at hr_Rfc
   refine Zz 12 ?_
   have hw2:aO_ 24 6 sv_Rfc (List.length (mB_ p l f)) (List.flatMap Fc.cells (mB_ p l f)) H_Rfc:=by have q:=hr_Rfc;exact q
   refine bj_ hw2 B_ fun ad2 cp2 had2 hcad2 hmad2 hzad2=>?_
   exact S_ Tryz.results113 ⟨(ad2,cp2),hcad2,hmad2,hzad2⟩ (bZ_ rfl had2) j_ zf
  obtain⟨hlx2,x2,hx2,hmx2⟩:=zge (show j<List.length l by omega)
  refine Zz 13 ?_
  refine J_ F_ rfl fun b3=>w_ 0 q_ rfl rfl rfl rfl rfl rfl (Zz 7 ?_)
  refine O_ (gk_ rfl rfl) rfl fun r3 hr3=>Zz 1 ?_
  refine ax_ 6 ((x2.kind != 2)||(x2.b != f.a)) (fun r=>[(0,.slice pad (List.length p) pcap),(1,.slice lad (List.length l) lcap),(5,zp_ b1 0),(6,.slice none 0 0),(7,sv_Rfc),(8,.int .i64 (i:Int)),(10,.int .i64 (j:Int)),(11,zp_ b3 0),(150,.bool r)]) ?_ fun r4 hr4=>?_
  ·cases r3
   ·have qr4:=hr3
    replace hr3:=mv_ hr3
    refine Zz 9 ?_
    refine O_ (iH_ rfl rfl) rfl fun r5 hr5=>Zz 3 ?_
    exact met ⟨rfl,rfl,rfl,rfl,rfl,rfl,rfl,rfl,(g_ rfl (jof qr4 hr5)),trivial⟩
   have qr4:=hr3
   replace hr3:=mh_ hr3
   refine Zz 8 ?_
   exact met ⟨rfl,rfl,rfl,rfl,rfl,rfl,rfl,rfl,(g_ rfl (jot qr4)),trivial⟩
  refine Zz 2 ?_
  cases r4
  ·simp at hr4
   refine Zi 8 (fun hr6=>?_) fun hr6=>?_
   ·refine Zz 11 ?_
    have hw3:=zsw (dG_ f x2) p hr_Rfc
    refine U_ (ι:={y:Nat×Value×Hp // y.1≤List.length p∧zR 24 6 Fc.cells y.2.1 ((List.flatMap (fa_ l f) p++List.flatMap (subB p f) (List.take j l))++List.flatMap (dG_ f x2) (List.take y.1 p)) y.2.2}) (fun y=>[(0,.slice pad (List.length p) pcap),(1,.slice lad (List.length l) lcap),(5,zp_ b1 0),(6,.slice none 0 0),(7,y.1.2.1),(8,.int .i64 (i:Int)),(10,.int .i64 (j:Int)),(11,zp_ b3 0),(12,.int .i64 (y.1.1:Int))]) (fun y=>((b3,.cells #[.int .i64 x2.kind,str x2.a,str x2.b,str x2.r,.int .i64 x2.lo,.int .i64 x2.hi] 24 (0,0))::((b1,.cells #[.int .i64 f.kind,str f.a,str f.b,str f.r,.int .i64 f.lo,.int .i64 f.hi] 24 (0,0))::y.1.2.2))) (fun y=>[af_ pad (List.flatMap Pc.cells p),af_ lad (List.flatMap Fc.cells l)]) (fun y=>List.length p - y.1.1) ⟨((0:Nat),sv_Rfc,H_Rfc),by simp,hw3⟩ zl zp zh ?_
    rintro ⟨⟨k,sv_Rfc,H_Rfc⟩,hi_k,hr_Rfc⟩
    dsimp only at hi_k hr_Rfc ⊢
    have hb3:=dP_ (g:=dG_ f x2) (n:=1) (List.take k p) (fun x _=>jm_ f x2 x)
    rw[List.length_take]at hb3
    refine Zi 6 (fun hr7=>?_) fun hr7=>?_
    ·rw[show List.take k p=p from List.take_of_length_le (by omega)]at hr_Rfc
     refine Zz 11 ?_
     exact u_ ⟨(j+1,sv_Rfc,H_Rfc),hlx2,(by have q:=hr_Rfc;rw[ba_ hx2,show (subB p f) x2=List.flatMap (dG_ f x2) p from (by rw[ke_,if_neg (by first|assumption|simpa using hr4),if_neg (by assumption)];rfl)];simpa only[List.append_assoc,List.append_nil] using q)⟩ (by dsimp only;omega) zl (f_ (c_ d_) B_) zh
    obtain⟨hlx3,x3,hx3,hmx3⟩:=zge (show k<List.length p by omega)
    refine Zz 9 ?_
    refine p_ 19 [0,1,2,3,4,5,6] zk zs (Zi 5 (fun hr8=>?_) fun hr8=>?_)
    ·refine Zz 2 ?_
     refine p_ 0 [7,8,9,10,11,12,13,14,15,16,17,18,19,20,21,22,23,24,25] zk zs (Zz 31 ?_)
     exact u_ ⟨(k+1,sv_Rfc,H_Rfc),hlx3,(by have q:=hr_Rfc;rw[ba_ hx3,show (dG_ f x2) x3=[] from (by unfold dG_;rw[if_neg (fun q=>by first|exact absurd q.1 (by assumption)|exact absurd q.2.1 (by assumption)|exact absurd q.2.2 (by assumption))])];simpa only[List.append_assoc,List.append_nil] using q)⟩ (by dsimp only;omega) zl (f_ d_ (f_ d_ aD_)) zh
    refine Zz 2 ?_
    refine p_ 9 [7,8,9,10,11,12,13,14,15,16] zk zs (Zi 7 (fun hr9=>?_) fun hr9=>?_)
    ·refine Zz 3 ?_
     refine p_ 0 [17,18,19,20,21,22,23,24,25] zk zs (Zz 21 ?_)
     exact u_ ⟨(k+1,sv_Rfc,H_Rfc),hlx3,(by have q:=hr_Rfc;rw[ba_ hx3,show (dG_ f x2) x3=[] from (by unfold dG_;rw[if_neg (fun q=>by first|exact absurd q.1 (by assumption)|exact absurd q.2.1 (by assumption)|exact absurd q.2.2 (by assumption))])];simpa only[List.append_assoc,List.append_nil] using q)⟩ (by dsimp only;omega) zl (f_ d_ (f_ d_ aD_)) zh
    refine Zz 3 ?_
    refine p_ 0 [17,18,19,20,21,22,23,24,25] zk zs (Zi 7 (fun hr10=>?_) fun hr10=>?_)
    ·refine Zz 13 ?_
     exact u_ ⟨(k+1,sv_Rfc,H_Rfc),hlx3,(by have q:=hr_Rfc;rw[ba_ hx3,show (dG_ f x2) x3=[] from (by unfold dG_;rw[if_neg (fun q=>by first|exact absurd q.1 (by assumption)|exact absurd q.2.1 (by assumption)|exact absurd q.2.2 (by assumption))])];simpa only[List.append_assoc,List.append_nil] using q)⟩ (by dsimp only;omega) zl (f_ d_ (f_ d_ aD_)) zh
    refine Zz 5 ?_
    refine ab_ ((b3,.cells #[.int .i64 x2.kind,str x2.a,str x2.b,str x2.r,.int .i64 x2.lo,.int .i64 x2.hi] 24 (0,0))::((b1,.cells #[.int .i64 f.kind,str f.a,str f.b,str f.r,.int .i64 f.lo,.int .i64 f.hi] 24 (0,0))::[])) zk ?_
    refine p_ 4 [0,1,2,3,4,5,6,7] zk zs (Zz 9 ?_)
    refine m_ 8 rfl zk (o_ (dX_ x2.a x3.c) rfl j_ zt rfl fun _=>Zz 3 ?_)
    refine m_ 9 rfl zk (N_ z_ q_ F_ rfl rfl rfl rfl rfl rfl fun b4=>?_)
    refine ar_ (List.flatMap Fc.cells [(D_ x2.a x3.c)]) d_ rfl ?_
    refine Zz 3 ?_
    refine m_ 10 rfl zk (au_ (news:=List.flatMap Fc.cells [(D_ x2.a x3.c)]) cc_ hr_Rfc rfl rfl (fun q=>by cases q) (by simp) zp (by rw[bk_ Fc.cells 6 Fc.cells_len];rfl) zf (fun u hu=>Y_ Fc.cells_one hu) (by simp only[maxLen];((try simp only[List.length_append,List.length_cons,List.length_nil]);omega)) (by ((try simp only[List.length_append,List.length_cons,List.length_nil]);omega)) rfl fun sv4 Hr4 hr4=>?_)
    refine y_ List.perm_append_comm ?_
    have hq4:=zsa hr4
    refine Zz 3 ?_
    refine p_ 0 [11] zk zs (Zz 10 ?_)
    exact u_ ⟨(k+1,sv4,Hr4),hlx3,(by have q:=hq4;rw[ba_ hx3,show (dG_ f x2) x3=[(D_ x2.a x3.c)] from (by unfold dG_;rw[if_pos ⟨by assumption,by assumption,by assumption⟩])];simpa only[List.append_assoc,List.append_nil] using q)⟩ (by dsimp only;omega) zl (f_ d_ (f_ d_ aD_)) (fun _ _ h=>h.2)
   refine Zz 7 ?_
   refine o_ (dX_ x2.a [33]) rfl j_ zt rfl fun _=>N_ z_ q_ F_ rfl rfl rfl rfl rfl rfl fun b5=>?_
   refine ar_ (List.flatMap Fc.cells [(D_ x2.a [33])]) d_ rfl ?_
   refine au_ (news:=List.flatMap Fc.cells [(D_ x2.a [33])]) cc_ hr_Rfc rfl rfl (fun q=>by cases q) (by simp) (c_ B_) (by rw[bk_ Fc.cells 6 Fc.cells_len];rfl) zf (fun u hu=>Y_ Fc.cells_one hu) (by simp only[maxLen];((try simp only[List.length_append,List.length_cons,List.length_nil]);omega)) (by ((try simp only[List.length_append,List.length_cons,List.length_nil]);omega)) rfl fun sv5 Hr5 hr5=>?_
   refine y_ List.perm_append_comm ?_
   have hq5:=zsa hr5
   refine Zz 9 ?_
   have hw6:=zsw (dG_ f x2) p hq5
   refine U_ (ι:={y:Nat×Value×Hp // y.1≤List.length p∧zR 24 6 Fc.cells y.2.1 (((List.flatMap (fa_ l f) p++List.flatMap (subB p f) (List.take j l))++[(D_ x2.a [33])])++List.flatMap (dG_ f x2) (List.take y.1 p)) y.2.2}) (fun y=>[(0,.slice pad (List.length p) pcap),(1,.slice lad (List.length l) lcap),(5,zp_ b1 0),(6,.slice none 0 0),(7,y.1.2.1),(8,.int .i64 (i:Int)),(10,.int .i64 (j:Int)),(11,zp_ b3 0),(12,.int .i64 (y.1.1:Int))]) (fun y=>((b3,.cells #[.int .i64 x2.kind,str x2.a,str x2.b,str x2.r,.int .i64 x2.lo,.int .i64 x2.hi] 24 (0,0))::((b1,.cells #[.int .i64 f.kind,str f.a,str f.b,str f.r,.int .i64 f.lo,.int .i64 f.hi] 24 (0,0))::y.1.2.2))) (fun y=>[af_ (some ⟨b5,0,none⟩) (List.flatMap Fc.cells [(D_ x2.a [33])]),af_ pad (List.flatMap Pc.cells p),af_ lad (List.flatMap Fc.cells l)]) (fun y=>List.length p - y.1.1) ⟨((0:Nat),sv5,Hr5),by simp,hw6⟩ zl zp zh ?_
   rintro ⟨⟨k,sv_Rfc,H_Rfc⟩,hi_k,hr_Rfc⟩
   dsimp only at hi_k hr_Rfc ⊢
   have hb3:=dP_ (g:=dG_ f x2) (n:=1) (List.take k p) (fun x _=>jm_ f x2 x)
   rw[List.length_take]at hb3
   refine Zi 6 (fun hr11=>?_) fun hr11=>?_
   ·rw[show List.take k p=p from List.take_of_length_le (by omega)]at hr_Rfc
    refine Zz 11 ?_
    exact u_ ⟨(j+1,sv_Rfc,H_Rfc),hlx2,(by have q:=hr_Rfc;rw[ba_ hx2,show (subB p f) x2=[(D_ x2.a [33])]++List.flatMap (dG_ f x2) p from (by rw[ke_,if_neg (by first|assumption|simpa using hr4),if_pos (by assumption)])];simpa only[List.append_assoc,List.append_nil] using q)⟩ (by dsimp only;omega) zl (f_ (c_ d_) B_) (fun _ _ h=>h.2)
   obtain⟨hlx3,x3,hx3,hmx3⟩:=zge (show k<List.length p by omega)
   refine Zz 9 ?_
   refine p_ 19 [0,1,2,3,4,5,6] zk zs (Zi 5 (fun hr12=>?_) fun hr12=>?_)
   ·refine Zz 2 ?_
    refine p_ 0 [7,8,9,10,11,12,13,14,15,16,17,18,19,20,21,22,23,24,25] zk zs (Zz 31 ?_)
    exact u_ ⟨(k+1,sv_Rfc,H_Rfc),hlx3,(by have q:=hr_Rfc;rw[ba_ hx3,show (dG_ f x2) x3=[] from (by unfold dG_;rw[if_neg (fun q=>by first|exact absurd q.1 (by assumption)|exact absurd q.2.1 (by assumption)|exact absurd q.2.2 (by assumption))])];simpa only[List.append_assoc,List.append_nil] using q)⟩ (by dsimp only;omega) zl (f_ d_ (f_ d_ aD_)) zh
   refine Zz 2 ?_
   refine p_ 9 [7,8,9,10,11,12,13,14,15,16] zk zs (Zi 7 (fun hr13=>?_) fun hr13=>?_)
   ·refine Zz 3 ?_
    refine p_ 0 [17,18,19,20,21,22,23,24,25] zk zs (Zz 21 ?_)
    exact u_ ⟨(k+1,sv_Rfc,H_Rfc),hlx3,(by have q:=hr_Rfc;rw[ba_ hx3,show (dG_ f x2) x3=[] from (by unfold dG_;rw[if_neg (fun q=>by first|exact absurd q.1 (by assumption)|exact absurd q.2.1 (by assumption)|exact absurd q.2.2 (by assumption))])];simpa only[List.append_assoc,List.append_nil] using q)⟩ (by dsimp only;omega) zl (f_ d_ (f_ d_ aD_)) zh
   refine Zz 3 ?_
   refine p_ 0 [17,18,19,20,21,22,23,24,25] zk zs (Zi 7 (fun hr14=>?_) fun hr14=>?_)
   ·refine Zz 13 ?_
    exact u_ ⟨(k+1,sv_Rfc,H_Rfc),hlx3,(by have q:=hr_Rfc;rw[ba_ hx3,show (dG_ f x2) x3=[] from (by unfold dG_;rw[if_neg (fun q=>by first|exact absurd q.1 (by assumption)|exact absurd q.2.1 (by assumption)|exact absurd q.2.2 (by assumption))])];simpa only[List.append_assoc,List.append_nil] using q)⟩ (by dsimp only;omega) zl (f_ d_ (f_ d_ aD_)) zh
   refine Zz 5 ?_
   refine ab_ ((b3,.cells #[.int .i64 x2.kind,str x2.a,str x2.b,str x2.r,.int .i64 x2.lo,.int .i64 x2.hi] 24 (0,0))::((b1,.cells #[.int .i64 f.kind,str f.a,str f.b,str f.r,.int .i64 f.lo,.int .i64 f.hi] 24 (0,0))::[])) zk ?_
   refine p_ 4 [0,1,2,3,4,5,6,7] zk zs (Zz 9 ?_)
   refine m_ 8 rfl zk (o_ (dX_ x2.a x3.c) rfl j_ zt rfl fun _=>Zz 3 ?_)
   refine m_ 9 rfl zk (N_ z_ q_ F_ rfl rfl rfl rfl rfl rfl fun b6=>?_)
   refine ar_ (List.flatMap Fc.cells [(D_ x2.a x3.c)]) d_ rfl ?_
   refine Zz 3 ?_
   refine m_ 10 rfl zk (au_ (news:=List.flatMap Fc.cells [(D_ x2.a x3.c)]) cc_ hr_Rfc rfl rfl (fun q=>by cases q) (by simp) zp (by rw[bk_ Fc.cells 6 Fc.cells_len];rfl) zf (fun u hu=>Y_ Fc.cells_one hu) (by simp only[maxLen];((try simp only[List.length_append,List.length_cons,List.length_nil]);omega)) (by ((try simp only[List.length_append,List.length_cons,List.length_nil]);omega)) rfl fun sv7 Hr7 hr7=>?_)
   refine y_ List.perm_append_comm ?_
   have hq7:=zsa hr7
   refine Zz 3 ?_
   refine p_ 0 [11] zk zs (Zz 10 ?_)
   exact u_ ⟨(k+1,sv7,Hr7),hlx3,(by have q:=hq7;rw[ba_ hx3,show (dG_ f x2) x3=[(D_ x2.a x3.c)] from (by unfold dG_;rw[if_pos ⟨by assumption,by assumption,by assumption⟩])];simpa only[List.append_assoc,List.append_nil] using q)⟩ (by dsimp only;omega) zl (f_ d_ (f_ d_ aD_)) (fun _ _ h=>h.2)
  simp at hr4
  refine Zz 9 ?_
  exact u_ ⟨(j+1,sv_Rfc,H_Rfc),hlx2,(by have q:=hr_Rfc;rw[ba_ hx2,show (subB p f) x2=[] from (by rw[ke_,if_pos (by first|assumption|simpa using hr4)])];simpa only[List.append_assoc,List.append_nil] using q)⟩ (by dsimp only;omega) zl (f_ (c_ d_) B_) zh
 obtain⟨hlx1,x1,hx1,hmx1⟩:=zge (show i<List.length p by omega)
 refine Zz 13 ?_
 refine J_ aH_ rfl fun b7=>w_ 0 W_ rfl rfl rfl rfl rfl rfl (Zz 7 ?_)
 refine O_ (bR_ rfl rfl) rfl fun r15 hr15=>Zz 1 ?_
 refine ax_ 6 ((x1.kind==1)&&(x1.a==f.b)) (fun r=>[(0,.slice pad (List.length p) pcap),(1,.slice lad (List.length l) lcap),(5,zp_ b1 0),(6,.slice none 0 0),(7,sv_Rfc),(8,.int .i64 (i:Int)),(9,zp_ b7 0),(34,.bool r)]) ?_ fun r16 hr16=>?_
 ·cases r15
  ·have qr16:=hr15
   replace hr15:=znb hr15
   refine Zz 8 ?_
   exact met ⟨rfl,rfl,rfl,rfl,rfl,rfl,rfl,(g_ rfl (jaf qr16)),trivial⟩
  have qr16:=hr15
  replace hr15:=zeb hr15
  refine Zz 9 ?_
  refine O_ (bq_ rfl rfl) rfl fun r17 hr17=>Zz 3 ?_
  exact met ⟨rfl,rfl,rfl,rfl,rfl,rfl,rfl,(g_ rfl (jat qr16 hr17)),trivial⟩
 refine Zz 3 ?_
 cases r16
 ·simp at hr16
  refine Zz 5 ?_
  refine O_ (bR_ rfl rfl) rfl fun r18 hr18=>Zz 1 ?_
  refine ax_ 31 ((x1.kind==2)&&(((((x1.a==f.b)&&(decide ((D_ f.a x1.b)∈l))))||(((x1.b==f.b)&&(decide ((D_ f.a x1.a)∈l))))))) (fun r=>[(0,.slice pad (List.length p) pcap),(1,.slice lad (List.length l) lcap),(5,zp_ b1 0),(6,.slice none 0 0),(7,sv_Rfc),(8,.int .i64 (i:Int)),(9,zp_ b7 0),(78,.bool r)]) ?_ fun r19 hr19=>?_
  ·cases r18
   ·have qr19:=hr18
    replace hr18:=znb hr18
    refine Zz 33 ?_
    exact met ⟨rfl,rfl,rfl,rfl,rfl,rfl,rfl,(g_ rfl (jaf qr19)),trivial⟩
   have qr19:=hr18
   replace hr18:=zeb hr18
   refine Zz 9 ?_
   refine O_ (bq_ rfl rfl) rfl fun r20 hr20=>Zz 2 ?_
   refine ax_ 8 ((x1.a==f.b)&&(decide ((D_ f.a x1.b)∈l))) (fun r=>[(0,.slice pad (List.length p) pcap),(1,.slice lad (List.length l) lcap),(5,zp_ b1 0),(6,.slice none 0 0),(7,sv_Rfc),(8,.int .i64 (i:Int)),(9,zp_ b7 0),(47,.bool true),(61,.bool r)]) ?_ fun r21 hr21=>?_
   ·cases r20
    ·have qr21:=hr20
     replace hr20:=znb hr20
     refine Zz 11 ?_
     exact met ⟨rfl,rfl,rfl,rfl,rfl,rfl,rfl,rfl,(g_ rfl (jaf qr21)),trivial⟩
    have qr21:=hr20
    replace hr20:=zeb hr20
    refine Zz 11 ?_
    refine o_ (dX_ f.a x1.b) rfl j_ zt rfl fun _=>aw_ rfl rfl (ae_ (mq_ l lad lcap (D_ f.a x1.b) (by omega) hs) rfl j_ zf rfl fun r22 hr22=>Zz 4 ?_)
    exact met ⟨rfl,rfl,rfl,rfl,rfl,rfl,rfl,rfl,(g_ rfl (jat qr21 hr22)),trivial⟩
   refine Zz 2 ?_
   refine ax_ 15 ((((x1.a==f.b)&&(decide ((D_ f.a x1.b)∈l))))||(((x1.b==f.b)&&(decide ((D_ f.a x1.a)∈l))))) (fun r=>[(0,.slice pad (List.length p) pcap),(1,.slice lad (List.length l) lcap),(5,zp_ b1 0),(6,.slice none 0 0),(7,sv_Rfc),(8,.int .i64 (i:Int)),(9,zp_ b7 0),(47,.bool true),(77,.bool r)]) ?_ fun r23 hr23=>?_
   ·cases r21
    ·have qr23:=hr21
     simp at hr21
     refine Zz 9 ?_
     refine O_ (bq_ rfl rfl) rfl fun r24 hr24=>Zz 2 ?_
     refine ax_ 8 ((x1.b==f.b)&&(decide ((D_ f.a x1.a)∈l))) (fun r=>[(0,.slice pad (List.length p) pcap),(1,.slice lad (List.length l) lcap),(5,zp_ b1 0),(6,.slice none 0 0),(7,sv_Rfc),(8,.int .i64 (i:Int)),(9,zp_ b7 0),(47,.bool true),(62,.bool false),(76,.bool r)]) ?_ fun r25 hr25=>?_
     ·cases r24
      ·have qr25:=hr24
       replace hr24:=znb hr24
       refine Zz 11 ?_
       exact met ⟨rfl,rfl,rfl,rfl,rfl,rfl,rfl,rfl,rfl,(g_ rfl (jaf qr25)),trivial⟩
      have qr25:=hr24
      replace hr24:=zeb hr24
      refine Zz 11 ?_
      refine o_ (dX_ f.a x1.a) rfl j_ zt rfl fun _=>aw_ rfl rfl (ae_ (mq_ l lad lcap (D_ f.a x1.a) (by omega) hs) rfl j_ zf rfl fun r26 hr26=>Zz 4 ?_)
      exact met ⟨rfl,rfl,rfl,rfl,rfl,rfl,rfl,rfl,rfl,(g_ rfl (jat qr25 hr26)),trivial⟩
     refine Zz 4 ?_
     exact met ⟨rfl,rfl,rfl,rfl,rfl,rfl,rfl,rfl,(g_ rfl (jof qr23 hr25)),trivial⟩
    have qr23:=hr21
    simp at hr21
    refine Zz 18 ?_
    exact met ⟨rfl,rfl,rfl,rfl,rfl,rfl,rfl,rfl,(g_ rfl (jot qr23)),trivial⟩
   refine Zz 3 ?_
   exact met ⟨rfl,rfl,rfl,rfl,rfl,rfl,rfl,(g_ rfl (jat qr19 hr23)),trivial⟩
  refine Zz 3 ?_
  cases r19
  ·simp at hr19
   refine Zz 5 ?_
   refine O_ (bR_ rfl rfl) rfl fun r27 hr27=>Zz 1 ?_
   refine ax_ 6 ((x1.kind==3)&&(x1.a==f.b)) (fun r=>[(0,.slice pad (List.length p) pcap),(1,.slice lad (List.length l) lcap),(5,zp_ b1 0),(6,.slice none 0 0),(7,sv_Rfc),(8,.int .i64 (i:Int)),(9,zp_ b7 0),(97,.bool r)]) ?_ fun r28 hr28=>?_
   ·cases r27
    ·have qr28:=hr27
     replace hr27:=znb hr27
     refine Zz 8 ?_
     exact met ⟨rfl,rfl,rfl,rfl,rfl,rfl,rfl,(g_ rfl (jaf qr28)),trivial⟩
    have qr28:=hr27
    replace hr27:=zeb hr27
    refine Zz 9 ?_
    refine O_ (bq_ rfl rfl) rfl fun r29 hr29=>Zz 3 ?_
    exact met ⟨rfl,rfl,rfl,rfl,rfl,rfl,rfl,(g_ rfl (jat qr28 hr29)),trivial⟩
   refine Zz 3 ?_
   cases r28
   ·simp at hr28
    refine Zz 5 ?_
    refine O_ (bR_ rfl rfl) rfl fun r30 hr30=>Zz 1 ?_
    refine ax_ 6 ((x1.kind==8)&&(x1.a==f.b)) (fun r=>[(0,.slice pad (List.length p) pcap),(1,.slice lad (List.length l) lcap),(5,zp_ b1 0),(6,.slice none 0 0),(7,sv_Rfc),(8,.int .i64 (i:Int)),(9,zp_ b7 0),(118,.bool r)]) ?_ fun r31 hr31=>?_
    ·cases r30
     ·have qr31:=hr30
      replace hr30:=znb hr30
      refine Zz 8 ?_
      exact met ⟨rfl,rfl,rfl,rfl,rfl,rfl,rfl,(g_ rfl (jaf qr31)),trivial⟩
     have qr31:=hr30
     replace hr30:=zeb hr30
     refine Zz 9 ?_
     refine O_ (bq_ rfl rfl) rfl fun r32 hr32=>Zz 3 ?_
     exact met ⟨rfl,rfl,rfl,rfl,rfl,rfl,rfl,(g_ rfl (jat qr31 hr32)),trivial⟩
    refine Zz 3 ?_
    cases r31
    ·simp at hr31
     refine Zz 9 ?_
     exact u_ ⟨(i+1,sv_Rfc,H_Rfc),hlx1,(by have q:=hr_Rfc;rw[ba_ hx1,show (fa_ l f) x1=[] from (by unfold fa_;rw[if_neg (by first|assumption|simpa using hr16|simp[*]),if_neg (by first|assumption|simpa using hr19|simp[*]),if_neg (by first|assumption|simpa using hr28|simp[*]),if_neg (by first|assumption|simpa using hr31|simp[*])])];simpa only[List.append_assoc,List.append_nil] using q)⟩ (by dsimp only;omega) zl (f_ (c_ d_) B_) zh
    simp at hr31
    refine Zz 11 ?_
    refine o_ (ki_ f.a x1.r x1.lo x1.hi) rfl j_ zt rfl fun _=>N_ z_ q_ F_ rfl rfl rfl rfl rfl rfl fun b8=>?_
    refine ar_ (List.flatMap Fc.cells [(R_ f.a x1.r x1.lo x1.hi)]) d_ rfl ?_
    refine au_ (news:=List.flatMap Fc.cells [(R_ f.a x1.r x1.lo x1.hi)]) cc_ hr_Rfc rfl rfl (fun q=>by cases q) (by simp) (c_ B_) (by rw[bk_ Fc.cells 6 Fc.cells_len];rfl) zf (fun u hu=>Y_ Fc.cells_one hu) (by simp only[maxLen];((try simp only[List.length_append,List.length_cons,List.length_nil]);omega)) (by ((try simp only[List.length_append,List.length_cons,List.length_nil]);omega)) rfl fun sv8 Hr8 hr8=>?_
    refine y_ List.perm_append_comm ?_
    have hq8:=zsa hr8
    refine Zz 9 ?_
    exact u_ ⟨(i+1,sv8,Hr8),hlx1,(by have q:=hq8;rw[ba_ hx1,show (fa_ l f) x1=[(R_ f.a x1.r x1.lo x1.hi)] from (by unfold fa_;rw[if_neg (by first|assumption|simpa using hr16|simp[*]),if_neg (by first|assumption|simpa using hr19|simp[*]),if_neg (by first|assumption|simpa using hr28|simp[*]),if_pos (by first|assumption|simpa using hr31|simp[*])])];simpa only[List.append_assoc,List.append_nil] using q)⟩ (by dsimp only;omega) zl (f_ (c_ d_) B_) (fun _ _ h=>h.2)
   simp at hr28
   refine Zz 9 ?_
   refine o_ (fp_ f.a x1.r x1.c) rfl j_ zt rfl fun _=>N_ z_ q_ F_ rfl rfl rfl rfl rfl rfl fun b9=>?_
   refine ar_ (List.flatMap Fc.cells [(I_ f.a x1.r x1.c)]) d_ rfl ?_
   refine au_ (news:=List.flatMap Fc.cells [(I_ f.a x1.r x1.c)]) cc_ hr_Rfc rfl rfl (fun q=>by cases q) (by simp) (c_ B_) (by rw[bk_ Fc.cells 6 Fc.cells_len];rfl) zf (fun u hu=>Y_ Fc.cells_one hu) (by simp only[maxLen];((try simp only[List.length_append,List.length_cons,List.length_nil]);omega)) (by ((try simp only[List.length_append,List.length_cons,List.length_nil]);omega)) rfl fun sv9 Hr9 hr9=>?_
   refine y_ List.perm_append_comm ?_
   have hq9:=zsa hr9
   refine Zz 9 ?_
   exact u_ ⟨(i+1,sv9,Hr9),hlx1,(by have q:=hq9;rw[ba_ hx1,show (fa_ l f) x1=[(I_ f.a x1.r x1.c)] from (by unfold fa_;rw[if_neg (by first|assumption|simpa using hr16|simp[*]),if_neg (by first|assumption|simpa using hr19|simp[*]),if_pos (by first|assumption|simpa using hr28|simp[*])])];simpa only[List.append_assoc,List.append_nil] using q)⟩ (by dsimp only;omega) zl (f_ (c_ d_) B_) (fun _ _ h=>h.2)
  simp at hr19
  refine Zz 7 ?_
  refine o_ (dX_ f.a x1.c) rfl j_ zt rfl fun _=>N_ z_ q_ F_ rfl rfl rfl rfl rfl rfl fun b10=>?_
  refine ar_ (List.flatMap Fc.cells [(D_ f.a x1.c)]) d_ rfl ?_
  refine au_ (news:=List.flatMap Fc.cells [(D_ f.a x1.c)]) cc_ hr_Rfc rfl rfl (fun q=>by cases q) (by simp) (c_ B_) (by rw[bk_ Fc.cells 6 Fc.cells_len];rfl) zf (fun u hu=>Y_ Fc.cells_one hu) (by simp only[maxLen];((try simp only[List.length_append,List.length_cons,List.length_nil]);omega)) (by ((try simp only[List.length_append,List.length_cons,List.length_nil]);omega)) rfl fun sv10 Hr10 hr10=>?_
  refine y_ List.perm_append_comm ?_
  have hq10:=zsa hr10
  refine Zz 9 ?_
  exact u_ ⟨(i+1,sv10,Hr10),hlx1,(by have q:=hq10;rw[ba_ hx1,show (fa_ l f) x1=[(D_ f.a x1.c)] from (by unfold fa_;rw[if_neg (by first|assumption|simpa using hr16|simp[*]),if_pos (by first|assumption|simpa using hr19|simp[*])])];simpa only[List.append_assoc,List.append_nil] using q)⟩ (by dsimp only;omega) zl (f_ (c_ d_) B_) (fun _ _ h=>h.2)
 simp at hr16
 refine Zz 7 ?_
 refine o_ (dX_ f.a x1.c) rfl j_ zt rfl fun _=>N_ z_ q_ F_ rfl rfl rfl rfl rfl rfl fun b11=>?_
 refine ar_ (List.flatMap Fc.cells [(D_ f.a x1.c)]) d_ rfl ?_
 refine au_ (news:=List.flatMap Fc.cells [(D_ f.a x1.c)]) cc_ hr_Rfc rfl rfl (fun q=>by cases q) (by simp) (c_ B_) (by rw[bk_ Fc.cells 6 Fc.cells_len];rfl) zf (fun u hu=>Y_ Fc.cells_one hu) (by simp only[maxLen];((try simp only[List.length_append,List.length_cons,List.length_nil]);omega)) (by ((try simp only[List.length_append,List.length_cons,List.length_nil]);omega)) rfl fun sv11 Hr11 hr11=>?_
 refine y_ List.perm_append_comm ?_
 have hq11:=zsa hr11
 refine Zz 9 ?_
 exact u_ ⟨(i+1,sv11,Hr11),hlx1,(by have q:=hq11;rw[ba_ hx1,show (fa_ l f) x1=[(D_ f.a x1.c)] from (by unfold fa_;rw[if_pos (by first|assumption|simpa using hr16|simp[*])])];simpa only[List.append_assoc,List.append_nil] using q)⟩ (by dsimp only;omega) zl (f_ (c_ d_) B_) (fun _ _ h=>h.2)
theorem sj_ (p:List Pc) (pad:Option Addr) (pcap:Nat) (l:List Fc) (lad:Option Addr) (lcap:Nat) (f:Fc) (hp:p.length≤100) (hl:l.length≤65536) (hs:Srt l):Tri Tryz.prog 114 #[.slice pad (List.length p) pcap,.slice lad (List.length l) lcap,Fc.val f] [] [af_ pad (List.flatMap Pc.cells p),af_ lad (List.flatMap Fc.cells l)] (fun y:{y:Option Addr×Nat // ((gJ_ p l f)).length≤y.2∧y.2≤maxLen∧(y.1=none→y.2=0)}=>.slice y.1.1 ((gJ_ p l f)).length y.1.2) (fun _=>[]) (fun y=>[af_ y.1.1 (((gJ_ p l f)).flatMap Fc.cells)]):=by
 refine x_ Tryz.func114 rfl rfl Tryz.ntmps114 rfl fun v0=>?_
 refine Zz 2 ?_
 refine ay_ rfl rfl fun b1=>Zz 5 ?_
 refine dw_ z_ q_ rfl fun b2=>y_ d_ (Zz 4 ?_)
 refine y_ (av_ ac_) (Zz 5 ?_)
 refine o_ (dX_ f.b [33]) rfl j_ zt rfl fun _=>ae_ (mq_ l lad lcap (D_ f.b [33]) (by omega) hs) rfl j_ zf rfl fun r1 hr1=>Zz 2 ?_
 cases r1
 ·replace hr1:=dF hr1
  refine Zz 10 ?_
  have hw1:aO_ 24 6 (.slice (some ⟨b2,0,none⟩) 0 0) (List.length (([]:List Fc)++List.flatMap (cM_ l f) (List.take 0 p))) (List.flatMap Fc.cells (([]:List Fc)++List.flatMap (cM_ l f) (List.take 0 p))) [(b2,.cells #[] 24 (0,0))]:=by have q:=(ev_ b2 24 6);simpa only[List.take_zero,List.flatMap_nil,List.append_nil,List.length_nil] using q
  refine U_ (ι:={y:Nat×Value×Hp // y.1≤List.length p∧zR 24 6 Fc.cells y.2.1 (([]:List Fc)++List.flatMap (cM_ l f) (List.take y.1 p)) y.2.2}) (fun y=>[(0,.slice pad (List.length p) pcap),(1,.slice lad (List.length l) lcap),(5,zp_ b1 0),(6,.slice none 0 0),(7,y.1.2.1),(8,.int .i64 (y.1.1:Int))]) (fun y=>((b1,.cells #[.int .i64 f.kind,str f.a,str f.b,str f.r,.int .i64 f.lo,.int .i64 f.hi] 24 (0,0))::y.1.2.2)) (fun y=>[af_ pad (List.flatMap Pc.cells p),af_ lad (List.flatMap Fc.cells l)]) (fun y=>List.length p - y.1.1) ⟨((0:Nat),(.slice (some ⟨b2,0,none⟩) 0 0),[(b2,.cells #[] 24 (0,0))]),by simp,hw1⟩ zl zp zh ?_
  rintro ⟨⟨i,sv_Rfc,H_Rfc⟩,hi_i,hr_Rfc⟩
  dsimp only at hi_i hr_Rfc ⊢
  have hb1:=dP_ (g:=cM_ l f) (n:=131072) (List.take i p) (fun x _=>mn_ hl f x)
  rw[List.length_take]at hb1
  refine Zi 6 (fun hr2=>?_) fun hr2=>?_
  ·rw[show List.take i p=p from List.take_of_length_le (by omega)]at hr_Rfc
   refine Zz 12 ?_
   have hw2:aO_ 24 6 sv_Rfc (List.length (gJ_ p l f)) (List.flatMap Fc.cells (gJ_ p l f)) H_Rfc:=by have q:=hr_Rfc;unfold gJ_;first|(rw[if_pos (by assumption)];simpa only[List.nil_append] using q)|(rw[if_neg (by assumption)];simpa only[List.nil_append] using q)
   refine bj_ hw2 B_ fun ad2 cp2 had2 hcad2 hmad2 hzad2=>?_
   exact S_ Tryz.results114 ⟨(ad2,cp2),hcad2,hmad2,hzad2⟩ (bZ_ rfl had2) j_ zf
  obtain⟨hlx1,x1,hx1,hmx1⟩:=zge (show i<List.length p by omega)
  refine Zz 13 ?_
  refine J_ aH_ rfl fun b3=>w_ 0 W_ rfl rfl rfl rfl rfl rfl (Zz 7 ?_)
  refine O_ (bR_ rfl rfl) rfl fun r3 hr3=>Zz 1 ?_
  refine ax_ 6 ((x1.kind==5)&&(x1.r==f.r)) (fun r=>[(0,.slice pad (List.length p) pcap),(1,.slice lad (List.length l) lcap),(5,zp_ b1 0),(6,.slice none 0 0),(7,sv_Rfc),(8,.int .i64 (i:Int)),(9,zp_ b3 0),(44,.bool r)]) ?_ fun r4 hr4=>?_
  ·cases r3
   ·have qr4:=hr3
    replace hr3:=znb hr3
    refine Zz 8 ?_
    exact met ⟨rfl,rfl,rfl,rfl,rfl,rfl,rfl,(g_ rfl (jaf qr4)),trivial⟩
   have qr4:=hr3
   replace hr3:=zeb hr3
   refine Zz 9 ?_
   refine O_ (bq_ rfl rfl) rfl fun r5 hr5=>Zz 3 ?_
   exact met ⟨rfl,rfl,rfl,rfl,rfl,rfl,rfl,(g_ rfl (jat qr4 hr5)),trivial⟩
  refine Zz 3 ?_
  cases r4
  ·simp at hr4
   refine Zz 5 ?_
   refine O_ (bR_ rfl rfl) rfl fun r6 hr6=>Zz 1 ?_
   refine ax_ 6 ((x1.kind==4)&&(x1.r==f.r)) (fun r=>[(0,.slice pad (List.length p) pcap),(1,.slice lad (List.length l) lcap),(5,zp_ b1 0),(6,.slice none 0 0),(7,sv_Rfc),(8,.int .i64 (i:Int)),(9,zp_ b3 0),(65,.bool r)]) ?_ fun r7 hr7=>?_
   ·cases r6
    ·have qr7:=hr6
     replace hr6:=znb hr6
     refine Zz 8 ?_
     exact met ⟨rfl,rfl,rfl,rfl,rfl,rfl,rfl,(g_ rfl (jaf qr7)),trivial⟩
    have qr7:=hr6
    replace hr6:=zeb hr6
    refine Zz 9 ?_
    refine O_ (bq_ rfl rfl) rfl fun r8 hr8=>Zz 3 ?_
    exact met ⟨rfl,rfl,rfl,rfl,rfl,rfl,rfl,(g_ rfl (jat qr7 hr8)),trivial⟩
   refine Zz 1 ?_
   refine ax_ 8 ((((x1.kind==4)&&(x1.r==f.r)))&&(decide ((D_ f.b x1.a)∈l))) (fun r=>[(0,.slice pad (List.length p) pcap),(1,.slice lad (List.length l) lcap),(5,zp_ b1 0),(6,.slice none 0 0),(7,sv_Rfc),(8,.int .i64 (i:Int)),(9,zp_ b3 0),(74,.bool r)]) ?_ fun r9 hr9=>?_
   ·cases r7
    ·have qr9:=hr7
     simp at hr7
     refine Zz 10 ?_
     exact met ⟨rfl,rfl,rfl,rfl,rfl,rfl,rfl,(g_ rfl (jaf qr9)),trivial⟩
    have qr9:=hr7
    simp at hr7
    refine Zz 11 ?_
    refine o_ (dX_ f.b x1.a) rfl j_ zt rfl fun _=>aw_ rfl rfl (ae_ (mq_ l lad lcap (D_ f.b x1.a) (by omega) hs) rfl j_ zf rfl fun r10 hr10=>Zz 3 ?_)
    exact met ⟨rfl,rfl,rfl,rfl,rfl,rfl,rfl,(g_ rfl (jat qr9 hr10)),trivial⟩
   refine Zz 3 ?_
   cases r9
   ·simp at hr9
    refine Zi 5 (fun hr11=>?_) fun hr11=>?_
    ·refine Zz 12 ?_
     exact u_ ⟨(i+1,sv_Rfc,H_Rfc),hlx1,(by have q:=hr_Rfc;rw[ba_ hx1,show (cM_ l f) x1=[] from (by unfold cM_;rw[if_neg (by first|assumption|simpa using hr4|simp[*]),if_neg (by first|assumption|simpa using hr9|simp[*]),if_neg (by first|assumption|simpa using hr11|simp[*])])];simpa only[List.append_assoc,List.append_nil] using q)⟩ (by dsimp only;omega) zl (f_ (c_ d_) B_) zh
    refine Zz 10 ?_
    have hw3:=zsw (cE_ x1 f) l hr_Rfc
    refine U_ (ι:={y:Nat×Value×Hp // y.1≤List.length l∧zR 24 6 Fc.cells y.2.1 ((([]:List Fc)++List.flatMap (cM_ l f) (List.take i p))++List.flatMap (cE_ x1 f) (List.take y.1 l)) y.2.2}) (fun y=>[(0,.slice pad (List.length p) pcap),(1,.slice lad (List.length l) lcap),(5,zp_ b1 0),(6,.slice none 0 0),(7,y.1.2.1),(8,.int .i64 (i:Int)),(9,zp_ b3 0),(10,.int .i64 (y.1.1:Int))]) (fun y=>((b3,.cells #[.int .i64 x1.kind,str x1.a,str x1.b,str x1.c,str x1.r,str x1.s,str x1.t,.int .i64 x1.lo,.int .i64 x1.hi,.int .i64 x1.frm] 52 (0,0))::((b1,.cells #[.int .i64 f.kind,str f.a,str f.b,str f.r,.int .i64 f.lo,.int .i64 f.hi] 24 (0,0))::y.1.2.2))) (fun y=>[af_ pad (List.flatMap Pc.cells p),af_ lad (List.flatMap Fc.cells l)]) (fun y=>List.length l - y.1.1) ⟨((0:Nat),sv_Rfc,H_Rfc),by simp,hw3⟩ zl zp zh ?_
    rintro ⟨⟨j,sv_Rfc,H_Rfc⟩,hi_j,hr_Rfc⟩
    dsimp only at hi_j hr_Rfc ⊢
    have hb2:=dP_ (g:=cE_ x1 f) (n:=2) (List.take j l) (fun x _=>jw_ x1 f x)
    rw[List.length_take]at hb2
    refine Zi 6 (fun hr12=>?_) fun hr12=>?_
    ·rw[show List.take j l=l from List.take_of_length_le (by omega)]at hr_Rfc
     refine Zz 11 ?_
     exact u_ ⟨(i+1,sv_Rfc,H_Rfc),hlx1,(by have q:=hr_Rfc;rw[ba_ hx1,show (cM_ l f) x1=List.flatMap (cE_ x1 f) l from (by unfold cM_;rw[if_neg (by first|assumption|simpa using hr4|simp[*]),if_neg (by first|assumption|simpa using hr9|simp[*]),if_pos (by first|assumption|simpa using hr11|simp[*])])];simpa only[List.append_assoc,List.append_nil] using q)⟩ (by dsimp only;omega) zl (f_ (c_ d_) B_) zh
    obtain⟨hlx2,x2,hx2,hmx2⟩:=zge (show j<List.length l by omega)
    refine Zz 13 ?_
    refine J_ F_ rfl fun b4=>w_ 0 q_ rfl rfl rfl rfl rfl rfl (Zi 7 (fun hr13=>?_) fun hr13=>?_)
    ·refine Zz 12 ?_
     refine O_ (bq_ rfl rfl) rfl fun r14 hr14=>Zz 1 ?_
     refine ax_ 6 ((x1.r==f.r)&&(x2.a==f.b)) (fun r=>[(0,.slice pad (List.length p) pcap),(1,.slice lad (List.length l) lcap),(5,zp_ b1 0),(6,.slice none 0 0),(7,sv_Rfc),(8,.int .i64 (i:Int)),(9,zp_ b3 0),(10,.int .i64 (j:Int)),(11,zp_ b4 0),(111,.bool r)]) ?_ fun r15 hr15=>?_
     ·cases r14
      ·have qr15:=hr14
       replace hr14:=znb hr14
       refine Zz 8 ?_
       exact met ⟨rfl,rfl,rfl,rfl,rfl,rfl,rfl,rfl,rfl,(g_ rfl (jaf qr15)),trivial⟩
      have qr15:=hr14
      replace hr14:=zeb hr14
      refine Zz 9 ?_
      refine O_ (bq_ rfl rfl) rfl fun r16 hr16=>Zz 3 ?_
      exact met ⟨rfl,rfl,rfl,rfl,rfl,rfl,rfl,rfl,rfl,(g_ rfl (jat qr15 hr16)),trivial⟩
     refine Zz 1 ?_
     refine ax_ 6 ((((x1.r==f.r)&&(x2.a==f.b)))&&(x2.r==x1.s)) (fun r=>[(0,.slice pad (List.length p) pcap),(1,.slice lad (List.length l) lcap),(5,zp_ b1 0),(6,.slice none 0 0),(7,sv_Rfc),(8,.int .i64 (i:Int)),(9,zp_ b3 0),(10,.int .i64 (j:Int)),(11,zp_ b4 0),(118,.bool r)]) ?_ fun r17 hr17=>?_
     ·cases r15
      ·have qr17:=hr15
       simp at hr15
       refine Zz 8 ?_
       exact met ⟨rfl,rfl,rfl,rfl,rfl,rfl,rfl,rfl,rfl,(g_ rfl (jaf qr17)),trivial⟩
      have qr17:=hr15
      simp at hr15
      refine Zz 9 ?_
      refine O_ (bq_ rfl rfl) rfl fun r18 hr18=>Zz 3 ?_
      exact met ⟨rfl,rfl,rfl,rfl,rfl,rfl,rfl,rfl,rfl,(g_ rfl (jat qr17 hr18)),trivial⟩
     refine Zz 2 ?_
     cases r17
     ·simp at hr17
      refine Zz 9 ?_
      refine O_ (bq_ rfl rfl) rfl fun r19 hr19=>Zz 1 ?_
      refine ax_ 6 ((x1.s==f.r)&&(x2.b==f.a)) (fun r=>[(0,.slice pad (List.length p) pcap),(1,.slice lad (List.length l) lcap),(5,zp_ b1 0),(6,.slice none 0 0),(7,sv_Rfc),(8,.int .i64 (i:Int)),(9,zp_ b3 0),(10,.int .i64 (j:Int)),(11,zp_ b4 0),(140,.bool r)]) ?_ fun r20 hr20=>?_
      ·cases r19
       ·have qr20:=hr19
        replace hr19:=znb hr19
        refine Zz 8 ?_
        exact met ⟨rfl,rfl,rfl,rfl,rfl,rfl,rfl,rfl,rfl,(g_ rfl (jaf qr20)),trivial⟩
       have qr20:=hr19
       replace hr19:=zeb hr19
       refine Zz 9 ?_
       refine O_ (bq_ rfl rfl) rfl fun r21 hr21=>Zz 3 ?_
       exact met ⟨rfl,rfl,rfl,rfl,rfl,rfl,rfl,rfl,rfl,(g_ rfl (jat qr20 hr21)),trivial⟩
      refine Zz 1 ?_
      refine ax_ 6 ((((x1.s==f.r)&&(x2.b==f.a)))&&(x2.r==x1.r)) (fun r=>[(0,.slice pad (List.length p) pcap),(1,.slice lad (List.length l) lcap),(5,zp_ b1 0),(6,.slice none 0 0),(7,sv_Rfc),(8,.int .i64 (i:Int)),(9,zp_ b3 0),(10,.int .i64 (j:Int)),(11,zp_ b4 0),(147,.bool r)]) ?_ fun r22 hr22=>?_
      ·cases r20
       ·have qr22:=hr20
        simp at hr20
        refine Zz 8 ?_
        exact met ⟨rfl,rfl,rfl,rfl,rfl,rfl,rfl,rfl,rfl,(g_ rfl (jaf qr22)),trivial⟩
       have qr22:=hr20
       simp at hr20
       refine Zz 9 ?_
       refine O_ (bq_ rfl rfl) rfl fun r23 hr23=>Zz 3 ?_
       exact met ⟨rfl,rfl,rfl,rfl,rfl,rfl,rfl,rfl,rfl,(g_ rfl (jat qr22 hr23)),trivial⟩
      refine Zz 2 ?_
      cases r22
      ·simp at hr22
       refine Zz 9 ?_
       exact u_ ⟨(j+1,sv_Rfc,H_Rfc),hlx2,(by have q:=hr_Rfc;rw[ba_ hx2,show (cE_ x1 f) x2=[] from (by unfold cE_;rw[if_neg (by simp[*]),if_neg (by first|assumption|simpa using hr17|simp[*]),if_neg (by first|assumption|simpa using hr22|simp[*])];try rfl)];simpa only[List.append_assoc,List.append_nil] using q)⟩ (by dsimp only;omega) zl (f_ (c_ d_) (f_ (c_ d_) B_)) zh
      simp at hr22
      refine Zz 9 ?_
      refine o_ (fp_ x2.a x1.t f.b) rfl j_ zt rfl fun _=>N_ z_ q_ F_ rfl rfl rfl rfl rfl rfl fun b5=>?_
      refine ar_ (List.flatMap Fc.cells [(I_ x2.a x1.t f.b)]) d_ rfl ?_
      refine au_ (news:=List.flatMap Fc.cells [(I_ x2.a x1.t f.b)]) cc_ hr_Rfc rfl rfl (fun q=>by cases q) (by simp) (c_ (c_ B_)) (by rw[bk_ Fc.cells 6 Fc.cells_len];rfl) zf (fun u hu=>Y_ Fc.cells_one hu) (by simp only[maxLen];((try simp only[List.length_append,List.length_cons,List.length_nil]);omega)) (by ((try simp only[List.length_append,List.length_cons,List.length_nil]);omega)) rfl fun sv4 Hr4 hr4=>?_
      refine y_ List.perm_append_comm ?_
      have hq4:=zsa hr4
      refine Zz 9 ?_
      exact u_ ⟨(j+1,sv4,Hr4),hlx2,(by have q:=hq4;rw[ba_ hx2,show (cE_ x1 f) x2=[(I_ x2.a x1.t f.b)] from (by unfold cE_;rw[if_neg (by simp[*]),if_neg (by first|assumption|simpa using hr17|simp[*]),if_pos (by first|assumption|simpa using hr22|simp[*])];try rfl)];simpa only[List.append_assoc,List.append_nil] using q)⟩ (by dsimp only;omega) zl (f_ (c_ d_) (f_ (c_ d_) B_)) (fun _ _ h=>h.2)
     simp at hr17
     refine Zz 9 ?_
     refine o_ (fp_ f.a x1.t x2.b) rfl j_ zt rfl fun _=>N_ z_ q_ F_ rfl rfl rfl rfl rfl rfl fun b6=>?_
     refine ar_ (List.flatMap Fc.cells [(I_ f.a x1.t x2.b)]) d_ rfl ?_
     refine au_ (news:=List.flatMap Fc.cells [(I_ f.a x1.t x2.b)]) cc_ hr_Rfc rfl rfl (fun q=>by cases q) (by simp) (c_ (c_ B_)) (by rw[bk_ Fc.cells 6 Fc.cells_len];rfl) zf (fun u hu=>Y_ Fc.cells_one hu) (by simp only[maxLen];((try simp only[List.length_append,List.length_cons,List.length_nil]);omega)) (by ((try simp only[List.length_append,List.length_cons,List.length_nil]);omega)) rfl fun sv5 Hr5 hr5=>?_
     refine y_ List.perm_append_comm ?_
     have hq5:=zsa hr5
     refine Zz 9 ?_
     refine O_ (bq_ rfl rfl) rfl fun r24 hr24=>Zz 1 ?_
     refine ax_ 6 ((x1.s==f.r)&&(x2.b==f.a)) (fun r=>[(0,.slice pad (List.length p) pcap),(1,.slice lad (List.length l) lcap),(5,zp_ b1 0),(6,.slice none 0 0),(7,sv5),(8,.int .i64 (i:Int)),(9,zp_ b3 0),(10,.int .i64 (j:Int)),(11,zp_ b4 0),(140,.bool r)]) ?_ fun r25 hr25=>?_
     ·cases r24
      ·have qr25:=hr24
       replace hr24:=znb hr24
       refine Zz 8 ?_
       exact met ⟨rfl,rfl,rfl,rfl,rfl,rfl,rfl,rfl,rfl,(g_ rfl (jaf qr25)),trivial⟩
      have qr25:=hr24
      replace hr24:=zeb hr24
      refine Zz 9 ?_
      refine O_ (bq_ rfl rfl) rfl fun r26 hr26=>Zz 3 ?_
      exact met ⟨rfl,rfl,rfl,rfl,rfl,rfl,rfl,rfl,rfl,(g_ rfl (jat qr25 hr26)),trivial⟩
     refine Zz 1 ?_
     refine ax_ 6 ((((x1.s==f.r)&&(x2.b==f.a)))&&(x2.r==x1.r)) (fun r=>[(0,.slice pad (List.length p) pcap),(1,.slice lad (List.length l) lcap),(5,zp_ b1 0),(6,.slice none 0 0),(7,sv5),(8,.int .i64 (i:Int)),(9,zp_ b3 0),(10,.int .i64 (j:Int)),(11,zp_ b4 0),(147,.bool r)]) ?_ fun r27 hr27=>?_
     ·cases r25
      ·have qr27:=hr25
       simp at hr25
       refine Zz 8 ?_
       exact met ⟨rfl,rfl,rfl,rfl,rfl,rfl,rfl,rfl,rfl,(g_ rfl (jaf qr27)),trivial⟩
      have qr27:=hr25
      simp at hr25
      refine Zz 9 ?_
      refine O_ (bq_ rfl rfl) rfl fun r28 hr28=>Zz 3 ?_
      exact met ⟨rfl,rfl,rfl,rfl,rfl,rfl,rfl,rfl,rfl,(g_ rfl (jat qr27 hr28)),trivial⟩
     refine Zz 2 ?_
     cases r27
     ·simp at hr27
      refine Zz 9 ?_
      exact u_ ⟨(j+1,sv5,Hr5),hlx2,(by have q:=hq5;rw[ba_ hx2,show (cE_ x1 f) x2=[(I_ f.a x1.t x2.b)] from (by unfold cE_;rw[if_neg (by simp[*]),if_pos (by first|assumption|simpa using hr17|simp[*]),if_neg (by first|assumption|simpa using hr27|simp[*])];try rfl)];simpa only[List.append_assoc,List.append_nil] using q)⟩ (by dsimp only;omega) zl (f_ (c_ d_) (f_ (c_ d_) B_)) (fun _ _ h=>h.2)
     simp at hr27
     refine Zz 9 ?_
     refine o_ (fp_ x2.a x1.t f.b) rfl j_ zt rfl fun _=>N_ z_ q_ F_ rfl rfl rfl rfl rfl rfl fun b7=>?_
     refine ar_ (List.flatMap Fc.cells [(I_ x2.a x1.t f.b)]) d_ rfl ?_
     refine au_ (news:=List.flatMap Fc.cells [(I_ x2.a x1.t f.b)]) cc_ hq5 rfl rfl (fun q=>by cases q) (by simp) zp (by rw[bk_ Fc.cells 6 Fc.cells_len];rfl) zf (fun u hu=>Y_ Fc.cells_one hu) (by simp only[maxLen];((try simp only[List.length_append,List.length_cons,List.length_nil]);omega)) (by ((try simp only[List.length_append,List.length_cons,List.length_nil]);omega)) rfl fun sv6 Hr6 hr6=>?_
     refine y_ List.perm_append_comm ?_
     have hq6:=zsa hr6
     refine Zz 9 ?_
     exact u_ ⟨(j+1,sv6,Hr6),hlx2,(by have q:=hq6;rw[ba_ hx2,show (cE_ x1 f) x2=[(I_ f.a x1.t x2.b)]++[(I_ x2.a x1.t f.b)] from (by unfold cE_;rw[if_neg (by simp[*]),if_pos (by first|assumption|simpa using hr17|simp[*]),if_pos (by first|assumption|simpa using hr27|simp[*])];try rfl)];simpa only[List.append_assoc,List.append_nil] using q)⟩ (by dsimp only;omega) zl (f_ (c_ d_) (f_ (c_ d_) B_)) (fun _ _ h=>h.2.2)
    refine Zz 11 ?_
    exact u_ ⟨(j+1,sv_Rfc,H_Rfc),hlx2,(by have q:=hr_Rfc;rw[ba_ hx2,show (cE_ x1 f) x2=[] from (by unfold cE_;rw[if_pos (by assumption)])];simpa only[List.append_assoc,List.append_nil] using q)⟩ (by dsimp only;omega) zl (f_ (c_ d_) (f_ (c_ d_) B_)) zh
   simp at hr9
   refine Zz 7 ?_
   refine o_ (dX_ f.a x1.c) rfl j_ zt rfl fun _=>N_ z_ q_ F_ rfl rfl rfl rfl rfl rfl fun b8=>?_
   refine ar_ (List.flatMap Fc.cells [(D_ f.a x1.c)]) d_ rfl ?_
   refine au_ (news:=List.flatMap Fc.cells [(D_ f.a x1.c)]) cc_ hr_Rfc rfl rfl (fun q=>by cases q) (by simp) (c_ B_) (by rw[bk_ Fc.cells 6 Fc.cells_len];rfl) zf (fun u hu=>Y_ Fc.cells_one hu) (by simp only[maxLen];((try simp only[List.length_append,List.length_cons,List.length_nil]);omega)) (by ((try simp only[List.length_append,List.length_cons,List.length_nil]);omega)) rfl fun sv7 Hr7 hr7=>?_
   refine y_ List.perm_append_comm ?_
   have hq7:=zsa hr7
   refine Zz 9 ?_
   exact u_ ⟨(i+1,sv7,Hr7),hlx1,(by have q:=hq7;rw[ba_ hx1,show (cM_ l f) x1=[(D_ f.a x1.c)] from (by unfold cM_;rw[if_neg (by first|assumption|simpa using hr4|simp[*]),if_pos (by first|assumption|simpa using hr9|simp[*])])];simpa only[List.append_assoc,List.append_nil] using q)⟩ (by dsimp only;omega) zl (f_ (c_ d_) B_) (fun _ _ h=>h.2)
  simp at hr4
  refine Zz 9 ?_
  refine o_ (fp_ f.a x1.t f.b) rfl j_ zt rfl fun _=>N_ z_ q_ F_ rfl rfl rfl rfl rfl rfl fun b9=>?_
  refine ar_ (List.flatMap Fc.cells [(I_ f.a x1.t f.b)]) d_ rfl ?_
  refine au_ (news:=List.flatMap Fc.cells [(I_ f.a x1.t f.b)]) cc_ hr_Rfc rfl rfl (fun q=>by cases q) (by simp) (c_ B_) (by rw[bk_ Fc.cells 6 Fc.cells_len];rfl) zf (fun u hu=>Y_ Fc.cells_one hu) (by simp only[maxLen];((try simp only[List.length_append,List.length_cons,List.length_nil]);omega)) (by ((try simp only[List.length_append,List.length_cons,List.length_nil]);omega)) rfl fun sv8 Hr8 hr8=>?_
  refine y_ List.perm_append_comm ?_
  have hq8:=zsa hr8
  refine Zz 9 ?_
  exact u_ ⟨(i+1,sv8,Hr8),hlx1,(by have q:=hq8;rw[ba_ hx1,show (cM_ l f) x1=[(I_ f.a x1.t f.b)] from (by unfold cM_;rw[if_pos (by first|assumption|simpa using hr4|simp[*])])];simpa only[List.append_assoc,List.append_nil] using q)⟩ (by dsimp only;omega) zl (f_ (c_ d_) B_) (fun _ _ h=>h.2)
 replace hr1:=dT hr1
 refine Zz 5 ?_
 refine o_ (dX_ f.a [33]) rfl j_ zt rfl fun _=>N_ z_ q_ F_ rfl rfl rfl rfl rfl rfl fun b10=>?_
 refine ar_ (List.flatMap Fc.cells [(D_ f.a [33])]) d_ rfl ?_
 refine au_ (news:=List.flatMap Fc.cells [(D_ f.a [33])]) cc_ (ev_ b2 24 6) rfl rfl (fun q=>by cases q) (by simp) B_ (by rw[bk_ Fc.cells 6 Fc.cells_len];rfl) zf (fun u hu=>Y_ Fc.cells_one hu) (by simp only[maxLen];((try simp only[List.length_append,List.length_cons,List.length_nil]);omega)) (by ((try simp only[List.length_append,List.length_cons,List.length_nil]);omega)) rfl fun sv9 Hr9 hr9=>?_
 refine y_ List.perm_append_comm ?_
 have hq9:aO_ 24 6 sv9 (List.length (([]:List Fc)++[(D_ f.a [33])])) (List.flatMap Fc.cells (([]:List Fc)++[(D_ f.a [33])])) Hr9:=by rw[List.length_append,List.flatMap_append];exact hr9
 refine Zz 10 ?_
 have hw10:=zsw (cM_ l f) p hq9
 refine U_ (ι:={y:Nat×Value×Hp // y.1≤List.length p∧zR 24 6 Fc.cells y.2.1 ((([]:List Fc)++[(D_ f.a [33])])++List.flatMap (cM_ l f) (List.take y.1 p)) y.2.2}) (fun y=>[(0,.slice pad (List.length p) pcap),(1,.slice lad (List.length l) lcap),(5,zp_ b1 0),(6,.slice none 0 0),(7,y.1.2.1),(8,.int .i64 (y.1.1:Int))]) (fun y=>((b1,.cells #[.int .i64 f.kind,str f.a,str f.b,str f.r,.int .i64 f.lo,.int .i64 f.hi] 24 (0,0))::y.1.2.2)) (fun y=>[af_ (some ⟨b10,0,none⟩) (List.flatMap Fc.cells [(D_ f.a [33])]),af_ pad (List.flatMap Pc.cells p),af_ lad (List.flatMap Fc.cells l)]) (fun y=>List.length p - y.1.1) ⟨((0:Nat),sv9,Hr9),by simp,hw10⟩ zl zp zh ?_
 rintro ⟨⟨i,sv_Rfc,H_Rfc⟩,hi_i,hr_Rfc⟩
 dsimp only at hi_i hr_Rfc ⊢
 have hb1:=dP_ (g:=cM_ l f) (n:=131072) (List.take i p) (fun x _=>mn_ hl f x)
 rw[List.length_take]at hb1
 refine Zi 6 (fun hr29=>?_) fun hr29=>?_
 ·rw[show List.take i p=p from List.take_of_length_le (by omega)]at hr_Rfc
  refine Zz 12 ?_
  have hw11:aO_ 24 6 sv_Rfc (List.length (gJ_ p l f)) (List.flatMap Fc.cells (gJ_ p l f)) H_Rfc:=by have q:=hr_Rfc;unfold gJ_;first|(rw[if_pos (by assumption)];simpa only[List.nil_append] using q)|(rw[if_neg (by assumption)];simpa only[List.nil_append] using q)
  refine bj_ hw11 B_ fun ad2 cp2 had2 hcad2 hmad2 hzad2=>?_
  exact S_ Tryz.results114 ⟨(ad2,cp2),hcad2,hmad2,hzad2⟩ (bZ_ rfl had2) j_ zf
 obtain⟨hlx1,x1,hx1,hmx1⟩:=zge (show i<List.length p by omega)
 refine Zz 13 ?_
 refine J_ aH_ rfl fun b11=>w_ 0 W_ rfl rfl rfl rfl rfl rfl (Zz 7 ?_)
 refine O_ (bR_ rfl rfl) rfl fun r30 hr30=>Zz 1 ?_
 refine ax_ 6 ((x1.kind==5)&&(x1.r==f.r)) (fun r=>[(0,.slice pad (List.length p) pcap),(1,.slice lad (List.length l) lcap),(5,zp_ b1 0),(6,.slice none 0 0),(7,sv_Rfc),(8,.int .i64 (i:Int)),(9,zp_ b11 0),(44,.bool r)]) ?_ fun r31 hr31=>?_
 ·cases r30
  ·have qr31:=hr30
   replace hr30:=znb hr30
   refine Zz 8 ?_
   exact met ⟨rfl,rfl,rfl,rfl,rfl,rfl,rfl,(g_ rfl (jaf qr31)),trivial⟩
  have qr31:=hr30
  replace hr30:=zeb hr30
  refine Zz 9 ?_
  refine O_ (bq_ rfl rfl) rfl fun r32 hr32=>Zz 3 ?_
  exact met ⟨rfl,rfl,rfl,rfl,rfl,rfl,rfl,(g_ rfl (jat qr31 hr32)),trivial⟩
 refine Zz 3 ?_
 cases r31
 ·simp at hr31
  refine Zz 5 ?_
  refine O_ (bR_ rfl rfl) rfl fun r33 hr33=>Zz 1 ?_
  refine ax_ 6 ((x1.kind==4)&&(x1.r==f.r)) (fun r=>[(0,.slice pad (List.length p) pcap),(1,.slice lad (List.length l) lcap),(5,zp_ b1 0),(6,.slice none 0 0),(7,sv_Rfc),(8,.int .i64 (i:Int)),(9,zp_ b11 0),(65,.bool r)]) ?_ fun r34 hr34=>?_
  ·cases r33
   ·have qr34:=hr33
    replace hr33:=znb hr33
    refine Zz 8 ?_
    exact met ⟨rfl,rfl,rfl,rfl,rfl,rfl,rfl,(g_ rfl (jaf qr34)),trivial⟩
   have qr34:=hr33
   replace hr33:=zeb hr33
   refine Zz 9 ?_
   refine O_ (bq_ rfl rfl) rfl fun r35 hr35=>Zz 3 ?_
   exact met ⟨rfl,rfl,rfl,rfl,rfl,rfl,rfl,(g_ rfl (jat qr34 hr35)),trivial⟩
  refine Zz 1 ?_
  refine ax_ 8 ((((x1.kind==4)&&(x1.r==f.r)))&&(decide ((D_ f.b x1.a)∈l))) (fun r=>[(0,.slice pad (List.length p) pcap),(1,.slice lad (List.length l) lcap),(5,zp_ b1 0),(6,.slice none 0 0),(7,sv_Rfc),(8,.int .i64 (i:Int)),(9,zp_ b11 0),(74,.bool r)]) ?_ fun r36 hr36=>?_
  ·cases r34
   ·have qr36:=hr34
    simp at hr34
    refine Zz 10 ?_
    exact met ⟨rfl,rfl,rfl,rfl,rfl,rfl,rfl,(g_ rfl (jaf qr36)),trivial⟩
   have qr36:=hr34
   simp at hr34
   refine Zz 11 ?_
   refine o_ (dX_ f.b x1.a) rfl j_ zt rfl fun _=>aw_ rfl rfl (ae_ (mq_ l lad lcap (D_ f.b x1.a) (by omega) hs) rfl j_ zf rfl fun r37 hr37=>Zz 3 ?_)
   exact met ⟨rfl,rfl,rfl,rfl,rfl,rfl,rfl,(g_ rfl (jat qr36 hr37)),trivial⟩
  refine Zz 3 ?_
  cases r36
  ·simp at hr36
   refine Zi 5 (fun hr38=>?_) fun hr38=>?_
   ·refine Zz 12 ?_
    exact u_ ⟨(i+1,sv_Rfc,H_Rfc),hlx1,(by have q:=hr_Rfc;rw[ba_ hx1,show (cM_ l f) x1=[] from (by unfold cM_;rw[if_neg (by first|assumption|simpa using hr31|simp[*]),if_neg (by first|assumption|simpa using hr36|simp[*]),if_neg (by first|assumption|simpa using hr38|simp[*])])];simpa only[List.append_assoc,List.append_nil] using q)⟩ (by dsimp only;omega) zl (f_ (c_ d_) B_) zh
   refine Zz 10 ?_
   have hw12:=zsw (cE_ x1 f) l hr_Rfc
   refine U_ (ι:={y:Nat×Value×Hp // y.1≤List.length l∧zR 24 6 Fc.cells y.2.1 (((([]:List Fc)++[(D_ f.a [33])])++List.flatMap (cM_ l f) (List.take i p))++List.flatMap (cE_ x1 f) (List.take y.1 l)) y.2.2}) (fun y=>[(0,.slice pad (List.length p) pcap),(1,.slice lad (List.length l) lcap),(5,zp_ b1 0),(6,.slice none 0 0),(7,y.1.2.1),(8,.int .i64 (i:Int)),(9,zp_ b11 0),(10,.int .i64 (y.1.1:Int))]) (fun y=>((b11,.cells #[.int .i64 x1.kind,str x1.a,str x1.b,str x1.c,str x1.r,str x1.s,str x1.t,.int .i64 x1.lo,.int .i64 x1.hi,.int .i64 x1.frm] 52 (0,0))::((b1,.cells #[.int .i64 f.kind,str f.a,str f.b,str f.r,.int .i64 f.lo,.int .i64 f.hi] 24 (0,0))::y.1.2.2))) (fun y=>[af_ (some ⟨b10,0,none⟩) (List.flatMap Fc.cells [(D_ f.a [33])]),af_ pad (List.flatMap Pc.cells p),af_ lad (List.flatMap Fc.cells l)]) (fun y=>List.length l - y.1.1) ⟨((0:Nat),sv_Rfc,H_Rfc),by simp,hw12⟩ zl zp zh ?_
   rintro ⟨⟨j,sv_Rfc,H_Rfc⟩,hi_j,hr_Rfc⟩
   dsimp only at hi_j hr_Rfc ⊢
   have hb2:=dP_ (g:=cE_ x1 f) (n:=2) (List.take j l) (fun x _=>jw_ x1 f x)
   rw[List.length_take]at hb2
   refine Zi 6 (fun hr39=>?_) fun hr39=>?_
   ·rw[show List.take j l=l from List.take_of_length_le (by omega)]at hr_Rfc
    refine Zz 11 ?_
    exact u_ ⟨(i+1,sv_Rfc,H_Rfc),hlx1,(by have q:=hr_Rfc;rw[ba_ hx1,show (cM_ l f) x1=List.flatMap (cE_ x1 f) l from (by unfold cM_;rw[if_neg (by first|assumption|simpa using hr31|simp[*]),if_neg (by first|assumption|simpa using hr36|simp[*]),if_pos (by first|assumption|simpa using hr38|simp[*])])];simpa only[List.append_assoc,List.append_nil] using q)⟩ (by dsimp only;omega) zl (f_ (c_ d_) B_) zh
   obtain⟨hlx2,x2,hx2,hmx2⟩:=zge (show j<List.length l by omega)
   refine Zz 13 ?_
   refine J_ F_ rfl fun b12=>w_ 0 q_ rfl rfl rfl rfl rfl rfl (Zi 7 (fun hr40=>?_) fun hr40=>?_)
   ·refine Zz 12 ?_
    refine O_ (bq_ rfl rfl) rfl fun r41 hr41=>Zz 1 ?_
    refine ax_ 6 ((x1.r==f.r)&&(x2.a==f.b)) (fun r=>[(0,.slice pad (List.length p) pcap),(1,.slice lad (List.length l) lcap),(5,zp_ b1 0),(6,.slice none 0 0),(7,sv_Rfc),(8,.int .i64 (i:Int)),(9,zp_ b11 0),(10,.int .i64 (j:Int)),(11,zp_ b12 0),(111,.bool r)]) ?_ fun r42 hr42=>?_
    ·cases r41
     ·have qr42:=hr41
      replace hr41:=znb hr41
      refine Zz 8 ?_
      exact met ⟨rfl,rfl,rfl,rfl,rfl,rfl,rfl,rfl,rfl,(g_ rfl (jaf qr42)),trivial⟩
     have qr42:=hr41
     replace hr41:=zeb hr41
     refine Zz 9 ?_
     refine O_ (bq_ rfl rfl) rfl fun r43 hr43=>Zz 3 ?_
     exact met ⟨rfl,rfl,rfl,rfl,rfl,rfl,rfl,rfl,rfl,(g_ rfl (jat qr42 hr43)),trivial⟩
    refine Zz 1 ?_
    refine ax_ 6 ((((x1.r==f.r)&&(x2.a==f.b)))&&(x2.r==x1.s)) (fun r=>[(0,.slice pad (List.length p) pcap),(1,.slice lad (List.length l) lcap),(5,zp_ b1 0),(6,.slice none 0 0),(7,sv_Rfc),(8,.int .i64 (i:Int)),(9,zp_ b11 0),(10,.int .i64 (j:Int)),(11,zp_ b12 0),(118,.bool r)]) ?_ fun r44 hr44=>?_
    ·cases r42
     ·have qr44:=hr42
      simp at hr42
      refine Zz 8 ?_
      exact met ⟨rfl,rfl,rfl,rfl,rfl,rfl,rfl,rfl,rfl,(g_ rfl (jaf qr44)),trivial⟩
     have qr44:=hr42
     simp at hr42
     refine Zz 9 ?_
     refine O_ (bq_ rfl rfl) rfl fun r45 hr45=>Zz 3 ?_
     exact met ⟨rfl,rfl,rfl,rfl,rfl,rfl,rfl,rfl,rfl,(g_ rfl (jat qr44 hr45)),trivial⟩
    refine Zz 2 ?_
    cases r44
    ·simp at hr44
     refine Zz 9 ?_
     refine O_ (bq_ rfl rfl) rfl fun r46 hr46=>Zz 1 ?_
     refine ax_ 6 ((x1.s==f.r)&&(x2.b==f.a)) (fun r=>[(0,.slice pad (List.length p) pcap),(1,.slice lad (List.length l) lcap),(5,zp_ b1 0),(6,.slice none 0 0),(7,sv_Rfc),(8,.int .i64 (i:Int)),(9,zp_ b11 0),(10,.int .i64 (j:Int)),(11,zp_ b12 0),(140,.bool r)]) ?_ fun r47 hr47=>?_
     ·cases r46
      ·have qr47:=hr46
       replace hr46:=znb hr46
       refine Zz 8 ?_
       exact met ⟨rfl,rfl,rfl,rfl,rfl,rfl,rfl,rfl,rfl,(g_ rfl (jaf qr47)),trivial⟩
      have qr47:=hr46
      replace hr46:=zeb hr46
      refine Zz 9 ?_
      refine O_ (bq_ rfl rfl) rfl fun r48 hr48=>Zz 3 ?_
      exact met ⟨rfl,rfl,rfl,rfl,rfl,rfl,rfl,rfl,rfl,(g_ rfl (jat qr47 hr48)),trivial⟩
     refine Zz 1 ?_
     refine ax_ 6 ((((x1.s==f.r)&&(x2.b==f.a)))&&(x2.r==x1.r)) (fun r=>[(0,.slice pad (List.length p) pcap),(1,.slice lad (List.length l) lcap),(5,zp_ b1 0),(6,.slice none 0 0),(7,sv_Rfc),(8,.int .i64 (i:Int)),(9,zp_ b11 0),(10,.int .i64 (j:Int)),(11,zp_ b12 0),(147,.bool r)]) ?_ fun r49 hr49=>?_
     ·cases r47
      ·have qr49:=hr47
       simp at hr47
       refine Zz 8 ?_
       exact met ⟨rfl,rfl,rfl,rfl,rfl,rfl,rfl,rfl,rfl,(g_ rfl (jaf qr49)),trivial⟩
      have qr49:=hr47
      simp at hr47
      refine Zz 9 ?_
      refine O_ (bq_ rfl rfl) rfl fun r50 hr50=>Zz 3 ?_
      exact met ⟨rfl,rfl,rfl,rfl,rfl,rfl,rfl,rfl,rfl,(g_ rfl (jat qr49 hr50)),trivial⟩
     refine Zz 2 ?_
     cases r49
     ·simp at hr49
      refine Zz 9 ?_
      exact u_ ⟨(j+1,sv_Rfc,H_Rfc),hlx2,(by have q:=hr_Rfc;rw[ba_ hx2,show (cE_ x1 f) x2=[] from (by unfold cE_;rw[if_neg (by simp[*]),if_neg (by first|assumption|simpa using hr44|simp[*]),if_neg (by first|assumption|simpa using hr49|simp[*])];try rfl)];simpa only[List.append_assoc,List.append_nil] using q)⟩ (by dsimp only;omega) zl (f_ (c_ d_) (f_ (c_ d_) B_)) zh
     simp at hr49
     refine Zz 9 ?_
     refine o_ (fp_ x2.a x1.t f.b) rfl j_ zt rfl fun _=>N_ z_ q_ F_ rfl rfl rfl rfl rfl rfl fun b13=>?_
     refine ar_ (List.flatMap Fc.cells [(I_ x2.a x1.t f.b)]) d_ rfl ?_
     refine au_ (news:=List.flatMap Fc.cells [(I_ x2.a x1.t f.b)]) cc_ hr_Rfc rfl rfl (fun q=>by cases q) (by simp) (c_ (c_ B_)) (by rw[bk_ Fc.cells 6 Fc.cells_len];rfl) zf (fun u hu=>Y_ Fc.cells_one hu) (by simp only[maxLen];((try simp only[List.length_append,List.length_cons,List.length_nil]);omega)) (by ((try simp only[List.length_append,List.length_cons,List.length_nil]);omega)) rfl fun sv13 Hr13 hr13=>?_
     refine y_ List.perm_append_comm ?_
     have hq13:=zsa hr13
     refine Zz 9 ?_
     exact u_ ⟨(j+1,sv13,Hr13),hlx2,(by have q:=hq13;rw[ba_ hx2,show (cE_ x1 f) x2=[(I_ x2.a x1.t f.b)] from (by unfold cE_;rw[if_neg (by simp[*]),if_neg (by first|assumption|simpa using hr44|simp[*]),if_pos (by first|assumption|simpa using hr49|simp[*])];try rfl)];simpa only[List.append_assoc,List.append_nil] using q)⟩ (by dsimp only;omega) zl (f_ (c_ d_) (f_ (c_ d_) B_)) (fun _ _ h=>h.2)
    simp at hr44
    refine Zz 9 ?_
    refine o_ (fp_ f.a x1.t x2.b) rfl j_ zt rfl fun _=>N_ z_ q_ F_ rfl rfl rfl rfl rfl rfl fun b14=>?_
    refine ar_ (List.flatMap Fc.cells [(I_ f.a x1.t x2.b)]) d_ rfl ?_
    refine au_ (news:=List.flatMap Fc.cells [(I_ f.a x1.t x2.b)]) cc_ hr_Rfc rfl rfl (fun q=>by cases q) (by simp) (c_ (c_ B_)) (by rw[bk_ Fc.cells 6 Fc.cells_len];rfl) zf (fun u hu=>Y_ Fc.cells_one hu) (by simp only[maxLen];((try simp only[List.length_append,List.length_cons,List.length_nil]);omega)) (by ((try simp only[List.length_append,List.length_cons,List.length_nil]);omega)) rfl fun sv14 Hr14 hr14=>?_
    refine y_ List.perm_append_comm ?_
    have hq14:=zsa hr14
    refine Zz 9 ?_
    refine O_ (bq_ rfl rfl) rfl fun r51 hr51=>Zz 1 ?_
    refine ax_ 6 ((x1.s==f.r)&&(x2.b==f.a)) (fun r=>[(0,.slice pad (List.length p) pcap),(1,.slice lad (List.length l) lcap),(5,zp_ b1 0),(6,.slice none 0 0),(7,sv14),(8,.int .i64 (i:Int)),(9,zp_ b11 0),(10,.int .i64 (j:Int)),(11,zp_ b12 0),(140,.bool r)]) ?_ fun r52 hr52=>?_
    ·cases r51
     ·have qr52:=hr51
      replace hr51:=znb hr51
      refine Zz 8 ?_
      exact met ⟨rfl,rfl,rfl,rfl,rfl,rfl,rfl,rfl,rfl,(g_ rfl (jaf qr52)),trivial⟩
     have qr52:=hr51
     replace hr51:=zeb hr51
     refine Zz 9 ?_
     refine O_ (bq_ rfl rfl) rfl fun r53 hr53=>Zz 3 ?_
     exact met ⟨rfl,rfl,rfl,rfl,rfl,rfl,rfl,rfl,rfl,(g_ rfl (jat qr52 hr53)),trivial⟩
    refine Zz 1 ?_
    refine ax_ 6 ((((x1.s==f.r)&&(x2.b==f.a)))&&(x2.r==x1.r)) (fun r=>[(0,.slice pad (List.length p) pcap),(1,.slice lad (List.length l) lcap),(5,zp_ b1 0),(6,.slice none 0 0),(7,sv14),(8,.int .i64 (i:Int)),(9,zp_ b11 0),(10,.int .i64 (j:Int)),(11,zp_ b12 0),(147,.bool r)]) ?_ fun r54 hr54=>?_
    ·cases r52
     ·have qr54:=hr52
      simp at hr52
      refine Zz 8 ?_
      exact met ⟨rfl,rfl,rfl,rfl,rfl,rfl,rfl,rfl,rfl,(g_ rfl (jaf qr54)),trivial⟩
     have qr54:=hr52
     simp at hr52
     refine Zz 9 ?_
     refine O_ (bq_ rfl rfl) rfl fun r55 hr55=>Zz 3 ?_
     exact met ⟨rfl,rfl,rfl,rfl,rfl,rfl,rfl,rfl,rfl,(g_ rfl (jat qr54 hr55)),trivial⟩
    refine Zz 2 ?_
    cases r54
    ·simp at hr54
     refine Zz 9 ?_
     exact u_ ⟨(j+1,sv14,Hr14),hlx2,(by have q:=hq14;rw[ba_ hx2,show (cE_ x1 f) x2=[(I_ f.a x1.t x2.b)] from (by unfold cE_;rw[if_neg (by simp[*]),if_pos (by first|assumption|simpa using hr44|simp[*]),if_neg (by first|assumption|simpa using hr54|simp[*])];try rfl)];simpa only[List.append_assoc,List.append_nil] using q)⟩ (by dsimp only;omega) zl (f_ (c_ d_) (f_ (c_ d_) B_)) (fun _ _ h=>h.2)
    simp at hr54
    refine Zz 9 ?_
    refine o_ (fp_ x2.a x1.t f.b) rfl j_ zt rfl fun _=>N_ z_ q_ F_ rfl rfl rfl rfl rfl rfl fun b15=>?_
    refine ar_ (List.flatMap Fc.cells [(I_ x2.a x1.t f.b)]) d_ rfl ?_
    refine au_ (news:=List.flatMap Fc.cells [(I_ x2.a x1.t f.b)]) cc_ hq14 rfl rfl (fun q=>by cases q) (by simp) zp (by rw[bk_ Fc.cells 6 Fc.cells_len];rfl) zf (fun u hu=>Y_ Fc.cells_one hu) (by simp only[maxLen];((try simp only[List.length_append,List.length_cons,List.length_nil]);omega)) (by ((try simp only[List.length_append,List.length_cons,List.length_nil]);omega)) rfl fun sv15 Hr15 hr15=>?_
    refine y_ List.perm_append_comm ?_
    have hq15:=zsa hr15
    refine Zz 9 ?_
    exact u_ ⟨(j+1,sv15,Hr15),hlx2,(by have q:=hq15;rw[ba_ hx2,show (cE_ x1 f) x2=[(I_ f.a x1.t x2.b)]++[(I_ x2.a x1.t f.b)] from (by unfold cE_;rw[if_neg (by simp[*]),if_pos (by first|assumption|simpa using hr44|simp[*]),if_pos (by first|assumption|simpa using hr54|simp[*])];try rfl)];simpa only[List.append_assoc,List.append_nil] using q)⟩ (by dsimp only;omega) zl (f_ (c_ d_) (f_ (c_ d_) B_)) (fun _ _ h=>h.2.2)
   refine Zz 11 ?_
   exact u_ ⟨(j+1,sv_Rfc,H_Rfc),hlx2,(by have q:=hr_Rfc;rw[ba_ hx2,show (cE_ x1 f) x2=[] from (by unfold cE_;rw[if_pos (by assumption)])];simpa only[List.append_assoc,List.append_nil] using q)⟩ (by dsimp only;omega) zl (f_ (c_ d_) (f_ (c_ d_) B_)) zh
  simp at hr36
  refine Zz 7 ?_
  refine o_ (dX_ f.a x1.c) rfl j_ zt rfl fun _=>N_ z_ q_ F_ rfl rfl rfl rfl rfl rfl fun b16=>?_
  refine ar_ (List.flatMap Fc.cells [(D_ f.a x1.c)]) d_ rfl ?_
  refine au_ (news:=List.flatMap Fc.cells [(D_ f.a x1.c)]) cc_ hr_Rfc rfl rfl (fun q=>by cases q) (by simp) (c_ B_) (by rw[bk_ Fc.cells 6 Fc.cells_len];rfl) zf (fun u hu=>Y_ Fc.cells_one hu) (by simp only[maxLen];((try simp only[List.length_append,List.length_cons,List.length_nil]);omega)) (by ((try simp only[List.length_append,List.length_cons,List.length_nil]);omega)) rfl fun sv16 Hr16 hr16=>?_
  refine y_ List.perm_append_comm ?_
  have hq16:=zsa hr16
  refine Zz 9 ?_
  exact u_ ⟨(i+1,sv16,Hr16),hlx1,(by have q:=hq16;rw[ba_ hx1,show (cM_ l f) x1=[(D_ f.a x1.c)] from (by unfold cM_;rw[if_neg (by first|assumption|simpa using hr31|simp[*]),if_pos (by first|assumption|simpa using hr36|simp[*])])];simpa only[List.append_assoc,List.append_nil] using q)⟩ (by dsimp only;omega) zl (f_ (c_ d_) B_) (fun _ _ h=>h.2)
 simp at hr31
 refine Zz 9 ?_
 refine o_ (fp_ f.a x1.t f.b) rfl j_ zt rfl fun _=>N_ z_ q_ F_ rfl rfl rfl rfl rfl rfl fun b17=>?_
 refine ar_ (List.flatMap Fc.cells [(I_ f.a x1.t f.b)]) d_ rfl ?_
 refine au_ (news:=List.flatMap Fc.cells [(I_ f.a x1.t f.b)]) cc_ hr_Rfc rfl rfl (fun q=>by cases q) (by simp) (c_ B_) (by rw[bk_ Fc.cells 6 Fc.cells_len];rfl) zf (fun u hu=>Y_ Fc.cells_one hu) (by simp only[maxLen];((try simp only[List.length_append,List.length_cons,List.length_nil]);omega)) (by ((try simp only[List.length_append,List.length_cons,List.length_nil]);omega)) rfl fun sv17 Hr17 hr17=>?_
 refine y_ List.perm_append_comm ?_
 have hq17:=zsa hr17
 refine Zz 9 ?_
 exact u_ ⟨(i+1,sv17,Hr17),hlx1,(by have q:=hq17;rw[ba_ hx1,show (cM_ l f) x1=[(I_ f.a x1.t f.b)] from (by unfold cM_;rw[if_pos (by first|assumption|simpa using hr31|simp[*])])];simpa only[List.append_assoc,List.append_nil] using q)⟩ (by dsimp only;omega) zl (f_ (c_ d_) B_) (fun _ _ h=>h.2)
theorem qt_ (p:List Pc) (pad:Option Addr) (pcap:Nat) (l:List Fc) (lad:Option Addr) (lcap:Nat) (f:Fc) (hp:p.length≤100) (hl:l.length≤65536) (hs:Srt l):Tri Tryz.prog 115 #[.slice pad (List.length p) pcap,.slice lad (List.length l) lcap,Fc.val f] [] [af_ pad (List.flatMap Pc.cells p),af_ lad (List.flatMap Fc.cells l)] (fun y:{y:Option Addr×Nat // ((hi_ p l f)).length≤y.2∧y.2≤maxLen∧(y.1=none→y.2=0)}=>.slice y.1.1 ((hi_ p l f)).length y.1.2) (fun _=>[]) (fun y=>[af_ y.1.1 (((hi_ p l f)).flatMap Fc.cells)]):=by
 refine x_ Tryz.func115 rfl rfl Tryz.ntmps115 rfl fun v0=>?_
 refine Zz 2 ?_
 refine ay_ rfl rfl fun b1=>Zz 5 ?_
 refine dw_ z_ q_ rfl fun b2=>y_ d_ (Zz 4 ?_)
 refine y_ (av_ ac_) (Zz 6 ?_)
 refine U_ (ι:={y:Nat×Value×Hp // y.1≤List.length l∧zR 24 6 Fc.cells y.2.1 (List.flatMap (ds_ f) (List.take y.1 l)) y.2.2}) (fun y=>[(0,.slice pad (List.length p) pcap),(1,.slice lad (List.length l) lcap),(5,zp_ b1 0),(6,.slice none 0 0),(7,y.1.2.1),(8,.int .i64 (y.1.1:Int))]) (fun y=>((b1,.cells #[.int .i64 f.kind,str f.a,str f.b,str f.r,.int .i64 f.lo,.int .i64 f.hi] 24 (0,0))::y.1.2.2)) (fun y=>[af_ pad (List.flatMap Pc.cells p),af_ lad (List.flatMap Fc.cells l)]) (fun y=>List.length l - y.1.1) ⟨((0:Nat),(.slice (some ⟨b2,0,none⟩) 0 0),[(b2,.cells #[] 24 (0,0))]),by simp,(ev_ b2 24 6)⟩ zl zp zh ?_
 rintro ⟨⟨j,sv_Rfc,H_Rfc⟩,hi_j,hr_Rfc⟩
 dsimp only at hi_j hr_Rfc ⊢
 have hb1:=dP_ (g:=ds_ f) (n:=1) (List.take j l) (fun x _=>kM_ f x)
 rw[List.length_take]at hb1
 refine Zi 6 (fun hr1=>?_) fun hr1=>?_
 ·rw[show List.take j l=l from List.take_of_length_le (by omega)]at hr_Rfc
  refine Zz 12 ?_
  have hw1:=zsw (dM_ f) p hr_Rfc
  refine U_ (ι:={y:Nat×Value×Hp // y.1≤List.length p∧zR 24 6 Fc.cells y.2.1 (List.flatMap (ds_ f) l++List.flatMap (dM_ f) (List.take y.1 p)) y.2.2}) (fun y=>[(0,.slice pad (List.length p) pcap),(1,.slice lad (List.length l) lcap),(5,zp_ b1 0),(6,.slice none 0 0),(7,y.1.2.1),(8,.int .i64 (j:Int)),(12,.int .i64 (y.1.1:Int))]) (fun y=>((b1,.cells #[.int .i64 f.kind,str f.a,str f.b,str f.r,.int .i64 f.lo,.int .i64 f.hi] 24 (0,0))::y.1.2.2)) (fun y=>[af_ pad (List.flatMap Pc.cells p),af_ lad (List.flatMap Fc.cells l)]) (fun y=>List.length p - y.1.1) ⟨((0:Nat),sv_Rfc,H_Rfc),by simp,hw1⟩ zl zp zh ?_
  rintro ⟨⟨i,sv_Rfc,H_Rfc⟩,hi_i,hr_Rfc⟩
  dsimp only at hi_i hr_Rfc ⊢
  have hb0:=dP_ (g:=ds_ f) (n:=1) l (fun x _=>kM_ f x)
  have hb2:=dP_ (g:=dM_ f) (n:=1) (List.take i p) (fun x _=>oM_ f x)
  rw[List.length_take]at hb2
  refine Zi 6 (fun hr2=>?_) fun hr2=>?_
  ·rw[show List.take i p=p from List.take_of_length_le (by omega)]at hr_Rfc
   refine Zz 12 ?_
   have hw2:aO_ 24 6 sv_Rfc (List.length (hi_ p l f)) (List.flatMap Fc.cells (hi_ p l f)) H_Rfc:=by have q:=hr_Rfc;exact q
   refine bj_ hw2 B_ fun ad2 cp2 had2 hcad2 hmad2 hzad2=>?_
   exact S_ Tryz.results115 ⟨(ad2,cp2),hcad2,hmad2,hzad2⟩ (bZ_ rfl had2) j_ zf
  obtain⟨hlx1,x1,hx1,hmx1⟩:=zge (show i<List.length p by omega)
  refine Zz 9 ?_
  refine p_ 29 [0,1,2,3,4,5,6] zk zs (Zi 5 (fun hr3=>?_) fun hr3=>?_)
  ·refine Zz 2 ?_
   refine p_ 0 [7,8,9,10,11,12,13,14,15,16,17,18,19,20,21,22,23,24,25,26,27,28,29,30,31,32,33,34,35] zk zs (Zz 41 ?_)
   exact u_ ⟨(i+1,sv_Rfc,H_Rfc),hlx1,(by have q:=hr_Rfc;rw[ba_ hx1,show (dM_ f) x1=[] from (by unfold dM_;rw[if_neg (fun q=>by first|exact absurd q.1 (by assumption)|exact absurd q.2.1 (by assumption)|exact absurd q.2.2.1 (by assumption)|exact absurd q.2.2.2 (by assumption))])];simpa only[List.append_assoc,List.append_nil] using q)⟩ (by dsimp only;omega) zl (f_ d_ aD_) zh
  refine Zz 2 ?_
  refine p_ 19 [7,8,9,10,11,12,13,14,15,16] zk zs (Zi 7 (fun hr4=>?_) fun hr4=>?_)
  ·refine Zz 3 ?_
   refine p_ 0 [17,18,19,20,21,22,23,24,25,26,27,28,29,30,31,32,33,34,35] zk zs (Zz 31 ?_)
   exact u_ ⟨(i+1,sv_Rfc,H_Rfc),hlx1,(by have q:=hr_Rfc;rw[ba_ hx1,show (dM_ f) x1=[] from (by unfold dM_;rw[if_neg (fun q=>by first|exact absurd q.1 (by assumption)|exact absurd q.2.1 (by assumption)|exact absurd q.2.2.1 (by assumption)|exact absurd q.2.2.2 (by assumption))])];simpa only[List.append_assoc,List.append_nil] using q)⟩ (by dsimp only;omega) zl (f_ d_ aD_) zh
  refine Zz 3 ?_
  refine p_ 9 [17,18,19,20,21,22,23,24,25,26] zk zs (Zi 7 (fun hr5=>?_) fun hr5=>?_)
  ·refine Zz 3 ?_
   refine p_ 0 [27,28,29,30,31,32,33,34,35] zk zs (Zz 21 ?_)
   exact u_ ⟨(i+1,sv_Rfc,H_Rfc),hlx1,(by have q:=hr_Rfc;rw[ba_ hx1,show (dM_ f) x1=[] from (by unfold dM_;rw[if_neg (fun q=>by first|exact absurd q.1 (by assumption)|exact absurd q.2.1 (by assumption)|exact absurd q.2.2.1 (by assumption)|exact absurd q.2.2.2 (by assumption))])];simpa only[List.append_assoc,List.append_nil] using q)⟩ (by dsimp only;omega) zl (f_ d_ aD_) zh
  refine Zz 3 ?_
  refine p_ 0 [27,28,29,30,31,32,33,34,35] zk zs (Zi 7 (fun hr6=>?_) fun hr6=>?_)
  ·refine Zz 13 ?_
   exact u_ ⟨(i+1,sv_Rfc,H_Rfc),hlx1,(by have q:=hr_Rfc;rw[ba_ hx1,show (dM_ f) x1=[] from (by unfold dM_;rw[if_neg (fun q=>by first|exact absurd q.1 (by assumption)|exact absurd q.2.1 (by assumption)|exact absurd q.2.2.1 (by assumption)|exact absurd q.2.2.2 (by assumption))])];simpa only[List.append_assoc,List.append_nil] using q)⟩ (by dsimp only;omega) zl (f_ d_ aD_) zh
  refine Zz 5 ?_
  refine ab_ ((b1,.cells #[.int .i64 f.kind,str f.a,str f.b,str f.r,.int .i64 f.lo,.int .i64 f.hi] 24 (0,0))::[]) zk ?_
  refine p_ 4 [0,1,2,3,4,5,6,7] zk zs (Zz 9 ?_)
  refine m_ 8 rfl zk (o_ (dX_ f.a x1.c) rfl j_ zt rfl fun _=>Zz 3 ?_)
  refine m_ 9 rfl zk (N_ z_ q_ F_ rfl rfl rfl rfl rfl rfl fun b3=>?_)
  refine ar_ (List.flatMap Fc.cells [(D_ f.a x1.c)]) d_ rfl ?_
  refine Zz 3 ?_
  refine m_ 10 rfl zk (au_ (news:=List.flatMap Fc.cells [(D_ f.a x1.c)]) cc_ hr_Rfc rfl rfl (fun q=>by cases q) (by simp) B_ (by rw[bk_ Fc.cells 6 Fc.cells_len];rfl) zf (fun u hu=>Y_ Fc.cells_one hu) (by simp only[maxLen];((try simp only[List.length_append,List.length_cons,List.length_nil]);omega)) (by ((try simp only[List.length_append,List.length_cons,List.length_nil]);omega)) rfl fun sv3 Hr3 hr3=>?_)
  refine y_ List.perm_append_comm ?_
  have hq3:=zsa hr3
  refine Zz 3 ?_
  refine p_ 0 [11] zk zs (Zz 10 ?_)
  exact u_ ⟨(i+1,sv3,Hr3),hlx1,(by have q:=hq3;rw[ba_ hx1,show (dM_ f) x1=[(D_ f.a x1.c)] from (by unfold dM_;rw[if_pos ⟨by assumption,by assumption,by assumption,by assumption⟩])];simpa only[List.append_assoc,List.append_nil] using q)⟩ (by dsimp only;omega) zl (f_ d_ aD_) (fun _ _ h=>h.2)
 obtain⟨hlx2,x2,hx2,hmx2⟩:=zge (show j<List.length l by omega)
 refine Zz 13 ?_
 refine J_ F_ rfl fun b4=>w_ 0 q_ rfl rfl rfl rfl rfl rfl (Zi 7 (fun hr7=>?_) fun hr7=>?_)
 ·refine Zi 10 (fun hr8=>?_) fun hr8=>?_
  ·refine Zi 11 (fun hr9=>?_) fun hr9=>?_
   ·refine Zz 12 ?_
    refine i_ (dI_ rfl rfl) rfl (Zz 9 ?_)
    refine i_ (dx_ rfl rfl) rfl (Zi 7 (fun hr10=>?_) fun hr10=>?_)
    ·refine Zz 7 ?_
     refine o_ (dX_ f.a [33]) rfl j_ zt rfl fun _=>N_ z_ q_ F_ rfl rfl rfl rfl rfl rfl fun b5=>?_
     refine ar_ (List.flatMap Fc.cells [(D_ f.a [33])]) d_ rfl ?_
     refine au_ (news:=List.flatMap Fc.cells [(D_ f.a [33])]) cc_ hr_Rfc rfl rfl (fun q=>by cases q) (by simp) (c_ B_) (by rw[bk_ Fc.cells 6 Fc.cells_len];rfl) zf (fun u hu=>Y_ Fc.cells_one hu) (by simp only[maxLen];((try simp only[List.length_append,List.length_cons,List.length_nil]);omega)) (by ((try simp only[List.length_append,List.length_cons,List.length_nil]);omega)) rfl fun sv4 Hr4 hr4=>?_
     refine y_ List.perm_append_comm ?_
     have hq4:=zsa hr4
     refine Zz 9 ?_
     exact u_ ⟨(j+1,sv4,Hr4),hlx2,(by have q:=hq4;rw[ba_ hx2,show (ds_ f) x2=[(D_ f.a [33])] from (by unfold ds_;rw[if_neg (by simp[*]),if_neg (by assumption)])];simpa only[List.append_assoc,List.append_nil] using q)⟩ (by dsimp only;omega) zl (f_ (c_ d_) B_) (fun _ _ h=>h.2)
    refine Zz 11 ?_
    refine o_ (ki_ f.a f.r (max f.lo x2.lo) (min f.hi x2.hi)) rfl j_ zt rfl fun _=>N_ z_ q_ F_ rfl rfl rfl rfl rfl rfl fun b6=>?_
    refine ar_ (List.flatMap Fc.cells [(R_ f.a f.r (max f.lo x2.lo) (min f.hi x2.hi))]) d_ rfl ?_
    refine au_ (news:=List.flatMap Fc.cells [(R_ f.a f.r (max f.lo x2.lo) (min f.hi x2.hi))]) cc_ hr_Rfc rfl rfl (fun q=>by cases q) (by simp) (c_ B_) (by rw[bk_ Fc.cells 6 Fc.cells_len];rfl) zf (fun u hu=>Y_ Fc.cells_one hu) (by simp only[maxLen];((try simp only[List.length_append,List.length_cons,List.length_nil]);omega)) (by ((try simp only[List.length_append,List.length_cons,List.length_nil]);omega)) rfl fun sv5 Hr5 hr5=>?_
    refine y_ List.perm_append_comm ?_
    have hq5:=zsa hr5
    refine Zz 9 ?_
    exact u_ ⟨(j+1,sv5,Hr5),hlx2,(by have q:=hq5;rw[ba_ hx2,show (ds_ f) x2=[(R_ f.a f.r (max f.lo x2.lo) (min f.hi x2.hi))] from (by unfold ds_;rw[if_neg (by simp[*]),if_pos (by assumption)];try rfl)];simpa only[List.append_assoc,List.append_nil] using q)⟩ (by dsimp only;omega) zl (f_ (c_ d_) B_) (fun _ _ h=>h.2)
   refine Zz 12 ?_
   exact u_ ⟨(j+1,sv_Rfc,H_Rfc),hlx2,(by have q:=hr_Rfc;rw[ba_ hx2,show (ds_ f) x2=[] from (by unfold ds_;rw[if_pos (by simp[*])])];simpa only[List.append_assoc,List.append_nil] using q)⟩ (by dsimp only;omega) zl (f_ (c_ d_) B_) zh
  refine Zz 19 ?_
  exact u_ ⟨(j+1,sv_Rfc,H_Rfc),hlx2,(by have q:=hr_Rfc;rw[ba_ hx2,show (ds_ f) x2=[] from (by unfold ds_;rw[if_pos (by simp[*])])];simpa only[List.append_assoc,List.append_nil] using q)⟩ (by dsimp only;omega) zl (f_ (c_ d_) B_) zh
 refine Zz 25 ?_
 exact u_ ⟨(j+1,sv_Rfc,H_Rfc),hlx2,(by have q:=hr_Rfc;rw[ba_ hx2,show (ds_ f) x2=[] from (by unfold ds_;rw[if_pos (by simp[*])])];simpa only[List.append_assoc,List.append_nil] using q)⟩ (by dsimp only;omega) zl (f_ (c_ d_) B_) zh
theorem rq_ (p:List Pc) (pad:Option Addr) (pcap:Nat) (l:List Fc) (lad:Option Addr) (lcap:Nat) (f:Fc) (hp:p.length≤100) (hl:l.length≤65536) (hs:Srt l):Tri Tryz.prog 77 #[.slice pad (List.length p) pcap,.slice lad (List.length l) lcap,Fc.val f] [] [af_ pad (List.flatMap Pc.cells p),af_ lad (List.flatMap Fc.cells l)] (fun y:{y:Option Addr×Nat // ((cx_ p l f)).length≤y.2∧y.2≤maxLen∧(y.1=none→y.2=0)}=>.slice y.1.1 ((cx_ p l f)).length y.1.2) (fun _=>[]) (fun y=>[af_ y.1.1 (((cx_ p l f)).flatMap Fc.cells)]):=by
 refine x_ Tryz.func77 rfl rfl Tryz.ntmps77 rfl fun v0=>?_
 refine Zz 2 ?_
 refine ay_ rfl rfl fun b1=>Zi 13 (fun hr1=>?_) fun hr1=>?_
 ·refine Zi 6 (fun hr2=>?_) fun hr2=>?_
  ·refine Zz 11 ?_
   refine o_ (qt_ p pad pcap l lad lcap f hp hl hs) rfl j_ zf rfl fun⟨⟨sad1,scap1⟩,hsc⟩=>?_
   dsimp only
   dsimp only at hsc
   refine Zz 4 ?_
   have e0:cx_ p l f=(hi_ p l f):=by unfold cx_;rw[if_neg (by omega),if_neg (by omega)]
   rw[← e0]at hsc
   exact S_ Tryz.results77 ⟨(sad1,scap1),hsc⟩ (bZ_ rfl (by dsimp only;rw[e0])) j_ (fun v _ h=>⟨by show bg_ v sad1 (List.flatMap Fc.cells (cx_ p l f));rw[e0];exact h.1,trivial⟩)
  refine Zz 9 ?_
  refine o_ (sj_ p pad pcap l lad lcap f hp hl hs) rfl j_ zf rfl fun⟨⟨sad1,scap1⟩,hsc⟩=>?_
  dsimp only
  dsimp only at hsc
  refine Zz 4 ?_
  have e0:cx_ p l f=(gJ_ p l f):=by unfold cx_;rw[if_neg (by omega),if_pos (by assumption)]
  rw[← e0]at hsc
  exact S_ Tryz.results77 ⟨(sad1,scap1),hsc⟩ (bZ_ rfl (by dsimp only;rw[e0])) j_ (fun v _ h=>⟨by show bg_ v sad1 (List.flatMap Fc.cells (cx_ p l f));rw[e0];exact h.1,trivial⟩)
 refine Zz 9 ?_
 refine o_ (tO_ p pad pcap l lad lcap f hp hl hs) rfl j_ zf rfl fun⟨⟨sad1,scap1⟩,hsc⟩=>?_
 dsimp only
 dsimp only at hsc
 refine Zz 4 ?_
 have e0:cx_ p l f=(mB_ p l f):=by unfold cx_;rw[if_pos (by assumption)]
 rw[← e0]at hsc
 exact S_ Tryz.results77 ⟨(sad1,scap1),hsc⟩ (bZ_ rfl (by dsimp only;rw[e0])) j_ (fun v _ h=>⟨by show bg_ v sad1 (List.flatMap Fc.cells (cx_ p l f));rw[e0];exact h.1,trivial⟩)
end Go.Proofs.YtkeanlfhghlgiaaGreatDoor
namespace Go.Proofs.YtkeanlfhghlgiaaGreatDoor
open Go Go.Sx Go.Proofs
attribute [local irreducible] Code.wp wpList wpAnyH
open Go.Vs
theorem kG_ {e:TypeId} {sz n b:Nat} {xs:List Value} (h:xs.length=n*sz) (hn:n≤maxLen):aO_ e sz (.slice (some ⟨b,0,none⟩) n n) n xs [(b,.cells xs.toArray e (0,0))] :=
  ⟨h,.inr ⟨b,n,xs.toArray,rfl,rfl,Nat.le_refl _,hn,by simpa using h,by rw[List.toList_toArray];exact List.take_of_length_le (by omega)⟩⟩
def cC_ (p:List Pc):List Str:=[[33],[42]]++cu_ p
def di_ (L:List Str):List Str:=L.foldl bl_ []
theorem ep_ {L:List Str} {i:Nat} {x:Str} (h:L[i]? = some x):di_ (L.take (i+1))=bl_ (di_ (L.take i)) x:=by
  unfold di_;rw[List.take_add_one,h,Option.toList_some,List.foldl_append];rfl
theorem pI_:∀ (L A:List Str),tg_ A→tg_ (L.foldl bl_ A)∧(∀ x,x∈L.foldl bl_ A↔x∈A∨(x∈L∧x≠[]))∧(L.foldl bl_ A).length≤A.length+L.length
 | [],A,h=>⟨h,by simp,by simp⟩
 | y::L,A,h=>by
   obtain⟨h1,h2,h3⟩:=pI_ L (bl_ A y) (iJ_ h)
   refine⟨h1,fun x=>?_,?_⟩
   · rw[List.foldl_cons,h2,hX_]
     simp only[List.mem_cons]
     constructor
     · rintro ((h|⟨rfl,h⟩)|⟨h,h'⟩)
       · exact .inl h
       · exact .inr ⟨.inl rfl,h⟩
       · exact .inr ⟨.inr h,h'⟩
     · rintro (h|⟨rfl|h,h'⟩)
       · exact .inl (.inl h)
       · exact .inl (.inr ⟨rfl,h'⟩)
       · exact .inr ⟨h,h'⟩
   · have:=fc_ A y
     simp only[List.foldl_cons,List.length_cons]
     omega
theorem sH_ (L:List Str):(di_ L).length≤L.length:=by have:=(pI_ L [] List.Pairwise.nil).2.2;unfold di_;simpa using this
theorem sG_ (L:List Str):tg_ (di_ L):=(pI_ L [] List.Pairwise.nil).1
theorem nd_ {p:List Pc}:∀ x∈cC_ p,x≠[]:=fun x hx=>by
 unfold cC_ at hx
 rcases List.mem_append.1 hx with h|h
 ·simp at h;rcases h with rfl|rfl<;>simp
 rw[← ji_]at h;exact qT_ h
theorem uy_ (p:List Pc):di_ (cC_ p)=atS p :=
 ff_ eF_ List.lt_trans (sG_ _) (lD_ p) fun x=>by
   rw[fO_,di_,(pI_ _ [] List.Pairwise.nil).2.1]
   constructor
   · rintro (h|⟨h,_⟩)
     · simp at h
     · unfold cC_ at h
       rcases List.mem_append.1 h with h|h
       · simp at h;exact .inr h.symm
       · rw[← ji_]at h;exact .inl h
   · intro h
     refine .inr ?_
     have hm:x∈cC_ p:=by
       unfold cC_
       rcases h with h|h
       · rw[ji_]at h;exact List.mem_append_right _ h
       · exact List.mem_append_left _ (by simp;exact h.symm)
     exact⟨hm,nd_ x hm⟩
theorem sW_ (p:List Pc):(cC_ p).length≤3*p.length+2:=by
  have:=hs_ p
  unfold cC_;rw[List.length_append];simp only[List.length_cons,List.length_nil];omega
theorem kW_yes {l:List Str} {s:Str} {k:Nat} (hk:kS l s=k) (h:l[k]? = some s):bl_ l s=l:=by unfold bl_;rw[hk,if_pos (.inr h)]
theorem uK_ {l:List Str} {s:Str} {k:Nat} (hs:s≠[]) (hk:kS l s=k) (h:l[k]? ≠ some s):bl_ l s=l.take k++([s]++l.drop k):=by unfold bl_;rw[hk,if_neg (by rintro (q|q);exact hs q;exact h q),List.append_assoc]
theorem bg_.pre {α:Type} {f:α→List Value} {n:Nat} (hf:∀ x,(f x).length=n) {l:List α} {v:Vw} {ad:Option Addr} (h:bg_ v ad (l.flatMap f)) (j:Nat):bg_ v ad ((l.take j).flatMap f) :=
  h.part fun k x hx=>by
    have e:l.flatMap f=(l.take j).flatMap f++(l.drop j).flatMap f:=by rw[← List.flatMap_append,List.take_append_drop]
    rw[e,List.getElem?_append_left (List.getElem?_eq_some_iff.1 hx).1]
    exact hx
theorem tG_ (p:List Pc) (pad:Option Addr) (pcap:Nat) (hp:p.length≤1000):Tri Tryz.prog 73 #[.slice pad (List.length p) pcap] [] [af_ pad (List.flatMap Pc.cells p)] (fun y:{y:Option Addr×Nat // ((atS p)).length≤y.2∧y.2≤maxLen∧(y.1=none→y.2=0)}=>.slice y.1.1 ((atS p)).length y.1.2) (fun _=>[]) (fun y=>[af_ y.1.1 (((atS p)).flatMap aL_)]):=by
 refine x_ Tryz.func73 rfl rfl Tryz.ntmps73 rfl fun v0=>?_
 refine Zz 7 ?_
 refine dw_ G_ E_ rfl fun b1=>y_ d_ (Zz 5 ?_)
 refine N_ G_ E_ aT_ rfl rfl rfl rfl rfl rfl fun b2=>?_
 have hL1:aO_ 9 1 (.slice (some ⟨b2,0,none⟩) 2 2) (List.length [[33],[42]]) (List.flatMap aL_ [[33],[42]]) [(b2,.cells (List.flatMap aL_ [[33],[42]]).toArray 9 (0,0))]:=kG_ rfl (by simp[maxLen])
 refine y_ d_ (Zz 1 ?_)
 refine o_ (nB_ p pad pcap (by omega)) rfl j_ zf rfl fun⟨⟨aad1,acap1⟩,hca1,hcm1,hcz1⟩=>?_
 dsimp only
 refine y_ jK_ ?_
 dsimp only at hca1 hcm1 hcz1
 have hfl:=hs_ p
 refine au_ (news:=List.flatMap aL_ (cu_ p)) cI_ hL1 rfl rfl hcz1 hca1 n_ (by rw[bk_ aL_ 1 as_]) zf (fun u hu=>Y_ cn_ hu) (by simp only[maxLen];(simp only[List.length_append,List.length_cons,List.length_nil,List.length_take,List.length_drop];omega)) (by (simp only[List.length_append,List.length_cons,List.length_nil,List.length_take,List.length_drop];omega)) rfl fun sv2 Hr2 hr2=>?_
 have hq2:=zsa hr2
 refine Zz 10 ?_
 refine bj_ hq2 n_ fun bad bcap hbad hcbad hmbad hzbad=>?_
 subst hbad
 refine gc_ (Γ':=[af_ bad (List.flatMap aL_ (cC_ p)),af_ pad (List.flatMap Pc.cells p)]) zf ?_
 refine bj_ (ev_ b1 9 1) aD_ fun oad0 ocap0 hoad0 hcoad0 hmoad0 hzoad0=>?_
 obtain⟨rfl,_,rfl⟩:=Value.slice.inj hoad0
 have hll:=sW_ p
 refine gc_ (Γ':=[af_ (some ⟨b1,0,none⟩) (List.flatMap aL_ (di_ (List.take (0:Nat) (cC_ p)))),af_ bad (List.flatMap aL_ (cC_ p)),af_ pad (List.flatMap Pc.cells p)]) zh ?_
 refine U_ (ι:={y:Nat×Option Addr×Nat // y.1≤List.length (cC_ p)∧((di_ (List.take y.1 (cC_ p))).length≤y.2.2∧y.2.2≤maxLen∧(y.2.1=none→y.2.2=0))}) (fun y=>[(0,.slice pad (List.length p) pcap),(2,.slice none 0 0),(3,.slice y.1.2.1 (List.length (di_ (List.take y.1.1 (cC_ p)))) y.1.2.2),(4,.slice bad (List.length (cC_ p)) bcap),(5,.int .i64 (y.1.1:Int))]) (fun y=>([])) (fun y=>[af_ bad (List.flatMap aL_ (cC_ p)),af_ pad (List.flatMap Pc.cells p),af_ y.1.2.1 (List.flatMap aL_ (di_ (List.take y.1.1 (cC_ p))))]) (fun y=>List.length (cC_ p) - y.1.1) ⟨((0:Nat),(some ⟨b1,0,none⟩),0),Nat.zero_le _,⟨hcoad0,hmoad0,hzoad0⟩⟩ zl j_ zf ?_
 rintro ⟨⟨i,oad,ocap⟩,hi,hoc⟩
 dsimp only at hi hoc ⊢
 have ho1:=hoc.1
 have ho2:=hoc.2.1
 have ho3:=hoc.2.2
 have hol:=sH_ (List.take i (cC_ p))
 rw[List.length_take]at hol
 refine Zi 6 (fun hr1=>?_) fun hr1=>?_
 ·refine Zz 12 ?_
  have e9:(di_ (List.take i (cC_ p)))=atS p:=by rw[List.take_of_length_le (by omega)];exact uy_ p
  rw[e9]at hoc
  exact S_ Tryz.results73 ⟨(oad,ocap),hoc⟩ (bZ_ rfl (by rw[e9])) j_ (fun v _ h=>⟨by show bg_ v oad (List.flatMap aL_ (atS p));rw[← e9];exact h.2.2.1,trivial⟩)
 obtain⟨hlx1,x1,hx1,hmx1⟩:=zge (show i<List.length (cC_ p) by omega)
 refine Zz 14 ?_
 refine U_ (ι:={y:Nat // y≤List.length (di_ (List.take i (cC_ p)))∧(∀ x∈List.take y (di_ (List.take i (cC_ p))),x<x1)}) (fun y=>[(0,.slice pad (List.length p) pcap),(2,.slice none 0 0),(3,.slice oad (List.length (di_ (List.take i (cC_ p)))) ocap),(4,.slice bad (List.length (cC_ p)) bcap),(5,.int .i64 (i:Int)),(6,.int .i64 (y.1:Int))]) (fun y=>([])) (fun y=>[af_ bad (List.flatMap aL_ (cC_ p)),af_ pad (List.flatMap Pc.cells p),af_ oad (List.flatMap aL_ (di_ (List.take i (cC_ p))))]) (fun y=>List.length (di_ (List.take i (cC_ p))) - y.1) ⟨(0:Nat),Nat.zero_le _,by simp⟩ zl j_ zh ?_
 rintro ⟨k,hk,hlt⟩
 dsimp only at hk hlt ⊢
 refine Zz 3 ?_
 refine p_ 10 [0,1,2,3,4] zk zs (Zi 3 (fun hr2=>?_) fun hr2=>?_)
 ·refine Zz 2 ?_
  refine p_ 0 [5,6,7,8,9,10,11,12,13,14] zk zs (Zz 17 ?_)
  have hks:kS (di_ (List.take i (cC_ p))) x1=k:=nX_ hk hlt (fun x hx=>by have:=(List.getElem?_eq_some_iff.1 hx).1;omega)
  refine Zz 1 ?_
  refine p_ 10 [0,1,2,3,4] zk zs (Zi 3 (fun hr3=>?_) fun hr3=>?_)
  ·exfalso;omega
  refine Zz 2 ?_
  refine p_ 0 [5,6,7,8,9,10,11,12,13,14] zk zs (Zz 15 ?_)
  have en:bl_ (di_ (List.take i (cC_ p))) x1=List.take k (di_ (List.take i (cC_ p)))++([x1]++List.drop k (di_ (List.take i (cC_ p)))):=uK_ (nd_ x1 hmx1) hks (fun q=>by have:=(List.getElem?_eq_some_iff.1 q).1;omega)
  refine ab_ ([]) zk ?_
  refine p_ 3 [0,1,2,3,5,6,7] zk zs (Zz 6 ?_)
  refine aa_ rfl (aR_ (ck_ (i:=k) (j:=List.length (di_ (List.take i (cC_ p)))) (kl:=.i64) (kh:=.i64) G_ E_ rfl rfl rfl (by omega) (by have:=ho1;omega)) (show _=Value.slice (sad oad ocap k 1) (List.length (List.drop k (di_ (List.take i (cC_ p))))) (ocap - k) by rw[List.length_drop])) rfl ?_
  refine dW_ (m_ 4 rfl zk (N_ G_ E_ aT_ rfl rfl rfl rfl rfl rfl fun b3=>?_))
  have hL3:aO_ 9 1 (.slice (some ⟨b3,0,none⟩) 1 1) (List.length [x1]) (List.flatMap aL_ [x1]) [(b3,.cells (List.flatMap aL_ [x1]).toArray 9 (0,0))]:=kG_ rfl (by simp[maxLen])
  refine y_ d_ (Zz 3 ?_)
  refine m_ 8 rfl zk (au_ (news:=List.flatMap aL_ (List.drop k (di_ (List.take i (cC_ p))))) cI_ hL3 rfl rfl (fun q=>by have:=ho3 (dk_ q);omega) (by rw[List.length_drop];have:=ho1;omega) aD_ (by rw[bk_ aL_ 1 as_]) (fun v _ h=>by exact (bg_.rest as_ h.2.2.1 ho1 k)) (fun u hu=>Y_ cn_ hu) (by simp only[maxLen];(simp only[List.length_append,List.length_cons,List.length_nil,List.length_take,List.length_drop];omega)) (by (simp only[List.length_append,List.length_cons,List.length_nil,List.length_take,List.length_drop];omega)) rfl fun sv4 Hr4 hr4=>?_)
  refine y_ List.perm_append_comm ?_
  have hq4:=zsa hr4
  refine Zz 3 ?_
  refine p_ 0 [9] zk zs (Zz 8 ?_)
  refine i_ (aR_ (kt_ (j:=k) (m:=k) (kl:=.i64) (kh:=.i64) G_ E_ rfl rfl rfl (Nat.le_refl _) (by have:=ho1;omega)) (show _=Value.slice (sad oad k 0 1) (List.length (List.take k (di_ (List.take i (cC_ p))))) k by rw[List.length_take,Nat.min_eq_left (by omega)])) rfl ?_
  refine Zz 1 ?_
  refine bj_ hq4 aD_ fun rad2 rcap2 hrad2 hcrad2 hmrad2 hzrad2=>?_
  subst hrad2
  refine jM_ (n:=List.length (List.take k (di_ (List.take i (cC_ p))))) (m:=List.length ([x1]++(List.drop k (di_ (List.take i (cC_ p)))))) (olds:=List.flatMap aL_ (List.take k (di_ (List.take i (cC_ p))))) (news:=List.flatMap aL_ ([x1]++(List.drop k (di_ (List.take i (cC_ p)))))) cI_ rfl rfl (fun q=>by have:=ho3 (dk_ q);have:=ho1;omega) (by rw[List.length_take];omega) hzrad2 hcrad2 (by rw[bk_ aL_ 1 as_]) (fun v _ h=>by exact (sad0 (bg_.pre as_ h.2.2.2.1 k))) (by rw[bk_ aL_ 1 as_]) zf (fun u hu=>Y_ cn_ hu) (by rw[List.length_take];simp only[List.length_append,List.length_cons,List.length_nil];omega) (by simp only[maxLen];(simp only[List.length_append,List.length_cons,List.length_nil,List.length_take,List.length_drop];omega)) (by (simp only[List.length_append,List.length_cons,List.length_nil,List.length_take,List.length_drop];omega)) rfl fun sv5 Hr5 hr5=>?_
  have hq5:=zsa hr5
  refine y_ eV_ (bj_ hq5 aD_ fun nad ncap hnad hcnad hmnad hznad=>?_)
  subst hnad
  refine Zz 9 ?_
  exact u_ ⟨(i+1,nad,ncap),hlx1,(by dsimp only;rw[ep_ hx1,en];exact⟨hcnad,hmnad,hznad⟩)⟩ (by dsimp only;omega) ⟨rfl,rfl,(bZ_ rfl (by dsimp only;rw[ep_ hx1,en])),rfl,rfl,trivial⟩ j_ (fun v _ h=>by refine⟨h.2.2.1,h.2.2.2.1,?_,trivial⟩;show bg_ v nad (List.flatMap aL_ (di_ (List.take (i+1) (cC_ p))));rw[ep_ hx1,en];exact h.1)
 obtain⟨hlx2,x2,hx2,hmx2⟩:=zge (show k<List.length (di_ (List.take i (cC_ p))) by omega)
 refine Zz 2 ?_
 refine p_ 0 [5,6,7,8,9,10,11,12,13,14] zk zs (Zi 8 (fun hr4=>?_) fun hr4=>?_)
 ·refine Zz 8 ?_
  have hks:kS (di_ (List.take i (cC_ p))) x1=k:=nX_ hk hlt (fun x hx=>by rw[hx2]at hx;cases hx;assumption)
  refine Zz 1 ?_
  refine p_ 10 [0,1,2,3,4] zk zs (Zi 3 (fun hr5=>?_) fun hr5=>?_)
  ·refine Zz 2 ?_
   refine p_ 0 [5,6,7,8,9,10,11,12,13,14] zk zs (Zi 8 (fun hr6=>?_) fun hr6=>?_)
   ·have ey:bl_ (di_ (List.take i (cC_ p))) x1=(di_ (List.take i (cC_ p))):=kW_yes hks (by rw[hx2];exact congrArg some hr6)
    refine Zz 13 ?_
    exact u_ ⟨(i+1,oad,ocap),hlx1,(by dsimp only;rw[ep_ hx1,ey];exact⟨ho1,ho2,ho3⟩)⟩ (by dsimp only;omega) ⟨rfl,rfl,(bZ_ rfl (by dsimp only;rw[ep_ hx1,ey])),rfl,rfl,trivial⟩ j_ (fun v _ h=>by refine⟨h.1,h.2.1,?_,trivial⟩;show bg_ v oad (List.flatMap aL_ (di_ (List.take (i+1) (cC_ p))));rw[ep_ hx1,ey];exact h.2.2.1)
   refine Zz 6 ?_
   have en:bl_ (di_ (List.take i (cC_ p))) x1=List.take k (di_ (List.take i (cC_ p)))++([x1]++List.drop k (di_ (List.take i (cC_ p)))):=uK_ (nd_ x1 hmx1) hks (fun q=>by rw[hx2]at q;cases q;simp_all)
   refine ab_ ([]) zk ?_
   refine p_ 3 [0,1,2,3,5,6,7] zk zs (Zz 6 ?_)
   refine aa_ rfl (aR_ (ck_ (i:=k) (j:=List.length (di_ (List.take i (cC_ p)))) (kl:=.i64) (kh:=.i64) G_ E_ rfl rfl rfl (by omega) (by have:=ho1;omega)) (show _=Value.slice (sad oad ocap k 1) (List.length (List.drop k (di_ (List.take i (cC_ p))))) (ocap - k) by rw[List.length_drop])) rfl ?_
   refine dW_ (m_ 4 rfl zk (N_ G_ E_ aT_ rfl rfl rfl rfl rfl rfl fun b4=>?_))
   have hL6:aO_ 9 1 (.slice (some ⟨b4,0,none⟩) 1 1) (List.length [x1]) (List.flatMap aL_ [x1]) [(b4,.cells (List.flatMap aL_ [x1]).toArray 9 (0,0))]:=kG_ rfl (by simp[maxLen])
   refine y_ d_ (Zz 3 ?_)
   refine m_ 8 rfl zk (au_ (news:=List.flatMap aL_ (List.drop k (di_ (List.take i (cC_ p))))) cI_ hL6 rfl rfl (fun q=>by have:=ho3 (dk_ q);omega) (by rw[List.length_drop];have:=ho1;omega) aD_ (by rw[bk_ aL_ 1 as_]) (fun v _ h=>by exact (bg_.rest as_ h.2.2.1 ho1 k)) (fun u hu=>Y_ cn_ hu) (by simp only[maxLen];(simp only[List.length_append,List.length_cons,List.length_nil,List.length_take,List.length_drop];omega)) (by (simp only[List.length_append,List.length_cons,List.length_nil,List.length_take,List.length_drop];omega)) rfl fun sv7 Hr7 hr7=>?_)
   refine y_ List.perm_append_comm ?_
   have hq7:=zsa hr7
   refine Zz 3 ?_
   refine p_ 0 [9] zk zs (Zz 8 ?_)
   refine i_ (aR_ (kt_ (j:=k) (m:=k) (kl:=.i64) (kh:=.i64) G_ E_ rfl rfl rfl (Nat.le_refl _) (by have:=ho1;omega)) (show _=Value.slice (sad oad k 0 1) (List.length (List.take k (di_ (List.take i (cC_ p))))) k by rw[List.length_take,Nat.min_eq_left (by omega)])) rfl ?_
   refine Zz 1 ?_
   refine bj_ hq7 aD_ fun rad2 rcap2 hrad2 hcrad2 hmrad2 hzrad2=>?_
   subst hrad2
   refine jM_ (n:=List.length (List.take k (di_ (List.take i (cC_ p))))) (m:=List.length ([x1]++(List.drop k (di_ (List.take i (cC_ p)))))) (olds:=List.flatMap aL_ (List.take k (di_ (List.take i (cC_ p))))) (news:=List.flatMap aL_ ([x1]++(List.drop k (di_ (List.take i (cC_ p)))))) cI_ rfl rfl (fun q=>by have:=ho3 (dk_ q);have:=ho1;omega) (by rw[List.length_take];omega) hzrad2 hcrad2 (by rw[bk_ aL_ 1 as_]) (fun v _ h=>by exact (sad0 (bg_.pre as_ h.2.2.2.1 k))) (by rw[bk_ aL_ 1 as_]) zf (fun u hu=>Y_ cn_ hu) (by rw[List.length_take];simp only[List.length_append,List.length_cons,List.length_nil];omega) (by simp only[maxLen];(simp only[List.length_append,List.length_cons,List.length_nil,List.length_take,List.length_drop];omega)) (by (simp only[List.length_append,List.length_cons,List.length_nil,List.length_take,List.length_drop];omega)) rfl fun sv8 Hr8 hr8=>?_
   have hq8:=zsa hr8
   refine y_ eV_ (bj_ hq8 aD_ fun nad ncap hnad hcnad hmnad hznad=>?_)
   subst hnad
   refine Zz 9 ?_
   exact u_ ⟨(i+1,nad,ncap),hlx1,(by dsimp only;rw[ep_ hx1,en];exact⟨hcnad,hmnad,hznad⟩)⟩ (by dsimp only;omega) ⟨rfl,rfl,(bZ_ rfl (by dsimp only;rw[ep_ hx1,en])),rfl,rfl,trivial⟩ j_ (fun v _ h=>by refine⟨h.2.2.1,h.2.2.2.1,?_,trivial⟩;show bg_ v nad (List.flatMap aL_ (di_ (List.take (i+1) (cC_ p))));rw[ep_ hx1,en];exact h.1)
  exfalso;omega
 refine Zz 14 ?_
 exact u_ ⟨k+1,hlx2,fun x hx=>by rw[List.take_add_one,hx2]at hx;simp only[Option.toList_some,List.mem_append,List.mem_singleton]at hx;rcases hx with hx|rfl;exact hlt x hx;assumption⟩ (by dsimp only;omega) zl j_ zh
end Go.Proofs.YtkeanlfhghlgiaaGreatDoor
namespace Go.Proofs.YtkeanlfhghlgiaaGreatDoor
open Go Go.Sx Go.Proofs
attribute [local irreducible] Code.wp wpList wpAnyH
open Go.Vs
theorem ng_ {p:List Pc} {bu:Int} {m:Nat} {e:Int} (hc:cl_ p=0) (h1:¬ bu<0) (h2:¬ 1073741824<bu) (hm:min bu 65536=(m:Int)) (he:e=if bu<65536 then 3 else 2) (h:dU_ p (atS p) m none):dO_ p bu Cl.no e:=by
  unfold dO_
  rw[if_neg (by simp[hc]),if_neg (by omega)]
  exact .inr ⟨rfl,he,by rw[hm];simpa using h⟩
theorem tc_ {p:List Pc} {bu:Int} {m:Nat} {c:Cl} (hc:cl_ p=0) (h1:¬ bu<0) (h2:¬ 1073741824<bu) (hm:min bu 65536=(m:Int)) (hk:c.ok) (ha:c.atoms=atS p) (h:dU_ p (atS p) m (some c.facts)):dO_ p bu c 0:=by
  unfold dO_
  rw[if_neg (by simp[hc]),if_neg (by omega)]
  exact .inl ⟨rfl,hk,ha,by rw[hm];simpa using h⟩
def oS_ (m:Nat) (L t:List Fc):Nat:=(m - L.length)*14000001+t.length
theorem sr_ {m:Nat} {L t:List Fc} {f:Fc}:oS_ m L t<oS_ m L (f::t):=by unfold oS_;simp only[List.length_cons];omega
theorem nQ_ {m:Nat} {L t s:List Fc} {f:Fc} (hf:f ∉ L) (hm:L.length<m) (hs:s.length≤14000000):oS_ m (db_ L f) (t++s)<oS_ m L (f::t):=by
  unfold oS_
  rw[fv_ hf]
  simp only[List.length_cons,List.length_append]
  omega
theorem pf_ {p:List Pc} {A:List Str} (hp:p.length≤100) (hA:A.length≤1000):(fF_ p A).length≤102000:=by
  have:=dP_ (g:=hp_ p) (n:=102) A fun x _=>lp_ hp x
  rw[ms_]
  omega
set_option maxHeartbeats 1000000 in
theorem rAll_c (p:List Pc) (pad:Option Addr) (pcap:Nat) (bu:Int) (hsm:∀ x∈p,x.sm) (hp:p.length≤100):Tri Tryz.prog 36 #[.slice pad (List.length p) pcap,.int .i64 bu] [] [af_ pad (List.flatMap Pc.cells p)] (fun y:{y:Cl×Int // dO_ p bu y.1 y.2}=>.tuple #[y.1.1.val,.int .i64 y.1.2]) (fun _=>[]) (fun y=>y.1.1.row):=by
 refine x_ Tryz.func36 rfl rfl Tryz.ntmps36 rfl fun v0=>?_
 refine Zz 2 ?_
 refine J_ gh_ rfl fun b1=>Zz 5 ?_
 refine i_ (L_ eQ_ rfl rfl) rfl (J_ gh_ rfl fun b2=>w_ 0 am_ rfl rfl rfl rfl rfl rfl (Zz 5 ?_))
 refine o_ (rN_ p pad pcap (by omega) hsm) rfl j_ zf rfl fun _=>Zi 7 (fun hr1=>?_) fun hr1=>?_
 ·have hchk:=hr1
  refine Zi 9 (fun hr2=>?_) fun hr2=>?_
  ·have hb0:=hr2
   refine Zi 4 (fun hr3=>?_) fun hr3=>?_
   ·have hb1:=hr3
    refine Zz 9 ?_
    refine o_ (tG_ p pad pcap (by omega)) rfl j_ zf rfl fun⟨⟨aad,acap⟩,hat1,hat2,hat3⟩=>?_
    dsimp only
    dsimp only at hat1 hat2 hat3
    have hatl:=kr_ p
    refine i_ (L_ eQ_ rfl rfl) rfl (J_ gh_ rfl fun b3=>w_ 0 am_ rfl rfl rfl rfl rfl rfl (Zz 7 ?_))
    refine o_ (rI_ p pad pcap (atS p) aad acap (by omega) (by omega)) rfl j_ zf rfl fun⟨⟨svf9,Hf9⟩,hf9⟩=>?_
    dsimp only
    dsimp only at hf9
    refine Zz 5 ?_
    obtain⟨m,hm0⟩:∃ m:Nat,min bu 65536=(m:Int):=⟨(min bu 65536).toNat,by omega⟩
    have hfll:=pf_ (p:=p) (A:=atS p) hp (by omega)
    refine U_ (ι:={y:List Fc×Value×Hp×List Fc×Option Addr×Nat // ORow 24 6 y.2.1 (List.length y.1) (List.flatMap Fc.cells y.1) y.2.2.1∧InvR p (atS p) m y.2.2.2.1 y.1∧(y.2.2.2.1.length≤y.2.2.2.2.2∧y.2.2.2.2.2≤maxLen∧(y.2.2.2.2.1=none→y.2.2.2.2.2=0))∧List.length y.1≤14000000*(List.length y.2.2.2.1+1)}) (fun y=>[(0,.slice pad (List.length p) pcap),(1,.int .i64 bu),(4,zp_ b1 0),(5,.int .i64 0),(6,zp_ b2 0),(8,zp_ b3 0),(9,y.1.2.1)]) (fun y=>((b3,.cells #[.slice aad (List.length (atS p)) acap,.slice y.1.2.2.2.2.1 (List.length y.1.2.2.2.1) y.1.2.2.2.2.2] 39 (0,0))::((b2,.cells #[.slice none 0 0,.slice none 0 0] 39 (0,0))::((b1,.cells #[.slice none 0 0,.slice none 0 0] 39 (0,0))::y.1.2.2.1)))) (fun y=>[af_ aad (List.flatMap aL_ (atS p)),af_ pad (List.flatMap Pc.cells p),af_ y.1.2.2.2.2.1 (List.flatMap Fc.cells y.1.2.2.2.1)]) (fun y=>oS_ m y.1.2.2.2.1 y.1.1) ⟨((fF_ p (atS p)),svf9,Hf9,([]:List Fc),none,0),ORow.row hf9,pb_ m,⟨Nat.le_refl _,Nat.zero_le _,fun _=>rfl⟩,by simp only[List.length_nil];omega⟩ zl zp (fun v _ h=>by exact⟨h.1,h.2.1,(.inl rfl),trivial⟩) ?_
    rintro ⟨⟨t,svt,Ht,L,lad,lcap⟩,hot,hI,hlk,htl⟩
    dsimp only at hot hI hlk htl ⊢
    have hLm:=hI.len
    refine Zz 4 ?_
    refine i_ (rc_ hot z_ rfl) rfl ?_
    refine Zi 0 (fun hr4=>?_) fun hr4=>?_
    ·have ht0:t=[]:=List.eq_nil_of_length_eq_zero (by omega)
     subst ht0
     refine Zz 8 ?_
     refine w_ 2 am_ rfl rfl rfl rfl rfl rfl (Zz 4 ?_)
     exact er_ ⟨((Cl.mk (atS p) aad acap L lad lcap),0),tc_ hchk hb0 hb1 hm0 ⟨hat1,hat2,hat3,hlk.1,hlk.2.1,hlk.2.2⟩ rfl (qE_ hI)⟩ (fun aa v h1 h2=>cU_ (us:=Cl.cells (Cl.mk (atS p) aad acap L lad lcap)) 2 hB_ bV_ am_ rfl rfl rfl rfl aa v h1 h2) j_ zf
    obtain⟨f,t,rfl⟩:∃ f t0,t=f::t0:=by cases t with|nil=>simp at*| cons f t0=>exact⟨f,t0,rfl⟩
    refine Zz 9 ?_
    refine i_ (to_ hot z_ q_ rfl rfl (by decide) (by simp only[List.length_cons];omega)) rfl ?_
    refine i_ (tn_ (k:=(0:Int).toNat*6) hot zp bc_ q_ rfl (Fc.cells_len _) (by decide) (H_ (l:=f::t) Fc.cells_len (i:=(0:Int).toNat) rfl)) rfl (J_ F_ rfl fun b4=>w_ 0 q_ rfl rfl rfl rfl rfl rfl (Zz 5 ?_))
    refine sc_ (i:=1) (kl:=.i64) hot z_ q_ rfl rfl (by simp only[List.length_cons];omega) rfl fun sv2 ho2=>?_
    have hot2:ORow 24 6 sv2 (List.length t) (List.flatMap Fc.cells t) Ht:=by have q:=ho2;rw[List.flatMap_cons,Nat.one_mul,List.drop_left' f.cells_len]at q;simpa using q
    refine Zz 9 ?_
    refine ae_ (mq_ L lad lcap f (by omega) hI.srt) rfl j_ zf rfl fun r5 hr5=>Zz 2 ?_
    cases r5
    ·replace hr5:=dF hr5
     have hfn:f ∉ L:=hr5
     refine Zi 10 (fun hr6=>?_) fun hr6=>?_
     ·refine Zi 15 (fun hr7=>?_) fun hr7=>?_
      ·refine Zz 6 ?_
       have hLm3:List.length L<m:=by omega
       have hI3:=oe_ (il_ hchk) hI hfn hLm3
       refine Zz 4 ?_
       refine o_ (uL_ L lad lcap f (by omega) hI.srt hlk) rfl j_ zf rfl fun⟨⟨nad,ncap⟩,hnk⟩=>?_
       dsimp only
       dsimp only at hnk
       refine Zz 1 ?_
       refine w_ 1 uH_ rfl rfl rfl rfl rfl rfl (Zz 8 ?_)
       refine o_ (rq_ p pad pcap (db_ L f) nad ncap f hp (by rw[fv_ hfn];omega) (ja_ f hI.srt)) rfl j_ zf rfl fun⟨⟨sad1,scap1⟩,hsc1,hsc2,hsz3⟩=>?_
       dsimp only
       dsimp only at hsc1 hsc2 hsz3
       have hsl:=lV_ (p:=p) (l:=db_ L f) (f:=f) hp (by rw[fv_ hfn];omega)
       refine jL_ (n:=List.length t) (m:=List.length (cx_ p (db_ L f) f)) (news:=List.flatMap Fc.cells (cx_ p (db_ L f) f)) cc_ hot2 rfl rfl hsz3 hsc1 (c_ (c_ (c_ B_))) (by rw[bk_ Fc.cells 6 Fc.cells_len]) zf (fun u hu=>Y_ Fc.cells_one hu) (by simp only[maxLen];simp only[List.length_cons]at htl;omega) (by simp only[List.length_cons]at htl;omega) rfl fun sv3 Ht3 ho3=>?_
       have hot3:ORow 24 6 sv3 (List.length (t++(cx_ p (db_ L f) f))) (List.flatMap Fc.cells (t++(cx_ p (db_ L f) f))) Ht3:=by rw[List.length_append,List.flatMap_append];exact ho3
       refine Zz 3 ?_
       exact u_ ⟨((t++cx_ p (db_ L f) f),sv3,Ht3,(db_ L f),nad,ncap),hot3,hI3,hnk,by dsimp only;rw[List.length_append,fv_ hfn];simp only[List.length_cons]at htl;omega⟩ (nQ_ hfn hLm3 hsl) zl zp zf
      refine Zz 6 ?_
      refine w_ 3 am_ rfl rfl rfl rfl rfl rfl (Zz 4 ?_)
      exact er_ ⟨((Cl.mk [] none 0 [] none 0),2),ng_ hchk hb0 hb1 hm0 (by rw[if_neg (by omega)]) (jy_ hI hfn (by omega))⟩ (fun aa v h1 h2=>cU_ (us:=Cl.cells (Cl.mk [] none 0 [] none 0)) 3 hB_ bV_ am_ rfl rfl rfl rfl aa v h1 h2) j_ (fun v _ h=>by exact⟨.inl rfl,.inl rfl,trivial⟩)
     refine Zi 4 (fun hr8=>?_) fun hr8=>?_
     ·refine Zi 12 (fun hr9=>?_) fun hr9=>?_
      ·refine Zz 6 ?_
       have hLm3:List.length L<m:=by omega
       have hI3:=oe_ (il_ hchk) hI hfn hLm3
       refine Zz 4 ?_
       refine o_ (uL_ L lad lcap f (by omega) hI.srt hlk) rfl j_ zf rfl fun⟨⟨nad,ncap⟩,hnk⟩=>?_
       dsimp only
       dsimp only at hnk
       refine Zz 1 ?_
       refine w_ 1 uH_ rfl rfl rfl rfl rfl rfl (Zz 8 ?_)
       refine o_ (rq_ p pad pcap (db_ L f) nad ncap f hp (by rw[fv_ hfn];omega) (ja_ f hI.srt)) rfl j_ zf rfl fun⟨⟨sad1,scap1⟩,hsc1,hsc2,hsz3⟩=>?_
       dsimp only
       dsimp only at hsc1 hsc2 hsz3
       have hsl:=lV_ (p:=p) (l:=db_ L f) (f:=f) hp (by rw[fv_ hfn];omega)
       refine jL_ (n:=List.length t) (m:=List.length (cx_ p (db_ L f) f)) (news:=List.flatMap Fc.cells (cx_ p (db_ L f) f)) cc_ hot2 rfl rfl hsz3 hsc1 (c_ (c_ (c_ B_))) (by rw[bk_ Fc.cells 6 Fc.cells_len]) zf (fun u hu=>Y_ Fc.cells_one hu) (by simp only[maxLen];simp only[List.length_cons]at htl;omega) (by simp only[List.length_cons]at htl;omega) rfl fun sv3 Ht3 ho3=>?_
       have hot3:ORow 24 6 sv3 (List.length (t++(cx_ p (db_ L f) f))) (List.flatMap Fc.cells (t++(cx_ p (db_ L f) f))) Ht3:=by rw[List.length_append,List.flatMap_append];exact ho3
       refine Zz 3 ?_
       exact u_ ⟨((t++cx_ p (db_ L f) f),sv3,Ht3,(db_ L f),nad,ncap),hot3,hI3,hnk,by dsimp only;rw[List.length_append,fv_ hfn];simp only[List.length_cons]at htl;omega⟩ (nQ_ hfn hLm3 hsl) zl zp zf
      refine Zz 6 ?_
      refine w_ 3 am_ rfl rfl rfl rfl rfl rfl (Zz 4 ?_)
      exact er_ ⟨((Cl.mk [] none 0 [] none 0),2),ng_ hchk hb0 hb1 hm0 (by rw[if_neg (by omega)]) (jy_ hI hfn (by omega))⟩ (fun aa v h1 h2=>cU_ (us:=Cl.cells (Cl.mk [] none 0 [] none 0)) 3 hB_ bV_ am_ rfl rfl rfl rfl aa v h1 h2) j_ (fun v _ h=>by exact⟨.inl rfl,.inl rfl,trivial⟩)
     refine Zz 7 ?_
     refine w_ 3 am_ rfl rfl rfl rfl rfl rfl (Zz 4 ?_)
     exact er_ ⟨((Cl.mk [] none 0 [] none 0),3),ng_ hchk hb0 hb1 hm0 (by rw[if_pos (by omega)]) (jy_ hI hfn (by omega))⟩ (fun aa v h1 h2=>cU_ (us:=Cl.cells (Cl.mk [] none 0 [] none 0)) 3 hB_ bV_ am_ rfl rfl rfl rfl aa v h1 h2) j_ (fun v _ h=>by exact⟨.inl rfl,.inl rfl,trivial⟩)
    replace hr5:=dT hr5
    refine Zz 3 ?_
    exact u_ ⟨(t,sv2,Ht,L,lad,lcap),hot2,sF_ hI (by assumption),hlk,by dsimp only;simp only[List.length_cons]at htl;omega⟩ sr_ zl (f_ (c_ d_) (f_ (c_ d_) (f_ (c_ d_) B_))) zh
   refine Zz 7 ?_
   refine w_ 1 am_ rfl rfl rfl rfl rfl rfl (Zz 4 ?_)
   exact er_ ⟨((Cl.mk [] none 0 [] none 0),1),jk_ (by assumption) (by omega)⟩ (fun aa v h1 h2=>cU_ (us:=Cl.cells (Cl.mk [] none 0 [] none 0)) 1 hB_ bV_ am_ rfl rfl rfl rfl aa v h1 h2) j_ (fun v _ h=>by exact⟨.inl rfl,.inl rfl,trivial⟩)
  refine Zz 10 ?_
  refine w_ 1 am_ rfl rfl rfl rfl rfl rfl (Zz 4 ?_)
  exact er_ ⟨((Cl.mk [] none 0 [] none 0),1),jk_ (by assumption) (by omega)⟩ (fun aa v h1 h2=>cU_ (us:=Cl.cells (Cl.mk [] none 0 [] none 0)) 1 hB_ bV_ am_ rfl rfl rfl rfl aa v h1 h2) j_ (fun v _ h=>by exact⟨.inl rfl,.inl rfl,trivial⟩)
 refine Zz 7 ?_
 refine w_ 1 am_ rfl rfl rfl rfl rfl rfl (Zz 4 ?_)
 exact er_ ⟨((Cl.mk [] none 0 [] none 0),(cl_ p)),oz_ (by assumption)⟩ (fun aa v h1 h2=>cU_ (us:=Cl.cells (Cl.mk [] none 0 [] none 0)) 1 hB_ bV_ am_ rfl rfl rfl rfl aa v h1 h2) j_ (fun v _ h=>by exact⟨.inl rfl,.inl rfl,trivial⟩)
end Go.Proofs.YtkeanlfhghlgiaaGreatDoor
