/-
  Part of the proof of the law CanonReaches over this seat: the small logic, the data, the contracts of functions (no condition).
-/
import Derived.Test.YtpbnmnfdgckaiaaGreatDoorQCanonReaches10
import Derived.Test.YtpbnmnfdgckaiaaGreatDoorQCanonReaches5
import Derived.Test.YtpbnmnfdgckaiaaGreatDoorQCanonReaches6
import Derived.Test.YtpbnmnfdgckaiaaGreatDoorQCanonReaches2
import Derived.Test.YtpbnmnfdgckaiaaGreatDoorQCanonReaches8
set_option linter.unusedVariables false
set_option linter.unusedSimpArgs false
set_option linter.unusedSectionVars false
set_option maxHeartbeats 1000000
namespace Go.Proofs.YtpbnmnfdgckaiaaGreatDoor
open Go Go.Sx Go.Proofs
attribute [local irreducible] Code.wp wpList wpAnyH
open Go.Vs
section
variable {P:Program} {N:Nf} {v0:Vw} {H0:Hp} {fr:Fr} {H F:Hp} {Γ:List Fct} {K D:Type} [DecidableEq K]
theorem jK_:∀ (B:Hp) {v:Vw},Z_ (B.map fun p=>bW_ p.1 p.2) v→∀ p∈B,v.im p.1∧v.w.heap[p.1]? = some p.2
 | [],_,_,_,h=>by simp at h
 | q::B,v,h,p,d=>by
   rcases List.mem_cons.1 d with rfl|d
   · exact h.1
   · exact jK_ B h.2 p d
theorem nm_ {k:Act→World→Prop} {q:K→Value} {cells:D→List Value} {x e:TypeId} {sz y:Nat} {l:List (K×D)} {d:Hp} (C:KeyT P x q) (hm:cW_ q cells e sz l y d) (E:H.Perm (d++F))
    (h:∀ adr,Ok N v0 H0 k fr F (mlF P x q cells y l adr::Γ)):Ok N v0 H0 k fr H Γ:=by
  obtain⟨adr,A⟩:=hm.lent C;refine nn_ d E (no_ (fun v _ m=>?_) (h adr));rw[eR_]at m;refine⟨A v fun p B=>?_,m.2⟩;have:=m.1;exact jK_ d.reverse (by rw[List.map_reverse]at *;exact this) p (List.mem_reverse.2 B)
theorem mG_ {m:TypeId} {E:Emt P m} {nw fm:List Fc} {Hs:Hp} {ty t q d:TypeId} {x:Operand} (hS:E.St nw fm Hs) (y:∀ w,(underlying t).run P w=.ok (.map q d) w) (A:Fr.ev fr x=some (.map (some E.kb))) (k:H.Perm (Hs++F)) :
    Yld P N fr H Γ (.call ⟨.builtin .len,#[x],#[t]⟩) ty (.int .i64 ((E.kof nw).length:Int)):=by
  obtain⟨es,c,B,e⟩:=E.known hS;exact jw_ e y A fun v h _=>nf_ k B h
end
def st_ (x:Ix) (n:Nat):Prop:=x.above.length≤n∧x.under.length≤n∧x.frm.length≤n∧x.into.length≤n∧x.ranges.length≤n∧x.firms.length≤n
theorem wk_:st_ Ix.nil 0:=by simp[st_,Ix.nil]
theorem kl_ {x:Ix} {n:Nat} (h:st_ x n) (b:Bool) (f:Fc):st_ (x.add b f) (n+1):=by
 obtain⟨q,m,v,k,d,e⟩:=h;unfold Ix.add st_
 split
 ·simp;omega
 split
 ·simp;omega
 split
 ·cases b<;>simp<;>omega
 omega
theorem ra_ {x:Ix} {n:Nat} (h:st_ x n) (A:n≤1000000000):(∀ k,(lat x.above k).length≤1000000000∧(lat x.under k).length≤1000000000)∧(∀ k,(lat x.frm k).length≤1000000000∧(lat x.into k).length≤1000000000∧(lat x.ranges k).length≤1000000000∧(lat x.firms k).length≤1000000000):=by
 obtain⟨v,q,y,m,d,e⟩:=h;refine⟨fun k=>⟨?_,?_⟩,fun k=>⟨?_,?_,?_,?_⟩⟩
 ·have:=dB_ x.above k;omega
 ·have:=dB_ x.under k;omega
 ·have:=dB_ x.frm k;omega
 ·have:=dB_ x.into k;omega
 ·have:=dB_ x.ranges k;omega
 have:=dB_ x.firms k;omega
theorem xJ_ (B:EngB) (E:Emt Tryz.prog 36) (J:EngA) (q:List (Ky×Pc)) (x:Ix) (f:Fc) (nw fm:List Fc) (Hs:Hp) (hS:E.St nw fm Hs) (v C A I Hr G:Hp) (M:IxO 9 36 B x ⟨v,C,A,I,Hr,G⟩) (d:∀ k,(lat q k).length≤1000000000) (e:∀ k,(lat x.above k).length≤1000000000∧(lat x.under k).length≤1000000000) (m:∀ k,(lat x.frm k).length≤1000000000∧(lat x.into k).length≤1000000000∧(lat x.ranges k).length≤1000000000∧(lat x.firms k).length≤1000000000) (O:f.kind=3→-1099511627776≤f.lo∧f.lo≤f.hi∧f.hi≤1099511627776) (L:f.kind=3→∀ y∈lat q (Ky.mk 9 f.r []),-1099511627776≤y.lo∧y.lo≤y.hi∧y.hi≤1099511627776) (hk:f.kind=1):∀ (j:Nat) {fv:Value},(rlV B.g 1)[j]? = some fv→∃ n:Nat,fv=.func (.func n) #[zp_ B.g 0] #[]∧Tri Tryz.prog n #[zp_ B.g 0,f.val] ((v++(C++(A++(I++(Hr++G)))))++Hs) [gF B E,pF B q J,E.ef] (fun _:{H':Hp // E.St (rl E.stp E.kof q x f j (nw,fm)).1 (rl E.stp E.kof q x f j (nw,fm)).2 H'}=>.tuple #[]) (fun y=>(v++(C++(A++(I++(Hr++G)))))++y.1) (fun _=>[])
  | 0,_,h=>⟨120,(Option.some.inj h).symm,rl10_c B E J q x f nw fm Hs hS v C A I Hr G M d e m O L hk⟩
  | 1,_,h=>⟨121,(Option.some.inj h).symm,rl11_c B E J q x f nw fm Hs hS v C A I Hr G M d e m O L hk⟩
  | 2,_,h=>⟨122,(Option.some.inj h).symm,rl12_c B E J q x f nw fm Hs hS v C A I Hr G M d e m O L hk⟩
  | 3,_,h=>⟨123,(Option.some.inj h).symm,rl13_c B E J q x f nw fm Hs hS v C A I Hr G M d e m O L hk⟩
  | 4,_,h=>⟨124,(Option.some.inj h).symm,rl14_c B E J q x f nw fm Hs hS v C A I Hr G M d e m O L hk⟩
  | 5,_,h=>⟨125,(Option.some.inj h).symm,rl15_c B E J q x f nw fm Hs hS v C A I Hr G M d e m O L hk⟩
  | j+6,_,h=>by simp[rlV]at h
theorem xI_ (B:EngB) (E:Emt Tryz.prog 36) (J:EngA) (d:List (Ky×Pc)) (x:Ix) (f:Fc) (nw fm:List Fc) (Hs:Hp) (hS:E.St nw fm Hs) (v C A I Hr G:Hp) (M:IxO 9 36 B x ⟨v,C,A,I,Hr,G⟩) (e:∀ k,(lat d k).length≤1000000000) (m:∀ k,(lat x.above k).length≤1000000000∧(lat x.under k).length≤1000000000) (q:∀ k,(lat x.frm k).length≤1000000000∧(lat x.into k).length≤1000000000∧(lat x.ranges k).length≤1000000000∧(lat x.firms k).length≤1000000000) (O:f.kind=3→-1099511627776≤f.lo∧f.lo≤f.hi∧f.hi≤1099511627776) (L:f.kind=3→∀ y∈lat d (Ky.mk 9 f.r []),-1099511627776≤y.lo∧y.lo≤y.hi∧y.hi≤1099511627776) (hk:f.kind=2):∀ (j:Nat) {fv:Value},(rlV B.g 2)[j]? = some fv→∃ n:Nat,fv=.func (.func n) #[zp_ B.g 0] #[]∧Tri Tryz.prog n #[zp_ B.g 0,f.val] ((v++(C++(A++(I++(Hr++G)))))++Hs) [gF B E,pF B d J,E.ef] (fun _:{H':Hp // E.St (rl E.stp E.kof d x f j (nw,fm)).1 (rl E.stp E.kof d x f j (nw,fm)).2 H'}=>.tuple #[]) (fun y=>(v++(C++(A++(I++(Hr++G)))))++y.1) (fun _=>[])
  | 0,_,h=>⟨126,(Option.some.inj h).symm,rl20_c B E J d x f nw fm Hs hS v C A I Hr G M e m q O L hk⟩
  | 1,_,h=>⟨127,(Option.some.inj h).symm,rl21_c B E J d x f nw fm Hs hS v C A I Hr G M e m q O L hk⟩
  | 2,_,h=>⟨128,(Option.some.inj h).symm,rl22_c B E J d x f nw fm Hs hS v C A I Hr G M e m q O L hk⟩
  | 3,_,h=>⟨129,(Option.some.inj h).symm,rl23_c B E J d x f nw fm Hs hS v C A I Hr G M e m q O L hk⟩
  | j+4,_,h=>by simp[rlV]at h
theorem xH_ (B:EngB) (E:Emt Tryz.prog 36) (J:EngA) (d:List (Ky×Pc)) (x:Ix) (f:Fc) (nw fm:List Fc) (Hs:Hp) (hS:E.St nw fm Hs) (e v q I Hr C:Hp) (M:IxO 9 36 B x ⟨e,v,q,I,Hr,C⟩) (m:∀ k,(lat d k).length≤1000000000) (A:∀ k,(lat x.above k).length≤1000000000∧(lat x.under k).length≤1000000000) (G:∀ k,(lat x.frm k).length≤1000000000∧(lat x.into k).length≤1000000000∧(lat x.ranges k).length≤1000000000∧(lat x.firms k).length≤1000000000) (O:f.kind=3→-1099511627776≤f.lo∧f.lo≤f.hi∧f.hi≤1099511627776) (L:f.kind=3→∀ y∈lat d (Ky.mk 9 f.r []),-1099511627776≤y.lo∧y.lo≤y.hi∧y.hi≤1099511627776) (hk:f.kind=3):∀ (j:Nat) {fv:Value},(rlV B.g 3)[j]? = some fv→∃ n:Nat,fv=.func (.func n) #[zp_ B.g 0] #[]∧Tri Tryz.prog n #[zp_ B.g 0,f.val] ((e++(v++(q++(I++(Hr++C)))))++Hs) [gF B E,pF B d J,E.ef] (fun _:{H':Hp // E.St (rl E.stp E.kof d x f j (nw,fm)).1 (rl E.stp E.kof d x f j (nw,fm)).2 H'}=>.tuple #[]) (fun y=>(e++(v++(q++(I++(Hr++C)))))++y.1) (fun _=>[])
  | 0,_,h=>⟨130,(Option.some.inj h).symm,rl30_c B E J d x f nw fm Hs hS e v q I Hr C M m A G O L hk⟩
  | 1,_,h=>⟨131,(Option.some.inj h).symm,rl31_c B E J d x f nw fm Hs hS e v q I Hr C M m A G O L hk⟩
  | j+2,_,h=>by simp[rlV]at h
def fB_ (p:List Pc) (bu:Int) (c:Cl) (e:Int):Prop :=
  if de_ p≠0 then c=Cl.no∧e=de_ p
  else if bu<0∨1073741824<bu then c=Cl.no∧e=1
  else (e=0∧c.ok∧c.atoms=atS p∧gH_ p (atS p) (min bu 65536).toNat (some c.facts))∨(c=Cl.no∧e=(if bu<65536 then 3 else 2)∧gH_ p (atS p) (min bu 65536).toNat none)
theorem xb_ {p:List Pc} {d:Int} (h:de_ p≠0):fB_ p d Cl.no (de_ p):=by unfold fB_;rw[if_pos h];exact⟨rfl,rfl⟩
theorem xc_ {p:List Pc} {d:Int} (h:de_ p=0) (e:d<0∨1073741824<d):fB_ p d Cl.no 1:=by unfold fB_;rw[if_neg zaY_,if_pos e];exact⟨rfl,rfl⟩
theorem yV_ {p:List Pc} {d:Int} {m n:Nat} {c:Cl} {q fm:List Fc} {x:Ix} (k:de_ p=0) (E:¬ d<0) (C:¬ 1073741824<d) (hm:min d 65536=(m:Int)) (hk:c.ok) (v:c.atoms=atS p) (h:LoopA (uniq [] p) (atS p) m n q fm x) (B:q.length≤n) (hl:q.length≤m) (A:c.facts=eU_ q):fB_ p d c 0:=by
  unfold fB_;rw[if_neg (by simp[k]),if_neg zs_];have e:n=q.length:=Nat.le_antisymm h.le B;subst e;refine .inl ⟨rfl,hk,v,?_⟩;rw[hm,A];exact⟨vo_ h.nd,fun y=>by rw[qp_,← sp_ h hl,qj_],by rw[dL_];simpa using hl⟩
theorem jd_ {p:List Pc} {d:Int} {m:Nat} {e:Int} {M:List Fc} (h:de_ p=0) (x:¬ d<0) (A:¬ 1073741824<d) (hm:min d 65536=(m:Int)) (v:e=if d<65536 then 3 else 2) (nd:M.Nodup) (k:∀ y∈M,Der (uniq [] p) (atS p) y) (hl:m<M.length):fB_ p d Cl.no e:=by
  unfold fB_;rw[if_neg zaY_,if_neg zs_];exact .inr ⟨rfl,v,M,nd,fun y q=>qj_.1 (k y q),by rw[hm];simpa using hl⟩
end Go.Proofs.YtpbnmnfdgckaiaaGreatDoor
namespace Go.Proofs.YtpbnmnfdgckaiaaGreatDoor
open Go Go.Sx Go.Proofs
attribute [local irreducible] Code.wp wpList wpAnyH
open Go.Vs
theorem jR_ {G:Prop} (h:G:=by
 refine e_ (I_ jz_ rfl rfl) rfl (u_ 0 bV_ rfl rfl rfl rfl rfl rfl (Zz 4 ?_));exact gW_ ⟨((Cl.mk [] none 0 [] none 0),1),xc_ zA_ zs_⟩ (fun aa v F A=>fD_ (us:=Cl.cells (Cl.mk [] none 0 [] none 0)) 0 iu_ iB_ bV_ rfl rfl rfl rfl aa v F A) m_ (fun v _ h=>by exact⟨.inl rfl,.inl rfl,trivial⟩)):G:=h
theorem hk_ {G:Prop} (h:G:=by
 refine ap_ (first:=[zp_ g 0]) (vs:=[Fc.val f]) (cap:=[]) hT rfl rfl (pf_six (z_ (c_ (c_ (c_ t_))) (z_ (c_ (c_ (c_ t_))) (z_ (c_ (c_ (c_ t_))) (z_ (c_ (c_ (c_ t_))) (z_ (c_ (c_ (c_ t_))) (z_ (c_ (c_ (c_ t_))) (c_ (c_ C_))))))))) (fun v _ h=>by exact⟨h.2.2.2.2.2.1,h.2.2.2.2.1,⟨h.2.2.2.2.2.2.2.1,h.2.2.2.2.2.2.1,h.2.2.2.2.2.1⟩,trivial⟩) rfl fun⟨V,W⟩=>y_ xW_ (Zz 2 ?_)
 refine y_ (R_ (f_ (f_ (f_ (f_ (f_ (f_ (f_ d_))))))) (R_ (f_ (f_ (f_ (f_ (f_ (f_ (f_ d_))))))) (bb_ (f_ (f_ (f_ (f_ (f_ (f_ aP_))))))))) (Zz 2 ?_);refine K_ 0 [0,1,2,3,4,5,6] zk zs (Zz 4 ?_);refine N_ rfl (ar_ (mG_ (E:=(EA m hm (EngB.mk g pb ab ub ob ib rb sb lad lcap (av_ (uniq [] p))) B C d kb fb)) (nw:=(rls (bo_ m) idk (aM_ (uniq [] p)) (Ix.add x (decide (f∈fm)) f) f (j+1) (q,fm)).1) (Hs:=V) W bf_ rfl zp) (show _=Value.int .i64 (List.length (rls (bo_ m) idk (aM_ (uniq [] p)) (Ix.add x (decide (f∈fm)) f) f (j+1) (q,fm)).1:Int) from rfl)) rfl (Zi 1 (fun hr_6=>?_) fun hr_6=>?_)
 ·refine Zz 11 ?_
  exact w_ ⟨(j+1,V),a8,by exact W,.inr zt_⟩ zt_ zl zp zh
 refine Zz 9 ?_;refine K_ 0 [0,1,2,3,4,5,6] zk zs (Zz 4 ?_);refine N_ rfl (ar_ (mG_ (E:=(EA m hm (EngB.mk g pb ab ub ob ib rb sb lad lcap (av_ (uniq [] p))) B C d kb fb)) (nw:=(rls (bo_ m) idk (aM_ (uniq [] p)) (Ix.add x (decide (f∈fm)) f) f (j+1) (q,fm)).1) (Hs:=V) W bf_ rfl zp) (show _=Value.int .i64 (List.length (rls (bo_ m) idk (aM_ (uniq [] p)) (Ix.add x (decide (f∈fm)) f) f (j+1) (q,fm)).1:Int) from rfl)) rfl (Zi 1 (fun hr_7=>?_) fun hr_7=>?_)
 ·omega
 refine Zi 8 (fun hr_8=>?_) fun hr_8=>?_
 ·refine Zz 7 ?_
  refine e_ (I_ jz_ rfl rfl) rfl (u_ 0 bV_ rfl rfl rfl rfl rfl rfl (Zz 4 ?_));exact gW_ ⟨((Cl.mk [] none 0 [] none 0),2),jd_ Y a2 a1 X (by rw[if_neg zA_]) (gf_ H hL hf (j+1) rfl).1 (gf_ H hL hf (j+1) rfl).2.2.1 zs_⟩ (fun aa v F A=>fD_ (us:=Cl.cells (Cl.mk [] none 0 [] none 0)) 0 iu_ iB_ bV_ rfl rfl rfl rfl aa v F A) m_ (fun v _ h=>by exact⟨.inl rfl,.inl rfl,trivial⟩)
 refine Zz 5 ?_;refine e_ (I_ jz_ rfl rfl) rfl (u_ 0 bV_ rfl rfl rfl rfl rfl rfl (Zz 4 ?_));exact gW_ ⟨((Cl.mk [] none 0 [] none 0),3),jd_ Y a2 a1 X (by rw[if_pos zA_]) (gf_ H hL hf (j+1) rfl).1 (gf_ H hL hf (j+1) rfl).2.2.1 zs_⟩ (fun aa v F A=>fD_ (us:=Cl.cells (Cl.mk [] none 0 [] none 0)) 0 iu_ iB_ bV_ rfl rfl rfl rfl aa v F A) m_ (fun v _ h=>by exact⟨.inl rfl,.inl rfl,trivial⟩)):G:=h
set_option maxHeartbeats 4000000 in
theorem all_c (p:List Pc) (a3:Option Addr) (a7:Nat) (bu:Int) (hsm:∀ x∈p,x.sm) (hp:p.length≤100000000):Tri Tryz.prog 32 #[.slice a3 (List.length p) a7,.int .i64 bu] [] [ah_ a3 (List.flatMap Pc.cells p),jf_] (fun y:{y:Cl×Int // fB_ p bu y.1 y.2}=>.tuple #[y.1.1.val,.int .i64 y.1.2]) (fun _=>[]) (fun y=>y.1.1.row):=by
 refine i_ Tryz.func32 rfl rfl Tryz.ntmps32 rfl fun v_1=>?_;refine Zz 2 ?_;refine G_ Tryz.zeroValue67 rfl fun b_1=>Zz 3 ?_
 refine kI_ (Zz 4 ?_);refine g_ (yG_ p a3 a7 zs_ hsm) rfl m_ zf rfl fun _=>Zi 6 (fun hr_1=>?_) fun hr_1=>?_
 ·have Y:=hr_1
  refine Zi 9 (fun hr_2=>?_) fun hr_2=>?_
  ·have a2:=hr_2
   refine Zi 4 (fun hr_3=>?_) fun hr_3=>?_
   ·have a1:=hr_3
    refine Zz 7 ?_;obtain⟨m,X⟩:∃ m:Nat,min bu 65536=(m:Int):=⟨(min bu 65536).toNat,by omega⟩;have hm:m≤65536:=by omega
    have H:=vf_ (oX_ Y);have hpl:∀ k,(lat (aM_ (uniq [] p)) k).length≤1000000000:=fun k=>by have F:=dB_ (aM_ (uniq [] p)) k;have A:=ne_ (uniq [] p);have h_3:=jV_ p [];simp only[List.length_nil]at h_3;omega
    refine Zz 2 ?_;refine g_ (qR_ p a3 a7 zs_) rfl m_ zf rfl fun⟨⟨g,pb,kb,ab,ub,ob,ib,rb,sb,fb,lv,hm_1,hl_1⟩,hy⟩=>?_;dsimp only;dsimp only[NewE.own,NewE.ok]at hy ⊢;obtain⟨hym,hyl⟩:=hy;simp only[List.cons_append,List.append_assoc];refine bl_ hyl (c_ (c_ (c_ (c_ (c_ (c_ (c_ (c_ (c_ (f_ t_)))))))))) fun lad lcap hlad hclad hmlad hzlad=>?_;subst hlad;refine G_ Tryz.zeroValue116 rfl fun B=>y_ (R_ d_ (R_ d_ (R_ d_ (R_ d_ (R_ d_ (R_ d_ (R_ d_ (R_ d_ (R_ d_ (R_ d_ (bb_ aP_))))))))))) (u_ 0 Tryz.sizeOf116 rfl rfl rfl rfl rfl rfl (Zz 5 ?_))
    refine e_ (ar_ (jS_ rfl rfl) (congrArg (Value.int .i64) X)) rfl (G_ kE_ rfl fun C=>u_ 0 ak_ rfl rfl rfl rfl rfl rfl (Zz 4 ?_));refine G_ dV_ rfl fun d=>Zz 5 ?_
    refine e_ (bK_ rfl rfl) rfl (Zz 2 ?_);refine u_ 3 eK_ rfl rfl rfl rfl rfl rfl (Zz 3 ?_);refine eO_ (bW_ B (.cells #[zp_ g 0] 116 (0,0))) (bb_ (c_ (c_ d_))) (fun _ F A _=>⟨F,A⟩) ?_;refine eO_ (bW_ C (.cells #[.int .i64 (m:Int)] 3 (0,0))) (bb_ (c_ d_)) (fun _ F A _=>⟨F,A⟩) ?_;refine eO_ (bW_ g (.cells #[.map (some pb),.slice lad (List.length (av_ (uniq [] p))) lcap,.map (some kb),.func (.func 73) #[] #[zp_ B 0,zp_ C 0,zp_ d 0],.map (some ab),.map (some ub),.map (some ob),.map (some ib),.map (some rb),.map (some sb),.map (some fb)] 124 (0,0))) (bb_ (c_ d_)) (fun _ F A _=>⟨F,A⟩) ?_;refine nm_ hS_ hym (c_ (c_ (c_ (c_ (c_ (c_ (c_ (c_ (c_ C_))))))))) fun adr=>?_;refine Zz 2 ?_;refine g_ (atS_c p a3 a7 zs_) rfl m_ zf rfl fun⟨⟨aad,acap⟩,hac,ham,haz⟩=>?_;dsimp only;refine Zz 7 ?_;refine g_ (yM_ (EngB.mk g pb ab ub ob ib rb sb lad lcap (av_ (uniq [] p))) (EA m hm (EngB.mk g pb ab ub ob ib rb sb lad lcap (av_ (uniq [] p))) B C d kb fb) [] [] [(d,.cells #[.slice none 0 0] 26 (0,0)),(kb,.map #[] 0),(fb,.map #[] 0)] ⟨.slice none 0 0,#[],0,#[],0,[],[],rfl,ay_.nil _ _,SetE.nil,SetE.nil,by simp⟩ (atS p) aad acap (by have:=tH_ p;omega) (by have:=lN_ (uniq [] p);have h_3:=jV_ p [];simp only[List.length_nil]at h_3;show (av_ (uniq [] p)).length≤_;omega)) rfl (j_ d_ (j_ d_ (c_ (c_ (c_ (c_ (c_ (c_ d_)))))))) (fun v _ h=>by exact⟨h.2.2.1,h.2.2.2.2.2.1,h.1,⟨h.2.2.2.2.1,h.2.2.2.1,h.2.2.1⟩,trivial⟩) rfl fun⟨Hs_1,hS_1⟩=>?_;dsimp only;refine Zz 2 ?_;refine y_ (R_ (f_ d_) (R_ (f_ d_) (R_ (f_ d_) (R_ (f_ d_) (R_ (f_ d_) (R_ (f_ d_) (bb_ aP_))))))) (Zz 3 ?_);refine g_ (xG_ g) rfl m_ zt rfl fun⟨a4,a6,a5⟩=>?_;dsimp only;refine G_ Tryz.zeroValue128 rfl fun Z=>u_ 0 Tryz.sizeOf128 rfl rfl rfl rfl rfl rfl (Zz 3 ?_)
    refine kK_ (Zz 8 ?_);refine M_ (ι:={y:Nat×List Fc×List Fc×Ix×Hp×Hp×Hp×Hp×Hp×Hp×Hp // LoopA (uniq [] p) (atS p) m y.1 y.2.1 y.2.2.1 y.2.2.2.1∧((EA m hm (EngB.mk g pb ab ub ob ib rb sb lad lcap (av_ (uniq [] p))) B C d kb fb)).St y.2.1 y.2.2.1 y.2.2.2.2.2.2.2.2.2.2∧IxO 9 36 (EngB.mk g pb ab ub ob ib rb sb lad lcap (av_ (uniq [] p))) y.2.2.2.1 ⟨y.2.2.2.2.1,y.2.2.2.2.2.1,y.2.2.2.2.2.2.1,y.2.2.2.2.2.2.2.1,y.2.2.2.2.2.2.2.2.1,y.2.2.2.2.2.2.2.2.2.1⟩∧st_ y.2.2.2.1 y.1}) (fun y=>[(0,.slice a3 (List.length p) a7),(1,.int .i64 bu),(4,zp_ b_1 0),(7,zp_ B 0),(8,zp_ C 0),(9,zp_ d 0),(10,.slice aad (List.length (atS p)) acap),(11,zp_ Z 0),(12,.int .i64 (y.1.1:Int))]) (fun y=>((b_1,.cells #[.slice none 0 0,.slice none 0 0] 67 (0,0))::((Z,.cells #[.slice none 0 0,.slice (some ⟨a4,0,none⟩) 6 6,.slice (some ⟨a6,0,none⟩) 4 4,.slice (some ⟨a5,0,none⟩) 2 2] 128 (0,0))::(y.1.2.2.2.2.1++(y.1.2.2.2.2.2.1++(y.1.2.2.2.2.2.2.1++(y.1.2.2.2.2.2.2.2.1++(y.1.2.2.2.2.2.2.2.2.1++(y.1.2.2.2.2.2.2.2.2.2.1++y.1.2.2.2.2.2.2.2.2.2.2))))))))) (fun y=>[ah_ (some ⟨a4,0,none⟩) (List.flatMap fvC (rlV g 1)),ah_ (some ⟨a6,0,none⟩) (List.flatMap fvC (rlV g 2)),ah_ (some ⟨a5,0,none⟩) (List.flatMap fvC (rlV g 3)),ah_ aad (List.flatMap ag_ (atS p)),mlF Tryz.prog 208 Ky.val Pc.cells pb (aM_ (uniq [] p)) adr,bW_ g (.cells #[.map (some pb),.slice lad (List.length (av_ (uniq [] p))) lcap,.map (some kb),.func (.func 73) #[] #[zp_ B 0,zp_ C 0,zp_ d 0],.map (some ab),.map (some ub),.map (some ob),.map (some ib),.map (some rb),.map (some sb),.map (some fb)] 124 (0,0)),bW_ C (.cells #[.int .i64 (m:Int)] 3 (0,0)),bW_ B (.cells #[zp_ g 0] 116 (0,0)),ah_ lad (List.flatMap ag_ (av_ (uniq [] p))),ah_ a3 (List.flatMap Pc.cells p),jf_]) (fun y=>m+1 - y.1.1) ⟨((0:Nat),(emits (bo_ m) (fo_ (av_ (uniq [] p)) (atS p)) []),([]:List Fc),Ix.nil,[(ab,.map #[] 0)],[(ub,.map #[] 0)],[(ob,.map #[] 0)],[(ib,.map #[] 0)],[(rb,.map #[] 0)],[(sb,.map #[] 0)],Hs_1),qW_ H rfl,by exact hS_1,⟨cW_.nil _ _,cW_.nil _ _,cW_.nil _ _,cW_.nil _ _,cW_.nil _ _,cW_.nil _ _⟩,wk_⟩ zl (j_ (c_ (c_ (c_ (c_ (c_ (c_ (c_ d_))))))) (j_ d_ (j_ d_ (j_ d_ (j_ d_ (j_ d_ (j_ d_ (j_ d_ ac_)))))))) zh ?_;rintro ⟨⟨n,q,fm,x,Ha,Hu,Ho,Hi,Hr,Hm,Hs⟩,hL,hS,hI,hz⟩;dsimp only at hL hS hI hz ⊢;obtain⟨L,K,J,N,M,qf_1,I,hHs_1,O,hEk_1,hEf_1,hqf_1⟩:=hS;subst hHs_1;have hqm:=hL.len;have hnq:=hL.le;obtain⟨hxl,hyl⟩:=ra_ hz zs_;refine be_ (y_ (R_ d_ (R_ d_ (R_ (f_ (f_ (f_ (f_ (f_ (f_ d_)))))) (bb_ (f_ (f_ (f_ (f_ (f_ (f_ d_)))))))))) (Zz 4 ?_));refine e_ (dJ_ O x_ rfl) rfl ?_;refine Zi 0 (fun hr_4=>?_) fun hr_4=>?_
    ·refine Zz 8 ?_
     refine K_ 0 [0,1,2,3,4,5,6] zk zs (Zz 4 ?_);refine N_ rfl (ar_ (mG_ (E:=(EA m hm (EngB.mk g pb ab ub ob ib rb sb lad lcap (av_ (uniq [] p))) B C d kb fb)) (nw:=q) (Hs:=((d,.cells #[L] 26 (0,0))::(kb,.map K J)::([(fb,.map N M)]++I))) ⟨L,K,J,N,M,qf_1,I,rfl,O,hEk_1,hEf_1,hqf_1⟩ bf_ rfl zp) (show _=Value.int .i64 (List.length q:Int) from rfl)) rfl (Zi 1 (fun hr_5=>?_) fun hr_5=>?_)
     ·refine Zz 9 ?_
      refine g_ (xC_ O zs_) rfl zp zt rfl fun⟨Hq_2,hq_1⟩=>?_;dsimp only;refine Zz 2 ?_;refine y_ (R_ (f_ d_) (R_ (f_ d_) (R_ (f_ d_) (bb_ (f_ d_))))) (be_ (bl_ hq_1 (c_ (c_ (c_ (c_ t_)))) fun fad fcap hfad hcfad hmfad hzfad=>?_));subst hfad;refine Zz 3 ?_;refine e_ (I_ jz_ rfl rfl) rfl (u_ 0 bV_ rfl rfl rfl rfl rfl rfl (Zz 4 ?_));exact gW_ ⟨((Cl.mk (atS p) aad acap (eU_ q) fad fcap),0),yV_ Y a2 a1 X ⟨hac,ham,haz,hcfad,hmfad,hzfad⟩ rfl hL zs_ zs_ rfl⟩ (fun aa v F A=>fD_ (us:=Cl.cells (Cl.mk (atS p) aad acap (eU_ q) fad fcap)) 0 iu_ iB_ bV_ rfl rfl rfl rfl aa v F A) m_ zf
     refine Zi 8 (fun hr_6=>?_) fun hr_6=>?_
     ·refine Zz 7 ?_
      refine e_ (I_ jz_ rfl rfl) rfl (u_ 0 bV_ rfl rfl rfl rfl rfl rfl (Zz 4 ?_));exact gW_ ⟨((Cl.mk [] none 0 [] none 0),2),jd_ Y a2 a1 X (by rw[if_neg zA_]) hL.nd hL.der zs_⟩ (fun aa v F A=>fD_ (us:=Cl.cells (Cl.mk [] none 0 [] none 0)) 0 iu_ iB_ bV_ rfl rfl rfl rfl aa v F A) m_ (fun v _ h=>by exact⟨.inl rfl,.inl rfl,trivial⟩)
     refine Zz 5 ?_;refine e_ (I_ jz_ rfl rfl) rfl (u_ 0 bV_ rfl rfl rfl rfl rfl rfl (Zz 4 ?_));exact gW_ ⟨((Cl.mk [] none 0 [] none 0),3),jd_ Y a2 a1 X (by rw[if_pos zA_]) hL.nd hL.der zs_⟩ (fun aa v F A=>fD_ (us:=Cl.cells (Cl.mk [] none 0 [] none 0)) 0 iu_ iB_ bV_ rfl rfl rfl rfl aa v F A) m_ (fun v _ h=>by exact⟨.inl rfl,.inl rfl,trivial⟩)
    have hlf:n<List.length q:=by omega
    obtain⟨f,hf⟩:∃ e_1,q[n]? = some e_1:=⟨_,List.getElem?_eq_getElem hlf⟩;have hmf:f∈q:=List.mem_of_getElem? hf;have hfd:=hL.der f hmf;have hform:=hfd.form H;obtain⟨hxl_1,hyl_1⟩:=ra_ (kl_ hz (decide (f∈fm)) f) zs_;refine Zz 11 ?_;refine e_ (bF_ O x_ A_ rfl rfl zs_ zs_) rfl (e_ (eZ_ O zp bB_ A_ rfl (Fc.cells_len _) zw_ (o_ Fc.cells_len hf)) rfl (G_ Y_ rfl fun b_6=>u_ 0 A_ rfl rfl rfl rfl rfl rfl (Zz 6 ?_)));refine g_ (yp_ (EngB.mk g pb ab ub ob ib rb sb lad lcap (av_ (uniq [] p))) (EA m hm (EngB.mk g pb ab ub ob ib rb sb lad lcap (av_ (uniq [] p))) B C d kb fb) x f q fm ((d,.cells #[L] 26 (0,0))::(kb,.map K J)::([(fb,.map N M)]++I)) ⟨L,K,J,N,M,qf_1,I,rfl,O,hEk_1,hEf_1,hqf_1⟩ Ha Hu Ho Hi Hr Hm hI hxl hyl) rfl (z_ (c_ (c_ (c_ (c_ (c_ t_))))) (z_ (c_ (c_ (c_ (c_ (c_ t_))))) (z_ (c_ (c_ (c_ (c_ (c_ t_))))) (z_ (c_ (c_ (c_ (c_ (c_ t_))))) (z_ (c_ (c_ (c_ (c_ (c_ t_))))) (z_ (c_ (c_ (c_ (c_ (c_ t_))))) (j_ (c_ (c_ (c_ d_))) (j_ (c_ (c_ (c_ d_))) (z_ (c_ (c_ (c_ t_))) (c_ (c_ C_))))))))))) zf rfl fun⟨⟨S,R,Q,P,T,U⟩,hI_1⟩=>?_;dsimp only;refine y_ xX_ (Zz 2 ?_);refine y_ (R_ (f_ (f_ (f_ (f_ (f_ (f_ d_)))))) (R_ (f_ (f_ (f_ (f_ (f_ (f_ d_)))))) (R_ (f_ (f_ (f_ (f_ (f_ (f_ (f_ (f_ d_)))))))) (R_ (f_ (f_ (f_ (f_ (f_ (f_ (f_ (f_ d_)))))))) (bb_ (f_ (f_ (f_ (f_ (f_ (f_ (f_ aP_)))))))))))) (Zz 4 ?_);rcases iY_ hform with hk|hk|hk
    ·refine e_ (ar_ (dZ_ tZ_ Tryz.sizeOf127 rfl rfl zs_ zs_) (show _=zp_ Z 1 from by rw[hk];rfl)) rfl ?_
     refine Zz 6 ?_;refine dK_ (H':=((b_1,.cells #[.slice none 0 0,.slice none 0 0] 67 (0,0))::((Z,.cells #[.slice none 0 0,.slice (some ⟨a4,0,none⟩) 6 6,.slice (some ⟨a6,0,none⟩) 4 4,.slice (some ⟨a5,0,none⟩) 2 2] 128 (0,0))::((b_6,.cells #[.int .i64 f.kind,str f.a,str f.b,str f.r,.int .i64 f.lo,.int .i64 f.hi] 36 (0,0))::(S++(R++(Q++(P++(T++(U++((d,.cells #[L] 26 (0,0))::(kb,.map K J)::([(fb,.map N M)]++I)))))))))))) (j_ (c_ (c_ (c_ d_))) (j_ (c_ (c_ (c_ d_))) (j_ (c_ (c_ d_)) (z_ (c_ (c_ t_)) (z_ (c_ (c_ t_)) (z_ (c_ (c_ t_)) (z_ (c_ (c_ t_)) (z_ (c_ (c_ t_)) (z_ (c_ (c_ t_)) (j_ d_ (j_ d_ (z_ t_ ac_)))))))))))) (fun v _ h=>h) ?_;refine M_ (ι:={y:Nat×Hp // y.1≤6∧((EA m hm (EngB.mk g pb ab ub ob ib rb sb lad lcap (av_ (uniq [] p))) B C d kb fb)).St (rls (bo_ m) idk (aM_ (uniq [] p)) (Ix.add x (decide (f∈fm)) f) f y.1 (q,fm)).1 (rls (bo_ m) idk (aM_ (uniq [] p)) (Ix.add x (decide (f∈fm)) f) f y.1 (q,fm)).2 y.2∧(y.1=0∨((rls (bo_ m) idk (aM_ (uniq [] p)) (Ix.add x (decide (f∈fm)) f) f y.1 (q,fm)).1).length≤m)}) (fun y=>[(0,.slice a3 (List.length p) a7),(1,.int .i64 bu),(4,zp_ b_1 0),(7,zp_ B 0),(8,zp_ C 0),(9,zp_ d 0),(10,.slice aad (List.length (atS p)) acap),(11,zp_ Z 0),(12,.int .i64 (n:Int)),(13,zp_ b_6 0),(60,.slice (some ⟨a4,0,none⟩) 6 6),(61,.int .i64 6),(62,.int .i64 (y.1.1:Int))]) (fun y=>((b_1,.cells #[.slice none 0 0,.slice none 0 0] 67 (0,0))::((Z,.cells #[.slice none 0 0,.slice (some ⟨a4,0,none⟩) 6 6,.slice (some ⟨a6,0,none⟩) 4 4,.slice (some ⟨a5,0,none⟩) 2 2] 128 (0,0))::((b_6,.cells #[.int .i64 f.kind,str f.a,str f.b,str f.r,.int .i64 f.lo,.int .i64 f.hi] 36 (0,0))::(S++(R++(Q++(P++(T++(U++y.1.2)))))))))) (fun y=>[ah_ (some ⟨a4,0,none⟩) (List.flatMap fvC (rlV g 1)),ah_ (some ⟨a6,0,none⟩) (List.flatMap fvC (rlV g 2)),ah_ (some ⟨a5,0,none⟩) (List.flatMap fvC (rlV g 3)),ah_ aad (List.flatMap ag_ (atS p)),mlF Tryz.prog 208 Ky.val Pc.cells pb (aM_ (uniq [] p)) adr,bW_ g (.cells #[.map (some pb),.slice lad (List.length (av_ (uniq [] p))) lcap,.map (some kb),.func (.func 73) #[] #[zp_ B 0,zp_ C 0,zp_ d 0],.map (some ab),.map (some ub),.map (some ob),.map (some ib),.map (some rb),.map (some sb),.map (some fb)] 124 (0,0)),bW_ C (.cells #[.int .i64 (m:Int)] 3 (0,0)),bW_ B (.cells #[zp_ g 0] 116 (0,0)),ah_ lad (List.flatMap ag_ (av_ (uniq [] p))),ah_ a3 (List.flatMap Pc.cells p),jf_]) (fun y=>6 - y.1.1) ⟨((0:Nat),((d,.cells #[L] 26 (0,0))::(kb,.map K J)::([(fb,.map N M)]++I))),by omega,by exact⟨L,K,J,N,M,qf_1,I,rfl,O,hEk_1,hEf_1,hqf_1⟩,.inl rfl⟩ zl zp zh ?_;rintro ⟨⟨j,Hs⟩,hj,G,hjm⟩;dsimp only at hj G hjm ⊢;refine Zi 2 (fun hr_5=>?_) fun hr_5=>?_
     ·have ej:j=6:=by omega
      have hjl:((rls (bo_ m) idk (aM_ (uniq [] p)) (Ix.add x (decide (f∈fm)) f) f j (q,fm)).1).length≤m:=hjm.resolve_left zs_;rw[ej]at hjl G;refine Zz 12 ?_;exact w_ ⟨(n+1,(rls (bo_ m) idk (aM_ (uniq [] p)) (Ix.add x (decide (f∈fm)) f) f 6 (q,fm)).1,(rls (bo_ m) idk (aM_ (uniq [] p)) (Ix.add x (decide (f∈fm)) f) f 6 (q,fm)).2,(Ix.add x (decide (f∈fm)) f),S,R,Q,P,T,U,Hs),(jH_ H hL hf (by have e:nrl f=6:=(by unfold nrl;simp[hk]);rw[e]) zs_),(by exact G),hI_1,(kl_ hz _ f)⟩ zt_ zl (j_ d_ (j_ d_ (z_ (c_ t_) (z_ (c_ t_) (z_ (c_ t_) (z_ (c_ t_) (z_ (c_ t_) (z_ (c_ t_) C_)))))))) zh
     have a8:j<List.length (rlV g 1):=by show j<6;omega
     obtain⟨fv,a0⟩:∃ e_1,(rlV g 1)[j]? = some e_1:=⟨_,List.getElem?_eq_getElem a8⟩;have hmfv:fv∈(rlV g 1):=List.mem_of_getElem? a0;refine Zz 10 ?_;refine e_ (S_ aX_ eK_ rfl rfl (fun v _ h=>au_ (n:=1) iX_ zw_ (by exact h.1) a0) zs_ zs_) rfl (e_ (bn_ (ad:=(some ⟨a4,0,none⟩)) Tryz.isAgg120 rfl zf (o_ iX_ a0 0 _ rfl)) rfl (Zz 7 ?_));obtain⟨nr,rfl,hT⟩:=xJ_ (EngB.mk g pb ab ub ob ib rb sb lad lcap (av_ (uniq [] p))) (EA m hm (EngB.mk g pb ab ub ob ib rb sb lad lcap (av_ (uniq [] p))) B C d kb fb) (EngA.mk adr (fun _=>(none,0)) (fun _=>(none,0)) (fun _=>(none,0)) (fun _=>(none,0)) (fun _=>(none,0)) (fun _=>(none,0))) (aM_ (uniq [] p)) (Ix.add x (decide (f∈fm)) f) f (rls (bo_ m) idk (aM_ (uniq [] p)) (Ix.add x (decide (f∈fm)) f) f j (q,fm)).1 (rls (bo_ m) idk (aM_ (uniq [] p)) (Ix.add x (decide (f∈fm)) f) f j (q,fm)).2 Hs G S R Q P T U hI_1 hpl hxl_1 hyl_1 (fun hk=>(hV_ hform hk).2.2) (fun _ y hy=>(H y (pm9.1 hy).1).num (.inr (pm9.1 hy).2.1)) hk j a0;exact hk_
    ·refine e_ (ar_ (dZ_ tZ_ Tryz.sizeOf127 rfl rfl zs_ zs_) (show _=zp_ Z 2 from by rw[hk];rfl)) rfl ?_
     refine Zz 6 ?_;refine dK_ (H':=((b_1,.cells #[.slice none 0 0,.slice none 0 0] 67 (0,0))::((Z,.cells #[.slice none 0 0,.slice (some ⟨a4,0,none⟩) 6 6,.slice (some ⟨a6,0,none⟩) 4 4,.slice (some ⟨a5,0,none⟩) 2 2] 128 (0,0))::((b_6,.cells #[.int .i64 f.kind,str f.a,str f.b,str f.r,.int .i64 f.lo,.int .i64 f.hi] 36 (0,0))::(S++(R++(Q++(P++(T++(U++((d,.cells #[L] 26 (0,0))::(kb,.map K J)::([(fb,.map N M)]++I)))))))))))) (j_ (c_ (c_ (c_ d_))) (j_ (c_ (c_ (c_ d_))) (j_ (c_ (c_ d_)) (z_ (c_ (c_ t_)) (z_ (c_ (c_ t_)) (z_ (c_ (c_ t_)) (z_ (c_ (c_ t_)) (z_ (c_ (c_ t_)) (z_ (c_ (c_ t_)) (j_ d_ (j_ d_ (z_ t_ ac_)))))))))))) (fun v _ h=>h) ?_;refine M_ (ι:={y:Nat×Hp // y.1≤4∧((EA m hm (EngB.mk g pb ab ub ob ib rb sb lad lcap (av_ (uniq [] p))) B C d kb fb)).St (rls (bo_ m) idk (aM_ (uniq [] p)) (Ix.add x (decide (f∈fm)) f) f y.1 (q,fm)).1 (rls (bo_ m) idk (aM_ (uniq [] p)) (Ix.add x (decide (f∈fm)) f) f y.1 (q,fm)).2 y.2∧(y.1=0∨((rls (bo_ m) idk (aM_ (uniq [] p)) (Ix.add x (decide (f∈fm)) f) f y.1 (q,fm)).1).length≤m)}) (fun y=>[(0,.slice a3 (List.length p) a7),(1,.int .i64 bu),(4,zp_ b_1 0),(7,zp_ B 0),(8,zp_ C 0),(9,zp_ d 0),(10,.slice aad (List.length (atS p)) acap),(11,zp_ Z 0),(12,.int .i64 (n:Int)),(13,zp_ b_6 0),(60,.slice (some ⟨a6,0,none⟩) 4 4),(61,.int .i64 4),(62,.int .i64 (y.1.1:Int))]) (fun y=>((b_1,.cells #[.slice none 0 0,.slice none 0 0] 67 (0,0))::((Z,.cells #[.slice none 0 0,.slice (some ⟨a4,0,none⟩) 6 6,.slice (some ⟨a6,0,none⟩) 4 4,.slice (some ⟨a5,0,none⟩) 2 2] 128 (0,0))::((b_6,.cells #[.int .i64 f.kind,str f.a,str f.b,str f.r,.int .i64 f.lo,.int .i64 f.hi] 36 (0,0))::(S++(R++(Q++(P++(T++(U++y.1.2)))))))))) (fun y=>[ah_ (some ⟨a4,0,none⟩) (List.flatMap fvC (rlV g 1)),ah_ (some ⟨a6,0,none⟩) (List.flatMap fvC (rlV g 2)),ah_ (some ⟨a5,0,none⟩) (List.flatMap fvC (rlV g 3)),ah_ aad (List.flatMap ag_ (atS p)),mlF Tryz.prog 208 Ky.val Pc.cells pb (aM_ (uniq [] p)) adr,bW_ g (.cells #[.map (some pb),.slice lad (List.length (av_ (uniq [] p))) lcap,.map (some kb),.func (.func 73) #[] #[zp_ B 0,zp_ C 0,zp_ d 0],.map (some ab),.map (some ub),.map (some ob),.map (some ib),.map (some rb),.map (some sb),.map (some fb)] 124 (0,0)),bW_ C (.cells #[.int .i64 (m:Int)] 3 (0,0)),bW_ B (.cells #[zp_ g 0] 116 (0,0)),ah_ lad (List.flatMap ag_ (av_ (uniq [] p))),ah_ a3 (List.flatMap Pc.cells p),jf_]) (fun y=>4 - y.1.1) ⟨((0:Nat),((d,.cells #[L] 26 (0,0))::(kb,.map K J)::([(fb,.map N M)]++I))),by omega,by exact⟨L,K,J,N,M,qf_1,I,rfl,O,hEk_1,hEf_1,hqf_1⟩,.inl rfl⟩ zl zp zh ?_;rintro ⟨⟨j,Hs⟩,hj,G,hjm⟩;dsimp only at hj G hjm ⊢;refine Zi 2 (fun hr_5=>?_) fun hr_5=>?_
     ·have ej:j=4:=by omega
      have hjl:((rls (bo_ m) idk (aM_ (uniq [] p)) (Ix.add x (decide (f∈fm)) f) f j (q,fm)).1).length≤m:=hjm.resolve_left zs_;rw[ej]at hjl G;refine Zz 12 ?_;exact w_ ⟨(n+1,(rls (bo_ m) idk (aM_ (uniq [] p)) (Ix.add x (decide (f∈fm)) f) f 4 (q,fm)).1,(rls (bo_ m) idk (aM_ (uniq [] p)) (Ix.add x (decide (f∈fm)) f) f 4 (q,fm)).2,(Ix.add x (decide (f∈fm)) f),S,R,Q,P,T,U,Hs),(jH_ H hL hf (by have e:nrl f=4:=(by unfold nrl;simp[hk]);rw[e]) zs_),(by exact G),hI_1,(kl_ hz _ f)⟩ zt_ zl (j_ d_ (j_ d_ (z_ (c_ t_) (z_ (c_ t_) (z_ (c_ t_) (z_ (c_ t_) (z_ (c_ t_) (z_ (c_ t_) C_)))))))) zh
     have a8:j<List.length (rlV g 2):=by show j<4;omega
     obtain⟨fv,a0⟩:∃ e_1,(rlV g 2)[j]? = some e_1:=⟨_,List.getElem?_eq_getElem a8⟩;have hmfv:fv∈(rlV g 2):=List.mem_of_getElem? a0;refine Zz 10 ?_;refine e_ (S_ aX_ eK_ rfl rfl (fun v _ h=>au_ (n:=1) iX_ zw_ (by exact h.2.1) a0) zs_ zs_) rfl (e_ (bn_ (ad:=(some ⟨a6,0,none⟩)) Tryz.isAgg120 rfl zf (o_ iX_ a0 0 _ rfl)) rfl (Zz 7 ?_));obtain⟨nr,rfl,hT⟩:=xI_ (EngB.mk g pb ab ub ob ib rb sb lad lcap (av_ (uniq [] p))) (EA m hm (EngB.mk g pb ab ub ob ib rb sb lad lcap (av_ (uniq [] p))) B C d kb fb) (EngA.mk adr (fun _=>(none,0)) (fun _=>(none,0)) (fun _=>(none,0)) (fun _=>(none,0)) (fun _=>(none,0)) (fun _=>(none,0))) (aM_ (uniq [] p)) (Ix.add x (decide (f∈fm)) f) f (rls (bo_ m) idk (aM_ (uniq [] p)) (Ix.add x (decide (f∈fm)) f) f j (q,fm)).1 (rls (bo_ m) idk (aM_ (uniq [] p)) (Ix.add x (decide (f∈fm)) f) f j (q,fm)).2 Hs G S R Q P T U hI_1 hpl hxl_1 hyl_1 (fun hk=>(hV_ hform hk).2.2) (fun _ y hy=>(H y (pm9.1 hy).1).num (.inr (pm9.1 hy).2.1)) hk j a0;exact hk_
    refine e_ (ar_ (dZ_ tZ_ Tryz.sizeOf127 rfl rfl zs_ zs_) (show _=zp_ Z 3 from by rw[hk];rfl)) rfl ?_;refine Zz 6 ?_;refine dK_ (H':=((b_1,.cells #[.slice none 0 0,.slice none 0 0] 67 (0,0))::((Z,.cells #[.slice none 0 0,.slice (some ⟨a4,0,none⟩) 6 6,.slice (some ⟨a6,0,none⟩) 4 4,.slice (some ⟨a5,0,none⟩) 2 2] 128 (0,0))::((b_6,.cells #[.int .i64 f.kind,str f.a,str f.b,str f.r,.int .i64 f.lo,.int .i64 f.hi] 36 (0,0))::(S++(R++(Q++(P++(T++(U++((d,.cells #[L] 26 (0,0))::(kb,.map K J)::([(fb,.map N M)]++I)))))))))))) (j_ (c_ (c_ (c_ d_))) (j_ (c_ (c_ (c_ d_))) (j_ (c_ (c_ d_)) (z_ (c_ (c_ t_)) (z_ (c_ (c_ t_)) (z_ (c_ (c_ t_)) (z_ (c_ (c_ t_)) (z_ (c_ (c_ t_)) (z_ (c_ (c_ t_)) (j_ d_ (j_ d_ (z_ t_ ac_)))))))))))) (fun v _ h=>h) ?_;refine M_ (ι:={y:Nat×Hp // y.1≤2∧((EA m hm (EngB.mk g pb ab ub ob ib rb sb lad lcap (av_ (uniq [] p))) B C d kb fb)).St (rls (bo_ m) idk (aM_ (uniq [] p)) (Ix.add x (decide (f∈fm)) f) f y.1 (q,fm)).1 (rls (bo_ m) idk (aM_ (uniq [] p)) (Ix.add x (decide (f∈fm)) f) f y.1 (q,fm)).2 y.2∧(y.1=0∨((rls (bo_ m) idk (aM_ (uniq [] p)) (Ix.add x (decide (f∈fm)) f) f y.1 (q,fm)).1).length≤m)}) (fun y=>[(0,.slice a3 (List.length p) a7),(1,.int .i64 bu),(4,zp_ b_1 0),(7,zp_ B 0),(8,zp_ C 0),(9,zp_ d 0),(10,.slice aad (List.length (atS p)) acap),(11,zp_ Z 0),(12,.int .i64 (n:Int)),(13,zp_ b_6 0),(60,.slice (some ⟨a5,0,none⟩) 2 2),(61,.int .i64 2),(62,.int .i64 (y.1.1:Int))]) (fun y=>((b_1,.cells #[.slice none 0 0,.slice none 0 0] 67 (0,0))::((Z,.cells #[.slice none 0 0,.slice (some ⟨a4,0,none⟩) 6 6,.slice (some ⟨a6,0,none⟩) 4 4,.slice (some ⟨a5,0,none⟩) 2 2] 128 (0,0))::((b_6,.cells #[.int .i64 f.kind,str f.a,str f.b,str f.r,.int .i64 f.lo,.int .i64 f.hi] 36 (0,0))::(S++(R++(Q++(P++(T++(U++y.1.2)))))))))) (fun y=>[ah_ (some ⟨a4,0,none⟩) (List.flatMap fvC (rlV g 1)),ah_ (some ⟨a6,0,none⟩) (List.flatMap fvC (rlV g 2)),ah_ (some ⟨a5,0,none⟩) (List.flatMap fvC (rlV g 3)),ah_ aad (List.flatMap ag_ (atS p)),mlF Tryz.prog 208 Ky.val Pc.cells pb (aM_ (uniq [] p)) adr,bW_ g (.cells #[.map (some pb),.slice lad (List.length (av_ (uniq [] p))) lcap,.map (some kb),.func (.func 73) #[] #[zp_ B 0,zp_ C 0,zp_ d 0],.map (some ab),.map (some ub),.map (some ob),.map (some ib),.map (some rb),.map (some sb),.map (some fb)] 124 (0,0)),bW_ C (.cells #[.int .i64 (m:Int)] 3 (0,0)),bW_ B (.cells #[zp_ g 0] 116 (0,0)),ah_ lad (List.flatMap ag_ (av_ (uniq [] p))),ah_ a3 (List.flatMap Pc.cells p),jf_]) (fun y=>2 - y.1.1) ⟨((0:Nat),((d,.cells #[L] 26 (0,0))::(kb,.map K J)::([(fb,.map N M)]++I))),by omega,by exact⟨L,K,J,N,M,qf_1,I,rfl,O,hEk_1,hEf_1,hqf_1⟩,.inl rfl⟩ zl zp zh ?_;rintro ⟨⟨j,Hs⟩,hj,G,hjm⟩;dsimp only at hj G hjm ⊢;refine Zi 2 (fun hr_5=>?_) fun hr_5=>?_
    ·have ej:j=2:=by omega
     have hjl:((rls (bo_ m) idk (aM_ (uniq [] p)) (Ix.add x (decide (f∈fm)) f) f j (q,fm)).1).length≤m:=hjm.resolve_left zs_;rw[ej]at hjl G;refine Zz 12 ?_;exact w_ ⟨(n+1,(rls (bo_ m) idk (aM_ (uniq [] p)) (Ix.add x (decide (f∈fm)) f) f 2 (q,fm)).1,(rls (bo_ m) idk (aM_ (uniq [] p)) (Ix.add x (decide (f∈fm)) f) f 2 (q,fm)).2,(Ix.add x (decide (f∈fm)) f),S,R,Q,P,T,U,Hs),(jH_ H hL hf (by have e:nrl f=2:=(by unfold nrl;simp[hk]);rw[e]) zs_),(by exact G),hI_1,(kl_ hz _ f)⟩ zt_ zl (j_ d_ (j_ d_ (z_ (c_ t_) (z_ (c_ t_) (z_ (c_ t_) (z_ (c_ t_) (z_ (c_ t_) (z_ (c_ t_) C_)))))))) zh
    have a8:j<List.length (rlV g 3):=by show j<2;omega
    obtain⟨fv,a0⟩:∃ e_1,(rlV g 3)[j]? = some e_1:=⟨_,List.getElem?_eq_getElem a8⟩;have hmfv:fv∈(rlV g 3):=List.mem_of_getElem? a0;refine Zz 10 ?_;refine e_ (S_ aX_ eK_ rfl rfl (fun v _ h=>au_ (n:=1) iX_ zw_ (by exact h.2.2.1) a0) zs_ zs_) rfl (e_ (bn_ (ad:=(some ⟨a5,0,none⟩)) Tryz.isAgg120 rfl zf (o_ iX_ a0 0 _ rfl)) rfl (Zz 7 ?_));obtain⟨nr,rfl,hT⟩:=xH_ (EngB.mk g pb ab ub ob ib rb sb lad lcap (av_ (uniq [] p))) (EA m hm (EngB.mk g pb ab ub ob ib rb sb lad lcap (av_ (uniq [] p))) B C d kb fb) (EngA.mk adr (fun _=>(none,0)) (fun _=>(none,0)) (fun _=>(none,0)) (fun _=>(none,0)) (fun _=>(none,0)) (fun _=>(none,0))) (aM_ (uniq [] p)) (Ix.add x (decide (f∈fm)) f) f (rls (bo_ m) idk (aM_ (uniq [] p)) (Ix.add x (decide (f∈fm)) f) f j (q,fm)).1 (rls (bo_ m) idk (aM_ (uniq [] p)) (Ix.add x (decide (f∈fm)) f) f j (q,fm)).2 Hs G S R Q P T U hI_1 hpl hxl_1 hyl_1 (fun hk=>(hV_ hform hk).2.2) (fun _ y hy=>(H y (pm9.1 hy).1).num (.inr (pm9.1 hy).2.1)) hk j a0;exact hk_
   refine Zz 6 ?_;exact jR_
  refine Zz 9 ?_;exact jR_
 refine Zz 5 ?_;refine e_ (I_ jz_ rfl rfl) rfl (Zz 1 ?_);refine u_ 0 bV_ rfl rfl rfl rfl rfl rfl (Zz 4 ?_);exact gW_ ⟨((Cl.mk [] none 0 [] none 0),(de_ p)),xb_ zA_⟩ (fun aa v F A=>fD_ (us:=Cl.cells (Cl.mk [] none 0 [] none 0)) 0 iu_ iB_ bV_ rfl rfl rfl rfl aa v F A) m_ (fun v _ h=>by exact⟨.inl rfl,.inl rfl,trivial⟩)
def wn_ (f:Fc):Bool:=decide (f=X_ f.a f.b)
def hI_ (A:List Str) (f:Fc):Bool :=
  decide (f.a∈A)&&(if f.kind=1 then decide (f.b∈A)&&wn_ f
    else if f.kind=2 then decide (f.b∈A)&&(decide (f.r≠[])&&decide (f=ab_ f.a f.r f.b))
    else if f.kind=3 then decide (f.r≠[])&&(decide (f=am_ f.a f.r f.lo f.hi)&&(decide (-1099511627776≤f.lo)&&(decide (f.lo≤f.hi)&&decide (f.hi≤1099511627776))))
    else false)
abbrev SrtS (l:List Str):Prop:=l.Pairwise fun x y=>x<y
theorem xQ_ {α:Type} {lt:α→α→Prop} (q:∀ {x y z},lt x y→lt y z→lt x z) {l:List α} {k:Nat} {a b:α} (h:(l.take (k+1)).Pairwise lt) (v:l[k]? = some a) (A:l[k+1]? = some b) (e:lt a b):(l.take (k+2)).Pairwise lt:=by
 rw[List.take_add_one,A,Option.toList_some,List.pairwise_append];refine⟨h,by simp,fun x d y m=>?_⟩;rw[List.mem_singleton]at m;subst m;rw[List.take_add_one,v,Option.toList_some]at h d;rcases List.mem_append.1 d with d|d
 ·exact q ((List.pairwise_append.1 h).2.2 x d a zB_) e
 rw[List.mem_singleton]at d;subst d;exact e
theorem pw_not {α:Type} {lt:α→α→Prop} {l:List α} {k:Nat} {a b:α} (q:l[k]? = some a) (v:l[k+1]? = some b) (d:¬ lt a b):¬ l.Pairwise lt:=fun h=>by
  obtain⟨x,m⟩:=List.getElem?_eq_some_iff.1 q;obtain⟨e,y⟩:=List.getElem?_eq_some_iff.1 v;have:=List.pairwise_iff_getElem.1 h k (k+1) x e zs_;rw[m,y]at this;exact d this
theorem pw_one {α:Type} {lt:α→α→Prop} (l:List α):(l.take 1).Pairwise lt:=by
  cases l<;>simp
theorem tB_ {x y:Fc}:0≤hK_ x y↔¬ x.lt y:=by rw[← rw_];omega
theorem yE_ {x y:Fc} (h:¬ 0≤hK_ x y):x.lt y:=Decidable.byContradiction fun q=>h (tB_.2 q)
theorem SrtS.nodup {l:List Str} (h:SrtS l):l.Nodup:=by
  unfold List.Nodup;refine List.Pairwise.imp ?_ h;intro a b d e;exact mm_ b (e▸d)
theorem any_no {α:Type} {p:α→Bool} {l:List α} {j:Nat} {x:α} (h:∀ y∈l.take j,p y=false) (e:l[j]? = some x) (k:p x=false):∀ y∈l.take (j+1),p y=false:=fun y d=>by
 rw[List.take_add_one,e]at d;simp only[Option.toList_some,List.mem_append,List.mem_singleton]at d;rcases d with d|rfl
 ·exact h y d
 exact k
theorem uU_ {P:Program} {N:Nf} {fr:Fr} {H:Hp} {Γ:List Fct} {t h ty:TypeId} {x y:Operand} {m n:List UInt8} (k:Fr.ev fr x=some (str m)) (q:Fr.ev fr y=some (str n)):Yld P N fr H Γ (.binOp .geq t x y h) ty (.bool (decide (n≤m))) :=
  fun a v d _ _ _ _ _=>by
    have e:decide (n≤m)=!decide (m<n):=by rw[Bool.eq_iff_iff];simp[List.not_lt]
    rw[e,← kw_];simp[execOp,d.ev k,d.ev q,str,eqGuard,binOp,Op.stringOp]
theorem xM_ (a r b:Str):Fn0 Tryz.prog 27 #[str a,str r,str b] (Fc.val (ab_ a r b)):=by
  refine i_ Tryz.func27 rfl rfl Tryz.ntmps27 rfl fun m=>?_;refine Zz 2 ?_;refine G_ Y_ rfl fun k=>Zz 7 ?_
  refine e_ (I_ eI_ rfl rfl) rfl (u_ 0 A_ rfl rfl rfl rfl rfl rfl (Zz 3 ?_));exact gW_ () (fun h v e d=>ei_ (us:=Fc.cells (ab_ a r b)) 0 Tryz.results27 bB_ A_ rfl rfl rfl h v e d) m_ zt
theorem dE {p:Prop} {i:Decidable p}:(@decide p i=true)↔p:=⟨fun h=>of_decide_eq_true h,fun h=>decide_eq_true h⟩
theorem yR_ (p:List Pc):[42]∈atS p:=(hN_ p _).2 (.inr (.inl rfl))
theorem tG_ (p:List Pc):[33]∈atS p:=(hN_ p _).2 (.inr (.inr rfl))
theorem zq_ {p:List Pc} {x:Pc} (d:x∈p) {s:Str} (h:s=x.a∨s=x.b∨s=x.c) (e:s≠[]):s∈atS p:=by
  refine (hN_ p s).2 (.inl ((fp_ p s).2 ?_));refine List.mem_flatMap.2 ⟨x,d,List.mem_filter.2 ⟨?_,by simpa using e⟩⟩;rcases h with rfl|rfl|rfl<;>simp
theorem yQ_ {s:Str} (h:bd_ s=true):s≠[]:=fun e=>by subst e;revert h;decide
theorem tc_ {p:Pc} (h:p.valid=true) (hk:p.kind=1∨p.kind=2∨p.kind=3∨p.kind=4∨p.kind=9):p.c≠[]:=by
 unfold Pc.valid at h
 split at h
 ·simp at h
 split at h
 ·simp at h
 split at h
 ·simp at h
 simp only[Bool.and_eq_true]at h;obtain⟨⟨⟨⟨_,m⟩,_⟩,_⟩,_⟩:=h
 have e:∀ {b:Bool},cb_ b p.c bd_=true→b=true→p.c≠[]:=fun d k=>by
   subst k;simp[cb_]at d;exact yQ_ d
 rcases hk with q|q|q|q|q<;>rw[q]at m<;>exact e m zw_
theorem fo1 {A:List Str} {a b:Str}:hI_ A (X_ a b)=true↔a∈A∧b∈A:=by
  unfold hI_ X_ wn_;dsimp only;rw[if_pos rfl,Bool.and_eq_true,Bool.and_eq_true,dE,dE,dE];simp[X_]
theorem fo2 {A:List Str} {a r b:Str}:hI_ A (ab_ a r b)=true↔a∈A∧b∈A∧r≠[]:=by
  unfold hI_ ab_;dsimp only;rw[if_neg zw_,if_pos rfl,Bool.and_eq_true,Bool.and_eq_true,Bool.and_eq_true,dE,dE,dE,dE];simp[ab_]
theorem fo3 {A:List Str} {a r:Str} {lo hi:Int}:hI_ A (am_ a r lo hi)=true↔a∈A∧r≠[]∧-1099511627776≤lo∧lo≤hi∧hi≤1099511627776:=by
  unfold hI_ am_;dsimp only;rw[if_neg zw_,if_neg zw_,if_pos rfl,Bool.and_eq_true,Bool.and_eq_true,Bool.and_eq_true,Bool.and_eq_true,Bool.and_eq_true,dE,dE,dE,dE,dE,dE];simp[am_]
theorem one_ok {p:List Pc} {S:Fc→Prop} (v:∀ x∈p,x.valid=true) (hS:∀ y,S y→hI_ (atS p) y=true) {y:Fc} (h:hO_ p (atS p) S y):hI_ (atS p) y=true:=by
  have m:∀ {x:Pc},x∈p→(x.kind=1∨x.kind=2∨x.kind=3∨x.kind=4∨x.kind=9)→x.c∈atS p:=fun d hk=>zq_ d (.inr (.inr rfl)) (tc_ (v _ d) hk)
  have k:∀ {x:Pc},x∈p→x.vok:=fun d=>gP_ (v _ d)
  cases h with
  | r1 h=>exact fo1.2 ⟨h,h⟩
  | r2 h=>exact fo1.2 ⟨h,yR_ p⟩
  | r10 d hk h=>exact fo2.2 ⟨h,h,(k d).rok.1 zaj_⟩
  | r3 d hk h=>exact fo1.2 ⟨(fo1.1 (hS _ h)).1,m d zaj_⟩
  | r4 d hk h h'=>exact fo1.2 ⟨(fo1.1 (hS _ h)).1,m d zaj_⟩
  | r5 d hk h=>exact fo2.2 ⟨(fo1.1 (hS _ h)).1,m d zaj_,(k d).rok.1 zaj_⟩
  | r6 d hk h=>exact fo2.2 ⟨(fo2.1 (hS _ h)).1,(fo2.1 (hS _ h)).2.1,(k d).rok.2.2 hk⟩
  | r7 d hk h h'=>exact fo2.2 ⟨(fo2.1 (hS _ h)).1,(fo2.1 (hS _ h')).2.1,((k d).rok.2.1 hk).2⟩
  | r8 d hk h h'=>exact fo1.2 ⟨(fo2.1 (hS _ h)).1,m d zaj_⟩
  | r9 h h'=>exact fo1.2 ⟨(fo2.1 (hS _ h)).1,tG_ p⟩
  | r11 d hk h=>exact fo3.2 ⟨(fo1.1 (hS _ h)).1,(k d).rok.1 zaj_,(k d).num (.inl hk)⟩
  | r12 h h' hm hl =>
    have e:=fo3.1 (hS _ h);have q:=fo3.1 (hS _ h');exact fo3.2 ⟨e.1,e.2.1,by omega,hl,by omega⟩
  | r13 h h' hm hl=>exact fo1.2 ⟨(fo3.1 (hS _ h)).1,tG_ p⟩
  | r14 d hk h e q=>exact fo1.2 ⟨(fo3.1 (hS _ h)).1,m d zaj_⟩
theorem der_ok {p:List Pc} (e:∀ x∈p,x.valid=true) {y:Fc} (h:Der p (atS p) y):hI_ (atS p) y=true:=h _ fun _ d=>one_ok e (fun _ h=>h) d
theorem fz_ {p:List Pc} (h:de_ p=0):∀ x∈p,x.valid=true:=fun x d=>List.all_eq_true.1 (rA_ h).2 x d
theorem fB_.good {p:List Pc} {e:Int} {c:Cl} (h:fB_ p e c 0):de_ p=0∧0≤e∧e≤1073741824∧c.ok∧c.atoms=atS p∧gH_ p (atS p) (min e 65536).toNat (some c.facts):=by
 unfold fB_ at h
 split at h
 ·rename_i d;exact absurd h.2.symm d
 rename_i d
 split at h
 ·exact absurd h.2 zw_
 rename_i k
 rcases h with h|h
 ·exact⟨by simpa using d,by omega,by omega,h.2⟩
 have:=h.2.1;split at this<;>exact absurd this zw_
theorem fB_.bad {p:List Pc} {k:Int} {c:Cl} {e:Int} (h:fB_ p k c e) (d:e≠0):c=Cl.no:=by
 unfold fB_ at h
 split at h
 ·exact h.1
 split at h
 ·exact h.1
 rcases h with h|h
 ·exact absurd h.1 d
 exact h.1
theorem fB_.ok {p:List Pc} {k:Int} {c:Cl} {e:Int} (h:fB_ p k c e):c.ok:=by
 by_cases d:e=0
 ·subst d;exact h.good.2.2.2.1
 rw[h.bad d];exact Cl.no_ok
theorem fB_.len {p:List Pc} {q:Int} {c:Cl} {e:Int} (h:fB_ p q c e):c.atoms.length≤3*p.length+2∧c.facts.length≤65536:=by
 by_cases m:e=0
 ·subst m
  obtain⟨_,_,_,_,k,d⟩:=h.good;refine⟨by rw[k];exact tH_ p,?_⟩;have:=d.2.2;omega
 rw[h.bad m];simp[Cl.no]
theorem tJ_ {p:List Pc} {q:Int} {c:Cl} {e:Int} {r:Option (List Fc)} (h:fB_ p q c e) (A:de_ p=0) (C:0≤q) (B:q≤1073741824) (y:gH_ p (atS p) (min q 65536).toNat r):(∀ L,r=some L→e=0∧c.facts=L∧c.atoms=atS p)∧(r=none→c=Cl.no∧e=if q<65536 then 3 else 2):=by
 unfold fB_ at h;rw[if_neg (by simp[A]),if_neg zs_]at h;rcases h with⟨k,m,d,v⟩|⟨k,m,d⟩
 ·have e:=gH_.uniq v y
  subst e;exact⟨fun L x=>⟨k,Option.some.inj x,d⟩,fun h=>(by cases h)⟩
 have e:=gH_.uniq d y;subst e;exact⟨fun L x=>(by cases x),fun _=>⟨k,m⟩⟩
def rJ_ (p q:List Pc):Prop:=∀ x∈p,∃ y∈q,∃ n,{ y with frm:=n }=x
theorem rJ_.at' {p q:List Pc} (h:rJ_ p q):∀ s∈atS p,s∈atS q:=fun s k=>by
 rw[hN_,fp_]at k ⊢;rcases k with d|d
 ·obtain⟨x,m,A⟩:=List.mem_flatMap.1 d
  obtain⟨y,v,n,e⟩:=h x m;subst e;exact .inl (List.mem_flatMap.2 ⟨y,v,A⟩)
 exact .inr d
theorem rJ_.der {p q:List Pc} (h:rJ_ p q) {y:Fc} (d:Der p (atS p) y):Der q (atS q) y:=d.mono h h.at'
theorem rJ_.trans {p q r:List Pc} (h:rJ_ p q) (k:rJ_ q r):rJ_ p r:=fun x d=>by
  obtain⟨y,e,n,rfl⟩:=h x d;obtain⟨z,v,m,rfl⟩:=k y e;exact⟨z,v,n,rfl⟩
end Go.Proofs.YtpbnmnfdgckaiaaGreatDoor
namespace Go.Vs
open Go Go.Sx Go.Proofs.YtpbnmnfdgckaiaaGreatDoor
def yY_ (p:List Pc) (U:List Bool) (q:List Int) (i:Nat):Prop:=∀ m,m∈q↔∃ (j:Nat) (x:Pc),j<i∧p[j]? = some x∧U[j]? = some true∧x.frm=m
theorem yY_.zero {p:List Pc} {U:List Bool}:yY_ p U [] 0:=fun m=>by simp
theorem yY_.done {p:List Pc} {S:List Str} {K:List Thg} {U:List Bool} {q:List Int} {i:Nat} (h:yY_ p U q i) (hi:p.length≤i) (A:ReachR p S K U) (m:Int):m∈q↔∃ x∈p,x.frm=m∧Usb p S x:=by
 rw[h m];constructor
 ·rintro ⟨j,x,F,y,C,v⟩
  obtain⟨b,d,e⟩:=A.use j x y;rw[C,Option.some.injEq]at d;exact⟨x,List.mem_of_getElem? y,v,e.1 d.symm⟩
 rintro ⟨x,E,v,B⟩;obtain⟨j,k⟩:=List.getElem?_of_mem E;obtain⟨b,d,e⟩:=A.use j x k;have:=(List.getElem?_eq_some_iff.1 k).1;refine⟨j,x,by omega,k,?_,v⟩;rw[d,e.2 B]
end Go.Vs
namespace Go.Vs
open Go Go.Sx Go.Proofs.YtpbnmnfdgckaiaaGreatDoor
def sU_ (p:List Pc) (er:Int) (v:Bool) (S X:List Str) (e:Int):Prop :=
  (er≠0∧X=[]∧e=er)∨(er=0∧v=false∧X=[]∧e=1)∨(er=0∧v=true∧e=0∧SrS X∧∀ n,n∈X↔Rch p S ⟨1,n⟩)
theorem gv_:∀ {l m:List Str},SrS l→SrS m→(∀ x,x∈l↔x∈m)→l=m
 | [],[],_,_,_=>rfl
 | [],y::m,_,_,h=>absurd ((h y).2 List.mem_cons_self) zB_
 | x::l,[],_,_,h=>absurd ((h x).1 List.mem_cons_self) zB_
 | x::l,y::m,h1,h2,h=>by
   unfold SrS at h1 h2;rw[List.pairwise_cons]at h1 h2
   have e:x=y:=by
     rcases List.mem_cons.1 ((h x).1 List.mem_cons_self) with e|e
     · exact e
     · rcases List.mem_cons.1 ((h y).2 List.mem_cons_self) with k|k
       · exact k.symm
       · exact absurd (List.lt_trans (h2.1 x e) (h1.1 y k)) (im_ _)
   subst e;rw[gv_ h1.2 h2.2 fun z=>?_];constructor
   · intro d
     rcases List.mem_cons.1 ((h z).1 (List.mem_cons_of_mem _ d)) with e|e
     · subst e;exact absurd (h1.1 _ d) (im_ _)
     · exact e
   · intro d
     rcases List.mem_cons.1 ((h z).2 (List.mem_cons_of_mem _ d)) with e|e
     · subst e;exact absurd (h2.1 _ d) (im_ _)
     · exact e
theorem sU_.uniq {p:List Pc} {C:Int} {v:Bool} {S X Y:List Str} {e f:Int} (h:sU_ p C v S X e) (g:sU_ p C v S Y f):X=Y∧e=f:=by
 rcases h with⟨k,x,y⟩|⟨k,x,y,B⟩|⟨k,x,y,B,E⟩<;>rcases g with⟨m,d,q⟩|⟨m,d,q,A⟩|⟨m,d,q,A,F⟩
 ·exact⟨x.trans d.symm,y.trans q.symm⟩
 ·exact absurd m k
 ·exact absurd m k
 ·exact absurd k m
 ·exact⟨y.trans q.symm,B.trans A.symm⟩
 ·rw[x]at d;cases d
 ·exact absurd k m
 ·rw[x]at d;cases d
 exact⟨gv_ B A fun n=>(E n).trans (F n).symm,y.trans q.symm⟩
abbrev aS_ (l:List Str):List Str:=l.mergeSort fun x y=>decide (x≤y)
inductive Tre where
  | mk (con:Con) (size:Int) (ad:Option Addr) (cap:Nat) (parts:List Tre)
namespace Tre
def con:Tre→Con|mk c _ _ _ _=>c
def size:Tre→Int|mk _ n _ _ _=>n
def ad:Tre→Option Addr|mk _ _ a _ _=>a
def cap:Tre→Nat|mk _ _ _ c _=>c
def parts:Tre→List Tre|mk _ _ _ _ p=>p
def cells (t:Tre):List Value:=t.con.cells++[.int .i64 t.size,.slice t.ad t.parts.length t.cap]
def val (t:Tre):Value:=.agg t.cells.toArray
theorem cells_len (t:Tre):t.cells.length=7:=rfl
theorem cells_one (t:Tre):t.cells.all Value.oneCell'=true:=by simp[cells,Con.cells,Value.oneCell',str]
def mem:Tre→Vw→Prop
  | mk c _ a _ ps,v=>c.mem v∧bx_ v a (ps.flatMap cells)∧mems ps v
where mems:List Tre→Vw→Prop
  | [],_=>True
  | p::ps,v=>mem p v∧mems ps v
end Tre
theorem szs_step {l:List Con} {i:Nat} {x:Con} (h:l[i]? = some x):Con.sz.szs (l.take (i+1))=Con.sz.szs (l.take i)+x.sz:=by
  have d:∀ (a b:List Con),Con.sz.szs (a++b)=Con.sz.szs a+Con.sz.szs b:=fun a b=>by
    induction a with
    | nil=>simp[Con.sz.szs]
    | cons c a ih=>simp[Con.sz.szs,ih];omega
  rw[List.take_add_one,h,Option.toList_some,d];simp[Con.sz.szs]
theorem szs_take_le {l:List Con} (i:Nat):Con.sz.szs (l.take i)≤Con.sz.szs l:=by
  induction l generalizing i with
  | nil=>simp
  | cons c l ih =>
    cases i with
    | zero=>simp[Con.sz.szs]
    | succ i=>have:=ih i;simp[Con.sz.szs];omega
theorem szs_len:∀ l:List Con,l.length≤Con.sz.szs l
  | []=>Nat.le_refl _
  | c::l=>by have:=szs_len l;have:=c.sz_pos;simp only[List.length_cons,Con.sz.szs];omega
def sS_ (v n all fin:Int) (at':Prop):Prop:=(v≠0→n=v)∧(v=0→(n=0→all=fin∧at')∧(n≠0→all=n))
theorem sS_.fin {v n all fin o:Int} {at':Prop} {l:List Int} (h:sS_ v n all fin at') (C:v=orF l) (q:n=0→v=0→at'→fin=o):(if n=0 then o else n)=(if v=0 then (if n=0 then o else n) else v)∧(v=0→(if n=0 then o else n)=all):=by
 obtain⟨A,x⟩:=h;constructor
 ·by_cases d:v=0
  ·rw[if_pos d]
  rw[if_neg d,A d,if_neg d]
 intro d;obtain⟨m,B⟩:=x d
 by_cases k:n=0
 ·rw[if_pos k];obtain⟨e,y⟩:=m k;rw[e,q k d y]
 rw[if_neg k,B k]
theorem sS_.init {v all:Int} {at':Prop} (h:at'):sS_ v v all all at':=⟨fun _=>rfl,fun d=>⟨fun _=>⟨rfl,h⟩,fun q=>absurd d q⟩⟩
theorem sS_.step {v all fin d m:Int} {at' k:Prop} (h:sS_ v 0 all fin at') (e:fin=if m=0 then d else m) (C:at'→k):sS_ v m all d k:=by
 obtain⟨B,y⟩:=h;refine⟨fun q=>absurd (B q).symm q,fun q=>?_⟩;obtain⟨g,_⟩:=y q;obtain⟨x,A⟩:=g rfl;refine⟨fun hm=>?_,fun hm=>?_⟩
 ·rw[if_pos hm]at e;exact⟨x.trans e,C A⟩
 rw[if_neg hm]at e;exact x.trans e
theorem wV_ {x:Ax} {v:Vw} (h:x.memF.p v) {c:Con} (d:c∈[x.left,x.right]):c.memF.p v:=by
 simp only[List.mem_cons,List.not_mem_nil,or_false]at d;rcases d with rfl|rfl
 ·exact h.1
 exact h.2.1
theorem wW_ {x:Ax} (d:x.ok) (h:x.left.sz≤1000000) (k:x.right.sz≤1000000) {c:Con} (e:c∈[x.left,x.right]):c.ok∧c.sz≤1000000:=by
 simp only[List.mem_cons,List.not_mem_nil,or_false]at e;rcases e with rfl|rfl
 ·exact⟨d.left,h⟩
 exact⟨d.right,k⟩
end Go.Vs
namespace Go.Proofs.YtpbnmnfdgckaiaaGreatDoor
open Go Go.Sx Go.Proofs
attribute [local irreducible] Code.wp wpList wpAnyH
open Go.Vs
theorem tz_:Elt Tryz.prog 107 3 1 8:=jo_ Tryz.underlying107 (z:=.int .i64 0) zv_ rfl zw_
theorem pf_as3 {H A B C G:Hp} {b:Nat×Obj} (h:H.Perm ((b::(A++(B++C)))++G)):H.Perm ((b::A)++B++(C++G)):=by simpa [List.append_assoc] using h
theorem le_ {x:Ax} (h:x.check=0):x.shaped=true:=by
  cases e:x.shaped with
  | true=>rfl
  | false=>unfold Ax.check at h;rw[if_pos e]at h;simp at h
theorem yO_ {x:Ax} (h:x.check=0):1≤x.kind∧x.kind≤9:=by
 have d:=le_ h;unfold Ax.shaped at d
 by_cases e:x.kind<1∨9<x.kind
 ·rw[if_pos e]at d;simp at d
 omega
theorem rE_ {x:Ax} (h:x.check=0):x.namedU (us x.kind)=true:=by
  cases e:x.namedU (us x.kind) with
  | true=>rfl
  | false=>rw[Ax.check_20 (le_ h) e]at h;simp at h
theorem pV_ {x:Ax} (h:x.check=0) (d:(us x.kind).left=true):x.left.check=0:=by
 by_cases e:x.left.check=0
 ·exact e
 rw[Ax.check_left (le_ h) (rE_ h) d e]at h;exact absurd h e
theorem rD_ {x:Ax} (h:x.check=0) (d:(us x.kind).right=true):x.right.check=0:=by
 by_cases e:x.right.check=0
 ·exact e
 rw[Ax.check_right (le_ h) (rE_ h) (pV_ h) d e]at h;exact absurd h e
theorem rp_ {c:Con} (h:c.empty=true):c.sz=1:=by
  cases c with
  | mk k n l hi ad cp ps =>
    unfold Con.empty at h;simp only[Bool.and_eq_true,beq_iff_eq,Con.parts]at h;have:ps=[]:=List.eq_nil_of_length_eq_zero zs_;subst this;simp[Con.sz,Con.sz.szs]
theorem tF_ {x:Ax} (h:x.check=0):x.left.sz≤64∧x.right.sz≤64:=by
 have k:=le_ h;have hk:=yO_ h;unfold Ax.shaped at k;rw[if_neg zs_]at k;simp only[Bool.and_eq_true,Bool.or_eq_true]at k;obtain⟨⟨⟨⟨⟨⟨d,e⟩,_⟩,_⟩,_⟩,_⟩,_⟩:=k;constructor
 ·rcases d with d|d
  ·exact (Con.check_zero (pV_ h d)).2
  rw[rp_ d];omega
 rcases e with e|e
 ·exact (Con.check_zero (rD_ h e)).2
 rw[rp_ e];omega
theorem oY_ {x:Ax} (d:x.ok) (e:x.check=0):Tri Tryz.prog 29 #[x.val] [] [x.memF,ci_] (fun _:Unit=>.int .i64 0) (fun _=>[]) (fun _=>[]):=by
  have h:=hL_ x d;rw[e]at h;exact h
theorem py_ (s:Str):Fn0 Tryz.prog 175 #[str s] (.bool false):=by
  refine i_ Tryz.func175 rfl rfl Tryz.ntmps175 rfl fun d=>?_;refine Zz 9 ?_;refine e_ (ar_ (cJ_ rfl rfl) (show _=Value.bool false from congrArg Value.bool zB_)) rfl (Zz 4 ?_);exact ae_ Tryz.results175 () rfl m_ zt
theorem jY_ {a b:Str} (h:str a=str b):a=b:=by
  have d:=congrArg (fun z:ByteArray=>z.data.toList) (Value.string.inj h);simpa using d
def rK_ (P:Program) (gf:FuncId) (caps:List Value) (Hc:Hp) (Rc:List Str→Prop):Prop:=∀ {σ:Type} (l:Nat) (Gj:σ→Hp) (lst:σ→List Str),(∀ s x,(lst s).length<100000000→jg_ P l (str x) (Gj s) [] (fun _:{s':σ // lst s'=lst s++[x]}=>.bool true) (fun s'=>Gj s'.1) (fun _=>[]))→∀ s0,lst s0=[] →
  Tri P gf (.func (.yield l) #[] #[]::caps).toArray (Hc++Gj s0) [] (fun _:{s':σ // Rc (lst s')}=>.tuple #[]) (fun s'=>Hc++Gj s'.1) (fun _=>[])
theorem xY_ {C Q:Hp} {c d e:Nat×Obj}:(C++(c::Q)++[d,e]).Perm (e::(C++(c::(Q++[d])))):=by
  have h:C++(c::Q)++[d,e]=(C++(c::(Q++[d])))++[e]:=by simp
  rw[h];exact List.perm_append_comm
theorem pf_D10 {C Q:Hp} {c d:Nat×Obj}:(C++(c::(Q++[d]))).Perm ((C++Q)++[c,d]):=by
  have e:(C++Q)++[c,d]=C++((Q++[c])++[d]):=by simp
  rw[e];exact List.Perm.append_left C (List.Perm.append_right [d] (show ([c]++Q).Perm _ from List.perm_append_comm))
theorem tT_ {L q:List Str} (h:L.Perm q) (k:q.Nodup):aS_ L=aS_ q:=by
 have strict:∀ l:List Str,l.Nodup→SrS (aS_ l):=fun l hl=>by
   have e:=fY_ l;have d:(aS_ l).Nodup:=(List.mergeSort_perm _ _).nodup_iff.2 hl;unfold List.Nodup at d;refine List.Pairwise.imp (fun {a b} hab=>?_) (e.and d)
   by_cases g:a<b
   · exact g
   · exact absurd (List.le_antisymm hab.1 (List.not_lt.1 g)) hab.2
 exact gv_ (strict L (h.nodup_iff.2 k)) (strict q k) fun x=>by rw[List.mem_mergeSort,List.mem_mergeSort,h.mem_iff]
theorem wf_ {σ:Type} {l:Nat} {I:σ→Hp} {h:σ→List Str} (W:∀ s x,(h s).length<100000000→jg_ Tryz.prog l (str x) (I s) [] (fun _:{B:σ // h B=h s++[x]}=>.bool true) (fun B=>I B.1) (fun _=>[])) (M:σ) (R:h M=[]) (C H c:Nat) (es:Array MapEntry) (q:List Str) (hE:KeyE str es q) (hB:Born es c) (S:q.length≤100000000):Tri Tryz.prog 96 #[.func (.yield l) #[] #[],zp_ H 0] ((H,.cells #[.map (some C)] 33 (0,0))::(C,.map es c)::I M) [] (fun _:{B:σ // (h B).Perm q}=>.tuple #[]) (fun B=>(H,.cells #[.map (some C)] 33 (0,0))::(C,.map es c)::I B.1) (fun _=>[]):=by
 refine i_ Tryz.func96 rfl rfl Tryz.ntmps96 rfl fun T=>?_;refine Zz 3 ?_;refine oE_ 1 Tryz.underlying33 rfl rfl rfl fun K=>Zz 3 ?_
 refine M_ (ι:={y:List Str×Array Nat×Nat×σ // ItS str es y.2.1 y.1∧c≤y.2.2.1∧h y.2.2.2=y.1∧(∀ z∈y.1,z∈q)}) (fun y=>[(0,.func (.yield l) #[] #[]),(1,zp_ H 0),(5,zp_ K 0)]) (fun y=>((K,.mapIter (some C) c y.1.2.1 y.1.2.2.1)::((H,.cells #[.map (some C)] 33 (0,0))::((C,.map es c)::(I y.1.2.2.2))))) (fun y=>[]) (fun y=>List.length q - List.length y.1.1) ⟨([],#[],c,M),ItS.nil,Nat.le_refl _,R,by simp⟩ zl zp zt ?_;rintro ⟨⟨done,F,V,s⟩,O,J,E,v⟩;dsimp only at O J E v ⊢;refine Zz 2 ?_;refine qJ_ 0 2 rfl rfl rfl hB.lt J rfl (fun P=>?_) (fun e U=>?_)
 ·refine Zz 7 ?_
  exact co_ Tryz.results96 ⟨s,by rw[E];exact O.endK (fun _ _=>jY_) hE P⟩ rfl zp zt
 obtain⟨k,G,X,N,L,A⟩:=O.stepK (fun _ _=>jY_) hE hB U;refine Zz 10 ?_;refine e_ (ar_ (ok_ 0 2 rfl rfl rfl L hB) (show _=Value.tuple #[str k,e.val] by rw[N])) rfl (Zz 5 ?_);refine ka_ (ι:={B:σ // h B=h s++[k]}) (fun _=>[(0,.func (.yield l) #[] #[]),(1,zp_ H 0),(5,zp_ K 0),(13,.bool false)]) (fun z=>((K,.mapIter (some C) c (F.push e.born) c)::((H,.cells #[.map (some C)] 33 (0,0))::((C,.map es c)::(I z.1))))) (fun _=>[]) ?_ ?_
 ·refine aI_ ?_
  refine Q_ da_ (al_ rfl) rfl rfl ?_;refine Q_ da_ (al_ rfl) rfl rfl ?_;refine hy_ (W s k zS_) rfl rfl (c_ (c_ C_)) zt rfl fun z=>?_;refine Q_ da_ (aw_ rfl) rfl rfl ?_;refine bp_ ?_;refine dt_ rfl ?_;exact fm_ z zl zp zh
 rintro ⟨B,Q⟩;dsimp only;refine Zz 4 ?_;exact w_ ⟨(done++[k],F.push e.born,c,B),A,Nat.le_refl _,by rw[Q,E],fun z d=>by rcases List.mem_append.1 d with d|d;exact v z d;rw[List.mem_singleton]at d;exact d▸G⟩ zQ_ zl (j_ d_ (j_ d_ (j_ d_ ac_))) zt
theorem iV_ (e h c:Nat) (es:Array MapEntry) (q:List Str) (hE:KeyE str es q) (hB:Born es c) (d:q.length≤100000000):rK_ Tryz.prog 96 [zp_ h 0] [(h,.cells #[.map (some e)] 33 (0,0)),(e,.map es c)] (fun L=>L.Perm q) :=
  fun l y v x m k=>wf_ x m k e h c es q hE hB d
theorem iU_ (e:Nat):Tri Tryz.prog 50 #[.map (some e)] [] [] (fun d:Nat=>.func (.func 96) #[] #[zp_ d 0]) (fun d=>[(d,.cells #[.map (some e)] 33 (0,0))]) (fun _=>[]):=by
  refine i_ Tryz.func50 rfl rfl Tryz.ntmps50 rfl fun k=>?_;refine Zz 2 ?_;refine aa_ rfl rfl fun h=>Zz 5 ?_
  refine e_ (bK_ rfl rfl) rfl (Zz 4 ?_);exact ae_ Tryz.results50 h rfl (F:=[]) (.refl _) zt
theorem we_ {σ:Type} {l:Nat} {I:σ→Hp} {h:σ→List Str} (W:∀ s x,(h s).length<100000000→jg_ Tryz.prog l (str x) (I s) [] (fun _:{B:σ // h B=h s++[x]}=>.bool true) (fun B=>I B.1) (fun _=>[])) (M:σ) (R:h M=[]) (C H c:Nat) (es:Array MapEntry) (q:List Str) (hE:KeyE str es q) (hB:Born es c) (S:q.length≤100000000):Tri Tryz.prog 151 #[.func (.yield l) #[] #[],zp_ H 0] ((H,.cells #[.map (some C)] 105 (0,0))::(C,.map es c)::I M) [] (fun _:{B:σ // (h B).Perm q}=>.tuple #[]) (fun B=>(H,.cells #[.map (some C)] 105 (0,0))::(C,.map es c)::I B.1) (fun _=>[]):=by
 refine i_ Tryz.func151 rfl rfl Tryz.ntmps151 rfl fun T=>?_;refine Zz 3 ?_;refine oE_ 1 Tryz.underlying105 rfl rfl rfl fun K=>Zz 3 ?_
 refine M_ (ι:={y:List Str×Array Nat×Nat×σ // ItS str es y.2.1 y.1∧c≤y.2.2.1∧h y.2.2.2=y.1∧(∀ z∈y.1,z∈q)}) (fun y=>[(0,.func (.yield l) #[] #[]),(1,zp_ H 0),(5,zp_ K 0)]) (fun y=>((K,.mapIter (some C) c y.1.2.1 y.1.2.2.1)::((H,.cells #[.map (some C)] 105 (0,0))::((C,.map es c)::(I y.1.2.2.2))))) (fun y=>[]) (fun y=>List.length q - List.length y.1.1) ⟨([],#[],c,M),ItS.nil,Nat.le_refl _,R,by simp⟩ zl zp zt ?_;rintro ⟨⟨done,F,V,s⟩,O,J,E,v⟩;dsimp only at O J E v ⊢;refine Zz 2 ?_;refine qJ_ 0 2 rfl rfl rfl hB.lt J rfl (fun P=>?_) (fun e U=>?_)
 ·refine Zz 7 ?_
  exact co_ Tryz.results151 ⟨s,by rw[E];exact O.endK (fun _ _=>jY_) hE P⟩ rfl zp zt
 obtain⟨k,G,X,N,L,A⟩:=O.stepK (fun _ _=>jY_) hE hB U;refine Zz 10 ?_;refine e_ (ar_ (ok_ 0 2 rfl rfl rfl L hB) (show _=Value.tuple #[str k,e.val] by rw[N])) rfl (Zz 5 ?_);refine ka_ (ι:={B:σ // h B=h s++[k]}) (fun _=>[(0,.func (.yield l) #[] #[]),(1,zp_ H 0),(5,zp_ K 0),(13,.bool false)]) (fun z=>((K,.mapIter (some C) c (F.push e.born) c)::((H,.cells #[.map (some C)] 105 (0,0))::((C,.map es c)::(I z.1))))) (fun _=>[]) ?_ ?_
 ·refine aI_ ?_
  refine Q_ da_ (al_ rfl) rfl rfl ?_;refine Q_ da_ (al_ rfl) rfl rfl ?_;refine hy_ (W s k zS_) rfl rfl (c_ (c_ C_)) zt rfl fun z=>?_;refine Q_ da_ (aw_ rfl) rfl rfl ?_;refine bp_ ?_;refine dt_ rfl ?_;exact fm_ z zl zp zh
 rintro ⟨B,Q⟩;dsimp only;refine Zz 4 ?_;exact w_ ⟨(done++[k],F.push e.born,c,B),A,Nat.le_refl _,by rw[Q,E],fun z d=>by rcases List.mem_append.1 d with d|d;exact v z d;rw[List.mem_singleton]at d;exact d▸G⟩ zQ_ zl (j_ d_ (j_ d_ (j_ d_ ac_))) zt
theorem yo_ (e h c:Nat) (es:Array MapEntry) (q:List Str) (hE:KeyE str es q) (hB:Born es c) (d:q.length≤100000000):rK_ Tryz.prog 151 [zp_ h 0] [(h,.cells #[.map (some e)] 105 (0,0)),(e,.map es c)] (fun L=>L.Perm q) :=
  fun l y v x m k=>we_ x m k e h c es q hE hB d
theorem yj_ (e:Nat):Tri Tryz.prog 104 #[.map (some e)] [] [] (fun d:Nat=>.func (.func 151) #[] #[zp_ d 0]) (fun d=>[(d,.cells #[.map (some e)] 105 (0,0))]) (fun _=>[]):=by
  refine i_ Tryz.func104 rfl rfl Tryz.ntmps104 rfl fun k=>?_;refine Zz 2 ?_;refine aa_ rfl rfl fun h=>Zz 5 ?_
  refine e_ (bK_ rfl rfl) rfl (Zz 4 ?_);exact ae_ Tryz.results104 h rfl (F:=[]) (.refl _) zt
theorem vO_ {C Q G:Hp} {c:Nat×Obj}:(C++(c::Q)++G).Perm (c::(C++(Q++G))):=by
  have d:C++(c::Q)++G=C++([c]++(Q++G)):=by simp
  rw[d,← List.append_assoc];exact List.Perm.append_right (Q++G) (List.perm_append_comm (l₁:=C) (l₂:=[c])) |>.trans zB_
theorem uN_ (K:FuncId) (caps:List Value) (Hc:Hp) (Rc:List Str→Prop) (O:rK_ Tryz.prog K caps Hc Rc):Tri Tryz.prog 143 #[.slice none 0 0,.func (.func K) #[] caps.toArray] Hc [] (fun y:{y:Value×Hp×List Str // ay_ 9 1 y.1 y.2.2.length (y.2.2.flatMap ag_) y.2.1∧Rc y.2.2}=>y.1.1) (fun y=>Hc++y.1.2.1) (fun _=>[]):=by
 refine hp_ Tryz.func143 rfl rfl Tryz.ntmps143 rfl fun B=>?_;refine Zz 2 ?_;refine aa_ rfl rfl fun d=>Zz 10 ?_
 refine bs_ [(2,zp_ d 0),(6,.func (.func K) #[] caps.toArray)] zl ?_;refine rZ_ (σ:={y:Value×Hp×List Str // ay_ 9 1 y.1 y.2.2.length (y.2.2.flatMap ag_) y.2.1}) (α:=Str) (xv:=fun x=>str x) (good:=fun s _=>s.1.2.2.length<100000000) (nx:=fun x s S=>S.1.2.2=s.1.2.2++[x]) (Rc:=fun s=>Rc s.1.2.2) (Γi:=[]) (Hj:=fun y=>(d,.cells #[y.1.1] 25 (0,0))::y.1.2.1) (Hc:=Hc) (caps:=caps) ⟨(.slice none 0 0,[],[]),ay_.nil _ _⟩ rfl (@List.perm_append_comm _ [_] _) zt ?_ ?_ ?_
 ·rintro l D W T P N Z E q ⟨⟨sv,m,L⟩,A⟩ x I
  dsimp only at A I ⊢;refine pZ_ (ι:=Unit) (Hj:=fun y:{y:Value×Hp×List Str // ay_ 9 1 y.1 y.2.2.length (y.2.2.flatMap ag_) y.2.1}=>(d,.cells #[y.1.1] 25 (0,0))::y.1.2.1) (s:=⟨(sv,m,L),A⟩) (ok:=fun S=>S.1.2.2=L++[x]) (Γ:=[]) (fun _=>[(2,zp_ d 0),(5,str x)]) (fun _=>(d,.cells #[sv] 25 (0,0))::m) T P N Z rfl ?_ ?_
  ·intro n B M Q
   rw[E];dsimp only;refine gK_.2 (y_ (H':=(d,.cells #[sv] 25 (0,0))::(m++Q)) zB_ (gK_.1 ?_));refine aI_ ?_;refine Q_ (L_ _) (az_ rfl) rfl rfl ?_;refine bp_ ?_;refine dt_ rfl ?_;exact fm_ () zl (F:=[]) zal_ zh
  intro n B M Q _;rw[q];refine gK_.2 (y_ (H':=(d,.cells #[sv] 25 (0,0))::(m++Q)) zB_ (gK_.1 ?_));refine eu_ ?_;refine aI_ ?_;refine Q_ (L_ _) (aE_ 0 mc_ rfl rfl rfl) rfl rfl ?_;refine Q_ (L_ _) (al_ rfl) rfl rfl ?_;refine us_ (L_ _) l_ E_ ax_ rfl rfl rfl rfl rfl rfl fun a0=>?_;refine qP_ (L_ _) (news:=List.flatMap ag_ [x]) cE_ A rfl rfl zp rfl (aO_ 0 rfl) (fun u V=>aA_ cj_ V) zE_ zs_ rfl fun H C J=>?_;have k:=zsa J;refine gd_ (R_ (f_ d_) (bb_ (f_ d_))) ?_;refine oa_ (L_ _) 1 k bP_ rfl rfl rfl rfl ?_;refine bp_ ?_;refine dt_ rfl ?_;exact sb_ ⟨(H,C,(L++[x])),k⟩ rfl (pf_as3 (j_ (c_ d_) (z_ (c_ t_) (z_ C_ d_))))
 ·intro l X hY
  exact O l X (fun y=>y.1.2.2) (fun s x h=>hY s x h) ⟨(.slice none 0 0,[],[]),ay_.nil _ _⟩ rfl
 rintro ⟨⟨sv,m,L⟩,A⟩ U D l r;dsimp only at U A ⊢;refine cR_ (H':=(d,.cells #[sv] 25 (0,0))::(Hc++(m++HLp l D r))) (F:=[]) (by rw[List.append_nil];exact vO_) zh ?_;refine cd_ rfl ?_;refine cY_ ?_;refine aI_ ?_;refine Q_ da_ (aE_ 0 mc_ rfl rfl rfl) rfl rfl ?_;refine Q_ da_ (az_ rfl) rfl rfl ?_;refine bp_ ?_;refine cd_ rfl ?_;refine mX_ ?_;exact zg_ (G:=Hc++((d,.cells #[sv] 25 (0,0))::(m++[(l,.loop r)]))) ⟨(sv,m,L),A,U⟩ (fun a v R Y=>by have e:=R.val 4 sv rfl;simp[results,Tryz.results143,e]) (vO_.symm.trans (by unfold HLp;exact xY_)) ⟨_,pf_D10⟩ rfl
theorem sH_ (m:FuncId) (caps:List Value) (Hc:Hp) (Rc:List Str→Prop) (v:rK_ Tryz.prog m caps Hc Rc):Tri Tryz.prog 94 #[.func (.func m) #[] caps.toArray] Hc [] (fun y:{y:Value×Hp×List Str // ay_ 9 1 y.1 y.2.2.length (y.2.2.flatMap ag_) y.2.1∧Rc y.2.2}=>y.1.1) (fun y=>Hc++y.1.2.1) (fun _=>[]):=by
  refine i_ Tryz.func94 rfl rfl Tryz.ntmps94 rfl fun x=>?_;refine Zz 8 ?_;refine g_ (uN_ m caps Hc Rc v) rfl ac_ zt rfl fun⟨⟨h,k,q⟩,d,e⟩=>?_;dsimp only;dsimp only at d e ⊢;simp only[List.append_assoc,List.append_nil];refine Zz 4 ?_;exact ae_ Tryz.results94 ⟨(h,k,q),d,e⟩ rfl zp zt
theorem fd_ (H:FuncId) (caps:List Value) (Hc:Hp) (q:List Str) (J:q.Nodup) (M:q.length≤100000000) (I:rK_ Tryz.prog H caps Hc (fun L=>L.Perm q)):Tri Tryz.prog 49 #[.func (.func H) #[] caps.toArray] Hc [] (fun y:{y:Option Addr×Nat // (aS_ q).length≤y.2∧y.2≤maxLen∧(y.1=none→y.2=0)}=>.slice y.1.1 (aS_ q).length y.1.2) (fun _=>Hc) (fun y=>[ah_ y.1.1 ((aS_ q).flatMap ag_)]):=by
  refine i_ Tryz.func49 rfl rfl Tryz.ntmps49 rfl fun N=>?_;refine Zz 8 ?_;refine g_ (sH_ H caps Hc (fun L=>L.Perm q) I) rfl ac_ zt rfl fun⟨⟨F,K,A⟩,m,d⟩=>?_;dsimp only;dsimp only at m d ⊢;simp only[List.append_assoc,List.append_nil];refine Zz 6 ?_;refine g_ (mo_ m (by have:=d.length_eq;omega)) rfl aP_ zt rfl fun⟨C,E⟩=>?_;dsimp only;have B:ay_ 9 1 F (List.length (aS_ q)) (List.flatMap ag_ (aS_ q)) C:=by rw[← tT_ d J,show (aS_ A).length=A.length from List.length_mergeSort _];exact E
  refine Zz 9 ?_;refine bl_ B t_ fun x G v e h k=>?_;exact ae_ Tryz.results49 ⟨(x,G),e,h,k⟩ (fM_ rfl v) ac_ zf
theorem bi_:KeyT Tryz.prog 9 str:=qZ_ aF_
theorem ox_ (l:List Ax) (ad:Option Addr) (cap:Nat) (A:∀ x∈l,x.ok) (E:∀ x∈l,x.check=0) (G:l.length≤100000):Tri Tryz.prog 65 #[.slice ad (List.length l) cap] [] [ej_ ad l,ci_] (fun _:Unit=>.int .i64 0) (fun _=>[]) (fun _=>[]):=by
 refine i_ Tryz.func65 rfl rfl Tryz.ntmps65 rfl fun C=>?_;refine Zz 14 ?_;refine M_ (ι:={y:Nat // y≤List.length l}) (fun y=>[(2,.int .i64 0),(6,.slice ad (List.length l) cap),(7,.int .i64 (List.length l:Int)),(8,.int .i64 (y.1:Int))]) (fun y=>([])) (fun y=>[ej_ ad l,ci_]) (fun y=>List.length l - y.1) ⟨(0:Nat),by simp⟩ zl m_ zh ?_;rintro ⟨i,m⟩;dsimp only at m ⊢;refine Zi 2 (fun q=>?_) fun q=>?_
 ·refine Zz 12 ?_
  exact ae_ Tryz.results65 () rfl m_ zt
 obtain⟨k,e,B,d⟩:=zge (show i<List.length l by omega);refine Zz 12 ?_;refine G_ cI_ rfl fun F=>u_ 0 br_ rfl rfl rfl rfl rfl rfl (Zz 5 ?_)
 refine g_ (oY_ (A e d) (E e d)) rfl m_ (fun v _ h=>by exact⟨(h.1.2 e d),h.2.1,trivial⟩) rfl fun _=>Zz 6 ?_
 refine e_ (ar_ (ce_ rfl rfl) (show _=Value.bool false from congrArg Value.bool zw_)) rfl (Zz 10 ?_);exact w_ ⟨i+1,k⟩ zt_ zl m_ zh
theorem gp_ {G:Prop} (h:G:=by
 have d:Ax.selfs x=m:=by rw[hm,List.take_of_length_le zs_];rfl
 exact ae_ Tryz.results107 () (n_ rfl (by unfold Ax.exm;rw[k,d];rw[Bool.eq_iff_iff];simp only[Bool.and_eq_true,Bool.or_eq_true,Bool.not_eq_true',decide_eq_true_eq,decide_eq_false_iff_not,Option.some.injEq,beq_iff_eq,q,true_and,false_and,true_iff,Bool.false_eq_true,false_iff,reduceCtorEq];omega)) m_ zt):G:=h
theorem wB_ (x:Ax) (i:Nat) (H:x.ok) (hi:i<x.roles.length):Tri Tryz.prog 107 #[Ax.val x,.int .i64 (i:Int)] [] [Ax.memF x] (fun _:Unit=>.bool (x.exm i)) (fun _=>[]) (fun _=>[]):=by
 refine i_ Tryz.func107 rfl rfl Tryz.ntmps107 rfl fun O=>?_;have Q:=H.len;have P:=H.cap;obtain⟨R,k⟩:∃ r,x.roles[i]? = some r:=⟨_,List.getElem?_eq_getElem hi⟩;refine Zz 2 ?_;refine aa_ rfl rfl fun F=>Zz 6 ?_
 refine K_ 0 [0,1,2,3,4,5,6,7] zk zs (Zi 7 (fun B=>?_) fun B=>?_)
 ·have q:R=Ax.role x:=by simpa using B
  refine Zz 29 ?_;refine M_ (ι:={y:Nat×Nat // y.1≤List.length (Ax.roles x)∧y.2=List.countP (fun r=>decide (r=x.role)) (List.take y.1 (Ax.roles x))}) (fun y=>[(1,.int .i64 (i:Int)),(2,zp_ F 0),(4,.bool false),(5,.int .i64 (List.length (Ax.roles x):Int)),(6,.int .i64 (y.1.2:Int)),(21,.slice (Ax.ad x) (List.length (Ax.roles x)) (Ax.cap x)),(22,.int .i64 (List.length (Ax.roles x):Int)),(23,.int .i64 (y.1.1:Int))]) (fun y=>((F,.cells (Ax.cells x).toArray 42 (0,0))::[])) (fun y=>[Ax.memF x]) (fun y=>List.length (Ax.roles x) - y.1.1) ⟨((0:Nat),(0:Nat)),by simp,zB_⟩ zl d_ zh ?_;rintro ⟨⟨j,m⟩,I,hm⟩;dsimp only at I hm ⊢;refine Zi 2 (fun G=>?_) fun G=>?_
  ·refine Zi 9 (fun e=>?_) fun e=>?_
   ·refine Zi 14 (fun A=>?_) fun A=>?_
    ·refine Zz 11 ?_
     exact gp_
    refine Zz 5 ?_;refine B_ (bt_ rfl rfl) rfl fun M C=>Zz 7 ?_
    have d:Ax.selfs x=m:=by rw[hm,List.take_of_length_le zs_];rfl
    exact ae_ Tryz.results107 () (n_ rfl (by rw[← C];unfold Ax.exm;rw[k,d];rw[Bool.eq_iff_iff];simp only[Bool.and_eq_true,Bool.or_eq_true,Bool.not_eq_true',decide_eq_true_eq,decide_eq_false_iff_not,Option.some.injEq,beq_iff_eq,q,true_and,false_and,true_iff,Bool.false_eq_true,false_iff,reduceCtorEq];omega)) m_ zt
   refine Zi 4 (fun A=>?_) fun A=>?_
   ·refine Zz 7 ?_
    refine e_ (ar_ (bc_ rfl rfl rfl (cm_ zs_ zs_)) (show _=Value.int .i64 ((List.length (Ax.roles x):Int) - 1) from rfl)) rfl (aQ_ rfl rfl ?_);refine Zi 0 (fun C=>?_) fun C=>?_
    ·refine Zi 7 (fun J=>?_) fun J=>?_
     ·refine Zz 11 ?_
      exact gp_
     refine Zz 5 ?_;refine B_ (bt_ rfl rfl) rfl fun M E=>Zz 7 ?_
     have d:Ax.selfs x=m:=by rw[hm,List.take_of_length_le zs_];rfl
     exact ae_ Tryz.results107 () (n_ rfl (by rw[← E];unfold Ax.exm;rw[k,d];rw[Bool.eq_iff_iff];simp only[Bool.and_eq_true,Bool.or_eq_true,Bool.not_eq_true',decide_eq_true_eq,decide_eq_false_iff_not,Option.some.injEq,beq_iff_eq,q,true_and,false_and,true_iff,Bool.false_eq_true,false_iff,reduceCtorEq];omega)) m_ zt
    refine Zz 15 ?_;exact gp_
   refine Zz 21 ?_;exact gp_
  have h:j<List.length (Ax.roles x):=by omega
  obtain⟨N,v⟩:∃ L,(Ax.roles x)[j]? = some L:=⟨_,List.getElem?_eq_getElem h⟩;have K:N∈(Ax.roles x):=List.mem_of_getElem? v;refine Zi 20 (fun e=>?_) fun e=>?_
  ·refine Zz 10 ?_
   exact w_ ⟨(j+1,m),h,zbb_⟩ zt_ zl d_ zh
  refine Zz 5 ?_;refine e_ (ar_ (bc_ rfl rfl rfl (cm_ zab_ zab_)) (show _=Value.int .i64 ((m+1:Nat):Int) from congrArg _ zs_)) rfl ?_;refine Zz 8 ?_;exact w_ ⟨(j+1,(m+1)),h,zbb_⟩ zt_ zl d_ zh
 refine Zz 10 ?_;exact ae_ Tryz.results107 () (n_ rfl (by unfold Ax.exm;rw[k];simp[B])) m_ zt
theorem lo_ {G:Prop} (h:G:=by
 refine qI_ (k:=r) (s:=s) (e:=e) bi_ (.inr rfl) H_ F h (by rw[q];simp) rfl rfl rfl ac_ fun x d=>?_;refine y_ dS_ (Zz 2 ?_);exact co_ Tryz.results106 ⟨(ks,x),d,fun k hk=>.inl hk⟩ rfl ac_ zt):G:=h
theorem lp_ {G:Prop} (h:G:=by
 refine qI_ (k:=r) (s:=s) (e:=e) bi_ (.inr rfl) H_ d v (by rw[q];simp) rfl rfl rfl ac_ fun B A=>?_;refine y_ dS_ (Zz 2 ?_);exact co_ Tryz.results106 ⟨((ks++[(r,C)]),B),A,fun k hk=>by rw[List.map_append,List.mem_append]at hk;exact hk.imp id zB_⟩ rfl ac_ zt):G:=h
theorem tK_ (r s:Str) (e:Bool) (cb H:Nat) (ks:List (Str×Nat)) (S:List RSt) (Hx:Hp) (F:MmO H ks S Hx):Tri Tryz.prog 106 #[str r,str s,.bool e,zp_ cb 0] Hx [bW_ cb (.cells #[.map (some H)] 105 (0,0))] (fun _:{y:List (Str×Nat)×Hp // MmO H y.1 (S++[(r,s,e)]) y.2∧∀ k∈y.1.map (·.1),k∈ks.map (·.1)∨k=r}=>.tuple #[]) (fun y=>y.1.2) (fun _=>[]):=by
 refine i_ Tryz.func106 rfl rfl Tryz.ntmps106 rfl fun J=>?_;refine Zz 5 ?_;refine e_ (eY_ (k:=r) bi_ dp_ dU_ F rfl rfl ac_) rfl (B_ (uV_ Tryz.underlying33 rfl rfl) rfl fun G m=>Zz 2 ?_);cases G
 ·replace m:=zdf m
  obtain⟨I,h⟩:=Option.ne_none_iff_exists'.1 m;refine Zz 6 ?_;refine e_ (ar_ (eY_ (k:=r) bi_ dp_ dU_ F rfl rfl ac_) (congrArg lZ_ h)) rfl (Zz 3 ?_);refine e_ (ar_ (eY_ (k:=r) bi_ dp_ dU_ F rfl rfl ac_) (congrArg lZ_ h)) rfl (Zz 1 ?_);refine B_ (jv_ (k:=r) (s:=s) bi_ H_ as_ F h rfl rfl ac_) rfl fun E q=>Zz 1 ?_
  cases E
  ·refine Zz 3 ?_
   exact lo_
  refine Zz 2 ?_;exact lo_
 replace m:=zdt m;refine Zz 4 ?_;refine aY_ rfl fun C=>vR_ (k:=r) bi_ (.inr rfl) dp_ F m rfl rfl rfl (j_ d_ ac_) fun x d=>y_ dS_ ?_
 have v:gj_ (ks++[(r,C)]) r=some C:=vi_ m;refine Zz 5 ?_;refine e_ (ar_ (eY_ (k:=r) bi_ dp_ dU_ d rfl rfl ac_) (congrArg lZ_ v)) rfl (Zz 3 ?_);refine e_ (ar_ (eY_ (k:=r) bi_ dp_ dU_ d rfl rfl ac_) (congrArg lZ_ v)) rfl (Zz 1 ?_);refine B_ (jv_ (k:=r) (s:=s) bi_ H_ as_ d v rfl rfl ac_) rfl fun E q=>Zz 1 ?_
 cases E
 ·refine Zz 3 ?_
  exact lp_
 refine Zz 2 ?_;exact lp_
theorem xA_ (l:List Ax) (ad:Option Addr) (cap:Nat) (a4:∀ x∈l,x.ok) (hC:∀ x∈l,x.check=0) (hll:l.length≤100000):Tri Tryz.prog 67 #[.slice ad (List.length l) cap] [] [ej_ ad l] (fun y:{y:Nat×List (Str×Nat)×Hp // MmO y.1 y.2.1 (cD_ l) y.2.2∧Frm y.2.1 (cD_ l)}=>.map (some y.1.1)) (fun y=>y.1.2.2) (fun _=>[]):=by
 refine i_ Tryz.func67 rfl rfl Tryz.ntmps67 rfl fun a6=>?_;refine Zz 7 ?_;refine aY_ rfl fun G=>G_ Tryz.zeroValue105 rfl fun K=>u_ 0 Tryz.sizeOf105 rfl rfl rfl rfl rfl rfl (Zz 4 ?_)
 refine e_ (bK_ rfl rfl) rfl (Zz 12 ?_);refine iy_ 0 rfl ?_;refine M_ (ι:={y:Nat×List (Str×Nat)×Hp // y.1≤List.length l∧MmO G y.2.1 (cD_ (List.take y.1 l)) y.2.2∧Frm y.2.1 (cD_ (List.take y.1 l))}) (fun y=>[(2,.map none),(3,zp_ K 0),(4,.func (.func 106) #[] #[zp_ K 0]),(11,.slice ad (List.length l) cap),(12,.int .i64 (List.length l:Int)),(13,.int .i64 (y.1.1:Int))]) (fun y=>(y.1.2.2)) (fun y=>[bW_ K (.cells #[.map (some G)] 105 (0,0)),ej_ ad l]) (fun y=>List.length l - y.1.1) ⟨((0:Nat),[],[(G,.map #[] 0)]),by simp,(by rw[List.take_zero];exact MmO.nil G 0),Frm.nil⟩ zl d_ zh ?_;rintro ⟨⟨i,L,I⟩,X,C,E⟩;dsimp only at X C E ⊢;refine Zi 2 (fun a1=>?_) fun a1=>?_
 ·refine Zz 13 ?_
  have a3:List.take i l=l:=List.take_of_length_le zs_;rw[a3]at C E;exact ae_ Tryz.results67 ⟨(G,L,I),C,E⟩ rfl ac_ zt
 obtain⟨H,d,B,k⟩:=zge (show i<List.length l by omega);have Z:=Ax.good_of (hC d k);refine Zz 12 ?_;refine G_ cI_ rfl fun W=>u_ 0 br_ rfl rfl rfl rfl rfl rfl (Zi 11 (fun A=>?_) fun A=>?_)
 ·refine Zi 6 (fun m=>?_) fun m=>?_
  ·refine Zz 11 ?_
   exact w_ ⟨(i+1,L,I),H,(by rw[dF_ B,Ax.steps_no A m,List.append_nil];exact C),(by rw[dF_ B,Ax.steps_no A m,List.append_nil];exact E)⟩ zt_ zl C_ zh
  have hch:=Z.chain m;refine Zz 13 ?_;refine M_ (ι:={y:Nat×List (Str×Nat)×Hp // y.1≤List.length (Ax.roles d)∧MmO G y.2.1 ((cD_ (List.take i l))++Ax.chs d y.1) y.2.2∧Frm y.2.1 ((cD_ (List.take i l))++Ax.chs d y.1)}) (fun y=>[(2,.map none),(3,zp_ K 0),(4,.func (.func 106) #[] #[zp_ K 0]),(11,.slice ad (List.length l) cap),(12,.int .i64 (List.length l:Int)),(13,.int .i64 (i:Int)),(6,zp_ W 0),(39,.slice (Ax.ad d) (List.length (Ax.roles d)) (Ax.cap d)),(40,.int .i64 (List.length (Ax.roles d):Int)),(41,.int .i64 (y.1.1:Int))]) (fun y=>((W,.cells (Ax.cells d).toArray 42 (0,0))::y.1.2.2)) (fun y=>[bW_ K (.cells #[.map (some G)] 105 (0,0)),ej_ ad l]) (fun y=>List.length (Ax.roles d) - y.1.1) ⟨((0:Nat),L,I),by simp,(by rw[Ax.chs,List.append_nil];exact C),E.more⟩ zl zp zh ?_;rintro ⟨⟨j,Q,T⟩,Y,N,M⟩;dsimp only at Y N M ⊢;refine Zi 2 (fun a0=>?_) fun a0=>?_
  ·refine Zz 11 ?_
   exact w_ ⟨(i+1,Q,T),H,(by rw[dF_ B,Ax.steps_six m,show List.length (Ax.roles d)=j from zs_];exact N),(by rw[dF_ B,Ax.steps_six m,show List.length (Ax.roles d)=j from zs_];exact M)⟩ zt_ zl C_ zh
  have q:j<List.length (Ax.roles d):=by omega
  obtain⟨S,e⟩:∃ V,(Ax.roles d)[j]? = some V:=⟨_,List.getElem?_eq_getElem q⟩;have U:S∈(Ax.roles d):=List.mem_of_getElem? e;refine Zz 11 ?_;refine e_ (S_ l_ E_ rfl rfl (fun v _ h=>au_ (n:=1) aq_ zw_ zaZ_ e) zs_ zz_) rfl ?_;refine e_ (bn_ (ad:=(Ax.ad d)) W_ rfl (fun v _ h=>by exact (h.2.1.2 d k).2.2) (o_ aq_ e 0 _ rfl)) rfl (Zz 8 ?_);refine T_ (wB_ d j (a4 d k) q) rfl m_ (fun v _ h=>by exact⟨(h.2.1.2 d k),trivial⟩) rfl fun a2 O=>e_ (aw_ rfl) rfl (Zz 2 ?_)
  cases a2
  ·refine Zz 6 ?_
   refine ap_ (tK_ S (Ax.role d) true K G Q ((cD_ (List.take i l))++Ax.chs d j) T N) rfl rfl C_ zf rfl fun⟨⟨P,R⟩,J,F⟩=>?_;dsimp only;dsimp only at J F;refine Zz 2 ?_;refine y_ (bb_ aP_) (Zz 5 ?_);exact w_ ⟨(j+1,P,R),q,(by rw[Ax.chs_no e O,← List.append_assoc];exact J),(by rw[Ax.chs_no e O,← List.append_assoc];exact M.add F)⟩ zt_ zl zp zh
  refine Zz 8 ?_;exact w_ ⟨(j+1,Q,T),q,(by rw[Ax.chs_yes e O];exact N),(by rw[Ax.chs_yes e O];exact M)⟩ zt_ zl zp zh
 have a5:=Z.one A;have q:0<List.length (Ax.roles d):=by omega
 obtain⟨S,e⟩:∃ V,(Ax.roles d)[0]? = some V:=⟨_,List.getElem?_eq_getElem q⟩;have U:S∈(Ax.roles d):=List.mem_of_getElem? e;refine Zz 6 ?_;refine K_ 0 [0,1,2,3,4,5,6] zk zs (Zz 2 ?_);refine N_ rfl (S_ l_ E_ rfl rfl (fun v _ h=>au_ (n:=1) aq_ zw_ zaZ_ e) zs_ zz_) rfl ?_;refine N_ rfl (bn_ (ad:=(Ax.ad d)) W_ rfl (fun v _ h=>by exact (h.2.1.2 d k).2.2) (o_ aq_ e 0 _ rfl)) rfl (Zi 2 (fun m=>?_) fun m=>?_)
 ·refine Zz 11 ?_
  exact w_ ⟨(i+1,L,I),H,(by rw[dF_ B,Ax.steps_same A e m,List.append_nil];exact C),(by rw[dF_ B,Ax.steps_same A e m,List.append_nil];exact E)⟩ zt_ zl C_ zh
 refine Zz 4 ?_;refine af_ ((W,.cells (Ax.cells d).toArray 42 (0,0))::[]) zk ?_;refine K_ 1 [0,1,2,3,4,5,6] zk zs (Zz 3 ?_);refine N_ rfl (S_ l_ E_ rfl rfl (fun v _ h=>au_ (n:=1) aq_ zw_ zaZ_ e) zs_ zz_) rfl ?_;refine N_ rfl (bn_ (ad:=(Ax.ad d)) W_ rfl (fun v _ h=>by exact (h.2.1.2 d k).2.2) (o_ aq_ e 0 _ rfl)) rfl (Zz 3 ?_);refine s_ 7 rfl zk (ap_ (tK_ S (Ax.role d) false K G L (cD_ (List.take i l)) I C) rfl rfl C_ zf rfl fun⟨⟨P,R⟩,J,F⟩=>?_);dsimp only;dsimp only at J F;refine Zz 5 ?_;refine y_ (bb_ aP_) (Zz 5 ?_);exact w_ ⟨(i+1,P,R),H,(by rw[dF_ B,Ax.steps_five A e m];exact J),(by rw[dF_ B,Ax.steps_five A e m];exact E.add F)⟩ zt_ zl C_ zh
def ro_ (e:Nat×Bool):List Value:=[.int .i64 (e.1:Int),.bool e.2]
theorem nN_ (e:Nat×Bool):(ro_ e).length=2:=rfl
theorem wC_ (e:Nat×Bool):(ro_ e).all Value.oneCell'=true:=rfl
structure Grw where
  st:List (Nat×Bool)
  ad:Option Addr
  cap:Nat
def Grw.cells (x:Grw):List Value:=[.slice x.ad x.st.length x.cap]
theorem Grw.cells_len (x:Grw):x.cells.length=1:=rfl
theorem Grw.cells_one (x:Grw):x.cells.all Value.oneCell'=true:=rfl
def hU_ (X:List Grw):Fct where
  p v:=∀ y∈X,bx_ v y.ad (y.st.flatMap ro_)
  mono v v' h hp y hy:=(ah_ y.ad (y.st.flatMap ro_)).mono v v' h (hp y hy)
theorem sA_ {X:List Grw} {y:Grw} {v:Vw} (h:(hU_ X).p v) (e:(ah_ y.ad (y.st.flatMap ro_)).p v):(hU_ (X++[y])).p v:=fun z d=>by
 rcases List.mem_append.1 d with d|d
 ·exact h z d
 rw[List.mem_singleton]at d;subst d;exact e
def wyC (w:Wy):List Value:=[.int .i64 (w.role:Int),.bool w.strict,.int .i64 (w.before:Int),.int .i64 (w.many:Int)]
theorem mk_ (w:Wy):(wyC w).length=4:=rfl
theorem sY_ (w:Wy):(wyC w).all Value.oneCell'=true:=rfl
theorem ip_ {l:List Str} (hl:l.Nodup):SrS (aS_ l):=by
 have e:=fY_ l;have d:(aS_ l).Nodup:=(List.mergeSort_perm _ _).nodup_iff.2 hl;unfold List.Nodup at d;refine List.Pairwise.imp (fun {a b} hab=>?_) (e.and d)
 by_cases g:a<b
 ·exact g
 exact absurd (List.le_antisymm hab.1 (List.not_lt.1 g)) hab.2
theorem SrS.nd {l:List Str} (h:SrS l):l.Nodup:=h.imp fun d e=>by subst e;exact List.lt_irrefl _ d
theorem bs_lo {R:List Str} (h:SrS R) {m:Nat} {x t:Str} (e:R[m]? = some x) (hl:x<t):∀ (a:Nat) y,a<m+1→R[a]? = some y→y<t:=fun a y k d=>by
 rcases Nat.lt_or_ge a m with g|g
 ·exact List.lt_trans (sd_ h d e g) hl
 obtain rfl:a=m:=by omega
 rw[e]at d;simp only[Option.some.injEq]at d;subst d;exact hl
theorem bs_hi {R:List Str} (h:SrS R) {m:Nat} {x t:Str} (k:R[m]? = some x) (hl:¬ x<t):∀ (a:Nat) y,m≤a→R[a]? = some y→¬ y<t:=fun a y q e d=>by
 rcases Nat.lt_or_ge m a with g|g
 ·exact hl (List.lt_trans (sd_ h k e g) d)
 obtain rfl:a=m:=by omega
 rw[k]at e;simp only[Option.some.injEq]at e;subst e;exact hl d
theorem zn_ {R:List Str} (h:SrS R) {m:Nat} {t:Str} (v:∀ (a:Nat) y,a<m→R[a]? = some y→y<t) (k:∀ (a:Nat) y,m≤a→R[a]? = some y→¬ y<t) (e:R[m]? ≠ some t):t ∉ R:=fun q=>by
 obtain⟨a,d⟩:=List.getElem?_of_mem q;rcases Nat.lt_trichotomy a m with g|g|g
 ·exact List.lt_irrefl t (v a t g d)
 ·subst g;exact e d
 have hl:=(List.getElem?_eq_some_iff.1 d).1;have hm:=List.getElem?_eq_getElem (show m<R.length by omega);exact k m _ (Nat.le_refl _) hm (sd_ h hm d g)
section
variable {P:Program} {N:Nf} {fr:Fr} {H:Hp} {Γ:List Fct} {ty:TypeId}
theorem uS_ {t B:TypeId} {x y:Operand} {q:IntKind} {m:Nat} (e:Fr.ev fr x=some (.int .u64 (m:Int))) (h:Fr.ev fr y=some (.int q 1)):Yld P N fr H Γ (.binOp .shr t x y B) ty (.int .u64 ((m / 2:Nat):Int)) :=
  fun a v d _ _ _ _ _=>by
    have k:¬ ((1:Int)<0):=by omega
    have A:(m:Int).fdiv 2=(m:Int) / 2:=Int.fdiv_eq_ediv_of_nonneg _ zw_;simp[execOp,d.ev e,d.ev h,eqGuard,binOp,Op.shift,k,IntKind.bits,A]
end
def GrR (S:List RSt) (R:List Str) (r:Str) (ss:List Str) (L:List (Nat×Bool)):Prop:=∀ j c,(j,c)∈L↔∃ s,s∈ss∧R[j]? = some s∧c=flg S r s
theorem GrR.nil {S:List RSt} {R:List Str} {r:Str}:GrR S R r [] []:=fun j c=>by simp
theorem GrR.yes {S:List RSt} {R:List Str} {r s:Str} {ss:List Str} {L:List (Nat×Bool)} {n:Nat} (h:GrR S R r ss L) (q:R.Nodup) (m:R[n]? = some s):GrR S R r (ss++[s]) (L++[(n,flg S r s)]):=fun j c=>by
 rw[List.mem_append,h,List.mem_singleton,Prod.mk.injEq];constructor
 ·rintro (⟨t,d,k,e⟩|⟨rfl,rfl⟩)
  ·exact⟨t,List.mem_append_left _ d,k,e⟩
  exact⟨s,by simp,m,rfl⟩
 rintro ⟨t,d,k,e⟩;rcases List.mem_append.1 d with d|d
 ·exact .inl ⟨t,d,k,e⟩
 rw[List.mem_singleton]at d;subst d;exact .inr ⟨vV_ q k m,e⟩
theorem GrR.no {S:List RSt} {R:List Str} {r s:Str} {ss:List Str} {L:List (Nat×Bool)} (h:GrR S R r ss L) (m:s ∉ R):GrR S R r (ss++[s]) L:=fun j c=>by
 rw[h];constructor
 ·rintro ⟨t,d,e,k⟩;exact⟨t,List.mem_append_left _ d,e,k⟩
 rintro ⟨t,d,e,k⟩;rcases List.mem_append.1 d with d|d
 ·exact⟨t,d,e,k⟩
 rw[List.mem_singleton]at d;subst d;exact absurd (List.mem_of_getElem? e) m
structure GrI (S:List RSt) (R:List Str) (X:List Grw) (i:Nat):Prop where
  len:X.length=i
  row:∀ (k:Nat) (r:Str) (y:Grw),R[k]? = some r→X[k]? = some y→GrR S R r (aS_ (ik S r)) y.st
  short:∀ y∈X,y.st.length≤S.length
theorem GrI.nil {S:List RSt} {R:List Str}:GrI S R [] 0:=⟨rfl,fun k r y _ h=>by simp at h,by simp⟩
theorem GrI.snoc {S:List RSt} {R:List Str} {X:List Grw} {i:Nat} {r:Str} {y:Grw} (h:GrI S R X i) (A:R[i]? = some r) (x:GrR S R r (aS_ (ik S r)) y.st) (v:y.st.length≤S.length):GrI S R (X++[y]) (i+1):=by
 refine⟨by simp[h.len],fun k q z e d=>?_,fun z d=>by rcases List.mem_append.1 d with d|d;exact h.short z d;rw[List.mem_singleton]at d;subst d;exact v⟩;rcases Nat.lt_or_ge k X.length with g|g
 ·rw[List.getElem?_append_left g]at d;exact h.row k q z e d
 rw[List.getElem?_append_right g]at d
 have hk:k - X.length=0:=by
   have:=(List.getElem?_eq_some_iff.1 d).1;simp only[List.length_singleton]at this;omega
 rw[hk]at d;simp only[List.getElem?_cons_zero,Option.some.injEq]at d;subst d;have m:k=i:=by have:=h.len;omega
 subst m;rw[A]at e;simp only[Option.some.injEq]at e;subst e;exact x
theorem GrI.done {S:List RSt} {ks:List (Str×Nat)} {X:List Grw} (A:Frm ks S) (B:∀ z∈S,z.1∈ks.map (·.1)) (v:(ks.map (·.1)).Nodup) (h:GrI S (aS_ (ks.map (·.1))) X (aS_ (ks.map (·.1))).length):GrO S (aS_ (ks.map (·.1))) (X.map Grw.st):=by
 refine⟨by rw[List.length_map,h.len],SrS.nd (ip_ v),fun r=>?_,fun i r l q hl j c=>?_⟩
 ·rw[List.mem_mergeSort]
  constructor
  ·exact A r
  rintro ⟨s,c,m⟩;exact B _ m
 rw[List.getElem?_map,Option.map_eq_some_iff]at hl;obtain⟨y,x,rfl⟩:=hl;rw[h.row i r y q x j c];constructor
 ·rintro ⟨s,d,e,k⟩;rw[List.mem_mergeSort,nE_]at d;exact⟨s,e,d,k⟩
 rintro ⟨s,d,e,k⟩;exact⟨s,by rw[List.mem_mergeSort,nE_];exact e,d,k⟩
theorem xu_:hX_ Tryz.prog 160 [(0,1),(1,1)] [.int .i64 0,.bool false]:=⟨_,Tryz.zeroValue160,cy_,fun w=>by simp[ak_,dQ_]⟩
theorem pi_:hX_ Tryz.prog 164 [(0,1),(1,1),(2,1),(3,1)] [.int .i64 0,.bool false,.int .i64 0,.int .i64 0]:=⟨_,oi_,cx_,fun w=>by simp[ak_,dQ_]⟩
theorem yA_:Elt Tryz.prog 156 160 2 16:=jo_ Tryz.underlying156 (z:=.agg #[.int .i64 0,.bool false]) zv_ rfl zw_
theorem yz_:Elt Tryz.prog 101 156 1 24:=jo_ Tryz.underlying101 (z:=.slice none 0 0) zv_ rfl zw_
theorem wD_:Elt Tryz.prog 165 164 4 32:=jo_ Tryz.underlying165 (z:=.agg #[.int .i64 0,.bool false,.int .i64 0,.int .i64 0]) zv_ rfl zw_
theorem wo_ (s:Str):Fn0 Tryz.prog 153 #[str s] (.bool false):=by
  refine i_ Tryz.func153 rfl rfl Tryz.ntmps153 rfl fun d=>?_;refine Zz 9 ?_;refine e_ (ar_ (cJ_ rfl rfl) (show _=Value.bool false from congrArg Value.bool zB_)) rfl (Zz 4 ?_);exact ae_ Tryz.results153 () rfl m_ zt
theorem uK_ (x y:Str):Fn0 Tryz.prog 152 #[str x,str y] (.bool (decide (x<y))):=by
  refine i_ Tryz.func152 rfl rfl Tryz.ntmps152 rfl fun h=>?_;refine Zz 8 ?_;refine g_ (py_ x) rfl m_ zt rfl fun _=>Zz 11 ?_
  refine B_ (fW_ rfl rfl) rfl fun e d=>Zz 5 ?_
  exact ae_ Tryz.results152 () (n_ rfl (by rw[← d])) m_ zt
theorem binS_c (R:List Str) (ad:Option Addr) (cap:Nat) (t:Str) (hS:SrS R) (hl:R.length≤100000000):Tri Tryz.prog 105 #[.slice ad (List.length R) cap,str t] [] [ah_ ad (List.flatMap ag_ R)] (fun y:{y:Nat×Bool // (y.2=true→R[y.1]? = some t)∧(y.2=false→t ∉ R)}=>.tuple #[.int .i64 (y.1.1:Int),.bool y.1.2]) (fun _=>[]) (fun _=>[]):=by
 refine i_ Tryz.func105 rfl rfl Tryz.ntmps105 rfl fun O=>?_;refine Zz 22 ?_;refine M_ (ι:={y:Nat×Nat // y.1≤y.2∧y.2≤List.length R∧(∀ (a:Nat) (z:Str),a<y.1→R[a]? = some z→z<t)∧(∀ (a:Nat) (z:Str),y.2≤a→R[a]? = some z→¬ z<t)}) (fun y=>[(0,.slice ad (List.length R) cap),(1,str t),(6,.int .i64 (List.length R:Int)),(7,.int .i64 (y.1.1:Int)),(8,.int .i64 (y.1.2:Int))]) (fun y=>([])) (fun y=>[ah_ ad (List.flatMap ag_ R)]) (fun y=>y.1.2 - y.1.1) ⟨((0:Nat),(List.length R)),zs_,zs_,(fun a y h=>absurd h zt_),(fun a y h e=>by have:=(List.getElem?_eq_some_iff.1 e).1;dsimp only at h;omega)⟩ zl m_ zh ?_;rintro ⟨⟨lo,hi⟩,G,K,B,hB⟩;dsimp only at G K B hB ⊢;refine Zi 5 (fun A=>?_) fun A=>?_
 ·obtain rfl:lo=hi:=by omega
  refine Zi 10 (fun d=>?_) fun d=>?_
  ·refine Zz 24 ?_
   exact kO_ Tryz.results105 ⟨(lo,false),fun q=>zaS_,fun _=>zn_ hS B hB (fun q=>by have:=(List.getElem?_eq_some_iff.1 q).1;omega)⟩ rfl rfl rfl m_ zt
  obtain⟨J,Q,x,L⟩:=zge (show lo<List.length R by omega);refine Zi 12 (fun k=>?_) fun k=>?_
  ·refine Zz 11 ?_
   refine g_ (wo_ Q) rfl m_ zt rfl fun _=>Zz 14 ?_
   exact kO_ Tryz.results105 ⟨(lo,false),fun q=>zaS_,fun _=>zn_ hS B hB (fun q=>by rw[x]at q;exact k (Option.some.inj q))⟩ rfl rfl rfl m_ zt
  refine Zz 19 ?_;exact kO_ Tryz.results105 ⟨(lo,true),fun _=>by rw[x,k],fun q=>by cases q⟩ rfl rfl rfl m_ zt
 have C:(lo+hi) / 2<List.length R:=by omega
 have v:((lo+hi) / 2)<List.length R:=C;obtain⟨I,m⟩:∃ E,R[((lo+hi) / 2)]? = some E:=⟨_,List.getElem?_eq_getElem v⟩;have M:I∈R:=List.mem_of_getElem? m;refine Zz 10 ?_;refine e_ (ar_ (bc_ rfl rfl rfl (cm_ zs_ zs_)) (show _=Value.int .i64 ((lo+hi:Nat):Int) from congrArg _ zs_)) rfl (e_ (sX_ p_ Tryz.underlying44 rfl (wrapU zs_ zs_)) rfl (e_ (uS_ rfl rfl) rfl (e_ (sX_ Tryz.underlying44 p_ rfl (cm_ zs_ zs_)) rfl (Zz 10 ?_))));refine T_ (uK_ I t) rfl m_ zt rfl fun F d=>Zz 2 ?_
 cases F
 ·replace d:=zdf d
  refine Zz 6 ?_;exact w_ ⟨(lo,((lo+hi) / 2)),zs_,zs_,B,bs_hi hS m d⟩ zt_ zl m_ zh
 replace d:=zdt d;refine Zz 3 ?_;refine e_ (ar_ (bc_ rfl rfl rfl (cm_ zs_ zs_)) (show _=Value.int .i64 (((lo+hi) / 2+1:Nat):Int) from congrArg _ zs_)) rfl (Zz 3 ?_);exact w_ ⟨(((lo+hi) / 2+1),hi),zs_,K,bs_lo hS m d,hB⟩ zt_ zl m_ zh
end Go.Proofs.YtpbnmnfdgckaiaaGreatDoor
namespace Go.Proofs.YtpbnmnfdgckaiaaGreatDoor
open Go Go.Sx Go.Proofs
attribute [local irreducible] Code.wp wpList wpAnyH
open Go.Vs
theorem vj_ {ks:List (Str×Nat)} {k:Str} (h:k∈ks.map (·.1)):∃ b,gj_ ks k=some b:=by
  cases e:gj_ ks k with
  | none=>exact absurd h (fR_ e)
  | some b=>exact⟨b,rfl⟩
theorem sz_ {S:List RSt} {r:Str}:(ik S r).length≤S.length:=by
  have h:(ik S r) ⊆ S.map (·.2.1):=fun s e=>by
    obtain⟨c,d⟩:=nE_.1 e;exact List.mem_map.2 ⟨_,d,rfl⟩
  have:=(zl_ S r).length_le_of_subset h;rwa [List.length_map]at this
theorem sm_ (m:Nat) (ks:List (Str×Nat)) (S:List RSt) (Hx:Hp) (hT0:MmO m ks S Hx) (hF:Frm ks S) (hkl:ks.length≤100000) (hSl:S.length≤100000):Tri Tryz.prog 66 #[.map (some m)] Hx [] (fun y:{y:List Grw×Option Addr×Nat×Option Addr×Nat // GrO S (aS_ (List.map (fun p:Str×Nat=>p.1) ks)) (List.map Grw.st y.1)∧(∀ z∈y.1,z.st.length≤S.length)∧List.length y.1=List.length ks∧(List.length (aS_ (List.map (fun p:Str×Nat=>p.1) ks))≤y.2.2.1∧y.2.2.1≤maxLen∧(y.2.1=none→y.2.2.1=0))∧(List.length y.1≤y.2.2.2.2∧y.2.2.2.2≤maxLen∧(y.2.2.2.1=none→y.2.2.2.2=0))}=>.agg #[.slice y.1.2.1 (List.length (aS_ (List.map (fun p:Str×Nat=>p.1) ks))) y.1.2.2.1,.slice y.1.2.2.2.1 (List.length y.1.1) y.1.2.2.2.2]) (fun _=>[]) (fun y=>[ah_ y.1.2.1 (List.flatMap ag_ (aS_ (List.map (fun p:Str×Nat=>p.1) ks))),ah_ y.1.2.2.2.1 (List.flatMap Grw.cells y.1.1),hU_ y.1.1]):=by
 obtain⟨es,W,E,rfl,hE⟩:=hT0;refine i_ Tryz.func66 rfl rfl Tryz.ntmps66 rfl fun v_1=>?_;refine Zz 2 ?_;refine G_ Tryz.zeroValue103 rfl fun B=>Zz 5 ?_
 refine g_ (yj_ m) rfl m_ zt rfl fun bx=>?_;refine g_ (fd_ 151 [zp_ bx 0] [(bx,.cells #[.map (some m)] 105 (0,0)),(m,.map es W)] (List.map (fun p:Str×Nat=>p.1) ks) hE.nd zaB_ (yo_ m bx W es (List.map (fun p:Str×Nat=>p.1) ks) ⟨hE.keys,hE.nd⟩ hE.born zaB_)) rfl zp zt rfl fun⟨⟨rad,rcap⟩,a5,a7,a4⟩=>?_;dsimp only;have hrl:List.length (aS_ (List.map (fun p:Str×Nat=>p.1) ks))=List.length ks:=by rw[List.length_mergeSort,List.length_map]
 refine Zz 1 ?_;refine u_ 2 bP_ rfl rfl rfl rfl rfl rfl (Zz 12 ?_);refine y_ (j_ d_ (j_ (c_ d_) (j_ d_ ac_))) ?_;try simp only[List.append_nil]
 have hT:MmO m ks S ((m,.map es W)::List.map (gk_ E) ks):=⟨es,W,E,rfl,hE⟩;refine y_ (H':=((bx,.cells #[.map (some m)] 105 (0,0))::((B,.cells #[.slice rad (List.length (aS_ (List.map (fun p:Str×Nat=>p.1) ks))) rcap,.slice none 0 0] 103 (0,0))::(((m,.map es W)::List.map (gk_ E) ks)++([]:Hp))))) (List.Perm.cons _ (List.Perm.cons _ (List.Perm.of_eq (List.append_nil _).symm))) ?_;refine M_ (ι:={y:Nat×List Grw×Value×Hp // y.1≤List.length (aS_ (List.map (fun p:Str×Nat=>p.1) ks))∧GrI S (aS_ (List.map (fun p:Str×Nat=>p.1) ks)) y.2.1 y.1∧zR 156 1 Grw.cells y.2.2.1 y.2.1 y.2.2.2}) (fun y=>[(0,.map (some m)),(2,zp_ B 0),(15,.slice rad (List.length (aS_ (List.map (fun p:Str×Nat=>p.1) ks))) rcap),(16,.int .i64 (List.length (aS_ (List.map (fun p:Str×Nat=>p.1) ks)):Int)),(17,.int .i64 (y.1.1:Int))]) (fun y=>((B,.cells #[.slice rad (List.length (aS_ (List.map (fun p:Str×Nat=>p.1) ks))) rcap,y.1.2.2.1] 103 (0,0))::(((m,.map es W)::List.map (gk_ E) ks)++y.1.2.2.2))) (fun y=>[ah_ rad (List.flatMap ag_ (aS_ (List.map (fun p:Str×Nat=>p.1) ks))),hU_ y.1.2.1]) (fun y=>List.length (aS_ (List.map (fun p:Str×Nat=>p.1) ks)) - y.1.1) ⟨((0:Nat),([]:List Grw),(.slice none 0 0),([]:Hp)),by simp,GrI.nil,(ay_.nil _ _)⟩ zl zp (fun v _ h=>by exact⟨h.1,(show (hU_ ([]:List Grw)).p v from fun z hz=>by simp at hz),trivial⟩) ?_;rintro ⟨⟨i,X,U,J⟩,b0,N,I⟩;dsimp only at b0 N I ⊢;refine Zi 2 (fun M=>?_) fun M=>?_
 ·refine Zz 7 ?_
  refine bl_ I (c_ aP_) fun b2 V c1 a1 a2 a9=>?_;subst c1;refine Zz 2 ?_;refine u_ 0 Tryz.sizeOf103 rfl rfl rfl rfl rfl rfl (Zz 3 ?_);exact gW_ ⟨(X,rad,rcap,b2,V),(by rw[show i=List.length (aS_ (List.map (fun p:Str×Nat=>p.1) ks)) from by omega]at N;exact GrI.done hF hE.all hE.nd N),N.short,N.len.trans zs_,⟨a5,a7,a4⟩,⟨a1,a2,a9⟩⟩ (fun aa v h_1 h_2=>ei_ (us:=[.slice rad (List.length (aS_ (List.map (fun p:Str×Nat=>p.1) ks))) rcap,.slice b2 (List.length X) V]) 0 Tryz.results66 Tryz.isAgg103 Tryz.sizeOf103 rfl rfl rfl aa v h_1 h_2) m_ zf
 have H:i<List.length (aS_ (List.map (fun p:Str×Nat=>p.1) ks)):=by omega
 obtain⟨d,R⟩:∃ a0,(aS_ (List.map (fun p:Str×Nat=>p.1) ks))[i]? = some a0:=⟨_,List.getElem?_eq_getElem H⟩;have a3:d∈(aS_ (List.map (fun p:Str×Nat=>p.1) ks)):=List.mem_of_getElem? R;refine Zz 22 ?_;have hkm:d∈(List.map (fun p:Str×Nat=>p.1) ks):=List.mem_mergeSort.1 a3;obtain⟨bk,O⟩:=vj_ hkm;refine Zz 3 ?_;refine e_ (ar_ (eY_ (k:=d) bi_ dp_ dU_ hT rfl rfl zp) (congrArg lZ_ O)) rfl (g_ (iU_ bk) rfl m_ zt rfl fun by_=>?_);obtain⟨b9,cb,Hr,Q,T,b4,_⟩:=hT.at O;refine y_ (j_ d_ (j_ d_ (z_ aP_ ac_))) ?_;try simp only[List.append_nil]
 refine y_ (List.Perm.cons _ (List.Perm.cons _ (List.Perm.append_left J Q))) (g_ (fd_ 96 [zp_ by_ 0] [(by_,.cells #[.map (some bk)] 33 (0,0)),(bk,.map b9 cb)] (ik S d) (zl_ S d) (by have:=sz_ (S:=S) (r:=d);omega) (iV_ bk by_ cb b9 (ik S d) ⟨T.keys,T.nd⟩ b4 (by have:=sz_ (S:=S) (r:=d);omega))) rfl (j_ d_ (c_ (f_ d_))) zt rfl fun⟨⟨sad,b3⟩,hss_1,hss_2,hss_3⟩=>?_);dsimp only;have hsl:List.length (aS_ (ik S d))=List.length (ik S d):=List.length_mergeSort _;have hil:=sz_ (S:=S) (r:=d);refine Zz 5 ?_;refine y_ (j_ d_ (j_ (c_ d_) (z_ (c_ t_) (j_ d_ ac_)))) ?_;try simp only[List.append_nil]
 refine y_ (List.Perm.cons _ (List.Perm.cons _ (List.Perm.append_left J Q.symm))) (y_ (H':=((by_,.cells #[.map (some bk)] 33 (0,0))::((B,.cells #[.slice rad (List.length (aS_ (List.map (fun p:Str×Nat=>p.1) ks))) rcap,U] 103 (0,0))::(J++(((m,.map es W)::List.map (gk_ E) ks)++([]:Hp)))))) (List.Perm.cons _ (List.Perm.cons _ (List.Perm.append_left J (List.Perm.of_eq (List.append_nil _).symm)))) ?_);refine M_ (ι:={y:Nat×List (Nat×Bool)×Value×Hp // y.1≤List.length (aS_ (ik S d))∧GrR S (aS_ (List.map (fun p:Str×Nat=>p.1) ks)) d (List.take y.1 (aS_ (ik S d))) y.2.1∧List.length y.2.1≤y.1∧zR 160 2 ro_ y.2.2.1 y.2.1 y.2.2.2}) (fun y=>[(0,.map (some m)),(2,zp_ B 0),(15,.slice rad (List.length (aS_ (List.map (fun p:Str×Nat=>p.1) ks))) rcap),(16,.int .i64 (List.length (aS_ (List.map (fun p:Str×Nat=>p.1) ks)):Int)),(17,.int .i64 (i:Int)),(4,str d),(5,y.1.2.2.1),(25,.slice sad (List.length (aS_ (ik S d))) b3),(26,.int .i64 (List.length (aS_ (ik S d)):Int)),(27,.int .i64 (y.1.1:Int))]) (fun y=>((B,.cells #[.slice rad (List.length (aS_ (List.map (fun p:Str×Nat=>p.1) ks))) rcap,U] 103 (0,0))::(J++(((m,.map es W)::List.map (gk_ E) ks)++y.1.2.2.2)))) (fun y=>[ah_ sad (List.flatMap ag_ (aS_ (ik S d))),ah_ rad (List.flatMap ag_ (aS_ (List.map (fun p:Str×Nat=>p.1) ks))),hU_ X]) (fun y=>List.length (aS_ (ik S d)) - y.1.1) ⟨((0:Nat),([]:List (Nat×Bool)),(.slice none 0 0),([]:Hp)),by simp,(by rw[List.take_zero];exact GrR.nil),zB_,(ay_.nil _ _)⟩ zl zp zh ?_;rintro ⟨⟨j,L,Z,b6⟩,c0,hL,hLl,e⟩;dsimp only at c0 hL hLl e ⊢;refine Zi 2 (fun G=>?_) fun G=>?_
 ·refine Zz 6 ?_
  refine bl_ e (c_ (f_ aP_)) fun lad lcap b1 hclad hmlad hzlad=>?_;subst b1;refine Zz 4 ?_;refine U_ cC_ Tryz.sizeOf156 Tryz.zeroValue156 rfl rfl rfl rfl rfl rfl fun b_2=>?_;refine an_ (news:=List.flatMap Grw.cells [(Grw.mk L lad lcap)]) yz_ I rfl rfl (c_ (c_ t_)) rfl (aO_ 0 rfl) (fun u hu=>aA_ Grw.cells_one hu) zah_ zas_ rfl fun K F M=>?_;have A:=zsa M;refine Zz 1 ?_;refine y_ (R_ (f_ d_) (bb_ (f_ d_))) (dr_ 1 A Tryz.sizeOf101 rfl rfl rfl rfl (Zz 7 ?_));exact w_ ⟨(i+1,(X++[(Grw.mk L lad lcap)]),K,F),H,N.snoc R (by have q:=hL;rw[List.take_of_length_le zs_]at q;exact q) zt_,A⟩ zt_ zl (j_ (c_ d_) (z_ (c_ aP_) C_)) (fun v _ h=>by exact⟨h.2.2.1,sA_ h.2.2.2.1 h.1,trivial⟩)
 have x:j<List.length (aS_ (ik S d)):=by omega
 obtain⟨a6,C⟩:∃ a0,(aS_ (ik S d))[j]? = some a0:=⟨_,List.getElem?_eq_getElem x⟩;have hms_1:a6∈(aS_ (ik S d)):=List.mem_of_getElem? C;refine Zz 20 ?_;refine g_ (binS_c (aS_ (List.map (fun p:Str×Nat=>p.1) ks)) rad rcap a6 (ip_ hE.nd) zs_) rfl m_ zf rfl fun⟨⟨b8,b5⟩,P,Y⟩=>?_;dsimp only;dsimp only at P Y;refine Zz 12 ?_;cases b5
 ·refine Zz 8 ?_
  exact w_ ⟨(j+1,L,Z,b6),x,(by rw[take_snoc C];exact hL.no (Y rfl)),zt_,e⟩ zt_ zl zp zh
 refine Zz 6 ?_;refine e_ (ar_ (eY_ (k:=d) bi_ dp_ dU_ hT rfl rfl zp) (congrArg lZ_ O)) rfl (Zz 1 ?_);refine B_ (jv_ (k:=d) (s:=a6) bi_ H_ as_ hT O rfl rfl zp) rfl fun b7 c2=>e_ (I_ xu_ rfl rfl) rfl (U_ bZ_ Tryz.sizeOf160 Tryz.zeroValue160 rfl rfl rfl rfl rfl rfl fun b_2=>?_)
 refine an_ (news:=List.flatMap ro_ [(Prod.mk b8 b7)]) yA_ e rfl rfl (c_ (c_ (f_ aP_))) rfl (aO_ 0 rfl) (fun u hu=>aA_ wC_ hu) zah_ zas_ rfl fun K F G=>?_;have A:=zsa G;refine Zz 3 ?_;refine y_ (R_ (f_ d_) (bb_ (f_ d_))) (Zz 5 ?_);exact w_ ⟨(j+1,(L++[(Prod.mk b8 b7)]),K,F),x,(by rw[take_snoc C,← c2];exact hL.yes (SrS.nd (ip_ hE.nd)) (P rfl)),zaG_,A⟩ zt_ zl zp zh
end Go.Proofs.YtpbnmnfdgckaiaaGreatDoor
