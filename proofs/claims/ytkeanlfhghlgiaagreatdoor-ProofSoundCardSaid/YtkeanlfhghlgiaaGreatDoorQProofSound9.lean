/-
  Part of the proof of the law ProofSound over this seat: the small logic, the data, the contracts of functions (no condition).
-/
import Derived.Test.YtkeanlfhghlgiaaGreatDoorQProofSound8
import Derived.Test.YtkeanlfhghlgiaaGreatDoorQProofSound3
import Derived.Test.YtkeanlfhghlgiaaGreatDoorQProofSound4
import Derived.Test.YtkeanlfhghlgiaaGreatDoorQProofSound6
set_option linter.unusedVariables false
set_option linter.unusedSimpArgs false
set_option linter.unusedSectionVars false
set_option maxHeartbeats 1000000
namespace Go.Proofs.YtkeanlfhghlgiaaGreatDoor
open Go Go.Sx Go.Proofs
attribute [local irreducible] Code.wp wpList wpAnyH
open Go.Vs
section
variable {P:Program} {N:Nf} {v0:Vw} {H0:Hp} {fr:Fr} {H F:Hp} {Γ:List Fct} {K D:Type} [DecidableEq K]
theorem jW_:∀ (B:Hp) {v:Vw},aj_ (B.map fun p=>ef_ p.1 p.2) v→∀ p∈B,v.im p.1∧v.w.heap[p.1]? = some p.2
 | [],_,_,_,h=>by simp at h
 | q::B,v,h,p,hp=>by
   rcases List.mem_cons.1 hp with rfl|hp
   · exact h.1
   · exact jW_ B h.2 p hp
theorem ql_ {k:Act→World→Prop} {kv:K→Value} {cells:D→List Value} {kt e:TypeId} {sz mb:Nat} {l:List (K×D)} {Hm:Hp} (hK:KeyT P kt kv) (hm:aP_ kv cells e sz l mb Hm) (hH:H.Perm (Hm++F))
    (h:∀ adr,Ok N v0 H0 k fr F (mlF P kt kv cells mb l adr::Γ)):Ok N v0 H0 k fr H Γ:=by
  obtain⟨adr,ha⟩:=hm.lent hK
  refine hT_ Hm hH (gG_ (fun v _ hv=>?_) (h adr))
  rw[em_]at hv
  refine⟨ha v fun p hp=>?_,hv.2⟩
  have:=hv.1
  exact jW_ Hm.reverse (by rw[List.map_reverse]at *;exact this) p (List.mem_reverse.2 hp)
theorem ff_ {tF:TypeId} {E:Emt P tF} {nw fm:List Fc} {Hs:Hp} {ty t kt et:TypeId} {x:Operand} (hS:E.St nw fm Hs) (hu:∀ w,(underlying t).run P w=.ok (.map kt et) w) (hx:Fr.ev fr x=some (.map (some E.kb))) (hp:H.Perm (Hs++F)) :
    Yld P N fr H Γ (.call ⟨.builtin .len,#[x],#[t]⟩) ty (.int .i64 ((E.kof nw).length:Int)):=by
  obtain⟨es,c,g1,g2⟩:=E.known hS
  exact jl_ g2 hu hx fun v h _=>jD_ hp g1 h
end
def nq_ (x:Ix) (n:Nat):Prop:=x.above.length≤n∧x.under.length≤n∧x.frm.length≤n∧x.into.length≤n∧x.ranges.length≤n∧x.firms.length≤n
theorem qG_:nq_ Ix.nil 0:=by simp[nq_,Ix.nil]
theorem hY_ {x:Ix} {n:Nat} (h:nq_ x n) (b:Bool) (f:Fc):nq_ (x.add b f) (n+1):=by
 obtain⟨h1,h2,h3,h4,h5,h6⟩:=h
 unfold Ix.add nq_
 split
 ·simp;omega
 split
 ·simp;omega
 split
 ·cases b<;>simp<;>omega
 omega
theorem mw_ {x:Ix} {n:Nat} (h:nq_ x n) (hn:n≤1000000000):(∀ k,(lat x.above k).length≤1000000000∧(lat x.under k).length≤1000000000)∧(∀ k,(lat x.frm k).length≤1000000000∧(lat x.into k).length≤1000000000∧(lat x.ranges k).length≤1000000000∧(lat x.firms k).length≤1000000000):=by
 obtain⟨h1,h2,h3,h4,h5,h6⟩:=h
 refine⟨fun k=>⟨?_,?_⟩,fun k=>⟨?_,?_,?_,?_⟩⟩
 ·have:=aZ_ x.above k;omega
 ·have:=aZ_ x.under k;omega
 ·have:=aZ_ x.frm k;omega
 ·have:=aZ_ x.into k;omega
 ·have:=aZ_ x.ranges k;omega
 have:=aZ_ x.firms k;omega
theorem rF_ (B:EngB) (E:Emt Tryz.prog 24) (A0:EngA) (pm:List (Ky×Pc)) (x:Ix) (f:Fc) (nw fm:List Fc) (Hs:Hp) (hS:E.St nw fm Hs) (Ha Hu Ho Hi Hr Hm:Hp) (hI:IxO 9 24 B x ⟨Ha,Hu,Ho,Hi,Hr,Hm⟩) (hpl:∀ k,(lat pm k).length≤1000000000) (hxl:∀ k,(lat x.above k).length≤1000000000∧(lat x.under k).length≤1000000000) (hyl:∀ k,(lat x.frm k).length≤1000000000∧(lat x.into k).length≤1000000000∧(lat x.ranges k).length≤1000000000∧(lat x.firms k).length≤1000000000) (hf:f.kind=3→-1099511627776≤f.lo∧f.lo≤f.hi∧f.hi≤1099511627776) (hq:f.kind=3→∀ y∈lat pm (Ky.mk 9 f.r []),-1099511627776≤y.lo∧y.lo≤y.hi∧y.hi≤1099511627776) (hk:f.kind=1):∀ (j:Nat) {fv:Value},(rlV B.g 1)[j]? = some fv→∃ n:Nat,fv=.func (.func n) #[zp_ B.g 0] #[]∧Tri Tryz.prog n #[zp_ B.g 0,f.val] ((Ha++(Hu++(Ho++(Hi++(Hr++Hm)))))++Hs) [gF B E,pF B pm A0,E.ef] (fun _:{H':Hp // E.St (rl E.stp E.kof pm x f j (nw,fm)).1 (rl E.stp E.kof pm x f j (nw,fm)).2 H'}=>.tuple #[]) (fun y=>(Ha++(Hu++(Ho++(Hi++(Hr++Hm)))))++y.1) (fun _=>[])
  | 0,_,h=>⟨89,(Option.some.inj h).symm,rl10_c B E A0 pm x f nw fm Hs hS Ha Hu Ho Hi Hr Hm hI hpl hxl hyl hf hq hk⟩
  | 1,_,h=>⟨90,(Option.some.inj h).symm,rl11_c B E A0 pm x f nw fm Hs hS Ha Hu Ho Hi Hr Hm hI hpl hxl hyl hf hq hk⟩
  | 2,_,h=>⟨91,(Option.some.inj h).symm,rl12_c B E A0 pm x f nw fm Hs hS Ha Hu Ho Hi Hr Hm hI hpl hxl hyl hf hq hk⟩
  | 3,_,h=>⟨92,(Option.some.inj h).symm,rl13_c B E A0 pm x f nw fm Hs hS Ha Hu Ho Hi Hr Hm hI hpl hxl hyl hf hq hk⟩
  | 4,_,h=>⟨93,(Option.some.inj h).symm,rl14_c B E A0 pm x f nw fm Hs hS Ha Hu Ho Hi Hr Hm hI hpl hxl hyl hf hq hk⟩
  | 5,_,h=>⟨94,(Option.some.inj h).symm,rl15_c B E A0 pm x f nw fm Hs hS Ha Hu Ho Hi Hr Hm hI hpl hxl hyl hf hq hk⟩
  | j+6,_,h=>by simp[rlV]at h
theorem rE_ (B:EngB) (E:Emt Tryz.prog 24) (A0:EngA) (pm:List (Ky×Pc)) (x:Ix) (f:Fc) (nw fm:List Fc) (Hs:Hp) (hS:E.St nw fm Hs) (Ha Hu Ho Hi Hr Hm:Hp) (hI:IxO 9 24 B x ⟨Ha,Hu,Ho,Hi,Hr,Hm⟩) (hpl:∀ k,(lat pm k).length≤1000000000) (hxl:∀ k,(lat x.above k).length≤1000000000∧(lat x.under k).length≤1000000000) (hyl:∀ k,(lat x.frm k).length≤1000000000∧(lat x.into k).length≤1000000000∧(lat x.ranges k).length≤1000000000∧(lat x.firms k).length≤1000000000) (hf:f.kind=3→-1099511627776≤f.lo∧f.lo≤f.hi∧f.hi≤1099511627776) (hq:f.kind=3→∀ y∈lat pm (Ky.mk 9 f.r []),-1099511627776≤y.lo∧y.lo≤y.hi∧y.hi≤1099511627776) (hk:f.kind=2):∀ (j:Nat) {fv:Value},(rlV B.g 2)[j]? = some fv→∃ n:Nat,fv=.func (.func n) #[zp_ B.g 0] #[]∧Tri Tryz.prog n #[zp_ B.g 0,f.val] ((Ha++(Hu++(Ho++(Hi++(Hr++Hm)))))++Hs) [gF B E,pF B pm A0,E.ef] (fun _:{H':Hp // E.St (rl E.stp E.kof pm x f j (nw,fm)).1 (rl E.stp E.kof pm x f j (nw,fm)).2 H'}=>.tuple #[]) (fun y=>(Ha++(Hu++(Ho++(Hi++(Hr++Hm)))))++y.1) (fun _=>[])
  | 0,_,h=>⟨95,(Option.some.inj h).symm,rl20_c B E A0 pm x f nw fm Hs hS Ha Hu Ho Hi Hr Hm hI hpl hxl hyl hf hq hk⟩
  | 1,_,h=>⟨96,(Option.some.inj h).symm,rl21_c B E A0 pm x f nw fm Hs hS Ha Hu Ho Hi Hr Hm hI hpl hxl hyl hf hq hk⟩
  | 2,_,h=>⟨97,(Option.some.inj h).symm,rl22_c B E A0 pm x f nw fm Hs hS Ha Hu Ho Hi Hr Hm hI hpl hxl hyl hf hq hk⟩
  | 3,_,h=>⟨98,(Option.some.inj h).symm,rl23_c B E A0 pm x f nw fm Hs hS Ha Hu Ho Hi Hr Hm hI hpl hxl hyl hf hq hk⟩
  | j+4,_,h=>by simp[rlV]at h
theorem rD_ (B:EngB) (E:Emt Tryz.prog 24) (A0:EngA) (pm:List (Ky×Pc)) (x:Ix) (f:Fc) (nw fm:List Fc) (Hs:Hp) (hS:E.St nw fm Hs) (Ha Hu Ho Hi Hr Hm:Hp) (hI:IxO 9 24 B x ⟨Ha,Hu,Ho,Hi,Hr,Hm⟩) (hpl:∀ k,(lat pm k).length≤1000000000) (hxl:∀ k,(lat x.above k).length≤1000000000∧(lat x.under k).length≤1000000000) (hyl:∀ k,(lat x.frm k).length≤1000000000∧(lat x.into k).length≤1000000000∧(lat x.ranges k).length≤1000000000∧(lat x.firms k).length≤1000000000) (hf:f.kind=3→-1099511627776≤f.lo∧f.lo≤f.hi∧f.hi≤1099511627776) (hq:f.kind=3→∀ y∈lat pm (Ky.mk 9 f.r []),-1099511627776≤y.lo∧y.lo≤y.hi∧y.hi≤1099511627776) (hk:f.kind=3):∀ (j:Nat) {fv:Value},(rlV B.g 3)[j]? = some fv→∃ n:Nat,fv=.func (.func n) #[zp_ B.g 0] #[]∧Tri Tryz.prog n #[zp_ B.g 0,f.val] ((Ha++(Hu++(Ho++(Hi++(Hr++Hm)))))++Hs) [gF B E,pF B pm A0,E.ef] (fun _:{H':Hp // E.St (rl E.stp E.kof pm x f j (nw,fm)).1 (rl E.stp E.kof pm x f j (nw,fm)).2 H'}=>.tuple #[]) (fun y=>(Ha++(Hu++(Ho++(Hi++(Hr++Hm)))))++y.1) (fun _=>[])
  | 0,_,h=>⟨99,(Option.some.inj h).symm,rl30_c B E A0 pm x f nw fm Hs hS Ha Hu Ho Hi Hr Hm hI hpl hxl hyl hf hq hk⟩
  | 1,_,h=>⟨100,(Option.some.inj h).symm,rl31_c B E A0 pm x f nw fm Hs hS Ha Hu Ho Hi Hr Hm hI hpl hxl hyl hf hq hk⟩
  | j+2,_,h=>by simp[rlV]at h
def dK_ (p:List Pc) (bu:Int) (c:Cl) (e:Int):Prop :=
  if cq_ p≠0 then c=Cl.no∧e=cq_ p
  else if bu<0∨1073741824<bu then c=Cl.no∧e=1
  else (e=0∧c.ok∧c.atoms=atS p∧dS_ p (atS p) (min bu 65536).toNat (some c.facts))∨(c=Cl.no∧e=(if bu<65536 then 3 else 2)∧dS_ p (atS p) (min bu 65536).toNat none)
theorem rk_ {p:List Pc} {bu:Int} (h:cq_ p≠0):dK_ p bu Cl.no (cq_ p):=by unfold dK_;rw[if_pos h];exact⟨rfl,rfl⟩
theorem mT_ {p:List Pc} {bu:Int} (h:cq_ p=0) (hb:bu<0∨1073741824<bu):dK_ p bu Cl.no 1:=by unfold dK_;rw[if_neg (by simp[h]),if_pos hb];exact⟨rfl,rfl⟩
theorem sA_ {p:List Pc} {bu:Int} {m n:Nat} {c:Cl} {q fm:List Fc} {x:Ix} (hc:cq_ p=0) (h1:¬ bu<0) (h2:¬ 1073741824<bu) (hm:min bu 65536=(m:Int)) (hk:c.ok) (ha:c.atoms=atS p) (hL:LoopA (uniq [] p) (atS p) m n q fm x) (hn:q.length≤n) (hl:q.length≤m) (hf:c.facts=hs_ q):dK_ p bu c 0:=by
  unfold dK_
  rw[if_neg (by simp[hc]),if_neg (by omega)]
  have e:n=q.length:=Nat.le_antisymm hL.le hn
  subst e
  refine .inl ⟨rfl,hk,ha,?_⟩
  rw[hm,hf]
  exact⟨pA_ hL.nd,fun y=>by rw[pB_,← np_ hL hl,lR_],by rw[fM_];simpa using hl⟩
theorem ee_ {p:List Pc} {bu:Int} {m:Nat} {e:Int} {M:List Fc} (hc:cq_ p=0) (h1:¬ bu<0) (h2:¬ 1073741824<bu) (hm:min bu 65536=(m:Int)) (he:e=if bu<65536 then 3 else 2) (nd:M.Nodup) (hd:∀ y∈M,Der (uniq [] p) (atS p) y) (hl:m<M.length):dK_ p bu Cl.no e:=by
  unfold dK_
  rw[if_neg (by simp[hc]),if_neg (by omega)]
  exact .inr ⟨rfl,he,M,nd,fun y hy=>lR_.1 (hd y hy),by rw[hm];simpa using hl⟩
end Go.Proofs.YtkeanlfhghlgiaaGreatDoor
namespace Go.Proofs.YtkeanlfhghlgiaaGreatDoor
open Go Go.Sx Go.Proofs
attribute [local irreducible] Code.wp wpList wpAnyH
open Go.Vs
set_option maxHeartbeats 4000000 in
theorem sN_ (p:List Pc) (pad:Option Addr) (pcap:Nat) (bu:Int) (hsm:∀ x∈p,x.sm) (hp:p.length≤100000000):Tri Tryz.prog 15 #[.slice pad (List.length p) pcap,.int .i64 bu] [] [aq_ pad (List.flatMap Pc.cells p),ih_] (fun y:{y:Cl×Int // dK_ p bu y.1 y.2}=>.tuple #[y.1.1.val,.int .i64 y.1.2]) (fun _=>[]) (fun y=>y.1.1.row):=by
 refine u_ Tryz.func15 rfl rfl Tryz.ntmps15 rfl fun v0=>?_
 refine Zz 2 ?_
 refine L_ Tryz.zeroValue39 rfl fun b1=>Zz 3 ?_
 refine or_ (Zz 4 ?_)
 refine n_ (sr_ p pad pcap (by omega) hsm) rfl m_ zf rfl fun _=>Zi 6 (fun hr1=>?_) fun hr1=>?_
 ·have hchk:=hr1
  refine Zi 9 (fun hr2=>?_) fun hr2=>?_
  ·have hb0:=hr2
   refine Zi 4 (fun hr3=>?_) fun hr3=>?_
   ·have hb1:=hr3
    refine Zz 7 ?_
    obtain⟨m,hm0'⟩:∃ m:Nat,min bu 65536=(m:Int):=⟨(min bu 65536).toNat,by omega⟩
    have hm:m≤65536:=by omega
    have hvk:=ps_ (lc_ hchk)
    have hpl:∀ k,(lat (aC_ (uniq [] p)) k).length≤1000000000:=fun k=>by have h1:=aZ_ (aC_ (uniq [] p)) k;have h2:=jC_ (uniq [] p);have h3:=hI_ p [];simp only[List.length_nil]at h3;omega
    refine Zz 2 ?_
    refine n_ (mp_ p pad pcap (by omega)) rfl m_ zf rfl fun⟨⟨g,pb,kb,ab,ub,ob,ib,rb,sb,fb,lv,hm0,hl0⟩,hy⟩=>?_
    dsimp only
    dsimp only[NewE.own,NewE.ok]at hy ⊢
    obtain⟨hym,hyl⟩:=hy
    simp only[List.cons_append,List.append_assoc]
    refine bY_ hyl (c_ (c_ (c_ (c_ (c_ (c_ (c_ (c_ (c_ (e_ j_)))))))))) fun lad lcap hlad hclad hmlad hzlad=>?_
    subst hlad
    refine L_ Tryz.zeroValue71 rfl fun b2=>w_ (p_ d_ (p_ d_ (p_ d_ (p_ d_ (p_ d_ (p_ d_ (p_ d_ (p_ d_ (p_ d_ (p_ d_ (an_ Y_))))))))))) (A_ 0 Tryz.sizeOf71 rfl rfl rfl rfl rfl rfl (Zz 5 ?_))
    refine i_ (aU_ (cY_ rfl rfl) (congrArg (Value.int .i64) hm0')) rfl (L_ D_ rfl fun b3=>A_ 0 s_ rfl rfl rfl rfl rfl rfl (Zz 4 ?_))
    refine L_ lM_ rfl fun b4=>Zz 5 ?_
    refine i_ (cx_ rfl rfl) rfl (Zz 2 ?_)
    refine A_ 3 eH_ rfl rfl rfl rfl rfl rfl (Zz 3 ?_)
    refine hc_ (ef_ b2 (.cells #[zp_ g 0] 71 (0,0))) (an_ (c_ (c_ d_))) (fun _ h1 h2 _=>⟨h1,h2⟩) ?_
    refine hc_ (ef_ b3 (.cells #[.int .i64 (m:Int)] 3 (0,0))) (an_ (c_ d_)) (fun _ h1 h2 _=>⟨h1,h2⟩) ?_
    refine hc_ (ef_ g (.cells #[.map (some pb),.slice lad (List.length (ai_ (uniq [] p))) lcap,.map (some kb),.func (.func 41) #[] #[zp_ b2 0,zp_ b3 0,zp_ b4 0],.map (some ab),.map (some ub),.map (some ob),.map (some ib),.map (some rb),.map (some sb),.map (some fb)] 80 (0,0))) (an_ (c_ d_)) (fun _ h1 h2 _=>⟨h1,h2⟩) ?_
    refine ql_ gt_ hym (c_ (c_ (c_ (c_ (c_ (c_ (c_ (c_ (c_ K_))))))))) fun adr=>?_
    refine Zz 2 ?_
    refine n_ (atS_c p pad pcap (by omega)) rfl m_ zf rfl fun⟨⟨aad,acap⟩,hac,ham,haz⟩=>?_
    dsimp only
    refine Zz 7 ?_
    refine n_ (su_ (EngB.mk g pb ab ub ob ib rb sb lad lcap (ai_ (uniq [] p))) (EA m hm (EngB.mk g pb ab ub ob ib rb sb lad lcap (ai_ (uniq [] p))) b2 b3 b4 kb fb) [] [] [(b4,.cells #[.slice none 0 0] 37 (0,0)),(kb,.map #[] 0),(fb,.map #[] 0)] ⟨.slice none 0 0,#[],0,#[],0,[],[],rfl,aE_.nil _ _,SetE.nil,SetE.nil,by simp⟩ (atS p) aad acap (by have:=lI_ p;omega) (by have:=iE_ (uniq [] p);have h3:=hI_ p [];simp only[List.length_nil]at h3;show (ai_ (uniq [] p)).length≤_;omega)) rfl (f_ d_ (f_ d_ (c_ (c_ (c_ (c_ (c_ (c_ d_)))))))) (fun v _ h=>by exact⟨h.2.2.1,h.2.2.2.2.2.1,h.1,⟨h.2.2.2.2.1,h.2.2.2.1,h.2.2.1⟩,trivial⟩) rfl fun⟨Hs1,hS1⟩=>?_
    dsimp only
    refine Zz 2 ?_
    refine w_ (p_ (e_ d_) (p_ (e_ d_) (p_ (e_ d_) (p_ (e_ d_) (p_ (e_ d_) (p_ (e_ d_) (an_ Y_))))))) (Zz 3 ?_)
    refine n_ (rC_ g) rfl m_ zt rfl fun⟨r1,r2,r3⟩=>?_
    dsimp only
    refine L_ Tryz.zeroValue83 rfl fun b5=>A_ 0 Tryz.sizeOf83 rfl rfl rfl rfl rfl rfl (Zz 3 ?_)
    refine os_ (Zz 8 ?_)
    refine X_ (ι:={y:Nat×List Fc×List Fc×Ix×Hp×Hp×Hp×Hp×Hp×Hp×Hp // LoopA (uniq [] p) (atS p) m y.1 y.2.1 y.2.2.1 y.2.2.2.1∧((EA m hm (EngB.mk g pb ab ub ob ib rb sb lad lcap (ai_ (uniq [] p))) b2 b3 b4 kb fb)).St y.2.1 y.2.2.1 y.2.2.2.2.2.2.2.2.2.2∧IxO 9 24 (EngB.mk g pb ab ub ob ib rb sb lad lcap (ai_ (uniq [] p))) y.2.2.2.1 ⟨y.2.2.2.2.1,y.2.2.2.2.2.1,y.2.2.2.2.2.2.1,y.2.2.2.2.2.2.2.1,y.2.2.2.2.2.2.2.2.1,y.2.2.2.2.2.2.2.2.2.1⟩∧nq_ y.2.2.2.1 y.1}) (fun y=>[(0,.slice pad (List.length p) pcap),(1,.int .i64 bu),(4,zp_ b1 0),(7,zp_ b2 0),(8,zp_ b3 0),(9,zp_ b4 0),(10,.slice aad (List.length (atS p)) acap),(11,zp_ b5 0),(12,.int .i64 (y.1.1:Int))]) (fun y=>((b1,.cells #[.slice none 0 0,.slice none 0 0] 39 (0,0))::((b5,.cells #[.slice none 0 0,.slice (some ⟨r1,0,none⟩) 6 6,.slice (some ⟨r2,0,none⟩) 4 4,.slice (some ⟨r3,0,none⟩) 2 2] 83 (0,0))::(y.1.2.2.2.2.1++(y.1.2.2.2.2.2.1++(y.1.2.2.2.2.2.2.1++(y.1.2.2.2.2.2.2.2.1++(y.1.2.2.2.2.2.2.2.2.1++(y.1.2.2.2.2.2.2.2.2.2.1++y.1.2.2.2.2.2.2.2.2.2.2))))))))) (fun y=>[aq_ (some ⟨r1,0,none⟩) (List.flatMap fvC (rlV g 1)),aq_ (some ⟨r2,0,none⟩) (List.flatMap fvC (rlV g 2)),aq_ (some ⟨r3,0,none⟩) (List.flatMap fvC (rlV g 3)),aq_ aad (List.flatMap aS_ (atS p)),mlF Tryz.prog 145 Ky.val Pc.cells pb (aC_ (uniq [] p)) adr,ef_ g (.cells #[.map (some pb),.slice lad (List.length (ai_ (uniq [] p))) lcap,.map (some kb),.func (.func 41) #[] #[zp_ b2 0,zp_ b3 0,zp_ b4 0],.map (some ab),.map (some ub),.map (some ob),.map (some ib),.map (some rb),.map (some sb),.map (some fb)] 80 (0,0)),ef_ b3 (.cells #[.int .i64 (m:Int)] 3 (0,0)),ef_ b2 (.cells #[zp_ g 0] 71 (0,0)),aq_ lad (List.flatMap aS_ (ai_ (uniq [] p))),aq_ pad (List.flatMap Pc.cells p),ih_]) (fun y=>m+1 - y.1.1) ⟨((0:Nat),(emits (bi_ m) (ey_ (ai_ (uniq [] p)) (atS p)) []),([]:List Fc),Ix.nil,[(ab,.map #[] 0)],[(ub,.map #[] 0)],[(ob,.map #[] 0)],[(ib,.map #[] 0)],[(rb,.map #[] 0)],[(sb,.map #[] 0)],Hs1),mu_ hvk rfl,by exact hS1,⟨aP_.nil _ _,aP_.nil _ _,aP_.nil _ _,aP_.nil _ _,aP_.nil _ _,aP_.nil _ _⟩,qG_⟩ zl (f_ (c_ (c_ (c_ (c_ (c_ (c_ (c_ d_))))))) (f_ d_ (f_ d_ (f_ d_ (f_ d_ (f_ d_ (f_ d_ (f_ d_ bc_)))))))) zh ?_
    rintro ⟨⟨n,q,fm,x,Ha,Hu,Ho,Hi,Hr,Hm,Hs⟩,hL,hS,hI,hz⟩
    dsimp only at hL hS hI hz ⊢
    obtain⟨sv1,es1,ce1,ef1,cf1,qf1,Hq1,hHs1,hrQ1,hEk1,hEf1,hqf1⟩:=hS
    subst hHs1
    have hqm:=hL.len
    have hnq:=hL.le
    obtain⟨hxl,hyl⟩:=mw_ hz (by omega)
    refine ca_ (w_ (p_ d_ (p_ d_ (p_ (e_ (e_ (e_ (e_ (e_ (e_ d_)))))) (an_ (e_ (e_ (e_ (e_ (e_ (e_ d_)))))))))) (Zz 4 ?_))
    refine i_ (cG_ hrQ1 ah_ rfl) rfl ?_
    refine Zi 0 (fun hr4=>?_) fun hr4=>?_
    ·refine Zz 8 ?_
     refine q_ 0 [0,1,2,3,4,5,6] zk zs (Zz 4 ?_)
     refine T_ rfl (aU_ (ff_ (E:=(EA m hm (EngB.mk g pb ab ub ob ib rb sb lad lcap (ai_ (uniq [] p))) b2 b3 b4 kb fb)) (nw:=q) (Hs:=((b4,.cells #[sv1] 37 (0,0))::(kb,.map es1 ce1)::([(fb,.map ef1 cf1)]++Hq1))) ⟨sv1,es1,ce1,ef1,cf1,qf1,Hq1,rfl,hrQ1,hEk1,hEf1,hqf1⟩ aH_ rfl zp) (show _=Value.int .i64 (List.length q:Int) from rfl)) rfl (Zi 1 (fun hr5=>?_) fun hr5=>?_)
     ·refine Zz 9 ?_
      refine n_ (rA_ hrQ1 (by omega)) rfl zp zt rfl fun⟨Hq9,hq9⟩=>?_
      dsimp only
      refine Zz 2 ?_
      refine w_ (p_ (e_ d_) (p_ (e_ d_) (p_ (e_ d_) (an_ (e_ d_))))) (ca_ (bY_ hq9 (c_ (c_ (c_ (c_ j_)))) fun fad fcap hfad hcfad hmfad hzfad=>?_))
      subst hfad
      refine Zz 3 ?_
      refine i_ (F_ eJ_ rfl rfl) rfl (A_ 0 aF_ rfl rfl rfl rfl rfl rfl (Zz 4 ?_))
      exact fk_ ⟨((Cl.mk (atS p) aad acap (hs_ q) fad fcap),0),sA_ hchk hb0 hb1 hm0' ⟨hac,ham,haz,hcfad,hmfad,hzfad⟩ rfl hL (by omega) (by omega) rfl⟩ (fun aa v h1 h2=>dm_ (us:=Cl.cells (Cl.mk (atS p) aad acap (hs_ q) fad fcap)) 0 cK_ cV_ aF_ rfl rfl rfl rfl aa v h1 h2) m_ zf
     refine Zi 8 (fun hr6=>?_) fun hr6=>?_
     ·refine Zz 7 ?_
      refine i_ (F_ eJ_ rfl rfl) rfl (A_ 0 aF_ rfl rfl rfl rfl rfl rfl (Zz 4 ?_))
      exact fk_ ⟨((Cl.mk [] none 0 [] none 0),2),ee_ hchk hb0 hb1 hm0' (by rw[if_neg (by assumption)]) hL.nd hL.der (by omega)⟩ (fun aa v h1 h2=>dm_ (us:=Cl.cells (Cl.mk [] none 0 [] none 0)) 0 cK_ cV_ aF_ rfl rfl rfl rfl aa v h1 h2) m_ (fun v _ h=>by exact⟨.inl rfl,.inl rfl,trivial⟩)
     refine Zz 5 ?_
     refine i_ (F_ eJ_ rfl rfl) rfl (A_ 0 aF_ rfl rfl rfl rfl rfl rfl (Zz 4 ?_))
     exact fk_ ⟨((Cl.mk [] none 0 [] none 0),3),ee_ hchk hb0 hb1 hm0' (by rw[if_pos (by assumption)]) hL.nd hL.der (by omega)⟩ (fun aa v h1 h2=>dm_ (us:=Cl.cells (Cl.mk [] none 0 [] none 0)) 0 cK_ cV_ aF_ rfl rfl rfl rfl aa v h1 h2) m_ (fun v _ h=>by exact⟨.inl rfl,.inl rfl,trivial⟩)
    have hlf:n<List.length q:=by omega
    obtain⟨f,hf⟩:∃ e0,q[n]? = some e0:=⟨_,List.getElem?_eq_getElem hlf⟩
    have hmf:f∈q:=List.mem_of_getElem? hf
    have hfd:=hL.der f hmf
    have hform:=hfd.form hvk
    obtain⟨hxl1,hyl1⟩:=mw_ (hY_ hz (decide (f∈fm)) f) (by omega)
    refine Zz 11 ?_
    refine i_ (az_ hrQ1 ah_ z_ rfl rfl (by omega) (by omega)) rfl (i_ (fJ_ hrQ1 zp ba_ z_ rfl (Fc.cells_len _) (by decide) (x_ Fc.cells_len hf)) rfl (L_ Z_ rfl fun b6=>A_ 0 z_ rfl rfl rfl rfl rfl rfl (Zz 6 ?_)))
    refine n_ (sb_ (EngB.mk g pb ab ub ob ib rb sb lad lcap (ai_ (uniq [] p))) (EA m hm (EngB.mk g pb ab ub ob ib rb sb lad lcap (ai_ (uniq [] p))) b2 b3 b4 kb fb) x f q fm ((b4,.cells #[sv1] 37 (0,0))::(kb,.map es1 ce1)::([(fb,.map ef1 cf1)]++Hq1)) ⟨sv1,es1,ce1,ef1,cf1,qf1,Hq1,rfl,hrQ1,hEk1,hEf1,hqf1⟩ Ha Hu Ho Hi Hr Hm hI hxl hyl) rfl (o_ (c_ (c_ (c_ (c_ (c_ j_))))) (o_ (c_ (c_ (c_ (c_ (c_ j_))))) (o_ (c_ (c_ (c_ (c_ (c_ j_))))) (o_ (c_ (c_ (c_ (c_ (c_ j_))))) (o_ (c_ (c_ (c_ (c_ (c_ j_))))) (o_ (c_ (c_ (c_ (c_ (c_ j_))))) (f_ (c_ (c_ (c_ d_))) (f_ (c_ (c_ (c_ d_))) (o_ (c_ (c_ (c_ j_))) (c_ (c_ K_))))))))))) zf rfl fun⟨⟨Ha1,Hu1,Ho1,Hi1,Hr1,Hm1⟩,hI1⟩=>?_
    dsimp only
    refine w_ rN_ (Zz 2 ?_)
    refine w_ (p_ (e_ (e_ (e_ (e_ (e_ (e_ d_)))))) (p_ (e_ (e_ (e_ (e_ (e_ (e_ d_)))))) (p_ (e_ (e_ (e_ (e_ (e_ (e_ (e_ (e_ d_)))))))) (p_ (e_ (e_ (e_ (e_ (e_ (e_ (e_ (e_ d_)))))))) (an_ (e_ (e_ (e_ (e_ (e_ (e_ (e_ Y_)))))))))))) (Zz 4 ?_)
    rcases fU_ hform with hk|hk|hk
    ·refine i_ (aU_ (ge_ pN_ Tryz.sizeOf82 rfl rfl (by omega) (by omega)) (show _=zp_ b5 1 from by rw[hk];rfl)) rfl ?_
     refine Zz 6 ?_
     refine el_ (H':=((b1,.cells #[.slice none 0 0,.slice none 0 0] 39 (0,0))::((b5,.cells #[.slice none 0 0,.slice (some ⟨r1,0,none⟩) 6 6,.slice (some ⟨r2,0,none⟩) 4 4,.slice (some ⟨r3,0,none⟩) 2 2] 83 (0,0))::((b6,.cells #[.int .i64 f.kind,str f.a,str f.b,str f.r,.int .i64 f.lo,.int .i64 f.hi] 24 (0,0))::(Ha1++(Hu1++(Ho1++(Hi1++(Hr1++(Hm1++((b4,.cells #[sv1] 37 (0,0))::(kb,.map es1 ce1)::([(fb,.map ef1 cf1)]++Hq1)))))))))))) (f_ (c_ (c_ (c_ d_))) (f_ (c_ (c_ (c_ d_))) (f_ (c_ (c_ d_)) (o_ (c_ (c_ j_)) (o_ (c_ (c_ j_)) (o_ (c_ (c_ j_)) (o_ (c_ (c_ j_)) (o_ (c_ (c_ j_)) (o_ (c_ (c_ j_)) (f_ d_ (f_ d_ (o_ j_ bc_)))))))))))) (fun v _ h=>h) ?_
     refine X_ (ι:={y:Nat×Hp // y.1≤6∧((EA m hm (EngB.mk g pb ab ub ob ib rb sb lad lcap (ai_ (uniq [] p))) b2 b3 b4 kb fb)).St (rls (bi_ m) idk (aC_ (uniq [] p)) (Ix.add x (decide (f∈fm)) f) f y.1 (q,fm)).1 (rls (bi_ m) idk (aC_ (uniq [] p)) (Ix.add x (decide (f∈fm)) f) f y.1 (q,fm)).2 y.2∧(y.1=0∨((rls (bi_ m) idk (aC_ (uniq [] p)) (Ix.add x (decide (f∈fm)) f) f y.1 (q,fm)).1).length≤m)}) (fun y=>[(0,.slice pad (List.length p) pcap),(1,.int .i64 bu),(4,zp_ b1 0),(7,zp_ b2 0),(8,zp_ b3 0),(9,zp_ b4 0),(10,.slice aad (List.length (atS p)) acap),(11,zp_ b5 0),(12,.int .i64 (n:Int)),(13,zp_ b6 0),(60,.slice (some ⟨r1,0,none⟩) 6 6),(61,.int .i64 6),(62,.int .i64 (y.1.1:Int))]) (fun y=>((b1,.cells #[.slice none 0 0,.slice none 0 0] 39 (0,0))::((b5,.cells #[.slice none 0 0,.slice (some ⟨r1,0,none⟩) 6 6,.slice (some ⟨r2,0,none⟩) 4 4,.slice (some ⟨r3,0,none⟩) 2 2] 83 (0,0))::((b6,.cells #[.int .i64 f.kind,str f.a,str f.b,str f.r,.int .i64 f.lo,.int .i64 f.hi] 24 (0,0))::(Ha1++(Hu1++(Ho1++(Hi1++(Hr1++(Hm1++y.1.2)))))))))) (fun y=>[aq_ (some ⟨r1,0,none⟩) (List.flatMap fvC (rlV g 1)),aq_ (some ⟨r2,0,none⟩) (List.flatMap fvC (rlV g 2)),aq_ (some ⟨r3,0,none⟩) (List.flatMap fvC (rlV g 3)),aq_ aad (List.flatMap aS_ (atS p)),mlF Tryz.prog 145 Ky.val Pc.cells pb (aC_ (uniq [] p)) adr,ef_ g (.cells #[.map (some pb),.slice lad (List.length (ai_ (uniq [] p))) lcap,.map (some kb),.func (.func 41) #[] #[zp_ b2 0,zp_ b3 0,zp_ b4 0],.map (some ab),.map (some ub),.map (some ob),.map (some ib),.map (some rb),.map (some sb),.map (some fb)] 80 (0,0)),ef_ b3 (.cells #[.int .i64 (m:Int)] 3 (0,0)),ef_ b2 (.cells #[zp_ g 0] 71 (0,0)),aq_ lad (List.flatMap aS_ (ai_ (uniq [] p))),aq_ pad (List.flatMap Pc.cells p),ih_]) (fun y=>6 - y.1.1) ⟨((0:Nat),((b4,.cells #[sv1] 37 (0,0))::(kb,.map es1 ce1)::([(fb,.map ef1 cf1)]++Hq1))),by omega,by exact⟨sv1,es1,ce1,ef1,cf1,qf1,Hq1,rfl,hrQ1,hEk1,hEf1,hqf1⟩,.inl rfl⟩ zl zp zh ?_
     rintro ⟨⟨j,Hs⟩,hj,hS2,hjm⟩
     dsimp only at hj hS2 hjm ⊢
     refine Zi 2 (fun hr7=>?_) fun hr7=>?_
     ·have ej:j=6:=by omega
      have hjl:((rls (bi_ m) idk (aC_ (uniq [] p)) (Ix.add x (decide (f∈fm)) f) f j (q,fm)).1).length≤m:=hjm.resolve_left (by omega)
      rw[ej]at hjl hS2
      refine Zz 12 ?_
      exact C_ ⟨(n+1,(rls (bi_ m) idk (aC_ (uniq [] p)) (Ix.add x (decide (f∈fm)) f) f 6 (q,fm)).1,(rls (bi_ m) idk (aC_ (uniq [] p)) (Ix.add x (decide (f∈fm)) f) f 6 (q,fm)).2,(Ix.add x (decide (f∈fm)) f),Ha1,Hu1,Ho1,Hi1,Hr1,Hm1,Hs),(hx_ hvk hL hf (by have e:nrl f=6:=(by unfold nrl;simp[hk]);rw[e]) (by omega)),(by exact hS2),hI1,(hY_ hz _ f)⟩ (by dsimp only;omega) zl (f_ d_ (f_ d_ (o_ (c_ j_) (o_ (c_ j_) (o_ (c_ j_) (o_ (c_ j_) (o_ (c_ j_) (o_ (c_ j_) K_)))))))) zh
     have hlfv:j<List.length (rlV g 1):=by show j<6;omega
     obtain⟨fv,hfv⟩:∃ e0,(rlV g 1)[j]? = some e0:=⟨_,List.getElem?_eq_getElem hlfv⟩
     have hmfv:fv∈(rlV g 1):=List.mem_of_getElem? hfv
     refine Zz 10 ?_
     refine i_ (aa_ bg_ eH_ rfl rfl (fun v _ h=>H_ (n:=1) hg_ (by decide) (by exact h.1) hfv) (by omega) (by omega)) rfl (i_ (ay_ (ad:=(some ⟨r1,0,none⟩)) Tryz.isAgg75 rfl zf (x_ hg_ hfv 0 _ rfl)) rfl (Zz 7 ?_))
     obtain⟨nr,rfl,hT⟩:=rF_ (EngB.mk g pb ab ub ob ib rb sb lad lcap (ai_ (uniq [] p))) (EA m hm (EngB.mk g pb ab ub ob ib rb sb lad lcap (ai_ (uniq [] p))) b2 b3 b4 kb fb) (EngA.mk adr (fun _=>(none,0)) (fun _=>(none,0)) (fun _=>(none,0)) (fun _=>(none,0)) (fun _=>(none,0)) (fun _=>(none,0))) (aC_ (uniq [] p)) (Ix.add x (decide (f∈fm)) f) f (rls (bi_ m) idk (aC_ (uniq [] p)) (Ix.add x (decide (f∈fm)) f) f j (q,fm)).1 (rls (bi_ m) idk (aC_ (uniq [] p)) (Ix.add x (decide (f∈fm)) f) f j (q,fm)).2 Hs hS2 Ha1 Hu1 Ho1 Hi1 Hr1 Hm1 hI1 hpl hxl1 hyl1 (fun hk=>(fV_ hform hk).2.2) (fun _ y hy=>(hvk y (pm9.1 hy).1).num (.inr (pm9.1 hy).2.1)) hk j hfv
     refine ao_ (first:=[zp_ g 0]) (vs:=[Fc.val f]) (cap:=[]) hT rfl rfl (ni_ (o_ (c_ (c_ (c_ j_))) (o_ (c_ (c_ (c_ j_))) (o_ (c_ (c_ (c_ j_))) (o_ (c_ (c_ (c_ j_))) (o_ (c_ (c_ (c_ j_))) (o_ (c_ (c_ (c_ j_))) (c_ (c_ K_))))))))) (fun v _ h=>by exact⟨h.2.2.2.2.2.1,h.2.2.2.2.1,⟨h.2.2.2.2.2.2.2.1,h.2.2.2.2.2.2.1,h.2.2.2.2.2.1⟩,trivial⟩) rfl fun⟨Hs3,hS3⟩=>w_ lm_ (Zz 2 ?_)
     refine w_ (p_ (e_ (e_ (e_ (e_ (e_ (e_ (e_ d_))))))) (p_ (e_ (e_ (e_ (e_ (e_ (e_ (e_ d_))))))) (an_ (e_ (e_ (e_ (e_ (e_ (e_ Y_))))))))) (Zz 2 ?_)
     refine q_ 0 [0,1,2,3,4,5,6] zk zs (Zz 4 ?_)
     refine T_ rfl (aU_ (ff_ (E:=(EA m hm (EngB.mk g pb ab ub ob ib rb sb lad lcap (ai_ (uniq [] p))) b2 b3 b4 kb fb)) (nw:=(rls (bi_ m) idk (aC_ (uniq [] p)) (Ix.add x (decide (f∈fm)) f) f (j+1) (q,fm)).1) (Hs:=Hs3) hS3 aH_ rfl zp) (show _=Value.int .i64 (List.length (rls (bi_ m) idk (aC_ (uniq [] p)) (Ix.add x (decide (f∈fm)) f) f (j+1) (q,fm)).1:Int) from rfl)) rfl (Zi 1 (fun hr8=>?_) fun hr8=>?_)
     ·refine Zz 11 ?_
      exact C_ ⟨(j+1,Hs3),hlfv,by exact hS3,.inr (by dsimp only;omega)⟩ (by dsimp only;omega) zl zp zh
     refine Zz 9 ?_
     refine q_ 0 [0,1,2,3,4,5,6] zk zs (Zz 4 ?_)
     refine T_ rfl (aU_ (ff_ (E:=(EA m hm (EngB.mk g pb ab ub ob ib rb sb lad lcap (ai_ (uniq [] p))) b2 b3 b4 kb fb)) (nw:=(rls (bi_ m) idk (aC_ (uniq [] p)) (Ix.add x (decide (f∈fm)) f) f (j+1) (q,fm)).1) (Hs:=Hs3) hS3 aH_ rfl zp) (show _=Value.int .i64 (List.length (rls (bi_ m) idk (aC_ (uniq [] p)) (Ix.add x (decide (f∈fm)) f) f (j+1) (q,fm)).1:Int) from rfl)) rfl (Zi 1 (fun hr9=>?_) fun hr9=>?_)
     ·omega
     refine Zi 8 (fun hr10=>?_) fun hr10=>?_
     ·refine Zz 7 ?_
      refine i_ (F_ eJ_ rfl rfl) rfl (A_ 0 aF_ rfl rfl rfl rfl rfl rfl (Zz 4 ?_))
      exact fk_ ⟨((Cl.mk [] none 0 [] none 0),2),ee_ hchk hb0 hb1 hm0' (by rw[if_neg (by assumption)]) (ci_ hvk hL hf (j+1) rfl).1 (ci_ hvk hL hf (j+1) rfl).2.2.1 (by omega)⟩ (fun aa v h1 h2=>dm_ (us:=Cl.cells (Cl.mk [] none 0 [] none 0)) 0 cK_ cV_ aF_ rfl rfl rfl rfl aa v h1 h2) m_ (fun v _ h=>by exact⟨.inl rfl,.inl rfl,trivial⟩)
     refine Zz 5 ?_
     refine i_ (F_ eJ_ rfl rfl) rfl (A_ 0 aF_ rfl rfl rfl rfl rfl rfl (Zz 4 ?_))
     exact fk_ ⟨((Cl.mk [] none 0 [] none 0),3),ee_ hchk hb0 hb1 hm0' (by rw[if_pos (by assumption)]) (ci_ hvk hL hf (j+1) rfl).1 (ci_ hvk hL hf (j+1) rfl).2.2.1 (by omega)⟩ (fun aa v h1 h2=>dm_ (us:=Cl.cells (Cl.mk [] none 0 [] none 0)) 0 cK_ cV_ aF_ rfl rfl rfl rfl aa v h1 h2) m_ (fun v _ h=>by exact⟨.inl rfl,.inl rfl,trivial⟩)
    ·refine i_ (aU_ (ge_ pN_ Tryz.sizeOf82 rfl rfl (by omega) (by omega)) (show _=zp_ b5 2 from by rw[hk];rfl)) rfl ?_
     refine Zz 6 ?_
     refine el_ (H':=((b1,.cells #[.slice none 0 0,.slice none 0 0] 39 (0,0))::((b5,.cells #[.slice none 0 0,.slice (some ⟨r1,0,none⟩) 6 6,.slice (some ⟨r2,0,none⟩) 4 4,.slice (some ⟨r3,0,none⟩) 2 2] 83 (0,0))::((b6,.cells #[.int .i64 f.kind,str f.a,str f.b,str f.r,.int .i64 f.lo,.int .i64 f.hi] 24 (0,0))::(Ha1++(Hu1++(Ho1++(Hi1++(Hr1++(Hm1++((b4,.cells #[sv1] 37 (0,0))::(kb,.map es1 ce1)::([(fb,.map ef1 cf1)]++Hq1)))))))))))) (f_ (c_ (c_ (c_ d_))) (f_ (c_ (c_ (c_ d_))) (f_ (c_ (c_ d_)) (o_ (c_ (c_ j_)) (o_ (c_ (c_ j_)) (o_ (c_ (c_ j_)) (o_ (c_ (c_ j_)) (o_ (c_ (c_ j_)) (o_ (c_ (c_ j_)) (f_ d_ (f_ d_ (o_ j_ bc_)))))))))))) (fun v _ h=>h) ?_
     refine X_ (ι:={y:Nat×Hp // y.1≤4∧((EA m hm (EngB.mk g pb ab ub ob ib rb sb lad lcap (ai_ (uniq [] p))) b2 b3 b4 kb fb)).St (rls (bi_ m) idk (aC_ (uniq [] p)) (Ix.add x (decide (f∈fm)) f) f y.1 (q,fm)).1 (rls (bi_ m) idk (aC_ (uniq [] p)) (Ix.add x (decide (f∈fm)) f) f y.1 (q,fm)).2 y.2∧(y.1=0∨((rls (bi_ m) idk (aC_ (uniq [] p)) (Ix.add x (decide (f∈fm)) f) f y.1 (q,fm)).1).length≤m)}) (fun y=>[(0,.slice pad (List.length p) pcap),(1,.int .i64 bu),(4,zp_ b1 0),(7,zp_ b2 0),(8,zp_ b3 0),(9,zp_ b4 0),(10,.slice aad (List.length (atS p)) acap),(11,zp_ b5 0),(12,.int .i64 (n:Int)),(13,zp_ b6 0),(60,.slice (some ⟨r2,0,none⟩) 4 4),(61,.int .i64 4),(62,.int .i64 (y.1.1:Int))]) (fun y=>((b1,.cells #[.slice none 0 0,.slice none 0 0] 39 (0,0))::((b5,.cells #[.slice none 0 0,.slice (some ⟨r1,0,none⟩) 6 6,.slice (some ⟨r2,0,none⟩) 4 4,.slice (some ⟨r3,0,none⟩) 2 2] 83 (0,0))::((b6,.cells #[.int .i64 f.kind,str f.a,str f.b,str f.r,.int .i64 f.lo,.int .i64 f.hi] 24 (0,0))::(Ha1++(Hu1++(Ho1++(Hi1++(Hr1++(Hm1++y.1.2)))))))))) (fun y=>[aq_ (some ⟨r1,0,none⟩) (List.flatMap fvC (rlV g 1)),aq_ (some ⟨r2,0,none⟩) (List.flatMap fvC (rlV g 2)),aq_ (some ⟨r3,0,none⟩) (List.flatMap fvC (rlV g 3)),aq_ aad (List.flatMap aS_ (atS p)),mlF Tryz.prog 145 Ky.val Pc.cells pb (aC_ (uniq [] p)) adr,ef_ g (.cells #[.map (some pb),.slice lad (List.length (ai_ (uniq [] p))) lcap,.map (some kb),.func (.func 41) #[] #[zp_ b2 0,zp_ b3 0,zp_ b4 0],.map (some ab),.map (some ub),.map (some ob),.map (some ib),.map (some rb),.map (some sb),.map (some fb)] 80 (0,0)),ef_ b3 (.cells #[.int .i64 (m:Int)] 3 (0,0)),ef_ b2 (.cells #[zp_ g 0] 71 (0,0)),aq_ lad (List.flatMap aS_ (ai_ (uniq [] p))),aq_ pad (List.flatMap Pc.cells p),ih_]) (fun y=>4 - y.1.1) ⟨((0:Nat),((b4,.cells #[sv1] 37 (0,0))::(kb,.map es1 ce1)::([(fb,.map ef1 cf1)]++Hq1))),by omega,by exact⟨sv1,es1,ce1,ef1,cf1,qf1,Hq1,rfl,hrQ1,hEk1,hEf1,hqf1⟩,.inl rfl⟩ zl zp zh ?_
     rintro ⟨⟨j,Hs⟩,hj,hS2,hjm⟩
     dsimp only at hj hS2 hjm ⊢
     refine Zi 2 (fun hr11=>?_) fun hr11=>?_
     ·have ej:j=4:=by omega
      have hjl:((rls (bi_ m) idk (aC_ (uniq [] p)) (Ix.add x (decide (f∈fm)) f) f j (q,fm)).1).length≤m:=hjm.resolve_left (by omega)
      rw[ej]at hjl hS2
      refine Zz 12 ?_
      exact C_ ⟨(n+1,(rls (bi_ m) idk (aC_ (uniq [] p)) (Ix.add x (decide (f∈fm)) f) f 4 (q,fm)).1,(rls (bi_ m) idk (aC_ (uniq [] p)) (Ix.add x (decide (f∈fm)) f) f 4 (q,fm)).2,(Ix.add x (decide (f∈fm)) f),Ha1,Hu1,Ho1,Hi1,Hr1,Hm1,Hs),(hx_ hvk hL hf (by have e:nrl f=4:=(by unfold nrl;simp[hk]);rw[e]) (by omega)),(by exact hS2),hI1,(hY_ hz _ f)⟩ (by dsimp only;omega) zl (f_ d_ (f_ d_ (o_ (c_ j_) (o_ (c_ j_) (o_ (c_ j_) (o_ (c_ j_) (o_ (c_ j_) (o_ (c_ j_) K_)))))))) zh
     have hlfv:j<List.length (rlV g 2):=by show j<4;omega
     obtain⟨fv,hfv⟩:∃ e0,(rlV g 2)[j]? = some e0:=⟨_,List.getElem?_eq_getElem hlfv⟩
     have hmfv:fv∈(rlV g 2):=List.mem_of_getElem? hfv
     refine Zz 10 ?_
     refine i_ (aa_ bg_ eH_ rfl rfl (fun v _ h=>H_ (n:=1) hg_ (by decide) (by exact h.2.1) hfv) (by omega) (by omega)) rfl (i_ (ay_ (ad:=(some ⟨r2,0,none⟩)) Tryz.isAgg75 rfl zf (x_ hg_ hfv 0 _ rfl)) rfl (Zz 7 ?_))
     obtain⟨nr,rfl,hT⟩:=rE_ (EngB.mk g pb ab ub ob ib rb sb lad lcap (ai_ (uniq [] p))) (EA m hm (EngB.mk g pb ab ub ob ib rb sb lad lcap (ai_ (uniq [] p))) b2 b3 b4 kb fb) (EngA.mk adr (fun _=>(none,0)) (fun _=>(none,0)) (fun _=>(none,0)) (fun _=>(none,0)) (fun _=>(none,0)) (fun _=>(none,0))) (aC_ (uniq [] p)) (Ix.add x (decide (f∈fm)) f) f (rls (bi_ m) idk (aC_ (uniq [] p)) (Ix.add x (decide (f∈fm)) f) f j (q,fm)).1 (rls (bi_ m) idk (aC_ (uniq [] p)) (Ix.add x (decide (f∈fm)) f) f j (q,fm)).2 Hs hS2 Ha1 Hu1 Ho1 Hi1 Hr1 Hm1 hI1 hpl hxl1 hyl1 (fun hk=>(fV_ hform hk).2.2) (fun _ y hy=>(hvk y (pm9.1 hy).1).num (.inr (pm9.1 hy).2.1)) hk j hfv
     refine ao_ (first:=[zp_ g 0]) (vs:=[Fc.val f]) (cap:=[]) hT rfl rfl (ni_ (o_ (c_ (c_ (c_ j_))) (o_ (c_ (c_ (c_ j_))) (o_ (c_ (c_ (c_ j_))) (o_ (c_ (c_ (c_ j_))) (o_ (c_ (c_ (c_ j_))) (o_ (c_ (c_ (c_ j_))) (c_ (c_ K_))))))))) (fun v _ h=>by exact⟨h.2.2.2.2.2.1,h.2.2.2.2.1,⟨h.2.2.2.2.2.2.2.1,h.2.2.2.2.2.2.1,h.2.2.2.2.2.1⟩,trivial⟩) rfl fun⟨Hs3,hS3⟩=>w_ lm_ (Zz 2 ?_)
     refine w_ (p_ (e_ (e_ (e_ (e_ (e_ (e_ (e_ d_))))))) (p_ (e_ (e_ (e_ (e_ (e_ (e_ (e_ d_))))))) (an_ (e_ (e_ (e_ (e_ (e_ (e_ Y_))))))))) (Zz 2 ?_)
     refine q_ 0 [0,1,2,3,4,5,6] zk zs (Zz 4 ?_)
     refine T_ rfl (aU_ (ff_ (E:=(EA m hm (EngB.mk g pb ab ub ob ib rb sb lad lcap (ai_ (uniq [] p))) b2 b3 b4 kb fb)) (nw:=(rls (bi_ m) idk (aC_ (uniq [] p)) (Ix.add x (decide (f∈fm)) f) f (j+1) (q,fm)).1) (Hs:=Hs3) hS3 aH_ rfl zp) (show _=Value.int .i64 (List.length (rls (bi_ m) idk (aC_ (uniq [] p)) (Ix.add x (decide (f∈fm)) f) f (j+1) (q,fm)).1:Int) from rfl)) rfl (Zi 1 (fun hr12=>?_) fun hr12=>?_)
     ·refine Zz 11 ?_
      exact C_ ⟨(j+1,Hs3),hlfv,by exact hS3,.inr (by dsimp only;omega)⟩ (by dsimp only;omega) zl zp zh
     refine Zz 9 ?_
     refine q_ 0 [0,1,2,3,4,5,6] zk zs (Zz 4 ?_)
     refine T_ rfl (aU_ (ff_ (E:=(EA m hm (EngB.mk g pb ab ub ob ib rb sb lad lcap (ai_ (uniq [] p))) b2 b3 b4 kb fb)) (nw:=(rls (bi_ m) idk (aC_ (uniq [] p)) (Ix.add x (decide (f∈fm)) f) f (j+1) (q,fm)).1) (Hs:=Hs3) hS3 aH_ rfl zp) (show _=Value.int .i64 (List.length (rls (bi_ m) idk (aC_ (uniq [] p)) (Ix.add x (decide (f∈fm)) f) f (j+1) (q,fm)).1:Int) from rfl)) rfl (Zi 1 (fun hr13=>?_) fun hr13=>?_)
     ·omega
     refine Zi 8 (fun hr14=>?_) fun hr14=>?_
     ·refine Zz 7 ?_
      refine i_ (F_ eJ_ rfl rfl) rfl (A_ 0 aF_ rfl rfl rfl rfl rfl rfl (Zz 4 ?_))
      exact fk_ ⟨((Cl.mk [] none 0 [] none 0),2),ee_ hchk hb0 hb1 hm0' (by rw[if_neg (by assumption)]) (ci_ hvk hL hf (j+1) rfl).1 (ci_ hvk hL hf (j+1) rfl).2.2.1 (by omega)⟩ (fun aa v h1 h2=>dm_ (us:=Cl.cells (Cl.mk [] none 0 [] none 0)) 0 cK_ cV_ aF_ rfl rfl rfl rfl aa v h1 h2) m_ (fun v _ h=>by exact⟨.inl rfl,.inl rfl,trivial⟩)
     refine Zz 5 ?_
     refine i_ (F_ eJ_ rfl rfl) rfl (A_ 0 aF_ rfl rfl rfl rfl rfl rfl (Zz 4 ?_))
     exact fk_ ⟨((Cl.mk [] none 0 [] none 0),3),ee_ hchk hb0 hb1 hm0' (by rw[if_pos (by assumption)]) (ci_ hvk hL hf (j+1) rfl).1 (ci_ hvk hL hf (j+1) rfl).2.2.1 (by omega)⟩ (fun aa v h1 h2=>dm_ (us:=Cl.cells (Cl.mk [] none 0 [] none 0)) 0 cK_ cV_ aF_ rfl rfl rfl rfl aa v h1 h2) m_ (fun v _ h=>by exact⟨.inl rfl,.inl rfl,trivial⟩)
    refine i_ (aU_ (ge_ pN_ Tryz.sizeOf82 rfl rfl (by omega) (by omega)) (show _=zp_ b5 3 from by rw[hk];rfl)) rfl ?_
    refine Zz 6 ?_
    refine el_ (H':=((b1,.cells #[.slice none 0 0,.slice none 0 0] 39 (0,0))::((b5,.cells #[.slice none 0 0,.slice (some ⟨r1,0,none⟩) 6 6,.slice (some ⟨r2,0,none⟩) 4 4,.slice (some ⟨r3,0,none⟩) 2 2] 83 (0,0))::((b6,.cells #[.int .i64 f.kind,str f.a,str f.b,str f.r,.int .i64 f.lo,.int .i64 f.hi] 24 (0,0))::(Ha1++(Hu1++(Ho1++(Hi1++(Hr1++(Hm1++((b4,.cells #[sv1] 37 (0,0))::(kb,.map es1 ce1)::([(fb,.map ef1 cf1)]++Hq1)))))))))))) (f_ (c_ (c_ (c_ d_))) (f_ (c_ (c_ (c_ d_))) (f_ (c_ (c_ d_)) (o_ (c_ (c_ j_)) (o_ (c_ (c_ j_)) (o_ (c_ (c_ j_)) (o_ (c_ (c_ j_)) (o_ (c_ (c_ j_)) (o_ (c_ (c_ j_)) (f_ d_ (f_ d_ (o_ j_ bc_)))))))))))) (fun v _ h=>h) ?_
    refine X_ (ι:={y:Nat×Hp // y.1≤2∧((EA m hm (EngB.mk g pb ab ub ob ib rb sb lad lcap (ai_ (uniq [] p))) b2 b3 b4 kb fb)).St (rls (bi_ m) idk (aC_ (uniq [] p)) (Ix.add x (decide (f∈fm)) f) f y.1 (q,fm)).1 (rls (bi_ m) idk (aC_ (uniq [] p)) (Ix.add x (decide (f∈fm)) f) f y.1 (q,fm)).2 y.2∧(y.1=0∨((rls (bi_ m) idk (aC_ (uniq [] p)) (Ix.add x (decide (f∈fm)) f) f y.1 (q,fm)).1).length≤m)}) (fun y=>[(0,.slice pad (List.length p) pcap),(1,.int .i64 bu),(4,zp_ b1 0),(7,zp_ b2 0),(8,zp_ b3 0),(9,zp_ b4 0),(10,.slice aad (List.length (atS p)) acap),(11,zp_ b5 0),(12,.int .i64 (n:Int)),(13,zp_ b6 0),(60,.slice (some ⟨r3,0,none⟩) 2 2),(61,.int .i64 2),(62,.int .i64 (y.1.1:Int))]) (fun y=>((b1,.cells #[.slice none 0 0,.slice none 0 0] 39 (0,0))::((b5,.cells #[.slice none 0 0,.slice (some ⟨r1,0,none⟩) 6 6,.slice (some ⟨r2,0,none⟩) 4 4,.slice (some ⟨r3,0,none⟩) 2 2] 83 (0,0))::((b6,.cells #[.int .i64 f.kind,str f.a,str f.b,str f.r,.int .i64 f.lo,.int .i64 f.hi] 24 (0,0))::(Ha1++(Hu1++(Ho1++(Hi1++(Hr1++(Hm1++y.1.2)))))))))) (fun y=>[aq_ (some ⟨r1,0,none⟩) (List.flatMap fvC (rlV g 1)),aq_ (some ⟨r2,0,none⟩) (List.flatMap fvC (rlV g 2)),aq_ (some ⟨r3,0,none⟩) (List.flatMap fvC (rlV g 3)),aq_ aad (List.flatMap aS_ (atS p)),mlF Tryz.prog 145 Ky.val Pc.cells pb (aC_ (uniq [] p)) adr,ef_ g (.cells #[.map (some pb),.slice lad (List.length (ai_ (uniq [] p))) lcap,.map (some kb),.func (.func 41) #[] #[zp_ b2 0,zp_ b3 0,zp_ b4 0],.map (some ab),.map (some ub),.map (some ob),.map (some ib),.map (some rb),.map (some sb),.map (some fb)] 80 (0,0)),ef_ b3 (.cells #[.int .i64 (m:Int)] 3 (0,0)),ef_ b2 (.cells #[zp_ g 0] 71 (0,0)),aq_ lad (List.flatMap aS_ (ai_ (uniq [] p))),aq_ pad (List.flatMap Pc.cells p),ih_]) (fun y=>2 - y.1.1) ⟨((0:Nat),((b4,.cells #[sv1] 37 (0,0))::(kb,.map es1 ce1)::([(fb,.map ef1 cf1)]++Hq1))),by omega,by exact⟨sv1,es1,ce1,ef1,cf1,qf1,Hq1,rfl,hrQ1,hEk1,hEf1,hqf1⟩,.inl rfl⟩ zl zp zh ?_
    rintro ⟨⟨j,Hs⟩,hj,hS2,hjm⟩
    dsimp only at hj hS2 hjm ⊢
    refine Zi 2 (fun hr15=>?_) fun hr15=>?_
    ·have ej:j=2:=by omega
     have hjl:((rls (bi_ m) idk (aC_ (uniq [] p)) (Ix.add x (decide (f∈fm)) f) f j (q,fm)).1).length≤m:=hjm.resolve_left (by omega)
     rw[ej]at hjl hS2
     refine Zz 12 ?_
     exact C_ ⟨(n+1,(rls (bi_ m) idk (aC_ (uniq [] p)) (Ix.add x (decide (f∈fm)) f) f 2 (q,fm)).1,(rls (bi_ m) idk (aC_ (uniq [] p)) (Ix.add x (decide (f∈fm)) f) f 2 (q,fm)).2,(Ix.add x (decide (f∈fm)) f),Ha1,Hu1,Ho1,Hi1,Hr1,Hm1,Hs),(hx_ hvk hL hf (by have e:nrl f=2:=(by unfold nrl;simp[hk]);rw[e]) (by omega)),(by exact hS2),hI1,(hY_ hz _ f)⟩ (by dsimp only;omega) zl (f_ d_ (f_ d_ (o_ (c_ j_) (o_ (c_ j_) (o_ (c_ j_) (o_ (c_ j_) (o_ (c_ j_) (o_ (c_ j_) K_)))))))) zh
    have hlfv:j<List.length (rlV g 3):=by show j<2;omega
    obtain⟨fv,hfv⟩:∃ e0,(rlV g 3)[j]? = some e0:=⟨_,List.getElem?_eq_getElem hlfv⟩
    have hmfv:fv∈(rlV g 3):=List.mem_of_getElem? hfv
    refine Zz 10 ?_
    refine i_ (aa_ bg_ eH_ rfl rfl (fun v _ h=>H_ (n:=1) hg_ (by decide) (by exact h.2.2.1) hfv) (by omega) (by omega)) rfl (i_ (ay_ (ad:=(some ⟨r3,0,none⟩)) Tryz.isAgg75 rfl zf (x_ hg_ hfv 0 _ rfl)) rfl (Zz 7 ?_))
    obtain⟨nr,rfl,hT⟩:=rD_ (EngB.mk g pb ab ub ob ib rb sb lad lcap (ai_ (uniq [] p))) (EA m hm (EngB.mk g pb ab ub ob ib rb sb lad lcap (ai_ (uniq [] p))) b2 b3 b4 kb fb) (EngA.mk adr (fun _=>(none,0)) (fun _=>(none,0)) (fun _=>(none,0)) (fun _=>(none,0)) (fun _=>(none,0)) (fun _=>(none,0))) (aC_ (uniq [] p)) (Ix.add x (decide (f∈fm)) f) f (rls (bi_ m) idk (aC_ (uniq [] p)) (Ix.add x (decide (f∈fm)) f) f j (q,fm)).1 (rls (bi_ m) idk (aC_ (uniq [] p)) (Ix.add x (decide (f∈fm)) f) f j (q,fm)).2 Hs hS2 Ha1 Hu1 Ho1 Hi1 Hr1 Hm1 hI1 hpl hxl1 hyl1 (fun hk=>(fV_ hform hk).2.2) (fun _ y hy=>(hvk y (pm9.1 hy).1).num (.inr (pm9.1 hy).2.1)) hk j hfv
    refine ao_ (first:=[zp_ g 0]) (vs:=[Fc.val f]) (cap:=[]) hT rfl rfl (ni_ (o_ (c_ (c_ (c_ j_))) (o_ (c_ (c_ (c_ j_))) (o_ (c_ (c_ (c_ j_))) (o_ (c_ (c_ (c_ j_))) (o_ (c_ (c_ (c_ j_))) (o_ (c_ (c_ (c_ j_))) (c_ (c_ K_))))))))) (fun v _ h=>by exact⟨h.2.2.2.2.2.1,h.2.2.2.2.1,⟨h.2.2.2.2.2.2.2.1,h.2.2.2.2.2.2.1,h.2.2.2.2.2.1⟩,trivial⟩) rfl fun⟨Hs3,hS3⟩=>w_ lm_ (Zz 2 ?_)
    refine w_ (p_ (e_ (e_ (e_ (e_ (e_ (e_ (e_ d_))))))) (p_ (e_ (e_ (e_ (e_ (e_ (e_ (e_ d_))))))) (an_ (e_ (e_ (e_ (e_ (e_ (e_ Y_))))))))) (Zz 2 ?_)
    refine q_ 0 [0,1,2,3,4,5,6] zk zs (Zz 4 ?_)
    refine T_ rfl (aU_ (ff_ (E:=(EA m hm (EngB.mk g pb ab ub ob ib rb sb lad lcap (ai_ (uniq [] p))) b2 b3 b4 kb fb)) (nw:=(rls (bi_ m) idk (aC_ (uniq [] p)) (Ix.add x (decide (f∈fm)) f) f (j+1) (q,fm)).1) (Hs:=Hs3) hS3 aH_ rfl zp) (show _=Value.int .i64 (List.length (rls (bi_ m) idk (aC_ (uniq [] p)) (Ix.add x (decide (f∈fm)) f) f (j+1) (q,fm)).1:Int) from rfl)) rfl (Zi 1 (fun hr16=>?_) fun hr16=>?_)
    ·refine Zz 11 ?_
     exact C_ ⟨(j+1,Hs3),hlfv,by exact hS3,.inr (by dsimp only;omega)⟩ (by dsimp only;omega) zl zp zh
    refine Zz 9 ?_
    refine q_ 0 [0,1,2,3,4,5,6] zk zs (Zz 4 ?_)
    refine T_ rfl (aU_ (ff_ (E:=(EA m hm (EngB.mk g pb ab ub ob ib rb sb lad lcap (ai_ (uniq [] p))) b2 b3 b4 kb fb)) (nw:=(rls (bi_ m) idk (aC_ (uniq [] p)) (Ix.add x (decide (f∈fm)) f) f (j+1) (q,fm)).1) (Hs:=Hs3) hS3 aH_ rfl zp) (show _=Value.int .i64 (List.length (rls (bi_ m) idk (aC_ (uniq [] p)) (Ix.add x (decide (f∈fm)) f) f (j+1) (q,fm)).1:Int) from rfl)) rfl (Zi 1 (fun hr17=>?_) fun hr17=>?_)
    ·omega
    refine Zi 8 (fun hr18=>?_) fun hr18=>?_
    ·refine Zz 7 ?_
     refine i_ (F_ eJ_ rfl rfl) rfl (A_ 0 aF_ rfl rfl rfl rfl rfl rfl (Zz 4 ?_))
     exact fk_ ⟨((Cl.mk [] none 0 [] none 0),2),ee_ hchk hb0 hb1 hm0' (by rw[if_neg (by assumption)]) (ci_ hvk hL hf (j+1) rfl).1 (ci_ hvk hL hf (j+1) rfl).2.2.1 (by omega)⟩ (fun aa v h1 h2=>dm_ (us:=Cl.cells (Cl.mk [] none 0 [] none 0)) 0 cK_ cV_ aF_ rfl rfl rfl rfl aa v h1 h2) m_ (fun v _ h=>by exact⟨.inl rfl,.inl rfl,trivial⟩)
    refine Zz 5 ?_
    refine i_ (F_ eJ_ rfl rfl) rfl (A_ 0 aF_ rfl rfl rfl rfl rfl rfl (Zz 4 ?_))
    exact fk_ ⟨((Cl.mk [] none 0 [] none 0),3),ee_ hchk hb0 hb1 hm0' (by rw[if_pos (by assumption)]) (ci_ hvk hL hf (j+1) rfl).1 (ci_ hvk hL hf (j+1) rfl).2.2.1 (by omega)⟩ (fun aa v h1 h2=>dm_ (us:=Cl.cells (Cl.mk [] none 0 [] none 0)) 0 cK_ cV_ aF_ rfl rfl rfl rfl aa v h1 h2) m_ (fun v _ h=>by exact⟨.inl rfl,.inl rfl,trivial⟩)
   refine Zz 6 ?_
   refine i_ (F_ eJ_ rfl rfl) rfl (A_ 0 aF_ rfl rfl rfl rfl rfl rfl (Zz 4 ?_))
   exact fk_ ⟨((Cl.mk [] none 0 [] none 0),1),mT_ (by assumption) (by omega)⟩ (fun aa v h1 h2=>dm_ (us:=Cl.cells (Cl.mk [] none 0 [] none 0)) 0 cK_ cV_ aF_ rfl rfl rfl rfl aa v h1 h2) m_ (fun v _ h=>by exact⟨.inl rfl,.inl rfl,trivial⟩)
  refine Zz 9 ?_
  refine i_ (F_ eJ_ rfl rfl) rfl (A_ 0 aF_ rfl rfl rfl rfl rfl rfl (Zz 4 ?_))
  exact fk_ ⟨((Cl.mk [] none 0 [] none 0),1),mT_ (by assumption) (by omega)⟩ (fun aa v h1 h2=>dm_ (us:=Cl.cells (Cl.mk [] none 0 [] none 0)) 0 cK_ cV_ aF_ rfl rfl rfl rfl aa v h1 h2) m_ (fun v _ h=>by exact⟨.inl rfl,.inl rfl,trivial⟩)
 refine Zz 5 ?_
 refine i_ (F_ eJ_ rfl rfl) rfl (Zz 1 ?_)
 refine A_ 0 aF_ rfl rfl rfl rfl rfl rfl (Zz 4 ?_)
 exact fk_ ⟨((Cl.mk [] none 0 [] none 0),(cq_ p)),rk_ (by assumption)⟩ (fun aa v h1 h2=>dm_ (us:=Cl.cells (Cl.mk [] none 0 [] none 0)) 0 cK_ cV_ aF_ rfl rfl rfl rfl aa v h1 h2) m_ (fun v _ h=>by exact⟨.inl rfl,.inl rfl,trivial⟩)
end Go.Proofs.YtkeanlfhghlgiaaGreatDoor
namespace Go.Proofs.YtkeanlfhghlgiaaGreatDoor
open Go Go.Sx Go.Proofs
attribute [local irreducible] Code.wp wpList wpAnyH
open Go.Vs
def qI_ (f:Fc):Bool:=decide (f=y_ f.a f.b)
def eN_ (A:List Str) (f:Fc):Bool :=
  decide (f.a∈A)&&(if f.kind=1 then decide (f.b∈A)&&qI_ f
    else if f.kind=2 then decide (f.b∈A)&&(decide (f.r≠[])&&decide (f=E_ f.a f.r f.b))
    else if f.kind=3 then decide (f.r≠[])&&(decide (f=M_ f.a f.r f.lo f.hi)&&(decide (-1099511627776≤f.lo)&&(decide (f.lo≤f.hi)&&decide (f.hi≤1099511627776))))
    else false)
abbrev SrtS (l:List Str):Prop:=l.Pairwise fun x y=>x<y
end Go.Proofs.YtkeanlfhghlgiaaGreatDoor
namespace Go.Proofs.YtkeanlfhghlgiaaGreatDoor
open Go Go.Sx Go.Proofs
attribute [local irreducible] Code.wp wpList wpAnyH
open Go.Vs
theorem SrtS.nodup {l:List Str} (h:SrtS l):l.Nodup:=by
  unfold List.Nodup
  refine List.Pairwise.imp ?_ h
  intro a b hab e
  exact hK_ b (e▸hab)
def iv_ (fs:List Fc) (f:Fc):Bool:=fs.any fun x=>(decide (x=f)||decide (x=y_ f.a [33]))||((decide (f=M_ f.a f.r f.lo f.hi)&&decide (x=M_ f.a f.r x.lo x.hi))&&(decide (f.lo≤x.lo)&&decide (x.hi≤f.hi)))
def kc_ (f x:Fc):Bool:=(decide (x=f)||decide (x=y_ f.a [33]))||((decide (f=M_ f.a f.r f.lo f.hi)&&decide (x=M_ f.a f.r x.lo x.hi))&&(decide (f.lo≤x.lo)&&decide (x.hi≤f.hi)))
theorem any_no {α:Type} {p:α→Bool} {l:List α} {j:Nat} {x:α} (h:∀ y∈l.take j,p y=false) (hx:l[j]? = some x) (hp:p x=false):∀ y∈l.take (j+1),p y=false:=fun y hy=>by
 rw[List.take_add_one,hx]at hy
 simp only[Option.toList_some,List.mem_append,List.mem_singleton]at hy
 rcases hy with hy|rfl
 ·exact h y hy
 exact hp
theorem ok_ {α:Type} {p:α→Bool} {l:List α} {j:Nat} (h:∀ y∈l.take j,p y=false) (hj:l.length≤j):false=l.any p:=by
  rw[List.take_of_length_le hj]at h
  symm;rw[List.any_eq_false];exact fun y hy=>by simp[h y hy]
theorem gR_ {α:Type} {p:α→Bool} {l:List α} {x:α} (hx:x∈l) (hp:p x=true):true=l.any p:=(List.any_eq_true.2 ⟨x,hx,hp⟩).symm
theorem sI_ (c:Cl) (f:Fc) (hf:c.facts.length≤1000000000000):Tri Tryz.prog 18 #[Cl.val c,Fc.val f] [] [aq_ c.fad (List.flatMap Fc.cells c.facts)] (fun _:Unit=>.bool (iv_ c.facts f)) (fun _=>[]) (fun _=>[]):=by
 refine u_ Tryz.func18 rfl rfl Tryz.ntmps18 rfl fun v0=>?_
 refine Zz 2 ?_
 refine aA_ rfl rfl fun b1=>aA_ rfl rfl fun b2=>Zz 7 ?_
 refine n_ (fh_ f.a [33]) rfl m_ zt rfl fun _=>L_ Z_ rfl fun b3=>A_ 0 z_ rfl rfl rfl rfl rfl rfl (Zz 4 ?_)
 refine q_ 3 [0,1,2,3,4,5,6,7,8] zk zs (Zz 10 ?_)
 refine l_ 9 rfl zk (n_ (ju_ f.a f.r f.lo f.hi) rfl m_ zt rfl fun _=>Zz 3 ?_)
 refine q_ 0 [10,11] zk zs (cL_ rfl (aD_ (p:=f) (q:=(M_ f.a f.r f.lo f.hi)) rfl rfl) rfl fun r1 hr1=>Zz 14 ?_)
 cases r1
 ·replace hr1:=zdf hr1
  refine X_ (ι:={y:Nat // y≤List.length c.facts∧∀ z∈List.take y c.facts,kc_ f z=false}) (fun y=>[(2,zp_ b1 0),(3,zp_ b2 0),(5,zp_ b3 0),(6,.bool false),(24,.slice c.fad (List.length c.facts) c.fcap),(25,.int .i64 (List.length c.facts:Int)),(26,.int .i64 (y.1:Int))]) (fun y=>((b3,.cells #[.int .i64 (Fc.kind (y_ f.a [33])),str (Fc.a (y_ f.a [33])),str (Fc.b (y_ f.a [33])),str (Fc.r (y_ f.a [33])),.int .i64 (Fc.lo (y_ f.a [33])),.int .i64 (Fc.hi (y_ f.a [33]))] 24 (0,0))::((b2,.cells #[.int .i64 f.kind,str f.a,str f.b,str f.r,.int .i64 f.lo,.int .i64 f.hi] 24 (0,0))::((b1,.cells #[.slice c.aad (List.length c.atoms) c.acap,.slice c.fad (List.length c.facts) c.fcap] 39 (0,0))::[])))) (fun y=>[aq_ c.fad (List.flatMap Fc.cells c.facts)]) (fun y=>List.length c.facts - y.1) ⟨(0:Nat),by simp,by simp⟩ zl zp zh ?_
  rintro ⟨j,hj,hall⟩
  dsimp only at hj hall ⊢
  refine Zi 2 (fun hr2=>?_) fun hr2=>?_
  ·refine Zz 12 ?_
   exact al_ gC_ () (t_ rfl (ok_ hall (by omega))) m_ zt
  obtain⟨hlx2,x2,hx2,hmx2⟩:=zge (show j<List.length c.facts by omega)
  refine Zz 12 ?_
  refine L_ Z_ rfl fun b4=>A_ 0 z_ rfl rfl rfl rfl rfl rfl (Zz 7 ?_)
  refine aT_ (aD_ (p:=x2) (q:=f) rfl rfl) rfl fun r3 hr3=>Zz 1 ?_
  cases r3
  ·replace hr3:=zdf hr3
   refine Zz 5 ?_
   refine aT_ (aD_ (p:=x2) (q:=(y_ f.a [33])) rfl rfl) rfl fun r4 hr4=>Zz 3 ?_
   cases r4
   ·replace hr4:=zdf hr4
    refine Zz 5 ?_
    refine q_ 0 [0,1,2,3,4,5,6,7,8,9,10,11,12,13,14,15,16,17,18,19,20,21,22,23,24,25,26,27] zk zs (Zz 39 ?_)
    exact C_ ⟨j+1,hlx2,any_no hall hx2 (by have p1:=eq_false hr1;have p2:=eq_true hr2;have p3:=eq_false hr3;have p4:=eq_false hr4;simp only[kc_,p1,p2,p3,p4,if_true,if_false,decide_true,decide_false,Bool.and_true,Bool.and_false,Bool.true_and,Bool.false_and,Bool.or_true,Bool.or_false,Bool.true_or,Bool.false_or,Bool.not_true,Bool.not_false,ne_eq,not_true_eq_false,not_false_eq_true,true_and,and_true,false_and,and_false,true_or,or_true,false_or,or_false,ite_true,ite_false,Bool.false_eq_true])⟩ (by dsimp only;omega) zl (f_ (c_ d_) (f_ (c_ d_) (c_ d_))) zh
   replace hr4:=zdt hr4
   refine Zz 7 ?_
   exact al_ gC_ () (t_ rfl (gR_ hmx2 (by have p1:=eq_false hr1;have p2:=eq_true hr2;have p3:=eq_false hr3;have p4:=eq_true hr4;simp only[kc_,p1,p2,p3,p4,if_true,if_false,decide_true,decide_false,Bool.and_true,Bool.and_false,Bool.true_and,Bool.false_and,Bool.or_true,Bool.or_false,Bool.true_or,Bool.false_or,Bool.not_true,Bool.not_false,ne_eq,not_true_eq_false,not_false_eq_true,true_and,and_true,false_and,and_false,true_or,or_true,false_or,or_false,ite_true,ite_false,Bool.false_eq_true]))) m_ zt
  replace hr3:=zdt hr3
  refine Zz 13 ?_
  exact al_ gC_ () (t_ rfl (gR_ hmx2 (by have p1:=eq_false hr1;have p2:=eq_true hr2;have p3:=eq_true hr3;simp only[kc_,p1,p2,p3,if_true,if_false,decide_true,decide_false,Bool.and_true,Bool.and_false,Bool.true_and,Bool.false_and,Bool.or_true,Bool.or_false,Bool.true_or,Bool.false_or,Bool.not_true,Bool.not_false,ne_eq,not_true_eq_false,not_false_eq_true,true_and,and_true,false_and,and_false,true_or,or_true,false_or,or_false,ite_true,ite_false,Bool.false_eq_true]))) m_ zt
 replace hr1:=zdt hr1
 refine X_ (ι:={y:Nat // y≤List.length c.facts∧∀ z∈List.take y c.facts,kc_ f z=false}) (fun y=>[(2,zp_ b1 0),(3,zp_ b2 0),(5,zp_ b3 0),(6,.bool true),(24,.slice c.fad (List.length c.facts) c.fcap),(25,.int .i64 (List.length c.facts:Int)),(26,.int .i64 (y.1:Int))]) (fun y=>((b3,.cells #[.int .i64 (Fc.kind (y_ f.a [33])),str (Fc.a (y_ f.a [33])),str (Fc.b (y_ f.a [33])),str (Fc.r (y_ f.a [33])),.int .i64 (Fc.lo (y_ f.a [33])),.int .i64 (Fc.hi (y_ f.a [33]))] 24 (0,0))::((b2,.cells #[.int .i64 f.kind,str f.a,str f.b,str f.r,.int .i64 f.lo,.int .i64 f.hi] 24 (0,0))::((b1,.cells #[.slice c.aad (List.length c.atoms) c.acap,.slice c.fad (List.length c.facts) c.fcap] 39 (0,0))::[])))) (fun y=>[aq_ c.fad (List.flatMap Fc.cells c.facts)]) (fun y=>List.length c.facts - y.1) ⟨(0:Nat),by simp,by simp⟩ zl zp zh ?_
 rintro ⟨j,hj,hall⟩
 dsimp only at hj hall ⊢
 refine Zi 2 (fun hr5=>?_) fun hr5=>?_
 ·refine Zz 12 ?_
  exact al_ gC_ () (t_ rfl (ok_ hall (by omega))) m_ zt
 obtain⟨hlx2,x2,hx2,hmx2⟩:=zge (show j<List.length c.facts by omega)
 refine Zz 12 ?_
 refine L_ Z_ rfl fun b5=>A_ 0 z_ rfl rfl rfl rfl rfl rfl (Zz 7 ?_)
 refine aT_ (aD_ (p:=x2) (q:=f) rfl rfl) rfl fun r6 hr6=>Zz 1 ?_
 cases r6
 ·replace hr6:=zdf hr6
  refine Zz 5 ?_
  refine aT_ (aD_ (p:=x2) (q:=(y_ f.a [33])) rfl rfl) rfl fun r7 hr7=>Zz 3 ?_
  cases r7
  ·replace hr7:=zdf hr7
   refine Zz 5 ?_
   refine q_ 17 [0,1,2,3,4,5,6,7,8,9,10] zk zs (Zz 12 ?_)
   refine l_ 11 rfl zk (aK_ rfl rfl (n_ (ju_ f.a f.r x2.lo x2.hi) rfl m_ zt rfl fun _=>Zz 3 ?_))
   refine q_ 13 [12,13,14] zk zs (bD_ rfl rfl rfl (aD_ (p:=x2) (q:=(M_ f.a f.r x2.lo x2.hi)) rfl rfl) rfl fun r8 hr8=>Zz 3 ?_)
   cases r8
   ·replace hr8:=zdf hr8
    refine q_ 0 [15,16,17,18,19,20,21,22,23,24,25,26,27] zk zs (Zz 24 ?_)
    exact C_ ⟨j+1,hlx2,any_no hall hx2 (by have p1:=eq_true hr1;have p2:=eq_true hr5;have p3:=eq_false hr6;have p4:=eq_false hr7;have p5:=eq_false hr8;simp only[kc_,p1,p2,p3,p4,p5,if_true,if_false,decide_true,decide_false,Bool.and_true,Bool.and_false,Bool.true_and,Bool.false_and,Bool.or_true,Bool.or_false,Bool.true_or,Bool.false_or,Bool.not_true,Bool.not_false,ne_eq,not_true_eq_false,not_false_eq_true,true_and,and_true,false_and,and_false,true_or,or_true,false_or,or_false,ite_true,ite_false,Bool.false_eq_true])⟩ (by dsimp only;omega) zl (f_ (c_ d_) (f_ (c_ d_) (c_ d_))) zh
   replace hr8:=zdt hr8
   refine q_ 6 [15,16,17,18,19,20,21] zk zs (Zi 4 (fun hr9=>?_) fun hr9=>?_)
   ·refine Zz 3 ?_
    refine q_ 0 [22,23,24,25,26,27] zk zs (Zz 17 ?_)
    exact C_ ⟨j+1,hlx2,any_no hall hx2 (by have p1:=eq_true hr1;have p2:=eq_true hr5;have p3:=eq_false hr6;have p4:=eq_false hr7;have p5:=eq_true hr8;have p6:=eq_false hr9;simp only[kc_,p1,p2,p3,p4,p5,p6,if_true,if_false,decide_true,decide_false,Bool.and_true,Bool.and_false,Bool.true_and,Bool.false_and,Bool.or_true,Bool.or_false,Bool.true_or,Bool.false_or,Bool.not_true,Bool.not_false,ne_eq,not_true_eq_false,not_false_eq_true,true_and,and_true,false_and,and_false,true_or,or_true,false_or,or_false,ite_true,ite_false,Bool.false_eq_true])⟩ (by dsimp only;omega) zl (f_ (c_ d_) (f_ (c_ d_) (c_ d_))) zh
   refine Zz 3 ?_
   refine q_ 0 [22,23,24,25,26,27] zk zs (Zi 4 (fun hr10=>?_) fun hr10=>?_)
   ·refine Zz 12 ?_
    exact C_ ⟨j+1,hlx2,any_no hall hx2 (by have p1:=eq_true hr1;have p2:=eq_true hr5;have p3:=eq_false hr6;have p4:=eq_false hr7;have p5:=eq_true hr8;have p6:=eq_true hr9;have p7:=eq_false hr10;simp only[kc_,p1,p2,p3,p4,p5,p6,p7,if_true,if_false,decide_true,decide_false,Bool.and_true,Bool.and_false,Bool.true_and,Bool.false_and,Bool.or_true,Bool.or_false,Bool.true_or,Bool.false_or,Bool.not_true,Bool.not_false,ne_eq,not_true_eq_false,not_false_eq_true,true_and,and_true,false_and,and_false,true_or,or_true,false_or,or_false,ite_true,ite_false,Bool.false_eq_true])⟩ (by dsimp only;omega) zl (f_ (c_ d_) (f_ (c_ d_) (c_ d_))) zh
   refine Zz 11 ?_
   exact al_ gC_ () (t_ rfl (gR_ hmx2 (by have p1:=eq_true hr1;have p2:=eq_true hr5;have p3:=eq_false hr6;have p4:=eq_false hr7;have p5:=eq_true hr8;have p6:=eq_true hr9;have p7:=eq_true hr10;simp only[kc_,p1,p2,p3,p4,p5,p6,p7,if_true,if_false,decide_true,decide_false,Bool.and_true,Bool.and_false,Bool.true_and,Bool.false_and,Bool.or_true,Bool.or_false,Bool.true_or,Bool.false_or,Bool.not_true,Bool.not_false,ne_eq,not_true_eq_false,not_false_eq_true,true_and,and_true,false_and,and_false,true_or,or_true,false_or,or_false,ite_true,ite_false,Bool.false_eq_true]))) m_ zt
  replace hr7:=zdt hr7
  refine Zz 7 ?_
  exact al_ gC_ () (t_ rfl (gR_ hmx2 (by have p1:=eq_true hr1;have p2:=eq_true hr5;have p3:=eq_false hr6;have p4:=eq_true hr7;simp only[kc_,p1,p2,p3,p4,if_true,if_false,decide_true,decide_false,Bool.and_true,Bool.and_false,Bool.true_and,Bool.false_and,Bool.or_true,Bool.or_false,Bool.true_or,Bool.false_or,Bool.not_true,Bool.not_false,ne_eq,not_true_eq_false,not_false_eq_true,true_and,and_true,false_and,and_false,true_or,or_true,false_or,or_false,ite_true,ite_false,Bool.false_eq_true]))) m_ zt
 replace hr6:=zdt hr6
 refine Zz 13 ?_
 exact al_ gC_ () (t_ rfl (gR_ hmx2 (by have p1:=eq_true hr1;have p2:=eq_true hr5;have p3:=eq_true hr6;simp only[kc_,p1,p2,p3,if_true,if_false,decide_true,decide_false,Bool.and_true,Bool.and_false,Bool.true_and,Bool.false_and,Bool.or_true,Bool.or_false,Bool.true_or,Bool.false_or,Bool.not_true,Bool.not_false,ne_eq,not_true_eq_false,not_false_eq_true,true_and,and_true,false_and,and_false,true_or,or_true,false_or,or_false,ite_true,ite_false,Bool.false_eq_true]))) m_ zt
end Go.Proofs.YtkeanlfhghlgiaaGreatDoor
namespace Go.Proofs.YtkeanlfhghlgiaaGreatDoor
open Go Go.Sx Go.Proofs
attribute [local irreducible] Code.wp wpList wpAnyH
open Go.Vs
theorem dE {p:Prop} {i:Decidable p}:(@decide p i=true)↔p:=⟨fun h=>of_decide_eq_true h,fun h=>decide_eq_true h⟩
theorem sx_ (p:List Pc):[42]∈atS p:=(eW_ p _).2 (.inr (.inl rfl))
theorem oi_ (p:List Pc):[33]∈atS p:=(eW_ p _).2 (.inr (.inr rfl))
theorem at_of {p:List Pc} {x:Pc} (hx:x∈p) {s:Str} (hs:s=x.a∨s=x.b∨s=x.c) (hn:s≠[]):s∈atS p:=by
  refine (eW_ p s).2 (.inl ((dy_ p s).2 ?_))
  refine List.mem_flatMap.2 ⟨x,hx,List.mem_filter.2 ⟨?_,by simpa using hn⟩⟩
  rcases hs with rfl|rfl|rfl<;>simp
theorem sw_ {s:Str} (h:bC_ s=true):s≠[]:=fun e=>by subst e;revert h;decide
theorem rv_ {p:Pc} (h:p.valid=true) (hk:p.kind=1∨p.kind=2∨p.kind=3∨p.kind=4∨p.kind=9):p.c≠[]:=by
 unfold Pc.valid at h
 split at h
 ·simp at h
 split at h
 ·simp at h
 split at h
 ·simp at h
 simp only[Bool.and_eq_true]at h
 obtain⟨⟨⟨⟨_,hc⟩,_⟩,_⟩,_⟩:=h
 have key:∀ {b:Bool},ch_ b p.c bC_=true→b=true→p.c≠[]:=fun h1 h2=>by
   subst h2;simp[ch_]at h1;exact sw_ h1
 rcases hk with q|q|q|q|q<;>rw[q]at hc<;>exact key hc (by decide)
theorem fo1 {A:List Str} {a b:Str}:eN_ A (y_ a b)=true↔a∈A∧b∈A:=by
  unfold eN_ y_ qI_
  dsimp only
  rw[if_pos rfl,Bool.and_eq_true,Bool.and_eq_true,dE,dE,dE]
  simp[y_]
theorem fo2 {A:List Str} {a r b:Str}:eN_ A (E_ a r b)=true↔a∈A∧b∈A∧r≠[]:=by
  unfold eN_ E_
  dsimp only
  rw[if_neg (by decide),if_pos rfl,Bool.and_eq_true,Bool.and_eq_true,Bool.and_eq_true,dE,dE,dE,dE]
  simp[E_]
theorem fo3 {A:List Str} {a r:Str} {lo hi:Int}:eN_ A (M_ a r lo hi)=true↔a∈A∧r≠[]∧-1099511627776≤lo∧lo≤hi∧hi≤1099511627776:=by
  unfold eN_ M_
  dsimp only
  rw[if_neg (by decide),if_neg (by decide),if_pos rfl,Bool.and_eq_true,Bool.and_eq_true,Bool.and_eq_true,Bool.and_eq_true,Bool.and_eq_true,dE,dE,dE,dE,dE,dE]
  simp[M_]
theorem qj_ {p:List Pc} {S:Fc→Prop} (hp:∀ x∈p,x.valid=true) (hS:∀ y,S y→eN_ (atS p) y=true) {y:Fc} (h:fH_ p (atS p) S y):eN_ (atS p) y=true:=by
  have hc:∀ {x:Pc},x∈p→(x.kind=1∨x.kind=2∨x.kind=3∨x.kind=4∨x.kind=9)→x.c∈atS p:=fun hx hk=>at_of hx (.inr (.inr rfl)) (rv_ (hp _ hx) hk)
  have hv:∀ {x:Pc},x∈p→x.vok:=fun hx=>gY_ (hp _ hx)
  cases h with
  | r1 h=>exact fo1.2 ⟨h,h⟩
  | r2 h=>exact fo1.2 ⟨h,sx_ p⟩
  | r10 hx hk h=>exact fo2.2 ⟨h,h,(hv hx).rok.1 (by simp[hk])⟩
  | r3 hx hk h=>exact fo1.2 ⟨(fo1.1 (hS _ h)).1,hc hx (by simp[hk])⟩
  | r4 hx hk h h'=>exact fo1.2 ⟨(fo1.1 (hS _ h)).1,hc hx (by simp[hk])⟩
  | r5 hx hk h=>exact fo2.2 ⟨(fo1.1 (hS _ h)).1,hc hx (by simp[hk]),(hv hx).rok.1 (by simp[hk])⟩
  | r6 hx hk h=>exact fo2.2 ⟨(fo2.1 (hS _ h)).1,(fo2.1 (hS _ h)).2.1,(hv hx).rok.2.2 hk⟩
  | r7 hx hk h h'=>exact fo2.2 ⟨(fo2.1 (hS _ h)).1,(fo2.1 (hS _ h')).2.1,((hv hx).rok.2.1 hk).2⟩
  | r8 hx hk h h'=>exact fo1.2 ⟨(fo2.1 (hS _ h)).1,hc hx (by simp[hk])⟩
  | r9 h h'=>exact fo1.2 ⟨(fo2.1 (hS _ h)).1,oi_ p⟩
  | r11 hx hk h=>exact fo3.2 ⟨(fo1.1 (hS _ h)).1,(hv hx).rok.1 (by simp[hk]),(hv hx).num (.inl hk)⟩
  | r12 h h' hm hl =>
    have h1:=fo3.1 (hS _ h)
    have h2:=fo3.1 (hS _ h')
    exact fo3.2 ⟨h1.1,h1.2.1,by omega,hl,by omega⟩
  | r13 h h' hm hl=>exact fo1.2 ⟨(fo3.1 (hS _ h)).1,oi_ p⟩
  | r14 hx hk h h1 h2=>exact fo1.2 ⟨(fo3.1 (hS _ h)).1,hc hx (by simp[hk])⟩
theorem der_ok {p:List Pc} (hp:∀ x∈p,x.valid=true) {y:Fc} (h:Der p (atS p) y):eN_ (atS p) y=true:=h _ fun _ hy=>qj_ hp (fun _ h=>h) hy
theorem gQ_ {p:List Pc} (h:cq_ p=0):∀ x∈p,x.valid=true:=fun x hx=>List.all_eq_true.1 (mN_ h).2 x hx
theorem dK_.good {p:List Pc} {bu:Int} {c:Cl} (h:dK_ p bu c 0):cq_ p=0∧0≤bu∧bu≤1073741824∧c.ok∧c.atoms=atS p∧dS_ p (atS p) (min bu 65536).toNat (some c.facts):=by
 unfold dK_ at h
 split at h
 ·rename_i h1;exact absurd h.2.symm h1
 rename_i h1
 split at h
 ·exact absurd h.2 (by decide)
 rename_i h2
 rcases h with h|h
 ·exact⟨by simpa using h1,by omega,by omega,h.2⟩
 have:=h.2.1;split at this<;>exact absurd this (by decide)
theorem dK_.bad {p:List Pc} {bu:Int} {c:Cl} {e:Int} (h:dK_ p bu c e) (he:e≠0):c=Cl.no:=by
 unfold dK_ at h
 split at h
 ·exact h.1
 split at h
 ·exact h.1
 rcases h with h|h
 ·exact absurd h.1 he
 exact h.1
theorem dK_.ok {p:List Pc} {bu:Int} {c:Cl} {e:Int} (h:dK_ p bu c e):c.ok:=by
 by_cases he:e=0
 ·subst he;exact h.good.2.2.2.1
 rw[h.bad he];exact Cl.no_ok
theorem dK_.len {p:List Pc} {bu:Int} {c:Cl} {e:Int} (h:dK_ p bu c e):c.atoms.length≤3*p.length+2∧c.facts.length≤65536:=by
 by_cases he:e=0
 ·subst he
  obtain⟨_,_,_,_,h1,h2⟩:=h.good
  refine⟨by rw[h1];exact lI_ p,?_⟩
  have:=h2.2.2
  omega
 rw[h.bad he];simp[Cl.no]
theorem jf_ {p:List Pc} {bu:Int} {c:Cl} {e:Int} {r:Option (List Fc)} (h:dK_ p bu c e) (hc:cq_ p=0) (hb:0≤bu) (hb2:bu≤1073741824) (hr:dS_ p (atS p) (min bu 65536).toNat r):(∀ L,r=some L→e=0∧c.facts=L∧c.atoms=atS p)∧(r=none→c=Cl.no∧e=if bu<65536 then 3 else 2):=by
 unfold dK_ at h
 rw[if_neg (by simp[hc]),if_neg (by omega)]at h
 rcases h with⟨h1,h2,h3,h4⟩|⟨h1,h2,h3⟩
 ·have e:=dS_.uniq h4 hr
  subst e
  exact⟨fun L hL=>⟨h1,Option.some.inj hL,h3⟩,fun h=>(by cases h)⟩
 have e:=dS_.uniq h3 hr
 subst e
 exact⟨fun L hL=>(by cases hL),fun _=>⟨h1,h2⟩⟩
def fG_ (p q:List Pc):Prop:=∀ x∈p,∃ y∈q,∃ n,{ y with frm:=n }=x
theorem fG_.rfl' (p:List Pc):fG_ p p:=fun x hx=>⟨x,hx,x.frm,rfl⟩
theorem fG_.of {p q:List Pc} (h:∀ x∈p,x∈q):fG_ p q:=fun x hx=>⟨x,h x hx,x.frm,rfl⟩
theorem fG_.at' {p q:List Pc} (h:fG_ p q):∀ s∈atS p,s∈atS q:=fun s hs=>by
 rw[eW_,dy_]at hs ⊢
 rcases hs with h1|h1
 ·obtain⟨x,hx,h2⟩:=List.mem_flatMap.1 h1
  obtain⟨y,hy,n,e⟩:=h x hx
  subst e
  exact .inl (List.mem_flatMap.2 ⟨y,hy,h2⟩)
 exact .inr h1
theorem fG_.der {p q:List Pc} (h:fG_ p q) {y:Fc} (hy:Der p (atS p) y):Der q (atS q) y:=hy.mono h h.at'
theorem fG_.atS_eq {p q:List Pc} (h:fG_ p q) (h':fG_ q p):atS p=atS q :=
  fi_ hK_ List.lt_trans (lH_ p) (lH_ q) fun x=>⟨h.at' x,h'.at' x⟩
theorem dS_.congrP {p q:List Pc} {m:Nat} {r:Option (List Fc)} (h:fG_ p q) (h':fG_ q p) (hr:dS_ p (atS p) m r):dS_ q (atS q) m r:=by
  cases r with
  | none=>obtain⟨M,h1,h2,h3⟩:=hr;exact⟨M,h1,fun y hy=>h.der (h2 y hy),h3⟩
  | some L=>exact⟨hr.1,fun y=>(hr.2.1 y).trans ⟨h.der,h'.der⟩,hr.2.2⟩
theorem sB_ {p:List Pc} {bu:Int} {c:Cl} {e:Int} (h:dK_ p bu c e) (hc:cq_ p=0) (hb:0≤bu) (hb2:bu≤1073741824):(e=0∧c.atoms=atS p∧dS_ p (atS p) (min bu 65536).toNat (some c.facts))∨(c=Cl.no∧e=(if bu<65536 then 3 else 2)∧dS_ p (atS p) (min bu 65536).toNat none):=by
 unfold dK_ at h
 rw[if_neg (by simp[hc]),if_neg (by omega)]at h
 rcases h with⟨h1,_,h2,h3⟩|h
 ·exact .inl ⟨h1,h2,h3⟩
 exact .inr h
theorem pk_ {p q:List Pc} {bu:Int} {c d:Cl} {e f:Int} (h:fG_ p q) (h':fG_ q p) (hp:dK_ p bu c e) (hq:dK_ q bu d f) (hc:cq_ p=0) (hd:cq_ q=0) (hb:0≤bu) (hb2:bu≤1073741824):c.atoms=d.atoms∧c.facts=d.facts∧e=f:=by
 rcases sB_ hp hc hb hb2 with⟨h1,h2,h3⟩|⟨h1,h2,h3⟩
 ·obtain⟨g1,g2,g3⟩:=(jf_ hq hd hb hb2 (dS_.congrP h h' h3)).1 _ rfl
  exact⟨by rw[h2,g3,h.atS_eq h'],g2.symm,by rw[h1,g1]⟩
 obtain⟨g1,g2⟩:=(jf_ hq hd hb hb2 (dS_.congrP h h' h3)).2 rfl
 subst h1 g1
 exact⟨rfl,rfl,by rw[h2,g2]⟩
theorem fG_.trans {p q r:List Pc} (h:fG_ p q) (k:fG_ q r):fG_ p r:=fun x hx=>by
  obtain⟨y,hy,n,rfl⟩:=h x hx
  obtain⟨z,hz,m,rfl⟩:=k y hy
  exact⟨z,hz,n,rfl⟩
theorem pj_ {p:List Pc} {bu:Int} {c d:Cl} {e f:Int} (h:dK_ p bu c e) (k:dK_ p bu d f):c.atoms=d.atoms∧c.facts=d.facts∧e=f:=by
 by_cases h1:cq_ p=0
 ·by_cases h2:bu<0∨1073741824<bu
  ·unfold dK_ at h k
   rw[if_neg (by simp[h1]),if_pos h2]at h k
   obtain⟨rfl,rfl⟩:=h
   obtain⟨rfl,rfl⟩:=k
   exact⟨rfl,rfl,rfl⟩
  exact pk_ (fG_.rfl' p) (fG_.rfl' p) h k h1 h1 (by omega) (by omega)
 unfold dK_ at h k
 rw[if_pos h1]at h k
 obtain⟨rfl,rfl⟩:=h
 obtain⟨rfl,rfl⟩:=k
 exact⟨rfl,rfl,rfl⟩
end Go.Proofs.YtkeanlfhghlgiaaGreatDoor
namespace Go.Proofs.YtkeanlfhghlgiaaGreatDoor
open Go Go.Sx Go.Proofs
attribute [local irreducible] Code.wp wpList wpAnyH
open Go.Vs
theorem by_.pre {α:Type} {f:α→List Value} {n:Nat} (hf:∀ x,(f x).length=n) {l:List α} {v:Vw} {ad:Option Addr} (h:by_ v ad (l.flatMap f)) (j:Nat):by_ v ad ((l.take j).flatMap f) :=
  h.part fun k x hx=>by
    have e:l.flatMap f=(l.take j).flatMap f++(l.drop j).flatMap f:=by rw[← List.flatMap_append,List.take_append_drop]
    rw[e,List.getElem?_append_left (List.getElem?_eq_some_iff.1 hx).1]
    exact hx
end Go.Proofs.YtkeanlfhghlgiaaGreatDoor
namespace Go.Proofs.YtkeanlfhghlgiaaGreatDoor
open Go Go.Sx Go.Proofs
attribute [local irreducible] Code.wp wpList wpAnyH
open Go.Vs
theorem eqKy2 (p q:Ky) (w:World):(Op.equalIn 10000 111 (Ky.val p) (Ky.val q)).run Tryz.prog w=.ok (decide (p=q)) w:=by
  have h:=run_equalIn_struct (P:=Tryz.prog) w 9999 111 (Ky.cells p).toArray (Ky.cells q).toArray (by simp only[Program.fieldsOf,Tryz.underlying111]) Tryz.stoodInHeld111
  refine h.trans ?_
  rw[← Ky.eqb_eq]
  simp only[Program.fieldsOf,Tryz.underlying111]
  exact bx_ rfl ad_ rfl rfl (eqI bo_ w) (bx_ rfl O_ rfl rfl (eqS av_ w) (bx_ rfl O_ rfl rfl (eqS av_ w) (hh_ w)))
theorem si_ (p q:eA_) (w:World):(Op.equalIn 10000 114 (aR_ p) (aR_ q)).run Tryz.prog w=.ok (decide (p=q)) w:=by
  have h:=run_equalIn_struct (P:=Tryz.prog) w 9999 114 (hN_ p).toArray (hN_ q).toArray (by simp only[Program.fieldsOf,Tryz.underlying114]) Tryz.stoodInHeld114
  refine h.trans ?_
  rw[← lW_]
  simp only[Program.fieldsOf,Tryz.underlying114]
  exact bx_ rfl O_ rfl rfl (eqS av_ w) (bx_ rfl O_ rfl rfl (eqS av_ w) (hh_ w))
theorem okKy2 (p:Ky):gT_ Tryz.prog 111 (Ky.val p):=fun e w=>by
 have hi:∀ (n:Int) (w:World),(Instr.checkKey e (9998+1) 3 (.int .i64 n)).run Tryz.prog w=.ok () w:=fun n w=>MapKept.run_checkKey (d:=.int .i64) bo_ (by simp[MapKept.IsKey]) e 9998
 have hs:∀ (n:Str) (w:World),(Instr.checkKey e (9998+1) 9 (str n)).run Tryz.prog w=.ok () w:=fun n w=>MapKept.run_checkKey (d:=.string) av_ (by simp[MapKept.IsKey,str]) e 9998
 refine ckF (n:=9999) Tryz.underlying111 fun f hf=>?_
 simp only[List.mem_cons,List.not_mem_nil,or_false]at hf
 rcases hf with rfl|rfl|rfl
 ·exact⟨rfl,ad_,_,rfl,hi _⟩
 ·exact⟨rfl,O_,_,rfl,hs _⟩
 exact⟨rfl,O_,_,rfl,hs _⟩
theorem rR_ (p:eA_):gT_ Tryz.prog 114 (aR_ p):=fun e w=>by
 have hi:∀ (n:Int) (w:World),(Instr.checkKey e (9998+1) 3 (.int .i64 n)).run Tryz.prog w=.ok () w:=fun n w=>MapKept.run_checkKey (d:=.int .i64) bo_ (by simp[MapKept.IsKey]) e 9998
 have hs:∀ (n:Str) (w:World),(Instr.checkKey e (9998+1) 9 (str n)).run Tryz.prog w=.ok () w:=fun n w=>MapKept.run_checkKey (d:=.string) av_ (by simp[MapKept.IsKey,str]) e 9998
 refine ckF (n:=9999) Tryz.underlying114 fun f hf=>?_
 simp only[List.mem_cons,List.not_mem_nil,or_false]at hf
 rcases hf with rfl|rfl
 ·exact⟨rfl,O_,_,rfl,hs _⟩
 exact⟨rfl,O_,_,rfl,hs _⟩
theorem ew_:KeyT Tryz.prog 111 Ky.val:=ec_ (K:=Ky) Tryz.underlying111 okKy2 (fun p q w=>eqKy2 p q w) fun k=>fN_ (l:=Ky.cells k) fun v hv=>by
 simp only[Ky.cells,List.mem_cons,List.not_mem_nil,or_false]at hv
 rcases hv with rfl|rfl|rfl
 ·exact ei_ _ _
 ·exact cn_ _ _
 exact cn_ _ _
theorem bR_:KeyT Tryz.prog 114 aR_:=ec_ (K:=eA_) Tryz.underlying114 rR_ (fun p q w=>si_ p q w) fun k=>fN_ (l:=hN_ k) fun v hv=>by
 simp only[hN_,List.mem_cons,List.not_mem_nil,or_false]at hv
 rcases hv with rfl|rfl
 ·exact cn_ _ _
 exact cn_ _ _
theorem ct_:Elt Tryz.prog 46 3 1 8:=la_ Tryz.underlying46 (z:=.int .i64 0) (by kernel_rfl) rfl (by decide)
theorem ic_:Elt Tryz.prog 27 48 9 112:=la_ Tryz.underlying27 (z:=.agg #[.int .i64 0,.int .i64 0,str [],str [],str [],.int .i64 0,.int .i64 0,.int .i64 0,.slice none 0 0]) (by kernel_rfl) rfl (by decide)
theorem dV_:iy_ Tryz.prog 111 [(0,1),(1,1),(2,1)] [.int .i64 0,str [],str []]:=⟨_,Tryz.zeroValue111,Tryz.runUnderlying111,fun w=>by simp[s_,J_]⟩
theorem gh_:iy_ Tryz.prog 114 [(0,1),(1,1)] [str [],str []]:=⟨_,gx_,Tryz.runUnderlying114,fun w=>by simp[J_]⟩
theorem rx_:iy_ Tryz.prog 105 [(0,1),(1,1),(2,1),(3,1),(4,1),(5,1),(6,1),(7,1),(8,1),(9,1)] [.slice none 0 0,.map none,.slice none 0 0,.map none,.map none,.map none,.map none,.map none,.map none,.map none]:=⟨_,Tryz.zeroValue105,as_,fun w=>by simp[dY_,eI_,Tryz.sizeOf91,Tryz.sizeOf101,Tryz.sizeOf102,Tryz.sizeOf103]⟩
theorem mY_:iy_ Tryz.prog 48 [(0,1),(1,6),(7,1),(8,1)] [.int .i64 0,.int .i64 0,str [],str [],str [],.int .i64 0,.int .i64 0,.int .i64 0,.slice none 0 0]:=⟨_,cP_,aX_,fun w=>by simp[s_,z_,li_]⟩
theorem Stp.cells_one (s:Stp):s.cells.all Value.oneCell'=true:=rfl
def RecR {K:Type} [DecidableEq K] (ks:List K) (vs:List Int) (k:K) (n m:Int):Prop:=(k∈ks→∃ i:Nat,ks[i]? = some k∧vs[i]? = some m)∧(k ∉ ks→m=n)
theorem dt_ {P:Program} {N:Nf} {fr:Fr} {H:Hp} {Γ:List Fct} {ty:TypeId} {s:TypeId} {x:Operand} {f b off k o:Nat} {fs:Array Field} {fd:Field} {n:Nat} (hu:∀ w,(underlying s).run P w=.ok (.struct fs) w) (hx:Fr.ev fr x=some (.pointer (some ⟨b,off+k,none⟩))) (hf:fs[f]? = some fd) (ho:fd.offset=o)
    (hs:∀ w,(sizeOf fd.type).run P w=.ok (n+1) w):Yld P N fr H Γ (.fieldAddr s x f) ty (.pointer (some ⟨b,off+(k+o),none⟩)):=by
  have:=bf_ (P:=P) (N:=N) (fr:=fr) (H:=H) (Γ:=Γ) (ty:=ty) hu hx hf ho hs
  rwa [Nat.add_assoc]at this
theorem pT_ (k:Fc) (n:Int) (ks:List Fc) (vs:List Int) (mb:Nat) (es:Array MapEntry) (c:Nat) (hE:IntE Fc.val es ks vs):Tri Tryz.prog 54 #[.map (some mb),Fc.val k,.int .i64 n] [(mb,.map es c)] [] (fun y:{y:(Bool×Int)×Array MapEntry×Nat // decide (k ∉ ks)=y.1.1∧RecR ks vs k n y.1.2∧IntE Fc.val y.2.1 (if k∈ks then ks else ks++[k]) (if k∈ks then vs else vs++[n])}=>.tuple #[.bool y.1.1.1,.int .i64 y.1.1.2]) (fun y=>[(mb,.map y.1.2.1 y.1.2.2)]) (fun _=>[]):=by
 refine u_ Tryz.func54 rfl rfl Tryz.ntmps54 rfl fun v0=>?_
 refine Zz 2 ?_
 refine aA_ rfl rfl fun b1=>Zz 9 ?_
 refine eu_ (k:=k) eO_ dM_ D_ rfl rfl hE zp rfl fun rl1 nl1 hrl1 hnl1=>Zz 12 ?_
 cases rl1
 ·replace hrl1:=zdf hrl1
  refine Zz 8 ?_
  refine jH_ (k:=k) 1 eO_ (.inr rfl) dM_ rfl rfl rfl rfl hE (by assumption) fun en1 cn1 hE1=>Zz 10 ?_
  exact rK_ Tryz.results54 ⟨((true,n),en1,cn1),by simp[*],⟨fun q=>absurd q (by assumption),fun _=>rfl⟩,by rw[if_neg (by assumption),if_neg (by assumption)];exact hE1⟩ rfl rfl rfl (c_ d_) zt
 replace hrl1:=zdt hrl1
 refine Zz 9 ?_
 exact rK_ Tryz.results54 ⟨((false,nl1),es,c),by simp[*],⟨fun _=>hnl1 rfl,fun q=>absurd (by assumption) q⟩,by rw[if_pos (by assumption),if_pos (by assumption)];exact hE⟩ rfl rfl rfl zp zt
theorem recP_c (k:Pc) (n:Int) (ks:List Pc) (vs:List Int) (mb:Nat) (es:Array MapEntry) (c:Nat) (hE:IntE Pc.val es ks vs):Tri Tryz.prog 63 #[.map (some mb),Pc.val k,.int .i64 n] [(mb,.map es c)] [] (fun y:{y:(Bool×Int)×Array MapEntry×Nat // decide (k ∉ ks)=y.1.1∧RecR ks vs k n y.1.2∧IntE Pc.val y.2.1 (if k∈ks then ks else ks++[k]) (if k∈ks then vs else vs++[n])}=>.tuple #[.bool y.1.1.1,.int .i64 y.1.1.2]) (fun y=>[(mb,.map y.1.2.1 y.1.2.2)]) (fun _=>[]):=by
 refine u_ Tryz.func63 rfl rfl Tryz.ntmps63 rfl fun v0=>?_
 refine Zz 2 ?_
 refine aA_ rfl rfl fun b1=>Zz 9 ?_
 refine eu_ (k:=k) lr_ Tryz.runUnderlying106 D_ rfl rfl hE zp rfl fun rl1 nl1 hrl1 hnl1=>Zz 12 ?_
 cases rl1
 ·replace hrl1:=zdf hrl1
  refine Zz 8 ?_
  refine jH_ (k:=k) 1 lr_ (.inr rfl) Tryz.runUnderlying106 rfl rfl rfl rfl hE (by assumption) fun en1 cn1 hE1=>Zz 10 ?_
  exact rK_ Tryz.results63 ⟨((true,n),en1,cn1),by simp[*],⟨fun q=>absurd q (by assumption),fun _=>rfl⟩,by rw[if_neg (by assumption),if_neg (by assumption)];exact hE1⟩ rfl rfl rfl (c_ d_) zt
 replace hrl1:=zdt hrl1
 refine Zz 9 ?_
 exact rK_ Tryz.results63 ⟨((false,nl1),es,c),by simp[*],⟨fun _=>hnl1 rfl,fun q=>absurd (by assumption) q⟩,by rw[if_pos (by assumption),if_pos (by assumption)];exact hE⟩ rfl rfl rfl zp zt
end Go.Proofs.YtkeanlfhghlgiaaGreatDoor
namespace Go.Proofs.YtkeanlfhghlgiaaGreatDoor
open Go Go.Sx Go.Proofs
attribute [local irreducible] Code.wp wpList wpAnyH
open Go.Vs
structure PB where
  g:Nat
  pb:Nat
  kb:Nat
  ab:Nat
  ub:Nat
  ob:Nat
  ib:Nat
  rb:Nat
  sb:Nat
  pad:Option Addr
  pcap:Nat
def gpF (B:PB) (p:List Pc) (u:Value):List Value:=[.slice B.pad (List.length p) B.pcap,.map (some B.pb),u,.map (some B.kb),.map (some B.ab),.map (some B.ub),.map (some B.ob),.map (some B.ib),.map (some B.rb),.map (some B.sb)]
structure PSt where
  sv:Value
  es:Array MapEntry
  c:Nat
  h:Hp
def PSt.ok (y:PSt) (l:List Stp):Prop:=zR 48 9 Stp.cells y.sv l y.h∧IntE Fc.val y.es (fcs l) (iot (List.length l))
def PSt.own (B:PB) (p:List Pc) (y:PSt):Hp:=(B.g,.cells #[.slice B.pad (List.length p) B.pcap,.map (some B.pb),y.sv,.map (some B.kb),.map (some B.ab),.map (some B.ub),.map (some B.ob),.map (some B.ib),.map (some B.rb),.map (some B.sb)] 105 (0,0))::(B.kb,.map y.es y.c)::y.h
theorem bS_ (B:PB) (p:List Pc) (rule piece:Int) (f:Fc) (fad:Option Addr) (fcap:Nat) (fr:List Int) (l:List Stp) (sv:Value) (es:Array MapEntry) (c:Nat) (Hr:Hp) (hr:zR 48 9 Stp.cells sv l Hr) (hK:IntE Fc.val es (fcs l) (iot (List.length l))) (hl:l.length≤100000000):Tri Tryz.prog 65 #[zp_ B.g 0,.int .i64 rule,Fc.val f,.int .i64 piece,.slice fad (List.length fr) fcap] ((B.g,.cells #[.slice B.pad (List.length p) B.pcap,.map (some B.pb),sv,.map (some B.kb),.map (some B.ab),.map (some B.ub),.map (some B.ob),.map (some B.ib),.map (some B.rb),.map (some B.sb)] 105 (0,0))::(B.kb,.map es c)::Hr) [aQ_ l,aq_ fad (List.flatMap ae_ fr)] (fun _:{y:List Stp×PSt // y.1=hD_ l (Stp.mk rule f piece fad fcap fr)∧y.2.ok y.1}=>.tuple #[]) (fun y=>y.1.2.own B p) (fun y=>[aQ_ y.1.1]):=by
 refine u_ Tryz.func65 rfl rfl Tryz.ntmps65 rfl fun v0=>?_
 refine Zz 2 ?_
 refine aA_ rfl rfl fun b1=>Zz 3 ?_
 refine af_ ((b1,.cells #[.int .i64 f.kind,str f.a,str f.b,str f.r,.int .i64 f.lo,.int .i64 f.hi] 24 (0,0))::((B.g,.cells #[.slice B.pad (List.length p) B.pcap,.map (some B.pb),sv,.map (some B.kb),.map (some B.ab),.map (some B.ub),.map (some B.ob),.map (some B.ib),.map (some B.rb),.map (some B.sb)] 105 (0,0))::Hr)) zk ?_
 refine q_ 6 [0,1,2,3,4,5,6,7,8,9] zk zs (Zz 9 ?_)
 refine T_ rfl (cG_ hr N_ rfl) rfl (dX_ (l_ 10 rfl zk (n_ (pT_ f (List.length l:Int) (fcs l) (iot (List.length l)) B.kb es c hK) rfl zp zt rfl fun⟨⟨⟨rc1,rn1⟩,er1,cr1⟩,hrc1,hrm1,hE_r1⟩=>?_)))
 dsimp only
 simp only[List.cons_append,List.nil_append]
 refine Zz 2 ?_
 refine I_ zs (q_ 0 [11,12,13,14,15] zk zs (Zz 13 ?_))
 cases rc1
 ·replace hrc1:=zdf hrc1
  refine Zz 3 ?_
  have hyes:f∈fcs l:=Decidable.not_not.1 (by assumption)
  have e0:hD_ l (Stp.mk rule f piece fad fcap fr)=l:=if_pos hyes
  rw[if_pos hyes,if_pos hyes]at hE_r1
  exact bM_ Tryz.results65 ⟨(l,⟨sv,er1,cr1,Hr⟩),e0.symm,⟨hr,hE_r1⟩⟩ rfl (f_ (c_ (c_ d_)) (f_ d_ K_)) zf
 replace hrc1:=zdt hrc1
 refine cH_ rfl ?_
 refine af_ ((b1,.cells #[.int .i64 f.kind,str f.a,str f.b,str f.r,.int .i64 f.lo,.int .i64 f.hi] 24 (0,0))::[]) zk ?_
 refine q_ 6 [0,1,2,3,5,6,7,8,9] zk zs (Zz 8 ?_)
 refine T_ rfl (F_ mY_ rfl rfl) rfl (dX_ ?_)
 refine bU_ 4 10 rfl rfl zk ?_ ?_
 ·refine Zz 3 ?_
  refine I_ zs (l_ 10 rfl zk (Q_ N_ aw_ cP_ rfl rfl rfl rfl rfl rfl fun b2=>Zz 2 ?_))
  refine I_ zs (l_ 11 rfl zk (ak_ (news:=List.flatMap Stp.cells [(Stp.mk rule f piece fad fcap fr)]) ic_ hr rfl rfl zp rfl (bq_ 0 rfl) (fun u hu=>ax_ Stp.cells_one hu) (by simp only[maxLen];first|omega|(simp;omega)) (by first|omega|(simp;omega)) rfl fun sv1 Hr1 hr1=>?_))
  refine w_ List.perm_append_comm ?_
  have hq1:=zsa hr1
  refine Zz 2 ?_
  refine I_ (fun _ a b=>⟨Vw.sat.sub (a.perm (c_ (c_ d_))),b⟩) (q_ 1 [12,13] zk (fun _ a b=>⟨Vw.sat.sub (a.perm (c_ (c_ d_))),b⟩) (Zz 3 ?_))
  refine l_ 14 rfl zk (dG_ 3 hq1 eI_ rfl rfl rfl rfl (Zz 2 ?_))
  refine I_ (fun _ a b=>⟨Vw.sat.sub (a.perm (c_ (c_ d_))),b⟩) (Zz 2 ?_)
  have e0:hD_ l (Stp.mk rule f piece fad fcap fr)=(l++[(Stp.mk rule f piece fad fcap fr)]):=if_neg (by assumption)
  rw[if_neg (by assumption),if_neg (by assumption)]at hE_r1
  exact bM_ Tryz.results65 ⟨((l++[(Stp.mk rule f piece fad fcap fr)]),⟨sv1,er1,cr1,Hr1⟩),e0.symm,⟨hq1,(by rw[cv_,List.length_append];show IntE _ _ _ (iot (l.length+1));rw[mz_];exact hE_r1)⟩⟩ rfl (f_ (c_ (c_ (c_ d_))) (f_ (c_ d_) (c_ K_))) (fun v _ h=>by exact⟨gi_ h.1 h.2.1,trivial⟩)
 refine Q_ N_ aw_ cP_ rfl rfl rfl rfl rfl rfl fun b3=>Zz 2 ?_
 refine I_ zs (l_ 4 rfl zk (Zz 3 ?_))
 refine I_ zs (l_ 11 rfl zk (ak_ (news:=List.flatMap Stp.cells [(Stp.mk rule f piece fad fcap fr)]) ic_ hr rfl rfl zp rfl (bq_ 0 rfl) (fun u hu=>ax_ Stp.cells_one hu) (by simp only[maxLen];first|omega|(simp;omega)) (by first|omega|(simp;omega)) rfl fun sv2 Hr2 hr2=>?_))
 refine w_ List.perm_append_comm ?_
 have hq2:=zsa hr2
 refine Zz 2 ?_
 refine I_ (fun _ a b=>⟨Vw.sat.sub (a.perm (c_ (c_ d_))),b⟩) (q_ 1 [12,13] zk (fun _ a b=>⟨Vw.sat.sub (a.perm (c_ (c_ d_))),b⟩) (Zz 3 ?_))
 refine l_ 14 rfl zk (dG_ 3 hq2 eI_ rfl rfl rfl rfl (Zz 2 ?_))
 refine I_ (fun _ a b=>⟨Vw.sat.sub (a.perm (c_ (c_ d_))),b⟩) (Zz 2 ?_)
 have e0:hD_ l (Stp.mk rule f piece fad fcap fr)=(l++[(Stp.mk rule f piece fad fcap fr)]):=if_neg (by assumption)
 rw[if_neg (by assumption),if_neg (by assumption)]at hE_r1
 exact bM_ Tryz.results65 ⟨((l++[(Stp.mk rule f piece fad fcap fr)]),⟨sv2,er1,cr1,Hr2⟩),e0.symm,⟨hq2,(by rw[cv_,List.length_append];show IntE _ _ _ (iot (l.length+1));rw[mz_];exact hE_r1)⟩⟩ rfl (f_ (c_ (c_ (c_ d_))) (f_ (c_ d_) (c_ K_))) (fun v _ h=>by exact⟨gi_ h.1 h.2.1,trivial⟩)
end Go.Proofs.YtkeanlfhghlgiaaGreatDoor
namespace Go.Proofs.YtkeanlfhghlgiaaGreatDoor
open Go Go.Sx Go.Proofs
attribute [local irreducible] Code.wp wpList wpAnyH
open Go.Vs
theorem cR_ (a b:Str):Fn0 Tryz.prog 60 #[str a,str b] (Fc.val (y_ a b)):=by
  refine u_ Tryz.func60 rfl rfl Tryz.ntmps60 rfl fun v0=>?_
  refine Zz 2 ?_
  refine L_ Z_ rfl fun b1=>Zz 6 ?_
  refine i_ (F_ dv_ rfl rfl) rfl (A_ 0 z_ rfl rfl rfl rfl rfl rfl (Zz 3 ?_))
  exact fk_ () (fun aa v h1 h2=>db_ (us:=Fc.cells (y_ a b)) 0 Tryz.results60 ba_ z_ rfl rfl rfl aa v h1 h2) m_ zt
theorem dp_ (a r b:Str):Fn0 Tryz.prog 61 #[str a,str r,str b] (Fc.val (E_ a r b)):=by
  refine u_ Tryz.func61 rfl rfl Tryz.ntmps61 rfl fun v0=>?_
  refine Zz 2 ?_
  refine L_ Z_ rfl fun b1=>Zz 7 ?_
  refine i_ (F_ dv_ rfl rfl) rfl (A_ 0 z_ rfl rfl rfl rfl rfl rfl (Zz 3 ?_))
  exact fk_ () (fun aa v h1 h2=>db_ (us:=Fc.cells (E_ a r b)) 0 Tryz.results61 ba_ z_ rfl rfl rfl aa v h1 h2) m_ zt
theorem iU_ (a r:Str) (lo hi:Int):Fn0 Tryz.prog 62 #[str a,str r,.int .i64 lo,.int .i64 hi] (Fc.val (M_ a r lo hi)):=by
  refine u_ Tryz.func62 rfl rfl Tryz.ntmps62 rfl fun v0=>?_
  refine Zz 2 ?_
  refine L_ Z_ rfl fun b1=>Zz 8 ?_
  refine i_ (F_ dv_ rfl rfl) rfl (A_ 0 z_ rfl rfl rfl rfl rfl rfl (Zz 3 ?_))
  exact fk_ () (fun aa v h1 h2=>db_ (us:=Fc.cells (M_ a r lo hi)) 0 Tryz.results62 ba_ z_ rfl rfl rfl aa v h1 h2) m_ zt
theorem kd_ (B:PB) (p:List Pc) (A:List Str) (fm:List (Ky×Int)) (afm:Ky→Option Addr×Nat) (x:Jx) (aab aub:Str→Option Addr×Nat) (aob aib arb asb:eA_→Option Addr×Nat) (hv:∀ z∈p,z.vok) (hfd:Fnd p fm) (hpl:p.length≤16384) (n n1:Nat) (f:Fc) (l:List Stp) (y:PSt) (hS:y.ok l) (hE:Eng p A l) (hB:∀ l,Eng p A l→l.length≤65536) (D:Nat→Prop) (hD:Fre D l) (hx:x.of (l.take n1)) (hxl:x.len n1) (hn1:n1≤65536) (hform:f.form) (hn:n<65536) (hk:f.kind=1) (hAt:At l n (y_ f.a f.b)):Tri Tryz.prog 66 #[zp_ B.g 0,Fc.val f,.int .i64 (n:Int)] (y.own B p) [aq_ B.pad (List.flatMap Pc.cells p),mlF Tryz.prog 111 Ky.val ae_ B.pb fm afm,aQ_ l,imF D] (fun _:{y:List Stp×PSt // y.2.ok y.1∧Eng p A y.1∧l <+: y.1∧Fre D y.1∧RawC p fm f l y.1}=>.tuple #[]) (fun y=>y.1.2.own B p) (fun y=>[aQ_ y.1.1]):=by
 refine u_ Tryz.func66 rfl rfl Tryz.ntmps66 rfl fun v0=>?_
 refine Zz 2 ?_
 refine aA_ rfl rfl fun b1=>Zz 5 ?_
 refine q_ 0 [0,1,2,3,4,5,6,7,8,9] zk zs (Zz 6 ?_)
 refine T_ rfl (F_ dV_ rfl rfl) rfl (T_ rfl (aN_ (k:=(Ky.mk 1 [] f.b)) (adr:=afm) ew_ bs_ V_ rfl rfl zf) rfl (Zz 6 ?_))
 refine X_ (ι:={y:Nat×List Stp×PSt // y.1≤List.length (lat fm (Ky.mk 1 [] f.b))∧y.2.2.ok y.2.1∧Eng p A y.2.1∧l <+: y.2.1∧en_ p (lat fm (Ky.mk 1 [] f.b)) y.1 (fun x=>y_ f.a x.c∈fcs y.2.1)∧Fre D y.2.1}) (fun y=>[(0,zp_ B.g 0),(2,.int .i64 (n:Int)),(4,zp_ b1 0),(27,.slice (Prod.fst (afm (Ky.mk 1 [] f.b))) (List.length (lat fm (Ky.mk 1 [] f.b))) (Prod.snd (afm (Ky.mk 1 [] f.b)))),(28,.int .i64 (List.length (lat fm (Ky.mk 1 [] f.b)):Int)),(29,.int .i64 (y.1.1:Int))]) (fun y=>((B.g,.cells #[.slice B.pad (List.length p) B.pcap,.map (some B.pb),y.1.2.2.sv,.map (some B.kb),.map (some B.ab),.map (some B.ub),.map (some B.ob),.map (some B.ib),.map (some B.rb),.map (some B.sb)] 105 (0,0))::((B.kb,.map y.1.2.2.es y.1.2.2.c)::((b1,.cells #[.int .i64 f.kind,str f.a,str f.b,str f.r,.int .i64 f.lo,.int .i64 f.hi] 24 (0,0))::y.1.2.2.h)))) (fun y=>[aQ_ y.1.2.1,aq_ B.pad (List.flatMap Pc.cells p),mlF Tryz.prog 111 Ky.val ae_ B.pb fm afm,imF D]) (fun y=>List.length (lat fm (Ky.mk 1 [] f.b)) - y.1.1) ⟨((0:Nat),l,y),by simp,by exact hS,by exact hE,List.prefix_refl _,(en_.zero),by exact hD⟩ zl zp zf ?_
 rintro ⟨⟨i,l_i,y_i⟩,hi_i,hS_i,hE_i,hp_i,hu_i,hD_i⟩
 dsimp only at hi_i hS_i hE_i hp_i hu_i hD_i ⊢
 have hb_i:=Nat.le_trans (Nat.le_trans (aZ_ fm (Ky.mk 1 [] f.b)) hfd.len) (Nat.mul_le_mul_left 2 hpl)
 refine Zi 2 (fun hr1=>?_) fun hr1=>?_
 ·refine Zz 9 ?_
  refine q_ 0 [0,1,2,3,4,5,6,7,8,9] zk zs (Zz 6 ?_)
  refine T_ rfl (F_ dV_ rfl rfl) rfl (T_ rfl (aN_ (k:=(Ky.mk 2 [] f.b)) (adr:=afm) ew_ bs_ V_ rfl rfl zf) rfl (Zz 6 ?_))
  refine X_ (ι:={y:Nat×List Stp×PSt // y.1≤List.length (lat fm (Ky.mk 2 [] f.b))∧y.2.2.ok y.2.1∧Eng p A y.2.1∧l_i <+: y.2.1∧en_ p (lat fm (Ky.mk 2 [] f.b)) y.1 (fun x=>y_ f.a x.a∈fcs l→y_ f.a x.b∈fcs l→y_ f.a x.c∈fcs y.2.1)∧Fre D y.2.1}) (fun y=>[(0,zp_ B.g 0),(2,.int .i64 (n:Int)),(4,zp_ b1 0),(27,.slice (Prod.fst (afm (Ky.mk 1 [] f.b))) (List.length (lat fm (Ky.mk 1 [] f.b))) (Prod.snd (afm (Ky.mk 1 [] f.b)))),(28,.int .i64 (List.length (lat fm (Ky.mk 1 [] f.b)):Int)),(29,.int .i64 (i:Int)),(57,.slice (Prod.fst (afm (Ky.mk 2 [] f.b))) (List.length (lat fm (Ky.mk 2 [] f.b))) (Prod.snd (afm (Ky.mk 2 [] f.b)))),(58,.int .i64 (List.length (lat fm (Ky.mk 2 [] f.b)):Int)),(59,.int .i64 (y.1.1:Int))]) (fun y=>((B.g,.cells #[.slice B.pad (List.length p) B.pcap,.map (some B.pb),y.1.2.2.sv,.map (some B.kb),.map (some B.ab),.map (some B.ub),.map (some B.ob),.map (some B.ib),.map (some B.rb),.map (some B.sb)] 105 (0,0))::((B.kb,.map y.1.2.2.es y.1.2.2.c)::((b1,.cells #[.int .i64 f.kind,str f.a,str f.b,str f.r,.int .i64 f.lo,.int .i64 f.hi] 24 (0,0))::y.1.2.2.h)))) (fun y=>[aQ_ y.1.2.1,aq_ B.pad (List.flatMap Pc.cells p),mlF Tryz.prog 111 Ky.val ae_ B.pb fm afm,imF D]) (fun y=>List.length (lat fm (Ky.mk 2 [] f.b)) - y.1.1) ⟨((0:Nat),l_i,y_i),by simp,by exact hS_i,by exact hE_i,List.prefix_refl _,(en_.zero),by exact hD_i⟩ zl zp zh ?_
  rintro ⟨⟨j,l_j,y_j⟩,hi_j,hS_j,hE_j,hp_j,hu_j,hD_j⟩
  dsimp only at hi_j hS_j hE_j hp_j hu_j hD_j ⊢
  have hb_j:=Nat.le_trans (Nat.le_trans (aZ_ fm (Ky.mk 2 [] f.b)) hfd.len) (Nat.mul_le_mul_left 2 hpl)
  refine Zi 2 (fun hr2=>?_) fun hr2=>?_
  ·refine Zz 9 ?_
   refine q_ 0 [0,1,2,3,4,5,6,7,8,9] zk zs (Zz 6 ?_)
   refine T_ rfl (F_ dV_ rfl rfl) rfl (T_ rfl (aN_ (k:=(Ky.mk 3 [] f.b)) (adr:=afm) ew_ bs_ V_ rfl rfl zf) rfl (Zz 6 ?_))
   refine X_ (ι:={y:Nat×List Stp×PSt // y.1≤List.length (lat fm (Ky.mk 3 [] f.b))∧y.2.2.ok y.2.1∧Eng p A y.2.1∧l_j <+: y.2.1∧en_ p (lat fm (Ky.mk 3 [] f.b)) y.1 (fun x=>E_ f.a x.r x.c∈fcs y.2.1)∧Fre D y.2.1}) (fun y=>[(0,zp_ B.g 0),(2,.int .i64 (n:Int)),(4,zp_ b1 0),(27,.slice (Prod.fst (afm (Ky.mk 1 [] f.b))) (List.length (lat fm (Ky.mk 1 [] f.b))) (Prod.snd (afm (Ky.mk 1 [] f.b)))),(28,.int .i64 (List.length (lat fm (Ky.mk 1 [] f.b)):Int)),(29,.int .i64 (i:Int)),(57,.slice (Prod.fst (afm (Ky.mk 2 [] f.b))) (List.length (lat fm (Ky.mk 2 [] f.b))) (Prod.snd (afm (Ky.mk 2 [] f.b)))),(58,.int .i64 (List.length (lat fm (Ky.mk 2 [] f.b)):Int)),(59,.int .i64 (j:Int)),(119,.slice (Prod.fst (afm (Ky.mk 3 [] f.b))) (List.length (lat fm (Ky.mk 3 [] f.b))) (Prod.snd (afm (Ky.mk 3 [] f.b)))),(120,.int .i64 (List.length (lat fm (Ky.mk 3 [] f.b)):Int)),(121,.int .i64 (y.1.1:Int))]) (fun y=>((B.g,.cells #[.slice B.pad (List.length p) B.pcap,.map (some B.pb),y.1.2.2.sv,.map (some B.kb),.map (some B.ab),.map (some B.ub),.map (some B.ob),.map (some B.ib),.map (some B.rb),.map (some B.sb)] 105 (0,0))::((B.kb,.map y.1.2.2.es y.1.2.2.c)::((b1,.cells #[.int .i64 f.kind,str f.a,str f.b,str f.r,.int .i64 f.lo,.int .i64 f.hi] 24 (0,0))::y.1.2.2.h)))) (fun y=>[aQ_ y.1.2.1,aq_ B.pad (List.flatMap Pc.cells p),mlF Tryz.prog 111 Ky.val ae_ B.pb fm afm,imF D]) (fun y=>List.length (lat fm (Ky.mk 3 [] f.b)) - y.1.1) ⟨((0:Nat),l_j,y_j),by simp,by exact hS_j,by exact hE_j,List.prefix_refl _,(en_.zero),by exact hD_j⟩ zl zp zh ?_
   rintro ⟨⟨k,l_k,y_k⟩,hi_k,hS_k,hE_k,hp_k,hu_k,hD_k⟩
   dsimp only at hi_k hS_k hE_k hp_k hu_k hD_k ⊢
   have hb_k:=Nat.le_trans (Nat.le_trans (aZ_ fm (Ky.mk 3 [] f.b)) hfd.len) (Nat.mul_le_mul_left 2 hpl)
   refine Zi 2 (fun hr3=>?_) fun hr3=>?_
   ·refine Zz 8 ?_
    refine q_ 0 [0,1,2,3,4,5,6,7,8,9] zk zs (Zz 6 ?_)
    refine T_ rfl (F_ dV_ rfl rfl) rfl (T_ rfl (aN_ (k:=(Ky.mk 8 [] f.b)) (adr:=afm) ew_ bs_ V_ rfl rfl zf) rfl (Zz 6 ?_))
    refine X_ (ι:={y:Nat×List Stp×PSt // y.1≤List.length (lat fm (Ky.mk 8 [] f.b))∧y.2.2.ok y.2.1∧Eng p A y.2.1∧l_k <+: y.2.1∧en_ p (lat fm (Ky.mk 8 [] f.b)) y.1 (fun x=>M_ f.a x.r x.lo x.hi∈fcs y.2.1)∧Fre D y.2.1}) (fun y=>[(0,zp_ B.g 0),(2,.int .i64 (n:Int)),(4,zp_ b1 0),(27,.slice (Prod.fst (afm (Ky.mk 1 [] f.b))) (List.length (lat fm (Ky.mk 1 [] f.b))) (Prod.snd (afm (Ky.mk 1 [] f.b)))),(28,.int .i64 (List.length (lat fm (Ky.mk 1 [] f.b)):Int)),(29,.int .i64 (i:Int)),(57,.slice (Prod.fst (afm (Ky.mk 2 [] f.b))) (List.length (lat fm (Ky.mk 2 [] f.b))) (Prod.snd (afm (Ky.mk 2 [] f.b)))),(58,.int .i64 (List.length (lat fm (Ky.mk 2 [] f.b)):Int)),(59,.int .i64 (j:Int)),(119,.slice (Prod.fst (afm (Ky.mk 3 [] f.b))) (List.length (lat fm (Ky.mk 3 [] f.b))) (Prod.snd (afm (Ky.mk 3 [] f.b)))),(120,.int .i64 (List.length (lat fm (Ky.mk 3 [] f.b)):Int)),(121,.int .i64 (k:Int)),(157,.slice (Prod.fst (afm (Ky.mk 8 [] f.b))) (List.length (lat fm (Ky.mk 8 [] f.b))) (Prod.snd (afm (Ky.mk 8 [] f.b)))),(158,.int .i64 (List.length (lat fm (Ky.mk 8 [] f.b)):Int)),(159,.int .i64 (y.1.1:Int))]) (fun y=>((B.g,.cells #[.slice B.pad (List.length p) B.pcap,.map (some B.pb),y.1.2.2.sv,.map (some B.kb),.map (some B.ab),.map (some B.ub),.map (some B.ob),.map (some B.ib),.map (some B.rb),.map (some B.sb)] 105 (0,0))::((B.kb,.map y.1.2.2.es y.1.2.2.c)::((b1,.cells #[.int .i64 f.kind,str f.a,str f.b,str f.r,.int .i64 f.lo,.int .i64 f.hi] 24 (0,0))::y.1.2.2.h)))) (fun y=>[aQ_ y.1.2.1,aq_ B.pad (List.flatMap Pc.cells p),mlF Tryz.prog 111 Ky.val ae_ B.pb fm afm,imF D]) (fun y=>List.length (lat fm (Ky.mk 8 [] f.b)) - y.1.1) ⟨((0:Nat),l_k,y_k),by simp,by exact hS_k,by exact hE_k,List.prefix_refl _,(en_.zero),by exact hD_k⟩ zl zp zh ?_
    rintro ⟨⟨m,l_m,y_m⟩,hi_m,hS_m,hE_m,hp_m,hu_m,hD_m⟩
    dsimp only at hi_m hS_m hE_m hp_m hu_m hD_m ⊢
    have hb_m:=Nat.le_trans (Nat.le_trans (aZ_ fm (Ky.mk 8 [] f.b)) hfd.len) (Nat.mul_le_mul_left 2 hpl)
    refine Zi 2 (fun hr4=>?_) fun hr4=>?_
    ·refine Zz 6 ?_
     exact bM_ Tryz.results66 ⟨(l_m,y_m),hS_m,hE_m,(((((List.prefix_refl l).trans hp_i).trans hp_j).trans hp_k).trans hp_m),hD_m,⟨(hu_i.done (by omega)).mono fun x hx=>ag_ (hp_j.trans (hp_k.trans hp_m)) hx,(hu_j.done (by omega)).mono fun x hx q1 q2=>ag_ (hp_k.trans hp_m) (hx q1 q2),(hu_k.done (by omega)).mono fun x hx=>ag_ hp_m hx,hu_m.done (by omega)⟩⟩ rfl (f_ d_ (f_ d_ K_)) zf
    obtain⟨hlx4,x4,hx4,hmx4⟩:=zge (show m<List.length (lat fm (Ky.mk 8 [] f.b)) by omega)
    obtain⟨k_x4,z_x4,e_x4,hz_x4,hk_x4⟩:=hfd.snd _ _ (aY_.1 hmx4)
    subst e_x4
    have hlz_x4:k_x4<List.length p:=(List.getElem?_eq_some_iff.1 hz_x4).1
    have hmz_x4:z_x4∈p:=List.mem_of_getElem? hz_x4
    refine Zz 10 ?_
    refine i_ (aa_ g_ s_ rfl rfl (fun v _ h=>H_ (n:=1) S_ (by decide) (by exact (ap_ h.2.2.1 (Ky.mk 8 [] f.b))) hx4) (by omega) (by first|omega|(simp;done))) rfl ?_
    refine i_ (ay_ (ad:=(Prod.fst (afm (Ky.mk 8 [] f.b)))) ad_ rfl (fun v _ h=>by exact (ap_ h.2.2.1 (Ky.mk 8 [] f.b))) (x_ S_ hx4 0 _ rfl)) rfl (Zz 12 ?_)
    refine L_ aL_ rfl fun b2=>A_ 0 R_ rfl rfl rfl rfl rfl rfl (Zz 12 ?_)
    refine n_ (iU_ f.a z_x4.r z_x4.lo z_x4.hi) rfl m_ zt rfl fun _=>Zz 2 ?_
    refine Q_ g_ s_ D_ rfl rfl rfl rfl rfl rfl fun b3=>?_
    refine co_ (fun v h1 h=>(bT_ h1 d_ (by exact h.2.2.2.1):¬ D b3)) fun hnd_b3=>?_
    refine aJ_ (List.flatMap ae_ [(n:Int)]) d_ rfl ?_
    refine n_ (bS_ B p 11 (k_x4:Int) (M_ f.a z_x4.r z_x4.lo z_x4.hi) (some ⟨b3,0,none⟩) 1 [(n:Int)] l_m y_m.sv y_m.es y_m.c y_m.h hS_m.1 hS_m.2 (Nat.le_trans (hB _ hE_m) (by decide))) rfl (f_ (c_ d_) (f_ (c_ d_) (c_ K_))) zf rfl fun⟨⟨l1,y1⟩,hl1,hy1⟩=>?_
    dsimp only
    simp only[PSt.own,List.cons_append]
    have hE1:Eng p A l1:=bv_ hl1 hE_m (cor11 hz_x4 hk_x4 (hAt.pre (((((List.prefix_refl l).trans hp_i).trans hp_j).trans hp_k).trans hp_m))) (show (11:Int)≤14 from by decide)
    have hq1:l_m <+: l1:=bt_ hl1
    have hm1:=bu_ hl1;dsimp only at hm1
    have hD1:Fre D l1:=bV_ hl1 hD_m (fun _=>bH_ hnd_b3)
    refine Zz 2 ?_
    refine w_ (p_ d_ (p_ d_ (p_ (e_ d_) (an_ Y_)))) (Zz 5 ?_)
    exact C_ ⟨(m+1,l1,y1),hlx4,hy1,hE1,(hp_m.trans ((List.prefix_refl l_m).trans hq1)),(hu_m.step (fun x hx=>ag_ ((List.prefix_refl l_m).trans hq1) hx) hx4 hz_x4 (by exact hm1)),hD1⟩ (by dsimp only;omega) zl zp zf
   obtain⟨hlx3,x3,hx3,hmx3⟩:=zge (show k<List.length (lat fm (Ky.mk 3 [] f.b)) by omega)
   obtain⟨k_x3,z_x3,e_x3,hz_x3,hk_x3⟩:=hfd.snd _ _ (aY_.1 hmx3)
   subst e_x3
   have hlz_x3:k_x3<List.length p:=(List.getElem?_eq_some_iff.1 hz_x3).1
   have hmz_x3:z_x3∈p:=List.mem_of_getElem? hz_x3
   refine Zz 10 ?_
   refine i_ (aa_ g_ s_ rfl rfl (fun v _ h=>H_ (n:=1) S_ (by decide) (by exact (ap_ h.2.2.1 (Ky.mk 3 [] f.b))) hx3) (by omega) (by first|omega|(simp;done))) rfl ?_
   refine i_ (ay_ (ad:=(Prod.fst (afm (Ky.mk 3 [] f.b)))) ad_ rfl (fun v _ h=>by exact (ap_ h.2.2.1 (Ky.mk 3 [] f.b))) (x_ S_ hx3 0 _ rfl)) rfl (Zz 3 ?_)
   refine es_ (hR_ B.g (gpF B p) 105) ((b1,.cells #[.int .i64 f.kind,str f.a,str f.b,str f.r,.int .i64 f.lo,.int .i64 f.hi] 24 (0,0))::[]) zk ?_
   refine dH_ 3 [0,1,2,3,4,5,6,7,8,9,10,11,12,13,14,15,16,17,18,20,21] zk (ab_ (F:=(gpF B p)) (ac_ d_ (c_ d_)) fun v a b=>b) (G_ rfl (ar_ rfl) rfl (G_ rfl (bf_ am_ rfl rfl rfl J_) rfl (G_ rfl (bp_ 0 O_ rfl rfl rfl) rfl (G_ rfl (ar_ rfl) rfl (G_ rfl (cE_ rfl) rfl (G_ rfl (bf_ as_ rfl rfl rfl dY_) rfl (G_ rfl (ea_ (F:=(gpF B p)) fr_ rfl zf (fun _=>rfl)) rfl (G_ rfl (ar_ rfl) rfl ?_))))))))
   refine G_ rfl (aa_ W_ R_ rfl rfl (fun v _ h=>H_ (n:=10) Pc.cells_len (by decide) (by exact h.2.2.1) hz_x3) (by omega) (by first|omega|(simp;done))) rfl ?_
   refine G_ rfl (cQ_ aI_ rfl rfl rfl J_) rfl (G_ rfl (ay_ (ad:=B.pad) O_ rfl zf (x_ Pc.cells_len hz_x3 4 _ rfl)) rfl (G_ rfl (ar_ rfl) rfl (G_ rfl (cE_ rfl) rfl (G_ rfl (bf_ as_ rfl rfl rfl dY_) rfl (G_ rfl (ea_ (F:=(gpF B p)) fr_ rfl zf (fun _=>rfl)) rfl (G_ rfl (ar_ rfl) rfl ?_))))))
   refine G_ rfl (aa_ W_ R_ rfl rfl (fun v _ h=>H_ (n:=10) Pc.cells_len (by decide) (by exact h.2.2.1) hz_x3) (by omega) (by first|omega|(simp;done))) rfl ?_
   refine G_ rfl (cQ_ aI_ rfl rfl rfl J_) rfl (G_ rfl (ay_ (ad:=B.pad) O_ rfl zf (x_ Pc.cells_len hz_x3 3 _ rfl)) rfl (G_ rfl (ar_ rfl) rfl (G_ rfl (ar_ rfl) rfl (dD_ ?_))))
   refine bU_ 19 22 rfl rfl zk ?_ ?_
   ·refine n_ (dp_ f.a z_x3.r z_x3.c) rfl m_ zt rfl fun _=>Zz 2 ?_
    refine P_ (ab_ (F:=(gpF B p)) (ac_ d_ (c_ d_)) fun v a b=>b) (l_ 22 rfl zk (Q_ g_ s_ D_ rfl rfl rfl rfl rfl rfl fun b4=>?_))
    refine co_ (fun v h1 h=>(bT_ h1 d_ (by exact h.2.2.2.1):¬ D b4)) fun hnd_b4=>?_
    refine aJ_ (List.flatMap ae_ [(n:Int)]) d_ rfl ?_
    refine Zz 2 ?_
    refine P_ (ab_ (F:=(gpF B p)) (ac_ d_ (c_ d_)) fun v a b=>b.2) (l_ 23 rfl zk (n_ (bS_ B p 5 (k_x3:Int) (E_ f.a z_x3.r z_x3.c) (some ⟨b4,0,none⟩) 1 [(n:Int)] l_k y_k.sv y_k.es y_k.c y_k.h hS_k.1 hS_k.2 (Nat.le_trans (hB _ hE_k) (by decide))) rfl zp zf rfl fun⟨⟨l2,y2⟩,hl2,hy2⟩=>?_))
    dsimp only
    simp only[PSt.own,List.cons_append]
    have hE2:Eng p A l2:=bv_ hl2 hE_k (cor5 hz_x3 hk_x3 (hAt.pre ((((List.prefix_refl l).trans hp_i).trans hp_j).trans hp_k))) (show (5:Int)≤14 from by decide)
    have hq2:l_k <+: l2:=bt_ hl2
    have hm2:=bu_ hl2;dsimp only at hm2
    have hD2:Fre D l2:=bV_ hl2 hD_k (fun _=>bH_ hnd_b4)
    refine Zz 2 ?_
    refine P_ (ab_ (F:=(gpF B p)) (ac_ d_ (c_ Y_)) fun v a b=>b.2.2) (Zz 2 ?_)
    refine w_ (p_ d_ (p_ d_ (an_ Y_))) (Zz 5 ?_)
    exact C_ ⟨(k+1,l2,y2),hlx3,hy2,hE2,(hp_k.trans ((List.prefix_refl l_k).trans hq2)),(hu_k.step (fun x hx=>ag_ ((List.prefix_refl l_k).trans hq2) hx) hx3 hz_x3 (by exact hm2)),hD2⟩ (by dsimp only;omega) zl zp zf
   refine Q_ g_ s_ D_ rfl rfl rfl rfl rfl rfl fun b5=>?_
   refine co_ (fun v h1 h=>(bT_ h1 d_ (by exact h.2.2.2.1):¬ D b5)) fun hnd_b5=>?_
   refine aJ_ (List.flatMap ae_ [(n:Int)]) d_ rfl ?_
   refine Zz 2 ?_
   refine P_ (ab_ (F:=(gpF B p)) (ac_ d_ (c_ d_)) fun v a b=>b.2) (l_ 19 rfl zk (n_ (dp_ f.a z_x3.r z_x3.c) rfl m_ zt rfl fun _=>Zz 2 ?_))
   refine P_ (ab_ (F:=(gpF B p)) (ac_ d_ (c_ d_)) fun v a b=>b.2) (l_ 23 rfl zk (n_ (bS_ B p 5 (k_x3:Int) (E_ f.a z_x3.r z_x3.c) (some ⟨b5,0,none⟩) 1 [(n:Int)] l_k y_k.sv y_k.es y_k.c y_k.h hS_k.1 hS_k.2 (Nat.le_trans (hB _ hE_k) (by decide))) rfl zp zf rfl fun⟨⟨l3,y3⟩,hl3,hy3⟩=>?_))
   dsimp only
   simp only[PSt.own,List.cons_append]
   have hE3:Eng p A l3:=bv_ hl3 hE_k (cor5 hz_x3 hk_x3 (hAt.pre ((((List.prefix_refl l).trans hp_i).trans hp_j).trans hp_k))) (show (5:Int)≤14 from by decide)
   have hq3:l_k <+: l3:=bt_ hl3
   have hm3:=bu_ hl3;dsimp only at hm3
   have hD3:Fre D l3:=bV_ hl3 hD_k (fun _=>bH_ hnd_b5)
   refine Zz 2 ?_
   refine P_ (ab_ (F:=(gpF B p)) (ac_ d_ (c_ Y_)) fun v a b=>b.2.2) (Zz 2 ?_)
   refine w_ (p_ d_ (p_ d_ (an_ Y_))) (Zz 5 ?_)
   exact C_ ⟨(k+1,l3,y3),hlx3,hy3,hE3,(hp_k.trans ((List.prefix_refl l_k).trans hq3)),(hu_k.step (fun x hx=>ag_ ((List.prefix_refl l_k).trans hq3) hx) hx3 hz_x3 (by exact hm3)),hD3⟩ (by dsimp only;omega) zl zp zf
  obtain⟨hlx2,x2,hx2,hmx2⟩:=zge (show j<List.length (lat fm (Ky.mk 2 [] f.b)) by omega)
  obtain⟨k_x2,z_x2,e_x2,hz_x2,hk_x2⟩:=hfd.snd _ _ (aY_.1 hmx2)
  subst e_x2
  have hlz_x2:k_x2<List.length p:=(List.getElem?_eq_some_iff.1 hz_x2).1
  have hmz_x2:z_x2∈p:=List.mem_of_getElem? hz_x2
  refine Zz 10 ?_
  refine i_ (aa_ g_ s_ rfl rfl (fun v _ h=>H_ (n:=1) S_ (by decide) (by exact (ap_ h.2.2.1 (Ky.mk 2 [] f.b))) hx2) (by omega) (by first|omega|(simp;done))) rfl ?_
  refine i_ (ay_ (ad:=(Prod.fst (afm (Ky.mk 2 [] f.b)))) ad_ rfl (fun v _ h=>by exact (ap_ h.2.2.1 (Ky.mk 2 [] f.b))) (x_ S_ hx2 0 _ rfl)) rfl (Zz 12 ?_)
  refine L_ aL_ rfl fun b6=>A_ 0 R_ rfl rfl rfl rfl rfl rfl (Zz 4 ?_)
  refine q_ 7 [0,1,2,3,4,5,6,7] zk zs (Zz 9 ?_)
  refine l_ 8 rfl zk (n_ (cR_ f.a z_x2.a) rfl m_ zt rfl fun _=>Zz 3 ?_)
  refine l_ 9 rfl zk (eu_ (k:=(y_ f.a z_x2.a)) eO_ dM_ D_ rfl rfl hS_j.2 (c_ (c_ d_)) rfl fun rl1 nl1 hrl1 hnl1=>Zz 3 ?_)
  refine q_ 0 [10,11,12,13,14] zk zs (Zz 10 ?_)
  refine q_ 7 [0,1,2,3,4,5,6,7] zk zs (Zz 9 ?_)
  refine l_ 8 rfl zk (n_ (cR_ f.a z_x2.b) rfl m_ zt rfl fun _=>Zz 3 ?_)
  refine l_ 9 rfl zk (eu_ (k:=(y_ f.a z_x2.b)) eO_ dM_ D_ rfl rfl hS_j.2 (c_ (c_ d_)) rfl fun rl2 nl2 hrl2 hnl2=>Zz 3 ?_)
  refine q_ 0 [10,11,12,13,14] zk zs (Zz 12 ?_)
  cases rl1
  ·replace hrl1:=zdf hrl1
   refine Zz 12 ?_
   exact C_ ⟨(j+1,l_j,y_j),hlx2,hS_j,hE_j,(hp_j.trans (List.prefix_refl l_j)),(hu_j.step (fun x hx=>fun q0 q1=>ag_ (List.prefix_refl l_j) (hx q0 q1)) hx2 hz_x2 (by exact fun q1 q2=>absurd (ag_ (((List.prefix_refl l).trans hp_i).trans hp_j) q1) hrl1)),hD_j⟩ (by dsimp only;omega) zl (f_ (c_ d_) (f_ (c_ d_) (f_ (c_ d_) K_))) zh
  replace hrl1:=zdt hrl1
  refine Zz 5 ?_
  cases rl2
  ·replace hrl2:=zdf hrl2
   refine Zz 8 ?_
   exact C_ ⟨(j+1,l_j,y_j),hlx2,hS_j,hE_j,(hp_j.trans (List.prefix_refl l_j)),(hu_j.step (fun x hx=>fun q0 q1=>ag_ (List.prefix_refl l_j) (hx q0 q1)) hx2 hz_x2 (by exact fun q1 q2=>absurd (ag_ (((List.prefix_refl l).trans hp_i).trans hp_j) q2) hrl2)),hD_j⟩ (by dsimp only;omega) zl (f_ (c_ d_) (f_ (c_ d_) (f_ (c_ d_) K_))) zh
  replace hrl2:=zdt hrl2
  refine Zz 7 ?_
  refine n_ (cR_ f.a z_x2.c) rfl m_ zt rfl fun _=>Zz 3 ?_
  refine Q_ g_ s_ D_ rfl rfl rfl rfl rfl rfl fun b7=>?_
  refine co_ (fun v h1 h=>(bT_ h1 d_ (by exact h.2.2.2.1):¬ D b7)) fun hnd_b7=>?_
  refine aJ_ (List.flatMap ae_ [nl1,nl2]) d_ rfl ?_
  refine n_ (bS_ B p 4 (k_x2:Int) (y_ f.a z_x2.c) (some ⟨b7,0,none⟩) 2 [nl1,nl2] l_j y_j.sv y_j.es y_j.c y_j.h hS_j.1 hS_j.2 (Nat.le_trans (hB _ hE_j) (by decide))) rfl (f_ (c_ d_) (f_ (c_ d_) (c_ K_))) zf rfl fun⟨⟨l4,y4⟩,hl4,hy4⟩=>?_
  dsimp only
  simp only[PSt.own,List.cons_append]
  have hE4:Eng p A l4:=bv_ hl4 hE_j (by obtain⟨q1,e1,a1⟩:=gI_ (hnl1 rfl);obtain⟨q2,e2,a2⟩:=gI_ (hnl2 rfl);rw[e1,e2];exact cor4 hz_x2 hk_x2 a1 a2) (show (4:Int)≤14 from by decide)
  have hq4:l_j <+: l4:=bt_ hl4
  have hm4:=bu_ hl4;dsimp only at hm4
  have hD4:Fre D l4:=bV_ hl4 hD_j (fun _=>bH_ hnd_b7)
  refine Zz 2 ?_
  refine w_ (p_ d_ (p_ d_ (p_ (e_ d_) (an_ Y_)))) (Zz 5 ?_)
  exact C_ ⟨(j+1,l4,y4),hlx2,hy4,hE4,(hp_j.trans ((List.prefix_refl l_j).trans hq4)),(hu_j.step (fun x hx=>fun q0 q1=>ag_ ((List.prefix_refl l_j).trans hq4) (hx q0 q1)) hx2 hz_x2 (by exact fun _ _=>hm4)),hD4⟩ (by dsimp only;omega) zl zp zf
 obtain⟨hlx1,x1,hx1,hmx1⟩:=zge (show i<List.length (lat fm (Ky.mk 1 [] f.b)) by omega)
 obtain⟨k_x1,z_x1,e_x1,hz_x1,hk_x1⟩:=hfd.snd _ _ (aY_.1 hmx1)
 subst e_x1
 have hlz_x1:k_x1<List.length p:=(List.getElem?_eq_some_iff.1 hz_x1).1
 have hmz_x1:z_x1∈p:=List.mem_of_getElem? hz_x1
 refine Zz 10 ?_
 refine i_ (aa_ g_ s_ rfl rfl (fun v _ h=>H_ (n:=1) S_ (by decide) (by exact (ap_ h.2.2.1 (Ky.mk 1 [] f.b))) hx1) (by omega) (by first|omega|(simp;done))) rfl ?_
 refine i_ (ay_ (ad:=(Prod.fst (afm (Ky.mk 1 [] f.b)))) ad_ rfl (fun v _ h=>by exact (ap_ h.2.2.1 (Ky.mk 1 [] f.b))) (x_ S_ hx1 0 _ rfl)) rfl (Zz 3 ?_)
 refine es_ (hR_ B.g (gpF B p) 105) ((b1,.cells #[.int .i64 f.kind,str f.a,str f.b,str f.r,.int .i64 f.lo,.int .i64 f.hi] 24 (0,0))::[]) zk ?_
 refine dH_ 3 [0,1,2,3,4,5,6,7,8,9,10,12,13] zk (ab_ (F:=(gpF B p)) (ac_ d_ (c_ d_)) fun v a b=>b) (G_ rfl (ar_ rfl) rfl (G_ rfl (bf_ am_ rfl rfl rfl J_) rfl (G_ rfl (bp_ 0 O_ rfl rfl rfl) rfl (G_ rfl (ar_ rfl) rfl (G_ rfl (cE_ rfl) rfl (G_ rfl (bf_ as_ rfl rfl rfl dY_) rfl (G_ rfl (ea_ (F:=(gpF B p)) fr_ rfl zf (fun _=>rfl)) rfl (G_ rfl (ar_ rfl) rfl ?_))))))))
 refine G_ rfl (aa_ W_ R_ rfl rfl (fun v _ h=>H_ (n:=10) Pc.cells_len (by decide) (by exact h.2.2.1) hz_x1) (by omega) (by first|omega|(simp;done))) rfl ?_
 refine G_ rfl (cQ_ aI_ rfl rfl rfl J_) rfl (G_ rfl (ay_ (ad:=B.pad) O_ rfl zf (x_ Pc.cells_len hz_x1 3 _ rfl)) rfl (G_ rfl (ar_ rfl) rfl (G_ rfl (ar_ rfl) rfl (dD_ ?_))))
 refine bU_ 11 14 rfl rfl zk ?_ ?_
 ·refine n_ (cR_ f.a z_x1.c) rfl m_ zt rfl fun _=>Zz 2 ?_
  refine P_ (ab_ (F:=(gpF B p)) (ac_ d_ (c_ d_)) fun v a b=>b) (l_ 14 rfl zk (Q_ g_ s_ D_ rfl rfl rfl rfl rfl rfl fun b8=>?_))
  refine co_ (fun v h1 h=>(bT_ h1 d_ (by exact h.2.2.2.1):¬ D b8)) fun hnd_b8=>?_
  refine aJ_ (List.flatMap ae_ [(n:Int)]) d_ rfl ?_
  refine Zz 2 ?_
  refine P_ (ab_ (F:=(gpF B p)) (ac_ d_ (c_ d_)) fun v a b=>b.2) (l_ 15 rfl zk (n_ (bS_ B p 3 (k_x1:Int) (y_ f.a z_x1.c) (some ⟨b8,0,none⟩) 1 [(n:Int)] l_i y_i.sv y_i.es y_i.c y_i.h hS_i.1 hS_i.2 (Nat.le_trans (hB _ hE_i) (by decide))) rfl zp zf rfl fun⟨⟨l5,y5⟩,hl5,hy5⟩=>?_))
  dsimp only
  simp only[PSt.own,List.cons_append]
  have hE5:Eng p A l5:=bv_ hl5 hE_i (cor3 hz_x1 hk_x1 (hAt.pre ((List.prefix_refl l).trans hp_i))) (show (3:Int)≤14 from by decide)
  have hq5:l_i <+: l5:=bt_ hl5
  have hm5:=bu_ hl5;dsimp only at hm5
  have hD5:Fre D l5:=bV_ hl5 hD_i (fun _=>bH_ hnd_b8)
  refine Zz 2 ?_
  refine P_ (ab_ (F:=(gpF B p)) (ac_ d_ (c_ Y_)) fun v a b=>b.2.2) (Zz 2 ?_)
  refine w_ (p_ d_ (p_ d_ (an_ Y_))) (Zz 5 ?_)
  exact C_ ⟨(i+1,l5,y5),hlx1,hy5,hE5,(hp_i.trans ((List.prefix_refl l_i).trans hq5)),(hu_i.step (fun x hx=>ag_ ((List.prefix_refl l_i).trans hq5) hx) hx1 hz_x1 (by exact hm5)),hD5⟩ (by dsimp only;omega) zl zp zf
 refine Q_ g_ s_ D_ rfl rfl rfl rfl rfl rfl fun b9=>?_
 refine co_ (fun v h1 h=>(bT_ h1 d_ (by exact h.2.2.2.1):¬ D b9)) fun hnd_b9=>?_
 refine aJ_ (List.flatMap ae_ [(n:Int)]) d_ rfl ?_
 refine Zz 2 ?_
 refine P_ (ab_ (F:=(gpF B p)) (ac_ d_ (c_ d_)) fun v a b=>b.2) (l_ 11 rfl zk (n_ (cR_ f.a z_x1.c) rfl m_ zt rfl fun _=>Zz 2 ?_))
 refine P_ (ab_ (F:=(gpF B p)) (ac_ d_ (c_ d_)) fun v a b=>b.2) (l_ 15 rfl zk (n_ (bS_ B p 3 (k_x1:Int) (y_ f.a z_x1.c) (some ⟨b9,0,none⟩) 1 [(n:Int)] l_i y_i.sv y_i.es y_i.c y_i.h hS_i.1 hS_i.2 (Nat.le_trans (hB _ hE_i) (by decide))) rfl zp zf rfl fun⟨⟨l6,y6⟩,hl6,hy6⟩=>?_))
 dsimp only
 simp only[PSt.own,List.cons_append]
 have hE6:Eng p A l6:=bv_ hl6 hE_i (cor3 hz_x1 hk_x1 (hAt.pre ((List.prefix_refl l).trans hp_i))) (show (3:Int)≤14 from by decide)
 have hq6:l_i <+: l6:=bt_ hl6
 have hm6:=bu_ hl6;dsimp only at hm6
 have hD6:Fre D l6:=bV_ hl6 hD_i (fun _=>bH_ hnd_b9)
 refine Zz 2 ?_
 refine P_ (ab_ (F:=(gpF B p)) (ac_ d_ (c_ Y_)) fun v a b=>b.2.2) (Zz 2 ?_)
 refine w_ (p_ d_ (p_ d_ (an_ Y_))) (Zz 5 ?_)
 exact C_ ⟨(i+1,l6,y6),hlx1,hy6,hE6,(hp_i.trans ((List.prefix_refl l_i).trans hq6)),(hu_i.step (fun x hx=>ag_ ((List.prefix_refl l_i).trans hq6) hx) hx1 hz_x1 (by exact hm6)),hD6⟩ (by dsimp only;omega) zl zp zf
end Go.Proofs.YtkeanlfhghlgiaaGreatDoor
