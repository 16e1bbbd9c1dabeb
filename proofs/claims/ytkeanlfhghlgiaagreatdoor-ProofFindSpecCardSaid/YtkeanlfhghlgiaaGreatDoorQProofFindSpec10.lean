/-
  Part of the proof of the law ProofFindSpec over this seat: the small logic, the data, the contracts of functions (no condition).
-/
import Derived.Test.YtkeanlfhghlgiaaGreatDoorQProofFindSpec9
import Derived.Test.YtkeanlfhghlgiaaGreatDoorQProofFindSpec3
import Derived.Test.YtkeanlfhghlgiaaGreatDoorQProofFindSpec2
set_option linter.unusedVariables false
set_option linter.unusedSimpArgs false
set_option linter.unusedSectionVars false
set_option maxHeartbeats 1000000
namespace Go.Proofs.YtkeanlfhghlgiaaGreatDoor
open Go Go.Sx Go.Proofs
attribute [local irreducible] Code.wp wpList wpAnyH
open Go.Vs
section
variable {P:Program} {N:Nf} {v0:Vw} {H0:Hp} {fr:Fr} {H F:Hp} {Γ:List Fct} {K D:Type} [DecidableEq K]
theorem lm_:∀ (B:Hp) {v:Vw},an_ (B.map fun p=>eO_ p.1 p.2) v→∀ p∈B,v.im p.1∧v.w.heap[p.1]? = some p.2
 | [],_,_,_,h=>by simp at h
 | q::B,v,h,p,hp=>by
   rcases List.mem_cons.1 hp with rfl|hp
   · exact h.1
   · exact lm_ B h.2 p hp
theorem sf_ {k:Act→World→Prop} {kv:K→Value} {cells:D→List Value} {kt e:TypeId} {sz mb:Nat} {l:List (K×D)} {Hm:Hp} (hK:KeyT P kt kv) (hm:bf_ kv cells e sz l mb Hm) (hH:H.Perm (Hm++F))
    (h:∀ adr,Ok N v0 H0 k fr F (mlF P kt kv cells mb l adr::Γ)):Ok N v0 H0 k fr H Γ:=by
  obtain⟨adr,ha⟩:=hm.lent hK
  refine iU_ Hm hH (gc_ (fun v _ hv=>?_) (h adr))
  rw[eX_]at hv
  refine⟨ha v fun p hp=>?_,hv.2⟩
  have:=hv.1
  exact lm_ Hm.reverse (by rw[List.map_reverse]at *;exact this) p (List.mem_reverse.2 hp)
theorem fV_ {tF:TypeId} {E:Emt P tF} {nw fm:List Fc} {Hs:Hp} {ty t kt et:TypeId} {x:Operand} (hS:E.St nw fm Hs) (hu:∀ w,(underlying t).run P w=.ok (.map kt et) w) (hx:Fr.ev fr x=some (.map (some E.kb))) (hp:H.Perm (Hs++F)) :
    Yld P N fr H Γ (.call ⟨.builtin .len,#[x],#[t]⟩) ty (.int .i64 ((E.kof nw).length:Int)):=by
  obtain⟨es,c,g1,g2⟩:=E.known hS
  exact kx_ g2 hu hx fun v h _=>kT_ hp g1 h
end
def oX_ (x:Ix) (n:Nat):Prop:=x.above.length≤n∧x.under.length≤n∧x.frm.length≤n∧x.into.length≤n∧x.ranges.length≤n∧x.firms.length≤n
theorem sB_:oX_ Ix.nil 0:=by simp[oX_,Ix.nil]
theorem iZ_ {x:Ix} {n:Nat} (h:oX_ x n) (b:Bool) (f:Fc):oX_ (x.add b f) (n+1):=by
 obtain⟨h1,h2,h3,h4,h5,h6⟩:=h
 unfold Ix.add oX_
 split
 ·simp;omega
 split
 ·simp;omega
 split
 ·cases b<;>simp<;>omega
 omega
theorem nY_ {x:Ix} {n:Nat} (h:oX_ x n) (hn:n≤1000000000):(∀ k,(lat x.above k).length≤1000000000∧(lat x.under k).length≤1000000000)∧(∀ k,(lat x.frm k).length≤1000000000∧(lat x.into k).length≤1000000000∧(lat x.ranges k).length≤1000000000∧(lat x.firms k).length≤1000000000):=by
 obtain⟨h1,h2,h3,h4,h5,h6⟩:=h
 refine⟨fun k=>⟨?_,?_⟩,fun k=>⟨?_,?_,?_,?_⟩⟩
 ·have:=bp_ x.above k;omega
 ·have:=bp_ x.under k;omega
 ·have:=bp_ x.frm k;omega
 ·have:=bp_ x.into k;omega
 ·have:=bp_ x.ranges k;omega
 have:=bp_ x.firms k;omega
theorem tA_ (B:EngB) (E:Emt Tryz.prog 24) (A0:EngA) (pm:List (Ky×Pc)) (x:Ix) (f:Fc) (nw fm:List Fc) (Hs:Hp) (hS:E.St nw fm Hs) (Ha Hu Ho Hi Hr Hm:Hp) (hI:IxO 9 24 B x ⟨Ha,Hu,Ho,Hi,Hr,Hm⟩) (hpl:∀ k,(lat pm k).length≤1000000000) (hxl:∀ k,(lat x.above k).length≤1000000000∧(lat x.under k).length≤1000000000) (hyl:∀ k,(lat x.frm k).length≤1000000000∧(lat x.into k).length≤1000000000∧(lat x.ranges k).length≤1000000000∧(lat x.firms k).length≤1000000000) (hf:f.kind=3→-1099511627776≤f.lo∧f.lo≤f.hi∧f.hi≤1099511627776) (hq:f.kind=3→∀ y∈lat pm (Ky.mk 9 f.r []),-1099511627776≤y.lo∧y.lo≤y.hi∧y.hi≤1099511627776) (hk:f.kind=1):∀ (j:Nat) {fv:Value},(rlV B.g 1)[j]? = some fv→∃ n:Nat,fv=.func (.func n) #[zp_ B.g 0] #[]∧Tri Tryz.prog n #[zp_ B.g 0,f.val] ((Ha++(Hu++(Ho++(Hi++(Hr++Hm)))))++Hs) [gF B E,pF B pm A0,E.ef] (fun _:{H':Hp // E.St (rl E.stp E.kof pm x f j (nw,fm)).1 (rl E.stp E.kof pm x f j (nw,fm)).2 H'}=>.tuple #[]) (fun y=>(Ha++(Hu++(Ho++(Hi++(Hr++Hm)))))++y.1) (fun _=>[])
  | 0,_,h=>⟨89,(Option.some.inj h).symm,rl10_c B E A0 pm x f nw fm Hs hS Ha Hu Ho Hi Hr Hm hI hpl hxl hyl hf hq hk⟩
  | 1,_,h=>⟨90,(Option.some.inj h).symm,rl11_c B E A0 pm x f nw fm Hs hS Ha Hu Ho Hi Hr Hm hI hpl hxl hyl hf hq hk⟩
  | 2,_,h=>⟨91,(Option.some.inj h).symm,rl12_c B E A0 pm x f nw fm Hs hS Ha Hu Ho Hi Hr Hm hI hpl hxl hyl hf hq hk⟩
  | 3,_,h=>⟨92,(Option.some.inj h).symm,rl13_c B E A0 pm x f nw fm Hs hS Ha Hu Ho Hi Hr Hm hI hpl hxl hyl hf hq hk⟩
  | 4,_,h=>⟨93,(Option.some.inj h).symm,rl14_c B E A0 pm x f nw fm Hs hS Ha Hu Ho Hi Hr Hm hI hpl hxl hyl hf hq hk⟩
  | 5,_,h=>⟨94,(Option.some.inj h).symm,rl15_c B E A0 pm x f nw fm Hs hS Ha Hu Ho Hi Hr Hm hI hpl hxl hyl hf hq hk⟩
  | j+6,_,h=>by simp[rlV]at h
theorem tz_ (B:EngB) (E:Emt Tryz.prog 24) (A0:EngA) (pm:List (Ky×Pc)) (x:Ix) (f:Fc) (nw fm:List Fc) (Hs:Hp) (hS:E.St nw fm Hs) (Ha Hu Ho Hi Hr Hm:Hp) (hI:IxO 9 24 B x ⟨Ha,Hu,Ho,Hi,Hr,Hm⟩) (hpl:∀ k,(lat pm k).length≤1000000000) (hxl:∀ k,(lat x.above k).length≤1000000000∧(lat x.under k).length≤1000000000) (hyl:∀ k,(lat x.frm k).length≤1000000000∧(lat x.into k).length≤1000000000∧(lat x.ranges k).length≤1000000000∧(lat x.firms k).length≤1000000000) (hf:f.kind=3→-1099511627776≤f.lo∧f.lo≤f.hi∧f.hi≤1099511627776) (hq:f.kind=3→∀ y∈lat pm (Ky.mk 9 f.r []),-1099511627776≤y.lo∧y.lo≤y.hi∧y.hi≤1099511627776) (hk:f.kind=2):∀ (j:Nat) {fv:Value},(rlV B.g 2)[j]? = some fv→∃ n:Nat,fv=.func (.func n) #[zp_ B.g 0] #[]∧Tri Tryz.prog n #[zp_ B.g 0,f.val] ((Ha++(Hu++(Ho++(Hi++(Hr++Hm)))))++Hs) [gF B E,pF B pm A0,E.ef] (fun _:{H':Hp // E.St (rl E.stp E.kof pm x f j (nw,fm)).1 (rl E.stp E.kof pm x f j (nw,fm)).2 H'}=>.tuple #[]) (fun y=>(Ha++(Hu++(Ho++(Hi++(Hr++Hm)))))++y.1) (fun _=>[])
  | 0,_,h=>⟨95,(Option.some.inj h).symm,rl20_c B E A0 pm x f nw fm Hs hS Ha Hu Ho Hi Hr Hm hI hpl hxl hyl hf hq hk⟩
  | 1,_,h=>⟨96,(Option.some.inj h).symm,rl21_c B E A0 pm x f nw fm Hs hS Ha Hu Ho Hi Hr Hm hI hpl hxl hyl hf hq hk⟩
  | 2,_,h=>⟨97,(Option.some.inj h).symm,rl22_c B E A0 pm x f nw fm Hs hS Ha Hu Ho Hi Hr Hm hI hpl hxl hyl hf hq hk⟩
  | 3,_,h=>⟨98,(Option.some.inj h).symm,rl23_c B E A0 pm x f nw fm Hs hS Ha Hu Ho Hi Hr Hm hI hpl hxl hyl hf hq hk⟩
  | j+4,_,h=>by simp[rlV]at h
theorem ty_ (B:EngB) (E:Emt Tryz.prog 24) (A0:EngA) (pm:List (Ky×Pc)) (x:Ix) (f:Fc) (nw fm:List Fc) (Hs:Hp) (hS:E.St nw fm Hs) (Ha Hu Ho Hi Hr Hm:Hp) (hI:IxO 9 24 B x ⟨Ha,Hu,Ho,Hi,Hr,Hm⟩) (hpl:∀ k,(lat pm k).length≤1000000000) (hxl:∀ k,(lat x.above k).length≤1000000000∧(lat x.under k).length≤1000000000) (hyl:∀ k,(lat x.frm k).length≤1000000000∧(lat x.into k).length≤1000000000∧(lat x.ranges k).length≤1000000000∧(lat x.firms k).length≤1000000000) (hf:f.kind=3→-1099511627776≤f.lo∧f.lo≤f.hi∧f.hi≤1099511627776) (hq:f.kind=3→∀ y∈lat pm (Ky.mk 9 f.r []),-1099511627776≤y.lo∧y.lo≤y.hi∧y.hi≤1099511627776) (hk:f.kind=3):∀ (j:Nat) {fv:Value},(rlV B.g 3)[j]? = some fv→∃ n:Nat,fv=.func (.func n) #[zp_ B.g 0] #[]∧Tri Tryz.prog n #[zp_ B.g 0,f.val] ((Ha++(Hu++(Ho++(Hi++(Hr++Hm)))))++Hs) [gF B E,pF B pm A0,E.ef] (fun _:{H':Hp // E.St (rl E.stp E.kof pm x f j (nw,fm)).1 (rl E.stp E.kof pm x f j (nw,fm)).2 H'}=>.tuple #[]) (fun y=>(Ha++(Hu++(Ho++(Hi++(Hr++Hm)))))++y.1) (fun _=>[])
  | 0,_,h=>⟨99,(Option.some.inj h).symm,rl30_c B E A0 pm x f nw fm Hs hS Ha Hu Ho Hi Hr Hm hI hpl hxl hyl hf hq hk⟩
  | 1,_,h=>⟨100,(Option.some.inj h).symm,rl31_c B E A0 pm x f nw fm Hs hS Ha Hu Ho Hi Hr Hm hI hpl hxl hyl hf hq hk⟩
  | j+2,_,h=>by simp[rlV]at h
def dO_ (p:List Pc) (bu:Int) (c:Cl) (e:Int):Prop :=
  if cl_ p≠0 then c=Cl.no∧e=cl_ p
  else if bu<0∨1073741824<bu then c=Cl.no∧e=1
  else (e=0∧c.ok∧c.atoms=atS p∧dU_ p (atS p) (min bu 65536).toNat (some c.facts))∨(c=Cl.no∧e=(if bu<65536 then 3 else 2)∧dU_ p (atS p) (min bu 65536).toNat none)
theorem oz_ {p:List Pc} {bu:Int} (h:cl_ p≠0):dO_ p bu Cl.no (cl_ p):=by unfold dO_;rw[if_pos h];exact⟨rfl,rfl⟩
theorem jk_ {p:List Pc} {bu:Int} (h:cl_ p=0) (hb:bu<0∨1073741824<bu):dO_ p bu Cl.no 1:=by unfold dO_;rw[if_neg (by simp[h]),if_pos hb];exact⟨rfl,rfl⟩
theorem uB_ {p:List Pc} {bu:Int} {m n:Nat} {c:Cl} {q fm:List Fc} {x:Ix} (hc:cl_ p=0) (h1:¬ bu<0) (h2:¬ 1073741824<bu) (hm:min bu 65536=(m:Int)) (hk:c.ok) (ha:c.atoms=atS p) (hL:LoopA (uniq [] p) (atS p) m n q fm x) (hn:q.length≤n) (hl:q.length≤m) (hf:c.facts=it_ q):dO_ p bu c 0:=by
  unfold dO_
  rw[if_neg (by simp[hc]),if_neg (by omega)]
  have e:n=q.length:=Nat.le_antisymm hL.le hn
  subst e
  refine .inl ⟨rfl,hk,ha,?_⟩
  rw[hm,hf]
  exact⟨rr_ hL.nd,fun y=>by rw[rs_,← oW_ hL hl,no_],by rw[gD_];simpa using hl⟩
theorem eM_ {p:List Pc} {bu:Int} {m:Nat} {e:Int} {M:List Fc} (hc:cl_ p=0) (h1:¬ bu<0) (h2:¬ 1073741824<bu) (hm:min bu 65536=(m:Int)) (he:e=if bu<65536 then 3 else 2) (nd:M.Nodup) (hd:∀ y∈M,Der (uniq [] p) (atS p) y) (hl:m<M.length):dO_ p bu Cl.no e:=by
  unfold dO_
  rw[if_neg (by simp[hc]),if_neg (by omega)]
  exact .inr ⟨rfl,he,M,nd,fun y hy=>no_.1 (hd y hy),by rw[hm];simpa using hl⟩
end Go.Proofs.YtkeanlfhghlgiaaGreatDoor
namespace Go.Proofs.YtkeanlfhghlgiaaGreatDoor
open Go Go.Sx Go.Proofs
attribute [local irreducible] Code.wp wpList wpAnyH
open Go.Vs
set_option maxHeartbeats 4000000 in
theorem all_c (p:List Pc) (pad:Option Addr) (pcap:Nat) (bu:Int) (hsm:∀ x∈p,x.sm) (hp:p.length≤100000000):Tri Tryz.prog 15 #[.slice pad (List.length p) pcap,.int .i64 bu] [] [af_ pad (List.flatMap Pc.cells p),jV_] (fun y:{y:Cl×Int // dO_ p bu y.1 y.2}=>.tuple #[y.1.1.val,.int .i64 y.1.2]) (fun _=>[]) (fun y=>y.1.1.row):=by
 refine x_ Tryz.func15 rfl rfl Tryz.ntmps15 rfl fun v0=>?_
 refine Zz 2 ?_
 refine J_ gh_ rfl fun b1=>Zz 3 ?_
 refine qc_ (Zz 4 ?_)
 refine o_ (uq_ p pad pcap (by omega) hsm) rfl j_ zf rfl fun _=>Zi 6 (fun hr1=>?_) fun hr1=>?_
 ·have hchk:=hr1
  refine Zi 9 (fun hr2=>?_) fun hr2=>?_
  ·have hb0:=hr2
   refine Zi 4 (fun hr3=>?_) fun hr3=>?_
   ·have hb1:=hr3
    refine Zz 7 ?_
    obtain⟨m,hm0'⟩:∃ m:Nat,min bu 65536=(m:Int):=⟨(min bu 65536).toNat,by omega⟩
    have hm:m≤65536:=by omega
    have hvk:=rh_ (il_ hchk)
    have hpl:∀ k,(lat (aS_ (uniq [] p)) k).length≤1000000000:=fun k=>by have h1:=bp_ (aS_ (uniq [] p)) k;have h2:=kR_ (uniq [] p);have h3:=iL_ p [];simp only[List.length_nil]at h3;omega
    refine Zz 2 ?_
    refine o_ (nP_ p pad pcap (by omega)) rfl j_ zf rfl fun⟨⟨g,pb,kb,ab,ub,ob,ib,rb,sb,fb,lv,hm0,hl0⟩,hy⟩=>?_
    dsimp only
    dsimp only[NewE.own,NewE.ok]at hy ⊢
    obtain⟨hym,hyl⟩:=hy
    simp only[List.cons_append,List.append_assoc]
    refine bj_ hyl (c_ (c_ (c_ (c_ (c_ (c_ (c_ (c_ (c_ (e_ n_)))))))))) fun lad lcap hlad hclad hmlad hzlad=>?_
    subst hlad
    refine J_ Tryz.zeroValue71 rfl fun b2=>y_ (t_ d_ (t_ d_ (t_ d_ (t_ d_ (t_ d_ (t_ d_ (t_ d_ (t_ d_ (t_ d_ (t_ d_ (av_ ac_))))))))))) (w_ 0 Tryz.sizeOf71 rfl rfl rfl rfl rfl rfl (Zz 5 ?_))
    refine i_ (aR_ (dx_ rfl rfl) (congrArg (Value.int .i64) hm0')) rfl (J_ K_ rfl fun b3=>w_ 0 A_ rfl rfl rfl rfl rfl rfl (Zz 4 ?_))
    refine J_ nj_ rfl fun b4=>Zz 5 ?_
    refine i_ (cX_ rfl rfl) rfl (Zz 2 ?_)
    refine w_ 3 fz_ rfl rfl rfl rfl rfl rfl (Zz 3 ?_)
    refine ic_ (eO_ b2 (.cells #[zp_ g 0] 71 (0,0))) (av_ (c_ (c_ d_))) (fun _ h1 h2 _=>⟨h1,h2⟩) ?_
    refine ic_ (eO_ b3 (.cells #[.int .i64 (m:Int)] 3 (0,0))) (av_ (c_ d_)) (fun _ h1 h2 _=>⟨h1,h2⟩) ?_
    refine ic_ (eO_ g (.cells #[.map (some pb),.slice lad (List.length (aq_ (uniq [] p))) lcap,.map (some kb),.func (.func 41) #[] #[zp_ b2 0,zp_ b3 0,zp_ b4 0],.map (some ab),.map (some ub),.map (some ob),.map (some ib),.map (some rb),.map (some sb),.map (some fb)] 80 (0,0))) (av_ (c_ d_)) (fun _ h1 h2 _=>⟨h1,h2⟩) ?_
    refine sf_ hu_ hym (c_ (c_ (c_ (c_ (c_ (c_ (c_ (c_ (c_ B_))))))))) fun adr=>?_
    refine Zz 2 ?_
    refine o_ (atS_c p pad pcap (by omega)) rfl j_ zf rfl fun⟨⟨aad,acap⟩,hac,ham,haz⟩=>?_
    dsimp only
    refine Zz 7 ?_
    refine o_ (ut_ (EngB.mk g pb ab ub ob ib rb sb lad lcap (aq_ (uniq [] p))) (EA m hm (EngB.mk g pb ab ub ob ib rb sb lad lcap (aq_ (uniq [] p))) b2 b3 b4 kb fb) [] [] [(b4,.cells #[.slice none 0 0] 37 (0,0)),(kb,.map #[] 0),(fb,.map #[] 0)] ⟨.slice none 0 0,#[],0,#[],0,[],[],rfl,aO_.nil _ _,SetE.nil,SetE.nil,by simp⟩ (atS p) aad acap (by have:=kr_ p;omega) (by have:=jN_ (uniq [] p);have h3:=iL_ p [];simp only[List.length_nil]at h3;show (aq_ (uniq [] p)).length≤_;omega)) rfl (f_ d_ (f_ d_ (c_ (c_ (c_ (c_ (c_ (c_ d_)))))))) (fun v _ h=>by exact⟨h.2.2.1,h.2.2.2.2.2.1,h.1,⟨h.2.2.2.2.1,h.2.2.2.1,h.2.2.1⟩,trivial⟩) rfl fun⟨Hs1,hS1⟩=>?_
    dsimp only
    refine Zz 2 ?_
    refine y_ (t_ (e_ d_) (t_ (e_ d_) (t_ (e_ d_) (t_ (e_ d_) (t_ (e_ d_) (t_ (e_ d_) (av_ ac_))))))) (Zz 3 ?_)
    refine o_ (tx_ g) rfl j_ zt rfl fun⟨r1,r2,r3⟩=>?_
    dsimp only
    refine J_ Tryz.zeroValue83 rfl fun b5=>w_ 0 Tryz.sizeOf83 rfl rfl rfl rfl rfl rfl (Zz 3 ?_)
    refine qd_ (Zz 8 ?_)
    refine U_ (ι:={y:Nat×List Fc×List Fc×Ix×Hp×Hp×Hp×Hp×Hp×Hp×Hp // LoopA (uniq [] p) (atS p) m y.1 y.2.1 y.2.2.1 y.2.2.2.1∧((EA m hm (EngB.mk g pb ab ub ob ib rb sb lad lcap (aq_ (uniq [] p))) b2 b3 b4 kb fb)).St y.2.1 y.2.2.1 y.2.2.2.2.2.2.2.2.2.2∧IxO 9 24 (EngB.mk g pb ab ub ob ib rb sb lad lcap (aq_ (uniq [] p))) y.2.2.2.1 ⟨y.2.2.2.2.1,y.2.2.2.2.2.1,y.2.2.2.2.2.2.1,y.2.2.2.2.2.2.2.1,y.2.2.2.2.2.2.2.2.1,y.2.2.2.2.2.2.2.2.2.1⟩∧oX_ y.2.2.2.1 y.1}) (fun y=>[(0,.slice pad (List.length p) pcap),(1,.int .i64 bu),(4,zp_ b1 0),(7,zp_ b2 0),(8,zp_ b3 0),(9,zp_ b4 0),(10,.slice aad (List.length (atS p)) acap),(11,zp_ b5 0),(12,.int .i64 (y.1.1:Int))]) (fun y=>((b1,.cells #[.slice none 0 0,.slice none 0 0] 39 (0,0))::((b5,.cells #[.slice none 0 0,.slice (some ⟨r1,0,none⟩) 6 6,.slice (some ⟨r2,0,none⟩) 4 4,.slice (some ⟨r3,0,none⟩) 2 2] 83 (0,0))::(y.1.2.2.2.2.1++(y.1.2.2.2.2.2.1++(y.1.2.2.2.2.2.2.1++(y.1.2.2.2.2.2.2.2.1++(y.1.2.2.2.2.2.2.2.2.1++(y.1.2.2.2.2.2.2.2.2.2.1++y.1.2.2.2.2.2.2.2.2.2.2))))))))) (fun y=>[af_ (some ⟨r1,0,none⟩) (List.flatMap fvC (rlV g 1)),af_ (some ⟨r2,0,none⟩) (List.flatMap fvC (rlV g 2)),af_ (some ⟨r3,0,none⟩) (List.flatMap fvC (rlV g 3)),af_ aad (List.flatMap aL_ (atS p)),mlF Tryz.prog 145 Ky.val Pc.cells pb (aS_ (uniq [] p)) adr,eO_ g (.cells #[.map (some pb),.slice lad (List.length (aq_ (uniq [] p))) lcap,.map (some kb),.func (.func 41) #[] #[zp_ b2 0,zp_ b3 0,zp_ b4 0],.map (some ab),.map (some ub),.map (some ob),.map (some ib),.map (some rb),.map (some sb),.map (some fb)] 80 (0,0)),eO_ b3 (.cells #[.int .i64 (m:Int)] 3 (0,0)),eO_ b2 (.cells #[zp_ g 0] 71 (0,0)),af_ lad (List.flatMap aL_ (aq_ (uniq [] p))),af_ pad (List.flatMap Pc.cells p),jV_]) (fun y=>m+1 - y.1.1) ⟨((0:Nat),(emits (bw_ m) (eY_ (aq_ (uniq [] p)) (atS p)) []),([]:List Fc),Ix.nil,[(ab,.map #[] 0)],[(ub,.map #[] 0)],[(ob,.map #[] 0)],[(ib,.map #[] 0)],[(rb,.map #[] 0)],[(sb,.map #[] 0)],Hs1),nV_ hvk rfl,by exact hS1,⟨bf_.nil _ _,bf_.nil _ _,bf_.nil _ _,bf_.nil _ _,bf_.nil _ _,bf_.nil _ _⟩,sB_⟩ zl (f_ (c_ (c_ (c_ (c_ (c_ (c_ (c_ d_))))))) (f_ d_ (f_ d_ (f_ d_ (f_ d_ (f_ d_ (f_ d_ (f_ d_ aD_)))))))) zh ?_
    rintro ⟨⟨n,q,fm,x,Ha,Hu,Ho,Hi,Hr,Hm,Hs⟩,hL,hS,hI,hz⟩
    dsimp only at hL hS hI hz ⊢
    obtain⟨sv1,es1,ce1,ef1,cf1,qf1,Hq1,hHs1,hrQ1,hEk1,hEf1,hqf1⟩:=hS
    subst hHs1
    have hqm:=hL.len
    have hnq:=hL.le
    obtain⟨hxl,hyl⟩:=nY_ hz (by omega)
    refine cw_ (y_ (t_ d_ (t_ d_ (t_ (e_ (e_ (e_ (e_ (e_ (e_ d_)))))) (av_ (e_ (e_ (e_ (e_ (e_ (e_ d_)))))))))) (Zz 4 ?_))
    refine i_ (dj_ hrQ1 z_ rfl) rfl ?_
    refine Zi 0 (fun hr4=>?_) fun hr4=>?_
    ·refine Zz 8 ?_
     refine p_ 0 [0,1,2,3,4,5,6] zk zs (Zz 4 ?_)
     refine aa_ rfl (aR_ (fV_ (E:=(EA m hm (EngB.mk g pb ab ub ob ib rb sb lad lcap (aq_ (uniq [] p))) b2 b3 b4 kb fb)) (nw:=q) (Hs:=((b4,.cells #[sv1] 37 (0,0))::(kb,.map es1 ce1)::([(fb,.map ef1 cf1)]++Hq1))) ⟨sv1,es1,ce1,ef1,cf1,qf1,Hq1,rfl,hrQ1,hEk1,hEf1,hqf1⟩ aW_ rfl zp) (show _=Value.int .i64 (List.length q:Int) from rfl)) rfl (Zi 1 (fun hr5=>?_) fun hr5=>?_)
     ·refine Zz 9 ?_
      refine o_ (tv_ hrQ1 (by omega)) rfl zp zt rfl fun⟨Hq9,hq9⟩=>?_
      dsimp only
      refine Zz 2 ?_
      refine y_ (t_ (e_ d_) (t_ (e_ d_) (t_ (e_ d_) (av_ (e_ d_))))) (cw_ (bj_ hq9 (c_ (c_ (c_ (c_ n_)))) fun fad fcap hfad hcfad hmfad hzfad=>?_))
      subst hfad
      refine Zz 3 ?_
      refine i_ (L_ eQ_ rfl rfl) rfl (w_ 0 am_ rfl rfl rfl rfl rfl rfl (Zz 4 ?_))
      exact er_ ⟨((Cl.mk (atS p) aad acap (it_ q) fad fcap),0),uB_ hchk hb0 hb1 hm0' ⟨hac,ham,haz,hcfad,hmfad,hzfad⟩ rfl hL (by omega) (by omega) rfl⟩ (fun aa v h1 h2=>cU_ (us:=Cl.cells (Cl.mk (atS p) aad acap (it_ q) fad fcap)) 0 do_ bV_ am_ rfl rfl rfl rfl aa v h1 h2) j_ zf
     refine Zi 8 (fun hr6=>?_) fun hr6=>?_
     ·refine Zz 7 ?_
      refine i_ (L_ eQ_ rfl rfl) rfl (w_ 0 am_ rfl rfl rfl rfl rfl rfl (Zz 4 ?_))
      exact er_ ⟨((Cl.mk [] none 0 [] none 0),2),eM_ hchk hb0 hb1 hm0' (by rw[if_neg (by assumption)]) hL.nd hL.der (by omega)⟩ (fun aa v h1 h2=>cU_ (us:=Cl.cells (Cl.mk [] none 0 [] none 0)) 0 do_ bV_ am_ rfl rfl rfl rfl aa v h1 h2) j_ (fun v _ h=>by exact⟨.inl rfl,.inl rfl,trivial⟩)
     refine Zz 5 ?_
     refine i_ (L_ eQ_ rfl rfl) rfl (w_ 0 am_ rfl rfl rfl rfl rfl rfl (Zz 4 ?_))
     exact er_ ⟨((Cl.mk [] none 0 [] none 0),3),eM_ hchk hb0 hb1 hm0' (by rw[if_pos (by assumption)]) hL.nd hL.der (by omega)⟩ (fun aa v h1 h2=>cU_ (us:=Cl.cells (Cl.mk [] none 0 [] none 0)) 0 do_ bV_ am_ rfl rfl rfl rfl aa v h1 h2) j_ (fun v _ h=>by exact⟨.inl rfl,.inl rfl,trivial⟩)
    have hlf:n<List.length q:=by omega
    obtain⟨f,hf⟩:∃ e0,q[n]? = some e0:=⟨_,List.getElem?_eq_getElem hlf⟩
    have hmf:f∈q:=List.mem_of_getElem? hf
    have hfd:=hL.der f hmf
    have hform:=hfd.form hvk
    obtain⟨hxl1,hyl1⟩:=nY_ (iZ_ hz (decide (f∈fm)) f) (by omega)
    refine Zz 11 ?_
    refine i_ (aK_ hrQ1 z_ q_ rfl rfl (by omega) (by omega)) rfl (i_ (fb_ hrQ1 zp bc_ q_ rfl (Fc.cells_len _) (by decide) (H_ Fc.cells_len hf)) rfl (J_ F_ rfl fun b6=>w_ 0 q_ rfl rfl rfl rfl rfl rfl (Zz 6 ?_)))
    refine o_ (tY_ (EngB.mk g pb ab ub ob ib rb sb lad lcap (aq_ (uniq [] p))) (EA m hm (EngB.mk g pb ab ub ob ib rb sb lad lcap (aq_ (uniq [] p))) b2 b3 b4 kb fb) x f q fm ((b4,.cells #[sv1] 37 (0,0))::(kb,.map es1 ce1)::([(fb,.map ef1 cf1)]++Hq1)) ⟨sv1,es1,ce1,ef1,cf1,qf1,Hq1,rfl,hrQ1,hEk1,hEf1,hqf1⟩ Ha Hu Ho Hi Hr Hm hI hxl hyl) rfl (s_ (c_ (c_ (c_ (c_ (c_ n_))))) (s_ (c_ (c_ (c_ (c_ (c_ n_))))) (s_ (c_ (c_ (c_ (c_ (c_ n_))))) (s_ (c_ (c_ (c_ (c_ (c_ n_))))) (s_ (c_ (c_ (c_ (c_ (c_ n_))))) (s_ (c_ (c_ (c_ (c_ (c_ n_))))) (f_ (c_ (c_ (c_ d_))) (f_ (c_ (c_ (c_ d_))) (s_ (c_ (c_ (c_ n_))) (c_ (c_ B_))))))))))) zf rfl fun⟨⟨Ha1,Hu1,Ho1,Hi1,Hr1,Hm1⟩,hI1⟩=>?_
    dsimp only
    refine y_ tJ_ (Zz 2 ?_)
    refine y_ (t_ (e_ (e_ (e_ (e_ (e_ (e_ d_)))))) (t_ (e_ (e_ (e_ (e_ (e_ (e_ d_)))))) (t_ (e_ (e_ (e_ (e_ (e_ (e_ (e_ (e_ d_)))))))) (t_ (e_ (e_ (e_ (e_ (e_ (e_ (e_ (e_ d_)))))))) (av_ (e_ (e_ (e_ (e_ (e_ (e_ (e_ ac_)))))))))))) (Zz 4 ?_)
    rcases gO_ hform with hk|hk|hk
    ·refine i_ (aR_ (gY_ rD_ Tryz.sizeOf82 rfl rfl (by omega) (by omega)) (show _=zp_ b5 1 from by rw[hk];rfl)) rfl ?_
     refine Zz 6 ?_
     refine eW_ (H':=((b1,.cells #[.slice none 0 0,.slice none 0 0] 39 (0,0))::((b5,.cells #[.slice none 0 0,.slice (some ⟨r1,0,none⟩) 6 6,.slice (some ⟨r2,0,none⟩) 4 4,.slice (some ⟨r3,0,none⟩) 2 2] 83 (0,0))::((b6,.cells #[.int .i64 f.kind,str f.a,str f.b,str f.r,.int .i64 f.lo,.int .i64 f.hi] 24 (0,0))::(Ha1++(Hu1++(Ho1++(Hi1++(Hr1++(Hm1++((b4,.cells #[sv1] 37 (0,0))::(kb,.map es1 ce1)::([(fb,.map ef1 cf1)]++Hq1)))))))))))) (f_ (c_ (c_ (c_ d_))) (f_ (c_ (c_ (c_ d_))) (f_ (c_ (c_ d_)) (s_ (c_ (c_ n_)) (s_ (c_ (c_ n_)) (s_ (c_ (c_ n_)) (s_ (c_ (c_ n_)) (s_ (c_ (c_ n_)) (s_ (c_ (c_ n_)) (f_ d_ (f_ d_ (s_ n_ aD_)))))))))))) (fun v _ h=>h) ?_
     refine U_ (ι:={y:Nat×Hp // y.1≤6∧((EA m hm (EngB.mk g pb ab ub ob ib rb sb lad lcap (aq_ (uniq [] p))) b2 b3 b4 kb fb)).St (rls (bw_ m) idk (aS_ (uniq [] p)) (Ix.add x (decide (f∈fm)) f) f y.1 (q,fm)).1 (rls (bw_ m) idk (aS_ (uniq [] p)) (Ix.add x (decide (f∈fm)) f) f y.1 (q,fm)).2 y.2∧(y.1=0∨((rls (bw_ m) idk (aS_ (uniq [] p)) (Ix.add x (decide (f∈fm)) f) f y.1 (q,fm)).1).length≤m)}) (fun y=>[(0,.slice pad (List.length p) pcap),(1,.int .i64 bu),(4,zp_ b1 0),(7,zp_ b2 0),(8,zp_ b3 0),(9,zp_ b4 0),(10,.slice aad (List.length (atS p)) acap),(11,zp_ b5 0),(12,.int .i64 (n:Int)),(13,zp_ b6 0),(60,.slice (some ⟨r1,0,none⟩) 6 6),(61,.int .i64 6),(62,.int .i64 (y.1.1:Int))]) (fun y=>((b1,.cells #[.slice none 0 0,.slice none 0 0] 39 (0,0))::((b5,.cells #[.slice none 0 0,.slice (some ⟨r1,0,none⟩) 6 6,.slice (some ⟨r2,0,none⟩) 4 4,.slice (some ⟨r3,0,none⟩) 2 2] 83 (0,0))::((b6,.cells #[.int .i64 f.kind,str f.a,str f.b,str f.r,.int .i64 f.lo,.int .i64 f.hi] 24 (0,0))::(Ha1++(Hu1++(Ho1++(Hi1++(Hr1++(Hm1++y.1.2)))))))))) (fun y=>[af_ (some ⟨r1,0,none⟩) (List.flatMap fvC (rlV g 1)),af_ (some ⟨r2,0,none⟩) (List.flatMap fvC (rlV g 2)),af_ (some ⟨r3,0,none⟩) (List.flatMap fvC (rlV g 3)),af_ aad (List.flatMap aL_ (atS p)),mlF Tryz.prog 145 Ky.val Pc.cells pb (aS_ (uniq [] p)) adr,eO_ g (.cells #[.map (some pb),.slice lad (List.length (aq_ (uniq [] p))) lcap,.map (some kb),.func (.func 41) #[] #[zp_ b2 0,zp_ b3 0,zp_ b4 0],.map (some ab),.map (some ub),.map (some ob),.map (some ib),.map (some rb),.map (some sb),.map (some fb)] 80 (0,0)),eO_ b3 (.cells #[.int .i64 (m:Int)] 3 (0,0)),eO_ b2 (.cells #[zp_ g 0] 71 (0,0)),af_ lad (List.flatMap aL_ (aq_ (uniq [] p))),af_ pad (List.flatMap Pc.cells p),jV_]) (fun y=>6 - y.1.1) ⟨((0:Nat),((b4,.cells #[sv1] 37 (0,0))::(kb,.map es1 ce1)::([(fb,.map ef1 cf1)]++Hq1))),by omega,by exact⟨sv1,es1,ce1,ef1,cf1,qf1,Hq1,rfl,hrQ1,hEk1,hEf1,hqf1⟩,.inl rfl⟩ zl zp zh ?_
     rintro ⟨⟨j,Hs⟩,hj,hS2,hjm⟩
     dsimp only at hj hS2 hjm ⊢
     refine Zi 2 (fun hr7=>?_) fun hr7=>?_
     ·have ej:j=6:=by omega
      have hjl:((rls (bw_ m) idk (aS_ (uniq [] p)) (Ix.add x (decide (f∈fm)) f) f j (q,fm)).1).length≤m:=hjm.resolve_left (by omega)
      rw[ej]at hjl hS2
      refine Zz 12 ?_
      exact u_ ⟨(n+1,(rls (bw_ m) idk (aS_ (uniq [] p)) (Ix.add x (decide (f∈fm)) f) f 6 (q,fm)).1,(rls (bw_ m) idk (aS_ (uniq [] p)) (Ix.add x (decide (f∈fm)) f) f 6 (q,fm)).2,(Ix.add x (decide (f∈fm)) f),Ha1,Hu1,Ho1,Hi1,Hr1,Hm1,Hs),(iz_ hvk hL hf (by have e:nrl f=6:=(by unfold nrl;simp[hk]);rw[e]) (by omega)),(by exact hS2),hI1,(iZ_ hz _ f)⟩ (by dsimp only;omega) zl (f_ d_ (f_ d_ (s_ (c_ n_) (s_ (c_ n_) (s_ (c_ n_) (s_ (c_ n_) (s_ (c_ n_) (s_ (c_ n_) B_)))))))) zh
     have hlfv:j<List.length (rlV g 1):=by show j<6;omega
     obtain⟨fv,hfv⟩:∃ e0,(rlV g 1)[j]? = some e0:=⟨_,List.getElem?_eq_getElem hlfv⟩
     have hmfv:fv∈(rlV g 1):=List.mem_of_getElem? hfv
     refine Zz 10 ?_
     refine i_ (ag_ bu_ fz_ rfl rfl (fun v _ h=>Q_ (n:=1) ih_ (by decide) (by exact h.1) hfv) (by omega) (by omega)) rfl (i_ (aM_ (ad:=(some ⟨r1,0,none⟩)) Tryz.isAgg75 rfl zf (H_ ih_ hfv 0 _ rfl)) rfl (Zz 7 ?_))
     obtain⟨nr,rfl,hT⟩:=tA_ (EngB.mk g pb ab ub ob ib rb sb lad lcap (aq_ (uniq [] p))) (EA m hm (EngB.mk g pb ab ub ob ib rb sb lad lcap (aq_ (uniq [] p))) b2 b3 b4 kb fb) (EngA.mk adr (fun _=>(none,0)) (fun _=>(none,0)) (fun _=>(none,0)) (fun _=>(none,0)) (fun _=>(none,0)) (fun _=>(none,0))) (aS_ (uniq [] p)) (Ix.add x (decide (f∈fm)) f) f (rls (bw_ m) idk (aS_ (uniq [] p)) (Ix.add x (decide (f∈fm)) f) f j (q,fm)).1 (rls (bw_ m) idk (aS_ (uniq [] p)) (Ix.add x (decide (f∈fm)) f) f j (q,fm)).2 Hs hS2 Ha1 Hu1 Ho1 Hi1 Hr1 Hm1 hI1 hpl hxl1 hyl1 (fun hk=>(gP_ hform hk).2.2) (fun _ y hy=>(hvk y (pm9.1 hy).1).num (.inr (pm9.1 hy).2.1)) hk j hfv
     refine az_ (first:=[zp_ g 0]) (vs:=[Fc.val f]) (cap:=[]) hT rfl rfl (oO_ (s_ (c_ (c_ (c_ n_))) (s_ (c_ (c_ (c_ n_))) (s_ (c_ (c_ (c_ n_))) (s_ (c_ (c_ (c_ n_))) (s_ (c_ (c_ (c_ n_))) (s_ (c_ (c_ (c_ n_))) (c_ (c_ B_))))))))) (fun v _ h=>by exact⟨h.2.2.2.2.2.1,h.2.2.2.2.1,⟨h.2.2.2.2.2.2.2.1,h.2.2.2.2.2.2.1,h.2.2.2.2.2.1⟩,trivial⟩) rfl fun⟨Hs3,hS3⟩=>y_ mI_ (Zz 2 ?_)
     refine y_ (t_ (e_ (e_ (e_ (e_ (e_ (e_ (e_ d_))))))) (t_ (e_ (e_ (e_ (e_ (e_ (e_ (e_ d_))))))) (av_ (e_ (e_ (e_ (e_ (e_ (e_ ac_))))))))) (Zz 2 ?_)
     refine p_ 0 [0,1,2,3,4,5,6] zk zs (Zz 4 ?_)
     refine aa_ rfl (aR_ (fV_ (E:=(EA m hm (EngB.mk g pb ab ub ob ib rb sb lad lcap (aq_ (uniq [] p))) b2 b3 b4 kb fb)) (nw:=(rls (bw_ m) idk (aS_ (uniq [] p)) (Ix.add x (decide (f∈fm)) f) f (j+1) (q,fm)).1) (Hs:=Hs3) hS3 aW_ rfl zp) (show _=Value.int .i64 (List.length (rls (bw_ m) idk (aS_ (uniq [] p)) (Ix.add x (decide (f∈fm)) f) f (j+1) (q,fm)).1:Int) from rfl)) rfl (Zi 1 (fun hr8=>?_) fun hr8=>?_)
     ·refine Zz 11 ?_
      exact u_ ⟨(j+1,Hs3),hlfv,by exact hS3,.inr (by dsimp only;omega)⟩ (by dsimp only;omega) zl zp zh
     refine Zz 9 ?_
     refine p_ 0 [0,1,2,3,4,5,6] zk zs (Zz 4 ?_)
     refine aa_ rfl (aR_ (fV_ (E:=(EA m hm (EngB.mk g pb ab ub ob ib rb sb lad lcap (aq_ (uniq [] p))) b2 b3 b4 kb fb)) (nw:=(rls (bw_ m) idk (aS_ (uniq [] p)) (Ix.add x (decide (f∈fm)) f) f (j+1) (q,fm)).1) (Hs:=Hs3) hS3 aW_ rfl zp) (show _=Value.int .i64 (List.length (rls (bw_ m) idk (aS_ (uniq [] p)) (Ix.add x (decide (f∈fm)) f) f (j+1) (q,fm)).1:Int) from rfl)) rfl (Zi 1 (fun hr9=>?_) fun hr9=>?_)
     ·omega
     refine Zi 8 (fun hr10=>?_) fun hr10=>?_
     ·refine Zz 7 ?_
      refine i_ (L_ eQ_ rfl rfl) rfl (w_ 0 am_ rfl rfl rfl rfl rfl rfl (Zz 4 ?_))
      exact er_ ⟨((Cl.mk [] none 0 [] none 0),2),eM_ hchk hb0 hb1 hm0' (by rw[if_neg (by assumption)]) (cG_ hvk hL hf (j+1) rfl).1 (cG_ hvk hL hf (j+1) rfl).2.2.1 (by omega)⟩ (fun aa v h1 h2=>cU_ (us:=Cl.cells (Cl.mk [] none 0 [] none 0)) 0 do_ bV_ am_ rfl rfl rfl rfl aa v h1 h2) j_ (fun v _ h=>by exact⟨.inl rfl,.inl rfl,trivial⟩)
     refine Zz 5 ?_
     refine i_ (L_ eQ_ rfl rfl) rfl (w_ 0 am_ rfl rfl rfl rfl rfl rfl (Zz 4 ?_))
     exact er_ ⟨((Cl.mk [] none 0 [] none 0),3),eM_ hchk hb0 hb1 hm0' (by rw[if_pos (by assumption)]) (cG_ hvk hL hf (j+1) rfl).1 (cG_ hvk hL hf (j+1) rfl).2.2.1 (by omega)⟩ (fun aa v h1 h2=>cU_ (us:=Cl.cells (Cl.mk [] none 0 [] none 0)) 0 do_ bV_ am_ rfl rfl rfl rfl aa v h1 h2) j_ (fun v _ h=>by exact⟨.inl rfl,.inl rfl,trivial⟩)
    ·refine i_ (aR_ (gY_ rD_ Tryz.sizeOf82 rfl rfl (by omega) (by omega)) (show _=zp_ b5 2 from by rw[hk];rfl)) rfl ?_
     refine Zz 6 ?_
     refine eW_ (H':=((b1,.cells #[.slice none 0 0,.slice none 0 0] 39 (0,0))::((b5,.cells #[.slice none 0 0,.slice (some ⟨r1,0,none⟩) 6 6,.slice (some ⟨r2,0,none⟩) 4 4,.slice (some ⟨r3,0,none⟩) 2 2] 83 (0,0))::((b6,.cells #[.int .i64 f.kind,str f.a,str f.b,str f.r,.int .i64 f.lo,.int .i64 f.hi] 24 (0,0))::(Ha1++(Hu1++(Ho1++(Hi1++(Hr1++(Hm1++((b4,.cells #[sv1] 37 (0,0))::(kb,.map es1 ce1)::([(fb,.map ef1 cf1)]++Hq1)))))))))))) (f_ (c_ (c_ (c_ d_))) (f_ (c_ (c_ (c_ d_))) (f_ (c_ (c_ d_)) (s_ (c_ (c_ n_)) (s_ (c_ (c_ n_)) (s_ (c_ (c_ n_)) (s_ (c_ (c_ n_)) (s_ (c_ (c_ n_)) (s_ (c_ (c_ n_)) (f_ d_ (f_ d_ (s_ n_ aD_)))))))))))) (fun v _ h=>h) ?_
     refine U_ (ι:={y:Nat×Hp // y.1≤4∧((EA m hm (EngB.mk g pb ab ub ob ib rb sb lad lcap (aq_ (uniq [] p))) b2 b3 b4 kb fb)).St (rls (bw_ m) idk (aS_ (uniq [] p)) (Ix.add x (decide (f∈fm)) f) f y.1 (q,fm)).1 (rls (bw_ m) idk (aS_ (uniq [] p)) (Ix.add x (decide (f∈fm)) f) f y.1 (q,fm)).2 y.2∧(y.1=0∨((rls (bw_ m) idk (aS_ (uniq [] p)) (Ix.add x (decide (f∈fm)) f) f y.1 (q,fm)).1).length≤m)}) (fun y=>[(0,.slice pad (List.length p) pcap),(1,.int .i64 bu),(4,zp_ b1 0),(7,zp_ b2 0),(8,zp_ b3 0),(9,zp_ b4 0),(10,.slice aad (List.length (atS p)) acap),(11,zp_ b5 0),(12,.int .i64 (n:Int)),(13,zp_ b6 0),(60,.slice (some ⟨r2,0,none⟩) 4 4),(61,.int .i64 4),(62,.int .i64 (y.1.1:Int))]) (fun y=>((b1,.cells #[.slice none 0 0,.slice none 0 0] 39 (0,0))::((b5,.cells #[.slice none 0 0,.slice (some ⟨r1,0,none⟩) 6 6,.slice (some ⟨r2,0,none⟩) 4 4,.slice (some ⟨r3,0,none⟩) 2 2] 83 (0,0))::((b6,.cells #[.int .i64 f.kind,str f.a,str f.b,str f.r,.int .i64 f.lo,.int .i64 f.hi] 24 (0,0))::(Ha1++(Hu1++(Ho1++(Hi1++(Hr1++(Hm1++y.1.2)))))))))) (fun y=>[af_ (some ⟨r1,0,none⟩) (List.flatMap fvC (rlV g 1)),af_ (some ⟨r2,0,none⟩) (List.flatMap fvC (rlV g 2)),af_ (some ⟨r3,0,none⟩) (List.flatMap fvC (rlV g 3)),af_ aad (List.flatMap aL_ (atS p)),mlF Tryz.prog 145 Ky.val Pc.cells pb (aS_ (uniq [] p)) adr,eO_ g (.cells #[.map (some pb),.slice lad (List.length (aq_ (uniq [] p))) lcap,.map (some kb),.func (.func 41) #[] #[zp_ b2 0,zp_ b3 0,zp_ b4 0],.map (some ab),.map (some ub),.map (some ob),.map (some ib),.map (some rb),.map (some sb),.map (some fb)] 80 (0,0)),eO_ b3 (.cells #[.int .i64 (m:Int)] 3 (0,0)),eO_ b2 (.cells #[zp_ g 0] 71 (0,0)),af_ lad (List.flatMap aL_ (aq_ (uniq [] p))),af_ pad (List.flatMap Pc.cells p),jV_]) (fun y=>4 - y.1.1) ⟨((0:Nat),((b4,.cells #[sv1] 37 (0,0))::(kb,.map es1 ce1)::([(fb,.map ef1 cf1)]++Hq1))),by omega,by exact⟨sv1,es1,ce1,ef1,cf1,qf1,Hq1,rfl,hrQ1,hEk1,hEf1,hqf1⟩,.inl rfl⟩ zl zp zh ?_
     rintro ⟨⟨j,Hs⟩,hj,hS2,hjm⟩
     dsimp only at hj hS2 hjm ⊢
     refine Zi 2 (fun hr11=>?_) fun hr11=>?_
     ·have ej:j=4:=by omega
      have hjl:((rls (bw_ m) idk (aS_ (uniq [] p)) (Ix.add x (decide (f∈fm)) f) f j (q,fm)).1).length≤m:=hjm.resolve_left (by omega)
      rw[ej]at hjl hS2
      refine Zz 12 ?_
      exact u_ ⟨(n+1,(rls (bw_ m) idk (aS_ (uniq [] p)) (Ix.add x (decide (f∈fm)) f) f 4 (q,fm)).1,(rls (bw_ m) idk (aS_ (uniq [] p)) (Ix.add x (decide (f∈fm)) f) f 4 (q,fm)).2,(Ix.add x (decide (f∈fm)) f),Ha1,Hu1,Ho1,Hi1,Hr1,Hm1,Hs),(iz_ hvk hL hf (by have e:nrl f=4:=(by unfold nrl;simp[hk]);rw[e]) (by omega)),(by exact hS2),hI1,(iZ_ hz _ f)⟩ (by dsimp only;omega) zl (f_ d_ (f_ d_ (s_ (c_ n_) (s_ (c_ n_) (s_ (c_ n_) (s_ (c_ n_) (s_ (c_ n_) (s_ (c_ n_) B_)))))))) zh
     have hlfv:j<List.length (rlV g 2):=by show j<4;omega
     obtain⟨fv,hfv⟩:∃ e0,(rlV g 2)[j]? = some e0:=⟨_,List.getElem?_eq_getElem hlfv⟩
     have hmfv:fv∈(rlV g 2):=List.mem_of_getElem? hfv
     refine Zz 10 ?_
     refine i_ (ag_ bu_ fz_ rfl rfl (fun v _ h=>Q_ (n:=1) ih_ (by decide) (by exact h.2.1) hfv) (by omega) (by omega)) rfl (i_ (aM_ (ad:=(some ⟨r2,0,none⟩)) Tryz.isAgg75 rfl zf (H_ ih_ hfv 0 _ rfl)) rfl (Zz 7 ?_))
     obtain⟨nr,rfl,hT⟩:=tz_ (EngB.mk g pb ab ub ob ib rb sb lad lcap (aq_ (uniq [] p))) (EA m hm (EngB.mk g pb ab ub ob ib rb sb lad lcap (aq_ (uniq [] p))) b2 b3 b4 kb fb) (EngA.mk adr (fun _=>(none,0)) (fun _=>(none,0)) (fun _=>(none,0)) (fun _=>(none,0)) (fun _=>(none,0)) (fun _=>(none,0))) (aS_ (uniq [] p)) (Ix.add x (decide (f∈fm)) f) f (rls (bw_ m) idk (aS_ (uniq [] p)) (Ix.add x (decide (f∈fm)) f) f j (q,fm)).1 (rls (bw_ m) idk (aS_ (uniq [] p)) (Ix.add x (decide (f∈fm)) f) f j (q,fm)).2 Hs hS2 Ha1 Hu1 Ho1 Hi1 Hr1 Hm1 hI1 hpl hxl1 hyl1 (fun hk=>(gP_ hform hk).2.2) (fun _ y hy=>(hvk y (pm9.1 hy).1).num (.inr (pm9.1 hy).2.1)) hk j hfv
     refine az_ (first:=[zp_ g 0]) (vs:=[Fc.val f]) (cap:=[]) hT rfl rfl (oO_ (s_ (c_ (c_ (c_ n_))) (s_ (c_ (c_ (c_ n_))) (s_ (c_ (c_ (c_ n_))) (s_ (c_ (c_ (c_ n_))) (s_ (c_ (c_ (c_ n_))) (s_ (c_ (c_ (c_ n_))) (c_ (c_ B_))))))))) (fun v _ h=>by exact⟨h.2.2.2.2.2.1,h.2.2.2.2.1,⟨h.2.2.2.2.2.2.2.1,h.2.2.2.2.2.2.1,h.2.2.2.2.2.1⟩,trivial⟩) rfl fun⟨Hs3,hS3⟩=>y_ mI_ (Zz 2 ?_)
     refine y_ (t_ (e_ (e_ (e_ (e_ (e_ (e_ (e_ d_))))))) (t_ (e_ (e_ (e_ (e_ (e_ (e_ (e_ d_))))))) (av_ (e_ (e_ (e_ (e_ (e_ (e_ ac_))))))))) (Zz 2 ?_)
     refine p_ 0 [0,1,2,3,4,5,6] zk zs (Zz 4 ?_)
     refine aa_ rfl (aR_ (fV_ (E:=(EA m hm (EngB.mk g pb ab ub ob ib rb sb lad lcap (aq_ (uniq [] p))) b2 b3 b4 kb fb)) (nw:=(rls (bw_ m) idk (aS_ (uniq [] p)) (Ix.add x (decide (f∈fm)) f) f (j+1) (q,fm)).1) (Hs:=Hs3) hS3 aW_ rfl zp) (show _=Value.int .i64 (List.length (rls (bw_ m) idk (aS_ (uniq [] p)) (Ix.add x (decide (f∈fm)) f) f (j+1) (q,fm)).1:Int) from rfl)) rfl (Zi 1 (fun hr12=>?_) fun hr12=>?_)
     ·refine Zz 11 ?_
      exact u_ ⟨(j+1,Hs3),hlfv,by exact hS3,.inr (by dsimp only;omega)⟩ (by dsimp only;omega) zl zp zh
     refine Zz 9 ?_
     refine p_ 0 [0,1,2,3,4,5,6] zk zs (Zz 4 ?_)
     refine aa_ rfl (aR_ (fV_ (E:=(EA m hm (EngB.mk g pb ab ub ob ib rb sb lad lcap (aq_ (uniq [] p))) b2 b3 b4 kb fb)) (nw:=(rls (bw_ m) idk (aS_ (uniq [] p)) (Ix.add x (decide (f∈fm)) f) f (j+1) (q,fm)).1) (Hs:=Hs3) hS3 aW_ rfl zp) (show _=Value.int .i64 (List.length (rls (bw_ m) idk (aS_ (uniq [] p)) (Ix.add x (decide (f∈fm)) f) f (j+1) (q,fm)).1:Int) from rfl)) rfl (Zi 1 (fun hr13=>?_) fun hr13=>?_)
     ·omega
     refine Zi 8 (fun hr14=>?_) fun hr14=>?_
     ·refine Zz 7 ?_
      refine i_ (L_ eQ_ rfl rfl) rfl (w_ 0 am_ rfl rfl rfl rfl rfl rfl (Zz 4 ?_))
      exact er_ ⟨((Cl.mk [] none 0 [] none 0),2),eM_ hchk hb0 hb1 hm0' (by rw[if_neg (by assumption)]) (cG_ hvk hL hf (j+1) rfl).1 (cG_ hvk hL hf (j+1) rfl).2.2.1 (by omega)⟩ (fun aa v h1 h2=>cU_ (us:=Cl.cells (Cl.mk [] none 0 [] none 0)) 0 do_ bV_ am_ rfl rfl rfl rfl aa v h1 h2) j_ (fun v _ h=>by exact⟨.inl rfl,.inl rfl,trivial⟩)
     refine Zz 5 ?_
     refine i_ (L_ eQ_ rfl rfl) rfl (w_ 0 am_ rfl rfl rfl rfl rfl rfl (Zz 4 ?_))
     exact er_ ⟨((Cl.mk [] none 0 [] none 0),3),eM_ hchk hb0 hb1 hm0' (by rw[if_pos (by assumption)]) (cG_ hvk hL hf (j+1) rfl).1 (cG_ hvk hL hf (j+1) rfl).2.2.1 (by omega)⟩ (fun aa v h1 h2=>cU_ (us:=Cl.cells (Cl.mk [] none 0 [] none 0)) 0 do_ bV_ am_ rfl rfl rfl rfl aa v h1 h2) j_ (fun v _ h=>by exact⟨.inl rfl,.inl rfl,trivial⟩)
    refine i_ (aR_ (gY_ rD_ Tryz.sizeOf82 rfl rfl (by omega) (by omega)) (show _=zp_ b5 3 from by rw[hk];rfl)) rfl ?_
    refine Zz 6 ?_
    refine eW_ (H':=((b1,.cells #[.slice none 0 0,.slice none 0 0] 39 (0,0))::((b5,.cells #[.slice none 0 0,.slice (some ⟨r1,0,none⟩) 6 6,.slice (some ⟨r2,0,none⟩) 4 4,.slice (some ⟨r3,0,none⟩) 2 2] 83 (0,0))::((b6,.cells #[.int .i64 f.kind,str f.a,str f.b,str f.r,.int .i64 f.lo,.int .i64 f.hi] 24 (0,0))::(Ha1++(Hu1++(Ho1++(Hi1++(Hr1++(Hm1++((b4,.cells #[sv1] 37 (0,0))::(kb,.map es1 ce1)::([(fb,.map ef1 cf1)]++Hq1)))))))))))) (f_ (c_ (c_ (c_ d_))) (f_ (c_ (c_ (c_ d_))) (f_ (c_ (c_ d_)) (s_ (c_ (c_ n_)) (s_ (c_ (c_ n_)) (s_ (c_ (c_ n_)) (s_ (c_ (c_ n_)) (s_ (c_ (c_ n_)) (s_ (c_ (c_ n_)) (f_ d_ (f_ d_ (s_ n_ aD_)))))))))))) (fun v _ h=>h) ?_
    refine U_ (ι:={y:Nat×Hp // y.1≤2∧((EA m hm (EngB.mk g pb ab ub ob ib rb sb lad lcap (aq_ (uniq [] p))) b2 b3 b4 kb fb)).St (rls (bw_ m) idk (aS_ (uniq [] p)) (Ix.add x (decide (f∈fm)) f) f y.1 (q,fm)).1 (rls (bw_ m) idk (aS_ (uniq [] p)) (Ix.add x (decide (f∈fm)) f) f y.1 (q,fm)).2 y.2∧(y.1=0∨((rls (bw_ m) idk (aS_ (uniq [] p)) (Ix.add x (decide (f∈fm)) f) f y.1 (q,fm)).1).length≤m)}) (fun y=>[(0,.slice pad (List.length p) pcap),(1,.int .i64 bu),(4,zp_ b1 0),(7,zp_ b2 0),(8,zp_ b3 0),(9,zp_ b4 0),(10,.slice aad (List.length (atS p)) acap),(11,zp_ b5 0),(12,.int .i64 (n:Int)),(13,zp_ b6 0),(60,.slice (some ⟨r3,0,none⟩) 2 2),(61,.int .i64 2),(62,.int .i64 (y.1.1:Int))]) (fun y=>((b1,.cells #[.slice none 0 0,.slice none 0 0] 39 (0,0))::((b5,.cells #[.slice none 0 0,.slice (some ⟨r1,0,none⟩) 6 6,.slice (some ⟨r2,0,none⟩) 4 4,.slice (some ⟨r3,0,none⟩) 2 2] 83 (0,0))::((b6,.cells #[.int .i64 f.kind,str f.a,str f.b,str f.r,.int .i64 f.lo,.int .i64 f.hi] 24 (0,0))::(Ha1++(Hu1++(Ho1++(Hi1++(Hr1++(Hm1++y.1.2)))))))))) (fun y=>[af_ (some ⟨r1,0,none⟩) (List.flatMap fvC (rlV g 1)),af_ (some ⟨r2,0,none⟩) (List.flatMap fvC (rlV g 2)),af_ (some ⟨r3,0,none⟩) (List.flatMap fvC (rlV g 3)),af_ aad (List.flatMap aL_ (atS p)),mlF Tryz.prog 145 Ky.val Pc.cells pb (aS_ (uniq [] p)) adr,eO_ g (.cells #[.map (some pb),.slice lad (List.length (aq_ (uniq [] p))) lcap,.map (some kb),.func (.func 41) #[] #[zp_ b2 0,zp_ b3 0,zp_ b4 0],.map (some ab),.map (some ub),.map (some ob),.map (some ib),.map (some rb),.map (some sb),.map (some fb)] 80 (0,0)),eO_ b3 (.cells #[.int .i64 (m:Int)] 3 (0,0)),eO_ b2 (.cells #[zp_ g 0] 71 (0,0)),af_ lad (List.flatMap aL_ (aq_ (uniq [] p))),af_ pad (List.flatMap Pc.cells p),jV_]) (fun y=>2 - y.1.1) ⟨((0:Nat),((b4,.cells #[sv1] 37 (0,0))::(kb,.map es1 ce1)::([(fb,.map ef1 cf1)]++Hq1))),by omega,by exact⟨sv1,es1,ce1,ef1,cf1,qf1,Hq1,rfl,hrQ1,hEk1,hEf1,hqf1⟩,.inl rfl⟩ zl zp zh ?_
    rintro ⟨⟨j,Hs⟩,hj,hS2,hjm⟩
    dsimp only at hj hS2 hjm ⊢
    refine Zi 2 (fun hr15=>?_) fun hr15=>?_
    ·have ej:j=2:=by omega
     have hjl:((rls (bw_ m) idk (aS_ (uniq [] p)) (Ix.add x (decide (f∈fm)) f) f j (q,fm)).1).length≤m:=hjm.resolve_left (by omega)
     rw[ej]at hjl hS2
     refine Zz 12 ?_
     exact u_ ⟨(n+1,(rls (bw_ m) idk (aS_ (uniq [] p)) (Ix.add x (decide (f∈fm)) f) f 2 (q,fm)).1,(rls (bw_ m) idk (aS_ (uniq [] p)) (Ix.add x (decide (f∈fm)) f) f 2 (q,fm)).2,(Ix.add x (decide (f∈fm)) f),Ha1,Hu1,Ho1,Hi1,Hr1,Hm1,Hs),(iz_ hvk hL hf (by have e:nrl f=2:=(by unfold nrl;simp[hk]);rw[e]) (by omega)),(by exact hS2),hI1,(iZ_ hz _ f)⟩ (by dsimp only;omega) zl (f_ d_ (f_ d_ (s_ (c_ n_) (s_ (c_ n_) (s_ (c_ n_) (s_ (c_ n_) (s_ (c_ n_) (s_ (c_ n_) B_)))))))) zh
    have hlfv:j<List.length (rlV g 3):=by show j<2;omega
    obtain⟨fv,hfv⟩:∃ e0,(rlV g 3)[j]? = some e0:=⟨_,List.getElem?_eq_getElem hlfv⟩
    have hmfv:fv∈(rlV g 3):=List.mem_of_getElem? hfv
    refine Zz 10 ?_
    refine i_ (ag_ bu_ fz_ rfl rfl (fun v _ h=>Q_ (n:=1) ih_ (by decide) (by exact h.2.2.1) hfv) (by omega) (by omega)) rfl (i_ (aM_ (ad:=(some ⟨r3,0,none⟩)) Tryz.isAgg75 rfl zf (H_ ih_ hfv 0 _ rfl)) rfl (Zz 7 ?_))
    obtain⟨nr,rfl,hT⟩:=ty_ (EngB.mk g pb ab ub ob ib rb sb lad lcap (aq_ (uniq [] p))) (EA m hm (EngB.mk g pb ab ub ob ib rb sb lad lcap (aq_ (uniq [] p))) b2 b3 b4 kb fb) (EngA.mk adr (fun _=>(none,0)) (fun _=>(none,0)) (fun _=>(none,0)) (fun _=>(none,0)) (fun _=>(none,0)) (fun _=>(none,0))) (aS_ (uniq [] p)) (Ix.add x (decide (f∈fm)) f) f (rls (bw_ m) idk (aS_ (uniq [] p)) (Ix.add x (decide (f∈fm)) f) f j (q,fm)).1 (rls (bw_ m) idk (aS_ (uniq [] p)) (Ix.add x (decide (f∈fm)) f) f j (q,fm)).2 Hs hS2 Ha1 Hu1 Ho1 Hi1 Hr1 Hm1 hI1 hpl hxl1 hyl1 (fun hk=>(gP_ hform hk).2.2) (fun _ y hy=>(hvk y (pm9.1 hy).1).num (.inr (pm9.1 hy).2.1)) hk j hfv
    refine az_ (first:=[zp_ g 0]) (vs:=[Fc.val f]) (cap:=[]) hT rfl rfl (oO_ (s_ (c_ (c_ (c_ n_))) (s_ (c_ (c_ (c_ n_))) (s_ (c_ (c_ (c_ n_))) (s_ (c_ (c_ (c_ n_))) (s_ (c_ (c_ (c_ n_))) (s_ (c_ (c_ (c_ n_))) (c_ (c_ B_))))))))) (fun v _ h=>by exact⟨h.2.2.2.2.2.1,h.2.2.2.2.1,⟨h.2.2.2.2.2.2.2.1,h.2.2.2.2.2.2.1,h.2.2.2.2.2.1⟩,trivial⟩) rfl fun⟨Hs3,hS3⟩=>y_ mI_ (Zz 2 ?_)
    refine y_ (t_ (e_ (e_ (e_ (e_ (e_ (e_ (e_ d_))))))) (t_ (e_ (e_ (e_ (e_ (e_ (e_ (e_ d_))))))) (av_ (e_ (e_ (e_ (e_ (e_ (e_ ac_))))))))) (Zz 2 ?_)
    refine p_ 0 [0,1,2,3,4,5,6] zk zs (Zz 4 ?_)
    refine aa_ rfl (aR_ (fV_ (E:=(EA m hm (EngB.mk g pb ab ub ob ib rb sb lad lcap (aq_ (uniq [] p))) b2 b3 b4 kb fb)) (nw:=(rls (bw_ m) idk (aS_ (uniq [] p)) (Ix.add x (decide (f∈fm)) f) f (j+1) (q,fm)).1) (Hs:=Hs3) hS3 aW_ rfl zp) (show _=Value.int .i64 (List.length (rls (bw_ m) idk (aS_ (uniq [] p)) (Ix.add x (decide (f∈fm)) f) f (j+1) (q,fm)).1:Int) from rfl)) rfl (Zi 1 (fun hr16=>?_) fun hr16=>?_)
    ·refine Zz 11 ?_
     exact u_ ⟨(j+1,Hs3),hlfv,by exact hS3,.inr (by dsimp only;omega)⟩ (by dsimp only;omega) zl zp zh
    refine Zz 9 ?_
    refine p_ 0 [0,1,2,3,4,5,6] zk zs (Zz 4 ?_)
    refine aa_ rfl (aR_ (fV_ (E:=(EA m hm (EngB.mk g pb ab ub ob ib rb sb lad lcap (aq_ (uniq [] p))) b2 b3 b4 kb fb)) (nw:=(rls (bw_ m) idk (aS_ (uniq [] p)) (Ix.add x (decide (f∈fm)) f) f (j+1) (q,fm)).1) (Hs:=Hs3) hS3 aW_ rfl zp) (show _=Value.int .i64 (List.length (rls (bw_ m) idk (aS_ (uniq [] p)) (Ix.add x (decide (f∈fm)) f) f (j+1) (q,fm)).1:Int) from rfl)) rfl (Zi 1 (fun hr17=>?_) fun hr17=>?_)
    ·omega
    refine Zi 8 (fun hr18=>?_) fun hr18=>?_
    ·refine Zz 7 ?_
     refine i_ (L_ eQ_ rfl rfl) rfl (w_ 0 am_ rfl rfl rfl rfl rfl rfl (Zz 4 ?_))
     exact er_ ⟨((Cl.mk [] none 0 [] none 0),2),eM_ hchk hb0 hb1 hm0' (by rw[if_neg (by assumption)]) (cG_ hvk hL hf (j+1) rfl).1 (cG_ hvk hL hf (j+1) rfl).2.2.1 (by omega)⟩ (fun aa v h1 h2=>cU_ (us:=Cl.cells (Cl.mk [] none 0 [] none 0)) 0 do_ bV_ am_ rfl rfl rfl rfl aa v h1 h2) j_ (fun v _ h=>by exact⟨.inl rfl,.inl rfl,trivial⟩)
    refine Zz 5 ?_
    refine i_ (L_ eQ_ rfl rfl) rfl (w_ 0 am_ rfl rfl rfl rfl rfl rfl (Zz 4 ?_))
    exact er_ ⟨((Cl.mk [] none 0 [] none 0),3),eM_ hchk hb0 hb1 hm0' (by rw[if_pos (by assumption)]) (cG_ hvk hL hf (j+1) rfl).1 (cG_ hvk hL hf (j+1) rfl).2.2.1 (by omega)⟩ (fun aa v h1 h2=>cU_ (us:=Cl.cells (Cl.mk [] none 0 [] none 0)) 0 do_ bV_ am_ rfl rfl rfl rfl aa v h1 h2) j_ (fun v _ h=>by exact⟨.inl rfl,.inl rfl,trivial⟩)
   refine Zz 6 ?_
   refine i_ (L_ eQ_ rfl rfl) rfl (w_ 0 am_ rfl rfl rfl rfl rfl rfl (Zz 4 ?_))
   exact er_ ⟨((Cl.mk [] none 0 [] none 0),1),jk_ (by assumption) (by omega)⟩ (fun aa v h1 h2=>cU_ (us:=Cl.cells (Cl.mk [] none 0 [] none 0)) 0 do_ bV_ am_ rfl rfl rfl rfl aa v h1 h2) j_ (fun v _ h=>by exact⟨.inl rfl,.inl rfl,trivial⟩)
  refine Zz 9 ?_
  refine i_ (L_ eQ_ rfl rfl) rfl (w_ 0 am_ rfl rfl rfl rfl rfl rfl (Zz 4 ?_))
  exact er_ ⟨((Cl.mk [] none 0 [] none 0),1),jk_ (by assumption) (by omega)⟩ (fun aa v h1 h2=>cU_ (us:=Cl.cells (Cl.mk [] none 0 [] none 0)) 0 do_ bV_ am_ rfl rfl rfl rfl aa v h1 h2) j_ (fun v _ h=>by exact⟨.inl rfl,.inl rfl,trivial⟩)
 refine Zz 5 ?_
 refine i_ (L_ eQ_ rfl rfl) rfl (Zz 1 ?_)
 refine w_ 0 am_ rfl rfl rfl rfl rfl rfl (Zz 4 ?_)
 exact er_ ⟨((Cl.mk [] none 0 [] none 0),(cl_ p)),oz_ (by assumption)⟩ (fun aa v h1 h2=>cU_ (us:=Cl.cells (Cl.mk [] none 0 [] none 0)) 0 do_ bV_ am_ rfl rfl rfl rfl aa v h1 h2) j_ (fun v _ h=>by exact⟨.inl rfl,.inl rfl,trivial⟩)
end Go.Proofs.YtkeanlfhghlgiaaGreatDoor
namespace Go.Proofs.YtkeanlfhghlgiaaGreatDoor
open Go Go.Sx Go.Proofs
attribute [local irreducible] Code.wp wpList wpAnyH
open Go.Vs
def sD_ (f:Fc):Bool:=decide (f=D_ f.a f.b)
def fG_ (A:List Str) (f:Fc):Bool :=
  decide (f.a∈A)&&(if f.kind=1 then decide (f.b∈A)&&sD_ f
    else if f.kind=2 then decide (f.b∈A)&&(decide (f.r≠[])&&decide (f=I_ f.a f.r f.b))
    else if f.kind=3 then decide (f.r≠[])&&(decide (f=R_ f.a f.r f.lo f.hi)&&(decide (-1099511627776≤f.lo)&&(decide (f.lo≤f.hi)&&decide (f.hi≤1099511627776))))
    else false)
abbrev tg_ (l:List Str):Prop:=l.Pairwise fun x y=>x<y
end Go.Proofs.YtkeanlfhghlgiaaGreatDoor
namespace Go.Proofs.YtkeanlfhghlgiaaGreatDoor
open Go Go.Sx Go.Proofs
attribute [local irreducible] Code.wp wpList wpAnyH
open Go.Vs
theorem tg_.nodup {l:List Str} (h:tg_ l):l.Nodup:=by
  unfold List.Nodup
  refine List.Pairwise.imp ?_ h
  intro a b hab e
  exact eF_ b (e▸hab)
def jZ_ (fs:List Fc) (f:Fc):Bool:=fs.any fun x=>(decide (x=f)||decide (x=D_ f.a [33]))||((decide (f=R_ f.a f.r f.lo f.hi)&&decide (x=R_ f.a f.r x.lo x.hi))&&(decide (f.lo≤x.lo)&&decide (x.hi≤f.hi)))
def hq_ (f x:Fc):Bool:=(decide (x=f)||decide (x=D_ f.a [33]))||((decide (f=R_ f.a f.r f.lo f.hi)&&decide (x=R_ f.a f.r x.lo x.hi))&&(decide (f.lo≤x.lo)&&decide (x.hi≤f.hi)))
theorem any_no {α:Type} {p:α→Bool} {l:List α} {j:Nat} {x:α} (h:∀ y∈l.take j,p y=false) (hx:l[j]? = some x) (hp:p x=false):∀ y∈l.take (j+1),p y=false:=fun y hy=>by
 rw[List.take_add_one,hx]at hy
 simp only[Option.toList_some,List.mem_append,List.mem_singleton]at hy
 rcases hy with hy|rfl
 ·exact h y hy
 exact hp
theorem nf_ {α:Type} {p:α→Bool} {l:List α} {j:Nat} (h:∀ y∈l.take j,p y=false) (hj:l.length≤j):false=l.any p:=by
  rw[List.take_of_length_le hj]at h
  symm;rw[List.any_eq_false];exact fun y hy=>by simp[h y hy]
theorem fy_ {α:Type} {p:α→Bool} {l:List α} {x:α} (hx:x∈l) (hp:p x=true):true=l.any p:=(List.any_eq_true.2 ⟨x,hx,hp⟩).symm
theorem der_c (c:Cl) (f:Fc) (hf:c.facts.length≤1000000000000):Tri Tryz.prog 18 #[Cl.val c,Fc.val f] [] [af_ c.fad (List.flatMap Fc.cells c.facts)] (fun _:Unit=>.bool (jZ_ c.facts f)) (fun _=>[]) (fun _=>[]):=by
 refine x_ Tryz.func18 rfl rfl Tryz.ntmps18 rfl fun v0=>?_
 refine Zz 2 ?_
 refine ay_ rfl rfl fun b1=>ay_ rfl rfl fun b2=>Zz 7 ?_
 refine o_ (fY_ f.a [33]) rfl j_ zt rfl fun _=>J_ F_ rfl fun b3=>w_ 0 q_ rfl rfl rfl rfl rfl rfl (Zz 4 ?_)
 refine p_ 3 [0,1,2,3,4,5,6,7,8] zk zs (Zz 10 ?_)
 refine m_ 9 rfl zk (o_ (kH_ f.a f.r f.lo f.hi) rfl j_ zt rfl fun _=>Zz 3 ?_)
 refine p_ 0 [10,11] zk zs (cP_ rfl (aF_ (p:=f) (q:=(R_ f.a f.r f.lo f.hi)) rfl rfl) rfl fun r1 hr1=>Zz 14 ?_)
 cases r1
 ·replace hr1:=zdf hr1
  refine U_ (ι:={y:Nat // y≤List.length c.facts∧∀ z∈List.take y c.facts,hq_ f z=false}) (fun y=>[(2,zp_ b1 0),(3,zp_ b2 0),(5,zp_ b3 0),(6,.bool false),(24,.slice c.fad (List.length c.facts) c.fcap),(25,.int .i64 (List.length c.facts:Int)),(26,.int .i64 (y.1:Int))]) (fun y=>((b3,.cells #[.int .i64 (Fc.kind (D_ f.a [33])),str (Fc.a (D_ f.a [33])),str (Fc.b (D_ f.a [33])),str (Fc.r (D_ f.a [33])),.int .i64 (Fc.lo (D_ f.a [33])),.int .i64 (Fc.hi (D_ f.a [33]))] 24 (0,0))::((b2,.cells #[.int .i64 f.kind,str f.a,str f.b,str f.r,.int .i64 f.lo,.int .i64 f.hi] 24 (0,0))::((b1,.cells #[.slice c.aad (List.length c.atoms) c.acap,.slice c.fad (List.length c.facts) c.fcap] 39 (0,0))::[])))) (fun y=>[af_ c.fad (List.flatMap Fc.cells c.facts)]) (fun y=>List.length c.facts - y.1) ⟨(0:Nat),by simp,by simp⟩ zl zp zh ?_
  rintro ⟨j,hj,hall⟩
  dsimp only at hj hall ⊢
  refine Zi 2 (fun hr2=>?_) fun hr2=>?_
  ·refine Zz 12 ?_
   exact S_ hC_ () (g_ rfl (nf_ hall (by omega))) j_ zt
  obtain⟨hlx2,x2,hx2,hmx2⟩:=zge (show j<List.length c.facts by omega)
  refine Zz 12 ?_
  refine J_ F_ rfl fun b4=>w_ 0 q_ rfl rfl rfl rfl rfl rfl (Zz 7 ?_)
  refine O_ (aF_ (p:=x2) (q:=f) rfl rfl) rfl fun r3 hr3=>Zz 1 ?_
  cases r3
  ·replace hr3:=zdf hr3
   refine Zz 5 ?_
   refine O_ (aF_ (p:=x2) (q:=(D_ f.a [33])) rfl rfl) rfl fun r4 hr4=>Zz 3 ?_
   cases r4
   ·replace hr4:=zdf hr4
    refine Zz 5 ?_
    refine p_ 0 [0,1,2,3,4,5,6,7,8,9,10,11,12,13,14,15,16,17,18,19,20,21,22,23,24,25,26,27] zk zs (Zz 39 ?_)
    exact u_ ⟨j+1,hlx2,any_no hall hx2 (by have p1:=eq_false hr1;have p2:=eq_true hr2;have p3:=eq_false hr3;have p4:=eq_false hr4;simp only[hq_,p1,p2,p3,p4,if_true,if_false,decide_true,decide_false,Bool.and_true,Bool.and_false,Bool.true_and,Bool.false_and,Bool.or_true,Bool.or_false,Bool.true_or,Bool.false_or,Bool.not_true,Bool.not_false,ne_eq,not_true_eq_false,not_false_eq_true,true_and,and_true,false_and,and_false,true_or,or_true,false_or,or_false,ite_true,ite_false,Bool.false_eq_true])⟩ (by dsimp only;omega) zl (f_ (c_ d_) (f_ (c_ d_) (c_ d_))) zh
   replace hr4:=zdt hr4
   refine Zz 7 ?_
   exact S_ hC_ () (g_ rfl (fy_ hmx2 (by have p1:=eq_false hr1;have p2:=eq_true hr2;have p3:=eq_false hr3;have p4:=eq_true hr4;simp only[hq_,p1,p2,p3,p4,if_true,if_false,decide_true,decide_false,Bool.and_true,Bool.and_false,Bool.true_and,Bool.false_and,Bool.or_true,Bool.or_false,Bool.true_or,Bool.false_or,Bool.not_true,Bool.not_false,ne_eq,not_true_eq_false,not_false_eq_true,true_and,and_true,false_and,and_false,true_or,or_true,false_or,or_false,ite_true,ite_false,Bool.false_eq_true]))) j_ zt
  replace hr3:=zdt hr3
  refine Zz 13 ?_
  exact S_ hC_ () (g_ rfl (fy_ hmx2 (by have p1:=eq_false hr1;have p2:=eq_true hr2;have p3:=eq_true hr3;simp only[hq_,p1,p2,p3,if_true,if_false,decide_true,decide_false,Bool.and_true,Bool.and_false,Bool.true_and,Bool.false_and,Bool.or_true,Bool.or_false,Bool.true_or,Bool.false_or,Bool.not_true,Bool.not_false,ne_eq,not_true_eq_false,not_false_eq_true,true_and,and_true,false_and,and_false,true_or,or_true,false_or,or_false,ite_true,ite_false,Bool.false_eq_true]))) j_ zt
 replace hr1:=zdt hr1
 refine U_ (ι:={y:Nat // y≤List.length c.facts∧∀ z∈List.take y c.facts,hq_ f z=false}) (fun y=>[(2,zp_ b1 0),(3,zp_ b2 0),(5,zp_ b3 0),(6,.bool true),(24,.slice c.fad (List.length c.facts) c.fcap),(25,.int .i64 (List.length c.facts:Int)),(26,.int .i64 (y.1:Int))]) (fun y=>((b3,.cells #[.int .i64 (Fc.kind (D_ f.a [33])),str (Fc.a (D_ f.a [33])),str (Fc.b (D_ f.a [33])),str (Fc.r (D_ f.a [33])),.int .i64 (Fc.lo (D_ f.a [33])),.int .i64 (Fc.hi (D_ f.a [33]))] 24 (0,0))::((b2,.cells #[.int .i64 f.kind,str f.a,str f.b,str f.r,.int .i64 f.lo,.int .i64 f.hi] 24 (0,0))::((b1,.cells #[.slice c.aad (List.length c.atoms) c.acap,.slice c.fad (List.length c.facts) c.fcap] 39 (0,0))::[])))) (fun y=>[af_ c.fad (List.flatMap Fc.cells c.facts)]) (fun y=>List.length c.facts - y.1) ⟨(0:Nat),by simp,by simp⟩ zl zp zh ?_
 rintro ⟨j,hj,hall⟩
 dsimp only at hj hall ⊢
 refine Zi 2 (fun hr5=>?_) fun hr5=>?_
 ·refine Zz 12 ?_
  exact S_ hC_ () (g_ rfl (nf_ hall (by omega))) j_ zt
 obtain⟨hlx2,x2,hx2,hmx2⟩:=zge (show j<List.length c.facts by omega)
 refine Zz 12 ?_
 refine J_ F_ rfl fun b5=>w_ 0 q_ rfl rfl rfl rfl rfl rfl (Zz 7 ?_)
 refine O_ (aF_ (p:=x2) (q:=f) rfl rfl) rfl fun r6 hr6=>Zz 1 ?_
 cases r6
 ·replace hr6:=zdf hr6
  refine Zz 5 ?_
  refine O_ (aF_ (p:=x2) (q:=(D_ f.a [33])) rfl rfl) rfl fun r7 hr7=>Zz 3 ?_
  cases r7
  ·replace hr7:=zdf hr7
   refine Zz 5 ?_
   refine p_ 17 [0,1,2,3,4,5,6,7,8,9,10] zk zs (Zz 12 ?_)
   refine m_ 11 rfl zk (aw_ rfl rfl (o_ (kH_ f.a f.r x2.lo x2.hi) rfl j_ zt rfl fun _=>Zz 3 ?_))
   refine p_ 13 [12,13,14] zk zs (bz_ rfl rfl rfl (aF_ (p:=x2) (q:=(R_ f.a f.r x2.lo x2.hi)) rfl rfl) rfl fun r8 hr8=>Zz 3 ?_)
   cases r8
   ·replace hr8:=zdf hr8
    refine p_ 0 [15,16,17,18,19,20,21,22,23,24,25,26,27] zk zs (Zz 24 ?_)
    exact u_ ⟨j+1,hlx2,any_no hall hx2 (by have p1:=eq_true hr1;have p2:=eq_true hr5;have p3:=eq_false hr6;have p4:=eq_false hr7;have p5:=eq_false hr8;simp only[hq_,p1,p2,p3,p4,p5,if_true,if_false,decide_true,decide_false,Bool.and_true,Bool.and_false,Bool.true_and,Bool.false_and,Bool.or_true,Bool.or_false,Bool.true_or,Bool.false_or,Bool.not_true,Bool.not_false,ne_eq,not_true_eq_false,not_false_eq_true,true_and,and_true,false_and,and_false,true_or,or_true,false_or,or_false,ite_true,ite_false,Bool.false_eq_true])⟩ (by dsimp only;omega) zl (f_ (c_ d_) (f_ (c_ d_) (c_ d_))) zh
   replace hr8:=zdt hr8
   refine p_ 6 [15,16,17,18,19,20,21] zk zs (Zi 4 (fun hr9=>?_) fun hr9=>?_)
   ·refine Zz 3 ?_
    refine p_ 0 [22,23,24,25,26,27] zk zs (Zz 17 ?_)
    exact u_ ⟨j+1,hlx2,any_no hall hx2 (by have p1:=eq_true hr1;have p2:=eq_true hr5;have p3:=eq_false hr6;have p4:=eq_false hr7;have p5:=eq_true hr8;have p6:=eq_false hr9;simp only[hq_,p1,p2,p3,p4,p5,p6,if_true,if_false,decide_true,decide_false,Bool.and_true,Bool.and_false,Bool.true_and,Bool.false_and,Bool.or_true,Bool.or_false,Bool.true_or,Bool.false_or,Bool.not_true,Bool.not_false,ne_eq,not_true_eq_false,not_false_eq_true,true_and,and_true,false_and,and_false,true_or,or_true,false_or,or_false,ite_true,ite_false,Bool.false_eq_true])⟩ (by dsimp only;omega) zl (f_ (c_ d_) (f_ (c_ d_) (c_ d_))) zh
   refine Zz 3 ?_
   refine p_ 0 [22,23,24,25,26,27] zk zs (Zi 4 (fun hr10=>?_) fun hr10=>?_)
   ·refine Zz 12 ?_
    exact u_ ⟨j+1,hlx2,any_no hall hx2 (by have p1:=eq_true hr1;have p2:=eq_true hr5;have p3:=eq_false hr6;have p4:=eq_false hr7;have p5:=eq_true hr8;have p6:=eq_true hr9;have p7:=eq_false hr10;simp only[hq_,p1,p2,p3,p4,p5,p6,p7,if_true,if_false,decide_true,decide_false,Bool.and_true,Bool.and_false,Bool.true_and,Bool.false_and,Bool.or_true,Bool.or_false,Bool.true_or,Bool.false_or,Bool.not_true,Bool.not_false,ne_eq,not_true_eq_false,not_false_eq_true,true_and,and_true,false_and,and_false,true_or,or_true,false_or,or_false,ite_true,ite_false,Bool.false_eq_true])⟩ (by dsimp only;omega) zl (f_ (c_ d_) (f_ (c_ d_) (c_ d_))) zh
   refine Zz 11 ?_
   exact S_ hC_ () (g_ rfl (fy_ hmx2 (by have p1:=eq_true hr1;have p2:=eq_true hr5;have p3:=eq_false hr6;have p4:=eq_false hr7;have p5:=eq_true hr8;have p6:=eq_true hr9;have p7:=eq_true hr10;simp only[hq_,p1,p2,p3,p4,p5,p6,p7,if_true,if_false,decide_true,decide_false,Bool.and_true,Bool.and_false,Bool.true_and,Bool.false_and,Bool.or_true,Bool.or_false,Bool.true_or,Bool.false_or,Bool.not_true,Bool.not_false,ne_eq,not_true_eq_false,not_false_eq_true,true_and,and_true,false_and,and_false,true_or,or_true,false_or,or_false,ite_true,ite_false,Bool.false_eq_true]))) j_ zt
  replace hr7:=zdt hr7
  refine Zz 7 ?_
  exact S_ hC_ () (g_ rfl (fy_ hmx2 (by have p1:=eq_true hr1;have p2:=eq_true hr5;have p3:=eq_false hr6;have p4:=eq_true hr7;simp only[hq_,p1,p2,p3,p4,if_true,if_false,decide_true,decide_false,Bool.and_true,Bool.and_false,Bool.true_and,Bool.false_and,Bool.or_true,Bool.or_false,Bool.true_or,Bool.false_or,Bool.not_true,Bool.not_false,ne_eq,not_true_eq_false,not_false_eq_true,true_and,and_true,false_and,and_false,true_or,or_true,false_or,or_false,ite_true,ite_false,Bool.false_eq_true]))) j_ zt
 replace hr6:=zdt hr6
 refine Zz 13 ?_
 exact S_ hC_ () (g_ rfl (fy_ hmx2 (by have p1:=eq_true hr1;have p2:=eq_true hr5;have p3:=eq_true hr6;simp only[hq_,p1,p2,p3,if_true,if_false,decide_true,decide_false,Bool.and_true,Bool.and_false,Bool.true_and,Bool.false_and,Bool.or_true,Bool.or_false,Bool.true_or,Bool.false_or,Bool.not_true,Bool.not_false,ne_eq,not_true_eq_false,not_false_eq_true,true_and,and_true,false_and,and_false,true_or,or_true,false_or,or_false,ite_true,ite_false,Bool.false_eq_true]))) j_ zt
end Go.Proofs.YtkeanlfhghlgiaaGreatDoor
namespace Go.Proofs.YtkeanlfhghlgiaaGreatDoor
open Go Go.Sx Go.Proofs
attribute [local irreducible] Code.wp wpList wpAnyH
open Go.Vs
theorem kS_:∀ {l:List Fc} {f:Fc} {m:Nat} {x:Fc},Srt l→l[m]? = some x→(x.lt f↔m<aZ_ l f)
 | [],_,_,_,_,h=>by simp at h
 | y::l,f,0,x,hs,h=>by
   simp only[List.getElem?_cons_zero,Option.some.injEq]at h
   subst h
   unfold aZ_
   rw[List.countP_cons]
   constructor
   · intro q;rw[if_pos (decide_eq_true q)];omega
   · intro q
     apply Decidable.byContradiction
     intro hn
     rw[if_neg (by simpa using hn)]at q
     obtain⟨z,hz,hz2⟩:=List.countP_pos_iff.1 (Nat.lt_of_lt_of_eq q (Nat.add_zero _))
     exact hn (Fc.lt_trans ((List.pairwise_cons.1 hs).1 z hz) (of_decide_eq_true hz2))
 | y::l,f,m+1,x,hs,h=>by
   simp only[List.getElem?_cons_succ]at h
   have hs':=List.pairwise_cons.1 hs
   have ih:=kS_ hs'.2 h (f:=f)
   unfold aZ_ at *
   rw[List.countP_cons,ih]
   constructor
   · intro q
     have hx:x.lt f:=ih.2 q
     rw[if_pos (decide_eq_true (Fc.lt_trans (hs'.1 x (List.mem_of_getElem? h)) hx))];omega
   · intro q
     split at q<;>omega
theorem mid2 (lo hi:Nat):Int.tdiv ((lo:Int)+(hi:Int)) 2=(((lo+hi) / 2:Nat):Int):=by
  rw[Int.tdiv_eq_ediv_of_nonneg (by omega)];omega
theorem less_c (x y:Fc):Fn0 Tryz.prog 151 #[Fc.val x,Fc.val y] (.bool (decide (x.lt y))):=by
 refine x_ Tryz.func151 rfl rfl Tryz.ntmps151 rfl fun v0=>?_
 refine Zz 2 ?_
 refine ay_ rfl rfl fun b1=>ay_ rfl rfl fun b2=>Zi 11 (fun hr1=>?_) fun hr1=>?_
 ·refine Zi 10 (fun hr2=>?_) fun hr2=>?_
  ·refine Zi 10 (fun hr3=>?_) fun hr3=>?_
   ·refine Zi 10 (fun hr4=>?_) fun hr4=>?_
    ·refine Zi 10 (fun hr5=>?_) fun hr5=>?_
     ·refine Zz 12 ?_
      refine O_ (fo_ rfl rfl) rfl fun r6 hr6=>Zz 4 ?_
      exact S_ js_ () (g_ rfl (by rw[← hr6,decide_eq_decide];unfold Fc.lt;simp_all [eF_])) j_ zt
     refine Zz 10 ?_
     refine O_ (fo_ rfl rfl) rfl fun r7 hr7=>Zz 4 ?_
     exact S_ js_ () (g_ rfl (by rw[← hr7,decide_eq_decide];unfold Fc.lt;simp_all [eF_])) j_ zt
    refine Zz 10 ?_
    refine O_ (gA_ rfl rfl) rfl fun r8 hr8=>Zz 4 ?_
    exact S_ js_ () (g_ rfl (by rw[← hr8,decide_eq_decide];unfold Fc.lt;simp_all [eF_])) j_ zt
   refine Zz 10 ?_
   refine O_ (gA_ rfl rfl) rfl fun r9 hr9=>Zz 4 ?_
   exact S_ js_ () (g_ rfl (by rw[← hr9,decide_eq_decide];unfold Fc.lt;simp_all [eF_])) j_ zt
  refine Zz 10 ?_
  refine O_ (gA_ rfl rfl) rfl fun r10 hr10=>Zz 4 ?_
  exact S_ js_ () (g_ rfl (by rw[← hr10,decide_eq_decide];unfold Fc.lt;simp_all [eF_])) j_ zt
 refine Zz 10 ?_
 refine O_ (fo_ rfl rfl) rfl fun r11 hr11=>Zz 4 ?_
 exact S_ js_ () (g_ rfl (by rw[← hr11,decide_eq_decide];unfold Fc.lt;simp_all [eF_])) j_ zt
theorem pA_ (l:List Fc) (ad:Option Addr) (cap:Nat) (f:Fc) (hl:l.length≤1000000000000) (hs:Srt l):Tri Tryz.prog 112 #[.slice ad (List.length l) cap,Fc.val f] [] [af_ ad (List.flatMap Fc.cells l)] (fun _:Unit=>.int .i64 (aZ_ l f:Int)) (fun _=>[]) (fun _=>[]):=by
 refine x_ Tryz.func112 rfl rfl Tryz.ntmps112 rfl fun v0=>?_
 refine Zz 2 ?_
 refine ay_ rfl rfl fun b1=>Zz 17 ?_
 refine U_ (ι:={y:Nat×Nat // y.1≤y.2∧y.1≤aZ_ l f∧aZ_ l f≤y.2∧y.2≤List.length l}) (fun y=>[(0,.slice ad (List.length l) cap),(3,zp_ b1 0),(5,.int .i64 (y.1.1:Int)),(6,.int .i64 (y.1.2:Int))]) (fun y=>((b1,.cells #[.int .i64 f.kind,str f.a,str f.b,str f.r,.int .i64 f.lo,.int .i64 f.hi] 24 (0,0))::[])) (fun y=>[af_ ad (List.flatMap Fc.cells l)]) (fun y=>y.1.2 - y.1.1) ⟨((0:Nat),(List.length l)),Nat.zero_le _,Nat.zero_le _,cF_ l f,Nat.le_refl _⟩ zl d_ zh ?_
 rintro ⟨⟨lo,hi⟩,hlh,hp1,hp2,hp3⟩
 dsimp only at hlh hp1 hp2 hp3 ⊢
 refine Zi 5 (fun hr1=>?_) fun hr1=>?_
 ·refine Zz 12 ?_
  exact S_ Tryz.results112 () (ca_ rfl (by omega)) j_ zt
 obtain⟨hlx1,x1,hx1,hmx1⟩:=zge (show ((lo+hi) / 2:Nat)<List.length l by omega)
 refine Zz 11 ?_
 refine i_ (aR_ (tl_ rfl rfl (by decide) (by rw[mid2];exact fW_ (by omega) (by omega))) (show Value.int .i64 (Int.tdiv ((lo:Int)+(hi:Int)) 2)=Value.int .i64 (((lo+hi) / 2:Nat):Int) from congrArg _ (mid2 lo hi))) rfl ?_
 refine Zz 5 ?_
 refine p_ 1 [0,1,2,3,4] zk zs (Zz 6 ?_)
 refine m_ 5 rfl zk (ae_ (less_c x1 f) rfl j_ zt rfl fun r2 hr2=>Zz 2 ?_)
 refine M_ zs (Zz 2 ?_)
 cases r2
 ·replace hr2:=zdf hr2
  refine Zz 6 ?_
  exact u_ ⟨(lo,((lo+hi) / 2:Nat)),by omega,hp1,by have:=(not_congr (kS_ hs hx1 (f:=f))).1 hr2;omega,by omega⟩ (by dsimp only;omega) zl d_ zh
 replace hr2:=zdt hr2
 refine Zz 7 ?_
 exact u_ ⟨(((lo+hi) / 2:Nat)+1,hi),by omega,by have:=(kS_ hs hx1 (f:=f)).1 hr2;omega,hp2,hp3⟩ (by dsimp only;omega) zl d_ zh
theorem mq_ (l:List Fc) (ad:Option Addr) (cap:Nat) (f:Fc) (hl:l.length≤1000000000000) (hs:Srt l):Tri Tryz.prog 75 #[.slice ad (List.length l) cap,Fc.val f] [] [af_ ad (List.flatMap Fc.cells l)] (fun _:Unit=>.bool (decide (f∈l))) (fun _=>[]) (fun _=>[]):=by
 refine x_ Tryz.func75 rfl rfl Tryz.ntmps75 rfl fun v0=>?_
 refine Zz 2 ?_
 refine ay_ rfl rfl fun b1=>Zz 7 ?_
 refine o_ (pA_ l ad cap f (by omega) hs) rfl j_ zf rfl fun _=>Zz 5 ?_
 refine p_ 8 [0,1,2,3,4] zk zs (Zi 3 (fun hr1=>?_) fun hr1=>?_)
 ·refine Zz 2 ?_
  refine p_ 0 [5,6,7,8,9,10,11,12] zk zs (Zz 12 ?_)
  exact S_ Tryz.results75 () (g_ rfl (by symm;apply decide_eq_false;intro q;have:=(List.getElem?_eq_some_iff.1 ((gN_ hs f).1 q)).1;omega)) j_ zt
 obtain⟨hlx1,x1,hx1,hmx1⟩:=zge (show aZ_ l f<List.length l by omega)
 refine Zz 2 ?_
 refine p_ 0 [5,6,7,8,9,10,11,12] zk zs (Zz 5 ?_)
 refine bz_ rfl rfl rfl (aF_ (p:=x1) (q:=f) rfl rfl) rfl fun r2 hr2=>Zz 6 ?_
 exact S_ Tryz.results75 () (g_ rfl (by rw[← hr2,decide_eq_decide,gN_ hs f,hx1,Option.some.injEq])) j_ zt
theorem uL_ (l:List Fc) (ad:Option Addr) (cap:Nat) (f:Fc) (hl:l.length≤1000000000000) (hs:Srt l) (hc:(l.length≤cap∧cap≤maxLen∧(ad=none→cap=0))):Tri Tryz.prog 76 #[.slice ad (List.length l) cap,Fc.val f] [] [af_ ad (List.flatMap Fc.cells l)] (fun y:{y:Option Addr×Nat // (db_ l f).length≤y.2∧y.2≤maxLen∧(y.1=none→y.2=0)}=>.slice y.1.1 (db_ l f).length y.1.2) (fun _=>[]) (fun y=>[af_ y.1.1 ((db_ l f).flatMap Fc.cells)]):=by
 refine x_ Tryz.func76 rfl rfl Tryz.ntmps76 rfl fun v0=>?_
 obtain⟨hc1,hc2,hc3⟩:=hc
 have hc:=And.intro hc1 (And.intro hc2 hc3)
 have hpf:=cF_ l f
 refine Zz 2 ?_
 refine ay_ rfl rfl fun b1=>Zz 7 ?_
 refine o_ (pA_ l ad cap f (by omega) hs) rfl j_ zf rfl fun _=>Zz 6 ?_
 refine p_ 7 [0,1,2,3,4] zk zs (Zi 3 (fun hr1=>?_) fun hr1=>?_)
 ·refine Zz 2 ?_
  refine p_ 0 [5,6,7,8,9,10,11] zk zs (Zz 15 ?_)
  refine dw_ z_ q_ rfl fun b2=>y_ d_ (Zz 2 ?_)
  refine i_ (aR_ (ck_ (i:=0) (j:=(aZ_ l f)) (kl:=.i64) (kh:=.i64) z_ q_ rfl rfl rfl (by omega) (by have:=hc1;omega)) (show _=Value.slice (sad ad cap 0 6) (List.length (List.take (aZ_ l f) l)) (cap - 0) by rw[List.length_take,Nat.min_eq_left (by omega)];rfl)) rfl ?_
  refine au_ (news:=List.flatMap Fc.cells (List.take (aZ_ l f) l)) cc_ (ev_ b2 24 6) rfl rfl (fun q=>by have:=hc3 (dk_ q);omega) (by rw[List.length_take];have:=hc1;omega) n_ (by rw[bk_ Fc.cells 6 Fc.cells_len]) (fun v _ h=>by exact (bg_.slice Fc.cells_len h.1 hc1 0 (aZ_ l f))) (fun u hu=>Y_ Fc.cells_one hu) (by simp only[maxLen];(have:=cF_ l f;(try simp only[List.length_append,List.length_take,List.length_drop,List.length_cons,List.length_nil]);omega)) (by (have:=cF_ l f;(try simp only[List.length_append,List.length_take,List.length_drop,List.length_cons,List.length_nil]);omega)) rfl fun sv1 Hr1 hr1=>?_
  refine y_ List.perm_append_comm ?_
  have hq1:aO_ 24 6 sv1 (List.length (([]:List Fc)++(List.take (aZ_ l f) l))) (List.flatMap Fc.cells (([]:List Fc)++(List.take (aZ_ l f) l))) Hr1:=by rw[List.length_append,List.flatMap_append];exact hr1
  refine Zz 4 ?_
  refine ab_ ((b1,.cells #[.int .i64 f.kind,str f.a,str f.b,str f.r,.int .i64 f.lo,.int .i64 f.hi] 24 (0,0))::[]) zk ?_
  refine p_ 4 [0,1,4,5,6] zk zs (Zz 4 ?_)
  refine aa_ rfl (aR_ (ck_ (i:=(aZ_ l f)) (j:=List.length l) (kl:=.i64) (kh:=.i64) z_ q_ rfl rfl rfl (by omega) (by have:=hc1;omega)) (show _=Value.slice (sad ad cap (aZ_ l f) 6) (List.length (List.drop (aZ_ l f) l)) (cap - (aZ_ l f)) by rw[List.length_drop])) rfl ?_
  refine dW_ (m_ 2 rfl zk (N_ z_ q_ F_ rfl rfl rfl rfl rfl rfl fun b3=>Zz 2 ?_))
  refine M_ zs (m_ 3 rfl zk (ap_ (news:=List.flatMap Fc.cells [f]) cc_ hq1 rfl rfl zp rfl (bA_ 0 rfl) (fun u hu=>Y_ Fc.cells_one hu) (by simp only[maxLen];(have:=cF_ l f;(try simp only[List.length_append,List.length_take,List.length_drop,List.length_cons,List.length_nil]);omega)) (by (have:=cF_ l f;(try simp only[List.length_append,List.length_take,List.length_drop,List.length_cons,List.length_nil]);omega)) rfl fun sv2 Hr2 hr2=>?_))
  refine y_ List.perm_append_comm ?_
  have hq2:=zsa hr2
  refine Zz 2 ?_
  refine M_ (fun _ a b=>⟨Vw.sat.sub (a.perm (c_ d_)),b⟩) (m_ 7 rfl zk (au_ (news:=List.flatMap Fc.cells (List.drop (aZ_ l f) l)) cc_ hq2 rfl rfl (fun q=>by have:=hc3 (dk_ q);omega) (by rw[List.length_drop];have:=hc1;omega) (c_ B_) (by rw[bk_ Fc.cells 6 Fc.cells_len]) (fun v _ h=>by exact (bg_.rest Fc.cells_len h.1 hc1 (aZ_ l f))) (fun u hu=>Y_ Fc.cells_one hu) (by simp only[maxLen];(have:=cF_ l f;(try simp only[List.length_append,List.length_take,List.length_drop,List.length_cons,List.length_nil]);omega)) (by (have:=cF_ l f;(try simp only[List.length_append,List.length_take,List.length_drop,List.length_cons,List.length_nil]);omega)) rfl fun sv3 Hr3 hr3=>?_))
  refine y_ List.perm_append_comm ?_
  have hq3:=zsa hr3
  refine Zz 2 ?_
  refine M_ (fun _ a b=>⟨Vw.sat.sub (a.perm (c_ d_)),b⟩) (p_ 0 [8] zk (fun _ a b=>⟨Vw.sat.sub (a.perm (c_ d_)),b⟩) (Zz 5 ?_))
  have ei:db_ l f=(([]:List Fc)++List.take (aZ_ l f) l++[f])++List.drop (aZ_ l f) l:=by unfold db_;rw[if_neg (fun q=>by have q2:=(gN_ hs f).1 q;have:=(List.getElem?_eq_some_iff.1 q2).1;omega)];simp
  have h9:=hq3
  rw[show ((((([]:List Fc)++(List.take (aZ_ l f) l))++[f])++(List.drop (aZ_ l f) l)):List Fc)=db_ l f from by rw[ei]]at h9
  refine bj_ h9 (c_ B_) fun ad2 cp2 had2 hcad2 hmad2 hzad2=>?_
  exact S_ Tryz.results76 ⟨(ad2,cp2),hcad2,hmad2,hzad2⟩ (bZ_ rfl had2) j_ zf
 obtain⟨hlx1,x1,hx1,hmx1⟩:=zge (show aZ_ l f<List.length l by omega)
 refine Zz 2 ?_
 refine p_ 0 [5,6,7,8,9,10,11] zk zs (Zz 5 ?_)
 refine bz_ rfl rfl rfl (aF_ (p:=x1) (q:=f) rfl rfl) rfl fun r2 hr2=>Zz 4 ?_
 cases r2
 ·replace hr2:=zdf hr2
  refine Zz 5 ?_
  refine dw_ z_ q_ rfl fun b4=>y_ d_ (Zz 2 ?_)
  refine i_ (aR_ (ck_ (i:=0) (j:=(aZ_ l f)) (kl:=.i64) (kh:=.i64) z_ q_ rfl rfl rfl (by omega) (by have:=hc1;omega)) (show _=Value.slice (sad ad cap 0 6) (List.length (List.take (aZ_ l f) l)) (cap - 0) by rw[List.length_take,Nat.min_eq_left (by omega)];rfl)) rfl ?_
  refine au_ (news:=List.flatMap Fc.cells (List.take (aZ_ l f) l)) cc_ (ev_ b4 24 6) rfl rfl (fun q=>by have:=hc3 (dk_ q);omega) (by rw[List.length_take];have:=hc1;omega) n_ (by rw[bk_ Fc.cells 6 Fc.cells_len]) (fun v _ h=>by exact (bg_.slice Fc.cells_len h.1 hc1 0 (aZ_ l f))) (fun u hu=>Y_ Fc.cells_one hu) (by simp only[maxLen];(have:=cF_ l f;(try simp only[List.length_append,List.length_take,List.length_drop,List.length_cons,List.length_nil]);omega)) (by (have:=cF_ l f;(try simp only[List.length_append,List.length_take,List.length_drop,List.length_cons,List.length_nil]);omega)) rfl fun sv4 Hr4 hr4=>?_
  refine y_ List.perm_append_comm ?_
  have hq4:aO_ 24 6 sv4 (List.length (([]:List Fc)++(List.take (aZ_ l f) l))) (List.flatMap Fc.cells (([]:List Fc)++(List.take (aZ_ l f) l))) Hr4:=by rw[List.length_append,List.flatMap_append];exact hr4
  refine Zz 4 ?_
  refine ab_ ((b1,.cells #[.int .i64 f.kind,str f.a,str f.b,str f.r,.int .i64 f.lo,.int .i64 f.hi] 24 (0,0))::[]) zk ?_
  refine p_ 4 [0,1,4,5,6] zk zs (Zz 4 ?_)
  refine aa_ rfl (aR_ (ck_ (i:=(aZ_ l f)) (j:=List.length l) (kl:=.i64) (kh:=.i64) z_ q_ rfl rfl rfl (by omega) (by have:=hc1;omega)) (show _=Value.slice (sad ad cap (aZ_ l f) 6) (List.length (List.drop (aZ_ l f) l)) (cap - (aZ_ l f)) by rw[List.length_drop])) rfl ?_
  refine dW_ (m_ 2 rfl zk (N_ z_ q_ F_ rfl rfl rfl rfl rfl rfl fun b5=>Zz 2 ?_))
  refine M_ zs (m_ 3 rfl zk (ap_ (news:=List.flatMap Fc.cells [f]) cc_ hq4 rfl rfl zp rfl (bA_ 0 rfl) (fun u hu=>Y_ Fc.cells_one hu) (by simp only[maxLen];(have:=cF_ l f;(try simp only[List.length_append,List.length_take,List.length_drop,List.length_cons,List.length_nil]);omega)) (by (have:=cF_ l f;(try simp only[List.length_append,List.length_take,List.length_drop,List.length_cons,List.length_nil]);omega)) rfl fun sv5 Hr5 hr5=>?_))
  refine y_ List.perm_append_comm ?_
  have hq5:=zsa hr5
  refine Zz 2 ?_
  refine M_ (fun _ a b=>⟨Vw.sat.sub (a.perm (c_ d_)),b⟩) (m_ 7 rfl zk (au_ (news:=List.flatMap Fc.cells (List.drop (aZ_ l f) l)) cc_ hq5 rfl rfl (fun q=>by have:=hc3 (dk_ q);omega) (by rw[List.length_drop];have:=hc1;omega) (c_ B_) (by rw[bk_ Fc.cells 6 Fc.cells_len]) (fun v _ h=>by exact (bg_.rest Fc.cells_len h.1 hc1 (aZ_ l f))) (fun u hu=>Y_ Fc.cells_one hu) (by simp only[maxLen];(have:=cF_ l f;(try simp only[List.length_append,List.length_take,List.length_drop,List.length_cons,List.length_nil]);omega)) (by (have:=cF_ l f;(try simp only[List.length_append,List.length_take,List.length_drop,List.length_cons,List.length_nil]);omega)) rfl fun sv6 Hr6 hr6=>?_))
  refine y_ List.perm_append_comm ?_
  have hq6:=zsa hr6
  refine Zz 2 ?_
  refine M_ (fun _ a b=>⟨Vw.sat.sub (a.perm (c_ d_)),b⟩) (p_ 0 [8] zk (fun _ a b=>⟨Vw.sat.sub (a.perm (c_ d_)),b⟩) (Zz 5 ?_))
  have ei:db_ l f=(([]:List Fc)++List.take (aZ_ l f) l++[f])++List.drop (aZ_ l f) l:=by unfold db_;rw[if_neg (fun q=>by have q2:=(gN_ hs f).1 q;rw[hx1]at q2;simp_all)];simp
  have h9:=hq6
  rw[show ((((([]:List Fc)++(List.take (aZ_ l f) l))++[f])++(List.drop (aZ_ l f) l)):List Fc)=db_ l f from by rw[ei]]at h9
  refine bj_ h9 (c_ B_) fun ad2 cp2 had2 hcad2 hmad2 hzad2=>?_
  exact S_ Tryz.results76 ⟨(ad2,cp2),hcad2,hmad2,hzad2⟩ (bZ_ rfl had2) j_ zf
 replace hr2:=zdt hr2
 refine Zz 8 ?_
 have hxe:x1=f:=by assumption
 have ei:db_ l f=l:=by unfold db_;rw[if_pos ((gN_ hs f).2 (hxe▸hx1))]
 exact S_ Tryz.results76 ⟨(ad,cap),by rw[ei];exact hc⟩ (bZ_ rfl (by dsimp only;rw[ei])) j_ (fun v _ h=>⟨by show bg_ v ad ((db_ l f).flatMap Fc.cells);rw[ei];exact h.1,trivial⟩)
end Go.Proofs.YtkeanlfhghlgiaaGreatDoor
namespace Go.Proofs.YtkeanlfhghlgiaaGreatDoor
open Go Go.Sx Go.Proofs
attribute [local irreducible] Code.wp wpList wpAnyH
open Go.Vs
theorem dX_ (a b:Str):Fn0 Tryz.prog 78 #[str a,str b] (Fc.val (D_ a b)):=by
  refine x_ Tryz.func78 rfl rfl Tryz.ntmps78 rfl fun v0=>?_
  refine Zz 2 ?_
  refine J_ F_ rfl fun b1=>Zz 6 ?_
  refine i_ (L_ dJ_ rfl rfl) rfl (w_ 0 q_ rfl rfl rfl rfl rfl rfl (Zz 3 ?_))
  exact er_ () (fun aa v h1 h2=>cQ_ (us:=Fc.cells (D_ a b)) 0 Tryz.results78 bc_ q_ rfl rfl rfl aa v h1 h2) j_ zt
theorem fp_ (a r b:Str):Fn0 Tryz.prog 111 #[str a,str r,str b] (Fc.val (I_ a r b)):=by
  refine x_ Tryz.func111 rfl rfl Tryz.ntmps111 rfl fun v0=>?_
  refine Zz 2 ?_
  refine J_ F_ rfl fun b1=>Zz 7 ?_
  refine i_ (L_ dJ_ rfl rfl) rfl (w_ 0 q_ rfl rfl rfl rfl rfl rfl (Zz 3 ?_))
  exact er_ () (fun aa v h1 h2=>cQ_ (us:=Fc.cells (I_ a r b)) 0 Tryz.results111 bc_ q_ rfl rfl rfl aa v h1 h2) j_ zt
theorem ki_ (a r:Str) (lo hi:Int):Fn0 Tryz.prog 79 #[str a,str r,.int .i64 lo,.int .i64 hi] (Fc.val (R_ a r lo hi)):=by
  refine x_ Tryz.func79 rfl rfl Tryz.ntmps79 rfl fun v0=>?_
  refine Zz 2 ?_
  refine J_ F_ rfl fun b1=>Zz 8 ?_
  refine i_ (L_ dJ_ rfl rfl) rfl (w_ 0 q_ rfl rfl rfl rfl rfl rfl (Zz 3 ?_))
  exact er_ () (fun aa v h1 h2=>cQ_ (us:=Fc.cells (R_ a r lo hi)) 0 Tryz.results79 bc_ q_ rfl rfl rfl aa v h1 h2) j_ zt
end Go.Proofs.YtkeanlfhghlgiaaGreatDoor
namespace Go.Proofs.YtkeanlfhghlgiaaGreatDoor
open Go Go.Sx Go.Proofs
attribute [local irreducible] Code.wp wpList wpAnyH
open Go.Vs
theorem dE {p:Prop} {i:Decidable p}:(@decide p i=true)↔p:=⟨fun h=>of_decide_eq_true h,fun h=>decide_eq_true h⟩
theorem uw_ (p:List Pc):[42]∈atS p:=(fO_ p _).2 (.inr (.inl rfl))
theorem pV_ (p:List Pc):[33]∈atS p:=(fO_ p _).2 (.inr (.inr rfl))
theorem at_of {p:List Pc} {x:Pc} (hx:x∈p) {s:Str} (hs:s=x.a∨s=x.b∨s=x.c) (hn:s≠[]):s∈atS p:=by
  refine (fO_ p s).2 (.inl ((eh_ p s).2 ?_))
  refine List.mem_flatMap.2 ⟨x,hx,List.mem_filter.2 ⟨?_,by simpa using hn⟩⟩
  rcases hs with rfl|rfl|rfl<;>simp
theorem uv_ {s:Str} (h:aQ_ s=true):s≠[]:=fun e=>by subst e;revert h;decide
theorem tr_ {p:Pc} (h:p.valid=true) (hk:p.kind=1∨p.kind=2∨p.kind=3∨p.kind=4∨p.kind=9):p.c≠[]:=by
 unfold Pc.valid at h
 split at h
 ·simp at h
 split at h
 ·simp at h
 split at h
 ·simp at h
 simp only[Bool.and_eq_true]at h
 obtain⟨⟨⟨⟨_,hc⟩,_⟩,_⟩,_⟩:=h
 have key:∀ {b:Bool},cm_ b p.c aQ_=true→b=true→p.c≠[]:=fun h1 h2=>by
   subst h2;simp[cm_]at h1;exact uv_ h1
 rcases hk with q|q|q|q|q<;>rw[q]at hc<;>exact key hc (by decide)
theorem fo1 {A:List Str} {a b:Str}:fG_ A (D_ a b)=true↔a∈A∧b∈A:=by
  unfold fG_ D_ sD_
  dsimp only
  rw[if_pos rfl,Bool.and_eq_true,Bool.and_eq_true,dE,dE,dE]
  simp[D_]
theorem fo2 {A:List Str} {a r b:Str}:fG_ A (I_ a r b)=true↔a∈A∧b∈A∧r≠[]:=by
  unfold fG_ I_
  dsimp only
  rw[if_neg (by decide),if_pos rfl,Bool.and_eq_true,Bool.and_eq_true,Bool.and_eq_true,dE,dE,dE,dE]
  simp[I_]
theorem fo3 {A:List Str} {a r:Str} {lo hi:Int}:fG_ A (R_ a r lo hi)=true↔a∈A∧r≠[]∧-1099511627776≤lo∧lo≤hi∧hi≤1099511627776:=by
  unfold fG_ R_
  dsimp only
  rw[if_neg (by decide),if_neg (by decide),if_pos rfl,Bool.and_eq_true,Bool.and_eq_true,Bool.and_eq_true,Bool.and_eq_true,Bool.and_eq_true,dE,dE,dE,dE,dE,dE]
  simp[R_]
theorem sd_ {p:List Pc} {S:Fc→Prop} (hp:∀ x∈p,x.valid=true) (hS:∀ y,S y→fG_ (atS p) y=true) {y:Fc} (h:gj_ p (atS p) S y):fG_ (atS p) y=true:=by
  have hc:∀ {x:Pc},x∈p→(x.kind=1∨x.kind=2∨x.kind=3∨x.kind=4∨x.kind=9)→x.c∈atS p:=fun hx hk=>at_of hx (.inr (.inr rfl)) (tr_ (hp _ hx) hk)
  have hv:∀ {x:Pc},x∈p→x.vok:=fun hx=>hY_ (hp _ hx)
  cases h with
  | r1 h=>exact fo1.2 ⟨h,h⟩
  | r2 h=>exact fo1.2 ⟨h,uw_ p⟩
  | r10 hx hk h=>exact fo2.2 ⟨h,h,(hv hx).rok.1 (by simp[hk])⟩
  | r3 hx hk h=>exact fo1.2 ⟨(fo1.1 (hS _ h)).1,hc hx (by simp[hk])⟩
  | r4 hx hk h h'=>exact fo1.2 ⟨(fo1.1 (hS _ h)).1,hc hx (by simp[hk])⟩
  | r5 hx hk h=>exact fo2.2 ⟨(fo1.1 (hS _ h)).1,hc hx (by simp[hk]),(hv hx).rok.1 (by simp[hk])⟩
  | r6 hx hk h=>exact fo2.2 ⟨(fo2.1 (hS _ h)).1,(fo2.1 (hS _ h)).2.1,(hv hx).rok.2.2 hk⟩
  | r7 hx hk h h'=>exact fo2.2 ⟨(fo2.1 (hS _ h)).1,(fo2.1 (hS _ h')).2.1,((hv hx).rok.2.1 hk).2⟩
  | r8 hx hk h h'=>exact fo1.2 ⟨(fo2.1 (hS _ h)).1,hc hx (by simp[hk])⟩
  | r9 h h'=>exact fo1.2 ⟨(fo2.1 (hS _ h)).1,pV_ p⟩
  | r11 hx hk h=>exact fo3.2 ⟨(fo1.1 (hS _ h)).1,(hv hx).rok.1 (by simp[hk]),(hv hx).num (.inl hk)⟩
  | r12 h h' hm hl =>
    have h1:=fo3.1 (hS _ h)
    have h2:=fo3.1 (hS _ h')
    exact fo3.2 ⟨h1.1,h1.2.1,by omega,hl,by omega⟩
  | r13 h h' hm hl=>exact fo1.2 ⟨(fo3.1 (hS _ h)).1,pV_ p⟩
  | r14 hx hk h h1 h2=>exact fo1.2 ⟨(fo3.1 (hS _ h)).1,hc hx (by simp[hk])⟩
theorem der_ok {p:List Pc} (hp:∀ x∈p,x.valid=true) {y:Fc} (h:Der p (atS p) y):fG_ (atS p) y=true:=h _ fun _ hy=>sd_ hp (fun _ h=>h) hy
theorem hR_ {p:List Pc} (h:cl_ p=0):∀ x∈p,x.valid=true:=fun x hx=>List.all_eq_true.1 (ot_ h).2 x hx
theorem dO_.good {p:List Pc} {bu:Int} {c:Cl} (h:dO_ p bu c 0):cl_ p=0∧0≤bu∧bu≤1073741824∧c.ok∧c.atoms=atS p∧dU_ p (atS p) (min bu 65536).toNat (some c.facts):=by
 unfold dO_ at h
 split at h
 ·rename_i h1;exact absurd h.2.symm h1
 rename_i h1
 split at h
 ·exact absurd h.2 (by decide)
 rename_i h2
 rcases h with h|h
 ·exact⟨by simpa using h1,by omega,by omega,h.2⟩
 have:=h.2.1;split at this<;>exact absurd this (by decide)
theorem dO_.bad {p:List Pc} {bu:Int} {c:Cl} {e:Int} (h:dO_ p bu c e) (he:e≠0):c=Cl.no:=by
 unfold dO_ at h
 split at h
 ·exact h.1
 split at h
 ·exact h.1
 rcases h with h|h
 ·exact absurd h.1 he
 exact h.1
theorem dO_.ok {p:List Pc} {bu:Int} {c:Cl} {e:Int} (h:dO_ p bu c e):c.ok:=by
 by_cases he:e=0
 ·subst he;exact h.good.2.2.2.1
 rw[h.bad he];exact Cl.no_ok
theorem dO_.len {p:List Pc} {bu:Int} {c:Cl} {e:Int} (h:dO_ p bu c e):c.atoms.length≤3*p.length+2∧c.facts.length≤65536:=by
 by_cases he:e=0
 ·subst he
  obtain⟨_,_,_,_,h1,h2⟩:=h.good
  refine⟨by rw[h1];exact kr_ p,?_⟩
  have:=h2.2.2
  omega
 rw[h.bad he];simp[Cl.no]
theorem ks_ {p:List Pc} {bu:Int} {c:Cl} {e:Int} {r:Option (List Fc)} (h:dO_ p bu c e) (hc:cl_ p=0) (hb:0≤bu) (hb2:bu≤1073741824) (hr:dU_ p (atS p) (min bu 65536).toNat r):(∀ L,r=some L→e=0∧c.facts=L∧c.atoms=atS p)∧(r=none→c=Cl.no∧e=if bu<65536 then 3 else 2):=by
 unfold dO_ at h
 rw[if_neg (by simp[hc]),if_neg (by omega)]at h
 rcases h with⟨h1,h2,h3,h4⟩|⟨h1,h2,h3⟩
 ·have e:=dU_.uniq h4 hr
  subst e
  exact⟨fun L hL=>⟨h1,Option.some.inj hL,h3⟩,fun h=>(by cases h)⟩
 have e:=dU_.uniq h3 hr
 subst e
 exact⟨fun L hL=>(by cases hL),fun _=>⟨h1,h2⟩⟩
def gz_ (p q:List Pc):Prop:=∀ x∈p,∃ y∈q,∃ n,{ y with frm:=n }=x
theorem gz_.rfl' (p:List Pc):gz_ p p:=fun x hx=>⟨x,hx,x.frm,rfl⟩
theorem gz_.of {p q:List Pc} (h:∀ x∈p,x∈q):gz_ p q:=fun x hx=>⟨x,h x hx,x.frm,rfl⟩
theorem gz_.at' {p q:List Pc} (h:gz_ p q):∀ s∈atS p,s∈atS q:=fun s hs=>by
 rw[fO_,eh_]at hs ⊢
 rcases hs with h1|h1
 ·obtain⟨x,hx,h2⟩:=List.mem_flatMap.1 h1
  obtain⟨y,hy,n,e⟩:=h x hx
  subst e
  exact .inl (List.mem_flatMap.2 ⟨y,hy,h2⟩)
 exact .inr h1
theorem gz_.der {p q:List Pc} (h:gz_ p q) {y:Fc} (hy:Der p (atS p) y):Der q (atS q) y:=hy.mono h h.at'
theorem gz_.atS_eq {p q:List Pc} (h:gz_ p q) (h':gz_ q p):atS p=atS q :=
  ff_ eF_ List.lt_trans (lD_ p) (lD_ q) fun x=>⟨h.at' x,h'.at' x⟩
theorem dU_.congrP {p q:List Pc} {m:Nat} {r:Option (List Fc)} (h:gz_ p q) (h':gz_ q p) (hr:dU_ p (atS p) m r):dU_ q (atS q) m r:=by
  cases r with
  | none=>obtain⟨M,h1,h2,h3⟩:=hr;exact⟨M,h1,fun y hy=>h.der (h2 y hy),h3⟩
  | some L=>exact⟨hr.1,fun y=>(hr.2.1 y).trans ⟨h.der,h'.der⟩,hr.2.2⟩
theorem uC_ {p:List Pc} {bu:Int} {c:Cl} {e:Int} (h:dO_ p bu c e) (hc:cl_ p=0) (hb:0≤bu) (hb2:bu≤1073741824):(e=0∧c.atoms=atS p∧dU_ p (atS p) (min bu 65536).toNat (some c.facts))∨(c=Cl.no∧e=(if bu<65536 then 3 else 2)∧dU_ p (atS p) (min bu 65536).toNat none):=by
 unfold dO_ at h
 rw[if_neg (by simp[hc]),if_neg (by omega)]at h
 rcases h with⟨h1,_,h2,h3⟩|h
 ·exact .inl ⟨h1,h2,h3⟩
 exact .inr h
theorem qY_ {p q:List Pc} {bu:Int} {c d:Cl} {e f:Int} (h:gz_ p q) (h':gz_ q p) (hp:dO_ p bu c e) (hq:dO_ q bu d f) (hc:cl_ p=0) (hd:cl_ q=0) (hb:0≤bu) (hb2:bu≤1073741824):c.atoms=d.atoms∧c.facts=d.facts∧e=f:=by
 rcases uC_ hp hc hb hb2 with⟨h1,h2,h3⟩|⟨h1,h2,h3⟩
 ·obtain⟨g1,g2,g3⟩:=(ks_ hq hd hb hb2 (dU_.congrP h h' h3)).1 _ rfl
  exact⟨by rw[h2,g3,h.atS_eq h'],g2.symm,by rw[h1,g1]⟩
 obtain⟨g1,g2⟩:=(ks_ hq hd hb hb2 (dU_.congrP h h' h3)).2 rfl
 subst h1 g1
 exact⟨rfl,rfl,by rw[h2,g2]⟩
theorem dO_.srt {p:List Pc} {bu:Int} {c:Cl} {e:Int} (h:dO_ p bu c e):Srt c.facts:=by
 by_cases he:e=0
 ·subst he;exact h.good.2.2.2.2.2.1
 rw[h.bad he];exact List.Pairwise.nil
theorem gz_.trans {p q r:List Pc} (h:gz_ p q) (k:gz_ q r):gz_ p r:=fun x hx=>by
  obtain⟨y,hy,n,rfl⟩:=h x hx
  obtain⟨z,hz,m,rfl⟩:=k y hy
  exact⟨z,hz,n,rfl⟩
theorem qX_ {p:List Pc} {bu:Int} {c d:Cl} {e f:Int} (h:dO_ p bu c e) (k:dO_ p bu d f):c.atoms=d.atoms∧c.facts=d.facts∧e=f:=by
 by_cases h1:cl_ p=0
 ·by_cases h2:bu<0∨1073741824<bu
  ·unfold dO_ at h k
   rw[if_neg (by simp[h1]),if_pos h2]at h k
   obtain⟨rfl,rfl⟩:=h
   obtain⟨rfl,rfl⟩:=k
   exact⟨rfl,rfl,rfl⟩
  exact qY_ (gz_.rfl' p) (gz_.rfl' p) h k h1 h1 (by omega) (by omega)
 unfold dO_ at h k
 rw[if_pos h1]at h k
 obtain⟨rfl,rfl⟩:=h
 obtain⟨rfl,rfl⟩:=k
 exact⟨rfl,rfl,rfl⟩
end Go.Proofs.YtkeanlfhghlgiaaGreatDoor
namespace Go.Proofs.YtkeanlfhghlgiaaGreatDoor
open Go Go.Sx Go.Proofs
attribute [local irreducible] Code.wp wpList wpAnyH
open Go.Vs
theorem ba_ {α β:Type} {g:α→List β} {l:List α} {i:Nat} {x:α} (h:l[i]? = some x):List.flatMap g (List.take (i+1) l)=List.flatMap g (List.take i l)++g x:=by
  rw[List.take_add_one,h,Option.toList_some,List.flatMap_append];simp
def gI_ (a:Str) (x:Pc):List Fc:=if x.kind=7 then [I_ a x.r a] else []
def hp_ (p:List Pc) (a:Str):List Fc:=[D_ a a,D_ a [42]]++List.flatMap (gI_ a) p
theorem ms_ (p:List Pc) (A:List Str):fF_ p A=List.flatMap (hp_ p) A:=by
 unfold fF_
 congr 1
 funext a
 unfold hp_
 simp only[List.cons_append,List.nil_append,List.cons.injEq,true_and]
 induction p with
 | nil=>rfl
 | cons x p ih =>
   rw[List.filter_cons,List.flatMap_cons,← ih,gI_]
   by_cases h:x.kind=7
   · rw[if_pos (by simpa using h),if_pos h];rfl
   · rw[if_neg (by simpa using h),if_neg h];rfl
theorem mm_ (a:Str) (x:Pc):(gI_ a x).length≤1:=by unfold gI_;split<;>simp
theorem lp_ {p:List Pc} (hp:p.length≤100) (a:Str):(hp_ p a).length≤102:=by
  have:=dP_ (g:=gI_ a) (n:=1) p fun x _=>mm_ a x
  unfold hp_
  rw[List.length_append];simp only[List.length_cons,List.length_nil];omega
def fa_ (l:List Fc) (f:Fc) (x:Pc):List Fc :=
  if x.kind=1∧x.a=f.b then [D_ f.a x.c]
  else if x.kind=2∧(x.a=f.b∧D_ f.a x.b∈l∨x.b=f.b∧D_ f.a x.a∈l) then [D_ f.a x.c]
  else if x.kind=3∧x.a=f.b then [I_ f.a x.r x.c]
  else if x.kind=8∧x.a=f.b then [R_ f.a x.r x.lo x.hi]
  else []
def dG_ (f y:Fc) (x:Pc):List Fc:=if x.kind=4∧x.r=y.r∧x.a=f.b then [D_ y.a x.c] else []
theorem ke_ (p:List Pc) (f y:Fc):subB p f y=if y.kind≠2∨y.b≠f.a then [] else (if f.b=[33] then [D_ y.a [33]] else [])++List.flatMap (dG_ f y) p:=rfl
theorem lT_ (l:List Fc) (f:Fc) (x:Pc):(fa_ l f x).length≤1:=by unfold fa_;(repeat' split)<;>simp
theorem jm_ (f y:Fc) (x:Pc):(dG_ f y x).length≤1:=by unfold dG_;split<;>simp
theorem rp_ {p:List Pc} (hp:p.length≤100) (f y:Fc):(subB p f y).length≤101:=by
 have:=dP_ (g:=dG_ f y) (n:=1) p fun x _=>jm_ f y x
 rw[ke_]
 split
 ·simp
 rw[List.length_append];split<;>simp only[List.length_cons,List.length_nil]<;>omega
theorem jw_ (x:Pc) (f y:Fc):(cE_ x f y).length≤2:=by unfold cE_;(repeat' split)<;>simp
theorem mn_ {l:List Fc} (hl:l.length≤65536) (f:Fc) (x:Pc):(cM_ l f x).length≤131072:=by
 unfold cM_
 split
 ·simp
 split
 ·simp
 split
 ·have:=dP_ (g:=cE_ x f) (n:=2) l fun y _=>jw_ x f y
  omega
 simp
theorem kM_ (f y:Fc):(ds_ f y).length≤1:=by unfold ds_;(repeat' split)<;>simp
theorem oM_ (f:Fc) (x:Pc):(dM_ f x).length≤1:=by unfold dM_;split<;>simp
theorem rI_ (p:List Pc) (pad:Option Addr) (pcap:Nat) (A:List Str) (aad:Option Addr) (acap:Nat) (hp:p.length≤100) (hA:A.length≤1000):Tri Tryz.prog 74 #[.slice pad (List.length p) pcap,.slice aad (List.length A) acap] [] [af_ pad (List.flatMap Pc.cells p),af_ aad (List.flatMap aL_ A)] (fun y:{y:Value×Hp // zR 24 6 Fc.cells y.1 (fF_ p A) y.2}=>y.1.1) (fun y=>y.1.2) (fun _=>[]):=by
 refine x_ Tryz.func74 rfl rfl Tryz.ntmps74 rfl fun v0=>?_
 refine Zz 7 ?_
 refine dw_ z_ q_ rfl fun b1=>y_ d_ (Zz 10 ?_)
 refine U_ (ι:={y:Nat×Value×Hp // y.1≤List.length A∧zR 24 6 Fc.cells y.2.1 (List.flatMap (hp_ p) (List.take y.1 A)) y.2.2}) (fun y=>[(0,.slice pad (List.length p) pcap),(1,.slice aad (List.length A) acap),(4,.slice none 0 0),(5,y.1.2.1),(6,.int .i64 (y.1.1:Int))]) (fun y=>(y.1.2.2)) (fun y=>[af_ pad (List.flatMap Pc.cells p),af_ aad (List.flatMap aL_ A)]) (fun y=>List.length A - y.1.1) ⟨((0:Nat),(.slice (some ⟨b1,0,none⟩) 0 0),[(b1,.cells #[] 24 (0,0))]),by simp,(ev_ b1 24 6)⟩ zl aD_ zh ?_
 rintro ⟨⟨i,sv_Rfc,H_Rfc⟩,hi_i,hr_Rfc⟩
 dsimp only at hi_i hr_Rfc ⊢
 have hb1:=dP_ (g:=hp_ p) (n:=102) (List.take i A) (fun x _=>lp_ hp x)
 rw[List.length_take]at hb1
 refine Zi 6 (fun hr1=>?_) fun hr1=>?_
 ·rw[show List.take i A=A from List.take_of_length_le (by omega)]at hr_Rfc
  refine Zz 12 ?_
  exact S_ Tryz.results74 ⟨(sv_Rfc,H_Rfc),(ms_ p A)▸hr_Rfc⟩ rfl aD_ zt
 obtain⟨hlx1,x1,hx1,hmx1⟩:=zge (show i<List.length A by omega)
 refine Zz 8 ?_
 refine ab_ ([]) zk ?_
 refine p_ 5 [0,1,2,3,4,5,6,7,8,10,11,12,13] zk zs (Zz 14 ?_)
 refine m_ 9 rfl zk (o_ (dX_ x1 x1) rfl j_ zt rfl fun _=>y_ jK_ (Zz 3 ?_))
 refine m_ 14 rfl zk (o_ (dX_ x1 [42]) rfl j_ zt rfl fun _=>y_ jK_ (Zz 3 ?_))
 refine m_ 15 rfl zk (N_ z_ q_ F_ rfl rfl rfl rfl rfl rfl fun b2=>?_)
 refine ar_ (List.flatMap Fc.cells [(D_ x1 x1),(D_ x1 [42])]) d_ rfl ?_
 refine Zz 3 ?_
 refine m_ 16 rfl zk (au_ (news:=List.flatMap Fc.cells [(D_ x1 x1),(D_ x1 [42])]) cc_ hr_Rfc rfl rfl (fun q=>by cases q) (by simp) aD_ (by rw[bk_ Fc.cells 6 Fc.cells_len];rfl) zf (fun u hu=>Y_ Fc.cells_one hu) (by simp only[maxLen];((try simp only[List.length_append,List.length_cons,List.length_nil]);omega)) (by ((try simp only[List.length_append,List.length_cons,List.length_nil]);omega)) rfl fun sv1 Hr1 hr1=>?_)
 refine y_ List.perm_append_comm ?_
 have hq1:=zsa hr1
 refine Zz 3 ?_
 refine p_ 0 [17] zk zs (Zz 10 ?_)
 have hw2:=zsw (gI_ x1) p hq1
 refine U_ (ι:={y:Nat×Value×Hp // y.1≤List.length p∧zR 24 6 Fc.cells y.2.1 (((List.flatMap (hp_ p) (List.take i A))++[(D_ x1 x1),(D_ x1 [42])])++List.flatMap (gI_ x1) (List.take y.1 p)) y.2.2}) (fun y=>[(0,.slice pad (List.length p) pcap),(1,.slice aad (List.length A) acap),(4,.slice none 0 0),(5,y.1.2.1),(6,.int .i64 (i:Int)),(7,.int .i64 (y.1.1:Int))]) (fun y=>(y.1.2.2)) (fun y=>[af_ (some ⟨b2,0,none⟩) (List.flatMap Fc.cells [(D_ x1 x1),(D_ x1 [42])]),af_ pad (List.flatMap Pc.cells p),af_ aad (List.flatMap aL_ A)]) (fun y=>List.length p - y.1.1) ⟨((0:Nat),sv1,Hr1),by simp,hw2⟩ zl aD_ zh ?_
 rintro ⟨⟨k,sv_Rfc,H_Rfc⟩,hi_k,hr_Rfc⟩
 dsimp only at hi_k hr_Rfc ⊢
 have hb2:=dP_ (g:=gI_ x1) (n:=1) (List.take k p) (fun x _=>mm_ x1 x)
 rw[List.length_take]at hb2
 refine Zi 6 (fun hr2=>?_) fun hr2=>?_
 ·rw[show List.take k p=p from List.take_of_length_le (by omega)]at hr_Rfc
  refine Zz 11 ?_
  exact u_ ⟨(i+1,sv_Rfc,H_Rfc),hlx1,(by have q:=hr_Rfc;rw[ba_ hx1,show (hp_ p) x1=[(D_ x1 x1),(D_ x1 [42])]++List.flatMap (gI_ x1) p from (by rfl)];simpa only[List.append_assoc,List.append_nil] using q)⟩ (by dsimp only;omega) zl aD_ (fun _ _ h=>h.2)
 obtain⟨hlx2,x2,hx2,hmx2⟩:=zge (show k<List.length p by omega)
 refine Zi 14 (fun hr3=>?_) fun hr3=>?_
 ·refine Zz 11 ?_
  exact u_ ⟨(k+1,sv_Rfc,H_Rfc),hlx2,(by have q:=hr_Rfc;rw[ba_ hx2,show (gI_ x1) x2=[] from (by unfold gI_;rw[if_neg (by first|assumption|simpa using hr3|simp[*])])];simpa only[List.append_assoc,List.append_nil] using q)⟩ (by dsimp only;omega) zl aD_ zh
 refine Zz 3 ?_
 refine ab_ ([]) zk ?_
 refine p_ 4 [0,1,2,3,4,5,6,7,8,9,10,11,12,13] zk zs (Zz 15 ?_)
 refine m_ 14 rfl zk (o_ (fp_ x1 x2.r x1) rfl j_ zt rfl fun _=>y_ jK_ (Zz 3 ?_))
 refine m_ 15 rfl zk (N_ z_ q_ F_ rfl rfl rfl rfl rfl rfl fun b3=>?_)
 refine ar_ (List.flatMap Fc.cells [(I_ x1 x2.r x1)]) d_ rfl ?_
 refine Zz 3 ?_
 refine m_ 16 rfl zk (au_ (news:=List.flatMap Fc.cells [(I_ x1 x2.r x1)]) cc_ hr_Rfc rfl rfl (fun q=>by cases q) (by simp) aD_ (by rw[bk_ Fc.cells 6 Fc.cells_len];rfl) zf (fun u hu=>Y_ Fc.cells_one hu) (by simp only[maxLen];((try simp only[List.length_append,List.length_cons,List.length_nil]);omega)) (by ((try simp only[List.length_append,List.length_cons,List.length_nil]);omega)) rfl fun sv3 Hr3 hr3=>?_)
 refine y_ List.perm_append_comm ?_
 have hq3:=zsa hr3
 refine Zz 3 ?_
 refine p_ 0 [17] zk zs (Zz 10 ?_)
 exact u_ ⟨(k+1,sv3,Hr3),hlx2,(by have q:=hq3;rw[ba_ hx2,show (gI_ x1) x2=[(I_ x1 x2.r x1)] from (by unfold gI_;rw[if_pos (by first|assumption|simpa using hr3|simp[*])])];simpa only[List.append_assoc,List.append_nil] using q)⟩ (by dsimp only;omega) zl aD_ (fun _ _ h=>h.2)
end Go.Proofs.YtkeanlfhghlgiaaGreatDoor
