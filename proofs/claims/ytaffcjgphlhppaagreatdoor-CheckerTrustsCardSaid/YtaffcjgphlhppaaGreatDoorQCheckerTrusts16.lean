/-
  Part of the proof of the law CheckerTrusts over this seat: the small logic, the data, the contracts of functions (no condition).
-/
import Derived.Test.YtaffcjgphlhppaaGreatDoorQCheckerTrusts14
import Derived.Test.YtaffcjgphlhppaaGreatDoorQCheckerTrusts10
import Derived.Test.YtaffcjgphlhppaaGreatDoorQCheckerTrusts11
import Derived.Test.YtaffcjgphlhppaaGreatDoorQCheckerTrusts6
import Derived.Test.YtaffcjgphlhppaaGreatDoorQCheckerTrusts15
import Derived.Test.YtaffcjgphlhppaaGreatDoorQCheckerTrusts9
import Derived.Test.YtaffcjgphlhppaaGreatDoorQCheckerTrusts8
import Derived.Test.YtaffcjgphlhppaaGreatDoorQCheckerTrusts7
set_option linter.unusedVariables false
set_option linter.unusedSimpArgs false
set_option linter.unusedSectionVars false
set_option maxHeartbeats 1000000
namespace Go.Proofs.YtaffcjgphlhppaaGreatDoor
open Go Go.Sx Go.Proofs
attribute [local irreducible] Code.wp wpList wpAnyH
open Go.Vs
theorem qk_ (db:Nat) (d:Dst) (n:Nat) (hd:d.ok) (hn:n<140737488355328):TriX Tryz.prog 159 #[zp_ db 0,.int .i64 (n:Int)] [(db,.cells #[.slice (Dst.ad d) (List.length (Dst.r d)) (Dst.cap d)] 92 (0,0))] [aC_ (Dst.ad d) (List.flatMap u8C (Dst.r d))] (fun y:{y:(Option Addr×Nat)×Dst // n≤d.r.length∧y.2.r=d.r.drop n∧y.2.ok∧(d.r.take n).length≤y.1.2∧(y.1.1=none→y.1.2=0)}=>.slice y.1.1.1 (List.length (d.r.take n)) y.1.1.2) (fun y=>[(db,.cells #[.slice (Dst.ad y.1.2) (List.length (Dst.r y.1.2)) (Dst.cap y.1.2)] 92 (0,0))]) (fun y=>[aC_ y.1.1.1 (List.flatMap u8C (d.r.take n)),aC_ (Dst.ad y.1.2) (List.flatMap u8C (Dst.r y.1.2))]) (¬ n≤d.r.length):=by
 refine bp_ Tryz.func159 rfl rfl Tryz.ntmps159 rfl fun v0=>?_;refine Zz 13 ?_;refine J_ (ep_ rfl rfl) rfl fun r1 hr1=>?_;refine at_ (ex_ r1) rfl j_ zt rfl (fun hb=>dk_ ((fun q=>by rw[hb]at hr1;simp at hr1;omega))) fun⟨_,hn1⟩=>?_;try dsimp only
 have hn9:n≤List.length (Dst.r d):=by have z:=hr1;rw[hn1]at z;simp at z;omega
 refine Zz 3 ?_;refine ap_ ([]) zk ?_;refine o_ 8 [0,1,2,3,5,7,8,9,11] zk zs (Zz 10 ?_);refine bV_ 4 10 rfl rfl zk ?_ ?_
 ·refine Zz 4 ?_
  refine o_ 5 [6,13] zk zs ?_;refine B_ rfl (bG_ (eC_ (i:=0) (j:=n) (kl:=.i64) (kh:=.i64) bg_ iz_ rfl rfl rfl (by omega) (by have:=hd.1;omega)) (show _=Value.slice (sad (Dst.ad d) (Dst.cap d) 0 1) (List.length (List.take n (Dst.r d))) ((Dst.cap d) - 0) by rw[List.length_take,Nat.min_eq_left (by omega)];rfl)) rfl ?_;refine Zz 2 ?_;refine i_ 10 rfl zk (Zz 4 ?_);refine o_ 1 [12,14,15] zk zs ?_;refine B_ rfl (bG_ (eC_ (i:=n) (j:=List.length (Dst.r d)) (kl:=.i64) (kh:=.i64) bg_ iz_ rfl rfl rfl (by omega) (by have:=hd.1;omega)) (show _=Value.slice (sad (Dst.ad d) (Dst.cap d) n 1) (List.length (List.drop n (Dst.r d))) ((Dst.cap d) - n) by rw[List.length_drop])) rfl ?_;refine Zz 3 ?_;refine i_ 16 rfl zk (z_ 0 Tryz.sizeOf39 rfl rfl rfl rfl rfl rfl (Zz 12 ?_));have k1:List.length (List.drop n (Dst.r d))≤((Dst.cap d) - n):=(by rw[List.length_drop];have:=hd.1;omega);have k2:((Dst.cap d) - n)≤maxLen:=by have:=hd.2.1;omega
  have k3:(sad (Dst.ad d) (Dst.cap d) n 1)=none→((Dst.cap d) - n)=0:=(fun q=>by have:=hd.2.2 (jY_ q);omega);have k4:List.length (List.take n (Dst.r d))≤((Dst.cap d) - 0):=(by rw[List.length_take];have:=hd.1;omega);have k5:(sad (Dst.ad d) (Dst.cap d) 0 1)=none→((Dst.cap d) - 0)=0:=(fun q=>by have:=hd.2.2 (jY_ q);omega);exact cz_ (T_ Tryz.results159 ⟨(((sad (Dst.ad d) (Dst.cap d) 0 1),((Dst.cap d) - 0)),Dst.mk (sad (Dst.ad d) (Dst.cap d) n 1) ((Dst.cap d) - n) (List.drop n (Dst.r d))),hn9,rfl,⟨k1,k2,k3⟩,k4,k5⟩ (jg_ rfl (by dsimp only)) e_ (fun v _ h=>by exact⟨(bH_.slice iU_ h.1 hd.1 0 n),(bH_.rest iU_ h.1 hd.1 n),trivial⟩))
 refine Zz 4 ?_;refine o_ 6 [12] zk zs ?_;refine B_ rfl (bG_ (eC_ (i:=n) (j:=List.length (Dst.r d)) (kl:=.i64) (kh:=.i64) bg_ iz_ rfl rfl rfl (by omega) (by have:=hd.1;omega)) (show _=Value.slice (sad (Dst.ad d) (Dst.cap d) n 1) (List.length (List.drop n (Dst.r d))) ((Dst.cap d) - n) by rw[List.length_drop])) rfl ?_;refine bi_ (i_ 4 rfl zk (Zz 4 ?_));refine o_ 1 [6,13,14,15] zk zs ?_;refine B_ rfl (bG_ (eC_ (i:=0) (j:=n) (kl:=.i64) (kh:=.i64) bg_ iz_ rfl rfl rfl (by omega) (by have:=hd.1;omega)) (show _=Value.slice (sad (Dst.ad d) (Dst.cap d) 0 1) (List.length (List.take n (Dst.r d))) ((Dst.cap d) - 0) by rw[List.length_take,Nat.min_eq_left (by omega)];rfl)) rfl ?_;refine Zz 4 ?_;refine i_ 16 rfl zk (z_ 0 Tryz.sizeOf39 rfl rfl rfl rfl rfl rfl (Zz 12 ?_));have k1:List.length (List.drop n (Dst.r d))≤((Dst.cap d) - n):=(by rw[List.length_drop];have:=hd.1;omega);have k2:((Dst.cap d) - n)≤maxLen:=by have:=hd.2.1;omega
 have k3:(sad (Dst.ad d) (Dst.cap d) n 1)=none→((Dst.cap d) - n)=0:=(fun q=>by have:=hd.2.2 (jY_ q);omega);have k4:List.length (List.take n (Dst.r d))≤((Dst.cap d) - 0):=(by rw[List.length_take];have:=hd.1;omega);have k5:(sad (Dst.ad d) (Dst.cap d) 0 1)=none→((Dst.cap d) - 0)=0:=(fun q=>by have:=hd.2.2 (jY_ q);omega);exact cz_ (T_ Tryz.results159 ⟨(((sad (Dst.ad d) (Dst.cap d) 0 1),((Dst.cap d) - 0)),Dst.mk (sad (Dst.ad d) (Dst.cap d) n 1) ((Dst.cap d) - n) (List.drop n (Dst.r d))),hn9,rfl,⟨k1,k2,k3⟩,k4,k5⟩ (jg_ rfl (by dsimp only)) e_ (fun v _ h=>by exact⟨(bH_.slice iU_ h.1 hd.1 0 n),(bH_.rest iU_ h.1 hd.1 n),trivial⟩))
theorem im_ (db:Nat) (d:Dst) (n:Nat) (hd:d.ok) (hn:n≤8):TriX Tryz.prog 87 #[zp_ db 0,.int .i64 (n:Int)] [(db,.cells #[.slice (Dst.ad d) (List.length (Dst.r d)) (Dst.cap d)] 92 (0,0))] [aC_ (Dst.ad d) (List.flatMap u8C (Dst.r d))] (fun y:{y:Nat×Dst // fm_ n d.r=some (y.1,y.2.r)∧y.2.ok}=>.int .u64 (y.1.1:Int)) (fun y=>[(db,.cells #[.slice (Dst.ad y.1.2) (List.length (Dst.r y.1.2)) (Dst.cap y.1.2)] 92 (0,0))]) (fun y=>[aC_ (Dst.ad y.1.2) (List.flatMap u8C (Dst.r y.1.2))]) (fm_ n d.r=none):=by
 refine bp_ Tryz.func87 rfl rfl Tryz.ntmps87 rfl fun v0=>?_;have hl9:List.length (List.take n (Dst.r d))≤8:=by rw[List.length_take];omega
 refine Zz 10 ?_;refine at_ (qk_ db d n hd (by omega)) rfl e_ zf rfl (fun hb=>dk_ (nL_ hb)) fun⟨⟨⟨ba,bc⟩,e⟩,hb1,hb2,hb3,hb4,hb5⟩=>?_;try dsimp only
 refine Zz 5 ?_;refine aF_ (ι:={y:Nat // y≤List.length (List.take n (Dst.r d))}) (fun y=>[(4,.int .u64 (beN (List.take y.1 (List.take n (Dst.r d))):Int)),(9,.slice ba (List.length (List.take n (Dst.r d))) bc),(10,.int .i64 (List.length (List.take n (Dst.r d)):Int)),(11,.int .i64 (y.1:Int))]) (fun y=>((db,.cells #[.slice (Dst.ad e) (List.length (Dst.r e)) (Dst.cap e)] 92 (0,0))::[])) (fun y=>[aC_ ba (List.flatMap u8C (List.take n (Dst.r d))),aC_ (Dst.ad e) (List.flatMap u8C (Dst.r e)),aC_ (Dst.ad d) (List.flatMap u8C (Dst.r d))]) (fun y=>List.length (List.take n (Dst.r d)) - y.1) ⟨(0:Nat),by simp⟩ zl e_ zh ?_;rintro ⟨i,hi_i⟩;dsimp only at hi_i ⊢;refine Zi 2 (fun hr1=>?_) fun hr1=>?_
 ·refine Zz 13 ?_
  have e9:List.take i (List.take n (Dst.r d))=(List.take n (Dst.r d)):=List.take_of_length_le (by omega);exact cz_ (T_ Tryz.results87 ⟨(beN (List.take n (Dst.r d)),e),by rw[kN_ hb1,hb2],hb3⟩ (aG_ rfl (by rw[e9])) e_ zf)
 obtain⟨hlx1,x1,hx1,hmx1⟩:=zge (show i<List.length (List.take n (Dst.r d)) by omega);refine Zz 10 ?_;refine d_ (ab_ bg_ iz_ rfl rfl (fun v _ h=>O_ (n:=1) iU_ (by decide) (by exact h.1) hx1) (by omega) (by first|omega|(simp;done))) rfl ?_;refine d_ (bm_ (ad:=ba) Tryz.isAgg5 rfl zf (K_ iU_ hx1 0 _ rfl)) rfl (Zz 5 ?_);refine d_ (sZ_ (m:=beN (List.take i (List.take n (Dst.r d)))) rfl rfl (tA_ hlx1 (by rw[List.length_take];omega))) rfl ?_;refine Zz 1 ?_;refine d_ (hS_ oZ_ gj_ rfl (te_ (by omega) (by have:=UInt8.toNat_lt x1;omega))) rfl ?_;refine d_ (vf_ (m:=beN (List.take i (List.take n (Dst.r d)))) (c:=UInt8.toNat x1) rfl rfl (tA_ hlx1 (by rw[List.length_take];omega)) (by have:=UInt8.toNat_lt x1;omega)) rfl ?_;refine Zz 8 ?_;exact aa_ ⟨i+1,hlx1⟩ (by dsimp only;omega) ⟨(congrArg some (congrArg (Value.int .u64) (by dsimp only;rw[wE_ hx1]))),rfl,rfl,rfl,trivial⟩ e_ zh
theorem qh_ (db:Nat):ob_ Tryz.prog 89 92 db (fun q:Int=>Value.int .i64 q) fc_:=by
  intro d hd;refine bp_ Tryz.func89 rfl rfl Tryz.ntmps89 rfl fun v0=>?_;refine Zz 8 ?_;refine at_ (im_ db d 1 hd (by decide)) rfl e_ zf rfl (fun hb=>dk_ (vw_ hb)) fun⟨⟨iv,e⟩,hi1,hi2⟩=>?_;try dsimp only
  refine d_ (hS_ gj_ Q_ rfl (od_ (by have:=kp_ hi1;omega))) rfl ?_;refine Zz 4 ?_;exact cz_ (T_ Tryz.results89 ⟨((iv:Int),e),vv_ hi1,hi2⟩ rfl e_ zf)
theorem wt_ (db:Nat):ob_ Tryz.prog 92 92 db (fun q:Int=>Value.int .i64 q) iG_:=by
  intro d hd;refine bp_ Tryz.func92 rfl rfl Tryz.ntmps92 rfl fun v0=>?_;refine Zz 8 ?_;refine at_ (im_ db d 8 hd (by decide)) rfl e_ zf rfl (fun hb=>dk_ (long_n hb)) fun⟨⟨iv,e⟩,hi1,hi2⟩=>?_;try dsimp only
  refine d_ (hS_ gj_ Q_ rfl (td_ (by have:=kp_ hi1;omega))) rfl ?_;refine Zz 4 ?_;exact cz_ (T_ Tryz.results92 ⟨((jN_ iv),e),long_t hi1,hi2⟩ rfl e_ zf)
theorem kw_ (db:Nat):ob_ Tryz.prog 42 92 db (fun q:Int=>Value.int .i64 q) if_:=by
  intro d hd;refine bp_ Tryz.func42 rfl rfl Tryz.ntmps42 rfl fun v0=>?_;refine Zz 8 ?_;refine at_ (im_ db d 4 hd (by decide)) rfl e_ zf rfl (fun hb=>dk_ (idx_n hb)) fun⟨⟨iv,e⟩,hi1,hi2⟩=>?_;try dsimp only
  refine Zz 6 ?_;refine J_ (ep_ rfl rfl) rfl fun r1 hr1=>?_;refine at_ (ex_ r1) rfl j_ zt rfl (fun hb=>dk_ ((idx_f hi1 (fun q=>by rw[hb]at hr1;simp at hr1;omega)))) fun⟨_,hn1⟩=>?_;try dsimp only
  have hn9:iv≤2147483647:=by have z:=hr1;rw[hn1]at z;simp at z;omega
  refine Zz 5 ?_;refine d_ (hS_ gj_ Q_ rfl (od_ (by omega))) rfl (Zz 4 ?_);exact cz_ (T_ Tryz.results42 ⟨((iv:Int),e),wT_ hi1 hn9,hi2⟩ rfl e_ zf)
theorem ws_ (db:Nat):ob_ Tryz.prog 91 92 db str gB_:=by
  intro d hd;refine bp_ Tryz.func91 rfl rfl Tryz.ntmps91 rfl fun v0=>?_;refine Zz 9 ?_;refine at_ (im_ db d 2 hd (by decide)) rfl e_ zf rfl (fun hb=>dk_ (text_n hb)) fun⟨⟨iv,e⟩,hi1,hi2⟩=>?_;try dsimp only
  refine d_ (hS_ gj_ Q_ rfl (od_ (by have:=kp_ hi1;omega))) rfl ?_;refine at_ (qk_ db e iv hi2 (by have:=kp_ hi1;omega)) rfl e_ zf rfl (fun hb=>dk_ (text_f hi1 hb)) fun⟨⟨⟨ba,bc⟩,e2⟩,hb1,hb2,hb3,hb4,hb5⟩=>?_;try dsimp only
  refine d_ (rm_ nk_ oZ_ aV_ rfl zf) rfl (Zz 4 ?_);exact cz_ (T_ Tryz.results91 ⟨(_,e2),by rw[tl_ hi1 hb1,hb2],hb3⟩ rfl e_ zf)
end Go.Proofs.YtaffcjgphlhppaaGreatDoor
namespace Go.Proofs.YtaffcjgphlhppaaGreatDoor
open Go Go.Sx Go.Proofs
attribute [local irreducible] Code.wp wpList wpAnyH
open Go.Vs
theorem lA_ (g:FuncId) (db tb:Nat) (TT:TypeId) (f:Str→Option (Int×Str)) (hrd:ob_ Tryz.prog g 92 db (fun q:Int=>Value.int .i64 q) f) (d:Dst) (hd:d.ok) (os:List Nat) (cs:List Value) (hos:∀ o∈os,o<List.length cs) (pad:Option Addr) (pcap:Nat) (hol:os.length≤100):TriX Tryz.prog 88 #[.func (.func g) #[zp_ db 0] #[],.slice pad (List.length os) pcap] [(tb,.cells (List.toArray cs) TT (0,0)),(db,.cells #[.slice (Dst.ad d) (List.length (Dst.r d)) (Dst.cap d)] 92 (0,0))] [aC_ pad (List.flatMap (mX_ tb) os),aC_ (Dst.ad d) (List.flatMap u8C (Dst.r d))] (fun y:{y:List Value×Dst // ek_ f (fun q:Int=>Value.int .i64 q) os cs d.r=some (y.1,y.2.r)∧y.2.ok}=>.tuple #[]) (fun y=>[(tb,.cells (List.toArray y.1.1) TT (0,0)),(db,.cells #[.slice (Dst.ad y.1.2) (List.length (Dst.r y.1.2)) (Dst.cap y.1.2)] 92 (0,0))]) (fun y=>[aC_ (Dst.ad y.1.2) (List.flatMap u8C (Dst.r y.1.2))]) (ek_ f (fun q:Int=>Value.int .i64 q) os cs d.r=none):=by
 refine bp_ Tryz.func88 rfl rfl Tryz.ntmps88 rfl fun v0=>?_;refine Zz 8 ?_;refine aF_ (ι:={y:Nat×List Value×Dst // y.1≤List.length os∧ek_ f (fun q:Int=>Value.int .i64 q) os cs d.r=ek_ f (fun q:Int=>Value.int .i64 q) (List.drop y.1 os) y.2.1 y.2.2.r∧Dst.ok y.2.2∧List.length y.2.1=List.length cs}) (fun y=>[(0,.func (.func g) #[zp_ db 0] #[]),(6,.slice pad (List.length os) pcap),(7,.int .i64 (List.length os:Int)),(8,.int .i64 (y.1.1:Int))]) (fun y=>((tb,.cells (List.toArray y.1.2.1) TT (0,0))::((db,.cells #[.slice (Dst.ad y.1.2.2) (List.length (Dst.r y.1.2.2)) (Dst.cap y.1.2.2)] 92 (0,0))::[]))) (fun y=>[aC_ pad (List.flatMap (mX_ tb) os),aC_ (Dst.ad y.1.2.2) (List.flatMap u8C (Dst.r y.1.2.2))]) (fun y=>List.length os - y.1.1) ⟨((0:Nat),cs,d),by simp,rfl,hd,rfl⟩ zl zp zh ?_;rintro ⟨⟨i,c,e⟩,hi,hF,he,hcl⟩;dsimp only at hi hF he hcl ⊢;refine Zi 2 (fun hr1=>?_) fun hr1=>?_
 ·refine Zz 6 ?_
  exact endX (ci_ Tryz.results88 ⟨(c,e),qb_ hF (by omega),he⟩ rfl zp zf)
 obtain⟨hlx1,x1,hx1,hmx1⟩:=zge (show i<List.length os by omega);refine Zz 10 ?_;refine d_ (ab_ bB_ ty_ rfl rfl (fun v _ h=>O_ (n:=1) (kb_ tb) (by decide) (by exact h.1) hx1) (by omega) (by first|omega|(simp;done))) rfl ?_;refine d_ (bm_ (ad:=pad) Tryz.isAgg159 rfl zf (K_ (kb_ tb) hx1 0 _ rfl)) rfl (Zz 6 ?_);refine ia_ (first:=[zp_ db 0]) (cap:=[]) (vs:=[]) (hrd e he) rfl rfl zp zf rfl (fun hb=>dk_ (nU_ hF hx1 hb)) fun⟨⟨rv,e1⟩,hf1,he1⟩=>?_;dsimp only;refine Zz 1 ?_;refine lb_ aw_ rfl rfl (c_ e_) (by rw[hcl];exact hos _ hmx1) rfl rfl ?_;refine Zz 7 ?_;exact aa_ ⟨(i+1,(List.set c x1 ((fun q:Int=>Value.int .i64 q) rv)),e1),hlx1,nV_ hF hx1 hf1,he1,(by rw[List.length_set];exact hcl)⟩ (by dsimp only;omega) zl zp zf
theorem wm_ (g:FuncId) (db tb:Nat) (TT:TypeId) (f:Str→Option (Str×Str)) (hrd:ob_ Tryz.prog g 92 db str f) (d:Dst) (hd:d.ok) (os:List Nat) (cs:List Value) (hos:∀ o∈os,o<List.length cs) (pad:Option Addr) (pcap:Nat) (hol:os.length≤100):TriX Tryz.prog 90 #[.func (.func g) #[zp_ db 0] #[],.slice pad (List.length os) pcap] [(tb,.cells (List.toArray cs) TT (0,0)),(db,.cells #[.slice (Dst.ad d) (List.length (Dst.r d)) (Dst.cap d)] 92 (0,0))] [aC_ pad (List.flatMap (mX_ tb) os),aC_ (Dst.ad d) (List.flatMap u8C (Dst.r d))] (fun y:{y:List Value×Dst // ek_ f str os cs d.r=some (y.1,y.2.r)∧y.2.ok}=>.tuple #[]) (fun y=>[(tb,.cells (List.toArray y.1.1) TT (0,0)),(db,.cells #[.slice (Dst.ad y.1.2) (List.length (Dst.r y.1.2)) (Dst.cap y.1.2)] 92 (0,0))]) (fun y=>[aC_ (Dst.ad y.1.2) (List.flatMap u8C (Dst.r y.1.2))]) (ek_ f str os cs d.r=none):=by
 refine bp_ Tryz.func90 rfl rfl Tryz.ntmps90 rfl fun v0=>?_;refine Zz 8 ?_;refine aF_ (ι:={y:Nat×List Value×Dst // y.1≤List.length os∧ek_ f str os cs d.r=ek_ f str (List.drop y.1 os) y.2.1 y.2.2.r∧Dst.ok y.2.2∧List.length y.2.1=List.length cs}) (fun y=>[(0,.func (.func g) #[zp_ db 0] #[]),(6,.slice pad (List.length os) pcap),(7,.int .i64 (List.length os:Int)),(8,.int .i64 (y.1.1:Int))]) (fun y=>((tb,.cells (List.toArray y.1.2.1) TT (0,0))::((db,.cells #[.slice (Dst.ad y.1.2.2) (List.length (Dst.r y.1.2.2)) (Dst.cap y.1.2.2)] 92 (0,0))::[]))) (fun y=>[aC_ pad (List.flatMap (mX_ tb) os),aC_ (Dst.ad y.1.2.2) (List.flatMap u8C (Dst.r y.1.2.2))]) (fun y=>List.length os - y.1.1) ⟨((0:Nat),cs,d),by simp,rfl,hd,rfl⟩ zl zp zh ?_;rintro ⟨⟨i,c,e⟩,hi,hF,he,hcl⟩;dsimp only at hi hF he hcl ⊢;refine Zi 2 (fun hr1=>?_) fun hr1=>?_
 ·refine Zz 6 ?_
  exact endX (ci_ Tryz.results90 ⟨(c,e),qb_ hF (by omega),he⟩ rfl zp zf)
 obtain⟨hlx1,x1,hx1,hmx1⟩:=zge (show i<List.length os by omega);refine Zz 10 ?_;refine d_ (ab_ cq_ Tryz.sizeOf162 rfl rfl (fun v _ h=>O_ (n:=1) (kb_ tb) (by decide) (by exact h.1) hx1) (by omega) (by first|omega|(simp;done))) rfl ?_;refine d_ (bm_ (ad:=pad) Tryz.isAgg162 rfl zf (K_ (kb_ tb) hx1 0 _ rfl)) rfl (Zz 6 ?_);refine ia_ (first:=[zp_ db 0]) (cap:=[]) (vs:=[]) (hrd e he) rfl rfl zp zf rfl (fun hb=>dk_ (nU_ hF hx1 hb)) fun⟨⟨rv,e1⟩,hf1,he1⟩=>?_;dsimp only;refine Zz 1 ?_;refine lb_ X_ rfl rfl (c_ e_) (by rw[hcl];exact hos _ hmx1) rfl rfl ?_;refine Zz 7 ?_;exact aa_ ⟨(i+1,(List.set c x1 (str rv)),e1),hlx1,nV_ hF hx1 hf1,he1,(by rw[List.length_set];exact hcl)⟩ (by dsimp only;omega) zl zp zf
end Go.Proofs.YtaffcjgphlhppaaGreatDoor
namespace Go.Proofs.YtaffcjgphlhppaaGreatDoor
open Go Go.Sx Go.Proofs
attribute [local irreducible] Code.wp wpList wpAnyH
open Go.Vs
theorem oI_:Elt Tryz.prog 34 3 1 8:=jq_ Tryz.underlying34 (z:=.int .i64 0) (by kernel_rfl) rfl (by decide)
theorem jl_ (db:Nat) (d:Dst) (hd:d.ok):TriX Tryz.prog 44 #[zp_ db 0] [(db,.cells #[.slice (Dst.ad d) (List.length (Dst.r d)) (Dst.cap d)] 92 (0,0))] [aC_ (Dst.ad d) (List.flatMap u8C (Dst.r d))] (fun y:{y:Stp×Dst // jW_ d.r=some (y.1.ds,y.2.r)∧y.2.ok}=>Stp.val y.1.1) (fun y=>[(db,.cells #[.slice (Dst.ad y.1.2) (List.length (Dst.r y.1.2)) (Dst.cap y.1.2)] 92 (0,0))]) (fun y=>[aC_ y.1.1.ad (List.flatMap eS_ y.1.1.frm),aC_ (Dst.ad y.1.2) (List.flatMap u8C (Dst.r y.1.2))]) (jW_ d.r=none):=by
 refine bp_ Tryz.func44 rfl rfl Tryz.ntmps44 rfl fun v0=>?_;refine Zz 2 ?_;refine E_ bo_ rfl fun b1=>Zz 10 ?_
 refine E_ dd_ rfl fun b2=>z_ 0 aw_ rfl rfl rfl rfl rfl rfl (Zz 5 ?_)
 refine d_ (bU_ rfl rfl) rfl (Zz 4 ?_);refine af_ bB_ ty_ Tryz.zeroValue159 rfl rfl rfl rfl rfl rfl fun b3=>?_;refine bh_ (List.flatMap (mX_ b1) [0,1]) e_ rfl ?_;refine at_ (lA_ 89 db b1 36 fc_ (qh_ db) d hd [0,1] [.int .i64 0,.int .i64 0,str [],str [],str [],.int .i64 0,.int .i64 0,.int .i64 0,.slice none 0 0] (by simp) (some ⟨b3,0,none⟩) 2 (by simp)) rfl (t_ (c_ e_) (c_ e_)) zf rfl (fun hb=>dk_ ((by rw[fq_];exact re_ hb _))) fun⟨⟨c1,d1⟩,hf1,hd1⟩=>?_;try dsimp only
 obtain⟨v1,r1,hq1,hf1⟩:=ji_ hf1;obtain⟨v2,hq2,rfl⟩:=iM_ hf1;refine S_ (show List.Perm _ ((b1,.cells #[.int .i64 v1,.int .i64 v2,str [],str [],str [],.int .i64 0,.int .i64 0,.int .i64 0,.slice none 0 0] 36 (0,0))::((db,.cells #[.slice (Dst.ad d1) (List.length (Dst.r d1)) (Dst.cap d1)] 92 (0,0))::((b2,.cells #[.int .i64 0] 3 (0,0))::[]))) from .refl _) (Zz 3 ?_);refine ap_ ((b2,.cells #[.int .i64 0] 3 (0,0))::[]) zk ?_;refine o_ 2 [0,1,2,3,4,5,6,7,8,9,10] zk zs (Zz 1 ?_);refine B_ rfl (bU_ rfl rfl) rfl (Zz 10 ?_);refine i_ 11 rfl zk (af_ cq_ Tryz.sizeOf162 Tryz.zeroValue162 rfl rfl rfl rfl rfl rfl fun b4=>?_);refine bh_ (List.flatMap (mX_ b1) [2,3,4]) e_ rfl ?_;refine Zz 3 ?_;refine i_ 12 rfl zk (at_ (wm_ 91 db b1 36 gB_ (ws_ db) d1 hd1 [2,3,4] [.int .i64 v1,.int .i64 v2,str [],str [],str [],.int .i64 0,.int .i64 0,.int .i64 0,.slice none 0 0] (by simp) (some ⟨b4,0,none⟩) 3 (by simp)) rfl zp zf rfl (fun hb=>dk_ ((by rw[fq_];simp only[hq1,hq2,Option.bind_some];exact chain3 hb _))) fun⟨⟨c2,d2⟩,hf2,hd2⟩=>?_);try dsimp only
 obtain⟨v3,r3,hq3,hf2⟩:=ji_ hf2;obtain⟨v4,r4,hq4,hf2⟩:=ji_ hf2;obtain⟨v5,hq5,rfl⟩:=iM_ hf2;refine S_ (show List.Perm _ ((b1,.cells #[.int .i64 v1,.int .i64 v2,str v3,str v4,str v5,.int .i64 0,.int .i64 0,.int .i64 0,.slice none 0 0] 36 (0,0))::((db,.cells #[.slice (Dst.ad d2) (List.length (Dst.r d2)) (Dst.cap d2)] 92 (0,0))::((b2,.cells #[.int .i64 0] 3 (0,0))::[]))) from .refl _) (Zz 6 ?_);refine ap_ ((b2,.cells #[.int .i64 0] 3 (0,0))::[]) zk ?_;refine o_ 2 [0,1,2,3,4,5,6,7] zk zs (Zz 1 ?_);refine B_ rfl (bU_ rfl rfl) rfl (Zz 7 ?_);refine i_ 8 rfl zk (af_ bB_ ty_ Tryz.zeroValue159 rfl rfl rfl rfl rfl rfl fun b5=>?_);refine bh_ (List.flatMap (mX_ b1) [5,6]) e_ rfl ?_;refine Zz 3 ?_;refine i_ 9 rfl zk (at_ (lA_ 92 db b1 36 iG_ (wt_ db) d2 hd2 [5,6] [.int .i64 v1,.int .i64 v2,str v3,str v4,str v5,.int .i64 0,.int .i64 0,.int .i64 0,.slice none 0 0] (by simp) (some ⟨b5,0,none⟩) 2 (by simp)) rfl zp zf rfl (fun hb=>dk_ ((by rw[fq_];simp only[hq1,hq2,hq3,hq4,hq5,Option.bind_some];exact re_ hb _))) fun⟨⟨c3,d3⟩,hf3,hd3⟩=>?_);try dsimp only
 obtain⟨v6,r6,hq6,hf3⟩:=ji_ hf3;obtain⟨v7,hq7,rfl⟩:=iM_ hf3;refine S_ (show List.Perm _ ((b1,.cells #[.int .i64 v1,.int .i64 v2,str v3,str v4,str v5,.int .i64 v6,.int .i64 v7,.int .i64 0,.slice none 0 0] 36 (0,0))::((db,.cells #[.slice (Dst.ad d3) (List.length (Dst.r d3)) (Dst.cap d3)] 92 (0,0))::((b2,.cells #[.int .i64 0] 3 (0,0))::[]))) from .refl _) (Zz 8 ?_);refine d_ (bU_ rfl rfl) rfl (Zz 1 ?_);refine af_ bB_ ty_ Tryz.zeroValue159 rfl rfl rfl rfl rfl rfl fun b6=>?_;refine bh_ (List.flatMap (mX_ b1) [7]) e_ rfl ?_;refine at_ (lA_ 42 db b1 36 if_ (kw_ db) d3 hd3 [7] [.int .i64 v1,.int .i64 v2,str v3,str v4,str v5,.int .i64 v6,.int .i64 v7,.int .i64 0,.slice none 0 0] (by simp) (some ⟨b6,0,none⟩) 1 (by simp)) rfl zp zf rfl (fun hb=>dk_ ((by rw[fq_];simp only[hq1,hq2,hq3,hq4,hq5,hq6,hq7,Option.bind_some];exact rf_ hb _))) fun⟨⟨c4,d4⟩,hf4,hd4⟩=>?_;try dsimp only
 obtain⟨v8,hq8,rfl⟩:=iM_ hf4;refine S_ (show List.Perm _ ((b1,.cells #[.int .i64 v1,.int .i64 v2,str v3,str v4,str v5,.int .i64 v6,.int .i64 v7,.int .i64 v8,.slice none 0 0] 36 (0,0))::((db,.cells #[.slice (Dst.ad d4) (List.length (Dst.r d4)) (Dst.cap d4)] 92 (0,0))::((b2,.cells #[.int .i64 0] 3 (0,0))::[]))) from .refl _) (Zz 5 ?_);refine d_ (bU_ rfl rfl) rfl (af_ bB_ ty_ Tryz.zeroValue159 rfl rfl rfl rfl rfl rfl fun b7=>?_);refine bh_ (List.flatMap (mX_ b2) [0]) e_ rfl ?_;refine at_ (lA_ 89 db b2 3 fc_ (qh_ db) d4 hd4 [0] [.int .i64 0] (by simp) (some ⟨b7,0,none⟩) 1 (by simp)) rfl zp zf rfl (fun hb=>dk_ ((by rw[fq_];simp only[hq1,hq2,hq3,hq4,hq5,hq6,hq7,hq8,Option.bind_some];exact rf_ hb _))) fun⟨⟨c5,d5⟩,hf5,hd5⟩=>?_;try dsimp only
 obtain⟨v9,hq9,rfl⟩:=iM_ hf5;refine S_ (show List.Perm _ ((b2,.cells #[.int .i64 v9] 3 (0,0))::((db,.cells #[.slice (Dst.ad d5) (List.length (Dst.r d5)) (Dst.cap d5)] 92 (0,0))::((b1,.cells #[.int .i64 v1,.int .i64 v2,str v3,str v4,str v5,.int .i64 v6,.int .i64 v7,.int .i64 v8,.slice none 0 0] 36 (0,0))::[]))) from .refl _) (Zz 6 ?_);refine d_ (bc_ rfl rfl rfl (bW_ (by first|omega|(have:=ie_ hq8;omega)) (by first|omega|(have:=ie_ hq8;omega)))) rfl ?_;refine Zz 1 ?_;refine z_ 2 aw_ rfl rfl rfl rfl rfl rfl (Zz 10 ?_);have hbd:=tx_ hq9;refine aF_ (ι:={y:Nat×List Int×Dst×Value×Hp // (y.1:Int)≤v9∧hb_ (Int.toNat v9) d5.r=(hb_ (Int.toNat v9 - y.1) y.2.2.1.r).map (fun z=>(y.2.1++z.1,z.2))∧Dst.ok y.2.2.1∧List.length y.2.1=y.1∧zR 3 1 eS_ y.2.2.2.1 y.2.1 y.2.2.2.2}) (fun y=>[(0,zp_ db 0),(2,zp_ b1 0),(50,.int .i64 v9),(51,.int .i64 (y.1.1:Int))]) (fun y=>((b1,.cells #[.int .i64 v1,.int .i64 v2,str v3,str v4,str v5,.int .i64 v6,.int .i64 v7,.int .i64 (v8 - 1),y.1.2.2.2.1] 36 (0,0))::((db,.cells #[.slice (Dst.ad y.1.2.2.1) (List.length (Dst.r y.1.2.2.1)) (Dst.cap y.1.2.2.1)] 92 (0,0))::y.1.2.2.2.2))) (fun y=>[aC_ (Dst.ad y.1.2.2.1) (List.flatMap u8C (Dst.r y.1.2.2.1))]) (fun y=>Int.toNat v9 - y.1.1) ⟨((0:Nat),([]:List Int),d5,(.slice none 0 0),[]),(by dsimp only;omega),(by simp),hd5,rfl,(bk_.nil _ _)⟩ zl (t_ (c_ (c_ e_)) (c_ e_)) zf ?_;rintro ⟨⟨i,l,e,sv_F,H_F⟩,hi,hI,he,hll,hr_F⟩;dsimp only at hi hI he hll hr_F ⊢;refine Zi 2 (fun hr1=>?_) fun hr1=>?_
 ·refine Zz 7 ?_
  have hI9:=uA_ hI (by omega);refine dv_ hr_F (c_ ad_) fun fad fcap hfad hcfad hmfad hzfad=>?_;subst hfad;refine Zz 2 ?_;refine z_ 0 bl_ rfl rfl rfl rfl rfl rfl (Zz 3 ?_);have hfin:jW_ d.r=some (Stp.ds (Stp.mk v1 (Fc.mk v2 v3 v4 v5 v6 v7) (v8 - 1) fad fcap l),e.r):=by rw[fq_];simp only[hq1,hq2,hq3,hq4,hq5,hq6,hq7,hq8,hq9,Option.bind_some];rw[hI9];rfl
  exact cz_ (eQ_ ⟨((Stp.mk v1 (Fc.mk v2 v3 v4 v5 v6 v7) (v8 - 1) fad fcap l),e),hfin,he⟩ (fun aa v h1 h2=>cf_ (us:=Stp.cells (Stp.mk v1 (Fc.mk v2 v3 v4 v5 v6 v7) (v8 - 1) fad fcap l)) 0 Tryz.results44 Tryz.isAgg36 bl_ rfl rfl rfl aa v h1 h2) (c_ e_) zf)
 refine Zz 8 ?_;refine ap_ ([]) zk ?_;refine o_ 6 [0,2] zk zs (Zz 3 ?_);refine bV_ 1 3 rfl rfl zk ?_ ?_
 ·refine Zz 4 ?_
  refine i_ 3 rfl zk (at_ (kw_ db e he) rfl zp zf rfl (fun hb=>dk_ ((by rw[fq_];simp only[hq1,hq2,hq3,hq4,hq5,hq6,hq7,hq8,hq9,Option.bind_some];rw[nM_ hI (by omega) hb];rfl))) fun⟨⟨rv,e1⟩,hi1,he1⟩=>?_);try dsimp only
  refine Zz 3 ?_;refine i_ 4 rfl zk (af_ aQ_ aw_ dd_ rfl rfl rfl rfl rfl rfl fun b8=>Zz 3 ?_);refine i_ 5 rfl zk (aJ_ (news:=List.flatMap eS_ [rv]) oI_ hr_F rfl rfl zp rfl (bF_ 0 rfl) (fun u hu=>be_ mA_ hu) (by simp only[maxLen];omega) (by omega) rfl fun sv1 Hr1 hr1=>?_);refine S_ List.perm_append_comm ?_;have hq1:=zsa hr1;refine Zz 3 ?_;refine o_ 1 [6] zk zs (Zz 2 ?_);refine i_ 7 rfl zk (bI_ 2 hq1 wN_ rfl rfl rfl rfl (Zz 6 ?_));refine d_ (bc_ rfl rfl rfl (bW_ (by first|omega|(have:=ie_ hq8;omega)) (by first|omega|(have:=ie_ hq8;omega)))) rfl ?_;refine Zz 3 ?_;exact aa_ ⟨(i+1,(l++[rv]),e1,sv1,Hr1),(by omega),kP_ hI (by omega) hi1,he1,(by rw[List.length_append,hll];rfl),hq1⟩ (by dsimp only;omega) zl (t_ (c_ (c_ e_)) (t_ (c_ e_) ad_)) zf
 refine at_ (kw_ db e he) rfl zp zf rfl (fun hb=>dk_ ((by rw[fq_];simp only[hq1,hq2,hq3,hq4,hq5,hq6,hq7,hq8,hq9,Option.bind_some];rw[nM_ hI (by omega) hb];rfl))) fun⟨⟨rv,e1⟩,hi1,he1⟩=>?_;try dsimp only
 refine Zz 3 ?_;refine bV_ 1 4 rfl rfl zk ?_ ?_
 ·refine Zz 4 ?_
  refine i_ 4 rfl zk (af_ aQ_ aw_ dd_ rfl rfl rfl rfl rfl rfl fun b9=>Zz 3 ?_);refine i_ 5 rfl zk (aJ_ (news:=List.flatMap eS_ [rv]) oI_ hr_F rfl rfl zp rfl (bF_ 0 rfl) (fun u hu=>be_ mA_ hu) (by simp only[maxLen];omega) (by omega) rfl fun sv2 Hr2 hr2=>?_);refine S_ List.perm_append_comm ?_;have hq2:=zsa hr2;refine Zz 3 ?_;refine o_ 1 [6] zk zs (Zz 2 ?_);refine i_ 7 rfl zk (bI_ 2 hq2 wN_ rfl rfl rfl rfl (Zz 6 ?_));refine d_ (bc_ rfl rfl rfl (bW_ (by first|omega|(have:=ie_ hq8;omega)) (by first|omega|(have:=ie_ hq8;omega)))) rfl ?_;refine Zz 3 ?_;exact aa_ ⟨(i+1,(l++[rv]),e1,sv2,Hr2),(by omega),kP_ hI (by omega) hi1,he1,(by rw[List.length_append,hll];rfl),hq2⟩ (by dsimp only;omega) zl (t_ (c_ (c_ e_)) (t_ (c_ e_) ad_)) zf
 refine af_ aQ_ aw_ dd_ rfl rfl rfl rfl rfl rfl fun b10=>Zz 3 ?_
 refine i_ 1 rfl zk (Zz 4 ?_);refine i_ 5 rfl zk (aJ_ (news:=List.flatMap eS_ [rv]) oI_ hr_F rfl rfl zp rfl (bF_ 0 rfl) (fun u hu=>be_ mA_ hu) (by simp only[maxLen];omega) (by omega) rfl fun sv3 Hr3 hr3=>?_);refine S_ List.perm_append_comm ?_;have hq3:=zsa hr3;refine Zz 3 ?_;refine o_ 1 [6] zk zs (Zz 2 ?_);refine i_ 7 rfl zk (bI_ 2 hq3 wN_ rfl rfl rfl rfl (Zz 6 ?_));refine d_ (bc_ rfl rfl rfl (bW_ (by first|omega|(have:=ie_ hq8;omega)) (by first|omega|(have:=ie_ hq8;omega)))) rfl ?_;refine Zz 3 ?_;exact aa_ ⟨(i+1,(l++[rv]),e1,sv3,Hr3),(by omega),kP_ hI (by omega) hi1,he1,(by rw[List.length_append,hll];rfl),hq3⟩ (by dsimp only;omega) zl (t_ (c_ (c_ e_)) (t_ (c_ e_) ad_)) zf
end Go.Proofs.YtaffcjgphlhppaaGreatDoor
namespace Go.Proofs.YtaffcjgphlhppaaGreatDoor
open Go Go.Sx Go.Proofs
attribute [local irreducible] Code.wp wpList wpAnyH
open Go.Vs
theorem uT_ {v:Vw} {F F':Hp} {b c:Nat} {x y:Value} (hF:F.Perm ((b,.cells #[x] 27 (0,0))::(c,.cells #[y] 31 (0,0))::F')) (t:TypeId) (u:Value) (hs:v.sat F) :
    CallsD Tryz.prog 41 #[zp_ b 0,zp_ c 0] (.panicking (mY_ t u)) v.w fun e u' w'=>e=.returned (.tuple #[])∧u'=.panicking [{ v:=.iface t u,recovered:=true }]∧∃ v':Vw,v'.w=w'∧v'.sat ((b,.cells #[.slice none 0 0] 27 (0,0))::(c,.cells #[.int .i64 120] 31 (0,0))::F')∧v.to F v' ((b,.cells #[.slice none 0 0] 27 (0,0))::(c,.cells #[.int .i64 120] 31 (0,0))::F'):=by
  have h2:=hs.perm hF;have hb:=(h2.own _ List.mem_cons_self).1
  have hbc:b≠c:=by
    have:=h2.nodup;simp only[List.map_cons,List.nodup_cons,List.mem_cons,not_or]at this;exact this.1.1
  have hcb:v.w.cell? ⟨b,0,none⟩=some x:=by simp[World.cell?,hb]
  have hzb:v.w.frozen? ⟨b,0,none⟩=false:=by simp[World.frozen?,hb]
  have hset:((v.w.setCell ⟨b,0,none⟩ (.slice none 0 0)).heap)[b]? = some (.cells #[.slice none 0 0] 27 (0,0)):=by
    simp[World.setCell,Array.getElem?_modify,hb]
  have hoth:∀ k,k≠b→((v.w.setCell ⟨b,0,none⟩ (.slice none 0 0)).heap)[k]? = v.w.heap[k]? := fun k hk=>by
    simp[World.setCell,Array.getElem?_modify,Ne.symm hk]
  obtain⟨g1,g2⟩:=fO_ (i:=0) (o':=.cells #[.slice none 0 0] 27 (0,0)) (w':=v.w.setCell ⟨b,0,none⟩ (.slice none 0 0)) h2 rfl rfl rfl rfl (Nat.le_refl _) (by simp[World.setCell]) hset hoth;simp only[List.set_cons_zero]at g1 g2;generalize hw:v.w.setCell ⟨b,0,none⟩ (.slice none 0 0)=w1 at g1 g2
  have hc:=(g1.own _ (List.mem_cons_of_mem _ List.mem_cons_self)).1;simp only at hc;have hcc:w1.cell? ⟨c,0,none⟩=some y:=by simp[World.cell?,hc]
  have hzc:w1.frozen? ⟨c,0,none⟩=false:=by simp[World.frozen?,hc]
  have hset2:((w1.setCell ⟨c,0,none⟩ (.int .i64 120)).heap)[c]? = some (.cells #[.int .i64 120] 31 (0,0)):=by
    simp[World.setCell,Array.getElem?_modify,hc]
  have hoth2:∀ k,k≠c→((w1.setCell ⟨c,0,none⟩ (.int .i64 120)).heap)[k]? = w1.heap[k]? := fun k hk=>by
    simp[World.setCell,Array.getElem?_modify,Ne.symm hk]
  obtain⟨k1,k2⟩:=fO_ (i:=1) (o':=.cells #[.int .i64 120] 31 (0,0)) (w':=w1.setCell ⟨c,0,none⟩ (.int .i64 120)) g1 rfl rfl rfl rfl (Nat.le_refl _) (by simp[World.setCell]) hset2 hoth2;simp only[List.set_cons_succ,List.set_cons_zero]at k1 k2;refine callsD_of_wpS Tryz.func41 rfl fun c₀ cs hu=>?_
  apply wpS_seq
  apply wpS_region
  simp[wpOpsS,go_sem,recoverD,hu,mY_,Tryz.ntmps41,Exit.thenS]
  refine wpS_cond (t:=true) (by simp[Act.eval,Array.replicate]) ?_;simp only[if_true]
  apply wpS_region
  simp[wpOpsS,go_sem,Instr.build,hcb,hzb,hw,hcc,hzc,bodyPostS,results,Tryz.results41,jt_,bw_,dZ_,wO_]
  exact⟨_,rfl,k1,(g2.trans k2).permL hF.symm⟩
theorem wj_ (b c:Nat) (w:World):CallsD Tryz.prog 41 #[zp_ b 0,zp_ c 0] .returning w fun e u' w'=>e=.returned (.tuple #[])∧u'=.returning∧w'=w:=by
  refine callsD_of_wpS Tryz.func41 rfl fun c₀ cs hu=>?_
  apply wpS_seq
  apply wpS_region
  simp[wpOpsS,go_sem,recoverD,hu,Tryz.ntmps41,Exit.thenS]
  refine wpS_cond (t:=false) (by simp[Act.eval,Array.replicate]) ?_;simp only[Bool.false_eq_true,if_false];refine wpS_of_wp (wp_skip ?_);cases c₀
  simp_all [bodyPostS,results,Tryz.results41]
theorem uy_ (b c:Nat) (w:World):(invoke (.fn (.func 41) #[zp_ b 0,zp_ c 0]) #[]).run Tryz.prog w=.ok (.enter 41 #[zp_ b 0,zp_ c 0]) w:=by
  exact callable (P:=Tryz.prog) Tryz.func41 rfl rfl #[zp_ b 0,zp_ c 0] w
def vc_ (r:Str) (l:List Stp) (e:Int):Prop:=(qZ_ r=some (l.map Stp.ds)∧e=0)∨(qZ_ r=none∧l=[]∧e=120)
theorem fJ_ {n i:Nat} {l:List Ds} {r:Str} {X:Option (List Ds×Str)} (hX:X=(fp_ (n - i) r).map fun z=>(l++z.1,z.2)) (hi:i<n) (h:jW_ r=none):X=none:=by
  obtain⟨k,hk⟩:∃ k,n - i=k+1:=⟨n - i - 1,by omega⟩;rw[hX,hk,fp_,h];rfl
theorem dV_ {n i:Nat} {l:List Ds} {r r':Str} {v:Ds} {X:Option (List Ds×Str)} (hX:X=(fp_ (n - i) r).map fun z=>(l++z.1,z.2)) (hi:i<n) (h:jW_ r=some (v,r')):X=(fp_ (n - (i+1)) r').map fun z=>((l++[v])++z.1,z.2):=by
  obtain⟨k,hk⟩:∃ k,n - i=k+1:=⟨n - i - 1,by omega⟩;rw[hX,hk,show n - (i+1)=k by omega,fp_,h,Option.bind_some,Option.map_map]
  congr 1
  funext z
  simp
theorem np_ {n i:Nat} {l:List Ds} {r:Str} {X:Option (List Ds×Str)} (hX:X=(fp_ (n - i) r).map fun z=>(l++z.1,z.2)) (hi:n≤i):X=some (l,r):=by
  rw[hX,show n - i=0 by omega];simp[fp_]
theorem panDg {P:Program} {fr:Fr} {N:Nat} {fn:Func} {ι:Type} {v0:Vw} {H0 F HF' F':Hp} {ret:ι→Value} {H':ι→Hp} {Γ':ι→List Fct} {fv:Fn} {cap dargs:Array Value} {g:FuncId} {cargs:Array Value} (x:ι)
    (hi:∀ w,(invoke (.fn fv cap) dargs).run P w=.ok (.enter g cargs) w)
    (hc:∀ (v:Vw) t u,v.sat F→CallsD P g cargs (.panicking (mY_ t u)) v.w fun e u' w'=>e=.returned (.tuple #[])∧u'=.panicking [{ v:=.iface t u,recovered:=true }]∧∃ v':Vw,v'.w=w'∧v'.sat HF'∧v.to F v' HF')
    (hx:∀ (a:Act) (v:Vw),Fr.sat ⟨N,[{ target:=.fn fv cap,args:=dargs }]⟩ fr a→v.sat HF'→(results fn a.tmps).run P v.w=.ok (ret x) v.w) (hH:HF'.Perm (H' x++F')) (hΓ:∀ v,aB_ (Γ' x) v) :
    ky_ (bodyPostD P fn (ho_ v0 H0 ret H' Γ')) ⟨N,[{ target:=.fn fv cap,args:=dargs }]⟩ v0 H0 fr F:=fun a v t u h1 h2 h3=>by
  show Leaves P fn a.tmps _ a.defers (.panicking (mY_ t u)) v.w
  rw[h1.defers];refine leaves_cons (by simp) (hi v.w) ?_;refine (hc v t u h2).mono ?_;rintro e u' w' ⟨rfl,rfl,v',rfl,k1,k2⟩;have h3':=h3.trans k2
  exact⟨ret x,hx a v' h1 k1,x,v',rfl,rfl,(k1.perm hH).sub,hΓ v',h3'.subR fun b hb=>by
    have:b∈(H' x++F').map Prod.fst:=by rw[List.map_append];exact List.mem_append_left _ hb
    exact (hH.map Prod.fst).mem_iff.2 this⟩
theorem rx_ {P:Program} {N:Nf} {fr:Fr} {H:Hp} {fn:Func} {t s b c:Nat} {ty ty2 T T2:TypeId} {u u2:Value} (i j:Nat) (hr:fn.results=#[.cell t ty,.cell s ty2]) (ha:∀ w,(isAgg ty).run P w=.ok true w) (hs:∀ w,(sizeOf ty).run P w=.ok 1 w) (ha2:∀ w,(isAgg ty2).run P w=.ok false w)
    (hx:Fr.get fr t=some (zp_ b 0)) (hx2:Fr.get fr s=some (zp_ c 0)) (hi:H[i]? = some (b,.cells #[u] T (0,0))) (hj:H[j]? = some (c,.cells #[u2] T2 (0,0))) (a:Act) (v:Vw) (h1:Fr.sat N fr a) (h2:v.sat H) :
    (results fn a.tmps).run P v.w=.ok (.tuple #[.agg #[u],u2]) v.w:=by
  have e:=h1.val t _ hx;have e2:=h1.val s _ hx2;have hl:=cK_ (t:=ty) (w:=v.w) (b:=b) (off:=0) (cs:=[u]) ha hs rfl (fun j y hj=>by rw[Nat.zero_add,fu_ h2 hi];simpa using hj);have hb:=(h2.own _ (List.mem_of_getElem? hj)).1;have hc:v.w.cell? ⟨c,0,none⟩=some u2:=by simp[World.cell?,hb]
  simp[results,hr,e,e2,asAddr,hl,co_ ha2 hc]
theorem Stp.cells_one (s:Stp):s.cells.all Value.oneCell'=true:=rfl
theorem hX_ {v0:Vw} {H0 F F':Hp} {fr:Fr} {b c:Nat} {x y:Value} {r:Str} (hX:qZ_ r=none) (hx:Fr.get fr 2=some (zp_ b 0)) (hx2:Fr.get fr 3=some (zp_ c 0)) (hF:F.Perm ((b,.cells #[x] 27 (0,0))::(c,.cells #[y] 31 (0,0))::F')) :
    ky_ (bodyPostD Tryz.prog Tryz.f17 (ho_ v0 H0 (fun y:{y:(List Stp×Option Addr×Nat)×Int // vc_ r y.1.1 y.2∧y.1.1.length≤y.1.2.2∧y.1.2.2≤maxLen∧(y.1.2.1=none→y.1.2.2=0)}=>.tuple #[.agg #[.slice y.1.1.2.1 (List.length y.1.1.1) y.1.1.2.2],.int .i64 y.1.2]) (fun _=>[]) (fun y=>[aC_ y.1.1.2.1 (List.flatMap Stp.cells y.1.1.1),es_ y.1.1.1]))) ⟨34,[{ target:=.fn (.func 41) #[zp_ b 0,zp_ c 0],args:=#[] }]⟩ v0 H0 fr F :=
  panDg (F':=(b,.cells #[.slice none 0 0] 27 (0,0))::(c,.cells #[.int .i64 120] 31 (0,0))::F') ⟨(([],none,0),120),.inr ⟨hX,rfl,rfl⟩,Nat.le_refl _,Nat.zero_le _,fun _=>rfl⟩ (uy_ b c) (fun v t u hs=>uT_ hF t u hs)
    (fun a v h1 h2=>rx_ 0 1 Tryz.results17 Tryz.isAgg27 dZ_ Tryz.isAgg31 hx hx2 rfl rfl a v h1 h2) (.refl _) (fun v=>⟨.inl rfl,iV_,trivial⟩)
theorem fS_:Elt Tryz.prog 25 36 9 112:=jq_ Tryz.underlying25 (z:=.agg #[.int .i64 0,.int .i64 0,str [],str [],str [],.int .i64 0,.int .i64 0,.int .i64 0,.slice none 0 0]) (by kernel_rfl) rfl (by decide)
theorem strt92:hN_ Tryz.prog 92 [(0,1)] [.slice none 0 0]:=⟨_,Tryz.zeroValue92,dp_,fun w=>by simp[Tryz.sizeOf39]⟩
theorem qj_ (r:Str) (ad:Option Addr) (cap:Nat) (hok:Dst.ok (Dst.mk ad cap r)):Tri Tryz.prog 17 #[.slice ad (List.length r) cap] [] [aC_ ad (List.flatMap u8C r)] (fun y:{y:(List Stp×Option Addr×Nat)×Int // vc_ r y.1.1 y.2∧y.1.1.length≤y.1.2.2∧y.1.2.2≤maxLen∧(y.1.2.1=none→y.1.2.2=0)}=>.tuple #[.agg #[.slice y.1.1.2.1 (List.length y.1.1.1) y.1.1.2.2],.int .i64 y.1.2]) (fun _=>[]) (fun y=>[aC_ y.1.1.2.1 (List.flatMap Stp.cells y.1.1.1),es_ y.1.1.1]):=by
 refine jR_ Tryz.func17 rfl rfl Tryz.ntmps17 rfl fun v0=>?_;refine Zz 2 ?_;refine E_ jt_ rfl fun b1=>E_ Tryz.zeroValue31 rfl fun b2=>Zz 4 ?_
 refine d_ (bU_ rfl rfl) rfl (nA_ (N:=34) (D:=[]) rfl rfl rfl (Zz 5 ?_));refine d_ (F_ strt92 rfl rfl) rfl (ah_ rfl rfl fun b3=>Zz 6 ?_);refine at_ (kw_ b3 (Dst.mk ad cap r) hok) rfl e_ zf rfl (fun hb=>hX_ (r:=r) ((by rw[fD_,hb];rfl)) rfl rfl (t_ (c_ e_) e_)) fun⟨⟨nv,d1⟩,hq1,hd1⟩=>?_;try dsimp only
 refine Zz 6 ?_;refine J_ (ep_ rfl rfl) rfl fun r1 hr1=>?_;refine at_ (ex_ r1) rfl j_ zt rfl (fun hb=>hX_ (r:=r) ((by rw[fD_,hq1,Option.bind_some,if_neg (fun q=>by rw[hb]at hr1;simp at hr1;omega)])) rfl rfl (t_ (c_ (c_ e_)) (c_ e_))) fun⟨_,hn1⟩=>?_;try dsimp only
 have hn1:nv≤65536:=by have z:=hr1;rw[hn1]at z;simp at z;omega
 refine Zz 10 ?_;have hbd:=ie_ hq1;refine aF_ (ι:={y:Nat×List Stp×Dst×Value×Hp // (y.1:Int)≤nv∧fp_ (Int.toNat nv) d1.r=(fp_ (Int.toNat nv - y.1) y.2.2.1.r).map (fun z=>(List.map Stp.ds y.2.1++z.1,z.2))∧Dst.ok y.2.2.1∧List.length y.2.1=y.1∧zR 36 9 Stp.cells y.2.2.2.1 y.2.1 y.2.2.2.2}) (fun y=>[(2,zp_ b1 0),(3,zp_ b2 0),(4,zp_ b3 0),(15,.int .i64 nv),(16,.int .i64 (y.1.1:Int))]) (fun y=>((b1,.cells #[y.1.2.2.2.1] 27 (0,0))::((b2,.cells #[.int .i64 0] 31 (0,0))::((b3,.cells #[.slice (Dst.ad y.1.2.2.1) (List.length (Dst.r y.1.2.2.1)) (Dst.cap y.1.2.2.1)] 92 (0,0))::y.1.2.2.2.2)))) (fun y=>[aC_ (Dst.ad y.1.2.2.1) (List.flatMap u8C (Dst.r y.1.2.2.1)),es_ y.1.2.1]) (fun y=>Int.toNat nv - y.1.1) ⟨((0:Nat),([]:List Stp),d1,(.slice none 0 0),[]),(by dsimp only;omega),(by simp),hd1,rfl,(bk_.nil _ _)⟩ zl zp (fun v _ h=>by exact⟨h.1,iV_,trivial⟩) ?_;rintro ⟨⟨i,l,e,sv_S,H_S⟩,hi,hI,he,hll,hr_S⟩;dsimp only at hi hI he hll hr_S ⊢;refine Zi 2 (fun hr2=>?_) fun hr2=>?_
 ·refine Zz 13 ?_
  refine J_ (aM_ rfl rfl) rfl fun r3 hr3=>?_;refine at_ (ex_ r3) rfl j_ zt rfl (fun hb=>hX_ (r:=r) ((by rw[fD_,hq1,Option.bind_some,if_pos hn1,np_ hI (by omega),Option.bind_some,if_neg (fun q=>by dsimp only at q;rw[q,hb]at hr3;simp at hr3)])) rfl rfl zp) fun⟨_,hn2⟩=>?_;try dsimp only
  have hn2:e.r=[]:=by have z:=hr3;rw[hn2]at z;simpa using z
  refine Zz 3 ?_;refine dv_ hr_S (c_ (c_ ad_)) fun sad scap hsad hcsad hmsad hzsad=>?_;subst hsad;refine Zz 2 ?_;refine z_ 0 dZ_ rfl rfl rfl rfl rfl rfl (z_ 1 wO_ rfl rfl rfl rfl rfl rfl (Zz 3 ?_));have hfin:vc_ r l 0:=.inl ⟨by rw[fD_,hq1,Option.bind_some,if_pos hn1,np_ hI (by omega),Option.bind_some,if_pos hn2],rfl⟩;exact tL_ (F:=_) ⟨((l,sad,scap),0),hfin,hcsad,hmsad,hzsad⟩ (uy_ b1 b2) (wj_ b1 b2) (fun a v h1 h2=>rx_ 0 1 Tryz.results17 Tryz.isAgg27 dZ_ Tryz.isAgg31 rfl rfl rfl rfl a v h1 h2) j_ zf
 refine Zz 8 ?_;refine ap_ ([]) zk ?_;refine bV_ 0 2 rfl rfl zk ?_ ?_
 ·refine Zz 4 ?_
  refine bV_ 1 2 rfl rfl zk ?_ ?_
  ·refine Zz 4 ?_
   refine i_ 2 rfl zk (Zz 4 ?_);refine i_ 3 rfl zk (at_ (jl_ b3 e he) rfl zp zf rfl (fun hb=>hX_ (r:=r) ((by rw[fD_,hq1,Option.bind_some,if_pos hn1,fJ_ hI (by omega) hb];rfl)) rfl rfl zp) fun⟨⟨sp,e1⟩,hs1,he1⟩=>?_);try dsimp only
   refine Zz 3 ?_;refine i_ 4 rfl zk (af_ aE_ bl_ bo_ rfl rfl rfl rfl rfl rfl fun b4=>Zz 3 ?_);refine i_ 5 rfl zk (aJ_ (news:=List.flatMap Stp.cells [sp]) fS_ hr_S rfl rfl zp rfl (bF_ 0 rfl) (fun u hu=>be_ Stp.cells_one hu) (by simp only[maxLen];omega) (by omega) rfl fun sv1 Hr1 hr1=>?_);refine S_ List.perm_append_comm ?_;have hq1:=zsa hr1;refine Zz 3 ?_;refine i_ 6 rfl zk (Zz 4 ?_);refine i_ 7 rfl zk (bI_ 2 hq1 cn_ rfl rfl rfl rfl (Zz 10 ?_));exact aa_ ⟨(i+1,(l++[sp]),e1,sv1,Hr1),(by omega),(by rw[List.map_append];exact dV_ hI (by omega) hs1),he1,(by rw[List.length_append,hll];rfl),hq1⟩ (by dsimp only;omega) zl (t_ (c_ (c_ e_)) (t_ (c_ (c_ e_)) (t_ (c_ e_) ad_))) (fun v _ h=>by exact⟨h.2.1,dU_ h.2.2.2.1 h.1,trivial⟩)
  refine Zz 4 ?_;refine bV_ 1 3 rfl rfl zk ?_ ?_
  ·refine Zz 4 ?_
   refine i_ 3 rfl zk (at_ (jl_ b3 e he) rfl zp zf rfl (fun hb=>hX_ (r:=r) ((by rw[fD_,hq1,Option.bind_some,if_pos hn1,fJ_ hI (by omega) hb];rfl)) rfl rfl zp) fun⟨⟨sp,e1⟩,hs1,he1⟩=>?_);try dsimp only
   refine Zz 3 ?_;refine i_ 4 rfl zk (af_ aE_ bl_ bo_ rfl rfl rfl rfl rfl rfl fun b5=>Zz 3 ?_);refine i_ 5 rfl zk (aJ_ (news:=List.flatMap Stp.cells [sp]) fS_ hr_S rfl rfl zp rfl (bF_ 0 rfl) (fun u hu=>be_ Stp.cells_one hu) (by simp only[maxLen];omega) (by omega) rfl fun sv2 Hr2 hr2=>?_);refine S_ List.perm_append_comm ?_;have hq2:=zsa hr2;refine Zz 3 ?_;refine i_ 6 rfl zk (Zz 4 ?_);refine i_ 7 rfl zk (bI_ 2 hq2 cn_ rfl rfl rfl rfl (Zz 10 ?_));exact aa_ ⟨(i+1,(l++[sp]),e1,sv2,Hr2),(by omega),(by rw[List.map_append];exact dV_ hI (by omega) hs1),he1,(by rw[List.length_append,hll];rfl),hq2⟩ (by dsimp only;omega) zl (t_ (c_ (c_ e_)) (t_ (c_ (c_ e_)) (t_ (c_ e_) ad_))) (fun v _ h=>by exact⟨h.2.1,dU_ h.2.2.2.1 h.1,trivial⟩)
  refine at_ (jl_ b3 e he) rfl zp zf rfl (fun hb=>hX_ (r:=r) ((by rw[fD_,hq1,Option.bind_some,if_pos hn1,fJ_ hI (by omega) hb];rfl)) rfl rfl zp) fun⟨⟨sp,e1⟩,hs1,he1⟩=>?_;try dsimp only
  refine Zz 3 ?_;refine bV_ 1 4 rfl rfl zk ?_ ?_
  ·refine Zz 4 ?_
   refine i_ 4 rfl zk (af_ aE_ bl_ bo_ rfl rfl rfl rfl rfl rfl fun b6=>Zz 3 ?_);refine i_ 5 rfl zk (aJ_ (news:=List.flatMap Stp.cells [sp]) fS_ hr_S rfl rfl zp rfl (bF_ 0 rfl) (fun u hu=>be_ Stp.cells_one hu) (by simp only[maxLen];omega) (by omega) rfl fun sv3 Hr3 hr3=>?_);refine S_ List.perm_append_comm ?_;have hq3:=zsa hr3;refine Zz 3 ?_;refine i_ 6 rfl zk (Zz 4 ?_);refine i_ 7 rfl zk (bI_ 2 hq3 cn_ rfl rfl rfl rfl (Zz 10 ?_));exact aa_ ⟨(i+1,(l++[sp]),e1,sv3,Hr3),(by omega),(by rw[List.map_append];exact dV_ hI (by omega) hs1),he1,(by rw[List.length_append,hll];rfl),hq3⟩ (by dsimp only;omega) zl (t_ (c_ (c_ e_)) (t_ (c_ (c_ e_)) (t_ (c_ e_) ad_))) (fun v _ h=>by exact⟨h.2.1,dU_ h.2.2.2.1 h.1,trivial⟩)
  refine af_ aE_ bl_ bo_ rfl rfl rfl rfl rfl rfl fun b7=>Zz 3 ?_
  refine i_ 1 rfl zk (Zz 4 ?_);refine i_ 5 rfl zk (aJ_ (news:=List.flatMap Stp.cells [sp]) fS_ hr_S rfl rfl zp rfl (bF_ 0 rfl) (fun u hu=>be_ Stp.cells_one hu) (by simp only[maxLen];omega) (by omega) rfl fun sv4 Hr4 hr4=>?_);refine S_ List.perm_append_comm ?_;have hq4:=zsa hr4;refine Zz 3 ?_;refine i_ 6 rfl zk (Zz 4 ?_);refine i_ 7 rfl zk (bI_ 2 hq4 cn_ rfl rfl rfl rfl (Zz 10 ?_));exact aa_ ⟨(i+1,(l++[sp]),e1,sv4,Hr4),(by omega),(by rw[List.map_append];exact dV_ hI (by omega) hs1),he1,(by rw[List.length_append,hll];rfl),hq4⟩ (by dsimp only;omega) zl (t_ (c_ (c_ e_)) (t_ (c_ (c_ e_)) (t_ (c_ e_) ad_))) (fun v _ h=>by exact⟨h.2.1,dU_ h.2.2.2.1 h.1,trivial⟩)
 refine Zz 4 ?_;refine bV_ 0 3 rfl rfl zk ?_ ?_
 ·refine Zz 4 ?_
  refine bV_ 1 3 rfl rfl zk ?_ ?_
  ·refine Zz 4 ?_
   refine i_ 3 rfl zk (at_ (jl_ b3 e he) rfl zp zf rfl (fun hb=>hX_ (r:=r) ((by rw[fD_,hq1,Option.bind_some,if_pos hn1,fJ_ hI (by omega) hb];rfl)) rfl rfl zp) fun⟨⟨sp,e1⟩,hs1,he1⟩=>?_);try dsimp only
   refine Zz 3 ?_;refine i_ 4 rfl zk (af_ aE_ bl_ bo_ rfl rfl rfl rfl rfl rfl fun b8=>Zz 3 ?_);refine i_ 5 rfl zk (aJ_ (news:=List.flatMap Stp.cells [sp]) fS_ hr_S rfl rfl zp rfl (bF_ 0 rfl) (fun u hu=>be_ Stp.cells_one hu) (by simp only[maxLen];omega) (by omega) rfl fun sv5 Hr5 hr5=>?_);refine S_ List.perm_append_comm ?_;have hq5:=zsa hr5;refine Zz 3 ?_;refine i_ 6 rfl zk (Zz 4 ?_);refine i_ 7 rfl zk (bI_ 2 hq5 cn_ rfl rfl rfl rfl (Zz 10 ?_));exact aa_ ⟨(i+1,(l++[sp]),e1,sv5,Hr5),(by omega),(by rw[List.map_append];exact dV_ hI (by omega) hs1),he1,(by rw[List.length_append,hll];rfl),hq5⟩ (by dsimp only;omega) zl (t_ (c_ (c_ e_)) (t_ (c_ (c_ e_)) (t_ (c_ e_) ad_))) (fun v _ h=>by exact⟨h.2.1,dU_ h.2.2.2.1 h.1,trivial⟩)
  refine at_ (jl_ b3 e he) rfl zp zf rfl (fun hb=>hX_ (r:=r) ((by rw[fD_,hq1,Option.bind_some,if_pos hn1,fJ_ hI (by omega) hb];rfl)) rfl rfl zp) fun⟨⟨sp,e1⟩,hs1,he1⟩=>?_;try dsimp only
  refine Zz 3 ?_;refine bV_ 1 4 rfl rfl zk ?_ ?_
  ·refine Zz 4 ?_
   refine i_ 4 rfl zk (af_ aE_ bl_ bo_ rfl rfl rfl rfl rfl rfl fun b9=>Zz 3 ?_);refine i_ 5 rfl zk (aJ_ (news:=List.flatMap Stp.cells [sp]) fS_ hr_S rfl rfl zp rfl (bF_ 0 rfl) (fun u hu=>be_ Stp.cells_one hu) (by simp only[maxLen];omega) (by omega) rfl fun sv6 Hr6 hr6=>?_);refine S_ List.perm_append_comm ?_;have hq6:=zsa hr6;refine Zz 3 ?_;refine i_ 6 rfl zk (Zz 4 ?_);refine i_ 7 rfl zk (bI_ 2 hq6 cn_ rfl rfl rfl rfl (Zz 10 ?_));exact aa_ ⟨(i+1,(l++[sp]),e1,sv6,Hr6),(by omega),(by rw[List.map_append];exact dV_ hI (by omega) hs1),he1,(by rw[List.length_append,hll];rfl),hq6⟩ (by dsimp only;omega) zl (t_ (c_ (c_ e_)) (t_ (c_ (c_ e_)) (t_ (c_ e_) ad_))) (fun v _ h=>by exact⟨h.2.1,dU_ h.2.2.2.1 h.1,trivial⟩)
  refine af_ aE_ bl_ bo_ rfl rfl rfl rfl rfl rfl fun b10=>Zz 3 ?_
  refine i_ 1 rfl zk (Zz 4 ?_);refine i_ 5 rfl zk (aJ_ (news:=List.flatMap Stp.cells [sp]) fS_ hr_S rfl rfl zp rfl (bF_ 0 rfl) (fun u hu=>be_ Stp.cells_one hu) (by simp only[maxLen];omega) (by omega) rfl fun sv7 Hr7 hr7=>?_);refine S_ List.perm_append_comm ?_;have hq7:=zsa hr7;refine Zz 3 ?_;refine i_ 6 rfl zk (Zz 4 ?_);refine i_ 7 rfl zk (bI_ 2 hq7 cn_ rfl rfl rfl rfl (Zz 10 ?_));exact aa_ ⟨(i+1,(l++[sp]),e1,sv7,Hr7),(by omega),(by rw[List.map_append];exact dV_ hI (by omega) hs1),he1,(by rw[List.length_append,hll];rfl),hq7⟩ (by dsimp only;omega) zl (t_ (c_ (c_ e_)) (t_ (c_ (c_ e_)) (t_ (c_ e_) ad_))) (fun v _ h=>by exact⟨h.2.1,dU_ h.2.2.2.1 h.1,trivial⟩)
 refine at_ (jl_ b3 e he) rfl zp zf rfl (fun hb=>hX_ (r:=r) ((by rw[fD_,hq1,Option.bind_some,if_pos hn1,fJ_ hI (by omega) hb];rfl)) rfl rfl zp) fun⟨⟨sp,e1⟩,hs1,he1⟩=>?_;try dsimp only
 refine Zz 3 ?_;refine bV_ 0 4 rfl rfl zk ?_ ?_
 ·refine Zz 4 ?_
  refine bV_ 1 4 rfl rfl zk ?_ ?_
  ·refine Zz 4 ?_
   refine i_ 4 rfl zk (af_ aE_ bl_ bo_ rfl rfl rfl rfl rfl rfl fun b11=>Zz 3 ?_);refine i_ 5 rfl zk (aJ_ (news:=List.flatMap Stp.cells [sp]) fS_ hr_S rfl rfl zp rfl (bF_ 0 rfl) (fun u hu=>be_ Stp.cells_one hu) (by simp only[maxLen];omega) (by omega) rfl fun sv8 Hr8 hr8=>?_);refine S_ List.perm_append_comm ?_;have hq8:=zsa hr8;refine Zz 3 ?_;refine i_ 6 rfl zk (Zz 4 ?_);refine i_ 7 rfl zk (bI_ 2 hq8 cn_ rfl rfl rfl rfl (Zz 10 ?_));exact aa_ ⟨(i+1,(l++[sp]),e1,sv8,Hr8),(by omega),(by rw[List.map_append];exact dV_ hI (by omega) hs1),he1,(by rw[List.length_append,hll];rfl),hq8⟩ (by dsimp only;omega) zl (t_ (c_ (c_ e_)) (t_ (c_ (c_ e_)) (t_ (c_ e_) ad_))) (fun v _ h=>by exact⟨h.2.1,dU_ h.2.2.2.1 h.1,trivial⟩)
  refine af_ aE_ bl_ bo_ rfl rfl rfl rfl rfl rfl fun b12=>Zz 3 ?_
  refine i_ 1 rfl zk (Zz 4 ?_);refine i_ 5 rfl zk (aJ_ (news:=List.flatMap Stp.cells [sp]) fS_ hr_S rfl rfl zp rfl (bF_ 0 rfl) (fun u hu=>be_ Stp.cells_one hu) (by simp only[maxLen];omega) (by omega) rfl fun sv9 Hr9 hr9=>?_);refine S_ List.perm_append_comm ?_;have hq9:=zsa hr9;refine Zz 3 ?_;refine i_ 6 rfl zk (Zz 4 ?_);refine i_ 7 rfl zk (bI_ 2 hq9 cn_ rfl rfl rfl rfl (Zz 10 ?_));exact aa_ ⟨(i+1,(l++[sp]),e1,sv9,Hr9),(by omega),(by rw[List.map_append];exact dV_ hI (by omega) hs1),he1,(by rw[List.length_append,hll];rfl),hq9⟩ (by dsimp only;omega) zl (t_ (c_ (c_ e_)) (t_ (c_ (c_ e_)) (t_ (c_ e_) ad_))) (fun v _ h=>by exact⟨h.2.1,dU_ h.2.2.2.1 h.1,trivial⟩)
 refine af_ aE_ bl_ bo_ rfl rfl rfl rfl rfl rfl fun b13=>Zz 3 ?_
 refine i_ 0 rfl zk (Zz 4 ?_);refine i_ 1 rfl zk (Zz 4 ?_);refine i_ 5 rfl zk (aJ_ (news:=List.flatMap Stp.cells [sp]) fS_ hr_S rfl rfl zp rfl (bF_ 0 rfl) (fun u hu=>be_ Stp.cells_one hu) (by simp only[maxLen];omega) (by omega) rfl fun sv10 Hr10 hr10=>?_);refine S_ List.perm_append_comm ?_;have hq10:=zsa hr10;refine Zz 3 ?_;refine i_ 6 rfl zk (Zz 4 ?_);refine i_ 7 rfl zk (bI_ 2 hq10 cn_ rfl rfl rfl rfl (Zz 10 ?_));exact aa_ ⟨(i+1,(l++[sp]),e1,sv10,Hr10),(by omega),(by rw[List.map_append];exact dV_ hI (by omega) hs1),he1,(by rw[List.length_append,hll];rfl),hq10⟩ (by dsimp only;omega) zl (t_ (c_ (c_ e_)) (t_ (c_ (c_ e_)) (t_ (c_ e_) ad_))) (fun v _ h=>by exact⟨h.2.1,dU_ h.2.2.2.1 h.1,trivial⟩)
end Go.Proofs.YtaffcjgphlhppaaGreatDoor
namespace Go.Proofs.YtaffcjgphlhppaaGreatDoor
open Go Go.Sx Go.Proofs
attribute [local irreducible] Code.wp wpList wpAnyH
open Go.Vs
theorem qt_ {α:Type} {l:List α} {i:Nat} {x:α} {P:α→Prop} (h:∀ z∈List.take i l,P z) (hx:l[i]? = some x) (hp:P x):∀ z∈List.take (i+1) l,P z:=fun z hz=>by
 rw[List.take_add_one,hx]at hz;rcases List.mem_append.1 hz with hz|hz
 ·exact h z hz
 simp only[Option.toList_some,List.mem_singleton]at hz;subst hz;exact hp
theorem mv_ (a b:Str):Fn0 Tryz.prog 29 #[str a,str b] (Fc.val (W_ a b)):=by
  refine w_ Tryz.func29 rfl rfl Tryz.ntmps29 rfl fun v0=>?_;refine Zz 2 ?_;refine E_ ag_ rfl fun b1=>Zz 6 ?_
  refine d_ (F_ gd_ rfl rfl) rfl (z_ 0 y_ rfl rfl rfl rfl rfl rfl (Zz 3 ?_));exact eQ_ () (fun aa v h1 h2=>cf_ (us:=Fc.cells (W_ a b)) 0 Tryz.results29 aS_ y_ rfl rfl rfl aa v h1 h2) j_ zt
theorem nG_ (a r b:Str):Fn0 Tryz.prog 28 #[str a,str r,str b] (Fc.val (az_ a r b)):=by
  refine w_ Tryz.func28 rfl rfl Tryz.ntmps28 rfl fun v0=>?_;refine Zz 2 ?_;refine E_ ag_ rfl fun b1=>Zz 7 ?_
  refine d_ (F_ gd_ rfl rfl) rfl (z_ 0 y_ rfl rfl rfl rfl rfl rfl (Zz 3 ?_));exact eQ_ () (fun aa v h1 h2=>cf_ (us:=Fc.cells (az_ a r b)) 0 Tryz.results28 aS_ y_ rfl rfl rfl aa v h1 h2) j_ zt
theorem tp_:hN_ Tryz.prog 36 [(0,1),(1,6),(7,1),(8,1)] [.int .i64 0,.int .i64 0,str [],str [],str [],.int .i64 0,.int .i64 0,.int .i64 0,.slice none 0 0]:=⟨_,bo_,ch_,fun w=>by simp[aw_,y_,wN_]⟩
theorem jV_ (k:Int) (f:Fc) (l:List Int) (fad:Option Addr) (fcap:Nat) (fs:List Fc) (gad:Option Addr) (gcap:Nat) (w:Int) (hfl:fs.length≤10000000) (hfr:l.length≤1000000) (hfs:∀ x∈fs,x.sml) (hsf:f.sml) (hw:(if fE_ [] fs (Stp.mk k f (-1) none 0 l)=true then 0 else 120)=w):Tri Tryz.prog 30 #[.int .i64 k,Fc.val f,.slice fad (List.length l) fcap,.slice gad (List.length fs) gcap,.int .i64 w] [] [aC_ fad (List.flatMap eS_ l),aC_ gad (List.flatMap Fc.cells fs),iu_] (fun _:Unit=>.bool true) (fun _=>[]) (fun _=>[]):=by
  refine w_ Tryz.func30 rfl rfl Tryz.ntmps30 rfl fun v0=>?_;refine Zz 2 ?_;refine ah_ rfl rfl fun b1=>Zz 9 ?_
  refine d_ (F_ tp_ rfl rfl) rfl (n_ (step_c [] none 0 fs gad gcap (Stp.mk k f (-1) fad fcap l) (by decide) (fun x hx=>by simp at hx) hfl hfr hfs hsf) rfl j_ (fun v _ h=>by exact⟨.inl rfl,h.2.1,h.1,h.2.2.1,trivial⟩) rfl fun⟨e1,he1⟩=>?_);dsimp only;have hE1:e1=w:=by rcases he1 with⟨q,_⟩|⟨_,q⟩;exact absurd (by decide +kernel) q;exact q.trans hw
  refine Zz 1 ?_;refine J_ (aM_ rfl rfl) rfl fun r1 hr1=>Zz 4 ?_
  exact T_ Tryz.results30 () (l_ rfl (by rw[← hr1];simp[hE1])) j_ zt
theorem wn_ (l:List Stp) (ad:Option Addr) (cap:Nat) (hl:l.length≤1256584717424) (hbig:∀ s∈l,s.fact.lim):Tri Tryz.prog 11 #[.agg #[.slice ad (List.length l) cap]] [] [aC_ ad (List.flatMap Stp.cells l),es_ l] (fun b:{b:Bool // b=true→l.length≤60∧∀ s∈l,s.few}=>.bool b.1) (fun _=>[]) (fun _=>[]):=by
 refine w_ Tryz.func11 rfl rfl Tryz.ntmps11 rfl fun v0=>?_;refine Zz 2 ?_;refine ah_ rfl rfl fun b1=>Zi 9 (fun hr1=>?_) fun hr1=>?_
 ·refine Zz 12 ?_
  refine aF_ (ι:={y:Nat // y≤List.length l∧(∀ z∈List.take y l,Stp.few z)}) (fun y=>[(1,zp_ b1 0),(2,.bool false),(3,.int .i64 (y.1:Int))]) (fun y=>((b1,.cells #[.slice ad (List.length l) cap] 27 (0,0))::[])) (fun y=>[aC_ ad (List.flatMap Stp.cells l),es_ l]) (fun y=>List.length l - y.1) ⟨(0:Nat),by simp,by simp⟩ zl e_ zh ?_;rintro ⟨i,hi_i,hall⟩;dsimp only at hi_i hall ⊢;refine Zi 7 (fun hr2=>?_) fun hr2=>?_
  ·refine Zz 11 ?_
   exact T_ Tryz.results11 ⟨true,fun _=>⟨by omega,by rwa [List.take_of_length_le (by omega)]at hall⟩⟩ rfl j_ zt
  obtain⟨hlx1,x1,hx1,hmx1⟩:=zge (show i<List.length l by omega);obtain⟨q1,q2,q3⟩:=hbig x1 hmx1;refine Zz 14 ?_;refine E_ bo_ rfl fun b2=>z_ 0 bl_ rfl rfl rfl rfl rfl rfl (Zi 7 (fun hr3=>?_) fun hr3=>?_)
  ·refine Zz 8 ?_
   refine d_ (cj_ V_ rfl) rfl (Zz 7 ?_);refine d_ (cj_ V_ rfl) rfl (Zz 9 ?_);refine d_ (cj_ V_ rfl) rfl (Zi 3 (fun hr4=>?_) fun hr4=>?_)
   ·refine Zz 12 ?_
    exact aa_ ⟨i+1,hlx1,qt_ hall hx1 ⟨by omega,by omega⟩⟩ (by dsimp only;omega) zl (c_ e_) zh
   refine Zz 10 ?_;exact T_ Tryz.results11 ⟨false,fun h=>by cases h⟩ rfl j_ zt
  refine Zz 26 ?_;exact T_ Tryz.results11 ⟨false,fun h=>by cases h⟩ rfl j_ zt
 refine Zz 9 ?_;exact T_ Tryz.results11 ⟨false,fun h=>by cases h⟩ rfl j_ zt
theorem vG_ (Y:List Stp) (yad:Option Addr) (ycap:Nat) (Z:List Stp) (zad:Option Addr) (zcap:Nat) (hS:SameS Y Z) (hl:Y.length≤1000000) (hfl:∀ s∈Y,s.frm.length≤1000000):Tri Tryz.prog 18 #[.agg #[.slice yad (List.length Y) ycap],.agg #[.slice zad (List.length Z) zcap]] [] [aC_ yad (List.flatMap Stp.cells Y),es_ Y,aC_ zad (List.flatMap Stp.cells Z),es_ Z] (fun _:Unit=>.bool true) (fun _=>[]) (fun _=>[]):=by
 refine w_ Tryz.func18 rfl rfl Tryz.ntmps18 rfl fun v0=>?_;have hlen:=hS.len;refine Zz 2 ?_;refine ah_ rfl rfl fun b1=>ah_ rfl rfl fun b2=>Zi 12 (fun hr1=>?_) fun hr1=>?_
 ·refine Zz 12 ?_
  refine aF_ (ι:={y:Nat // y≤List.length Y}) (fun y=>[(2,zp_ b1 0),(3,zp_ b2 0),(4,.bool false),(5,.int .i64 (y.1:Int))]) (fun y=>((b2,.cells #[.slice zad (List.length Z) zcap] 27 (0,0))::((b1,.cells #[.slice yad (List.length Y) ycap] 27 (0,0))::[]))) (fun y=>[aC_ yad (List.flatMap Stp.cells Y),es_ Y,aC_ zad (List.flatMap Stp.cells Z),es_ Z]) (fun y=>List.length Y - y.1) ⟨(0:Nat),by simp⟩ zl zp zh ?_;rintro ⟨i,hi_i⟩;dsimp only at hi_i ⊢;refine Zi 7 (fun hr2=>?_) fun hr2=>?_
  ·refine Zz 11 ?_
   exact T_ Tryz.results18 () rfl j_ zt
  obtain⟨hlx1,x1,hx1,hmx1⟩:=zge (show i<List.length Y by omega);have hlz:i<List.length Z:=by have:=hS.len;omega
  have hly1:i<List.length Z:=hlz;obtain⟨y1,hy1⟩:∃ e0,Z[i]? = some e0:=⟨_,List.getElem?_eq_getElem hly1⟩;have hmy1:y1∈Z:=List.mem_of_getElem? hy1;obtain⟨he1,he2,he3,he4⟩:=hS.eq i x1 y1 hx1 hy1;have hf1:=hfl x1 hmx1;refine Zz 14 ?_;refine E_ bo_ rfl fun b3=>z_ 0 bl_ rfl rfl rfl rfl rfl rfl (Zz 9 ?_)
  refine E_ bo_ rfl fun b4=>z_ 0 bl_ rfl rfl rfl rfl rfl rfl (Zi 9 (fun hr3=>?_) fun hr3=>?_)
  ·refine Zz 10 ?_
   refine J_ (gt_ (p:=x1.fact) (q:=y1.fact) rfl rfl) rfl fun r4 hr4=>Zz 2 ?_
   cases r4
   ·replace hr4:=zdf hr4
    refine Zi 9 (fun hr5=>?_) fun hr5=>?_
    ·refine Zi 15 (fun hr6=>?_) fun hr6=>?_
     ·refine Zz 12 ?_
      refine aF_ (ι:={y:Nat // y≤List.length x1.frm}) (fun y=>[(2,zp_ b1 0),(3,zp_ b2 0),(4,.bool false),(5,.int .i64 (i:Int)),(6,zp_ b3 0),(7,zp_ b4 0),(8,.int .i64 (y.1:Int))]) (fun y=>((b4,.cells #[.int .i64 y1.rule,.int .i64 (Fc.kind y1.fact),str (Fc.a y1.fact),str (Fc.b y1.fact),str (Fc.r y1.fact),.int .i64 (Fc.lo y1.fact),.int .i64 (Fc.hi y1.fact),.int .i64 y1.piece,.slice y1.ad (List.length y1.frm) y1.cap] 36 (0,0))::((b3,.cells #[.int .i64 x1.rule,.int .i64 (Fc.kind x1.fact),str (Fc.a x1.fact),str (Fc.b x1.fact),str (Fc.r x1.fact),.int .i64 (Fc.lo x1.fact),.int .i64 (Fc.hi x1.fact),.int .i64 x1.piece,.slice x1.ad (List.length x1.frm) x1.cap] 36 (0,0))::((b2,.cells #[.slice zad (List.length Z) zcap] 27 (0,0))::((b1,.cells #[.slice yad (List.length Y) ycap] 27 (0,0))::[]))))) (fun y=>[aC_ yad (List.flatMap Stp.cells Y),es_ Y,aC_ zad (List.flatMap Stp.cells Z),es_ Z]) (fun y=>List.length x1.frm - y.1) ⟨(0:Nat),by simp⟩ zl zp zh ?_;rintro ⟨j,hi_j⟩;dsimp only at hi_j ⊢;refine Zi 7 (fun hr7=>?_) fun hr7=>?_
      ·refine Zz 11 ?_
       exact aa_ ⟨i+1,hlx1⟩ (by dsimp only;omega) zl zp zh
      obtain⟨hlx2,x2,hx2,hmx2⟩:=zge (show j<List.length x1.frm by omega);have hy2:y1.frm[j]? = some x2:=he4▸hx2;have hly2:j<List.length y1.frm:=by rw[← he4];omega
      refine Zz 9 ?_;refine o_ 0 [0,1,2,3,4,5,6,7,8,9,10] zk zs (Zz 3 ?_);refine B_ rfl (ab_ aQ_ aw_ rfl rfl (fun v _ h=>O_ (n:=1) bK_ (by decide) (by exact (h.2.1 x1 hmx1)) hx2) (by omega) (by first|omega|(simp;done))) rfl ?_;refine B_ rfl (bm_ (ad:=x1.ad) aO_ rfl (fun v _ h=>by exact (h.2.1 x1 hmx1)) (K_ bK_ hx2 0 _ rfl)) rfl (Zz 3 ?_);refine B_ rfl (ab_ aQ_ aw_ rfl rfl (fun v _ h=>O_ (n:=1) bK_ (by decide) (by exact (h.2.2.2.1 y1 hmy1)) hy2) (by omega) (by first|omega|(simp;done))) rfl ?_;refine B_ rfl (bm_ (ad:=y1.ad) aO_ rfl (fun v _ h=>by exact (h.2.2.2.1 y1 hmy1)) (K_ bK_ hy2 0 _ rfl)) rfl ?_;refine Zi 0 (fun hr8=>?_) fun hr8=>?_
      ·refine Zz 12 ?_
       exact aa_ ⟨j+1,hlx2⟩ (by dsimp only;omega) zl zp zh
      first|exact absurd he1 hr8|exact absurd he2 hr8|exact absurd he3 hr8|exact absurd rfl hr8|(exfalso;rw[he4]at hr8;exact hr8 rfl)
     first|exact absurd he1 hr6|exact absurd he2 hr6|exact absurd he3 hr6|exact absurd rfl hr6|(exfalso;rw[he4]at hr6;exact hr6 rfl)
    first|exact absurd he1 hr5|exact absurd he2 hr5|exact absurd he3 hr5|exact absurd rfl hr5|(exfalso;rw[he4]at hr5;exact hr5 rfl)
   replace hr4:=zdt hr4;first|exact absurd he1 hr4|exact absurd he2 hr4|exact absurd he3 hr4|exact absurd rfl hr4|(exfalso;rw[he4]at hr4;exact hr4 rfl)
  first|exact absurd he1 hr3|exact absurd he2 hr3|exact absurd he3 hr3|exact absurd rfl hr3|(exfalso;rw[he4]at hr3;exact hr3 rfl)
 exact absurd (congrArg Nat.cast hS.len) hr1
end Go.Proofs.YtaffcjgphlhppaaGreatDoor
namespace Go.Proofs.YtaffcjgphlhppaaGreatDoor
open Go Go.Sx Go.Proofs
attribute [local irreducible] Code.wp wpList wpAnyH
open Go.Vs
theorem ok_ax7:Ax.ok (Ax.mk 7 false (Con.mk 0 [] 0 0 none 0 []) (Con.mk 0 [] 0 0 none 0 []) none 0 [] [114] [] []):=by constructor<;>simp[Con.ok,Con.ok.oks]
theorem uF_:Ax.check (Ax.mk 7 false (Con.mk 0 [] 0 0 none 0 []) (Con.mk 0 [] 0 0 none 0 []) none 0 [] [114] [] [])=0:=by decide +kernel
theorem vQ_ {v:Vw}:(Ax.memF (Ax.mk 7 false (Con.mk 0 [] 0 0 none 0 []) (Con.mk 0 [] 0 0 none 0 []) none 0 [] [114] [] [])).p v:=⟨⟨.inl rfl,trivial⟩,⟨.inl rfl,trivial⟩,.inl rfl⟩
theorem wl_ (x:Ax) (hok:x.ok) (hc:x.check=0) (hk:x.kind=7):Tri Tryz.prog 26 #[Ax.val x] [] [Ax.memF x,dK_] (fun _:Unit=>.tuple #[.slice none 0 0,.slice none 0 0,.int .i64 22]) (fun _=>[]) (fun _=>[]):=by
 refine w_ Tryz.func26 rfl rfl Tryz.ntmps26 rfl fun v0=>?_;refine Zz 2 ?_;refine ah_ rfl rfl fun b1=>Zz 9 ?_
 refine n_ (gq_ x hok) rfl j_ zf rfl fun _=>Zi 6 (fun hr1=>?_) fun hr1=>?_
 ·refine Zz 7 ?_
  refine n_ (gO_ (-1)) rfl j_ zt rfl fun⟨kb,bm0⟩=>?_;dsimp only;refine S_ (@List.perm_append_comm _ _ [_]) (Zz 6 ?_);refine n_ (oi_ kb) rfl j_ zt rfl fun⟨bk,bl,br⟩=>?_;dsimp only;refine Zi 23 (fun hr2=>?_) fun hr2=>?_
  ·refine Zi 5 (fun hr3=>?_) fun hr3=>?_
   ·refine Zi 6 (fun hr4=>?_) fun hr4=>?_
    ·refine Zi 6 (fun hr5=>?_) fun hr5=>?_
     ·refine Zi 6 (fun hr6=>?_) fun hr6=>?_
      ·refine Zi 6 (fun hr7=>?_) fun hr7=>?_
       ·refine Zz 12 ?_
        exact ka_ eI_ () rfl rfl rfl rfl j_ zt
       exfalso;omega
      exfalso;omega
     exfalso;omega
    exfalso;omega
   exfalso;omega
  exfalso;omega
 exact absurd hc hr1
theorem sr_:Tri Tryz.prog 25 #[.slice none 0 0] [] [] (fun _:Unit=>.tuple #[.slice none 0 0,.int .i64 0]) (fun _=>[]) (fun _=>[]):=by
 refine w_ Tryz.func25 rfl rfl Tryz.ntmps25 rfl fun v0=>?_;refine Zz 11 ?_;refine d_ (bG_ (dI_ rfl rfl) (show _=Value.bool false from congrArg Value.bool (by decide))) rfl (Zz 14 ?_);refine aF_ (ι:={y:Nat // y≤List.length ([]:List Ax)}) (fun y=>[(0,.slice none 0 0),(2,.slice none 0 0),(3,.int .i64 0),(13,.slice none 0 0),(14,.int .i64 0),(15,.int .i64 (y.1:Int))]) (fun y=>([])) (fun y=>[]) (fun y=>List.length ([]:List Ax) - y.1) ⟨(0:Nat),by simp⟩ zl j_ zt ?_;rintro ⟨i,hi_i⟩;dsimp only at hi_i ⊢;refine Zi 2 (fun hr1=>?_) fun hr1=>?_
 ·refine Zz 15 ?_
  refine aF_ (ι:={y:Nat // y≤List.length ([]:List Ax)}) (fun y=>[(0,.slice none 0 0),(2,.slice none 0 0),(3,.int .i64 0),(25,.slice none 0 0),(26,.int .i64 0),(27,.int .i64 (y.1:Int))]) (fun y=>([])) (fun y=>[]) (fun y=>List.length ([]:List Ax) - y.1) ⟨(0:Nat),by simp⟩ zl j_ zt ?_;rintro ⟨j,hi_j⟩;dsimp only at hi_j ⊢;refine Zi 2 (fun hr2=>?_) fun hr2=>?_
  ·refine Zz 14 ?_
   exact mW_ tO_ () rfl rfl rfl j_ zt
  exfalso;omega
 exfalso;omega
theorem src0_c (x:Ax) (hok:x.ok) (hc:x.check=0) (hk:x.kind=7):Tri Tryz.prog 24 #[.slice none 0 0,Ax.val x,.slice none 0 0] [] [Ax.memF x,dK_] (fun _:Unit=>.int .i64 22) (fun _=>[]) (fun _=>[]):=by
  refine w_ Tryz.func24 rfl rfl Tryz.ntmps24 rfl fun v0=>?_;refine Zz 2 ?_;refine ah_ rfl rfl fun b1=>Zz 6 ?_
  refine n_ (sr_) rfl j_ zt rfl fun _=>Zz 11 ?_
  refine d_ (bG_ (cy_ rfl rfl) (show _=Value.bool false from congrArg Value.bool (by decide))) rfl (Zz 8 ?_);refine n_ (wl_ x hok hc hk) rfl j_ zf rfl fun _=>Zz 13 ?_
  refine d_ (bG_ (cy_ rfl rfl) (show _=Value.bool true from congrArg Value.bool (by decide))) rfl (Zz 10 ?_);exact T_ iA_ () rfl j_ zt
theorem uI_ (l:List Stp) (ad:Option Addr) (cap:Nat) (L:Str) (e:Int) (hE:il_ l=(L,e)) (hll:l.length≤10000000) (hfr:∀ s∈l,s.frm.length≤1000000) (hsf:∀ s∈l,s.fact.sml):Tri Tryz.prog 15 #[.agg #[.slice ad l.length cap]] [] [aC_ ad (List.flatMap Stp.cells l),es_ l] (fun y:{y:Value×Hp // zR 5 1 u8C y.1 L y.2}=>.tuple #[y.1.1,.int .i64 e]) (fun y=>y.1.2) (fun _=>[]):=by
  have h:=uG_ l ad cap hll hfr hsf;rw[hE]at h;exact h
def hx_:Stp:=(Stp.mk 1 (W_ [42] [42]) (-1) none 0 [])
theorem sn_e0:il_ []=([0,0,0,0],0):=by decide +kernel
theorem wM_:il_ [hx_]=((il_ [hx_]).1,0):=by
  have:(il_ [hx_]).2=0:=by decide +kernel
  rw[← this]
theorem sn_d1 {Y:List Stp} {e:Int} (h:vc_ (il_ [hx_]).1 Y e):e=0∧SameS Y [hx_]:=by
 have hd:=wu_ wM_ (by intro s hs;rw[List.mem_singleton]at hs;subst hs;decide);rcases h with⟨h1,h2⟩|⟨h1,_⟩
 ·rw[hd,Option.some.injEq]at h1;exact⟨h2,tD_ h1.symm⟩
 rw[hd]at h1;cases h1
theorem sn_d0 {Y:List Stp} {e:Int} (h:vc_ [0] Y e):e=120:=by
 rcases h with⟨h1,h2⟩|⟨_,_,h⟩
 ·rw[show qZ_ [0]=none from rfl]at h1;cases h1
 exact h
theorem sn_c1 {e:Int} (h:nh_ [] (W_ [42] [42]) [hx_] e):e=0:=by
  refine nY_ h (.inr (.inr ⟨by decide +kernel,by decide,.inl ⟨fun j s hj=>?_,⟨hx_,rfl,rfl⟩,rfl⟩⟩))
  match j with
  | 0=>simp only[List.getElem?_cons_zero,Option.some.injEq]at hj;subst hj;decide +kernel
  | j+1=>simp at hj
theorem sn_c2 {e:Int} (h:nh_ [] (W_ [42] [42]) [] e):e=120 :=
  nY_ h (.inr (.inr ⟨by decide +kernel,by decide,.inr ⟨fun q=>(by obtain⟨_,t,ht,_⟩:=q;simp at ht),rfl⟩⟩))
theorem iO_ {l:List Fc} (h:l.all (fun f=>Nat.ble f.a.length 17592186044414&&(Nat.ble f.b.length 17592186044414&&Nat.ble f.r.length 17592186044414))=true):∀ x∈l,x.sml:=fun x hx=>by
  have:=List.all_eq_true.1 h x hx;simp only[Bool.and_eq_true,Nat.ble_eq]at this;exact⟨this.1,this.2.1,this.2.2⟩
theorem lP_ {v:Vw}:(es_ [hx_]).p v:=fun x hx=>by rw[List.mem_singleton]at hx;subst hx;exact .inl rfl
theorem tC_ {Y Z:List Stp} (h:SameS Y Z) {n:Nat} (hz:∀ s∈Z,s.frm.length≤n):∀ s∈Y,s.frm.length≤n:=fun s hs=>by
  obtain⟨i,hi⟩:=List.getElem?_of_mem hs;have hl:=(List.getElem?_eq_some_iff.1 hi).1;have hz':=List.getElem?_eq_getElem (show i<Z.length by have:=h.len;omega);rw[(h.eq i s _ hi hz').2.2.2];exact hz _ (List.getElem_mem _)
theorem strt58:hN_ Tryz.prog 58 [(0,1),(1,1),(2,5),(7,5),(12,1),(13,1),(14,1),(15,1)] [.int .i64 0,.bool false,.int .i64 0,str [],.int .i64 0,.int .i64 0,.slice none 0 0,.int .i64 0,str [],.int .i64 0,.int .i64 0,.slice none 0 0,.slice none 0 0,str [],str [],str []]:=⟨_,Tryz.zeroValue58,x_,fun w=>by simp[aw_,fK_,X_,eA_,q_]⟩
theorem qz_:hN_ Tryz.prog 27 [(0,1)] [.slice none 0 0]:=⟨_,jt_,bw_,fun w=>by simp[cn_]⟩
set_option maxHeartbeats 1000000 in
theorem tB_:Tri Tryz.prog 9 #[] [] [iu_,dK_] (fun _:Unit=>.bool true) (fun _=>[]) (fun _=>[]):=by
 refine w_ Tryz.func9 rfl rfl Tryz.ntmps9 rfl fun v0=>?_;refine Zz 7 ?_;refine n_ (nG_ [65] [114] [66]) rfl j_ zt rfl fun _=>n_ (mv_ [66] [33]) rfl j_ zt rfl fun _=>af_ G_ y_ ag_ rfl rfl rfl rfl rfl rfl fun b1=>?_;refine bh_ (List.flatMap Fc.cells [(az_ [65] [114] [66]),(W_ [66] [33])]) e_ rfl ?_;refine Zz 6 ?_;refine n_ (mv_ [65] [33]) rfl j_ zt rfl fun _=>af_ aQ_ aw_ dd_ rfl rfl rfl rfl rfl rfl fun b2=>?_;refine bh_ (List.flatMap eS_ [0,1]) e_ rfl ?_;refine Zz 1 ?_;refine n_ (jV_ 9 (W_ [65] [33]) [0,1] (some ⟨b2,0,none⟩) 2 [(az_ [65] [114] [66]),(W_ [66] [33])] (some ⟨b1,0,none⟩) 2 0 (by decide) (by decide) (iO_ (by decide +kernel)) (by decide) (by decide +kernel)) rfl j_ zf rfl fun _=>d_ (bn_ rfl) rfl (Zz 2 ?_)
 refine n_ (mv_ [65] [33]) rfl j_ zt rfl fun _=>Y_ rfl rfl (af_ aQ_ aw_ dd_ rfl rfl rfl rfl rfl rfl fun b3=>?_)
 refine bh_ (List.flatMap eS_ [1,0]) e_ rfl ?_;refine Zz 3 ?_;refine n_ (jV_ 9 (W_ [65] [33]) [1,0] (some ⟨b3,0,none⟩) 2 [(az_ [65] [114] [66]),(W_ [66] [33])] (some ⟨b1,0,none⟩) 2 120 (by decide) (by decide) (iO_ (by decide +kernel)) (by decide) (by decide +kernel)) rfl j_ zf rfl fun _=>Y_ rfl rfl (d_ (bn_ rfl) rfl (Zz 3 ?_))
 refine n_ (nG_ [65] [114] [65]) rfl j_ zt rfl fun _=>Y_ rfl rfl (af_ aQ_ aw_ dd_ rfl rfl rfl rfl rfl rfl fun b4=>?_)
 refine bh_ (List.flatMap eS_ [0]) e_ rfl ?_;refine Y_ rfl rfl (n_ (mv_ [65] [33]) rfl j_ zt rfl fun _=>Y_ rfl rfl (af_ G_ y_ ag_ rfl rfl rfl rfl rfl rfl fun b5=>?_));refine bh_ (List.flatMap Fc.cells [(W_ [65] [33])]) e_ rfl ?_;refine Y_ rfl rfl (n_ (jV_ 15 (az_ [65] [114] [65]) [0] (some ⟨b4,0,none⟩) 1 [(W_ [65] [33])] (some ⟨b5,0,none⟩) 1 0 (by decide) (by decide) (iO_ (by decide +kernel)) (by decide) (by decide +kernel)) rfl j_ zf rfl fun _=>Y_ rfl rfl (d_ (bn_ rfl) rfl (Zz 8 ?_)));refine d_ (F_ gd_ rfl rfl) rfl (E_ ag_ rfl fun b6=>z_ 0 y_ rfl rfl rfl rfl rfl rfl (Zz 4 ?_));refine d_ (F_ gd_ rfl rfl) rfl (E_ ag_ rfl fun b7=>z_ 0 y_ rfl rfl rfl rfl rfl rfl (Zz 6 ?_));refine af_ aQ_ aw_ dd_ rfl rfl rfl rfl rfl rfl fun b8=>?_;refine bh_ (List.flatMap eS_ [0]) e_ rfl ?_;refine Zz 1 ?_;refine af_ G_ y_ ag_ rfl rfl rfl rfl rfl rfl fun b9=>?_;refine bh_ (List.flatMap Fc.cells [(Fc.mk 3 [65] [] [102] 3 5)]) e_ rfl ?_;refine n_ (jV_ 16 (Fc.mk 3 [65] [] [102] 0 9) [0] (some ⟨b8,0,none⟩) 1 [(Fc.mk 3 [65] [] [102] 3 5)] (some ⟨b9,0,none⟩) 1 0 (by decide) (by decide) (iO_ (by decide +kernel)) (by decide) (by decide +kernel)) rfl j_ zf rfl fun _=>d_ (bn_ rfl) rfl (Zz 4 ?_)
 refine af_ aQ_ aw_ dd_ rfl rfl rfl rfl rfl rfl fun b10=>?_;refine bh_ (List.flatMap eS_ [0]) e_ rfl ?_;refine Zz 3 ?_;refine af_ G_ y_ ag_ rfl rfl rfl rfl rfl rfl fun b11=>?_;refine bh_ (List.flatMap Fc.cells [(Fc.mk 3 [65] [] [102] 0 9)]) e_ rfl ?_;refine Y_ rfl rfl (n_ (jV_ 16 (Fc.mk 3 [65] [] [102] 3 5) [0] (some ⟨b10,0,none⟩) 1 [(Fc.mk 3 [65] [] [102] 0 9)] (some ⟨b11,0,none⟩) 1 120 (by decide) (by decide) (iO_ (by decide +kernel)) (by decide) (by decide +kernel)) rfl j_ zf rfl fun _=>Y_ rfl rfl (d_ (bn_ rfl) rfl (Zz 8 ?_)));refine n_ (mv_ [42] [42]) rfl j_ zt rfl fun _=>d_ (F_ tp_ rfl rfl) rfl (af_ aE_ bl_ bo_ rfl rfl rfl rfl rfl rfl fun b12=>?_)
 refine bh_ (List.flatMap Stp.cells [(Stp.mk 1 (W_ [42] [42]) (-1) none 0 ([]:List Int))]) e_ rfl ?_;refine d_ (F_ qz_ rfl rfl) rfl (E_ jt_ rfl fun b13=>z_ 0 dZ_ rfl rfl rfl rfl rfl rfl (Zz 4 ?_));refine d_ (F_ qz_ rfl rfl) rfl (n_ (uI_ [] none 0 [0,0,0,0] 0 sn_e0 (by decide) (by decide) (by decide)) rfl j_ (fun v _ h=>by exact⟨(.inl rfl),iV_,trivial⟩) rfl fun⟨⟨sve1,He1⟩,he1⟩=>?_);dsimp only;refine S_ nx_ (dv_ he1 A_ fun ea1 ec1 hea1 hcea1 hmea1 hzea1=>?_);subst hea1;refine Zz 10 ?_;refine n_ (uI_ [hx_] (some ⟨b12,0,none⟩) 1 (il_ [hx_]).1 0 wM_ (by decide) (by decide) (by decide)) rfl j_ (fun v _ h=>by exact⟨h.2.1,lP_,trivial⟩) rfl fun⟨⟨sve2,He2⟩,he2⟩=>?_;dsimp only;refine S_ nx_ (dv_ he2 A_ fun ea2 ec2 hea2 hcea2 hmea2 hzea2=>?_);subst hea2;refine Zz 10 ?_;refine n_ (qj_ ((il_ [hx_]).1) ea2 ec2 ⟨hcea2,hmea2,hzea2⟩) rfl j_ zf rfl fun⟨⟨⟨Y1,ya1,yc1⟩,ye1⟩,hD1,hY1,hM1,hZ1⟩=>?_;dsimp only;dsimp only at hD1 hY1 hM1 hZ1;obtain⟨rfl,hS1⟩:=sn_d1 hD1;have hl1:=hS1.len;refine Zz 3 ?_;refine E_ jt_ rfl fun b14=>z_ 0 dZ_ rfl rfl rfl rfl rfl rfl (Zz 5 ?_)
 refine af_ bg_ iz_ Tryz.zeroValue5 rfl rfl rfl rfl rfl rfl fun b15=>?_;refine bh_ (List.flatMap u8C [(0:UInt8)]) e_ rfl ?_;refine n_ (qj_ [(0:UInt8)] (some ⟨b15,0,none⟩) 1 ⟨Nat.le_refl _,(show 1≤maxLen by decide),fun q=>by cases q⟩) rfl j_ zf rfl fun⟨⟨⟨Y2,ya2,yc2⟩,ye2⟩,hD2,hY2,hM2,hZ2⟩=>?_;dsimp only;dsimp only at hD2 hY2 hM2 hZ2;obtain rfl:=sn_d0 hD2;refine Zz 3 ?_;refine E_ jt_ rfl fun b16=>z_ 0 dZ_ rfl rfl rfl rfl rfl rfl (Zz 6 ?_)
 refine o_ 36 [1] zk zs (Zz 2 ?_);refine i_ 0 rfl zk (n_ (mv_ [42] [42]) rfl j_ zt rfl fun _=>Zz 3 ?_);refine i_ 2 rfl zk (n_ (kU_ [] none 0 (W_ [42] [42]) [hx_] (some ⟨b12,0,none⟩) 1 (by decide) (fun x hx=>by simp at hx) (by decide) (by decide) (by decide)) rfl j_ (fun v _ h=>by exact⟨.inl rfl,h.2.2.2.2.2.2.2.1,lP_,h.2.2.2.2.2.2.2.2.2.2.2.2.2.2.2.2.2.1,trivial⟩) rfl fun⟨ce1,hC1⟩=>?_);dsimp only;try dsimp only at hC1
 obtain rfl:=sn_c1 hC1;refine Zz 3 ?_;refine o_ 31 [3,4,6] zk zs (B_ rfl (bG_ (cy_ rfl rfl) (show _=Value.bool false from congrArg Value.bool (by decide))) rfl (Zz 1 ?_));refine ce_ rfl rfl rfl (F_ qz_ rfl rfl) rfl (bi_ (i_ 5 rfl zk (Y_ rfl rfl (n_ (mv_ [42] [42]) rfl j_ zt rfl fun _=>Zz 3 ?_))));refine i_ 7 rfl zk (Y_ rfl rfl (n_ (kU_ [] none 0 (W_ [42] [42]) [] none 0 (by decide) (fun x hx=>by simp at hx) (by decide) (by decide) (by decide)) rfl j_ (fun v _ h=>by exact⟨.inl rfl,(.inl rfl),iV_,h.2.2.2.2.2.2.2.2.2.2.2.2.2.2.2.2.2.1,trivial⟩) rfl fun⟨ce2,hC2⟩=>?_));dsimp only;try dsimp only at hC2
 obtain rfl:=sn_c2 hC2;refine Zz 3 ?_;refine o_ 21 [8,9,10,11,12,13,14,15] zk zs (ce_ rfl rfl rfl (bG_ (cy_ rfl rfl) (show _=Value.bool false from congrArg Value.bool (by decide))) rfl (Zz 3 ?_));refine ce_ rfl rfl rfl (rm_ nk_ oZ_ aV_ rfl zf) rfl ?_;refine Zi 0 (fun hr1=>?_) fun hr1=>?_
 ·refine Zz 3 ?_
  refine o_ 11 [16,17,18,19,20,21,22,23,24,25] zk zs (Zz 1 ?_);refine ce_ rfl rfl rfl (bG_ (cy_ rfl rfl) (show _=Value.bool false from congrArg Value.bool (by decide))) rfl (Zz 3 ?_);refine ce_ rfl rfl rfl (bG_ (cy_ rfl rfl) (show _=Value.bool false from congrArg Value.bool (by decide))) rfl (Zz 5 ?_);refine i_ 26 rfl zk (Y_ rfl rfl (n_ (vG_ Y1 ya1 yc1 [hx_] (some ⟨b12,0,none⟩) 1 hS1 (by rw[hl1];decide) (fun s hs=>tC_ hS1 (by decide) s hs)) rfl j_ (fun v _ h=>by exact⟨h.2.2.2.1,h.2.2.2.2.1,h.2.2.2.2.2.2.2.1,lP_,trivial⟩) rfl fun _=>?_));refine Zz 3 ?_;refine o_ 0 [27,28,29,30,31,32,33,34,35,36] zk zs (ce_ rfl rfl rfl (bn_ rfl) rfl (Zz 3 ?_));refine ce_ rfl rfl rfl (bG_ (cy_ rfl rfl) (show _=Value.bool false from congrArg Value.bool (by decide))) rfl (Zz 3 ?_);refine ce_ rfl rfl rfl (bG_ (cy_ rfl rfl) (show _=Value.bool false from congrArg Value.bool (by decide))) rfl (Zz 9 ?_);refine d_ (F_ strt58 rfl rfl) rfl (n_ (src0_c (Ax.mk 7 false (Con.mk 0 [] 0 0 none 0 []) (Con.mk 0 [] 0 0 none 0 []) none 0 [] [114] [] []) ok_ax7 uF_ rfl) rfl j_ (fun v _ h=>by exact⟨vQ_,h.2.2.2.2.2.2.2.2.2.2.2.2.2.2.2.2.2.2.1,trivial⟩) rfl fun _=>d_ (bG_ (aM_ rfl rfl) (show _=Value.bool true from congrArg Value.bool (by decide))) rfl (Zz 4 ?_));exact T_ Tryz.results9 () rfl j_ zt
 exact absurd rfl hr1
end Go.Proofs.YtaffcjgphlhppaaGreatDoor
namespace Go.Proofs.YtaffcjgphlhppaaGreatDoor
open Go Go.Sx Go.Proofs
attribute [local irreducible] Code.wp wpList wpAnyH
open Go.Vs
theorem uc_ (k:Int):0≤ir_ k∧ir_ k≤2:=by unfold ir_;split<;>(try split)<;>omega
section
variable {P:Program} {N:Nf} {v0:Vw} {H0:Hp} {R:Exit→Act→World→Prop} {K:List Kt} {fr:Fr} {H F:Hp} {Γ:List Fct} {ops:Array Oper} {l:List Oper} {ty:TypeId} {ps:String} {af:Array Edge}
end
end Go.Proofs.YtaffcjgphlhppaaGreatDoor
namespace Go.Proofs.YtaffcjgphlhppaaGreatDoor
open Go Go.Sx Go.Proofs
attribute [local irreducible] Code.wp wpList wpAnyH
open Go.Vs
theorem wy_ {p:List Pc} {f:Fc} {l:List Stp} (h:nh_ p f l 0):bT_ p=0∧l.length≤65536∧lE_ p l∧∃ t,l[l.length - 1]? = some t∧t.fact=f:=by
 rcases h with⟨h1,h2⟩|⟨_,_,h2⟩|⟨h1,h2,⟨h3,h4,_⟩|⟨_,h3⟩⟩
 ·exact absurd h2.symm h1
 ·exact absurd h2 (by decide)
 ·exact⟨h1,h2,h3,h4⟩
 exact absurd h3 (by decide)
end Go.Proofs.YtaffcjgphlhppaaGreatDoor
namespace Go.Proofs.YtaffcjgphlhppaaGreatDoor
open Go Go.Sx Go.Proofs
attribute [local irreducible] Code.wp wpList wpAnyH
open Go.Vs
theorem wG_ (p:List Pc):[42]∈atS p:=(oO_ p _).2 (.inr (.inl rfl))
theorem wH_ (p:List Pc):[33]∈atS p:=(oO_ p _).2 (.inr (.inr rfl))
theorem at_of {p:List Pc} {x:Pc} (hx:x∈p) {s:Str} (hs:s=x.a∨s=x.b∨s=x.c) (hn:s≠[]):s∈atS p:=by
  refine (oO_ p s).2 (.inl ((jG_ p s).2 ?_));refine List.mem_flatMap.2 ⟨x,hx,List.mem_filter.2 ⟨?_,by simpa using hn⟩⟩;rcases hs with rfl|rfl|rfl<;>simp
theorem uo_ {p:List Pc} {s:Str} (h:eR_ p s=true):s∈atS p:=by
 unfold eR_ at h;simp only[Bool.or_eq_true,decide_eq_true_eq]at h;rcases h with rfl|rfl|h
 ·exact wG_ p
 ·exact wH_ p
 obtain⟨x,hx,h⟩:=List.any_eq_true.1 h;simp only[Bool.and_eq_true,Bool.or_eq_true,decide_eq_true_eq]at h;exact at_of hx (by rcases h.2 with q|q|q;exact .inl q.symm;exact .inr (.inl q.symm);exact .inr (.inr q.symm)) h.1
theorem oR_ {p:List Pc} {A:List Str} {m:Nat} {L:List Fc} (h:mU_ p A m (some L)) {y:Fc} (hy:iv_ p A (·∈L) y):y∈L :=
  (h.2.1 y).2 (Der.step (hy.mono (fun x hx=>⟨x,hx,x.frm,rfl⟩) (fun _ h=>h) (fun z hz=>(h.2.1 z).1 hz) (fun _ _ q=>q)))
theorem uK_ {F:List Fc} {f:Fc} (h:ng_ (·∈F) f):qi_ F f=true:=by
 unfold qi_;rw[List.any_eq_true];rcases h with h|h|⟨_,lo,hi,h,h1,h2,h3⟩
 ·exact⟨f,h,by simp⟩
 ·exact⟨_,h,by simp⟩
 refine⟨_,h,?_⟩;rw[Bool.or_eq_true];right
 simp only[Bool.and_eq_true,decide_eq_true_eq];exact⟨⟨h3,rfl⟩,h1,h2⟩
theorem fcs_at {l:List Stp} {j k:Nat} {s:Stp} (hk:k<j) (hs:l[k]? = some s):(fcs (l.take j)).getD k zfc=s.fact:=by
  have e:(fcs (l.take j))[k]? = some s.fact:=by
    unfold fcs;rw[List.getElem?_map,List.getElem?_take_of_lt hk,hs];rfl
  simp[List.getD,e]
theorem rY_ {p:List Pc} {l:List Stp} {m:Nat} {L:List Fc} (hS:lE_ p l) (h:mU_ p (atS p) m (some L)):∀ (j:Nat) (s:Stp),l[j]? = some s→ng_ (·∈L) s.fact:=by
  intro j
  induction j using Nat.strongRecOn with
  | ind j ih =>
    intro s hs;have hc:=hS j s hs;unfold fE_ at hc;simp only[Bool.and_eq_true,decide_eq_true_eq]at hc;obtain⟨h1,h2,h3,h4,h5,h6,h7⟩:=hc
    have hpr:∀ (i:Nat),i<s.frm.length→ng_ (·∈L) ((ck_ (fcs (l.take j)) s.frm).getD i zfc)∧wf2 ((ck_ (fcs (l.take j)) s.frm).getD i zfc)=true:=by
      intro i hi;obtain⟨q1,q2,q3⟩:=gG_ h5 (List.getElem_mem hi)
      have e:(ck_ (fcs (l.take j)) s.frm).getD i zfc=(fcs (l.take j)).getD (s.frm[i]).toNat zfc:=by
        have e0:(ck_ (fcs (l.take j)) s.frm)[i]? = some ((fcs (l.take j)).getD (s.frm[i]).toNat zfc):=by
          unfold ck_;rw[List.getElem?_map,List.getElem?_eq_getElem hi];rfl
        exact gp_ e0
      rw[e];refine⟨?_,q3⟩;rw[fB_,List.length_take]at q2;have hk:(s.frm[i]).toNat<l.length:=by omega
      have hg:=List.getElem?_eq_getElem hk;rw[fcs_at (by omega) hg];exact ih _ (by omega) _ hg
    have hm:=uc_ s.rule;refine qV_ (fun y hy=>oR_ h hy) (fun s hs=>uo_ hs) h1 h2 (fun hz=>?_) (fun hz=>hpr 0 (by omega)) (fun hz=>hpr 1 (by omega)) h7;obtain⟨r1,r2,r3⟩:=(mg_ hz).1 h6;have hlt:s.piece.toNat<p.length:=by omega
    unfold mf_;rw[if_neg hz];refine⟨?_,r3⟩;rw[gp_ (List.getElem?_eq_getElem hlt)];exact List.getElem_mem hlt
theorem snd_ok {p:List Pc} {f:Fc} {l:List Stp} {c:Cl} {e:Int} (h:nh_ p f l 0) (hA:lw_ p 20000 c e):(e=0∧c.facts.length≤65536∧(∀ s∈l,qi_ c.facts s.fact=true)∧qi_ c.facts f=true)∨e=3:=by
 obtain⟨h1,h2,hS,t,ht,hf⟩:=wy_ h;unfold lw_ at hA;rw[if_neg (by simp[h1]),if_neg (by omega)]at hA;rcases hA with⟨he,_,_,h3⟩|⟨_,he,_⟩
 ·have hd:=rY_ hS h3
  have hl:=h3.2.2;refine .inl ⟨he,by omega,fun s hs=>?_,by rw[← hf];exact uK_ (hd _ _ ht)⟩;obtain⟨i,hi⟩:=List.getElem?_of_mem hs;exact uK_ (hd _ _ hi)
 exact .inr (by rw[he];rfl)
theorem derT_c (c:Cl) (f:Fc) (hf:c.facts.length≤1000000000000) (h:qi_ c.facts f=true):Tri Tryz.prog 21 #[Cl.val c,Fc.val f] [] [aC_ c.fad (List.flatMap Fc.cells c.facts)] (fun _:Unit=>.bool true) (fun _=>[]) (fun _=>[]):=by
  have q:=der_c c f hf;rw[h]at q;exact q
end Go.Proofs.YtaffcjgphlhppaaGreatDoor
namespace Go.Proofs.YtaffcjgphlhppaaGreatDoor
open Go Go.Sx Go.Proofs
attribute [local irreducible] Code.wp wpList wpAnyH
open Go.Vs
structure Pf where
  l:List Stp
  ad:Option Addr
  cap:Nat
def Pf.cells (y:Pf):List Value:=[.slice y.ad y.l.length y.cap]
theorem Pf.cells_len (y:Pf):y.cells.length=1:=rfl
def Pf.val (y:Pf):Value:=.agg y.cells.toArray
def tX_ (X:List Pf):Fct where
  p v:=∀ y∈X,bH_ v y.ad (y.l.flatMap Stp.cells)∧(es_ y.l).p v
  mono v v' h hp y hy:=⟨(aC_ y.ad (y.l.flatMap Stp.cells)).mono v v' h (hp y hy).1,(es_ y.l).mono v v' h (hp y hy).2⟩
structure Pf.lim (y:Pf):Prop where
  len:y.l.length≤1256584717424
  st:∀ s∈y.l,s.fact.lim
structure Pf.few (y:Pf):Prop where
  len:y.l.length≤60
  st:∀ s∈y.l,s.few
end Go.Proofs.YtaffcjgphlhppaaGreatDoor
namespace Go.Proofs.YtaffcjgphlhppaaGreatDoor
open Go Go.Sx Go.Proofs
attribute [local irreducible] Code.wp wpList wpAnyH
open Go.Vs
theorem pv_ (l:List Ax) (ad:Option Addr) (cap:Nat) (hcap:l.length≤cap∧cap≤2199023255488) (hok:∀ x∈l,x.ok) {p:List Pc} {er:Int} (e:bq_ l=(p,er)) :
    Tri Tryz.prog 25 #[.slice ad l.length cap] [] [ne_ ad l,dK_] (fun y:{y:Option Addr×Nat // p.length≤y.2∧y.2≤maxLen∧(y.1=none→y.2=0)}=>.tuple #[.slice y.1.1 p.length y.1.2,.int .i64 er]) (fun _=>[]) (fun y=>[aC_ y.1.1 (p.flatMap Pc.cells)]):=by
  have h:=tW_ l ad cap hcap hok;generalize bq_ l=g at h e
  subst e;exact h
theorem uD_ (x:Ax) (hok:x.ok) {p:List Pc} {fs:List Fc} {er:Int} (e:x.goalP=(p,fs,er)) :
    Tri Tryz.prog 26 #[x.val] [] [x.memF,dK_] (fun y:{y:Option Addr×Nat×Option Addr×Nat // p.length≤y.2.1∧y.2.1≤maxLen∧fs.length≤y.2.2.2∧y.2.2.2≤maxLen∧(y.1=none→y.2.1=0)}=>.tuple #[.slice y.1.1 p.length y.1.2.1,.slice y.1.2.2.1 fs.length y.1.2.2.2,.int .i64 er])
    (fun _=>[]) (fun y=>[aC_ y.1.1 (p.flatMap Pc.cells),aC_ y.1.2.2.1 (fs.flatMap Fc.cells)]):=by
  have h:=goal_c x hok;generalize x.goalP=g at h e
  subst e;exact h
theorem rH_ {x:Ax} (hok:x.ok) {q:List Pc} {F:List Fc} {eg:Int} (hG:x.goalP=(q,F,eg)):q.length≤2000∧(∀ z∈q,z.sm)∧(eg=0→x.check=0∧1≤F.length):=by
 by_cases hc:x.check=0
 ·have S:=rZ_ hok hc
  have h1:=S.len;have h2:=S.sm;rw[hG]at h1 h2;refine⟨h1,h2,fun he=>⟨hc,?_⟩⟩
  by_cases hk:x.kind=5∨x.kind=6∨x.kind=7
  ·have e:=S.role hk
   rw[hG,Prod.mk.injEq,Prod.mk.injEq]at e;omega
  have h3:=(S.rest hk).2.2.1;rw[hG]at h3;exact h3
 have e:=uE_ hc;rw[hG,Prod.mk.injEq,Prod.mk.injEq]at e;obtain⟨rfl,rfl,rfl⟩:=e;exact⟨by simp,by simp,fun he=>absurd he hc⟩
def SrcR (p q:List Pc) (F:List Fc) (er eg:Int) (X:List Pf) (e:Int):Prop:=e=0→er=0∧eg=0∧X.length=F.length∧∀ (i:Nat) (f:Fc) (y:Pf),F[i]? = some f→X[i]? = some y→nh_ (p++q) f y.l 0
theorem tk_ {p q:List Pc} {F:List Fc} {er eg:Int} {X:List Pf} {c:Cl} {e:Int} (h:SrcR p q F er eg X 0) (h1:1≤F.length) (hA:lw_ (p++q) 20000 c e):(e=0∧c.facts.length≤65536∧∀ f∈F,qi_ c.facts f=true)∨e=3:=by
 obtain⟨_,_,hl,hall⟩:=h rfl
 have key:∀ (i:Nat) (f:Fc),F[i]? = some f→(e=0∧c.facts.length≤65536∧qi_ c.facts f=true)∨e=3:=fun i f hf=>by
   have hi:=(List.getElem?_eq_some_iff.1 hf).1;have hx:=List.getElem?_eq_getElem (l:=X) (i:=i) (by omega);rcases snd_ok (hall i f _ hf hx) hA with⟨q1,q2,_,q3⟩|q
   · exact .inl ⟨q1,q2,q3⟩
   · exact .inr q
 by_cases he:e=3
 ·exact .inr he
 have h0:=(key 0 _ (List.getElem?_eq_getElem (by omega))).resolve_right he;refine .inl ⟨h0.1,h0.2.1,fun f hf=>?_⟩;obtain⟨i,hi⟩:=List.getElem?_of_mem hf;exact ((key i f hi).resolve_right he).2.2
section
variable {P:Program} {N:Nf} {v0:Vw} {H0:Hp} {R:Exit→Act→World→Prop} {K:List Kt} {fr:Fr} {H F:Hp} {Γ:List Fct} {ops:Array Oper} {l:List Oper} {d:Nat} {ty:TypeId} {ps:String} {af:Array Edge} {e:TypeId} {sz n:Nat}
theorem on_ {t:TypeId} {x y:Operand} {by':Nat} {z:Value} {m:Int} (ht:P.underlying t=some (.slice e)) (hi:(P.info? e).map (fun i=>(i.zero,i.size,i.bytes))=some (some z,sz,by')) (hzs:z.cells.toList.length=sz) (hsz:0<sz) (hx:Fr.ev fr x=some (.int .i64 0)) (hy:Fr.ev fr y=some (.int .i64 m)) (hm:m=(n:Int))
    (hb:by'*n≤281474976710656) (h63:n≤maxLen) (hN:Nat.blt d N.n=true)
    (hk:∀ sv Hr,bk_ e sz sv 0 [] Hr→Ops P R N v0 H0 ops l K ((d,sv)::fr) (Hr++H) Γ):Ops P R N v0 H0 ops (⟨some d,.makeSlice t x y,ty,ps,af,none⟩::l) K fr H Γ:=by
  subst hm;refine hY_ (x:=fun b=>.slice (some ⟨b,0,none⟩) 0 n) (o:=.cells (ln_ z.cells.toList n).toArray e (0,0)) hN (fun a v h1 _ _=>?_) (fun b=>hk _ [(b,.cells (ln_ z.cells.toList n).toArray e (0,0))] ⟨by simp,.inr ⟨b,n,(ln_ z.cells.toList n).toArray,rfl,rfl,Nat.zero_le _,h63,?_,by simp⟩⟩)
  · cases h:P.info? e with
    | none=>rw[h]at hi;cases hi
    | some i =>
      rw[h]at hi;simp only[Option.map_some,Option.some.injEq,Prod.mk.injEq]at hi
      have hb':(i.bytes:Int)*(n:Int)≤281474976710656:=by
        rw[hi.2.2];have h:((by'*n:Nat):Int)≤281474976710656:=by omega
        rwa [Int.natCast_mul]at h
      have hr:=run_make (P:=P) v.w t e i z ht h hi.1 .i64 .i64 (0:Int) (n:Int) (by omega) (by omega) hb' (by simp only[maxLen]at h63;omega);have hm:=ud_ z.cells.toList (by omega) n;rw[hzs,Array.toArray_toList]at hm;rw[hi.2.1,Int.toNat_natCast,hm]at hr;simp only[execOp,h1.ev hx,h1.ev hy];simp[hr]
  · simp only[List.size_toArray];rw[lF_,hzs]
end
set_option maxHeartbeats 1000000 in
theorem tv_ (l:List Ax) (ad:Option Addr) (cap:Nat) (hcap:l.length≤cap∧cap≤2199023255488) (hok:∀ x∈l,x.ok) (hl:l.length≤12) (x:Ax) (hx:x.ok) (X:List Pf) (xad:Option Addr) (xcap:Nat) (hfewX:∀ y∈X,Pf.few y) {p:List Pc} {er:Int} (hP:bq_ l=(p,er)) {q:List Pc} {F:List Fc} {eg:Int} (hG:x.goalP=(q,F,eg)):Tri Tryz.prog 24 #[.slice ad (List.length l) cap,Ax.val x,.slice xad (List.length X) xcap] [] [ne_ ad l,Ax.memF x,aC_ xad (List.flatMap Pf.cells X),tX_ X,iu_,dK_] (fun y:{e:Int // SrcR p q F er eg X e}=>.int .i64 y.1) (fun _=>[]) (fun _=>[]):=by
 refine w_ Tryz.func24 rfl rfl Tryz.ntmps24 rfl fun v0=>?_;have hPL:=ny_ (k:=0) hl (Nat.zero_le _) hok hP rfl rfl;have hpl:=hPL.len.1;obtain⟨hql,hqs,hgz⟩:=rH_ hx hG;have hsmA:∀ z∈p++q,z.sm:=fun z hz=>(List.mem_append.1 hz).elim (hPL.sm z) (hqs z)
 refine Zz 2 ?_;refine ah_ rfl rfl fun b1=>Zz 6 ?_
 refine n_ (pv_ l ad cap hcap hok hP) rfl j_ zf rfl fun⟨⟨pad,pcap⟩,hpc,hpm,hpz⟩=>?_;dsimp only;dsimp only at hpc hpm hpz;refine Zi 11 (fun hr1=>?_) fun hr1=>?_
 ·have her:er=0:=by omega
  refine Zz 8 ?_;refine n_ (uD_ x hx hG) rfl j_ zf rfl fun⟨⟨qad,qcap,fad,fcap⟩,hqc,hqm,hfc,hfm,hqz⟩=>?_;dsimp only;dsimp only at hqc hqm hfc hfm hqz;have hFl:List.length F≤9223372036854775807:=Nat.le_trans hfc hfm;refine Zi 13 (fun hr2=>?_) fun hr2=>?_
  ·have heg:eg=0:=by omega
   refine Zi 13 (fun hr3=>?_) fun hr3=>?_
   ·refine Zi 12 (fun hr4=>?_) fun hr4=>?_
    ·refine Zz 12 ?_
     refine on_ (n:=List.length p+List.length q) (by':=128) Tryz.underlying22 (z:=.agg (List.toArray zpc.cells)) zk rfl (by decide) rfl rfl (by omega) (by omega) (by simp only[maxLen];omega) rfl fun svZ HrZ hrZ=>?_;have hqZ:bk_ 73 10 svZ (List.length ([]:List Pc)) (List.flatMap Pc.cells ([]:List Pc)) HrZ:=hrZ;refine Zz 3 ?_;refine S_ (da_ cL_) (Zz 4 ?_);refine eo_ (news:=List.flatMap Pc.cells p) mK_ hqZ rfl rfl hpz hpc ad_ (by rw[ej_ Pc.cells 10 Pc.cells_len]) zf (fun u hu=>be_ Pc.cells_one hu) (by simp only[maxLen];((try simp only[List.length_append,List.length_nil]);omega)) (by ((try simp only[List.length_append,List.length_nil]);omega)) rfl fun sv1 Hr1 hr1=>?_;refine S_ List.perm_append_comm ?_;have hq1:bk_ 73 10 sv1 (List.length (([]:List Pc)++p)) (List.flatMap Pc.cells (([]:List Pc)++p)) Hr1:=by rw[List.length_append,List.flatMap_append];exact hr1
     refine Zz 1 ?_;refine eo_ (news:=List.flatMap Pc.cells q) mK_ hq1 rfl rfl hqz hqc ad_ (by rw[ej_ Pc.cells 10 Pc.cells_len]) zf (fun u hu=>be_ Pc.cells_one hu) (by simp only[maxLen];((try simp only[List.length_append,List.length_nil]);omega)) (by ((try simp only[List.length_append,List.length_nil]);omega)) rfl fun sv2 Hr2 hr2=>?_;refine S_ List.perm_append_comm ?_;have hq2:=zsa hr2;refine Zz 5 ?_;have hw3:bk_ 73 10 sv2 (List.length (p++q)) (List.flatMap Pc.cells (p++q)) Hr2:=by have q:=hq2;simpa only[List.nil_append] using q
     refine dv_ hw3 ad_ fun zad zcap hzad hczad hmzad hzzad=>?_;subst hzad;refine Zz 7 ?_;refine aF_ (ι:={y:Nat // y≤List.length F∧(∀ (i9:Nat) (f9:Fc) (y9:Pf),i9<y→F[i9]? = some f9→X[i9]? = some y9→nh_ (p++q) f9 (Pf.l y9) 0)}) (fun y=>[(2,.slice xad (List.length X) xcap),(6,.int .i64 eg),(10,.slice zad (List.length (p++q)) zcap),(53,.slice fad (List.length F) fcap),(54,.int .i64 (List.length F:Int)),(55,.int .i64 (y.1:Int))]) (fun y=>([])) (fun y=>[aC_ zad (List.flatMap Pc.cells (p++q)),aC_ qad (List.flatMap Pc.cells q),aC_ fad (List.flatMap Fc.cells F),aC_ pad (List.flatMap Pc.cells p),ne_ ad l,Ax.memF x,aC_ xad (List.flatMap Pf.cells X),tX_ X,iu_,dK_]) (fun y=>List.length F - y.1) ⟨(0:Nat),by simp,(fun i9 f9 y9 h1=>by omega)⟩ zl j_ zh ?_;rintro ⟨i,hi_i,hall⟩;dsimp only at hi_i hall ⊢;refine Zi 2 (fun hr5=>?_) fun hr5=>?_
     ·refine Zz 12 ?_
      exact T_ iA_ ⟨0,fun _=>⟨her,heg,by omega,fun i f y h2 h3=>hall i f y (by have:=(List.getElem?_eq_some_iff.1 h2).1;omega) h2 h3⟩⟩ rfl j_ zt
     have hlf1:i<List.length F:=by omega
     obtain⟨f1,hf1⟩:∃ e0,F[i]? = some e0:=⟨_,List.getElem?_eq_getElem hlf1⟩;have hmf1:f1∈F:=List.mem_of_getElem? hf1;obtain⟨hlx2,x2,hx2,hmx2⟩:=zge (show i<List.length X by omega);refine Zz 13 ?_;refine E_ ag_ rfl fun b2=>Zz 1 ?_
     refine z_ 0 y_ rfl rfl rfl rfl rfl rfl (Zz 4 ?_);refine o_ 2 [0,1,2,3,4,5] zk zs (Zz 4 ?_);refine B_ rfl (ab_ cE_ dZ_ rfl rfl (fun v _ h=>O_ (n:=1) Pf.cells_len (by decide) (by exact h.2.2.2.2.2.2.1) hx2) (by omega) (by first|omega|(simp;done))) rfl ?_;refine B_ rfl (as_ (ad:=xad) (us:=Pf.cells x2) Tryz.isAgg27 dZ_ rfl zf (Pf.cells_len _) (K_ Pf.cells_len hx2)) rfl (bi_ (i_ 6 rfl zk (n_ (kU_ (p++q) zad zcap f1 (Pf.l x2) (Pf.ad x2) (Pf.cap x2) (by rw[List.length_append];omega) hsmA (by have:=(hfewX x2 hmx2).len;omega) (fun s hs=>by have:=((hfewX x2 hmx2).st s hs).1;omega) (fun s hs=>((hfewX x2 hmx2).st s hs).sml)) rfl j_ (fun v _ h=>by exact⟨h.1,((h.2.2.2.2.2.2.2.1 x2 hmx2).1),((h.2.2.2.2.2.2.2.1 x2 hmx2).2),h.2.2.2.2.2.2.2.2.1,trivial⟩) rfl fun⟨e2,hC2⟩=>?_)));dsimp only;try dsimp only at hC2
     refine Zz 3 ?_;refine o_ 0 [7] zk zs (Zi 7 (fun hr6=>?_) fun hr6=>?_)
     ·refine Zz 10 ?_
      exact aa_ ⟨i+1,hlf1,(fun i9 f9 y9 h1 h2 h3=>by rcases Nat.lt_or_ge i9 i with z|z;exact hall i9 f9 y9 z h2 h3;obtain rfl:i9=i:=(by omega);rw[hf1]at h2;rw[hx2]at h3;obtain rfl:=Option.some.inj h2;obtain rfl:=Option.some.inj h3;have e0:e2=0:=(by omega);rw[e0]at hC2;exact hC2)⟩ (by dsimp only;omega) zl j_ zh
     refine Zz 10 ?_;exact T_ iA_ ⟨e2,fun z=>absurd z (by assumption)⟩ rfl j_ zt
    refine Zz 9 ?_;exact T_ iA_ ⟨120,fun z=>absurd z (by decide)⟩ rfl j_ zt
   refine Zz 9 ?_;exact T_ iA_ ⟨2,fun z=>absurd z (by decide)⟩ rfl j_ zt
  refine Zz 10 ?_;exact T_ iA_ ⟨eg,fun z=>absurd z (by assumption)⟩ rfl j_ zt
 refine Zz 10 ?_;exact T_ iA_ ⟨er,fun z=>absurd z (by assumption)⟩ rfl j_ zt
set_option maxHeartbeats 1000000 in
theorem checkerTrusts_c (l:List Ax) (ad:Option Addr) (cap:Nat) (hcap:l.length≤cap∧cap≤2199023255488) (hok:∀ x∈l,x.ok) (x:Ax) (hx:x.ok) (X:List Pf) (xad:Option Addr) (xcap:Nat) (hX:∀ y∈X,Pf.lim y) {p:List Pc} {er:Int} (hP:bq_ l=(p,er)) {q:List Pc} {F:List Fc} {eg:Int} (hG:x.goalP=(q,F,eg)):Tri Tryz.prog 8 #[.slice ad (List.length l) cap,Ax.val x,.slice xad (List.length X) xcap] [] [ne_ ad l,Ax.memF x,aC_ xad (List.flatMap Pf.cells X),tX_ X,iu_,dK_] (fun _:Unit=>.bool true) (fun _=>[]) (fun _=>[]):=by
 refine w_ Tryz.func8 rfl rfl Tryz.ntmps8 rfl fun v0=>?_;refine Zz 2 ?_;refine ah_ rfl rfl fun b1=>Zz 6 ?_
 refine n_ (tB_) rfl j_ zf rfl fun _=>d_ (bn_ rfl) rfl (Zz 9 ?_)
 refine n_ (qc_ l ad cap 12 hcap hok) rfl j_ zf rfl fun⟨ra,hra⟩=>?_;dsimp only;refine d_ (bn_ rfl) rfl (Zz 1 ?_);cases ra
 ·refine Zz 18 ?_
  exact T_ hv_ () rfl j_ zt
 have hl:List.length l≤12:=by have:=hra rfl;omega
 have hPL:=ny_ (k:=0) hl (Nat.zero_le _) hok hP rfl rfl;have hpl:=hPL.len.1;obtain⟨hql,hqs,hgz⟩:=rH_ hx hG;have hsmA:∀ z∈p++q,z.sm:=fun z hz=>(List.mem_append.1 hz).elim (hPL.sm z) (hqs z)
 refine Zz 3 ?_;refine n_ (mJ_ x hx) rfl j_ zf rfl fun rb=>Y_ rfl rfl (d_ (bn_ rfl) rfl (Zz 2 ?_))
 cases rb
 ·refine Zz 13 ?_
  exact T_ hv_ () rfl j_ zt
 refine Zi 5 (fun hr1=>?_) fun hr1=>?_
 ·refine Zz 13 ?_
  refine aF_ (ι:={y:Nat // y≤List.length X∧(∀ z∈List.take y X,Pf.few z)}) (fun y=>[(0,.slice ad (List.length l) cap),(2,.slice xad (List.length X) xcap),(4,zp_ b1 0),(6,.bool false),(7,.int .i64 (y.1:Int))]) (fun y=>((b1,.cells #[.int .i64 (Ax.kind x),.bool (Ax.opn x),.int .i64 (Con.kind (Ax.left x)),str (Con.name (Ax.left x)),.int .i64 (Con.lo (Ax.left x)),.int .i64 (Con.hi (Ax.left x)),.slice (Con.ad (Ax.left x)) (List.length (Con.parts (Ax.left x))) (Con.cap (Ax.left x)),.int .i64 (Con.kind (Ax.right x)),str (Con.name (Ax.right x)),.int .i64 (Con.lo (Ax.right x)),.int .i64 (Con.hi (Ax.right x)),.slice (Con.ad (Ax.right x)) (List.length (Con.parts (Ax.right x))) (Con.cap (Ax.right x)),.slice (Ax.ad x) (List.length (Ax.roles x)) (Ax.cap x),str (Ax.role x),str (Ax.a x),str (Ax.b x)] 58 (0,0))::[])) (fun y=>[ne_ ad l,Ax.memF x,aC_ xad (List.flatMap Pf.cells X),tX_ X,iu_,dK_]) (fun y=>List.length X - y.1) ⟨(0:Nat),by simp,by simp⟩ zl e_ zh ?_;rintro ⟨i,hi_i,hall⟩;dsimp only at hi_i hall ⊢;refine Zi 6 (fun hr2=>?_) fun hr2=>?_
  ·rw[List.take_of_length_le (by omega)]at hall
   refine Zz 11 ?_;refine n_ (tv_ l ad cap hcap hok hl x hx X xad xcap hall hP hG) rfl j_ zf rfl fun⟨e1,hS1⟩=>?_;dsimp only;refine Zi 0 (fun hr3=>?_) fun hr3=>?_
   ·have he1:e1=0:=by omega
    subst he1;obtain⟨her,heg,hlX,_⟩:=hS1 rfl;have hxc:=(hgz heg).1;refine Zz 8 ?_;refine n_ (pv_ l ad cap hcap hok hP) rfl j_ zf rfl fun⟨⟨pad,pcap⟩,hpc,hpm,hpz⟩=>?_;dsimp only;dsimp only at hpc hpm hpz;refine Zz 10 ?_;refine n_ (uD_ x hx hG) rfl j_ zf rfl fun⟨⟨qad,qcap,fad,fcap⟩,hqc,hqm,hfc,hfm,hqz⟩=>?_;dsimp only;dsimp only at hqc hqm hfc hfm hqz;have hFl:List.length F≤9223372036854775807:=Nat.le_trans hfc hfm;refine Zi 13 (fun hr4=>?_) fun hr4=>?_
    ·refine Zi 4 (fun hr5=>?_) fun hr5=>?_
     ·refine Zi 11 (fun hr6=>?_) fun hr6=>?_
      ·refine Zz 5 ?_
       refine n_ (gq_ x hx) rfl j_ zf rfl fun _=>Y_ rfl rfl ?_
       refine Zi 0 (fun hr7=>?_) fun hr7=>?_
       ·refine Zz 8 ?_
        refine nz_ P_ U_ rfl fun b2=>S_ e_ (Zz 1 ?_)
        refine eo_ (news:=List.flatMap Pc.cells p) mK_ (pc_ b2 73 10) rfl rfl hpz hpc A_ (by rw[ej_ Pc.cells 10 Pc.cells_len]) zf (fun u hu=>be_ Pc.cells_one hu) (by simp only[maxLen];((try simp only[List.length_append,List.length_nil]);omega)) (by ((try simp only[List.length_append,List.length_nil]);omega)) rfl fun sv1 Hr1 hr1=>?_;refine S_ List.perm_append_comm ?_;have hq1:bk_ 73 10 sv1 (List.length (([]:List Pc)++p)) (List.flatMap Pc.cells (([]:List Pc)++p)) Hr1:=by rw[List.length_append,List.flatMap_append];exact hr1
        refine Zz 1 ?_;refine eo_ (news:=List.flatMap Pc.cells q) mK_ hq1 rfl rfl hqz hqc ad_ (by rw[ej_ Pc.cells 10 Pc.cells_len]) zf (fun u hu=>be_ Pc.cells_one hu) (by simp only[maxLen];((try simp only[List.length_append,List.length_nil]);omega)) (by ((try simp only[List.length_append,List.length_nil]);omega)) rfl fun sv2 Hr2 hr2=>?_;refine S_ List.perm_append_comm ?_;have hq2:=zsa hr2;have hw3:bk_ 73 10 sv2 (List.length (p++q)) (List.flatMap Pc.cells (p++q)) Hr2:=by have q:=hq2;simpa only[List.nil_append] using q
        refine dv_ hw3 ad_ fun zad zcap hzad hczad hmzad hzzad=>?_;subst hzad;refine n_ (all_c (p++q) zad zcap 20000 hsmA (by rw[List.length_append];omega)) rfl j_ zf rfl fun⟨⟨c1,ea⟩,hA1⟩=>?_;dsimp only;dsimp only at hA1;have hA2:=tk_ hS1 (hgz heg).2 hA1;refine Zz 3 ?_;refine E_ Tryz.zeroValue49 rfl fun b3=>z_ 0 bj_ rfl rfl rfl rfl rfl rfl (Zi 7 (fun hr8=>?_) fun hr8=>?_)
        ·obtain⟨_,hcl,hds⟩:=hA2.resolve_right (by omega)
         refine Zz 12 ?_;refine aF_ (ι:={y:Nat // y≤List.length F}) (fun y=>[(0,.slice ad (List.length l) cap),(2,.slice xad (List.length X) xcap),(4,zp_ b1 0),(6,.bool false),(7,.int .i64 (i:Int)),(11,.slice fad (List.length F) fcap),(13,zp_ b3 0),(15,.int .i64 (y.1:Int))]) (fun y=>((b3,.cells #[.slice c1.aad (List.length c1.atoms) c1.acap,.slice c1.fad (List.length c1.facts) c1.fcap] 49 (0,0))::((b1,.cells #[.int .i64 (Ax.kind x),.bool (Ax.opn x),.int .i64 (Con.kind (Ax.left x)),str (Con.name (Ax.left x)),.int .i64 (Con.lo (Ax.left x)),.int .i64 (Con.hi (Ax.left x)),.slice (Con.ad (Ax.left x)) (List.length (Con.parts (Ax.left x))) (Con.cap (Ax.left x)),.int .i64 (Con.kind (Ax.right x)),str (Con.name (Ax.right x)),.int .i64 (Con.lo (Ax.right x)),.int .i64 (Con.hi (Ax.right x)),.slice (Con.ad (Ax.right x)) (List.length (Con.parts (Ax.right x))) (Con.cap (Ax.right x)),.slice (Ax.ad x) (List.length (Ax.roles x)) (Ax.cap x),str (Ax.role x),str (Ax.a x),str (Ax.b x)] 58 (0,0))::[]))) (fun y=>[aC_ c1.aad (List.flatMap by_ c1.atoms),aC_ c1.fad (List.flatMap Fc.cells c1.facts),aC_ zad (List.flatMap Pc.cells (p++q)),aC_ qad (List.flatMap Pc.cells q),aC_ fad (List.flatMap Fc.cells F),aC_ pad (List.flatMap Pc.cells p),ne_ ad l,Ax.memF x,aC_ xad (List.flatMap Pf.cells X),tX_ X,iu_,dK_]) (fun y=>List.length F - y.1) ⟨(0:Nat),by simp⟩ zl zp zh ?_;rintro ⟨j,hi_j⟩;dsimp only at hi_j ⊢;refine Zi 6 (fun hr9=>?_) fun hr9=>?_
         ·refine Zz 11 ?_
          exact T_ hv_ () rfl j_ zt
         have hlf1:j<List.length F:=by omega
         obtain⟨f1,hf1⟩:∃ e0,F[j]? = some e0:=⟨_,List.getElem?_eq_getElem hlf1⟩;have hmf1:f1∈F:=List.mem_of_getElem? hf1;refine Zz 9 ?_;refine o_ 2 [0,1,2,3,4] zk zs (Zz 6 ?_);refine i_ 5 rfl zk (n_ (derT_c c1 f1 (by omega) (hds _ hmf1)) rfl j_ zf rfl fun _=>Zz 3 ?_);refine o_ 0 [6] zk zs (B_ rfl (bn_ rfl) rfl (Zz 12 ?_));exact aa_ ⟨j+1,hlf1⟩ (by dsimp only;omega) zl zp zh
        refine Zi 6 (fun hr10=>?_) fun hr10=>?_
        ·refine Zz 4 ?_
         refine J_ (aM_ rfl rfl) rfl fun r11 hr11=>Zz 5 ?_
         exact T_ hv_ () (l_ rfl (by rw[← hr11];have z:=hA2.resolve_left (fun q=>absurd q.1 (by omega));rw[z];rfl)) j_ zt
        refine Zz 8 ?_;exact T_ hv_ () rfl j_ zt
       exact absurd hxc hr7
      exfalso;omega
     exact absurd heg hr5
    exact absurd her hr4
   refine Zz 9 ?_;exact T_ hv_ () rfl j_ zt
  obtain⟨hlx1,x1,hx1,hmx1⟩:=zge (show i<List.length X by omega);refine Zz 11 ?_;refine d_ (ab_ cE_ dZ_ rfl rfl (fun v _ h=>O_ (n:=1) Pf.cells_len (by decide) (by exact h.2.2.1) hx1) (by omega) (by first|omega|(simp;done))) rfl ?_;refine d_ (as_ (ad:=xad) (us:=Pf.cells x1) Tryz.isAgg27 dZ_ rfl zf (Pf.cells_len _) (K_ Pf.cells_len hx1)) rfl (n_ (wn_ (Pf.l x1) (Pf.ad x1) (Pf.cap x1) (hX x1 hmx1).len (hX x1 hmx1).st) rfl j_ (fun v _ h=>by exact⟨((h.2.2.2.1 x1 hmx1).1),((h.2.2.2.1 x1 hmx1).2),trivial⟩) rfl fun⟨fw,hfw⟩=>?_);dsimp only;refine d_ (bn_ rfl) rfl (Zz 2 ?_);cases fw
  ·refine Zz 7 ?_
   exact T_ hv_ () rfl j_ zt
  obtain⟨hl60,hfew⟩:=hfw rfl;refine Zz 9 ?_;exact aa_ ⟨i+1,hlx1,qt_ hall hx1 ⟨hl60,hfew⟩⟩ (by dsimp only;omega) zl e_ zh
 refine Zz 10 ?_;exact T_ hv_ () rfl j_ zt
end Go.Proofs.YtaffcjgphlhppaaGreatDoor
namespace Go.Proofs.YtaffcjgphlhppaaGreatDoor
open Go Go.Sx Go.Proofs
attribute [local irreducible] Code.wp wpList wpAnyH
open Go.Vs Go.ChangeShapes Go.WideShapes Go.ChangeAt Go.RowKit
structure TysR (P:Program) (tI tS tF tIs tX tXs tQ tU tUs:TypeId):Prop where
  f:∃ fs,P.underlying tF=some (.struct fs)∧fs.toList.map (fun f=>(f.type,f.offset))=[(tI,0),(tS,1),(tS,2),(tS,3),(tI,4),(tI,5)]
  cf:P.cellsOf tF=6
  x:∃ fs,P.underlying tX=some (.struct fs)∧fs.toList.map (fun f=>(f.type,f.offset))=[(tI,0),(tF,1),(tI,7),(tIs,8)]
  xs:P.underlying tXs=some (.slice tX)
  is:P.underlying tIs=some (.slice tI)
  q:∃ fs,P.underlying tQ=some (.struct fs)∧fs.toList.map (fun f=>(f.type,f.offset))=[(tXs,0)]
  u:P.underlying tU=some (.int .u8)
  us:P.underlying tUs=some (.slice tU)
  cis:P.cellsOf tIs=1
  cx:P.cellsOf tX=9
  cxs:P.cellsOf tXs=1
  cq:P.cellsOf tQ=1
  cu:P.cellsOf tU=1
  bi:P.bytesOf tI=8
  bx:P.bytesOf tX=112
  bu:P.bytesOf tU=1
structure frd (f:Fc):Prop where
  lim:f.lim
  lo:I64 f.lo
  hi:I64 f.hi
structure srd (W:World) (s:Stp):Prop where
  row:bH_ (vw W) s.ad (s.frm.flatMap eS_)
  fact:frd s.fact
  le:s.frm.length≤s.cap
  mx:s.cap≤17592186044416
structure prd (W:World) (y:Pf):Prop where
  row:bH_ (vw W) y.ad (y.l.flatMap Stp.cells)
  st:∀ s∈y.l,srd W s
  le:y.l.length≤y.cap
  mx:y.cap≤1256584717424
section
variable {H:Type} {enc:TypeId×Value→H} {P:Program} {W:World} {tI tB tS tSs tC tCs tA tAs tP tPs tF tIs tX tXs tQ tU tUs tQs:TypeId} (X:Tys P tI tB tS tSs tC tCs tA tAs tP tPs) (Y:TysR P tI tS tF tIs tX tXs tQ tU tUs)
include X Y
theorem rfc_of {n:Nat} {cs:List Value} {x:DataW H×List MemPlace} (h:DataW.trod enc P W 0 (fun _=>true) true n tF cs=some x) (hw:wok (x.1.weights P tF)):∃ f:Fc,cs=f.cells∧frd f:=by
  obtain⟨fs,hu,hL⟩:=Y.f;obtain⟨xs,m,hn,hx,hl,hlen,hf,hwe⟩:=fields_of hu hL h;rw[hwe]at hw
  match xs,hlen with
  | [x0,x1,x2,x3,x4,x5],_ =>
  simp only[List.map_cons,List.map_nil,DataW.weightsEach,eF_]at hw;have f0:=hf 0 _ rfl;have f1:=hf 1 _ rfl;have f2:=hf 2 _ rfl;have f3:=hf 3 _ rfl;have f4:=hf 4 _ rfl;have f5:=hf 5 _ rfl;simp only[List.getElem?_cons_zero,List.getElem?_cons_succ,X.ci,X.cs1]at f0 f1 f2 f3 f4 f5;obtain⟨k,e0,_,_⟩:=hi_ X f0;obtain⟨a,e1,n1⟩:=Go.Vs.str_of X f1 hw.2.1;obtain⟨b,e2,n2⟩:=Go.Vs.str_of X f2 hw.2.2.1;obtain⟨r,e3,n3⟩:=Go.Vs.str_of X f3 hw.2.2.2.1;obtain⟨lo,e4,l1,l2⟩:=hi_ X f4;obtain⟨hi,e5,l3,l4⟩:=hi_ X f5;rw[Y.cf]at hl
  match cs,hl with
  | [c0,c1,c2,c3,c4,c5],_ =>
  simp only[List.drop_succ_cons,List.drop_zero,List.take_succ_cons,List.take_zero,List.cons.injEq,and_true]at e0 e1 e2 e3 e4 e5;subst e0 e1 e2 e3 e4 e5;exact⟨⟨k,a,b,r,lo,hi⟩,rfl,⟨n1,n2,n3⟩,⟨l1,l2⟩,⟨l3,l4⟩⟩
theorem tK_ {n:Nat} {cs:List Value} {x:DataW H×List MemPlace} (h:DataW.trod enc P W 0 (fun _=>true) true n tIs cs=some x) (hw:wok (x.1.weights P tIs)) :
    ∃ (l:List Int) (ad:Option Addr) (cap:Nat),cs=[.slice ad l.length cap]∧bH_ (vw W) ad (l.flatMap eS_)∧l.length≤cap∧cap≤17592186044416:=by
  obtain⟨l,ad,cap,e,hrow,hq,hlc,hcap⟩:=iZ_ eS_ 1 bK_ (by decide) (fun y:Int=>-9223372036854775808≤y∧y≤9223372036854775807) Y.is X.ci (fun m' _ cs' y hy _=>hi_ X hy) h hw;rw[Y.bi]at hcap;simp only[reachBytes]at hcap;exact⟨l,ad,cap,e,hrow,hlc,by omega⟩
theorem vC_ {n:Nat} {cs:List Value} {x:DataW H×List MemPlace} (h:DataW.trod enc P W 0 (fun _=>true) true n tX cs=some x) (hw:wok (x.1.weights P tX)):∃ s:Stp,cs=s.cells∧srd W s:=by
  obtain⟨fs,hu,hL⟩:=Y.x;obtain⟨xs,m,hn,hx,hl,hlen,hf,hwe⟩:=fields_of hu hL h;rw[hwe]at hw
  match xs,hlen with
  | [x0,x1,x2,x3],_ =>
  simp only[List.map_cons,List.map_nil,DataW.weightsEach,eF_]at hw;have f0:=hf 0 _ rfl;have f1:=hf 1 _ rfl;have f2:=hf 2 _ rfl;have f3:=hf 3 _ rfl;simp only[List.getElem?_cons_zero,List.getElem?_cons_succ,X.ci,Y.cf,Y.cis]at f0 f1 f2 f3;obtain⟨k,e0,_,_⟩:=hi_ X f0;obtain⟨f,e1,bf⟩:=rfc_of X Y f1 hw.2.1;obtain⟨pc,e2,_,_⟩:=hi_ X f2;obtain⟨l,ad,cap,e3,r3,l3,m3⟩:=tK_ X Y f3 hw.2.2.2.1;rw[Y.cx]at hl
  match cs,hl with
  | [c0,c1,c2,c3,c4,c5,c6,c7,c8],_ =>
  simp only[List.drop_succ_cons,List.drop_zero,List.take_succ_cons,List.take_zero,List.cons.injEq,and_true,Fc.cells]at e0 e1 e2 e3;refine⟨⟨k,f,pc,ad,cap,l⟩,?_,r3,bf,l3,m3⟩;obtain⟨a1,a2,a3,a4,a5,a6⟩:=e1;rw[e0,a1,a2,a3,a4,a5,a6,e2,e3];rfl
theorem tG_ {n:Nat} {cs:List Value} {x:DataW H×List MemPlace} (h:DataW.trod enc P W 0 (fun _=>true) true n tXs cs=some x) (hw:wok (x.1.weights P tXs)) :
    ∃ (l:List Stp) (ad:Option Addr) (cap:Nat),cs=[.slice ad l.length cap]∧bH_ (vw W) ad (l.flatMap Stp.cells)∧(∀ y∈l,srd W y)∧l.length≤cap∧cap≤1256584717424:=by
  have:Inhabited Stp:=⟨⟨0,zfc,0,none,0,[]⟩⟩;obtain⟨l,ad,cap,e,hrow,hq,hlc,hcap⟩:=iZ_ Stp.cells 9 Stp.cells_len (by decide) (srd W) Y.xs Y.cx (fun m' _ cs' y hy hwy=>vC_ X Y hy hwy) h hw;rw[Y.bx]at hcap;simp only[reachBytes]at hcap;exact⟨l,ad,cap,e,hrow,hq,hlc,by omega⟩
theorem vD_ {n:Nat} {cs:List Value} {x:DataW H×List MemPlace} (h:DataW.trod enc P W 0 (fun _=>true) true n tQ cs=some x) (hw:wok (x.1.weights P tQ)):∃ y:Pf,cs=y.cells∧prd W y:=by
  obtain⟨fs,hu,hL⟩:=Y.q;obtain⟨xs,m,hn2,hx,hl,hlen,hf,hwe⟩:=fields_of hu hL h;rw[hwe]at hw
  match xs,hlen with
  | [x0],_ =>
  simp only[List.map_cons,List.map_nil,DataW.weightsEach,eF_]at hw;have f0:=hf 0 _ rfl;simp only[List.getElem?_cons_zero,Y.cxs]at f0;obtain⟨l,ad,cap,e0,h1,h2,h3,h4⟩:=tG_ X Y f0 hw.1;rw[Y.cq]at hl;rw[List.drop_zero,List.take_of_length_le (by omega)]at e0;exact⟨⟨l,ad,cap⟩,e0,h1,h2,h3,h4⟩
variable {base:Nat} {v:Value} {d:DataW H} {ps:List MemPlace}
theorem uX_ (hqs:P.underlying tQs=some (.slice tQ)) (hbq:P.bytesOf tQ=24) (hval:Value.okWide P W .any base tQs v) (h:DataW.Trod enc P W 0 (fun _=>true) true tQs v d ps) (hw:wok (d.weights P tQs)) :
    ∃ (l:List Pf) (ad:Option Addr) (cap:Nat),v=.slice ad l.length cap∧bH_ (vw W) ad (l.flatMap Pf.cells)∧(∀ y∈l,prd W y)∧l.length≤cap∧cap≤11728124029611:=by
  obtain⟨a,len,cap,rfl⟩:=okWide_slice hqs hval;obtain⟨n,hn⟩:=h;have:Inhabited Pf:=⟨⟨[],none,0⟩⟩;obtain⟨l,ad,cap',e,h1,h2,h3,h4⟩:=iZ_ Pf.cells 1 Pf.cells_len (by decide) (prd W) hqs Y.cq (fun m' _ cs' y hy hwy=>vD_ X Y hy hwy) hn hw;rw[hbq]at h4;simp only[reachBytes]at h4;simp only[Value.cells,List.cons.injEq,and_true]at e;exact⟨l,ad,cap',e,h1,h2,h3,by omega⟩
end
section
variable {H:Type} {enc:TypeId×Value→H} {P:Program} {W:World} {tI tB tS tSs tC tCs tA tAs tP tPs:TypeId} (X:Tys P tI tB tS tSs tC tCs tA tAs tP tPs) {base:Nat} {v:Value} {d:DataW H} {ps:List MemPlace}
include X
end
section
variable {H:Type} {enc:TypeId×Value→H} {P:Program} {W:World} {tI tS tF tIs tX tXs tQ tU tUs:TypeId} (Y:TysR P tI tS tF tIs tX tXs tQ tU tUs) {base:Nat} {v:Value} {d:DataW H} {ps:List MemPlace}
include Y
end
end Go.Proofs.YtaffcjgphlhppaaGreatDoor
