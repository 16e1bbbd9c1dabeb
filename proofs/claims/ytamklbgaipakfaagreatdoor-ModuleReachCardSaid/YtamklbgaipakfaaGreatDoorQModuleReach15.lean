/-
  Part of the proof of the law ModuleReach over this seat: the small logic, the data, the contracts of functions (no condition).
-/
import Derived.Test.YtamklbgaipakfaaGreatDoorQModuleReach14
import Derived.Test.YtamklbgaipakfaaGreatDoorQModuleReach12
import Derived.Test.YtamklbgaipakfaaGreatDoorQModuleReach9
import Derived.Test.YtamklbgaipakfaaGreatDoorQModuleReach13
import Derived.Test.YtamklbgaipakfaaGreatDoorQModuleReach8
import Derived.Test.YtamklbgaipakfaaGreatDoorQModuleReach10
set_option linter.unusedVariables false
set_option linter.unusedSimpArgs false
set_option linter.unusedSectionVars false
set_option maxHeartbeats 1000000
namespace Go.Proofs.YtamklbgaipakfaaGreatDoor
open Go Go.Sx Go.Proofs
attribute [local irreducible] Code.wp wpList wpAnyH
open Go.Vs
theorem mh_ {a b:Str} (h:str a=str b):a=b:=by
  have h2:=congrArg (fun z:ByteArray=>z.data.toList) (Value.string.inj h)
  simpa using h2
def oY_ (P:Program) (gf:FuncId) (caps:List Value) (Hc:Hp) (Rc:List Str→Prop):Prop:=∀ {σ:Type} (l:Nat) (Gj:σ→Hp) (lst:σ→List Str),(∀ s x,(lst s).length<100000000→im_ P l (str x) (Gj s) [] (fun _:{s':σ // lst s'=lst s++[x]}=>.bool true) (fun s'=>Gj s'.1) (fun _=>[]))→∀ s0,lst s0=[] →
  Tri P gf (.func (.yield l) #[] #[]::caps).toArray (Hc++Gj s0) [] (fun _:{s':σ // Rc (lst s')}=>.tuple #[]) (fun s'=>Hc++Gj s'.1) (fun _=>[])
theorem sb_ {C Q:Hp} {c d e:Nat×Obj}:(C++(c::Q)++[d,e]).Perm (e::(C++(c::(Q++[d])))):=by
  have h1:C++(c::Q)++[d,e]=(C++(c::(Q++[d])))++[e]:=by simp
  rw[h1];exact List.perm_append_comm
theorem pf_D10 {C Q:Hp} {c d:Nat×Obj}:(C++(c::(Q++[d]))).Perm ((C++Q)++[c,d]):=by
  have h1:(C++Q)++[c,d]=C++((Q++[c])++[d]):=by simp
  rw[h1]
  exact List.Perm.append_left C (List.Perm.append_right [d] (show ([c]++Q).Perm _ from List.perm_append_comm))
theorem pe_ {L q:List Str} (h:L.Perm q) (hn:q.Nodup):dI_ L=dI_ q:=by
 have strict:∀ l:List Str,l.Nodup→SrS (dI_ l):=fun l hl=>by
   have h1:=jq_ l
   have h2:(dI_ l).Nodup:=(List.mergeSort_perm _ _).nodup_iff.2 hl
   unfold List.Nodup at h2
   refine List.Pairwise.imp (fun {a b} hab=>?_) (h1.and h2)
   by_cases g:a<b
   · exact g
   · exact absurd (List.le_antisymm hab.1 (List.not_lt.1 g)) hab.2
 exact lh_ (strict L (h.nodup_iff.2 hn)) (strict q hn) fun x=>by rw[List.mem_mergeSort,List.mem_mergeSort,h.mem_iff]
theorem qS_ {σ:Type} {l:Nat} {Gj:σ→Hp} {lst:σ→List Str} (hY:∀ s x,(lst s).length<100000000→im_ Tryz.prog l (str x) (Gj s) [] (fun _:{s':σ // lst s'=lst s++[x]}=>.bool true) (fun s'=>Gj s'.1) (fun _=>[])) (s0:σ) (hs0:lst s0=[]) (mb bx c:Nat) (es:Array MapEntry) (q:List Str) (hE:KeyE str es q) (hB:Born es c) (hql:q.length≤100000000):Tri Tryz.prog 239 #[.func (.yield l) #[] #[],zp_ bx 0] ((bx,.cells #[.map (some mb)] 165 (0,0))::(mb,.map es c)::Gj s0) [] (fun _:{s':σ // (lst s').Perm q}=>.tuple #[]) (fun s'=>(bx,.cells #[.map (some mb)] 165 (0,0))::(mb,.map es c)::Gj s'.1) (fun _=>[]):=by
 refine o_ Tryz.func239 rfl rfl Tryz.ntmps239 rfl fun v0=>?_
 refine Zz 3 ?_
 refine kI_ 1 Tryz.underlying165 rfl rfl rfl fun rr=>Zz 3 ?_
 refine aO_ (ι:={y:List Str×Array Nat×Nat×σ // ItS str es y.2.1 y.1∧c≤y.2.2.1∧lst y.2.2.2=y.1∧(∀ z∈y.1,z∈q)}) (fun y=>[(0,.func (.yield l) #[] #[]),(1,zp_ bx 0),(5,zp_ rr 0)]) (fun y=>((rr,.mapIter (some mb) c y.1.2.1 y.1.2.2.1)::((bx,.cells #[.map (some mb)] 165 (0,0))::((mb,.map es c)::(Gj y.1.2.2.2))))) (fun y=>[]) (fun y=>List.length q - List.length y.1.1) ⟨([],#[],c,s0),ItS.nil,Nat.le_refl _,hs0,by simp⟩ zl zp zt ?_
 rintro ⟨⟨done,seen,c0,s⟩,hI,hsc,hls,hsub⟩
 dsimp only at hI hsc hls hsub ⊢
 refine Zz 2 ?_
 refine mH_ 0 2 rfl rfl rfl hB.lt hsc rfl (fun h0=>?_) (fun e he=>?_)
 ·refine Zz 7 ?_
  exact fd_ Tryz.results239 ⟨s,by rw[hls];exact hI.endK (fun _ _=>mh_) hE h0⟩ rfl zp zt
 obtain⟨k,hkq,hkd,hkv,hem,hI2⟩:=hI.stepK (fun _ _=>mh_) hE hB he
 refine Zz 10 ?_
 refine c_ (br_ (kk_ 0 2 rfl rfl rfl hem hB) (show _=Value.tuple #[str k,e.val] by rw[hkv])) rfl (Zz 5 ?_)
 refine fm_ (ι:={s':σ // lst s'=lst s++[k]}) (fun _=>[(0,.func (.yield l) #[] #[]),(1,zp_ bx 0),(5,zp_ rr 0),(13,.bool false)]) (fun z=>((rr,.mapIter (some mb) c (seen.push e.born) c)::((bx,.cells #[.map (some mb)] 165 (0,0))::((mb,.map es c)::(Gj z.1))))) (fun _=>[]) ?_ ?_
 ·refine bj_ ?_
  refine ax_ aj_ (q_ rfl) rfl rfl ?_
  refine ax_ aj_ (q_ rfl) rfl rfl ?_
  refine eh_ (hY s k (by rw[hls];have:=eU_ hI2.nd (m:=q) (fun z hz=>by rcases List.mem_append.1 hz with hz|hz;exact hsub z hz;rw[List.mem_singleton]at hz;exact hz▸hkq);rw[List.length_append,List.length_singleton]at this;omega)) rfl rfl (C_ (C_ bo_)) zt rfl fun z=>?_
  refine ax_ aj_ (aE_ rfl) rfl rfl ?_
  refine bX_ ?_
  refine cE_ rfl ?_
  exact dd_ z zl zp zh
 rintro ⟨s',hs'⟩
 dsimp only
 refine Zz 4 ?_
 exact R_ ⟨(done++[k],seen.push e.born,c,s'),hI2,Nat.le_refl _,by rw[hs',hls],fun z hz=>by rcases List.mem_append.1 hz with hz|hz;exact hsub z hz;rw[List.mem_singleton]at hz;exact hz▸hkq⟩ (by have:=eU_ hI2.nd (m:=q) (fun z hz=>by rcases List.mem_append.1 hz with hz|hz;exact hsub z hz;rw[List.mem_singleton]at hz;exact hz▸hkq);rw[List.length_append,List.length_singleton]at this;dsimp only;rw[List.length_append,List.length_singleton];omega) zl (aF_ t_ (aF_ t_ (aF_ t_ bh_))) zt
theorem sj_ (mb bx c:Nat) (es:Array MapEntry) (q:List Str) (hE:KeyE str es q) (hB:Born es c) (hql:q.length≤100000000):oY_ Tryz.prog 239 [zp_ bx 0] [(bx,.cells #[.map (some mb)] 165 (0,0)),(mb,.map es c)] (fun L=>L.Perm q) :=
  fun l Gj lst hY s0 hs0=>qS_ hY s0 hs0 mb bx c es q hE hB hql
theorem si_ (mb:Nat):Tri Tryz.prog 185 #[.map (some mb)] [] [] (fun bx:Nat=>.func (.func 239) #[] #[zp_ bx 0]) (fun bx=>[(bx,.cells #[.map (some mb)] 165 (0,0))]) (fun _=>[]):=by
  refine o_ Tryz.func185 rfl rfl Tryz.ntmps185 rfl fun v0=>?_
  refine Zz 2 ?_
  refine ah_ rfl rfl fun b1=>Zz 5 ?_
  refine c_ (eO_ rfl rfl) rfl (Zz 4 ?_)
  exact G_ Tryz.results185 b1 rfl (F:=[]) (.refl _) zt
theorem qG_ {C Q G:Hp} {c:Nat×Obj}:(C++(c::Q)++G).Perm (c::(C++(Q++G))):=by
  have h1:C++(c::Q)++G=C++([c]++(Q++G)):=by simp
  rw[h1,← List.append_assoc]
  exact List.Perm.append_right (Q++G) (List.perm_append_comm (l₁:=C) (l₂:=[c])) |>.trans (by simp)
theorem pW_ (gf:FuncId) (caps:List Value) (Hc:Hp) (Rc:List Str→Prop) (hIt:oY_ Tryz.prog gf caps Hc Rc):Tri Tryz.prog 250 #[.slice none 0 0,.func (.func gf) #[] caps.toArray] Hc [] (fun y:{y:Value×Hp×List Str // aG_ 9 1 y.1 y.2.2.length (y.2.2.flatMap aH_) y.2.1∧Rc y.2.2}=>y.1.1) (fun y=>Hc++y.1.2.1) (fun _=>[]):=by
 refine eq_ Tryz.func250 rfl rfl Tryz.ntmps250 rfl fun v0=>?_
 refine Zz 2 ?_
 refine ah_ rfl rfl fun b1=>Zz 10 ?_
 refine aN_ [(2,zp_ b1 0),(6,.func (.func gf) #[] caps.toArray)] zl ?_
 refine nt_ (σ:={y:Value×Hp×List Str // aG_ 9 1 y.1 y.2.2.length (y.2.2.flatMap aH_) y.2.1}) (α:=Str) (xv:=fun x=>str x) (good:=fun s _=>s.1.2.2.length<100000000) (nx:=fun x s s'=>s'.1.2.2=s.1.2.2++[x]) (Rc:=fun s=>Rc s.1.2.2) (Γi:=[]) (Hj:=fun y=>(b1,.cells #[y.1.1] 23 (0,0))::y.1.2.1) (Hc:=Hc) (caps:=caps) ⟨(.slice none 0 0,[],[]),aG_.nil _ _⟩ rfl (@List.perm_append_comm _ [_] _) zt ?_ ?_ ?_
 ·rintro l D rec hpa hst hpe ht hasg hbody ⟨⟨sv,Hq,L⟩,hr⟩ x hx1
  dsimp only at hr hx1 ⊢
  refine gE_ (ι:=Unit) (Hj:=fun y:{y:Value×Hp×List Str // aG_ 9 1 y.1 y.2.2.length (y.2.2.flatMap aH_) y.2.1}=>(b1,.cells #[y.1.1] 23 (0,0))::y.1.2.1) (s:=⟨(sv,Hq,L),hr⟩) (ok:=fun s'=>s'.1.2.2=L++[x]) (Γ:=[]) (fun _=>[(2,zp_ b1 0),(5,str x)]) (fun _=>(b1,.cells #[sv] 23 (0,0))::Hq) hpa hst hpe ht rfl ?_ ?_
  ·intro n v0 H0 HL
   rw[hasg]
   dsimp only
   refine dk_.2 (W_ (H':=(b1,.cells #[sv] 23 (0,0))::(Hq++HL)) (by simp) (dk_.1 ?_))
   refine bj_ ?_
   refine ax_ (bC_ _) (n_ rfl) rfl rfl ?_
   refine bX_ ?_
   refine cE_ rfl ?_
   exact dd_ () zl (F:=[]) (by rw[List.append_nil];exact .refl _) zh
  intro n v0 H0 HL _
  rw[hbody]
  refine dk_.2 (W_ (H':=(b1,.cells #[sv] 23 (0,0))::(Hq++HL)) (by simp) (dk_.1 ?_))
  refine fn_ ?_
  refine bj_ ?_
  refine ax_ (bC_ _) (M_ 0 fw_ rfl rfl rfl) rfl rfl ?_
  refine ax_ (bC_ _) (q_ rfl) rfl rfl ?_
  refine kL_ (bC_ _) D_ O_ aR_ rfl rfl rfl rfl rfl rfl fun b3=>?_
  refine iF_ (bC_ _) (news:=List.flatMap aH_ [x]) oS_ hr rfl rfl zp rfl (bv_ 0 rfl) (fun u hu=>cU_ mi_ hu) (by simp only[maxLen];omega) (by omega) rfl fun sv1 Hr1 hr1=>?_
  have hq1:=zsa hr1
  refine mN_ (cT_ (bs_ t_) (ds_ (bs_ t_))) ?_
  refine ho_ (bC_ _) 1 hq1 bw_ rfl rfl rfl rfl ?_
  refine bX_ ?_
  refine cE_ rfl ?_
  exact gh_ ⟨(sv1,Hr1,(L++[x])),hq1⟩ rfl (lo_ (aF_ (C_ t_) (cq_ (C_ aY_) (cq_ bo_ t_))))
 ·intro l Gj hY
  exact hIt l Gj (fun y=>y.1.2.2) (fun s x h=>hY s x h) ⟨(.slice none 0 0,[],[]),aG_.nil _ _⟩ rfl
 rintro ⟨⟨sv,Hq,L⟩,hr⟩ hL D l r
 dsimp only at hL hr ⊢
 refine hZ_ (H':=(b1,.cells #[sv] 23 (0,0))::(Hc++(Hq++HLp l D r))) (F:=[]) (by rw[List.append_nil];exact qG_) zh ?_
 refine cL_ rfl ?_
 refine eQ_ ?_
 refine bj_ ?_
 refine ax_ aj_ (M_ 0 fw_ rfl rfl rfl) rfl rfl ?_
 refine ax_ aj_ (n_ rfl) rfl rfl ?_
 refine bX_ ?_
 refine cL_ rfl ?_
 refine fM_ ?_
 exact ky_ (G:=Hc++((b1,.cells #[sv] 23 (0,0))::(Hq++[(l,.loop r)]))) ⟨(sv,Hq,L),hr,hL⟩ (fun a v h1 h2=>by have e:=h1.val 4 sv rfl;simp[results,Tryz.results250,e]) (qG_.symm.trans (by unfold HLp;exact sb_)) ⟨_,pf_D10⟩ rfl
theorem ob_ (gf:FuncId) (caps:List Value) (Hc:Hp) (Rc:List Str→Prop) (hIt:oY_ Tryz.prog gf caps Hc Rc):Tri Tryz.prog 200 #[.func (.func gf) #[] caps.toArray] Hc [] (fun y:{y:Value×Hp×List Str // aG_ 9 1 y.1 y.2.2.length (y.2.2.flatMap aH_) y.2.1∧Rc y.2.2}=>y.1.1) (fun y=>Hc++y.1.2.1) (fun _=>[]):=by
  refine o_ Tryz.func200 rfl rfl Tryz.ntmps200 rfl fun v0=>?_
  refine Zz 8 ?_
  refine i_ (pW_ gf caps Hc Rc hIt) rfl bh_ zt rfl fun⟨⟨sv1,Hq1,L1⟩,hr1,hL1⟩=>?_
  dsimp only
  dsimp only at hr1 hL1 ⊢
  simp only[List.append_assoc,List.append_nil]
  refine Zz 4 ?_
  exact G_ Tryz.results200 ⟨(sv1,Hq1,L1),hr1,hL1⟩ rfl zp zt
theorem ph_ (gf:FuncId) (caps:List Value) (Hc:Hp) (q:List Str) (hqn:q.Nodup) (hql:q.length≤100000000) (hIt:oY_ Tryz.prog gf caps Hc (fun L=>L.Perm q)):Tri Tryz.prog 127 #[.func (.func gf) #[] caps.toArray] Hc [] (fun y:{y:Option Addr×Nat // (dI_ q).length≤y.2∧y.2≤maxLen∧(y.1=none→y.2=0)}=>.slice y.1.1 (dI_ q).length y.1.2) (fun _=>Hc) (fun y=>[aw_ y.1.1 ((dI_ q).flatMap aH_)]):=by
  refine o_ Tryz.func127 rfl rfl Tryz.ntmps127 rfl fun v0=>?_
  refine Zz 8 ?_
  refine i_ (ob_ gf caps Hc (fun L=>L.Perm q) hIt) rfl bh_ zt rfl fun⟨⟨sv1,Hq1,L1⟩,hr1,hL1⟩=>?_
  dsimp only
  dsimp only at hr1 hL1 ⊢
  simp only[List.append_assoc,List.append_nil]
  refine Zz 6 ?_
  refine i_ (li_ hr1 (by have:=hL1.length_eq;omega)) rfl dx_ zt rfl fun⟨Hq9,hq9⟩=>?_
  dsimp only
  have hs9:aG_ 9 1 sv1 (List.length (dI_ q)) (List.flatMap aH_ (dI_ q)) Hq9:=by rw[← pe_ hL1 hqn,show (dI_ L1).length=L1.length from List.length_mergeSort _];exact hq9
  refine Zz 9 ?_
  refine aQ_ hs9 aY_ fun ad2 cp2 had2 hcad2 hmad2 hzad2=>?_
  exact G_ Tryz.results127 ⟨(ad2,cp2),hcad2,hmad2,hzad2⟩ (bO_ rfl had2) bh_ zf
end Go.Proofs.YtamklbgaipakfaaGreatDoor
namespace Go.Proofs.YtamklbgaipakfaaGreatDoor
open Go Go.Sx Go.Proofs
attribute [local irreducible] Code.wp wpList wpAnyH
open Go.Vs
theorem strt94:iU_ Tryz.prog 94 [(0,16)] [.int .i64 0,.bool false,.int .i64 0,str [],.int .i64 0,.int .i64 0,.slice none 0 0,.int .i64 0,str [],.int .i64 0,.int .i64 0,.slice none 0 0,.slice none 0 0,str [],str [],str []]:=⟨_,Tryz.zeroValue94,cB_,fun w=>by simp[ad_]⟩
def pln (x:Ax):Prop:=x.kind=1∧x.left.kind=3∧x.right.kind=3
theorem lc_ {x:Ax} (hok:x.ok) (hC:x.check=0):Tri Tryz.prog 65 #[x.val] [] [x.memF,ck_] (fun _:Unit=>.int .i64 0) (fun _=>[]) (fun _=>[]):=by
  have h:=gt_ x hok
  rw[hC]at h
  exact h
theorem oq_ (c:Con) (hk:c.kind=3):Tri Tryz.prog 94 #[Con.val c] [] [] (fun _:Unit=>.tuple #[c.val,.int .i64 0]) (fun _=>[]) (fun _=>[]):=by
 refine o_ Tryz.func94 rfl rfl Tryz.ntmps94 rfl fun v0=>?_
 refine Zz 2 ?_
 refine ah_ rfl rfl fun b1=>au_ bL_ rfl fun b2=>Zi 13 (fun hr1=>?_) fun hr1=>?_
 ·refine Zi 6 (fun hr2=>?_) fun hr2=>?_
  ·refine Zz 9 ?_
   refine aa_ 0 g_ rfl rfl rfl rfl rfl rfl (Zz 4 ?_)
   exact fB_ () (fun aa v h1 h2=>ny_ (us:=Con.cells c) 0 Tryz.results94 w_ g_ rfl rfl rfl rfl aa v h1 h2) f_ zt
  exfalso;omega
 exfalso;omega
theorem pc_ (x:Ax) (hok:x.ok) (hC:x.check=0) (hP:pln x):Tri Tryz.prog 48 #[Ax.val x] [] [Ax.memF x,ck_] (fun _:Unit=>.tuple #[x.val,.int .i64 0]) (fun _=>[]) (fun _=>[]):=by
 refine o_ Tryz.func48 rfl rfl Tryz.ntmps48 rfl fun v0=>?_
 have hk1:=hP.1
 refine Zz 2 ?_
 refine ah_ rfl rfl fun b1=>au_ bm_ rfl fun b2=>Zz 7 ?_
 refine i_ (lc_ hok hC) rfl f_ zf rfl fun _=>Zz 6 ?_
 refine c_ (br_ (bU_ rfl rfl) (show _=Value.bool false from congrArg Value.bool (by decide))) rfl (Zz 9 ?_)
 refine c_ (gb_ Tryz.runUnderlying151 dn_ rfl rfl (by show (0:Int)≤x.kind;omega) (by show x.kind<(10:Int);omega)) rfl ?_
 refine c_ (al_ (ad:=some ⟨0,0,none⟩) (us:=Use.cells ⟨true,true,false,false,false,0,0⟩) sO_ dn_ rfl (fun v _ h=>h.2.1.2.1) (Use.cells_len _) (H_ Use.cells_len (show iP_[(Ax.kind x).toNat]? = some _ from by rw[hP.1];rfl))) rfl ?_
 refine au_ Tryz.zeroValue150 rfl fun b3=>aa_ 0 dn_ rfl rfl rfl rfl rfl rfl (Zz 5 ?_)
 refine aa_ 1 ad_ rfl rfl rfl rfl rfl rfl (Zz 14 ?_)
 refine i_ (oq_ (Ax.left x) hP.2.1) rfl f_ zt rfl fun _=>Zz 4 ?_
 refine aa_ 1 g_ rfl rfl rfl rfl rfl rfl (Zz 6 ?_)
 refine c_ (br_ (bU_ rfl rfl) (show _=Value.bool false from congrArg Value.bool (by decide))) rfl (Zz 17 ?_)
 refine i_ (oq_ (Ax.right x) hP.2.2) rfl f_ zt rfl fun _=>Zz 4 ?_
 refine aa_ 1 g_ rfl rfl rfl rfl rfl rfl (Zz 6 ?_)
 refine c_ (br_ (bU_ rfl rfl) (show _=Value.bool false from congrArg Value.bool (by decide))) rfl (Zi 10 (fun hr1=>?_) fun hr1=>?_)
 ·refine Zi 6 (fun hr2=>?_) fun hr2=>?_
  ·refine Zz 17 ?_
   refine aa_ 1 ad_ rfl rfl rfl rfl rfl rfl (Zz 4 ?_)
   exact fB_ () (fun aa v h1 h2=>ny_ (us:=Ax.cells x) 1 Tryz.results48 bB_ ad_ rfl rfl rfl rfl aa v h1 h2) f_ zt
  exfalso;have:=hP.1;omega
 exfalso;have:=hP.1;omega
theorem sD_ (x y:Ax) (hok1:x.ok) (hok2:y.ok) (hz1l:x.left.sz≤1000000) (hz1r:x.right.sz≤1000000) (hz2l:y.left.sz≤1000000) (hz2r:y.right.sz≤1000000):Tri Tryz.prog 54 #[.agg #[.int .i64 (Ax.kind x),.bool (Ax.opn x),.int .i64 (Con.kind (Ax.left x)),str (Con.name (Ax.left x)),.int .i64 (Con.lo (Ax.left x)),.int .i64 (Con.hi (Ax.left x)),.slice (Con.ad (Ax.left x)) (List.length (Con.parts (Ax.left x))) (Con.cap (Ax.left x)),.int .i64 (Con.kind (Ax.right x)),str (Con.name (Ax.right x)),.int .i64 (Con.lo (Ax.right x)),.int .i64 (Con.hi (Ax.right x)),.slice (Con.ad (Ax.right x)) (List.length (Con.parts (Ax.right x))) (Con.cap (Ax.right x)),.slice (Ax.ad x) (List.length (Ax.roles x)) (Ax.cap x),str (Ax.role x),str (Ax.a x),str (Ax.b x)],Ax.val y] [] [Ax.memF x,Ax.memF y] (fun _:Unit=>.bool (Ax.cmp x y==0)) (fun _=>[]) (fun _=>[]):=by
  refine o_ Tryz.func54 rfl rfl Tryz.ntmps54 rfl fun v0=>?_
  refine Zz 2 ?_
  refine ah_ rfl rfl fun b1=>ah_ rfl rfl fun b2=>Zz 8 ?_
  refine i_ (oW_ x y hok1 hok2 hz1l hz1r hz2l hz2r) rfl f_ zf rfl fun _=>s_ (V_ rfl rfl) rfl fun r1 hr1=>Zz 4 ?_
  exact G_ Tryz.results54 () (l_ rfl (by rw[← hr1])) f_ zt
theorem st_ (x y:Ax) (hok1:x.ok) (hok2:y.ok) (hz1l:x.left.sz≤1000000) (hz1r:x.right.sz≤1000000) (hz2l:y.left.sz≤1000000) (hz2r:y.right.sz≤1000000):Tri Tryz.prog 49 #[.agg #[.int .i64 (Ax.kind x),.bool (Ax.opn x),.int .i64 (Con.kind (Ax.left x)),str (Con.name (Ax.left x)),.int .i64 (Con.lo (Ax.left x)),.int .i64 (Con.hi (Ax.left x)),.slice (Con.ad (Ax.left x)) (List.length (Con.parts (Ax.left x))) (Con.cap (Ax.left x)),.int .i64 (Con.kind (Ax.right x)),str (Con.name (Ax.right x)),.int .i64 (Con.lo (Ax.right x)),.int .i64 (Con.hi (Ax.right x)),.slice (Con.ad (Ax.right x)) (List.length (Con.parts (Ax.right x))) (Con.cap (Ax.right x)),.slice (Ax.ad x) (List.length (Ax.roles x)) (Ax.cap x),str (Ax.role x),str (Ax.a x),str (Ax.b x)],Ax.val y] [] [Ax.memF x,Ax.memF y] (fun _:Unit=>.bool ((x.opn==y.opn)&&(Ax.cmp x y==0))) (fun _=>[]) (fun _=>[]):=by
 refine o_ Tryz.func49 rfl rfl Tryz.ntmps49 rfl fun v0=>?_
 refine Zz 2 ?_
 refine ah_ rfl rfl fun b1=>ah_ rfl rfl fun b2=>Zz 10 ?_
 refine s_ (ma_ Tryz.underlying4 rfl rfl) rfl fun r1 hr1=>Zz 1 ?_
 cases r1
 ·refine Zz 8 ?_
  exact G_ Tryz.results49 () (l_ rfl (by simp only[hr1,if_true,if_false,decide_true,decide_false,Bool.and_true,Bool.and_false,Bool.true_and,Bool.false_and,Bool.or_true,Bool.or_false,Bool.true_or,Bool.false_or,Bool.not_true,Bool.not_false,ne_eq,not_true_eq_false,not_false_eq_true,true_and,and_true,false_and,and_false,true_or,or_true,false_or,or_false,ite_true,ite_false,Bool.false_eq_true])) f_ zt
 refine Zz 5 ?_
 refine N_ (sD_ x y hok1 hok2 hz1l hz1r hz2l hz2r) rfl f_ zf rfl fun r2 hr2=>Zz 5 ?_
 exact G_ Tryz.results49 () (l_ rfl (by rw[← hr2];simp only[hr1,if_true,if_false,decide_true,decide_false,Bool.and_true,Bool.and_false,Bool.true_and,Bool.false_and,Bool.or_true,Bool.or_false,Bool.true_or,Bool.false_or,Bool.not_true,Bool.not_false,ne_eq,not_true_eq_false,not_false_eq_true,true_and,and_true,false_and,and_false,true_or,or_true,false_or,or_false,ite_true,ite_false,Bool.false_eq_true])) f_ zt
def mo_ (x:Ax):Bool:=(x.kind==5)||(x.kind==6)||(x.kind==7)
theorem of_ (x:Ax):Fn0 Tryz.prog 51 #[Ax.val x] (.bool (mo_ x)):=by
 refine o_ Tryz.func51 rfl rfl Tryz.ntmps51 rfl fun v0=>?_
 refine Zz 2 ?_
 refine ah_ rfl rfl fun b1=>Zi 7 (fun hr1=>?_) fun hr1=>?_
 ·refine Zi 6 (fun hr2=>?_) fun hr2=>?_
  ·refine Zz 7 ?_
   refine s_ (V_ rfl rfl) rfl fun r3 hr3=>Zz 5 ?_
   exact G_ Tryz.results51 () (l_ rfl (by unfold mo_;simp_all)) f_ zt
  refine Zz 10 ?_
  exact G_ Tryz.results51 () (l_ rfl (by unfold mo_;simp_all)) f_ zt
 refine Zz 14 ?_
 exact G_ Tryz.results51 () (l_ rfl (by unfold mo_;simp_all)) f_ zt
end Go.Proofs.YtamklbgaipakfaaGreatDoor
namespace Go.Proofs.YtamklbgaipakfaaGreatDoor
open Go Go.Sx Go.Proofs
attribute [local irreducible] Code.wp wpList wpAnyH
open Go.Vs
theorem nv_ (l:List Ax) (ad:Option Addr) (cap:Nat) (hok:∀ x∈l,x.ok) (hC:∀ x∈l,x.check=0) (hP:∀ x∈l,pln x) (hll:l.length≤1000):Tri Tryz.prog 101 #[.slice ad (List.length l) cap] [] [cH_ ad l,ck_] (fun _:Unit=>.int .i64 0) (fun _=>[]) (fun _=>[]):=by
 refine o_ Tryz.func101 rfl rfl Tryz.ntmps101 rfl fun v0=>?_
 refine Zz 14 ?_
 refine aO_ (ι:={y:Nat // y≤List.length l}) (fun y=>[(2,.int .i64 0),(6,.slice ad (List.length l) cap),(7,.int .i64 (List.length l:Int)),(8,.int .i64 (y.1:Int))]) (fun y=>([])) (fun y=>[cH_ ad l,ck_]) (fun y=>List.length l - y.1) ⟨(0:Nat),by simp⟩ zl f_ zh ?_
 rintro ⟨i,hi_i⟩
 dsimp only at hi_i ⊢
 refine Zi 2 (fun hr1=>?_) fun hr1=>?_
 ·refine Zz 12 ?_
  exact G_ Tryz.results101 () rfl f_ zt
 obtain⟨hlx1,x1,hx1,hmx1⟩:=zge (show i<List.length l by omega)
 have hkx:=hP x1 hmx1
 have hkx1:=hkx.1
 refine Zz 10 ?_
 refine c_ (T_ ae_ ad_ rfl rfl (fun v _ h=>J_ (n:=16) Ax.cells_len (by decide) (by exact h.1.1) hx1) (by omega) (by first|omega|(simp;done))) rfl ?_
 refine c_ (al_ (ad:=ad) (us:=Ax.cells x1) bB_ ad_ rfl (fun v _ h=>by exact h.1.1) (Ax.cells_len _) (H_ Ax.cells_len hx1)) rfl (au_ bm_ rfl fun b1=>aa_ 0 ad_ rfl rfl rfl rfl rfl rfl (Zz 5 ?_))
 refine i_ (lc_ (hok x1 hmx1) (hC x1 hmx1)) rfl f_ (fun v _ h=>by exact⟨(h.1.2 x1 hmx1),h.2.1,trivial⟩) rfl fun _=>Zz 6 ?_
 refine c_ (br_ (bU_ rfl rfl) (show _=Value.bool false from congrArg Value.bool (by decide))) rfl (Zz 10 ?_)
 exact R_ ⟨i+1,hlx1⟩ (by dsimp only;omega) zl f_ zh
theorem qn_ (l:List Ax) (ad:Option Addr) (cap:Nat) (hok:∀ x∈l,x.ok) (hC:∀ x∈l,x.check=0) (hP:∀ x∈l,pln x) (hll:l.length≤1000):Tri Tryz.prog 103 #[.slice ad (List.length l) cap] [] [cH_ ad l] (fun b:Nat=>.map (some b)) (fun b=>[(b,.map #[] 0)]) (fun _=>[]):=by
 refine o_ Tryz.func103 rfl rfl Tryz.ntmps103 rfl fun v0=>?_
 refine Zz 7 ?_
 refine ek_ rfl fun b1=>au_ Tryz.zeroValue165 rfl fun b2=>aa_ 0 Tryz.sizeOf165 rfl rfl rfl rfl rfl rfl (Zz 4 ?_)
 refine c_ (eO_ rfl rfl) rfl (Zz 12 ?_)
 refine aO_ (ι:={y:Nat // y≤List.length l}) (fun y=>[(2,.map none),(3,zp_ b2 0),(4,.func (.func 187) #[] #[zp_ b2 0]),(11,.slice ad (List.length l) cap),(12,.int .i64 (List.length l:Int)),(13,.int .i64 (y.1:Int))]) (fun y=>((b2,.cells #[.map (some b1)] 165 (0,0))::((b1,.map #[] 0)::[]))) (fun y=>[cH_ ad l]) (fun y=>List.length l - y.1) ⟨(0:Nat),by simp⟩ zl zp zh ?_
 rintro ⟨i,hi_i⟩
 dsimp only at hi_i ⊢
 refine Zi 2 (fun hr1=>?_) fun hr1=>?_
 ·refine Zz 13 ?_
  exact G_ Tryz.results103 b1 rfl zp zt
 obtain⟨hlx1,x1,hx1,hmx1⟩:=zge (show i<List.length l by omega)
 have hkx:=hP x1 hmx1
 have hkx1:=hkx.1
 refine Zz 10 ?_
 refine c_ (T_ ae_ ad_ rfl rfl (fun v _ h=>J_ (n:=16) Ax.cells_len (by decide) (by exact h.1.1) hx1) (by omega) (by first|omega|(simp;done))) rfl ?_
 refine c_ (al_ (ad:=ad) (us:=Ax.cells x1) bB_ ad_ rfl (fun v _ h=>by exact h.1.1) (Ax.cells_len _) (H_ Ax.cells_len hx1)) rfl (au_ bm_ rfl fun b3=>aa_ 0 ad_ rfl rfl rfl rfl rfl rfl (Zi 11 (fun hr2=>?_) fun hr2=>?_))
 ·refine Zi 6 (fun hr3=>?_) fun hr3=>?_
  ·refine Zz 11 ?_
   exact R_ ⟨i+1,hlx1⟩ (by dsimp only;omega) zl (aF_ (C_ t_) (C_ t_)) zh
  exfalso;omega
 exfalso;omega
theorem mO_ (mb:Nat):Tri Tryz.prog 102 #[.map (some mb)] [(mb,.map #[] 0)] [] (fun y:Option Addr×Nat=>.agg #[.slice y.1 (List.length (dI_ [])) y.2,.slice none 0 0]) (fun _=>[]) (fun y=>[aw_ y.1 (List.flatMap aH_ (dI_ []))]):=by
 refine o_ Tryz.func102 rfl rfl Tryz.ntmps102 rfl fun v0=>?_
 refine Zz 2 ?_
 refine au_ Tryz.zeroValue163 rfl fun b1=>Zz 5 ?_
 refine i_ (si_ mb) rfl f_ zt rfl fun bx=>i_ (ph_ 239 [zp_ bx 0] [(bx,.cells #[.map (some mb)] 165 (0,0)),(mb,.map #[] 0)] [] List.nodup_nil (by simp) (sj_ mb bx 0 #[] [] KeyE.nil (Born.nil 0) (by simp))) rfl zp zt rfl fun⟨⟨sad9,scp9⟩,hs91,hs92,hs93⟩=>?_
 dsimp only
 have hs0:dI_ []=[]:=List.mergeSort_nil
 have hsl0:List.length (dI_ [])=0:=by rw[hs0];rfl
 refine Zz 1 ?_
 refine aa_ 2 bw_ rfl rfl rfl rfl rfl rfl (Zz 12 ?_)
 refine aO_ (ι:={y:Nat // y≤List.length (dI_ [])}) (fun y=>[(0,.map (some mb)),(2,zp_ b1 0),(15,.slice sad9 (List.length (dI_ [])) scp9),(16,.int .i64 (List.length (dI_ []):Int)),(17,.int .i64 (y.1:Int))]) (fun y=>((b1,.cells #[.slice sad9 (List.length (dI_ [])) scp9,.slice none 0 0] 163 (0,0))::[])) (fun y=>[aw_ sad9 (List.flatMap aH_ (dI_ []))]) (fun y=>List.length (dI_ []) - y.1) ⟨(0:Nat),by simp⟩ zl (C_ (C_ t_)) zh ?_
 rintro ⟨i,hi_i⟩
 dsimp only at hi_i ⊢
 refine Zi 2 (fun hr1=>?_) fun hr1=>?_
 ·refine Zz 9 ?_
  refine aa_ 0 Tryz.sizeOf163 rfl rfl rfl rfl rfl rfl (Zz 3 ?_)
  exact fB_ ⟨sad9,scp9⟩ (fun aa v h1 h2=>bZ_ (us:=[.slice sad9 (List.length (dI_ [])) scp9,.slice none 0 0]) 0 Tryz.results102 Tryz.isAgg163 Tryz.sizeOf163 rfl rfl rfl aa v h1 h2) f_ zf
 exfalso;rw[hs0]at *;simp only[List.length_nil]at *;omega
theorem nw_ (l:List Ax) (ad:Option Addr) (cap:Nat) (hok:∀ x∈l,x.ok) (hC:∀ x∈l,x.check=0) (hP:∀ x∈l,pln x) (hll:l.length≤1000):Tri Tryz.prog 52 #[.slice ad (List.length l) cap] [] [cH_ ad l,ck_] (fun _:Unit=>.tuple #[.slice none 0 0,.int .i64 0]) (fun _=>[]) (fun _=>[]):=by
 refine o_ Tryz.func52 rfl rfl Tryz.ntmps52 rfl fun v0=>?_
 refine Zz 10 ?_
 refine i_ (nv_ l ad cap hok hC hP hll) rfl f_ zf rfl fun _=>Zz 6 ?_
 refine c_ (br_ (bU_ rfl rfl) (show _=Value.bool false from congrArg Value.bool (by decide))) rfl (Zz 8 ?_)
 refine i_ (qn_ l ad cap hok hC hP hll) rfl f_ zf rfl fun mb=>i_ (mO_ mb) rfl t_ zt rfl fun⟨sad9,scp9⟩=>?_
 dsimp only
 have hs0:dI_ []=[]:=List.mergeSort_nil
 have hsl0:List.length (dI_ [])=0:=by rw[hs0];rfl
 refine au_ Tryz.zeroValue163 rfl fun b1=>aa_ 0 Tryz.sizeOf163 rfl rfl rfl rfl rfl rfl (Zz 26 ?_)
 refine aO_ (ι:={y:Nat // y≤List.length (dI_ [])}) (fun y=>[(2,.slice none 0 0),(3,.int .i64 0),(5,zp_ b1 0),(6,.int .i64 ((List.length (dI_ []):Int)+1)),(7,.slice none 0 0),(26,.int .i64 (List.length (dI_ []):Int)),(27,.int .i64 (y.1:Int))]) (fun y=>((b1,.cells #[.slice sad9 (List.length (dI_ [])) scp9,.slice none 0 0] 163 (0,0))::[])) (fun y=>[aw_ sad9 (List.flatMap aH_ (dI_ [])),cH_ ad l,ck_]) (fun y=>List.length (dI_ []) - y.1) ⟨(0:Nat),by simp⟩ zl t_ zh ?_
 rintro ⟨i,hi_i⟩
 dsimp only at hi_i ⊢
 refine Zi 2 (fun hr1=>?_) fun hr1=>?_
 ·refine Zz 10 ?_
  refine c_ (br_ (qa_ (ad:=none) (m:=0) (c:=0) Tryz.underlying27 rfl rfl) (show _=Value.bool true from rfl)) rfl (Zz 10 ?_)
  exact fv_ Tryz.results52 () rfl rfl rfl f_ zt
 exfalso;rw[hs0]at *;simp only[List.length_nil]at *;omega
theorem lQ_ (l:List Ax) (ad:Option Addr) (cap:Nat) (hok:∀ x∈l,x.ok) (hC:∀ x∈l,x.check=0) (hP:∀ x∈l,pln x) (hll:l.length≤1000) (hz:∀ x∈l,x.left.sz≤1000000∧x.right.sz≤1000000) (hS:∀ (i:Nat) x y,l[i]? = some x→l[i+1]? = some y→Ax.cmp x y=-1):Tri Tryz.prog 19 #[.agg #[.slice ad (List.length l) cap]] [] [cH_ ad l,ck_] (fun _:Unit=>.int .i64 0) (fun _=>[]) (fun _=>[]):=by
 refine o_ Tryz.func19 rfl rfl Tryz.ntmps19 rfl fun v0=>?_
 refine Zz 2 ?_
 refine ah_ rfl rfl fun b1=>Zz 13 ?_
 refine aO_ (ι:={y:Nat // y≤List.length l}) (fun y=>[(1,zp_ b1 0),(2,.int .i64 0),(11,.slice ad (List.length l) cap),(12,.int .i64 (List.length l:Int)),(13,.int .i64 (y.1:Int))]) (fun y=>((b1,.cells #[.slice ad (List.length l) cap] 37 (0,0))::[])) (fun y=>[cH_ ad l,ck_]) (fun y=>List.length l - y.1) ⟨(0:Nat),by simp⟩ zl t_ zh ?_
 rintro ⟨i,hi_i⟩
 dsimp only at hi_i ⊢
 refine Zi 2 (fun hr1=>?_) fun hr1=>?_
 ·refine Zz 13 ?_
  refine aO_ (ι:={y:Nat // 1≤y}) (fun y=>[(1,zp_ b1 0),(2,.int .i64 0),(7,.int .i64 (y.1:Int))]) (fun y=>((b1,.cells #[.slice ad (List.length l) cap] 37 (0,0))::[])) (fun y=>[cH_ ad l,ck_]) (fun y=>List.length l - y.1) ⟨(1:Nat),by simp⟩ zl t_ zh ?_
  rintro ⟨k3,hi1⟩
  dsimp only at hi1 ⊢
  refine Zi 7 (fun hr2=>?_) fun hr2=>?_
  ·refine Zi 11 (fun hr3=>?_) fun hr3=>?_
   ·refine Zz 15 ?_
    refine aO_ (ι:={y:Nat // y≤List.length l}) (fun y=>[(1,zp_ b1 0),(2,.int .i64 0),(56,.slice ad (List.length l) cap),(57,.int .i64 (List.length l:Int)),(58,.int .i64 (y.1:Int))]) (fun y=>((b1,.cells #[.slice ad (List.length l) cap] 37 (0,0))::[])) (fun y=>[cH_ ad l,ck_]) (fun y=>List.length l - y.1) ⟨(0:Nat),by simp⟩ zl t_ zh ?_
    rintro ⟨j,hi_j⟩
    dsimp only at hi_j ⊢
    refine Zi 2 (fun hr4=>?_) fun hr4=>?_
    ·refine Zz 10 ?_
     refine i_ (nw_ l ad cap hok hC hP hll) rfl f_ zf rfl fun _=>Zz 13 ?_
     exact G_ Tryz.results19 () rfl f_ zt
    have hlz1:j<List.length l:=by omega
    obtain⟨z1,hz1⟩:∃ e0,l[j]? = some e0:=⟨_,List.getElem?_eq_getElem hlz1⟩
    have hmz1:z1∈l:=List.mem_of_getElem? hz1
    have hkz:=(hP z1 hmz1).1
    refine Zz 10 ?_
    refine c_ (T_ ae_ ad_ rfl rfl (fun v _ h=>J_ (n:=16) Ax.cells_len (by decide) (by exact h.1.1) hz1) (by omega) (by first|omega|(simp;done))) rfl ?_
    refine c_ (al_ (ad:=ad) (us:=Ax.cells z1) bB_ ad_ rfl (fun v _ h=>by exact h.1.1) (Ax.cells_len _) (H_ Ax.cells_len hz1)) rfl (au_ bm_ rfl fun b2=>aa_ 0 ad_ rfl rfl rfl rfl rfl rfl (Zz 5 ?_))
    refine N_ (of_ z1) rfl f_ zt rfl fun r5 hr5=>Zz 1 ?_
    cases r5
    ·refine Zz 14 ?_
     exact R_ ⟨j+1,hlz1⟩ (by dsimp only;omega) zl (C_ t_) zh
    exfalso;simp[mo_,hkz]at *
   exfalso;omega
  obtain⟨i0,rfl⟩:∃ i0,k3=i0+1:=⟨k3 - 1,by omega⟩
  obtain⟨hlx1,x1,hx1,hmx1⟩:=zge (show i0<List.length l by omega)
  have hly1:(i0+1:Nat)<List.length l:=by omega
  obtain⟨y1,hy1⟩:∃ e0,l[(i0+1:Nat)]? = some e0:=⟨_,List.getElem?_eq_getElem hly1⟩
  have hmy1:y1∈l:=List.mem_of_getElem? hy1
  refine Zz 9 ?_
  refine U_ 2 [0,1,2,3,4,5,6,7,8,9,10] zk zs (Zz 3 ?_)
  refine y_ rfl (br_ (aA_ rfl rfl rfl (be_ (by omega) (by omega))) (show _=Value.int .i64 (i0:Int) from congrArg _ (by omega))) rfl ?_
  refine y_ rfl (T_ ae_ ad_ rfl rfl (fun v _ h=>J_ (n:=16) Ax.cells_len (by decide) (by exact h.1.1) hx1) (by omega) (by first|omega|(simp;done))) rfl ?_
  refine y_ rfl (al_ (ad:=ad) (us:=Ax.cells x1) bB_ ad_ rfl (fun v _ h=>by exact h.1.1) (Ax.cells_len _) (H_ Ax.cells_len hx1)) rfl (Zz 3 ?_)
  refine y_ rfl (T_ ae_ ad_ rfl rfl (fun v _ h=>J_ (n:=16) Ax.cells_len (by decide) (by exact h.1.1) hy1) (by omega) (by first|omega|(simp;done))) rfl ?_
  refine y_ rfl (al_ (ad:=ad) (us:=Ax.cells y1) bB_ ad_ rfl (fun v _ h=>by exact h.1.1) (Ax.cells_len _) (H_ Ax.cells_len hy1)) rfl (aJ_ (u_ 11 rfl zk (i_ (oW_ x1 y1 (hok x1 hmx1) (hok y1 hmy1) (hz x1 hmx1).1 (hz x1 hmx1).2 (hz y1 hmy1).1 (hz y1 hmy1).2) rfl f_ (fun v _ h=>by exact⟨(h.1.2 x1 hmx1),(h.1.2 y1 hmy1),trivial⟩) rfl fun _=>Zz 3 ?_)))
  refine U_ 0 [12] zk zs ?_
  refine Zi 0 (fun hr6=>?_) fun hr6=>?_
  ·refine Zz 8 ?_
   refine c_ (br_ (aA_ rfl rfl rfl (be_ (by omega) (by omega))) (show _=Value.int .i64 ((i0+1+1:Nat):Int) from congrArg _ (by omega))) rfl (Zz 3 ?_)
   exact R_ ⟨i0+1+1,by omega⟩ (by dsimp only;omega) zl t_ zh
  exfalso;exact hr6 (hS i0 x1 y1 hx1 hy1)
 obtain⟨hlx1,x1,hx1,hmx1⟩:=zge (show i<List.length l by omega)
 have hkx:=hP x1 hmx1
 have hkx1:=hkx.1
 refine Zz 10 ?_
 refine c_ (T_ ae_ ad_ rfl rfl (fun v _ h=>J_ (n:=16) Ax.cells_len (by decide) (by exact h.1.1) hx1) (by omega) (by first|omega|(simp;done))) rfl ?_
 refine c_ (al_ (ad:=ad) (us:=Ax.cells x1) bB_ ad_ rfl (fun v _ h=>by exact h.1.1) (Ax.cells_len _) (H_ Ax.cells_len hx1)) rfl (au_ bm_ rfl fun b3=>aa_ 0 ad_ rfl rfl rfl rfl rfl rfl (Zz 5 ?_))
 refine i_ (pc_ x1 (hok x1 hmx1) (hC x1 hmx1) (hP x1 hmx1)) rfl f_ (fun v _ h=>by exact⟨(h.1.2 x1 hmx1),h.2.1,trivial⟩) rfl fun _=>Zz 3 ?_
 refine au_ bm_ rfl fun b4=>aa_ 0 ad_ rfl rfl rfl rfl rfl rfl (Zz 7 ?_)
 refine c_ (br_ (bU_ rfl rfl) (show _=Value.bool false from congrArg Value.bool (by decide))) rfl (Zz 8 ?_)
 refine c_ (S_ strt94 rfl rfl) rfl (Zz 1 ?_)
 refine N_ (st_ x1 x1 (hok x1 hmx1) (hok x1 hmx1) (hz x1 hmx1).1 (hz x1 hmx1).2 (hz x1 hmx1).1 (hz x1 hmx1).2) rfl f_ (fun v _ h=>by exact⟨(h.1.2 x1 hmx1),(h.1.2 x1 hmx1),trivial⟩) rfl fun r7 hr7=>c_ (aE_ rfl) rfl (Zz 2 ?_)
 cases r7
 ·exfalso;rw[Ax.cmp_self]at hr7;simp at hr7
 refine Zz 8 ?_
 exact R_ ⟨i+1,hlx1⟩ (by dsimp only;omega) zl (C_ (C_ t_)) zh
end Go.Proofs.YtamklbgaipakfaaGreatDoor
namespace Go.Proofs.YtamklbgaipakfaaGreatDoor
open Go Go.Sx Go.Proofs
attribute [local irreducible] Code.wp wpList wpAnyH
open Go.Vs
structure PL where
  l:List Pc
  ad:Option Addr
  cap:Nat
def PL.cells (x:PL):List Value:=[.slice x.ad x.l.length x.cap]
theorem PL.cells_len (x:PL):x.cells.length=1:=rfl
structure PL.ok (x:PL):Prop where
  le:x.l.length≤x.cap
  nz:x.ad=none→x.cap=0
  sh:x.l.length≤100000
def plF (xs:List PL):Fct where
  p v:=∀ x∈xs,bN_ v x.ad (List.flatMap Pc.cells x.l)
  mono:=fun v v' h hp x hx=>(aw_ x.ad (List.flatMap Pc.cells x.l)).mono v v' h (hp x hx)
def gw_ (xs:List PL):List Pc:=List.flatMap PL.l xs
theorem nG_ {xs:List PL} {i:Nat} {x:PL} (h:xs[i]? = some x):gw_ (xs.take (i+1))=gw_ (xs.take i)++x.l:=by unfold gw_;rw[List.take_add_one,h];simp
theorem ps_ {xs:List PL} (h:∀ x∈xs,x.ok) (i:Nat):(gw_ (xs.take i)).length≤min i xs.length*100000:=by
  have:=sP_ (g:=PL.l) (n:=100000) (xs.take i) fun x hx=>(h x (List.mem_of_mem_take hx)).sh
  rwa [List.length_take]at this
theorem sp_ (n:Nat) (hn:n≤1000000000):Tri Tryz.prog 115 #[.slice none 0 0,.int .i64 (n:Int)] [] [] (fun y:{y:Value×Hp // aG_ 58 10 y.1 0 [] y.2}=>y.1.1) (fun y=>y.1.2) (fun _=>[]):=by
 refine o_ Tryz.func115 rfl rfl Tryz.ntmps115 rfl fun v0=>?_
 refine Zi 9 (fun hr1=>?_) fun hr1=>?_
 ·refine Zz 10 ?_
  refine c_ (lZ_ x_ rfl) rfl (Zz 3 ?_)
  refine c_ (br_ (aA_ rfl rfl rfl (be_ (by omega) (by omega))) (show Value.int .i64 ((n:Int) - (0 - 0))=Value.int .i64 (n:Int) from congrArg _ (by omega))) rfl (Zi 6 (fun hr2=>?_) fun hr2=>?_)
  ·refine Zz 12 ?_
   exact G_ Tryz.results115 ⟨(.slice none 0 0,[]),aG_.nil _ _⟩ rfl f_ zt
  refine Zz 6 ?_
  refine c_ (lZ_ x_ rfl) rfl (c_ (br_ (cM_ (i:=0) (j:=0) (kl:=.i64) (kh:=.i64) x_ Z_ rfl rfl rfl (by omega) (by omega)) (show _=Value.slice none 0 0 from rfl)) rfl (Zz 1 ?_))
  refine mJ_ (n:=n) ri_ Q_ rfl rfl (by omega) (by omega) (by simp only[maxLen];omega) rfl fun yz bz hz=>?_
  refine Zz 2 ?_
  refine c_ (br_ (cM_ (i:=0) (j:=0) (kl:=.i64) (kh:=.i64) x_ Z_ rfl rfl rfl (by omega) (by omega)) (show _=Value.slice (some ⟨bz,0,none⟩) 0 yz.1 by simp[qs_])) rfl (Zz 10 ?_)
  exact G_ Tryz.results115 ⟨(.slice (some ⟨bz,0,none⟩) 0 yz.1,[(bz,.cells yz.2 58 (0,0))]),pf_ hz.2.1 hz.2.2⟩ rfl t_ zt
 exfalso;omega
theorem rp_ (xs:List PL) (xad:Option Addr) (xcap:Nat) (hok:∀ x∈xs,x.ok) (hl:xs.length≤100):Tri Tryz.prog 59 #[.slice xad (List.length xs) xcap] [] [aw_ xad (List.flatMap PL.cells xs),plF xs] (fun y:{y:Option Addr×Nat // ((gw_ xs)).length≤y.2∧y.2≤maxLen∧(y.1=none→y.2=0)}=>.slice y.1.1 ((gw_ xs)).length y.1.2) (fun _=>[]) (fun y=>[aw_ y.1.1 (((gw_ xs)).flatMap Pc.cells)]):=by
 refine o_ Tryz.func59 rfl rfl Tryz.ntmps59 rfl fun v0=>?_
 refine Zz 19 ?_
 refine aO_ (ι:={y:Nat×Nat // y.1≤List.length xs∧y.2≤y.1*100000}) (fun y=>[(0,.slice xad (List.length xs) xcap),(3,.int .i64 (y.1.2:Int)),(9,.slice xad (List.length xs) xcap),(10,.int .i64 (List.length xs:Int)),(11,.int .i64 (y.1.1:Int))]) (fun y=>([])) (fun y=>[aw_ xad (List.flatMap PL.cells xs),plF xs]) (fun y=>List.length xs - y.1.1) ⟨((0:Nat),(0:Nat)),by simp,by simp⟩ zl f_ zh ?_
 rintro ⟨⟨i,w⟩,hi,hw⟩
 dsimp only at hi hw ⊢
 refine Zi 2 (fun hr1=>?_) fun hr1=>?_
 ·refine Zz 9 ?_
  refine i_ (sp_ w (by omega)) rfl f_ zt rfl fun⟨⟨svg9,Hg9⟩,hg9⟩=>?_
  dsimp only
  dsimp only at hg9
  refine W_ sa_ ?_
  have hg8:aG_ 58 10 svg9 (List.length (gw_ (List.take 0 xs))) (List.flatMap Pc.cells (gw_ (List.take 0 xs))) Hg9:=by exact hg9
  refine Zz 12 ?_
  refine aO_ (ι:={y:Nat×Value×Hp // y.1≤List.length xs∧zR 58 10 Pc.cells y.2.1 (gw_ (List.take y.1 xs)) y.2.2}) (fun y=>[(0,.slice xad (List.length xs) xcap),(6,y.1.2.1),(25,.slice xad (List.length xs) xcap),(26,.int .i64 (List.length xs:Int)),(27,.int .i64 (y.1.1:Int))]) (fun y=>(y.1.2.2)) (fun y=>[aw_ xad (List.flatMap PL.cells xs),plF xs]) (fun y=>List.length xs - y.1.1) ⟨((0:Nat),svg9,Hg9),by simp,hg8⟩ zl bh_ zh ?_
  rintro ⟨⟨j,sv_Rp,H_Rp⟩,hj,hr_Rp⟩
  dsimp only at hj hr_Rp ⊢
  have hpl:=ps_ hok j
  refine Zi 2 (fun hr2=>?_) fun hr2=>?_
  ·rw[List.take_of_length_le (by omega)]at hr_Rp
   refine Zz 13 ?_
   refine aQ_ hr_Rp bh_ fun ad2 cp2 had2 hcad2 hmad2 hzad2=>?_
   exact G_ Tryz.results59 ⟨(ad2,cp2),hcad2,hmad2,hzad2⟩ (bO_ rfl had2) f_ zf
  obtain⟨hlx2,x2,hx2,hmx2⟩:=zge (show j<List.length xs by omega)
  have hsh1:=(hok x2 hmx2).sh
  refine Zz 10 ?_
  refine c_ (T_ at_ bd_ rfl rfl (fun v _ h=>J_ (n:=1) PL.cells_len (by decide) (by exact h.1) hx2) (by omega) (by first|omega|(simp;done))) rfl ?_
  refine c_ (bu_ (ad:=xad) eH_ rfl zf (H_ PL.cells_len hx2 0 _ rfl)) rfl (Zz 6 ?_)
  refine dh_ (news:=List.flatMap Pc.cells (PL.l x2)) ri_ hr_Rp rfl rfl (hok x2 hmx2).nz (hok x2 hmx2).le bh_ (by rw[dR_ Pc.cells 10 Pc.cells_len]) (fun v _ h=>by exact (h.2.1 x2 hmx2)) (fun u hu=>cU_ Pc.cells_one hu) (by simp only[maxLen];(have:=(hok x2 hmx2).sh;omega)) (by (have:=(hok x2 hmx2).sh;omega)) rfl fun sv1 Hr1 hr1=>?_
  refine W_ List.perm_append_comm ?_
  have hq1:=zsa hr1
  refine Zz 8 ?_
  exact R_ ⟨(j+1,sv1,Hr1),hlx2,(by rw[nG_ hx2];exact hq1)⟩ (by dsimp only;omega) zl bh_ zh
 obtain⟨hlx1,x1,hx1,hmx1⟩:=zge (show i<List.length xs by omega)
 have hsh1:=(hok x1 hmx1).sh
 refine Zz 10 ?_
 refine c_ (T_ at_ bd_ rfl rfl (fun v _ h=>J_ (n:=1) PL.cells_len (by decide) (by exact h.1) hx1) (by omega) (by first|omega|(simp;done))) rfl ?_
 refine c_ (bu_ (ad:=xad) eH_ rfl zf (H_ PL.cells_len hx1 0 _ rfl)) rfl (Zi 15 (fun hr3=>?_) fun hr3=>?_)
 ·refine Zz 10 ?_
  exact R_ ⟨(i+1,w+List.length (PL.l x1)),hlx1,by have:=(hok x1 hmx1).sh;dsimp only;omega⟩ (by dsimp only;omega) ⟨rfl,(Y_ rfl (by push_cast;rfl)),rfl,rfl,rfl,trivial⟩ f_ zh
 exfalso;omega
end Go.Proofs.YtamklbgaipakfaaGreatDoor
namespace Go.Proofs.YtamklbgaipakfaaGreatDoor
open Go Go.Sx Go.Proofs
attribute [local irreducible] Code.wp wpList wpAnyH
open Go.Vs
theorem ls_ (l:List Ax) (ad:Option Addr) (cap:Nat) (hok:∀ x∈l,x.ok) (hC:∀ x∈l,x.check=0) (hP:∀ x∈l,pln x) (hll:l.length≤1000) (hz:∀ x∈l,x.left.sz≤1000000∧x.right.sz≤1000000) (hS:∀ (i:Nat) x y,l[i]? = some x→l[i+1]? = some y→Ax.cmp x y=-1) (hcap:l.length≤cap∧cap≤2199023255488) (p:List Pc) (hPL:aD_ l=(p,0)) (hpl:p.length≤1000):Tri Tryz.prog 45 #[.agg #[.slice ad (List.length l) cap]] [] [cH_ ad l,ck_] (fun y:{y:Option Addr×Nat // p.length≤y.2∧y.2≤maxLen∧(y.1=none→y.2=0)}=>.tuple #[.slice y.1.1 p.length y.1.2,.int .i64 0]) (fun _=>[]) (fun y=>[aw_ y.1.1 (p.flatMap Pc.cells)]):=by
  refine o_ Tryz.func45 rfl rfl Tryz.ntmps45 rfl fun v0=>?_
  refine Zz 2 ?_
  refine ah_ rfl rfl fun b1=>Zz 8 ?_
  refine i_ (lQ_ l ad cap hok hC hP hll hz hS) rfl f_ zf rfl fun _=>Zz 6 ?_
  refine c_ (br_ (bU_ rfl rfl) (show _=Value.bool false from congrArg Value.bool (by decide))) rfl (Zz 9 ?_)
  refine i_ (jB_ l ad cap hcap hok hPL) rfl f_ zf rfl fun⟨⟨pad,pcap⟩,hpc1,hpc2,hpc3⟩=>?_
  dsimp only
  refine Zz 7 ?_
  exact fv_ Tryz.results45 ⟨(pad,pcap),hpc1,hpc2,hpc3⟩ rfl rfl rfl f_ zf
theorem goal_m {x:Ax} (hok:x.ok) {p:List Pc} {fs:List Fc} {er:Int} (e:x.goalP=(p,fs,er)) :
    Tri Tryz.prog 58 #[x.val] [] [x.memF,ck_] (fun y:{y:Option Addr×Nat×Option Addr×Nat // p.length≤y.2.1∧y.2.1≤maxLen∧fs.length≤y.2.2.2∧y.2.2.2≤maxLen∧(y.1=none→y.2.1=0)}=>.tuple #[.slice y.1.1 p.length y.1.2.1,.slice y.1.2.2.1 fs.length y.1.2.2.2,.int .i64 er])
    (fun _=>[]) (fun y=>[aw_ y.1.1 (p.flatMap Pc.cells),aw_ y.1.2.2.1 (fs.flatMap Fc.cells)]):=by
  have h:=goal_c x hok
  generalize x.goalP=g at h e
  subst e
  exact h
theorem Of0_c (l:List Ax) (ad:Option Addr) (cap:Nat) (hok:∀ x∈l,x.ok) (hC:∀ x∈l,x.check=0) (hP:∀ x∈l,pln x) (hll:l.length≤1000) (hz:∀ x∈l,x.left.sz≤1000000∧x.right.sz≤1000000) (hS:∀ (i:Nat) x y,l[i]? = some x→l[i+1]? = some y→Ax.cmp x y=-1) (hcap:l.length≤cap∧cap≤2199023255488) (p:List Pc) (hPL:aD_ l=(p,0)) (hpl:p.length≤1000) (x:Ax) (hox:x.ok) (q:List Pc) (F:List Fc) (hG:x.goalP=(q,F,0)) (hql:q.length≤1000):Tri Tryz.prog 23 #[.agg #[.slice ad (List.length l) cap],Ax.val x] [] [cH_ ad l,ck_,Ax.memF x] (fun y:{y:Value×Hp // zR 48 16 Ax.cells y.1 (fP_ l (ee_ l (p++q) (ey_ q) (List.length l))) y.2}=>.tuple #[.agg #[y.1.1],.int .i64 0]) (fun y=>y.1.2) (fun _=>[]):=by
 refine o_ Tryz.func23 rfl rfl Tryz.ntmps23 rfl fun v0=>?_
 refine m_ ?_
 refine d_ ?_
 refine ah_ rfl rfl fun b1=>?_
 refine ah_ rfl rfl fun b2=>?_
 refine au_ Tryz.zeroValue37 rfl fun b3=>?_
 refine c_ (n_ rfl) rfl ?_
 refine j_ ?_
 refine e_ rfl ?_
 refine m_ ?_
 refine d_ ?_
 refine c_ (P_ 2 Tryz.isAgg37 fK_ rfl rfl rfl) rfl ?_
 refine i_ (ls_ l ad cap hok hC hP hll hz hS hcap p hPL hpl) rfl f_ zf rfl fun⟨⟨pad,pcap⟩,hpc1,hpc2,hpc3⟩=>?_
 dsimp only
 refine c_ (q_ rfl) rfl ?_
 refine c_ (cv_ rfl rfl) rfl ?_
 refine c_ (cv_ rfl rfl) rfl ?_
 refine c_ (n_ rfl) rfl ?_
 refine c_ (n_ rfl) rfl ?_
 refine j_ ?_
 refine e_ rfl ?_
 refine m_ ?_
 refine m_ ?_
 refine d_ ?_
 refine c_ (q_ rfl) rfl ?_
 refine c_ (br_ (bU_ rfl rfl) (show _=Value.bool false from congrArg Value.bool (by decide))) rfl ?_
 refine j_ ?_
 refine e_ rfl ?_
 refine F_ rfl ?_
 refine ai_ ?_
 refine e_ rfl ?_
 refine m_ ?_
 refine d_ ?_
 refine c_ (P_ 1 bB_ ad_ rfl rfl rfl) rfl ?_
 refine i_ (goal_m hox hG) rfl f_ zf rfl fun⟨⟨qad,qcap,fad,fcap⟩,hqc1,hqc2,hfc1,hfc2,hqc3⟩=>?_
 dsimp only
 refine c_ (q_ rfl) rfl ?_
 refine c_ (cv_ rfl rfl) rfl ?_
 refine c_ (cv_ rfl rfl) rfl ?_
 refine c_ (cv_ rfl rfl) rfl ?_
 refine c_ (n_ rfl) rfl ?_
 refine c_ (n_ rfl) rfl ?_
 refine c_ (n_ rfl) rfl ?_
 refine j_ ?_
 refine e_ rfl ?_
 refine m_ ?_
 refine m_ ?_
 refine d_ ?_
 refine c_ (q_ rfl) rfl ?_
 refine c_ (br_ (bU_ rfl rfl) (show _=Value.bool false from congrArg Value.bool (by decide))) rfl ?_
 refine j_ ?_
 refine e_ rfl ?_
 refine F_ rfl ?_
 refine ai_ ?_
 refine e_ rfl ?_
 refine m_ ?_
 refine m_ ?_
 refine d_ ?_
 refine c_ (q_ rfl) rfl ?_
 refine c_ (bM_ x_ rfl) rfl ?_
 refine c_ (q_ rfl) rfl ?_
 refine c_ (bM_ x_ rfl) rfl ?_
 refine c_ (aA_ rfl rfl rfl (be_ (by omega) (by omega))) rfl ?_
 refine s_ (dv_ rfl rfl) rfl fun r1 hr1=>?_
 refine j_ ?_
 refine e_ rfl ?_
 cases r1
 ·replace hr1:=zdf hr1
  refine F_ rfl ?_
  refine ai_ ?_
  refine e_ rfl ?_
  refine m_ ?_
  refine bi_ ((b2,.cells #[.int .i64 (Ax.kind x),.bool (Ax.opn x),.int .i64 (Con.kind (Ax.left x)),str (Con.name (Ax.left x)),.int .i64 (Con.lo (Ax.left x)),.int .i64 (Con.hi (Ax.left x)),.slice (Con.ad (Ax.left x)) (List.length (Con.parts (Ax.left x))) (Con.cap (Ax.left x)),.int .i64 (Con.kind (Ax.right x)),str (Con.name (Ax.right x)),.int .i64 (Con.lo (Ax.right x)),.int .i64 (Con.hi (Ax.right x)),.slice (Con.ad (Ax.right x)) (List.length (Con.parts (Ax.right x))) (Con.cap (Ax.right x)),.slice (Ax.ad x) (List.length (Ax.roles x)) (Ax.cap x),str (Ax.role x),str (Ax.a x),str (Ax.b x)] 48 (0,0))::((b1,.cells #[.slice ad (List.length l) cap] 37 (0,0))::[])) zk ?_
  refine U_ 6 [0,1,2,3,6] zk zs ?_
  refine y_ rfl (A_ bD_ rfl rfl rfl fL_) rfl ?_
  refine y_ rfl (M_ 1 iS_ rfl rfl rfl) rfl ?_
  refine y_ rfl (q_ rfl) rfl ?_
  refine y_ rfl (q_ rfl) rfl ?_
  refine y_ rfl (q_ rfl) rfl ?_
  refine aJ_ ?_
  refine u_ 4 rfl zk ?_
  refine I_ at_ bd_ ce_ rfl rfl rfl rfl rfl rfl fun b4=>?_
  refine ak_ (List.flatMap PL.cells [(PL.mk p pad pcap),(PL.mk q qad qcap)]) t_ rfl ?_
  refine j_ ?_
  refine L_ rfl ?_
  refine X_ zs ?_
  refine u_ 5 rfl zk ?_
  refine i_ ((show Tri Tryz.prog 59 _ [] _ (fun y:{y:Option Addr×Nat // (p++q).length≤y.2∧y.2≤maxLen∧(y.1=none→y.2=0)}=>.slice y.1.1 (p++q).length y.1.2) (fun _=>[]) (fun y=>[aw_ y.1.1 ((p++q).flatMap Pc.cells)]) from by have h:=rp_ [(PL.mk p pad pcap),(PL.mk q qad qcap)] (some ⟨b4,0,none⟩) 2 (fun y hy=>by simp only[List.mem_cons,List.not_mem_nil,or_false]at hy;rcases hy with rfl|rfl;exact⟨hpc1,hpc3,by dsimp only;omega⟩;exact⟨hqc1,hqc3,by dsimp only;omega⟩) (by simp);have eC:(gw_ [(PL.mk p pad pcap),(PL.mk q qad qcap)])=p++q:=(by simp[gw_]);rw[eC]at h;exact h)) rfl f_ (fun v _ h=>by refine⟨h.1,fun y hy=>?_,trivial⟩;simp only[List.mem_cons,List.not_mem_nil,or_false]at hy;rcases hy with rfl|rfl;exact h.2.2.2.1;exact h.2.1) rfl fun⟨⟨ccad,cccap⟩,hcc1,hcc2,hcc3⟩=>?_
  dsimp only
  refine j_ ?_
  refine L_ rfl ?_
  refine X_ zs ?_
  refine u_ 7 rfl zk ?_
  refine i_ (sB_ q qad qcap (by omega)) rfl f_ zf rfl fun⟨⟨aad,acap⟩,hac,ham⟩=>?_
  dsimp only
  refine j_ ?_
  refine L_ rfl ?_
  refine X_ zs ?_
  refine u_ 8 rfl zk ?_
  refine i_ (part_c l ad cap (p++q) ccad cccap (ey_ q) aad acap (by rw[List.length_append];omega) (by have:=og_ q;omega) (by omega)) rfl f_ zf rfl fun⟨⟨svq,Hqq,Lq⟩,hrq,hLq⟩=>?_
  dsimp only
  dsimp only at hrq hLq ⊢
  subst hLq
  refine j_ ?_
  refine L_ rfl ?_
  refine X_ zs ?_
  refine u_ 9 rfl zk ?_
  refine W_ (cT_ (bs_ t_) (cT_ (bs_ t_) (ds_ dx_))) ?_
  refine aa_ 0 fK_ rfl rfl rfl rfl rfl (by have q:=(dL_ hrq).2;simp only[Value.cells,List.all_cons,List.all_nil,q,Bool.and_true]) ?_
  refine j_ ?_
  refine L_ rfl ?_
  refine X_ (fun _ a b=>⟨Vw.sat.sub (a.perm (aF_ (C_ t_) (C_ t_))),b.2.2.2⟩) ?_
  refine U_ 0 [10] zk (fun _ a b=>⟨Vw.sat.sub (a.perm (aF_ (C_ t_) (C_ t_))),b.2.2.2⟩) ?_
  refine y_ rfl (n_ rfl) rfl ?_
  refine aJ_ ?_
  refine bp_ zk ?_
  refine e_ rfl ?_
  refine ar_ ?_
  exact fB_ ⟨(svq,Hqq),hrq⟩ (fun aa v h1 h2=>ny_ (us:=[svq]) 0 Tryz.results23 Tryz.isAgg37 fK_ rfl rfl rfl rfl aa v h1 h2) (C_ (C_ bo_)) zt
 replace hr1:=zdt hr1
 exfalso;omega
end Go.Proofs.YtamklbgaipakfaaGreatDoor
namespace Go.Proofs.YtamklbgaipakfaaGreatDoor
open Go Go.Sx Go.Proofs
attribute [local irreducible] Code.wp wpList wpAnyH
open Go.Vs
theorem dC_ (x y:Int):Fn0 Tryz.prog 153 #[.int .i64 x,.int .i64 y] (.int .i64 (Lib.compareInt x y)):=by
 refine o_ Tryz.func153 rfl rfl Tryz.ntmps153 rfl fun v0=>?_
 refine Zi 10 (fun hr1=>?_) fun hr1=>?_
 ·refine Zi 10 (fun hr2=>?_) fun hr2=>?_
  ·refine Zz 11 ?_
   exact G_ Tryz.results153 () (Y_ rfl (by unfold Lib.compareInt;rw[if_neg hr1,if_neg hr2])) f_ zt
  refine Zz 9 ?_
  exact G_ Tryz.results153 () (Y_ rfl (by unfold Lib.compareInt;rw[if_neg hr1,if_pos hr2])) f_ zt
 refine Zz 9 ?_
 exact G_ Tryz.results153 () (Y_ rfl (by unfold Lib.compareInt;rw[if_pos hr1])) f_ zt
theorem cR_ (x y:Str):Fn0 Tryz.prog 156 #[str x,str y] (.int .i64 (Lib.compareBytes x y)):=by
 refine o_ Tryz.func156 rfl rfl Tryz.ntmps156 rfl fun v0=>?_
 refine Zi 10 (fun hr1=>?_) fun hr1=>?_
 ·refine Zz 10 ?_
  refine s_ (lY_ rfl rfl) rfl fun r2 hr2=>Zz 2 ?_
  cases r2
  ·replace hr2:=zdf hr2
   refine Zz 9 ?_
   exact G_ Tryz.results156 () (Y_ rfl (by rw[hE_,if_neg hr1,if_neg hr2])) f_ zt
  replace hr2:=zdt hr2
  refine Zz 7 ?_
  exact G_ Tryz.results156 () (Y_ rfl (by rw[hE_,if_neg hr1,if_pos hr2])) f_ zt
 refine Zz 9 ?_
 exact G_ Tryz.results156 () (Y_ rfl (by rw[hE_,if_pos hr1])) f_ zt
theorem qx_:∀ (m:Nat) (c d:Con),c.sz≤m→c.ok→d.ok→c.sz≤1000→d.sz≤1000→Tri Tryz.prog 155 #[Con.val c,Con.val d] [] [Con.memF c,Con.memF d] (fun _:Unit=>.int .i64 (Con.cmp c d)) (fun _=>[]) (fun _=>[]):=by
 intro m
 induction m with
 | zero=>intro c d h;have:=Con.sz_pos c;omega
 | succ m ih =>
   intro c d h hok1 hok2 hz1 hz2
   have hpl1:=Con.parts_lt c
   have hpl2:=Con.parts_lt d
   refine o_ Tryz.func155 rfl rfl Tryz.ntmps155 rfl fun v0=>?_
   refine Zz 2 ?_
   refine ah_ rfl rfl fun b1=>ah_ rfl rfl fun b2=>Zz 5 ?_
   refine U_ 4 [0,2] zk zs (Zz 3 ?_)
   refine u_ 1 rfl zk (i_ (hR_ _ c (Nat.le_refl _) hok1 hz1) rfl f_ zf rfl fun _=>Zz 3 ?_)
   refine u_ 3 rfl zk (i_ (hR_ _ d (Nat.le_refl _) hok2 hz2) rfl f_ zf rfl fun _=>Zz 3 ?_)
   refine u_ 4 rfl zk (i_ (dC_ (Con.sz c:Int) (Con.sz d:Int)) rfl f_ zt rfl fun _=>Zz 3 ?_)
   refine U_ 0 [5] zk zs (Zz 8 ?_)
   refine s_ (V_ rfl rfl) rfl fun r1 hr1=>Zz 2 ?_
   refine bV_ (ι:={y:Int // y=orF ([(Lib.compareInt (Con.sz c:Int) (Con.sz d:Int))]++[(Lib.compareInt (Con.kind c) (Con.kind d))])}) (fun y=>[(2,zp_ b1 0),(3,zp_ b2 0),(4,.int .i64 0),(5,.int .i64 y.1)]) (fun y=>((b2,.cells #[.int .i64 (Con.kind d),str (Con.name d),.int .i64 (Con.lo d),.int .i64 (Con.hi d),.slice (Con.ad d) (List.length (Con.parts d)) (Con.cap d)] 46 (0,0))::((b1,.cells #[.int .i64 (Con.kind c),str (Con.name c),.int .i64 (Con.lo c),.int .i64 (Con.hi c),.slice (Con.ad c) (List.length (Con.parts c)) (Con.cap c)] 46 (0,0))::[]))) (fun y=>[Con.memF c,Con.memF d]) ?_ ?_
   · skip
     cases r1
     · skip
       replace hr1:=znb hr1
       refine Zz 3 ?_
       exact aC_ ⟨(Lib.compareInt (Con.sz c:Int) (Con.sz d:Int)),(dV_ (hW_ _).symm hr1)⟩ zl zp zf
     · skip
       replace hr1:=zeb hr1
       refine Zz 6 ?_
       refine i_ (dC_ (Con.kind c) (Con.kind d)) rfl f_ zt rfl fun _=>Zz 3 ?_
       exact aC_ ⟨(Lib.compareInt (Con.kind c) (Con.kind d)),(dm_ (hW_ _).symm hr1)⟩ zl zp zf
   · skip
     rintro ⟨nn1,hnn1⟩
     dsimp only
     refine Zz 5 ?_
     refine s_ (V_ rfl rfl) rfl fun r2 hr2=>Zz 2 ?_
     refine bV_ (ι:={y:Int // y=orF (([(Lib.compareInt (Con.sz c:Int) (Con.sz d:Int))]++[(Lib.compareInt (Con.kind c) (Con.kind d))])++[(Lib.compareBytes (Con.name c) (Con.name d))])}) (fun y=>[(2,zp_ b1 0),(3,zp_ b2 0),(4,.int .i64 0),(5,.int .i64 y.1)]) (fun y=>((b2,.cells #[.int .i64 (Con.kind d),str (Con.name d),.int .i64 (Con.lo d),.int .i64 (Con.hi d),.slice (Con.ad d) (List.length (Con.parts d)) (Con.cap d)] 46 (0,0))::((b1,.cells #[.int .i64 (Con.kind c),str (Con.name c),.int .i64 (Con.lo c),.int .i64 (Con.hi c),.slice (Con.ad c) (List.length (Con.parts c)) (Con.cap c)] 46 (0,0))::[]))) (fun y=>[Con.memF c,Con.memF d]) ?_ ?_
     · skip
       cases r2
       · skip
         replace hr2:=znb hr2
         refine Zz 3 ?_
         exact aC_ ⟨nn1,(dV_ hnn1 hr2)⟩ zl zp zf
       · skip
         replace hr2:=zeb hr2
         refine Zz 6 ?_
         refine i_ (cR_ (Con.name c) (Con.name d)) rfl f_ zt rfl fun _=>Zz 3 ?_
         exact aC_ ⟨(Lib.compareBytes (Con.name c) (Con.name d)),(dm_ hnn1 hr2)⟩ zl zp zf
     · skip
       rintro ⟨nn2,hnn2⟩
       dsimp only
       refine Zz 5 ?_
       refine s_ (V_ rfl rfl) rfl fun r3 hr3=>Zz 2 ?_
       refine bV_ (ι:={y:Int // y=orF ((([(Lib.compareInt (Con.sz c:Int) (Con.sz d:Int))]++[(Lib.compareInt (Con.kind c) (Con.kind d))])++[(Lib.compareBytes (Con.name c) (Con.name d))])++[(Lib.compareInt (Con.lo c) (Con.lo d))])}) (fun y=>[(2,zp_ b1 0),(3,zp_ b2 0),(4,.int .i64 0),(5,.int .i64 y.1)]) (fun y=>((b2,.cells #[.int .i64 (Con.kind d),str (Con.name d),.int .i64 (Con.lo d),.int .i64 (Con.hi d),.slice (Con.ad d) (List.length (Con.parts d)) (Con.cap d)] 46 (0,0))::((b1,.cells #[.int .i64 (Con.kind c),str (Con.name c),.int .i64 (Con.lo c),.int .i64 (Con.hi c),.slice (Con.ad c) (List.length (Con.parts c)) (Con.cap c)] 46 (0,0))::[]))) (fun y=>[Con.memF c,Con.memF d]) ?_ ?_
       · skip
         cases r3
         · skip
           replace hr3:=znb hr3
           refine Zz 3 ?_
           exact aC_ ⟨nn2,(dV_ hnn2 hr3)⟩ zl zp zf
         · skip
           replace hr3:=zeb hr3
           refine Zz 6 ?_
           refine i_ (dC_ (Con.lo c) (Con.lo d)) rfl f_ zt rfl fun _=>Zz 3 ?_
           exact aC_ ⟨(Lib.compareInt (Con.lo c) (Con.lo d)),(dm_ hnn2 hr3)⟩ zl zp zf
       · skip
         rintro ⟨nn3,hnn3⟩
         dsimp only
         refine Zz 5 ?_
         refine s_ (V_ rfl rfl) rfl fun r4 hr4=>Zz 2 ?_
         refine bV_ (ι:={y:Int // y=orF (((([(Lib.compareInt (Con.sz c:Int) (Con.sz d:Int))]++[(Lib.compareInt (Con.kind c) (Con.kind d))])++[(Lib.compareBytes (Con.name c) (Con.name d))])++[(Lib.compareInt (Con.lo c) (Con.lo d))])++[(Lib.compareInt (Con.hi c) (Con.hi d))])}) (fun y=>[(2,zp_ b1 0),(3,zp_ b2 0),(4,.int .i64 0),(5,.int .i64 y.1)]) (fun y=>((b2,.cells #[.int .i64 (Con.kind d),str (Con.name d),.int .i64 (Con.lo d),.int .i64 (Con.hi d),.slice (Con.ad d) (List.length (Con.parts d)) (Con.cap d)] 46 (0,0))::((b1,.cells #[.int .i64 (Con.kind c),str (Con.name c),.int .i64 (Con.lo c),.int .i64 (Con.hi c),.slice (Con.ad c) (List.length (Con.parts c)) (Con.cap c)] 46 (0,0))::[]))) (fun y=>[Con.memF c,Con.memF d]) ?_ ?_
         · skip
           cases r4
           · skip
             replace hr4:=znb hr4
             refine Zz 3 ?_
             exact aC_ ⟨nn3,(dV_ hnn3 hr4)⟩ zl zp zf
           · skip
             replace hr4:=zeb hr4
             refine Zz 6 ?_
             refine i_ (dC_ (Con.hi c) (Con.hi d)) rfl f_ zt rfl fun _=>Zz 3 ?_
             exact aC_ ⟨(Lib.compareInt (Con.hi c) (Con.hi d)),(dm_ hnn3 hr4)⟩ zl zp zf
         · skip
           rintro ⟨nn4,hnn4⟩
           dsimp only
           refine Zz 8 ?_
           refine aO_ (ι:={y:Nat×Int // fE_ nn4 y.2 (Con.cmp.cmps (Con.parts c) (Con.parts d)) (Con.cmp.cmps (List.drop y.1 (Con.parts c)) (List.drop y.1 (Con.parts d))) (y.1≤List.length (Con.parts c)∧y.1≤List.length (Con.parts d))}) (fun y=>[(2,zp_ b1 0),(3,zp_ b2 0),(4,.int .i64 0),(5,.int .i64 y.1.2),(6,.int .i64 (y.1.1:Int))]) (fun y=>((b2,.cells #[.int .i64 (Con.kind d),str (Con.name d),.int .i64 (Con.lo d),.int .i64 (Con.hi d),.slice (Con.ad d) (List.length (Con.parts d)) (Con.cap d)] 46 (0,0))::((b1,.cells #[.int .i64 (Con.kind c),str (Con.name c),.int .i64 (Con.lo c),.int .i64 (Con.hi c),.slice (Con.ad c) (List.length (Con.parts c)) (Con.cap c)] 46 (0,0))::[]))) (fun y=>[Con.memF c,Con.memF d]) (fun y=>List.length (Con.parts c) - y.1.1) ⟨((0:Nat),nn4),(fE_.init ⟨Nat.zero_le _,Nat.zero_le _⟩)⟩ zl zp zh ?_
           rintro ⟨⟨i,n⟩,hlx⟩
           dsimp only at hlx ⊢
           refine Zi 4 (fun hr5=>?_) fun hr5=>?_
           · skip
             refine Zz 23 ?_
             refine s_ (V_ rfl rfl) rfl fun r6 hr6=>Zz 2 ?_
             refine bV_ (ι:={y:Int // y=(if n=0 then (Lib.compareInt (List.length (Con.parts c):Int) (List.length (Con.parts d):Int)) else n)}) (fun y=>[(2,zp_ b1 0),(3,zp_ b2 0),(4,.int .i64 0),(6,.int .i64 (i:Int)),(5,.int .i64 y.1)]) (fun y=>((b2,.cells #[.int .i64 (Con.kind d),str (Con.name d),.int .i64 (Con.lo d),.int .i64 (Con.hi d),.slice (Con.ad d) (List.length (Con.parts d)) (Con.cap d)] 46 (0,0))::((b1,.cells #[.int .i64 (Con.kind c),str (Con.name c),.int .i64 (Con.lo c),.int .i64 (Con.hi c),.slice (Con.ad c) (List.length (Con.parts c)) (Con.cap c)] 46 (0,0))::[]))) (fun y=>[Con.memF c,Con.memF d]) ?_ ?_
             · skip
               cases r6
               · skip
                 replace hr6:=znb hr6
                 refine Zz 3 ?_
                 exact aC_ ⟨n,(by rw[if_neg hr6])⟩ zl zp zf
               · skip
                 replace hr6:=zeb hr6
                 refine Zz 8 ?_
                 refine i_ (dC_ (List.length (Con.parts c):Int) (List.length (Con.parts d):Int)) rfl f_ zt rfl fun _=>Zz 3 ?_
                 exact aC_ ⟨(Lib.compareInt (List.length (Con.parts c):Int) (List.length (Con.parts d):Int)),(by rw[if_pos hr6])⟩ zl zp zf
             · skip
               rintro ⟨nn5,hnn5⟩
               dsimp only
               have hor5:=fE_.or (o:=(Lib.compareInt (List.length (Con.parts c):Int) (List.length (Con.parts d):Int))) hlx hnn4 (fun hn hv ha=>jS_ ha.1 ha.2 (by first|(left;omega)|(right;omega)))
               rw[← hnn5]at hor5
               refine Zz 8 ?_
               exact G_ Tryz.results155 () (Y_ rfl (by rw[hor5];exact (Con.cmp_eq c d).symm)) f_ zt
           · skip
             refine Zi 10 (fun hr7=>?_) fun hr7=>?_
             · skip
               refine Zz 17 ?_
               refine s_ (V_ rfl rfl) rfl fun r8 hr8=>Zz 2 ?_
               refine bV_ (ι:={y:Int // y=(if n=0 then (Lib.compareInt (List.length (Con.parts c):Int) (List.length (Con.parts d):Int)) else n)}) (fun y=>[(2,zp_ b1 0),(3,zp_ b2 0),(4,.int .i64 0),(6,.int .i64 (i:Int)),(5,.int .i64 y.1)]) (fun y=>((b2,.cells #[.int .i64 (Con.kind d),str (Con.name d),.int .i64 (Con.lo d),.int .i64 (Con.hi d),.slice (Con.ad d) (List.length (Con.parts d)) (Con.cap d)] 46 (0,0))::((b1,.cells #[.int .i64 (Con.kind c),str (Con.name c),.int .i64 (Con.lo c),.int .i64 (Con.hi c),.slice (Con.ad c) (List.length (Con.parts c)) (Con.cap c)] 46 (0,0))::[]))) (fun y=>[Con.memF c,Con.memF d]) ?_ ?_
               · skip
                 cases r8
                 · skip
                   replace hr8:=znb hr8
                   refine Zz 3 ?_
                   exact aC_ ⟨n,(by rw[if_neg hr8])⟩ zl zp zf
                 · skip
                   replace hr8:=zeb hr8
                   refine Zz 8 ?_
                   refine i_ (dC_ (List.length (Con.parts c):Int) (List.length (Con.parts d):Int)) rfl f_ zt rfl fun _=>Zz 3 ?_
                   exact aC_ ⟨(Lib.compareInt (List.length (Con.parts c):Int) (List.length (Con.parts d):Int)),(by rw[if_pos hr8])⟩ zl zp zf
               · skip
                 rintro ⟨nn6,hnn6⟩
                 dsimp only
                 have hor6:=fE_.or (o:=(Lib.compareInt (List.length (Con.parts c):Int) (List.length (Con.parts d):Int))) hlx hnn4 (fun hn hv ha=>jS_ ha.1 ha.2 (by first|(left;omega)|(right;omega)))
                 rw[← hnn6]at hor6
                 refine Zz 8 ?_
                 exact G_ Tryz.results155 () (Y_ rfl (by rw[hor6];exact (Con.cmp_eq c d).symm)) f_ zt
             · skip
               refine Zi 11 (fun hr9=>?_) fun hr9=>?_
               · skip
                 refine Zz 10 ?_
                 refine s_ (V_ rfl rfl) rfl fun r10 hr10=>Zz 2 ?_
                 refine bV_ (ι:={y:Int // y=(if n=0 then (Lib.compareInt (List.length (Con.parts c):Int) (List.length (Con.parts d):Int)) else n)}) (fun y=>[(2,zp_ b1 0),(3,zp_ b2 0),(4,.int .i64 0),(6,.int .i64 (i:Int)),(5,.int .i64 y.1)]) (fun y=>((b2,.cells #[.int .i64 (Con.kind d),str (Con.name d),.int .i64 (Con.lo d),.int .i64 (Con.hi d),.slice (Con.ad d) (List.length (Con.parts d)) (Con.cap d)] 46 (0,0))::((b1,.cells #[.int .i64 (Con.kind c),str (Con.name c),.int .i64 (Con.lo c),.int .i64 (Con.hi c),.slice (Con.ad c) (List.length (Con.parts c)) (Con.cap c)] 46 (0,0))::[]))) (fun y=>[Con.memF c,Con.memF d]) ?_ ?_
                 · skip
                   cases r10
                   · skip
                     replace hr10:=znb hr10
                     refine Zz 3 ?_
                     exact aC_ ⟨n,(by rw[if_neg hr10])⟩ zl zp zf
                   · skip
                     replace hr10:=zeb hr10
                     refine Zz 8 ?_
                     refine i_ (dC_ (List.length (Con.parts c):Int) (List.length (Con.parts d):Int)) rfl f_ zt rfl fun _=>Zz 3 ?_
                     exact aC_ ⟨(Lib.compareInt (List.length (Con.parts c):Int) (List.length (Con.parts d):Int)),(by rw[if_pos hr10])⟩ zl zp zf
                 · skip
                   rintro ⟨nn7,hnn7⟩
                   dsimp only
                   have hor7:=fE_.or (o:=(Lib.compareInt (List.length (Con.parts c):Int) (List.length (Con.parts d):Int))) hlx hnn4 (fun hn hv ha=>jS_ ha.1 ha.2 (by first|(left;omega)|(right;omega)))
                   rw[← hnn7]at hor7
                   refine Zz 8 ?_
                   exact G_ Tryz.results155 () (Y_ rfl (by rw[hor7];exact (Con.cmp_eq c d).symm)) f_ zt
               · skip
                 obtain⟨hlx1,x1,hx1,hmx1⟩:=zge (show i<List.length (Con.parts c) by omega)
                 have hly1:i<List.length (Con.parts d):=by omega
                 obtain⟨y1,hy1⟩:∃ e0,(Con.parts d)[i]? = some e0:=⟨_,List.getElem?_eq_getElem hly1⟩
                 have hmy1:y1∈(Con.parts d):=List.mem_of_getElem? hy1
                 have hn0:n=0:=by assumption
                 refine Zz 9 ?_
                 refine U_ 2 [0,1,2,3,4,5,6,7,8,9] zk zs (Zz 3 ?_)
                 refine y_ rfl (T_ B_ g_ rfl rfl (fun v _ h=>J_ (n:=5) Con.cells_len (by decide) (by exact ((Con.mem_iff c v).1 h.1).1) hx1) (by omega) (by first|omega|(simp;done))) rfl ?_
                 refine y_ rfl (al_ (ad:=(Con.ad c)) (us:=Con.cells x1) w_ g_ rfl (fun v _ h=>by exact ((Con.mem_iff c v).1 h.1).1) (Con.cells_len _) (H_ Con.cells_len hx1)) rfl (Zz 3 ?_)
                 refine y_ rfl (T_ B_ g_ rfl rfl (fun v _ h=>J_ (n:=5) Con.cells_len (by decide) (by exact ((Con.mem_iff d v).1 h.2.1).1) hy1) (by omega) (by first|omega|(simp;done))) rfl ?_
                 refine y_ rfl (al_ (ad:=(Con.ad d)) (us:=Con.cells y1) w_ g_ rfl (fun v _ h=>by exact ((Con.mem_iff d v).1 h.2.1).1) (Con.cells_len _) (H_ Con.cells_len hy1)) rfl (aJ_ (u_ 10 rfl zk (i_ (ih x1 y1 (by have:=Con.sz_part hmx1;omega) (Con.ok_part hok1 hmx1) (Con.ok_part hok2 hmy1) (by have:=Con.sz_part hmx1;omega) (by have:=Con.sz_part hmy1;omega)) rfl f_ (fun v _ h=>by exact⟨(Con.mem_part (c:=c) h.1 hmx1),(Con.mem_part (c:=d) h.2.1 hmy1),trivial⟩) rfl fun _=>?_)))
                 refine Zz 3 ?_
                 refine U_ 0 [11] zk zs (Zz 10 ?_)
                 exact R_ ⟨(i+1,(Con.cmp x1 y1)),fE_.step (by rw[hn0]at hlx;exact hlx) (by rw[lN_ hx1 hy1]) (fun _=>⟨by omega,by omega⟩)⟩ (by dsimp only;omega) zl zp zh
end Go.Proofs.YtamklbgaipakfaaGreatDoor
