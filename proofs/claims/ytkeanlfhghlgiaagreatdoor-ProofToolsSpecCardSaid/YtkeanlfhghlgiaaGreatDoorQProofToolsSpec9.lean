/-
  Part of the proof of the law ProofToolsSpec over this seat: the small logic, the data, the contracts of functions (no condition).
-/
import Derived.Test.YtkeanlfhghlgiaaGreatDoorQProofToolsSpec8
import Derived.Shelf.SlSortCmp.NoneTotal
import Derived.Test.YtkeanlfhghlgiaaGreatDoorProg
import Derived.Test.YtkeanlfhghlgiaaGreatDoorQProofToolsSpec2
import Derived.Test.YtkeanlfhghlgiaaGreatDoorQProofToolsSpec3
import Derived.Test.YtkeanlfhghlgiaaGreatDoorQProofToolsSpec4
import Derived.Test.YtkeanlfhghlgiaaGreatDoorQProofToolsSpec6
import Derived.Test.YtkeanlfhghlgiaaGreatDoorQProofToolsSpec7
set_option linter.unusedVariables false
set_option linter.unusedSimpArgs false
set_option linter.unusedSectionVars false
set_option maxHeartbeats 1000000
namespace Go.Proofs.YtkeanlfhghlgiaaGreatDoor
open Go Go.Sx Go.Proofs
attribute [local irreducible] Code.wp wpList wpAnyH
open Go.Vs
theorem qj_ {P:Program} (w:World) (d:Nat) (t e:TypeId) (a:Option Addr) (l c:Nat) (h:P.underlying t=some (.slice e)):(Op.equalIn (d+1) t (.slice a l c) (.slice none 0 0)).run P w=.ok a.isNone w:=by
  cases a<;>simp[Op.equalIn,run_underlying h]
theorem tI_ {P:Program} (w:World) (t e:TypeId) (a:Option Addr) (l c:Nat) (h:P.underlying t=some (.slice e)):(Op.equal t (.slice a l c) (.slice none 0 0)).run P w=.ok a.isNone w:=qj_ w 9999 t e a l c h
theorem qB_ {P:Program} {N:Nf} {fr:Fr} {H:Hp} {Γ:List Fct} {ty t t' e:TypeId} {x y:Operand} {ad:Option Addr} {m c:Nat} (hu:P.underlying t=some (.slice e)) (hx:Fr.ev fr x=some (.slice ad m c)) (hy:Fr.ev fr y=some (.slice none 0 0)):Yld P N fr H Γ (.binOp .eql t x y t') ty (.bool (decide (ad=none))) :=
  fun a v h1 _ _ _ _ _=>by
    have he:decide (ad=none)=ad.isNone:=by cases ad<;>simp
    simp[execOp,h1.ev hx,h1.ev hy,eqGuard,binOp,tI_ v.w t e ad m c hu,he]
theorem rb_ {v:Vw} {cs:List Value} (h:bv_ v none cs):cs=[]:=by
 rcases h with h|⟨b,off,arr,T,fz,h1,_⟩
 ·exact h
 cases h1
theorem gd_ (b:Nat) (e:TypeId) (sz:Nat):aE_ e sz (.slice (some ⟨b,0,none⟩) 0 0) 0 [] [(b,.cells #[] e (0,0))]:=⟨by simp,.inr ⟨b,0,#[],rfl,rfl,Nat.le_refl _,by simp[maxLen],by simp,by simp⟩⟩
theorem sw_ (l:List Str) (ad:Option Addr) (cap:Nat) (hc:l.length≤cap) (hl:l.length≤1000000000):Tri Tryz.prog 85 #[.slice ad (List.length l) cap] [] [af_ ad (List.flatMap aV_ l)] (fun y:{y:Value×Hp // zR 9 1 aV_ y.1 l y.2}=>y.1.1) (fun y=>y.1.2) (fun _=>[]):=by
 refine w_ Tryz.func85 rfl rfl Tryz.ntmps85 rfl fun v0=>?_
 refine Zz 9 ?_
 refine aQ_ (qB_ lk_ rfl rfl) rfl fun r1 hr1=>Zz 2 ?_
 cases r1
 ·replace hr1:=zdf hr1
  refine Zz 5 ?_
  refine dT_ E_ M_ rfl fun b1=>u_ d_ (Zz 1 ?_)
  refine bs_ (news:=List.flatMap aV_ l) df_ (gd_ b1 9 1) rfl rfl (fun q=>absurd q hr1) hc ay_ (by rw[bV_ aV_ 1 aD_]) zf (fun u hu=>ar_ cE_ hu) (by simp only[maxLen];omega) (by omega) rfl fun sv1 Hr1 hr1=>?_
  refine u_ List.perm_append_comm ?_
  have hq1:aE_ 9 1 sv1 (List.length (([]:List Str)++l)) (List.flatMap aV_ (([]:List Str)++l)) Hr1:=by rw[List.length_append,List.flatMap_append];exact hr1
  refine Zz 4 ?_
  exact al_ Tryz.results85 ⟨(sv1,Hr1),by simpa using hq1⟩ rfl ay_ zt
 replace hr1:=zdt hr1
 refine Zz 7 ?_
 refine cx_ (p:=List.flatMap aV_ l=[]) (fun v _ h=>by have q:=h.1;subst hr1;exact rb_ q) fun hz=>?_
 have hz2:l=[]:=List.eq_nil_of_length_eq_zero (by have:=congrArg List.length hz;rwa [bV_ aV_ 1 aD_,Nat.mul_one]at this)
 exact al_ Tryz.results85 ⟨(.slice none 0 0,[]),by subst hz2;exact aE_.nil _ _⟩ rfl m_ zt
def atS (p:List Pc):List Str:=Lib.compact ((dK_ p++[[42],[33]]).mergeSort fun x y=>decide (x≤y))
theorem mE_ (p:List Pc):(atS p).length≤3*p.length+2:=by
  have:=hq_ ((dK_ p++[[42],[33]]).mergeSort fun x y=>decide (x≤y))
  have h2:=eN_ p
  rw[List.length_mergeSort,List.length_append]at this
  simp only[List.length_cons,List.length_nil]at this
  unfold atS;omega
theorem sC_ (p:List Pc):(atS p).Pairwise fun x y=>x<y:=kL_ (mT_ _)
theorem fN_ (p:List Pc) (x:Str):x∈atS p↔x∈dK_ p∨x=[42]∨x=[33]:=by
  unfold atS
  rw[jm_,List.mem_mergeSort,List.mem_append]
  simp
theorem atS_c (p:List Pc) (pad:Option Addr) (pcap:Nat) (hp:p.length≤100000000):Tri Tryz.prog 42 #[.slice pad (List.length p) pcap] [] [af_ pad (List.flatMap Pc.cells p)] (fun y:{y:Option Addr×Nat // (atS p).length≤y.2∧y.2≤maxLen∧(y.1=none→y.2=0)}=>.slice y.1.1 (atS p).length y.1.2) (fun _=>[]) (fun y=>[af_ y.1.1 ((atS p).flatMap aV_)]):=by
  refine w_ Tryz.func42 rfl rfl Tryz.ntmps42 rfl fun v0=>?_
  refine Zz 8 ?_
  refine n_ (ua_ p pad pcap (by omega)) rfl m_ zf rfl fun⟨⟨aad,acap⟩,hac,ham⟩=>?_
  dsimp only
  refine n_ (sw_ (dK_ p) aad acap hac (by have:=eN_ p;omega)) rfl m_ zf rfl fun⟨⟨svc,Hcl⟩,hcl⟩=>?_
  dsimp only
  refine u_ dS_ (S_ E_ M_ aZ_ rfl rfl rfl rfl rfl rfl fun b1=>?_)
  refine ao_ (news:=List.flatMap aV_ [[42],[33]]) df_ hcl rfl rfl F_ rfl (by_ 0 rfl) (fun u hu=>ar_ cE_ hu) (by simp only[maxLen];(have:=eN_ p;(try simp only[List.length_append,List.length_cons,List.length_nil]);omega)) (by (have:=eN_ p;(try simp only[List.length_append,List.length_cons,List.length_nil]);omega)) rfl fun sv1 Hr1 hr1=>?_
  refine u_ List.perm_append_comm ?_
  have hq1:=zsa hr1
  refine Zz 6 ?_
  refine n_ (oL_ hq1 (by (have:=eN_ p;(try simp only[List.length_append,List.length_cons,List.length_nil]);omega))) rfl F_ zt rfl fun⟨Hso1,hs1⟩=>?_
  dsimp only
  have hso1:aE_ 9 1 sv1 (List.length ((((dK_ p)++[[42],[33]])).mergeSort fun x y=>decide (x≤y))) (List.flatMap aV_ ((((dK_ p)++[[42],[33]])).mergeSort fun x y=>decide (x≤y))) Hso1:=by rw[List.length_mergeSort];exact hs1
  refine Zz 2 ?_
  refine u_ (ak_ V_) (Zz 3 ?_)
  refine n_ (kM_ hso1 (by rw[List.length_mergeSort];(have:=eN_ p;(try simp only[List.length_append,List.length_cons,List.length_nil]);omega))) rfl F_ zt rfl fun⟨⟨svk2,Hk2⟩,hk2⟩=>?_
  dsimp only
  refine Zz 4 ?_
  refine bk_ hk2 l_ fun ad2 cp2 had2 hcad2 hmad2 hzad2=>?_
  exact al_ Tryz.results42 ⟨(ad2,cp2),hcad2,hmad2,hzad2⟩ (cS_ rfl had2) m_ zf
end Go.Proofs.YtkeanlfhghlgiaaGreatDoor
namespace Go.Proofs
open Go.Shelf
def Tryz.sortFc_ren:Go.Shelf.Ren:=⟨fun|6=>46|15=>102|14=>101|28=>134|29=>135|20=>126|21=>127|22=>128|23=>129|24=>130|25=>131|26=>132|27=>133|46=>166|47=>167|48=>168|49=>169|50=>170|57=>187|n=>n,fun|22=>37|24=>24|25=>86|3=>3|39=>131|0=>0|53=>158|55=>160|4=>4|46=>152|45=>151|50=>115|5=>5|9=>9|66=>179|70=>183|76=>195|77=>196|n=>n,fun|n=>n⟩
theorem Tryz.sortFc:Go.Proofs.SlLaysF0.n6 Tryz.prog Tryz.sortFc_ren:={
  mixed:=by kernel_rfl
  f6:=⟨Tryz.f46.name,by decide,Tryz.func46.trans (congrArg some (by kernel_rfl))⟩
  f14:=⟨Tryz.f101.name,by decide,Tryz.func101.trans (congrArg some (by kernel_rfl))⟩
  f15:=Tryz.func102.trans (congrArg some (by kernel_rfl))
  f20:=⟨Tryz.f126.name,by decide,Tryz.func126.trans (congrArg some (by kernel_rfl))⟩
  f21:=⟨Tryz.f127.name,by decide,Tryz.func127.trans (congrArg some (by kernel_rfl))⟩
  f22:=⟨Tryz.f128.name,by decide,Tryz.func128.trans (congrArg some (by kernel_rfl))⟩
  f23:=⟨Tryz.f129.name,by decide,Tryz.func129.trans (congrArg some (by kernel_rfl))⟩
  f24:=⟨Tryz.f130.name,by decide,Tryz.func130.trans (congrArg some (by kernel_rfl))⟩
  f25:=⟨Tryz.f131.name,by decide,Tryz.func131.trans (congrArg some (by kernel_rfl))⟩
  f26:=⟨Tryz.f132.name,by decide,Tryz.func132.trans (congrArg some (by kernel_rfl))⟩
  f27:=⟨Tryz.f133.name,by decide,Tryz.func133.trans (congrArg some (by kernel_rfl))⟩
  f28:=Tryz.func134.trans (congrArg some (by kernel_rfl))
  f29:=Tryz.func135.trans (congrArg some (by kernel_rfl))
  f46:=⟨Tryz.f166.name,by decide,Tryz.func166.trans (congrArg some (by kernel_rfl))⟩
  f47:=Tryz.func167.trans (congrArg some (by kernel_rfl))
  f48:=Tryz.func168.trans (congrArg some (by kernel_rfl))
  f49:=⟨Tryz.f169.name,by decide,Tryz.func169.trans (congrArg some (by kernel_rfl))⟩
  f50:=⟨Tryz.f170.name,by decide,Tryz.func170.trans (congrArg some (by kernel_rfl))⟩
  f57:=⟨Tryz.f187.name,by decide,Tryz.func187.trans (congrArg some (by kernel_rfl))⟩
  t0:=Tryz.underlying0
  a0:=Tryz.isAgg0
  z0:=Tryz.sizeOf0
  v0:=Tryz.zeroValue0
  t3:=Tryz.underlying3
  a3:=Tryz.isAgg3
  z3:=Tryz.sizeOf3
  v3:=Tryz.zeroValue3
  t4:=Tryz.underlying4
  a4:=Tryz.isAgg4
  z4:=Tryz.sizeOf4
  v4:=Tryz.zeroValue4
  t5:=Tryz.underlying5
  a5:=Tryz.isAgg5
  z5:=Tryz.sizeOf5
  v5:=Tryz.zeroValue5
  t9:=Tryz.underlying9
  a9:=Tryz.isAgg9
  z9:=Tryz.sizeOf9
  v9:=Tryz.zeroValue9
  t22:=Tryz.underlying37
  a22:=Tryz.isAgg37
  z22:=Tryz.sizeOf37
  v22:=Tryz.zeroValue37
  t25:=Tryz.underlying86
  a25:=Tryz.isAgg86
  z25:=Tryz.sizeOf86
  v25:=Tryz.zeroValue86
  t39:=Tryz.underlying131
  a39:=Tryz.isAgg131
  z39:=Tryz.sizeOf131
  v39:=Tryz.zeroValue131
  t45:=Tryz.underlying151
  a45:=Tryz.isAgg151
  z45:=Tryz.sizeOf151
  v45:=Tryz.zeroValue151
  t46:=Tryz.underlying152
  a46:=Tryz.isAgg152
  z46:=Tryz.sizeOf152
  v46:=Tryz.zeroValue152
  t50:=Tryz.underlying115
  a50:=Tryz.isAgg115
  z50:=Tryz.sizeOf115
  v50:=Tryz.zeroValue115
  t53:=Tryz.underlying158
  a53:=Tryz.isAgg158
  z53:=Tryz.sizeOf158
  v53:=Tryz.zeroValue158
  t55:=Tryz.underlying160
  a55:=Tryz.isAgg160
  z55:=Tryz.sizeOf160
  v55:=Tryz.zeroValue160
  t66:=Tryz.underlying179
  a66:=Tryz.isAgg179
  z66:=Tryz.sizeOf179
  v66:=Tryz.zeroValue179
  t70:=Tryz.underlying183
  a70:=Tryz.isAgg183
  z70:=Tryz.sizeOf183
  v70:=Tryz.zeroValue183
  t76:=Tryz.underlying195
  a76:=Tryz.isAgg195
  z76:=Tryz.sizeOf195
  v76:=Tryz.zeroValue195
  t77:=Tryz.underlying196
  a77:=Tryz.isAgg196
  z77:=Tryz.sizeOf196
  v77:=Tryz.zeroValue196 }
end Go.Proofs
namespace Go.Proofs.YtkeanlfhghlgiaaGreatDoor
open Go Go.Sx Go.Proofs
attribute [local irreducible] Code.wp wpList wpAnyH
open Go.Vs
instance:Inhabited Fc:=⟨⟨0,[],[],[],0,0⟩⟩
theorem kP_ (x y:Int):Fn0 Tryz.prog 104 #[.int .i64 x,.int .i64 y] (.int .i64 (Lib.compareInt x y)) :=
  dp_ (callable Tryz.func104 rfl rfl) fun v _ _=>(Tryz.cmp_Compare_int x y v.w).mono (by rintro e w' ⟨rfl,rfl⟩;exact⟨rfl,⟨rfl,rfl,rfl,Nat.le_refl _,fun _ _=>rfl⟩,.inr (Nat.le_refl _)⟩)
theorem kO_ (x y:Str):Fn0 Tryz.prog 105 #[str x,str y] (.int .i64 (Lib.compareBytes x y)) :=
  dp_ (callable Tryz.func105 rfl rfl) fun v _ _=>(Tryz.strings_Compare ⟨x.toArray⟩ ⟨y.toArray⟩ v.w).mono (by rintro e w' ⟨rfl,rfl⟩;exact⟨rfl,⟨rfl,rfl,rfl,Nat.le_refl _,fun _ _=>rfl⟩,.inr (Nat.le_refl _)⟩)
def orF:List Int→Int
  | []=>0
  | x::l=>if x=0 then orF l else x
theorem ry_:∀ {l:List Int} {i:Nat} {x:Int},(∀ y∈l.take i,y=0)→l[i]? = some x→x≠0→orF l=x
  | [],_,_,_,h,_=>by simp at h
  | y::l,0,x,_,h,hx=>by simp at h;subst h;simp[orF,hx]
  | y::l,i+1,x,h0,h,hx=>by
    have hy:y=0:=h0 y (by simp)
    rw[orF,if_pos hy]
    exact ry_ (i:=i) (fun z hz=>h0 z (by rw[List.take_succ_cons];exact List.mem_cons_of_mem _ hz)) (by simpa using h) hx
theorem nh_:∀ {l:List Int},(∀ y∈l,y=0)→orF l=0
  | [],_=>rfl
  | y::l,h=>by rw[orF,if_pos (h y (by simp))];exact nh_ fun z hz=>h z (by simp[hz])
theorem cI_neg (x y:Int):Lib.compareInt x y<0↔x<y:=by unfold Lib.compareInt;(repeat' split)<;>omega
theorem tX_ (x y:Int):Lib.compareInt x y=0↔x=y:=by unfold Lib.compareInt;(repeat' split)<;>omega
theorem sx_:∀ (x y:Str),Lib.compareBytes x y<0↔x<y
 | [],[]=>by simp[Lib.compareBytes]
 | [],b::y=>by simp[Lib.compareBytes]
 | a::x,[]=>by simp[Lib.compareBytes]
 | a::x,b::y=>by
   rw[Lib.compareBytes,List.cons_lt_cons_iff]
   by_cases h1:a<b
   · rw[if_pos h1];simp[h1]
   · by_cases h2:b<a
     · rw[if_neg h1,if_pos h2]
       have:a≠b:=fun e=>by subst e;exact h1 h2
       simp[h1,this]
     · have e:a=b:=UInt8.le_antisymm (UInt8.not_lt.1 h2) (UInt8.not_lt.1 h1)
       rw[if_neg h1,if_neg h2,sx_ x y];simp[e]
theorem pq_:∀ (x y:Str),Lib.compareBytes x y=0↔x=y
 | [],[]=>by simp[Lib.compareBytes]
 | [],b::y=>by simp[Lib.compareBytes]
 | a::x,[]=>by simp[Lib.compareBytes]
 | a::x,b::y=>by
   rw[Lib.compareBytes]
   by_cases h1:a<b
   · rw[if_pos h1]
     have:a≠b:=fun e=>by subst e;exact absurd h1 (UInt8.lt_irrefl a)
     simp[this]
   · by_cases h2:b<a
     · rw[if_neg h1,if_pos h2]
       have:a≠b:=fun e=>by subst e;exact h1 h2
       simp[this]
     · have e:a=b:=UInt8.le_antisymm (UInt8.not_lt.1 h2) (UInt8.not_lt.1 h1)
       rw[if_neg h1,if_neg h2,pq_ x y];simp[e]
def jx_ (x y:Fc):Int:=orF [Lib.compareInt x.kind y.kind,Lib.compareBytes x.a y.a,Lib.compareBytes x.b y.b,Lib.compareBytes x.r y.r,Lib.compareInt x.lo y.lo,Lib.compareInt x.hi y.hi]
theorem hC_ (x:Int) (l:List Int):orF (x::l)<0↔x<0∨x=0∧orF l<0:=by
  rw[orF];split<;>omega
theorem sv_ (x y:Fc):jx_ x y<0↔x.lt y:=by
  unfold jx_ Fc.lt
  rw[hC_,hC_,hC_,hC_,hC_,hC_]
  simp only[cI_neg,tX_,sx_,pq_,orF,Int.lt_irrefl,and_false,or_false]
theorem orF_c (l:List Int) (ad:Option Addr) (cap:Nat) (hl:l.length≤1000):Tri Tryz.prog 103 #[.slice ad (List.length l) cap] [] [af_ ad (List.flatMap N_ l)] (fun _:Unit=>.int .i64 (orF l)) (fun _=>[]) (fun _=>[]):=by
 refine w_ Tryz.func103 rfl rfl Tryz.ntmps103 rfl fun v0=>?_
 refine Zz 19 ?_
 refine Q_ (ι:={y:Nat // y≤l.length∧∀ z∈l.take y,z=0}) (fun y=>[(3,.int .i64 0),(6,.slice ad (List.length l) cap),(7,.int .i64 (List.length l:Int)),(8,.int .i64 (y.1:Int))]) (fun y=>([])) (fun y=>[af_ ad (List.flatMap N_ l)]) (fun y=>l.length - y.1) ⟨(0:Nat),by simp,by simp⟩ zl m_ zh ?_
 rintro ⟨i,hi,h0⟩
 dsimp only at hi h0 ⊢
 refine Zi 2 (fun hr1=>?_) fun hr1=>?_
 ·refine Zz 13 ?_
  exact al_ Tryz.results103 () (cq_ rfl (nh_ fun y hy=>h0 y (by rw[List.take_of_length_le (by omega)];exact hy)).symm) m_ zt
 obtain⟨hlx1,x1,hx1,hmx1⟩:=zge (show i<List.length l by omega)
 refine Zi 19 (fun hr2=>?_) fun hr2=>?_
 ·refine Zz 10 ?_
  exact y_ ⟨i+1,hlx1,fun y hy=>by rw[List.take_add_one,hx1]at hy;simp only[Option.toList_some,List.mem_append,List.mem_singleton]at hy;rcases hy with hy|rfl;exact h0 y hy;omega⟩ (by dsimp only;omega) zl m_ zh
 refine Zz 10 ?_
 exact al_ Tryz.results103 () (cq_ rfl (ry_ h0 hx1 (by assumption)).symm) m_ zt
theorem cmpF_c (x y:Fc):Fn0 Tryz.prog 47 #[Fc.val x,Fc.val y] (.int .i64 (jx_ x y)):=by
  refine w_ Tryz.func47 rfl rfl Tryz.ntmps47 rfl fun v0=>?_
  refine Zz 2 ?_
  refine as_ rfl rfl fun b1=>as_ rfl rfl fun b2=>Zz 5 ?_
  refine s_ 9 [0,1,2,3,5,6,7,8,10,11,12,13,15,16,17,18,20,21,22,23,25,26,27,28] zk zs (Zz 25 ?_)
  refine j_ 4 rfl zk (n_ (kP_ x.kind y.kind) rfl m_ zt rfl fun _=>Zz 3 ?_)
  refine j_ 9 rfl zk (n_ (kO_ x.a y.a) rfl m_ zt rfl fun _=>Zz 3 ?_)
  refine j_ 14 rfl zk (n_ (kO_ x.b y.b) rfl m_ zt rfl fun _=>Zz 3 ?_)
  refine j_ 19 rfl zk (n_ (kO_ x.r y.r) rfl m_ zt rfl fun _=>Zz 3 ?_)
  refine j_ 24 rfl zk (n_ (kP_ x.lo y.lo) rfl m_ zt rfl fun _=>Zz 3 ?_)
  refine j_ 29 rfl zk (n_ (kP_ x.hi y.hi) rfl m_ zt rfl fun _=>Zz 3 ?_)
  refine j_ 30 rfl zk (S_ f_ o_ A_ rfl rfl rfl rfl rfl rfl fun b3=>?_)
  refine aB_ (List.flatMap N_ [(Lib.compareInt x.kind y.kind),(Lib.compareBytes x.a y.a),(Lib.compareBytes x.b y.b),(Lib.compareBytes x.r y.r),(Lib.compareInt x.lo y.lo),(Lib.compareInt x.hi y.hi)]) d_ rfl ?_
  refine Zz 3 ?_
  refine j_ 31 rfl zk (n_ (orF_c [(Lib.compareInt x.kind y.kind),(Lib.compareBytes x.a y.a),(Lib.compareBytes x.b y.b),(Lib.compareBytes x.r y.r),(Lib.compareInt x.lo y.lo),(Lib.compareInt x.hi y.hi)] (some ⟨b3,0,none⟩) 6 (by simp)) rfl m_ zf rfl fun _=>Zz 3 ?_)
  refine s_ 0 [32] zk zs (Zz 5 ?_)
  exact al_ Tryz.results47 () (cq_ rfl (by rfl)) m_ zt
end Go.Proofs.YtkeanlfhghlgiaaGreatDoor
namespace Go.Proofs.YtkeanlfhghlgiaaGreatDoor
open Go Go.Sx Go.Proofs
attribute [local irreducible] Code.wp wpList wpAnyH
open Go.Vs
structure Cl where
  atoms:List Str
  aad:Option Addr
  acap:Nat
  facts:List Fc
  fad:Option Addr
  fcap:Nat
def Cl.cells (c:Cl):List Value:=[.slice c.aad c.atoms.length c.acap,.slice c.fad c.facts.length c.fcap]
theorem Cl.cells_len (c:Cl):c.cells.length=2:=rfl
def Cl.val (c:Cl):Value:=.agg c.cells.toArray
def Cl.row (c:Cl):List Fct:=[af_ c.aad (List.flatMap aV_ c.atoms),af_ c.fad (List.flatMap Fc.cells c.facts)]
def Cl.no:Cl:=Cl.mk [] none 0 [] none 0
structure Cl.ok (c:Cl):Prop where
  al:c.atoms.length≤c.acap
  am:c.acap≤maxLen
  az:c.aad=none→c.acap=0
  fl:c.facts.length≤c.fcap
  fm:c.fcap≤maxLen
  fz:c.fad=none→c.fcap=0
theorem Cl.no_ok:Cl.no.ok:=⟨Nat.le_refl _,by simp[Cl.no],fun _=>rfl,Nat.le_refl _,by simp[Cl.no],fun _=>rfl⟩
theorem tf_ {s:Str} (h:dB_ s=true):s≠[]:=fun e=>by subst e;revert h;decide
theorem pQ_ {s:Str} (h:ck_ s=true):s≠[]:=fun e=>by subst e;revert h;decide
theorem hz_ {p:Pc} (h:p.valid=true):p.vok:=by
 unfold Pc.valid at h
 split at h
 ·simp at h
 rename_i h1
 split at h
 ·simp at h
 rename_i h2
 split at h
 ·simp at h
 have hk:p.kind=1∨p.kind=2∨p.kind=3∨p.kind=4∨p.kind=5∨p.kind=6∨p.kind=7∨p.kind=8∨p.kind=9:=by omega
 have hn:∀ {b:Bool} {s:Str},cr_ b s dB_=true→b=true→s≠[]:=fun h1 h2=>by
   subst h2;simp[cr_]at h1;exact tf_ h1
 have hn':∀ {b:Bool} {s:Str},cr_ b s ck_=true→b=true→s≠[]:=fun h1 h2=>by
   subst h2;simp[cr_]at h1;exact pQ_ h1
 simp only[Bool.and_eq_true]at h
 obtain⟨⟨⟨⟨⟨_,_⟩,_⟩,hr⟩,hs⟩,ht⟩:=h
 unfold Pc.rok at *
 refine⟨⟨fun q=>?_,fun q=>?_,fun q=>?_⟩,fun q=>?_⟩
 ·rcases q with q|q|q|q|q|q|q<;>rw[q]at hr
  ·exact hn hr (by decide)
  ·exact hn hr (by decide)
  ·exact hn hr (by decide)
  ·exact hn' hr (by decide)
  ·exact hn hr (by decide)
  ·exact hn hr (by decide)
  exact hn' hr (by decide)
 ·rw[q]at hs ht;exact⟨hn hs (by decide),hn ht (by decide)⟩
 ·rw[q]at ht;exact hn ht (by decide)
 rcases q with q|q<;>rw[q]at h2<;>have:(nus 8).numbers=true∧(nus 9).numbers=true:=by decide
 all_goals simp only[this.1,this.2,true_and]at h2;omega
theorem nO_ {p:List Pc} (h:cV_ p=0):p.length≤16384∧p.all Pc.valid=true:=by
 unfold cV_ at h
 split at h
 ·simp at h
 split at h
 ·exact⟨by omega,by assumption⟩
 simp at h
theorem lU_ {p:List Pc} (h:cV_ p=0):∀ x∈p,x.vok:=fun x hx=>hz_ (List.all_eq_true.1 (nO_ h).2 x hx)
section
variable {P:Program} {N:Nf} {v0:Vw} {H0:Hp} {fr:Fr} {H F Ha Hu Ho Hi Hr Hm Hs:Hp} {Γ:List Fct}
theorem dj_ {fn:Func} {t s b n:Nat} {ty T:TypeId} {us:List Value} {u:Value} (i:Nat) (hr:fn.results=#[.cell t ty,.tmp s]) (ha:∀ w,(isAgg ty).run P w=.ok true w) (hs:∀ w,(sizeOf ty).run P w=.ok n w) (hn:us.length=n) (hx:Fr.get fr t=some (zp_ b 0)) (hu:Fr.get fr s=some u)
    (hi:H[i]? = some (b,.cells us.toArray T (0,0))) (a:Act) (v:Vw) (h1:Fr.sat N fr a) (h2:v.sat H):(results fn a.tmps).run P v.w=.ok (.tuple #[.agg us.toArray,u]) v.w:=by
  have e:=h1.val t _ hx
  have e2:=h1.val s _ hu
  have hl:=ds_ (t:=ty) (w:=v.w) (b:=b) (off:=0) ha hs hn (fun j y hj=>by rw[Nat.zero_add,hh_ h2 hi];simpa using hj)
  simp[results,hr,e,e2,asAddr,hl]
theorem ol_ (h:H.Perm ((Ha++(Hu++(Ho++(Hi++(Hr++(Hm++Hs))))))++F)):H.Perm (((Ha++(Hu++(Ho++(Hi++(Hr++Hm)))))++Hs)++F):=by simpa [List.append_assoc] using h
theorem mh_:(((Ha++(Hu++(Ho++(Hi++(Hr++Hm)))))++Hs)++F).Perm (Ha++(Hu++(Ho++(Hi++(Hr++(Hm++(Hs++F))))))):=by simp[List.append_assoc]
theorem tl_ {a b c:Nat×Obj} {Hq:Hp}:((Ha++(Hu++(Ho++(Hi++(Hr++(Hm++(a::b::([c]++Hq))))))))++F).Perm (Ha++(Hu++(Ho++(Hi++(Hr++(Hm++(a::b::([c]++(Hq++F))))))))):=by simp[List.append_assoc]
end
theorem eY_:jb_ Tryz.prog 39 [(0,1),(1,1)] [.slice none 0 0,.slice none 0 0]:=⟨_,Tryz.zeroValue39,cG_,fun w=>by simp[ul_,Tryz.sizeOf37]⟩
end Go.Proofs.YtkeanlfhghlgiaaGreatDoor
namespace Go.Proofs.YtkeanlfhghlgiaaGreatDoor
open Go Go.Sx Go.Proofs
attribute [local irreducible] Code.wp wpList wpAnyH
open Go.Vs Go.Shelf Go.RowKit
theorem mK_ {v v':Vw} (h:v.to [] v' []) (hs:¬ v.sl):∃ q os,v'.w=Sort.grow (v.w.drewN q) os:=by
 have hd:v.w.drawn≤v'.w.drawn:=h.dr.resolve_left hs
 refine⟨v'.w.drawn - v.w.drawn,v'.w.heap.extract v.w.heap.size v'.w.heap.size,?_⟩
 have hh:v'.w.heap=v.w.heap++v'.w.heap.extract v.w.heap.size v'.w.heap.size:=by
   apply Array.ext_getElem?
   intro i
   have hsz:=h.size
   rw[Array.getElem?_append]
   split
   · rename_i hi;exact h.block i hi (by simp)
   · rename_i hi
     rw[Array.getElem?_extract]
     split
     · congr 1;omega
     · rw[Array.getElem?_eq_none (by omega)]
 have e1:=h.os;have e2:=h.tape;have e3:=h.output
 obtain⟨im',⟨hp,tp,dn,os',ou⟩,sl'⟩:=v'
 simp only at e1 e2 e3 hh hd
 simp only[Sort.grow,World.drewN,World.mk.injEq]
 exact⟨hh,e2,by omega,e1,e3⟩
theorem tU_ (blk off size:Nat) (w:World):CmpLays Tryz.prog 47 #[] Fc.cells 6 jx_ blk off size w:=fun m os dk _ x y=>by
  have h:=(cmpF_c x y).run ⟨fun _=>False,sortWorldK Fc.cells 6 w blk off m dk os,False⟩ ⟨by simp,by simp,fun _ h=>h.elim⟩ trivial
  refine h.mono ?_
  rintro e w' ⟨_,v',rfl,rfl,_,_,ht⟩
  obtain⟨q,os',hw⟩:=mK_ ht (fun h=>h)
  exact⟨rfl,q,os',hw⟩
theorem ltF (x y:Fc):ltOf jx_ x y=decide (x.lt y):=by unfold ltOf;rw[decide_eq_decide];exact sv_ x y
theorem swoF:Sort.SWO (ltOf jx_) where
 irrefl x:=by rw[ltF];exact decide_eq_false x.lt_irr
 trans x y z h1 h2:=by rw[ltF,decide_eq_true_eq]at *;exact Fc.lt_trans h1 h2
 ntrans x y z h1 h2:=by
   rw[ltF,decide_eq_false_iff_not]at *
   intro h
   rcases Fc.lt_tri x y with g|g|g
   · exact h1 g
   · subst g;exact h2 h
   · exact h2 (Fc.lt_trans g h)
theorem totF (x y:Fc) (h1:ltOf jx_ x y=false) (h2:ltOf jx_ y x=false):x=y:=by
 rw[ltF,decide_eq_false_iff_not]at h1 h2
 rcases Fc.lt_tri x y with g|g|g
 ·exact absurd g h1
 ·exact g
 exact absurd g h2
theorem kE_ (xs:List Fc):Sort.flatK Fc.cells 6 xs.toArray=(xs.flatMap Fc.cells).toArray:=by
 apply Array.ext_getElem?
 intro t
 have e0:(xs.flatMap Fc.cells).toArray[t]? = (xs.flatMap Fc.cells)[t]? := by simp
 rw[e0]
 by_cases ht:t<xs.length*6
 ·have hd:t / 6<xs.length:=by omega
  have:=mu_ Fc.cells 6 Fc.cells_len xs (t / 6) (t%6) xs[t / 6] (List.getElem?_eq_getElem hd) (Nat.mod_lt _ (by decide))
  rw[show t / 6*6+t%6=t by omega]at this
  rw[this]
  simp only[Sort.flatK,Array.getElem?_map,List.size_toArray]
  rw[Array.getElem?_eq_getElem (by simpa using ht)]
  simp only[Array.getElem_range,Option.map_some]
  rw[getElem!_pos xs.toArray (t / 6) (by simpa using hd)]
  have hl:t%6<(Fc.cells xs[t / 6]).length:=by rw[Fc.cells_len];omega
  rw[List.getElem?_eq_getElem hl]
  simp only[List.getElem_toArray]
  rw[getElem!_pos (Fc.cells xs[t / 6]) (t%6) hl]
 rw[List.getElem?_eq_none (by rw[bV_ Fc.cells 6 Fc.cells_len];omega),Array.getElem?_eq_none (by simp[Sort.flatK];omega)]
theorem mO_ {P:Program} {Γ:List Fct} {f:FuncId} {args:Array Value} {r:Value} {g:Nat} {cur:Array Value} {T:TypeId} {d:Array Value} (hc:dM_ P f)
    (h:∀ v:Vw,v.sat [(g,.cells cur T (0,0))]→Calls P f args v.w fun e w'=>e=.returned r∧∃ n os,w'=Sort.grow (Sort.putRow id (Sort.ahead v.w n) g 0 d) os) :
    Tri P f args [(g,.cells cur T (0,0))] Γ (fun _:Unit=>r) (fun _=>[(g,.cells (Sort.putCells id 0 d cur) T (0,0))]) (fun _=>[]) :=
  ⟨hc,fun v h1 _=>(h v h1).mono fun e w' ⟨he,n,os,hw⟩=>by
    have hg:=(h1.own _ List.mem_cons_self)
    have hlt:g<v.w.heap.size:=(Array.getElem?_eq_some_iff.1 hg.1).1
    have hb:∀ b,b<v.w.heap.size→w'.heap[b]? = if b=g then some (.cells (Sort.putCells id 0 d cur) T (0,0)) else v.w.heap[b]? := fun b hb=>by
      rw[hw]
      simp only[Sort.grow,Sort.putRow,Sort.mapBlock,Sort.ahead]
      rw[Array.getElem?_append_left (by simpa using hb),Array.getElem?_modify]
      by_cases e:b=g
      · subst e
        simp only[if_true,hg.1,Option.map_some,Sort.onCells]
      · rw[if_neg (fun q=>e q.symm),if_neg e]
    have hsz:v.w.heap.size≤w'.heap.size:=by rw[hw];simp[Sort.grow,Sort.putRow,Sort.mapBlock,Sort.ahead]
    refine⟨(),⟨v.im,w',v.sl⟩,he,rfl,⟨fun p hp=>?_,by simp,fun b hbb=>Nat.lt_of_lt_of_le (h1.lt b hbb) hsz⟩,trivial,⟨by rw[hw];rfl,by rw[hw];rfl,by rw[hw];rfl,hsz,fun b hbb hn=>?_,fun _ h=>h,fun _ h=>.inl h,fun b hm=>.inl (by simpa using hm),rfl,.inr (by rw[hw];exact Nat.le_add_right _ _)⟩⟩
    · simp only[List.mem_singleton]at hp
      subst hp
      exact⟨by show w'.heap[g]? = _;rw[hb g hlt,if_pos rfl],hg.2⟩
    · have hn':b≠g:=by simpa using hn
      show w'.heap[b]? = _
      rw[hb b hbb,if_neg hn']⟩
theorem pM_ {cur:Array Value} {d:List Value} (hs:d.length≤cur.size):(Sort.putCells id 0 d.toArray cur).toList.take d.length=d:=by
 apply List.ext_getElem?
 intro j
 rw[List.getElem?_take]
 split
 ·rename_i hj
  simp only[Sort.putCells,Array.getElem?_toList,Array.getElem?_mapIdx]
  rw[Array.getElem?_eq_getElem (by omega)]
  simp only[Option.map_some,Nat.zero_le,true_and,Nat.zero_add,List.size_toArray,hj,if_true,Nat.sub_zero]
  rw[List.getElem?_eq_getElem hj,getElem!_pos d.toArray j (by simpa using hj)]
  rfl
 rename_i hj
 rw[List.getElem?_eq_none (by omega)]
theorem pN_ {cur d:Array Value}:(Sort.putCells id 0 d cur).size=cur.size:=by simp[Sort.putCells]
theorem holdsV {g:Nat} {cur:Array Value} {T:TypeId} {xs:List Value} {v:Vw} (hs:v.sat [(g,.cells cur T (0,0))]) (ht:cur.toList.take xs.length=xs):Sort.Holds id v.w g 0 xs.toArray:=by
 intro j hj
 have hb:=(hs.own _ List.mem_cons_self).1
 simp only[List.size_toArray]at hj
 have hc:cur[j]? = some xs[j]:=by
   have:=congrArg (fun l=>l[j]?) ht
   simp only[List.getElem?_take,hj,if_true,Array.getElem?_toList]at this
   rw[this,List.getElem?_eq_getElem hj]
 refine⟨?_,?_⟩
 ·simp only[World.cell?,Nat.zero_add,hb,Option.isSome_none,Bool.false_eq_true,if_false]
  rw[hc,getElem!_pos xs.toArray j (by simpa using hj)]
  rfl
 simp[World.frozen?,hb]
def hV_ (xs:List Fc):List Fc:=xs.mergeSort fun x y=>!(ltOf jx_) y x
theorem gc_ (xs:List Fc):(hV_ xs).length=xs.length:=List.length_mergeSort _
theorem qO_ (xs:List Fc) (x:Fc):x∈hV_ xs↔x∈xs:=List.mem_mergeSort
theorem qN_ {xs:List Fc} (h:xs.Nodup):Srt (hV_ xs):=by
 have h1:(hV_ xs).Pairwise fun x y=>(!(ltOf jx_) y x)=true:=List.pairwise_mergeSort
   (fun a b c h1 h2=>by simp only[Bool.not_eq_true']at *;exact swoF.ntrans c b a h2 h1)
   (fun a b=>by
     simp only[Bool.or_eq_true,Bool.not_eq_true']
     rw[ltF,ltF,decide_eq_false_iff_not,decide_eq_false_iff_not]
     rcases Fc.lt_tri a b with g|g|g
     · exact .inl fun q=>Fc.lt_irr a (Fc.lt_trans g q)
     · subst g;exact .inl a.lt_irr
     · exact .inr fun q=>Fc.lt_irr a (Fc.lt_trans q g)) xs
 have h2:(hV_ xs).Nodup:=(List.mergeSort_perm xs _).nodup_iff.2 h
 refine (h1.and h2).imp ?_
 rintro x y ⟨a,b⟩
 simp only[Bool.not_eq_true',ltF,decide_eq_false_iff_not]at a
 rcases Fc.lt_tri x y with g|g|g
 ·exact g
 ·exact absurd g b
 exact absurd g a
theorem sY_ {sv:Value} {xs:List Fc} {Hr:Hp} (h:aE_ 24 6 sv xs.length (xs.flatMap Fc.cells) Hr) (hl:xs.length≤1000000000000) :
    Tri Tryz.prog 46 #[sv,.func (.func 47) #[] #[]] Hr [] (fun _:{y:Hp // aE_ 24 6 sv (hV_ xs).length ((hV_ xs).flatMap Fc.cells) y}=>.tuple #[]) (fun y=>y.1) (fun _=>[]):=by
  rcases h.2 with⟨rfl,h2,rfl⟩|⟨g,cap,cur,rfl,rfl,h3,h4,h5,h6⟩
  · obtain rfl:xs=[]:=List.eq_nil_of_length_eq_zero h2
    have T:=dp_ (P:=Tryz.prog) (H:=[]) (Γ:=[]) (callable Tryz.func46 rfl rfl) (fun v _ _=>(AnyF.slices_SortFunc_none Tryz.sortFc none 0 (.func (.func 47) #[] #[]) v.w).mono (by rintro e w' ⟨rfl,rfl⟩;exact⟨rfl,⟨rfl,rfl,rfl,Nat.le_refl _,fun _ _=>rfl⟩,.inr (Nat.le_refl _)⟩))
    exact⟨T.callable,fun v a b=>(T.run v a b).mono (by rintro e w' ⟨x,v',e1,e2,e3,e4,e5⟩;exact⟨⟨[],by simpa [hV_] using aE_.nil _ _⟩,v',e1,e2,e3,e4,e5⟩)⟩
  · have hx:(xs.flatMap Fc.cells).length=xs.length*6:=bV_ Fc.cells 6 Fc.cells_len xs
    have T:=mO_ (P:=Tryz.prog) (Γ:=[]) (r:=.tuple #[]) (g:=g) (cur:=cur) (T:=24) (d:=((hV_ xs).flatMap Fc.cells).toArray) (f:=46) (args:=#[.slice (some ⟨g,0,none⟩) xs.length cap,.func (.func 47) #[] #[]]) (callable Tryz.func46 rfl rfl) (fun v hs=>by
      have hh:=AnyQ.slices_SortFunc_total Tryz.sortFc 6 aX_ B_ Fc.cells Fc.cells_len (fun x u hu=>List.all_eq_true.1 x.cells_one u hu) jx_ swoF 47 #[] g 0 cap xs.toArray v.w (fun args w=>(callable Tryz.func47 rfl rfl) args w) (tU_ g 0 _ v.w) (by unfold Sort.HoldsK;rw[kE_];exact holdsV hs (by rw[hx];exact h6)) (Array.getElem?_eq_some_iff.1 (hs.own _ List.mem_cons_self).1).1 (by simp;omega) totF
      refine hh.mono ?_
      rintro e w' ⟨rfl,n,os,rfl⟩
      refine⟨rfl,n,os,?_⟩
      unfold sortWorldK Sort.putRowK
      rw[show ((xs.toArray.toList.mergeSort fun x y=>!(ltOf jx_) y x))=hV_ xs from rfl,kE_])
    refine⟨T.callable,fun v a b=>(T.run v a b).mono ?_⟩
    rintro e w' ⟨x,v',e1,e2,e3,e4,e5⟩
    have hy:((hV_ xs).flatMap Fc.cells).length=xs.length*6:=by rw[bV_ Fc.cells 6 Fc.cells_len,gc_]
    refine⟨⟨_,by rw[hy,gc_],.inr ⟨g,cap,_,by rw[gc_],rfl,by rw[gc_];exact h3,h4,by rw[pN_];exact h5,?_⟩⟩,v',e1,e2,e3,e4,e5⟩
    have:=pM_ (cur:=cur) (d:=(hV_ xs).flatMap Fc.cells) (by rw[hy,h5];omega)
    rw[hy]at this
    rw[gc_];exact this
end Go.Proofs.YtkeanlfhghlgiaaGreatDoor
namespace Go.Proofs.YtkeanlfhghlgiaaGreatDoor
open Go Go.Sx Go.Proofs
attribute [local irreducible] Code.wp wpList wpAnyH
open Go.Vs
section
variable {P:Program} {N:Nf} {v0:Vw} {H0:Hp} {fr:Fr} {H F:Hp} {Γ:List Fct} {K D:Type} [DecidableEq K]
theorem kC_:∀ (B:Hp) {v:Vw},am_ (B.map fun p=>eu_ p.1 p.2) v→∀ p∈B,v.im p.1∧v.w.heap[p.1]? = some p.2
 | [],_,_,_,h=>by simp at h
 | q::B,v,h,p,hp=>by
   rcases List.mem_cons.1 hp with rfl|hp
   · exact h.1
   · exact kC_ B h.2 p hp
theorem rC_ {k:Act→World→Prop} {kv:K→Value} {cells:D→List Value} {kt e:TypeId} {sz mb:Nat} {l:List (K×D)} {Hm:Hp} (hK:KeyT P kt kv) (hm:aS_ kv cells e sz l mb Hm) (hH:H.Perm (Hm++F))
    (h:∀ adr,Ok N v0 H0 k fr F (mlF P kt kv cells mb l adr::Γ)):Ok N v0 H0 k fr H Γ:=by
  obtain⟨adr,ha⟩:=hm.lent hK
  refine iA_ Hm hH (gj_ (fun v _ hv=>?_) (h adr))
  rw[eB_]at hv
  refine⟨ha v fun p hp=>?_,hv.2⟩
  have:=hv.1
  exact kC_ Hm.reverse (by rw[List.map_reverse]at *;exact this) p (List.mem_reverse.2 hp)
theorem ft_ {tF:TypeId} {E:Emt P tF} {nw fm:List Fc} {Hs:Hp} {ty t kt et:TypeId} {x:Operand} (hS:E.St nw fm Hs) (hu:∀ w,(underlying t).run P w=.ok (.map kt et) w) (hx:Fr.ev fr x=some (.map (some E.kb))) (hp:H.Perm (Hs++F)) :
    Yld P N fr H Γ (.call ⟨.builtin .len,#[x],#[t]⟩) ty (.int .i64 ((E.kof nw).length:Int)):=by
  obtain⟨es,c,g1,g2⟩:=E.known hS
  exact jR_ g2 hu hx fun v h _=>ki_ hp g1 h
end
def ot_ (x:Ix) (n:Nat):Prop:=x.above.length≤n∧x.under.length≤n∧x.frm.length≤n∧x.into.length≤n∧x.ranges.length≤n∧x.firms.length≤n
theorem rY_:ot_ Ix.nil 0:=by simp[ot_,Ix.nil]
theorem iF_ {x:Ix} {n:Nat} (h:ot_ x n) (b:Bool) (f:Fc):ot_ (x.add b f) (n+1):=by
 obtain⟨h1,h2,h3,h4,h5,h6⟩:=h
 unfold Ix.add ot_
 split
 ·simp;omega
 split
 ·simp;omega
 split
 ·cases b<;>simp<;>omega
 omega
theorem nu_ {x:Ix} {n:Nat} (h:ot_ x n) (hn:n≤1000000000):(∀ k,(lat x.above k).length≤1000000000∧(lat x.under k).length≤1000000000)∧(∀ k,(lat x.frm k).length≤1000000000∧(lat x.into k).length≤1000000000∧(lat x.ranges k).length≤1000000000∧(lat x.firms k).length≤1000000000):=by
 obtain⟨h1,h2,h3,h4,h5,h6⟩:=h
 refine⟨fun k=>⟨?_,?_⟩,fun k=>⟨?_,?_,?_,?_⟩⟩
 ·have:=bc_ x.above k;omega
 ·have:=bc_ x.under k;omega
 ·have:=bc_ x.frm k;omega
 ·have:=bc_ x.into k;omega
 ·have:=bc_ x.ranges k;omega
 have:=bc_ x.firms k;omega
theorem td_ (B:EngB) (E:Emt Tryz.prog 24) (A0:EngA) (pm:List (Ky×Pc)) (x:Ix) (f:Fc) (nw fm:List Fc) (Hs:Hp) (hS:E.St nw fm Hs) (Ha Hu Ho Hi Hr Hm:Hp) (hI:IxO 9 24 B x ⟨Ha,Hu,Ho,Hi,Hr,Hm⟩) (hpl:∀ k,(lat pm k).length≤1000000000) (hxl:∀ k,(lat x.above k).length≤1000000000∧(lat x.under k).length≤1000000000) (hyl:∀ k,(lat x.frm k).length≤1000000000∧(lat x.into k).length≤1000000000∧(lat x.ranges k).length≤1000000000∧(lat x.firms k).length≤1000000000) (hf:f.kind=3→-1099511627776≤f.lo∧f.lo≤f.hi∧f.hi≤1099511627776) (hq:f.kind=3→∀ y∈lat pm (Ky.mk 9 f.r []),-1099511627776≤y.lo∧y.lo≤y.hi∧y.hi≤1099511627776) (hk:f.kind=1):∀ (j:Nat) {fv:Value},(rlV B.g 1)[j]? = some fv→∃ n:Nat,fv=.func (.func n) #[zp_ B.g 0] #[]∧Tri Tryz.prog n #[zp_ B.g 0,f.val] ((Ha++(Hu++(Ho++(Hi++(Hr++Hm)))))++Hs) [gF B E,pF B pm A0,E.ef] (fun _:{H':Hp // E.St (rl E.stp E.kof pm x f j (nw,fm)).1 (rl E.stp E.kof pm x f j (nw,fm)).2 H'}=>.tuple #[]) (fun y=>(Ha++(Hu++(Ho++(Hi++(Hr++Hm)))))++y.1) (fun _=>[])
  | 0,_,h=>⟨89,(Option.some.inj h).symm,rl10_c B E A0 pm x f nw fm Hs hS Ha Hu Ho Hi Hr Hm hI hpl hxl hyl hf hq hk⟩
  | 1,_,h=>⟨90,(Option.some.inj h).symm,rl11_c B E A0 pm x f nw fm Hs hS Ha Hu Ho Hi Hr Hm hI hpl hxl hyl hf hq hk⟩
  | 2,_,h=>⟨91,(Option.some.inj h).symm,rl12_c B E A0 pm x f nw fm Hs hS Ha Hu Ho Hi Hr Hm hI hpl hxl hyl hf hq hk⟩
  | 3,_,h=>⟨92,(Option.some.inj h).symm,rl13_c B E A0 pm x f nw fm Hs hS Ha Hu Ho Hi Hr Hm hI hpl hxl hyl hf hq hk⟩
  | 4,_,h=>⟨93,(Option.some.inj h).symm,rl14_c B E A0 pm x f nw fm Hs hS Ha Hu Ho Hi Hr Hm hI hpl hxl hyl hf hq hk⟩
  | 5,_,h=>⟨94,(Option.some.inj h).symm,rl15_c B E A0 pm x f nw fm Hs hS Ha Hu Ho Hi Hr Hm hI hpl hxl hyl hf hq hk⟩
  | j+6,_,h=>by simp[rlV]at h
theorem tc_ (B:EngB) (E:Emt Tryz.prog 24) (A0:EngA) (pm:List (Ky×Pc)) (x:Ix) (f:Fc) (nw fm:List Fc) (Hs:Hp) (hS:E.St nw fm Hs) (Ha Hu Ho Hi Hr Hm:Hp) (hI:IxO 9 24 B x ⟨Ha,Hu,Ho,Hi,Hr,Hm⟩) (hpl:∀ k,(lat pm k).length≤1000000000) (hxl:∀ k,(lat x.above k).length≤1000000000∧(lat x.under k).length≤1000000000) (hyl:∀ k,(lat x.frm k).length≤1000000000∧(lat x.into k).length≤1000000000∧(lat x.ranges k).length≤1000000000∧(lat x.firms k).length≤1000000000) (hf:f.kind=3→-1099511627776≤f.lo∧f.lo≤f.hi∧f.hi≤1099511627776) (hq:f.kind=3→∀ y∈lat pm (Ky.mk 9 f.r []),-1099511627776≤y.lo∧y.lo≤y.hi∧y.hi≤1099511627776) (hk:f.kind=2):∀ (j:Nat) {fv:Value},(rlV B.g 2)[j]? = some fv→∃ n:Nat,fv=.func (.func n) #[zp_ B.g 0] #[]∧Tri Tryz.prog n #[zp_ B.g 0,f.val] ((Ha++(Hu++(Ho++(Hi++(Hr++Hm)))))++Hs) [gF B E,pF B pm A0,E.ef] (fun _:{H':Hp // E.St (rl E.stp E.kof pm x f j (nw,fm)).1 (rl E.stp E.kof pm x f j (nw,fm)).2 H'}=>.tuple #[]) (fun y=>(Ha++(Hu++(Ho++(Hi++(Hr++Hm)))))++y.1) (fun _=>[])
  | 0,_,h=>⟨95,(Option.some.inj h).symm,rl20_c B E A0 pm x f nw fm Hs hS Ha Hu Ho Hi Hr Hm hI hpl hxl hyl hf hq hk⟩
  | 1,_,h=>⟨96,(Option.some.inj h).symm,rl21_c B E A0 pm x f nw fm Hs hS Ha Hu Ho Hi Hr Hm hI hpl hxl hyl hf hq hk⟩
  | 2,_,h=>⟨97,(Option.some.inj h).symm,rl22_c B E A0 pm x f nw fm Hs hS Ha Hu Ho Hi Hr Hm hI hpl hxl hyl hf hq hk⟩
  | 3,_,h=>⟨98,(Option.some.inj h).symm,rl23_c B E A0 pm x f nw fm Hs hS Ha Hu Ho Hi Hr Hm hI hpl hxl hyl hf hq hk⟩
  | j+4,_,h=>by simp[rlV]at h
theorem tb_ (B:EngB) (E:Emt Tryz.prog 24) (A0:EngA) (pm:List (Ky×Pc)) (x:Ix) (f:Fc) (nw fm:List Fc) (Hs:Hp) (hS:E.St nw fm Hs) (Ha Hu Ho Hi Hr Hm:Hp) (hI:IxO 9 24 B x ⟨Ha,Hu,Ho,Hi,Hr,Hm⟩) (hpl:∀ k,(lat pm k).length≤1000000000) (hxl:∀ k,(lat x.above k).length≤1000000000∧(lat x.under k).length≤1000000000) (hyl:∀ k,(lat x.frm k).length≤1000000000∧(lat x.into k).length≤1000000000∧(lat x.ranges k).length≤1000000000∧(lat x.firms k).length≤1000000000) (hf:f.kind=3→-1099511627776≤f.lo∧f.lo≤f.hi∧f.hi≤1099511627776) (hq:f.kind=3→∀ y∈lat pm (Ky.mk 9 f.r []),-1099511627776≤y.lo∧y.lo≤y.hi∧y.hi≤1099511627776) (hk:f.kind=3):∀ (j:Nat) {fv:Value},(rlV B.g 3)[j]? = some fv→∃ n:Nat,fv=.func (.func n) #[zp_ B.g 0] #[]∧Tri Tryz.prog n #[zp_ B.g 0,f.val] ((Ha++(Hu++(Ho++(Hi++(Hr++Hm)))))++Hs) [gF B E,pF B pm A0,E.ef] (fun _:{H':Hp // E.St (rl E.stp E.kof pm x f j (nw,fm)).1 (rl E.stp E.kof pm x f j (nw,fm)).2 H'}=>.tuple #[]) (fun y=>(Ha++(Hu++(Ho++(Hi++(Hr++Hm)))))++y.1) (fun _=>[])
  | 0,_,h=>⟨99,(Option.some.inj h).symm,rl30_c B E A0 pm x f nw fm Hs hS Ha Hu Ho Hi Hr Hm hI hpl hxl hyl hf hq hk⟩
  | 1,_,h=>⟨100,(Option.some.inj h).symm,rl31_c B E A0 pm x f nw fm Hs hS Ha Hu Ho Hi Hr Hm hI hpl hxl hyl hf hq hk⟩
  | j+2,_,h=>by simp[rlV]at h
def fl_ (p:List Pc) (bu:Int) (c:Cl) (e:Int):Prop :=
  if cV_ p≠0 then c=Cl.no∧e=cV_ p
  else if bu<0∨1073741824<bu then c=Cl.no∧e=1
  else (e=0∧c.ok∧c.atoms=atS p∧fP_ p (atS p) (min bu 65536).toNat (some c.facts))∨(c=Cl.no∧e=(if bu<65536 then 3 else 2)∧fP_ p (atS p) (min bu 65536).toNat none)
theorem sH_ {p:List Pc} {bu:Int} (h:cV_ p≠0):fl_ p bu Cl.no (cV_ p):=by unfold fl_;rw[if_pos h];exact⟨rfl,rfl⟩
theorem nU_ {p:List Pc} {bu:Int} (h:cV_ p=0) (hb:bu<0∨1073741824<bu):fl_ p bu Cl.no 1:=by unfold fl_;rw[if_neg (by simp[h]),if_pos hb];exact⟨rfl,rfl⟩
theorem ug_ {p:List Pc} {bu:Int} {m n:Nat} {c:Cl} {q fm:List Fc} {x:Ix} (hc:cV_ p=0) (h1:¬ bu<0) (h2:¬ 1073741824<bu) (hm:min bu 65536=(m:Int)) (hk:c.ok) (ha:c.atoms=atS p) (hL:LoopA (uniq [] p) (atS p) m n q fm x) (hn:q.length≤n) (hl:q.length≤m) (hf:c.facts=hV_ q):fl_ p bu c 0:=by
  unfold fl_
  rw[if_neg (by simp[hc]),if_neg (by omega)]
  have e:n=q.length:=Nat.le_antisymm hL.le hn
  subst e
  refine .inl ⟨rfl,hk,ha,?_⟩
  rw[hm,hf]
  exact⟨qN_ hL.nd,fun y=>by rw[qO_,← os_ hL hl,mN_],by rw[gc_];simpa using hl⟩
theorem et_ {p:List Pc} {bu:Int} {m:Nat} {e:Int} {M:List Fc} (hc:cV_ p=0) (h1:¬ bu<0) (h2:¬ 1073741824<bu) (hm:min bu 65536=(m:Int)) (he:e=if bu<65536 then 3 else 2) (nd:M.Nodup) (hd:∀ y∈M,Der (uniq [] p) (atS p) y) (hl:m<M.length):fl_ p bu Cl.no e:=by
  unfold fl_
  rw[if_neg (by simp[hc]),if_neg (by omega)]
  exact .inr ⟨rfl,he,M,nd,fun y hy=>mN_.1 (hd y hy),by rw[hm];simpa using hl⟩
end Go.Proofs.YtkeanlfhghlgiaaGreatDoor
namespace Go.Proofs.YtkeanlfhghlgiaaGreatDoor
open Go Go.Sx Go.Proofs
attribute [local irreducible] Code.wp wpList wpAnyH
open Go.Vs
set_option maxHeartbeats 4000000 in
theorem all_c (p:List Pc) (pad:Option Addr) (pcap:Nat) (bu:Int) (hsm:∀ x∈p,x.sm) (hp:p.length≤100000000):Tri Tryz.prog 15 #[.slice pad (List.length p) pcap,.int .i64 bu] [] [af_ pad (List.flatMap Pc.cells p),jt_] (fun y:{y:Cl×Int // fl_ p bu y.1 y.2}=>.tuple #[y.1.1.val,.int .i64 y.1.2]) (fun _=>[]) (fun y=>y.1.1.row):=by
 refine w_ Tryz.func15 rfl rfl Tryz.ntmps15 rfl fun v0=>?_
 refine Zz 2 ?_
 refine J_ Tryz.zeroValue39 rfl fun b1=>Zz 3 ?_
 refine pE_ (Zz 4 ?_)
 refine n_ (tV_ p pad pcap (by omega) hsm) rfl m_ zf rfl fun _=>Zi 6 (fun hr1=>?_) fun hr1=>?_
 ·have hchk:=hr1
  refine Zi 9 (fun hr2=>?_) fun hr2=>?_
  ·have hb0:=hr2
   refine Zi 4 (fun hr3=>?_) fun hr3=>?_
   ·have hb1:=hr3
    refine Zz 7 ?_
    obtain⟨m,hm0'⟩:∃ m:Nat,min bu 65536=(m:Int):=⟨(min bu 65536).toNat,by omega⟩
    have hm:m≤65536:=by omega
    have hvk:=qG_ (lU_ hchk)
    have hpl:∀ k,(lat (aI_ (uniq [] p)) k).length≤1000000000:=fun k=>by have h1:=bc_ (aI_ (uniq [] p)) k;have h2:=kh_ (uniq [] p);have h3:=ip_ p [];simp only[List.length_nil]at h3;omega
    refine Zz 2 ?_
    refine n_ (nm_ p pad pcap (by omega)) rfl m_ zf rfl fun⟨⟨g,pb,kb,ab,ub,ob,ib,rb,sb,fb,lv,hm0,hl0⟩,hy⟩=>?_
    dsimp only
    dsimp only[NewE.own,NewE.ok]at hy ⊢
    obtain⟨hym,hyl⟩:=hy
    simp only[List.cons_append,List.append_assoc]
    refine bk_ hyl (c_ (c_ (c_ (c_ (c_ (c_ (c_ (c_ (c_ (e_ l_)))))))))) fun lad lcap hlad hclad hmlad hzlad=>?_
    subst hlad
    refine J_ Tryz.zeroValue71 rfl fun b2=>u_ (q_ d_ (q_ d_ (q_ d_ (q_ d_ (q_ d_ (q_ d_ (q_ d_ (q_ d_ (q_ d_ (q_ d_ (ak_ V_))))))))))) (z_ 0 Tryz.sizeOf71 rfl rfl rfl rfl rfl rfl (Zz 5 ?_))
    refine i_ (aY_ (dg_ rfl rfl) (congrArg (Value.int .i64) hm0')) rfl (J_ A_ rfl fun b3=>z_ 0 o_ rfl rfl rfl rfl rfl rfl (Zz 4 ?_))
    refine J_ mH_ rfl fun b4=>Zz 5 ?_
    refine i_ (cD_ rfl rfl) rfl (Zz 2 ?_)
    refine z_ 3 eX_ rfl rfl rfl rfl rfl rfl (Zz 3 ?_)
    refine hD_ (eu_ b2 (.cells #[zp_ g 0] 71 (0,0))) (ak_ (c_ (c_ d_))) (fun _ h1 h2 _=>⟨h1,h2⟩) ?_
    refine hD_ (eu_ b3 (.cells #[.int .i64 (m:Int)] 3 (0,0))) (ak_ (c_ d_)) (fun _ h1 h2 _=>⟨h1,h2⟩) ?_
    refine hD_ (eu_ g (.cells #[.map (some pb),.slice lad (List.length (an_ (uniq [] p))) lcap,.map (some kb),.func (.func 41) #[] #[zp_ b2 0,zp_ b3 0,zp_ b4 0],.map (some ab),.map (some ub),.map (some ob),.map (some ib),.map (some rb),.map (some sb),.map (some fb)] 80 (0,0))) (ak_ (c_ d_)) (fun _ h1 h2 _=>⟨h1,h2⟩) ?_
    refine rC_ gU_ hym (c_ (c_ (c_ (c_ (c_ (c_ (c_ (c_ (c_ F_))))))))) fun adr=>?_
    refine Zz 2 ?_
    refine n_ (atS_c p pad pcap (by omega)) rfl m_ zf rfl fun⟨⟨aad,acap⟩,hac,ham,haz⟩=>?_
    dsimp only
    refine Zz 7 ?_
    refine n_ (tY_ (EngB.mk g pb ab ub ob ib rb sb lad lcap (an_ (uniq [] p))) (EA m hm (EngB.mk g pb ab ub ob ib rb sb lad lcap (an_ (uniq [] p))) b2 b3 b4 kb fb) [] [] [(b4,.cells #[.slice none 0 0] 37 (0,0)),(kb,.map #[] 0),(fb,.map #[] 0)] ⟨.slice none 0 0,#[],0,#[],0,[],[],rfl,aE_.nil _ _,SetE.nil,SetE.nil,by simp⟩ (atS p) aad acap (by have:=mE_ p;omega) (by have:=ji_ (uniq [] p);have h3:=ip_ p [];simp only[List.length_nil]at h3;show (an_ (uniq [] p)).length≤_;omega)) rfl (g_ d_ (g_ d_ (c_ (c_ (c_ (c_ (c_ (c_ d_)))))))) (fun v _ h=>by exact⟨h.2.2.1,h.2.2.2.2.2.1,h.1,⟨h.2.2.2.2.1,h.2.2.2.1,h.2.2.1⟩,trivial⟩) rfl fun⟨Hs1,hS1⟩=>?_
    dsimp only
    refine Zz 2 ?_
    refine u_ (q_ (e_ d_) (q_ (e_ d_) (q_ (e_ d_) (q_ (e_ d_) (q_ (e_ d_) (q_ (e_ d_) (ak_ V_))))))) (Zz 3 ?_)
    refine n_ (ta_ g) rfl m_ zt rfl fun⟨r1,r2,r3⟩=>?_
    dsimp only
    refine J_ Tryz.zeroValue83 rfl fun b5=>z_ 0 Tryz.sizeOf83 rfl rfl rfl rfl rfl rfl (Zz 3 ?_)
    refine pF_ (Zz 8 ?_)
    refine Q_ (ι:={y:Nat×List Fc×List Fc×Ix×Hp×Hp×Hp×Hp×Hp×Hp×Hp // LoopA (uniq [] p) (atS p) m y.1 y.2.1 y.2.2.1 y.2.2.2.1∧((EA m hm (EngB.mk g pb ab ub ob ib rb sb lad lcap (an_ (uniq [] p))) b2 b3 b4 kb fb)).St y.2.1 y.2.2.1 y.2.2.2.2.2.2.2.2.2.2∧IxO 9 24 (EngB.mk g pb ab ub ob ib rb sb lad lcap (an_ (uniq [] p))) y.2.2.2.1 ⟨y.2.2.2.2.1,y.2.2.2.2.2.1,y.2.2.2.2.2.2.1,y.2.2.2.2.2.2.2.1,y.2.2.2.2.2.2.2.2.1,y.2.2.2.2.2.2.2.2.2.1⟩∧ot_ y.2.2.2.1 y.1}) (fun y=>[(0,.slice pad (List.length p) pcap),(1,.int .i64 bu),(4,zp_ b1 0),(7,zp_ b2 0),(8,zp_ b3 0),(9,zp_ b4 0),(10,.slice aad (List.length (atS p)) acap),(11,zp_ b5 0),(12,.int .i64 (y.1.1:Int))]) (fun y=>((b1,.cells #[.slice none 0 0,.slice none 0 0] 39 (0,0))::((b5,.cells #[.slice none 0 0,.slice (some ⟨r1,0,none⟩) 6 6,.slice (some ⟨r2,0,none⟩) 4 4,.slice (some ⟨r3,0,none⟩) 2 2] 83 (0,0))::(y.1.2.2.2.2.1++(y.1.2.2.2.2.2.1++(y.1.2.2.2.2.2.2.1++(y.1.2.2.2.2.2.2.2.1++(y.1.2.2.2.2.2.2.2.2.1++(y.1.2.2.2.2.2.2.2.2.2.1++y.1.2.2.2.2.2.2.2.2.2.2))))))))) (fun y=>[af_ (some ⟨r1,0,none⟩) (List.flatMap fvC (rlV g 1)),af_ (some ⟨r2,0,none⟩) (List.flatMap fvC (rlV g 2)),af_ (some ⟨r3,0,none⟩) (List.flatMap fvC (rlV g 3)),af_ aad (List.flatMap aV_ (atS p)),mlF Tryz.prog 145 Ky.val Pc.cells pb (aI_ (uniq [] p)) adr,eu_ g (.cells #[.map (some pb),.slice lad (List.length (an_ (uniq [] p))) lcap,.map (some kb),.func (.func 41) #[] #[zp_ b2 0,zp_ b3 0,zp_ b4 0],.map (some ab),.map (some ub),.map (some ob),.map (some ib),.map (some rb),.map (some sb),.map (some fb)] 80 (0,0)),eu_ b3 (.cells #[.int .i64 (m:Int)] 3 (0,0)),eu_ b2 (.cells #[zp_ g 0] 71 (0,0)),af_ lad (List.flatMap aV_ (an_ (uniq [] p))),af_ pad (List.flatMap Pc.cells p),jt_]) (fun y=>m+1 - y.1.1) ⟨((0:Nat),(emits (bm_ m) (eM_ (an_ (uniq [] p)) (atS p)) []),([]:List Fc),Ix.nil,[(ab,.map #[] 0)],[(ub,.map #[] 0)],[(ob,.map #[] 0)],[(ib,.map #[] 0)],[(rb,.map #[] 0)],[(sb,.map #[] 0)],Hs1),ns_ hvk rfl,by exact hS1,⟨aS_.nil _ _,aS_.nil _ _,aS_.nil _ _,aS_.nil _ _,aS_.nil _ _,aS_.nil _ _⟩,rY_⟩ zl (g_ (c_ (c_ (c_ (c_ (c_ (c_ (c_ d_))))))) (g_ d_ (g_ d_ (g_ d_ (g_ d_ (g_ d_ (g_ d_ (g_ d_ ay_)))))))) zh ?_
    rintro ⟨⟨n,q,fm,x,Ha,Hu,Ho,Hi,Hr,Hm,Hs⟩,hL,hS,hI,hz⟩
    dsimp only at hL hS hI hz ⊢
    obtain⟨sv1,es1,ce1,ef1,cf1,qf1,Hq1,hHs1,hrQ1,hEk1,hEf1,hqf1⟩:=hS
    subst hHs1
    have hqm:=hL.len
    have hnq:=hL.le
    obtain⟨hxl,hyl⟩:=nu_ hz (by omega)
    refine cg_ (u_ (q_ d_ (q_ d_ (q_ (e_ (e_ (e_ (e_ (e_ (e_ d_)))))) (ak_ (e_ (e_ (e_ (e_ (e_ (e_ d_)))))))))) (Zz 4 ?_))
    refine i_ (ch_ hrQ1 aj_ rfl) rfl ?_
    refine Zi 0 (fun hr4=>?_) fun hr4=>?_
    ·refine Zz 8 ?_
     refine s_ 0 [0,1,2,3,4,5,6] zk zs (Zz 4 ?_)
     refine R_ rfl (aY_ (ft_ (E:=(EA m hm (EngB.mk g pb ab ub ob ib rb sb lad lcap (an_ (uniq [] p))) b2 b3 b4 kb fb)) (nw:=q) (Hs:=((b4,.cells #[sv1] 37 (0,0))::(kb,.map es1 ce1)::([(fb,.map ef1 cf1)]++Hq1))) ⟨sv1,es1,ce1,ef1,cf1,qf1,Hq1,rfl,hrQ1,hEk1,hEf1,hqf1⟩ aL_ rfl zp) (show _=Value.int .i64 (List.length q:Int) from rfl)) rfl (Zi 1 (fun hr5=>?_) fun hr5=>?_)
     ·refine Zz 9 ?_
      refine n_ (sY_ hrQ1 (by omega)) rfl zp zt rfl fun⟨Hq9,hq9⟩=>?_
      dsimp only
      refine Zz 2 ?_
      refine u_ (q_ (e_ d_) (q_ (e_ d_) (q_ (e_ d_) (ak_ (e_ d_))))) (cg_ (bk_ hq9 (c_ (c_ (c_ (c_ l_)))) fun fad fcap hfad hcfad hmfad hzfad=>?_))
      subst hfad
      refine Zz 3 ?_
      refine i_ (H_ eY_ rfl rfl) rfl (z_ 0 aP_ rfl rfl rfl rfl rfl rfl (Zz 4 ?_))
      exact fy_ ⟨((Cl.mk (atS p) aad acap (hV_ q) fad fcap),0),ug_ hchk hb0 hb1 hm0' ⟨hac,ham,haz,hcfad,hmfad,hzfad⟩ rfl hL (by omega) (by omega) rfl⟩ (fun aa v h1 h2=>dj_ (us:=Cl.cells (Cl.mk (atS p) aad acap (hV_ q) fad fcap)) 0 cR_ dc_ aP_ rfl rfl rfl rfl aa v h1 h2) m_ zf
     refine Zi 8 (fun hr6=>?_) fun hr6=>?_
     ·refine Zz 7 ?_
      refine i_ (H_ eY_ rfl rfl) rfl (z_ 0 aP_ rfl rfl rfl rfl rfl rfl (Zz 4 ?_))
      exact fy_ ⟨((Cl.mk [] none 0 [] none 0),2),et_ hchk hb0 hb1 hm0' (by rw[if_neg (by assumption)]) hL.nd hL.der (by omega)⟩ (fun aa v h1 h2=>dj_ (us:=Cl.cells (Cl.mk [] none 0 [] none 0)) 0 cR_ dc_ aP_ rfl rfl rfl rfl aa v h1 h2) m_ (fun v _ h=>by exact⟨.inl rfl,.inl rfl,trivial⟩)
     refine Zz 5 ?_
     refine i_ (H_ eY_ rfl rfl) rfl (z_ 0 aP_ rfl rfl rfl rfl rfl rfl (Zz 4 ?_))
     exact fy_ ⟨((Cl.mk [] none 0 [] none 0),3),et_ hchk hb0 hb1 hm0' (by rw[if_pos (by assumption)]) hL.nd hL.der (by omega)⟩ (fun aa v h1 h2=>dj_ (us:=Cl.cells (Cl.mk [] none 0 [] none 0)) 0 cR_ dc_ aP_ rfl rfl rfl rfl aa v h1 h2) m_ (fun v _ h=>by exact⟨.inl rfl,.inl rfl,trivial⟩)
    have hlf:n<List.length q:=by omega
    obtain⟨f,hf⟩:∃ e0,q[n]? = some e0:=⟨_,List.getElem?_eq_getElem hlf⟩
    have hmf:f∈q:=List.mem_of_getElem? hf
    have hfd:=hL.der f hmf
    have hform:=hfd.form hvk
    obtain⟨hxl1,hyl1⟩:=nu_ (iF_ hz (decide (f∈fm)) f) (by omega)
    refine Zz 11 ?_
    refine i_ (ah_ hrQ1 aj_ B_ rfl rfl (by omega) (by omega)) rfl (i_ (fZ_ hrQ1 zp aX_ B_ rfl (Fc.cells_len _) (by decide) (t_ Fc.cells_len hf)) rfl (J_ aa_ rfl fun b6=>z_ 0 B_ rfl rfl rfl rfl rfl rfl (Zz 6 ?_)))
    refine n_ (tA_ (EngB.mk g pb ab ub ob ib rb sb lad lcap (an_ (uniq [] p))) (EA m hm (EngB.mk g pb ab ub ob ib rb sb lad lcap (an_ (uniq [] p))) b2 b3 b4 kb fb) x f q fm ((b4,.cells #[sv1] 37 (0,0))::(kb,.map es1 ce1)::([(fb,.map ef1 cf1)]++Hq1)) ⟨sv1,es1,ce1,ef1,cf1,qf1,Hq1,rfl,hrQ1,hEk1,hEf1,hqf1⟩ Ha Hu Ho Hi Hr Hm hI hxl hyl) rfl (p_ (c_ (c_ (c_ (c_ (c_ l_))))) (p_ (c_ (c_ (c_ (c_ (c_ l_))))) (p_ (c_ (c_ (c_ (c_ (c_ l_))))) (p_ (c_ (c_ (c_ (c_ (c_ l_))))) (p_ (c_ (c_ (c_ (c_ (c_ l_))))) (p_ (c_ (c_ (c_ (c_ (c_ l_))))) (g_ (c_ (c_ (c_ d_))) (g_ (c_ (c_ (c_ d_))) (p_ (c_ (c_ (c_ l_))) (c_ (c_ F_))))))))))) zf rfl fun⟨⟨Ha1,Hu1,Ho1,Hi1,Hr1,Hm1⟩,hI1⟩=>?_
    dsimp only
    refine u_ tl_ (Zz 2 ?_)
    refine u_ (q_ (e_ (e_ (e_ (e_ (e_ (e_ d_)))))) (q_ (e_ (e_ (e_ (e_ (e_ (e_ d_)))))) (q_ (e_ (e_ (e_ (e_ (e_ (e_ (e_ (e_ d_)))))))) (q_ (e_ (e_ (e_ (e_ (e_ (e_ (e_ (e_ d_)))))))) (ak_ (e_ (e_ (e_ (e_ (e_ (e_ (e_ V_)))))))))))) (Zz 4 ?_)
    rcases gp_ hform with hk|hk|hk
    ·refine i_ (aY_ (gB_ qZ_ Tryz.sizeOf82 rfl rfl (by omega) (by omega)) (show _=zp_ b5 1 from by rw[hk];rfl)) rfl ?_
     refine Zz 6 ?_
     refine eA_ (H':=((b1,.cells #[.slice none 0 0,.slice none 0 0] 39 (0,0))::((b5,.cells #[.slice none 0 0,.slice (some ⟨r1,0,none⟩) 6 6,.slice (some ⟨r2,0,none⟩) 4 4,.slice (some ⟨r3,0,none⟩) 2 2] 83 (0,0))::((b6,.cells #[.int .i64 f.kind,str f.a,str f.b,str f.r,.int .i64 f.lo,.int .i64 f.hi] 24 (0,0))::(Ha1++(Hu1++(Ho1++(Hi1++(Hr1++(Hm1++((b4,.cells #[sv1] 37 (0,0))::(kb,.map es1 ce1)::([(fb,.map ef1 cf1)]++Hq1)))))))))))) (g_ (c_ (c_ (c_ d_))) (g_ (c_ (c_ (c_ d_))) (g_ (c_ (c_ d_)) (p_ (c_ (c_ l_)) (p_ (c_ (c_ l_)) (p_ (c_ (c_ l_)) (p_ (c_ (c_ l_)) (p_ (c_ (c_ l_)) (p_ (c_ (c_ l_)) (g_ d_ (g_ d_ (p_ l_ ay_)))))))))))) (fun v _ h=>h) ?_
     refine Q_ (ι:={y:Nat×Hp // y.1≤6∧((EA m hm (EngB.mk g pb ab ub ob ib rb sb lad lcap (an_ (uniq [] p))) b2 b3 b4 kb fb)).St (rls (bm_ m) idk (aI_ (uniq [] p)) (Ix.add x (decide (f∈fm)) f) f y.1 (q,fm)).1 (rls (bm_ m) idk (aI_ (uniq [] p)) (Ix.add x (decide (f∈fm)) f) f y.1 (q,fm)).2 y.2∧(y.1=0∨((rls (bm_ m) idk (aI_ (uniq [] p)) (Ix.add x (decide (f∈fm)) f) f y.1 (q,fm)).1).length≤m)}) (fun y=>[(0,.slice pad (List.length p) pcap),(1,.int .i64 bu),(4,zp_ b1 0),(7,zp_ b2 0),(8,zp_ b3 0),(9,zp_ b4 0),(10,.slice aad (List.length (atS p)) acap),(11,zp_ b5 0),(12,.int .i64 (n:Int)),(13,zp_ b6 0),(60,.slice (some ⟨r1,0,none⟩) 6 6),(61,.int .i64 6),(62,.int .i64 (y.1.1:Int))]) (fun y=>((b1,.cells #[.slice none 0 0,.slice none 0 0] 39 (0,0))::((b5,.cells #[.slice none 0 0,.slice (some ⟨r1,0,none⟩) 6 6,.slice (some ⟨r2,0,none⟩) 4 4,.slice (some ⟨r3,0,none⟩) 2 2] 83 (0,0))::((b6,.cells #[.int .i64 f.kind,str f.a,str f.b,str f.r,.int .i64 f.lo,.int .i64 f.hi] 24 (0,0))::(Ha1++(Hu1++(Ho1++(Hi1++(Hr1++(Hm1++y.1.2)))))))))) (fun y=>[af_ (some ⟨r1,0,none⟩) (List.flatMap fvC (rlV g 1)),af_ (some ⟨r2,0,none⟩) (List.flatMap fvC (rlV g 2)),af_ (some ⟨r3,0,none⟩) (List.flatMap fvC (rlV g 3)),af_ aad (List.flatMap aV_ (atS p)),mlF Tryz.prog 145 Ky.val Pc.cells pb (aI_ (uniq [] p)) adr,eu_ g (.cells #[.map (some pb),.slice lad (List.length (an_ (uniq [] p))) lcap,.map (some kb),.func (.func 41) #[] #[zp_ b2 0,zp_ b3 0,zp_ b4 0],.map (some ab),.map (some ub),.map (some ob),.map (some ib),.map (some rb),.map (some sb),.map (some fb)] 80 (0,0)),eu_ b3 (.cells #[.int .i64 (m:Int)] 3 (0,0)),eu_ b2 (.cells #[zp_ g 0] 71 (0,0)),af_ lad (List.flatMap aV_ (an_ (uniq [] p))),af_ pad (List.flatMap Pc.cells p),jt_]) (fun y=>6 - y.1.1) ⟨((0:Nat),((b4,.cells #[sv1] 37 (0,0))::(kb,.map es1 ce1)::([(fb,.map ef1 cf1)]++Hq1))),by omega,by exact⟨sv1,es1,ce1,ef1,cf1,qf1,Hq1,rfl,hrQ1,hEk1,hEf1,hqf1⟩,.inl rfl⟩ zl zp zh ?_
     rintro ⟨⟨j,Hs⟩,hj,hS2,hjm⟩
     dsimp only at hj hS2 hjm ⊢
     refine Zi 2 (fun hr7=>?_) fun hr7=>?_
     ·have ej:j=6:=by omega
      have hjl:((rls (bm_ m) idk (aI_ (uniq [] p)) (Ix.add x (decide (f∈fm)) f) f j (q,fm)).1).length≤m:=hjm.resolve_left (by omega)
      rw[ej]at hjl hS2
      refine Zz 12 ?_
      exact y_ ⟨(n+1,(rls (bm_ m) idk (aI_ (uniq [] p)) (Ix.add x (decide (f∈fm)) f) f 6 (q,fm)).1,(rls (bm_ m) idk (aI_ (uniq [] p)) (Ix.add x (decide (f∈fm)) f) f 6 (q,fm)).2,(Ix.add x (decide (f∈fm)) f),Ha1,Hu1,Ho1,Hi1,Hr1,Hm1,Hs),(ic_ hvk hL hf (by have e:nrl f=6:=(by unfold nrl;simp[hk]);rw[e]) (by omega)),(by exact hS2),hI1,(iF_ hz _ f)⟩ (by dsimp only;omega) zl (g_ d_ (g_ d_ (p_ (c_ l_) (p_ (c_ l_) (p_ (c_ l_) (p_ (c_ l_) (p_ (c_ l_) (p_ (c_ l_) F_)))))))) zh
     have hlfv:j<List.length (rlV g 1):=by show j<6;omega
     obtain⟨fv,hfv⟩:∃ e0,(rlV g 1)[j]? = some e0:=⟨_,List.getElem?_eq_getElem hlfv⟩
     have hmfv:fv∈(rlV g 1):=List.mem_of_getElem? hfv
     refine Zz 10 ?_
     refine i_ (X_ bj_ eX_ rfl rfl (fun v _ h=>G_ (n:=1) hH_ (by decide) (by exact h.1) hfv) (by omega) (by omega)) rfl (i_ (at_ (ad:=(some ⟨r1,0,none⟩)) Tryz.isAgg75 rfl zf (t_ hH_ hfv 0 _ rfl)) rfl (Zz 7 ?_))
     obtain⟨nr,rfl,hT⟩:=td_ (EngB.mk g pb ab ub ob ib rb sb lad lcap (an_ (uniq [] p))) (EA m hm (EngB.mk g pb ab ub ob ib rb sb lad lcap (an_ (uniq [] p))) b2 b3 b4 kb fb) (EngA.mk adr (fun _=>(none,0)) (fun _=>(none,0)) (fun _=>(none,0)) (fun _=>(none,0)) (fun _=>(none,0)) (fun _=>(none,0))) (aI_ (uniq [] p)) (Ix.add x (decide (f∈fm)) f) f (rls (bm_ m) idk (aI_ (uniq [] p)) (Ix.add x (decide (f∈fm)) f) f j (q,fm)).1 (rls (bm_ m) idk (aI_ (uniq [] p)) (Ix.add x (decide (f∈fm)) f) f j (q,fm)).2 Hs hS2 Ha1 Hu1 Ho1 Hi1 Hr1 Hm1 hI1 hpl hxl1 hyl1 (fun hk=>(gq_ hform hk).2.2) (fun _ y hy=>(hvk y (pm9.1 hy).1).num (.inr (pm9.1 hy).2.1)) hk j hfv
     refine au_ (first:=[zp_ g 0]) (vs:=[Fc.val f]) (cap:=[]) hT rfl rfl (ol_ (p_ (c_ (c_ (c_ l_))) (p_ (c_ (c_ (c_ l_))) (p_ (c_ (c_ (c_ l_))) (p_ (c_ (c_ (c_ l_))) (p_ (c_ (c_ (c_ l_))) (p_ (c_ (c_ (c_ l_))) (c_ (c_ F_))))))))) (fun v _ h=>by exact⟨h.2.2.2.2.2.1,h.2.2.2.2.1,⟨h.2.2.2.2.2.2.2.1,h.2.2.2.2.2.2.1,h.2.2.2.2.2.1⟩,trivial⟩) rfl fun⟨Hs3,hS3⟩=>u_ mh_ (Zz 2 ?_)
     refine u_ (q_ (e_ (e_ (e_ (e_ (e_ (e_ (e_ d_))))))) (q_ (e_ (e_ (e_ (e_ (e_ (e_ (e_ d_))))))) (ak_ (e_ (e_ (e_ (e_ (e_ (e_ V_))))))))) (Zz 2 ?_)
     refine s_ 0 [0,1,2,3,4,5,6] zk zs (Zz 4 ?_)
     refine R_ rfl (aY_ (ft_ (E:=(EA m hm (EngB.mk g pb ab ub ob ib rb sb lad lcap (an_ (uniq [] p))) b2 b3 b4 kb fb)) (nw:=(rls (bm_ m) idk (aI_ (uniq [] p)) (Ix.add x (decide (f∈fm)) f) f (j+1) (q,fm)).1) (Hs:=Hs3) hS3 aL_ rfl zp) (show _=Value.int .i64 (List.length (rls (bm_ m) idk (aI_ (uniq [] p)) (Ix.add x (decide (f∈fm)) f) f (j+1) (q,fm)).1:Int) from rfl)) rfl (Zi 1 (fun hr8=>?_) fun hr8=>?_)
     ·refine Zz 11 ?_
      exact y_ ⟨(j+1,Hs3),hlfv,by exact hS3,.inr (by dsimp only;omega)⟩ (by dsimp only;omega) zl zp zh
     refine Zz 9 ?_
     refine s_ 0 [0,1,2,3,4,5,6] zk zs (Zz 4 ?_)
     refine R_ rfl (aY_ (ft_ (E:=(EA m hm (EngB.mk g pb ab ub ob ib rb sb lad lcap (an_ (uniq [] p))) b2 b3 b4 kb fb)) (nw:=(rls (bm_ m) idk (aI_ (uniq [] p)) (Ix.add x (decide (f∈fm)) f) f (j+1) (q,fm)).1) (Hs:=Hs3) hS3 aL_ rfl zp) (show _=Value.int .i64 (List.length (rls (bm_ m) idk (aI_ (uniq [] p)) (Ix.add x (decide (f∈fm)) f) f (j+1) (q,fm)).1:Int) from rfl)) rfl (Zi 1 (fun hr9=>?_) fun hr9=>?_)
     ·omega
     refine Zi 8 (fun hr10=>?_) fun hr10=>?_
     ·refine Zz 7 ?_
      refine i_ (H_ eY_ rfl rfl) rfl (z_ 0 aP_ rfl rfl rfl rfl rfl rfl (Zz 4 ?_))
      exact fy_ ⟨((Cl.mk [] none 0 [] none 0),2),et_ hchk hb0 hb1 hm0' (by rw[if_neg (by assumption)]) (cs_ hvk hL hf (j+1) rfl).1 (cs_ hvk hL hf (j+1) rfl).2.2.1 (by omega)⟩ (fun aa v h1 h2=>dj_ (us:=Cl.cells (Cl.mk [] none 0 [] none 0)) 0 cR_ dc_ aP_ rfl rfl rfl rfl aa v h1 h2) m_ (fun v _ h=>by exact⟨.inl rfl,.inl rfl,trivial⟩)
     refine Zz 5 ?_
     refine i_ (H_ eY_ rfl rfl) rfl (z_ 0 aP_ rfl rfl rfl rfl rfl rfl (Zz 4 ?_))
     exact fy_ ⟨((Cl.mk [] none 0 [] none 0),3),et_ hchk hb0 hb1 hm0' (by rw[if_pos (by assumption)]) (cs_ hvk hL hf (j+1) rfl).1 (cs_ hvk hL hf (j+1) rfl).2.2.1 (by omega)⟩ (fun aa v h1 h2=>dj_ (us:=Cl.cells (Cl.mk [] none 0 [] none 0)) 0 cR_ dc_ aP_ rfl rfl rfl rfl aa v h1 h2) m_ (fun v _ h=>by exact⟨.inl rfl,.inl rfl,trivial⟩)
    ·refine i_ (aY_ (gB_ qZ_ Tryz.sizeOf82 rfl rfl (by omega) (by omega)) (show _=zp_ b5 2 from by rw[hk];rfl)) rfl ?_
     refine Zz 6 ?_
     refine eA_ (H':=((b1,.cells #[.slice none 0 0,.slice none 0 0] 39 (0,0))::((b5,.cells #[.slice none 0 0,.slice (some ⟨r1,0,none⟩) 6 6,.slice (some ⟨r2,0,none⟩) 4 4,.slice (some ⟨r3,0,none⟩) 2 2] 83 (0,0))::((b6,.cells #[.int .i64 f.kind,str f.a,str f.b,str f.r,.int .i64 f.lo,.int .i64 f.hi] 24 (0,0))::(Ha1++(Hu1++(Ho1++(Hi1++(Hr1++(Hm1++((b4,.cells #[sv1] 37 (0,0))::(kb,.map es1 ce1)::([(fb,.map ef1 cf1)]++Hq1)))))))))))) (g_ (c_ (c_ (c_ d_))) (g_ (c_ (c_ (c_ d_))) (g_ (c_ (c_ d_)) (p_ (c_ (c_ l_)) (p_ (c_ (c_ l_)) (p_ (c_ (c_ l_)) (p_ (c_ (c_ l_)) (p_ (c_ (c_ l_)) (p_ (c_ (c_ l_)) (g_ d_ (g_ d_ (p_ l_ ay_)))))))))))) (fun v _ h=>h) ?_
     refine Q_ (ι:={y:Nat×Hp // y.1≤4∧((EA m hm (EngB.mk g pb ab ub ob ib rb sb lad lcap (an_ (uniq [] p))) b2 b3 b4 kb fb)).St (rls (bm_ m) idk (aI_ (uniq [] p)) (Ix.add x (decide (f∈fm)) f) f y.1 (q,fm)).1 (rls (bm_ m) idk (aI_ (uniq [] p)) (Ix.add x (decide (f∈fm)) f) f y.1 (q,fm)).2 y.2∧(y.1=0∨((rls (bm_ m) idk (aI_ (uniq [] p)) (Ix.add x (decide (f∈fm)) f) f y.1 (q,fm)).1).length≤m)}) (fun y=>[(0,.slice pad (List.length p) pcap),(1,.int .i64 bu),(4,zp_ b1 0),(7,zp_ b2 0),(8,zp_ b3 0),(9,zp_ b4 0),(10,.slice aad (List.length (atS p)) acap),(11,zp_ b5 0),(12,.int .i64 (n:Int)),(13,zp_ b6 0),(60,.slice (some ⟨r2,0,none⟩) 4 4),(61,.int .i64 4),(62,.int .i64 (y.1.1:Int))]) (fun y=>((b1,.cells #[.slice none 0 0,.slice none 0 0] 39 (0,0))::((b5,.cells #[.slice none 0 0,.slice (some ⟨r1,0,none⟩) 6 6,.slice (some ⟨r2,0,none⟩) 4 4,.slice (some ⟨r3,0,none⟩) 2 2] 83 (0,0))::((b6,.cells #[.int .i64 f.kind,str f.a,str f.b,str f.r,.int .i64 f.lo,.int .i64 f.hi] 24 (0,0))::(Ha1++(Hu1++(Ho1++(Hi1++(Hr1++(Hm1++y.1.2)))))))))) (fun y=>[af_ (some ⟨r1,0,none⟩) (List.flatMap fvC (rlV g 1)),af_ (some ⟨r2,0,none⟩) (List.flatMap fvC (rlV g 2)),af_ (some ⟨r3,0,none⟩) (List.flatMap fvC (rlV g 3)),af_ aad (List.flatMap aV_ (atS p)),mlF Tryz.prog 145 Ky.val Pc.cells pb (aI_ (uniq [] p)) adr,eu_ g (.cells #[.map (some pb),.slice lad (List.length (an_ (uniq [] p))) lcap,.map (some kb),.func (.func 41) #[] #[zp_ b2 0,zp_ b3 0,zp_ b4 0],.map (some ab),.map (some ub),.map (some ob),.map (some ib),.map (some rb),.map (some sb),.map (some fb)] 80 (0,0)),eu_ b3 (.cells #[.int .i64 (m:Int)] 3 (0,0)),eu_ b2 (.cells #[zp_ g 0] 71 (0,0)),af_ lad (List.flatMap aV_ (an_ (uniq [] p))),af_ pad (List.flatMap Pc.cells p),jt_]) (fun y=>4 - y.1.1) ⟨((0:Nat),((b4,.cells #[sv1] 37 (0,0))::(kb,.map es1 ce1)::([(fb,.map ef1 cf1)]++Hq1))),by omega,by exact⟨sv1,es1,ce1,ef1,cf1,qf1,Hq1,rfl,hrQ1,hEk1,hEf1,hqf1⟩,.inl rfl⟩ zl zp zh ?_
     rintro ⟨⟨j,Hs⟩,hj,hS2,hjm⟩
     dsimp only at hj hS2 hjm ⊢
     refine Zi 2 (fun hr11=>?_) fun hr11=>?_
     ·have ej:j=4:=by omega
      have hjl:((rls (bm_ m) idk (aI_ (uniq [] p)) (Ix.add x (decide (f∈fm)) f) f j (q,fm)).1).length≤m:=hjm.resolve_left (by omega)
      rw[ej]at hjl hS2
      refine Zz 12 ?_
      exact y_ ⟨(n+1,(rls (bm_ m) idk (aI_ (uniq [] p)) (Ix.add x (decide (f∈fm)) f) f 4 (q,fm)).1,(rls (bm_ m) idk (aI_ (uniq [] p)) (Ix.add x (decide (f∈fm)) f) f 4 (q,fm)).2,(Ix.add x (decide (f∈fm)) f),Ha1,Hu1,Ho1,Hi1,Hr1,Hm1,Hs),(ic_ hvk hL hf (by have e:nrl f=4:=(by unfold nrl;simp[hk]);rw[e]) (by omega)),(by exact hS2),hI1,(iF_ hz _ f)⟩ (by dsimp only;omega) zl (g_ d_ (g_ d_ (p_ (c_ l_) (p_ (c_ l_) (p_ (c_ l_) (p_ (c_ l_) (p_ (c_ l_) (p_ (c_ l_) F_)))))))) zh
     have hlfv:j<List.length (rlV g 2):=by show j<4;omega
     obtain⟨fv,hfv⟩:∃ e0,(rlV g 2)[j]? = some e0:=⟨_,List.getElem?_eq_getElem hlfv⟩
     have hmfv:fv∈(rlV g 2):=List.mem_of_getElem? hfv
     refine Zz 10 ?_
     refine i_ (X_ bj_ eX_ rfl rfl (fun v _ h=>G_ (n:=1) hH_ (by decide) (by exact h.2.1) hfv) (by omega) (by omega)) rfl (i_ (at_ (ad:=(some ⟨r2,0,none⟩)) Tryz.isAgg75 rfl zf (t_ hH_ hfv 0 _ rfl)) rfl (Zz 7 ?_))
     obtain⟨nr,rfl,hT⟩:=tc_ (EngB.mk g pb ab ub ob ib rb sb lad lcap (an_ (uniq [] p))) (EA m hm (EngB.mk g pb ab ub ob ib rb sb lad lcap (an_ (uniq [] p))) b2 b3 b4 kb fb) (EngA.mk adr (fun _=>(none,0)) (fun _=>(none,0)) (fun _=>(none,0)) (fun _=>(none,0)) (fun _=>(none,0)) (fun _=>(none,0))) (aI_ (uniq [] p)) (Ix.add x (decide (f∈fm)) f) f (rls (bm_ m) idk (aI_ (uniq [] p)) (Ix.add x (decide (f∈fm)) f) f j (q,fm)).1 (rls (bm_ m) idk (aI_ (uniq [] p)) (Ix.add x (decide (f∈fm)) f) f j (q,fm)).2 Hs hS2 Ha1 Hu1 Ho1 Hi1 Hr1 Hm1 hI1 hpl hxl1 hyl1 (fun hk=>(gq_ hform hk).2.2) (fun _ y hy=>(hvk y (pm9.1 hy).1).num (.inr (pm9.1 hy).2.1)) hk j hfv
     refine au_ (first:=[zp_ g 0]) (vs:=[Fc.val f]) (cap:=[]) hT rfl rfl (ol_ (p_ (c_ (c_ (c_ l_))) (p_ (c_ (c_ (c_ l_))) (p_ (c_ (c_ (c_ l_))) (p_ (c_ (c_ (c_ l_))) (p_ (c_ (c_ (c_ l_))) (p_ (c_ (c_ (c_ l_))) (c_ (c_ F_))))))))) (fun v _ h=>by exact⟨h.2.2.2.2.2.1,h.2.2.2.2.1,⟨h.2.2.2.2.2.2.2.1,h.2.2.2.2.2.2.1,h.2.2.2.2.2.1⟩,trivial⟩) rfl fun⟨Hs3,hS3⟩=>u_ mh_ (Zz 2 ?_)
     refine u_ (q_ (e_ (e_ (e_ (e_ (e_ (e_ (e_ d_))))))) (q_ (e_ (e_ (e_ (e_ (e_ (e_ (e_ d_))))))) (ak_ (e_ (e_ (e_ (e_ (e_ (e_ V_))))))))) (Zz 2 ?_)
     refine s_ 0 [0,1,2,3,4,5,6] zk zs (Zz 4 ?_)
     refine R_ rfl (aY_ (ft_ (E:=(EA m hm (EngB.mk g pb ab ub ob ib rb sb lad lcap (an_ (uniq [] p))) b2 b3 b4 kb fb)) (nw:=(rls (bm_ m) idk (aI_ (uniq [] p)) (Ix.add x (decide (f∈fm)) f) f (j+1) (q,fm)).1) (Hs:=Hs3) hS3 aL_ rfl zp) (show _=Value.int .i64 (List.length (rls (bm_ m) idk (aI_ (uniq [] p)) (Ix.add x (decide (f∈fm)) f) f (j+1) (q,fm)).1:Int) from rfl)) rfl (Zi 1 (fun hr12=>?_) fun hr12=>?_)
     ·refine Zz 11 ?_
      exact y_ ⟨(j+1,Hs3),hlfv,by exact hS3,.inr (by dsimp only;omega)⟩ (by dsimp only;omega) zl zp zh
     refine Zz 9 ?_
     refine s_ 0 [0,1,2,3,4,5,6] zk zs (Zz 4 ?_)
     refine R_ rfl (aY_ (ft_ (E:=(EA m hm (EngB.mk g pb ab ub ob ib rb sb lad lcap (an_ (uniq [] p))) b2 b3 b4 kb fb)) (nw:=(rls (bm_ m) idk (aI_ (uniq [] p)) (Ix.add x (decide (f∈fm)) f) f (j+1) (q,fm)).1) (Hs:=Hs3) hS3 aL_ rfl zp) (show _=Value.int .i64 (List.length (rls (bm_ m) idk (aI_ (uniq [] p)) (Ix.add x (decide (f∈fm)) f) f (j+1) (q,fm)).1:Int) from rfl)) rfl (Zi 1 (fun hr13=>?_) fun hr13=>?_)
     ·omega
     refine Zi 8 (fun hr14=>?_) fun hr14=>?_
     ·refine Zz 7 ?_
      refine i_ (H_ eY_ rfl rfl) rfl (z_ 0 aP_ rfl rfl rfl rfl rfl rfl (Zz 4 ?_))
      exact fy_ ⟨((Cl.mk [] none 0 [] none 0),2),et_ hchk hb0 hb1 hm0' (by rw[if_neg (by assumption)]) (cs_ hvk hL hf (j+1) rfl).1 (cs_ hvk hL hf (j+1) rfl).2.2.1 (by omega)⟩ (fun aa v h1 h2=>dj_ (us:=Cl.cells (Cl.mk [] none 0 [] none 0)) 0 cR_ dc_ aP_ rfl rfl rfl rfl aa v h1 h2) m_ (fun v _ h=>by exact⟨.inl rfl,.inl rfl,trivial⟩)
     refine Zz 5 ?_
     refine i_ (H_ eY_ rfl rfl) rfl (z_ 0 aP_ rfl rfl rfl rfl rfl rfl (Zz 4 ?_))
     exact fy_ ⟨((Cl.mk [] none 0 [] none 0),3),et_ hchk hb0 hb1 hm0' (by rw[if_pos (by assumption)]) (cs_ hvk hL hf (j+1) rfl).1 (cs_ hvk hL hf (j+1) rfl).2.2.1 (by omega)⟩ (fun aa v h1 h2=>dj_ (us:=Cl.cells (Cl.mk [] none 0 [] none 0)) 0 cR_ dc_ aP_ rfl rfl rfl rfl aa v h1 h2) m_ (fun v _ h=>by exact⟨.inl rfl,.inl rfl,trivial⟩)
    refine i_ (aY_ (gB_ qZ_ Tryz.sizeOf82 rfl rfl (by omega) (by omega)) (show _=zp_ b5 3 from by rw[hk];rfl)) rfl ?_
    refine Zz 6 ?_
    refine eA_ (H':=((b1,.cells #[.slice none 0 0,.slice none 0 0] 39 (0,0))::((b5,.cells #[.slice none 0 0,.slice (some ⟨r1,0,none⟩) 6 6,.slice (some ⟨r2,0,none⟩) 4 4,.slice (some ⟨r3,0,none⟩) 2 2] 83 (0,0))::((b6,.cells #[.int .i64 f.kind,str f.a,str f.b,str f.r,.int .i64 f.lo,.int .i64 f.hi] 24 (0,0))::(Ha1++(Hu1++(Ho1++(Hi1++(Hr1++(Hm1++((b4,.cells #[sv1] 37 (0,0))::(kb,.map es1 ce1)::([(fb,.map ef1 cf1)]++Hq1)))))))))))) (g_ (c_ (c_ (c_ d_))) (g_ (c_ (c_ (c_ d_))) (g_ (c_ (c_ d_)) (p_ (c_ (c_ l_)) (p_ (c_ (c_ l_)) (p_ (c_ (c_ l_)) (p_ (c_ (c_ l_)) (p_ (c_ (c_ l_)) (p_ (c_ (c_ l_)) (g_ d_ (g_ d_ (p_ l_ ay_)))))))))))) (fun v _ h=>h) ?_
    refine Q_ (ι:={y:Nat×Hp // y.1≤2∧((EA m hm (EngB.mk g pb ab ub ob ib rb sb lad lcap (an_ (uniq [] p))) b2 b3 b4 kb fb)).St (rls (bm_ m) idk (aI_ (uniq [] p)) (Ix.add x (decide (f∈fm)) f) f y.1 (q,fm)).1 (rls (bm_ m) idk (aI_ (uniq [] p)) (Ix.add x (decide (f∈fm)) f) f y.1 (q,fm)).2 y.2∧(y.1=0∨((rls (bm_ m) idk (aI_ (uniq [] p)) (Ix.add x (decide (f∈fm)) f) f y.1 (q,fm)).1).length≤m)}) (fun y=>[(0,.slice pad (List.length p) pcap),(1,.int .i64 bu),(4,zp_ b1 0),(7,zp_ b2 0),(8,zp_ b3 0),(9,zp_ b4 0),(10,.slice aad (List.length (atS p)) acap),(11,zp_ b5 0),(12,.int .i64 (n:Int)),(13,zp_ b6 0),(60,.slice (some ⟨r3,0,none⟩) 2 2),(61,.int .i64 2),(62,.int .i64 (y.1.1:Int))]) (fun y=>((b1,.cells #[.slice none 0 0,.slice none 0 0] 39 (0,0))::((b5,.cells #[.slice none 0 0,.slice (some ⟨r1,0,none⟩) 6 6,.slice (some ⟨r2,0,none⟩) 4 4,.slice (some ⟨r3,0,none⟩) 2 2] 83 (0,0))::((b6,.cells #[.int .i64 f.kind,str f.a,str f.b,str f.r,.int .i64 f.lo,.int .i64 f.hi] 24 (0,0))::(Ha1++(Hu1++(Ho1++(Hi1++(Hr1++(Hm1++y.1.2)))))))))) (fun y=>[af_ (some ⟨r1,0,none⟩) (List.flatMap fvC (rlV g 1)),af_ (some ⟨r2,0,none⟩) (List.flatMap fvC (rlV g 2)),af_ (some ⟨r3,0,none⟩) (List.flatMap fvC (rlV g 3)),af_ aad (List.flatMap aV_ (atS p)),mlF Tryz.prog 145 Ky.val Pc.cells pb (aI_ (uniq [] p)) adr,eu_ g (.cells #[.map (some pb),.slice lad (List.length (an_ (uniq [] p))) lcap,.map (some kb),.func (.func 41) #[] #[zp_ b2 0,zp_ b3 0,zp_ b4 0],.map (some ab),.map (some ub),.map (some ob),.map (some ib),.map (some rb),.map (some sb),.map (some fb)] 80 (0,0)),eu_ b3 (.cells #[.int .i64 (m:Int)] 3 (0,0)),eu_ b2 (.cells #[zp_ g 0] 71 (0,0)),af_ lad (List.flatMap aV_ (an_ (uniq [] p))),af_ pad (List.flatMap Pc.cells p),jt_]) (fun y=>2 - y.1.1) ⟨((0:Nat),((b4,.cells #[sv1] 37 (0,0))::(kb,.map es1 ce1)::([(fb,.map ef1 cf1)]++Hq1))),by omega,by exact⟨sv1,es1,ce1,ef1,cf1,qf1,Hq1,rfl,hrQ1,hEk1,hEf1,hqf1⟩,.inl rfl⟩ zl zp zh ?_
    rintro ⟨⟨j,Hs⟩,hj,hS2,hjm⟩
    dsimp only at hj hS2 hjm ⊢
    refine Zi 2 (fun hr15=>?_) fun hr15=>?_
    ·have ej:j=2:=by omega
     have hjl:((rls (bm_ m) idk (aI_ (uniq [] p)) (Ix.add x (decide (f∈fm)) f) f j (q,fm)).1).length≤m:=hjm.resolve_left (by omega)
     rw[ej]at hjl hS2
     refine Zz 12 ?_
     exact y_ ⟨(n+1,(rls (bm_ m) idk (aI_ (uniq [] p)) (Ix.add x (decide (f∈fm)) f) f 2 (q,fm)).1,(rls (bm_ m) idk (aI_ (uniq [] p)) (Ix.add x (decide (f∈fm)) f) f 2 (q,fm)).2,(Ix.add x (decide (f∈fm)) f),Ha1,Hu1,Ho1,Hi1,Hr1,Hm1,Hs),(ic_ hvk hL hf (by have e:nrl f=2:=(by unfold nrl;simp[hk]);rw[e]) (by omega)),(by exact hS2),hI1,(iF_ hz _ f)⟩ (by dsimp only;omega) zl (g_ d_ (g_ d_ (p_ (c_ l_) (p_ (c_ l_) (p_ (c_ l_) (p_ (c_ l_) (p_ (c_ l_) (p_ (c_ l_) F_)))))))) zh
    have hlfv:j<List.length (rlV g 3):=by show j<2;omega
    obtain⟨fv,hfv⟩:∃ e0,(rlV g 3)[j]? = some e0:=⟨_,List.getElem?_eq_getElem hlfv⟩
    have hmfv:fv∈(rlV g 3):=List.mem_of_getElem? hfv
    refine Zz 10 ?_
    refine i_ (X_ bj_ eX_ rfl rfl (fun v _ h=>G_ (n:=1) hH_ (by decide) (by exact h.2.2.1) hfv) (by omega) (by omega)) rfl (i_ (at_ (ad:=(some ⟨r3,0,none⟩)) Tryz.isAgg75 rfl zf (t_ hH_ hfv 0 _ rfl)) rfl (Zz 7 ?_))
    obtain⟨nr,rfl,hT⟩:=tb_ (EngB.mk g pb ab ub ob ib rb sb lad lcap (an_ (uniq [] p))) (EA m hm (EngB.mk g pb ab ub ob ib rb sb lad lcap (an_ (uniq [] p))) b2 b3 b4 kb fb) (EngA.mk adr (fun _=>(none,0)) (fun _=>(none,0)) (fun _=>(none,0)) (fun _=>(none,0)) (fun _=>(none,0)) (fun _=>(none,0))) (aI_ (uniq [] p)) (Ix.add x (decide (f∈fm)) f) f (rls (bm_ m) idk (aI_ (uniq [] p)) (Ix.add x (decide (f∈fm)) f) f j (q,fm)).1 (rls (bm_ m) idk (aI_ (uniq [] p)) (Ix.add x (decide (f∈fm)) f) f j (q,fm)).2 Hs hS2 Ha1 Hu1 Ho1 Hi1 Hr1 Hm1 hI1 hpl hxl1 hyl1 (fun hk=>(gq_ hform hk).2.2) (fun _ y hy=>(hvk y (pm9.1 hy).1).num (.inr (pm9.1 hy).2.1)) hk j hfv
    refine au_ (first:=[zp_ g 0]) (vs:=[Fc.val f]) (cap:=[]) hT rfl rfl (ol_ (p_ (c_ (c_ (c_ l_))) (p_ (c_ (c_ (c_ l_))) (p_ (c_ (c_ (c_ l_))) (p_ (c_ (c_ (c_ l_))) (p_ (c_ (c_ (c_ l_))) (p_ (c_ (c_ (c_ l_))) (c_ (c_ F_))))))))) (fun v _ h=>by exact⟨h.2.2.2.2.2.1,h.2.2.2.2.1,⟨h.2.2.2.2.2.2.2.1,h.2.2.2.2.2.2.1,h.2.2.2.2.2.1⟩,trivial⟩) rfl fun⟨Hs3,hS3⟩=>u_ mh_ (Zz 2 ?_)
    refine u_ (q_ (e_ (e_ (e_ (e_ (e_ (e_ (e_ d_))))))) (q_ (e_ (e_ (e_ (e_ (e_ (e_ (e_ d_))))))) (ak_ (e_ (e_ (e_ (e_ (e_ (e_ V_))))))))) (Zz 2 ?_)
    refine s_ 0 [0,1,2,3,4,5,6] zk zs (Zz 4 ?_)
    refine R_ rfl (aY_ (ft_ (E:=(EA m hm (EngB.mk g pb ab ub ob ib rb sb lad lcap (an_ (uniq [] p))) b2 b3 b4 kb fb)) (nw:=(rls (bm_ m) idk (aI_ (uniq [] p)) (Ix.add x (decide (f∈fm)) f) f (j+1) (q,fm)).1) (Hs:=Hs3) hS3 aL_ rfl zp) (show _=Value.int .i64 (List.length (rls (bm_ m) idk (aI_ (uniq [] p)) (Ix.add x (decide (f∈fm)) f) f (j+1) (q,fm)).1:Int) from rfl)) rfl (Zi 1 (fun hr16=>?_) fun hr16=>?_)
    ·refine Zz 11 ?_
     exact y_ ⟨(j+1,Hs3),hlfv,by exact hS3,.inr (by dsimp only;omega)⟩ (by dsimp only;omega) zl zp zh
    refine Zz 9 ?_
    refine s_ 0 [0,1,2,3,4,5,6] zk zs (Zz 4 ?_)
    refine R_ rfl (aY_ (ft_ (E:=(EA m hm (EngB.mk g pb ab ub ob ib rb sb lad lcap (an_ (uniq [] p))) b2 b3 b4 kb fb)) (nw:=(rls (bm_ m) idk (aI_ (uniq [] p)) (Ix.add x (decide (f∈fm)) f) f (j+1) (q,fm)).1) (Hs:=Hs3) hS3 aL_ rfl zp) (show _=Value.int .i64 (List.length (rls (bm_ m) idk (aI_ (uniq [] p)) (Ix.add x (decide (f∈fm)) f) f (j+1) (q,fm)).1:Int) from rfl)) rfl (Zi 1 (fun hr17=>?_) fun hr17=>?_)
    ·omega
    refine Zi 8 (fun hr18=>?_) fun hr18=>?_
    ·refine Zz 7 ?_
     refine i_ (H_ eY_ rfl rfl) rfl (z_ 0 aP_ rfl rfl rfl rfl rfl rfl (Zz 4 ?_))
     exact fy_ ⟨((Cl.mk [] none 0 [] none 0),2),et_ hchk hb0 hb1 hm0' (by rw[if_neg (by assumption)]) (cs_ hvk hL hf (j+1) rfl).1 (cs_ hvk hL hf (j+1) rfl).2.2.1 (by omega)⟩ (fun aa v h1 h2=>dj_ (us:=Cl.cells (Cl.mk [] none 0 [] none 0)) 0 cR_ dc_ aP_ rfl rfl rfl rfl aa v h1 h2) m_ (fun v _ h=>by exact⟨.inl rfl,.inl rfl,trivial⟩)
    refine Zz 5 ?_
    refine i_ (H_ eY_ rfl rfl) rfl (z_ 0 aP_ rfl rfl rfl rfl rfl rfl (Zz 4 ?_))
    exact fy_ ⟨((Cl.mk [] none 0 [] none 0),3),et_ hchk hb0 hb1 hm0' (by rw[if_pos (by assumption)]) (cs_ hvk hL hf (j+1) rfl).1 (cs_ hvk hL hf (j+1) rfl).2.2.1 (by omega)⟩ (fun aa v h1 h2=>dj_ (us:=Cl.cells (Cl.mk [] none 0 [] none 0)) 0 cR_ dc_ aP_ rfl rfl rfl rfl aa v h1 h2) m_ (fun v _ h=>by exact⟨.inl rfl,.inl rfl,trivial⟩)
   refine Zz 6 ?_
   refine i_ (H_ eY_ rfl rfl) rfl (z_ 0 aP_ rfl rfl rfl rfl rfl rfl (Zz 4 ?_))
   exact fy_ ⟨((Cl.mk [] none 0 [] none 0),1),nU_ (by assumption) (by omega)⟩ (fun aa v h1 h2=>dj_ (us:=Cl.cells (Cl.mk [] none 0 [] none 0)) 0 cR_ dc_ aP_ rfl rfl rfl rfl aa v h1 h2) m_ (fun v _ h=>by exact⟨.inl rfl,.inl rfl,trivial⟩)
  refine Zz 9 ?_
  refine i_ (H_ eY_ rfl rfl) rfl (z_ 0 aP_ rfl rfl rfl rfl rfl rfl (Zz 4 ?_))
  exact fy_ ⟨((Cl.mk [] none 0 [] none 0),1),nU_ (by assumption) (by omega)⟩ (fun aa v h1 h2=>dj_ (us:=Cl.cells (Cl.mk [] none 0 [] none 0)) 0 cR_ dc_ aP_ rfl rfl rfl rfl aa v h1 h2) m_ (fun v _ h=>by exact⟨.inl rfl,.inl rfl,trivial⟩)
 refine Zz 5 ?_
 refine i_ (H_ eY_ rfl rfl) rfl (Zz 1 ?_)
 refine z_ 0 aP_ rfl rfl rfl rfl rfl rfl (Zz 4 ?_)
 exact fy_ ⟨((Cl.mk [] none 0 [] none 0),(cV_ p)),sH_ (by assumption)⟩ (fun aa v h1 h2=>dj_ (us:=Cl.cells (Cl.mk [] none 0 [] none 0)) 0 cR_ dc_ aP_ rfl rfl rfl rfl aa v h1 h2) m_ (fun v _ h=>by exact⟨.inl rfl,.inl rfl,trivial⟩)
end Go.Proofs.YtkeanlfhghlgiaaGreatDoor
namespace Go.Proofs.YtkeanlfhghlgiaaGreatDoor
open Go Go.Sx Go.Proofs
attribute [local irreducible] Code.wp wpList wpAnyH
open Go.Vs
def sa_ (f:Fc):Bool:=decide (f=C_ f.a f.b)
def fc_ (A:List Str) (f:Fc):Bool :=
  decide (f.a∈A)&&(if f.kind=1 then decide (f.b∈A)&&sa_ f
    else if f.kind=2 then decide (f.b∈A)&&(decide (f.r≠[])&&decide (f=I_ f.a f.r f.b))
    else if f.kind=3 then decide (f.r≠[])&&(decide (f=T_ f.a f.r f.lo f.hi)&&(decide (-1099511627776≤f.lo)&&(decide (f.lo≤f.hi)&&decide (f.hi≤1099511627776))))
    else false)
abbrev SrtS (l:List Str):Prop:=l.Pairwise fun x y=>x<y
end Go.Proofs.YtkeanlfhghlgiaaGreatDoor
namespace Go.Proofs.YtkeanlfhghlgiaaGreatDoor
open Go Go.Sx Go.Proofs
attribute [local irreducible] Code.wp wpList wpAnyH
open Go.Vs
theorem SrtS.nodup {l:List Str} (h:SrtS l):l.Nodup:=by
  unfold List.Nodup
  refine List.Pairwise.imp ?_ h
  intro a b hab e
  exact jA_ b (e▸hab)
def oC_ (fs:List Fc) (f:Fc):Bool:=fs.any fun x=>(decide (x=f)||decide (x=C_ f.a [33]))||((decide (f=T_ f.a f.r f.lo f.hi)&&decide (x=T_ f.a f.r x.lo x.hi))&&(decide (f.lo≤x.lo)&&decide (x.hi≤f.hi)))
def kJ_ (f x:Fc):Bool:=(decide (x=f)||decide (x=C_ f.a [33]))||((decide (f=T_ f.a f.r f.lo f.hi)&&decide (x=T_ f.a f.r x.lo x.hi))&&(decide (f.lo≤x.lo)&&decide (x.hi≤f.hi)))
theorem any_no {α:Type} {p:α→Bool} {l:List α} {j:Nat} {x:α} (h:∀ y∈l.take j,p y=false) (hx:l[j]? = some x) (hp:p x=false):∀ y∈l.take (j+1),p y=false:=fun y hy=>by
 rw[List.take_add_one,hx]at hy
 simp only[Option.toList_some,List.mem_append,List.mem_singleton]at hy
 rcases hy with hy|rfl
 ·exact h y hy
 exact hp
theorem pt_ {α:Type} {p:α→Bool} {l:List α} {j:Nat} (h:∀ y∈l.take j,p y=false) (hj:l.length≤j):false=l.any p:=by
  rw[List.take_of_length_le hj]at h
  symm;rw[List.any_eq_false];exact fun y hy=>by simp[h y hy]
theorem hs_ {α:Type} {p:α→Bool} {l:List α} {x:α} (hx:x∈l) (hp:p x=true):true=l.any p:=(List.any_eq_true.2 ⟨x,hx,hp⟩).symm
theorem der_c (c:Cl) (f:Fc) (hf:c.facts.length≤1000000000000):Tri Tryz.prog 18 #[Cl.val c,Fc.val f] [] [af_ c.fad (List.flatMap Fc.cells c.facts)] (fun _:Unit=>.bool (oC_ c.facts f)) (fun _=>[]) (fun _=>[]):=by
 refine w_ Tryz.func18 rfl rfl Tryz.ntmps18 rfl fun v0=>?_
 refine Zz 2 ?_
 refine as_ rfl rfl fun b1=>as_ rfl rfl fun b2=>Zz 7 ?_
 refine n_ (fu_ f.a [33]) rfl m_ zt rfl fun _=>J_ aa_ rfl fun b3=>z_ 0 B_ rfl rfl rfl rfl rfl rfl (Zz 4 ?_)
 refine s_ 3 [0,1,2,3,4,5,6,7,8] zk zs (Zz 10 ?_)
 refine j_ 9 rfl zk (n_ (ka_ f.a f.r f.lo f.hi) rfl m_ zt rfl fun _=>Zz 3 ?_)
 refine s_ 0 [10,11] zk zs (cI_ rfl (aH_ (p:=f) (q:=(T_ f.a f.r f.lo f.hi)) rfl rfl) rfl fun r1 hr1=>Zz 14 ?_)
 cases r1
 ·replace hr1:=zdf hr1
  refine Q_ (ι:={y:Nat // y≤List.length c.facts∧∀ z∈List.take y c.facts,kJ_ f z=false}) (fun y=>[(2,zp_ b1 0),(3,zp_ b2 0),(5,zp_ b3 0),(6,.bool false),(24,.slice c.fad (List.length c.facts) c.fcap),(25,.int .i64 (List.length c.facts:Int)),(26,.int .i64 (y.1:Int))]) (fun y=>((b3,.cells #[.int .i64 (Fc.kind (C_ f.a [33])),str (Fc.a (C_ f.a [33])),str (Fc.b (C_ f.a [33])),str (Fc.r (C_ f.a [33])),.int .i64 (Fc.lo (C_ f.a [33])),.int .i64 (Fc.hi (C_ f.a [33]))] 24 (0,0))::((b2,.cells #[.int .i64 f.kind,str f.a,str f.b,str f.r,.int .i64 f.lo,.int .i64 f.hi] 24 (0,0))::((b1,.cells #[.slice c.aad (List.length c.atoms) c.acap,.slice c.fad (List.length c.facts) c.fcap] 39 (0,0))::[])))) (fun y=>[af_ c.fad (List.flatMap Fc.cells c.facts)]) (fun y=>List.length c.facts - y.1) ⟨(0:Nat),by simp,by simp⟩ zl zp zh ?_
  rintro ⟨j,hj,hall⟩
  dsimp only at hj hall ⊢
  refine Zi 2 (fun hr2=>?_) fun hr2=>?_
  ·refine Zz 12 ?_
   exact al_ he_ () (x_ rfl (pt_ hall (by omega))) m_ zt
  obtain⟨hlx2,x2,hx2,hmx2⟩:=zge (show j<List.length c.facts by omega)
  refine Zz 12 ?_
  refine J_ aa_ rfl fun b4=>z_ 0 B_ rfl rfl rfl rfl rfl rfl (Zz 7 ?_)
  refine aQ_ (aH_ (p:=x2) (q:=f) rfl rfl) rfl fun r3 hr3=>Zz 1 ?_
  cases r3
  ·replace hr3:=zdf hr3
   refine Zz 5 ?_
   refine aQ_ (aH_ (p:=x2) (q:=(C_ f.a [33])) rfl rfl) rfl fun r4 hr4=>Zz 3 ?_
   cases r4
   ·replace hr4:=zdf hr4
    refine Zz 5 ?_
    refine s_ 0 [0,1,2,3,4,5,6,7,8,9,10,11,12,13,14,15,16,17,18,19,20,21,22,23,24,25,26,27] zk zs (Zz 39 ?_)
    exact y_ ⟨j+1,hlx2,any_no hall hx2 (by have p1:=eq_false hr1;have p2:=eq_true hr2;have p3:=eq_false hr3;have p4:=eq_false hr4;simp only[kJ_,p1,p2,p3,p4,if_true,if_false,decide_true,decide_false,Bool.and_true,Bool.and_false,Bool.true_and,Bool.false_and,Bool.or_true,Bool.or_false,Bool.true_or,Bool.false_or,Bool.not_true,Bool.not_false,ne_eq,not_true_eq_false,not_false_eq_true,true_and,and_true,false_and,and_false,true_or,or_true,false_or,or_false,ite_true,ite_false,Bool.false_eq_true])⟩ (by dsimp only;omega) zl (g_ (c_ d_) (g_ (c_ d_) (c_ d_))) zh
   replace hr4:=zdt hr4
   refine Zz 7 ?_
   exact al_ he_ () (x_ rfl (hs_ hmx2 (by have p1:=eq_false hr1;have p2:=eq_true hr2;have p3:=eq_false hr3;have p4:=eq_true hr4;simp only[kJ_,p1,p2,p3,p4,if_true,if_false,decide_true,decide_false,Bool.and_true,Bool.and_false,Bool.true_and,Bool.false_and,Bool.or_true,Bool.or_false,Bool.true_or,Bool.false_or,Bool.not_true,Bool.not_false,ne_eq,not_true_eq_false,not_false_eq_true,true_and,and_true,false_and,and_false,true_or,or_true,false_or,or_false,ite_true,ite_false,Bool.false_eq_true]))) m_ zt
  replace hr3:=zdt hr3
  refine Zz 13 ?_
  exact al_ he_ () (x_ rfl (hs_ hmx2 (by have p1:=eq_false hr1;have p2:=eq_true hr2;have p3:=eq_true hr3;simp only[kJ_,p1,p2,p3,if_true,if_false,decide_true,decide_false,Bool.and_true,Bool.and_false,Bool.true_and,Bool.false_and,Bool.or_true,Bool.or_false,Bool.true_or,Bool.false_or,Bool.not_true,Bool.not_false,ne_eq,not_true_eq_false,not_false_eq_true,true_and,and_true,false_and,and_false,true_or,or_true,false_or,or_false,ite_true,ite_false,Bool.false_eq_true]))) m_ zt
 replace hr1:=zdt hr1
 refine Q_ (ι:={y:Nat // y≤List.length c.facts∧∀ z∈List.take y c.facts,kJ_ f z=false}) (fun y=>[(2,zp_ b1 0),(3,zp_ b2 0),(5,zp_ b3 0),(6,.bool true),(24,.slice c.fad (List.length c.facts) c.fcap),(25,.int .i64 (List.length c.facts:Int)),(26,.int .i64 (y.1:Int))]) (fun y=>((b3,.cells #[.int .i64 (Fc.kind (C_ f.a [33])),str (Fc.a (C_ f.a [33])),str (Fc.b (C_ f.a [33])),str (Fc.r (C_ f.a [33])),.int .i64 (Fc.lo (C_ f.a [33])),.int .i64 (Fc.hi (C_ f.a [33]))] 24 (0,0))::((b2,.cells #[.int .i64 f.kind,str f.a,str f.b,str f.r,.int .i64 f.lo,.int .i64 f.hi] 24 (0,0))::((b1,.cells #[.slice c.aad (List.length c.atoms) c.acap,.slice c.fad (List.length c.facts) c.fcap] 39 (0,0))::[])))) (fun y=>[af_ c.fad (List.flatMap Fc.cells c.facts)]) (fun y=>List.length c.facts - y.1) ⟨(0:Nat),by simp,by simp⟩ zl zp zh ?_
 rintro ⟨j,hj,hall⟩
 dsimp only at hj hall ⊢
 refine Zi 2 (fun hr5=>?_) fun hr5=>?_
 ·refine Zz 12 ?_
  exact al_ he_ () (x_ rfl (pt_ hall (by omega))) m_ zt
 obtain⟨hlx2,x2,hx2,hmx2⟩:=zge (show j<List.length c.facts by omega)
 refine Zz 12 ?_
 refine J_ aa_ rfl fun b5=>z_ 0 B_ rfl rfl rfl rfl rfl rfl (Zz 7 ?_)
 refine aQ_ (aH_ (p:=x2) (q:=f) rfl rfl) rfl fun r6 hr6=>Zz 1 ?_
 cases r6
 ·replace hr6:=zdf hr6
  refine Zz 5 ?_
  refine aQ_ (aH_ (p:=x2) (q:=(C_ f.a [33])) rfl rfl) rfl fun r7 hr7=>Zz 3 ?_
  cases r7
  ·replace hr7:=zdf hr7
   refine Zz 5 ?_
   refine s_ 17 [0,1,2,3,4,5,6,7,8,9,10] zk zs (Zz 12 ?_)
   refine j_ 11 rfl zk (aJ_ rfl rfl (n_ (ka_ f.a f.r x2.lo x2.hi) rfl m_ zt rfl fun _=>Zz 3 ?_))
   refine s_ 13 [12,13,14] zk zs (bK_ rfl rfl rfl (aH_ (p:=x2) (q:=(T_ f.a f.r x2.lo x2.hi)) rfl rfl) rfl fun r8 hr8=>Zz 3 ?_)
   cases r8
   ·replace hr8:=zdf hr8
    refine s_ 0 [15,16,17,18,19,20,21,22,23,24,25,26,27] zk zs (Zz 24 ?_)
    exact y_ ⟨j+1,hlx2,any_no hall hx2 (by have p1:=eq_true hr1;have p2:=eq_true hr5;have p3:=eq_false hr6;have p4:=eq_false hr7;have p5:=eq_false hr8;simp only[kJ_,p1,p2,p3,p4,p5,if_true,if_false,decide_true,decide_false,Bool.and_true,Bool.and_false,Bool.true_and,Bool.false_and,Bool.or_true,Bool.or_false,Bool.true_or,Bool.false_or,Bool.not_true,Bool.not_false,ne_eq,not_true_eq_false,not_false_eq_true,true_and,and_true,false_and,and_false,true_or,or_true,false_or,or_false,ite_true,ite_false,Bool.false_eq_true])⟩ (by dsimp only;omega) zl (g_ (c_ d_) (g_ (c_ d_) (c_ d_))) zh
   replace hr8:=zdt hr8
   refine s_ 6 [15,16,17,18,19,20,21] zk zs (Zi 4 (fun hr9=>?_) fun hr9=>?_)
   ·refine Zz 3 ?_
    refine s_ 0 [22,23,24,25,26,27] zk zs (Zz 17 ?_)
    exact y_ ⟨j+1,hlx2,any_no hall hx2 (by have p1:=eq_true hr1;have p2:=eq_true hr5;have p3:=eq_false hr6;have p4:=eq_false hr7;have p5:=eq_true hr8;have p6:=eq_false hr9;simp only[kJ_,p1,p2,p3,p4,p5,p6,if_true,if_false,decide_true,decide_false,Bool.and_true,Bool.and_false,Bool.true_and,Bool.false_and,Bool.or_true,Bool.or_false,Bool.true_or,Bool.false_or,Bool.not_true,Bool.not_false,ne_eq,not_true_eq_false,not_false_eq_true,true_and,and_true,false_and,and_false,true_or,or_true,false_or,or_false,ite_true,ite_false,Bool.false_eq_true])⟩ (by dsimp only;omega) zl (g_ (c_ d_) (g_ (c_ d_) (c_ d_))) zh
   refine Zz 3 ?_
   refine s_ 0 [22,23,24,25,26,27] zk zs (Zi 4 (fun hr10=>?_) fun hr10=>?_)
   ·refine Zz 12 ?_
    exact y_ ⟨j+1,hlx2,any_no hall hx2 (by have p1:=eq_true hr1;have p2:=eq_true hr5;have p3:=eq_false hr6;have p4:=eq_false hr7;have p5:=eq_true hr8;have p6:=eq_true hr9;have p7:=eq_false hr10;simp only[kJ_,p1,p2,p3,p4,p5,p6,p7,if_true,if_false,decide_true,decide_false,Bool.and_true,Bool.and_false,Bool.true_and,Bool.false_and,Bool.or_true,Bool.or_false,Bool.true_or,Bool.false_or,Bool.not_true,Bool.not_false,ne_eq,not_true_eq_false,not_false_eq_true,true_and,and_true,false_and,and_false,true_or,or_true,false_or,or_false,ite_true,ite_false,Bool.false_eq_true])⟩ (by dsimp only;omega) zl (g_ (c_ d_) (g_ (c_ d_) (c_ d_))) zh
   refine Zz 11 ?_
   exact al_ he_ () (x_ rfl (hs_ hmx2 (by have p1:=eq_true hr1;have p2:=eq_true hr5;have p3:=eq_false hr6;have p4:=eq_false hr7;have p5:=eq_true hr8;have p6:=eq_true hr9;have p7:=eq_true hr10;simp only[kJ_,p1,p2,p3,p4,p5,p6,p7,if_true,if_false,decide_true,decide_false,Bool.and_true,Bool.and_false,Bool.true_and,Bool.false_and,Bool.or_true,Bool.or_false,Bool.true_or,Bool.false_or,Bool.not_true,Bool.not_false,ne_eq,not_true_eq_false,not_false_eq_true,true_and,and_true,false_and,and_false,true_or,or_true,false_or,or_false,ite_true,ite_false,Bool.false_eq_true]))) m_ zt
  replace hr7:=zdt hr7
  refine Zz 7 ?_
  exact al_ he_ () (x_ rfl (hs_ hmx2 (by have p1:=eq_true hr1;have p2:=eq_true hr5;have p3:=eq_false hr6;have p4:=eq_true hr7;simp only[kJ_,p1,p2,p3,p4,if_true,if_false,decide_true,decide_false,Bool.and_true,Bool.and_false,Bool.true_and,Bool.false_and,Bool.or_true,Bool.or_false,Bool.true_or,Bool.false_or,Bool.not_true,Bool.not_false,ne_eq,not_true_eq_false,not_false_eq_true,true_and,and_true,false_and,and_false,true_or,or_true,false_or,or_false,ite_true,ite_false,Bool.false_eq_true]))) m_ zt
 replace hr6:=zdt hr6
 refine Zz 13 ?_
 exact al_ he_ () (x_ rfl (hs_ hmx2 (by have p1:=eq_true hr1;have p2:=eq_true hr5;have p3:=eq_true hr6;simp only[kJ_,p1,p2,p3,if_true,if_false,decide_true,decide_false,Bool.and_true,Bool.and_false,Bool.true_and,Bool.false_and,Bool.or_true,Bool.or_false,Bool.true_or,Bool.false_or,Bool.not_true,Bool.not_false,ne_eq,not_true_eq_false,not_false_eq_true,true_and,and_true,false_and,and_false,true_or,or_true,false_or,or_false,ite_true,ite_false,Bool.false_eq_true]))) m_ zt
end Go.Proofs.YtkeanlfhghlgiaaGreatDoor
namespace Go.Proofs.YtkeanlfhghlgiaaGreatDoor
open Go Go.Sx Go.Proofs
attribute [local irreducible] Code.wp wpList wpAnyH
open Go.Vs
theorem dE {p:Prop} {i:Decidable p}:(@decide p i=true)↔p:=⟨fun h=>of_decide_eq_true h,fun h=>decide_eq_true h⟩
theorem uc_ (p:List Pc):[42]∈atS p:=(fN_ p _).2 (.inr (.inl rfl))
theorem ps_ (p:List Pc):[33]∈atS p:=(fN_ p _).2 (.inr (.inr rfl))
theorem at_of {p:List Pc} {x:Pc} (hx:x∈p) {s:Str} (hs:s=x.a∨s=x.b∨s=x.c) (hn:s≠[]):s∈atS p:=by
  refine (fN_ p s).2 (.inl ((em_ p s).2 ?_))
  refine List.mem_flatMap.2 ⟨x,hx,List.mem_filter.2 ⟨?_,by simpa using hn⟩⟩
  rcases hs with rfl|rfl|rfl<;>simp
theorem ub_ {s:Str} (h:bJ_ s=true):s≠[]:=fun e=>by subst e;revert h;decide
theorem sR_ {p:Pc} (h:p.valid=true) (hk:p.kind=1∨p.kind=2∨p.kind=3∨p.kind=4∨p.kind=9):p.c≠[]:=by
 unfold Pc.valid at h
 split at h
 ·simp at h
 split at h
 ·simp at h
 split at h
 ·simp at h
 simp only[Bool.and_eq_true]at h
 obtain⟨⟨⟨⟨_,hc⟩,_⟩,_⟩,_⟩:=h
 have key:∀ {b:Bool},cr_ b p.c bJ_=true→b=true→p.c≠[]:=fun h1 h2=>by
   subst h2;simp[cr_]at h1;exact ub_ h1
 rcases hk with q|q|q|q|q<;>rw[q]at hc<;>exact key hc (by decide)
theorem fo1 {A:List Str} {a b:Str}:fc_ A (C_ a b)=true↔a∈A∧b∈A:=by
  unfold fc_ C_ sa_
  dsimp only
  rw[if_pos rfl,Bool.and_eq_true,Bool.and_eq_true,dE,dE,dE]
  simp[C_]
theorem fo2 {A:List Str} {a r b:Str}:fc_ A (I_ a r b)=true↔a∈A∧b∈A∧r≠[]:=by
  unfold fc_ I_
  dsimp only
  rw[if_neg (by decide),if_pos rfl,Bool.and_eq_true,Bool.and_eq_true,Bool.and_eq_true,dE,dE,dE,dE]
  simp[I_]
theorem fo3 {A:List Str} {a r:Str} {lo hi:Int}:fc_ A (T_ a r lo hi)=true↔a∈A∧r≠[]∧-1099511627776≤lo∧lo≤hi∧hi≤1099511627776:=by
  unfold fc_ T_
  dsimp only
  rw[if_neg (by decide),if_neg (by decide),if_pos rfl,Bool.and_eq_true,Bool.and_eq_true,Bool.and_eq_true,Bool.and_eq_true,Bool.and_eq_true,dE,dE,dE,dE,dE,dE]
  simp[T_]
theorem rA_ {p:List Pc} {S:Fc→Prop} (hp:∀ x∈p,x.valid=true) (hS:∀ y,S y→fc_ (atS p) y=true) {y:Fc} (h:fX_ p (atS p) S y):fc_ (atS p) y=true:=by
  have hc:∀ {x:Pc},x∈p→(x.kind=1∨x.kind=2∨x.kind=3∨x.kind=4∨x.kind=9)→x.c∈atS p:=fun hx hk=>at_of hx (.inr (.inr rfl)) (sR_ (hp _ hx) hk)
  have hv:∀ {x:Pc},x∈p→x.vok:=fun hx=>hz_ (hp _ hx)
  cases h with
  | r1 h=>exact fo1.2 ⟨h,h⟩
  | r2 h=>exact fo1.2 ⟨h,uc_ p⟩
  | r10 hx hk h=>exact fo2.2 ⟨h,h,(hv hx).rok.1 (by simp[hk])⟩
  | r3 hx hk h=>exact fo1.2 ⟨(fo1.1 (hS _ h)).1,hc hx (by simp[hk])⟩
  | r4 hx hk h h'=>exact fo1.2 ⟨(fo1.1 (hS _ h)).1,hc hx (by simp[hk])⟩
  | r5 hx hk h=>exact fo2.2 ⟨(fo1.1 (hS _ h)).1,hc hx (by simp[hk]),(hv hx).rok.1 (by simp[hk])⟩
  | r6 hx hk h=>exact fo2.2 ⟨(fo2.1 (hS _ h)).1,(fo2.1 (hS _ h)).2.1,(hv hx).rok.2.2 hk⟩
  | r7 hx hk h h'=>exact fo2.2 ⟨(fo2.1 (hS _ h)).1,(fo2.1 (hS _ h')).2.1,((hv hx).rok.2.1 hk).2⟩
  | r8 hx hk h h'=>exact fo1.2 ⟨(fo2.1 (hS _ h)).1,hc hx (by simp[hk])⟩
  | r9 h h'=>exact fo1.2 ⟨(fo2.1 (hS _ h)).1,ps_ p⟩
  | r11 hx hk h=>exact fo3.2 ⟨(fo1.1 (hS _ h)).1,(hv hx).rok.1 (by simp[hk]),(hv hx).num (.inl hk)⟩
  | r12 h h' hm hl =>
    have h1:=fo3.1 (hS _ h)
    have h2:=fo3.1 (hS _ h')
    exact fo3.2 ⟨h1.1,h1.2.1,by omega,hl,by omega⟩
  | r13 h h' hm hl=>exact fo1.2 ⟨(fo3.1 (hS _ h)).1,ps_ p⟩
  | r14 hx hk h h1 h2=>exact fo1.2 ⟨(fo3.1 (hS _ h)).1,hc hx (by simp[hk])⟩
theorem der_ok {p:List Pc} (hp:∀ x∈p,x.valid=true) {y:Fc} (h:Der p (atS p) y):fc_ (atS p) y=true:=h _ fun _ hy=>rA_ hp (fun _ h=>h) hy
theorem jo_ {p:List Pc} (h:cV_ p=0):∀ x∈p,x.valid=true:=fun x hx=>List.all_eq_true.1 (nO_ h).2 x hx
theorem fl_.good {p:List Pc} {bu:Int} {c:Cl} (h:fl_ p bu c 0):cV_ p=0∧0≤bu∧bu≤1073741824∧c.ok∧c.atoms=atS p∧fP_ p (atS p) (min bu 65536).toNat (some c.facts):=by
 unfold fl_ at h
 split at h
 ·rename_i h1;exact absurd h.2.symm h1
 rename_i h1
 split at h
 ·exact absurd h.2 (by decide)
 rename_i h2
 rcases h with h|h
 ·exact⟨by simpa using h1,by omega,by omega,h.2⟩
 have:=h.2.1;split at this<;>exact absurd this (by decide)
theorem fl_.bad {p:List Pc} {bu:Int} {c:Cl} {e:Int} (h:fl_ p bu c e) (he:e≠0):c=Cl.no:=by
 unfold fl_ at h
 split at h
 ·exact h.1
 split at h
 ·exact h.1
 rcases h with h|h
 ·exact absurd h.1 he
 exact h.1
theorem fl_.ok {p:List Pc} {bu:Int} {c:Cl} {e:Int} (h:fl_ p bu c e):c.ok:=by
 by_cases he:e=0
 ·subst he;exact h.good.2.2.2.1
 rw[h.bad he];exact Cl.no_ok
theorem fl_.len {p:List Pc} {bu:Int} {c:Cl} {e:Int} (h:fl_ p bu c e):c.atoms.length≤3*p.length+2∧c.facts.length≤65536:=by
 by_cases he:e=0
 ·subst he
  obtain⟨_,_,_,_,h1,h2⟩:=h.good
  refine⟨by rw[h1];exact mE_ p,?_⟩
  have:=h2.2.2
  omega
 rw[h.bad he];simp[Cl.no]
theorem pu_ {p:List Pc} {bu:Int} {c:Cl} {e:Int} {r:Option (List Fc)} (h:fl_ p bu c e) (hc:cV_ p=0) (hb:0≤bu) (hb2:bu≤1073741824) (hr:fP_ p (atS p) (min bu 65536).toNat r):(∀ L,r=some L→e=0∧c.facts=L∧c.atoms=atS p)∧(r=none→c=Cl.no∧e=if bu<65536 then 3 else 2):=by
 unfold fl_ at h
 rw[if_neg (by simp[hc]),if_neg (by omega)]at h
 rcases h with⟨h1,h2,h3,h4⟩|⟨h1,h2,h3⟩
 ·have e:=fP_.uniq h4 hr
  subst e
  exact⟨fun L hL=>⟨h1,Option.some.inj hL,h3⟩,fun h=>(by cases h)⟩
 have e:=fP_.uniq h3 hr
 subst e
 exact⟨fun L hL=>(by cases hL),fun _=>⟨h1,h2⟩⟩
def le_ (p q:List Pc):Prop:=∀ x∈p,∃ y∈q,∃ n,{ y with frm:=n }=x
theorem le_.of {p q:List Pc} (h:∀ x∈p,x∈q):le_ p q:=fun x hx=>⟨x,h x hx,x.frm,rfl⟩
theorem le_.at' {p q:List Pc} (h:le_ p q):∀ s∈atS p,s∈atS q:=fun s hs=>by
 rw[fN_,em_]at hs ⊢
 rcases hs with h1|h1
 ·obtain⟨x,hx,h2⟩:=List.mem_flatMap.1 h1
  obtain⟨y,hy,n,e⟩:=h x hx
  subst e
  exact .inl (List.mem_flatMap.2 ⟨y,hy,h2⟩)
 exact .inr h1
theorem le_.der {p q:List Pc} (h:le_ p q) {y:Fc} (hy:Der p (atS p) y):Der q (atS q) y:=hy.mono h h.at'
theorem le_.trans {p q r:List Pc} (h:le_ p q) (k:le_ q r):le_ p r:=fun x hx=>by
  obtain⟨y,hy,n,rfl⟩:=h x hx
  obtain⟨z,hz,m,rfl⟩:=k y hy
  exact⟨z,hz,n,rfl⟩
end Go.Proofs.YtkeanlfhghlgiaaGreatDoor
namespace Go.Proofs.YtkeanlfhghlgiaaGreatDoor
open Go Go.Sx Go.Proofs
attribute [local irreducible] Code.wp wpList wpAnyH
open Go.Vs
theorem bv_.pre {α:Type} {f:α→List Value} {n:Nat} (hf:∀ x,(f x).length=n) {l:List α} {v:Vw} {ad:Option Addr} (h:bv_ v ad (l.flatMap f)) (j:Nat):bv_ v ad ((l.take j).flatMap f) :=
  h.part fun k x hx=>by
    have e:l.flatMap f=(l.take j).flatMap f++(l.drop j).flatMap f:=by rw[← List.flatMap_append,List.take_append_drop]
    rw[e,List.getElem?_append_left (List.getElem?_eq_some_iff.1 hx).1]
    exact hx
end Go.Proofs.YtkeanlfhghlgiaaGreatDoor
namespace Go.Proofs.YtkeanlfhghlgiaaGreatDoor
open Go Go.Sx Go.Proofs
attribute [local irreducible] Code.wp wpList wpAnyH
open Go.Vs
theorem eqKy2 (p q:Ky) (w:World):(Op.equalIn 10000 111 (Ky.val p) (Ky.val q)).run Tryz.prog w=.ok (decide (p=q)) w:=by
  have h:=run_equalIn_struct (P:=Tryz.prog) w 9999 111 (Ky.cells p).toArray (Ky.cells q).toArray (by simp only[Program.fieldsOf,Tryz.underlying111]) Tryz.stoodInHeld111
  refine h.trans ?_
  rw[← Ky.eqb_eq]
  simp only[Program.fieldsOf,Tryz.underlying111]
  exact bF_ rfl O_ rfl rfl (eqI bw_ w) (bF_ rfl U_ rfl rfl (eqS aF_ w) (bF_ rfl U_ rfl rfl (eqS aF_ w) (hJ_ w)))
theorem tJ_ (p q:eO_) (w:World):(Op.equalIn 10000 114 (aU_ p) (aU_ q)).run Tryz.prog w=.ok (decide (p=q)) w:=by
  have h:=run_equalIn_struct (P:=Tryz.prog) w 9999 114 (it_ p).toArray (it_ q).toArray (by simp only[Program.fieldsOf,Tryz.underlying114]) Tryz.stoodInHeld114
  refine h.trans ?_
  rw[← mS_]
  simp only[Program.fieldsOf,Tryz.underlying114]
  exact bF_ rfl U_ rfl rfl (eqS aF_ w) (bF_ rfl U_ rfl rfl (eqS aF_ w) (hJ_ w))
theorem okKy2 (p:Ky):hv_ Tryz.prog 111 (Ky.val p):=fun e w=>by
 have hi:∀ (n:Int) (w:World),(Instr.checkKey e (9998+1) 3 (.int .i64 n)).run Tryz.prog w=.ok () w:=fun n w=>MapKept.run_checkKey (d:=.int .i64) bw_ (by simp[MapKept.IsKey]) e 9998
 have hs:∀ (n:Str) (w:World),(Instr.checkKey e (9998+1) 9 (str n)).run Tryz.prog w=.ok () w:=fun n w=>MapKept.run_checkKey (d:=.string) aF_ (by simp[MapKept.IsKey,str]) e 9998
 refine ckF (n:=9999) Tryz.underlying111 fun f hf=>?_
 simp only[List.mem_cons,List.not_mem_nil,or_false]at hf
 rcases hf with rfl|rfl|rfl
 ·exact⟨rfl,O_,_,rfl,hi _⟩
 ·exact⟨rfl,U_,_,rfl,hs _⟩
 exact⟨rfl,U_,_,rfl,hs _⟩
theorem tq_ (p:eO_):hv_ Tryz.prog 114 (aU_ p):=fun e w=>by
 have hi:∀ (n:Int) (w:World),(Instr.checkKey e (9998+1) 3 (.int .i64 n)).run Tryz.prog w=.ok () w:=fun n w=>MapKept.run_checkKey (d:=.int .i64) bw_ (by simp[MapKept.IsKey]) e 9998
 have hs:∀ (n:Str) (w:World),(Instr.checkKey e (9998+1) 9 (str n)).run Tryz.prog w=.ok () w:=fun n w=>MapKept.run_checkKey (d:=.string) aF_ (by simp[MapKept.IsKey,str]) e 9998
 refine ckF (n:=9999) Tryz.underlying114 fun f hf=>?_
 simp only[List.mem_cons,List.not_mem_nil,or_false]at hf
 rcases hf with rfl|rfl
 ·exact⟨rfl,U_,_,rfl,hs _⟩
 exact⟨rfl,U_,_,rfl,hs _⟩
theorem eJ_:KeyT Tryz.prog 111 Ky.val:=er_ (K:=Ky) Tryz.underlying111 okKy2 (fun p q w=>eqKy2 p q w) fun k=>ge_ (l:=Ky.cells k) fun v hv=>by
 simp only[Ky.cells,List.mem_cons,List.not_mem_nil,or_false]at hv
 rcases hv with rfl|rfl|rfl
 ·exact ex_ _ _
 ·exact cw_ _ _
 exact cw_ _ _
theorem ca_:KeyT Tryz.prog 114 aU_:=er_ (K:=eO_) Tryz.underlying114 tq_ (fun p q w=>tJ_ p q w) fun k=>ge_ (l:=it_ k) fun v hv=>by
 simp only[it_,List.mem_cons,List.not_mem_nil,or_false]at hv
 rcases hv with rfl|rfl
 ·exact cw_ _ _
 exact cw_ _ _
theorem bP_:Elt Tryz.prog 46 3 1 8:=lQ_ fd_ (z:=.int .i64 0) (by kernel_rfl) rfl (by decide)
theorem hM_:Elt Tryz.prog 27 48 9 112:=lQ_ Tryz.underlying27 (z:=.agg #[.int .i64 0,.int .i64 0,str [],str [],str [],.int .i64 0,.int .i64 0,.int .i64 0,.slice none 0 0]) (by kernel_rfl) rfl (by decide)
theorem ef_:jb_ Tryz.prog 111 [(0,1),(1,1),(2,1)] [.int .i64 0,str [],str []]:=⟨_,Tryz.zeroValue111,Tryz.runUnderlying111,fun w=>by simp[o_,M_]⟩
theorem gE_:jb_ Tryz.prog 114 [(0,1),(1,1)] [str [],str []]:=⟨_,gX_,Tryz.runUnderlying114,fun w=>by simp[M_]⟩
theorem sW_:jb_ Tryz.prog 105 [(0,1),(1,1),(2,1),(3,1),(4,1),(5,1),(6,1),(7,1),(8,1),(9,1)] [.slice none 0 0,.map none,.slice none 0 0,.map none,.map none,.map none,.map none,.map none,.map none,.map none]:=⟨_,Tryz.zeroValue105,aA_,fun w=>by simp[ej_,ei_,Tryz.sizeOf91,Tryz.sizeOf101,Tryz.sizeOf102,Tryz.sizeOf103]⟩
theorem oc_:jb_ Tryz.prog 48 [(0,1),(1,6),(7,1),(8,1)] [.int .i64 0,.int .i64 0,str [],str [],str [],.int .i64 0,.int .i64 0,.int .i64 0,.slice none 0 0]:=⟨_,bn_,ba_,fun w=>by simp[o_,B_,ik_]⟩
theorem Stp.cells_one (s:Stp):s.cells.all Value.oneCell'=true:=rfl
def RecR {K:Type} [DecidableEq K] (ks:List K) (vs:List Int) (k:K) (n m:Int):Prop:=(k∈ks→∃ i:Nat,ks[i]? = some k∧vs[i]? = some m)∧(k ∉ ks→m=n)
theorem dF_ {P:Program} {N:Nf} {fr:Fr} {H:Hp} {Γ:List Fct} {ty:TypeId} {s:TypeId} {x:Operand} {f b off k o:Nat} {fs:Array Field} {fd:Field} {n:Nat} (hu:∀ w,(underlying s).run P w=.ok (.struct fs) w) (hx:Fr.ev fr x=some (.pointer (some ⟨b,off+k,none⟩))) (hf:fs[f]? = some fd) (ho:fd.offset=o)
    (hs:∀ w,(sizeOf fd.type).run P w=.ok (n+1) w):Yld P N fr H Γ (.fieldAddr s x f) ty (.pointer (some ⟨b,off+(k+o),none⟩)):=by
  have:=bh_ (P:=P) (N:=N) (fr:=fr) (H:=H) (Γ:=Γ) (ty:=ty) hu hx hf ho hs
  rwa [Nat.add_assoc]at this
theorem rf_ (k:Fc) (n:Int) (ks:List Fc) (vs:List Int) (mb:Nat) (es:Array MapEntry) (c:Nat) (hE:IntE Fc.val es ks vs):Tri Tryz.prog 54 #[.map (some mb),Fc.val k,.int .i64 n] [(mb,.map es c)] [] (fun y:{y:(Bool×Int)×Array MapEntry×Nat // decide (k ∉ ks)=y.1.1∧RecR ks vs k n y.1.2∧IntE Fc.val y.2.1 (if k∈ks then ks else ks++[k]) (if k∈ks then vs else vs++[n])}=>.tuple #[.bool y.1.1.1,.int .i64 y.1.1.2]) (fun y=>[(mb,.map y.1.2.1 y.1.2.2)]) (fun _=>[]):=by
 refine w_ Tryz.func54 rfl rfl Tryz.ntmps54 rfl fun v0=>?_
 refine Zz 2 ?_
 refine as_ rfl rfl fun b1=>Zz 9 ?_
 refine eH_ (k:=k) fe_ dZ_ A_ rfl rfl hE zp rfl fun rl1 nl1 hrl1 hnl1=>Zz 12 ?_
 cases rl1
 ·replace hrl1:=zdf hrl1
  refine Zz 8 ?_
  refine km_ (k:=k) 1 fe_ (.inr rfl) dZ_ rfl rfl rfl rfl hE (by assumption) fun en1 cn1 hE1=>Zz 10 ?_
  exact iv_ Tryz.results54 ⟨((true,n),en1,cn1),by simp[*],⟨fun q=>absurd q (by assumption),fun _=>rfl⟩,by rw[if_neg (by assumption),if_neg (by assumption)];exact hE1⟩ rfl rfl rfl (c_ d_) zt
 replace hrl1:=zdt hrl1
 refine Zz 9 ?_
 exact iv_ Tryz.results54 ⟨((false,nl1),es,c),by simp[*],⟨fun _=>hnl1 rfl,fun q=>absurd (by assumption) q⟩,by rw[if_pos (by assumption),if_pos (by assumption)];exact hE⟩ rfl rfl rfl zp zt
theorem recP_c (k:Pc) (n:Int) (ks:List Pc) (vs:List Int) (mb:Nat) (es:Array MapEntry) (c:Nat) (hE:IntE Pc.val es ks vs):Tri Tryz.prog 63 #[.map (some mb),Pc.val k,.int .i64 n] [(mb,.map es c)] [] (fun y:{y:(Bool×Int)×Array MapEntry×Nat // decide (k ∉ ks)=y.1.1∧RecR ks vs k n y.1.2∧IntE Pc.val y.2.1 (if k∈ks then ks else ks++[k]) (if k∈ks then vs else vs++[n])}=>.tuple #[.bool y.1.1.1,.int .i64 y.1.1.2]) (fun y=>[(mb,.map y.1.2.1 y.1.2.2)]) (fun _=>[]):=by
 refine w_ Tryz.func63 rfl rfl Tryz.ntmps63 rfl fun v0=>?_
 refine Zz 2 ?_
 refine as_ rfl rfl fun b1=>Zz 9 ?_
 refine eH_ (k:=k) mm_ Tryz.runUnderlying106 A_ rfl rfl hE zp rfl fun rl1 nl1 hrl1 hnl1=>Zz 12 ?_
 cases rl1
 ·replace hrl1:=zdf hrl1
  refine Zz 8 ?_
  refine km_ (k:=k) 1 mm_ (.inr rfl) Tryz.runUnderlying106 rfl rfl rfl rfl hE (by assumption) fun en1 cn1 hE1=>Zz 10 ?_
  exact iv_ Tryz.results63 ⟨((true,n),en1,cn1),by simp[*],⟨fun q=>absurd q (by assumption),fun _=>rfl⟩,by rw[if_neg (by assumption),if_neg (by assumption)];exact hE1⟩ rfl rfl rfl (c_ d_) zt
 replace hrl1:=zdt hrl1
 refine Zz 9 ?_
 exact iv_ Tryz.results63 ⟨((false,nl1),es,c),by simp[*],⟨fun _=>hnl1 rfl,fun q=>absurd (by assumption) q⟩,by rw[if_pos (by assumption),if_pos (by assumption)];exact hE⟩ rfl rfl rfl zp zt
end Go.Proofs.YtkeanlfhghlgiaaGreatDoor
