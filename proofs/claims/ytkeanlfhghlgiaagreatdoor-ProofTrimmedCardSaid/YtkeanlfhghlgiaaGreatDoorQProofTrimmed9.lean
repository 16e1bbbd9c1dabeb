/-
  Part of the proof of the law ProofTrimmed over this seat: the small logic, the data, the contracts of functions (no condition).
-/
import Derived.Test.YtkeanlfhghlgiaaGreatDoorQProofTrimmed8
import Derived.Shelf.SlSortCmp.NoneTotal
import Derived.Test.YtkeanlfhghlgiaaGreatDoorProg
import Derived.Test.YtkeanlfhghlgiaaGreatDoorQProofTrimmed2
import Derived.Test.YtkeanlfhghlgiaaGreatDoorQProofTrimmed3
import Derived.Test.YtkeanlfhghlgiaaGreatDoorQProofTrimmed4
import Derived.Test.YtkeanlfhghlgiaaGreatDoorQProofTrimmed6
import Derived.Test.YtkeanlfhghlgiaaGreatDoorQProofTrimmed7
set_option linter.unusedVariables false
set_option linter.unusedSimpArgs false
set_option linter.unusedSectionVars false
set_option maxHeartbeats 1000000
namespace Go.Proofs.YtkeanlfhghlgiaaGreatDoor
open Go Go.Sx Go.Proofs
attribute [local irreducible] Code.wp wpList wpAnyH
open Go.Vs
theorem pB_ {P:Program} (w:World) (d:Nat) (t e:TypeId) (a:Option Addr) (l c:Nat) (h:P.underlying t=some (.slice e)):(Op.equalIn (d+1) t (.slice a l c) (.slice none 0 0)).run P w=.ok a.isNone w:=by
  cases a<;>simp[Op.equalIn,run_underlying h]
theorem sV_ {P:Program} (w:World) (t e:TypeId) (a:Option Addr) (l c:Nat) (h:P.underlying t=some (.slice e)):(Op.equal t (.slice a l c) (.slice none 0 0)).run P w=.ok a.isNone w:=pB_ w 9999 t e a l c h
theorem pU_ {P:Program} {N:Nf} {fr:Fr} {H:Hp} {Γ:List Fct} {ty t t' e:TypeId} {x y:Operand} {ad:Option Addr} {m c:Nat} (hu:P.underlying t=some (.slice e)) (hx:Fr.ev fr x=some (.slice ad m c)) (hy:Fr.ev fr y=some (.slice none 0 0)):Yld P N fr H Γ (.binOp .eql t x y t') ty (.bool (decide (ad=none))) :=
  fun a v h1 _ _ _ _ _=>by
    have he:decide (ad=none)=ad.isNone:=by cases ad<;>simp
    simp[execOp,h1.ev hx,h1.ev hy,eqGuard,binOp,sV_ v.w t e ad m c hu,he]
theorem qw_ {v:Vw} {cs:List Value} (h:bz_ v none cs):cs=[]:=by
 rcases h with h|⟨b,off,arr,T,fz,h1,_⟩
 ·exact h
 cases h1
theorem mw_ (b:Nat) (e:TypeId) (sz:Nat):aD_ e sz (.slice (some ⟨b,0,none⟩) 0 0) 0 [] [(b,.cells #[] e (0,0))]:=⟨by simp,.inr ⟨b,0,#[],rfl,rfl,Nat.le_refl _,by simp[maxLen],by simp,by simp⟩⟩
theorem rM_ (l:List Str) (ad:Option Addr) (cap:Nat) (hc:l.length≤cap) (hl:l.length≤1000000000):Tri Tryz.prog 85 #[.slice ad (List.length l) cap] [] [am_ ad (List.flatMap aV_ l)] (fun y:{y:Value×Hp // zR 9 1 aV_ y.1 l y.2}=>y.1.1) (fun y=>y.1.2) (fun _=>[]):=by
 refine w_ Tryz.func85 rfl rfl Tryz.ntmps85 rfl fun v0=>?_
 refine Zz 9 ?_
 refine aN_ (pU_ kS_ rfl rfl) rfl fun r1 hr1=>Zz 2 ?_
 cases r1
 ·replace hr1:=zdf hr1
  refine Zz 5 ?_
  refine fV_ C_ L_ rfl fun b1=>x_ d_ (Zz 1 ?_)
  refine cU_ (news:=List.flatMap aV_ l) db_ (mw_ b1 9 1) rfl rfl (fun q=>absurd q hr1) hc aH_ (by rw[cH_ aV_ 1 ax_]) zf (fun u hu=>aA_ cB_ hu) (by simp only[maxLen];omega) (by omega) rfl fun sv1 Hr1 hr1=>?_
  refine x_ List.perm_append_comm ?_
  have hq1:aD_ 9 1 sv1 (List.length (([]:List Str)++l)) (List.flatMap aV_ (([]:List Str)++l)) Hr1:=by rw[List.length_append,List.flatMap_append];exact hr1
  refine Zz 4 ?_
  exact al_ Tryz.results85 ⟨(sv1,Hr1),by simpa using hq1⟩ rfl aH_ zt
 replace hr1:=zdt hr1
 refine Zz 7 ?_
 refine cs_ (p:=List.flatMap aV_ l=[]) (fun v _ h=>by have q:=h.1;subst hr1;exact qw_ q) fun hz=>?_
 have hz2:l=[]:=List.eq_nil_of_length_eq_zero (by have:=congrArg List.length hz;rwa [cH_ aV_ 1 ax_,Nat.mul_one]at this)
 exact al_ Tryz.results85 ⟨(.slice none 0 0,[]),by subst hz2;exact aD_.nil _ _⟩ rfl m_ zt
def atS (p:List Pc):List Str:=Lib.compact ((dE_ p++[[42],[33]]).mergeSort fun x y=>decide (x≤y))
theorem mj_ (p:List Pc):(atS p).length≤3*p.length+2:=by
  have:=gY_ ((dE_ p++[[42],[33]]).mergeSort fun x y=>decide (x≤y))
  have h2:=eC_ p
  rw[List.length_mergeSort,List.length_append]at this
  simp only[List.length_cons,List.length_nil]at this
  unfold atS;omega
theorem rP_ (p:List Pc):(atS p).Pairwise fun x y=>x<y:=ku_ (mz_ _)
theorem fD_ (p:List Pc) (x:Str):x∈atS p↔x∈dE_ p∨x=[42]∨x=[33]:=by
  unfold atS
  rw[iT_,List.mem_mergeSort,List.mem_append]
  simp
theorem atS_c (p:List Pc) (pad:Option Addr) (pcap:Nat) (hp:p.length≤100000000):Tri Tryz.prog 42 #[.slice pad (List.length p) pcap] [] [am_ pad (List.flatMap Pc.cells p)] (fun y:{y:Option Addr×Nat // (atS p).length≤y.2∧y.2≤maxLen∧(y.1=none→y.2=0)}=>.slice y.1.1 (atS p).length y.1.2) (fun _=>[]) (fun y=>[am_ y.1.1 ((atS p).flatMap aV_)]):=by
  refine w_ Tryz.func42 rfl rfl Tryz.ntmps42 rfl fun v0=>?_
  refine Zz 8 ?_
  refine n_ (tn_ p pad pcap (by omega)) rfl m_ zf rfl fun⟨⟨aad,acap⟩,hac,ham⟩=>?_
  dsimp only
  refine n_ (rM_ (dE_ p) aad acap hac (by have:=eC_ p;omega)) rfl m_ zf rfl fun⟨⟨svc,Hcl⟩,hcl⟩=>?_
  dsimp only
  refine x_ dK_ (S_ C_ L_ aY_ rfl rfl rfl rfl rfl rfl fun b1=>?_)
  refine ak_ (news:=List.flatMap aV_ [[42],[33]]) db_ hcl rfl rfl G_ rfl (br_ 0 rfl) (fun u hu=>aA_ cB_ hu) (by simp only[maxLen];(have:=eC_ p;(try simp only[List.length_append,List.length_cons,List.length_nil]);omega)) (by (have:=eC_ p;(try simp only[List.length_append,List.length_cons,List.length_nil]);omega)) rfl fun sv1 Hr1 hr1=>?_
  refine x_ List.perm_append_comm ?_
  have hq1:=zsa hr1
  refine Zz 6 ?_
  refine n_ (om_ hq1 (by (have:=eC_ p;(try simp only[List.length_append,List.length_cons,List.length_nil]);omega))) rfl G_ zt rfl fun⟨Hso1,hs1⟩=>?_
  dsimp only
  have hso1:aD_ 9 1 sv1 (List.length ((((dE_ p)++[[42],[33]])).mergeSort fun x y=>decide (x≤y))) (List.flatMap aV_ ((((dE_ p)++[[42],[33]])).mergeSort fun x y=>decide (x≤y))) Hso1:=by rw[List.length_mergeSort];exact hs1
  refine Zz 2 ?_
  refine x_ (ao_ aa_) (Zz 3 ?_)
  refine n_ (kv_ hso1 (by rw[List.length_mergeSort];(have:=eC_ p;(try simp only[List.length_append,List.length_cons,List.length_nil]);omega))) rfl G_ zt rfl fun⟨⟨svk2,Hk2⟩,hk2⟩=>?_
  dsimp only
  refine Zz 4 ?_
  refine ca_ hk2 j_ fun ad2 cp2 had2 hcad2 hmad2 hzad2=>?_
  exact al_ Tryz.results42 ⟨(ad2,cp2),hcad2,hmad2,hzad2⟩ (dj_ rfl had2) m_ zf
end Go.Proofs.YtkeanlfhghlgiaaGreatDoor
namespace Go.Proofs
open Go.Shelf
def Tryz.sortFc_ren:Go.Shelf.Ren:=⟨fun|6=>46|15=>102|14=>101|28=>134|29=>135|20=>126|21=>127|22=>128|23=>129|24=>130|25=>131|26=>132|27=>133|46=>166|47=>167|48=>168|49=>169|50=>170|57=>187|n=>n,fun|22=>37|24=>24|25=>86|3=>3|39=>131|0=>0|53=>158|55=>160|4=>4|46=>152|45=>151|50=>115|5=>5|9=>9|66=>179|70=>183|76=>195|77=>196|n=>n,fun|n=>n⟩
theorem Tryz.sortFc:Go.Proofs.SlLaysF0.n6 Tryz.prog Tryz.sortFc_ren:={
  mixed:=by kernel_rfl
  f6:=⟨Tryz.f46.name,by decide,Tryz.func46.trans (congrArg some (by kernel_rfl))⟩
  f14:=⟨Tryz.f101.name,by decide,Tryz.func101.trans (congrArg some (by kernel_rfl))⟩
  f15:=Tryz.func102.trans (congrArg some (by kernel_rfl))
  f20:=⟨Tryz.f126.name,by decide,Tryz.func126.trans (congrArg some (by kernel_rfl))⟩
  f21:=⟨Tryz.f127.name,by decide,Tryz.func127.trans (congrArg some (by kernel_rfl))⟩
  f22:=⟨Tryz.f128.name,by decide,Tryz.func128.trans (congrArg some (by kernel_rfl))⟩
  f23:=⟨Tryz.f129.name,by decide,Tryz.func129.trans (congrArg some (by kernel_rfl))⟩
  f24:=⟨Tryz.f130.name,by decide,Tryz.func130.trans (congrArg some (by kernel_rfl))⟩
  f25:=⟨Tryz.f131.name,by decide,Tryz.func131.trans (congrArg some (by kernel_rfl))⟩
  f26:=⟨Tryz.f132.name,by decide,Tryz.func132.trans (congrArg some (by kernel_rfl))⟩
  f27:=⟨Tryz.f133.name,by decide,Tryz.func133.trans (congrArg some (by kernel_rfl))⟩
  f28:=Tryz.func134.trans (congrArg some (by kernel_rfl))
  f29:=Tryz.func135.trans (congrArg some (by kernel_rfl))
  f46:=⟨Tryz.f166.name,by decide,Tryz.func166.trans (congrArg some (by kernel_rfl))⟩
  f47:=Tryz.func167.trans (congrArg some (by kernel_rfl))
  f48:=Tryz.func168.trans (congrArg some (by kernel_rfl))
  f49:=⟨Tryz.f169.name,by decide,Tryz.func169.trans (congrArg some (by kernel_rfl))⟩
  f50:=⟨Tryz.f170.name,by decide,Tryz.func170.trans (congrArg some (by kernel_rfl))⟩
  f57:=⟨Tryz.f187.name,by decide,Tryz.func187.trans (congrArg some (by kernel_rfl))⟩
  t0:=Tryz.underlying0
  a0:=Tryz.isAgg0
  z0:=Tryz.sizeOf0
  v0:=Tryz.zeroValue0
  t3:=Tryz.underlying3
  a3:=Tryz.isAgg3
  z3:=Tryz.sizeOf3
  v3:=Tryz.zeroValue3
  t4:=Tryz.underlying4
  a4:=Tryz.isAgg4
  z4:=Tryz.sizeOf4
  v4:=Tryz.zeroValue4
  t5:=Tryz.underlying5
  a5:=Tryz.isAgg5
  z5:=Tryz.sizeOf5
  v5:=Tryz.zeroValue5
  t9:=Tryz.underlying9
  a9:=Tryz.isAgg9
  z9:=Tryz.sizeOf9
  v9:=Tryz.zeroValue9
  t22:=Tryz.underlying37
  a22:=Tryz.isAgg37
  z22:=Tryz.sizeOf37
  v22:=Tryz.zeroValue37
  t25:=Tryz.underlying86
  a25:=Tryz.isAgg86
  z25:=Tryz.sizeOf86
  v25:=Tryz.zeroValue86
  t39:=Tryz.underlying131
  a39:=Tryz.isAgg131
  z39:=Tryz.sizeOf131
  v39:=Tryz.zeroValue131
  t45:=Tryz.underlying151
  a45:=Tryz.isAgg151
  z45:=Tryz.sizeOf151
  v45:=Tryz.zeroValue151
  t46:=Tryz.underlying152
  a46:=Tryz.isAgg152
  z46:=Tryz.sizeOf152
  v46:=Tryz.zeroValue152
  t50:=Tryz.underlying115
  a50:=Tryz.isAgg115
  z50:=Tryz.sizeOf115
  v50:=Tryz.zeroValue115
  t53:=Tryz.underlying158
  a53:=Tryz.isAgg158
  z53:=Tryz.sizeOf158
  v53:=Tryz.zeroValue158
  t55:=Tryz.underlying160
  a55:=Tryz.isAgg160
  z55:=Tryz.sizeOf160
  v55:=Tryz.zeroValue160
  t66:=Tryz.underlying179
  a66:=Tryz.isAgg179
  z66:=Tryz.sizeOf179
  v66:=Tryz.zeroValue179
  t70:=Tryz.underlying183
  a70:=Tryz.isAgg183
  z70:=Tryz.sizeOf183
  v70:=Tryz.zeroValue183
  t76:=Tryz.underlying195
  a76:=Tryz.isAgg195
  z76:=Tryz.sizeOf195
  v76:=Tryz.zeroValue195
  t77:=Tryz.underlying196
  a77:=Tryz.isAgg196
  z77:=Tryz.sizeOf196
  v77:=Tryz.zeroValue196 }
end Go.Proofs
namespace Go.Proofs.YtkeanlfhghlgiaaGreatDoor
open Go Go.Sx Go.Proofs
attribute [local irreducible] Code.wp wpList wpAnyH
open Go.Vs
instance:Inhabited Fc:=⟨⟨0,[],[],[],0,0⟩⟩
theorem kx_ (x y:Int):Fn0 Tryz.prog 104 #[.int .i64 x,.int .i64 y] (.int .i64 (Lib.compareInt x y)) :=
  di_ (callable Tryz.func104 rfl rfl) fun v _ _=>(Tryz.cmp_Compare_int x y v.w).mono (by rintro e w' ⟨rfl,rfl⟩;exact⟨rfl,⟨rfl,rfl,rfl,Nat.le_refl _,fun _ _=>rfl⟩,.inr (Nat.le_refl _)⟩)
theorem kw_ (x y:Str):Fn0 Tryz.prog 105 #[str x,str y] (.int .i64 (Lib.compareBytes x y)) :=
  di_ (callable Tryz.func105 rfl rfl) fun v _ _=>(Tryz.strings_Compare ⟨x.toArray⟩ ⟨y.toArray⟩ v.w).mono (by rintro e w' ⟨rfl,rfl⟩;exact⟨rfl,⟨rfl,rfl,rfl,Nat.le_refl _,fun _ _=>rfl⟩,.inr (Nat.le_refl _)⟩)
def orF:List Int→Int
  | []=>0
  | x::l=>if x=0 then orF l else x
theorem qO_:∀ {l:List Int} {i:Nat} {x:Int},(∀ y∈l.take i,y=0)→l[i]? = some x→x≠0→orF l=x
  | [],_,_,_,h,_=>by simp at h
  | y::l,0,x,_,h,hx=>by simp at h;subst h;simp[orF,hx]
  | y::l,i+1,x,h0,h,hx=>by
    have hy:y=0:=h0 y (by simp)
    rw[orF,if_pos hy]
    exact qO_ (i:=i) (fun z hz=>h0 z (by rw[List.take_succ_cons];exact List.mem_cons_of_mem _ hz)) (by simpa using h) hx
theorem mM_:∀ {l:List Int},(∀ y∈l,y=0)→orF l=0
  | [],_=>rfl
  | y::l,h=>by rw[orF,if_pos (h y (by simp))];exact mM_ fun z hz=>h z (by simp[hz])
theorem cI_neg (x y:Int):Lib.compareInt x y<0↔x<y:=by unfold Lib.compareInt;(repeat' split)<;>omega
theorem tl_ (x y:Int):Lib.compareInt x y=0↔x=y:=by unfold Lib.compareInt;(repeat' split)<;>omega
theorem rN_:∀ (x y:Str),Lib.compareBytes x y<0↔x<y
 | [],[]=>by simp[Lib.compareBytes]
 | [],b::y=>by simp[Lib.compareBytes]
 | a::x,[]=>by simp[Lib.compareBytes]
 | a::x,b::y=>by
   rw[Lib.compareBytes,List.cons_lt_cons_iff]
   by_cases h1:a<b
   · rw[if_pos h1];simp[h1]
   · by_cases h2:b<a
     · rw[if_neg h1,if_pos h2]
       have:a≠b:=fun e=>by subst e;exact h1 h2
       simp[h1,this]
     · have e:a=b:=UInt8.le_antisymm (UInt8.not_lt.1 h2) (UInt8.not_lt.1 h1)
       rw[if_neg h1,if_neg h2,rN_ x y];simp[e]
theorem oK_:∀ (x y:Str),Lib.compareBytes x y=0↔x=y
 | [],[]=>by simp[Lib.compareBytes]
 | [],b::y=>by simp[Lib.compareBytes]
 | a::x,[]=>by simp[Lib.compareBytes]
 | a::x,b::y=>by
   rw[Lib.compareBytes]
   by_cases h1:a<b
   · rw[if_pos h1]
     have:a≠b:=fun e=>by subst e;exact absurd h1 (UInt8.lt_irrefl a)
     simp[this]
   · by_cases h2:b<a
     · rw[if_neg h1,if_pos h2]
       have:a≠b:=fun e=>by subst e;exact h1 h2
       simp[this]
     · have e:a=b:=UInt8.le_antisymm (UInt8.not_lt.1 h2) (UInt8.not_lt.1 h1)
       rw[if_neg h1,if_neg h2,oK_ x y];simp[e]
def jc_ (x y:Fc):Int:=orF [Lib.compareInt x.kind y.kind,Lib.compareBytes x.a y.a,Lib.compareBytes x.b y.b,Lib.compareBytes x.r y.r,Lib.compareInt x.lo y.lo,Lib.compareInt x.hi y.hi]
theorem hl_ (x:Int) (l:List Int):orF (x::l)<0↔x<0∨x=0∧orF l<0:=by
  rw[orF];split<;>omega
theorem rL_ (x y:Fc):jc_ x y<0↔x.lt y:=by
  unfold jc_ Fc.lt
  rw[hl_,hl_,hl_,hl_,hl_,hl_]
  simp only[cI_neg,tl_,rN_,oK_,orF,Int.lt_irrefl,and_false,or_false]
theorem orF_c (l:List Int) (ad:Option Addr) (cap:Nat) (hl:l.length≤1000):Tri Tryz.prog 103 #[.slice ad (List.length l) cap] [] [am_ ad (List.flatMap V_ l)] (fun _:Unit=>.int .i64 (orF l)) (fun _=>[]) (fun _=>[]):=by
 refine w_ Tryz.func103 rfl rfl Tryz.ntmps103 rfl fun v0=>?_
 refine Zz 19 ?_
 refine U_ (ι:={y:Nat // y≤l.length∧∀ z∈l.take y,z=0}) (fun y=>[(3,.int .i64 0),(6,.slice ad (List.length l) cap),(7,.int .i64 (List.length l:Int)),(8,.int .i64 (y.1:Int))]) (fun y=>([])) (fun y=>[am_ ad (List.flatMap V_ l)]) (fun y=>l.length - y.1) ⟨(0:Nat),by simp,by simp⟩ zl m_ zh ?_
 rintro ⟨i,hi,h0⟩
 dsimp only at hi h0 ⊢
 refine Zi 2 (fun hr1=>?_) fun hr1=>?_
 ·refine Zz 13 ?_
  exact al_ Tryz.results103 () (cu_ rfl (mM_ fun y hy=>h0 y (by rw[List.take_of_length_le (by omega)];exact hy)).symm) m_ zt
 obtain⟨hlx1,x1,hx1,hmx1⟩:=zge (show i<List.length l by omega)
 refine Zi 19 (fun hr2=>?_) fun hr2=>?_
 ·refine Zz 10 ?_
  exact z_ ⟨i+1,hlx1,fun y hy=>by rw[List.take_add_one,hx1]at hy;simp only[Option.toList_some,List.mem_append,List.mem_singleton]at hy;rcases hy with hy|rfl;exact h0 y hy;omega⟩ (by dsimp only;omega) zl m_ zh
 refine Zz 10 ?_
 exact al_ Tryz.results103 () (cu_ rfl (qO_ h0 hx1 (by assumption)).symm) m_ zt
theorem cmpF_c (x y:Fc):Fn0 Tryz.prog 47 #[Fc.val x,Fc.val y] (.int .i64 (jc_ x y)):=by
  refine w_ Tryz.func47 rfl rfl Tryz.ntmps47 rfl fun v0=>?_
  refine Zz 2 ?_
  refine ay_ rfl rfl fun b1=>ay_ rfl rfl fun b2=>Zz 5 ?_
  refine s_ 9 [0,1,2,3,5,6,7,8,10,11,12,13,15,16,17,18,20,21,22,23,25,26,27,28] zk zs (Zz 25 ?_)
  refine l_ 4 rfl zk (n_ (kx_ x.kind y.kind) rfl m_ zt rfl fun _=>Zz 3 ?_)
  refine l_ 9 rfl zk (n_ (kw_ x.a y.a) rfl m_ zt rfl fun _=>Zz 3 ?_)
  refine l_ 14 rfl zk (n_ (kw_ x.b y.b) rfl m_ zt rfl fun _=>Zz 3 ?_)
  refine l_ 19 rfl zk (n_ (kw_ x.r y.r) rfl m_ zt rfl fun _=>Zz 3 ?_)
  refine l_ 24 rfl zk (n_ (kx_ x.lo y.lo) rfl m_ zt rfl fun _=>Zz 3 ?_)
  refine l_ 29 rfl zk (n_ (kx_ x.hi y.hi) rfl m_ zt rfl fun _=>Zz 3 ?_)
  refine l_ 30 rfl zk (S_ f_ p_ D_ rfl rfl rfl rfl rfl rfl fun b3=>?_)
  refine aI_ (List.flatMap V_ [(Lib.compareInt x.kind y.kind),(Lib.compareBytes x.a y.a),(Lib.compareBytes x.b y.b),(Lib.compareBytes x.r y.r),(Lib.compareInt x.lo y.lo),(Lib.compareInt x.hi y.hi)]) d_ rfl ?_
  refine Zz 3 ?_
  refine l_ 31 rfl zk (n_ (orF_c [(Lib.compareInt x.kind y.kind),(Lib.compareBytes x.a y.a),(Lib.compareBytes x.b y.b),(Lib.compareBytes x.r y.r),(Lib.compareInt x.lo y.lo),(Lib.compareInt x.hi y.hi)] (some ⟨b3,0,none⟩) 6 (by simp)) rfl m_ zf rfl fun _=>Zz 3 ?_)
  refine s_ 0 [32] zk zs (Zz 5 ?_)
  exact al_ Tryz.results47 () (cu_ rfl (by rfl)) m_ zt
end Go.Proofs.YtkeanlfhghlgiaaGreatDoor
namespace Go.Proofs.YtkeanlfhghlgiaaGreatDoor
open Go Go.Sx Go.Proofs
attribute [local irreducible] Code.wp wpList wpAnyH
open Go.Vs
structure Cl where
  atoms:List Str
  aad:Option Addr
  acap:Nat
  facts:List Fc
  fad:Option Addr
  fcap:Nat
def Cl.cells (c:Cl):List Value:=[.slice c.aad c.atoms.length c.acap,.slice c.fad c.facts.length c.fcap]
theorem Cl.cells_len (c:Cl):c.cells.length=2:=rfl
def Cl.val (c:Cl):Value:=.agg c.cells.toArray
def Cl.row (c:Cl):List Fct:=[am_ c.aad (List.flatMap aV_ c.atoms),am_ c.fad (List.flatMap Fc.cells c.facts)]
def Cl.no:Cl:=Cl.mk [] none 0 [] none 0
structure Cl.ok (c:Cl):Prop where
  al:c.atoms.length≤c.acap
  am:c.acap≤maxLen
  az:c.aad=none→c.acap=0
  fl:c.facts.length≤c.fcap
  fm:c.fcap≤maxLen
  fz:c.fad=none→c.fcap=0
theorem Cl.no_ok:Cl.no.ok:=⟨Nat.le_refl _,by simp[Cl.no],fun _=>rfl,Nat.le_refl _,by simp[Cl.no],fun _=>rfl⟩
theorem st_ {s:Str} (h:dt_ s=true):s≠[]:=fun e=>by subst e;revert h;decide
theorem pi_ {s:Str} (h:ce_ s=true):s≠[]:=fun e=>by subst e;revert h;decide
theorem hi_ {p:Pc} (h:p.valid=true):p.vok:=by
 unfold Pc.valid at h
 split at h
 ·simp at h
 rename_i h1
 split at h
 ·simp at h
 rename_i h2
 split at h
 ·simp at h
 have hk:p.kind=1∨p.kind=2∨p.kind=3∨p.kind=4∨p.kind=5∨p.kind=6∨p.kind=7∨p.kind=8∨p.kind=9:=by omega
 have hn:∀ {b:Bool} {s:Str},ci_ b s dt_=true→b=true→s≠[]:=fun h1 h2=>by
   subst h2;simp[ci_]at h1;exact st_ h1
 have hn':∀ {b:Bool} {s:Str},ci_ b s ce_=true→b=true→s≠[]:=fun h1 h2=>by
   subst h2;simp[ci_]at h1;exact pi_ h1
 simp only[Bool.and_eq_true]at h
 obtain⟨⟨⟨⟨⟨_,_⟩,_⟩,hr⟩,hs⟩,ht⟩:=h
 unfold Pc.rok at *
 refine⟨⟨fun q=>?_,fun q=>?_,fun q=>?_⟩,fun q=>?_⟩
 ·rcases q with q|q|q|q|q|q|q<;>rw[q]at hr
  ·exact hn hr (by decide)
  ·exact hn hr (by decide)
  ·exact hn hr (by decide)
  ·exact hn' hr (by decide)
  ·exact hn hr (by decide)
  ·exact hn hr (by decide)
  exact hn' hr (by decide)
 ·rw[q]at hs ht;exact⟨hn hs (by decide),hn ht (by decide)⟩
 ·rw[q]at ht;exact hn ht (by decide)
 rcases q with q|q<;>rw[q]at h2<;>have:(nus 8).numbers=true∧(nus 9).numbers=true:=by decide
 all_goals simp only[this.1,this.2,true_and]at h2;omega
theorem nr_ {p:List Pc} (h:cP_ p=0):p.length≤16384∧p.all Pc.valid=true:=by
 unfold cP_ at h
 split at h
 ·simp at h
 split at h
 ·exact⟨by omega,by assumption⟩
 simp at h
theorem lA_ {p:List Pc} (h:cP_ p=0):∀ x∈p,x.vok:=fun x hx=>hi_ (List.all_eq_true.1 (nr_ h).2 x hx)
section
variable {P:Program} {N:Nf} {v0:Vw} {H0:Hp} {fr:Fr} {H F Ha Hu Ho Hi Hr Hm Hs:Hp} {Γ:List Fct}
theorem ds_ {fn:Func} {t s b n:Nat} {ty T:TypeId} {us:List Value} {u:Value} (i:Nat) (hr:fn.results=#[.cell t ty,.tmp s]) (ha:∀ w,(isAgg ty).run P w=.ok true w) (hs:∀ w,(sizeOf ty).run P w=.ok n w) (hn:us.length=n) (hx:Fr.get fr t=some (zp_ b 0)) (hu:Fr.get fr s=some u)
    (hi:H[i]? = some (b,.cells us.toArray T (0,0))) (a:Act) (v:Vw) (h1:Fr.sat N fr a) (h2:v.sat H):(results fn a.tmps).run P v.w=.ok (.tuple #[.agg us.toArray,u]) v.w:=by
  have e:=h1.val t _ hx
  have e2:=h1.val s _ hu
  have hl:=dl_ (t:=ty) (w:=v.w) (b:=b) (off:=0) ha hs hn (fun j y hj=>by rw[Nat.zero_add,gP_ h2 hi];simpa using hj)
  simp[results,hr,e,e2,asAddr,hl]
theorem nN_ (h:H.Perm ((Ha++(Hu++(Ho++(Hi++(Hr++(Hm++Hs))))))++F)):H.Perm (((Ha++(Hu++(Ho++(Hi++(Hr++Hm)))))++Hs)++F):=by simpa [List.append_assoc] using h
theorem lN_:(((Ha++(Hu++(Ho++(Hi++(Hr++Hm)))))++Hs)++F).Perm (Ha++(Hu++(Ho++(Hi++(Hr++(Hm++(Hs++F))))))):=by simp[List.append_assoc]
theorem sy_ {a b c:Nat×Obj} {Hq:Hp}:((Ha++(Hu++(Ho++(Hi++(Hr++(Hm++(a::b::([c]++Hq))))))))++F).Perm (Ha++(Hu++(Ho++(Hi++(Hr++(Hm++(a::b::([c]++(Hq++F))))))))):=by simp[List.append_assoc]
end
theorem eP_:iI_ Tryz.prog 39 [(0,1),(1,1)] [.slice none 0 0,.slice none 0 0]:=⟨_,Tryz.zeroValue39,cD_,fun w=>by simp[tw_,Tryz.sizeOf37]⟩
end Go.Proofs.YtkeanlfhghlgiaaGreatDoor
namespace Go.Proofs.YtkeanlfhghlgiaaGreatDoor
open Go Go.Sx Go.Proofs
attribute [local irreducible] Code.wp wpList wpAnyH
open Go.Vs Go.Shelf Go.RowKit
theorem mp_ {v v':Vw} (h:v.to [] v' []) (hs:¬ v.sl):∃ q os,v'.w=Sort.grow (v.w.drewN q) os:=by
 have hd:v.w.drawn≤v'.w.drawn:=h.dr.resolve_left hs
 refine⟨v'.w.drawn - v.w.drawn,v'.w.heap.extract v.w.heap.size v'.w.heap.size,?_⟩
 have hh:v'.w.heap=v.w.heap++v'.w.heap.extract v.w.heap.size v'.w.heap.size:=by
   apply Array.ext_getElem?
   intro i
   have hsz:=h.size
   rw[Array.getElem?_append]
   split
   · rename_i hi;exact h.block i hi (by simp)
   · rename_i hi
     rw[Array.getElem?_extract]
     split
     · congr 1;omega
     · rw[Array.getElem?_eq_none (by omega)]
 have e1:=h.os;have e2:=h.tape;have e3:=h.output
 obtain⟨im',⟨hp,tp,dn,os',ou⟩,sl'⟩:=v'
 simp only at e1 e2 e3 hh hd
 simp only[Sort.grow,World.drewN,World.mk.injEq]
 exact⟨hh,e2,by omega,e1,e3⟩
theorem ti_ (blk off size:Nat) (w:World):CmpLays Tryz.prog 47 #[] Fc.cells 6 jc_ blk off size w:=fun m os dk _ x y=>by
  have h:=(cmpF_c x y).run ⟨fun _=>False,sortWorldK Fc.cells 6 w blk off m dk os,False⟩ ⟨by simp,by simp,fun _ h=>h.elim⟩ trivial
  refine h.mono ?_
  rintro e w' ⟨_,v',rfl,rfl,_,_,ht⟩
  obtain⟨q,os',hw⟩:=mp_ ht (fun h=>h)
  exact⟨rfl,q,os',hw⟩
theorem ltF (x y:Fc):ltOf jc_ x y=decide (x.lt y):=by unfold ltOf;rw[decide_eq_decide];exact rL_ x y
theorem swoF:Sort.SWO (ltOf jc_) where
 irrefl x:=by rw[ltF];exact decide_eq_false x.lt_irr
 trans x y z h1 h2:=by rw[ltF,decide_eq_true_eq]at *;exact Fc.lt_trans h1 h2
 ntrans x y z h1 h2:=by
   rw[ltF,decide_eq_false_iff_not]at *
   intro h
   rcases Fc.lt_tri x y with g|g|g
   · exact h1 g
   · subst g;exact h2 h
   · exact h2 (Fc.lt_trans g h)
theorem totF (x y:Fc) (h1:ltOf jc_ x y=false) (h2:ltOf jc_ y x=false):x=y:=by
 rw[ltF,decide_eq_false_iff_not]at h1 h2
 rcases Fc.lt_tri x y with g|g|g
 ·exact absurd g h1
 ·exact g
 exact absurd g h2
theorem kl_ (xs:List Fc):Sort.flatK Fc.cells 6 xs.toArray=(xs.flatMap Fc.cells).toArray:=by
 apply Array.ext_getElem?
 intro t
 have e0:(xs.flatMap Fc.cells).toArray[t]? = (xs.flatMap Fc.cells)[t]? := by simp
 rw[e0]
 by_cases ht:t<xs.length*6
 ·have hd:t / 6<xs.length:=by omega
  have:=mb_ Fc.cells 6 Fc.cells_len xs (t / 6) (t%6) xs[t / 6] (List.getElem?_eq_getElem hd) (Nat.mod_lt _ (by decide))
  rw[show t / 6*6+t%6=t by omega]at this
  rw[this]
  simp only[Sort.flatK,Array.getElem?_map,List.size_toArray]
  rw[Array.getElem?_eq_getElem (by simpa using ht)]
  simp only[Array.getElem_range,Option.map_some]
  rw[getElem!_pos xs.toArray (t / 6) (by simpa using hd)]
  have hl:t%6<(Fc.cells xs[t / 6]).length:=by rw[Fc.cells_len];omega
  rw[List.getElem?_eq_getElem hl]
  simp only[List.getElem_toArray]
  rw[getElem!_pos (Fc.cells xs[t / 6]) (t%6) hl]
 rw[List.getElem?_eq_none (by rw[cH_ Fc.cells 6 Fc.cells_len];omega),Array.getElem?_eq_none (by simp[Sort.flatK];omega)]
theorem ms_ {P:Program} {Γ:List Fct} {f:FuncId} {args:Array Value} {r:Value} {g:Nat} {cur:Array Value} {T:TypeId} {d:Array Value} (hc:dG_ P f)
    (h:∀ v:Vw,v.sat [(g,.cells cur T (0,0))]→Calls P f args v.w fun e w'=>e=.returned r∧∃ n os,w'=Sort.grow (Sort.putRow id (Sort.ahead v.w n) g 0 d) os) :
    Tri P f args [(g,.cells cur T (0,0))] Γ (fun _:Unit=>r) (fun _=>[(g,.cells (Sort.putCells id 0 d cur) T (0,0))]) (fun _=>[]) :=
  ⟨hc,fun v h1 _=>(h v h1).mono fun e w' ⟨he,n,os,hw⟩=>by
    have hg:=(h1.own _ List.mem_cons_self)
    have hlt:g<v.w.heap.size:=(Array.getElem?_eq_some_iff.1 hg.1).1
    have hb:∀ b,b<v.w.heap.size→w'.heap[b]? = if b=g then some (.cells (Sort.putCells id 0 d cur) T (0,0)) else v.w.heap[b]? := fun b hb=>by
      rw[hw]
      simp only[Sort.grow,Sort.putRow,Sort.mapBlock,Sort.ahead]
      rw[Array.getElem?_append_left (by simpa using hb),Array.getElem?_modify]
      by_cases e:b=g
      · subst e
        simp only[if_true,hg.1,Option.map_some,Sort.onCells]
      · rw[if_neg (fun q=>e q.symm),if_neg e]
    have hsz:v.w.heap.size≤w'.heap.size:=by rw[hw];simp[Sort.grow,Sort.putRow,Sort.mapBlock,Sort.ahead]
    refine⟨(),⟨v.im,w',v.sl⟩,he,rfl,⟨fun p hp=>?_,by simp,fun b hbb=>Nat.lt_of_lt_of_le (h1.lt b hbb) hsz⟩,trivial,⟨by rw[hw];rfl,by rw[hw];rfl,by rw[hw];rfl,hsz,fun b hbb hn=>?_,fun _ h=>h,fun _ h=>.inl h,fun b hm=>.inl (by simpa using hm),rfl,.inr (by rw[hw];exact Nat.le_add_right _ _)⟩⟩
    · simp only[List.mem_singleton]at hp
      subst hp
      exact⟨by show w'.heap[g]? = _;rw[hb g hlt,if_pos rfl],hg.2⟩
    · have hn':b≠g:=by simpa using hn
      show w'.heap[b]? = _
      rw[hb b hbb,if_neg hn']⟩
theorem pe_ {cur:Array Value} {d:List Value} (hs:d.length≤cur.size):(Sort.putCells id 0 d.toArray cur).toList.take d.length=d:=by
 apply List.ext_getElem?
 intro j
 rw[List.getElem?_take]
 split
 ·rename_i hj
  simp only[Sort.putCells,Array.getElem?_toList,Array.getElem?_mapIdx]
  rw[Array.getElem?_eq_getElem (by omega)]
  simp only[Option.map_some,Nat.zero_le,true_and,Nat.zero_add,List.size_toArray,hj,if_true,Nat.sub_zero]
  rw[List.getElem?_eq_getElem hj,getElem!_pos d.toArray j (by simpa using hj)]
  rfl
 rename_i hj
 rw[List.getElem?_eq_none (by omega)]
theorem pf_ {cur d:Array Value}:(Sort.putCells id 0 d cur).size=cur.size:=by simp[Sort.putCells]
theorem holdsV {g:Nat} {cur:Array Value} {T:TypeId} {xs:List Value} {v:Vw} (hs:v.sat [(g,.cells cur T (0,0))]) (ht:cur.toList.take xs.length=xs):Sort.Holds id v.w g 0 xs.toArray:=by
 intro j hj
 have hb:=(hs.own _ List.mem_cons_self).1
 simp only[List.size_toArray]at hj
 have hc:cur[j]? = some xs[j]:=by
   have:=congrArg (fun l=>l[j]?) ht
   simp only[List.getElem?_take,hj,if_true,Array.getElem?_toList]at this
   rw[this,List.getElem?_eq_getElem hj]
 refine⟨?_,?_⟩
 ·simp only[World.cell?,Nat.zero_add,hb,Option.isSome_none,Bool.false_eq_true,if_false]
  rw[hc,getElem!_pos xs.toArray j (by simpa using hj)]
  rfl
 simp[World.frozen?,hb]
def hC_ (xs:List Fc):List Fc:=xs.mergeSort fun x y=>!(ltOf jc_) y x
theorem fR_ (xs:List Fc):(hC_ xs).length=xs.length:=List.length_mergeSort _
theorem qj_ (xs:List Fc) (x:Fc):x∈hC_ xs↔x∈xs:=List.mem_mergeSort
theorem qi_ {xs:List Fc} (h:xs.Nodup):Srt (hC_ xs):=by
 have h1:(hC_ xs).Pairwise fun x y=>(!(ltOf jc_) y x)=true:=List.pairwise_mergeSort
   (fun a b c h1 h2=>by simp only[Bool.not_eq_true']at *;exact swoF.ntrans c b a h2 h1)
   (fun a b=>by
     simp only[Bool.or_eq_true,Bool.not_eq_true']
     rw[ltF,ltF,decide_eq_false_iff_not,decide_eq_false_iff_not]
     rcases Fc.lt_tri a b with g|g|g
     · exact .inl fun q=>Fc.lt_irr a (Fc.lt_trans g q)
     · subst g;exact .inl a.lt_irr
     · exact .inr fun q=>Fc.lt_irr a (Fc.lt_trans q g)) xs
 have h2:(hC_ xs).Nodup:=(List.mergeSort_perm xs _).nodup_iff.2 h
 refine (h1.and h2).imp ?_
 rintro x y ⟨a,b⟩
 simp only[Bool.not_eq_true',ltF,decide_eq_false_iff_not]at a
 rcases Fc.lt_tri x y with g|g|g
 ·exact g
 ·exact absurd g b
 exact absurd g a
theorem sl_ {sv:Value} {xs:List Fc} {Hr:Hp} (h:aD_ 24 6 sv xs.length (xs.flatMap Fc.cells) Hr) (hl:xs.length≤1000000000000) :
    Tri Tryz.prog 46 #[sv,.func (.func 47) #[] #[]] Hr [] (fun _:{y:Hp // aD_ 24 6 sv (hC_ xs).length ((hC_ xs).flatMap Fc.cells) y}=>.tuple #[]) (fun y=>y.1) (fun _=>[]):=by
  rcases h.2 with⟨rfl,h2,rfl⟩|⟨g,cap,cur,rfl,rfl,h3,h4,h5,h6⟩
  · obtain rfl:xs=[]:=List.eq_nil_of_length_eq_zero h2
    have T:=di_ (P:=Tryz.prog) (H:=[]) (Γ:=[]) (callable Tryz.func46 rfl rfl) (fun v _ _=>(AnyF.slices_SortFunc_none Tryz.sortFc none 0 (.func (.func 47) #[] #[]) v.w).mono (by rintro e w' ⟨rfl,rfl⟩;exact⟨rfl,⟨rfl,rfl,rfl,Nat.le_refl _,fun _ _=>rfl⟩,.inr (Nat.le_refl _)⟩))
    exact⟨T.callable,fun v a b=>(T.run v a b).mono (by rintro e w' ⟨x,v',e1,e2,e3,e4,e5⟩;exact⟨⟨[],by simpa [hC_] using aD_.nil _ _⟩,v',e1,e2,e3,e4,e5⟩)⟩
  · have hx:(xs.flatMap Fc.cells).length=xs.length*6:=cH_ Fc.cells 6 Fc.cells_len xs
    have T:=ms_ (P:=Tryz.prog) (Γ:=[]) (r:=.tuple #[]) (g:=g) (cur:=cur) (T:=24) (d:=((hC_ xs).flatMap Fc.cells).toArray) (f:=46) (args:=#[.slice (some ⟨g,0,none⟩) xs.length cap,.func (.func 47) #[] #[]]) (callable Tryz.func46 rfl rfl) (fun v hs=>by
      have hh:=AnyQ.slices_SortFunc_total Tryz.sortFc 6 aX_ A_ Fc.cells Fc.cells_len (fun x u hu=>List.all_eq_true.1 x.cells_one u hu) jc_ swoF 47 #[] g 0 cap xs.toArray v.w (fun args w=>(callable Tryz.func47 rfl rfl) args w) (ti_ g 0 _ v.w) (by unfold Sort.HoldsK;rw[kl_];exact holdsV hs (by rw[hx];exact h6)) (Array.getElem?_eq_some_iff.1 (hs.own _ List.mem_cons_self).1).1 (by simp;omega) totF
      refine hh.mono ?_
      rintro e w' ⟨rfl,n,os,rfl⟩
      refine⟨rfl,n,os,?_⟩
      unfold sortWorldK Sort.putRowK
      rw[show ((xs.toArray.toList.mergeSort fun x y=>!(ltOf jc_) y x))=hC_ xs from rfl,kl_])
    refine⟨T.callable,fun v a b=>(T.run v a b).mono ?_⟩
    rintro e w' ⟨x,v',e1,e2,e3,e4,e5⟩
    have hy:((hC_ xs).flatMap Fc.cells).length=xs.length*6:=by rw[cH_ Fc.cells 6 Fc.cells_len,fR_]
    refine⟨⟨_,by rw[hy,fR_],.inr ⟨g,cap,_,by rw[fR_],rfl,by rw[fR_];exact h3,h4,by rw[pf_];exact h5,?_⟩⟩,v',e1,e2,e3,e4,e5⟩
    have:=pe_ (cur:=cur) (d:=(hC_ xs).flatMap Fc.cells) (by rw[hy,h5];omega)
    rw[hy]at this
    rw[fR_];exact this
end Go.Proofs.YtkeanlfhghlgiaaGreatDoor
namespace Go.Proofs.YtkeanlfhghlgiaaGreatDoor
open Go Go.Sx Go.Proofs
attribute [local irreducible] Code.wp wpList wpAnyH
open Go.Vs
section
variable {P:Program} {N:Nf} {v0:Vw} {H0:Hp} {fr:Fr} {H F:Hp} {Γ:List Fct} {K D:Type} [DecidableEq K]
theorem kk_:∀ (B:Hp) {v:Vw},aj_ (B.map fun p=>ek_ p.1 p.2) v→∀ p∈B,v.im p.1∧v.w.heap[p.1]? = some p.2
 | [],_,_,_,h=>by simp at h
 | q::B,v,h,p,hp=>by
   rcases List.mem_cons.1 hp with rfl|hp
   · exact h.1
   · exact kk_ B h.2 p hp
theorem qS_ {k:Act→World→Prop} {kv:K→Value} {cells:D→List Value} {kt e:TypeId} {sz mb:Nat} {l:List (K×D)} {Hm:Hp} (hK:KeyT P kt kv) (hm:aS_ kv cells e sz l mb Hm) (hH:H.Perm (Hm++F))
    (h:∀ adr,Ok N v0 H0 k fr F (mlF P kt kv cells mb l adr::Γ)):Ok N v0 H0 k fr H Γ:=by
  obtain⟨adr,ha⟩:=hm.lent hK
  refine ib_ Hm hH (gQ_ (fun v _ hv=>?_) (h adr))
  rw[eq_]at hv
  refine⟨ha v fun p hp=>?_,hv.2⟩
  have:=hv.1
  exact kk_ Hm.reverse (by rw[List.map_reverse]at *;exact this) p (List.mem_reverse.2 hp)
theorem fi_ {tF:TypeId} {E:Emt P tF} {nw fm:List Fc} {Hs:Hp} {ty t kt et:TypeId} {x:Operand} (hS:E.St nw fm Hs) (hu:∀ w,(underlying t).run P w=.ok (.map kt et) w) (hx:Fr.ev fr x=some (.map (some E.kb))) (hp:H.Perm (Hs++F)) :
    Yld P N fr H Γ (.call ⟨.builtin .len,#[x],#[t]⟩) ty (.int .i64 ((E.kof nw).length:Int)):=by
  obtain⟨es,c,g1,g2⟩:=E.known hS
  exact jz_ g2 hu hx fun v h _=>jQ_ hp g1 h
end
def nV_ (x:Ix) (n:Nat):Prop:=x.above.length≤n∧x.under.length≤n∧x.frm.length≤n∧x.into.length≤n∧x.ranges.length≤n∧x.firms.length≤n
theorem rn_:nV_ Ix.nil 0:=by simp[nV_,Ix.nil]
theorem ig_ {x:Ix} {n:Nat} (h:nV_ x n) (b:Bool) (f:Fc):nV_ (x.add b f) (n+1):=by
 obtain⟨h1,h2,h3,h4,h5,h6⟩:=h
 unfold Ix.add nV_
 split
 ·simp;omega
 split
 ·simp;omega
 split
 ·cases b<;>simp<;>omega
 omega
theorem mY_ {x:Ix} {n:Nat} (h:nV_ x n) (hn:n≤1000000000):(∀ k,(lat x.above k).length≤1000000000∧(lat x.under k).length≤1000000000)∧(∀ k,(lat x.frm k).length≤1000000000∧(lat x.into k).length≤1000000000∧(lat x.ranges k).length≤1000000000∧(lat x.firms k).length≤1000000000):=by
 obtain⟨h1,h2,h3,h4,h5,h6⟩:=h
 refine⟨fun k=>⟨?_,?_⟩,fun k=>⟨?_,?_,?_,?_⟩⟩
 ·have:=bb_ x.above k;omega
 ·have:=bb_ x.under k;omega
 ·have:=bb_ x.frm k;omega
 ·have:=bb_ x.into k;omega
 ·have:=bb_ x.ranges k;omega
 have:=bb_ x.firms k;omega
theorem sq_ (B:EngB) (E:Emt Tryz.prog 24) (A0:EngA) (pm:List (Ky×Pc)) (x:Ix) (f:Fc) (nw fm:List Fc) (Hs:Hp) (hS:E.St nw fm Hs) (Ha Hu Ho Hi Hr Hm:Hp) (hI:IxO 9 24 B x ⟨Ha,Hu,Ho,Hi,Hr,Hm⟩) (hpl:∀ k,(lat pm k).length≤1000000000) (hxl:∀ k,(lat x.above k).length≤1000000000∧(lat x.under k).length≤1000000000) (hyl:∀ k,(lat x.frm k).length≤1000000000∧(lat x.into k).length≤1000000000∧(lat x.ranges k).length≤1000000000∧(lat x.firms k).length≤1000000000) (hf:f.kind=3→-1099511627776≤f.lo∧f.lo≤f.hi∧f.hi≤1099511627776) (hq:f.kind=3→∀ y∈lat pm (Ky.mk 9 f.r []),-1099511627776≤y.lo∧y.lo≤y.hi∧y.hi≤1099511627776) (hk:f.kind=1):∀ (j:Nat) {fv:Value},(rlV B.g 1)[j]? = some fv→∃ n:Nat,fv=.func (.func n) #[zp_ B.g 0] #[]∧Tri Tryz.prog n #[zp_ B.g 0,f.val] ((Ha++(Hu++(Ho++(Hi++(Hr++Hm)))))++Hs) [gF B E,pF B pm A0,E.ef] (fun _:{H':Hp // E.St (rl E.stp E.kof pm x f j (nw,fm)).1 (rl E.stp E.kof pm x f j (nw,fm)).2 H'}=>.tuple #[]) (fun y=>(Ha++(Hu++(Ho++(Hi++(Hr++Hm)))))++y.1) (fun _=>[])
  | 0,_,h=>⟨89,(Option.some.inj h).symm,rl10_c B E A0 pm x f nw fm Hs hS Ha Hu Ho Hi Hr Hm hI hpl hxl hyl hf hq hk⟩
  | 1,_,h=>⟨90,(Option.some.inj h).symm,rl11_c B E A0 pm x f nw fm Hs hS Ha Hu Ho Hi Hr Hm hI hpl hxl hyl hf hq hk⟩
  | 2,_,h=>⟨91,(Option.some.inj h).symm,rl12_c B E A0 pm x f nw fm Hs hS Ha Hu Ho Hi Hr Hm hI hpl hxl hyl hf hq hk⟩
  | 3,_,h=>⟨92,(Option.some.inj h).symm,rl13_c B E A0 pm x f nw fm Hs hS Ha Hu Ho Hi Hr Hm hI hpl hxl hyl hf hq hk⟩
  | 4,_,h=>⟨93,(Option.some.inj h).symm,rl14_c B E A0 pm x f nw fm Hs hS Ha Hu Ho Hi Hr Hm hI hpl hxl hyl hf hq hk⟩
  | 5,_,h=>⟨94,(Option.some.inj h).symm,rl15_c B E A0 pm x f nw fm Hs hS Ha Hu Ho Hi Hr Hm hI hpl hxl hyl hf hq hk⟩
  | j+6,_,h=>by simp[rlV]at h
theorem sp_ (B:EngB) (E:Emt Tryz.prog 24) (A0:EngA) (pm:List (Ky×Pc)) (x:Ix) (f:Fc) (nw fm:List Fc) (Hs:Hp) (hS:E.St nw fm Hs) (Ha Hu Ho Hi Hr Hm:Hp) (hI:IxO 9 24 B x ⟨Ha,Hu,Ho,Hi,Hr,Hm⟩) (hpl:∀ k,(lat pm k).length≤1000000000) (hxl:∀ k,(lat x.above k).length≤1000000000∧(lat x.under k).length≤1000000000) (hyl:∀ k,(lat x.frm k).length≤1000000000∧(lat x.into k).length≤1000000000∧(lat x.ranges k).length≤1000000000∧(lat x.firms k).length≤1000000000) (hf:f.kind=3→-1099511627776≤f.lo∧f.lo≤f.hi∧f.hi≤1099511627776) (hq:f.kind=3→∀ y∈lat pm (Ky.mk 9 f.r []),-1099511627776≤y.lo∧y.lo≤y.hi∧y.hi≤1099511627776) (hk:f.kind=2):∀ (j:Nat) {fv:Value},(rlV B.g 2)[j]? = some fv→∃ n:Nat,fv=.func (.func n) #[zp_ B.g 0] #[]∧Tri Tryz.prog n #[zp_ B.g 0,f.val] ((Ha++(Hu++(Ho++(Hi++(Hr++Hm)))))++Hs) [gF B E,pF B pm A0,E.ef] (fun _:{H':Hp // E.St (rl E.stp E.kof pm x f j (nw,fm)).1 (rl E.stp E.kof pm x f j (nw,fm)).2 H'}=>.tuple #[]) (fun y=>(Ha++(Hu++(Ho++(Hi++(Hr++Hm)))))++y.1) (fun _=>[])
  | 0,_,h=>⟨95,(Option.some.inj h).symm,rl20_c B E A0 pm x f nw fm Hs hS Ha Hu Ho Hi Hr Hm hI hpl hxl hyl hf hq hk⟩
  | 1,_,h=>⟨96,(Option.some.inj h).symm,rl21_c B E A0 pm x f nw fm Hs hS Ha Hu Ho Hi Hr Hm hI hpl hxl hyl hf hq hk⟩
  | 2,_,h=>⟨97,(Option.some.inj h).symm,rl22_c B E A0 pm x f nw fm Hs hS Ha Hu Ho Hi Hr Hm hI hpl hxl hyl hf hq hk⟩
  | 3,_,h=>⟨98,(Option.some.inj h).symm,rl23_c B E A0 pm x f nw fm Hs hS Ha Hu Ho Hi Hr Hm hI hpl hxl hyl hf hq hk⟩
  | j+4,_,h=>by simp[rlV]at h
theorem so_ (B:EngB) (E:Emt Tryz.prog 24) (A0:EngA) (pm:List (Ky×Pc)) (x:Ix) (f:Fc) (nw fm:List Fc) (Hs:Hp) (hS:E.St nw fm Hs) (Ha Hu Ho Hi Hr Hm:Hp) (hI:IxO 9 24 B x ⟨Ha,Hu,Ho,Hi,Hr,Hm⟩) (hpl:∀ k,(lat pm k).length≤1000000000) (hxl:∀ k,(lat x.above k).length≤1000000000∧(lat x.under k).length≤1000000000) (hyl:∀ k,(lat x.frm k).length≤1000000000∧(lat x.into k).length≤1000000000∧(lat x.ranges k).length≤1000000000∧(lat x.firms k).length≤1000000000) (hf:f.kind=3→-1099511627776≤f.lo∧f.lo≤f.hi∧f.hi≤1099511627776) (hq:f.kind=3→∀ y∈lat pm (Ky.mk 9 f.r []),-1099511627776≤y.lo∧y.lo≤y.hi∧y.hi≤1099511627776) (hk:f.kind=3):∀ (j:Nat) {fv:Value},(rlV B.g 3)[j]? = some fv→∃ n:Nat,fv=.func (.func n) #[zp_ B.g 0] #[]∧Tri Tryz.prog n #[zp_ B.g 0,f.val] ((Ha++(Hu++(Ho++(Hi++(Hr++Hm)))))++Hs) [gF B E,pF B pm A0,E.ef] (fun _:{H':Hp // E.St (rl E.stp E.kof pm x f j (nw,fm)).1 (rl E.stp E.kof pm x f j (nw,fm)).2 H'}=>.tuple #[]) (fun y=>(Ha++(Hu++(Ho++(Hi++(Hr++Hm)))))++y.1) (fun _=>[])
  | 0,_,h=>⟨99,(Option.some.inj h).symm,rl30_c B E A0 pm x f nw fm Hs hS Ha Hu Ho Hi Hr Hm hI hpl hxl hyl hf hq hk⟩
  | 1,_,h=>⟨100,(Option.some.inj h).symm,rl31_c B E A0 pm x f nw fm Hs hS Ha Hu Ho Hi Hr Hm hI hpl hxl hyl hf hq hk⟩
  | j+2,_,h=>by simp[rlV]at h
def fa_ (p:List Pc) (bu:Int) (c:Cl) (e:Int):Prop :=
  if cP_ p≠0 then c=Cl.no∧e=cP_ p
  else if bu<0∨1073741824<bu then c=Cl.no∧e=1
  else (e=0∧c.ok∧c.atoms=atS p∧fE_ p (atS p) (min bu 65536).toNat (some c.facts))∨(c=Cl.no∧e=(if bu<65536 then 3 else 2)∧fE_ p (atS p) (min bu 65536).toNat none)
theorem rV_ {p:List Pc} {bu:Int} (h:cP_ p≠0):fa_ p bu Cl.no (cP_ p):=by unfold fa_;rw[if_pos h];exact⟨rfl,rfl⟩
theorem nx_ {p:List Pc} {bu:Int} (h:cP_ p=0) (hb:bu<0∨1073741824<bu):fa_ p bu Cl.no 1:=by unfold fa_;rw[if_neg (by simp[h]),if_pos hb];exact⟨rfl,rfl⟩
theorem ts_ {p:List Pc} {bu:Int} {m n:Nat} {c:Cl} {q fm:List Fc} {x:Ix} (hc:cP_ p=0) (h1:¬ bu<0) (h2:¬ 1073741824<bu) (hm:min bu 65536=(m:Int)) (hk:c.ok) (ha:c.atoms=atS p) (hL:LoopA (uniq [] p) (atS p) m n q fm x) (hn:q.length≤n) (hl:q.length≤m) (hf:c.facts=hC_ q):fa_ p bu c 0:=by
  unfold fa_
  rw[if_neg (by simp[hc]),if_neg (by omega)]
  have e:n=q.length:=Nat.le_antisymm hL.le hn
  subst e
  refine .inl ⟨rfl,hk,ha,?_⟩
  rw[hm,hf]
  exact⟨qi_ hL.nd,fun y=>by rw[qj_,← nU_ hL hl,mr_],by rw[fR_];simpa using hl⟩
theorem ej_ {p:List Pc} {bu:Int} {m:Nat} {e:Int} {M:List Fc} (hc:cP_ p=0) (h1:¬ bu<0) (h2:¬ 1073741824<bu) (hm:min bu 65536=(m:Int)) (he:e=if bu<65536 then 3 else 2) (nd:M.Nodup) (hd:∀ y∈M,Der (uniq [] p) (atS p) y) (hl:m<M.length):fa_ p bu Cl.no e:=by
  unfold fa_
  rw[if_neg (by simp[hc]),if_neg (by omega)]
  exact .inr ⟨rfl,he,M,nd,fun y hy=>mr_.1 (hd y hy),by rw[hm];simpa using hl⟩
end Go.Proofs.YtkeanlfhghlgiaaGreatDoor
namespace Go.Proofs.YtkeanlfhghlgiaaGreatDoor
open Go Go.Sx Go.Proofs
attribute [local irreducible] Code.wp wpList wpAnyH
open Go.Vs
set_option maxHeartbeats 4000000 in
theorem all_c (p:List Pc) (pad:Option Addr) (pcap:Nat) (bu:Int) (hsm:∀ x∈p,x.sm) (hp:p.length≤100000000):Tri Tryz.prog 15 #[.slice pad (List.length p) pcap,.int .i64 bu] [] [am_ pad (List.flatMap Pc.cells p),gH_] (fun y:{y:Cl×Int // fa_ p bu y.1 y.2}=>.tuple #[y.1.1.val,.int .i64 y.1.2]) (fun _=>[]) (fun y=>y.1.1.row):=by
 refine w_ Tryz.func15 rfl rfl Tryz.ntmps15 rfl fun v0=>?_
 refine Zz 2 ?_
 refine J_ Tryz.zeroValue39 rfl fun b1=>Zz 3 ?_
 refine oX_ (Zz 4 ?_)
 refine n_ (tj_ p pad pcap (by omega) hsm) rfl m_ zf rfl fun _=>Zi 6 (fun hr1=>?_) fun hr1=>?_
 ·have hchk:=hr1
  refine Zi 9 (fun hr2=>?_) fun hr2=>?_
  ·have hb0:=hr2
   refine Zi 4 (fun hr3=>?_) fun hr3=>?_
   ·have hb1:=hr3
    refine Zz 7 ?_
    obtain⟨m,hm0'⟩:∃ m:Nat,min bu 65536=(m:Int):=⟨(min bu 65536).toNat,by omega⟩
    have hm:m≤65536:=by omega
    have hvk:=qb_ (lA_ hchk)
    have hpl:∀ k,(lat (aG_ (uniq [] p)) k).length≤1000000000:=fun k=>by have h1:=bb_ (aG_ (uniq [] p)) k;have h2:=jP_ (uniq [] p);have h3:=hS_ p [];simp only[List.length_nil]at h3;omega
    refine Zz 2 ?_
    refine n_ (mR_ p pad pcap (by omega)) rfl m_ zf rfl fun⟨⟨g,pb,kb,ab,ub,ob,ib,rb,sb,fb,lv,hm0,hl0⟩,hy⟩=>?_
    dsimp only
    dsimp only[NewE.own,NewE.ok]at hy ⊢
    obtain⟨hym,hyl⟩:=hy
    simp only[List.cons_append,List.append_assoc]
    refine ca_ hyl (c_ (c_ (c_ (c_ (c_ (c_ (c_ (c_ (c_ (e_ j_)))))))))) fun lad lcap hlad hclad hmlad hzlad=>?_
    subst hlad
    refine J_ Tryz.zeroValue71 rfl fun b2=>x_ (q_ d_ (q_ d_ (q_ d_ (q_ d_ (q_ d_ (q_ d_ (q_ d_ (q_ d_ (q_ d_ (q_ d_ (ao_ aa_))))))))))) (y_ 0 Tryz.sizeOf71 rfl rfl rfl rfl rfl rfl (Zz 5 ?_))
    refine i_ (aU_ (dc_ rfl rfl) (congrArg (Value.int .i64) hm0')) rfl (J_ D_ rfl fun b3=>y_ 0 p_ rfl rfl rfl rfl rfl rfl (Zz 4 ?_))
    refine J_ mm_ rfl fun b4=>Zz 5 ?_
    refine i_ (cA_ rfl rfl) rfl (Zz 2 ?_)
    refine y_ 3 eN_ rfl rfl rfl rfl rfl rfl (Zz 3 ?_)
    refine hm_ (ek_ b2 (.cells #[zp_ g 0] 71 (0,0))) (ao_ (c_ (c_ d_))) (fun _ h1 h2 _=>⟨h1,h2⟩) ?_
    refine hm_ (ek_ b3 (.cells #[.int .i64 (m:Int)] 3 (0,0))) (ao_ (c_ d_)) (fun _ h1 h2 _=>⟨h1,h2⟩) ?_
    refine hm_ (ek_ g (.cells #[.map (some pb),.slice lad (List.length (ai_ (uniq [] p))) lcap,.map (some kb),.func (.func 41) #[] #[zp_ b2 0,zp_ b3 0,zp_ b4 0],.map (some ab),.map (some ub),.map (some ob),.map (some ib),.map (some rb),.map (some sb),.map (some fb)] 80 (0,0))) (ao_ (c_ d_)) (fun _ h1 h2 _=>⟨h1,h2⟩) ?_
    refine qS_ gC_ hym (c_ (c_ (c_ (c_ (c_ (c_ (c_ (c_ (c_ G_))))))))) fun adr=>?_
    refine Zz 2 ?_
    refine n_ (atS_c p pad pcap (by omega)) rfl m_ zf rfl fun⟨⟨aad,acap⟩,hac,ham,haz⟩=>?_
    dsimp only
    refine Zz 7 ?_
    refine n_ (tm_ (EngB.mk g pb ab ub ob ib rb sb lad lcap (ai_ (uniq [] p))) (EA m hm (EngB.mk g pb ab ub ob ib rb sb lad lcap (ai_ (uniq [] p))) b2 b3 b4 kb fb) [] [] [(b4,.cells #[.slice none 0 0] 37 (0,0)),(kb,.map #[] 0),(fb,.map #[] 0)] ⟨.slice none 0 0,#[],0,#[],0,[],[],rfl,aD_.nil _ _,SetE.nil,SetE.nil,by simp⟩ (atS p) aad acap (by have:=mj_ p;omega) (by have:=iP_ (uniq [] p);have h3:=hS_ p [];simp only[List.length_nil]at h3;show (ai_ (uniq [] p)).length≤_;omega)) rfl (g_ d_ (g_ d_ (c_ (c_ (c_ (c_ (c_ (c_ d_)))))))) (fun v _ h=>by exact⟨h.2.2.1,h.2.2.2.2.2.1,h.1,⟨h.2.2.2.2.1,h.2.2.2.1,h.2.2.1⟩,trivial⟩) rfl fun⟨Hs1,hS1⟩=>?_
    dsimp only
    refine Zz 2 ?_
    refine x_ (q_ (e_ d_) (q_ (e_ d_) (q_ (e_ d_) (q_ (e_ d_) (q_ (e_ d_) (q_ (e_ d_) (ao_ aa_))))))) (Zz 3 ?_)
    refine n_ (sn_ g) rfl m_ zt rfl fun⟨r1,r2,r3⟩=>?_
    dsimp only
    refine J_ Tryz.zeroValue83 rfl fun b5=>y_ 0 Tryz.sizeOf83 rfl rfl rfl rfl rfl rfl (Zz 3 ?_)
    refine oY_ (Zz 8 ?_)
    refine U_ (ι:={y:Nat×List Fc×List Fc×Ix×Hp×Hp×Hp×Hp×Hp×Hp×Hp // LoopA (uniq [] p) (atS p) m y.1 y.2.1 y.2.2.1 y.2.2.2.1∧((EA m hm (EngB.mk g pb ab ub ob ib rb sb lad lcap (ai_ (uniq [] p))) b2 b3 b4 kb fb)).St y.2.1 y.2.2.1 y.2.2.2.2.2.2.2.2.2.2∧IxO 9 24 (EngB.mk g pb ab ub ob ib rb sb lad lcap (ai_ (uniq [] p))) y.2.2.2.1 ⟨y.2.2.2.2.1,y.2.2.2.2.2.1,y.2.2.2.2.2.2.1,y.2.2.2.2.2.2.2.1,y.2.2.2.2.2.2.2.2.1,y.2.2.2.2.2.2.2.2.2.1⟩∧nV_ y.2.2.2.1 y.1}) (fun y=>[(0,.slice pad (List.length p) pcap),(1,.int .i64 bu),(4,zp_ b1 0),(7,zp_ b2 0),(8,zp_ b3 0),(9,zp_ b4 0),(10,.slice aad (List.length (atS p)) acap),(11,zp_ b5 0),(12,.int .i64 (y.1.1:Int))]) (fun y=>((b1,.cells #[.slice none 0 0,.slice none 0 0] 39 (0,0))::((b5,.cells #[.slice none 0 0,.slice (some ⟨r1,0,none⟩) 6 6,.slice (some ⟨r2,0,none⟩) 4 4,.slice (some ⟨r3,0,none⟩) 2 2] 83 (0,0))::(y.1.2.2.2.2.1++(y.1.2.2.2.2.2.1++(y.1.2.2.2.2.2.2.1++(y.1.2.2.2.2.2.2.2.1++(y.1.2.2.2.2.2.2.2.2.1++(y.1.2.2.2.2.2.2.2.2.2.1++y.1.2.2.2.2.2.2.2.2.2.2))))))))) (fun y=>[am_ (some ⟨r1,0,none⟩) (List.flatMap fvC (rlV g 1)),am_ (some ⟨r2,0,none⟩) (List.flatMap fvC (rlV g 2)),am_ (some ⟨r3,0,none⟩) (List.flatMap fvC (rlV g 3)),am_ aad (List.flatMap aV_ (atS p)),mlF Tryz.prog 145 Ky.val Pc.cells pb (aG_ (uniq [] p)) adr,ek_ g (.cells #[.map (some pb),.slice lad (List.length (ai_ (uniq [] p))) lcap,.map (some kb),.func (.func 41) #[] #[zp_ b2 0,zp_ b3 0,zp_ b4 0],.map (some ab),.map (some ub),.map (some ob),.map (some ib),.map (some rb),.map (some sb),.map (some fb)] 80 (0,0)),ek_ b3 (.cells #[.int .i64 (m:Int)] 3 (0,0)),ek_ b2 (.cells #[zp_ g 0] 71 (0,0)),am_ lad (List.flatMap aV_ (ai_ (uniq [] p))),am_ pad (List.flatMap Pc.cells p),gH_]) (fun y=>m+1 - y.1.1) ⟨((0:Nat),(emits (bj_ m) (eB_ (ai_ (uniq [] p)) (atS p)) []),([]:List Fc),Ix.nil,[(ab,.map #[] 0)],[(ub,.map #[] 0)],[(ob,.map #[] 0)],[(ib,.map #[] 0)],[(rb,.map #[] 0)],[(sb,.map #[] 0)],Hs1),mW_ hvk rfl,by exact hS1,⟨aS_.nil _ _,aS_.nil _ _,aS_.nil _ _,aS_.nil _ _,aS_.nil _ _,aS_.nil _ _⟩,rn_⟩ zl (g_ (c_ (c_ (c_ (c_ (c_ (c_ (c_ d_))))))) (g_ d_ (g_ d_ (g_ d_ (g_ d_ (g_ d_ (g_ d_ (g_ d_ aH_)))))))) zh ?_
    rintro ⟨⟨n,q,fm,x,Ha,Hu,Ho,Hi,Hr,Hm,Hs⟩,hL,hS,hI,hz⟩
    dsimp only at hL hS hI hz ⊢
    obtain⟨sv1,es1,ce1,ef1,cf1,qf1,Hq1,hHs1,hrQ1,hEk1,hEf1,hqf1⟩:=hS
    subst hHs1
    have hqm:=hL.len
    have hnq:=hL.le
    obtain⟨hxl,hyl⟩:=mY_ hz (by omega)
    refine cb_ (x_ (q_ d_ (q_ d_ (q_ (e_ (e_ (e_ (e_ (e_ (e_ d_)))))) (ao_ (e_ (e_ (e_ (e_ (e_ (e_ d_)))))))))) (Zz 4 ?_))
    refine i_ (cw_ hrQ1 ah_ rfl) rfl ?_
    refine Zi 0 (fun hr4=>?_) fun hr4=>?_
    ·refine Zz 8 ?_
     refine s_ 0 [0,1,2,3,4,5,6] zk zs (Zz 4 ?_)
     refine R_ rfl (aU_ (fi_ (E:=(EA m hm (EngB.mk g pb ab ub ob ib rb sb lad lcap (ai_ (uniq [] p))) b2 b3 b4 kb fb)) (nw:=q) (Hs:=((b4,.cells #[sv1] 37 (0,0))::(kb,.map es1 ce1)::([(fb,.map ef1 cf1)]++Hq1))) ⟨sv1,es1,ce1,ef1,cf1,qf1,Hq1,rfl,hrQ1,hEk1,hEf1,hqf1⟩ aL_ rfl zp) (show _=Value.int .i64 (List.length q:Int) from rfl)) rfl (Zi 1 (fun hr5=>?_) fun hr5=>?_)
     ·refine Zz 9 ?_
      refine n_ (sl_ hrQ1 (by omega)) rfl zp zt rfl fun⟨Hq9,hq9⟩=>?_
      dsimp only
      refine Zz 2 ?_
      refine x_ (q_ (e_ d_) (q_ (e_ d_) (q_ (e_ d_) (ao_ (e_ d_))))) (cb_ (ca_ hq9 (c_ (c_ (c_ (c_ j_)))) fun fad fcap hfad hcfad hmfad hzfad=>?_))
      subst hfad
      refine Zz 3 ?_
      refine i_ (H_ eP_ rfl rfl) rfl (y_ 0 aQ_ rfl rfl rfl rfl rfl rfl (Zz 4 ?_))
      exact fn_ ⟨((Cl.mk (atS p) aad acap (hC_ q) fad fcap),0),ts_ hchk hb0 hb1 hm0' ⟨hac,ham,haz,hcfad,hmfad,hzfad⟩ rfl hL (by omega) (by omega) rfl⟩ (fun aa v h1 h2=>ds_ (us:=Cl.cells (Cl.mk (atS p) aad acap (hC_ q) fad fcap)) 0 cO_ cZ_ aQ_ rfl rfl rfl rfl aa v h1 h2) m_ zf
     refine Zi 8 (fun hr6=>?_) fun hr6=>?_
     ·refine Zz 7 ?_
      refine i_ (H_ eP_ rfl rfl) rfl (y_ 0 aQ_ rfl rfl rfl rfl rfl rfl (Zz 4 ?_))
      exact fn_ ⟨((Cl.mk [] none 0 [] none 0),2),ej_ hchk hb0 hb1 hm0' (by rw[if_neg (by assumption)]) hL.nd hL.der (by omega)⟩ (fun aa v h1 h2=>ds_ (us:=Cl.cells (Cl.mk [] none 0 [] none 0)) 0 cO_ cZ_ aQ_ rfl rfl rfl rfl aa v h1 h2) m_ (fun v _ h=>by exact⟨.inl rfl,.inl rfl,trivial⟩)
     refine Zz 5 ?_
     refine i_ (H_ eP_ rfl rfl) rfl (y_ 0 aQ_ rfl rfl rfl rfl rfl rfl (Zz 4 ?_))
     exact fn_ ⟨((Cl.mk [] none 0 [] none 0),3),ej_ hchk hb0 hb1 hm0' (by rw[if_pos (by assumption)]) hL.nd hL.der (by omega)⟩ (fun aa v h1 h2=>ds_ (us:=Cl.cells (Cl.mk [] none 0 [] none 0)) 0 cO_ cZ_ aQ_ rfl rfl rfl rfl aa v h1 h2) m_ (fun v _ h=>by exact⟨.inl rfl,.inl rfl,trivial⟩)
    have hlf:n<List.length q:=by omega
    obtain⟨f,hf⟩:∃ e0,q[n]? = some e0:=⟨_,List.getElem?_eq_getElem hlf⟩
    have hmf:f∈q:=List.mem_of_getElem? hf
    have hfd:=hL.der f hmf
    have hform:=hfd.form hvk
    obtain⟨hxl1,hyl1⟩:=mY_ (ig_ hz (decide (f∈fm)) f) (by omega)
    refine Zz 11 ?_
    refine i_ (as_ hrQ1 ah_ A_ rfl rfl (by omega) (by omega)) rfl (i_ (fO_ hrQ1 zp aX_ A_ rfl (Fc.cells_len _) (by decide) (t_ Fc.cells_len hf)) rfl (J_ ab_ rfl fun b6=>y_ 0 A_ rfl rfl rfl rfl rfl rfl (Zz 6 ?_)))
    refine n_ (sO_ (EngB.mk g pb ab ub ob ib rb sb lad lcap (ai_ (uniq [] p))) (EA m hm (EngB.mk g pb ab ub ob ib rb sb lad lcap (ai_ (uniq [] p))) b2 b3 b4 kb fb) x f q fm ((b4,.cells #[sv1] 37 (0,0))::(kb,.map es1 ce1)::([(fb,.map ef1 cf1)]++Hq1)) ⟨sv1,es1,ce1,ef1,cf1,qf1,Hq1,rfl,hrQ1,hEk1,hEf1,hqf1⟩ Ha Hu Ho Hi Hr Hm hI hxl hyl) rfl (o_ (c_ (c_ (c_ (c_ (c_ j_))))) (o_ (c_ (c_ (c_ (c_ (c_ j_))))) (o_ (c_ (c_ (c_ (c_ (c_ j_))))) (o_ (c_ (c_ (c_ (c_ (c_ j_))))) (o_ (c_ (c_ (c_ (c_ (c_ j_))))) (o_ (c_ (c_ (c_ (c_ (c_ j_))))) (g_ (c_ (c_ (c_ d_))) (g_ (c_ (c_ (c_ d_))) (o_ (c_ (c_ (c_ j_))) (c_ (c_ G_))))))))))) zf rfl fun⟨⟨Ha1,Hu1,Ho1,Hi1,Hr1,Hm1⟩,hI1⟩=>?_
    dsimp only
    refine x_ sy_ (Zz 2 ?_)
    refine x_ (q_ (e_ (e_ (e_ (e_ (e_ (e_ d_)))))) (q_ (e_ (e_ (e_ (e_ (e_ (e_ d_)))))) (q_ (e_ (e_ (e_ (e_ (e_ (e_ (e_ (e_ d_)))))))) (q_ (e_ (e_ (e_ (e_ (e_ (e_ (e_ (e_ d_)))))))) (ao_ (e_ (e_ (e_ (e_ (e_ (e_ (e_ aa_)))))))))))) (Zz 4 ?_)
    rcases gc_ hform with hk|hk|hk
    ·refine i_ (aU_ (gn_ qu_ Tryz.sizeOf82 rfl rfl (by omega) (by omega)) (show _=zp_ b5 1 from by rw[hk];rfl)) rfl ?_
     refine Zz 6 ?_
     refine ep_ (H':=((b1,.cells #[.slice none 0 0,.slice none 0 0] 39 (0,0))::((b5,.cells #[.slice none 0 0,.slice (some ⟨r1,0,none⟩) 6 6,.slice (some ⟨r2,0,none⟩) 4 4,.slice (some ⟨r3,0,none⟩) 2 2] 83 (0,0))::((b6,.cells #[.int .i64 f.kind,str f.a,str f.b,str f.r,.int .i64 f.lo,.int .i64 f.hi] 24 (0,0))::(Ha1++(Hu1++(Ho1++(Hi1++(Hr1++(Hm1++((b4,.cells #[sv1] 37 (0,0))::(kb,.map es1 ce1)::([(fb,.map ef1 cf1)]++Hq1)))))))))))) (g_ (c_ (c_ (c_ d_))) (g_ (c_ (c_ (c_ d_))) (g_ (c_ (c_ d_)) (o_ (c_ (c_ j_)) (o_ (c_ (c_ j_)) (o_ (c_ (c_ j_)) (o_ (c_ (c_ j_)) (o_ (c_ (c_ j_)) (o_ (c_ (c_ j_)) (g_ d_ (g_ d_ (o_ j_ aH_)))))))))))) (fun v _ h=>h) ?_
     refine U_ (ι:={y:Nat×Hp // y.1≤6∧((EA m hm (EngB.mk g pb ab ub ob ib rb sb lad lcap (ai_ (uniq [] p))) b2 b3 b4 kb fb)).St (rls (bj_ m) idk (aG_ (uniq [] p)) (Ix.add x (decide (f∈fm)) f) f y.1 (q,fm)).1 (rls (bj_ m) idk (aG_ (uniq [] p)) (Ix.add x (decide (f∈fm)) f) f y.1 (q,fm)).2 y.2∧(y.1=0∨((rls (bj_ m) idk (aG_ (uniq [] p)) (Ix.add x (decide (f∈fm)) f) f y.1 (q,fm)).1).length≤m)}) (fun y=>[(0,.slice pad (List.length p) pcap),(1,.int .i64 bu),(4,zp_ b1 0),(7,zp_ b2 0),(8,zp_ b3 0),(9,zp_ b4 0),(10,.slice aad (List.length (atS p)) acap),(11,zp_ b5 0),(12,.int .i64 (n:Int)),(13,zp_ b6 0),(60,.slice (some ⟨r1,0,none⟩) 6 6),(61,.int .i64 6),(62,.int .i64 (y.1.1:Int))]) (fun y=>((b1,.cells #[.slice none 0 0,.slice none 0 0] 39 (0,0))::((b5,.cells #[.slice none 0 0,.slice (some ⟨r1,0,none⟩) 6 6,.slice (some ⟨r2,0,none⟩) 4 4,.slice (some ⟨r3,0,none⟩) 2 2] 83 (0,0))::((b6,.cells #[.int .i64 f.kind,str f.a,str f.b,str f.r,.int .i64 f.lo,.int .i64 f.hi] 24 (0,0))::(Ha1++(Hu1++(Ho1++(Hi1++(Hr1++(Hm1++y.1.2)))))))))) (fun y=>[am_ (some ⟨r1,0,none⟩) (List.flatMap fvC (rlV g 1)),am_ (some ⟨r2,0,none⟩) (List.flatMap fvC (rlV g 2)),am_ (some ⟨r3,0,none⟩) (List.flatMap fvC (rlV g 3)),am_ aad (List.flatMap aV_ (atS p)),mlF Tryz.prog 145 Ky.val Pc.cells pb (aG_ (uniq [] p)) adr,ek_ g (.cells #[.map (some pb),.slice lad (List.length (ai_ (uniq [] p))) lcap,.map (some kb),.func (.func 41) #[] #[zp_ b2 0,zp_ b3 0,zp_ b4 0],.map (some ab),.map (some ub),.map (some ob),.map (some ib),.map (some rb),.map (some sb),.map (some fb)] 80 (0,0)),ek_ b3 (.cells #[.int .i64 (m:Int)] 3 (0,0)),ek_ b2 (.cells #[zp_ g 0] 71 (0,0)),am_ lad (List.flatMap aV_ (ai_ (uniq [] p))),am_ pad (List.flatMap Pc.cells p),gH_]) (fun y=>6 - y.1.1) ⟨((0:Nat),((b4,.cells #[sv1] 37 (0,0))::(kb,.map es1 ce1)::([(fb,.map ef1 cf1)]++Hq1))),by omega,by exact⟨sv1,es1,ce1,ef1,cf1,qf1,Hq1,rfl,hrQ1,hEk1,hEf1,hqf1⟩,.inl rfl⟩ zl zp zh ?_
     rintro ⟨⟨j,Hs⟩,hj,hS2,hjm⟩
     dsimp only at hj hS2 hjm ⊢
     refine Zi 2 (fun hr7=>?_) fun hr7=>?_
     ·have ej:j=6:=by omega
      have hjl:((rls (bj_ m) idk (aG_ (uniq [] p)) (Ix.add x (decide (f∈fm)) f) f j (q,fm)).1).length≤m:=hjm.resolve_left (by omega)
      rw[ej]at hjl hS2
      refine Zz 12 ?_
      exact z_ ⟨(n+1,(rls (bj_ m) idk (aG_ (uniq [] p)) (Ix.add x (decide (f∈fm)) f) f 6 (q,fm)).1,(rls (bj_ m) idk (aG_ (uniq [] p)) (Ix.add x (decide (f∈fm)) f) f 6 (q,fm)).2,(Ix.add x (decide (f∈fm)) f),Ha1,Hu1,Ho1,Hi1,Hr1,Hm1,Hs),(hH_ hvk hL hf (by have e:nrl f=6:=(by unfold nrl;simp[hk]);rw[e]) (by omega)),(by exact hS2),hI1,(ig_ hz _ f)⟩ (by dsimp only;omega) zl (g_ d_ (g_ d_ (o_ (c_ j_) (o_ (c_ j_) (o_ (c_ j_) (o_ (c_ j_) (o_ (c_ j_) (o_ (c_ j_) G_)))))))) zh
     have hlfv:j<List.length (rlV g 1):=by show j<6;omega
     obtain⟨fv,hfv⟩:∃ e0,(rlV g 1)[j]? = some e0:=⟨_,List.getElem?_eq_getElem hlfv⟩
     have hmfv:fv∈(rlV g 1):=List.mem_of_getElem? hfv
     refine Zz 10 ?_
     refine i_ (X_ bh_ eN_ rfl rfl (fun v _ h=>E_ (n:=1) hq_ (by decide) (by exact h.1) hfv) (by omega) (by omega)) rfl (i_ (av_ (ad:=(some ⟨r1,0,none⟩)) Tryz.isAgg75 rfl zf (t_ hq_ hfv 0 _ rfl)) rfl (Zz 7 ?_))
     obtain⟨nr,rfl,hT⟩:=sq_ (EngB.mk g pb ab ub ob ib rb sb lad lcap (ai_ (uniq [] p))) (EA m hm (EngB.mk g pb ab ub ob ib rb sb lad lcap (ai_ (uniq [] p))) b2 b3 b4 kb fb) (EngA.mk adr (fun _=>(none,0)) (fun _=>(none,0)) (fun _=>(none,0)) (fun _=>(none,0)) (fun _=>(none,0)) (fun _=>(none,0))) (aG_ (uniq [] p)) (Ix.add x (decide (f∈fm)) f) f (rls (bj_ m) idk (aG_ (uniq [] p)) (Ix.add x (decide (f∈fm)) f) f j (q,fm)).1 (rls (bj_ m) idk (aG_ (uniq [] p)) (Ix.add x (decide (f∈fm)) f) f j (q,fm)).2 Hs hS2 Ha1 Hu1 Ho1 Hi1 Hr1 Hm1 hI1 hpl hxl1 hyl1 (fun hk=>(gd_ hform hk).2.2) (fun _ y hy=>(hvk y (pm9.1 hy).1).num (.inr (pm9.1 hy).2.1)) hk j hfv
     refine ap_ (first:=[zp_ g 0]) (vs:=[Fc.val f]) (cap:=[]) hT rfl rfl (nN_ (o_ (c_ (c_ (c_ j_))) (o_ (c_ (c_ (c_ j_))) (o_ (c_ (c_ (c_ j_))) (o_ (c_ (c_ (c_ j_))) (o_ (c_ (c_ (c_ j_))) (o_ (c_ (c_ (c_ j_))) (c_ (c_ G_))))))))) (fun v _ h=>by exact⟨h.2.2.2.2.2.1,h.2.2.2.2.1,⟨h.2.2.2.2.2.2.2.1,h.2.2.2.2.2.2.1,h.2.2.2.2.2.1⟩,trivial⟩) rfl fun⟨Hs3,hS3⟩=>x_ lN_ (Zz 2 ?_)
     refine x_ (q_ (e_ (e_ (e_ (e_ (e_ (e_ (e_ d_))))))) (q_ (e_ (e_ (e_ (e_ (e_ (e_ (e_ d_))))))) (ao_ (e_ (e_ (e_ (e_ (e_ (e_ aa_))))))))) (Zz 2 ?_)
     refine s_ 0 [0,1,2,3,4,5,6] zk zs (Zz 4 ?_)
     refine R_ rfl (aU_ (fi_ (E:=(EA m hm (EngB.mk g pb ab ub ob ib rb sb lad lcap (ai_ (uniq [] p))) b2 b3 b4 kb fb)) (nw:=(rls (bj_ m) idk (aG_ (uniq [] p)) (Ix.add x (decide (f∈fm)) f) f (j+1) (q,fm)).1) (Hs:=Hs3) hS3 aL_ rfl zp) (show _=Value.int .i64 (List.length (rls (bj_ m) idk (aG_ (uniq [] p)) (Ix.add x (decide (f∈fm)) f) f (j+1) (q,fm)).1:Int) from rfl)) rfl (Zi 1 (fun hr8=>?_) fun hr8=>?_)
     ·refine Zz 11 ?_
      exact z_ ⟨(j+1,Hs3),hlfv,by exact hS3,.inr (by dsimp only;omega)⟩ (by dsimp only;omega) zl zp zh
     refine Zz 9 ?_
     refine s_ 0 [0,1,2,3,4,5,6] zk zs (Zz 4 ?_)
     refine R_ rfl (aU_ (fi_ (E:=(EA m hm (EngB.mk g pb ab ub ob ib rb sb lad lcap (ai_ (uniq [] p))) b2 b3 b4 kb fb)) (nw:=(rls (bj_ m) idk (aG_ (uniq [] p)) (Ix.add x (decide (f∈fm)) f) f (j+1) (q,fm)).1) (Hs:=Hs3) hS3 aL_ rfl zp) (show _=Value.int .i64 (List.length (rls (bj_ m) idk (aG_ (uniq [] p)) (Ix.add x (decide (f∈fm)) f) f (j+1) (q,fm)).1:Int) from rfl)) rfl (Zi 1 (fun hr9=>?_) fun hr9=>?_)
     ·omega
     refine Zi 8 (fun hr10=>?_) fun hr10=>?_
     ·refine Zz 7 ?_
      refine i_ (H_ eP_ rfl rfl) rfl (y_ 0 aQ_ rfl rfl rfl rfl rfl rfl (Zz 4 ?_))
      exact fn_ ⟨((Cl.mk [] none 0 [] none 0),2),ej_ hchk hb0 hb1 hm0' (by rw[if_neg (by assumption)]) (ck_ hvk hL hf (j+1) rfl).1 (ck_ hvk hL hf (j+1) rfl).2.2.1 (by omega)⟩ (fun aa v h1 h2=>ds_ (us:=Cl.cells (Cl.mk [] none 0 [] none 0)) 0 cO_ cZ_ aQ_ rfl rfl rfl rfl aa v h1 h2) m_ (fun v _ h=>by exact⟨.inl rfl,.inl rfl,trivial⟩)
     refine Zz 5 ?_
     refine i_ (H_ eP_ rfl rfl) rfl (y_ 0 aQ_ rfl rfl rfl rfl rfl rfl (Zz 4 ?_))
     exact fn_ ⟨((Cl.mk [] none 0 [] none 0),3),ej_ hchk hb0 hb1 hm0' (by rw[if_pos (by assumption)]) (ck_ hvk hL hf (j+1) rfl).1 (ck_ hvk hL hf (j+1) rfl).2.2.1 (by omega)⟩ (fun aa v h1 h2=>ds_ (us:=Cl.cells (Cl.mk [] none 0 [] none 0)) 0 cO_ cZ_ aQ_ rfl rfl rfl rfl aa v h1 h2) m_ (fun v _ h=>by exact⟨.inl rfl,.inl rfl,trivial⟩)
    ·refine i_ (aU_ (gn_ qu_ Tryz.sizeOf82 rfl rfl (by omega) (by omega)) (show _=zp_ b5 2 from by rw[hk];rfl)) rfl ?_
     refine Zz 6 ?_
     refine ep_ (H':=((b1,.cells #[.slice none 0 0,.slice none 0 0] 39 (0,0))::((b5,.cells #[.slice none 0 0,.slice (some ⟨r1,0,none⟩) 6 6,.slice (some ⟨r2,0,none⟩) 4 4,.slice (some ⟨r3,0,none⟩) 2 2] 83 (0,0))::((b6,.cells #[.int .i64 f.kind,str f.a,str f.b,str f.r,.int .i64 f.lo,.int .i64 f.hi] 24 (0,0))::(Ha1++(Hu1++(Ho1++(Hi1++(Hr1++(Hm1++((b4,.cells #[sv1] 37 (0,0))::(kb,.map es1 ce1)::([(fb,.map ef1 cf1)]++Hq1)))))))))))) (g_ (c_ (c_ (c_ d_))) (g_ (c_ (c_ (c_ d_))) (g_ (c_ (c_ d_)) (o_ (c_ (c_ j_)) (o_ (c_ (c_ j_)) (o_ (c_ (c_ j_)) (o_ (c_ (c_ j_)) (o_ (c_ (c_ j_)) (o_ (c_ (c_ j_)) (g_ d_ (g_ d_ (o_ j_ aH_)))))))))))) (fun v _ h=>h) ?_
     refine U_ (ι:={y:Nat×Hp // y.1≤4∧((EA m hm (EngB.mk g pb ab ub ob ib rb sb lad lcap (ai_ (uniq [] p))) b2 b3 b4 kb fb)).St (rls (bj_ m) idk (aG_ (uniq [] p)) (Ix.add x (decide (f∈fm)) f) f y.1 (q,fm)).1 (rls (bj_ m) idk (aG_ (uniq [] p)) (Ix.add x (decide (f∈fm)) f) f y.1 (q,fm)).2 y.2∧(y.1=0∨((rls (bj_ m) idk (aG_ (uniq [] p)) (Ix.add x (decide (f∈fm)) f) f y.1 (q,fm)).1).length≤m)}) (fun y=>[(0,.slice pad (List.length p) pcap),(1,.int .i64 bu),(4,zp_ b1 0),(7,zp_ b2 0),(8,zp_ b3 0),(9,zp_ b4 0),(10,.slice aad (List.length (atS p)) acap),(11,zp_ b5 0),(12,.int .i64 (n:Int)),(13,zp_ b6 0),(60,.slice (some ⟨r2,0,none⟩) 4 4),(61,.int .i64 4),(62,.int .i64 (y.1.1:Int))]) (fun y=>((b1,.cells #[.slice none 0 0,.slice none 0 0] 39 (0,0))::((b5,.cells #[.slice none 0 0,.slice (some ⟨r1,0,none⟩) 6 6,.slice (some ⟨r2,0,none⟩) 4 4,.slice (some ⟨r3,0,none⟩) 2 2] 83 (0,0))::((b6,.cells #[.int .i64 f.kind,str f.a,str f.b,str f.r,.int .i64 f.lo,.int .i64 f.hi] 24 (0,0))::(Ha1++(Hu1++(Ho1++(Hi1++(Hr1++(Hm1++y.1.2)))))))))) (fun y=>[am_ (some ⟨r1,0,none⟩) (List.flatMap fvC (rlV g 1)),am_ (some ⟨r2,0,none⟩) (List.flatMap fvC (rlV g 2)),am_ (some ⟨r3,0,none⟩) (List.flatMap fvC (rlV g 3)),am_ aad (List.flatMap aV_ (atS p)),mlF Tryz.prog 145 Ky.val Pc.cells pb (aG_ (uniq [] p)) adr,ek_ g (.cells #[.map (some pb),.slice lad (List.length (ai_ (uniq [] p))) lcap,.map (some kb),.func (.func 41) #[] #[zp_ b2 0,zp_ b3 0,zp_ b4 0],.map (some ab),.map (some ub),.map (some ob),.map (some ib),.map (some rb),.map (some sb),.map (some fb)] 80 (0,0)),ek_ b3 (.cells #[.int .i64 (m:Int)] 3 (0,0)),ek_ b2 (.cells #[zp_ g 0] 71 (0,0)),am_ lad (List.flatMap aV_ (ai_ (uniq [] p))),am_ pad (List.flatMap Pc.cells p),gH_]) (fun y=>4 - y.1.1) ⟨((0:Nat),((b4,.cells #[sv1] 37 (0,0))::(kb,.map es1 ce1)::([(fb,.map ef1 cf1)]++Hq1))),by omega,by exact⟨sv1,es1,ce1,ef1,cf1,qf1,Hq1,rfl,hrQ1,hEk1,hEf1,hqf1⟩,.inl rfl⟩ zl zp zh ?_
     rintro ⟨⟨j,Hs⟩,hj,hS2,hjm⟩
     dsimp only at hj hS2 hjm ⊢
     refine Zi 2 (fun hr11=>?_) fun hr11=>?_
     ·have ej:j=4:=by omega
      have hjl:((rls (bj_ m) idk (aG_ (uniq [] p)) (Ix.add x (decide (f∈fm)) f) f j (q,fm)).1).length≤m:=hjm.resolve_left (by omega)
      rw[ej]at hjl hS2
      refine Zz 12 ?_
      exact z_ ⟨(n+1,(rls (bj_ m) idk (aG_ (uniq [] p)) (Ix.add x (decide (f∈fm)) f) f 4 (q,fm)).1,(rls (bj_ m) idk (aG_ (uniq [] p)) (Ix.add x (decide (f∈fm)) f) f 4 (q,fm)).2,(Ix.add x (decide (f∈fm)) f),Ha1,Hu1,Ho1,Hi1,Hr1,Hm1,Hs),(hH_ hvk hL hf (by have e:nrl f=4:=(by unfold nrl;simp[hk]);rw[e]) (by omega)),(by exact hS2),hI1,(ig_ hz _ f)⟩ (by dsimp only;omega) zl (g_ d_ (g_ d_ (o_ (c_ j_) (o_ (c_ j_) (o_ (c_ j_) (o_ (c_ j_) (o_ (c_ j_) (o_ (c_ j_) G_)))))))) zh
     have hlfv:j<List.length (rlV g 2):=by show j<4;omega
     obtain⟨fv,hfv⟩:∃ e0,(rlV g 2)[j]? = some e0:=⟨_,List.getElem?_eq_getElem hlfv⟩
     have hmfv:fv∈(rlV g 2):=List.mem_of_getElem? hfv
     refine Zz 10 ?_
     refine i_ (X_ bh_ eN_ rfl rfl (fun v _ h=>E_ (n:=1) hq_ (by decide) (by exact h.2.1) hfv) (by omega) (by omega)) rfl (i_ (av_ (ad:=(some ⟨r2,0,none⟩)) Tryz.isAgg75 rfl zf (t_ hq_ hfv 0 _ rfl)) rfl (Zz 7 ?_))
     obtain⟨nr,rfl,hT⟩:=sp_ (EngB.mk g pb ab ub ob ib rb sb lad lcap (ai_ (uniq [] p))) (EA m hm (EngB.mk g pb ab ub ob ib rb sb lad lcap (ai_ (uniq [] p))) b2 b3 b4 kb fb) (EngA.mk adr (fun _=>(none,0)) (fun _=>(none,0)) (fun _=>(none,0)) (fun _=>(none,0)) (fun _=>(none,0)) (fun _=>(none,0))) (aG_ (uniq [] p)) (Ix.add x (decide (f∈fm)) f) f (rls (bj_ m) idk (aG_ (uniq [] p)) (Ix.add x (decide (f∈fm)) f) f j (q,fm)).1 (rls (bj_ m) idk (aG_ (uniq [] p)) (Ix.add x (decide (f∈fm)) f) f j (q,fm)).2 Hs hS2 Ha1 Hu1 Ho1 Hi1 Hr1 Hm1 hI1 hpl hxl1 hyl1 (fun hk=>(gd_ hform hk).2.2) (fun _ y hy=>(hvk y (pm9.1 hy).1).num (.inr (pm9.1 hy).2.1)) hk j hfv
     refine ap_ (first:=[zp_ g 0]) (vs:=[Fc.val f]) (cap:=[]) hT rfl rfl (nN_ (o_ (c_ (c_ (c_ j_))) (o_ (c_ (c_ (c_ j_))) (o_ (c_ (c_ (c_ j_))) (o_ (c_ (c_ (c_ j_))) (o_ (c_ (c_ (c_ j_))) (o_ (c_ (c_ (c_ j_))) (c_ (c_ G_))))))))) (fun v _ h=>by exact⟨h.2.2.2.2.2.1,h.2.2.2.2.1,⟨h.2.2.2.2.2.2.2.1,h.2.2.2.2.2.2.1,h.2.2.2.2.2.1⟩,trivial⟩) rfl fun⟨Hs3,hS3⟩=>x_ lN_ (Zz 2 ?_)
     refine x_ (q_ (e_ (e_ (e_ (e_ (e_ (e_ (e_ d_))))))) (q_ (e_ (e_ (e_ (e_ (e_ (e_ (e_ d_))))))) (ao_ (e_ (e_ (e_ (e_ (e_ (e_ aa_))))))))) (Zz 2 ?_)
     refine s_ 0 [0,1,2,3,4,5,6] zk zs (Zz 4 ?_)
     refine R_ rfl (aU_ (fi_ (E:=(EA m hm (EngB.mk g pb ab ub ob ib rb sb lad lcap (ai_ (uniq [] p))) b2 b3 b4 kb fb)) (nw:=(rls (bj_ m) idk (aG_ (uniq [] p)) (Ix.add x (decide (f∈fm)) f) f (j+1) (q,fm)).1) (Hs:=Hs3) hS3 aL_ rfl zp) (show _=Value.int .i64 (List.length (rls (bj_ m) idk (aG_ (uniq [] p)) (Ix.add x (decide (f∈fm)) f) f (j+1) (q,fm)).1:Int) from rfl)) rfl (Zi 1 (fun hr12=>?_) fun hr12=>?_)
     ·refine Zz 11 ?_
      exact z_ ⟨(j+1,Hs3),hlfv,by exact hS3,.inr (by dsimp only;omega)⟩ (by dsimp only;omega) zl zp zh
     refine Zz 9 ?_
     refine s_ 0 [0,1,2,3,4,5,6] zk zs (Zz 4 ?_)
     refine R_ rfl (aU_ (fi_ (E:=(EA m hm (EngB.mk g pb ab ub ob ib rb sb lad lcap (ai_ (uniq [] p))) b2 b3 b4 kb fb)) (nw:=(rls (bj_ m) idk (aG_ (uniq [] p)) (Ix.add x (decide (f∈fm)) f) f (j+1) (q,fm)).1) (Hs:=Hs3) hS3 aL_ rfl zp) (show _=Value.int .i64 (List.length (rls (bj_ m) idk (aG_ (uniq [] p)) (Ix.add x (decide (f∈fm)) f) f (j+1) (q,fm)).1:Int) from rfl)) rfl (Zi 1 (fun hr13=>?_) fun hr13=>?_)
     ·omega
     refine Zi 8 (fun hr14=>?_) fun hr14=>?_
     ·refine Zz 7 ?_
      refine i_ (H_ eP_ rfl rfl) rfl (y_ 0 aQ_ rfl rfl rfl rfl rfl rfl (Zz 4 ?_))
      exact fn_ ⟨((Cl.mk [] none 0 [] none 0),2),ej_ hchk hb0 hb1 hm0' (by rw[if_neg (by assumption)]) (ck_ hvk hL hf (j+1) rfl).1 (ck_ hvk hL hf (j+1) rfl).2.2.1 (by omega)⟩ (fun aa v h1 h2=>ds_ (us:=Cl.cells (Cl.mk [] none 0 [] none 0)) 0 cO_ cZ_ aQ_ rfl rfl rfl rfl aa v h1 h2) m_ (fun v _ h=>by exact⟨.inl rfl,.inl rfl,trivial⟩)
     refine Zz 5 ?_
     refine i_ (H_ eP_ rfl rfl) rfl (y_ 0 aQ_ rfl rfl rfl rfl rfl rfl (Zz 4 ?_))
     exact fn_ ⟨((Cl.mk [] none 0 [] none 0),3),ej_ hchk hb0 hb1 hm0' (by rw[if_pos (by assumption)]) (ck_ hvk hL hf (j+1) rfl).1 (ck_ hvk hL hf (j+1) rfl).2.2.1 (by omega)⟩ (fun aa v h1 h2=>ds_ (us:=Cl.cells (Cl.mk [] none 0 [] none 0)) 0 cO_ cZ_ aQ_ rfl rfl rfl rfl aa v h1 h2) m_ (fun v _ h=>by exact⟨.inl rfl,.inl rfl,trivial⟩)
    refine i_ (aU_ (gn_ qu_ Tryz.sizeOf82 rfl rfl (by omega) (by omega)) (show _=zp_ b5 3 from by rw[hk];rfl)) rfl ?_
    refine Zz 6 ?_
    refine ep_ (H':=((b1,.cells #[.slice none 0 0,.slice none 0 0] 39 (0,0))::((b5,.cells #[.slice none 0 0,.slice (some ⟨r1,0,none⟩) 6 6,.slice (some ⟨r2,0,none⟩) 4 4,.slice (some ⟨r3,0,none⟩) 2 2] 83 (0,0))::((b6,.cells #[.int .i64 f.kind,str f.a,str f.b,str f.r,.int .i64 f.lo,.int .i64 f.hi] 24 (0,0))::(Ha1++(Hu1++(Ho1++(Hi1++(Hr1++(Hm1++((b4,.cells #[sv1] 37 (0,0))::(kb,.map es1 ce1)::([(fb,.map ef1 cf1)]++Hq1)))))))))))) (g_ (c_ (c_ (c_ d_))) (g_ (c_ (c_ (c_ d_))) (g_ (c_ (c_ d_)) (o_ (c_ (c_ j_)) (o_ (c_ (c_ j_)) (o_ (c_ (c_ j_)) (o_ (c_ (c_ j_)) (o_ (c_ (c_ j_)) (o_ (c_ (c_ j_)) (g_ d_ (g_ d_ (o_ j_ aH_)))))))))))) (fun v _ h=>h) ?_
    refine U_ (ι:={y:Nat×Hp // y.1≤2∧((EA m hm (EngB.mk g pb ab ub ob ib rb sb lad lcap (ai_ (uniq [] p))) b2 b3 b4 kb fb)).St (rls (bj_ m) idk (aG_ (uniq [] p)) (Ix.add x (decide (f∈fm)) f) f y.1 (q,fm)).1 (rls (bj_ m) idk (aG_ (uniq [] p)) (Ix.add x (decide (f∈fm)) f) f y.1 (q,fm)).2 y.2∧(y.1=0∨((rls (bj_ m) idk (aG_ (uniq [] p)) (Ix.add x (decide (f∈fm)) f) f y.1 (q,fm)).1).length≤m)}) (fun y=>[(0,.slice pad (List.length p) pcap),(1,.int .i64 bu),(4,zp_ b1 0),(7,zp_ b2 0),(8,zp_ b3 0),(9,zp_ b4 0),(10,.slice aad (List.length (atS p)) acap),(11,zp_ b5 0),(12,.int .i64 (n:Int)),(13,zp_ b6 0),(60,.slice (some ⟨r3,0,none⟩) 2 2),(61,.int .i64 2),(62,.int .i64 (y.1.1:Int))]) (fun y=>((b1,.cells #[.slice none 0 0,.slice none 0 0] 39 (0,0))::((b5,.cells #[.slice none 0 0,.slice (some ⟨r1,0,none⟩) 6 6,.slice (some ⟨r2,0,none⟩) 4 4,.slice (some ⟨r3,0,none⟩) 2 2] 83 (0,0))::((b6,.cells #[.int .i64 f.kind,str f.a,str f.b,str f.r,.int .i64 f.lo,.int .i64 f.hi] 24 (0,0))::(Ha1++(Hu1++(Ho1++(Hi1++(Hr1++(Hm1++y.1.2)))))))))) (fun y=>[am_ (some ⟨r1,0,none⟩) (List.flatMap fvC (rlV g 1)),am_ (some ⟨r2,0,none⟩) (List.flatMap fvC (rlV g 2)),am_ (some ⟨r3,0,none⟩) (List.flatMap fvC (rlV g 3)),am_ aad (List.flatMap aV_ (atS p)),mlF Tryz.prog 145 Ky.val Pc.cells pb (aG_ (uniq [] p)) adr,ek_ g (.cells #[.map (some pb),.slice lad (List.length (ai_ (uniq [] p))) lcap,.map (some kb),.func (.func 41) #[] #[zp_ b2 0,zp_ b3 0,zp_ b4 0],.map (some ab),.map (some ub),.map (some ob),.map (some ib),.map (some rb),.map (some sb),.map (some fb)] 80 (0,0)),ek_ b3 (.cells #[.int .i64 (m:Int)] 3 (0,0)),ek_ b2 (.cells #[zp_ g 0] 71 (0,0)),am_ lad (List.flatMap aV_ (ai_ (uniq [] p))),am_ pad (List.flatMap Pc.cells p),gH_]) (fun y=>2 - y.1.1) ⟨((0:Nat),((b4,.cells #[sv1] 37 (0,0))::(kb,.map es1 ce1)::([(fb,.map ef1 cf1)]++Hq1))),by omega,by exact⟨sv1,es1,ce1,ef1,cf1,qf1,Hq1,rfl,hrQ1,hEk1,hEf1,hqf1⟩,.inl rfl⟩ zl zp zh ?_
    rintro ⟨⟨j,Hs⟩,hj,hS2,hjm⟩
    dsimp only at hj hS2 hjm ⊢
    refine Zi 2 (fun hr15=>?_) fun hr15=>?_
    ·have ej:j=2:=by omega
     have hjl:((rls (bj_ m) idk (aG_ (uniq [] p)) (Ix.add x (decide (f∈fm)) f) f j (q,fm)).1).length≤m:=hjm.resolve_left (by omega)
     rw[ej]at hjl hS2
     refine Zz 12 ?_
     exact z_ ⟨(n+1,(rls (bj_ m) idk (aG_ (uniq [] p)) (Ix.add x (decide (f∈fm)) f) f 2 (q,fm)).1,(rls (bj_ m) idk (aG_ (uniq [] p)) (Ix.add x (decide (f∈fm)) f) f 2 (q,fm)).2,(Ix.add x (decide (f∈fm)) f),Ha1,Hu1,Ho1,Hi1,Hr1,Hm1,Hs),(hH_ hvk hL hf (by have e:nrl f=2:=(by unfold nrl;simp[hk]);rw[e]) (by omega)),(by exact hS2),hI1,(ig_ hz _ f)⟩ (by dsimp only;omega) zl (g_ d_ (g_ d_ (o_ (c_ j_) (o_ (c_ j_) (o_ (c_ j_) (o_ (c_ j_) (o_ (c_ j_) (o_ (c_ j_) G_)))))))) zh
    have hlfv:j<List.length (rlV g 3):=by show j<2;omega
    obtain⟨fv,hfv⟩:∃ e0,(rlV g 3)[j]? = some e0:=⟨_,List.getElem?_eq_getElem hlfv⟩
    have hmfv:fv∈(rlV g 3):=List.mem_of_getElem? hfv
    refine Zz 10 ?_
    refine i_ (X_ bh_ eN_ rfl rfl (fun v _ h=>E_ (n:=1) hq_ (by decide) (by exact h.2.2.1) hfv) (by omega) (by omega)) rfl (i_ (av_ (ad:=(some ⟨r3,0,none⟩)) Tryz.isAgg75 rfl zf (t_ hq_ hfv 0 _ rfl)) rfl (Zz 7 ?_))
    obtain⟨nr,rfl,hT⟩:=so_ (EngB.mk g pb ab ub ob ib rb sb lad lcap (ai_ (uniq [] p))) (EA m hm (EngB.mk g pb ab ub ob ib rb sb lad lcap (ai_ (uniq [] p))) b2 b3 b4 kb fb) (EngA.mk adr (fun _=>(none,0)) (fun _=>(none,0)) (fun _=>(none,0)) (fun _=>(none,0)) (fun _=>(none,0)) (fun _=>(none,0))) (aG_ (uniq [] p)) (Ix.add x (decide (f∈fm)) f) f (rls (bj_ m) idk (aG_ (uniq [] p)) (Ix.add x (decide (f∈fm)) f) f j (q,fm)).1 (rls (bj_ m) idk (aG_ (uniq [] p)) (Ix.add x (decide (f∈fm)) f) f j (q,fm)).2 Hs hS2 Ha1 Hu1 Ho1 Hi1 Hr1 Hm1 hI1 hpl hxl1 hyl1 (fun hk=>(gd_ hform hk).2.2) (fun _ y hy=>(hvk y (pm9.1 hy).1).num (.inr (pm9.1 hy).2.1)) hk j hfv
    refine ap_ (first:=[zp_ g 0]) (vs:=[Fc.val f]) (cap:=[]) hT rfl rfl (nN_ (o_ (c_ (c_ (c_ j_))) (o_ (c_ (c_ (c_ j_))) (o_ (c_ (c_ (c_ j_))) (o_ (c_ (c_ (c_ j_))) (o_ (c_ (c_ (c_ j_))) (o_ (c_ (c_ (c_ j_))) (c_ (c_ G_))))))))) (fun v _ h=>by exact⟨h.2.2.2.2.2.1,h.2.2.2.2.1,⟨h.2.2.2.2.2.2.2.1,h.2.2.2.2.2.2.1,h.2.2.2.2.2.1⟩,trivial⟩) rfl fun⟨Hs3,hS3⟩=>x_ lN_ (Zz 2 ?_)
    refine x_ (q_ (e_ (e_ (e_ (e_ (e_ (e_ (e_ d_))))))) (q_ (e_ (e_ (e_ (e_ (e_ (e_ (e_ d_))))))) (ao_ (e_ (e_ (e_ (e_ (e_ (e_ aa_))))))))) (Zz 2 ?_)
    refine s_ 0 [0,1,2,3,4,5,6] zk zs (Zz 4 ?_)
    refine R_ rfl (aU_ (fi_ (E:=(EA m hm (EngB.mk g pb ab ub ob ib rb sb lad lcap (ai_ (uniq [] p))) b2 b3 b4 kb fb)) (nw:=(rls (bj_ m) idk (aG_ (uniq [] p)) (Ix.add x (decide (f∈fm)) f) f (j+1) (q,fm)).1) (Hs:=Hs3) hS3 aL_ rfl zp) (show _=Value.int .i64 (List.length (rls (bj_ m) idk (aG_ (uniq [] p)) (Ix.add x (decide (f∈fm)) f) f (j+1) (q,fm)).1:Int) from rfl)) rfl (Zi 1 (fun hr16=>?_) fun hr16=>?_)
    ·refine Zz 11 ?_
     exact z_ ⟨(j+1,Hs3),hlfv,by exact hS3,.inr (by dsimp only;omega)⟩ (by dsimp only;omega) zl zp zh
    refine Zz 9 ?_
    refine s_ 0 [0,1,2,3,4,5,6] zk zs (Zz 4 ?_)
    refine R_ rfl (aU_ (fi_ (E:=(EA m hm (EngB.mk g pb ab ub ob ib rb sb lad lcap (ai_ (uniq [] p))) b2 b3 b4 kb fb)) (nw:=(rls (bj_ m) idk (aG_ (uniq [] p)) (Ix.add x (decide (f∈fm)) f) f (j+1) (q,fm)).1) (Hs:=Hs3) hS3 aL_ rfl zp) (show _=Value.int .i64 (List.length (rls (bj_ m) idk (aG_ (uniq [] p)) (Ix.add x (decide (f∈fm)) f) f (j+1) (q,fm)).1:Int) from rfl)) rfl (Zi 1 (fun hr17=>?_) fun hr17=>?_)
    ·omega
    refine Zi 8 (fun hr18=>?_) fun hr18=>?_
    ·refine Zz 7 ?_
     refine i_ (H_ eP_ rfl rfl) rfl (y_ 0 aQ_ rfl rfl rfl rfl rfl rfl (Zz 4 ?_))
     exact fn_ ⟨((Cl.mk [] none 0 [] none 0),2),ej_ hchk hb0 hb1 hm0' (by rw[if_neg (by assumption)]) (ck_ hvk hL hf (j+1) rfl).1 (ck_ hvk hL hf (j+1) rfl).2.2.1 (by omega)⟩ (fun aa v h1 h2=>ds_ (us:=Cl.cells (Cl.mk [] none 0 [] none 0)) 0 cO_ cZ_ aQ_ rfl rfl rfl rfl aa v h1 h2) m_ (fun v _ h=>by exact⟨.inl rfl,.inl rfl,trivial⟩)
    refine Zz 5 ?_
    refine i_ (H_ eP_ rfl rfl) rfl (y_ 0 aQ_ rfl rfl rfl rfl rfl rfl (Zz 4 ?_))
    exact fn_ ⟨((Cl.mk [] none 0 [] none 0),3),ej_ hchk hb0 hb1 hm0' (by rw[if_pos (by assumption)]) (ck_ hvk hL hf (j+1) rfl).1 (ck_ hvk hL hf (j+1) rfl).2.2.1 (by omega)⟩ (fun aa v h1 h2=>ds_ (us:=Cl.cells (Cl.mk [] none 0 [] none 0)) 0 cO_ cZ_ aQ_ rfl rfl rfl rfl aa v h1 h2) m_ (fun v _ h=>by exact⟨.inl rfl,.inl rfl,trivial⟩)
   refine Zz 6 ?_
   refine i_ (H_ eP_ rfl rfl) rfl (y_ 0 aQ_ rfl rfl rfl rfl rfl rfl (Zz 4 ?_))
   exact fn_ ⟨((Cl.mk [] none 0 [] none 0),1),nx_ (by assumption) (by omega)⟩ (fun aa v h1 h2=>ds_ (us:=Cl.cells (Cl.mk [] none 0 [] none 0)) 0 cO_ cZ_ aQ_ rfl rfl rfl rfl aa v h1 h2) m_ (fun v _ h=>by exact⟨.inl rfl,.inl rfl,trivial⟩)
  refine Zz 9 ?_
  refine i_ (H_ eP_ rfl rfl) rfl (y_ 0 aQ_ rfl rfl rfl rfl rfl rfl (Zz 4 ?_))
  exact fn_ ⟨((Cl.mk [] none 0 [] none 0),1),nx_ (by assumption) (by omega)⟩ (fun aa v h1 h2=>ds_ (us:=Cl.cells (Cl.mk [] none 0 [] none 0)) 0 cO_ cZ_ aQ_ rfl rfl rfl rfl aa v h1 h2) m_ (fun v _ h=>by exact⟨.inl rfl,.inl rfl,trivial⟩)
 refine Zz 5 ?_
 refine i_ (H_ eP_ rfl rfl) rfl (Zz 1 ?_)
 refine y_ 0 aQ_ rfl rfl rfl rfl rfl rfl (Zz 4 ?_)
 exact fn_ ⟨((Cl.mk [] none 0 [] none 0),(cP_ p)),rV_ (by assumption)⟩ (fun aa v h1 h2=>ds_ (us:=Cl.cells (Cl.mk [] none 0 [] none 0)) 0 cO_ cZ_ aQ_ rfl rfl rfl rfl aa v h1 h2) m_ (fun v _ h=>by exact⟨.inl rfl,.inl rfl,trivial⟩)
end Go.Proofs.YtkeanlfhghlgiaaGreatDoor
namespace Go.Proofs.YtkeanlfhghlgiaaGreatDoor
open Go Go.Sx Go.Proofs
attribute [local irreducible] Code.wp wpList wpAnyH
open Go.Vs
def rp_ (f:Fc):Bool:=decide (f=B_ f.a f.b)
def eT_ (A:List Str) (f:Fc):Bool :=
  decide (f.a∈A)&&(if f.kind=1 then decide (f.b∈A)&&rp_ f
    else if f.kind=2 then decide (f.b∈A)&&(decide (f.r≠[])&&decide (f=F_ f.a f.r f.b))
    else if f.kind=3 then decide (f.r≠[])&&(decide (f=N_ f.a f.r f.lo f.hi)&&(decide (-1099511627776≤f.lo)&&(decide (f.lo≤f.hi)&&decide (f.hi≤1099511627776))))
    else false)
abbrev SrtS (l:List Str):Prop:=l.Pairwise fun x y=>x<y
end Go.Proofs.YtkeanlfhghlgiaaGreatDoor
namespace Go.Proofs.YtkeanlfhghlgiaaGreatDoor
open Go Go.Sx Go.Proofs
attribute [local irreducible] Code.wp wpList wpAnyH
open Go.Vs
theorem SrtS.nodup {l:List Str} (h:SrtS l):l.Nodup:=by
  unfold List.Nodup
  refine List.Pairwise.imp ?_ h
  intro a b hab e
  exact jg_ b (e▸hab)
def nm_ (fs:List Fc) (f:Fc):Bool:=fs.any fun x=>(decide (x=f)||decide (x=B_ f.a [33]))||((decide (f=N_ f.a f.r f.lo f.hi)&&decide (x=N_ f.a f.r x.lo x.hi))&&(decide (f.lo≤x.lo)&&decide (x.hi≤f.hi)))
def kq_ (f x:Fc):Bool:=(decide (x=f)||decide (x=B_ f.a [33]))||((decide (f=N_ f.a f.r f.lo f.hi)&&decide (x=N_ f.a f.r x.lo x.hi))&&(decide (f.lo≤x.lo)&&decide (x.hi≤f.hi)))
theorem any_no {α:Type} {p:α→Bool} {l:List α} {j:Nat} {x:α} (h:∀ y∈l.take j,p y=false) (hx:l[j]? = some x) (hp:p x=false):∀ y∈l.take (j+1),p y=false:=fun y hy=>by
 rw[List.take_add_one,hx]at hy
 simp only[Option.toList_some,List.mem_append,List.mem_singleton]at hy
 rcases hy with hy|rfl
 ·exact h y hy
 exact hp
theorem oN_ {α:Type} {p:α→Bool} {l:List α} {j:Nat} (h:∀ y∈l.take j,p y=false) (hj:l.length≤j):false=l.any p:=by
  rw[List.take_of_length_le hj]at h
  symm;rw[List.any_eq_false];exact fun y hy=>by simp[h y hy]
theorem hb_ {α:Type} {p:α→Bool} {l:List α} {x:α} (hx:x∈l) (hp:p x=true):true=l.any p:=(List.any_eq_true.2 ⟨x,hx,hp⟩).symm
theorem der_c (c:Cl) (f:Fc) (hf:c.facts.length≤1000000000000):Tri Tryz.prog 18 #[Cl.val c,Fc.val f] [] [am_ c.fad (List.flatMap Fc.cells c.facts)] (fun _:Unit=>.bool (nm_ c.facts f)) (fun _=>[]) (fun _=>[]):=by
 refine w_ Tryz.func18 rfl rfl Tryz.ntmps18 rfl fun v0=>?_
 refine Zz 2 ?_
 refine ay_ rfl rfl fun b1=>ay_ rfl rfl fun b2=>Zz 7 ?_
 refine n_ (fk_ f.a [33]) rfl m_ zt rfl fun _=>J_ ab_ rfl fun b3=>y_ 0 A_ rfl rfl rfl rfl rfl rfl (Zz 4 ?_)
 refine s_ 3 [0,1,2,3,4,5,6,7,8] zk zs (Zz 10 ?_)
 refine l_ 9 rfl zk (n_ (jH_ f.a f.r f.lo f.hi) rfl m_ zt rfl fun _=>Zz 3 ?_)
 refine s_ 0 [10,11] zk zs (cF_ rfl (aF_ (p:=f) (q:=(N_ f.a f.r f.lo f.hi)) rfl rfl) rfl fun r1 hr1=>Zz 14 ?_)
 cases r1
 ·replace hr1:=zdf hr1
  refine U_ (ι:={y:Nat // y≤List.length c.facts∧∀ z∈List.take y c.facts,kq_ f z=false}) (fun y=>[(2,zp_ b1 0),(3,zp_ b2 0),(5,zp_ b3 0),(6,.bool false),(24,.slice c.fad (List.length c.facts) c.fcap),(25,.int .i64 (List.length c.facts:Int)),(26,.int .i64 (y.1:Int))]) (fun y=>((b3,.cells #[.int .i64 (Fc.kind (B_ f.a [33])),str (Fc.a (B_ f.a [33])),str (Fc.b (B_ f.a [33])),str (Fc.r (B_ f.a [33])),.int .i64 (Fc.lo (B_ f.a [33])),.int .i64 (Fc.hi (B_ f.a [33]))] 24 (0,0))::((b2,.cells #[.int .i64 f.kind,str f.a,str f.b,str f.r,.int .i64 f.lo,.int .i64 f.hi] 24 (0,0))::((b1,.cells #[.slice c.aad (List.length c.atoms) c.acap,.slice c.fad (List.length c.facts) c.fcap] 39 (0,0))::[])))) (fun y=>[am_ c.fad (List.flatMap Fc.cells c.facts)]) (fun y=>List.length c.facts - y.1) ⟨(0:Nat),by simp,by simp⟩ zl zp zh ?_
  rintro ⟨j,hj,hall⟩
  dsimp only at hj hall ⊢
  refine Zi 2 (fun hr2=>?_) fun hr2=>?_
  ·refine Zz 12 ?_
   exact al_ gL_ () (u_ rfl (oN_ hall (by omega))) m_ zt
  obtain⟨hlx2,x2,hx2,hmx2⟩:=zge (show j<List.length c.facts by omega)
  refine Zz 12 ?_
  refine J_ ab_ rfl fun b4=>y_ 0 A_ rfl rfl rfl rfl rfl rfl (Zz 7 ?_)
  refine aN_ (aF_ (p:=x2) (q:=f) rfl rfl) rfl fun r3 hr3=>Zz 1 ?_
  cases r3
  ·replace hr3:=zdf hr3
   refine Zz 5 ?_
   refine aN_ (aF_ (p:=x2) (q:=(B_ f.a [33])) rfl rfl) rfl fun r4 hr4=>Zz 3 ?_
   cases r4
   ·replace hr4:=zdf hr4
    refine Zz 5 ?_
    refine s_ 0 [0,1,2,3,4,5,6,7,8,9,10,11,12,13,14,15,16,17,18,19,20,21,22,23,24,25,26,27] zk zs (Zz 39 ?_)
    exact z_ ⟨j+1,hlx2,any_no hall hx2 (by have p1:=eq_false hr1;have p2:=eq_true hr2;have p3:=eq_false hr3;have p4:=eq_false hr4;simp only[kq_,p1,p2,p3,p4,if_true,if_false,decide_true,decide_false,Bool.and_true,Bool.and_false,Bool.true_and,Bool.false_and,Bool.or_true,Bool.or_false,Bool.true_or,Bool.false_or,Bool.not_true,Bool.not_false,ne_eq,not_true_eq_false,not_false_eq_true,true_and,and_true,false_and,and_false,true_or,or_true,false_or,or_false,ite_true,ite_false,Bool.false_eq_true])⟩ (by dsimp only;omega) zl (g_ (c_ d_) (g_ (c_ d_) (c_ d_))) zh
   replace hr4:=zdt hr4
   refine Zz 7 ?_
   exact al_ gL_ () (u_ rfl (hb_ hmx2 (by have p1:=eq_false hr1;have p2:=eq_true hr2;have p3:=eq_false hr3;have p4:=eq_true hr4;simp only[kq_,p1,p2,p3,p4,if_true,if_false,decide_true,decide_false,Bool.and_true,Bool.and_false,Bool.true_and,Bool.false_and,Bool.or_true,Bool.or_false,Bool.true_or,Bool.false_or,Bool.not_true,Bool.not_false,ne_eq,not_true_eq_false,not_false_eq_true,true_and,and_true,false_and,and_false,true_or,or_true,false_or,or_false,ite_true,ite_false,Bool.false_eq_true]))) m_ zt
  replace hr3:=zdt hr3
  refine Zz 13 ?_
  exact al_ gL_ () (u_ rfl (hb_ hmx2 (by have p1:=eq_false hr1;have p2:=eq_true hr2;have p3:=eq_true hr3;simp only[kq_,p1,p2,p3,if_true,if_false,decide_true,decide_false,Bool.and_true,Bool.and_false,Bool.true_and,Bool.false_and,Bool.or_true,Bool.or_false,Bool.true_or,Bool.false_or,Bool.not_true,Bool.not_false,ne_eq,not_true_eq_false,not_false_eq_true,true_and,and_true,false_and,and_false,true_or,or_true,false_or,or_false,ite_true,ite_false,Bool.false_eq_true]))) m_ zt
 replace hr1:=zdt hr1
 refine U_ (ι:={y:Nat // y≤List.length c.facts∧∀ z∈List.take y c.facts,kq_ f z=false}) (fun y=>[(2,zp_ b1 0),(3,zp_ b2 0),(5,zp_ b3 0),(6,.bool true),(24,.slice c.fad (List.length c.facts) c.fcap),(25,.int .i64 (List.length c.facts:Int)),(26,.int .i64 (y.1:Int))]) (fun y=>((b3,.cells #[.int .i64 (Fc.kind (B_ f.a [33])),str (Fc.a (B_ f.a [33])),str (Fc.b (B_ f.a [33])),str (Fc.r (B_ f.a [33])),.int .i64 (Fc.lo (B_ f.a [33])),.int .i64 (Fc.hi (B_ f.a [33]))] 24 (0,0))::((b2,.cells #[.int .i64 f.kind,str f.a,str f.b,str f.r,.int .i64 f.lo,.int .i64 f.hi] 24 (0,0))::((b1,.cells #[.slice c.aad (List.length c.atoms) c.acap,.slice c.fad (List.length c.facts) c.fcap] 39 (0,0))::[])))) (fun y=>[am_ c.fad (List.flatMap Fc.cells c.facts)]) (fun y=>List.length c.facts - y.1) ⟨(0:Nat),by simp,by simp⟩ zl zp zh ?_
 rintro ⟨j,hj,hall⟩
 dsimp only at hj hall ⊢
 refine Zi 2 (fun hr5=>?_) fun hr5=>?_
 ·refine Zz 12 ?_
  exact al_ gL_ () (u_ rfl (oN_ hall (by omega))) m_ zt
 obtain⟨hlx2,x2,hx2,hmx2⟩:=zge (show j<List.length c.facts by omega)
 refine Zz 12 ?_
 refine J_ ab_ rfl fun b5=>y_ 0 A_ rfl rfl rfl rfl rfl rfl (Zz 7 ?_)
 refine aN_ (aF_ (p:=x2) (q:=f) rfl rfl) rfl fun r6 hr6=>Zz 1 ?_
 cases r6
 ·replace hr6:=zdf hr6
  refine Zz 5 ?_
  refine aN_ (aF_ (p:=x2) (q:=(B_ f.a [33])) rfl rfl) rfl fun r7 hr7=>Zz 3 ?_
  cases r7
  ·replace hr7:=zdf hr7
   refine Zz 5 ?_
   refine s_ 17 [0,1,2,3,4,5,6,7,8,9,10] zk zs (Zz 12 ?_)
   refine l_ 11 rfl zk (aJ_ rfl rfl (n_ (jH_ f.a f.r x2.lo x2.hi) rfl m_ zt rfl fun _=>Zz 3 ?_))
   refine s_ 13 [12,13,14] zk zs (bx_ rfl rfl rfl (aF_ (p:=x2) (q:=(N_ f.a f.r x2.lo x2.hi)) rfl rfl) rfl fun r8 hr8=>Zz 3 ?_)
   cases r8
   ·replace hr8:=zdf hr8
    refine s_ 0 [15,16,17,18,19,20,21,22,23,24,25,26,27] zk zs (Zz 24 ?_)
    exact z_ ⟨j+1,hlx2,any_no hall hx2 (by have p1:=eq_true hr1;have p2:=eq_true hr5;have p3:=eq_false hr6;have p4:=eq_false hr7;have p5:=eq_false hr8;simp only[kq_,p1,p2,p3,p4,p5,if_true,if_false,decide_true,decide_false,Bool.and_true,Bool.and_false,Bool.true_and,Bool.false_and,Bool.or_true,Bool.or_false,Bool.true_or,Bool.false_or,Bool.not_true,Bool.not_false,ne_eq,not_true_eq_false,not_false_eq_true,true_and,and_true,false_and,and_false,true_or,or_true,false_or,or_false,ite_true,ite_false,Bool.false_eq_true])⟩ (by dsimp only;omega) zl (g_ (c_ d_) (g_ (c_ d_) (c_ d_))) zh
   replace hr8:=zdt hr8
   refine s_ 6 [15,16,17,18,19,20,21] zk zs (Zi 4 (fun hr9=>?_) fun hr9=>?_)
   ·refine Zz 3 ?_
    refine s_ 0 [22,23,24,25,26,27] zk zs (Zz 17 ?_)
    exact z_ ⟨j+1,hlx2,any_no hall hx2 (by have p1:=eq_true hr1;have p2:=eq_true hr5;have p3:=eq_false hr6;have p4:=eq_false hr7;have p5:=eq_true hr8;have p6:=eq_false hr9;simp only[kq_,p1,p2,p3,p4,p5,p6,if_true,if_false,decide_true,decide_false,Bool.and_true,Bool.and_false,Bool.true_and,Bool.false_and,Bool.or_true,Bool.or_false,Bool.true_or,Bool.false_or,Bool.not_true,Bool.not_false,ne_eq,not_true_eq_false,not_false_eq_true,true_and,and_true,false_and,and_false,true_or,or_true,false_or,or_false,ite_true,ite_false,Bool.false_eq_true])⟩ (by dsimp only;omega) zl (g_ (c_ d_) (g_ (c_ d_) (c_ d_))) zh
   refine Zz 3 ?_
   refine s_ 0 [22,23,24,25,26,27] zk zs (Zi 4 (fun hr10=>?_) fun hr10=>?_)
   ·refine Zz 12 ?_
    exact z_ ⟨j+1,hlx2,any_no hall hx2 (by have p1:=eq_true hr1;have p2:=eq_true hr5;have p3:=eq_false hr6;have p4:=eq_false hr7;have p5:=eq_true hr8;have p6:=eq_true hr9;have p7:=eq_false hr10;simp only[kq_,p1,p2,p3,p4,p5,p6,p7,if_true,if_false,decide_true,decide_false,Bool.and_true,Bool.and_false,Bool.true_and,Bool.false_and,Bool.or_true,Bool.or_false,Bool.true_or,Bool.false_or,Bool.not_true,Bool.not_false,ne_eq,not_true_eq_false,not_false_eq_true,true_and,and_true,false_and,and_false,true_or,or_true,false_or,or_false,ite_true,ite_false,Bool.false_eq_true])⟩ (by dsimp only;omega) zl (g_ (c_ d_) (g_ (c_ d_) (c_ d_))) zh
   refine Zz 11 ?_
   exact al_ gL_ () (u_ rfl (hb_ hmx2 (by have p1:=eq_true hr1;have p2:=eq_true hr5;have p3:=eq_false hr6;have p4:=eq_false hr7;have p5:=eq_true hr8;have p6:=eq_true hr9;have p7:=eq_true hr10;simp only[kq_,p1,p2,p3,p4,p5,p6,p7,if_true,if_false,decide_true,decide_false,Bool.and_true,Bool.and_false,Bool.true_and,Bool.false_and,Bool.or_true,Bool.or_false,Bool.true_or,Bool.false_or,Bool.not_true,Bool.not_false,ne_eq,not_true_eq_false,not_false_eq_true,true_and,and_true,false_and,and_false,true_or,or_true,false_or,or_false,ite_true,ite_false,Bool.false_eq_true]))) m_ zt
  replace hr7:=zdt hr7
  refine Zz 7 ?_
  exact al_ gL_ () (u_ rfl (hb_ hmx2 (by have p1:=eq_true hr1;have p2:=eq_true hr5;have p3:=eq_false hr6;have p4:=eq_true hr7;simp only[kq_,p1,p2,p3,p4,if_true,if_false,decide_true,decide_false,Bool.and_true,Bool.and_false,Bool.true_and,Bool.false_and,Bool.or_true,Bool.or_false,Bool.true_or,Bool.false_or,Bool.not_true,Bool.not_false,ne_eq,not_true_eq_false,not_false_eq_true,true_and,and_true,false_and,and_false,true_or,or_true,false_or,or_false,ite_true,ite_false,Bool.false_eq_true]))) m_ zt
 replace hr6:=zdt hr6
 refine Zz 13 ?_
 exact al_ gL_ () (u_ rfl (hb_ hmx2 (by have p1:=eq_true hr1;have p2:=eq_true hr5;have p3:=eq_true hr6;simp only[kq_,p1,p2,p3,if_true,if_false,decide_true,decide_false,Bool.and_true,Bool.and_false,Bool.true_and,Bool.false_and,Bool.or_true,Bool.or_false,Bool.true_or,Bool.false_or,Bool.not_true,Bool.not_false,ne_eq,not_true_eq_false,not_false_eq_true,true_and,and_true,false_and,and_false,true_or,or_true,false_or,or_false,ite_true,ite_false,Bool.false_eq_true]))) m_ zt
end Go.Proofs.YtkeanlfhghlgiaaGreatDoor
namespace Go.Proofs.YtkeanlfhghlgiaaGreatDoor
open Go Go.Sx Go.Proofs
attribute [local irreducible] Code.wp wpList wpAnyH
open Go.Vs
theorem dE {p:Prop} {i:Decidable p}:(@decide p i=true)↔p:=⟨fun h=>of_decide_eq_true h,fun h=>decide_eq_true h⟩
theorem tp_ (p:List Pc):[42]∈atS p:=(fD_ p _).2 (.inr (.inl rfl))
theorem oM_ (p:List Pc):[33]∈atS p:=(fD_ p _).2 (.inr (.inr rfl))
theorem at_of {p:List Pc} {x:Pc} (hx:x∈p) {s:Str} (hs:s=x.a∨s=x.b∨s=x.c) (hn:s≠[]):s∈atS p:=by
  refine (fD_ p s).2 (.inl ((ed_ p s).2 ?_))
  refine List.mem_flatMap.2 ⟨x,hx,List.mem_filter.2 ⟨?_,by simpa using hn⟩⟩
  rcases hs with rfl|rfl|rfl<;>simp
theorem to_ {s:Str} (h:bD_ s=true):s≠[]:=fun e=>by subst e;revert h;decide
theorem sf_ {p:Pc} (h:p.valid=true) (hk:p.kind=1∨p.kind=2∨p.kind=3∨p.kind=4∨p.kind=9):p.c≠[]:=by
 unfold Pc.valid at h
 split at h
 ·simp at h
 split at h
 ·simp at h
 split at h
 ·simp at h
 simp only[Bool.and_eq_true]at h
 obtain⟨⟨⟨⟨_,hc⟩,_⟩,_⟩,_⟩:=h
 have key:∀ {b:Bool},ci_ b p.c bD_=true→b=true→p.c≠[]:=fun h1 h2=>by
   subst h2;simp[ci_]at h1;exact to_ h1
 rcases hk with q|q|q|q|q<;>rw[q]at hc<;>exact key hc (by decide)
theorem fo1 {A:List Str} {a b:Str}:eT_ A (B_ a b)=true↔a∈A∧b∈A:=by
  unfold eT_ B_ rp_
  dsimp only
  rw[if_pos rfl,Bool.and_eq_true,Bool.and_eq_true,dE,dE,dE]
  simp[B_]
theorem fo2 {A:List Str} {a r b:Str}:eT_ A (F_ a r b)=true↔a∈A∧b∈A∧r≠[]:=by
  unfold eT_ F_
  dsimp only
  rw[if_neg (by decide),if_pos rfl,Bool.and_eq_true,Bool.and_eq_true,Bool.and_eq_true,dE,dE,dE,dE]
  simp[F_]
theorem fo3 {A:List Str} {a r:Str} {lo hi:Int}:eT_ A (N_ a r lo hi)=true↔a∈A∧r≠[]∧-1099511627776≤lo∧lo≤hi∧hi≤1099511627776:=by
  unfold eT_ N_
  dsimp only
  rw[if_neg (by decide),if_neg (by decide),if_pos rfl,Bool.and_eq_true,Bool.and_eq_true,Bool.and_eq_true,Bool.and_eq_true,Bool.and_eq_true,dE,dE,dE,dE,dE,dE]
  simp[N_]
theorem qQ_ {p:List Pc} {S:Fc→Prop} (hp:∀ x∈p,x.valid=true) (hS:∀ y,S y→eT_ (atS p) y=true) {y:Fc} (h:fL_ p (atS p) S y):eT_ (atS p) y=true:=by
  have hc:∀ {x:Pc},x∈p→(x.kind=1∨x.kind=2∨x.kind=3∨x.kind=4∨x.kind=9)→x.c∈atS p:=fun hx hk=>at_of hx (.inr (.inr rfl)) (sf_ (hp _ hx) hk)
  have hv:∀ {x:Pc},x∈p→x.vok:=fun hx=>hi_ (hp _ hx)
  cases h with
  | r1 h=>exact fo1.2 ⟨h,h⟩
  | r2 h=>exact fo1.2 ⟨h,tp_ p⟩
  | r10 hx hk h=>exact fo2.2 ⟨h,h,(hv hx).rok.1 (by simp[hk])⟩
  | r3 hx hk h=>exact fo1.2 ⟨(fo1.1 (hS _ h)).1,hc hx (by simp[hk])⟩
  | r4 hx hk h h'=>exact fo1.2 ⟨(fo1.1 (hS _ h)).1,hc hx (by simp[hk])⟩
  | r5 hx hk h=>exact fo2.2 ⟨(fo1.1 (hS _ h)).1,hc hx (by simp[hk]),(hv hx).rok.1 (by simp[hk])⟩
  | r6 hx hk h=>exact fo2.2 ⟨(fo2.1 (hS _ h)).1,(fo2.1 (hS _ h)).2.1,(hv hx).rok.2.2 hk⟩
  | r7 hx hk h h'=>exact fo2.2 ⟨(fo2.1 (hS _ h)).1,(fo2.1 (hS _ h')).2.1,((hv hx).rok.2.1 hk).2⟩
  | r8 hx hk h h'=>exact fo1.2 ⟨(fo2.1 (hS _ h)).1,hc hx (by simp[hk])⟩
  | r9 h h'=>exact fo1.2 ⟨(fo2.1 (hS _ h)).1,oM_ p⟩
  | r11 hx hk h=>exact fo3.2 ⟨(fo1.1 (hS _ h)).1,(hv hx).rok.1 (by simp[hk]),(hv hx).num (.inl hk)⟩
  | r12 h h' hm hl =>
    have h1:=fo3.1 (hS _ h)
    have h2:=fo3.1 (hS _ h')
    exact fo3.2 ⟨h1.1,h1.2.1,by omega,hl,by omega⟩
  | r13 h h' hm hl=>exact fo1.2 ⟨(fo3.1 (hS _ h)).1,oM_ p⟩
  | r14 hx hk h h1 h2=>exact fo1.2 ⟨(fo3.1 (hS _ h)).1,hc hx (by simp[hk])⟩
theorem der_ok {p:List Pc} (hp:∀ x∈p,x.valid=true) {y:Fc} (h:Der p (atS p) y):eT_ (atS p) y=true:=h _ fun _ hy=>qQ_ hp (fun _ h=>h) hy
theorem ha_ {p:List Pc} (h:cP_ p=0):∀ x∈p,x.valid=true:=fun x hx=>List.all_eq_true.1 (nr_ h).2 x hx
theorem fa_.good {p:List Pc} {bu:Int} {c:Cl} (h:fa_ p bu c 0):cP_ p=0∧0≤bu∧bu≤1073741824∧c.ok∧c.atoms=atS p∧fE_ p (atS p) (min bu 65536).toNat (some c.facts):=by
 unfold fa_ at h
 split at h
 ·rename_i h1;exact absurd h.2.symm h1
 rename_i h1
 split at h
 ·exact absurd h.2 (by decide)
 rename_i h2
 rcases h with h|h
 ·exact⟨by simpa using h1,by omega,by omega,h.2⟩
 have:=h.2.1;split at this<;>exact absurd this (by decide)
theorem fa_.bad {p:List Pc} {bu:Int} {c:Cl} {e:Int} (h:fa_ p bu c e) (he:e≠0):c=Cl.no:=by
 unfold fa_ at h
 split at h
 ·exact h.1
 split at h
 ·exact h.1
 rcases h with h|h
 ·exact absurd h.1 he
 exact h.1
theorem fa_.ok {p:List Pc} {bu:Int} {c:Cl} {e:Int} (h:fa_ p bu c e):c.ok:=by
 by_cases he:e=0
 ·subst he;exact h.good.2.2.2.1
 rw[h.bad he];exact Cl.no_ok
theorem fa_.len {p:List Pc} {bu:Int} {c:Cl} {e:Int} (h:fa_ p bu c e):c.atoms.length≤3*p.length+2∧c.facts.length≤65536:=by
 by_cases he:e=0
 ·subst he
  obtain⟨_,_,_,_,h1,h2⟩:=h.good
  refine⟨by rw[h1];exact mj_ p,?_⟩
  have:=h2.2.2
  omega
 rw[h.bad he];simp[Cl.no]
theorem oO_ {p:List Pc} {bu:Int} {c:Cl} {e:Int} {r:Option (List Fc)} (h:fa_ p bu c e) (hc:cP_ p=0) (hb:0≤bu) (hb2:bu≤1073741824) (hr:fE_ p (atS p) (min bu 65536).toNat r):(∀ L,r=some L→e=0∧c.facts=L∧c.atoms=atS p)∧(r=none→c=Cl.no∧e=if bu<65536 then 3 else 2):=by
 unfold fa_ at h
 rw[if_neg (by simp[hc]),if_neg (by omega)]at h
 rcases h with⟨h1,h2,h3,h4⟩|⟨h1,h2,h3⟩
 ·have e:=fE_.uniq h4 hr
  subst e
  exact⟨fun L hL=>⟨h1,Option.some.inj hL,h3⟩,fun h=>(by cases h)⟩
 have e:=fE_.uniq h3 hr
 subst e
 exact⟨fun L hL=>(by cases hL),fun _=>⟨h1,h2⟩⟩
def kM_ (p q:List Pc):Prop:=∀ x∈p,∃ y∈q,∃ n,{ y with frm:=n }=x
theorem kM_.of {p q:List Pc} (h:∀ x∈p,x∈q):kM_ p q:=fun x hx=>⟨x,h x hx,x.frm,rfl⟩
theorem kM_.at' {p q:List Pc} (h:kM_ p q):∀ s∈atS p,s∈atS q:=fun s hs=>by
 rw[fD_,ed_]at hs ⊢
 rcases hs with h1|h1
 ·obtain⟨x,hx,h2⟩:=List.mem_flatMap.1 h1
  obtain⟨y,hy,n,e⟩:=h x hx
  subst e
  exact .inl (List.mem_flatMap.2 ⟨y,hy,h2⟩)
 exact .inr h1
theorem kM_.der {p q:List Pc} (h:kM_ p q) {y:Fc} (hy:Der p (atS p) y):Der q (atS q) y:=hy.mono h h.at'
theorem kM_.trans {p q r:List Pc} (h:kM_ p q) (k:kM_ q r):kM_ p r:=fun x hx=>by
  obtain⟨y,hy,n,rfl⟩:=h x hx
  obtain⟨z,hz,m,rfl⟩:=k y hy
  exact⟨z,hz,n,rfl⟩
end Go.Proofs.YtkeanlfhghlgiaaGreatDoor
namespace Go.Proofs.YtkeanlfhghlgiaaGreatDoor
open Go Go.Sx Go.Proofs
attribute [local irreducible] Code.wp wpList wpAnyH
open Go.Vs
theorem bz_.pre {α:Type} {f:α→List Value} {n:Nat} (hf:∀ x,(f x).length=n) {l:List α} {v:Vw} {ad:Option Addr} (h:bz_ v ad (l.flatMap f)) (j:Nat):bz_ v ad ((l.take j).flatMap f) :=
  h.part fun k x hx=>by
    have e:l.flatMap f=(l.take j).flatMap f++(l.drop j).flatMap f:=by rw[← List.flatMap_append,List.take_append_drop]
    rw[e,List.getElem?_append_left (List.getElem?_eq_some_iff.1 hx).1]
    exact hx
end Go.Proofs.YtkeanlfhghlgiaaGreatDoor
namespace Go.Proofs.YtkeanlfhghlgiaaGreatDoor
open Go Go.Sx Go.Proofs
attribute [local irreducible] Code.wp wpList wpAnyH
open Go.Vs
theorem eqKy2 (p q:Ky) (w:World):(Op.equalIn 10000 111 (Ky.val p) (Ky.val q)).run Tryz.prog w=.ok (decide (p=q)) w:=by
  have h:=run_equalIn_struct (P:=Tryz.prog) w 9999 111 (Ky.cells p).toArray (Ky.cells q).toArray (by simp only[Program.fieldsOf,Tryz.underlying111]) Tryz.stoodInHeld111
  refine h.trans ?_
  rw[← Ky.eqb_eq]
  simp only[Program.fieldsOf,Tryz.underlying111]
  exact by_ rfl T_ rfl rfl (eqI bp_ w) (by_ rfl P_ rfl rfl (eqS az_ w) (by_ rfl P_ rfl rfl (eqS az_ w) (hr_ w)))
theorem sW_ (p q:eD_) (w:World):(Op.equalIn 10000 114 (aT_ p) (aT_ q)).run Tryz.prog w=.ok (decide (p=q)) w:=by
  have h:=run_equalIn_struct (P:=Tryz.prog) w 9999 114 (hW_ p).toArray (hW_ q).toArray (by simp only[Program.fieldsOf,Tryz.underlying114]) Tryz.stoodInHeld114
  refine h.trans ?_
  rw[← mx_]
  simp only[Program.fieldsOf,Tryz.underlying114]
  exact by_ rfl P_ rfl rfl (eqS az_ w) (by_ rfl P_ rfl rfl (eqS az_ w) (hr_ w))
theorem okKy2 (p:Ky):hd_ Tryz.prog 111 (Ky.val p):=fun e w=>by
 have hi:∀ (n:Int) (w:World),(Instr.checkKey e (9998+1) 3 (.int .i64 n)).run Tryz.prog w=.ok () w:=fun n w=>MapKept.run_checkKey (d:=.int .i64) bp_ (by simp[MapKept.IsKey]) e 9998
 have hs:∀ (n:Str) (w:World),(Instr.checkKey e (9998+1) 9 (str n)).run Tryz.prog w=.ok () w:=fun n w=>MapKept.run_checkKey (d:=.string) az_ (by simp[MapKept.IsKey,str]) e 9998
 refine ckF (n:=9999) Tryz.underlying111 fun f hf=>?_
 simp only[List.mem_cons,List.not_mem_nil,or_false]at hf
 rcases hf with rfl|rfl|rfl
 ·exact⟨rfl,T_,_,rfl,hi _⟩
 ·exact⟨rfl,P_,_,rfl,hs _⟩
 exact⟨rfl,P_,_,rfl,hs _⟩
theorem sD_ (p:eD_):hd_ Tryz.prog 114 (aT_ p):=fun e w=>by
 have hi:∀ (n:Int) (w:World),(Instr.checkKey e (9998+1) 3 (.int .i64 n)).run Tryz.prog w=.ok () w:=fun n w=>MapKept.run_checkKey (d:=.int .i64) bp_ (by simp[MapKept.IsKey]) e 9998
 have hs:∀ (n:Str) (w:World),(Instr.checkKey e (9998+1) 9 (str n)).run Tryz.prog w=.ok () w:=fun n w=>MapKept.run_checkKey (d:=.string) az_ (by simp[MapKept.IsKey,str]) e 9998
 refine ckF (n:=9999) Tryz.underlying114 fun f hf=>?_
 simp only[List.mem_cons,List.not_mem_nil,or_false]at hf
 rcases hf with rfl|rfl
 ·exact⟨rfl,P_,_,rfl,hs _⟩
 exact⟨rfl,P_,_,rfl,hs _⟩
theorem eA_:KeyT Tryz.prog 111 Ky.val:=eh_ (K:=Ky) Tryz.underlying111 okKy2 (fun p q w=>eqKy2 p q w) fun k=>fS_ (l:=Ky.cells k) fun v hv=>by
 simp only[Ky.cells,List.mem_cons,List.not_mem_nil,or_false]at hv
 rcases hv with rfl|rfl|rfl
 ·exact em_ _ _
 ·exact cr_ _ _
 exact cr_ _ _
theorem bS_:KeyT Tryz.prog 114 aT_:=eh_ (K:=eD_) Tryz.underlying114 sD_ (fun p q w=>sW_ p q w) fun k=>fS_ (l:=hW_ k) fun v hv=>by
 simp only[hW_,List.mem_cons,List.not_mem_nil,or_false]at hv
 rcases hv with rfl|rfl
 ·exact cr_ _ _
 exact cr_ _ _
theorem co_:Elt Tryz.prog 46 3 1 8:=lx_ Tryz.underlying46 (z:=.int .i64 0) (by kernel_rfl) rfl (by decide)
theorem ik_:Elt Tryz.prog 27 48 9 112:=lx_ Tryz.underlying27 (z:=.agg #[.int .i64 0,.int .i64 0,str [],str [],str [],.int .i64 0,.int .i64 0,.int .i64 0,.slice none 0 0]) (by kernel_rfl) rfl (by decide)
theorem dZ_:iI_ Tryz.prog 111 [(0,1),(1,1),(2,1)] [.int .i64 0,str [],str []]:=⟨_,Tryz.zeroValue111,Tryz.runUnderlying111,fun w=>by simp[p_,L_]⟩
theorem gq_:iI_ Tryz.prog 114 [(0,1),(1,1)] [str [],str []]:=⟨_,gF_,Tryz.runUnderlying114,fun w=>by simp[L_]⟩
theorem si_:iI_ Tryz.prog 105 [(0,1),(1,1),(2,1),(3,1),(4,1),(5,1),(6,1),(7,1),(8,1),(9,1)] [.slice none 0 0,.map none,.slice none 0 0,.map none,.map none,.map none,.map none,.map none,.map none,.map none]:=⟨_,Tryz.zeroValue105,au_,fun w=>by simp[eb_,eO_,Tryz.sizeOf91,Tryz.sizeOf101,Tryz.sizeOf102,Tryz.sizeOf103]⟩
theorem nD_:iI_ Tryz.prog 48 [(0,1),(1,6),(7,1),(8,1)] [.int .i64 0,.int .i64 0,str [],str [],str [],.int .i64 0,.int .i64 0,.int .i64 0,.slice none 0 0]:=⟨_,bK_,aZ_,fun w=>by simp[p_,A_,lI_]⟩
theorem Stp.cells_one (s:Stp):s.cells.all Value.oneCell'=true:=rfl
def RecR {K:Type} [DecidableEq K] (ks:List K) (vs:List Int) (k:K) (n m:Int):Prop:=(k∈ks→∃ i:Nat,ks[i]? = some k∧vs[i]? = some m)∧(k ∉ ks→m=n)
theorem dx_ {P:Program} {N:Nf} {fr:Fr} {H:Hp} {Γ:List Fct} {ty:TypeId} {s:TypeId} {x:Operand} {f b off k o:Nat} {fs:Array Field} {fd:Field} {n:Nat} (hu:∀ w,(underlying s).run P w=.ok (.struct fs) w) (hx:Fr.ev fr x=some (.pointer (some ⟨b,off+k,none⟩))) (hf:fs[f]? = some fd) (ho:fd.offset=o)
    (hs:∀ w,(sizeOf fd.type).run P w=.ok (n+1) w):Yld P N fr H Γ (.fieldAddr s x f) ty (.pointer (some ⟨b,off+(k+o),none⟩)):=by
  have:=bf_ (P:=P) (N:=N) (fr:=fr) (H:=H) (Γ:=Γ) (ty:=ty) hu hx hf ho hs
  rwa [Nat.add_assoc]at this
theorem qA_ (k:Fc) (n:Int) (ks:List Fc) (vs:List Int) (mb:Nat) (es:Array MapEntry) (c:Nat) (hE:IntE Fc.val es ks vs):Tri Tryz.prog 54 #[.map (some mb),Fc.val k,.int .i64 n] [(mb,.map es c)] [] (fun y:{y:(Bool×Int)×Array MapEntry×Nat // decide (k ∉ ks)=y.1.1∧RecR ks vs k n y.1.2∧IntE Fc.val y.2.1 (if k∈ks then ks else ks++[k]) (if k∈ks then vs else vs++[n])}=>.tuple #[.bool y.1.1.1,.int .i64 y.1.1.2]) (fun y=>[(mb,.map y.1.2.1 y.1.2.2)]) (fun _=>[]):=by
 refine w_ Tryz.func54 rfl rfl Tryz.ntmps54 rfl fun v0=>?_
 refine Zz 2 ?_
 refine ay_ rfl rfl fun b1=>Zz 9 ?_
 refine ey_ (k:=k) eU_ dS_ D_ rfl rfl hE zp rfl fun rl1 nl1 hrl1 hnl1=>Zz 12 ?_
 cases rl1
 ·replace hrl1:=zdf hrl1
  refine Zz 8 ?_
  refine jV_ (k:=k) 1 eU_ (.inr rfl) dS_ rfl rfl rfl rfl hE (by assumption) fun en1 cn1 hE1=>Zz 10 ?_
  exact pd_ Tryz.results54 ⟨((true,n),en1,cn1),by simp[*],⟨fun q=>absurd q (by assumption),fun _=>rfl⟩,by rw[if_neg (by assumption),if_neg (by assumption)];exact hE1⟩ rfl rfl rfl (c_ d_) zt
 replace hrl1:=zdt hrl1
 refine Zz 9 ?_
 exact pd_ Tryz.results54 ⟨((false,nl1),es,c),by simp[*],⟨fun _=>hnl1 rfl,fun q=>absurd (by assumption) q⟩,by rw[if_pos (by assumption),if_pos (by assumption)];exact hE⟩ rfl rfl rfl zp zt
theorem recP_c (k:Pc) (n:Int) (ks:List Pc) (vs:List Int) (mb:Nat) (es:Array MapEntry) (c:Nat) (hE:IntE Pc.val es ks vs):Tri Tryz.prog 63 #[.map (some mb),Pc.val k,.int .i64 n] [(mb,.map es c)] [] (fun y:{y:(Bool×Int)×Array MapEntry×Nat // decide (k ∉ ks)=y.1.1∧RecR ks vs k n y.1.2∧IntE Pc.val y.2.1 (if k∈ks then ks else ks++[k]) (if k∈ks then vs else vs++[n])}=>.tuple #[.bool y.1.1.1,.int .i64 y.1.1.2]) (fun y=>[(mb,.map y.1.2.1 y.1.2.2)]) (fun _=>[]):=by
 refine w_ Tryz.func63 rfl rfl Tryz.ntmps63 rfl fun v0=>?_
 refine Zz 2 ?_
 refine ay_ rfl rfl fun b1=>Zz 9 ?_
 refine ey_ (k:=k) lS_ Tryz.runUnderlying106 D_ rfl rfl hE zp rfl fun rl1 nl1 hrl1 hnl1=>Zz 12 ?_
 cases rl1
 ·replace hrl1:=zdf hrl1
  refine Zz 8 ?_
  refine jV_ (k:=k) 1 lS_ (.inr rfl) Tryz.runUnderlying106 rfl rfl rfl rfl hE (by assumption) fun en1 cn1 hE1=>Zz 10 ?_
  exact pd_ Tryz.results63 ⟨((true,n),en1,cn1),by simp[*],⟨fun q=>absurd q (by assumption),fun _=>rfl⟩,by rw[if_neg (by assumption),if_neg (by assumption)];exact hE1⟩ rfl rfl rfl (c_ d_) zt
 replace hrl1:=zdt hrl1
 refine Zz 9 ?_
 exact pd_ Tryz.results63 ⟨((false,nl1),es,c),by simp[*],⟨fun _=>hnl1 rfl,fun q=>absurd (by assumption) q⟩,by rw[if_pos (by assumption),if_pos (by assumption)];exact hE⟩ rfl rfl rfl zp zt
end Go.Proofs.YtkeanlfhghlgiaaGreatDoor
