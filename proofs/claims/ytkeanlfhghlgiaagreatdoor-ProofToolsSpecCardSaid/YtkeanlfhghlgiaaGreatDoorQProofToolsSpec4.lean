/-
  Part of the proof of the law ProofToolsSpec over this seat: the small logic, the data, the contracts of functions (no condition).
-/
import Derived.Test.YtkeanlfhghlgiaaGreatDoorQProofToolsSpec2
import Derived.Lib.SlicesCompact
import Derived.Sort.EncStr
import Derived.Test.YtkeanlfhghlgiaaGreatDoorQProofToolsSpec3
set_option linter.unusedVariables false
set_option linter.unusedSimpArgs false
set_option linter.unusedSectionVars false
set_option maxHeartbeats 1000000
namespace Go.Sx
open Go
section
variable {P:Program} {N:Nf} {fr:Fr} {H:Hp} {Γ:List Fct}
theorem nS_:∀ (x y:List UInt8),Op.bytesLess x y=decide (x<y)
  | [],[]=>by simp[Op.bytesLess]
  | _::_,[]=>by simp[Op.bytesLess]
  | [],_::_=>by simp[Op.bytesLess]
  | a::x,b::y=>by
    rw[Op.bytesLess,nS_ x y]
    simp only[List.cons_lt_cons_iff]
    by_cases h1:a<b<;>by_cases h2:a=b<;>by_cases h3:x<y<;>simp[h1,h2,h3]
theorem jN_ {t t' ty:TypeId} {x y:Operand} {m n:List UInt8} (hx:Fr.ev fr x=some (str m)) (hy:Fr.ev fr y=some (str n)):Yld P N fr H Γ (.binOp .lss t x y t') ty (.bool (decide (m<n))) :=
  fun a v h1 _ _ _ _ _=>by rw[← nS_];simp[execOp,h1.ev hx,h1.ev hy,str,eqGuard,binOp,Op.stringOp]
theorem jX_ {f:FuncId} {args:Array Value} {r:Value} {g:Nat} {cur:Array Value} {T:TypeId} {d:Array (List UInt8)} (hc:dM_ P f)
    (h:∀ v:Vw,v.sat [(g,.cells cur T (0,0))]→Calls P f args v.w fun e w'=>e=.returned r∧∃ n os,w'=Sort.grow (Sort.putRow Go.Proofs.encStr (Sort.ahead v.w n) g 0 d) os) :
    Tri P f args [(g,.cells cur T (0,0))] Γ (fun _:Unit=>r) (fun _=>[(g,.cells (Sort.putCells Go.Proofs.encStr 0 d cur) T (0,0))]) (fun _=>[]) :=
  ⟨hc,fun v h1 _=>(h v h1).mono fun e w' ⟨he,n,os,hw⟩=>by
    have hg:=(h1.own _ List.mem_cons_self)
    have hlt:g<v.w.heap.size:=(Array.getElem?_eq_some_iff.1 hg.1).1
    have hb:∀ b,b<v.w.heap.size→w'.heap[b]? = if b=g then some (.cells (Sort.putCells Go.Proofs.encStr 0 d cur) T (0,0)) else v.w.heap[b]? := fun b hb=>by
      rw[hw]
      simp only[Sort.grow,Sort.putRow,Sort.mapBlock,Sort.ahead]
      rw[Array.getElem?_append_left (by simpa using hb),Array.getElem?_modify]
      by_cases e:b=g
      · subst e
        simp only[if_true,hg.1,Option.map_some,Sort.onCells]
      · rw[if_neg (fun q=>e q.symm),if_neg e]
    have hsz:v.w.heap.size≤w'.heap.size:=by rw[hw];simp[Sort.grow,Sort.putRow,Sort.mapBlock,Sort.ahead]
    refine⟨(),⟨v.im,w',v.sl⟩,he,rfl,⟨fun p hp=>?_,by simp,fun b hbb=>Nat.lt_of_lt_of_le (h1.lt b hbb) hsz⟩,trivial,⟨by rw[hw];rfl,by rw[hw];rfl,by rw[hw];rfl,hsz,fun b hbb hn=>?_,fun _ h=>h,fun _ h=>.inl h,fun b hm=>.inl (by simpa using hm),rfl,.inr (by rw[hw];exact Nat.le_add_right _ _)⟩⟩
    · simp only[List.mem_singleton]at hp
      subst hp
      exact⟨by show w'.heap[g]? = _;rw[hb g hlt,if_pos rfl],hg.2⟩
    · have hn':b≠g:=by simpa using hn
      show w'.heap[b]? = _
      rw[hb b hbb,if_neg hn']⟩
theorem mY_ {cur:Array Value} {d:List (List UInt8)} (hs:d.length≤cur.size):(Sort.putCells Go.Proofs.encStr 0 d.toArray cur).toList.take d.length=d.flatMap aV_:=by
 rw[ir_]
 apply List.ext_getElem?
 intro j
 rw[List.getElem?_take,List.getElem?_map]
 split
 ·rename_i hj
  simp only[Sort.putCells,Array.getElem?_toList,Array.getElem?_mapIdx]
  rw[Array.getElem?_eq_getElem (by omega)]
  simp only[Option.map_some,Nat.zero_le,true_and,Nat.zero_add,List.size_toArray,hj,if_true,Nat.sub_zero]
  rw[List.getElem?_eq_getElem hj]
  simp only[Option.map_some]
  rw[getElem!_pos d.toArray j (by simpa using hj)]
  rfl
 rename_i hj
 rw[List.getElem?_eq_none (by omega)];rfl
theorem mZ_ {cur:Array Value} {d:Array (List UInt8)}:(Sort.putCells Go.Proofs.encStr 0 d cur).size=cur.size:=by simp[Sort.putCells]
end
end Go.Sx
namespace Go.Vs
open Go Go.Sx
def ih_ (p:Pc):List Str:=[p.a,p.b,p.c].filter fun s=>!(s==[])
def ct_ (l:List Pc):List Str:=l.flatMap ih_
def dK_ (l:List Pc):List Str:=Lib.compact ((ct_ l).mergeSort fun x y=>decide (x≤y))
theorem if_:∀ l:List Pc,(ct_ l).length≤3*l.length
  | []=>by simp[ct_]
  | p::r=>by
    have h1:=if_ r
    have h2:(ih_ p).length≤3:=by unfold ih_;exact List.length_filter_le _ _
    simp only[ct_,List.flatMap_cons,List.length_append,List.length_cons]at h1 ⊢
    omega
theorem mT_ (l:List Str):(l.mergeSort fun x y=>decide (x≤y)).Pairwise fun x y=>x≤y:=by
  have h:=List.pairwise_mergeSort (le:=fun x y:Str=>decide (x≤y)) (fun a b c h1 h2=>by simp only[decide_eq_true_eq]at *;exact List.le_trans h1 h2) (fun a b=>by
    simp only[Bool.or_eq_true,decide_eq_true_eq];exact List.le_total a b) l
  exact h.imp (fun h=>of_decide_eq_true h)
theorem hr_ {zs:List Str}:Lib.compact zs=((List.range zs.length).filter fun j=>decide (j=0∨zs[j]! ≠ zs[j - 1]!)).map fun j=>zs[j]! := by
 unfold Lib.compact Lib.compactUpTo Lib.keeps
 have e:∀ j,zs.toArray[j]! = zs[j]! := fun j=>by
   by_cases h:j<zs.length
   · rw[getElem!_pos zs.toArray j (by simpa using h),getElem!_pos zs j h];simp
   · rw[getElem!_neg zs.toArray j (by simpa using h),getElem!_neg zs j h]
 rw[List.map_congr_left fun j _=>e j]
 congr 2
 funext j
 rw[e,e]
theorem hq_ (zs:List Str):(Lib.compact zs).length≤zs.length:=by
  rw[hr_,List.length_map]
  have:=List.length_filter_le (fun j=>decide (j=0∨zs[j]! ≠ zs[j - 1]!)) (List.range zs.length)
  simpa using this
theorem jm_ {zs:List Str} (x:Str):x∈Lib.compact zs↔x∈zs:=by
 rw[hr_,List.mem_map]
 constructor
 ·rintro ⟨j,hj,rfl⟩
  have hl:=List.mem_range.1 (List.mem_filter.1 hj).1
  rw[getElem!_pos zs j hl]
  exact List.getElem_mem hl
 intro hx
 obtain⟨j,hj,e⟩:=List.mem_iff_getElem.1 hx
 clear hx
 induction j with
 | zero=>exact⟨0,List.mem_filter.2 ⟨List.mem_range.2 hj,by simp⟩,by rw[getElem!_pos zs 0 hj];exact e⟩
 | succ j ih =>
   by_cases h:zs[j+1]! = zs[j]!
   · have hj':j<zs.length:=by omega
     refine ih hj' ?_
     rw[getElem!_pos zs (j+1) hj,getElem!_pos zs j hj']at h
     rw[← h];exact e
   · exact⟨j+1,List.mem_filter.2 ⟨List.mem_range.2 hj,decide_eq_true (.inr h)⟩,by rw[getElem!_pos zs (j+1) hj];exact e⟩
theorem kL_ {zs:List Str} (hs:zs.Pairwise fun x y=>x≤y):(Lib.compact zs).Pairwise fun x y=>x<y:=by
 rw[hr_,List.pairwise_map]
 have hr:(List.range zs.length).Pairwise (·<·):=List.pairwise_lt_range
 have hf:=hr.filter (fun j=>decide (j=0∨zs[j]! ≠ zs[j - 1]!))
 refine List.Pairwise.imp_of_mem ?_ hf
 intro j k hj hk hlt
 have hkl:=List.mem_range.1 (List.mem_filter.1 hk).1
 have hkk:=(List.mem_filter.1 hk).2
 simp only[decide_eq_true_eq]at hkk
 have hne:zs[k]! ≠ zs[k - 1]! := by
   rcases hkk with h|h
   · omega
   · exact h
 have hle:∀ a b,a≤b→b<zs.length→zs[a]! ≤ zs[b]! := by
   intro a b hab hb
   rcases Nat.lt_or_eq_of_le hab with h|h
   · rw[getElem!_pos zs a (by omega),getElem!_pos zs b hb]
     exact List.pairwise_iff_getElem.1 hs a b (by omega) hb h
   · subst h;exact List.le_refl _
 have h1:=hle j (k - 1) (by omega) (by omega)
 have h2:=hle (k - 1) k (by omega) hkl
 have h3:zs[k - 1]! < zs[k]! := by
   apply Decidable.byContradiction
   intro h
   exact hne (List.le_antisymm (List.not_lt.1 h) h2)
 exact List.lt_of_le_of_lt h1 h3
theorem em_ (l:List Pc) (x:Str):x∈dK_ l↔x∈ct_ l:=by
  unfold dK_
  rw[jm_,List.mem_mergeSort]
theorem qv_ (l:List Pc):(dK_ l).Pairwise fun x y=>x<y:=kL_ (mT_ _)
theorem eN_ (l:List Pc):(dK_ l).length≤3*l.length:=by
  have h1:=hq_ ((ct_ l).mergeSort fun x y=>decide (x≤y))
  rw[List.length_mergeSort]at h1
  have h2:=if_ l
  unfold dK_
  omega
end Go.Vs
namespace Go.Proofs.YtkeanlfhghlgiaaGreatDoor
open Go Go.Sx Go.Proofs
attribute [local irreducible] Code.wp wpList wpAnyH
open Go.Vs
theorem la_:Elt Tryz.prog 36 9 1 16:=lQ_ lk_ (z:=.string ⟨#[]⟩) (by kernel_rfl) rfl (by decide)
theorem lK_ {g n cap:Nat} {cur:Array Value} {xs:List Str} {v:Vw} (hs:v.sat [(g,.cells cur 9 (0,0))]) (ht:cur.toList.take (xs.length*1)=xs.flatMap aV_):Sort.Holds encStr v.w g 0 xs.toArray:=by
 intro j hj
 have hb:=(hs.own _ List.mem_cons_self).1
 simp only[List.size_toArray]at hj
 have hc:cur[j]? = some (str xs[j]):=pB_ ht j xs[j] (List.getElem?_eq_getElem hj)
 refine⟨?_,?_⟩
 ·simp only[World.cell?,Nat.zero_add,hb,Option.isSome_none,Bool.false_eq_true,if_false]
  rw[hc,getElem!_pos xs.toArray j (by simpa using hj)]
  rfl
 simp[World.frozen?,hb]
theorem oL_ {sv:Value} {xs:List Str} {Hr:Hp} (h:aE_ 9 1 sv xs.length (xs.flatMap aV_) Hr) (hl:xs.length≤1000000000000) :
    Tri Tryz.prog 86 #[sv] Hr [] (fun _:{y:Hp // aE_ 9 1 sv xs.length ((xs.mergeSort fun x y=>decide (x≤y)).flatMap aV_) y}=>.tuple #[]) (fun y=>y.1) (fun _=>[]):=by
  rcases h.2 with⟨rfl,h2,rfl⟩|⟨g,cap,cur,rfl,rfl,h3,h4,h5,h6⟩
  · obtain rfl:xs=[]:=List.eq_nil_of_length_eq_zero h2
    have T:=dp_ (P:=Tryz.prog) (H:=[]) (Γ:=[]) (callable Tryz.func86 rfl rfl) (fun v _ _=>(Tryz.slices_Sort_string_none none 0 v.w).mono (by rintro e w' ⟨rfl,rfl⟩;exact⟨rfl,⟨rfl,rfl,rfl,Nat.le_refl _,fun _ _=>rfl⟩,.inr (Nat.le_refl _)⟩))
    exact⟨T.callable,fun v a b=>(T.run v a b).mono (by rintro e w' ⟨x,v',e1,e2,e3,e4,e5⟩;exact⟨⟨[],by simpa using aE_.nil _ _⟩,v',e1,e2,e3,e4,e5⟩)⟩
  · have T:=jX_ (P:=Tryz.prog) (Γ:=[]) (d:=(xs.mergeSort fun x y=>decide (x≤y)).toArray) (callable Tryz.func86 rfl rfl) (fun v hs=>Tryz.slices_Sort_string g 0 cap xs v.w (lK_ (n:=0) (cap:=0) hs h6) (Array.getElem?_eq_some_iff.1 (hs.own _ List.mem_cons_self).1).1 (by omega))
    have hsz:(xs.mergeSort fun x y=>decide (x≤y)).length=xs.length:=List.length_mergeSort _
    refine⟨T.callable,fun v a b=>(T.run v a b).mono ?_⟩
    rintro e w' ⟨x,v',e1,e2,e3,e4,e5⟩
    refine⟨⟨_,by rw[bV_ aV_ 1 aD_,hsz],.inr ⟨g,cap,_,rfl,rfl,h3,h4,by rw[mZ_];exact h5,?_⟩⟩,v',e1,e2,e3,e4,e5⟩
    have:=mY_ (cur:=cur) (d:=xs.mergeSort fun x y=>decide (x≤y)) (by rw[hsz,h5];omega)
    rw[hsz]at this
    rw[Nat.mul_one];exact this
theorem kM_ {sv:Value} {xs:List Str} {Hr:Hp} (h:aE_ 9 1 sv xs.length (xs.flatMap aV_) Hr) (hl:xs.length≤1000000000000) :
    Tri Tryz.prog 87 #[sv] Hr [] (fun y:{y:Value×Hp // aE_ 9 1 y.1 (Lib.compact xs).length ((Lib.compact xs).flatMap aV_) y.2}=>y.1.1) (fun y=>y.1.2) (fun _=>[]):=by
  rcases h.2 with⟨rfl,h2,rfl⟩|⟨g,cap,cur,rfl,rfl,h3,h4,h5,h6⟩
  · obtain rfl:xs=[]:=List.eq_nil_of_length_eq_zero h2
    have T:=dp_ (P:=Tryz.prog) (H:=[]) (Γ:=[]) (callable Tryz.func87 rfl rfl) (fun v _ _=>(Tryz.slices_Compact_string_empty none 0 v.w).mono (by rintro e w' ⟨rfl,rfl⟩;exact⟨rfl,⟨rfl,rfl,rfl,Nat.le_refl _,fun _ _=>rfl⟩,.inr (Nat.le_refl _)⟩))
    exact⟨T.callable,fun v a b=>(T.run v a b).mono (by rintro e w' ⟨x,v',e1,e2,e3,e4,e5⟩;exact⟨⟨(.slice none 0 0,[]),by simpa [Lib.compact,Lib.compactUpTo] using aE_.nil _ _⟩,v',e1,e2,e3,e4,e5⟩)⟩
  · have hcl:=hq_ xs
    have T:=jX_ (P:=Tryz.prog) (Γ:=[]) (r:=.slice (some ⟨g,0,none⟩) (Lib.compact xs).length cap) (d:=(Lib.compact xs++List.replicate (xs.length - (Lib.compact xs).length) []).toArray) (callable Tryz.func87 rfl rfl) (fun v hs=>(Tryz.slices_Compact_string g 0 cap xs v.w (lK_ (n:=0) (cap:=0) hs h6) (by omega) h3).mono (by
      rintro e w' ⟨rfl,q,rfl⟩
      exact⟨rfl,q,#[],by rw[Sort.grow_empty]⟩))
    refine⟨T.callable,fun v a b=>(T.run v a b).mono ?_⟩
    rintro e w' ⟨x,v',e1,e2,e3,e4,e5⟩
    refine⟨⟨(.slice (some ⟨g,0,none⟩) (Lib.compact xs).length cap,_),by rw[bV_ aV_ 1 aD_],.inr ⟨g,cap,_,rfl,rfl,by omega,h4,by rw[mZ_];exact h5,?_⟩⟩,v',e1,e2,e3,e4,e5⟩
    have hd:(Lib.compact xs++List.replicate (xs.length - (Lib.compact xs).length) ([]:Str)).length=xs.length:=by simp;omega
    have:=mY_ (cur:=cur) (d:=Lib.compact xs++List.replicate (xs.length - (Lib.compact xs).length) []) (by rw[hd,h5];omega)
    rw[hd]at this
    have h7:=congrArg (List.take (Lib.compact xs).length) this
    rw[List.take_take,Nat.min_eq_left hcl,List.flatMap_append,List.take_append_of_le_length (by rw[bV_ aV_ 1 aD_];omega),List.take_of_length_le (l:=(Lib.compact xs).flatMap aV_) (by rw[bV_ aV_ 1 aD_];omega)]at h7
    rw[Nat.mul_one];exact h7
theorem ua_ (l:List Pc) (ad:Option Addr) (cap:Nat) (hl:l.length≤100000000000):Tri Tryz.prog 48 #[.slice ad (List.length l) cap] [] [af_ ad (List.flatMap Pc.cells l)] (fun y:{y:Option Addr×Nat // (dK_ l).length≤y.2∧y.2≤maxLen}=>.slice y.1.1 (dK_ l).length y.1.2) (fun _=>[]) (fun y=>[af_ y.1.1 ((dK_ l).flatMap aV_)]):=by
 refine w_ Tryz.func48 rfl rfl Tryz.ntmps48 rfl fun v0=>?_
 refine Zz 14 ?_
 refine dC_ [(2,.slice none 0 0),(7,.slice ad (List.length l) cap),(8,.int .i64 (List.length l:Int)),(9,.int .i64 ((0:Nat):Int))] zl ?_
 refine ey_ (ι:={y:Nat×Value×Hp // y.1≤l.length∧aE_ 9 1 y.2.1 (ct_ (l.take y.1)).length ((ct_ (l.take y.1)).flatMap aV_) y.2.2}) (fun y=>[(2,y.1.2.1),(7,.slice ad (List.length l) cap),(8,.int .i64 (List.length l:Int)),(9,.int .i64 (y.1.1:Int))]) (fun y=>y.1.2.2) (fun _=>_) (fun y=>l.length - y.1.1) ⟨(0,.slice none 0 0,[]),by simp,aE_.nil _ _⟩ ?_
 rintro ⟨⟨i,sv,Hr⟩,hi,hrow⟩
 dsimp only at hi hrow
 dsimp only
 have hol:=if_ (l.take i)
 rw[List.length_take]at hol
 refine dC_ [(2,sv),(7,.slice ad (List.length l) cap),(8,.int .i64 (List.length l:Int)),(9,.int .i64 (i:Int))] zl ?_
 refine Zi 2 (fun hr1=>?_) fun hr1=>?_
 ·refine Zz 7 ?_
  have et:l.take i=l:=List.take_of_length_le (by omega)
  rw[et]at hrow hol
  refine Zz 2 ?_
  refine n_ (oL_ hrow (by omega)) rfl ay_ zt rfl fun⟨Hs,hs⟩=>?_
  dsimp only
  refine u_ (List.Perm.symm ay_) ?_
  have hs2:aE_ 9 1 sv ((ct_ l).mergeSort fun x y=>decide (x≤y)).length (((ct_ l).mergeSort fun x y=>decide (x≤y)).flatMap aV_) Hs:=by rw[List.length_mergeSort];exact hs
  refine Zz 5 ?_
  refine n_ (kM_ hs2 (by rw[List.length_mergeSort];omega)) rfl ay_ zt rfl fun⟨⟨sc,Hc⟩,hc⟩=>?_
  dsimp only
  refine u_ (List.Perm.symm ay_) (Zz 4 ?_)
  refine kq_ hc ay_ fun ad2 cp2 hsv hc1 hc2=>?_
  exact al_ Tryz.results48 ⟨(ad2,cp2),hc1,hc2⟩ (cS_ rfl hsv) m_ zf
 obtain⟨hlx1,x1,hx1,hmx1⟩:=zge (show i<List.length l by omega)
 refine Zz 12 ?_
 refine J_ aN_ rfl fun b1=>z_ 0 Y_ rfl rfl rfl rfl rfl rfl (Zz 10 ?_)
 refine S_ E_ M_ aZ_ rfl rfl rfl rfl rfl rfl fun b2=>?_
 refine aB_ (List.flatMap aV_ [x1.a,x1.b,x1.c]) d_ rfl ?_
 refine Zz 5 ?_
 refine dC_ [(2,sv),(7,.slice ad (List.length l) cap),(8,.int .i64 (List.length l:Int)),(9,.int .i64 (i:Int)),(19,.slice (some ⟨b2,0,none⟩) (List.length [x1.a,x1.b,x1.c]) 3),(20,.int .i64 3),(21,.int .i64 ((0:Nat):Int))] zl ?_
 refine ey_ (ι:={y:Nat×Value×Hp // y.1≤3∧aE_ 9 1 y.2.1 (ct_ (l.take i)++(List.take y.1 [x1.a,x1.b,x1.c]).filter fun s=>!(s==[])).length ((ct_ (l.take i)++(List.take y.1 [x1.a,x1.b,x1.c]).filter fun s=>!(s==[])).flatMap aV_) y.2.2}) (fun y=>[(2,y.1.2.1),(7,.slice ad (List.length l) cap),(8,.int .i64 (List.length l:Int)),(9,.int .i64 (i:Int)),(19,.slice (some ⟨b2,0,none⟩) (List.length [x1.a,x1.b,x1.c]) 3),(20,.int .i64 3),(21,.int .i64 (y.1.1:Int))]) (fun y=>_:: y.1.2.2) (fun _=>_) (fun y=>3 - y.1.1) ⟨(0,sv,Hr),by simp,by simpa using hrow⟩ ?_
 rintro ⟨⟨k,sw,Hw⟩,hk,hkr⟩
 dsimp only at hk hkr
 dsimp only
 have hfl:((ct_ (l.take i)++(List.take k [x1.a,x1.b,x1.c]).filter fun s=>!(s==[]))).length≤(ct_ (l.take i)).length+3:=by
   have:=List.length_filter_le (fun s=>!(s==[])) (List.take k [x1.a,x1.b,x1.c])
   simp only[List.length_append,List.length_take,List.length_cons,List.length_nil]at this ⊢
   omega
 refine dC_ [(2,sw),(7,.slice ad (List.length l) cap),(8,.int .i64 (List.length l:Int)),(9,.int .i64 (i:Int)),(19,.slice (some ⟨b2,0,none⟩) (List.length [x1.a,x1.b,x1.c]) 3),(20,.int .i64 3),(21,.int .i64 (k:Int))] zl ?_
 refine Zi 2 (fun hr2=>?_) fun hr2=>?_
 ·refine Zz 11 ?_
  have hst:ct_ (l.take (i+1))=ct_ (l.take i)++ih_ x1:=by unfold ct_;rw[List.take_add_one,hx1,List.flatMap_append];simp
  exact y_ ⟨(i+1,sw,Hw),hlx1,by dsimp only;rw[hst];have:=hkr;rw[List.take_of_length_le (show [x1.a,x1.b,x1.c].length≤k by simp;omega)]at this;exact this⟩ (by dsimp only;omega) zl (c_ ay_) (fun _ _ h=>h.2)
 have hly1:k<List.length [x1.a,x1.b,x1.c]:=by simp;omega
 obtain⟨y1,hy1⟩:∃ e0,[x1.a,x1.b,x1.c][k]? = some e0:=⟨_,List.getElem?_eq_getElem hly1⟩
 have hmy1:y1∈[x1.a,x1.b,x1.c]:=List.mem_of_getElem? hy1
 refine Zz 11 ?_
 refine i_ (at_ (ad:=(some ⟨b2,0,none⟩)) U_ rfl zf (t_ aD_ hy1 0 _ rfl)) rfl (Zi 6 (fun hr3=>?_) fun hr3=>?_)
 ·refine Zz 10 ?_
  have hst:(ct_ (l.take i)++(List.take (k+1) [x1.a,x1.b,x1.c]).filter fun s=>!(s==[]))=(ct_ (l.take i)++(List.take k [x1.a,x1.b,x1.c]).filter fun s=>!(s==[]))++[y1].filter (fun s=>!(s==[])):=by rw[List.append_assoc,← List.filter_append,List.take_add_one,hy1];simp
  rw[show [y1].filter (fun s=>!(s==[]))=[] by simp[*],List.append_nil]at hst
  exact y_ ⟨(k+1,sw,Hw),by dsimp only;omega,by dsimp only;rw[hst];exact hkr⟩ (by dsimp only;omega) zl zp zh
 refine Zz 6 ?_
 refine S_ E_ M_ aZ_ rfl rfl rfl rfl rfl rfl fun b3=>?_
 refine ao_ (news:=[str y1]) la_ hkr rfl rfl zp rfl (by_ 0 rfl) (jE_ rfl) (by simp only[maxLen];omega) (by omega) rfl fun sv2 Hr2 hrow2=>?_
 refine u_ (@List.perm_append_comm _ _ [_,_]) (Zz 8 ?_)
 have hst:(ct_ (l.take i)++(List.take (k+1) [x1.a,x1.b,x1.c]).filter fun s=>!(s==[]))=(ct_ (l.take i)++(List.take k [x1.a,x1.b,x1.c]).filter fun s=>!(s==[]))++[y1].filter (fun s=>!(s==[])):=by rw[List.append_assoc,← List.filter_append,List.take_add_one,hy1];simp
 rw[show [y1].filter (fun s=>!(s==[]))=[y1] by simp[*]]at hst
 exact y_ ⟨(k+1,sv2,Hr2),by dsimp only;omega,by dsimp only;rw[hst];rw[List.length_append (bs:=[y1]),List.flatMap_append (ys:=[y1])];exact hrow2⟩ (by dsimp only;omega) zl (g_ (c_ d_) (c_ ay_)) zh
end Go.Proofs.YtkeanlfhghlgiaaGreatDoor
namespace Go.Sx
open Go
section
variable {P:Program} {N:Nf} {v0:Vw} {H0:Hp} {R:Exit→Act→World→Prop} {K:List Kt} {fr:Fr} {H:Hp} {Γ:List Fct}
variable {ops:Array Oper} {l:List Oper} {d:Nat} {ty:TypeId} {ps:String} {af:Array Edge}
end
end Go.Sx
namespace Go.Vs
open Go Go.Sx
def Cov (hs:List Bool) (L S:List Str):Prop:=hs.length=L.length∧∀ (n:Nat) (s:Str),L[n]? = some s→s∈S→hs[n]? = some true
theorem Cov.nil (L:List Str):Cov (List.replicate L.length false) L []:=⟨by simp,fun _ _ _ h=>by simp at h⟩
theorem Cov.set {hs:List Bool} {L S:List Str} (h:Cov hs L S) (n:Nat):Cov (hs.set n true) L S:=⟨by rw[List.length_set];exact h.1,fun m s h1 h2=>by
 have h3:=h.2 m s h1 h2
 rw[List.getElem?_set]
 split
 ·rename_i e
  subst e
  rw[if_pos (List.getElem?_eq_some_iff.1 h3).1]
 exact h3⟩
def lf_ (hs:List Bool) (L S:List Str) (y:Str) (n:Nat):Prop:=Cov hs L S∧∀ m,m<n→L[m]? = some y→hs[m]? = some true
theorem lf_.zero {hs:List Bool} {L S:List Str} {y:Str} (h:Cov hs L S):lf_ hs L S y 0:=⟨h,fun _ h=>by omega⟩
theorem lf_.hit {hs:List Bool} {L S:List Str} {y:Str} {n:Nat} (h:lf_ hs L S y n) (hn:n<L.length):lf_ (hs.set n true) L S y (n+1):=⟨h.1.set n,fun m hm e=>by
 rw[List.getElem?_set]
 split
 ·rename_i e
  rw[if_pos (by rw[h.1.1];omega)]
 rename_i e2
 exact h.2 m (by omega) e⟩
theorem lf_.miss {hs:List Bool} {L S:List Str} {y z:Str} {n:Nat} (h:lf_ hs L S y n) (hz:L[n]? = some z) (hne:z≠y):lf_ hs L S y (n+1):=⟨h.1,fun m hm e=>by
 by_cases e2:m=n
 ·subst e2
  rw[hz,Option.some.injEq]at e
  exact absurd e hne
 exact h.2 m (by omega) e⟩
theorem lf_.done {hs:List Bool} {L S:List Str} {y:Str} {n:Nat} (h:lf_ hs L S y n) (hn:L.length≤n):Cov hs L (S++[y]):=⟨h.1.1,fun m s h1 h2=>by
 rcases List.mem_append.1 h2 with h2|h2
 ·exact h.1.2 m s h1 h2
 simp only[List.mem_singleton]at h2
 subst h2
 have:=(List.getElem?_eq_some_iff.1 h1).1
 exact h.2 m (by omega) h1⟩
def three (p:Pc):List Str:=[p.a,p.b,p.c]
theorem Cov.all {hs:List Bool} {l:List Pc} (h:Cov hs (dK_ l) (l.flatMap three)) {n:Nat} (hn:n<(dK_ l).length):hs[n]? = some true:=by
  have hm:=(em_ l _).1 (List.getElem_mem hn)
  refine h.2 n _ (List.getElem?_eq_getElem hn) ?_
  simp only[ct_,List.mem_flatMap,ih_,List.mem_filter]at hm
  obtain⟨p,h1,h2⟩:=hm
  exact List.mem_flatMap.2 ⟨p,h1,h2.1⟩
end Go.Vs
namespace Go.Vs
open Go Go.Sx
-- valid pieces,kind by kind
section
variable {a b c r s t:Str} {lo hi f:Int}
end
-- atoms
-- roles
structure RInv (s:Str) (a i:Nat) (dn:List Str):Prop where
  le:a≤i
  il:i≤s.length
  no:ixS 46 ((s.drop a).take (i - a))=none
  sp:bS_ 46 s=dn++bS_ 46 (s.drop a)
  al:dn.all ck_=true
structure REnd (s:Str) (i:Nat) (dn:List Str):Prop where
  il:i=s.length+1
  sp:bS_ 46 s=dn
  al:dn.all ck_=true
theorem RInv.start (s:Str):RInv s 0 0 []:=⟨Nat.le_refl _,Nat.zero_le _,by simp[ixS],by simp,rfl⟩
theorem RInv.len {s:Str} {a i:Nat} {dn:List Str} (h:RInv s a i dn):dn.length≤s.length+1:=by
  have h1:=dI_ 46 s
  have h2:=jL_ 46 s
  rw[h.sp,List.length_append]at h1
  omega
theorem REnd.len {s:Str} {i:Nat} {dn:List Str} (h:REnd s i dn):dn.length≤s.length+1:=by
  have h1:=dI_ 46 s
  have h2:=jL_ 46 s
  rw[h.sp]at h1
  omega
theorem RInv.next {s:Str} {a i:Nat} {dn:List Str} {c:UInt8} (h:RInv s a i dn) (hc:s[i]? = some c) (hne:c≠46):RInv s a (i+1) dn:=by
  have hi:=(List.getElem?_eq_some_iff.1 hc).1
  have hle:=h.le
  refine⟨by omega,by omega,?_,h.sp,h.al⟩
  rw[show i+1 - a=(i - a)+1 by omega]
  exact rZ_ (s.drop a) (i - a) c (by rw[List.getElem?_drop,show a+(i - a)=i by omega];exact hc) h.no hne
theorem REnd.role {s:Str} {i:Nat} {dn:List Str} (h:REnd s i dn):dB_ s=decide ((dn.length:Int)≤4):=by
  unfold dB_
  rw[h.sp]
  have:dn.any (fun r=>!ck_ r)=false:=by
    rw[List.any_eq_false]
    intro x hx
    have:=List.all_eq_true.1 h.al x hx
    simp[this]
  rw[this]
  simp
  omega
-- sorted insertion
def kS (l:List Str) (s:Str):Nat:=(l.takeWhile fun x=>decide (x<s)).length
theorem rX_ {s:Str}:∀ {l:List Str} {k:Nat},k≤l.length→(∀ x∈l.take k,x<s)→(∀ x,l[k]? = some x→¬ x<s)→kS l s=k
  | [],k,h1,_,_=>by simp at h1;simp[kS,h1]
  | y::r,0,_,_,h3=>by
    have:=h3 y rfl
    unfold kS
    rw[List.takeWhile_cons_of_neg (by simpa using this)]
    rfl
  | y::r,k+1,h1,h2,h3=>by
    have hy:y<s:=h2 y (by simp)
    have ih:=rX_ (l:=r) (k:=k) (by simpa using h1) (fun x hx=>h2 x (by simp[hx])) (fun x hx=>h3 x (by simpa using hx))
    unfold kS at ih ⊢
    rw[List.takeWhile_cons_of_pos (by simpa using hy),List.length_cons,ih]
def bq_ (l:List Str) (s:Str):List Str:=if s=[]∨l[kS l s]? = some s then l else l.take (kS l s)++[s]++l.drop (kS l s)
theorem kS_le (l:List Str) (s:Str):kS l s≤l.length:=(List.takeWhile_sublist _).length_le
theorem fn_ (l:List Str) (s:Str):(bq_ l s).length≤l.length+1:=by
 have:=kS_le l s
 unfold bq_
 split
 ·omega
 simp only[List.length_append,List.length_take,List.length_cons,List.length_nil,List.length_drop]
 omega
theorem iM_ {l:List Str} {s x:Str}:x∈bq_ l s↔x∈l∨(x=s∧s≠[]):=by
 unfold bq_
 split
 ·rename_i h
  constructor
  ·exact .inl
  rintro (h2|⟨rfl,h2⟩)
  ·exact h2
  rcases h with h|h
  ·exact absurd h h2
  exact List.mem_of_getElem? h
 rename_i h
 simp only[not_or]at h
 have e:x∈l↔x∈l.take (kS l s)∨x∈l.drop (kS l s):=by
   rw[← List.mem_append,List.take_append_drop]
 rw[e]
 simp only[List.mem_append,List.mem_singleton]
 constructor
 ·rintro ((h1|h1)|h1)
  ·exact .inl (.inl h1)
  ·exact .inr ⟨h1,h1▸h.1⟩
  exact .inl (.inr h1)
 rintro ((h1|h1)|h1)
 ·exact .inl (.inl h1)
 ·exact .inr h1
 exact .inl (.inr h1.1)
theorem qH_ {s:Str}:∀ (l:List Str),∀ x∈l.take (kS l s),x<s:=by
 intro l x hx
 have e:l.take (kS l s)=l.takeWhile fun x=>decide (x<s):=by
   unfold kS
   exact (List.prefix_iff_eq_take.1 (List.takeWhile_prefix _)).symm
 rw[e]at hx
 induction l with
 | nil=>simp at hx
 | cons y r ih =>
   by_cases hy:y<s
   · rw[List.takeWhile_cons_of_pos (by simpa using hy)]at hx
     rcases List.mem_cons.1 hx with rfl|hx
     · exact hy
     · refine ih hx ?_
       unfold kS
       exact (List.prefix_iff_eq_take.1 (List.takeWhile_prefix _)).symm
   · rw[List.takeWhile_cons_of_neg (by simpa using hy)]at hx
     simp at hx
theorem oJ_ {s:Str}:∀ (l:List Str) (x:Str),l[kS l s]? = some x→¬ x<s
 | [],x,h=>by simp at h
 | y::r,x,h=>by
   unfold kS at h
   by_cases hy:y<s
   · rw[List.takeWhile_cons_of_pos (by simpa using hy),List.length_cons,List.getElem?_cons_succ]at h
     exact oJ_ r x h
   · rw[List.takeWhile_cons_of_neg (by simpa using hy)]at h
     simp only[List.length_nil,List.getElem?_cons_zero,Option.some.injEq]at h
     subst h
     exact hy
theorem jS_ {l:List Str} {s:Str} (h:l.Pairwise fun x y=>x<y):(bq_ l s).Pairwise fun x y=>x<y:=by
 unfold bq_
 split
 ·exact h
 rename_i hn
 simp only[not_or]at hn
 have hd:∀ y∈l.drop (kS l s),s<y:=by
   intro y hy
   obtain⟨j,hj,rfl⟩:=List.mem_iff_getElem.1 hy
   rw[List.getElem_drop]
   rw[List.length_drop]at hj
   have hk:kS l s<l.length:=by omega
   have h0:=oJ_ l _ (List.getElem?_eq_getElem hk)
   have h1:s<l[kS l s]:=by
     apply Decidable.byContradiction
     intro q
     apply hn.2
     rw[List.getElem?_eq_getElem hk,Option.some.injEq]
     exact List.le_antisymm (List.not_lt.1 q) (List.not_lt.1 h0)
   rcases Nat.eq_zero_or_pos j with rfl|hp
   · exact h1
   · exact List.lt_trans h1 (List.pairwise_iff_getElem.1 h _ _ hk (by omega) (by omega))
 rw[List.pairwise_append,List.pairwise_append]
 refine⟨⟨h.sublist (List.take_sublist _ _),List.pairwise_singleton _ _,fun x hx y hy=>?_⟩,h.sublist (List.drop_sublist _ _),fun x hx y hy=>?_⟩
 ·rw[List.mem_singleton]at hy
  subst hy
  exact qH_ l x hx
 rcases List.mem_append.1 hx with hx|hx
 ·exact List.lt_trans (qH_ l x hx) (hd y hy)
 rw[List.mem_singleton]at hx
 subst hx
 exact hd y hy
def cn_ (l:List Pc):List Str:=l.foldl (fun L p=>bq_ (bq_ (bq_ L p.a) p.b) p.c) []
theorem nT_ {l:List Pc} {i:Nat} {p:Pc} (h:l[i]? = some p):cn_ (l.take (i+1))=bq_ (bq_ (bq_ (cn_ (l.take i)) p.a) p.b) p.c:=by
  rw[List.take_add_one,h,Option.toList_some]
  simp[cn_,List.foldl_append]
theorem ig_:∀ (l:List Pc) (L:List Str),L.Pairwise (fun x y=>x<y)→(l.foldl (fun L p=>bq_ (bq_ (bq_ L p.a) p.b) p.c) L).Pairwise (fun x y=>x<y)∧(∀ x,x∈l.foldl (fun L p=>bq_ (bq_ (bq_ L p.a) p.b) p.c) L↔x∈L∨x∈ct_ l)∧(l.foldl (fun L p=>bq_ (bq_ (bq_ L p.a) p.b) p.c) L).length≤L.length+3*l.length
 | [],L,h=>⟨h,fun x=>by simp[ct_],by simp⟩
 | p::r,L,h=>by
   obtain⟨h1,h2,h3⟩:=ig_ r (bq_ (bq_ (bq_ L p.a) p.b) p.c) (jS_ (jS_ (jS_ h)))
   refine⟨h1,fun x=>?_,?_⟩
   · rw[List.foldl_cons,h2,iM_,iM_,iM_]
     simp only[ct_,List.flatMap_cons,List.mem_append,ih_,List.mem_filter,List.mem_cons,List.not_mem_nil,or_false]
     constructor
     · rintro ((((h|⟨rfl,h⟩)|⟨rfl,h⟩)|⟨rfl,h⟩)|h)
       · exact .inl h
       · exact .inr (.inl ⟨.inl rfl,by simpa using h⟩)
       · exact .inr (.inl ⟨.inr (.inl rfl),by simpa using h⟩)
       · exact .inr (.inl ⟨.inr (.inr rfl),by simpa using h⟩)
       · exact .inr (.inr h)
     · rintro (h|⟨h,h5⟩|h)
       · exact .inl (.inl (.inl (.inl h)))
       · have h6:x≠[]:=by simpa using h5
         rcases h with rfl|rfl|rfl
         · exact .inl (.inl (.inl (.inr ⟨rfl,h6⟩)))
         · exact .inl (.inl (.inr ⟨rfl,h6⟩))
         · exact .inl (.inr ⟨rfl,h6⟩)
       · exact .inr h
   · rw[List.foldl_cons]
     have a1:=fn_ L p.a
     have a2:=fn_ (bq_ L p.a) p.b
     have a3:=fn_ (bq_ (bq_ L p.a) p.b) p.c
     simp only[List.length_cons]
     omega
theorem lq_:∀ {l m:List Str},l.Pairwise (fun x y=>x<y)→m.Pairwise (fun x y=>x<y)→(∀ x,x∈l↔x∈m)→l=m
 | [],[],_,_,_=>rfl
 | [],y::m,_,_,h=>by have:=(h y).2 (by simp);simp at this
 | x::l,[],_,_,h=>by have:=(h x).1 (by simp);simp at this
 | x::l,y::m,h1,h2,h=>by
   rw[List.pairwise_cons]at h1 h2
   have e:x=y:=by
     have hx:=(h x).1 (by simp)
     have hy:=(h y).2 (by simp)
     rcases List.mem_cons.1 hx with e|hx
     · exact e
     rcases List.mem_cons.1 hy with e|hy
     · exact e.symm
     exact absurd (List.lt_trans (h1.1 y hy) (h2.1 x hx)) (List.lt_irrefl _)
   subst e
   congr 1
   refine lq_ h1.2 h2.2 fun z=>?_
   have hz:=h z
   simp only[List.mem_cons]at hz
   constructor
   · intro q
     rcases hz.1 (.inr q) with e|e
     · subst e
       exact absurd (h1.1 z q) (List.lt_irrefl _)
     · exact e
   · intro q
     rcases hz.2 (.inr q) with e|e
     · subst e
       exact absurd (h2.1 z q) (List.lt_irrefl _)
     · exact e
theorem sB_ (l:List Pc):dK_ l=cn_ l:=by
  obtain⟨h1,h2,_⟩:=ig_ l [] List.Pairwise.nil
  refine lq_ (qv_ l) h1 fun x=>?_
  have:=h2 x
  rw[em_]
  simp only[List.not_mem_nil,false_or]at this
  exact this.symm
theorem kT_ (l:List Pc):(cn_ l).length≤3*l.length:=by
  have:=(ig_ l [] List.Pairwise.nil).2.2
  simpa [cn_] using this
end Go.Vs
namespace Go.Proofs.YtkeanlfhghlgiaaGreatDoor
open Go Go.Sx Go.Proofs
attribute [local irreducible] Code.wp wpList wpAnyH
open Go.Vs
theorem gi_ {xs:List Str} {u:Value} (h:u∈xs.flatMap aV_):u.oneCell'=true:=by
  rw[ir_]at h
  obtain⟨x,_,rfl⟩:=List.mem_map.1 h
  rfl
theorem nX_ (l:List Str) (ad:Option Addr) (cap:Nat) (s:Str) (hl:l.length≤100000000000) (hc:l.length≤cap∧cap≤maxLen∧(ad=none→cap=0)):Tri Tryz.prog 150 #[.slice ad (List.length l) cap,str s] [] [af_ ad (List.flatMap aV_ l)] (fun y:{y:Option Addr×Nat // (bq_ l s).length≤y.2∧y.2≤maxLen∧(y.1=none→y.2=0)}=>.slice y.1.1 (bq_ l s).length y.1.2) (fun _=>[]) (fun y=>[af_ y.1.1 ((bq_ l s).flatMap aV_)]):=by
 refine w_ Tryz.func150 rfl rfl Tryz.ntmps150 rfl fun v0=>?_
 refine Zz 12 ?_
 refine dC_ [(0,.slice ad (List.length l) cap),(1,str s),(5,.int .i64 ((0:Nat):Int))] zl ?_
 refine ey_ (ι:={z:Nat // z≤l.length∧∀ x∈l.take z,x<s}) (fun zz=>[(0,.slice ad (List.length l) cap),(1,str s),(5,.int .i64 (zz.1:Int))]) (fun _=>_) (fun _=>_) (fun zz=>l.length - zz.1) ⟨0,by simp⟩ ?_
 rintro ⟨k,hk⟩
 refine dC_ [(0,.slice ad (List.length l) cap),(1,str s),(5,.int .i64 (k:Int))] zl ?_
 refine Zi 6 (fun hr1=>?_) fun hr1=>?_
 ·refine Zz 15 ?_
  have hks:kS l s=k:=rX_ hk.1 hk.2 (fun x hx=>by have:=(List.getElem?_eq_some_iff.1 hx).1;omega)
  refine Zi 2 (fun hr2=>?_) fun hr2=>?_
  ·refine Zi 8 (fun hr3=>?_) fun hr3=>?_
   ·refine Zz 18 ?_
    refine dT_ E_ M_ rfl fun b1=>Zz 2 ?_
    refine i_ (aY_ (do_ (i:=0) (j:=k) (kl:=.i64) (kh:=.i64) E_ M_ rfl rfl rfl (by omega) (by omega)) (show _=Value.slice (sad ad cap 0 1) (List.length (List.take k l)) (cap - 0) by rw[List.length_take,Nat.min_eq_left (by omega)];rfl)) rfl ?_
    have hr0:aE_ 9 1 (.slice (some ⟨b1,0,none⟩) 0 0) 0 [] [(b1,.cells #[] 9 (0,0))]:=⟨rfl,.inr ⟨b1,0,#[],rfl,rfl,Nat.le_refl _,Nat.zero_le _,rfl,rfl⟩⟩
    refine bs_ (news:=(List.take k l).flatMap aV_) la_ hr0 rfl rfl (fun q=>by have:=hc.2.2 (fx_ q);omega) (by rw[List.length_take];omega) (.refl _) (by rw[bV_ aV_ 1 aD_]) (fun v _ h=>by exact (bv_.slice aD_ h.1 hc.1 0 k)) (fun u hu=>gi_ hu) (by rw[List.length_take];simp only[maxLen];omega) (by rw[List.length_take];omega) rfl fun sv1 Hr1 hr1=>?_
    refine u_ (@List.perm_append_comm _ _ []) (Zz 7 ?_)
    refine S_ E_ M_ aZ_ rfl rfl rfl rfl rfl rfl fun b2=>?_
    refine ao_ (news:=[str s]) la_ hr1 rfl rfl zp rfl (by_ 0 rfl) (jE_ rfl) (by rw[List.length_take];simp only[maxLen];omega) (by rw[List.length_take];omega) rfl fun sv2 Hr2 hr2=>?_
    refine u_ (@List.perm_append_comm _ _ [_]) (Zz 8 ?_)
    refine i_ (aY_ (do_ (i:=k) (j:=l.length) (kl:=.i64) (kh:=.i64) E_ M_ rfl rfl rfl (by omega) (by omega)) (show _=Value.slice (sad ad cap k 1) (List.length (List.drop k l)) (cap - k) by rw[List.length_drop])) rfl (bs_ (news:=(List.drop k l).flatMap aV_) la_ hr2 rfl rfl (fun q=>by have:=hc.2.2 (fx_ q);omega) (by rw[List.length_drop];omega) (c_ ay_) (by rw[bV_ aV_ 1 aD_]) (fun v _ h=>by exact (bv_.rest aD_ h.1 hc.1 k)) (fun u hu=>gi_ hu) (by rw[List.length_drop,List.length_take];simp only[maxLen];omega) (by rw[List.length_drop,List.length_take];omega) rfl fun sv3 Hr3 hr3=>?_)
    refine u_ (@List.perm_append_comm _ _ [_]) (Zz 4 ?_)
    have ew:bq_ l s=l.take k++[s]++l.drop k:=by unfold bq_;rw[hks,if_neg (by simp_all)]
    have hr4:aE_ 9 1 sv3 (bq_ l s).length ((bq_ l s).flatMap aV_) Hr3:=by rw[ew,List.flatMap_append,List.flatMap_append,List.length_append,List.length_append];simpa [aV_] using hr3
    refine bk_ hr4 (c_ ay_) fun ad2 cp2 hsv hc1 hc2 hc3=>?_
    exact al_ gA_ ⟨(ad2,cp2),hc1,hc2,hc3⟩ (cS_ rfl hsv) m_ zf
   obtain⟨hlx1,x1,hx1,hmx1⟩:=zge (show k<List.length l by omega)
   refine Zi 13 (fun hr4=>?_) fun hr4=>?_
   ·refine Zz 10 ?_
    refine dT_ E_ M_ rfl fun b3=>Zz 2 ?_
    refine i_ (aY_ (do_ (i:=0) (j:=k) (kl:=.i64) (kh:=.i64) E_ M_ rfl rfl rfl (by omega) (by omega)) (show _=Value.slice (sad ad cap 0 1) (List.length (List.take k l)) (cap - 0) by rw[List.length_take,Nat.min_eq_left (by omega)];rfl)) rfl ?_
    have hr0:aE_ 9 1 (.slice (some ⟨b3,0,none⟩) 0 0) 0 [] [(b3,.cells #[] 9 (0,0))]:=⟨rfl,.inr ⟨b3,0,#[],rfl,rfl,Nat.le_refl _,Nat.zero_le _,rfl,rfl⟩⟩
    refine bs_ (news:=(List.take k l).flatMap aV_) la_ hr0 rfl rfl (fun q=>by have:=hc.2.2 (fx_ q);omega) (by rw[List.length_take];omega) (.refl _) (by rw[bV_ aV_ 1 aD_]) (fun v _ h=>by exact (bv_.slice aD_ h.1 hc.1 0 k)) (fun u hu=>gi_ hu) (by rw[List.length_take];simp only[maxLen];omega) (by rw[List.length_take];omega) rfl fun sv1 Hr1 hr1=>?_
    refine u_ (@List.perm_append_comm _ _ []) (Zz 7 ?_)
    refine S_ E_ M_ aZ_ rfl rfl rfl rfl rfl rfl fun b4=>?_
    refine ao_ (news:=[str s]) la_ hr1 rfl rfl zp rfl (by_ 0 rfl) (jE_ rfl) (by rw[List.length_take];simp only[maxLen];omega) (by rw[List.length_take];omega) rfl fun sv2 Hr2 hr2=>?_
    refine u_ (@List.perm_append_comm _ _ [_]) (Zz 8 ?_)
    refine i_ (aY_ (do_ (i:=k) (j:=l.length) (kl:=.i64) (kh:=.i64) E_ M_ rfl rfl rfl (by omega) (by omega)) (show _=Value.slice (sad ad cap k 1) (List.length (List.drop k l)) (cap - k) by rw[List.length_drop])) rfl (bs_ (news:=(List.drop k l).flatMap aV_) la_ hr2 rfl rfl (fun q=>by have:=hc.2.2 (fx_ q);omega) (by rw[List.length_drop];omega) (c_ ay_) (by rw[bV_ aV_ 1 aD_]) (fun v _ h=>by exact (bv_.rest aD_ h.1 hc.1 k)) (fun u hu=>gi_ hu) (by rw[List.length_drop,List.length_take];simp only[maxLen];omega) (by rw[List.length_drop,List.length_take];omega) rfl fun sv3 Hr3 hr3=>?_)
    refine u_ (@List.perm_append_comm _ _ [_]) (Zz 4 ?_)
    have ew:bq_ l s=l.take k++[s]++l.drop k:=by unfold bq_;rw[hks,if_neg (by simp_all)]
    have hr4:aE_ 9 1 sv3 (bq_ l s).length ((bq_ l s).flatMap aV_) Hr3:=by rw[ew,List.flatMap_append,List.flatMap_append,List.length_append,List.length_append];simpa [aV_] using hr3
    refine bk_ hr4 (c_ ay_) fun ad2 cp2 hsv hc1 hc2 hc3=>?_
    exact al_ gA_ ⟨(ad2,cp2),hc1,hc2,hc3⟩ (cS_ rfl hsv) m_ zf
   refine Zz 13 ?_
   have ew:bq_ l s=l:=by unfold bq_;rw[hks,if_pos (by simp_all)]
   exact al_ gA_ ⟨(ad,cap),by rw[ew];exact hc⟩ (cS_ rfl (by dsimp only;rw[ew])) m_ (fun v _ h=>⟨by show bv_ v ad ((bq_ l s).flatMap aV_);rw[ew];exact h.1,trivial⟩)
  refine Zz 24 ?_
  have ew:bq_ l s=l:=by unfold bq_;rw[hks,if_pos (by simp_all)]
  exact al_ gA_ ⟨(ad,cap),by rw[ew];exact hc⟩ (cS_ rfl (by dsimp only;rw[ew])) m_ (fun v _ h=>⟨by show bv_ v ad ((bq_ l s).flatMap aV_);rw[ew];exact h.1,trivial⟩)
 obtain⟨hlx1,x1,hx1,hmx1⟩:=zge (show k<List.length l by omega)
 refine Zi 12 (fun hr5=>?_) fun hr5=>?_
 ·refine Zz 8 ?_
  have hks:kS l s=k:=rX_ hk.1 hk.2 (fun x hx=>by rw[hx1]at hx;cases hx;assumption)
  refine Zi 2 (fun hr6=>?_) fun hr6=>?_
  ·refine Zi 8 (fun hr7=>?_) fun hr7=>?_
   ·exfalso;omega
   refine Zi 13 (fun hr8=>?_) fun hr8=>?_
   ·refine Zz 10 ?_
    refine dT_ E_ M_ rfl fun b5=>Zz 2 ?_
    refine i_ (aY_ (do_ (i:=0) (j:=k) (kl:=.i64) (kh:=.i64) E_ M_ rfl rfl rfl (by omega) (by omega)) (show _=Value.slice (sad ad cap 0 1) (List.length (List.take k l)) (cap - 0) by rw[List.length_take,Nat.min_eq_left (by omega)];rfl)) rfl ?_
    have hr0:aE_ 9 1 (.slice (some ⟨b5,0,none⟩) 0 0) 0 [] [(b5,.cells #[] 9 (0,0))]:=⟨rfl,.inr ⟨b5,0,#[],rfl,rfl,Nat.le_refl _,Nat.zero_le _,rfl,rfl⟩⟩
    refine bs_ (news:=(List.take k l).flatMap aV_) la_ hr0 rfl rfl (fun q=>by have:=hc.2.2 (fx_ q);omega) (by rw[List.length_take];omega) (.refl _) (by rw[bV_ aV_ 1 aD_]) (fun v _ h=>by exact (bv_.slice aD_ h.1 hc.1 0 k)) (fun u hu=>gi_ hu) (by rw[List.length_take];simp only[maxLen];omega) (by rw[List.length_take];omega) rfl fun sv1 Hr1 hr1=>?_
    refine u_ (@List.perm_append_comm _ _ []) (Zz 7 ?_)
    refine S_ E_ M_ aZ_ rfl rfl rfl rfl rfl rfl fun b6=>?_
    refine ao_ (news:=[str s]) la_ hr1 rfl rfl zp rfl (by_ 0 rfl) (jE_ rfl) (by rw[List.length_take];simp only[maxLen];omega) (by rw[List.length_take];omega) rfl fun sv2 Hr2 hr2=>?_
    refine u_ (@List.perm_append_comm _ _ [_]) (Zz 8 ?_)
    refine i_ (aY_ (do_ (i:=k) (j:=l.length) (kl:=.i64) (kh:=.i64) E_ M_ rfl rfl rfl (by omega) (by omega)) (show _=Value.slice (sad ad cap k 1) (List.length (List.drop k l)) (cap - k) by rw[List.length_drop])) rfl (bs_ (news:=(List.drop k l).flatMap aV_) la_ hr2 rfl rfl (fun q=>by have:=hc.2.2 (fx_ q);omega) (by rw[List.length_drop];omega) (c_ ay_) (by rw[bV_ aV_ 1 aD_]) (fun v _ h=>by exact (bv_.rest aD_ h.1 hc.1 k)) (fun u hu=>gi_ hu) (by rw[List.length_drop,List.length_take];simp only[maxLen];omega) (by rw[List.length_drop,List.length_take];omega) rfl fun sv3 Hr3 hr3=>?_)
    refine u_ (@List.perm_append_comm _ _ [_]) (Zz 4 ?_)
    have ew:bq_ l s=l.take k++[s]++l.drop k:=by unfold bq_;rw[hks,if_neg (by simp_all)]
    have hr4:aE_ 9 1 sv3 (bq_ l s).length ((bq_ l s).flatMap aV_) Hr3:=by rw[ew,List.flatMap_append,List.flatMap_append,List.length_append,List.length_append];simpa [aV_] using hr3
    refine bk_ hr4 (c_ ay_) fun ad2 cp2 hsv hc1 hc2 hc3=>?_
    exact al_ gA_ ⟨(ad2,cp2),hc1,hc2,hc3⟩ (cS_ rfl hsv) m_ zf
   refine Zz 13 ?_
   have ew:bq_ l s=l:=by unfold bq_;rw[hks,if_pos (by simp_all)]
   exact al_ gA_ ⟨(ad,cap),by rw[ew];exact hc⟩ (cS_ rfl (by dsimp only;rw[ew])) m_ (fun v _ h=>⟨by show bv_ v ad ((bq_ l s).flatMap aV_);rw[ew];exact h.1,trivial⟩)
  refine Zz 24 ?_
  have ew:bq_ l s=l:=by unfold bq_;rw[hks,if_pos (by simp_all)]
  exact al_ gA_ ⟨(ad,cap),by rw[ew];exact hc⟩ (cS_ rfl (by dsimp only;rw[ew])) m_ (fun v _ h=>⟨by show bv_ v ad ((bq_ l s).flatMap aV_);rw[ew];exact h.1,trivial⟩)
 refine Zz 13 ?_
 exact y_ ⟨k+1,hlx1,fun x hx=>by rw[List.take_add_one,hx1]at hx;simp only[Option.toList_some,List.mem_append,List.mem_singleton]at hx;rcases hx with hx|rfl;exact hk.2 x hx;assumption⟩ (by dsimp only;omega) zl (.refl _) zh
theorem ri_ (l:List Pc) (ad:Option Addr) (cap:Nat) (hl:l.length≤10000000000):Tri Tryz.prog 110 #[.slice ad (List.length l) cap] [] [af_ ad (List.flatMap Pc.cells l)] (fun y:{y:Option Addr×Nat // (cn_ l).length≤y.2∧y.2≤maxLen∧(y.1=none→y.2=0)}=>.slice y.1.1 (cn_ l).length y.1.2) (fun _=>[]) (fun y=>[af_ y.1.1 ((cn_ l).flatMap aV_)]):=by
 refine w_ Tryz.func110 rfl rfl Tryz.ntmps110 rfl fun v0=>?_
 refine Zz 17 ?_
 refine dC_ [(0,.slice ad (List.length l) cap),(3,.slice none 0 0),(4,.int .i64 0)] zl ?_
 refine gj_ (Γ':=af_ none ((cn_ (List.take 0 l)).flatMap aV_)::[af_ ad (List.flatMap Pc.cells l)]) (fun v _ h=>⟨.inl rfl,h⟩) ?_
 refine ey_ (ι:={y:Nat×Option Addr×Nat // y.1≤l.length∧((cn_ (List.take y.1 l)).length≤y.2.2∧y.2.2≤maxLen∧(y.2.1=none→y.2.2=0))}) (fun y=>[(0,.slice ad (List.length l) cap),(3,.slice y.1.2.1 (List.length (cn_ (List.take y.1.1 l))) y.1.2.2),(4,.int .i64 (y.1.1:Int))]) (fun _=>_) (fun y=>af_ y.1.2.1 ((cn_ (List.take y.1.1 l)).flatMap aV_)::[af_ ad (List.flatMap Pc.cells l)]) (fun y=>l.length - y.1.1) ⟨(0,none,0),by simp,by simp[cn_]⟩ ?_
 rintro ⟨⟨i,a,cp⟩,hi,hcp⟩
 dsimp only at hi hcp
 dsimp only
 have hal:=kT_ (l.take i)
 rw[List.length_take]at hal
 refine dC_ [(0,.slice ad (List.length l) cap),(3,.slice a (List.length (cn_ (List.take i l))) cp),(4,.int .i64 (i:Int))] zl ?_
 refine Zi 6 (fun hr1=>?_) fun hr1=>?_
 ·refine Zz 12 ?_
  have et:l.take i=l:=List.take_of_length_le (by omega)
  rw[et]at hcp
  exact al_ Tryz.results110 ⟨(a,cp),hcp⟩ (cS_ rfl (by rw[et])) m_ (fun v _ h=>⟨by have:=h.1;rw[et]at this;exact this,trivial⟩)
 obtain⟨hlx1,x1,hx1,hmx1⟩:=zge (show i<List.length l by omega)
 refine Zz 8 ?_
 refine s_ 4 [0,1,2,3,4,5,7,8,9,10,11,13,14,15,16,17] zk zs (Zz 17 ?_)
 refine j_ 6 rfl zk (n_ (nX_ (cn_ (List.take i l)) a cp x1.a (by omega) hcp) rfl m_ zf rfl fun⟨⟨a1,c1⟩,hc1⟩=>?_)
 dsimp only
 have hwl1:=fn_ (cn_ (List.take i l)) x1.a
 refine Zz 3 ?_
 refine j_ 12 rfl zk (n_ (nX_ (bq_ (cn_ (List.take i l)) x1.a) a1 c1 x1.b (by omega) hc1) rfl m_ zf rfl fun⟨⟨a2,c2⟩,hc2⟩=>?_)
 dsimp only
 have hwl2:=fn_ (bq_ (cn_ (List.take i l)) x1.a) x1.b
 refine Zz 3 ?_
 refine j_ 18 rfl zk (n_ (nX_ (bq_ (bq_ (cn_ (List.take i l)) x1.a) x1.b) a2 c2 x1.c (by omega) hc2) rfl m_ zf rfl fun⟨⟨a3,c3⟩,hc3⟩=>?_)
 dsimp only
 have hwl3:=fn_ (bq_ (bq_ (cn_ (List.take i l)) x1.a) x1.b) x1.c
 refine Zz 3 ?_
 refine s_ 0 [19] zk zs (Zz 10 ?_)
 have hst:=nT_ hx1
 exact y_ ⟨(i+1,a3,c3),hlx1,by dsimp only;rw[hst];exact hc3⟩ (by dsimp only;omega) ⟨rfl,(cS_ rfl (by dsimp only;rw[hst])),rfl,trivial⟩ m_ (fun _ _ h=>⟨by dsimp only;rw[hst];exact h.1,h.2.2.2.2.1,trivial⟩)
end Go.Proofs.YtkeanlfhghlgiaaGreatDoor
namespace Go.Vs
open Go Go.Sx
def C_ (a b:Str):Fc:=⟨1,a,b,[],0,0⟩
def I_ (a r b:Str):Fc:=⟨2,a,b,r,0,0⟩
def T_ (a r:Str) (lo hi:Int):Fc:=⟨3,a,[],r,lo,hi⟩
inductive One (p:List Pc) (A:List Str) (S:Fc→Prop) (M:Fc→Fc→Prop):Fc→Prop
  | r1 {a:Str} (h:a∈A):One p A S M (C_ a a)
  | r2 {a:Str} (h:a∈A):One p A S M (C_ a [42])
  | r10 {a:Str} {x:Pc} (hx:x∈p) (hk:x.kind=7) (h:a∈A):One p A S M (I_ a x.r a)
  | r3 {a:Str} {x:Pc} (hx:x∈p) (hk:x.kind=1) (h:S (C_ a x.a)):One p A S M (C_ a x.c)
  | r4 {a:Str} {x:Pc} (hx:x∈p) (hk:x.kind=2) (h:S (C_ a x.a)) (h':S (C_ a x.b)):One p A S M (C_ a x.c)
  | r5 {a:Str} {x:Pc} (hx:x∈p) (hk:x.kind=3) (h:S (C_ a x.a)):One p A S M (I_ a x.r x.c)
  | r6 {a b:Str} {x:Pc} (hx:x∈p) (hk:x.kind=5) (h:S (I_ a x.r b)):One p A S M (I_ a x.t b)
  | r7 {a b c:Str} {x:Pc} (hx:x∈p) (hk:x.kind=6) (h:S (I_ a x.r b)) (h':S (I_ b x.s c)):One p A S M (I_ a x.t c)
  | r8 {a b:Str} {x:Pc} (hx:x∈p) (hk:x.kind=4) (h:S (I_ a x.r b)) (h':S (C_ b x.a)):One p A S M (C_ a x.c)
  | r9 {a r b:Str} (h:S (I_ a r b)) (h':S (C_ b [33])):One p A S M (C_ a [33])
  | r11 {a:Str} {x:Pc} (hx:x∈p) (hk:x.kind=8) (h:S (C_ a x.a)):One p A S M (T_ a x.r x.lo x.hi)
  | r12 {a r:Str} {lo hi lo' hi':Int} (h:S (T_ a r lo hi)) (h':S (T_ a r lo' hi')) (hm:M (T_ a r lo hi) (T_ a r lo' hi')) (hl:max lo lo'≤min hi hi'):One p A S M (T_ a r (max lo lo') (min hi hi'))
  | r13 {a r:Str} {lo hi lo' hi':Int} (h:S (T_ a r lo hi)) (h':S (T_ a r lo' hi')) (hm:M (T_ a r lo hi) (T_ a r lo' hi')) (hl:min hi hi'<max lo lo'):One p A S M (C_ a [33])
  | r14 {a:Str} {lo hi:Int} {x:Pc} (hx:x∈p) (hk:x.kind=9) (h:S (T_ a x.r lo hi)) (h1:x.lo≤lo) (h2:hi≤x.hi):One p A S M (C_ a x.c)
abbrev fX_ (p:List Pc) (A:List Str) (S:Fc→Prop):Fc→Prop:=One p A S (fun _ _=>True)
theorem One.mono {p p':List Pc} {A A':List Str} {S S':Fc→Prop} {M M':Fc→Fc→Prop} (hp:∀ x∈p,∃ y∈p',∃ n,{ y with frm:=n }=x) (hA:∀ a∈A,a∈A') (hS:∀ y,S y→S' y) (hM:∀ x y,M x y→M' x y) {y:Fc} (h:One p A S M y):One p' A' S' M' y:=by
  cases h with
  | r1 h=>exact .r1 (hA _ h)
  | r2 h=>exact .r2 (hA _ h)
  | r10 hx hk h=>obtain⟨z,hz,n,rfl⟩:=hp _ hx;exact One.r10 (x:=z) hz hk (hA _ h)
  | r3 hx hk h=>obtain⟨z,hz,n,rfl⟩:=hp _ hx;exact One.r3 (x:=z) hz hk (hS _ h)
  | r4 hx hk h h'=>obtain⟨z,hz,n,rfl⟩:=hp _ hx;exact One.r4 (x:=z) hz hk (hS _ h) (hS _ h')
  | r5 hx hk h=>obtain⟨z,hz,n,rfl⟩:=hp _ hx;exact One.r5 (x:=z) hz hk (hS _ h)
  | r6 hx hk h=>obtain⟨z,hz,n,rfl⟩:=hp _ hx;exact One.r6 (x:=z) hz hk (hS _ h)
  | r7 hx hk h h'=>obtain⟨z,hz,n,rfl⟩:=hp _ hx;exact One.r7 (x:=z) hz hk (hS _ h) (hS _ h')
  | r8 hx hk h h'=>obtain⟨z,hz,n,rfl⟩:=hp _ hx;exact One.r8 (x:=z) hz hk (hS _ h) (hS _ h')
  | r9 h h'=>exact .r9 (hS _ h) (hS _ h')
  | r11 hx hk h=>obtain⟨z,hz,n,rfl⟩:=hp _ hx;exact One.r11 (x:=z) hz hk (hS _ h)
  | r12 h h' hm hl=>exact .r12 (hS _ h) (hS _ h') (hM _ _ hm) hl
  | r13 h h' hm hl=>exact .r13 (hS _ h) (hS _ h') (hM _ _ hm) hl
  | r14 hx hk h h1 h2=>obtain⟨z,hz,n,rfl⟩:=hp _ hx;exact One.r14 (x:=z) hz hk (hS _ h) h1 h2
def Der (p:List Pc) (A:List Str) (y:Fc):Prop:=∀ T:Fc→Prop,(∀ y,fX_ p A T y→T y)→T y
theorem Der.step {p:List Pc} {A:List Str} {y:Fc} (h:fX_ p A (Der p A) y):Der p A y :=
  fun T hT=>hT y (h.mono (fun x hx=>⟨x,hx,x.frm,rfl⟩) (fun _ h=>h) (fun z hz=>hz T hT) (fun _ _ h=>h))
theorem Der.mono {p p':List Pc} {A A':List Str} (hp:∀ x∈p,∃ y∈p',∃ n,{ y with frm:=n }=x) (hA:∀ a∈A,a∈A') {y:Fc} (h:Der p A y):Der p' A' y :=
  h _ fun _ hz=>Der.step (hz.mono hp hA (fun _ h=>h) (fun _ _ h=>h))
theorem Der.least {p:List Pc} {A:List Str} {T:Fc→Prop} (hT:∀ y,fX_ p A T y→T y) {y:Fc} (h:Der p A y):T y:=h T hT
structure Ky where
  kind:Int
  role:Str
  atom:Str
deriving DecidableEq
abbrev eO_:=Str×Str
def lat {K D:Type} [DecidableEq K] (l:List (K×D)) (k:K):List D:=(l.filter fun e=>decide (e.1=k)).map (·.2)
theorem bb_ {K D:Type} [DecidableEq K] {l:List (K×D)} {k:K} {d:D}:d∈lat l k↔(k,d)∈l:=by
  unfold lat
  simp only[List.mem_map,List.mem_filter,decide_eq_true_eq]
  exact⟨fun⟨⟨a,b⟩,⟨h1,h2⟩,h3⟩=>by subst h2;subst h3;exact h1,fun h=>⟨(k,d),⟨h,rfl⟩,rfl⟩⟩
theorem kv_ {K D:Type} [DecidableEq K] (l m:List (K×D)) (k:K):lat (l++m) k=lat l k++lat m k:=by simp[lat]
theorem bc_ {K D:Type} [DecidableEq K] (l:List (K×D)) (k:K):(lat l k).length≤l.length:=by
  simp only[lat,List.length_map];exact List.length_filter_le _ _
def bZ_ (x:Pc):List (Ky×Pc) :=
  if x.kind=1∨x.kind=3∨x.kind=8 then [(⟨x.kind,[],x.a⟩,x)]
  else if x.kind=2 then if x.b≠x.a then [(⟨x.kind,[],x.a⟩,x),(⟨x.kind,[],x.b⟩,x)] else [(⟨x.kind,[],x.a⟩,x)]
  else if x.kind=4 then [(⟨x.kind,[],x.a⟩,x),(⟨x.kind,x.r,x.a⟩,x)]
  else if x.kind=5∨x.kind=9 then [(⟨x.kind,x.r,[]⟩,x)]
  else if x.kind=6 then [(⟨x.kind,x.r,[]⟩,x),(⟨x.kind,[],x.s⟩,x)]
  else []
def Pc.zf (x:Pc):Pc:={ x with frm:=0 }
def uniq:List Pc→List Pc→List Pc
  | l,[]=>l
  | l,x::r=>uniq (if x.zf∈l then l else l++[x.zf]) r
theorem io_:∀ (r l:List Pc) (x:Pc),x∈uniq l r↔x∈l∨∃ y∈r,y.zf=x
 | [],l,x=>by simp[uniq]
 | y::r,l,x=>by
   rw[uniq,io_ r]
   by_cases h:y.zf∈l
   · rw[if_pos h]
     constructor
     · rintro (h1|⟨z,h1,h2⟩)
       · exact .inl h1
       · exact .inr ⟨z,by simp[h1],h2⟩
     · rintro (h1|⟨z,h1,h2⟩)
       · exact .inl h1
       · rcases List.mem_cons.1 h1 with rfl|h1
         · exact .inl (h2▸h)
         · exact .inr ⟨z,h1,h2⟩
   · rw[if_neg h]
     simp only[List.mem_append,List.mem_cons,List.not_mem_nil,or_false]
     constructor
     · rintro ((h1|h1)|⟨z,h1,h2⟩)
       · exact .inl h1
       · exact .inr ⟨y,.inl rfl,h1.symm⟩
       · exact .inr ⟨z,.inr h1,h2⟩
     · rintro (h1|⟨z,h1|h1,h2⟩)
       · exact .inl (.inl h1)
       · subst h1;exact .inl (.inr h2.symm)
       · exact .inr ⟨z,h1,h2⟩
theorem ip_:∀ (r l:List Pc),(uniq l r).length≤l.length+r.length
  | [],l=>by simp[uniq]
  | y::r,l=>by
    rw[uniq]
    have:=ip_ r (if y.zf∈l then l else l++[y.zf])
    have h2:(if y.zf∈l then l else l++[y.zf]).length≤l.length+1:=by split<;>simp
    simp only[List.length_cons]
    omega
def aI_ (ps:List Pc):List (Ky×Pc):=ps.flatMap bZ_
def an_ (ps:List Pc):List Str:=(ps.filter fun x=>decide (x.kind=7)).map (·.r)
theorem rk_ (x:Pc):∀ e∈bZ_ x,e.2=x∧e.1.kind=x.kind:=by
  unfold bZ_
  repeat' split
  all_goals simp
theorem dl_ {x y:Pc} {k:Ky} (h:(k,y)∈bZ_ x):y=x∧k.kind=x.kind:=rk_ x _ h
def Pc.rok (x:Pc):Prop:=(x.kind=4∨x.kind=5∨x.kind=6∨x.kind=9∨x.kind=3∨x.kind=7∨x.kind=8→x.r≠[])∧(x.kind=6→x.s≠[]∧x.t≠[])∧(x.kind=5→x.t≠[])
theorem fA_ {ps:List Pc} {k:Ky} {x:Pc}:x∈lat (aI_ ps) k↔x∈ps∧(k,x)∈bZ_ x:=by
 rw[bb_,aI_,List.mem_flatMap]
 constructor
 ·rintro ⟨y,hy,h⟩
  obtain⟨rfl,_⟩:=dl_ h
  exact⟨hy,h⟩
 rintro ⟨h1,h2⟩
 exact⟨x,h1,h2⟩
theorem pm1 {ps:List Pc} {b:Str} {x:Pc}:x∈lat (aI_ ps) ⟨1,[],b⟩↔x∈ps∧x.kind=1∧x.a=b:=by
 rw[fA_]
 refine and_congr_right fun _=>⟨fun h=>?_,fun⟨h,h'⟩=>?_⟩
 ·have hk:=(dl_ h).2
  simp only at hk
  simp[bZ_,← hk]at h
  exact⟨hk.symm,h.symm⟩
 subst h';simp[bZ_,h]
theorem pm2 {ps:List Pc} {b:Str} {x:Pc}:x∈lat (aI_ ps) ⟨2,[],b⟩↔x∈ps∧x.kind=2∧(x.a=b∨x.b=b):=by
 rw[fA_]
 refine and_congr_right fun _=>⟨fun h=>?_,fun⟨h,h'⟩=>?_⟩
 ·have hk:=(dl_ h).2
  simp only at hk
  simp[bZ_,← hk]at h
  split at h
  ·simp at h;exact⟨hk.symm,.inl h.symm⟩
  simp at h;rcases h with h|h
  ·exact⟨hk.symm,.inl h.symm⟩
  exact⟨hk.symm,.inr h.symm⟩
 by_cases e:x.b=x.a
 ·have:x.a=b:=h'.elim id (fun q=>e▸q)
  subst this;simp[bZ_,h,e]
 rcases h' with rfl|rfl<;>simp[bZ_,h,e]
theorem pm3 {ps:List Pc} {b:Str} {x:Pc}:x∈lat (aI_ ps) ⟨3,[],b⟩↔x∈ps∧x.kind=3∧x.a=b:=by
 rw[fA_]
 refine and_congr_right fun _=>⟨fun h=>?_,fun⟨h,h'⟩=>?_⟩
 ·have hk:=(dl_ h).2
  simp only at hk
  simp[bZ_,← hk]at h
  exact⟨hk.symm,h.symm⟩
 subst h';simp[bZ_,h]
theorem pm8 {ps:List Pc} {b:Str} {x:Pc}:x∈lat (aI_ ps) ⟨8,[],b⟩↔x∈ps∧x.kind=8∧x.a=b:=by
 rw[fA_]
 refine and_congr_right fun _=>⟨fun h=>?_,fun⟨h,h'⟩=>?_⟩
 ·have hk:=(dl_ h).2
  simp only at hk
  simp[bZ_,← hk]at h
  exact⟨hk.symm,h.symm⟩
 subst h';simp[bZ_,h]
theorem pm5 {ps:List Pc} {r:Str} {x:Pc}:x∈lat (aI_ ps) ⟨5,r,[]⟩↔x∈ps∧x.kind=5∧x.r=r:=by
 rw[fA_]
 refine and_congr_right fun _=>⟨fun h=>?_,fun⟨h,h'⟩=>?_⟩
 ·have hk:=(dl_ h).2
  simp only at hk
  simp[bZ_,← hk]at h
  exact⟨hk.symm,h.symm⟩
 subst h';simp[bZ_,h]
theorem pm9 {ps:List Pc} {r:Str} {x:Pc}:x∈lat (aI_ ps) ⟨9,r,[]⟩↔x∈ps∧x.kind=9∧x.r=r:=by
 rw[fA_]
 refine and_congr_right fun _=>⟨fun h=>?_,fun⟨h,h'⟩=>?_⟩
 ·have hk:=(dl_ h).2
  simp only at hk
  simp[bZ_,← hk]at h
  exact⟨hk.symm,h.symm⟩
 subst h';simp[bZ_,h]
theorem pm6 {ps:List Pc} {r:Str} (hn:r≠[]) {x:Pc}:x∈lat (aI_ ps) ⟨6,r,[]⟩↔x∈ps∧x.kind=6∧x.r=r:=by
 rw[fA_]
 refine and_congr_right fun hx=>⟨fun h=>?_,fun⟨h,h'⟩=>?_⟩
 ·have hk:=(dl_ h).2
  simp only at hk
  simp[bZ_,← hk,hn]at h
  exact⟨hk.symm,h.symm⟩
 subst h';simp[bZ_,h]
theorem pm6' {ps:List Pc} {s:Str} {x:Pc} (hn:s≠[]):x∈lat (aI_ ps) ⟨6,[],s⟩↔x∈ps∧x.kind=6∧x.s=s:=by
 rw[fA_]
 refine and_congr_right fun hx=>⟨fun h=>?_,fun⟨h,h'⟩=>?_⟩
 ·have hk:=(dl_ h).2
  simp only at hk
  simp[bZ_,← hk,hn]at h
  exact⟨hk.symm,h.symm⟩
 subst h';simp[bZ_,h]
theorem pm4 {ps:List Pc} (hr:∀ x∈ps,x.rok) {b:Str} {x:Pc}:x∈lat (aI_ ps) ⟨4,[],b⟩↔x∈ps∧x.kind=4∧x.a=b:=by
 rw[fA_]
 refine and_congr_right fun hx=>⟨fun h=>?_,fun⟨h,h'⟩=>?_⟩
 ·have hk:=(dl_ h).2
  simp only at hk
  have h0:=(hr x hx).1 (.inl hk.symm)
  simp[bZ_,← hk]at h
  refine⟨hk.symm,h.elim (fun q=>q.symm) (fun q=>absurd q.1 h0)⟩
 subst h';simp[bZ_,h]
theorem pm4' {ps:List Pc} {r b:Str} (hn:r≠[]) {x:Pc}:x∈lat (aI_ ps) ⟨4,r,b⟩↔x∈ps∧x.kind=4∧x.r=r∧x.a=b:=by
 rw[fA_]
 refine and_congr_right fun hx=>⟨fun h=>?_,fun⟨h,h',h''⟩=>?_⟩
 ·have hk:=(dl_ h).2
  simp only at hk
  simp[bZ_,← hk,hn]at h
  exact⟨hk.symm,h.1.symm,h.2.symm⟩
 subst h' h'';simp[bZ_,h]
structure Ix where
  above:List (Str×Str)
  under:List (Str×Str)
  frm:List (eO_×Str)
  into:List (eO_×Str)
  ranges:List (eO_×Fc)
  firms:List (eO_×Fc)
def Ix.nil:Ix:=⟨[],[],[],[],[],[]⟩
def Ix.add (x:Ix) (firm:Bool) (f:Fc):Ix :=
  if f.kind=1 then { x with above:=x.above++[(f.a,f.b)] }
  else if f.kind=2 then { x with under:=x.under++[(f.b,f.a)],frm:=x.frm++[((f.a,f.r),f.b)],into:=x.into++[((f.b,f.r),f.a)] }
  else if f.kind=3 then { x with ranges:=x.ranges++[((f.a,f.r),f)],firms:=if firm then x.firms++[((f.a,f.r),f)] else x.firms }
  else x
structure Ix.of (x:Ix) (S Fm:Fc→Prop):Prop where
  above:∀ a b,(a,b)∈x.above↔∃ f,S f∧f.kind=1∧f.a=a∧f.b=b
  under:∀ b a,(b,a)∈x.under↔∃ f,S f∧f.kind=2∧f.a=a∧f.b=b
  frm:∀ a r b,((a,r),b)∈x.frm↔∃ f,S f∧f.kind=2∧f.a=a∧f.r=r∧f.b=b
  into:∀ a r b,((b,r),a)∈x.into↔∃ f,S f∧f.kind=2∧f.a=a∧f.r=r∧f.b=b
  ranges:∀ a r f,((a,r),f)∈x.ranges↔S f∧f.kind=3∧f.a=a∧f.r=r
  firms:∀ a r f,((a,r),f)∈x.firms↔S f∧Fm f∧f.kind=3∧f.a=a∧f.r=r
theorem Ix.of_nil (Fm:Fc→Prop):Ix.nil.of (fun _=>False) Fm:=by
  constructor<;>simp[Ix.nil]
theorem Ix.of_add {x:Ix} {S Fm:Fc→Prop} (h:x.of S Fm) (f:Fc) {b:Bool} (hb:b=true↔Fm f):(x.add b f).of (fun y=>S y∨y=f) Fm:=by
 have key:∀ (Q:Fc→Prop),(∃ y,(S y∨y=f)∧Q y)↔(∃ y,S y∧Q y)∨Q f:=fun Q=>by
   constructor
   · rintro ⟨y,h1|rfl,h2⟩
     · exact .inl ⟨y,h1,h2⟩
     · exact .inr h2
   · rintro (⟨y,h1,h2⟩|h2)
     · exact⟨y,.inl h1,h2⟩
     · exact⟨f,.inr rfl,h2⟩
 unfold Ix.add
 split
 ·rename_i hk
  constructor
  ·intro a c;rw[key,← h.above];simp[hk];exact or_congr_right ⟨fun⟨p,q⟩=>⟨p.symm,q.symm⟩,fun⟨p,q⟩=>⟨p.symm,q.symm⟩⟩
  ·intro a c;rw[key,← h.under];simp[hk]
  ·intro a r c;rw[key,← h.frm];simp[hk]
  ·intro a r c;rw[key,← h.into];simp[hk]
  ·intro a r y;rw[h.ranges];constructor
   ·exact fun q=>⟨.inl q.1,q.2⟩
   rintro ⟨q|rfl,q2⟩
   ·exact⟨q,q2⟩
   rw[hk]at q2;exact absurd q2.1 (by decide)
  intro a r y;rw[h.firms];constructor
  ·exact fun q=>⟨.inl q.1,q.2⟩
  rintro ⟨q|rfl,q2⟩
  ·exact⟨q,q2⟩
  rw[hk]at q2;exact absurd q2.2.1 (by decide)
 split
 ·rename_i hk
  constructor
  ·intro a c;rw[key,← h.above];simp[hk]
  ·intro a c;rw[key,← h.under];simp[hk];exact or_congr_right ⟨fun⟨p,q⟩=>⟨q.symm,p.symm⟩,fun⟨p,q⟩=>⟨q.symm,p.symm⟩⟩
  ·intro a r c;rw[key,← h.frm];simp[hk];exact or_congr_right ⟨fun⟨⟨p,q⟩,s⟩=>⟨p.symm,q.symm,s.symm⟩,fun⟨p,q,s⟩=>⟨⟨p.symm,q.symm⟩,s.symm⟩⟩
  ·intro a r c;rw[key,← h.into];simp[hk];exact or_congr_right ⟨fun⟨⟨p,q⟩,s⟩=>⟨s.symm,q.symm,p.symm⟩,fun⟨p,q,s⟩=>⟨⟨s.symm,q.symm⟩,p.symm⟩⟩
  ·intro a r y;rw[h.ranges];constructor
   ·exact fun q=>⟨.inl q.1,q.2⟩
   rintro ⟨q|rfl,q2⟩
   ·exact⟨q,q2⟩
   rw[hk]at q2;exact absurd q2.1 (by decide)
  intro a r y;rw[h.firms];constructor
  ·exact fun q=>⟨.inl q.1,q.2⟩
  rintro ⟨q|rfl,q2⟩
  ·exact⟨q,q2⟩
  rw[hk]at q2;exact absurd q2.2.1 (by decide)
 split
 ·rename_i hk
  constructor
  ·intro a c;rw[key,← h.above];simp[hk]
  ·intro a c;rw[key,← h.under];simp[hk]
  ·intro a r c;rw[key,← h.frm];simp[hk]
  ·intro a r c;rw[key,← h.into];simp[hk]
  ·intro a r y
   simp only[List.mem_append,List.mem_singleton,h.ranges,Prod.mk.injEq]
   constructor
   ·rintro (⟨q,q2⟩|⟨⟨rfl,rfl⟩,rfl⟩)
    ·exact⟨.inl q,q2⟩
    exact⟨.inr rfl,hk,rfl,rfl⟩
   rintro ⟨q|rfl,q2,rfl,rfl⟩
   ·exact .inl ⟨q,q2,rfl,rfl⟩
   exact .inr ⟨⟨rfl,rfl⟩,rfl⟩
  intro a r y
  cases b with
  | false =>
    simp only[Bool.false_eq_true,if_false,h.firms]
    constructor
    · exact fun q=>⟨.inl q.1,q.2⟩
    · rintro ⟨q|rfl,q2⟩
      · exact⟨q,q2⟩
      · exact absurd (hb.2 q2.1) (by decide)
  | true =>
    simp only[if_true,List.mem_append,List.mem_singleton,h.firms,Prod.mk.injEq]
    constructor
    · rintro (⟨q,q2⟩|⟨⟨rfl,rfl⟩,rfl⟩)
      · exact⟨.inl q,q2⟩
      · exact⟨.inr rfl,hb.1 rfl,hk,rfl,rfl⟩
    · rintro ⟨q|rfl,q2,q3,rfl,rfl⟩
      · exact .inl ⟨q,q2,q3,rfl,rfl⟩
      · exact .inr ⟨⟨rfl,rfl⟩,rfl⟩
 rename_i h1 h2 h3
 constructor
 ·intro a c;rw[key,← h.above];simp[h1]
 ·intro a c;rw[key,← h.under];simp[h2]
 ·intro a r c;rw[key,← h.frm];simp[h2]
 ·intro a r c;rw[key,← h.into];simp[h2]
 ·intro a r y;rw[h.ranges];constructor
  ·exact fun q=>⟨.inl q.1,q.2⟩
  rintro ⟨q|rfl,q2⟩
  ·exact⟨q,q2⟩
  exact absurd q2.1 h3
 intro a r y;rw[h.firms];constructor
 ·exact fun q=>⟨.inl q.1,q.2⟩
 rintro ⟨q|rfl,q2⟩
 ·exact⟨q,q2⟩
 exact absurd q2.2.1 h3
theorem Ix.of_firm {x:Ix} {S Fm Fm':Fc→Prop} (h:x.of S Fm) (hf:∀ y,S y→(Fm y↔Fm' y)):x.of S Fm' :=
  ⟨h.above,h.under,h.frm,h.into,h.ranges,fun a r f=>by rw[h.firms];exact and_congr_right fun hs=>by rw[hf f hs]⟩
section
variable (pm:List (Ky×Pc)) (x:Ix) (f:Fc)
def gu_:List Fc:=(lat pm ⟨1,[],f.b⟩).map fun y=>C_ f.a y.c
def ls_:List Fc:=(lat pm ⟨3,[],f.b⟩).map fun y=>I_ f.a y.r y.c
def go_:List Fc:=(lat pm ⟨5,f.r,[]⟩).map fun y=>I_ f.a y.t f.b
def fk_:List Fc:=(lat pm ⟨6,f.r,[]⟩).flatMap fun y=>(lat x.frm (f.b,y.s)).map fun c=>I_ f.a y.t c
def gR_:List Fc:=(lat pm ⟨6,[],f.r⟩).flatMap fun y=>(lat x.into (f.a,y.r)).map fun a=>I_ a y.t f.b
def fq_:List Fc:=(lat x.above f.b).flatMap fun c=>(lat pm ⟨4,f.r,c⟩).map fun y=>C_ f.a y.c
def fr_:List Fc:=(lat pm ⟨4,[],f.b⟩).flatMap fun y=>(lat x.into (f.a,y.r)).map fun a=>C_ a y.c
def db_:List Fc:=if f.b=[33] then (lat x.under f.a).map fun a=>C_ a [33] else []
def pT_:List Fc:=((lat pm ⟨9,f.r,[]⟩).filter fun y=>decide (y.lo≤f.lo∧f.hi≤y.hi)).map fun y=>C_ f.a y.c
def cT_ (y:Fc):Fc:=T_ f.a f.r (max f.lo y.lo) (min f.hi y.hi)
def cz_ (y:Fc):Bool:=decide (min f.hi y.hi<max f.lo y.lo)
def eq_ (firm:Bool):List Fc:=if firm then lat x.ranges (f.a,f.r) else lat x.firms (f.a,f.r)
def fJ_ (l:List Fc):List Fc:=(l.filter fun y=>!cz_ f y&&decide (cT_ f y≠f∧cT_ f y≠y)).map (cT_ f)
def gT_ (l:List Fc):List Fc:=if l.any (cz_ f) then [C_ f.a [33]] else []
end
section
variable (stp:Fc→List Fc→List Fc) (kof:List Fc→List Fc)
def emits (L:List Fc) (s:List Fc):List Fc:=L.foldl (fun s y=>stp y s) s
def ed_ (f:Fc) (l:List Pc) (s:List Fc):List Fc:=l.foldl (fun s y=>if C_ f.a y.a∈kof s∧C_ f.a y.b∈kof s then stp (C_ f.a y.c) s else s) s
def ci_ (f:Fc) (l:List Pc) (s:List Fc×List Fc):List Fc×List Fc:=l.foldl (fun s y=>(stp (T_ f.a y.r y.lo y.hi) s.1,if T_ f.a y.r y.lo y.hi∈kof s.1 then s.2 else T_ f.a y.r y.lo y.hi::s.2)) s
end
theorem aC_ (stp:Fc→List Fc→List Fc) (L M:List Fc) (s:List Fc):emits stp (L++M) s=emits stp M (emits stp L s):=by simp[emits]
structure Grows (stp:Fc→List Fc→List Fc) (kof:List Fc→List Fc):Prop where
  up:∀ y s z,z∈kof s→z∈kof (stp y s)
theorem Grows.emits {stp:Fc→List Fc→List Fc} {kof:List Fc→List Fc} (h:Grows stp kof):∀ (L s:List Fc) (z:Fc),z∈kof s→z∈kof (emits stp L s)
  | [],_,_,hz=>hz
  | y::L,s,z,hz=>h.emits L _ z (h.up y s z hz)
theorem eV_ {stp:Fc→List Fc→List Fc} {kof:List Fc→List Fc} (h:Grows stp kof) (f:Fc):∀ (l:List Pc) (s:List Fc),
    ∃ L,ed_ stp kof f l s=emits stp L s∧(∀ y∈L,∃ x∈l,y=C_ f.a x.c∧C_ f.a x.a∈kof (ed_ stp kof f l s)∧C_ f.a x.b∈kof (ed_ stp kof f l s))∧(∀ x∈l,C_ f.a x.a∈kof s→C_ f.a x.b∈kof s→C_ f.a x.c∈L)
  | [],s=>⟨[],rfl,by simp,by simp⟩
  | x::l,s=>by
    by_cases hc:C_ f.a x.a∈kof s∧C_ f.a x.b∈kof s
    · obtain⟨L,h1,h2,h3⟩:=eV_ h f l (stp (C_ f.a x.c) s)
      have e:ed_ stp kof f (x::l) s=ed_ stp kof f l (stp (C_ f.a x.c) s):=by simp only[ed_,List.foldl_cons,if_pos hc]
      refine⟨C_ f.a x.c::L,by rw[e,h1];rfl,fun y hy=>?_,fun z hz ha hb=>?_⟩
      · rw[e]
        rcases List.mem_cons.1 hy with rfl|hy
        · refine⟨x,by simp,rfl,?_,?_⟩<;>rw[h1]<;>exact h.emits L _ _ (h.up _ _ _ (by first|exact hc.1|exact hc.2))
        · obtain⟨z,hz,q⟩:=h2 y hy
          exact⟨z,by simp[hz],q⟩
      · rcases List.mem_cons.1 hz with rfl|hz
        · simp
        · exact List.mem_cons_of_mem _ (h3 z hz (h.up _ _ _ ha) (h.up _ _ _ hb))
    · obtain⟨L,h1,h2,h3⟩:=eV_ h f l s
      have e:ed_ stp kof f (x::l) s=ed_ stp kof f l s:=by simp only[ed_,List.foldl_cons,if_neg hc]
      refine⟨L,by rw[e,h1],fun y hy=>?_,fun z hz ha hb=>?_⟩
      · rw[e]
        obtain⟨z,hz,q⟩:=h2 y hy
        exact⟨z,by simp[hz],q⟩
      · rcases List.mem_cons.1 hz with rfl|hz
        · exact absurd ⟨ha,hb⟩ hc
        · exact h3 z hz ha hb
theorem eE_ (stp:Fc→List Fc→List Fc) (kof:List Fc→List Fc) (f:Fc):∀ (l:List Pc) (s fm:List Fc),(ci_ stp kof f l (s,fm)).1=emits stp (l.map fun y=>T_ f.a y.r y.lo y.hi) s
  | [],_,_=>rfl
  | x::l,s,fm=>by
    simp only[ci_,List.foldl_cons,List.map_cons,emits]
    exact eE_ stp kof f l _ _
theorem gD_ {stp:Fc→List Fc→List Fc} {kof:List Fc→List Fc} (h:Grows stp kof) (f:Fc):∀ (l:List Pc) (s fm:List Fc) (z:Fc),z∈(ci_ stp kof f l (s,fm)).2↔z∈fm∨(z ∉ kof s∧z∈(ci_ stp kof f l (s,fm)).2)
 | [],s,fm,z=>by simp[ci_]
 | x::l,s,fm,z=>by
   have ih:=gD_ h f l (stp (T_ f.a x.r x.lo x.hi) s) (if T_ f.a x.r x.lo x.hi∈kof s then fm else T_ f.a x.r x.lo x.hi::fm) z
   have e:ci_ stp kof f (x::l) (s,fm)=ci_ stp kof f l (stp (T_ f.a x.r x.lo x.hi) s,if T_ f.a x.r x.lo x.hi∈kof s then fm else T_ f.a x.r x.lo x.hi::fm):=rfl
   rw[e]
   constructor
   · intro hz
     rcases ih.1 hz with h1|h1
     · split at h1
       · exact .inl h1
       · rename_i hn
         rcases List.mem_cons.1 h1 with rfl|h1
         · exact .inr ⟨hn,hz⟩
         · exact .inl h1
     · exact .inr ⟨fun q=>h1.1 (h.up _ _ _ q),hz⟩
   · rintro (h1|h1)
     · exact ih.2 (.inl (by split<;>simp[h1]))
     · exact h1.2
theorem jU_ {stp:Fc→List Fc→List Fc} {kof:List Fc→List Fc} (f:Fc):∀ (l:List Pc) (s fm:List Fc) (z:Fc),z∈(ci_ stp kof f l (s,fm)).2→z∈fm∨∃ y∈l,z=T_ f.a y.r y.lo y.hi
 | [],s,fm,z,hz=>.inl hz
 | x::l,s,fm,z,hz=>by
   have e:ci_ stp kof f (x::l) (s,fm)=ci_ stp kof f l (stp (T_ f.a x.r x.lo x.hi) s,if T_ f.a x.r x.lo x.hi∈kof s then fm else T_ f.a x.r x.lo x.hi::fm):=rfl
   rw[e]at hz
   rcases jU_ f l _ _ z hz with h1|⟨y,hy,h1⟩
   · split at h1
     · exact .inl h1
     · rcases List.mem_cons.1 h1 with rfl|h1
       · exact .inr ⟨x,by simp,rfl⟩
       · exact .inl h1
   · exact .inr ⟨y,by simp[hy],h1⟩
def Fc.form (y:Fc):Prop:=(∃ a b,y=C_ a b)∨(∃ a r b,y=I_ a r b∧r≠[])∨(∃ a r lo hi,y=T_ a r lo hi∧r≠[]∧-1099511627776≤lo∧lo≤hi∧hi≤1099511627776)
structure Pc.vok (x:Pc):Prop where
  rok:x.rok
  num:x.kind=8∨x.kind=9→-1099511627776≤x.lo∧x.lo≤x.hi∧x.hi≤1099511627776
theorem es_ (a b:Str):(C_ a b).form:=.inl ⟨a,b,rfl⟩
theorem jk_ {f:Fc} (h:f.form) (hk:f.kind=1):f=C_ f.a f.b:=by
 rcases h with⟨a,b,rfl⟩|⟨a,r,b,rfl,_⟩|⟨a,r,lo,hi,rfl,_⟩
 ·rfl
 ·simp[I_]at hk
 simp[T_]at hk
theorem hm_ {f:Fc} (h:f.form) (hk:f.kind=2):f=I_ f.a f.r f.b∧f.r≠[]:=by
 rcases h with⟨a,b,rfl⟩|⟨a,r,b,rfl,h⟩|⟨a,r,lo,hi,rfl,_⟩
 ·simp[C_]at hk
 ·exact⟨rfl,h⟩
 simp[T_]at hk
theorem gq_ {f:Fc} (h:f.form) (hk:f.kind=3):f=T_ f.a f.r f.lo f.hi∧f.r≠[]∧-1099511627776≤f.lo∧f.lo≤f.hi∧f.hi≤1099511627776:=by
 rcases h with⟨a,b,rfl⟩|⟨a,r,b,rfl,_⟩|⟨a,r,lo,hi,rfl,h⟩
 ·simp[C_]at hk
 ·simp[I_]at hk
 exact⟨rfl,h⟩
theorem gp_ {f:Fc} (h:f.form):f.kind=1∨f.kind=2∨f.kind=3:=by
  rcases h with⟨a,b,rfl⟩|⟨a,r,b,rfl,h⟩|⟨a,r,lo,hi,rfl,_⟩<;>simp[C_,I_,T_]
theorem One.form {p:List Pc} {A:List Str} {S:Fc→Prop} {M:Fc→Fc→Prop} (hp:∀ x∈p,x.vok) (hS:∀ y,S y→y.form) {y:Fc} (h:One p A S M y):y.form:=by
  have link_r:∀ {a r b:Str},S (I_ a r b)→r≠[]:=fun h=>(hm_ (hS _ h) rfl).2
  have span_r:∀ {a r:Str} {lo hi:Int},S (T_ a r lo hi)→r≠[]∧-1099511627776≤lo∧lo≤hi∧hi≤1099511627776:=fun h=>(gq_ (hS _ h) rfl).2
  cases h with
  | r1 _=>exact es_ _ _
  | r2 _=>exact es_ _ _
  | r10 hx hk _=>exact .inr (.inl ⟨_,_,_,rfl,(hp _ hx).rok.1 (by simp[hk])⟩)
  | r3 _ _ _=>exact es_ _ _
  | r4 _ _ _ _=>exact es_ _ _
  | r5 hx hk _=>exact .inr (.inl ⟨_,_,_,rfl,(hp _ hx).rok.1 (by simp[hk])⟩)
  | r6 hx hk _=>exact .inr (.inl ⟨_,_,_,rfl,(hp _ hx).rok.2.2 hk⟩)
  | r7 hx hk _ _=>exact .inr (.inl ⟨_,_,_,rfl,((hp _ hx).rok.2.1 hk).2⟩)
  | r8 _ _ _ _=>exact es_ _ _
  | r9 _ _=>exact es_ _ _
  | r11 hx hk _=>exact .inr (.inr ⟨_,_,_,_,rfl,(hp _ hx).rok.1 (by simp[hk]),(hp _ hx).num (.inl hk)⟩)
  | r12 h h' _ hl=>exact .inr (.inr ⟨_,_,_,_,rfl,(span_r h).1,by have:=span_r h;omega,hl,by have:=span_r h;omega⟩)
  | r13 _ _ _ _=>exact es_ _ _
  | r14 _ _ _ _ _=>exact es_ _ _
section
variable {ps:List Pc} {A:List Str} {x:Ix} {S Fm:Fc→Prop} {f:Fc} {kn:List Fc}
theorem lb_ (hk:f.kind=1) (hf:f.form) (hkn:f∈kn):∀ y∈gu_ (aI_ ps) f,fX_ ps A (·∈kn) y:=by
  intro y hy
  obtain⟨z,hz,rfl⟩:=List.mem_map.1 hy
  obtain⟨h1,h2,h3⟩:=pm1.1 hz
  exact .r3 h1 h2 (by rw[h3,← jk_ hf hk];exact hkn)
theorem oe_ (hk:f.kind=1) (hf:f.form) (hkn:f∈kn):∀ y∈ls_ (aI_ ps) f,fX_ ps A (·∈kn) y:=by
  intro y hy
  obtain⟨z,hz,rfl⟩:=List.mem_map.1 hy
  obtain⟨h1,h2,h3⟩:=pm3.1 hz
  exact .r5 h1 h2 (by rw[h3,← jk_ hf hk];exact hkn)
theorem mM_ (hk:f.kind=1) (hf:f.form) (hkn:f∈kn):∀ y∈(lat (aI_ ps) ⟨8,[],f.b⟩).map (fun y=>T_ f.a y.r y.lo y.hi),fX_ ps A (·∈kn) y:=by
  intro y hy
  obtain⟨z,hz,rfl⟩:=List.mem_map.1 hy
  obtain⟨h1,h2,h3⟩:=pm8.1 hz
  exact .r11 h1 h2 (by rw[h3,← jk_ hf hk];exact hkn)
theorem kY_ (hk:f.kind=2) (hf:f.form) (hkn:f∈kn):∀ y∈go_ (aI_ ps) f,fX_ ps A (·∈kn) y:=by
  intro y hy
  obtain⟨z,hz,rfl⟩:=List.mem_map.1 hy
  obtain⟨h1,h2,h3⟩:=pm5.1 hz
  exact .r6 h1 h2 (by rw[h3,← (hm_ hf hk).1];exact hkn)
theorem jF_ {hS:∀ y,S y→y.form} {a r b:Str} (h:∃ g,S g∧g.kind=2∧g.a=a∧g.r=r∧g.b=b):S (I_ a r b):=by
  obtain⟨g,h1,h2,rfl,rfl,rfl⟩:=h
  rw[← (hm_ (hS g h1) h2).1];exact h1
theorem ix_sub {hS:∀ y,S y→y.form} {a b:Str} (h:∃ g,S g∧g.kind=1∧g.a=a∧g.b=b):S (C_ a b):=by
  obtain⟨g,h1,h2,rfl,rfl⟩:=h
  rw[← jk_ (hS g h1) h2];exact h1
theorem nQ_ (hx:x.of S Fm) (hS:∀ y,S y→y.form) (hkS:∀ y,S y→y∈kn) (hk:f.kind=2) (hf:f.form) (hkn:f∈kn):∀ y∈fk_ (aI_ ps) x f++gR_ (aI_ ps) x f,fX_ ps A (·∈kn) y:=by
 intro y hy
 obtain⟨e,hn⟩:=hm_ hf hk
 rcases List.mem_append.1 hy with hy|hy
 ·obtain⟨z,hz,hy⟩:=List.mem_flatMap.1 hy
  obtain⟨c,hc,rfl⟩:=List.mem_map.1 hy
  obtain⟨h1,h2,h3⟩:=(pm6 hn).1 hz
  exact .r7 h1 h2 (by rw[h3,← e];exact hkn) (hkS _ (jF_ (hS:=hS) ((hx.frm _ _ _).1 (bb_.1 hc))))
 obtain⟨z,hz,hy⟩:=List.mem_flatMap.1 hy
 obtain⟨c,hc,rfl⟩:=List.mem_map.1 hy
 obtain⟨h1,h2,h3⟩:=(pm6' hn).1 hz
 exact .r7 h1 h2 (hkS _ (jF_ (hS:=hS) ((hx.into _ _ _).1 (bb_.1 hc)))) (by rw[h3,← e];exact hkn)
theorem kH_ (hx:x.of S Fm) (hS:∀ y,S y→y.form) (hkS:∀ y,S y→y∈kn) (hk:f.kind=2) (hf:f.form) (hkn:f∈kn):∀ y∈fq_ (aI_ ps) x f,fX_ ps A (·∈kn) y:=by
  intro y hy
  obtain⟨e,hn⟩:=hm_ hf hk
  obtain⟨c,hc,hy⟩:=List.mem_flatMap.1 hy
  obtain⟨z,hz,rfl⟩:=List.mem_map.1 hy
  obtain⟨h1,h2,h3,h4⟩:=(pm4' hn).1 hz
  exact .r8 (b:=f.b) h1 h2 (by rw[h3,← e];exact hkn) (by rw[h4];exact hkS _ (ix_sub (hS:=hS) ((hx.above _ _).1 (bb_.1 hc))))
theorem kI_ (hr:∀ x∈ps,x.vok) (hx:x.of S Fm) (hS:∀ y,S y→y.form) (hkS:∀ y,S y→y∈kn) (hk:f.kind=1) (hf:f.form) (hkn:f∈kn):∀ y∈fr_ (aI_ ps) x f,fX_ ps A (·∈kn) y:=by
  intro y hy
  obtain⟨z,hz,hy⟩:=List.mem_flatMap.1 hy
  obtain⟨c,hc,rfl⟩:=List.mem_map.1 hy
  obtain⟨h1,h2,h3⟩:=(pm4 (fun x hx=>(hr x hx).rok)).1 hz
  exact .r8 (b:=f.a) h1 h2 (hkS _ (jF_ (hS:=hS) ((hx.into _ _ _).1 (bb_.1 hc)))) (by rw[h3,← jk_ hf hk];exact hkn)
theorem jv_ (hx:x.of S Fm) (hS:∀ y,S y→y.form) (hkS:∀ y,S y→y∈kn) (hk:f.kind=1) (hf:f.form) (hkn:f∈kn):∀ y∈db_ x f,fX_ ps A (·∈kn) y:=by
 intro y hy
 unfold db_ at hy
 split at hy
 ·rename_i hb
  obtain⟨a,ha,rfl⟩:=List.mem_map.1 hy
  obtain⟨g,h1,h2,h3,h4⟩:=(hx.under _ _).1 (bb_.1 ha)
  exact .r9 (r:=g.r) (hkS _ (jF_ (hS:=hS) ⟨g,h1,h2,h3,rfl,h4⟩)) (by rw[← hb,← jk_ hf hk];exact hkn)
 simp at hy
theorem ju_ (hk:f.kind=2) (hf:f.form) (hkn:f∈kn) (h:C_ f.b [33]∈kn):fX_ ps A (·∈kn) (C_ f.a [33]) :=
  .r9 (r:=f.r) (b:=f.b) (by rw[← (hm_ hf hk).1];exact hkn) h
theorem pS_ (hk:f.kind=3) (hf:f.form) (hkn:f∈kn):∀ y∈pT_ (aI_ ps) f,fX_ ps A (·∈kn) y:=by
  intro y hy
  obtain⟨z,hz,rfl⟩:=List.mem_map.1 hy
  obtain⟨hz,hc⟩:=List.mem_filter.1 hz
  obtain⟨h1,h2,h3⟩:=pm9.1 hz
  have hc:=of_decide_eq_true hc
  exact .r14 h1 h2 (by rw[h3,← (gq_ hf hk).1];exact hkn) hc.1 hc.2
theorem iT_ (hx:x.of S Fm) {firm:Bool} {y:Fc} (hy:y∈eq_ x f firm):S y∧y.kind=3∧y.a=f.a∧y.r=f.r:=by
 unfold eq_ at hy
 split at hy
 ·exact (hx.ranges _ _ _).1 (bb_.1 hy)
 have:=(hx.firms _ _ _).1 (bb_.1 hy)
 exact⟨this.1,this.2.2⟩
theorem oq_ (hx:x.of S Fm) (hS:∀ y,S y→y.form) (hkS:∀ y,S y→y∈kn) (hk:f.kind=3) (hf:f.form) (hkn:f∈kn) {firm:Bool}:∀ y∈fJ_ f (eq_ x f firm)++gT_ f (eq_ x f firm),fX_ ps A (·∈kn) y:=by
 intro y hy
 have e:=(gq_ hf hk).1
 rcases List.mem_append.1 hy with hy|hy
 ·obtain⟨z,hz,rfl⟩:=List.mem_map.1 hy
  obtain⟨hz,hc⟩:=List.mem_filter.1 hz
  obtain⟨h1,h2,h3,h4⟩:=iT_ hx hz
  simp only[cz_,Bool.and_eq_true,Bool.not_eq_true',decide_eq_false_iff_not,Int.not_lt]at hc
  have ez:=(gq_ (hS z h1) h2).1
  rw[h3,h4]at ez
  exact .r12 (by rw[← e];exact hkn) (by rw[← ez];exact hkS z h1) trivial hc.1
 unfold gT_ at hy
 split at hy
 ·rename_i ha
  obtain⟨z,hz,hc⟩:=List.any_eq_true.1 ha
  obtain⟨h1,h2,h3,h4⟩:=iT_ hx hz
  have ez:=(gq_ (hS z h1) h2).1
  rw[h3,h4]at ez
  simp only[List.mem_singleton]at hy
  subst hy
  exact .r13 (r:=f.r) (by rw[← e];exact hkn) (by rw[← ez];exact hkS z h1) trivial (by simpa [cz_] using hc)
 simp at hy
theorem nK_ {z:Pc} {a:Str} (hz:z∈ps) (hk:z.kind=1):C_ a z.c∈gu_ (aI_ ps) (C_ a z.a) :=
  List.mem_map.2 ⟨z,pm1.2 ⟨hz,hk,rfl⟩,rfl⟩
theorem qP_ {z:Pc} {a:Str} (hz:z∈ps) (hk:z.kind=3):I_ a z.r z.c∈ls_ (aI_ ps) (C_ a z.a) :=
  List.mem_map.2 ⟨z,pm3.2 ⟨hz,hk,rfl⟩,rfl⟩
theorem pw_ {z:Pc} {a:Str} (hz:z∈ps) (hk:z.kind=8):T_ a z.r z.lo z.hi∈(lat (aI_ ps) ⟨8,[],(C_ a z.a).b⟩).map (fun y=>T_ (C_ a z.a).a y.r y.lo y.hi) :=
  List.mem_map.2 ⟨z,pm8.2 ⟨hz,hk,rfl⟩,rfl⟩
theorem nA_ {z:Pc} {a b:Str} (hz:z∈ps) (hk:z.kind=5):I_ a z.t b∈go_ (aI_ ps) (I_ a z.r b) :=
  List.mem_map.2 ⟨z,pm5.2 ⟨hz,hk,rfl⟩,rfl⟩
theorem oE_ (hx:x.of S Fm) (hr:∀ x∈ps,x.vok) {z:Pc} {a b c:Str} (hz:z∈ps) (hk:z.kind=6) (h:S (I_ b z.s c)):I_ a z.t c∈fk_ (aI_ ps) x (I_ a z.r b) :=
  List.mem_flatMap.2 ⟨z,(pm6 ((hr z hz).rok.1 (by simp[hk]))).2 ⟨hz,hk,rfl⟩,List.mem_map.2 ⟨c,bb_.2 ((hx.frm _ _ _).2 ⟨_,h,rfl,rfl,rfl,rfl⟩),rfl⟩⟩
theorem oD_ (hx:x.of S Fm) (hr:∀ x∈ps,x.vok) {z:Pc} {a b c:Str} (hz:z∈ps) (hk:z.kind=6) (h:S (I_ a z.r b)):I_ a z.t c∈gR_ (aI_ ps) x (I_ b z.s c) :=
  List.mem_flatMap.2 ⟨z,(pm6' ((hr z hz).rok.2.1 hk).1).2 ⟨hz,hk,rfl⟩,List.mem_map.2 ⟨a,bb_.2 ((hx.into _ _ _).2 ⟨_,h,rfl,rfl,rfl,rfl⟩),rfl⟩⟩
theorem mx_ (hx:x.of S Fm) (hr:∀ x∈ps,x.vok) {z:Pc} {a b:Str} (hz:z∈ps) (hk:z.kind=4) (h:S (C_ b z.a)):C_ a z.c∈fq_ (aI_ ps) x (I_ a z.r b) :=
  List.mem_flatMap.2 ⟨z.a,bb_.2 ((hx.above _ _).2 ⟨_,h,rfl,rfl,rfl⟩),List.mem_map.2 ⟨z,(pm4' ((hr z hz).rok.1 (by simp[hk]))).2 ⟨hz,hk,rfl,rfl⟩,rfl⟩⟩
theorem my_ (hx:x.of S Fm) (hr:∀ x∈ps,x.vok) {z:Pc} {a b:Str} (hz:z∈ps) (hk:z.kind=4) (h:S (I_ a z.r b)):C_ a z.c∈fr_ (aI_ ps) x (C_ b z.a) :=
  List.mem_flatMap.2 ⟨z,(pm4 (fun x hx=>(hr x hx).rok)).2 ⟨hz,hk,rfl⟩,List.mem_map.2 ⟨a,bb_.2 ((hx.into _ _ _).2 ⟨_,h,rfl,rfl,rfl,rfl⟩),rfl⟩⟩
theorem kZ_ (hx:x.of S Fm) {a r b:Str} (h:S (I_ a r b)):C_ a [33]∈db_ x (C_ b [33]):=by
  unfold db_
  rw[if_pos (show (C_ b [33]).b=[33] from rfl)]
  exact List.mem_map.2 ⟨a,bb_.2 ((hx.under _ _).2 ⟨_,h,rfl,rfl,rfl⟩),rfl⟩
theorem tm_ {z:Pc} {a:Str} {lo hi:Int} (hz:z∈ps) (hk:z.kind=9) (h1:z.lo≤lo) (h2:hi≤z.hi):C_ a z.c∈pT_ (aI_ ps) (T_ a z.r lo hi) :=
  List.mem_map.2 ⟨z,List.mem_filter.2 ⟨pm9.2 ⟨hz,hk,rfl⟩,decide_eq_true ⟨h1,h2⟩⟩,rfl⟩
theorem lF_ (hx:x.of S Fm) {firm:Bool} (hfm:firm=true↔Fm f) {y:Fc} (hy:S y) (hk:y.kind=3) (ha:y.a=f.a) (hr:y.r=f.r) (hm:Fm f∨Fm y):y∈eq_ x f firm:=by
  unfold eq_
  cases firm with
  | true=>rw[if_pos rfl];exact bb_.2 ((hx.ranges _ _ _).2 ⟨hy,hk,ha,hr⟩)
  | false =>
    rw[if_neg (by decide)]
    refine bb_.2 ((hx.firms _ _ _).2 ⟨hy,hm.resolve_left (fun q=>?_),hk,ha,hr⟩)
    exact absurd (hfm.2 q) (by decide)
theorem np_ {l:List Fc} {y:Fc} (hy:y∈l) :
    (max f.lo y.lo≤min f.hi y.hi→cT_ f y∈fJ_ f l∨cT_ f y=f∨cT_ f y=y)∧(min f.hi y.hi<max f.lo y.lo→C_ f.a [33]∈gT_ f l):=by
  refine⟨fun h=>?_,fun h=>?_⟩
  · by_cases h1:cT_ f y=f
    · exact .inr (.inl h1)
    · by_cases h2:cT_ f y=y
      · exact .inr (.inr h2)
      · refine .inl (List.mem_map.2 ⟨y,List.mem_filter.2 ⟨hy,?_⟩,rfl⟩)
        simp only[cz_,Bool.and_eq_true,Bool.not_eq_true',decide_eq_false_iff_not,Int.not_lt,decide_eq_true_eq]
        exact⟨h,h1,h2⟩
  · unfold gT_
    rw[if_pos (List.any_eq_true.2 ⟨y,hy,by simpa [cz_] using h⟩)]
    simp
end
section
variable (stp:Fc→List Fc→List Fc) (kof:List Fc→List Fc) (pm:List (Ky×Pc)) (x:Ix) (f:Fc)
def rl (j:Nat) (s:List Fc×List Fc):List Fc×List Fc :=
  if f.kind=1 then
    (match j with
    | 0=>(emits stp (gu_ pm f) s.1,s.2)
    | 1=>(ed_ stp kof f (lat pm ⟨2,[],f.b⟩) s.1,s.2)
    | 2=>(emits stp (ls_ pm f) s.1,s.2)
    | 3=>(emits stp (fr_ pm x f) s.1,s.2)
    | 4=>(emits stp (db_ x f) s.1,s.2)
    | _=>ci_ stp kof f (lat pm ⟨8,[],f.b⟩) s)
  else if f.kind=2 then
    (match j with
    | 0=>(emits stp (go_ pm f) s.1,s.2)
    | 1=>(emits stp (fk_ pm x f++gR_ pm x f) s.1,s.2)
    | 2=>(emits stp (fq_ pm x f) s.1,s.2)
    | _=>(if C_ f.b [33]∈kof s.1 then stp (C_ f.a [33]) s.1 else s.1,s.2))
  else
    (match j with
    | 0=>(emits stp (fJ_ f (eq_ x f (decide (f∈s.2)))++gT_ f (eq_ x f (decide (f∈s.2)))) s.1,s.2)
    | _=>(emits stp (pT_ pm f) s.1,s.2))
def rls:Nat→List Fc×List Fc→List Fc×List Fc
  | 0,s=>s
  | j+1,s=>rl stp kof pm x f j (rls j s)
def nrl:Nat:=if f.kind=1 then 6 else if f.kind=2 then 4 else 2
end
structure Cmpl (ps:List Pc) (S Fm kn good:Fc→Prop) (f:Fc):Prop where
  c3:∀ z a,z∈ps→z.kind=1→f=C_ a z.a→good (C_ a z.c)
  c4:∀ z a,z∈ps→z.kind=2→f=C_ a z.a→kn (C_ a z.b)→good (C_ a z.c)
  c4':∀ z a,z∈ps→z.kind=2→f=C_ a z.b→kn (C_ a z.a)→good (C_ a z.c)
  c5:∀ z a,z∈ps→z.kind=3→f=C_ a z.a→good (I_ a z.r z.c)
  c6:∀ z a b,z∈ps→z.kind=5→f=I_ a z.r b→good (I_ a z.t b)
  c7:∀ z a b c,z∈ps→z.kind=6→f=I_ a z.r b→S (I_ b z.s c)→good (I_ a z.t c)
  c7':∀ z a b c,z∈ps→z.kind=6→f=I_ b z.s c→S (I_ a z.r b)→good (I_ a z.t c)
  c8:∀ z a b,z∈ps→z.kind=4→f=I_ a z.r b→S (C_ b z.a)→good (C_ a z.c)
  c8':∀ z a b,z∈ps→z.kind=4→f=C_ b z.a→S (I_ a z.r b)→good (C_ a z.c)
  c9:∀ a r b,f=I_ a r b→kn (C_ b [33])→good (C_ a [33])
  c9':∀ a r b,f=C_ b [33]→S (I_ a r b)→good (C_ a [33])
  c11:∀ z a,z∈ps→z.kind=8→f=C_ a z.a→good (T_ a z.r z.lo z.hi)
  c12:∀ y,f.kind=3→S y→y.kind=3→y.a=f.a→y.r=f.r→(Fm f∨Fm y)→max f.lo y.lo≤min f.hi y.hi→good (cT_ f y)
  c13:∀ y,f.kind=3→S y→y.kind=3→y.a=f.a→y.r=f.r→(Fm f∨Fm y)→min f.hi y.hi<max f.lo y.lo→good (C_ f.a [33])
  c14:∀ z a lo hi,z∈ps→z.kind=9→f=T_ a z.r lo hi→z.lo≤lo→hi≤z.hi→good (C_ a z.c)
section
variable {stp:Fc→List Fc→List Fc} {kof:List Fc→List Fc} {ps:List Pc} {A:List Str} {x:Ix} {S Fm:Fc→Prop} {f:Fc}
theorem mW_ (hg:Grows stp kof) (j:Nat) (s:List Fc×List Fc):∃ L,(rl stp kof (aI_ ps) x f j s).1=emits stp L s.1:=by
 unfold rl
 split
 ·split
  ·exact⟨_,rfl⟩
  ·obtain⟨L,h,_⟩:=eV_ hg f (lat (aI_ ps) ⟨2,[],f.b⟩) s.1
   exact⟨L,h⟩
  ·exact⟨_,rfl⟩
  ·exact⟨_,rfl⟩
  ·exact⟨_,rfl⟩
  exact⟨_,eE_ stp kof f _ s.1 s.2⟩
 split
 ·split
  ·exact⟨_,rfl⟩
  ·exact⟨_,rfl⟩
  ·exact⟨_,rfl⟩
  simp only
  split
  ·exact⟨[C_ f.a [33]],rfl⟩
  exact⟨[],rfl⟩
 split
 ·exact⟨_,rfl⟩
 exact⟨_,rfl⟩
theorem iQ_ (hg:Grows stp kof) (j:Nat) (s:List Fc×List Fc):∃ L,(rls stp kof (aI_ ps) x f j s).1=emits stp L s.1:=by
  induction j with
  | zero=>exact⟨[],rfl⟩
  | succ j ih =>
    obtain⟨L,h⟩:=ih
    obtain⟨M,h'⟩:=mW_ (ps:=ps) (x:=x) (f:=f) hg j (rls stp kof (aI_ ps) x f j s)
    exact⟨L++M,by rw[rls,h',h,aC_]⟩
theorem iP_ (hg:Grows stp kof) (j:Nat) (s:List Fc×List Fc) (z:Fc) (hz:z∈kof s.1):z∈kof (rls stp kof (aI_ ps) x f j s).1:=by
  obtain⟨L,h⟩:=iQ_ (ps:=ps) (x:=x) (f:=f) hg j s
  rw[h];exact hg.emits L _ z hz
theorem mV_ (j:Nat) (s:List Fc×List Fc) (h:f.kind=1→j≤5):(rls stp kof (aI_ ps) x f j s).2=s.2:=by
 induction j with
 | zero=>rfl
 | succ j ih =>
   rw[← ih (fun hk=>by have:=h hk;omega),rls,rl.eq_def]
   split
   · rename_i hk
     have:=h hk
     match j,this with
     | 0,_=>rfl
     | 1,_=>rfl
     | 2,_=>rfl
     | 3,_=>rfl
     | 4,_=>rfl
   · split
     · split<;>rfl
     · split<;>rfl
theorem rc_ (hg:Grows stp kof) (hr:∀ x∈ps,x.vok) (hx:x.of S Fm) (s:List Fc×List Fc) (hfm:∀ y,S y→(Fm y↔y∈s.2)) (hf:S f) (hSk:∀ y,S y→y∈kof s.1) (good:Fc→Prop) (hS:∀ y,S y→good y)
    (H:∀ j,j<nrl f→∀ L,(rls stp kof (aI_ ps) x f (j+1) s).1=emits stp L (rls stp kof (aI_ ps) x f j s).1→∀ y∈L,good y) :
    Cmpl ps S Fm (·∈kof s.1) good f:=by
  have K:∀ k j,f.kind=k→j<nrl f→∀ L,(rl stp kof (aI_ ps) x f j (rls stp kof (aI_ ps) x f j s)).1=emits stp L (rls stp kof (aI_ ps) x f j s).1→∀ y∈L,good y:=fun k j _ hj L hL=>H j hj L (by rw[rls];exact hL)
  have n1:f.kind=1→nrl f=6:=fun h=>by simp[nrl,h]
  have n2:f.kind=2→nrl f=4:=fun h=>by simp[nrl,h]
  have n3:f.kind=3→nrl f=2:=fun h=>by simp[nrl,h]
  have k1:∀ {a b},f=C_ a b→f.kind=1:=fun e=>by rw[e];rfl
  have k2:∀ {a r b},f=I_ a r b→f.kind=2:=fun e=>by rw[e];rfl
  have k3:∀ {a r lo hi},f=T_ a r lo hi→f.kind=3:=fun e=>by rw[e];rfl
  have both:∀ z a,z∈ps→z.kind=2→f.kind=1→f.a=a→(z.a=f.b∨z.b=f.b)→C_ a z.a∈kof s.1→C_ a z.b∈kof s.1→good (C_ a z.c):=by
    intro z a hz hk h1 ha hb g1 g2
    subst ha
    obtain⟨L,e1,e2,e3⟩:=eV_ hg f (lat (aI_ ps) ⟨2,[],f.b⟩) (rls stp kof (aI_ ps) x f 1 s).1
    exact K 1 1 h1 (by rw[n1 h1];decide) L (by rw[rl.eq_def,if_pos h1];exact e1) _ (e3 z (pm2.2 ⟨hz,hk,hb⟩) (iP_ hg 1 s _ g1) (iP_ hg 1 s _ g2))
  have mt:f.kind=3→(∀ y∈fJ_ f (eq_ x f (decide (f∈s.2)))++gT_ f (eq_ x f (decide (f∈s.2))),good y):=fun h3 =>
    K 3 0 h3 (by rw[n3 h3];decide) _ (by rw[rl.eq_def,if_neg (by rw[h3];decide),if_neg (by rw[h3];decide)];rfl)
  have hfirm:decide (f∈s.2)=true↔Fm f:=by rw[decide_eq_true_eq];exact (hfm f hf).symm
  refine⟨?_,?_,?_,?_,?_,?_,?_,?_,?_,?_,?_,?_,?_,?_,?_⟩
  · intro z a hz hk e
    have h1:=k1 e
    exact K 1 0 h1 (by rw[n1 h1];decide) (gu_ (aI_ ps) f) (by rw[rl.eq_def,if_pos h1]<;>rfl) _ (by rw[e];exact nK_ hz hk)
  · intro z a hz hk e h
    have h1:=k1 e
    exact both z a hz hk h1 (by rw[e];rfl) (by rw[e];exact .inl rfl) (by rw[← e];exact hSk f hf) h
  · intro z a hz hk e h
    have h1:=k1 e
    exact both z a hz hk h1 (by rw[e];rfl) (by rw[e];exact .inr rfl) h (by rw[← e];exact hSk f hf)
  · intro z a hz hk e
    have h1:=k1 e
    exact K 1 2 h1 (by rw[n1 h1];decide) (ls_ (aI_ ps) f) (by rw[rl.eq_def,if_pos h1]<;>rfl) _ (by rw[e];exact qP_ hz hk)
  · intro z a b hz hk e
    have h1:=k2 e
    exact K 2 0 h1 (by rw[n2 h1];decide) (go_ (aI_ ps) f) (by rw[rl.eq_def,if_neg (by rw[h1];decide),if_pos h1]<;>rfl) _ (by rw[e];exact nA_ hz hk)
  · intro z a b c hz hk e h
    have h1:=k2 e
    exact K 2 1 h1 (by rw[n2 h1];decide) (fk_ (aI_ ps) x f++gR_ (aI_ ps) x f) (by rw[rl.eq_def,if_neg (by rw[h1];decide),if_pos h1]<;>rfl) _ (List.mem_append_left _ (by rw[e];exact oE_ hx hr hz hk h))
  · intro z a b c hz hk e h
    have h1:=k2 e
    exact K 2 1 h1 (by rw[n2 h1];decide) (fk_ (aI_ ps) x f++gR_ (aI_ ps) x f) (by rw[rl.eq_def,if_neg (by rw[h1];decide),if_pos h1]<;>rfl) _ (List.mem_append_right _ (by rw[e];exact oD_ hx hr hz hk h))
  · intro z a b hz hk e h
    have h1:=k2 e
    exact K 2 2 h1 (by rw[n2 h1];decide) (fq_ (aI_ ps) x f) (by rw[rl.eq_def,if_neg (by rw[h1];decide),if_pos h1]<;>rfl) _ (by rw[e];exact mx_ hx hr hz hk h)
  · intro z a b hz hk e h
    have h1:=k1 e
    exact K 1 3 h1 (by rw[n1 h1];decide) (fr_ (aI_ ps) x f) (by rw[rl.eq_def,if_pos h1]<;>rfl) _ (by rw[e];exact my_ hx hr hz hk h)
  · intro a r b e h
    have h1:=k2 e
    have e1:C_ f.b [33]∈kof (rls stp kof (aI_ ps) x f 3 s).1:=iP_ hg 3 s _ (by rw[e];exact h)
    exact K 2 3 h1 (by rw[n2 h1];decide) [C_ f.a [33]] (by rw[rl.eq_def,if_neg (by rw[h1];decide),if_pos h1];simp only[if_pos e1];rfl) _ (by rw[e];simp[I_])
  · intro a r b e h
    have h1:=k1 e
    exact K 1 4 h1 (by rw[n1 h1];decide) (db_ x f) (by rw[rl.eq_def,if_pos h1]<;>rfl) _ (by rw[e];exact kZ_ hx h)
  · intro z a hz hk e
    have h1:=k1 e
    exact K 1 5 h1 (by rw[n1 h1];decide) ((lat (aI_ ps) ⟨8,[],f.b⟩).map fun y=>T_ f.a y.r y.lo y.hi) (by rw[rl.eq_def,if_pos h1];exact eE_ stp kof f _ _ _) _ (by rw[e];exact pw_ hz hk)
  · intro y h3 hy hk ha hr' hm hl
    have hmem:=lF_ hx hfirm hy hk ha hr' hm
    rcases (np_ (f:=f) hmem).1 hl with q|q|q
    · exact mt h3 _ (List.mem_append_left _ q)
    · rw[q];exact hS f hf
    · rw[q];exact hS y hy
  · intro y h3 hy hk ha hr' hm hl
    have hmem:=lF_ hx hfirm hy hk ha hr' hm
    exact mt h3 _ (List.mem_append_right _ ((np_ (f:=f) hmem).2 hl))
  · intro z a lo hi hz hk e g1 g2
    have h1:=k3 e
    exact K 3 1 h1 (by rw[n3 h1];decide) (pT_ (aI_ ps) f) (by rw[rl.eq_def,if_neg (by rw[h1];decide),if_neg (by rw[h1];decide)]<;>rfl) _ (by rw[e];exact tm_ hz hk g1 g2)
end
end Go.Vs
