/-
  Part of the proof of the law ProofPieces over this seat: the small logic, the data, the contracts of functions (no condition).
-/
import Derived.Test.YtkeanlfhghlgiaaGreatDoorQProofPieces4
import Derived.Test.YtkeanlfhghlgiaaGreatDoorQProofPieces13
set_option linter.unusedVariables false
set_option linter.unusedSimpArgs false
set_option linter.unusedSectionVars false
set_option maxHeartbeats 1000000
namespace Go.Proofs.YtkeanlfhghlgiaaGreatDoor
open Go Go.Sx Go.Proofs
attribute [local irreducible] Code.wp wpList wpAnyH
open Go.Vs
section
variable {P:Program} {N:Nf} {fr:Fr} {H:Hp} {Γ:List Fct}
theorem mT_:∀ xs:List Int,xs.flatMap U_=xs.map (Value.int .i64)
  | []=>rfl
  | x::xs=>by simp only[List.flatMap_cons,mT_ xs,List.map_cons];rfl
theorem iD_ {f:FuncId} {args:Array Value} {r:Value} {g:Nat} {cur:Array Value} {T:TypeId} {d:Array Int} (hc:dD_ P f)
    (h:∀ v:Vw,v.sat [(g,.cells cur T (0,0))]→Calls P f args v.w fun e w'=>e=.returned r∧∃ n os,w'=Sort.grow (Sort.putRow (Value.int .i64) (Sort.ahead v.w n) g 0 d) os) :
    Tri P f args [(g,.cells cur T (0,0))] Γ (fun _:Unit=>r) (fun _=>[(g,.cells (Sort.putCells (Value.int .i64) 0 d cur) T (0,0))]) (fun _=>[]) :=
  ⟨hc,fun v h1 _=>(h v h1).mono fun e w' ⟨he,n,os,hw⟩=>by
    have hg:=(h1.own _ List.mem_cons_self)
    have hlt:g<v.w.heap.size:=(Array.getElem?_eq_some_iff.1 hg.1).1
    have hb:∀ b,b<v.w.heap.size→w'.heap[b]? = if b=g then some (.cells (Sort.putCells (Value.int .i64) 0 d cur) T (0,0)) else v.w.heap[b]? := fun b hb=>by
      rw[hw]
      simp only[Sort.grow,Sort.putRow,Sort.mapBlock,Sort.ahead]
      rw[Array.getElem?_append_left (by simpa using hb),Array.getElem?_modify]
      by_cases e:b=g
      · subst e
        simp only[if_true,hg.1,Option.map_some,Sort.onCells]
      · rw[if_neg (fun q=>e q.symm),if_neg e]
    have hsz:v.w.heap.size≤w'.heap.size:=by rw[hw];simp[Sort.grow,Sort.putRow,Sort.mapBlock,Sort.ahead]
    refine⟨(),⟨v.im,w',v.sl⟩,he,rfl,⟨fun p hp=>?_,by simp,fun b hbb=>Nat.lt_of_lt_of_le (h1.lt b hbb) hsz⟩,trivial,⟨by rw[hw];rfl,by rw[hw];rfl,by rw[hw];rfl,hsz,fun b hbb hn=>?_,fun _ h=>h,fun _ h=>.inl h,fun b hm=>.inl (by simpa using hm),rfl,.inr (by rw[hw];exact Nat.le_add_right _ _)⟩⟩
    · simp only[List.mem_singleton]at hp
      subst hp
      exact⟨by show w'.heap[g]? = _;rw[hb g hlt,if_pos rfl],hg.2⟩
    · have hn':b≠g:=by simpa using hn
      show w'.heap[b]? = _
      rw[hb b hbb,if_neg hn']⟩
theorem kT_ {cur:Array Value} {d:List Int} (hs:d.length≤cur.size):(Sort.putCells (Value.int .i64) 0 d.toArray cur).toList.take d.length=d.flatMap U_:=by
 rw[mT_]
 apply List.ext_getElem?
 intro j
 rw[List.getElem?_take,List.getElem?_map]
 split
 ·rename_i hj
  simp only[Sort.putCells,Array.getElem?_toList,Array.getElem?_mapIdx]
  rw[Array.getElem?_eq_getElem (by omega)]
  simp only[Option.map_some,Nat.zero_le,true_and,Nat.zero_add,List.size_toArray,hj,if_true,Nat.sub_zero]
  rw[List.getElem?_eq_getElem hj]
  simp only[Option.map_some]
  rw[getElem!_pos d.toArray j (by simpa using hj)]
  rfl
 rename_i hj
 rw[List.getElem?_eq_none (by omega)];rfl
theorem kU_ {cur:Array Value} {d:Array Int}:(Sort.putCells (Value.int .i64) 0 d cur).size=cur.size:=by simp[Sort.putCells]
theorem gu_ {zs:List Int}:Lib.compact zs=((List.range zs.length).filter fun j=>decide (j=0∨zs[j]! ≠ zs[j - 1]!)).map fun j=>zs[j]! := by
 unfold Lib.compact Lib.compactUpTo Lib.keeps
 have e:∀ j,zs.toArray[j]! = zs[j]! := fun j=>by
   by_cases h:j<zs.length
   · rw[getElem!_pos zs.toArray j (by simpa using h),getElem!_pos zs j h];simp
   · rw[getElem!_neg zs.toArray j (by simpa using h),getElem!_neg zs j h]
 rw[List.map_congr_left fun j _=>e j]
 congr 2
 funext j
 rw[e,e]
theorem ie_ (zs:List Int):(Lib.compact zs).length≤zs.length:=by
  rw[gu_,List.length_map]
  have:=List.length_filter_le (fun j=>decide (j=0∨zs[j]! ≠ zs[j - 1]!)) (List.range zs.length)
  simpa using this
theorem lY_ {zs:List Int} (x:Int):x∈Lib.compact zs↔x∈zs:=by
 rw[gu_,List.mem_map]
 constructor
 ·rintro ⟨j,hj,rfl⟩
  have hl:=List.mem_range.1 (List.mem_filter.1 hj).1
  rw[getElem!_pos zs j hl]
  exact List.getElem_mem hl
 intro hx
 obtain⟨j,hj,e⟩:=List.mem_iff_getElem.1 hx
 clear hx
 induction j with
 | zero=>exact⟨0,List.mem_filter.2 ⟨List.mem_range.2 hj,by simp⟩,by rw[getElem!_pos zs 0 hj];exact e⟩
 | succ j ih =>
   by_cases h:zs[j+1]! = zs[j]!
   · have hj':j<zs.length:=by omega
     refine ih hj' ?_
     rw[getElem!_pos zs (j+1) hj,getElem!_pos zs j hj']at h
     rw[← h];exact e
   · exact⟨j+1,List.mem_filter.2 ⟨List.mem_range.2 hj,decide_eq_true (.inr h)⟩,by rw[getElem!_pos zs (j+1) hj];exact e⟩
theorem nf_ {zs:List Int} (hs:zs.Pairwise fun x y=>x≤y):(Lib.compact zs).Pairwise fun x y=>x<y:=by
 rw[gu_,List.pairwise_map]
 have hr:(List.range zs.length).Pairwise (·<·):=List.pairwise_lt_range
 have hf:=hr.filter (fun j=>decide (j=0∨zs[j]! ≠ zs[j - 1]!))
 refine List.Pairwise.imp_of_mem ?_ hf
 intro j k hj hk hlt
 have hkl:=List.mem_range.1 (List.mem_filter.1 hk).1
 have hkk:=(List.mem_filter.1 hk).2
 simp only[decide_eq_true_eq]at hkk
 have hne:zs[k]! ≠ zs[k - 1]! := by
   rcases hkk with h|h
   · omega
   · exact h
 have hle:∀ a b,a≤b→b<zs.length→zs[a]! ≤ zs[b]! := by
   intro a b hab hb
   rcases Nat.lt_or_eq_of_le hab with h|h
   · rw[getElem!_pos zs a (by omega),getElem!_pos zs b hb]
     exact List.pairwise_iff_getElem.1 hs a b (by omega) hb h
   · subst h;exact Int.le_refl _
 have h1:=hle j (k - 1) (by omega) (by omega)
 have h2:=hle (k - 1) k (by omega) hkl
 have h3:zs[k - 1]! < zs[k]! := by
   apply Decidable.byContradiction
   intro h
   exact hne (Int.le_antisymm (Int.not_lt.1 h) h2)
 exact Int.lt_of_le_of_lt h1 h3
end
theorem oT_ (l:List Int):(l.mergeSort fun x y=>decide (x≤y)).Pairwise fun x y=>x≤y:=by
  have h:=List.pairwise_mergeSort (le:=fun x y:Int=>decide (x≤y)) (fun a b c h1 h2=>by simp only[decide_eq_true_eq]at *;exact Int.le_trans h1 h2) (fun a b=>by
    simp only[Bool.or_eq_true,decide_eq_true_eq];exact Int.le_total a b) l
  exact h.imp (fun h=>of_decide_eq_true h)
theorem nt_ {cur:Array Value} {n:Nat} {xs:List Int} (h:cur.toList.take (n*1)=xs.flatMap U_):∀ (j:Nat) (x:Int),xs[j]? = some x→cur[j]? = some (.int .i64 x):=by
 intro j x hj
 have h1:=u_ R_ hj 0 (.int .i64 x) rfl
 rw[← h,Nat.mul_one,Nat.add_zero]at h1
 rw[List.getElem?_take]at h1
 split at h1
 ·simpa using h1
 cases h1
theorem kd_ {g n cap:Nat} {cur:Array Value} {xs:List Int} {v:Vw} (hs:v.sat [(g,.cells cur 3 (0,0))]) (ht:cur.toList.take (xs.length*1)=xs.flatMap U_):Sort.Holds (Value.int .i64) v.w g 0 xs.toArray:=by
 intro j hj
 have hb:=(hs.own _ List.mem_cons_self).1
 simp only[List.size_toArray]at hj
 have hc:cur[j]? = some (Value.int .i64 xs[j]):=nt_ ht j xs[j] (List.getElem?_eq_getElem hj)
 refine⟨?_,?_⟩
 ·simp only[World.cell?,Nat.zero_add,hb,Option.isSome_none,Bool.false_eq_true,if_false]
  rw[hc,getElem!_pos xs.toArray j (by simpa using hj)]
  rfl
 simp[World.frozen?,hb]
theorem sa_ {sv:Value} {xs:List Int} {Hr:Hp} (h:aD_ 3 1 sv xs.length (xs.flatMap U_) Hr) (hl:xs.length≤1000000000000) :
    Tri Tryz.prog 51 #[sv] Hr [] (fun _:{y:Hp // aD_ 3 1 sv xs.length ((xs.mergeSort fun x y=>decide (x≤y)).flatMap U_) y}=>.tuple #[]) (fun y=>y.1) (fun _=>[]):=by
  rcases h.2 with⟨rfl,h2,rfl⟩|⟨g,cap,cur,rfl,rfl,h3,h4,h5,h6⟩
  · obtain rfl:xs=[]:=List.eq_nil_of_length_eq_zero h2
    have T:=dg_ (P:=Tryz.prog) (H:=[]) (Γ:=[]) (callable Tryz.func51 rfl rfl) (fun v _ _=>(Tryz.slices_Sort_int_none none 0 v.w).mono (by rintro e w' ⟨rfl,rfl⟩;exact⟨rfl,⟨rfl,rfl,rfl,Nat.le_refl _,fun _ _=>rfl⟩,.inr (Nat.le_refl _)⟩))
    exact⟨T.callable,fun v a b=>(T.run v a b).mono (by rintro e w' ⟨x,v',e1,e2,e3,e4,e5⟩;exact⟨⟨[],by simpa using aD_.nil _ _⟩,v',e1,e2,e3,e4,e5⟩)⟩
  · have T:=iD_ (P:=Tryz.prog) (Γ:=[]) (d:=(xs.mergeSort fun x y=>decide (x≤y)).toArray) (callable Tryz.func51 rfl rfl) (fun v hs=>Tryz.slices_Sort_int g 0 cap xs v.w (kd_ (n:=0) (cap:=0) hs h6) (Array.getElem?_eq_some_iff.1 (hs.own _ List.mem_cons_self).1).1 (by omega))
    have hsz:(xs.mergeSort fun x y=>decide (x≤y)).length=xs.length:=List.length_mergeSort _
    refine⟨T.callable,fun v a b=>(T.run v a b).mono ?_⟩
    rintro e w' ⟨x,v',e1,e2,e3,e4,e5⟩
    refine⟨⟨_,by rw[cu_ U_ 1 R_,hsz],.inr ⟨g,cap,_,rfl,rfl,h3,h4,by rw[kU_];exact h5,?_⟩⟩,v',e1,e2,e3,e4,e5⟩
    have:=kT_ (cur:=cur) (d:=xs.mergeSort fun x y=>decide (x≤y)) (by rw[hsz,h5];omega)
    rw[hsz]at this
    rw[Nat.mul_one];exact this
theorem nY_ {sv:Value} {xs:List Int} {Hr:Hp} (h:aD_ 3 1 sv xs.length (xs.flatMap U_) Hr) (hl:xs.length≤1000000000000) :
    Tri Tryz.prog 52 #[sv] Hr [] (fun y:{y:Value×Hp // aD_ 3 1 y.1 (Lib.compact xs).length ((Lib.compact xs).flatMap U_) y.2}=>y.1.1) (fun y=>y.1.2) (fun _=>[]):=by
  rcases h.2 with⟨rfl,h2,rfl⟩|⟨g,cap,cur,rfl,rfl,h3,h4,h5,h6⟩
  · obtain rfl:xs=[]:=List.eq_nil_of_length_eq_zero h2
    have T:=dg_ (P:=Tryz.prog) (H:=[]) (Γ:=[]) (callable Tryz.func52 rfl rfl) (fun v _ _=>(Tryz.slices_Compact_int_empty none 0 v.w).mono (by rintro e w' ⟨rfl,rfl⟩;exact⟨rfl,⟨rfl,rfl,rfl,Nat.le_refl _,fun _ _=>rfl⟩,.inr (Nat.le_refl _)⟩))
    exact⟨T.callable,fun v a b=>(T.run v a b).mono (by rintro e w' ⟨x,v',e1,e2,e3,e4,e5⟩;exact⟨⟨(.slice none 0 0,[]),by simpa [Lib.compact,Lib.compactUpTo] using aD_.nil _ _⟩,v',e1,e2,e3,e4,e5⟩)⟩
  · have hcl:=ie_ xs
    have T:=iD_ (P:=Tryz.prog) (Γ:=[]) (r:=.slice (some ⟨g,0,none⟩) (Lib.compact xs).length cap) (d:=(Lib.compact xs++List.replicate (xs.length - (Lib.compact xs).length) 0).toArray) (callable Tryz.func52 rfl rfl) (fun v hs=>(Tryz.slices_Compact_int g 0 cap xs v.w (kd_ (n:=0) (cap:=0) hs h6) (by omega) h3).mono (by
      rintro e w' ⟨rfl,q,rfl⟩
      exact⟨rfl,q,#[],by rw[Sort.grow_empty]⟩))
    refine⟨T.callable,fun v a b=>(T.run v a b).mono ?_⟩
    rintro e w' ⟨x,v',e1,e2,e3,e4,e5⟩
    refine⟨⟨(.slice (some ⟨g,0,none⟩) (Lib.compact xs).length cap,_),by rw[cu_ U_ 1 R_],.inr ⟨g,cap,_,rfl,rfl,by omega,h4,by rw[kU_];exact h5,?_⟩⟩,v',e1,e2,e3,e4,e5⟩
    have hd:(Lib.compact xs++List.replicate (xs.length - (Lib.compact xs).length) (0:Int)).length=xs.length:=by simp;omega
    have:=kT_ (cur:=cur) (d:=Lib.compact xs++List.replicate (xs.length - (Lib.compact xs).length) 0) (by rw[hd,h5];omega)
    rw[hd]at this
    have h7:=congrArg (List.take (Lib.compact xs).length) this
    rw[List.take_take,Nat.min_eq_left hcl,List.flatMap_append,List.take_append_of_le_length (by rw[cu_ U_ 1 R_];omega),List.take_of_length_le (l:=(Lib.compact xs).flatMap U_) (by rw[cu_ U_ 1 R_];omega)]at h7
    rw[Nat.mul_one];exact h7
end Go.Proofs.YtkeanlfhghlgiaaGreatDoor
namespace Go.Proofs.YtkeanlfhghlgiaaGreatDoor
open Go Go.Sx Go.Proofs
attribute [local irreducible] Code.wp wpList wpAnyH
open Go.Vs
theorem derT_c (c:Cl) (f:Fc) (hf:c.facts.length≤1000000000000) (h:iR_ c.facts f=true):Tri Tryz.prog 18 #[Cl.val c,Fc.val f] [] [ao_ c.fad (List.flatMap Fc.cells c.facts)] (fun _:Unit=>.bool true) (fun _=>[]) (fun _=>[]):=by
  have q:=tk_ c f hf
  rw[h]at q
  exact q
end Go.Proofs.YtkeanlfhghlgiaaGreatDoor
namespace Go.Proofs.YtkeanlfhghlgiaaGreatDoor
open Go Go.Sx Go.Proofs
attribute [local irreducible] Code.wp wpList wpAnyH
open Go.Vs
def jK_ (Y:List Stp):List Int:=Y.flatMap fun s=>if 0≤s.piece then [s.piece] else []
def cm_ (Y:List Stp):List Int:=Lib.compact ((jK_ Y).mergeSort fun x y=>decide (x≤y))
theorem la_ {Y:List Stp} {i:Nat} {x:Stp} (h:Y[i]? = some x):jK_ (List.take (i+1) Y)=jK_ (List.take i Y)++(if 0≤x.piece then [x.piece] else []):=by
  unfold jK_
  rw[List.take_add_one,h,Option.toList_some,List.flatMap_append];simp
theorem fQ_ (Y:List Stp):(jK_ Y).length≤Y.length:=by
  unfold jK_
  induction Y with
  | nil=>simp
  | cons s Y ih =>
    rw[List.flatMap_cons,List.length_append,List.length_cons]
    have h2:(if 0≤s.piece then [s.piece] else ([]:List Int)).length≤1:=by split<;>simp
    omega
theorem pg_ (Y:List Stp):(cm_ Y).length≤Y.length:=by
  have h:=ie_ ((jK_ Y).mergeSort fun x y=>decide (x≤y))
  rw[List.length_mergeSort]at h
  exact Nat.le_trans h (fQ_ Y)
theorem mA_ (Y:List Stp):(cm_ Y).Pairwise fun x y=>x<y:=nf_ (oT_ _)
theorem lb_ (Y:List Stp) (x:Int):x∈cm_ Y↔∃ s∈Y,s.piece=x∧0≤x:=by
 unfold cm_ jK_
 rw[lY_,List.mem_mergeSort,List.mem_flatMap]
 constructor
 ·rintro ⟨s,hs,h⟩
  split at h
  ·rw[List.mem_singleton]at h;subst h;exact⟨s,hs,rfl,by assumption⟩
  simp at h
 rintro ⟨s,hs,rfl,h⟩
 exact⟨s,hs,by rw[if_pos h];simp⟩
theorem qG_ (l:List Stp) (ad:Option Addr) (cap:Nat) (hl:l.length≤1000000):Tri Tryz.prog 19 #[.agg #[.slice ad (List.length l) cap]] [] [ao_ ad (List.flatMap Stp.cells l)] (fun y:{y:Option Addr×Nat // (cm_ l).length≤y.2∧y.2≤maxLen∧(y.1=none→y.2=0)}=>.slice y.1.1 (cm_ l).length y.1.2) (fun _=>[]) (fun y=>[ao_ y.1.1 (List.flatMap U_ (cm_ l))]):=by
 refine w_ Tryz.func19 rfl rfl Tryz.ntmps19 rfl fun v0=>?_
 refine Zz 2 ?_
 refine ay_ rfl rfl fun b1=>Zz 13 ?_
 refine W_ (ι:={y:Nat×Value×Hp // y.1≤List.length l∧zR 3 1 U_ y.2.1 (jK_ (List.take y.1 l)) y.2.2}) (fun y=>[(2,y.1.2.1),(6,.slice ad (List.length l) cap),(7,.int .i64 (List.length l:Int)),(8,.int .i64 (y.1.1:Int))]) (fun y=>(y.1.2.2)) (fun y=>[ao_ ad (List.flatMap Stp.cells l)]) (fun y=>List.length l - y.1.1) ⟨((0:Nat),(.slice none 0 0),[]),by simp,(aD_.nil _ _)⟩ zl m_ zh ?_
 rintro ⟨⟨i,sv_Rint,H_Rint⟩,hi_i,hr_Rint⟩
 dsimp only at hi_i hr_Rint ⊢
 refine Zi 2 (fun hr1=>?_) fun hr1=>?_
 ·rw[show List.take i l=l from List.take_of_length_le (by omega)]at hr_Rint
  refine Zz 9 ?_
  refine n_ (sa_ hr_Rint (by (have:=fQ_ l;(try simp only[List.length_append,List.length_cons,List.length_nil]);omega))) rfl aW_ zt rfl fun⟨Hso1,hs1⟩=>?_
  dsimp only
  have hso1:aD_ 3 1 sv_Rint (List.length (((jK_ l)).mergeSort fun x y=>decide (x≤y))) (List.flatMap U_ (((jK_ l)).mergeSort fun x y=>decide (x≤y))) Hso1:=by rw[List.length_mergeSort];exact hs1
  refine x_ em_ (Zz 5 ?_)
  refine n_ (nY_ hso1 (by rw[List.length_mergeSort];(have:=fQ_ l;(try simp only[List.length_append,List.length_cons,List.length_nil]);omega))) rfl aW_ zt rfl fun⟨⟨svk,Hk⟩,hk⟩=>?_
  dsimp only
  refine x_ em_ (Zz 4 ?_)
  refine bS_ hk aW_ fun ad2 cp2 had2 hcad2 hmad2 hzad2=>?_
  exact al_ Tryz.results19 ⟨(ad2,cp2),hcad2,hmad2,hzad2⟩ (dh_ rfl had2) m_ zf
 obtain⟨hlx1,x1,hx1,hmx1⟩:=zge (show i<List.length l by omega)
 have hbi:=fQ_ (List.take i l)
 rw[List.length_take]at hbi
 refine Zz 12 ?_
 refine L_ cA_ rfl fun b2=>z_ 0 av_ rfl rfl rfl rfl rfl rfl (Zi 6 (fun hr2=>?_) fun hr2=>?_)
 ·refine Zz 10 ?_
  exact B_ ⟨(i+1,sv_Rint,H_Rint),hlx1,(by rw[la_ hx1,if_neg (by assumption),List.append_nil];exact hr_Rint)⟩ (by dsimp only;omega) zl G_ zh
 refine Zz 7 ?_
 refine P_ g_ s_ D_ rfl rfl rfl rfl rfl rfl fun b3=>?_
 refine aF_ (List.flatMap U_ [x1.piece]) d_ rfl ?_
 refine cr_ (news:=List.flatMap U_ [x1.piece]) cn_ hr_Rint rfl rfl (fun q=>by cases q) (by simp) G_ (by rw[cu_ U_ 1 R_];rfl) zf (fun u hu=>aw_ bT_ hu) (by simp only[maxLen];(have:=fQ_ l;(try simp only[List.length_append,List.length_cons,List.length_nil]);omega)) (by (have:=fQ_ l;(try simp only[List.length_append,List.length_cons,List.length_nil]);omega)) rfl fun sv1 Hr1 hr1=>?_
 refine x_ List.perm_append_comm ?_
 have hq1:=zsa hr1
 refine Zz 8 ?_
 exact B_ ⟨(i+1,sv1,Hr1),hlx1,(by rw[la_ hx1,if_pos (by assumption)];exact hq1)⟩ (by dsimp only;omega) zl G_ (fun _ _ h=>h.2)
theorem po_ {L:List Str} {i:Nat} {x a:Str} (hn:∀ z∈List.take i L,z≠a) (hx:L[i]? = some x) (h:x≠a):∀ z∈List.take (i+1) L,z≠a:=fun z hz=>by
 rw[List.take_add_one,hx,Option.toList_some]at hz
 rcases List.mem_append.1 hz with hz|hz
 ·exact hn z hz
 rw[List.mem_singleton]at hz;subst hz;exact h
theorem oq_ {p:List Pc} {a:Str} (hn:∀ z∈cv_ p,z≠a):decide (a∈atS p)=((a==[42])||(a==[33])):=by
  rw[Bool.eq_iff_iff,decide_eq_true_eq,eC_]
  simp only[Bool.or_eq_true,beq_iff_eq]
  exact⟨fun h=>h.resolve_left fun q=>hn a q rfl,.inr⟩
theorem rc_ {p:List Pc} {a:Str} (h:a∈cv_ p):decide (a∈atS p)=true:=by rw[decide_eq_true_eq,eC_];exact .inl h
theorem nL_ (q:List Pc) (qad:Option Addr) (qcap:Nat) (a:Str) (hq:q.length≤100000000):Tri Tryz.prog 20 #[.slice qad (List.length q) qcap,str a] [] [ao_ qad (List.flatMap Pc.cells q)] (fun _:Unit=>.bool (decide (a∈atS q))) (fun _=>[]) (fun _=>[]):=by
 refine w_ Tryz.func20 rfl rfl Tryz.ntmps20 rfl fun v0=>?_
 have hal:=dZ_ q
 refine Zz 8 ?_
 refine n_ (oJ_ q qad qcap (by omega)) rfl m_ zf rfl fun⟨⟨aad,acap⟩,hac,ham⟩=>?_
 dsimp only
 refine Zz 10 ?_
 refine W_ (ι:={y:Nat // y≤List.length (cv_ q)∧(∀ z∈List.take y (cv_ q),z≠a)}) (fun y=>[(1,str a),(4,.bool false),(5,.slice aad (List.length (cv_ q)) acap),(6,.int .i64 (y.1:Int))]) (fun y=>([])) (fun y=>[ao_ aad (List.flatMap aT_ (cv_ q)),ao_ qad (List.flatMap Pc.cells q)]) (fun y=>List.length (cv_ q) - y.1) ⟨(0:Nat),by simp,by simp⟩ zl m_ zh ?_
 rintro ⟨i,hi_i,hn⟩
 dsimp only at hi_i hn ⊢
 refine Zi 6 (fun hr1=>?_) fun hr1=>?_
 ·have hnn:∀ z∈cv_ q,z≠a:=by have h:=hn;rwa [List.take_of_length_le (by omega)]at h
  refine Zi 8 (fun hr2=>?_) fun hr2=>?_
  ·refine Zz 4 ?_
   refine aR_ (fi_ rfl rfl) rfl fun r3 hr3=>Zz 5 ?_
   exact al_ Tryz.results20 () (t_ rfl (by rw[oq_ hnn];simp[*])) m_ zt
  refine Zz 8 ?_
  exact al_ Tryz.results20 () (t_ rfl (by rw[oq_ hnn];simp[*])) m_ zt
 obtain⟨hlx1,x1,hx1,hmx1⟩:=zge (show i<List.length (cv_ q) by omega)
 refine Zi 14 (fun hr4=>?_) fun hr4=>?_
 ·refine Zz 11 ?_
  exact B_ ⟨i+1,hlx1,po_ hn hx1 hr4⟩ (by dsimp only;omega) zl m_ zh
 refine Zz 9 ?_
 exact al_ Tryz.results20 () (t_ rfl (by have q:=hr4;subst q;exact (rc_ hmx1).symm)) m_ zt
end Go.Proofs.YtkeanlfhghlgiaaGreatDoor
namespace Go.Proofs.YtkeanlfhghlgiaaGreatDoor
open Go Go.Sx Go.Proofs
attribute [local irreducible] Code.wp wpList wpAnyH
open Go.Vs
def el_ (p:List Pc) (l:List Int):List Pc:=l.flatMap fun z=>(p[z.toNat]?).toList
theorem jI_ {p:List Pc} {l:List Int} {i:Nat} {x:Int} {z:Pc} (hx:l[i]? = some x) (hz:p[x.toNat]? = some z):el_ p (List.take (i+1) l)=el_ p (List.take i l)++[z]:=by
  unfold el_
  rw[List.take_add_one,hx,Option.toList_some,List.flatMap_append]
  simp[hz]
theorem kY_ {p:List Pc} {l:List Int} {x:Pc} (h:x∈el_ p l):x∈p:=by
  obtain⟨z,_,h⟩:=List.mem_flatMap.1 h
  cases hp:p[z.toNat]? with
  | none=>rw[hp]at h;simp at h
  | some y=>rw[hp]at h;simp at h;subst h;exact List.mem_of_getElem? hp
theorem kZ_ (p:List Pc) (l:List Int):(el_ p l).length≤l.length:=by
  unfold el_
  induction l with
  | nil=>simp
  | cons z l ih =>
    rw[List.flatMap_cons,List.length_append,List.length_cons]
    have h2:(p[z.toNat]?).toList.length≤1:=by cases p[z.toNat]? <;> simp
    omega
theorem so_ {p:List Pc} {l:List Int} {k:Nat} {x:Pc} (hk:(k:Int)∈l) (hx:p[k]? = some x):x∈el_ p l:=List.mem_flatMap.2 ⟨k,hk,by simp[hx]⟩
theorem rx_ {p:List Pc} {f:Fc} {bu:Int} {Y:List Stp} {e:Int} (h:eR_ p f bu Y e) (he:e=0):PrfL p (atS p) f Y∧cj_ p=0∧wfB f=true:=by
 subst he
 unfold eR_ at h
 by_cases hw:wfB f=false
 ·rw[if_pos hw]at h;exact absurd h.1 (by decide)
 rw[if_neg hw]at h
 obtain⟨c,e0,hA,h⟩:=h
 by_cases h0:e0=0
 ·subst h0
  rw[if_pos rfl]at h
  by_cases hd:iR_ c.facts f=false
  ·rw[if_pos hd]at h;exact absurd h.1 (by decide)
  rw[if_neg hd]at h
  obtain⟨_,L,hP,hl,hT⟩:=h
  exact⟨ju_ hP hT,hA.good.1,by simpa using hw⟩
 rw[if_neg h0]at h;exact absurd h.1.symm h0
theorem pcs_ok {p:List Pc} {f:Fc} {Y:List Stp} (hP:PrfL p (atS p) f Y):∀ z∈cm_ Y,0≤z∧z<(p.length:Int):=fun z hz=>by
 obtain⟨s,hs,rfl,h0⟩:=(lb_ Y z).1 hz
 obtain⟨n,hn⟩:=List.getElem?_of_mem hs
 obtain⟨k,x,_,_,h2,h3,_⟩:=oB_ (hP.cor n s hn)
 by_cases hk:k=0
 ·have:=(h2 hk).1;omega
 obtain⟨m,e,hm,_⟩:=h3 hk
 have:=(List.getElem?_eq_some_iff.1 hm).1
 omega
theorem qH_ {p q:List Pc} {f:Fc} {Y:List Stp} (hP:PrfL p (atS p) f Y) (hq:∀ (k:Nat) x,(k:Int)∈cm_ Y→p[k]? = some x→x∈q) (hm:∀ s∈Y,s.fact.a∈atS q):∀ (n:Nat) s,Y[n]? = some s→s.rule≤14→Der q (atS q) s.fact:=by
 intro n
 induction n using Nat.strongRecOn with
 | ind n ih =>
   intro s hs hr
   have hc:=hP.cor n s hs
   have hsY:=List.mem_of_getElem? hs
   have hnl:=(List.getElem?_eq_some_iff.1 hs).1
   have h1:fu_ q (atS q) (·∈fcs (Y.take n)) s.fact:=by
     by_cases hpk:∃ (k:Nat) (x:Pc),s.piece=(k:Int)∧p[k]? = some x
     · obtain⟨k,x,e,hx⟩:=hpk
       obtain⟨j,hj⟩:=List.getElem?_of_mem (hq k x ((lb_ Y k).2 ⟨s,hsY,e,by omega⟩) hx)
       exact (kl_ (p':=q) (A':=atS q) (g:=id) (gp:=fun _=>j) (fun m y _ h=>⟨m,rfl,h⟩) (fun _=>hm s hsY) (fun k' x' e' hx'=>by
         have:k'=k:=by omega
         subst this
         rw[hx]at hx';cases hx';exact hj) hc).one hr
     · exact (kl_ (p':=q) (A':=atS q) (g:=id) (gp:=id) (fun m y _ h=>⟨m,rfl,h⟩) (fun _=>hm s hsY) (fun k' x' e' hx'=>absurd ⟨k',x',e',hx'⟩ hpk) hc).one hr
   refine Der.step (h1.mono (fun x hx=>⟨x,hx,x.frm,rfl⟩) (fun _ h=>h) (fun z hz=>?_) (fun _ _ h=>h))
   obtain⟨m,t,ht,rfl⟩:=fg_ hz
   have hml:=(List.getElem?_eq_some_iff.1 ht).1
   rw[List.length_take]at hml
   rw[List.getElem?_take_of_lt (by omega)]at ht
   exact ih m (by omega) t ht (jE_ hP ht (by omega))
theorem rA_ {p:List Pc} {A:List Str} {l:List Stp} {r:Int} {f:Fc} {i:Int} {fr:List Int} (h:Cor p A l r f i fr) (hr:¬ r≤14):(∃ m,At l m (y_ f.a [33]))∨∃ m x,At l m x∧f=M_ f.a f.r f.lo f.hi∧x=M_ f.a f.r x.lo x.hi∧f.lo≤x.lo∧x.hi≤f.hi:=by
  cases h with
  | r15 h=>exact .inl ⟨_,h⟩
  | r16 h h1 h2=>exact .inr ⟨_,_,h,rfl,rfl,h1,h2⟩
  | _=>exact absurd (by decide) hr
theorem lX_ {F:List Fc} {f x:Fc} (hx:x∈F) (h:x=f∨x=y_ f.a [33]∨(f=M_ f.a f.r f.lo f.hi∧x=M_ f.a f.r x.lo x.hi∧f.lo≤x.lo∧x.hi≤f.hi)):iR_ F f=true:=by
 unfold iR_
 refine List.any_eq_true.2 ⟨x,hx,?_⟩
 simp only[Bool.or_eq_true,Bool.and_eq_true,decide_eq_true_eq]
 rcases h with h|h|⟨h1,h2,h3,h4⟩
 ·exact .inl (.inl h)
 ·exact .inl (.inr h)
 exact .inr ⟨⟨h1,h2⟩,h3,h4⟩
theorem tc_ {q:List Pc} {c:Cl} {g:Int} (hA:eB_ q 1073741824 c g) (hc:cj_ q=0) (h14:q.length≤14):g=0:=by
 unfold eB_ at hA
 rw[if_neg (by simp[hc]),if_neg (by decide)]at hA
 rcases hA with h|⟨_,_,M,hM,hD,hl⟩
 ·exact h.1
 exfalso
 have hv:=fD_ hc
 have h1:=eo_ hM (m:=gV_ q (atS q)) fun y hy=>nc_ hv (hD y hy)
 rw[lu_]at h1
 have h2:=ji_ q
 have a1:(atS q).length≤44:=by omega
 have b1:(atS q).length*(atS q).length≤44*44:=Nat.mul_le_mul a1 a1
 have b2:(atS q).length*((atS q).length*q.length)≤44*(44*14):=Nat.mul_le_mul a1 (Nat.mul_le_mul a1 h14)
 have b3:(atS q).length*(q.length*q.length)≤44*(14*14):=Nat.mul_le_mul a1 (Nat.mul_le_mul h14 h14)
 have e:(min (1073741824:Int) 65536).toNat=65536:=by decide
 omega
theorem nF_ {p:List Pc} {f:Fc} {Y:List Stp} {c:Cl} {g:Int} (hP:PrfL p (atS p) f Y) (hck:cj_ p=0) (hp:p.length≤14) (hl:(el_ p (cm_ Y)).length≤14) (hm:∀ s∈Y,s.fact.a∈atS (el_ p (cm_ Y))) (hA:eB_ (el_ p (cm_ Y)) 1073741824 c g):g=0∧iR_ c.facts f=true:=by
 have hv:=fD_ hck
 have hcq:cj_ (el_ p (cm_ Y))=0:=by
   unfold cj_
   rw[if_neg (by omega),if_pos (List.all_eq_true.2 fun x hx=>hv x (kY_ hx))]
 have hg:=tc_ hA hcq hl
 subst hg
 refine⟨rfl,?_⟩
 obtain⟨_,_,_,_,_,h⟩:=hA.good
 have hd:=qH_ hP (fun k x hk hx=>so_ hk hx) hm
 obtain⟨s,hs,hsf⟩:=gI_ hP
 by_cases hr:s.rule≤14
 ·exact lX_ ((h.2.1 _).2 (hd _ s hs hr)) (.inl hsf)
 have hin:∀ m x,At (Y.take (Y.length - 1)) m x→x∈c.facts:=fun m x hx=>by
   obtain⟨t,ht,rfl⟩:=hx
   have hml:=(List.getElem?_eq_some_iff.1 ht).1
   rw[List.length_take]at hml
   rw[List.getElem?_take_of_lt (by omega)]at ht
   exact (h.2.1 _).2 (hd m t ht (jE_ hP ht (by omega)))
 rcases rA_ (hP.cor _ s hs) hr with⟨m,hx⟩|⟨m,x,hx,h1,h2,h3,h4⟩
 ·rw[hsf]at hx;exact lX_ (hin m _ hx) (.inr (.inl rfl))
 rw[hsf]at h1 h2 h3 h4;exact lX_ (hin m _ hx) (.inr (.inr ⟨h1,h2,h3,h4⟩))
theorem sq_ {Y:List Stp} {n:Nat} (h:∀ z∈cm_ Y,0≤z∧z<(n:Int)):(cm_ Y).length≤n:=by
  have hn:(cm_ Y).Nodup:=(mA_ Y).imp fun h e=>by omega
  have:=eo_ hn (m:=(List.range n).map Int.ofNat) fun z hz=>List.mem_map.2 ⟨z.toNat,List.mem_range.2 (by have:=h z hz;omega),by have:=h z hz;simp;omega⟩
  simpa using this
end Go.Proofs.YtkeanlfhghlgiaaGreatDoor
namespace Go.Proofs.YtkeanlfhghlgiaaGreatDoor
open Go Go.Sx Go.Proofs
attribute [local irreducible] Code.wp wpList wpAnyH
open Go.Vs
theorem pw_lt {l:List Int} {i:Nat} {w x:Int} (h:l.Pairwise fun x y=>x<y) (h0:0<i) (hw:l[(Int.toNat ((i:Int) - 1))]? = some w) (hx:l[i]? = some x):w<x:=by
  obtain⟨h1,e1⟩:=List.getElem?_eq_some_iff.1 hw
  obtain⟨h2,e2⟩:=List.getElem?_eq_some_iff.1 hx
  have:=List.pairwise_iff_getElem.1 h _ _ h1 h2 (by omega)
  rwa [e1,e2]at this
set_option maxHeartbeats 1000000 in
theorem pf_ (p:List Pc) (pad:Option Addr) (pcap:Nat) (f:Fc) (hpl:p.length≤1099511627744) (hpbig:∀ x∈p,x.big) (hfa:f.a.length≤844424930107392) (hfb:f.b.length≤844424930107392) (hfr:f.r.length≤844424930107392):Tri Tryz.prog 6 #[.slice pad (List.length p) pcap,Fc.val f] [] [ao_ pad (List.flatMap Pc.cells p),hM_] (fun _:Unit=>.bool true) (fun _=>[]) (fun _=>[]):=by
 refine w_ Tryz.func6 rfl rfl Tryz.ntmps6 rfl fun v0=>?_
 refine Zz 2 ?_
 refine ay_ rfl rfl fun b1=>Zz 6 ?_
 refine n_ (qj_) rfl m_ zf rfl fun _=>i_ (bJ_ rfl) rfl (Zz 9 ?_)
 refine n_ (sK_ p pad pcap 12 hpl hpbig) rfl m_ zf rfl fun⟨fw,hfw⟩=>?_
 dsimp only
 refine i_ (bJ_ rfl) rfl (Zz 1 ?_)
 cases fw
 ·refine Zz 22 ?_
  exact al_ ti_ () rfl m_ zt
 obtain⟨h14q,hsm⟩:=hfw rfl
 have h14:p.length≤14:=by omega
 refine Zz 5 ?_
 refine i_ (cp_ X_ rfl) rfl (Zz 5 ?_)
 refine i_ (cp_ X_ rfl) rfl (Zz 7 ?_)
 refine i_ (cp_ X_ rfl) rfl (Zi 3 (fun hr1=>?_) fun hr1=>?_)
 ·refine Zz 10 ?_
  refine n_ (kg_ p pad pcap f 1073741824 hsm h14) rfl m_ zf rfl fun⟨⟨Y,yad,ycap,e⟩,hF,hYl,hYc,hYm,hYz⟩=>?_
  dsimp only
  dsimp only at hF hYl hYc hYm hYz
  refine Zz 3 ?_
  refine L_ dv_ rfl fun b2=>z_ 0 bw_ rfl rfl rfl rfl rfl rfl (Zi 7 (fun hr2=>?_) fun hr2=>?_)
  ·have he0:=hr2
   obtain⟨hPf,hckp,hwff⟩:=rx_ hF he0
   have hpk:=pcs_ok hPf
   have hQl:(el_ p (cm_ Y)).length≤14:=by have h1:=kZ_ p (cm_ Y);have h2:=sq_ hpk;omega
   refine Zz 8 ?_
   refine n_ (qG_ Y yad ycap (by omega)) rfl m_ zf rfl fun⟨⟨lad,lcp⟩,hlc,hlm,hlz⟩=>?_
   dsimp only
   dsimp only at hlc hlm hlz
   have hlen:=pg_ Y
   refine Zz 5 ?_
   refine fc_ T_ Q_ rfl fun b3=>x_ d_ (Zz 4 ?_)
   refine x_ (p_ (e_ d_) (an_ Z_)) (Zz 6 ?_)
   refine W_ (ι:={y:Nat×Value×Hp // y.1≤List.length (cm_ Y)∧zR 52 10 Pc.cells y.2.1 (el_ p (List.take y.1 (cm_ Y))) y.2.2}) (fun y=>[(0,.slice pad (List.length p) pcap),(3,zp_ b1 0),(4,.bool false),(5,zp_ b2 0),(7,.slice lad (List.length (cm_ Y)) lcp),(8,y.1.2.1),(9,.int .i64 (y.1.1:Int))]) (fun y=>((b2,.cells #[.slice yad (List.length Y) ycap] 29 (0,0))::((b1,.cells #[.int .i64 f.kind,str f.a,str f.b,str f.r,.int .i64 f.lo,.int .i64 f.hi] 24 (0,0))::y.1.2.2))) (fun y=>[ao_ lad (List.flatMap U_ (cm_ Y)),ao_ yad (List.flatMap Stp.cells Y),aP_ Y,ao_ pad (List.flatMap Pc.cells p),hM_]) (fun y=>List.length (cm_ Y) - y.1.1) ⟨((0:Nat),(.slice (some ⟨b3,0,none⟩) 0 0),[(b3,.cells #[] 52 (0,0))]),by simp,(jy_ b3 52 10)⟩ zl zp zh ?_
   rintro ⟨⟨i,sv_Rpc,H_Rpc⟩,hi_i,hr_Rpc⟩
   dsimp only at hi_i hr_Rpc ⊢
   refine Zi 6 (fun hr3=>?_) fun hr3=>?_
   ·rw[show List.take i (cm_ Y)=cm_ Y from List.take_of_length_le (by omega)]at hr_Rpc
    refine Zz 7 ?_
    refine bS_ hr_Rpc (c_ G_) fun qad qcp hqad hcqad hmqad hzqad=>?_
    subst hqad
    refine Zz 5 ?_
    refine W_ (ι:={y:Nat // y≤List.length Y∧(∀ z∈List.take y Y,z.fact.a∈atS (el_ p (cm_ Y)))}) (fun y=>[(0,.slice pad (List.length p) pcap),(3,zp_ b1 0),(4,.bool false),(5,zp_ b2 0),(7,.slice lad (List.length (cm_ Y)) lcp),(8,.slice qad (List.length (el_ p (cm_ Y))) qcp),(9,.int .i64 (i:Int)),(10,.int .i64 (y.1:Int))]) (fun y=>((b2,.cells #[.slice yad (List.length Y) ycap] 29 (0,0))::((b1,.cells #[.int .i64 f.kind,str f.a,str f.b,str f.r,.int .i64 f.lo,.int .i64 f.hi] 24 (0,0))::[]))) (fun y=>[ao_ qad (List.flatMap Pc.cells (el_ p (cm_ Y))),ao_ lad (List.flatMap U_ (cm_ Y)),ao_ yad (List.flatMap Stp.cells Y),aP_ Y,ao_ pad (List.flatMap Pc.cells p),hM_]) (fun y=>List.length Y - y.1) ⟨(0:Nat),by simp,by simp⟩ zl zp zh ?_
    rintro ⟨k,hi_k,hmt⟩
    dsimp only at hi_k hmt ⊢
    refine Zi 7 (fun hr4=>?_) fun hr4=>?_
    ·have hm2:∀ z∈Y,z.fact.a∈atS (el_ p (cm_ Y)):=by have h:=hmt;rwa [List.take_of_length_le (by omega)]at h
     refine Zz 8 ?_
     refine n_ (tp_ (el_ p (cm_ Y)) qad qcp 1073741824 (fun x hx=>hsm x (kY_ hx)) (by omega)) rfl m_ zf rfl fun⟨⟨c1,e1⟩,hA1⟩=>?_
     dsimp only
     dsimp only at hA1
     have hcl1:=hA1.len
     obtain⟨hg0,hdv⟩:=nF_ hPf hckp h14 hQl hm2 hA1
     subst hg0
     refine Zz 3 ?_
     refine L_ Tryz.zeroValue39 rfl fun b4=>z_ 0 aH_ rfl rfl rfl rfl rfl rfl (Zz 6 ?_)
     refine i_ (aU_ (dr_ rfl rfl) (show _=Value.bool true from congrArg Value.bool (by decide))) rfl (Zz 6 ?_)
     refine n_ (derT_c c1 f (by omega) hdv) rfl m_ zf rfl fun _=>Zz 5 ?_
     exact al_ ti_ () rfl m_ zt
    obtain⟨hlx2,x2,hx2,hmx2⟩:=zge (show k<List.length Y by omega)
    refine Zz 17 ?_
    refine bh_ (nL_ (el_ p (cm_ Y)) qad qcp (Fc.a x2.fact) (by omega)) rfl m_ zf rfl fun r5 hr5=>i_ (bJ_ rfl) rfl (Zz 2 ?_)
    cases r5
    ·replace hr5:=dF hr5
     refine Zz 7 ?_
     exact al_ ti_ () rfl m_ zt
    replace hr5:=dT hr5
    refine Zz 9 ?_
    exact B_ ⟨k+1,hlx2,no_ hmt hx2 hr5⟩ (by dsimp only;omega) zl zp zh
   obtain⟨hlx1,x1,hx1,hmx1⟩:=zge (show i<List.length (cm_ Y) by omega)
   have hxo:=hpk _ hmx1
   obtain⟨z1,hz1⟩:∃ e0,p[(Int.toNat x1)]? = some e0:=⟨_,List.getElem?_eq_getElem (by omega)⟩
   have hbq:=kZ_ p (List.take i (cm_ Y))
   rw[List.length_take]at hbq
   refine Zz 10 ?_
   refine q_ 24 [0,1,2,3,4,5] zk zs (Zi 4 (fun hr6=>?_) fun hr6=>?_)
   ·refine Zz 2 ?_
    refine q_ 15 [6,7,8,9,10,11,12,13,14] zk zs (Zi 6 (fun hr7=>?_) fun hr7=>?_)
    ·refine Zz 3 ?_
     refine q_ 12 [15,16,17] zk zs (Zi 1 (fun hr8=>?_) fun hr8=>?_)
     ·refine Zz 2 ?_
      refine q_ 0 [18,19,20,21,22,23,24,25,26,27,28,29] zk zs (Zz 27 ?_)
      refine P_ T_ Q_ aC_ rfl rfl rfl rfl rfl rfl fun b5=>?_
      refine aF_ (List.flatMap Pc.cells [z1]) d_ rfl ?_
      refine cr_ (news:=List.flatMap Pc.cells [z1]) nX_ hr_Rpc rfl rfl (fun q=>by cases q) (by simp) zp (by rw[cu_ Pc.cells 10 Pc.cells_len];rfl) zf (fun u hu=>aw_ Pc.cells_one hu) (by simp only[maxLen];((try simp only[List.length_append,List.length_cons,List.length_nil]);omega)) (by ((try simp only[List.length_append,List.length_cons,List.length_nil]);omega)) rfl fun sv1 Hr1 hr1=>?_
      refine x_ List.perm_append_comm ?_
      have hq1:=zsa hr1
      refine Zz 9 ?_
      exact B_ ⟨(i+1,sv1,Hr1),hlx1,(by rw[jI_ hx1 hz1];exact hq1)⟩ (by dsimp only;omega) zl zp (fun _ _ h=>h.2)
     obtain⟨w1,hw1⟩:∃ e0,(cm_ Y)[(Int.toNat ((i:Int) - 1))]? = some e0:=⟨_,List.getElem?_eq_getElem (by omega)⟩
     have hwx:=pw_lt (mA_ Y) (by omega) hw1 hx1
     refine Zz 2 ?_
     refine q_ 0 [18,19,20,21,22,23,24,25,26,27,28,29] zk zs (Zi 9 (fun hr9=>?_) fun hr9=>?_)
     ·refine Zz 17 ?_
      refine P_ T_ Q_ aC_ rfl rfl rfl rfl rfl rfl fun b6=>?_
      refine aF_ (List.flatMap Pc.cells [z1]) d_ rfl ?_
      refine cr_ (news:=List.flatMap Pc.cells [z1]) nX_ hr_Rpc rfl rfl (fun q=>by cases q) (by simp) zp (by rw[cu_ Pc.cells 10 Pc.cells_len];rfl) zf (fun u hu=>aw_ Pc.cells_one hu) (by simp only[maxLen];((try simp only[List.length_append,List.length_cons,List.length_nil]);omega)) (by ((try simp only[List.length_append,List.length_cons,List.length_nil]);omega)) rfl fun sv2 Hr2 hr2=>?_
      refine x_ List.perm_append_comm ?_
      have hq2:=zsa hr2
      refine Zz 9 ?_
      exact B_ ⟨(i+1,sv2,Hr2),hlx1,(by rw[jI_ hx1 hz1];exact hq2)⟩ (by dsimp only;omega) zl zp (fun _ _ h=>h.2)
     exfalso;omega
    exfalso;omega
   exfalso;omega
  refine Zz 9 ?_
  exact al_ ti_ () rfl m_ zt
 refine Zz 10 ?_
 exact al_ ti_ () rfl m_ zt
end Go.Proofs.YtkeanlfhghlgiaaGreatDoor
