/-
  Part of the proof of the law ProofToolsSpec over this seat: the small logic, the data, the contracts of functions (no condition).
-/
import Derived.Test.YtkeanlfhghlgiaaGreatDoorQProofToolsSpec4
import Derived.Test.YtkeanlfhghlgiaaGreatDoorQProofToolsSpec13
set_option linter.unusedVariables false
set_option linter.unusedSimpArgs false
set_option linter.unusedSectionVars false
set_option maxHeartbeats 1000000
namespace Go.Proofs.YtkeanlfhghlgiaaGreatDoor
open Go Go.Sx Go.Proofs
attribute [local irreducible] Code.wp wpList wpAnyH
open Go.Vs
section
variable {P:Program} {N:Nf} {fr:Fr} {H:Hp} {Γ:List Fct}
theorem nz_:∀ xs:List Int,xs.flatMap N_=xs.map (Value.int .i64)
  | []=>rfl
  | x::xs=>by simp only[List.flatMap_cons,nz_ xs,List.map_cons];rfl
theorem jg_ {f:FuncId} {args:Array Value} {r:Value} {g:Nat} {cur:Array Value} {T:TypeId} {d:Array Int} (hc:dM_ P f)
    (h:∀ v:Vw,v.sat [(g,.cells cur T (0,0))]→Calls P f args v.w fun e w'=>e=.returned r∧∃ n os,w'=Sort.grow (Sort.putRow (Value.int .i64) (Sort.ahead v.w n) g 0 d) os) :
    Tri P f args [(g,.cells cur T (0,0))] Γ (fun _:Unit=>r) (fun _=>[(g,.cells (Sort.putCells (Value.int .i64) 0 d cur) T (0,0))]) (fun _=>[]) :=
  ⟨hc,fun v h1 _=>(h v h1).mono fun e w' ⟨he,n,os,hw⟩=>by
    have hg:=(h1.own _ List.mem_cons_self)
    have hlt:g<v.w.heap.size:=(Array.getElem?_eq_some_iff.1 hg.1).1
    have hb:∀ b,b<v.w.heap.size→w'.heap[b]? = if b=g then some (.cells (Sort.putCells (Value.int .i64) 0 d cur) T (0,0)) else v.w.heap[b]? := fun b hb=>by
      rw[hw]
      simp only[Sort.grow,Sort.putRow,Sort.mapBlock,Sort.ahead]
      rw[Array.getElem?_append_left (by simpa using hb),Array.getElem?_modify]
      by_cases e:b=g
      · subst e
        simp only[if_true,hg.1,Option.map_some,Sort.onCells]
      · rw[if_neg (fun q=>e q.symm),if_neg e]
    have hsz:v.w.heap.size≤w'.heap.size:=by rw[hw];simp[Sort.grow,Sort.putRow,Sort.mapBlock,Sort.ahead]
    refine⟨(),⟨v.im,w',v.sl⟩,he,rfl,⟨fun p hp=>?_,by simp,fun b hbb=>Nat.lt_of_lt_of_le (h1.lt b hbb) hsz⟩,trivial,⟨by rw[hw];rfl,by rw[hw];rfl,by rw[hw];rfl,hsz,fun b hbb hn=>?_,fun _ h=>h,fun _ h=>.inl h,fun b hm=>.inl (by simpa using hm),rfl,.inr (by rw[hw];exact Nat.le_add_right _ _)⟩⟩
    · simp only[List.mem_singleton]at hp
      subst hp
      exact⟨by show w'.heap[g]? = _;rw[hb g hlt,if_pos rfl],hg.2⟩
    · have hn':b≠g:=by simpa using hn
      show w'.heap[b]? = _
      rw[hb b hbb,if_neg hn']⟩
theorem lv_ {cur:Array Value} {d:List Int} (hs:d.length≤cur.size):(Sort.putCells (Value.int .i64) 0 d.toArray cur).toList.take d.length=d.flatMap N_:=by
 rw[nz_]
 apply List.ext_getElem?
 intro j
 rw[List.getElem?_take,List.getElem?_map]
 split
 ·rename_i hj
  simp only[Sort.putCells,Array.getElem?_toList,Array.getElem?_mapIdx]
  rw[Array.getElem?_eq_getElem (by omega)]
  simp only[Option.map_some,Nat.zero_le,true_and,Nat.zero_add,List.size_toArray,hj,if_true,Nat.sub_zero]
  rw[List.getElem?_eq_getElem hj]
  simp only[Option.map_some]
  rw[getElem!_pos d.toArray j (by simpa using hj)]
  rfl
 rename_i hj
 rw[List.getElem?_eq_none (by omega)];rfl
theorem lw_ {cur:Array Value} {d:Array Int}:(Sort.putCells (Value.int .i64) 0 d cur).size=cur.size:=by simp[Sort.putCells]
theorem gQ_ {zs:List Int}:Lib.compact zs=((List.range zs.length).filter fun j=>decide (j=0∨zs[j]! ≠ zs[j - 1]!)).map fun j=>zs[j]! := by
 unfold Lib.compact Lib.compactUpTo Lib.keeps
 have e:∀ j,zs.toArray[j]! = zs[j]! := fun j=>by
   by_cases h:j<zs.length
   · rw[getElem!_pos zs.toArray j (by simpa using h),getElem!_pos zs j h];simp
   · rw[getElem!_neg zs.toArray j (by simpa using h),getElem!_neg zs j h]
 rw[List.map_congr_left fun j _=>e j]
 congr 2
 funext j
 rw[e,e]
theorem gP_ (zs:List Int):(Lib.compact zs).length≤zs.length:=by
  rw[gQ_,List.length_map]
  have:=List.length_filter_le (fun j=>decide (j=0∨zs[j]! ≠ zs[j - 1]!)) (List.range zs.length)
  simpa using this
theorem gO_ {zs:List Int} (x:Int):x∈Lib.compact zs↔x∈zs:=by
 rw[gQ_,List.mem_map]
 constructor
 ·rintro ⟨j,hj,rfl⟩
  have hl:=List.mem_range.1 (List.mem_filter.1 hj).1
  rw[getElem!_pos zs j hl]
  exact List.getElem_mem hl
 intro hx
 obtain⟨j,hj,e⟩:=List.mem_iff_getElem.1 hx
 clear hx
 induction j with
 | zero=>exact⟨0,List.mem_filter.2 ⟨List.mem_range.2 hj,by simp⟩,by rw[getElem!_pos zs 0 hj];exact e⟩
 | succ j ih =>
   by_cases h:zs[j+1]! = zs[j]!
   · have hj':j<zs.length:=by omega
     refine ih hj' ?_
     rw[getElem!_pos zs (j+1) hj,getElem!_pos zs j hj']at h
     rw[← h];exact e
   · exact⟨j+1,List.mem_filter.2 ⟨List.mem_range.2 hj,decide_eq_true (.inr h)⟩,by rw[getElem!_pos zs (j+1) hj];exact e⟩
theorem jn_ {zs:List Int} (hs:zs.Pairwise fun x y=>x≤y):(Lib.compact zs).Pairwise fun x y=>x<y:=by
 rw[gQ_,List.pairwise_map]
 have hr:(List.range zs.length).Pairwise (·<·):=List.pairwise_lt_range
 have hf:=hr.filter (fun j=>decide (j=0∨zs[j]! ≠ zs[j - 1]!))
 refine List.Pairwise.imp_of_mem ?_ hf
 intro j k hj hk hlt
 have hkl:=List.mem_range.1 (List.mem_filter.1 hk).1
 have hkk:=(List.mem_filter.1 hk).2
 simp only[decide_eq_true_eq]at hkk
 have hne:zs[k]! ≠ zs[k - 1]! := by
   rcases hkk with h|h
   · omega
   · exact h
 have hle:∀ a b,a≤b→b<zs.length→zs[a]! ≤ zs[b]! := by
   intro a b hab hb
   rcases Nat.lt_or_eq_of_le hab with h|h
   · rw[getElem!_pos zs a (by omega),getElem!_pos zs b hb]
     exact List.pairwise_iff_getElem.1 hs a b (by omega) hb h
   · subst h;exact Int.le_refl _
 have h1:=hle j (k - 1) (by omega) (by omega)
 have h2:=hle (k - 1) k (by omega) hkl
 have h3:zs[k - 1]! < zs[k]! := by
   apply Decidable.byContradiction
   intro h
   exact hne (Int.le_antisymm (Int.not_lt.1 h) h2)
 exact Int.lt_of_le_of_lt h1 h3
end
theorem lr_ (l:List Int):(l.mergeSort fun x y=>decide (x≤y)).Pairwise fun x y=>x≤y:=by
  have h:=List.pairwise_mergeSort (le:=fun x y:Int=>decide (x≤y)) (fun a b c h1 h2=>by simp only[decide_eq_true_eq]at *;exact Int.le_trans h1 h2) (fun a b=>by
    simp only[Bool.or_eq_true,decide_eq_true_eq];exact Int.le_total a b) l
  exact h.imp (fun h=>of_decide_eq_true h)
theorem oa_ {cur:Array Value} {n:Nat} {xs:List Int} (h:cur.toList.take (n*1)=xs.flatMap N_):∀ (j:Nat) (x:Int),xs[j]? = some x→cur[j]? = some (.int .i64 x):=by
 intro j x hj
 have h1:=t_ D_ hj 0 (.int .i64 x) rfl
 rw[← h,Nat.mul_one,Nat.add_zero]at h1
 rw[List.getElem?_take]at h1
 split at h1
 ·simpa using h1
 cases h1
theorem kB_ {g n cap:Nat} {cur:Array Value} {xs:List Int} {v:Vw} (hs:v.sat [(g,.cells cur 3 (0,0))]) (ht:cur.toList.take (xs.length*1)=xs.flatMap N_):Sort.Holds (Value.int .i64) v.w g 0 xs.toArray:=by
 intro j hj
 have hb:=(hs.own _ List.mem_cons_self).1
 simp only[List.size_toArray]at hj
 have hc:cur[j]? = some (Value.int .i64 xs[j]):=oa_ ht j xs[j] (List.getElem?_eq_getElem hj)
 refine⟨?_,?_⟩
 ·simp only[World.cell?,Nat.zero_add,hb,Option.isSome_none,Bool.false_eq_true,if_false]
  rw[hc,getElem!_pos xs.toArray j (by simpa using hj)]
  rfl
 simp[World.frozen?,hb]
theorem oM_ {sv:Value} {xs:List Int} {Hr:Hp} (h:aE_ 3 1 sv xs.length (xs.flatMap N_) Hr) (hl:xs.length≤1000000000000) :
    Tri Tryz.prog 51 #[sv] Hr [] (fun _:{y:Hp // aE_ 3 1 sv xs.length ((xs.mergeSort fun x y=>decide (x≤y)).flatMap N_) y}=>.tuple #[]) (fun y=>y.1) (fun _=>[]):=by
  rcases h.2 with⟨rfl,h2,rfl⟩|⟨g,cap,cur,rfl,rfl,h3,h4,h5,h6⟩
  · obtain rfl:xs=[]:=List.eq_nil_of_length_eq_zero h2
    have T:=dp_ (P:=Tryz.prog) (H:=[]) (Γ:=[]) (callable Tryz.func51 rfl rfl) (fun v _ _=>(Tryz.slices_Sort_int_none none 0 v.w).mono (by rintro e w' ⟨rfl,rfl⟩;exact⟨rfl,⟨rfl,rfl,rfl,Nat.le_refl _,fun _ _=>rfl⟩,.inr (Nat.le_refl _)⟩))
    exact⟨T.callable,fun v a b=>(T.run v a b).mono (by rintro e w' ⟨x,v',e1,e2,e3,e4,e5⟩;exact⟨⟨[],by simpa using aE_.nil _ _⟩,v',e1,e2,e3,e4,e5⟩)⟩
  · have T:=jg_ (P:=Tryz.prog) (Γ:=[]) (d:=(xs.mergeSort fun x y=>decide (x≤y)).toArray) (callable Tryz.func51 rfl rfl) (fun v hs=>Tryz.slices_Sort_int g 0 cap xs v.w (kB_ (n:=0) (cap:=0) hs h6) (Array.getElem?_eq_some_iff.1 (hs.own _ List.mem_cons_self).1).1 (by omega))
    have hsz:(xs.mergeSort fun x y=>decide (x≤y)).length=xs.length:=List.length_mergeSort _
    refine⟨T.callable,fun v a b=>(T.run v a b).mono ?_⟩
    rintro e w' ⟨x,v',e1,e2,e3,e4,e5⟩
    refine⟨⟨_,by rw[bV_ N_ 1 D_,hsz],.inr ⟨g,cap,_,rfl,rfl,h3,h4,by rw[lw_];exact h5,?_⟩⟩,v',e1,e2,e3,e4,e5⟩
    have:=lv_ (cur:=cur) (d:=xs.mergeSort fun x y=>decide (x≤y)) (by rw[hsz,h5];omega)
    rw[hsz]at this
    rw[Nat.mul_one];exact this
theorem kN_ {sv:Value} {xs:List Int} {Hr:Hp} (h:aE_ 3 1 sv xs.length (xs.flatMap N_) Hr) (hl:xs.length≤1000000000000) :
    Tri Tryz.prog 52 #[sv] Hr [] (fun y:{y:Value×Hp // aE_ 3 1 y.1 (Lib.compact xs).length ((Lib.compact xs).flatMap N_) y.2}=>y.1.1) (fun y=>y.1.2) (fun _=>[]):=by
  rcases h.2 with⟨rfl,h2,rfl⟩|⟨g,cap,cur,rfl,rfl,h3,h4,h5,h6⟩
  · obtain rfl:xs=[]:=List.eq_nil_of_length_eq_zero h2
    have T:=dp_ (P:=Tryz.prog) (H:=[]) (Γ:=[]) (callable Tryz.func52 rfl rfl) (fun v _ _=>(Tryz.slices_Compact_int_empty none 0 v.w).mono (by rintro e w' ⟨rfl,rfl⟩;exact⟨rfl,⟨rfl,rfl,rfl,Nat.le_refl _,fun _ _=>rfl⟩,.inr (Nat.le_refl _)⟩))
    exact⟨T.callable,fun v a b=>(T.run v a b).mono (by rintro e w' ⟨x,v',e1,e2,e3,e4,e5⟩;exact⟨⟨(.slice none 0 0,[]),by simpa [Lib.compact,Lib.compactUpTo] using aE_.nil _ _⟩,v',e1,e2,e3,e4,e5⟩)⟩
  · have hcl:=gP_ xs
    have T:=jg_ (P:=Tryz.prog) (Γ:=[]) (r:=.slice (some ⟨g,0,none⟩) (Lib.compact xs).length cap) (d:=(Lib.compact xs++List.replicate (xs.length - (Lib.compact xs).length) 0).toArray) (callable Tryz.func52 rfl rfl) (fun v hs=>(Tryz.slices_Compact_int g 0 cap xs v.w (kB_ (n:=0) (cap:=0) hs h6) (by omega) h3).mono (by
      rintro e w' ⟨rfl,q,rfl⟩
      exact⟨rfl,q,#[],by rw[Sort.grow_empty]⟩))
    refine⟨T.callable,fun v a b=>(T.run v a b).mono ?_⟩
    rintro e w' ⟨x,v',e1,e2,e3,e4,e5⟩
    refine⟨⟨(.slice (some ⟨g,0,none⟩) (Lib.compact xs).length cap,_),by rw[bV_ N_ 1 D_],.inr ⟨g,cap,_,rfl,rfl,by omega,h4,by rw[lw_];exact h5,?_⟩⟩,v',e1,e2,e3,e4,e5⟩
    have hd:(Lib.compact xs++List.replicate (xs.length - (Lib.compact xs).length) (0:Int)).length=xs.length:=by simp;omega
    have:=lv_ (cur:=cur) (d:=Lib.compact xs++List.replicate (xs.length - (Lib.compact xs).length) 0) (by rw[hd,h5];omega)
    rw[hd]at this
    have h7:=congrArg (List.take (Lib.compact xs).length) this
    rw[List.take_take,Nat.min_eq_left hcl,List.flatMap_append,List.take_append_of_le_length (by rw[bV_ N_ 1 D_];omega),List.take_of_length_le (l:=(Lib.compact xs).flatMap N_) (by rw[bV_ N_ 1 D_];omega)]at h7
    rw[Nat.mul_one];exact h7
end Go.Proofs.YtkeanlfhghlgiaaGreatDoor
namespace Go.Proofs.YtkeanlfhghlgiaaGreatDoor
open Go Go.Sx Go.Proofs
attribute [local irreducible] Code.wp wpList wpAnyH
open Go.Vs
def hY_ (Y:List Stp):List Int:=Y.flatMap fun s=>if 0≤s.piece then [s.piece] else []
def cl_ (Y:List Stp):List Int:=Lib.compact ((hY_ Y).mergeSort fun x y=>decide (x≤y))
theorem hB_ {Y:List Stp} {i:Nat} {x:Stp} (h:Y[i]? = some x):hY_ (List.take (i+1) Y)=hY_ (List.take i Y)++(if 0≤x.piece then [x.piece] else []):=by
  unfold hY_
  rw[List.take_add_one,h,Option.toList_some,List.flatMap_append];simp
theorem gf_ (Y:List Stp):(hY_ Y).length≤Y.length:=by
  unfold hY_
  induction Y with
  | nil=>simp
  | cons s Y ih =>
    rw[List.flatMap_cons,List.length_append,List.length_cons]
    have h2:(if 0≤s.piece then [s.piece] else ([]:List Int)).length≤1:=by split<;>simp
    omega
theorem gg_ (Y:List Stp):(cl_ Y).length≤Y.length:=by
  have h:=gP_ ((hY_ Y).mergeSort fun x y=>decide (x≤y))
  rw[List.length_mergeSort]at h
  exact Nat.le_trans h (gf_ Y)
theorem ru_ (Y:List Stp):(cl_ Y).Pairwise fun x y=>x<y:=jn_ (lr_ _)
theorem pR_ (Y:List Stp) (x:Int):x∈cl_ Y↔∃ s∈Y,s.piece=x∧0≤x:=by
 unfold cl_ hY_
 rw[gO_,List.mem_mergeSort,List.mem_flatMap]
 constructor
 ·rintro ⟨s,hs,h⟩
  split at h
  ·rw[List.mem_singleton]at h;subst h;exact⟨s,hs,rfl,by assumption⟩
  simp at h
 rintro ⟨s,hs,rfl,h⟩
 exact⟨s,hs,by rw[if_pos h];simp⟩
theorem nf_ (l:List Stp) (ad:Option Addr) (cap:Nat) (hl:l.length≤1000000):Tri Tryz.prog 19 #[.agg #[.slice ad (List.length l) cap]] [] [af_ ad (List.flatMap Stp.cells l)] (fun y:{y:Option Addr×Nat // (cl_ l).length≤y.2∧y.2≤maxLen∧(y.1=none→y.2=0)}=>.slice y.1.1 (cl_ l).length y.1.2) (fun _=>[]) (fun y=>[af_ y.1.1 (List.flatMap N_ (cl_ l))]):=by
 refine w_ Tryz.func19 rfl rfl Tryz.ntmps19 rfl fun v0=>?_
 refine Zz 2 ?_
 refine as_ rfl rfl fun b1=>Zz 13 ?_
 refine Q_ (ι:={y:Nat×Value×Hp // y.1≤List.length l∧zR 3 1 N_ y.2.1 (hY_ (List.take y.1 l)) y.2.2}) (fun y=>[(2,y.1.2.1),(6,.slice ad (List.length l) cap),(7,.int .i64 (List.length l:Int)),(8,.int .i64 (y.1.1:Int))]) (fun y=>(y.1.2.2)) (fun y=>[af_ ad (List.flatMap Stp.cells l)]) (fun y=>List.length l - y.1.1) ⟨((0:Nat),(.slice none 0 0),[]),by simp,(aE_.nil _ _)⟩ zl m_ zh ?_
 rintro ⟨⟨i,sv_Rint,H_Rint⟩,hi_i,hr_Rint⟩
 dsimp only at hi_i hr_Rint ⊢
 refine Zi 2 (fun hr1=>?_) fun hr1=>?_
 ·rw[show List.take i l=l from List.take_of_length_le (by omega)]at hr_Rint
  refine Zz 9 ?_
  refine n_ (oM_ hr_Rint (by (have:=gf_ l;(try simp only[List.length_append,List.length_cons,List.length_nil]);omega))) rfl ay_ zt rfl fun⟨Hso1,hs1⟩=>?_
  dsimp only
  have hso1:aE_ 3 1 sv_Rint (List.length (((hY_ l)).mergeSort fun x y=>decide (x≤y))) (List.flatMap N_ (((hY_ l)).mergeSort fun x y=>decide (x≤y))) Hso1:=by rw[List.length_mergeSort];exact hs1
  refine u_ dS_ (Zz 5 ?_)
  refine n_ (kN_ hso1 (by rw[List.length_mergeSort];(have:=gf_ l;(try simp only[List.length_append,List.length_cons,List.length_nil]);omega))) rfl ay_ zt rfl fun⟨⟨svk,Hk⟩,hk⟩=>?_
  dsimp only
  refine u_ dS_ (Zz 4 ?_)
  refine bk_ hk ay_ fun ad2 cp2 had2 hcad2 hmad2 hzad2=>?_
  exact al_ Tryz.results19 ⟨(ad2,cp2),hcad2,hmad2,hzad2⟩ (cS_ rfl had2) m_ zf
 obtain⟨hlx1,x1,hx1,hmx1⟩:=zge (show i<List.length l by omega)
 have hbi:=gf_ (List.take i l)
 rw[List.length_take]at hbi
 refine Zz 12 ?_
 refine J_ bn_ rfl fun b2=>z_ 0 ap_ rfl rfl rfl rfl rfl rfl (Zi 6 (fun hr2=>?_) fun hr2=>?_)
 ·refine Zz 10 ?_
  exact y_ ⟨(i+1,sv_Rint,H_Rint),hlx1,(by rw[hB_ hx1,if_neg (by assumption),List.append_nil];exact hr_Rint)⟩ (by dsimp only;omega) zl F_ zh
 refine Zz 7 ?_
 refine S_ f_ o_ A_ rfl rfl rfl rfl rfl rfl fun b3=>?_
 refine aB_ (List.flatMap N_ [x1.piece]) d_ rfl ?_
 refine bs_ (news:=List.flatMap N_ [x1.piece]) bP_ hr_Rint rfl rfl (fun q=>by cases q) (by simp) F_ (by rw[bV_ N_ 1 D_];rfl) zf (fun u hu=>ar_ bp_ hu) (by simp only[maxLen];(have:=gf_ l;(try simp only[List.length_append,List.length_cons,List.length_nil]);omega)) (by (have:=gf_ l;(try simp only[List.length_append,List.length_cons,List.length_nil]);omega)) rfl fun sv1 Hr1 hr1=>?_
 refine u_ List.perm_append_comm ?_
 have hq1:=zsa hr1
 refine Zz 8 ?_
 exact y_ ⟨(i+1,sv1,Hr1),hlx1,(by rw[hB_ hx1,if_pos (by assumption)];exact hq1)⟩ (by dsimp only;omega) zl F_ (fun _ _ h=>h.2)
end Go.Proofs.YtkeanlfhghlgiaaGreatDoor
namespace Go.Proofs.YtkeanlfhghlgiaaGreatDoor
open Go Go.Sx Go.Proofs
attribute [local irreducible] Code.wp wpList wpAnyH
open Go.Vs
def iJ_ (p:List Pc) (l:List Int):List Int:=l.flatMap fun z=>(p[z.toNat]?).toList.flatMap fun x=>if 0≤x.frm then [x.frm] else []
def iK_ (p:List Pc) (Y:List Stp):List Int:=Lib.compact ((iJ_ p (cl_ Y)).mergeSort fun x y=>decide (x≤y))
theorem hO_ {p:List Pc} {l:List Int} {i:Nat} {x:Int} {z:Pc} (hx:l[i]? = some x) (hz:p[x.toNat]? = some z):iJ_ p (List.take (i+1) l)=iJ_ p (List.take i l)++(if 0≤z.frm then [z.frm] else []):=by
  unfold iJ_
  rw[List.take_add_one,hx,Option.toList_some,List.flatMap_append]
  simp[hz]
theorem gw_ (p:List Pc) (l:List Int):(iJ_ p l).length≤l.length:=by
  unfold iJ_
  induction l with
  | nil=>simp
  | cons z l ih =>
    rw[List.flatMap_cons,List.length_append,List.length_cons]
    have h2:((p[z.toNat]?).toList.flatMap fun x=>if 0≤x.frm then [x.frm] else ([]:List Int)).length≤1:=by
      cases p[z.toNat]? with
      | none=>simp
      | some y=>simp only[Option.toList_some,List.flatMap_cons,List.flatMap_nil,List.append_nil];split<;>simp
    omega
theorem sy_ (p:List Pc) (Y:List Stp):(iK_ p Y).Pairwise fun x y=>x<y:=jn_ (lr_ _)
theorem qu_ (p:List Pc) (Y:List Stp):(iK_ p Y).length≤Y.length:=by
  have h:=gP_ ((iJ_ p (cl_ Y)).mergeSort fun x y=>decide (x≤y))
  rw[List.length_mergeSort]at h
  exact Nat.le_trans h (Nat.le_trans (gw_ p _) (gg_ Y))
def kV_ (p:List Pc) (s:Stp):Prop:=-1≤s.piece∧s.piece<(p.length:Int)
def AxR (p:List Pc) (Y:List Stp) (l:List Int) (e:Int):Prop:=((∀ s∈Y,kV_ p s)→e=0∧l=iK_ p Y)∧((¬ ∀ s∈Y,kV_ p s)→e=1∧l=[])
theorem mD_ {p:List Pc} {Y:List Stp} {s:Stp} (hs:s∈Y) (h:¬ kV_ p s):AxR p Y [] 1:=⟨fun q=>absurd (q s hs) h,fun _=>⟨rfl,rfl⟩⟩
theorem pr_ {p:List Pc} {Y:List Stp} (h:∀ s∈Y,kV_ p s):AxR p Y (iK_ p Y) 0:=⟨fun _=>⟨rfl,rfl⟩,fun q=>absurd h q⟩
theorem rt_ {p:List Pc} {Y:List Stp} (h:∀ s∈Y,kV_ p s):∀ z∈cl_ Y,0≤z∧z<(p.length:Int):=fun z hz=>by
  obtain⟨s,hs,rfl,h0⟩:=(pR_ Y z).1 hz
  exact⟨h0,(h s hs).2⟩
theorem sz_ (p:List Pc) (pad:Option Addr) (pcap:Nat) (Y:List Stp) (yad:Option Addr) (ycap:Nat) (hpl:p.length≤1099511627744) (hl:Y.length≤1000000):Tri Tryz.prog 24 #[.slice pad (List.length p) pcap,.agg #[.slice yad (List.length Y) ycap]] [] [af_ pad (List.flatMap Pc.cells p),af_ yad (List.flatMap Stp.cells Y)] (fun y:{y:List Int×Option Addr×Nat×Int // AxR p Y y.1 y.2.2.2∧y.1.length≤y.2.2.1∧y.2.2.1≤maxLen∧(y.2.1=none→y.2.2.1=0)}=>.tuple #[.slice y.1.2.1 y.1.1.length y.1.2.2.1,.int .i64 y.1.2.2.2]) (fun _=>[]) (fun y=>[af_ y.1.2.1 (List.flatMap N_ y.1.1)]):=by
 refine w_ Tryz.func24 rfl rfl Tryz.ntmps24 rfl fun v0=>?_
 refine Zz 2 ?_
 refine as_ rfl rfl fun b1=>Zz 14 ?_
 refine Q_ (ι:={y:Nat // y≤List.length Y∧(∀ z∈List.take y Y,kV_ p z)}) (fun y=>[(0,.slice pad (List.length p) pcap),(3,zp_ b1 0),(4,.slice none 0 0),(5,.int .i64 0),(11,.slice yad (List.length Y) ycap),(12,.int .i64 (List.length Y:Int)),(13,.int .i64 (y.1:Int))]) (fun y=>((b1,.cells #[.slice yad (List.length Y) ycap] 29 (0,0))::[])) (fun y=>[af_ pad (List.flatMap Pc.cells p),af_ yad (List.flatMap Stp.cells Y)]) (fun y=>List.length Y - y.1) ⟨(0:Nat),by simp,by simp⟩ zl d_ zh ?_
 rintro ⟨i,hi_i,hok⟩
 dsimp only at hi_i hok ⊢
 refine Zi 2 (fun hr1=>?_) fun hr1=>?_
 ·have hok2:∀ z∈Y,kV_ p z:=by have h:=hok;rwa [List.take_of_length_le (by omega)]at h
  have hpk:=rt_ hok2
  refine Zz 10 ?_
  refine n_ (nf_ Y yad ycap (by omega)) rfl m_ zf rfl fun⟨⟨lad,lcp⟩,hlc,hlm,hlz⟩=>?_
  dsimp only
  dsimp only at hlc hlm hlz
  have hlen:=gg_ Y
  refine Zz 5 ?_
  refine Q_ (ι:={y:Nat×Value×Hp // y.1≤List.length (cl_ Y)∧zR 3 1 N_ y.2.1 (iJ_ p (List.take y.1 (cl_ Y))) y.2.2}) (fun y=>[(0,.slice pad (List.length p) pcap),(3,zp_ b1 0),(4,y.1.2.1),(5,.int .i64 0),(11,.slice yad (List.length Y) ycap),(12,.int .i64 (List.length Y:Int)),(13,.int .i64 (i:Int)),(29,.slice lad (List.length (cl_ Y)) lcp),(30,.int .i64 (List.length (cl_ Y):Int)),(31,.int .i64 (y.1.1:Int))]) (fun y=>((b1,.cells #[.slice yad (List.length Y) ycap] 29 (0,0))::y.1.2.2)) (fun y=>[af_ lad (List.flatMap N_ (cl_ Y)),af_ pad (List.flatMap Pc.cells p),af_ yad (List.flatMap Stp.cells Y)]) (fun y=>List.length (cl_ Y) - y.1.1) ⟨((0:Nat),(.slice none 0 0),[]),by simp,(aE_.nil _ _)⟩ zl d_ zh ?_
  rintro ⟨⟨k,sv_Rint,H_Rint⟩,hi_k,hr_Rint⟩
  dsimp only at hi_k hr_Rint ⊢
  refine Zi 2 (fun hr2=>?_) fun hr2=>?_
  ·rw[show List.take k (cl_ Y)=cl_ Y from List.take_of_length_le (by omega)]at hr_Rint
   refine Zz 9 ?_
   refine n_ (oM_ hr_Rint (by (have:=gw_ p (cl_ Y);(try simp only[List.length_append,List.length_cons,List.length_nil]);omega))) rfl F_ zt rfl fun⟨Hso1,hs1⟩=>?_
   dsimp only
   have hso1:aE_ 3 1 sv_Rint (List.length (((iJ_ p (cl_ Y))).mergeSort fun x y=>decide (x≤y))) (List.flatMap N_ (((iJ_ p (cl_ Y))).mergeSort fun x y=>decide (x≤y))) Hso1:=by rw[List.length_mergeSort];exact hs1
   refine Zz 2 ?_
   refine u_ (ak_ V_) (Zz 3 ?_)
   refine n_ (kN_ hso1 (by rw[List.length_mergeSort];(have:=gw_ p (cl_ Y);(try simp only[List.length_append,List.length_cons,List.length_nil]);omega))) rfl F_ zt rfl fun⟨⟨svk,Hk⟩,hk⟩=>?_
   dsimp only
   refine Zz 5 ?_
   refine bk_ hk l_ fun ad2 cp2 had2 hcad2 hmad2 hzad2=>?_
   exact iv_ Tryz.results24 ⟨(iK_ p Y,ad2,cp2,0),pr_ hok2,hcad2,hmad2,hzad2⟩ (cS_ rfl had2) rfl rfl m_ zf
  obtain⟨hlx2,x2,hx2,hmx2⟩:=zge (show k<List.length (cl_ Y) by omega)
  have hxo:=hpk _ hmx2
  obtain⟨z2,hz2⟩:∃ e0,p[(Int.toNat x2)]? = some e0:=⟨_,List.getElem?_eq_getElem (by omega)⟩
  have hbi:=gw_ p (List.take k (cl_ Y))
  rw[List.length_take]at hbi
  refine Zi 22 (fun hr3=>?_) fun hr3=>?_
  ·refine Zz 10 ?_
   exact y_ ⟨(k+1,sv_Rint,H_Rint),hlx2,(by rw[hO_ hx2 hz2,if_neg (by assumption),List.append_nil];exact hr_Rint)⟩ (by dsimp only;omega) zl zp zh
  refine Zz 10 ?_
  refine S_ f_ o_ A_ rfl rfl rfl rfl rfl rfl fun b2=>?_
  refine aB_ (List.flatMap N_ [z2.frm]) d_ rfl ?_
  refine bs_ (news:=List.flatMap N_ [z2.frm]) bP_ hr_Rint rfl rfl (fun q=>by cases q) (by simp) F_ (by rw[bV_ N_ 1 D_];rfl) zf (fun u hu=>ar_ bp_ hu) (by simp only[maxLen];(have:=gw_ p (cl_ Y);(try simp only[List.length_append,List.length_cons,List.length_nil]);omega)) (by (have:=gw_ p (cl_ Y);(try simp only[List.length_append,List.length_cons,List.length_nil]);omega)) rfl fun sv1 Hr1 hr1=>?_
  refine u_ List.perm_append_comm ?_
  have hq1:=zsa hr1
  refine Zz 8 ?_
  exact y_ ⟨(k+1,sv1,Hr1),hlx2,(by rw[hO_ hx2 hz2,if_pos (by assumption)];exact hq1)⟩ (by dsimp only;omega) zl zp (fun _ _ h=>h.2)
 obtain⟨hlx1,x1,hx1,hmx1⟩:=zge (show i<List.length Y by omega)
 refine Zz 12 ?_
 refine J_ bn_ rfl fun b3=>z_ 0 ap_ rfl rfl rfl rfl rfl rfl (Zi 6 (fun hr4=>?_) fun hr4=>?_)
 ·refine Zi 10 (fun hr5=>?_) fun hr5=>?_
  ·refine Zz 11 ?_
   exact y_ ⟨i+1,hlx1,ht_ hok hx1 ⟨by omega,by omega⟩⟩ (by dsimp only;omega) zl (c_ d_) zh
  refine Zz 11 ?_
  exact iv_ Tryz.results24 ⟨([],none,0,1),mD_ hmx1 (fun q=>by have:=q.1;have:=q.2;omega),by simp,by simp[maxLen],fun _=>rfl⟩ rfl rfl rfl m_ (fun v _ h=>by exact⟨.inl rfl,trivial⟩)
 refine Zz 17 ?_
 exact iv_ Tryz.results24 ⟨([],none,0,1),mD_ hmx1 (fun q=>by have:=q.1;have:=q.2;omega),by simp,by simp[maxLen],fun _=>rfl⟩ rfl rfl rfl m_ (fun v _ h=>by exact⟨.inl rfl,trivial⟩)
end Go.Proofs.YtkeanlfhghlgiaaGreatDoor
namespace Go.Proofs.YtkeanlfhghlgiaaGreatDoor
open Go Go.Sx Go.Proofs
attribute [local irreducible] Code.wp wpList wpAnyH
open Go.Vs
structure SameS (Y Z:List Stp):Prop where
  len:Y.length=Z.length
  eq:∀ (i:Nat) s t,Y[i]? = some s→Z[i]? = some t→s.rule=t.rule∧s.fact=t.fact∧s.piece=t.piece∧s.frm=t.frm
theorem th_ (Y:List Stp) (yad:Option Addr) (ycap:Nat) (Z:List Stp) (zad:Option Addr) (zcap:Nat) (hS:SameS Y Z) (hl:Y.length≤1000000) (hfl:∀ s∈Y,s.frm.length≤1000000):Tri Tryz.prog 23 #[.agg #[.slice yad (List.length Y) ycap],.agg #[.slice zad (List.length Z) zcap]] [] [af_ yad (List.flatMap Stp.cells Y),ax_ Y,af_ zad (List.flatMap Stp.cells Z),ax_ Z] (fun _:Unit=>.bool true) (fun _=>[]) (fun _=>[]):=by
 refine w_ Tryz.func23 rfl rfl Tryz.ntmps23 rfl fun v0=>?_
 have hlen:=hS.len
 refine Zz 2 ?_
 refine as_ rfl rfl fun b1=>as_ rfl rfl fun b2=>Zi 12 (fun hr1=>?_) fun hr1=>?_
 ·refine Zz 12 ?_
  refine Q_ (ι:={y:Nat // y≤List.length Y}) (fun y=>[(2,zp_ b1 0),(3,zp_ b2 0),(4,.bool false),(5,.int .i64 (y.1:Int))]) (fun y=>((b2,.cells #[.slice zad (List.length Z) zcap] 29 (0,0))::((b1,.cells #[.slice yad (List.length Y) ycap] 29 (0,0))::[]))) (fun y=>[af_ yad (List.flatMap Stp.cells Y),ax_ Y,af_ zad (List.flatMap Stp.cells Z),ax_ Z]) (fun y=>List.length Y - y.1) ⟨(0:Nat),by simp⟩ zl zp zh ?_
  rintro ⟨i,hi_i⟩
  dsimp only at hi_i ⊢
  refine Zi 7 (fun hr2=>?_) fun hr2=>?_
  ·refine Zz 11 ?_
   exact al_ Tryz.results23 () rfl m_ zt
  obtain⟨hlx1,x1,hx1,hmx1⟩:=zge (show i<List.length Y by omega)
  have hlz:i<List.length Z:=by have:=hS.len;omega
  have hly1:i<List.length Z:=hlz
  obtain⟨y1,hy1⟩:∃ e0,Z[i]? = some e0:=⟨_,List.getElem?_eq_getElem hly1⟩
  have hmy1:y1∈Z:=List.mem_of_getElem? hy1
  obtain⟨he1,he2,he3,he4⟩:=hS.eq i x1 y1 hx1 hy1
  have hf1:=hfl x1 hmx1
  refine Zz 14 ?_
  refine J_ bn_ rfl fun b3=>z_ 0 ap_ rfl rfl rfl rfl rfl rfl (Zz 9 ?_)
  refine J_ bn_ rfl fun b4=>z_ 0 ap_ rfl rfl rfl rfl rfl rfl (Zi 9 (fun hr3=>?_) fun hr3=>?_)
  ·refine Zz 10 ?_
   refine aQ_ (dw_ (p:=x1.fact) (q:=y1.fact) rfl rfl) rfl fun r4 hr4=>Zz 2 ?_
   cases r4
   ·replace hr4:=zdf hr4
    refine Zi 9 (fun hr5=>?_) fun hr5=>?_
    ·refine Zi 15 (fun hr6=>?_) fun hr6=>?_
     ·refine Zz 12 ?_
      refine Q_ (ι:={y:Nat // y≤List.length x1.frm}) (fun y=>[(2,zp_ b1 0),(3,zp_ b2 0),(4,.bool false),(5,.int .i64 (i:Int)),(6,zp_ b3 0),(7,zp_ b4 0),(8,.int .i64 (y.1:Int))]) (fun y=>((b4,.cells #[.int .i64 y1.rule,.int .i64 (Fc.kind y1.fact),str (Fc.a y1.fact),str (Fc.b y1.fact),str (Fc.r y1.fact),.int .i64 (Fc.lo y1.fact),.int .i64 (Fc.hi y1.fact),.int .i64 y1.piece,.slice y1.ad (List.length y1.frm) y1.cap] 48 (0,0))::((b3,.cells #[.int .i64 x1.rule,.int .i64 (Fc.kind x1.fact),str (Fc.a x1.fact),str (Fc.b x1.fact),str (Fc.r x1.fact),.int .i64 (Fc.lo x1.fact),.int .i64 (Fc.hi x1.fact),.int .i64 x1.piece,.slice x1.ad (List.length x1.frm) x1.cap] 48 (0,0))::((b2,.cells #[.slice zad (List.length Z) zcap] 29 (0,0))::((b1,.cells #[.slice yad (List.length Y) ycap] 29 (0,0))::[]))))) (fun y=>[af_ yad (List.flatMap Stp.cells Y),ax_ Y,af_ zad (List.flatMap Stp.cells Z),ax_ Z]) (fun y=>List.length x1.frm - y.1) ⟨(0:Nat),by simp⟩ zl zp zh ?_
      rintro ⟨j,hi_j⟩
      dsimp only at hi_j ⊢
      refine Zi 7 (fun hr7=>?_) fun hr7=>?_
      ·refine Zz 11 ?_
       exact y_ ⟨i+1,hlx1⟩ (by dsimp only;omega) zl zp zh
      obtain⟨hlx2,x2,hx2,hmx2⟩:=zge (show j<List.length x1.frm by omega)
      have hy2:y1.frm[j]? = some x2:=he4▸hx2
      have hly2:j<List.length y1.frm:=by rw[← he4];omega
      refine Zz 9 ?_
      refine s_ 0 [0,1,2,3,4,5,6,7,8,9,10] zk zs (Zz 3 ?_)
      refine R_ rfl (X_ f_ o_ rfl rfl (fun v _ h=>G_ (n:=1) D_ (by decide) (by exact (h.2.1 x1 hmx1)) hx2) (by omega) (by first|omega|(simp;done))) rfl ?_
      refine R_ rfl (at_ (ad:=x1.ad) O_ rfl (fun v _ h=>by exact (h.2.1 x1 hmx1)) (t_ D_ hx2 0 _ rfl)) rfl (Zz 3 ?_)
      refine R_ rfl (X_ f_ o_ rfl rfl (fun v _ h=>G_ (n:=1) D_ (by decide) (by exact (h.2.2.2.1 y1 hmy1)) hy2) (by omega) (by first|omega|(simp;done))) rfl ?_
      refine R_ rfl (at_ (ad:=y1.ad) O_ rfl (fun v _ h=>by exact (h.2.2.2.1 y1 hmy1)) (t_ D_ hy2 0 _ rfl)) rfl ?_
      refine Zi 0 (fun hr8=>?_) fun hr8=>?_
      ·refine Zz 12 ?_
       exact y_ ⟨j+1,hlx2⟩ (by dsimp only;omega) zl zp zh
      first|exact absurd he1 hr8|exact absurd he2 hr8|exact absurd he3 hr8|exact absurd rfl hr8|(exfalso;rw[he4]at hr8;exact hr8 rfl)
     first|exact absurd he1 hr6|exact absurd he2 hr6|exact absurd he3 hr6|exact absurd rfl hr6|(exfalso;rw[he4]at hr6;exact hr6 rfl)
    first|exact absurd he1 hr5|exact absurd he2 hr5|exact absurd he3 hr5|exact absurd rfl hr5|(exfalso;rw[he4]at hr5;exact hr5 rfl)
   replace hr4:=zdt hr4
   first|exact absurd he1 hr4|exact absurd he2 hr4|exact absurd he3 hr4|exact absurd rfl hr4|(exfalso;rw[he4]at hr4;exact hr4 rfl)
  first|exact absurd he1 hr3|exact absurd he2 hr3|exact absurd he3 hr3|exact absurd rfl hr3|(exfalso;rw[he4]at hr3;exact hr3 rfl)
 exact absurd (congrArg Nat.cast hS.len) hr1
end Go.Proofs.YtkeanlfhghlgiaaGreatDoor
namespace Go.Proofs.YtkeanlfhghlgiaaGreatDoor
open Go Go.Sx Go.Proofs
attribute [local irreducible] Code.wp wpList wpAnyH
open Go.Vs
theorem hc_ {l m:List Int} (hl:l.Pairwise fun x y=>x<y) (hm:m.Pairwise fun x y=>x<y) (h:∀ x,x∈l↔x∈m):l=m:=fw_ (fun x=>Int.lt_irrefl x) (fun h1 h2=>Int.lt_trans h1 h2) hl hm h
def cL_ (d:List Int) (fr:List Int):Int:=fr.foldl (fun m q=>max m (1+d.getD q.toNat 0)) 1
def bE_ (Y:List Stp):List Int:=Y.foldl (fun d s=>d++[cL_ d s.frm]) []
theorem iZ_ {Y:List Stp} {i:Nat} {s:Stp} (h:Y[i]? = some s):bE_ (Y.take (i+1))=bE_ (Y.take i)++[cL_ (bE_ (Y.take i)) s.frm]:=by
  unfold bE_
  rw[List.take_add_one,h,Option.toList_some,List.foldl_append];rfl
theorem hN_ {d fr:List Int} {j:Nat} {x:Int} (h:fr[j]? = some x):cL_ d (fr.take (j+1))=max (cL_ d (fr.take j)) (1+d.getD x.toNat 0):=by
  unfold cL_
  rw[List.take_add_one,h,Option.toList_some,List.foldl_append];rfl
theorem eU_:∀ (i:Nat) (Y:List Stp),i≤Y.length→(bE_ (Y.take i)).length=i
  | 0,Y,_=>rfl
  | i+1,Y,h=>by
    rw[iZ_ (List.getElem?_eq_getElem (show i<Y.length by omega)),List.length_append,eU_ i Y (by omega)];rfl
theorem tP_ {d fr:List Int} {n:Nat} (h:∀ q∈fr,d.getD q.toNat 0≤(n:Int)):1≤cL_ d fr∧cL_ d fr≤n+1:=by
  unfold cL_
  have:∀ (fr:List Int) (m:Int),(∀ q∈fr,d.getD q.toNat 0≤(n:Int))→1≤m→m≤n+1→1≤fr.foldl (fun m q=>max m (1+d.getD q.toNat 0)) m∧fr.foldl (fun m q=>max m (1+d.getD q.toNat 0)) m≤n+1:=by
    intro fr
    induction fr with
    | nil=>intro m _ h1 h2;exact⟨h1,h2⟩
    | cons x fr ih =>
      intro m hq h1 h2
      have:=hq x List.mem_cons_self
      exact ih (max m (1+d.getD x.toNat 0)) (fun q hm=>hq q (List.mem_cons_of_mem _ hm)) (by omega) (by omega)
  exact this fr 1 h (by omega) (by omega)
theorem jK_ {Y:List Stp} (hO:en_ Y):∀ (i:Nat),i≤Y.length→∀ (j:Nat) v,(bE_ (Y.take i))[j]? = some v→1≤v∧v≤(j:Int)+1
 | 0,_,j,v,h=>by simp[bE_]at h
 | i+1,hi,j,v,h=>by
   have hs:=List.getElem?_eq_getElem (show i<Y.length by omega)
   rw[iZ_ hs]at h
   have hl:=eU_ i Y (by omega)
   by_cases hj:j<i
   · rw[List.getElem?_append_left (by omega)]at h
     exact jK_ hO i (by omega) j v h
   · have e:j=i:=by have:=(List.getElem?_eq_some_iff.1 h).1;simp[hl]at this;omega
     subst e
     rw[List.getElem?_append_right (by omega),hl,Nat.sub_self]at h
     simp at h
     subst h
     refine tP_ fun q hq=>?_
     have ho:=hO.2 j _ hs q hq
     rw[List.getD_eq_getElem?_getD]
     cases hg:(bE_ (Y.take j))[q.toNat]? with
     | none=>simp
     | some u=>have:=(jK_ hO j (by omega) _ u hg).2;simp;omega
end Go.Proofs.YtkeanlfhghlgiaaGreatDoor
namespace Go.Proofs.YtkeanlfhghlgiaaGreatDoor
open Go Go.Sx Go.Proofs
attribute [local irreducible] Code.wp wpList wpAnyH
open Go.Vs
def el_ (Y:List Stp) (i:Nat):List Int:=bE_ (Y.take i)++List.replicate (Y.length - i) 0
def dd_ (Y:List Stp) (i:Nat) (m:Int):List Int:=bE_ (Y.take i)++m::List.replicate (Y.length - (i+1)) 0
section
variable {Y:List Stp} {i j:Nat} {m m':Int} {s:Stp}
theorem lR_:el_ Y 0=List.replicate Y.length 0:=by simp[el_,bE_]
theorem gt_ (h:i≤Y.length):(el_ Y i).length=Y.length:=by simp only[el_,List.length_append,eU_ i Y h,List.length_replicate];omega
theorem dt_ (h:i<Y.length):(dd_ Y i m).length=Y.length:=by simp only[dd_,List.length_append,eU_ i Y (Nat.le_of_lt h),List.length_cons,List.length_replicate];omega
theorem mB_ (h:i<Y.length):(dd_ Y i m)[i]? = some m:=by
  unfold dd_
  have hl:=eU_ i Y (Nat.le_of_lt h)
  rw[List.getElem?_append_right (by omega),hl,Nat.sub_self];rfl
theorem sq_ (h:i<Y.length):el_ Y i=dd_ Y i 0:=by
  unfold el_ dd_
  rw[show Y.length - i=(Y.length - (i+1))+1 by omega,List.replicate_succ]
theorem pi_ (h:i<Y.length):(el_ Y i)[i]? = some 0:=by rw[sq_ h];exact mB_ h
theorem ho_ (h:i<Y.length):(dd_ Y i m).set i m'=dd_ Y i m':=by
  unfold dd_
  have hl:=eU_ i Y (Nat.le_of_lt h)
  rw[List.set_append_right _ _ (by omega),hl,Nat.sub_self];rfl
theorem nH_ (h:i<Y.length):(el_ Y i).set i m'=dd_ Y i m':=by rw[sq_ h];exact ho_ h
theorem nI_ (h:i<Y.length) (hj:j<i):(dd_ Y i m)[j]? = some ((bE_ (Y.take i)).getD j 0):=by
  unfold dd_
  have hl:=eU_ i Y (Nat.le_of_lt h)
  rw[List.getElem?_append_left (by omega),List.getD_eq_getElem?_getD,List.getElem?_eq_getElem (by omega)];rfl
theorem nJ_ (hs:Y[i]? = some s):dd_ Y i (cL_ (bE_ (Y.take i)) s.frm)=el_ Y (i+1):=by
  unfold dd_ el_
  rw[iZ_ hs,List.append_assoc];rfl
theorem sp_:el_ Y Y.length=bE_ Y:=by simp[el_]
theorem pj_ (hO:en_ Y) (h:i≤Y.length):0≤(bE_ (Y.take i)).getD j 0∧(bE_ (Y.take i)).getD j 0≤(i:Int):=by
  have hl:=eU_ i Y h
  rw[List.getD_eq_getElem?_getD]
  cases hg:(bE_ (Y.take i))[j]? with
  | none=>simp
  | some u =>
    have h1:=jK_ hO i h j u hg
    have h2:=(List.getElem?_eq_some_iff.1 hg).1
    simp only[Option.getD_some];omega
theorem lS_ (hO:en_ Y) {w:Int} (hw:(el_ Y Y.length)[Y.length - 1]? = some w):w=(bE_ Y).getD (Y.length - 1) 0∧1≤w∧w≤(Y.length:Int):=by
  rw[sp_]at hw
  have hl:=List.length_pos_iff.2 hO.1
  refine⟨by rw[List.getD_eq_getElem?_getD,hw];rfl,?_⟩
  have:=jK_ hO Y.length (Nat.le_refl _) (Y.length - 1) w (by rw[List.take_length];exact hw)
  omega
end
theorem tN_ (Y:List Stp) (yad:Option Addr) (ycap:Nat) (hl:Y.length≤1000000) (hfl:∀ s∈Y,s.frm.length≤1000000):Tri Tryz.prog 22 #[.agg #[.slice yad (List.length Y) ycap]] [] [af_ yad (List.flatMap Stp.cells Y),ax_ Y] (fun y:{y:Int×Int // (en_ Y→y.2=0∧y.1=(bE_ Y).getD (Y.length - 1) 0∧1≤y.1∧y.1≤(Y.length:Int))∧(¬ en_ Y→y.2=1∧y.1=0)}=>.tuple #[.int .i64 y.1.1,.int .i64 y.1.2]) (fun _=>[]) (fun _=>[]):=by
 refine w_ Tryz.func22 rfl rfl Tryz.ntmps22 rfl fun v0=>?_
 refine Zz 2 ?_
 refine as_ rfl rfl fun b1=>Zz 8 ?_
 refine n_ (lV_ Y yad ycap hl hfl) rfl m_ zf rfl fun⟨ec,hec,hec1,hec2⟩=>?_
 dsimp only
 refine Zi 6 (fun hr1=>?_) fun hr1=>?_
 ·obtain⟨hne,hord⟩:=hec1 hr1
  refine Zz 10 ?_
  refine dn_ (n:=List.length Y) (by':=8) fd_ (z:=(.int .i64 0)) zk rfl (by decide) rfl rfl (by omega) (by simp only[maxLen];omega) rfl fun svD HrD hrD=>?_
  have hqD:aE_ 3 1 svD (List.length (el_ Y 0)) (List.flatMap N_ (el_ Y 0)) HrD:=by rw[lR_];rw[List.length_replicate,← ev_ N_];exact hrD
  refine Zz 4 ?_
  refine u_ (ak_ V_) (Zz 9 ?_)
  refine Q_ (ι:={y:Nat×Value×Hp // y.1≤List.length Y∧zR 3 1 N_ y.2.1 (el_ Y y.1) y.2.2}) (fun y=>[(2,.int .i64 0),(3,.int .i64 0),(5,y.1.2.1),(20,.slice yad (List.length Y) ycap),(21,.int .i64 (List.length Y:Int)),(22,.int .i64 (y.1.1:Int))]) (fun y=>(y.1.2.2)) (fun y=>[af_ yad (List.flatMap Stp.cells Y),ax_ Y]) (fun y=>List.length Y - y.1.1) ⟨((0:Nat),svD,HrD),by simp,hqD⟩ zl F_ zh ?_
  rintro ⟨⟨i,sv_D,H_D⟩,hi_i,hr_D⟩
  dsimp only at hi_i hr_D ⊢
  refine Zi 2 (fun hr2=>?_) fun hr2=>?_
  ·rw[show i=List.length Y by omega]at hr_D
   refine Zz 7 ?_
   have hY0:=List.length_pos_iff.2 hne
   have hdl:=gt_ (Y:=Y) (Nat.le_refl _)
   obtain⟨w1,hw0⟩:∃ e0,(el_ Y (List.length Y))[(Int.toNat ((List.length (el_ Y (List.length Y)):Int) - 1))]? = some e0:=⟨_,List.getElem?_eq_getElem (by omega)⟩
   have hw1:(el_ Y (List.length Y))[List.length Y - 1]? = some w1:=by rw[show List.length Y - 1=(Int.toNat ((List.length (el_ Y (List.length Y)):Int) - 1)) by omega];exact hw0
   refine Zz 3 ?_
   refine i_ (ch_ hr_D f_ rfl) rfl (Zz 1 ?_)
   refine i_ (ah_ hr_D f_ o_ rfl rfl (by omega) (by omega)) rfl (i_ (av_ hr_D ay_ O_ rfl (t_ D_ hw0 0 _ rfl)) rfl (Zz 5 ?_))
   exact iv_ Tryz.results22 ⟨(w1,0),fun q=>⟨rfl,lS_ q hw1⟩,fun q=>absurd ⟨hne,hord⟩ q⟩ rfl rfl rfl m_ zt
  obtain⟨hlx1,x1,hx1,hmx1⟩:=zge (show i<List.length Y by omega)
  have hd0:=pi_ hlx1
  have hf1:=hfl x1 hmx1
  have hdl:=gt_ (Y:=Y) hi_i
  refine Zz 13 ?_
  refine J_ bn_ rfl fun b2=>Zz 1 ?_
  refine z_ 0 ap_ rfl rfl rfl rfl rfl rfl (Zz 6 ?_)
  refine i_ (ah_ hr_D f_ o_ rfl rfl (by omega) (by omega)) rfl (bQ_ (k:=(i:Int).toNat*1+0) hr_D F_ o_ rfl rfl (by omega) rfl rfl fun Hr1 hr1=>?_)
  have hs1:=(cU_ N_ 1 D_ (el_ Y i) i 0 (0:Int) (1:Int) (.int .i64 1) hd0 (by decide) rfl).trans (congrArg _ (nH_ hlx1))
  have hq1:aE_ 3 1 sv_D (List.length (dd_ Y i 1)) (List.flatMap N_ (dd_ Y i 1)) Hr1:=by rw[← hs1,show List.length (dd_ Y i 1)=List.length (el_ Y i) from (by rw[dt_ hlx1,gt_ hi_i])];exact hr1
  refine Zz 2 ?_
  refine u_ (ak_ V_) (Zz 9 ?_)
  refine Q_ (ι:={y:Nat×Value×Hp // y.1≤List.length x1.frm∧zR 3 1 N_ y.2.1 (dd_ Y i (cL_ (bE_ (List.take i Y)) (List.take y.1 x1.frm))) y.2.2}) (fun y=>[(2,.int .i64 0),(3,.int .i64 0),(5,y.1.2.1),(20,.slice yad (List.length Y) ycap),(21,.int .i64 (List.length Y:Int)),(22,.int .i64 (i:Int)),(6,.int .i64 (i:Int)),(31,.slice x1.ad (List.length x1.frm) x1.cap),(32,.int .i64 (List.length x1.frm:Int)),(33,.int .i64 (y.1.1:Int))]) (fun y=>(y.1.2.2)) (fun y=>[af_ yad (List.flatMap Stp.cells Y),ax_ Y]) (fun y=>List.length x1.frm - y.1.1) ⟨((0:Nat),sv_D,Hr1),by simp,hq1⟩ zl F_ zh ?_
  rintro ⟨⟨j,sv_D,H_D⟩,hi_j,hr_D⟩
  dsimp only at hi_j hr_D ⊢
  refine Zi 2 (fun hr3=>?_) fun hr3=>?_
  ·refine Zz 11 ?_
   exact y_ ⟨(i+1,sv_D,H_D),hlx1,(by rw[← nJ_ hx1];have q:=hr_D;rwa [show List.take j x1.frm=Stp.frm x1 from List.take_of_length_le (by omega)]at q)⟩ (by dsimp only;omega) zl ay_ zh
  obtain⟨hlx2,x2,hx2,hmx2⟩:=zge (show j<List.length x1.frm by omega)
  have ho2:=hord i x1 hx1 x2 hmx2
  have hdi:=mB_ (m:=(cL_ (bE_ (List.take i Y)) (List.take j x1.frm))) hlx1
  have hdx:=nI_ (m:=(cL_ (bE_ (List.take i Y)) (List.take j x1.frm))) (j:=x2.toNat) hlx1 (by omega)
  have hgd:=pj_ (Y:=Y) (i:=i) (j:=x2.toNat) ⟨hne,hord⟩ (by omega)
  have hjl:=dt_ (m:=(cL_ (bE_ (List.take i Y)) (List.take j x1.frm))) hlx1
  refine Zz 10 ?_
  refine i_ (X_ f_ o_ rfl rfl (fun v _ h=>G_ (n:=1) D_ (by decide) (by exact (h.2.1 x1 hmx1)) hx2) (by omega) (by first|omega|(simp;done))) rfl ?_
  refine i_ (at_ (ad:=x1.ad) O_ rfl (fun v _ h=>by exact (h.2.1 x1 hmx1)) (t_ D_ hx2 0 _ rfl)) rfl (Zz 3 ?_)
  refine ae_ ([]) zk ?_
  refine s_ 6 [0,1,2,3,4,6,7,8] zk zs (Zz 4 ?_)
  refine R_ rfl (ah_ hr_D f_ o_ rfl rfl (by omega) (by omega)) rfl (Zz 2 ?_)
  refine R_ rfl (ah_ hr_D f_ o_ rfl rfl (by omega) (by omega)) rfl (cJ_ ?_)
  refine bW_ 5 9 rfl rfl zk ?_ ?_
  ·refine i_ (av_ hr_D ay_ O_ rfl (t_ D_ hdi 0 _ rfl)) rfl (Zz 3 ?_)
   refine j_ 9 rfl zk (i_ (av_ hr_D ay_ O_ rfl (t_ D_ hdx 0 _ rfl)) rfl (Zz 3 ?_))
   refine s_ 1 [10,11,12] zk zs (Zz 1 ?_)
   refine R_ rfl (cC_ rfl rfl) rfl (R_ rfl (ah_ hr_D f_ o_ rfl rfl (by omega) (by omega)) rfl (cJ_ (j_ 13 rfl zk (bQ_ (k:=(i:Int).toNat*1+0) hr_D ay_ o_ rfl rfl (by omega) rfl rfl fun Hr2 hr2=>?_))))
   have hs2:=(cU_ N_ 1 D_ (dd_ Y i (cL_ (bE_ (List.take i Y)) (List.take j x1.frm))) i 0 (cL_ (bE_ (List.take i Y)) (List.take j x1.frm)) (max (cL_ (bE_ (List.take i Y)) (List.take j x1.frm)) (1+((bE_ (List.take i Y)).getD x2.toNat 0))) (.int .i64 (max (cL_ (bE_ (List.take i Y)) (List.take j x1.frm)) (1+((bE_ (List.take i Y)).getD x2.toNat 0)))) hdi (by decide) rfl).trans (congrArg _ (ho_ hlx1))
   have hq2:aE_ 3 1 sv_D (List.length (dd_ Y i (max (cL_ (bE_ (List.take i Y)) (List.take j x1.frm)) (1+((bE_ (List.take i Y)).getD x2.toNat 0))))) (List.flatMap N_ (dd_ Y i (max (cL_ (bE_ (List.take i Y)) (List.take j x1.frm)) (1+((bE_ (List.take i Y)).getD x2.toNat 0))))) Hr2:=by rw[← hs2,show List.length (dd_ Y i (max (cL_ (bE_ (List.take i Y)) (List.take j x1.frm)) (1+((bE_ (List.take i Y)).getD x2.toNat 0))))=List.length (dd_ Y i (cL_ (bE_ (List.take i Y)) (List.take j x1.frm))) from (by rw[dt_ hlx1,dt_ hlx1])];exact hr2
   refine u_ dS_ (Zz 10 ?_)
   exact y_ ⟨(j+1,sv_D,Hr2),hlx2,(by rw[hN_ hx2];exact hq2)⟩ (by dsimp only;omega) zl ay_ zh
  refine i_ (av_ hr_D ay_ O_ rfl (t_ D_ hdx 0 _ rfl)) rfl (Zz 3 ?_)
  refine s_ 4 [10] zk zs (Zz 2 ?_)
  refine j_ 5 rfl zk (i_ (av_ hr_D ay_ O_ rfl (t_ D_ hdi 0 _ rfl)) rfl (Zz 3 ?_))
  refine s_ 1 [11,12] zk zs (R_ rfl (cC_ rfl rfl) rfl (R_ rfl (ah_ hr_D f_ o_ rfl rfl (by omega) (by omega)) rfl (cJ_ (j_ 13 rfl zk (bQ_ (k:=(i:Int).toNat*1+0) hr_D ay_ o_ rfl rfl (by omega) rfl rfl fun Hr3 hr3=>?_)))))
  have hs3:=(cU_ N_ 1 D_ (dd_ Y i (cL_ (bE_ (List.take i Y)) (List.take j x1.frm))) i 0 (cL_ (bE_ (List.take i Y)) (List.take j x1.frm)) (max (cL_ (bE_ (List.take i Y)) (List.take j x1.frm)) (1+((bE_ (List.take i Y)).getD x2.toNat 0))) (.int .i64 (max (cL_ (bE_ (List.take i Y)) (List.take j x1.frm)) (1+((bE_ (List.take i Y)).getD x2.toNat 0)))) hdi (by decide) rfl).trans (congrArg _ (ho_ hlx1))
  have hq3:aE_ 3 1 sv_D (List.length (dd_ Y i (max (cL_ (bE_ (List.take i Y)) (List.take j x1.frm)) (1+((bE_ (List.take i Y)).getD x2.toNat 0))))) (List.flatMap N_ (dd_ Y i (max (cL_ (bE_ (List.take i Y)) (List.take j x1.frm)) (1+((bE_ (List.take i Y)).getD x2.toNat 0))))) Hr3:=by rw[← hs3,show List.length (dd_ Y i (max (cL_ (bE_ (List.take i Y)) (List.take j x1.frm)) (1+((bE_ (List.take i Y)).getD x2.toNat 0))))=List.length (dd_ Y i (cL_ (bE_ (List.take i Y)) (List.take j x1.frm))) from (by rw[dt_ hlx1,dt_ hlx1])];exact hr3
  refine u_ dS_ (Zz 10 ?_)
  exact y_ ⟨(j+1,sv_D,Hr3),hlx2,(by rw[hN_ hx2];exact hq3)⟩ (by dsimp only;omega) zl ay_ zh
 refine Zz 11 ?_
 exact iv_ Tryz.results22 ⟨(0,ec),fun q=>absurd (hec2 q) hr1,fun _=>⟨by omega,rfl⟩⟩ rfl rfl rfl m_ zt
end Go.Proofs.YtkeanlfhghlgiaaGreatDoor
namespace Go.Proofs.YtkeanlfhghlgiaaGreatDoor
open Go Go.Sx Go.Proofs
attribute [local irreducible] Code.wp wpList wpAnyH
open Go.Vs
theorem rx_ {Y:List Stp} {i:Nat} {s:Stp} {q:Int} (hs:Y[i]? = some s) (hq:q∈s.frm) (h:¬ (0≤q∧q<(i:Int))):(false=true↔en_ Y):=⟨fun e=>(by cases e),fun o=>absurd (o.2 i s hs q hq) h⟩
theorem tn_ {Y:List Stp} (h:∀ n:Nat,n<Y.length→∀ s,Y[n]? = some s→∀ q∈s.frm,0≤q∧q<(n:Int)) {r:Bool} (hr:decide (0<(Y.length:Int))=r):(r=true↔en_ Y):=by
  subst hr
  rw[decide_eq_true_eq]
  exact⟨fun h0=>⟨fun e=>by subst e;simp at h0,fun i s hs=>h i (List.getElem?_eq_some_iff.1 hs).1 s hs⟩,fun o=>by have:=List.length_pos_iff.2 o.1;omega⟩
theorem rw_ {Y:List Stp} {i j:Nat} {x:Stp} (h:∀ n:Nat,n<i→∀ s,Y[n]? = some s→∀ q∈s.frm,0≤q∧q<(n:Int)) (hx:Y[i]? = some x) (hq:∀ q∈List.take j x.frm,0≤q∧q<(i:Int)) (hj:x.frm.length≤j):∀ n:Nat,n<i+1→∀ s,Y[n]? = some s→∀ q∈s.frm,0≤q∧q<(n:Int):=fun n hn s hs q hm=>by
 by_cases e:n=i
 ·subst e
  rw[hx]at hs;cases hs
  rw[List.take_of_length_le hj]at hq
  exact hq q hm
 exact h n (by omega) s hs q hm
theorem sj_ {Y:List Stp} {j:Nat} {x s:Stp} (hx:Y[j]? = some x) (e:x.fact=s.fact) (hn:∀ k:Nat,k<j→∀ t,Y[k]? = some t→t.fact≠s.fact):bd_ Y s=j:=by
  have h1:bd_ Y x=bd_ Y s:=by unfold bd_;rw[e]
  rw[← h1]
  refine lJ_ hx fun hm=>?_
  obtain⟨t,ht,e2⟩:=List.mem_map.1 hm
  obtain⟨k,hk⟩:=List.getElem?_of_mem ht
  have hkl:=(List.getElem?_eq_some_iff.1 hk).1
  rw[List.length_take]at hkl
  rw[List.getElem?_take_of_lt (by omega)]at hk
  exact hn k (by omega) t hk (e2.trans e)
theorem lB_ (Y:List Stp) (yad:Option Addr) (ycap:Nat) (hl:Y.length≤1000000) (hfl:∀ s∈Y,s.frm.length≤1000000):Tri Tryz.prog 58 #[.agg #[.slice yad (List.length Y) ycap]] [] [af_ yad (List.flatMap Stp.cells Y),ax_ Y] (fun y:{b:Bool // (b=true↔en_ Y)}=>.bool y.1) (fun _=>[]) (fun _=>[]):=by
 refine w_ Tryz.func58 rfl rfl Tryz.ntmps58 rfl fun v0=>?_
 refine Zz 2 ?_
 refine as_ rfl rfl fun b1=>Zz 10 ?_
 refine Q_ (ι:={y:Nat // y≤List.length Y∧(∀ n:Nat,n<y→∀ s,Y[n]? = some s→∀ q∈s.frm,0≤q∧q<(n:Int))}) (fun y=>[(1,zp_ b1 0),(2,.bool false),(3,.int .i64 (y.1:Int))]) (fun y=>((b1,.cells #[.slice yad (List.length Y) ycap] 29 (0,0))::[])) (fun y=>[af_ yad (List.flatMap Stp.cells Y),ax_ Y]) (fun y=>List.length Y - y.1) ⟨(0:Nat),by simp,fun n hn=>by omega⟩ zl d_ zh ?_
 rintro ⟨i,hi_i,ho⟩
 dsimp only at hi_i ho ⊢
 refine Zi 7 (fun hr1=>?_) fun hr1=>?_
 ·refine Zz 10 ?_
  refine aQ_ (dN_ rfl rfl) rfl fun r2 hr2=>Zz 4 ?_
  have ho2:∀ n:Nat,n<List.length Y→∀ s,Y[n]? = some s→∀ q∈s.frm,0≤q∧q<(n:Int):=fun n hn=>ho n (by omega)
  exact al_ Tryz.results58 ⟨r2,tn_ ho2 hr2⟩ rfl m_ zt
 obtain⟨hlx1,x1,hx1,hmx1⟩:=zge (show i<List.length Y by omega)
 have hf1:=hfl x1 hmx1
 refine Zz 13 ?_
 refine Q_ (ι:={y:Nat // y≤List.length x1.frm∧(∀ q∈List.take y x1.frm,0≤q∧q<(i:Int))}) (fun y=>[(1,zp_ b1 0),(2,.bool false),(3,.int .i64 (i:Int)),(4,.int .i64 (y.1:Int))]) (fun y=>((b1,.cells #[.slice yad (List.length Y) ycap] 29 (0,0))::[])) (fun y=>[af_ yad (List.flatMap Stp.cells Y),ax_ Y]) (fun y=>List.length x1.frm - y.1) ⟨(0:Nat),by simp,by simp⟩ zl d_ zh ?_
 rintro ⟨j,hi_j,hq⟩
 dsimp only at hi_j hq ⊢
 refine Zi 11 (fun hr3=>?_) fun hr3=>?_
 ·refine Zz 11 ?_
  exact y_ ⟨i+1,hlx1,rw_ ho hx1 hq (by omega)⟩ (by dsimp only;omega) zl d_ zh
 obtain⟨hlx2,x2,hx2,hmx2⟩:=zge (show j<List.length x1.frm by omega)
 refine Zz 16 ?_
 refine i_ (X_ f_ o_ rfl rfl (fun v _ h=>G_ (n:=1) D_ (by decide) (by exact (h.2.1 x1 hmx1)) hx2) (by omega) (by first|omega|(simp;done))) rfl ?_
 refine i_ (at_ (ad:=x1.ad) O_ rfl (fun v _ h=>by exact (h.2.1 x1 hmx1)) (t_ D_ hx2 0 _ rfl)) rfl ?_
 refine Zi 0 (fun hr4=>?_) fun hr4=>?_
 ·refine Zz 16 ?_
  refine i_ (X_ f_ o_ rfl rfl (fun v _ h=>G_ (n:=1) D_ (by decide) (by exact (h.2.1 x1 hmx1)) hx2) (by omega) (by first|omega|(simp;done))) rfl ?_
  refine aJ_ rfl rfl (i_ (at_ (ad:=x1.ad) O_ rfl (fun v _ h=>by exact (h.2.1 x1 hmx1)) (t_ D_ hx2 0 _ rfl)) rfl (Zi 3 (fun hr5=>?_) fun hr5=>?_))
  ·refine Zz 12 ?_
   exact y_ ⟨j+1,hlx2,ht_ hq hx2 ⟨by omega,by omega⟩⟩ (by dsimp only;omega) zl d_ zh
  refine Zz 10 ?_
  exact al_ Tryz.results58 ⟨false,rx_ hx1 hmx2 (by omega)⟩ rfl m_ zt
 refine Zz 22 ?_
 exact al_ Tryz.results58 ⟨false,rx_ hx1 hmx2 (by omega)⟩ rfl m_ zt
theorem oY_ (l:List Int) (ad:Option Addr) (cap:Nat) (bd:Option Addr) (bcap:Nat) (hl:l.length≤1000000):Tri Tryz.prog 30 #[.slice ad (List.length l) cap,.slice bd (List.length l) bcap] [] [af_ ad (List.flatMap N_ l),af_ bd (List.flatMap N_ l)] (fun _:Unit=>.bool true) (fun _=>[]) (fun _=>[]):=by
 refine w_ Tryz.func30 rfl rfl Tryz.ntmps30 rfl fun v0=>?_
 refine Zi 12 (fun hr1=>?_) fun hr1=>?_
 ·refine Zz 12 ?_
  refine Q_ (ι:={y:Nat // y≤List.length l}) (fun y=>[(0,.slice ad (List.length l) cap),(1,.slice bd (List.length l) bcap),(4,.bool false),(5,.int .i64 (y.1:Int))]) (fun y=>([])) (fun y=>[af_ ad (List.flatMap N_ l),af_ bd (List.flatMap N_ l)]) (fun y=>List.length l - y.1) ⟨(0:Nat),by simp⟩ zl m_ zh ?_
  rintro ⟨i,hi_i⟩
  dsimp only at hi_i ⊢
  refine Zi 6 (fun hr2=>?_) fun hr2=>?_
  ·refine Zz 11 ?_
   exact al_ Tryz.results30 () rfl m_ zt
  obtain⟨hlx1,x1,hx1,hmx1⟩:=zge (show i<List.length l by omega)
  refine Zz 9 ?_
  refine s_ 0 [0,1,2,3,4,5,6,7,8] zk zs (Zi 8 (fun hr3=>?_) fun hr3=>?_)
  ·refine Zz 12 ?_
   exact y_ ⟨i+1,hlx1⟩ (by dsimp only;omega) zl m_ zh
  exact absurd rfl hr3
 exact absurd rfl hr1
theorem oB_ (Y:List Stp) (yad:Option Addr) (ycap:Nat) (hl:Y.length≤1256584717424):Tri Tryz.prog 25 #[.agg #[.slice yad (List.length Y) ycap]] [] [af_ yad (List.flatMap Stp.cells Y),ax_ Y] (fun b:{b:Bool // b=true→Y.length≤60∧∀ s∈Y,s.frm.length≤10}=>.bool b.1) (fun _=>[]) (fun _=>[]):=by
 refine w_ Tryz.func25 rfl rfl Tryz.ntmps25 rfl fun v0=>?_
 refine Zz 2 ?_
 refine as_ rfl rfl fun b1=>Zi 9 (fun hr1=>?_) fun hr1=>?_
 ·refine Zz 12 ?_
  refine Q_ (ι:={y:Nat // y≤List.length Y∧(∀ z∈List.take y Y,z.frm.length≤10)}) (fun y=>[(1,zp_ b1 0),(2,.bool false),(3,.int .i64 (y.1:Int))]) (fun y=>((b1,.cells #[.slice yad (List.length Y) ycap] 29 (0,0))::[])) (fun y=>[af_ yad (List.flatMap Stp.cells Y),ax_ Y]) (fun y=>List.length Y - y.1) ⟨(0:Nat),by simp,by simp⟩ zl d_ zh ?_
  rintro ⟨i,hi_i,hall⟩
  dsimp only at hi_i hall ⊢
  refine Zi 7 (fun hr2=>?_) fun hr2=>?_
  ·refine Zz 11 ?_
   exact al_ Tryz.results25 ⟨true,fun _=>⟨by omega,by rwa [List.take_of_length_le (by omega)]at hall⟩⟩ rfl m_ zt
  obtain⟨hlx1,x1,hx1,hmx1⟩:=zge (show i<List.length Y by omega)
  refine Zi 16 (fun hr3=>?_) fun hr3=>?_
  ·refine Zz 11 ?_
   exact y_ ⟨i+1,hlx1,ht_ hall hx1 (by omega)⟩ (by dsimp only;omega) zl d_ zh
  refine Zz 9 ?_
  exact al_ Tryz.results25 ⟨false,fun h=>by cases h⟩ rfl m_ zt
 refine Zz 9 ?_
 exact al_ Tryz.results25 ⟨false,fun h=>by cases h⟩ rfl m_ zt
end Go.Proofs.YtkeanlfhghlgiaaGreatDoor
namespace Go.Proofs.YtkeanlfhghlgiaaGreatDoor
open Go Go.Sx Go.Proofs
attribute [local irreducible] Code.wp wpList wpAnyH
open Go.Vs
theorem si_ {Y:List Stp} {j:Nat} {x s:Stp} (h:∀ k:Nat,k<j→∀ t,Y[k]? = some t→t.fact≠s.fact) (hx:Y[j]? = some x) (hn:x.fact≠s.fact):∀ k:Nat,k<j+1→∀ t,Y[k]? = some t→t.fact≠s.fact:=fun k hk t ht=>by
 by_cases e:k=j
 ·subst e;rw[hx]at ht;cases ht;exact hn
 exact h k (by omega) t ht
theorem tD_ (Y:List Stp) (yad:Option Addr) (ycap:Nat) (m:Nat) (s:Stp) (hs:Y[m]? = some s) (hl:Y.length≤1000000):Tri Tryz.prog 59 #[.agg #[.slice yad (List.length Y) ycap],.int .i64 (m:Int)] [] [af_ yad (List.flatMap Stp.cells Y),ax_ Y] (fun _:Unit=>.int .i64 (bd_ Y s:Int)) (fun _=>[]) (fun _=>[]):=by
 refine w_ Tryz.func59 rfl rfl Tryz.ntmps59 rfl fun v0=>?_
 have hml:=(List.getElem?_eq_some_iff.1 hs).1
 refine Zz 2 ?_
 refine as_ rfl rfl fun b1=>Zz 10 ?_
 refine Q_ (ι:={y:Nat // y≤m∧(∀ k:Nat,k<y→∀ t,Y[k]? = some t→t.fact≠s.fact)}) (fun y=>[(1,.int .i64 (m:Int)),(2,zp_ b1 0),(4,.int .i64 0),(5,.int .i64 (y.1:Int))]) (fun y=>((b1,.cells #[.slice yad (List.length Y) ycap] 29 (0,0))::[])) (fun y=>[af_ yad (List.flatMap Stp.cells Y),ax_ Y]) (fun y=>m - y.1) ⟨(0:Nat),Nat.zero_le _,fun k hk=>by omega⟩ zl d_ zh ?_
 rintro ⟨j,hj,hn⟩
 dsimp only at hj hn ⊢
 refine Zi 5 (fun hr1=>?_) fun hr1=>?_
 ·refine Zz 12 ?_
  exact al_ Tryz.results59 () (cq_ rfl (by rw[sj_ hs rfl (fun k hk=>hn k (by omega))])) m_ zt
 have hly:j<List.length Y:=by omega
 have hlx1:j<List.length Y:=hly
 obtain⟨x1,hx1⟩:∃ e0,Y[j]? = some e0:=⟨_,List.getElem?_eq_getElem hlx1⟩
 have hmx1:x1∈Y:=List.mem_of_getElem? hx1
 refine Zz 9 ?_
 refine s_ 0 [0,1,2,3,4,5,6,7,8,9,10,11,12] zk zs (Zz 5 ?_)
 refine R_ rfl (bi_ (ad:=yad) (us:=Fc.cells x1.fact) aX_ B_ rfl zf rfl (ep_ 1 (t_ Stp.cells_len hx1) x1.fact_cells)) rfl (Zz 5 ?_)
 refine R_ rfl (bi_ (ad:=yad) (us:=Fc.cells s.fact) aX_ B_ rfl zf rfl (ep_ 1 (t_ Stp.cells_len hs) s.fact_cells)) rfl (cI_ rfl (aH_ (p:=x1.fact) (q:=s.fact) rfl rfl) rfl fun r2 hr2=>Zz 3 ?_)
 cases r2
 ·replace hr2:=zdf hr2
  refine Zz 9 ?_
  exact y_ ⟨j+1,by omega,si_ hn hx1 hr2⟩ (by dsimp only;omega) zl d_ zh
 replace hr2:=zdt hr2
 refine Zz 8 ?_
 exact al_ Tryz.results59 () (cq_ rfl (by rw[sj_ hx1 hr2 hn])) m_ zt
end Go.Proofs.YtkeanlfhghlgiaaGreatDoor
namespace Go.Proofs.YtkeanlfhghlgiaaGreatDoor
open Go Go.Sx Go.Proofs
attribute [local irreducible] Code.wp wpList wpAnyH
open Go.Vs
theorem rh_ (Y:List Stp) (yad:Option Addr) (ycap:Nat) (hl:Y.length≤1000000) (hfl:∀ s∈Y,s.frm.length≤1000000):Tri Tryz.prog 29 #[.agg #[.slice yad (List.length Y) ycap]] [] [af_ yad (List.flatMap Stp.cells Y),ax_ Y] (fun y:{y:Int×Int // (en_ Y→y.2=0∧y.1=(bE_ Y).getD (Y.length - 1) 0∧1≤y.1∧y.1≤(Y.length:Int))∧(¬ en_ Y→y.2=1∧y.1=0)}=>.tuple #[.int .i64 y.1.1,.int .i64 y.1.2]) (fun _=>[]) (fun _=>[]):=by
 refine w_ Tryz.func29 rfl rfl Tryz.ntmps29 rfl fun v0=>?_
 refine Zz 2 ?_
 refine as_ rfl rfl fun b1=>Zz 8 ?_
 refine n_ (lB_ Y yad ycap hl hfl) rfl m_ zf rfl fun⟨od,hod⟩=>?_
 dsimp only
 refine i_ (bt_ rfl) rfl (Zz 2 ?_)
 cases od
 ·refine Zz 8 ?_
  exact iv_ Tryz.results29 ⟨(0,1),fun q=>absurd (hod.2 q) (by simp),fun _=>⟨rfl,rfl⟩⟩ rfl rfl rfl m_ zt
 obtain⟨hne,hord⟩:=hod.1 rfl
 refine Zz 8 ?_
 refine dn_ (n:=List.length Y) (by':=8) fd_ (z:=(.int .i64 0)) zk rfl (by decide) rfl rfl (by omega) (by simp only[maxLen];omega) rfl fun svD HrD hrD=>?_
 have hqD:aE_ 3 1 svD (List.length (el_ Y 0)) (List.flatMap N_ (el_ Y 0)) HrD:=by rw[lR_];rw[List.length_replicate,← ev_ N_];exact hrD
 refine Zz 4 ?_
 refine u_ (ak_ V_) (Zz 6 ?_)
 refine Q_ (ι:={y:Nat×Value×Hp // y.1≤List.length Y∧zR 3 1 N_ y.2.1 (el_ Y y.1) y.2.2}) (fun y=>[(1,zp_ b1 0),(2,.int .i64 0),(3,.int .i64 0),(4,y.1.2.1),(5,.int .i64 (y.1.1:Int))]) (fun y=>((b1,.cells #[.slice yad (List.length Y) ycap] 29 (0,0))::y.1.2.2)) (fun y=>[af_ yad (List.flatMap Stp.cells Y),ax_ Y]) (fun y=>List.length Y - y.1.1) ⟨((0:Nat),svD,HrD),by simp,hqD⟩ zl zp zh ?_
 rintro ⟨⟨i,sv_D,H_D⟩,hi_i,hr_D⟩
 dsimp only at hi_i hr_D ⊢
 refine Zi 7 (fun hr1=>?_) fun hr1=>?_
 ·rw[show i=List.length Y by omega]at hr_D
  refine Zz 6 ?_
  have hY0:=List.length_pos_iff.2 hne
  have hdl:=gt_ (Y:=Y) (Nat.le_refl _)
  obtain⟨w1,hw0⟩:∃ e0,(el_ Y (List.length Y))[(Int.toNat ((List.length (el_ Y (List.length Y)):Int) - 1))]? = some e0:=⟨_,List.getElem?_eq_getElem (by omega)⟩
  have hw1:(el_ Y (List.length Y))[List.length Y - 1]? = some w1:=by rw[show List.length Y - 1=(Int.toNat ((List.length (el_ Y (List.length Y)):Int) - 1)) by omega];exact hw0
  refine Zz 3 ?_
  refine i_ (ch_ hr_D f_ rfl) rfl (Zz 1 ?_)
  refine i_ (ah_ hr_D f_ o_ rfl rfl (by omega) (by omega)) rfl (i_ (av_ hr_D F_ O_ rfl (t_ D_ hw0 0 _ rfl)) rfl (Zz 5 ?_))
  exact iv_ Tryz.results29 ⟨(w1,0),fun q=>⟨rfl,lS_ q hw1⟩,fun q=>absurd ⟨hne,hord⟩ q⟩ rfl rfl rfl m_ zt
 obtain⟨hlx1,x1,hx1,hmx1⟩:=zge (show i<List.length Y by omega)
 have hd0:=pi_ hlx1
 have hf1:=hfl x1 hmx1
 have hdl:=gt_ (Y:=Y) hi_i
 refine Zz 11 ?_
 refine i_ (ah_ hr_D f_ o_ rfl rfl (by omega) (by omega)) rfl (bQ_ (k:=(i:Int).toNat*1+0) hr_D F_ o_ rfl rfl (by omega) rfl rfl fun Hr1 hr1=>?_)
 have hs1:=(cU_ N_ 1 D_ (el_ Y i) i 0 (0:Int) (1:Int) (.int .i64 1) hd0 (by decide) rfl).trans (congrArg _ (nH_ hlx1))
 have hq1:aE_ 3 1 sv_D (List.length (dd_ Y i 1)) (List.flatMap N_ (dd_ Y i 1)) Hr1:=by rw[← hs1,show List.length (dd_ Y i 1)=List.length (el_ Y i) from (by rw[dt_ hlx1,gt_ hi_i])];exact hr1
 refine Zz 2 ?_
 refine u_ (ak_ V_) (Zz 6 ?_)
 refine Q_ (ι:={y:Nat×Value×Hp // y.1≤List.length x1.frm∧zR 3 1 N_ y.2.1 (dd_ Y i (cL_ (bE_ (List.take i Y)) (List.take y.1 x1.frm))) y.2.2}) (fun y=>[(1,zp_ b1 0),(2,.int .i64 0),(3,.int .i64 0),(4,y.1.2.1),(5,.int .i64 (i:Int)),(6,.int .i64 (y.1.1:Int))]) (fun y=>((b1,.cells #[.slice yad (List.length Y) ycap] 29 (0,0))::y.1.2.2)) (fun y=>[af_ yad (List.flatMap Stp.cells Y),ax_ Y]) (fun y=>List.length x1.frm - y.1.1) ⟨((0:Nat),sv_D,Hr1),by simp,hq1⟩ zl zp zh ?_
 rintro ⟨⟨j,sv_D,H_D⟩,hi_j,hr_D⟩
 dsimp only at hi_j hr_D ⊢
 refine Zi 11 (fun hr2=>?_) fun hr2=>?_
 ·refine Zz 11 ?_
  exact y_ ⟨(i+1,sv_D,H_D),hlx1,(by rw[← nJ_ hx1];have q:=hr_D;rwa [show List.take j x1.frm=Stp.frm x1 from List.take_of_length_le (by omega)]at q)⟩ (by dsimp only;omega) zl (g_ d_ ay_) zh
 obtain⟨hlx2,x2,hx2,hmx2⟩:=zge (show j<List.length x1.frm by omega)
 have ho2:=hord i x1 hx1 x2 hmx2
 have hdi:=mB_ (m:=(cL_ (bE_ (List.take i Y)) (List.take j x1.frm))) hlx1
 have hdx:=nI_ (m:=(cL_ (bE_ (List.take i Y)) (List.take j x1.frm))) (j:=x2.toNat) hlx1 (by omega)
 have hgd:=pj_ (Y:=Y) (i:=i) (j:=x2.toNat) ⟨hne,hord⟩ (by omega)
 have hjl:=dt_ (m:=(cL_ (bE_ (List.take i Y)) (List.take j x1.frm))) hlx1
 refine Zz 7 ?_
 refine ae_ ((b1,.cells #[.slice yad (List.length Y) ycap] 29 (0,0))::[]) zk ?_
 refine s_ 6 [0,1,2,3,4,6,7,8,9,10,11,12,13,14,15,16] zk zs (Zz 4 ?_)
 refine R_ rfl (ah_ hr_D f_ o_ rfl rfl (by omega) (by omega)) rfl (Zz 8 ?_)
 refine R_ rfl (X_ f_ o_ rfl rfl (fun v _ h=>G_ (n:=1) D_ (by decide) (by exact (h.2.1 x1 hmx1)) hx2) (by omega) (by first|omega|(simp;done))) rfl ?_
 refine R_ rfl (at_ (ad:=x1.ad) O_ rfl (fun v _ h=>by exact (h.2.1 x1 hmx1)) (t_ D_ hx2 0 _ rfl)) rfl (R_ rfl (ah_ hr_D f_ o_ rfl rfl (by omega) (by omega)) rfl (cJ_ ?_))
 refine bW_ 5 17 rfl rfl zk ?_ ?_
 ·refine i_ (av_ hr_D F_ O_ rfl (t_ D_ hdi 0 _ rfl)) rfl (Zz 3 ?_)
  refine j_ 17 rfl zk (i_ (av_ hr_D F_ O_ rfl (t_ D_ hdx 0 _ rfl)) rfl (Zz 3 ?_))
  refine s_ 1 [18,19,20] zk zs (Zz 1 ?_)
  refine R_ rfl (cC_ rfl rfl) rfl (R_ rfl (ah_ hr_D f_ o_ rfl rfl (by omega) (by omega)) rfl (cJ_ (j_ 21 rfl zk (bQ_ (k:=(i:Int).toNat*1+0) hr_D F_ o_ rfl rfl (by omega) rfl rfl fun Hr2 hr2=>?_))))
  have hs2:=(cU_ N_ 1 D_ (dd_ Y i (cL_ (bE_ (List.take i Y)) (List.take j x1.frm))) i 0 (cL_ (bE_ (List.take i Y)) (List.take j x1.frm)) (max (cL_ (bE_ (List.take i Y)) (List.take j x1.frm)) (1+((bE_ (List.take i Y)).getD x2.toNat 0))) (.int .i64 (max (cL_ (bE_ (List.take i Y)) (List.take j x1.frm)) (1+((bE_ (List.take i Y)).getD x2.toNat 0)))) hdi (by decide) rfl).trans (congrArg _ (ho_ hlx1))
  have hq2:aE_ 3 1 sv_D (List.length (dd_ Y i (max (cL_ (bE_ (List.take i Y)) (List.take j x1.frm)) (1+((bE_ (List.take i Y)).getD x2.toNat 0))))) (List.flatMap N_ (dd_ Y i (max (cL_ (bE_ (List.take i Y)) (List.take j x1.frm)) (1+((bE_ (List.take i Y)).getD x2.toNat 0))))) Hr2:=by rw[← hs2,show List.length (dd_ Y i (max (cL_ (bE_ (List.take i Y)) (List.take j x1.frm)) (1+((bE_ (List.take i Y)).getD x2.toNat 0))))=List.length (dd_ Y i (cL_ (bE_ (List.take i Y)) (List.take j x1.frm))) from (by rw[dt_ hlx1,dt_ hlx1])];exact hr2
  refine Zz 5 ?_
  refine u_ (ak_ V_) (Zz 6 ?_)
  exact y_ ⟨(j+1,sv_D,Hr2),hlx2,(by rw[hN_ hx2];exact hq2)⟩ (by dsimp only;omega) zl zp zh
 refine i_ (av_ hr_D F_ O_ rfl (t_ D_ hdx 0 _ rfl)) rfl (Zz 3 ?_)
 refine s_ 4 [18] zk zs (Zz 2 ?_)
 refine j_ 5 rfl zk (i_ (av_ hr_D F_ O_ rfl (t_ D_ hdi 0 _ rfl)) rfl (Zz 3 ?_))
 refine s_ 1 [19,20] zk zs (R_ rfl (cC_ rfl rfl) rfl (R_ rfl (ah_ hr_D f_ o_ rfl rfl (by omega) (by omega)) rfl (cJ_ (j_ 21 rfl zk (bQ_ (k:=(i:Int).toNat*1+0) hr_D F_ o_ rfl rfl (by omega) rfl rfl fun Hr3 hr3=>?_)))))
 have hs3:=(cU_ N_ 1 D_ (dd_ Y i (cL_ (bE_ (List.take i Y)) (List.take j x1.frm))) i 0 (cL_ (bE_ (List.take i Y)) (List.take j x1.frm)) (max (cL_ (bE_ (List.take i Y)) (List.take j x1.frm)) (1+((bE_ (List.take i Y)).getD x2.toNat 0))) (.int .i64 (max (cL_ (bE_ (List.take i Y)) (List.take j x1.frm)) (1+((bE_ (List.take i Y)).getD x2.toNat 0)))) hdi (by decide) rfl).trans (congrArg _ (ho_ hlx1))
 have hq3:aE_ 3 1 sv_D (List.length (dd_ Y i (max (cL_ (bE_ (List.take i Y)) (List.take j x1.frm)) (1+((bE_ (List.take i Y)).getD x2.toNat 0))))) (List.flatMap N_ (dd_ Y i (max (cL_ (bE_ (List.take i Y)) (List.take j x1.frm)) (1+((bE_ (List.take i Y)).getD x2.toNat 0))))) Hr3:=by rw[← hs3,show List.length (dd_ Y i (max (cL_ (bE_ (List.take i Y)) (List.take j x1.frm)) (1+((bE_ (List.take i Y)).getD x2.toNat 0))))=List.length (dd_ Y i (cL_ (bE_ (List.take i Y)) (List.take j x1.frm))) from (by rw[dt_ hlx1,dt_ hlx1])];exact hr3
 refine Zz 5 ?_
 refine u_ (ak_ V_) (Zz 6 ?_)
 exact y_ ⟨(j+1,sv_D,Hr3),hlx2,(by rw[hN_ hx2];exact hq3)⟩ (by dsimp only;omega) zl zp zh
end Go.Proofs.YtkeanlfhghlgiaaGreatDoor
namespace Go.Proofs.YtkeanlfhghlgiaaGreatDoor
open Go Go.Sx Go.Proofs
attribute [local irreducible] Code.wp wpList wpAnyH
open Go.Vs
theorem eK_ {l:List Int} {i:Nat} {x:Int} (hx:l[i]? = some x):l.drop i=x::l.drop (i+1):=by
  obtain⟨h,e⟩:=List.getElem?_eq_some_iff.1 hx
  rw[List.drop_eq_getElem_cons h,e]
structure WI (l:List Int) (n:Int) (i:Nat) (F:List Int) (d:Bool):Prop where
  inc:F.Pairwise fun x y=>x<y
  low:∀ x∈F,∀ y∈l.drop i,x<y
  yes:d=true→(∀ x,x∈F↔x=n∨x∈l.take i)∧∀ y∈l.drop i,n<y
  no:d=false→(∀ x,x∈F↔x∈l.take i)∧∀ x∈l.take i,x<n
  len:F.length≤i+1∧(d=false→F.length≤i)
theorem WI.nil (l:List Int) (n:Int):WI l n 0 [] false:=⟨by simp,by simp,(fun e=>by cases e),fun _=>⟨by simp,by simp⟩,by simp⟩
section
variable {l F:List Int} {n x:Int} {i:Nat} {d:Bool}
theorem lX_ (hs:l.Pairwise fun x y=>x<y) (hx:l[i]? = some x):∀ y∈l.drop (i+1),x<y:=by
  have h:=hs.drop (i:=i)
  rw[eK_ hx,List.pairwise_cons]at h
  exact h.1
theorem WI.put (hs:l.Pairwise fun x y=>x<y) (h:WI l n i F d) (hx:l[i]? = some x):(F++[x]).Pairwise (fun x y=>x<y)∧∀ z∈F++[x],∀ y∈l.drop (i+1),z<y:=by
 have hl:=h.low
 rw[eK_ hx]at hl
 refine⟨List.pairwise_append.2 ⟨h.inc,by simp,fun a ha b hb=>?_⟩,fun z hz y hy=>?_⟩
 ·rw[List.mem_singleton]at hb;subst hb;exact hl a ha _ List.mem_cons_self
 rcases List.mem_append.1 hz with hz|hz
 ·exact hl z hz y (List.mem_cons_of_mem _ hy)
 rw[List.mem_singleton]at hz;subst hz;exact lX_ hs hx y hy
theorem gl_ (hx:l[i]? = some x) (z:Int):z∈l.take (i+1)↔z∈l.take i∨z=x:=by
  rw[List.take_add_one,hx,Option.toList_some,List.mem_append,List.mem_singleton]
theorem WI.skip (hs:l.Pairwise fun x y=>x<y) (h:WI l n i F d) (hx:l[i]? = some x) (hc:d=true∨x<n):WI l n (i+1) (F++[x]) d:=by
 obtain⟨p1,p2⟩:=h.put hs hx
 refine⟨p1,p2,fun e=>?_,fun e=>?_,?_⟩
 ·obtain⟨a,b⟩:=h.yes e
  rw[eK_ hx]at b
  refine⟨fun z=>?_,fun y hy=>b y (List.mem_cons_of_mem _ hy)⟩
  rw[List.mem_append,List.mem_singleton,a,gl_ hx,or_assoc]
 ·obtain⟨a,b⟩:=h.no e
  refine⟨fun z=>by rw[List.mem_append,List.mem_singleton,a,gl_ hx],fun z hz=>?_⟩
  rcases (gl_ hx z).1 hz with hz|rfl
  ·exact b z hz
  rcases hc with hc|hc
  ·rw[e]at hc;cases hc
  exact hc
 have:=h.len
 rw[List.length_append,List.length_singleton]
 exact⟨by omega,fun e=>by have:=this.2 e;omega⟩
theorem WI.same (hs:l.Pairwise fun x y=>x<y) (h:WI l n i F d) (hx:l[i]? = some x) (e:x=n):WI l n (i+1) (F++[x]) true:=by
 obtain⟨p1,p2⟩:=h.put hs hx
 subst e
 refine⟨p1,p2,fun _=>⟨fun z=>?_,lX_ hs hx⟩,(fun e=>by cases e),?_⟩
 ·rw[List.mem_append,List.mem_singleton,gl_ hx]
  cases d with
  | false=>rw[(h.no rfl).1];constructor<;>(intro q;rcases q with q|q<;>simp[q])<;>(rcases q with q|q<;>simp[q])
  | true =>
    have:=(h.yes rfl).2
    rw[eK_ hx]at this
    exact absurd (this x List.mem_cons_self) (Int.lt_irrefl x)
 have:=h.len
 rw[List.length_append,List.length_singleton]
 cases d with
 | false=>have:=this.2 rfl;exact⟨by omega,fun e=>by cases e⟩
 | true =>
   have:=(h.yes rfl).2
   rw[eK_ hx]at this
   exact absurd (this x List.mem_cons_self) (Int.lt_irrefl x)
theorem WI.ins (hs:l.Pairwise fun x y=>x<y) (h:WI l n i F false) (hx:l[i]? = some x) (hlt:n<x):WI l n (i+1) ((F++[n])++[x]) true:=by
 obtain⟨a,b⟩:=h.no rfl
 have ht:=lX_ hs hx
 have hl:=h.low
 rw[eK_ hx]at hl
 refine⟨?_,fun z hz y hy=>?_,fun _=>⟨fun z=>?_,fun y hy=>Int.lt_trans hlt (ht y hy)⟩,(fun e=>by cases e),?_⟩
 ·refine List.pairwise_append.2 ⟨List.pairwise_append.2 ⟨h.inc,by simp,fun u hu v hv=>?_⟩,by simp,fun u hu v hv=>?_⟩
  ·rw[List.mem_singleton]at hv;subst hv;exact b u ((a u).1 hu)
  rw[List.mem_singleton]at hv;subst hv
  rcases List.mem_append.1 hu with hu|hu
  ·exact hl u hu _ List.mem_cons_self
  rw[List.mem_singleton]at hu;subst hu;exact hlt
 ·rcases List.mem_append.1 hz with hz|hz
  ·rcases List.mem_append.1 hz with hz|hz
   ·exact hl z hz y (List.mem_cons_of_mem _ hy)
   rw[List.mem_singleton]at hz;subst hz;exact Int.lt_trans hlt (ht y hy)
  rw[List.mem_singleton]at hz;subst hz;exact ht y hy
 ·rw[List.mem_append,List.mem_append,List.mem_singleton,List.mem_singleton,a,gl_ hx]
  constructor
  ·rintro ((q|q)|q)<;>simp[q]
  rintro (q|q|q)<;>simp[q]
 have:=h.len.2 rfl
 rw[List.length_append,List.length_append,List.length_singleton,List.length_singleton]
 exact⟨by omega,fun e=>by cases e⟩
structure WithR (l:List Int) (n:Int) (F:List Int):Prop where
  inc:F.Pairwise fun x y=>x<y
  mem:∀ x,x∈F↔x=n∨x∈l
  len:F.length≤l.length+1
theorem WI.end1 (h:WI l n i F true) (hi:l.length≤i) (hl:i≤l.length):WithR l n F:=by
  have e:=(h.yes rfl).1
  rw[List.take_of_length_le hi]at e
  exact⟨h.inc,e,by have:=h.len.1;omega⟩
theorem WI.end0 (h:WI l n i F false) (hi:l.length≤i) (hl:i≤l.length):WithR l n (F++[n]):=by
 obtain⟨a,b⟩:=h.no rfl
 rw[List.take_of_length_le hi]at a b
 refine⟨List.pairwise_append.2 ⟨h.inc,by simp,fun u hu v hv=>?_⟩,fun x=>?_,?_⟩
 ·rw[List.mem_singleton]at hv;subst hv;exact b u ((a u).1 hu)
 ·rw[List.mem_append,List.mem_singleton,a,or_comm]
 have:=h.len.2 rfl
 rw[List.length_append,List.length_singleton];omega
end
theorem oP_ (l:List Int) (ad:Option Addr) (cap:Nat) (n:Int) (hl:l.length≤1000000) (hs:l.Pairwise fun x y=>x<y):Tri Tryz.prog 57 #[.slice ad (List.length l) cap,.int .i64 n] [] [af_ ad (List.flatMap N_ l)] (fun y:{y:List Int×Option Addr×Nat // WithR l n y.1∧y.1.length≤y.2.2∧y.2.2≤maxLen∧(y.2.1=none→y.2.2=0)}=>.slice y.1.2.1 y.1.1.length y.1.2.2) (fun _=>[]) (fun y=>[af_ y.1.2.1 (List.flatMap N_ y.1.1)]):=by
 refine w_ Tryz.func57 rfl rfl Tryz.ntmps57 rfl fun v0=>?_
 refine Zz 7 ?_
 refine dT_ f_ o_ rfl fun b1=>u_ d_ (Zz 15 ?_)
 refine Q_ (ι:={y:Nat×List Int×Bool×Value×Hp // y.1≤List.length l∧WI l n y.1 y.2.1 y.2.2.1∧zR 3 1 N_ y.2.2.2.1 y.2.1 y.2.2.2.2}) (fun y=>[(0,.slice ad (List.length l) cap),(1,.int .i64 n),(4,.slice none 0 0),(5,y.1.2.2.2.1),(6,.bool y.1.2.2.1),(7,.int .i64 (y.1.1:Int))]) (fun y=>(y.1.2.2.2.2)) (fun y=>[af_ ad (List.flatMap N_ l)]) (fun y=>List.length l - y.1.1) ⟨((0:Nat),([]:List Int),false,(.slice (some ⟨b1,0,none⟩) 0 0),[(b1,.cells #[] 3 (0,0))]),by simp,WI.nil l n,(gd_ b1 3 1)⟩ zl ay_ zh ?_
 rintro ⟨⟨i,F,d,sv_Rint,H_Rint⟩,hi_i,hW,hr_Rint⟩
 dsimp only at hi_i hW hr_Rint ⊢
 refine Zi 6 (fun hr1=>?_) fun hr1=>?_
 ·refine Zz 9 ?_
  refine i_ (bt_ rfl) rfl (Zz 2 ?_)
  cases d
  ·refine Zz 4 ?_
   refine S_ f_ o_ A_ rfl rfl rfl rfl rfl rfl fun b2=>?_
   refine aB_ (List.flatMap N_ [n]) d_ rfl ?_
   refine bs_ (news:=List.flatMap N_ [n]) bP_ hr_Rint rfl rfl (fun q=>by cases q) (by simp) ay_ (by rw[bV_ N_ 1 D_];rfl) zf (fun u hu=>ar_ bp_ hu) (by simp only[maxLen];(have:=hW.len.1;(try simp only[List.length_append,List.length_cons,List.length_nil]);omega)) (by (have:=hW.len.1;(try simp only[List.length_append,List.length_cons,List.length_nil]);omega)) rfl fun sv1 Hr1 hr1=>?_
   refine u_ List.perm_append_comm ?_
   have hq1:=zsa hr1
   refine Zz 10 ?_
   refine bk_ hq1 ay_ fun ad2 cp2 had2 hcad2 hmad2 hzad2=>?_
   exact al_ Tryz.results57 ⟨((F++[n]),ad2,cp2),hW.end0 (by omega) hi_i,hcad2,hmad2,hzad2⟩ (cS_ rfl had2) m_ zf
  refine Zz 10 ?_
  refine bk_ hr_Rint ay_ fun ad2 cp2 had2 hcad2 hmad2 hzad2=>?_
  exact al_ Tryz.results57 ⟨(F,ad2,cp2),hW.end1 (by omega) hi_i,hcad2,hmad2,hzad2⟩ (cS_ rfl had2) m_ zf
 obtain⟨hlx1,x1,hx1,hmx1⟩:=zge (show i<List.length l by omega)
 have hwl:=hW.len.1
 refine Zi 15 (fun hr2=>?_) fun hr2=>?_
 ·refine Zi 13 (fun hr3=>?_) fun hr3=>?_
  ·refine Zz 15 ?_
   refine S_ f_ o_ A_ rfl rfl rfl rfl rfl rfl fun b3=>?_
   refine aB_ (List.flatMap N_ [x1]) d_ rfl ?_
   refine bs_ (news:=List.flatMap N_ [x1]) bP_ hr_Rint rfl rfl (fun q=>by cases q) (by simp) ay_ (by rw[bV_ N_ 1 D_];rfl) zf (fun u hu=>ar_ bp_ hu) (by simp only[maxLen];(have:=hW.len.1;(try simp only[List.length_append,List.length_cons,List.length_nil]);omega)) (by (have:=hW.len.1;(try simp only[List.length_append,List.length_cons,List.length_nil]);omega)) rfl fun sv2 Hr2 hr2=>?_
   refine u_ List.perm_append_comm ?_
   have hq2:=zsa hr2
   refine Zz 9 ?_
   exact y_ ⟨(i+1,(F++[x1]),d,sv2,Hr2),hlx1,WI.skip hs hW hx1 (by first|exact .inl rfl|exact .inr (by omega)),hq2⟩ (by dsimp only;omega) zl ay_ (fun _ _ h=>h.2)
  refine Zz 4 ?_
  refine i_ (bt_ rfl) rfl (Zz 3 ?_)
  cases d
  ·refine Zz 5 ?_
   refine S_ f_ o_ A_ rfl rfl rfl rfl rfl rfl fun b4=>?_
   refine aB_ (List.flatMap N_ [n]) d_ rfl ?_
   refine bs_ (news:=List.flatMap N_ [n]) bP_ hr_Rint rfl rfl (fun q=>by cases q) (by simp) ay_ (by rw[bV_ N_ 1 D_];rfl) zf (fun u hu=>ar_ bp_ hu) (by simp only[maxLen];(have:=hW.len.1;(try simp only[List.length_append,List.length_cons,List.length_nil]);omega)) (by (have:=hW.len.1;(try simp only[List.length_append,List.length_cons,List.length_nil]);omega)) rfl fun sv3 Hr3 hr3=>?_
   refine u_ List.perm_append_comm ?_
   have hq3:=zsa hr3
   refine Zz 13 ?_
   refine S_ f_ o_ A_ rfl rfl rfl rfl rfl rfl fun b5=>?_
   refine aB_ (List.flatMap N_ [x1]) d_ rfl ?_
   refine bs_ (news:=List.flatMap N_ [x1]) bP_ hq3 rfl rfl (fun q=>by cases q) (by simp) ay_ (by rw[bV_ N_ 1 D_];rfl) zf (fun u hu=>ar_ bp_ hu) (by simp only[maxLen];(have:=hW.len.1;(try simp only[List.length_append,List.length_cons,List.length_nil]);omega)) (by (have:=hW.len.1;(try simp only[List.length_append,List.length_cons,List.length_nil]);omega)) rfl fun sv4 Hr4 hr4=>?_
   refine u_ List.perm_append_comm ?_
   have hq4:=zsa hr4
   refine Zz 9 ?_
   exact y_ ⟨(i+1,((F++[n])++[x1]),true,sv4,Hr4),hlx1,WI.ins hs hW hx1 (by omega),hq4⟩ (by dsimp only;omega) zl ay_ (fun _ _ h=>h.2.2)
  refine Zz 9 ?_
  refine S_ f_ o_ A_ rfl rfl rfl rfl rfl rfl fun b6=>?_
  refine aB_ (List.flatMap N_ [x1]) d_ rfl ?_
  refine bs_ (news:=List.flatMap N_ [x1]) bP_ hr_Rint rfl rfl (fun q=>by cases q) (by simp) ay_ (by rw[bV_ N_ 1 D_];rfl) zf (fun u hu=>ar_ bp_ hu) (by simp only[maxLen];(have:=hW.len.1;(try simp only[List.length_append,List.length_cons,List.length_nil]);omega)) (by (have:=hW.len.1;(try simp only[List.length_append,List.length_cons,List.length_nil]);omega)) rfl fun sv5 Hr5 hr5=>?_
  refine u_ List.perm_append_comm ?_
  have hq5:=zsa hr5
  refine Zz 9 ?_
  exact y_ ⟨(i+1,(F++[x1]),true,sv5,Hr5),hlx1,WI.skip hs hW hx1 (by first|exact .inl rfl|exact .inr (by omega)),hq5⟩ (by dsimp only;omega) zl ay_ (fun _ _ h=>h.2)
 refine Zi 15 (fun hr4=>?_) fun hr4=>?_
 ·refine Zz 15 ?_
  refine S_ f_ o_ A_ rfl rfl rfl rfl rfl rfl fun b7=>?_
  refine aB_ (List.flatMap N_ [x1]) d_ rfl ?_
  refine bs_ (news:=List.flatMap N_ [x1]) bP_ hr_Rint rfl rfl (fun q=>by cases q) (by simp) ay_ (by rw[bV_ N_ 1 D_];rfl) zf (fun u hu=>ar_ bp_ hu) (by simp only[maxLen];(have:=hW.len.1;(try simp only[List.length_append,List.length_cons,List.length_nil]);omega)) (by (have:=hW.len.1;(try simp only[List.length_append,List.length_cons,List.length_nil]);omega)) rfl fun sv6 Hr6 hr6=>?_
  refine u_ List.perm_append_comm ?_
  have hq6:=zsa hr6
  refine Zz 9 ?_
  exact y_ ⟨(i+1,(F++[x1]),true,sv6,Hr6),hlx1,WI.same hs hW hx1 hr2,hq6⟩ (by dsimp only;omega) zl ay_ (fun _ _ h=>h.2)
 refine Zz 4 ?_
 refine i_ (bt_ rfl) rfl (Zz 12 ?_)
 refine S_ f_ o_ A_ rfl rfl rfl rfl rfl rfl fun b8=>?_
 refine aB_ (List.flatMap N_ [x1]) d_ rfl ?_
 refine bs_ (news:=List.flatMap N_ [x1]) bP_ hr_Rint rfl rfl (fun q=>by cases q) (by simp) ay_ (by rw[bV_ N_ 1 D_];rfl) zf (fun u hu=>ar_ bp_ hu) (by simp only[maxLen];(have:=hW.len.1;(try simp only[List.length_append,List.length_cons,List.length_nil]);omega)) (by (have:=hW.len.1;(try simp only[List.length_append,List.length_cons,List.length_nil]);omega)) rfl fun sv7 Hr7 hr7=>?_
 refine u_ List.perm_append_comm ?_
 have hq7:=zsa hr7
 refine Zz 9 ?_
 exact y_ ⟨(i+1,(F++[x1]),true,sv7,Hr7),hlx1,WI.same hs hW hx1 hr2,hq7⟩ (by dsimp only;omega) zl ay_ (fun _ _ h=>h.2)
end Go.Proofs.YtkeanlfhghlgiaaGreatDoor
namespace Go.Proofs.YtkeanlfhghlgiaaGreatDoor
open Go Go.Sx Go.Proofs
attribute [local irreducible] Code.wp wpList wpAnyH
open Go.Vs
theorem pcs_eq {Y:List Stp} {L:List Int} (h1:L.Pairwise fun x y=>x<y) (h:∀ x,x∈L↔x∈hY_ Y):L=cl_ Y:=hc_ h1 (ru_ Y) fun x=>by rw[h];unfold cl_;rw[gO_,List.mem_mergeSort]
theorem axs_eq {p:List Pc} {Y:List Stp} {L:List Int} (h1:L.Pairwise fun x y=>x<y) (h:∀ x,x∈L↔x∈iJ_ p (cl_ Y)):L=iK_ p Y:=hc_ h1 (sy_ p Y) fun x=>by rw[h];unfold iK_;rw[gO_,List.mem_mergeSort]
theorem mL_ {L L2 R R2:List Int} {n:Int} (hW:WithR L n L2) (h:∀ x,x∈L↔x∈R) (e:R2=R++[n]):∀ x,x∈L2↔x∈R2:=fun x=>by rw[hW.mem,h,e,List.mem_append,List.mem_singleton,or_comm]
theorem lu_ (Y:List Stp) (yad:Option Addr) (ycap:Nat) (hl:Y.length≤1000000):Tri Tryz.prog 26 #[.agg #[.slice yad (List.length Y) ycap]] [] [af_ yad (List.flatMap Stp.cells Y)] (fun y:{y:Option Addr×Nat // True}=>.slice y.1.1 (cl_ Y).length y.1.2) (fun _=>[]) (fun y=>[af_ y.1.1 (List.flatMap N_ (cl_ Y))]):=by
 refine w_ Tryz.func26 rfl rfl Tryz.ntmps26 rfl fun v0=>?_
 refine Zz 2 ?_
 refine as_ rfl rfl fun b1=>Zz 5 ?_
 refine dT_ f_ o_ rfl fun b2=>u_ d_ (Zz 4 ?_)
 refine u_ (ak_ V_) (Zz 6 ?_)
 refine bk_ (gd_ b2 3 1) F_ fun la0 lc0 hla0 hcla0 hmla0 hzla0=>?_
 obtain⟨rfl,_,rfl⟩:=Value.slice.inj hla0
 refine Q_ (ι:={y:Nat×List Int×Option Addr×Nat // y.1≤List.length Y∧(y.2.1.Pairwise fun x y=>x<y)∧(∀ z,z∈y.2.1↔z∈hY_ (List.take y.1 Y))∧y.2.1.length≤y.1}) (fun y=>[(1,zp_ b1 0),(2,.slice none 0 0),(3,.slice y.1.2.2.1 (List.length y.1.2.1) y.1.2.2.2),(4,.int .i64 (y.1.1:Int))]) (fun y=>((b1,.cells #[.slice yad (List.length Y) ycap] 29 (0,0))::[])) (fun y=>[af_ yad (List.flatMap Stp.cells Y),af_ y.1.2.2.1 (List.flatMap N_ y.1.2.1)]) (fun y=>List.length Y - y.1.1) ⟨((0:Nat),([]:List Int),(some ⟨b2,0,none⟩),0),by simp,by simp,(fun z=>by simp[hY_,iJ_]),by simp⟩ zl d_ zf ?_
 rintro ⟨⟨i,L,la,lc⟩,hi_i,hLs,hLm,hLl⟩
 dsimp only at hi_i hLs hLm hLl ⊢
 refine Zi 7 (fun hr1=>?_) fun hr1=>?_
 ·refine Zz 12 ?_
  have hLe:L=cl_ Y:=pcs_eq hLs (by have h:=hLm;rwa [List.take_of_length_le (by omega)]at h)
  subst hLe
  exact al_ Tryz.results26 ⟨(la,lc),trivial⟩ rfl m_ zf
 obtain⟨hlx1,x1,hx1,hmx1⟩:=zge (show i<List.length Y by omega)
 refine Zi 15 (fun hr2=>?_) fun hr2=>?_
 ·refine Zz 11 ?_
  exact y_ ⟨(i+1,L,la,lc),hlx1,hLs,(fun z=>by rw[hB_ hx1,if_neg (by assumption),List.append_nil];exact hLm z),by dsimp only;omega⟩ (by dsimp only;omega) zl d_ zh
 refine Zz 11 ?_
 refine n_ (oP_ L la lc x1.piece (by omega) hLs) rfl m_ zf rfl fun⟨⟨L2,la2,lc2⟩,hW2,hc2,hm2,hz2⟩=>?_
 dsimp only
 dsimp only at hW2 hc2 hm2 hz2
 have hwl2:=hW2.len
 refine Zz 9 ?_
 exact y_ ⟨(i+1,L2,la2,lc2),hlx1,hW2.inc,mL_ hW2 hLm (by rw[hB_ hx1,if_pos (by assumption)]),by dsimp only;omega⟩ (by dsimp only;omega) zl d_ zf
end Go.Proofs.YtkeanlfhghlgiaaGreatDoor
namespace Go.Proofs.YtkeanlfhghlgiaaGreatDoor
open Go Go.Sx Go.Proofs
attribute [local irreducible] Code.wp wpList wpAnyH
open Go.Vs
theorem sA_ {p:List Pc} {Y:List Stp} {l l':List Int} {e e':Int} (h:AxR p Y l e) (h':AxR p Y l' e'):l=l'∧e=e':=by
 by_cases q:∀ s∈Y,kV_ p s
 ·obtain⟨a,b⟩:=h.1 q
  obtain⟨c,d⟩:=h'.1 q
  exact⟨b.trans d.symm,a.trans c.symm⟩
 obtain⟨a,b⟩:=h.2 q
 obtain⟨c,d⟩:=h'.2 q
 exact⟨b.trans d.symm,a.trans c.symm⟩
theorem pL_ (p:List Pc) (pad:Option Addr) (pcap:Nat) (Y:List Stp) (yad:Option Addr) (ycap:Nat) (hpl:p.length≤1099511627744) (hl:Y.length≤1000000):Tri Tryz.prog 27 #[.slice pad (List.length p) pcap,.agg #[.slice yad (List.length Y) ycap]] [] [af_ pad (List.flatMap Pc.cells p),af_ yad (List.flatMap Stp.cells Y)] (fun y:{y:List Int×Option Addr×Nat×Int // AxR p Y y.1 y.2.2.2}=>.tuple #[.slice y.1.2.1 y.1.1.length y.1.2.2.1,.int .i64 y.1.2.2.2]) (fun _=>[]) (fun y=>[af_ y.1.2.1 (List.flatMap N_ y.1.1)]):=by
 refine w_ Tryz.func27 rfl rfl Tryz.ntmps27 rfl fun v0=>?_
 refine Zz 2 ?_
 refine as_ rfl rfl fun b1=>Zz 11 ?_
 refine Q_ (ι:={y:Nat // y≤List.length Y∧(∀ z∈List.take y Y,kV_ p z)}) (fun y=>[(0,.slice pad (List.length p) pcap),(3,zp_ b1 0),(4,.slice none 0 0),(5,.int .i64 0),(6,.int .i64 (y.1:Int))]) (fun y=>((b1,.cells #[.slice yad (List.length Y) ycap] 29 (0,0))::[])) (fun y=>[af_ pad (List.flatMap Pc.cells p),af_ yad (List.flatMap Stp.cells Y)]) (fun y=>List.length Y - y.1) ⟨(0:Nat),by simp,by simp⟩ zl d_ zh ?_
 rintro ⟨i,hi_i,hok⟩
 dsimp only at hi_i hok ⊢
 refine Zi 7 (fun hr1=>?_) fun hr1=>?_
 ·have hok2:∀ z∈Y,kV_ p z:=by have h:=hok;rwa [List.take_of_length_le (by omega)]at h
  have hpk:=rt_ hok2
  refine Zz 7 ?_
  refine dT_ f_ o_ rfl fun b2=>u_ d_ (Zz 3 ?_)
  refine u_ (ak_ V_) (Zz 3 ?_)
  refine n_ (lu_ Y yad ycap (by omega)) rfl m_ zf rfl fun⟨⟨qa,qc⟩,_⟩=>?_
  dsimp only
  have hlen:=gg_ Y
  refine Zz 10 ?_
  refine bk_ (gd_ b2 3 1) F_ fun la0 lc0 hla0 hcla0 hmla0 hzla0=>?_
  obtain⟨rfl,_,rfl⟩:=Value.slice.inj hla0
  refine Q_ (ι:={y:Nat×List Int×Option Addr×Nat // y.1≤List.length (cl_ Y)∧(y.2.1.Pairwise fun x y=>x<y)∧(∀ z,z∈y.2.1↔z∈iJ_ p (List.take y.1 (cl_ Y)))∧y.2.1.length≤y.1}) (fun y=>[(0,.slice pad (List.length p) pcap),(3,zp_ b1 0),(4,.slice none 0 0),(5,.int .i64 0),(6,.int .i64 (i:Int)),(7,.slice y.1.2.2.1 (List.length y.1.2.1) y.1.2.2.2),(8,.slice qa (List.length (cl_ Y)) qc),(9,.int .i64 (y.1.1:Int))]) (fun y=>((b1,.cells #[.slice yad (List.length Y) ycap] 29 (0,0))::[])) (fun y=>[af_ qa (List.flatMap N_ (cl_ Y)),af_ pad (List.flatMap Pc.cells p),af_ yad (List.flatMap Stp.cells Y),af_ y.1.2.2.1 (List.flatMap N_ y.1.2.1)]) (fun y=>List.length (cl_ Y) - y.1.1) ⟨((0:Nat),([]:List Int),(some ⟨b2,0,none⟩),0),by simp,by simp,(fun z=>by simp[hY_,iJ_]),by simp⟩ zl d_ zf ?_
  rintro ⟨⟨k,L,la,lc⟩,hi_k,hLs,hLm,hLl⟩
  dsimp only at hi_k hLs hLm hLl ⊢
  refine Zi 6 (fun hr2=>?_) fun hr2=>?_
  ·refine Zz 13 ?_
   have hLe:L=iK_ p Y:=axs_eq hLs (by have h:=hLm;rwa [List.take_of_length_le (by omega)]at h)
   subst hLe
   exact iv_ Tryz.results27 ⟨(iK_ p Y,la,lc,0),pr_ hok2⟩ rfl rfl rfl m_ zf
  obtain⟨hlx2,x2,hx2,hmx2⟩:=zge (show k<List.length (cl_ Y) by omega)
  have hxo:=hpk _ hmx2
  obtain⟨z2,hzq⟩:∃ e0,p[(Int.toNat x2)]? = some e0:=⟨_,List.getElem?_eq_getElem (by omega)⟩
  refine Zi 17 (fun hr3=>?_) fun hr3=>?_
  ·refine Zz 11 ?_
   exact y_ ⟨(k+1,L,la,lc),hlx2,hLs,(fun z=>by rw[hO_ hx2 hzq,if_neg (by assumption),List.append_nil];exact hLm z),by dsimp only;omega⟩ (by dsimp only;omega) zl d_ zh
  refine Zz 13 ?_
  refine n_ (oP_ L la lc z2.frm (by omega) hLs) rfl m_ zf rfl fun⟨⟨L2,la2,lc2⟩,hW2,hc2,hm2,hz2⟩=>?_
  dsimp only
  dsimp only at hW2 hc2 hm2 hz2
  have hwl2:=hW2.len
  refine Zz 9 ?_
  exact y_ ⟨(k+1,L2,la2,lc2),hlx2,hW2.inc,mL_ hW2 hLm (by rw[hO_ hx2 hzq,if_pos (by assumption)]),by dsimp only;omega⟩ (by dsimp only;omega) zl d_ zf
 obtain⟨hlx1,x1,hx1,hmx1⟩:=zge (show i<List.length Y by omega)
 refine Zi 15 (fun hr4=>?_) fun hr4=>?_
 ·refine Zi 18 (fun hr5=>?_) fun hr5=>?_
  ·refine Zz 12 ?_
   exact y_ ⟨i+1,hlx1,ht_ hok hx1 ⟨by omega,by omega⟩⟩ (by dsimp only;omega) zl d_ zh
  refine Zz 11 ?_
  exact iv_ Tryz.results27 ⟨([],none,0,1),mD_ hmx1 (fun q=>by have:=q.1;have:=q.2;omega)⟩ rfl rfl rfl m_ (fun v _ h=>by exact⟨.inl rfl,trivial⟩)
 refine Zz 21 ?_
 exact iv_ Tryz.results27 ⟨([],none,0,1),mD_ hmx1 (fun q=>by have:=q.1;have:=q.2;omega)⟩ rfl rfl rfl m_ (fun v _ h=>by exact⟨.inl rfl,trivial⟩)
end Go.Proofs.YtkeanlfhghlgiaaGreatDoor
namespace Go.Proofs.YtkeanlfhghlgiaaGreatDoor
open Go Go.Sx Go.Proofs
attribute [local irreducible] Code.wp wpList wpAnyH
open Go.Vs
theorem px_ {l Y Z:List Stp} (hl:∀ n,NdS l n→∃ s,l[n]? = some s) (h:gS_ l Y) (h':gS_ l Z):SameS Y Z:=by
  obtain⟨O,h⟩:=h
  obtain⟨O',h'⟩:=h'
  have hO:O=O':=hc_ h.inc h'.inc fun x=>⟨fun hx=>by obtain⟨n,rfl,hn⟩:=h.nat x hx;exact h'.all n hn,fun hx=>by obtain⟨n,rfl,hn⟩:=h'.nat x hx;exact h.all n hn⟩
  subst hO
  refine⟨by rw[h.len,h'.len],fun i s t hs ht=>?_⟩
  have hi:=(List.getElem?_eq_some_iff.1 hs).1
  have hOi:O[i]? = some (O[i]'(by rw[← h.len];exact hi)):=List.getElem?_eq_getElem _
  obtain⟨n,e,hn⟩:=h.nat _ (List.mem_of_getElem? hOi)
  rw[e]at hOi
  obtain⟨u,hu⟩:=hl n hn
  obtain⟨a1,a2,a3,a4⟩:=h.step i n u s hOi hu hs
  obtain⟨b1,b2,b3,b4⟩:=h'.step i n u t hOi hu ht
  exact⟨a1.trans b1.symm,a2.trans b2.symm,a3.trans b3.symm,a4.trans b4.symm⟩
theorem oW_ {l:List Stp} {n:Nat} (h:NdS l n):∃ s,l[n]? = some s:=⟨_,List.getElem?_eq_getElem (ib_ h)⟩
theorem pD_:SameS [] []:=⟨rfl,fun i s t h=>by simp at h⟩
end Go.Proofs.YtkeanlfhghlgiaaGreatDoor
namespace Go.Proofs.YtkeanlfhghlgiaaGreatDoor
open Go Go.Sx Go.Proofs
attribute [local irreducible] Code.wp wpList wpAnyH
open Go.Vs
theorem pA_ {Y V:List Stp} {a b:Nat} (h:gS_ Y V) (hl:Y.length≤a) (hf:∀ s∈Y,s.frm.length≤b):V.length≤a∧∀ s∈V,s.frm.length≤b:=by
 obtain⟨O,h⟩:=h
 refine⟨?_,fun s hs=>?_⟩
 ·have h2:∀ x∈O,x∈(List.range Y.length).map Int.ofNat:=fun x hx=>by
    obtain⟨n,e,hn⟩:=h.nat x hx
    exact List.mem_map.2 ⟨n,List.mem_range.2 (ib_ hn),e.symm⟩
  have:=eT_ (ie_ h.inc) h2
  simp at this
  rw[h.len];omega
 obtain⟨j,hj⟩:=List.getElem?_of_mem hs
 have hjl:=(List.getElem?_eq_some_iff.1 hj).1
 have hO:O[j]? = some (O[j]'(by rw[← h.len];exact hjl)):=List.getElem?_eq_getElem _
 obtain⟨n,e,hn⟩:=h.nat _ (List.mem_of_getElem? hO)
 rw[e]at hO
 obtain⟨u,hu⟩:=oW_ hn
 rw[(h.step j n u s hO hu hj).2.2.2,List.length_map]
 exact hf u (List.mem_of_getElem? hu)
theorem tZ_ {p:List Pc} {Y:List Stp} {l:List Int} {e:Int} (h:AxR p Y l e):l.length≤Y.length:=by
 by_cases q:∀ s∈Y,kV_ p s
 ·rw[(h.1 q).2];exact qu_ p Y
 rw[(h.2 q).2];simp
def qy_ (Y V:List Stp) (e:Int):Prop:=(en_ Y→e=0∧gS_ Y V)∧(¬ en_ Y→e=1∧V=[])
theorem sS_ {Y V W:List Stp} {e e':Int} (h:qy_ Y V e) (h':qy_ Y W e'):e=e'∧SameS V W:=by
 by_cases q:en_ Y
 ·obtain⟨a,b⟩:=h.1 q
  obtain⟨c,d⟩:=h'.1 q
  exact⟨a.trans c.symm,px_ (fun n hn=>oW_ hn) b d⟩
 obtain⟨a,b⟩:=h.2 q
 obtain⟨c,d⟩:=h'.2 q
 subst b d
 exact⟨a.trans c.symm,pD_⟩
theorem sT_ {Y V:List Stp} {e:Int} {a b:Nat} (h:qy_ Y V e) (hl:Y.length≤a) (hf:∀ s∈Y,s.frm.length≤b):V.length≤a∧∀ s∈V,s.frm.length≤b:=by
 by_cases q:en_ Y
 ·exact pA_ (h.1 q).2 hl hf
 rw[(h.2 q).2];simp
def uj_ (Y:List Stp) (n e:Int):Prop:=(en_ Y→e=0∧n=(bE_ Y).getD (Y.length - 1) 0∧1≤n∧n≤(Y.length:Int))∧(¬ en_ Y→e=1∧n=0)
theorem tO_ {Y:List Stp} {n m e e':Int} (h:uj_ Y n e) (h':uj_ Y m e'):n=m∧e=e':=by
 by_cases q:en_ Y
 ·obtain⟨a,b,_⟩:=h.1 q
  obtain⟨c,d,_⟩:=h'.1 q
  exact⟨b.trans d.symm,a.trans c.symm⟩
 obtain⟨a,b⟩:=h.2 q
 obtain⟨c,d⟩:=h'.2 q
 exact⟨b.trans d.symm,a.trans c.symm⟩
def RTrimC:Prop:=∀ (Y:List Stp) (yad:Option Addr) (ycap:Nat),Y.length≤1000000→(∀ s∈Y,s.frm.length≤1000000)→Tri Tryz.prog 28 #[.agg #[.slice yad (List.length Y) ycap]] [] [af_ yad (List.flatMap Stp.cells Y),ax_ Y] (fun y:{y:List Stp×Option Addr×Nat×Int // qy_ Y y.1 y.2.2.2}=>.tuple #[.agg #[.slice y.1.2.1 y.1.1.length y.1.2.2.1],.int .i64 y.1.2.2.2]) (fun _=>[]) (fun y=>[af_ y.1.2.1 (List.flatMap Stp.cells y.1.1),ax_ y.1.1])
set_option maxHeartbeats 2000000 in
theorem sU_ (hRT:RTrimC) (p:List Pc) (pad:Option Addr) (pcap:Nat) (Y:List Stp) (yad:Option Addr) (ycap:Nat) (hpl:p.length≤1099511627744) (hpbig:∀ x∈p,x.big) (hyl:Y.length≤1256584717424):Tri Tryz.prog 9 #[.slice pad (List.length p) pcap,.agg #[.slice yad (List.length Y) ycap]] [] [af_ pad (List.flatMap Pc.cells p),af_ yad (List.flatMap Stp.cells Y),ax_ Y,jt_] (fun _:Unit=>.bool true) (fun _=>[]) (fun _=>[]):=by
 refine w_ Tryz.func9 rfl rfl Tryz.ntmps9 rfl fun v0=>?_
 refine Zz 2 ?_
 refine as_ rfl rfl fun b1=>Zz 6 ?_
 refine n_ (qT_) rfl m_ zf rfl fun _=>i_ (bt_ rfl) rfl (Zz 9 ?_)
 refine n_ (tH_ p pad pcap 40 hpl hpbig) rfl m_ zf rfl fun⟨fw,hfw⟩=>?_
 dsimp only
 refine i_ (bt_ rfl) rfl (Zz 1 ?_)
 cases fw
 ·refine Zz 13 ?_
  exact al_ Tryz.results9 () rfl m_ zt
 obtain⟨h40q,hsm⟩:=hfw rfl
 refine Zz 3 ?_
 refine n_ (oB_ Y yad ycap hyl) rfl m_ zf rfl fun⟨gw,hgw⟩=>?_
 dsimp only
 refine aJ_ rfl rfl (i_ (bt_ rfl) rfl (Zz 3 ?_))
 cases gw
 ·refine Zz 7 ?_
  exact al_ Tryz.results9 () rfl m_ zt
 obtain⟨hY60,hY10⟩:=hgw rfl
 have hYf:∀ s∈Y,s.frm.length≤1000000:=fun s hs=>Nat.le_trans (hY10 s hs) (by decide)
 refine Zz 5 ?_
 refine s_ 4 [0,2] zk zs (Zz 3 ?_)
 refine j_ 1 rfl zk (n_ (nf_ Y yad ycap (by omega)) rfl m_ zf rfl fun⟨⟨lad,lcp⟩,hlc,hlm,hlz⟩=>?_)
 dsimp only
 dsimp only at hlc hlm hlz
 have hlen:=gg_ Y
 refine Zz 3 ?_
 refine j_ 3 rfl zk (n_ (lu_ Y yad ycap (by omega)) rfl m_ zf rfl fun⟨⟨qa,qc⟩,_⟩=>?_)
 dsimp only
 have hlen:=gg_ Y
 refine Zz 3 ?_
 refine s_ 0 [4,5] zk zs (Zz 9 ?_)
 refine n_ (sz_ p pad pcap Y yad ycap (by omega) (by omega)) rfl m_ zf rfl fun⟨⟨La,aa,ac,e1⟩,hX1,hc1,hm1,hz1⟩=>?_
 dsimp only
 dsimp only at hX1 hc1 hm1 hz1
 have hal:=tZ_ hX1
 refine Zz 11 ?_
 refine n_ (pL_ p pad pcap Y yad ycap (by omega) (by omega)) rfl m_ zf rfl fun⟨⟨Lb,ba,bc,e2⟩,hX2⟩=>?_
 dsimp only
 dsimp only at hX2
 obtain⟨hla,hle⟩:=sA_ hX1 hX2
 subst hla
 subst hle
 refine Zz 10 ?_
 refine n_ (nY_ Y yad ycap (by omega) hYf) rfl m_ zf rfl fun⟨⟨V,vad,vcap,e3⟩,hV1,hV2⟩=>?_
 dsimp only
 dsimp only at hV1 hV2
 have hVA:qy_ Y V e3:=⟨fun q=>⟨(hV1 q).1,(hV1 q).2.1⟩,fun q=>⟨(hV2 q).1,(hV2 q).2.1⟩⟩
 obtain⟨hVl,hVf⟩:=sT_ hVA hY60 hY10
 refine Zz 3 ?_
 refine J_ cp_ rfl fun b2=>z_ 0 aT_ rfl rfl rfl rfl rfl rfl (Zz 6 ?_)
 refine n_ (hRT Y yad ycap (by omega) hYf) rfl m_ zf rfl fun⟨⟨W,wad,wcap,e4⟩,hWA⟩=>?_
 dsimp only
 dsimp only at hWA
 obtain⟨he34,hSS⟩:=sS_ hVA hWA
 subst he34
 refine Zz 3 ?_
 refine J_ cp_ rfl fun b3=>z_ 0 aT_ rfl rfl rfl rfl rfl rfl (Zz 6 ?_)
 refine n_ (tN_ Y yad ycap (by omega) hYf) rfl m_ zf rfl fun⟨⟨n5,e5⟩,hD1,hD2⟩=>?_
 dsimp only
 have hDA:uj_ Y n5 e5:=⟨hD1,hD2⟩
 refine Zz 10 ?_
 refine n_ (rh_ Y yad ycap (by omega) hYf) rfl m_ zf rfl fun⟨⟨n6,e6⟩,hD3,hD4⟩=>?_
 dsimp only
 have hDB:uj_ Y n6 e6:=⟨hD3,hD4⟩
 obtain⟨hn56,he56⟩:=tO_ hDA hDB
 subst hn56
 subst he56
 refine Zz 11 ?_
 refine n_ (oY_ (cl_ Y) lad lcp qa qc (by omega)) rfl m_ zf rfl fun _=>Zz 6 ?_
 refine n_ (oY_ La aa ac ba bc (by omega)) rfl m_ zf rfl fun _=>Zi 7 (fun hr1=>?_) fun hr1=>?_
 ·exact absurd rfl hr1
 refine Zi 7 (fun hr2=>?_) fun hr2=>?_
 ·exact absurd rfl hr2
 refine Zz 7 ?_
 refine n_ (th_ V vad vcap W wad wcap hSS (by omega) (fun s hs=>Nat.le_trans (hVf s hs) (by decide))) rfl m_ zf rfl fun _=>Zi 7 (fun hr3=>?_) fun hr3=>?_
 ·exact absurd rfl hr3
 refine Zz 7 ?_
 refine aQ_ (dA_ rfl rfl) rfl fun r4 hr4=>Zz 5 ?_
 exact al_ Tryz.results9 () (x_ rfl (by rw[← hr4];simp)) m_ zt
end Go.Proofs.YtkeanlfhghlgiaaGreatDoor
namespace Go.Proofs.YtkeanlfhghlgiaaGreatDoor
open Go Go.Sx Go.Proofs
attribute [local irreducible] Code.wp wpList wpAnyH
open Go.Vs
def MkS (Y:List Stp) (m j:Nat):Prop:=∃ s q t,Y[m]? = some s∧q∈s.frm∧Y[Int.toNat q]? = some t∧bd_ Y t=j
structure MS (Y:List Stp) (bs:List Bool) (k:Nat):Prop where
  len:bs.length=Y.length
  hi:∀ j,k≤j→(bs[j]? = some true↔NdS Y j)
  lo:∀ j,j<k→(bs[j]? = some true↔(∃ x,Y[Y.length - 1]? = some x∧bd_ Y x=j)∨∃ m,k≤m∧NdS Y m∧MkS Y m j)
section
variable {Y V:List Stp} {bs cs:List Bool} {n i:Nat} {s x y:Stp} {O pl:List Int}
theorem rN_ (hO:en_ Y) {m j:Nat} (h:MkS Y m j):j<m:=by
  obtain⟨s,q,t,hs,hq,ht,rfl⟩:=h
  have h1:=hO.2 m s hs q hq
  have h2:=gL_ ht
  omega
theorem mkS_nd {m j:Nat} (hm:NdS Y m) (h:MkS Y m j):NdS Y j:=by
  obtain⟨s,q,t,hs,hq,ht,rfl⟩:=h
  exact .step hm hs hq ht
theorem rK_ {j:Nat} (h:NdS Y j):(∃ x,Y[Y.length - 1]? = some x∧bd_ Y x=j)∨∃ m,NdS Y m∧MkS Y m j:=by
  cases h with
  | last h=>exact .inl ⟨_,h,rfl⟩
  | step hm hs hq ht=>exact .inr ⟨_,hm,_,_,_,hs,hq,ht,rfl⟩
theorem MS.start (hO:en_ Y) (hx:Y[Y.length - 1]? = some x):MS Y ((List.replicate Y.length false).set (bd_ Y x) true) (bd_ Y x+1):=by
 have hl:=hI_ (List.mem_of_getElem? hx)
 refine⟨by simp,fun j hj=>?_,fun j hj=>?_⟩
 ·rw[List.getElem?_set,if_neg (by omega),List.getElem?_replicate]
  constructor
  ·intro q;split at q<;>cases q
  intro q;have:=kr_ hO.2 hx q;omega
 rw[List.getElem?_set]
 by_cases e:bd_ Y x=j
 ·rw[if_pos e,if_pos (by simpa using hl)]
  exact⟨fun _=>.inl ⟨x,hx,e⟩,fun _=>rfl⟩
 rw[if_neg e,List.getElem?_replicate,if_pos (by omega)]
 constructor
 ·intro q;cases q
 rintro (⟨z,hz,q⟩|⟨m,h1,h2,_⟩)
 ·rw[hx]at hz;cases hz;exact absurd q e
 have:=kr_ hO.2 hx h2;omega
theorem MS.nd (hO:en_ Y) (h:MS Y bs (n+1)):bs[n]? = some true↔NdS Y n:=by
 rw[h.lo n (by omega)]
 constructor
 ·rintro (⟨z,hz,rfl⟩|⟨m,_,h1,h2⟩)
  ·exact .last hz
  exact mkS_nd h1 h2
 intro q
 rcases rK_ q with q|⟨m,h1,h2⟩
 ·exact .inl q
 exact .inr ⟨m,by have:=rN_ hO h2;omega,h1,h2⟩
theorem MS.miss (hO:en_ Y) (h:MS Y bs (n+1)) (hn:bs[n]? = some false) (hl:cs.length=bs.length) (hc:∀ j:Nat,cs[j]? = some true↔bs[j]? = some true):MS Y cs n:=by
 have hnd:¬ NdS Y n:=fun q=>by rw[← h.nd hO,hn]at q;cases q
 refine⟨hl.trans h.len,fun j hj=>?_,fun j hj=>?_⟩
 ·rw[hc]
  by_cases e:j=n
  ·subst e;exact h.nd hO
  exact h.hi j (by omega)
 rw[hc,h.lo j (by omega)]
 refine or_congr_right ⟨fun⟨m,h1,h2⟩=>⟨m,by omega,h2⟩,fun⟨m,h1,h2⟩=>⟨m,?_,h2⟩⟩
 by_cases e:m=n
 ·subst e;exact absurd h2.1 hnd
 omega
theorem MS.hit (hO:en_ Y) (h:MS Y bs (n+1)) (hn:bs[n]? = some true) (hs:Y[n]? = some s) (hl:cs.length=bs.length) (hc:∀ j:Nat,cs[j]? = some true↔bs[j]? = some true∨∃ q∈s.frm,∃ t,Y[Int.toNat q]? = some t∧bd_ Y t=j):MS Y cs n:=by
 have hnd:NdS Y n:=(h.nd hO).1 hn
 have hmk:∀ j,(∃ q∈s.frm,∃ t,Y[Int.toNat q]? = some t∧bd_ Y t=j)↔MkS Y n j:=fun j=>⟨fun⟨q,hq,t,ht,e⟩=>⟨s,q,t,hs,hq,ht,e⟩,fun⟨s',q,t,hs',hq,ht,e⟩=>by rw[hs]at hs';cases hs';exact⟨q,hq,t,ht,e⟩⟩
 refine⟨hl.trans h.len,fun j hj=>?_,fun j hj=>?_⟩
 ·rw[hc,hmk]
  by_cases e:j=n
  ·subst e
   exact⟨fun _=>hnd,fun _=>.inl hn⟩
  rw[h.hi j (by omega)]
  exact⟨fun q=>q.elim id fun q=>by have:=rN_ hO q;omega,.inl⟩
 rw[hc,hmk,h.lo j (by omega),or_assoc]
 refine or_congr_right ⟨?_,?_⟩
 ·rintro (⟨m,h1,h2⟩|h1)
  ·exact⟨m,by omega,h2⟩
  exact⟨n,Nat.le_refl _,hnd,h1⟩
 rintro ⟨m,h1,h2,h3⟩
 by_cases e:m=n
 ·subst e;exact .inr h3
 exact .inl ⟨m,by omega,h2,h3⟩
theorem nq_ {k:Nat} {fr:List Int} {q:Int} {t:Stp} (hc:∀ j:Nat,cs[j]? = some true↔bs[j]? = some true∨∃ q∈fr.take k,∃ t,Y[Int.toNat q]? = some t∧bd_ Y t=j) (hq:fr[k]? = some q) (ht:Y[Int.toNat q]? = some t) (hl:bd_ Y t<cs.length):∀ j:Nat,(cs.set (bd_ Y t) true)[j]? = some true↔bs[j]? = some true∨∃ q∈fr.take (k+1),∃ t,Y[Int.toNat q]? = some t∧bd_ Y t=j:=fun j=>by
 rw[List.take_add_one,hq,Option.toList_some,List.getElem?_set]
 by_cases e:bd_ Y t=j
 ·rw[if_pos e,if_pos hl]
  exact⟨fun _=>.inr ⟨q,by simp,t,ht,e⟩,fun _=>rfl⟩
 rw[if_neg e,hc]
 constructor
 ·rintro (h|⟨q',h1,h2⟩)
  ·exact .inl h
  exact .inr ⟨q',List.mem_append_left _ h1,h2⟩
 rintro (h|⟨q',h1,t',h2,h3⟩)
 ·exact .inl h
 rcases List.mem_append.1 h1 with h1|h1
 ·exact .inr ⟨q',h1,t',h2,h3⟩
 rw[List.mem_singleton]at h1;subst h1;rw[ht]at h2;cases h2;exact absurd h3 e
structure YS (Y:List Stp) (i:Nat) (O pl:List Int) (V:List Stp):Prop where
  inc:O.Pairwise (·<·)
  mem:∀ z,z∈O↔∃ n:Nat,z=n∧n<i∧NdS Y n
  pln:pl.length=Y.length
  plc:∀ (j:Nat) q,O[j]? = some q→pl[q.toNat]? = some (j:Int)
  len:V.length=O.length
  step:∀ (j n:Nat) s y,O[j]? = some (n:Int)→Y[n]? = some s→V[j]? = some y→y.rule=s.rule∧y.fact=s.fact∧y.piece=s.piece∧y.frm=s.frm.map fun q=>pix O (hF Y q)
theorem YS.nil (Y:List Stp):YS Y 0 [] (List.replicate Y.length 0) []:=⟨by simp,fun z=>by simp,by simp,fun j q h=>by simp at h,rfl,fun j n s y h=>by simp at h⟩
theorem YS.skip (h:YS Y i O pl V) (hn:¬ NdS Y i):YS Y (i+1) O pl V:=⟨h.inc,fun z=>by
 rw[h.mem]
 refine⟨fun⟨n,e,h1,h2⟩=>⟨n,e,by omega,h2⟩,fun⟨n,e,h1,h2⟩=>⟨n,e,?_,h2⟩⟩
 by_cases q:n=i
 ·subst q;exact absurd h2 hn
 omega,h.pln,h.plc,h.len,h.step⟩
theorem YS.prem (hO:en_ Y) (h:YS Y i O pl V) (hn:NdS Y n) (hni:n≤i) (hs:Y[n]? = some s) {q:Int} (hq:q∈s.frm):hF Y q∈O:=by
  have ho:=hO.2 n s hs q hq
  have hnl:=(List.getElem?_eq_some_iff.1 hs).1
  have ht:Y[q.toNat]? = some (Y[q.toNat]'(by omega)):=List.getElem?_eq_getElem (by omega)
  rw[kD_ ht,h.mem]
  exact⟨_,rfl,by have:=gL_ ht;omega,.step hn hs hq ht⟩
theorem YS.at (hO:en_ Y) (h:YS Y i O pl V) (hn:NdS Y i) (hs:Y[i]? = some s) {q:Int} (hq:q∈s.frm) {t:Stp} (ht:Y[q.toNat]? = some t):pl[bd_ Y t]? = some (pix O (hF Y q)):=by
  have hm:=h.prem hO hn (Nat.le_refl _) hs hq
  rw[kD_ ht]at hm ⊢
  obtain⟨j,hj⟩:=List.getElem?_of_mem hm
  have:=h.plc j _ hj
  rw[Int.toNat_natCast]at this
  rw[this,mg_ h.inc hj]
theorem tk_ {z:Int} {w:Int} (h:z∈O):pix (O++[w]) z=pix O z:=by
  unfold pix
  rw[List.idxOf_append,if_pos h]
theorem YS.put (hO:en_ Y) (h:YS Y i O pl V) (hn:NdS Y i) (hs:Y[i]? = some s) (hy:y.rule=s.rule∧y.fact=s.fact∧y.piece=s.piece∧y.frm=s.frm.map fun q=>pix O (hF Y q)):YS Y (i+1) (O++[(i:Int)]) (pl.set i (V.length:Int)) (V++[y]):=by
 have hil:=(List.getElem?_eq_some_iff.1 hs).1
 have hlt:∀ z∈O,z<(i:Int):=fun z hz=>by obtain⟨n,e,h1,_⟩:=(h.mem z).1 hz;omega
 refine⟨List.pairwise_append.2 ⟨h.inc,by simp,fun a ha b hb=>by rw[List.mem_singleton]at hb;subst hb;exact hlt a ha⟩,fun z=>?_,by rw[List.length_set];exact h.pln,fun j q hj=>?_,by simp[h.len],fun j n s' y' hj hs' hy'=>?_⟩
 ·rw[List.mem_append,List.mem_singleton,h.mem]
  constructor
  ·rintro (⟨n,e,h1,h2⟩|e)
   ·exact⟨n,e,by omega,h2⟩
   exact⟨i,e,by omega,hn⟩
  rintro ⟨n,e,h1,h2⟩
  by_cases q:n=i
  ·subst q;exact .inr e
  exact .inl ⟨n,e,by omega,h2⟩
 ·by_cases hjl:j<O.length
  ·rw[List.getElem?_append_left hjl]at hj
   have:=hlt q (List.mem_of_getElem? hj)
   have h0:0≤q:=by obtain⟨n,e,_⟩:=(h.mem q).1 (List.mem_of_getElem? hj);omega
   rw[List.getElem?_set,if_neg (by omega)]
   exact h.plc j q hj
  have e:j=O.length:=by have:=(List.getElem?_eq_some_iff.1 hj).1;simp at this;omega
  subst e
  rw[List.getElem?_append_right (by omega),Nat.sub_self]at hj
  simp at hj
  subst hj
  rw[Int.toNat_natCast,List.getElem?_set,if_pos rfl,if_pos (by rw[h.pln];exact hil),h.len]
 have hmap:∀ (n:Nat) (u:Stp),NdS Y n→n≤i→Y[n]? = some u→(u.frm.map fun q=>pix (O++[(i:Int)]) (hF Y q))=u.frm.map fun q=>pix O (hF Y q):=fun n u hnn hni hu=>List.map_congr_left fun q hq=>tk_ (h.prem hO hnn hni hu hq)
 by_cases hjl:j<O.length
 ·rw[List.getElem?_append_left hjl]at hj
  rw[List.getElem?_append_left (by rw[h.len];exact hjl)]at hy'
  obtain⟨m,e,h1,h2⟩:=(h.mem (n:Int)).1 (List.mem_of_getElem? hj)
  have e2:m=n:=by omega
  subst e2
  rw[hmap m s' h2 (by omega) hs']
  exact h.step j m s' y' hj hs' hy'
 have e:j=O.length:=by have:=(List.getElem?_eq_some_iff.1 hj).1;simp at this;omega
 subst e
 rw[List.getElem?_append_right (by omega),Nat.sub_self]at hj
 rw[List.getElem?_append_right (by rw[h.len];exact Nat.le_refl _),h.len,Nat.sub_self]at hy'
 simp at hj hy'
 have e2:n=i:=by omega
 subst e2
 subst hy'
 rw[hs]at hs';cases hs'
 rw[hmap n s hn (Nat.le_refl _) hs]
 exact hy
theorem YS.done (h:YS Y i O pl V) (hall:∀ n,NdS Y n→n<i):gS_ Y V:=⟨O,h.inc,fun z hz=>by obtain⟨n,e,_,h2⟩:=(h.mem z).1 hz;exact⟨n,e,h2⟩,fun n hn=>(h.mem _).2 ⟨n,rfl,hall n hn,hn⟩,h.len,h.step⟩
end
end Go.Proofs.YtkeanlfhghlgiaaGreatDoor
