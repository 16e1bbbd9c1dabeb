/-
  Part of the proof of the law ProofAxioms over this seat: the small logic, the data, the contracts of functions (no condition).
-/
import Derived.Test.YtkeanlfhghlgiaaGreatDoorQProofAxioms4
import Derived.Test.YtkeanlfhghlgiaaGreatDoorQProofAxioms13
set_option linter.unusedVariables false
set_option linter.unusedSimpArgs false
set_option linter.unusedSectionVars false
set_option maxHeartbeats 1000000
namespace Go.Proofs.YtkeanlfhghlgiaaGreatDoor
open Go Go.Sx Go.Proofs
attribute [local irreducible] Code.wp wpList wpAnyH
open Go.Vs
section
variable {P:Program} {N:Nf} {fr:Fr} {H:Hp} {Γ:List Fct}
theorem mS_:∀ xs:List Int,xs.flatMap S_=xs.map (Value.int .i64)
  | []=>rfl
  | x::xs=>by simp only[List.flatMap_cons,mS_ xs,List.map_cons];rfl
theorem iG_ {f:FuncId} {args:Array Value} {r:Value} {g:Nat} {cur:Array Value} {T:TypeId} {d:Array Int} (hc:dE_ P f)
    (h:∀ v:Vw,v.sat [(g,.cells cur T (0,0))]→Calls P f args v.w fun e w'=>e=.returned r∧∃ n os,w'=Sort.grow (Sort.putRow (Value.int .i64) (Sort.ahead v.w n) g 0 d) os) :
    Tri P f args [(g,.cells cur T (0,0))] Γ (fun _:Unit=>r) (fun _=>[(g,.cells (Sort.putCells (Value.int .i64) 0 d cur) T (0,0))]) (fun _=>[]) :=
  ⟨hc,fun v h1 _=>(h v h1).mono fun e w' ⟨he,n,os,hw⟩=>by
    have hg:=(h1.own _ List.mem_cons_self)
    have hlt:g<v.w.heap.size:=(Array.getElem?_eq_some_iff.1 hg.1).1
    have hb:∀ b,b<v.w.heap.size→w'.heap[b]? = if b=g then some (.cells (Sort.putCells (Value.int .i64) 0 d cur) T (0,0)) else v.w.heap[b]? := fun b hb=>by
      rw[hw]
      simp only[Sort.grow,Sort.putRow,Sort.mapBlock,Sort.ahead]
      rw[Array.getElem?_append_left (by simpa using hb),Array.getElem?_modify]
      by_cases e:b=g
      · subst e
        simp only[if_true,hg.1,Option.map_some,Sort.onCells]
      · rw[if_neg (fun q=>e q.symm),if_neg e]
    have hsz:v.w.heap.size≤w'.heap.size:=by rw[hw];simp[Sort.grow,Sort.putRow,Sort.mapBlock,Sort.ahead]
    refine⟨(),⟨v.im,w',v.sl⟩,he,rfl,⟨fun p hp=>?_,by simp,fun b hbb=>Nat.lt_of_lt_of_le (h1.lt b hbb) hsz⟩,trivial,⟨by rw[hw];rfl,by rw[hw];rfl,by rw[hw];rfl,hsz,fun b hbb hn=>?_,fun _ h=>h,fun _ h=>.inl h,fun b hm=>.inl (by simpa using hm),rfl,.inr (by rw[hw];exact Nat.le_add_right _ _)⟩⟩
    · simp only[List.mem_singleton]at hp
      subst hp
      exact⟨by show w'.heap[g]? = _;rw[hb g hlt,if_pos rfl],hg.2⟩
    · have hn':b≠g:=by simpa using hn
      show w'.heap[b]? = _
      rw[hb b hbb,if_neg hn']⟩
theorem kV_ {cur:Array Value} {d:List Int} (hs:d.length≤cur.size):(Sort.putCells (Value.int .i64) 0 d.toArray cur).toList.take d.length=d.flatMap S_:=by
 rw[mS_]
 apply List.ext_getElem?
 intro j
 rw[List.getElem?_take,List.getElem?_map]
 split
 ·rename_i hj
  simp only[Sort.putCells,Array.getElem?_toList,Array.getElem?_mapIdx]
  rw[Array.getElem?_eq_getElem (by omega)]
  simp only[Option.map_some,Nat.zero_le,true_and,Nat.zero_add,List.size_toArray,hj,if_true,Nat.sub_zero]
  rw[List.getElem?_eq_getElem hj]
  simp only[Option.map_some]
  rw[getElem!_pos d.toArray j (by simpa using hj)]
  rfl
 rename_i hj
 rw[List.getElem?_eq_none (by omega)];rfl
theorem kW_ {cur:Array Value} {d:Array Int}:(Sort.putCells (Value.int .i64) 0 d cur).size=cur.size:=by simp[Sort.putCells]
theorem gx_ {zs:List Int}:Lib.compact zs=((List.range zs.length).filter fun j=>decide (j=0∨zs[j]! ≠ zs[j - 1]!)).map fun j=>zs[j]! := by
 unfold Lib.compact Lib.compactUpTo Lib.keeps
 have e:∀ j,zs.toArray[j]! = zs[j]! := fun j=>by
   by_cases h:j<zs.length
   · rw[getElem!_pos zs.toArray j (by simpa using h),getElem!_pos zs j h];simp
   · rw[getElem!_neg zs.toArray j (by simpa using h),getElem!_neg zs j h]
 rw[List.map_congr_left fun j _=>e j]
 congr 2
 funext j
 rw[e,e]
theorem gw_ (zs:List Int):(Lib.compact zs).length≤zs.length:=by
  rw[gx_,List.length_map]
  have:=List.length_filter_le (fun j=>decide (j=0∨zs[j]! ≠ zs[j - 1]!)) (List.range zs.length)
  simpa using this
theorem ig_ {zs:List Int} (x:Int):x∈Lib.compact zs↔x∈zs:=by
 rw[gx_,List.mem_map]
 constructor
 ·rintro ⟨j,hj,rfl⟩
  have hl:=List.mem_range.1 (List.mem_filter.1 hj).1
  rw[getElem!_pos zs j hl]
  exact List.getElem_mem hl
 intro hx
 obtain⟨j,hj,e⟩:=List.mem_iff_getElem.1 hx
 clear hx
 induction j with
 | zero=>exact⟨0,List.mem_filter.2 ⟨List.mem_range.2 hj,by simp⟩,by rw[getElem!_pos zs 0 hj];exact e⟩
 | succ j ih =>
   by_cases h:zs[j+1]! = zs[j]!
   · have hj':j<zs.length:=by omega
     refine ih hj' ?_
     rw[getElem!_pos zs (j+1) hj,getElem!_pos zs j hj']at h
     rw[← h];exact e
   · exact⟨j+1,List.mem_filter.2 ⟨List.mem_range.2 hj,decide_eq_true (.inr h)⟩,by rw[getElem!_pos zs (j+1) hj];exact e⟩
theorem ne_ {zs:List Int} (hs:zs.Pairwise fun x y=>x≤y):(Lib.compact zs).Pairwise fun x y=>x<y:=by
 rw[gx_,List.pairwise_map]
 have hr:(List.range zs.length).Pairwise (·<·):=List.pairwise_lt_range
 have hf:=hr.filter (fun j=>decide (j=0∨zs[j]! ≠ zs[j - 1]!))
 refine List.Pairwise.imp_of_mem ?_ hf
 intro j k hj hk hlt
 have hkl:=List.mem_range.1 (List.mem_filter.1 hk).1
 have hkk:=(List.mem_filter.1 hk).2
 simp only[decide_eq_true_eq]at hkk
 have hne:zs[k]! ≠ zs[k - 1]! := by
   rcases hkk with h|h
   · omega
   · exact h
 have hle:∀ a b,a≤b→b<zs.length→zs[a]! ≤ zs[b]! := by
   intro a b hab hb
   rcases Nat.lt_or_eq_of_le hab with h|h
   · rw[getElem!_pos zs a (by omega),getElem!_pos zs b hb]
     exact List.pairwise_iff_getElem.1 hs a b (by omega) hb h
   · subst h;exact Int.le_refl _
 have h1:=hle j (k - 1) (by omega) (by omega)
 have h2:=hle (k - 1) k (by omega) hkl
 have h3:zs[k - 1]! < zs[k]! := by
   apply Decidable.byContradiction
   intro h
   exact hne (Int.le_antisymm (Int.not_lt.1 h) h2)
 exact Int.lt_of_le_of_lt h1 h3
end
theorem oR_ (l:List Int):(l.mergeSort fun x y=>decide (x≤y)).Pairwise fun x y=>x≤y:=by
  have h:=List.pairwise_mergeSort (le:=fun x y:Int=>decide (x≤y)) (fun a b c h1 h2=>by simp only[decide_eq_true_eq]at *;exact Int.le_trans h1 h2) (fun a b=>by
    simp only[Bool.or_eq_true,decide_eq_true_eq];exact Int.le_total a b) l
  exact h.imp (fun h=>of_decide_eq_true h)
theorem nt_ {cur:Array Value} {n:Nat} {xs:List Int} (h:cur.toList.take (n*1)=xs.flatMap S_):∀ (j:Nat) (x:Int),xs[j]? = some x→cur[j]? = some (.int .i64 x):=by
 intro j x hj
 have h1:=u_ P_ hj 0 (.int .i64 x) rfl
 rw[← h,Nat.mul_one,Nat.add_zero]at h1
 rw[List.getElem?_take]at h1
 split at h1
 ·simpa using h1
 cases h1
theorem kd_ {g n cap:Nat} {cur:Array Value} {xs:List Int} {v:Vw} (hs:v.sat [(g,.cells cur 3 (0,0))]) (ht:cur.toList.take (xs.length*1)=xs.flatMap S_):Sort.Holds (Value.int .i64) v.w g 0 xs.toArray:=by
 intro j hj
 have hb:=(hs.own _ List.mem_cons_self).1
 simp only[List.size_toArray]at hj
 have hc:cur[j]? = some (Value.int .i64 xs[j]):=nt_ ht j xs[j] (List.getElem?_eq_getElem hj)
 refine⟨?_,?_⟩
 ·simp only[World.cell?,Nat.zero_add,hb,Option.isSome_none,Bool.false_eq_true,if_false]
  rw[hc,getElem!_pos xs.toArray j (by simpa using hj)]
  rfl
 simp[World.frozen?,hb]
theorem of_ {sv:Value} {xs:List Int} {Hr:Hp} (h:aC_ 3 1 sv xs.length (xs.flatMap S_) Hr) (hl:xs.length≤1000000000000) :
    Tri Tryz.prog 51 #[sv] Hr [] (fun _:{y:Hp // aC_ 3 1 sv xs.length ((xs.mergeSort fun x y=>decide (x≤y)).flatMap S_) y}=>.tuple #[]) (fun y=>y.1) (fun _=>[]):=by
  rcases h.2 with⟨rfl,h2,rfl⟩|⟨g,cap,cur,rfl,rfl,h3,h4,h5,h6⟩
  · obtain rfl:xs=[]:=List.eq_nil_of_length_eq_zero h2
    have T:=dg_ (P:=Tryz.prog) (H:=[]) (Γ:=[]) (callable Tryz.func51 rfl rfl) (fun v _ _=>(Tryz.slices_Sort_int_none none 0 v.w).mono (by rintro e w' ⟨rfl,rfl⟩;exact⟨rfl,⟨rfl,rfl,rfl,Nat.le_refl _,fun _ _=>rfl⟩,.inr (Nat.le_refl _)⟩))
    exact⟨T.callable,fun v a b=>(T.run v a b).mono (by rintro e w' ⟨x,v',e1,e2,e3,e4,e5⟩;exact⟨⟨[],by simpa using aC_.nil _ _⟩,v',e1,e2,e3,e4,e5⟩)⟩
  · have T:=iG_ (P:=Tryz.prog) (Γ:=[]) (d:=(xs.mergeSort fun x y=>decide (x≤y)).toArray) (callable Tryz.func51 rfl rfl) (fun v hs=>Tryz.slices_Sort_int g 0 cap xs v.w (kd_ (n:=0) (cap:=0) hs h6) (Array.getElem?_eq_some_iff.1 (hs.own _ List.mem_cons_self).1).1 (by omega))
    have hsz:(xs.mergeSort fun x y=>decide (x≤y)).length=xs.length:=List.length_mergeSort _
    refine⟨T.callable,fun v a b=>(T.run v a b).mono ?_⟩
    rintro e w' ⟨x,v',e1,e2,e3,e4,e5⟩
    refine⟨⟨_,by rw[ct_ S_ 1 P_,hsz],.inr ⟨g,cap,_,rfl,rfl,h3,h4,by rw[kW_];exact h5,?_⟩⟩,v',e1,e2,e3,e4,e5⟩
    have:=kV_ (cur:=cur) (d:=xs.mergeSort fun x y=>decide (x≤y)) (by rw[hsz,h5];omega)
    rw[hsz]at this
    rw[Nat.mul_one];exact this
theorem ko_ {sv:Value} {xs:List Int} {Hr:Hp} (h:aC_ 3 1 sv xs.length (xs.flatMap S_) Hr) (hl:xs.length≤1000000000000) :
    Tri Tryz.prog 52 #[sv] Hr [] (fun y:{y:Value×Hp // aC_ 3 1 y.1 (Lib.compact xs).length ((Lib.compact xs).flatMap S_) y.2}=>y.1.1) (fun y=>y.1.2) (fun _=>[]):=by
  rcases h.2 with⟨rfl,h2,rfl⟩|⟨g,cap,cur,rfl,rfl,h3,h4,h5,h6⟩
  · obtain rfl:xs=[]:=List.eq_nil_of_length_eq_zero h2
    have T:=dg_ (P:=Tryz.prog) (H:=[]) (Γ:=[]) (callable Tryz.func52 rfl rfl) (fun v _ _=>(Tryz.slices_Compact_int_empty none 0 v.w).mono (by rintro e w' ⟨rfl,rfl⟩;exact⟨rfl,⟨rfl,rfl,rfl,Nat.le_refl _,fun _ _=>rfl⟩,.inr (Nat.le_refl _)⟩))
    exact⟨T.callable,fun v a b=>(T.run v a b).mono (by rintro e w' ⟨x,v',e1,e2,e3,e4,e5⟩;exact⟨⟨(.slice none 0 0,[]),by simpa [Lib.compact,Lib.compactUpTo] using aC_.nil _ _⟩,v',e1,e2,e3,e4,e5⟩)⟩
  · have hcl:=gw_ xs
    have T:=iG_ (P:=Tryz.prog) (Γ:=[]) (r:=.slice (some ⟨g,0,none⟩) (Lib.compact xs).length cap) (d:=(Lib.compact xs++List.replicate (xs.length - (Lib.compact xs).length) 0).toArray) (callable Tryz.func52 rfl rfl) (fun v hs=>(Tryz.slices_Compact_int g 0 cap xs v.w (kd_ (n:=0) (cap:=0) hs h6) (by omega) h3).mono (by
      rintro e w' ⟨rfl,q,rfl⟩
      exact⟨rfl,q,#[],by rw[Sort.grow_empty]⟩))
    refine⟨T.callable,fun v a b=>(T.run v a b).mono ?_⟩
    rintro e w' ⟨x,v',e1,e2,e3,e4,e5⟩
    refine⟨⟨(.slice (some ⟨g,0,none⟩) (Lib.compact xs).length cap,_),by rw[ct_ S_ 1 P_],.inr ⟨g,cap,_,rfl,rfl,by omega,h4,by rw[kW_];exact h5,?_⟩⟩,v',e1,e2,e3,e4,e5⟩
    have hd:(Lib.compact xs++List.replicate (xs.length - (Lib.compact xs).length) (0:Int)).length=xs.length:=by simp;omega
    have:=kV_ (cur:=cur) (d:=Lib.compact xs++List.replicate (xs.length - (Lib.compact xs).length) 0) (by rw[hd,h5];omega)
    rw[hd]at this
    have h7:=congrArg (List.take (Lib.compact xs).length) this
    rw[List.take_take,Nat.min_eq_left hcl,List.flatMap_append,List.take_append_of_le_length (by rw[ct_ S_ 1 P_];omega),List.take_of_length_le (l:=(Lib.compact xs).flatMap S_) (by rw[ct_ S_ 1 P_];omega)]at h7
    rw[Nat.mul_one];exact h7
end Go.Proofs.YtkeanlfhghlgiaaGreatDoor
namespace Go.Proofs.YtkeanlfhghlgiaaGreatDoor
open Go Go.Sx Go.Proofs
attribute [local irreducible] Code.wp wpList wpAnyH
open Go.Vs
def jK_ (Y:List Stp):List Int:=Y.flatMap fun s=>if 0≤s.piece then [s.piece] else []
def dk_ (Y:List Stp):List Int:=Lib.compact ((jK_ Y).mergeSort fun x y=>decide (x≤y))
theorem la_ {Y:List Stp} {i:Nat} {x:Stp} (h:Y[i]? = some x):jK_ (List.take (i+1) Y)=jK_ (List.take i Y)++(if 0≤x.piece then [x.piece] else []):=by
  unfold jK_
  rw[List.take_add_one,h,Option.toList_some,List.flatMap_append];simp
theorem fP_ (Y:List Stp):(jK_ Y).length≤Y.length:=by
  unfold jK_
  induction Y with
  | nil=>simp
  | cons s Y ih =>
    rw[List.flatMap_cons,List.length_append,List.length_cons]
    have h2:(if 0≤s.piece then [s.piece] else ([]:List Int)).length≤1:=by split<;>simp
    omega
theorem lb_ (Y:List Stp):(dk_ Y).length≤Y.length:=by
  have h:=gw_ ((jK_ Y).mergeSort fun x y=>decide (x≤y))
  rw[List.length_mergeSort]at h
  exact Nat.le_trans h (fP_ Y)
theorem iq_ (Y:List Stp) (x:Int):x∈dk_ Y↔∃ s∈Y,s.piece=x∧0≤x:=by
 unfold dk_ jK_
 rw[ig_,List.mem_mergeSort,List.mem_flatMap]
 constructor
 ·rintro ⟨s,hs,h⟩
  split at h
  ·rw[List.mem_singleton]at h;subst h;exact⟨s,hs,rfl,by assumption⟩
  simp at h
 rintro ⟨s,hs,rfl,h⟩
 exact⟨s,hs,by rw[if_pos h];simp⟩
theorem qJ_ (l:List Stp) (ad:Option Addr) (cap:Nat) (hl:l.length≤1000000):Tri Tryz.prog 19 #[.agg #[.slice ad (List.length l) cap]] [] [an_ ad (List.flatMap Stp.cells l)] (fun y:{y:Option Addr×Nat // (dk_ l).length≤y.2∧y.2≤maxLen∧(y.1=none→y.2=0)}=>.slice y.1.1 (dk_ l).length y.1.2) (fun _=>[]) (fun y=>[an_ y.1.1 (List.flatMap S_ (dk_ l))]):=by
 refine x_ Tryz.func19 rfl rfl Tryz.ntmps19 rfl fun v0=>?_
 refine Zz 2 ?_
 refine ay_ rfl rfl fun b1=>Zz 13 ?_
 refine U_ (ι:={y:Nat×Value×Hp // y.1≤List.length l∧zR 3 1 S_ y.2.1 (jK_ (List.take y.1 l)) y.2.2}) (fun y=>[(2,y.1.2.1),(6,.slice ad (List.length l) cap),(7,.int .i64 (List.length l:Int)),(8,.int .i64 (y.1.1:Int))]) (fun y=>(y.1.2.2)) (fun y=>[an_ ad (List.flatMap Stp.cells l)]) (fun y=>List.length l - y.1.1) ⟨((0:Nat),(.slice none 0 0),[]),by simp,(aC_.nil _ _)⟩ zl m_ zh ?_
 rintro ⟨⟨i,sv_Rint,H_Rint⟩,hi_i,hr_Rint⟩
 dsimp only at hi_i hr_Rint ⊢
 refine Zi 2 (fun hr1=>?_) fun hr1=>?_
 ·rw[show List.take i l=l from List.take_of_length_le (by omega)]at hr_Rint
  refine Zz 9 ?_
  refine n_ (of_ hr_Rint (by (have:=fP_ l;(try simp only[List.length_append,List.length_cons,List.length_nil]);omega))) rfl aW_ zt rfl fun⟨Hso1,hs1⟩=>?_
  dsimp only
  have hso1:aC_ 3 1 sv_Rint (List.length (((jK_ l)).mergeSort fun x y=>decide (x≤y))) (List.flatMap S_ (((jK_ l)).mergeSort fun x y=>decide (x≤y))) Hso1:=by rw[List.length_mergeSort];exact hs1
  refine w_ em_ (Zz 5 ?_)
  refine n_ (ko_ hso1 (by rw[List.length_mergeSort];(have:=fP_ l;(try simp only[List.length_append,List.length_cons,List.length_nil]);omega))) rfl aW_ zt rfl fun⟨⟨svk,Hk⟩,hk⟩=>?_
  dsimp only
  refine w_ em_ (Zz 4 ?_)
  refine bM_ hk aW_ fun ad2 cp2 had2 hcad2 hmad2 hzad2=>?_
  exact al_ Tryz.results19 ⟨(ad2,cp2),hcad2,hmad2,hzad2⟩ (cX_ rfl had2) m_ zf
 obtain⟨hlx1,x1,hx1,hmx1⟩:=zge (show i<List.length l by omega)
 have hbi:=fP_ (List.take i l)
 rw[List.length_take]at hbi
 refine Zz 12 ?_
 refine L_ ci_ rfl fun b2=>z_ 0 at_ rfl rfl rfl rfl rfl rfl (Zi 6 (fun hr2=>?_) fun hr2=>?_)
 ·refine Zz 10 ?_
  exact y_ ⟨(i+1,sv_Rint,H_Rint),hlx1,(by rw[la_ hx1,if_neg (by assumption),List.append_nil];exact hr_Rint)⟩ (by dsimp only;omega) zl E_ zh
 refine Zz 7 ?_
 refine Q_ g_ s_ C_ rfl rfl rfl rfl rfl rfl fun b3=>?_
 refine aE_ (List.flatMap S_ [x1.piece]) d_ rfl ?_
 refine cq_ (news:=List.flatMap S_ [x1.piece]) cf_ hr_Rint rfl rfl (fun q=>by cases q) (by simp) E_ (by rw[ct_ S_ 1 P_];rfl) zf (fun u hu=>aw_ bN_ hu) (by simp only[maxLen];(have:=fP_ l;(try simp only[List.length_append,List.length_cons,List.length_nil]);omega)) (by (have:=fP_ l;(try simp only[List.length_append,List.length_cons,List.length_nil]);omega)) rfl fun sv1 Hr1 hr1=>?_
 refine w_ List.perm_append_comm ?_
 have hq1:=zsa hr1
 refine Zz 8 ?_
 exact y_ ⟨(i+1,sv1,Hr1),hlx1,(by rw[la_ hx1,if_pos (by assumption)];exact hq1)⟩ (by dsimp only;omega) zl E_ (fun _ _ h=>h.2)
end Go.Proofs.YtkeanlfhghlgiaaGreatDoor
namespace Go.Proofs.YtkeanlfhghlgiaaGreatDoor
open Go Go.Sx Go.Proofs
attribute [local irreducible] Code.wp wpList wpAnyH
open Go.Vs
theorem ry_ {p:List Pc} {f:Fc} {bu:Int} {Y:List Stp} {e:Int} (h:eP_ p f bu Y e) (he:e=0):PrfL p (atS p) f Y∧cM_ p=0∧wfB f=true:=by
 subst he
 unfold eP_ at h
 by_cases hw:wfB f=false
 ·rw[if_pos hw]at h;exact absurd h.1 (by decide)
 rw[if_neg hw]at h
 obtain⟨c,e0,hA,h⟩:=h
 by_cases h0:e0=0
 ·subst h0
  rw[if_pos rfl]at h
  by_cases hd:nb_ c.facts f=false
  ·rw[if_pos hd]at h;exact absurd h.1 (by decide)
  rw[if_neg hd]at h
  obtain⟨_,L,hP,hl,hT⟩:=h
  exact⟨jw_ hP hT,hA.good.1,by simpa using hw⟩
 rw[if_neg h0]at h;exact absurd h.1.symm h0
end Go.Proofs.YtkeanlfhghlgiaaGreatDoor
namespace Go.Proofs.YtkeanlfhghlgiaaGreatDoor
open Go Go.Sx Go.Proofs
attribute [local irreducible] Code.wp wpList wpAnyH
open Go.Vs
theorem pw_lt {l:List Int} {i:Nat} {w x:Int} (h:l.Pairwise fun x y=>x<y) (h0:0<i) (hw:l[(Int.toNat ((i:Int) - 1))]? = some w) (hx:l[i]? = some x):w<x:=by
  obtain⟨h1,e1⟩:=List.getElem?_eq_some_iff.1 hw
  obtain⟨h2,e2⟩:=List.getElem?_eq_some_iff.1 hx
  have:=List.pairwise_iff_getElem.1 h _ _ h1 h2 (by omega)
  rwa [e1,e2]at this
end Go.Proofs.YtkeanlfhghlgiaaGreatDoor
namespace Go.Proofs.YtkeanlfhghlgiaaGreatDoor
open Go Go.Sx Go.Proofs
attribute [local irreducible] Code.wp wpList wpAnyH
open Go.Vs
def ku_ (p:List Pc) (l:List Int):List Int:=l.flatMap fun z=>(p[z.toNat]?).toList.flatMap fun x=>if 0≤x.frm then [x.frm] else []
def dn_ (p:List Pc) (Y:List Stp):List Int:=Lib.compact ((ku_ p (dk_ Y)).mergeSort fun x y=>decide (x≤y))
theorem lu_ {p:List Pc} {l:List Int} {i:Nat} {x:Int} {z:Pc} (hx:l[i]? = some x) (hz:p[x.toNat]? = some z):ku_ p (List.take (i+1) l)=ku_ p (List.take i l)++(if 0≤z.frm then [z.frm] else []):=by
  unfold ku_
  rw[List.take_add_one,hx,Option.toList_some,List.flatMap_append]
  simp[hz]
theorem gc_ (p:List Pc) (l:List Int):(ku_ p l).length≤l.length:=by
  unfold ku_
  induction l with
  | nil=>simp
  | cons z l ih =>
    rw[List.flatMap_cons,List.length_append,List.length_cons]
    have h2:((p[z.toNat]?).toList.flatMap fun x=>if 0≤x.frm then [x.frm] else ([]:List Int)).length≤1:=by
      cases p[z.toNat]? with
      | none=>simp
      | some y=>simp only[Option.toList_some,List.flatMap_cons,List.flatMap_nil,List.append_nil];split<;>simp
    omega
theorem rH_ (p:List Pc) (Y:List Stp):(dn_ p Y).Pairwise fun x y=>x<y:=ne_ (oR_ _)
theorem pK_ (p:List Pc) (Y:List Stp):(dn_ p Y).length≤Y.length:=by
  have h:=gw_ ((ku_ p (dk_ Y)).mergeSort fun x y=>decide (x≤y))
  rw[List.length_mergeSort]at h
  exact Nat.le_trans h (Nat.le_trans (gc_ p _) (lb_ Y))
theorem lv_ (p:List Pc) (Y:List Stp) (a:Int):a∈dn_ p Y↔∃ s∈Y,∃ z,0≤s.piece∧p[s.piece.toNat]? = some z∧z.frm=a∧0≤a:=by
 unfold dn_ ku_
 rw[ig_,List.mem_mergeSort,List.mem_flatMap]
 constructor
 ·rintro ⟨i,hi,h⟩
  obtain⟨s,hs,rfl,h0⟩:=(iq_ Y i).1 hi
  obtain⟨z,hz,h⟩:=List.mem_flatMap.1 h
  split at h
  ·rw[List.mem_singleton]at h;subst h;exact⟨s,hs,z,h0,by simpa using hz,rfl,by assumption⟩
  simp at h
 rintro ⟨s,hs,z,h0,hz,rfl,h⟩
 exact⟨s.piece,(iq_ Y _).2 ⟨s,hs,rfl,h0⟩,List.mem_flatMap.2 ⟨z,by simp[hz],by rw[if_pos h];simp⟩⟩
def np_ (p:List Pc) (s:Stp):Prop:=-1≤s.piece∧s.piece<(p.length:Int)
def AxR (p:List Pc) (Y:List Stp) (l:List Int) (e:Int):Prop:=((∀ s∈Y,np_ p s)→e=0∧l=dn_ p Y)∧((¬ ∀ s∈Y,np_ p s)→e=1∧l=[])
theorem rJ_ {p:List Pc} {Y:List Stp} {s:Stp} (hs:s∈Y) (h:¬ np_ p s):AxR p Y [] 1:=⟨fun q=>absurd (q s hs) h,fun _=>⟨rfl,rfl⟩⟩
theorem sZ_ {p:List Pc} {Y:List Stp} (h:∀ s∈Y,np_ p s):AxR p Y (dn_ p Y) 0:=⟨fun _=>⟨rfl,rfl⟩,fun q=>absurd h q⟩
theorem pcs_in {p:List Pc} {Y:List Stp} (h:∀ s∈Y,np_ p s):∀ z∈dk_ Y,0≤z∧z<(p.length:Int):=fun z hz=>by
  obtain⟨s,hs,rfl,h0⟩:=(iq_ Y z).1 hz
  exact⟨h0,(h s hs).2⟩
theorem rI_ (p:List Pc) (pad:Option Addr) (pcap:Nat) (Y:List Stp) (yad:Option Addr) (ycap:Nat) (hpl:p.length≤1099511627744) (hl:Y.length≤1000000):Tri Tryz.prog 24 #[.slice pad (List.length p) pcap,.agg #[.slice yad (List.length Y) ycap]] [] [an_ pad (List.flatMap Pc.cells p),an_ yad (List.flatMap Stp.cells Y)] (fun y:{y:List Int×Option Addr×Nat×Int // AxR p Y y.1 y.2.2.2∧y.1.length≤y.2.2.1∧y.2.2.1≤maxLen∧(y.2.1=none→y.2.2.1=0)}=>.tuple #[.slice y.1.2.1 y.1.1.length y.1.2.2.1,.int .i64 y.1.2.2.2]) (fun _=>[]) (fun y=>[an_ y.1.2.1 (List.flatMap S_ y.1.1)]):=by
 refine x_ Tryz.func24 rfl rfl Tryz.ntmps24 rfl fun v0=>?_
 refine Zz 2 ?_
 refine ay_ rfl rfl fun b1=>Zz 14 ?_
 refine U_ (ι:={y:Nat // y≤List.length Y∧(∀ z∈List.take y Y,np_ p z)}) (fun y=>[(0,.slice pad (List.length p) pcap),(3,zp_ b1 0),(4,.slice none 0 0),(5,.int .i64 0),(11,.slice yad (List.length Y) ycap),(12,.int .i64 (List.length Y:Int)),(13,.int .i64 (y.1:Int))]) (fun y=>((b1,.cells #[.slice yad (List.length Y) ycap] 29 (0,0))::[])) (fun y=>[an_ pad (List.flatMap Pc.cells p),an_ yad (List.flatMap Stp.cells Y)]) (fun y=>List.length Y - y.1) ⟨(0:Nat),by simp,by simp⟩ zl d_ zh ?_
 rintro ⟨i,hi_i,hok⟩
 dsimp only at hi_i hok ⊢
 refine Zi 2 (fun hr1=>?_) fun hr1=>?_
 ·have hok2:∀ z∈Y,np_ p z:=by have h:=hok;rwa [List.take_of_length_le (by omega)]at h
  have hpk:=pcs_in hok2
  refine Zz 10 ?_
  refine n_ (qJ_ Y yad ycap (by omega)) rfl m_ zf rfl fun⟨⟨lad,lcp⟩,hlc,hlm,hlz⟩=>?_
  dsimp only
  dsimp only at hlc hlm hlz
  have hlen:=lb_ Y
  refine Zz 5 ?_
  refine U_ (ι:={y:Nat×Value×Hp // y.1≤List.length (dk_ Y)∧zR 3 1 S_ y.2.1 (ku_ p (List.take y.1 (dk_ Y))) y.2.2}) (fun y=>[(0,.slice pad (List.length p) pcap),(3,zp_ b1 0),(4,y.1.2.1),(5,.int .i64 0),(11,.slice yad (List.length Y) ycap),(12,.int .i64 (List.length Y:Int)),(13,.int .i64 (i:Int)),(29,.slice lad (List.length (dk_ Y)) lcp),(30,.int .i64 (List.length (dk_ Y):Int)),(31,.int .i64 (y.1.1:Int))]) (fun y=>((b1,.cells #[.slice yad (List.length Y) ycap] 29 (0,0))::y.1.2.2)) (fun y=>[an_ lad (List.flatMap S_ (dk_ Y)),an_ pad (List.flatMap Pc.cells p),an_ yad (List.flatMap Stp.cells Y)]) (fun y=>List.length (dk_ Y) - y.1.1) ⟨((0:Nat),(.slice none 0 0),[]),by simp,(aC_.nil _ _)⟩ zl d_ zh ?_
  rintro ⟨⟨k,sv_Rint,H_Rint⟩,hi_k,hr_Rint⟩
  dsimp only at hi_k hr_Rint ⊢
  refine Zi 2 (fun hr2=>?_) fun hr2=>?_
  ·rw[show List.take k (dk_ Y)=dk_ Y from List.take_of_length_le (by omega)]at hr_Rint
   refine Zz 9 ?_
   refine n_ (of_ hr_Rint (by (have:=gc_ p (dk_ Y);(try simp only[List.length_append,List.length_cons,List.length_nil]);omega))) rfl E_ zt rfl fun⟨Hso1,hs1⟩=>?_
   dsimp only
   have hso1:aC_ 3 1 sv_Rint (List.length (((ku_ p (dk_ Y))).mergeSort fun x y=>decide (x≤y))) (List.flatMap S_ (((ku_ p (dk_ Y))).mergeSort fun x y=>decide (x≤y))) Hso1:=by rw[List.length_mergeSort];exact hs1
   refine Zz 2 ?_
   refine w_ (ao_ Y_) (Zz 3 ?_)
   refine n_ (ko_ hso1 (by rw[List.length_mergeSort];(have:=gc_ p (dk_ Y);(try simp only[List.length_append,List.length_cons,List.length_nil]);omega))) rfl E_ zt rfl fun⟨⟨svk,Hk⟩,hk⟩=>?_
   dsimp only
   refine Zz 5 ?_
   refine bM_ hk j_ fun ad2 cp2 had2 hcad2 hmad2 hzad2=>?_
   exact nE_ Tryz.results24 ⟨(dn_ p Y,ad2,cp2,0),sZ_ hok2,hcad2,hmad2,hzad2⟩ (cX_ rfl had2) rfl rfl m_ zf
  obtain⟨hlx2,x2,hx2,hmx2⟩:=zge (show k<List.length (dk_ Y) by omega)
  have hxo:=hpk _ hmx2
  obtain⟨z2,hz2⟩:∃ e0,p[(Int.toNat x2)]? = some e0:=⟨_,List.getElem?_eq_getElem (by omega)⟩
  have hbi:=gc_ p (List.take k (dk_ Y))
  rw[List.length_take]at hbi
  refine Zi 22 (fun hr3=>?_) fun hr3=>?_
  ·refine Zz 10 ?_
   exact y_ ⟨(k+1,sv_Rint,H_Rint),hlx2,(by rw[lu_ hx2 hz2,if_neg (by assumption),List.append_nil];exact hr_Rint)⟩ (by dsimp only;omega) zl zp zh
  refine Zz 10 ?_
  refine Q_ g_ s_ C_ rfl rfl rfl rfl rfl rfl fun b2=>?_
  refine aE_ (List.flatMap S_ [z2.frm]) d_ rfl ?_
  refine cq_ (news:=List.flatMap S_ [z2.frm]) cf_ hr_Rint rfl rfl (fun q=>by cases q) (by simp) E_ (by rw[ct_ S_ 1 P_];rfl) zf (fun u hu=>aw_ bN_ hu) (by simp only[maxLen];(have:=gc_ p (dk_ Y);(try simp only[List.length_append,List.length_cons,List.length_nil]);omega)) (by (have:=gc_ p (dk_ Y);(try simp only[List.length_append,List.length_cons,List.length_nil]);omega)) rfl fun sv1 Hr1 hr1=>?_
  refine w_ List.perm_append_comm ?_
  have hq1:=zsa hr1
  refine Zz 8 ?_
  exact y_ ⟨(k+1,sv1,Hr1),hlx2,(by rw[lu_ hx2 hz2,if_pos (by assumption)];exact hq1)⟩ (by dsimp only;omega) zl zp (fun _ _ h=>h.2)
 obtain⟨hlx1,x1,hx1,hmx1⟩:=zge (show i<List.length Y by omega)
 refine Zz 12 ?_
 refine L_ ci_ rfl fun b3=>z_ 0 at_ rfl rfl rfl rfl rfl rfl (Zi 6 (fun hr4=>?_) fun hr4=>?_)
 ·refine Zi 10 (fun hr5=>?_) fun hr5=>?_
  ·refine Zz 11 ?_
   exact y_ ⟨i+1,hlx1,nn_ hok hx1 ⟨by omega,by omega⟩⟩ (by dsimp only;omega) zl (c_ d_) zh
  refine Zz 11 ?_
  exact nE_ Tryz.results24 ⟨([],none,0,1),rJ_ hmx1 (fun q=>by have:=q.1;have:=q.2;omega),by simp,by simp[maxLen],fun _=>rfl⟩ rfl rfl rfl m_ (fun v _ h=>by exact⟨.inl rfl,trivial⟩)
 refine Zz 17 ?_
 exact nE_ Tryz.results24 ⟨([],none,0,1),rJ_ hmx1 (fun q=>by have:=q.1;have:=q.2;omega),by simp,by simp[maxLen],fun _=>rfl⟩ rfl rfl rfl m_ (fun v _ h=>by exact⟨.inl rfl,trivial⟩)
end Go.Proofs.YtkeanlfhghlgiaaGreatDoor
namespace Go.Proofs.YtkeanlfhghlgiaaGreatDoor
open Go Go.Sx Go.Proofs
attribute [local irreducible] Code.wp wpList wpAnyH
open Go.Vs
def ei_ (p:List Pc) (Y:List Stp):List Int:=Y.flatMap fun s=>if 0≤s.piece then (p[s.piece.toNat]?).toList.map Pc.frm else []
theorem oT_ {p:List Pc} {Y:List Stp} {i:Nat} {x:Stp} (hx:Y[i]? = some x) (h:¬ 0≤x.piece):ei_ p (List.take (i+1) Y)=ei_ p (List.take i Y):=by
  unfold ei_
  rw[List.take_add_one,hx,Option.toList_some,List.flatMap_append]
  simp[if_neg h]
theorem oS_ {p:List Pc} {Y:List Stp} {i:Nat} {x:Stp} {z:Pc} (hx:Y[i]? = some x) (h:0≤x.piece) (hz:p[x.piece.toNat]? = some z):ei_ p (List.take (i+1) Y)=ei_ p (List.take i Y)++[z.frm]:=by
  unfold ei_
  rw[List.take_add_one,hx,Option.toList_some,List.flatMap_append]
  simp[if_pos h,hz]
theorem kT_ (p:List Pc) (Y:List Stp):(ei_ p Y).length≤Y.length:=by
 unfold ei_
 induction Y with
 | nil=>simp
 | cons s Y ih =>
   rw[List.flatMap_cons,List.length_append,List.length_cons]
   have h2:(if 0≤s.piece then (p[s.piece.toNat]?).toList.map Pc.frm else ([]:List Int)).length≤1:=by
     split
     · cases p[s.piece.toNat]? <;> simp
     · simp
   omega
theorem oH_ {p:List Pc} {Y:List Stp} {a:Int} (h:a∈dn_ p Y):a∈ei_ p Y∧0≤a:=by
  obtain⟨s,hs,z,h0,hz,rfl,h1⟩:=(lv_ p Y a).1 h
  exact⟨List.mem_flatMap.2 ⟨s,hs,by rw[if_pos h0];simp[hz]⟩,h1⟩
theorem ax_in {p:List Pc} {Y:List Stp} {s:Stp} {z:Pc} (hs:s∈Y) (h0:0≤s.piece) (hz:p[s.piece.toNat]? = some z):(decide (z.frm<0)||(dn_ p Y).any (·==z.frm))=true:=by
 by_cases h:z.frm<0
 ·simp[h]
 rw[Bool.or_eq_true];exact .inr (List.any_eq_true.2 ⟨z.frm,(lv_ p Y _).2 ⟨s,hs,z,h0,hz,rfl,by omega⟩,by simp⟩)
theorem qC_ {p:List Pc} {f:Fc} {Y:List Stp} (hP:PrfL p (atS p) f Y):∀ s∈Y,np_ p s:=fun s hs=>by
 obtain⟨n,hn⟩:=List.getElem?_of_mem hs
 obtain⟨k,x,_,_,h2,h3,_⟩:=oy_ (hP.cor n s hn)
 by_cases hk:k=0
 ·have:=(h2 hk).1;exact⟨by omega,by omega⟩
 obtain⟨m,e,hm,_⟩:=h3 hk
 have:=(List.getElem?_eq_some_iff.1 hm).1
 exact⟨by omega,by omega⟩
theorem pO_ {l:List Int} {i:Nat} {x a:Int} (h:l[i]? = some x):(List.take (i+1) l).any (·==a)=((List.take i l).any (·==a)||(x==a)):=by
  rw[List.take_add_one,h,Option.toList_some,List.any_append];simp
theorem oG_ {b r:Bool} {l:List Int} {i:Nat} {x a:Int} {c:Bool} (hb:b=(c||(List.take i l).any (·==a))) (h:l[i]? = some x) (hr:r=(b||(x==a))):r=(c||(List.take (i+1) l).any (·==a)):=by
  rw[pO_ h,← Bool.or_assoc,← hb];exact hr
set_option maxHeartbeats 1000000 in
theorem pJ_ (p:List Pc) (pad:Option Addr) (pcap:Nat) (f:Fc) (hpl:p.length≤1099511627744) (hpbig:∀ x∈p,x.big) (hfa:f.a.length≤844424930107392) (hfb:f.b.length≤844424930107392) (hfr:f.r.length≤844424930107392):Tri Tryz.prog 8 #[.slice pad (List.length p) pcap,Fc.val f] [] [an_ pad (List.flatMap Pc.cells p),hq_] (fun _:Unit=>.bool true) (fun _=>[]) (fun _=>[]):=by
 refine x_ Tryz.func8 rfl rfl Tryz.ntmps8 rfl fun v0=>?_
 refine Zz 2 ?_
 refine ay_ rfl rfl fun b1=>Zz 6 ?_
 refine n_ (qk_) rfl m_ zf rfl fun _=>i_ (bI_ rfl) rfl (Zz 9 ?_)
 refine n_ (sL_ p pad pcap 12 hpl hpbig) rfl m_ zf rfl fun⟨fw,hfw⟩=>?_
 dsimp only
 refine i_ (bI_ rfl) rfl (Zz 1 ?_)
 cases fw
 ·refine Zz 22 ?_
  exact al_ Tryz.results8 () rfl m_ zt
 obtain⟨h14q,hsm⟩:=hfw rfl
 have h14:p.length≤14:=by omega
 refine Zz 5 ?_
 refine i_ (co_ W_ rfl) rfl (Zz 5 ?_)
 refine i_ (co_ W_ rfl) rfl (Zz 7 ?_)
 refine i_ (co_ W_ rfl) rfl (Zi 3 (fun hr1=>?_) fun hr1=>?_)
 ·refine Zz 10 ?_
  refine n_ (kg_ p pad pcap f 1073741824 hsm h14) rfl m_ zf rfl fun⟨⟨Y,yad,ycap,e⟩,hF,hYl,hYc,hYm,hYz⟩=>?_
  dsimp only
  dsimp only at hF hYl hYc hYm hYz
  refine Zz 3 ?_
  refine L_ dv_ rfl fun b2=>z_ 0 bx_ rfl rfl rfl rfl rfl rfl (Zi 7 (fun hr2=>?_) fun hr2=>?_)
  ·have he0:=hr2
   obtain⟨hPf,hckp,hwff⟩:=ry_ hF he0
   have hpo:=qC_ hPf
   have hal:=pK_ p Y
   refine Zz 9 ?_
   refine n_ (rI_ p pad pcap Y yad ycap (by omega) (by omega)) rfl m_ zf rfl fun⟨⟨La,lad,lcp,g⟩,hX,hlc,hlm,hlz⟩=>?_
   dsimp only
   dsimp only at hX hlc hlm hlz
   obtain⟨hg0,hL0⟩:=hX.1 (qC_ hPf)
   subst hg0
   subst hL0
   refine Zz 11 ?_
   refine i_ (aU_ (ha_ rfl rfl) (show _=Value.bool false from congrArg Value.bool (by decide))) rfl (Zz 7 ?_)
   refine fb_ g_ s_ rfl fun b3=>w_ d_ (Zz 4 ?_)
   refine w_ (p_ (e_ d_) (ao_ Y_)) (Zz 6 ?_)
   refine U_ (ι:={y:Nat×Value×Hp // y.1≤List.length Y∧zR 3 1 S_ y.2.1 (ei_ p (List.take y.1 Y)) y.2.2}) (fun y=>[(0,.slice pad (List.length p) pcap),(4,.bool false),(5,zp_ b2 0),(7,.slice lad (List.length (dn_ p Y)) lcp),(9,y.1.2.1),(10,.int .i64 (y.1.1:Int))]) (fun y=>((b2,.cells #[.slice yad (List.length Y) ycap] 29 (0,0))::y.1.2.2)) (fun y=>[an_ lad (List.flatMap S_ (dn_ p Y)),an_ yad (List.flatMap Stp.cells Y),aO_ Y,an_ pad (List.flatMap Pc.cells p),hq_]) (fun y=>List.length Y - y.1.1) ⟨((0:Nat),(.slice (some ⟨b3,0,none⟩) 0 0),[(b3,.cells #[] 3 (0,0))]),by simp,(jA_ b3 3 1)⟩ zl zp zh ?_
   rintro ⟨⟨i,sv_Rint,H_Rint⟩,hi_i,hr_Rint⟩
   dsimp only at hi_i hr_Rint ⊢
   refine Zi 7 (fun hr3=>?_) fun hr3=>?_
   ·rw[show List.take i Y=Y from List.take_of_length_le (by omega)]at hr_Rint
    refine Zz 7 ?_
    refine bM_ hr_Rint E_ fun sad scp hsad hcsad hmsad hzsad=>?_
    subst hsad
    have hsl:=kT_ p Y
    refine Zz 5 ?_
    refine U_ (ι:={y:Nat // y≤List.length (dn_ p Y)}) (fun y=>[(0,.slice pad (List.length p) pcap),(4,.bool false),(5,zp_ b2 0),(7,.slice lad (List.length (dn_ p Y)) lcp),(9,.slice sad (List.length (ei_ p Y)) scp),(10,.int .i64 (i:Int)),(14,.int .i64 (y.1:Int))]) (fun y=>((b2,.cells #[.slice yad (List.length Y) ycap] 29 (0,0))::[])) (fun y=>[an_ sad (List.flatMap S_ (ei_ p Y)),an_ lad (List.flatMap S_ (dn_ p Y)),an_ yad (List.flatMap Stp.cells Y),aO_ Y,an_ pad (List.flatMap Pc.cells p),hq_]) (fun y=>List.length (dn_ p Y) - y.1) ⟨(0:Nat),by simp⟩ zl d_ zh ?_
    rintro ⟨j,hi_j⟩
    dsimp only at hi_j ⊢
    refine Zi 6 (fun hr4=>?_) fun hr4=>?_
    ·refine Zz 11 ?_
     exact al_ Tryz.results8 () rfl m_ zt
    obtain⟨hlx3,x3,hx3,hmx3⟩:=zge (show j<List.length (dn_ p Y) by omega)
    have hax:=(oH_ hmx3).2
    refine Zz 19 ?_
    refine U_ (ι:={y:Nat×Bool // y.1≤List.length (ei_ p Y)∧y.2=(false||(List.take y.1 (ei_ p Y)).any (·==x3))}) (fun y=>[(0,.slice pad (List.length p) pcap),(4,.bool false),(5,zp_ b2 0),(7,.slice lad (List.length (dn_ p Y)) lcp),(9,.slice sad (List.length (ei_ p Y)) scp),(10,.int .i64 (i:Int)),(14,.int .i64 (j:Int)),(15,.bool y.1.2),(16,.int .i64 (y.1.1:Int))]) (fun y=>((b2,.cells #[.slice yad (List.length Y) ycap] 29 (0,0))::[])) (fun y=>[an_ sad (List.flatMap S_ (ei_ p Y)),an_ lad (List.flatMap S_ (dn_ p Y)),an_ yad (List.flatMap Stp.cells Y),aO_ Y,an_ pad (List.flatMap Pc.cells p),hq_]) (fun y=>List.length (ei_ p Y) - y.1.1) ⟨((0:Nat),false),by simp,by simp⟩ zl d_ zh ?_
    rintro ⟨⟨m,bt⟩,hi_m,hbt⟩
    dsimp only at hi_m hbt ⊢
    refine Zi 6 (fun hr5=>?_) fun hr5=>?_
    ·have hbt2:bt=true:=by rw[hbt,List.take_of_length_le (by omega),Bool.false_or];exact List.any_eq_true.2 ⟨x3,(oH_ hmx3).1,by simp⟩
     subst hbt2
     refine Zz 7 ?_
     refine q_ 15 [0,1,2,3,4,5,6,7,8,9] zk zs (Zz 1 ?_)
     refine V_ rfl (bI_ rfl) rfl (Zi 5 (fun hr6=>?_) fun hr6=>?_)
     ·refine Zz 3 ?_
      refine q_ 12 [10,11,12] zk zs (Zi 1 (fun hr7=>?_) fun hr7=>?_)
      ·refine Zz 2 ?_
       refine q_ 0 [13,14,15,16,17,18,19,20,21,22,23,24] zk zs (Zz 24 ?_)
       exact y_ ⟨j+1,hlx3⟩ (by dsimp only;omega) zl d_ zh
      obtain⟨w1,hw1⟩:∃ e0,(dn_ p Y)[(Int.toNat ((j:Int) - 1))]? = some e0:=⟨_,List.getElem?_eq_getElem (by omega)⟩
      have hwx:=pw_lt (rH_ p Y) (by omega) hw1 hx3
      refine Zz 2 ?_
      refine q_ 0 [13,14,15,16,17,18,19,20,21,22,23,24] zk zs (Zi 9 (fun hr8=>?_) fun hr8=>?_)
      ·refine Zz 14 ?_
       exact y_ ⟨j+1,hlx3⟩ (by dsimp only;omega) zl d_ zh
      exfalso;omega
     exfalso;omega
    obtain⟨hlx4,x4,hx4,hmx4⟩:=zge (show m<List.length (ei_ p Y) by omega)
    refine Zz 8 ?_
    refine q_ 11 [0,1] zk zs (Zz 3 ?_)
    cases bt
    ·refine q_ 0 [2,3,4,5,6,7,8,9,10,11,12] zk zs (Zz 8 ?_)
     refine bq_ rfl rfl rfl (df_ rfl rfl) rfl fun r9 hr9=>Zz 11 ?_
     exact y_ ⟨(m+1,r9),hlx4,oG_ hbt hx4 (by rw[Bool.false_or];exact hr9.symm)⟩ (by dsimp only;omega) zl d_ zh
    refine q_ 0 [2,3,4,5,6,7,8,9,10,11,12] zk zs (Zz 20 ?_)
    exact y_ ⟨(m+1,true),hlx4,oG_ hbt hx4 (by simp)⟩ (by dsimp only;omega) zl d_ zh
   obtain⟨hlx1,x1,hx1,hmx1⟩:=zge (show i<List.length Y by omega)
   have hpc:=(hpo _ hmx1).2
   have hbs:=kT_ p (List.take i Y)
   rw[List.length_take]at hbs
   refine Zi 22 (fun hr10=>?_) fun hr10=>?_
   ·obtain⟨z1,hz1⟩:∃ e0,p[(Int.toNat x1.piece)]? = some e0:=⟨_,List.getElem?_eq_getElem (by omega)⟩
    refine Zi 11 (fun hr11=>?_) fun hr11=>?_
    ·refine Zz 12 ?_
     refine aR_ (gh_ rfl rfl) rfl fun r12 hr12=>Zz 10 ?_
     refine U_ (ι:={y:Nat×Bool×Value×Hp // y.1≤List.length (dn_ p Y)∧y.2.1=(decide (Pc.frm z1<0)||(List.take y.1 (dn_ p Y)).any (·==z1.frm))∧zR 3 1 S_ y.2.2.1 (ei_ p (List.take i Y)) y.2.2.2}) (fun y=>[(0,.slice pad (List.length p) pcap),(4,.bool false),(5,zp_ b2 0),(7,.slice lad (List.length (dn_ p Y)) lcp),(9,y.1.2.2.1),(10,.int .i64 (i:Int)),(11,.int .i64 x1.piece),(12,.bool y.1.2.1),(13,.int .i64 (y.1.1:Int))]) (fun y=>((b2,.cells #[.slice yad (List.length Y) ycap] 29 (0,0))::y.1.2.2.2)) (fun y=>[an_ lad (List.flatMap S_ (dn_ p Y)),an_ yad (List.flatMap Stp.cells Y),aO_ Y,an_ pad (List.flatMap Pc.cells p),hq_]) (fun y=>List.length (dn_ p Y) - y.1.1) ⟨((0:Nat),r12,sv_Rint,H_Rint),by simp,by simp[hr12],hr_Rint⟩ zl zp zh ?_
     rintro ⟨⟨k,bo,sv_Rint,H_Rint⟩,hi_k,hbo,hr_Rint⟩
     dsimp only at hi_k hbo hr_Rint ⊢
     refine Zi 6 (fun hr13=>?_) fun hr13=>?_
     ·have hbo2:bo=true:=by rw[hbo,List.take_of_length_le (by omega)];exact ax_in hmx1 (by omega) hz1
      subst hbo2
      refine Zz 9 ?_
      refine i_ (bI_ rfl) rfl (Zz 12 ?_)
      refine Q_ g_ s_ C_ rfl rfl rfl rfl rfl rfl fun b4=>?_
      refine aE_ (List.flatMap S_ [z1.frm]) d_ rfl ?_
      refine cq_ (news:=List.flatMap S_ [z1.frm]) cf_ hr_Rint rfl rfl (fun q=>by cases q) (by simp) E_ (by rw[ct_ S_ 1 P_];rfl) zf (fun u hu=>aw_ bN_ hu) (by simp only[maxLen];((try simp only[List.length_append,List.length_cons,List.length_nil]);omega)) (by ((try simp only[List.length_append,List.length_cons,List.length_nil]);omega)) rfl fun sv1 Hr1 hr1=>?_
      refine w_ List.perm_append_comm ?_
      have hq1:=zsa hr1
      refine Zz 9 ?_
      exact y_ ⟨(i+1,sv1,Hr1),hlx1,(by rw[oS_ hx1 (by omega) hz1];exact hq1)⟩ (by dsimp only;omega) zl zp (fun _ _ h=>h.2)
     obtain⟨hlx2,x2,hx2,hmx2⟩:=zge (show k<List.length (dn_ p Y) by omega)
     refine Zz 8 ?_
     refine q_ 12 [0,1] zk zs (Zz 3 ?_)
     cases bo
     ·refine q_ 0 [2,3,4,5,6,7,8,9,10,11,12,13] zk zs (Zz 9 ?_)
      refine bq_ rfl rfl rfl (df_ rfl rfl) rfl fun r14 hr14=>Zz 11 ?_
      exact y_ ⟨(k+1,r14,sv_Rint,H_Rint),hlx2,oG_ hbo hx2 (by rw[Bool.false_or];exact hr14.symm),hr_Rint⟩ (by dsimp only;omega) zl zp zh
     refine q_ 0 [2,3,4,5,6,7,8,9,10,11,12,13] zk zs (Zz 21 ?_)
     exact y_ ⟨(k+1,true,sv_Rint,H_Rint),hlx2,oG_ hbo hx2 (by simp),hr_Rint⟩ (by dsimp only;omega) zl zp zh
    exfalso;omega
   refine Zz 11 ?_
   exact y_ ⟨(i+1,sv_Rint,H_Rint),hlx1,(by rw[oT_ hx1 (by omega)];exact hr_Rint)⟩ (by dsimp only;omega) zl zp zh
  refine Zz 9 ?_
  exact al_ Tryz.results8 () rfl m_ zt
 refine Zz 10 ?_
 exact al_ Tryz.results8 () rfl m_ zt
end Go.Proofs.YtkeanlfhghlgiaaGreatDoor
