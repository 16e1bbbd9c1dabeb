/-
  Part of the proof of the law ProofTrimmed over this seat: the small logic, the data, the contracts of functions (no condition).
-/
import Derived.Test.YtkeanlfhghlgiaaGreatDoorQProofTrimmed4
import Derived.Test.YtkeanlfhghlgiaaGreatDoorQProofTrimmed13
set_option linter.unusedVariables false
set_option linter.unusedSimpArgs false
set_option linter.unusedSectionVars false
set_option maxHeartbeats 1000000
namespace Go.Proofs.YtkeanlfhghlgiaaGreatDoor
open Go Go.Sx Go.Proofs
attribute [local irreducible] Code.wp wpList wpAnyH
open Go.Vs
section
variable {P:Program} {N:Nf} {fr:Fr} {H:Hp} {Γ:List Fct}
theorem nd_:∀ xs:List Int,xs.flatMap V_=xs.map (Value.int .i64)
  | []=>rfl
  | x::xs=>by simp only[List.flatMap_cons,nd_ xs,List.map_cons];rfl
theorem iN_ {f:FuncId} {args:Array Value} {r:Value} {g:Nat} {cur:Array Value} {T:TypeId} {d:Array Int} (hc:dG_ P f)
    (h:∀ v:Vw,v.sat [(g,.cells cur T (0,0))]→Calls P f args v.w fun e w'=>e=.returned r∧∃ n os,w'=Sort.grow (Sort.putRow (Value.int .i64) (Sort.ahead v.w n) g 0 d) os) :
    Tri P f args [(g,.cells cur T (0,0))] Γ (fun _:Unit=>r) (fun _=>[(g,.cells (Sort.putCells (Value.int .i64) 0 d cur) T (0,0))]) (fun _=>[]) :=
  ⟨hc,fun v h1 _=>(h v h1).mono fun e w' ⟨he,n,os,hw⟩=>by
    have hg:=(h1.own _ List.mem_cons_self)
    have hlt:g<v.w.heap.size:=(Array.getElem?_eq_some_iff.1 hg.1).1
    have hb:∀ b,b<v.w.heap.size→w'.heap[b]? = if b=g then some (.cells (Sort.putCells (Value.int .i64) 0 d cur) T (0,0)) else v.w.heap[b]? := fun b hb=>by
      rw[hw]
      simp only[Sort.grow,Sort.putRow,Sort.mapBlock,Sort.ahead]
      rw[Array.getElem?_append_left (by simpa using hb),Array.getElem?_modify]
      by_cases e:b=g
      · subst e
        simp only[if_true,hg.1,Option.map_some,Sort.onCells]
      · rw[if_neg (fun q=>e q.symm),if_neg e]
    have hsz:v.w.heap.size≤w'.heap.size:=by rw[hw];simp[Sort.grow,Sort.putRow,Sort.mapBlock,Sort.ahead]
    refine⟨(),⟨v.im,w',v.sl⟩,he,rfl,⟨fun p hp=>?_,by simp,fun b hbb=>Nat.lt_of_lt_of_le (h1.lt b hbb) hsz⟩,trivial,⟨by rw[hw];rfl,by rw[hw];rfl,by rw[hw];rfl,hsz,fun b hbb hn=>?_,fun _ h=>h,fun _ h=>.inl h,fun b hm=>.inl (by simpa using hm),rfl,.inr (by rw[hw];exact Nat.le_add_right _ _)⟩⟩
    · simp only[List.mem_singleton]at hp
      subst hp
      exact⟨by show w'.heap[g]? = _;rw[hb g hlt,if_pos rfl],hg.2⟩
    · have hn':b≠g:=by simpa using hn
      show w'.heap[b]? = _
      rw[hb b hbb,if_neg hn']⟩
theorem lb_ {cur:Array Value} {d:List Int} (hs:d.length≤cur.size):(Sort.putCells (Value.int .i64) 0 d.toArray cur).toList.take d.length=d.flatMap V_:=by
 rw[nd_]
 apply List.ext_getElem?
 intro j
 rw[List.getElem?_take,List.getElem?_map]
 split
 ·rename_i hj
  simp only[Sort.putCells,Array.getElem?_toList,Array.getElem?_mapIdx]
  rw[Array.getElem?_eq_getElem (by omega)]
  simp only[Option.map_some,Nat.zero_le,true_and,Nat.zero_add,List.size_toArray,hj,if_true,Nat.sub_zero]
  rw[List.getElem?_eq_getElem hj]
  simp only[Option.map_some]
  rw[getElem!_pos d.toArray j (by simpa using hj)]
  rfl
 rename_i hj
 rw[List.getElem?_eq_none (by omega)];rfl
theorem lc_ {cur:Array Value} {d:Array Int}:(Sort.putCells (Value.int .i64) 0 d cur).size=cur.size:=by simp[Sort.putCells]
theorem im_ {zs:List Int}:Lib.compact zs=((List.range zs.length).filter fun j=>decide (j=0∨zs[j]! ≠ zs[j - 1]!)).map fun j=>zs[j]! := by
 unfold Lib.compact Lib.compactUpTo Lib.keeps
 have e:∀ j,zs.toArray[j]! = zs[j]! := fun j=>by
   by_cases h:j<zs.length
   · rw[getElem!_pos zs.toArray j (by simpa using h),getElem!_pos zs j h];simp
   · rw[getElem!_neg zs.toArray j (by simpa using h),getElem!_neg zs j h]
 rw[List.map_congr_left fun j _=>e j]
 congr 2
 funext j
 rw[e,e]
theorem il_ (zs:List Int):(Lib.compact zs).length≤zs.length:=by
  rw[im_,List.length_map]
  have:=List.length_filter_le (fun j=>decide (j=0∨zs[j]! ≠ zs[j - 1]!)) (List.range zs.length)
  simpa using this
theorem mh_ {zs:List Int} (x:Int):x∈Lib.compact zs↔x∈zs:=by
 rw[im_,List.mem_map]
 constructor
 ·rintro ⟨j,hj,rfl⟩
  have hl:=List.mem_range.1 (List.mem_filter.1 hj).1
  rw[getElem!_pos zs j hl]
  exact List.getElem_mem hl
 intro hx
 obtain⟨j,hj,e⟩:=List.mem_iff_getElem.1 hx
 clear hx
 induction j with
 | zero=>exact⟨0,List.mem_filter.2 ⟨List.mem_range.2 hj,by simp⟩,by rw[getElem!_pos zs 0 hj];exact e⟩
 | succ j ih =>
   by_cases h:zs[j+1]! = zs[j]!
   · have hj':j<zs.length:=by omega
     refine ih hj' ?_
     rw[getElem!_pos zs (j+1) hj,getElem!_pos zs j hj']at h
     rw[← h];exact e
   · exact⟨j+1,List.mem_filter.2 ⟨List.mem_range.2 hj,decide_eq_true (.inr h)⟩,by rw[getElem!_pos zs (j+1) hj];exact e⟩
end
theorem nB_ {cur:Array Value} {n:Nat} {xs:List Int} (h:cur.toList.take (n*1)=xs.flatMap V_):∀ (j:Nat) (x:Int),xs[j]? = some x→cur[j]? = some (.int .i64 x):=by
 intro j x hj
 have h1:=t_ M_ hj 0 (.int .i64 x) rfl
 rw[← h,Nat.mul_one,Nat.add_zero]at h1
 rw[List.getElem?_take]at h1
 split at h1
 ·simpa using h1
 cases h1
theorem kj_ {g n cap:Nat} {cur:Array Value} {xs:List Int} {v:Vw} (hs:v.sat [(g,.cells cur 3 (0,0))]) (ht:cur.toList.take (xs.length*1)=xs.flatMap V_):Sort.Holds (Value.int .i64) v.w g 0 xs.toArray:=by
 intro j hj
 have hb:=(hs.own _ List.mem_cons_self).1
 simp only[List.size_toArray]at hj
 have hc:cur[j]? = some (Value.int .i64 xs[j]):=nB_ ht j xs[j] (List.getElem?_eq_getElem hj)
 refine⟨?_,?_⟩
 ·simp only[World.cell?,Nat.zero_add,hb,Option.isSome_none,Bool.false_eq_true,if_false]
  rw[hc,getElem!_pos xs.toArray j (by simpa using hj)]
  rfl
 simp[World.frozen?,hb]
theorem sk_ {sv:Value} {xs:List Int} {Hr:Hp} (h:aD_ 3 1 sv xs.length (xs.flatMap V_) Hr) (hl:xs.length≤1000000000000) :
    Tri Tryz.prog 51 #[sv] Hr [] (fun _:{y:Hp // aD_ 3 1 sv xs.length ((xs.mergeSort fun x y=>decide (x≤y)).flatMap V_) y}=>.tuple #[]) (fun y=>y.1) (fun _=>[]):=by
  rcases h.2 with⟨rfl,h2,rfl⟩|⟨g,cap,cur,rfl,rfl,h3,h4,h5,h6⟩
  · obtain rfl:xs=[]:=List.eq_nil_of_length_eq_zero h2
    have T:=di_ (P:=Tryz.prog) (H:=[]) (Γ:=[]) (callable Tryz.func51 rfl rfl) (fun v _ _=>(Tryz.slices_Sort_int_none none 0 v.w).mono (by rintro e w' ⟨rfl,rfl⟩;exact⟨rfl,⟨rfl,rfl,rfl,Nat.le_refl _,fun _ _=>rfl⟩,.inr (Nat.le_refl _)⟩))
    exact⟨T.callable,fun v a b=>(T.run v a b).mono (by rintro e w' ⟨x,v',e1,e2,e3,e4,e5⟩;exact⟨⟨[],by simpa using aD_.nil _ _⟩,v',e1,e2,e3,e4,e5⟩)⟩
  · have T:=iN_ (P:=Tryz.prog) (Γ:=[]) (d:=(xs.mergeSort fun x y=>decide (x≤y)).toArray) (callable Tryz.func51 rfl rfl) (fun v hs=>Tryz.slices_Sort_int g 0 cap xs v.w (kj_ (n:=0) (cap:=0) hs h6) (Array.getElem?_eq_some_iff.1 (hs.own _ List.mem_cons_self).1).1 (by omega))
    have hsz:(xs.mergeSort fun x y=>decide (x≤y)).length=xs.length:=List.length_mergeSort _
    refine⟨T.callable,fun v a b=>(T.run v a b).mono ?_⟩
    rintro e w' ⟨x,v',e1,e2,e3,e4,e5⟩
    refine⟨⟨_,by rw[cH_ V_ 1 M_,hsz],.inr ⟨g,cap,_,rfl,rfl,h3,h4,by rw[lc_];exact h5,?_⟩⟩,v',e1,e2,e3,e4,e5⟩
    have:=lb_ (cur:=cur) (d:=xs.mergeSort fun x y=>decide (x≤y)) (by rw[hsz,h5];omega)
    rw[hsz]at this
    rw[Nat.mul_one];exact this
theorem od_ {sv:Value} {xs:List Int} {Hr:Hp} (h:aD_ 3 1 sv xs.length (xs.flatMap V_) Hr) (hl:xs.length≤1000000000000) :
    Tri Tryz.prog 52 #[sv] Hr [] (fun y:{y:Value×Hp // aD_ 3 1 y.1 (Lib.compact xs).length ((Lib.compact xs).flatMap V_) y.2}=>y.1.1) (fun y=>y.1.2) (fun _=>[]):=by
  rcases h.2 with⟨rfl,h2,rfl⟩|⟨g,cap,cur,rfl,rfl,h3,h4,h5,h6⟩
  · obtain rfl:xs=[]:=List.eq_nil_of_length_eq_zero h2
    have T:=di_ (P:=Tryz.prog) (H:=[]) (Γ:=[]) (callable Tryz.func52 rfl rfl) (fun v _ _=>(Tryz.slices_Compact_int_empty none 0 v.w).mono (by rintro e w' ⟨rfl,rfl⟩;exact⟨rfl,⟨rfl,rfl,rfl,Nat.le_refl _,fun _ _=>rfl⟩,.inr (Nat.le_refl _)⟩))
    exact⟨T.callable,fun v a b=>(T.run v a b).mono (by rintro e w' ⟨x,v',e1,e2,e3,e4,e5⟩;exact⟨⟨(.slice none 0 0,[]),by simpa [Lib.compact,Lib.compactUpTo] using aD_.nil _ _⟩,v',e1,e2,e3,e4,e5⟩)⟩
  · have hcl:=il_ xs
    have T:=iN_ (P:=Tryz.prog) (Γ:=[]) (r:=.slice (some ⟨g,0,none⟩) (Lib.compact xs).length cap) (d:=(Lib.compact xs++List.replicate (xs.length - (Lib.compact xs).length) 0).toArray) (callable Tryz.func52 rfl rfl) (fun v hs=>(Tryz.slices_Compact_int g 0 cap xs v.w (kj_ (n:=0) (cap:=0) hs h6) (by omega) h3).mono (by
      rintro e w' ⟨rfl,q,rfl⟩
      exact⟨rfl,q,#[],by rw[Sort.grow_empty]⟩))
    refine⟨T.callable,fun v a b=>(T.run v a b).mono ?_⟩
    rintro e w' ⟨x,v',e1,e2,e3,e4,e5⟩
    refine⟨⟨(.slice (some ⟨g,0,none⟩) (Lib.compact xs).length cap,_),by rw[cH_ V_ 1 M_],.inr ⟨g,cap,_,rfl,rfl,by omega,h4,by rw[lc_];exact h5,?_⟩⟩,v',e1,e2,e3,e4,e5⟩
    have hd:(Lib.compact xs++List.replicate (xs.length - (Lib.compact xs).length) (0:Int)).length=xs.length:=by simp;omega
    have:=lb_ (cur:=cur) (d:=Lib.compact xs++List.replicate (xs.length - (Lib.compact xs).length) 0) (by rw[hd,h5];omega)
    rw[hd]at this
    have h7:=congrArg (List.take (Lib.compact xs).length) this
    rw[List.take_take,Nat.min_eq_left hcl,List.flatMap_append,List.take_append_of_le_length (by rw[cH_ V_ 1 M_];omega),List.take_of_length_le (l:=(Lib.compact xs).flatMap V_) (by rw[cH_ V_ 1 M_];omega)]at h7
    rw[Nat.mul_one];exact h7
end Go.Proofs.YtkeanlfhghlgiaaGreatDoor
namespace Go.Proofs.YtkeanlfhghlgiaaGreatDoor
open Go Go.Sx Go.Proofs
attribute [local irreducible] Code.wp wpList wpAnyH
open Go.Vs
def jR_ (Y:List Stp):List Int:=Y.flatMap fun s=>if 0≤s.piece then [s.piece] else []
def dC_ (Y:List Stp):List Int:=Lib.compact ((jR_ Y).mergeSort fun x y=>decide (x≤y))
theorem lg_ {Y:List Stp} {i:Nat} {x:Stp} (h:Y[i]? = some x):jR_ (List.take (i+1) Y)=jR_ (List.take i Y)++(if 0≤x.piece then [x.piece] else []):=by
  unfold jR_
  rw[List.take_add_one,h,Option.toList_some,List.flatMap_append];simp
theorem fU_ (Y:List Stp):(jR_ Y).length≤Y.length:=by
  unfold jR_
  induction Y with
  | nil=>simp
  | cons s Y ih =>
    rw[List.flatMap_cons,List.length_append,List.length_cons]
    have h2:(if 0≤s.piece then [s.piece] else ([]:List Int)).length≤1:=by split<;>simp
    omega
theorem li_ (Y:List Stp):(dC_ Y).length≤Y.length:=by
  have h:=il_ ((jR_ Y).mergeSort fun x y=>decide (x≤y))
  rw[List.length_mergeSort]at h
  exact Nat.le_trans h (fU_ Y)
theorem lh_ (Y:List Stp) (x:Int):x∈dC_ Y↔∃ s∈Y,s.piece=x∧0≤x:=by
 unfold dC_ jR_
 rw[mh_,List.mem_mergeSort,List.mem_flatMap]
 constructor
 ·rintro ⟨s,hs,h⟩
  split at h
  ·rw[List.mem_singleton]at h;subst h;exact⟨s,hs,rfl,by assumption⟩
  simp at h
 rintro ⟨s,hs,rfl,h⟩
 exact⟨s,hs,by rw[if_pos h];simp⟩
theorem mK_ (l:List Stp) (ad:Option Addr) (cap:Nat) (hl:l.length≤1000000):Tri Tryz.prog 19 #[.agg #[.slice ad (List.length l) cap]] [] [am_ ad (List.flatMap Stp.cells l)] (fun y:{y:Option Addr×Nat // (dC_ l).length≤y.2∧y.2≤maxLen∧(y.1=none→y.2=0)}=>.slice y.1.1 (dC_ l).length y.1.2) (fun _=>[]) (fun y=>[am_ y.1.1 (List.flatMap V_ (dC_ l))]):=by
 refine w_ Tryz.func19 rfl rfl Tryz.ntmps19 rfl fun v0=>?_
 refine Zz 2 ?_
 refine ay_ rfl rfl fun b1=>Zz 13 ?_
 refine U_ (ι:={y:Nat×Value×Hp // y.1≤List.length l∧zR 3 1 V_ y.2.1 (jR_ (List.take y.1 l)) y.2.2}) (fun y=>[(2,y.1.2.1),(6,.slice ad (List.length l) cap),(7,.int .i64 (List.length l:Int)),(8,.int .i64 (y.1.1:Int))]) (fun y=>(y.1.2.2)) (fun y=>[am_ ad (List.flatMap Stp.cells l)]) (fun y=>List.length l - y.1.1) ⟨((0:Nat),(.slice none 0 0),[]),by simp,(aD_.nil _ _)⟩ zl m_ zh ?_
 rintro ⟨⟨i,sv_Rint,H_Rint⟩,hi_i,hr_Rint⟩
 dsimp only at hi_i hr_Rint ⊢
 refine Zi 2 (fun hr1=>?_) fun hr1=>?_
 ·rw[show List.take i l=l from List.take_of_length_le (by omega)]at hr_Rint
  refine Zz 9 ?_
  refine n_ (sk_ hr_Rint (by (have:=fU_ l;(try simp only[List.length_append,List.length_cons,List.length_nil]);omega))) rfl aH_ zt rfl fun⟨Hso1,hs1⟩=>?_
  dsimp only
  have hso1:aD_ 3 1 sv_Rint (List.length (((jR_ l)).mergeSort fun x y=>decide (x≤y))) (List.flatMap V_ (((jR_ l)).mergeSort fun x y=>decide (x≤y))) Hso1:=by rw[List.length_mergeSort];exact hs1
  refine x_ dK_ (Zz 5 ?_)
  refine n_ (od_ hso1 (by rw[List.length_mergeSort];(have:=fU_ l;(try simp only[List.length_append,List.length_cons,List.length_nil]);omega))) rfl aH_ zt rfl fun⟨⟨svk,Hk⟩,hk⟩=>?_
  dsimp only
  refine x_ dK_ (Zz 4 ?_)
  refine ca_ hk aH_ fun ad2 cp2 had2 hcad2 hmad2 hzad2=>?_
  exact al_ Tryz.results19 ⟨(ad2,cp2),hcad2,hmad2,hzad2⟩ (dj_ rfl had2) m_ zf
 obtain⟨hlx1,x1,hx1,hmx1⟩:=zge (show i<List.length l by omega)
 have hbi:=fU_ (List.take i l)
 rw[List.length_take]at hbi
 refine Zz 12 ?_
 refine J_ bK_ rfl fun b2=>y_ 0 aq_ rfl rfl rfl rfl rfl rfl (Zi 6 (fun hr2=>?_) fun hr2=>?_)
 ·refine Zz 10 ?_
  exact z_ ⟨(i+1,sv_Rint,H_Rint),hlx1,(by rw[lg_ hx1,if_neg (by assumption),List.append_nil];exact hr_Rint)⟩ (by dsimp only;omega) zl G_ zh
 refine Zz 7 ?_
 refine S_ f_ p_ D_ rfl rfl rfl rfl rfl rfl fun b3=>?_
 refine aI_ (List.flatMap V_ [x1.piece]) d_ rfl ?_
 refine cU_ (news:=List.flatMap V_ [x1.piece]) co_ hr_Rint rfl rfl (fun q=>by cases q) (by simp) G_ (by rw[cH_ V_ 1 M_];rfl) zf (fun u hu=>aA_ bU_ hu) (by simp only[maxLen];(have:=fU_ l;(try simp only[List.length_append,List.length_cons,List.length_nil]);omega)) (by (have:=fU_ l;(try simp only[List.length_append,List.length_cons,List.length_nil]);omega)) rfl fun sv1 Hr1 hr1=>?_
 refine x_ List.perm_append_comm ?_
 have hq1:=zsa hr1
 refine Zz 8 ?_
 exact z_ ⟨(i+1,sv1,Hr1),hlx1,(by rw[lg_ hx1,if_pos (by assumption)];exact hq1)⟩ (by dsimp only;omega) zl G_ (fun _ _ h=>h.2)
end Go.Proofs.YtkeanlfhghlgiaaGreatDoor
namespace Go.Proofs.YtkeanlfhghlgiaaGreatDoor
open Go Go.Sx Go.Proofs
attribute [local irreducible] Code.wp wpList wpAnyH
open Go.Vs
theorem rA_ {p:List Pc} {f:Fc} {bu:Int} {Y:List Stp} {e:Int} (h:eV_ p f bu Y e) (he:e=0):PrfL p (atS p) f Y∧cP_ p=0∧wfB f=true:=by
 subst he
 unfold eV_ at h
 by_cases hw:wfB f=false
 ·rw[if_pos hw]at h;exact absurd h.1 (by decide)
 rw[if_neg hw]at h
 obtain⟨c,e0,hA,h⟩:=h
 by_cases h0:e0=0
 ·subst h0
  rw[if_pos rfl]at h
  by_cases hd:nm_ c.facts f=false
  ·rw[if_pos hd]at h;exact absurd h.1 (by decide)
  rw[if_neg hd]at h
  obtain⟨_,L,hP,hl,hT⟩:=h
  exact⟨hB_ hP hT,hA.good.1,by simpa using hw⟩
 rw[if_neg h0]at h;exact absurd h.1.symm h0
end Go.Proofs.YtkeanlfhghlgiaaGreatDoor
namespace Go.Proofs.YtkeanlfhghlgiaaGreatDoor
open Go Go.Sx Go.Proofs
attribute [local irreducible] Code.wp wpList wpAnyH
open Go.Vs
theorem pR_ {l:List Int} {i:Nat} {x a:Int} (h:l[i]? = some x):(List.take (i+1) l).any (·==a)=((List.take i l).any (·==a)||(x==a)):=by
  rw[List.take_add_one,h,Option.toList_some,List.any_append];simp
theorem oL_ {b r:Bool} {l:List Int} {i:Nat} {x a:Int} {c:Bool} (hb:b=(c||(List.take i l).any (·==a))) (h:l[i]? = some x) (hr:r=(b||(x==a))):r=(c||(List.take (i+1) l).any (·==a)):=by
  rw[pR_ h,← Bool.or_assoc,← hb];exact hr
end Go.Proofs.YtkeanlfhghlgiaaGreatDoor
namespace Go.Proofs.YtkeanlfhghlgiaaGreatDoor
open Go Go.Sx Go.Proofs
attribute [local irreducible] Code.wp wpList wpAnyH
open Go.Vs
structure SameS (Y Z:List Stp):Prop where
  len:Y.length=Z.length
  eq:∀ (i:Nat) s t,Y[i]? = some s→Z[i]? = some t→s.rule=t.rule∧s.fact=t.fact∧s.piece=t.piece∧s.frm=t.frm
theorem sv_ (Y:List Stp) (yad:Option Addr) (ycap:Nat) (Z:List Stp) (zad:Option Addr) (zcap:Nat) (hS:SameS Y Z) (hl:Y.length≤1000000) (hfl:∀ s∈Y,s.frm.length≤1000000):Tri Tryz.prog 23 #[.agg #[.slice yad (List.length Y) ycap],.agg #[.slice zad (List.length Z) zcap]] [] [am_ yad (List.flatMap Stp.cells Y),aB_ Y,am_ zad (List.flatMap Stp.cells Z),aB_ Z] (fun _:Unit=>.bool true) (fun _=>[]) (fun _=>[]):=by
 refine w_ Tryz.func23 rfl rfl Tryz.ntmps23 rfl fun v0=>?_
 have hlen:=hS.len
 refine Zz 2 ?_
 refine ay_ rfl rfl fun b1=>ay_ rfl rfl fun b2=>Zi 12 (fun hr1=>?_) fun hr1=>?_
 ·refine Zz 12 ?_
  refine U_ (ι:={y:Nat // y≤List.length Y}) (fun y=>[(2,zp_ b1 0),(3,zp_ b2 0),(4,.bool false),(5,.int .i64 (y.1:Int))]) (fun y=>((b2,.cells #[.slice zad (List.length Z) zcap] 29 (0,0))::((b1,.cells #[.slice yad (List.length Y) ycap] 29 (0,0))::[]))) (fun y=>[am_ yad (List.flatMap Stp.cells Y),aB_ Y,am_ zad (List.flatMap Stp.cells Z),aB_ Z]) (fun y=>List.length Y - y.1) ⟨(0:Nat),by simp⟩ zl zp zh ?_
  rintro ⟨i,hi_i⟩
  dsimp only at hi_i ⊢
  refine Zi 7 (fun hr2=>?_) fun hr2=>?_
  ·refine Zz 11 ?_
   exact al_ Tryz.results23 () rfl m_ zt
  obtain⟨hlx1,x1,hx1,hmx1⟩:=zge (show i<List.length Y by omega)
  have hlz:i<List.length Z:=by have:=hS.len;omega
  have hly1:i<List.length Z:=hlz
  obtain⟨y1,hy1⟩:∃ e0,Z[i]? = some e0:=⟨_,List.getElem?_eq_getElem hly1⟩
  have hmy1:y1∈Z:=List.mem_of_getElem? hy1
  obtain⟨he1,he2,he3,he4⟩:=hS.eq i x1 y1 hx1 hy1
  have hf1:=hfl x1 hmx1
  refine Zz 14 ?_
  refine J_ bK_ rfl fun b3=>y_ 0 aq_ rfl rfl rfl rfl rfl rfl (Zz 9 ?_)
  refine J_ bK_ rfl fun b4=>y_ 0 aq_ rfl rfl rfl rfl rfl rfl (Zi 9 (fun hr3=>?_) fun hr3=>?_)
  ·refine Zz 10 ?_
   refine aN_ (dp_ (p:=x1.fact) (q:=y1.fact) rfl rfl) rfl fun r4 hr4=>Zz 2 ?_
   cases r4
   ·replace hr4:=zdf hr4
    refine Zi 9 (fun hr5=>?_) fun hr5=>?_
    ·refine Zi 15 (fun hr6=>?_) fun hr6=>?_
     ·refine Zz 12 ?_
      refine U_ (ι:={y:Nat // y≤List.length x1.frm}) (fun y=>[(2,zp_ b1 0),(3,zp_ b2 0),(4,.bool false),(5,.int .i64 (i:Int)),(6,zp_ b3 0),(7,zp_ b4 0),(8,.int .i64 (y.1:Int))]) (fun y=>((b4,.cells #[.int .i64 y1.rule,.int .i64 (Fc.kind y1.fact),str (Fc.a y1.fact),str (Fc.b y1.fact),str (Fc.r y1.fact),.int .i64 (Fc.lo y1.fact),.int .i64 (Fc.hi y1.fact),.int .i64 y1.piece,.slice y1.ad (List.length y1.frm) y1.cap] 48 (0,0))::((b3,.cells #[.int .i64 x1.rule,.int .i64 (Fc.kind x1.fact),str (Fc.a x1.fact),str (Fc.b x1.fact),str (Fc.r x1.fact),.int .i64 (Fc.lo x1.fact),.int .i64 (Fc.hi x1.fact),.int .i64 x1.piece,.slice x1.ad (List.length x1.frm) x1.cap] 48 (0,0))::((b2,.cells #[.slice zad (List.length Z) zcap] 29 (0,0))::((b1,.cells #[.slice yad (List.length Y) ycap] 29 (0,0))::[]))))) (fun y=>[am_ yad (List.flatMap Stp.cells Y),aB_ Y,am_ zad (List.flatMap Stp.cells Z),aB_ Z]) (fun y=>List.length x1.frm - y.1) ⟨(0:Nat),by simp⟩ zl zp zh ?_
      rintro ⟨j,hi_j⟩
      dsimp only at hi_j ⊢
      refine Zi 7 (fun hr7=>?_) fun hr7=>?_
      ·refine Zz 11 ?_
       exact z_ ⟨i+1,hlx1⟩ (by dsimp only;omega) zl zp zh
      obtain⟨hlx2,x2,hx2,hmx2⟩:=zge (show j<List.length x1.frm by omega)
      have hy2:y1.frm[j]? = some x2:=he4▸hx2
      have hly2:j<List.length y1.frm:=by rw[← he4];omega
      refine Zz 9 ?_
      refine s_ 0 [0,1,2,3,4,5,6,7,8,9,10] zk zs (Zz 3 ?_)
      refine R_ rfl (X_ f_ p_ rfl rfl (fun v _ h=>E_ (n:=1) M_ (by decide) (by exact (h.2.1 x1 hmx1)) hx2) (by omega) (by first|omega|(simp;done))) rfl ?_
      refine R_ rfl (av_ (ad:=x1.ad) T_ rfl (fun v _ h=>by exact (h.2.1 x1 hmx1)) (t_ M_ hx2 0 _ rfl)) rfl (Zz 3 ?_)
      refine R_ rfl (X_ f_ p_ rfl rfl (fun v _ h=>E_ (n:=1) M_ (by decide) (by exact (h.2.2.2.1 y1 hmy1)) hy2) (by omega) (by first|omega|(simp;done))) rfl ?_
      refine R_ rfl (av_ (ad:=y1.ad) T_ rfl (fun v _ h=>by exact (h.2.2.2.1 y1 hmy1)) (t_ M_ hy2 0 _ rfl)) rfl ?_
      refine Zi 0 (fun hr8=>?_) fun hr8=>?_
      ·refine Zz 12 ?_
       exact z_ ⟨j+1,hlx2⟩ (by dsimp only;omega) zl zp zh
      first|exact absurd he1 hr8|exact absurd he2 hr8|exact absurd he3 hr8|exact absurd rfl hr8|(exfalso;rw[he4]at hr8;exact hr8 rfl)
     first|exact absurd he1 hr6|exact absurd he2 hr6|exact absurd he3 hr6|exact absurd rfl hr6|(exfalso;rw[he4]at hr6;exact hr6 rfl)
    first|exact absurd he1 hr5|exact absurd he2 hr5|exact absurd he3 hr5|exact absurd rfl hr5|(exfalso;rw[he4]at hr5;exact hr5 rfl)
   replace hr4:=zdt hr4
   first|exact absurd he1 hr4|exact absurd he2 hr4|exact absurd he3 hr4|exact absurd rfl hr4|(exfalso;rw[he4]at hr4;exact hr4 rfl)
  first|exact absurd he1 hr3|exact absurd he2 hr3|exact absurd he3 hr3|exact absurd rfl hr3|(exfalso;rw[he4]at hr3;exact hr3 rfl)
 exact absurd (congrArg Nat.cast hS.len) hr1
end Go.Proofs.YtkeanlfhghlgiaaGreatDoor
namespace Go.Proofs.YtkeanlfhghlgiaaGreatDoor
open Go Go.Sx Go.Proofs
attribute [local irreducible] Code.wp wpList wpAnyH
open Go.Vs
theorem my_ {l m:List Int} (hl:l.Pairwise fun x y=>x<y) (hm:m.Pairwise fun x y=>x<y) (h:∀ x,x∈l↔x∈m):l=m:=fl_ (fun x=>Int.lt_irrefl x) (fun h1 h2=>Int.lt_trans h1 h2) hl hm h
theorem sE_ {p:List Pc} {A:List Str} {f:Fc} {L Y:List Stp} (hP:PrfL p A f Y) (hT:TrmL L Y):∀ k n,n+k+1=Y.length→NdS Y n:=by
 intro k
 induction k using Nat.strongRecOn with
 | ind k ih =>
   intro n hn
   by_cases h0:k=0
   · subst h0
     obtain⟨s,hs,_⟩:=gN_ hP
     have:=NdS.last hs
     rw[dM_ hP.nd hs]at this
     rwa [show Y.length - 1=n by omega]at this
   · obtain⟨m,y,hm,hy,hq⟩:=hT.used n (by omega)
     have hml:=(List.getElem?_eq_some_iff.1 hy).1
     have h1:=ih (Y.length - 1 - m) (by omega) m (by omega)
     have ht:Y[((n:Int)).toNat]? = some (Y[n]'(by omega)):=by rw[Int.toNat_natCast];exact List.getElem?_eq_getElem _
     have:=NdS.step h1 hy hq ht
     rwa [dM_ hP.nd ht,Int.toNat_natCast]at this
theorem oS_ {p:List Pc} {A:List Str} {f:Fc} {L Y Z:List Stp} (hP:PrfL p A f Y) (hT:TrmL L Y) (h:kD_ Y Z):SameS Y Z:=by
 obtain⟨O,h⟩:=h
 have hO:O=(List.range Y.length).map Int.ofNat:=by
   refine my_ h.inc (List.pairwise_map.2 (List.pairwise_lt_range.imp fun hab=>Int.ofNat_lt.2 hab)) fun x=>⟨fun hx=>?_,fun hx=>?_⟩
   · obtain⟨n,rfl,hn⟩:=h.nat x hx
     exact List.mem_map.2 ⟨n,List.mem_range.2 (ix_ hn),rfl⟩
   · obtain⟨n,hn,rfl⟩:=List.mem_map.1 hx
     have:=List.mem_range.1 hn
     exact h.all n (sE_ hP hT (Y.length - 1 - n) n (by omega))
 have hg:∀ i:Nat,i<Y.length→O[i]? = some (i:Int):=fun i hi=>by rw[hO];simp[hi]
 refine⟨by rw[h.len,hO];simp,fun i s t hs ht=>?_⟩
 have hi:=(List.getElem?_eq_some_iff.1 hs).1
 obtain⟨e1,e2,e3,e4⟩:=h.step i i s t (hg i hi) hs ht
 refine⟨e1.symm,e2.symm,e3.symm,?_⟩
 rw[e4]
 symm
 conv=>rhs;rw[← List.map_id s.frm]
 refine List.map_congr_left fun q hq=>?_
 have ho:=fT_ hP i s hs q hq
 rw[ty_ hP.nd ho.1 (by omega)]
 have:=lM_ h.inc (hg q.toNat (by omega))
 rw[show ((q.toNat:Nat):Int)=q by omega]at this
 rw[this];simp
theorem sz_ {L Y:List Stp} (hT:TrmL L Y):∀ z∈dC_ Y,z∈dC_ L:=fun z hz=>by
  obtain⟨y,hy,rfl,h0⟩:=(lh_ Y z).1 hz
  obtain⟨s,hs,e,_⟩:=hT.pcs y hy
  exact (lh_ L _).2 ⟨s,hs,e.symm,h0⟩
theorem prf_nd {p:List Pc} {A:List Str} {f:Fc} {Y:List Stp} (hP:PrfL p A f Y) {i k:Nat} {s t:Stp} (hs:Y[i]? = some s) (ht:Y[k]? = some t) (h:i<k):t.fact≠s.fact:=fun e=>by
  have h1:=dM_ hP.nd hs
  have h2:=dM_ hP.nd ht
  unfold cn_ at h1 h2
  rw[e]at h2;omega
def er_ (d:List Int) (fr:List Int):Int:=fr.foldl (fun m q=>max m (1+d.getD q.toNat 0)) 1
def cI_ (Y:List Stp):List Int:=Y.foldl (fun d s=>d++[er_ d s.frm]) []
theorem iF_ {Y:List Stp} {i:Nat} {s:Stp} (h:Y[i]? = some s):cI_ (Y.take (i+1))=cI_ (Y.take i)++[er_ (cI_ (Y.take i)) s.frm]:=by
  unfold cI_
  rw[List.take_add_one,h,Option.toList_some,List.foldl_append];rfl
theorem ly_ {d fr:List Int} {j:Nat} {x:Int} (h:fr[j]? = some x):er_ d (fr.take (j+1))=max (er_ d (fr.take j)) (1+d.getD x.toNat 0):=by
  unfold er_
  rw[List.take_add_one,h,Option.toList_some,List.foldl_append];rfl
theorem eK_:∀ (i:Nat) (Y:List Stp),i≤Y.length→(cI_ (Y.take i)).length=i
  | 0,Y,_=>rfl
  | i+1,Y,h=>by
    rw[iF_ (List.getElem?_eq_getElem (show i<Y.length by omega)),List.length_append,eK_ i Y (by omega)];rfl
theorem td_ {d fr:List Int} {n:Nat} (h:∀ q∈fr,d.getD q.toNat 0≤(n:Int)):1≤er_ d fr∧er_ d fr≤n+1:=by
  unfold er_
  have:∀ (fr:List Int) (m:Int),(∀ q∈fr,d.getD q.toNat 0≤(n:Int))→1≤m→m≤n+1→1≤fr.foldl (fun m q=>max m (1+d.getD q.toNat 0)) m∧fr.foldl (fun m q=>max m (1+d.getD q.toNat 0)) m≤n+1:=by
    intro fr
    induction fr with
    | nil=>intro m _ h1 h2;exact⟨h1,h2⟩
    | cons x fr ih =>
      intro m hq h1 h2
      have:=hq x List.mem_cons_self
      exact ih (max m (1+d.getD x.toNat 0)) (fun q hm=>hq q (List.mem_cons_of_mem _ hm)) (by omega) (by omega)
  exact this fr 1 h (by omega) (by omega)
theorem js_ {Y:List Stp} (hO:jf_ Y):∀ (i:Nat),i≤Y.length→∀ (j:Nat) v,(cI_ (Y.take i))[j]? = some v→1≤v∧v≤(j:Int)+1
 | 0,_,j,v,h=>by simp[cI_]at h
 | i+1,hi,j,v,h=>by
   have hs:=List.getElem?_eq_getElem (show i<Y.length by omega)
   rw[iF_ hs]at h
   have hl:=eK_ i Y (by omega)
   by_cases hj:j<i
   · rw[List.getElem?_append_left (by omega)]at h
     exact js_ hO i (by omega) j v h
   · have e:j=i:=by have:=(List.getElem?_eq_some_iff.1 h).1;simp[hl]at this;omega
     subst e
     rw[List.getElem?_append_right (by omega),hl,Nat.sub_self]at h
     simp at h
     subst h
     refine td_ fun q hq=>?_
     have ho:=hO.2 j _ hs q hq
     rw[List.getD_eq_getElem?_getD]
     cases hg:(cI_ (Y.take j))[q.toNat]? with
     | none=>simp
     | some u=>have:=(js_ hO j (by omega) _ u hg).2;simp;omega
end Go.Proofs.YtkeanlfhghlgiaaGreatDoor
namespace Go.Proofs.YtkeanlfhghlgiaaGreatDoor
open Go Go.Sx Go.Proofs
attribute [local irreducible] Code.wp wpList wpAnyH
open Go.Vs
def fv_ (Y:List Stp) (i:Nat):List Int:=cI_ (Y.take i)++List.replicate (Y.length - i) 0
def et_ (Y:List Stp) (i:Nat) (m:Int):List Int:=cI_ (Y.take i)++m::List.replicate (Y.length - (i+1)) 0
section
variable {Y:List Stp} {i j:Nat} {m m':Int} {s:Stp}
theorem pD_:fv_ Y 0=List.replicate Y.length 0:=by simp[fv_,cI_]
theorem kr_ (h:i≤Y.length):(fv_ Y i).length=Y.length:=by simp only[fv_,List.length_append,eK_ i Y h,List.length_replicate];omega
theorem gg_ (h:i<Y.length):(et_ Y i m).length=Y.length:=by simp only[et_,List.length_append,eK_ i Y (Nat.le_of_lt h),List.length_cons,List.length_replicate];omega
theorem oD_ (h:i<Y.length):(et_ Y i m)[i]? = some m:=by
  unfold et_
  have hl:=eK_ i Y (Nat.le_of_lt h)
  rw[List.getElem?_append_right (by omega),hl,Nat.sub_self];rfl
theorem rE_ (h:i<Y.length):fv_ Y i=et_ Y i 0:=by
  unfold fv_ et_
  rw[show Y.length - i=(Y.length - (i+1))+1 by omega,List.replicate_succ]
theorem tb_ (h:i<Y.length):(fv_ Y i)[i]? = some 0:=by rw[rE_ h];exact oD_ h
theorem ks_ (h:i<Y.length):(et_ Y i m).set i m'=et_ Y i m':=by
  unfold et_
  have hl:=eK_ i Y (Nat.le_of_lt h)
  rw[List.set_append_right _ _ (by omega),hl,Nat.sub_self];rfl
theorem rC_ (h:i<Y.length):(fv_ Y i).set i m'=et_ Y i m':=by rw[rE_ h];exact ks_ h
theorem rF_ (h:i<Y.length) (hj:j<i):(et_ Y i m)[j]? = some ((cI_ (Y.take i)).getD j 0):=by
  unfold et_
  have hl:=eK_ i Y (Nat.le_of_lt h)
  rw[List.getElem?_append_left (by omega),List.getD_eq_getElem?_getD,List.getElem?_eq_getElem (by omega)];rfl
theorem rG_ (hs:Y[i]? = some s):et_ Y i (er_ (cI_ (Y.take i)) s.frm)=fv_ Y (i+1):=by
  unfold et_ fv_
  rw[iF_ hs,List.append_assoc];rfl
theorem rD_:fv_ Y Y.length=cI_ Y:=by simp[fv_]
theorem tc_ (hO:jf_ Y) (h:i≤Y.length):0≤(cI_ (Y.take i)).getD j 0∧(cI_ (Y.take i)).getD j 0≤(i:Int):=by
  have hl:=eK_ i Y h
  rw[List.getD_eq_getElem?_getD]
  cases hg:(cI_ (Y.take i))[j]? with
  | none=>simp
  | some u =>
    have h1:=js_ hO i h j u hg
    have h2:=(List.getElem?_eq_some_iff.1 hg).1
    simp only[Option.getD_some];omega
theorem pE_ (hO:jf_ Y) {w:Int} (hw:(fv_ Y Y.length)[Y.length - 1]? = some w):w=(cI_ Y).getD (Y.length - 1) 0∧1≤w∧w≤(Y.length:Int):=by
  rw[rD_]at hw
  have hl:=List.length_pos_iff.2 hO.1
  refine⟨by rw[List.getD_eq_getElem?_getD,hw];rfl,?_⟩
  have:=js_ hO Y.length (Nat.le_refl _) (Y.length - 1) w (by rw[List.take_length];exact hw)
  omega
end
theorem ta_ (Y:List Stp) (yad:Option Addr) (ycap:Nat) (hl:Y.length≤1000000) (hfl:∀ s∈Y,s.frm.length≤1000000):Tri Tryz.prog 22 #[.agg #[.slice yad (List.length Y) ycap]] [] [am_ yad (List.flatMap Stp.cells Y),aB_ Y] (fun y:{y:Int×Int // (jf_ Y→y.2=0∧y.1=(cI_ Y).getD (Y.length - 1) 0∧1≤y.1∧y.1≤(Y.length:Int))∧(¬ jf_ Y→y.2=1∧y.1=0)}=>.tuple #[.int .i64 y.1.1,.int .i64 y.1.2]) (fun _=>[]) (fun _=>[]):=by
 refine w_ Tryz.func22 rfl rfl Tryz.ntmps22 rfl fun v0=>?_
 refine Zz 2 ?_
 refine ay_ rfl rfl fun b1=>Zz 8 ?_
 refine n_ (lB_ Y yad ycap hl hfl) rfl m_ zf rfl fun⟨ec,hec,hec1,hec2⟩=>?_
 dsimp only
 refine Zi 6 (fun hr1=>?_) fun hr1=>?_
 ·obtain⟨hne,hord⟩:=hec1 hr1
  refine Zz 10 ?_
  refine eJ_ (n:=List.length Y) (by':=8) Tryz.underlying46 (z:=(.int .i64 0)) zk rfl (by decide) rfl rfl (by omega) (by simp only[maxLen];omega) rfl fun svD HrD hrD=>?_
  have hqD:aD_ 3 1 svD (List.length (fv_ Y 0)) (List.flatMap V_ (fv_ Y 0)) HrD:=by rw[pD_];rw[List.length_replicate,← fM_ V_];exact hrD
  refine Zz 4 ?_
  refine x_ (ao_ aa_) (Zz 9 ?_)
  refine U_ (ι:={y:Nat×Value×Hp // y.1≤List.length Y∧zR 3 1 V_ y.2.1 (fv_ Y y.1) y.2.2}) (fun y=>[(2,.int .i64 0),(3,.int .i64 0),(5,y.1.2.1),(20,.slice yad (List.length Y) ycap),(21,.int .i64 (List.length Y:Int)),(22,.int .i64 (y.1.1:Int))]) (fun y=>(y.1.2.2)) (fun y=>[am_ yad (List.flatMap Stp.cells Y),aB_ Y]) (fun y=>List.length Y - y.1.1) ⟨((0:Nat),svD,HrD),by simp,hqD⟩ zl G_ zh ?_
  rintro ⟨⟨i,sv_D,H_D⟩,hi_i,hr_D⟩
  dsimp only at hi_i hr_D ⊢
  refine Zi 2 (fun hr2=>?_) fun hr2=>?_
  ·rw[show i=List.length Y by omega]at hr_D
   refine Zz 7 ?_
   have hY0:=List.length_pos_iff.2 hne
   have hdl:=kr_ (Y:=Y) (Nat.le_refl _)
   obtain⟨w1,hw0⟩:∃ e0,(fv_ Y (List.length Y))[(Int.toNat ((List.length (fv_ Y (List.length Y)):Int) - 1))]? = some e0:=⟨_,List.getElem?_eq_getElem (by omega)⟩
   have hw1:(fv_ Y (List.length Y))[List.length Y - 1]? = some w1:=by rw[show List.length Y - 1=(Int.toNat ((List.length (fv_ Y (List.length Y)):Int) - 1)) by omega];exact hw0
   refine Zz 3 ?_
   refine i_ (cw_ hr_D f_ rfl) rfl (Zz 1 ?_)
   refine i_ (as_ hr_D f_ p_ rfl rfl (by omega) (by omega)) rfl (i_ (aE_ hr_D aH_ T_ rfl (t_ M_ hw0 0 _ rfl)) rfl (Zz 5 ?_))
   exact pd_ Tryz.results22 ⟨(w1,0),fun q=>⟨rfl,pE_ q hw1⟩,fun q=>absurd ⟨hne,hord⟩ q⟩ rfl rfl rfl m_ zt
  obtain⟨hlx1,x1,hx1,hmx1⟩:=zge (show i<List.length Y by omega)
  have hd0:=tb_ hlx1
  have hf1:=hfl x1 hmx1
  have hdl:=kr_ (Y:=Y) hi_i
  refine Zz 13 ?_
  refine J_ bK_ rfl fun b2=>Zz 1 ?_
  refine y_ 0 aq_ rfl rfl rfl rfl rfl rfl (Zz 6 ?_)
  refine i_ (as_ hr_D f_ p_ rfl rfl (by omega) (by omega)) rfl (cj_ (k:=(i:Int).toNat*1+0) hr_D G_ p_ rfl rfl (by omega) rfl rfl fun Hr1 hr1=>?_)
  have hs1:=(dQ_ V_ 1 M_ (fv_ Y i) i 0 (0:Int) (1:Int) (.int .i64 1) hd0 (by decide) rfl).trans (congrArg _ (rC_ hlx1))
  have hq1:aD_ 3 1 sv_D (List.length (et_ Y i 1)) (List.flatMap V_ (et_ Y i 1)) Hr1:=by rw[← hs1,show List.length (et_ Y i 1)=List.length (fv_ Y i) from (by rw[gg_ hlx1,kr_ hi_i])];exact hr1
  refine Zz 2 ?_
  refine x_ (ao_ aa_) (Zz 9 ?_)
  refine U_ (ι:={y:Nat×Value×Hp // y.1≤List.length x1.frm∧zR 3 1 V_ y.2.1 (et_ Y i (er_ (cI_ (List.take i Y)) (List.take y.1 x1.frm))) y.2.2}) (fun y=>[(2,.int .i64 0),(3,.int .i64 0),(5,y.1.2.1),(20,.slice yad (List.length Y) ycap),(21,.int .i64 (List.length Y:Int)),(22,.int .i64 (i:Int)),(6,.int .i64 (i:Int)),(31,.slice x1.ad (List.length x1.frm) x1.cap),(32,.int .i64 (List.length x1.frm:Int)),(33,.int .i64 (y.1.1:Int))]) (fun y=>(y.1.2.2)) (fun y=>[am_ yad (List.flatMap Stp.cells Y),aB_ Y]) (fun y=>List.length x1.frm - y.1.1) ⟨((0:Nat),sv_D,Hr1),by simp,hq1⟩ zl G_ zh ?_
  rintro ⟨⟨j,sv_D,H_D⟩,hi_j,hr_D⟩
  dsimp only at hi_j hr_D ⊢
  refine Zi 2 (fun hr3=>?_) fun hr3=>?_
  ·refine Zz 11 ?_
   exact z_ ⟨(i+1,sv_D,H_D),hlx1,(by rw[← rG_ hx1];have q:=hr_D;rwa [show List.take j x1.frm=Stp.frm x1 from List.take_of_length_le (by omega)]at q)⟩ (by dsimp only;omega) zl aH_ zh
  obtain⟨hlx2,x2,hx2,hmx2⟩:=zge (show j<List.length x1.frm by omega)
  have ho2:=hord i x1 hx1 x2 hmx2
  have hdi:=oD_ (m:=(er_ (cI_ (List.take i Y)) (List.take j x1.frm))) hlx1
  have hdx:=rF_ (m:=(er_ (cI_ (List.take i Y)) (List.take j x1.frm))) (j:=x2.toNat) hlx1 (by omega)
  have hgd:=tc_ (Y:=Y) (i:=i) (j:=x2.toNat) ⟨hne,hord⟩ (by omega)
  have hjl:=gg_ (m:=(er_ (cI_ (List.take i Y)) (List.take j x1.frm))) hlx1
  refine Zz 10 ?_
  refine i_ (X_ f_ p_ rfl rfl (fun v _ h=>E_ (n:=1) M_ (by decide) (by exact (h.2.1 x1 hmx1)) hx2) (by omega) (by first|omega|(simp;done))) rfl ?_
  refine i_ (av_ (ad:=x1.ad) T_ rfl (fun v _ h=>by exact (h.2.1 x1 hmx1)) (t_ M_ hx2 0 _ rfl)) rfl (Zz 3 ?_)
  refine af_ ([]) zk ?_
  refine s_ 6 [0,1,2,3,4,6,7,8] zk zs (Zz 4 ?_)
  refine R_ rfl (as_ hr_D f_ p_ rfl rfl (by omega) (by omega)) rfl (Zz 2 ?_)
  refine R_ rfl (as_ hr_D f_ p_ rfl rfl (by omega) (by omega)) rfl (dA_ ?_)
  refine bT_ 5 9 rfl rfl zk ?_ ?_
  ·refine i_ (aE_ hr_D aH_ T_ rfl (t_ M_ hdi 0 _ rfl)) rfl (Zz 3 ?_)
   refine l_ 9 rfl zk (i_ (aE_ hr_D aH_ T_ rfl (t_ M_ hdx 0 _ rfl)) rfl (Zz 3 ?_))
   refine s_ 1 [10,11,12] zk zs (Zz 1 ?_)
   refine R_ rfl (cS_ rfl rfl) rfl (R_ rfl (as_ hr_D f_ p_ rfl rfl (by omega) (by omega)) rfl (dA_ (l_ 13 rfl zk (cj_ (k:=(i:Int).toNat*1+0) hr_D aH_ p_ rfl rfl (by omega) rfl rfl fun Hr2 hr2=>?_))))
   have hs2:=(dQ_ V_ 1 M_ (et_ Y i (er_ (cI_ (List.take i Y)) (List.take j x1.frm))) i 0 (er_ (cI_ (List.take i Y)) (List.take j x1.frm)) (max (er_ (cI_ (List.take i Y)) (List.take j x1.frm)) (1+((cI_ (List.take i Y)).getD x2.toNat 0))) (.int .i64 (max (er_ (cI_ (List.take i Y)) (List.take j x1.frm)) (1+((cI_ (List.take i Y)).getD x2.toNat 0)))) hdi (by decide) rfl).trans (congrArg _ (ks_ hlx1))
   have hq2:aD_ 3 1 sv_D (List.length (et_ Y i (max (er_ (cI_ (List.take i Y)) (List.take j x1.frm)) (1+((cI_ (List.take i Y)).getD x2.toNat 0))))) (List.flatMap V_ (et_ Y i (max (er_ (cI_ (List.take i Y)) (List.take j x1.frm)) (1+((cI_ (List.take i Y)).getD x2.toNat 0))))) Hr2:=by rw[← hs2,show List.length (et_ Y i (max (er_ (cI_ (List.take i Y)) (List.take j x1.frm)) (1+((cI_ (List.take i Y)).getD x2.toNat 0))))=List.length (et_ Y i (er_ (cI_ (List.take i Y)) (List.take j x1.frm))) from (by rw[gg_ hlx1,gg_ hlx1])];exact hr2
   refine x_ dK_ (Zz 10 ?_)
   exact z_ ⟨(j+1,sv_D,Hr2),hlx2,(by rw[ly_ hx2];exact hq2)⟩ (by dsimp only;omega) zl aH_ zh
  refine i_ (aE_ hr_D aH_ T_ rfl (t_ M_ hdx 0 _ rfl)) rfl (Zz 3 ?_)
  refine s_ 4 [10] zk zs (Zz 2 ?_)
  refine l_ 5 rfl zk (i_ (aE_ hr_D aH_ T_ rfl (t_ M_ hdi 0 _ rfl)) rfl (Zz 3 ?_))
  refine s_ 1 [11,12] zk zs (R_ rfl (cS_ rfl rfl) rfl (R_ rfl (as_ hr_D f_ p_ rfl rfl (by omega) (by omega)) rfl (dA_ (l_ 13 rfl zk (cj_ (k:=(i:Int).toNat*1+0) hr_D aH_ p_ rfl rfl (by omega) rfl rfl fun Hr3 hr3=>?_)))))
  have hs3:=(dQ_ V_ 1 M_ (et_ Y i (er_ (cI_ (List.take i Y)) (List.take j x1.frm))) i 0 (er_ (cI_ (List.take i Y)) (List.take j x1.frm)) (max (er_ (cI_ (List.take i Y)) (List.take j x1.frm)) (1+((cI_ (List.take i Y)).getD x2.toNat 0))) (.int .i64 (max (er_ (cI_ (List.take i Y)) (List.take j x1.frm)) (1+((cI_ (List.take i Y)).getD x2.toNat 0)))) hdi (by decide) rfl).trans (congrArg _ (ks_ hlx1))
  have hq3:aD_ 3 1 sv_D (List.length (et_ Y i (max (er_ (cI_ (List.take i Y)) (List.take j x1.frm)) (1+((cI_ (List.take i Y)).getD x2.toNat 0))))) (List.flatMap V_ (et_ Y i (max (er_ (cI_ (List.take i Y)) (List.take j x1.frm)) (1+((cI_ (List.take i Y)).getD x2.toNat 0))))) Hr3:=by rw[← hs3,show List.length (et_ Y i (max (er_ (cI_ (List.take i Y)) (List.take j x1.frm)) (1+((cI_ (List.take i Y)).getD x2.toNat 0))))=List.length (et_ Y i (er_ (cI_ (List.take i Y)) (List.take j x1.frm))) from (by rw[gg_ hlx1,gg_ hlx1])];exact hr3
  refine x_ dK_ (Zz 10 ?_)
  exact z_ ⟨(j+1,sv_D,Hr3),hlx2,(by rw[ly_ hx2];exact hq3)⟩ (by dsimp only;omega) zl aH_ zh
 refine Zz 11 ?_
 exact pd_ Tryz.results22 ⟨(0,ec),fun q=>absurd (hec2 q) hr1,fun _=>⟨by omega,rfl⟩⟩ rfl rfl rfl m_ zt
end Go.Proofs.YtkeanlfhghlgiaaGreatDoor
namespace Go.Proofs.YtkeanlfhghlgiaaGreatDoor
open Go Go.Sx Go.Proofs
attribute [local irreducible] Code.wp wpList wpAnyH
open Go.Vs
theorem pZ_ {Y:List Stp} (hO:jf_ Y) (i:Nat):((List.take (i+1) Y).any fun s=>s.frm.any (·==(i:Int)))=false:=by
  rw[List.any_eq_false]
  intro s hs q
  obtain⟨n,hn⟩:=List.getElem?_of_mem hs
  have hl:=(List.getElem?_eq_some_iff.1 hn).1
  rw[List.length_take]at hl
  rw[List.getElem?_take_of_lt (by omega)]at hn
  obtain⟨x,hx,e⟩:=List.any_eq_true.1 q
  have:=hO.2 n s hn x hx
  have e2:x=(i:Int):=by simpa using e
  omega
theorem qa_ {Y:List Stp} {w u E:Bool} {n k i:Nat} {x:Stp} (hw:w=(u||(List.take n x.frm).any (·==(i:Int)))) (hn:x.frm.length≤n) (hu:u=(E||(List.take k Y).any fun s=>s.frm.any (·==(i:Int)))) (hx:Y[k]? = some x):w=(E||(List.take (k+1) Y).any fun s=>s.frm.any (·==(i:Int))):=by
  rw[List.take_of_length_le hn]at hw
  rw[List.take_add_one,hx,Option.toList_some,List.any_append,← Bool.or_assoc,← hu,hw]
  simp
theorem sg_ {X Y:List Stp} (hT:TrmL X Y) {i:Nat} (hi:i<Y.length):(((i:Int)==((List.length Y:Int) - 1))||Y.any fun s=>s.frm.any (·==(i:Int)))=true:=by
 by_cases h:i+1<Y.length
 ·obtain⟨k,y,_,hy,hq⟩:=hT.used i h
  rw[Bool.or_eq_true]
  exact .inr (List.any_eq_true.2 ⟨y,List.mem_of_getElem? hy,List.any_eq_true.2 ⟨_,hq,by simp⟩⟩)
 rw[Bool.or_eq_true]
 exact .inl (by rw[beq_iff_eq];omega)
set_option maxHeartbeats 2000000 in
theorem oR_ (p:List Pc) (pad:Option Addr) (pcap:Nat) (f:Fc) (hpl:p.length≤1099511627744) (hpbig:∀ x∈p,x.big) (hfa:f.a.length≤844424930107392) (hfb:f.b.length≤844424930107392) (hfr:f.r.length≤844424930107392):Tri Tryz.prog 7 #[.slice pad (List.length p) pcap,Fc.val f] [] [am_ pad (List.flatMap Pc.cells p),gH_] (fun _:Unit=>.bool true) (fun _=>[]) (fun _=>[]):=by
 refine w_ Tryz.func7 rfl rfl Tryz.ntmps7 rfl fun v0=>?_
 refine Zz 2 ?_
 refine ay_ rfl rfl fun b1=>Zz 6 ?_
 refine n_ (qo_) rfl m_ zf rfl fun _=>i_ (bI_ rfl) rfl (Zz 9 ?_)
 refine n_ (sU_ p pad pcap 12 hpl hpbig) rfl m_ zf rfl fun⟨fw,hfw⟩=>?_
 dsimp only
 refine i_ (bI_ rfl) rfl (Zz 1 ?_)
 cases fw
 ·refine Zz 22 ?_
  exact al_ Tryz.results7 () rfl m_ zt
 obtain⟨h14q,hsm⟩:=hfw rfl
 have h14:p.length≤14:=by omega
 refine Zz 5 ?_
 refine i_ (cq_ Y_ rfl) rfl (Zz 5 ?_)
 refine i_ (cq_ Y_ rfl) rfl (Zz 7 ?_)
 refine i_ (cq_ Y_ rfl) rfl (Zi 3 (fun hr1=>?_) fun hr1=>?_)
 ·refine Zz 10 ?_
  refine n_ (km_ p pad pcap f 1073741824 hsm h14) rfl m_ zf rfl fun⟨⟨X,xad,xcap,e⟩,hF,hXl,hXc,hXm,hXz⟩=>?_
  dsimp only
  dsimp only at hF hXl hXc hXm hXz
  refine Zz 3 ?_
  refine J_ cy_ rfl fun b2=>y_ 0 bl_ rfl rfl rfl rfl rfl rfl (Zi 7 (fun hr2=>?_) fun hr2=>?_)
  ·have he0:=hr2
   obtain⟨hPX,hckp,hwff⟩:=rA_ hF he0
   refine Zz 8 ?_
   refine n_ (lE_ X xad xcap (by omega) (fun s hs=>Nat.le_trans (jM_ hPX s hs) (by decide))) rfl m_ zf rfl fun⟨⟨Y,yad,ycap,yE⟩,hT1,hT2⟩=>?_
   dsimp only
   dsimp only at hT1 hT2
   obtain⟨hy0,hTi,hYl,hYc,hYm,hYz⟩:=hT1 ⟨jk_ hPX,fT_ hPX⟩
   have hTY:=hA_ hPX hTi
   have hPY:=hB_ hPX hTi
   have hYL:=hTY.le
   have hoY:jf_ Y:=⟨jk_ hPY,fT_ hPY⟩
   subst hy0
   have hYf:∀ s∈Y,s.frm.length≤1000000:=fun s hs=>Nat.le_trans (jM_ hPY s hs) (by decide)
   refine Zz 3 ?_
   refine J_ cy_ rfl fun b3=>y_ 0 bl_ rfl rfl rfl rfl rfl rfl (Zz 7 ?_)
   refine i_ (aU_ (he_ rfl rfl) (show _=Value.bool false from congrArg Value.bool (by decide))) rfl (Zz 8 ?_)
   refine n_ (jL_ p pad pcap f Y yad ycap (by omega) (qF_ hPY (ha_ hckp) hwff (by omega))) rfl m_ zf rfl fun _=>aJ_ rfl rfl (i_ (bI_ rfl) rfl (Zi 15 (fun hr3=>?_) fun hr3=>?_))
   ·refine Zz 13 ?_
    refine U_ (ι:={y:Nat // y≤List.length Y}) (fun y=>[(4,.bool false),(5,zp_ b2 0),(7,zp_ b3 0),(9,.int .i64 (y.1:Int))]) (fun y=>((b3,.cells #[.slice yad (List.length Y) ycap] 29 (0,0))::((b2,.cells #[.slice xad (List.length X) xcap] 29 (0,0))::[]))) (fun y=>[am_ yad (List.flatMap Stp.cells Y),aB_ Y,am_ xad (List.flatMap Stp.cells X),aB_ X,am_ pad (List.flatMap Pc.cells p),gH_]) (fun y=>List.length Y - y.1) ⟨(0:Nat),by simp⟩ zl zp zh ?_
    rintro ⟨i,hi_i⟩
    dsimp only at hi_i ⊢
    refine Zi 7 (fun hr4=>?_) fun hr4=>?_
    ·refine Zz 7 ?_
     refine s_ 4 [0,2] zk zs (Zz 3 ?_)
     refine l_ 1 rfl zk (n_ (mK_ X xad xcap (by omega)) rfl m_ zf rfl fun⟨⟨lad,lcp⟩,hlc,hlm,hlz⟩=>?_)
     dsimp only
     dsimp only at hlc hlm hlz
     have hln:=li_ X
     refine Zz 3 ?_
     refine l_ 3 rfl zk (n_ (mK_ Y yad ycap (by omega)) rfl m_ zf rfl fun⟨⟨mad,mcp⟩,hmc,hmm,hmz⟩=>?_)
     dsimp only
     dsimp only at hmc hmm hmz
     have hmn:=li_ Y
     refine Zz 3 ?_
     refine s_ 0 [4,5] zk zs (Zz 12 ?_)
     refine U_ (ι:={y:Nat // y≤List.length (dC_ Y)}) (fun y=>[(4,.bool false),(5,zp_ b2 0),(7,zp_ b3 0),(9,.int .i64 (i:Int)),(13,.slice lad (List.length (dC_ X)) lcp),(14,.slice mad (List.length (dC_ Y)) mcp),(15,.int .i64 (y.1:Int))]) (fun y=>((b3,.cells #[.slice yad (List.length Y) ycap] 29 (0,0))::((b2,.cells #[.slice xad (List.length X) xcap] 29 (0,0))::[]))) (fun y=>[am_ mad (List.flatMap V_ (dC_ Y)),am_ lad (List.flatMap V_ (dC_ X)),am_ yad (List.flatMap Stp.cells Y),aB_ Y,am_ xad (List.flatMap Stp.cells X),aB_ X,am_ pad (List.flatMap Pc.cells p),gH_]) (fun y=>List.length (dC_ Y) - y.1) ⟨(0:Nat),by simp⟩ zl zp zh ?_
     rintro ⟨a,hi_a⟩
     dsimp only at hi_a ⊢
     refine Zi 6 (fun hr5=>?_) fun hr5=>?_
     ·refine Zz 8 ?_
      refine n_ (lE_ Y yad ycap (by omega) hYf) rfl m_ zf rfl fun⟨⟨Z,zad,zcap,zE⟩,hV1,hV2⟩=>?_
      dsimp only
      dsimp only at hV1 hV2
      obtain⟨hz0,hTz,hZl,hZc,hZm,hZz⟩:=hV1 hoY
      have hSS:=oS_ hPY hTY hTz
      subst hz0
      refine Zz 3 ?_
      refine J_ cy_ rfl fun b4=>y_ 0 bl_ rfl rfl rfl rfl rfl rfl (Zz 6 ?_)
      refine n_ (ta_ Y yad ycap (by omega) hYf) rfl m_ zf rfl fun⟨⟨nd,eD⟩,hD1,hD2⟩=>?_
      dsimp only
      dsimp only at hD1 hD2
      obtain⟨hd0,_,hd1,hd2⟩:=hD1 hoY
      subst hd0
      refine Zz 10 ?_
      refine i_ (aU_ (cQ_ rfl rfl) (show _=Value.bool true from congrArg Value.bool (by decide))) rfl (Zz 6 ?_)
      refine n_ (sv_ Y yad ycap Z zad zcap hSS (by omega) hYf) rfl m_ zf rfl fun _=>Zz 5 ?_
      refine i_ (aU_ (cQ_ rfl rfl) (show _=Value.bool true from congrArg Value.bool (by decide))) rfl (Zi 5 (fun hr6=>?_) fun hr6=>?_)
      ·exfalso;omega
      refine Zz 11 ?_
      refine aN_ (eE_ rfl rfl) rfl fun r7 hr7=>Zz 5 ?_
      exact al_ Tryz.results7 () (u_ rfl (by rw[← hr7];simp;omega)) m_ zt
     obtain⟨hlx5,x5,hx5,hmx5⟩:=zge (show a<List.length (dC_ Y) by omega)
     refine Zz 19 ?_
     refine U_ (ι:={y:Nat×Bool // y.1≤List.length (dC_ X)∧y.2=(false||(List.take y.1 (dC_ X)).any (·==x5))}) (fun y=>[(4,.bool false),(5,zp_ b2 0),(7,zp_ b3 0),(9,.int .i64 (i:Int)),(13,.slice lad (List.length (dC_ X)) lcp),(14,.slice mad (List.length (dC_ Y)) mcp),(15,.int .i64 (a:Int)),(16,.bool y.1.2),(17,.int .i64 (y.1.1:Int))]) (fun y=>((b3,.cells #[.slice yad (List.length Y) ycap] 29 (0,0))::((b2,.cells #[.slice xad (List.length X) xcap] 29 (0,0))::[]))) (fun y=>[am_ mad (List.flatMap V_ (dC_ Y)),am_ lad (List.flatMap V_ (dC_ X)),am_ yad (List.flatMap Stp.cells Y),aB_ Y,am_ xad (List.flatMap Stp.cells X),aB_ X,am_ pad (List.flatMap Pc.cells p),gH_]) (fun y=>List.length (dC_ X) - y.1.1) ⟨((0:Nat),false),by simp,by simp⟩ zl zp zh ?_
     rintro ⟨⟨b,bt⟩,hi_b,hbt⟩
     dsimp only at hi_b hbt ⊢
     refine Zi 6 (fun hr8=>?_) fun hr8=>?_
     ·have hbt2:bt=true:=by rw[hbt,List.take_of_length_le (by omega),Bool.false_or];exact List.any_eq_true.2 ⟨x5,sz_ hTY _ hmx5,by simp⟩
      subst hbt2
      refine Zz 8 ?_
      refine i_ (bI_ rfl) rfl (Zz 11 ?_)
      exact z_ ⟨a+1,hlx5⟩ (by dsimp only;omega) zl zp zh
     obtain⟨hlx6,x6,hx6,hmx6⟩:=zge (show b<List.length (dC_ X) by omega)
     refine Zz 8 ?_
     refine s_ 11 [0,1] zk zs (Zz 3 ?_)
     cases bt
     ·refine s_ 0 [2,3,4,5,6,7,8,9,10,11,12] zk zs (Zz 8 ?_)
      refine bx_ rfl rfl rfl (cQ_ rfl rfl) rfl fun r9 hr9=>Zz 11 ?_
      exact z_ ⟨(b+1,r9),hlx6,oL_ hbt hx6 (by rw[Bool.false_or];exact hr9.symm)⟩ (by dsimp only;omega) zl zp zh
     refine s_ 0 [2,3,4,5,6,7,8,9,10,11,12] zk zs (Zz 20 ?_)
     exact z_ ⟨(b+1,true),hlx6,oL_ hbt hx6 (by simp)⟩ (by dsimp only;omega) zl zp zh
    obtain⟨hlx1,x1,hx1,hmx1⟩:=zge (show i<List.length Y by omega)
    refine Zz 14 ?_
    refine aN_ (cQ_ rfl rfl) rfl fun r10 hr10=>Zz 12 ?_
    refine U_ (ι:={y:Nat×Bool // y.1≤List.length Y∧i+1≤y.1∧y.2=(((i:Int)==((List.length Y:Int) - 1))||(List.take y.1 Y).any fun s=>s.frm.any (·==(i:Int)))}) (fun y=>[(4,.bool false),(5,zp_ b2 0),(7,zp_ b3 0),(9,.int .i64 (i:Int)),(10,.bool y.1.2),(11,.int .i64 (y.1.1:Int))]) (fun y=>((b3,.cells #[.slice yad (List.length Y) ycap] 29 (0,0))::((b2,.cells #[.slice xad (List.length X) xcap] 29 (0,0))::[]))) (fun y=>[am_ yad (List.flatMap Stp.cells Y),aB_ Y,am_ xad (List.flatMap Stp.cells X),aB_ X,am_ pad (List.flatMap Pc.cells p),gH_]) (fun y=>List.length Y - y.1.1) ⟨((i+1),r10),hlx1,Nat.le_refl _,by rw[pZ_ hoY,Bool.or_false];exact hr10.symm⟩ zl zp zh ?_
    rintro ⟨⟨k,u⟩,hi_k,hik,hu⟩
    dsimp only at hi_k hik hu ⊢
    refine Zi 7 (fun hr11=>?_) fun hr11=>?_
    ·have hu2:u=true:=by rw[hu,List.take_of_length_le (by omega)];exact sg_ hTY hlx1
     subst hu2
     refine Zz 8 ?_
     refine i_ (bI_ rfl) rfl (Zz 11 ?_)
     exact z_ ⟨i+1,hlx1⟩ (by dsimp only;omega) zl zp zh
    obtain⟨hlx2,x2,hx2,hmx2⟩:=zge (show k<List.length Y by omega)
    have hf2:=hYf x2 hmx2
    refine Zz 10 ?_
    refine s_ 0 [0,1,2,3,4,5,6,7,8,9,10,11,12] zk zs (Zz 5 ?_)
    refine R_ rfl (bg_ (ad:=yad) (us:=Fc.cells x2.fact) aX_ A_ rfl zf rfl (ef_ 1 (t_ Stp.cells_len hx2) x2.fact_cells)) rfl (Zz 5 ?_)
    refine R_ rfl (bg_ (ad:=yad) (us:=Fc.cells x1.fact) aX_ A_ rfl zf rfl (ef_ 1 (t_ Stp.cells_len hx1) x1.fact_cells)) rfl (cF_ rfl (aF_ (p:=x2.fact) (q:=x1.fact) rfl rfl) rfl fun r12 hr12=>Zz 3 ?_)
    cases r12
    ·replace hr12:=zdf hr12
     refine Zz 9 ?_
     refine U_ (ι:={y:Nat×Bool // y.1≤List.length x2.frm∧y.2=(u||(List.take y.1 x2.frm).any (·==(i:Int)))}) (fun y=>[(4,.bool false),(5,zp_ b2 0),(7,zp_ b3 0),(9,.int .i64 (i:Int)),(11,.int .i64 (k:Int)),(10,.bool y.1.2),(12,.int .i64 (y.1.1:Int))]) (fun y=>((b3,.cells #[.slice yad (List.length Y) ycap] 29 (0,0))::((b2,.cells #[.slice xad (List.length X) xcap] 29 (0,0))::[]))) (fun y=>[am_ yad (List.flatMap Stp.cells Y),aB_ Y,am_ xad (List.flatMap Stp.cells X),aB_ X,am_ pad (List.flatMap Pc.cells p),gH_]) (fun y=>List.length x2.frm - y.1.1) ⟨((0:Nat),u),by simp,by simp⟩ zl zp zh ?_
     rintro ⟨⟨m,w⟩,hi_m,hw⟩
     dsimp only at hi_m hw ⊢
     refine Zi 11 (fun hr13=>?_) fun hr13=>?_
     ·refine Zz 11 ?_
      exact z_ ⟨(k+1,w),hlx2,by dsimp only;omega,qa_ hw (by omega) hu hx2⟩ (by dsimp only;omega) zl zp zh
     obtain⟨hlx3,x3,hx3,hmx3⟩:=zge (show m<List.length x2.frm by omega)
     refine Zz 10 ?_
     cases w
     ·refine Zz 15 ?_
      refine i_ (X_ f_ p_ rfl rfl (fun v _ h=>E_ (n:=1) M_ (by decide) (by exact (h.2.1 x2 hmx2)) hx3) (by omega) (by first|omega|(simp;done))) rfl ?_
      refine aJ_ rfl rfl (i_ (av_ (ad:=x2.ad) T_ rfl (fun v _ h=>by exact (h.2.1 x2 hmx2)) (t_ M_ hx3 0 _ rfl)) rfl (Zz 3 ?_))
      refine aN_ (cQ_ rfl rfl) rfl fun r14 hr14=>Zz 10 ?_
      exact z_ ⟨(m+1,r14),hlx3,oL_ hw hx3 (by rw[Bool.false_or];exact hr14.symm)⟩ (by dsimp only;omega) zl zp zh
     refine Zz 21 ?_
     exact z_ ⟨(m+1,true),hlx3,oL_ hw hx3 (by simp)⟩ (by dsimp only;omega) zl zp zh
    replace hr12:=zdt hr12
    exact absurd hr12 (prf_nd hPY hx1 hx2 (by omega))
   exfalso;omega
  refine Zz 9 ?_
  exact al_ Tryz.results7 () rfl m_ zt
 refine Zz 10 ?_
 exact al_ Tryz.results7 () rfl m_ zt
end Go.Proofs.YtkeanlfhghlgiaaGreatDoor
