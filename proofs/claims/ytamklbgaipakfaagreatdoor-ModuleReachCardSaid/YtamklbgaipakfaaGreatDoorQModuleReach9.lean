/-
  Part of the proof of the law ModuleReach over this seat: the small logic, the data, the contracts of functions (no condition).
-/
import Derived.Test.YtamklbgaipakfaaGreatDoorQModuleReach2
import Derived.Lib.SlicesCompact
import Derived.Sort.EncStr
import Derived.Test.YtamklbgaipakfaaGreatDoorQModuleReach6
import Derived.Test.YtamklbgaipakfaaGreatDoorQModuleReach3
import Derived.Test.YtamklbgaipakfaaGreatDoorQModuleReach8
import Derived.Test.YtamklbgaipakfaaGreatDoorQModuleReach7
import Derived.Test.YtamklbgaipakfaaGreatDoorProg
set_option linter.unusedVariables false
set_option linter.unusedSimpArgs false
set_option linter.unusedSectionVars false
set_option maxHeartbeats 1000000
namespace Go.Sx
open Go
section
variable {P:Program} {N:Nf} {fr:Fr} {H:Hp} {Γ:List Fct}
theorem jY_:∀ (x y:List UInt8),Op.bytesLess x y=decide (x<y)
  | [],[]=>by simp[Op.bytesLess]
  | _::_,[]=>by simp[Op.bytesLess]
  | [],_::_=>by simp[Op.bytesLess]
  | a::x,b::y=>by
    rw[Op.bytesLess,jY_ x y]
    simp only[List.cons_lt_cons_iff]
    by_cases h1:a<b<;>by_cases h2:a=b<;>by_cases h3:x<y<;>simp[h1,h2,h3]
theorem sz_ (x y:List UInt8):(Op.bytesLess x y||x==y)=decide (x≤y):=by
 rw[jY_]
 by_cases h:x≤y
 ·rw[decide_eq_true h]
  by_cases e:x=y
  ·simp[e]
  have:x<y:=by
    apply Decidable.byContradiction
    intro h2
    exact e (List.le_antisymm h (List.not_lt.1 h2))
  simp[this]
 rw[decide_eq_false h]
 have h1:¬ x<y:=fun q=>h (List.le_of_lt q)
 have h2:x≠y:=fun e=>h (e▸List.le_refl x)
 simp[h1,h2]
theorem jd_ {t t' ty:TypeId} {x y:Operand} {m n:List UInt8} (hx:Fr.ev fr x=some (str m)) (hy:Fr.ev fr y=some (str n)):Yld P N fr H Γ (.binOp .lss t x y t') ty (.bool (decide (m<n))) :=
  fun a v h1 _ _ _ _ _=>by rw[← jY_];simp[execOp,h1.ev hx,h1.ev hy,str,eqGuard,binOp,Op.stringOp]
theorem jg_ {f:FuncId} {args:Array Value} {r:Value} {g:Nat} {cur:Array Value} {T:TypeId} {d:Array (List UInt8)} (hc:gZ_ P f)
    (h:∀ v:Vw,v.sat [(g,.cells cur T (0,0))]→Calls P f args v.w fun e w'=>e=.returned r∧∃ n os,w'=Sort.grow (Sort.putRow Go.Proofs.encStr (Sort.ahead v.w n) g 0 d) os) :
    Tri P f args [(g,.cells cur T (0,0))] Γ (fun _:Unit=>r) (fun _=>[(g,.cells (Sort.putCells Go.Proofs.encStr 0 d cur) T (0,0))]) (fun _=>[]) :=
  ⟨hc,fun v h1 _=>(h v h1).mono fun e w' ⟨he,n,os,hw⟩=>by
    have hg:=(h1.own _ List.mem_cons_self)
    have hlt:g<v.w.heap.size:=(Array.getElem?_eq_some_iff.1 hg.1).1
    have hb:∀ b,b<v.w.heap.size→w'.heap[b]? = if b=g then some (.cells (Sort.putCells Go.Proofs.encStr 0 d cur) T (0,0)) else v.w.heap[b]? := fun b hb=>by
      rw[hw]
      simp only[Sort.grow,Sort.putRow,Sort.mapBlock,Sort.ahead]
      rw[Array.getElem?_append_left (by simpa using hb),Array.getElem?_modify]
      by_cases e:b=g
      · subst e
        simp only[if_true,hg.1,Option.map_some,Sort.onCells]
      · rw[if_neg (fun q=>e q.symm),if_neg e]
    have hsz:v.w.heap.size≤w'.heap.size:=by rw[hw];simp[Sort.grow,Sort.putRow,Sort.mapBlock,Sort.ahead]
    refine⟨(),⟨v.im,w',v.sl⟩,he,rfl,⟨fun p hp=>?_,by simp,fun b hbb=>Nat.lt_of_lt_of_le (h1.lt b hbb) hsz⟩,trivial,⟨by rw[hw];rfl,by rw[hw];rfl,by rw[hw];rfl,hsz,fun b hbb hn=>?_,fun _ h=>h,fun _ h=>.inl h,fun b hm=>.inl (by simpa using hm),rfl,.inr (by rw[hw];exact Nat.le_add_right _ _)⟩⟩
    · simp only[List.mem_singleton]at hp
      subst hp
      exact⟨by show w'.heap[g]? = _;rw[hb g hlt,if_pos rfl],hg.2⟩
    · have hn':b≠g:=by simpa using hn
      show w'.heap[b]? = _
      rw[hb b hbb,if_neg hn']⟩
theorem my_ {cur:Array Value} {d:List (List UInt8)} (hs:d.length≤cur.size):(Sort.putCells Go.Proofs.encStr 0 d.toArray cur).toList.take d.length=d.flatMap aH_:=by
 rw[jm_]
 apply List.ext_getElem?
 intro j
 rw[List.getElem?_take,List.getElem?_map]
 split
 ·rename_i hj
  simp only[Sort.putCells,Array.getElem?_toList,Array.getElem?_mapIdx]
  rw[Array.getElem?_eq_getElem (by omega)]
  simp only[Option.map_some,Nat.zero_le,true_and,Nat.zero_add,List.size_toArray,hj,if_true,Nat.sub_zero]
  rw[List.getElem?_eq_getElem hj]
  simp only[Option.map_some]
  rw[getElem!_pos d.toArray j (by simpa using hj)]
  rfl
 rename_i hj
 rw[List.getElem?_eq_none (by omega)];rfl
theorem mz_ {cur:Array Value} {d:Array (List UInt8)}:(Sort.putCells Go.Proofs.encStr 0 d cur).size=cur.size:=by simp[Sort.putCells]
end
end Go.Sx
namespace Go.Vs
open Go Go.Sx
def iC_ (p:Pc):List Str:=[p.a,p.b,p.c].filter fun s=>!(s==[])
def cz_ (l:List Pc):List Str:=l.flatMap iC_
def ey_ (l:List Pc):List Str:=Lib.compact ((cz_ l).mergeSort fun x y=>decide (x≤y))
theorem hF_:∀ l:List Pc,(cz_ l).length≤3*l.length
  | []=>by simp[cz_]
  | p::r=>by
    have h1:=hF_ r
    have h2:(iC_ p).length≤3:=by unfold iC_;exact List.length_filter_le _ _
    simp only[cz_,List.flatMap_cons,List.length_append,List.length_cons]at h1 ⊢
    omega
theorem jq_ (l:List Str):(l.mergeSort fun x y=>decide (x≤y)).Pairwise fun x y=>x≤y:=by
  have h:=List.pairwise_mergeSort (le:=fun x y:Str=>decide (x≤y)) (fun a b c h1 h2=>by simp only[decide_eq_true_eq]at *;exact List.le_trans h1 h2) (fun a b=>by
    simp only[Bool.or_eq_true,decide_eq_true_eq];exact List.le_total a b) l
  exact h.imp (fun h=>of_decide_eq_true h)
theorem gV_ {zs:List Str}:Lib.compact zs=((List.range zs.length).filter fun j=>decide (j=0∨zs[j]! ≠ zs[j - 1]!)).map fun j=>zs[j]! := by
 unfold Lib.compact Lib.compactUpTo Lib.keeps
 have e:∀ j,zs.toArray[j]! = zs[j]! := fun j=>by
   by_cases h:j<zs.length
   · rw[getElem!_pos zs.toArray j (by simpa using h),getElem!_pos zs j h];simp
   · rw[getElem!_neg zs.toArray j (by simpa using h),getElem!_neg zs j h]
 rw[List.map_congr_left fun j _=>e j]
 congr 2
 funext j
 rw[e,e]
theorem iN_ (zs:List Str):(Lib.compact zs).length≤zs.length:=by
  rw[gV_,List.length_map]
  have:=List.length_filter_le (fun j=>decide (j=0∨zs[j]! ≠ zs[j - 1]!)) (List.range zs.length)
  simpa using this
theorem ne_ {zs:List Str} (x:Str):x∈Lib.compact zs↔x∈zs:=by
 rw[gV_,List.mem_map]
 constructor
 ·rintro ⟨j,hj,rfl⟩
  have hl:=List.mem_range.1 (List.mem_filter.1 hj).1
  rw[getElem!_pos zs j hl]
  exact List.getElem_mem hl
 intro hx
 obtain⟨j,hj,e⟩:=List.mem_iff_getElem.1 hx
 clear hx
 induction j with
 | zero=>exact⟨0,List.mem_filter.2 ⟨List.mem_range.2 hj,by simp⟩,by rw[getElem!_pos zs 0 hj];exact e⟩
 | succ j ih =>
   by_cases h:zs[j+1]! = zs[j]!
   · have hj':j<zs.length:=by omega
     refine ih hj' ?_
     rw[getElem!_pos zs (j+1) hj,getElem!_pos zs j hj']at h
     rw[← h];exact e
   · exact⟨j+1,List.mem_filter.2 ⟨List.mem_range.2 hj,decide_eq_true (.inr h)⟩,by rw[getElem!_pos zs (j+1) hj];exact e⟩
theorem nZ_ {zs:List Str} (hs:zs.Pairwise fun x y=>x≤y):(Lib.compact zs).Pairwise fun x y=>x<y:=by
 rw[gV_,List.pairwise_map]
 have hr:(List.range zs.length).Pairwise (·<·):=List.pairwise_lt_range
 have hf:=hr.filter (fun j=>decide (j=0∨zs[j]! ≠ zs[j - 1]!))
 refine List.Pairwise.imp_of_mem ?_ hf
 intro j k hj hk hlt
 have hkl:=List.mem_range.1 (List.mem_filter.1 hk).1
 have hkk:=(List.mem_filter.1 hk).2
 simp only[decide_eq_true_eq]at hkk
 have hne:zs[k]! ≠ zs[k - 1]! := by
   rcases hkk with h|h
   · omega
   · exact h
 have hle:∀ a b,a≤b→b<zs.length→zs[a]! ≤ zs[b]! := by
   intro a b hab hb
   rcases Nat.lt_or_eq_of_le hab with h|h
   · rw[getElem!_pos zs a (by omega),getElem!_pos zs b hb]
     exact List.pairwise_iff_getElem.1 hs a b (by omega) hb h
   · subst h;exact List.le_refl _
 have h1:=hle j (k - 1) (by omega) (by omega)
 have h2:=hle (k - 1) k (by omega) hkl
 have h3:zs[k - 1]! < zs[k]! := by
   apply Decidable.byContradiction
   intro h
   exact hne (List.le_antisymm (List.not_lt.1 h) h2)
 exact List.lt_of_le_of_lt h1 h3
theorem jZ_ (l:List Pc) (x:Str):x∈ey_ l↔x∈cz_ l:=by
  unfold ey_
  rw[ne_,List.mem_mergeSort]
theorem pV_ (l:List Pc):(ey_ l).Pairwise fun x y=>x<y:=nZ_ (jq_ _)
theorem og_ (l:List Pc):(ey_ l).length≤3*l.length:=by
  have h1:=iN_ ((cz_ l).mergeSort fun x y=>decide (x≤y))
  rw[List.length_mergeSort]at h1
  have h2:=hF_ l
  unfold ey_
  omega
end Go.Vs
namespace Go.Proofs.YtamklbgaipakfaaGreatDoor
open Go Go.Sx Go.Proofs
attribute [local irreducible] Code.wp wpList wpAnyH
open Go.Vs
theorem nY_:Elt Tryz.prog 23 9 1 16:=gU_ Tryz.underlying23 (z:=.string ⟨#[]⟩) (by kernel_rfl) rfl (by decide)
theorem kR_ {g n cap:Nat} {cur:Array Value} {xs:List Str} {v:Vw} (hs:v.sat [(g,.cells cur 9 (0,0))]) (ht:cur.toList.take (xs.length*1)=xs.flatMap aH_):Sort.Holds encStr v.w g 0 xs.toArray:=by
 intro j hj
 have hb:=(hs.own _ List.mem_cons_self).1
 simp only[List.size_toArray]at hj
 have hc:cur[j]? = some (str xs[j]):=kr_ ht j xs[j] (List.getElem?_eq_getElem hj)
 refine⟨?_,?_⟩
 ·simp only[World.cell?,Nat.zero_add,hb,Option.isSome_none,Bool.false_eq_true,if_false]
  rw[hc,getElem!_pos xs.toArray j (by simpa using hj)]
  rfl
 simp[World.frozen?,hb]
theorem li_ {sv:Value} {xs:List Str} {Hr:Hp} (h:aG_ 9 1 sv xs.length (xs.flatMap aH_) Hr) (hl:xs.length≤1000000000000) :
    Tri Tryz.prog 43 #[sv] Hr [] (fun _:{y:Hp // aG_ 9 1 sv xs.length ((xs.mergeSort fun x y=>decide (x≤y)).flatMap aH_) y}=>.tuple #[]) (fun y=>y.1) (fun _=>[]):=by
  rcases h.2 with⟨rfl,h2,rfl⟩|⟨g,cap,cur,rfl,rfl,h3,h4,h5,h6⟩
  · obtain rfl:xs=[]:=List.eq_nil_of_length_eq_zero h2
    have T:=dT_ (P:=Tryz.prog) (H:=[]) (Γ:=[]) (callable Tryz.func43 rfl rfl) (fun v _ _=>(Tryz.slices_Sort_string_none none 0 v.w).mono (by rintro e w' ⟨rfl,rfl⟩;exact⟨rfl,⟨rfl,rfl,rfl,Nat.le_refl _,fun _ _=>rfl⟩,.inr (Nat.le_refl _)⟩))
    exact⟨T.callable,fun v a b=>(T.run v a b).mono (by rintro e w' ⟨x,v',e1,e2,e3,e4,e5⟩;exact⟨⟨[],by simpa using aG_.nil _ _⟩,v',e1,e2,e3,e4,e5⟩)⟩
  · have T:=jg_ (P:=Tryz.prog) (Γ:=[]) (d:=(xs.mergeSort fun x y=>decide (x≤y)).toArray) (callable Tryz.func43 rfl rfl) (fun v hs=>Tryz.slices_Sort_string g 0 cap xs v.w (kR_ (n:=0) (cap:=0) hs h6) (Array.getElem?_eq_some_iff.1 (hs.own _ List.mem_cons_self).1).1 (by omega))
    have hsz:(xs.mergeSort fun x y=>decide (x≤y)).length=xs.length:=List.length_mergeSort _
    refine⟨T.callable,fun v a b=>(T.run v a b).mono ?_⟩
    rintro e w' ⟨x,v',e1,e2,e3,e4,e5⟩
    refine⟨⟨_,by rw[dR_ aH_ 1 av_,hsz],.inr ⟨g,cap,_,rfl,rfl,h3,h4,by rw[mz_];exact h5,?_⟩⟩,v',e1,e2,e3,e4,e5⟩
    have:=my_ (cur:=cur) (d:=xs.mergeSort fun x y=>decide (x≤y)) (by rw[hsz,h5];omega)
    rw[hsz]at this
    rw[Nat.mul_one];exact this
theorem oa_ {sv:Value} {xs:List Str} {Hr:Hp} (h:aG_ 9 1 sv xs.length (xs.flatMap aH_) Hr) (hl:xs.length≤1000000000000) :
    Tri Tryz.prog 116 #[sv] Hr [] (fun y:{y:Value×Hp // aG_ 9 1 y.1 (Lib.compact xs).length ((Lib.compact xs).flatMap aH_) y.2}=>y.1.1) (fun y=>y.1.2) (fun _=>[]):=by
  rcases h.2 with⟨rfl,h2,rfl⟩|⟨g,cap,cur,rfl,rfl,h3,h4,h5,h6⟩
  · obtain rfl:xs=[]:=List.eq_nil_of_length_eq_zero h2
    have T:=dT_ (P:=Tryz.prog) (H:=[]) (Γ:=[]) (callable Tryz.func116 rfl rfl) (fun v _ _=>(Tryz.slices_Compact_string_empty none 0 v.w).mono (by rintro e w' ⟨rfl,rfl⟩;exact⟨rfl,⟨rfl,rfl,rfl,Nat.le_refl _,fun _ _=>rfl⟩,.inr (Nat.le_refl _)⟩))
    exact⟨T.callable,fun v a b=>(T.run v a b).mono (by rintro e w' ⟨x,v',e1,e2,e3,e4,e5⟩;exact⟨⟨(.slice none 0 0,[]),by simpa [Lib.compact,Lib.compactUpTo] using aG_.nil _ _⟩,v',e1,e2,e3,e4,e5⟩)⟩
  · have hcl:=iN_ xs
    have T:=jg_ (P:=Tryz.prog) (Γ:=[]) (r:=.slice (some ⟨g,0,none⟩) (Lib.compact xs).length cap) (d:=(Lib.compact xs++List.replicate (xs.length - (Lib.compact xs).length) []).toArray) (callable Tryz.func116 rfl rfl) (fun v hs=>(Tryz.slices_Compact_string g 0 cap xs v.w (kR_ (n:=0) (cap:=0) hs h6) (by omega) h3).mono (by
      rintro e w' ⟨rfl,q,rfl⟩
      exact⟨rfl,q,#[],by rw[Sort.grow_empty]⟩))
    refine⟨T.callable,fun v a b=>(T.run v a b).mono ?_⟩
    rintro e w' ⟨x,v',e1,e2,e3,e4,e5⟩
    refine⟨⟨(.slice (some ⟨g,0,none⟩) (Lib.compact xs).length cap,_),by rw[dR_ aH_ 1 av_],.inr ⟨g,cap,_,rfl,rfl,by omega,h4,by rw[mz_];exact h5,?_⟩⟩,v',e1,e2,e3,e4,e5⟩
    have hd:(Lib.compact xs++List.replicate (xs.length - (Lib.compact xs).length) ([]:Str)).length=xs.length:=by simp;omega
    have:=my_ (cur:=cur) (d:=Lib.compact xs++List.replicate (xs.length - (Lib.compact xs).length) []) (by rw[hd,h5];omega)
    rw[hd]at this
    have h7:=congrArg (List.take (Lib.compact xs).length) this
    rw[List.take_take,Nat.min_eq_left hcl,List.flatMap_append,List.take_append_of_le_length (by rw[dR_ aH_ 1 av_];omega),List.take_of_length_le (l:=(Lib.compact xs).flatMap aH_) (by rw[dR_ aH_ 1 av_];omega)]at h7
    rw[Nat.mul_one];exact h7
theorem sB_ (l:List Pc) (ad:Option Addr) (cap:Nat) (hl:l.length≤100000000000):Tri Tryz.prog 60 #[.slice ad (List.length l) cap] [] [aw_ ad (List.flatMap Pc.cells l)] (fun y:{y:Option Addr×Nat // (ey_ l).length≤y.2∧y.2≤maxLen}=>.slice y.1.1 (ey_ l).length y.1.2) (fun _=>[]) (fun y=>[aw_ y.1.1 ((ey_ l).flatMap aH_)]):=by
 refine o_ Tryz.func60 rfl rfl Tryz.ntmps60 rfl fun v0=>?_
 refine Zz 14 ?_
 refine aN_ [(2,.slice none 0 0),(7,.slice ad (List.length l) cap),(8,.int .i64 (List.length l:Int)),(9,.int .i64 ((0:Nat):Int))] zl ?_
 refine aT_ (ι:={y:Nat×Value×Hp // y.1≤l.length∧aG_ 9 1 y.2.1 (cz_ (l.take y.1)).length ((cz_ (l.take y.1)).flatMap aH_) y.2.2}) (fun y=>[(2,y.1.2.1),(7,.slice ad (List.length l) cap),(8,.int .i64 (List.length l:Int)),(9,.int .i64 (y.1.1:Int))]) (fun y=>y.1.2.2) (fun _=>_) (fun y=>l.length - y.1.1) ⟨(0,.slice none 0 0,[]),by simp,aG_.nil _ _⟩ ?_
 rintro ⟨⟨i,sv,Hr⟩,hi,hrow⟩
 dsimp only at hi hrow
 dsimp only
 have hol:=hF_ (l.take i)
 rw[List.length_take]at hol
 refine aN_ [(2,sv),(7,.slice ad (List.length l) cap),(8,.int .i64 (List.length l:Int)),(9,.int .i64 (i:Int))] zl ?_
 refine Zi 2 (fun hr1=>?_) fun hr1=>?_
 ·refine Zz 7 ?_
  have et:l.take i=l:=List.take_of_length_le (by omega)
  rw[et]at hrow hol
  refine Zz 2 ?_
  refine i_ (li_ hrow (by omega)) rfl bh_ zt rfl fun⟨Hs,hs⟩=>?_
  dsimp only
  refine W_ (List.Perm.symm bh_) ?_
  have hs2:aG_ 9 1 sv ((cz_ l).mergeSort fun x y=>decide (x≤y)).length (((cz_ l).mergeSort fun x y=>decide (x≤y)).flatMap aH_) Hs:=by rw[List.length_mergeSort];exact hs
  refine Zz 5 ?_
  refine i_ (oa_ hs2 (by rw[List.length_mergeSort];omega)) rfl bh_ zt rfl fun⟨⟨sc,Hc⟩,hc⟩=>?_
  dsimp only
  refine W_ (List.Perm.symm bh_) (Zz 4 ?_)
  refine cV_ hc bh_ fun ad2 cp2 hsv hc1 hc2=>?_
  exact G_ Tryz.results60 ⟨(ad2,cp2),hc1,hc2⟩ (bO_ rfl hsv) f_ zf
 obtain⟨hlx1,x1,hx1,hmx1⟩:=zge (show i<List.length l by omega)
 refine Zz 12 ?_
 refine au_ ac_ rfl fun b1=>aa_ 0 Z_ rfl rfl rfl rfl rfl rfl (Zz 10 ?_)
 refine I_ D_ O_ aR_ rfl rfl rfl rfl rfl rfl fun b2=>?_
 refine ak_ (List.flatMap aH_ [x1.a,x1.b,x1.c]) t_ rfl ?_
 refine Zz 5 ?_
 refine aN_ [(2,sv),(7,.slice ad (List.length l) cap),(8,.int .i64 (List.length l:Int)),(9,.int .i64 (i:Int)),(19,.slice (some ⟨b2,0,none⟩) (List.length [x1.a,x1.b,x1.c]) 3),(20,.int .i64 3),(21,.int .i64 ((0:Nat):Int))] zl ?_
 refine aT_ (ι:={y:Nat×Value×Hp // y.1≤3∧aG_ 9 1 y.2.1 (cz_ (l.take i)++(List.take y.1 [x1.a,x1.b,x1.c]).filter fun s=>!(s==[])).length ((cz_ (l.take i)++(List.take y.1 [x1.a,x1.b,x1.c]).filter fun s=>!(s==[])).flatMap aH_) y.2.2}) (fun y=>[(2,y.1.2.1),(7,.slice ad (List.length l) cap),(8,.int .i64 (List.length l:Int)),(9,.int .i64 (i:Int)),(19,.slice (some ⟨b2,0,none⟩) (List.length [x1.a,x1.b,x1.c]) 3),(20,.int .i64 3),(21,.int .i64 (y.1.1:Int))]) (fun y=>_:: y.1.2.2) (fun _=>_) (fun y=>3 - y.1.1) ⟨(0,sv,Hr),by simp,by simpa using hrow⟩ ?_
 rintro ⟨⟨k,sw,Hw⟩,hk,hkr⟩
 dsimp only at hk hkr
 dsimp only
 have hfl:((cz_ (l.take i)++(List.take k [x1.a,x1.b,x1.c]).filter fun s=>!(s==[]))).length≤(cz_ (l.take i)).length+3:=by
   have:=List.length_filter_le (fun s=>!(s==[])) (List.take k [x1.a,x1.b,x1.c])
   simp only[List.length_append,List.length_take,List.length_cons,List.length_nil]at this ⊢
   omega
 refine aN_ [(2,sw),(7,.slice ad (List.length l) cap),(8,.int .i64 (List.length l:Int)),(9,.int .i64 (i:Int)),(19,.slice (some ⟨b2,0,none⟩) (List.length [x1.a,x1.b,x1.c]) 3),(20,.int .i64 3),(21,.int .i64 (k:Int))] zl ?_
 refine Zi 2 (fun hr2=>?_) fun hr2=>?_
 ·refine Zz 11 ?_
  have hst:cz_ (l.take (i+1))=cz_ (l.take i)++iC_ x1:=by unfold cz_;rw[List.take_add_one,hx1,List.flatMap_append];simp
  exact R_ ⟨(i+1,sw,Hw),hlx1,by dsimp only;rw[hst];have:=hkr;rw[List.take_of_length_le (show [x1.a,x1.b,x1.c].length≤k by simp;omega)]at this;exact this⟩ (by dsimp only;omega) zl (C_ bh_) (fun _ _ h=>h.2)
 have hly1:k<List.length [x1.a,x1.b,x1.c]:=by simp;omega
 obtain⟨y1,hy1⟩:∃ e0,[x1.a,x1.b,x1.c][k]? = some e0:=⟨_,List.getElem?_eq_getElem hly1⟩
 have hmy1:y1∈[x1.a,x1.b,x1.c]:=List.mem_of_getElem? hy1
 refine Zz 11 ?_
 refine c_ (bu_ (ad:=(some ⟨b2,0,none⟩)) ap_ rfl zf (H_ av_ hy1 0 _ rfl)) rfl (Zi 6 (fun hr3=>?_) fun hr3=>?_)
 ·refine Zz 10 ?_
  have hst:(cz_ (l.take i)++(List.take (k+1) [x1.a,x1.b,x1.c]).filter fun s=>!(s==[]))=(cz_ (l.take i)++(List.take k [x1.a,x1.b,x1.c]).filter fun s=>!(s==[]))++[y1].filter (fun s=>!(s==[])):=by rw[List.append_assoc,← List.filter_append,List.take_add_one,hy1];simp
  rw[show [y1].filter (fun s=>!(s==[]))=[] by simp[*],List.append_nil]at hst
  exact R_ ⟨(k+1,sw,Hw),by dsimp only;omega,by dsimp only;rw[hst];exact hkr⟩ (by dsimp only;omega) zl zp zh
 refine Zz 6 ?_
 refine I_ D_ O_ aR_ rfl rfl rfl rfl rfl rfl fun b3=>?_
 refine aW_ (news:=[str y1]) nY_ hkr rfl rfl zp rfl (bv_ 0 rfl) (cY_ rfl) (by simp only[maxLen];omega) (by omega) rfl fun sv2 Hr2 hrow2=>?_
 refine W_ (@List.perm_append_comm _ _ [_,_]) (Zz 8 ?_)
 have hst:(cz_ (l.take i)++(List.take (k+1) [x1.a,x1.b,x1.c]).filter fun s=>!(s==[]))=(cz_ (l.take i)++(List.take k [x1.a,x1.b,x1.c]).filter fun s=>!(s==[]))++[y1].filter (fun s=>!(s==[])):=by rw[List.append_assoc,← List.filter_append,List.take_add_one,hy1];simp
 rw[show [y1].filter (fun s=>!(s==[]))=[y1] by simp[*]]at hst
 exact R_ ⟨(k+1,sv2,Hr2),by dsimp only;omega,by dsimp only;rw[hst];rw[List.length_append (bs:=[y1]),List.flatMap_append (ys:=[y1])];exact hrow2⟩ (by dsimp only;omega) zl (aF_ (C_ t_) (C_ bh_)) zh
end Go.Proofs.YtamklbgaipakfaaGreatDoor
namespace Go.Sx
open Go
section
variable {P:Program} {N:Nf} {v0:Vw} {H0:Hp} {R:Exit→Act→World→Prop} {K:List Kt} {fr:Fr} {H:Hp} {Γ:List Fct}
variable {ops:Array Oper} {l:List Oper} {d:Nat} {ty:TypeId} {ps:String} {af:Array Edge}
end
end Go.Sx
namespace Go.Vs
open Go Go.Sx
theorem pZ_ {α:Type} {q:List α} {k:Nat} {z:α} {g:α→Bool} (h:q[k]? = some z):(q.take (k+1)).any g=((q.take k).any g||g z):=by
  rw[List.take_add_one,h]
  simp[List.any_append]
def Cov (hs:List Bool) (L S:List Str):Prop:=hs.length=L.length∧∀ (n:Nat) (s:Str),L[n]? = some s→s∈S→hs[n]? = some true
theorem Cov.nil (L:List Str):Cov (List.replicate L.length false) L []:=⟨by simp,fun _ _ _ h=>by simp at h⟩
theorem Cov.set {hs:List Bool} {L S:List Str} (h:Cov hs L S) (n:Nat):Cov (hs.set n true) L S:=⟨by rw[List.length_set];exact h.1,fun m s h1 h2=>by
 have h3:=h.2 m s h1 h2
 rw[List.getElem?_set]
 split
 ·rename_i e
  subst e
  rw[if_pos (List.getElem?_eq_some_iff.1 h3).1]
 exact h3⟩
def kg_ (hs:List Bool) (L S:List Str) (y:Str) (n:Nat):Prop:=Cov hs L S∧∀ m,m<n→L[m]? = some y→hs[m]? = some true
theorem kg_.zero {hs:List Bool} {L S:List Str} {y:Str} (h:Cov hs L S):kg_ hs L S y 0:=⟨h,fun _ h=>by omega⟩
theorem kg_.hit {hs:List Bool} {L S:List Str} {y:Str} {n:Nat} (h:kg_ hs L S y n) (hn:n<L.length):kg_ (hs.set n true) L S y (n+1):=⟨h.1.set n,fun m hm e=>by
 rw[List.getElem?_set]
 split
 ·rename_i e
  rw[if_pos (by rw[h.1.1];omega)]
 rename_i e2
 exact h.2 m (by omega) e⟩
theorem kg_.miss {hs:List Bool} {L S:List Str} {y z:Str} {n:Nat} (h:kg_ hs L S y n) (hz:L[n]? = some z) (hne:z≠y):kg_ hs L S y (n+1):=⟨h.1,fun m hm e=>by
 by_cases e2:m=n
 ·subst e2
  rw[hz,Option.some.injEq]at e
  exact absurd e hne
 exact h.2 m (by omega) e⟩
theorem kg_.done {hs:List Bool} {L S:List Str} {y:Str} {n:Nat} (h:kg_ hs L S y n) (hn:L.length≤n):Cov hs L (S++[y]):=⟨h.1.1,fun m s h1 h2=>by
 rcases List.mem_append.1 h2 with h2|h2
 ·exact h.1.2 m s h1 h2
 simp only[List.mem_singleton]at h2
 subst h2
 have:=(List.getElem?_eq_some_iff.1 h1).1
 exact h.2 m (by omega) h1⟩
def three (p:Pc):List Str:=[p.a,p.b,p.c]
theorem Cov.all {hs:List Bool} {l:List Pc} (h:Cov hs (ey_ l) (l.flatMap three)) {n:Nat} (hn:n<(ey_ l).length):hs[n]? = some true:=by
  have hm:=(jZ_ l _).1 (List.getElem_mem hn)
  refine h.2 n _ (List.getElem?_eq_getElem hn) ?_
  simp only[cz_,List.mem_flatMap,iC_,List.mem_filter]at hm
  obtain⟨p,h1,h2⟩:=hm
  exact List.mem_flatMap.2 ⟨p,h1,h2.1⟩
end Go.Vs
namespace Go.Vs
open Go Go.Sx
theorem hm_ (s:Str):((if aK_ s then (0:Int) else 20)==0)=aK_ s:=by cases aK_ s<;>rfl
-- valid pieces,kind by kind
section
variable {a b c r s t:Str} {lo hi f:Int}
end
-- atoms
def eF_ (s:Str):Bool :=
  (s==[42]||s==[33])||aK_ s||(decide (3≤s.length)&&((decide (s[0]? = some 123)&&decide (s[s.length - 1]? = some 125)&&aK_ ((s.drop 1).take (s.length - 1 - 1)))||(decide (s[0]? = some 60)&&decide (s[s.length - 1]? = some 62))))
theorem mE_ {s:Str} (h:aK_ s=true):∃ c t,s=c::t∧(cx_ c=true∨c.toNat=95):=by
 unfold aK_ at h
 rw[Bool.or_eq_true]at h
 rcases h with h|h
 ·obtain⟨c,t,e,h2⟩:=jA_ h
  exact⟨c,t,e,.inl h2⟩
 unfold bG_ at h
 simp only[Bool.and_eq_true,decide_eq_true_eq]at h
 cases s with
 | nil=>simp at h
 | cons c t=>exact⟨c,t,rfl,.inr (by simpa using h.1.2)⟩
theorem pu_ {s:Str} {c:UInt8} (h0:s[0]? = some c) (h:c=123∨c=60):aK_ s=false:=by
  cases hp:aK_ s with
  | false=>rfl
  | true =>
    obtain⟨d,t,rfl,h2⟩:=mE_ hp
    simp only[List.getElem?_cons_zero,Option.some.injEq]at h0
    subst h0
    rcases h with rfl|rfl<;>simp[cx_]at h2
theorem dO_ (s:Str):eF_ s=cd_ s:=by
 unfold eF_ cd_
 by_cases h1:s=[42]∨s=[33]
 ·rw[if_pos h1]
  rcases h1 with rfl|rfl<;>rfl
 rw[if_neg h1]
 have e1:(s==[42]||s==[33])=false:=by
   rw[Bool.or_eq_false_iff]
   exact⟨beq_eq_false_iff_ne.2 fun e=>h1 (.inl e),beq_eq_false_iff_ne.2 fun e=>h1 (.inr e)⟩
 rw[e1,Bool.false_or]
 by_cases h2:s[0]? = some 123
 ·have hp:=pu_ h2 (.inl rfl)
  rw[hp,Bool.false_or]
  by_cases h3:s[s.length - 1]? = some 125
  ·by_cases hl:2≤s.length
   ·rw[if_pos ⟨hl,h2,h3⟩]
    by_cases h4:3≤s.length
    ·simp[h2,h3,h4]
    have:s.length=2:=by omega
    have hq:aK_ (List.take (s.length - 1 - 1) (List.drop 1 s))=false:=by rw[this];rfl
    rw[hq];simp[h4]
   rw[if_neg (by simp[hl]),if_neg (by simp;omega)]
   simp[show ¬ 3≤s.length by omega]
  rw[if_neg (by simp[h3]),if_neg (by simp[h2])]
  simp[h2,h3]
 rw[if_neg (by simp[h2])]
 by_cases h5:3≤s.length∧s[0]? = some 60∧s[s.length - 1]? = some 62
 ·rw[if_pos h5]
  simp[h5.1,h5.2.1,h5.2.2]
 rw[if_neg h5]
 have:(decide (3≤s.length)&&((decide (s[0]? = some 123)&&decide (s[s.length - 1]? = some 125)&&aK_ ((s.drop 1).take (s.length - 1 - 1)))||(decide (s[0]? = some 60)&&decide (s[s.length - 1]? = some 62))))=false:=by
   rw[show decide (s[0]? = some 123)=false from decide_eq_false h2]
   simp only[Bool.false_and,Bool.false_or]
   rw[Bool.eq_false_iff]
   intro h
   simp only[Bool.and_eq_true,decide_eq_true_eq]at h
   exact h5 ⟨h.1,h.2.1,h.2.2⟩
 rw[this,Bool.or_false]
-- roles
structure RInv (s:Str) (a i:Nat) (dn:List Str):Prop where
  le:a≤i
  il:i≤s.length
  no:ixS 46 ((s.drop a).take (i - a))=none
  sp:cb_ 46 s=dn++cb_ 46 (s.drop a)
  al:dn.all aK_=true
structure REnd (s:Str) (i:Nat) (dn:List Str):Prop where
  il:i=s.length+1
  sp:cb_ 46 s=dn
  al:dn.all aK_=true
def segS (s:Str) (a i:Nat):Str:=(s.drop a).take (i - a)
theorem RInv.start (s:Str):RInv s 0 0 []:=⟨Nat.le_refl _,Nat.zero_le _,by simp[ixS],by simp,rfl⟩
theorem RInv.len {s:Str} {a i:Nat} {dn:List Str} (h:RInv s a i dn):dn.length≤s.length+1:=by
  have h1:=hv_ 46 s
  have h2:=oV_ 46 s
  rw[h.sp,List.length_append]at h1
  omega
theorem REnd.len {s:Str} {i:Nat} {dn:List Str} (h:REnd s i dn):dn.length≤s.length+1:=by
  have h1:=hv_ 46 s
  have h2:=oV_ 46 s
  rw[h.sp]at h1
  omega
theorem RInv.next {s:Str} {a i:Nat} {dn:List Str} {c:UInt8} (h:RInv s a i dn) (hc:s[i]? = some c) (hne:c≠46):RInv s a (i+1) dn:=by
  have hi:=(List.getElem?_eq_some_iff.1 hc).1
  have hle:=h.le
  refine⟨by omega,by omega,?_,h.sp,h.al⟩
  rw[show i+1 - a=(i - a)+1 by omega]
  exact mU_ (s.drop a) (i - a) c (by rw[List.getElem?_drop,show a+(i - a)=i by omega];exact hc) h.no hne
theorem RInv.fin {s:Str} {a i:Nat} {dn:List Str} (h:RInv s a i dn) (hi:¬ i<s.length):cb_ 46 s=dn++[segS s a i]:=by
  have hle:=h.le
  have hil:=h.il
  have e:(s.drop a).take (i - a)=s.drop a:=List.take_of_length_le (by rw[List.length_drop];omega)
  have hn:=h.no
  rw[e]at hn
  rw[h.sp,gH_ hn,segS,e]
theorem REnd.role {s:Str} {i:Nat} {dn:List Str} (h:REnd s i dn):eb_ s=decide ((dn.length:Int)≤4):=by
  unfold eb_
  rw[h.sp]
  have:dn.any (fun r=>!aK_ r)=false:=by
    rw[List.any_eq_false]
    intro x hx
    have:=List.all_eq_true.1 h.al x hx
    simp[this]
  rw[this]
  simp
  omega
-- sorted insertion
def kS (l:List Str) (s:Str):Nat:=(l.takeWhile fun x=>decide (x<s)).length
theorem qV_ {s:Str}:∀ {l:List Str} {k:Nat},k≤l.length→(∀ x∈l.take k,x<s)→(∀ x,l[k]? = some x→¬ x<s)→kS l s=k
  | [],k,h1,_,_=>by simp at h1;simp[kS,h1]
  | y::r,0,_,_,h3=>by
    have:=h3 y rfl
    unfold kS
    rw[List.takeWhile_cons_of_neg (by simpa using this)]
    rfl
  | y::r,k+1,h1,h2,h3=>by
    have hy:y<s:=h2 y (by simp)
    have ih:=qV_ (l:=r) (k:=k) (by simpa using h1) (fun x hx=>h2 x (by simp[hx])) (fun x hx=>h3 x (by simpa using hx))
    unfold kS at ih ⊢
    rw[List.takeWhile_cons_of_pos (by simpa using hy),List.length_cons,ih]
def bf_ (l:List Str) (s:Str):List Str:=if s=[]∨l[kS l s]? = some s then l else l.take (kS l s)++[s]++l.drop (kS l s)
theorem sM_ (l:List Str) (s:Str):kS l s≤l.length:=(List.takeWhile_sublist _).length_le
theorem ip_ (l:List Str) (s:Str):(bf_ l s).length≤l.length+1:=by
 have:=sM_ l s
 unfold bf_
 split
 ·omega
 simp only[List.length_append,List.length_take,List.length_cons,List.length_nil,List.length_drop]
 omega
theorem hb_ {l:List Str} {s x:Str}:x∈bf_ l s↔x∈l∨(x=s∧s≠[]):=by
 unfold bf_
 split
 ·rename_i h
  constructor
  ·exact .inl
  rintro (h2|⟨rfl,h2⟩)
  ·exact h2
  rcases h with h|h
  ·exact absurd h h2
  exact List.mem_of_getElem? h
 rename_i h
 simp only[not_or]at h
 have e:x∈l↔x∈l.take (kS l s)∨x∈l.drop (kS l s):=by
   rw[← List.mem_append,List.take_append_drop]
 rw[e]
 simp only[List.mem_append,List.mem_singleton]
 constructor
 ·rintro ((h1|h1)|h1)
  ·exact .inl (.inl h1)
  ·exact .inr ⟨h1,h1▸h.1⟩
  exact .inl (.inr h1)
 rintro ((h1|h1)|h1)
 ·exact .inl (.inl h1)
 ·exact .inr h1
 exact .inl (.inr h1.1)
theorem nq_ {s:Str}:∀ (l:List Str),∀ x∈l.take (kS l s),x<s:=by
 intro l x hx
 have e:l.take (kS l s)=l.takeWhile fun x=>decide (x<s):=by
   unfold kS
   exact (List.prefix_iff_eq_take.1 (List.takeWhile_prefix _)).symm
 rw[e]at hx
 induction l with
 | nil=>simp at hx
 | cons y r ih =>
   by_cases hy:y<s
   · rw[List.takeWhile_cons_of_pos (by simpa using hy)]at hx
     rcases List.mem_cons.1 hx with rfl|hx
     · exact hy
     · refine ih hx ?_
       unfold kS
       exact (List.prefix_iff_eq_take.1 (List.takeWhile_prefix _)).symm
   · rw[List.takeWhile_cons_of_neg (by simpa using hy)]at hx
     simp at hx
theorem lg_ {s:Str}:∀ (l:List Str) (x:Str),l[kS l s]? = some x→¬ x<s
 | [],x,h=>by simp at h
 | y::r,x,h=>by
   unfold kS at h
   by_cases hy:y<s
   · rw[List.takeWhile_cons_of_pos (by simpa using hy),List.length_cons,List.getElem?_cons_succ]at h
     exact lg_ r x h
   · rw[List.takeWhile_cons_of_neg (by simpa using hy)]at h
     simp only[List.length_nil,List.getElem?_cons_zero,Option.some.injEq]at h
     subst h
     exact hy
theorem hK_ {l:List Str} {s:Str} (h:l.Pairwise fun x y=>x<y):(bf_ l s).Pairwise fun x y=>x<y:=by
 unfold bf_
 split
 ·exact h
 rename_i hn
 simp only[not_or]at hn
 have hd:∀ y∈l.drop (kS l s),s<y:=by
   intro y hy
   obtain⟨j,hj,rfl⟩:=List.mem_iff_getElem.1 hy
   rw[List.getElem_drop]
   rw[List.length_drop]at hj
   have hk:kS l s<l.length:=by omega
   have h0:=lg_ l _ (List.getElem?_eq_getElem hk)
   have h1:s<l[kS l s]:=by
     apply Decidable.byContradiction
     intro q
     apply hn.2
     rw[List.getElem?_eq_getElem hk,Option.some.injEq]
     exact List.le_antisymm (List.not_lt.1 q) (List.not_lt.1 h0)
   rcases Nat.eq_zero_or_pos j with rfl|hp
   · exact h1
   · exact List.lt_trans h1 (List.pairwise_iff_getElem.1 h _ _ hk (by omega) (by omega))
 rw[List.pairwise_append,List.pairwise_append]
 refine⟨⟨h.sublist (List.take_sublist _ _),List.pairwise_singleton _ _,fun x hx y hy=>?_⟩,h.sublist (List.drop_sublist _ _),fun x hx y hy=>?_⟩
 ·rw[List.mem_singleton]at hy
  subst hy
  exact nq_ l x hx
 rcases List.mem_append.1 hx with hx|hx
 ·exact List.lt_trans (nq_ l x hx) (hd y hy)
 rw[List.mem_singleton]at hx
 subst hx
 exact hd y hy
def atomsF (l:List Pc):List Str:=l.foldl (fun L p=>bf_ (bf_ (bf_ L p.a) p.b) p.c) []
theorem ka_:∀ (l:List Pc) (L:List Str),L.Pairwise (fun x y=>x<y)→(l.foldl (fun L p=>bf_ (bf_ (bf_ L p.a) p.b) p.c) L).Pairwise (fun x y=>x<y)∧(∀ x,x∈l.foldl (fun L p=>bf_ (bf_ (bf_ L p.a) p.b) p.c) L↔x∈L∨x∈cz_ l)∧(l.foldl (fun L p=>bf_ (bf_ (bf_ L p.a) p.b) p.c) L).length≤L.length+3*l.length
 | [],L,h=>⟨h,fun x=>by simp[cz_],by simp⟩
 | p::r,L,h=>by
   obtain⟨h1,h2,h3⟩:=ka_ r (bf_ (bf_ (bf_ L p.a) p.b) p.c) (hK_ (hK_ (hK_ h)))
   refine⟨h1,fun x=>?_,?_⟩
   · rw[List.foldl_cons,h2,hb_,hb_,hb_]
     simp only[cz_,List.flatMap_cons,List.mem_append,iC_,List.mem_filter,List.mem_cons,List.not_mem_nil,or_false]
     constructor
     · rintro ((((h|⟨rfl,h⟩)|⟨rfl,h⟩)|⟨rfl,h⟩)|h)
       · exact .inl h
       · exact .inr (.inl ⟨.inl rfl,by simpa using h⟩)
       · exact .inr (.inl ⟨.inr (.inl rfl),by simpa using h⟩)
       · exact .inr (.inl ⟨.inr (.inr rfl),by simpa using h⟩)
       · exact .inr (.inr h)
     · rintro (h|⟨h,h5⟩|h)
       · exact .inl (.inl (.inl (.inl h)))
       · have h6:x≠[]:=by simpa using h5
         rcases h with rfl|rfl|rfl
         · exact .inl (.inl (.inl (.inr ⟨rfl,h6⟩)))
         · exact .inl (.inl (.inr ⟨rfl,h6⟩))
         · exact .inl (.inr ⟨rfl,h6⟩)
       · exact .inr h
   · rw[List.foldl_cons]
     have a1:=ip_ L p.a
     have a2:=ip_ (bf_ L p.a) p.b
     have a3:=ip_ (bf_ (bf_ L p.a) p.b) p.c
     simp only[List.length_cons]
     omega
theorem kt_:∀ {l m:List Str},l.Pairwise (fun x y=>x<y)→m.Pairwise (fun x y=>x<y)→(∀ x,x∈l↔x∈m)→l=m
 | [],[],_,_,_=>rfl
 | [],y::m,_,_,h=>by have:=(h y).2 (by simp);simp at this
 | x::l,[],_,_,h=>by have:=(h x).1 (by simp);simp at this
 | x::l,y::m,h1,h2,h=>by
   rw[List.pairwise_cons]at h1 h2
   have e:x=y:=by
     have hx:=(h x).1 (by simp)
     have hy:=(h y).2 (by simp)
     rcases List.mem_cons.1 hx with e|hx
     · exact e
     rcases List.mem_cons.1 hy with e|hy
     · exact e.symm
     exact absurd (List.lt_trans (h1.1 y hy) (h2.1 x hx)) (List.lt_irrefl _)
   subst e
   congr 1
   refine kt_ h1.2 h2.2 fun z=>?_
   have hz:=h z
   simp only[List.mem_cons]at hz
   constructor
   · intro q
     rcases hz.1 (.inr q) with e|e
     · subst e
       exact absurd (h1.1 z q) (List.lt_irrefl _)
     · exact e
   · intro q
     rcases hz.2 (.inr q) with e|e
     · subst e
       exact absurd (h2.1 z q) (List.lt_irrefl _)
     · exact e
theorem rt_ (l:List Pc):ey_ l=atomsF l:=by
  obtain⟨h1,h2,_⟩:=ka_ l [] List.Pairwise.nil
  refine kt_ (pV_ l) h1 fun x=>?_
  have:=h2 x
  rw[jZ_]
  simp only[List.not_mem_nil,false_or]at this
  exact this.symm
end Go.Vs
namespace Go.Proofs.YtamklbgaipakfaaGreatDoor
open Go Go.Sx Go.Proofs
attribute [local irreducible] Code.wp wpList wpAnyH
open Go.Vs
theorem rU_ (s:Str) (hs:s.length≤140737488351232):Fn0 Tryz.prog 83 #[str s] (.bool (cd_ s)):=by
 refine o_ Tryz.func83 rfl rfl Tryz.ntmps83 rfl fun v0=>?_
 refine Zz 8 ?_
 refine c_ (ci_ K_ rfl) rfl (Zi 7 (fun hr1=>?_) fun hr1=>?_)
 ·refine Zi 4 (fun hr2=>?_) fun hr2=>?_
  ·refine Zz 5 ?_
   refine i_ (hS_ _) rfl f_ zt rfl fun _=>ag_ rfl rfl (s_ (br_ (V_ rfl rfl) (congrArg Value.bool (hm_ _))) rfl fun r3 hr3=>Zz 3 ?_)
   cases r3
   ·refine Zi 7 (fun hr4=>?_) fun hr4=>?_
    ·obtain⟨c,hc⟩:∃ c,s[0]? = some c:=⟨_,List.getElem?_eq_getElem (by omega)⟩
     obtain⟨e,he⟩:∃ e,s[s.length - 1]? = some e:=⟨_,List.getElem?_eq_getElem (by omega)⟩
     have hc123 : (s[0]? = some 123) ↔ ((c.toNat : Int) = 123) := by
                               rw[hc];simp only[Option.some.injEq];exact⟨fun q=>by subst q;rfl,fun q=>UInt8.toNat_inj.1 (by show c.toNat=123;omega)⟩
     have he125 : (s[s.length - 1]? = some 125) ↔ ((e.toNat : Int) = 125) := by
                               rw[he];simp only[Option.some.injEq];exact⟨fun q=>by subst q;rfl,fun q=>UInt8.toNat_inj.1 (by show e.toNat=125;omega)⟩
     have hc60 : (s[0]? = some 60) ↔ ((c.toNat : Int) = 60) := by
                               rw[hc];simp only[Option.some.injEq];exact⟨fun q=>by subst q;rfl,fun q=>UInt8.toNat_inj.1 (by show c.toNat=60;omega)⟩
     have he62 : (s[s.length - 1]? = some 62) ↔ ((e.toNat : Int) = 62) := by
                               rw[he];simp only[Option.some.injEq];exact⟨fun q=>by subst q;rfl,fun q=>UInt8.toNat_inj.1 (by show e.toNat=62;omega)⟩
     refine Zz 8 ?_
     refine c_ (bA_ K_ rfl rfl (by decide) hc) rfl ?_
     refine Zi 0 (fun hr5=>?_) fun hr5=>?_
     ·refine Zz 19 ?_
      refine c_ (bA_ K_ rfl rfl (by decide) hc) rfl (ag_ rfl rfl ?_)
      refine Zi 0 (fun hr6=>?_) fun hr6=>?_
      ·refine Zz 14 ?_
       exact G_ do_ () (l_ rfl (by rw[← dO_];unfold eF_;first|(simp only[hc123,he125,hc60,he62];subst_vars;rw[Bool.eq_iff_iff];simp[*]<;>omega)|(simp_all;done)|(simp_all;omega))) (.refl _) zt
      refine Zz 9 ?_
      refine c_ (bA_ K_ rfl rfl (by omega) (show s[((s.length:Int) - 1).toNat]? = some e by rw[show ((s.length:Int) - 1).toNat=s.length - 1 by omega];exact he)) rfl ?_
      refine ag_ rfl rfl (s_ (V_ rfl rfl) rfl fun r7 hr7=>Zz 7 ?_)
      exact G_ do_ () (l_ rfl (by rw[← dO_];unfold eF_;first|(simp only[hc123,he125,hc60,he62];subst_vars;rw[Bool.eq_iff_iff];simp[*]<;>omega)|(simp_all;done)|(simp_all;omega))) (.refl _) zt
     refine Zz 8 ?_
     refine c_ (bA_ K_ rfl rfl (by omega) (show s[((s.length:Int) - 1).toNat]? = some e by rw[show ((s.length:Int) - 1).toNat=s.length - 1 by omega];exact he)) rfl ?_
     refine ag_ rfl rfl ?_
     refine Zi 0 (fun hr8=>?_) fun hr8=>?_
     ·refine Zz 13 ?_
      refine c_ (bA_ K_ rfl rfl (by decide) hc) rfl (ag_ rfl rfl ?_)
      refine Zi 0 (fun hr9=>?_) fun hr9=>?_
      ·refine Zz 14 ?_
       exact G_ do_ () (l_ rfl (by rw[← dO_];unfold eF_;first|(simp only[hc123,he125,hc60,he62];subst_vars;rw[Bool.eq_iff_iff];simp[*]<;>omega)|(simp_all;done)|(simp_all;omega))) (.refl _) zt
      refine Zz 9 ?_
      refine c_ (bA_ K_ rfl rfl (by omega) (show s[((s.length:Int) - 1).toNat]? = some e by rw[show ((s.length:Int) - 1).toNat=s.length - 1 by omega];exact he)) rfl ?_
      refine ag_ rfl rfl (s_ (V_ rfl rfl) rfl fun r10 hr10=>Zz 7 ?_)
      exact G_ do_ () (l_ rfl (by rw[← dO_];unfold eF_;first|(simp only[hc123,he125,hc60,he62];subst_vars;rw[Bool.eq_iff_iff];simp[*]<;>omega)|(simp_all;done)|(simp_all;omega))) (.refl _) zt
     refine Zz 9 ?_
     refine c_ (eB_ (i:=1) (j:=s.length - 1) (kl:=.i64) (kh:=.i64) K_ rfl rfl (show _=some (Value.int .i64 ((s.length - 1:Nat):Int)) by rw[show ((s.length - 1:Nat):Int)=(s.length:Int) - 1 by omega];rfl) (by omega) (by omega)) rfl ?_
     refine ag_ rfl rfl (i_ (hS_ _) rfl f_ zt rfl fun _=>ag_ rfl rfl (s_ (br_ (V_ rfl rfl) (congrArg Value.bool (hm_ _))) rfl fun r11 hr11=>Zz 2 ?_))
     cases r11
     ·refine Zz 3 ?_
      refine c_ (bA_ K_ rfl rfl (by decide) hc) rfl (ag_ rfl rfl ?_)
      refine Zi 0 (fun hr12=>?_) fun hr12=>?_
      ·refine Zz 14 ?_
       exact G_ do_ () (l_ rfl (by rw[← dO_];unfold eF_;first|(simp only[hc123,he125,hc60,he62];subst_vars;rw[Bool.eq_iff_iff];simp[*]<;>omega)|(simp_all;done)|(simp_all;omega))) (.refl _) zt
      refine Zz 9 ?_
      refine c_ (bA_ K_ rfl rfl (by omega) (show s[((s.length:Int) - 1).toNat]? = some e by rw[show ((s.length:Int) - 1).toNat=s.length - 1 by omega];exact he)) rfl ?_
      refine ag_ rfl rfl (s_ (V_ rfl rfl) rfl fun r13 hr13=>Zz 7 ?_)
      exact G_ do_ () (l_ rfl (by rw[← dO_];unfold eF_;first|(simp only[hc123,he125,hc60,he62];subst_vars;rw[Bool.eq_iff_iff];simp[*]<;>omega)|(simp_all;done)|(simp_all;omega))) (.refl _) zt
     refine Zz 15 ?_
     exact G_ do_ () (l_ rfl (by rw[← dO_];unfold eF_;first|(simp only[hc123,he125,hc60,he62];subst_vars;rw[Bool.eq_iff_iff];simp[*]<;>omega)|(simp_all;done)|(simp_all;omega))) (.refl _) zt
    refine Zz 9 ?_
    exact G_ do_ () (l_ rfl (by rw[← dO_];unfold eF_;first|(simp only[hc123,he125,hc60,he62];subst_vars;rw[Bool.eq_iff_iff];simp[*]<;>omega)|(simp_all;done)|(simp_all;omega))) (.refl _) zt
   refine Zz 7 ?_
   exact G_ do_ () (l_ rfl (by rw[← dO_];unfold eF_;first|(simp only[hc123,he125,hc60,he62];subst_vars;rw[Bool.eq_iff_iff];simp[*]<;>omega)|(simp_all;done)|(simp_all;omega))) (.refl _) zt
  refine Zz 15 ?_
  exact G_ do_ () (l_ rfl (by rw[← dO_];unfold eF_;first|(simp only[hc123,he125,hc60,he62];subst_vars;rw[Bool.eq_iff_iff];simp[*]<;>omega)|(simp_all;done)|(simp_all;omega))) (.refl _) zt
 refine Zz 18 ?_
 exact G_ do_ () (l_ rfl (by rw[← dO_];unfold eF_;first|(simp only[hc123,he125,hc60,he62];subst_vars;rw[Bool.eq_iff_iff];simp[*]<;>omega)|(simp_all;done)|(simp_all;omega))) (.refl _) zt
theorem rO_ (l m:List Str) (ad ae:Option Addr) (cap cpe:Nat) (hl:l.length≤17592186044414) (hm:m.length≤17592186044414):Tri Tryz.prog 16 #[.slice ad (List.length l) cap,.slice ae (List.length m) cpe] [] [aw_ ad (List.flatMap aH_ l),aw_ ae (List.flatMap aH_ m)] (fun _:Unit=>.bool (decide (l=m))) (fun _=>[]) (fun _=>[]):=by
 refine o_ Tryz.func16 rfl rfl Tryz.ntmps16 rfl fun v0=>?_
 refine Zi 12 (fun hr1=>?_) fun hr1=>?_
 ·refine Zz 12 ?_
  refine aN_ [(0,.slice ad (List.length l) cap),(1,.slice ae (List.length m) cpe),(5,.int .i64 ((0:Nat):Int))] zl ?_
  refine aT_ (ι:={q:Nat // q≤l.length∧l.take q=m.take q}) (fun i=>[(0,.slice ad (List.length l) cap),(1,.slice ae (List.length m) cpe),(5,.int .i64 (i.1:Int))]) (fun _=>_) (fun _=>_) (fun i=>l.length - i.1) ⟨0,by simp⟩ ?_
  rintro ⟨i,hk⟩
  refine aN_ [(0,.slice ad (List.length l) cap),(1,.slice ae (List.length m) cpe),(5,.int .i64 (i:Int))] zl ?_
  refine Zi 6 (fun hr2=>?_) fun hr2=>?_
  ·refine Zz 11 ?_
   exact G_ Tryz.results16 () (l_ rfl (by symm;apply decide_eq_true;have h2:=hk.2;rwa [List.take_of_length_le (by omega),List.take_of_length_le (by omega)]at h2)) (.refl _) zt
  obtain⟨hlx1,x1,hx1,hmx1⟩:=zge (show i<List.length l by omega)
  obtain⟨hlx2,x2,hx2,hmx2⟩:=zge (show i<List.length m by omega)
  refine Zz 9 ?_
  refine U_ 0 [0,1,2,3,4,5,6,7,8] zk zs (Zi 8 (fun hr3=>?_) fun hr3=>?_)
  ·have hxe:x1=x2:=by assumption
   refine Zz 12 ?_
   exact R_ ⟨i+1,hlx1,by rw[List.take_add_one,hx1,List.take_add_one,hx2,hk.2,hxe]⟩ (by simp;omega) zl (.refl _) zh
  refine Zz 10 ?_
  exact G_ Tryz.results16 () (l_ rfl (by symm;apply decide_eq_false;intro e;subst e;rw[hx1]at hx2;simp_all)) (.refl _) zt
 refine Zz 9 ?_
 exact G_ Tryz.results16 () (l_ rfl (by symm;apply decide_eq_false;intro e;subst e;omega)) (.refl _) zt
theorem hX_ {xs:List Str} {u:Value} (h:u∈xs.flatMap aH_):u.oneCell'=true:=by
  rw[jm_]at h
  obtain⟨x,_,rfl⟩:=List.mem_map.1 h
  rfl
end Go.Proofs.YtamklbgaipakfaaGreatDoor
namespace Go.Sx
open Go
section
variable {P:Program} {N:Nf} {v0:Vw} {H0:Hp} {fr:Fr} {H:Hp} {Γ:List Fct}
theorem kc_ {N:Nat} {fn:Func} {t:Nat} {ι:Type} {F:Hp} {ret:ι→Value} {H':ι→Hp} {Γ':ι→List Fct} {u1 u2 u3 u4 u5 u6 u7:Value} (hr:fn.results=#[.tmp t,.tmp (t+1),.tmp (t+2),.tmp (t+3),.tmp (t+4),.tmp (t+5),.tmp (t+6)]) (x:ι)
    (h1x:Fr.get fr t=some u1) (h2x:Fr.get fr (t+1)=some u2) (h3x:Fr.get fr (t+2)=some u3) (h4x:Fr.get fr (t+3)=some u4) (h5x:Fr.get fr (t+4)=some u5) (h6x:Fr.get fr (t+5)=some u6) (h7x:Fr.get fr (t+6)=some u7) (hx:.tuple #[u1,u2,u3,u4,u5,u6,u7]=ret x) (hH:H.Perm (H' x++F))
    (hΓ:∀ v,v.sat H→az_ Γ v→az_ (Γ' x) v):Ok N v0 H0 (bodyPost P fn (iD_ v0 H0 ret H' Γ') .ret) fr H Γ :=
  ev_ hH hΓ fun a v h1 h2 h3 h4=>⟨h1.defers,ret x,by
    rw[← hx]
    have e1:=h1.val _ _ h1x;have e2:=h1.val _ _ h2x;have e3:=h1.val _ _ h3x;have e4:=h1.val _ _ h4x;have e5:=h1.val _ _ h5x;have e6:=h1.val _ _ h6x;have e7:=h1.val _ _ h7x
    simp[results,hr,e1,e2,e3,e4,e5,e6,e7],x,v,rfl,rfl,h2,h4,h3⟩
end
end Go.Sx
namespace Go.Vs
open Go Go.Sx
namespace Con
def shapeS (c:Con):Bool :=
  if c.kind=1∨c.kind=2 then ((c.lo==0&&c.hi==0)&&(c.name==[]))&&((c.parts.length:Int)==0)
  else if c.kind=3∨c.kind=4 then (c.lo==0&&c.hi==0)&&((c.parts.length:Int)==0)
  else if c.kind=5 then (((c.lo==0&&c.hi==0)&&(c.name==[]))&&decide (2≤(c.parts.length:Int)))&&decide ((c.parts.length:Int)≤8)
  else if c.kind=6 then (c.lo==0&&c.hi==0)&&((c.parts.length:Int)==1)
  else if c.kind=7 then ((((c.parts.length:Int)==0)&&decide (-1099511627776≤c.lo))&&decide (c.lo≤c.hi))&&decide (c.hi≤1099511627776)
  else false
def namedS (c:Con):Bool :=
  if c.kind=3∨c.kind=6∨c.kind=7 then bn_ c.name else if c.kind=4 then aK_ c.name else true
theorem fieldErr_ref (c:Con):c.fieldErr=if c.shapeS=false then 21 else if c.namedS=false then 20 else 0:=by
 by_cases hk:c.kind<1∨7<c.kind
 ·have:c.shapeS=false:=by
    unfold shapeS
    rw[if_neg (by omega),if_neg (by omega),if_neg (by omega),if_neg (by omega),if_neg (by omega)]
  rw[if_pos this]
  unfold fieldErr
  rw[if_pos hk]
 have hk':c.kind=1∨c.kind=2∨c.kind=3∨c.kind=4∨c.kind=5∨c.kind=6∨c.kind=7:=by omega
 unfold fieldErr
 rw[if_neg hk]
 have key:∀ {p q r:Prop} [Decidable p] [Decidable q] [Decidable r] {s n:Bool},((p∨q∨r)↔s=false)→∀ {g:Prop} [Decidable g],(g↔n=true)→(if p then (21:Int) else if q then 21 else if r then 21 else if g then 0 else 20)=if s=false then 21 else if n=false then 20 else 0:=by
   intro p q r _ _ _ s n h g _ hg
   by_cases hp:p
   · rw[if_pos hp,if_pos (h.1 (.inl hp))]
   · rw[if_neg hp]
     by_cases hq:q
     · rw[if_pos hq,if_pos (h.1 (.inr (.inl hq)))]
     · rw[if_neg hq]
       by_cases hr:r
       · rw[if_pos hr,if_pos (h.1 (.inr (.inr hr)))]
       · have hs:¬ s=false:=fun e=>by rcases h.2 e with e|e|e;exact hp e;exact hq e;exact hr e
         rw[if_neg hr,if_neg hs]
         by_cases hgg:g
         · rw[if_pos hgg,if_neg (show ¬ n=false by rw[hg.1 hgg];simp)]
         · rw[if_neg hgg,if_pos (show n=false by cases n;rfl;exact absurd (hg.2 rfl) hgg)]
 apply key
 ·by_cases hn:c.name=[]<;>by_cases hp:c.parts=[]
  ·rcases hk' with e|e|e|e|e|e|e<;>simp[shapeS,nd,cW_,e,hn,hp]<;>omega
  ·have:=List.length_pos_iff.2 hp
   rcases hk' with e|e|e|e|e|e|e<;>simp[shapeS,nd,cW_,e,hn,hp]<;>omega
  ·rcases hk' with e|e|e|e|e|e|e<;>simp[shapeS,nd,cW_,e,hn,hp]<;>omega
  have:=List.length_pos_iff.2 hp
  rcases hk' with e|e|e|e|e|e|e<;>simp[shapeS,nd,cW_,e,hn,hp]<;>omega
 rcases hk' with e|e|e|e|e|e|e<;>simp[namedS,nd,cW_,e,aK_]
theorem iM_:∀ (xs ys:List Con),dep.deps (xs++ys)=max (dep.deps xs) (dep.deps ys)
  | [],ys=>by simp[dep.deps]
  | x::xs,ys=>by simp only[List.cons_append,dep.deps,iM_ xs ys];omega
theorem deps_step {ps:List Con} {p:Con} {i:Nat} (hp:ps[i]? = some p):dep.deps (ps.take (i+1))=max (dep.deps (ps.take i)) (1+p.dep):=by
  rw[take_snoc hp,iM_];simp[dep.deps]
theorem oT_ {d:Nat}:∀ {ps:List Con},dep.deps ps≤d↔∀ p∈ps,1+p.dep≤d
  | []=>by simp[dep.deps]
  | p::ps=>by
    have:=oT_ (d:=d) (ps:=ps)
    simp only[dep.deps,List.mem_cons,forall_eq_or_imp]
    rw[Nat.max_le,this]
theorem dep_sz:∀ (m:Nat) (c:Con),c.sz≤m→c.dep<c.sz
  | 0,c,h=>by have:=c.sz_pos;omega
  | m+1,c,h=>by
    have hsz:c.sz=1+sz.szs c.parts:=by cases c;simp only[sz,parts]
    rw[dep_eq]
    have:dep.deps c.parts≤sz.szs c.parts:=oT_.2 fun p hp=>by
      have h1:=dep_sz m p (by have:=sz_part hp;omega)
      have h2:=ns_ hp
      omega
    omega
theorem szs_append:∀ (xs ys:List Con),sz.szs (xs++ys)=sz.szs xs+sz.szs ys
  | [],ys=>by simp[sz.szs]
  | x::xs,ys=>by simp only[List.cons_append,sz.szs,szs_append xs ys];omega
theorem szs_step {ps:List Con} {p:Con} {i:Nat} (hp:ps[i]? = some p):sz.szs (ps.take (i+1))=sz.szs (ps.take i)+p.sz:=by
  rw[take_snoc hp,szs_append];simp[sz.szs]
theorem szs_take_le (ps:List Con) (i:Nat):sz.szs (ps.take i)≤sz.szs ps:=by
  have:=szs_append (ps.take i) (ps.drop i)
  rw[List.take_append_drop]at this
  omega
theorem check_ref (c:Con):c.check=if 8<c.dep∨64<c.sz then 21 else c.firstErr:=by
 have h:=jP_ _ c (Nat.le_refl _) 0 0
 unfold check
 by_cases hc:8<c.dep∨64<c.sz
 ·rw[if_pos hc,if_neg]
  intro e
  have:=h.1 e
  omega
 rw[if_neg hc,if_pos (h.2 (by omega))]
theorem firstErrs_first {ps:List Con} {p:Con} {i:Nat} (h:firstErr.firstErrs (ps.take i)=0) (hp:ps[i]? = some p) (hn:p.firstErr≠0):firstErr.firstErrs ps=p.firstErr:=by
 induction ps generalizing i with
 | nil=>simp at hp
 | cons q ps ih =>
   cases i with
   | zero =>
     simp only[List.getElem?_cons_zero,Option.some.injEq]at hp
     subst hp
     simp only[firstErr.firstErrs,if_neg hn]
   | succ i =>
     simp only[List.take_succ_cons,firstErr.firstErrs]at h ⊢
     split at h
     · rename_i hq
       rw[if_pos hq]
       exact ih h (by simpa using hp)
     · rename_i hq;exact absurd h hq
theorem firstErrs_step {ps:List Con} {p:Con} {i:Nat} (h:firstErr.firstErrs (ps.take i)=0) (hp:ps[i]? = some p) (hn:p.firstErr=0):firstErr.firstErrs (ps.take (i+1))=0:=by
 rw[take_snoc hp,ew_]
 rw[ew_]at h
 intro q hq
 rcases List.mem_append.1 hq with hq|hq
 ·exact h q hq
 rw[List.mem_singleton]at hq;subst hq;exact hn
def rbare:Con→Bool
  | mk k _ _ _ _ _ ps=>if k=4 then true else if k=6 then false else rbares ps
where rbares:List Con→Bool
  | []=>false
  | p::ps=>rbare p||rbares ps
theorem jw_:∀ (ps:List Con),rbare.rbares ps=ps.any rbare
  | []=>rfl
  | p::ps=>by simp[rbare.rbares,jw_ ps]
theorem rbare_eq (c:Con):c.rbare=if c.kind=4 then true else if c.kind=6 then false else c.parts.any rbare:=by cases c;rw[rbare,jw_];rfl
theorem rbare_fine:∀ (m:Nat) (c:Con),c.sz≤m→c.fine→c.rbare=c.bare
 | 0,c,h=>by have:=c.sz_pos;omega
 | m+1,c,h=>fun hf=>by
   have F:=fields hf
   have k1:=F.k1
   have k7:=F.k7
   have hmo:=F.mo
   rw[rbare_eq,bare_eq]
   have hp:c.parts.any rbare=c.parts.any bare:=by
     rw[Bool.eq_iff_iff,List.any_eq_true,List.any_eq_true]
     constructor
     · rintro ⟨p,hp,e⟩;exact⟨p,hp,by rw[← rbare_fine m p (by have:=sz_part hp;omega) (fine_part hf hp)];exact e⟩
     · rintro ⟨p,hp,e⟩;exact⟨p,hp,by rw[rbare_fine m p (by have:=sz_part hp;omega) (fine_part hf hp)];exact e⟩
   have hk:c.kind=1∨c.kind=2∨c.kind=3∨c.kind=4∨c.kind=5∨c.kind=6∨c.kind=7:=by omega
   rcases hk with e|e|e|e|e|e|e
   all_goals rw[e]at hmo
   all_goals simp only[nd,cW_]at hmo
   · have:c.parts=[]:=by simpa using hmo
     simp[e,this]
   · have:c.parts=[]:=by simpa using hmo
     simp[e,this]
   · have:c.parts=[]:=by simpa using hmo
     simp[e,this]
   · simp[e]
   · simp[e,hp]
   · simp[e]
   · have:c.parts=[]:=by simpa using hmo
     simp[e,this]
end Con
namespace Ax
theorem shaped_ref {x:Ax} {ul ur uo ua ub:Bool} {um un:Int} (hu:us x.kind=⟨ul,ur,uo,ua,ub,um,un⟩) :
    x.shaped=!((((((((decide (x.kind<1)||decide (9<x.kind))||(!ul&&!x.left.empty))||(!ur&&!x.right.empty))||(!uo&&(x.role != [])))||(!ua&&(x.a != [])))||(!ub&&(x.b != [])))||decide ((x.roles.length:Int)<um))||decide (un<(x.roles.length:Int))):=by
  unfold shaped
  by_cases hk:x.kind<1∨9<x.kind
  · rw[if_pos hk]
    have:(decide (x.kind<1)||decide (9<x.kind))=true:=by simpa using hk
    rw[this];simp
  · rw[if_neg hk,hu]
    have h1:decide (x.kind<1)=false:=decide_eq_false (by omega)
    have h2:decide (9<x.kind)=false:=decide_eq_false (by omega)
    have h3:decide (um≤(x.roles.length:Int))=!decide ((x.roles.length:Int)<um):=by rw[← decide_not];simp
    have h4:decide ((x.roles.length:Int)≤un)=!decide (un<(x.roles.length:Int)):=by rw[← decide_not];simp
    dsimp only
    rw[h1,h2,h3,h4]
    simp only[Bool.or_false,Bool.false_or,Bool.not_or,Bool.not_and,Bool.not_not,bne]
theorem check_22 {x:Ax} (h:x.shaped=false):x.check=22:=by unfold check;rw[if_pos h]
theorem check_20 {x:Ax} (h:x.shaped=true) (hn:x.namedU (us x.kind)=false):x.check=20:=by unfold check;rw[if_neg (by rw[h];simp),if_pos hn]
theorem check_left {x:Ax} (h:x.shaped=true) (hn:x.namedU (us x.kind)=true) (hl:(us x.kind).left=true) (he:x.left.check≠0):x.check=x.left.check:=by
  unfold check;rw[if_neg (by rw[h];simp),if_neg (by rw[hn];simp),if_pos ⟨hl,he⟩]
theorem check_right {x:Ax} (h:x.shaped=true) (hn:x.namedU (us x.kind)=true) (hl:(us x.kind).left=true→x.left.check=0) (hr:(us x.kind).right=true) (he:x.right.check≠0):x.check=x.right.check:=by
  unfold check;rw[if_neg (by rw[h];simp),if_neg (by rw[hn];simp),if_neg (fun q=>q.2 (hl q.1)),if_pos ⟨hr,he⟩]
theorem check_last {x:Ax} (h:x.shaped=true) (hn:x.namedU (us x.kind)=true) (hl:(us x.kind).left=true→x.left.check=0) (hr:(us x.kind).right=true→x.right.check=0) :
    x.check=if ((((us x.kind).right&&(x.kind != 3))&&x.right.rbare)||((x.kind==2)&&x.left.rbare))=true then 22 else 0:=by
  have hk:1≤x.kind∧x.kind≤9:=by
    unfold shaped at h
    split at h
    · cases h
    · rename_i hh;simp only[not_or]at hh;omega
  have hb:∀ {c:Con},c.check=0→c.rbare=c.bare:=fun {c} e=>Con.rbare_fine _ c (Nat.le_refl _) (Con.check_zero e).1
  unfold check
  rw[if_neg (by rw[h];simp),if_neg (by rw[hn];simp),if_neg (fun q=>q.2 (hl q.1)),if_neg (fun q=>q.2 (hr q.1))]
  have hk':x.kind=1∨x.kind=2∨x.kind=3∨x.kind=4∨x.kind=5∨x.kind=6∨x.kind=7∨x.kind=8∨x.kind=9:=by omega
  rcases hk' with e|e|e|e|e|e|e|e|e<;>simp only[us,iP_,e]at hl hr ⊢
  · rw[hb (hr rfl)];cases x.right.bare<;>simp
  · rw[hb (hr rfl),hb (hl rfl)];cases x.right.bare<;>cases x.left.bare<;>simp
  · simp
  · rw[hb (hr rfl)];cases x.right.bare<;>simp
  · simp
  · simp
  · simp
  · rw[hb (hr rfl)];cases x.right.bare<;>simp
  · simp
end Ax
end Go.Vs
namespace Go.Proofs.YtamklbgaipakfaaGreatDoor
open Go Go.Sx Go.Proofs
attribute [local irreducible] Code.wp wpList wpAnyH
open Go.Vs
theorem ro_:∀ (m:Nat) (c:Con),c.sz≤m→c.ok→∀ (d most:Int),0≤d∧d≤40→0≤most∧most≤1000→Tri Tryz.prog 105 #[Con.val c,.int .i64 d,.int .i64 most] [] [Con.memF c] (fun r:{r:Int // 1≤r∧r≤most+4398046511104∧(r≤most→(c.sz:Int)≤r)}=>.int .i64 r.1) (fun _=>[]) (fun _=>[]):=by
 intro m
 induction m with
 | zero=>intro c h;have:=c.sz_pos;omega
 | succ m ih =>
   intro c hm hok d most hd hmost
   have hnl:=Con.ok_name hok
   have hpl:=Con.ok_len hok
   refine o_ Tryz.func105 rfl rfl Tryz.ntmps105 rfl fun v0=>?_
   refine Zz 2 ?_
   refine ah_ rfl rfl fun b1=>Zi 7 (fun hr1=>?_) fun hr1=>?_
   · skip
     refine Zz 9 ?_
     refine c_ (ci_ K_ rfl) rfl (c_ (br_ (le_ (n:=40) rfl rfl (by decide) (be_ (r:=((List.length (Con.name c) / 40:Nat):Int)) (by omega) (by omega))) (show _=Value.int .i64 ((List.length (Con.name c) / 40:Nat):Int) from rfl)) rfl (Zz 11 ?_))
     refine aN_ [(1,.int .i64 d),(2,.int .i64 most),(3,zp_ b1 0),(7,.int .i64 (1+((List.length (Con.name c) / 40:Nat):Int))),(8,.int .i64 ((0:Nat):Int))] zl ?_
     refine aT_ (ι:={x:Nat×Int // x.1≤c.parts.length∧1≤x.2∧x.2≤most+4398046511104∧(x.2≤most→((1+Con.sz.szs (c.parts.take x.1):Nat):Int)≤x.2)}) (fun x=>[(1,.int .i64 d),(2,.int .i64 most),(3,zp_ b1 0),(7,.int .i64 x.1.2),(8,.int .i64 (x.1.1:Int))]) (fun _=>_) (fun _=>_) (fun x=>c.parts.length - x.1.1) ⟨(0,1+((List.length (Con.name c) / 40:Nat):Int)),by simp,by dsimp only;omega,by dsimp only;omega,by simp[Con.sz.szs];omega⟩ ?_
     rintro ⟨⟨i,n⟩,hk⟩
     dsimp only at hk
     obtain⟨hk1,hk2,hk3,hk4⟩:=hk
     refine aN_ [(1,.int .i64 d),(2,.int .i64 most),(3,zp_ b1 0),(7,.int .i64 n),(8,.int .i64 (i:Int))] zl ?_
     refine Zz 7 ?_
     refine s_ (bR_ rfl rfl) rfl fun r2 hr2=>Zz 1 ?_
     refine as_ 4 ((decide ((i:Int)<(List.length (Con.parts c):Int)))&&(decide (n≤most))) (fun r=>[(1,.int .i64 d),(2,.int .i64 most),(3,zp_ b1 0),(7,.int .i64 n),(8,.int .i64 (i:Int)),(27,.bool r)]) ?_ fun r3 hr3=>?_
     · skip
       cases r2
       · skip
         have qr3:=hr2
         replace hr2:=zdf hr2
         refine Zz 6 ?_
         exact met ⟨rfl,rfl,rfl,rfl,rfl,(l_ rfl (jaf qr3)),trivial⟩
       · skip
         have qr3:=hr2
         replace hr2:=zdt hr2
         refine Zz 5 ?_
         refine s_ (du_ rfl rfl) rfl fun r4 hr4=>Zz 3 ?_
         exact met ⟨rfl,rfl,rfl,rfl,rfl,(l_ rfl (jat qr3 hr4)),trivial⟩
     · skip
       refine Zz 2 ?_
       cases r3
       · skip
         simp at hr3
         refine Zz 10 ?_
         exact G_ Tryz.results105 ⟨n,by omega,by omega,fun q=>by have hi:c.parts.length≤i:=(by simp at *;omega);have:=hk4 q;rw[List.take_of_length_le hi]at this;rw[Con.sz_eq];exact this⟩ rfl (@List.perm_append_comm _ [_] _) zt
       · skip
         simp at hr3
         skip
         obtain⟨hlx1,x1,hx1,hmx1⟩:=zge (show i<List.length (Con.parts c) by omega)
         refine Zz 10 ?_
         refine c_ (T_ B_ g_ rfl rfl (fun v _ h=>J_ (n:=5) Con.cells_len (by decide) (by exact ((Con.mem_iff c v).1 h.1).1) hx1) (by omega) (by first|omega|(simp;done))) rfl ?_
         refine c_ (al_ (ad:=(Con.ad c)) (us:=Con.cells x1) w_ g_ rfl (fun v _ h=>by exact ((Con.mem_iff c v).1 h.1).1) (Con.cells_len _) (H_ Con.cells_len hx1)) rfl (Zz 5 ?_)
         refine i_ (ih x1 (by have:=Con.sz_part hmx1;omega) (Con.ok_part hok hmx1) (d - 1) (most - n) ⟨by omega,by omega⟩ ⟨by omega,by omega⟩) rfl f_ (fun v _ h=>by exact⟨(Con.mem_part (c:=c) h.1 hmx1),trivial⟩) rfl fun⟨r,hr1,hr2,hr3⟩=>?_
         dsimp only
         refine Zz 10 ?_
         have hst:=Con.szs_step hx1
         exact R_ ⟨(i+1,n+r),hlx1,by dsimp only;omega,by dsimp only;omega,fun q=>by dsimp only at q ⊢;rw[hst];have:=hr3 (by omega);have:=hk4 (by omega);omega⟩ (by dsimp only;omega) zl (.refl _) zh
   · skip
     refine Zz 11 ?_
     exact G_ Tryz.results105 ⟨(most+1),by omega,by omega,fun q=>by omega⟩ rfl (@List.perm_append_comm _ [_] _) zt
theorem lK_ (c:Con) (hok:c.ok):Tri Tryz.prog 55 #[Con.val c] [] [Con.memF c] (fun b:{b:Bool // b=true→c.sz≤150}=>.bool b.1) (fun _=>[]) (fun _=>[]):=by
  refine o_ Tryz.func55 rfl rfl Tryz.ntmps55 rfl fun v0=>?_
  refine Zz 2 ?_
  refine ah_ rfl rfl fun b1=>Zz 6 ?_
  refine i_ (ro_ _ c (Nat.le_refl _) hok 40 150 ⟨by decide,by decide⟩ ⟨by decide,by decide⟩) rfl f_ zf rfl fun⟨r,hr1,hr2,hr3⟩=>?_
  dsimp only
  refine s_ (du_ rfl rfl) rfl fun r1 hr1=>Zz 4 ?_
  exact G_ Tryz.results55 ⟨r1,fun q=>by rw[q]at hr1;have:=of_decide_eq_true hr1;have:=hr3 this;omega⟩ rfl (@List.perm_append_comm _ [_] _) zt
structure Ax.Few (x:Ax):Prop where
  left:x.left.sz≤150
  right:x.right.sz≤150
  roles:x.roles.length≤600
theorem na_ (x:Ax) (hok:x.ok):Tri Tryz.prog 21 #[Ax.val x] [] [Ax.memF x] (fun b:{b:Bool // b=true→Ax.Few x}=>.bool b.1) (fun _=>[]) (fun _=>[]):=by
 refine o_ Tryz.func21 rfl rfl Tryz.ntmps21 rfl fun v0=>?_
 have h1:=hok.role
 have h2:=hok.a
 have h3:=hok.b
 have h4:=hok.len
 have h5:=hok.cap
 refine Zz 2 ?_
 refine ah_ rfl rfl fun b1=>Zz 7 ?_
 refine c_ (ci_ K_ rfl) rfl (Zz 2 ?_)
 refine c_ (ci_ K_ rfl) rfl (Zz 3 ?_)
 refine c_ (ci_ K_ rfl) rfl (Zz 16 ?_)
 refine aN_ [(1,zp_ b1 0),(3,.int .i64 (((((Ax.role x).length:Int)+((Ax.a x).length:Int))+((Ax.b x).length:Int))+(10*(List.length (Ax.roles x):Int)))),(4,.int .i64 ((0:Nat):Int))] zl ?_
 refine aT_ (ι:={y:Nat×Int // y.1≤x.roles.length∧y.1≤100∧(x.roles.length:Int)≤y.2∧y.2≤444444444444444444+y.1*140737488351232}) (fun y=>[(1,zp_ b1 0),(3,.int .i64 y.1.2),(4,.int .i64 (y.1.1:Int))]) (fun _=>_) (fun _=>_) (fun y=>x.roles.length - y.1.1) ⟨(0,(((((Ax.role x).length:Int)+((Ax.a x).length:Int))+((Ax.b x).length:Int))+(10*(List.length (Ax.roles x):Int)))),by simp,by simp,by dsimp only;omega,by dsimp only;omega⟩ ?_
 rintro ⟨⟨i,n⟩,hk⟩
 dsimp only at hk
 refine aN_ [(1,zp_ b1 0),(3,.int .i64 n),(4,.int .i64 (i:Int))] zl ?_
 refine Zi 7 (fun hr1=>?_) fun hr1=>?_
 ·refine Zi 12 (fun hr2=>?_) fun hr2=>?_
  ·refine Zz 14 ?_
   exact G_ jt_ ⟨false,fun h=>by cases h⟩ rfl (@List.perm_append_comm _ [_] _) zt
  refine Zz 6 ?_
  refine i_ (lK_ (Ax.left x) hok.left) rfl f_ (fun v _ h=>by exact⟨h.1.1,trivial⟩) rfl fun⟨f1,hf1⟩=>?_
  dsimp only
  refine Zz 2 ?_
  cases f1
  ·refine Zz 8 ?_
   exact G_ jt_ ⟨false,fun h=>by cases h⟩ rfl (@List.perm_append_comm _ [_] _) zt
  refine Zz 5 ?_
  refine i_ (lK_ (Ax.right x) hok.right) rfl f_ (fun v _ h=>by exact⟨h.1.2.1,trivial⟩) rfl fun⟨f2,hf2⟩=>?_
  dsimp only
  refine Zz 5 ?_
  exact G_ jt_ ⟨f2,fun h=>⟨hf1 rfl,hf2 h,by omega⟩⟩ rfl (@List.perm_append_comm _ [_] _) zt
 refine Zi 4 (fun hr3=>?_) fun hr3=>?_
 ·refine Zi 9 (fun hr4=>?_) fun hr4=>?_
  ·refine Zz 14 ?_
   exact G_ jt_ ⟨false,fun h=>by cases h⟩ rfl (@List.perm_append_comm _ [_] _) zt
  refine Zz 6 ?_
  refine i_ (lK_ (Ax.left x) hok.left) rfl f_ (fun v _ h=>by exact⟨h.1.1,trivial⟩) rfl fun⟨f1,hf1⟩=>?_
  dsimp only
  refine Zz 2 ?_
  cases f1
  ·refine Zz 8 ?_
   exact G_ jt_ ⟨false,fun h=>by cases h⟩ rfl (@List.perm_append_comm _ [_] _) zt
  refine Zz 5 ?_
  refine i_ (lK_ (Ax.right x) hok.right) rfl f_ (fun v _ h=>by exact⟨h.1.2.1,trivial⟩) rfl fun⟨f2,hf2⟩=>?_
  dsimp only
  refine Zz 5 ?_
  exact G_ jt_ ⟨f2,fun h=>⟨hf1 rfl,hf2 h,by omega⟩⟩ rfl (@List.perm_append_comm _ [_] _) zt
 obtain⟨hlx1,x1,hx1,hmx1⟩:=zge (show i<List.length (Ax.roles x) by omega)
 have hrl:=hok.roles x1 hmx1
 refine Zz 13 ?_
 refine c_ (T_ D_ O_ rfl rfl (fun v _ h=>J_ (n:=1) av_ (by decide) (by exact h.1.2.2) hx1) (by omega) (by first|omega|(simp;done))) rfl ?_
 refine c_ (bu_ (ad:=(Ax.ad x)) ap_ rfl (fun v _ h=>by exact h.1.2.2) (H_ av_ hx1 0 _ rfl)) rfl (c_ (ci_ K_ rfl) rfl (Zz 10 ?_))
 exact R_ ⟨(i+1,n+(List.length x1:Int)),hlx1,by dsimp only;omega,by dsimp only;omega,by dsimp only;omega⟩ (by dsimp only;omega) zl (.refl _) zh
theorem lJ_ (l:List Ax) (ad:Option Addr) (cap:Nat) (most:Int) (hcap:l.length≤cap∧cap≤2199023255488) (hok:∀ x∈l,x.ok):Tri Tryz.prog 35 #[.slice ad (List.length l) cap,.int .i64 most] [] [cH_ ad l] (fun b:{b:Bool // b=true→(l.length:Int)≤most∧∀ x∈l,Ax.Few x}=>.bool b.1) (fun _=>[]) (fun _=>[]):=by
 refine o_ Tryz.func35 rfl rfl Tryz.ntmps35 rfl fun v0=>?_
 refine Zi 11 (fun hr1=>?_) fun hr1=>?_
 ·refine Zz 12 ?_
  refine aN_ [(0,.slice ad (List.length l) cap),(5,.int .i64 ((0:Nat):Int))] zl ?_
  refine aT_ (ι:={q:Nat // q≤l.length∧∀ x∈l.take q,Ax.Few x}) (fun i=>[(0,.slice ad (List.length l) cap),(5,.int .i64 (i.1:Int))]) (fun _=>_) (fun _=>_) (fun i=>l.length - i.1) ⟨0,by simp⟩ ?_
  rintro ⟨i,hk⟩
  refine aN_ [(0,.slice ad (List.length l) cap),(5,.int .i64 (i:Int))] zl ?_
  refine Zi 6 (fun hr2=>?_) fun hr2=>?_
  ·refine Zz 11 ?_
   exact G_ Tryz.results35 ⟨true,fun _=>⟨by omega,fun x hx=>hk.2 x (by rw[List.take_of_length_le (by omega)];exact hx)⟩⟩ rfl (.refl _) zt
  obtain⟨hlx1,x1,hx1,hmx1⟩:=zge (show i<List.length l by omega)
  refine Zz 11 ?_
  refine c_ (T_ ae_ ad_ rfl rfl (fun v _ h=>J_ (n:=16) Ax.cells_len (by decide) (by exact h.1.1) hx1) (by omega) (by first|omega|(simp;done))) rfl ?_
  refine c_ (al_ (ad:=ad) (us:=Ax.cells x1) bB_ ad_ rfl (fun v _ h=>by exact h.1.1) (Ax.cells_len _) (H_ Ax.cells_len hx1)) rfl (i_ (na_ x1 (hok x1 hmx1)) rfl f_ (fun v _ h=>by exact⟨(h.1.2 x1 hmx1),trivial⟩) rfl fun⟨r,hr⟩=>?_)
  dsimp only
  refine c_ (aE_ rfl) rfl (Zz 2 ?_)
  cases r
  ·refine Zz 7 ?_
   exact G_ Tryz.results35 ⟨false,fun h=>by cases h⟩ rfl (.refl _) zt
  refine Zz 9 ?_
  exact R_ ⟨i+1,hlx1,fun x hx=>by rw[List.take_add_one,hx1]at hx;simp only[Option.toList_some,List.mem_append,List.mem_singleton]at hx;rcases hx with hx|rfl;exact hk.2 x hx;exact hr rfl⟩ (by simp;omega) zl (.refl _) zh
 refine Zz 9 ?_
 exact G_ Tryz.results35 ⟨false,fun h=>by cases h⟩ rfl (.refl _) zt
end Go.Proofs.YtamklbgaipakfaaGreatDoor
