/-
  Part of the proof of the law ModuleExact over this seat: the small logic, the data, the contracts of functions (no condition).
-/
import Derived.Test.YtamklbgaipakfaaGreatDoorQModuleExact12
import Derived.Test.YtamklbgaipakfaaGreatDoorQModuleExact11
import Derived.Test.YtamklbgaipakfaaGreatDoorQModuleExact6
import Derived.Test.YtamklbgaipakfaaGreatDoorQModuleExact2
import Derived.Test.YtamklbgaipakfaaGreatDoorQModuleExact9
import Derived.Test.YtamklbgaipakfaaGreatDoorQModuleExact7
set_option linter.unusedVariables false
set_option linter.unusedSimpArgs false
set_option linter.unusedSectionVars false
set_option maxHeartbeats 1000000
namespace Go.Proofs.YtamklbgaipakfaaGreatDoor
open Go Go.Sx Go.Proofs
attribute [local irreducible] Code.wp wpList wpAnyH
open Go.Vs Go.Shelf Go.RowKit
theorem ox_ {v v':Vw} (h:v.to [] v' []) (hs:¬ v.sl):∃ q os,v'.w=Sort.grow (v.w.drewN q) os:=by
 have hd:v.w.drawn≤v'.w.drawn:=h.dr.resolve_left hs
 refine⟨v'.w.drawn - v.w.drawn,v'.w.heap.extract v.w.heap.size v'.w.heap.size,?_⟩
 have hh:v'.w.heap=v.w.heap++v'.w.heap.extract v.w.heap.size v'.w.heap.size:=by
   apply Array.ext_getElem?
   intro i
   have hsz:=h.size
   rw[Array.getElem?_append]
   split
   · rename_i hi;exact h.block i hi (by simp)
   · rename_i hi
     rw[Array.getElem?_extract]
     split
     · congr 1;omega
     · rw[Array.getElem?_eq_none (by omega)]
 have e1:=h.os;have e2:=h.tape;have e3:=h.output
 obtain⟨im',⟨hp,tp,dn,os',ou⟩,sl'⟩:=v'
 simp only at e1 e2 e3 hh hd
 simp only[Sort.grow,World.drewN,World.mk.injEq]
 exact⟨hh,e2,by omega,e1,e3⟩
theorem vR_ (blk off size:Nat) (w:World):CmpLays Tryz.prog 76 #[] Fc.cells 6 kM_ blk off size w:=fun m os dk _ x y=>by
  have h:=(cmpF_c x y).run ⟨fun _=>False,sortWorldK Fc.cells 6 w blk off m dk os,False⟩ ⟨by simp,by simp,fun _ h=>h.elim⟩ trivial
  refine h.mono ?_
  rintro e w' ⟨_,v',rfl,rfl,_,_,ht⟩
  obtain⟨q,os',hw⟩:=ox_ ht (fun h=>h)
  exact⟨rfl,q,os',hw⟩
theorem ltF (x y:Fc):ltOf kM_ x y=decide (x.lt y):=by unfold ltOf;rw[decide_eq_decide];exact ux_ x y
theorem swoF:Sort.SWO (ltOf kM_) where
 irrefl x:=by rw[ltF];exact decide_eq_false x.lt_irr
 trans x y z h1 h2:=by rw[ltF,decide_eq_true_eq]at *;exact Fc.lt_trans h1 h2
 ntrans x y z h1 h2:=by
   rw[ltF,decide_eq_false_iff_not]at *
   intro h
   rcases Fc.lt_tri x y with g|g|g
   · exact h1 g
   · subst g;exact h2 h
   · exact h2 (Fc.lt_trans g h)
theorem totF (x y:Fc) (h1:ltOf kM_ x y=false) (h2:ltOf kM_ y x=false):x=y:=by
 rw[ltF,decide_eq_false_iff_not]at h1 h2
 rcases Fc.lt_tri x y with g|g|g
 ·exact absurd g h1
 ·exact g
 exact absurd g h2
theorem lQ_ (xs:List Fc):Sort.flatK Fc.cells 6 xs.toArray=(xs.flatMap Fc.cells).toArray:=by
 apply Array.ext_getElem?
 intro t
 have e0:(xs.flatMap Fc.cells).toArray[t]? = (xs.flatMap Fc.cells)[t]? := by simp
 rw[e0]
 by_cases ht:t<xs.length*6
 ·have hd:t / 6<xs.length:=by omega
  have:=kg_ Fc.cells 6 Fc.cells_len xs (t / 6) (t%6) xs[t / 6] (List.getElem?_eq_getElem hd) (Nat.mod_lt _ (by decide))
  rw[show t / 6*6+t%6=t by omega]at this
  rw[this]
  simp only[Sort.flatK,Array.getElem?_map,List.size_toArray]
  rw[Array.getElem?_eq_getElem (by simpa using ht)]
  simp only[Array.getElem_range,Option.map_some]
  rw[getElem!_pos xs.toArray (t / 6) (by simpa using hd)]
  have hl:t%6<(Fc.cells xs[t / 6]).length:=by rw[Fc.cells_len];omega
  rw[List.getElem?_eq_getElem hl]
  simp only[List.getElem_toArray]
  rw[getElem!_pos (Fc.cells xs[t / 6]) (t%6) hl]
 rw[List.getElem?_eq_none (by rw[em_ Fc.cells 6 Fc.cells_len];omega),Array.getElem?_eq_none (by simp[Sort.flatK];omega)]
theorem oG_ {P:Program} {Γ:List Fct} {f:FuncId} {args:Array Value} {r:Value} {g:Nat} {cur:Array Value} {T:TypeId} {d:Array Value} (hc:he_ P f)
    (h:∀ v:Vw,v.sat [(g,.cells cur T (0,0))]→Calls P f args v.w fun e w'=>e=.returned r∧∃ n os,w'=Sort.grow (Sort.putRow id (Sort.ahead v.w n) g 0 d) os) :
    Tri P f args [(g,.cells cur T (0,0))] Γ (fun _:Unit=>r) (fun _=>[(g,.cells (Sort.putCells id 0 d cur) T (0,0))]) (fun _=>[]) :=
  ⟨hc,fun v h1 _=>(h v h1).mono fun e w' ⟨he,n,os,hw⟩=>by
    have hg:=(h1.own _ List.mem_cons_self)
    have hlt:g<v.w.heap.size:=(Array.getElem?_eq_some_iff.1 hg.1).1
    have hb:∀ b,b<v.w.heap.size→w'.heap[b]? = if b=g then some (.cells (Sort.putCells id 0 d cur) T (0,0)) else v.w.heap[b]? := fun b hb=>by
      rw[hw]
      simp only[Sort.grow,Sort.putRow,Sort.mapBlock,Sort.ahead]
      rw[Array.getElem?_append_left (by simpa using hb),Array.getElem?_modify]
      by_cases e:b=g
      · subst e
        simp only[if_true,hg.1,Option.map_some,Sort.onCells]
      · rw[if_neg (fun q=>e q.symm),if_neg e]
    have hsz:v.w.heap.size≤w'.heap.size:=by rw[hw];simp[Sort.grow,Sort.putRow,Sort.mapBlock,Sort.ahead]
    refine⟨(),⟨v.im,w',v.sl⟩,he,rfl,⟨fun p hp=>?_,by simp,fun b hbb=>Nat.lt_of_lt_of_le (h1.lt b hbb) hsz⟩,trivial,⟨by rw[hw];rfl,by rw[hw];rfl,by rw[hw];rfl,hsz,fun b hbb hn=>?_,fun _ h=>h,fun _ h=>.inl h,fun b hm=>.inl (by simpa using hm),rfl,.inr (by rw[hw];exact Nat.le_add_right _ _)⟩⟩
    · simp only[List.mem_singleton]at hp
      subst hp
      exact⟨by show w'.heap[g]? = _;rw[hb g hlt,if_pos rfl],hg.2⟩
    · have hn':b≠g:=by simpa using hn
      show w'.heap[b]? = _
      rw[hb b hbb,if_neg hn']⟩
theorem sh_ {cur:Array Value} {d:List Value} (hs:d.length≤cur.size):(Sort.putCells id 0 d.toArray cur).toList.take d.length=d:=by
 apply List.ext_getElem?
 intro j
 rw[List.getElem?_take]
 split
 ·rename_i hj
  simp only[Sort.putCells,Array.getElem?_toList,Array.getElem?_mapIdx]
  rw[Array.getElem?_eq_getElem (by omega)]
  simp only[Option.map_some,Nat.zero_le,true_and,Nat.zero_add,List.size_toArray,hj,if_true,Nat.sub_zero]
  rw[List.getElem?_eq_getElem hj,getElem!_pos d.toArray j (by simpa using hj)]
  rfl
 rename_i hj
 rw[List.getElem?_eq_none (by omega)]
theorem si_ {cur d:Array Value}:(Sort.putCells id 0 d cur).size=cur.size:=by simp[Sort.putCells]
theorem holdsV {g:Nat} {cur:Array Value} {T:TypeId} {xs:List Value} {v:Vw} (hs:v.sat [(g,.cells cur T (0,0))]) (ht:cur.toList.take xs.length=xs):Sort.Holds id v.w g 0 xs.toArray:=by
 intro j hj
 have hb:=(hs.own _ List.mem_cons_self).1
 simp only[List.size_toArray]at hj
 have hc:cur[j]? = some xs[j]:=by
   have:=congrArg (fun l=>l[j]?) ht
   simp only[List.getElem?_take,hj,if_true,Array.getElem?_toList]at this
   rw[this,List.getElem?_eq_getElem hj]
 refine⟨?_,?_⟩
 ·simp only[World.cell?,Nat.zero_add,hb,Option.isSome_none,Bool.false_eq_true,if_false]
  rw[hc,getElem!_pos xs.toArray j (by simpa using hj)]
  rfl
 simp[World.frozen?,hb]
def iH_ (xs:List Fc):List Fc:=xs.mergeSort fun x y=>!(ltOf kM_) y x
theorem gN_ (xs:List Fc):(iH_ xs).length=xs.length:=List.length_mergeSort _
theorem tv_ (xs:List Fc) (x:Fc):x∈iH_ xs↔x∈xs:=List.mem_mergeSort
theorem tu_ {xs:List Fc} (h:xs.Nodup):Srt (iH_ xs):=by
 have h1:(iH_ xs).Pairwise fun x y=>(!(ltOf kM_) y x)=true:=List.pairwise_mergeSort
   (fun a b c h1 h2=>by simp only[Bool.not_eq_true']at *;exact swoF.ntrans c b a h2 h1)
   (fun a b=>by
     simp only[Bool.or_eq_true,Bool.not_eq_true']
     rw[ltF,ltF,decide_eq_false_iff_not,decide_eq_false_iff_not]
     rcases Fc.lt_tri a b with g|g|g
     · exact .inl fun q=>Fc.lt_irr a (Fc.lt_trans g q)
     · subst g;exact .inl a.lt_irr
     · exact .inr fun q=>Fc.lt_irr a (Fc.lt_trans q g)) xs
 have h2:(iH_ xs).Nodup:=(List.mergeSort_perm xs _).nodup_iff.2 h
 refine (h1.and h2).imp ?_
 rintro x y ⟨a,b⟩
 simp only[Bool.not_eq_true',ltF,decide_eq_false_iff_not]at a
 rcases Fc.lt_tri x y with g|g|g
 ·exact g
 ·exact absurd g b
 exact absurd g a
theorem vc_ {sv:Value} {xs:List Fc} {Hr:Hp} (h:aL_ 67 6 sv xs.length (xs.flatMap Fc.cells) Hr) (hl:xs.length≤1000000000000) :
    Tri Tryz.prog 75 #[sv,.func (.func 76) #[] #[]] Hr [] (fun _:{y:Hp // aL_ 67 6 sv (iH_ xs).length ((iH_ xs).flatMap Fc.cells) y}=>.tuple #[]) (fun y=>y.1) (fun _=>[]):=by
  rcases h.2 with⟨rfl,h2,rfl⟩|⟨g,cap,cur,rfl,rfl,h3,h4,h5,h6⟩
  · obtain rfl:xs=[]:=List.eq_nil_of_length_eq_zero h2
    have T:=eb_ (P:=Tryz.prog) (H:=[]) (Γ:=[]) (callable Tryz.func75 rfl rfl) (fun v _ _=>(AnyF.slices_SortFunc_none Tryz.sortFc none 0 (.func (.func 76) #[] #[]) v.w).mono (by rintro e w' ⟨rfl,rfl⟩;exact⟨rfl,⟨rfl,rfl,rfl,Nat.le_refl _,fun _ _=>rfl⟩,.inr (Nat.le_refl _)⟩))
    exact⟨T.callable,fun v a b=>(T.run v a b).mono (by rintro e w' ⟨x,v',e1,e2,e3,e4,e5⟩;exact⟨⟨[],by simpa [iH_] using aL_.nil _ _⟩,v',e1,e2,e3,e4,e5⟩)⟩
  · have hx:(xs.flatMap Fc.cells).length=xs.length*6:=em_ Fc.cells 6 Fc.cells_len xs
    have T:=oG_ (P:=Tryz.prog) (Γ:=[]) (r:=.tuple #[]) (g:=g) (cur:=cur) (T:=67) (d:=((iH_ xs).flatMap Fc.cells).toArray) (f:=75) (args:=#[.slice (some ⟨g,0,none⟩) xs.length cap,.func (.func 76) #[] #[]]) (callable Tryz.func75 rfl rfl) (fun v hs=>by
      have hh:=AnyQ.slices_SortFunc_total Tryz.sortFc 6 gq_ aA_ Fc.cells Fc.cells_len (fun x u hu=>List.all_eq_true.1 x.cells_one u hu) kM_ swoF 76 #[] g 0 cap xs.toArray v.w (fun args w=>(callable Tryz.func76 rfl rfl) args w) (vR_ g 0 _ v.w) (by unfold Sort.HoldsK;rw[lQ_];exact holdsV hs (by rw[hx];exact h6)) (Array.getElem?_eq_some_iff.1 (hs.own _ List.mem_cons_self).1).1 (by simp;omega) totF
      refine hh.mono ?_
      rintro e w' ⟨rfl,n,os,rfl⟩
      refine⟨rfl,n,os,?_⟩
      unfold sortWorldK Sort.putRowK
      rw[show ((xs.toArray.toList.mergeSort fun x y=>!(ltOf kM_) y x))=iH_ xs from rfl,lQ_])
    refine⟨T.callable,fun v a b=>(T.run v a b).mono ?_⟩
    rintro e w' ⟨x,v',e1,e2,e3,e4,e5⟩
    have hy:((iH_ xs).flatMap Fc.cells).length=xs.length*6:=by rw[em_ Fc.cells 6 Fc.cells_len,gN_]
    refine⟨⟨_,by rw[hy,gN_],.inr ⟨g,cap,_,by rw[gN_],rfl,by rw[gN_];exact h3,h4,by rw[si_];exact h5,?_⟩⟩,v',e1,e2,e3,e4,e5⟩
    have:=sh_ (cur:=cur) (d:=(iH_ xs).flatMap Fc.cells) (by rw[hy,h5];omega)
    rw[hy]at this
    rw[gN_];exact this
end Go.Proofs.YtamklbgaipakfaaGreatDoor
namespace Go.Proofs.YtamklbgaipakfaaGreatDoor
open Go Go.Sx Go.Proofs
attribute [local irreducible] Code.wp wpList wpAnyH
open Go.Vs
section
variable {P:Program} {N:Nf} {v0:Vw} {H0:Hp} {fr:Fr} {H F:Hp} {Γ:List Fct} {K D:Type} [DecidableEq K]
theorem lN_:∀ (B:Hp) {v:Vw},au_ (B.map fun p=>bi_ p.1 p.2) v→∀ p∈B,v.im p.1∧v.w.heap[p.1]? = some p.2
 | [],_,_,_,h=>by simp at h
 | q::B,v,h,p,hp=>by
   rcases List.mem_cons.1 hp with rfl|hp
   · exact h.1
   · exact lN_ B h.2 p hp
theorem tT_ {k:Act→World→Prop} {kv:K→Value} {cells:D→List Value} {kt e:TypeId} {sz mb:Nat} {l:List (K×D)} {Hm:Hp} (hK:KeyT P kt kv) (hm:dZ_ kv cells e sz l mb Hm) (hH:H.Perm (Hm++F))
    (h:∀ adr,Ok N v0 H0 k fr F (mlF P kt kv cells mb l adr::Γ)):Ok N v0 H0 k fr H Γ:=by
  obtain⟨adr,ha⟩:=hm.lent hK
  refine lC_ Hm hH (jk_ (fun v _ hv=>?_) (h adr))
  rw[fl_]at hv
  refine⟨ha v fun p hp=>?_,hv.2⟩
  have:=hv.1
  exact lN_ Hm.reverse (by rw[List.map_reverse]at *;exact this) p (List.mem_reverse.2 hp)
theorem gb_ {tF:TypeId} {E:Emt P tF} {nw fm:List Fc} {Hs:Hp} {ty t kt et:TypeId} {x:Operand} (hS:E.St nw fm Hs) (hu:∀ w,(underlying t).run P w=.ok (.map kt et) w) (hx:Fr.ev fr x=some (.map (some E.kb))) (hp:H.Perm (Hs++F)) :
    Yld P N fr H Γ (.call ⟨.builtin .len,#[x],#[t]⟩) ty (.int .i64 ((E.kof nw).length:Int)):=by
  obtain⟨es,c,g1,g2⟩:=E.known hS
  exact kZ_ g2 hu hx fun v h _=>lw_ hp g1 h
end
def qJ_ (x:Ix) (n:Nat):Prop:=x.above.length≤n∧x.under.length≤n∧x.frm.length≤n∧x.into.length≤n∧x.ranges.length≤n∧x.firms.length≤n
theorem uh_:qJ_ Ix.nil 0:=by simp[qJ_,Ix.nil]
theorem jt_ {x:Ix} {n:Nat} (h:qJ_ x n) (b:Bool) (f:Fc):qJ_ (x.add b f) (n+1):=by
 obtain⟨h1,h2,h3,h4,h5,h6⟩:=h
 unfold Ix.add qJ_
 split
 ·simp;omega
 split
 ·simp;omega
 split
 ·cases b<;>simp<;>omega
 omega
theorem py_ {x:Ix} {n:Nat} (h:qJ_ x n) (hn:n≤1000000000):(∀ k,(lat x.above k).length≤1000000000∧(lat x.under k).length≤1000000000)∧(∀ k,(lat x.frm k).length≤1000000000∧(lat x.into k).length≤1000000000∧(lat x.ranges k).length≤1000000000∧(lat x.firms k).length≤1000000000):=by
 obtain⟨h1,h2,h3,h4,h5,h6⟩:=h
 refine⟨fun k=>⟨?_,?_⟩,fun k=>⟨?_,?_,?_,?_⟩⟩
 ·have:=fx_ x.above k;omega
 ·have:=fx_ x.under k;omega
 ·have:=fx_ x.frm k;omega
 ·have:=fx_ x.into k;omega
 ·have:=fx_ x.ranges k;omega
 have:=fx_ x.firms k;omega
theorem vg_ (B:EngB) (E:Emt Tryz.prog 67) (A0:EngA) (pm:List (Ky×Pc)) (x:Ix) (f:Fc) (nw fm:List Fc) (Hs:Hp) (hS:E.St nw fm Hs) (Ha Hu Ho Hi Hr Hm:Hp) (hI:IxO 9 67 B x ⟨Ha,Hu,Ho,Hi,Hr,Hm⟩) (hpl:∀ k,(lat pm k).length≤1000000000) (hxl:∀ k,(lat x.above k).length≤1000000000∧(lat x.under k).length≤1000000000) (hyl:∀ k,(lat x.frm k).length≤1000000000∧(lat x.into k).length≤1000000000∧(lat x.ranges k).length≤1000000000∧(lat x.firms k).length≤1000000000) (hf:f.kind=3→-1099511627776≤f.lo∧f.lo≤f.hi∧f.hi≤1099511627776) (hq:f.kind=3→∀ y∈lat pm (Ky.mk 9 f.r []),-1099511627776≤y.lo∧y.lo≤y.hi∧y.hi≤1099511627776) (hk:f.kind=1):∀ (j:Nat) {fv:Value},(rlV B.g 1)[j]? = some fv→∃ n:Nat,fv=.func (.func n) #[zp_ B.g 0] #[]∧Tri Tryz.prog n #[zp_ B.g 0,f.val] ((Ha++(Hu++(Ho++(Hi++(Hr++Hm)))))++Hs) [gF B E,pF B pm A0,E.ef] (fun _:{H':Hp // E.St (rl E.stp E.kof pm x f j (nw,fm)).1 (rl E.stp E.kof pm x f j (nw,fm)).2 H'}=>.tuple #[]) (fun y=>(Ha++(Hu++(Ho++(Hi++(Hr++Hm)))))++y.1) (fun _=>[])
  | 0,_,h=>⟨140,(Option.some.inj h).symm,rl10_c B E A0 pm x f nw fm Hs hS Ha Hu Ho Hi Hr Hm hI hpl hxl hyl hf hq hk⟩
  | 1,_,h=>⟨141,(Option.some.inj h).symm,rl11_c B E A0 pm x f nw fm Hs hS Ha Hu Ho Hi Hr Hm hI hpl hxl hyl hf hq hk⟩
  | 2,_,h=>⟨142,(Option.some.inj h).symm,rl12_c B E A0 pm x f nw fm Hs hS Ha Hu Ho Hi Hr Hm hI hpl hxl hyl hf hq hk⟩
  | 3,_,h=>⟨143,(Option.some.inj h).symm,rl13_c B E A0 pm x f nw fm Hs hS Ha Hu Ho Hi Hr Hm hI hpl hxl hyl hf hq hk⟩
  | 4,_,h=>⟨144,(Option.some.inj h).symm,rl14_c B E A0 pm x f nw fm Hs hS Ha Hu Ho Hi Hr Hm hI hpl hxl hyl hf hq hk⟩
  | 5,_,h=>⟨145,(Option.some.inj h).symm,rl15_c B E A0 pm x f nw fm Hs hS Ha Hu Ho Hi Hr Hm hI hpl hxl hyl hf hq hk⟩
  | j+6,_,h=>by simp[rlV]at h
theorem vf_ (B:EngB) (E:Emt Tryz.prog 67) (A0:EngA) (pm:List (Ky×Pc)) (x:Ix) (f:Fc) (nw fm:List Fc) (Hs:Hp) (hS:E.St nw fm Hs) (Ha Hu Ho Hi Hr Hm:Hp) (hI:IxO 9 67 B x ⟨Ha,Hu,Ho,Hi,Hr,Hm⟩) (hpl:∀ k,(lat pm k).length≤1000000000) (hxl:∀ k,(lat x.above k).length≤1000000000∧(lat x.under k).length≤1000000000) (hyl:∀ k,(lat x.frm k).length≤1000000000∧(lat x.into k).length≤1000000000∧(lat x.ranges k).length≤1000000000∧(lat x.firms k).length≤1000000000) (hf:f.kind=3→-1099511627776≤f.lo∧f.lo≤f.hi∧f.hi≤1099511627776) (hq:f.kind=3→∀ y∈lat pm (Ky.mk 9 f.r []),-1099511627776≤y.lo∧y.lo≤y.hi∧y.hi≤1099511627776) (hk:f.kind=2):∀ (j:Nat) {fv:Value},(rlV B.g 2)[j]? = some fv→∃ n:Nat,fv=.func (.func n) #[zp_ B.g 0] #[]∧Tri Tryz.prog n #[zp_ B.g 0,f.val] ((Ha++(Hu++(Ho++(Hi++(Hr++Hm)))))++Hs) [gF B E,pF B pm A0,E.ef] (fun _:{H':Hp // E.St (rl E.stp E.kof pm x f j (nw,fm)).1 (rl E.stp E.kof pm x f j (nw,fm)).2 H'}=>.tuple #[]) (fun y=>(Ha++(Hu++(Ho++(Hi++(Hr++Hm)))))++y.1) (fun _=>[])
  | 0,_,h=>⟨146,(Option.some.inj h).symm,rl20_c B E A0 pm x f nw fm Hs hS Ha Hu Ho Hi Hr Hm hI hpl hxl hyl hf hq hk⟩
  | 1,_,h=>⟨147,(Option.some.inj h).symm,rl21_c B E A0 pm x f nw fm Hs hS Ha Hu Ho Hi Hr Hm hI hpl hxl hyl hf hq hk⟩
  | 2,_,h=>⟨148,(Option.some.inj h).symm,rl22_c B E A0 pm x f nw fm Hs hS Ha Hu Ho Hi Hr Hm hI hpl hxl hyl hf hq hk⟩
  | 3,_,h=>⟨149,(Option.some.inj h).symm,rl23_c B E A0 pm x f nw fm Hs hS Ha Hu Ho Hi Hr Hm hI hpl hxl hyl hf hq hk⟩
  | j+4,_,h=>by simp[rlV]at h
theorem ve_ (B:EngB) (E:Emt Tryz.prog 67) (A0:EngA) (pm:List (Ky×Pc)) (x:Ix) (f:Fc) (nw fm:List Fc) (Hs:Hp) (hS:E.St nw fm Hs) (Ha Hu Ho Hi Hr Hm:Hp) (hI:IxO 9 67 B x ⟨Ha,Hu,Ho,Hi,Hr,Hm⟩) (hpl:∀ k,(lat pm k).length≤1000000000) (hxl:∀ k,(lat x.above k).length≤1000000000∧(lat x.under k).length≤1000000000) (hyl:∀ k,(lat x.frm k).length≤1000000000∧(lat x.into k).length≤1000000000∧(lat x.ranges k).length≤1000000000∧(lat x.firms k).length≤1000000000) (hf:f.kind=3→-1099511627776≤f.lo∧f.lo≤f.hi∧f.hi≤1099511627776) (hq:f.kind=3→∀ y∈lat pm (Ky.mk 9 f.r []),-1099511627776≤y.lo∧y.lo≤y.hi∧y.hi≤1099511627776) (hk:f.kind=3):∀ (j:Nat) {fv:Value},(rlV B.g 3)[j]? = some fv→∃ n:Nat,fv=.func (.func n) #[zp_ B.g 0] #[]∧Tri Tryz.prog n #[zp_ B.g 0,f.val] ((Ha++(Hu++(Ho++(Hi++(Hr++Hm)))))++Hs) [gF B E,pF B pm A0,E.ef] (fun _:{H':Hp // E.St (rl E.stp E.kof pm x f j (nw,fm)).1 (rl E.stp E.kof pm x f j (nw,fm)).2 H'}=>.tuple #[]) (fun y=>(Ha++(Hu++(Ho++(Hi++(Hr++Hm)))))++y.1) (fun _=>[])
  | 0,_,h=>⟨150,(Option.some.inj h).symm,rl30_c B E A0 pm x f nw fm Hs hS Ha Hu Ho Hi Hr Hm hI hpl hxl hyl hf hq hk⟩
  | 1,_,h=>⟨151,(Option.some.inj h).symm,rl31_c B E A0 pm x f nw fm Hs hS Ha Hu Ho Hi Hr Hm hI hpl hxl hyl hf hq hk⟩
  | j+2,_,h=>by simp[rlV]at h
def kl_ (p:List Pc) (bu:Int) (c:Cl) (e:Int):Prop :=
  if dX_ p≠0 then c=Cl.no∧e=dX_ p
  else if bu<0∨1073741824<bu then c=Cl.no∧e=1
  else (e=0∧c.ok∧c.atoms=atS p∧mh_ p (atS p) (min bu 65536).toNat (some c.facts))∨(c=Cl.no∧e=(if bu<65536 then 3 else 2)∧mh_ p (atS p) (min bu 65536).toNat none)
theorem uH_ {p:List Pc} {bu:Int} (h:dX_ p≠0):kl_ p bu Cl.no (dX_ p):=by unfold kl_;rw[if_pos h];exact⟨rfl,rfl⟩
theorem pY_ {p:List Pc} {bu:Int} (h:dX_ p=0) (hb:bu<0∨1073741824<bu):kl_ p bu Cl.no 1:=by unfold kl_;rw[if_neg (by simp[h]),if_pos hb];exact⟨rfl,rfl⟩
theorem wb_ {p:List Pc} {bu:Int} {m n:Nat} {c:Cl} {q fm:List Fc} {x:Ix} (hc:dX_ p=0) (h1:¬ bu<0) (h2:¬ 1073741824<bu) (hm:min bu 65536=(m:Int)) (hk:c.ok) (ha:c.atoms=atS p) (hL:LoopA (uniq [] p) (atS p) m n q fm x) (hn:q.length≤n) (hl:q.length≤m) (hf:c.facts=iH_ q):kl_ p bu c 0:=by
  unfold kl_
  rw[if_neg (by simp[hc]),if_neg (by omega)]
  have e:n=q.length:=Nat.le_antisymm hL.le hn
  subst e
  refine .inl ⟨rfl,hk,ha,?_⟩
  rw[hm,hf]
  exact⟨tu_ hL.nd,fun y=>by rw[tv_,← qE_ hL hl,oE_],by rw[gN_];simpa using hl⟩
theorem eY_ {p:List Pc} {bu:Int} {m:Nat} {e:Int} {M:List Fc} (hc:dX_ p=0) (h1:¬ bu<0) (h2:¬ 1073741824<bu) (hm:min bu 65536=(m:Int)) (he:e=if bu<65536 then 3 else 2) (nd:M.Nodup) (hd:∀ y∈M,Der (uniq [] p) (atS p) y) (hl:m<M.length):kl_ p bu Cl.no e:=by
  unfold kl_
  rw[if_neg (by simp[hc]),if_neg (by omega)]
  exact .inr ⟨rfl,he,M,nd,fun y hy=>oE_.1 (hd y hy),by rw[hm];simpa using hl⟩
end Go.Proofs.YtamklbgaipakfaaGreatDoor
namespace Go.Proofs.YtamklbgaipakfaaGreatDoor
open Go Go.Sx Go.Proofs
attribute [local irreducible] Code.wp wpList wpAnyH
open Go.Vs
set_option maxHeartbeats 4000000 in
theorem wi_ (p:List Pc) (pad:Option Addr) (pcap:Nat) (bu:Int) (hsm:∀ x∈p,x.sm) (hp:p.length≤100000000):Tri Tryz.prog 28 #[.slice pad (List.length p) pcap,.int .i64 bu] [] [al_ pad (List.flatMap Pc.cells p),jK_] (fun y:{y:Cl×Int // kl_ p bu y.1 y.2}=>.tuple #[y.1.1.val,.int .i64 y.1.2]) (fun _=>[]) (fun y=>y.1.1.row):=by
 refine l_ Tryz.func28 rfl rfl Tryz.ntmps28 rfl fun v0=>?_
 refine Zz 2 ?_
 refine K_ Tryz.zeroValue61 rfl fun b1=>Zz 3 ?_
 refine rY_ (Zz 4 ?_)
 refine f_ (vT_ p pad pcap (by omega) hsm) rfl g_ zf rfl fun _=>Zi 6 (fun hr1=>?_) fun hr1=>?_
 ·have hchk:=hr1
  refine Zi 9 (fun hr2=>?_) fun hr2=>?_
  ·have hb0:=hr2
   refine Zi 4 (fun hr3=>?_) fun hr3=>?_
   ·have hb1:=hr3
    refine Zz 7 ?_
    obtain⟨m,hm0'⟩:∃ m:Nat,min bu 65536=(m:Int):=⟨(min bu 65536).toNat,by omega⟩
    have hm:m≤65536:=by omega
    have hvk:=to_ (sV_ hchk)
    have hpl:∀ k,(lat (aN_ (uniq [] p)) k).length≤1000000000:=fun k=>by have h1:=fx_ (aN_ (uniq [] p)) k;have h2:=lt_ (uniq [] p);have h3:=ja_ p [];simp only[List.length_nil]at h3;omega
    refine Zz 2 ?_
    refine f_ (pr_ p pad pcap (by omega)) rfl g_ zf rfl fun⟨⟨g,pb,kb,ab,ub,ob,ib,rb,sb,fb,lv,hm0,hl0⟩,hy⟩=>?_
    dsimp only
    dsimp only[NewE.own,NewE.ok]at hy ⊢
    obtain⟨hym,hyl⟩:=hy
    simp only[List.cons_append,List.append_assoc]
    refine cr_ hyl (c_ (c_ (c_ (c_ (c_ (c_ (c_ (c_ (c_ (i_ o_)))))))))) fun lad lcap hlad hclad hmlad hzlad=>?_
    subst hlad
    refine K_ Tryz.zeroValue116 rfl fun b2=>C_ (aB_ e_ (aB_ e_ (aB_ e_ (aB_ e_ (aB_ e_ (aB_ e_ (aB_ e_ (aB_ e_ (aB_ e_ (aB_ e_ (bD_ ca_))))))))))) (x_ 0 Tryz.sizeOf116 rfl rfl rfl rfl rfl rfl (Zz 5 ?_))
    refine d_ (aY_ (iV_ rfl rfl) (congrArg (Value.int .i64) hm0')) rfl (K_ bq_ rfl fun b3=>x_ 0 ao_ rfl rfl rfl rfl rfl rfl (Zz 4 ?_))
    refine K_ or_ rfl fun b4=>Zz 5 ?_
    refine d_ (bV_ rfl rfl) rfl (Zz 2 ?_)
    refine x_ 3 fc_ rfl rfl rfl rfl rfl rfl (Zz 3 ?_)
    refine ez_ (bi_ b2 (.cells #[zp_ g 0] 116 (0,0))) (bD_ (c_ (c_ e_))) (fun _ h1 h2 _=>⟨h1,h2⟩) ?_
    refine ez_ (bi_ b3 (.cells #[.int .i64 (m:Int)] 3 (0,0))) (bD_ (c_ e_)) (fun _ h1 h2 _=>⟨h1,h2⟩) ?_
    refine ez_ (bi_ g (.cells #[.map (some pb),.slice lad (List.length (as_ (uniq [] p))) lcap,.map (some kb),.func (.func 70) #[] #[zp_ b2 0,zp_ b3 0,zp_ b4 0],.map (some ab),.map (some ub),.map (some ob),.map (some ib),.map (some rb),.map (some sb),.map (some fb)] 125 (0,0))) (bD_ (c_ e_)) (fun _ h1 h2 _=>⟨h1,h2⟩) ?_
    refine tT_ hC_ hym (c_ (c_ (c_ (c_ (c_ (c_ (c_ (c_ (c_ M_))))))))) fun adr=>?_
    refine Zz 2 ?_
    refine f_ (atS_c p pad pcap (by omega)) rfl g_ zf rfl fun⟨⟨aad,acap⟩,hac,ham,haz⟩=>?_
    dsimp only
    refine Zz 7 ?_
    refine f_ (vX_ (EngB.mk g pb ab ub ob ib rb sb lad lcap (as_ (uniq [] p))) (EA m hm (EngB.mk g pb ab ub ob ib rb sb lad lcap (as_ (uniq [] p))) b2 b3 b4 kb fb) [] [] [(b4,.cells #[.slice none 0 0] 59 (0,0)),(kb,.map #[] 0),(fb,.map #[] 0)] ⟨.slice none 0 0,#[],0,#[],0,[],[],rfl,aL_.nil _ _,SetE.nil,SetE.nil,by simp⟩ (atS p) aad acap (by have:=vZ_ p;omega) (by have:=kv_ (uniq [] p);have h3:=ja_ p [];simp only[List.length_nil]at h3;show (as_ (uniq [] p)).length≤_;omega)) rfl (p_ e_ (p_ e_ (c_ (c_ (c_ (c_ (c_ (c_ e_)))))))) (fun v _ h=>by exact⟨h.2.2.1,h.2.2.2.2.2.1,h.1,⟨h.2.2.2.2.1,h.2.2.2.1,h.2.2.1⟩,trivial⟩) rfl fun⟨Hs1,hS1⟩=>?_
    dsimp only
    refine Zz 2 ?_
    refine C_ (aB_ (i_ e_) (aB_ (i_ e_) (aB_ (i_ e_) (aB_ (i_ e_) (aB_ (i_ e_) (aB_ (i_ e_) (bD_ ca_))))))) (Zz 3 ?_)
    refine f_ (vd_ g) rfl g_ zt rfl fun⟨r1,r2,r3⟩=>?_
    dsimp only
    refine K_ Tryz.zeroValue127 rfl fun b5=>x_ 0 Tryz.sizeOf127 rfl rfl rfl rfl rfl rfl (Zz 3 ?_)
    refine rZ_ (Zz 8 ?_)
    refine ai_ (ι:={y:Nat×List Fc×List Fc×Ix×Hp×Hp×Hp×Hp×Hp×Hp×Hp // LoopA (uniq [] p) (atS p) m y.1 y.2.1 y.2.2.1 y.2.2.2.1∧((EA m hm (EngB.mk g pb ab ub ob ib rb sb lad lcap (as_ (uniq [] p))) b2 b3 b4 kb fb)).St y.2.1 y.2.2.1 y.2.2.2.2.2.2.2.2.2.2∧IxO 9 67 (EngB.mk g pb ab ub ob ib rb sb lad lcap (as_ (uniq [] p))) y.2.2.2.1 ⟨y.2.2.2.2.1,y.2.2.2.2.2.1,y.2.2.2.2.2.2.1,y.2.2.2.2.2.2.2.1,y.2.2.2.2.2.2.2.2.1,y.2.2.2.2.2.2.2.2.2.1⟩∧qJ_ y.2.2.2.1 y.1}) (fun y=>[(0,.slice pad (List.length p) pcap),(1,.int .i64 bu),(4,zp_ b1 0),(7,zp_ b2 0),(8,zp_ b3 0),(9,zp_ b4 0),(10,.slice aad (List.length (atS p)) acap),(11,zp_ b5 0),(12,.int .i64 (y.1.1:Int))]) (fun y=>((b1,.cells #[.slice none 0 0,.slice none 0 0] 61 (0,0))::((b5,.cells #[.slice none 0 0,.slice (some ⟨r1,0,none⟩) 6 6,.slice (some ⟨r2,0,none⟩) 4 4,.slice (some ⟨r3,0,none⟩) 2 2] 127 (0,0))::(y.1.2.2.2.2.1++(y.1.2.2.2.2.2.1++(y.1.2.2.2.2.2.2.1++(y.1.2.2.2.2.2.2.2.1++(y.1.2.2.2.2.2.2.2.2.1++(y.1.2.2.2.2.2.2.2.2.2.1++y.1.2.2.2.2.2.2.2.2.2.2))))))))) (fun y=>[al_ (some ⟨r1,0,none⟩) (List.flatMap fvC (rlV g 1)),al_ (some ⟨r2,0,none⟩) (List.flatMap fvC (rlV g 2)),al_ (some ⟨r3,0,none⟩) (List.flatMap fvC (rlV g 3)),al_ aad (List.flatMap aE_ (atS p)),mlF Tryz.prog 250 Ky.val Pc.cells pb (aN_ (uniq [] p)) adr,bi_ g (.cells #[.map (some pb),.slice lad (List.length (as_ (uniq [] p))) lcap,.map (some kb),.func (.func 70) #[] #[zp_ b2 0,zp_ b3 0,zp_ b4 0],.map (some ab),.map (some ub),.map (some ob),.map (some ib),.map (some rb),.map (some sb),.map (some fb)] 125 (0,0)),bi_ b3 (.cells #[.int .i64 (m:Int)] 3 (0,0)),bi_ b2 (.cells #[zp_ g 0] 116 (0,0)),al_ lad (List.flatMap aE_ (as_ (uniq [] p))),al_ pad (List.flatMap Pc.cells p),jK_]) (fun y=>m+1 - y.1.1) ⟨((0:Nat),(emits (bm_ m) (gG_ (as_ (uniq [] p)) (atS p)) []),([]:List Fc),Ix.nil,[(ab,.map #[] 0)],[(ub,.map #[] 0)],[(ob,.map #[] 0)],[(ib,.map #[] 0)],[(rb,.map #[] 0)],[(sb,.map #[] 0)],Hs1),pv_ hvk rfl,by exact hS1,⟨dZ_.nil _ _,dZ_.nil _ _,dZ_.nil _ _,dZ_.nil _ _,dZ_.nil _ _,dZ_.nil _ _⟩,uh_⟩ zl (p_ (c_ (c_ (c_ (c_ (c_ (c_ (c_ e_))))))) (p_ e_ (p_ e_ (p_ e_ (p_ e_ (p_ e_ (p_ e_ (p_ e_ aZ_)))))))) zh ?_
    rintro ⟨⟨n,q,fm,x,Ha,Hu,Ho,Hi,Hr,Hm,Hs⟩,hL,hS,hI,hz⟩
    dsimp only at hL hS hI hz ⊢
    obtain⟨sv1,es1,ce1,ef1,cf1,qf1,Hq1,hHs1,hrQ1,hEk1,hEf1,hqf1⟩:=hS
    subst hHs1
    have hqm:=hL.len
    have hnq:=hL.le
    obtain⟨hxl,hyl⟩:=py_ hz (by omega)
    refine X_ (C_ (aB_ e_ (aB_ e_ (aB_ (i_ (i_ (i_ (i_ (i_ (i_ e_)))))) (bD_ (i_ (i_ (i_ (i_ (i_ (i_ e_)))))))))) (Zz 4 ?_))
    refine d_ (ga_ hrQ1 aw_ rfl) rfl ?_
    refine Zi 0 (fun hr4=>?_) fun hr4=>?_
    ·refine Zz 8 ?_
     refine z_ 0 [0,1,2,3,4,5,6] zk zs (Zz 4 ?_)
     refine P_ rfl (aY_ (gb_ (E:=(EA m hm (EngB.mk g pb ab ub ob ib rb sb lad lcap (as_ (uniq [] p))) b2 b3 b4 kb fb)) (nw:=q) (Hs:=((b4,.cells #[sv1] 59 (0,0))::(kb,.map es1 ce1)::([(fb,.map ef1 cf1)]++Hq1))) ⟨sv1,es1,ce1,ef1,cf1,qf1,Hq1,rfl,hrQ1,hEk1,hEf1,hqf1⟩ aO_ rfl zp) (show _=Value.int .i64 (List.length q:Int) from rfl)) rfl (Zi 1 (fun hr5=>?_) fun hr5=>?_)
     ·refine Zz 9 ?_
      refine f_ (vc_ hrQ1 (by omega)) rfl zp zt rfl fun⟨Hq9,hq9⟩=>?_
      dsimp only
      refine Zz 2 ?_
      refine C_ (aB_ (i_ e_) (aB_ (i_ e_) (aB_ (i_ e_) (bD_ (i_ e_))))) (X_ (cr_ hq9 (c_ (c_ (c_ (c_ o_)))) fun fad fcap hfad hcfad hmfad hzfad=>?_))
      subst hfad
      refine Zz 3 ?_
      refine d_ (w_ fK_ rfl rfl) rfl (x_ 0 aK_ rfl rfl rfl rfl rfl rfl (Zz 4 ?_))
      exact fE_ ⟨((Cl.mk (atS p) aad acap (iH_ q) fad fcap),0),wb_ hchk hb0 hb1 hm0' ⟨hac,ham,haz,hcfad,hmfad,hzfad⟩ rfl hL (by omega) (by omega) rfl⟩ (fun aa v h1 h2=>eN_ (us:=Cl.cells (Cl.mk (atS p) aad acap (iH_ q) fad fcap)) 0 ds_ cU_ aK_ rfl rfl rfl rfl aa v h1 h2) g_ zf
     refine Zi 8 (fun hr6=>?_) fun hr6=>?_
     ·refine Zz 7 ?_
      refine d_ (w_ fK_ rfl rfl) rfl (x_ 0 aK_ rfl rfl rfl rfl rfl rfl (Zz 4 ?_))
      exact fE_ ⟨((Cl.mk [] none 0 [] none 0),2),eY_ hchk hb0 hb1 hm0' (by rw[if_neg (by assumption)]) hL.nd hL.der (by omega)⟩ (fun aa v h1 h2=>eN_ (us:=Cl.cells (Cl.mk [] none 0 [] none 0)) 0 ds_ cU_ aK_ rfl rfl rfl rfl aa v h1 h2) g_ (fun v _ h=>by exact⟨.inl rfl,.inl rfl,trivial⟩)
     refine Zz 5 ?_
     refine d_ (w_ fK_ rfl rfl) rfl (x_ 0 aK_ rfl rfl rfl rfl rfl rfl (Zz 4 ?_))
     exact fE_ ⟨((Cl.mk [] none 0 [] none 0),3),eY_ hchk hb0 hb1 hm0' (by rw[if_pos (by assumption)]) hL.nd hL.der (by omega)⟩ (fun aa v h1 h2=>eN_ (us:=Cl.cells (Cl.mk [] none 0 [] none 0)) 0 ds_ cU_ aK_ rfl rfl rfl rfl aa v h1 h2) g_ (fun v _ h=>by exact⟨.inl rfl,.inl rfl,trivial⟩)
    have hlf:n<List.length q:=by omega
    obtain⟨f,hf⟩:∃ e0,q[n]? = some e0:=⟨_,List.getElem?_eq_getElem hlf⟩
    have hmf:f∈q:=List.mem_of_getElem? hf
    have hfd:=hL.der f hmf
    have hform:=hfd.form hvk
    obtain⟨hxl1,hyl1⟩:=py_ (jt_ hz (decide (f∈fm)) f) (by omega)
    refine Zz 11 ?_
    refine d_ (ii_ hrQ1 aw_ aA_ rfl rfl (by omega) (by omega)) rfl (d_ (ms_ hrQ1 zp gq_ aA_ rfl (Fc.cells_len _) (by decide) (u_ Fc.cells_len hf)) rfl (K_ aQ_ rfl fun b6=>x_ 0 aA_ rfl rfl rfl rfl rfl rfl (Zz 6 ?_)))
    refine f_ (vI_ (EngB.mk g pb ab ub ob ib rb sb lad lcap (as_ (uniq [] p))) (EA m hm (EngB.mk g pb ab ub ob ib rb sb lad lcap (as_ (uniq [] p))) b2 b3 b4 kb fb) x f q fm ((b4,.cells #[sv1] 59 (0,0))::(kb,.map es1 ce1)::([(fb,.map ef1 cf1)]++Hq1)) ⟨sv1,es1,ce1,ef1,cf1,qf1,Hq1,rfl,hrQ1,hEk1,hEf1,hqf1⟩ Ha Hu Ho Hi Hr Hm hI hxl hyl) rfl (s_ (c_ (c_ (c_ (c_ (c_ o_))))) (s_ (c_ (c_ (c_ (c_ (c_ o_))))) (s_ (c_ (c_ (c_ (c_ (c_ o_))))) (s_ (c_ (c_ (c_ (c_ (c_ o_))))) (s_ (c_ (c_ (c_ (c_ (c_ o_))))) (s_ (c_ (c_ (c_ (c_ (c_ o_))))) (p_ (c_ (c_ (c_ e_))) (p_ (c_ (c_ (c_ e_))) (s_ (c_ (c_ (c_ o_))) (c_ (c_ M_))))))))))) zf rfl fun⟨⟨Ha1,Hu1,Ho1,Hi1,Hr1,Hm1⟩,hI1⟩=>?_
    dsimp only
    refine C_ vq_ (Zz 2 ?_)
    refine C_ (aB_ (i_ (i_ (i_ (i_ (i_ (i_ e_)))))) (aB_ (i_ (i_ (i_ (i_ (i_ (i_ e_)))))) (aB_ (i_ (i_ (i_ (i_ (i_ (i_ (i_ (i_ e_)))))))) (aB_ (i_ (i_ (i_ (i_ (i_ (i_ (i_ (i_ e_)))))))) (bD_ (i_ (i_ (i_ (i_ (i_ (i_ (i_ ca_)))))))))))) (Zz 4 ?_)
    rcases kf_ hform with hk|hk|hk
    ·refine d_ (aY_ (eo_ sb_ Tryz.sizeOf126 rfl rfl (by omega) (by omega)) (show _=zp_ b5 1 from by rw[hk];rfl)) rfl ?_
     refine Zz 6 ?_
     refine ey_ (H':=((b1,.cells #[.slice none 0 0,.slice none 0 0] 61 (0,0))::((b5,.cells #[.slice none 0 0,.slice (some ⟨r1,0,none⟩) 6 6,.slice (some ⟨r2,0,none⟩) 4 4,.slice (some ⟨r3,0,none⟩) 2 2] 127 (0,0))::((b6,.cells #[.int .i64 f.kind,str f.a,str f.b,str f.r,.int .i64 f.lo,.int .i64 f.hi] 67 (0,0))::(Ha1++(Hu1++(Ho1++(Hi1++(Hr1++(Hm1++((b4,.cells #[sv1] 59 (0,0))::(kb,.map es1 ce1)::([(fb,.map ef1 cf1)]++Hq1)))))))))))) (p_ (c_ (c_ (c_ e_))) (p_ (c_ (c_ (c_ e_))) (p_ (c_ (c_ e_)) (s_ (c_ (c_ o_)) (s_ (c_ (c_ o_)) (s_ (c_ (c_ o_)) (s_ (c_ (c_ o_)) (s_ (c_ (c_ o_)) (s_ (c_ (c_ o_)) (p_ e_ (p_ e_ (s_ o_ aZ_)))))))))))) (fun v _ h=>h) ?_
     refine ai_ (ι:={y:Nat×Hp // y.1≤6∧((EA m hm (EngB.mk g pb ab ub ob ib rb sb lad lcap (as_ (uniq [] p))) b2 b3 b4 kb fb)).St (rls (bm_ m) idk (aN_ (uniq [] p)) (Ix.add x (decide (f∈fm)) f) f y.1 (q,fm)).1 (rls (bm_ m) idk (aN_ (uniq [] p)) (Ix.add x (decide (f∈fm)) f) f y.1 (q,fm)).2 y.2∧(y.1=0∨((rls (bm_ m) idk (aN_ (uniq [] p)) (Ix.add x (decide (f∈fm)) f) f y.1 (q,fm)).1).length≤m)}) (fun y=>[(0,.slice pad (List.length p) pcap),(1,.int .i64 bu),(4,zp_ b1 0),(7,zp_ b2 0),(8,zp_ b3 0),(9,zp_ b4 0),(10,.slice aad (List.length (atS p)) acap),(11,zp_ b5 0),(12,.int .i64 (n:Int)),(13,zp_ b6 0),(60,.slice (some ⟨r1,0,none⟩) 6 6),(61,.int .i64 6),(62,.int .i64 (y.1.1:Int))]) (fun y=>((b1,.cells #[.slice none 0 0,.slice none 0 0] 61 (0,0))::((b5,.cells #[.slice none 0 0,.slice (some ⟨r1,0,none⟩) 6 6,.slice (some ⟨r2,0,none⟩) 4 4,.slice (some ⟨r3,0,none⟩) 2 2] 127 (0,0))::((b6,.cells #[.int .i64 f.kind,str f.a,str f.b,str f.r,.int .i64 f.lo,.int .i64 f.hi] 67 (0,0))::(Ha1++(Hu1++(Ho1++(Hi1++(Hr1++(Hm1++y.1.2)))))))))) (fun y=>[al_ (some ⟨r1,0,none⟩) (List.flatMap fvC (rlV g 1)),al_ (some ⟨r2,0,none⟩) (List.flatMap fvC (rlV g 2)),al_ (some ⟨r3,0,none⟩) (List.flatMap fvC (rlV g 3)),al_ aad (List.flatMap aE_ (atS p)),mlF Tryz.prog 250 Ky.val Pc.cells pb (aN_ (uniq [] p)) adr,bi_ g (.cells #[.map (some pb),.slice lad (List.length (as_ (uniq [] p))) lcap,.map (some kb),.func (.func 70) #[] #[zp_ b2 0,zp_ b3 0,zp_ b4 0],.map (some ab),.map (some ub),.map (some ob),.map (some ib),.map (some rb),.map (some sb),.map (some fb)] 125 (0,0)),bi_ b3 (.cells #[.int .i64 (m:Int)] 3 (0,0)),bi_ b2 (.cells #[zp_ g 0] 116 (0,0)),al_ lad (List.flatMap aE_ (as_ (uniq [] p))),al_ pad (List.flatMap Pc.cells p),jK_]) (fun y=>6 - y.1.1) ⟨((0:Nat),((b4,.cells #[sv1] 59 (0,0))::(kb,.map es1 ce1)::([(fb,.map ef1 cf1)]++Hq1))),by omega,by exact⟨sv1,es1,ce1,ef1,cf1,qf1,Hq1,rfl,hrQ1,hEk1,hEf1,hqf1⟩,.inl rfl⟩ zl zp zh ?_
     rintro ⟨⟨j,Hs⟩,hj,hS2,hjm⟩
     dsimp only at hj hS2 hjm ⊢
     refine Zi 2 (fun hr7=>?_) fun hr7=>?_
     ·have ej:j=6:=by omega
      have hjl:((rls (bm_ m) idk (aN_ (uniq [] p)) (Ix.add x (decide (f∈fm)) f) f j (q,fm)).1).length≤m:=hjm.resolve_left (by omega)
      rw[ej]at hjl hS2
      refine Zz 12 ?_
      exact J_ ⟨(n+1,(rls (bm_ m) idk (aN_ (uniq [] p)) (Ix.add x (decide (f∈fm)) f) f 6 (q,fm)).1,(rls (bm_ m) idk (aN_ (uniq [] p)) (Ix.add x (decide (f∈fm)) f) f 6 (q,fm)).2,(Ix.add x (decide (f∈fm)) f),Ha1,Hu1,Ho1,Hi1,Hr1,Hm1,Hs),(iN_ hvk hL hf (by have e:nrl f=6:=(by unfold nrl;simp[hk]);rw[e]) (by omega)),(by exact hS2),hI1,(jt_ hz _ f)⟩ (by dsimp only;omega) zl (p_ e_ (p_ e_ (s_ (c_ o_) (s_ (c_ o_) (s_ (c_ o_) (s_ (c_ o_) (s_ (c_ o_) (s_ (c_ o_) M_)))))))) zh
     have hlfv:j<List.length (rlV g 1):=by show j<6;omega
     obtain⟨fv,hfv⟩:∃ e0,(rlV g 1)[j]? = some e0:=⟨_,List.getElem?_eq_getElem hlfv⟩
     have hmfv:fv∈(rlV g 1):=List.mem_of_getElem? hfv
     refine Zz 10 ?_
     refine d_ (L_ bj_ fc_ rfl rfl (fun v _ h=>y_ (n:=1) ir_ (by decide) (by exact h.1) hfv) (by omega) (by omega)) rfl (d_ (ba_ (ad:=(some ⟨r1,0,none⟩)) Tryz.isAgg120 rfl zf (u_ ir_ hfv 0 _ rfl)) rfl (Zz 7 ?_))
     obtain⟨nr,rfl,hT⟩:=vg_ (EngB.mk g pb ab ub ob ib rb sb lad lcap (as_ (uniq [] p))) (EA m hm (EngB.mk g pb ab ub ob ib rb sb lad lcap (as_ (uniq [] p))) b2 b3 b4 kb fb) (EngA.mk adr (fun _=>(none,0)) (fun _=>(none,0)) (fun _=>(none,0)) (fun _=>(none,0)) (fun _=>(none,0)) (fun _=>(none,0))) (aN_ (uniq [] p)) (Ix.add x (decide (f∈fm)) f) f (rls (bm_ m) idk (aN_ (uniq [] p)) (Ix.add x (decide (f∈fm)) f) f j (q,fm)).1 (rls (bm_ m) idk (aN_ (uniq [] p)) (Ix.add x (decide (f∈fm)) f) f j (q,fm)).2 Hs hS2 Ha1 Hu1 Ho1 Hi1 Hr1 Hm1 hI1 hpl hxl1 hyl1 (fun hk=>(iA_ hform hk).2.2) (fun _ y hy=>(hvk y (pm9.1 hy).1).num (.inr (pm9.1 hy).2.1)) hk j hfv
     refine Y_ (first:=[zp_ g 0]) (vs:=[Fc.val f]) (cap:=[]) hT rfl rfl (qu_ (s_ (c_ (c_ (c_ o_))) (s_ (c_ (c_ (c_ o_))) (s_ (c_ (c_ (c_ o_))) (s_ (c_ (c_ (c_ o_))) (s_ (c_ (c_ (c_ o_))) (s_ (c_ (c_ (c_ o_))) (c_ (c_ M_))))))))) (fun v _ h=>by exact⟨h.2.2.2.2.2.1,h.2.2.2.2.1,⟨h.2.2.2.2.2.2.2.1,h.2.2.2.2.2.2.1,h.2.2.2.2.2.1⟩,trivial⟩) rfl fun⟨Hs3,hS3⟩=>C_ nC_ (Zz 2 ?_)
     refine C_ (aB_ (i_ (i_ (i_ (i_ (i_ (i_ (i_ e_))))))) (aB_ (i_ (i_ (i_ (i_ (i_ (i_ (i_ e_))))))) (bD_ (i_ (i_ (i_ (i_ (i_ (i_ ca_))))))))) (Zz 2 ?_)
     refine z_ 0 [0,1,2,3,4,5,6] zk zs (Zz 4 ?_)
     refine P_ rfl (aY_ (gb_ (E:=(EA m hm (EngB.mk g pb ab ub ob ib rb sb lad lcap (as_ (uniq [] p))) b2 b3 b4 kb fb)) (nw:=(rls (bm_ m) idk (aN_ (uniq [] p)) (Ix.add x (decide (f∈fm)) f) f (j+1) (q,fm)).1) (Hs:=Hs3) hS3 aO_ rfl zp) (show _=Value.int .i64 (List.length (rls (bm_ m) idk (aN_ (uniq [] p)) (Ix.add x (decide (f∈fm)) f) f (j+1) (q,fm)).1:Int) from rfl)) rfl (Zi 1 (fun hr8=>?_) fun hr8=>?_)
     ·refine Zz 11 ?_
      exact J_ ⟨(j+1,Hs3),hlfv,by exact hS3,.inr (by dsimp only;omega)⟩ (by dsimp only;omega) zl zp zh
     refine Zz 9 ?_
     refine z_ 0 [0,1,2,3,4,5,6] zk zs (Zz 4 ?_)
     refine P_ rfl (aY_ (gb_ (E:=(EA m hm (EngB.mk g pb ab ub ob ib rb sb lad lcap (as_ (uniq [] p))) b2 b3 b4 kb fb)) (nw:=(rls (bm_ m) idk (aN_ (uniq [] p)) (Ix.add x (decide (f∈fm)) f) f (j+1) (q,fm)).1) (Hs:=Hs3) hS3 aO_ rfl zp) (show _=Value.int .i64 (List.length (rls (bm_ m) idk (aN_ (uniq [] p)) (Ix.add x (decide (f∈fm)) f) f (j+1) (q,fm)).1:Int) from rfl)) rfl (Zi 1 (fun hr9=>?_) fun hr9=>?_)
     ·omega
     refine Zi 8 (fun hr10=>?_) fun hr10=>?_
     ·refine Zz 7 ?_
      refine d_ (w_ fK_ rfl rfl) rfl (x_ 0 aK_ rfl rfl rfl rfl rfl rfl (Zz 4 ?_))
      exact fE_ ⟨((Cl.mk [] none 0 [] none 0),2),eY_ hchk hb0 hb1 hm0' (by rw[if_neg (by assumption)]) (cE_ hvk hL hf (j+1) rfl).1 (cE_ hvk hL hf (j+1) rfl).2.2.1 (by omega)⟩ (fun aa v h1 h2=>eN_ (us:=Cl.cells (Cl.mk [] none 0 [] none 0)) 0 ds_ cU_ aK_ rfl rfl rfl rfl aa v h1 h2) g_ (fun v _ h=>by exact⟨.inl rfl,.inl rfl,trivial⟩)
     refine Zz 5 ?_
     refine d_ (w_ fK_ rfl rfl) rfl (x_ 0 aK_ rfl rfl rfl rfl rfl rfl (Zz 4 ?_))
     exact fE_ ⟨((Cl.mk [] none 0 [] none 0),3),eY_ hchk hb0 hb1 hm0' (by rw[if_pos (by assumption)]) (cE_ hvk hL hf (j+1) rfl).1 (cE_ hvk hL hf (j+1) rfl).2.2.1 (by omega)⟩ (fun aa v h1 h2=>eN_ (us:=Cl.cells (Cl.mk [] none 0 [] none 0)) 0 ds_ cU_ aK_ rfl rfl rfl rfl aa v h1 h2) g_ (fun v _ h=>by exact⟨.inl rfl,.inl rfl,trivial⟩)
    ·refine d_ (aY_ (eo_ sb_ Tryz.sizeOf126 rfl rfl (by omega) (by omega)) (show _=zp_ b5 2 from by rw[hk];rfl)) rfl ?_
     refine Zz 6 ?_
     refine ey_ (H':=((b1,.cells #[.slice none 0 0,.slice none 0 0] 61 (0,0))::((b5,.cells #[.slice none 0 0,.slice (some ⟨r1,0,none⟩) 6 6,.slice (some ⟨r2,0,none⟩) 4 4,.slice (some ⟨r3,0,none⟩) 2 2] 127 (0,0))::((b6,.cells #[.int .i64 f.kind,str f.a,str f.b,str f.r,.int .i64 f.lo,.int .i64 f.hi] 67 (0,0))::(Ha1++(Hu1++(Ho1++(Hi1++(Hr1++(Hm1++((b4,.cells #[sv1] 59 (0,0))::(kb,.map es1 ce1)::([(fb,.map ef1 cf1)]++Hq1)))))))))))) (p_ (c_ (c_ (c_ e_))) (p_ (c_ (c_ (c_ e_))) (p_ (c_ (c_ e_)) (s_ (c_ (c_ o_)) (s_ (c_ (c_ o_)) (s_ (c_ (c_ o_)) (s_ (c_ (c_ o_)) (s_ (c_ (c_ o_)) (s_ (c_ (c_ o_)) (p_ e_ (p_ e_ (s_ o_ aZ_)))))))))))) (fun v _ h=>h) ?_
     refine ai_ (ι:={y:Nat×Hp // y.1≤4∧((EA m hm (EngB.mk g pb ab ub ob ib rb sb lad lcap (as_ (uniq [] p))) b2 b3 b4 kb fb)).St (rls (bm_ m) idk (aN_ (uniq [] p)) (Ix.add x (decide (f∈fm)) f) f y.1 (q,fm)).1 (rls (bm_ m) idk (aN_ (uniq [] p)) (Ix.add x (decide (f∈fm)) f) f y.1 (q,fm)).2 y.2∧(y.1=0∨((rls (bm_ m) idk (aN_ (uniq [] p)) (Ix.add x (decide (f∈fm)) f) f y.1 (q,fm)).1).length≤m)}) (fun y=>[(0,.slice pad (List.length p) pcap),(1,.int .i64 bu),(4,zp_ b1 0),(7,zp_ b2 0),(8,zp_ b3 0),(9,zp_ b4 0),(10,.slice aad (List.length (atS p)) acap),(11,zp_ b5 0),(12,.int .i64 (n:Int)),(13,zp_ b6 0),(60,.slice (some ⟨r2,0,none⟩) 4 4),(61,.int .i64 4),(62,.int .i64 (y.1.1:Int))]) (fun y=>((b1,.cells #[.slice none 0 0,.slice none 0 0] 61 (0,0))::((b5,.cells #[.slice none 0 0,.slice (some ⟨r1,0,none⟩) 6 6,.slice (some ⟨r2,0,none⟩) 4 4,.slice (some ⟨r3,0,none⟩) 2 2] 127 (0,0))::((b6,.cells #[.int .i64 f.kind,str f.a,str f.b,str f.r,.int .i64 f.lo,.int .i64 f.hi] 67 (0,0))::(Ha1++(Hu1++(Ho1++(Hi1++(Hr1++(Hm1++y.1.2)))))))))) (fun y=>[al_ (some ⟨r1,0,none⟩) (List.flatMap fvC (rlV g 1)),al_ (some ⟨r2,0,none⟩) (List.flatMap fvC (rlV g 2)),al_ (some ⟨r3,0,none⟩) (List.flatMap fvC (rlV g 3)),al_ aad (List.flatMap aE_ (atS p)),mlF Tryz.prog 250 Ky.val Pc.cells pb (aN_ (uniq [] p)) adr,bi_ g (.cells #[.map (some pb),.slice lad (List.length (as_ (uniq [] p))) lcap,.map (some kb),.func (.func 70) #[] #[zp_ b2 0,zp_ b3 0,zp_ b4 0],.map (some ab),.map (some ub),.map (some ob),.map (some ib),.map (some rb),.map (some sb),.map (some fb)] 125 (0,0)),bi_ b3 (.cells #[.int .i64 (m:Int)] 3 (0,0)),bi_ b2 (.cells #[zp_ g 0] 116 (0,0)),al_ lad (List.flatMap aE_ (as_ (uniq [] p))),al_ pad (List.flatMap Pc.cells p),jK_]) (fun y=>4 - y.1.1) ⟨((0:Nat),((b4,.cells #[sv1] 59 (0,0))::(kb,.map es1 ce1)::([(fb,.map ef1 cf1)]++Hq1))),by omega,by exact⟨sv1,es1,ce1,ef1,cf1,qf1,Hq1,rfl,hrQ1,hEk1,hEf1,hqf1⟩,.inl rfl⟩ zl zp zh ?_
     rintro ⟨⟨j,Hs⟩,hj,hS2,hjm⟩
     dsimp only at hj hS2 hjm ⊢
     refine Zi 2 (fun hr11=>?_) fun hr11=>?_
     ·have ej:j=4:=by omega
      have hjl:((rls (bm_ m) idk (aN_ (uniq [] p)) (Ix.add x (decide (f∈fm)) f) f j (q,fm)).1).length≤m:=hjm.resolve_left (by omega)
      rw[ej]at hjl hS2
      refine Zz 12 ?_
      exact J_ ⟨(n+1,(rls (bm_ m) idk (aN_ (uniq [] p)) (Ix.add x (decide (f∈fm)) f) f 4 (q,fm)).1,(rls (bm_ m) idk (aN_ (uniq [] p)) (Ix.add x (decide (f∈fm)) f) f 4 (q,fm)).2,(Ix.add x (decide (f∈fm)) f),Ha1,Hu1,Ho1,Hi1,Hr1,Hm1,Hs),(iN_ hvk hL hf (by have e:nrl f=4:=(by unfold nrl;simp[hk]);rw[e]) (by omega)),(by exact hS2),hI1,(jt_ hz _ f)⟩ (by dsimp only;omega) zl (p_ e_ (p_ e_ (s_ (c_ o_) (s_ (c_ o_) (s_ (c_ o_) (s_ (c_ o_) (s_ (c_ o_) (s_ (c_ o_) M_)))))))) zh
     have hlfv:j<List.length (rlV g 2):=by show j<4;omega
     obtain⟨fv,hfv⟩:∃ e0,(rlV g 2)[j]? = some e0:=⟨_,List.getElem?_eq_getElem hlfv⟩
     have hmfv:fv∈(rlV g 2):=List.mem_of_getElem? hfv
     refine Zz 10 ?_
     refine d_ (L_ bj_ fc_ rfl rfl (fun v _ h=>y_ (n:=1) ir_ (by decide) (by exact h.2.1) hfv) (by omega) (by omega)) rfl (d_ (ba_ (ad:=(some ⟨r2,0,none⟩)) Tryz.isAgg120 rfl zf (u_ ir_ hfv 0 _ rfl)) rfl (Zz 7 ?_))
     obtain⟨nr,rfl,hT⟩:=vf_ (EngB.mk g pb ab ub ob ib rb sb lad lcap (as_ (uniq [] p))) (EA m hm (EngB.mk g pb ab ub ob ib rb sb lad lcap (as_ (uniq [] p))) b2 b3 b4 kb fb) (EngA.mk adr (fun _=>(none,0)) (fun _=>(none,0)) (fun _=>(none,0)) (fun _=>(none,0)) (fun _=>(none,0)) (fun _=>(none,0))) (aN_ (uniq [] p)) (Ix.add x (decide (f∈fm)) f) f (rls (bm_ m) idk (aN_ (uniq [] p)) (Ix.add x (decide (f∈fm)) f) f j (q,fm)).1 (rls (bm_ m) idk (aN_ (uniq [] p)) (Ix.add x (decide (f∈fm)) f) f j (q,fm)).2 Hs hS2 Ha1 Hu1 Ho1 Hi1 Hr1 Hm1 hI1 hpl hxl1 hyl1 (fun hk=>(iA_ hform hk).2.2) (fun _ y hy=>(hvk y (pm9.1 hy).1).num (.inr (pm9.1 hy).2.1)) hk j hfv
     refine Y_ (first:=[zp_ g 0]) (vs:=[Fc.val f]) (cap:=[]) hT rfl rfl (qu_ (s_ (c_ (c_ (c_ o_))) (s_ (c_ (c_ (c_ o_))) (s_ (c_ (c_ (c_ o_))) (s_ (c_ (c_ (c_ o_))) (s_ (c_ (c_ (c_ o_))) (s_ (c_ (c_ (c_ o_))) (c_ (c_ M_))))))))) (fun v _ h=>by exact⟨h.2.2.2.2.2.1,h.2.2.2.2.1,⟨h.2.2.2.2.2.2.2.1,h.2.2.2.2.2.2.1,h.2.2.2.2.2.1⟩,trivial⟩) rfl fun⟨Hs3,hS3⟩=>C_ nC_ (Zz 2 ?_)
     refine C_ (aB_ (i_ (i_ (i_ (i_ (i_ (i_ (i_ e_))))))) (aB_ (i_ (i_ (i_ (i_ (i_ (i_ (i_ e_))))))) (bD_ (i_ (i_ (i_ (i_ (i_ (i_ ca_))))))))) (Zz 2 ?_)
     refine z_ 0 [0,1,2,3,4,5,6] zk zs (Zz 4 ?_)
     refine P_ rfl (aY_ (gb_ (E:=(EA m hm (EngB.mk g pb ab ub ob ib rb sb lad lcap (as_ (uniq [] p))) b2 b3 b4 kb fb)) (nw:=(rls (bm_ m) idk (aN_ (uniq [] p)) (Ix.add x (decide (f∈fm)) f) f (j+1) (q,fm)).1) (Hs:=Hs3) hS3 aO_ rfl zp) (show _=Value.int .i64 (List.length (rls (bm_ m) idk (aN_ (uniq [] p)) (Ix.add x (decide (f∈fm)) f) f (j+1) (q,fm)).1:Int) from rfl)) rfl (Zi 1 (fun hr12=>?_) fun hr12=>?_)
     ·refine Zz 11 ?_
      exact J_ ⟨(j+1,Hs3),hlfv,by exact hS3,.inr (by dsimp only;omega)⟩ (by dsimp only;omega) zl zp zh
     refine Zz 9 ?_
     refine z_ 0 [0,1,2,3,4,5,6] zk zs (Zz 4 ?_)
     refine P_ rfl (aY_ (gb_ (E:=(EA m hm (EngB.mk g pb ab ub ob ib rb sb lad lcap (as_ (uniq [] p))) b2 b3 b4 kb fb)) (nw:=(rls (bm_ m) idk (aN_ (uniq [] p)) (Ix.add x (decide (f∈fm)) f) f (j+1) (q,fm)).1) (Hs:=Hs3) hS3 aO_ rfl zp) (show _=Value.int .i64 (List.length (rls (bm_ m) idk (aN_ (uniq [] p)) (Ix.add x (decide (f∈fm)) f) f (j+1) (q,fm)).1:Int) from rfl)) rfl (Zi 1 (fun hr13=>?_) fun hr13=>?_)
     ·omega
     refine Zi 8 (fun hr14=>?_) fun hr14=>?_
     ·refine Zz 7 ?_
      refine d_ (w_ fK_ rfl rfl) rfl (x_ 0 aK_ rfl rfl rfl rfl rfl rfl (Zz 4 ?_))
      exact fE_ ⟨((Cl.mk [] none 0 [] none 0),2),eY_ hchk hb0 hb1 hm0' (by rw[if_neg (by assumption)]) (cE_ hvk hL hf (j+1) rfl).1 (cE_ hvk hL hf (j+1) rfl).2.2.1 (by omega)⟩ (fun aa v h1 h2=>eN_ (us:=Cl.cells (Cl.mk [] none 0 [] none 0)) 0 ds_ cU_ aK_ rfl rfl rfl rfl aa v h1 h2) g_ (fun v _ h=>by exact⟨.inl rfl,.inl rfl,trivial⟩)
     refine Zz 5 ?_
     refine d_ (w_ fK_ rfl rfl) rfl (x_ 0 aK_ rfl rfl rfl rfl rfl rfl (Zz 4 ?_))
     exact fE_ ⟨((Cl.mk [] none 0 [] none 0),3),eY_ hchk hb0 hb1 hm0' (by rw[if_pos (by assumption)]) (cE_ hvk hL hf (j+1) rfl).1 (cE_ hvk hL hf (j+1) rfl).2.2.1 (by omega)⟩ (fun aa v h1 h2=>eN_ (us:=Cl.cells (Cl.mk [] none 0 [] none 0)) 0 ds_ cU_ aK_ rfl rfl rfl rfl aa v h1 h2) g_ (fun v _ h=>by exact⟨.inl rfl,.inl rfl,trivial⟩)
    refine d_ (aY_ (eo_ sb_ Tryz.sizeOf126 rfl rfl (by omega) (by omega)) (show _=zp_ b5 3 from by rw[hk];rfl)) rfl ?_
    refine Zz 6 ?_
    refine ey_ (H':=((b1,.cells #[.slice none 0 0,.slice none 0 0] 61 (0,0))::((b5,.cells #[.slice none 0 0,.slice (some ⟨r1,0,none⟩) 6 6,.slice (some ⟨r2,0,none⟩) 4 4,.slice (some ⟨r3,0,none⟩) 2 2] 127 (0,0))::((b6,.cells #[.int .i64 f.kind,str f.a,str f.b,str f.r,.int .i64 f.lo,.int .i64 f.hi] 67 (0,0))::(Ha1++(Hu1++(Ho1++(Hi1++(Hr1++(Hm1++((b4,.cells #[sv1] 59 (0,0))::(kb,.map es1 ce1)::([(fb,.map ef1 cf1)]++Hq1)))))))))))) (p_ (c_ (c_ (c_ e_))) (p_ (c_ (c_ (c_ e_))) (p_ (c_ (c_ e_)) (s_ (c_ (c_ o_)) (s_ (c_ (c_ o_)) (s_ (c_ (c_ o_)) (s_ (c_ (c_ o_)) (s_ (c_ (c_ o_)) (s_ (c_ (c_ o_)) (p_ e_ (p_ e_ (s_ o_ aZ_)))))))))))) (fun v _ h=>h) ?_
    refine ai_ (ι:={y:Nat×Hp // y.1≤2∧((EA m hm (EngB.mk g pb ab ub ob ib rb sb lad lcap (as_ (uniq [] p))) b2 b3 b4 kb fb)).St (rls (bm_ m) idk (aN_ (uniq [] p)) (Ix.add x (decide (f∈fm)) f) f y.1 (q,fm)).1 (rls (bm_ m) idk (aN_ (uniq [] p)) (Ix.add x (decide (f∈fm)) f) f y.1 (q,fm)).2 y.2∧(y.1=0∨((rls (bm_ m) idk (aN_ (uniq [] p)) (Ix.add x (decide (f∈fm)) f) f y.1 (q,fm)).1).length≤m)}) (fun y=>[(0,.slice pad (List.length p) pcap),(1,.int .i64 bu),(4,zp_ b1 0),(7,zp_ b2 0),(8,zp_ b3 0),(9,zp_ b4 0),(10,.slice aad (List.length (atS p)) acap),(11,zp_ b5 0),(12,.int .i64 (n:Int)),(13,zp_ b6 0),(60,.slice (some ⟨r3,0,none⟩) 2 2),(61,.int .i64 2),(62,.int .i64 (y.1.1:Int))]) (fun y=>((b1,.cells #[.slice none 0 0,.slice none 0 0] 61 (0,0))::((b5,.cells #[.slice none 0 0,.slice (some ⟨r1,0,none⟩) 6 6,.slice (some ⟨r2,0,none⟩) 4 4,.slice (some ⟨r3,0,none⟩) 2 2] 127 (0,0))::((b6,.cells #[.int .i64 f.kind,str f.a,str f.b,str f.r,.int .i64 f.lo,.int .i64 f.hi] 67 (0,0))::(Ha1++(Hu1++(Ho1++(Hi1++(Hr1++(Hm1++y.1.2)))))))))) (fun y=>[al_ (some ⟨r1,0,none⟩) (List.flatMap fvC (rlV g 1)),al_ (some ⟨r2,0,none⟩) (List.flatMap fvC (rlV g 2)),al_ (some ⟨r3,0,none⟩) (List.flatMap fvC (rlV g 3)),al_ aad (List.flatMap aE_ (atS p)),mlF Tryz.prog 250 Ky.val Pc.cells pb (aN_ (uniq [] p)) adr,bi_ g (.cells #[.map (some pb),.slice lad (List.length (as_ (uniq [] p))) lcap,.map (some kb),.func (.func 70) #[] #[zp_ b2 0,zp_ b3 0,zp_ b4 0],.map (some ab),.map (some ub),.map (some ob),.map (some ib),.map (some rb),.map (some sb),.map (some fb)] 125 (0,0)),bi_ b3 (.cells #[.int .i64 (m:Int)] 3 (0,0)),bi_ b2 (.cells #[zp_ g 0] 116 (0,0)),al_ lad (List.flatMap aE_ (as_ (uniq [] p))),al_ pad (List.flatMap Pc.cells p),jK_]) (fun y=>2 - y.1.1) ⟨((0:Nat),((b4,.cells #[sv1] 59 (0,0))::(kb,.map es1 ce1)::([(fb,.map ef1 cf1)]++Hq1))),by omega,by exact⟨sv1,es1,ce1,ef1,cf1,qf1,Hq1,rfl,hrQ1,hEk1,hEf1,hqf1⟩,.inl rfl⟩ zl zp zh ?_
    rintro ⟨⟨j,Hs⟩,hj,hS2,hjm⟩
    dsimp only at hj hS2 hjm ⊢
    refine Zi 2 (fun hr15=>?_) fun hr15=>?_
    ·have ej:j=2:=by omega
     have hjl:((rls (bm_ m) idk (aN_ (uniq [] p)) (Ix.add x (decide (f∈fm)) f) f j (q,fm)).1).length≤m:=hjm.resolve_left (by omega)
     rw[ej]at hjl hS2
     refine Zz 12 ?_
     exact J_ ⟨(n+1,(rls (bm_ m) idk (aN_ (uniq [] p)) (Ix.add x (decide (f∈fm)) f) f 2 (q,fm)).1,(rls (bm_ m) idk (aN_ (uniq [] p)) (Ix.add x (decide (f∈fm)) f) f 2 (q,fm)).2,(Ix.add x (decide (f∈fm)) f),Ha1,Hu1,Ho1,Hi1,Hr1,Hm1,Hs),(iN_ hvk hL hf (by have e:nrl f=2:=(by unfold nrl;simp[hk]);rw[e]) (by omega)),(by exact hS2),hI1,(jt_ hz _ f)⟩ (by dsimp only;omega) zl (p_ e_ (p_ e_ (s_ (c_ o_) (s_ (c_ o_) (s_ (c_ o_) (s_ (c_ o_) (s_ (c_ o_) (s_ (c_ o_) M_)))))))) zh
    have hlfv:j<List.length (rlV g 3):=by show j<2;omega
    obtain⟨fv,hfv⟩:∃ e0,(rlV g 3)[j]? = some e0:=⟨_,List.getElem?_eq_getElem hlfv⟩
    have hmfv:fv∈(rlV g 3):=List.mem_of_getElem? hfv
    refine Zz 10 ?_
    refine d_ (L_ bj_ fc_ rfl rfl (fun v _ h=>y_ (n:=1) ir_ (by decide) (by exact h.2.2.1) hfv) (by omega) (by omega)) rfl (d_ (ba_ (ad:=(some ⟨r3,0,none⟩)) Tryz.isAgg120 rfl zf (u_ ir_ hfv 0 _ rfl)) rfl (Zz 7 ?_))
    obtain⟨nr,rfl,hT⟩:=ve_ (EngB.mk g pb ab ub ob ib rb sb lad lcap (as_ (uniq [] p))) (EA m hm (EngB.mk g pb ab ub ob ib rb sb lad lcap (as_ (uniq [] p))) b2 b3 b4 kb fb) (EngA.mk adr (fun _=>(none,0)) (fun _=>(none,0)) (fun _=>(none,0)) (fun _=>(none,0)) (fun _=>(none,0)) (fun _=>(none,0))) (aN_ (uniq [] p)) (Ix.add x (decide (f∈fm)) f) f (rls (bm_ m) idk (aN_ (uniq [] p)) (Ix.add x (decide (f∈fm)) f) f j (q,fm)).1 (rls (bm_ m) idk (aN_ (uniq [] p)) (Ix.add x (decide (f∈fm)) f) f j (q,fm)).2 Hs hS2 Ha1 Hu1 Ho1 Hi1 Hr1 Hm1 hI1 hpl hxl1 hyl1 (fun hk=>(iA_ hform hk).2.2) (fun _ y hy=>(hvk y (pm9.1 hy).1).num (.inr (pm9.1 hy).2.1)) hk j hfv
    refine Y_ (first:=[zp_ g 0]) (vs:=[Fc.val f]) (cap:=[]) hT rfl rfl (qu_ (s_ (c_ (c_ (c_ o_))) (s_ (c_ (c_ (c_ o_))) (s_ (c_ (c_ (c_ o_))) (s_ (c_ (c_ (c_ o_))) (s_ (c_ (c_ (c_ o_))) (s_ (c_ (c_ (c_ o_))) (c_ (c_ M_))))))))) (fun v _ h=>by exact⟨h.2.2.2.2.2.1,h.2.2.2.2.1,⟨h.2.2.2.2.2.2.2.1,h.2.2.2.2.2.2.1,h.2.2.2.2.2.1⟩,trivial⟩) rfl fun⟨Hs3,hS3⟩=>C_ nC_ (Zz 2 ?_)
    refine C_ (aB_ (i_ (i_ (i_ (i_ (i_ (i_ (i_ e_))))))) (aB_ (i_ (i_ (i_ (i_ (i_ (i_ (i_ e_))))))) (bD_ (i_ (i_ (i_ (i_ (i_ (i_ ca_))))))))) (Zz 2 ?_)
    refine z_ 0 [0,1,2,3,4,5,6] zk zs (Zz 4 ?_)
    refine P_ rfl (aY_ (gb_ (E:=(EA m hm (EngB.mk g pb ab ub ob ib rb sb lad lcap (as_ (uniq [] p))) b2 b3 b4 kb fb)) (nw:=(rls (bm_ m) idk (aN_ (uniq [] p)) (Ix.add x (decide (f∈fm)) f) f (j+1) (q,fm)).1) (Hs:=Hs3) hS3 aO_ rfl zp) (show _=Value.int .i64 (List.length (rls (bm_ m) idk (aN_ (uniq [] p)) (Ix.add x (decide (f∈fm)) f) f (j+1) (q,fm)).1:Int) from rfl)) rfl (Zi 1 (fun hr16=>?_) fun hr16=>?_)
    ·refine Zz 11 ?_
     exact J_ ⟨(j+1,Hs3),hlfv,by exact hS3,.inr (by dsimp only;omega)⟩ (by dsimp only;omega) zl zp zh
    refine Zz 9 ?_
    refine z_ 0 [0,1,2,3,4,5,6] zk zs (Zz 4 ?_)
    refine P_ rfl (aY_ (gb_ (E:=(EA m hm (EngB.mk g pb ab ub ob ib rb sb lad lcap (as_ (uniq [] p))) b2 b3 b4 kb fb)) (nw:=(rls (bm_ m) idk (aN_ (uniq [] p)) (Ix.add x (decide (f∈fm)) f) f (j+1) (q,fm)).1) (Hs:=Hs3) hS3 aO_ rfl zp) (show _=Value.int .i64 (List.length (rls (bm_ m) idk (aN_ (uniq [] p)) (Ix.add x (decide (f∈fm)) f) f (j+1) (q,fm)).1:Int) from rfl)) rfl (Zi 1 (fun hr17=>?_) fun hr17=>?_)
    ·omega
    refine Zi 8 (fun hr18=>?_) fun hr18=>?_
    ·refine Zz 7 ?_
     refine d_ (w_ fK_ rfl rfl) rfl (x_ 0 aK_ rfl rfl rfl rfl rfl rfl (Zz 4 ?_))
     exact fE_ ⟨((Cl.mk [] none 0 [] none 0),2),eY_ hchk hb0 hb1 hm0' (by rw[if_neg (by assumption)]) (cE_ hvk hL hf (j+1) rfl).1 (cE_ hvk hL hf (j+1) rfl).2.2.1 (by omega)⟩ (fun aa v h1 h2=>eN_ (us:=Cl.cells (Cl.mk [] none 0 [] none 0)) 0 ds_ cU_ aK_ rfl rfl rfl rfl aa v h1 h2) g_ (fun v _ h=>by exact⟨.inl rfl,.inl rfl,trivial⟩)
    refine Zz 5 ?_
    refine d_ (w_ fK_ rfl rfl) rfl (x_ 0 aK_ rfl rfl rfl rfl rfl rfl (Zz 4 ?_))
    exact fE_ ⟨((Cl.mk [] none 0 [] none 0),3),eY_ hchk hb0 hb1 hm0' (by rw[if_pos (by assumption)]) (cE_ hvk hL hf (j+1) rfl).1 (cE_ hvk hL hf (j+1) rfl).2.2.1 (by omega)⟩ (fun aa v h1 h2=>eN_ (us:=Cl.cells (Cl.mk [] none 0 [] none 0)) 0 ds_ cU_ aK_ rfl rfl rfl rfl aa v h1 h2) g_ (fun v _ h=>by exact⟨.inl rfl,.inl rfl,trivial⟩)
   refine Zz 6 ?_
   refine d_ (w_ fK_ rfl rfl) rfl (x_ 0 aK_ rfl rfl rfl rfl rfl rfl (Zz 4 ?_))
   exact fE_ ⟨((Cl.mk [] none 0 [] none 0),1),pY_ (by assumption) (by omega)⟩ (fun aa v h1 h2=>eN_ (us:=Cl.cells (Cl.mk [] none 0 [] none 0)) 0 ds_ cU_ aK_ rfl rfl rfl rfl aa v h1 h2) g_ (fun v _ h=>by exact⟨.inl rfl,.inl rfl,trivial⟩)
  refine Zz 9 ?_
  refine d_ (w_ fK_ rfl rfl) rfl (x_ 0 aK_ rfl rfl rfl rfl rfl rfl (Zz 4 ?_))
  exact fE_ ⟨((Cl.mk [] none 0 [] none 0),1),pY_ (by assumption) (by omega)⟩ (fun aa v h1 h2=>eN_ (us:=Cl.cells (Cl.mk [] none 0 [] none 0)) 0 ds_ cU_ aK_ rfl rfl rfl rfl aa v h1 h2) g_ (fun v _ h=>by exact⟨.inl rfl,.inl rfl,trivial⟩)
 refine Zz 5 ?_
 refine d_ (w_ fK_ rfl rfl) rfl (Zz 1 ?_)
 refine x_ 0 aK_ rfl rfl rfl rfl rfl rfl (Zz 4 ?_)
 exact fE_ ⟨((Cl.mk [] none 0 [] none 0),(dX_ p)),uH_ (by assumption)⟩ (fun aa v h1 h2=>eN_ (us:=Cl.cells (Cl.mk [] none 0 [] none 0)) 0 ds_ cU_ aK_ rfl rfl rfl rfl aa v h1 h2) g_ (fun v _ h=>by exact⟨.inl rfl,.inl rfl,trivial⟩)
end Go.Proofs.YtamklbgaipakfaaGreatDoor
namespace Go.Proofs.YtamklbgaipakfaaGreatDoor
open Go Go.Sx Go.Proofs
attribute [local irreducible] Code.wp wpList wpAnyH
open Go.Vs
theorem pX_ {p:List Pc} {c:Cl} {e:Int} (h:kl_ p 20000 c e) (hc:dX_ p=0):(e=0∧mh_ p (atS p) 20000 (some c.facts))∨(c=Cl.no∧e=3∧mh_ p (atS p) 20000 none):=by
 unfold kl_ at h
 rw[if_neg (by simp[hc]),if_neg (by omega)]at h
 rcases h with⟨h1,_,_,h2⟩|⟨h1,h2,h3⟩
 ·exact .inl ⟨h1,h2⟩
 exact .inr ⟨h1,by rw[h2];rfl,h3⟩
def dx_ (l:List Fc) (s:Str):List Fc:=l.filter fun y=>decide (y.a=s)
theorem me_ {l:List Fc} (h:Srt l) (s:Str):Srt (dx_ l s):=List.Pairwise.filter _ h
theorem mf_ {l:List Fc} {s:Str} {y:Fc}:y∈dx_ l s↔y∈l∧y.a=s:=by unfold dx_;rw[List.mem_filter,decide_eq_true_eq]
theorem sub_at {p q:List Pc} (h:∀ x∈p,∃ y∈q,∃ n,{ y with frm:=n }=x):∀ s∈atS p,s∈atS q:=fun s hs=>by
 rw[jF_,go_]at hs ⊢
 rcases hs with h1|h1
 ·obtain⟨x,hx,h2⟩:=List.mem_flatMap.1 h1
  obtain⟨y,hy,n,e⟩:=h x hx
  subst e
  exact .inl (List.mem_flatMap.2 ⟨y,hy,h2⟩)
 exact .inr h1
theorem sK_ {p q:List Pc} {S:List Str} {c d:Cl} {h i:Int} (hA:kl_ (p++cD_ S) 20000 c h) (hB:kl_ (q++cD_ S) 20000 d i) (hP:dX_ (p++cD_ S)=0) (hQ:dX_ (q++cD_ S)=0)
    (hq:∀ x∈p,Usb p S x→∃ y∈q,∃ n,{ y with frm:=n }=x) (hs:∀ x∈q,∃ y∈p,∃ n,{ y with frm:=n }=x):h=3∨(h=0∧i=0∧c.facts.length≤20000∧d.facts.length≤20000∧∀ s∈S,dx_ c.facts s=dx_ d.facts s):=by
  have hs':∀ x∈q++cD_ S,∃ y∈p++cD_ S,∃ n,{ y with frm:=n }=x:=fun x hx=>by
    rcases List.mem_append.1 hx with hx|hx
    · obtain⟨y,hy,n,e⟩:=hs x hx
      exact⟨y,List.mem_append_left _ hy,n,e⟩
    · exact⟨x,List.mem_append_right _ hx,x.frm,rfl⟩
  have sub:∀ {y:Fc},Der (q++cD_ S) (atS (q++cD_ S)) y→Der (p++cD_ S) (atS (p++cD_ S)) y:=fun hy=>hy.mono hs' (sub_at hs')
  rcases pX_ hA hP with⟨h0,a1⟩|⟨_,h0,_⟩
  · rcases pX_ hB hQ with⟨i0,b1⟩|⟨_,_,M,m1,m2,m3⟩
    · refine .inr ⟨h0,i0,a1.2.2,b1.2.2,fun s hsS=>?_⟩
      refine Srt.ext (me_ a1.1 s) (me_ b1.1 s) fun y=>?_
      rw[mf_,mf_,a1.2.1,b1.2.1]
      constructor
      · rintro ⟨y1,rfl⟩
        exact⟨(sL_ hq y1 (.base (by simp[dv_,hsS]))).1,rfl⟩
      · rintro ⟨y1,y2⟩
        exact⟨sub y1,y2⟩
    · exfalso
      have:=gU_ m1 fun x hx=>(a1.2.1 x).2 (sub (m2 x hx))
      have:=a1.2.2
      omega
  · exact .inl h0
theorem sA_ {s:Str} (h:aM_ s=true):Pc.valid ⟨1,s,[],[42],[],[],[],0,0,-1⟩=true:=by
  have z:aM_ [42]=true:=by decide
  simp[Pc.valid,nus,gk_,ch_,h,z]
end Go.Proofs.YtamklbgaipakfaaGreatDoor
namespace Go.Vs
open Go Go.Sx Go.Proofs.YtamklbgaipakfaaGreatDoor
def kN_ (p:List Pc) (U:List Bool) (q:List Int) (i:Nat):Prop:=∀ m,m∈q↔∃ (j:Nat) (x:Pc),j<i∧p[j]? = some x∧U[j]? = some true∧x.frm=m
theorem kN_.zero {p:List Pc} {U:List Bool}:kN_ p U [] 0:=fun m=>by simp
theorem kN_.miss {p:List Pc} {U:List Bool} {q:List Int} {i:Nat} (h:kN_ p U q i) (hw:U[i]? = some false):kN_ p U q (i+1):=fun m=>by
 rw[h m]
 constructor
 ·rintro ⟨j,x,h1,h2⟩;exact⟨j,x,by omega,h2⟩
 rintro ⟨j,x,h1,h2,h3,h4⟩
 refine⟨j,x,?_,h2,h3,h4⟩
 rcases Nat.lt_or_ge j i with g|g
 ·exact g
 obtain rfl:j=i:=by omega
 rw[hw]at h3;simp at h3
theorem kN_.hit {p:List Pc} {U:List Bool} {q:List Int} {i:Nat} {x:Pc} (h:kN_ p U q i) (hx:p[i]? = some x) (hw:U[i]? = some true):kN_ p U (if x.frm∈q then q else q++[x.frm]) (i+1):=fun m=>by
 have e:m∈(if x.frm∈q then q else q++[x.frm])↔m∈q∨m=x.frm:=by
   split
   · rename_i g;constructor
     · exact .inl
     · rintro (z|rfl);exact z;exact g
   · simp
 rw[e,h m]
 constructor
 ·rintro (⟨j,y,h1,h2⟩|rfl)
  ·exact⟨j,y,by omega,h2⟩
  exact⟨i,x,by omega,hx,hw,rfl⟩
 rintro ⟨j,y,h1,h2,h3,h4⟩
 rcases Nat.lt_or_ge j i with g|g
 ·exact .inl ⟨j,y,g,h2,h3,h4⟩
 obtain rfl:j=i:=by omega
 rw[hx,Option.some.injEq]at h2
 subst h2
 exact .inr h4.symm
theorem kN_.done {p:List Pc} {S:List Str} {K:List Thg} {U:List Bool} {q:List Int} {i:Nat} (h:kN_ p U q i) (hi:p.length≤i) (hR:ReachR p S K U) (m:Int):m∈q↔∃ x∈p,x.frm=m∧Usb p S x:=by
 rw[h m]
 constructor
 ·rintro ⟨j,x,h1,h2,h3,h4⟩
  obtain⟨b,g1,g2⟩:=hR.use j x h2
  rw[h3,Option.some.injEq]at g1
  exact⟨x,List.mem_of_getElem? h2,h4,g2.1 g1.symm⟩
 rintro ⟨x,hx,h4,hu⟩
 obtain⟨j,hj⟩:=List.getElem?_of_mem hx
 obtain⟨b,g1,g2⟩:=hR.use j x hj
 have:=(List.getElem?_eq_some_iff.1 hj).1
 refine⟨j,x,by omega,hj,?_,h4⟩
 rw[g1,g2.2 hu]
theorem jn_ {l:List Ax} {p:List Pc} {S:List Str} {i:Nat} {a:Ax} (ha:l[i]? = some a) (hk:gv_ a):Mat l p S i:=.inl ⟨a,by simpa using ha,hk⟩
theorem tV_ {l:List Ax} {p:List Pc} {S:List Str} {i:Nat} {q:List Int} (h:∀ m,m∈q↔∃ x∈p,x.frm=m∧Usb p S x) (hi:(i:Int)∈q):Mat l p S i:=.inr ((h i).1 hi)
theorem vx_ {l:List Ax} {p:List Pc} {S:List Str} {i:Nat} {a:Ax} {q:List Int} (h:∀ m,m∈q↔∃ x∈p,x.frm=m∧Usb p S x) (ha:l[i]? = some a) (hk:¬ gv_ a) (hi:¬ (i:Int)∈q):¬ Mat l p S i:=by
 rintro (⟨b,hb,hkb⟩|hq)
 ·have:l[i]? = some b:=by simpa using hb
  rw[ha,Option.some.injEq]at this
  subst this
  exact hk hkb
 exact hi ((h i).2 hq)
end Go.Vs
namespace Go.Proofs.YtamklbgaipakfaaGreatDoor
open Go Go.Sx Go.Proofs
attribute [local irreducible] Code.wp wpList wpAnyH
open Go.Vs
theorem mQ_ (ls:List Ax) (lad:Option Addr) (lcap:Nat) (p:List Pc) (ad:Option Addr) (cap:Nat) (S:List Str) (sad:Option Addr) (scap:Nat):Tri Tryz.prog 38 #[.slice lad (List.length ls) lcap,.slice ad (List.length p) cap,.slice sad (List.length S) scap] [] [] (fun y:Nat×Nat×Nat=>.func (.func 80) #[] #[zp_ y.1 0,zp_ y.2.1 0,zp_ y.2.2 0]) (fun _=>[]) (fun y=>[bi_ y.1 (.cells #[.slice ad (List.length p) cap] 54 (0,0)),bi_ y.2.1 (.cells #[.slice sad (List.length S) scap] 23 (0,0)),bi_ y.2.2 (.cells #[.slice lad (List.length ls) lcap] 22 (0,0))]):=by
  refine l_ Tryz.func38 rfl rfl Tryz.ntmps38 rfl fun v0=>?_
  refine Zz 2 ?_
  refine U_ rfl rfl fun b1=>U_ rfl rfl fun b2=>U_ rfl rfl fun b3=>Zz 5 ?_
  refine d_ (bV_ rfl rfl) rfl (Zz 4 ?_)
  refine ez_ (bi_ b1 (.cells #[.slice lad (List.length ls) lcap] 22 (0,0))) (bD_ (c_ (c_ e_))) (fun _ h1 h2 _=>⟨h1,h2⟩) ?_
  refine ez_ (bi_ b2 (.cells #[.slice ad (List.length p) cap] 54 (0,0))) (bD_ (c_ e_)) (fun _ h1 h2 _=>⟨h1,h2⟩) ?_
  refine ez_ (bi_ b3 (.cells #[.slice sad (List.length S) scap] 23 (0,0))) (bD_ e_) (fun _ h1 h2 _=>⟨h1,h2⟩) ?_
  exact N_ Tryz.results38 (b2,b3,b1) rfl g_ zf
theorem tW_ {σ:Type} {lq:Nat} {Gj:σ→Hp} {lst:σ→List Int} (ls:List Ax) (lad:Option Addr) (lcap:Nat) (p:List Pc) (ad:Option Addr) (cap:Nat) (S:List Str) (sad:Option Addr) (scap:Nat) (bp bs bl:Nat) (Fx Fy:Fct) (hY:∀ s x,((lst s).length<100000000∧0≤x∧x<(List.length ls:Int))→jH_ Tryz.prog lq (.int .i64 x) (Gj s) [Fx,Fy] (fun _:{s':σ // lst s'=lst s++[x]}=>.bool true) (fun s'=>Gj s'.1) (fun _=>[])) (s0:σ) (hs0:lst s0=[]) (hp:p.length≤100000000) (hS:S.length≤100000000) (hll:ls.length≤100000000):Tri Tryz.prog 80 #[.func (.yield lq) #[] #[],zp_ bp 0,zp_ bs 0,zp_ bl 0] (Gj s0) [bi_ bp (.cells #[.slice ad (List.length p) cap] 54 (0,0)),bi_ bs (.cells #[.slice sad (List.length S) scap] 23 (0,0)),bi_ bl (.cells #[.slice lad (List.length ls) lcap] 22 (0,0)),al_ ad (List.flatMap Pc.cells p),al_ sad (List.flatMap aE_ S),dw_ lad ls,Fx,Fy] (fun _:{s':σ // lst s'=eC_ ls p S (List.length ls)}=>.tuple #[]) (fun s'=>Gj s'.1) (fun _=>[]):=by
 refine l_ Tryz.func80 rfl rfl Tryz.ntmps80 rfl fun v0=>?_
 refine X_ ?_
 refine I_ ?_
 refine d_ (cp_ qN_ rfl zf rfl) rfl ?_
 refine d_ (cp_ Tryz.isAgg23 rfl zf rfl) rfl ?_
 refine f_ (vk_ p ad cap S sad scap hp hS) rfl g_ zf rfl fun⟨⟨kb,esK,cK,Kq,svU,Uq,HUq⟩,hEK,hBK,hrU,hRR⟩=>?_
 dsimp only
 dsimp only at hEK hBK hrU hRR
 simp only[List.cons_append,List.append_assoc]
 refine d_ (t_ rfl) rfl ?_
 refine d_ (bs_ rfl rfl) rfl ?_
 refine d_ (bs_ rfl rfl) rfl ?_
 refine d_ (W_ rfl) rfl ?_
 refine d_ (W_ rfl) rfl ?_
 refine aa_ ?_
 refine G_ rfl ?_
 refine X_ ?_
 refine I_ ?_
 refine cd_ rfl fun b1=>?_
 refine d_ (W_ rfl) rfl ?_
 refine aa_ ?_
 refine G_ rfl ?_
 refine X_ ?_
 refine X_ ?_
 refine I_ ?_
 refine d_ (t_ rfl) rfl ?_
 refine d_ (ga_ hrU Tryz.runUnderlying79 rfl) rfl ?_
 refine d_ (t_ rfl) rfl ?_
 refine aa_ ?_
 refine G_ rfl ?_
 refine cy_ ?_
 refine ai_ (ι:={y:Nat×Array MapEntry×Nat×List Int // y.1≤List.length Uq∧SetE (fun n:Int=>.int .i64 n) y.2.1 y.2.2.2∧kN_ p Uq y.2.2.2 y.1}) (fun y=>[(0,.func (.yield lq) #[] #[]),(1,zp_ bp 0),(3,zp_ bl 0),(7,.map (some b1)),(20,svU),(21,.int .i64 (List.length Uq:Int)),(22,.int .i64 (y.1.1:Int))]) (fun y=>((b1,.map y.1.2.1 y.1.2.2.1)::(HUq++(Gj s0)))) (fun y=>[bi_ bp (.cells #[.slice ad (List.length p) cap] 54 (0,0)),bi_ bs (.cells #[.slice sad (List.length S) scap] 23 (0,0)),bi_ bl (.cells #[.slice lad (List.length ls) lcap] 22 (0,0)),al_ ad (List.flatMap Pc.cells p),al_ sad (List.flatMap aE_ S),dw_ lad ls,Fx,Fy]) (fun y=>List.length Uq - y.1.1) ⟨((0:Nat),#[],0,([]:List Int)),by simp,SetE.nil,kN_.zero⟩ zl zp zh ?_
 rintro ⟨⟨i,es3,c3,q⟩,hi_i,hE3,hq⟩
 dsimp only at hi_i hE3 hq ⊢
 refine X_ ?_
 refine I_ ?_
 refine D_ (dg_ rfl rfl) rfl fun r1 hr1=>?_
 refine aa_ ?_
 refine G_ rfl ?_
 refine X_ ?_
 cases r1
 ·replace hr1:=zdf hr1
  refine aW_ rfl ?_
  refine fC_ rfl ?_
  refine G_ rfl ?_
  refine X_ ?_
  refine I_ ?_
  refine d_ (cp_ kH_ rfl zf rfl) rfl ?_
  refine d_ (dp_ Q_ rfl) rfl ?_
  refine d_ (t_ rfl) rfl ?_
  refine aa_ ?_
  refine G_ rfl ?_
  refine cy_ ?_
  have hqd:=hq.done (S:=S) (by rw[← hRR.ul];omega) hRR
  refine ai_ (ι:={y:Nat×σ // y.1≤List.length ls∧lst y.2=eC_ ls p S y.1}) (fun y=>[(0,.func (.yield lq) #[] #[]),(1,zp_ bp 0),(3,zp_ bl 0),(7,.map (some b1)),(21,.int .i64 (List.length Uq:Int)),(22,.int .i64 (i:Int)),(35,.slice lad (List.length ls) lcap),(36,.int .i64 (List.length ls:Int)),(37,.int .i64 (y.1.1:Int))]) (fun y=>((b1,.map es3 c3)::(Gj y.1.2))) (fun y=>[bi_ bp (.cells #[.slice ad (List.length p) cap] 54 (0,0)),bi_ bs (.cells #[.slice sad (List.length S) scap] 23 (0,0)),bi_ bl (.cells #[.slice lad (List.length ls) lcap] 22 (0,0)),al_ ad (List.flatMap Pc.cells p),al_ sad (List.flatMap aE_ S),dw_ lad ls,Fx,Fy]) (fun y=>List.length ls - y.1.1) ⟨((0:Nat),s0),by simp,(by rw[sB_];exact hs0)⟩ zl zp zh ?_
  rintro ⟨⟨k,s⟩,hi_k,hls⟩
  dsimp only at hi_k hls ⊢
  refine X_ ?_
  refine I_ ?_
  refine D_ (dg_ rfl rfl) rfl fun r2 hr2=>?_
  refine aa_ ?_
  refine G_ rfl ?_
  refine X_ ?_
  cases r2
  ·replace hr2:=zdf hr2
   refine aW_ rfl ?_
   refine fC_ rfl ?_
   refine kT_ rfl ?_
   exact bX_ Tryz.results80 ⟨s,by rw[show List.length ls=k by omega];exact hls⟩ rfl M_ zt
  replace hr2:=zdt hr2
  have hla1:k<List.length ls:=by omega
  obtain⟨a1,ha1⟩:∃ e0,ls[k]? = some e0:=⟨_,List.getElem?_eq_getElem hla1⟩
  have hma1:a1∈ls:=List.mem_of_getElem? ha1
  refine bg_ rfl ?_
  refine bt_ ?_
  refine G_ rfl ?_
  refine X_ ?_
  refine cy_ ?_
  refine X_ ?_
  refine I_ ?_
  refine d_ (t_ rfl) rfl ?_
  refine d_ (L_ Q_ S_ rfl rfl (fun v _ h=>y_ (n:=16) Ax.cells_len (by decide) (by exact h.2.2.2.2.2.1.1) ha1) (by omega) (by first|omega|(simp;done))) rfl ?_
  refine d_ (af_ (ad:=lad) (us:=Ax.cells a1) bI_ S_ rfl (fun v _ h=>by exact h.2.2.2.2.2.1.1) (Ax.cells_len _) (u_ Ax.cells_len ha1)) rfl ?_
  refine K_ bc_ rfl fun b2=>?_
  refine d_ (W_ rfl) rfl ?_
  refine x_ 0 S_ rfl rfl rfl rfl rfl rfl ?_
  refine aa_ ?_
  refine G_ rfl ?_
  refine X_ ?_
  refine I_ ?_
  refine d_ (el_ bF_ rfl rfl rfl ao_) rfl ?_
  refine d_ (bl_ 0 aS_ rfl rfl rfl) rfl ?_
  refine D_ (aI_ rfl rfl) rfl fun r3 hr3=>?_
  refine d_ (t_ rfl) rfl ?_
  cases r3
  ·replace hr3:=znb hr3
   refine aF_ rfl rfl ?_
   refine d_ (el_ bF_ rfl rfl rfl ao_) rfl ?_
   refine aF_ rfl rfl ?_
   refine d_ (bl_ 0 aS_ rfl rfl rfl) rfl ?_
   refine aF_ rfl rfl ?_
   refine D_ (aI_ rfl rfl) rfl fun r4 hr4=>?_
   refine d_ (ct_ rfl rfl) rfl ?_
   refine d_ (t_ rfl) rfl ?_
   cases r4
   ·replace hr4:=znb hr4
    refine aF_ rfl rfl ?_
    refine d_ (el_ bF_ rfl rfl rfl ao_) rfl ?_
    refine aF_ rfl rfl ?_
    refine d_ (bl_ 0 aS_ rfl rfl rfl) rfl ?_
    refine aF_ rfl rfl ?_
    refine D_ (aI_ rfl rfl) rfl fun r5 hr5=>?_
    refine d_ (ct_ rfl rfl) rfl ?_
    refine d_ (W_ rfl) rfl ?_
    refine aa_ ?_
    refine G_ rfl ?_
    refine X_ ?_
    cases r5
    ·replace hr5:=znb hr5
     by_cases hq9:(k:Int)∈q
     ·have hM:Mat ls p S (k:Int):=tV_ hqd hq9
      refine gf_ (ι:={s':σ // lst s'=lst s++[(k:Int)]}) (fun _=>[(0,.func (.yield lq) #[] #[]),(1,zp_ bp 0),(3,zp_ bl 0),(7,.map (some b1)),(21,.int .i64 (List.length Uq:Int)),(22,.int .i64 (i:Int)),(35,.slice lad (List.length ls) lcap),(36,.int .i64 (List.length ls:Int)),(37,.int .i64 (k:Int)),(66,.bool false)]) (fun z=>((b2,.cells #[.int .i64 (Ax.kind a1),.bool (Ax.opn a1),.int .i64 (Con.kind (Ax.left a1)),str (Con.name (Ax.left a1)),.int .i64 (Con.lo (Ax.left a1)),.int .i64 (Con.hi (Ax.left a1)),.slice (Con.ad (Ax.left a1)) (List.length (Con.parts (Ax.left a1))) (Con.cap (Ax.left a1)),.int .i64 (Con.kind (Ax.right a1)),str (Con.name (Ax.right a1)),.int .i64 (Con.lo (Ax.right a1)),.int .i64 (Con.hi (Ax.right a1)),.slice (Con.ad (Ax.right a1)) (List.length (Con.parts (Ax.right a1))) (Con.cap (Ax.right a1)),.slice (Ax.ad a1) (List.length (Ax.roles a1)) (Ax.cap a1),str (Ax.role a1),str (Ax.a a1),str (Ax.b a1)] 48 (0,0))::((b1,.map es3 c3)::(Gj z.1)))) (fun _=>[bi_ bp (.cells #[.slice ad (List.length p) cap] 54 (0,0)),bi_ bs (.cells #[.slice sad (List.length S) scap] 23 (0,0)),bi_ bl (.cells #[.slice lad (List.length ls) lcap] 22 (0,0)),al_ ad (List.flatMap Pc.cells p),al_ sad (List.flatMap aE_ S),dw_ lad ls,Fx,Fy]) ?_ ?_
      ·refine bh_ ?_
       refine aq_ ad_ (t_ rfl) rfl rfl ?_
       refine aq_ ad_ (t_ rfl) rfl rfl ?_
       refine cx_ ad_ rfl rfl ?_
       refine aq_ ad_ (t_ rfl) rfl rfl ?_
       refine cx_ ad_ rfl rfl ?_
       refine aq_ ad_ (t_ rfl) rfl rfl ?_
       refine cx_ ad_ rfl rfl ?_
       refine mN_ ad_ (en_ (k:=(k:Int)) qI_ Tryz.runUnderlying134 cR_ rfl rfl hE3 (fun v h _=>(h.own _ (List.mem_of_getElem? (i:=1) rfl)).1)) rfl rfl fun r6 hr6=>?_
       refine aq_ ad_ (ct_ rfl rfl) rfl rfl ?_
       refine aq_ ad_ (t_ rfl) rfl rfl ?_
       cases r6
       ·replace hr6:=zdf hr6
        exact absurd hq9 hr6
       replace hr6:=zdt hr6
       refine cx_ ad_ rfl rfl ?_
       refine aq_ ad_ (t_ rfl) rfl rfl ?_
       refine cx_ ad_ rfl rfl ?_
       refine aq_ ad_ (t_ rfl) rfl rfl ?_
       refine cx_ ad_ rfl rfl ?_
       refine eO_ (hY s (k:Int) ⟨by rw[hls];have:=hS_ (l:=ls) (p:=p) (S:=S) k;omega,by omega,by omega⟩) rfl rfl (c_ M_) zf rfl fun z=>?_
       refine cx_ ad_ rfl rfl ?_
       refine aq_ ad_ (bb_ rfl) rfl rfl ?_
       refine aq_ ad_ (ci_ rfl rfl) rfl rfl ?_
       refine bW_ ?_
       refine de_ rfl ?_
       exact dE_ z zl zp zh
      rintro ⟨s',hs'⟩
      dsimp only
      refine G_ rfl ?_
      refine aW_ rfl ?_
      refine bt_ ?_
      refine G_ rfl ?_
      refine I_ ?_
      refine d_ (aT_ rfl rfl rfl (bK_ (by omega) (by omega))) rfl ?_
      refine d_ (t_ rfl) rfl ?_
      refine aa_ ?_
      refine bJ_ rfl ?_
      exact J_ ⟨(k+1,s'),hla1,(by rw[jo_ hM,← hls];exact hs')⟩ (by dsimp only;omega) zl zp zh
     have hM:¬ Mat ls p S (k:Int):=vx_ hqd ha1 (by unfold gv_;omega) hq9
     refine I_ ?_
     refine d_ (t_ rfl) rfl ?_
     refine d_ (t_ rfl) rfl ?_
     refine aF_ rfl rfl ?_
     refine d_ (t_ rfl) rfl ?_
     refine aF_ rfl rfl ?_
     refine d_ (t_ rfl) rfl ?_
     refine aF_ rfl rfl ?_
     refine D_ (en_ (k:=(k:Int)) qI_ Tryz.runUnderlying134 cR_ rfl rfl hE3 (fun v h _=>(h.own _ (List.mem_of_getElem? (i:=1) rfl)).1)) rfl fun r7 hr7=>?_
     refine d_ (ct_ rfl rfl) rfl ?_
     refine d_ (t_ rfl) rfl ?_
     cases r7
     ·replace hr7:=zdf hr7
      refine ec_ rfl rfl rfl rfl ?_
      refine ec_ rfl rfl rfl rfl ?_
      refine ec_ rfl rfl rfl rfl ?_
      refine ec_ rfl rfl rfl rfl ?_
      refine d_ (ct_ rfl rfl) rfl ?_
      refine aa_ ?_
      refine G_ rfl ?_
      refine aW_ rfl ?_
      refine bt_ ?_
      refine G_ rfl ?_
      refine I_ ?_
      refine d_ (aT_ rfl rfl rfl (bK_ (by omega) (by omega))) rfl ?_
      refine d_ (t_ rfl) rfl ?_
      refine aa_ ?_
      refine bJ_ rfl ?_
      exact J_ ⟨(k+1,s),hla1,(by rw[vy_ hM];exact hls)⟩ (by dsimp only;omega) zl (p_ (c_ e_) M_) zh
     replace hr7:=zdt hr7
     exact absurd hr7 hq9
    replace hr5:=zeb hr5
    have hM:Mat ls p S (k:Int):=jn_ ha1 (by unfold gv_;omega)
    refine gf_ (ι:={s':σ // lst s'=lst s++[(k:Int)]}) (fun _=>[(0,.func (.yield lq) #[] #[]),(1,zp_ bp 0),(3,zp_ bl 0),(7,.map (some b1)),(21,.int .i64 (List.length Uq:Int)),(22,.int .i64 (i:Int)),(35,.slice lad (List.length ls) lcap),(36,.int .i64 (List.length ls:Int)),(37,.int .i64 (k:Int)),(66,.bool false)]) (fun z=>((b2,.cells #[.int .i64 (Ax.kind a1),.bool (Ax.opn a1),.int .i64 (Con.kind (Ax.left a1)),str (Con.name (Ax.left a1)),.int .i64 (Con.lo (Ax.left a1)),.int .i64 (Con.hi (Ax.left a1)),.slice (Con.ad (Ax.left a1)) (List.length (Con.parts (Ax.left a1))) (Con.cap (Ax.left a1)),.int .i64 (Con.kind (Ax.right a1)),str (Con.name (Ax.right a1)),.int .i64 (Con.lo (Ax.right a1)),.int .i64 (Con.hi (Ax.right a1)),.slice (Con.ad (Ax.right a1)) (List.length (Con.parts (Ax.right a1))) (Con.cap (Ax.right a1)),.slice (Ax.ad a1) (List.length (Ax.roles a1)) (Ax.cap a1),str (Ax.role a1),str (Ax.a a1),str (Ax.b a1)] 48 (0,0))::((b1,.map es3 c3)::(Gj z.1)))) (fun _=>[bi_ bp (.cells #[.slice ad (List.length p) cap] 54 (0,0)),bi_ bs (.cells #[.slice sad (List.length S) scap] 23 (0,0)),bi_ bl (.cells #[.slice lad (List.length ls) lcap] 22 (0,0)),al_ ad (List.flatMap Pc.cells p),al_ sad (List.flatMap aE_ S),dw_ lad ls,Fx,Fy]) ?_ ?_
    ·refine bh_ ?_
     refine aq_ ad_ (t_ rfl) rfl rfl ?_
     refine aq_ ad_ (t_ rfl) rfl rfl ?_
     refine fS_ ad_ rfl rfl rfl rfl ?_
     refine fS_ ad_ rfl rfl rfl rfl ?_
     refine fS_ ad_ rfl rfl rfl rfl ?_
     refine aq_ ad_ (ci_ rfl rfl) rfl rfl ?_
     refine aq_ ad_ (t_ rfl) rfl rfl ?_
     refine cx_ ad_ rfl rfl ?_
     refine aq_ ad_ (t_ rfl) rfl rfl ?_
     refine cx_ ad_ rfl rfl ?_
     refine aq_ ad_ (t_ rfl) rfl rfl ?_
     refine cx_ ad_ rfl rfl ?_
     refine eO_ (hY s (k:Int) ⟨by rw[hls];have:=hS_ (l:=ls) (p:=p) (S:=S) k;omega,by omega,by omega⟩) rfl rfl (c_ M_) zf rfl fun z=>?_
     refine cx_ ad_ rfl rfl ?_
     refine aq_ ad_ (bb_ rfl) rfl rfl ?_
     refine aq_ ad_ (ci_ rfl rfl) rfl rfl ?_
     refine bW_ ?_
     refine de_ rfl ?_
     exact dE_ z zl zp zh
    rintro ⟨s',hs'⟩
    dsimp only
    refine G_ rfl ?_
    refine aW_ rfl ?_
    refine bt_ ?_
    refine G_ rfl ?_
    refine I_ ?_
    refine d_ (aT_ rfl rfl rfl (bK_ (by omega) (by omega))) rfl ?_
    refine d_ (t_ rfl) rfl ?_
    refine aa_ ?_
    refine bJ_ rfl ?_
    exact J_ ⟨(k+1,s'),hla1,(by rw[jo_ hM,← hls];exact hs')⟩ (by dsimp only;omega) zl zp zh
   replace hr4:=zeb hr4
   refine ec_ rfl rfl rfl rfl ?_
   refine ec_ rfl rfl rfl rfl ?_
   refine ec_ rfl rfl rfl rfl ?_
   refine d_ (ci_ rfl rfl) rfl ?_
   refine d_ (W_ rfl) rfl ?_
   refine aa_ ?_
   refine G_ rfl ?_
   refine X_ ?_
   have hM:Mat ls p S (k:Int):=jn_ ha1 (by unfold gv_;omega)
   refine gf_ (ι:={s':σ // lst s'=lst s++[(k:Int)]}) (fun _=>[(0,.func (.yield lq) #[] #[]),(1,zp_ bp 0),(3,zp_ bl 0),(7,.map (some b1)),(21,.int .i64 (List.length Uq:Int)),(22,.int .i64 (i:Int)),(35,.slice lad (List.length ls) lcap),(36,.int .i64 (List.length ls:Int)),(37,.int .i64 (k:Int)),(66,.bool false)]) (fun z=>((b2,.cells #[.int .i64 (Ax.kind a1),.bool (Ax.opn a1),.int .i64 (Con.kind (Ax.left a1)),str (Con.name (Ax.left a1)),.int .i64 (Con.lo (Ax.left a1)),.int .i64 (Con.hi (Ax.left a1)),.slice (Con.ad (Ax.left a1)) (List.length (Con.parts (Ax.left a1))) (Con.cap (Ax.left a1)),.int .i64 (Con.kind (Ax.right a1)),str (Con.name (Ax.right a1)),.int .i64 (Con.lo (Ax.right a1)),.int .i64 (Con.hi (Ax.right a1)),.slice (Con.ad (Ax.right a1)) (List.length (Con.parts (Ax.right a1))) (Con.cap (Ax.right a1)),.slice (Ax.ad a1) (List.length (Ax.roles a1)) (Ax.cap a1),str (Ax.role a1),str (Ax.a a1),str (Ax.b a1)] 48 (0,0))::((b1,.map es3 c3)::(Gj z.1)))) (fun _=>[bi_ bp (.cells #[.slice ad (List.length p) cap] 54 (0,0)),bi_ bs (.cells #[.slice sad (List.length S) scap] 23 (0,0)),bi_ bl (.cells #[.slice lad (List.length ls) lcap] 22 (0,0)),al_ ad (List.flatMap Pc.cells p),al_ sad (List.flatMap aE_ S),dw_ lad ls,Fx,Fy]) ?_ ?_
   ·refine bh_ ?_
    refine aq_ ad_ (t_ rfl) rfl rfl ?_
    refine aq_ ad_ (t_ rfl) rfl rfl ?_
    refine fS_ ad_ rfl rfl rfl rfl ?_
    refine fS_ ad_ rfl rfl rfl rfl ?_
    refine fS_ ad_ rfl rfl rfl rfl ?_
    refine aq_ ad_ (ci_ rfl rfl) rfl rfl ?_
    refine aq_ ad_ (t_ rfl) rfl rfl ?_
    refine cx_ ad_ rfl rfl ?_
    refine aq_ ad_ (t_ rfl) rfl rfl ?_
    refine cx_ ad_ rfl rfl ?_
    refine aq_ ad_ (t_ rfl) rfl rfl ?_
    refine cx_ ad_ rfl rfl ?_
    refine eO_ (hY s (k:Int) ⟨by rw[hls];have:=hS_ (l:=ls) (p:=p) (S:=S) k;omega,by omega,by omega⟩) rfl rfl (c_ M_) zf rfl fun z=>?_
    refine cx_ ad_ rfl rfl ?_
    refine aq_ ad_ (bb_ rfl) rfl rfl ?_
    refine aq_ ad_ (ci_ rfl rfl) rfl rfl ?_
    refine bW_ ?_
    refine de_ rfl ?_
    exact dE_ z zl zp zh
   rintro ⟨s',hs'⟩
   dsimp only
   refine G_ rfl ?_
   refine aW_ rfl ?_
   refine bt_ ?_
   refine G_ rfl ?_
   refine I_ ?_
   refine d_ (aT_ rfl rfl rfl (bK_ (by omega) (by omega))) rfl ?_
   refine d_ (t_ rfl) rfl ?_
   refine aa_ ?_
   refine bJ_ rfl ?_
   exact J_ ⟨(k+1,s'),hla1,(by rw[jo_ hM,← hls];exact hs')⟩ (by dsimp only;omega) zl zp zh
  replace hr3:=zeb hr3
  refine ec_ rfl rfl rfl rfl ?_
  refine ec_ rfl rfl rfl rfl ?_
  refine ec_ rfl rfl rfl rfl ?_
  refine d_ (ci_ rfl rfl) rfl ?_
  refine d_ (t_ rfl) rfl ?_
  refine ec_ rfl rfl rfl rfl ?_
  refine ec_ rfl rfl rfl rfl ?_
  refine ec_ rfl rfl rfl rfl ?_
  refine d_ (ci_ rfl rfl) rfl ?_
  refine d_ (W_ rfl) rfl ?_
  refine aa_ ?_
  refine G_ rfl ?_
  refine X_ ?_
  have hM:Mat ls p S (k:Int):=jn_ ha1 (by unfold gv_;omega)
  refine gf_ (ι:={s':σ // lst s'=lst s++[(k:Int)]}) (fun _=>[(0,.func (.yield lq) #[] #[]),(1,zp_ bp 0),(3,zp_ bl 0),(7,.map (some b1)),(21,.int .i64 (List.length Uq:Int)),(22,.int .i64 (i:Int)),(35,.slice lad (List.length ls) lcap),(36,.int .i64 (List.length ls:Int)),(37,.int .i64 (k:Int)),(66,.bool false)]) (fun z=>((b2,.cells #[.int .i64 (Ax.kind a1),.bool (Ax.opn a1),.int .i64 (Con.kind (Ax.left a1)),str (Con.name (Ax.left a1)),.int .i64 (Con.lo (Ax.left a1)),.int .i64 (Con.hi (Ax.left a1)),.slice (Con.ad (Ax.left a1)) (List.length (Con.parts (Ax.left a1))) (Con.cap (Ax.left a1)),.int .i64 (Con.kind (Ax.right a1)),str (Con.name (Ax.right a1)),.int .i64 (Con.lo (Ax.right a1)),.int .i64 (Con.hi (Ax.right a1)),.slice (Con.ad (Ax.right a1)) (List.length (Con.parts (Ax.right a1))) (Con.cap (Ax.right a1)),.slice (Ax.ad a1) (List.length (Ax.roles a1)) (Ax.cap a1),str (Ax.role a1),str (Ax.a a1),str (Ax.b a1)] 48 (0,0))::((b1,.map es3 c3)::(Gj z.1)))) (fun _=>[bi_ bp (.cells #[.slice ad (List.length p) cap] 54 (0,0)),bi_ bs (.cells #[.slice sad (List.length S) scap] 23 (0,0)),bi_ bl (.cells #[.slice lad (List.length ls) lcap] 22 (0,0)),al_ ad (List.flatMap Pc.cells p),al_ sad (List.flatMap aE_ S),dw_ lad ls,Fx,Fy]) ?_ ?_
  ·refine bh_ ?_
   refine aq_ ad_ (t_ rfl) rfl rfl ?_
   refine aq_ ad_ (t_ rfl) rfl rfl ?_
   refine fS_ ad_ rfl rfl rfl rfl ?_
   refine fS_ ad_ rfl rfl rfl rfl ?_
   refine fS_ ad_ rfl rfl rfl rfl ?_
   refine aq_ ad_ (ci_ rfl rfl) rfl rfl ?_
   refine aq_ ad_ (t_ rfl) rfl rfl ?_
   refine cx_ ad_ rfl rfl ?_
   refine aq_ ad_ (t_ rfl) rfl rfl ?_
   refine cx_ ad_ rfl rfl ?_
   refine aq_ ad_ (t_ rfl) rfl rfl ?_
   refine cx_ ad_ rfl rfl ?_
   refine eO_ (hY s (k:Int) ⟨by rw[hls];have:=hS_ (l:=ls) (p:=p) (S:=S) k;omega,by omega,by omega⟩) rfl rfl (c_ M_) zf rfl fun z=>?_
   refine cx_ ad_ rfl rfl ?_
   refine aq_ ad_ (bb_ rfl) rfl rfl ?_
   refine aq_ ad_ (ci_ rfl rfl) rfl rfl ?_
   refine bW_ ?_
   refine de_ rfl ?_
   exact dE_ z zl zp zh
  rintro ⟨s',hs'⟩
  dsimp only
  refine G_ rfl ?_
  refine aW_ rfl ?_
  refine bt_ ?_
  refine G_ rfl ?_
  refine I_ ?_
  refine d_ (aT_ rfl rfl rfl (bK_ (by omega) (by omega))) rfl ?_
  refine d_ (t_ rfl) rfl ?_
  refine aa_ ?_
  refine bJ_ rfl ?_
  exact J_ ⟨(k+1,s'),hla1,(by rw[jo_ hM,← hls];exact hs')⟩ (by dsimp only;omega) zl zp zh
 replace hr1:=zdt hr1
 have hlw1:i<List.length Uq:=by omega
 obtain⟨w1,hw1⟩:∃ e0,Uq[i]? = some e0:=⟨_,List.getElem?_eq_getElem hlw1⟩
 have hmw1:w1∈Uq:=List.mem_of_getElem? hw1
 have hlx1:i<List.length p:=by have:=hRR.ul;omega
 obtain⟨x1,hx1⟩:∃ e0,p[i]? = some e0:=⟨_,List.getElem?_eq_getElem hlx1⟩
 have hmx1:x1∈p:=List.mem_of_getElem? hx1
 refine bg_ rfl ?_
 refine bt_ ?_
 refine G_ rfl ?_
 refine X_ ?_
 refine cy_ ?_
 refine X_ ?_
 refine I_ ?_
 refine d_ (t_ rfl) rfl ?_
 refine d_ (ii_ hrU Tryz.runUnderlying79 Tryz.sizeOf4 rfl rfl (by omega) (by omega)) rfl ?_
 refine d_ (pZ_ hrU zp Tryz.isAgg4 rfl (u_ nl_ hw1 0 _ rfl)) rfl ?_
 refine d_ (W_ rfl) rfl ?_
 refine d_ (W_ rfl) rfl ?_
 refine aa_ ?_
 refine G_ rfl ?_
 refine X_ ?_
 refine I_ ?_
 refine d_ (t_ rfl) rfl ?_
 refine aa_ ?_
 refine G_ rfl ?_
 cases w1
 ·refine aW_ rfl ?_
  refine bt_ ?_
  refine G_ rfl ?_
  refine I_ ?_
  refine d_ (aT_ rfl rfl rfl (bK_ (by omega) (by omega))) rfl ?_
  refine d_ (t_ rfl) rfl ?_
  refine aa_ ?_
  refine bJ_ rfl ?_
  exact J_ ⟨(i+1,es3,c3,q),hlw1,hE3,hq.miss hw1⟩ (by dsimp only;omega) zl zp zh
 refine bg_ rfl ?_
 refine I_ ?_
 refine d_ (t_ rfl) rfl ?_
 refine d_ (cp_ qN_ rfl zf rfl) rfl ?_
 refine d_ (t_ rfl) rfl ?_
 refine d_ (L_ q_ F_ rfl rfl (fun v _ h=>y_ (n:=10) Pc.cells_len (by decide) (by exact h.2.2.2.1) hx1) (by omega) (by first|omega|(simp;done))) rfl ?_
 refine d_ (iD_ cw_ rfl rfl rfl ao_) rfl ?_
 refine d_ (ba_ (ad:=ad) aS_ rfl zf (u_ Pc.cells_len hx1 9 _ rfl)) rfl ?_
 refine ji_ (k:=x1.frm) 0 qI_ (.inr rfl) Tryz.runUnderlying134 rfl rfl rfl rfl hE3 fun ej1 cj1 hj1=>?_
 refine aa_ ?_
 refine G_ rfl ?_
 refine I_ ?_
 refine d_ (aT_ rfl rfl rfl (bK_ (by omega) (by omega))) rfl ?_
 refine d_ (t_ rfl) rfl ?_
 refine aa_ ?_
 refine bJ_ rfl ?_
 exact J_ ⟨(i+1,ej1,cj1,(if x1.frm∈q then q else q++[x1.frm])),hlw1,hj1,hq.hit hx1 hw1⟩ (by dsimp only;omega) zl zp zh
end Go.Proofs.YtamklbgaipakfaaGreatDoor
namespace Go.Proofs.YtamklbgaipakfaaGreatDoor
open Go Go.Sx Go.Proofs
attribute [local irreducible] Code.wp wpList wpAnyH
open Go.Vs
theorem rt_ {c d e:Nat×Obj} {Q:Hp}:(c::(Q++[d,e])).Perm (e::c::(Q++[d])):=by
  have h1:(c::(Q++[d,e]))=(c::(Q++[d]))++[e]:=by simp
  rw[h1];exact List.perm_append_comm
theorem wf_ {c d:Nat×Obj} {Q:Hp}:(c::(Q++[d])).Perm (Q++[c,d]):=by
  have h1:Q++[c,d]=(Q++[c])++[d]:=by simp
  rw[h1]
  exact List.Perm.append_right _ (show ([c]++Q).Perm _ from List.perm_append_comm)
theorem nD_ {H A B C G:Hp} {b:Nat×Obj} (h:H.Perm ((b::(A++(B++C)))++G)):H.Perm ((b::A)++B++(C++G)):=by simpa [List.append_assoc] using h
def ge_ (S:List Str):Bool:=decide (S.length≤16384)&&S.all aM_
def gC_ (l:List Ax) (p:List Pc) (er:Int) (S:List Str):List Int×Int:=if er≠0 then ([],er) else if ge_ S=false then ([],1) else (eC_ l p S l.length,0)
theorem tb_ (ls:List Ax) (lad:Option Addr) (lcap:Nat) (p:List Pc) (ad:Option Addr) (cap:Nat) (S:List Str) (sad:Option Addr) (scap:Nat) (bp bs bl:Nat) (hp:p.length≤100000000) (hS:S.length≤100000000) (hll:ls.length≤100000000):Tri Tryz.prog 79 #[.slice none 0 0,.func (.func 80) #[] #[zp_ bp 0,zp_ bs 0,zp_ bl 0]] [] [bi_ bp (.cells #[.slice ad (List.length p) cap] 54 (0,0)),bi_ bs (.cells #[.slice sad (List.length S) scap] 23 (0,0)),bi_ bl (.cells #[.slice lad (List.length ls) lcap] 22 (0,0)),al_ ad (List.flatMap Pc.cells p),al_ sad (List.flatMap aE_ S),dw_ lad ls] (fun y:{y:Value×Hp×List Int // aL_ 3 1 y.1 y.2.2.length (y.2.2.flatMap ew_) y.2.1∧y.2.2=(eC_ ls p S (List.length ls))}=>y.1.1) (fun y=>y.1.2.1) (fun _=>[]):=by
 refine eZ_ Tryz.func79 rfl rfl Tryz.ntmps79 rfl fun v0=>?_
 refine Zz 2 ?_
 refine U_ rfl rfl fun b1=>Zz 10 ?_
 refine bx_ [(2,zp_ b1 0),(6,.func (.func 80) #[] #[zp_ bp 0,zp_ bs 0,zp_ bl 0])] zl ?_
 refine hO_ [bi_ bp (.cells #[.slice ad (List.length p) cap] 54 (0,0)),bi_ bs (.cells #[.slice sad (List.length S) scap] 23 (0,0))] (σ:={y:Value×Hp×List Int // aL_ 3 1 y.1 y.2.2.length (y.2.2.flatMap ew_) y.2.1}) (α:=Int) (xv:=fun x=>.int .i64 x) (good:=fun s x=>s.1.2.2.length<100000000∧0≤x∧x<(List.length ls:Int)) (nx:=fun x s s'=>s'.1.2.2=s.1.2.2++[x]) (Rc:=fun s=>s.1.2.2=(eC_ ls p S (List.length ls))) (Γi:=[bi_ bp (.cells #[.slice ad (List.length p) cap] 54 (0,0)),bi_ bs (.cells #[.slice sad (List.length S) scap] 23 (0,0)),bi_ bl (.cells #[.slice lad (List.length ls) lcap] 22 (0,0)),al_ ad (List.flatMap Pc.cells p),al_ sad (List.flatMap aE_ S),dw_ lad ls,bi_ bp (.cells #[.slice ad (List.length p) cap] 54 (0,0)),bi_ bs (.cells #[.slice sad (List.length S) scap] 23 (0,0))]) (Hj:=fun y=>(b1,.cells #[y.1.1] 27 (0,0))::y.1.2.1) (Hc:=[]) (caps:=[zp_ bp 0,zp_ bs 0,zp_ bl 0]) ⟨(.slice none 0 0,[],[]),aL_.nil _ _⟩ rfl (.refl _) zf ?_ ?_ ?_
 ·rintro l D rec hpa hst hpe ht hasg hbody ⟨⟨sv,Hq,L⟩,hr⟩ x ⟨hx1,hx2,hx3⟩
  dsimp only at hr hx1 ⊢
  refine hI_ (ι:=Unit) (Hj:=fun y:{y:Value×Hp×List Int // aL_ 3 1 y.1 y.2.2.length (y.2.2.flatMap ew_) y.2.1}=>(b1,.cells #[y.1.1] 27 (0,0))::y.1.2.1) (s:=⟨(sv,Hq,L),hr⟩) (ok:=fun s'=>s'.1.2.2=L++[x]) (Γ:=[bi_ bp (.cells #[.slice ad (List.length p) cap] 54 (0,0)),bi_ bs (.cells #[.slice sad (List.length S) scap] 23 (0,0))]) (fun _=>[(2,zp_ b1 0),(5,.int .i64 x)]) (fun _=>(b1,.cells #[sv] 27 (0,0))::Hq) hpa hst hpe ht rfl ?_ ?_
  ·intro n v0 H0 HL
   rw[hasg]
   dsimp only
   refine dP_.2 (C_ (H':=(b1,.cells #[sv] 27 (0,0))::(Hq++HL)) (by simp) (dP_.1 ?_))
   refine bh_ ?_
   refine aq_ (bv_ _) (W_ rfl) rfl rfl ?_
   refine bW_ ?_
   refine de_ rfl ?_
   exact dE_ () zl (F:=[]) (by rw[List.append_nil];exact .refl _) zh
  intro n v0 H0 HL _
  rw[hbody]
  refine dP_.2 (C_ (H':=(b1,.cells #[sv] 27 (0,0))::(Hq++HL)) (by simp) (dP_.1 ?_))
  refine gg_ ?_
  refine bh_ ?_
  refine aq_ (bv_ _) (bl_ 0 Tryz.isAgg27 rfl rfl rfl) rfl rfl ?_
  refine aq_ (bv_ _) (t_ rfl) rfl rfl ?_
  refine mO_ (bv_ _) ac_ ao_ bq_ rfl rfl rfl rfl rfl rfl fun b3=>?_
  refine ks_ (bv_ _) (news:=List.flatMap ew_ [x]) rF_ hr rfl rfl zp rfl (bM_ 0 rfl) (fun u hu=>bd_ pB_ hu) (by simp only[maxLen];omega) (by omega) rfl fun sv1 Hr1 hr1=>?_
  have hq1:=zsa hr1
  refine pp_ (aB_ (i_ e_) (bD_ (i_ e_))) ?_
  refine iz_ (bv_ _) 1 hq1 Tryz.sizeOf27 rfl rfl rfl rfl ?_
  refine bW_ ?_
  refine de_ rfl ?_
  exact hl_ ⟨(sv1,Hr1,(L++[x])),hq1⟩ rfl (nD_ (p_ (c_ e_) (s_ (c_ o_) (s_ M_ e_))))
 ·intro l Gj hY
  exact tW_ (lst:=fun y=>y.1.2.2) ls lad lcap p ad cap S sad scap bp bs bl (bi_ bp (.cells #[.slice ad (List.length p) cap] 54 (0,0))) (bi_ bs (.cells #[.slice sad (List.length S) scap] 23 (0,0))) (fun s x h=>hY s x h) ⟨(.slice none 0 0,[],[]),aL_.nil _ _⟩ rfl hp hS hll
 rintro ⟨⟨sv,Hq,L⟩,hr⟩ hL D l r
 dsimp only at hL hr ⊢
 refine dm_ rfl ?_
 refine fD_ ?_
 refine bh_ ?_
 refine aq_ ad_ (bl_ 0 Tryz.isAgg27 rfl rfl rfl) rfl rfl ?_
 refine aq_ ad_ (W_ rfl) rfl rfl ?_
 refine bW_ ?_
 refine dm_ rfl ?_
 refine gT_ ?_
 exact mG_ (G:=(b1,.cells #[sv] 27 (0,0))::(Hq++[(l,.loop r)])) ⟨(sv,Hq,L),hr,hL⟩ (fun a v h1 h2=>by have e:=h1.val 4 sv rfl;simp[results,Tryz.results79,e]) (by unfold HLp;simp only[List.cons_append,List.append_assoc,List.nil_append];exact rt_) ⟨_,wf_⟩ rfl
theorem qU_ (ls:List Ax) (lad:Option Addr) (lcap:Nat) (p:List Pc) (ad:Option Addr) (cap:Nat) (S:List Str) (sad:Option Addr) (scap:Nat) (bp bs bl:Nat) (hp:p.length≤100000000) (hS:S.length≤100000000) (hll:ls.length≤100000000):Tri Tryz.prog 37 #[.func (.func 80) #[] #[zp_ bp 0,zp_ bs 0,zp_ bl 0]] [] [bi_ bp (.cells #[.slice ad (List.length p) cap] 54 (0,0)),bi_ bs (.cells #[.slice sad (List.length S) scap] 23 (0,0)),bi_ bl (.cells #[.slice lad (List.length ls) lcap] 22 (0,0)),al_ ad (List.flatMap Pc.cells p),al_ sad (List.flatMap aE_ S),dw_ lad ls] (fun y:{y:Option Addr×Nat // ((eC_ ls p S (List.length ls))).length≤y.2∧y.2≤maxLen∧(y.1=none→y.2=0)}=>.slice y.1.1 ((eC_ ls p S (List.length ls))).length y.1.2) (fun _=>[]) (fun y=>[al_ y.1.1 (((eC_ ls p S (List.length ls))).flatMap ew_)]):=by
  refine l_ Tryz.func37 rfl rfl Tryz.ntmps37 rfl fun v0=>?_
  refine Zz 8 ?_
  refine f_ (tb_ ls lad lcap p ad cap S sad scap bp bs bl hp hS hll) rfl g_ zf rfl fun⟨⟨sv1,Hq1,L1⟩,hr1,hL1⟩=>?_
  dsimp only
  dsimp only at hr1 hL1 ⊢
  subst hL1
  simp only[List.append_nil]
  refine Zz 4 ?_
  refine cr_ hr1 aZ_ fun ad2 cp2 had2 hcad2 hmad2 hzad2=>?_
  exact N_ Tryz.results37 ⟨(ad2,cp2),hcad2,hmad2,hzad2⟩ (cb_ rfl had2) g_ zf
theorem oC_ (s:Str) (hs:s.length≤17592186044414):Fn0 Tryz.prog 78 #[str s] (.bool (aM_ s)):=by
 refine l_ Tryz.func78 rfl rfl Tryz.ntmps78 rfl fun v0=>?_
 refine Zz 8 ?_
 refine d_ (do_ T_ rfl) rfl (Zi 8 (fun hr1=>?_) fun hr1=>?_)
 ·refine Zi 4 (fun hr2=>?_) fun hr2=>?_
  ·refine Zi 8 (fun hr3=>?_) fun hr3=>?_
   ·refine Zi 19 (fun hr4=>?_) fun hr4=>?_
    ·refine Zz 21 ?_
     refine f_ (cQ_ _ (by first|omega|(simp;omega))) rfl g_ zt rfl fun _=>?_
     refine D_ (aY_ (aI_ rfl rfl) (congrArg Value.bool (kp_ _))) rfl fun r5 hr5=>Zz 4 ?_
     exact N_ dr_ () (m_ rfl (by unfold aM_;(repeat (any_goals split))<;>first|rfl|(simp_all;done)|(exfalso;simp_all;omega)|(exfalso;simp_all;done))) (.refl _) zt
    exfalso;omega
   obtain⟨c,hc⟩:∃ c,s[0]? = some c:=⟨_,List.getElem?_eq_getElem (by omega)⟩
   obtain⟨e,he⟩:∃ e,s[s.length - 1]? = some e:=⟨_,List.getElem?_eq_getElem (by omega)⟩
   have hc123 : (s[0]? = some 123) ↔ ((c.toNat : Int) = 123) := by
                               rw[hc];simp only[Option.some.injEq];exact⟨fun q=>by subst q;rfl,fun q=>UInt8.toNat_inj.1 (by show c.toNat=123;omega)⟩
   have he125 : (s[s.length - 1]? = some 125) ↔ ((e.toNat : Int) = 125) := by
                               rw[he];simp only[Option.some.injEq];exact⟨fun q=>by subst q;rfl,fun q=>UInt8.toNat_inj.1 (by show e.toNat=125;omega)⟩
   have hc60 : (s[0]? = some 60) ↔ ((c.toNat : Int) = 60) := by
                               rw[hc];simp only[Option.some.injEq];exact⟨fun q=>by subst q;rfl,fun q=>UInt8.toNat_inj.1 (by show c.toNat=60;omega)⟩
   have he62 : (s[s.length - 1]? = some 62) ↔ ((e.toNat : Int) = 62) := by
                               rw[he];simp only[Option.some.injEq];exact⟨fun q=>by subst q;rfl,fun q=>UInt8.toNat_inj.1 (by show e.toNat=62;omega)⟩
   refine Zz 4 ?_
   refine d_ (cu_ T_ rfl rfl (by decide) hc) rfl (aF_ rfl rfl ?_)
   refine Zi 0 (fun hr6=>?_) fun hr6=>?_
   ·refine Zi 15 (fun hr7=>?_) fun hr7=>?_
    ·refine Zz 21 ?_
     refine f_ (cQ_ _ (by first|omega|(simp;omega))) rfl g_ zt rfl fun _=>?_
     refine D_ (aY_ (aI_ rfl rfl) (congrArg Value.bool (kp_ _))) rfl fun r8 hr8=>Zz 4 ?_
     exact N_ dr_ () (m_ rfl (by unfold aM_;(repeat (any_goals split))<;>first|rfl|(simp_all;done)|(exfalso;simp_all;omega)|(exfalso;simp_all;done))) (.refl _) zt
    refine Zz 4 ?_
    refine d_ (cu_ T_ rfl rfl (by decide) hc) rfl (aF_ rfl rfl ?_)
    refine Zi 0 (fun hr9=>?_) fun hr9=>?_
    ·refine Zz 17 ?_
     refine f_ (cQ_ _ (by first|omega|(simp;omega))) rfl g_ zt rfl fun _=>?_
     refine D_ (aY_ (aI_ rfl rfl) (congrArg Value.bool (kp_ _))) rfl fun r10 hr10=>Zz 4 ?_
     exact N_ dr_ () (m_ rfl (by unfold aM_;(repeat (any_goals split))<;>first|rfl|(simp_all;done)|(exfalso;simp_all;omega)|(exfalso;simp_all;done))) (.refl _) zt
    refine Zz 9 ?_
    refine d_ (cu_ T_ rfl rfl (by omega) (show s[((s.length:Int) - 1).toNat]? = some e by rw[show ((s.length:Int) - 1).toNat=s.length - 1 by omega];exact he)) rfl ?_
    refine aF_ rfl rfl ?_
    refine Zi 0 (fun hr11=>?_) fun hr11=>?_
    ·refine Zz 10 ?_
     refine f_ (cQ_ _ (by first|omega|(simp;omega))) rfl g_ zt rfl fun _=>?_
     refine D_ (aY_ (aI_ rfl rfl) (congrArg Value.bool (kp_ _))) rfl fun r12 hr12=>Zz 4 ?_
     exact N_ dr_ () (m_ rfl (by unfold aM_;(repeat (any_goals split))<;>first|rfl|(simp_all;done)|(exfalso;simp_all;omega)|(exfalso;simp_all;done))) (.refl _) zt
    refine Zz 11 ?_
    exact N_ dr_ () (m_ rfl (by unfold aM_;(repeat (any_goals split))<;>first|rfl|(simp_all;done)|(exfalso;simp_all;omega)|(exfalso;simp_all;done))) (.refl _) zt
   refine Zz 9 ?_
   refine d_ (cu_ T_ rfl rfl (by omega) (show s[((s.length:Int) - 1).toNat]? = some e by rw[show ((s.length:Int) - 1).toNat=s.length - 1 by omega];exact he)) rfl ?_
   refine aF_ rfl rfl ?_
   refine Zi 0 (fun hr13=>?_) fun hr13=>?_
   ·refine Zi 8 (fun hr14=>?_) fun hr14=>?_
    ·refine Zz 21 ?_
     refine f_ (cQ_ _ (by first|omega|(simp;omega))) rfl g_ zt rfl fun _=>?_
     refine D_ (aY_ (aI_ rfl rfl) (congrArg Value.bool (kp_ _))) rfl fun r15 hr15=>Zz 4 ?_
     exact N_ dr_ () (m_ rfl (by unfold aM_;(repeat (any_goals split))<;>first|rfl|(simp_all;done)|(exfalso;simp_all;omega)|(exfalso;simp_all;done))) (.refl _) zt
    refine Zz 4 ?_
    refine d_ (cu_ T_ rfl rfl (by decide) hc) rfl (aF_ rfl rfl ?_)
    refine Zi 0 (fun hr16=>?_) fun hr16=>?_
    ·refine Zz 17 ?_
     refine f_ (cQ_ _ (by first|omega|(simp;omega))) rfl g_ zt rfl fun _=>?_
     refine D_ (aY_ (aI_ rfl rfl) (congrArg Value.bool (kp_ _))) rfl fun r17 hr17=>Zz 4 ?_
     exact N_ dr_ () (m_ rfl (by unfold aM_;(repeat (any_goals split))<;>first|rfl|(simp_all;done)|(exfalso;simp_all;omega)|(exfalso;simp_all;done))) (.refl _) zt
    refine Zz 9 ?_
    refine d_ (cu_ T_ rfl rfl (by omega) (show s[((s.length:Int) - 1).toNat]? = some e by rw[show ((s.length:Int) - 1).toNat=s.length - 1 by omega];exact he)) rfl ?_
    refine aF_ rfl rfl ?_
    refine Zi 0 (fun hr18=>?_) fun hr18=>?_
    ·refine Zz 10 ?_
     refine f_ (cQ_ _ (by first|omega|(simp;omega))) rfl g_ zt rfl fun _=>?_
     refine D_ (aY_ (aI_ rfl rfl) (congrArg Value.bool (kp_ _))) rfl fun r19 hr19=>Zz 4 ?_
     exact N_ dr_ () (m_ rfl (by unfold aM_;(repeat (any_goals split))<;>first|rfl|(simp_all;done)|(exfalso;simp_all;omega)|(exfalso;simp_all;done))) (.refl _) zt
    refine Zz 11 ?_
    exact N_ dr_ () (m_ rfl (by unfold aM_;(repeat (any_goals split))<;>first|rfl|(simp_all;done)|(exfalso;simp_all;omega)|(exfalso;simp_all;done))) (.refl _) zt
   refine Zz 10 ?_
   refine d_ (fo_ (i:=1) (j:=s.length - 1) (kl:=.i64) (kh:=.i64) T_ rfl rfl (show _=some (Value.int .i64 ((s.length - 1:Nat):Int)) by rw[show ((s.length - 1:Nat):Int)=(s.length:Int) - 1 by omega];rfl) (by omega) (by omega)) rfl ?_
   refine f_ (cQ_ _ (by first|omega|(simp;omega))) rfl g_ zt rfl fun _=>?_
   refine D_ (aY_ (aI_ rfl rfl) (congrArg Value.bool (kp_ _))) rfl fun r20 hr20=>Zz 4 ?_
   exact N_ dr_ () (m_ rfl (by unfold aM_;(repeat (any_goals split))<;>first|rfl|(simp_all;done)|(exfalso;simp_all;omega)|(exfalso;simp_all;done))) (.refl _) zt
  refine Zz 11 ?_
  exact N_ dr_ () (m_ rfl (by unfold aM_;(repeat (any_goals split))<;>first|rfl|(simp_all;done)|(exfalso;simp_all;omega)|(exfalso;simp_all;done))) (.refl _) zt
 refine Zz 14 ?_
 exact N_ dr_ () (m_ rfl (by unfold aM_;(repeat (any_goals split))<;>first|rfl|(simp_all;done)|(exfalso;simp_all;omega)|(exfalso;simp_all;done))) (.refl _) zt
theorem uR_ (S:List Str) (sad:Option Addr) (scap:Nat) (hSl:∀ s∈S,s.length≤100000):Tri Tryz.prog 36 #[.slice sad (List.length S) scap] [] [al_ sad (List.flatMap aE_ S)] (fun _:Unit=>.bool (ge_ S)) (fun _=>[]) (fun _=>[]):=by
 refine l_ Tryz.func36 rfl rfl Tryz.ntmps36 rfl fun v0=>?_
 refine Zi 10 (fun hr1=>?_) fun hr1=>?_
 ·refine Zz 14 ?_
  refine ai_ (ι:={y:Nat // y≤List.length S∧kk_ S y (fun _ s=>aM_ s=true)}) (fun y=>[(2,.bool false),(8,.slice sad (List.length S) scap),(9,.int .i64 (List.length S:Int)),(10,.int .i64 (y.1:Int))]) (fun y=>([])) (fun y=>[al_ sad (List.flatMap aE_ S)]) (fun y=>List.length S - y.1) ⟨(0:Nat),by simp,kk_.zero⟩ zl g_ zh ?_
  rintro ⟨i,hi_i,hva⟩
  dsimp only at hi_i hva ⊢
  refine Zi 2 (fun hr2=>?_) fun hr2=>?_
  ·refine Zz 12 ?_
   exact N_ Tryz.results36 () (m_ rfl (by unfold ge_;rw[List.all_eq_true.2 (hva.all (by omega))];simp;omega)) g_ zt
  have hls1:i<List.length S:=by omega
  obtain⟨s1,hs1⟩:∃ e0,S[i]? = some e0:=⟨_,List.getElem?_eq_getElem hls1⟩
  have hms1:s1∈S:=List.mem_of_getElem? hs1
  refine Zz 18 ?_
  refine aj_ (oC_ s1 (by have:=hSl _ hms1;omega)) rfl g_ zt rfl fun r3 hr3=>?_
  refine d_ (bb_ rfl) rfl (Zz 2 ?_)
  cases r3
  ·refine Zz 7 ?_
   exact N_ Tryz.results36 () (m_ rfl (by unfold ge_;symm;rw[Bool.and_eq_false_iff];right;rw[List.all_eq_false];exact⟨s1,hms1,by simpa using hr3⟩)) g_ zt
  refine Zz 8 ?_
  exact J_ ⟨i+1,hls1,hva.step hs1 hr3⟩ (by dsimp only;omega) zl g_ zh
 refine Zz 9 ?_
 exact N_ Tryz.results36 () (m_ rfl (by unfold ge_;symm;rw[Bool.and_eq_false_iff];left;rw[decide_eq_false_iff_not];omega)) g_ zt
end Go.Proofs.YtamklbgaipakfaaGreatDoor
namespace Go.Vs
open Go Go.Sx Go.Proofs.YtamklbgaipakfaaGreatDoor
def mg_ (p:List Pc) (er:Int) (v:Bool) (S X:List Str) (e:Int):Prop :=
  (er≠0∧X=[]∧e=er)∨(er=0∧v=false∧X=[]∧e=1)∨(er=0∧v=true∧e=0∧SrS X∧∀ n,n∈X↔Rch p S ⟨1,n⟩)
theorem nv_:∀ {l m:List Str},SrS l→SrS m→(∀ x,x∈l↔x∈m)→l=m
 | [],[],_,_,_=>rfl
 | [],y::m,_,_,h=>absurd ((h y).2 List.mem_cons_self) (by simp)
 | x::l,[],_,_,h=>absurd ((h x).1 List.mem_cons_self) (by simp)
 | x::l,y::m,h1,h2,h=>by
   unfold SrS at h1 h2
   rw[List.pairwise_cons]at h1 h2
   have e:x=y:=by
     rcases List.mem_cons.1 ((h x).1 List.mem_cons_self) with e|e
     · exact e
     · rcases List.mem_cons.1 ((h y).2 List.mem_cons_self) with e2|e2
       · exact e2.symm
       · exact absurd (List.lt_trans (h2.1 x e) (h1.1 y e2)) (gM_ _)
   subst e
   rw[nv_ h1.2 h2.2 fun z=>?_]
   constructor
   · intro hz
     rcases List.mem_cons.1 ((h z).1 (List.mem_cons_of_mem _ hz)) with e|e
     · subst e;exact absurd (h1.1 _ hz) (gM_ _)
     · exact e
   · intro hz
     rcases List.mem_cons.1 ((h z).2 (List.mem_cons_of_mem _ hz)) with e|e
     · subst e;exact absurd (h2.1 _ hz) (gM_ _)
     · exact e
theorem mg_.uniq {p:List Pc} {er:Int} {v:Bool} {S X Y:List Str} {e f:Int} (h:mg_ p er v S X e) (g:mg_ p er v S Y f):X=Y∧e=f:=by
 rcases h with⟨h1,h2,h3⟩|⟨h1,h2,h3,h4⟩|⟨h1,h2,h3,h4,h5⟩<;>rcases g with⟨g1,g2,g3⟩|⟨g1,g2,g3,g4⟩|⟨g1,g2,g3,g4,g5⟩
 ·exact⟨h2.trans g2.symm,h3.trans g3.symm⟩
 ·exact absurd g1 h1
 ·exact absurd g1 h1
 ·exact absurd h1 g1
 ·exact⟨h3.trans g3.symm,h4.trans g4.symm⟩
 ·rw[h2]at g2;cases g2
 ·exact absurd h1 g1
 ·rw[h2]at g2;cases g2
 exact⟨nv_ h4 g4 fun n=>(h5 n).trans (g5 n).symm,h3.trans g3.symm⟩
abbrev fb_ (l:List Str):List Str:=l.mergeSort fun x y=>decide (x≤y)
end Go.Vs
