/-
  Part of the proof of the law ModuleShrinks over this seat: the small logic, the data, the contracts of functions (no condition).
-/
import Derived.Test.YtamklbgaipakfaaGreatDoorQModuleShrinks7
import Derived.Test.YtamklbgaipakfaaGreatDoorQModuleShrinks8
import Derived.Test.YtamklbgaipakfaaGreatDoorQModuleShrinks5
import Derived.Test.YtamklbgaipakfaaGreatDoorQModuleShrinks3
import Derived.Shelf.SlSortCmp.NoneTotal
import Derived.Test.YtamklbgaipakfaaGreatDoorProg
import Derived.OrdersIn
set_option linter.unusedVariables false
set_option linter.unusedSimpArgs false
set_option linter.unusedSectionVars false
set_option maxHeartbeats 1000000
namespace Go.Sx
open Go
section
variable {P:Program} {N:Nf} {v0:Vw} {H0:Hp} {R:Exit→Act→World→Prop} {K:List Kt} {fr:Fr} {H F:Hp} {Γ:List Fct} {ops:Array Oper} {l:List Oper} {d:Nat} {ty:TypeId} {ps:String} {af:Array Edge} {e:TypeId} {sz n:Nat} {sv:Value} {xs:List Value} {Hr:Hp}
theorem sT_ (z:List Value) (hz:0<z.length) (n:Nat):madeCells z.toArray (n*z.length)=(ha_ z n).toArray:=hv_ z hz n
theorem iZ_ {t:TypeId} {x y:Operand} {by':Nat} {z:Value} (ht:P.underlying t=some (.slice e)) (hi:(P.info? e).map (fun i=>(i.zero,i.size,i.bytes))=some (some z,sz,by')) (hzs:z.cells.toList.length=sz) (hsz:0<sz) (hx:Fr.ev fr x=some (.int .i64 (n:Int))) (hy:Fr.ev fr y=some (.int .i64 (n:Int)))
    (hb:by'*n≤281474976710656) (h63:n≤maxLen) (hN:Nat.blt d N.n=true)
    (hk:∀ sv Hr,ar_ e sz sv n (ha_ z.cells.toList n) Hr→Ops P R N v0 H0 ops l K ((d,sv)::fr) (Hr++H) Γ):Ops P R N v0 H0 ops (⟨some d,.makeSlice t x y,ty,ps,af,none⟩::l) K fr H Γ:=by
  refine gT_ (x:=fun b=>.slice (some ⟨b,0,none⟩) n n) (o:=.cells (ha_ z.cells.toList n).toArray e (0,0)) hN (fun a v h1 _ _=>?_) (fun b=>hk _ [(b,.cells (ha_ z.cells.toList n).toArray e (0,0))] ⟨?_,.inr ⟨b,n,(ha_ z.cells.toList n).toArray,rfl,rfl,Nat.le_refl _,h63,?_,?_⟩⟩)
  · cases h:P.info? e with
    | none=>rw[h]at hi;cases hi
    | some i =>
      rw[h]at hi
      simp only[Option.map_some,Option.some.injEq,Prod.mk.injEq]at hi
      have hb':(i.bytes:Int)*(n:Int)≤281474976710656:=by
        rw[hi.2.2]
        have h:((by'*n:Nat):Int)≤281474976710656:=by omega
        rwa [Int.natCast_mul]at h
      have hr:=run_make (P:=P) v.w t e i z ht h hi.1 .i64 .i64 (n:Int) (n:Int) (by omega) (Int.le_refl _) hb' (by simp only[maxLen]at h63;omega)
      have hm:=sT_ z.cells.toList (by omega) n
      rw[hzs,Array.toArray_toList]at hm
      rw[hi.2.1,Int.toNat_natCast,hm]at hr
      simp only[execOp,h1.ev hx,h1.ev hy]
      simp[hr]
  · rw[gl_,hzs]
  · simp only[List.size_toArray];rw[gl_,hzs]
  · rw[List.toList_toArray,List.take_of_length_le (by rw[gl_,hzs];exact Nat.le_refl _)]
theorem jE_ {α:Type} (f:α→List Value) (z:α):∀ n,ha_ (f z) n=(List.replicate n z).flatMap f
  | 0=>rfl
  | n+1=>by rw[ha_,List.replicate_succ,List.flatMap_cons,jE_ f z n]
end
end Go.Sx
namespace Go.Vs
open Go Go.Sx
def Ky.cells (k:Ky):List Value:=[.int .i64 k.kind,str k.role,str k.atom]
theorem Ky.cells_len (k:Ky):k.cells.length=3:=rfl
def Ky.val (k:Ky):Value:=.agg k.cells.toArray
def Ky.eqb (p q:Ky):Bool:=(p.kind==q.kind)&&((p.role==q.role)&&((p.atom==q.atom)&&true))
theorem Ky.eqb_eq (p q:Ky):p.eqb q=decide (p=q):=by
  rw[Bool.eq_iff_iff];cases p;cases q;simp[Ky.eqb]
theorem Fc.cells_one (p:Fc):p.cells.all Value.oneCell'=true:=rfl
end Go.Vs
namespace Go.Sx
open Go Go.Vs
structure Emt (P:Program) (tF:TypeId) where
  stp:Fc→List Fc→List Fc
  kof:List Fc→List Fc
  St:List Fc→List Fc→Hp→Prop
  fn:FuncId
  caps:List Value
  ef:Fct
  kb:Nat
  fb:Nat
  grows:Grows stp kof
  emit:∀ f nw fm H,St nw fm H→Tri P fn (f.val::caps).toArray H [ef] (fun _:{H':Hp // St (stp f nw) fm H'}=>.tuple #[]) (fun y=>y.1) (fun _=>[])
  known:∀ {nw fm H},St nw fm H→∃ es c,(kb,Obj.map es c)∈H∧SetE Fc.val es (kof nw)
  firm:∀ {nw fm H},St nw fm H→∃ es c q,(fb,Obj.map es c)∈H∧SetE Fc.val es q∧∀ f,f∈q↔f∈fm
  setf:∀ {nw fm H} (f:Fc),St nw fm H→∃ es c q Hr,H.Perm ((fb,Obj.map es c)::Hr)∧SetE Fc.val es q∧(∀ f,f∈q↔f∈fm)∧∀ es' c',SetE Fc.val es' (if f∈q then q else q++[f])→∃ H',St nw (f::fm) H'∧H'.Perm ((fb,Obj.map es' c')::Hr)
section
variable {P:Program} {N:Nf} {v0:Vw} {H0:Hp} {R:Exit→Act→World→Prop} {K:List Kt} {fr:Fr} {H:Hp} {Γ:List Fct}
variable {ops:Array Oper} {l:List Oper} {d:Nat} {ty:TypeId} {ps:String} {af:Array Edge} {tF:TypeId} {E:Emt P tF} {nw fm:List Fc} {Hs F:Hp}
end
structure EngB where
  g:Nat
  pb:Nat
  ab:Nat
  ub:Nat
  ob:Nat
  ib:Nat
  rb:Nat
  sb:Nat
  lad:Option Addr
  lcap:Nat
  lps:List Str
def EngB.cells (B:EngB) {P:Program} {tF:TypeId} (E:Emt P tF):List Value :=
  [.map (some B.pb),.slice B.lad B.lps.length B.lcap,.map (some E.kb),.func (.func E.fn) #[] E.caps.toArray,.map (some B.ab),.map (some B.ub),.map (some B.ob),.map (some B.ib),.map (some B.rb),.map (some B.sb),.map (some E.fb)]
end Go.Sx
namespace Go.Proofs.YtamklbgaipakfaaGreatDoor
open Go Go.Sx Go.Proofs
attribute [local irreducible] Code.wp wpList wpAnyH
open Go.Vs
theorem tu_:Elt Tryz.prog 54 58 10 128:=fo_ Tryz.underlying54 (z:=.agg #[.int .i64 0,str [],str [],str [],str [],str [],str [],.int .i64 0,.int .i64 0,.int .i64 0]) (by kernel_rfl) rfl (by decide)
theorem qs_:Elt Tryz.prog 23 9 1 16:=fo_ Tryz.underlying23 (z:=.string ⟨#[]⟩) (by kernel_rfl) rfl (by decide)
theorem nq_ (s:Str):(aJ_ s).all Value.oneCell'=true:=rfl
theorem if_ (s:Int):(ct_ s).all Value.oneCell'=true:=rfl
def gF (B:EngB) (E:Emt Tryz.prog 67):Fct:=bj_ B.g (.cells (B.cells E).toArray 125 (0,0))
end Go.Proofs.YtamklbgaipakfaaGreatDoor
namespace Go.Proofs.YtamklbgaipakfaaGreatDoor
open Go Go.Sx Go.Proofs
attribute [local irreducible] Code.wp wpList wpAnyH
open Go.Vs
structure NewE where
  g:Nat
  pb:Nat
  kb:Nat
  ab:Nat
  ub:Nat
  ob:Nat
  ib:Nat
  rb:Nat
  sb:Nat
  fb:Nat
  lv:Value
  hm:Hp
  hl:Hp
def NewE.ok (ps:List Pc) (y:NewE):Prop:=gk_ Ky.val Pc.cells 58 10 (pmOf ps) y.pb y.hm∧zR 9 1 aJ_ y.lv (uB_ ps) y.hl
def NewE.own (y:NewE):Hp:=(y.g,.cells #[.map (some y.pb),y.lv,.map (some y.kb),.nilFunc,.map (some y.ab),.map (some y.ub),.map (some y.ob),.map (some y.ib),.map (some y.rb),.map (some y.sb),.map (some y.fb)] 125 (0,0))::(y.kb,.map #[] 0)::(y.ab,.map #[] 0)::(y.ub,.map #[] 0)::(y.ob,.map #[] 0)::(y.ib,.map #[] 0)::(y.rb,.map #[] 0)::(y.sb,.map #[] 0)::(y.fb,.map #[] 0)::(y.hm++y.hl)
end Go.Proofs.YtamklbgaipakfaaGreatDoor
namespace Go.Proofs.YtamklbgaipakfaaGreatDoor
open Go Go.Sx Go.Proofs
attribute [local irreducible] Code.wp wpList wpAnyH
open Go.Vs
section
variable {N:Nf} {v0:Vw} {H0:Hp} {fr:Fr}
theorem nQ_ {k:Act→World→Prop} {F:Hp}:∀ (B:Hp) {H:Hp} {Γ:List Fct},H.Perm (B++F)→Ok N v0 H0 k fr F (B.reverse.map (fun p=>bj_ p.1 p.2)++Γ)→Ok N v0 H0 k fr H Γ
  | [],H,Γ,hH,h=>u_ hH h
  | (b,o)::B,H,Γ,hH,h=>by
    refine eD_ (bj_ b o) (F:=B++F) hH (fun _ h1 h2 _=>⟨h1,h2⟩) ?_
    refine nQ_ B (.refl _) ?_
    simpa using h
end
end Go.Proofs.YtamklbgaipakfaaGreatDoor
namespace Go.Proofs.YtamklbgaipakfaaGreatDoor
open Go Go.Sx Go.Proofs
attribute [local irreducible] Code.wp wpList wpAnyH
open Go.Vs
theorem rH_ {P:Program} (w:World) (d:Nat) (t e:TypeId) (a:Option Addr) (l c:Nat) (h:P.underlying t=some (.slice e)):(Op.equalIn (d+1) t (.slice a l c) (.slice none 0 0)).run P w=.ok a.isNone w:=by
  cases a<;>simp[Op.equalIn,run_underlying h]
theorem qq_ {P:Program} (w:World) (t e:TypeId) (a:Option Addr) (l c:Nat) (h:P.underlying t=some (.slice e)):(Op.equal t (.slice a l c) (.slice none 0 0)).run P w=.ok a.isNone w:=rH_ w 9999 t e a l c h
theorem na_ {P:Program} {N:Nf} {fr:Fr} {H:Hp} {Γ:List Fct} {ty t t' e:TypeId} {x y:Operand} {ad:Option Addr} {m c:Nat} (hu:P.underlying t=some (.slice e)) (hx:Fr.ev fr x=some (.slice ad m c)) (hy:Fr.ev fr y=some (.slice none 0 0)):Yld P N fr H Γ (.binOp .eql t x y t') ty (.bool (decide (ad=none))) :=
  fun a v h1 _ _ _ _ _=>by
    have he:decide (ad=none)=ad.isNone:=by cases ad<;>simp
    simp[execOp,h1.ev hx,h1.ev hy,eqGuard,binOp,qq_ v.w t e ad m c hu,he]
end Go.Proofs.YtamklbgaipakfaaGreatDoor
namespace Go.Proofs
open Go.Shelf
def Tryz.sortTr_ren:Go.Shelf.Ren:=⟨fun|6=>234|15=>90|14=>268|28=>176|29=>177|20=>282|21=>283|22=>284|23=>285|24=>286|25=>287|26=>288|27=>289|46=>311|47=>229|48=>230|49=>312|50=>313|57=>325|n=>n,fun|22=>221|24=>223|25=>267|3=>3|39=>145|0=>0|53=>217|55=>219|4=>4|46=>210|45=>209|50=>42|5=>5|9=>9|66=>261|70=>243|76=>296|77=>297|n=>n,fun|n=>n⟩
theorem Tryz.sortTr:Go.Proofs.SlLaysF0.n6 Tryz.prog Tryz.sortTr_ren:={
  mixed:=by kernel_rfl
  f6:=⟨Tryz.f234.name,by decide,Tryz.func234.trans (congrArg some (by kernel_rfl))⟩
  f14:=⟨Tryz.f268.name,by decide,Tryz.func268.trans (congrArg some (by kernel_rfl))⟩
  f15:=Tryz.func90.trans (congrArg some (by kernel_rfl))
  f20:=⟨Tryz.f282.name,by decide,Tryz.func282.trans (congrArg some (by kernel_rfl))⟩
  f21:=⟨Tryz.f283.name,by decide,Tryz.func283.trans (congrArg some (by kernel_rfl))⟩
  f22:=⟨Tryz.f284.name,by decide,Tryz.func284.trans (congrArg some (by kernel_rfl))⟩
  f23:=⟨Tryz.f285.name,by decide,Tryz.func285.trans (congrArg some (by kernel_rfl))⟩
  f24:=⟨Tryz.f286.name,by decide,Tryz.func286.trans (congrArg some (by kernel_rfl))⟩
  f25:=⟨Tryz.f287.name,by decide,Tryz.func287.trans (congrArg some (by kernel_rfl))⟩
  f26:=⟨Tryz.f288.name,by decide,Tryz.func288.trans (congrArg some (by kernel_rfl))⟩
  f27:=⟨Tryz.f289.name,by decide,Tryz.func289.trans (congrArg some (by kernel_rfl))⟩
  f28:=Tryz.func176.trans (congrArg some (by kernel_rfl))
  f29:=Tryz.func177.trans (congrArg some (by kernel_rfl))
  f46:=⟨Tryz.f311.name,by decide,Tryz.func311.trans (congrArg some (by kernel_rfl))⟩
  f47:=Tryz.func229.trans (congrArg some (by kernel_rfl))
  f48:=Tryz.func230.trans (congrArg some (by kernel_rfl))
  f49:=⟨Tryz.f312.name,by decide,Tryz.func312.trans (congrArg some (by kernel_rfl))⟩
  f50:=⟨Tryz.f313.name,by decide,Tryz.func313.trans (congrArg some (by kernel_rfl))⟩
  f57:=⟨Tryz.f325.name,by decide,Tryz.func325.trans (congrArg some (by kernel_rfl))⟩
  t0:=Tryz.underlying0
  a0:=Tryz.isAgg0
  z0:=Tryz.sizeOf0
  v0:=Tryz.zeroValue0
  t3:=Tryz.underlying3
  a3:=Tryz.isAgg3
  z3:=Tryz.sizeOf3
  v3:=Tryz.zeroValue3
  t4:=Tryz.underlying4
  a4:=Tryz.isAgg4
  z4:=Tryz.sizeOf4
  v4:=Tryz.zeroValue4
  t5:=Tryz.underlying5
  a5:=Tryz.isAgg5
  z5:=Tryz.sizeOf5
  v5:=Tryz.zeroValue5
  t9:=Tryz.underlying9
  a9:=Tryz.isAgg9
  z9:=Tryz.sizeOf9
  v9:=Tryz.zeroValue9
  t22:=Tryz.underlying221
  a22:=Tryz.isAgg221
  z22:=Tryz.sizeOf221
  v22:=Tryz.zeroValue221
  t25:=Tryz.underlying267
  a25:=Tryz.isAgg267
  z25:=Tryz.sizeOf267
  v25:=Tryz.zeroValue267
  t39:=Tryz.underlying145
  a39:=Tryz.isAgg145
  z39:=Tryz.sizeOf145
  v39:=Tryz.zeroValue145
  t45:=Tryz.underlying209
  a45:=Tryz.isAgg209
  z45:=Tryz.sizeOf209
  v45:=Tryz.zeroValue209
  t46:=Tryz.underlying210
  a46:=Tryz.isAgg210
  z46:=Tryz.sizeOf210
  v46:=Tryz.zeroValue210
  t50:=Tryz.underlying42
  a50:=Tryz.isAgg42
  z50:=Tryz.sizeOf42
  v50:=Tryz.zeroValue42
  t53:=Tryz.underlying217
  a53:=Tryz.isAgg217
  z53:=Tryz.sizeOf217
  v53:=Tryz.zeroValue217
  t55:=Tryz.underlying219
  a55:=Tryz.isAgg219
  z55:=Tryz.sizeOf219
  v55:=Tryz.zeroValue219
  t66:=Tryz.underlying261
  a66:=Tryz.isAgg261
  z66:=Tryz.sizeOf261
  v66:=Tryz.zeroValue261
  t70:=Tryz.underlying243
  a70:=Tryz.isAgg243
  z70:=Tryz.sizeOf243
  v70:=Tryz.zeroValue243
  t76:=Tryz.underlying296
  a76:=Tryz.isAgg296
  z76:=Tryz.sizeOf296
  v76:=Tryz.zeroValue296
  t77:=Tryz.underlying297
  a77:=Tryz.isAgg297
  z77:=Tryz.sizeOf297
  v77:=Tryz.zeroValue297 }
end Go.Proofs
namespace Go.Vs
open Go Go.Sx
def iU_ {α:Type} (l:List α) (i:Nat) (Q:Nat→α→Prop):Prop:=∀ j,j<i→∀ a,l[j]? = some a→Q j a
theorem iU_.zero {α:Type} {l:List α} {Q:Nat→α→Prop}:iU_ l 0 Q:=fun j hj=>by omega
theorem iU_.step {α:Type} {l:List α} {i:Nat} {Q:Nat→α→Prop} {a:α} (h:iU_ l i Q) (hr:l[i]? = some a) (hq:Q i a):iU_ l (i+1) Q:=fun j hj b hb=>by
 by_cases e:j=i
 ·subst e;rw[hr]at hb;cases hb;exact hq
 exact h j (by omega) b hb
theorem iU_.done {α:Type} {l:List α} {i:Nat} {Q:Nat→α→Prop} (h:iU_ l i Q) (hi:¬ (i:Int)<(l.length:Int)):∀ j a,l[j]? = some a→Q j a:=fun j a hj =>
  h j (by have:=(List.getElem?_eq_some_iff.1 hj).1;omega) a hj
theorem iU_.all {α:Type} {l:List α} {i:Nat} {Q:α→Prop} (h:iU_ l i fun _ a=>Q a) (hi:¬ (i:Int)<(l.length:Int)):∀ a∈l,Q a:=fun a ha=>by
  obtain⟨j,hj⟩:=List.getElem?_of_mem ha
  exact h.done hi j a hj
end Go.Vs
namespace Go.Vs
open Go Go.Sx
def gI_ (b:Bool):List Value:=[.bool b]
theorem lW_ (b:Bool):(gI_ b).length=1:=rfl
end Go.Vs
namespace Go.Sx
open Go
section
variable {K:Type} [DecidableEq K] {kv:K→Value}
structure KeyE (kv:K→Value) (es:Array MapEntry) (q:List K):Prop where
  keys:es.toList.map (·.key)=q.map kv
  nd:q.Nodup
theorem KeyE.nil:KeyE kv #[] ([]:List K):=⟨rfl,List.nodup_nil⟩
theorem KeyE.ofKey {es:Array MapEntry} {q:List K} (hE:KeyE kv es q) {e:MapEntry} (he:e∈es.toList):∃ k∈q,e.key=kv k:=by
  have:e.key∈es.toList.map (·.key):=List.mem_map_of_mem he
  rw[hE.keys]at this
  obtain⟨k,hk,h⟩:=List.mem_map.1 this
  exact⟨k,hk,h.symm⟩
theorem KeyE.entry {es:Array MapEntry} {q:List K} (hE:KeyE kv es q) (hi:∀ x y,kv x=kv y→x=y) {x e:MapEntry} (hx:x∈es.toList) (he:e∈es.toList) (h:x.key=e.key):x=e:=by
 obtain⟨i,hi1,hi2⟩:=List.getElem_of_mem hx
 obtain⟨j,hj1,hj2⟩:=List.getElem_of_mem he
 have hnd:(es.toList.map (·.key)).Nodup:=by
   rw[hE.keys]
   unfold List.Nodup
   rw[List.pairwise_map]
   exact List.Pairwise.imp (fun {a b} hab e=>hab (hi _ _ e)) hE.nd
 have hij:i=j:=by
   rcases Nat.lt_trichotomy i j with g|g|g
   · exact ((List.pairwise_iff_getElem.1 hnd i j (by simpa using hi1) (by simpa using hj1) g) (by simp only[List.getElem_map,hi2,hj2,h])).elim
   · exact g
   · exact ((List.pairwise_iff_getElem.1 hnd j i (by simpa using hj1) (by simpa using hi1) g) (by simp only[List.getElem_map,hi2,hj2,h])).elim
 subst hij
 rw[← hi2,← hj2]
theorem ItS.stepK {es:Array MapEntry} {q:List K} {c:Nat} {seen:Array Nat} {done:List K} {e:MapEntry} (hi:∀ x y,kv x=kv y→x=y) (hE:KeyE kv es q) (hB:Born es c) (h:ItS kv es seen done) (he:e∈(leftOf es seen).toList) :
    ∃ k,k∈q∧k ∉ done∧e.key=kv k∧e∈es.toList∧ItS kv es (seen.push e.born) (done++[k]):=by
  unfold leftOf at he
  rw[Array.toList_filter,List.mem_filter]at he
  obtain⟨h1,h2⟩:=he
  obtain⟨k,hk,hkv⟩:=hE.ofKey h1
  have hnd:k ∉ done:=fun hm=>by
    have:=(h.mem e h1).2 ⟨k,hm,hkv⟩
    rw[this]at h2
    simp at h2
  have same:∀ x∈es.toList,x.born=e.born→x=e:=fun x hx hb=>by
    have hn:=hB.nd
    obtain⟨i,hi1,hi2⟩:=List.getElem_of_mem hx
    obtain⟨j,hj1,hj2⟩:=List.getElem_of_mem h1
    have hij:i=j:=by
      rcases Nat.lt_trichotomy i j with g|g|g
      · exact ((List.pairwise_iff_getElem.1 hn i j (by simpa using hi1) (by simpa using hj1) g) (by simp only[List.getElem_map,hi2,hj2,hb])).elim
      · exact g
      · exact ((List.pairwise_iff_getElem.1 hn j i (by simpa using hj1) (by simpa using hi1) g) (by simp only[List.getElem_map,hi2,hj2,hb])).elim
    subst hij
    rw[← hi2,← hj2]
  refine⟨k,hk,hnd,hkv,h1,⟨?_,fun x hx=>?_,fun y hy=>?_⟩⟩
  · rw[List.nodup_append];exact⟨h.nd,by simp,fun a ha b hb e=>by simp at hb;subst hb;subst e;exact hnd ha⟩
  · rw[Array.contains_push,Bool.or_eq_true,h.mem x hx,beq_iff_eq]
    constructor
    · rintro (⟨y,hy,hyv⟩|h3)
      · exact⟨y,by simp[hy],hyv⟩
      · have:=same x hx h3
        exact⟨k,by simp,this▸hkv⟩
    · rintro ⟨y,hy,hyv⟩
      rcases List.mem_append.1 hy with hy|hy
      · exact .inl ⟨y,hy,hyv⟩
      · rw[List.mem_singleton]at hy
        subst hy
        exact .inr (congrArg MapEntry.born (hE.entry hi hx h1 (hyv.trans hkv.symm)))
  · rcases List.mem_append.1 hy with hy|hy
    · exact h.sub y hy
    · rw[List.mem_singleton]at hy
      subst hy
      exact⟨e,h1,hkv⟩
theorem ItS.endK {es:Array MapEntry} {q:List K} {seen:Array Nat} {done:List K} (hi:∀ x y,kv x=kv y→x=y) (hE:KeyE kv es q) (h:ItS kv es seen done) (h0:(leftOf es seen).size=0):done.Perm q:=by
 refine (List.perm_ext_iff_of_nodup h.nd hE.nd).2 fun k=>⟨fun hk=>?_,fun hk=>?_⟩
 ·obtain⟨e,he,hkv⟩:=h.sub k hk
  obtain⟨k',hk',hkv'⟩:=hE.ofKey he
  exact hi _ _ (hkv.symm.trans hkv')▸hk'
 have:kv k∈es.toList.map (·.key):=by rw[hE.keys];exact List.mem_map_of_mem hk
 obtain⟨e,he,hkv⟩:=List.mem_map.1 this
 have hs:seen.contains e.born=true:=by
   cases hc:seen.contains e.born
   · exfalso
     have:e∈(leftOf es seen).toList:=by unfold leftOf;rw[Array.toList_filter,List.mem_filter];exact⟨he,by simp only[hc];rfl⟩
     have h1:=List.length_pos_of_mem this
     simp only[Array.length_toList]at h1
     omega
   · rfl
 obtain⟨k',hk',hkv'⟩:=(h.mem e he).1 hs
 exact hi _ _ (hkv.symm.trans hkv')▸hk'
end
end Go.Sx
namespace Go.Sx
open Go
section
variable {P:Program} {ops:Array Oper} {Q:Exit→Act→World→Prop}
theorem oz_ {r n:Nat} {o:Oper} {a:Act} {w:World} {next:Act→World→Prop} (hnd:ff_ o.op=true) (h:o.wp P a w next Q):o.wpIn (Fence.wide.inRound r) n P a w next Q:=by
  refine⟨fun _ _=>trivial,?_⟩
  rw[semAt_eq hnd]
  unfold Oper.wp at h
  generalize (execOp a.eval o).run P w=z at h ⊢
  cases z with
  | ok x w' =>
    cases x with
    | value u=>exact h
    | skip=>exact h
    | defer d=>exact h
    | enter f args=>exact⟨fun q=>(by cases q),(in_ (F:=Fence.wide) h r).mono fun e w'' q=>by cases e<;>exact q⟩
    | row row args =>
      refine⟨fun q=>(by cases q),fun c cs _=>?_⟩
      obtain⟨u,w'',h1,h2⟩:=h c cs
      exact⟨u,w'',h1,stepsIn_wide.2 h2⟩
    | _=>exact h.elim
  | halt x w'=>cases x<;>first|exact h|exact h.elim
theorem fN_ {r n:Nat} (hnd:(ops.toList.all fun o=>ff_ o.op)=true) (hQ:¬ LetsOut Q):∀ (l:List Nat) (a:Act) (w:World),wpOps P ops Q l a w→wpOpsIn (Fence.wide.inRound r) n P ops Q l a w
 | [],_,_,h=>h
 | i::l,a,w,h=>by
   unfold wpOps at h
   unfold wpOpsIn
   cases ho:ops[i]? with
   | none=>rw[ho]at h;exact fN_ hnd hQ l a w h
   | some o =>
     rw[ho]at h
     simp only at h ⊢
     have hd:ff_ o.op=true:=by
       rw[List.all_eq_true]at hnd
       exact hnd o (by rw[Array.mem_toList_iff];exact Array.mem_of_getElem? ho)
     split
     · rename_i hw
       rw[if_pos hw]at h
       rcases h with h|h
       · exact oz_ hd (Oper.wp_mono (fun a w q=>fN_ hnd hQ l a w q) h)
       · exact absurd h.2 hQ
     · rename_i hw
       rw[if_neg hw]at h
       exact⟨fun _ _=>trivial,fN_ hnd hQ l _ w h⟩
end
section
variable {n:Nat} {P:Program} {N:Nat} {v0:Vw} {H0:Hp} {R:Exit→Act→World→Prop} {K:List Kt} {fr:Fr} {H:Hp} {Γ:List Fct} {ops:Array Oper}
theorem oM_ {r id:Nat} (Hs:Hp) (hm:P.follows .mixedOrders=true) (hnd:(ops.toList.all fun o=>ff_ o.op)=true) (hK:eM_ K=true) (hn:∀ e a w,R e a w→e=.normal)
    (h:Any P R N v0 H0 ops Hs Γ ops.size (Array.replicate ops.size false) [] fr H Γ):gj_ (Fence.wide.inRound r) n P R N [] v0 H0 (.region id ops true) K fr H Γ:=by
  refine cT_.2 fun a v h1 h2 h3 h4=>?_
  refine wpIn_mono (Q:=R) (wpIn_region_draw fun t=>?_) fun e a w q=>by
    obtain rfl:=hn e a w q
    exact iB_ hK q
  have hle:v.le ⟨v.im,{ v.w with drawn:=v.w.drawn+1 },v.sl⟩:=⟨fun _ h=>h,fun _ _=>rfl,rfl⟩
  have q:=h a ⟨v.im,{ v.w with drawn:=v.w.drawn+1 },v.sl⟩ h1 ⟨h2.own,h2.nodup,h2.lt⟩ ⟨h3.os,h3.tape,h3.output,h3.size,h3.block,h3.imUp,h3.imNew,h3.hNew,h3.sl,h3.dr.imp (fun h=>h) fun h=>Nat.le_succ_of_le h⟩ (aD_ hle h4)
  refine fN_ hnd (fun⟨a,w,q⟩=>by cases hn _ _ _ q) _ _ _ ?_
  simp only[Region.schedule,hm,Bool.true_or,if_true]
  exact wpAny_sound ops.size t _ a _ (wpAny_of_held _ _ _ _ q)
theorem kQ_ {σ:Type} {Hj:σ→Hp} {ok:σ→Prop} {HL:Hp}:∀ e a w,mX_ v0 H0 Hj ok HL e a w→e=.normal
  | .normal,_,_,_=>rfl
instance {σ:Type} {Hj:σ→Hp} {ok:σ→Prop} {HL:Hp}:NoPan (mX_ v0 H0 Hj ok HL):=⟨fun _ _ _ _ _ h=>h⟩
end
end Go.Sx
namespace Go.Vs
open Go Go.Sx
structure Thg where
  kind:Int
  name:Str
deriving DecidableEq
def Thg.cells (t:Thg):List Value:=[.int .i64 t.kind,str t.name]
theorem Thg.cells_len (t:Thg):t.cells.length=2:=rfl
def Thg.val (t:Thg):Value:=.agg t.cells.toArray
def ae_ (x:Pc):List Thg :=
  if x.kind=1∨x.kind=3∨x.kind=8 then [⟨1,x.a⟩]
  else if x.kind=2 then [⟨1,x.a⟩,⟨1,x.b⟩]
  else if x.kind=4 then [⟨2,x.r⟩,⟨1,x.a⟩]
  else if x.kind=5 then [⟨2,x.r⟩]
  else if x.kind=6 then [⟨2,x.r⟩,⟨2,x.s⟩]
  else if x.kind=9 then [⟨3,x.r⟩] else []
def W_ (x:Pc):List Thg :=
  if x.kind=1∨x.kind=2∨x.kind=4∨x.kind=9 then [⟨1,x.c⟩]
  else if x.kind=3 then [⟨2,x.r⟩,⟨1,x.c⟩]
  else if x.kind=5∨x.kind=6 then [⟨2,x.t⟩]
  else if x.kind=7 then [⟨2,x.r⟩]
  else if x.kind=8 then [⟨3,x.r⟩] else []
def cW_ (S:List Str):List Thg:=[⟨1,[42]⟩,⟨1,[33]⟩]++S.map (fun s=>⟨1,s⟩)
inductive Rch (p:List Pc) (S:List Str):Thg→Prop
  | base {t:Thg} (h:t∈cW_ S):Rch p S t
  | give {x:Pc} {t:Thg} (hx:x∈p) (hn:∀ u∈ae_ x,Rch p S u) (ht:t∈W_ x):Rch p S t
def Usb (p:List Pc) (S:List Str) (x:Pc):Prop:=∀ u∈ae_ x,Rch p S u
def be_ (K:List Thg):List Thg→List Thg
  | []=>[]
  | t::l=>if t∈K then be_ K l else t::be_ (K++[t]) l
theorem fj_:∀ (l K:List Thg) (t:Thg),t∈K++be_ K l↔t∈K∨t∈l
 | [],K,t=>by simp[be_]
 | u::l,K,t=>by
   rw[be_]
   by_cases h:u∈K
   · rw[if_pos h,fj_ l K t]
     constructor
     · rintro (q|q)
       · exact .inl q
       · exact .inr (List.mem_cons_of_mem _ q)
     · rintro (q|q)
       · exact .inl q
       · rcases List.mem_cons.1 q with rfl|q
         · exact .inl h
         · exact .inr q
   · rw[if_neg h,show K++u::be_ (K++[u]) l=(K++[u])++be_ (K++[u]) l by simp,fj_ l (K++[u]) t]
     simp only[List.mem_append,List.mem_cons,List.not_mem_nil,or_false,or_assoc]
theorem fi_:∀ (l K:List Thg),K.Nodup→(K++be_ K l).Nodup
 | [],K,h=>by simpa [be_] using h
 | u::l,K,h=>by
   rw[be_]
   by_cases hu:u∈K
   · rw[if_pos hu];exact fi_ l K h
   · rw[if_neg hu,show K++u::be_ (K++[u]) l=(K++[u])++be_ (K++[u]) l by simp]
     refine fi_ l (K++[u]) ?_
     rw[List.nodup_append]
     exact⟨h,by simp,fun a ha b hb e=>by simp at hb;subst hb;subst e;exact hu ha⟩
theorem oj_ {K l:List Thg} (h:K.Nodup) {t:Thg} (ht:t∈be_ K l):t ∉ K:=fun hk=>by
  have:=fi_ l K h
  rw[List.nodup_append]at this
  exact this.2.2 t hk t ht rfl
def pnd (K W:List Thg) (t:Thg):Bool:=decide (t ∉ K)||decide (t∈W)
theorem uu_ {K W l:List Thg} (h:K.Nodup) (t:Thg):pnd (K++be_ K l) (W++be_ K l) t=pnd K W t:=by
 unfold pnd
 rw[Bool.eq_iff_iff]
 simp only[Bool.or_eq_true,decide_eq_true_eq,List.mem_append]
 constructor
 ·rintro (q|q|q)
  ·exact .inl fun z=>q (.inl z)
  ·exact .inr q
  exact .inl (oj_ h q)
 rintro (q|q)
 ·by_cases z:t∈be_ K l
  ·exact .inr (.inr z)
  exact .inl fun w=>w.elim q z
 exact .inr (.inl q)
def dD_ (K W:List Thg) (x:Pc):Nat:=(ae_ x).countP (pnd K W)
theorem iH_ {K W l:List Thg} (h:K.Nodup) (x:Pc):dD_ (K++be_ K l) (W++be_ K l) x=dD_ K W x:=by
  unfold dD_
  congr 1
  funext t
  exact uu_ h t
structure KW (p:List Pc) (S:List Str) (K W:List Thg):Prop where
  snd:∀ t∈K,Rch p S t
  kn:K.Nodup
  sub:∀ t∈W,t∈K
  wn:W.Nodup
theorem KW.ext {p:List Pc} {S:List Str} {K W l:List Thg} (h:KW p S K W) (hl:∀ t∈l,Rch p S t):KW p S (K++be_ K l) (W++be_ K l) where
  snd t ht:=((fj_ l K t).1 ht).elim (h.snd t) (hl t)
  kn:=fi_ l K h.kn
  sub t ht:=(List.mem_append.1 ht).elim (fun q=>List.mem_append_left _ (h.sub t q)) (fun q=>List.mem_append_right _ q)
  wn:=by
    have h2:=fi_ l K h.kn
    rw[List.nodup_append]at h2 ⊢
    exact⟨h.wn,h2.2.1,fun a ha b hb=>h2.2.2 a (h.sub a ha) b hb⟩
structure RK (p:List Pc) (S:List Str) (i:Nat) (K:List Thg) (U:List Bool):Prop where
  kw:KW p S K K
  bas:∀ t∈cW_ S,t∈K
  ul:U.length=p.length
  use:∀ (j:Nat) x,p[j]? = some x→U[j]? = some (decide (j<i)&&decide (ae_ x=[]))
  giv:∀ (j:Nat) x,p[j]? = some x→j<i→ae_ x=[]→∀ t∈W_ x,t∈K
structure RI (p:List Pc) (S:List Str) (K W:List Thg) (U:List Bool) (wl:List Int):Prop where
  kw:KW p S K W
  bas:∀ t∈cW_ S,t∈K
  ul:U.length=p.length
  wll:wl.length=p.length
  cnt:∀ (i:Nat) x,p[i]? = some x→wl[i]? = some (dD_ K W x:Int)
  use:∀ (i:Nat) x,p[i]? = some x→U[i]? = some (decide (dD_ K W x=0))
  giv:∀ (i:Nat) x,p[i]? = some x→dD_ K W x=0→∀ t∈W_ x,t∈K
theorem iI_ (K:List Thg) (x:Pc):dD_ K K x=(ae_ x).length:=by
  unfold dD_
  rw[List.countP_eq_length]
  intro t _
  unfold pnd
  by_cases h:t∈K<;>simp[h]
theorem RK.init {p:List Pc} {S:List Str} {K:List Thg} (hK:KW p S K K) (hb:∀ t∈cW_ S,t∈K):RK p S 0 K (List.replicate p.length false) where
  kw:=hK
  bas:=hb
  ul:=by simp
  use j x hj:=by
    have:=(List.getElem?_eq_some_iff.1 hj).1
    rw[List.getElem?_replicate,if_pos this]
    simp
  giv j x _ h:=absurd h (Nat.not_lt_zero _)
theorem RK.skip {p:List Pc} {S:List Str} {i:Nat} {K:List Thg} {U:List Bool} {x:Pc} (h:RK p S i K U) (hx:p[i]? = some x) (hn:ae_ x≠[]):RK p S (i+1) K U where
 kw:=h.kw
 bas:=h.bas
 ul:=h.ul
 use j y hj:=by
   rw[h.use j y hj]
   by_cases e:j=i
   · subst e
     rw[hx,Option.some.injEq]at hj
     subst hj
     simp[hn]
   · congr 2
     rw[decide_eq_decide]
     omega
 giv j y hj hlt he:=by
   by_cases e:j=i
   · subst e
     rw[hx,Option.some.injEq]at hj
     subst hj
     exact absurd he hn
   · exact h.giv j y hj (by omega) he
theorem jw_ {α:Type} {l:List α} {i:Nat} {v:α} (h:i<l.length) (j:Nat):(l.set i v)[j]? = if j=i then some v else l[j]? := by
 rw[List.getElem?_set]
 by_cases e:i=j
 ·subst e;rw[if_pos rfl,if_pos rfl,if_pos h]
 rw[if_neg e,if_neg (fun q=>e q.symm)]
theorem RK.take {p:List Pc} {S:List Str} {i:Nat} {K:List Thg} {U:List Bool} {x:Pc} (h:RK p S i K U) (hx:p[i]? = some x) (hn:ae_ x=[]):RK p S (i+1) (K++be_ K (W_ x)) (U.set i true) where
 kw:=h.kw.ext fun t ht=>.give (List.mem_of_getElem? hx) (by rw[hn];simp) ht
 bas t ht:=List.mem_append_left _ (h.bas t ht)
 ul:=by rw[List.length_set];exact h.ul
 use j y hj:=by
   have hlt:=(List.getElem?_eq_some_iff.1 hx).1
   rw[jw_ (by rw[h.ul];exact hlt)]
   by_cases e:j=i
   · subst e
     rw[hx,Option.some.injEq]at hj
     subst hj
     simp[hn]
   · rw[if_neg e,h.use j y hj]
     congr 2
     rw[decide_eq_decide]
     omega
 giv j y hj hlt he t ht:=by
   by_cases e:j=i
   · subst e
     rw[hx,Option.some.injEq]at hj
     subst hj
     exact (fj_ _ _ _).2 (.inr ht)
   · exact List.mem_append_left _ (h.giv j y hj (by omega) he t ht)
theorem RK.done {p:List Pc} {S:List Str} {K:List Thg} {U:List Bool} (h:RK p S p.length K U):RI p S K K U (p.map fun x=>((ae_ x).length:Int)) where
  kw:=h.kw
  bas:=h.bas
  ul:=h.ul
  wll:=by simp
  cnt i x hx:=by rw[List.getElem?_map,hx,iI_];rfl
  use i x hx:=by
    have:=(List.getElem?_eq_some_iff.1 hx).1
    rw[h.use i x hx,iI_,decide_eq_true this,Bool.true_and]
    congr 1
    rw[decide_eq_decide,List.length_eq_zero_iff]
  giv i x hx h0:=by
    rw[iI_,List.length_eq_zero_iff]at h0
    exact h.giv i x hx (List.getElem?_eq_some_iff.1 hx).1 h0
structure RJ (p:List Pc) (S:List Str) (t:Thg) (us:List Int) (j:Nat) (K W:List Thg) (U:List Bool) (wl:List Int):Prop where
  kw:KW p S K W
  bas:∀ t∈cW_ S,t∈K
  ul:U.length=p.length
  wll:wl.length=p.length
  tk:t∈K
  tw:t ∉ W
  cnt:∀ (i:Nat) x,p[i]? = some x→wl[i]? = some ((dD_ K W x:Int)+((ae_ x).count t:Int) - ((us.take j).count (i:Int):Int))
  use:∀ (i:Nat) x,p[i]? = some x→U[i]? = some (decide ((dD_ K W x:Int)+((ae_ x).count t:Int) - ((us.take j).count (i:Int):Int)=0))
  giv:∀ (i:Nat) x,p[i]? = some x→(dD_ K W x:Int)+((ae_ x).count t:Int) - ((us.take j).count (i:Int):Int)=0→∀ u∈W_ x,u∈K
theorem iG_ {p:List Pc} {S:List Str} {K W:List Thg} {t:Thg} (h:KW p S K (W++[t])) (x:Pc):dD_ K (W++[t]) x=dD_ K W x+(ae_ x).count t:=by
 have ht:t∈K:=h.sub t (by simp)
 have hw:t ∉ W:=fun q=>by
   have:=h.wn
   rw[List.nodup_append]at this
   exact this.2.2 t q t (by simp) rfl
 unfold dD_
 induction ae_ x with
 | nil=>rfl
 | cons u l ih =>
   rw[List.countP_cons,List.countP_cons,List.count_cons,ih]
   by_cases e:u=t
   · subst e
     have h1:pnd K (W++[u]) u=true:=by simp[pnd]
     have h2:pnd K W u=false:=by simp[pnd,ht,hw]
     rw[h1,h2]
     simp
     omega
   · have h1:pnd K (W++[t]) u=pnd K W u:=by simp[pnd,e]
     rw[h1,beq_eq_false_iff_ne.2 e]
     simp
     omega
theorem RI.pop {p:List Pc} {S:List Str} {K W:List Thg} {U:List Bool} {wl:List Int} {t:Thg} (h:RI p S K (W++[t]) U wl) (us:List Int):RJ p S t us 0 K W U wl where
  kw:=⟨h.kw.snd,h.kw.kn,fun u hu=>h.kw.sub u (List.mem_append_left _ hu),(List.nodup_append.1 h.kw.wn).1⟩
  bas:=h.bas
  ul:=h.ul
  wll:=h.wll
  tk:=h.kw.sub t (by simp)
  tw:=fun q=>(List.nodup_append.1 h.kw.wn).2.2 t q t (by simp) rfl
  cnt i x hx:=by rw[h.cnt i x hx,iG_ h.kw];simp
  use i x hx:=by
    rw[h.use i x hx,iG_ h.kw]
    congr 1
    rw[decide_eq_decide]
    simp
    omega
  giv i x hx h0:=h.giv i x hx (by rw[iG_ h.kw];simp at h0;omega)
def jI_ (p:List Pc) (us:List Int) (t:Thg):Prop:=(∀ m∈us,0≤m∧m<p.length)∧∀ (i:Nat) x,p[i]? = some x→us.count (i:Int)=(ae_ x).count t
theorem hh_ (us:List Int) (j:Nat) (m:Int):(us.take j).count m≤us.count m:=(List.take_sublist j us).count_le m
theorem bW_ {us:List Int} {j:Nat} {m:Int} (hm:us[j]? = some m) (k:Int):(us.take (j+1)).count k=(us.take j).count k+if k=m then 1 else 0:=by
 rw[List.take_add_one,hm,List.count_append]
 simp only[Option.toList_some,List.count_cons,List.count_nil,Nat.zero_add]
 by_cases e:k=m
 ·subst e;simp
 rw[if_neg e,if_neg (by rw[beq_iff_eq];exact fun q=>e q.symm)]
section
variable {p:List Pc} {S:List Str} {t:Thg} {us:List Int} {j:Nat} {K W:List Thg} {U:List Bool} {wl:List Int} {i:Nat} {x:Pc} {n:Int}
theorem RJ.pos (h:RJ p S t us j K W U wl) (hu:jI_ p us t) (hm:us[j]? = some (i:Int)) (hx:p[i]? = some x):∃ n:Int,wl[i]? = some n∧1≤n∧n≤(ae_ x).length+(ae_ x).length∧n=(dD_ K W x:Int)+((ae_ x).count t:Int) - ((us.take j).count (i:Int):Int):=by
  have h1:=hh_ us (j+1) i
  rw[bW_ hm,if_pos rfl,hu.2 i x hx]at h1
  have h2:dD_ K W x≤(ae_ x).length:=List.countP_le_length
  have h3:(ae_ x).count t≤(ae_ x).length:=List.count_le_length
  exact⟨_,h.cnt i x hx,by omega,by omega,rfl⟩
theorem RJ.skip (h:RJ p S t us j K W U wl) (hu:jI_ p us t) (hm:us[j]? = some (i:Int)) (hx:p[i]? = some x) (hn:wl[i]? = some n) (h1:n - 1≠0):RJ p S t us (j+1) K W U (wl.set i (n - 1)) where
 kw:=h.kw
 bas:=h.bas
 ul:=h.ul
 wll:=by rw[List.length_set];exact h.wll
 tk:=h.tk
 tw:=h.tw
 cnt k y hy:=by
   have hlt:=(List.getElem?_eq_some_iff.1 hx).1
   rw[jw_ (by rw[h.wll];exact hlt),bW_ hm]
   by_cases e:k=i
   · subst e
     rw[hx,Option.some.injEq]at hy
     subst hy
     rw[h.cnt k x hx,Option.some.injEq]at hn
     rw[if_pos rfl,if_pos rfl,← hn]
     congr 1
     omega
   · rw[if_neg e,if_neg (by omega),h.cnt k y hy]
     congr 1
 use k y hy:=by
   rw[h.use k y hy,bW_ hm]
   by_cases e:k=i
   · subst e
     obtain⟨m,q1,q2,q3,q4⟩:=h.pos hu hm hy
     rw[hx,Option.some.injEq]at hy
     subst hy
     rw[hn,Option.some.injEq]at q1
     congr 1
     rw[decide_eq_decide,if_pos rfl]
     omega
   · rw[if_neg (by omega)]
     rfl
 giv k y hy h0:=by
   rw[bW_ hm]at h0
   by_cases e:k=i
   · subst e
     rw[hx,Option.some.injEq]at hy
     subst hy
     rw[h.cnt k x hx,Option.some.injEq]at hn
     rw[if_pos rfl]at h0
     omega
   · rw[if_neg (by omega)]at h0
     exact h.giv k y hy h0
theorem pk_ {K W:List Thg} {x:Pc} (h:dD_ K W x=0) {u:Thg} (hu:u∈ae_ x):u∈K:=by
 unfold dD_ at h
 rw[List.countP_eq_zero]at h
 have:=h u hu
 by_cases q:u∈K
 ·exact q
 simp[pnd,q]at this
theorem RJ.take (h:RJ p S t us j K W U wl) (hu:jI_ p us t) (hm:us[j]? = some (i:Int)) (hx:p[i]? = some x) (hn:wl[i]? = some n) (h1:n - 1=0):RJ p S t us (j+1) (K++be_ K (W_ x)) (W++be_ K (W_ x)) (U.set i true) (wl.set i (n - 1)) where
 kw:=h.kw.ext fun u hg=>.give (List.mem_of_getElem? hx) (fun v hv=>h.kw.snd v (by
   have h9:=hh_ us (j+1) i
   rw[bW_ hm,if_pos rfl,hu.2 i x hx]at h9
   rw[h.cnt i x hx,Option.some.injEq]at hn
   exact pk_ (W:=W) (by omega) hv)) hg
 bas u hb:=List.mem_append_left _ (h.bas u hb)
 ul:=by rw[List.length_set];exact h.ul
 wll:=by rw[List.length_set];exact h.wll
 tk:=List.mem_append_left _ h.tk
 tw:=fun q=>(List.mem_append.1 q).elim h.tw fun q=>oj_ h.kw.kn q h.tk
 cnt k y hy:=by
   have hlt:=(List.getElem?_eq_some_iff.1 hx).1
   rw[jw_ (by rw[h.wll];exact hlt),bW_ hm,iH_ h.kw.kn]
   by_cases e:k=i
   · subst e
     rw[hx,Option.some.injEq]at hy
     subst hy
     rw[h.cnt k x hx,Option.some.injEq]at hn
     rw[if_pos rfl,if_pos rfl,← hn]
     congr 1
     omega
   · rw[if_neg e,if_neg (by omega),h.cnt k y hy]
     congr 1
 use k y hy:=by
   have hlt:=(List.getElem?_eq_some_iff.1 hx).1
   rw[jw_ (by rw[h.ul];exact hlt),bW_ hm,iH_ h.kw.kn]
   by_cases e:k=i
   · subst e
     rw[hx,Option.some.injEq]at hy
     subst hy
     rw[h.cnt k x hx,Option.some.injEq]at hn
     rw[if_pos rfl,if_pos rfl]
     congr 1
     symm
     rw[decide_eq_true_eq]
     omega
   · rw[if_neg e,if_neg (by omega),h.use k y hy]
     rfl
 giv k y hy h0 u hg:=by
   rw[bW_ hm,iH_ h.kw.kn]at h0
   by_cases e:k=i
   · subst e
     rw[hx,Option.some.injEq]at hy
     subst hy
     exact (fj_ _ _ _).2 (.inr hg)
   · rw[if_neg (by omega)]at h0
     exact List.mem_append_left _ (h.giv k y hy h0 u hg)
theorem RJ.done (h:RJ p S t us us.length K W U wl) (hu:jI_ p us t):RI p S K W U wl:=by
  have key:∀ (i:Nat) x,p[i]? = some x→(dD_ K W x:Int)+((ae_ x).count t:Int) - ((us.take us.length).count (i:Int):Int)=(dD_ K W x:Int):=fun i x hx=>by
    rw[List.take_length,hu.2 i x hx]
    omega
  refine⟨h.kw,h.bas,h.ul,h.wll,fun i x hx=>by rw[h.cnt i x hx,key i x hx],fun i x hx=>?_,fun i x hx h0=>h.giv i x hx (by rw[key i x hx,h0];rfl)⟩
  rw[h.use i x hx,key i x hx]
  congr 1
  rw[decide_eq_decide]
  omega
end
structure ReachR (p:List Pc) (S:List Str) (K:List Thg) (U:List Bool):Prop where
  known:∀ t,t∈K↔Rch p S t
  kn:K.Nodup
  ul:U.length=p.length
  use:∀ (i:Nat) x,p[i]? = some x→∃ b,U[i]? = some b∧(b=true↔Usb p S x)
theorem RI.end {p:List Pc} {S:List Str} {K:List Thg} {U:List Bool} {wl:List Int} (h:RI p S K [] U wl):ReachR p S K U:=by
  have hz:∀ x,dD_ K [] x=0↔∀ u∈ae_ x,u∈K:=fun x=>by
    unfold dD_
    rw[List.countP_eq_zero]
    simp[pnd]
  have hall:∀ t,Rch p S t→t∈K:=fun t ht=>by
    induction ht with
    | base hb=>exact h.bas _ hb
    | give hx hn hg ih =>
      obtain⟨i,hi⟩:=List.getElem?_of_mem hx
      exact h.giv i _ hi ((hz _).2 ih) _ hg
  refine⟨fun t=>⟨h.kw.snd t,hall t⟩,h.kw.kn,h.ul,fun i x hx=>⟨_,h.use i x hx,?_⟩⟩
  rw[decide_eq_true_eq,hz]
  exact⟨fun q u hu=>h.kw.snd u (q u hu),fun q u hu=>hall u (q u hu)⟩
def hM_ (p:List Pc) (S:List Str):List Thg:=cW_ S++p.flatMap W_
theorem Rch.univ {p:List Pc} {S:List Str} {t:Thg} (h:Rch p S t):t∈hM_ p S:=by
  unfold hM_
  cases h with
  | base h=>exact List.mem_append_left _ h
  | give hx _ ht=>exact List.mem_append_right _ (List.mem_flatMap.2 ⟨_,hx,ht⟩)
theorem dK_ {α:Type} [DecidableEq α]:∀ (l m:List α),l.Nodup→(∀ x∈l,x∈m)→l.length≤m.length
  | [],m,_,_=>Nat.zero_le _
  | a::l,m,h,hs=>by
    have ha:=hs a List.mem_cons_self
    have h2:=List.nodup_cons.1 h
    have:=dK_ l (m.erase a) h2.2 fun x hx=>(List.mem_erase_of_ne (by rintro rfl;exact h2.1 hx)).2 (hs x (List.mem_cons_of_mem _ hx))
    rw[List.length_erase_of_mem ha]at this
    have:=List.length_pos_of_mem ha
    simp only[List.length_cons]
    omega
theorem KW.len {p:List Pc} {S:List Str} {K W:List Thg} (h:KW p S K W):K.length≤(hM_ p S).length:=dK_ K _ h.kn fun t ht=>(h.snd t ht).univ
theorem kt_ (x:Pc):(W_ x).length≤2:=by
  unfold W_
  repeat (first|(split;· simp)|simp)
theorem fW_ (x:Pc):(ae_ x).length≤2:=by
  unfold ae_
  repeat (first|(split;· simp)|simp)
theorem eW_ (p:List Pc) (S:List Str):(hM_ p S).length≤2*p.length+S.length+2:=by
  have:∀ q:List Pc,(q.flatMap W_).length≤2*q.length:=fun q=>by
    induction q with
    | nil=>simp
    | cons x q ih=>have:=kt_ x;rw[List.flatMap_cons,List.length_append,List.length_cons];omega
  have:=this p
  simp only[hM_,cW_,List.length_append,List.length_cons,List.length_nil,List.length_map]
  omega
end Go.Vs
namespace Go.Sx
open Go Go.Vs
section
variable {P:Program} {N:Nf} {v0:Vw} {H0:Hp} {R:Exit→Act→World→Prop} {Kk:List Kt} {fr:Fr} {H:Hp} {Γ:List Fct}
variable {ops:Array Oper} {lo:List Oper} {d:Nat} {ty:TypeId} {ps:String} {af:Array Edge}
variable {K:Type} [DecidableEq K] {kv:K→Value}
theorem IntE.at {kt:TypeId} {es:Array MapEntry} {ks:List K} {vs:List Int} (hK:KeyT P kt kv) (h:IntE kv es ks vs) {k:K} {i:Nat} {n:Int} (hi:ks[i]? = some k) (hn:vs[i]? = some n):∃ e,es[i]? = some e∧e.key=kv k∧e.val=.int .i64 n∧cP_ P kt (kv k) es.toList (some (i,.int .i64 n)):=by
  have hlt:i<es.toList.length:=by
    have:=(List.getElem?_eq_some_iff.1 hi).1
    have e:=congrArg List.length h.keys
    simp only[List.length_map]at e
    omega
  have hx:=List.getElem?_eq_getElem hlt
  have hv:=congrArg (fun l=>l[i]?) h.vals
  simp only[List.getElem?_map,hx,Option.map_some,hn,Option.some.injEq]at hv
  have hk:=congrArg (fun l=>l[i]?) h.keys
  simp only[List.getElem?_map,hx,Option.map_some,hi,Option.some.injEq]at hk
  refine⟨es.toList[i],by rw[← Array.getElem?_toList];exact hx,hk,hv,?_⟩
  have:=hK.sf k es.toList ks i _ h.keys h.nd hi hx
  rwa [hv]at this
theorem kV_ {t kt et:TypeId} {x y:Operand} {mb c:Nat} {es:Array MapEntry} {ks:List K} {vs:List Int} {k:K} {i:Nat} {n:Int} (hK:KeyT P kt kv) (hu:∀ w,(underlying t).run P w=.ok (.map kt et) w) (hx:Fr.ev fr x=some (.map (some mb))) (hy:Fr.ev fr y=some (kv k))
    (hE:IntE kv es ks vs) (hi:ks[i]? = some k) (hn:vs[i]? = some n) (hm:∀ v,v.sat H→ag_ Γ v→v.w.heap[mb]? = some (.map es c)):Yld P N fr H Γ (.lookup t x y false) ty (.int .i64 n):=by
  obtain⟨_,_,_,_,hf⟩:=hE.at hK hi hn
  exact eo_ hu hx hy hm (hK.ok k) hf
theorem pe_ {kv:K→Value} {es:Array MapEntry} {ks:List K} {vs:List Int} (h:IntE kv es ks vs) {k:K} {i:Nat} (hi:ks[i]? = some k) (n:Int):IntE kv (es.modify i fun y=>{ y with key:=kv k,val:=.int .i64 n }) ks (vs.set i n):=by
 have hlen:=congrArg List.length h.vals
 simp only[List.length_map]at hlen
 have hlk:=congrArg List.length h.keys
 simp only[List.length_map]at hlk
 refine⟨?_,?_,h.nd⟩
 ·rw[← h.keys]
  apply List.ext_getElem?
  intro j
  simp only[List.getElem?_map,Array.getElem?_toList,Array.getElem?_modify]
  by_cases hij:i=j
  ·subst hij
   rw[if_pos rfl]
   have hk:=congrArg (fun l=>l[i]?) h.keys
   simp only[List.getElem?_map,hi,Option.map_some,Array.getElem?_toList]at hk
   cases he:es[i]? with
   | none=>rfl
   | some e=>rw[he]at hk;simpa using hk.symm
  rw[if_neg hij]
 apply List.ext_getElem?
 intro j
 have hv:=congrArg (fun l=>l[j]?) h.vals
 simp only[List.getElem?_map,Array.getElem?_toList,Array.getElem?_modify,List.getElem?_set]at hv ⊢
 by_cases hij:i=j
 ·subst hij
  rw[if_pos rfl,if_pos rfl]
  have hlt:i<es.size:=by
    have:=(List.getElem?_eq_some_iff.1 hi).1
    rw[Array.length_toList]at hlk
    omega
  have hlt2:i<vs.length:=by rw[Array.length_toList]at hlen;omega
  rw[if_pos hlt2,Array.getElem?_eq_getElem hlt]
  rfl
 rw[if_neg hij,if_neg hij];exact hv
theorem oY_ {o:Op} {t kt et:TypeId} {x y z:Operand} {mb c:Nat} (j:Nat) {es:Array MapEntry} {ks:List K} {vs:List Int} {k:K} {i:Nat} {m n:Int} (hK:KeyT P kt kv) (ho:o=.insert t x y z∨o=.mapUpdate t x y z) (hu:∀ w,(underlying t).run P w=.ok (.map kt et) w)
    (hx:Fr.ev fr x=some (.map (some mb))) (hy:Fr.ev fr y=some (kv k)) (hz:Fr.ev fr z=some (.int .i64 n)) (hb:H[j]? = some (mb,.map es c)) (hE:IntE kv es ks vs) (hi:ks[i]? = some k) (hm:vs[i]? = some m)
    (hkk:∀ es',IntE kv es' ks (vs.set i n)→Ops P R N v0 H0 ops lo Kk fr (H.set j (mb,.map es' c)) Γ):Ops P R N v0 H0 ops (⟨none,o,ty,ps,af,none⟩::lo) Kk fr H Γ:=by
  obtain⟨e,h1,h2,h3,hf⟩:=hE.at hK hi hm
  exact fU_ j hK ho hu hx hy hz hb hf h1 h2 (hkk _ (pe_ hE hi n))
end
end Go.Sx
namespace Go.Vs
open Go Go.Sx
def Thg.eqb (p q:Thg):Bool:=(p.kind==q.kind)&&((p.name==q.name)&&true)
theorem Thg.eqb_eq (p q:Thg):p.eqb q=decide (p=q):=by
  rw[Bool.eq_iff_iff];cases p;cases q;simp[Thg.eqb]
theorem ij_:∀ (l m K:List Thg),be_ K (l++m)=be_ K l++be_ (K++be_ K l) m
 | [],m,K=>by simp[be_]
 | u::l,m,K=>by
   rw[List.cons_append,be_,be_]
   by_cases hu:u∈K
   · rw[if_pos hu,if_pos hu,ij_ l m K]
   · rw[if_neg hu,if_neg hu,ij_ l m (K++[u]),show K++u::be_ (K++[u]) l=(K++[u])++be_ (K++[u]) l by simp]
     rfl
theorem fH_:∀ (l K:List Thg),(be_ K l).length≤l.length
 | [],K=>by simp[be_]
 | u::l,K=>by
   rw[be_]
   by_cases hu:u∈K
   · rw[if_pos hu];have:=fH_ l K;simp only[List.length_cons];omega
   · rw[if_neg hu];have:=fH_ l (K++[u]);simp only[List.length_cons];omega
theorem take_snoc {α:Type} {l:List α} {i:Nat} {x:α} (h:l[i]? = some x):l.take (i+1)=l.take i++[x]:=by
  rw[List.take_add_one,h];rfl
theorem oi_ {W K l:List Thg} {j:Nat} {t:Thg} (h:l[j]? = some t):W++be_ K (l.take (j+1))=(W++be_ K (l.take j))++be_ (K++be_ K (l.take j)) [t]:=by
  rw[take_snoc h,ij_,List.append_assoc]
theorem py_ {S:List Str} {j:Nat} {s:Str} (h:S[j]? = some s):cW_ (S.take (j+1))=cW_ (S.take j)++[⟨1,s⟩]:=by
  unfold cW_;rw[take_snoc h,List.map_append,← List.append_assoc];rfl
theorem rQ_ {S:List Str} {j:Nat} {s:Str} (h:S[j]? = some s):be_ [] (cW_ (S.take (j+1)))=be_ [] (cW_ (S.take j))++be_ (be_ [] (cW_ (S.take j))) [⟨1,s⟩]:=by
  rw[py_ h,ij_];rfl
theorem rP_:be_ [] (cW_ (([]:List Str).take 0))=([]++be_ [] [⟨1,[42]⟩])++be_ ([]++be_ [] [⟨1,[42]⟩]) [⟨1,[33]⟩]:=by decide
theorem mT_ (p:List Pc) (S:List Str):KW p S (be_ [] (cW_ S)) (be_ [] (cW_ S)):=by
  have h0:KW p S [] []:=⟨by simp,List.nodup_nil,by simp,List.nodup_nil⟩
  have:=h0.ext (l:=cW_ S) fun t ht=>.base ht
  simpa using this
theorem os_ (S:List Str):∀ t∈cW_ S,t∈be_ [] (cW_ S):=fun t ht=>by
  have:=(fj_ (cW_ S) [] t).2 (.inr ht)
  simpa using this
theorem KW.wlen {p:List Pc} {S:List Str} {K W:List Thg} (h:KW p S K W):W.length≤(hM_ p S).length:=dK_ W _ h.wn fun t ht=>(h.snd t (h.sub t ht)).univ
def dI_:Nat→List Pc→List (Thg×Int)
  | _,[]=>[]
  | k,x::l=>(ae_ x).map (fun t=>(t,(k:Int)))++dI_ (k+1) l
theorem nl_:∀ (l m:List Pc) (k:Nat),dI_ k (l++m)=dI_ k l++dI_ (k+l.length) m
  | [],m,k=>by simp[dI_]
  | x::l,m,k=>by
    rw[List.cons_append,dI_,dI_,nl_ l m (k+1),List.append_assoc,List.length_cons,show k+1+l.length=k+(l.length+1) by omega]
theorem lc_ {p:List Pc} {i:Nat} {x:Pc} (h:p[i]? = some x):dI_ 0 (p.take (i+1))=dI_ 0 (p.take i)++(ae_ x).map fun t=>(t,(i:Int)):=by
  have hl:=(List.getElem?_eq_some_iff.1 h).1
  rw[take_snoc h,nl_,List.length_take,Nat.min_eq_left (by omega),Nat.zero_add]
  simp[dI_]
theorem kR_ {l:List Thg} {k:Int} {t:Thg}:lat (l.map fun u=>(u,k)) t=List.replicate (l.count t) k:=by
 induction l with
 | nil=>rfl
 | cons u l ih =>
   unfold lat at ih ⊢
   rw[List.map_cons,List.count_cons,List.filter_cons]
   by_cases e:u=t
   · subst e
     rw[if_pos (by simp),List.map_cons,ih]
     simp[List.replicate_succ]
   · rw[if_neg (by simpa using e),ih,beq_eq_false_iff_ne.2 e]
     simp
theorem hp_:∀ (l:List Pc) (k:Nat) (t:Thg) (m:Int),(lat (dI_ k l) t).count m=if h:(k:Int)≤m∧m<k+l.length then ((l[(m - k).toNat]?).map fun x=>(ae_ x).count t).getD 0 else 0
 | [],k,t,m=>by
   simp only[dI_,List.length_nil]
   split
   · rename_i h;exact absurd h.2 (by omega)
   · rfl
 | x::l,k,t,m=>by
   rw[dI_,hy_,List.count_append,kR_,List.count_replicate,hp_ l (k+1) t m]
   by_cases e:m=(k:Int)
   · subst e
     rw[if_pos (by simp),dif_neg (by omega),dif_pos (by simp only[List.length_cons];omega)]
     simp
   · rw[if_neg (by simpa using fun q:(k:Int)=m=>e q.symm)]
     by_cases h:((k+1:Nat):Int)≤m∧m<((k+1:Nat):Int)+l.length
     · rw[dif_pos h,dif_pos (by simp only[List.length_cons];omega),show (m - (k:Int)).toNat=(m - ((k+1:Nat):Int)).toNat+1 by omega]
       simp
     · rw[dif_neg h,dif_neg (by simp only[List.length_cons];omega)]
theorem oD_ (p:List Pc) (t:Thg):jI_ p (lat (dI_ 0 p) t) t:=by
 constructor
 ·intro m hm
  have h:=List.count_pos_iff.2 hm
  rw[hp_]at h
  by_cases hh:((0:Nat):Int)≤m∧m<((0:Nat):Int)+p.length
  ·omega
  rw[dif_neg hh]at h;omega
 intro i x hx
 have hl:=(List.getElem?_eq_some_iff.1 hx).1
 rw[hp_,dif_pos (by omega),show ((i:Int) - ((0:Nat):Int)).toNat=i by omega,hx]
 rfl
theorem jL_:∀ (l:List Pc) (k:Nat),(dI_ k l).length≤2*l.length
  | [],_=>by simp[dI_]
  | x::l,k=>by
    have h1:=jL_ l (k+1)
    have h2:=fW_ x
    simp only[dI_,List.length_append,List.length_map,List.length_cons];omega
def StK (tk tw te:TypeId) (b4 b8 kb:Nat) (K W:List Thg) (H:Hp):Prop:=∃ es c sv Hw,H=(b4,.cells #[.map (some kb)] tk (0,0))::(b8,.cells #[sv] tw (0,0))::(kb,.map es c)::Hw∧SetE Thg.val es K∧Born es c∧ar_ te 2 sv W.length (W.flatMap Thg.cells) Hw
def sV_ (p:List Pc):List Int:=p.map fun x=>((ae_ x).length:Int)
theorem lA_ {p:List Pc} {i:Nat} {x:Pc} (h:p[i]? = some x):sV_ (p.take (i+1))=sV_ (p.take i)++[((ae_ x).length:Int)]:=by
  unfold sV_;rw[take_snoc h,List.map_append];rfl
theorem uF_ (n:Nat):¬ (n:Int)∈iot n:=fun h=>by
  obtain⟨k,hk⟩:=List.getElem?_of_mem h
  have e:=qi_ hk
  have hl:=(List.getElem?_eq_some_iff.1 hk).1
  rw[uG_]at hl
  omega
theorem pp_ {n i:Nat} (h:i<n):(iot n)[i]? = some (i:Int):=by
  unfold iot;rw[List.getElem?_map,List.getElem?_range h];rfl
end Go.Vs
namespace Go.Vs
open Go Go.Sx
def mi_ (p:List Pc) (K:List Thg):List Thg:=(p.filter fun x=>decide (∀ u∈ae_ x,u∈K)).flatMap W_
def jl_ (p:List Pc):Nat→List Thg→List Thg
  | 0,K=>K
  | n+1,K=>jl_ p n (K++be_ K (mi_ p K))
def oQ_ (p:List Pc) (S:List Str):List Thg:=jl_ p (2*p.length+S.length+3) (be_ [] (cW_ S))
theorem sA_ {p:List Pc} {S:List Str} {K:List Thg} (h:∀ t∈K,Rch p S t):∀ t∈mi_ p K,Rch p S t:=fun t ht=>by
  obtain⟨x,hx,hg⟩:=List.mem_flatMap.1 ht
  obtain⟨h1,h2⟩:=List.mem_filter.1 hx
  exact .give h1 (fun u hu=>h u (of_decide_eq_true h2 u hu)) hg
theorem pV_ {p:List Pc} {S:List Str}:∀ (n:Nat) (K:List Thg),KW p S K K→KW p S (jl_ p n K) (jl_ p n K)
  | 0,K,h=>h
  | n+1,K,h=>pV_ n _ (h.ext (sA_ h.snd))
theorem nx_ {p:List Pc}:∀ (n:Nat) (K:List Thg),∀ t∈K,t∈jl_ p n K
  | 0,K,t,h=>h
  | n+1,K,t,h=>nx_ n _ t (List.mem_append_left _ h)
theorem nz_ {p:List Pc}:∀ (n:Nat) (K:List Thg),be_ K (mi_ p K)=[]→jl_ p n K=K
  | 0,K,h=>rfl
  | n+1,K,h=>by rw[jl_,h,List.append_nil];exact nz_ n K h
theorem ny_ {p:List Pc}:∀ (n:Nat) (K:List Thg),be_ (jl_ p n K) (mi_ p (jl_ p n K))=[]∨K.length+n≤(jl_ p n K).length
 | 0,K=>.inr (by simp[jl_])
 | n+1,K=>by
   by_cases h:be_ K (mi_ p K)=[]
   · rw[nz_ (n+1) K h];exact .inl h
   · rw[jl_]
     rcases ny_ n (K++be_ K (mi_ p K)) with q|q
     · exact .inl q
     · refine .inr ?_
       have:=List.length_pos_iff.2 h
       rw[List.length_append]at q
       omega
theorem nA_ (p:List Pc) (S:List Str) (t:Thg):t∈oQ_ p S↔Rch p S t:=by
 have hk:=pV_ (2*p.length+S.length+3) _ (mT_ p S)
 have hfix:be_ (oQ_ p S) (mi_ p (oQ_ p S))=[]:=by
   rcases ny_ (2*p.length+S.length+3) (be_ [] (cW_ S)) (p:=p) with h|h
   · exact h
   · have h1:=hk.len
     have h2:=eW_ p S
     omega
 refine⟨hk.snd t,fun h=>?_⟩
 induction h with
 | base hb=>exact nx_ _ _ _ (os_ S _ hb)
 | @give x t hx hn hg ih =>
   have hm:t∈mi_ p (oQ_ p S):=List.mem_flatMap.2 ⟨x,List.mem_filter.2 ⟨hx,decide_eq_true ih⟩,hg⟩
   have:=(fj_ (mi_ p (oQ_ p S)) (oQ_ p S) t).2 (.inr hm)
   rw[hfix,List.append_nil]at this
   exact this
def usbB (p:List Pc) (S:List Str) (x:Pc):Bool:=(ae_ x).all fun u=>decide (u∈oQ_ p S)
theorem nk_ (p:List Pc) (S:List Str) (x:Pc):usbB p S x=true↔Usb p S x:=by
 unfold usbB Usb
 rw[List.all_eq_true]
 constructor
 ·intro h u hu;exact (nA_ p S u).1 (of_decide_eq_true (h u hu))
 intro h u hu;exact decide_eq_true ((nA_ p S u).2 (h u hu))
end Go.Vs
namespace Go.Proofs.YtamklbgaipakfaaGreatDoor
open Go Go.Sx Go.Proofs
attribute [local irreducible] Code.wp wpList wpAnyH
open Go.Vs
theorem cq_:iT_ Tryz.prog 83 [(0,1),(1,1)] [.int .i64 0,str []]:=⟨_,aE_,Tryz.runUnderlying83,fun w=>by simp[U_,ah_]⟩
theorem uy_ (x:Pc):Tri Tryz.prog 88 #[Pc.val x] [] [] (fun y:{y:Option Addr×Nat // ((ae_ x)).length≤y.2∧y.2≤maxLen∧(y.1=none→y.2=0)}=>.slice y.1.1 ((ae_ x)).length y.1.2) (fun _=>[]) (fun y=>[ac_ y.1.1 (((ae_ x)).flatMap Thg.cells)]):=by
 refine j_ Tryz.func88 rfl rfl Tryz.ntmps88 rfl fun v0=>?_
 refine Zz 2 ?_
 refine N_ rfl rfl fun b1=>Zi 14 (fun hr1=>?_) fun hr1=>?_
 ·refine Zi 6 (fun hr2=>?_) fun hr2=>?_
  ·refine Zi 5 (fun hr3=>?_) fun hr3=>?_
   ·refine Zi 6 (fun hr4=>?_) fun hr4=>?_
    ·refine Zi 6 (fun hr5=>?_) fun hr5=>?_
     ·refine Zi 6 (fun hr6=>?_) fun hr6=>?_
      ·refine Zi 6 (fun hr7=>?_) fun hr7=>?_
       ·refine Zi 6 (fun hr8=>?_) fun hr8=>?_
        ·refine Zz 12 ?_
         have e0:ae_ x=([]:List Thg):=by have p1:=eq_false hr1;have p2:=eq_false hr2;have p3:=eq_false hr3;have p4:=eq_false hr4;have p5:=eq_false hr5;have p6:=eq_false hr6;have p7:=eq_false hr7;have p8:=eq_false hr8;simp only[ae_,p1,p2,p3,p4,p5,p6,p7,p8,if_true,if_false,decide_true,decide_false,Bool.and_true,Bool.and_false,Bool.true_and,Bool.false_and,Bool.or_true,Bool.or_false,Bool.true_or,Bool.false_or,Bool.not_true,Bool.not_false,ne_eq,not_true_eq_false,not_false_eq_true,true_and,and_true,false_and,and_false,true_or,or_true,false_or,or_false,ite_true,ite_false,Bool.false_eq_true]
         exact E_ ee_ ⟨(none,0),by rw[e0];simp[maxLen]⟩ (bI_ rfl (show _=Value.slice none (ae_ x).length 0 from by rw[e0];rfl)) e_ (fun v _ h=>⟨(show (ac_ none ((ae_ x).flatMap Thg.cells)).p v from by rw[e0];exact .inl rfl),trivial⟩)
        refine Zz 8 ?_
        refine c_ (A_ cq_ rfl rfl) rfl (B_ F_ aB_ aE_ rfl rfl rfl rfl rfl rfl fun b2=>?_)
        refine ai_ (List.flatMap Thg.cells [(Thg.mk 3 x.r)]) i_ rfl ?_
        refine Zz 4 ?_
        have e0:ae_ x=[(Thg.mk 3 x.r)]:=by have p1:=eq_false hr1;have p2:=eq_false hr2;have p3:=eq_false hr3;have p4:=eq_false hr4;have p5:=eq_false hr5;have p6:=eq_false hr6;have p7:=eq_false hr7;have p8:=eq_true hr8;simp only[ae_,p1,p2,p3,p4,p5,p6,p7,p8,if_true,if_false,decide_true,decide_false,Bool.and_true,Bool.and_false,Bool.true_and,Bool.false_and,Bool.or_true,Bool.or_false,Bool.true_or,Bool.false_or,Bool.not_true,Bool.not_false,ne_eq,not_true_eq_false,not_false_eq_true,true_and,and_true,false_and,and_false,true_or,or_true,false_or,or_false,ite_true,ite_false,Bool.false_eq_true]
        exact E_ ee_ ⟨((some ⟨b2,0,none⟩),1),by rw[e0];simp[maxLen]⟩ (bI_ rfl (show _=Value.slice (some ⟨b2,0,none⟩) (ae_ x).length 1 from by rw[e0];rfl)) e_ (fun v _ h=>⟨(show (ac_ (some ⟨b2,0,none⟩) ((ae_ x).flatMap Thg.cells)).p v from by rw[e0];exact h.1),trivial⟩)
       refine Zz 8 ?_
       refine c_ (A_ cq_ rfl rfl) rfl (Zz 2 ?_)
       refine c_ (A_ cq_ rfl rfl) rfl (B_ F_ aB_ aE_ rfl rfl rfl rfl rfl rfl fun b3=>?_)
       refine ai_ (List.flatMap Thg.cells [(Thg.mk 2 x.r),(Thg.mk 2 x.s)]) i_ rfl ?_
       refine Zz 4 ?_
       have e0:ae_ x=[(Thg.mk 2 x.r),(Thg.mk 2 x.s)]:=by have p1:=eq_false hr1;have p2:=eq_false hr2;have p3:=eq_false hr3;have p4:=eq_false hr4;have p5:=eq_false hr5;have p6:=eq_false hr6;have p7:=eq_true hr7;simp only[ae_,p1,p2,p3,p4,p5,p6,p7,if_true,if_false,decide_true,decide_false,Bool.and_true,Bool.and_false,Bool.true_and,Bool.false_and,Bool.or_true,Bool.or_false,Bool.true_or,Bool.false_or,Bool.not_true,Bool.not_false,ne_eq,not_true_eq_false,not_false_eq_true,true_and,and_true,false_and,and_false,true_or,or_true,false_or,or_false,ite_true,ite_false,Bool.false_eq_true]
       exact E_ ee_ ⟨((some ⟨b3,0,none⟩),2),by rw[e0];simp[maxLen]⟩ (bI_ rfl (show _=Value.slice (some ⟨b3,0,none⟩) (ae_ x).length 2 from by rw[e0];rfl)) e_ (fun v _ h=>⟨(show (ac_ (some ⟨b3,0,none⟩) ((ae_ x).flatMap Thg.cells)).p v from by rw[e0];exact h.1),trivial⟩)
      refine Zz 8 ?_
      refine c_ (A_ cq_ rfl rfl) rfl (B_ F_ aB_ aE_ rfl rfl rfl rfl rfl rfl fun b4=>?_)
      refine ai_ (List.flatMap Thg.cells [(Thg.mk 2 x.r)]) i_ rfl ?_
      refine Zz 4 ?_
      have e0:ae_ x=[(Thg.mk 2 x.r)]:=by have p1:=eq_false hr1;have p2:=eq_false hr2;have p3:=eq_false hr3;have p4:=eq_false hr4;have p5:=eq_false hr5;have p6:=eq_true hr6;simp only[ae_,p1,p2,p3,p4,p5,p6,if_true,if_false,decide_true,decide_false,Bool.and_true,Bool.and_false,Bool.true_and,Bool.false_and,Bool.or_true,Bool.or_false,Bool.true_or,Bool.false_or,Bool.not_true,Bool.not_false,ne_eq,not_true_eq_false,not_false_eq_true,true_and,and_true,false_and,and_false,true_or,or_true,false_or,or_false,ite_true,ite_false,Bool.false_eq_true]
      exact E_ ee_ ⟨((some ⟨b4,0,none⟩),1),by rw[e0];simp[maxLen]⟩ (bI_ rfl (show _=Value.slice (some ⟨b4,0,none⟩) (ae_ x).length 1 from by rw[e0];rfl)) e_ (fun v _ h=>⟨(show (ac_ (some ⟨b4,0,none⟩) ((ae_ x).flatMap Thg.cells)).p v from by rw[e0];exact h.1),trivial⟩)
     refine Zz 8 ?_
     refine c_ (A_ cq_ rfl rfl) rfl (Zz 2 ?_)
     refine c_ (A_ cq_ rfl rfl) rfl (B_ F_ aB_ aE_ rfl rfl rfl rfl rfl rfl fun b5=>?_)
     refine ai_ (List.flatMap Thg.cells [(Thg.mk 2 x.r),(Thg.mk 1 x.a)]) i_ rfl ?_
     refine Zz 4 ?_
     have e0:ae_ x=[(Thg.mk 2 x.r),(Thg.mk 1 x.a)]:=by have p1:=eq_false hr1;have p2:=eq_false hr2;have p3:=eq_false hr3;have p4:=eq_false hr4;have p5:=eq_true hr5;simp only[ae_,p1,p2,p3,p4,p5,if_true,if_false,decide_true,decide_false,Bool.and_true,Bool.and_false,Bool.true_and,Bool.false_and,Bool.or_true,Bool.or_false,Bool.true_or,Bool.false_or,Bool.not_true,Bool.not_false,ne_eq,not_true_eq_false,not_false_eq_true,true_and,and_true,false_and,and_false,true_or,or_true,false_or,or_false,ite_true,ite_false,Bool.false_eq_true]
     exact E_ ee_ ⟨((some ⟨b5,0,none⟩),2),by rw[e0];simp[maxLen]⟩ (bI_ rfl (show _=Value.slice (some ⟨b5,0,none⟩) (ae_ x).length 2 from by rw[e0];rfl)) e_ (fun v _ h=>⟨(show (ac_ (some ⟨b5,0,none⟩) ((ae_ x).flatMap Thg.cells)).p v from by rw[e0];exact h.1),trivial⟩)
    refine Zz 8 ?_
    refine c_ (A_ cq_ rfl rfl) rfl (Zz 2 ?_)
    refine c_ (A_ cq_ rfl rfl) rfl (B_ F_ aB_ aE_ rfl rfl rfl rfl rfl rfl fun b6=>?_)
    refine ai_ (List.flatMap Thg.cells [(Thg.mk 1 x.a),(Thg.mk 1 x.b)]) i_ rfl ?_
    refine Zz 4 ?_
    have e0:ae_ x=[(Thg.mk 1 x.a),(Thg.mk 1 x.b)]:=by have p1:=eq_false hr1;have p2:=eq_false hr2;have p3:=eq_false hr3;have p4:=eq_true hr4;simp only[ae_,p1,p2,p3,p4,if_true,if_false,decide_true,decide_false,Bool.and_true,Bool.and_false,Bool.true_and,Bool.false_and,Bool.or_true,Bool.or_false,Bool.true_or,Bool.false_or,Bool.not_true,Bool.not_false,ne_eq,not_true_eq_false,not_false_eq_true,true_and,and_true,false_and,and_false,true_or,or_true,false_or,or_false,ite_true,ite_false,Bool.false_eq_true]
    exact E_ ee_ ⟨((some ⟨b6,0,none⟩),2),by rw[e0];simp[maxLen]⟩ (bI_ rfl (show _=Value.slice (some ⟨b6,0,none⟩) (ae_ x).length 2 from by rw[e0];rfl)) e_ (fun v _ h=>⟨(show (ac_ (some ⟨b6,0,none⟩) ((ae_ x).flatMap Thg.cells)).p v from by rw[e0];exact h.1),trivial⟩)
   refine Zz 8 ?_
   refine c_ (A_ cq_ rfl rfl) rfl (B_ F_ aB_ aE_ rfl rfl rfl rfl rfl rfl fun b7=>?_)
   refine ai_ (List.flatMap Thg.cells [(Thg.mk 1 x.a)]) i_ rfl ?_
   refine Zz 4 ?_
   have e0:ae_ x=[(Thg.mk 1 x.a)]:=by have p1:=eq_false hr1;have p2:=eq_false hr2;have p3:=eq_true hr3;simp only[ae_,p1,p2,p3,if_true,if_false,decide_true,decide_false,Bool.and_true,Bool.and_false,Bool.true_and,Bool.false_and,Bool.or_true,Bool.or_false,Bool.true_or,Bool.false_or,Bool.not_true,Bool.not_false,ne_eq,not_true_eq_false,not_false_eq_true,true_and,and_true,false_and,and_false,true_or,or_true,false_or,or_false,ite_true,ite_false,Bool.false_eq_true]
   exact E_ ee_ ⟨((some ⟨b7,0,none⟩),1),by rw[e0];simp[maxLen]⟩ (bI_ rfl (show _=Value.slice (some ⟨b7,0,none⟩) (ae_ x).length 1 from by rw[e0];rfl)) e_ (fun v _ h=>⟨(show (ac_ (some ⟨b7,0,none⟩) ((ae_ x).flatMap Thg.cells)).p v from by rw[e0];exact h.1),trivial⟩)
  refine Zz 11 ?_
  refine c_ (A_ cq_ rfl rfl) rfl (B_ F_ aB_ aE_ rfl rfl rfl rfl rfl rfl fun b8=>?_)
  refine ai_ (List.flatMap Thg.cells [(Thg.mk 1 x.a)]) i_ rfl ?_
  refine Zz 4 ?_
  have e0:ae_ x=[(Thg.mk 1 x.a)]:=by have p1:=eq_false hr1;have p2:=eq_true hr2;simp only[ae_,p1,p2,if_true,if_false,decide_true,decide_false,Bool.and_true,Bool.and_false,Bool.true_and,Bool.false_and,Bool.or_true,Bool.or_false,Bool.true_or,Bool.false_or,Bool.not_true,Bool.not_false,ne_eq,not_true_eq_false,not_false_eq_true,true_and,and_true,false_and,and_false,true_or,or_true,false_or,or_false,ite_true,ite_false,Bool.false_eq_true]
  exact E_ ee_ ⟨((some ⟨b8,0,none⟩),1),by rw[e0];simp[maxLen]⟩ (bI_ rfl (show _=Value.slice (some ⟨b8,0,none⟩) (ae_ x).length 1 from by rw[e0];rfl)) e_ (fun v _ h=>⟨(show (ac_ (some ⟨b8,0,none⟩) ((ae_ x).flatMap Thg.cells)).p v from by rw[e0];exact h.1),trivial⟩)
 refine Zz 11 ?_
 refine c_ (A_ cq_ rfl rfl) rfl (B_ F_ aB_ aE_ rfl rfl rfl rfl rfl rfl fun b9=>?_)
 refine ai_ (List.flatMap Thg.cells [(Thg.mk 1 x.a)]) i_ rfl ?_
 refine Zz 4 ?_
 have e0:ae_ x=[(Thg.mk 1 x.a)]:=by have p1:=eq_true hr1;simp only[ae_,p1,if_true,if_false,decide_true,decide_false,Bool.and_true,Bool.and_false,Bool.true_and,Bool.false_and,Bool.or_true,Bool.or_false,Bool.true_or,Bool.false_or,Bool.not_true,Bool.not_false,ne_eq,not_true_eq_false,not_false_eq_true,true_and,and_true,false_and,and_false,true_or,or_true,false_or,or_false,ite_true,ite_false,Bool.false_eq_true]
 exact E_ ee_ ⟨((some ⟨b9,0,none⟩),1),by rw[e0];simp[maxLen]⟩ (bI_ rfl (show _=Value.slice (some ⟨b9,0,none⟩) (ae_ x).length 1 from by rw[e0];rfl)) e_ (fun v _ h=>⟨(show (ac_ (some ⟨b9,0,none⟩) ((ae_ x).flatMap Thg.cells)).p v from by rw[e0];exact h.1),trivial⟩)
theorem uI_ (x:Pc):Tri Tryz.prog 87 #[Pc.val x] [] [] (fun y:{y:Option Addr×Nat // ((W_ x)).length≤y.2∧y.2≤maxLen∧(y.1=none→y.2=0)}=>.slice y.1.1 ((W_ x)).length y.1.2) (fun _=>[]) (fun y=>[ac_ y.1.1 (((W_ x)).flatMap Thg.cells)]):=by
 refine j_ Tryz.func87 rfl rfl Tryz.ntmps87 rfl fun v0=>?_
 refine Zz 2 ?_
 refine N_ rfl rfl fun b1=>Zi 14 (fun hr1=>?_) fun hr1=>?_
 ·refine Zi 6 (fun hr2=>?_) fun hr2=>?_
  ·refine Zi 6 (fun hr3=>?_) fun hr3=>?_
   ·refine Zi 5 (fun hr4=>?_) fun hr4=>?_
    ·refine Zi 6 (fun hr5=>?_) fun hr5=>?_
     ·refine Zi 7 (fun hr6=>?_) fun hr6=>?_
      ·refine Zi 5 (fun hr7=>?_) fun hr7=>?_
       ·refine Zi 6 (fun hr8=>?_) fun hr8=>?_
        ·refine Zi 6 (fun hr9=>?_) fun hr9=>?_
         ·refine Zz 12 ?_
          have e0:W_ x=([]:List Thg):=by have p1:=eq_false hr1;have p2:=eq_false hr2;have p3:=eq_false hr3;have p4:=eq_false hr4;have p5:=eq_false hr5;have p6:=eq_false hr6;have p7:=eq_false hr7;have p8:=eq_false hr8;have p9:=eq_false hr9;simp only[W_,p1,p2,p3,p4,p5,p6,p7,p8,p9,if_true,if_false,decide_true,decide_false,Bool.and_true,Bool.and_false,Bool.true_and,Bool.false_and,Bool.or_true,Bool.or_false,Bool.true_or,Bool.false_or,Bool.not_true,Bool.not_false,ne_eq,not_true_eq_false,not_false_eq_true,true_and,and_true,false_and,and_false,true_or,or_true,false_or,or_false,ite_true,ite_false,Bool.false_eq_true]
          exact E_ dx_ ⟨(none,0),by rw[e0];simp[maxLen]⟩ (bI_ rfl (show _=Value.slice none (W_ x).length 0 from by rw[e0];rfl)) e_ (fun v _ h=>⟨(show (ac_ none ((W_ x).flatMap Thg.cells)).p v from by rw[e0];exact .inl rfl),trivial⟩)
         refine Zz 8 ?_
         refine c_ (A_ cq_ rfl rfl) rfl (B_ F_ aB_ aE_ rfl rfl rfl rfl rfl rfl fun b2=>?_)
         refine ai_ (List.flatMap Thg.cells [(Thg.mk 3 x.r)]) i_ rfl ?_
         refine Zz 4 ?_
         have e0:W_ x=[(Thg.mk 3 x.r)]:=by have p1:=eq_false hr1;have p2:=eq_false hr2;have p3:=eq_false hr3;have p4:=eq_false hr4;have p5:=eq_false hr5;have p6:=eq_false hr6;have p7:=eq_false hr7;have p8:=eq_false hr8;have p9:=eq_true hr9;simp only[W_,p1,p2,p3,p4,p5,p6,p7,p8,p9,if_true,if_false,decide_true,decide_false,Bool.and_true,Bool.and_false,Bool.true_and,Bool.false_and,Bool.or_true,Bool.or_false,Bool.true_or,Bool.false_or,Bool.not_true,Bool.not_false,ne_eq,not_true_eq_false,not_false_eq_true,true_and,and_true,false_and,and_false,true_or,or_true,false_or,or_false,ite_true,ite_false,Bool.false_eq_true]
         exact E_ dx_ ⟨((some ⟨b2,0,none⟩),1),by rw[e0];simp[maxLen]⟩ (bI_ rfl (show _=Value.slice (some ⟨b2,0,none⟩) (W_ x).length 1 from by rw[e0];rfl)) e_ (fun v _ h=>⟨(show (ac_ (some ⟨b2,0,none⟩) ((W_ x).flatMap Thg.cells)).p v from by rw[e0];exact h.1),trivial⟩)
        refine Zz 8 ?_
        refine c_ (A_ cq_ rfl rfl) rfl (B_ F_ aB_ aE_ rfl rfl rfl rfl rfl rfl fun b3=>?_)
        refine ai_ (List.flatMap Thg.cells [(Thg.mk 2 x.r)]) i_ rfl ?_
        refine Zz 4 ?_
        have e0:W_ x=[(Thg.mk 2 x.r)]:=by have p1:=eq_false hr1;have p2:=eq_false hr2;have p3:=eq_false hr3;have p4:=eq_false hr4;have p5:=eq_false hr5;have p6:=eq_false hr6;have p7:=eq_false hr7;have p8:=eq_true hr8;simp only[W_,p1,p2,p3,p4,p5,p6,p7,p8,if_true,if_false,decide_true,decide_false,Bool.and_true,Bool.and_false,Bool.true_and,Bool.false_and,Bool.or_true,Bool.or_false,Bool.true_or,Bool.false_or,Bool.not_true,Bool.not_false,ne_eq,not_true_eq_false,not_false_eq_true,true_and,and_true,false_and,and_false,true_or,or_true,false_or,or_false,ite_true,ite_false,Bool.false_eq_true]
        exact E_ dx_ ⟨((some ⟨b3,0,none⟩),1),by rw[e0];simp[maxLen]⟩ (bI_ rfl (show _=Value.slice (some ⟨b3,0,none⟩) (W_ x).length 1 from by rw[e0];rfl)) e_ (fun v _ h=>⟨(show (ac_ (some ⟨b3,0,none⟩) ((W_ x).flatMap Thg.cells)).p v from by rw[e0];exact h.1),trivial⟩)
       refine Zz 8 ?_
       refine c_ (A_ cq_ rfl rfl) rfl (B_ F_ aB_ aE_ rfl rfl rfl rfl rfl rfl fun b4=>?_)
       refine ai_ (List.flatMap Thg.cells [(Thg.mk 2 x.t)]) i_ rfl ?_
       refine Zz 4 ?_
       have e0:W_ x=[(Thg.mk 2 x.t)]:=by have p1:=eq_false hr1;have p2:=eq_false hr2;have p3:=eq_false hr3;have p4:=eq_false hr4;have p5:=eq_false hr5;have p6:=eq_false hr6;have p7:=eq_true hr7;simp only[W_,p1,p2,p3,p4,p5,p6,p7,if_true,if_false,decide_true,decide_false,Bool.and_true,Bool.and_false,Bool.true_and,Bool.false_and,Bool.or_true,Bool.or_false,Bool.true_or,Bool.false_or,Bool.not_true,Bool.not_false,ne_eq,not_true_eq_false,not_false_eq_true,true_and,and_true,false_and,and_false,true_or,or_true,false_or,or_false,ite_true,ite_false,Bool.false_eq_true]
       exact E_ dx_ ⟨((some ⟨b4,0,none⟩),1),by rw[e0];simp[maxLen]⟩ (bI_ rfl (show _=Value.slice (some ⟨b4,0,none⟩) (W_ x).length 1 from by rw[e0];rfl)) e_ (fun v _ h=>⟨(show (ac_ (some ⟨b4,0,none⟩) ((W_ x).flatMap Thg.cells)).p v from by rw[e0];exact h.1),trivial⟩)
      refine Zz 11 ?_
      refine c_ (A_ cq_ rfl rfl) rfl (B_ F_ aB_ aE_ rfl rfl rfl rfl rfl rfl fun b5=>?_)
      refine ai_ (List.flatMap Thg.cells [(Thg.mk 2 x.t)]) i_ rfl ?_
      refine Zz 4 ?_
      have e0:W_ x=[(Thg.mk 2 x.t)]:=by have p1:=eq_false hr1;have p2:=eq_false hr2;have p3:=eq_false hr3;have p4:=eq_false hr4;have p5:=eq_false hr5;have p6:=eq_true hr6;simp only[W_,p1,p2,p3,p4,p5,p6,if_true,if_false,decide_true,decide_false,Bool.and_true,Bool.and_false,Bool.true_and,Bool.false_and,Bool.or_true,Bool.or_false,Bool.true_or,Bool.false_or,Bool.not_true,Bool.not_false,ne_eq,not_true_eq_false,not_false_eq_true,true_and,and_true,false_and,and_false,true_or,or_true,false_or,or_false,ite_true,ite_false,Bool.false_eq_true]
      exact E_ dx_ ⟨((some ⟨b5,0,none⟩),1),by rw[e0];simp[maxLen]⟩ (bI_ rfl (show _=Value.slice (some ⟨b5,0,none⟩) (W_ x).length 1 from by rw[e0];rfl)) e_ (fun v _ h=>⟨(show (ac_ (some ⟨b5,0,none⟩) ((W_ x).flatMap Thg.cells)).p v from by rw[e0];exact h.1),trivial⟩)
     refine Zz 8 ?_
     refine c_ (A_ cq_ rfl rfl) rfl (Zz 2 ?_)
     refine c_ (A_ cq_ rfl rfl) rfl (B_ F_ aB_ aE_ rfl rfl rfl rfl rfl rfl fun b6=>?_)
     refine ai_ (List.flatMap Thg.cells [(Thg.mk 2 x.r),(Thg.mk 1 x.c)]) i_ rfl ?_
     refine Zz 4 ?_
     have e0:W_ x=[(Thg.mk 2 x.r),(Thg.mk 1 x.c)]:=by have p1:=eq_false hr1;have p2:=eq_false hr2;have p3:=eq_false hr3;have p4:=eq_false hr4;have p5:=eq_true hr5;simp only[W_,p1,p2,p3,p4,p5,if_true,if_false,decide_true,decide_false,Bool.and_true,Bool.and_false,Bool.true_and,Bool.false_and,Bool.or_true,Bool.or_false,Bool.true_or,Bool.false_or,Bool.not_true,Bool.not_false,ne_eq,not_true_eq_false,not_false_eq_true,true_and,and_true,false_and,and_false,true_or,or_true,false_or,or_false,ite_true,ite_false,Bool.false_eq_true]
     exact E_ dx_ ⟨((some ⟨b6,0,none⟩),2),by rw[e0];simp[maxLen]⟩ (bI_ rfl (show _=Value.slice (some ⟨b6,0,none⟩) (W_ x).length 2 from by rw[e0];rfl)) e_ (fun v _ h=>⟨(show (ac_ (some ⟨b6,0,none⟩) ((W_ x).flatMap Thg.cells)).p v from by rw[e0];exact h.1),trivial⟩)
    refine Zz 8 ?_
    refine c_ (A_ cq_ rfl rfl) rfl (B_ F_ aB_ aE_ rfl rfl rfl rfl rfl rfl fun b7=>?_)
    refine ai_ (List.flatMap Thg.cells [(Thg.mk 1 x.c)]) i_ rfl ?_
    refine Zz 4 ?_
    have e0:W_ x=[(Thg.mk 1 x.c)]:=by have p1:=eq_false hr1;have p2:=eq_false hr2;have p3:=eq_false hr3;have p4:=eq_true hr4;simp only[W_,p1,p2,p3,p4,if_true,if_false,decide_true,decide_false,Bool.and_true,Bool.and_false,Bool.true_and,Bool.false_and,Bool.or_true,Bool.or_false,Bool.true_or,Bool.false_or,Bool.not_true,Bool.not_false,ne_eq,not_true_eq_false,not_false_eq_true,true_and,and_true,false_and,and_false,true_or,or_true,false_or,or_false,ite_true,ite_false,Bool.false_eq_true]
    exact E_ dx_ ⟨((some ⟨b7,0,none⟩),1),by rw[e0];simp[maxLen]⟩ (bI_ rfl (show _=Value.slice (some ⟨b7,0,none⟩) (W_ x).length 1 from by rw[e0];rfl)) e_ (fun v _ h=>⟨(show (ac_ (some ⟨b7,0,none⟩) ((W_ x).flatMap Thg.cells)).p v from by rw[e0];exact h.1),trivial⟩)
   refine Zz 11 ?_
   refine c_ (A_ cq_ rfl rfl) rfl (B_ F_ aB_ aE_ rfl rfl rfl rfl rfl rfl fun b8=>?_)
   refine ai_ (List.flatMap Thg.cells [(Thg.mk 1 x.c)]) i_ rfl ?_
   refine Zz 4 ?_
   have e0:W_ x=[(Thg.mk 1 x.c)]:=by have p1:=eq_false hr1;have p2:=eq_false hr2;have p3:=eq_true hr3;simp only[W_,p1,p2,p3,if_true,if_false,decide_true,decide_false,Bool.and_true,Bool.and_false,Bool.true_and,Bool.false_and,Bool.or_true,Bool.or_false,Bool.true_or,Bool.false_or,Bool.not_true,Bool.not_false,ne_eq,not_true_eq_false,not_false_eq_true,true_and,and_true,false_and,and_false,true_or,or_true,false_or,or_false,ite_true,ite_false,Bool.false_eq_true]
   exact E_ dx_ ⟨((some ⟨b8,0,none⟩),1),by rw[e0];simp[maxLen]⟩ (bI_ rfl (show _=Value.slice (some ⟨b8,0,none⟩) (W_ x).length 1 from by rw[e0];rfl)) e_ (fun v _ h=>⟨(show (ac_ (some ⟨b8,0,none⟩) ((W_ x).flatMap Thg.cells)).p v from by rw[e0];exact h.1),trivial⟩)
  refine Zz 11 ?_
  refine c_ (A_ cq_ rfl rfl) rfl (B_ F_ aB_ aE_ rfl rfl rfl rfl rfl rfl fun b9=>?_)
  refine ai_ (List.flatMap Thg.cells [(Thg.mk 1 x.c)]) i_ rfl ?_
  refine Zz 4 ?_
  have e0:W_ x=[(Thg.mk 1 x.c)]:=by have p1:=eq_false hr1;have p2:=eq_true hr2;simp only[W_,p1,p2,if_true,if_false,decide_true,decide_false,Bool.and_true,Bool.and_false,Bool.true_and,Bool.false_and,Bool.or_true,Bool.or_false,Bool.true_or,Bool.false_or,Bool.not_true,Bool.not_false,ne_eq,not_true_eq_false,not_false_eq_true,true_and,and_true,false_and,and_false,true_or,or_true,false_or,or_false,ite_true,ite_false,Bool.false_eq_true]
  exact E_ dx_ ⟨((some ⟨b9,0,none⟩),1),by rw[e0];simp[maxLen]⟩ (bI_ rfl (show _=Value.slice (some ⟨b9,0,none⟩) (W_ x).length 1 from by rw[e0];rfl)) e_ (fun v _ h=>⟨(show (ac_ (some ⟨b9,0,none⟩) ((W_ x).flatMap Thg.cells)).p v from by rw[e0];exact h.1),trivial⟩)
 refine Zz 11 ?_
 refine c_ (A_ cq_ rfl rfl) rfl (B_ F_ aB_ aE_ rfl rfl rfl rfl rfl rfl fun b10=>?_)
 refine ai_ (List.flatMap Thg.cells [(Thg.mk 1 x.c)]) i_ rfl ?_
 refine Zz 4 ?_
 have e0:W_ x=[(Thg.mk 1 x.c)]:=by have p1:=eq_true hr1;simp only[W_,p1,if_true,if_false,decide_true,decide_false,Bool.and_true,Bool.and_false,Bool.true_and,Bool.false_and,Bool.or_true,Bool.or_false,Bool.true_or,Bool.false_or,Bool.not_true,Bool.not_false,ne_eq,not_true_eq_false,not_false_eq_true,true_and,and_true,false_and,and_false,true_or,or_true,false_or,or_false,ite_true,ite_false,Bool.false_eq_true]
 exact E_ dx_ ⟨((some ⟨b10,0,none⟩),1),by rw[e0];simp[maxLen]⟩ (bI_ rfl (show _=Value.slice (some ⟨b10,0,none⟩) (W_ x).length 1 from by rw[e0];rfl)) e_ (fun v _ h=>⟨(show (ac_ (some ⟨b10,0,none⟩) ((W_ x).flatMap Thg.cells)).p v from by rw[e0];exact h.1),trivial⟩)
theorem eqTh (p q:Thg) (w:World):(Op.equalIn 10000 83 (Thg.val p) (Thg.val q)).run Tryz.prog w=.ok (decide (p=q)) w:=by
  have h:=run_equalIn_struct (P:=Tryz.prog) w 9999 83 (Thg.cells p).toArray (Thg.cells q).toArray (by simp only[Program.fieldsOf,Tryz.underlying83]) Tryz.stoodInHeld83
  refine h.trans ?_
  rw[← Thg.eqb_eq]
  simp only[Program.fieldsOf,Tryz.underlying83]
  exact dp_ rfl aZ_ rfl rfl (eqI w_ w) (dp_ rfl aL_ rfl rfl (eqS cm_ w) (qr_ w))
theorem okTh (p:Thg):ji_ Tryz.prog 83 (Thg.val p):=fun e w=>by
 have hi:∀ (n:Int) (w:World),(Instr.checkKey e (9998+1) 3 (.int .i64 n)).run Tryz.prog w=.ok () w:=fun n w=>MapKept.run_checkKey (d:=.int .i64) w_ (by simp[MapKept.IsKey]) e 9998
 have hs:∀ (n:Str) (w:World),(Instr.checkKey e (9998+1) 9 (str n)).run Tryz.prog w=.ok () w:=fun n w=>MapKept.run_checkKey (d:=.string) cm_ (by simp[MapKept.IsKey,str]) e 9998
 refine ckF (n:=9999) Tryz.underlying83 fun f hf=>?_
 simp only[List.mem_cons,List.not_mem_nil,or_false]at hf
 rcases hf with rfl|rfl
 ·exact⟨rfl,aZ_,_,rfl,hi _⟩
 exact⟨rfl,aL_,_,rfl,hs _⟩
theorem nW_:KeyT Tryz.prog 83 Thg.val:=nX_ (K:=Thg) Tryz.underlying83 okTh (fun p q w=>eqTh p q w) fun k=>sx_ (l:=Thg.cells k) fun v hv=>by
 simp only[Thg.cells,List.mem_cons,List.not_mem_nil,or_false]at hv
 rcases hv with rfl|rfl
 ·exact ns_ _ _
 exact sw_ _ _
theorem uL_:Elt Tryz.prog 139 83 2 24:=fo_ Tryz.underlying139 (z:=.agg #[.int .i64 0,str []]) (by kernel_rfl) rfl (by decide)
theorem Thg.cells_one (x:Thg):x.cells.all Value.oneCell'=true:=rfl
theorem jA_:Elt Tryz.prog 27 3 1 8:=fo_ Tryz.underlying27 (z:=.int .i64 0) (by kernel_rfl) rfl (by decide)
theorem pm_:KeyT Tryz.prog 3 (fun n:Int=>.int .i64 n):=tc_ w_
theorem add_c (t:Thg) (K W:List Thg) (b4 b8 kb:Nat) (es:Array MapEntry) (c:Nat) (sv:Value) (Hw:Hp) (hE:SetE Thg.val es K) (hB:Born es c) (hr:ar_ 83 2 sv W.length (W.flatMap Thg.cells) Hw) (hl:W.length≤1000000000):Tri Tryz.prog 85 #[Thg.val t,zp_ b4 0,zp_ b8 0] ((b4,.cells #[.map (some kb)] 78 (0,0))::(b8,.cells #[sv] 139 (0,0))::(kb,.map es c)::Hw) [] (fun _:{H:Hp // StK 78 139 83 b4 b8 kb (K++be_ K [t]) (W++be_ K [t]) H}=>.tuple #[]) (fun y=>y.1) (fun _=>[]):=by
 refine j_ Tryz.func85 rfl rfl Tryz.ntmps85 rfl fun v0=>?_
 refine Zz 2 ?_
 refine N_ rfl rfl fun b1=>Zz 6 ?_
 refine y_ (gn_ (k:=t) nW_ Tryz.runUnderlying78 fL_ rfl rfl hE (fun v h _=>(h.own _ (List.mem_of_getElem? (i:=3) rfl)).1)) rfl fun r1 hr1=>c_ (aG_ rfl) rfl (Zz 2 ?_)
 cases r1
 ·replace hr1:=zdf hr1
  refine Zz 5 ?_
  refine rq_ (k:=t) 3 nW_ (.inr rfl) Tryz.runUnderlying78 rfl rfl rfl rfl hE fun ej1 cj1 hj1 hbj1=>Zz 5 ?_
  refine B_ F_ aB_ aE_ rfl rfl rfl rfl rfl rfl fun b2=>?_
  refine aX_ (news:=List.flatMap Thg.cells [t]) uL_ hr rfl rfl (l_ (l_ (l_ (l_ au_)))) rfl (bC_ 0 rfl) (fun u hu=>bY_ Thg.cells_one hu) (by simp only[maxLen];omega) (by omega) rfl fun sv1 Hr1 hr1=>?_
  refine u_ List.perm_append_comm ?_
  have hq1:=zsa hr1
  refine cs_ 3 hq1 Tryz.sizeOf139 rfl rfl rfl rfl (Zz 2 ?_)
  have q0:¬ t∈K:=by assumption
  have e0:be_ K [t]=[t]:=by simp[be_,q0]
  exact dS_ Tryz.results85 ⟨_,ej1,cj1,sv1,Hr1,rfl,by rw[e0];rw[if_neg (by assumption)]at hj1;exact hj1,(hbj1 hB),by rw[e0];exact hq1⟩ rfl (V_ (l_ (l_ i_)) (V_ (l_ (l_ i_)) (V_ (l_ (l_ i_)) (l_ au_)))) zt
 replace hr1:=zdt hr1
 refine Zz 3 ?_
 have q0:t∈K:=by assumption
 have e0:be_ K [t]=[]:=by simp[be_,q0]
 exact dS_ Tryz.results85 ⟨_,es,c,sv,Hw,rfl,by rw[e0,List.append_nil];exact hE,hB,by rw[e0,List.append_nil];exact hr⟩ rfl zp zt
theorem mW_ (t:Thg) (K W:List Thg) (b4 b8 kb:Nat) (Hs:Hp) (hS:StK 78 139 83 b4 b8 kb K W Hs) (hl:W.length≤1000000000):Tri Tryz.prog 85 #[t.val,zp_ b4 0,zp_ b8 0] Hs [] (fun _:{H:Hp // StK 78 139 83 b4 b8 kb (K++be_ K [t]) (W++be_ K [t]) H}=>.tuple #[]) (fun y=>y.1) (fun _=>[]):=by
  obtain⟨es,c,sv,Hw,rfl,hE,hB,hr⟩:=hS
  exact add_c t K W b4 b8 kb es c sv Hw hE hB hr hl
theorem va_ (i:Nat) (x:Pc) (p:List Pc) (ad:Option Addr) (cap:Nat) (K W:List Thg) (U:List Bool) (b2 b4 b5 b8 b9 kb:Nat) (sv:Value) (Hu Hs:Hp) (hx:p[i]? = some x) (hp:p.length≤100000000) (hU:zR 4 1 gI_ sv U Hu) (hUl:U.length=p.length) (hS:StK 78 139 83 b4 b8 kb K W Hs) (hl:W.length≤900000000):Tri Tryz.prog 86 #[.int .i64 (i:Int),zp_ b5 0,zp_ b2 0,zp_ b9 0] ((b5,.cells #[sv] 79 (0,0))::(Hu++Hs)) [bj_ b2 (.cells #[.slice ad (List.length p) cap] 54 (0,0)),bj_ b9 (.cells #[.func (.func 85) #[] #[zp_ b4 0,zp_ b8 0]] 140 (0,0)),ac_ ad (List.flatMap Pc.cells p)] (fun _:{y:Hp×Hp // zR 4 1 gI_ sv (List.set U i true) y.1∧StK 78 139 83 b4 b8 kb (K++be_ K (W_ x)) (W++be_ K (W_ x)) y.2}=>.tuple #[]) (fun y=>(b5,.cells #[sv] 79 (0,0))::(y.1.1++y.1.2)) (fun _=>[]):=by
 refine j_ Tryz.func86 rfl rfl Tryz.ntmps86 rfl fun v0=>?_
 have hil:=(List.getElem?_eq_some_iff.1 hx).1
 obtain⟨u0,hu0⟩:∃ u0,U[i]? = some u0:=⟨_,List.getElem?_eq_getElem (by omega)⟩
 refine Zz 4 ?_
 refine c_ (bv_ hU Tryz.runUnderlying79 cj_ rfl rfl (by omega) (by omega)) rfl (dU_ (k:=(i:Int).toNat*1+0) hU zp cj_ rfl rfl (by omega) rfl rfl fun Hr1 hr1=>?_)
 have hs1:=(fZ_ gI_ 1 lW_ U i 0 u0 true (.bool true) hu0 (by decide) rfl).trans (congrArg _ (rfl))
 have hq1:ar_ 4 1 sv (List.length (List.set U i true)) (List.flatMap gI_ (List.set U i true)) Hr1:=by rw[← hs1,show List.length (List.set U i true)=List.length U from (List.length_set ..)];exact hr1
 refine Zz 2 ?_
 refine u_ (bO_ (an_ i_)) (Zz 6 ?_)
 refine d_ (uI_ x) rfl e_ zt rfl fun⟨⟨gad,gcap⟩,gcl,gcm,gcz⟩=>?_
 dsimp only
 refine Zz 5 ?_
 refine Y_ (ι:={y:Nat×Hp // y.1≤List.length (W_ x)∧StK 78 139 83 b4 b8 kb (K++be_ K (List.take y.1 (W_ x))) (W++be_ K (List.take y.1 (W_ x))) y.2}) (fun y=>[(3,zp_ b9 0),(14,.slice gad (List.length (W_ x)) gcap),(15,.int .i64 (List.length (W_ x):Int)),(16,.int .i64 (y.1.1:Int))]) (fun y=>((b5,.cells #[sv] 79 (0,0))::(Hr1++y.1.2))) (fun y=>[ac_ gad (List.flatMap Thg.cells (W_ x)),bj_ b2 (.cells #[.slice ad (List.length p) cap] 54 (0,0)),bj_ b9 (.cells #[.func (.func 85) #[] #[zp_ b4 0,zp_ b8 0]] 140 (0,0)),ac_ ad (List.flatMap Pc.cells p)]) (fun y=>List.length (W_ x) - y.1.1) ⟨((0:Nat),Hs),by simp,(by rw[List.take_zero];simpa [be_] using hS)⟩ zl zp zh ?_
 rintro ⟨⟨j,Hs1⟩,hi_j,hS1⟩
 dsimp only at hi_j hS1 ⊢
 have hwl:=fH_ (List.take j (W_ x)) K
 have htl:=List.length_take_le j (W_ x)
 have hgl:=kt_ x
 refine Zi 2 (fun hr1=>?_) fun hr1=>?_
 ·refine Zz 6 ?_
  rw[List.take_of_length_le (by omega)]at hS1
  exact dS_ Tryz.results86 ⟨(Hr1,Hs1),hq1,hS1⟩ rfl zp zt
 have hly1:j<List.length (W_ x):=by omega
 obtain⟨y1,hy1⟩:∃ e0,(W_ x)[j]? = some e0:=⟨_,List.getElem?_eq_getElem hly1⟩
 have hmy1:y1∈(W_ x):=List.mem_of_getElem? hy1
 refine Zz 10 ?_
 refine c_ (C_ F_ aB_ rfl rfl (fun v _ h=>q_ (n:=2) Thg.cells_len (by decide) (by exact h.1) hy1) (by omega) (by first|omega|(simp;done))) rfl ?_
 refine c_ (L_ (ad:=gad) (us:=Thg.cells y1) Tryz.isAgg83 aB_ rfl zf (Thg.cells_len _) (o_ Thg.cells_len hy1)) rfl (G_ aE_ rfl fun b1=>n_ 0 aB_ rfl rfl rfl rfl rfl rfl (Zz 5 ?_))
 refine ax_ (mW_ y1 (K++be_ K (List.take j (W_ x))) (W++be_ K (List.take j (W_ x))) b4 b8 kb Hs1 hS1 (by simp only[List.length_append];omega)) rfl rfl (l_ (l_ br_)) zt rfl fun⟨HA1,hA1⟩=>?_
 dsimp only
 refine Zz 2 ?_
 refine u_ (bm_ (an_ i_) (bO_ (an_ i_))) (Zz 5 ?_)
 exact z_ ⟨(j+1,HA1),hly1,(by rw[oi_ hy1,oi_ hy1];exact hA1)⟩ (by dsimp only;omega) zl zp zh
end Go.Proofs.YtamklbgaipakfaaGreatDoor
namespace Go.Proofs.YtamklbgaipakfaaGreatDoor
open Go Go.Sx Go.Proofs
attribute [local irreducible] Code.wp wpList wpAnyH
open Go.Vs
theorem ut_ {P:Program} {e:TypeId} {sz n:Nat} {sv:Value} {xs:List Value} {Hr:Hp} (hr:ar_ e sz sv (n+1) xs Hr):∃ sv',ar_ e sz sv' n (xs.take (n*sz)) Hr ∧
    ∀ {N:Nf} {fr:Fr} {H:Hp} {Γ:List Fct} {ty t:TypeId} {x y:Operand},(∀ w,(underlying t).run P w=.ok (.slice e) w)→(∀ w,(sizeOf e).run P w=.ok sz w)→Fr.ev fr x=some sv→Fr.ev fr y=some (.int .i64 (n:Int))→Yld P N fr H Γ (.slice t x none (some y) none) ty sv':=by
  obtain⟨hl,⟨_,h0,_⟩|⟨g,cap,cur,rfl,rfl,hn,hm,hc,hx⟩⟩:=hr
  · omega
  · refine⟨.slice (some ⟨g,0,none⟩) n cap,⟨?_,.inr ⟨g,cap,cur,rfl,rfl,by omega,hm,hc,?_⟩⟩,fun hu hs hx hy=>?_⟩
    · rw[List.length_take,hl,Nat.add_mul];omega
    · rw[← hx,List.take_take,Nat.min_eq_left (by rw[Nat.add_mul];omega)]
    · refine aA_ (df_ (i:=0) (j:=n) (kl:=.i64) (kh:=.i64) hu hs hx rfl hy (Nat.zero_le _) (by omega)) ?_
      unfold sad
      rw[if_neg (by omega)]
      simp[cp_]
section
variable {P:Program} {N:Nf} {v0:Vw} {H0:Hp} {fr:Fr}
theorem jf_:∀ (B:Hp) {v:Vw},ag_ (B.map fun p=>bj_ p.1 p.2) v→∀ p∈B,v.im p.1∧v.w.heap[p.1]? = some p.2
 | [],_,_,_,h=>by simp at h
 | q::B,v,h,p,hp=>by
   rcases List.mem_cons.1 hp with rfl|hp
   · exact h.1
   · exact jf_ B h.2 p hp
theorem ru_ {F H:Hp} {Γ:List Fct} {K D:Type} [DecidableEq K] {k:Act→World→Prop} {kv:K→Value} {cells:D→List Value} {kt e:TypeId} {sz mb:Nat} {l:List (K×D)} {Hm:Hp} (hK:KeyT P kt kv) (hm:gk_ kv cells e sz l mb Hm) (hH:H.Perm (Hm++F))
    (h:∀ adr,Ok N v0 H0 k fr F (mlF P kt kv cells mb l adr::Γ)):Ok N v0 H0 k fr H Γ:=by
  obtain⟨adr,ha⟩:=hm.lent hK
  refine nQ_ Hm hH (fe_ (fun v _ hv=>?_) (h adr))
  rw[eU_]at hv
  refine⟨ha v fun p hp=>?_,hv.2⟩
  have:=hv.1
  exact jf_ Hm.reverse (by rw[List.map_reverse]at *;exact this) p (List.mem_reverse.2 hp)
end
theorem un_ {P:Program} {N:Nf} {fr:Fr} {H:Hp} {fn:Func} {t s b c:Nat} {ty ty2 T T2:TypeId} {u u2:Value} (i j:Nat) (hr:fn.results=#[.cell t ty,.cell s ty2]) (ha:∀ w,(isAgg ty).run P w=.ok false w) (ha2:∀ w,(isAgg ty2).run P w=.ok false w)
    (hx:Fr.get fr t=some (zp_ b 0)) (hx2:Fr.get fr s=some (zp_ c 0)) (hi:H[i]? = some (b,.cells #[u] T (0,0))) (hj:H[j]? = some (c,.cells #[u2] T2 (0,0))) (a:Act) (v:Vw) (h1:Fr.sat N fr a) (h2:v.sat H) :
    (results fn a.tmps).run P v.w=.ok (.tuple #[u,u2]) v.w:=by
  have e:=h1.val t _ hx
  have e2:=h1.val s _ hx2
  have hc:v.w.cell? ⟨b,0,none⟩=some u:=by rw[ei_ h2 hi];rfl
  have hc2:v.w.cell? ⟨c,0,none⟩=some u2:=by rw[ei_ h2 hj];rfl
  have hl:=bH_ (t:=ty) (w:=v.w) ha hc
  have hl2:=bH_ (t:=ty2) (w:=v.w) ha2 hc2
  simp[results,hr,e,e2,asAddr,hl,hl2]
theorem uo_ (p:List Pc) (ad:Option Addr) (cap:Nat) (S:List Str) (sad:Option Addr) (scap:Nat) (hp:p.length≤100000000) (hS:S.length≤100000000):Tri Tryz.prog 42 #[.slice ad (List.length p) cap,.slice sad (List.length S) scap] [] [ac_ ad (List.flatMap Pc.cells p),ac_ sad (List.flatMap aJ_ S)] (fun y:{y:Nat×Array MapEntry×Nat×List Thg×Value×List Bool×Hp // SetE Thg.val y.2.1 y.2.2.2.1∧Born y.2.1 y.2.2.1∧zR 4 1 gI_ y.2.2.2.2.1 y.2.2.2.2.2.1 y.2.2.2.2.2.2∧ReachR p S y.2.2.2.1 y.2.2.2.2.2.1}=>.tuple #[.map (some y.1.1),y.1.2.2.2.2.1]) (fun y=>(y.1.1,.map y.1.2.1 y.1.2.2.1)::y.1.2.2.2.2.2.2) (fun _=>[]):=by
 refine j_ Tryz.func42 rfl rfl Tryz.ntmps42 rfl fun v0=>?_
 refine Zz 2 ?_
 refine N_ rfl rfl fun b1=>G_ Tryz.zeroValue78 rfl fun b2=>G_ Tryz.zeroValue79 rfl fun b3=>Zz 4 ?_
 refine ds_ rfl fun b4=>n_ 2 Tryz.sizeOf78 rfl rfl rfl rfl rfl rfl (Zz 6 ?_)
 refine iZ_ (n:=List.length p) (by':=1) Tryz.underlying79 (z:=(.bool false)) zk rfl (by decide) rfl rfl (by omega) (by simp only[maxLen];omega) rfl fun svU HrU hrU=>?_
 have hqU:ar_ 4 1 svU (List.length (List.replicate (List.length p) false)) (List.flatMap gI_ (List.replicate (List.length p) false)) HrU:=by rw[List.length_replicate,← jE_ gI_];exact hrU
 refine u_ (bm_ (an_ i_) (bm_ (an_ i_) (bm_ (an_ i_) (bO_ br_)))) (cs_ 1 hqU Tryz.sizeOf79 rfl rfl rfl rfl (Zz 4 ?_))
 refine ds_ rfl fun b5=>Zz 5 ?_
 refine ds_ rfl fun b6=>Zz 5 ?_
 refine G_ Tryz.zeroValue139 rfl fun b7=>Zz 4 ?_
 refine c_ (dw_ rfl rfl) rfl (G_ Tryz.zeroValue140 rfl fun b8=>n_ 0 Tryz.sizeOf140 rfl rfl rfl rfl rfl rfl (Zz 4 ?_))
 refine c_ (dw_ rfl rfl) rfl (Zz 4 ?_)
 refine eD_ (bj_ b1 (.cells #[.slice ad (List.length p) cap] 54 (0,0))) (bO_ (l_ (l_ (l_ (l_ (l_ (l_ (l_ i_)))))))) (fun _ h1 h2 _=>⟨h1,h2⟩) ?_
 refine eD_ (bj_ b8 (.cells #[.func (.func 85) #[] #[zp_ b2 0,zp_ b7 0]] 140 (0,0))) (bO_ i_) (fun _ h1 h2 _=>⟨h1,h2⟩) ?_
 refine Zz 2 ?_
 refine c_ (A_ cq_ rfl rfl) rfl (ax_ (mW_ (Thg.mk 1 [42]) ([]:List Thg) ([]:List Thg) b2 b7 b4 [(b2,.cells #[.map (some b4)] 78 (0,0)),(b7,.cells #[.slice none 0 0] 139 (0,0)),(b4,.map #[] 0)] ⟨#[],0,.slice none 0 0,[],rfl,SetE.nil,Born.nil 0,ar_.nil _ _⟩ (by first|(simp only[List.length_nil];omega)|(simp only[List.length_append,List.length_nil];have q:=fH_ [(Thg.mk 1 [42])] [];simp only[List.length_cons,List.length_nil]at q;omega))) rfl rfl (V_ (l_ (l_ (l_ (l_ (l_ i_))))) (V_ i_ (l_ (l_ i_)))) zt rfl fun⟨HA1,hA1⟩=>?_)
 dsimp only
 refine Zz 2 ?_
 refine u_ (bm_ (an_ i_) (bm_ (an_ i_) (bO_ (an_ i_)))) (Zz 3 ?_)
 refine c_ (A_ cq_ rfl rfl) rfl (ax_ (mW_ (Thg.mk 1 [33]) (([]:List Thg)++be_ ([]:List Thg) [(Thg.mk 1 [42])]) (([]:List Thg)++be_ ([]:List Thg) [(Thg.mk 1 [42])]) b2 b7 b4 HA1 hA1 (by first|(simp only[List.length_nil];omega)|(simp only[List.length_append,List.length_nil];have q:=fH_ [(Thg.mk 1 [42])] [];simp only[List.length_cons,List.length_nil]at q;omega))) rfl rfl (l_ (l_ (l_ aI_))) zt rfl fun⟨HA2,hA2⟩=>?_)
 dsimp only
 refine Zz 3 ?_
 refine u_ (bm_ (an_ i_) (bm_ (an_ i_) (bO_ (an_ i_)))) (Zz 8 ?_)
 refine Y_ (ι:={y:Nat×List Thg×Hp // y.1≤List.length S∧y.2.1=be_ [] (cW_ (List.take y.1 S))∧StK 78 139 83 b2 b7 b4 y.2.1 y.2.1 y.2.2}) (fun y=>[(2,zp_ b1 0),(4,zp_ b2 0),(5,zp_ b3 0),(6,.map (some b5)),(7,.map (some b6)),(8,zp_ b7 0),(9,zp_ b8 0),(10,.func (.func 86) #[] #[zp_ b3 0,zp_ b1 0,zp_ b8 0]),(35,.slice sad (List.length S) scap),(36,.int .i64 (List.length S:Int)),(37,.int .i64 (y.1.1:Int))]) (fun y=>((b3,.cells #[svU] 79 (0,0))::(HrU++((b5,.map #[] 0)::((b6,.map #[] 0)::y.1.2.2))))) (fun y=>[bj_ b8 (.cells #[.func (.func 85) #[] #[zp_ b2 0,zp_ b7 0]] 140 (0,0)),bj_ b1 (.cells #[.slice ad (List.length p) cap] 54 (0,0)),ac_ ad (List.flatMap Pc.cells p),ac_ sad (List.flatMap aJ_ S)]) (fun y=>List.length S - y.1.1) ⟨((0:Nat),((([]:List Thg)++be_ ([]:List Thg) [(Thg.mk 1 [42])])++be_ (([]:List Thg)++be_ ([]:List Thg) [(Thg.mk 1 [42])]) [(Thg.mk 1 [33])]),HA2),by simp,(by rw[List.take_zero];exact rP_.symm),hA2⟩ zl zp zh ?_
 rintro ⟨⟨k,K,Hs0⟩,hi_k,hK,hS0⟩
 dsimp only at hi_k hK hS0 ⊢
 refine u_ (bm_ i_ (bm_ (an_ i_) (bO_ (an_ i_)))) (Zi 2 (fun hr1=>?_) fun hr1=>?_)
 ·refine Zz 15 ?_
  have hKS:K=be_ [] (cW_ S):=by rw[hK,List.take_of_length_le (by omega)]
  refine Y_ (ι:={y:Nat×List Thg×List Bool×Hp×Array MapEntry×Nat×Hp×Hp // y.1≤List.length p∧RK p S y.1 y.2.1 y.2.2.1∧zR 4 1 gI_ svU y.2.2.1 y.2.2.2.1∧StK 78 139 83 b2 b7 b4 y.2.1 y.2.1 y.2.2.2.2.2.2.2∧IntE (fun n:Int=>.int .i64 n) y.2.2.2.2.1 (iot y.1) (sV_ (List.take y.1 p))∧gk_ Thg.val ct_ 3 1 (dI_ 0 (List.take y.1 p)) b6 y.2.2.2.2.2.2.1}) (fun y=>[(2,zp_ b1 0),(4,zp_ b2 0),(5,zp_ b3 0),(6,.map (some b5)),(7,.map (some b6)),(8,zp_ b7 0),(9,zp_ b8 0),(10,.func (.func 86) #[] #[zp_ b3 0,zp_ b1 0,zp_ b8 0]),(35,.slice sad (List.length S) scap),(36,.int .i64 (List.length S:Int)),(37,.int .i64 (k:Int)),(46,.slice ad (List.length p) cap),(47,.int .i64 (List.length p:Int)),(48,.int .i64 (y.1.1:Int))]) (fun y=>((b3,.cells #[svU] 79 (0,0))::(y.1.2.2.2.1++((b5,.map y.1.2.2.2.2.1 y.1.2.2.2.2.2.1)::(y.1.2.2.2.2.2.2.1++y.1.2.2.2.2.2.2.2))))) (fun y=>[bj_ b8 (.cells #[.func (.func 85) #[] #[zp_ b2 0,zp_ b7 0]] 140 (0,0)),bj_ b1 (.cells #[.slice ad (List.length p) cap] 54 (0,0)),ac_ ad (List.flatMap Pc.cells p),ac_ sad (List.flatMap aJ_ S)]) (fun y=>List.length p - y.1.1) ⟨((0:Nat),K,(List.replicate (List.length p) false),HrU,#[],0,[(b6,.map #[] 0)],Hs0),by simp,(by rw[hKS];exact RK.init (mT_ p S) (os_ S)),hqU,hS0,IntE.nil,gk_.nil _ _⟩ zl zp zh ?_
  rintro ⟨⟨i,K1,U1,HU1,es1,cw1,HM1,Hs1⟩,hi_i,hR,hU1,hS1,hW1,hM1⟩
  dsimp only at hi_i hR hU1 hS1 hW1 hM1 ⊢
  refine u_ (bm_ i_ (bO_ (an_ i_))) (Zi 2 (fun hr2=>?_) fun hr2=>?_)
  ·refine Zz 8 ?_
   obtain rfl:i=List.length p:=by omega
   rw[List.take_of_length_le (Nat.le_refl _)]at hM1 hW1
   refine ru_ nW_ hM1 (l_ (l_ (an_ aI_))) fun adr=>?_
   refine Y_ (ι:={y:List Thg×List Thg×List Bool×List Int×Hp×Array MapEntry×Hp // RI p S y.1 y.2.1 y.2.2.1 y.2.2.2.1∧StK 78 139 83 b2 b7 b4 y.1 y.2.1 y.2.2.2.2.2.2∧zR 4 1 gI_ svU y.2.2.1 y.2.2.2.2.1∧IntE (fun n:Int=>.int .i64 n) y.2.2.2.2.2.1 (iot (List.length p)) y.2.2.2.1}) (fun y=>[(4,zp_ b2 0),(5,zp_ b3 0),(6,.map (some b5)),(7,.map (some b6)),(8,zp_ b7 0),(10,.func (.func 86) #[] #[zp_ b3 0,zp_ b1 0,zp_ b8 0])]) (fun y=>((b3,.cells #[svU] 79 (0,0))::(y.1.2.2.2.2.1++((b5,.map y.1.2.2.2.2.2.1 cw1)::y.1.2.2.2.2.2.2)))) (fun y=>[mlF Tryz.prog 83 Thg.val ct_ b6 (dI_ 0 p) adr,bj_ b8 (.cells #[.func (.func 85) #[] #[zp_ b2 0,zp_ b7 0]] 140 (0,0)),bj_ b1 (.cells #[.slice ad (List.length p) cap] 54 (0,0)),ac_ ad (List.flatMap Pc.cells p),ac_ sad (List.flatMap aJ_ S)]) (fun y=>(hM_ p S).length - List.length y.1.1+List.length y.1.2.1) ⟨(K1,K1,U1,(sV_ p),HU1,es1,Hs1),hR.done,hS1,hU1,hW1⟩ zl zp zh ?_
   rintro ⟨⟨K,W,Uw,wl,HUw,esw,Hsw⟩,hI,hSw,hUw,hWw⟩
   dsimp only at hI hSw hUw hWw ⊢
   obtain⟨esK,cK,svW,HwK,rfl,hEK,hBK,hrW⟩:=hSw
   have hwl:=hI.kw.wlen
   have hkl:=hI.kw.len
   have hul:=eW_ p S
   refine at_ (u_ (bm_ i_ (bm_ (an_ i_) (bm_ (an_ i_) (bm_ (an_ i_) (bO_ (an_ i_)))))) (Zz 3 ?_))
   refine c_ (du_ hrW F_ rfl) rfl ?_
   refine Zi 0 (fun hr3=>?_) fun hr3=>?_
   ·refine Zz 7 ?_
    refine Q_ 2 [0,1] zk zs (Zz 3 ?_)
    refine p_ 2 rfl zk (n_ 2 Tryz.sizeOf78 rfl rfl rfl rfl rfl rfl (Zz 3 ?_))
    refine p_ 3 rfl zk (cs_ 0 hUw Tryz.sizeOf79 rfl rfl rfl rfl (Zz 6 ?_))
    obtain rfl:W=[]:=List.eq_nil_of_length_eq_zero (by omega)
    exact cr_ ⟨⟨b4,esK,cK,K,svU,Uw,HUw⟩,hEK,hBK,hUw,hI.end⟩ (fun aa v h1 h2=>un_ 2 0 Tryz.results42 Tryz.isAgg78 Tryz.isAgg79 rfl rfl rfl rfl aa v h1 h2) (V_ (l_ (l_ (l_ (l_ i_)))) (l_ (l_ (l_ (l_ aI_))))) zt
   obtain⟨Wp,t0,rfl⟩:∃ Wp t0,W=Wp++[t0]:=by rcases List.eq_nil_or_concat W with h|⟨a,b,h⟩;subst h;simp at *;exact⟨a,b,by simpa using h⟩
   have hxl:List.length (Wp++[t0])=List.length Wp+1:=by simp
   have hx0:(Wp++[t0])[List.length Wp]? = some t0:=by simp
   refine Zz 10 ?_
   refine c_ (du_ hrW F_ rfl) rfl (c_ (aA_ (as_ rfl rfl rfl (aV_ (by simp only[List.length_append,List.length_cons,List.length_nil];omega) (by simp only[List.length_append,List.length_cons,List.length_nil];omega))) (show _=Value.int .i64 (List.length Wp:Int) from congrArg _ (by simp only[List.length_append,List.length_cons,List.length_nil];omega))) rfl ?_)
   refine c_ (bv_ hrW F_ aB_ rfl rfl (by omega) (by omega)) rfl (c_ (eq_ hrW zp Tryz.isAgg83 aB_ rfl (Thg.cells_len _) (by decide) (o_ Thg.cells_len hx0)) rfl (G_ aE_ rfl fun b9=>n_ 0 aB_ rfl rfl rfl rfl rfl rfl (Zz 6 ?_)))
   refine c_ (du_ hrW F_ rfl) rfl (c_ (aA_ (as_ rfl rfl rfl (aV_ (by simp only[List.length_append,List.length_cons,List.length_nil];omega) (by simp only[List.length_append,List.length_cons,List.length_nil];omega))) (show _=Value.int .i64 (List.length Wp:Int) from congrArg _ (by simp only[List.length_append,List.length_cons,List.length_nil];omega))) rfl ?_)
   obtain⟨sv9,hr9,hy9⟩:=ut_ (P:=Tryz.prog) (n:=List.length Wp) (by have q:=hrW;rw[List.length_append]at q;exact q)
   have hr8:ar_ 83 2 sv9 (List.length Wp) (List.flatMap Thg.cells Wp) HwK:=by have q:=hr9;rw[jy_ Thg.cells 2 Thg.cells_len,List.take_left]at q;exact q
   refine c_ (hy9 F_ aB_ rfl rfl) rfl (cs_ 4 hr8 Tryz.sizeOf139 rfl rfl rfl rfl (Zz 6 ?_))
   refine c_ (qD_ (k:=t0) (adr:=adr) nW_ Tryz.runUnderlying138 Tryz.zeroValue27 rfl rfl zf) rfl (Zz 5 ?_)
   have hus:=oD_ p t0
   have hSp:StK 78 139 83 b2 b7 b4 K Wp ((b2,.cells #[.map (some b4)] 78 (0,0))::(b7,.cells #[sv9] 139 (0,0))::(b4,.map esK cK)::HwK):=⟨esK,cK,sv9,HwK,rfl,hEK,hBK,hr8⟩
   have hul2:List.length (lat (dI_ 0 p) t0)≤1000000000:=by have q:=qf_ (dI_ 0 p) t0;have q2:=jL_ p 0;omega
   refine eC_ (H':=((b9,.cells #[.int .i64 (Thg.kind t0),str (Thg.name t0)] 83 (0,0))::((b3,.cells #[svU] 79 (0,0))::((b5,.map esw cw1)::(HUw++((b2,.cells #[.map (some b4)] 78 (0,0))::(b7,.cells #[sv9] 139 (0,0))::(b4,.map esK cK)::HwK)))))) (V_ i_ (V_ i_ (V_ i_ (bi_ (l_ (l_ (l_ aI_))) (V_ i_ (V_ i_ (V_ i_ am_))))))) (fun v _ h=>h) ?_
   refine Y_ (ι:={y:Nat×List Thg×List Thg×List Bool×List Int×Hp×Array MapEntry×Hp // y.1≤List.length (lat (dI_ 0 p) t0)∧RJ p S t0 (lat (dI_ 0 p) t0) y.1 y.2.1 y.2.2.1 y.2.2.2.1 y.2.2.2.2.1∧StK 78 139 83 b2 b7 b4 y.2.1 y.2.2.1 y.2.2.2.2.2.2.2∧zR 4 1 gI_ svU y.2.2.2.1 y.2.2.2.2.2.1∧IntE (fun n:Int=>.int .i64 n) y.2.2.2.2.2.2.1 (iot (List.length p)) y.2.2.2.2.1∧List.length y.2.1+List.length Wp=List.length K+List.length y.2.2.1}) (fun y=>[(4,zp_ b2 0),(5,zp_ b3 0),(6,.map (some b5)),(7,.map (some b6)),(8,zp_ b7 0),(10,.func (.func 86) #[] #[zp_ b3 0,zp_ b1 0,zp_ b8 0]),(97,.slice (Prod.fst (adr t0)) (List.length (lat (dI_ 0 p) t0)) (Prod.snd (adr t0))),(98,.int .i64 (List.length (lat (dI_ 0 p) t0):Int)),(99,.int .i64 (y.1.1:Int))]) (fun y=>((b3,.cells #[svU] 79 (0,0))::(y.1.2.2.2.2.2.1++((b5,.map y.1.2.2.2.2.2.2.1 cw1)::y.1.2.2.2.2.2.2.2)))) (fun y=>[mlF Tryz.prog 83 Thg.val ct_ b6 (dI_ 0 p) adr,bj_ b8 (.cells #[.func (.func 85) #[] #[zp_ b2 0,zp_ b7 0]] 140 (0,0)),bj_ b1 (.cells #[.slice ad (List.length p) cap] 54 (0,0)),ac_ ad (List.flatMap Pc.cells p),ac_ sad (List.flatMap aJ_ S)]) (fun y=>List.length (lat (dI_ 0 p) t0) - y.1.1) ⟨((0:Nat),K,Wp,Uw,wl,HUw,esw,((b2,.cells #[.map (some b4)] 78 (0,0))::(b7,.cells #[sv9] 139 (0,0))::(b4,.map esK cK)::HwK)),by simp,(hI.pop _),hSp,hUw,hWw,rfl⟩ zl zp zh ?_
   rintro ⟨⟨j,K2,W2,U2,wl2,HU2,es2,Hs2⟩,hi_j,hJ,hS2,hU2,hW2,hKW⟩
   dsimp only at hi_j hJ hS2 hU2 hW2 hKW ⊢
   refine u_ (bm_ i_ (bO_ (an_ i_))) (Zi 2 (fun hr4=>?_) fun hr4=>?_)
   ·have ej:j=List.length (lat (dI_ 0 p) t0):=by omega
    refine Zz 6 ?_
    exact z_ ⟨(K2,W2,U2,wl2,HU2,es2,Hs2),(by rw[ej]at hJ;exact hJ.done hus),hS2,hU2,hW2⟩ (by dsimp only;have q:=hJ.kw.len;rw[List.length_append,List.length_singleton]at *;omega) zl (V_ i_ (bi_ (l_ aI_) (V_ i_ am_))) zh
   obtain⟨hlx2,x2,hx2,hmx2⟩:=zge (show j<List.length (lat (dI_ 0 p) t0) by omega)
   obtain⟨hx20,hx2l⟩:=hus.1 x2 hmx2
   obtain⟨m,rfl⟩:∃ m:Nat,x2=(m:Int):=⟨x2.toNat,by omega⟩
   have hml:m<List.length p:=by omega
   obtain⟨x3,hx3⟩:∃ x3,p[m]? = some x3:=⟨_,List.getElem?_eq_getElem hml⟩
   obtain⟨n3,hn3,hn31,hn32,hn33⟩:=hJ.pos hus hx2 hx3
   have hnl3:=fW_ x3
   have hgl3:=fH_ (W_ x3) K2
   refine Zz 10 ?_
   refine c_ (C_ I_ U_ rfl rfl (fun v _ h=>q_ (n:=1) aS_ (by decide) (by exact (qb_ h.1 t0)) hx2) (by omega) (by first|omega|(simp;done))) rfl ?_
   refine c_ (bt_ (ad:=(Prod.fst (adr t0))) aZ_ rfl (fun v _ h=>by exact (qb_ h.1 t0)) (o_ aS_ hx2 0 _ rfl)) rfl (Zz 7 ?_)
   refine c_ (kV_ (k:=(m:Int)) (i:=m) (n:=n3) pm_ qY_ rfl rfl hW2 (pp_ hml) hn3 (fun v h _=>(h.own _ (List.mem_of_getElem? (i:=1) rfl)).1)) rfl (Zz 1 ?_)
   refine oY_ (k:=(m:Int)) (i:=m) 1 pm_ (.inr rfl) qY_ rfl rfl rfl rfl hW2 (pp_ hml) hn3 fun en1 hE1=>Zz 6 ?_
   refine c_ (kV_ (k:=(m:Int)) (i:=m) (n:=(n3 - 1)) pm_ qY_ rfl rfl hE1 (pp_ hml) (by rw[List.getElem?_set_self (by rw[hJ.wll];exact hml)]) (fun v h _=>(h.own _ (List.mem_of_getElem? (i:=1) rfl)).1)) rfl ?_
   refine Zi 0 (fun hr5=>?_) fun hr5=>?_
   ·refine Zz 10 ?_
    exact z_ ⟨(j+1,K2,W2,U2,(List.set wl2 m (n3 - 1)),HU2,en1,Hs2),hlx2,(hJ.skip hus hx2 hx3 hn3 hr5),hS2,hU2,hE1,hKW⟩ (by dsimp only;omega) zl (V_ i_ (bi_ (l_ aI_) (V_ i_ am_))) zh
   refine Zz 6 ?_
   refine ax_ (va_ m x3 p ad cap K2 W2 U2 b1 b2 b3 b7 b8 b4 svU HU2 Hs2 hx3 hp hU2 hJ.ul hS2 (by have q:=hJ.kw.wlen;omega)) rfl rfl (V_ i_ (bi_ (l_ aI_) au_)) zf rfl fun⟨⟨HB3,HC3⟩,hB3,hC3⟩=>?_
   dsimp only
   dsimp only at hB3 hC3
   simp only[List.cons_append,List.append_assoc]
   refine Zz 2 ?_
   refine u_ (bm_ i_ (bO_ (an_ br_))) (Zz 5 ?_)
   exact z_ ⟨(j+1,(K2++be_ K2 (W_ x3)),(W2++be_ K2 (W_ x3)),(List.set U2 m true),(List.set wl2 m (n3 - 1)),HB3,en1,HC3),hlx2,(hJ.take hus hx2 hx3 hn3 hr5),hC3,hB3,hE1,(by simp only[List.length_append];omega)⟩ (by dsimp only;omega) zl zp zh
  obtain⟨hlx1,x1,hx1,hmx1⟩:=zge (show i<List.length p by omega)
  refine Zz 13 ?_
  refine G_ ao_ rfl fun b10=>Zz 1 ?_
  refine n_ 0 aw_ rfl rfl rfl rfl rfl rfl (Zz 5 ?_)
  refine d_ (uy_ x1) rfl e_ zt rfl fun⟨⟨nad,ncap⟩,ncl,ncm,ncz⟩=>?_
  dsimp only
  refine Zz 9 ?_
  refine oZ_ (k:=(i:Int)) 2 pm_ (.inr rfl) qY_ rfl rfl rfl rfl hW1 (uF_ i) fun en2 cn2 hE2=>Zz 11 ?_
  refine Y_ (ι:={y:Nat×Hp // y.1≤List.length (ae_ x1)∧gk_ Thg.val ct_ 3 1 ((dI_ 0 (List.take i p))++List.map (fun t=>(t,(i:Int))) (List.take y.1 (ae_ x1))) b6 y.2}) (fun y=>[(2,zp_ b1 0),(4,zp_ b2 0),(5,zp_ b3 0),(6,.map (some b5)),(7,.map (some b6)),(8,zp_ b7 0),(9,zp_ b8 0),(10,.func (.func 86) #[] #[zp_ b3 0,zp_ b1 0,zp_ b8 0]),(35,.slice sad (List.length S) scap),(36,.int .i64 (List.length S:Int)),(37,.int .i64 (k:Int)),(46,.slice ad (List.length p) cap),(47,.int .i64 (List.length p:Int)),(48,.int .i64 (i:Int)),(13,.int .i64 (i:Int)),(15,.slice nad (List.length (ae_ x1)) ncap),(59,.slice nad (List.length (ae_ x1)) ncap),(60,.int .i64 (List.length (ae_ x1):Int)),(61,.int .i64 (y.1.1:Int))]) (fun y=>((b3,.cells #[svU] 79 (0,0))::(HU1++((b5,.map en2 cn2)::(y.1.2++Hs1))))) (fun y=>[ac_ nad (List.flatMap Thg.cells (ae_ x1)),bj_ b8 (.cells #[.func (.func 85) #[] #[zp_ b2 0,zp_ b7 0]] 140 (0,0)),bj_ b1 (.cells #[.slice ad (List.length p) cap] 54 (0,0)),ac_ ad (List.flatMap Pc.cells p),ac_ sad (List.flatMap aJ_ S)]) (fun y=>List.length (ae_ x1) - y.1.1) ⟨((0:Nat),HM1),by simp,(by rw[List.take_zero,List.map_nil,List.append_nil];exact hM1)⟩ zl (V_ (l_ i_) (bi_ (l_ (l_ aI_)) (V_ (l_ i_) (bi_ (l_ aI_) au_)))) zh ?_
  rintro ⟨⟨j,HM2⟩,hi_j,hM2⟩
  dsimp only at hi_j hM2 ⊢
  have hnl1:=fW_ x1
  have hub:List.length ((dI_ 0 (List.take i p))++List.map (fun t=>(t,(i:Int))) (List.take j (ae_ x1)))≤400000000:=by have q:=jL_ (List.take i p) 0;have q2:=List.length_take_le i p;have q3:=List.length_take_le j (ae_ x1);have q4:=fW_ x1;rw[List.length_append,List.length_map];omega
  refine u_ (bm_ i_ (bO_ (an_ i_))) (Zi 2 (fun hr6=>?_) fun hr6=>?_)
  ·refine Zi 10 (fun hr7=>?_) fun hr7=>?_
   ·refine Zz 10 ?_
    exact z_ ⟨(i+1,K1,U1,HU1,en2,cn2,HM2,Hs1),hlx1,hR.skip hx1 (fun q=>by rw[q]at hr7;exact hr7 rfl),hU1,hS1,(by rw[ie_,lA_ hx1];exact hE2),(by rw[lc_ hx1];rw[show List.take j (ae_ x1)=ae_ x1 from List.take_of_length_le (by omega)]at hM2;exact hM2)⟩ (by dsimp only;omega) zl zp (fun _ _ h=>h.2)
   refine Zz 6 ?_
   refine ax_ (va_ i x1 p ad cap K1 K1 U1 b1 b2 b3 b7 b8 b4 svU HU1 Hs1 hx1 hp hU1 hR.ul hS1 (by have q:=hR.kw.wlen;have q2:=eW_ p S;omega)) rfl rfl (V_ i_ (bi_ (l_ aI_) (l_ br_))) zf rfl fun⟨⟨HB4,HC4⟩,hB4,hC4⟩=>?_
   dsimp only
   dsimp only at hB4 hC4
   simp only[List.cons_append,List.append_assoc]
   refine Zz 2 ?_
   refine u_ (bm_ i_ (bO_ (an_ (an_ i_)))) (Zz 5 ?_)
   exact z_ ⟨(i+1,(K1++be_ K1 (W_ x1)),(List.set U1 i true),HB4,en2,cn2,HM2,HC4),hlx1,hR.take hx1 (List.eq_nil_of_length_eq_zero (by omega)),hB4,hC4,(by rw[ie_,lA_ hx1];exact hE2),(by rw[lc_ hx1];rw[show List.take j (ae_ x1)=ae_ x1 from List.take_of_length_le (by omega)]at hM2;exact hM2)⟩ (by dsimp only;omega) zl zp (fun _ _ h=>h.2)
  have hlt1:j<List.length (ae_ x1):=by omega
  obtain⟨t1,ht1⟩:∃ e0,(ae_ x1)[j]? = some e0:=⟨_,List.getElem?_eq_getElem hlt1⟩
  have hmt1:t1∈(ae_ x1):=List.mem_of_getElem? ht1
  refine Zz 10 ?_
  refine c_ (C_ F_ aB_ rfl rfl (fun v _ h=>q_ (n:=2) Thg.cells_len (by decide) (by exact h.1) ht1) (by omega) (by first|omega|(simp;done))) rfl ?_
  refine c_ (L_ (ad:=nad) (us:=Thg.cells t1) Tryz.isAgg83 aB_ rfl zf (Thg.cells_len _) (o_ Thg.cells_len ht1)) rfl (G_ aE_ rfl fun b11=>n_ 0 aB_ rfl rfl rfl rfl rfl rfl (Zz 6 ?_))
  refine B_ I_ U_ aU_ rfl rfl rfl rfl rfl rfl fun b12=>?_
  have hbb1:=(show (lat ((dI_ 0 (List.take i p))++List.map (fun t=>(t,(i:Int))) (List.take j (ae_ x1))) t1).length≤400000000 from Nat.le_trans (qf_ _ _) hub)
  refine rr_ (k:=t1) nW_ hM2 Tryz.runUnderlying138 Tryz.zeroValue27 rfl rfl (l_ (l_ (l_ (l_ (an_ aI_))))) rfl fun es1 ce1 ie1 se1 ve1 Hk1 Hx1 ho1 hw1=>Zz 1 ?_
  refine aX_ (news:=List.flatMap ct_ [(i:Int)]) jA_ hw1 rfl rfl zp rfl (rp_ zp) (fun u hu=>bY_ if_ hu) (by simp only[maxLen];omega) (by omega) rfl fun sv1 Hr1 hr1=>?_
  have hq1:=zsa hr1
  refine Zz 1 ?_
  refine kh_ (k:=t1) (dd:=(i:Int)) ho1 (by rw[sY_];exact hq1) rfl rfl rfl (sH_ (V_ (an_ i_) (bi_ aI_ aI_))) fun H2 hM2=>?_
  refine Zz 2 ?_
  refine u_ (bm_ (an_ i_) (bm_ (an_ i_) (bm_ (an_ i_) (bO_ (an_ i_))))) (Zz 5 ?_)
  exact z_ ⟨(j+1,H2),hlt1,(by rw[take_snoc ht1,List.map_append,← List.append_assoc];exact hM2)⟩ (by dsimp only;omega) zl zp zh
 have hls1:k<List.length S:=by omega
 obtain⟨s1,hs1⟩:∃ e0,S[k]? = some e0:=⟨_,List.getElem?_eq_getElem hls1⟩
 have hms1:s1∈S:=List.mem_of_getElem? hs1
 refine Zz 18 ?_
 refine c_ (A_ cq_ rfl rfl) rfl (ax_ (mW_ (Thg.mk 1 s1) K K b2 b7 b4 Hs0 hS0 (by have q:=(mT_ ([]:List Pc) (List.take k S)).wlen;have q2:=eW_ ([]:List Pc) (List.take k S);have q3:=List.length_take_le k S;simp only[List.length_nil]at q2;rw[hK];omega)) rfl rfl (l_ (l_ (l_ br_))) zt rfl fun⟨HA5,hA5⟩=>?_)
 dsimp only
 refine Zz 2 ?_
 refine u_ (bm_ (an_ i_) (bm_ (an_ i_) (bO_ (an_ i_)))) (Zz 5 ?_)
 exact z_ ⟨(k+1,(K++be_ K [(Thg.mk 1 s1)]),HA5),hls1,(by rw[rQ_ hs1,← hK]),hA5⟩ (by dsimp only;omega) zl zp zh
end Go.Proofs.YtamklbgaipakfaaGreatDoor
