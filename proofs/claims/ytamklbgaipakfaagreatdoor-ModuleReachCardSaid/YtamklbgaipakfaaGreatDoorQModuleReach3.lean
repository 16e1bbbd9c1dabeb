/-
  Part of the proof of the law ModuleReach over this seat: the small logic, the data, the contracts of functions (no condition).
-/
import Derived.Test.YtamklbgaipakfaaGreatDoorQModuleReach2
import Derived.Laws.OwnMore
import Derived.Shelf.Strings.Builder1
import Derived.Shelf.Strings.Builder2
import Derived.Shelf.Strings.OnBuilder
import Derived.Shelf.Small.Bits
import Derived.Shelf.Small.Strs
import Derived.Shelf.Small.Wraps
import Derived.Shelf.Utf8.RuneCount
import Derived.Shelf.Strconv.Itoa0
import Derived.Shelf.Strconv.Itoa1
import Derived.Shelf.LaysM
import Derived.Shelf.Strconv.Itoa2
import Derived.Shelf.Strconv.Itoa3
import Derived.Shelf.Strings.Search1
import Derived.Shelf.Strings.Search2
import Derived.Shelf.Strings.Search3
import Derived.Shelf.Strings.Cut
import Derived.Shelf.Strings.Count
import Derived.Shelf.Strings.Shaped
import Derived.Shelf.Sort.Plain
import Derived.Shelf.Strings.Split
import Derived.Shelf.Strings.SplitShaped
import Derived.Shelf.Unicode.DecodeSlow
import Derived.Shelf.Slices.Reverse
import Derived.Shelf.Slices.CompactS
import Derived.Ground.Names2Prog
import Derived.Shelf.Slices.SearchI
import Derived.Shelf.Slices.Cells
import Derived.Shelf.Slices.In.SortNone
import Derived.Ground.SlgnProg
import Derived.Shelf.SlicesE.Clone
import Derived.Test.YtamklbgaipakfaaGreatDoorProg
import Derived.Test.YtamklbgaipakfaaGreatDoorQModuleReach1
set_option linter.unusedVariables false
set_option linter.unusedSimpArgs false
set_option linter.unusedSectionVars false
set_option maxHeartbeats 1000000
namespace Go.Sx
open Go
section
variable {P:Program} {N:Nf} {v0:Vw} {H0:Hp} {R:Exit→Act→World→Prop} {K:List Kt} {fr:Fr} {H:Hp} {Γ:List Fct}
variable {ops:Array Oper} {l:List Oper} {d:Nat} {ty:TypeId} {ps:String} {af:Array Edge}
theorem dh_ {x y:Operand} {t e:TypeId} {sz by' n m c:Nat} {sv:Value} {xs news:List Value} {Hr F:Hp} {ad:Option Addr} (he:Elt P t e sz by') (hrow:aG_ e sz sv n xs Hr)
    (hx:Fr.ev fr x=some sv) (hy:Fr.ev fr y=some (.slice ad m c)) (hz:ad=none→c=0) (hmc:m≤c) (hH:H.Perm (Hr++F)) (hl:news.length=m*sz) (hnews:∀ v,v.sat H→az_ Γ v→bN_ v ad news) (h1c:∀ u∈news,u.oneCell'=true)
    (h63:n+m≤maxLen) (hb:(n+m)*by'≤140737488355328) (hN:Nat.blt d N.n=true)
    (hk:∀ sv' Hr',aG_ e sz sv' (n+m) (xs++news) Hr'→Ops P R N v0 H0 ops l K ((d,sv')::fr) (Hr'++F) Γ) :
    Ops P R N v0 H0 ops (⟨some d,.call ⟨.builtin .append,#[x,y],#[t,t]⟩,ty,ps,af,none⟩::l) K fr H Γ:=by
  cases ad with
  | none =>
    obtain rfl:=hz rfl
    obtain rfl:m=0:=by omega
    obtain rfl:news=[]:=List.eq_nil_of_length_eq_zero (by simpa using hl)
    refine dp_ rfl fun a v h1 h2 h3 h4=>?_
    obtain⟨i,z,hi,hz,es,eb,ez⟩:=he.info
    have g:=h2.perm hH
    have ho:=hrow.owns g
    have hr:=run_append_owned_none (P:=P) (w:=v.w) 0 t ty e i sz he.und hi sv n xs ho
    unfold Oper.wp execOp
    simp only[resolve,invoke,builtin,Sem.run_bind,Sem.run_pure,Result.andThen_ok,List.map_toArray,List.map_cons,List.map_nil,h1.ev hx,h1.ev hy,hr]
    have T:v.to H v (Hr++F):=(Vw.to.refl v (Hr++F)).permL hH.symm
    exact hk sv Hr (by simpa using hrow) _ v (h1.put hN) g (h3.trans T) h4
  | some a0 =>
    refine aW_ he hrow hx hy hH hl (fun v h2 h4 j u hj=>?_) h1c h63 hb hN hk
    rcases hnews v h2 h4 with h|⟨b,off,arr,T,fz,h1,_,h3,h5⟩
    · rw[h]at hj;simp at hj
    · rw[Option.some.injEq]at h1
      subst h1
      have:=h5 j u hj
      rw[cX_]
      simp[World.cell?,h3,this]
theorem kH_ {t e:TypeId} {sz:Nat} (hu:∀ w,(underlying t).run P w=.ok (.slice e) w) (hs:∀ w,(sizeOf e).run P w=.ok sz w) (hN:Nat.blt d N.n=true)
    (hk:∀ b,Ops P R N v0 H0 ops l K ((d,.slice (some ⟨b,0,none⟩) 0 0)::fr) ((b,.cells #[] e (0,0))::H) Γ):Ops P R N v0 H0 ops (⟨some d,.buildSlice t 0 #[],ty,ps,af,none⟩::l) K fr H Γ :=
  gl_ (x:=fun b=>.slice (some ⟨b,0,none⟩) 0 0) hN (fun a v h1 h2 h4=>by
    simp only[execOp,Instr.buildSlice,Sem.run_bind,hu,Result.andThen_ok,hs,List.map_toArray]
    rw[if_neg (by omega),if_pos (by omega),Nat.zero_mul,show Array.range 0=#[] by simp]
    simp only[Sem.run_bind,Sem.run_pure,Result.andThen_ok,List.map_nil,List.map_toArray,List.toList_toArray,Instr.fill]
    rfl) hk
theorem aQ_ {k:Act→World→Prop} {e:TypeId} {sz n:Nat} {sv:Value} {xs:List Value} {Hr F:Hp} (hr:aG_ e sz sv n xs Hr) (hH:H.Perm (Hr++F))
    (h:∀ ad cap,sv=.slice ad n cap→n≤cap→cap≤maxLen→(ad=none→cap=0)→Ok N v0 H0 k fr F (aw_ ad xs::Γ)):Ok N v0 H0 k fr H Γ:=by
  refine cV_ hr hH fun ad cap e1 e2 e3=>h ad cap e1 e2 e3 fun e4=>?_
  rcases hr.2 with⟨h1,_,_⟩|⟨g,c,cur,h1,_⟩
  · rw[h1]at e1
    simp only[Value.slice.injEq]at e1
    exact e1.2.2.symm
  · rw[h1,e4]at e1
    simp at e1
theorem hP_ {cap i n:Nat} {ad:Option Addr} (h:sad ad cap i n=none):ad=none:=by
 unfold sad at h
 split at h
 ·exact h
 simpa using h
end
end Go.Sx
namespace Go.Sx
open Go
section
variable {P:Program} {N:Nf} {fr:Fr} {H:Hp} {Γ:List Fct} {ty:TypeId} {e:TypeId} {sz n:Nat} {sv:Value} {xs:List Value} {Hr F:Hp}
theorem sa_ {O:Hp}:List.Perm (O++[]) O:=by rw[List.append_nil]
theorem dx_ {O Q:Hp}:List.Perm (Q++O) (O++Q):=List.perm_append_comm
theorem bo_ {O:Hp} {b:Nat×Obj}:List.Perm (b::O) (O++[b]):=List.perm_append_comm (l₁:=[b])
theorem qE_ {H:Hp}:List.Perm ([]++H) H:=.refl _
def svB:Value→Nat
  | .slice (some a) _ _=>a.block
  | _=>0
theorem eC_ {x:Operand} {t e':TypeId} (hrow:aG_ e sz sv n xs Hr) (hu:∀ w,(underlying t).run P w=.ok (.slice e') w) (hx:Fr.ev fr x=some sv):Yld P N fr H Γ (.call ⟨.builtin .len,#[x],#[t]⟩) ty (.int .i64 (n:Int)):=by
 rcases hrow.2 with⟨rfl,rfl,_⟩|⟨g,cap,cur,rfl,_⟩
 ·exact bM_ hu hx
 exact bM_ hu hx
theorem ha_ {x y:Operand} {t e':TypeId} {k:IntKind} {i:Int} (hrow:aG_ e sz sv n xs Hr) (hu:∀ w,(underlying t).run P w=.ok (.slice e') w) (hs:∀ w,(sizeOf e').run P w=.ok sz w) (hx:Fr.ev fr x=some sv) (hy:Fr.ev fr y=some (.int k i)) (h0:0≤i) (hl:i<n) :
    Yld P N fr H Γ (.indexAddr t x y) ty (.pointer (some ⟨svB sv,i.toNat*sz,none⟩)):=by
  rcases hrow.2 with⟨_,h2,_⟩|⟨g,cap,cur,rfl,_⟩
  · omega
  · have:=in_ (P:=P) (N:=N) (H:=H) (Γ:=Γ) (ty:=ty) hu hs hx hy h0 hl
    rw[Nat.zero_add]at this
    exact this
theorem kj_ {x:Operand} {t:TypeId} {k m:Nat} {us:List Value} (hrow:aG_ e sz sv n xs Hr) (hH:H.Perm (Hr++F)) (ha:∀ w,(isAgg t).run P w=.ok true w) (hs:∀ w,(sizeOf t).run P w=.ok m w) (hx:Fr.ev fr x=some (.pointer (some ⟨svB sv,k,none⟩)))
    (hn:us.length=m) (hp:0<m) (hu:∀ j y,us[j]? = some y→xs[k+j]? = some y):Yld P N fr H Γ (.load t x) ty (.agg us.toArray):=by
  rcases hrow.2 with⟨_,h2,_⟩|⟨g,cap,cur,rfl,rfl,h3,h4,h5,h6⟩
  · subst h2
    have h1:=hrow.1
    have:xs=[]:=List.eq_nil_of_length_eq_zero (by simpa using h1)
    subst this
    have:=hu 0 us[0] (List.getElem?_eq_getElem (by omega))
    simp at this
  · refine fF_ hx fun v h2 _=>dB_ ha hs hn fun j y hj=>?_
    have hb:=((h2.perm hH).own _ (List.mem_append_left _ List.mem_cons_self)).1
    have hc:=hu j y hj
    rw[← h6,List.getElem?_take]at hc
    split at hc
    · have hc':cur[k+j]? = some y:=by simpa using hc
      simp only[svB,World.cell?,hb,Option.isSome_none,Bool.false_eq_true,if_false]
      exact hc'
    · cases hc
end
end Go.Sx
namespace Go.Sx
open Go
section
variable {P:Program} {N:Nf} {fr:Fr} {H:Hp} {Γ:List Fct} {ty:TypeId} {e:TypeId} {sz n:Nat} {sv:Value} {xs:List Value} {Hr F:Hp}
theorem nl_ {x:Operand} {t:TypeId} {k:Nat} {u:Value} (hrow:aG_ e sz sv n xs Hr) (hH:H.Perm (Hr++F)) (ha:∀ w,(isAgg t).run P w=.ok false w) (hx:Fr.ev fr x=some (.pointer (some ⟨svB sv,k,none⟩)))
    (hu:xs[k]? = some u):Yld P N fr H Γ (.load t x) ty u:=by
  rcases hrow.2 with⟨_,h2,_⟩|⟨g,cap,cur,rfl,rfl,h3,h4,h5,h6⟩
  · subst h2
    have:xs=[]:=List.eq_nil_of_length_eq_zero (by simpa using hrow.1)
    subst this;simp at hu
  · refine fF_ hx fun v h2 _=>cf_ ha ?_
    have hb:=((h2.perm hH).own _ (List.mem_append_left _ List.mem_cons_self)).1
    rw[← h6,List.getElem?_take]at hu
    split at hu
    · have hc':cur[k]? = some u:=by simpa using hu
      simp only[svB,World.cell?,hb,Option.isSome_none,Bool.false_eq_true,if_false]
      exact hc'
    · cases hu
theorem dL_ (h:aG_ e sz sv n xs Hr):sv.cells=#[sv]∧sv.oneCell'=true:=by
  rcases h.2 with⟨rfl,_⟩|⟨g,cap,cur,rfl,_⟩<;>exact⟨rfl,rfl⟩
theorem dy_ {v0:Vw} {H0:Hp} {R:Exit→Act→World→Prop} {K:List Kt} {ops:Array Oper} {l:List Oper} {ps:String} {af:Array Edge} {t:TypeId} {x y:Operand} {b off:Nat} (i:Nat) {cur:Array Value} {T:TypeId} (hrow:aG_ e sz sv n xs Hr) (hs:∀ w,(sizeOf t).run P w=.ok 1 w)
    (hx:Fr.ev fr x=some (.pointer (some ⟨b,off,none⟩))) (hy:Fr.ev fr y=some sv) (hi:H[i]? = some (b,.cells cur T (0,0))) (hf:Nat.ble (off+1) cur.size=true)
    (hk:Ops P R N v0 H0 ops l K fr (H.set i (b,.cells (cur.toList.take off++[sv]++cur.toList.drop (off+1)).toArray T (0,0))) Γ):Ops P R N v0 H0 ops (⟨none,.store t x y,ty,ps,af,none⟩::l) K fr H Γ :=
  aa_ i hs hx hy hi (by rw[(dL_ hrow).1];rfl) hf (by rw[(dL_ hrow).1];simp[(dL_ hrow).2]) (by rw[(dL_ hrow).1];exact hk)
theorem pw_ {b:Nat} {cs:List Value} {T:TypeId} {fz:Nat×Nat} (hp:H.Perm ([(b,.cells cs.toArray T fz)]++F)):∀ v:Vw,v.sat H→az_ Γ v→∀ j u,cs[j]? = some u→v.w.cell? ((⟨b,0,none⟩:Addr).add j)=some u:=by
  intro v h1 h2 j u hj
  exact bv_ (Γ:=Γ) 0 rfl v (h1.perm hp) h2 j u hj
theorem ma_ {t t':TypeId} {x y:Operand} {m n:Bool} (hu:P.underlying t=some .bool) (hx:Fr.ev fr x=some (.bool m)) (hy:Fr.ev fr y=some (.bool n)):Yld P N fr H Γ (.binOp .eql t x y t') ty (.bool (m==n)) :=
  fun a v h1 _ _ _ _ _=>by simp[execOp,h1.ev hx,h1.ev hy,eqGuard,binOp,run_equal_bool v.w t m n hu]
theorem cU_ {α:Type} {f:α→List Value} (hf:∀ x,(f x).all Value.oneCell'=true) {l:List α} {u:Value} (h:u∈l.flatMap f):u.oneCell'=true:=by
  obtain⟨y,_,hy⟩:=List.mem_flatMap.1 h
  exact List.all_eq_true.1 (hf y) u hy
end
end Go.Sx
namespace Go.Vs
open Go Go.Sx
def pd_ (a c:Str):Pc:=⟨1,a,[],c,[],[],[],0,0,0⟩
def by_ (frm:Int):List Str→List Pc→List Pc
  | [],l=>l
  | a::r,l=>by_ frm r (ins frm l (pd_ a [42]))
theorem em_ (frm:Int):∀ (r:List Str) (l:List Pc),(by_ frm r l).length≤l.length+r.length
  | [],l=>by simp[by_]
  | a::r,l=>by
    have h1:=em_ frm r (ins frm l (pd_ a [42]))
    have h2:=bt_ frm l (pd_ a [42])
    simp only[by_,List.length_cons]
    omega
theorem ia_ (frm:Int):∀ (xs ys:List Str) (l:List Pc),by_ frm (xs++ys) l=by_ frm ys (by_ frm xs l)
  | [],_,_=>rfl
  | x::xs,ys,l=>by simp only[List.cons_append,by_];exact ia_ frm xs ys _
theorem nR_ (frm:Int) {xs:List Str} {a:Str} {i:Nat} (hp:xs[i]? = some a) (l:List Pc):by_ frm (xs.take (i+1)) l=ins frm (by_ frm (xs.take i) l) (pd_ a [42]):=by
  rw[List.take_add_one,hp,Option.toList_some,ia_];rfl
def dW_ (s:Str):Str:=[123]++s++[125]
def Ax.disj (x:Ax):Str:=[60]++x.left.operandN++[32,97,110,100,32]++x.right.operandN++[62]
def Ax.doms (x:Ax):Str:=[60,115,111,109,101,32]++x.role++[32,101,118,101,114,121,116,104,105,110,103,62]
def Ax.goalP (x:Ax):List Pc×List Fc×Int :=
  if x.check≠0 then ([],[],x.check)
  else if x.kind=1 then (x.right.leftP (-1) (x.left.rightP (-1) (by_ (-1) [x.left.atom,x.right.atom] [])),[⟨1,x.left.atom,x.right.atom,[],0,0⟩],0)
  else if x.kind=2 then (x.left.leftP (-1) (x.right.rightP (-1) (x.right.leftP (-1) (x.left.rightP (-1) (by_ (-1) [x.left.atom,x.right.atom] [])))),[⟨1,x.left.atom,x.right.atom,[],0,0⟩,⟨1,x.right.atom,x.left.atom,[],0,0⟩],0)
  else if x.kind=3 then (x.right.rightP (-1) (ins (-1) (x.left.rightP (-1) (ins (-1) (by_ (-1) [x.disj,[33]] []) (pd_ x.disj x.left.atom))) (pd_ x.disj x.right.atom)),[⟨1,x.disj,[33],[],0,0⟩],0)
  else if x.kind=4 then (x.right.leftP (-1) (ins (-1) (by_ (-1) [x.doms,x.right.atom] []) ⟨3,x.doms,[],[42],x.role,[],[],0,0,0⟩),[⟨1,x.doms,x.right.atom,[],0,0⟩],0)
  else if x.kind=8 then (x.right.leftP (-1) (by_ (-1) [dW_ x.a,x.right.atom] []),[⟨1,dW_ x.a,x.right.atom,[],0,0⟩],0)
  else if x.kind=9 then (by_ (-1) [dW_ x.a,dW_ x.b] [],[⟨2,dW_ x.a,dW_ x.b,x.role,0,0⟩],0)
  else ([],[],22)
theorem Con.operandN_len {c:Con} (hok:c.ok):c.operandN.length≤6402:=by
  have:=Con.textN_len hok
  unfold operandN
  split<;>simp<;>omega
end Go.Vs
namespace Go.Proofs
open Go.Shelf
def Tryz.lays156_ren:Go.Shelf.Ren:=⟨fun|156=>315|165=>326|166=>327|169=>328|240=>333|241=>334|276=>336|277=>337|n=>n,fun|31=>23|9=>9|3=>3|4=>4|0=>0|20=>20|72=>337|76=>340|70=>335|37=>307|75=>339|127=>345|164=>351|5=>5|80=>342|n=>n,fun|n=>n⟩
theorem Tryz.lays156:Go.Proofs.Lays.n156 Tryz.prog Tryz.lays156_ren:={
  mixed:=by kernel_rfl
  f156:=Tryz.func315.trans (congrArg some (by kernel_rfl))
  f165:=Tryz.func326.trans (congrArg some (by kernel_rfl))
  f166:=Tryz.func327.trans (congrArg some (by kernel_rfl))
  f169:=Tryz.func328.trans (congrArg some (by kernel_rfl))
  f240:=Tryz.func333.trans (congrArg some (by kernel_rfl))
  f241:=Tryz.func334.trans (congrArg some (by kernel_rfl))
  f276:=Tryz.func336.trans (congrArg some (by kernel_rfl))
  f277:=Tryz.func337.trans (congrArg some (by kernel_rfl))
  t0:=Tryz.underlying0
  a0:=Tryz.isAgg0
  z0:=Tryz.sizeOf0
  v0:=Tryz.zeroValue0
  t3:=Tryz.underlying3
  a3:=Tryz.isAgg3
  z3:=Tryz.sizeOf3
  v3:=Tryz.zeroValue3
  t4:=Tryz.underlying4
  a4:=Tryz.isAgg4
  z4:=Tryz.sizeOf4
  v4:=Tryz.zeroValue4
  t9:=Tryz.underlying9
  a9:=Tryz.isAgg9
  z9:=Tryz.sizeOf9
  v9:=Tryz.zeroValue9
  t20:=Tryz.underlying20
  a20:=Tryz.isAgg20
  z20:=Tryz.sizeOf20
  v20:=Tryz.zeroValue20
  t31:=Tryz.underlying23
  a31:=Tryz.isAgg23
  z31:=Tryz.sizeOf23
  v31:=Tryz.zeroValue23
  t37:=Tryz.underlying307
  a37:=Tryz.isAgg307
  z37:=Tryz.sizeOf307
  v37:=Tryz.zeroValue307
  t70:=Tryz.underlying335
  a70:=Tryz.isAgg335
  z70:=Tryz.sizeOf335
  v70:=Tryz.zeroValue335
  t72:=Tryz.underlying337
  a72:=Tryz.isAgg337
  z72:=Tryz.sizeOf337
  v72:=Tryz.zeroValue337
  t75:=Tryz.underlying339
  a75:=Tryz.isAgg339
  z75:=Tryz.sizeOf339
  v75:=Tryz.zeroValue339
  t76:=Tryz.underlying340
  a76:=Tryz.isAgg340
  z76:=Tryz.sizeOf340
  v76:=Tryz.zeroValue340
  t127:=Tryz.underlying345
  a127:=Tryz.isAgg345
  z127:=Tryz.sizeOf345
  v127:=Tryz.zeroValue345
  t164:=Tryz.underlying351
  a164:=Tryz.isAgg351
  z164:=Tryz.sizeOf351
  v164:=Tryz.zeroValue351 }
theorem Tryz.Builder_Extra_156:Builder.Extra Tryz.prog Tryz.lays156_ren:={
  sizeBuilder:=by kernel_rfl
  liesBuilder:=by kernel_rfl
  t5:=Tryz.underlying5
  a5:=Tryz.isAgg5
  z5:=Tryz.sizeOf5
  v5:=Tryz.zeroValue5
  infoByte:=by kernel_rfl
  cellsByte:=by kernel_rfl
  sizeByte:=by kernel_rfl
  neB5:=by decide }
open Go.RowKit in
theorem Tryz.strings_Join (bk o c:Nat) (xs:List ByteArray) (sep:ByteArray) (w:World) (hcells:∀ (j:Nat) x,xs[j]? = some x→w.cell? ⟨bk,o+j,none⟩=some (.string x)) (hbk:bk<w.heap.size) (hN:xs.length≤140737488355328) (hcap:xs.length≤c) (hlen:(Lib.join (xs.map (·.data.toList)) sep.data.toList).length≤140737488355328) :
    Calls Tryz.prog 315 #[.slice (some ⟨bk,o,none⟩) xs.length c,.string sep] w fun e w'=>e=.returned (.string ⟨(Lib.join (xs.map (·.data.toList)) sep.data.toList).toArray⟩)∧Below w.heap.size w w':=Any.strings_Join Tryz.lays156 Tryz.Builder_Extra_156 bk o c xs sep w hcells hbk hN hcap hlen
def Tryz.lays122_ren:Go.Shelf.Ren:=⟨fun|122=>97|215=>181|n=>n,fun|3=>3|4=>4|n=>n,fun|n=>n⟩
theorem Tryz.lays122:Go.Proofs.Lays.n122 Tryz.prog Tryz.lays122_ren:={
  mixed:=by kernel_rfl
  f122:=Tryz.func97.trans (congrArg some (by kernel_rfl))
  f215:=Tryz.func181.trans (congrArg some (by kernel_rfl))
  t3:=Tryz.underlying3
  a3:=Tryz.isAgg3
  z3:=Tryz.sizeOf3
  v3:=Tryz.zeroValue3
  t4:=Tryz.underlying4
  a4:=Tryz.isAgg4
  z4:=Tryz.sizeOf4
  v4:=Tryz.zeroValue4 }
open Go.RowKit in
theorem Tryz.cmp_Compare_int (x y:Int) (w:World) :
    Calls Tryz.prog 97 #[.int .i64 x,.int .i64 y] w fun e w'=>e=.returned (.int .i64 (Lib.compareInt x y))∧w'=w:=Any.cmp_Compare_int Tryz.lays122 x y w
def Tryz.laysM171_ren:Go.Shelf.Ren:=⟨fun|171=>317|243=>329|246=>335|283=>338|284=>339|285=>340|286=>341|129=>177|317=>342|318=>343|319=>344|320=>345|337=>346|338=>347|n=>n,fun|3=>3|9=>9|2=>2|4=>4|171=>354|0=>0|53=>219|37=>307|5=>5|173=>356|212=>359|51=>217|20=>20|213=>360|46=>145|232=>361|233=>362|n=>n,fun|17=>6|18=>7|19=>8|n=>n⟩
theorem Tryz.laysM171:Go.Proofs.LaysM.n171 Tryz.prog Tryz.laysM171_ren:={
  mixed:=by kernel_rfl
  f129:=Tryz.func177.trans (congrArg some (by kernel_rfl))
  f171:=Tryz.func317.trans (congrArg some (by kernel_rfl))
  f243:=Tryz.func329.trans (congrArg some (by kernel_rfl))
  f246:=Tryz.func335.trans (congrArg some (by kernel_rfl))
  f283:=Tryz.func338.trans (congrArg some (by kernel_rfl))
  f284:=Tryz.func339.trans (congrArg some (by kernel_rfl))
  f285:=Tryz.func340.trans (congrArg some (by kernel_rfl))
  f286:=Tryz.func341.trans (congrArg some (by kernel_rfl))
  f317:=Tryz.func342.trans (congrArg some (by kernel_rfl))
  f318:=Tryz.func343.trans (congrArg some (by kernel_rfl))
  f319:=Tryz.func344.trans (congrArg some (by kernel_rfl))
  f320:=Tryz.func345.trans (congrArg some (by kernel_rfl))
  f337:=Tryz.func346.trans (congrArg some (by kernel_rfl))
  f338:=Tryz.func347.trans (congrArg some (by kernel_rfl))
  t0:=Tryz.underlying0
  a0:=Tryz.isAgg0
  z0:=Tryz.sizeOf0
  v0:=Tryz.zeroValue0
  t2:=Tryz.underlying2
  a2:=Tryz.isAgg2
  z2:=Tryz.sizeOf2
  v2:=Tryz.zeroValue2
  t3:=Tryz.underlying3
  a3:=Tryz.isAgg3
  z3:=Tryz.sizeOf3
  v3:=Tryz.zeroValue3
  t4:=Tryz.underlying4
  a4:=Tryz.isAgg4
  z4:=Tryz.sizeOf4
  v4:=Tryz.zeroValue4
  t5:=Tryz.underlying5
  a5:=Tryz.isAgg5
  z5:=Tryz.sizeOf5
  v5:=Tryz.zeroValue5
  t9:=Tryz.underlying9
  a9:=Tryz.isAgg9
  z9:=Tryz.sizeOf9
  v9:=Tryz.zeroValue9
  t20:=Tryz.underlying20
  a20:=Tryz.isAgg20
  z20:=Tryz.sizeOf20
  v20:=Tryz.zeroValue20
  t37:=Tryz.underlying307
  a37:=Tryz.isAgg307
  z37:=Tryz.sizeOf307
  v37:=Tryz.zeroValue307
  t46:=Tryz.underlying145
  a46:=Tryz.isAgg145
  z46:=Tryz.sizeOf145
  v46:=Tryz.zeroValue145
  t51:=Tryz.underlying217
  a51:=Tryz.isAgg217
  z51:=Tryz.sizeOf217
  v51:=Tryz.zeroValue217
  t53:=Tryz.underlying219
  a53:=Tryz.isAgg219
  z53:=Tryz.sizeOf219
  v53:=Tryz.zeroValue219
  t171:=Tryz.underlying354
  a171:=Tryz.isAgg354
  z171:=Tryz.sizeOf354
  v171:=Tryz.zeroValue354
  t173:=Tryz.underlying356
  a173:=Tryz.isAgg356
  z173:=Tryz.sizeOf356
  v173:=Tryz.zeroValue356
  t212:=Tryz.underlying359
  a212:=Tryz.isAgg359
  z212:=Tryz.sizeOf359
  v212:=Tryz.zeroValue359
  t213:=Tryz.underlying360
  a213:=Tryz.isAgg360
  z213:=Tryz.sizeOf360
  t232:=Tryz.underlying361
  a232:=Tryz.isAgg361
  z232:=Tryz.sizeOf361
  v232:=Tryz.zeroValue361
  t233:=Tryz.underlying362
  a233:=Tryz.isAgg362
  z233:=Tryz.sizeOf362
  v233:=Tryz.zeroValue362
  g17:=by kernel_rfl
  g18:=by kernel_rfl
  g19:=by kernel_rfl
  i0:=by kernel_rfl
  i2:=by kernel_rfl
  i3:=by kernel_rfl
  i4:=by kernel_rfl
  i5:=by kernel_rfl
  i9:=by kernel_rfl
  i20:=by kernel_rfl
  i37:=by kernel_rfl
  i46:=by kernel_rfl
  i51:=by kernel_rfl
  i53:=by kernel_rfl
  i171:=by kernel_rfl
  i173:=by kernel_rfl
  i212:=by kernel_rfl
  i232:=by kernel_rfl
  i233:=by kernel_rfl
  m17:=by kernel_rfl
  m18:=by kernel_rfl
  m19:=by kernel_rfl }
open Go.RowKit Go.Sort Go.Lib in
theorem Tryz.strconv_Itoa (n : Int) (h0 : -9223372036854775808 ≤ n) (h1 : n ≤ 9223372036854775807) (w : World) (htab : Lib.TabIs Tryz.prog w "internal/strconv.uint64pow10" .u64 Lib.pow10Tab) :
    Calls Tryz.prog 317 #[.int .i64 n] w fun e w'=>e=.returned (.string ⟨(Lib.itoa n).toArray⟩)∧∃ k os,w'=grow (w.drewN k) os:=Any.strconv_Itoa Tryz.laysM171 n h0 h1 w htab
def Tryz.lays219_ren:Go.Shelf.Ren:=⟨fun|219=>307|217=>318|225=>319|224=>320|267=>321|266=>330|314=>331|n=>n,fun|9=>9|3=>3|4=>4|5=>5|46=>145|146=>343|51=>217|n=>n,fun|1=>2|n=>n⟩
theorem Tryz.lays219:Go.Proofs.Lays.n219 Tryz.prog Tryz.lays219_ren:={
  mixed:=by kernel_rfl
  f217:=Tryz.func318.trans (congrArg some (by kernel_rfl))
  f219:=Tryz.func307.trans (congrArg some (by kernel_rfl))
  f224:=Tryz.func320.trans (congrArg some (by kernel_rfl))
  f225:=Tryz.func319.trans (congrArg some (by kernel_rfl))
  f266:=Tryz.func330.trans (congrArg some (by kernel_rfl))
  f267:=Tryz.func321.trans (congrArg some (by kernel_rfl))
  f314:=Tryz.func331.trans (congrArg some (by kernel_rfl))
  t3:=Tryz.underlying3
  a3:=Tryz.isAgg3
  z3:=Tryz.sizeOf3
  v3:=Tryz.zeroValue3
  t4:=Tryz.underlying4
  a4:=Tryz.isAgg4
  z4:=Tryz.sizeOf4
  v4:=Tryz.zeroValue4
  t5:=Tryz.underlying5
  a5:=Tryz.isAgg5
  z5:=Tryz.sizeOf5
  v5:=Tryz.zeroValue5
  t9:=Tryz.underlying9
  a9:=Tryz.isAgg9
  z9:=Tryz.sizeOf9
  v9:=Tryz.zeroValue9
  t46:=Tryz.underlying145
  a46:=Tryz.isAgg145
  z46:=Tryz.sizeOf145
  v46:=Tryz.zeroValue145
  t51:=Tryz.underlying217
  a51:=Tryz.isAgg217
  z51:=Tryz.sizeOf217
  v51:=Tryz.zeroValue217
  t146:=Tryz.underlying343
  a146:=Tryz.isAgg343
  z146:=Tryz.sizeOf343
  v146:=Tryz.zeroValue343
  g1:=by kernel_rfl }
open Go.RowKit Go.Lib in
theorem Tryz.stringslite_Index_one (s:ByteArray) (c:UInt8) (w:World) :
    Calls Tryz.prog 307 #[.string s,.string ⟨#[c]⟩] w fun e w'=>e=.returned (.int .i64 (Lib.indexByte s.data.toList c))∧w'=w:=Any.stringslite_Index_one Tryz.lays219 s c w
open Go.RowKit Go.Lib in
def Tryz.lays190_ren:Go.Shelf.Ren:=⟨fun|190=>43|125=>90|258=>89|128=>176|129=>177|302=>167|303=>168|304=>169|305=>170|306=>171|307=>172|308=>173|309=>174|310=>175|333=>228|329=>229|330=>230|334=>231|335=>232|336=>233|344=>267|n=>n,fun|31=>23|9=>9|3=>3|46=>145|0=>0|51=>217|53=>219|4=>4|183=>210|182=>209|131=>42|5=>5|218=>261|222=>243|228=>296|229=>297|n=>n,fun|n=>n⟩
theorem Tryz.lays190:Go.Proofs.Lays.n190 Tryz.prog Tryz.lays190_ren:={
  mixed:=by kernel_rfl
  f125:=Tryz.func90.trans (congrArg some (by kernel_rfl))
  f128:=Tryz.func176.trans (congrArg some (by kernel_rfl))
  f129:=Tryz.func177.trans (congrArg some (by kernel_rfl))
  f190:=Tryz.func43.trans (congrArg some (by kernel_rfl))
  f258:=Tryz.func89.trans (congrArg some (by kernel_rfl))
  f302:=Tryz.func167.trans (congrArg some (by kernel_rfl))
  f303:=Tryz.func168.trans (congrArg some (by kernel_rfl))
  f304:=Tryz.func169.trans (congrArg some (by kernel_rfl))
  f305:=Tryz.func170.trans (congrArg some (by kernel_rfl))
  f306:=Tryz.func171.trans (congrArg some (by kernel_rfl))
  f307:=Tryz.func172.trans (congrArg some (by kernel_rfl))
  f308:=Tryz.func173.trans (congrArg some (by kernel_rfl))
  f309:=Tryz.func174.trans (congrArg some (by kernel_rfl))
  f310:=Tryz.func175.trans (congrArg some (by kernel_rfl))
  f329:=Tryz.func229.trans (congrArg some (by kernel_rfl))
  f330:=Tryz.func230.trans (congrArg some (by kernel_rfl))
  f333:=Tryz.func228.trans (congrArg some (by kernel_rfl))
  f334:=Tryz.func231.trans (congrArg some (by kernel_rfl))
  f335:=Tryz.func232.trans (congrArg some (by kernel_rfl))
  f336:=Tryz.func233.trans (congrArg some (by kernel_rfl))
  f344:=Tryz.func267.trans (congrArg some (by kernel_rfl))
  t0:=Tryz.underlying0
  a0:=Tryz.isAgg0
  z0:=Tryz.sizeOf0
  v0:=Tryz.zeroValue0
  t3:=Tryz.underlying3
  a3:=Tryz.isAgg3
  z3:=Tryz.sizeOf3
  v3:=Tryz.zeroValue3
  t4:=Tryz.underlying4
  a4:=Tryz.isAgg4
  z4:=Tryz.sizeOf4
  v4:=Tryz.zeroValue4
  t5:=Tryz.underlying5
  a5:=Tryz.isAgg5
  z5:=Tryz.sizeOf5
  v5:=Tryz.zeroValue5
  t9:=Tryz.underlying9
  a9:=Tryz.isAgg9
  z9:=Tryz.sizeOf9
  v9:=Tryz.zeroValue9
  t31:=Tryz.underlying23
  a31:=Tryz.isAgg23
  z31:=Tryz.sizeOf23
  v31:=Tryz.zeroValue23
  t46:=Tryz.underlying145
  a46:=Tryz.isAgg145
  z46:=Tryz.sizeOf145
  v46:=Tryz.zeroValue145
  t51:=Tryz.underlying217
  a51:=Tryz.isAgg217
  z51:=Tryz.sizeOf217
  v51:=Tryz.zeroValue217
  t53:=Tryz.underlying219
  a53:=Tryz.isAgg219
  z53:=Tryz.sizeOf219
  v53:=Tryz.zeroValue219
  t131:=Tryz.underlying42
  a131:=Tryz.isAgg42
  z131:=Tryz.sizeOf42
  v131:=Tryz.zeroValue42
  t182:=Tryz.underlying209
  a182:=Tryz.isAgg209
  z182:=Tryz.sizeOf209
  v182:=Tryz.zeroValue209
  t183:=Tryz.underlying210
  a183:=Tryz.isAgg210
  z183:=Tryz.sizeOf210
  v183:=Tryz.zeroValue210
  t218:=Tryz.underlying261
  a218:=Tryz.isAgg261
  z218:=Tryz.sizeOf261
  v218:=Tryz.zeroValue261
  t222:=Tryz.underlying243
  a222:=Tryz.isAgg243
  z222:=Tryz.sizeOf243
  v222:=Tryz.zeroValue243
  t228:=Tryz.underlying296
  a228:=Tryz.isAgg296
  z228:=Tryz.sizeOf296
  v228:=Tryz.zeroValue296
  t229:=Tryz.underlying297
  a229:=Tryz.isAgg297
  z229:=Tryz.sizeOf297
  v229:=Tryz.zeroValue297 }
open Go.Sort Go.RowKit in
theorem Tryz.slices_Sort_string (blk off cap:Nat) (ss:List (List UInt8)) (w:World) (hH:Holds encStr w blk off ss.toArray) (hblk:blk<w.heap.size) (hsz:ss.length<4611686018427387904) :
    Calls Tryz.prog 43 #[.slice (some ⟨blk,off,none⟩) ss.length cap] w fun e w' =>
      e=.returned (.tuple #[])∧∃ n os,w'=grow (putRow encStr (Sort.ahead w n) blk off (ss.mergeSort fun x y=>decide (x≤y)).toArray) os:=Any.slices_Sort_string Tryz.lays190 blk off cap ss w hH hblk hsz
def Tryz.lays194_ren:Go.Shelf.Ren:=⟨fun|194=>116|n=>n,fun|31=>23|9=>9|3=>3|4=>4|0=>0|n=>n,fun|n=>n⟩
theorem Tryz.lays194:Go.Proofs.Lays.n194 Tryz.prog Tryz.lays194_ren:={
  mixed:=by kernel_rfl
  f194:=Tryz.func116.trans (congrArg some (by kernel_rfl))
  t0:=Tryz.underlying0
  a0:=Tryz.isAgg0
  z0:=Tryz.sizeOf0
  v0:=Tryz.zeroValue0
  t3:=Tryz.underlying3
  a3:=Tryz.isAgg3
  z3:=Tryz.sizeOf3
  v3:=Tryz.zeroValue3
  t4:=Tryz.underlying4
  a4:=Tryz.isAgg4
  z4:=Tryz.sizeOf4
  v4:=Tryz.zeroValue4
  t9:=Tryz.underlying9
  a9:=Tryz.isAgg9
  z9:=Tryz.sizeOf9
  v9:=Tryz.zeroValue9
  t31:=Tryz.underlying23
  a31:=Tryz.isAgg23
  z31:=Tryz.sizeOf23
  v31:=Tryz.zeroValue23 }
open Go.RowKit Go.Lib Go.Sort in
theorem Tryz.slices_Compact_string (blk off cap:Nat) (zs:List (List UInt8)) (w:World) (hH:Holds encStr w blk off zs.toArray) (hsz:zs.length≤9223372036854775807) (hcap:zs.length≤cap) :
    Calls Tryz.prog 116 #[.slice (some ⟨blk,off,none⟩) zs.length cap] w fun e w'=>e=.returned (.slice (some ⟨blk,off,none⟩) (Lib.compact zs).length cap)∧∃ q,w'=putRow encStr (Sort.ahead w q) blk off (Lib.compact zs++List.replicate (zs.length - (Lib.compact zs).length) []).toArray:=Any.slices_Compact_string Tryz.lays194 blk off cap zs w hH hsz hcap
open Go.RowKit Go.Lib Go.Sort in
theorem Tryz.slices_Compact_string_empty (a:Option Addr) (cap:Nat) (w:World) :
    Calls Tryz.prog 116 #[.slice a 0 cap] w fun e w'=>e=.returned (.slice a 0 cap)∧w'=w:=Any.slices_Compact_string_empty Tryz.lays194 a cap w
open Go.RowKit Go.Sort in
theorem Tryz.slices_Sort_string_none (p:Option Addr) (cap:Nat) (w:World) :
    Calls Tryz.prog 43 #[.slice p 0 cap] w fun e w'=>e=.returned (.tuple #[])∧w'=w:=Any.slices_Sort_string_none Tryz.lays190 p cap w
end Go.Proofs
namespace Go.Proofs
open Go.Shelf
def Tryz.lays106_ren:Go.Shelf.Ren:=⟨fun|106=>100|213=>184|265=>238|n=>n,fun|9=>9|3=>3|n=>n,fun|n=>n⟩
theorem Tryz.lays106:Go.Proofs.Lays.n106 Tryz.prog Tryz.lays106_ren:={
  mixed:=by kernel_rfl
  f106:=Tryz.func100.trans (congrArg some (by kernel_rfl))
  f213:=Tryz.func184.trans (congrArg some (by kernel_rfl))
  f265:=Tryz.func238.trans (congrArg some (by kernel_rfl))
  t3:=Tryz.underlying3
  a3:=Tryz.isAgg3
  z3:=Tryz.sizeOf3
  v3:=Tryz.zeroValue3
  t9:=Tryz.underlying9
  a9:=Tryz.isAgg9
  z9:=Tryz.sizeOf9
  v9:=Tryz.zeroValue9 }
open Go.RowKit in
theorem Tryz.strings_Compare (a b:ByteArray) (w:World) :
    Calls Tryz.prog 100 #[.string a,.string b] w fun e w'=>e=.returned (.int .i64 (Lib.compareBytes a.data.toList b.data.toList))∧w'=w:=Any.strings_Compare Tryz.lays106 a b w
end Go.Proofs
namespace Go.Sx
open Go
structure Cn (n:Nat) (G:Prop):Prop where
  go:G
structure Kw (A:Prop):Prop where
  go:A
theorem cn {n:Nat} {G G1:Prop} (k:G1→G) (h:Cn n G1):Cn (n+1) G:=⟨k h.go⟩
theorem cn0 {G:Prop} (h:G):Cn 0 G:=⟨h⟩
def noG (x:Value) (want:Bool):Bool:=match x with|.bool b=>Bool.xor b want|_=>true
section
variable {P:Program} {N:Nf} {v0:Vw} {H0:Hp} {R:Exit→Act→World→Prop} {K:List Kt} {fr:Fr} {H:Hp} {Γ:List Fct} {ops:Array Oper} {l:List Oper} {d:Nat} {ty:TypeId} {ps:String} {af:Array Edge} {Hs:Hp} {Γs:List Fct} {fuel:Nat} {listed:Array Bool}
theorem oJ_ {op:Op} {j t:Nat} {want:Bool} {x:Value} (hj:gy_ ops j=some t) (hx:Fr.get fr t=some x) (hne:noG x want=true) (hN:Nat.blt d N.n=true)
    (h:Ops P R N v0 H0 ops l K ((d,undef)::fr) H Γ):Ops P R N v0 H0 ops (⟨some d,op,ty,ps,af,some (j,want)⟩::l) K fr H Γ:=bc_ hj hx (by cases x<;>first|rfl|exact hne) hN h
theorem sq_noG [NoPan R] {i:Nat} {is:List Nat} {op:Op} {x:Value} {j t:Nat} {want:Bool} (hi:ops[i]? = some ⟨some d,op,ty,ps,af,some (j,want)⟩) (hj:gy_ ops j=some t) (hx:Fr.get fr t=some x) (hne:noG x want=true) (hN:Nat.blt d N.n=true)
    (h:Sq P R N v0 H0 ops Hs Γs is fuel (listed.setIfInBounds i true) K ((d,undef)::fr) H Γ):Sq P R N v0 H0 ops Hs Γs (i::is) fuel listed K fr H Γ:=sq_no hi hj hx (by cases x<;>first|rfl|exact hne) hN h
end
end Go.Sx

namespace Go.Proofs.YtamklbgaipakfaaGreatDoor
open Go Go.Sx
theorem zdf {p:Prop} [Decidable p] (h:decide p=false):¬p:=of_decide_eq_false h
theorem zdt {p:Prop} [Decidable p] (h:decide p=true):p:=of_decide_eq_true h
theorem znb {α:Type} [BEq α] [LawfulBEq α] {a b:α} (h:(a==b)=false):a≠b:=by simpa using h
theorem zeb {α:Type} [BEq α] [LawfulBEq α] {a b:α} (h:(a==b)=true):a=b:=eq_of_beq h
theorem zbe {α:Type} [BEq α] [LawfulBEq α] {a b:α} (h:(a != b)=false):a=b:=by simpa using h
theorem zk {G:Prop} (h:G:=by kernel_rfl):G:=h
theorem zh {P Q:Vw→Prop}:∀ v,P v→Q v→Q v:=fun _ _ h=>h
theorem zt {P Q:Vw→Prop}:∀ v,P v→Q v→az_ [] v:=fun _ _ _=>trivial
section
variable {H r r' d O:Hp} {b c:Nat×Obj}
theorem zpn (h:H.Perm r):([]++H).Perm r:=h
end
abbrev zR {α:Type} (e k:Nat) (f:α→List Value) (sv:Value) (X:List α) (H:Hp):Prop:=aG_ e k sv X.length (X.flatMap f) H
theorem zsw {α β:Type} {e k:Nat} {f:β→List Value} {sv:Value} {A:List β} {H:Hp} (g:α→List β) (p:List α) (h:aG_ e k sv A.length (A.flatMap f) H):zR e k f sv (A++List.flatMap g (List.take 0 p)) H:=by
  unfold zR;simpa only[List.take_zero,List.flatMap_nil,List.append_nil] using h
theorem zsa {β:Type} {e k m:Nat} {f:β→List Value} {sv:Value} {A B:List β} {H:Hp} (h:aG_ e k sv (A.length+m) (A.flatMap f++B.flatMap f) H) (hm:B.length=m:=by first|rfl|simp):zR e k f sv (A++B) H:=by
  subst hm;unfold zR;rw[List.length_append,List.flatMap_append];exact h
theorem zge {α:Type} {l:List α} {i:Nat} (h:i<l.length):i<l.length∧∃ x,l[i]? = some x∧x∈l:=⟨h,_,List.getElem?_eq_getElem h,List.getElem_mem h⟩
theorem zbn {α:Type} [BEq α] [LawfulBEq α] {a b:α} (h:(a != b)=true):a≠b:=by simpa using h
theorem zp {G:Prop} (h:G:=by (repeat (first|(with_reducible first|exact f_|exact t_|exact aY_|exact bo_|exact dx_|exact bh_)|exact t_|(with_reducible first|apply zpn|(apply aF_;rotate_left;(fail_if_success (with_reducible apply f_));rotate_right)|apply cq_|apply C_|apply bs_)|exact aY_|exact bh_))):G:=h
theorem zf {G:Prop} (h:G:=by intro v_ a_ b_;repeat (first|exact trivial|(with_reducible first|exact b_.1|exact b_.2.1|exact b_.2.2.1|exact b_.2.2.2.1|exact b_.2.2.2.2.1|exact b_.2.2.2.2.2.1|exact b_.2.2.2.2.2.2.1|exact b_.2.2.2.2.2.2.2.1|exact b_.2.2.2.2.2.2.2.2.1|exact b_.2.2.2.2.2.2.2.2.2.1|exact b_.2.2.2.2.2.2.2.2.2.2.1|exact b_.2.2.2.2.2.2.2.2.2.2.2.1|exact b_|exact b_.2|exact b_.2.2|exact b_.2.2.2|exact b_.2.2.2.2|exact b_.2.2.2.2.2|exact b_.2.2.2.2.2.2|exact b_.2.2.2.2.2.2.2|exact b_.2.2.2.2.2.2.2.2|exact b_.2.2.2.2.2.2.2.2.2|exact b_.2.2.2.2.2.2.2.2.2.2|exact b_.2.2.2.2.2.2.2.2.2.2.2)|(first|exact b_.1|exact b_.2.1|exact b_.2.2.1|exact b_.2.2.2.1|exact b_.2.2.2.2.1|exact b_.2.2.2.2.2.1|exact b_.2.2.2.2.2.2.1|exact b_.2.2.2.2.2.2.2.1|exact b_.2.2.2.2.2.2.2.2.1|exact b_.2.2.2.2.2.2.2.2.2.1|exact b_.2.2.2.2.2.2.2.2.2.2.1|exact b_.2.2.2.2.2.2.2.2.2.2.2.1|exact b_|exact b_.2|exact b_.2.2|exact b_.2.2.2|exact b_.2.2.2.2|exact b_.2.2.2.2.2|exact b_.2.2.2.2.2.2|exact b_.2.2.2.2.2.2.2|exact b_.2.2.2.2.2.2.2.2|exact b_.2.2.2.2.2.2.2.2.2|exact b_.2.2.2.2.2.2.2.2.2.2|exact b_.2.2.2.2.2.2.2.2.2.2.2)|refine⟨?_,?_⟩)):G:=h
theorem zs {G:Prop} (h:G:=by intro v_ a_ b_;refine⟨?_,?_⟩;(first|exact a_|exact satNil a_|exact a_.tail|exact a_.tail.tail|exact a_.tail.tail.tail|exact a_.tail.tail.tail.tail|((apply Vw.sat.sub;apply a_.perm);(repeat (first|(with_reducible first|exact f_|exact t_|exact aY_|exact bo_|exact dx_|exact bh_)|exact t_|(with_reducible first|apply zpn|(apply aF_;rotate_left;(fail_if_success (with_reducible apply f_));rotate_right)|apply cq_|apply C_|apply bs_)|exact aY_|exact bh_))));(first|exact b_|exact b_.2|exact b_.2.2|exact b_.2.2.2|exact b_.2.2.2.2|exact b_.2.2.2.2.2|exact b_.2.2.2.2.2.2|exact b_.2.2.2.2.2.2.2|exact b_.2.2.2.2.2.2.2.2|exact b_.2.2.2.2.2.2.2.2.2|exact b_.2.2.2.2.2.2.2.2.2.2|exact b_.2.2.2.2.2.2.2.2.2.2.2)):G:=h
theorem zl {G:Prop} (h:G:=by repeat (first|exact trivial|refine⟨rfl,?_⟩)):G:=h
def lkN {α:Type}:List (Nat×α)→Nat→Option α
  | [],_=>none
  | (k,v)::l,n=>bif Nat.beq k n then some v else lkN l n
theorem lt_ {α:Type} {n:Nat} {v:α}:∀ {l:List (Nat×α)},lkN l n=some v→(n,v)∈l
  | (k,u)::l,h=>by
    simp only[lkN]at h
    cases hb:Nat.beq k n with
    | true=>rw[hb,cond_true]at h;cases h;rw[Nat.eq_of_beq_eq_true hb];exact List.mem_cons_self
    | false=>rw[hb,cond_false]at h;exact List.mem_cons_of_mem _ (lt_ h)
def zAt:List (Nat×Bool):=[(9,false),(46,true),(3,false),(23,false),(44,false),(48,true),(4,false),(86,true),(58,true),(22,false),(54,false),(83,true),(139,false),(305,true),(140,false),(223,true),(112,false),(78,false),(221,false),(170,false),(79,false),(165,false),(37,true),(150,true),(302,false),(94,true),(163,true)]
theorem zA {t:TypeId} {b:Bool} (h:lkN zAt t=some b):∀ w,(isAgg t).run Tryz.prog w=.ok b w:=by
  have h:=lt_ h
  simp only[zAt,List.mem_cons,Prod.mk.injEq,List.not_mem_nil,or_false]at h
  rcases h with⟨rfl,rfl⟩|⟨rfl,rfl⟩|⟨rfl,rfl⟩|⟨rfl,rfl⟩|⟨rfl,rfl⟩|⟨rfl,rfl⟩|⟨rfl,rfl⟩|⟨rfl,rfl⟩|⟨rfl,rfl⟩|⟨rfl,rfl⟩|⟨rfl,rfl⟩|⟨rfl,rfl⟩|⟨rfl,rfl⟩|⟨rfl,rfl⟩|⟨rfl,rfl⟩|⟨rfl,rfl⟩|⟨rfl,rfl⟩|⟨rfl,rfl⟩|⟨rfl,rfl⟩|⟨rfl,rfl⟩|⟨rfl,rfl⟩|⟨rfl,rfl⟩|⟨rfl,rfl⟩|⟨rfl,rfl⟩|⟨rfl,rfl⟩|⟨rfl,rfl⟩|⟨rfl,rfl⟩
  · exact ap_
  · exact w_
  · exact ay_
  · exact fw_
  · exact bk_
  · exact bB_
  · exact id_
  · exact dF_
  · exact gP_
  · exact iS_
  · exact eH_
  · exact Tryz.isAgg83
  · exact Tryz.isAgg139
  · exact sN_
  · exact Tryz.isAgg140
  · exact Tryz.isAgg223
  · exact Tryz.isAgg112
  · exact Tryz.isAgg78
  · exact Tryz.isAgg221
  · exact hH_
  · exact Tryz.isAgg79
  · exact Tryz.isAgg165
  · exact Tryz.isAgg37
  · exact sO_
  · exact Tryz.isAgg302
  · exact Tryz.isAgg94
  · exact Tryz.isAgg163
def zSt:List (Nat×Nat):=[(46,5),(9,1),(3,1),(23,1),(44,1),(58,10),(48,16),(4,1),(86,3),(22,1),(54,1),(83,2),(305,2),(223,7),(221,1),(112,1),(37,1),(150,7),(302,1),(94,16),(163,2)]
theorem zS {t:TypeId} {b:Nat} (h:lkN zSt t=some b):∀ w,(sizeOf t).run Tryz.prog w=.ok b w:=by
  have h:=lt_ h
  simp only[zSt,List.mem_cons,Prod.mk.injEq,List.not_mem_nil,or_false]at h
  rcases h with⟨rfl,rfl⟩|⟨rfl,rfl⟩|⟨rfl,rfl⟩|⟨rfl,rfl⟩|⟨rfl,rfl⟩|⟨rfl,rfl⟩|⟨rfl,rfl⟩|⟨rfl,rfl⟩|⟨rfl,rfl⟩|⟨rfl,rfl⟩|⟨rfl,rfl⟩|⟨rfl,rfl⟩|⟨rfl,rfl⟩|⟨rfl,rfl⟩|⟨rfl,rfl⟩|⟨rfl,rfl⟩|⟨rfl,rfl⟩|⟨rfl,rfl⟩|⟨rfl,rfl⟩|⟨rfl,rfl⟩|⟨rfl,rfl⟩
  · exact g_
  · exact O_
  · exact ab_
  · exact bw_
  · exact ba_
  · exact Z_
  · exact ad_
  · exact dZ_
  · exact aZ_
  · exact fL_
  · exact bd_
  · exact aL_
  · exact jr_
  · exact cN_
  · exact Tryz.sizeOf221
  · exact qo_
  · exact fK_
  · exact dn_
  · exact Tryz.sizeOf302
  · exact Tryz.sizeOf94
  · exact Tryz.sizeOf163
theorem zUe {P:Program} {t t1:TypeId} {q q1} (h:∀ w,(underlying t1).run P w=.ok q1 w) (e:t=t1) (e1:q1=q):∀ w,(underlying t).run P w=.ok q w:=by subst e e1;exact h
theorem Zy {A B:Prop} {n:Nat} (k:A) (h:Kw A→Cn n B:=by intro k_;repeat (first|exact cn0 k_.go|(apply cn;intro h_;((first|((with_reducible apply c_);rotate_left;exact rfl;exact h_;rotate_right)|((with_reducible apply y_);exact rfl;rotate_left;exact rfl;exact h_;rotate_right)|((with_reducible apply hO_);exact rfl;exact rfl;exact rfl;rotate_left;exact rfl;exact h_;rotate_right));(focus (first|((with_reducible apply q_);exact rfl)|((with_reducible apply n_);exact rfl)|((with_reducible apply hr_);rotate_left;exact rfl;rotate_right;(first|exact zUe p_ rfl rfl|exact zUe z_ rfl rfl|exact zUe D_ rfl rfl|exact zUe bW_ rfl rfl|exact zUe B_ rfl rfl|exact zUe cl_ rfl rfl|exact zUe x_ rfl rfl|exact zUe ae_ rfl rfl|exact zUe cu_ rfl rfl|exact zUe bl_ rfl rfl|exact zUe aS_ rfl rfl|exact zUe bD_ rfl rfl|exact zUe am_ rfl rfl|exact zUe df_ rfl rfl|exact zUe af_ rfl rfl|exact zUe bQ_ rfl rfl|exact zUe dg_ rfl rfl|exact zUe at_ rfl rfl|exact zUe cC_ rfl rfl|exact zUe cB_ rfl rfl|exact zUe bP_ rfl rfl|exact zUe cs_ rfl rfl);exact rfl;exact rfl;exact zS rfl)|((with_reducible apply A_);(first|exact zUe p_ rfl rfl|exact zUe z_ rfl rfl|exact zUe D_ rfl rfl|exact zUe bW_ rfl rfl|exact zUe B_ rfl rfl|exact zUe cl_ rfl rfl|exact zUe x_ rfl rfl|exact zUe ae_ rfl rfl|exact zUe cu_ rfl rfl|exact zUe bl_ rfl rfl|exact zUe aS_ rfl rfl|exact zUe bD_ rfl rfl|exact zUe am_ rfl rfl|exact zUe df_ rfl rfl|exact zUe af_ rfl rfl|exact zUe bQ_ rfl rfl|exact zUe dg_ rfl rfl|exact zUe at_ rfl rfl|exact zUe cC_ rfl rfl|exact zUe cB_ rfl rfl|exact zUe bP_ rfl rfl|exact zUe cs_ rfl rfl);exact rfl;exact rfl;exact rfl;exact zS rfl)|((with_reducible apply (M_ 0));rotate_left;exact rfl;exact rfl;exact rfl;exact zA rfl)|((with_reducible apply (M_ 1));rotate_left;exact rfl;exact rfl;exact rfl;exact zA rfl)|((with_reducible apply (M_ 2));rotate_left;exact rfl;exact rfl;exact rfl;exact zA rfl)|((with_reducible apply (M_ 3));rotate_left;exact rfl;exact rfl;exact rfl;exact zA rfl)|((with_reducible apply bS_);exact rfl;exact rfl)|((with_reducible apply bx_);exact rfl;exact rfl)|((with_reducible apply aA_);exact rfl;exact rfl;exact rfl;exact be_ (by omega) (by omega))|((with_reducible apply cJ_);exact rfl)|((with_reducible apply cv_);exact rfl;exact rfl)|((with_reducible apply bM_);(first|exact zUe p_ rfl rfl|exact zUe z_ rfl rfl|exact zUe D_ rfl rfl|exact zUe bW_ rfl rfl|exact zUe B_ rfl rfl|exact zUe cl_ rfl rfl|exact zUe x_ rfl rfl|exact zUe ae_ rfl rfl|exact zUe cu_ rfl rfl|exact zUe bl_ rfl rfl|exact zUe aS_ rfl rfl|exact zUe bD_ rfl rfl|exact zUe am_ rfl rfl|exact zUe df_ rfl rfl|exact zUe af_ rfl rfl|exact zUe bQ_ rfl rfl|exact zUe dg_ rfl rfl|exact zUe at_ rfl rfl|exact zUe cC_ rfl rfl|exact zUe cB_ rfl rfl|exact zUe bP_ rfl rfl|exact zUe cs_ rfl rfl);exact rfl)|((with_reducible apply (P_ 0));rotate_left;exact zS rfl;exact rfl;exact rfl;exact rfl;exact zA rfl)|((with_reducible apply (P_ 1));rotate_left;exact zS rfl;exact rfl;exact rfl;exact rfl;exact zA rfl)|((with_reducible apply (P_ 2));rotate_left;exact zS rfl;exact rfl;exact rfl;exact rfl;exact zA rfl)|((with_reducible apply (P_ 3));rotate_left;exact zS rfl;exact rfl;exact rfl;exact rfl;exact zA rfl)|((with_reducible apply ch_);rotate_left;exact rfl;(intro v _ h;first|exact h.1|exact h.2.1|exact h.2.2.1|exact h.2.2.2.1|exact h.2.2.2.2.1|exact h.2.2.2.2.2.1|exact h.2.2.2.2.2.2.1|exact h.2.2.2.2.2.2.2.1|exact h.2.2.2.2.2.2.2.2.1|exact h.2.2.2.2.2.2.2.2.2.1|exact h.2.2.2.2.2.2.2.2.2.2.1|exact h.2.2.2.2.2.2.2.2.2.2.2.1);exact rfl;exact zA rfl)|((with_reducible apply T_);(first|exact zUe p_ rfl rfl|exact zUe z_ rfl rfl|exact zUe D_ rfl rfl|exact zUe bW_ rfl rfl|exact zUe B_ rfl rfl|exact zUe cl_ rfl rfl|exact zUe x_ rfl rfl|exact zUe ae_ rfl rfl|exact zUe cu_ rfl rfl|exact zUe bl_ rfl rfl|exact zUe aS_ rfl rfl|exact zUe bD_ rfl rfl|exact zUe am_ rfl rfl|exact zUe df_ rfl rfl|exact zUe af_ rfl rfl|exact zUe bQ_ rfl rfl|exact zUe dg_ rfl rfl|exact zUe at_ rfl rfl|exact zUe cC_ rfl rfl|exact zUe cB_ rfl rfl|exact zUe bP_ rfl rfl|exact zUe cs_ rfl rfl);exact zS rfl;exact rfl;exact rfl;(intro v _ h;first|exact J_ Pc.cells_len (by decide) h.1 (by assumption)|exact J_ Pc.cells_len (by decide) h.2.1 (by assumption)|exact J_ Pc.cells_len (by decide) h.2.2.1 (by assumption)|exact J_ Pc.cells_len (by decide) h.2.2.2.1 (by assumption)|exact J_ Pc.cells_len (by decide) h.2.2.2.2.1 (by assumption)|exact J_ Pc.cells_len (by decide) h.2.2.2.2.2.1 (by assumption)|exact J_ Pc.cells_len (by decide) h.2.2.2.2.2.2.1 (by assumption)|exact J_ Pc.cells_len (by decide) h.2.2.2.2.2.2.2.1 (by assumption)|exact J_ Fc.cells_len (by decide) h.1 (by assumption)|exact J_ Fc.cells_len (by decide) h.2.1 (by assumption)|exact J_ Fc.cells_len (by decide) h.2.2.1 (by assumption)|exact J_ Fc.cells_len (by decide) h.2.2.2.1 (by assumption)|exact J_ Fc.cells_len (by decide) h.2.2.2.2.1 (by assumption)|exact J_ Fc.cells_len (by decide) h.2.2.2.2.2.1 (by assumption)|exact J_ Fc.cells_len (by decide) h.2.2.2.2.2.2.1 (by assumption)|exact J_ Fc.cells_len (by decide) h.2.2.2.2.2.2.2.1 (by assumption)|exact J_ Stp.cells_len (by decide) h.1 (by assumption)|exact J_ Stp.cells_len (by decide) h.2.1 (by assumption)|exact J_ Stp.cells_len (by decide) h.2.2.1 (by assumption)|exact J_ Stp.cells_len (by decide) h.2.2.2.1 (by assumption)|exact J_ Stp.cells_len (by decide) h.2.2.2.2.1 (by assumption)|exact J_ Stp.cells_len (by decide) h.2.2.2.2.2.1 (by assumption)|exact J_ Stp.cells_len (by decide) h.2.2.2.2.2.2.1 (by assumption)|exact J_ Stp.cells_len (by decide) h.2.2.2.2.2.2.2.1 (by assumption)|exact J_ av_ (by decide) h.1 (by assumption)|exact J_ av_ (by decide) h.2.1 (by assumption)|exact J_ av_ (by decide) h.2.2.1 (by assumption)|exact J_ av_ (by decide) h.2.2.2.1 (by assumption)|exact J_ av_ (by decide) h.2.2.2.2.1 (by assumption)|exact J_ av_ (by decide) h.2.2.2.2.2.1 (by assumption)|exact J_ av_ (by decide) h.2.2.2.2.2.2.1 (by assumption)|exact J_ av_ (by decide) h.2.2.2.2.2.2.2.1 (by assumption)|exact J_ bY_ (by decide) h.1 (by assumption)|exact J_ bY_ (by decide) h.2.1 (by assumption)|exact J_ bY_ (by decide) h.2.2.1 (by assumption)|exact J_ bY_ (by decide) h.2.2.2.1 (by assumption)|exact J_ bY_ (by decide) h.2.2.2.2.1 (by assumption)|exact J_ bY_ (by decide) h.2.2.2.2.2.1 (by assumption)|exact J_ bY_ (by decide) h.2.2.2.2.2.2.1 (by assumption)|exact J_ bY_ (by decide) h.2.2.2.2.2.2.2.1 (by assumption));omega;(first|omega|(simp;done)))|((with_reducible apply bu_);rotate_left;exact rfl;(intro v _ h;first|exact h.1|exact h.2.1|exact h.2.2.1|exact h.2.2.2.1|exact h.2.2.2.2.1|exact h.2.2.2.2.2.1|exact h.2.2.2.2.2.2.1|exact h.2.2.2.2.2.2.2.1|exact h.2.2.2.2.2.2.2.2.1|exact h.2.2.2.2.2.2.2.2.2.1|exact h.2.2.2.2.2.2.2.2.2.2.1|exact h.2.2.2.2.2.2.2.2.2.2.2.1);(first|exact H_ Pc.cells_len (by assumption) 0 _ rfl|exact H_ Pc.cells_len (by assumption) _ _ rfl|exact H_ Fc.cells_len (by assumption) 0 _ rfl|exact H_ Fc.cells_len (by assumption) _ _ rfl|exact H_ Stp.cells_len (by assumption) 0 _ rfl|exact H_ Stp.cells_len (by assumption) _ _ rfl|exact H_ av_ (by assumption) 0 _ rfl|exact H_ av_ (by assumption) _ _ rfl|exact H_ bY_ (by assumption) 0 _ rfl|exact H_ bY_ (by assumption) _ _ rfl|exact H_ Stp.cells_len (by assumption) 2 _ rfl|exact H_ Stp.cells_len (by assumption) 3 _ rfl|exact H_ Stp.cells_len (by assumption) 4 _ rfl|exact H_ Stp.cells_len (by assumption) 5 _ rfl|exact H_ Stp.cells_len (by assumption) 6 _ rfl);exact zA rfl)|((with_reducible apply al_);rotate_left;exact zS rfl;exact rfl;(intro v _ h;first|exact h.1|exact h.2.1|exact h.2.2.1|exact h.2.2.2.1|exact h.2.2.2.2.1|exact h.2.2.2.2.2.1|exact h.2.2.2.2.2.2.1|exact h.2.2.2.2.2.2.2.1|exact h.2.2.2.2.2.2.2.2.1|exact h.2.2.2.2.2.2.2.2.2.1|exact h.2.2.2.2.2.2.2.2.2.2.1|exact h.2.2.2.2.2.2.2.2.2.2.2.1);rotate_left;(first|exact H_ Pc.cells_len (by assumption)|exact H_ Fc.cells_len (by assumption)|exact H_ Stp.cells_len (by assumption));exact zA rfl;(first|exact Pc.cells_len _|exact Fc.cells_len _|exact Stp.cells_len _))|((with_reducible apply (M_ 4));rotate_left;exact rfl;exact rfl;exact rfl;exact zA rfl)|((with_reducible apply (M_ 5));rotate_left;exact rfl;exact rfl;exact rfl;exact zA rfl)|((with_reducible apply (M_ 6));rotate_left;exact rfl;exact rfl;exact rfl;exact zA rfl)|((with_reducible apply (M_ 7));rotate_left;exact rfl;exact rfl;exact rfl;exact zA rfl)|((with_reducible apply (P_ 4));rotate_left;exact zS rfl;exact rfl;exact rfl;exact rfl;exact zA rfl)|((with_reducible apply (P_ 5));rotate_left;exact zS rfl;exact rfl;exact rfl;exact rfl;exact zA rfl)|((with_reducible apply (P_ 6));rotate_left;exact zS rfl;exact rfl;exact rfl;exact rfl;exact zA rfl)|((with_reducible apply (P_ 7));rotate_left;exact zS rfl;exact rfl;exact rfl;exact rfl;exact zA rfl)))))|(apply cn;intro h_;first|((with_reducible apply j_);exact h_)|((with_reducible apply e_);exact rfl;exact h_)|((with_reducible apply m_);exact h_)|((with_reducible apply d_);exact h_)|((with_reducible apply ag_);exact rfl;exact rfl;exact h_)|((with_reducible apply oJ_);exact rfl;exact rfl;exact rfl;exact rfl;exact h_)|((with_reducible apply E_);exact rfl;exact h_)|((with_reducible apply F_);exact rfl;exact h_)|((with_reducible apply ai_);exact h_)|((with_reducible apply aJ_);exact h_)|((with_reducible apply ar_);exact h_)|((with_reducible apply L_);exact rfl;exact h_)|((with_reducible apply sq_noG);exact rfl;exact rfl;exact rfl;exact rfl;exact rfl;exact h_)|((with_reducible apply bp_);kernel_rfl;exact h_)|((with_reducible apply aB_);exact h_)|((with_reducible apply cp_);exact rfl;exact h_)|((with_reducible apply hd_);kernel_rfl;exact h_)|((with_reducible apply co_);exact rfl;exact h_)|((with_reducible apply X_);exact zs;exact h_)|((apply ag_);exact rfl;exact rfl;exact h_)|((apply oJ_);exact rfl;exact rfl;exact rfl;exact rfl;exact h_)|((apply j_);exact h_))|(apply cn;intro h_;((apply c_);rotate_left;exact rfl;exact h_;rotate_right);(focus (first|((with_reducible apply q_);exact rfl)|((with_reducible apply n_);exact rfl)|((with_reducible apply hr_);rotate_left;exact rfl;rotate_right;(first|exact zUe p_ rfl rfl|exact zUe z_ rfl rfl|exact zUe D_ rfl rfl|exact zUe bW_ rfl rfl|exact zUe B_ rfl rfl|exact zUe cl_ rfl rfl|exact zUe x_ rfl rfl|exact zUe ae_ rfl rfl|exact zUe cu_ rfl rfl|exact zUe bl_ rfl rfl|exact zUe aS_ rfl rfl|exact zUe bD_ rfl rfl|exact zUe am_ rfl rfl|exact zUe df_ rfl rfl|exact zUe af_ rfl rfl|exact zUe bQ_ rfl rfl|exact zUe dg_ rfl rfl|exact zUe at_ rfl rfl|exact zUe cC_ rfl rfl|exact zUe cB_ rfl rfl|exact zUe bP_ rfl rfl|exact zUe cs_ rfl rfl);exact rfl;exact rfl;exact zS rfl)|((with_reducible apply A_);(first|exact zUe p_ rfl rfl|exact zUe z_ rfl rfl|exact zUe D_ rfl rfl|exact zUe bW_ rfl rfl|exact zUe B_ rfl rfl|exact zUe cl_ rfl rfl|exact zUe x_ rfl rfl|exact zUe ae_ rfl rfl|exact zUe cu_ rfl rfl|exact zUe bl_ rfl rfl|exact zUe aS_ rfl rfl|exact zUe bD_ rfl rfl|exact zUe am_ rfl rfl|exact zUe df_ rfl rfl|exact zUe af_ rfl rfl|exact zUe bQ_ rfl rfl|exact zUe dg_ rfl rfl|exact zUe at_ rfl rfl|exact zUe cC_ rfl rfl|exact zUe cB_ rfl rfl|exact zUe bP_ rfl rfl|exact zUe cs_ rfl rfl);exact rfl;exact rfl;exact rfl;exact zS rfl)|((with_reducible apply (M_ 0));rotate_left;exact rfl;exact rfl;exact rfl;exact zA rfl)|((with_reducible apply (M_ 1));rotate_left;exact rfl;exact rfl;exact rfl;exact zA rfl)|((with_reducible apply (M_ 2));rotate_left;exact rfl;exact rfl;exact rfl;exact zA rfl)|((with_reducible apply (M_ 3));rotate_left;exact rfl;exact rfl;exact rfl;exact zA rfl)|((with_reducible apply bS_);exact rfl;exact rfl)|((with_reducible apply bx_);exact rfl;exact rfl)|((with_reducible apply aA_);exact rfl;exact rfl;exact rfl;exact be_ (by omega) (by omega))|((with_reducible apply cJ_);exact rfl)|((with_reducible apply cv_);exact rfl;exact rfl)|((with_reducible apply bM_);(first|exact zUe p_ rfl rfl|exact zUe z_ rfl rfl|exact zUe D_ rfl rfl|exact zUe bW_ rfl rfl|exact zUe B_ rfl rfl|exact zUe cl_ rfl rfl|exact zUe x_ rfl rfl|exact zUe ae_ rfl rfl|exact zUe cu_ rfl rfl|exact zUe bl_ rfl rfl|exact zUe aS_ rfl rfl|exact zUe bD_ rfl rfl|exact zUe am_ rfl rfl|exact zUe df_ rfl rfl|exact zUe af_ rfl rfl|exact zUe bQ_ rfl rfl|exact zUe dg_ rfl rfl|exact zUe at_ rfl rfl|exact zUe cC_ rfl rfl|exact zUe cB_ rfl rfl|exact zUe bP_ rfl rfl|exact zUe cs_ rfl rfl);exact rfl)|((with_reducible apply (P_ 0));rotate_left;exact zS rfl;exact rfl;exact rfl;exact rfl;exact zA rfl)|((with_reducible apply (P_ 1));rotate_left;exact zS rfl;exact rfl;exact rfl;exact rfl;exact zA rfl)|((with_reducible apply (P_ 2));rotate_left;exact zS rfl;exact rfl;exact rfl;exact rfl;exact zA rfl)|((with_reducible apply (P_ 3));rotate_left;exact zS rfl;exact rfl;exact rfl;exact rfl;exact zA rfl)|((with_reducible apply ch_);rotate_left;exact rfl;(intro v _ h;first|exact h.1|exact h.2.1|exact h.2.2.1|exact h.2.2.2.1|exact h.2.2.2.2.1|exact h.2.2.2.2.2.1|exact h.2.2.2.2.2.2.1|exact h.2.2.2.2.2.2.2.1|exact h.2.2.2.2.2.2.2.2.1|exact h.2.2.2.2.2.2.2.2.2.1|exact h.2.2.2.2.2.2.2.2.2.2.1|exact h.2.2.2.2.2.2.2.2.2.2.2.1);exact rfl;exact zA rfl)|((with_reducible apply T_);(first|exact zUe p_ rfl rfl|exact zUe z_ rfl rfl|exact zUe D_ rfl rfl|exact zUe bW_ rfl rfl|exact zUe B_ rfl rfl|exact zUe cl_ rfl rfl|exact zUe x_ rfl rfl|exact zUe ae_ rfl rfl|exact zUe cu_ rfl rfl|exact zUe bl_ rfl rfl|exact zUe aS_ rfl rfl|exact zUe bD_ rfl rfl|exact zUe am_ rfl rfl|exact zUe df_ rfl rfl|exact zUe af_ rfl rfl|exact zUe bQ_ rfl rfl|exact zUe dg_ rfl rfl|exact zUe at_ rfl rfl|exact zUe cC_ rfl rfl|exact zUe cB_ rfl rfl|exact zUe bP_ rfl rfl|exact zUe cs_ rfl rfl);exact zS rfl;exact rfl;exact rfl;(intro v _ h;first|exact J_ Pc.cells_len (by decide) h.1 (by assumption)|exact J_ Pc.cells_len (by decide) h.2.1 (by assumption)|exact J_ Pc.cells_len (by decide) h.2.2.1 (by assumption)|exact J_ Pc.cells_len (by decide) h.2.2.2.1 (by assumption)|exact J_ Pc.cells_len (by decide) h.2.2.2.2.1 (by assumption)|exact J_ Pc.cells_len (by decide) h.2.2.2.2.2.1 (by assumption)|exact J_ Pc.cells_len (by decide) h.2.2.2.2.2.2.1 (by assumption)|exact J_ Pc.cells_len (by decide) h.2.2.2.2.2.2.2.1 (by assumption)|exact J_ Fc.cells_len (by decide) h.1 (by assumption)|exact J_ Fc.cells_len (by decide) h.2.1 (by assumption)|exact J_ Fc.cells_len (by decide) h.2.2.1 (by assumption)|exact J_ Fc.cells_len (by decide) h.2.2.2.1 (by assumption)|exact J_ Fc.cells_len (by decide) h.2.2.2.2.1 (by assumption)|exact J_ Fc.cells_len (by decide) h.2.2.2.2.2.1 (by assumption)|exact J_ Fc.cells_len (by decide) h.2.2.2.2.2.2.1 (by assumption)|exact J_ Fc.cells_len (by decide) h.2.2.2.2.2.2.2.1 (by assumption)|exact J_ Stp.cells_len (by decide) h.1 (by assumption)|exact J_ Stp.cells_len (by decide) h.2.1 (by assumption)|exact J_ Stp.cells_len (by decide) h.2.2.1 (by assumption)|exact J_ Stp.cells_len (by decide) h.2.2.2.1 (by assumption)|exact J_ Stp.cells_len (by decide) h.2.2.2.2.1 (by assumption)|exact J_ Stp.cells_len (by decide) h.2.2.2.2.2.1 (by assumption)|exact J_ Stp.cells_len (by decide) h.2.2.2.2.2.2.1 (by assumption)|exact J_ Stp.cells_len (by decide) h.2.2.2.2.2.2.2.1 (by assumption)|exact J_ av_ (by decide) h.1 (by assumption)|exact J_ av_ (by decide) h.2.1 (by assumption)|exact J_ av_ (by decide) h.2.2.1 (by assumption)|exact J_ av_ (by decide) h.2.2.2.1 (by assumption)|exact J_ av_ (by decide) h.2.2.2.2.1 (by assumption)|exact J_ av_ (by decide) h.2.2.2.2.2.1 (by assumption)|exact J_ av_ (by decide) h.2.2.2.2.2.2.1 (by assumption)|exact J_ av_ (by decide) h.2.2.2.2.2.2.2.1 (by assumption)|exact J_ bY_ (by decide) h.1 (by assumption)|exact J_ bY_ (by decide) h.2.1 (by assumption)|exact J_ bY_ (by decide) h.2.2.1 (by assumption)|exact J_ bY_ (by decide) h.2.2.2.1 (by assumption)|exact J_ bY_ (by decide) h.2.2.2.2.1 (by assumption)|exact J_ bY_ (by decide) h.2.2.2.2.2.1 (by assumption)|exact J_ bY_ (by decide) h.2.2.2.2.2.2.1 (by assumption)|exact J_ bY_ (by decide) h.2.2.2.2.2.2.2.1 (by assumption));omega;(first|omega|(simp;done)))|((with_reducible apply bu_);rotate_left;exact rfl;(intro v _ h;first|exact h.1|exact h.2.1|exact h.2.2.1|exact h.2.2.2.1|exact h.2.2.2.2.1|exact h.2.2.2.2.2.1|exact h.2.2.2.2.2.2.1|exact h.2.2.2.2.2.2.2.1|exact h.2.2.2.2.2.2.2.2.1|exact h.2.2.2.2.2.2.2.2.2.1|exact h.2.2.2.2.2.2.2.2.2.2.1|exact h.2.2.2.2.2.2.2.2.2.2.2.1);(first|exact H_ Pc.cells_len (by assumption) 0 _ rfl|exact H_ Pc.cells_len (by assumption) _ _ rfl|exact H_ Fc.cells_len (by assumption) 0 _ rfl|exact H_ Fc.cells_len (by assumption) _ _ rfl|exact H_ Stp.cells_len (by assumption) 0 _ rfl|exact H_ Stp.cells_len (by assumption) _ _ rfl|exact H_ av_ (by assumption) 0 _ rfl|exact H_ av_ (by assumption) _ _ rfl|exact H_ bY_ (by assumption) 0 _ rfl|exact H_ bY_ (by assumption) _ _ rfl|exact H_ Stp.cells_len (by assumption) 2 _ rfl|exact H_ Stp.cells_len (by assumption) 3 _ rfl|exact H_ Stp.cells_len (by assumption) 4 _ rfl|exact H_ Stp.cells_len (by assumption) 5 _ rfl|exact H_ Stp.cells_len (by assumption) 6 _ rfl);exact zA rfl)|((with_reducible apply al_);rotate_left;exact zS rfl;exact rfl;(intro v _ h;first|exact h.1|exact h.2.1|exact h.2.2.1|exact h.2.2.2.1|exact h.2.2.2.2.1|exact h.2.2.2.2.2.1|exact h.2.2.2.2.2.2.1|exact h.2.2.2.2.2.2.2.1|exact h.2.2.2.2.2.2.2.2.1|exact h.2.2.2.2.2.2.2.2.2.1|exact h.2.2.2.2.2.2.2.2.2.2.1|exact h.2.2.2.2.2.2.2.2.2.2.2.1);rotate_left;(first|exact H_ Pc.cells_len (by assumption)|exact H_ Fc.cells_len (by assumption)|exact H_ Stp.cells_len (by assumption));exact zA rfl;(first|exact Pc.cells_len _|exact Fc.cells_len _|exact Stp.cells_len _))|((with_reducible apply (M_ 4));rotate_left;exact rfl;exact rfl;exact rfl;exact zA rfl)|((with_reducible apply (M_ 5));rotate_left;exact rfl;exact rfl;exact rfl;exact zA rfl)|((with_reducible apply (M_ 6));rotate_left;exact rfl;exact rfl;exact rfl;exact zA rfl)|((with_reducible apply (M_ 7));rotate_left;exact rfl;exact rfl;exact rfl;exact zA rfl)|((with_reducible apply (P_ 4));rotate_left;exact zS rfl;exact rfl;exact rfl;exact rfl;exact zA rfl)|((with_reducible apply (P_ 5));rotate_left;exact zS rfl;exact rfl;exact rfl;exact rfl;exact zA rfl)|((with_reducible apply (P_ 6));rotate_left;exact zS rfl;exact rfl;exact rfl;exact rfl;exact zA rfl)|((with_reducible apply (P_ 7));rotate_left;exact zS rfl;exact rfl;exact rfl;exact rfl;exact zA rfl)))))):Cn n B:=h ⟨k⟩
theorem Zi {p q A B C:Prop} (n:Nat) (k0:p→A) (k1:q→B) (h:Kw (p→A)→Kw (q→B)→Cn n C:=by intro k0_ k1_;refine Zy ?_;first|((with_reducible apply s_);(first|((with_reducible apply V_);exact rfl;exact rfl)|((with_reducible apply bR_);exact rfl;exact rfl)|((with_reducible apply dK_);exact rfl;exact rfl)|((with_reducible apply du_);exact rfl;exact rfl)|((with_reducible apply bU_);exact rfl;exact rfl)|((with_reducible apply gc_);exact rfl;exact rfl)|((with_reducible apply dv_);exact rfl;exact rfl)|((with_reducible apply dJ_);exact rfl;exact rfl)|((with_reducible apply jd_);exact rfl;exact rfl));exact rfl;intro r_ h_;cases r_;(first|exact k0_.go (zdf h_)|exact k0_.go (znb h_)|exact k0_.go (zbe h_));(first|exact k1_.go (zdt h_)|exact k1_.go (zeb h_)|exact k1_.go (zbn h_)))|((with_reducible apply ot_);exact rfl;(first|((with_reducible apply V_);exact rfl;exact rfl)|((with_reducible apply bR_);exact rfl;exact rfl)|((with_reducible apply dK_);exact rfl;exact rfl)|((with_reducible apply du_);exact rfl;exact rfl)|((with_reducible apply bU_);exact rfl;exact rfl)|((with_reducible apply gc_);exact rfl;exact rfl)|((with_reducible apply dv_);exact rfl;exact rfl)|((with_reducible apply dJ_);exact rfl;exact rfl)|((with_reducible apply jd_);exact rfl;exact rfl));exact rfl;intro r_ h_;cases r_;(first|exact k0_.go (zdf h_)|exact k0_.go (znb h_)|exact k0_.go (zbe h_));(first|exact k1_.go (zdt h_)|exact k1_.go (zeb h_)|exact k1_.go (zbn h_)))|((with_reducible apply sq_valYB);exact rfl;exact rfl;exact rfl;(first|((with_reducible apply V_);exact rfl;exact rfl)|((with_reducible apply bR_);exact rfl;exact rfl)|((with_reducible apply dK_);exact rfl;exact rfl)|((with_reducible apply du_);exact rfl;exact rfl)|((with_reducible apply bU_);exact rfl;exact rfl)|((with_reducible apply gc_);exact rfl;exact rfl)|((with_reducible apply dv_);exact rfl;exact rfl)|((with_reducible apply dJ_);exact rfl;exact rfl)|((with_reducible apply jd_);exact rfl;exact rfl));exact rfl;intro r_ h_;cases r_;(first|exact k0_.go (zdf h_)|exact k0_.go (znb h_)|exact k0_.go (zbe h_));(first|exact k1_.go (zdt h_)|exact k1_.go (zeb h_)|exact k1_.go (zbn h_)))):C:=(h ⟨k0⟩ ⟨k1⟩).go
theorem Zz {A B:Prop} (n:Nat) (k:A) (h:Kw A→Cn n B:=by intro k_;exact Zy k_.go):B:=(h ⟨k⟩).go
end Go.Proofs.YtamklbgaipakfaaGreatDoor

namespace Go.Proofs.YtamklbgaipakfaaGreatDoor
open Go Go.Sx Go.Proofs
attribute [local irreducible] Code.wp wpList wpAnyH
open Go.Vs
theorem jM_ (c:UInt8) :
    Fn0 Tryz.prog 274 #[.int .u8 (c.toNat:Int)] (.bool (cx_ c)):=by
  refine o_ Tryz.func274 rfl rfl Tryz.ntmps274 rfl fun v0=>?_
  refine Zi 8 (fun hr1=>?_) fun hr1=>?_
  · skip
    refine Zi 8 (fun hr2=>?_) fun hr2=>?_
    · skip
      refine Zz 11 ?_
      exact G_ ox_ () (l_ rfl (by subst_vars;rw[Bool.eq_iff_iff];simp[cx_]<;>omega)) (.refl _) zt
    · skip
      refine Zz 5 ?_
      refine s_ (du_ rfl rfl) rfl fun r3 hr3=>Zz 7 ?_
      exact G_ ox_ () (l_ rfl (by subst_vars;rw[Bool.eq_iff_iff];simp[cx_]<;>omega)) (.refl _) zt
  · skip
    refine Zi 4 (fun hr4=>?_) fun hr4=>?_
    · skip
      refine Zi 5 (fun hr5=>?_) fun hr5=>?_
      · skip
        refine Zz 11 ?_
        exact G_ ox_ () (l_ rfl (by subst_vars;rw[Bool.eq_iff_iff];simp[cx_]<;>omega)) (.refl _) zt
      · skip
        refine Zz 5 ?_
        refine s_ (du_ rfl rfl) rfl fun r6 hr6=>Zz 7 ?_
        exact G_ ox_ () (l_ rfl (by subst_vars;rw[Bool.eq_iff_iff];simp[cx_]<;>omega)) (.refl _) zt
    · skip
      refine Zz 13 ?_
      exact G_ ox_ () (l_ rfl (by subst_vars;rw[Bool.eq_iff_iff];simp[cx_]<;>omega)) (.refl _) zt
theorem mV_ (s:Str) (hs:s.length≤140737488351232) :
    Fn0 Tryz.prog 261 #[str s] (.bool (gv_ s)):=by
  refine o_ Tryz.func261 rfl rfl Tryz.ntmps261 rfl fun v0=>?_
  refine Zz 9 ?_
  refine sc_ K_ bP_ Tryz.runUnderlying5 rfl rfl fun cap b1 hcap=>Zz 5 ?_
  refine aN_ [(6,.slice (some ⟨b1,0,none⟩) s.length cap),(7,.int .i64 (s.length:Int)),(8,.int .i64 ((0:Nat):Int))] zl ?_
  refine aT_ (ι:={k:Nat // k≤s.length∧(s.take k).all cG_=true}) (fun i=>[(6,.slice (some ⟨b1,0,none⟩) s.length cap),(7,.int .i64 (s.length:Int)),(8,.int .i64 (i.1:Int))]) (fun _=>_) (fun _=>_) (fun i=>s.length - i.1) ⟨0,by simp⟩ ?_
  rintro ⟨k,hk⟩
  refine aN_ [(6,.slice (some ⟨b1,0,none⟩) s.length cap),(7,.int .i64 (s.length:Int)),(8,.int .i64 (k:Int))] zl ?_
  refine Zi 2 (fun hr1=>?_) fun hr1=>?_
  · skip
    refine Zz 12 ?_
    exact G_ Tryz.results261 () (l_ rfl (by rw[gv_,ge_ cG_ s k (by omega) hk.2])) (.refl _) zt
  · skip
    have hlt:k<s.length:=by omega
    obtain⟨c,hc⟩:∃ c,s[k]? = some c:=⟨_,List.getElem?_eq_getElem hlt⟩
    refine Zz 10 ?_
    refine c_ (in_ bP_ Tryz.sizeOf5 rfl rfl (by omega) (by omega)) rfl (c_ (M_ (u:=.int .u8 (c.toNat:Int)) 0 Tryz.isAgg5 rfl rfl (by rw[show 0+((k:Int)).toNat*1=k by omega];exact qO_ hc)) rfl ?_)
    refine Zz 6 ?_
    refine N_ (jM_ c) rfl (.refl _) zt rfl fun r2 hr2=>c_ (aE_ rfl) rfl (Zz 1 ?_)
    cases r2
    · skip
      refine Zi 3 (fun hr3=>?_) fun hr3=>?_
      · skip
        refine Zz 19 ?_
        exact R_ ⟨k+1,hlt,dY_ _ s k c hc hk.2 (by simp[cG_, *]<;>omega)⟩ (by simp;omega) zl (.refl _) zh
      · skip
        refine Zi 5 (fun hr4=>?_) fun hr4=>?_
        · skip
          refine Zi 5 (fun hr5=>?_) fun hr5=>?_
          · skip
            refine Zz 13 ?_
            exact R_ ⟨k+1,hlt,dY_ _ s k c hc hk.2 (by simp[cG_, *]<;>omega)⟩ (by simp;omega) zl (.refl _) zh
          · skip
            refine Zz 12 ?_
            exact G_ Tryz.results261 () (l_ rfl (by rw[gv_,fe_ cG_ s k c hc (by simp[cG_, *]<;>omega)])) (.refl _) zt
        · skip
          refine Zz 16 ?_
          exact G_ Tryz.results261 () (l_ rfl (by rw[gv_,fe_ cG_ s k c hc (by simp[cG_, *]<;>omega)])) (.refl _) zt
    · skip
      refine Zz 21 ?_
      exact R_ ⟨k+1,hlt,dY_ _ s k c hc hk.2 (by simp[cG_, *]<;>omega)⟩ (by simp;omega) zl (.refl _) zh
theorem pH_ (s:Str) :
    Fn0 Tryz.prog 275 #[str s] (.bool (aI_ s)):=by
  refine o_ Tryz.func275 rfl rfl Tryz.ntmps275 rfl fun v0=>?_
  refine Zi 15 (fun hr1=>?_) fun hr1=>?_
  · skip
    refine Zi 6 (fun hr2=>?_) fun hr2=>?_
    · skip
      refine Zi 6 (fun hr3=>?_) fun hr3=>?_
      · skip
        refine Zi 6 (fun hr4=>?_) fun hr4=>?_
        · skip
          refine Zi 6 (fun hr5=>?_) fun hr5=>?_
          · skip
            refine Zi 6 (fun hr6=>?_) fun hr6=>?_
            · skip
              refine Zi 6 (fun hr7=>?_) fun hr7=>?_
              · skip
                refine Zi 6 (fun hr8=>?_) fun hr8=>?_
                · skip
                  refine Zi 6 (fun hr9=>?_) fun hr9=>?_
                  · skip
                    refine Zi 6 (fun hr10=>?_) fun hr10=>?_
                    · skip
                      refine Zi 6 (fun hr11=>?_) fun hr11=>?_
                      · skip
                        refine Zi 6 (fun hr12=>?_) fun hr12=>?_
                        · skip
                          refine Zi 6 (fun hr13=>?_) fun hr13=>?_
                          · skip
                            refine Zi 6 (fun hr14=>?_) fun hr14=>?_
                            · skip
                              refine Zi 6 (fun hr15=>?_) fun hr15=>?_
                              · skip
                                refine Zi 6 (fun hr16=>?_) fun hr16=>?_
                                · skip
                                  refine Zi 6 (fun hr17=>?_) fun hr17=>?_
                                  · skip
                                    refine Zi 6 (fun hr18=>?_) fun hr18=>?_
                                    · skip
                                      refine Zi 6 (fun hr19=>?_) fun hr19=>?_
                                      · skip
                                        refine Zi 6 (fun hr20=>?_) fun hr20=>?_
                                        · skip
                                          refine Zi 6 (fun hr21=>?_) fun hr21=>?_
                                          · skip
                                            refine Zi 5 (fun hr22=>?_) fun hr22=>?_
                                            · skip
                                              refine Zz 12 ?_
                                              exact G_ aU_ () (l_ rfl (by simp[aI_,kws, *])) (.refl _) zt
                                            · skip
                                              refine Zz 10 ?_
                                              exact G_ aU_ () (l_ rfl (by simp[aI_,kws, *])) (.refl _) zt
                                          · skip
                                            refine Zz 13 ?_
                                            exact G_ aU_ () (l_ rfl (by simp[aI_,kws, *])) (.refl _) zt
                                        · skip
                                          refine Zz 13 ?_
                                          exact G_ aU_ () (l_ rfl (by simp[aI_,kws, *])) (.refl _) zt
                                      · skip
                                        refine Zz 13 ?_
                                        exact G_ aU_ () (l_ rfl (by simp[aI_,kws, *])) (.refl _) zt
                                    · skip
                                      refine Zz 13 ?_
                                      exact G_ aU_ () (l_ rfl (by simp[aI_,kws, *])) (.refl _) zt
                                  · skip
                                    refine Zz 13 ?_
                                    exact G_ aU_ () (l_ rfl (by simp[aI_,kws, *])) (.refl _) zt
                                · skip
                                  refine Zz 13 ?_
                                  exact G_ aU_ () (l_ rfl (by simp[aI_,kws, *])) (.refl _) zt
                              · skip
                                refine Zz 13 ?_
                                exact G_ aU_ () (l_ rfl (by simp[aI_,kws, *])) (.refl _) zt
                            · skip
                              refine Zz 13 ?_
                              exact G_ aU_ () (l_ rfl (by simp[aI_,kws, *])) (.refl _) zt
                          · skip
                            refine Zz 13 ?_
                            exact G_ aU_ () (l_ rfl (by simp[aI_,kws, *])) (.refl _) zt
                        · skip
                          refine Zz 13 ?_
                          exact G_ aU_ () (l_ rfl (by simp[aI_,kws, *])) (.refl _) zt
                      · skip
                        refine Zz 13 ?_
                        exact G_ aU_ () (l_ rfl (by simp[aI_,kws, *])) (.refl _) zt
                    · skip
                      refine Zz 13 ?_
                      exact G_ aU_ () (l_ rfl (by simp[aI_,kws, *])) (.refl _) zt
                  · skip
                    refine Zz 13 ?_
                    exact G_ aU_ () (l_ rfl (by simp[aI_,kws, *])) (.refl _) zt
                · skip
                  refine Zz 13 ?_
                  exact G_ aU_ () (l_ rfl (by simp[aI_,kws, *])) (.refl _) zt
              · skip
                refine Zz 13 ?_
                exact G_ aU_ () (l_ rfl (by simp[aI_,kws, *])) (.refl _) zt
            · skip
              refine Zz 13 ?_
              exact G_ aU_ () (l_ rfl (by simp[aI_,kws, *])) (.refl _) zt
          · skip
            refine Zz 13 ?_
            exact G_ aU_ () (l_ rfl (by simp[aI_,kws, *])) (.refl _) zt
        · skip
          refine Zz 13 ?_
          exact G_ aU_ () (l_ rfl (by simp[aI_,kws, *])) (.refl _) zt
      · skip
        refine Zz 13 ?_
        exact G_ aU_ () (l_ rfl (by simp[aI_,kws, *])) (.refl _) zt
    · skip
      refine Zz 13 ?_
      exact G_ aU_ () (l_ rfl (by simp[aI_,kws, *])) (.refl _) zt
  · skip
    refine Zz 13 ?_
    exact G_ aU_ () (l_ rfl (by simp[aI_,kws, *])) (.refl _) zt
end Go.Proofs.YtamklbgaipakfaaGreatDoor
namespace Go.Proofs.YtamklbgaipakfaaGreatDoor
open Go Go.Sx Go.Proofs
attribute [local irreducible] Code.wp wpList wpAnyH
open Go.Vs
theorem jL_ (s:Str) (hs:s.length≤140737488351232) :
    Fn0 Tryz.prog 252 #[str s] (.bool (eP_ s)):=by
  refine o_ Tryz.func252 rfl rfl Tryz.ntmps252 rfl fun v0=>?_
  refine Zi 8 (fun hr1=>?_) fun hr1=>?_
  · skip
    refine Zz 18 ?_
    exact G_ Tryz.results252 () (l_ rfl (by simp[eP_, *])) (.refl _) zt
  · skip
    obtain⟨c,t,rfl⟩:=List.exists_cons_of_ne_nil hr1
    refine Zz 4 ?_
    refine c_ (bA_ K_ rfl rfl (by decide) rfl) rfl (ag_ rfl rfl (N_ (jM_ _) rfl (.refl _) zt rfl fun r2 hr2=>Zz 2 ?_))
    cases r2
    · skip
      refine Zz 12 ?_
      exact G_ Tryz.results252 () (l_ rfl (by simp[eP_, *])) (.refl _) zt
    · skip
      refine Zz 3 ?_
      refine N_ (mV_ _ (by assumption)) rfl (.refl _) zt rfl fun r3 hr3=>Zz 2 ?_
      cases r3
      · skip
        refine Zz 8 ?_
        exact G_ Tryz.results252 () (l_ rfl (by simp[eP_, *])) (.refl _) zt
      · skip
        refine Zz 3 ?_
        refine N_ (pH_ _) rfl (.refl _) zt rfl fun r4 hr4=>ag_ rfl rfl (c_ (aE_ rfl) rfl (Zz 5 ?_))
        exact G_ Tryz.results252 () (l_ rfl (by simp[eP_, *])) (.refl _) zt
theorem gn_ (s:Str) (hs:s.length≤140737488351232) :
    Fn0 Tryz.prog 223 #[str s] (.bool (bG_ s)):=by
  refine o_ Tryz.func223 rfl rfl Tryz.ntmps223 rfl fun v0=>?_
  refine Zz 8 ?_
  refine c_ (ci_ K_ rfl) rfl ?_
  refine Zi 0 (fun hr1=>?_) fun hr1=>?_
  · skip
    refine Zz 18 ?_
    exact G_ Tryz.results223 () (l_ rfl (by subst_vars;rw[Bool.eq_iff_iff];simp[bG_]<;>simp at*<;> omega)) (.refl _) zt
  · skip
    refine Zz 4 ?_
    refine c_ (ci_ K_ rfl) rfl (ag_ rfl rfl ?_)
    refine Zi 0 (fun hr2=>?_) fun hr2=>?_
    · skip
      refine Zz 14 ?_
      exact G_ Tryz.results223 () (l_ rfl (by subst_vars;rw[Bool.eq_iff_iff];simp[bG_]<;>simp at*<;> omega)) (.refl _) zt
    · skip
      obtain⟨c,t,rfl⟩:=List.exists_cons_of_length_pos (l:=s) (by omega)
      refine Zz 5 ?_
      refine c_ (bA_ K_ rfl rfl (by decide) rfl) rfl (ag_ rfl rfl ?_)
      refine Zi 0 (fun hr3=>?_) fun hr3=>?_
      · skip
        refine Zz 9 ?_
        exact G_ Tryz.results223 () (l_ rfl (by subst_vars;rw[Bool.eq_iff_iff];simp[bG_]<;>simp at*<;> omega)) (.refl _) zt
      · skip
        refine Zz 5 ?_
        refine N_ (mV_ _ (by assumption)) rfl (.refl _) zt rfl fun r4 hr4=>Zz 5 ?_
        exact G_ Tryz.results223 () (l_ rfl (by subst_vars;rw[Bool.eq_iff_iff];simp[bG_]<;>simp at*<;> omega)) (.refl _) zt
theorem iJ_ (s:Str) (c:UInt8):Fn0 Tryz.prog 307 #[str s,str [c]] (.int .i64 (Lib.indexByte s c)) :=
  lF_ (callable Tryz.func307 rfl rfl) fun w=>(Tryz.stringslite_Index_one ⟨s.toArray⟩ c w).mono (by rintro e w' ⟨rfl,rfl⟩;exact⟨rfl,rfl,rfl,rfl,rfl,Nat.le_refl _⟩)
theorem lD_ (s:Str) (c:UInt8) (hk:ixS c s=none):Fn0 Tryz.prog 307 #[str s,str [c]] (.int .i64 (-1)):=by
  have h:=iJ_ s c
  rw[lx_,hk]at h
  exact h
theorem lC_ (s:Str) (c:UInt8) (k:Nat) (hk:ixS c s=some k):Fn0 Tryz.prog 307 #[str s,str [c]] (.int .i64 (k:Int)):=by
  have h:=iJ_ s c
  rw[lx_,hk]at h
  exact h
theorem pP_ (s:Str) (c:UInt8) (hk:ixS c s=none) :
    Fn0 Tryz.prog 273 #[str s,str [c]] (.tuple #[str s,str [],.bool false]):=by
  refine o_ Tryz.func273 rfl rfl Tryz.ntmps273 rfl fun v0=>?_
  refine Zz 12 ?_
  refine i_ (lD_ s c hk) rfl (.refl _) zt rfl fun _=>Zi 6 (fun hr1=>?_) fun hr1=>?_
  · skip
    refine Zz 14 ?_
    exact ir_ Tryz.results273 () rfl rfl rfl rfl (.refl _) zt
  · skip
    exact absurd hr1 (by decide)
theorem pO_ (s:Str) (c:UInt8) (k:Nat) (hk:ixS c s=some k) (hl:k<s.length) (hs:s.length≤140737488351232) :
    Fn0 Tryz.prog 273 #[str s,str [c]] (.tuple #[str (s.take k),str (s.drop (k+1)),.bool true]):=by
  refine o_ Tryz.func273 rfl rfl Tryz.ntmps273 rfl fun v0=>?_
  refine Zz 12 ?_
  refine i_ (lC_ s c k hk) rfl (.refl _) zt rfl fun _=>Zi 6 (fun hr1=>?_) fun hr1=>?_
  · skip
    exact absurd (by omega) hr1
  · skip
    refine Zz 5 ?_
    refine U_ 0 [0,1,2,3,4,5,6,7,8,9,10,11] zk zs (Zz 2 ?_)
    refine y_ rfl (eB_ (i:=0) (j:=k) (kl:=.i64) K_ rfl rfl rfl (by omega) (by omega)) rfl (Zz 3 ?_)
    refine y_ rfl (ci_ K_ rfl) rfl ?_
    refine y_ rfl (aA_ rfl rfl rfl (be_ (by simp only[List.length_cons,List.length_nil];omega) (by simp only[List.length_cons,List.length_nil];omega))) rfl ?_
    refine y_ rfl (eB_ (i:=k+1) (j:=s.length) (kh:=.i64) K_ rfl rfl rfl (by omega) (by omega)) rfl (Zz 7 ?_)
    exact ir_ Tryz.results273 () rfl rfl rfl (by simp[List.take_of_length_le]) (.refl _) zt
theorem rn_ (s:Str) (c:UInt8) (hk:ixS c s=none) :
    Fn0 Tryz.prog 251 #[str s,str [c]] (.tuple #[str s,str [],.bool false]):=by
  refine o_ Tryz.func251 rfl rfl Tryz.ntmps251 rfl fun v0=>?_
  refine Zz 11 ?_
  refine i_ (pP_ s c hk) rfl (.refl _) zt rfl fun _=>Zz 9 ?_
  exact ir_ Tryz.results251 () rfl rfl rfl rfl (.refl _) zt
theorem lz_ (s:Str) (hk:ixS 58 s=none) :
    Fn0 Tryz.prog 203 #[str s] (.bool (bn_ s)):=by
  refine o_ Tryz.func203 rfl rfl Tryz.ntmps203 rfl fun v0=>?_
  refine Zz 9 ?_
  refine c_ (ci_ K_ rfl) rfl ?_
  refine Zi 0 (fun hr1=>?_) fun hr1=>?_
  · skip
    refine Zz 8 ?_
    refine i_ (rn_ s 58 hk) rfl (.refl _) zt rfl fun _=>Zz 12 ?_
    refine N_ (jL_ _ (by first|omega|(simp;omega))) rfl (.refl _) zt rfl fun r2 hr2=>?_
    refine Zz 1 ?_
    cases r2
    · skip
      refine Zz 11 ?_
      exact G_ is_ () (l_ rfl (by simp[bn_, *]<;>omega)) (.refl _) zt
    · skip
      refine Zz 3 ?_
      refine c_ (aE_ rfl) rfl (Zz 11 ?_)
      exact G_ is_ () (l_ rfl (by simp[bn_, *]<;>omega)) (.refl _) zt
  · skip
    refine Zz 9 ?_
    exact G_ is_ () (l_ rfl (by simp[bn_, *]<;>omega)) (.refl _) zt
theorem rm_ (s:Str) (c:UInt8) (k:Nat) (hk:ixS c s=some k) (hl:k<s.length) (hs:s.length≤140737488351232) :
    Fn0 Tryz.prog 251 #[str s,str [c]] (.tuple #[str (s.take k),str (s.drop (k+1)),.bool true]):=by
  refine o_ Tryz.func251 rfl rfl Tryz.ntmps251 rfl fun v0=>?_
  refine Zz 11 ?_
  refine i_ (pO_ s c k hk hl hs) rfl (.refl _) zt rfl fun _=>Zz 9 ?_
  exact ir_ Tryz.results251 () rfl rfl rfl rfl (.refl _) zt
theorem ly_ (s:Str) (k:Nat) (hk:ixS 58 s=some k) (hl:k<s.length) :
    Fn0 Tryz.prog 203 #[str s] (.bool (bn_ s)):=by
  refine o_ Tryz.func203 rfl rfl Tryz.ntmps203 rfl fun v0=>?_
  refine Zz 9 ?_
  refine c_ (ci_ K_ rfl) rfl ?_
  refine Zi 0 (fun hr1=>?_) fun hr1=>?_
  · skip
    refine Zz 8 ?_
    refine i_ (rm_ s 58 k hk hl (by omega)) rfl (.refl _) zt rfl fun _=>Zz 12 ?_
    refine N_ (jL_ _ (by first|omega|(simp;omega))) rfl (.refl _) zt rfl fun r2 hr2=>?_
    refine Zz 1 ?_
    cases r2
    · skip
      refine Zz 11 ?_
      exact G_ is_ () (l_ rfl (by simp[bn_, *]<;>omega)) (.refl _) zt
    · skip
      refine Zz 3 ?_
      refine c_ (aE_ rfl) rfl (Zz 5 ?_)
      refine N_ (jL_ _ (by first|omega|(simp;omega))) rfl (.refl _) zt rfl fun r3 hr3=>?_
      refine Zz 7 ?_
      exact G_ is_ () (l_ rfl (by simp[bn_, *]<;>omega)) (.refl _) zt
  · skip
    refine Zz 9 ?_
    exact G_ is_ () (l_ rfl (by simp[bn_, *]<;>omega)) (.refl _) zt
theorem fS_ (s:Str):Fn0 Tryz.prog 203 #[str s] (.bool (bn_ s)):=by
  cases hk:ixS 58 s with
  | none=>exact lz_ s hk
  | some k=>exact ly_ s k hk (qY_ hk)
theorem cI_ (s:Str) (hs:s.length≤140737488351232) :
    Fn0 Tryz.prog 157 #[str s] (.int .i64 (if aK_ s then 0 else 20)):=by
  refine o_ Tryz.func157 rfl rfl Tryz.ntmps157 rfl fun v0=>?_
  refine Zz 9 ?_
  refine N_ (fS_ _) rfl (.refl _) zt rfl fun r1 hr1=>Zz 1 ?_
  cases r1
  · skip
    refine Zz 3 ?_
    refine N_ (gn_ _ hs) rfl (.refl _) zt rfl fun r2 hr2=>Zz 3 ?_
    cases r2
    · skip
      refine Zz 9 ?_
      exact G_ Tryz.results157 () (Y_ rfl (by simp[aK_, *])) (.refl _) zt
    · skip
      refine Zz 7 ?_
      exact G_ Tryz.results157 () (Y_ rfl (by simp[aK_, *])) (.refl _) zt
  · skip
    refine Zz 12 ?_
    exact G_ Tryz.results157 () (Y_ rfl (by simp[aK_, *])) (.refl _) zt
end Go.Proofs.YtamklbgaipakfaaGreatDoor
namespace Go.Proofs.YtamklbgaipakfaaGreatDoor
open Go Go.Sx Go.Proofs
attribute [local irreducible] Code.wp wpList wpAnyH
open Go.Vs
theorem fits_c:∀ (m:Nat) (c:Con),c.sz≤m→c.ok→∀ (d n bs:Nat),d≤9→n≤64→∀ r,c.fits d n=r →
    Tri Tryz.prog 204 #[c.val,.int .i64 (d:Int),zp_ bs 0] [(bs,.cells #[.int .i64 (n:Int)] 3 (0,0))] [c.memF] (fun _:Unit=>.bool r.1) (fun _=>[(bs,.cells #[.int .i64 (r.2:Int)] 3 (0,0))]) (fun _=>[]):=by
  intro m
  induction m with
  | zero=>intro c h;have:=c.sz_pos;omega
  | succ m ih =>
    intro c hm hok d n bs hd hn r hr
    obtain⟨k,nm,lo,hi,ad,cap,ps⟩:=c
    have hlen:=Con.ok_len hok
    simp only[Con.parts,Con.cap]at hlen
    refine o_ Tryz.func204 rfl rfl Tryz.ntmps204 rfl fun v0=>?_
    refine m_ ?_
    refine d_ ?_
    refine ah_ rfl rfl fun b1=>?_
    refine c_ (n_ rfl) rfl ?_
    refine j_ ?_
    refine e_ rfl ?_
    refine m_ ?_
    refine d_ ?_
    refine c_ (q_ rfl) rfl ?_
    refine c_ (cJ_ rfl) rfl ?_
    refine c_ (M_ 1 ay_ rfl rfl rfl) rfl ?_
    refine c_ (aA_ rfl rfl rfl (be_ (by omega) (by omega))) rfl ?_
    refine c_ (cJ_ rfl) rfl ?_
    refine aa_ 1 ab_ rfl rfl rfl rfl rfl rfl ?_
    refine j_ ?_
    refine e_ rfl ?_
    refine m_ ?_
    refine m_ ?_
    refine d_ ?_
    refine c_ (q_ rfl) rfl ?_
    refine s_ (dv_ rfl rfl) rfl fun r1 hr1=>?_
    refine c_ (q_ rfl) rfl ?_
    cases r1
    · skip
      replace hr1:=zdf hr1
      try dsimp only[Con.kind,Con.parts,Con.name,Con.lo,Con.hi,Con.cap,Con.ad]at hr1
      refine ag_ rfl rfl ?_
      refine c_ (q_ rfl) rfl ?_
      refine ag_ rfl rfl ?_
      refine c_ (cJ_ rfl) rfl ?_
      refine ag_ rfl rfl ?_
      refine c_ (M_ 1 ay_ rfl rfl rfl) rfl ?_
      refine ag_ rfl rfl ?_
      refine s_ (dv_ rfl rfl) rfl fun r2 hr2=>?_
      refine c_ (bS_ rfl rfl) rfl ?_
      refine j_ ?_
      refine e_ rfl ?_
      cases r2
      · skip
        replace hr2:=zdf hr2
        try dsimp only[Con.kind,Con.parts,Con.name,Con.lo,Con.hi,Con.cap,Con.ad]at hr2
        have hc0:¬ (8<d∨64<n+1):=by omega
        refine F_ rfl ?_
        refine ai_ ?_
        refine e_ rfl ?_
        refine m_ ?_
        refine m_ ?_
        refine d_ ?_
        refine c_ (A_ z_ rfl rfl rfl ba_) rfl ?_
        refine c_ (M_ 0 bk_ rfl rfl rfl) rfl ?_
        refine c_ (bM_ B_ rfl) rfl ?_
        refine c_ (q_ rfl) rfl ?_
        refine j_ ?_
        refine e_ rfl ?_
        refine aB_ ?_
        refine aN_ [(1,.int .i64 (d:Int)),(2,zp_ bs 0),(23,.slice ad ps.length cap),(24,.int .i64 (ps.length:Int)),(25,.int .i64 ((0:Nat):Int))] zl ?_
        refine aT_ (ι:={q:Nat×Nat // q.1≤ps.length∧Con.fits.fitss (ps.take q.1) (d+1) (n+1)=(true,q.2)∧q.2≤64}) (fun i=>[(1,.int .i64 (d:Int)),(2,zp_ bs 0),(23,.slice ad ps.length cap),(24,.int .i64 (ps.length:Int)),(25,.int .i64 (i.1.1:Int))]) (fun i=>[_,(bs,.cells #[.int .i64 (i.1.2:Int)] 3 (0,0))]) (fun _=>_) (fun i=>ps.length - i.1.1) ⟨(0,n+1),by simp[Con.fits.fitss];omega⟩ ?_
        rintro ⟨⟨i,m1⟩,hk⟩
        refine aN_ [(1,.int .i64 (d:Int)),(2,zp_ bs 0),(23,.slice ad ps.length cap),(24,.int .i64 (ps.length:Int)),(25,.int .i64 (i:Int))] zl ?_
        refine m_ ?_
        refine d_ ?_
        refine s_ (bR_ rfl rfl) rfl fun r3 hr3=>?_
        refine j_ ?_
        refine e_ rfl ?_
        refine m_ ?_
        cases r3
        · skip
          replace hr3:=zdf hr3
          try dsimp only[Con.kind,Con.parts,Con.name,Con.lo,Con.hi,Con.cap,Con.ad]at hr3
          refine F_ rfl ?_
          refine cp_ rfl ?_
          refine e_ rfl ?_
          refine m_ ?_
          refine d_ ?_
          refine c_ (n_ rfl) rfl ?_
          refine j_ ?_
          refine e_ rfl ?_
          refine ar_ ?_
          obtain rfl:r=(true,m1):=by rw[← hr];exact Con.fits_yes hc0 (by omega) hk.2.1
          exact G_ Tryz.results204 () rfl (eK_ (i:=1) rfl) zt
        · skip
          replace hr3:=zdt hr3
          try dsimp only[Con.kind,Con.parts,Con.name,Con.lo,Con.hi,Con.cap,Con.ad]at hr3
          have hlt:i<ps.length:=by omega
          obtain⟨p,hp⟩:∃ p,ps[i]? = some p:=⟨_,List.getElem?_eq_getElem hlt⟩
          have hpm:p∈ps:=List.mem_of_getElem? hp
          refine E_ rfl ?_
          refine ai_ ?_
          refine e_ rfl ?_
          refine m_ ?_
          refine aB_ ?_
          refine m_ ?_
          refine d_ ?_
          refine c_ (T_ B_ g_ rfl rfl (fun v _ h=>Con.row_addr (c:=.mk k nm lo hi ad cap ps) h.1 hp) (by omega) (by omega)) rfl ?_
          refine c_ (al_ (us:=p.cells) w_ g_ rfl (fun v _ h=>((Con.mem_iff (.mk k nm lo hi ad cap ps) v).1 h.1).1) p.cells_len (Con.part_cells (c:=.mk k nm lo hi ad cap ps) (i:=i) hp)) rfl ?_
          refine au_ bL_ rfl fun b2=>?_
          refine eG_ 0 g_ rfl rfl rfl rfl ?_
          refine j_ ?_
          refine e_ rfl ?_
          refine m_ ?_
          refine d_ ?_
          refine c_ (cK_ 0 w_ g_ rfl rfl) rfl ?_
          refine c_ (q_ rfl) rfl ?_
          refine c_ (aA_ rfl rfl rfl (be_ (by omega) (by omega))) rfl ?_
          refine c_ (q_ rfl) rfl ?_
          refine jF_ 2 (ih p (by have:=Con.sz_part (c:=.mk k nm lo hi ad cap ps) hpm;omega) (Con.ok_part (c:=.mk k nm lo hi ad cap ps) hok hpm) (d+1) m1 bs (by omega) hk.2.2 _ rfl) rfl rfl (fun v _ h=>⟨Con.mem_part (c:=.mk k nm lo hi ad cap ps) h.1 hpm,trivial⟩) rfl fun r4 hr4=>?_
          refine c_ (aE_ rfl) rfl ?_
          refine j_ ?_
          refine e_ rfl ?_
          cases r4
          · skip
            try dsimp only[Con.kind,Con.parts,Con.name,Con.lo,Con.hi,Con.cap,Con.ad]at hr4
            refine E_ rfl ?_
            refine m_ ?_
            refine d_ ?_
            refine c_ (n_ rfl) rfl ?_
            refine j_ ?_
            refine e_ rfl ?_
            refine ar_ ?_
            obtain rfl:r=(false,(p.fits (d+1) m1).2):=by rw[← hr];exact Con.fits_no hc0 hp hk.2.1 (by assumption)
            exact G_ Tryz.results204 () rfl (eK_ (i:=2) rfl) zt
          · skip
            try dsimp only[Con.kind,Con.parts,Con.name,Con.lo,Con.hi,Con.cap,Con.ad]at hr4
            refine F_ rfl ?_
            refine ai_ ?_
            refine e_ rfl ?_
            refine d_ ?_
            refine c_ (aA_ rfl rfl rfl (be_ (by omega) (by omega))) rfl ?_
            refine c_ (q_ rfl) rfl ?_
            refine j_ ?_
            refine L_ rfl ?_
            exact R_ ⟨(i+1,(p.fits (d+1) m1).2),hlt,Con.fitss_step hp hk.2.1 (by assumption)⟩ (by simp;omega) zl (@List.perm_append_comm _ [_] _) zh
      · skip
        replace hr2:=zdt hr2
        try dsimp only[Con.kind,Con.parts,Con.name,Con.lo,Con.hi,Con.cap,Con.ad]at hr2
        refine E_ rfl ?_
        refine m_ ?_
        refine d_ ?_
        refine c_ (n_ rfl) rfl ?_
        refine j_ ?_
        refine e_ rfl ?_
        refine ar_ ?_
        obtain rfl:r=(false,n+1):=by rw[← hr,Con.fits_eq];simp<;>omega
        exact G_ Tryz.results204 () rfl (eK_ (i:=1) rfl) zt
    · skip
      replace hr1:=zdt hr1
      try dsimp only[Con.kind,Con.parts,Con.name,Con.lo,Con.hi,Con.cap,Con.ad]at hr1
      refine bc_ rfl rfl rfl rfl ?_
      refine bc_ rfl rfl rfl rfl ?_
      refine bc_ rfl rfl rfl rfl ?_
      refine bc_ rfl rfl rfl rfl ?_
      refine c_ (bx_ rfl rfl) rfl ?_
      refine j_ ?_
      refine e_ rfl ?_
      refine E_ rfl ?_
      refine m_ ?_
      refine d_ ?_
      refine c_ (n_ rfl) rfl ?_
      refine j_ ?_
      refine e_ rfl ?_
      refine ar_ ?_
      obtain rfl:r=(false,n+1):=by rw[← hr,Con.fits_eq];simp<;>omega
      exact G_ Tryz.results204 () rfl (eK_ (i:=1) rfl) zt
end Go.Proofs.YtamklbgaipakfaaGreatDoor
namespace Go.Proofs.YtamklbgaipakfaaGreatDoor
open Go Go.Sx Go.Proofs
attribute [local irreducible] Code.wp wpList wpAnyH
open Go.Vs
def oG_ (v:Vw):Prop:=v.sl∧v.im 6∧∃ T fz,v.w.heap[6]? = some (.cells (Lib.pow10Tab.map fun z=>Value.int .u64 z).toArray T fz)
theorem nF_ {v v':Vw} (h:v.le v') (hp:oG_ v):oG_ v':=by
  obtain⟨h0,h1,T,fz,h2⟩:=hp
  exact⟨by rw[h.sl];exact h0,h.imUp _ h1,T,fz,by rw[h.block _ h1];exact h2⟩
theorem pq_ {v : Vw} (hp : oG_ v) : Lib.TabIs Tryz.prog v.w "internal/strconv.uint64pow10" .u64 Lib.pow10Tab := by
  obtain⟨_,h1,T,fz,h2⟩:=hp
  have hg : Tryz.prog.globalNamed "internal/strconv.uint64pow10" = some 6 := by kernel_rfl
  simp only[Lib.TabIs,World.var?,hg,Option.bind_some,h2]
def ck_:Fct where
  p:=fun v=>bN_ v (some ⟨3,0,none⟩) (cW_.flatMap oK_)∧bN_ v (some ⟨0,0,none⟩) (iP_.flatMap Use.cells)∧True∧oG_ v
  mono:=fun v v' h hp=>⟨(aw_ _ _).mono v v' h hp.1,(aw_ _ _).mono v v' h hp.2.1,trivial,nF_ h hp.2.2.2⟩
end Go.Proofs.YtamklbgaipakfaaGreatDoor
