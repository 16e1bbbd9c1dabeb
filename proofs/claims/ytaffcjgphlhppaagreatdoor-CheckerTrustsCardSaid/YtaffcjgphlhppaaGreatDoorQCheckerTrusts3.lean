/-
  Part of the proof of the law CheckerTrusts over this seat: the small logic, the data, the contracts of functions (no condition).
-/
import Derived.Test.YtaffcjgphlhppaaGreatDoorQCheckerTrusts2
import Derived.Laws.OwnMore
import Derived.Shelf.Strings.Builder1
import Derived.Shelf.Strings.Builder2
import Derived.Shelf.Strings.OnBuilder
import Derived.Shelf.Small.Bits
import Derived.Shelf.Small.Strs
import Derived.Shelf.Small.Wraps
import Derived.Shelf.Strconv.Itoa0
import Derived.Shelf.Strconv.Itoa1
import Derived.Shelf.LaysM
import Derived.Shelf.Strconv.Itoa2
import Derived.Shelf.Strconv.Itoa3
import Derived.Shelf.Strings.Search1
import Derived.Shelf.Strings.Search2
import Derived.Shelf.Strings.Search3
import Derived.Shelf.Strings.Cut
import Derived.Shelf.Strings.Count
import Derived.Shelf.Strings.Shaped
import Derived.Shelf.Sort.Plain
import Derived.Shelf.Unicode.DecodeSlow
import Derived.Shelf.Slices.CompactS
import Derived.Shelf.Slices.Cells
import Derived.Shelf.Slices.In.SortNone
import Derived.Test.YtaffcjgphlhppaaGreatDoorProg
import Derived.Test.YtaffcjgphlhppaaGreatDoorQCheckerTrusts1
set_option linter.unusedVariables false
set_option linter.unusedSimpArgs false
set_option linter.unusedSectionVars false
set_option maxHeartbeats 1000000
namespace Go.Sx
open Go
section
variable {P:Program} {N:Nf} {v0:Vw} {H0:Hp} {R:Exit→Act→World→Prop} {K:List Kt} {fr:Fr} {H:Hp} {Γ:List Fct}
variable {ops:Array Oper} {l:List Oper} {d:Nat} {ty:TypeId} {ps:String} {af:Array Edge}
theorem eo_ {x y:Operand} {t e:TypeId} {sz by' n m c:Nat} {sv:Value} {xs news:List Value} {Hr F:Hp} {ad:Option Addr} (he:Elt P t e sz by') (hrow:bk_ e sz sv n xs Hr)
    (hx:Fr.ev fr x=some sv) (hy:Fr.ev fr y=some (.slice ad m c)) (hz:ad=none→c=0) (hmc:m≤c) (hH:H.Perm (Hr++F)) (hl:news.length=m*sz) (hnews:∀ v,v.sat H→aB_ Γ v→bH_ v ad news) (h1c:∀ u∈news,u.oneCell'=true)
    (h63:n+m≤maxLen) (hb:(n+m)*by'≤140737488355328) (hN:Nat.blt d N.n=true)
    (hk:∀ sv' Hr',bk_ e sz sv' (n+m) (xs++news) Hr'→Ops P R N v0 H0 ops l K ((d,sv')::fr) (Hr'++F) Γ) :
    Ops P R N v0 H0 ops (⟨some d,.call ⟨.builtin .append,#[x,y],#[t,t]⟩,ty,ps,af,none⟩::l) K fr H Γ:=by
  cases ad with
  | none =>
    obtain rfl:=hz rfl;obtain rfl:m=0:=by omega
    obtain rfl:news=[]:=List.eq_nil_of_length_eq_zero (by simpa using hl);refine df_ rfl fun a v h1 h2 h3 h4=>?_;obtain⟨i,z,hi,hz,es,eb,ez⟩:=he.info;have g:=h2.perm hH;have ho:=hrow.owns g;have hr:=run_append_owned_none (P:=P) (w:=v.w) 0 t ty e i sz he.und hi sv n xs ho;unfold Oper.wp execOp;simp only[resolve,invoke,builtin,Sem.run_bind,Sem.run_pure,Result.andThen_ok,List.map_toArray,List.map_cons,List.map_nil,h1.ev hx,h1.ev hy,hr];have T:v.to H v (Hr++F):=(Vw.to.refl v (Hr++F)).permL hH.symm;exact hk sv Hr (by simpa using hrow) _ v (h1.put hN) g (h3.trans T) h4
  | some a0 =>
    refine aJ_ he hrow hx hy hH hl (fun v h2 h4 j u hj=>?_) h1c h63 hb hN hk;rcases hnews v h2 h4 with h|⟨b,off,arr,T,fz,h1,_,h3,h5⟩
    · rw[h]at hj;simp at hj
    · rw[Option.some.injEq]at h1
      subst h1;have:=h5 j u hj;rw[dS_];simp[World.cell?,h3,this]
theorem nz_ {t e:TypeId} {sz:Nat} (hu:∀ w,(underlying t).run P w=.ok (.slice e) w) (hs:∀ w,(sizeOf e).run P w=.ok sz w) (hN:Nat.blt d N.n=true)
    (hk:∀ b,Ops P R N v0 H0 ops l K ((d,.slice (some ⟨b,0,none⟩) 0 0)::fr) ((b,.cells #[] e (0,0))::H) Γ):Ops P R N v0 H0 ops (⟨some d,.buildSlice t 0 #[],ty,ps,af,none⟩::l) K fr H Γ :=
  hY_ (x:=fun b=>.slice (some ⟨b,0,none⟩) 0 0) hN (fun a v h1 h2 h4=>by
    simp only[execOp,Instr.buildSlice,Sem.run_bind,hu,Result.andThen_ok,hs,List.map_toArray];rw[if_neg (by omega),if_pos (by omega),Nat.zero_mul,show Array.range 0=#[] by simp];simp only[Sem.run_bind,Sem.run_pure,Result.andThen_ok,List.map_nil,List.map_toArray,List.toList_toArray,Instr.fill];rfl) hk
theorem dv_ {k:Act→World→Prop} {e:TypeId} {sz n:Nat} {sv:Value} {xs:List Value} {Hr F:Hp} (hr:bk_ e sz sv n xs Hr) (hH:H.Perm (Hr++F))
    (h:∀ ad cap,sv=.slice ad n cap→n≤cap→cap≤maxLen→(ad=none→cap=0)→Ok N v0 H0 k fr F (aC_ ad xs::Γ)):Ok N v0 H0 k fr H Γ:=by
  refine dE_ hr hH fun ad cap e1 e2 e3=>h ad cap e1 e2 e3 fun e4=>?_;rcases hr.2 with⟨h1,_,_⟩|⟨g,c,cur,h1,_⟩
  · rw[h1]at e1
    simp only[Value.slice.injEq]at e1;exact e1.2.2.symm
  · rw[h1,e4]at e1
    simp at e1
theorem jY_ {cap i n:Nat} {ad:Option Addr} (h:sad ad cap i n=none):ad=none:=by
 unfold sad at h
 split at h
 ·exact h
 simpa using h
end
end Go.Sx
namespace Go.Sx
open Go
section
variable {P:Program} {N:Nf} {fr:Fr} {H:Hp} {Γ:List Fct} {ty:TypeId} {e:TypeId} {sz n:Nat} {sv:Value} {xs:List Value} {Hr F:Hp}
theorem ke_ {O:Hp}:List.Perm (O++[]) O:=by rw[List.append_nil]
theorem cL_ {O Q:Hp}:List.Perm (Q++O) (O++Q):=List.perm_append_comm
theorem ad_ {O:Hp} {b:Nat×Obj}:List.Perm (b::O) (O++[b]):=List.perm_append_comm (l₁:=[b])
theorem nx_ {H:Hp}:List.Perm ([]++H) H:=.refl _
def svB:Value→Nat
  | .slice (some a) _ _=>a.block
  | _=>0
theorem qw_ {x:Operand} {t e':TypeId} (hrow:bk_ e sz sv n xs Hr) (hu:∀ w,(underlying t).run P w=.ok (.slice e') w) (hx:Fr.ev fr x=some sv):Yld P N fr H Γ (.call ⟨.builtin .len,#[x],#[t]⟩) ty (.int .i64 (n:Int)):=by
 rcases hrow.2 with⟨rfl,rfl,_⟩|⟨g,cap,cur,rfl,_⟩
 ·exact cg_ hu hx
 exact cg_ hu hx
theorem rQ_ {x y:Operand} {t e':TypeId} {k:IntKind} {i:Int} (hrow:bk_ e sz sv n xs Hr) (hu:∀ w,(underlying t).run P w=.ok (.slice e') w) (hs:∀ w,(sizeOf e').run P w=.ok sz w) (hx:Fr.ev fr x=some sv) (hy:Fr.ev fr y=some (.int k i)) (h0:0≤i) (hl:i<n) :
    Yld P N fr H Γ (.indexAddr t x y) ty (.pointer (some ⟨svB sv,i.toNat*sz,none⟩)):=by
  rcases hrow.2 with⟨_,h2,_⟩|⟨g,cap,cur,rfl,_⟩
  · omega
  · have:=hq_ (P:=P) (N:=N) (H:=H) (Γ:=Γ) (ty:=ty) hu hs hx hy h0 hl
    rw[Nat.zero_add]at this;exact this
theorem rP_ {x:Operand} {t:TypeId} {k m:Nat} {us:List Value} (hrow:bk_ e sz sv n xs Hr) (hH:H.Perm (Hr++F)) (ha:∀ w,(isAgg t).run P w=.ok true w) (hs:∀ w,(sizeOf t).run P w=.ok m w) (hx:Fr.ev fr x=some (.pointer (some ⟨svB sv,k,none⟩)))
    (hn:us.length=m) (hp:0<m) (hu:∀ j y,us[j]? = some y→xs[k+j]? = some y):Yld P N fr H Γ (.load t x) ty (.agg us.toArray):=by
  rcases hrow.2 with⟨_,h2,_⟩|⟨g,cap,cur,rfl,rfl,h3,h4,h5,h6⟩
  · subst h2
    have h1:=hrow.1;have:xs=[]:=List.eq_nil_of_length_eq_zero (by simpa using h1);subst this;have:=hu 0 us[0] (List.getElem?_eq_getElem (by omega));simp at this
  · refine hp_ hx fun v h2 _=>cK_ ha hs hn fun j y hj=>?_
    have hb:=((h2.perm hH).own _ (List.mem_append_left _ List.mem_cons_self)).1;have hc:=hu j y hj;rw[← h6,List.getElem?_take]at hc
    split at hc
    · have hc':cur[k+j]? = some y:=by simpa using hc
      simp only[svB,World.cell?,hb,Option.isSome_none,Bool.false_eq_true,if_false];exact hc'
    · cases hc
end
end Go.Sx
namespace Go.Sx
open Go
section
variable {P:Program} {N:Nf} {fr:Fr} {H:Hp} {Γ:List Fct} {ty:TypeId} {e:TypeId} {sz n:Nat} {sv:Value} {xs:List Value} {Hr F:Hp}
theorem ht_ (h:bk_ e sz sv n xs Hr):sv.cells=#[sv]∧sv.oneCell'=true:=by
  rcases h.2 with⟨rfl,_⟩|⟨g,cap,cur,rfl,_⟩<;>exact⟨rfl,rfl⟩
theorem bI_ {v0:Vw} {H0:Hp} {R:Exit→Act→World→Prop} {K:List Kt} {ops:Array Oper} {l:List Oper} {ps:String} {af:Array Edge} {t:TypeId} {x y:Operand} {b off:Nat} (i:Nat) {cur:Array Value} {T:TypeId} (hrow:bk_ e sz sv n xs Hr) (hs:∀ w,(sizeOf t).run P w=.ok 1 w)
    (hx:Fr.ev fr x=some (.pointer (some ⟨b,off,none⟩))) (hy:Fr.ev fr y=some sv) (hi:H[i]? = some (b,.cells cur T (0,0))) (hf:Nat.ble (off+1) cur.size=true)
    (hk:Ops P R N v0 H0 ops l K fr (H.set i (b,.cells (cur.toList.take off++[sv]++cur.toList.drop (off+1)).toArray T (0,0))) Γ):Ops P R N v0 H0 ops (⟨none,.store t x y,ty,ps,af,none⟩::l) K fr H Γ :=
  z_ i hs hx hy hi (by rw[(ht_ hrow).1];rfl) hf (by rw[(ht_ hrow).1];simp[(ht_ hrow).2]) (by rw[(ht_ hrow).1];exact hk)
theorem lG_ {x y:Operand} {t t':TypeId} {m k:Int} (hx:Fr.ev fr x=some (.int .i64 m)) (hy:Fr.ev fr y=some (.int .i64 k)):Yld P N fr H Γ (.call ⟨.builtin .max,#[x,y],#[t,t']⟩) ty (.int .i64 (max m k)):=by
  have e:(if m<k then k else m)=max m k:=by split<;>omega
  exact e▸vg_ hx hy
theorem jM_ {x y:Operand} {t t':TypeId} {m k:Int} (hx:Fr.ev fr x=some (.int .i64 m)) (hy:Fr.ev fr y=some (.int .i64 k)):Yld P N fr H Γ (.call ⟨.builtin .min,#[x,y],#[t,t']⟩) ty (.int .i64 (min m k)):=by
  have e:(if k<m then k else m)=min m k:=by split<;>omega
  exact e▸rl_ hx hy
theorem eg_ {b:Nat} {cs:List Value} {T:TypeId} {fz:Nat×Nat} (hp:H.Perm ([(b,.cells cs.toArray T fz)]++F)):∀ v:Vw,v.sat H→aB_ Γ v→∀ j u,cs[j]? = some u→v.w.cell? ((⟨b,0,none⟩:Addr).add j)=some u:=by
  intro v h1 h2 j u hj;exact bF_ (Γ:=Γ) 0 rfl v (h1.perm hp) h2 j u hj
theorem be_ {α:Type} {f:α→List Value} (hf:∀ x,(f x).all Value.oneCell'=true) {l:List α} {u:Value} (h:u∈l.flatMap f):u.oneCell'=true:=by
  obtain⟨y,_,hy⟩:=List.mem_flatMap.1 h;exact List.all_eq_true.1 (hf y) u hy
end
end Go.Sx
namespace Go.Sx
open Go
section
variable {P:Program} {N:Nf} {v0:Vw} {H0:Hp} {R:Exit→Act→World→Prop} {K:List Kt} {fr:Fr} {H F:Hp} {Γ:List Fct} {ops:Array Oper} {l:List Oper} {ty:TypeId} {ps:String} {af:Array Edge} {e:TypeId} {sz n:Nat} {sv:Value} {xs:List Value} {Hr:Hp}
theorem hS_ {t t':TypeId} {x:Operand} {k k':IntKind} {m r:Int} {u:TypeDesc} (hs:P.underlying t=some u) (hd:P.underlying t'=some (.int k')) (hx:Fr.ev fr x=some (.int k m)) (hw:IntKind.wrap k' m=r):Yld P N fr H Γ (.convert t t' x) ty (.int k' r) :=
  fun a v h1 _ _ _ _ _=>by subst hw;simp[execOp,h1.ev hx,convert,run_underlying hs,run_underlying hd,Conv.intToInt]
theorem te_ {r:Int} (h1:0≤r) (h2:r≤18446744073709551615):IntKind.wrap .u64 r=r:=by
  simp[IntKind.wrap,IntKind.signed,IntKind.bits]
  omega
end
end Go.Sx
namespace Go.Vs
open Go Go.Sx
def eT_ (a c:Str):Pc:=⟨1,a,[],c,[],[],[],0,0,0⟩
def aU_ (frm:Int):List Str→List Pc→List Pc
  | [],l=>l
  | a::r,l=>aU_ frm r (ins frm l (eT_ a [42]))
theorem eN_ (frm:Int):∀ (r:List Str) (l:List Pc),(aU_ frm r l).length≤l.length+r.length
  | [],l=>by simp[aU_]
  | a::r,l=>by
    have h1:=eN_ frm r (ins frm l (eT_ a [42]));have h2:=bu_ frm l (eT_ a [42]);simp only[aU_,List.length_cons];omega
theorem kh_ (frm:Int):∀ (xs ys:List Str) (l:List Pc),aU_ frm (xs++ys) l=aU_ frm ys (aU_ frm xs l)
  | [],_,_=>rfl
  | x::xs,ys,l=>by simp only[List.cons_append,aU_];exact kh_ frm xs ys _
theorem qL_ (frm:Int) {xs:List Str} {a:Str} {i:Nat} (hp:xs[i]? = some a) (l:List Pc):aU_ frm (xs.take (i+1)) l=ins frm (aU_ frm (xs.take i) l) (eT_ a [42]):=by
  rw[List.take_add_one,hp,Option.toList_some,kh_];rfl
def db_ (s:Str):Str:=[123]++s++[125]
def Ax.disj (x:Ax):Str:=[60]++x.left.operandN++[32,97,110,100,32]++x.right.operandN++[62]
def Ax.doms (x:Ax):Str:=[60,115,111,109,101,32]++x.role++[32,101,118,101,114,121,116,104,105,110,103,62]
def Ax.goalP (x:Ax):List Pc×List Fc×Int :=
  if x.check≠0 then ([],[],x.check)
  else if x.kind=1 then (x.right.leftP (-1) (x.left.rightP (-1) (aU_ (-1) [x.left.atom,x.right.atom] [])),[⟨1,x.left.atom,x.right.atom,[],0,0⟩],0)
  else if x.kind=2 then (x.left.leftP (-1) (x.right.rightP (-1) (x.right.leftP (-1) (x.left.rightP (-1) (aU_ (-1) [x.left.atom,x.right.atom] [])))),[⟨1,x.left.atom,x.right.atom,[],0,0⟩,⟨1,x.right.atom,x.left.atom,[],0,0⟩],0)
  else if x.kind=3 then (x.right.rightP (-1) (ins (-1) (x.left.rightP (-1) (ins (-1) (aU_ (-1) [x.disj,[33]] []) (eT_ x.disj x.left.atom))) (eT_ x.disj x.right.atom)),[⟨1,x.disj,[33],[],0,0⟩],0)
  else if x.kind=4 then (x.right.leftP (-1) (ins (-1) (aU_ (-1) [x.doms,x.right.atom] []) ⟨3,x.doms,[],[42],x.role,[],[],0,0,0⟩),[⟨1,x.doms,x.right.atom,[],0,0⟩],0)
  else if x.kind=8 then (x.right.leftP (-1) (aU_ (-1) [db_ x.a,x.right.atom] []),[⟨1,db_ x.a,x.right.atom,[],0,0⟩],0)
  else if x.kind=9 then (aU_ (-1) [db_ x.a,db_ x.b] [],[⟨2,db_ x.a,db_ x.b,x.role,0,0⟩],0)
  else ([],[],22)
theorem Con.operandN_len {c:Con} (hok:c.ok):c.operandN.length≤6402:=by
  have:=Con.textN_len hok;unfold operandN
  split<;>simp<;>omega
end Go.Vs
namespace Go.Proofs
open Go.Shelf
def Tryz.lays156_ren:Go.Shelf.Ren:=⟨fun|156=>251|165=>261|166=>262|169=>263|240=>267|241=>268|276=>270|277=>271|n=>n,fun|31=>46|9=>9|3=>3|4=>4|0=>0|20=>20|72=>268|76=>272|70=>266|37=>39|75=>271|127=>280|164=>282|5=>5|80=>161|n=>n,fun|n=>n⟩
theorem Tryz.lays156:Go.Proofs.Lays.n156 Tryz.prog Tryz.lays156_ren:={
  mixed:=by kernel_rfl
  f156:=Tryz.func251.trans (congrArg some (by kernel_rfl))
  f165:=Tryz.func261.trans (congrArg some (by kernel_rfl))
  f166:=Tryz.func262.trans (congrArg some (by kernel_rfl))
  f169:=Tryz.func263.trans (congrArg some (by kernel_rfl))
  f240:=Tryz.func267.trans (congrArg some (by kernel_rfl))
  f241:=Tryz.func268.trans (congrArg some (by kernel_rfl))
  f276:=Tryz.func270.trans (congrArg some (by kernel_rfl))
  f277:=Tryz.func271.trans (congrArg some (by kernel_rfl))
  t0:=Tryz.underlying0
  a0:=Tryz.isAgg0
  z0:=Tryz.sizeOf0
  v0:=Tryz.zeroValue0
  t3:=Tryz.underlying3
  a3:=Tryz.isAgg3
  z3:=Tryz.sizeOf3
  v3:=Tryz.zeroValue3
  t4:=Tryz.underlying4
  a4:=Tryz.isAgg4
  z4:=Tryz.sizeOf4
  v4:=Tryz.zeroValue4
  t9:=Tryz.underlying9
  a9:=Tryz.isAgg9
  z9:=Tryz.sizeOf9
  v9:=Tryz.zeroValue9
  t20:=Tryz.underlying20
  a20:=Tryz.isAgg20
  z20:=Tryz.sizeOf20
  v20:=Tryz.zeroValue20
  t31:=Tryz.underlying46
  a31:=Tryz.isAgg46
  z31:=Tryz.sizeOf46
  v31:=Tryz.zeroValue46
  t37:=Tryz.underlying39
  a37:=Tryz.isAgg39
  z37:=Tryz.sizeOf39
  v37:=Tryz.zeroValue39
  t70:=Tryz.underlying266
  a70:=Tryz.isAgg266
  z70:=Tryz.sizeOf266
  v70:=Tryz.zeroValue266
  t72:=Tryz.underlying268
  a72:=Tryz.isAgg268
  z72:=Tryz.sizeOf268
  v72:=Tryz.zeroValue268
  t75:=Tryz.underlying271
  a75:=Tryz.isAgg271
  z75:=Tryz.sizeOf271
  v75:=Tryz.zeroValue271
  t76:=Tryz.underlying272
  a76:=Tryz.isAgg272
  z76:=Tryz.sizeOf272
  v76:=Tryz.zeroValue272
  t127:=Tryz.underlying280
  a127:=Tryz.isAgg280
  z127:=Tryz.sizeOf280
  v127:=Tryz.zeroValue280
  t164:=Tryz.underlying282
  a164:=Tryz.isAgg282
  z164:=Tryz.sizeOf282
  v164:=Tryz.zeroValue282 }
theorem Tryz.Builder_Extra_156:Builder.Extra Tryz.prog Tryz.lays156_ren:={
  sizeBuilder:=by kernel_rfl
  liesBuilder:=by kernel_rfl
  t5:=Tryz.underlying5
  a5:=Tryz.isAgg5
  z5:=Tryz.sizeOf5
  v5:=Tryz.zeroValue5
  infoByte:=by kernel_rfl
  cellsByte:=by kernel_rfl
  sizeByte:=by kernel_rfl
  neB5:=by decide }
open Go.RowKit in
theorem Tryz.strings_Join (bk o c:Nat) (xs:List ByteArray) (sep:ByteArray) (w:World) (hcells:∀ (j:Nat) x,xs[j]? = some x→w.cell? ⟨bk,o+j,none⟩=some (.string x)) (hbk:bk<w.heap.size) (hN:xs.length≤140737488355328) (hcap:xs.length≤c) (hlen:(Lib.join (xs.map (·.data.toList)) sep.data.toList).length≤140737488355328) :
    Calls Tryz.prog 251 #[.slice (some ⟨bk,o,none⟩) xs.length c,.string sep] w fun e w'=>e=.returned (.string ⟨(Lib.join (xs.map (·.data.toList)) sep.data.toList).toArray⟩)∧Below w.heap.size w w':=Any.strings_Join Tryz.lays156 Tryz.Builder_Extra_156 bk o c xs sep w hcells hbk hN hcap hlen
def Tryz.lays122_ren:Go.Shelf.Ren:=⟨fun|122=>115|215=>173|n=>n,fun|3=>3|4=>4|n=>n,fun|n=>n⟩
theorem Tryz.lays122:Go.Proofs.Lays.n122 Tryz.prog Tryz.lays122_ren:={
  mixed:=by kernel_rfl
  f122:=Tryz.func115.trans (congrArg some (by kernel_rfl))
  f215:=Tryz.func173.trans (congrArg some (by kernel_rfl))
  t3:=Tryz.underlying3
  a3:=Tryz.isAgg3
  z3:=Tryz.sizeOf3
  v3:=Tryz.zeroValue3
  t4:=Tryz.underlying4
  a4:=Tryz.isAgg4
  z4:=Tryz.sizeOf4
  v4:=Tryz.zeroValue4 }
open Go.RowKit in
theorem Tryz.cmp_Compare_int (x y:Int) (w:World) :
    Calls Tryz.prog 115 #[.int .i64 x,.int .i64 y] w fun e w'=>e=.returned (.int .i64 (Lib.compareInt x y))∧w'=w:=Any.cmp_Compare_int Tryz.lays122 x y w
def Tryz.laysM171_ren:Go.Shelf.Ren:=⟨fun|171=>253|243=>264|246=>269|283=>272|284=>273|285=>274|286=>275|129=>172|317=>276|318=>277|319=>278|320=>279|337=>280|338=>281|n=>n,fun|3=>3|9=>9|2=>2|4=>4|171=>284|0=>0|53=>88|37=>39|5=>5|173=>286|212=>289|51=>206|20=>20|213=>290|46=>165|232=>291|233=>292|n=>n,fun|17=>6|18=>7|19=>8|n=>n⟩
theorem Tryz.laysM171:Go.Proofs.LaysM.n171 Tryz.prog Tryz.laysM171_ren:={
  mixed:=by kernel_rfl
  f129:=Tryz.func172.trans (congrArg some (by kernel_rfl))
  f171:=Tryz.func253.trans (congrArg some (by kernel_rfl))
  f243:=Tryz.func264.trans (congrArg some (by kernel_rfl))
  f246:=Tryz.func269.trans (congrArg some (by kernel_rfl))
  f283:=Tryz.func272.trans (congrArg some (by kernel_rfl))
  f284:=Tryz.func273.trans (congrArg some (by kernel_rfl))
  f285:=Tryz.func274.trans (congrArg some (by kernel_rfl))
  f286:=Tryz.func275.trans (congrArg some (by kernel_rfl))
  f317:=Tryz.func276.trans (congrArg some (by kernel_rfl))
  f318:=Tryz.func277.trans (congrArg some (by kernel_rfl))
  f319:=Tryz.func278.trans (congrArg some (by kernel_rfl))
  f320:=Tryz.func279.trans (congrArg some (by kernel_rfl))
  f337:=Tryz.func280.trans (congrArg some (by kernel_rfl))
  f338:=Tryz.func281.trans (congrArg some (by kernel_rfl))
  t0:=Tryz.underlying0
  a0:=Tryz.isAgg0
  z0:=Tryz.sizeOf0
  v0:=Tryz.zeroValue0
  t2:=Tryz.underlying2
  a2:=Tryz.isAgg2
  z2:=Tryz.sizeOf2
  v2:=Tryz.zeroValue2
  t3:=Tryz.underlying3
  a3:=Tryz.isAgg3
  z3:=Tryz.sizeOf3
  v3:=Tryz.zeroValue3
  t4:=Tryz.underlying4
  a4:=Tryz.isAgg4
  z4:=Tryz.sizeOf4
  v4:=Tryz.zeroValue4
  t5:=Tryz.underlying5
  a5:=Tryz.isAgg5
  z5:=Tryz.sizeOf5
  v5:=Tryz.zeroValue5
  t9:=Tryz.underlying9
  a9:=Tryz.isAgg9
  z9:=Tryz.sizeOf9
  v9:=Tryz.zeroValue9
  t20:=Tryz.underlying20
  a20:=Tryz.isAgg20
  z20:=Tryz.sizeOf20
  v20:=Tryz.zeroValue20
  t37:=Tryz.underlying39
  a37:=Tryz.isAgg39
  z37:=Tryz.sizeOf39
  v37:=Tryz.zeroValue39
  t46:=Tryz.underlying165
  a46:=Tryz.isAgg165
  z46:=Tryz.sizeOf165
  v46:=Tryz.zeroValue165
  t51:=Tryz.underlying206
  a51:=Tryz.isAgg206
  z51:=Tryz.sizeOf206
  v51:=Tryz.zeroValue206
  t53:=Tryz.underlying88
  a53:=Tryz.isAgg88
  z53:=Tryz.sizeOf88
  v53:=Tryz.zeroValue88
  t171:=Tryz.underlying284
  a171:=Tryz.isAgg284
  z171:=Tryz.sizeOf284
  v171:=Tryz.zeroValue284
  t173:=Tryz.underlying286
  a173:=Tryz.isAgg286
  z173:=Tryz.sizeOf286
  v173:=Tryz.zeroValue286
  t212:=Tryz.underlying289
  a212:=Tryz.isAgg289
  z212:=Tryz.sizeOf289
  v212:=Tryz.zeroValue289
  t213:=Tryz.underlying290
  a213:=Tryz.isAgg290
  z213:=Tryz.sizeOf290
  t232:=Tryz.underlying291
  a232:=Tryz.isAgg291
  z232:=Tryz.sizeOf291
  v232:=Tryz.zeroValue291
  t233:=Tryz.underlying292
  a233:=Tryz.isAgg292
  z233:=Tryz.sizeOf292
  v233:=Tryz.zeroValue292
  g17:=by kernel_rfl
  g18:=by kernel_rfl
  g19:=by kernel_rfl
  i0:=by kernel_rfl
  i2:=by kernel_rfl
  i3:=by kernel_rfl
  i4:=by kernel_rfl
  i5:=by kernel_rfl
  i9:=by kernel_rfl
  i20:=by kernel_rfl
  i37:=by kernel_rfl
  i46:=by kernel_rfl
  i51:=by kernel_rfl
  i53:=by kernel_rfl
  i171:=by kernel_rfl
  i173:=by kernel_rfl
  i212:=by kernel_rfl
  i232:=by kernel_rfl
  i233:=by kernel_rfl
  m17:=by kernel_rfl
  m18:=by kernel_rfl
  m19:=by kernel_rfl }
open Go.RowKit Go.Sort Go.Lib in
theorem Tryz.strconv_Itoa (n : Int) (h0 : -9223372036854775808 ≤ n) (h1 : n ≤ 9223372036854775807) (w : World) (htab : Lib.TabIs Tryz.prog w "internal/strconv.uint64pow10" .u64 Lib.pow10Tab) :
    Calls Tryz.prog 253 #[.int .i64 n] w fun e w'=>e=.returned (.string ⟨(Lib.itoa n).toArray⟩)∧∃ k os,w'=grow (w.drewN k) os:=Any.strconv_Itoa Tryz.laysM171 n h0 h1 w htab
def Tryz.lays219_ren:Go.Shelf.Ren:=⟨fun|219=>241|217=>254|225=>255|224=>256|267=>257|266=>265|314=>266|n=>n,fun|9=>9|3=>3|4=>4|5=>5|46=>165|146=>274|51=>206|n=>n,fun|1=>3|n=>n⟩
theorem Tryz.lays219:Go.Proofs.Lays.n219 Tryz.prog Tryz.lays219_ren:={
  mixed:=by kernel_rfl
  f217:=Tryz.func254.trans (congrArg some (by kernel_rfl))
  f219:=Tryz.func241.trans (congrArg some (by kernel_rfl))
  f224:=Tryz.func256.trans (congrArg some (by kernel_rfl))
  f225:=Tryz.func255.trans (congrArg some (by kernel_rfl))
  f266:=Tryz.func265.trans (congrArg some (by kernel_rfl))
  f267:=Tryz.func257.trans (congrArg some (by kernel_rfl))
  f314:=Tryz.func266.trans (congrArg some (by kernel_rfl))
  t3:=Tryz.underlying3
  a3:=Tryz.isAgg3
  z3:=Tryz.sizeOf3
  v3:=Tryz.zeroValue3
  t4:=Tryz.underlying4
  a4:=Tryz.isAgg4
  z4:=Tryz.sizeOf4
  v4:=Tryz.zeroValue4
  t5:=Tryz.underlying5
  a5:=Tryz.isAgg5
  z5:=Tryz.sizeOf5
  v5:=Tryz.zeroValue5
  t9:=Tryz.underlying9
  a9:=Tryz.isAgg9
  z9:=Tryz.sizeOf9
  v9:=Tryz.zeroValue9
  t46:=Tryz.underlying165
  a46:=Tryz.isAgg165
  z46:=Tryz.sizeOf165
  v46:=Tryz.zeroValue165
  t51:=Tryz.underlying206
  a51:=Tryz.isAgg206
  z51:=Tryz.sizeOf206
  v51:=Tryz.zeroValue206
  t146:=Tryz.underlying274
  a146:=Tryz.isAgg274
  z146:=Tryz.sizeOf274
  v146:=Tryz.zeroValue274
  g1:=by kernel_rfl }
open Go.RowKit Go.Lib in
theorem Tryz.stringslite_Index_one (s:ByteArray) (c:UInt8) (w:World) :
    Calls Tryz.prog 241 #[.string s,.string ⟨#[c]⟩] w fun e w'=>e=.returned (.int .i64 (Lib.indexByte s.data.toList c))∧w'=w:=Any.stringslite_Index_one Tryz.lays219 s c w
def Tryz.lays143_ren:Go.Shelf.Ren:=⟨fun|143=>216|219=>241|217=>254|225=>255|224=>256|267=>257|266=>265|314=>266|n=>n,fun|9=>9|3=>3|4=>4|5=>5|46=>165|146=>274|51=>206|n=>n,fun|1=>3|n=>n⟩
theorem Tryz.lays143:Go.Proofs.Lays.n143 Tryz.prog Tryz.lays143_ren:={
  mixed:=by kernel_rfl
  f143:=Tryz.func216.trans (congrArg some (by kernel_rfl))
  f217:=Tryz.func254.trans (congrArg some (by kernel_rfl))
  f219:=Tryz.func241.trans (congrArg some (by kernel_rfl))
  f224:=Tryz.func256.trans (congrArg some (by kernel_rfl))
  f225:=Tryz.func255.trans (congrArg some (by kernel_rfl))
  f266:=Tryz.func265.trans (congrArg some (by kernel_rfl))
  f267:=Tryz.func257.trans (congrArg some (by kernel_rfl))
  f314:=Tryz.func266.trans (congrArg some (by kernel_rfl))
  t3:=Tryz.underlying3
  a3:=Tryz.isAgg3
  z3:=Tryz.sizeOf3
  v3:=Tryz.zeroValue3
  t4:=Tryz.underlying4
  a4:=Tryz.isAgg4
  z4:=Tryz.sizeOf4
  v4:=Tryz.zeroValue4
  t5:=Tryz.underlying5
  a5:=Tryz.isAgg5
  z5:=Tryz.sizeOf5
  v5:=Tryz.zeroValue5
  t9:=Tryz.underlying9
  a9:=Tryz.isAgg9
  z9:=Tryz.sizeOf9
  v9:=Tryz.zeroValue9
  t46:=Tryz.underlying165
  a46:=Tryz.isAgg165
  z46:=Tryz.sizeOf165
  v46:=Tryz.zeroValue165
  t51:=Tryz.underlying206
  a51:=Tryz.isAgg206
  z51:=Tryz.sizeOf206
  v51:=Tryz.zeroValue206
  t146:=Tryz.underlying274
  a146:=Tryz.isAgg274
  z146:=Tryz.sizeOf274
  v146:=Tryz.zeroValue274
  g1:=by kernel_rfl }
open Go.RowKit Go.Lib in
theorem Tryz.strings_Index_one (s:ByteArray) (c:UInt8) (w:World) :
    Calls Tryz.prog 216 #[.string s,.string ⟨#[c]⟩] w fun e w'=>e=.returned (.int .i64 (Lib.indexByte s.data.toList c))∧w'=w:=Any.strings_Index_one Tryz.lays143 s c w
def Tryz.lays138_ren:Go.Shelf.Ren:=⟨fun|138=>215|195=>246|218=>248|143=>216|219=>241|217=>254|225=>255|224=>256|267=>257|266=>265|314=>266|n=>n,fun|9=>9|3=>3|4=>4|5=>5|0=>0|46=>165|146=>274|51=>206|n=>n,fun|1=>3|n=>n⟩
theorem Tryz.lays138:Go.Proofs.Lays.n138 Tryz.prog Tryz.lays138_ren:={
  mixed:=by kernel_rfl
  f138:=Tryz.func215.trans (congrArg some (by kernel_rfl))
  f143:=Tryz.func216.trans (congrArg some (by kernel_rfl))
  f195:=Tryz.func246.trans (congrArg some (by kernel_rfl))
  f217:=Tryz.func254.trans (congrArg some (by kernel_rfl))
  f218:=Tryz.func248.trans (congrArg some (by kernel_rfl))
  f219:=Tryz.func241.trans (congrArg some (by kernel_rfl))
  f224:=Tryz.func256.trans (congrArg some (by kernel_rfl))
  f225:=Tryz.func255.trans (congrArg some (by kernel_rfl))
  f266:=Tryz.func265.trans (congrArg some (by kernel_rfl))
  f267:=Tryz.func257.trans (congrArg some (by kernel_rfl))
  f314:=Tryz.func266.trans (congrArg some (by kernel_rfl))
  t0:=Tryz.underlying0
  a0:=Tryz.isAgg0
  z0:=Tryz.sizeOf0
  v0:=Tryz.zeroValue0
  t3:=Tryz.underlying3
  a3:=Tryz.isAgg3
  z3:=Tryz.sizeOf3
  v3:=Tryz.zeroValue3
  t4:=Tryz.underlying4
  a4:=Tryz.isAgg4
  z4:=Tryz.sizeOf4
  v4:=Tryz.zeroValue4
  t5:=Tryz.underlying5
  a5:=Tryz.isAgg5
  z5:=Tryz.sizeOf5
  v5:=Tryz.zeroValue5
  t9:=Tryz.underlying9
  a9:=Tryz.isAgg9
  z9:=Tryz.sizeOf9
  v9:=Tryz.zeroValue9
  t46:=Tryz.underlying165
  a46:=Tryz.isAgg165
  z46:=Tryz.sizeOf165
  v46:=Tryz.zeroValue165
  t51:=Tryz.underlying206
  a51:=Tryz.isAgg206
  z51:=Tryz.sizeOf206
  v51:=Tryz.zeroValue206
  t146:=Tryz.underlying274
  a146:=Tryz.isAgg274
  z146:=Tryz.sizeOf274
  v146:=Tryz.zeroValue274
  g1:=by kernel_rfl }
open Go.RowKit Go.Lib in
theorem Tryz.strings_Count_one (s:ByteArray) (c:UInt8) (w:World) :
    Calls Tryz.prog 215 #[.string s,.string ⟨#[c]⟩] w fun e w'=>e=.returned (.int .i64 (Lib.countByte s.data.toList c))∧w'=w:=Any.strings_Count_one Tryz.lays138 s c w
def Tryz.lays190_ren:Go.Shelf.Ren:=⟨fun|190=>97|125=>113|258=>161|128=>171|129=>172|302=>187|303=>188|304=>189|305=>190|306=>191|307=>192|308=>193|309=>194|310=>195|333=>217|329=>198|330=>199|334=>218|335=>219|336=>220|344=>249|n=>n,fun|31=>46|9=>9|3=>3|46=>165|0=>0|51=>206|53=>88|4=>4|183=>199|182=>198|131=>203|5=>5|218=>230|222=>159|228=>252|229=>253|n=>n,fun|n=>n⟩
theorem Tryz.lays190:Go.Proofs.Lays.n190 Tryz.prog Tryz.lays190_ren:={
  mixed:=by kernel_rfl
  f125:=Tryz.func113.trans (congrArg some (by kernel_rfl))
  f128:=Tryz.func171.trans (congrArg some (by kernel_rfl))
  f129:=Tryz.func172.trans (congrArg some (by kernel_rfl))
  f190:=Tryz.func97.trans (congrArg some (by kernel_rfl))
  f258:=Tryz.func161.trans (congrArg some (by kernel_rfl))
  f302:=Tryz.func187.trans (congrArg some (by kernel_rfl))
  f303:=Tryz.func188.trans (congrArg some (by kernel_rfl))
  f304:=Tryz.func189.trans (congrArg some (by kernel_rfl))
  f305:=Tryz.func190.trans (congrArg some (by kernel_rfl))
  f306:=Tryz.func191.trans (congrArg some (by kernel_rfl))
  f307:=Tryz.func192.trans (congrArg some (by kernel_rfl))
  f308:=Tryz.func193.trans (congrArg some (by kernel_rfl))
  f309:=Tryz.func194.trans (congrArg some (by kernel_rfl))
  f310:=Tryz.func195.trans (congrArg some (by kernel_rfl))
  f329:=Tryz.func198.trans (congrArg some (by kernel_rfl))
  f330:=Tryz.func199.trans (congrArg some (by kernel_rfl))
  f333:=Tryz.func217.trans (congrArg some (by kernel_rfl))
  f334:=Tryz.func218.trans (congrArg some (by kernel_rfl))
  f335:=Tryz.func219.trans (congrArg some (by kernel_rfl))
  f336:=Tryz.func220.trans (congrArg some (by kernel_rfl))
  f344:=Tryz.func249.trans (congrArg some (by kernel_rfl))
  t0:=Tryz.underlying0
  a0:=Tryz.isAgg0
  z0:=Tryz.sizeOf0
  v0:=Tryz.zeroValue0
  t3:=Tryz.underlying3
  a3:=Tryz.isAgg3
  z3:=Tryz.sizeOf3
  v3:=Tryz.zeroValue3
  t4:=Tryz.underlying4
  a4:=Tryz.isAgg4
  z4:=Tryz.sizeOf4
  v4:=Tryz.zeroValue4
  t5:=Tryz.underlying5
  a5:=Tryz.isAgg5
  z5:=Tryz.sizeOf5
  v5:=Tryz.zeroValue5
  t9:=Tryz.underlying9
  a9:=Tryz.isAgg9
  z9:=Tryz.sizeOf9
  v9:=Tryz.zeroValue9
  t31:=Tryz.underlying46
  a31:=Tryz.isAgg46
  z31:=Tryz.sizeOf46
  v31:=Tryz.zeroValue46
  t46:=Tryz.underlying165
  a46:=Tryz.isAgg165
  z46:=Tryz.sizeOf165
  v46:=Tryz.zeroValue165
  t51:=Tryz.underlying206
  a51:=Tryz.isAgg206
  z51:=Tryz.sizeOf206
  v51:=Tryz.zeroValue206
  t53:=Tryz.underlying88
  a53:=Tryz.isAgg88
  z53:=Tryz.sizeOf88
  v53:=Tryz.zeroValue88
  t131:=Tryz.underlying203
  a131:=Tryz.isAgg203
  z131:=Tryz.sizeOf203
  v131:=Tryz.zeroValue203
  t182:=Tryz.underlying198
  a182:=Tryz.isAgg198
  z182:=Tryz.sizeOf198
  v182:=Tryz.zeroValue198
  t183:=Tryz.underlying199
  a183:=Tryz.isAgg199
  z183:=Tryz.sizeOf199
  v183:=Tryz.zeroValue199
  t218:=Tryz.underlying230
  a218:=Tryz.isAgg230
  z218:=Tryz.sizeOf230
  v218:=Tryz.zeroValue230
  t222:=Tryz.underlying159
  a222:=Tryz.isAgg159
  z222:=Tryz.sizeOf159
  v222:=Tryz.zeroValue159
  t228:=Tryz.underlying252
  a228:=Tryz.isAgg252
  z228:=Tryz.sizeOf252
  v228:=Tryz.zeroValue252
  t229:=Tryz.underlying253
  a229:=Tryz.isAgg253
  z229:=Tryz.sizeOf253
  v229:=Tryz.zeroValue253 }
open Go.Sort Go.RowKit in
theorem Tryz.slices_Sort_string (blk off cap:Nat) (ss:List (List UInt8)) (w:World) (hH:Holds encStr w blk off ss.toArray) (hblk:blk<w.heap.size) (hsz:ss.length<4611686018427387904) :
    Calls Tryz.prog 97 #[.slice (some ⟨blk,off,none⟩) ss.length cap] w fun e w' =>
      e=.returned (.tuple #[])∧∃ n os,w'=grow (putRow encStr (Sort.ahead w n) blk off (ss.mergeSort fun x y=>decide (x≤y)).toArray) os:=Any.slices_Sort_string Tryz.lays190 blk off cap ss w hH hblk hsz
def Tryz.lays194_ren:Go.Shelf.Ren:=⟨fun|194=>98|n=>n,fun|31=>46|9=>9|3=>3|4=>4|0=>0|n=>n,fun|n=>n⟩
theorem Tryz.lays194:Go.Proofs.Lays.n194 Tryz.prog Tryz.lays194_ren:={
  mixed:=by kernel_rfl
  f194:=Tryz.func98.trans (congrArg some (by kernel_rfl))
  t0:=Tryz.underlying0
  a0:=Tryz.isAgg0
  z0:=Tryz.sizeOf0
  v0:=Tryz.zeroValue0
  t3:=Tryz.underlying3
  a3:=Tryz.isAgg3
  z3:=Tryz.sizeOf3
  v3:=Tryz.zeroValue3
  t4:=Tryz.underlying4
  a4:=Tryz.isAgg4
  z4:=Tryz.sizeOf4
  v4:=Tryz.zeroValue4
  t9:=Tryz.underlying9
  a9:=Tryz.isAgg9
  z9:=Tryz.sizeOf9
  v9:=Tryz.zeroValue9
  t31:=Tryz.underlying46
  a31:=Tryz.isAgg46
  z31:=Tryz.sizeOf46
  v31:=Tryz.zeroValue46 }
open Go.RowKit Go.Lib Go.Sort in
theorem Tryz.slices_Compact_string (blk off cap:Nat) (zs:List (List UInt8)) (w:World) (hH:Holds encStr w blk off zs.toArray) (hsz:zs.length≤9223372036854775807) (hcap:zs.length≤cap) :
    Calls Tryz.prog 98 #[.slice (some ⟨blk,off,none⟩) zs.length cap] w fun e w'=>e=.returned (.slice (some ⟨blk,off,none⟩) (Lib.compact zs).length cap)∧∃ q,w'=putRow encStr (Sort.ahead w q) blk off (Lib.compact zs++List.replicate (zs.length - (Lib.compact zs).length) []).toArray:=Any.slices_Compact_string Tryz.lays194 blk off cap zs w hH hsz hcap
open Go.RowKit Go.Lib Go.Sort in
theorem Tryz.slices_Compact_string_empty (a:Option Addr) (cap:Nat) (w:World) :
    Calls Tryz.prog 98 #[.slice a 0 cap] w fun e w'=>e=.returned (.slice a 0 cap)∧w'=w:=Any.slices_Compact_string_empty Tryz.lays194 a cap w
open Go.RowKit Go.Sort in
theorem Tryz.slices_Sort_string_none (p:Option Addr) (cap:Nat) (w:World) :
    Calls Tryz.prog 97 #[.slice p 0 cap] w fun e w'=>e=.returned (.tuple #[])∧w'=w:=Any.slices_Sort_string_none Tryz.lays190 p cap w
end Go.Proofs
namespace Go.Proofs
open Go.Shelf
def Tryz.lays106_ren:Go.Shelf.Ren:=⟨fun|106=>116|213=>174|265=>202|n=>n,fun|9=>9|3=>3|n=>n,fun|n=>n⟩
theorem Tryz.lays106:Go.Proofs.Lays.n106 Tryz.prog Tryz.lays106_ren:={
  mixed:=by kernel_rfl
  f106:=Tryz.func116.trans (congrArg some (by kernel_rfl))
  f213:=Tryz.func174.trans (congrArg some (by kernel_rfl))
  f265:=Tryz.func202.trans (congrArg some (by kernel_rfl))
  t3:=Tryz.underlying3
  a3:=Tryz.isAgg3
  z3:=Tryz.sizeOf3
  v3:=Tryz.zeroValue3
  t9:=Tryz.underlying9
  a9:=Tryz.isAgg9
  z9:=Tryz.sizeOf9
  v9:=Tryz.zeroValue9 }
open Go.RowKit in
theorem Tryz.strings_Compare (a b:ByteArray) (w:World) :
    Calls Tryz.prog 116 #[.string a,.string b] w fun e w'=>e=.returned (.int .i64 (Lib.compareBytes a.data.toList b.data.toList))∧w'=w:=Any.strings_Compare Tryz.lays106 a b w
end Go.Proofs
namespace Go.Sx
open Go
structure Cn (n:Nat) (G:Prop):Prop where
  go:G
structure Kw (A:Prop):Prop where
  go:A
theorem cn {n:Nat} {G G1:Prop} (k:G1→G) (h:Cn n G1):Cn (n+1) G:=⟨k h.go⟩
theorem cn0 {G:Prop} (h:G):Cn 0 G:=⟨h⟩
def noG (x:Value) (want:Bool):Bool:=match x with|.bool b=>Bool.xor b want|_=>true
section
variable {P:Program} {N:Nf} {v0:Vw} {H0:Hp} {R:Exit→Act→World→Prop} {K:List Kt} {fr:Fr} {H:Hp} {Γ:List Fct} {ops:Array Oper} {l:List Oper} {d:Nat} {ty:TypeId} {ps:String} {af:Array Edge} {Hs:Hp} {Γs:List Fct} {fuel:Nat} {listed:Array Bool}
theorem rA_ {op:Op} {j t:Nat} {want:Bool} {x:Value} (hj:iK_ ops j=some t) (hx:Fr.get fr t=some x) (hne:noG x want=true) (hN:Nat.blt d N.n=true)
    (h:Ops P R N v0 H0 ops l K ((d,undef)::fr) H Γ):Ops P R N v0 H0 ops (⟨some d,op,ty,ps,af,some (j,want)⟩::l) K fr H Γ:=bC_ hj hx (by cases x<;>first|rfl|exact hne) hN h
theorem sq_noG [NoPan R] {i:Nat} {is:List Nat} {op:Op} {x:Value} {j t:Nat} {want:Bool} (hi:ops[i]? = some ⟨some d,op,ty,ps,af,some (j,want)⟩) (hj:iK_ ops j=some t) (hx:Fr.get fr t=some x) (hne:noG x want=true) (hN:Nat.blt d N.n=true)
    (h:Sq P R N v0 H0 ops Hs Γs is fuel (listed.setIfInBounds i true) K ((d,undef)::fr) H Γ):Sq P R N v0 H0 ops Hs Γs (i::is) fuel listed K fr H Γ:=jm_ hi hj hx (by cases x<;>first|rfl|exact hne) hN h
end
end Go.Sx

namespace Go.Proofs.YtaffcjgphlhppaaGreatDoor
open Go Go.Sx
theorem zdf {p:Prop} [Decidable p] (h:decide p=false):¬p:=of_decide_eq_false h
theorem zdt {p:Prop} [Decidable p] (h:decide p=true):p:=of_decide_eq_true h
theorem znb {α:Type} [BEq α] [LawfulBEq α] {a b:α} (h:(a==b)=false):a≠b:=by simpa using h
theorem zeb {α:Type} [BEq α] [LawfulBEq α] {a b:α} (h:(a==b)=true):a=b:=eq_of_beq h
theorem zbe {α:Type} [BEq α] [LawfulBEq α] {a b:α} (h:(a != b)=false):a=b:=by simpa using h
theorem zk {G:Prop} (h:G:=by kernel_rfl):G:=h
theorem zh {P Q:Vw→Prop}:∀ v,P v→Q v→Q v:=fun _ _ h=>h
theorem zt {P Q:Vw→Prop}:∀ v,P v→Q v→aB_ [] v:=fun _ _ _=>trivial
section
variable {H r r' d O:Hp} {b c:Nat×Obj}
theorem zpn (h:H.Perm r):([]++H).Perm r:=h
end
abbrev zR {α:Type} (e k:Nat) (f:α→List Value) (sv:Value) (X:List α) (H:Hp):Prop:=bk_ e k sv X.length (X.flatMap f) H
theorem zsw {α β:Type} {e k:Nat} {f:β→List Value} {sv:Value} {A:List β} {H:Hp} (g:α→List β) (p:List α) (h:bk_ e k sv A.length (A.flatMap f) H):zR e k f sv (A++List.flatMap g (List.take 0 p)) H:=by
  unfold zR;simpa only[List.take_zero,List.flatMap_nil,List.append_nil] using h
theorem zsa {β:Type} {e k m:Nat} {f:β→List Value} {sv:Value} {A B:List β} {H:Hp} (h:bk_ e k sv (A.length+m) (A.flatMap f++B.flatMap f) H) (hm:B.length=m:=by first|rfl|simp):zR e k f sv (A++B) H:=by
  subst hm;unfold zR;rw[List.length_append,List.flatMap_append];exact h
theorem zge {α:Type} {l:List α} {i:Nat} (h:i<l.length):i<l.length∧∃ x,l[i]? = some x∧x∈l:=⟨h,_,List.getElem?_eq_getElem h,List.getElem_mem h⟩
theorem zbn {α:Type} [BEq α] [LawfulBEq α] {a b:α} (h:(a != b)=true):a≠b:=by simpa using h
theorem zp {G:Prop} (h:G:=by (repeat (first|(with_reducible first|exact j_|exact e_|exact A_|exact ad_|exact cL_|exact bx_)|exact e_|(with_reducible first|apply zpn|(apply t_;rotate_left;(fail_if_success (with_reducible apply j_));rotate_right)|apply L_|apply c_|apply s_)|exact A_|exact bx_))):G:=h
theorem zf {G:Prop} (h:G:=by intro v_ a_ b_;repeat (first|exact trivial|(with_reducible first|exact b_.1|exact b_.2.1|exact b_.2.2.1|exact b_.2.2.2.1|exact b_.2.2.2.2.1|exact b_.2.2.2.2.2.1|exact b_.2.2.2.2.2.2.1|exact b_.2.2.2.2.2.2.2.1|exact b_.2.2.2.2.2.2.2.2.1|exact b_.2.2.2.2.2.2.2.2.2.1|exact b_.2.2.2.2.2.2.2.2.2.2.1|exact b_.2.2.2.2.2.2.2.2.2.2.2.1|exact b_|exact b_.2|exact b_.2.2|exact b_.2.2.2|exact b_.2.2.2.2|exact b_.2.2.2.2.2|exact b_.2.2.2.2.2.2|exact b_.2.2.2.2.2.2.2|exact b_.2.2.2.2.2.2.2.2|exact b_.2.2.2.2.2.2.2.2.2|exact b_.2.2.2.2.2.2.2.2.2.2|exact b_.2.2.2.2.2.2.2.2.2.2.2)|(first|exact b_.1|exact b_.2.1|exact b_.2.2.1|exact b_.2.2.2.1|exact b_.2.2.2.2.1|exact b_.2.2.2.2.2.1|exact b_.2.2.2.2.2.2.1|exact b_.2.2.2.2.2.2.2.1|exact b_.2.2.2.2.2.2.2.2.1|exact b_.2.2.2.2.2.2.2.2.2.1|exact b_.2.2.2.2.2.2.2.2.2.2.1|exact b_.2.2.2.2.2.2.2.2.2.2.2.1|exact b_|exact b_.2|exact b_.2.2|exact b_.2.2.2|exact b_.2.2.2.2|exact b_.2.2.2.2.2|exact b_.2.2.2.2.2.2|exact b_.2.2.2.2.2.2.2|exact b_.2.2.2.2.2.2.2.2|exact b_.2.2.2.2.2.2.2.2.2|exact b_.2.2.2.2.2.2.2.2.2.2|exact b_.2.2.2.2.2.2.2.2.2.2.2)|refine⟨?_,?_⟩)):G:=h
theorem zs {G:Prop} (h:G:=by intro v_ a_ b_;refine⟨?_,?_⟩;(first|exact a_|exact satNil a_|exact a_.tail|exact a_.tail.tail|exact a_.tail.tail.tail|exact a_.tail.tail.tail.tail|((apply Vw.sat.sub;apply a_.perm);(repeat (first|(with_reducible first|exact j_|exact e_|exact A_|exact ad_|exact cL_|exact bx_)|exact e_|(with_reducible first|apply zpn|(apply t_;rotate_left;(fail_if_success (with_reducible apply j_));rotate_right)|apply L_|apply c_|apply s_)|exact A_|exact bx_))));(first|exact b_|exact b_.2|exact b_.2.2|exact b_.2.2.2|exact b_.2.2.2.2|exact b_.2.2.2.2.2|exact b_.2.2.2.2.2.2|exact b_.2.2.2.2.2.2.2|exact b_.2.2.2.2.2.2.2.2|exact b_.2.2.2.2.2.2.2.2.2|exact b_.2.2.2.2.2.2.2.2.2.2|exact b_.2.2.2.2.2.2.2.2.2.2.2)):G:=h
theorem zl {G:Prop} (h:G:=by repeat (first|exact trivial|refine⟨rfl,?_⟩)):G:=h
def lkN {α:Type}:List (Nat×α)→Nat→Option α
  | [],_=>none
  | (k,v)::l,n=>bif Nat.beq k n then some v else lkN l n
theorem os_ {α:Type} {n:Nat} {v:α}:∀ {l:List (Nat×α)},lkN l n=some v→(n,v)∈l
  | (k,u)::l,h=>by
    simp only[lkN]at h;cases hb:Nat.beq k n with
    | true=>rw[hb,cond_true]at h;cases h;rw[Nat.eq_of_beq_eq_true hb];exact List.mem_cons_self
    | false=>rw[hb,cond_false]at h;exact List.mem_cons_of_mem _ (os_ h)
def zAt:List (Nat×Bool):=[(9,false),(3,false),(24,true),(56,true),(47,false),(25,false),(4,false),(106,false),(54,false),(105,false),(102,false),(73,true),(34,false),(46,false),(22,false),(171,true),(36,true),(104,false),(108,false),(58,true),(196,true),(107,false),(145,true),(39,false),(238,true),(27,true),(109,false),(77,false),(124,false),(74,false),(114,false),(127,false),(241,false),(78,false),(135,true),(235,false),(191,true),(49,true)]
theorem zA {t:TypeId} {b:Bool} (h:lkN zAt t=some b):∀ w,(isAgg t).run Tryz.prog w=.ok b w:=by
  have h:=os_ h;simp only[zAt,List.mem_cons,Prod.mk.injEq,List.not_mem_nil,or_false]at h;rcases h with⟨rfl,rfl⟩|⟨rfl,rfl⟩|⟨rfl,rfl⟩|⟨rfl,rfl⟩|⟨rfl,rfl⟩|⟨rfl,rfl⟩|⟨rfl,rfl⟩|⟨rfl,rfl⟩|⟨rfl,rfl⟩|⟨rfl,rfl⟩|⟨rfl,rfl⟩|⟨rfl,rfl⟩|⟨rfl,rfl⟩|⟨rfl,rfl⟩|⟨rfl,rfl⟩|⟨rfl,rfl⟩|⟨rfl,rfl⟩|⟨rfl,rfl⟩|⟨rfl,rfl⟩|⟨rfl,rfl⟩|⟨rfl,rfl⟩|⟨rfl,rfl⟩|⟨rfl,rfl⟩|⟨rfl,rfl⟩|⟨rfl,rfl⟩|⟨rfl,rfl⟩|⟨rfl,rfl⟩|⟨rfl,rfl⟩|⟨rfl,rfl⟩|⟨rfl,rfl⟩|⟨rfl,rfl⟩|⟨rfl,rfl⟩|⟨rfl,rfl⟩|⟨rfl,rfl⟩|⟨rfl,rfl⟩|⟨rfl,rfl⟩|⟨rfl,rfl⟩|⟨rfl,rfl⟩
  · exact al_
  · exact aO_
  · exact aS_
  · exact N_
  · exact Tryz.isAgg47
  · exact Tryz.isAgg25
  · exact gQ_
  · exact Tryz.isAgg106
  · exact dG_
  · exact Tryz.isAgg105
  · exact Tryz.isAgg102
  · exact cx_
  · exact Tryz.isAgg34
  · exact qU_
  · exact Tryz.isAgg22
  · exact Tryz.isAgg171
  · exact Tryz.isAgg36
  · exact Tryz.isAgg104
  · exact Tryz.isAgg108
  · exact iI_
  · exact jJ_
  · exact Tryz.isAgg107
  · exact Tryz.isAgg145
  · exact Tryz.isAgg39
  · exact wS_
  · exact Tryz.isAgg27
  · exact Tryz.isAgg109
  · exact Tryz.isAgg77
  · exact Tryz.isAgg124
  · exact Tryz.isAgg74
  · exact Tryz.isAgg114
  · exact jK_
  · exact Tryz.isAgg241
  · exact Tryz.isAgg78
  · exact Tryz.isAgg135
  · exact Tryz.isAgg235
  · exact Tryz.isAgg191
  · exact ea_
def zSt:List (Nat×Nat):=[(9,1),(24,6),(3,1),(56,5),(73,10),(47,1),(25,1),(4,1),(106,1),(54,1),(36,9),(105,1),(34,1),(46,1),(22,1),(171,2),(104,1),(108,1),(58,16),(196,2),(107,1),(145,18),(39,1),(238,2),(27,1),(109,1),(77,1),(124,1),(74,1),(241,1),(78,1),(135,7),(235,1),(81,51),(191,3),(49,2)]
theorem zS {t:TypeId} {b:Nat} (h:lkN zSt t=some b):∀ w,(sizeOf t).run Tryz.prog w=.ok b w:=by
  have h:=os_ h;simp only[zSt,List.mem_cons,Prod.mk.injEq,List.not_mem_nil,or_false]at h;rcases h with⟨rfl,rfl⟩|⟨rfl,rfl⟩|⟨rfl,rfl⟩|⟨rfl,rfl⟩|⟨rfl,rfl⟩|⟨rfl,rfl⟩|⟨rfl,rfl⟩|⟨rfl,rfl⟩|⟨rfl,rfl⟩|⟨rfl,rfl⟩|⟨rfl,rfl⟩|⟨rfl,rfl⟩|⟨rfl,rfl⟩|⟨rfl,rfl⟩|⟨rfl,rfl⟩|⟨rfl,rfl⟩|⟨rfl,rfl⟩|⟨rfl,rfl⟩|⟨rfl,rfl⟩|⟨rfl,rfl⟩|⟨rfl,rfl⟩|⟨rfl,rfl⟩|⟨rfl,rfl⟩|⟨rfl,rfl⟩|⟨rfl,rfl⟩|⟨rfl,rfl⟩|⟨rfl,rfl⟩|⟨rfl,rfl⟩|⟨rfl,rfl⟩|⟨rfl,rfl⟩|⟨rfl,rfl⟩|⟨rfl,rfl⟩|⟨rfl,rfl⟩|⟨rfl,rfl⟩|⟨rfl,rfl⟩|⟨rfl,rfl⟩
  · exact X_
  · exact y_
  · exact aw_
  · exact q_
  · exact U_
  · exact ez_
  · exact cn_
  · exact fK_
  · exact fr_
  · exact cI_
  · exact bl_
  · exact Tryz.sizeOf105
  · exact wN_
  · exact eA_
  · exact gb_
  · exact ed_
  · exact Tryz.sizeOf104
  · exact Tryz.sizeOf108
  · exact dx_
  · exact an_
  · exact Tryz.sizeOf107
  · exact Tryz.sizeOf145
  · exact Tryz.sizeOf39
  · exact lU_
  · exact dZ_
  · exact Tryz.sizeOf109
  · exact Tryz.sizeOf77
  · exact tz_
  · exact Tryz.sizeOf74
  · exact Tryz.sizeOf241
  · exact Tryz.sizeOf78
  · exact gE_
  · exact Tryz.sizeOf235
  · exact Tryz.sizeOf81
  · exact Tryz.sizeOf191
  · exact bj_
theorem zUe {P:Program} {t t1:TypeId} {q q1} (h:∀ w,(underlying t1).run P w=.ok q1 w) (e:t=t1) (e1:q1=q):∀ w,(underlying t).run P w=.ok q w:=by subst e e1;exact h
theorem Zy {A B:Prop} {n:Nat} (k:A) (h:Kw A→Cn n B:=by intro k_;repeat (first|exact cn0 k_.go|(apply cn;intro h_;((first|((with_reducible apply d_);rotate_left;exact rfl;exact h_;rotate_right)|((with_reducible apply B_);exact rfl;rotate_left;exact rfl;exact h_;rotate_right)|((with_reducible apply ce_);exact rfl;exact rfl;exact rfl;rotate_left;exact rfl;exact h_;rotate_right));(focus (first|((with_reducible apply H_);exact rfl)|((with_reducible apply u_);exact rfl)|((with_reducible apply ju_);rotate_left;exact rfl;rotate_right;(first|exact zUe ds_ rfl rfl|exact zUe cY_ rfl rfl|exact zUe x_ rfl rfl|exact zUe cD_ rfl rfl|exact zUe cZ_ rfl rfl|exact zUe cX_ rfl rfl|exact zUe ac_ rfl rfl|exact zUe ch_ rfl rfl|exact zUe D_ rfl rfl|exact zUe bw_ rfl rfl|exact zUe P_ rfl rfl|exact zUe aE_ rfl rfl|exact zUe aY_ rfl rfl|exact zUe bQ_ rfl rfl|exact zUe G_ rfl rfl|exact zUe aQ_ rfl rfl|exact zUe br_ rfl rfl|exact zUe dR_ rfl rfl|exact zUe ao_ rfl rfl|exact zUe dQ_ rfl rfl|exact zUe bv_ rfl rfl|exact zUe dp_ rfl rfl|exact zUe dq_ rfl rfl|exact zUe bg_ rfl rfl|exact zUe cE_ rfl rfl|exact zUe bs_ rfl rfl|exact zUe cU_ rfl rfl|exact zUe cV_ rfl rfl|exact zUe bX_ rfl rfl|exact zUe dr_ rfl rfl|exact zUe bB_ rfl rfl|exact zUe cq_ rfl rfl);exact rfl;exact rfl;exact zS rfl)|((with_reducible apply I_);(first|exact zUe ds_ rfl rfl|exact zUe cY_ rfl rfl|exact zUe x_ rfl rfl|exact zUe cD_ rfl rfl|exact zUe cZ_ rfl rfl|exact zUe cX_ rfl rfl|exact zUe ac_ rfl rfl|exact zUe ch_ rfl rfl|exact zUe D_ rfl rfl|exact zUe bw_ rfl rfl|exact zUe P_ rfl rfl|exact zUe aE_ rfl rfl|exact zUe aY_ rfl rfl|exact zUe bQ_ rfl rfl|exact zUe G_ rfl rfl|exact zUe aQ_ rfl rfl|exact zUe br_ rfl rfl|exact zUe dR_ rfl rfl|exact zUe ao_ rfl rfl|exact zUe dQ_ rfl rfl|exact zUe bv_ rfl rfl|exact zUe dp_ rfl rfl|exact zUe dq_ rfl rfl|exact zUe bg_ rfl rfl|exact zUe cE_ rfl rfl|exact zUe bs_ rfl rfl|exact zUe cU_ rfl rfl|exact zUe cV_ rfl rfl|exact zUe bX_ rfl rfl|exact zUe dr_ rfl rfl|exact zUe bB_ rfl rfl|exact zUe cq_ rfl rfl);exact rfl;exact rfl;exact rfl;exact zS rfl)|((with_reducible apply (ai_ 0));rotate_left;exact rfl;exact rfl;exact rfl;exact zA rfl)|((with_reducible apply (ai_ 1));rotate_left;exact rfl;exact rfl;exact rfl;exact zA rfl)|((with_reducible apply (ai_ 2));rotate_left;exact rfl;exact rfl;exact rfl;exact zA rfl)|((with_reducible apply (ai_ 3));rotate_left;exact rfl;exact rfl;exact rfl;exact zA rfl)|((with_reducible apply cN_);exact rfl;exact rfl)|((with_reducible apply cM_);exact rfl;exact rfl)|((with_reducible apply bc_);exact rfl;exact rfl;exact rfl;exact bW_ (by omega) (by omega))|((with_reducible apply cH_);exact rfl)|((with_reducible apply gV_);exact rfl;exact rfl)|((with_reducible apply cg_);(first|exact zUe ds_ rfl rfl|exact zUe cY_ rfl rfl|exact zUe x_ rfl rfl|exact zUe cD_ rfl rfl|exact zUe cZ_ rfl rfl|exact zUe cX_ rfl rfl|exact zUe ac_ rfl rfl|exact zUe ch_ rfl rfl|exact zUe D_ rfl rfl|exact zUe bw_ rfl rfl|exact zUe P_ rfl rfl|exact zUe aE_ rfl rfl|exact zUe aY_ rfl rfl|exact zUe bQ_ rfl rfl|exact zUe G_ rfl rfl|exact zUe aQ_ rfl rfl|exact zUe br_ rfl rfl|exact zUe dR_ rfl rfl|exact zUe ao_ rfl rfl|exact zUe dQ_ rfl rfl|exact zUe bv_ rfl rfl|exact zUe dp_ rfl rfl|exact zUe dq_ rfl rfl|exact zUe bg_ rfl rfl|exact zUe cE_ rfl rfl|exact zUe bs_ rfl rfl|exact zUe cU_ rfl rfl|exact zUe cV_ rfl rfl|exact zUe bX_ rfl rfl|exact zUe dr_ rfl rfl|exact zUe bB_ rfl rfl|exact zUe cq_ rfl rfl);exact rfl)|((with_reducible apply (ae_ 0));rotate_left;exact zS rfl;exact rfl;exact rfl;exact rfl;exact zA rfl)|((with_reducible apply (ae_ 1));rotate_left;exact zS rfl;exact rfl;exact rfl;exact rfl;exact zA rfl)|((with_reducible apply (ae_ 2));rotate_left;exact zS rfl;exact rfl;exact rfl;exact rfl;exact zA rfl)|((with_reducible apply (ae_ 3));rotate_left;exact zS rfl;exact rfl;exact rfl;exact rfl;exact zA rfl)|((with_reducible apply dL_);rotate_left;exact rfl;(intro v _ h;first|exact h.1|exact h.2.1|exact h.2.2.1|exact h.2.2.2.1|exact h.2.2.2.2.1|exact h.2.2.2.2.2.1|exact h.2.2.2.2.2.2.1|exact h.2.2.2.2.2.2.2.1|exact h.2.2.2.2.2.2.2.2.1|exact h.2.2.2.2.2.2.2.2.2.1|exact h.2.2.2.2.2.2.2.2.2.2.1|exact h.2.2.2.2.2.2.2.2.2.2.2.1);exact rfl;exact zA rfl)|((with_reducible apply ab_);(first|exact zUe ds_ rfl rfl|exact zUe cY_ rfl rfl|exact zUe x_ rfl rfl|exact zUe cD_ rfl rfl|exact zUe cZ_ rfl rfl|exact zUe cX_ rfl rfl|exact zUe ac_ rfl rfl|exact zUe ch_ rfl rfl|exact zUe D_ rfl rfl|exact zUe bw_ rfl rfl|exact zUe P_ rfl rfl|exact zUe aE_ rfl rfl|exact zUe aY_ rfl rfl|exact zUe bQ_ rfl rfl|exact zUe G_ rfl rfl|exact zUe aQ_ rfl rfl|exact zUe br_ rfl rfl|exact zUe dR_ rfl rfl|exact zUe ao_ rfl rfl|exact zUe dQ_ rfl rfl|exact zUe bv_ rfl rfl|exact zUe dp_ rfl rfl|exact zUe dq_ rfl rfl|exact zUe bg_ rfl rfl|exact zUe cE_ rfl rfl|exact zUe bs_ rfl rfl|exact zUe cU_ rfl rfl|exact zUe cV_ rfl rfl|exact zUe bX_ rfl rfl|exact zUe dr_ rfl rfl|exact zUe bB_ rfl rfl|exact zUe cq_ rfl rfl);exact zS rfl;exact rfl;exact rfl;(intro v _ h;first|exact O_ Pc.cells_len (by decide) h.1 (by assumption)|exact O_ Pc.cells_len (by decide) h.2.1 (by assumption)|exact O_ Pc.cells_len (by decide) h.2.2.1 (by assumption)|exact O_ Pc.cells_len (by decide) h.2.2.2.1 (by assumption)|exact O_ Pc.cells_len (by decide) h.2.2.2.2.1 (by assumption)|exact O_ Pc.cells_len (by decide) h.2.2.2.2.2.1 (by assumption)|exact O_ Pc.cells_len (by decide) h.2.2.2.2.2.2.1 (by assumption)|exact O_ Pc.cells_len (by decide) h.2.2.2.2.2.2.2.1 (by assumption)|exact O_ Fc.cells_len (by decide) h.1 (by assumption)|exact O_ Fc.cells_len (by decide) h.2.1 (by assumption)|exact O_ Fc.cells_len (by decide) h.2.2.1 (by assumption)|exact O_ Fc.cells_len (by decide) h.2.2.2.1 (by assumption)|exact O_ Fc.cells_len (by decide) h.2.2.2.2.1 (by assumption)|exact O_ Fc.cells_len (by decide) h.2.2.2.2.2.1 (by assumption)|exact O_ Fc.cells_len (by decide) h.2.2.2.2.2.2.1 (by assumption)|exact O_ Fc.cells_len (by decide) h.2.2.2.2.2.2.2.1 (by assumption)|exact O_ Stp.cells_len (by decide) h.1 (by assumption)|exact O_ Stp.cells_len (by decide) h.2.1 (by assumption)|exact O_ Stp.cells_len (by decide) h.2.2.1 (by assumption)|exact O_ Stp.cells_len (by decide) h.2.2.2.1 (by assumption)|exact O_ Stp.cells_len (by decide) h.2.2.2.2.1 (by assumption)|exact O_ Stp.cells_len (by decide) h.2.2.2.2.2.1 (by assumption)|exact O_ Stp.cells_len (by decide) h.2.2.2.2.2.2.1 (by assumption)|exact O_ Stp.cells_len (by decide) h.2.2.2.2.2.2.2.1 (by assumption)|exact O_ aK_ (by decide) h.1 (by assumption)|exact O_ aK_ (by decide) h.2.1 (by assumption)|exact O_ aK_ (by decide) h.2.2.1 (by assumption)|exact O_ aK_ (by decide) h.2.2.2.1 (by assumption)|exact O_ aK_ (by decide) h.2.2.2.2.1 (by assumption)|exact O_ aK_ (by decide) h.2.2.2.2.2.1 (by assumption)|exact O_ aK_ (by decide) h.2.2.2.2.2.2.1 (by assumption)|exact O_ aK_ (by decide) h.2.2.2.2.2.2.2.1 (by assumption)|exact O_ bK_ (by decide) h.1 (by assumption)|exact O_ bK_ (by decide) h.2.1 (by assumption)|exact O_ bK_ (by decide) h.2.2.1 (by assumption)|exact O_ bK_ (by decide) h.2.2.2.1 (by assumption)|exact O_ bK_ (by decide) h.2.2.2.2.1 (by assumption)|exact O_ bK_ (by decide) h.2.2.2.2.2.1 (by assumption)|exact O_ bK_ (by decide) h.2.2.2.2.2.2.1 (by assumption)|exact O_ bK_ (by decide) h.2.2.2.2.2.2.2.1 (by assumption));omega;(first|omega|(simp;done)))|((with_reducible apply bm_);rotate_left;exact rfl;(intro v _ h;first|exact h.1|exact h.2.1|exact h.2.2.1|exact h.2.2.2.1|exact h.2.2.2.2.1|exact h.2.2.2.2.2.1|exact h.2.2.2.2.2.2.1|exact h.2.2.2.2.2.2.2.1|exact h.2.2.2.2.2.2.2.2.1|exact h.2.2.2.2.2.2.2.2.2.1|exact h.2.2.2.2.2.2.2.2.2.2.1|exact h.2.2.2.2.2.2.2.2.2.2.2.1);(first|exact K_ Pc.cells_len (by assumption) 0 _ rfl|exact K_ Pc.cells_len (by assumption) _ _ rfl|exact K_ Fc.cells_len (by assumption) 0 _ rfl|exact K_ Fc.cells_len (by assumption) _ _ rfl|exact K_ Stp.cells_len (by assumption) 0 _ rfl|exact K_ Stp.cells_len (by assumption) _ _ rfl|exact K_ aK_ (by assumption) 0 _ rfl|exact K_ aK_ (by assumption) _ _ rfl|exact K_ bK_ (by assumption) 0 _ rfl|exact K_ bK_ (by assumption) _ _ rfl|exact K_ Stp.cells_len (by assumption) 2 _ rfl|exact K_ Stp.cells_len (by assumption) 3 _ rfl|exact K_ Stp.cells_len (by assumption) 4 _ rfl|exact K_ Stp.cells_len (by assumption) 5 _ rfl|exact K_ Stp.cells_len (by assumption) 6 _ rfl);exact zA rfl)|((with_reducible apply as_);rotate_left;exact zS rfl;exact rfl;(intro v _ h;first|exact h.1|exact h.2.1|exact h.2.2.1|exact h.2.2.2.1|exact h.2.2.2.2.1|exact h.2.2.2.2.2.1|exact h.2.2.2.2.2.2.1|exact h.2.2.2.2.2.2.2.1|exact h.2.2.2.2.2.2.2.2.1|exact h.2.2.2.2.2.2.2.2.2.1|exact h.2.2.2.2.2.2.2.2.2.2.1|exact h.2.2.2.2.2.2.2.2.2.2.2.1);rotate_left;(first|exact K_ Pc.cells_len (by assumption)|exact K_ Fc.cells_len (by assumption)|exact K_ Stp.cells_len (by assumption));exact zA rfl;(first|exact Pc.cells_len _|exact Fc.cells_len _|exact Stp.cells_len _))|((with_reducible apply (ai_ 4));rotate_left;exact rfl;exact rfl;exact rfl;exact zA rfl)|((with_reducible apply (ai_ 5));rotate_left;exact rfl;exact rfl;exact rfl;exact zA rfl)|((with_reducible apply (ai_ 6));rotate_left;exact rfl;exact rfl;exact rfl;exact zA rfl)|((with_reducible apply (ai_ 7));rotate_left;exact rfl;exact rfl;exact rfl;exact zA rfl)|((with_reducible apply (ae_ 4));rotate_left;exact zS rfl;exact rfl;exact rfl;exact rfl;exact zA rfl)|((with_reducible apply (ae_ 5));rotate_left;exact zS rfl;exact rfl;exact rfl;exact rfl;exact zA rfl)|((with_reducible apply (ae_ 6));rotate_left;exact zS rfl;exact rfl;exact rfl;exact rfl;exact zA rfl)|((with_reducible apply (ae_ 7));rotate_left;exact zS rfl;exact rfl;exact rfl;exact rfl;exact zA rfl)))))|(apply cn;intro h_;first|((with_reducible apply m_);exact h_)|((with_reducible apply g_);exact rfl;exact h_)|((with_reducible apply p_);exact h_)|((with_reducible apply f_);exact h_)|((with_reducible apply Y_);exact rfl;exact rfl;exact h_)|((with_reducible apply rA_);exact rfl;exact rfl;exact rfl;exact rfl;exact h_)|((with_reducible apply C_);exact rfl;exact h_)|((with_reducible apply R_);exact rfl;exact h_)|((with_reducible apply au_);exact h_)|((with_reducible apply bi_);exact h_)|((with_reducible apply aA_);exact h_)|((with_reducible apply aj_);exact rfl;exact h_)|((with_reducible apply sq_noG);exact rfl;exact rfl;exact rfl;exact rfl;exact rfl;exact h_)|((with_reducible apply bL_);kernel_rfl;exact h_)|((with_reducible apply ba_);exact h_)|((with_reducible apply dO_);exact rfl;exact h_)|((with_reducible apply hu_);kernel_rfl;exact h_)|((with_reducible apply du_);exact rfl;exact h_)|((with_reducible apply Z_);exact zs;exact h_)|((apply Y_);exact rfl;exact rfl;exact h_)|((apply rA_);exact rfl;exact rfl;exact rfl;exact rfl;exact h_)|((apply m_);exact h_))|(apply cn;intro h_;((apply d_);rotate_left;exact rfl;exact h_;rotate_right);(focus (first|((with_reducible apply H_);exact rfl)|((with_reducible apply u_);exact rfl)|((with_reducible apply ju_);rotate_left;exact rfl;rotate_right;(first|exact zUe ds_ rfl rfl|exact zUe cY_ rfl rfl|exact zUe x_ rfl rfl|exact zUe cD_ rfl rfl|exact zUe cZ_ rfl rfl|exact zUe cX_ rfl rfl|exact zUe ac_ rfl rfl|exact zUe ch_ rfl rfl|exact zUe D_ rfl rfl|exact zUe bw_ rfl rfl|exact zUe P_ rfl rfl|exact zUe aE_ rfl rfl|exact zUe aY_ rfl rfl|exact zUe bQ_ rfl rfl|exact zUe G_ rfl rfl|exact zUe aQ_ rfl rfl|exact zUe br_ rfl rfl|exact zUe dR_ rfl rfl|exact zUe ao_ rfl rfl|exact zUe dQ_ rfl rfl|exact zUe bv_ rfl rfl|exact zUe dp_ rfl rfl|exact zUe dq_ rfl rfl|exact zUe bg_ rfl rfl|exact zUe cE_ rfl rfl|exact zUe bs_ rfl rfl|exact zUe cU_ rfl rfl|exact zUe cV_ rfl rfl|exact zUe bX_ rfl rfl|exact zUe dr_ rfl rfl|exact zUe bB_ rfl rfl|exact zUe cq_ rfl rfl);exact rfl;exact rfl;exact zS rfl)|((with_reducible apply I_);(first|exact zUe ds_ rfl rfl|exact zUe cY_ rfl rfl|exact zUe x_ rfl rfl|exact zUe cD_ rfl rfl|exact zUe cZ_ rfl rfl|exact zUe cX_ rfl rfl|exact zUe ac_ rfl rfl|exact zUe ch_ rfl rfl|exact zUe D_ rfl rfl|exact zUe bw_ rfl rfl|exact zUe P_ rfl rfl|exact zUe aE_ rfl rfl|exact zUe aY_ rfl rfl|exact zUe bQ_ rfl rfl|exact zUe G_ rfl rfl|exact zUe aQ_ rfl rfl|exact zUe br_ rfl rfl|exact zUe dR_ rfl rfl|exact zUe ao_ rfl rfl|exact zUe dQ_ rfl rfl|exact zUe bv_ rfl rfl|exact zUe dp_ rfl rfl|exact zUe dq_ rfl rfl|exact zUe bg_ rfl rfl|exact zUe cE_ rfl rfl|exact zUe bs_ rfl rfl|exact zUe cU_ rfl rfl|exact zUe cV_ rfl rfl|exact zUe bX_ rfl rfl|exact zUe dr_ rfl rfl|exact zUe bB_ rfl rfl|exact zUe cq_ rfl rfl);exact rfl;exact rfl;exact rfl;exact zS rfl)|((with_reducible apply (ai_ 0));rotate_left;exact rfl;exact rfl;exact rfl;exact zA rfl)|((with_reducible apply (ai_ 1));rotate_left;exact rfl;exact rfl;exact rfl;exact zA rfl)|((with_reducible apply (ai_ 2));rotate_left;exact rfl;exact rfl;exact rfl;exact zA rfl)|((with_reducible apply (ai_ 3));rotate_left;exact rfl;exact rfl;exact rfl;exact zA rfl)|((with_reducible apply cN_);exact rfl;exact rfl)|((with_reducible apply cM_);exact rfl;exact rfl)|((with_reducible apply bc_);exact rfl;exact rfl;exact rfl;exact bW_ (by omega) (by omega))|((with_reducible apply cH_);exact rfl)|((with_reducible apply gV_);exact rfl;exact rfl)|((with_reducible apply cg_);(first|exact zUe ds_ rfl rfl|exact zUe cY_ rfl rfl|exact zUe x_ rfl rfl|exact zUe cD_ rfl rfl|exact zUe cZ_ rfl rfl|exact zUe cX_ rfl rfl|exact zUe ac_ rfl rfl|exact zUe ch_ rfl rfl|exact zUe D_ rfl rfl|exact zUe bw_ rfl rfl|exact zUe P_ rfl rfl|exact zUe aE_ rfl rfl|exact zUe aY_ rfl rfl|exact zUe bQ_ rfl rfl|exact zUe G_ rfl rfl|exact zUe aQ_ rfl rfl|exact zUe br_ rfl rfl|exact zUe dR_ rfl rfl|exact zUe ao_ rfl rfl|exact zUe dQ_ rfl rfl|exact zUe bv_ rfl rfl|exact zUe dp_ rfl rfl|exact zUe dq_ rfl rfl|exact zUe bg_ rfl rfl|exact zUe cE_ rfl rfl|exact zUe bs_ rfl rfl|exact zUe cU_ rfl rfl|exact zUe cV_ rfl rfl|exact zUe bX_ rfl rfl|exact zUe dr_ rfl rfl|exact zUe bB_ rfl rfl|exact zUe cq_ rfl rfl);exact rfl)|((with_reducible apply (ae_ 0));rotate_left;exact zS rfl;exact rfl;exact rfl;exact rfl;exact zA rfl)|((with_reducible apply (ae_ 1));rotate_left;exact zS rfl;exact rfl;exact rfl;exact rfl;exact zA rfl)|((with_reducible apply (ae_ 2));rotate_left;exact zS rfl;exact rfl;exact rfl;exact rfl;exact zA rfl)|((with_reducible apply (ae_ 3));rotate_left;exact zS rfl;exact rfl;exact rfl;exact rfl;exact zA rfl)|((with_reducible apply dL_);rotate_left;exact rfl;(intro v _ h;first|exact h.1|exact h.2.1|exact h.2.2.1|exact h.2.2.2.1|exact h.2.2.2.2.1|exact h.2.2.2.2.2.1|exact h.2.2.2.2.2.2.1|exact h.2.2.2.2.2.2.2.1|exact h.2.2.2.2.2.2.2.2.1|exact h.2.2.2.2.2.2.2.2.2.1|exact h.2.2.2.2.2.2.2.2.2.2.1|exact h.2.2.2.2.2.2.2.2.2.2.2.1);exact rfl;exact zA rfl)|((with_reducible apply ab_);(first|exact zUe ds_ rfl rfl|exact zUe cY_ rfl rfl|exact zUe x_ rfl rfl|exact zUe cD_ rfl rfl|exact zUe cZ_ rfl rfl|exact zUe cX_ rfl rfl|exact zUe ac_ rfl rfl|exact zUe ch_ rfl rfl|exact zUe D_ rfl rfl|exact zUe bw_ rfl rfl|exact zUe P_ rfl rfl|exact zUe aE_ rfl rfl|exact zUe aY_ rfl rfl|exact zUe bQ_ rfl rfl|exact zUe G_ rfl rfl|exact zUe aQ_ rfl rfl|exact zUe br_ rfl rfl|exact zUe dR_ rfl rfl|exact zUe ao_ rfl rfl|exact zUe dQ_ rfl rfl|exact zUe bv_ rfl rfl|exact zUe dp_ rfl rfl|exact zUe dq_ rfl rfl|exact zUe bg_ rfl rfl|exact zUe cE_ rfl rfl|exact zUe bs_ rfl rfl|exact zUe cU_ rfl rfl|exact zUe cV_ rfl rfl|exact zUe bX_ rfl rfl|exact zUe dr_ rfl rfl|exact zUe bB_ rfl rfl|exact zUe cq_ rfl rfl);exact zS rfl;exact rfl;exact rfl;(intro v _ h;first|exact O_ Pc.cells_len (by decide) h.1 (by assumption)|exact O_ Pc.cells_len (by decide) h.2.1 (by assumption)|exact O_ Pc.cells_len (by decide) h.2.2.1 (by assumption)|exact O_ Pc.cells_len (by decide) h.2.2.2.1 (by assumption)|exact O_ Pc.cells_len (by decide) h.2.2.2.2.1 (by assumption)|exact O_ Pc.cells_len (by decide) h.2.2.2.2.2.1 (by assumption)|exact O_ Pc.cells_len (by decide) h.2.2.2.2.2.2.1 (by assumption)|exact O_ Pc.cells_len (by decide) h.2.2.2.2.2.2.2.1 (by assumption)|exact O_ Fc.cells_len (by decide) h.1 (by assumption)|exact O_ Fc.cells_len (by decide) h.2.1 (by assumption)|exact O_ Fc.cells_len (by decide) h.2.2.1 (by assumption)|exact O_ Fc.cells_len (by decide) h.2.2.2.1 (by assumption)|exact O_ Fc.cells_len (by decide) h.2.2.2.2.1 (by assumption)|exact O_ Fc.cells_len (by decide) h.2.2.2.2.2.1 (by assumption)|exact O_ Fc.cells_len (by decide) h.2.2.2.2.2.2.1 (by assumption)|exact O_ Fc.cells_len (by decide) h.2.2.2.2.2.2.2.1 (by assumption)|exact O_ Stp.cells_len (by decide) h.1 (by assumption)|exact O_ Stp.cells_len (by decide) h.2.1 (by assumption)|exact O_ Stp.cells_len (by decide) h.2.2.1 (by assumption)|exact O_ Stp.cells_len (by decide) h.2.2.2.1 (by assumption)|exact O_ Stp.cells_len (by decide) h.2.2.2.2.1 (by assumption)|exact O_ Stp.cells_len (by decide) h.2.2.2.2.2.1 (by assumption)|exact O_ Stp.cells_len (by decide) h.2.2.2.2.2.2.1 (by assumption)|exact O_ Stp.cells_len (by decide) h.2.2.2.2.2.2.2.1 (by assumption)|exact O_ aK_ (by decide) h.1 (by assumption)|exact O_ aK_ (by decide) h.2.1 (by assumption)|exact O_ aK_ (by decide) h.2.2.1 (by assumption)|exact O_ aK_ (by decide) h.2.2.2.1 (by assumption)|exact O_ aK_ (by decide) h.2.2.2.2.1 (by assumption)|exact O_ aK_ (by decide) h.2.2.2.2.2.1 (by assumption)|exact O_ aK_ (by decide) h.2.2.2.2.2.2.1 (by assumption)|exact O_ aK_ (by decide) h.2.2.2.2.2.2.2.1 (by assumption)|exact O_ bK_ (by decide) h.1 (by assumption)|exact O_ bK_ (by decide) h.2.1 (by assumption)|exact O_ bK_ (by decide) h.2.2.1 (by assumption)|exact O_ bK_ (by decide) h.2.2.2.1 (by assumption)|exact O_ bK_ (by decide) h.2.2.2.2.1 (by assumption)|exact O_ bK_ (by decide) h.2.2.2.2.2.1 (by assumption)|exact O_ bK_ (by decide) h.2.2.2.2.2.2.1 (by assumption)|exact O_ bK_ (by decide) h.2.2.2.2.2.2.2.1 (by assumption));omega;(first|omega|(simp;done)))|((with_reducible apply bm_);rotate_left;exact rfl;(intro v _ h;first|exact h.1|exact h.2.1|exact h.2.2.1|exact h.2.2.2.1|exact h.2.2.2.2.1|exact h.2.2.2.2.2.1|exact h.2.2.2.2.2.2.1|exact h.2.2.2.2.2.2.2.1|exact h.2.2.2.2.2.2.2.2.1|exact h.2.2.2.2.2.2.2.2.2.1|exact h.2.2.2.2.2.2.2.2.2.2.1|exact h.2.2.2.2.2.2.2.2.2.2.2.1);(first|exact K_ Pc.cells_len (by assumption) 0 _ rfl|exact K_ Pc.cells_len (by assumption) _ _ rfl|exact K_ Fc.cells_len (by assumption) 0 _ rfl|exact K_ Fc.cells_len (by assumption) _ _ rfl|exact K_ Stp.cells_len (by assumption) 0 _ rfl|exact K_ Stp.cells_len (by assumption) _ _ rfl|exact K_ aK_ (by assumption) 0 _ rfl|exact K_ aK_ (by assumption) _ _ rfl|exact K_ bK_ (by assumption) 0 _ rfl|exact K_ bK_ (by assumption) _ _ rfl|exact K_ Stp.cells_len (by assumption) 2 _ rfl|exact K_ Stp.cells_len (by assumption) 3 _ rfl|exact K_ Stp.cells_len (by assumption) 4 _ rfl|exact K_ Stp.cells_len (by assumption) 5 _ rfl|exact K_ Stp.cells_len (by assumption) 6 _ rfl);exact zA rfl)|((with_reducible apply as_);rotate_left;exact zS rfl;exact rfl;(intro v _ h;first|exact h.1|exact h.2.1|exact h.2.2.1|exact h.2.2.2.1|exact h.2.2.2.2.1|exact h.2.2.2.2.2.1|exact h.2.2.2.2.2.2.1|exact h.2.2.2.2.2.2.2.1|exact h.2.2.2.2.2.2.2.2.1|exact h.2.2.2.2.2.2.2.2.2.1|exact h.2.2.2.2.2.2.2.2.2.2.1|exact h.2.2.2.2.2.2.2.2.2.2.2.1);rotate_left;(first|exact K_ Pc.cells_len (by assumption)|exact K_ Fc.cells_len (by assumption)|exact K_ Stp.cells_len (by assumption));exact zA rfl;(first|exact Pc.cells_len _|exact Fc.cells_len _|exact Stp.cells_len _))|((with_reducible apply (ai_ 4));rotate_left;exact rfl;exact rfl;exact rfl;exact zA rfl)|((with_reducible apply (ai_ 5));rotate_left;exact rfl;exact rfl;exact rfl;exact zA rfl)|((with_reducible apply (ai_ 6));rotate_left;exact rfl;exact rfl;exact rfl;exact zA rfl)|((with_reducible apply (ai_ 7));rotate_left;exact rfl;exact rfl;exact rfl;exact zA rfl)|((with_reducible apply (ae_ 4));rotate_left;exact zS rfl;exact rfl;exact rfl;exact rfl;exact zA rfl)|((with_reducible apply (ae_ 5));rotate_left;exact zS rfl;exact rfl;exact rfl;exact rfl;exact zA rfl)|((with_reducible apply (ae_ 6));rotate_left;exact zS rfl;exact rfl;exact rfl;exact rfl;exact zA rfl)|((with_reducible apply (ae_ 7));rotate_left;exact zS rfl;exact rfl;exact rfl;exact rfl;exact zA rfl)))))):Cn n B:=h ⟨k⟩
theorem Zi {p q A B C:Prop} (n:Nat) (k0:p→A) (k1:q→B) (h:Kw (p→A)→Kw (q→B)→Cn n C:=by intro k0_ k1_;refine Zy ?_;first|((with_reducible apply J_);(first|((with_reducible apply aM_);exact rfl;exact rfl)|((with_reducible apply ca_);exact rfl;exact rfl)|((with_reducible apply fT_);exact rfl;exact rfl)|((with_reducible apply ep_);exact rfl;exact rfl)|((with_reducible apply cy_);exact rfl;exact rfl)|((with_reducible apply hR_);exact rfl;exact rfl)|((with_reducible apply dI_);exact rfl;exact rfl)|((with_reducible apply jL_);exact rfl;exact rfl)|((with_reducible apply yld_slss);exact rfl;exact rfl));exact rfl;intro r_ h_;cases r_;(first|exact k0_.go (zdf h_)|exact k0_.go (znb h_)|exact k0_.go (zbe h_));(first|exact k1_.go (zdt h_)|exact k1_.go (zeb h_)|exact k1_.go (zbn h_)))|((with_reducible apply cC_);exact rfl;(first|((with_reducible apply aM_);exact rfl;exact rfl)|((with_reducible apply ca_);exact rfl;exact rfl)|((with_reducible apply fT_);exact rfl;exact rfl)|((with_reducible apply ep_);exact rfl;exact rfl)|((with_reducible apply cy_);exact rfl;exact rfl)|((with_reducible apply hR_);exact rfl;exact rfl)|((with_reducible apply dI_);exact rfl;exact rfl)|((with_reducible apply jL_);exact rfl;exact rfl)|((with_reducible apply yld_slss);exact rfl;exact rfl));exact rfl;intro r_ h_;cases r_;(first|exact k0_.go (zdf h_)|exact k0_.go (znb h_)|exact k0_.go (zbe h_));(first|exact k1_.go (zdt h_)|exact k1_.go (zeb h_)|exact k1_.go (zbn h_)))|((with_reducible apply aI_);exact rfl;exact rfl;exact rfl;(first|((with_reducible apply aM_);exact rfl;exact rfl)|((with_reducible apply ca_);exact rfl;exact rfl)|((with_reducible apply fT_);exact rfl;exact rfl)|((with_reducible apply ep_);exact rfl;exact rfl)|((with_reducible apply cy_);exact rfl;exact rfl)|((with_reducible apply hR_);exact rfl;exact rfl)|((with_reducible apply dI_);exact rfl;exact rfl)|((with_reducible apply jL_);exact rfl;exact rfl)|((with_reducible apply yld_slss);exact rfl;exact rfl));exact rfl;intro r_ h_;cases r_;(first|exact k0_.go (zdf h_)|exact k0_.go (znb h_)|exact k0_.go (zbe h_));(first|exact k1_.go (zdt h_)|exact k1_.go (zeb h_)|exact k1_.go (zbn h_)))):C:=(h ⟨k0⟩ ⟨k1⟩).go
theorem Zz {A B:Prop} (n:Nat) (k:A) (h:Kw A→Cn n B:=by intro k_;exact Zy k_.go):B:=(h ⟨k⟩).go
end Go.Proofs.YtaffcjgphlhppaaGreatDoor

namespace Go.Proofs.YtaffcjgphlhppaaGreatDoor
open Go Go.Sx Go.Proofs
attribute [local irreducible] Code.wp wpList wpAnyH
open Go.Vs
theorem mz_ (c:UInt8) :
    Fn0 Tryz.prog 206 #[.int .u8 (c.toNat:Int)] (.bool (fy_ c)):=by
  refine w_ Tryz.func206 rfl rfl Tryz.ntmps206 rfl fun v0=>?_;refine Zi 8 (fun hr1=>?_) fun hr1=>?_
  · skip
    refine Zi 8 (fun hr2=>?_) fun hr2=>?_
    · skip
      refine Zz 11 ?_;exact T_ rw_ () (l_ rfl (by subst_vars;rw[Bool.eq_iff_iff];simp[fy_]<;>omega)) (.refl _) zt
    · skip
      refine Zz 5 ?_;refine J_ (ep_ rfl rfl) rfl fun r3 hr3=>Zz 7 ?_
      exact T_ rw_ () (l_ rfl (by subst_vars;rw[Bool.eq_iff_iff];simp[fy_]<;>omega)) (.refl _) zt
  · skip
    refine Zi 4 (fun hr4=>?_) fun hr4=>?_
    · skip
      refine Zi 5 (fun hr5=>?_) fun hr5=>?_
      · skip
        refine Zz 11 ?_;exact T_ rw_ () (l_ rfl (by subst_vars;rw[Bool.eq_iff_iff];simp[fy_]<;>omega)) (.refl _) zt
      · skip
        refine Zz 5 ?_;refine J_ (ep_ rfl rfl) rfl fun r6 hr6=>Zz 7 ?_
        exact T_ rw_ () (l_ rfl (by subst_vars;rw[Bool.eq_iff_iff];simp[fy_]<;>omega)) (.refl _) zt
    · skip
      refine Zz 13 ?_;exact T_ rw_ () (l_ rfl (by subst_vars;rw[Bool.eq_iff_iff];simp[fy_]<;>omega)) (.refl _) zt
theorem pU_ (s:Str) (hs:s.length≤140737488351232) :
    Fn0 Tryz.prog 207 #[str s] (.bool (kY_ s)):=by
  refine w_ Tryz.func207 rfl rfl Tryz.ntmps207 rfl fun v0=>?_;refine Zz 9 ?_;refine vN_ V_ bg_ Tryz.runUnderlying5 rfl rfl fun cap b1 hcap=>Zz 5 ?_
  refine bR_ [(6,.slice (some ⟨b1,0,none⟩) s.length cap),(7,.int .i64 (s.length:Int)),(8,.int .i64 ((0:Nat):Int))] zl ?_;refine cb_ (ι:={k:Nat // k≤s.length∧(s.take k).all gh_=true}) (fun i=>[(6,.slice (some ⟨b1,0,none⟩) s.length cap),(7,.int .i64 (s.length:Int)),(8,.int .i64 (i.1:Int))]) (fun _=>_) (fun _=>_) (fun i=>s.length - i.1) ⟨0,by simp⟩ ?_;rintro ⟨k,hk⟩;refine bR_ [(6,.slice (some ⟨b1,0,none⟩) s.length cap),(7,.int .i64 (s.length:Int)),(8,.int .i64 (k:Int))] zl ?_;refine Zi 2 (fun hr1=>?_) fun hr1=>?_
  · skip
    refine Zz 12 ?_;exact T_ Tryz.results207 () (l_ rfl (by rw[kY_,of_ gh_ s k (by omega) hk.2])) (.refl _) zt
  · skip
    have hlt:k<s.length:=by omega
    obtain⟨c,hc⟩:∃ c,s[k]? = some c:=⟨_,List.getElem?_eq_getElem hlt⟩;refine Zz 10 ?_;refine d_ (hq_ bg_ iz_ rfl rfl (by omega) (by omega)) rfl (d_ (ai_ (u:=.int .u8 (c.toNat:Int)) 0 Tryz.isAgg5 rfl rfl (by rw[show 0+((k:Int)).toNat*1=k by omega];exact ue_ hc)) rfl ?_);refine Zz 6 ?_;refine ak_ (mz_ c) rfl (.refl _) zt rfl fun r2 hr2=>d_ (bn_ rfl) rfl (Zz 1 ?_)
    cases r2
    · skip
      refine Zi 3 (fun hr3=>?_) fun hr3=>?_
      · skip
        refine Zz 19 ?_;exact aa_ ⟨k+1,hlt,hf_ _ s k c hc hk.2 (by simp[gh_, *]<;>omega)⟩ (by simp;omega) zl (.refl _) zh
      · skip
        refine Zi 5 (fun hr4=>?_) fun hr4=>?_
        · skip
          refine Zi 5 (fun hr5=>?_) fun hr5=>?_
          · skip
            refine Zz 13 ?_;exact aa_ ⟨k+1,hlt,hf_ _ s k c hc hk.2 (by simp[gh_, *]<;>omega)⟩ (by simp;omega) zl (.refl _) zh
          · skip
            refine Zz 12 ?_;exact T_ Tryz.results207 () (l_ rfl (by rw[kY_,jT_ gh_ s k c hc (by simp[gh_, *]<;>omega)])) (.refl _) zt
        · skip
          refine Zz 16 ?_;exact T_ Tryz.results207 () (l_ rfl (by rw[kY_,jT_ gh_ s k c hc (by simp[gh_, *]<;>omega)])) (.refl _) zt
    · skip
      refine Zz 21 ?_;exact aa_ ⟨k+1,hlt,hf_ _ s k c hc hk.2 (by simp[gh_, *]<;>omega)⟩ (by simp;omega) zl (.refl _) zh
theorem sB_ (s:Str) :
    Fn0 Tryz.prog 208 #[str s] (.bool (bS_ s)):=by
  refine w_ Tryz.func208 rfl rfl Tryz.ntmps208 rfl fun v0=>?_;refine Zi 15 (fun hr1=>?_) fun hr1=>?_
  · skip
    refine Zi 6 (fun hr2=>?_) fun hr2=>?_
    · skip
      refine Zi 6 (fun hr3=>?_) fun hr3=>?_
      · skip
        refine Zi 6 (fun hr4=>?_) fun hr4=>?_
        · skip
          refine Zi 6 (fun hr5=>?_) fun hr5=>?_
          · skip
            refine Zi 6 (fun hr6=>?_) fun hr6=>?_
            · skip
              refine Zi 6 (fun hr7=>?_) fun hr7=>?_
              · skip
                refine Zi 6 (fun hr8=>?_) fun hr8=>?_
                · skip
                  refine Zi 6 (fun hr9=>?_) fun hr9=>?_
                  · skip
                    refine Zi 6 (fun hr10=>?_) fun hr10=>?_
                    · skip
                      refine Zi 6 (fun hr11=>?_) fun hr11=>?_
                      · skip
                        refine Zi 6 (fun hr12=>?_) fun hr12=>?_
                        · skip
                          refine Zi 6 (fun hr13=>?_) fun hr13=>?_
                          · skip
                            refine Zi 6 (fun hr14=>?_) fun hr14=>?_
                            · skip
                              refine Zi 6 (fun hr15=>?_) fun hr15=>?_
                              · skip
                                refine Zi 6 (fun hr16=>?_) fun hr16=>?_
                                · skip
                                  refine Zi 6 (fun hr17=>?_) fun hr17=>?_
                                  · skip
                                    refine Zi 6 (fun hr18=>?_) fun hr18=>?_
                                    · skip
                                      refine Zi 6 (fun hr19=>?_) fun hr19=>?_
                                      · skip
                                        refine Zi 6 (fun hr20=>?_) fun hr20=>?_
                                        · skip
                                          refine Zi 6 (fun hr21=>?_) fun hr21=>?_
                                          · skip
                                            refine Zi 5 (fun hr22=>?_) fun hr22=>?_
                                            · skip
                                              refine Zz 12 ?_;exact T_ bf_ () (l_ rfl (by simp[bS_,kws, *])) (.refl _) zt
                                            · skip
                                              refine Zz 10 ?_;exact T_ bf_ () (l_ rfl (by simp[bS_,kws, *])) (.refl _) zt
                                          · skip
                                            refine Zz 13 ?_;exact T_ bf_ () (l_ rfl (by simp[bS_,kws, *])) (.refl _) zt
                                        · skip
                                          refine Zz 13 ?_;exact T_ bf_ () (l_ rfl (by simp[bS_,kws, *])) (.refl _) zt
                                      · skip
                                        refine Zz 13 ?_;exact T_ bf_ () (l_ rfl (by simp[bS_,kws, *])) (.refl _) zt
                                    · skip
                                      refine Zz 13 ?_;exact T_ bf_ () (l_ rfl (by simp[bS_,kws, *])) (.refl _) zt
                                  · skip
                                    refine Zz 13 ?_;exact T_ bf_ () (l_ rfl (by simp[bS_,kws, *])) (.refl _) zt
                                · skip
                                  refine Zz 13 ?_;exact T_ bf_ () (l_ rfl (by simp[bS_,kws, *])) (.refl _) zt
                              · skip
                                refine Zz 13 ?_;exact T_ bf_ () (l_ rfl (by simp[bS_,kws, *])) (.refl _) zt
                            · skip
                              refine Zz 13 ?_;exact T_ bf_ () (l_ rfl (by simp[bS_,kws, *])) (.refl _) zt
                          · skip
                            refine Zz 13 ?_;exact T_ bf_ () (l_ rfl (by simp[bS_,kws, *])) (.refl _) zt
                        · skip
                          refine Zz 13 ?_;exact T_ bf_ () (l_ rfl (by simp[bS_,kws, *])) (.refl _) zt
                      · skip
                        refine Zz 13 ?_;exact T_ bf_ () (l_ rfl (by simp[bS_,kws, *])) (.refl _) zt
                    · skip
                      refine Zz 13 ?_;exact T_ bf_ () (l_ rfl (by simp[bS_,kws, *])) (.refl _) zt
                  · skip
                    refine Zz 13 ?_;exact T_ bf_ () (l_ rfl (by simp[bS_,kws, *])) (.refl _) zt
                · skip
                  refine Zz 13 ?_;exact T_ bf_ () (l_ rfl (by simp[bS_,kws, *])) (.refl _) zt
              · skip
                refine Zz 13 ?_;exact T_ bf_ () (l_ rfl (by simp[bS_,kws, *])) (.refl _) zt
            · skip
              refine Zz 13 ?_;exact T_ bf_ () (l_ rfl (by simp[bS_,kws, *])) (.refl _) zt
          · skip
            refine Zz 13 ?_;exact T_ bf_ () (l_ rfl (by simp[bS_,kws, *])) (.refl _) zt
        · skip
          refine Zz 13 ?_;exact T_ bf_ () (l_ rfl (by simp[bS_,kws, *])) (.refl _) zt
      · skip
        refine Zz 13 ?_;exact T_ bf_ () (l_ rfl (by simp[bS_,kws, *])) (.refl _) zt
    · skip
      refine Zz 13 ?_;exact T_ bf_ () (l_ rfl (by simp[bS_,kws, *])) (.refl _) zt
  · skip
    refine Zz 13 ?_;exact T_ bf_ () (l_ rfl (by simp[bS_,kws, *])) (.refl _) zt
end Go.Proofs.YtaffcjgphlhppaaGreatDoor
namespace Go.Proofs.YtaffcjgphlhppaaGreatDoor
open Go Go.Sx Go.Proofs
attribute [local irreducible] Code.wp wpList wpAnyH
open Go.Vs
theorem my_ (s:Str) (hs:s.length≤140737488351232) :
    Fn0 Tryz.prog 177 #[str s] (.bool (iw_ s)):=by
  refine w_ Tryz.func177 rfl rfl Tryz.ntmps177 rfl fun v0=>?_;refine Zi 8 (fun hr1=>?_) fun hr1=>?_
  · skip
    refine Zz 18 ?_;exact T_ Tryz.results177 () (l_ rfl (by simp[iw_, *])) (.refl _) zt
  · skip
    obtain⟨c,t,rfl⟩:=List.exists_cons_of_ne_nil hr1;refine Zz 4 ?_;refine d_ (cA_ V_ rfl rfl (by decide) rfl) rfl (Y_ rfl rfl (ak_ (mz_ _) rfl (.refl _) zt rfl fun r2 hr2=>Zz 2 ?_));cases r2
    · skip
      refine Zz 12 ?_;exact T_ Tryz.results177 () (l_ rfl (by simp[iw_, *])) (.refl _) zt
    · skip
      refine Zz 3 ?_;refine ak_ (pU_ _ (by assumption)) rfl (.refl _) zt rfl fun r3 hr3=>Zz 2 ?_
      cases r3
      · skip
        refine Zz 8 ?_;exact T_ Tryz.results177 () (l_ rfl (by simp[iw_, *])) (.refl _) zt
      · skip
        refine Zz 3 ?_;refine ak_ (sB_ _) rfl (.refl _) zt rfl fun r4 hr4=>Y_ rfl rfl (d_ (bn_ rfl) rfl (Zz 5 ?_))
        exact T_ Tryz.results177 () (l_ rfl (by simp[iw_, *])) (.refl _) zt
theorem ic_ (s:Str) (hs:s.length≤140737488351232) :
    Fn0 Tryz.prog 178 #[str s] (.bool (dw_ s)):=by
  refine w_ Tryz.func178 rfl rfl Tryz.ntmps178 rfl fun v0=>?_;refine Zz 8 ?_;refine d_ (cj_ V_ rfl) rfl ?_;refine Zi 0 (fun hr1=>?_) fun hr1=>?_
  · skip
    refine Zz 18 ?_;exact T_ Tryz.results178 () (l_ rfl (by subst_vars;rw[Bool.eq_iff_iff];simp[dw_]<;>simp at*<;> omega)) (.refl _) zt
  · skip
    refine Zz 4 ?_;refine d_ (cj_ V_ rfl) rfl (Y_ rfl rfl ?_);refine Zi 0 (fun hr2=>?_) fun hr2=>?_
    · skip
      refine Zz 14 ?_;exact T_ Tryz.results178 () (l_ rfl (by subst_vars;rw[Bool.eq_iff_iff];simp[dw_]<;>simp at*<;> omega)) (.refl _) zt
    · skip
      obtain⟨c,t,rfl⟩:=List.exists_cons_of_length_pos (l:=s) (by omega);refine Zz 5 ?_;refine d_ (cA_ V_ rfl rfl (by decide) rfl) rfl (Y_ rfl rfl ?_);refine Zi 0 (fun hr3=>?_) fun hr3=>?_
      · skip
        refine Zz 9 ?_;exact T_ Tryz.results178 () (l_ rfl (by subst_vars;rw[Bool.eq_iff_iff];simp[dw_]<;>simp at*<;> omega)) (.refl _) zt
      · skip
        refine Zz 5 ?_;refine ak_ (pU_ _ (by assumption)) rfl (.refl _) zt rfl fun r4 hr4=>Zz 5 ?_
        exact T_ Tryz.results178 () (l_ rfl (by subst_vars;rw[Bool.eq_iff_iff];simp[dw_]<;>simp at*<;> omega)) (.refl _) zt
theorem lf_ (s:Str) (c:UInt8):Fn0 Tryz.prog 241 #[str s,str [c]] (.int .i64 (Lib.indexByte s c)) :=
  ii_ (callable Tryz.func241 rfl rfl) fun w=>(Tryz.stringslite_Index_one ⟨s.toArray⟩ c w).mono (by rintro e w' ⟨rfl,rfl⟩;exact⟨rfl,rfl,rfl,rfl,rfl,Nat.le_refl _⟩)
theorem oz_ (s:Str) (c:UInt8) (hk:ixS c s=none):Fn0 Tryz.prog 241 #[str s,str [c]] (.int .i64 (-1)):=by
  have h:=lf_ s c;rw[lz_,hk]at h;exact h
theorem oy_ (s:Str) (c:UInt8) (k:Nat) (hk:ixS c s=some k):Fn0 Tryz.prog 241 #[str s,str [c]] (.int .i64 (k:Int)):=by
  have h:=lf_ s c;rw[lz_,hk]at h;exact h
theorem sO_ (s:Str) (c:UInt8) (hk:ixS c s=none) :
    Fn0 Tryz.prog 205 #[str s,str [c]] (.tuple #[str s,str [],.bool false]):=by
  refine w_ Tryz.func205 rfl rfl Tryz.ntmps205 rfl fun v0=>?_;refine Zz 12 ?_;refine n_ (oz_ s c hk) rfl (.refl _) zt rfl fun _=>Zi 6 (fun hr1=>?_) fun hr1=>?_
  · skip
    refine Zz 14 ?_;exact ka_ Tryz.results205 () rfl rfl rfl rfl (.refl _) zt
  · skip
    exact absurd hr1 (by decide)
theorem sN_ (s:Str) (c:UInt8) (k:Nat) (hk:ixS c s=some k) (hl:k<s.length) (hs:s.length≤140737488351232) :
    Fn0 Tryz.prog 205 #[str s,str [c]] (.tuple #[str (s.take k),str (s.drop (k+1)),.bool true]):=by
  refine w_ Tryz.func205 rfl rfl Tryz.ntmps205 rfl fun v0=>?_;refine Zz 12 ?_;refine n_ (oy_ s c k hk) rfl (.refl _) zt rfl fun _=>Zi 6 (fun hr1=>?_) fun hr1=>?_
  · skip
    exact absurd (by omega) hr1
  · skip
    refine Zz 5 ?_;refine o_ 0 [0,1,2,3,4,5,6,7,8,9,10,11] zk zs (Zz 2 ?_);refine B_ rfl (fH_ (i:=0) (j:=k) (kl:=.i64) V_ rfl rfl rfl (by omega) (by omega)) rfl (Zz 3 ?_);refine B_ rfl (cj_ V_ rfl) rfl ?_;refine B_ rfl (bc_ rfl rfl rfl (bW_ (by simp only[List.length_cons,List.length_nil];omega) (by simp only[List.length_cons,List.length_nil];omega))) rfl ?_;refine B_ rfl (fH_ (i:=k+1) (j:=s.length) (kh:=.i64) V_ rfl rfl rfl (by omega) (by omega)) rfl (Zz 7 ?_);exact ka_ Tryz.results205 () rfl rfl rfl (by simp[List.take_of_length_le]) (.refl _) zt
theorem uM_ (s:Str) (c:UInt8) (hk:ixS c s=none) :
    Fn0 Tryz.prog 176 #[str s,str [c]] (.tuple #[str s,str [],.bool false]):=by
  refine w_ Tryz.func176 rfl rfl Tryz.ntmps176 rfl fun v0=>?_;refine Zz 11 ?_;refine n_ (sO_ s c hk) rfl (.refl _) zt rfl fun _=>Zz 9 ?_
  exact ka_ Tryz.results176 () rfl rfl rfl rfl (.refl _) zt
theorem ow_ (s:Str) (hk:ixS 58 s=none) :
    Fn0 Tryz.prog 122 #[str s] (.bool (bM_ s)):=by
  refine w_ Tryz.func122 rfl rfl Tryz.ntmps122 rfl fun v0=>?_;refine Zz 9 ?_;refine d_ (cj_ V_ rfl) rfl ?_;refine Zi 0 (fun hr1=>?_) fun hr1=>?_
  · skip
    refine Zz 8 ?_;refine n_ (uM_ s 58 hk) rfl (.refl _) zt rfl fun _=>Zz 12 ?_
    refine ak_ (my_ _ (by first|omega|(simp;omega))) rfl (.refl _) zt rfl fun r2 hr2=>?_;refine Zz 1 ?_;cases r2
    · skip
      refine Zz 11 ?_;exact T_ kG_ () (l_ rfl (by simp[bM_, *]<;>omega)) (.refl _) zt
    · skip
      refine Zz 3 ?_;refine d_ (bn_ rfl) rfl (Zz 11 ?_);exact T_ kG_ () (l_ rfl (by simp[bM_, *]<;>omega)) (.refl _) zt
  · skip
    refine Zz 9 ?_;exact T_ kG_ () (l_ rfl (by simp[bM_, *]<;>omega)) (.refl _) zt
theorem uL_ (s:Str) (c:UInt8) (k:Nat) (hk:ixS c s=some k) (hl:k<s.length) (hs:s.length≤140737488351232) :
    Fn0 Tryz.prog 176 #[str s,str [c]] (.tuple #[str (s.take k),str (s.drop (k+1)),.bool true]):=by
  refine w_ Tryz.func176 rfl rfl Tryz.ntmps176 rfl fun v0=>?_;refine Zz 11 ?_;refine n_ (sN_ s c k hk hl hs) rfl (.refl _) zt rfl fun _=>Zz 9 ?_
  exact ka_ Tryz.results176 () rfl rfl rfl rfl (.refl _) zt
theorem ov_ (s:Str) (k:Nat) (hk:ixS 58 s=some k) (hl:k<s.length) :
    Fn0 Tryz.prog 122 #[str s] (.bool (bM_ s)):=by
  refine w_ Tryz.func122 rfl rfl Tryz.ntmps122 rfl fun v0=>?_;refine Zz 9 ?_;refine d_ (cj_ V_ rfl) rfl ?_;refine Zi 0 (fun hr1=>?_) fun hr1=>?_
  · skip
    refine Zz 8 ?_;refine n_ (uL_ s 58 k hk hl (by omega)) rfl (.refl _) zt rfl fun _=>Zz 12 ?_
    refine ak_ (my_ _ (by first|omega|(simp;omega))) rfl (.refl _) zt rfl fun r2 hr2=>?_;refine Zz 1 ?_;cases r2
    · skip
      refine Zz 11 ?_;exact T_ kG_ () (l_ rfl (by simp[bM_, *]<;>omega)) (.refl _) zt
    · skip
      refine Zz 3 ?_;refine d_ (bn_ rfl) rfl (Zz 5 ?_);refine ak_ (my_ _ (by first|omega|(simp;omega))) rfl (.refl _) zt rfl fun r3 hr3=>?_;refine Zz 7 ?_;exact T_ kG_ () (l_ rfl (by simp[bM_, *]<;>omega)) (.refl _) zt
  · skip
    refine Zz 9 ?_;exact T_ kG_ () (l_ rfl (by simp[bM_, *]<;>omega)) (.refl _) zt
theorem hz_ (s:Str):Fn0 Tryz.prog 122 #[str s] (.bool (bM_ s)):=by
  cases hk:ixS 58 s with
  | none=>exact ow_ s hk
  | some k=>exact ov_ s k hk (qR_ hk)
theorem he_ (s:Str) (hs:s.length≤140737488351232) :
    Fn0 Tryz.prog 123 #[str s] (.int .i64 (if bb_ s then 0 else 20)):=by
  refine w_ Tryz.func123 rfl rfl Tryz.ntmps123 rfl fun v0=>?_;refine Zz 9 ?_;refine ak_ (hz_ _) rfl (.refl _) zt rfl fun r1 hr1=>Zz 1 ?_
  cases r1
  · skip
    refine Zz 3 ?_;refine ak_ (ic_ _ hs) rfl (.refl _) zt rfl fun r2 hr2=>Zz 3 ?_
    cases r2
    · skip
      refine Zz 9 ?_;exact T_ Tryz.results123 () (aG_ rfl (by simp[bb_, *])) (.refl _) zt
    · skip
      refine Zz 7 ?_;exact T_ Tryz.results123 () (aG_ rfl (by simp[bb_, *])) (.refl _) zt
  · skip
    refine Zz 12 ?_;exact T_ Tryz.results123 () (aG_ rfl (by simp[bb_, *])) (.refl _) zt
theorem eU_ (s:Str) (hs:s.length≤140737488351232) :
    Fn0 Tryz.prog 85 #[str s] (.bool (bb_ s)):=by
  refine w_ Tryz.func85 rfl rfl Tryz.ntmps85 rfl fun v0=>?_;refine Zz 8 ?_;refine n_ (he_ s hs) rfl (.refl _) zt rfl fun _=>J_ (aM_ rfl rfl) rfl fun r1 hr1=>Zz 4 ?_
  exact T_ Tryz.results85 () (l_ rfl (by subst_vars;cases bb_ s<;>rfl)) (.refl _) zt
end Go.Proofs.YtaffcjgphlhppaaGreatDoor
namespace Go.Proofs.YtaffcjgphlhppaaGreatDoor
open Go Go.Sx Go.Proofs
attribute [local irreducible] Code.wp wpList wpAnyH
open Go.Vs
theorem fits_c:∀ (m:Nat) (c:Con),c.sz≤m→c.ok→∀ (d n bs:Nat),d≤9→n≤64→∀ r,c.fits d n=r →
    Tri Tryz.prog 124 #[c.val,.int .i64 (d:Int),zp_ bs 0] [(bs,.cells #[.int .i64 (n:Int)] 3 (0,0))] [c.memF] (fun _:Unit=>.bool r.1) (fun _=>[(bs,.cells #[.int .i64 (r.2:Int)] 3 (0,0))]) (fun _=>[]):=by
  intro m
  induction m with
  | zero=>intro c h;have:=c.sz_pos;omega
  | succ m ih =>
    intro c hm hok d n bs hd hn r hr;obtain⟨k,nm,lo,hi,ad,cap,ps⟩:=c;have hlen:=Con.ok_len hok;simp only[Con.parts,Con.cap]at hlen;refine w_ Tryz.func124 rfl rfl Tryz.ntmps124 rfl fun v0=>?_;refine p_ ?_;refine f_ ?_;refine ah_ rfl rfl fun b1=>?_;refine d_ (u_ rfl) rfl ?_;refine m_ ?_;refine g_ rfl ?_;refine p_ ?_;refine f_ ?_;refine d_ (H_ rfl) rfl ?_;refine d_ (cH_ rfl) rfl ?_;refine d_ (ai_ 1 aO_ rfl rfl rfl) rfl ?_;refine d_ (bc_ rfl rfl rfl (bW_ (by omega) (by omega))) rfl ?_;refine d_ (cH_ rfl) rfl ?_;refine z_ 1 aw_ rfl rfl rfl rfl rfl rfl ?_;refine m_ ?_;refine g_ rfl ?_;refine p_ ?_;refine p_ ?_;refine f_ ?_;refine d_ (H_ rfl) rfl ?_;refine J_ (dI_ rfl rfl) rfl fun r1 hr1=>?_;refine d_ (H_ rfl) rfl ?_;cases r1
    · skip
      replace hr1:=zdf hr1;try dsimp only[Con.kind,Con.parts,Con.name,Con.lo,Con.hi,Con.cap,Con.ad]at hr1
      refine Y_ rfl rfl ?_;refine d_ (H_ rfl) rfl ?_;refine Y_ rfl rfl ?_;refine d_ (cH_ rfl) rfl ?_;refine Y_ rfl rfl ?_;refine d_ (ai_ 1 aO_ rfl rfl rfl) rfl ?_;refine Y_ rfl rfl ?_;refine J_ (dI_ rfl rfl) rfl fun r2 hr2=>?_;refine d_ (cN_ rfl rfl) rfl ?_;refine m_ ?_;refine g_ rfl ?_;cases r2
      · skip
        replace hr2:=zdf hr2;try dsimp only[Con.kind,Con.parts,Con.name,Con.lo,Con.hi,Con.cap,Con.ad]at hr2
        have hc0:¬ (8<d∨64<n+1):=by omega
        refine R_ rfl ?_;refine au_ ?_;refine g_ rfl ?_;refine p_ ?_;refine p_ ?_;refine f_ ?_;refine d_ (I_ ac_ rfl rfl rfl cI_) rfl ?_;refine d_ (ai_ 0 dG_ rfl rfl rfl) rfl ?_;refine d_ (cg_ ao_ rfl) rfl ?_;refine d_ (H_ rfl) rfl ?_;refine m_ ?_;refine g_ rfl ?_;refine ba_ ?_;refine bR_ [(1,.int .i64 (d:Int)),(2,zp_ bs 0),(23,.slice ad ps.length cap),(24,.int .i64 (ps.length:Int)),(25,.int .i64 ((0:Nat):Int))] zl ?_;refine cb_ (ι:={q:Nat×Nat // q.1≤ps.length∧Con.fits.fitss (ps.take q.1) (d+1) (n+1)=(true,q.2)∧q.2≤64}) (fun i=>[(1,.int .i64 (d:Int)),(2,zp_ bs 0),(23,.slice ad ps.length cap),(24,.int .i64 (ps.length:Int)),(25,.int .i64 (i.1.1:Int))]) (fun i=>[_,(bs,.cells #[.int .i64 (i.1.2:Int)] 3 (0,0))]) (fun _=>_) (fun i=>ps.length - i.1.1) ⟨(0,n+1),by simp[Con.fits.fitss];omega⟩ ?_;rintro ⟨⟨i,m1⟩,hk⟩;refine bR_ [(1,.int .i64 (d:Int)),(2,zp_ bs 0),(23,.slice ad ps.length cap),(24,.int .i64 (ps.length:Int)),(25,.int .i64 (i:Int))] zl ?_;refine p_ ?_;refine f_ ?_;refine J_ (ca_ rfl rfl) rfl fun r3 hr3=>?_;refine m_ ?_;refine g_ rfl ?_;refine p_ ?_;cases r3
        · skip
          replace hr3:=zdf hr3;try dsimp only[Con.kind,Con.parts,Con.name,Con.lo,Con.hi,Con.cap,Con.ad]at hr3
          refine R_ rfl ?_;refine dO_ rfl ?_;refine g_ rfl ?_;refine p_ ?_;refine f_ ?_;refine d_ (u_ rfl) rfl ?_;refine m_ ?_;refine g_ rfl ?_;refine aA_ ?_;obtain rfl:r=(true,m1):=by rw[← hr];exact Con.fits_yes hc0 (by omega) hk.2.1
          exact T_ Tryz.results124 () rfl (gn_ (i:=1) rfl) zt
        · skip
          replace hr3:=zdt hr3;try dsimp only[Con.kind,Con.parts,Con.name,Con.lo,Con.hi,Con.cap,Con.ad]at hr3
          have hlt:i<ps.length:=by omega
          obtain⟨p,hp⟩:∃ p,ps[i]? = some p:=⟨_,List.getElem?_eq_getElem hlt⟩;have hpm:p∈ps:=List.mem_of_getElem? hp;refine C_ rfl ?_;refine au_ ?_;refine g_ rfl ?_;refine p_ ?_;refine ba_ ?_;refine p_ ?_;refine f_ ?_;refine d_ (ab_ ao_ q_ rfl rfl (fun v _ h=>Con.row_addr (c:=.mk k nm lo hi ad cap ps) h.1 hp) (by omega) (by omega)) rfl ?_;refine d_ (as_ (us:=p.cells) N_ q_ rfl (fun v _ h=>((Con.mem_iff (.mk k nm lo hi ad cap ps) v).1 h.1).1) p.cells_len (Con.part_cells (c:=.mk k nm lo hi ad cap ps) (i:=i) hp)) rfl ?_;refine E_ fn_ rfl fun b2=>?_;refine fM_ 0 q_ rfl rfl rfl rfl ?_;refine m_ ?_;refine g_ rfl ?_;refine p_ ?_;refine f_ ?_;refine d_ (dM_ 0 N_ q_ rfl rfl) rfl ?_;refine d_ (H_ rfl) rfl ?_;refine d_ (bc_ rfl rfl rfl (bW_ (by omega) (by omega))) rfl ?_;refine d_ (H_ rfl) rfl ?_;refine mm_ 2 (ih p (by have:=Con.sz_part (c:=.mk k nm lo hi ad cap ps) hpm;omega) (Con.ok_part (c:=.mk k nm lo hi ad cap ps) hok hpm) (d+1) m1 bs (by omega) hk.2.2 _ rfl) rfl rfl (fun v _ h=>⟨Con.mem_part (c:=.mk k nm lo hi ad cap ps) h.1 hpm,trivial⟩) rfl fun r4 hr4=>?_;refine d_ (bn_ rfl) rfl ?_;refine m_ ?_;refine g_ rfl ?_;cases r4
          · skip
            try dsimp only[Con.kind,Con.parts,Con.name,Con.lo,Con.hi,Con.cap,Con.ad]at hr4
            refine C_ rfl ?_;refine p_ ?_;refine f_ ?_;refine d_ (u_ rfl) rfl ?_;refine m_ ?_;refine g_ rfl ?_;refine aA_ ?_;obtain rfl:r=(false,(p.fits (d+1) m1).2):=by rw[← hr];exact Con.fits_no hc0 hp hk.2.1 (by assumption)
            exact T_ Tryz.results124 () rfl (gn_ (i:=2) rfl) zt
          · skip
            try dsimp only[Con.kind,Con.parts,Con.name,Con.lo,Con.hi,Con.cap,Con.ad]at hr4
            refine R_ rfl ?_;refine au_ ?_;refine g_ rfl ?_;refine f_ ?_;refine d_ (bc_ rfl rfl rfl (bW_ (by omega) (by omega))) rfl ?_;refine d_ (H_ rfl) rfl ?_;refine m_ ?_;refine aj_ rfl ?_;exact aa_ ⟨(i+1,(p.fits (d+1) m1).2),hlt,Con.fitss_step hp hk.2.1 (by assumption)⟩ (by simp;omega) zl (@List.perm_append_comm _ [_] _) zh
      · skip
        replace hr2:=zdt hr2;try dsimp only[Con.kind,Con.parts,Con.name,Con.lo,Con.hi,Con.cap,Con.ad]at hr2
        refine C_ rfl ?_;refine p_ ?_;refine f_ ?_;refine d_ (u_ rfl) rfl ?_;refine m_ ?_;refine g_ rfl ?_;refine aA_ ?_;obtain rfl:r=(false,n+1):=by rw[← hr,Con.fits_eq];simp<;>omega
        exact T_ Tryz.results124 () rfl (gn_ (i:=1) rfl) zt
    · skip
      replace hr1:=zdt hr1;try dsimp only[Con.kind,Con.parts,Con.name,Con.lo,Con.hi,Con.cap,Con.ad]at hr1
      refine bC_ rfl rfl rfl rfl ?_;refine bC_ rfl rfl rfl rfl ?_;refine bC_ rfl rfl rfl rfl ?_;refine bC_ rfl rfl rfl rfl ?_;refine d_ (cM_ rfl rfl) rfl ?_;refine m_ ?_;refine g_ rfl ?_;refine C_ rfl ?_;refine p_ ?_;refine f_ ?_;refine d_ (u_ rfl) rfl ?_;refine m_ ?_;refine g_ rfl ?_;refine aA_ ?_;obtain rfl:r=(false,n+1):=by rw[← hr,Con.fits_eq];simp<;>omega
      exact T_ Tryz.results124 () rfl (gn_ (i:=1) rfl) zt
end Go.Proofs.YtaffcjgphlhppaaGreatDoor
namespace Go.Proofs.YtaffcjgphlhppaaGreatDoor
open Go Go.Sx Go.Proofs
attribute [local irreducible] Code.wp wpList wpAnyH
open Go.Vs
def ry_ (v:Vw):Prop:=v.sl∧v.im 6∧∃ T fz,v.w.heap[6]? = some (.cells (Lib.pow10Tab.map fun z=>Value.int .u64 z).toArray T fz)
theorem qF_ {v v':Vw} (h:v.le v') (hp:ry_ v):ry_ v':=by
  obtain⟨h0,h1,T,fz,h2⟩:=hp;exact⟨by rw[h.sl];exact h0,h.imUp _ h1,T,fz,by rw[h.block _ h1];exact h2⟩
theorem so_ {v : Vw} (hp : ry_ v) : Lib.TabIs Tryz.prog v.w "internal/strconv.uint64pow10" .u64 Lib.pow10Tab := by
  obtain⟨_,h1,T,fz,h2⟩:=hp;have hg : Tryz.prog.globalNamed "internal/strconv.uint64pow10" = some 6 := by kernel_rfl
  simp only[Lib.TabIs,World.var?,hg,Option.bind_some,h2]
def dK_:Fct where
  p:=fun v=>bH_ v (some ⟨2,0,none⟩) (fg_.flatMap rC_)∧bH_ v (some ⟨0,0,none⟩) (ti_.flatMap Use.cells)∧bH_ v (some ⟨1,0,none⟩) (gN_.flatMap NUse.cells)∧ry_ v
  mono:=fun v v' h hp=>⟨(aC_ _ _).mono v v' h hp.1,(aC_ _ _).mono v v' h hp.2.1,(aC_ _ _).mono v v' h hp.2.2.1,qF_ h hp.2.2.2⟩
def iu_:Fct:=aC_ (some ⟨1,0,none⟩) (gN_.flatMap NUse.cells)
end Go.Proofs.YtaffcjgphlhppaaGreatDoor
