/-
  Lemmas for the law ModuleGoal (no condition).
-/
import Derived.Test.YtbffkokbdeppaaaGreatDoorQModuleGoal2
import Derived.Laws.OwnMore
import Derived.Shelf.Strings.Builder1
import Derived.Shelf.Strings.Builder2
import Derived.Shelf.Strings.OnBuilder
import Derived.Shelf.Small.Bits
import Derived.Shelf.Small.Strs
import Derived.Shelf.Small.Wraps
import Derived.Shelf.Utf8.RuneCount
import Derived.Shelf.Strconv.Itoa0
import Derived.Shelf.Strconv.Itoa1
import Derived.Shelf.LaysM
import Derived.Shelf.Strconv.Itoa2
import Derived.Shelf.Strconv.Itoa3
import Derived.Shelf.Strings.Search1
import Derived.Shelf.Strings.Search2
import Derived.Shelf.Strings.Search3
import Derived.Shelf.Strings.Cut
import Derived.Shelf.Strings.Count
import Derived.Shelf.Strings.Shaped
import Derived.Shelf.Sort.Plain
import Derived.Shelf.Strings.Prefix
import Derived.Shelf.Strings.Split
import Derived.Shelf.Strings.SplitShaped
import Derived.Shelf.Unicode.DecodeSlow
import Derived.Shelf.Slices.Reverse
import Derived.Shelf.Slices.CompactS
import Derived.Ground.Names2Prog
import Derived.Shelf.Slices.SearchI
import Derived.Shelf.Slices.Cells
import Derived.Shelf.Slices.In.SortNone
import Derived.Ground.SlgnProg
import Derived.Shelf.SlicesE.Clone
import Derived.Ground.SlsfProg
import Derived.Shelf.SlSortCmp.Insertion
import Derived.Shelf.SlSortCmp.SiftDown1
import Derived.Shelf.SlSortCmp.HeapSort1
import Derived.Shelf.SlSortCmp.Insertion1
import Derived.Shelf.SlSortCmp.Median1
import Derived.Shelf.SlSortCmp.Pivot1
import Derived.Shelf.SlSortCmp.ReverseRange1
import Derived.Shelf.SlSortCmp.PartialInsertion1
import Derived.Shelf.SlSortCmp.PartitionEqual1
import Derived.Shelf.SlSortCmp.Partition1
import Derived.Shelf.SlSortCmp.Pdq1
import Derived.Shelf.SlSortCmp.Whole1
import Derived.Shelf.SlSortCmp.NoneTotal
import Derived.Test.YtbffkokbdeppaaaGreatDoorProg
set_option linter.unusedVariables false
set_option linter.unusedSimpArgs false
set_option linter.unusedSectionVars false
set_option maxHeartbeats 1000000
namespace Go.Sx
open Go
section
variable {P:Program} {N:Nf} {v0:Vw} {H0:Hp} {R:Exit->Act->World->Prop} {K:List Kt} {fr:Fr} {H:Hp} {Γ:List Fct}
variable {ops:Array Oper} {l:List Oper} {d:Nat} {ty:TypeId} {ps:String} {af:Array Edge}
theorem bK_ {x y:Operand} {t e:TypeId} {sz by' n m c:Nat} {sv:Value} {xs news:List Value} {Hr F:Hp} {ad:Ao} (L:Elt P t e sz by') (k:at_ e sz sv n xs Hr)
    (S:Fr.ev fr x=some sv) (O:Fr.ev fr y=some (.slice ad m c)) (M:ad=none->c=0) (W:m<=c) (J:H.Perm (Hr++F)) (hl:news.length=m*sz) (A:∀ v,v.sat H->ag_ Γ v->bW_ v ad news) (I:∀ u∈news,u.oneCell'=true)
    (G:n+m<=maxLen) (V:(n+m)*by'<=140737488355328) (U:Nat.blt d N.n=true)
    (hk:∀ sv' Hr',at_ e sz sv' (n+m) (xs++news) Hr'->Ops P R N v0 H0 ops l K ((d,sv')::fr) (Hr'++F) Γ) :
    Ops P R N v0 H0 ops (⟨some d,.call ⟨.builtin .append,#[x,y],#[t,t]⟩,ty,ps,af,none⟩::l) K fr H Γ:=by
  cases ad with
  | none =>
    obtain rfl:=M rfl;obtain rfl:m=0:=by omega
    obtain rfl:news=[]:=yaw_ zak_;refine cQ_ rfl λa v B C Q E=>?_;obtain⟨i,z,hi,M,es,eb,ez⟩:=L.info;have g:=C.perm J;have X:=k.owns g;have Y:=run_append_owned_none (P:=P) (w:=v.w) 0 t ty e i sz L.und hi sv n xs X;unfold Oper.wp execOp;simp only[resolve,invoke,builtin,Sem.run_bind,Sem.run_pure,Result.andThen_ok,ybc_,yar_,ybf_,B.ev S,B.ev O,Y];have T:v.to H v (Hr++F):=(Vw.to.refl v (Hr++F)).permL J.symm;exact hk sv Hr zak_ _ v (B.put U) g (Q.trans T) E
  | some a0 =>
    refine aH_ L k S O J hl (λv C E j u hj=>?_) I G V U hk;rcases A v C E with h|⟨b,off,Z,T,fz,B,_,Q,h5⟩
    all_goals grind[ck_,World.cell?]
theorem xX_ {t e:TypeId} {sz:Nat} (h:∀ w,(underlying t).run P w=.ok (.slice e) w) (k:∀ w,(sizeOf e).run P w=.ok sz w) (m:Nat.blt d N.n=true)
    (hk:∀ b,Ops P R N v0 H0 ops l K ((d,.slice (some ⟨b,0,none⟩) 0 0)::fr) ((b,.cells #[] e (0,0))::H) Γ):Ops P R N v0 H0 ops (⟨some d,.buildSlice t 0 #[],ty,ps,af,none⟩::l) K fr H Γ :=
  hm_ (x:=λb=>.slice (some ⟨b,0,none⟩) 0 0) m (λa v B y A=>by
    simp only[execOp,Instr.buildSlice,Sem.run_bind,h,Result.andThen_ok,k,ybc_];rw[yag_ zaa_,yaq_ zaa_,Nat.zero_mul,show Array.range 0=#[] by simp];simp only[Sem.run_bind,Sem.run_pure,Result.andThen_ok,ybf_,ybc_,ycJ_,Instr.fill];rfl) hk
theorem bQ_ {k:Act->World->Prop} {e:TypeId} {sz n:Nat} {sv:Value} {xs:List Value} {Hr F:Hp} (m:at_ e sz sv n xs Hr) (v:H.Perm (Hr++F))
    (h:∀ ad cap,sv=.slice ad n cap->n<=cap->cap<=maxLen->(ad=none->cap=0)->Ok N v0 H0 k fr F (X_ ad xs::Γ)):Ok N v0 H0 k fr H Γ:=by
  refine dg_ m v λad cap x B y=>h ad cap x B y λC=>?_;rcases m.2 with⟨A,_,_⟩|⟨g,c,cur,A,_⟩
  all_goals grind
end
end Go.Sx
namespace Go.Sx
open Go
section
variable {P:Program} {N:Nf} {fr:Fr} {H:Hp} {Γ:List Fct} {ty:TypeId} {e:TypeId} {sz n:Nat} {sv:Value} {xs:List Value} {Hr F:Hp}
theorem ea_ {O:Hp}:List.Perm (O++[]) O:=by simp
theorem aJ_ {O Q:Hp}:List.Perm (Q++O) (O++Q):=yaE_
theorem E_ {O:Hp} {b:Nat×Obj}:List.Perm (b::O) (O++[b]):=by grind[List.perm_append_comm]
theorem wq_ {H:Hp}:List.Perm ([]++H) H:=.refl _
def svB:Value->Nat
  | .slice (some a) _ _=>a.block
  | _=>0
theorem cm_ {x:Operand} {t v:TypeId} (h:at_ e sz sv n xs Hr) (k:∀ w,(underlying t).run P w=.ok (.slice v) w) (m:Fr.ev fr x=some sv):Yld P N fr H Γ (.call ⟨.builtin .len,#[x],#[t]⟩) ty (.int .i64 (n:Int)):=by
 rcases h.2 with⟨rfl,rfl,_⟩|⟨g,cap,cur,rfl,_⟩
 .exact dS_ k m
 exact dS_ k m
theorem bH_ {x y:Operand} {t m:TypeId} {k:IntKind} {i:Int} (h:at_ e sz sv n xs Hr) (A:∀ w,(underlying t).run P w=.ok (.slice m) w) (C:∀ w,(sizeOf m).run P w=.ok sz w) (E:Fr.ev fr x=some sv) (v:Fr.ev fr y=some (.int k i)) (B:0<=i) (hl:i<n) :
    Yld P N fr H Γ (.indexAddr t x y) ty (.pointer (some ⟨svB sv,i.toNat*sz,none⟩)):=by
  rcases h.2 with⟨_,G,_⟩|⟨g,cap,cur,rfl,_⟩
  . omega
  . have:=ft_ (P:=P) (N:=N) (H:=H) (Γ:=Γ) (ty:=ty) A C E v B hl
    rw[ybP_]at this;exact this
theorem eq_ {x:Operand} {t:TypeId} {k m:Nat} {us:List Value} (h:at_ e sz sv n xs Hr) (B:H.Perm (Hr++F)) (J:∀ w,(isAgg t).run P w=.ok true w) (E:∀ w,(sizeOf t).run P w=.ok m w) (G:Fr.ev fr x=some (.pointer (some ⟨svB sv,k,none⟩)))
    (I:us.length=m) (L:0<m) (C:∀ j y,us[j]? = some y->xs[k+j]? = some y):Yld P N fr H Γ (.load t x) ty (.agg us.toArray):=by
  rcases h.2 with⟨_,A,_⟩|⟨g,cap,cur,rfl,rfl,M,T,V,Q⟩
  . subst A
    have U:=h.1;have:xs=[]:=yaw_ zak_;subst this;have:=C 0 us[0] (yaa_ zaa_)
    grind
  . refine gs_ G λv A _=>dT_ J E I λj y S=>?_
    have O:=((A.perm B).own _ (yax_ _ yao_)).1
    grind[svB,World.cell?]
end
end Go.Sx
namespace Go.Sx
open Go
section
variable {P:Program} {N:Nf} {fr:Fr} {H:Hp} {Γ:List Fct} {ty:TypeId} {e:TypeId} {sz n:Nat} {sv:Value} {xs:List Value} {Hr F:Hp}
theorem cS_ {x:Operand} {t:TypeId} {k:Nat} {u:Value} (h:at_ e sz sv n xs Hr) (y:H.Perm (Hr++F)) (B:∀ w,(isAgg t).run P w=.ok false w) (A:Fr.ev fr x=some (.pointer (some ⟨svB sv,k,none⟩)))
    (C:xs[k]? = some u):Yld P N fr H Γ (.load t x) ty u:=by
  rcases h.2 with⟨_,m,_⟩|⟨g,cap,cur,rfl,rfl,E,J,L,I⟩
  . subst m
    have:xs=[]:=yaw_ (by simpa using h.1)
    grind
  . refine gs_ A λv m _=>cc_ B ?_
    have G:=((m.perm y).own _ (yax_ _ yao_)).1
    grind[svB,World.cell?]
theorem fQ_ (h:at_ e sz sv n xs Hr):sv.cells=#[sv]/\sv.oneCell'=true:=by
  rcases h.2 with⟨rfl,_⟩|⟨g,cap,cur,rfl,_⟩<;>exact⟨rfl,rfl⟩
theorem bT_ {v0:Vw} {H0:Hp} {R:Exit->Act->World->Prop} {K:List Kt} {ops:Array Oper} {l:List Oper} {ps:String} {af:Array Edge} {t:TypeId} {x y:Operand} {b off:Nat} (i:Nat) {cur:Array Value} {T:TypeId} (h:at_ e sz sv n xs Hr) (v:∀ w,(sizeOf t).run P w=.ok 1 w)
    (A:Fr.ev fr x=some (.pointer (some ⟨b,off,none⟩))) (m:Fr.ev fr y=some sv) (hi:H[i]? = some (b,.cells cur T (0,0))) (k:Nat.ble (off+1) cur.size=true)
    (hk:Ops P R N v0 H0 ops l K fr (H.set i (b,.cells (cur.toList.take off++[sv]++cur.toList.drop (off+1)).toArray T (0,0))) Γ):Ops P R N v0 H0 ops (⟨none,.store t x y,ty,ps,af,none⟩::l) K fr H Γ :=
  by grind[p_,fQ_]
theorem oi_ {x y:Operand} {t h:TypeId} {m k:Int} (A:Fr.ev fr x=some (.int .i64 m)) (v:Fr.ev fr y=some (.int .i64 k)):Yld P N fr H Γ (.call ⟨.builtin .max,#[x,y],#[t,h]⟩) ty (.int .i64 (max m k)):=by
  have e:(if m<k then k else m)=max m k:=by grind
  grind[By_]
theorem kM_ {x y:Operand} {t h:TypeId} {m k:Int} (A:Fr.ev fr x=some (.int .i64 m)) (v:Fr.ev fr y=some (.int .i64 k)):Yld P N fr H Γ (.call ⟨.builtin .min,#[x,y],#[t,h]⟩) ty (.int .i64 (min m k)):=by
  have e:(if k<m then k else m)=min m k:=by grind
  grind[vU_]
theorem fz_ {b:Nat} {cs:List Value} {T:TypeId} {fz:Nat×Nat} (h:H.Perm ([(b,.cells cs.toArray T fz)]++F)):∀ v:Vw,v.sat H->ag_ Γ v->∀ j u,cs[j]? = some u->v.w.cell? ((⟨b,0,none⟩:Addr).add j)=some u:=by
  intro v x m j u k;exact bz_ (Γ:=Γ) 0 rfl v (x.perm h) m j u k
theorem om_ {t A:TypeId} {x y:Operand} {m n:Bool} (B:P.underlying t=some .bool) (C:Fr.ev fr x=some (.bool m)) (k:Fr.ev fr y=some (.bool n)):Yld P N fr H Γ (.binOp .eql t x y A) ty (.bool (m==n)) :=
  λa v h _ _ _ _ _=>by simp[execOp,h.ev C,h.ev k,eqGuard,binOp,run_equal_bool v.w t m n B]
theorem aF_ {α:Type} {f:α->List Value} (k:∀ x,(f x).all Value.oneCell'=true) {l:List α} {u:Value} (h:u∈l.flatMap f):u.oneCell'=true:=by
  grind
end
end Go.Sx
namespace Go.Vs
open Go Go.Sx
structure RevI (L M:List Int) (k:Nat):Prop where
  len:M.length=L.length
  k2:2*k<=L.length+1
  get:∀ i:Nat,i<L.length->M[i]? = if i<k\/L.length<=i+k then L[L.length - 1 - i]? else L[i]?
theorem RevI.zero (L:List Int):RevI L L 0:=⟨rfl,by omega,λi hi=>by grind⟩
theorem RevI.step {L M:List Int} {k:Nat} {a b:Int} (h:RevI L M k) (hk:(k:Int)<(L.length:Int) - 1 - (k:Int)) (x:M[L.length - 1 - k]? = some a) (y:M[k]? = some b):RevI L ((M.set k a).set (L.length - 1 - k) b) (k+1):=by
 have hl:=h.len;refine⟨by simp[hl],by omega,λi hi=>?_⟩;have d:=h.get (L.length - 1 - k) zaa_;have v:=h.get k zaa_;rw[yag_ zaa_]at d v;rw[yck_,yck_,ybp_]
 by_cases e:L.length - 1 - k=i
 .grind
 rw[yag_ e]
 by_cases m:k=i
 .grind
 rw[yag_ m,h.get i hi]
 grind
theorem RevI.done {L M:List Int} {k:Nat} (h:RevI L M k) (hk:¬ (k:Int)<(L.length:Int) - 1 - (k:Int)):M=L.reverse:=by
 apply yaS_
 intro i
 by_cases hi:i<L.length
 .rw[h.get i hi,List.getElem?_reverse hi]
  grind
 grind[len]
def fZ_ (a c:Str):Pc:=⟨1,a,[],c,[],[],[],0,0,0⟩
def bl_ (frm:Int):List Str->List Pc->List Pc
  | [],l=>l
  | a::r,l=>bl_ frm r (ins frm l (fZ_ a [42]))
theorem ev_ (frm:Int):∀ (r:List Str) (l:List Pc),(bl_ frm r l).length<=l.length+r.length
  | [],l=>by grind[bl_]
  | a::r,l=>by
    have d:=ev_ frm r (ins frm l (fZ_ a [42]))
    grind[cH_,bl_]
theorem le_ (frm:Int):∀ (xs ys:List Str) (l:List Pc),bl_ frm (xs++ys) l=bl_ frm ys (bl_ frm xs l)
  | [],_,_=>rfl
  | x::xs,ys,l=>by simp only[yaD_,bl_];exact le_ frm xs ys _
theorem vj_ (frm:Int) {xs:List Str} {a:Str} {i:Nat} (d:xs[i]? = some a) (l:List Pc):bl_ frm (xs.take (i+1)) l=ins frm (bl_ frm (xs.take i) l) (fZ_ a [42]):=by
  rw[yau_,d,ybL_,le_];rfl
def cZ_ (s:Str):Str:=[123]++s++[125]
def Ax.disj (x:Ax):Str:=[60]++x.left.operandN++[32,97,110,100,32]++x.right.operandN++[62]
def Ax.doms (x:Ax):Str:=[60,115,111,109,101,32]++x.role++[32,101,118,101,114,121,116,104,105,110,103,62]
def Ax.goalP (x:Ax):List Pc×List Fc×Int :=
  if x.check≠0 then ([],[],x.check)
  else if x.kind=1 then (x.right.leftP (-1) (x.left.rightP (-1) (bl_ (-1) [x.left.atom,x.right.atom] [])),[⟨1,x.left.atom,x.right.atom,[],0,0⟩],0)
  else if x.kind=2 then (x.left.leftP (-1) (x.right.rightP (-1) (x.right.leftP (-1) (x.left.rightP (-1) (bl_ (-1) [x.left.atom,x.right.atom] [])))),[⟨1,x.left.atom,x.right.atom,[],0,0⟩,⟨1,x.right.atom,x.left.atom,[],0,0⟩],0)
  else if x.kind=3 then (x.right.rightP (-1) (ins (-1) (x.left.rightP (-1) (ins (-1) (bl_ (-1) [x.disj,[33]] []) (fZ_ x.disj x.left.atom))) (fZ_ x.disj x.right.atom)),[⟨1,x.disj,[33],[],0,0⟩],0)
  else if x.kind=4 then (x.right.leftP (-1) (ins (-1) (bl_ (-1) [x.doms,x.right.atom] []) ⟨3,x.doms,[],[42],x.role,[],[],0,0,0⟩),[⟨1,x.doms,x.right.atom,[],0,0⟩],0)
  else if x.kind=8 then (x.right.leftP (-1) (bl_ (-1) [cZ_ x.a,x.right.atom] []),[⟨1,cZ_ x.a,x.right.atom,[],0,0⟩],0)
  else if x.kind=9 then (bl_ (-1) [cZ_ x.a,cZ_ x.b] [],[⟨2,cZ_ x.a,cZ_ x.b,x.role,0,0⟩],0)
  else ([],[],22)
theorem Con.operandN_len {c:Con} (d:c.ok):c.operandN.length<=6402:=by
  grind[textN_len,operandN]
end Go.Vs
namespace Go.Proofs
open Go.Shelf
def Tryz.lays156_ren:Go.Shelf.Ren:=⟨fun|156=>369|165=>387|166=>388|169=>389|240=>397|241=>398|276=>403|277=>404|n=>n,fun|31=>25|9=>9|3=>3|4=>4|0=>0|20=>20|72=>410|76=>413|70=>408|37=>355|75=>412|127=>420|164=>425|5=>5|80=>415|n=>n,fun|n=>n⟩
theorem Tryz.lays156:Go.Proofs.Lays.n156 Tryz.prog Tryz.lays156_ren:={
  mixed:=by kernel_rfl
  f156:=Tryz.func369.trans (yae_ some zad_)
  f165:=Tryz.func387.trans (yae_ some zad_)
  f166:=Tryz.func388.trans (yae_ some zad_)
  f169:=Tryz.func389.trans (yae_ some zad_)
  f240:=Tryz.func397.trans (yae_ some zad_)
  f241:=Tryz.func398.trans (yae_ some zad_)
  f276:=Tryz.func403.trans (yae_ some zad_)
  f277:=Tryz.func404.trans (yae_ some zad_)
  t0:=Tryz.underlying0
  a0:=Tryz.isAgg0
  z0:=Tryz.sizeOf0
  v0:=Tryz.zeroValue0
  t3:=Tryz.underlying3
  a3:=Tryz.isAgg3
  z3:=Tryz.sizeOf3
  v3:=Tryz.zeroValue3
  t4:=Tryz.underlying4
  a4:=Tryz.isAgg4
  z4:=Tryz.sizeOf4
  v4:=Tryz.zeroValue4
  t9:=Tryz.underlying9
  a9:=Tryz.isAgg9
  z9:=Tryz.sizeOf9
  v9:=Tryz.zeroValue9
  t20:=Tryz.underlying20
  a20:=Tryz.isAgg20
  z20:=Tryz.sizeOf20
  v20:=Tryz.zeroValue20
  t31:=Tryz.underlying25
  a31:=Tryz.isAgg25
  z31:=Tryz.sizeOf25
  v31:=Tryz.zeroValue25
  t37:=Tryz.underlying355
  a37:=Tryz.isAgg355
  z37:=Tryz.sizeOf355
  v37:=Tryz.zeroValue355
  t70:=Tryz.underlying408
  a70:=Tryz.isAgg408
  z70:=Tryz.sizeOf408
  v70:=Tryz.zeroValue408
  t72:=Tryz.underlying410
  a72:=Tryz.isAgg410
  z72:=Tryz.sizeOf410
  v72:=Tryz.zeroValue410
  t75:=Tryz.underlying412
  a75:=Tryz.isAgg412
  z75:=Tryz.sizeOf412
  v75:=Tryz.zeroValue412
  t76:=Tryz.underlying413
  a76:=Tryz.isAgg413
  z76:=Tryz.sizeOf413
  v76:=Tryz.zeroValue413
  t127:=Tryz.underlying420
  a127:=Tryz.isAgg420
  z127:=Tryz.sizeOf420
  v127:=Tryz.zeroValue420
  t164:=Tryz.underlying425
  a164:=Tryz.isAgg425
  z164:=Tryz.sizeOf425
  v164:=Tryz.zeroValue425 }
theorem Tryz.Builder_Extra_156:Builder.Extra Tryz.prog Tryz.lays156_ren:={
  sizeBuilder:=by kernel_rfl
  liesBuilder:=by kernel_rfl
  t5:=Tryz.underlying5
  a5:=Tryz.isAgg5
  z5:=Tryz.sizeOf5
  v5:=Tryz.zeroValue5
  infoByte:=by kernel_rfl
  cellsByte:=by kernel_rfl
  sizeByte:=by kernel_rfl
  neB5:=by decide }
open Go.RowKit in
theorem Tryz.strings_Join (bk o c:Nat) (xs:List ByteArray) (d:ByteArray) (w:World) (h:∀ (j:Nat) x,xs[j]? = some x->w.cell? ⟨bk,o+j,none⟩=some (.string x)) (v:bk<w.heap.size) (y:xs.length<=140737488355328) (k:xs.length<=c) (m:(Lib.join (xs.map (·.data.toList)) d.data.toList).length<=140737488355328) :
    Calls Tryz.prog 369 #[.slice (some ⟨bk,o,none⟩) xs.length c,.string d] w λe w'=>e=.returned (.string ⟨(Lib.join (xs.map (·.data.toList)) d.data.toList).toArray⟩)/\Below w.heap.size w w':=Any.strings_Join Tryz.lays156 Tryz.Builder_Extra_156 bk o c xs d w h v y k m
def Tryz.lays122_ren:Go.Shelf.Ren:=⟨fun|122=>125|215=>206|n=>n,fun|3=>3|4=>4|n=>n,fun|n=>n⟩
theorem Tryz.lays122:Go.Proofs.Lays.n122 Tryz.prog Tryz.lays122_ren:={
  mixed:=by kernel_rfl
  f122:=Tryz.func125.trans (yae_ some zad_)
  f215:=Tryz.func206.trans (yae_ some zad_)
  t3:=Tryz.underlying3
  a3:=Tryz.isAgg3
  z3:=Tryz.sizeOf3
  v3:=Tryz.zeroValue3
  t4:=Tryz.underlying4
  a4:=Tryz.isAgg4
  z4:=Tryz.sizeOf4
  v4:=Tryz.zeroValue4 }
open Go.RowKit in
theorem Tryz.cmp_Compare_int (x y:Int) (w:World) :
    Calls Tryz.prog 125 #[.int .i64 x,.int .i64 y] w λe w'=>e=.returned (.int .i64 (Lib.compareInt x y))/\w'=w:=Any.cmp_Compare_int Tryz.lays122 x y w
def Tryz.laysM171_ren:Go.Shelf.Ren:=⟨fun|171=>381|243=>394|246=>402|283=>406|284=>407|285=>408|286=>409|129=>268|317=>410|318=>411|319=>412|320=>413|337=>414|338=>415|n=>n,fun|3=>3|9=>9|2=>2|4=>4|171=>428|0=>0|53=>308|37=>355|5=>5|173=>430|212=>437|51=>306|20=>20|213=>438|46=>231|232=>439|233=>440|n=>n,fun|17=>6|18=>7|19=>8|n=>n⟩
theorem Tryz.laysM171:Go.Proofs.LaysM.n171 Tryz.prog Tryz.laysM171_ren:={
  mixed:=by kernel_rfl
  f129:=Tryz.func268.trans (yae_ some zad_)
  f171:=Tryz.func381.trans (yae_ some zad_)
  f243:=Tryz.func394.trans (yae_ some zad_)
  f246:=Tryz.func402.trans (yae_ some zad_)
  f283:=Tryz.func406.trans (yae_ some zad_)
  f284:=Tryz.func407.trans (yae_ some zad_)
  f285:=Tryz.func408.trans (yae_ some zad_)
  f286:=Tryz.func409.trans (yae_ some zad_)
  f317:=Tryz.func410.trans (yae_ some zad_)
  f318:=Tryz.func411.trans (yae_ some zad_)
  f319:=Tryz.func412.trans (yae_ some zad_)
  f320:=Tryz.func413.trans (yae_ some zad_)
  f337:=Tryz.func414.trans (yae_ some zad_)
  f338:=Tryz.func415.trans (yae_ some zad_)
  t0:=Tryz.underlying0
  a0:=Tryz.isAgg0
  z0:=Tryz.sizeOf0
  v0:=Tryz.zeroValue0
  t2:=Tryz.underlying2
  a2:=Tryz.isAgg2
  z2:=Tryz.sizeOf2
  v2:=Tryz.zeroValue2
  t3:=Tryz.underlying3
  a3:=Tryz.isAgg3
  z3:=Tryz.sizeOf3
  v3:=Tryz.zeroValue3
  t4:=Tryz.underlying4
  a4:=Tryz.isAgg4
  z4:=Tryz.sizeOf4
  v4:=Tryz.zeroValue4
  t5:=Tryz.underlying5
  a5:=Tryz.isAgg5
  z5:=Tryz.sizeOf5
  v5:=Tryz.zeroValue5
  t9:=Tryz.underlying9
  a9:=Tryz.isAgg9
  z9:=Tryz.sizeOf9
  v9:=Tryz.zeroValue9
  t20:=Tryz.underlying20
  a20:=Tryz.isAgg20
  z20:=Tryz.sizeOf20
  v20:=Tryz.zeroValue20
  t37:=Tryz.underlying355
  a37:=Tryz.isAgg355
  z37:=Tryz.sizeOf355
  v37:=Tryz.zeroValue355
  t46:=Tryz.underlying231
  a46:=Tryz.isAgg231
  z46:=Tryz.sizeOf231
  v46:=Tryz.zeroValue231
  t51:=Tryz.underlying306
  a51:=Tryz.isAgg306
  z51:=Tryz.sizeOf306
  v51:=Tryz.zeroValue306
  t53:=Tryz.underlying308
  a53:=Tryz.isAgg308
  z53:=Tryz.sizeOf308
  v53:=Tryz.zeroValue308
  t171:=Tryz.underlying428
  a171:=Tryz.isAgg428
  z171:=Tryz.sizeOf428
  v171:=Tryz.zeroValue428
  t173:=Tryz.underlying430
  a173:=Tryz.isAgg430
  z173:=Tryz.sizeOf430
  v173:=Tryz.zeroValue430
  t212:=Tryz.underlying437
  a212:=Tryz.isAgg437
  z212:=Tryz.sizeOf437
  v212:=Tryz.zeroValue437
  t213:=Tryz.underlying438
  a213:=Tryz.isAgg438
  z213:=Tryz.sizeOf438
  t232:=Tryz.underlying439
  a232:=Tryz.isAgg439
  z232:=Tryz.sizeOf439
  v232:=Tryz.zeroValue439
  t233:=Tryz.underlying440
  a233:=Tryz.isAgg440
  z233:=Tryz.sizeOf440
  v233:=Tryz.zeroValue440
  g17:=by kernel_rfl
  g18:=by kernel_rfl
  g19:=by kernel_rfl
  i0:=by kernel_rfl
  i2:=by kernel_rfl
  i3:=by kernel_rfl
  i4:=by kernel_rfl
  i5:=by kernel_rfl
  i9:=by kernel_rfl
  i20:=by kernel_rfl
  i37:=by kernel_rfl
  i46:=by kernel_rfl
  i51:=by kernel_rfl
  i53:=by kernel_rfl
  i171:=by kernel_rfl
  i173:=by kernel_rfl
  i212:=by kernel_rfl
  i232:=by kernel_rfl
  i233:=by kernel_rfl
  m17:=by kernel_rfl
  m18:=by kernel_rfl
  m19:=by kernel_rfl }
open Go.RowKit Go.Sort Go.Lib in
theorem Tryz.strconv_Itoa (n : Int) (m : -9223372036854775808<=n) (h : n<=9223372036854775807) (w : World) (d : Lib.TabIs Tryz.prog w "internal/strconv.uint64pow10" .u64 Lib.pow10Tab) :
    Calls Tryz.prog 381 #[.int .i64 n] w λe w'=>e=.returned (.string ⟨(Lib.itoa n).toArray⟩)/\∃ k os,w'=grow (w.drewN k) os:=Any.strconv_Itoa Tryz.laysM171 n m h w d
def Tryz.lays219_ren:Go.Shelf.Ren:=⟨fun|219=>365|217=>382|225=>383|224=>384|267=>385|266=>395|314=>396|n=>n,fun|9=>9|3=>3|4=>4|5=>5|46=>231|146=>418|51=>306|n=>n,fun|1=>2|n=>n⟩
theorem Tryz.lays219:Go.Proofs.Lays.n219 Tryz.prog Tryz.lays219_ren:={
  mixed:=by kernel_rfl
  f217:=Tryz.func382.trans (yae_ some zad_)
  f219:=Tryz.func365.trans (yae_ some zad_)
  f224:=Tryz.func384.trans (yae_ some zad_)
  f225:=Tryz.func383.trans (yae_ some zad_)
  f266:=Tryz.func395.trans (yae_ some zad_)
  f267:=Tryz.func385.trans (yae_ some zad_)
  f314:=Tryz.func396.trans (yae_ some zad_)
  t3:=Tryz.underlying3
  a3:=Tryz.isAgg3
  z3:=Tryz.sizeOf3
  v3:=Tryz.zeroValue3
  t4:=Tryz.underlying4
  a4:=Tryz.isAgg4
  z4:=Tryz.sizeOf4
  v4:=Tryz.zeroValue4
  t5:=Tryz.underlying5
  a5:=Tryz.isAgg5
  z5:=Tryz.sizeOf5
  v5:=Tryz.zeroValue5
  t9:=Tryz.underlying9
  a9:=Tryz.isAgg9
  z9:=Tryz.sizeOf9
  v9:=Tryz.zeroValue9
  t46:=Tryz.underlying231
  a46:=Tryz.isAgg231
  z46:=Tryz.sizeOf231
  v46:=Tryz.zeroValue231
  t51:=Tryz.underlying306
  a51:=Tryz.isAgg306
  z51:=Tryz.sizeOf306
  v51:=Tryz.zeroValue306
  t146:=Tryz.underlying418
  a146:=Tryz.isAgg418
  z146:=Tryz.sizeOf418
  v146:=Tryz.zeroValue418
  g1:=by kernel_rfl }
open Go.RowKit Go.Lib in
theorem Tryz.stringslite_Index_one (s:ByteArray) (c:UInt8) (w:World) :
    Calls Tryz.prog 365 #[.string s,.string ⟨#[c]⟩] w λe w'=>e=.returned (.int .i64 (Lib.indexByte s.data.toList c))/\w'=w:=Any.stringslite_Index_one Tryz.lays219 s c w
def Tryz.lays143_ren:Go.Shelf.Ren:=⟨fun|143=>392|219=>365|217=>382|225=>383|224=>384|267=>385|266=>395|314=>396|n=>n,fun|9=>9|3=>3|4=>4|5=>5|46=>231|146=>418|51=>306|n=>n,fun|1=>2|n=>n⟩
theorem Tryz.lays143:Go.Proofs.Lays.n143 Tryz.prog Tryz.lays143_ren:={
  mixed:=by kernel_rfl
  f143:=Tryz.func392.trans (yae_ some zad_)
  f217:=Tryz.func382.trans (yae_ some zad_)
  f219:=Tryz.func365.trans (yae_ some zad_)
  f224:=Tryz.func384.trans (yae_ some zad_)
  f225:=Tryz.func383.trans (yae_ some zad_)
  f266:=Tryz.func395.trans (yae_ some zad_)
  f267:=Tryz.func385.trans (yae_ some zad_)
  f314:=Tryz.func396.trans (yae_ some zad_)
  t3:=Tryz.underlying3
  a3:=Tryz.isAgg3
  z3:=Tryz.sizeOf3
  v3:=Tryz.zeroValue3
  t4:=Tryz.underlying4
  a4:=Tryz.isAgg4
  z4:=Tryz.sizeOf4
  v4:=Tryz.zeroValue4
  t5:=Tryz.underlying5
  a5:=Tryz.isAgg5
  z5:=Tryz.sizeOf5
  v5:=Tryz.zeroValue5
  t9:=Tryz.underlying9
  a9:=Tryz.isAgg9
  z9:=Tryz.sizeOf9
  v9:=Tryz.zeroValue9
  t46:=Tryz.underlying231
  a46:=Tryz.isAgg231
  z46:=Tryz.sizeOf231
  v46:=Tryz.zeroValue231
  t51:=Tryz.underlying306
  a51:=Tryz.isAgg306
  z51:=Tryz.sizeOf306
  v51:=Tryz.zeroValue306
  t146:=Tryz.underlying418
  a146:=Tryz.isAgg418
  z146:=Tryz.sizeOf418
  v146:=Tryz.zeroValue418
  g1:=by kernel_rfl }
open Go.RowKit Go.Lib in
theorem Tryz.strings_Index_one (s:ByteArray) (c:UInt8) (w:World) :
    Calls Tryz.prog 392 #[.string s,.string ⟨#[c]⟩] w λe w'=>e=.returned (.int .i64 (Lib.indexByte s.data.toList c))/\w'=w:=Any.strings_Index_one Tryz.lays143 s c w
def Tryz.lays138_ren:Go.Shelf.Ren:=⟨fun|138=>391|195=>399|218=>401|143=>392|219=>365|217=>382|225=>383|224=>384|267=>385|266=>395|314=>396|n=>n,fun|9=>9|3=>3|4=>4|5=>5|0=>0|46=>231|146=>418|51=>306|n=>n,fun|1=>2|n=>n⟩
theorem Tryz.lays138:Go.Proofs.Lays.n138 Tryz.prog Tryz.lays138_ren:={
  mixed:=by kernel_rfl
  f138:=Tryz.func391.trans (yae_ some zad_)
  f143:=Tryz.func392.trans (yae_ some zad_)
  f195:=Tryz.func399.trans (yae_ some zad_)
  f217:=Tryz.func382.trans (yae_ some zad_)
  f218:=Tryz.func401.trans (yae_ some zad_)
  f219:=Tryz.func365.trans (yae_ some zad_)
  f224:=Tryz.func384.trans (yae_ some zad_)
  f225:=Tryz.func383.trans (yae_ some zad_)
  f266:=Tryz.func395.trans (yae_ some zad_)
  f267:=Tryz.func385.trans (yae_ some zad_)
  f314:=Tryz.func396.trans (yae_ some zad_)
  t0:=Tryz.underlying0
  a0:=Tryz.isAgg0
  z0:=Tryz.sizeOf0
  v0:=Tryz.zeroValue0
  t3:=Tryz.underlying3
  a3:=Tryz.isAgg3
  z3:=Tryz.sizeOf3
  v3:=Tryz.zeroValue3
  t4:=Tryz.underlying4
  a4:=Tryz.isAgg4
  z4:=Tryz.sizeOf4
  v4:=Tryz.zeroValue4
  t5:=Tryz.underlying5
  a5:=Tryz.isAgg5
  z5:=Tryz.sizeOf5
  v5:=Tryz.zeroValue5
  t9:=Tryz.underlying9
  a9:=Tryz.isAgg9
  z9:=Tryz.sizeOf9
  v9:=Tryz.zeroValue9
  t46:=Tryz.underlying231
  a46:=Tryz.isAgg231
  z46:=Tryz.sizeOf231
  v46:=Tryz.zeroValue231
  t51:=Tryz.underlying306
  a51:=Tryz.isAgg306
  z51:=Tryz.sizeOf306
  v51:=Tryz.zeroValue306
  t146:=Tryz.underlying418
  a146:=Tryz.isAgg418
  z146:=Tryz.sizeOf418
  v146:=Tryz.zeroValue418
  g1:=by kernel_rfl }
open Go.RowKit Go.Lib in
theorem Tryz.strings_Count_one (s:ByteArray) (c:UInt8) (w:World) :
    Calls Tryz.prog 391 #[.string s,.string ⟨#[c]⟩] w λe w'=>e=.returned (.int .i64 (Lib.countByte s.data.toList c))/\w'=w:=Any.strings_Count_one Tryz.lays138 s c w
def Tryz.lays190_ren:Go.Shelf.Ren:=⟨fun|190=>94|125=>181|258=>180|128=>267|129=>268|302=>258|303=>259|304=>260|305=>261|306=>262|307=>263|308=>264|309=>265|310=>266|333=>308|329=>309|330=>310|334=>311|335=>312|336=>282|344=>364|n=>n,fun|31=>25|9=>9|3=>3|46=>231|0=>0|51=>306|53=>308|4=>4|183=>300|182=>299|131=>249|5=>5|218=>349|222=>237|228=>388|229=>389|n=>n,fun|n=>n⟩
theorem Tryz.lays190:Go.Proofs.Lays.n190 Tryz.prog Tryz.lays190_ren:={
  mixed:=by kernel_rfl
  f125:=Tryz.func181.trans (yae_ some zad_)
  f128:=Tryz.func267.trans (yae_ some zad_)
  f129:=Tryz.func268.trans (yae_ some zad_)
  f190:=Tryz.func94.trans (yae_ some zad_)
  f258:=Tryz.func180.trans (yae_ some zad_)
  f302:=Tryz.func258.trans (yae_ some zad_)
  f303:=Tryz.func259.trans (yae_ some zad_)
  f304:=Tryz.func260.trans (yae_ some zad_)
  f305:=Tryz.func261.trans (yae_ some zad_)
  f306:=Tryz.func262.trans (yae_ some zad_)
  f307:=Tryz.func263.trans (yae_ some zad_)
  f308:=Tryz.func264.trans (yae_ some zad_)
  f309:=Tryz.func265.trans (yae_ some zad_)
  f310:=Tryz.func266.trans (yae_ some zad_)
  f329:=Tryz.func309.trans (yae_ some zad_)
  f330:=Tryz.func310.trans (yae_ some zad_)
  f333:=Tryz.func308.trans (yae_ some zad_)
  f334:=Tryz.func311.trans (yae_ some zad_)
  f335:=Tryz.func312.trans (yae_ some zad_)
  f336:=Tryz.func282.trans (yae_ some zad_)
  f344:=Tryz.func364.trans (yae_ some zad_)
  t0:=Tryz.underlying0
  a0:=Tryz.isAgg0
  z0:=Tryz.sizeOf0
  v0:=Tryz.zeroValue0
  t3:=Tryz.underlying3
  a3:=Tryz.isAgg3
  z3:=Tryz.sizeOf3
  v3:=Tryz.zeroValue3
  t4:=Tryz.underlying4
  a4:=Tryz.isAgg4
  z4:=Tryz.sizeOf4
  v4:=Tryz.zeroValue4
  t5:=Tryz.underlying5
  a5:=Tryz.isAgg5
  z5:=Tryz.sizeOf5
  v5:=Tryz.zeroValue5
  t9:=Tryz.underlying9
  a9:=Tryz.isAgg9
  z9:=Tryz.sizeOf9
  v9:=Tryz.zeroValue9
  t31:=Tryz.underlying25
  a31:=Tryz.isAgg25
  z31:=Tryz.sizeOf25
  v31:=Tryz.zeroValue25
  t46:=Tryz.underlying231
  a46:=Tryz.isAgg231
  z46:=Tryz.sizeOf231
  v46:=Tryz.zeroValue231
  t51:=Tryz.underlying306
  a51:=Tryz.isAgg306
  z51:=Tryz.sizeOf306
  v51:=Tryz.zeroValue306
  t53:=Tryz.underlying308
  a53:=Tryz.isAgg308
  z53:=Tryz.sizeOf308
  v53:=Tryz.zeroValue308
  t131:=Tryz.underlying249
  a131:=Tryz.isAgg249
  z131:=Tryz.sizeOf249
  v131:=Tryz.zeroValue249
  t182:=Tryz.underlying299
  a182:=Tryz.isAgg299
  z182:=Tryz.sizeOf299
  v182:=Tryz.zeroValue299
  t183:=Tryz.underlying300
  a183:=Tryz.isAgg300
  z183:=Tryz.sizeOf300
  v183:=Tryz.zeroValue300
  t218:=Tryz.underlying349
  a218:=Tryz.isAgg349
  z218:=Tryz.sizeOf349
  v218:=Tryz.zeroValue349
  t222:=Tryz.underlying237
  a222:=Tryz.isAgg237
  z222:=Tryz.sizeOf237
  v222:=Tryz.zeroValue237
  t228:=Tryz.underlying388
  a228:=Tryz.isAgg388
  z228:=Tryz.sizeOf388
  v228:=Tryz.zeroValue388
  t229:=Tryz.underlying389
  a229:=Tryz.isAgg389
  z229:=Tryz.sizeOf389
  v229:=Tryz.zeroValue389 }
open Go.Sort Go.RowKit in
theorem Tryz.slices_Sort_string (d off cap:Nat) (ss:List (List UInt8)) (w:World) (m:Holds encStr w d off ss.toArray) (h:d<w.heap.size) (k:ss.length<4611686018427387904) :
    Calls Tryz.prog 94 #[.slice (some ⟨d,off,none⟩) ss.length cap] w λe w' =>
      e=.returned (.tuple #[])/\∃ n os,w'=grow (putRow encStr (Sort.ahead w n) d off (ss.mergeSort λx y=>decide (x<=y)).toArray) os:=Any.slices_Sort_string Tryz.lays190 d off cap ss w m h k
def Tryz.lays194_ren:Go.Shelf.Ren:=⟨fun|194=>95|n=>n,fun|31=>25|9=>9|3=>3|4=>4|0=>0|n=>n,fun|n=>n⟩
theorem Tryz.lays194:Go.Proofs.Lays.n194 Tryz.prog Tryz.lays194_ren:={
  mixed:=by kernel_rfl
  f194:=Tryz.func95.trans (yae_ some zad_)
  t0:=Tryz.underlying0
  a0:=Tryz.isAgg0
  z0:=Tryz.sizeOf0
  v0:=Tryz.zeroValue0
  t3:=Tryz.underlying3
  a3:=Tryz.isAgg3
  z3:=Tryz.sizeOf3
  v3:=Tryz.zeroValue3
  t4:=Tryz.underlying4
  a4:=Tryz.isAgg4
  z4:=Tryz.sizeOf4
  v4:=Tryz.zeroValue4
  t9:=Tryz.underlying9
  a9:=Tryz.isAgg9
  z9:=Tryz.sizeOf9
  v9:=Tryz.zeroValue9
  t31:=Tryz.underlying25
  a31:=Tryz.isAgg25
  z31:=Tryz.sizeOf25
  v31:=Tryz.zeroValue25 }
open Go.RowKit Go.Lib Go.Sort in
theorem Tryz.slices_Compact_string (d off cap:Nat) (h:List (List UInt8)) (w:World) (v:Holds encStr w d off h.toArray) (m:h.length<=9223372036854775807) (k:h.length<=cap) :
    Calls Tryz.prog 95 #[.slice (some ⟨d,off,none⟩) h.length cap] w λe w'=>e=.returned (.slice (some ⟨d,off,none⟩) (Lib.compact h).length cap)/\∃ q,w'=putRow encStr (Sort.ahead w q) d off (Lib.compact h++List.replicate (h.length - (Lib.compact h).length) []).toArray:=Any.slices_Compact_string Tryz.lays194 d off cap h w v m k
open Go.RowKit Go.Lib Go.Sort in
theorem Tryz.slices_Compact_string_empty (a:Ao) (cap:Nat) (w:World) :
    Calls Tryz.prog 95 #[.slice a 0 cap] w λe w'=>e=.returned (.slice a 0 cap)/\w'=w:=Any.slices_Compact_string_empty Tryz.lays194 a cap w
open Go.RowKit Go.Sort in
theorem Tryz.slices_Sort_string_none (p:Ao) (cap:Nat) (w:World) :
    Calls Tryz.prog 94 #[.slice p 0 cap] w λe w'=>e=.returned (.tuple #[])/\w'=w:=Any.slices_Sort_string_none Tryz.lays190 p cap w
end Go.Proofs
namespace Go.Proofs
open Go.Shelf
def Tryz.lays106_ren:Go.Shelf.Ren:=⟨fun|106=>128|213=>209|265=>283|n=>n,fun|9=>9|3=>3|n=>n,fun|n=>n⟩
theorem Tryz.lays106:Go.Proofs.Lays.n106 Tryz.prog Tryz.lays106_ren:={
  mixed:=by kernel_rfl
  f106:=Tryz.func128.trans (yae_ some zad_)
  f213:=Tryz.func209.trans (yae_ some zad_)
  f265:=Tryz.func283.trans (yae_ some zad_)
  t3:=Tryz.underlying3
  a3:=Tryz.isAgg3
  z3:=Tryz.sizeOf3
  v3:=Tryz.zeroValue3
  t9:=Tryz.underlying9
  a9:=Tryz.isAgg9
  z9:=Tryz.sizeOf9
  v9:=Tryz.zeroValue9 }
open Go.RowKit in
theorem Tryz.strings_Compare (a b:ByteArray) (w:World) :
    Calls Tryz.prog 128 #[.string a,.string b] w λe w'=>e=.returned (.int .i64 (Lib.compareBytes a.data.toList b.data.toList))/\w'=w:=Any.strings_Compare Tryz.lays106 a b w
end Go.Proofs
namespace Go.Sx
open Go
structure Cn (n:Nat) (G:Prop):Prop where
  go:G
structure Kw (A:Prop):Prop where
  go:A
theorem cn {n:Nat} {G G1:Prop} (k:G1->G) (h:Cn n G1):Cn (n+1) G:=⟨k h.go⟩
theorem cn0 {G:Prop} (h:G):Cn 0 G:=⟨h⟩
def noG (x:Value) (want:Bool):Bool:=match x with|.bool b=>Bool.xor b want|_=>true
section
variable {P:Program} {N:Nf} {v0:Vw} {H0:Hp} {R:Exit->Act->World->Prop} {K:List Kt} {fr:Fr} {H:Hp} {Γ:List Fct} {ops:Array Oper} {l:List Oper} {d:Nat} {ty:TypeId} {ps:String} {af:Array Edge} {Hs:Hp} {Γs:List Fct} {fuel:Nat} {listed:Array Bool}
theorem wu_ {op:Op} {j t:Nat} {want:Bool} {x:Value} (hj:hQ_ ops j=some t) (hx:Fr.get fr t=some x) (hne:noG x want=true) (hN:Nat.blt d N.n=true)
    (h:Ops P R N v0 H0 ops l K ((d,undef)::fr) H Γ):Ops P R N v0 H0 ops (⟨some d,op,ty,ps,af,some (j,want)⟩::l) K fr H Γ:=gN_ hj hx (by cases x<;>first|rfl|exact hne) hN h
theorem sq_noG [NoPan R] {i:Nat} {is:List Nat} {op:Op} {x:Value} {j t:Nat} {want:Bool} (hi:ops[i]? = some ⟨some d,op,ty,ps,af,some (j,want)⟩) (hj:hQ_ ops j=some t) (hx:Fr.get fr t=some x) (hne:noG x want=true) (hN:Nat.blt d N.n=true)
    (h:Sq P R N v0 H0 ops Hs Γs is fuel (listed.setIfInBounds i true) K ((d,undef)::fr) H Γ):Sq P R N v0 H0 ops Hs Γs (i::is) fuel listed K fr H Γ:=sq_no hi hj hx (by cases x<;>first|rfl|exact hne) hN h
end
end Go.Sx

namespace Go.Proofs.YtbffkokbdeppaaaGreatDoor
open Go Go.Sx Tryz
theorem zdf {p:Prop} [Decidable p] (h:decide p=false):¬p:=yct_ h
theorem zdt {p:Prop} [Decidable p] (h:decide p=true):p:=yaY_ h
theorem znb {α:Type} [BEq α] [LawfulBEq α] {a b:α} (h:(a==b)=false):a≠b:=by simpa using h
theorem zeb {α:Type} [BEq α] [LawfulBEq α] {a b:α} (h:(a==b)=true):a=b:=eq_of_beq h
theorem zbe {α:Type} [BEq α] [LawfulBEq α] {a b:α} (h:(a != b)=false):a=b:=by simpa using h
theorem zk {G:Prop} (h:G:=by kernel_rfl):G:=h
theorem zh {P Q:Vw->Prop}:∀ v,P v->Q v->Q v:=λ_ _ h=>h
theorem zt {P Q:Vw->Prop}:∀ v,P v->Q v->ag_ [] v:=λ_ _ _=>trivial
section
variable {H r r' d O:Hp} {b c:Nat×Obj}
theorem zpn (h:H.Perm r):([]++H).Perm r:=h
end
abbrev zR {α:Type} (e k:Nat) (f:α->List Value) (sv:Value) (X:List α) (H:Hp):Prop:=at_ e k sv X.length (X.flatMap f) H
theorem zsw {α β:Type} {e k:Nat} {f:β->List Value} {sv:Value} {A:List β} {H:Hp} (g:α->List β) (p:List α) (h:at_ e k sv A.length (A.flatMap f) H):zR e k f sv (A++List.flatMap g (p.take 0)) H:=by
  unfold zR;simpa only[ybH_,List.flatMap_nil,yas_] using h
theorem zsa {β:Type} {e k m:Nat} {f:β->List Value} {sv:Value} {A B:List β} {H:Hp} (h:at_ e k sv (A.length+m) (A.flatMap f++B.flatMap f) H) (hm:B.length=m:=by first|rfl|simp):zR e k f sv (A++B) H:=by
  subst hm;unfold zR;rw[yaj_,ybu_];exact h
theorem zge {α:Type} {l:List α} {i:Nat} (h:i<l.length):i<l.length/\∃ x,l[i]? = some x/\x∈l:=⟨h,_,yaa_ h,ycQ_ h⟩
theorem ci_ {α:Type} {f:α->List Value} {v:Vw} {ad:Ao} {l:List α} {i:Nat} {x:α} (h:bW_ v ad (l.flatMap f)) (hx:l[i]? = some x) (hf:∀ x,(f x).length≠0):∃ b off,ad=some ⟨b,off,none⟩ :=
  h.addr λe=>by
    rw[List.flatMap_eq_nil_iff]at e;exact hf x (by rw[e x (yab_ hx)];rfl)
theorem zbn {α:Type} [BEq α] [LawfulBEq α] {a b:α} (h:(a != b)=true):a≠b:=by simpa using h
theorem zp {G:Prop} (h:G:=by (repeat (first|(with_reducible first|exact i_|exact e_|exact s_|exact E_|exact aJ_|exact Z_)|exact e_|(with_reducible first|apply zpn|(apply l_;rotate_left;(fail_if_success (with_reducible apply i_));rotate_right)|apply x_|apply c_|apply g_)|exact s_|exact Z_))):G:=h
theorem zf {G:Prop} (h:G:=by intro v_ a_ b_;repeat (first|exact trivial|(with_reducible first|exact b_.1|exact b_.2.1|exact b_.2.2.1|exact b_.2.2.2.1|exact b_.2.2.2.2.1|exact b_.2.2.2.2.2.1|exact b_.2.2.2.2.2.2.1|exact b_.2.2.2.2.2.2.2.1|exact b_.2.2.2.2.2.2.2.2.1|exact b_.2.2.2.2.2.2.2.2.2.1|exact b_.2.2.2.2.2.2.2.2.2.2.1|exact b_.2.2.2.2.2.2.2.2.2.2.2.1|exact b_|exact b_.2|exact b_.2.2|exact b_.2.2.2|exact b_.2.2.2.2|exact b_.2.2.2.2.2|exact b_.2.2.2.2.2.2|exact b_.2.2.2.2.2.2.2|exact b_.2.2.2.2.2.2.2.2|exact b_.2.2.2.2.2.2.2.2.2|exact b_.2.2.2.2.2.2.2.2.2.2|exact b_.2.2.2.2.2.2.2.2.2.2.2)|(first|exact b_.1|exact b_.2.1|exact b_.2.2.1|exact b_.2.2.2.1|exact b_.2.2.2.2.1|exact b_.2.2.2.2.2.1|exact b_.2.2.2.2.2.2.1|exact b_.2.2.2.2.2.2.2.1|exact b_.2.2.2.2.2.2.2.2.1|exact b_.2.2.2.2.2.2.2.2.2.1|exact b_.2.2.2.2.2.2.2.2.2.2.1|exact b_.2.2.2.2.2.2.2.2.2.2.2.1|exact b_|exact b_.2|exact b_.2.2|exact b_.2.2.2|exact b_.2.2.2.2|exact b_.2.2.2.2.2|exact b_.2.2.2.2.2.2|exact b_.2.2.2.2.2.2.2|exact b_.2.2.2.2.2.2.2.2|exact b_.2.2.2.2.2.2.2.2.2|exact b_.2.2.2.2.2.2.2.2.2.2|exact b_.2.2.2.2.2.2.2.2.2.2.2)|refine⟨?_,?_⟩)):G:=h
theorem zs {G:Prop} (h:G:=by intro v_ a_ b_;refine⟨?_,?_⟩;(first|exact a_|exact satNil a_|exact a_.tail|exact a_.tail.tail|exact a_.tail.tail.tail|exact a_.tail.tail.tail.tail|((apply Vw.sat.sub;apply a_.perm);(repeat (first|(with_reducible first|exact i_|exact e_|exact s_|exact E_|exact aJ_|exact Z_)|exact e_|(with_reducible first|apply zpn|(apply l_;rotate_left;(fail_if_success (with_reducible apply i_));rotate_right)|apply x_|apply c_|apply g_)|exact s_|exact Z_))));(first|exact b_|exact b_.2|exact b_.2.2|exact b_.2.2.2|exact b_.2.2.2.2|exact b_.2.2.2.2.2|exact b_.2.2.2.2.2.2|exact b_.2.2.2.2.2.2.2|exact b_.2.2.2.2.2.2.2.2|exact b_.2.2.2.2.2.2.2.2.2|exact b_.2.2.2.2.2.2.2.2.2.2|exact b_.2.2.2.2.2.2.2.2.2.2.2)):G:=h
theorem zl {G:Prop} (h:G:=by repeat (first|exact trivial|refine⟨rfl,?_⟩)):G:=h
def lkN {α:Type}:List (Nat×α)->Nat->Option α
  | [],_=>none
  | (k,v)::l,n=>bif Nat.beq k n then some v else lkN l n
theorem rI_ {α:Type} {n:Nat} {v:α}:∀ {l:List (Nat×α)},lkN l n=some v->(n,v)∈l
  | (k,u)::l,h=>by
    simp only[lkN]at h;cases hb:Nat.beq k n with
    | true=>rw[hb,cond_true]at h;cases h;rw[ybJ_ hb];exact yao_
    | false=>rw[hb,cond_false]at h;exact yaK_ _ (rI_ h)
def zAt:List (Nat×Bool):=[(9,false),(3,false),(28,true),(30,true),(25,false),(104,true),(4,false),(26,false),(22,false),(199,false),(69,false),(198,false),(195,false),(80,true),(361,false),(267,true),(197,false),(201,false),(171,true),(373,true),(96,true),(200,false),(321,false),(281,true),(186,false),(365,false),(50,false),(279,false),(24,true),(347,true),(333,true),(202,false),(282,false),(140,false),(219,false),(205,false),(169,false),(132,false),(220,false),(184,true),(182,false),(90,true),(344,false),(329,true),(151,false),(99,true),(248,false),(363,true),(110,true)]
theorem zA {t:TypeId} {b:Bool} (h:lkN zAt t=some b):∀ w,(isAgg t).run prog w=.ok b w:=by
  have h:=rI_ h;simp only[zAt,yal_,ybN_,yat_,ybd_]at h;rcases h with⟨rfl,rfl⟩|⟨rfl,rfl⟩|⟨rfl,rfl⟩|⟨rfl,rfl⟩|⟨rfl,rfl⟩|⟨rfl,rfl⟩|⟨rfl,rfl⟩|⟨rfl,rfl⟩|⟨rfl,rfl⟩|⟨rfl,rfl⟩|⟨rfl,rfl⟩|⟨rfl,rfl⟩|⟨rfl,rfl⟩|⟨rfl,rfl⟩|⟨rfl,rfl⟩|⟨rfl,rfl⟩|⟨rfl,rfl⟩|⟨rfl,rfl⟩|⟨rfl,rfl⟩|⟨rfl,rfl⟩|⟨rfl,rfl⟩|⟨rfl,rfl⟩|⟨rfl,rfl⟩|⟨rfl,rfl⟩|⟨rfl,rfl⟩|⟨rfl,rfl⟩|⟨rfl,rfl⟩|⟨rfl,rfl⟩|⟨rfl,rfl⟩|⟨rfl,rfl⟩|⟨rfl,rfl⟩|⟨rfl,rfl⟩|⟨rfl,rfl⟩|⟨rfl,rfl⟩|⟨rfl,rfl⟩|⟨rfl,rfl⟩|⟨rfl,rfl⟩|⟨rfl,rfl⟩|⟨rfl,rfl⟩|⟨rfl,rfl⟩|⟨rfl,rfl⟩|⟨rfl,rfl⟩|⟨rfl,rfl⟩|⟨rfl,rfl⟩|⟨rfl,rfl⟩|⟨rfl,rfl⟩|⟨rfl,rfl⟩|⟨rfl,rfl⟩|⟨rfl,rfl⟩
  . exact W_
  . exact bb_
  . exact ae_
  . exact bA_
  . exact isAgg25
  . exact fX_
  . exact fm_
  . exact isAgg26
  . exact ny_
  . exact isAgg199
  . exact isAgg69
  . exact isAgg198
  . exact isAgg195
  . exact eC_
  . exact isAgg361
  . exact isAgg267
  . exact isAgg197
  . exact isAgg201
  . exact hO_
  . exact isAgg373
  . exact isAgg96
  . exact isAgg200
  . exact isAgg321
  . exact isAgg281
  . exact isAgg186
  . exact isAgg365
  . exact isAgg50
  . exact isAgg279
  . exact jp_
  . exact isAgg347
  . exact isAgg333
  . exact isAgg202
  . exact isAgg282
  . exact isAgg140
  . exact isAgg219
  . exact isAgg205
  . exact isAgg169
  . exact kK_
  . exact isAgg220
  . exact isAgg184
  . exact isAgg182
  . exact isAgg90
  . exact isAgg344
  . exact isAgg329
  . exact isAgg151
  . exact isAgg99
  . exact isAgg248
  . exact isAgg363
  . exact fW_
def zSt:List (Nat×Nat):=[(28,5),(9,1),(3,1),(30,16),(25,1),(104,6),(4,1),(26,1),(22,1),(80,10),(199,1),(198,1),(171,7),(361,1),(69,1),(267,2),(197,1),(201,1),(281,2),(373,3),(96,1),(200,1),(333,2),(24,1),(347,2),(202,1),(169,1),(140,1),(182,1),(184,2),(90,7),(344,1),(329,3),(50,1),(99,16),(248,1),(363,4),(110,2)]
theorem zS {t:TypeId} {b:Nat} (h:lkN zSt t=some b):∀ w,(sizeOf t).run prog w=.ok b w:=by
  have h:=rI_ h;simp only[zSt,yal_,ybN_,yat_,ybd_]at h;rcases h with⟨rfl,rfl⟩|⟨rfl,rfl⟩|⟨rfl,rfl⟩|⟨rfl,rfl⟩|⟨rfl,rfl⟩|⟨rfl,rfl⟩|⟨rfl,rfl⟩|⟨rfl,rfl⟩|⟨rfl,rfl⟩|⟨rfl,rfl⟩|⟨rfl,rfl⟩|⟨rfl,rfl⟩|⟨rfl,rfl⟩|⟨rfl,rfl⟩|⟨rfl,rfl⟩|⟨rfl,rfl⟩|⟨rfl,rfl⟩|⟨rfl,rfl⟩|⟨rfl,rfl⟩|⟨rfl,rfl⟩|⟨rfl,rfl⟩|⟨rfl,rfl⟩|⟨rfl,rfl⟩|⟨rfl,rfl⟩|⟨rfl,rfl⟩|⟨rfl,rfl⟩|⟨rfl,rfl⟩|⟨rfl,rfl⟩|⟨rfl,rfl⟩|⟨rfl,rfl⟩|⟨rfl,rfl⟩|⟨rfl,rfl⟩|⟨rfl,rfl⟩|⟨rfl,rfl⟩|⟨rfl,rfl⟩|⟨rfl,rfl⟩|⟨rfl,rfl⟩|⟨rfl,rfl⟩
  . exact t_
  . exact D_
  . exact R_
  . exact I_
  . exact dG_
  . exact ao_
  . exact bn_
  . exact sizeOf26
  . exact hD_
  . exact K_
  . exact eZ_
  . exact sizeOf198
  . exact aL_
  . exact sizeOf361
  . exact kJ_
  . exact je_
  . exact sizeOf197
  . exact sizeOf201
  . exact bc_
  . exact bv_
  . exact sizeOf96
  . exact sizeOf200
  . exact sizeOf333
  . exact cw_
  . exact sizeOf347
  . exact sizeOf202
  . exact sizeOf169
  . exact sizeOf140
  . exact sizeOf182
  . exact sizeOf184
  . exact eH_
  . exact sizeOf344
  . exact sizeOf329
  . exact sizeOf50
  . exact sizeOf99
  . exact sizeOf248
  . exact zE_
  . exact bL_
theorem zUe {P:Program} {t t1:TypeId} {q q1} (h:∀ w,(underlying t1).run P w=.ok q1 w) (e:t=t1) (e1:q1=q):∀ w,(underlying t).run P w=.ok q w:=by subst e e1;exact h
theorem zu {G:Prop} (h:G:=by first|exact zUe gK_ rfl rfl|exact zUe runUnderlying28 rfl rfl|exact zUe runUnderlying104 rfl rfl|exact zUe runUnderlying80 rfl rfl|exact zUe n_ rfl rfl|exact zUe runUnderlying204 rfl rfl|exact zUe aN_ rfl rfl|exact zUe H_ rfl rfl|exact zUe af_ rfl rfl|exact zUe runUnderlying171 rfl rfl|exact zUe runUnderlying363 rfl rfl|exact zUe kX_ rfl rfl|exact zUe runUnderlying164 rfl rfl|exact zUe runUnderlying373 rfl rfl|exact zUe runUnderlying90 rfl rfl|exact zUe runUnderlying142 rfl rfl|exact zUe aX_ rfl rfl|exact zUe runUnderlying325 rfl rfl|exact zUe as_ rfl rfl|exact zUe runUnderlying369 rfl rfl|exact zUe runUnderlying333 rfl rfl|exact zUe runUnderlying184 rfl rfl|exact zUe runUnderlying314 rfl rfl|exact zUe runUnderlying252 rfl rfl|exact zUe bm_ rfl rfl|exact zUe runUnderlying256 rfl rfl|exact zUe aj_ rfl rfl|exact zUe runUnderlying96 rfl rfl|exact zUe runUnderlying143 rfl rfl|exact zUe eo_ rfl rfl|exact zUe runUnderlying86 rfl rfl|exact zUe runUnderlying397 rfl rfl|exact zUe runUnderlying99 rfl rfl|exact zUe bp_ rfl rfl|exact zUe runUnderlying355 rfl rfl|exact zUe runUnderlying347 rfl rfl|exact zUe runUnderlying110 rfl rfl|exact zUe runUnderlying182 rfl rfl|exact zUe runUnderlying248 rfl rfl):G:=h
theorem zv {G:Prop} (h:G:=by intro v _ h;first|exact h.1|exact h.2.1|exact h.2.2.1|exact h.2.2.2.1|exact h.2.2.2.2.1|exact h.2.2.2.2.2.1|exact h.2.2.2.2.2.2.1|exact h.2.2.2.2.2.2.2.1|exact h.2.2.2.2.2.2.2.2.1|exact h.2.2.2.2.2.2.2.2.2.1|exact h.2.2.2.2.2.2.2.2.2.2.1|exact h.2.2.2.2.2.2.2.2.2.2.2.1|exact h.1.1|exact h.2.1.1|exact h.2.2.1.1|exact h.2.2.2.1.1|exact h.2.2.2.2.1.1|exact h.2.2.2.2.2.1.1|exact h.2.2.2.2.2.2.1.1|exact h.1.2.2|exact h.2.1.2.2|exact h.2.2.1.2.2|exact h.2.2.2.1.2.2|exact h.2.2.2.2.1.2.2|exact h.2.2.2.2.2.1.2.2|exact h.2.2.2.2.2.2.1.2.2|exact h.2|exact h.2.2|exact h.2.2.2):G:=h
theorem zy {G:Prop} (h:G:=by first|((with_reducible apply ab_);exact rfl)|((with_reducible apply ay_);exact rfl)|((with_reducible apply ol_);rotate_left;exact rfl;rotate_right;exact zu;exact rfl;exact rfl;exact zS rfl)|((with_reducible apply eQ_);exact zu;exact rfl;exact rfl;exact rfl;exact zS rfl)|((with_reducible apply (bU_ 0));rotate_left;exact rfl;exact rfl;exact rfl;exact zA rfl)|((with_reducible apply (bU_ 1));rotate_left;exact rfl;exact rfl;exact rfl;exact zA rfl)|((with_reducible apply (bU_ 2));rotate_left;exact rfl;exact rfl;exact rfl;exact zA rfl)|((with_reducible apply (bU_ 3));rotate_left;exact rfl;exact rfl;exact rfl;exact zA rfl)|((with_reducible apply fr_);exact rfl;exact rfl)|((with_reducible apply gH_);exact rfl;exact rfl)|((with_reducible apply aC_);exact rfl;exact rfl;exact rfl;exact bx_ (by omega) (by omega))|((with_reducible apply lH_);exact rfl)|((with_reducible apply dK_);exact rfl;exact rfl)|((with_reducible apply dS_);exact zu;exact rfl)|((with_reducible apply (cW_ 0));rotate_left;exact zS rfl;exact rfl;exact rfl;exact rfl;exact zA rfl)|((with_reducible apply (cW_ 1));rotate_left;exact zS rfl;exact rfl;exact rfl;exact rfl;exact zA rfl)|((with_reducible apply (cW_ 2));rotate_left;exact zS rfl;exact rfl;exact rfl;exact rfl;exact zA rfl)|((with_reducible apply (cW_ 3));rotate_left;exact zS rfl;exact rfl;exact rfl;exact rfl;exact zA rfl)|((with_reducible apply cv_);rotate_left;exact rfl;exact zv;exact rfl;exact zA rfl)|((with_reducible apply P_);exact zu;exact zS rfl;exact rfl;exact rfl;(intro v _ h;first|exact ci_ h.1 (by assumption) (λ_=>yaH_ _)|exact ci_ h.2.1 (by assumption) (λ_=>yaH_ _)|exact ci_ h.2.2.1 (by assumption) (λ_=>yaH_ _)|exact ci_ h.2.2.2.1 (by assumption) (λ_=>yaH_ _)|exact ci_ h.2.2.2.2.1 (by assumption) (λ_=>yaH_ _)|exact ci_ h.2.2.2.2.2.1 (by assumption) (λ_=>yaH_ _)|exact ci_ h.2.2.2.2.2.2.1 (by assumption) (λ_=>yaH_ _)|exact ci_ h.2.2.2.2.2.2.2.1 (by assumption) (λ_=>yaH_ _)|exact ci_ h.2.2.2.2.2.2.2.2.1 (by assumption) (λ_=>yaH_ _)|exact ci_ h.1.1 (by assumption) (λ_=>yaH_ _)|exact ci_ h.2.1.1 (by assumption) (λ_=>yaH_ _)|exact ci_ h.2.2.1.1 (by assumption) (λ_=>yaH_ _)|exact ci_ h.2.2.2.1.1 (by assumption) (λ_=>yaH_ _)|exact ci_ h.2.2.2.2.1.1 (by assumption) (λ_=>yaH_ _)|exact ci_ h.2.2.2.2.2.1.1 (by assumption) (λ_=>yaH_ _)|exact ci_ h.2.2.2.2.2.2.1.1 (by assumption) (λ_=>yaH_ _)|exact ci_ h.1.2.2 (by assumption) (λ_=>yaH_ _)|exact ci_ h.2.1.2.2 (by assumption) (λ_=>yaH_ _)|exact ci_ h.2.2.1.2.2 (by assumption) (λ_=>yaH_ _)|exact ci_ h.2.2.2.1.2.2 (by assumption) (λ_=>yaH_ _)|exact ci_ h.2.2.2.2.1.2.2 (by assumption) (λ_=>yaH_ _)|exact ci_ h.2.2.2.2.2.1.2.2 (by assumption) (λ_=>yaH_ _)|exact ci_ h.2.2.2.2.2.2.1.2.2 (by assumption) (λ_=>yaH_ _)|exact ci_ h.2 (by assumption) (λ_=>yaH_ _)|exact ci_ h.2.2 (by assumption) (λ_=>yaH_ _)|exact ci_ h.2.2.2 (by assumption) (λ_=>yaH_ _));omega;(first|omega|(simp;done)))|((with_reducible apply bw_);rotate_left;exact rfl;exact zv;(first|exact A_ Pc.cells_len (by assumption) 0 _ rfl|exact A_ Pc.cells_len (by assumption) _ _ rfl|exact A_ Fc.cells_len (by assumption) 0 _ rfl|exact A_ Fc.cells_len (by assumption) _ _ rfl|exact A_ Stp.cells_len (by assumption) 0 _ rfl|exact A_ Stp.cells_len (by assumption) _ _ rfl|exact A_ an_ (by assumption) 0 _ rfl|exact A_ an_ (by assumption) _ _ rfl|exact A_ dV_ (by assumption) 0 _ rfl|exact A_ dV_ (by assumption) _ _ rfl|exact A_ (n:=1) (by intro _;exact rfl) (by assumption) 0 _ rfl|exact A_ (n:=5) (by intro _;exact rfl) (by assumption) 0 _ rfl|exact A_ (n:=5) (by intro _;exact rfl) (by assumption) 1 _ rfl|exact A_ (n:=5) (by intro _;exact rfl) (by assumption) 2 _ rfl|exact A_ (n:=5) (by intro _;exact rfl) (by assumption) 3 _ rfl|exact A_ (n:=5) (by intro _;exact rfl) (by assumption) 4 _ rfl|exact A_ (n:=16) (by intro _;exact rfl) (by assumption) 0 _ rfl|exact A_ (n:=16) (by intro _;exact rfl) (by assumption) 1 _ rfl|exact A_ (n:=16) (by intro _;exact rfl) (by assumption) 13 _ rfl|exact A_ (n:=16) (by intro _;exact rfl) (by assumption) 14 _ rfl|exact A_ (n:=16) (by intro _;exact rfl) (by assumption) 15 _ rfl|exact A_ (n:=9) (by intro _;exact rfl) (by assumption) 0 _ rfl|exact A_ (n:=9) (by intro _;exact rfl) (by assumption) 1 _ rfl|exact A_ (n:=9) (by intro _;exact rfl) (by assumption) 2 _ rfl|exact A_ (n:=9) (by intro _;exact rfl) (by assumption) 3 _ rfl|exact A_ (n:=9) (by intro _;exact rfl) (by assumption) 4 _ rfl|exact A_ (n:=9) (by intro _;exact rfl) (by assumption) 5 _ rfl|exact A_ (n:=9) (by intro _;exact rfl) (by assumption) 6 _ rfl|exact A_ (n:=2) (by intro _;exact rfl) (by assumption) 0 _ rfl|exact A_ (n:=2) (by intro _;exact rfl) (by assumption) 1 _ rfl|exact A_ (n:=4) (by intro _;exact rfl) (by assumption) 0 _ rfl|exact A_ (n:=4) (by intro _;exact rfl) (by assumption) 1 _ rfl|exact A_ (n:=4) (by intro _;exact rfl) (by assumption) 2 _ rfl|exact A_ (n:=4) (by intro _;exact rfl) (by assumption) 3 _ rfl);exact zA rfl)|((with_reducible apply ak_);rotate_left;exact zS rfl;exact rfl;exact zv;rotate_left;(exact A_ (by intro _;exact rfl) (by assumption));exact zA rfl;(exact rfl))|((with_reducible apply (bU_ 4));rotate_left;exact rfl;exact rfl;exact rfl;exact zA rfl)|((with_reducible apply (bU_ 5));rotate_left;exact rfl;exact rfl;exact rfl;exact zA rfl)|((with_reducible apply (bU_ 6));rotate_left;exact rfl;exact rfl;exact rfl;exact zA rfl)|((with_reducible apply (bU_ 7));rotate_left;exact rfl;exact rfl;exact rfl;exact zA rfl)|((with_reducible apply (cW_ 4));rotate_left;exact zS rfl;exact rfl;exact rfl;exact rfl;exact zA rfl)|((with_reducible apply (cW_ 5));rotate_left;exact zS rfl;exact rfl;exact rfl;exact rfl;exact zA rfl)|((with_reducible apply (cW_ 6));rotate_left;exact zS rfl;exact rfl;exact rfl;exact rfl;exact zA rfl)|((with_reducible apply (cW_ 7));rotate_left;exact zS rfl;exact rfl;exact rfl;exact rfl;exact zA rfl)):G:=h
theorem Zy {A B:Prop} {n:Nat} (k:A) (h:Kw A->Cn n B:=by intro k_;repeat (first|exact cn0 k_.go|(apply cn;intro h_;((first|((with_reducible apply d_);rotate_left;exact rfl;exact h_;rotate_right)|((with_reducible apply N_);exact rfl;rotate_left;exact rfl;exact h_;rotate_right)|((with_reducible apply ih_);exact rfl;exact rfl;exact rfl;rotate_left;exact rfl;exact h_;rotate_right));(exact zy)))|(apply cn;intro h_;first|((with_reducible apply aD_);exact h_)|((with_reducible apply ap_);exact rfl;exact h_)|((with_reducible apply au_);exact h_)|((with_reducible apply ad_);exact h_)|((with_reducible apply ar_);exact rfl;exact rfl;exact h_)|((with_reducible apply wu_);exact rfl;exact rfl;exact rfl;exact rfl;exact h_)|((with_reducible apply bG_);exact rfl;exact h_)|((with_reducible apply cu_);exact rfl;exact h_)|((with_reducible apply dr_);exact h_)|((with_reducible apply bX_);exact h_)|((with_reducible apply gl_);exact h_)|((with_reducible apply dw_);exact rfl;exact h_)|((with_reducible apply sq_noG);exact rfl;exact rfl;exact rfl;exact rfl;exact rfl;exact h_)|((with_reducible apply pQ_);kernel_rfl;exact h_)|((with_reducible apply dX_);exact h_)|((with_reducible apply jh_);exact rfl;exact h_)|((with_reducible apply xz_);kernel_rfl;exact h_)|((with_reducible apply sa_);exact rfl;exact h_)|((with_reducible apply M_);exact zs;exact h_)|((apply ar_);exact rfl;exact rfl;exact h_)|((apply wu_);exact rfl;exact rfl;exact rfl;exact rfl;exact h_)|((apply aD_);exact h_))|(apply cn;intro h_;((apply d_);rotate_left;exact rfl;exact h_;rotate_right);(exact zy)))):Cn n B:=h ⟨k⟩
theorem Zj {p q A B C:Prop} (n:Nat) (k0:p->A) (k1:q->B) (h:Kw (p->A)->Kw (q->B)->Cn n C:=by intro k0_ k1_;refine Zy ?_;first|((with_reducible apply F_);(first|((with_reducible apply aV_);exact rfl;exact rfl)|((with_reducible apply cO_);exact rfl;exact rfl)|((with_reducible apply dR_);exact rfl;exact rfl)|((with_reducible apply dN_);exact rfl;exact rfl)|((with_reducible apply cq_);exact rfl;exact rfl)|((with_reducible apply er_);exact rfl;exact rfl)|((with_reducible apply dq_);exact rfl;exact rfl)|((with_reducible apply dQ_);exact rfl;exact rfl)|((with_reducible apply gG_);exact rfl;exact rfl));exact rfl;intro r_ h_;cases r_;(first|(have q_:=zdf h_;(try dsimp only[Con.kind,Con.parts,Con.name,Con.lo,Con.hi,Con.cap,Con.ad]at q_);exact k0_.go q_)|(have q_:=znb h_;(try dsimp only[Con.kind,Con.parts,Con.name,Con.lo,Con.hi,Con.cap,Con.ad]at q_);exact k0_.go q_)|(have q_:=zbe h_;(try dsimp only[Con.kind,Con.parts,Con.name,Con.lo,Con.hi,Con.cap,Con.ad]at q_);exact k0_.go q_));(first|(have q_:=zdt h_;(try dsimp only[Con.kind,Con.parts,Con.name,Con.lo,Con.hi,Con.cap,Con.ad]at q_);exact k1_.go q_)|(have q_:=zeb h_;(try dsimp only[Con.kind,Con.parts,Con.name,Con.lo,Con.hi,Con.cap,Con.ad]at q_);exact k1_.go q_)|(have q_:=zbn h_;(try dsimp only[Con.kind,Con.parts,Con.name,Con.lo,Con.hi,Con.cap,Con.ad]at q_);exact k1_.go q_)))|((with_reducible apply fG_);exact rfl;(first|((with_reducible apply aV_);exact rfl;exact rfl)|((with_reducible apply cO_);exact rfl;exact rfl)|((with_reducible apply dR_);exact rfl;exact rfl)|((with_reducible apply dN_);exact rfl;exact rfl)|((with_reducible apply cq_);exact rfl;exact rfl)|((with_reducible apply er_);exact rfl;exact rfl)|((with_reducible apply dq_);exact rfl;exact rfl)|((with_reducible apply dQ_);exact rfl;exact rfl)|((with_reducible apply gG_);exact rfl;exact rfl));exact rfl;intro r_ h_;cases r_;(first|(have q_:=zdf h_;(try dsimp only[Con.kind,Con.parts,Con.name,Con.lo,Con.hi,Con.cap,Con.ad]at q_);exact k0_.go q_)|(have q_:=znb h_;(try dsimp only[Con.kind,Con.parts,Con.name,Con.lo,Con.hi,Con.cap,Con.ad]at q_);exact k0_.go q_)|(have q_:=zbe h_;(try dsimp only[Con.kind,Con.parts,Con.name,Con.lo,Con.hi,Con.cap,Con.ad]at q_);exact k0_.go q_));(first|(have q_:=zdt h_;(try dsimp only[Con.kind,Con.parts,Con.name,Con.lo,Con.hi,Con.cap,Con.ad]at q_);exact k1_.go q_)|(have q_:=zeb h_;(try dsimp only[Con.kind,Con.parts,Con.name,Con.lo,Con.hi,Con.cap,Con.ad]at q_);exact k1_.go q_)|(have q_:=zbn h_;(try dsimp only[Con.kind,Con.parts,Con.name,Con.lo,Con.hi,Con.cap,Con.ad]at q_);exact k1_.go q_)))|((with_reducible apply ja_);exact rfl;exact rfl;exact rfl;(first|((with_reducible apply aV_);exact rfl;exact rfl)|((with_reducible apply cO_);exact rfl;exact rfl)|((with_reducible apply dR_);exact rfl;exact rfl)|((with_reducible apply dN_);exact rfl;exact rfl)|((with_reducible apply cq_);exact rfl;exact rfl)|((with_reducible apply er_);exact rfl;exact rfl)|((with_reducible apply dq_);exact rfl;exact rfl)|((with_reducible apply dQ_);exact rfl;exact rfl)|((with_reducible apply gG_);exact rfl;exact rfl));exact rfl;intro r_ h_;cases r_;(first|(have q_:=zdf h_;(try dsimp only[Con.kind,Con.parts,Con.name,Con.lo,Con.hi,Con.cap,Con.ad]at q_);exact k0_.go q_)|(have q_:=znb h_;(try dsimp only[Con.kind,Con.parts,Con.name,Con.lo,Con.hi,Con.cap,Con.ad]at q_);exact k0_.go q_)|(have q_:=zbe h_;(try dsimp only[Con.kind,Con.parts,Con.name,Con.lo,Con.hi,Con.cap,Con.ad]at q_);exact k0_.go q_));(first|(have q_:=zdt h_;(try dsimp only[Con.kind,Con.parts,Con.name,Con.lo,Con.hi,Con.cap,Con.ad]at q_);exact k1_.go q_)|(have q_:=zeb h_;(try dsimp only[Con.kind,Con.parts,Con.name,Con.lo,Con.hi,Con.cap,Con.ad]at q_);exact k1_.go q_)|(have q_:=zbn h_;(try dsimp only[Con.kind,Con.parts,Con.name,Con.lo,Con.hi,Con.cap,Con.ad]at q_);exact k1_.go q_)))):C:=(h ⟨k0⟩ ⟨k1⟩).go
theorem Zi {p q A B C:Prop} (n:Nat) (k0:p->A) (k1:q->B) (h:Kw (p->A)->Kw (q->B)->Cn n C:=by intro k0_ k1_;refine Zy ?_;first|((with_reducible apply F_);(first|((with_reducible apply aV_);exact rfl;exact rfl)|((with_reducible apply cO_);exact rfl;exact rfl)|((with_reducible apply dR_);exact rfl;exact rfl)|((with_reducible apply dN_);exact rfl;exact rfl)|((with_reducible apply cq_);exact rfl;exact rfl)|((with_reducible apply er_);exact rfl;exact rfl)|((with_reducible apply dq_);exact rfl;exact rfl)|((with_reducible apply dQ_);exact rfl;exact rfl)|((with_reducible apply gG_);exact rfl;exact rfl));exact rfl;intro r_ h_;cases r_;(first|exact k0_.go (zdf h_)|exact k0_.go (znb h_)|exact k0_.go (zbe h_));(first|exact k1_.go (zdt h_)|exact k1_.go (zeb h_)|exact k1_.go (zbn h_)))|((with_reducible apply fG_);exact rfl;(first|((with_reducible apply aV_);exact rfl;exact rfl)|((with_reducible apply cO_);exact rfl;exact rfl)|((with_reducible apply dR_);exact rfl;exact rfl)|((with_reducible apply dN_);exact rfl;exact rfl)|((with_reducible apply cq_);exact rfl;exact rfl)|((with_reducible apply er_);exact rfl;exact rfl)|((with_reducible apply dq_);exact rfl;exact rfl)|((with_reducible apply dQ_);exact rfl;exact rfl)|((with_reducible apply gG_);exact rfl;exact rfl));exact rfl;intro r_ h_;cases r_;(first|exact k0_.go (zdf h_)|exact k0_.go (znb h_)|exact k0_.go (zbe h_));(first|exact k1_.go (zdt h_)|exact k1_.go (zeb h_)|exact k1_.go (zbn h_)))|((with_reducible apply ja_);exact rfl;exact rfl;exact rfl;(first|((with_reducible apply aV_);exact rfl;exact rfl)|((with_reducible apply cO_);exact rfl;exact rfl)|((with_reducible apply dR_);exact rfl;exact rfl)|((with_reducible apply dN_);exact rfl;exact rfl)|((with_reducible apply cq_);exact rfl;exact rfl)|((with_reducible apply er_);exact rfl;exact rfl)|((with_reducible apply dq_);exact rfl;exact rfl)|((with_reducible apply dQ_);exact rfl;exact rfl)|((with_reducible apply gG_);exact rfl;exact rfl));exact rfl;intro r_ h_;cases r_;(first|exact k0_.go (zdf h_)|exact k0_.go (znb h_)|exact k0_.go (zbe h_));(first|exact k1_.go (zdt h_)|exact k1_.go (zeb h_)|exact k1_.go (zbn h_)))):C:=(h ⟨k0⟩ ⟨k1⟩).go
theorem zm {p q:Prop} (k:p) (h:Kw p->q:=by intro k_;repeat (first|exact trivial|refine⟨rfl,?_⟩|refine⟨z_ rfl k_.go,?_⟩)):q:=h ⟨k⟩
theorem Zz {A B:Prop} (n:Nat) (k:A) (h:Kw A->Cn n B:=by intro k_;exact Zy k_.go):B:=(h ⟨k⟩).go
end Go.Proofs.YtbffkokbdeppaaaGreatDoor

namespace Go.Proofs.YtbffkokbdeppaaaGreatDoor
open Go Go.Sx Go.Proofs Tryz
attribute [local irreducible] Code.wp wpList wpAnyH
open Go.Vs
theorem pk_ (c:UInt8) :
    Fn0 prog 319 #[.int .u8 (c.toNat:Int)] (.bool (fJ_ c)):=by
  refine j_ func319 rfl rfl ntmps319 rfl λv=>?_;refine Zi 8 (λk=>?_) λk=>?_
  . refine Zi 8 (λe=>?_) λe=>?_
    . refine Zz 11 ?_;exact ac_ results319 () (z_ rfl (by grind[fJ_])) (.refl _) zt
    . refine Zz 5 ?_;refine F_ (dN_ rfl rfl) rfl λh d=>Zz 7 ?_
      exact ac_ results319 () (z_ rfl (by grind[fJ_])) (.refl _) zt
  . refine Zi 4 (λe=>?_) λe=>?_
    . refine Zz 5 ?_;refine F_ (dN_ rfl rfl) rfl λh d=>Zz 2 ?_
      cases h
      . grind
      . replace d:=zdt d;refine Zz 3 ?_;refine F_ (dN_ rfl rfl) rfl λx m=>Zz 7 ?_
        exact ac_ results319 () (z_ rfl (by grind[fJ_])) (.refl _) zt
    . refine Zz 13 ?_;exact ac_ results319 () (z_ rfl (by grind[fJ_])) (.refl _) zt
theorem tP_ (s:Str) (F:s.length<=140737488351232) :
    Fn0 prog 303 #[str s] (.bool (mY_ s)):=by
  refine j_ func303 rfl rfl ntmps303 rfl λE=>?_;refine Zz 9 ?_;refine Cu_ Q_ runUnderlying355 runUnderlying5 rfl rfl λcap e B=>Zz 5 ?_
  refine bF_ [(6,.slice (some ⟨e,0,none⟩) s.length cap),(7,i4_ s.length),(8,i4_ ((0:Nat):Int))] zl ?_;refine bY_ (ι:={k:Nat // k<=s.length/\(s.take k).all gd_=true}) (λi=>[(6,.slice (some ⟨e,0,none⟩) s.length cap),(7,i4_ s.length),(8,i4_ i.1)]) (λ_=>_) (λ_=>_) (λi=>s.length - i.1) ⟨0,by simp⟩ ?_;rintro ⟨k,hk⟩;refine bF_ [(6,.slice (some ⟨e,0,none⟩) s.length cap),(7,i4_ s.length),(8,i4_ k)] zl ?_;refine Zi 2 (λy=>?_) λy=>?_
  . refine Zz 12 ?_;exact ac_ results303 () (z_ rfl (by rw[mY_,rs_ gd_ s k zaa_ hk.2])) (.refl _) zt
  . have d:k<s.length:=by omega
    obtain⟨c,h⟩:∃ c,s[k]? = some c:=⟨_,yaa_ d⟩;refine Zz 10 ?_;refine d_ (ft_ runUnderlying355 sizeOf5 rfl rfl zaa_ zaa_) rfl (d_ (bU_ (u:=.int .u8 (c.toNat:Int)) 0 isAgg5 rfl rfl (by rw[show 0+((k:Int)).toNat*1=k by omega];exact Ao_ h)) rfl ?_);refine Zz 6 ?_;refine aq_ (pk_ c) rfl (.refl _) zt rfl λA C=>d_ (aK_ rfl) rfl (Zz 1 ?_)
    cases A
    . refine Zi 3 (λx=>?_) λx=>?_
      . refine Zz 19 ?_;exact w_ ⟨k+1,d,ht_ _ s k c h hk.2 zbb_⟩ zar_ zl (.refl _) zh
      . refine Zi 5 (λv=>?_) λv=>?_
        . refine Zi 5 (λm=>?_) λm=>?_
          . refine Zz 13 ?_;exact w_ ⟨k+1,d,ht_ _ s k c h hk.2 zbb_⟩ zar_ zl (.refl _) zh
          . refine Zz 12 ?_;exact ac_ results303 () (z_ rfl (by rw[mY_,kQ_ gd_ s k c h zbb_])) (.refl _) zt
        . refine Zz 16 ?_;exact ac_ results303 () (z_ rfl (by rw[mY_,kQ_ gd_ s k c h zbb_])) (.refl _) zt
    . refine Zz 21 ?_;exact w_ ⟨k+1,d,ht_ _ s k c h hk.2 zbb_⟩ zar_ zl (.refl _) zh
theorem yj_ (s:Str) :
    Fn0 prog 320 #[str s] (.bool (bV_ s)):=by
  refine j_ func320 rfl rfl ntmps320 rfl λP=>?_;refine Zi 15 (λN=>?_) λN=>?_
  . refine Zi 6 (λO=>?_) λO=>?_
    . refine Zi 6 (λM=>?_) λM=>?_
      . refine Zi 6 (λK=>?_) λK=>?_
        . refine Zi 6 (λI=>?_) λI=>?_
          . refine Zi 6 (λH=>?_) λH=>?_
            . refine Zi 6 (λL=>?_) λL=>?_
              . refine Zi 6 (λJ=>?_) λJ=>?_
                . refine Zi 6 (λG=>?_) λG=>?_
                  . refine Zi 6 (λe=>?_) λe=>?_
                    . refine Zi 6 (λh=>?_) λh=>?_
                      . refine Zi 6 (λv=>?_) λv=>?_
                        . refine Zi 6 (λF=>?_) λF=>?_
                          . refine Zi 6 (λB=>?_) λB=>?_
                            . refine Zi 6 (λx=>?_) λx=>?_
                              . refine Zi 6 (λk=>?_) λk=>?_
                                . refine Zi 6 (λE=>?_) λE=>?_
                                  . refine Zi 6 (λC=>?_) λC=>?_
                                    . refine Zi 6 (λA=>?_) λA=>?_
                                      . refine Zi 6 (λy=>?_) λy=>?_
                                        . refine Zi 6 (λm=>?_) λm=>?_
                                          . refine Zi 5 (λd=>?_) λd=>?_
                                            . refine Zz 12 ?_;exact ac_ bd_ () (z_ rfl zav_) (.refl _) zt
                                            . refine Zz 10 ?_;exact ac_ bd_ () (z_ rfl zav_) (.refl _) zt
                                          . refine Zz 13 ?_;exact ac_ bd_ () (z_ rfl zav_) (.refl _) zt
                                        . refine Zz 13 ?_;exact ac_ bd_ () (z_ rfl zav_) (.refl _) zt
                                      . refine Zz 13 ?_;exact ac_ bd_ () (z_ rfl zav_) (.refl _) zt
                                    . refine Zz 13 ?_;exact ac_ bd_ () (z_ rfl zav_) (.refl _) zt
                                  . refine Zz 13 ?_;exact ac_ bd_ () (z_ rfl zav_) (.refl _) zt
                                . refine Zz 13 ?_;exact ac_ bd_ () (z_ rfl zav_) (.refl _) zt
                              . refine Zz 13 ?_;exact ac_ bd_ () (z_ rfl zav_) (.refl _) zt
                            . refine Zz 13 ?_;exact ac_ bd_ () (z_ rfl zav_) (.refl _) zt
                          . refine Zz 13 ?_;exact ac_ bd_ () (z_ rfl zav_) (.refl _) zt
                        . refine Zz 13 ?_;exact ac_ bd_ () (z_ rfl zav_) (.refl _) zt
                      . refine Zz 13 ?_;exact ac_ bd_ () (z_ rfl zav_) (.refl _) zt
                    . refine Zz 13 ?_;exact ac_ bd_ () (z_ rfl zav_) (.refl _) zt
                  . refine Zz 13 ?_;exact ac_ bd_ () (z_ rfl zav_) (.refl _) zt
                . refine Zz 13 ?_;exact ac_ bd_ () (z_ rfl zav_) (.refl _) zt
              . refine Zz 13 ?_;exact ac_ bd_ () (z_ rfl zav_) (.refl _) zt
            . refine Zz 13 ?_;exact ac_ bd_ () (z_ rfl zav_) (.refl _) zt
          . refine Zz 13 ?_;exact ac_ bd_ () (z_ rfl zav_) (.refl _) zt
        . refine Zz 13 ?_;exact ac_ bd_ () (z_ rfl zbF_) (.refl _) zt
      . refine Zz 13 ?_;exact ac_ bd_ () (z_ rfl zbF_) (.refl _) zt
    . refine Zz 13 ?_;exact ac_ bd_ () (z_ rfl zbF_) (.refl _) zt
  . refine Zz 13 ?_;exact ac_ bd_ () (z_ rfl zbF_) (.refl _) zt
theorem pj_ (s:Str) (A:s.length<=140737488351232) :
    Fn0 prog 276 #[str s] (.bool (jW_ s)):=by
  refine j_ func276 rfl rfl ntmps276 rfl λx=>?_;refine Zi 8 (λd=>?_) λd=>?_
  . refine Zz 18 ?_;exact ac_ results276 () (z_ rfl (by grind[jW_])) (.refl _) zt
  . obtain⟨c,t,rfl⟩:=List.exists_cons_of_ne_nil d;refine Zz 4 ?_;refine d_ (cs_ Q_ rfl rfl zae_ rfl) rfl (ar_ rfl rfl (aq_ (pk_ _) rfl (.refl _) zt rfl λh v=>Zz 2 ?_));cases h
    . refine Zz 12 ?_;exact ac_ results276 () (z_ rfl (by grind[jW_])) (.refl _) zt
    . refine Zz 3 ?_;refine aq_ (tP_ _ zaf_) rfl (.refl _) zt rfl λe m=>Zz 2 ?_
      cases e
      . refine Zz 8 ?_;exact ac_ results276 () (z_ rfl (by grind[jW_])) (.refl _) zt
      . refine Zz 3 ?_;refine aq_ (yj_ _) rfl (.refl _) zt rfl λy k=>ar_ rfl rfl (d_ (aK_ rfl) rfl (Zz 5 ?_))
        exact ac_ results276 () (z_ rfl (by grind[jW_])) (.refl _) zt
theorem in_ (s:Str) (x:s.length<=140737488351232) :
    Fn0 prog 248 #[str s] (.bool (cY_ s)):=by
  refine j_ func248 rfl rfl ntmps248 rfl λm=>?_;refine Zz 8 ?_;refine d_ (dp_ Q_ rfl) rfl ?_;refine Zi 0 (λe=>?_) λe=>?_
  . refine Zz 18 ?_;exact ac_ results248 () (z_ rfl (by grind[cY_])) (.refl _) zt
  . refine Zz 4 ?_;refine d_ (dp_ Q_ rfl) rfl (ar_ rfl rfl ?_);refine Zi 0 (λh=>?_) λh=>?_
    . refine Zz 14 ?_;exact ac_ results248 () (z_ rfl (by grind[cY_])) (.refl _) zt
    . obtain⟨c,t,rfl⟩:=ycb_ (l:=s) zaa_;refine Zz 5 ?_;refine d_ (cs_ Q_ rfl rfl zae_ rfl) rfl (ar_ rfl rfl ?_);refine Zi 0 (λd=>?_) λd=>?_
      . refine Zz 9 ?_;exact ac_ results248 () (z_ rfl (by grind[cY_])) (.refl _) zt
      . refine Zz 5 ?_;refine aq_ (tP_ _ zaf_) rfl (.refl _) zt rfl λv k=>Zz 5 ?_
        exact ac_ results248 () (z_ rfl (by grind[cY_])) (.refl _) zt
theorem ni_ (s:Str) (c:UInt8):Fn0 prog 365 #[str s,str [c]] (i4_ (Lib.indexByte s c)) :=
  ip_ (callable func365 rfl rfl) λw=>(Tryz.stringslite_Index_one ⟨s.toArray⟩ c w).mono zak_
theorem rQ_ (s:Str) (c:UInt8) (hk:ixS c s=none):Fn0 prog 365 #[str s,str [c]] (i4_ (-1)):=by
  grind[ni_,nP_]
theorem rP_ (s:Str) (c:UInt8) (k:Nat) (hk:ixS c s=some k):Fn0 prog 365 #[str s,str [c]] (i4_ k):=by
  grind[ni_,nP_]
theorem yA_ (s:Str) (c:UInt8) (hk:ixS c s=none) :
    Fn0 prog 318 #[str s,str [c]] (.tuple #[str s,str [],.bool false]):=by
  refine j_ func318 rfl rfl ntmps318 rfl λh=>?_;refine Zz 12 ?_;refine f_ (rQ_ s c hk) rfl (.refl _) zt rfl λ_=>Zz 6 ?_
  refine F_ (er_ rfl rfl) rfl λe d=>Zz 2 ?_
  cases e
  . replace d:=zdf d;refine Zz 12 ?_;exact lL_ results318 () rfl rfl rfl rfl (.refl _) zt
  grind
theorem yz_ (s:Str) (c:UInt8) (k:Nat) (hk:ixS c s=some k) (hl:k<s.length) (m:s.length<=140737488351232) :
    Fn0 prog 318 #[str s,str [c]] (.tuple #[str (s.take k),str (s.drop (k+1)),.bool true]):=by
  refine j_ func318 rfl rfl ntmps318 rfl λh=>?_;refine Zz 12 ?_;refine f_ (rP_ s c k hk) rfl (.refl _) zt rfl λ_=>Zz 6 ?_
  refine F_ (er_ rfl rfl) rfl λe d=>Zz 2 ?_
  cases e
  . grind
  . replace d:=zdt d;refine Zz 3 ?_;refine G_ 0 [0,1,2,3,4,5,6,7,8,9,10,11] zk zs (Zz 2 ?_);refine N_ rfl (fq_ (i:=0) (j:=k) (kl:=.i64) Q_ rfl rfl rfl zaa_ zaa_) rfl (Zz 3 ?_);refine N_ rfl (dp_ Q_ rfl) rfl (N_ rfl (aC_ rfl rfl rfl (bx_ zak_ zak_)) rfl (N_ rfl (fq_ (i:=k+1) (j:=s.length) (kh:=.i64) Q_ rfl rfl rfl zaa_ zaa_) rfl (Zz 7 ?_)));exact lL_ results318 () rfl rfl rfl zbq_ (.refl _) zt
theorem AX_ (s:Str) (c:UInt8) (hk:ixS c s=none) :
    Fn0 prog 275 #[str s,str [c]] (.tuple #[str s,str [],.bool false]):=by
  refine j_ func275 rfl rfl ntmps275 rfl λd=>?_;refine Zz 11 ?_;refine f_ (yA_ s c hk) rfl (.refl _) zt rfl λ_=>Zz 9 ?_
  exact lL_ results275 () rfl rfl rfl rfl (.refl _) zt
theorem rL_ (s:Str) (hk:ixS 58 s=none) :
    Fn0 prog 195 #[str s] (.bool (bN_ s)):=by
  refine j_ func195 rfl rfl ntmps195 rfl λk=>?_;refine Zz 9 ?_;refine d_ (dp_ Q_ rfl) rfl ?_;refine Zi 0 (λd=>?_) λd=>?_
  . refine Zz 8 ?_;refine f_ (AX_ s 58 hk) rfl (.refl _) zt rfl λ_=>Zz 12 ?_
    refine aq_ (pj_ _ zak_) rfl (.refl _) zt rfl λe h=>Zz 1 ?_
    cases e
    . refine Zz 11 ?_;exact ac_ lM_ () (z_ rfl zbz_) (.refl _) zt
    . refine Zz 3 ?_;refine d_ (aK_ rfl) rfl (Zz 11 ?_);exact ac_ lM_ () (z_ rfl zbz_) (.refl _) zt
  . refine Zz 9 ?_;exact ac_ lM_ () (z_ rfl zbz_) (.refl _) zt
theorem AW_ (s:Str) (c:UInt8) (k:Nat) (hk:ixS c s=some k) (hl:k<s.length) (d:s.length<=140737488351232) :
    Fn0 prog 275 #[str s,str [c]] (.tuple #[str (s.take k),str (s.drop (k+1)),.bool true]):=by
  refine j_ func275 rfl rfl ntmps275 rfl λe=>?_;refine Zz 11 ?_;refine f_ (yz_ s c k hk hl d) rfl (.refl _) zt rfl λ_=>Zz 9 ?_
  exact lL_ results275 () rfl rfl rfl rfl (.refl _) zt
theorem rK_ (s:Str) (k:Nat) (hk:ixS 58 s=some k) (hl:k<s.length) :
    Fn0 prog 195 #[str s] (.bool (bN_ s)):=by
  refine j_ func195 rfl rfl ntmps195 rfl λv=>?_;refine Zz 9 ?_;refine d_ (dp_ Q_ rfl) rfl ?_;refine Zi 0 (λd=>?_) λd=>?_
  . refine Zz 8 ?_;refine f_ (AW_ s 58 k hk hl zaa_) rfl (.refl _) zt rfl λ_=>Zz 12 ?_
    refine aq_ (pj_ _ zak_) rfl (.refl _) zt rfl λe m=>Zz 1 ?_
    cases e
    . refine Zz 11 ?_;exact ac_ lM_ () (z_ rfl zbz_) (.refl _) zt
    . refine Zz 3 ?_;refine d_ (aK_ rfl) rfl (Zz 5 ?_);refine aq_ (pj_ _ zak_) rfl (.refl _) zt rfl λx h=>Zz 7 ?_
      exact ac_ lM_ () (z_ rfl zbz_) (.refl _) zt
  . refine Zz 9 ?_;exact ac_ lM_ () (z_ rfl zbz_) (.refl _) zt
theorem hM_ (s:Str):Fn0 prog 195 #[str s] (.bool (bN_ s)):=by
  cases hk:ixS 58 s<;>grind[rL_,rK_,vt_]
theorem dy_ (s:Str) (v:s.length<=140737488351232) :
    Fn0 prog 167 #[str s] (i4_ (if bg_ s then 0 else 20)):=by
  refine j_ func167 rfl rfl ntmps167 rfl λm=>?_;refine Zz 9 ?_;refine aq_ (hM_ _) rfl (.refl _) zt rfl λe h=>Zz 1 ?_
  cases e
  . refine Zz 3 ?_;refine aq_ (in_ _ v) rfl (.refl _) zt rfl λd k=>Zz 3 ?_
    cases d
    . refine Zz 9 ?_;exact ac_ results167 () (bi_ rfl (by grind[bg_])) (.refl _) zt
    . refine Zz 7 ?_;exact ac_ results167 () (bi_ rfl (by grind[bg_])) (.refl _) zt
  . refine Zz 12 ?_;exact ac_ results167 () (bi_ rfl (by grind[bg_])) (.refl _) zt
theorem gT_ (s:Str) (d:s.length<=140737488351232) :
    Fn0 prog 289 #[str s] (.bool (bg_ s)):=by
  refine j_ func289 rfl rfl ntmps289 rfl λh=>?_;refine Zz 8 ?_;refine f_ (dy_ s d) rfl (.refl _) zt rfl λ_=>F_ (aV_ rfl rfl) rfl λk e=>Zz 4 ?_
  exact ac_ results289 () (z_ rfl zak_) (.refl _) zt
theorem fits_c:∀ (m:Nat) (c:Con),c.sz<=m->c.ok->∀ (d n bs:Nat),d<=9->n<=64->∀ r,c.fits d n=r->
    Tri prog 196 #[c.val,i4_ d,zp_ bs 0] [(bs,.cells #[i4_ n] 3 (0,0))] [c.memF] (λ_:Unit=>.bool r.1) (λ_=>[(bs,.cells #[i4_ r.2] 3 (0,0))]) (λ_=>[]):=by
  intro m
  induction m with
  | zero=>intro c h;have:=c.sz_pos;omega
  | succ m ih =>
    intro c hm E d n bs O P r I;obtain⟨k,nm,lo,hi,ad,cap,ps⟩:=c;have B:=Con.ok_len E;simp only[Con.parts,Con.cap]at B;refine j_ func196 rfl rfl ntmps196 rfl λM=>?_;refine Zz 2 ?_;refine L_ rfl rfl λN=>Zz 10 ?_
    refine p_ 1 R_ rfl rfl rfl rfl rfl rfl (Zj 6 (λG=>?_) λG=>?_)
    . refine Zj 8 (λH=>?_) λH=>?_
      . have x:¬ (8<d\/64<n+1):=by omega
        refine Zz 16 ?_;refine bF_ [(1,i4_ d),(2,zp_ bs 0),(23,.slice ad ps.length cap),(24,i4_ ps.length),(25,i4_ ((0:Nat):Int))] zl ?_;refine bY_ (ι:={q:Nat×Nat // q.1<=ps.length/\Con.fits.fitss (ps.take q.1) (d+1) (n+1)=(true,q.2)/\q.2<=64}) (λi=>[(1,i4_ d),(2,zp_ bs 0),(23,.slice ad ps.length cap),(24,i4_ ps.length),(25,i4_ i.1.1)]) (λi=>[_,(bs,.cells #[i4_ i.1.2] 3 (0,0))]) (λ_=>_) (λi=>ps.length - i.1.1) ⟨(0,n+1),by simp[Con.fits.fitss];omega⟩ ?_;rintro ⟨⟨i,e⟩,hk⟩;refine bF_ [(1,i4_ d),(2,zp_ bs 0),(23,.slice ad ps.length cap),(24,i4_ ps.length),(25,i4_ i)] zl ?_;refine Zj 2 (λF=>?_) λF=>?_
        . refine Zz 12 ?_;obtain rfl:r=(true,e):=by rw[<-I];exact Con.fits_yes x zaa_ hk.2.1
          exact ac_ results196 () rfl (gn_ (i:=1) rfl) zt
        . have A:i<ps.length:=by omega
          obtain⟨p,C⟩:∃ p,ps[i]? = some p:=⟨_,yaa_ A⟩;have y:p∈ps:=yab_ C;refine Zz 10 ?_;refine d_ (P_ af_ t_ rfl rfl (λv _ h=>Con.row_addr (c:=.mk k nm lo hi ad cap ps) h.1 C) zaa_ zaa_) rfl (d_ (ak_ (us:=p.cells) ae_ t_ rfl (λv _ h=>((Con.mem_iff (.mk k nm lo hi ad cap ps) v).1 h.1).1) p.cells_len (Con.part_cells (c:=.mk k nm lo hi ad cap ps) (i:=i) C)) rfl (C_ ba_ rfl λL=>fB_ 0 t_ rfl rfl rfl rfl (Zz 4 ?_)));refine d_ (cX_ 0 ae_ t_ rfl rfl) rfl (Zz 3 ?_);refine pa_ 2 (ih p (by have:=Con.sz_part (c:=.mk k nm lo hi ad cap ps) y;omega) (Con.ok_part (c:=.mk k nm lo hi ad cap ps) E y) (d+1) e bs zaa_ hk.2.2 _ rfl) rfl rfl (λv _ h=>⟨Con.mem_part (c:=.mk k nm lo hi ad cap ps) h.1 y,trivial⟩) rfl λJ K=>?_;refine d_ (aK_ rfl) rfl (Zz 2 ?_);cases J
          . refine Zz 7 ?_;obtain rfl:r=(false,(p.fits (d+1) e).2):=by rw[<-I];exact Con.fits_no x C hk.2.1 zaf_
            exact ac_ results196 () rfl (gn_ (i:=2) rfl) zt
          . refine Zz 8 ?_;exact w_ ⟨(i+1,(p.fits (d+1) e).2),A,Con.fitss_step C hk.2.1 zaf_⟩ zar_ zl (@List.perm_append_comm _ [_] _) zh
      . refine Zz 10 ?_;obtain rfl:r=(false,n+1):=by rw[<-I,Con.fits_eq];simp<;>omega
        exact ac_ results196 () rfl (gn_ (i:=1) rfl) zt
    . refine Zz 15 ?_;obtain rfl:r=(false,n+1):=by rw[<-I,Con.fits_eq];simp<;>omega
      exact ac_ results196 () rfl (gn_ (i:=1) rfl) zt
def wp_ (v:Vw):Prop:=v.sl/\v.im 6/\∃ T fz,v.w.heap[6]? = some (.cells (Lib.pow10Tab.map λz=>Value.int .u64 z).toArray T fz)
theorem uW_ {v d:Vw} (h:v.le d) (k:wp_ v):wp_ d:=by
  obtain⟨x,e,T,fz,m⟩:=k;exact⟨by grind[Vw.le.sl],h.imUp _ e,T,fz,by rw[h.block _ e];exact m⟩
theorem xN_ {v : Vw} (d : wp_ v) : Lib.TabIs prog v.w "internal/strconv.uint64pow10" .u64 Lib.pow10Tab := by
  obtain⟨_,h,T,fz,e⟩:=d;have k : Tryz.prog.globalNamed "internal/strconv.uint64pow10" = some 6 := by kernel_rfl
  grind[Lib.TabIs,World.var?]
def bE_:Fct where
  p:=λv=>bW_ v (some ⟨1,0,none⟩) (ei_.flatMap wv_)/\bW_ v (some ⟨0,0,none⟩) (uE_.flatMap Use.cells)/\True/\wp_ v
  mono:=λv v' h hp=>⟨(X_ _ _).mono v v' h hp.1,(X_ _ _).mono v v' h hp.2.1,trivial,uW_ h hp.2.2.2⟩
def kp_:Fct:=X_ (some ⟨3,0,none⟩) (iv_.flatMap NUse.cells)
theorem gD_ {G:Prop} (h:G:=by
 refine Zz 7 ?_;exact kk_):G:=h
theorem od_ {G:Prop} (h:G:=by
 refine Zz 7 ?_;exact met ⟨rfl,rfl,rfl,rfl,rfl,rfl,rfl,rfl,rfl,rfl,rfl,rfl,rfl,rfl,(z_ rfl (jaf I)),trivial⟩):G:=h
theorem kj_ {G:Prop} (h:G:=by
 exact met ⟨rfl,rfl,rfl,rfl,rfl,rfl,rfl,rfl,rfl,rfl,rfl,rfl,(z_ rfl (jot d)),trivial⟩):G:=h
theorem hY_ {G:Prop} (h:G:=by
 exact met ⟨rfl,rfl,rfl,rfl,rfl,rfl,rfl,rfl,rfl,rfl,rfl,rfl,rfl,(z_ rfl (jot d)),trivial⟩):G:=h
theorem kk_ {G:Prop} (h:G:=by
 exact ac_ results197 () (bi_ rfl (by unfold Con.fieldErr;simp only[Con.kind,Con.parts,Con.name,Con.lo,Con.hi];simp only[P];repeat (first|rfl|exact (yaq_ zaa_).symm|(rw[yaq_ zaG_];first|done|rfl)|(rw[yag_ zaG_])))) (.refl _) zt):G:=h
theorem qd_ (c:Con) (a1:c.ok):Tri prog 197 #[c.val] [] [bE_] (λ_:Unit=>i4_ c.fieldErr) (λ_=>[]) (λ_=>[]):=by
 obtain⟨k,nm,lo,hi,ad,cap,ps⟩:=c;have a5:=Con.ok_len a1;simp only[Con.parts,Con.cap]at a5;refine j_ func197 rfl rfl ntmps197 rfl λv_1=>?_;refine Zz 2 ?_;refine L_ rfl rfl λm=>Zz 8 ?_
 refine F_ (cO_ rfl rfl) rfl λr_1 N=>Zz 1 ?_
 refine aE_ 4 ((decide (k<1))||(decide (7<k))) (λr=>[(0,.agg (Con.cells (Con.mk k nm lo hi ad cap ps)).toArray),(1,zp_ m 0),(2,i4_ 0),(11,.bool r)]) ?_ λr_2 a0=>?_
 .cases r_1
  .have d:=N
   replace N:=zdf N;refine Zz 5 ?_;refine F_ (dq_ rfl rfl) rfl λa4 M=>Zz 3 ?_
   exact met (zm (jof d M))
  have d:=N;replace N:=zdt N;refine Zz 6 ?_;exact met ⟨rfl,rfl,rfl,(z_ rfl (jot d)),trivial⟩
 refine Zz 2 ?_;cases r_2
 .simp at a0
  obtain⟨x,hx⟩:∃ x,ei_[k.toNat]? = some x:=⟨_,yaa_ (show k.toNat<8 by omega)⟩;have P:nd k=x:=by simp[nd,hx]
  obtain⟨C,K,J,xb⟩:=x;refine Zz 7 ?_;refine d_ (db_ runUnderlying315 sizeOf314 rfl rfl zbD_ (by show k<(8:Int);omega)) rfl ?_;refine d_ (ak_ (ad:=some ⟨1,0,none⟩) (k:=k.toNat*4) (us:=wv_ (C,K,J,xb)) isAgg314 sizeOf314 rfl (λv _ h=>h.1.1) (lR_ _) (λj y hj=>by rw[kD_ wv_ 4 lR_ ei_ k.toNat j _ hx (by have:=(yaf_.1 hj).1;rwa [lR_]at this)];exact hj)) rfl ?_;refine C_ zeroValue314 rfl λE=>p_ 0 sizeOf314 rfl rfl rfl rfl rfl rfl (Zz 10 ?_)
  refine F_ (cO_ rfl rfl) rfl λa4 M=>Zz 1 ?_
  let Ru:Array Value:=#[i4_ C,i4_ K,i4_ J,.bool xb];refine aE_ 7 ((decide ((ps.length:Int)<K))||(decide (J<(ps.length:Int)))) (λr=>[(0,.agg (Con.cells (Con.mk k nm lo hi ad cap ps)).toArray),(1,zp_ m 0),(2,i4_ 0),(11,.bool false),(12,zp_ m 0),(13,i4_ k),(14,.pointer (some (rad (some ⟨1,0,none⟩) (k.toNat*4)))),(15,.agg Ru),(3,zp_ E 0),(29,.bool r)]) ?_ λr_4 T=>?_
  .cases a4
   .have d:=M
    replace M:=zdf M;refine Zz 11 ?_;refine F_ (dq_ rfl rfl) rfl λa3 Q=>Zz 3 ?_
    exact met (zm (jof d Q))
   have d:=M;replace M:=zdt M;refine Zz 9 ?_;exact met ⟨rfl,rfl,rfl,rfl,rfl,rfl,rfl,rfl,rfl,(z_ rfl (jot d)),trivial⟩
  refine Zz 1 ?_;refine aE_ 9 ((((decide ((ps.length:Int)<K))||(decide (J<(ps.length:Int)))))||(((C==0)&&(nm != [])))) (λr=>[(0,.agg (Con.cells (Con.mk k nm lo hi ad cap ps)).toArray),(1,zp_ m 0),(2,i4_ 0),(11,.bool false),(12,zp_ m 0),(13,i4_ k),(14,.pointer (some (rad (some ⟨1,0,none⟩) (k.toNat*4)))),(15,.agg Ru),(3,zp_ E 0),(39,.bool r)]) ?_ λa3 Q=>?_
  .cases r_4
   .have d:=T
    simp at T
    refine Zz 5 ?_;refine F_ (aV_ rfl rfl) rfl λW e=>Zz 2 ?_
    refine aE_ 4 ((C==0)&&(nm != [])) (λr=>[(0,.agg (Con.cells (Con.mk k nm lo hi ad cap ps)).toArray),(1,zp_ m 0),(2,i4_ 0),(11,.bool false),(12,zp_ m 0),(13,i4_ k),(14,.pointer (some (rad (some ⟨1,0,none⟩) (k.toNat*4)))),(15,.agg Ru),(3,zp_ E 0),(30,.bool false),(38,.bool r)]) ?_ λY L=>?_
    .cases W
     .have I:=e
      replace e:=znb e;refine Zz 7 ?_;exact met ⟨rfl,rfl,rfl,rfl,rfl,rfl,rfl,rfl,rfl,rfl,(z_ rfl (jaf I)),trivial⟩
     have I:=e;replace e:=zeb e;refine Zz 5 ?_;refine F_ (dQ_ rfl rfl) rfl λV A=>Zz 4 ?_
     exact met ⟨rfl,rfl,rfl,rfl,rfl,rfl,rfl,rfl,rfl,rfl,(z_ rfl (jat I A)),trivial⟩
    refine Zz 3 ?_;exact met (zm (jof d L))
   have d:=T;simp at T
   refine Zz 11 ?_;exact met ⟨rfl,rfl,rfl,rfl,rfl,rfl,rfl,rfl,rfl,(z_ rfl (jot d)),trivial⟩
  refine Zz 2 ?_;cases a3
  .simp at Q
   refine Zz 10 ?_;cases xb
   .refine Zz 5 ?_;refine F_ (cq_ rfl rfl) rfl λW e=>Zz 1 ?_
    let Qu:Array Value:=#[i4_ C,i4_ K,i4_ J,.bool false];refine aE_ 4 ((lo != 0)||(hi != 0)) (λr=>[(0,.agg (Con.cells (Con.mk k nm lo hi ad cap ps)).toArray),(1,zp_ m 0),(2,i4_ 0),(11,.bool false),(12,zp_ m 0),(13,i4_ k),(14,.pointer (some (rad (some ⟨1,0,none⟩) (k.toNat*4)))),(15,.agg Qu),(3,zp_ E 0),(39,.bool false),(40,zp_ E 3),(41,.bool false),(64,.bool r)]) ?_ λY L=>?_
    .cases W
     .have d:=e
      replace e:=ew_ e;refine Zz 5 ?_;refine F_ (cq_ rfl rfl) rfl λV A=>Zz 3 ?_
      exact met (zm (jof d A))
     have d:=e;replace e:=eu_ e;refine Zz 6 ?_;exact kj_
    refine Zz 2 ?_;cases Y
    .simp at L
     refine Zz 8 ?_;refine F_ (aV_ rfl rfl) rfl λV A=>Zz 1 ?_
     refine aE_ 4 ((C==0)||(bN_ nm)) (λr=>[(0,.agg (Con.cells (Con.mk k nm lo hi ad cap ps)).toArray),(1,zp_ m 0),(2,i4_ 0),(11,.bool false),(12,zp_ m 0),(13,i4_ k),(14,.pointer (some (rad (some ⟨1,0,none⟩) (k.toNat*4)))),(15,.agg Qu),(3,zp_ E 0),(39,.bool false),(40,zp_ E 3),(41,.bool false),(64,.bool false),(72,.bool r)]) ?_ λX F=>?_
     .cases V
      .have d:=A
       replace A:=znb A;refine Zz 5 ?_;refine aq_ (hM_ nm) rfl (.refl _) zt rfl λU G=>Zz 3 ?_
       exact met (zm (jof d G))
      have d:=A;replace A:=zeb A;refine Zz 6 ?_;exact hY_
     refine Zz 1 ?_;refine aE_ 9 ((((C==0)||(bN_ nm)))||(((C==2)&&(cY_ nm)))) (λr=>[(0,.agg (Con.cells (Con.mk k nm lo hi ad cap ps)).toArray),(1,zp_ m 0),(2,i4_ 0),(11,.bool false),(12,zp_ m 0),(13,i4_ k),(14,.pointer (some (rad (some ⟨1,0,none⟩) (k.toNat*4)))),(15,.agg Qu),(3,zp_ E 0),(39,.bool false),(40,zp_ E 3),(41,.bool false),(64,.bool false),(82,.bool r)]) ?_ λU G=>?_
     .cases X
      .have d:=F
       simp at F
       refine Zz 5 ?_;refine F_ (aV_ rfl rfl) rfl λS B=>Zz 2 ?_
       refine aE_ 4 ((C==2)&&(cY_ nm)) (λr=>[(0,.agg (Con.cells (Con.mk k nm lo hi ad cap ps)).toArray),(1,zp_ m 0),(2,i4_ 0),(11,.bool false),(12,zp_ m 0),(13,i4_ k),(14,.pointer (some (rad (some ⟨1,0,none⟩) (k.toNat*4)))),(15,.agg Qu),(3,zp_ E 0),(39,.bool false),(40,zp_ E 3),(41,.bool false),(64,.bool false),(73,.bool false),(81,.bool r)]) ?_ λZ H=>?_
       .cases S
        .have I:=B
         replace B:=znb B;exact od_
        have I:=B;replace B:=zeb B;refine Zz 5 ?_;refine aq_ (in_ nm (Con.ok_name a1)) rfl (.refl _) zt rfl λr_13 O=>Zz 4 ?_
        exact met ⟨rfl,rfl,rfl,rfl,rfl,rfl,rfl,rfl,rfl,rfl,rfl,rfl,rfl,rfl,(z_ rfl (jat I O)),trivial⟩
       refine Zz 3 ?_;exact met (zm (jof d H))
      have d:=F;simp at F
      refine Zz 11 ?_;exact hY_
     refine Zz 2 ?_;cases U
     .simp at G
      refine Zz 9 ?_;exact kk_
     simp at G
     exact gD_
    simp at L
    exact gD_
   refine Zz 5 ?_;refine F_ (cO_ rfl rfl) rfl λW e=>Zz 1 ?_
   let Pu:Array Value:=#[i4_ C,i4_ K,i4_ J,.bool true];refine aE_ 6 ((decide (lo<(-1099511627776)))||(decide (hi<lo))) (λr=>[(0,.agg (Con.cells (Con.mk k nm lo hi ad cap ps)).toArray),(1,zp_ m 0),(2,i4_ 0),(11,.bool false),(12,zp_ m 0),(13,i4_ k),(14,.pointer (some (rad (some ⟨1,0,none⟩) (k.toNat*4)))),(15,.agg Pu),(3,zp_ E 0),(39,.bool false),(40,zp_ E 3),(41,.bool true),(51,.bool r)]) ?_ λY L=>?_
   .cases W
    .have d:=e
     replace e:=zdf e;refine Zz 9 ?_;refine F_ (dq_ rfl rfl) rfl λV A=>Zz 3 ?_
     exact met (zm (jof d A))
    have d:=e;replace e:=zdt e;refine Zz 8 ?_;exact kj_
   refine Zz 1 ?_;refine aE_ 4 ((((decide (lo<(-1099511627776)))||(decide (hi<lo))))||(decide (1099511627776<hi))) (λr=>[(0,.agg (Con.cells (Con.mk k nm lo hi ad cap ps)).toArray),(1,zp_ m 0),(2,i4_ 0),(11,.bool false),(12,zp_ m 0),(13,i4_ k),(14,.pointer (some (rad (some ⟨1,0,none⟩) (k.toNat*4)))),(15,.agg Pu),(3,zp_ E 0),(39,.bool false),(40,zp_ E 3),(41,.bool true),(56,.bool r)]) ?_ λV A=>?_
   .cases Y
    .have d:=L
     simp at L
     refine Zz 5 ?_;refine F_ (dq_ rfl rfl) rfl λX F=>Zz 3 ?_
     exact met (zm (jof d F))
    have d:=L;simp at L
    refine Zz 6 ?_;exact kj_
   refine Zz 2 ?_;cases V
   .simp at A
    refine Zz 8 ?_;refine F_ (aV_ rfl rfl) rfl λX F=>Zz 1 ?_
    refine aE_ 4 ((C==0)||(bN_ nm)) (λr=>[(0,.agg (Con.cells (Con.mk k nm lo hi ad cap ps)).toArray),(1,zp_ m 0),(2,i4_ 0),(11,.bool false),(12,zp_ m 0),(13,i4_ k),(14,.pointer (some (rad (some ⟨1,0,none⟩) (k.toNat*4)))),(15,.agg Pu),(3,zp_ E 0),(39,.bool false),(40,zp_ E 3),(41,.bool true),(56,.bool false),(72,.bool r)]) ?_ λU G=>?_
    .cases X
     .have d:=F
      replace F:=znb F;refine Zz 5 ?_;refine aq_ (hM_ nm) rfl (.refl _) zt rfl λS B=>Zz 3 ?_
      exact met (zm (jof d B))
     have d:=F;replace F:=zeb F;refine Zz 6 ?_;exact hY_
    refine Zz 1 ?_;refine aE_ 9 ((((C==0)||(bN_ nm)))||(((C==2)&&(cY_ nm)))) (λr=>[(0,.agg (Con.cells (Con.mk k nm lo hi ad cap ps)).toArray),(1,zp_ m 0),(2,i4_ 0),(11,.bool false),(12,zp_ m 0),(13,i4_ k),(14,.pointer (some (rad (some ⟨1,0,none⟩) (k.toNat*4)))),(15,.agg Pu),(3,zp_ E 0),(39,.bool false),(40,zp_ E 3),(41,.bool true),(56,.bool false),(82,.bool r)]) ?_ λS B=>?_
    .cases U
     .have d:=G
      simp at G
      refine Zz 5 ?_;refine F_ (aV_ rfl rfl) rfl λZ H=>Zz 2 ?_
      refine aE_ 4 ((C==2)&&(cY_ nm)) (λr=>[(0,.agg (Con.cells (Con.mk k nm lo hi ad cap ps)).toArray),(1,zp_ m 0),(2,i4_ 0),(11,.bool false),(12,zp_ m 0),(13,i4_ k),(14,.pointer (some (rad (some ⟨1,0,none⟩) (k.toNat*4)))),(15,.agg Pu),(3,zp_ E 0),(39,.bool false),(40,zp_ E 3),(41,.bool true),(56,.bool false),(73,.bool false),(81,.bool r)]) ?_ λr_13 O=>?_
      .cases Z
       .have I:=H
        replace H:=znb H;exact od_
       have I:=H;replace H:=zeb H;refine Zz 5 ?_;refine aq_ (in_ nm (Con.ok_name a1)) rfl (.refl _) zt rfl λr_14 a2=>Zz 4 ?_
       exact met ⟨rfl,rfl,rfl,rfl,rfl,rfl,rfl,rfl,rfl,rfl,rfl,rfl,rfl,rfl,(z_ rfl (jat I a2)),trivial⟩
      refine Zz 3 ?_;exact met (zm (jof d O))
     have d:=G;simp at G
     refine Zz 11 ?_;exact hY_
    refine Zz 2 ?_;cases S
    .simp at B
     refine Zz 9 ?_;exact kk_
    simp at B
    exact gD_
   simp at A
   exact gD_
  simp at Q
  exact gD_
 simp at a0
 refine Zz 7 ?_;exact ac_ results197 () (bi_ rfl (by unfold Con.fieldErr;simp only[Con.kind,Con.parts,Con.name,Con.lo,Con.hi];repeat (first|rfl|exact (yaq_ zaa_).symm|(rw[yaq_ zaG_];first|done|rfl)|(rw[yag_ zaG_])))) (.refl _) zt
theorem BE_ {σ τ:Type} {l:Nat} {H:σ->Hp} {N:τ->Hp} {stp:Con->σ->σ ⊕ τ} {E:List Fct} {good:Con->Prop} (C:∀ c p,good c->p∈c.parts->good p)
    (T:∀ s x,x.ok->good x->kG_ prog l x.val (H s) (x.memF::E) (λ_:Unit=>.bool (stp x s).isLeft) (λ_=>tU_ H N (stp x s)) (λ_=>[])) :
    ∀ (m:Nat) (c:Con),c.sz<=m->c.ok->good c->∀ (s:σ) r,Con.fold stp c s=r->
    Tri prog 191 #[c.val,.func (.yield l) #[] #[]] (H s) (c.memF::E) (λ_:Unit=>.bool r.isLeft) (λ_=>tU_ H N r) (λ_=>[]):=by
  intro m
  induction m with
  | zero=>intro c h;have:=c.sz_pos;omega
  | succ m ih =>
    intro c hm e O s r Q;obtain⟨k,nm,lo,hi,ad,cap,ps⟩:=c;have J:=Con.ok_len e;simp only[Con.parts,Con.cap]at J;have M:∀ p∈ps,good p:=λp G=>C _ p O G
    refine j_ func191 rfl rfl ntmps191 rfl λV=>?_;refine Zz 2 ?_;refine L_ rfl rfl λA=>Zz 5 ?_
    rcases hfc:stp (.mk k nm lo hi ad cap ps) s with B|K
    . refine hF_ (ι:=Unit) (λ_=>[(1,.func (.yield l) #[] #[]),(2,zp_ A 0),(10,.bool false)]) (λ_=>(A,.cells (Con.mk k nm lo hi ad cap ps).cells.toArray 28 (0,0))::H B) (λ_=>[(Con.mk k nm lo hi ad cap ps).memF]++E) ?_ λ_=>?_
      . refine bs_ ?_;refine aO_ aP_ (ab_ rfl) rfl rfl ?_;refine aO_ aP_ (cX_ (c:=.mk k nm lo hi ad cap ps) 0 ae_ t_ rfl rfl) rfl rfl ?_;refine gO_ (T s _ e O) rfl rfl (@List.perm_append_comm _ [_] _) (λv _ h=>h) rfl λ_=>?_;rw[hfc];refine aO_ aP_ (aK_ rfl) rfl rfl ?_;refine cp_ ?_;refine dx_ rfl ?_;exact dY_ () zl (F:=[]) zaQ_ zh
      . refine Zz 14 ?_;refine bF_ [(1,.func (.yield l) #[] #[]),(12,.slice ad ps.length cap),(13,i4_ ps.length),(14,i4_ ((0:Nat):Int))] zl ?_;refine bY_ (ι:={q:Nat×σ // q.1<=ps.length/\Con.fold.folds stp (ps.take q.1) B=.inl q.2}) (λi=>[(1,.func (.yield l) #[] #[]),(12,.slice ad ps.length cap),(13,i4_ ps.length),(14,i4_ i.1.1)]) (λi=>_::H i.1.2) (λ_=>_) (λi=>ps.length - i.1.1) ⟨(0,B),by simp[Con.fold.folds]⟩ ?_;rintro ⟨⟨i,y⟩,hk⟩;refine bF_ [(1,.func (.yield l) #[] #[]),(12,.slice ad ps.length cap),(13,i4_ ps.length),(14,i4_ i)] zl ?_;refine Zj 2 (λL=>?_) λL=>?_
        . refine Zz 12 ?_;obtain rfl:r=.inl y:=by rw[<-Q,Con.fold_eq,hfc];exact Con.folds_yes (show ps.length<=i by omega) hk.2
          exact ac_ results191 () rfl (@List.perm_append_comm _ [_] _) zt
        . have I:i<ps.length:=by omega
          obtain⟨p,G⟩:∃ p,ps[i]? = some p:=⟨_,yaa_ I⟩;have d:p∈ps:=yab_ G;refine Zz 10 ?_;refine d_ (P_ af_ t_ rfl rfl (λv _ h=>Con.row_addr (c:=.mk k nm lo hi ad cap ps) h.1 G) zaa_ zaa_) rfl (d_ (ak_ (us:=p.cells) ae_ t_ rfl (λv _ h=>((Con.mem_iff (.mk k nm lo hi ad cap ps) v).1 h.1).1) p.cells_len (Con.part_cells (c:=.mk k nm lo hi ad cap ps) (i:=i) G)) rfl (C_ ba_ rfl λU=>fB_ 0 t_ rfl rfl rfl rfl (Zz 3 ?_)));rcases hfp:Con.fold stp p y with P|S
          . refine ad_ (d_ (cX_ 0 ae_ t_ rfl rfl) rfl (Zz 1 ?_));refine f_ (ih p zbx_ (Con.ok_part (c:=.mk k nm lo hi ad cap ps) e d) (M p d) y _ hfp) rfl (@List.perm_append_comm _ [_,_] _) (λv _ h=>⟨Con.mem_part (c:=.mk k nm lo hi ad cap ps) h.1 d,h.2⟩) rfl λ_=>?_;refine u_ (@List.perm_append_comm _ _ [_,_]) (d_ (aK_ rfl) rfl (Zz 10 ?_));exact w_ ⟨(i+1,P),I,Con.folds_step G hk.2 hfp⟩ zar_ zl (F:=[_]) (@List.perm_append_comm _ [_] _) zh
          . refine ad_ (d_ (cX_ 0 ae_ t_ rfl rfl) rfl (Zz 1 ?_));refine f_ (ih p zbx_ (Con.ok_part (c:=.mk k nm lo hi ad cap ps) e d) (M p d) y _ hfp) rfl (@List.perm_append_comm _ [_,_] _) (λv _ h=>⟨Con.mem_part (c:=.mk k nm lo hi ad cap ps) h.1 d,h.2⟩) rfl λ_=>?_;refine u_ (@List.perm_append_comm _ _ [_,_]) (d_ (aK_ rfl) rfl (Zz 9 ?_));obtain rfl:r=.inr S:=by rw[<-Q,Con.fold_eq,hfc];exact Con.folds_no G hk.2 hfp
            exact ac_ results191 () rfl (@List.perm_append_comm _ [_,_] _) zt
    . refine hF_ (ι:=Unit) (λ_=>[(1,.func (.yield l) #[] #[]),(2,zp_ A 0),(10,.bool true)]) (λ_=>(A,.cells (Con.mk k nm lo hi ad cap ps).cells.toArray 28 (0,0))::N K) (λ_=>[(Con.mk k nm lo hi ad cap ps).memF]++E) ?_ λ_=>?_
      . refine bs_ ?_;refine aO_ aP_ (ab_ rfl) rfl rfl ?_;refine aO_ aP_ (cX_ (c:=.mk k nm lo hi ad cap ps) 0 ae_ t_ rfl rfl) rfl rfl ?_;refine gO_ (T s _ e O) rfl rfl (@List.perm_append_comm _ [_] _) (λv _ h=>h) rfl λ_=>?_;rw[hfc];refine aO_ aP_ (aK_ rfl) rfl rfl ?_;refine cp_ ?_;refine dx_ rfl ?_;exact dY_ () zl (F:=[]) zaQ_ zh
      . refine Zz 8 ?_;obtain rfl:r=.inr K:=by rw[<-Q,Con.fold_eq,hfc]
        exact ac_ results191 () rfl (@List.perm_append_comm _ [_] _) zt
theorem zh_ (c:Con) :
    Tri prog 106 #[c.val] [] [] (λb:Nat=>.func (.func 190) #[] #[zp_ b 0]) (λb=>[(b,.cells c.cells.toArray 28 (0,0))]) (λ_=>[]):=by
  refine j_ func106 rfl rfl ntmps106 rfl λd=>?_;refine Zz 2 ?_;refine L_ rfl rfl λb1=>Zz 5 ?_
  refine d_ (bo_ rfl rfl) rfl (Zz 4 ?_);exact ac_ results106 b1 rfl (F:=[]) (.refl _) zt
theorem vZ_ {σ τ:Type} {l b:Nat} {e:σ->Hp} {m:τ->Hp} {stp:Con->σ->σ ⊕ τ} {E:List Fct} {good:Con->Prop} (d:∀ c p,good c->p∈c.parts->good p)
    (A:∀ s x,x.ok->good x->kG_ prog l x.val (e s) (x.memF::E) (λ_:Unit=>.bool (stp x s).isLeft) (λ_=>tU_ e m (stp x s)) (λ_=>[]))
    (c:Con) (k:c.ok) (y:good c) (s:σ) :
    Tri prog 190 #[.func (.yield l) #[] #[],zp_ b 0] ((b,.cells c.cells.toArray 28 (0,0))::e s) (c.memF::E) (λ_:Unit=>.tuple #[]) (λ_=>(b,.cells c.cells.toArray 28 (0,0))::tU_ e m (Con.fold stp c s)) (λ_=>[]):=by
  refine j_ func190 rfl rfl ntmps190 rfl λB=>?_;refine ad_ (d_ (cX_ (c:=c) 0 ae_ t_ rfl rfl) rfl (Zz 1 ?_));refine f_ (BE_ d A _ c (yad_ _) k y s _ rfl) rfl (@List.perm_append_comm _ [_] _) (λv _ h=>h) rfl λ_=>Zz 2 ?_
  exact cj_ results190 () rfl (F:=[]) zaQ_ zt
theorem oc_ {G:Prop} (h:G:=by
 exact tc_ (G:=[_,_,_]) () (λa v A y=>by rw[<-P];exact oS_ 1 results115 isAgg35 rfl rfl a v A y) (gn_ (i:=3) rfl) ⟨_,.refl _⟩ rfl):G:=h
theorem fh_ (c:Con) (J:c.ok):Tri prog 115 #[c.val] [] [c.memF,bE_] (λ_:Unit=>i4_ c.check) (λ_=>[]) (λ_=>[]):=by
 obtain⟨k,nm,lo,hi,ad,cap,ps⟩:=c;refine eX_ func115 rfl rfl ntmps115 rfl λH=>?_;refine Zz 2 ?_;refine L_ rfl rfl λY=>C_ zeroValue35 rfl λd=>Zz 4 ?_
 refine C_ bJ_ rfl λS=>p_ 0 R_ rfl rfl rfl rfl rfl rfl (Zz 6 ?_)
 refine pa_ 0 (fits_c _ (.mk k nm lo hi ad cap ps) (yad_ _) J 0 0 S zaa_ zaa_ _ rfl) rfl rfl zf rfl λO T=>d_ (aK_ rfl) rfl (Zz 2 ?_)
 cases O
 .refine Zz 3 ?_;refine p_ 1 sizeOf35 rfl rfl rfl rfl rfl rfl (Zz 3 ?_);exact retM () (λa v A y _=>by rw[oS_ 1 results115 isAgg35 rfl rfl a v A y];simp[Con.check, *]) (.refl _) zt
 refine Zz 7 ?_;refine f_ (zh_ (.mk k nm lo hi ad cap ps)) rfl (.refl _) zt rfl λb=>Zz 3 ?_
 refine bF_ [(2,zp_ d 0),(10,.func (.func 190) #[] #[zp_ b 0])] zl ?_;refine es_ (H':=[_,_]) (F:=[_,_]) (.cons _ (.swap _ _ _)) zh ?_;let Pu:Nat×Obj:=(d,.cells #[i4_ 0] 35 (0,0));refine qu_ (α:={c:Con // c.ok}) (xv:=λx=>x.1.val) (good:=λ_=>True) (stp:=λx=>Con.chk x.1) (Γx:=λx=>[x.1.memF,bE_]) (Γi:=[Con.memF (.mk k nm lo hi ad cap ps),bE_]) (Hj:=λ_:Unit=>[Pu]) (Hx:=λt:Int=>[(d,.cells #[i4_ t] 35 (0,0))]) (Hc:=[(b,.cells (Con.mk k nm lo hi ad cap ps).cells.toArray 28 (0,0))]) (caps:=[zp_ b 0]) () (Con.fold Con.chk (.mk k nm lo hi ad cap ps) ()) rfl (.refl _) (λv _ h=>h) ?_ ?_ ?_ ?_
 .rintro l D Z W L K U I C s ⟨x,Q⟩ -
  refine oh_ (ι:=Nat) (Hj:=λ_:Unit=>[Pu]) (Hx:=λt:Int=>[(d,.cells #[i4_ t] 35 (0,0))]) (s:=s) (res:=Con.chk x s) (Γ:=[x.memF,bE_]) (λm=>[(2,zp_ d 0),(4,zp_ m 0)]) (λm=>[(m,.cells x.cells.toArray 28 (0,0)),Pu]) W L K U rfl ?_ ?_
  .intro n H M X
   rw[I];refine bs_ ?_;refine vf_ (bI_ _) ba_ rfl λm=>?_;refine tw_ (bI_ _) 0 t_ rfl rfl rfl rfl ?_;refine cp_ ?_;refine dx_ rfl ?_;exact dY_ m zl (F:=[]) zaD_ zh
  intro n H M X m;rw[C];refine gL_ ?_;refine fS_ ?_;refine bs_ ?_;refine aO_ (bI_ _) (cX_ 0 ae_ t_ rfl rfl) rfl rfl ?_;refine yb_ (qd_ x Q) rfl (.refl _) zf rfl λ_=>?_;refine aO_ (bI_ _) (ay_ rfl) rfl rfl ?_;refine cp_ ?_;refine da_ rfl ?_;refine fS_ ?_;refine bs_ ?_;refine aO_ (bI_ _) (ab_ rfl) rfl rfl ?_;refine qJ_ (bI_ _) (cq_ rfl rfl) rfl rfl λN e=>?_;refine cp_ ?_;refine da_ rfl ?_;cases N
  .replace e:=ew_ e
   refine sY_ rfl ?_;refine qw_ ?_;refine dx_ rfl ?_;exact qx_ () (by simp[Con.chk, *]) (G:=[_]) (@List.perm_append_comm _ [_] _)
  replace e:=eu_ e;refine sX_ rfl ?_;refine fS_ ?_;refine bs_ ?_;refine aO_ (bI_ _) (ab_ rfl) rfl rfl ?_;refine eJ_ (bI_ _) 1 sizeOf35 rfl rfl rfl rfl rfl rfl ?_;refine cp_ ?_;refine da_ rfl ?_;refine hG_ ?_;exact xE_ x.fieldErr (by simp[Con.chk, *]) (G:=[_]) (@List.perm_append_comm _ [_] _)
 .intro l Gj Gx V
  exact vZ_ (E:=[bE_]) (good:=λ_=>True) (λ_ _ _ _=>trivial) (λs x Q _=>V s ⟨x,Q⟩ trivial) _ J trivial ()
 .intro s B D l r
  rw[Con.fold_chk _ _ (yad_ _)]at B;refine da_ rfl ?_;refine fS_ ?_;refine bs_ ?_;refine eJ_ aP_ 1 sizeOf35 rfl rfl rfl rfl rfl rfl ?_;refine cp_ ?_;refine da_ rfl ?_;refine hG_ ?_;have P:(0:Int)=(Con.mk k nm lo hi ad cap ps).check:=by unfold Con.check;rw[yaq_ zaf_];split at B;(rename_i h;exact h.symm);cases B
  exact oc_
 intro t B D l r;rw[Con.fold_chk _ _ (yad_ _)]at B;have P:t=(Con.mk k nm lo hi ad cap ps).check:=by unfold Con.check;rw[yaq_ zaf_];split at B;cases B;injection B with B;exact B.symm
 exact oc_
end Go.Proofs.YtbffkokbdeppaaaGreatDoor
