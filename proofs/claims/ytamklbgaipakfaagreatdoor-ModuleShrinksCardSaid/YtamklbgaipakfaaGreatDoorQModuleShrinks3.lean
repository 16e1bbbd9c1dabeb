/-
  Part of the proof of the law ModuleShrinks over this seat: the small logic, the data, the contracts of functions (no condition).
-/
import Derived.Test.YtamklbgaipakfaaGreatDoorQModuleShrinks2
import Derived.Laws.MakeOwn
import Derived.Laws.OwnMore
import Derived.Shelf.Strings.Builder1
import Derived.Shelf.Strings.Builder2
import Derived.Shelf.Strings.OnBuilder
import Derived.Shelf.Small.Bits
import Derived.Shelf.Small.Strs
import Derived.Shelf.Small.Wraps
import Derived.Shelf.Utf8.RuneCount
import Derived.Shelf.Strconv.Itoa0
import Derived.Shelf.Strconv.Itoa1
import Derived.Shelf.LaysM
import Derived.Shelf.Strconv.Itoa2
import Derived.Shelf.Strconv.Itoa3
import Derived.Shelf.Strings.Search1
import Derived.Shelf.Strings.Search2
import Derived.Shelf.Strings.Search3
import Derived.Shelf.Strings.Cut
import Derived.Shelf.Strings.Count
import Derived.Shelf.Strings.Shaped
import Derived.Shelf.Sort.Plain
import Derived.Shelf.Strings.Split
import Derived.Shelf.Strings.SplitShaped
import Derived.Shelf.Unicode.DecodeSlow
import Derived.Shelf.Slices.Reverse
import Derived.Shelf.Slices.CompactS
import Derived.Ground.Names2Prog
import Derived.Shelf.Slices.SearchI
import Derived.Shelf.Slices.Cells
import Derived.Shelf.Slices.In.SortNone
import Derived.Ground.SlgnProg
import Derived.Shelf.SlicesE.Clone
import Derived.Test.YtamklbgaipakfaaGreatDoorProg
import Derived.Test.YtamklbgaipakfaaGreatDoorQModuleShrinks1
set_option linter.unusedVariables false
set_option linter.unusedSimpArgs false
set_option linter.unusedSectionVars false
set_option maxHeartbeats 1000000
namespace Go.Sx
open Go
section
variable {P:Program} {N:Nf} {v0:Vw} {H0:Hp} {R:Exit→Act→World→Prop} {K:List Kt} {fr:Fr} {H:Hp} {Γ:List Fct}
variable {ops:Array Oper} {l:List Oper} {d:Nat} {ty:TypeId} {ps:String} {af:Array Edge}
theorem kW_ {t:TypeId} {x:Operand} {b n:Nat} (i:Nat) {T:TypeId} {fz:Nat×Nat} {us:List Value} (ha:∀ w,(isAgg t).run P w=.ok true w) (hs:∀ w,(sizeOf t).run P w=.ok n w) (hn:us.length=n)
    (hx:Fr.ev fr x=some (.pointer (some ⟨b,0,none⟩))) (hi:H[i]? = some (b,.cells us.toArray T fz)):Yld P N fr H Γ (.load t x) ty (.agg us.toArray) :=
  bs_ i ha hs hx hi (by have:=nV_ us;rw[hn]at this;exact this)
theorem kf_ {t:TypeId} {x y:Operand} {b n:Nat} (i:Nat) {cur:Array Value} {T:TypeId} {us:List Value} (hs:∀ w,(sizeOf t).run P w=.ok n w) (hn:us.length=n) (h1:us.all Value.oneCell'=true)
    (hx:Fr.ev fr x=some (.pointer (some ⟨b,0,none⟩))) (hy:Fr.ev fr y=some (.agg us.toArray)) (hi:H[i]? = some (b,.cells cur T (0,0))) (hc:cur.size=n)
    (hk:Ops P R N v0 H0 ops l K fr (H.set i (b,.cells us.toArray T (0,0))) Γ) :
    Ops P R N v0 H0 ops (⟨none,.store t x y,ty,ps,af,none⟩::l) K fr H Γ:=by
  refine n_ i hs hx hy hi (by simp[Value.cells,hn]) (by simp[hc]) h1 ?_
  have e:(cur.toList.take 0++(Value.agg us.toArray).cells.toList++cur.toList.drop (0+n)).toArray=us.toArray:=by
    have h5:cur.toList.length=n:=by simp[hc]
    simp[Value.cells,List.drop_of_length_le (show cur.toList.length≤n by omega)]
  rw[e]
  exact hk
theorem ro_ {b k:Nat} {cur:Array Value} {T:TypeId} {fz:Nat×Nat} {cs:List Value} (i:Nat) (hi:H[i]? = some (b,.cells cur T fz)) (hc:cur.toList.take k=cs):∀ v:Vw,v.sat H→ag_ Γ v→∀ j u,cs[j]? = some u→v.w.cell? ((⟨b,0,none⟩:Addr).add j)=some u:=by
 intro v h1 _ j u hj
 rw[cp_,Nat.zero_add,ei_ h1 hi]
 rw[← hc,List.getElem?_take]at hj
 split at hj
 ·exact hj
 cases hj
theorem cC_ {k:Act→World→Prop} {e:TypeId} {sz n:Nat} {sv:Value} {xs:List Value} {Hr F:Hp} (hr:ar_ e sz sv n xs Hr) (hH:H.Perm (Hr++F))
    (h:∀ ad cap,sv=.slice ad n cap→n≤cap→cap≤maxLen→Ok N v0 H0 k fr F (ac_ ad xs::Γ)):Ok N v0 H0 k fr H Γ:=by
  rcases hr.2 with⟨h1,h2,h3⟩|⟨g,cap,cur,h1,h2,h3,h4,h5,h6⟩
  · subst h1 h2 h3
    have hx:xs=[]:=List.eq_nil_of_length_eq_zero (by simpa using hr.1)
    refine u_ hH (fe_ (Γ':=ac_ none xs::Γ) (fun v _ hg=>⟨.inl hx,hg⟩) (h none 0 rfl (Nat.le_refl _) (Nat.zero_le _)))
  · subst h1 h2
    refine eD_ (ac_ (some ⟨g,0,none⟩) xs) hH (fun v i1 i2 _=>.inr ⟨g,0,cur,e,(0,0),rfl,i1,i2,fun j x hj=>?_⟩) (h _ cap rfl h3 h4)
    rw[← h6,List.getElem?_take]at hj
    split at hj
    · rw[Nat.zero_add];simpa using hj
    · cases hj
end
end Go.Sx
namespace Go.Vs
open Go Go.Sx
theorem Con.one_cells (c:Con):c.cells.all Value.oneCell'=true:=mO_ c
theorem Ax.one_cells (x:Ax):x.cells.all Value.oneCell'=true:=by
  simp only[Ax.cells,List.all_cons,List.all_append,Con.one_cells];rfl
def aR_ (ad:Option Addr) (l:List Ax):Fct where
  p:=fun v=>bA_ v ad (l.flatMap Ax.cells)∧∀ x∈l,x.mem v
  mono:=fun v v' h hp=>⟨(ac_ ad _).mono v v' h hp.1,fun x hx=>x.memF.mono v v' h (hp.2 x hx)⟩
theorem tk_ (frm:Int) (l:List Pc) (p:Pc):ins frm l p≠[]:=by
 unfold ins
 split
 ·rename_i h;intro e;rw[e]at h;simp at h
 simp
theorem Ax.chainP_ne (frm:Int) (ro:Str):∀ (rs:List Str) (f:Str) (l:List Pc),rs≠[]∨l≠[]→Ax.chainP frm ro rs f l≠[]
  | [],f,l,h=>by rcases h with h|h;exact absurd rfl h;exact h
  | r::t,f,l,_=>by simp only[Ax.chainP];exact Ax.chainP_ne frm ro t _ _ (.inr (tk_ _ _ _))
theorem Ax.pieces_ne (frm:Int) {x:Ax} (G:x.Good):x.pieces frm≠[]:=by
  unfold Ax.pieces
  repeat' split
  all_goals first|exact tk_ _ _ _|skip
  rename_i h6
  have:=G.chain h6
  exact Ax.chainP_ne _ _ _ _ _ (.inl (by intro e;rw[List.drop_eq_nil_iff]at e;omega))
def dM_:List Ax→Int
  | []=>0
  | x::l=>if x.check=0 then dM_ l else x.check
def ex_:Nat→List Ax→List Pc→Option (List Pc)
  | _,[],p=>some p
  | i,x::l,p=>if 16384<(p++x.pieces i).length then none else ex_ (i+1) l (p++x.pieces i)
def ad_ (l:List Ax):List Pc×Int :=
  if 1024<l.length then ([],2) else if dM_ l≠0 then ([],dM_ l) else match ex_ 0 l [] with|some p=>(p,0)|none=>([],2)
theorem gi_:∀ (xs ys:List Ax),(∀ x∈xs,x.check=0)→dM_ (xs++ys)=dM_ ys
  | [],_,_=>rfl
  | x::xs,ys,h=>by simp only[List.cons_append,dM_,h x (by simp),if_true];exact gi_ xs ys fun y hy=>h y (by simp[hy])
theorem eE_:∀ {l:List Ax},(∀ x∈l,x.check=0)→dM_ l=0
  | [],_=>rfl
  | x::l,h=>by simp only[dM_,h x (by simp),if_true];exact eE_ fun y hy=>h y (by simp[hy])
theorem og_ {l:List Ax} {x:Ax} {i:Nat} (hx:l[i]? = some x) (h:∀ y∈l.take i,y.check=0) (hb:x.check≠0):dM_ l=x.check:=by
  have e:l=l.take i++x::l.drop (i+1):=by rw[← ik_ hx,List.take_append_drop]
  rw[e,gi_ _ _ h]
  simp only[dM_,hb,if_false]
theorem kc_ (frm:Int) {x:Ax} (G:x.Good):(x.pieces frm).length≤1000:=by
 have hl:x.kind≤3→x.left.sz≤64:=fun h=>(Con.check_zero (G.left h)).2
 have hr:x.kind≤4∨x.kind=8→x.right.sz≤64:=fun h=>(Con.check_zero (G.right h)).2
 have hc:∀ (ro:Str) (rs:List Str) (f:Str) (l:List Pc),(Ax.chainP frm ro rs f l).length≤l.length+rs.length:=by
   intro ro rs
   induction rs with
   | nil=>intro f l;simp[Ax.chainP]
   | cons r t ih =>
     intro f l
     simp only[Ax.chainP]
     have h1:=ih (if t=[] then ro else f++[46]++r) (ins frm l ⟨6,[],[],[],f,r,if t=[] then ro else f++[46]++r,0,0,0⟩)
     have h2:=aT_ frm l ⟨6,[],[],[],f,r,if t=[] then ro else f++[46]++r,0,0,0⟩
     simp only[List.length_cons]
     omega
 have L:=fun (c:Con) l=>Con.leftP_len frm _ c (Nat.le_refl _) l
 have Rr:=fun (c:Con) l=>Con.rightP_len frm _ c (Nat.le_refl _) l
 have h0:([]:List Pc).length=0:=rfl
 unfold Ax.pieces
 split
 ·have:=hl (by omega);have:=hr (by omega)
  have a1:=L x.left [];have a2:=Rr x.right (x.left.leftP frm []);have a3:=aT_ frm (x.right.rightP frm (x.left.leftP frm [])) ⟨1,x.left.atom,[],x.right.atom,[],[],[],0,0,0⟩
  omega
 split
 ·have:=hl (by omega);have:=hr (by omega)
  have a1:=L x.left [];have a2:=Rr x.right (x.left.leftP frm []);have a3:=aT_ frm (x.right.rightP frm (x.left.leftP frm [])) ⟨1,x.left.atom,[],x.right.atom,[],[],[],0,0,0⟩
  have a4:=L x.right (ins frm (x.right.rightP frm (x.left.leftP frm [])) ⟨1,x.left.atom,[],x.right.atom,[],[],[],0,0,0⟩)
  have a5:=Rr x.left (x.right.leftP frm (ins frm (x.right.rightP frm (x.left.leftP frm [])) ⟨1,x.left.atom,[],x.right.atom,[],[],[],0,0,0⟩))
  have a6:=aT_ frm (x.left.rightP frm (x.right.leftP frm (ins frm (x.right.rightP frm (x.left.leftP frm [])) ⟨1,x.left.atom,[],x.right.atom,[],[],[],0,0,0⟩))) ⟨1,x.right.atom,[],x.left.atom,[],[],[],0,0,0⟩
  omega
 split
 ·have:=hl (by omega);have:=hr (by omega)
  have a1:=L x.left [];have a2:=L x.right (x.left.leftP frm []);have a3:=aT_ frm (x.right.leftP frm (x.left.leftP frm [])) ⟨2,x.left.atom,x.right.atom,[33],[],[],[],0,0,0⟩
  omega
 split
 ·have:=hr (by omega)
  have a1:=Rr x.right [];have a3:=aT_ frm (x.right.rightP frm []) ⟨4,[42],[],x.right.atom,x.role,[],[],0,0,0⟩
  omega
 split
 ·have:=aT_ frm [] ⟨5,[],[],[],x.roles.headD [],[],x.role,0,0,0⟩;omega
 split
 ·rename_i h6
  have:=G.chain h6
  have:=hc x.role (x.roles.drop 1) (x.roles.headD []) []
  simp only[List.length_drop]at this
  omega
 split
 ·have:=aT_ frm [] ⟨7,[],[],[],x.role,[],[],0,0,0⟩;omega
 split
 ·have:=hr (by omega)
  have a1:=Rr x.right [];have a3:=aT_ frm (x.right.rightP frm []) ⟨1,[123]++x.a++[125],[],x.right.atom,[],[],[],0,0,0⟩
  omega
 have:=aT_ frm [] ⟨3,[123]++x.a++[125],[],[123]++x.b++[125],x.role,[],[],0,0,0⟩;omega
end Go.Vs
namespace Go.Vs
open Go Go.Sx
def bF_ (c:UInt8):Str→List Str
  | []=>[[]]
  | b::s=>if b=c then []::bF_ c s else match bF_ c s with
    | h::t=>(b::h)::t
    | []=>[[b]]
def tD_ (c:UInt8) (s:Str):Nat:=s.countP (·==c)
theorem lf_ (c:UInt8):∀ s,bF_ c s≠[]
 | []=>by simp[bF_]
 | b::s=>by
   simp only[bF_]
   split
   · simp
   · split<;>simp
theorem ht_ (c:UInt8):∀ s,(bF_ c s).length=tD_ c s+1
 | []=>by simp[bF_,tD_]
 | b::s=>by
   have ih:=ht_ c s
   simp only[bF_]
   by_cases h:b=c
   · simp only[h,if_true,List.length_cons,ih,tD_,List.countP_cons,beq_self_eq_true]
   · simp only[h,if_false]
     cases hs:bF_ c s with
     | nil=>exact absurd hs (lf_ c s)
     | cons x t =>
       rw[hs]at ih
       simp only[List.length_cons]at ih ⊢
       simp only[tD_,List.countP_cons,beq_iff_eq,h,if_false,Nat.add_zero]at ih ⊢
       exact ih
theorem gu_ {c:UInt8}:∀ {s:Str},ixS c s=none→bF_ c s=[s]
 | [],_=>rfl
 | b::s,h=>by
   simp only[ixS]at h
   split at h
   · cases h
   · rename_i hb
     have hs:ixS c s=none:=by simpa using h
     simp only[bF_,hb,if_false,gu_ hs]
theorem qu_ (c:UInt8) (s:Str):tD_ c s≤s.length:=List.countP_le_length
def bX_ (s:Str):Bool :=
  if s=[42]∨s=[33] then true
  else if 2≤s.length∧s[0]? = some 123∧s[s.length - 1]? = some 125 then aQ_ ((s.drop 1).take (s.length - 1 - 1))
  else if 3≤s.length∧s[0]? = some 60∧s[s.length - 1]? = some 62 then true
  else aQ_ s
def ed_ (s:Str):Bool:=decide ((bF_ 46 s).length≤4)&&!((bF_ 46 s).any fun r=>!aQ_ r)
def hA_ (used:Bool) (s:Str) (q:Str→Bool):Bool:=(used&&q s)||(!used&&(s==[]))
def Pc.valid (p:Pc):Bool :=
  if p.kind<1∨9<p.kind∨p.frm < -1∨1024≤p.frm then false
  else if (nus p.kind).numbers=true∧(p.lo < -1099511627776∨p.hi<p.lo∨1099511627776<p.hi) then false
  else if (nus p.kind).numbers=false∧(p.lo≠0∨p.hi≠0) then false
  else ((((hA_ (nus p.kind).a p.a bX_&&hA_ (nus p.kind).b p.b bX_)&&hA_ (nus p.kind).c p.c bX_)&&hA_ (nus p.kind).r p.r (if (nus p.kind).numbers then aQ_ else ed_))&&hA_ (nus p.kind).s p.s ed_)&&hA_ (nus p.kind).t p.t ed_
structure Pc.sm (p:Pc):Prop where
  a:p.a.length≤17592186044414
  b:p.b.length≤17592186044414
  c:p.c.length≤17592186044414
  r:p.r.length≤17592186044414
  s:p.s.length≤17592186044414
  t:p.t.length≤17592186044414
end Go.Vs
namespace Go.Sx
open Go
section
variable {H r r' d t:Hp} {b:Nat×Obj} {O:Hp}
theorem e_:H.Perm ([]++H):=.refl _
theorem i_:(b::r).Perm ([b]++r):=.refl _
theorem aI_:(O++r).Perm (O++r):=.refl _
theorem l_ (h:H.Perm (t++r)):(b::H).Perm (t++(b::r)):=(h.cons b).trans List.perm_middle.symm
theorem an_ (h:H.Perm (t++r)):(O++H).Perm (t++(O++r)):=(List.Perm.append_left O h).trans (by
  rw[← List.append_assoc,← List.append_assoc]
  exact List.Perm.append_right r List.perm_append_comm)
theorem V_ (h1:H.Perm ([b]++r)) (h2:r.Perm (d++r')):H.Perm ((b::d)++r'):=h1.trans (h2.cons b)
theorem bi_ (h1:H.Perm (O++r)) (h2:r.Perm (d++r')):H.Perm ((O++d)++r'):=by
  rw[List.append_assoc]
  exact h1.trans (List.Perm.append_left O h2)
theorem am_:H.Perm (H++[]):=by rw[List.append_nil]
end
theorem nr_:∀ xs:List (List UInt8),xs.flatMap aJ_=xs.map str
  | []=>rfl
  | x::xs=>by simp only[List.flatMap_cons,nr_ xs,List.map_cons];rfl
def ct_ (n:Int):List Value:=[.int .i64 n]
theorem aS_ (n:Int):(ct_ n).length=1:=rfl
section
variable {P:Program} {N:Nf} {v0:Vw} {H0:Hp} {R:Exit→Act→World→Prop} {K:List Kt} {fr:Fr} {H:Hp} {Γ:List Fct}
theorem ai_ {k:Act→World→Prop} {b:Nat} {cs:List Value} {T:TypeId} {fz:Nat×Nat} {F:Hp} (xs:List Value) (hH:H.Perm ([(b,.cells cs.toArray T fz)]++F)) (hx:cs=xs) (h:Ok N v0 H0 k fr F (ac_ (some ⟨b,0,none⟩) xs::Γ)):Ok N v0 H0 k fr H Γ :=
  eD_ (ac_ (some ⟨b,0,none⟩) xs) hH (fun v h1 h2 _=>.inr ⟨b,0,cs.toArray,T,fz,rfl,h1,h2,fun j x hj=>by rw[Nat.zero_add,hx];simpa using hj⟩) h
theorem satNil {v:Vw} (h:v.sat H):v.sat []:=⟨(fun _ h=>by cases h),(by simp),h.lt⟩
variable {ops:Array Oper} {l:List Oper} {d:Nat} {ty:TypeId} {ps:String} {af:Array Edge}
theorem tV_ {t t':TypeId} {x y:Operand} {m n:Int} (hx:Fr.ev fr x=some (.int .i64 m)) (hy:Fr.ev fr y=some (.int .i64 n)) (hn:n≠0) (hw:IntKind.wrap .i64 (m.tdiv n)=m.tdiv n) :
    Yld P N fr H Γ (.binOp .quo t x y t') ty (.int .i64 (m.tdiv n)) :=
  fun a v h1 _ _ _ _ _=>by simp[execOp,h1.ev hx,h1.ev hy,eqGuard,binOp,Op.intDiv,hn,hw]
theorem sy_ {b cap n:Nat}:sad (some ⟨b,0,none⟩) cap 0 n=some ⟨b,0,none⟩:=by unfold sad;split<;>simp[cp_]
end
theorem qM_ {cs us ws:List Value} {k:Nat} (off:Nat) (h:∀ j y,us[j]? = some y→cs[k+j]? = some y) (hw:∀ (j:Nat) y,ws[j]? = some y→us[off+j]? = some y):∀ j y,ws[j]? = some y→cs[k+off+j]? = some y:=fun j y hj=>by
  rw[Nat.add_assoc];exact h _ _ (hw j y hj)
end Go.Sx
namespace Go.Sx
open Go
section
variable {P:Program} {N:Nf} {v0:Vw} {H0:Hp} {R:Exit→Act→World→Prop} {K:List Kt} {fr:Fr} {H:Hp} {Γ:List Fct}
variable {ops:Array Oper} {l:List Oper} {d:Nat} {ty:TypeId} {ps:String} {af:Array Edge}
theorem nO_ {x y:Operand} {t e:TypeId} {sz by' n m c:Nat} {sv:Value} {xs news:List Value} {Hr F:Hp} {ad:Option Addr} (he:Elt P t e sz by') (hrow:ar_ e sz sv n xs Hr)
    (hx:Fr.ev fr x=some sv) (hy:Fr.ev fr y=some (.slice ad m c)) (hz:ad=none→c=0) (hmc:m≤c) (hH:H.Perm (Hr++F)) (hl:news.length=m*sz) (hnews:∀ v,v.sat H→ag_ Γ v→bA_ v ad news) (h1c:∀ u∈news,u.oneCell'=true)
    (h63:n+m≤maxLen) (hb:(n+m)*by'≤140737488355328) (hN:Nat.blt d N.n=true)
    (hk:∀ sv' Hr',ar_ e sz sv' (n+m) (xs++news) Hr'→Ops P R N v0 H0 ops l K ((d,sv')::fr) (Hr'++F) Γ) :
    Ops P R N v0 H0 ops (⟨some d,.call ⟨.builtin .append,#[x,y],#[t,t]⟩,ty,ps,af,none⟩::l) K fr H Γ:=by
  cases ad with
  | none =>
    obtain rfl:=hz rfl
    obtain rfl:m=0:=by omega
    obtain rfl:news=[]:=List.eq_nil_of_length_eq_zero (by simpa using hl)
    refine cF_ rfl fun a v h1 h2 h3 h4=>?_
    obtain⟨i,z,hi,hz,es,eb,ez⟩:=he.info
    have g:=h2.perm hH
    have ho:=hrow.owns g
    have hr:=run_append_owned_none (P:=P) (w:=v.w) 0 t ty e i sz he.und hi sv n xs ho
    unfold Oper.wp execOp
    simp only[resolve,invoke,builtin,Sem.run_bind,Sem.run_pure,Result.andThen_ok,List.map_toArray,List.map_cons,List.map_nil,h1.ev hx,h1.ev hy,hr]
    have T:v.to H v (Hr++F):=(Vw.to.refl v (Hr++F)).permL hH.symm
    exact hk sv Hr (by simpa using hrow) _ v (h1.put hN) g (h3.trans T) h4
  | some a0 =>
    refine aX_ he hrow hx hy hH hl (fun v h2 h4 j u hj=>?_) h1c h63 hb hN hk
    rcases hnews v h2 h4 with h|⟨b,off,arr,T,fz,h1,_,h3,h5⟩
    · rw[h]at hj;simp at hj
    · rw[Option.some.injEq]at h1
      subst h1
      have:=h5 j u hj
      rw[cp_]
      simp[World.cell?,h3,this]
theorem bu_ {k:Act→World→Prop} {e:TypeId} {sz n:Nat} {sv:Value} {xs:List Value} {Hr F:Hp} (hr:ar_ e sz sv n xs Hr) (hH:H.Perm (Hr++F))
    (h:∀ ad cap,sv=.slice ad n cap→n≤cap→cap≤maxLen→(ad=none→cap=0)→Ok N v0 H0 k fr F (ac_ ad xs::Γ)):Ok N v0 H0 k fr H Γ:=by
  refine cC_ hr hH fun ad cap e1 e2 e3=>h ad cap e1 e2 e3 fun e4=>?_
  rcases hr.2 with⟨h1,_,_⟩|⟨g,c,cur,h1,_⟩
  · rw[h1]at e1
    simp only[Value.slice.injEq]at e1
    exact e1.2.2.symm
  · rw[h1,e4]at e1
    simp at e1
end
end Go.Sx
namespace Go.Sx
open Go
section
variable {P:Program} {N:Nf} {fr:Fr} {H:Hp} {Γ:List Fct} {ty:TypeId} {e:TypeId} {sz n:Nat} {sv:Value} {xs:List Value} {Hr F:Hp}
theorem dO_ {O:Hp}:List.Perm (O++[]) O:=by rw[List.append_nil]
theorem br_ {O Q:Hp}:List.Perm (Q++O) (O++Q):=List.perm_append_comm
theorem au_ {O:Hp} {b:Nat×Obj}:List.Perm (b::O) (O++[b]):=List.perm_append_comm (l₁:=[b])
def svB:Value→Nat
  | .slice (some a) _ _=>a.block
  | _=>0
theorem du_ {x:Operand} {t e':TypeId} (hrow:ar_ e sz sv n xs Hr) (hu:∀ w,(underlying t).run P w=.ok (.slice e') w) (hx:Fr.ev fr x=some sv):Yld P N fr H Γ (.call ⟨.builtin .len,#[x],#[t]⟩) ty (.int .i64 (n:Int)):=by
 rcases hrow.2 with⟨rfl,rfl,_⟩|⟨g,cap,cur,rfl,_⟩
 ·exact dl_ hu hx
 exact dl_ hu hx
theorem bv_ {x y:Operand} {t e':TypeId} {k:IntKind} {i:Int} (hrow:ar_ e sz sv n xs Hr) (hu:∀ w,(underlying t).run P w=.ok (.slice e') w) (hs:∀ w,(sizeOf e').run P w=.ok sz w) (hx:Fr.ev fr x=some sv) (hy:Fr.ev fr y=some (.int k i)) (h0:0≤i) (hl:i<n) :
    Yld P N fr H Γ (.indexAddr t x y) ty (.pointer (some ⟨svB sv,i.toNat*sz,none⟩)):=by
  rcases hrow.2 with⟨_,h2,_⟩|⟨g,cap,cur,rfl,_⟩
  · omega
  · have:=gN_ (P:=P) (N:=N) (H:=H) (Γ:=Γ) (ty:=ty) hu hs hx hy h0 hl
    rw[Nat.zero_add]at this
    exact this
theorem eq_ {x:Operand} {t:TypeId} {k m:Nat} {us:List Value} (hrow:ar_ e sz sv n xs Hr) (hH:H.Perm (Hr++F)) (ha:∀ w,(isAgg t).run P w=.ok true w) (hs:∀ w,(sizeOf t).run P w=.ok m w) (hx:Fr.ev fr x=some (.pointer (some ⟨svB sv,k,none⟩)))
    (hn:us.length=m) (hp:0<m) (hu:∀ j y,us[j]? = some y→xs[k+j]? = some y):Yld P N fr H Γ (.load t x) ty (.agg us.toArray):=by
  rcases hrow.2 with⟨_,h2,_⟩|⟨g,cap,cur,rfl,rfl,h3,h4,h5,h6⟩
  · subst h2
    have h1:=hrow.1
    have:xs=[]:=List.eq_nil_of_length_eq_zero (by simpa using h1)
    subst this
    have:=hu 0 us[0] (List.getElem?_eq_getElem (by omega))
    simp at this
  · refine fu_ hx fun v h2 _=>dm_ ha hs hn fun j y hj=>?_
    have hb:=((h2.perm hH).own _ (List.mem_append_left _ List.mem_cons_self)).1
    have hc:=hu j y hj
    rw[← h6,List.getElem?_take]at hc
    split at hc
    · have hc':cur[k+j]? = some y:=by simpa using hc
      simp only[svB,World.cell?,hb,Option.isSome_none,Bool.false_eq_true,if_false]
      exact hc'
    · cases hc
end
end Go.Sx
namespace Go.Sx
open Go
section
variable {P:Program} {N:Nf} {fr:Fr} {H:Hp} {Γ:List Fct} {ty:TypeId} {e:TypeId} {sz n:Nat} {sv:Value} {xs:List Value} {Hr F:Hp}
theorem dg_ {x:Operand} {t:TypeId} {k:Nat} {u:Value} (hrow:ar_ e sz sv n xs Hr) (hH:H.Perm (Hr++F)) (ha:∀ w,(isAgg t).run P w=.ok false w) (hx:Fr.ev fr x=some (.pointer (some ⟨svB sv,k,none⟩)))
    (hu:xs[k]? = some u):Yld P N fr H Γ (.load t x) ty u:=by
  rcases hrow.2 with⟨_,h2,_⟩|⟨g,cap,cur,rfl,rfl,h3,h4,h5,h6⟩
  · subst h2
    have:xs=[]:=List.eq_nil_of_length_eq_zero (by simpa using hrow.1)
    subst this;simp at hu
  · refine fu_ hx fun v h2 _=>bH_ ha ?_
    have hb:=((h2.perm hH).own _ (List.mem_append_left _ List.mem_cons_self)).1
    rw[← h6,List.getElem?_take]at hu
    split at hu
    · have hc':cur[k]? = some u:=by simpa using hu
      simp only[svB,World.cell?,hb,Option.isSome_none,Bool.false_eq_true,if_false]
      exact hc'
    · cases hu
theorem db_ (h:ar_ e sz sv n xs Hr):sv.cells=#[sv]∧sv.oneCell'=true:=by
  rcases h.2 with⟨rfl,_⟩|⟨g,cap,cur,rfl,_⟩<;>exact⟨rfl,rfl⟩
theorem cs_ {v0:Vw} {H0:Hp} {R:Exit→Act→World→Prop} {K:List Kt} {ops:Array Oper} {l:List Oper} {ps:String} {af:Array Edge} {t:TypeId} {x y:Operand} {b off:Nat} (i:Nat) {cur:Array Value} {T:TypeId} (hrow:ar_ e sz sv n xs Hr) (hs:∀ w,(sizeOf t).run P w=.ok 1 w)
    (hx:Fr.ev fr x=some (.pointer (some ⟨b,off,none⟩))) (hy:Fr.ev fr y=some sv) (hi:H[i]? = some (b,.cells cur T (0,0))) (hf:Nat.ble (off+1) cur.size=true)
    (hk:Ops P R N v0 H0 ops l K fr (H.set i (b,.cells (cur.toList.take off++[sv]++cur.toList.drop (off+1)).toArray T (0,0))) Γ):Ops P R N v0 H0 ops (⟨none,.store t x y,ty,ps,af,none⟩::l) K fr H Γ :=
  n_ i hs hx hy hi (by rw[(db_ hrow).1];rfl) hf (by rw[(db_ hrow).1];simp[(db_ hrow).2]) (by rw[(db_ hrow).1];exact hk)
theorem rp_ {b:Nat} {cs:List Value} {T:TypeId} {fz:Nat×Nat} (hp:H.Perm ([(b,.cells cs.toArray T fz)]++F)):∀ v:Vw,v.sat H→ag_ Γ v→∀ j u,cs[j]? = some u→v.w.cell? ((⟨b,0,none⟩:Addr).add j)=some u:=by
  intro v h1 h2 j u hj
  exact bC_ (Γ:=Γ) 0 rfl v (h1.perm hp) h2 j u hj
theorem nd_ {t t':TypeId} {x y:Operand} {m n:Bool} (hu:P.underlying t=some .bool) (hx:Fr.ev fr x=some (.bool m)) (hy:Fr.ev fr y=some (.bool n)):Yld P N fr H Γ (.binOp .eql t x y t') ty (.bool (m==n)) :=
  fun a v h1 _ _ _ _ _=>by simp[execOp,h1.ev hx,h1.ev hy,eqGuard,binOp,run_equal_bool v.w t m n hu]
theorem bY_ {α:Type} {f:α→List Value} (hf:∀ x,(f x).all Value.oneCell'=true) {l:List α} {u:Value} (h:u∈l.flatMap f):u.oneCell'=true:=by
  obtain⟨y,_,hy⟩:=List.mem_flatMap.1 h
  exact List.all_eq_true.1 (hf y) u hy
end
end Go.Sx
namespace Go.Vs
open Go Go.Sx
structure RevI (L M:List Int) (k:Nat):Prop where
  len:M.length=L.length
  k2:2*k≤L.length+1
  get:∀ i:Nat,i<L.length→M[i]? = if i<k∨L.length≤i+k then L[L.length - 1 - i]? else L[i]?
theorem RevI.zero (L:List Int):RevI L L 0:=⟨rfl,by omega,fun i hi=>by rw[if_neg (by omega)]⟩
theorem RevI.step {L M:List Int} {k:Nat} {a b:Int} (h:RevI L M k) (hk:(k:Int)<(L.length:Int) - 1 - (k:Int)) (ha:M[L.length - 1 - k]? = some a) (hb:M[k]? = some b):RevI L ((M.set k a).set (L.length - 1 - k) b) (k+1):=by
 have hl:=h.len
 refine⟨by simp[hl],by omega,fun i hi=>?_⟩
 have ga:=h.get (L.length - 1 - k) (by omega)
 have gb:=h.get k (by omega)
 rw[if_neg (by omega)]at ga gb
 rw[List.getElem?_set,List.getElem?_set,List.length_set]
 by_cases e1:L.length - 1 - k=i
 ·rw[if_pos e1,if_pos (by omega),if_pos (by omega)]
  rw[← hb,gb];congr 1;omega
 rw[if_neg e1]
 by_cases e2:k=i
 ·rw[if_pos e2,if_pos (by omega),if_pos (by omega),← ha,ga,e2]
 rw[if_neg e2,h.get i hi]
 by_cases e3:i<k∨L.length≤i+k
 ·rw[if_pos e3,if_pos (by omega)]
 rw[if_neg e3,if_neg (by omega)]
theorem RevI.done {L M:List Int} {k:Nat} (h:RevI L M k) (hk:¬ (k:Int)<(L.length:Int) - 1 - (k:Int)):M=L.reverse:=by
 apply List.ext_getElem?
 intro i
 by_cases hi:i<L.length
 ·rw[h.get i hi,List.getElem?_reverse hi]
  by_cases e:i<k∨L.length≤i+k
  ·rw[if_pos e]
  rw[if_neg e];congr 1;omega
 rw[List.getElem?_eq_none (by rw[h.len];omega),List.getElem?_eq_none (by simp;omega)]
end Go.Vs
namespace Go.Vs
open Go Go.Sx
def qL_ (a c:Str):Pc:=⟨1,a,[],c,[],[],[],0,0,0⟩
def aY_ (frm:Int):List Str→List Pc→List Pc
  | [],l=>l
  | a::r,l=>aY_ frm r (ins frm l (qL_ a [42]))
theorem dX_ (frm:Int):∀ (r:List Str) (l:List Pc),(aY_ frm r l).length≤l.length+r.length
  | [],l=>by simp[aY_]
  | a::r,l=>by
    have h1:=dX_ frm r (ins frm l (qL_ a [42]))
    have h2:=aT_ frm l (qL_ a [42])
    simp only[aY_,List.length_cons]
    omega
theorem hZ_ (frm:Int):∀ (xs ys:List Str) (l:List Pc),aY_ frm (xs++ys) l=aY_ frm ys (aY_ frm xs l)
  | [],_,_=>rfl
  | x::xs,ys,l=>by simp only[List.cons_append,aY_];exact hZ_ frm xs ys _
theorem pf_ (frm:Int) {xs:List Str} {a:Str} {i:Nat} (hp:xs[i]? = some a) (l:List Pc):aY_ frm (xs.take (i+1)) l=ins frm (aY_ frm (xs.take i) l) (qL_ a [42]):=by
  rw[List.take_add_one,hp,Option.toList_some,hZ_];rfl
def dH_ (s:Str):Str:=[123]++s++[125]
def Ax.disj (x:Ax):Str:=[60]++x.left.operandN++[32,97,110,100,32]++x.right.operandN++[62]
def Ax.doms (x:Ax):Str:=[60,115,111,109,101,32]++x.role++[32,101,118,101,114,121,116,104,105,110,103,62]
def Ax.goalP (x:Ax):List Pc×List Fc×Int :=
  if x.check≠0 then ([],[],x.check)
  else if x.kind=1 then (x.right.leftP (-1) (x.left.rightP (-1) (aY_ (-1) [x.left.atom,x.right.atom] [])),[⟨1,x.left.atom,x.right.atom,[],0,0⟩],0)
  else if x.kind=2 then (x.left.leftP (-1) (x.right.rightP (-1) (x.right.leftP (-1) (x.left.rightP (-1) (aY_ (-1) [x.left.atom,x.right.atom] [])))),[⟨1,x.left.atom,x.right.atom,[],0,0⟩,⟨1,x.right.atom,x.left.atom,[],0,0⟩],0)
  else if x.kind=3 then (x.right.rightP (-1) (ins (-1) (x.left.rightP (-1) (ins (-1) (aY_ (-1) [x.disj,[33]] []) (qL_ x.disj x.left.atom))) (qL_ x.disj x.right.atom)),[⟨1,x.disj,[33],[],0,0⟩],0)
  else if x.kind=4 then (x.right.leftP (-1) (ins (-1) (aY_ (-1) [x.doms,x.right.atom] []) ⟨3,x.doms,[],[42],x.role,[],[],0,0,0⟩),[⟨1,x.doms,x.right.atom,[],0,0⟩],0)
  else if x.kind=8 then (x.right.leftP (-1) (aY_ (-1) [dH_ x.a,x.right.atom] []),[⟨1,dH_ x.a,x.right.atom,[],0,0⟩],0)
  else if x.kind=9 then (aY_ (-1) [dH_ x.a,dH_ x.b] [],[⟨2,dH_ x.a,dH_ x.b,x.role,0,0⟩],0)
  else ([],[],22)
theorem Con.operandN_len {c:Con} (hok:c.ok):c.operandN.length≤6402:=by
  have:=Con.textN_len hok
  unfold operandN
  split<;>simp<;>omega
end Go.Vs
namespace Go.Proofs
open Go.Shelf
def Tryz.lays156_ren:Go.Shelf.Ren:=⟨fun|156=>315|165=>326|166=>327|169=>328|240=>333|241=>334|276=>336|277=>337|n=>n,fun|31=>23|9=>9|3=>3|4=>4|0=>0|20=>20|72=>337|76=>340|70=>335|37=>307|75=>339|127=>345|164=>351|5=>5|80=>342|n=>n,fun|n=>n⟩
theorem Tryz.lays156:Go.Proofs.Lays.n156 Tryz.prog Tryz.lays156_ren:={
  mixed:=by kernel_rfl
  f156:=Tryz.func315.trans (congrArg some (by kernel_rfl))
  f165:=Tryz.func326.trans (congrArg some (by kernel_rfl))
  f166:=Tryz.func327.trans (congrArg some (by kernel_rfl))
  f169:=Tryz.func328.trans (congrArg some (by kernel_rfl))
  f240:=Tryz.func333.trans (congrArg some (by kernel_rfl))
  f241:=Tryz.func334.trans (congrArg some (by kernel_rfl))
  f276:=Tryz.func336.trans (congrArg some (by kernel_rfl))
  f277:=Tryz.func337.trans (congrArg some (by kernel_rfl))
  t0:=Tryz.underlying0
  a0:=Tryz.isAgg0
  z0:=Tryz.sizeOf0
  v0:=Tryz.zeroValue0
  t3:=Tryz.underlying3
  a3:=Tryz.isAgg3
  z3:=Tryz.sizeOf3
  v3:=Tryz.zeroValue3
  t4:=Tryz.underlying4
  a4:=Tryz.isAgg4
  z4:=Tryz.sizeOf4
  v4:=Tryz.zeroValue4
  t9:=Tryz.underlying9
  a9:=Tryz.isAgg9
  z9:=Tryz.sizeOf9
  v9:=Tryz.zeroValue9
  t20:=Tryz.underlying20
  a20:=Tryz.isAgg20
  z20:=Tryz.sizeOf20
  v20:=Tryz.zeroValue20
  t31:=Tryz.underlying23
  a31:=Tryz.isAgg23
  z31:=Tryz.sizeOf23
  v31:=Tryz.zeroValue23
  t37:=Tryz.underlying307
  a37:=Tryz.isAgg307
  z37:=Tryz.sizeOf307
  v37:=Tryz.zeroValue307
  t70:=Tryz.underlying335
  a70:=Tryz.isAgg335
  z70:=Tryz.sizeOf335
  v70:=Tryz.zeroValue335
  t72:=Tryz.underlying337
  a72:=Tryz.isAgg337
  z72:=Tryz.sizeOf337
  v72:=Tryz.zeroValue337
  t75:=Tryz.underlying339
  a75:=Tryz.isAgg339
  z75:=Tryz.sizeOf339
  v75:=Tryz.zeroValue339
  t76:=Tryz.underlying340
  a76:=Tryz.isAgg340
  z76:=Tryz.sizeOf340
  v76:=Tryz.zeroValue340
  t127:=Tryz.underlying345
  a127:=Tryz.isAgg345
  z127:=Tryz.sizeOf345
  v127:=Tryz.zeroValue345
  t164:=Tryz.underlying351
  a164:=Tryz.isAgg351
  z164:=Tryz.sizeOf351
  v164:=Tryz.zeroValue351 }
theorem Tryz.Builder_Extra_156:Builder.Extra Tryz.prog Tryz.lays156_ren:={
  sizeBuilder:=by kernel_rfl
  liesBuilder:=by kernel_rfl
  t5:=Tryz.underlying5
  a5:=Tryz.isAgg5
  z5:=Tryz.sizeOf5
  v5:=Tryz.zeroValue5
  infoByte:=by kernel_rfl
  cellsByte:=by kernel_rfl
  sizeByte:=by kernel_rfl
  neB5:=by decide }
open Go.RowKit in
theorem Tryz.strings_Join (bk o c:Nat) (xs:List ByteArray) (sep:ByteArray) (w:World) (hcells:∀ (j:Nat) x,xs[j]? = some x→w.cell? ⟨bk,o+j,none⟩=some (.string x)) (hbk:bk<w.heap.size) (hN:xs.length≤140737488355328) (hcap:xs.length≤c) (hlen:(Lib.join (xs.map (·.data.toList)) sep.data.toList).length≤140737488355328) :
    Calls Tryz.prog 315 #[.slice (some ⟨bk,o,none⟩) xs.length c,.string sep] w fun e w'=>e=.returned (.string ⟨(Lib.join (xs.map (·.data.toList)) sep.data.toList).toArray⟩)∧Below w.heap.size w w':=Any.strings_Join Tryz.lays156 Tryz.Builder_Extra_156 bk o c xs sep w hcells hbk hN hcap hlen
def Tryz.lays122_ren:Go.Shelf.Ren:=⟨fun|122=>97|215=>181|n=>n,fun|3=>3|4=>4|n=>n,fun|n=>n⟩
theorem Tryz.lays122:Go.Proofs.Lays.n122 Tryz.prog Tryz.lays122_ren:={
  mixed:=by kernel_rfl
  f122:=Tryz.func97.trans (congrArg some (by kernel_rfl))
  f215:=Tryz.func181.trans (congrArg some (by kernel_rfl))
  t3:=Tryz.underlying3
  a3:=Tryz.isAgg3
  z3:=Tryz.sizeOf3
  v3:=Tryz.zeroValue3
  t4:=Tryz.underlying4
  a4:=Tryz.isAgg4
  z4:=Tryz.sizeOf4
  v4:=Tryz.zeroValue4 }
open Go.RowKit in
theorem Tryz.cmp_Compare_int (x y:Int) (w:World) :
    Calls Tryz.prog 97 #[.int .i64 x,.int .i64 y] w fun e w'=>e=.returned (.int .i64 (Lib.compareInt x y))∧w'=w:=Any.cmp_Compare_int Tryz.lays122 x y w
def Tryz.laysM171_ren:Go.Shelf.Ren:=⟨fun|171=>317|243=>329|246=>335|283=>338|284=>339|285=>340|286=>341|129=>177|317=>342|318=>343|319=>344|320=>345|337=>346|338=>347|n=>n,fun|3=>3|9=>9|2=>2|4=>4|171=>354|0=>0|53=>219|37=>307|5=>5|173=>356|212=>359|51=>217|20=>20|213=>360|46=>145|232=>361|233=>362|n=>n,fun|17=>6|18=>7|19=>8|n=>n⟩
theorem Tryz.laysM171:Go.Proofs.LaysM.n171 Tryz.prog Tryz.laysM171_ren:={
  mixed:=by kernel_rfl
  f129:=Tryz.func177.trans (congrArg some (by kernel_rfl))
  f171:=Tryz.func317.trans (congrArg some (by kernel_rfl))
  f243:=Tryz.func329.trans (congrArg some (by kernel_rfl))
  f246:=Tryz.func335.trans (congrArg some (by kernel_rfl))
  f283:=Tryz.func338.trans (congrArg some (by kernel_rfl))
  f284:=Tryz.func339.trans (congrArg some (by kernel_rfl))
  f285:=Tryz.func340.trans (congrArg some (by kernel_rfl))
  f286:=Tryz.func341.trans (congrArg some (by kernel_rfl))
  f317:=Tryz.func342.trans (congrArg some (by kernel_rfl))
  f318:=Tryz.func343.trans (congrArg some (by kernel_rfl))
  f319:=Tryz.func344.trans (congrArg some (by kernel_rfl))
  f320:=Tryz.func345.trans (congrArg some (by kernel_rfl))
  f337:=Tryz.func346.trans (congrArg some (by kernel_rfl))
  f338:=Tryz.func347.trans (congrArg some (by kernel_rfl))
  t0:=Tryz.underlying0
  a0:=Tryz.isAgg0
  z0:=Tryz.sizeOf0
  v0:=Tryz.zeroValue0
  t2:=Tryz.underlying2
  a2:=Tryz.isAgg2
  z2:=Tryz.sizeOf2
  v2:=Tryz.zeroValue2
  t3:=Tryz.underlying3
  a3:=Tryz.isAgg3
  z3:=Tryz.sizeOf3
  v3:=Tryz.zeroValue3
  t4:=Tryz.underlying4
  a4:=Tryz.isAgg4
  z4:=Tryz.sizeOf4
  v4:=Tryz.zeroValue4
  t5:=Tryz.underlying5
  a5:=Tryz.isAgg5
  z5:=Tryz.sizeOf5
  v5:=Tryz.zeroValue5
  t9:=Tryz.underlying9
  a9:=Tryz.isAgg9
  z9:=Tryz.sizeOf9
  v9:=Tryz.zeroValue9
  t20:=Tryz.underlying20
  a20:=Tryz.isAgg20
  z20:=Tryz.sizeOf20
  v20:=Tryz.zeroValue20
  t37:=Tryz.underlying307
  a37:=Tryz.isAgg307
  z37:=Tryz.sizeOf307
  v37:=Tryz.zeroValue307
  t46:=Tryz.underlying145
  a46:=Tryz.isAgg145
  z46:=Tryz.sizeOf145
  v46:=Tryz.zeroValue145
  t51:=Tryz.underlying217
  a51:=Tryz.isAgg217
  z51:=Tryz.sizeOf217
  v51:=Tryz.zeroValue217
  t53:=Tryz.underlying219
  a53:=Tryz.isAgg219
  z53:=Tryz.sizeOf219
  v53:=Tryz.zeroValue219
  t171:=Tryz.underlying354
  a171:=Tryz.isAgg354
  z171:=Tryz.sizeOf354
  v171:=Tryz.zeroValue354
  t173:=Tryz.underlying356
  a173:=Tryz.isAgg356
  z173:=Tryz.sizeOf356
  v173:=Tryz.zeroValue356
  t212:=Tryz.underlying359
  a212:=Tryz.isAgg359
  z212:=Tryz.sizeOf359
  v212:=Tryz.zeroValue359
  t213:=Tryz.underlying360
  a213:=Tryz.isAgg360
  z213:=Tryz.sizeOf360
  t232:=Tryz.underlying361
  a232:=Tryz.isAgg361
  z232:=Tryz.sizeOf361
  v232:=Tryz.zeroValue361
  t233:=Tryz.underlying362
  a233:=Tryz.isAgg362
  z233:=Tryz.sizeOf362
  v233:=Tryz.zeroValue362
  g17:=by kernel_rfl
  g18:=by kernel_rfl
  g19:=by kernel_rfl
  i0:=by kernel_rfl
  i2:=by kernel_rfl
  i3:=by kernel_rfl
  i4:=by kernel_rfl
  i5:=by kernel_rfl
  i9:=by kernel_rfl
  i20:=by kernel_rfl
  i37:=by kernel_rfl
  i46:=by kernel_rfl
  i51:=by kernel_rfl
  i53:=by kernel_rfl
  i171:=by kernel_rfl
  i173:=by kernel_rfl
  i212:=by kernel_rfl
  i232:=by kernel_rfl
  i233:=by kernel_rfl
  m17:=by kernel_rfl
  m18:=by kernel_rfl
  m19:=by kernel_rfl }
open Go.RowKit Go.Sort Go.Lib in
theorem Tryz.strconv_Itoa (n : Int) (h0 : -9223372036854775808 ≤ n) (h1 : n ≤ 9223372036854775807) (w : World) (htab : Lib.TabIs Tryz.prog w "internal/strconv.uint64pow10" .u64 Lib.pow10Tab) :
    Calls Tryz.prog 317 #[.int .i64 n] w fun e w'=>e=.returned (.string ⟨(Lib.itoa n).toArray⟩)∧∃ k os,w'=grow (w.drewN k) os:=Any.strconv_Itoa Tryz.laysM171 n h0 h1 w htab
def Tryz.lays219_ren:Go.Shelf.Ren:=⟨fun|219=>307|217=>318|225=>319|224=>320|267=>321|266=>330|314=>331|n=>n,fun|9=>9|3=>3|4=>4|5=>5|46=>145|146=>343|51=>217|n=>n,fun|1=>2|n=>n⟩
theorem Tryz.lays219:Go.Proofs.Lays.n219 Tryz.prog Tryz.lays219_ren:={
  mixed:=by kernel_rfl
  f217:=Tryz.func318.trans (congrArg some (by kernel_rfl))
  f219:=Tryz.func307.trans (congrArg some (by kernel_rfl))
  f224:=Tryz.func320.trans (congrArg some (by kernel_rfl))
  f225:=Tryz.func319.trans (congrArg some (by kernel_rfl))
  f266:=Tryz.func330.trans (congrArg some (by kernel_rfl))
  f267:=Tryz.func321.trans (congrArg some (by kernel_rfl))
  f314:=Tryz.func331.trans (congrArg some (by kernel_rfl))
  t3:=Tryz.underlying3
  a3:=Tryz.isAgg3
  z3:=Tryz.sizeOf3
  v3:=Tryz.zeroValue3
  t4:=Tryz.underlying4
  a4:=Tryz.isAgg4
  z4:=Tryz.sizeOf4
  v4:=Tryz.zeroValue4
  t5:=Tryz.underlying5
  a5:=Tryz.isAgg5
  z5:=Tryz.sizeOf5
  v5:=Tryz.zeroValue5
  t9:=Tryz.underlying9
  a9:=Tryz.isAgg9
  z9:=Tryz.sizeOf9
  v9:=Tryz.zeroValue9
  t46:=Tryz.underlying145
  a46:=Tryz.isAgg145
  z46:=Tryz.sizeOf145
  v46:=Tryz.zeroValue145
  t51:=Tryz.underlying217
  a51:=Tryz.isAgg217
  z51:=Tryz.sizeOf217
  v51:=Tryz.zeroValue217
  t146:=Tryz.underlying343
  a146:=Tryz.isAgg343
  z146:=Tryz.sizeOf343
  v146:=Tryz.zeroValue343
  g1:=by kernel_rfl }
open Go.RowKit Go.Lib in
theorem Tryz.stringslite_Index_one (s:ByteArray) (c:UInt8) (w:World) :
    Calls Tryz.prog 307 #[.string s,.string ⟨#[c]⟩] w fun e w'=>e=.returned (.int .i64 (Lib.indexByte s.data.toList c))∧w'=w:=Any.stringslite_Index_one Tryz.lays219 s c w
open Go.RowKit Go.Lib in
def Tryz.lays190_ren:Go.Shelf.Ren:=⟨fun|190=>43|125=>90|258=>89|128=>176|129=>177|302=>167|303=>168|304=>169|305=>170|306=>171|307=>172|308=>173|309=>174|310=>175|333=>228|329=>229|330=>230|334=>231|335=>232|336=>233|344=>267|n=>n,fun|31=>23|9=>9|3=>3|46=>145|0=>0|51=>217|53=>219|4=>4|183=>210|182=>209|131=>42|5=>5|218=>261|222=>243|228=>296|229=>297|n=>n,fun|n=>n⟩
theorem Tryz.lays190:Go.Proofs.Lays.n190 Tryz.prog Tryz.lays190_ren:={
  mixed:=by kernel_rfl
  f125:=Tryz.func90.trans (congrArg some (by kernel_rfl))
  f128:=Tryz.func176.trans (congrArg some (by kernel_rfl))
  f129:=Tryz.func177.trans (congrArg some (by kernel_rfl))
  f190:=Tryz.func43.trans (congrArg some (by kernel_rfl))
  f258:=Tryz.func89.trans (congrArg some (by kernel_rfl))
  f302:=Tryz.func167.trans (congrArg some (by kernel_rfl))
  f303:=Tryz.func168.trans (congrArg some (by kernel_rfl))
  f304:=Tryz.func169.trans (congrArg some (by kernel_rfl))
  f305:=Tryz.func170.trans (congrArg some (by kernel_rfl))
  f306:=Tryz.func171.trans (congrArg some (by kernel_rfl))
  f307:=Tryz.func172.trans (congrArg some (by kernel_rfl))
  f308:=Tryz.func173.trans (congrArg some (by kernel_rfl))
  f309:=Tryz.func174.trans (congrArg some (by kernel_rfl))
  f310:=Tryz.func175.trans (congrArg some (by kernel_rfl))
  f329:=Tryz.func229.trans (congrArg some (by kernel_rfl))
  f330:=Tryz.func230.trans (congrArg some (by kernel_rfl))
  f333:=Tryz.func228.trans (congrArg some (by kernel_rfl))
  f334:=Tryz.func231.trans (congrArg some (by kernel_rfl))
  f335:=Tryz.func232.trans (congrArg some (by kernel_rfl))
  f336:=Tryz.func233.trans (congrArg some (by kernel_rfl))
  f344:=Tryz.func267.trans (congrArg some (by kernel_rfl))
  t0:=Tryz.underlying0
  a0:=Tryz.isAgg0
  z0:=Tryz.sizeOf0
  v0:=Tryz.zeroValue0
  t3:=Tryz.underlying3
  a3:=Tryz.isAgg3
  z3:=Tryz.sizeOf3
  v3:=Tryz.zeroValue3
  t4:=Tryz.underlying4
  a4:=Tryz.isAgg4
  z4:=Tryz.sizeOf4
  v4:=Tryz.zeroValue4
  t5:=Tryz.underlying5
  a5:=Tryz.isAgg5
  z5:=Tryz.sizeOf5
  v5:=Tryz.zeroValue5
  t9:=Tryz.underlying9
  a9:=Tryz.isAgg9
  z9:=Tryz.sizeOf9
  v9:=Tryz.zeroValue9
  t31:=Tryz.underlying23
  a31:=Tryz.isAgg23
  z31:=Tryz.sizeOf23
  v31:=Tryz.zeroValue23
  t46:=Tryz.underlying145
  a46:=Tryz.isAgg145
  z46:=Tryz.sizeOf145
  v46:=Tryz.zeroValue145
  t51:=Tryz.underlying217
  a51:=Tryz.isAgg217
  z51:=Tryz.sizeOf217
  v51:=Tryz.zeroValue217
  t53:=Tryz.underlying219
  a53:=Tryz.isAgg219
  z53:=Tryz.sizeOf219
  v53:=Tryz.zeroValue219
  t131:=Tryz.underlying42
  a131:=Tryz.isAgg42
  z131:=Tryz.sizeOf42
  v131:=Tryz.zeroValue42
  t182:=Tryz.underlying209
  a182:=Tryz.isAgg209
  z182:=Tryz.sizeOf209
  v182:=Tryz.zeroValue209
  t183:=Tryz.underlying210
  a183:=Tryz.isAgg210
  z183:=Tryz.sizeOf210
  v183:=Tryz.zeroValue210
  t218:=Tryz.underlying261
  a218:=Tryz.isAgg261
  z218:=Tryz.sizeOf261
  v218:=Tryz.zeroValue261
  t222:=Tryz.underlying243
  a222:=Tryz.isAgg243
  z222:=Tryz.sizeOf243
  v222:=Tryz.zeroValue243
  t228:=Tryz.underlying296
  a228:=Tryz.isAgg296
  z228:=Tryz.sizeOf296
  v228:=Tryz.zeroValue296
  t229:=Tryz.underlying297
  a229:=Tryz.isAgg297
  z229:=Tryz.sizeOf297
  v229:=Tryz.zeroValue297 }
open Go.Sort Go.RowKit in
theorem Tryz.slices_Sort_string (blk off cap:Nat) (ss:List (List UInt8)) (w:World) (hH:Holds encStr w blk off ss.toArray) (hblk:blk<w.heap.size) (hsz:ss.length<4611686018427387904) :
    Calls Tryz.prog 43 #[.slice (some ⟨blk,off,none⟩) ss.length cap] w fun e w' =>
      e=.returned (.tuple #[])∧∃ n os,w'=grow (putRow encStr (Sort.ahead w n) blk off (ss.mergeSort fun x y=>decide (x≤y)).toArray) os:=Any.slices_Sort_string Tryz.lays190 blk off cap ss w hH hblk hsz
def Tryz.lays194_ren:Go.Shelf.Ren:=⟨fun|194=>116|n=>n,fun|31=>23|9=>9|3=>3|4=>4|0=>0|n=>n,fun|n=>n⟩
theorem Tryz.lays194:Go.Proofs.Lays.n194 Tryz.prog Tryz.lays194_ren:={
  mixed:=by kernel_rfl
  f194:=Tryz.func116.trans (congrArg some (by kernel_rfl))
  t0:=Tryz.underlying0
  a0:=Tryz.isAgg0
  z0:=Tryz.sizeOf0
  v0:=Tryz.zeroValue0
  t3:=Tryz.underlying3
  a3:=Tryz.isAgg3
  z3:=Tryz.sizeOf3
  v3:=Tryz.zeroValue3
  t4:=Tryz.underlying4
  a4:=Tryz.isAgg4
  z4:=Tryz.sizeOf4
  v4:=Tryz.zeroValue4
  t9:=Tryz.underlying9
  a9:=Tryz.isAgg9
  z9:=Tryz.sizeOf9
  v9:=Tryz.zeroValue9
  t31:=Tryz.underlying23
  a31:=Tryz.isAgg23
  z31:=Tryz.sizeOf23
  v31:=Tryz.zeroValue23 }
open Go.RowKit Go.Lib Go.Sort in
theorem Tryz.slices_Compact_string (blk off cap:Nat) (zs:List (List UInt8)) (w:World) (hH:Holds encStr w blk off zs.toArray) (hsz:zs.length≤9223372036854775807) (hcap:zs.length≤cap) :
    Calls Tryz.prog 116 #[.slice (some ⟨blk,off,none⟩) zs.length cap] w fun e w'=>e=.returned (.slice (some ⟨blk,off,none⟩) (Lib.compact zs).length cap)∧∃ q,w'=putRow encStr (Sort.ahead w q) blk off (Lib.compact zs++List.replicate (zs.length - (Lib.compact zs).length) []).toArray:=Any.slices_Compact_string Tryz.lays194 blk off cap zs w hH hsz hcap
open Go.RowKit Go.Lib Go.Sort in
theorem Tryz.slices_Compact_string_empty (a:Option Addr) (cap:Nat) (w:World) :
    Calls Tryz.prog 116 #[.slice a 0 cap] w fun e w'=>e=.returned (.slice a 0 cap)∧w'=w:=Any.slices_Compact_string_empty Tryz.lays194 a cap w
open Go.RowKit Go.Sort in
theorem Tryz.slices_Sort_string_none (p:Option Addr) (cap:Nat) (w:World) :
    Calls Tryz.prog 43 #[.slice p 0 cap] w fun e w'=>e=.returned (.tuple #[])∧w'=w:=Any.slices_Sort_string_none Tryz.lays190 p cap w
end Go.Proofs
namespace Go.Proofs
open Go.Shelf
def Tryz.lays106_ren:Go.Shelf.Ren:=⟨fun|106=>100|213=>184|265=>238|n=>n,fun|9=>9|3=>3|n=>n,fun|n=>n⟩
theorem Tryz.lays106:Go.Proofs.Lays.n106 Tryz.prog Tryz.lays106_ren:={
  mixed:=by kernel_rfl
  f106:=Tryz.func100.trans (congrArg some (by kernel_rfl))
  f213:=Tryz.func184.trans (congrArg some (by kernel_rfl))
  f265:=Tryz.func238.trans (congrArg some (by kernel_rfl))
  t3:=Tryz.underlying3
  a3:=Tryz.isAgg3
  z3:=Tryz.sizeOf3
  v3:=Tryz.zeroValue3
  t9:=Tryz.underlying9
  a9:=Tryz.isAgg9
  z9:=Tryz.sizeOf9
  v9:=Tryz.zeroValue9 }
open Go.RowKit in
theorem Tryz.strings_Compare (a b:ByteArray) (w:World) :
    Calls Tryz.prog 100 #[.string a,.string b] w fun e w'=>e=.returned (.int .i64 (Lib.compareBytes a.data.toList b.data.toList))∧w'=w:=Any.strings_Compare Tryz.lays106 a b w
end Go.Proofs
namespace Go.Sx
open Go
structure Cn (n:Nat) (G:Prop):Prop where
  go:G
structure Kw (A:Prop):Prop where
  go:A
theorem cn {n:Nat} {G G1:Prop} (k:G1→G) (h:Cn n G1):Cn (n+1) G:=⟨k h.go⟩
theorem cn0 {G:Prop} (h:G):Cn 0 G:=⟨h⟩
def noG (x:Value) (want:Bool):Bool:=match x with|.bool b=>Bool.xor b want|_=>true
section
variable {P:Program} {N:Nf} {v0:Vw} {H0:Hp} {R:Exit→Act→World→Prop} {K:List Kt} {fr:Fr} {H:Hp} {Γ:List Fct} {ops:Array Oper} {l:List Oper} {d:Nat} {ty:TypeId} {ps:String} {af:Array Edge} {Hs:Hp} {Γs:List Fct} {fuel:Nat} {listed:Array Bool}
theorem pZ_ {op:Op} {j t:Nat} {want:Bool} {x:Value} (hj:gg_ ops j=some t) (hx:Fr.get fr t=some x) (hne:noG x want=true) (hN:Nat.blt d N.n=true)
    (h:Ops P R N v0 H0 ops l K ((d,undef)::fr) H Γ):Ops P R N v0 H0 ops (⟨some d,op,ty,ps,af,some (j,want)⟩::l) K fr H Γ:=ej_ hj hx (by cases x<;>first|rfl|exact hne) hN h
theorem sq_noG [NoPan R] {i:Nat} {is:List Nat} {op:Op} {x:Value} {j t:Nat} {want:Bool} (hi:ops[i]? = some ⟨some d,op,ty,ps,af,some (j,want)⟩) (hj:gg_ ops j=some t) (hx:Fr.get fr t=some x) (hne:noG x want=true) (hN:Nat.blt d N.n=true)
    (h:Sq P R N v0 H0 ops Hs Γs is fuel (listed.setIfInBounds i true) K ((d,undef)::fr) H Γ):Sq P R N v0 H0 ops Hs Γs (i::is) fuel listed K fr H Γ:=sq_no hi hj hx (by cases x<;>first|rfl|exact hne) hN h
end
end Go.Sx

namespace Go.Proofs.YtamklbgaipakfaaGreatDoor
open Go Go.Sx
theorem zdf {p:Prop} [Decidable p] (h:decide p=false):¬p:=of_decide_eq_false h
theorem zdt {p:Prop} [Decidable p] (h:decide p=true):p:=of_decide_eq_true h
theorem znb {α:Type} [BEq α] [LawfulBEq α] {a b:α} (h:(a==b)=false):a≠b:=by simpa using h
theorem zeb {α:Type} [BEq α] [LawfulBEq α] {a b:α} (h:(a==b)=true):a=b:=eq_of_beq h
theorem zbe {α:Type} [BEq α] [LawfulBEq α] {a b:α} (h:(a != b)=false):a=b:=by simpa using h
theorem zk {G:Prop} (h:G:=by kernel_rfl):G:=h
theorem zh {P Q:Vw→Prop}:∀ v,P v→Q v→Q v:=fun _ _ h=>h
theorem zt {P Q:Vw→Prop}:∀ v,P v→Q v→ag_ [] v:=fun _ _ _=>trivial
section
variable {H r r' d O:Hp} {b c:Nat×Obj}
theorem zpn (h:H.Perm r):([]++H).Perm r:=h
end
abbrev zR {α:Type} (e k:Nat) (f:α→List Value) (sv:Value) (X:List α) (H:Hp):Prop:=ar_ e k sv X.length (X.flatMap f) H
theorem zsw {α β:Type} {e k:Nat} {f:β→List Value} {sv:Value} {A:List β} {H:Hp} (g:α→List β) (p:List α) (h:ar_ e k sv A.length (A.flatMap f) H):zR e k f sv (A++List.flatMap g (List.take 0 p)) H:=by
  unfold zR;simpa only[List.take_zero,List.flatMap_nil,List.append_nil] using h
theorem zsa {β:Type} {e k m:Nat} {f:β→List Value} {sv:Value} {A B:List β} {H:Hp} (h:ar_ e k sv (A.length+m) (A.flatMap f++B.flatMap f) H) (hm:B.length=m:=by first|rfl|simp):zR e k f sv (A++B) H:=by
  subst hm;unfold zR;rw[List.length_append,List.flatMap_append];exact h
theorem zge {α:Type} {l:List α} {i:Nat} (h:i<l.length):i<l.length∧∃ x,l[i]? = some x∧x∈l:=⟨h,_,List.getElem?_eq_getElem h,List.getElem_mem h⟩
theorem zbn {α:Type} [BEq α] [LawfulBEq α] {a b:α} (h:(a != b)=true):a≠b:=by simpa using h
theorem zp {G:Prop} (h:G:=by (repeat (first|(with_reducible first|exact e_|exact i_|exact aI_|exact au_|exact br_|exact am_)|exact i_|(with_reducible first|apply zpn|(apply V_;rotate_left;(fail_if_success (with_reducible apply e_));rotate_right)|apply bi_|apply l_|apply an_)|exact aI_|exact am_))):G:=h
theorem zf {G:Prop} (h:G:=by intro v_ a_ b_;repeat (first|exact trivial|(with_reducible first|exact b_.1|exact b_.2.1|exact b_.2.2.1|exact b_.2.2.2.1|exact b_.2.2.2.2.1|exact b_.2.2.2.2.2.1|exact b_.2.2.2.2.2.2.1|exact b_.2.2.2.2.2.2.2.1|exact b_.2.2.2.2.2.2.2.2.1|exact b_.2.2.2.2.2.2.2.2.2.1|exact b_.2.2.2.2.2.2.2.2.2.2.1|exact b_.2.2.2.2.2.2.2.2.2.2.2.1|exact b_|exact b_.2|exact b_.2.2|exact b_.2.2.2|exact b_.2.2.2.2|exact b_.2.2.2.2.2|exact b_.2.2.2.2.2.2|exact b_.2.2.2.2.2.2.2|exact b_.2.2.2.2.2.2.2.2|exact b_.2.2.2.2.2.2.2.2.2|exact b_.2.2.2.2.2.2.2.2.2.2|exact b_.2.2.2.2.2.2.2.2.2.2.2)|(first|exact b_.1|exact b_.2.1|exact b_.2.2.1|exact b_.2.2.2.1|exact b_.2.2.2.2.1|exact b_.2.2.2.2.2.1|exact b_.2.2.2.2.2.2.1|exact b_.2.2.2.2.2.2.2.1|exact b_.2.2.2.2.2.2.2.2.1|exact b_.2.2.2.2.2.2.2.2.2.1|exact b_.2.2.2.2.2.2.2.2.2.2.1|exact b_.2.2.2.2.2.2.2.2.2.2.2.1|exact b_|exact b_.2|exact b_.2.2|exact b_.2.2.2|exact b_.2.2.2.2|exact b_.2.2.2.2.2|exact b_.2.2.2.2.2.2|exact b_.2.2.2.2.2.2.2|exact b_.2.2.2.2.2.2.2.2|exact b_.2.2.2.2.2.2.2.2.2|exact b_.2.2.2.2.2.2.2.2.2.2|exact b_.2.2.2.2.2.2.2.2.2.2.2)|refine⟨?_,?_⟩)):G:=h
theorem zs {G:Prop} (h:G:=by intro v_ a_ b_;refine⟨?_,?_⟩;(first|exact a_|exact satNil a_|exact a_.tail|exact a_.tail.tail|exact a_.tail.tail.tail|exact a_.tail.tail.tail.tail|((apply Vw.sat.sub;apply a_.perm);(repeat (first|(with_reducible first|exact e_|exact i_|exact aI_|exact au_|exact br_|exact am_)|exact i_|(with_reducible first|apply zpn|(apply V_;rotate_left;(fail_if_success (with_reducible apply e_));rotate_right)|apply bi_|apply l_|apply an_)|exact aI_|exact am_))));(first|exact b_|exact b_.2|exact b_.2.2|exact b_.2.2.2|exact b_.2.2.2.2|exact b_.2.2.2.2.2|exact b_.2.2.2.2.2.2|exact b_.2.2.2.2.2.2.2|exact b_.2.2.2.2.2.2.2.2|exact b_.2.2.2.2.2.2.2.2.2|exact b_.2.2.2.2.2.2.2.2.2.2|exact b_.2.2.2.2.2.2.2.2.2.2.2)):G:=h
theorem zl {G:Prop} (h:G:=by repeat (first|exact trivial|refine⟨rfl,?_⟩)):G:=h
def lkN {α:Type}:List (Nat×α)→Nat→Option α
  | [],_=>none
  | (k,v)::l,n=>bif Nat.beq k n then some v else lkN l n
theorem mp_ {α:Type} {n:Nat} {v:α}:∀ {l:List (Nat×α)},lkN l n=some v→(n,v)∈l
  | (k,u)::l,h=>by
    simp only[lkN]at h
    cases hb:Nat.beq k n with
    | true=>rw[hb,cond_true]at h;cases h;rw[Nat.eq_of_beq_eq_true hb];exact List.mem_cons_self
    | false=>rw[hb,cond_false]at h;exact List.mem_cons_of_mem _ (mp_ h)
def zAt:List (Nat×Bool):=[(46,true),(9,false),(3,false),(48,true),(23,false),(22,false),(44,false),(4,false),(37,true),(54,false),(58,true),(165,false),(83,true),(139,false),(223,true),(305,true),(140,false),(112,false),(78,false),(221,false),(163,true),(170,false),(79,false),(161,false),(150,true),(302,false),(184,false),(94,true)]
theorem zA {t:TypeId} {b:Bool} (h:lkN zAt t=some b):∀ w,(isAgg t).run Tryz.prog w=.ok b w:=by
  have h:=mp_ h
  simp only[zAt,List.mem_cons,Prod.mk.injEq,List.not_mem_nil,or_false]at h
  rcases h with⟨rfl,rfl⟩|⟨rfl,rfl⟩|⟨rfl,rfl⟩|⟨rfl,rfl⟩|⟨rfl,rfl⟩|⟨rfl,rfl⟩|⟨rfl,rfl⟩|⟨rfl,rfl⟩|⟨rfl,rfl⟩|⟨rfl,rfl⟩|⟨rfl,rfl⟩|⟨rfl,rfl⟩|⟨rfl,rfl⟩|⟨rfl,rfl⟩|⟨rfl,rfl⟩|⟨rfl,rfl⟩|⟨rfl,rfl⟩|⟨rfl,rfl⟩|⟨rfl,rfl⟩|⟨rfl,rfl⟩|⟨rfl,rfl⟩|⟨rfl,rfl⟩|⟨rfl,rfl⟩|⟨rfl,rfl⟩|⟨rfl,rfl⟩|⟨rfl,rfl⟩|⟨rfl,rfl⟩|⟨rfl,rfl⟩
  · exact R_
  · exact aL_
  · exact aZ_
  · exact K_
  · exact Tryz.isAgg23
  · exact jn_
  · exact Tryz.isAgg44
  · exact tj_
  · exact gE_
  · exact po_
  · exact Tryz.isAgg58
  · exact Tryz.isAgg165
  · exact Tryz.isAgg83
  · exact Tryz.isAgg139
  · exact cX_
  · exact Tryz.isAgg305
  · exact Tryz.isAgg140
  · exact Tryz.isAgg112
  · exact Tryz.isAgg78
  · exact Tryz.isAgg221
  · exact Tryz.isAgg163
  · exact hH_
  · exact Tryz.isAgg79
  · exact Tryz.isAgg161
  · exact vf_
  · exact Tryz.isAgg302
  · exact Tryz.isAgg184
  · exact Tryz.isAgg94
def zSt:List (Nat×Nat):=[(46,5),(9,1),(3,1),(48,16),(23,1),(44,1),(22,1),(4,1),(37,1),(58,10),(54,1),(83,2),(223,7),(305,2),(221,1),(112,1),(163,2),(161,1),(150,7),(302,1),(94,16)]
theorem zS {t:TypeId} {b:Nat} (h:lkN zSt t=some b):∀ w,(sizeOf t).run Tryz.prog w=.ok b w:=by
  have h:=mp_ h
  simp only[zSt,List.mem_cons,Prod.mk.injEq,List.not_mem_nil,or_false]at h
  rcases h with⟨rfl,rfl⟩|⟨rfl,rfl⟩|⟨rfl,rfl⟩|⟨rfl,rfl⟩|⟨rfl,rfl⟩|⟨rfl,rfl⟩|⟨rfl,rfl⟩|⟨rfl,rfl⟩|⟨rfl,rfl⟩|⟨rfl,rfl⟩|⟨rfl,rfl⟩|⟨rfl,rfl⟩|⟨rfl,rfl⟩|⟨rfl,rfl⟩|⟨rfl,rfl⟩|⟨rfl,rfl⟩|⟨rfl,rfl⟩|⟨rfl,rfl⟩|⟨rfl,rfl⟩|⟨rfl,rfl⟩|⟨rfl,rfl⟩
  · exact g_
  · exact ah_
  · exact U_
  · exact f_
  · exact vb_
  · exact Tryz.sizeOf44
  · exact fy_
  · exact cj_
  · exact bl_
  · exact aw_
  · exact fx_
  · exact aB_
  · exact aa_
  · exact Tryz.sizeOf305
  · exact Tryz.sizeOf221
  · exact Tryz.sizeOf112
  · exact gv_
  · exact Tryz.sizeOf161
  · exact cg_
  · exact Tryz.sizeOf302
  · exact Tryz.sizeOf94
theorem zUe {P:Program} {t t1:TypeId} {q q1} (h:∀ w,(underlying t1).run P w=.ok q1 w) (e:t=t1) (e1:q1=q):∀ w,(underlying t).run P w=.ok q w:=by subst e e1;exact h
theorem Zy {A B:Prop} {n:Nat} (k:A) (h:Kw A→Cn n B:=by intro k_;repeat (first|exact cn0 k_.go|(apply cn;intro h_;((first|((with_reducible apply c_);rotate_left;exact rfl;exact h_;rotate_right)|((with_reducible apply P_);exact rfl;rotate_left;exact rfl;exact h_;rotate_right)|((with_reducible apply hQ_);exact rfl;exact rfl;exact rfl;rotate_left;exact rfl;exact h_;rotate_right));(focus (first|((with_reducible apply H_);exact rfl)|((with_reducible apply aq_);exact rfl)|((with_reducible apply hm_);rotate_left;exact rfl;rotate_right;(first|exact zUe bo_ rfl rfl|exact zUe co_ rfl rfl|exact zUe t_ rfl rfl|exact zUe bd_ rfl rfl|exact zUe bS_ rfl rfl|exact zUe s_ rfl rfl|exact zUe D_ rfl rfl|exact zUe cf_ rfl rfl|exact zUe cM_ rfl rfl|exact zUe bL_ rfl rfl|exact zUe cL_ rfl rfl|exact zUe x_ rfl rfl|exact zUe I_ rfl rfl|exact zUe M_ rfl rfl|exact zUe cJ_ rfl rfl|exact zUe ce_ rfl rfl|exact zUe cd_ rfl rfl|exact zUe F_ rfl rfl|exact zUe cn_ rfl rfl|exact zUe bw_ rfl rfl|exact zUe bJ_ rfl rfl|exact zUe cb_ rfl rfl|exact zUe bK_ rfl rfl);exact rfl;exact rfl;exact zS rfl)|((with_reducible apply dq_);(first|exact zUe bo_ rfl rfl|exact zUe co_ rfl rfl|exact zUe t_ rfl rfl|exact zUe bd_ rfl rfl|exact zUe bS_ rfl rfl|exact zUe s_ rfl rfl|exact zUe D_ rfl rfl|exact zUe cf_ rfl rfl|exact zUe cM_ rfl rfl|exact zUe bL_ rfl rfl|exact zUe cL_ rfl rfl|exact zUe x_ rfl rfl|exact zUe I_ rfl rfl|exact zUe M_ rfl rfl|exact zUe cJ_ rfl rfl|exact zUe ce_ rfl rfl|exact zUe cd_ rfl rfl|exact zUe F_ rfl rfl|exact zUe cn_ rfl rfl|exact zUe bw_ rfl rfl|exact zUe bJ_ rfl rfl|exact zUe cb_ rfl rfl|exact zUe bK_ rfl rfl);exact rfl;exact rfl;exact rfl;exact zS rfl)|((with_reducible apply (aO_ 0));rotate_left;exact rfl;exact rfl;exact rfl;exact zA rfl)|((with_reducible apply (aO_ 1));rotate_left;exact rfl;exact rfl;exact rfl;exact zA rfl)|((with_reducible apply (aO_ 2));rotate_left;exact rfl;exact rfl;exact rfl;exact zA rfl)|((with_reducible apply (aO_ 3));rotate_left;exact rfl;exact rfl;exact rfl;exact zA rfl)|((with_reducible apply dP_);exact rfl;exact rfl)|((with_reducible apply ck_);exact rfl;exact rfl)|((with_reducible apply as_);exact rfl;exact rfl;exact rfl;exact aV_ (by omega) (by omega))|((with_reducible apply iu_);exact rfl)|((with_reducible apply cG_);exact rfl;exact rfl)|((with_reducible apply dl_);(first|exact zUe bo_ rfl rfl|exact zUe co_ rfl rfl|exact zUe t_ rfl rfl|exact zUe bd_ rfl rfl|exact zUe bS_ rfl rfl|exact zUe s_ rfl rfl|exact zUe D_ rfl rfl|exact zUe cf_ rfl rfl|exact zUe cM_ rfl rfl|exact zUe bL_ rfl rfl|exact zUe cL_ rfl rfl|exact zUe x_ rfl rfl|exact zUe I_ rfl rfl|exact zUe M_ rfl rfl|exact zUe cJ_ rfl rfl|exact zUe ce_ rfl rfl|exact zUe cd_ rfl rfl|exact zUe F_ rfl rfl|exact zUe cn_ rfl rfl|exact zUe bw_ rfl rfl|exact zUe bJ_ rfl rfl|exact zUe cb_ rfl rfl|exact zUe bK_ rfl rfl);exact rfl)|((with_reducible apply (bs_ 0));rotate_left;exact zS rfl;exact rfl;exact rfl;exact rfl;exact zA rfl)|((with_reducible apply (bs_ 1));rotate_left;exact zS rfl;exact rfl;exact rfl;exact rfl;exact zA rfl)|((with_reducible apply (bs_ 2));rotate_left;exact zS rfl;exact rfl;exact rfl;exact rfl;exact zA rfl)|((with_reducible apply (bs_ 3));rotate_left;exact zS rfl;exact rfl;exact rfl;exact rfl;exact zA rfl)|((with_reducible apply bN_);rotate_left;exact rfl;(intro v _ h;first|exact h.1|exact h.2.1|exact h.2.2.1|exact h.2.2.2.1|exact h.2.2.2.2.1|exact h.2.2.2.2.2.1|exact h.2.2.2.2.2.2.1|exact h.2.2.2.2.2.2.2.1|exact h.2.2.2.2.2.2.2.2.1|exact h.2.2.2.2.2.2.2.2.2.1|exact h.2.2.2.2.2.2.2.2.2.2.1|exact h.2.2.2.2.2.2.2.2.2.2.2.1);exact rfl;exact zA rfl)|((with_reducible apply C_);(first|exact zUe bo_ rfl rfl|exact zUe co_ rfl rfl|exact zUe t_ rfl rfl|exact zUe bd_ rfl rfl|exact zUe bS_ rfl rfl|exact zUe s_ rfl rfl|exact zUe D_ rfl rfl|exact zUe cf_ rfl rfl|exact zUe cM_ rfl rfl|exact zUe bL_ rfl rfl|exact zUe cL_ rfl rfl|exact zUe x_ rfl rfl|exact zUe I_ rfl rfl|exact zUe M_ rfl rfl|exact zUe cJ_ rfl rfl|exact zUe ce_ rfl rfl|exact zUe cd_ rfl rfl|exact zUe F_ rfl rfl|exact zUe cn_ rfl rfl|exact zUe bw_ rfl rfl|exact zUe bJ_ rfl rfl|exact zUe cb_ rfl rfl|exact zUe bK_ rfl rfl);exact zS rfl;exact rfl;exact rfl;(intro v _ h;first|exact q_ Pc.cells_len (by decide) h.1 (by assumption)|exact q_ Pc.cells_len (by decide) h.2.1 (by assumption)|exact q_ Pc.cells_len (by decide) h.2.2.1 (by assumption)|exact q_ Pc.cells_len (by decide) h.2.2.2.1 (by assumption)|exact q_ Pc.cells_len (by decide) h.2.2.2.2.1 (by assumption)|exact q_ Pc.cells_len (by decide) h.2.2.2.2.2.1 (by assumption)|exact q_ Pc.cells_len (by decide) h.2.2.2.2.2.2.1 (by assumption)|exact q_ Pc.cells_len (by decide) h.2.2.2.2.2.2.2.1 (by assumption)|exact q_ Fc.cells_len (by decide) h.1 (by assumption)|exact q_ Fc.cells_len (by decide) h.2.1 (by assumption)|exact q_ Fc.cells_len (by decide) h.2.2.1 (by assumption)|exact q_ Fc.cells_len (by decide) h.2.2.2.1 (by assumption)|exact q_ Fc.cells_len (by decide) h.2.2.2.2.1 (by assumption)|exact q_ Fc.cells_len (by decide) h.2.2.2.2.2.1 (by assumption)|exact q_ Fc.cells_len (by decide) h.2.2.2.2.2.2.1 (by assumption)|exact q_ Fc.cells_len (by decide) h.2.2.2.2.2.2.2.1 (by assumption)|exact q_ Stp.cells_len (by decide) h.1 (by assumption)|exact q_ Stp.cells_len (by decide) h.2.1 (by assumption)|exact q_ Stp.cells_len (by decide) h.2.2.1 (by assumption)|exact q_ Stp.cells_len (by decide) h.2.2.2.1 (by assumption)|exact q_ Stp.cells_len (by decide) h.2.2.2.2.1 (by assumption)|exact q_ Stp.cells_len (by decide) h.2.2.2.2.2.1 (by assumption)|exact q_ Stp.cells_len (by decide) h.2.2.2.2.2.2.1 (by assumption)|exact q_ Stp.cells_len (by decide) h.2.2.2.2.2.2.2.1 (by assumption)|exact q_ ak_ (by decide) h.1 (by assumption)|exact q_ ak_ (by decide) h.2.1 (by assumption)|exact q_ ak_ (by decide) h.2.2.1 (by assumption)|exact q_ ak_ (by decide) h.2.2.2.1 (by assumption)|exact q_ ak_ (by decide) h.2.2.2.2.1 (by assumption)|exact q_ ak_ (by decide) h.2.2.2.2.2.1 (by assumption)|exact q_ ak_ (by decide) h.2.2.2.2.2.2.1 (by assumption)|exact q_ ak_ (by decide) h.2.2.2.2.2.2.2.1 (by assumption)|exact q_ aS_ (by decide) h.1 (by assumption)|exact q_ aS_ (by decide) h.2.1 (by assumption)|exact q_ aS_ (by decide) h.2.2.1 (by assumption)|exact q_ aS_ (by decide) h.2.2.2.1 (by assumption)|exact q_ aS_ (by decide) h.2.2.2.2.1 (by assumption)|exact q_ aS_ (by decide) h.2.2.2.2.2.1 (by assumption)|exact q_ aS_ (by decide) h.2.2.2.2.2.2.1 (by assumption)|exact q_ aS_ (by decide) h.2.2.2.2.2.2.2.1 (by assumption));omega;(first|omega|(simp;done)))|((with_reducible apply bt_);rotate_left;exact rfl;(intro v _ h;first|exact h.1|exact h.2.1|exact h.2.2.1|exact h.2.2.2.1|exact h.2.2.2.2.1|exact h.2.2.2.2.2.1|exact h.2.2.2.2.2.2.1|exact h.2.2.2.2.2.2.2.1|exact h.2.2.2.2.2.2.2.2.1|exact h.2.2.2.2.2.2.2.2.2.1|exact h.2.2.2.2.2.2.2.2.2.2.1|exact h.2.2.2.2.2.2.2.2.2.2.2.1);(first|exact o_ Pc.cells_len (by assumption) 0 _ rfl|exact o_ Pc.cells_len (by assumption) _ _ rfl|exact o_ Fc.cells_len (by assumption) 0 _ rfl|exact o_ Fc.cells_len (by assumption) _ _ rfl|exact o_ Stp.cells_len (by assumption) 0 _ rfl|exact o_ Stp.cells_len (by assumption) _ _ rfl|exact o_ ak_ (by assumption) 0 _ rfl|exact o_ ak_ (by assumption) _ _ rfl|exact o_ aS_ (by assumption) 0 _ rfl|exact o_ aS_ (by assumption) _ _ rfl|exact o_ Stp.cells_len (by assumption) 2 _ rfl|exact o_ Stp.cells_len (by assumption) 3 _ rfl|exact o_ Stp.cells_len (by assumption) 4 _ rfl|exact o_ Stp.cells_len (by assumption) 5 _ rfl|exact o_ Stp.cells_len (by assumption) 6 _ rfl);exact zA rfl)|((with_reducible apply L_);rotate_left;exact zS rfl;exact rfl;(intro v _ h;first|exact h.1|exact h.2.1|exact h.2.2.1|exact h.2.2.2.1|exact h.2.2.2.2.1|exact h.2.2.2.2.2.1|exact h.2.2.2.2.2.2.1|exact h.2.2.2.2.2.2.2.1|exact h.2.2.2.2.2.2.2.2.1|exact h.2.2.2.2.2.2.2.2.2.1|exact h.2.2.2.2.2.2.2.2.2.2.1|exact h.2.2.2.2.2.2.2.2.2.2.2.1);rotate_left;(first|exact o_ Pc.cells_len (by assumption)|exact o_ Fc.cells_len (by assumption)|exact o_ Stp.cells_len (by assumption));exact zA rfl;(first|exact Pc.cells_len _|exact Fc.cells_len _|exact Stp.cells_len _))|((with_reducible apply (aO_ 4));rotate_left;exact rfl;exact rfl;exact rfl;exact zA rfl)|((with_reducible apply (aO_ 5));rotate_left;exact rfl;exact rfl;exact rfl;exact zA rfl)|((with_reducible apply (aO_ 6));rotate_left;exact rfl;exact rfl;exact rfl;exact zA rfl)|((with_reducible apply (aO_ 7));rotate_left;exact rfl;exact rfl;exact rfl;exact zA rfl)|((with_reducible apply (bs_ 4));rotate_left;exact zS rfl;exact rfl;exact rfl;exact rfl;exact zA rfl)|((with_reducible apply (bs_ 5));rotate_left;exact zS rfl;exact rfl;exact rfl;exact rfl;exact zA rfl)|((with_reducible apply (bs_ 6));rotate_left;exact zS rfl;exact rfl;exact rfl;exact rfl;exact zA rfl)|((with_reducible apply (bs_ 7));rotate_left;exact zS rfl;exact rfl;exact rfl;exact rfl;exact zA rfl)))))|(apply cn;intro h_;first|((with_reducible apply ap_);exact h_)|((with_reducible apply ab_);exact rfl;exact h_)|((with_reducible apply at_);exact h_)|((with_reducible apply X_);exact h_)|((with_reducible apply az_);exact rfl;exact rfl;exact h_)|((with_reducible apply pZ_);exact rfl;exact rfl;exact rfl;exact rfl;exact h_)|((with_reducible apply dh_);exact rfl;exact h_)|((with_reducible apply bx_);exact rfl;exact h_)|((with_reducible apply ch_);exact h_)|((with_reducible apply ba_);exact h_)|((with_reducible apply gR_);exact h_)|((with_reducible apply bU_);exact rfl;exact h_)|((with_reducible apply sq_noG);exact rfl;exact rfl;exact rfl;exact rfl;exact rfl;exact h_)|((with_reducible apply is_);kernel_rfl;exact h_)|((with_reducible apply dr_);exact h_)|((with_reducible apply gy_);exact rfl;exact h_)|((with_reducible apply qW_);kernel_rfl;exact h_)|((with_reducible apply jz_);exact rfl;exact h_)|((with_reducible apply S_);exact zs;exact h_)|((apply az_);exact rfl;exact rfl;exact h_)|((apply pZ_);exact rfl;exact rfl;exact rfl;exact rfl;exact h_)|((apply ap_);exact h_))|(apply cn;intro h_;((apply c_);rotate_left;exact rfl;exact h_;rotate_right);(focus (first|((with_reducible apply H_);exact rfl)|((with_reducible apply aq_);exact rfl)|((with_reducible apply hm_);rotate_left;exact rfl;rotate_right;(first|exact zUe bo_ rfl rfl|exact zUe co_ rfl rfl|exact zUe t_ rfl rfl|exact zUe bd_ rfl rfl|exact zUe bS_ rfl rfl|exact zUe s_ rfl rfl|exact zUe D_ rfl rfl|exact zUe cf_ rfl rfl|exact zUe cM_ rfl rfl|exact zUe bL_ rfl rfl|exact zUe cL_ rfl rfl|exact zUe x_ rfl rfl|exact zUe I_ rfl rfl|exact zUe M_ rfl rfl|exact zUe cJ_ rfl rfl|exact zUe ce_ rfl rfl|exact zUe cd_ rfl rfl|exact zUe F_ rfl rfl|exact zUe cn_ rfl rfl|exact zUe bw_ rfl rfl|exact zUe bJ_ rfl rfl|exact zUe cb_ rfl rfl|exact zUe bK_ rfl rfl);exact rfl;exact rfl;exact zS rfl)|((with_reducible apply dq_);(first|exact zUe bo_ rfl rfl|exact zUe co_ rfl rfl|exact zUe t_ rfl rfl|exact zUe bd_ rfl rfl|exact zUe bS_ rfl rfl|exact zUe s_ rfl rfl|exact zUe D_ rfl rfl|exact zUe cf_ rfl rfl|exact zUe cM_ rfl rfl|exact zUe bL_ rfl rfl|exact zUe cL_ rfl rfl|exact zUe x_ rfl rfl|exact zUe I_ rfl rfl|exact zUe M_ rfl rfl|exact zUe cJ_ rfl rfl|exact zUe ce_ rfl rfl|exact zUe cd_ rfl rfl|exact zUe F_ rfl rfl|exact zUe cn_ rfl rfl|exact zUe bw_ rfl rfl|exact zUe bJ_ rfl rfl|exact zUe cb_ rfl rfl|exact zUe bK_ rfl rfl);exact rfl;exact rfl;exact rfl;exact zS rfl)|((with_reducible apply (aO_ 0));rotate_left;exact rfl;exact rfl;exact rfl;exact zA rfl)|((with_reducible apply (aO_ 1));rotate_left;exact rfl;exact rfl;exact rfl;exact zA rfl)|((with_reducible apply (aO_ 2));rotate_left;exact rfl;exact rfl;exact rfl;exact zA rfl)|((with_reducible apply (aO_ 3));rotate_left;exact rfl;exact rfl;exact rfl;exact zA rfl)|((with_reducible apply dP_);exact rfl;exact rfl)|((with_reducible apply ck_);exact rfl;exact rfl)|((with_reducible apply as_);exact rfl;exact rfl;exact rfl;exact aV_ (by omega) (by omega))|((with_reducible apply iu_);exact rfl)|((with_reducible apply cG_);exact rfl;exact rfl)|((with_reducible apply dl_);(first|exact zUe bo_ rfl rfl|exact zUe co_ rfl rfl|exact zUe t_ rfl rfl|exact zUe bd_ rfl rfl|exact zUe bS_ rfl rfl|exact zUe s_ rfl rfl|exact zUe D_ rfl rfl|exact zUe cf_ rfl rfl|exact zUe cM_ rfl rfl|exact zUe bL_ rfl rfl|exact zUe cL_ rfl rfl|exact zUe x_ rfl rfl|exact zUe I_ rfl rfl|exact zUe M_ rfl rfl|exact zUe cJ_ rfl rfl|exact zUe ce_ rfl rfl|exact zUe cd_ rfl rfl|exact zUe F_ rfl rfl|exact zUe cn_ rfl rfl|exact zUe bw_ rfl rfl|exact zUe bJ_ rfl rfl|exact zUe cb_ rfl rfl|exact zUe bK_ rfl rfl);exact rfl)|((with_reducible apply (bs_ 0));rotate_left;exact zS rfl;exact rfl;exact rfl;exact rfl;exact zA rfl)|((with_reducible apply (bs_ 1));rotate_left;exact zS rfl;exact rfl;exact rfl;exact rfl;exact zA rfl)|((with_reducible apply (bs_ 2));rotate_left;exact zS rfl;exact rfl;exact rfl;exact rfl;exact zA rfl)|((with_reducible apply (bs_ 3));rotate_left;exact zS rfl;exact rfl;exact rfl;exact rfl;exact zA rfl)|((with_reducible apply bN_);rotate_left;exact rfl;(intro v _ h;first|exact h.1|exact h.2.1|exact h.2.2.1|exact h.2.2.2.1|exact h.2.2.2.2.1|exact h.2.2.2.2.2.1|exact h.2.2.2.2.2.2.1|exact h.2.2.2.2.2.2.2.1|exact h.2.2.2.2.2.2.2.2.1|exact h.2.2.2.2.2.2.2.2.2.1|exact h.2.2.2.2.2.2.2.2.2.2.1|exact h.2.2.2.2.2.2.2.2.2.2.2.1);exact rfl;exact zA rfl)|((with_reducible apply C_);(first|exact zUe bo_ rfl rfl|exact zUe co_ rfl rfl|exact zUe t_ rfl rfl|exact zUe bd_ rfl rfl|exact zUe bS_ rfl rfl|exact zUe s_ rfl rfl|exact zUe D_ rfl rfl|exact zUe cf_ rfl rfl|exact zUe cM_ rfl rfl|exact zUe bL_ rfl rfl|exact zUe cL_ rfl rfl|exact zUe x_ rfl rfl|exact zUe I_ rfl rfl|exact zUe M_ rfl rfl|exact zUe cJ_ rfl rfl|exact zUe ce_ rfl rfl|exact zUe cd_ rfl rfl|exact zUe F_ rfl rfl|exact zUe cn_ rfl rfl|exact zUe bw_ rfl rfl|exact zUe bJ_ rfl rfl|exact zUe cb_ rfl rfl|exact zUe bK_ rfl rfl);exact zS rfl;exact rfl;exact rfl;(intro v _ h;first|exact q_ Pc.cells_len (by decide) h.1 (by assumption)|exact q_ Pc.cells_len (by decide) h.2.1 (by assumption)|exact q_ Pc.cells_len (by decide) h.2.2.1 (by assumption)|exact q_ Pc.cells_len (by decide) h.2.2.2.1 (by assumption)|exact q_ Pc.cells_len (by decide) h.2.2.2.2.1 (by assumption)|exact q_ Pc.cells_len (by decide) h.2.2.2.2.2.1 (by assumption)|exact q_ Pc.cells_len (by decide) h.2.2.2.2.2.2.1 (by assumption)|exact q_ Pc.cells_len (by decide) h.2.2.2.2.2.2.2.1 (by assumption)|exact q_ Fc.cells_len (by decide) h.1 (by assumption)|exact q_ Fc.cells_len (by decide) h.2.1 (by assumption)|exact q_ Fc.cells_len (by decide) h.2.2.1 (by assumption)|exact q_ Fc.cells_len (by decide) h.2.2.2.1 (by assumption)|exact q_ Fc.cells_len (by decide) h.2.2.2.2.1 (by assumption)|exact q_ Fc.cells_len (by decide) h.2.2.2.2.2.1 (by assumption)|exact q_ Fc.cells_len (by decide) h.2.2.2.2.2.2.1 (by assumption)|exact q_ Fc.cells_len (by decide) h.2.2.2.2.2.2.2.1 (by assumption)|exact q_ Stp.cells_len (by decide) h.1 (by assumption)|exact q_ Stp.cells_len (by decide) h.2.1 (by assumption)|exact q_ Stp.cells_len (by decide) h.2.2.1 (by assumption)|exact q_ Stp.cells_len (by decide) h.2.2.2.1 (by assumption)|exact q_ Stp.cells_len (by decide) h.2.2.2.2.1 (by assumption)|exact q_ Stp.cells_len (by decide) h.2.2.2.2.2.1 (by assumption)|exact q_ Stp.cells_len (by decide) h.2.2.2.2.2.2.1 (by assumption)|exact q_ Stp.cells_len (by decide) h.2.2.2.2.2.2.2.1 (by assumption)|exact q_ ak_ (by decide) h.1 (by assumption)|exact q_ ak_ (by decide) h.2.1 (by assumption)|exact q_ ak_ (by decide) h.2.2.1 (by assumption)|exact q_ ak_ (by decide) h.2.2.2.1 (by assumption)|exact q_ ak_ (by decide) h.2.2.2.2.1 (by assumption)|exact q_ ak_ (by decide) h.2.2.2.2.2.1 (by assumption)|exact q_ ak_ (by decide) h.2.2.2.2.2.2.1 (by assumption)|exact q_ ak_ (by decide) h.2.2.2.2.2.2.2.1 (by assumption)|exact q_ aS_ (by decide) h.1 (by assumption)|exact q_ aS_ (by decide) h.2.1 (by assumption)|exact q_ aS_ (by decide) h.2.2.1 (by assumption)|exact q_ aS_ (by decide) h.2.2.2.1 (by assumption)|exact q_ aS_ (by decide) h.2.2.2.2.1 (by assumption)|exact q_ aS_ (by decide) h.2.2.2.2.2.1 (by assumption)|exact q_ aS_ (by decide) h.2.2.2.2.2.2.1 (by assumption)|exact q_ aS_ (by decide) h.2.2.2.2.2.2.2.1 (by assumption));omega;(first|omega|(simp;done)))|((with_reducible apply bt_);rotate_left;exact rfl;(intro v _ h;first|exact h.1|exact h.2.1|exact h.2.2.1|exact h.2.2.2.1|exact h.2.2.2.2.1|exact h.2.2.2.2.2.1|exact h.2.2.2.2.2.2.1|exact h.2.2.2.2.2.2.2.1|exact h.2.2.2.2.2.2.2.2.1|exact h.2.2.2.2.2.2.2.2.2.1|exact h.2.2.2.2.2.2.2.2.2.2.1|exact h.2.2.2.2.2.2.2.2.2.2.2.1);(first|exact o_ Pc.cells_len (by assumption) 0 _ rfl|exact o_ Pc.cells_len (by assumption) _ _ rfl|exact o_ Fc.cells_len (by assumption) 0 _ rfl|exact o_ Fc.cells_len (by assumption) _ _ rfl|exact o_ Stp.cells_len (by assumption) 0 _ rfl|exact o_ Stp.cells_len (by assumption) _ _ rfl|exact o_ ak_ (by assumption) 0 _ rfl|exact o_ ak_ (by assumption) _ _ rfl|exact o_ aS_ (by assumption) 0 _ rfl|exact o_ aS_ (by assumption) _ _ rfl|exact o_ Stp.cells_len (by assumption) 2 _ rfl|exact o_ Stp.cells_len (by assumption) 3 _ rfl|exact o_ Stp.cells_len (by assumption) 4 _ rfl|exact o_ Stp.cells_len (by assumption) 5 _ rfl|exact o_ Stp.cells_len (by assumption) 6 _ rfl);exact zA rfl)|((with_reducible apply L_);rotate_left;exact zS rfl;exact rfl;(intro v _ h;first|exact h.1|exact h.2.1|exact h.2.2.1|exact h.2.2.2.1|exact h.2.2.2.2.1|exact h.2.2.2.2.2.1|exact h.2.2.2.2.2.2.1|exact h.2.2.2.2.2.2.2.1|exact h.2.2.2.2.2.2.2.2.1|exact h.2.2.2.2.2.2.2.2.2.1|exact h.2.2.2.2.2.2.2.2.2.2.1|exact h.2.2.2.2.2.2.2.2.2.2.2.1);rotate_left;(first|exact o_ Pc.cells_len (by assumption)|exact o_ Fc.cells_len (by assumption)|exact o_ Stp.cells_len (by assumption));exact zA rfl;(first|exact Pc.cells_len _|exact Fc.cells_len _|exact Stp.cells_len _))|((with_reducible apply (aO_ 4));rotate_left;exact rfl;exact rfl;exact rfl;exact zA rfl)|((with_reducible apply (aO_ 5));rotate_left;exact rfl;exact rfl;exact rfl;exact zA rfl)|((with_reducible apply (aO_ 6));rotate_left;exact rfl;exact rfl;exact rfl;exact zA rfl)|((with_reducible apply (aO_ 7));rotate_left;exact rfl;exact rfl;exact rfl;exact zA rfl)|((with_reducible apply (bs_ 4));rotate_left;exact zS rfl;exact rfl;exact rfl;exact rfl;exact zA rfl)|((with_reducible apply (bs_ 5));rotate_left;exact zS rfl;exact rfl;exact rfl;exact rfl;exact zA rfl)|((with_reducible apply (bs_ 6));rotate_left;exact zS rfl;exact rfl;exact rfl;exact rfl;exact zA rfl)|((with_reducible apply (bs_ 7));rotate_left;exact zS rfl;exact rfl;exact rfl;exact rfl;exact zA rfl)))))):Cn n B:=h ⟨k⟩
theorem Zi {p q A B C:Prop} (n:Nat) (k0:p→A) (k1:q→B) (h:Kw (p→A)→Kw (q→B)→Cn n C:=by intro k0_ k1_;refine Zy ?_;first|((with_reducible apply y_);(first|((with_reducible apply ay_);exact rfl;exact rfl)|((with_reducible apply dN_);exact rfl;exact rfl)|((with_reducible apply eY_);exact rfl;exact rfl)|((with_reducible apply fm_);exact rfl;exact rfl)|((with_reducible apply bR_);exact rfl;exact rfl)|((with_reducible apply hJ_);exact rfl;exact rfl)|((with_reducible apply eb_);exact rfl;exact rfl)|((with_reducible apply ea_);exact rfl;exact rfl)|((with_reducible apply hI_);exact rfl;exact rfl));exact rfl;intro r_ h_;cases r_;(first|exact k0_.go (zdf h_)|exact k0_.go (znb h_)|exact k0_.go (zbe h_));(first|exact k1_.go (zdt h_)|exact k1_.go (zeb h_)|exact k1_.go (zbn h_)))|((with_reducible apply uk_);exact rfl;(first|((with_reducible apply ay_);exact rfl;exact rfl)|((with_reducible apply dN_);exact rfl;exact rfl)|((with_reducible apply eY_);exact rfl;exact rfl)|((with_reducible apply fm_);exact rfl;exact rfl)|((with_reducible apply bR_);exact rfl;exact rfl)|((with_reducible apply hJ_);exact rfl;exact rfl)|((with_reducible apply eb_);exact rfl;exact rfl)|((with_reducible apply ea_);exact rfl;exact rfl)|((with_reducible apply hI_);exact rfl;exact rfl));exact rfl;intro r_ h_;cases r_;(first|exact k0_.go (zdf h_)|exact k0_.go (znb h_)|exact k0_.go (zbe h_));(first|exact k1_.go (zdt h_)|exact k1_.go (zeb h_)|exact k1_.go (zbn h_)))|((with_reducible apply sq_valYB);exact rfl;exact rfl;exact rfl;(first|((with_reducible apply ay_);exact rfl;exact rfl)|((with_reducible apply dN_);exact rfl;exact rfl)|((with_reducible apply eY_);exact rfl;exact rfl)|((with_reducible apply fm_);exact rfl;exact rfl)|((with_reducible apply bR_);exact rfl;exact rfl)|((with_reducible apply hJ_);exact rfl;exact rfl)|((with_reducible apply eb_);exact rfl;exact rfl)|((with_reducible apply ea_);exact rfl;exact rfl)|((with_reducible apply hI_);exact rfl;exact rfl));exact rfl;intro r_ h_;cases r_;(first|exact k0_.go (zdf h_)|exact k0_.go (znb h_)|exact k0_.go (zbe h_));(first|exact k1_.go (zdt h_)|exact k1_.go (zeb h_)|exact k1_.go (zbn h_)))):C:=(h ⟨k0⟩ ⟨k1⟩).go
theorem Zz {A B:Prop} (n:Nat) (k:A) (h:Kw A→Cn n B:=by intro k_;exact Zy k_.go):B:=(h ⟨k⟩).go
end Go.Proofs.YtamklbgaipakfaaGreatDoor

namespace Go.Proofs.YtamklbgaipakfaaGreatDoor
open Go Go.Sx Go.Proofs
attribute [local irreducible] Code.wp wpList wpAnyH
open Go.Vs
theorem kq_ (c:UInt8) :
    Fn0 Tryz.prog 274 #[.int .u8 (c.toNat:Int)] (.bool (ek_ c)):=by
  refine j_ Tryz.func274 rfl rfl Tryz.ntmps274 rfl fun v0=>?_
  refine Zi 8 (fun hr1=>?_) fun hr1=>?_
  · skip
    refine Zi 8 (fun hr2=>?_) fun hr2=>?_
    · skip
      refine Zz 11 ?_
      exact E_ pT_ () (m_ rfl (by subst_vars;rw[Bool.eq_iff_iff];simp[ek_]<;>omega)) (.refl _) zt
    · skip
      refine Zz 5 ?_
      refine y_ (fm_ rfl rfl) rfl fun r3 hr3=>Zz 7 ?_
      exact E_ pT_ () (m_ rfl (by subst_vars;rw[Bool.eq_iff_iff];simp[ek_]<;>omega)) (.refl _) zt
  · skip
    refine Zi 4 (fun hr4=>?_) fun hr4=>?_
    · skip
      refine Zi 5 (fun hr5=>?_) fun hr5=>?_
      · skip
        refine Zz 11 ?_
        exact E_ pT_ () (m_ rfl (by subst_vars;rw[Bool.eq_iff_iff];simp[ek_]<;>omega)) (.refl _) zt
      · skip
        refine Zz 5 ?_
        refine y_ (fm_ rfl rfl) rfl fun r6 hr6=>Zz 7 ?_
        exact E_ pT_ () (m_ rfl (by subst_vars;rw[Bool.eq_iff_iff];simp[ek_]<;>omega)) (.refl _) zt
    · skip
      refine Zz 13 ?_
      exact E_ pT_ () (m_ rfl (by subst_vars;rw[Bool.eq_iff_iff];simp[ek_]<;>omega)) (.refl _) zt
theorem nY_ (s:Str) (hs:s.length≤140737488351232) :
    Fn0 Tryz.prog 261 #[str s] (.bool (iW_ s)):=by
  refine j_ Tryz.func261 rfl rfl Tryz.ntmps261 rfl fun v0=>?_
  refine Zz 9 ?_
  refine uw_ aj_ bJ_ Tryz.runUnderlying5 rfl rfl fun cap b1 hcap=>Zz 5 ?_
  refine bp_ [(6,.slice (some ⟨b1,0,none⟩) s.length cap),(7,.int .i64 (s.length:Int)),(8,.int .i64 ((0:Nat):Int))] zl ?_
  refine bG_ (ι:={k:Nat // k≤s.length∧(s.take k).all eN_=true}) (fun i=>[(6,.slice (some ⟨b1,0,none⟩) s.length cap),(7,.int .i64 (s.length:Int)),(8,.int .i64 (i.1:Int))]) (fun _=>_) (fun _=>_) (fun i=>s.length - i.1) ⟨0,by simp⟩ ?_
  rintro ⟨k,hk⟩
  refine bp_ [(6,.slice (some ⟨b1,0,none⟩) s.length cap),(7,.int .i64 (s.length:Int)),(8,.int .i64 (k:Int))] zl ?_
  refine Zi 2 (fun hr1=>?_) fun hr1=>?_
  · skip
    refine Zz 12 ?_
    exact E_ Tryz.results261 () (m_ rfl (by rw[iW_,me_ eN_ s k (by omega) hk.2])) (.refl _) zt
  · skip
    have hlt:k<s.length:=by omega
    obtain⟨c,hc⟩:∃ c,s[k]? = some c:=⟨_,List.getElem?_eq_getElem hlt⟩
    refine Zz 10 ?_
    refine c_ (gN_ bJ_ Tryz.sizeOf5 rfl rfl (by omega) (by omega)) rfl (c_ (aO_ (u:=.int .u8 (c.toNat:Int)) 0 Tryz.isAgg5 rfl rfl (by rw[show 0+((k:Int)).toNat*1=k by omega];exact sU_ hc)) rfl ?_)
    refine Zz 6 ?_
    refine af_ (kq_ c) rfl (.refl _) zt rfl fun r2 hr2=>c_ (aG_ rfl) rfl (Zz 1 ?_)
    cases r2
    · skip
      refine Zi 3 (fun hr3=>?_) fun hr3=>?_
      · skip
        refine Zz 19 ?_
        exact z_ ⟨k+1,hlt,fp_ _ s k c hc hk.2 (by simp[eN_, *]<;>omega)⟩ (by simp;omega) zl (.refl _) zh
      · skip
        refine Zi 5 (fun hr4=>?_) fun hr4=>?_
        · skip
          refine Zi 5 (fun hr5=>?_) fun hr5=>?_
          · skip
            refine Zz 13 ?_
            exact z_ ⟨k+1,hlt,fp_ _ s k c hc hk.2 (by simp[eN_, *]<;>omega)⟩ (by simp;omega) zl (.refl _) zh
          · skip
            refine Zz 12 ?_
            exact E_ Tryz.results261 () (m_ rfl (by rw[iW_,hN_ eN_ s k c hc (by simp[eN_, *]<;>omega)])) (.refl _) zt
        · skip
          refine Zz 16 ?_
          exact E_ Tryz.results261 () (m_ rfl (by rw[iW_,hN_ eN_ s k c hc (by simp[eN_, *]<;>omega)])) (.refl _) zt
    · skip
      refine Zz 21 ?_
      exact z_ ⟨k+1,hlt,fp_ _ s k c hc hk.2 (by simp[eN_, *]<;>omega)⟩ (by simp;omega) zl (.refl _) zh
theorem rB_ (s:Str) :
    Fn0 Tryz.prog 275 #[str s] (.bool (bq_ s)):=by
  refine j_ Tryz.func275 rfl rfl Tryz.ntmps275 rfl fun v0=>?_
  refine Zi 15 (fun hr1=>?_) fun hr1=>?_
  · skip
    refine Zi 6 (fun hr2=>?_) fun hr2=>?_
    · skip
      refine Zi 6 (fun hr3=>?_) fun hr3=>?_
      · skip
        refine Zi 6 (fun hr4=>?_) fun hr4=>?_
        · skip
          refine Zi 6 (fun hr5=>?_) fun hr5=>?_
          · skip
            refine Zi 6 (fun hr6=>?_) fun hr6=>?_
            · skip
              refine Zi 6 (fun hr7=>?_) fun hr7=>?_
              · skip
                refine Zi 6 (fun hr8=>?_) fun hr8=>?_
                · skip
                  refine Zi 6 (fun hr9=>?_) fun hr9=>?_
                  · skip
                    refine Zi 6 (fun hr10=>?_) fun hr10=>?_
                    · skip
                      refine Zi 6 (fun hr11=>?_) fun hr11=>?_
                      · skip
                        refine Zi 6 (fun hr12=>?_) fun hr12=>?_
                        · skip
                          refine Zi 6 (fun hr13=>?_) fun hr13=>?_
                          · skip
                            refine Zi 6 (fun hr14=>?_) fun hr14=>?_
                            · skip
                              refine Zi 6 (fun hr15=>?_) fun hr15=>?_
                              · skip
                                refine Zi 6 (fun hr16=>?_) fun hr16=>?_
                                · skip
                                  refine Zi 6 (fun hr17=>?_) fun hr17=>?_
                                  · skip
                                    refine Zi 6 (fun hr18=>?_) fun hr18=>?_
                                    · skip
                                      refine Zi 6 (fun hr19=>?_) fun hr19=>?_
                                      · skip
                                        refine Zi 6 (fun hr20=>?_) fun hr20=>?_
                                        · skip
                                          refine Zi 6 (fun hr21=>?_) fun hr21=>?_
                                          · skip
                                            refine Zi 5 (fun hr22=>?_) fun hr22=>?_
                                            · skip
                                              refine Zz 12 ?_
                                              exact E_ aH_ () (m_ rfl (by simp[bq_,kws, *])) (.refl _) zt
                                            · skip
                                              refine Zz 10 ?_
                                              exact E_ aH_ () (m_ rfl (by simp[bq_,kws, *])) (.refl _) zt
                                          · skip
                                            refine Zz 13 ?_
                                            exact E_ aH_ () (m_ rfl (by simp[bq_,kws, *])) (.refl _) zt
                                        · skip
                                          refine Zz 13 ?_
                                          exact E_ aH_ () (m_ rfl (by simp[bq_,kws, *])) (.refl _) zt
                                      · skip
                                        refine Zz 13 ?_
                                        exact E_ aH_ () (m_ rfl (by simp[bq_,kws, *])) (.refl _) zt
                                    · skip
                                      refine Zz 13 ?_
                                      exact E_ aH_ () (m_ rfl (by simp[bq_,kws, *])) (.refl _) zt
                                  · skip
                                    refine Zz 13 ?_
                                    exact E_ aH_ () (m_ rfl (by simp[bq_,kws, *])) (.refl _) zt
                                · skip
                                  refine Zz 13 ?_
                                  exact E_ aH_ () (m_ rfl (by simp[bq_,kws, *])) (.refl _) zt
                              · skip
                                refine Zz 13 ?_
                                exact E_ aH_ () (m_ rfl (by simp[bq_,kws, *])) (.refl _) zt
                            · skip
                              refine Zz 13 ?_
                              exact E_ aH_ () (m_ rfl (by simp[bq_,kws, *])) (.refl _) zt
                          · skip
                            refine Zz 13 ?_
                            exact E_ aH_ () (m_ rfl (by simp[bq_,kws, *])) (.refl _) zt
                        · skip
                          refine Zz 13 ?_
                          exact E_ aH_ () (m_ rfl (by simp[bq_,kws, *])) (.refl _) zt
                      · skip
                        refine Zz 13 ?_
                        exact E_ aH_ () (m_ rfl (by simp[bq_,kws, *])) (.refl _) zt
                    · skip
                      refine Zz 13 ?_
                      exact E_ aH_ () (m_ rfl (by simp[bq_,kws, *])) (.refl _) zt
                  · skip
                    refine Zz 13 ?_
                    exact E_ aH_ () (m_ rfl (by simp[bq_,kws, *])) (.refl _) zt
                · skip
                  refine Zz 13 ?_
                  exact E_ aH_ () (m_ rfl (by simp[bq_,kws, *])) (.refl _) zt
              · skip
                refine Zz 13 ?_
                exact E_ aH_ () (m_ rfl (by simp[bq_,kws, *])) (.refl _) zt
            · skip
              refine Zz 13 ?_
              exact E_ aH_ () (m_ rfl (by simp[bq_,kws, *])) (.refl _) zt
          · skip
            refine Zz 13 ?_
            exact E_ aH_ () (m_ rfl (by simp[bq_,kws, *])) (.refl _) zt
        · skip
          refine Zz 13 ?_
          exact E_ aH_ () (m_ rfl (by simp[bq_,kws, *])) (.refl _) zt
      · skip
        refine Zz 13 ?_
        exact E_ aH_ () (m_ rfl (by simp[bq_,kws, *])) (.refl _) zt
    · skip
      refine Zz 13 ?_
      exact E_ aH_ () (m_ rfl (by simp[bq_,kws, *])) (.refl _) zt
  · skip
    refine Zz 13 ?_
    exact E_ aH_ () (m_ rfl (by simp[bq_,kws, *])) (.refl _) zt
end Go.Proofs.YtamklbgaipakfaaGreatDoor
namespace Go.Proofs.YtamklbgaipakfaaGreatDoor
open Go Go.Sx Go.Proofs
attribute [local irreducible] Code.wp wpList wpAnyH
open Go.Vs
theorem kp_ (s:Str) (hs:s.length≤140737488351232) :
    Fn0 Tryz.prog 252 #[str s] (.bool (gp_ s)):=by
  refine j_ Tryz.func252 rfl rfl Tryz.ntmps252 rfl fun v0=>?_
  refine Zi 8 (fun hr1=>?_) fun hr1=>?_
  · skip
    refine Zz 18 ?_
    exact E_ Tryz.results252 () (m_ rfl (by simp[gp_, *])) (.refl _) zt
  · skip
    obtain⟨c,t,rfl⟩:=List.exists_cons_of_ne_nil hr1
    refine Zz 4 ?_
    refine c_ (dv_ aj_ rfl rfl (by decide) rfl) rfl (az_ rfl rfl (af_ (kq_ _) rfl (.refl _) zt rfl fun r2 hr2=>Zz 2 ?_))
    cases r2
    · skip
      refine Zz 12 ?_
      exact E_ Tryz.results252 () (m_ rfl (by simp[gp_, *])) (.refl _) zt
    · skip
      refine Zz 3 ?_
      refine af_ (nY_ _ (by assumption)) rfl (.refl _) zt rfl fun r3 hr3=>Zz 2 ?_
      cases r3
      · skip
        refine Zz 8 ?_
        exact E_ Tryz.results252 () (m_ rfl (by simp[gp_, *])) (.refl _) zt
      · skip
        refine Zz 3 ?_
        refine af_ (rB_ _) rfl (.refl _) zt rfl fun r4 hr4=>az_ rfl rfl (c_ (aG_ rfl) rfl (Zz 5 ?_))
        exact E_ Tryz.results252 () (m_ rfl (by simp[gp_, *])) (.refl _) zt
theorem fX_ (s:Str) (hs:s.length≤140737488351232) :
    Fn0 Tryz.prog 223 #[str s] (.bool (cx_ s)):=by
  refine j_ Tryz.func223 rfl rfl Tryz.ntmps223 rfl fun v0=>?_
  refine Zz 8 ?_
  refine c_ (dk_ aj_ rfl) rfl ?_
  refine Zi 0 (fun hr1=>?_) fun hr1=>?_
  · skip
    refine Zz 18 ?_
    exact E_ Tryz.results223 () (m_ rfl (by subst_vars;rw[Bool.eq_iff_iff];simp[cx_]<;>simp at*<;> omega)) (.refl _) zt
  · skip
    refine Zz 4 ?_
    refine c_ (dk_ aj_ rfl) rfl (az_ rfl rfl ?_)
    refine Zi 0 (fun hr2=>?_) fun hr2=>?_
    · skip
      refine Zz 14 ?_
      exact E_ Tryz.results223 () (m_ rfl (by subst_vars;rw[Bool.eq_iff_iff];simp[cx_]<;>simp at*<;> omega)) (.refl _) zt
    · skip
      obtain⟨c,t,rfl⟩:=List.exists_cons_of_length_pos (l:=s) (by omega)
      refine Zz 5 ?_
      refine c_ (dv_ aj_ rfl rfl (by decide) rfl) rfl (az_ rfl rfl ?_)
      refine Zi 0 (fun hr3=>?_) fun hr3=>?_
      · skip
        refine Zz 9 ?_
        exact E_ Tryz.results223 () (m_ rfl (by subst_vars;rw[Bool.eq_iff_iff];simp[cx_]<;>simp at*<;> omega)) (.refl _) zt
      · skip
        refine Zz 5 ?_
        refine af_ (nY_ _ (by assumption)) rfl (.refl _) zt rfl fun r4 hr4=>Zz 5 ?_
        exact E_ Tryz.results223 () (m_ rfl (by subst_vars;rw[Bool.eq_iff_iff];simp[cx_]<;>simp at*<;> omega)) (.refl _) zt
theorem je_ (s:Str) (c:UInt8):Fn0 Tryz.prog 307 #[str s,str [c]] (.int .i64 (Lib.indexByte s c)) :=
  mD_ (callable Tryz.func307 rfl rfl) fun w=>(Tryz.stringslite_Index_one ⟨s.toArray⟩ c w).mono (by rintro e w' ⟨rfl,rfl⟩;exact⟨rfl,rfl,rfl,rfl,rfl,Nat.le_refl _⟩)
theorem mz_ (s:Str) (c:UInt8) (hk:ixS c s=none):Fn0 Tryz.prog 307 #[str s,str [c]] (.int .i64 (-1)):=by
  have h:=je_ s c
  rw[ms_,hk]at h
  exact h
theorem my_ (s:Str) (c:UInt8) (k:Nat) (hk:ixS c s=some k):Fn0 Tryz.prog 307 #[str s,str [c]] (.int .i64 (k:Int)):=by
  have h:=je_ s c
  rw[ms_,hk]at h
  exact h
theorem rJ_ (s:Str) (c:UInt8) (hk:ixS c s=none) :
    Fn0 Tryz.prog 273 #[str s,str [c]] (.tuple #[str s,str [],.bool false]):=by
  refine j_ Tryz.func273 rfl rfl Tryz.ntmps273 rfl fun v0=>?_
  refine Zz 12 ?_
  refine d_ (mz_ s c hk) rfl (.refl _) zt rfl fun _=>Zi 6 (fun hr1=>?_) fun hr1=>?_
  · skip
    refine Zz 14 ?_
    exact iy_ Tryz.results273 () rfl rfl rfl rfl (.refl _) zt
  · skip
    exact absurd hr1 (by decide)
theorem rI_ (s:Str) (c:UInt8) (k:Nat) (hk:ixS c s=some k) (hl:k<s.length) (hs:s.length≤140737488351232) :
    Fn0 Tryz.prog 273 #[str s,str [c]] (.tuple #[str (s.take k),str (s.drop (k+1)),.bool true]):=by
  refine j_ Tryz.func273 rfl rfl Tryz.ntmps273 rfl fun v0=>?_
  refine Zz 12 ?_
  refine d_ (my_ s c k hk) rfl (.refl _) zt rfl fun _=>Zi 6 (fun hr1=>?_) fun hr1=>?_
  · skip
    exact absurd (by omega) hr1
  · skip
    refine Zz 5 ?_
    refine Q_ 0 [0,1,2,3,4,5,6,7,8,9,10,11] zk zs (Zz 2 ?_)
    refine P_ rfl (hk_ (i:=0) (j:=k) (kl:=.i64) aj_ rfl rfl rfl (by omega) (by omega)) rfl (Zz 3 ?_)
    refine P_ rfl (dk_ aj_ rfl) rfl ?_
    refine P_ rfl (as_ rfl rfl rfl (aV_ (by simp only[List.length_cons,List.length_nil];omega) (by simp only[List.length_cons,List.length_nil];omega))) rfl ?_
    refine P_ rfl (hk_ (i:=k+1) (j:=s.length) (kh:=.i64) aj_ rfl rfl rfl (by omega) (by omega)) rfl (Zz 7 ?_)
    exact iy_ Tryz.results273 () rfl rfl rfl (by simp[List.take_of_length_le]) (.refl _) zt
theorem ty_ (s:Str) (c:UInt8) (hk:ixS c s=none) :
    Fn0 Tryz.prog 251 #[str s,str [c]] (.tuple #[str s,str [],.bool false]):=by
  refine j_ Tryz.func251 rfl rfl Tryz.ntmps251 rfl fun v0=>?_
  refine Zz 11 ?_
  refine d_ (rJ_ s c hk) rfl (.refl _) zt rfl fun _=>Zz 9 ?_
  exact iy_ Tryz.results251 () rfl rfl rfl rfl (.refl _) zt
theorem mu_ (s:Str) (hk:ixS 58 s=none) :
    Fn0 Tryz.prog 203 #[str s] (.bool (bk_ s)):=by
  refine j_ Tryz.func203 rfl rfl Tryz.ntmps203 rfl fun v0=>?_
  refine Zz 9 ?_
  refine c_ (dk_ aj_ rfl) rfl ?_
  refine Zi 0 (fun hr1=>?_) fun hr1=>?_
  · skip
    refine Zz 8 ?_
    refine d_ (ty_ s 58 hk) rfl (.refl _) zt rfl fun _=>Zz 12 ?_
    refine af_ (kp_ _ (by first|omega|(simp;omega))) rfl (.refl _) zt rfl fun r2 hr2=>?_
    refine Zz 1 ?_
    cases r2
    · skip
      refine Zz 11 ?_
      exact E_ iz_ () (m_ rfl (by simp[bk_, *]<;>omega)) (.refl _) zt
    · skip
      refine Zz 3 ?_
      refine c_ (aG_ rfl) rfl (Zz 11 ?_)
      exact E_ iz_ () (m_ rfl (by simp[bk_, *]<;>omega)) (.refl _) zt
  · skip
    refine Zz 9 ?_
    exact E_ iz_ () (m_ rfl (by simp[bk_, *]<;>omega)) (.refl _) zt
theorem tx_ (s:Str) (c:UInt8) (k:Nat) (hk:ixS c s=some k) (hl:k<s.length) (hs:s.length≤140737488351232) :
    Fn0 Tryz.prog 251 #[str s,str [c]] (.tuple #[str (s.take k),str (s.drop (k+1)),.bool true]):=by
  refine j_ Tryz.func251 rfl rfl Tryz.ntmps251 rfl fun v0=>?_
  refine Zz 11 ?_
  refine d_ (rI_ s c k hk hl hs) rfl (.refl _) zt rfl fun _=>Zz 9 ?_
  exact iy_ Tryz.results251 () rfl rfl rfl rfl (.refl _) zt
theorem mt_ (s:Str) (k:Nat) (hk:ixS 58 s=some k) (hl:k<s.length) :
    Fn0 Tryz.prog 203 #[str s] (.bool (bk_ s)):=by
  refine j_ Tryz.func203 rfl rfl Tryz.ntmps203 rfl fun v0=>?_
  refine Zz 9 ?_
  refine c_ (dk_ aj_ rfl) rfl ?_
  refine Zi 0 (fun hr1=>?_) fun hr1=>?_
  · skip
    refine Zz 8 ?_
    refine d_ (tx_ s 58 k hk hl (by omega)) rfl (.refl _) zt rfl fun _=>Zz 12 ?_
    refine af_ (kp_ _ (by first|omega|(simp;omega))) rfl (.refl _) zt rfl fun r2 hr2=>?_
    refine Zz 1 ?_
    cases r2
    · skip
      refine Zz 11 ?_
      exact E_ iz_ () (m_ rfl (by simp[bk_, *]<;>omega)) (.refl _) zt
    · skip
      refine Zz 3 ?_
      refine c_ (aG_ rfl) rfl (Zz 5 ?_)
      refine af_ (kp_ _ (by first|omega|(simp;omega))) rfl (.refl _) zt rfl fun r3 hr3=>?_
      refine Zz 7 ?_
      exact E_ iz_ () (m_ rfl (by simp[bk_, *]<;>omega)) (.refl _) zt
  · skip
    refine Zz 9 ?_
    exact E_ iz_ () (m_ rfl (by simp[bk_, *]<;>omega)) (.refl _) zt
theorem fE_ (s:Str):Fn0 Tryz.prog 203 #[str s] (.bool (bk_ s)):=by
  cases hk:ixS 58 s with
  | none=>exact mu_ s hk
  | some k=>exact mt_ s k hk (tg_ hk)
theorem cv_ (s:Str) (hs:s.length≤140737488351232) :
    Fn0 Tryz.prog 157 #[str s] (.int .i64 (if aQ_ s then 0 else 20)):=by
  refine j_ Tryz.func157 rfl rfl Tryz.ntmps157 rfl fun v0=>?_
  refine Zz 9 ?_
  refine af_ (fE_ _) rfl (.refl _) zt rfl fun r1 hr1=>Zz 1 ?_
  cases r1
  · skip
    refine Zz 3 ?_
    refine af_ (fX_ _ hs) rfl (.refl _) zt rfl fun r2 hr2=>Zz 3 ?_
    cases r2
    · skip
      refine Zz 9 ?_
      exact E_ Tryz.results157 () (O_ rfl (by simp[aQ_, *])) (.refl _) zt
    · skip
      refine Zz 7 ?_
      exact E_ Tryz.results157 () (O_ rfl (by simp[aQ_, *])) (.refl _) zt
  · skip
    refine Zz 12 ?_
    exact E_ Tryz.results157 () (O_ rfl (by simp[aQ_, *])) (.refl _) zt
end Go.Proofs.YtamklbgaipakfaaGreatDoor
namespace Go.Proofs.YtamklbgaipakfaaGreatDoor
open Go Go.Sx Go.Proofs
attribute [local irreducible] Code.wp wpList wpAnyH
open Go.Vs
theorem fits_c:∀ (m:Nat) (c:Con),c.sz≤m→c.ok→∀ (d n bs:Nat),d≤9→n≤64→∀ r,c.fits d n=r →
    Tri Tryz.prog 204 #[c.val,.int .i64 (d:Int),zp_ bs 0] [(bs,.cells #[.int .i64 (n:Int)] 3 (0,0))] [c.memF] (fun _:Unit=>.bool r.1) (fun _=>[(bs,.cells #[.int .i64 (r.2:Int)] 3 (0,0))]) (fun _=>[]):=by
  intro m
  induction m with
  | zero=>intro c h;have:=c.sz_pos;omega
  | succ m ih =>
    intro c hm hok d n bs hd hn r hr
    obtain⟨k,nm,lo,hi,ad,cap,ps⟩:=c
    have hlen:=Con.ok_len hok
    simp only[Con.parts,Con.cap]at hlen
    refine j_ Tryz.func204 rfl rfl Tryz.ntmps204 rfl fun v0=>?_
    refine Zz 2 ?_
    refine N_ rfl rfl fun b1=>Zz 10 ?_
    refine n_ 1 U_ rfl rfl rfl rfl rfl rfl (Zi 6 (fun hr1=>?_) fun hr1=>?_)
    · skip
      try dsimp only[Con.kind,Con.parts,Con.name,Con.lo,Con.hi,Con.cap,Con.ad]at hr1
      refine Zi 8 (fun hr2=>?_) fun hr2=>?_
      · skip
        try dsimp only[Con.kind,Con.parts,Con.name,Con.lo,Con.hi,Con.cap,Con.ad]at hr2
        have hc0:¬ (8<d∨64<n+1):=by omega
        refine Zz 16 ?_
        refine bp_ [(1,.int .i64 (d:Int)),(2,zp_ bs 0),(23,.slice ad ps.length cap),(24,.int .i64 (ps.length:Int)),(25,.int .i64 ((0:Nat):Int))] zl ?_
        refine bG_ (ι:={q:Nat×Nat // q.1≤ps.length∧Con.fits.fitss (ps.take q.1) (d+1) (n+1)=(true,q.2)∧q.2≤64}) (fun i=>[(1,.int .i64 (d:Int)),(2,zp_ bs 0),(23,.slice ad ps.length cap),(24,.int .i64 (ps.length:Int)),(25,.int .i64 (i.1.1:Int))]) (fun i=>[_,(bs,.cells #[.int .i64 (i.1.2:Int)] 3 (0,0))]) (fun _=>_) (fun i=>ps.length - i.1.1) ⟨(0,n+1),by simp[Con.fits.fitss];omega⟩ ?_
        rintro ⟨⟨i,m1⟩,hk⟩
        refine bp_ [(1,.int .i64 (d:Int)),(2,zp_ bs 0),(23,.slice ad ps.length cap),(24,.int .i64 (ps.length:Int)),(25,.int .i64 (i:Int))] zl ?_
        refine Zi 2 (fun hr3=>?_) fun hr3=>?_
        · skip
          try dsimp only[Con.kind,Con.parts,Con.name,Con.lo,Con.hi,Con.cap,Con.ad]at hr3
          refine Zz 12 ?_
          obtain rfl:r=(true,m1):=by rw[← hr];exact Con.fits_yes hc0 (by omega) hk.2.1
          exact E_ Tryz.results204 () rfl (eB_ (i:=1) rfl) zt
        · skip
          try dsimp only[Con.kind,Con.parts,Con.name,Con.lo,Con.hi,Con.cap,Con.ad]at hr3
          have hlt:i<ps.length:=by omega
          obtain⟨p,hp⟩:∃ p,ps[i]? = some p:=⟨_,List.getElem?_eq_getElem hlt⟩
          have hpm:p∈ps:=List.mem_of_getElem? hp
          refine Zz 10 ?_
          refine c_ (C_ D_ g_ rfl rfl (fun v _ h=>Con.row_addr (c:=.mk k nm lo hi ad cap ps) h.1 hp) (by omega) (by omega)) rfl (c_ (L_ (us:=p.cells) R_ g_ rfl (fun v _ h=>((Con.mem_iff (.mk k nm lo hi ad cap ps) v).1 h.1).1) p.cells_len (Con.part_cells (c:=.mk k nm lo hi ad cap ps) (i:=i) hp)) rfl (G_ aC_ rfl fun b2=>ew_ 0 g_ rfl rfl rfl rfl (Zz 4 ?_)))
          refine c_ (cw_ 0 R_ g_ rfl rfl) rfl (Zz 3 ?_)
          refine ki_ 2 (ih p (by have:=Con.sz_part (c:=.mk k nm lo hi ad cap ps) hpm;omega) (Con.ok_part (c:=.mk k nm lo hi ad cap ps) hok hpm) (d+1) m1 bs (by omega) hk.2.2 _ rfl) rfl rfl (fun v _ h=>⟨Con.mem_part (c:=.mk k nm lo hi ad cap ps) h.1 hpm,trivial⟩) rfl fun r4 hr4=>?_
          refine c_ (aG_ rfl) rfl (Zz 2 ?_)
          cases r4
          · skip
            try dsimp only[Con.kind,Con.parts,Con.name,Con.lo,Con.hi,Con.cap,Con.ad]at hr4
            refine Zz 7 ?_
            obtain rfl:r=(false,(p.fits (d+1) m1).2):=by rw[← hr];exact Con.fits_no hc0 hp hk.2.1 (by assumption)
            exact E_ Tryz.results204 () rfl (eB_ (i:=2) rfl) zt
          · skip
            try dsimp only[Con.kind,Con.parts,Con.name,Con.lo,Con.hi,Con.cap,Con.ad]at hr4
            refine Zz 8 ?_
            exact z_ ⟨(i+1,(p.fits (d+1) m1).2),hlt,Con.fitss_step hp hk.2.1 (by assumption)⟩ (by simp;omega) zl (@List.perm_append_comm _ [_] _) zh
      · skip
        try dsimp only[Con.kind,Con.parts,Con.name,Con.lo,Con.hi,Con.cap,Con.ad]at hr2
        refine Zz 10 ?_
        obtain rfl:r=(false,n+1):=by rw[← hr,Con.fits_eq];simp<;>omega
        exact E_ Tryz.results204 () rfl (eB_ (i:=1) rfl) zt
    · skip
      try dsimp only[Con.kind,Con.parts,Con.name,Con.lo,Con.hi,Con.cap,Con.ad]at hr1
      refine Zz 15 ?_
      obtain rfl:r=(false,n+1):=by rw[← hr,Con.fits_eq];simp<;>omega
      exact E_ Tryz.results204 () rfl (eB_ (i:=1) rfl) zt
end Go.Proofs.YtamklbgaipakfaaGreatDoor
namespace Go.Proofs.YtamklbgaipakfaaGreatDoor
open Go Go.Sx Go.Proofs
attribute [local irreducible] Code.wp wpList wpAnyH
open Go.Vs
def pW_ (v:Vw):Prop:=v.sl∧v.im 6∧∃ T fz,v.w.heap[6]? = some (.cells (Lib.pow10Tab.map fun z=>Value.int .u64 z).toArray T fz)
theorem oU_ {v v':Vw} (h:v.le v') (hp:pW_ v):pW_ v':=by
  obtain⟨h0,h1,T,fz,h2⟩:=hp
  exact⟨by rw[h.sl];exact h0,h.imUp _ h1,T,fz,by rw[h.block _ h1];exact h2⟩
theorem rj_ {v : Vw} (hp : pW_ v) : Lib.TabIs Tryz.prog v.w "internal/strconv.uint64pow10" .u64 Lib.pow10Tab := by
  obtain⟨_,h1,T,fz,h2⟩:=hp
  have hg : Tryz.prog.globalNamed "internal/strconv.uint64pow10" = some 6 := by kernel_rfl
  simp only[Lib.TabIs,World.var?,hg,Option.bind_some,h2]
def bn_:Fct where
  p:=fun v=>bA_ v (some ⟨3,0,none⟩) (dL_.flatMap qa_)∧bA_ v (some ⟨0,0,none⟩) (nj_.flatMap Use.cells)∧True∧pW_ v
  mono:=fun v v' h hp=>⟨(ac_ _ _).mono v v' h hp.1,(ac_ _ _).mono v v' h hp.2.1,trivial,oU_ h hp.2.2.2⟩
end Go.Proofs.YtamklbgaipakfaaGreatDoor
