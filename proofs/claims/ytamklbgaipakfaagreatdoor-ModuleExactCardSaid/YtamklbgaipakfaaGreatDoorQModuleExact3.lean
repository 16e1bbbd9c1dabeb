/-
  Part of the proof of the law ModuleExact over this seat: the small logic, the data, the contracts of functions (no condition).
-/
import Derived.Test.YtamklbgaipakfaaGreatDoorQModuleExact2
import Derived.Laws.MakeOwn
import Derived.Laws.OwnMore
import Derived.Shelf.Strings.Builder1
import Derived.Shelf.Strings.Builder2
import Derived.Shelf.Strings.OnBuilder
import Derived.Shelf.Small.Bits
import Derived.Shelf.Small.Strs
import Derived.Shelf.Small.Wraps
import Derived.Shelf.Utf8.RuneCount
import Derived.Shelf.Strconv.Itoa0
import Derived.Shelf.Strconv.Itoa1
import Derived.Shelf.LaysM
import Derived.Shelf.Strconv.Itoa2
import Derived.Shelf.Strconv.Itoa3
import Derived.Shelf.Strings.Search1
import Derived.Shelf.Strings.Search2
import Derived.Shelf.Strings.Search3
import Derived.Shelf.Strings.Cut
import Derived.Shelf.Strings.Count
import Derived.Shelf.Strings.Shaped
import Derived.Shelf.Sort.Plain
import Derived.Shelf.Strings.Split
import Derived.Shelf.Strings.SplitShaped
import Derived.Shelf.Unicode.DecodeSlow
import Derived.Shelf.Slices.Reverse
import Derived.Shelf.Slices.CompactS
import Derived.Ground.Names2Prog
import Derived.Shelf.Slices.SearchI
import Derived.Shelf.Slices.Cells
import Derived.Shelf.Slices.In.SortNone
import Derived.Ground.SlgnProg
import Derived.Shelf.SlicesE.Clone
import Derived.Test.YtamklbgaipakfaaGreatDoorProg
import Derived.Test.YtamklbgaipakfaaGreatDoorQModuleExact1
set_option linter.unusedVariables false
set_option linter.unusedSimpArgs false
set_option linter.unusedSectionVars false
set_option maxHeartbeats 1000000
namespace Go.Sx
open Go
section
variable {P:Program} {N:Nf} {v0:Vw} {H0:Hp} {R:Exit→Act→World→Prop} {K:List Kt} {fr:Fr} {H:Hp} {Γ:List Fct}
variable {ops:Array Oper} {l:List Oper} {d:Nat} {ty:TypeId} {ps:String} {af:Array Edge}
theorem mr_ {t:TypeId} {x:Operand} {b n:Nat} (i:Nat) {T:TypeId} {fz:Nat×Nat} {us:List Value} (ha:∀ w,(isAgg t).run P w=.ok true w) (hs:∀ w,(sizeOf t).run P w=.ok n w) (hn:us.length=n)
    (hx:Fr.ev fr x=some (.pointer (some ⟨b,0,none⟩))) (hi:H[i]? = some (b,.cells us.toArray T fz)):Yld P N fr H Γ (.load t x) ty (.agg us.toArray) :=
  bz_ i ha hs hx hi (by have:=pw_ us;rw[hn]at this;exact this)
theorem ly_ {t:TypeId} {x y:Operand} {b n:Nat} (i:Nat) {cur:Array Value} {T:TypeId} {us:List Value} (hs:∀ w,(sizeOf t).run P w=.ok n w) (hn:us.length=n) (h1:us.all Value.oneCell'=true)
    (hx:Fr.ev fr x=some (.pointer (some ⟨b,0,none⟩))) (hy:Fr.ev fr y=some (.agg us.toArray)) (hi:H[i]? = some (b,.cells cur T (0,0))) (hc:cur.size=n)
    (hk:Ops P R N v0 H0 ops l K fr (H.set i (b,.cells us.toArray T (0,0))) Γ) :
    Ops P R N v0 H0 ops (⟨none,.store t x y,ty,ps,af,none⟩::l) K fr H Γ:=by
  refine x_ i hs hx hy hi (by simp[Value.cells,hn]) (by simp[hc]) h1 ?_
  have e:(cur.toList.take 0++(Value.agg us.toArray).cells.toList++cur.toList.drop (0+n)).toArray=us.toArray:=by
    have h5:cur.toList.length=n:=by simp[hc]
    simp[Value.cells,List.drop_of_length_le (show cur.toList.length≤n by omega)]
  rw[e]
  exact hk
theorem sq_ {b k:Nat} {cur:Array Value} {T:TypeId} {fz:Nat×Nat} {cs:List Value} (i:Nat) (hi:H[i]? = some (b,.cells cur T fz)) (hc:cur.toList.take k=cs):∀ v:Vw,v.sat H→au_ Γ v→∀ j u,cs[j]? = some u→v.w.cell? ((⟨b,0,none⟩:Addr).add j)=some u:=by
 intro v h1 _ j u hj
 rw[dN_,Nat.zero_add,fi_ h1 hi]
 rw[← hc,List.getElem?_take]at hj
 split at hj
 ·exact hj
 cases hj
theorem du_ {k:Act→World→Prop} {e:TypeId} {sz n:Nat} {sv:Value} {xs:List Value} {Hr F:Hp} (hr:aL_ e sz sv n xs Hr) (hH:H.Perm (Hr++F))
    (h:∀ ad cap,sv=.slice ad n cap→n≤cap→cap≤maxLen→Ok N v0 H0 k fr F (al_ ad xs::Γ)):Ok N v0 H0 k fr H Γ:=by
  rcases hr.2 with⟨h1,h2,h3⟩|⟨g,cap,cur,h1,h2,h3,h4,h5,h6⟩
  · subst h1 h2 h3
    have hx:xs=[]:=List.eq_nil_of_length_eq_zero (by simpa using hr.1)
    refine C_ hH (jk_ (Γ':=al_ none xs::Γ) (fun v _ hg=>⟨.inl hx,hg⟩) (h none 0 rfl (Nat.le_refl _) (Nat.zero_le _)))
  · subst h1 h2
    refine ez_ (al_ (some ⟨g,0,none⟩) xs) hH (fun v i1 i2 _=>.inr ⟨g,0,cur,e,(0,0),rfl,i1,i2,fun j x hj=>?_⟩) (h _ cap rfl h3 h4)
    rw[← h6,List.getElem?_take]at hj
    split at hj
    · rw[Nat.zero_add];simpa using hj
    · cases hj
end
end Go.Sx
namespace Go.Vs
open Go Go.Sx
theorem Con.one_cells (c:Con):c.cells.all Value.oneCell'=true:=of_ c
theorem Ax.one_cells (x:Ax):x.cells.all Value.oneCell'=true:=by
  simp only[Ax.cells,List.all_cons,List.all_append,Con.one_cells];rfl
def dw_ (ad:Option Addr) (l:List Ax):Fct where
  p:=fun v=>bY_ v ad (l.flatMap Ax.cells)∧∀ x∈l,x.mem v
  mono:=fun v v' h hp=>⟨(al_ ad _).mono v v' h hp.1,fun x hx=>x.memF.mono v v' h (hp.2 x hx)⟩
theorem um_ (frm:Int) (l:List Pc) (p:Pc):ins frm l p≠[]:=by
 unfold ins
 split
 ·rename_i h;intro e;rw[e]at h;simp at h
 simp
theorem Ax.chainP_ne (frm:Int) (ro:Str):∀ (rs:List Str) (f:Str) (l:List Pc),rs≠[]∨l≠[]→Ax.chainP frm ro rs f l≠[]
  | [],f,l,h=>by rcases h with h|h;exact absurd rfl h;exact h
  | r::t,f,l,_=>by simp only[Ax.chainP];exact Ax.chainP_ne frm ro t _ _ (.inr (um_ _ _ _))
theorem Ax.pieces_ne (frm:Int) {x:Ax} (G:x.Good):x.pieces frm≠[]:=by
  unfold Ax.pieces
  repeat' split
  all_goals first|exact um_ _ _ _|skip
  rename_i h6
  have:=G.chain h6
  exact Ax.chainP_ne _ _ _ _ _ (.inl (by intro e;rw[List.drop_eq_nil_iff]at e;omega))
def dd_:List Ax→Int
  | []=>0
  | x::l=>if x.check=0 then dd_ l else x.check
def hr_:Nat→List Ax→List Pc→Option (List Pc)
  | _,[],p=>some p
  | i,x::l,p=>if 16384<(p++x.pieces i).length then none else hr_ (i+1) l (p++x.pieces i)
def az_ (l:List Ax):List Pc×Int :=
  if 1024<l.length then ([],2) else if dd_ l≠0 then ([],dd_ l) else match hr_ 0 l [] with|some p=>(p,0)|none=>([],2)
theorem hE_:∀ (xs ys:List Ax),(∀ x∈xs,x.check=0)→dd_ (xs++ys)=dd_ ys
  | [],_,_=>rfl
  | x::xs,ys,h=>by simp only[List.cons_append,dd_,h x (by simp),if_true];exact hE_ xs ys fun y hy=>h y (by simp[hy])
theorem fy_:∀ {l:List Ax},(∀ x∈l,x.check=0)→dd_ l=0
  | [],_=>rfl
  | x::l,h=>by simp only[dd_,h x (by simp),if_true];exact fy_ fun y hy=>h y (by simp[hy])
theorem pI_ {l:List Ax} {x:Ax} {i:Nat} (hx:l[i]? = some x) (h:∀ y∈l.take i,y.check=0) (hb:x.check≠0):dd_ l=x.check:=by
  have e:l=l.take i++x::l.drop (i+1):=by rw[← jB_ hx,List.take_append_drop]
  rw[e,hE_ _ _ h]
  simp only[dd_,hb,if_false]
theorem iK_ (frm:Int) {x:Ax} (G:x.Good):(x.pieces frm).length≤1000:=by
 have hl:x.kind≤3→x.left.sz≤64:=fun h=>(Con.check_zero (G.left h)).2
 have hr:x.kind≤4∨x.kind=8→x.right.sz≤64:=fun h=>(Con.check_zero (G.right h)).2
 have hc:∀ (ro:Str) (rs:List Str) (f:Str) (l:List Pc),(Ax.chainP frm ro rs f l).length≤l.length+rs.length:=by
   intro ro rs
   induction rs with
   | nil=>intro f l;simp[Ax.chainP]
   | cons r t ih =>
     intro f l
     simp only[Ax.chainP]
     have h1:=ih (if t=[] then ro else f++[46]++r) (ins frm l ⟨6,[],[],[],f,r,if t=[] then ro else f++[46]++r,0,0,0⟩)
     have h2:=bp_ frm l ⟨6,[],[],[],f,r,if t=[] then ro else f++[46]++r,0,0,0⟩
     simp only[List.length_cons]
     omega
 have L:=fun (c:Con) l=>Con.leftP_len frm _ c (Nat.le_refl _) l
 have Rr:=fun (c:Con) l=>Con.rightP_len frm _ c (Nat.le_refl _) l
 have h0:([]:List Pc).length=0:=rfl
 unfold Ax.pieces
 split
 ·have:=hl (by omega);have:=hr (by omega)
  have a1:=L x.left [];have a2:=Rr x.right (x.left.leftP frm []);have a3:=bp_ frm (x.right.rightP frm (x.left.leftP frm [])) ⟨1,x.left.atom,[],x.right.atom,[],[],[],0,0,0⟩
  omega
 split
 ·have:=hl (by omega);have:=hr (by omega)
  have a1:=L x.left [];have a2:=Rr x.right (x.left.leftP frm []);have a3:=bp_ frm (x.right.rightP frm (x.left.leftP frm [])) ⟨1,x.left.atom,[],x.right.atom,[],[],[],0,0,0⟩
  have a4:=L x.right (ins frm (x.right.rightP frm (x.left.leftP frm [])) ⟨1,x.left.atom,[],x.right.atom,[],[],[],0,0,0⟩)
  have a5:=Rr x.left (x.right.leftP frm (ins frm (x.right.rightP frm (x.left.leftP frm [])) ⟨1,x.left.atom,[],x.right.atom,[],[],[],0,0,0⟩))
  have a6:=bp_ frm (x.left.rightP frm (x.right.leftP frm (ins frm (x.right.rightP frm (x.left.leftP frm [])) ⟨1,x.left.atom,[],x.right.atom,[],[],[],0,0,0⟩))) ⟨1,x.right.atom,[],x.left.atom,[],[],[],0,0,0⟩
  omega
 split
 ·have:=hl (by omega);have:=hr (by omega)
  have a1:=L x.left [];have a2:=L x.right (x.left.leftP frm []);have a3:=bp_ frm (x.right.leftP frm (x.left.leftP frm [])) ⟨2,x.left.atom,x.right.atom,[33],[],[],[],0,0,0⟩
  omega
 split
 ·have:=hr (by omega)
  have a1:=Rr x.right [];have a3:=bp_ frm (x.right.rightP frm []) ⟨4,[42],[],x.right.atom,x.role,[],[],0,0,0⟩
  omega
 split
 ·have:=bp_ frm [] ⟨5,[],[],[],x.roles.headD [],[],x.role,0,0,0⟩;omega
 split
 ·rename_i h6
  have:=G.chain h6
  have:=hc x.role (x.roles.drop 1) (x.roles.headD []) []
  simp only[List.length_drop]at this
  omega
 split
 ·have:=bp_ frm [] ⟨7,[],[],[],x.role,[],[],0,0,0⟩;omega
 split
 ·have:=hr (by omega)
  have a1:=Rr x.right [];have a3:=bp_ frm (x.right.rightP frm []) ⟨1,[123]++x.a++[125],[],x.right.atom,[],[],[],0,0,0⟩
  omega
 have:=bp_ frm [] ⟨3,[123]++x.a++[125],[],[123]++x.b++[125],x.role,[],[],0,0,0⟩;omega
end Go.Vs
namespace Go.Vs
open Go Go.Sx
def bf_ (c:UInt8):Str→List Str
  | []=>[[]]
  | b::s=>if b=c then []::bf_ c s else match bf_ c s with
    | h::t=>(b::h)::t
    | []=>[[b]]
def ej_ (c:UInt8) (s:Str):Nat:=s.countP (·==c)
theorem jM_ (c:UInt8):∀ s,bf_ c s≠[]
 | []=>by simp[bf_]
 | b::s=>by
   simp only[bf_]
   split
   · simp
   · split<;>simp
theorem eq_ (c:UInt8):∀ s,(bf_ c s).length=ej_ c s+1
 | []=>by simp[bf_,ej_]
 | b::s=>by
   have ih:=eq_ c s
   simp only[bf_]
   by_cases h:b=c
   · simp only[h,if_true,List.length_cons,ih,ej_,List.countP_cons,beq_self_eq_true]
   · simp only[h,if_false]
     cases hs:bf_ c s with
     | nil=>exact absurd hs (jM_ c s)
     | cons x t =>
       rw[hs]at ih
       simp only[List.length_cons]at ih ⊢
       simp only[ej_,List.countP_cons,beq_iff_eq,h,if_false,Nat.add_zero]at ih ⊢
       exact ih
theorem fB_ {c:UInt8}:∀ {s:Str},ixS c s=none→bf_ c s=[s]
 | [],_=>rfl
 | b::s,h=>by
   simp only[ixS]at h
   split at h
   · cases h
   · rename_i hb
     have hs:ixS c s=none:=by simpa using h
     simp only[bf_,hb,if_false,fB_ hs]
theorem hM_ {c:UInt8}:∀ {s:Str} {k:Nat},ixS c s=some k→bf_ c s=s.take k::bf_ c (s.drop (k+1))
 | [],k,h=>by simp[ixS]at h
 | b::s,k,h=>by
   simp only[ixS]at h
   split at h
   · rename_i hb
     simp only[Option.some.injEq]at h
     subst h
     simp[bf_,hb]
   · rename_i hb
     cases hx:ixS c s with
     | none=>rw[hx]at h;simp at h
     | some j =>
       rw[hx]at h
       simp only[Option.map_some,Option.some.injEq]at h
       subst h
       simp only[bf_,hb,if_false,hM_ hx,List.take_succ_cons,List.drop_succ_cons]
theorem sS_ {c:UInt8} {s:Str} (h:ixS c s=none):ej_ c s=0:=by
  have:=eq_ c s
  rw[fB_ h]at this
  simpa using this.symm
theorem nc_ {c:UInt8} {s:Str} {k:Nat} (h:ixS c s=some k):ej_ c s=ej_ c (s.drop (k+1))+1:=by
  have h1:=eq_ c s
  rw[hM_ h]at h1
  simp only[List.length_cons,eq_]at h1
  omega
theorem kU_ (c:UInt8) (s:Str):ej_ c s≤s.length:=List.countP_le_length
def aM_ (s:Str):Bool :=
  if s=[42]∨s=[33] then true
  else if 2≤s.length∧s[0]? = some 123∧s[s.length - 1]? = some 125 then aX_ ((s.drop 1).take (s.length - 1 - 1))
  else if 3≤s.length∧s[0]? = some 60∧s[s.length - 1]? = some 62 then true
  else aX_ s
def cA_ (s:Str):Bool:=decide ((bf_ 46 s).length≤4)&&!((bf_ 46 s).any fun r=>!aX_ r)
def ch_ (used:Bool) (s:Str) (q:Str→Bool):Bool:=(used&&q s)||(!used&&(s==[]))
def Pc.valid (p:Pc):Bool :=
  if p.kind<1∨9<p.kind∨p.frm < -1∨1024≤p.frm then false
  else if (nus p.kind).numbers=true∧(p.lo < -1099511627776∨p.hi<p.lo∨1099511627776<p.hi) then false
  else if (nus p.kind).numbers=false∧(p.lo≠0∨p.hi≠0) then false
  else ((((ch_ (nus p.kind).a p.a aM_&&ch_ (nus p.kind).b p.b aM_)&&ch_ (nus p.kind).c p.c aM_)&&ch_ (nus p.kind).r p.r (if (nus p.kind).numbers then aX_ else cA_))&&ch_ (nus p.kind).s p.s cA_)&&ch_ (nus p.kind).t p.t cA_
structure Pc.sm (p:Pc):Prop where
  a:p.a.length≤17592186044414
  b:p.b.length≤17592186044414
  c:p.c.length≤17592186044414
  r:p.r.length≤17592186044414
  s:p.s.length≤17592186044414
  t:p.t.length≤17592186044414
def dX_ (l:List Pc):Int:=if 16384<l.length then 2 else if l.all Pc.valid then 0 else 1
end Go.Vs
namespace Go.Sx
open Go
section
variable {H r r' d t:Hp} {b:Nat×Obj} {O:Hp}
theorem g_:H.Perm ([]++H):=.refl _
theorem e_:(b::r).Perm ([b]++r):=.refl _
theorem o_:(O++r).Perm (O++r):=.refl _
theorem c_ (h:H.Perm (t++r)):(b::H).Perm (t++(b::r)):=(h.cons b).trans List.perm_middle.symm
theorem i_ (h:H.Perm (t++r)):(O++H).Perm (t++(O++r)):=(List.Perm.append_left O h).trans (by
  rw[← List.append_assoc,← List.append_assoc]
  exact List.Perm.append_right r List.perm_append_comm)
theorem p_ (h1:H.Perm ([b]++r)) (h2:r.Perm (d++r')):H.Perm ((b::d)++r'):=h1.trans (h2.cons b)
theorem s_ (h1:H.Perm (O++r)) (h2:r.Perm (d++r')):H.Perm ((O++d)++r'):=by
  rw[List.append_assoc]
  exact h1.trans (List.Perm.append_left O h2)
theorem aZ_:H.Perm (H++[]):=by rw[List.append_nil]
end
theorem lk_:∀ xs:List (List UInt8),xs.flatMap aE_=xs.map str
  | []=>rfl
  | x::xs=>by simp only[List.flatMap_cons,lk_ xs,List.map_cons];rfl
def ew_ (n:Int):List Value:=[.int .i64 n]
theorem be_ (n:Int):(ew_ n).length=1:=rfl
section
variable {P:Program} {N:Nf} {v0:Vw} {H0:Hp} {R:Exit→Act→World→Prop} {K:List Kt} {fr:Fr} {H:Hp} {Γ:List Fct}
theorem ap_ {k:Act→World→Prop} {b:Nat} {cs:List Value} {T:TypeId} {fz:Nat×Nat} {F:Hp} (xs:List Value) (hH:H.Perm ([(b,.cells cs.toArray T fz)]++F)) (hx:cs=xs) (h:Ok N v0 H0 k fr F (al_ (some ⟨b,0,none⟩) xs::Γ)):Ok N v0 H0 k fr H Γ :=
  ez_ (al_ (some ⟨b,0,none⟩) xs) hH (fun v h1 h2 _=>.inr ⟨b,0,cs.toArray,T,fz,rfl,h1,h2,fun j x hj=>by rw[Nat.zero_add,hx];simpa using hj⟩) h
theorem satNil {v:Vw} (h:v.sat H):v.sat []:=⟨(fun _ h=>by cases h),(by simp),h.lt⟩
variable {ops:Array Oper} {l:List Oper} {d:Nat} {ty:TypeId} {ps:String} {af:Array Edge}
theorem re_ {x y:Operand} {t t':TypeId} {m n:Int} (hx:Fr.ev fr x=some (.int .i64 m)) (hy:Fr.ev fr y=some (.int .i64 n)) :
    Yld P N fr H Γ (.call ⟨.builtin .min,#[x,y],#[t,t']⟩) ty (.int .i64 (if n<m then n else m)) :=
  fun a v h1 h2 _ _ _ _=>by simp[execOp,resolve,invoke,builtin,Builtin.min_,Builtin.min2,h1.ev hx,h1.ev hy]
theorem uL_ {x y:Operand} {t t':TypeId} {m n:Int} (hx:Fr.ev fr x=some (.int .i64 m)) (hy:Fr.ev fr y=some (.int .i64 n)) :
    Yld P N fr H Γ (.call ⟨.builtin .max,#[x,y],#[t,t']⟩) ty (.int .i64 (if m<n then n else m)) :=
  fun a v h1 h2 _ _ _ _=>by simp[execOp,resolve,invoke,builtin,Builtin.max_,Builtin.max2,h1.ev hx,h1.ev hy]
theorem uK_ {t t':TypeId} {x y:Operand} {m n:Int} (hx:Fr.ev fr x=some (.int .i64 m)) (hy:Fr.ev fr y=some (.int .i64 n)) (hn:n≠0) (hw:IntKind.wrap .i64 (m.tdiv n)=m.tdiv n) :
    Yld P N fr H Γ (.binOp .quo t x y t') ty (.int .i64 (m.tdiv n)) :=
  fun a v h1 _ _ _ _ _=>by simp[execOp,h1.ev hx,h1.ev hy,eqGuard,binOp,Op.intDiv,hn,hw]
theorem vA_ (z:Value) (n:Nat):madeCells #[z] (n*1)=(List.replicate n z).toArray:=by
 unfold madeCells
 apply Array.ext
 ·simp
 intro i h1 h2
 simp at h1 h2 ⊢
 have:i%1=0:=Nat.mod_one i
 simp[this]
theorem sv_ {t e:TypeId} {x y:Operand} {n by':Nat} {z:Value} (ht:P.underlying t=some (.slice e)) (hi:(P.info? e).map (fun i=>(i.zero,i.size,i.bytes))=some (some z,1,by')) (hz:z.cells=#[z]) (hx:Fr.ev fr x=some (.int .i64 (n:Int))) (hy:Fr.ev fr y=some (.int .i64 (n:Int)))
    (hb:by'*n≤281474976710656) (h63:n≤9223372036854775807) (hN:Nat.blt d N.n=true)
    (hk:∀ b,Ops P R N v0 H0 ops l K ((d,.slice (some ⟨b,0,none⟩) n n)::fr) ((b,.cells (List.replicate n z).toArray e (0,0))::H) Γ):Ops P R N v0 H0 ops (⟨some d,.makeSlice t x y,ty,ps,af,none⟩::l) K fr H Γ:=by
  refine gw_ (x:=fun b=>.slice (some ⟨b,0,none⟩) n n) hN (fun a v h1 _ _=>?_) hk
  cases h:P.info? e with
  | none=>rw[h]at hi;cases hi
  | some i =>
    rw[h]at hi
    simp only[Option.map_some,Option.some.injEq,Prod.mk.injEq]at hi
    have hb':(i.bytes:Int)*(n:Int)≤281474976710656:=by
      rw[hi.2.2]
      have h:((by'*n:Nat):Int)≤281474976710656:=by omega
      rwa [Int.natCast_mul]at h
    have hr:=run_make (P:=P) v.w t e i z ht h hi.1 .i64 .i64 (n:Int) (n:Int) (by omega) (Int.le_refl _) hb' (by omega)
    rw[hi.2.1,hz,Int.toNat_natCast,vA_]at hr
    simp only[execOp,h1.ev hx,h1.ev hy]
    simp[hr]
theorem lz_ {t:TypeId} {x y:Operand} {b off:Nat} (i:Nat) {l1 l2:List Value} {z u:Value} {T:TypeId} (hs:∀ w,(sizeOf t).run P w=.ok 1 w)
    (hx:Fr.ev fr x=some (.pointer (some ⟨b,off,none⟩))) (hy:Fr.ev fr y=some u) (hi:H[i]? = some (b,.cells (l1++z::l2).toArray T (0,0))) (ho:off=l1.length) (hu:u.cells=#[u]) (h1c:u.oneCell'=true)
    (hk:Ops P R N v0 H0 ops l K fr (H.set i (b,.cells (l1++u::l2).toArray T (0,0))) Γ) :
    Ops P R N v0 H0 ops (⟨none,.store t x y,ty,ps,af,none⟩::l) K fr H Γ:=by
  subst ho
  refine x_ i hs hx hy hi (by rw[hu];rfl) (by simp) (by rw[hu];simpa using h1c) ?_
  have e:(((l1++z::l2).toArray.toList.take l1.length++u.cells.toList++(l1++z::l2).toArray.toList.drop (l1.length+1)).toArray)=(l1++u::l2).toArray:=by
    rw[hu]
    have e2:(l1++z::l2).drop (l1.length+1)=l2:=by
      rw[← List.drop_drop];simp
    simp[e2]
  rw[e]
  exact hk
theorem oM_ {b cap n:Nat}:sad (some ⟨b,0,none⟩) cap 0 n=some ⟨b,0,none⟩:=by unfold sad;split<;>simp[dN_]
end
end Go.Sx
namespace Go.Sx
open Go
section
variable {P:Program} {N:Nf} {v0:Vw} {H0:Hp} {R:Exit→Act→World→Prop} {K:List Kt} {fr:Fr} {H:Hp} {Γ:List Fct}
variable {ops:Array Oper} {l:List Oper} {d:Nat} {ty:TypeId} {ps:String} {af:Array Edge}
theorem eS_ {x y:Operand} {t e:TypeId} {sz by' n m c:Nat} {sv:Value} {xs news:List Value} {Hr F:Hp} {ad:Option Addr} (he:Elt P t e sz by') (hrow:aL_ e sz sv n xs Hr)
    (hx:Fr.ev fr x=some sv) (hy:Fr.ev fr y=some (.slice ad m c)) (hz:ad=none→c=0) (hmc:m≤c) (hH:H.Perm (Hr++F)) (hl:news.length=m*sz) (hnews:∀ v,v.sat H→au_ Γ v→bY_ v ad news) (h1c:∀ u∈news,u.oneCell'=true)
    (h63:n+m≤maxLen) (hb:(n+m)*by'≤140737488355328) (hN:Nat.blt d N.n=true)
    (hk:∀ sv' Hr',aL_ e sz sv' (n+m) (xs++news) Hr'→Ops P R N v0 H0 ops l K ((d,sv')::fr) (Hr'++F) Γ) :
    Ops P R N v0 H0 ops (⟨some d,.call ⟨.builtin .append,#[x,y],#[t,t]⟩,ty,ps,af,none⟩::l) K fr H Γ:=by
  cases ad with
  | none =>
    obtain rfl:=hz rfl
    obtain rfl:m=0:=by omega
    obtain rfl:news=[]:=List.eq_nil_of_length_eq_zero (by simpa using hl)
    refine dW_ rfl fun a v h1 h2 h3 h4=>?_
    obtain⟨i,z,hi,hz,es,eb,ez⟩:=he.info
    have g:=h2.perm hH
    have ho:=hrow.owns g
    have hr:=run_append_owned_none (P:=P) (w:=v.w) 0 t ty e i sz he.und hi sv n xs ho
    unfold Oper.wp execOp
    simp only[resolve,invoke,builtin,Sem.run_bind,Sem.run_pure,Result.andThen_ok,List.map_toArray,List.map_cons,List.map_nil,h1.ev hx,h1.ev hy,hr]
    have T:v.to H v (Hr++F):=(Vw.to.refl v (Hr++F)).permL hH.symm
    exact hk sv Hr (by simpa using hrow) _ v (h1.put hN) g (h3.trans T) h4
  | some a0 =>
    refine aG_ he hrow hx hy hH hl (fun v h2 h4 j u hj=>?_) h1c h63 hb hN hk
    rcases hnews v h2 h4 with h|⟨b,off,arr,T,fz,h1,_,h3,h5⟩
    · rw[h]at hj;simp at hj
    · rw[Option.some.injEq]at h1
      subst h1
      have:=h5 j u hj
      rw[dN_]
      simp[World.cell?,h3,this]
theorem jV_ {t e:TypeId} {sz:Nat} (hu:∀ w,(underlying t).run P w=.ok (.slice e) w) (hs:∀ w,(sizeOf e).run P w=.ok sz w) (hN:Nat.blt d N.n=true)
    (hk:∀ b,Ops P R N v0 H0 ops l K ((d,.slice (some ⟨b,0,none⟩) 0 0)::fr) ((b,.cells #[] e (0,0))::H) Γ):Ops P R N v0 H0 ops (⟨some d,.buildSlice t 0 #[],ty,ps,af,none⟩::l) K fr H Γ :=
  gw_ (x:=fun b=>.slice (some ⟨b,0,none⟩) 0 0) hN (fun a v h1 h2 h4=>by
    simp only[execOp,Instr.buildSlice,Sem.run_bind,hu,Result.andThen_ok,hs,List.map_toArray]
    rw[if_neg (by omega),if_pos (by omega),Nat.zero_mul,show Array.range 0=#[] by simp]
    simp only[Sem.run_bind,Sem.run_pure,Result.andThen_ok,List.map_nil,List.map_toArray,List.toList_toArray,Instr.fill]
    rfl) hk
theorem cr_ {k:Act→World→Prop} {e:TypeId} {sz n:Nat} {sv:Value} {xs:List Value} {Hr F:Hp} (hr:aL_ e sz sv n xs Hr) (hH:H.Perm (Hr++F))
    (h:∀ ad cap,sv=.slice ad n cap→n≤cap→cap≤maxLen→(ad=none→cap=0)→Ok N v0 H0 k fr F (al_ ad xs::Γ)):Ok N v0 H0 k fr H Γ:=by
  refine du_ hr hH fun ad cap e1 e2 e3=>h ad cap e1 e2 e3 fun e4=>?_
  rcases hr.2 with⟨h1,_,_⟩|⟨g,c,cur,h1,_⟩
  · rw[h1]at e1
    simp only[Value.slice.injEq]at e1
    exact e1.2.2.symm
  · rw[h1,e4]at e1
    simp at e1
end
end Go.Sx
namespace Go.Sx
open Go
section
variable {P:Program} {N:Nf} {fr:Fr} {H:Hp} {Γ:List Fct} {ty:TypeId} {e:TypeId} {sz n:Nat} {sv:Value} {xs:List Value} {Hr F:Hp}
theorem im_ {O:Hp}:List.Perm (O++[]) O:=by rw[List.append_nil]
theorem ca_ {O Q:Hp}:List.Perm (Q++O) (O++Q):=List.perm_append_comm
theorem M_ {O:Hp} {b:Nat×Obj}:List.Perm (b::O) (O++[b]):=List.perm_append_comm (l₁:=[b])
theorem rs_ {H:Hp}:List.Perm ([]++H) H:=.refl _
def svB:Value→Nat
  | .slice (some a) _ _=>a.block
  | _=>0
theorem ga_ {x:Operand} {t e':TypeId} (hrow:aL_ e sz sv n xs Hr) (hu:∀ w,(underlying t).run P w=.ok (.slice e') w) (hx:Fr.ev fr x=some sv):Yld P N fr H Γ (.call ⟨.builtin .len,#[x],#[t]⟩) ty (.int .i64 (n:Int)):=by
 rcases hrow.2 with⟨rfl,rfl,_⟩|⟨g,cap,cur,rfl,_⟩
 ·exact dp_ hu hx
 exact dp_ hu hx
theorem ii_ {x y:Operand} {t e':TypeId} {k:IntKind} {i:Int} (hrow:aL_ e sz sv n xs Hr) (hu:∀ w,(underlying t).run P w=.ok (.slice e') w) (hs:∀ w,(sizeOf e').run P w=.ok sz w) (hx:Fr.ev fr x=some sv) (hy:Fr.ev fr y=some (.int k i)) (h0:0≤i) (hl:i<n) :
    Yld P N fr H Γ (.indexAddr t x y) ty (.pointer (some ⟨svB sv,i.toNat*sz,none⟩)):=by
  rcases hrow.2 with⟨_,h2,_⟩|⟨g,cap,cur,rfl,_⟩
  · omega
  · have:=gK_ (P:=P) (N:=N) (H:=H) (Γ:=Γ) (ty:=ty) hu hs hx hy h0 hl
    rw[Nat.zero_add]at this
    exact this
theorem ms_ {x:Operand} {t:TypeId} {k m:Nat} {us:List Value} (hrow:aL_ e sz sv n xs Hr) (hH:H.Perm (Hr++F)) (ha:∀ w,(isAgg t).run P w=.ok true w) (hs:∀ w,(sizeOf t).run P w=.ok m w) (hx:Fr.ev fr x=some (.pointer (some ⟨svB sv,k,none⟩)))
    (hn:us.length=m) (hp:0<m) (hu:∀ j y,us[j]? = some y→xs[k+j]? = some y):Yld P N fr H Γ (.load t x) ty (.agg us.toArray):=by
  rcases hrow.2 with⟨_,h2,_⟩|⟨g,cap,cur,rfl,rfl,h3,h4,h5,h6⟩
  · subst h2
    have h1:=hrow.1
    have:xs=[]:=List.eq_nil_of_length_eq_zero (by simpa using h1)
    subst this
    have:=hu 0 us[0] (List.getElem?_eq_getElem (by omega))
    simp at this
  · refine gJ_ hx fun v h2 _=>ef_ ha hs hn fun j y hj=>?_
    have hb:=((h2.perm hH).own _ (List.mem_append_left _ List.mem_cons_self)).1
    have hc:=hu j y hj
    rw[← h6,List.getElem?_take]at hc
    split at hc
    · have hc':cur[k+j]? = some y:=by simpa using hc
      simp only[svB,World.cell?,hb,Option.isSome_none,Bool.false_eq_true,if_false]
      exact hc'
    · cases hc
end
end Go.Sx
namespace Go.Sx
open Go
section
variable {P:Program} {N:Nf} {fr:Fr} {H:Hp} {Γ:List Fct} {ty:TypeId} {e:TypeId} {sz n:Nat} {sv:Value} {xs:List Value} {Hr F:Hp}
theorem pZ_ {x:Operand} {t:TypeId} {k:Nat} {u:Value} (hrow:aL_ e sz sv n xs Hr) (hH:H.Perm (Hr++F)) (ha:∀ w,(isAgg t).run P w=.ok false w) (hx:Fr.ev fr x=some (.pointer (some ⟨svB sv,k,none⟩)))
    (hu:xs[k]? = some u):Yld P N fr H Γ (.load t x) ty u:=by
  rcases hrow.2 with⟨_,h2,_⟩|⟨g,cap,cur,rfl,rfl,h3,h4,h5,h6⟩
  · subst h2
    have:xs=[]:=List.eq_nil_of_length_eq_zero (by simpa using hrow.1)
    subst this;simp at hu
  · refine gJ_ hx fun v h2 _=>cg_ ha ?_
    have hb:=((h2.perm hH).own _ (List.mem_append_left _ List.mem_cons_self)).1
    rw[← h6,List.getElem?_take]at hu
    split at hu
    · have hc':cur[k]? = some u:=by simpa using hu
      simp only[svB,World.cell?,hb,Option.isSome_none,Bool.false_eq_true,if_false]
      exact hc'
    · cases hu
theorem ep_ (h:aL_ e sz sv n xs Hr):sv.cells=#[sv]∧sv.oneCell'=true:=by
  rcases h.2 with⟨rfl,_⟩|⟨g,cap,cur,rfl,_⟩<;>exact⟨rfl,rfl⟩
theorem cI_ {v0:Vw} {H0:Hp} {R:Exit→Act→World→Prop} {K:List Kt} {ops:Array Oper} {l:List Oper} {ps:String} {af:Array Edge} {t:TypeId} {x y:Operand} {b off:Nat} (i:Nat) {cur:Array Value} {T:TypeId} (hrow:aL_ e sz sv n xs Hr) (hs:∀ w,(sizeOf t).run P w=.ok 1 w)
    (hx:Fr.ev fr x=some (.pointer (some ⟨b,off,none⟩))) (hy:Fr.ev fr y=some sv) (hi:H[i]? = some (b,.cells cur T (0,0))) (hf:Nat.ble (off+1) cur.size=true)
    (hk:Ops P R N v0 H0 ops l K fr (H.set i (b,.cells (cur.toList.take off++[sv]++cur.toList.drop (off+1)).toArray T (0,0))) Γ):Ops P R N v0 H0 ops (⟨none,.store t x y,ty,ps,af,none⟩::l) K fr H Γ :=
  x_ i hs hx hy hi (by rw[(ep_ hrow).1];rfl) hf (by rw[(ep_ hrow).1];simp[(ep_ hrow).2]) (by rw[(ep_ hrow).1];exact hk)
theorem kY_ {x y:Operand} {t t':TypeId} {m k:Int} (hx:Fr.ev fr x=some (.int .i64 m)) (hy:Fr.ev fr y=some (.int .i64 k)):Yld P N fr H Γ (.call ⟨.builtin .max,#[x,y],#[t,t']⟩) ty (.int .i64 (max m k)):=by
  have e:(if m<k then k else m)=max m k:=by split<;>omega
  exact e▸uL_ hx hy
theorem iV_ {x y:Operand} {t t':TypeId} {m k:Int} (hx:Fr.ev fr x=some (.int .i64 m)) (hy:Fr.ev fr y=some (.int .i64 k)):Yld P N fr H Γ (.call ⟨.builtin .min,#[x,y],#[t,t']⟩) ty (.int .i64 (min m k)):=by
  have e:(if k<m then k else m)=min m k:=by split<;>omega
  exact e▸re_ hx hy
theorem dC_ {b:Nat} {cs:List Value} {T:TypeId} {fz:Nat×Nat} (hp:H.Perm ([(b,.cells cs.toArray T fz)]++F)):∀ v:Vw,v.sat H→au_ Γ v→∀ j u,cs[j]? = some u→v.w.cell? ((⟨b,0,none⟩:Addr).add j)=some u:=by
  intro v h1 h2 j u hj
  exact bM_ (Γ:=Γ) 0 rfl v (h1.perm hp) h2 j u hj
theorem ow_ {t t':TypeId} {x y:Operand} {m n:Bool} (hu:P.underlying t=some .bool) (hx:Fr.ev fr x=some (.bool m)) (hy:Fr.ev fr y=some (.bool n)):Yld P N fr H Γ (.binOp .eql t x y t') ty (.bool (m==n)) :=
  fun a v h1 _ _ _ _ _=>by simp[execOp,h1.ev hx,h1.ev hy,eqGuard,binOp,run_equal_bool v.w t m n hu]
theorem bd_ {α:Type} {f:α→List Value} (hf:∀ x,(f x).all Value.oneCell'=true) {l:List α} {u:Value} (h:u∈l.flatMap f):u.oneCell'=true:=by
  obtain⟨y,_,hy⟩:=List.mem_flatMap.1 h
  exact List.all_eq_true.1 (hf y) u hy
end
end Go.Sx
namespace Go.Vs
open Go Go.Sx
def rQ_ (a c:Str):Pc:=⟨1,a,[],c,[],[],[],0,0,0⟩
def br_ (frm:Int):List Str→List Pc→List Pc
  | [],l=>l
  | a::r,l=>br_ frm r (ins frm l (rQ_ a [42]))
theorem eV_ (frm:Int):∀ (r:List Str) (l:List Pc),(br_ frm r l).length≤l.length+r.length
  | [],l=>by simp[br_]
  | a::r,l=>by
    have h1:=eV_ frm r (ins frm l (rQ_ a [42]))
    have h2:=bp_ frm l (rQ_ a [42])
    simp only[br_,List.length_cons]
    omega
theorem jm_ (frm:Int):∀ (xs ys:List Str) (l:List Pc),br_ frm (xs++ys) l=br_ frm ys (br_ frm xs l)
  | [],_,_=>rfl
  | x::xs,ys,l=>by simp only[List.cons_append,br_];exact jm_ frm xs ys _
theorem qA_ (frm:Int) {xs:List Str} {a:Str} {i:Nat} (hp:xs[i]? = some a) (l:List Pc):br_ frm (xs.take (i+1)) l=ins frm (br_ frm (xs.take i) l) (rQ_ a [42]):=by
  rw[List.take_add_one,hp,Option.toList_some,jm_];rfl
def eD_ (s:Str):Str:=[123]++s++[125]
def Ax.disj (x:Ax):Str:=[60]++x.left.operandN++[32,97,110,100,32]++x.right.operandN++[62]
def Ax.doms (x:Ax):Str:=[60,115,111,109,101,32]++x.role++[32,101,118,101,114,121,116,104,105,110,103,62]
def Ax.goalP (x:Ax):List Pc×List Fc×Int :=
  if x.check≠0 then ([],[],x.check)
  else if x.kind=1 then (x.right.leftP (-1) (x.left.rightP (-1) (br_ (-1) [x.left.atom,x.right.atom] [])),[⟨1,x.left.atom,x.right.atom,[],0,0⟩],0)
  else if x.kind=2 then (x.left.leftP (-1) (x.right.rightP (-1) (x.right.leftP (-1) (x.left.rightP (-1) (br_ (-1) [x.left.atom,x.right.atom] [])))),[⟨1,x.left.atom,x.right.atom,[],0,0⟩,⟨1,x.right.atom,x.left.atom,[],0,0⟩],0)
  else if x.kind=3 then (x.right.rightP (-1) (ins (-1) (x.left.rightP (-1) (ins (-1) (br_ (-1) [x.disj,[33]] []) (rQ_ x.disj x.left.atom))) (rQ_ x.disj x.right.atom)),[⟨1,x.disj,[33],[],0,0⟩],0)
  else if x.kind=4 then (x.right.leftP (-1) (ins (-1) (br_ (-1) [x.doms,x.right.atom] []) ⟨3,x.doms,[],[42],x.role,[],[],0,0,0⟩),[⟨1,x.doms,x.right.atom,[],0,0⟩],0)
  else if x.kind=8 then (x.right.leftP (-1) (br_ (-1) [eD_ x.a,x.right.atom] []),[⟨1,eD_ x.a,x.right.atom,[],0,0⟩],0)
  else if x.kind=9 then (br_ (-1) [eD_ x.a,eD_ x.b] [],[⟨2,eD_ x.a,eD_ x.b,x.role,0,0⟩],0)
  else ([],[],22)
theorem Con.operandN_len {c:Con} (hok:c.ok):c.operandN.length≤6402:=by
  have:=Con.textN_len hok
  unfold operandN
  split<;>simp<;>omega
end Go.Vs
namespace Go.Proofs
open Go.Shelf
def Tryz.lays156_ren:Go.Shelf.Ren:=⟨fun|156=>315|165=>326|166=>327|169=>328|240=>333|241=>334|276=>336|277=>337|n=>n,fun|31=>23|9=>9|3=>3|4=>4|0=>0|20=>20|72=>337|76=>340|70=>335|37=>307|75=>339|127=>345|164=>351|5=>5|80=>342|n=>n,fun|n=>n⟩
theorem Tryz.lays156:Go.Proofs.Lays.n156 Tryz.prog Tryz.lays156_ren:={
  mixed:=by kernel_rfl
  f156:=Tryz.func315.trans (congrArg some (by kernel_rfl))
  f165:=Tryz.func326.trans (congrArg some (by kernel_rfl))
  f166:=Tryz.func327.trans (congrArg some (by kernel_rfl))
  f169:=Tryz.func328.trans (congrArg some (by kernel_rfl))
  f240:=Tryz.func333.trans (congrArg some (by kernel_rfl))
  f241:=Tryz.func334.trans (congrArg some (by kernel_rfl))
  f276:=Tryz.func336.trans (congrArg some (by kernel_rfl))
  f277:=Tryz.func337.trans (congrArg some (by kernel_rfl))
  t0:=Tryz.underlying0
  a0:=Tryz.isAgg0
  z0:=Tryz.sizeOf0
  v0:=Tryz.zeroValue0
  t3:=Tryz.underlying3
  a3:=Tryz.isAgg3
  z3:=Tryz.sizeOf3
  v3:=Tryz.zeroValue3
  t4:=Tryz.underlying4
  a4:=Tryz.isAgg4
  z4:=Tryz.sizeOf4
  v4:=Tryz.zeroValue4
  t9:=Tryz.underlying9
  a9:=Tryz.isAgg9
  z9:=Tryz.sizeOf9
  v9:=Tryz.zeroValue9
  t20:=Tryz.underlying20
  a20:=Tryz.isAgg20
  z20:=Tryz.sizeOf20
  v20:=Tryz.zeroValue20
  t31:=Tryz.underlying23
  a31:=Tryz.isAgg23
  z31:=Tryz.sizeOf23
  v31:=Tryz.zeroValue23
  t37:=Tryz.underlying307
  a37:=Tryz.isAgg307
  z37:=Tryz.sizeOf307
  v37:=Tryz.zeroValue307
  t70:=Tryz.underlying335
  a70:=Tryz.isAgg335
  z70:=Tryz.sizeOf335
  v70:=Tryz.zeroValue335
  t72:=Tryz.underlying337
  a72:=Tryz.isAgg337
  z72:=Tryz.sizeOf337
  v72:=Tryz.zeroValue337
  t75:=Tryz.underlying339
  a75:=Tryz.isAgg339
  z75:=Tryz.sizeOf339
  v75:=Tryz.zeroValue339
  t76:=Tryz.underlying340
  a76:=Tryz.isAgg340
  z76:=Tryz.sizeOf340
  v76:=Tryz.zeroValue340
  t127:=Tryz.underlying345
  a127:=Tryz.isAgg345
  z127:=Tryz.sizeOf345
  v127:=Tryz.zeroValue345
  t164:=Tryz.underlying351
  a164:=Tryz.isAgg351
  z164:=Tryz.sizeOf351
  v164:=Tryz.zeroValue351 }
theorem Tryz.Builder_Extra_156:Builder.Extra Tryz.prog Tryz.lays156_ren:={
  sizeBuilder:=by kernel_rfl
  liesBuilder:=by kernel_rfl
  t5:=Tryz.underlying5
  a5:=Tryz.isAgg5
  z5:=Tryz.sizeOf5
  v5:=Tryz.zeroValue5
  infoByte:=by kernel_rfl
  cellsByte:=by kernel_rfl
  sizeByte:=by kernel_rfl
  neB5:=by decide }
open Go.RowKit in
theorem Tryz.strings_Join (bk o c:Nat) (xs:List ByteArray) (sep:ByteArray) (w:World) (hcells:∀ (j:Nat) x,xs[j]? = some x→w.cell? ⟨bk,o+j,none⟩=some (.string x)) (hbk:bk<w.heap.size) (hN:xs.length≤140737488355328) (hcap:xs.length≤c) (hlen:(Lib.join (xs.map (·.data.toList)) sep.data.toList).length≤140737488355328) :
    Calls Tryz.prog 315 #[.slice (some ⟨bk,o,none⟩) xs.length c,.string sep] w fun e w'=>e=.returned (.string ⟨(Lib.join (xs.map (·.data.toList)) sep.data.toList).toArray⟩)∧Below w.heap.size w w':=Any.strings_Join Tryz.lays156 Tryz.Builder_Extra_156 bk o c xs sep w hcells hbk hN hcap hlen
def Tryz.lays122_ren:Go.Shelf.Ren:=⟨fun|122=>97|215=>181|n=>n,fun|3=>3|4=>4|n=>n,fun|n=>n⟩
theorem Tryz.lays122:Go.Proofs.Lays.n122 Tryz.prog Tryz.lays122_ren:={
  mixed:=by kernel_rfl
  f122:=Tryz.func97.trans (congrArg some (by kernel_rfl))
  f215:=Tryz.func181.trans (congrArg some (by kernel_rfl))
  t3:=Tryz.underlying3
  a3:=Tryz.isAgg3
  z3:=Tryz.sizeOf3
  v3:=Tryz.zeroValue3
  t4:=Tryz.underlying4
  a4:=Tryz.isAgg4
  z4:=Tryz.sizeOf4
  v4:=Tryz.zeroValue4 }
open Go.RowKit in
theorem Tryz.cmp_Compare_int (x y:Int) (w:World) :
    Calls Tryz.prog 97 #[.int .i64 x,.int .i64 y] w fun e w'=>e=.returned (.int .i64 (Lib.compareInt x y))∧w'=w:=Any.cmp_Compare_int Tryz.lays122 x y w
def Tryz.laysM171_ren:Go.Shelf.Ren:=⟨fun|171=>317|243=>329|246=>335|283=>338|284=>339|285=>340|286=>341|129=>177|317=>342|318=>343|319=>344|320=>345|337=>346|338=>347|n=>n,fun|3=>3|9=>9|2=>2|4=>4|171=>354|0=>0|53=>219|37=>307|5=>5|173=>356|212=>359|51=>217|20=>20|213=>360|46=>145|232=>361|233=>362|n=>n,fun|17=>6|18=>7|19=>8|n=>n⟩
theorem Tryz.laysM171:Go.Proofs.LaysM.n171 Tryz.prog Tryz.laysM171_ren:={
  mixed:=by kernel_rfl
  f129:=Tryz.func177.trans (congrArg some (by kernel_rfl))
  f171:=Tryz.func317.trans (congrArg some (by kernel_rfl))
  f243:=Tryz.func329.trans (congrArg some (by kernel_rfl))
  f246:=Tryz.func335.trans (congrArg some (by kernel_rfl))
  f283:=Tryz.func338.trans (congrArg some (by kernel_rfl))
  f284:=Tryz.func339.trans (congrArg some (by kernel_rfl))
  f285:=Tryz.func340.trans (congrArg some (by kernel_rfl))
  f286:=Tryz.func341.trans (congrArg some (by kernel_rfl))
  f317:=Tryz.func342.trans (congrArg some (by kernel_rfl))
  f318:=Tryz.func343.trans (congrArg some (by kernel_rfl))
  f319:=Tryz.func344.trans (congrArg some (by kernel_rfl))
  f320:=Tryz.func345.trans (congrArg some (by kernel_rfl))
  f337:=Tryz.func346.trans (congrArg some (by kernel_rfl))
  f338:=Tryz.func347.trans (congrArg some (by kernel_rfl))
  t0:=Tryz.underlying0
  a0:=Tryz.isAgg0
  z0:=Tryz.sizeOf0
  v0:=Tryz.zeroValue0
  t2:=Tryz.underlying2
  a2:=Tryz.isAgg2
  z2:=Tryz.sizeOf2
  v2:=Tryz.zeroValue2
  t3:=Tryz.underlying3
  a3:=Tryz.isAgg3
  z3:=Tryz.sizeOf3
  v3:=Tryz.zeroValue3
  t4:=Tryz.underlying4
  a4:=Tryz.isAgg4
  z4:=Tryz.sizeOf4
  v4:=Tryz.zeroValue4
  t5:=Tryz.underlying5
  a5:=Tryz.isAgg5
  z5:=Tryz.sizeOf5
  v5:=Tryz.zeroValue5
  t9:=Tryz.underlying9
  a9:=Tryz.isAgg9
  z9:=Tryz.sizeOf9
  v9:=Tryz.zeroValue9
  t20:=Tryz.underlying20
  a20:=Tryz.isAgg20
  z20:=Tryz.sizeOf20
  v20:=Tryz.zeroValue20
  t37:=Tryz.underlying307
  a37:=Tryz.isAgg307
  z37:=Tryz.sizeOf307
  v37:=Tryz.zeroValue307
  t46:=Tryz.underlying145
  a46:=Tryz.isAgg145
  z46:=Tryz.sizeOf145
  v46:=Tryz.zeroValue145
  t51:=Tryz.underlying217
  a51:=Tryz.isAgg217
  z51:=Tryz.sizeOf217
  v51:=Tryz.zeroValue217
  t53:=Tryz.underlying219
  a53:=Tryz.isAgg219
  z53:=Tryz.sizeOf219
  v53:=Tryz.zeroValue219
  t171:=Tryz.underlying354
  a171:=Tryz.isAgg354
  z171:=Tryz.sizeOf354
  v171:=Tryz.zeroValue354
  t173:=Tryz.underlying356
  a173:=Tryz.isAgg356
  z173:=Tryz.sizeOf356
  v173:=Tryz.zeroValue356
  t212:=Tryz.underlying359
  a212:=Tryz.isAgg359
  z212:=Tryz.sizeOf359
  v212:=Tryz.zeroValue359
  t213:=Tryz.underlying360
  a213:=Tryz.isAgg360
  z213:=Tryz.sizeOf360
  t232:=Tryz.underlying361
  a232:=Tryz.isAgg361
  z232:=Tryz.sizeOf361
  v232:=Tryz.zeroValue361
  t233:=Tryz.underlying362
  a233:=Tryz.isAgg362
  z233:=Tryz.sizeOf362
  v233:=Tryz.zeroValue362
  g17:=by kernel_rfl
  g18:=by kernel_rfl
  g19:=by kernel_rfl
  i0:=by kernel_rfl
  i2:=by kernel_rfl
  i3:=by kernel_rfl
  i4:=by kernel_rfl
  i5:=by kernel_rfl
  i9:=by kernel_rfl
  i20:=by kernel_rfl
  i37:=by kernel_rfl
  i46:=by kernel_rfl
  i51:=by kernel_rfl
  i53:=by kernel_rfl
  i171:=by kernel_rfl
  i173:=by kernel_rfl
  i212:=by kernel_rfl
  i232:=by kernel_rfl
  i233:=by kernel_rfl
  m17:=by kernel_rfl
  m18:=by kernel_rfl
  m19:=by kernel_rfl }
open Go.RowKit Go.Sort Go.Lib in
theorem Tryz.strconv_Itoa (n : Int) (h0 : -9223372036854775808 ≤ n) (h1 : n ≤ 9223372036854775807) (w : World) (htab : Lib.TabIs Tryz.prog w "internal/strconv.uint64pow10" .u64 Lib.pow10Tab) :
    Calls Tryz.prog 317 #[.int .i64 n] w fun e w'=>e=.returned (.string ⟨(Lib.itoa n).toArray⟩)∧∃ k os,w'=grow (w.drewN k) os:=Any.strconv_Itoa Tryz.laysM171 n h0 h1 w htab
def Tryz.lays219_ren:Go.Shelf.Ren:=⟨fun|219=>307|217=>318|225=>319|224=>320|267=>321|266=>330|314=>331|n=>n,fun|9=>9|3=>3|4=>4|5=>5|46=>145|146=>343|51=>217|n=>n,fun|1=>2|n=>n⟩
theorem Tryz.lays219:Go.Proofs.Lays.n219 Tryz.prog Tryz.lays219_ren:={
  mixed:=by kernel_rfl
  f217:=Tryz.func318.trans (congrArg some (by kernel_rfl))
  f219:=Tryz.func307.trans (congrArg some (by kernel_rfl))
  f224:=Tryz.func320.trans (congrArg some (by kernel_rfl))
  f225:=Tryz.func319.trans (congrArg some (by kernel_rfl))
  f266:=Tryz.func330.trans (congrArg some (by kernel_rfl))
  f267:=Tryz.func321.trans (congrArg some (by kernel_rfl))
  f314:=Tryz.func331.trans (congrArg some (by kernel_rfl))
  t3:=Tryz.underlying3
  a3:=Tryz.isAgg3
  z3:=Tryz.sizeOf3
  v3:=Tryz.zeroValue3
  t4:=Tryz.underlying4
  a4:=Tryz.isAgg4
  z4:=Tryz.sizeOf4
  v4:=Tryz.zeroValue4
  t5:=Tryz.underlying5
  a5:=Tryz.isAgg5
  z5:=Tryz.sizeOf5
  v5:=Tryz.zeroValue5
  t9:=Tryz.underlying9
  a9:=Tryz.isAgg9
  z9:=Tryz.sizeOf9
  v9:=Tryz.zeroValue9
  t46:=Tryz.underlying145
  a46:=Tryz.isAgg145
  z46:=Tryz.sizeOf145
  v46:=Tryz.zeroValue145
  t51:=Tryz.underlying217
  a51:=Tryz.isAgg217
  z51:=Tryz.sizeOf217
  v51:=Tryz.zeroValue217
  t146:=Tryz.underlying343
  a146:=Tryz.isAgg343
  z146:=Tryz.sizeOf343
  v146:=Tryz.zeroValue343
  g1:=by kernel_rfl }
open Go.RowKit Go.Lib in
theorem Tryz.stringslite_Index_one (s:ByteArray) (c:UInt8) (w:World) :
    Calls Tryz.prog 307 #[.string s,.string ⟨#[c]⟩] w fun e w'=>e=.returned (.int .i64 (Lib.indexByte s.data.toList c))∧w'=w:=Any.stringslite_Index_one Tryz.lays219 s c w
def Tryz.lays143_ren:Go.Shelf.Ren:=⟨fun|143=>310|219=>307|217=>318|225=>319|224=>320|267=>321|266=>330|314=>331|n=>n,fun|9=>9|3=>3|4=>4|5=>5|46=>145|146=>343|51=>217|n=>n,fun|1=>2|n=>n⟩
theorem Tryz.lays143:Go.Proofs.Lays.n143 Tryz.prog Tryz.lays143_ren:={
  mixed:=by kernel_rfl
  f143:=Tryz.func310.trans (congrArg some (by kernel_rfl))
  f217:=Tryz.func318.trans (congrArg some (by kernel_rfl))
  f219:=Tryz.func307.trans (congrArg some (by kernel_rfl))
  f224:=Tryz.func320.trans (congrArg some (by kernel_rfl))
  f225:=Tryz.func319.trans (congrArg some (by kernel_rfl))
  f266:=Tryz.func330.trans (congrArg some (by kernel_rfl))
  f267:=Tryz.func321.trans (congrArg some (by kernel_rfl))
  f314:=Tryz.func331.trans (congrArg some (by kernel_rfl))
  t3:=Tryz.underlying3
  a3:=Tryz.isAgg3
  z3:=Tryz.sizeOf3
  v3:=Tryz.zeroValue3
  t4:=Tryz.underlying4
  a4:=Tryz.isAgg4
  z4:=Tryz.sizeOf4
  v4:=Tryz.zeroValue4
  t5:=Tryz.underlying5
  a5:=Tryz.isAgg5
  z5:=Tryz.sizeOf5
  v5:=Tryz.zeroValue5
  t9:=Tryz.underlying9
  a9:=Tryz.isAgg9
  z9:=Tryz.sizeOf9
  v9:=Tryz.zeroValue9
  t46:=Tryz.underlying145
  a46:=Tryz.isAgg145
  z46:=Tryz.sizeOf145
  v46:=Tryz.zeroValue145
  t51:=Tryz.underlying217
  a51:=Tryz.isAgg217
  z51:=Tryz.sizeOf217
  v51:=Tryz.zeroValue217
  t146:=Tryz.underlying343
  a146:=Tryz.isAgg343
  z146:=Tryz.sizeOf343
  v146:=Tryz.zeroValue343
  g1:=by kernel_rfl }
open Go.RowKit Go.Lib in
theorem Tryz.strings_Index_one (s:ByteArray) (c:UInt8) (w:World) :
    Calls Tryz.prog 310 #[.string s,.string ⟨#[c]⟩] w fun e w'=>e=.returned (.int .i64 (Lib.indexByte s.data.toList c))∧w'=w:=Any.strings_Index_one Tryz.lays143 s c w
def Tryz.lays138_ren:Go.Shelf.Ren:=⟨fun|138=>309|195=>322|218=>324|143=>310|219=>307|217=>318|225=>319|224=>320|267=>321|266=>330|314=>331|n=>n,fun|9=>9|3=>3|4=>4|5=>5|0=>0|46=>145|146=>343|51=>217|n=>n,fun|1=>2|n=>n⟩
theorem Tryz.lays138:Go.Proofs.Lays.n138 Tryz.prog Tryz.lays138_ren:={
  mixed:=by kernel_rfl
  f138:=Tryz.func309.trans (congrArg some (by kernel_rfl))
  f143:=Tryz.func310.trans (congrArg some (by kernel_rfl))
  f195:=Tryz.func322.trans (congrArg some (by kernel_rfl))
  f217:=Tryz.func318.trans (congrArg some (by kernel_rfl))
  f218:=Tryz.func324.trans (congrArg some (by kernel_rfl))
  f219:=Tryz.func307.trans (congrArg some (by kernel_rfl))
  f224:=Tryz.func320.trans (congrArg some (by kernel_rfl))
  f225:=Tryz.func319.trans (congrArg some (by kernel_rfl))
  f266:=Tryz.func330.trans (congrArg some (by kernel_rfl))
  f267:=Tryz.func321.trans (congrArg some (by kernel_rfl))
  f314:=Tryz.func331.trans (congrArg some (by kernel_rfl))
  t0:=Tryz.underlying0
  a0:=Tryz.isAgg0
  z0:=Tryz.sizeOf0
  v0:=Tryz.zeroValue0
  t3:=Tryz.underlying3
  a3:=Tryz.isAgg3
  z3:=Tryz.sizeOf3
  v3:=Tryz.zeroValue3
  t4:=Tryz.underlying4
  a4:=Tryz.isAgg4
  z4:=Tryz.sizeOf4
  v4:=Tryz.zeroValue4
  t5:=Tryz.underlying5
  a5:=Tryz.isAgg5
  z5:=Tryz.sizeOf5
  v5:=Tryz.zeroValue5
  t9:=Tryz.underlying9
  a9:=Tryz.isAgg9
  z9:=Tryz.sizeOf9
  v9:=Tryz.zeroValue9
  t46:=Tryz.underlying145
  a46:=Tryz.isAgg145
  z46:=Tryz.sizeOf145
  v46:=Tryz.zeroValue145
  t51:=Tryz.underlying217
  a51:=Tryz.isAgg217
  z51:=Tryz.sizeOf217
  v51:=Tryz.zeroValue217
  t146:=Tryz.underlying343
  a146:=Tryz.isAgg343
  z146:=Tryz.sizeOf343
  v146:=Tryz.zeroValue343
  g1:=by kernel_rfl }
open Go.RowKit Go.Lib in
theorem Tryz.strings_Count_one (s:ByteArray) (c:UInt8) (w:World) :
    Calls Tryz.prog 309 #[.string s,.string ⟨#[c]⟩] w fun e w'=>e=.returned (.int .i64 (Lib.countByte s.data.toList c))∧w'=w:=Any.strings_Count_one Tryz.lays138 s c w
def Tryz.lays190_ren:Go.Shelf.Ren:=⟨fun|190=>43|125=>90|258=>89|128=>176|129=>177|302=>167|303=>168|304=>169|305=>170|306=>171|307=>172|308=>173|309=>174|310=>175|333=>228|329=>229|330=>230|334=>231|335=>232|336=>233|344=>267|n=>n,fun|31=>23|9=>9|3=>3|46=>145|0=>0|51=>217|53=>219|4=>4|183=>210|182=>209|131=>42|5=>5|218=>261|222=>243|228=>296|229=>297|n=>n,fun|n=>n⟩
theorem Tryz.lays190:Go.Proofs.Lays.n190 Tryz.prog Tryz.lays190_ren:={
  mixed:=by kernel_rfl
  f125:=Tryz.func90.trans (congrArg some (by kernel_rfl))
  f128:=Tryz.func176.trans (congrArg some (by kernel_rfl))
  f129:=Tryz.func177.trans (congrArg some (by kernel_rfl))
  f190:=Tryz.func43.trans (congrArg some (by kernel_rfl))
  f258:=Tryz.func89.trans (congrArg some (by kernel_rfl))
  f302:=Tryz.func167.trans (congrArg some (by kernel_rfl))
  f303:=Tryz.func168.trans (congrArg some (by kernel_rfl))
  f304:=Tryz.func169.trans (congrArg some (by kernel_rfl))
  f305:=Tryz.func170.trans (congrArg some (by kernel_rfl))
  f306:=Tryz.func171.trans (congrArg some (by kernel_rfl))
  f307:=Tryz.func172.trans (congrArg some (by kernel_rfl))
  f308:=Tryz.func173.trans (congrArg some (by kernel_rfl))
  f309:=Tryz.func174.trans (congrArg some (by kernel_rfl))
  f310:=Tryz.func175.trans (congrArg some (by kernel_rfl))
  f329:=Tryz.func229.trans (congrArg some (by kernel_rfl))
  f330:=Tryz.func230.trans (congrArg some (by kernel_rfl))
  f333:=Tryz.func228.trans (congrArg some (by kernel_rfl))
  f334:=Tryz.func231.trans (congrArg some (by kernel_rfl))
  f335:=Tryz.func232.trans (congrArg some (by kernel_rfl))
  f336:=Tryz.func233.trans (congrArg some (by kernel_rfl))
  f344:=Tryz.func267.trans (congrArg some (by kernel_rfl))
  t0:=Tryz.underlying0
  a0:=Tryz.isAgg0
  z0:=Tryz.sizeOf0
  v0:=Tryz.zeroValue0
  t3:=Tryz.underlying3
  a3:=Tryz.isAgg3
  z3:=Tryz.sizeOf3
  v3:=Tryz.zeroValue3
  t4:=Tryz.underlying4
  a4:=Tryz.isAgg4
  z4:=Tryz.sizeOf4
  v4:=Tryz.zeroValue4
  t5:=Tryz.underlying5
  a5:=Tryz.isAgg5
  z5:=Tryz.sizeOf5
  v5:=Tryz.zeroValue5
  t9:=Tryz.underlying9
  a9:=Tryz.isAgg9
  z9:=Tryz.sizeOf9
  v9:=Tryz.zeroValue9
  t31:=Tryz.underlying23
  a31:=Tryz.isAgg23
  z31:=Tryz.sizeOf23
  v31:=Tryz.zeroValue23
  t46:=Tryz.underlying145
  a46:=Tryz.isAgg145
  z46:=Tryz.sizeOf145
  v46:=Tryz.zeroValue145
  t51:=Tryz.underlying217
  a51:=Tryz.isAgg217
  z51:=Tryz.sizeOf217
  v51:=Tryz.zeroValue217
  t53:=Tryz.underlying219
  a53:=Tryz.isAgg219
  z53:=Tryz.sizeOf219
  v53:=Tryz.zeroValue219
  t131:=Tryz.underlying42
  a131:=Tryz.isAgg42
  z131:=Tryz.sizeOf42
  v131:=Tryz.zeroValue42
  t182:=Tryz.underlying209
  a182:=Tryz.isAgg209
  z182:=Tryz.sizeOf209
  v182:=Tryz.zeroValue209
  t183:=Tryz.underlying210
  a183:=Tryz.isAgg210
  z183:=Tryz.sizeOf210
  v183:=Tryz.zeroValue210
  t218:=Tryz.underlying261
  a218:=Tryz.isAgg261
  z218:=Tryz.sizeOf261
  v218:=Tryz.zeroValue261
  t222:=Tryz.underlying243
  a222:=Tryz.isAgg243
  z222:=Tryz.sizeOf243
  v222:=Tryz.zeroValue243
  t228:=Tryz.underlying296
  a228:=Tryz.isAgg296
  z228:=Tryz.sizeOf296
  v228:=Tryz.zeroValue296
  t229:=Tryz.underlying297
  a229:=Tryz.isAgg297
  z229:=Tryz.sizeOf297
  v229:=Tryz.zeroValue297 }
open Go.Sort Go.RowKit in
theorem Tryz.slices_Sort_string (blk off cap:Nat) (ss:List (List UInt8)) (w:World) (hH:Holds encStr w blk off ss.toArray) (hblk:blk<w.heap.size) (hsz:ss.length<4611686018427387904) :
    Calls Tryz.prog 43 #[.slice (some ⟨blk,off,none⟩) ss.length cap] w fun e w' =>
      e=.returned (.tuple #[])∧∃ n os,w'=grow (putRow encStr (Sort.ahead w n) blk off (ss.mergeSort fun x y=>decide (x≤y)).toArray) os:=Any.slices_Sort_string Tryz.lays190 blk off cap ss w hH hblk hsz
def Tryz.lays194_ren:Go.Shelf.Ren:=⟨fun|194=>116|n=>n,fun|31=>23|9=>9|3=>3|4=>4|0=>0|n=>n,fun|n=>n⟩
theorem Tryz.lays194:Go.Proofs.Lays.n194 Tryz.prog Tryz.lays194_ren:={
  mixed:=by kernel_rfl
  f194:=Tryz.func116.trans (congrArg some (by kernel_rfl))
  t0:=Tryz.underlying0
  a0:=Tryz.isAgg0
  z0:=Tryz.sizeOf0
  v0:=Tryz.zeroValue0
  t3:=Tryz.underlying3
  a3:=Tryz.isAgg3
  z3:=Tryz.sizeOf3
  v3:=Tryz.zeroValue3
  t4:=Tryz.underlying4
  a4:=Tryz.isAgg4
  z4:=Tryz.sizeOf4
  v4:=Tryz.zeroValue4
  t9:=Tryz.underlying9
  a9:=Tryz.isAgg9
  z9:=Tryz.sizeOf9
  v9:=Tryz.zeroValue9
  t31:=Tryz.underlying23
  a31:=Tryz.isAgg23
  z31:=Tryz.sizeOf23
  v31:=Tryz.zeroValue23 }
open Go.RowKit Go.Lib Go.Sort in
theorem Tryz.slices_Compact_string (blk off cap:Nat) (zs:List (List UInt8)) (w:World) (hH:Holds encStr w blk off zs.toArray) (hsz:zs.length≤9223372036854775807) (hcap:zs.length≤cap) :
    Calls Tryz.prog 116 #[.slice (some ⟨blk,off,none⟩) zs.length cap] w fun e w'=>e=.returned (.slice (some ⟨blk,off,none⟩) (Lib.compact zs).length cap)∧∃ q,w'=putRow encStr (Sort.ahead w q) blk off (Lib.compact zs++List.replicate (zs.length - (Lib.compact zs).length) []).toArray:=Any.slices_Compact_string Tryz.lays194 blk off cap zs w hH hsz hcap
open Go.RowKit Go.Lib Go.Sort in
theorem Tryz.slices_Compact_string_empty (a:Option Addr) (cap:Nat) (w:World) :
    Calls Tryz.prog 116 #[.slice a 0 cap] w fun e w'=>e=.returned (.slice a 0 cap)∧w'=w:=Any.slices_Compact_string_empty Tryz.lays194 a cap w
open Go.RowKit Go.Sort in
theorem Tryz.slices_Sort_string_none (p:Option Addr) (cap:Nat) (w:World) :
    Calls Tryz.prog 43 #[.slice p 0 cap] w fun e w'=>e=.returned (.tuple #[])∧w'=w:=Any.slices_Sort_string_none Tryz.lays190 p cap w
end Go.Proofs
namespace Go.Proofs
open Go.Shelf
def Tryz.lays106_ren:Go.Shelf.Ren:=⟨fun|106=>100|213=>184|265=>238|n=>n,fun|9=>9|3=>3|n=>n,fun|n=>n⟩
theorem Tryz.lays106:Go.Proofs.Lays.n106 Tryz.prog Tryz.lays106_ren:={
  mixed:=by kernel_rfl
  f106:=Tryz.func100.trans (congrArg some (by kernel_rfl))
  f213:=Tryz.func184.trans (congrArg some (by kernel_rfl))
  f265:=Tryz.func238.trans (congrArg some (by kernel_rfl))
  t3:=Tryz.underlying3
  a3:=Tryz.isAgg3
  z3:=Tryz.sizeOf3
  v3:=Tryz.zeroValue3
  t9:=Tryz.underlying9
  a9:=Tryz.isAgg9
  z9:=Tryz.sizeOf9
  v9:=Tryz.zeroValue9 }
open Go.RowKit in
theorem Tryz.strings_Compare (a b:ByteArray) (w:World) :
    Calls Tryz.prog 100 #[.string a,.string b] w fun e w'=>e=.returned (.int .i64 (Lib.compareBytes a.data.toList b.data.toList))∧w'=w:=Any.strings_Compare Tryz.lays106 a b w
end Go.Proofs
namespace Go.Sx
open Go
structure Cn (n:Nat) (G:Prop):Prop where
  go:G
structure Kw (A:Prop):Prop where
  go:A
theorem cn {n:Nat} {G G1:Prop} (k:G1→G) (h:Cn n G1):Cn (n+1) G:=⟨k h.go⟩
theorem cn0 {G:Prop} (h:G):Cn 0 G:=⟨h⟩
def noG (x:Value) (want:Bool):Bool:=match x with|.bool b=>Bool.xor b want|_=>true
section
variable {P:Program} {N:Nf} {v0:Vw} {H0:Hp} {R:Exit→Act→World→Prop} {K:List Kt} {fr:Fr} {H:Hp} {Γ:List Fct} {ops:Array Oper} {l:List Oper} {d:Nat} {ty:TypeId} {ps:String} {af:Array Edge} {Hs:Hp} {Γs:List Fct} {fuel:Nat} {listed:Array Bool}
theorem rv_ {op:Op} {j t:Nat} {want:Bool} {x:Value} (hj:gZ_ ops j=some t) (hx:Fr.get fr t=some x) (hne:noG x want=true) (hN:Nat.blt d N.n=true)
    (h:Ops P R N v0 H0 ops l K ((d,undef)::fr) H Γ):Ops P R N v0 H0 ops (⟨some d,op,ty,ps,af,some (j,want)⟩::l) K fr H Γ:=ec_ hj hx (by cases x<;>first|rfl|exact hne) hN h
theorem sq_noG [NoPan R] {i:Nat} {is:List Nat} {op:Op} {x:Value} {j t:Nat} {want:Bool} (hi:ops[i]? = some ⟨some d,op,ty,ps,af,some (j,want)⟩) (hj:gZ_ ops j=some t) (hx:Fr.get fr t=some x) (hne:noG x want=true) (hN:Nat.blt d N.n=true)
    (h:Sq P R N v0 H0 ops Hs Γs is fuel (listed.setIfInBounds i true) K ((d,undef)::fr) H Γ):Sq P R N v0 H0 ops Hs Γs (i::is) fuel listed K fr H Γ:=hL_ hi hj hx (by cases x<;>first|rfl|exact hne) hN h
end
end Go.Sx

namespace Go.Proofs.YtamklbgaipakfaaGreatDoor
open Go Go.Sx
theorem zdf {p:Prop} [Decidable p] (h:decide p=false):¬p:=of_decide_eq_false h
theorem zdt {p:Prop} [Decidable p] (h:decide p=true):p:=of_decide_eq_true h
theorem znb {α:Type} [BEq α] [LawfulBEq α] {a b:α} (h:(a==b)=false):a≠b:=by simpa using h
theorem zeb {α:Type} [BEq α] [LawfulBEq α] {a b:α} (h:(a==b)=true):a=b:=eq_of_beq h
theorem zbe {α:Type} [BEq α] [LawfulBEq α] {a b:α} (h:(a != b)=false):a=b:=by simpa using h
theorem zk {G:Prop} (h:G:=by kernel_rfl):G:=h
theorem zh {P Q:Vw→Prop}:∀ v,P v→Q v→Q v:=fun _ _ h=>h
theorem zt {P Q:Vw→Prop}:∀ v,P v→Q v→au_ [] v:=fun _ _ _=>trivial
section
variable {H r r' d O:Hp} {b c:Nat×Obj}
theorem zpn (h:H.Perm r):([]++H).Perm r:=h
end
abbrev zR {α:Type} (e k:Nat) (f:α→List Value) (sv:Value) (X:List α) (H:Hp):Prop:=aL_ e k sv X.length (X.flatMap f) H
theorem zsw {α β:Type} {e k:Nat} {f:β→List Value} {sv:Value} {A:List β} {H:Hp} (g:α→List β) (p:List α) (h:aL_ e k sv A.length (A.flatMap f) H):zR e k f sv (A++List.flatMap g (List.take 0 p)) H:=by
  unfold zR;simpa only[List.take_zero,List.flatMap_nil,List.append_nil] using h
theorem zsa {β:Type} {e k m:Nat} {f:β→List Value} {sv:Value} {A B:List β} {H:Hp} (h:aL_ e k sv (A.length+m) (A.flatMap f++B.flatMap f) H) (hm:B.length=m:=by first|rfl|simp):zR e k f sv (A++B) H:=by
  subst hm;unfold zR;rw[List.length_append,List.flatMap_append];exact h
theorem zge {α:Type} {l:List α} {i:Nat} (h:i<l.length):i<l.length∧∃ x,l[i]? = some x∧x∈l:=⟨h,_,List.getElem?_eq_getElem h,List.getElem_mem h⟩
theorem zbn {α:Type} [BEq α] [LawfulBEq α] {a b:α} (h:(a != b)=true):a≠b:=by simpa using h
theorem zp {G:Prop} (h:G:=by (repeat (first|(with_reducible first|exact g_|exact e_|exact o_|exact M_|exact ca_|exact aZ_)|exact e_|(with_reducible first|apply zpn|(apply p_;rotate_left;(fail_if_success (with_reducible apply g_));rotate_right)|apply s_|apply c_|apply i_)|exact o_|exact aZ_))):G:=h
theorem zf {G:Prop} (h:G:=by intro v_ a_ b_;repeat (first|exact trivial|(with_reducible first|exact b_.1|exact b_.2.1|exact b_.2.2.1|exact b_.2.2.2.1|exact b_.2.2.2.2.1|exact b_.2.2.2.2.2.1|exact b_.2.2.2.2.2.2.1|exact b_.2.2.2.2.2.2.2.1|exact b_.2.2.2.2.2.2.2.2.1|exact b_.2.2.2.2.2.2.2.2.2.1|exact b_.2.2.2.2.2.2.2.2.2.2.1|exact b_.2.2.2.2.2.2.2.2.2.2.2.1|exact b_|exact b_.2|exact b_.2.2|exact b_.2.2.2|exact b_.2.2.2.2|exact b_.2.2.2.2.2|exact b_.2.2.2.2.2.2|exact b_.2.2.2.2.2.2.2|exact b_.2.2.2.2.2.2.2.2|exact b_.2.2.2.2.2.2.2.2.2|exact b_.2.2.2.2.2.2.2.2.2.2|exact b_.2.2.2.2.2.2.2.2.2.2.2)|(first|exact b_.1|exact b_.2.1|exact b_.2.2.1|exact b_.2.2.2.1|exact b_.2.2.2.2.1|exact b_.2.2.2.2.2.1|exact b_.2.2.2.2.2.2.1|exact b_.2.2.2.2.2.2.2.1|exact b_.2.2.2.2.2.2.2.2.1|exact b_.2.2.2.2.2.2.2.2.2.1|exact b_.2.2.2.2.2.2.2.2.2.2.1|exact b_.2.2.2.2.2.2.2.2.2.2.2.1|exact b_|exact b_.2|exact b_.2.2|exact b_.2.2.2|exact b_.2.2.2.2|exact b_.2.2.2.2.2|exact b_.2.2.2.2.2.2|exact b_.2.2.2.2.2.2.2|exact b_.2.2.2.2.2.2.2.2|exact b_.2.2.2.2.2.2.2.2.2|exact b_.2.2.2.2.2.2.2.2.2.2|exact b_.2.2.2.2.2.2.2.2.2.2.2)|refine⟨?_,?_⟩)):G:=h
theorem zs {G:Prop} (h:G:=by intro v_ a_ b_;refine⟨?_,?_⟩;(first|exact a_|exact satNil a_|exact a_.tail|exact a_.tail.tail|exact a_.tail.tail.tail|exact a_.tail.tail.tail.tail|((apply Vw.sat.sub;apply a_.perm);(repeat (first|(with_reducible first|exact g_|exact e_|exact o_|exact M_|exact ca_|exact aZ_)|exact e_|(with_reducible first|apply zpn|(apply p_;rotate_left;(fail_if_success (with_reducible apply g_));rotate_right)|apply s_|apply c_|apply i_)|exact o_|exact aZ_))));(first|exact b_|exact b_.2|exact b_.2.2|exact b_.2.2.2|exact b_.2.2.2.2|exact b_.2.2.2.2.2|exact b_.2.2.2.2.2.2|exact b_.2.2.2.2.2.2.2|exact b_.2.2.2.2.2.2.2.2|exact b_.2.2.2.2.2.2.2.2.2|exact b_.2.2.2.2.2.2.2.2.2.2|exact b_.2.2.2.2.2.2.2.2.2.2.2)):G:=h
theorem zl {G:Prop} (h:G:=by repeat (first|exact trivial|refine⟨rfl,?_⟩)):G:=h
def lkN {α:Type}:List (Nat×α)→Nat→Option α
  | [],_=>none
  | (k,v)::l,n=>bif Nat.beq k n then some v else lkN l n
theorem nI_ {α:Type} {n:Nat} {v:α}:∀ {l:List (Nat×α)},lkN l n=some v→(n,v)∈l
  | (k,u)::l,h=>by
    simp only[lkN]at h
    cases hb:Nat.beq k n with
    | true=>rw[hb,cond_true]at h;cases h;rw[Nat.eq_of_beq_eq_true hb];exact List.mem_cons_self
    | false=>rw[hb,cond_false]at h;exact List.mem_cons_of_mem _ (nI_ h)
def zAt:List (Nat×Bool):=[(9,false),(3,false),(46,true),(23,false),(44,false),(4,false),(67,true),(48,true),(120,false),(119,false),(116,false),(58,true),(22,false),(54,false),(201,true),(118,false),(122,false),(59,false),(121,false),(83,true),(139,false),(305,true),(255,true),(123,false),(140,false),(223,true),(112,false),(78,false),(126,false),(221,false),(170,false),(79,false),(165,false),(37,true),(61,true),(150,true),(302,false),(250,true),(94,true),(163,true)]
theorem zA {t:TypeId} {b:Bool} (h:lkN zAt t=some b):∀ w,(isAgg t).run Tryz.prog w=.ok b w:=by
  have h:=nI_ h
  simp only[zAt,List.mem_cons,Prod.mk.injEq,List.not_mem_nil,or_false]at h
  rcases h with⟨rfl,rfl⟩|⟨rfl,rfl⟩|⟨rfl,rfl⟩|⟨rfl,rfl⟩|⟨rfl,rfl⟩|⟨rfl,rfl⟩|⟨rfl,rfl⟩|⟨rfl,rfl⟩|⟨rfl,rfl⟩|⟨rfl,rfl⟩|⟨rfl,rfl⟩|⟨rfl,rfl⟩|⟨rfl,rfl⟩|⟨rfl,rfl⟩|⟨rfl,rfl⟩|⟨rfl,rfl⟩|⟨rfl,rfl⟩|⟨rfl,rfl⟩|⟨rfl,rfl⟩|⟨rfl,rfl⟩|⟨rfl,rfl⟩|⟨rfl,rfl⟩|⟨rfl,rfl⟩|⟨rfl,rfl⟩|⟨rfl,rfl⟩|⟨rfl,rfl⟩|⟨rfl,rfl⟩|⟨rfl,rfl⟩|⟨rfl,rfl⟩|⟨rfl,rfl⟩|⟨rfl,rfl⟩|⟨rfl,rfl⟩|⟨rfl,rfl⟩|⟨rfl,rfl⟩|⟨rfl,rfl⟩|⟨rfl,rfl⟩|⟨rfl,rfl⟩|⟨rfl,rfl⟩|⟨rfl,rfl⟩|⟨rfl,rfl⟩
  · exact av_
  · exact aS_
  · exact aD_
  · exact Tryz.isAgg23
  · exact Tryz.isAgg44
  · exact Tryz.isAgg4
  · exact gq_
  · exact bI_
  · exact Tryz.isAgg120
  · exact Tryz.isAgg119
  · exact Tryz.isAgg116
  · exact eI_
  · exact kH_
  · exact qN_
  · exact Tryz.isAgg201
  · exact Tryz.isAgg118
  · exact Tryz.isAgg122
  · exact Tryz.isAgg59
  · exact Tryz.isAgg121
  · exact Tryz.isAgg83
  · exact Tryz.isAgg139
  · exact Tryz.isAgg305
  · exact Tryz.isAgg255
  · exact Tryz.isAgg123
  · exact Tryz.isAgg140
  · exact Tryz.isAgg223
  · exact Tryz.isAgg112
  · exact Tryz.isAgg78
  · exact Tryz.isAgg126
  · exact Tryz.isAgg221
  · exact iU_
  · exact Tryz.isAgg79
  · exact Tryz.isAgg165
  · exact Tryz.isAgg37
  · exact cU_
  · exact Tryz.isAgg150
  · exact Tryz.isAgg302
  · exact Tryz.isAgg250
  · exact Tryz.isAgg94
  · exact Tryz.isAgg163
def zSt:List (Nat×Nat):=[(9,1),(46,5),(3,1),(23,1),(44,1),(67,6),(4,1),(48,16),(58,10),(120,1),(119,1),(22,1),(201,2),(54,1),(118,1),(122,1),(121,1),(83,2),(305,2),(255,2),(123,1),(223,7),(221,1),(112,1),(59,1),(37,1),(61,2),(150,7),(302,1),(250,3),(94,16),(163,2)]
theorem zS {t:TypeId} {b:Nat} (h:lkN zSt t=some b):∀ w,(sizeOf t).run Tryz.prog w=.ok b w:=by
  have h:=nI_ h
  simp only[zSt,List.mem_cons,Prod.mk.injEq,List.not_mem_nil,or_false]at h
  rcases h with⟨rfl,rfl⟩|⟨rfl,rfl⟩|⟨rfl,rfl⟩|⟨rfl,rfl⟩|⟨rfl,rfl⟩|⟨rfl,rfl⟩|⟨rfl,rfl⟩|⟨rfl,rfl⟩|⟨rfl,rfl⟩|⟨rfl,rfl⟩|⟨rfl,rfl⟩|⟨rfl,rfl⟩|⟨rfl,rfl⟩|⟨rfl,rfl⟩|⟨rfl,rfl⟩|⟨rfl,rfl⟩|⟨rfl,rfl⟩|⟨rfl,rfl⟩|⟨rfl,rfl⟩|⟨rfl,rfl⟩|⟨rfl,rfl⟩|⟨rfl,rfl⟩|⟨rfl,rfl⟩|⟨rfl,rfl⟩|⟨rfl,rfl⟩|⟨rfl,rfl⟩|⟨rfl,rfl⟩|⟨rfl,rfl⟩|⟨rfl,rfl⟩|⟨rfl,rfl⟩|⟨rfl,rfl⟩|⟨rfl,rfl⟩
  · exact O_
  · exact A_
  · exact ao_
  · exact gR_
  · exact Tryz.sizeOf44
  · exact aA_
  · exact Tryz.sizeOf4
  · exact S_
  · exact F_
  · exact fc_
  · exact Tryz.sizeOf119
  · exact gS_
  · exact dU_
  · exact gP_
  · exact Tryz.sizeOf118
  · exact Tryz.sizeOf122
  · exact Tryz.sizeOf121
  · exact aJ_
  · exact Tryz.sizeOf305
  · exact tz_
  · exact Tryz.sizeOf123
  · exact dq_
  · exact Tryz.sizeOf221
  · exact Tryz.sizeOf112
  · exact Tryz.sizeOf59
  · exact gQ_
  · exact aK_
  · exact er_
  · exact Tryz.sizeOf302
  · exact Tryz.sizeOf250
  · exact Tryz.sizeOf94
  · exact Tryz.sizeOf163
theorem zUe {P:Program} {t t1:TypeId} {q q1} (h:∀ w,(underlying t1).run P w=.ok q1 w) (e:t=t1) (e1:q1=q):∀ w,(underlying t).run P w=.ok q w:=by subst e e1;exact h
theorem Zy {A B:Prop} {n:Nat} (k:A) (h:Kw A→Cn n B:=by intro k_;repeat (first|exact cn0 k_.go|(apply cn;intro h_;((first|((with_reducible apply d_);rotate_left;exact rfl;exact h_;rotate_right)|((with_reducible apply P_);exact rfl;rotate_left;exact rfl;exact h_;rotate_right)|((with_reducible apply bZ_);exact rfl;exact rfl;exact rfl;rotate_left;exact rfl;exact h_;rotate_right));(focus (first|((with_reducible apply t_);exact rfl)|((with_reducible apply W_);exact rfl)|((with_reducible apply iD_);rotate_left;exact rfl;rotate_right;(first|exact zUe bF_ rfl rfl|exact zUe da_ rfl rfl|exact zUe cw_ rfl rfl|exact zUe cY_ rfl rfl|exact zUe cO_ rfl rfl|exact zUe n_ rfl rfl|exact zUe q_ rfl rfl|exact zUe ab_ rfl rfl|exact zUe cN_ rfl rfl|exact zUe dK_ rfl rfl|exact zUe cm_ rfl rfl|exact zUe ac_ rfl rfl|exact zUe Q_ rfl rfl|exact zUe bw_ rfl rfl|exact zUe dI_ rfl rfl|exact zUe cM_ rfl rfl|exact zUe aw_ rfl rfl|exact zUe dH_ rfl rfl|exact zUe R_ rfl rfl|exact zUe bN_ rfl rfl|exact zUe dJ_ rfl rfl|exact zUe bj_ rfl rfl|exact zUe cZ_ rfl rfl|exact zUe cX_ rfl rfl|exact zUe bO_ rfl rfl|exact zUe ck_ rfl rfl|exact zUe cK_ rfl rfl|exact zUe cj_ rfl rfl);exact rfl;exact rfl;exact zS rfl)|((with_reducible apply el_);(first|exact zUe bF_ rfl rfl|exact zUe da_ rfl rfl|exact zUe cw_ rfl rfl|exact zUe cY_ rfl rfl|exact zUe cO_ rfl rfl|exact zUe n_ rfl rfl|exact zUe q_ rfl rfl|exact zUe ab_ rfl rfl|exact zUe cN_ rfl rfl|exact zUe dK_ rfl rfl|exact zUe cm_ rfl rfl|exact zUe ac_ rfl rfl|exact zUe Q_ rfl rfl|exact zUe bw_ rfl rfl|exact zUe dI_ rfl rfl|exact zUe cM_ rfl rfl|exact zUe aw_ rfl rfl|exact zUe dH_ rfl rfl|exact zUe R_ rfl rfl|exact zUe bN_ rfl rfl|exact zUe dJ_ rfl rfl|exact zUe bj_ rfl rfl|exact zUe cZ_ rfl rfl|exact zUe cX_ rfl rfl|exact zUe bO_ rfl rfl|exact zUe ck_ rfl rfl|exact zUe cK_ rfl rfl|exact zUe cj_ rfl rfl);exact rfl;exact rfl;exact rfl;exact zS rfl)|((with_reducible apply (bl_ 0));rotate_left;exact rfl;exact rfl;exact rfl;exact zA rfl)|((with_reducible apply (bl_ 1));rotate_left;exact rfl;exact rfl;exact rfl;exact zA rfl)|((with_reducible apply (bl_ 2));rotate_left;exact rfl;exact rfl;exact rfl;exact zA rfl)|((with_reducible apply (bl_ 3));rotate_left;exact rfl;exact rfl;exact rfl;exact zA rfl)|((with_reducible apply ct_);exact rfl;exact rfl)|((with_reducible apply ci_);exact rfl;exact rfl)|((with_reducible apply aT_);exact rfl;exact rfl;exact rfl;exact bK_ (by omega) (by omega))|((with_reducible apply jI_);exact rfl)|((with_reducible apply bs_);exact rfl;exact rfl)|((with_reducible apply dp_);(first|exact zUe bF_ rfl rfl|exact zUe da_ rfl rfl|exact zUe cw_ rfl rfl|exact zUe cY_ rfl rfl|exact zUe cO_ rfl rfl|exact zUe n_ rfl rfl|exact zUe q_ rfl rfl|exact zUe ab_ rfl rfl|exact zUe cN_ rfl rfl|exact zUe dK_ rfl rfl|exact zUe cm_ rfl rfl|exact zUe ac_ rfl rfl|exact zUe Q_ rfl rfl|exact zUe bw_ rfl rfl|exact zUe dI_ rfl rfl|exact zUe cM_ rfl rfl|exact zUe aw_ rfl rfl|exact zUe dH_ rfl rfl|exact zUe R_ rfl rfl|exact zUe bN_ rfl rfl|exact zUe dJ_ rfl rfl|exact zUe bj_ rfl rfl|exact zUe cZ_ rfl rfl|exact zUe cX_ rfl rfl|exact zUe bO_ rfl rfl|exact zUe ck_ rfl rfl|exact zUe cK_ rfl rfl|exact zUe cj_ rfl rfl);exact rfl)|((with_reducible apply (bz_ 0));rotate_left;exact zS rfl;exact rfl;exact rfl;exact rfl;exact zA rfl)|((with_reducible apply (bz_ 1));rotate_left;exact zS rfl;exact rfl;exact rfl;exact rfl;exact zA rfl)|((with_reducible apply (bz_ 2));rotate_left;exact zS rfl;exact rfl;exact rfl;exact rfl;exact zA rfl)|((with_reducible apply (bz_ 3));rotate_left;exact zS rfl;exact rfl;exact rfl;exact rfl;exact zA rfl)|((with_reducible apply cp_);rotate_left;exact rfl;(intro v _ h;first|exact h.1|exact h.2.1|exact h.2.2.1|exact h.2.2.2.1|exact h.2.2.2.2.1|exact h.2.2.2.2.2.1|exact h.2.2.2.2.2.2.1|exact h.2.2.2.2.2.2.2.1|exact h.2.2.2.2.2.2.2.2.1|exact h.2.2.2.2.2.2.2.2.2.1|exact h.2.2.2.2.2.2.2.2.2.2.1|exact h.2.2.2.2.2.2.2.2.2.2.2.1);exact rfl;exact zA rfl)|((with_reducible apply L_);(first|exact zUe bF_ rfl rfl|exact zUe da_ rfl rfl|exact zUe cw_ rfl rfl|exact zUe cY_ rfl rfl|exact zUe cO_ rfl rfl|exact zUe n_ rfl rfl|exact zUe q_ rfl rfl|exact zUe ab_ rfl rfl|exact zUe cN_ rfl rfl|exact zUe dK_ rfl rfl|exact zUe cm_ rfl rfl|exact zUe ac_ rfl rfl|exact zUe Q_ rfl rfl|exact zUe bw_ rfl rfl|exact zUe dI_ rfl rfl|exact zUe cM_ rfl rfl|exact zUe aw_ rfl rfl|exact zUe dH_ rfl rfl|exact zUe R_ rfl rfl|exact zUe bN_ rfl rfl|exact zUe dJ_ rfl rfl|exact zUe bj_ rfl rfl|exact zUe cZ_ rfl rfl|exact zUe cX_ rfl rfl|exact zUe bO_ rfl rfl|exact zUe ck_ rfl rfl|exact zUe cK_ rfl rfl|exact zUe cj_ rfl rfl);exact zS rfl;exact rfl;exact rfl;(intro v _ h;first|exact y_ Pc.cells_len (by decide) h.1 (by assumption)|exact y_ Pc.cells_len (by decide) h.2.1 (by assumption)|exact y_ Pc.cells_len (by decide) h.2.2.1 (by assumption)|exact y_ Pc.cells_len (by decide) h.2.2.2.1 (by assumption)|exact y_ Pc.cells_len (by decide) h.2.2.2.2.1 (by assumption)|exact y_ Pc.cells_len (by decide) h.2.2.2.2.2.1 (by assumption)|exact y_ Pc.cells_len (by decide) h.2.2.2.2.2.2.1 (by assumption)|exact y_ Pc.cells_len (by decide) h.2.2.2.2.2.2.2.1 (by assumption)|exact y_ Fc.cells_len (by decide) h.1 (by assumption)|exact y_ Fc.cells_len (by decide) h.2.1 (by assumption)|exact y_ Fc.cells_len (by decide) h.2.2.1 (by assumption)|exact y_ Fc.cells_len (by decide) h.2.2.2.1 (by assumption)|exact y_ Fc.cells_len (by decide) h.2.2.2.2.1 (by assumption)|exact y_ Fc.cells_len (by decide) h.2.2.2.2.2.1 (by assumption)|exact y_ Fc.cells_len (by decide) h.2.2.2.2.2.2.1 (by assumption)|exact y_ Fc.cells_len (by decide) h.2.2.2.2.2.2.2.1 (by assumption)|exact y_ Stp.cells_len (by decide) h.1 (by assumption)|exact y_ Stp.cells_len (by decide) h.2.1 (by assumption)|exact y_ Stp.cells_len (by decide) h.2.2.1 (by assumption)|exact y_ Stp.cells_len (by decide) h.2.2.2.1 (by assumption)|exact y_ Stp.cells_len (by decide) h.2.2.2.2.1 (by assumption)|exact y_ Stp.cells_len (by decide) h.2.2.2.2.2.1 (by assumption)|exact y_ Stp.cells_len (by decide) h.2.2.2.2.2.2.1 (by assumption)|exact y_ Stp.cells_len (by decide) h.2.2.2.2.2.2.2.1 (by assumption)|exact y_ at_ (by decide) h.1 (by assumption)|exact y_ at_ (by decide) h.2.1 (by assumption)|exact y_ at_ (by decide) h.2.2.1 (by assumption)|exact y_ at_ (by decide) h.2.2.2.1 (by assumption)|exact y_ at_ (by decide) h.2.2.2.2.1 (by assumption)|exact y_ at_ (by decide) h.2.2.2.2.2.1 (by assumption)|exact y_ at_ (by decide) h.2.2.2.2.2.2.1 (by assumption)|exact y_ at_ (by decide) h.2.2.2.2.2.2.2.1 (by assumption)|exact y_ be_ (by decide) h.1 (by assumption)|exact y_ be_ (by decide) h.2.1 (by assumption)|exact y_ be_ (by decide) h.2.2.1 (by assumption)|exact y_ be_ (by decide) h.2.2.2.1 (by assumption)|exact y_ be_ (by decide) h.2.2.2.2.1 (by assumption)|exact y_ be_ (by decide) h.2.2.2.2.2.1 (by assumption)|exact y_ be_ (by decide) h.2.2.2.2.2.2.1 (by assumption)|exact y_ be_ (by decide) h.2.2.2.2.2.2.2.1 (by assumption));omega;(first|omega|(simp;done)))|((with_reducible apply ba_);rotate_left;exact rfl;(intro v _ h;first|exact h.1|exact h.2.1|exact h.2.2.1|exact h.2.2.2.1|exact h.2.2.2.2.1|exact h.2.2.2.2.2.1|exact h.2.2.2.2.2.2.1|exact h.2.2.2.2.2.2.2.1|exact h.2.2.2.2.2.2.2.2.1|exact h.2.2.2.2.2.2.2.2.2.1|exact h.2.2.2.2.2.2.2.2.2.2.1|exact h.2.2.2.2.2.2.2.2.2.2.2.1);(first|exact u_ Pc.cells_len (by assumption) 0 _ rfl|exact u_ Pc.cells_len (by assumption) _ _ rfl|exact u_ Fc.cells_len (by assumption) 0 _ rfl|exact u_ Fc.cells_len (by assumption) _ _ rfl|exact u_ Stp.cells_len (by assumption) 0 _ rfl|exact u_ Stp.cells_len (by assumption) _ _ rfl|exact u_ at_ (by assumption) 0 _ rfl|exact u_ at_ (by assumption) _ _ rfl|exact u_ be_ (by assumption) 0 _ rfl|exact u_ be_ (by assumption) _ _ rfl|exact u_ Stp.cells_len (by assumption) 2 _ rfl|exact u_ Stp.cells_len (by assumption) 3 _ rfl|exact u_ Stp.cells_len (by assumption) 4 _ rfl|exact u_ Stp.cells_len (by assumption) 5 _ rfl|exact u_ Stp.cells_len (by assumption) 6 _ rfl);exact zA rfl)|((with_reducible apply af_);rotate_left;exact zS rfl;exact rfl;(intro v _ h;first|exact h.1|exact h.2.1|exact h.2.2.1|exact h.2.2.2.1|exact h.2.2.2.2.1|exact h.2.2.2.2.2.1|exact h.2.2.2.2.2.2.1|exact h.2.2.2.2.2.2.2.1|exact h.2.2.2.2.2.2.2.2.1|exact h.2.2.2.2.2.2.2.2.2.1|exact h.2.2.2.2.2.2.2.2.2.2.1|exact h.2.2.2.2.2.2.2.2.2.2.2.1);rotate_left;(first|exact u_ Pc.cells_len (by assumption)|exact u_ Fc.cells_len (by assumption)|exact u_ Stp.cells_len (by assumption));exact zA rfl;(first|exact Pc.cells_len _|exact Fc.cells_len _|exact Stp.cells_len _))|((with_reducible apply (bl_ 4));rotate_left;exact rfl;exact rfl;exact rfl;exact zA rfl)|((with_reducible apply (bl_ 5));rotate_left;exact rfl;exact rfl;exact rfl;exact zA rfl)|((with_reducible apply (bl_ 6));rotate_left;exact rfl;exact rfl;exact rfl;exact zA rfl)|((with_reducible apply (bl_ 7));rotate_left;exact rfl;exact rfl;exact rfl;exact zA rfl)|((with_reducible apply (bz_ 4));rotate_left;exact zS rfl;exact rfl;exact rfl;exact rfl;exact zA rfl)|((with_reducible apply (bz_ 5));rotate_left;exact zS rfl;exact rfl;exact rfl;exact rfl;exact zA rfl)|((with_reducible apply (bz_ 6));rotate_left;exact zS rfl;exact rfl;exact rfl;exact rfl;exact zA rfl)|((with_reducible apply (bz_ 7));rotate_left;exact zS rfl;exact rfl;exact rfl;exact rfl;exact zA rfl)))))|(apply cn;intro h_;first|((with_reducible apply aa_);exact h_)|((with_reducible apply G_);exact rfl;exact h_)|((with_reducible apply X_);exact h_)|((with_reducible apply I_);exact h_)|((with_reducible apply aF_);exact rfl;exact rfl;exact h_)|((with_reducible apply rv_);exact rfl;exact rfl;exact rfl;exact rfl;exact h_)|((with_reducible apply bg_);exact rfl;exact h_)|((with_reducible apply aW_);exact rfl;exact h_)|((with_reducible apply bt_);exact h_)|((with_reducible apply bA_);exact h_)|((with_reducible apply eK_);exact h_)|((with_reducible apply bJ_);exact rfl;exact h_)|((with_reducible apply sq_noG);exact rfl;exact rfl;exact rfl;exact rfl;exact rfl;exact h_)|((with_reducible apply gp_);kernel_rfl;exact h_)|((with_reducible apply cy_);exact h_)|((with_reducible apply fC_);exact rfl;exact h_)|((with_reducible apply jN_);kernel_rfl;exact h_)|((with_reducible apply kT_);exact rfl;exact h_)|((with_reducible apply H_);exact zs;exact h_)|((apply aF_);exact rfl;exact rfl;exact h_)|((apply rv_);exact rfl;exact rfl;exact rfl;exact rfl;exact h_)|((apply aa_);exact h_))|(apply cn;intro h_;((apply d_);rotate_left;exact rfl;exact h_;rotate_right);(focus (first|((with_reducible apply t_);exact rfl)|((with_reducible apply W_);exact rfl)|((with_reducible apply iD_);rotate_left;exact rfl;rotate_right;(first|exact zUe bF_ rfl rfl|exact zUe da_ rfl rfl|exact zUe cw_ rfl rfl|exact zUe cY_ rfl rfl|exact zUe cO_ rfl rfl|exact zUe n_ rfl rfl|exact zUe q_ rfl rfl|exact zUe ab_ rfl rfl|exact zUe cN_ rfl rfl|exact zUe dK_ rfl rfl|exact zUe cm_ rfl rfl|exact zUe ac_ rfl rfl|exact zUe Q_ rfl rfl|exact zUe bw_ rfl rfl|exact zUe dI_ rfl rfl|exact zUe cM_ rfl rfl|exact zUe aw_ rfl rfl|exact zUe dH_ rfl rfl|exact zUe R_ rfl rfl|exact zUe bN_ rfl rfl|exact zUe dJ_ rfl rfl|exact zUe bj_ rfl rfl|exact zUe cZ_ rfl rfl|exact zUe cX_ rfl rfl|exact zUe bO_ rfl rfl|exact zUe ck_ rfl rfl|exact zUe cK_ rfl rfl|exact zUe cj_ rfl rfl);exact rfl;exact rfl;exact zS rfl)|((with_reducible apply el_);(first|exact zUe bF_ rfl rfl|exact zUe da_ rfl rfl|exact zUe cw_ rfl rfl|exact zUe cY_ rfl rfl|exact zUe cO_ rfl rfl|exact zUe n_ rfl rfl|exact zUe q_ rfl rfl|exact zUe ab_ rfl rfl|exact zUe cN_ rfl rfl|exact zUe dK_ rfl rfl|exact zUe cm_ rfl rfl|exact zUe ac_ rfl rfl|exact zUe Q_ rfl rfl|exact zUe bw_ rfl rfl|exact zUe dI_ rfl rfl|exact zUe cM_ rfl rfl|exact zUe aw_ rfl rfl|exact zUe dH_ rfl rfl|exact zUe R_ rfl rfl|exact zUe bN_ rfl rfl|exact zUe dJ_ rfl rfl|exact zUe bj_ rfl rfl|exact zUe cZ_ rfl rfl|exact zUe cX_ rfl rfl|exact zUe bO_ rfl rfl|exact zUe ck_ rfl rfl|exact zUe cK_ rfl rfl|exact zUe cj_ rfl rfl);exact rfl;exact rfl;exact rfl;exact zS rfl)|((with_reducible apply (bl_ 0));rotate_left;exact rfl;exact rfl;exact rfl;exact zA rfl)|((with_reducible apply (bl_ 1));rotate_left;exact rfl;exact rfl;exact rfl;exact zA rfl)|((with_reducible apply (bl_ 2));rotate_left;exact rfl;exact rfl;exact rfl;exact zA rfl)|((with_reducible apply (bl_ 3));rotate_left;exact rfl;exact rfl;exact rfl;exact zA rfl)|((with_reducible apply ct_);exact rfl;exact rfl)|((with_reducible apply ci_);exact rfl;exact rfl)|((with_reducible apply aT_);exact rfl;exact rfl;exact rfl;exact bK_ (by omega) (by omega))|((with_reducible apply jI_);exact rfl)|((with_reducible apply bs_);exact rfl;exact rfl)|((with_reducible apply dp_);(first|exact zUe bF_ rfl rfl|exact zUe da_ rfl rfl|exact zUe cw_ rfl rfl|exact zUe cY_ rfl rfl|exact zUe cO_ rfl rfl|exact zUe n_ rfl rfl|exact zUe q_ rfl rfl|exact zUe ab_ rfl rfl|exact zUe cN_ rfl rfl|exact zUe dK_ rfl rfl|exact zUe cm_ rfl rfl|exact zUe ac_ rfl rfl|exact zUe Q_ rfl rfl|exact zUe bw_ rfl rfl|exact zUe dI_ rfl rfl|exact zUe cM_ rfl rfl|exact zUe aw_ rfl rfl|exact zUe dH_ rfl rfl|exact zUe R_ rfl rfl|exact zUe bN_ rfl rfl|exact zUe dJ_ rfl rfl|exact zUe bj_ rfl rfl|exact zUe cZ_ rfl rfl|exact zUe cX_ rfl rfl|exact zUe bO_ rfl rfl|exact zUe ck_ rfl rfl|exact zUe cK_ rfl rfl|exact zUe cj_ rfl rfl);exact rfl)|((with_reducible apply (bz_ 0));rotate_left;exact zS rfl;exact rfl;exact rfl;exact rfl;exact zA rfl)|((with_reducible apply (bz_ 1));rotate_left;exact zS rfl;exact rfl;exact rfl;exact rfl;exact zA rfl)|((with_reducible apply (bz_ 2));rotate_left;exact zS rfl;exact rfl;exact rfl;exact rfl;exact zA rfl)|((with_reducible apply (bz_ 3));rotate_left;exact zS rfl;exact rfl;exact rfl;exact rfl;exact zA rfl)|((with_reducible apply cp_);rotate_left;exact rfl;(intro v _ h;first|exact h.1|exact h.2.1|exact h.2.2.1|exact h.2.2.2.1|exact h.2.2.2.2.1|exact h.2.2.2.2.2.1|exact h.2.2.2.2.2.2.1|exact h.2.2.2.2.2.2.2.1|exact h.2.2.2.2.2.2.2.2.1|exact h.2.2.2.2.2.2.2.2.2.1|exact h.2.2.2.2.2.2.2.2.2.2.1|exact h.2.2.2.2.2.2.2.2.2.2.2.1);exact rfl;exact zA rfl)|((with_reducible apply L_);(first|exact zUe bF_ rfl rfl|exact zUe da_ rfl rfl|exact zUe cw_ rfl rfl|exact zUe cY_ rfl rfl|exact zUe cO_ rfl rfl|exact zUe n_ rfl rfl|exact zUe q_ rfl rfl|exact zUe ab_ rfl rfl|exact zUe cN_ rfl rfl|exact zUe dK_ rfl rfl|exact zUe cm_ rfl rfl|exact zUe ac_ rfl rfl|exact zUe Q_ rfl rfl|exact zUe bw_ rfl rfl|exact zUe dI_ rfl rfl|exact zUe cM_ rfl rfl|exact zUe aw_ rfl rfl|exact zUe dH_ rfl rfl|exact zUe R_ rfl rfl|exact zUe bN_ rfl rfl|exact zUe dJ_ rfl rfl|exact zUe bj_ rfl rfl|exact zUe cZ_ rfl rfl|exact zUe cX_ rfl rfl|exact zUe bO_ rfl rfl|exact zUe ck_ rfl rfl|exact zUe cK_ rfl rfl|exact zUe cj_ rfl rfl);exact zS rfl;exact rfl;exact rfl;(intro v _ h;first|exact y_ Pc.cells_len (by decide) h.1 (by assumption)|exact y_ Pc.cells_len (by decide) h.2.1 (by assumption)|exact y_ Pc.cells_len (by decide) h.2.2.1 (by assumption)|exact y_ Pc.cells_len (by decide) h.2.2.2.1 (by assumption)|exact y_ Pc.cells_len (by decide) h.2.2.2.2.1 (by assumption)|exact y_ Pc.cells_len (by decide) h.2.2.2.2.2.1 (by assumption)|exact y_ Pc.cells_len (by decide) h.2.2.2.2.2.2.1 (by assumption)|exact y_ Pc.cells_len (by decide) h.2.2.2.2.2.2.2.1 (by assumption)|exact y_ Fc.cells_len (by decide) h.1 (by assumption)|exact y_ Fc.cells_len (by decide) h.2.1 (by assumption)|exact y_ Fc.cells_len (by decide) h.2.2.1 (by assumption)|exact y_ Fc.cells_len (by decide) h.2.2.2.1 (by assumption)|exact y_ Fc.cells_len (by decide) h.2.2.2.2.1 (by assumption)|exact y_ Fc.cells_len (by decide) h.2.2.2.2.2.1 (by assumption)|exact y_ Fc.cells_len (by decide) h.2.2.2.2.2.2.1 (by assumption)|exact y_ Fc.cells_len (by decide) h.2.2.2.2.2.2.2.1 (by assumption)|exact y_ Stp.cells_len (by decide) h.1 (by assumption)|exact y_ Stp.cells_len (by decide) h.2.1 (by assumption)|exact y_ Stp.cells_len (by decide) h.2.2.1 (by assumption)|exact y_ Stp.cells_len (by decide) h.2.2.2.1 (by assumption)|exact y_ Stp.cells_len (by decide) h.2.2.2.2.1 (by assumption)|exact y_ Stp.cells_len (by decide) h.2.2.2.2.2.1 (by assumption)|exact y_ Stp.cells_len (by decide) h.2.2.2.2.2.2.1 (by assumption)|exact y_ Stp.cells_len (by decide) h.2.2.2.2.2.2.2.1 (by assumption)|exact y_ at_ (by decide) h.1 (by assumption)|exact y_ at_ (by decide) h.2.1 (by assumption)|exact y_ at_ (by decide) h.2.2.1 (by assumption)|exact y_ at_ (by decide) h.2.2.2.1 (by assumption)|exact y_ at_ (by decide) h.2.2.2.2.1 (by assumption)|exact y_ at_ (by decide) h.2.2.2.2.2.1 (by assumption)|exact y_ at_ (by decide) h.2.2.2.2.2.2.1 (by assumption)|exact y_ at_ (by decide) h.2.2.2.2.2.2.2.1 (by assumption)|exact y_ be_ (by decide) h.1 (by assumption)|exact y_ be_ (by decide) h.2.1 (by assumption)|exact y_ be_ (by decide) h.2.2.1 (by assumption)|exact y_ be_ (by decide) h.2.2.2.1 (by assumption)|exact y_ be_ (by decide) h.2.2.2.2.1 (by assumption)|exact y_ be_ (by decide) h.2.2.2.2.2.1 (by assumption)|exact y_ be_ (by decide) h.2.2.2.2.2.2.1 (by assumption)|exact y_ be_ (by decide) h.2.2.2.2.2.2.2.1 (by assumption));omega;(first|omega|(simp;done)))|((with_reducible apply ba_);rotate_left;exact rfl;(intro v _ h;first|exact h.1|exact h.2.1|exact h.2.2.1|exact h.2.2.2.1|exact h.2.2.2.2.1|exact h.2.2.2.2.2.1|exact h.2.2.2.2.2.2.1|exact h.2.2.2.2.2.2.2.1|exact h.2.2.2.2.2.2.2.2.1|exact h.2.2.2.2.2.2.2.2.2.1|exact h.2.2.2.2.2.2.2.2.2.2.1|exact h.2.2.2.2.2.2.2.2.2.2.2.1);(first|exact u_ Pc.cells_len (by assumption) 0 _ rfl|exact u_ Pc.cells_len (by assumption) _ _ rfl|exact u_ Fc.cells_len (by assumption) 0 _ rfl|exact u_ Fc.cells_len (by assumption) _ _ rfl|exact u_ Stp.cells_len (by assumption) 0 _ rfl|exact u_ Stp.cells_len (by assumption) _ _ rfl|exact u_ at_ (by assumption) 0 _ rfl|exact u_ at_ (by assumption) _ _ rfl|exact u_ be_ (by assumption) 0 _ rfl|exact u_ be_ (by assumption) _ _ rfl|exact u_ Stp.cells_len (by assumption) 2 _ rfl|exact u_ Stp.cells_len (by assumption) 3 _ rfl|exact u_ Stp.cells_len (by assumption) 4 _ rfl|exact u_ Stp.cells_len (by assumption) 5 _ rfl|exact u_ Stp.cells_len (by assumption) 6 _ rfl);exact zA rfl)|((with_reducible apply af_);rotate_left;exact zS rfl;exact rfl;(intro v _ h;first|exact h.1|exact h.2.1|exact h.2.2.1|exact h.2.2.2.1|exact h.2.2.2.2.1|exact h.2.2.2.2.2.1|exact h.2.2.2.2.2.2.1|exact h.2.2.2.2.2.2.2.1|exact h.2.2.2.2.2.2.2.2.1|exact h.2.2.2.2.2.2.2.2.2.1|exact h.2.2.2.2.2.2.2.2.2.2.1|exact h.2.2.2.2.2.2.2.2.2.2.2.1);rotate_left;(first|exact u_ Pc.cells_len (by assumption)|exact u_ Fc.cells_len (by assumption)|exact u_ Stp.cells_len (by assumption));exact zA rfl;(first|exact Pc.cells_len _|exact Fc.cells_len _|exact Stp.cells_len _))|((with_reducible apply (bl_ 4));rotate_left;exact rfl;exact rfl;exact rfl;exact zA rfl)|((with_reducible apply (bl_ 5));rotate_left;exact rfl;exact rfl;exact rfl;exact zA rfl)|((with_reducible apply (bl_ 6));rotate_left;exact rfl;exact rfl;exact rfl;exact zA rfl)|((with_reducible apply (bl_ 7));rotate_left;exact rfl;exact rfl;exact rfl;exact zA rfl)|((with_reducible apply (bz_ 4));rotate_left;exact zS rfl;exact rfl;exact rfl;exact rfl;exact zA rfl)|((with_reducible apply (bz_ 5));rotate_left;exact zS rfl;exact rfl;exact rfl;exact rfl;exact zA rfl)|((with_reducible apply (bz_ 6));rotate_left;exact zS rfl;exact rfl;exact rfl;exact rfl;exact zA rfl)|((with_reducible apply (bz_ 7));rotate_left;exact zS rfl;exact rfl;exact rfl;exact rfl;exact zA rfl)))))):Cn n B:=h ⟨k⟩
theorem Zi {p q A B C:Prop} (n:Nat) (k0:p→A) (k1:q→B) (h:Kw (p→A)→Kw (q→B)→Cn n C:=by intro k0_ k1_;refine Zy ?_;first|((with_reducible apply D_);(first|((with_reducible apply aI_);exact rfl;exact rfl)|((with_reducible apply dg_);exact rfl;exact rfl)|((with_reducible apply fA_);exact rfl;exact rfl)|((with_reducible apply fu_);exact rfl;exact rfl)|((with_reducible apply bS_);exact rfl;exact rfl)|((with_reducible apply gr_);exact rfl;exact rfl)|((with_reducible apply ea_);exact rfl;exact rfl)|((with_reducible apply fz_);exact rfl;exact rfl)|((with_reducible apply kX_);exact rfl;exact rfl));exact rfl;intro r_ h_;cases r_;(first|exact k0_.go (zdf h_)|exact k0_.go (znb h_)|exact k0_.go (zbe h_));(first|exact k1_.go (zdt h_)|exact k1_.go (zeb h_)|exact k1_.go (zbn h_)))|((with_reducible apply gt_);exact rfl;(first|((with_reducible apply aI_);exact rfl;exact rfl)|((with_reducible apply dg_);exact rfl;exact rfl)|((with_reducible apply fA_);exact rfl;exact rfl)|((with_reducible apply fu_);exact rfl;exact rfl)|((with_reducible apply bS_);exact rfl;exact rfl)|((with_reducible apply gr_);exact rfl;exact rfl)|((with_reducible apply ea_);exact rfl;exact rfl)|((with_reducible apply fz_);exact rfl;exact rfl)|((with_reducible apply kX_);exact rfl;exact rfl));exact rfl;intro r_ h_;cases r_;(first|exact k0_.go (zdf h_)|exact k0_.go (znb h_)|exact k0_.go (zbe h_));(first|exact k1_.go (zdt h_)|exact k1_.go (zeb h_)|exact k1_.go (zbn h_)))|((with_reducible apply gO_);exact rfl;exact rfl;exact rfl;(first|((with_reducible apply aI_);exact rfl;exact rfl)|((with_reducible apply dg_);exact rfl;exact rfl)|((with_reducible apply fA_);exact rfl;exact rfl)|((with_reducible apply fu_);exact rfl;exact rfl)|((with_reducible apply bS_);exact rfl;exact rfl)|((with_reducible apply gr_);exact rfl;exact rfl)|((with_reducible apply ea_);exact rfl;exact rfl)|((with_reducible apply fz_);exact rfl;exact rfl)|((with_reducible apply kX_);exact rfl;exact rfl));exact rfl;intro r_ h_;cases r_;(first|exact k0_.go (zdf h_)|exact k0_.go (znb h_)|exact k0_.go (zbe h_));(first|exact k1_.go (zdt h_)|exact k1_.go (zeb h_)|exact k1_.go (zbn h_)))):C:=(h ⟨k0⟩ ⟨k1⟩).go
theorem Zz {A B:Prop} (n:Nat) (k:A) (h:Kw A→Cn n B:=by intro k_;exact Zy k_.go):B:=(h ⟨k⟩).go
end Go.Proofs.YtamklbgaipakfaaGreatDoor

namespace Go.Proofs.YtamklbgaipakfaaGreatDoor
open Go Go.Sx Go.Proofs
attribute [local irreducible] Code.wp wpList wpAnyH
open Go.Vs
theorem lM_ (c:UInt8) :
    Fn0 Tryz.prog 274 #[.int .u8 (c.toNat:Int)] (.bool (fk_ c)):=by
  refine l_ Tryz.func274 rfl rfl Tryz.ntmps274 rfl fun v0=>?_
  refine Zi 8 (fun hr1=>?_) fun hr1=>?_
  · skip
    refine Zi 8 (fun hr2=>?_) fun hr2=>?_
    · skip
      refine Zz 11 ?_
      exact N_ rn_ () (m_ rfl (by subst_vars;rw[Bool.eq_iff_iff];simp[fk_]<;>omega)) (.refl _) zt
    · skip
      refine Zz 5 ?_
      refine D_ (fu_ rfl rfl) rfl fun r3 hr3=>Zz 7 ?_
      exact N_ rn_ () (m_ rfl (by subst_vars;rw[Bool.eq_iff_iff];simp[fk_]<;>omega)) (.refl _) zt
  · skip
    refine Zi 4 (fun hr4=>?_) fun hr4=>?_
    · skip
      refine Zi 5 (fun hr5=>?_) fun hr5=>?_
      · skip
        refine Zz 11 ?_
        exact N_ rn_ () (m_ rfl (by subst_vars;rw[Bool.eq_iff_iff];simp[fk_]<;>omega)) (.refl _) zt
      · skip
        refine Zz 5 ?_
        refine D_ (fu_ rfl rfl) rfl fun r6 hr6=>Zz 7 ?_
        exact N_ rn_ () (m_ rfl (by subst_vars;rw[Bool.eq_iff_iff];simp[fk_]<;>omega)) (.refl _) zt
    · skip
      refine Zz 13 ?_
      exact N_ rn_ () (m_ rfl (by subst_vars;rw[Bool.eq_iff_iff];simp[fk_]<;>omega)) (.refl _) zt
theorem pA_ (s:Str) (hs:s.length≤140737488351232) :
    Fn0 Tryz.prog 261 #[str s] (.bool (ko_ s)):=by
  refine l_ Tryz.func261 rfl rfl Tryz.ntmps261 rfl fun v0=>?_
  refine Zz 9 ?_
  refine vt_ T_ ck_ Tryz.runUnderlying5 rfl rfl fun cap b1 hcap=>Zz 5 ?_
  refine bx_ [(6,.slice (some ⟨b1,0,none⟩) s.length cap),(7,.int .i64 (s.length:Int)),(8,.int .i64 ((0:Nat):Int))] zl ?_
  refine bL_ (ι:={k:Nat // k≤s.length∧(s.take k).all fN_=true}) (fun i=>[(6,.slice (some ⟨b1,0,none⟩) s.length cap),(7,.int .i64 (s.length:Int)),(8,.int .i64 (i.1:Int))]) (fun _=>_) (fun _=>_) (fun i=>s.length - i.1) ⟨0,by simp⟩ ?_
  rintro ⟨k,hk⟩
  refine bx_ [(6,.slice (some ⟨b1,0,none⟩) s.length cap),(7,.int .i64 (s.length:Int)),(8,.int .i64 (k:Int))] zl ?_
  refine Zi 2 (fun hr1=>?_) fun hr1=>?_
  · skip
    refine Zz 12 ?_
    exact N_ Tryz.results261 () (m_ rfl (by rw[ko_,ns_ fN_ s k (by omega) hk.2])) (.refl _) zt
  · skip
    have hlt:k<s.length:=by omega
    obtain⟨c,hc⟩:∃ c,s[k]? = some c:=⟨_,List.getElem?_eq_getElem hlt⟩
    refine Zz 10 ?_
    refine d_ (gK_ ck_ Tryz.sizeOf5 rfl rfl (by omega) (by omega)) rfl (d_ (bl_ (u:=.int .u8 (c.toNat:Int)) 0 Tryz.isAgg5 rfl rfl (by rw[show 0+((k:Int)).toNat*1=k by omega];exact tY_ hc)) rfl ?_)
    refine Zz 6 ?_
    refine aj_ (lM_ c) rfl (.refl _) zt rfl fun r2 hr2=>d_ (bb_ rfl) rfl (Zz 1 ?_)
    cases r2
    · skip
      refine Zi 3 (fun hr3=>?_) fun hr3=>?_
      · skip
        refine Zz 19 ?_
        exact J_ ⟨k+1,hlt,gB_ _ s k c hc hk.2 (by simp[fN_, *]<;>omega)⟩ (by simp;omega) zl (.refl _) zh
      · skip
        refine Zi 5 (fun hr4=>?_) fun hr4=>?_
        · skip
          refine Zi 5 (fun hr5=>?_) fun hr5=>?_
          · skip
            refine Zz 13 ?_
            exact J_ ⟨k+1,hlt,gB_ _ s k c hc hk.2 (by simp[fN_, *]<;>omega)⟩ (by simp;omega) zl (.refl _) zh
          · skip
            refine Zz 12 ?_
            exact N_ Tryz.results261 () (m_ rfl (by rw[ko_,jb_ fN_ s k c hc (by simp[fN_, *]<;>omega)])) (.refl _) zt
        · skip
          refine Zz 16 ?_
          exact N_ Tryz.results261 () (m_ rfl (by rw[ko_,jb_ fN_ s k c hc (by simp[fN_, *]<;>omega)])) (.refl _) zt
    · skip
      refine Zz 21 ?_
      exact J_ ⟨k+1,hlt,gB_ _ s k c hc hk.2 (by simp[fN_, *]<;>omega)⟩ (by simp;omega) zl (.refl _) zh
theorem sC_ (s:Str) :
    Fn0 Tryz.prog 275 #[str s] (.bool (bH_ s)):=by
  refine l_ Tryz.func275 rfl rfl Tryz.ntmps275 rfl fun v0=>?_
  refine Zi 15 (fun hr1=>?_) fun hr1=>?_
  · skip
    refine Zi 6 (fun hr2=>?_) fun hr2=>?_
    · skip
      refine Zi 6 (fun hr3=>?_) fun hr3=>?_
      · skip
        refine Zi 6 (fun hr4=>?_) fun hr4=>?_
        · skip
          refine Zi 6 (fun hr5=>?_) fun hr5=>?_
          · skip
            refine Zi 6 (fun hr6=>?_) fun hr6=>?_
            · skip
              refine Zi 6 (fun hr7=>?_) fun hr7=>?_
              · skip
                refine Zi 6 (fun hr8=>?_) fun hr8=>?_
                · skip
                  refine Zi 6 (fun hr9=>?_) fun hr9=>?_
                  · skip
                    refine Zi 6 (fun hr10=>?_) fun hr10=>?_
                    · skip
                      refine Zi 6 (fun hr11=>?_) fun hr11=>?_
                      · skip
                        refine Zi 6 (fun hr12=>?_) fun hr12=>?_
                        · skip
                          refine Zi 6 (fun hr13=>?_) fun hr13=>?_
                          · skip
                            refine Zi 6 (fun hr14=>?_) fun hr14=>?_
                            · skip
                              refine Zi 6 (fun hr15=>?_) fun hr15=>?_
                              · skip
                                refine Zi 6 (fun hr16=>?_) fun hr16=>?_
                                · skip
                                  refine Zi 6 (fun hr17=>?_) fun hr17=>?_
                                  · skip
                                    refine Zi 6 (fun hr18=>?_) fun hr18=>?_
                                    · skip
                                      refine Zi 6 (fun hr19=>?_) fun hr19=>?_
                                      · skip
                                        refine Zi 6 (fun hr20=>?_) fun hr20=>?_
                                        · skip
                                          refine Zi 6 (fun hr21=>?_) fun hr21=>?_
                                          · skip
                                            refine Zi 5 (fun hr22=>?_) fun hr22=>?_
                                            · skip
                                              refine Zz 12 ?_
                                              exact N_ aU_ () (m_ rfl (by simp[bH_,kws, *])) (.refl _) zt
                                            · skip
                                              refine Zz 10 ?_
                                              exact N_ aU_ () (m_ rfl (by simp[bH_,kws, *])) (.refl _) zt
                                          · skip
                                            refine Zz 13 ?_
                                            exact N_ aU_ () (m_ rfl (by simp[bH_,kws, *])) (.refl _) zt
                                        · skip
                                          refine Zz 13 ?_
                                          exact N_ aU_ () (m_ rfl (by simp[bH_,kws, *])) (.refl _) zt
                                      · skip
                                        refine Zz 13 ?_
                                        exact N_ aU_ () (m_ rfl (by simp[bH_,kws, *])) (.refl _) zt
                                    · skip
                                      refine Zz 13 ?_
                                      exact N_ aU_ () (m_ rfl (by simp[bH_,kws, *])) (.refl _) zt
                                  · skip
                                    refine Zz 13 ?_
                                    exact N_ aU_ () (m_ rfl (by simp[bH_,kws, *])) (.refl _) zt
                                · skip
                                  refine Zz 13 ?_
                                  exact N_ aU_ () (m_ rfl (by simp[bH_,kws, *])) (.refl _) zt
                              · skip
                                refine Zz 13 ?_
                                exact N_ aU_ () (m_ rfl (by simp[bH_,kws, *])) (.refl _) zt
                            · skip
                              refine Zz 13 ?_
                              exact N_ aU_ () (m_ rfl (by simp[bH_,kws, *])) (.refl _) zt
                          · skip
                            refine Zz 13 ?_
                            exact N_ aU_ () (m_ rfl (by simp[bH_,kws, *])) (.refl _) zt
                        · skip
                          refine Zz 13 ?_
                          exact N_ aU_ () (m_ rfl (by simp[bH_,kws, *])) (.refl _) zt
                      · skip
                        refine Zz 13 ?_
                        exact N_ aU_ () (m_ rfl (by simp[bH_,kws, *])) (.refl _) zt
                    · skip
                      refine Zz 13 ?_
                      exact N_ aU_ () (m_ rfl (by simp[bH_,kws, *])) (.refl _) zt
                  · skip
                    refine Zz 13 ?_
                    exact N_ aU_ () (m_ rfl (by simp[bH_,kws, *])) (.refl _) zt
                · skip
                  refine Zz 13 ?_
                  exact N_ aU_ () (m_ rfl (by simp[bH_,kws, *])) (.refl _) zt
              · skip
                refine Zz 13 ?_
                exact N_ aU_ () (m_ rfl (by simp[bH_,kws, *])) (.refl _) zt
            · skip
              refine Zz 13 ?_
              exact N_ aU_ () (m_ rfl (by simp[bH_,kws, *])) (.refl _) zt
          · skip
            refine Zz 13 ?_
            exact N_ aU_ () (m_ rfl (by simp[bH_,kws, *])) (.refl _) zt
        · skip
          refine Zz 13 ?_
          exact N_ aU_ () (m_ rfl (by simp[bH_,kws, *])) (.refl _) zt
      · skip
        refine Zz 13 ?_
        exact N_ aU_ () (m_ rfl (by simp[bH_,kws, *])) (.refl _) zt
    · skip
      refine Zz 13 ?_
      exact N_ aU_ () (m_ rfl (by simp[bH_,kws, *])) (.refl _) zt
  · skip
    refine Zz 13 ?_
    exact N_ aU_ () (m_ rfl (by simp[bH_,kws, *])) (.refl _) zt
end Go.Proofs.YtamklbgaipakfaaGreatDoor
namespace Go.Proofs.YtamklbgaipakfaaGreatDoor
open Go Go.Sx Go.Proofs
attribute [local irreducible] Code.wp wpList wpAnyH
open Go.Vs
theorem lL_ (s:Str) (hs:s.length≤140737488351232) :
    Fn0 Tryz.prog 252 #[str s] (.bool (hJ_ s)):=by
  refine l_ Tryz.func252 rfl rfl Tryz.ntmps252 rfl fun v0=>?_
  refine Zi 8 (fun hr1=>?_) fun hr1=>?_
  · skip
    refine Zz 18 ?_
    exact N_ Tryz.results252 () (m_ rfl (by simp[hJ_, *])) (.refl _) zt
  · skip
    obtain⟨c,t,rfl⟩:=List.exists_cons_of_ne_nil hr1
    refine Zz 4 ?_
    refine d_ (cu_ T_ rfl rfl (by decide) rfl) rfl (aF_ rfl rfl (aj_ (lM_ _) rfl (.refl _) zt rfl fun r2 hr2=>Zz 2 ?_))
    cases r2
    · skip
      refine Zz 12 ?_
      exact N_ Tryz.results252 () (m_ rfl (by simp[hJ_, *])) (.refl _) zt
    · skip
      refine Zz 3 ?_
      refine aj_ (pA_ _ (by assumption)) rfl (.refl _) zt rfl fun r3 hr3=>Zz 2 ?_
      cases r3
      · skip
        refine Zz 8 ?_
        exact N_ Tryz.results252 () (m_ rfl (by simp[hJ_, *])) (.refl _) zt
      · skip
        refine Zz 3 ?_
        refine aj_ (sC_ _) rfl (.refl _) zt rfl fun r4 hr4=>aF_ rfl rfl (d_ (bb_ rfl) rfl (Zz 5 ?_))
        exact N_ Tryz.results252 () (m_ rfl (by simp[hJ_, *])) (.refl _) zt
theorem hq_ (s:Str) (hs:s.length≤140737488351232) :
    Fn0 Tryz.prog 223 #[str s] (.bool (dk_ s)):=by
  refine l_ Tryz.func223 rfl rfl Tryz.ntmps223 rfl fun v0=>?_
  refine Zz 8 ?_
  refine d_ (do_ T_ rfl) rfl ?_
  refine Zi 0 (fun hr1=>?_) fun hr1=>?_
  · skip
    refine Zz 18 ?_
    exact N_ Tryz.results223 () (m_ rfl (by subst_vars;rw[Bool.eq_iff_iff];simp[dk_]<;>simp at*<;> omega)) (.refl _) zt
  · skip
    refine Zz 4 ?_
    refine d_ (do_ T_ rfl) rfl (aF_ rfl rfl ?_)
    refine Zi 0 (fun hr2=>?_) fun hr2=>?_
    · skip
      refine Zz 14 ?_
      exact N_ Tryz.results223 () (m_ rfl (by subst_vars;rw[Bool.eq_iff_iff];simp[dk_]<;>simp at*<;> omega)) (.refl _) zt
    · skip
      obtain⟨c,t,rfl⟩:=List.exists_cons_of_length_pos (l:=s) (by omega)
      refine Zz 5 ?_
      refine d_ (cu_ T_ rfl rfl (by decide) rfl) rfl (aF_ rfl rfl ?_)
      refine Zi 0 (fun hr3=>?_) fun hr3=>?_
      · skip
        refine Zz 9 ?_
        exact N_ Tryz.results223 () (m_ rfl (by subst_vars;rw[Bool.eq_iff_iff];simp[dk_]<;>simp at*<;> omega)) (.refl _) zt
      · skip
        refine Zz 5 ?_
        refine aj_ (pA_ _ (by assumption)) rfl (.refl _) zt rfl fun r4 hr4=>Zz 5 ?_
        exact N_ Tryz.results223 () (m_ rfl (by subst_vars;rw[Bool.eq_iff_iff];simp[dk_]<;>simp at*<;> omega)) (.refl _) zt
theorem kx_ (s:Str) (c:UInt8):Fn0 Tryz.prog 307 #[str s,str [c]] (.int .i64 (Lib.indexByte s c)) :=
  ht_ (callable Tryz.func307 rfl rfl) fun w=>(Tryz.stringslite_Index_one ⟨s.toArray⟩ c w).mono (by rintro e w' ⟨rfl,rfl⟩;exact⟨rfl,rfl,rfl,rfl,rfl,Nat.le_refl _⟩)
theorem nQ_ (s:Str) (c:UInt8) (hk:ixS c s=none):Fn0 Tryz.prog 307 #[str s,str [c]] (.int .i64 (-1)):=by
  have h:=kx_ s c
  rw[kS_,hk]at h
  exact h
theorem nP_ (s:Str) (c:UInt8) (k:Nat) (hk:ixS c s=some k):Fn0 Tryz.prog 307 #[str s,str [c]] (.int .i64 (k:Int)):=by
  have h:=kx_ s c
  rw[kS_,hk]at h
  exact h
theorem sP_ (s:Str) (c:UInt8) (hk:ixS c s=none) :
    Fn0 Tryz.prog 273 #[str s,str [c]] (.tuple #[str s,str [],.bool false]):=by
  refine l_ Tryz.func273 rfl rfl Tryz.ntmps273 rfl fun v0=>?_
  refine Zz 12 ?_
  refine f_ (nQ_ s c hk) rfl (.refl _) zt rfl fun _=>Zi 6 (fun hr1=>?_) fun hr1=>?_
  · skip
    refine Zz 14 ?_
    exact jQ_ Tryz.results273 () rfl rfl rfl rfl (.refl _) zt
  · skip
    exact absurd hr1 (by decide)
theorem sO_ (s:Str) (c:UInt8) (k:Nat) (hk:ixS c s=some k) (hl:k<s.length) (hs:s.length≤140737488351232) :
    Fn0 Tryz.prog 273 #[str s,str [c]] (.tuple #[str (s.take k),str (s.drop (k+1)),.bool true]):=by
  refine l_ Tryz.func273 rfl rfl Tryz.ntmps273 rfl fun v0=>?_
  refine Zz 12 ?_
  refine f_ (nP_ s c k hk) rfl (.refl _) zt rfl fun _=>Zi 6 (fun hr1=>?_) fun hr1=>?_
  · skip
    exact absurd (by omega) hr1
  · skip
    refine Zz 5 ?_
    refine z_ 0 [0,1,2,3,4,5,6,7,8,9,10,11] zk zs (Zz 2 ?_)
    refine P_ rfl (fo_ (i:=0) (j:=k) (kl:=.i64) T_ rfl rfl rfl (by omega) (by omega)) rfl (Zz 3 ?_)
    refine P_ rfl (do_ T_ rfl) rfl ?_
    refine P_ rfl (aT_ rfl rfl rfl (bK_ (by simp only[List.length_cons,List.length_nil];omega) (by simp only[List.length_cons,List.length_nil];omega))) rfl ?_
    refine P_ rfl (fo_ (i:=k+1) (j:=s.length) (kh:=.i64) T_ rfl rfl rfl (by omega) (by omega)) rfl (Zz 7 ?_)
    exact jQ_ Tryz.results273 () rfl rfl rfl (by simp[List.take_of_length_le]) (.refl _) zt
theorem ut_ (s:Str) (c:UInt8) (hk:ixS c s=none) :
    Fn0 Tryz.prog 251 #[str s,str [c]] (.tuple #[str s,str [],.bool false]):=by
  refine l_ Tryz.func251 rfl rfl Tryz.ntmps251 rfl fun v0=>?_
  refine Zz 11 ?_
  refine f_ (sP_ s c hk) rfl (.refl _) zt rfl fun _=>Zz 9 ?_
  exact jQ_ Tryz.results251 () rfl rfl rfl rfl (.refl _) zt
theorem nM_ (s:Str) (hk:ixS 58 s=none) :
    Fn0 Tryz.prog 203 #[str s] (.bool (bC_ s)):=by
  refine l_ Tryz.func203 rfl rfl Tryz.ntmps203 rfl fun v0=>?_
  refine Zz 9 ?_
  refine d_ (do_ T_ rfl) rfl ?_
  refine Zi 0 (fun hr1=>?_) fun hr1=>?_
  · skip
    refine Zz 8 ?_
    refine f_ (ut_ s 58 hk) rfl (.refl _) zt rfl fun _=>Zz 12 ?_
    refine aj_ (lL_ _ (by first|omega|(simp;omega))) rfl (.refl _) zt rfl fun r2 hr2=>?_
    refine Zz 1 ?_
    cases r2
    · skip
      refine Zz 11 ?_
      exact N_ jR_ () (m_ rfl (by simp[bC_, *]<;>omega)) (.refl _) zt
    · skip
      refine Zz 3 ?_
      refine d_ (bb_ rfl) rfl (Zz 11 ?_)
      exact N_ jR_ () (m_ rfl (by simp[bC_, *]<;>omega)) (.refl _) zt
  · skip
    refine Zz 9 ?_
    exact N_ jR_ () (m_ rfl (by simp[bC_, *]<;>omega)) (.refl _) zt
theorem us_ (s:Str) (c:UInt8) (k:Nat) (hk:ixS c s=some k) (hl:k<s.length) (hs:s.length≤140737488351232) :
    Fn0 Tryz.prog 251 #[str s,str [c]] (.tuple #[str (s.take k),str (s.drop (k+1)),.bool true]):=by
  refine l_ Tryz.func251 rfl rfl Tryz.ntmps251 rfl fun v0=>?_
  refine Zz 11 ?_
  refine f_ (sO_ s c k hk hl hs) rfl (.refl _) zt rfl fun _=>Zz 9 ?_
  exact jQ_ Tryz.results251 () rfl rfl rfl rfl (.refl _) zt
theorem nL_ (s:Str) (k:Nat) (hk:ixS 58 s=some k) (hl:k<s.length) :
    Fn0 Tryz.prog 203 #[str s] (.bool (bC_ s)):=by
  refine l_ Tryz.func203 rfl rfl Tryz.ntmps203 rfl fun v0=>?_
  refine Zz 9 ?_
  refine d_ (do_ T_ rfl) rfl ?_
  refine Zi 0 (fun hr1=>?_) fun hr1=>?_
  · skip
    refine Zz 8 ?_
    refine f_ (us_ s 58 k hk hl (by omega)) rfl (.refl _) zt rfl fun _=>Zz 12 ?_
    refine aj_ (lL_ _ (by first|omega|(simp;omega))) rfl (.refl _) zt rfl fun r2 hr2=>?_
    refine Zz 1 ?_
    cases r2
    · skip
      refine Zz 11 ?_
      exact N_ jR_ () (m_ rfl (by simp[bC_, *]<;>omega)) (.refl _) zt
    · skip
      refine Zz 3 ?_
      refine d_ (bb_ rfl) rfl (Zz 5 ?_)
      refine aj_ (lL_ _ (by first|omega|(simp;omega))) rfl (.refl _) zt rfl fun r3 hr3=>?_
      refine Zz 7 ?_
      exact N_ jR_ () (m_ rfl (by simp[bC_, *]<;>omega)) (.refl _) zt
  · skip
    refine Zz 9 ?_
    exact N_ jR_ () (m_ rfl (by simp[bC_, *]<;>omega)) (.refl _) zt
theorem gW_ (s:Str):Fn0 Tryz.prog 203 #[str s] (.bool (bC_ s)):=by
  cases hk:ixS 58 s with
  | none=>exact nM_ s hk
  | some k=>exact nL_ s k hk (qK_ hk)
theorem cQ_ (s:Str) (hs:s.length≤140737488351232) :
    Fn0 Tryz.prog 157 #[str s] (.int .i64 (if aX_ s then 0 else 20)):=by
  refine l_ Tryz.func157 rfl rfl Tryz.ntmps157 rfl fun v0=>?_
  refine Zz 9 ?_
  refine aj_ (gW_ _) rfl (.refl _) zt rfl fun r1 hr1=>Zz 1 ?_
  cases r1
  · skip
    refine Zz 3 ?_
    refine aj_ (hq_ _ hs) rfl (.refl _) zt rfl fun r2 hr2=>Zz 3 ?_
    cases r2
    · skip
      refine Zz 9 ?_
      exact N_ Tryz.results157 () (V_ rfl (by simp[aX_, *])) (.refl _) zt
    · skip
      refine Zz 7 ?_
      exact N_ Tryz.results157 () (V_ rfl (by simp[aX_, *])) (.refl _) zt
  · skip
    refine Zz 12 ?_
    exact N_ Tryz.results157 () (V_ rfl (by simp[aX_, *])) (.refl _) zt
theorem eH_ (s:Str) (hs:s.length≤140737488351232) :
    Fn0 Tryz.prog 209 #[str s] (.bool (aX_ s)):=by
  refine l_ Tryz.func209 rfl rfl Tryz.ntmps209 rfl fun v0=>?_
  refine Zz 8 ?_
  refine f_ (cQ_ s hs) rfl (.refl _) zt rfl fun _=>D_ (aI_ rfl rfl) rfl fun r1 hr1=>Zz 4 ?_
  exact N_ Tryz.results209 () (m_ rfl (by subst_vars;cases aX_ s<;>rfl)) (.refl _) zt
end Go.Proofs.YtamklbgaipakfaaGreatDoor
namespace Go.Proofs.YtamklbgaipakfaaGreatDoor
open Go Go.Sx Go.Proofs
attribute [local irreducible] Code.wp wpList wpAnyH
open Go.Vs
theorem fits_c:∀ (m:Nat) (c:Con),c.sz≤m→c.ok→∀ (d n bs:Nat),d≤9→n≤64→∀ r,c.fits d n=r →
    Tri Tryz.prog 204 #[c.val,.int .i64 (d:Int),zp_ bs 0] [(bs,.cells #[.int .i64 (n:Int)] 3 (0,0))] [c.memF] (fun _:Unit=>.bool r.1) (fun _=>[(bs,.cells #[.int .i64 (r.2:Int)] 3 (0,0))]) (fun _=>[]):=by
  intro m
  induction m with
  | zero=>intro c h;have:=c.sz_pos;omega
  | succ m ih =>
    intro c hm hok d n bs hd hn r hr
    obtain⟨k,nm,lo,hi,ad,cap,ps⟩:=c
    have hlen:=Con.ok_len hok
    simp only[Con.parts,Con.cap]at hlen
    refine l_ Tryz.func204 rfl rfl Tryz.ntmps204 rfl fun v0=>?_
    refine Zz 2 ?_
    refine U_ rfl rfl fun b1=>Zz 10 ?_
    refine x_ 1 ao_ rfl rfl rfl rfl rfl rfl (Zi 6 (fun hr1=>?_) fun hr1=>?_)
    · skip
      try dsimp only[Con.kind,Con.parts,Con.name,Con.lo,Con.hi,Con.cap,Con.ad]at hr1
      refine Zi 8 (fun hr2=>?_) fun hr2=>?_
      · skip
        try dsimp only[Con.kind,Con.parts,Con.name,Con.lo,Con.hi,Con.cap,Con.ad]at hr2
        have hc0:¬ (8<d∨64<n+1):=by omega
        refine Zz 16 ?_
        refine bx_ [(1,.int .i64 (d:Int)),(2,zp_ bs 0),(23,.slice ad ps.length cap),(24,.int .i64 (ps.length:Int)),(25,.int .i64 ((0:Nat):Int))] zl ?_
        refine bL_ (ι:={q:Nat×Nat // q.1≤ps.length∧Con.fits.fitss (ps.take q.1) (d+1) (n+1)=(true,q.2)∧q.2≤64}) (fun i=>[(1,.int .i64 (d:Int)),(2,zp_ bs 0),(23,.slice ad ps.length cap),(24,.int .i64 (ps.length:Int)),(25,.int .i64 (i.1.1:Int))]) (fun i=>[_,(bs,.cells #[.int .i64 (i.1.2:Int)] 3 (0,0))]) (fun _=>_) (fun i=>ps.length - i.1.1) ⟨(0,n+1),by simp[Con.fits.fitss];omega⟩ ?_
        rintro ⟨⟨i,m1⟩,hk⟩
        refine bx_ [(1,.int .i64 (d:Int)),(2,zp_ bs 0),(23,.slice ad ps.length cap),(24,.int .i64 (ps.length:Int)),(25,.int .i64 (i:Int))] zl ?_
        refine Zi 2 (fun hr3=>?_) fun hr3=>?_
        · skip
          try dsimp only[Con.kind,Con.parts,Con.name,Con.lo,Con.hi,Con.cap,Con.ad]at hr3
          refine Zz 12 ?_
          obtain rfl:r=(true,m1):=by rw[← hr];exact Con.fits_yes hc0 (by omega) hk.2.1
          exact N_ Tryz.results204 () rfl (fw_ (i:=1) rfl) zt
        · skip
          try dsimp only[Con.kind,Con.parts,Con.name,Con.lo,Con.hi,Con.cap,Con.ad]at hr3
          have hlt:i<ps.length:=by omega
          obtain⟨p,hp⟩:∃ p,ps[i]? = some p:=⟨_,List.getElem?_eq_getElem hlt⟩
          have hpm:p∈ps:=List.mem_of_getElem? hp
          refine Zz 10 ?_
          refine d_ (L_ ab_ A_ rfl rfl (fun v _ h=>Con.row_addr (c:=.mk k nm lo hi ad cap ps) h.1 hp) (by omega) (by omega)) rfl (d_ (af_ (us:=p.cells) aD_ A_ rfl (fun v _ h=>((Con.mem_iff (.mk k nm lo hi ad cap ps) v).1 h.1).1) p.cells_len (Con.part_cells (c:=.mk k nm lo hi ad cap ps) (i:=i) hp)) rfl (K_ bE_ rfl fun b2=>fs_ 0 A_ rfl rfl rfl rfl (Zz 4 ?_)))
          refine d_ (dj_ 0 aD_ A_ rfl rfl) rfl (Zz 3 ?_)
          refine lB_ 2 (ih p (by have:=Con.sz_part (c:=.mk k nm lo hi ad cap ps) hpm;omega) (Con.ok_part (c:=.mk k nm lo hi ad cap ps) hok hpm) (d+1) m1 bs (by omega) hk.2.2 _ rfl) rfl rfl (fun v _ h=>⟨Con.mem_part (c:=.mk k nm lo hi ad cap ps) h.1 hpm,trivial⟩) rfl fun r4 hr4=>?_
          refine d_ (bb_ rfl) rfl (Zz 2 ?_)
          cases r4
          · skip
            try dsimp only[Con.kind,Con.parts,Con.name,Con.lo,Con.hi,Con.cap,Con.ad]at hr4
            refine Zz 7 ?_
            obtain rfl:r=(false,(p.fits (d+1) m1).2):=by rw[← hr];exact Con.fits_no hc0 hp hk.2.1 (by assumption)
            exact N_ Tryz.results204 () rfl (fw_ (i:=2) rfl) zt
          · skip
            try dsimp only[Con.kind,Con.parts,Con.name,Con.lo,Con.hi,Con.cap,Con.ad]at hr4
            refine Zz 8 ?_
            exact J_ ⟨(i+1,(p.fits (d+1) m1).2),hlt,Con.fitss_step hp hk.2.1 (by assumption)⟩ (by simp;omega) zl (@List.perm_append_comm _ [_] _) zh
      · skip
        try dsimp only[Con.kind,Con.parts,Con.name,Con.lo,Con.hi,Con.cap,Con.ad]at hr2
        refine Zz 10 ?_
        obtain rfl:r=(false,n+1):=by rw[← hr,Con.fits_eq];simp<;>omega
        exact N_ Tryz.results204 () rfl (fw_ (i:=1) rfl) zt
    · skip
      try dsimp only[Con.kind,Con.parts,Con.name,Con.lo,Con.hi,Con.cap,Con.ad]at hr1
      refine Zz 15 ?_
      obtain rfl:r=(false,n+1):=by rw[← hr,Con.fits_eq];simp<;>omega
      exact N_ Tryz.results204 () rfl (fw_ (i:=1) rfl) zt
end Go.Proofs.YtamklbgaipakfaaGreatDoor
