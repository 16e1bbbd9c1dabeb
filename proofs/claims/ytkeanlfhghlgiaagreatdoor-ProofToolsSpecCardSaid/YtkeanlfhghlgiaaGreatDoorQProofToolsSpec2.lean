/-
  Part of the proof of the law ProofToolsSpec over this seat: the small logic, the data, the contracts of functions (no condition).
-/
import Derived.Test.YtkeanlfhghlgiaaGreatDoorQProofToolsSpec1
import Derived.Lib.Bytealg
import Derived.Below
import Derived.MapKept
import Derived.Deep.Draws
import Derived.Sort.Grow
import Derived.Lib.Join
import Derived.Lib.ItoaLen
import Derived.Laws.StructEq
import Derived.Laws.MakeOwn
import Derived.Laws.OwnMore
import Derived.ArgAppend
import Derived.Shelf.Small.Bits
import Derived.Shelf.Small.Strs
import Derived.Shelf.Small.Wraps
import Derived.Shelf.Strconv.Itoa0
import Derived.Shelf.Strings.Search1
import Derived.Shelf.Strings.Search2
import Derived.Shelf.Strings.Search3
import Derived.Shelf.Strings.Cut
import Derived.Shelf.Strings.Count
import Derived.Shelf.LaysM
import Derived.Shelf.Strings.Shaped
import Derived.Shelf.Sort.Plain
import Derived.Shelf.Unicode.DecodeSlow
import Derived.Shelf.Slices.Reverse
import Derived.Ground.Names2Prog
import Derived.Shelf.Slices.CompactI
import Derived.Shelf.Slices.CompactS
import Derived.Shelf.Slices.Cells
import Derived.Shelf.Slices.In.SortNone
import Derived.Test.YtkeanlfhghlgiaaGreatDoorProg
set_option linter.unusedVariables false
set_option linter.unusedSimpArgs false
set_option linter.unusedSectionVars false
set_option maxHeartbeats 1000000
namespace Go.Vs
abbrev Str:=List UInt8
def fK_ (c:UInt8):Bool:=(decide (97≤c.toNat)&&decide (c.toNat≤122))||(decide (65≤c.toNat)&&decide (c.toNat≤90))
def fW_ (c:UInt8):Bool:=fK_ c||decide (c.toNat=95)||(decide (48≤c.toNat)&&decide (c.toNat≤57))
def lm_ (s:Str):Bool:=s.all fW_
def kws:List Str:=[[97,110,100],[115,111,109,101],[105,110],[116,111],[110,111,116,104,105,110,103],[101,118,101,114,121,116,104,105,110,103],[111,110,101],[111,102],[111,112,101,110],[112,114,105,118,97,116,101],[115,117,98],[115,97,109,101],[100,105,115,106,111,105,110,116],[100,111,109,97,105,110],[114,111,108,101],[99,104,97,105,110],[114,101,102,108,101,120,105,118,101],[116,121,112,101],[108,105,110,107],[115,101,108,101,99,116],[119,104,101,114,101],[111,114]]
def bN_ (s:Str):Bool:=kws.contains s
def je_ (s:Str):Bool:=!(s==[])&&fK_ (s.headD 0)&&lm_ s&&!bN_ s
def dQ_ (s:Str):Bool:=decide (2≤s.length)&&decide (s.length≤24)&&decide ((s.headD 0).toNat=95)&&lm_ s
def ixS (c:UInt8):Str→Option Nat
  | []=>none
  | b::s=>if b=c then some 0 else (ixS c s).map (·+1)
def ek_ (s:Str):Bool:=decide (s.length≤24)&&match ixS 58 s with
  | none=>je_ s
  | some k=>je_ (s.take k)&&je_ (s.drop (k+1))
def ck_ (s:Str):Bool:=ek_ s||dQ_ s
theorem jG_ (c:UInt8):∀ s:Str,Lib.indexByte s c=match ixS c s with|none=>-1|some k=>(k:Int)
 | []=>rfl
 | b::s=>by
   have ih:=jG_ c s
   simp only[Lib.indexByte,ixS]
   by_cases h:b=c
   · simp[h]
   · simp only[beq_iff_eq,h,if_false]
     cases hx:ixS c s with
     | none=>rw[hx]at ih;simp[ih]
     | some k=>rw[hx]at ih;simp only[ih];rw[if_neg (by omega)];simp
theorem ou_ {c:UInt8}:∀ {s:Str} {k:Nat},ixS c s=some k→k<s.length
 | [],k,h=>by simp[ixS]at h
 | b::s,k,h=>by
   simp only[ixS]at h
   split at h
   · simp at h;subst h;simp
   · cases hx:ixS c s with
     | none=>rw[hx]at h;simp at h
     | some j=>rw[hx]at h;simp at h;subst h;have:=ou_ hx;simp;omega
theorem gV_ {c:UInt8}:∀ {s t:Str},ixS c s=none→ixS c (s++t)=(ixS c t).map (·+s.length)
 | [],t,_=>by simp
 | b::s,t,h=>by
   simp only[ixS]at h
   split at h
   · cases h
   · rename_i hb
     cases hx:ixS c s with
     | some j=>rw[hx]at h;simp at h
     | none =>
       simp only[List.cons_append,ixS,hb,if_false]
       rw[gV_ hx]
       cases ixS c t<;>simp;omega
theorem rZ_ (s:Str) (k:Nat) {b:UInt8} (c:UInt8) (hc:s[k]? = some c) (h:ixS b (s.take k)=none) (hne:c≠b):ixS b (s.take (k+1))=none:=by
  rw[List.take_add_one,hc,gV_ h]
  simp[ixS,hne]
theorem fR_ (p:UInt8→Bool) (s:Str) (k:Nat) (c:UInt8) (hc:s[k]? = some c) (h:(s.take k).all p=true) (hp:p c=true):(s.take (k+1)).all p=true:=by
  rw[List.take_add_one,hc];simp_all
theorem iq_ (p:UInt8→Bool) (s:Str) (k:Nat) (c:UInt8) (hc:s[k]? = some c) (hp:p c=false):s.all p=false:=by
  rw[List.all_eq_false]
  exact⟨c,List.mem_of_getElem? hc,by simp[hp]⟩
theorem ma_ (p:UInt8→Bool) (s:Str) (k:Nat) (hk:s.length≤k) (h:(s.take k).all p=true):s.all p=true:=by
  rwa [List.take_of_length_le hk]at h
theorem rT_ {m:Str} {r:List Value} {k:Nat} {c:UInt8} (h:m[k]? = some c):Sx.lg (Sx.bytesV m++r) k=some (.int .u8 (c.toNat:Int)):=by
  have hk:k<m.length:=(List.getElem?_eq_some_iff.1 h).1
  rw[Sx.lg_eq,List.getElem?_append_left (by simpa [Sx.bytesV] using hk)]
  simp[Sx.bytesV,h]
end Go.Vs
namespace Go.Vs
open Go Go.Sx
inductive Con where
  | mk (kind:Int) (name:Str) (lo hi:Int) (ad:Option Addr) (cap:Nat) (parts:List Con)
namespace Con
def kind:Con→Int|mk k _ _ _ _ _ _=>k
def name:Con→Str|mk _ n _ _ _ _ _=>n
def lo:Con→Int|mk _ _ l _ _ _ _=>l
def hi:Con→Int|mk _ _ _ h _ _ _=>h
def ad:Con→Option Addr|mk _ _ _ _ a _ _=>a
def cap:Con→Nat|mk _ _ _ _ _ c _=>c
def parts:Con→List Con|mk _ _ _ _ _ _ p=>p
def cells (c:Con):List Value:=[.int .i64 c.kind,str c.name,.int .i64 c.lo,.int .i64 c.hi,.slice c.ad c.parts.length c.cap]
def val (c:Con):Value:=.agg c.cells.toArray
theorem cells_len (c:Con):c.cells.length=5:=rfl
def sz:Con→Nat
  | mk _ _ _ _ _ _ ps=>1+szs ps
where szs:List Con→Nat
  | []=>0
  | p::ps=>sz p+szs ps
def mem:Con→Vw→Prop
  | mk _ _ _ _ a _ ps,v=>bv_ v a (ps.flatMap cells)∧mems ps v
where mems:List Con→Vw→Prop
  | [],_=>True
  | p::ps,v=>mem p v∧mems ps v
theorem no_ {v:Vw}:∀ {ps:List Con},mem.mems ps v↔∀ p∈ps,p.mem v
  | []=>by simp[mem.mems]
  | p::ps=>by simp[mem.mems,no_ (ps:=ps)]
theorem mem_iff (c:Con) (v:Vw):c.mem v↔bv_ v c.ad (c.parts.flatMap cells)∧∀ p∈c.parts,p.mem v:=by
  cases c with
  | mk k n l hi a cp ps=>simp only[mem,no_,ad,parts]
def ok:Con→Prop
  | mk k n l h _ c ps=>-9223372036854775808≤k∧k≤9223372036854775807∧n.length≤140737488351232∧-9223372036854775808≤l∧l≤9223372036854775807∧-9223372036854775808≤h∧h≤9223372036854775807∧ps.length≤c∧c≤2199023255488∧oks ps
where oks:List Con→Prop
  | []=>True
  | p::ps=>ok p∧oks ps
def fits:Con→Nat→Nat→Bool×Nat
  | mk _ _ _ _ _ _ ps,d,n=>if 8<d||64<n+1 then (false,n+1) else fitss ps (d+1) (n+1)
where fitss:List Con→Nat→Nat→Bool×Nat
  | [],_,n=>(true,n)
  | p::ps,d,n=>match fits p d n with
    | (true,m)=>fitss ps d m
    | (false,m)=>(false,m)
end Con
end Go.Vs
namespace Go.Sx
section
variable {P:Program} {N:Nf} {v0:Vw} {H0:Hp} {R:Exit→Act→World→Prop} {K:List Kt} {fr:Fr} {H:Hp} {Γ:List Fct}
variable {ops:Array Oper} {l:List Oper} {d:Nat} {ty:TypeId} {ps:String} {af:Array Edge}
open Go Go.Vs
end
end Go.Sx
namespace Go.Vs.Con
theorem take_snoc {ps:List Con} {p:Con} {i:Nat} (hp:ps[i]? = some p):ps.take (i+1)=ps.take i++[p]:=by rw[List.take_add_one,hp];rfl
end Go.Vs.Con
namespace Go.Vs
open Go Go.Sx
def needL:List (Int×Int×Int×Bool):=[(0,0,0,false),(0,0,0,false),(0,0,0,false),(1,0,0,false),(2,0,0,false),(0,2,8,false),(1,1,1,false),(1,0,0,true)]
def nd (k:Int):Int×Int×Int×Bool:=(needL[k.toNat]?).getD (0,0,0,false)
namespace Con
def fieldErr (c:Con):Int :=
  if c.kind<1∨7<c.kind then 21
  else if (c.parts.length:Int)<(nd c.kind).2.1∨(nd c.kind).2.2.1<(c.parts.length:Int)∨((nd c.kind).1=0∧c.name≠[]) then 21
  else if (nd c.kind).2.2.2=true∧(c.lo < -1099511627776∨c.hi<c.lo∨1099511627776<c.hi) then 21
  else if (nd c.kind).2.2.2=false∧(c.lo≠0∨c.hi≠0) then 21
  else if (nd c.kind).1=0∨ek_ c.name=true∨((nd c.kind).1=2∧dQ_ c.name=true) then 0
  else 20
def firstErr:Con→Int
  | c@(mk _ _ _ _ _ _ ps)=>if c.fieldErr=0 then firstErrs ps else c.fieldErr
where firstErrs:List Con→Int
  | []=>0
  | p::ps=>if firstErr p=0 then firstErrs ps else firstErr p
def check (c:Con):Int:=if (c.fits 0 0).1 then c.firstErr else 21
end Con
end Go.Vs
namespace Go.Sx
open Go Go.Vs
section
variable {P:Program} {N:Nat} {v0:Vw} {H0:Hp} {R:Exit→Act→World→Prop} {K:List Kt} {fr:Fr} {H:Hp} {Γ:List Fct}
theorem ret0 {fn:Func} {ι:Type} {F:Hp} {ret:ι→Value} {H':ι→Hp} {Γ':ι→List Fct} (hr:fn.results=#[]) (x:ι) (hx:.tuple #[]=ret x) (hH:H.Perm (H' x++F))
    (hΓ:∀ v,v.sat H→am_ Γ v→am_ (Γ' x) v):Ok N v0 H0 (bodyPost P fn (jy_ v0 H0 ret H' Γ') .ret) fr H Γ :=
  eA_ hH hΓ fun a v h1 h2 h3 h4=>⟨h1.defers,ret x,by rw[results_none hr,hx],x,v,rfl,rfl,h2,h4,h3⟩
theorem end0 {fn:Func} {ι:Type} {F:Hp} {ret:ι→Value} {H':ι→Hp} {Γ':ι→List Fct} (hr:fn.results=#[]) (x:ι) (hx:.tuple #[]=ret x) (hH:H.Perm (H' x++F))
    (hΓ:∀ v,v.sat H→am_ Γ v→am_ (Γ' x) v):Ok N v0 H0 (bodyPost P fn (jy_ v0 H0 ret H' Γ') .normal) fr H Γ :=
  ret0 hr x hx hH hΓ
variable {F:Fence} {n:Nat} {D:List Deferred} {ops:Array Oper} {l:List Oper} {d:Nat} {ty:TypeId} {ps:String} {af:Array Edge}
theorem rE_ {k:Act→World→Prop} {H' F:Hp} {Γ':List Fct} (hH:H.Perm (H'++F)) (hΓ:∀ v,v.sat H→am_ Γ v→am_ Γ' v) (h:OkD N D v0 H0 k fr H' Γ'):OkD N D v0 H0 k fr H Γ :=
  fun a v h1 h2 h3 h4=>h a v h1 (h2.perm hH).sub (h3.subR fun b hb=>by
    have:b∈(H'++F).map Prod.fst:=by rw[List.map_append];exact List.mem_append_left _ hb
    exact (hH.map Prod.fst).mem_iff.2 this) (hΓ v h2 h4)
theorem lE_ {ι:Type} {frs:ι→Fr} {Hs:ι→Hp} {Γs:ι→List Fct} (i:ι) {F:Hp} (hfr:Fr.le (frs i) fr) (hH:H.Perm (Hs i++F)) (hΓ:∀ v,v.sat H→am_ Γ v→am_ (Γs i) v) :
    OkD N [] v0 H0 (Mid N v0 H0 frs Hs Γs .normal) fr H Γ:=hi_.2 (iB_ i hfr hH hΓ)
end
end Go.Sx
namespace Go.Vs.Con
section
variable {σ τ:Type} {f:Con→σ→σ ⊕ τ}
end
end Go.Vs.Con
namespace Go.Sx
open Go
theorem jaf {A B:Bool} (h:A=false):false=(A&&B):=by rw[h];rfl
theorem jat {A B r:Bool} (h:A=true) (hb:B=r):r=(A&&B):=by rw[h,← hb];rfl
theorem jot {A B:Bool} (h:A=true):true=(A||B):=by rw[h];rfl
theorem jof {A B r:Bool} (h:A=false) (hb:B=r):r=(A||B):=by rw[h,← hb];rfl
section
variable {P:Program} {N:Nf} {v0:Vw} {H0:Hp} {R:Exit→Act→World→Prop} {K:List Kt} {fr:Fr} {H:Hp} {Γ:List Fct}
variable {ops:Array Oper} {l:List Oper}
theorem li_ {Q Q':Exit→Act→World→Prop} {o:Oper} {a:Act} {w:World} {K1 K2:Act→World→Prop} (h:∀ a w,K1 a w→K2 a w) (hp:∀ c a w,Q (.panic c) a w→Q' (.panic c) a w) (ho:∀ a w,Q .outgrown a w→Q' .outgrown a w)
    (hh:o.wp P a w K1 Q):o.wp P a w K2 Q':=by
  unfold Oper.wp at *
  generalize (execOp a.eval o).run P w=r at *
  cases r with
  | ok n w' =>
    cases n<;>simp only[Oper.upon]at hh ⊢ <;>
      first
        | exact h _ _ hh
        | exact Calls.mono hh (fun e w'' he=>by
            cases e with
            | returned v=>exact h _ _ he
            | panicked c=>exact hp _ _ _ he
            | outgrown=>obtain⟨a,w,q⟩:=he;exact⟨a,w,ho _ _ q⟩)
        | exact Rows.mono hh (fun _ _ he=>h _ _ he)
  | halt x w'=>cases x<;>simp only[Oper.upon]at hh ⊢<;>first|exact hp _ _ _ hh|exact hh
theorem hU_ {l2:List Oper}:∀ (l1:List Oper) (a:Act) (w:World),wpList P ops (post P R (.inv (wpList P ops (post P R K) l2)::K)) l1 a w→wpList P ops (post P R K) (l1++l2) a w
 | [],a,w,h=>h
 | o::l1,a,w,h=>by
   simp only[wpList,List.cons_append]at h ⊢
   split
   · rename_i hw
     rw[if_pos hw]at h
     rcases h with h|⟨h,a',w',q⟩
     · exact .inl (li_ (fun a w q=>hU_ l1 a w q) (fun c a w q=>q) (fun a w q=>q) h)
     · exact .inr ⟨h,a',w',q⟩
   · rename_i hw
     rw[if_neg hw]at h
     exact hU_ l1 _ _ h
def oX_:Nat→List Oper→List Oper
  | 0,_=>[]
  | _,[]=>[]
  | n+1,o::l=>o::oX_ n l
def pa_:Nat→List Oper→List Oper
  | 0,l=>l
  | _,[]=>[]
  | n+1,_::l=>pa_ n l
theorem ks_:∀ (n:Nat) (l:List Oper),oX_ n l++pa_ n l=l
  | 0,_=>rfl
  | n+1,[]=>rfl
  | n+1,o::l=>by show o::(oX_ n l++pa_ n l)=o::l;rw[ks_ n l]
def MetJ (N:Nf) (v0:Vw) (H0:Hp) (fr:Fr) (H:Hp) (Γ:List Fct) (a:Act) (w:World):Prop:=∃ v,v.w=w∧Fr.sat N fr a∧v.sat H∧v0.to H0 v H∧am_ Γ v
theorem de_ (n:Nat) (X:Bool) (fr':Bool→Fr) (h1:Ops P R N v0 H0 ops (oX_ n l) (.inv (MetJ N v0 H0 (fr' X) H Γ)::K) fr H Γ)
    (h2:∀ r,X=r→Ops P R N v0 H0 ops (pa_ n l) K (fr' r) H Γ):Ops P R N v0 H0 ops l K fr H Γ:=by
  intro a v g1 g2 g3 g4
  rw[← ks_ n l]
  refine hU_ _ _ _ ?_
  have h3:=h1 a v g1 g2 g3 g4
  refine wpL_mono ?_ _ _ _ h3
  rintro a' w' ⟨v',rfl,k1,k2,k3,k4⟩
  exact h2 X rfl a' v' k1 k2 k3 k4
where wpL_mono {J J':Act→World→Prop} (hJ:∀ a w,J a w→J' a w):∀ (l1:List Oper) (a:Act) (w:World),wpList P ops (post P R (.inv J::K)) l1 a w→wpList P ops (post P R (.inv J'::K)) l1 a w
  | [],a,w,h=>hJ _ _ h
  | o::l1,a,w,h=>by
    simp only[wpList]at h ⊢
    split
    · rename_i hw
      rw[if_pos hw]at h
      rcases h with h|⟨h,a',w',q⟩
      · exact .inl (li_ (fun a w q=>wpL_mono hJ l1 a w q) (fun c a w q=>q) (fun a w q=>q) h)
      · exact .inr ⟨h,a',w',q⟩
    · rename_i hw
      rw[if_neg hw]at h
      exact wpL_mono hJ l1 _ _ h
theorem met {fr':Fr} (hfr:Fr.le fr' fr):Ok N v0 H0 (MetJ N v0 H0 fr' H Γ) fr H Γ :=
  dC_ fr' hfr fun _ v h1 h2 h3 h4=>⟨v,rfl,h1,h2,h3,h4⟩
end
end Go.Sx
namespace Go.Sx
open Go
theorem t_ {α:Type} {f:α→List Value} {n:Nat} (hf:∀ x,(f x).length=n) {l:List α} {i:Nat} {x:α} (hx:l[i]? = some x):∀ j y,(f x)[j]? = some y→(l.flatMap f)[i*n+j]? = some y:=by
  intro j y hj
  have hlt:j<n:=by
    have:=(List.getElem?_eq_some_iff.1 hj).1
    rwa [hf]at this
  rw[mu_ f n hf l i j x hx hlt]
  exact hj
theorem G_ {α:Type} {f:α→List Value} {n:Nat} (hf:∀ x,(f x).length=n) (h0:0<n) {v:Vw} {ad:Option Addr} {l:List α} {i:Nat} {x:α} (h:bv_ v ad (l.flatMap f)) (hx:l[i]? = some x):∃ b off,ad=some ⟨b,off,none⟩:=by
  refine h.addr fun e=>?_
  have hc:=t_ hf hx 0 _ (List.getElem?_eq_getElem (by rw[hf];exact h0))
  rw[e]at hc
  simp at hc
def aV_ (s:List UInt8):List Value:=[str s]
theorem aD_ (s:List UInt8):(aV_ s).length=1:=rfl
end Go.Sx
namespace Go.Vs
open Go Go.Sx
structure Ax where
  kind:Int
  opn:Bool
  left:Con
  right:Con
  ad:Option Addr
  cap:Nat
  roles:List Str
  role:Str
  a:Str
  b:Str
namespace Ax
def cells (x:Ax):List Value:=.int .i64 x.kind::.bool x.opn::(x.left.cells++(x.right.cells++[.slice x.ad x.roles.length x.cap,str x.role,str x.a,str x.b]))
def val (x:Ax):Value:=.agg x.cells.toArray
theorem cells_len (x:Ax):x.cells.length=16:=by simp[cells,Con.cells_len]
def mem (x:Ax) (v:Vw):Prop:=x.left.mem v∧x.right.mem v∧bv_ v x.ad (x.roles.flatMap aV_)
structure ok (x:Ax):Prop where
  lo:-9223372036854775808≤x.kind
  hi:x.kind≤9223372036854775807
  left:x.left.ok
  right:x.right.ok
  len:x.roles.length≤x.cap
  cap:x.cap≤8796093021952
  roles:∀ r∈x.roles,r.length≤140737488351232
  role:x.role.length≤140737488351232
  a:x.a.length≤140737488351232
  b:x.b.length≤140737488351232
end Ax
def Con.empty (c:Con):Bool:=((((c.kind==0)&&(c.name==[]))&&(c.lo==0))&&(c.hi==0))&&((c.parts.length:Int)==0)
def Con.bare:Con→Bool
  | mk k _ _ _ _ _ ps=>(k==4)||((k==5)&&bares ps)
where bares:List Con→Bool
  | []=>false
  | p::ps=>bare p||bares ps
structure Use where
  left:Bool
  right:Bool
  role:Bool
  a:Bool
  b:Bool
  least:Int
  most:Int
def Use.cells (u:Use):List Value:=[.bool u.left,.bool u.right,.bool u.role,.bool u.a,.bool u.b,.int .i64 u.least,.int .i64 u.most]
theorem Use.cells_len (u:Use):u.cells.length=7:=rfl
def useL:List Use:=[⟨false,false,false,false,false,0,0⟩,⟨true,true,false,false,false,0,0⟩,⟨true,true,false,false,false,0,0⟩,⟨true,true,false,false,false,0,0⟩,⟨false,true,true,false,false,0,0⟩,
  ⟨false,false,true,false,false,1,1⟩,⟨false,false,true,false,false,2,4⟩,⟨false,false,true,false,false,0,0⟩,⟨false,true,false,true,false,0,0⟩,⟨false,false,true,true,true,0,0⟩]
def us (k:Int):Use:=(useL[k.toNat]?).getD ⟨false,false,false,false,false,0,0⟩
namespace Ax
def shaped (x:Ax):Bool :=
  if x.kind<1∨9<x.kind then false else
    let u:=us x.kind
    (((((((u.left||x.left.empty)&&(u.right||x.right.empty))&&(u.role||(x.role==[])))&&(u.a||(x.a==[])))&&(u.b||(x.b==[])))&&decide (u.least≤(x.roles.length:Int)))&&decide ((x.roles.length:Int)≤u.most))
def namedU (x:Ax) (u:Use):Bool:=!(u.role&&!ek_ x.role||u.a&&!ck_ x.a||u.b&&!ck_ x.b)&&x.roles.all ek_
def check (x:Ax):Int :=
  if x.shaped=false then 22
  else if x.namedU (us x.kind)=false then 20
  else if (us x.kind).left=true∧x.left.check≠0 then x.left.check
  else if (us x.kind).right=true∧x.right.check≠0 then x.right.check
  else if x.kind=2∧(x.left.bare=true∨x.right.bare=true) then 22
  else if (x.kind=1∨x.kind=4∨x.kind=8)∧x.right.bare=true then 22
  else 0
end Ax
end Go.Vs
namespace Go.Vs
open Go Go.Sx
structure NUse where
  a:Bool
  b:Bool
  c:Bool
  r:Bool
  s:Bool
  t:Bool
  numbers:Bool
def NUse.cells (u:NUse):List Value:=[.bool u.a,.bool u.b,.bool u.c,.bool u.r,.bool u.s,.bool u.t,.bool u.numbers]
theorem NUse.cells_len (u:NUse):u.cells.length=7:=rfl
def rI_:List NUse:=[⟨false,false,false,false,false,false,false⟩,⟨true,false,true,false,false,false,false⟩,⟨true,true,true,false,false,false,false⟩,⟨true,false,true,true,false,false,false⟩,⟨true,false,true,true,false,false,false⟩,
  ⟨false,false,false,true,false,true,false⟩,⟨false,false,false,true,true,true,false⟩,⟨false,false,false,true,false,false,false⟩,⟨true,false,false,true,false,false,true⟩,⟨false,false,true,true,false,false,true⟩]
def nus (k:Int):NUse:=(rI_[k.toNat]?).getD ⟨false,false,false,false,false,false,false⟩
end Go.Vs
namespace Go.Sx
open Go
def eu_ (b:Nat) (o:Obj):Fct where
  p:=fun v=>v.im b∧v.w.heap[b]? = some o
  mono:=fun v v' h hp=>⟨h.imUp b hp.1,by rw[h.block b hp.1];exact hp.2⟩
section
variable {P:Program} {N:Nf} {v0:Vw} {H0:Hp} {R:Exit→Act→World→Prop} {K:List Kt} {fr:Fr} {H:Hp} {Γ:List Fct}
variable {ops:Array Oper} {l:List Oper} {d:Nat} {ty:TypeId} {ps:String} {af:Array Edge}
theorem bR_ {t:TypeId} (hN:Nat.blt d N.n=true) (hk:∀ b,Ops P R N v0 H0 ops l K ((d,.map (some b))::fr) ((b,.map #[] 0)::H) Γ) :
    Ops P R N v0 H0 ops (⟨some d,.makeMap t none,ty,ps,af,none⟩::l) K fr H Γ :=
  gJ_ (x:=fun b=>.map (some b)) hN (fun a v h1 _ _=>by simp[execOp,Instr.makeMap,newObj];rfl) hk
def hv_ (P:Program) (k:TypeId) (key:Value):Prop:=∀ e w,(Instr.checkKey e 10000 k key).run P w=.ok () w
def dL_ (P:Program) (k:TypeId) (key:Value) (es:List MapEntry) (r:Option (Nat×Value)):Prop:=∀ w,(Instr.findKey k key es).run P w=.ok r w
theorem lP_ {k:TypeId} {dd:TypeDesc} {key:Value} {es:List MapEntry} {r:Option (Nat×Value)} (hd:P.underlying k=some dd) (h:Instr.findNow dd key es 0=some r):dL_ P k key es r:=fun w=>by
  simp[Instr.findKey,run_underlying hd,h]
theorem jQ_ {t kt et:TypeId} {x y:Operand} {b c i:Nat} {es:Array MapEntry} {key u:Value} (hu:∀ w,(underlying t).run P w=.ok (.map kt et) w) (hx:Fr.ev fr x=some (.map (some b))) (hy:Fr.ev fr y=some key)
    (hm:∀ v,v.sat H→am_ Γ v→v.w.heap[b]? = some (.map es c)) (hk:hv_ P kt key) (hf:dL_ P kt key es.toList (some (i,u))):Yld P N fr H Γ (.lookup t x y false) ty u :=
  fun a v h1 h2 h4 _ _ _=>by
    have hb:=MapKept.run_getObj_map (P:=P) (hm v h2 h4)
    simp[execOp,h1.ev hx,h1.ev hy,Instr.lookup,hu,hb,hk _ _,hf _]
theorem im_ {t kt et:TypeId} {x y:Operand} {b c:Nat} {es:Array MapEntry} {key z:Value} (hu:∀ w,(underlying t).run P w=.ok (.map kt et) w) (hz:∀ w,(zeroValue et).run P w=.ok z w) (hx:Fr.ev fr x=some (.map (some b))) (hy:Fr.ev fr y=some key)
    (hm:∀ v,v.sat H→am_ Γ v→v.w.heap[b]? = some (.map es c)) (hk:hv_ P kt key) (hf:dL_ P kt key es.toList none):Yld P N fr H Γ (.lookup t x y false) ty z :=
  fun a v h1 h2 h4 _ _ _=>by
    have hb:=MapKept.run_getObj_map (P:=P) (hm v h2 h4)
    simp[execOp,h1.ev hx,h1.ev hy,Instr.lookup,hu,hb,hk _ _,hf _,hz]
theorem hZ_ {o:Op} {t kt et:TypeId} {x y z:Operand} {b c:Nat} (i:Nat) {es:Array MapEntry} {key u:Value} (ho:o=.insert t x y z∨o=.mapUpdate t x y z) (hu:∀ w,(underlying t).run P w=.ok (.map kt et) w)
    (hx:Fr.ev fr x=some (.map (some b))) (hy:Fr.ev fr y=some key) (hz:Fr.ev fr z=some u) (hi:H[i]? = some (b,.map es c)) (hk:hv_ P kt key) (hf:dL_ P kt key es.toList none)
    (hkk:Ops P R N v0 H0 ops l K fr (H.set i (b,.map (es.push ⟨key,u,c⟩) (c+1))) Γ):Ops P R N v0 H0 ops (⟨none,o,ty,ps,af,none⟩::l) K fr H Γ :=
  dy_ rfl fun a v h1 h2 h3 h4=>by
    have hb:=(h2.own _ (List.mem_of_getElem? hi)).1
    have hg:=MapKept.run_getObj_map (P:=P) hb
    have hs:=MapKept.run_setObj_map (P:=P) (.map (es.push ⟨key,u,c⟩) (c+1)) hb
    have he:(execOp a.eval ⟨none,o,ty,ps,af,none⟩).run P v.w=.ok .skip { v.w with heap:=v.w.heap.setIfInBounds b (.map (es.push ⟨key,u,c⟩) (c+1)) }:=by
      rcases ho with rfl|rfl<;>simp[execOp,h1.ev hx,h1.ev hy,h1.ev hz,Instr.mapUpdate,hu,hg,hk _ _,hf _,hs]
    unfold Oper.wp
    rw[he]
    have hh:=MapKept.heap_set (o':=.map (es.push ⟨key,u,c⟩) (c+1)) hb
    obtain⟨g1,g2⟩:=gG_ (w':={ v.w with heap:=v.w.heap.setIfInBounds b (.map (es.push ⟨key,u,c⟩) (c+1)) }) h2 hi rfl rfl rfl (Nat.le_refl _) (by simp) hh.1 (fun k hk=>hh.2 k hk)
    exact hkk a _ h1 g1 (h3.trans g2) (bf_ (g2.le h2) h4)
theorem dp_ {f:FuncId} {args:Array Value} {r:Value} (hc:dM_ P f) (h:∀ v:Vw,v.sat H→am_ Γ v→Calls P f args v.w fun e w'=>e=.returned r∧RowKit.Below v.w.heap.size v.w w'∧(v.sl∨v.w.drawn≤w'.drawn)):Tri P f args H Γ (fun _:Unit=>r) (fun _=>H) (fun _=>[]) :=
  ⟨hc,fun v h1 h2=>(h v h1 h2).mono fun e w' ⟨he,hb,hd⟩=>by
    have hsz:v.w.heap.size≤w'.heap.size:=hb.size
    have hlt:∀ p∈H,p.1<v.w.heap.size:=fun p hp=>(Array.getElem?_eq_some_iff.1 (h1.own p hp).1).1
    refine⟨(),⟨v.im,w',v.sl⟩,he,rfl,⟨fun p hp=>⟨?_,(h1.own p hp).2⟩,h1.nodup,fun b hbb=>Nat.lt_of_lt_of_le (h1.lt b hbb) hsz⟩,trivial,⟨hb.os,hb.tape,hb.output,hsz,fun b hbb _=>hb.block b hbb,fun _ h=>h,fun _ h=>.inl h,fun _ h=>.inl h,rfl,hd⟩⟩
    show w'.heap[p.1]? = _
    rw[hb.block p.1 (hlt p hp)]
    exact (h1.own p hp).1⟩
theorem lQ_ {t e:TypeId} {sz by':Nat} {z:Value} (hu:P.underlying t=some (.slice e)) (hi:(P.info? e).map (fun i=>(i.zero,i.size,i.bytes))=some (some z,sz,by')) (hz:z.cells.size=sz) (hp:0<sz):Elt P t e sz by':=by
  refine⟨hu,?_,hp⟩
  cases h:P.info? e with
  | none=>rw[h]at hi;cases hi
  | some i =>
    rw[h]at hi
    simp only[Option.map_some,Option.some.injEq,Prod.mk.injEq]at hi
    exact⟨i,z,rfl,hi.1,hi.2.1,hi.2.2,hz⟩
theorem by_ {b:Nat} {cs:List Value} {T:TypeId} {fz:Nat×Nat} (i:Nat) (hi:H[i]? = some (b,.cells cs.toArray T fz)):∀ v:Vw,v.sat H→am_ Γ v→∀ j u,cs[j]? = some u→v.w.cell? ((⟨b,0,none⟩:Addr).add j)=some u:=by
  intro v h1 _ j u hj
  rw[dv_,Nat.zero_add,hh_ h1 hi]
  simpa using hj
theorem fy_ {N:Nat} {fn:Func} {ι:Type} {F:Hp} {ret:ι→Value} {H':ι→Hp} {Γ':ι→List Fct} (x:ι) (hx:∀ (a:Act) (v:Vw),Fr.sat N fr a→v.sat H→(results fn a.tmps).run P v.w=.ok (ret x) v.w) (hH:H.Perm (H' x++F))
    (hΓ:∀ v,v.sat H→am_ Γ v→am_ (Γ' x) v):Ok N v0 H0 (bodyPost P fn (jy_ v0 H0 ret H' Γ') .ret) fr H Γ :=
  fun a v h1 h2 h3 h4=>⟨h1.defers,ret x,hx a v h1 h2,x,v,rfl,rfl,(h2.perm hH).sub,hΓ v h2 h4,h3.subR fun b hb=>by
    have:b∈(H' x++F).map Prod.fst:=by rw[List.map_append];exact List.mem_append_left _ hb
    exact (hH.map Prod.fst).mem_iff.2 this⟩
theorem dk_ {fn:Func} {t b n:Nat} {ty T:TypeId} {us:List Value} (i:Nat) (hr:fn.results=#[.cell t ty]) (ha:∀ w,(isAgg ty).run P w=.ok true w) (hs:∀ w,(sizeOf ty).run P w=.ok n w) (hn:us.length=n) (hx:Fr.get fr t=some (.pointer (some ⟨b,0,none⟩)))
    (hi:H[i]? = some (b,.cells us.toArray T (0,0))) (a:Act) (v:Vw) (h1:Fr.sat N fr a) (h2:v.sat H):(results fn a.tmps).run P v.w=.ok (.agg us.toArray) v.w:=by
  have e:=h1.val t _ hx
  have hl:=ds_ (t:=ty) (w:=v.w) (b:=b) (off:=0) ha hs hn (fun j y hj=>by rw[Nat.zero_add,hh_ h2 hi];simpa using hj)
  simp[results,hr,e,asAddr,hl]
theorem sF_ {Hs:Hp} {Γs:List Fct} {fuel:Nat} {listed:Array Bool} (is:List Nat) (hr:Region.ready .any ops listed=is) (hne:is≠[])
    (h:∀ i,i∈is→∃ o,ops[i]? = some o∧Ops P R N v0 H0 ops [o] (.inv (Nx P R ops Hs Γs fuel (listed.setIfInBounds i true) K)::K) fr H Γ):Any P R N v0 H0 ops Hs Γs (fuel+1) listed K fr H Γ:=by
  intro a v h1 h2 h3 h4
  refine wpAnyH_all hr hne fun j hj=>?_
  obtain⟨o,hi,h⟩:=h j hj
  have:=h a v h1 h2 h3 h4
  unfold wpOp
  simp only[hi]
  unfold wpList at this
  split
  · rename_i hw
    rw[if_pos hw]at this
    rcases this with q|q
    · left
      unfold Oper.wp at q ⊢
      generalize (execOp a.eval o).run P v.w=r at q ⊢
      cases r with
      | ok n w' =>
        cases n<;>simp only[Oper.upon]at q ⊢<;>exact q
      | halt x w' =>
        cases x<;>simp only[Oper.upon]at q ⊢
        case panic u=>exact q
    · exact .inr q
  · rename_i hw
    rw[if_neg hw]at this
    exact this
theorem bW_ {Hs:Hp} {Γs:List Fct} {fuel:Nat} {listed:Array Bool} (i j:Nat) {o o':Oper} (hi:ops[i]? = some o) (hj:ops[j]? = some o') (hr:Region.ready .any ops listed=[i,j])
    (h:Ops P R N v0 H0 ops [o] (.inv (Nx P R ops Hs Γs fuel (listed.setIfInBounds i true) K)::K) fr H Γ) (h':Ops P R N v0 H0 ops [o'] (.inv (Nx P R ops Hs Γs fuel (listed.setIfInBounds j true) K)::K) fr H Γ):Any P R N v0 H0 ops Hs Γs (fuel+1) listed K fr H Γ :=
  sF_ [i,j] hr (by simp) fun k hk=>by
    simp only[List.mem_cons,List.not_mem_nil,or_false]at hk
    rcases hk with rfl|rfl
    · exact⟨o,hi,h⟩
    · exact⟨o',hj,h'⟩
theorem aE_.some {e:TypeId} {sz n:Nat} {sv:Value} {xs:List Value} {Hr:Hp} (h:aE_ e sz sv n xs Hr) (hn:n≠0) :
    ∃ g cap cur,sv=.slice (some ⟨g,0,none⟩) n cap∧Hr=[(g,.cells cur e (0,0))]∧n≤cap∧cap≤maxLen∧cur.size=cap*sz∧cur.toList.take (n*sz)=xs:=by
  rcases h.2 with⟨_,h2,_⟩|h2
  · exact absurd h2 hn
  · exact h2
theorem jE_ {us:List Value} (h:us.all Value.oneCell'=true):∀ u∈us,u.oneCell'=true:=fun u hu=>List.all_eq_true.1 h u hu
theorem ae_ {id:Nat} (Hs:Hp) (hm:P.follows .mixedOrders=true) (h:Any P R N v0 H0 ops Hs Γ ops.size (Array.replicate ops.size false) K fr H Γ):Run P R N v0 H0 (.region id ops true) K fr H Γ:=kc_ Hs Γ hm h
theorem pK_ {N:Nat} {fn:Func} {ι:Type} {F:Hp} {ret:ι→Value} {H':ι→Hp} {Γ':ι→List Fct} (x:ι) (hx:∀ (a:Act) (v:Vw),Fr.sat N fr a→v.sat H→am_ Γ v→(results fn a.tmps).run P v.w=.ok (ret x) v.w) (hH:H.Perm (H' x++F))
    (hΓ:∀ v,v.sat H→am_ Γ v→am_ (Γ' x) v):Ok N v0 H0 (bodyPost P fn (jy_ v0 H0 ret H' Γ') .ret) fr H Γ :=
  fun a v h1 h2 h3 h4=>⟨h1.defers,ret x,hx a v h1 h2 h4,x,v,rfl,rfl,(h2.perm hH).sub,hΓ v h2 h4,h3.subR fun b hb=>by
    have:b∈(H' x++F).map Prod.fst:=by rw[List.map_append];exact List.mem_append_left _ hb
    exact (hH.map Prod.fst).mem_iff.2 this⟩
theorem rH_ {b:Nat} {cs:List Value} {T:TypeId} {fz:Nat×Nat} {v:Vw} (j:Nat) {u:Value} (h:(eu_ b (.cells cs.toArray T fz)).p v) (hu:cs[j]? = some u):v.w.cell? ⟨b,j,none⟩=some u:=by
  simp[World.cell?,h.2,hu]
theorem lg_ {t:TypeId} {x:Operand} {b off:Nat} {cs:List Value} {T:TypeId} {fz:Nat×Nat} {u:Value} {ty:TypeId} (ha:∀ w,(isAgg t).run P w=.ok false w) (hx:Fr.ev fr x=some (.pointer (some ⟨b,off,none⟩))) (ho:∀ v,v.sat H→am_ Γ v→(eu_ b (.cells cs.toArray T fz)).p v) (hu:cs[off]? = some u):Yld P N fr H Γ (.load t x) ty u :=
  fm_ hx fun v h2 h4=>dr_ ha (rH_ off (ho v h2 h4) hu)
end
end Go.Sx
namespace Go.Vs
open Go Go.Sx
namespace Con
def text:Con→Str
  | mk k nm lo hi _ _ ps =>
    if k=1 then [101,118,101,114,121,116,104,105,110,103]
    else if k=2 then [110,111,116,104,105,110,103]
    else if k=3 then nm
    else if k=4 then [123]++nm++[125]
    else if k=5 then Lib.join (operands ps) [32,97,110,100,32]
    else if k=6 then Lib.join [[115,111,109,101],nm,(operands ps).headD []] [32]
    else Lib.join [nm,[105,110],Lib.itoa lo,[116,111],Lib.itoa hi] [32]
where operands:List Con→List Str
  | []=>[]
  | p::ps=>(if p.kind=5 then [40]++text p++[41] else text p)::operands ps
structure Fields (c:Con):Prop where
  k1:1≤c.kind
  k7:c.kind≤7
  nm:c.name.length≤24
  le:(nd c.kind).2.1≤c.parts.length
  mo:c.parts.length≤(nd c.kind).2.2.1
theorem pP_ {s:Str} (h:ek_ s=true):s.length≤24:=by
  unfold ek_ at h
  split at h<;>simp_all
theorem me_ {s:Str} (h:dQ_ s=true):s.length≤24:=by
  unfold dQ_ at h
  simp at h
  omega
theorem fields_of {c:Con} (h:c.fieldErr=0):Fields c:=by
 unfold fieldErr at h
 split at h
 ·cases h
 rename_i h1
 split at h
 ·cases h
 rename_i h2
 split at h
 ·cases h
 split at h
 ·cases h
 split at h
 ·rename_i h5
  simp only[not_or,not_and]at h1 h2
  refine⟨by omega,by omega,?_,by omega,by omega⟩
  rcases h5 with h5|h5|h5
  ·have:=h2.2.2 h5
   simp only[ne_eq,Decidable.not_not]at this
   rw[this];simp
  ·exact pP_ h5
  exact me_ h5.2
 cases h
def textN (c:Con):Str:=if c.check=0 then c.text else []
def atom (c:Con):Str :=
  if c.kind=1 then [42] else if c.kind=2 then [33] else if c.kind=3 then c.name else if c.kind=4 then [123]++c.name++[125] else [60]++c.textN++[62]
end Con
theorem pB_ {cur:Array Value} {n:Nat} {xs:List Str} (h:cur.toList.take (n*1)=xs.flatMap aV_):∀ (j:Nat) (x:Str),xs[j]? = some x→cur[j]? = some (str x):=by
 intro j x hj
 have h1:=t_ aD_ hj 0 (str x) rfl
 rw[← h,Nat.mul_one,Nat.add_zero]at h1
 rw[List.getElem?_take]at h1
 split at h1
 ·simpa using h1
 cases h1
end Go.Vs
namespace Go.Sx
open Go
section
variable {P:Program}
theorem hJ_ {d:Nat} {xs ys:Array Value} (w:World):(Op.eqFields d xs ys []).run P w=.ok true w:=by simp[Op.eqFields]
theorem bF_ {d : Nat} {xs ys : Array Value} {f : Field} {fs : List Field} {a b : Value} {r s : Bool} {w : World} (hn : (f.name == "_") = false) (hg : ∀ w, (isAgg f.type).run P w = .ok false w) (ha : xs[f.offset]? = some a) (hb : ys[f.offset]? = some b)
    (he:(Op.equalIn d f.type a b).run P w=.ok r w) (hr:(Op.eqFields d xs ys fs).run P w=.ok s w):(Op.eqFields d xs ys (f::fs)).run P w=.ok (r&&s) w:=by
  have hn' : f.name ≠ "_" := by simpa using hn
  simp only[Op.eqFields,hn',ne_eq,not_false_eq_true,if_true,part,Sem.run_bind,hg,Result.andThen_ok,Bool.false_eq_true,if_false,ha,hb,Sem.run_pure,he]
  cases r
  · simp
  · simpa using hr
theorem eqI {d:Nat} {t:TypeId} {k:IntKind} {a b:Int} (h:P.underlying t=some (.int k)) (w:World):(Op.equalIn (d+1) t (.int k a) (.int k b)).run P w=.ok (a==b) w:=run_equalIn_int w d t k k a b h
theorem eqS {d:Nat} {t:TypeId} {a b:List UInt8} (h:P.underlying t=some .string) (w:World):(Op.equalIn (d+1) t (str a) (str b)).run P w=.ok (a==b) w:=by
  have:=run_equalIn_string w d t ⟨a.toArray⟩ ⟨b.toArray⟩ h
  simp only[ByteArray.toList_eq]at this
  exact this
theorem ckF {e : Bool} {n : Nat} {t : TypeId} {fs : Array Field} {xs : Array Value} {w : World} (hu : P.underlying t = some (.struct fs)) (h : ∀ f ∈ fs.toList, (f.name == "_") = false ∧ (∀ w, (isAgg f.type).run P w = .ok false w) ∧ ∃ a, xs[f.offset]? = some a ∧ (∀ w, (Instr.checkKey e n f.type a).run P w = .ok () w)) :
    (Instr.checkKey e (n+1) t (.agg xs)).run P w=.ok () w:=by
  simp only[Instr.checkKey,Sem.run_bind,run_underlying hu,Result.andThen_ok]
  rw[← Array.forIn_toList]
  generalize fs.toList=l at h
  induction l with
  | nil=>simp
  | cons f l ih =>
    obtain⟨h1,h2,a,h3,h4⟩:=h f (by simp)
    have hn' : f.name ≠ "_" := by simpa using h1
    simp only[List.forIn_cons,hn',ne_eq,not_false_eq_true,if_true,part,Sem.run_bind,h2,Result.andThen_ok,Bool.false_eq_true,if_false,h3,Sem.run_pure,h4]
    exact ih fun g hg=>h g (by simp[hg])
theorem iG_ {α:Type} [DecidableEq α] {k:TypeId} {fs:Array Field} {val:α→Value} (hu:P.underlying k=some (.struct fs)) (heq:∀ p q w,(Op.equal k (val p) (val q)).run P w=.ok (decide (p=q)) w) (p:α) :
    ∀ (l:List α) (es:List MapEntry) (i:Nat),es.map (·.key)=l.map val→(p ∉ l→∀ w,(Instr.findAsking k (val p) es i).run P w=.ok none w)∧(p∈l→(∀ x∈es,x.val=.bool true)→∃ j,∀ w,(Instr.findAsking k (val p) es i).run P w=.ok (some (j,.bool true)) w)
  | [],es,i,h=>by
    have:es=[]:=by simpa using h
    subst this
    simp[Instr.findAsking]
  | q::l,[],i,h=>by simp at h
  | q::l,e::es,i,h=>by
    simp only[List.map_cons,List.cons.injEq]at h
    have ih:=iG_ hu heq p l es (i+1) h.2
    by_cases hpq:p=q
    · subst hpq
      refine⟨fun hn=>absurd List.mem_cons_self hn,fun _ hv=>⟨i,fun w=>?_⟩⟩
      simp only[Instr.findAsking,Sem.run_bind,h.1,heq,Result.andThen_ok,decide_true,if_true,Sem.run_pure,hv e (by simp)]
    · refine⟨fun hn w=>?_,fun hm hv=>?_⟩
      · simp only[Instr.findAsking,Sem.run_bind,h.1,heq,Result.andThen_ok,hpq,decide_false,Bool.false_eq_true,if_false]
        exact ih.1 (fun h=>hn (List.mem_cons_of_mem _ h)) w
      · obtain⟨j,hj⟩:=ih.2 (by simpa [hpq] using hm) fun x hx=>hv x (by simp[hx])
        refine⟨j,fun w=>?_⟩
        simp only[Instr.findAsking,Sem.run_bind,h.1,heq,Result.andThen_ok,hpq,decide_false,Bool.false_eq_true,if_false]
        exact hj w
theorem mv_ {α:Type} [DecidableEq α] {k:TypeId} {fs:Array Field} {val:α→Value} (hu:P.underlying k=some (.struct fs)) (heq:∀ p q w,(Op.equal k (val p) (val q)).run P w=.ok (decide (p=q)) w) (p:α) (l:List α) (es:List MapEntry) (h:es.map (·.key)=l.map val) :
    (p ∉ l→dL_ P k (val p) es none)∧(p∈l→(∀ x∈es,x.val=.bool true)→∃ j,dL_ P k (val p) es (some (j,.bool true))):=by
  have hA:=iG_ hu heq p l es 0 h
  have hnow:∀ (e:MapEntry) (r:List MapEntry),Instr.findNow (.struct fs) (val p) (e::r) 0=none:=fun e r=>by simp[Instr.findNow,Instr.sameNow]
  cases es with
  | nil =>
    have:l=[]:=by simpa using h.symm
    subst this
    exact⟨fun _ w=>by simp[Instr.findKey,run_underlying hu,Instr.findNow],fun h=>by simp at h⟩
  | cons e r =>
    refine⟨fun hn w=>?_,fun hm hv=>?_⟩
    · simp only[Instr.findKey,Sem.run_bind,run_underlying hu,Result.andThen_ok,hnow]
      exact hA.1 hn w
    · obtain⟨j,hj⟩:=hA.2 hm hv
      refine⟨j,fun w=>?_⟩
      simp only[Instr.findKey,Sem.run_bind,run_underlying hu,Result.andThen_ok,hnow]
      exact hj w
end
end Go.Sx
namespace Go.Vs
open Go Go.Sx
structure Pc where
  kind:Int
  a:Str
  b:Str
  c:Str
  r:Str
  s:Str
  t:Str
  lo:Int
  hi:Int
  frm:Int
  deriving DecidableEq
namespace Pc
def cells (p:Pc):List Value:=[.int .i64 p.kind,str p.a,str p.b,str p.c,str p.r,str p.s,str p.t,.int .i64 p.lo,.int .i64 p.hi,.int .i64 p.frm]
def val (p:Pc):Value:=.agg p.cells.toArray
theorem cells_len (p:Pc):p.cells.length=10:=rfl
theorem cells_one (p:Pc):p.cells.all Value.oneCell'=true:=rfl
def eqb (p q:Pc):Bool:=(p.kind==q.kind)&&((p.a==q.a)&&((p.b==q.b)&&((p.c==q.c)&&((p.r==q.r)&&((p.s==q.s)&&((p.t==q.t)&&((p.lo==q.lo)&&((p.hi==q.hi)&&((p.frm==q.frm)&&true)))))))))
theorem eqb_eq (p q:Pc):p.eqb q=decide (p=q):=by
  rw[Bool.eq_iff_iff]
  cases p;cases q
  simp[eqb]
end Pc
def ins (frm:Int) (l:List Pc) (p:Pc):List Pc:=if { p with frm:=frm }∈l then l else l++[{ p with frm:=frm }]
structure Fc where
  kind:Int
  a:Str
  b:Str
  r:Str
  lo:Int
  hi:Int
  deriving DecidableEq
namespace Fc
def cells (p:Fc):List Value:=[.int .i64 p.kind,str p.a,str p.b,str p.r,.int .i64 p.lo,.int .i64 p.hi]
def val (p:Fc):Value:=.agg p.cells.toArray
theorem cells_len (p:Fc):p.cells.length=6:=rfl
def eqb (p q:Fc):Bool:=(p.kind==q.kind)&&((p.a==q.a)&&((p.b==q.b)&&((p.r==q.r)&&((p.lo==q.lo)&&((p.hi==q.hi)&&true)))))
theorem eqb_eq (p q:Fc):p.eqb q=decide (p=q):=by
  rw[Bool.eq_iff_iff]
  cases p;cases q
  simp[eqb]
end Fc
end Go.Vs
namespace Go.Sx
open Go
theorem aY_ {P:Program} {N:Nf} {fr:Fr} {H:Hp} {Γ:List Fct} {op:Op} {ty:TypeId} {x y:Value} (h:Yld P N fr H Γ op ty x) (e:x=y):Yld P N fr H Γ op ty y:=e▸h
theorem pe_ {α:Type} (f:α→List Value) (n:Nat) (hf:∀ x,(f x).length=n):∀ (l:List α) (i:Nat),(l.flatMap f).drop (i*n)=(l.drop i).flatMap f
  | l,0=>by simp
  | [],i+1=>by simp
  | x::l,i+1=>by
    simp only[List.flatMap_cons,List.drop_succ_cons]
    rw[← pe_ f n hf l i,List.drop_append,hf,List.drop_of_length_le (by rw[hf,Nat.add_mul];omega),List.nil_append]
    congr 1
    rw[Nat.add_mul];omega
theorem pc_ {α:Type} (f:α→List Value) (n:Nat) (hf:∀ x,(f x).length=n):∀ (l:List α) (i:Nat),(l.flatMap f).take (i*n)=(l.take i).flatMap f
  | l,0=>by simp
  | [],i+1=>by simp
  | x::l,i+1=>by
    simp only[List.flatMap_cons,List.take_succ_cons]
    rw[← pc_ f n hf l i,List.take_append,hf,List.take_of_length_le (by rw[hf,Nat.add_mul];omega)]
    congr 2
    rw[Nat.add_mul];omega
theorem bv_.slice {α:Type} {f:α→List Value} {n:Nat} (hf:∀ x,(f x).length=n) {v:Vw} {ad:Option Addr} {l:List α} {cap:Nat} (h:bv_ v ad (l.flatMap f)) (hc:l.length≤cap) (i k:Nat):bv_ v (Sx.sad ad cap i n) (((l.drop i).take k).flatMap f):=by
 refine h.sad _ (fun j x hj=>?_) (by rw[bV_ f n hf];exact Nat.mul_le_mul_right _ hc)
 rw[← pc_ f n hf,← pe_ f n hf,List.getElem?_take]at hj
 split at hj
 ·rwa [List.getElem?_drop]at hj
 cases hj
end Go.Sx
namespace Go.Vs
open Go Go.Sx
namespace Con
def pre (c:Con) (j:Nat):Con:=.mk 5 [] 0 0 (sad c.ad c.cap 0 5) (c.cap - 0) (c.parts.take j)
end Con
end Go.Vs
namespace Go.Sx
open Go
theorem bv_.rest {α:Type} {f:α→List Value} {n:Nat} (hf:∀ x,(f x).length=n) {v:Vw} {ad:Option Addr} {l:List α} {cap:Nat} (h:bv_ v ad (l.flatMap f)) (hc:l.length≤cap) (i:Nat):bv_ v (Sx.sad ad cap i n) ((l.drop i).flatMap f):=by
  have:=h.slice hf hc i l.length
  rwa [List.take_of_length_le (by simp)]at this
end Go.Sx
namespace Go.Vs
open Go Go.Sx
namespace Ax
end Ax
end Go.Vs
namespace Go.Sx
open Go
section
variable {P:Program} {N:Nf} {v0:Vw} {H0:Hp} {R:Exit→Act→World→Prop} {K:List Kt} {fr:Fr} {H:Hp} {Γ:List Fct}
variable {ops:Array Oper} {l:List Oper} {d:Nat} {ty:TypeId} {ps:String} {af:Array Edge}
theorem kq_ {k:Act→World→Prop} {e:TypeId} {sz n:Nat} {sv:Value} {xs:List Value} {Hr F:Hp} (hr:aE_ e sz sv n xs Hr) (hH:H.Perm (Hr++F))
    (h:∀ ad cap,sv=.slice ad n cap→n≤cap→cap≤maxLen→Ok N v0 H0 k fr F (af_ ad xs::Γ)):Ok N v0 H0 k fr H Γ:=by
  rcases hr.2 with⟨h1,h2,h3⟩|⟨g,cap,cur,h1,h2,h3,h4,h5,h6⟩
  · subst h1 h2 h3
    have hx:xs=[]:=List.eq_nil_of_length_eq_zero (by simpa using hr.1)
    refine u_ hH (gj_ (Γ':=af_ none xs::Γ) (fun v _ hg=>⟨.inl hx,hg⟩) (h none 0 rfl (Nat.le_refl _) (Nat.zero_le _)))
  · subst h1 h2
    refine hD_ (af_ (some ⟨g,0,none⟩) xs) hH (fun v i1 i2 _=>.inr ⟨g,0,cur,e,(0,0),rfl,i1,i2,fun j x hj=>?_⟩) (h _ cap rfl h3 h4)
    rw[← h6,List.getElem?_take]at hj
    split at hj
    · rw[Nat.zero_add];simpa using hj
    · cases hj
end
end Go.Sx
namespace Go.Vs
open Go Go.Sx
end Go.Vs
namespace Go.Vs
open Go Go.Sx
def bS_ (c:UInt8):Str→List Str
  | []=>[[]]
  | b::s=>if b=c then []::bS_ c s else match bS_ c s with
    | h::t=>(b::h)::t
    | []=>[[b]]
def du_ (c:UInt8) (s:Str):Nat:=s.countP (·==c)
theorem lp_ (c:UInt8):∀ s,bS_ c s≠[]
 | []=>by simp[bS_]
 | b::s=>by
   simp only[bS_]
   split
   · simp
   · split<;>simp
theorem dI_ (c:UInt8):∀ s,(bS_ c s).length=du_ c s+1
 | []=>by simp[bS_,du_]
 | b::s=>by
   have ih:=dI_ c s
   simp only[bS_]
   by_cases h:b=c
   · simp only[h,if_true,List.length_cons,ih,du_,List.countP_cons,beq_self_eq_true]
   · simp only[h,if_false]
     cases hs:bS_ c s with
     | nil=>exact absurd hs (lp_ c s)
     | cons x t =>
       rw[hs]at ih
       simp only[List.length_cons]at ih ⊢
       simp only[du_,List.countP_cons,beq_iff_eq,h,if_false,Nat.add_zero]at ih ⊢
       exact ih
theorem hb_ {c:UInt8}:∀ {s:Str},ixS c s=none→bS_ c s=[s]
 | [],_=>rfl
 | b::s,h=>by
   simp only[ixS]at h
   split at h
   · cases h
   · rename_i hb
     have hs:ixS c s=none:=by simpa using h
     simp only[bS_,hb,if_false,hb_ hs]
theorem ha_ {c:UInt8}:∀ {s:Str} {k:Nat},ixS c s=some k→bS_ c s=s.take k::bS_ c (s.drop (k+1))
 | [],k,h=>by simp[ixS]at h
 | b::s,k,h=>by
   simp only[ixS]at h
   split at h
   · rename_i hb
     simp only[Option.some.injEq]at h
     subst h
     simp[bS_,hb]
   · rename_i hb
     cases hx:ixS c s with
     | none=>rw[hx]at h;simp at h
     | some j =>
       rw[hx]at h
       simp only[Option.map_some,Option.some.injEq]at h
       subst h
       simp only[bS_,hb,if_false,ha_ hx,List.take_succ_cons,List.drop_succ_cons]
theorem qp_ {c:UInt8} {s:Str} (h:ixS c s=none):du_ c s=0:=by
  have:=dI_ c s
  rw[hb_ h]at this
  simpa using this.symm
theorem lT_ {c:UInt8} {s:Str} {k:Nat} (h:ixS c s=some k):du_ c s=du_ c (s.drop (k+1))+1:=by
  have h1:=dI_ c s
  rw[ha_ h]at h1
  simp only[List.length_cons,dI_]at h1
  omega
theorem jL_ (c:UInt8) (s:Str):du_ c s≤s.length:=List.countP_le_length
def bJ_ (s:Str):Bool :=
  if s=[42]∨s=[33] then true
  else if 2≤s.length∧s[0]? = some 123∧s[s.length - 1]? = some 125 then ck_ ((s.drop 1).take (s.length - 1 - 1))
  else if 3≤s.length∧s[0]? = some 60∧s[s.length - 1]? = some 62 then true
  else ck_ s
def dB_ (s:Str):Bool:=decide ((bS_ 46 s).length≤4)&&!((bS_ 46 s).any fun r=>!ck_ r)
def cr_ (used:Bool) (s:Str) (q:Str→Bool):Bool:=(used&&q s)||(!used&&(s==[]))
def Pc.valid (p:Pc):Bool :=
  if p.kind<1∨9<p.kind∨p.frm < -1∨1024≤p.frm then false
  else if (nus p.kind).numbers=true∧(p.lo < -1099511627776∨p.hi<p.lo∨1099511627776<p.hi) then false
  else if (nus p.kind).numbers=false∧(p.lo≠0∨p.hi≠0) then false
  else ((((cr_ (nus p.kind).a p.a bJ_&&cr_ (nus p.kind).b p.b bJ_)&&cr_ (nus p.kind).c p.c bJ_)&&cr_ (nus p.kind).r p.r (if (nus p.kind).numbers then ck_ else dB_))&&cr_ (nus p.kind).s p.s dB_)&&cr_ (nus p.kind).t p.t dB_
structure Pc.sm (p:Pc):Prop where
  a:p.a.length≤17592186044414
  b:p.b.length≤17592186044414
  c:p.c.length≤17592186044414
  r:p.r.length≤17592186044414
  s:p.s.length≤17592186044414
  t:p.t.length≤17592186044414
def Pc.smB (p:Pc):Bool:=Nat.ble p.a.length 17592186044414&&(Nat.ble p.b.length 17592186044414&&(Nat.ble p.c.length 17592186044414&&(Nat.ble p.r.length 17592186044414&&(Nat.ble p.s.length 17592186044414&&Nat.ble p.t.length 17592186044414))))
theorem Pc.sm_all {l:List Pc} (h:l.all Pc.smB=true):∀ p∈l,p.sm:=fun p hp=>by
  have:=List.all_eq_true.1 h p hp
  simp only[Pc.smB,Bool.and_eq_true,Nat.ble_eq]at this
  exact⟨this.1,this.2.1,this.2.2.1,this.2.2.2.1,this.2.2.2.2.1,this.2.2.2.2.2⟩
def cV_ (l:List Pc):Int:=if 16384<l.length then 2 else if l.all Pc.valid then 0 else 1
end Go.Vs
namespace Go.Sx
open Go
section
variable {H r r' d t:Hp} {b:Nat×Obj} {O:Hp}
theorem m_:H.Perm ([]++H):=.refl _
theorem d_:(b::r).Perm ([b]++r):=.refl _
theorem l_:(O++r).Perm (O++r):=.refl _
theorem c_ (h:H.Perm (t++r)):(b::H).Perm (t++(b::r)):=(h.cons b).trans List.perm_middle.symm
theorem e_ (h:H.Perm (t++r)):(O++H).Perm (t++(O++r)):=(List.Perm.append_left O h).trans (by
  rw[← List.append_assoc,← List.append_assoc]
  exact List.Perm.append_right r List.perm_append_comm)
theorem g_ (h1:H.Perm ([b]++r)) (h2:r.Perm (d++r')):H.Perm ((b::d)++r'):=h1.trans (h2.cons b)
theorem p_ (h1:H.Perm (O++r)) (h2:r.Perm (d++r')):H.Perm ((O++d)++r'):=by
  rw[List.append_assoc]
  exact h1.trans (List.Perm.append_left O h2)
theorem ay_:H.Perm (H++[]):=by rw[List.append_nil]
end
theorem ir_:∀ xs:List (List UInt8),xs.flatMap aV_=xs.map str
  | []=>rfl
  | x::xs=>by simp only[List.flatMap_cons,ir_ xs,List.map_cons];rfl
def N_ (n:Int):List Value:=[.int .i64 n]
theorem D_ (n:Int):(N_ n).length=1:=rfl
section
variable {P:Program} {N:Nf} {v0:Vw} {H0:Hp} {R:Exit→Act→World→Prop} {K:List Kt} {fr:Fr} {H:Hp} {Γ:List Fct}
theorem aB_ {k:Act→World→Prop} {b:Nat} {cs:List Value} {T:TypeId} {fz:Nat×Nat} {F:Hp} (xs:List Value) (hH:H.Perm ([(b,.cells cs.toArray T fz)]++F)) (hx:cs=xs) (h:Ok N v0 H0 k fr F (af_ (some ⟨b,0,none⟩) xs::Γ)):Ok N v0 H0 k fr H Γ :=
  hD_ (af_ (some ⟨b,0,none⟩) xs) hH (fun v h1 h2 _=>.inr ⟨b,0,cs.toArray,T,fz,rfl,h1,h2,fun j x hj=>by rw[Nat.zero_add,hx];simpa using hj⟩) h
theorem oU_ {k:Act→World→Prop} (f:Fct) (hf:∀ v,v.sat H→am_ Γ v→f.p v) (h:Ok N v0 H0 k fr H (f::Γ)):Ok N v0 H0 k fr H Γ :=
  gj_ (Γ':=f::Γ) (fun v h1 h2=>⟨hf v h1 h2,h2⟩) h
theorem satNil {v:Vw} (h:v.sat H):v.sat []:=⟨(fun _ h=>by cases h),(by simp),h.lt⟩
variable {ops:Array Oper} {l:List Oper} {d:Nat} {ty:TypeId} {ps:String} {af:Array Edge}
theorem oI_ {x y:Operand} {t t':TypeId} {m n:Int} (hx:Fr.ev fr x=some (.int .i64 m)) (hy:Fr.ev fr y=some (.int .i64 n)) :
    Yld P N fr H Γ (.call ⟨.builtin .min,#[x,y],#[t,t']⟩) ty (.int .i64 (if n<m then n else m)) :=
  fun a v h1 h2 _ _ _ _=>by simp[execOp,resolve,invoke,builtin,Builtin.min_,Builtin.min2,h1.ev hx,h1.ev hy]
theorem sO_ {x y:Operand} {t t':TypeId} {m n:Int} (hx:Fr.ev fr x=some (.int .i64 m)) (hy:Fr.ev fr y=some (.int .i64 n)) :
    Yld P N fr H Γ (.call ⟨.builtin .max,#[x,y],#[t,t']⟩) ty (.int .i64 (if m<n then n else m)) :=
  fun a v h1 h2 _ _ _ _=>by simp[execOp,resolve,invoke,builtin,Builtin.max_,Builtin.max2,h1.ev hx,h1.ev hy]
theorem tu_ (z:Value) (n:Nat):madeCells #[z] (n*1)=(List.replicate n z).toArray:=by
 unfold madeCells
 apply Array.ext
 ·simp
 intro i h1 h2
 simp at h1 h2 ⊢
 have:i%1=0:=Nat.mod_one i
 simp[this]
theorem pU_ {t e:TypeId} {x y:Operand} {n by':Nat} {z:Value} (ht:P.underlying t=some (.slice e)) (hi:(P.info? e).map (fun i=>(i.zero,i.size,i.bytes))=some (some z,1,by')) (hz:z.cells=#[z]) (hx:Fr.ev fr x=some (.int .i64 (n:Int))) (hy:Fr.ev fr y=some (.int .i64 (n:Int)))
    (hb:by'*n≤281474976710656) (h63:n≤9223372036854775807) (hN:Nat.blt d N.n=true)
    (hk:∀ b,Ops P R N v0 H0 ops l K ((d,.slice (some ⟨b,0,none⟩) n n)::fr) ((b,.cells (List.replicate n z).toArray e (0,0))::H) Γ):Ops P R N v0 H0 ops (⟨some d,.makeSlice t x y,ty,ps,af,none⟩::l) K fr H Γ:=by
  refine gJ_ (x:=fun b=>.slice (some ⟨b,0,none⟩) n n) hN (fun a v h1 _ _=>?_) hk
  cases h:P.info? e with
  | none=>rw[h]at hi;cases hi
  | some i =>
    rw[h]at hi
    simp only[Option.map_some,Option.some.injEq,Prod.mk.injEq]at hi
    have hb':(i.bytes:Int)*(n:Int)≤281474976710656:=by
      rw[hi.2.2]
      have h:((by'*n:Nat):Int)≤281474976710656:=by omega
      rwa [Int.natCast_mul]at h
    have hr:=run_make (P:=P) v.w t e i z ht h hi.1 .i64 .i64 (n:Int) (n:Int) (by omega) (Int.le_refl _) hb' (by omega)
    rw[hi.2.1,hz,Int.toNat_natCast,tu_]at hr
    simp only[execOp,h1.ev hx,h1.ev hy]
    simp[hr]
theorem kk_ {t:TypeId} {x y:Operand} {b off:Nat} (i:Nat) {l1 l2:List Value} {z u:Value} {T:TypeId} (hs:∀ w,(sizeOf t).run P w=.ok 1 w)
    (hx:Fr.ev fr x=some (.pointer (some ⟨b,off,none⟩))) (hy:Fr.ev fr y=some u) (hi:H[i]? = some (b,.cells (l1++z::l2).toArray T (0,0))) (ho:off=l1.length) (hu:u.cells=#[u]) (h1c:u.oneCell'=true)
    (hk:Ops P R N v0 H0 ops l K fr (H.set i (b,.cells (l1++u::l2).toArray T (0,0))) Γ) :
    Ops P R N v0 H0 ops (⟨none,.store t x y,ty,ps,af,none⟩::l) K fr H Γ:=by
  subst ho
  refine z_ i hs hx hy hi (by rw[hu];rfl) (by simp) (by rw[hu];simpa using h1c) ?_
  have e:(((l1++z::l2).toArray.toList.take l1.length++u.cells.toList++(l1++z::l2).toArray.toList.drop (l1.length+1)).toArray)=(l1++u::l2).toArray:=by
    rw[hu]
    have e2:(l1++z::l2).drop (l1.length+1)=l2:=by
      rw[← List.drop_drop];simp
    simp[e2]
  rw[e]
  exact hk
theorem qU_ {b cap n:Nat}:sad (some ⟨b,0,none⟩) cap 0 n=some ⟨b,0,none⟩:=by unfold sad;split<;>simp[dv_]
end
theorem ep_ {cs us ws:List Value} {k:Nat} (off:Nat) (h:∀ j y,us[j]? = some y→cs[k+j]? = some y) (hw:∀ (j:Nat) y,ws[j]? = some y→us[off+j]? = some y):∀ j y,ws[j]? = some y→cs[k+off+j]? = some y:=fun j y hj=>by
  rw[Nat.add_assoc];exact h _ _ (hw j y hj)
end Go.Sx
namespace Go.Sx
open Go
section
variable {P:Program} {N:Nf} {v0:Vw} {H0:Hp} {R:Exit→Act→World→Prop} {K:List Kt} {fr:Fr} {H:Hp} {Γ:List Fct}
variable {ops:Array Oper} {l:List Oper} {d:Nat} {ty:TypeId} {ps:String} {af:Array Edge}
theorem bs_ {x y:Operand} {t e:TypeId} {sz by' n m c:Nat} {sv:Value} {xs news:List Value} {Hr F:Hp} {ad:Option Addr} (he:Elt P t e sz by') (hrow:aE_ e sz sv n xs Hr)
    (hx:Fr.ev fr x=some sv) (hy:Fr.ev fr y=some (.slice ad m c)) (hz:ad=none→c=0) (hmc:m≤c) (hH:H.Perm (Hr++F)) (hl:news.length=m*sz) (hnews:∀ v,v.sat H→am_ Γ v→bv_ v ad news) (h1c:∀ u∈news,u.oneCell'=true)
    (h63:n+m≤maxLen) (hb:(n+m)*by'≤140737488355328) (hN:Nat.blt d N.n=true)
    (hk:∀ sv' Hr',aE_ e sz sv' (n+m) (xs++news) Hr'→Ops P R N v0 H0 ops l K ((d,sv')::fr) (Hr'++F) Γ) :
    Ops P R N v0 H0 ops (⟨some d,.call ⟨.builtin .append,#[x,y],#[t,t]⟩,ty,ps,af,none⟩::l) K fr H Γ:=by
  cases ad with
  | none =>
    obtain rfl:=hz rfl
    obtain rfl:m=0:=by omega
    obtain rfl:news=[]:=List.eq_nil_of_length_eq_zero (by simpa using hl)
    refine dy_ rfl fun a v h1 h2 h3 h4=>?_
    obtain⟨i,z,hi,hz,es,eb,ez⟩:=he.info
    have g:=h2.perm hH
    have ho:=hrow.owns g
    have hr:=run_append_owned_none (P:=P) (w:=v.w) 0 t ty e i sz he.und hi sv n xs ho
    unfold Oper.wp execOp
    simp only[resolve,invoke,builtin,Sem.run_bind,Sem.run_pure,Result.andThen_ok,List.map_toArray,List.map_cons,List.map_nil,h1.ev hx,h1.ev hy,hr]
    have T:v.to H v (Hr++F):=(Vw.to.refl v (Hr++F)).permL hH.symm
    exact hk sv Hr (by simpa using hrow) _ v (h1.put hN) g (h3.trans T) h4
  | some a0 =>
    refine ao_ he hrow hx hy hH hl (fun v h2 h4 j u hj=>?_) h1c h63 hb hN hk
    rcases hnews v h2 h4 with h|⟨b,off,arr,T,fz,h1,_,h3,h5⟩
    · rw[h]at hj;simp at hj
    · rw[Option.some.injEq]at h1
      subst h1
      have:=h5 j u hj
      rw[dv_]
      simp[World.cell?,h3,this]
theorem dT_ {t e:TypeId} {sz:Nat} (hu:∀ w,(underlying t).run P w=.ok (.slice e) w) (hs:∀ w,(sizeOf e).run P w=.ok sz w) (hN:Nat.blt d N.n=true)
    (hk:∀ b,Ops P R N v0 H0 ops l K ((d,.slice (some ⟨b,0,none⟩) 0 0)::fr) ((b,.cells #[] e (0,0))::H) Γ):Ops P R N v0 H0 ops (⟨some d,.buildSlice t 0 #[],ty,ps,af,none⟩::l) K fr H Γ :=
  gJ_ (x:=fun b=>.slice (some ⟨b,0,none⟩) 0 0) hN (fun a v h1 h2 h4=>by
    simp only[execOp,Instr.buildSlice,Sem.run_bind,hu,Result.andThen_ok,hs,List.map_toArray]
    rw[if_neg (by omega),if_pos (by omega),Nat.zero_mul,show Array.range 0=#[] by simp]
    simp only[Sem.run_bind,Sem.run_pure,Result.andThen_ok,List.map_nil,List.map_toArray,List.toList_toArray,Instr.fill]
    rfl) hk
theorem bk_ {k:Act→World→Prop} {e:TypeId} {sz n:Nat} {sv:Value} {xs:List Value} {Hr F:Hp} (hr:aE_ e sz sv n xs Hr) (hH:H.Perm (Hr++F))
    (h:∀ ad cap,sv=.slice ad n cap→n≤cap→cap≤maxLen→(ad=none→cap=0)→Ok N v0 H0 k fr F (af_ ad xs::Γ)):Ok N v0 H0 k fr H Γ:=by
  refine kq_ hr hH fun ad cap e1 e2 e3=>h ad cap e1 e2 e3 fun e4=>?_
  rcases hr.2 with⟨h1,_,_⟩|⟨g,c,cur,h1,_⟩
  · rw[h1]at e1
    simp only[Value.slice.injEq]at e1
    exact e1.2.2.symm
  · rw[h1,e4]at e1
    simp at e1
theorem fx_ {cap i n:Nat} {ad:Option Addr} (h:sad ad cap i n=none):ad=none:=by
 unfold sad at h
 split at h
 ·exact h
 simpa using h
end
end Go.Sx
namespace Go.Sx
open Go
section
variable {P:Program} {N:Nf} {fr:Fr} {H:Hp} {Γ:List Fct} {ty:TypeId} {e:TypeId} {sz n:Nat} {sv:Value} {xs:List Value} {Hr F:Hp}
theorem dS_ {O:Hp}:List.Perm (O++[]) O:=by rw[List.append_nil]
theorem V_ {O Q:Hp}:List.Perm (Q++O) (O++Q):=List.perm_append_comm
theorem F_ {O:Hp} {b:Nat×Obj}:List.Perm (b::O) (O++[b]):=List.perm_append_comm (l₁:=[b])
theorem oR_ {H:Hp}:List.Perm ([]++H) H:=.refl _
def svB:Value→Nat
  | .slice (some a) _ _=>a.block
  | _=>0
theorem ch_ {x:Operand} {t e':TypeId} (hrow:aE_ e sz sv n xs Hr) (hu:∀ w,(underlying t).run P w=.ok (.slice e') w) (hx:Fr.ev fr x=some sv):Yld P N fr H Γ (.call ⟨.builtin .len,#[x],#[t]⟩) ty (.int .i64 (n:Int)):=by
 rcases hrow.2 with⟨rfl,rfl,_⟩|⟨g,cap,cur,rfl,_⟩
 ·exact dX_ hu hx
 exact dX_ hu hx
theorem ah_ {x y:Operand} {t e':TypeId} {k:IntKind} {i:Int} (hrow:aE_ e sz sv n xs Hr) (hu:∀ w,(underlying t).run P w=.ok (.slice e') w) (hs:∀ w,(sizeOf e').run P w=.ok sz w) (hx:Fr.ev fr x=some sv) (hy:Fr.ev fr y=some (.int k i)) (h0:0≤i) (hl:i<n) :
    Yld P N fr H Γ (.indexAddr t x y) ty (.pointer (some ⟨svB sv,i.toNat*sz,none⟩)):=by
  rcases hrow.2 with⟨_,h2,_⟩|⟨g,cap,cur,rfl,_⟩
  · omega
  · have:=hy_ (P:=P) (N:=N) (H:=H) (Γ:=Γ) (ty:=ty) hu hs hx hy h0 hl
    rw[Nat.zero_add]at this
    exact this
theorem fZ_ {x:Operand} {t:TypeId} {k m:Nat} {us:List Value} (hrow:aE_ e sz sv n xs Hr) (hH:H.Perm (Hr++F)) (ha:∀ w,(isAgg t).run P w=.ok true w) (hs:∀ w,(sizeOf t).run P w=.ok m w) (hx:Fr.ev fr x=some (.pointer (some ⟨svB sv,k,none⟩)))
    (hn:us.length=m) (hp:0<m) (hu:∀ j y,us[j]? = some y→xs[k+j]? = some y):Yld P N fr H Γ (.load t x) ty (.agg us.toArray):=by
  rcases hrow.2 with⟨_,h2,_⟩|⟨g,cap,cur,rfl,rfl,h3,h4,h5,h6⟩
  · subst h2
    have h1:=hrow.1
    have:xs=[]:=List.eq_nil_of_length_eq_zero (by simpa using h1)
    subst this
    have:=hu 0 us[0] (List.getElem?_eq_getElem (by omega))
    simp at this
  · refine fm_ hx fun v h2 _=>ds_ ha hs hn fun j y hj=>?_
    have hb:=((h2.perm hH).own _ (List.mem_append_left _ List.mem_cons_self)).1
    have hc:=hu j y hj
    rw[← h6,List.getElem?_take]at hc
    split at hc
    · have hc':cur[k+j]? = some y:=by simpa using hc
      simp only[svB,World.cell?,hb,Option.isSome_none,Bool.false_eq_true,if_false]
      exact hc'
    · cases hc
end
end Go.Sx
namespace Go.Sx
open Go
section
variable {P:Program} {N:Nf} {fr:Fr} {H:Hp} {Γ:List Fct} {ty:TypeId} {e:TypeId} {sz n:Nat} {sv:Value} {xs:List Value} {Hr F:Hp}
theorem av_ {x:Operand} {t:TypeId} {k:Nat} {u:Value} (hrow:aE_ e sz sv n xs Hr) (hH:H.Perm (Hr++F)) (ha:∀ w,(isAgg t).run P w=.ok false w) (hx:Fr.ev fr x=some (.pointer (some ⟨svB sv,k,none⟩)))
    (hu:xs[k]? = some u):Yld P N fr H Γ (.load t x) ty u:=by
  rcases hrow.2 with⟨_,h2,_⟩|⟨g,cap,cur,rfl,rfl,h3,h4,h5,h6⟩
  · subst h2
    have:xs=[]:=List.eq_nil_of_length_eq_zero (by simpa using hrow.1)
    subst this;simp at hu
  · refine fm_ hx fun v h2 _=>dr_ ha ?_
    have hb:=((h2.perm hH).own _ (List.mem_append_left _ List.mem_cons_self)).1
    rw[← h6,List.getElem?_take]at hu
    split at hu
    · have hc':cur[k]? = some u:=by simpa using hu
      simp only[svB,World.cell?,hb,Option.isSome_none,Bool.false_eq_true,if_false]
      exact hc'
    · cases hu
theorem eQ_ (h:aE_ e sz sv n xs Hr):sv.cells=#[sv]∧sv.oneCell'=true:=by
  rcases h.2 with⟨rfl,_⟩|⟨g,cap,cur,rfl,_⟩<;>exact⟨rfl,rfl⟩
theorem dq_ {v0:Vw} {H0:Hp} {R:Exit→Act→World→Prop} {K:List Kt} {ops:Array Oper} {l:List Oper} {ps:String} {af:Array Edge} {t:TypeId} {x y:Operand} {b off:Nat} (i:Nat) {cur:Array Value} {T:TypeId} (hrow:aE_ e sz sv n xs Hr) (hs:∀ w,(sizeOf t).run P w=.ok 1 w)
    (hx:Fr.ev fr x=some (.pointer (some ⟨b,off,none⟩))) (hy:Fr.ev fr y=some sv) (hi:H[i]? = some (b,.cells cur T (0,0))) (hf:Nat.ble (off+1) cur.size=true)
    (hk:Ops P R N v0 H0 ops l K fr (H.set i (b,.cells (cur.toList.take off++[sv]++cur.toList.drop (off+1)).toArray T (0,0))) Γ):Ops P R N v0 H0 ops (⟨none,.store t x y,ty,ps,af,none⟩::l) K fr H Γ :=
  z_ i hs hx hy hi (by rw[(eQ_ hrow).1];rfl) hf (by rw[(eQ_ hrow).1];simp[(eQ_ hrow).2]) (by rw[(eQ_ hrow).1];exact hk)
theorem cC_ {x y:Operand} {t t':TypeId} {m k:Int} (hx:Fr.ev fr x=some (.int .i64 m)) (hy:Fr.ev fr y=some (.int .i64 k)):Yld P N fr H Γ (.call ⟨.builtin .max,#[x,y],#[t,t']⟩) ty (.int .i64 (max m k)):=by
  have e:(if m<k then k else m)=max m k:=by split<;>omega
  exact e▸sO_ hx hy
theorem dg_ {x y:Operand} {t t':TypeId} {m k:Int} (hx:Fr.ev fr x=some (.int .i64 m)) (hy:Fr.ev fr y=some (.int .i64 k)):Yld P N fr H Γ (.call ⟨.builtin .min,#[x,y],#[t,t']⟩) ty (.int .i64 (min m k)):=by
  have e:(if k<m then k else m)=min m k:=by split<;>omega
  exact e▸oI_ hx hy
theorem bG_ {b:Nat} {cs:List Value} {T:TypeId} {fz:Nat×Nat} (hp:H.Perm ([(b,.cells cs.toArray T fz)]++F)):∀ v:Vw,v.sat H→am_ Γ v→∀ j u,cs[j]? = some u→v.w.cell? ((⟨b,0,none⟩:Addr).add j)=some u:=by
  intro v h1 h2 j u hj
  exact by_ (Γ:=Γ) 0 rfl v (h1.perm hp) h2 j u hj
theorem ar_ {α:Type} {f:α→List Value} (hf:∀ x,(f x).all Value.oneCell'=true) {l:List α} {u:Value} (h:u∈l.flatMap f):u.oneCell'=true:=by
  obtain⟨y,_,hy⟩:=List.mem_flatMap.1 h
  exact List.all_eq_true.1 (hf y) u hy
end
end Go.Sx
namespace Go.Sx
open Go
section
variable {P:Program} {N:Nf} {v0:Vw} {H0:Hp} {R:Exit→Act→World→Prop} {K:List Kt} {fr:Fr} {H F:Hp} {Γ:List Fct} {ops:Array Oper} {l:List Oper} {ty:TypeId} {ps:String} {af:Array Edge} {e:TypeId} {sz n:Nat} {sv:Value} {xs:List Value} {Hr:Hp}
theorem qJ_ {α:Type} (l:List α) (k m:Nat) (u:α) (hk:k<m) (hm:m≤l.length):(l.take k++[u]++l.drop (k+1)).take m=(l.take m).set k u:=by
 apply List.ext_getElem?
 intro j
 rw[List.getElem?_take,List.getElem?_set,List.length_take]
 by_cases hj:j<m
 ·rw[if_pos hj]
  by_cases h1:j<k
  ·rw[if_neg (by omega),List.append_assoc,List.getElem?_append_left (by rw[List.length_take];omega),List.getElem?_take,if_pos h1,List.getElem?_take,if_pos hj]
  by_cases h2:j=k
  ·subst h2
   rw[if_pos rfl,if_pos (by omega),List.append_assoc,List.getElem?_append_right (by rw[List.length_take];omega),List.length_take,Nat.min_eq_left (by omega),Nat.sub_self];rfl
  rw[if_neg (by omega),List.getElem?_append_right (by rw[List.length_append,List.length_take,List.length_singleton];omega),List.length_append,List.length_take,List.length_singleton,List.getElem?_drop,List.getElem?_take,if_pos hj,Nat.min_eq_left (by omega)]
  congr 1;omega
 rw[if_neg hj,if_neg (by omega),List.getElem?_take,if_neg hj]
theorem bQ_ {t:TypeId} {x y:Operand} {k:Nat} {u:Value} (hrow:aE_ e sz sv n xs Hr) (hH:H.Perm (Hr++F)) (hs:∀ w,(sizeOf t).run P w=.ok 1 w) (hx:Fr.ev fr x=some (.pointer (some ⟨svB sv,k,none⟩))) (hy:Fr.ev fr y=some u) (hk:k<n*sz) (hu:u.cells=#[u]) (hu1:u.oneCell'=true)
    (h:∀ Hr',aE_ e sz sv n (xs.set k u) Hr'→Ops P R N v0 H0 ops l K fr (Hr'++F) Γ):Ops P R N v0 H0 ops (⟨none,.store t x y,ty,ps,af,none⟩::l) K fr H Γ:=by
  rcases hrow.2 with⟨_,h2,_⟩|⟨g,cap,cur,rfl,rfl,h3,h4,h5,h6⟩
  · subst h2;simp at hk
  · have hle:n*sz≤cap*sz:=Nat.mul_le_mul_right _ h3
    refine u_ hH (z_ (b:=g) (off:=k) 0 hs hx hy rfl (by rw[hu];rfl) ?_ (by rw[hu];simp[hu1]) ?_)
    · have hb:k+1≤cur.size:=by rw[h5];omega
      simpa using hb
    · rw[hu]
      refine h [(g,.cells (cur.toList.take k++[u]++cur.toList.drop (k+1)).toArray e (0,0))] ⟨by rw[List.length_set];exact hrow.1,.inr ⟨g,cap,_,rfl,rfl,h3,h4,?_,?_⟩⟩
      · simp only[List.size_toArray,List.length_append,List.length_take,List.length_drop,List.length_singleton,Array.length_toList,h5];omega
      · show ((cur.toList.take k++[u]++cur.toList.drop (k+1)).toArray).toList.take (n*sz)=_
        rw[List.toList_toArray,qJ_ _ _ _ _ hk (by rw[Array.length_toList,h5];exact hle),h6]
theorem cU_ {α:Type} (f:α→List Value) (z:Nat) (hf:∀ x,(f x).length=z):∀ (l:List α) (i j:Nat) (x y:α) (u:Value),l[i]? = some x→j<z→f y=(f x).set j u→(l.flatMap f).set (i*z+j) u=(l.set i y).flatMap f
  | [],i,_,_,_,_,h,_,_=>by simp at h
  | a::l,0,j,x,y,u,h,hj,he=>by
    simp only[List.getElem?_cons_zero,Option.some.injEq]at h
    subst h
    rw[List.flatMap_cons,List.set_cons_zero,List.flatMap_cons,he,Nat.zero_mul,Nat.zero_add,List.set_append_left _ _ (by rw[hf];exact hj)]
  | a::l,i+1,j,x,y,u,h,hj,he=>by
    simp only[List.getElem?_cons_succ]at h
    rw[List.flatMap_cons,List.set_cons_succ,List.flatMap_cons,← cU_ f z hf l i j x y u h hj he,List.set_append_right _ _ (by rw[hf,Nat.succ_mul];omega),hf]
    congr 2
    rw[Nat.succ_mul];omega
end
end Go.Sx
namespace Go.Sx
open Go
section
variable {P:Program} {N:Nf} {v0:Vw} {H0:Hp} {R:Exit→Act→World→Prop} {K:List Kt} {fr:Fr} {H F:Hp} {Γ:List Fct} {ops:Array Oper} {l:List Oper} {d:Nat} {ty:TypeId} {ps:String} {af:Array Edge} {e:TypeId} {sz n:Nat} {sv:Value} {xs:List Value} {Hr:Hp}
inductive ORow (e:TypeId) (sz:Nat):Value→Nat→List Value→Hp→Prop
  | row {sv:Value} {n:Nat} {xs:List Value} {Hr:Hp} (h:aE_ e sz sv n xs Hr):ORow e sz sv n xs Hr
  | cut {g k n cap:Nat} {pre xs:List Value} {Hr:Hp} (hp:pre.length=k*sz) (h:aE_ e sz (.slice (some ⟨g,0,none⟩) (k+n) (k+cap)) (k+n) (pre++xs) Hr):ORow e sz (.slice (some ⟨g,k*sz,none⟩) n cap) n xs Hr
  | out {g k:Nat} {Hr:Hp}:ORow e sz (.slice (some ⟨g,k*sz,none⟩) 0 0) 0 [] Hr
theorem ORow.len (h:ORow e sz sv n xs Hr):xs.length=n*sz:=by
  cases h with
  | row h=>exact h.1
  | cut hp h=>have:=h.1;rw[List.length_append,hp,Nat.add_mul]at this;omega
  | out=>simp
theorem ORow.form (h:ORow e sz sv n xs Hr):∃ ad cap,sv=.slice ad n cap∧n≤cap∧(ad=none→cap=0):=by
 cases h with
 | row h =>
   rcases h.2 with⟨rfl,rfl,_⟩|⟨g,cap,cur,rfl,_,h3,_⟩
   · exact⟨_,_,rfl,Nat.le_refl _,fun _=>rfl⟩
   · exact⟨_,_,rfl,h3,fun q=>by cases q⟩
 | cut hp h =>
   rcases h.2 with⟨h1,_⟩|⟨g,cap,cur,h1,_,h3,_⟩
   · cases h1
   · simp only[Value.slice.injEq]at h1;obtain⟨_,_,rfl⟩:=h1;exact⟨_,_,rfl,by omega,fun q=>by cases q⟩
 | out=>exact⟨_,_,rfl,Nat.le_refl _,fun q=>by cases q⟩
theorem Vw.sat.subB {v:Vw} (h:v.sat (Hr++F)):v.sat F :=
  ⟨fun x hx=>h.own x (List.mem_append_right _ hx),by have:=h.nodup;rw[List.map_append,List.nodup_append]at this;exact this.2.1,h.lt⟩
end
end Go.Sx
namespace Go.Proofs
open Go.Shelf
def Tryz.lays122_ren:Go.Shelf.Ren:=⟨fun|122=>104|215=>136|n=>n,fun|3=>3|4=>4|n=>n,fun|n=>n⟩
theorem Tryz.lays122:Go.Proofs.Lays.n122 Tryz.prog Tryz.lays122_ren:={
  mixed:=by kernel_rfl
  f122:=Tryz.func104.trans (congrArg some (by kernel_rfl))
  f215:=Tryz.func136.trans (congrArg some (by kernel_rfl))
  t3:=Tryz.underlying3
  a3:=Tryz.isAgg3
  z3:=Tryz.sizeOf3
  v3:=Tryz.zeroValue3
  t4:=Tryz.underlying4
  a4:=Tryz.isAgg4
  z4:=Tryz.sizeOf4
  v4:=Tryz.zeroValue4 }
open Go.RowKit in
theorem Tryz.cmp_Compare_int (x y:Int) (w:World) :
    Calls Tryz.prog 104 #[.int .i64 x,.int .i64 y] w fun e w'=>e=.returned (.int .i64 (Lib.compareInt x y))∧w'=w:=Any.cmp_Compare_int Tryz.lays122 x y w
def Tryz.lays219_ren:Go.Shelf.Ren:=⟨fun|219=>203|217=>210|225=>211|224=>212|267=>213|266=>214|314=>215|n=>n,fun|9=>9|3=>3|4=>4|5=>5|46=>131|146=>214|51=>158|n=>n,fun|1=>1|n=>n⟩
theorem Tryz.lays219:Go.Proofs.Lays.n219 Tryz.prog Tryz.lays219_ren:={
  mixed:=by kernel_rfl
  f217:=Tryz.func210.trans (congrArg some (by kernel_rfl))
  f219:=Tryz.func203.trans (congrArg some (by kernel_rfl))
  f224:=Tryz.func212.trans (congrArg some (by kernel_rfl))
  f225:=Tryz.func211.trans (congrArg some (by kernel_rfl))
  f266:=Tryz.func214.trans (congrArg some (by kernel_rfl))
  f267:=Tryz.func213.trans (congrArg some (by kernel_rfl))
  f314:=Tryz.func215.trans (congrArg some (by kernel_rfl))
  t3:=Tryz.underlying3
  a3:=Tryz.isAgg3
  z3:=Tryz.sizeOf3
  v3:=Tryz.zeroValue3
  t4:=Tryz.underlying4
  a4:=Tryz.isAgg4
  z4:=Tryz.sizeOf4
  v4:=Tryz.zeroValue4
  t5:=Tryz.underlying5
  a5:=Tryz.isAgg5
  z5:=Tryz.sizeOf5
  v5:=Tryz.zeroValue5
  t9:=Tryz.underlying9
  a9:=Tryz.isAgg9
  z9:=Tryz.sizeOf9
  v9:=Tryz.zeroValue9
  t46:=Tryz.underlying131
  a46:=Tryz.isAgg131
  z46:=Tryz.sizeOf131
  v46:=Tryz.zeroValue131
  t51:=Tryz.underlying158
  a51:=Tryz.isAgg158
  z51:=Tryz.sizeOf158
  v51:=Tryz.zeroValue158
  t146:=Tryz.underlying214
  a146:=Tryz.isAgg214
  z146:=Tryz.sizeOf214
  v146:=Tryz.zeroValue214
  g1:=by kernel_rfl }
open Go.RowKit Go.Lib in
theorem Tryz.stringslite_Index_one (s:ByteArray) (c:UInt8) (w:World) :
    Calls Tryz.prog 203 #[.string s,.string ⟨#[c]⟩] w fun e w'=>e=.returned (.int .i64 (Lib.indexByte s.data.toList c))∧w'=w:=Any.stringslite_Index_one Tryz.lays219 s c w
def Tryz.lays143_ren:Go.Shelf.Ren:=⟨fun|143=>193|219=>203|217=>210|225=>211|224=>212|267=>213|266=>214|314=>215|n=>n,fun|9=>9|3=>3|4=>4|5=>5|46=>131|146=>214|51=>158|n=>n,fun|1=>1|n=>n⟩
theorem Tryz.lays143:Go.Proofs.Lays.n143 Tryz.prog Tryz.lays143_ren:={
  mixed:=by kernel_rfl
  f143:=Tryz.func193.trans (congrArg some (by kernel_rfl))
  f217:=Tryz.func210.trans (congrArg some (by kernel_rfl))
  f219:=Tryz.func203.trans (congrArg some (by kernel_rfl))
  f224:=Tryz.func212.trans (congrArg some (by kernel_rfl))
  f225:=Tryz.func211.trans (congrArg some (by kernel_rfl))
  f266:=Tryz.func214.trans (congrArg some (by kernel_rfl))
  f267:=Tryz.func213.trans (congrArg some (by kernel_rfl))
  f314:=Tryz.func215.trans (congrArg some (by kernel_rfl))
  t3:=Tryz.underlying3
  a3:=Tryz.isAgg3
  z3:=Tryz.sizeOf3
  v3:=Tryz.zeroValue3
  t4:=Tryz.underlying4
  a4:=Tryz.isAgg4
  z4:=Tryz.sizeOf4
  v4:=Tryz.zeroValue4
  t5:=Tryz.underlying5
  a5:=Tryz.isAgg5
  z5:=Tryz.sizeOf5
  v5:=Tryz.zeroValue5
  t9:=Tryz.underlying9
  a9:=Tryz.isAgg9
  z9:=Tryz.sizeOf9
  v9:=Tryz.zeroValue9
  t46:=Tryz.underlying131
  a46:=Tryz.isAgg131
  z46:=Tryz.sizeOf131
  v46:=Tryz.zeroValue131
  t51:=Tryz.underlying158
  a51:=Tryz.isAgg158
  z51:=Tryz.sizeOf158
  v51:=Tryz.zeroValue158
  t146:=Tryz.underlying214
  a146:=Tryz.isAgg214
  z146:=Tryz.sizeOf214
  v146:=Tryz.zeroValue214
  g1:=by kernel_rfl }
open Go.RowKit Go.Lib in
theorem Tryz.strings_Index_one (s:ByteArray) (c:UInt8) (w:World) :
    Calls Tryz.prog 193 #[.string s,.string ⟨#[c]⟩] w fun e w'=>e=.returned (.int .i64 (Lib.indexByte s.data.toList c))∧w'=w:=Any.strings_Index_one Tryz.lays143 s c w
def Tryz.lays138_ren:Go.Shelf.Ren:=⟨fun|138=>192|195=>200|218=>202|143=>193|219=>203|217=>210|225=>211|224=>212|267=>213|266=>214|314=>215|n=>n,fun|9=>9|3=>3|4=>4|5=>5|0=>0|46=>131|146=>214|51=>158|n=>n,fun|1=>1|n=>n⟩
theorem Tryz.lays138:Go.Proofs.Lays.n138 Tryz.prog Tryz.lays138_ren:={
  mixed:=by kernel_rfl
  f138:=Tryz.func192.trans (congrArg some (by kernel_rfl))
  f143:=Tryz.func193.trans (congrArg some (by kernel_rfl))
  f195:=Tryz.func200.trans (congrArg some (by kernel_rfl))
  f217:=Tryz.func210.trans (congrArg some (by kernel_rfl))
  f218:=Tryz.func202.trans (congrArg some (by kernel_rfl))
  f219:=Tryz.func203.trans (congrArg some (by kernel_rfl))
  f224:=Tryz.func212.trans (congrArg some (by kernel_rfl))
  f225:=Tryz.func211.trans (congrArg some (by kernel_rfl))
  f266:=Tryz.func214.trans (congrArg some (by kernel_rfl))
  f267:=Tryz.func213.trans (congrArg some (by kernel_rfl))
  f314:=Tryz.func215.trans (congrArg some (by kernel_rfl))
  t0:=Tryz.underlying0
  a0:=Tryz.isAgg0
  z0:=Tryz.sizeOf0
  v0:=Tryz.zeroValue0
  t3:=Tryz.underlying3
  a3:=Tryz.isAgg3
  z3:=Tryz.sizeOf3
  v3:=Tryz.zeroValue3
  t4:=Tryz.underlying4
  a4:=Tryz.isAgg4
  z4:=Tryz.sizeOf4
  v4:=Tryz.zeroValue4
  t5:=Tryz.underlying5
  a5:=Tryz.isAgg5
  z5:=Tryz.sizeOf5
  v5:=Tryz.zeroValue5
  t9:=Tryz.underlying9
  a9:=Tryz.isAgg9
  z9:=Tryz.sizeOf9
  v9:=Tryz.zeroValue9
  t46:=Tryz.underlying131
  a46:=Tryz.isAgg131
  z46:=Tryz.sizeOf131
  v46:=Tryz.zeroValue131
  t51:=Tryz.underlying158
  a51:=Tryz.isAgg158
  z51:=Tryz.sizeOf158
  v51:=Tryz.zeroValue158
  t146:=Tryz.underlying214
  a146:=Tryz.isAgg214
  z146:=Tryz.sizeOf214
  v146:=Tryz.zeroValue214
  g1:=by kernel_rfl }
open Go.RowKit Go.Lib in
theorem Tryz.strings_Count_one (s:ByteArray) (c:UInt8) (w:World) :
    Calls Tryz.prog 192 #[.string s,.string ⟨#[c]⟩] w fun e w'=>e=.returned (.int .i64 (Lib.countByte s.data.toList c))∧w'=w:=Any.strings_Count_one Tryz.lays138 s c w
def Tryz.lays190_ren:Go.Shelf.Ren:=⟨fun|190=>86|125=>102|258=>124|128=>134|129=>135|302=>156|303=>157|304=>158|305=>159|306=>160|307=>161|308=>162|309=>163|310=>164|333=>180|329=>167|330=>168|334=>181|335=>182|336=>183|344=>197|n=>n,fun|31=>36|9=>9|3=>3|46=>131|0=>0|51=>158|53=>160|4=>4|183=>152|182=>151|131=>115|5=>5|218=>179|222=>183|228=>195|229=>196|n=>n,fun|n=>n⟩
theorem Tryz.lays190:Go.Proofs.Lays.n190 Tryz.prog Tryz.lays190_ren:={
  mixed:=by kernel_rfl
  f125:=Tryz.func102.trans (congrArg some (by kernel_rfl))
  f128:=Tryz.func134.trans (congrArg some (by kernel_rfl))
  f129:=Tryz.func135.trans (congrArg some (by kernel_rfl))
  f190:=Tryz.func86.trans (congrArg some (by kernel_rfl))
  f258:=Tryz.func124.trans (congrArg some (by kernel_rfl))
  f302:=Tryz.func156.trans (congrArg some (by kernel_rfl))
  f303:=Tryz.func157.trans (congrArg some (by kernel_rfl))
  f304:=Tryz.func158.trans (congrArg some (by kernel_rfl))
  f305:=Tryz.func159.trans (congrArg some (by kernel_rfl))
  f306:=Tryz.func160.trans (congrArg some (by kernel_rfl))
  f307:=Tryz.func161.trans (congrArg some (by kernel_rfl))
  f308:=Tryz.func162.trans (congrArg some (by kernel_rfl))
  f309:=Tryz.func163.trans (congrArg some (by kernel_rfl))
  f310:=Tryz.func164.trans (congrArg some (by kernel_rfl))
  f329:=Tryz.func167.trans (congrArg some (by kernel_rfl))
  f330:=Tryz.func168.trans (congrArg some (by kernel_rfl))
  f333:=Tryz.func180.trans (congrArg some (by kernel_rfl))
  f334:=Tryz.func181.trans (congrArg some (by kernel_rfl))
  f335:=Tryz.func182.trans (congrArg some (by kernel_rfl))
  f336:=Tryz.func183.trans (congrArg some (by kernel_rfl))
  f344:=Tryz.func197.trans (congrArg some (by kernel_rfl))
  t0:=Tryz.underlying0
  a0:=Tryz.isAgg0
  z0:=Tryz.sizeOf0
  v0:=Tryz.zeroValue0
  t3:=Tryz.underlying3
  a3:=Tryz.isAgg3
  z3:=Tryz.sizeOf3
  v3:=Tryz.zeroValue3
  t4:=Tryz.underlying4
  a4:=Tryz.isAgg4
  z4:=Tryz.sizeOf4
  v4:=Tryz.zeroValue4
  t5:=Tryz.underlying5
  a5:=Tryz.isAgg5
  z5:=Tryz.sizeOf5
  v5:=Tryz.zeroValue5
  t9:=Tryz.underlying9
  a9:=Tryz.isAgg9
  z9:=Tryz.sizeOf9
  v9:=Tryz.zeroValue9
  t31:=Tryz.underlying36
  a31:=Tryz.isAgg36
  z31:=Tryz.sizeOf36
  v31:=Tryz.zeroValue36
  t46:=Tryz.underlying131
  a46:=Tryz.isAgg131
  z46:=Tryz.sizeOf131
  v46:=Tryz.zeroValue131
  t51:=Tryz.underlying158
  a51:=Tryz.isAgg158
  z51:=Tryz.sizeOf158
  v51:=Tryz.zeroValue158
  t53:=Tryz.underlying160
  a53:=Tryz.isAgg160
  z53:=Tryz.sizeOf160
  v53:=Tryz.zeroValue160
  t131:=Tryz.underlying115
  a131:=Tryz.isAgg115
  z131:=Tryz.sizeOf115
  v131:=Tryz.zeroValue115
  t182:=Tryz.underlying151
  a182:=Tryz.isAgg151
  z182:=Tryz.sizeOf151
  v182:=Tryz.zeroValue151
  t183:=Tryz.underlying152
  a183:=Tryz.isAgg152
  z183:=Tryz.sizeOf152
  v183:=Tryz.zeroValue152
  t218:=Tryz.underlying179
  a218:=Tryz.isAgg179
  z218:=Tryz.sizeOf179
  v218:=Tryz.zeroValue179
  t222:=Tryz.underlying183
  a222:=Tryz.isAgg183
  z222:=Tryz.sizeOf183
  v222:=Tryz.zeroValue183
  t228:=Tryz.underlying195
  a228:=Tryz.isAgg195
  z228:=Tryz.sizeOf195
  v228:=Tryz.zeroValue195
  t229:=Tryz.underlying196
  a229:=Tryz.isAgg196
  z229:=Tryz.sizeOf196
  v229:=Tryz.zeroValue196 }
open Go.Sort Go.RowKit in
theorem Tryz.slices_Sort_string (blk off cap:Nat) (ss:List (List UInt8)) (w:World) (hH:Holds encStr w blk off ss.toArray) (hblk:blk<w.heap.size) (hsz:ss.length<4611686018427387904) :
    Calls Tryz.prog 86 #[.slice (some ⟨blk,off,none⟩) ss.length cap] w fun e w' =>
      e=.returned (.tuple #[])∧∃ n os,w'=grow (putRow encStr (Sort.ahead w n) blk off (ss.mergeSort fun x y=>decide (x≤y)).toArray) os:=Any.slices_Sort_string Tryz.lays190 blk off cap ss w hH hblk hsz
def Tryz.lays194_ren:Go.Shelf.Ren:=⟨fun|194=>87|n=>n,fun|31=>36|9=>9|3=>3|4=>4|0=>0|n=>n,fun|n=>n⟩
theorem Tryz.lays194:Go.Proofs.Lays.n194 Tryz.prog Tryz.lays194_ren:={
  mixed:=by kernel_rfl
  f194:=Tryz.func87.trans (congrArg some (by kernel_rfl))
  t0:=Tryz.underlying0
  a0:=Tryz.isAgg0
  z0:=Tryz.sizeOf0
  v0:=Tryz.zeroValue0
  t3:=Tryz.underlying3
  a3:=Tryz.isAgg3
  z3:=Tryz.sizeOf3
  v3:=Tryz.zeroValue3
  t4:=Tryz.underlying4
  a4:=Tryz.isAgg4
  z4:=Tryz.sizeOf4
  v4:=Tryz.zeroValue4
  t9:=Tryz.underlying9
  a9:=Tryz.isAgg9
  z9:=Tryz.sizeOf9
  v9:=Tryz.zeroValue9
  t31:=Tryz.underlying36
  a31:=Tryz.isAgg36
  z31:=Tryz.sizeOf36
  v31:=Tryz.zeroValue36 }
open Go.RowKit Go.Lib Go.Sort in
theorem Tryz.slices_Compact_string (blk off cap:Nat) (zs:List (List UInt8)) (w:World) (hH:Holds encStr w blk off zs.toArray) (hsz:zs.length≤9223372036854775807) (hcap:zs.length≤cap) :
    Calls Tryz.prog 87 #[.slice (some ⟨blk,off,none⟩) zs.length cap] w fun e w'=>e=.returned (.slice (some ⟨blk,off,none⟩) (Lib.compact zs).length cap)∧∃ q,w'=putRow encStr (Sort.ahead w q) blk off (Lib.compact zs++List.replicate (zs.length - (Lib.compact zs).length) []).toArray:=Any.slices_Compact_string Tryz.lays194 blk off cap zs w hH hsz hcap
open Go.RowKit Go.Lib Go.Sort in
theorem Tryz.slices_Compact_string_empty (a:Option Addr) (cap:Nat) (w:World) :
    Calls Tryz.prog 87 #[.slice a 0 cap] w fun e w'=>e=.returned (.slice a 0 cap)∧w'=w:=Any.slices_Compact_string_empty Tryz.lays194 a cap w
open Go.RowKit Go.Sort in
theorem Tryz.slices_Sort_string_none (p:Option Addr) (cap:Nat) (w:World) :
    Calls Tryz.prog 86 #[.slice p 0 cap] w fun e w'=>e=.returned (.tuple #[])∧w'=w:=Any.slices_Sort_string_none Tryz.lays190 p cap w
end Go.Proofs
namespace Go.Proofs
open Go.Shelf
def Tryz.lays106_ren:Go.Shelf.Ren:=⟨fun|106=>105|213=>137|265=>171|n=>n,fun|9=>9|3=>3|n=>n,fun|n=>n⟩
theorem Tryz.lays106:Go.Proofs.Lays.n106 Tryz.prog Tryz.lays106_ren:={
  mixed:=by kernel_rfl
  f106:=Tryz.func105.trans (congrArg some (by kernel_rfl))
  f213:=Tryz.func137.trans (congrArg some (by kernel_rfl))
  f265:=Tryz.func171.trans (congrArg some (by kernel_rfl))
  t3:=Tryz.underlying3
  a3:=Tryz.isAgg3
  z3:=Tryz.sizeOf3
  v3:=Tryz.zeroValue3
  t9:=Tryz.underlying9
  a9:=Tryz.isAgg9
  z9:=Tryz.sizeOf9
  v9:=Tryz.zeroValue9 }
open Go.RowKit in
theorem Tryz.strings_Compare (a b:ByteArray) (w:World) :
    Calls Tryz.prog 105 #[.string a,.string b] w fun e w'=>e=.returned (.int .i64 (Lib.compareBytes a.data.toList b.data.toList))∧w'=w:=Any.strings_Compare Tryz.lays106 a b w
end Go.Proofs
namespace Go.Sx
open Go
structure Cn (n:Nat) (G:Prop):Prop where
  go:G
structure Kw (A:Prop):Prop where
  go:A
theorem cn {n:Nat} {G G1:Prop} (k:G1→G) (h:Cn n G1):Cn (n+1) G:=⟨k h.go⟩
theorem cn0 {G:Prop} (h:G):Cn 0 G:=⟨h⟩
def noG (x:Value) (want:Bool):Bool:=match x with|.bool b=>Bool.xor b want|_=>true
section
variable {P:Program} {N:Nf} {v0:Vw} {H0:Hp} {R:Exit→Act→World→Prop} {K:List Kt} {fr:Fr} {H:Hp} {Γ:List Fct} {ops:Array Oper} {l:List Oper} {d:Nat} {ty:TypeId} {ps:String} {af:Array Edge} {Hs:Hp} {Γs:List Fct} {fuel:Nat} {listed:Array Bool}
theorem oS_ {op:Op} {j t:Nat} {want:Bool} {x:Value} (hj:hl_ ops j=some t) (hx:Fr.get fr t=some x) (hne:noG x want=true) (hN:Nat.blt d N.n=true)
    (h:Ops P R N v0 H0 ops l K ((d,undef)::fr) H Γ):Ops P R N v0 H0 ops (⟨some d,op,ty,ps,af,some (j,want)⟩::l) K fr H Γ:=ops_no hj hx (by cases x<;>first|rfl|exact hne) hN h
theorem sq_noG [NoPan R] {i:Nat} {is:List Nat} {op:Op} {x:Value} {j t:Nat} {want:Bool} (hi:ops[i]? = some ⟨some d,op,ty,ps,af,some (j,want)⟩) (hj:hl_ ops j=some t) (hx:Fr.get fr t=some x) (hne:noG x want=true) (hN:Nat.blt d N.n=true)
    (h:Sq P R N v0 H0 ops Hs Γs is fuel (listed.setIfInBounds i true) K ((d,undef)::fr) H Γ):Sq P R N v0 H0 ops Hs Γs (i::is) fuel listed K fr H Γ:=sq_no hi hj hx (by cases x<;>first|rfl|exact hne) hN h
end
end Go.Sx

