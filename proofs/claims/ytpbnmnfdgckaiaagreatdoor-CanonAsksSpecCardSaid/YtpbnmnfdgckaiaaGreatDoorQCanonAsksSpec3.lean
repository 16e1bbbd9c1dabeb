/-
  Part of the proof of the law CanonAsksSpec over this seat: the small logic, the data, the contracts of functions (no condition).
-/
import Derived.Test.YtpbnmnfdgckaiaaGreatDoorQCanonAsksSpec2
import Derived.Laws.MakeOwn
import Derived.Laws.OwnMore
import Derived.Shelf.Strings.Builder1
import Derived.Shelf.Strings.Builder2
import Derived.Shelf.Strings.OnBuilder
import Derived.Shelf.Small.Bits
import Derived.Shelf.Small.Strs
import Derived.Shelf.Small.Wraps
import Derived.Shelf.Utf8.RuneCount
import Derived.Shelf.Strconv.Itoa0
import Derived.Shelf.Strconv.Itoa1
import Derived.Shelf.LaysM
import Derived.Shelf.Strconv.Itoa2
import Derived.Shelf.Strconv.Itoa3
import Derived.Shelf.Strings.Search1
import Derived.Shelf.Strings.Search2
import Derived.Shelf.Strings.Search3
import Derived.Shelf.Strings.Cut
import Derived.Shelf.Strings.Count
import Derived.Shelf.Strings.Shaped
import Derived.Shelf.Sort.Plain
import Derived.Shelf.Strings.Prefix
import Derived.Shelf.Strings.Split
import Derived.Shelf.Strings.SplitShaped
import Derived.Shelf.Unicode.DecodeSlow
import Derived.Shelf.Slices.Reverse
import Derived.Shelf.Slices.CompactS
import Derived.Ground.Names2Prog
import Derived.Shelf.Slices.SearchI
import Derived.Shelf.Slices.Cells
import Derived.Shelf.Slices.In.SortNone
import Derived.Ground.SlgnProg
import Derived.Shelf.SlicesE.Clone
import Derived.Test.YtpbnmnfdgckaiaaGreatDoorProg
import Derived.Test.YtpbnmnfdgckaiaaGreatDoorQCanonAsksSpec1
set_option linter.unusedVariables false
set_option linter.unusedSimpArgs false
set_option linter.unusedSectionVars false
set_option maxHeartbeats 1000000
namespace Go.Vs
open Go Go.Sx
def bc_ (c:UInt8):Str→List Str
  | []=>[[]]
  | b::s=>if b=c then []::bc_ c s else match bc_ c s with
    | h::t=>(b::h)::t
    | []=>[[b]]
def dS_ (c:UInt8) (s:Str):Nat:=s.countP (·==c)
theorem kE_ (c:UInt8):∀ s,bc_ c s≠[]
 | []=>by simp[bc_]
 | b::s=>by
   simp only[bc_]
   split
   · simp
   · split<;>simp
theorem eZ_ (c:UInt8):∀ s,(bc_ c s).length=dS_ c s+1
 | []=>by simp[bc_,dS_]
 | b::s=>by
   have d:=eZ_ c s;simp only[bc_]
   by_cases h:b=c
   · simp only[h,if_true,List.length_cons,d,dS_,List.countP_cons,beq_self_eq_true]
   · simp only[h,if_false]
     cases hs:bc_ c s with
     | nil=>exact absurd hs (kE_ c s)
     | cons x t =>
       rw[hs]at d;simp only[List.length_cons]at d ⊢;simp only[dS_,List.countP_cons,beq_iff_eq,h,if_false,Nat.add_zero]at d ⊢;exact d
theorem gr_ {c:UInt8}:∀ {s:Str},ixS c s=none→bc_ c s=[s]
 | [],_=>rfl
 | b::s,h=>by
   simp only[ixS]at h
   split at h
   · cases h
   · rename_i e
     have d:ixS c s=none:=by simpa using h
     simp only[bc_,e,if_false,gr_ d]
theorem ii_ {c:UInt8}:∀ {s:Str} {k:Nat},ixS c s=some k→bc_ c s=s.take k::bc_ c (s.drop (k+1))
 | [],k,h=>by simp[ixS]at h
 | b::s,k,h=>by
   simp only[ixS]at h
   split at h
   · rename_i d
     simp only[Option.some.injEq]at h;subst h;simp[bc_,d]
   · rename_i d
     cases hx:ixS c s with
     | none=>rw[hx]at h;simp at h
     | some j =>
       rw[hx]at h;simp only[Option.map_some,Option.some.injEq]at h;subst h;simp only[bc_,d,if_false,ii_ hx,List.take_succ_cons,List.drop_succ_cons]
theorem uv_ {c:UInt8} {s:Str} (h:ixS c s=none):dS_ c s=0:=by
  have:=eZ_ c s;rw[gr_ h]at this;simpa using this.symm
theorem oR_ {c:UInt8} {s:Str} {k:Nat} (h:ixS c s=some k):dS_ c s=dS_ c (s.drop (k+1))+1:=by
  have d:=eZ_ c s;rw[ii_ h]at d;simp only[List.length_cons,eZ_]at d;omega
theorem tm_ (c:UInt8) (s:Str):dS_ c s≤s.length:=List.countP_le_length
def be_ (s:Str):Bool :=
  if s=[42]∨s=[33] then true
  else if 2≤s.length∧s[0]? = some 123∧s[s.length - 1]? = some 125 then aO_ ((s.drop 1).take (s.length - 1 - 1))
  else if 3≤s.length∧s[0]? = some 60∧s[s.length - 1]? = some 62 then true
  else aO_ s
def cB_ (s:Str):Bool:=decide ((bc_ 46 s).length≤4)&&!((bc_ 46 s).any fun r=>!aO_ r)
def bZ_ (used:Bool) (s:Str) (q:Str→Bool):Bool:=(used&&q s)||(!used&&(s==[]))
def Pc.valid (p:Pc):Bool :=
  if p.kind<1∨9<p.kind∨p.frm < -1∨1024≤p.frm then false
  else if (nus p.kind).numbers=true∧(p.lo < -1099511627776∨p.hi<p.lo∨1099511627776<p.hi) then false
  else if (nus p.kind).numbers=false∧(p.lo≠0∨p.hi≠0) then false
  else ((((bZ_ (nus p.kind).a p.a be_&&bZ_ (nus p.kind).b p.b be_)&&bZ_ (nus p.kind).c p.c be_)&&bZ_ (nus p.kind).r p.r (if (nus p.kind).numbers then aO_ else cB_))&&bZ_ (nus p.kind).s p.s cB_)&&bZ_ (nus p.kind).t p.t cB_
structure Pc.sm (p:Pc):Prop where
  a:p.a.length≤17592186044414
  b:p.b.length≤17592186044414
  c:p.c.length≤17592186044414
  r:p.r.length≤17592186044414
  s:p.s.length≤17592186044414
  t:p.t.length≤17592186044414
def db_ (l:List Pc):Int:=if 16384<l.length then 2 else if l.all Pc.valid then 0 else 1
end Go.Vs
namespace Go.Sx
open Go
section
variable {H r r' d t:Hp} {b:Nat×Obj} {O:Hp}
theorem f_:H.Perm ([]++H):=.refl _
theorem d_:(b::r).Perm ([b]++r):=.refl _
theorem y_:(O++r).Perm (O++r):=.refl _
theorem c_ (h:H.Perm (t++r)):(b::H).Perm (t++(b::r)):=(h.cons b).trans List.perm_middle.symm
theorem g_ (h:H.Perm (t++r)):(O++H).Perm (t++(O++r)):=(List.Perm.append_left O h).trans (by
  rw[← List.append_assoc,← List.append_assoc];exact List.Perm.append_right r List.perm_append_comm)
theorem l_ (h:H.Perm ([b]++r)) (e:r.Perm (d++r')):H.Perm ((b::d)++r'):=h.trans (e.cons b)
theorem B_ (h:H.Perm (O++r)) (e:r.Perm (d++r')):H.Perm ((O++d)++r'):=by
  rw[List.append_assoc];exact h.trans (List.Perm.append_left O e)
theorem ad_:H.Perm (H++[]):=by rw[List.append_nil]
end
theorem mH_:∀ e:List (List UInt8),e.flatMap ak_=e.map str
  | []=>rfl
  | x::e=>by simp only[List.flatMap_cons,mH_ e,List.map_cons];rfl
def fz_ (n:Int):List Value:=[.int .i64 n]
theorem dR_ (n:Int):(fz_ n).length=1:=rfl
section
variable {P:Program} {N:Nf} {v0:Vw} {H0:Hp} {R:Exit→Act→World→Prop} {K:List Kt} {fr:Fr} {H:Hp} {Γ:List Fct}
theorem cL_ {k:Act→World→Prop} {b:Nat} {cs:List Value} {T:TypeId} {fz:Nat×Nat} {F:Hp} (e:List Value) (q:H.Perm ([(b,.cells cs.toArray T fz)]++F)) (A:cs=e) (h:Ok N v0 H0 k fr F (ai_ (some ⟨b,0,none⟩) e::Γ)):Ok N v0 H0 k fr H Γ :=
  eJ_ (ai_ (some ⟨b,0,none⟩) e) q (fun v C B _=>.inr ⟨b,0,cs.toArray,T,fz,rfl,C,B,fun j x y=>by rw[Nat.zero_add,A];simpa using y⟩) h
theorem satNil {v:Vw} (h:v.sat H):v.sat []:=⟨(fun _ h=>by cases h),zj_,h.lt⟩
variable {ops:Array Oper} {l:List Oper} {d:Nat} {ty:TypeId} {ps:String} {af:Array Edge}
theorem sC_ {x y:Operand} {t q:TypeId} {m n:Int} (h:Fr.ev fr x=some (.int .i64 m)) (A:Fr.ev fr y=some (.int .i64 n)) :
    Yld P N fr H Γ (.call ⟨.builtin .min,#[x,y],#[t,q]⟩) ty (.int .i64 (if n<m then n else m)) :=
  fun a v e B _ _ _ _=>by simp[execOp,resolve,invoke,builtin,Builtin.min_,Builtin.min2,e.ev h,e.ev A]
theorem xa_ {x y:Operand} {t q:TypeId} {m n:Int} (h:Fr.ev fr x=some (.int .i64 m)) (A:Fr.ev fr y=some (.int .i64 n)) :
    Yld P N fr H Γ (.call ⟨.builtin .max,#[x,y],#[t,q]⟩) ty (.int .i64 (if m<n then n else m)) :=
  fun a v e B _ _ _ _=>by simp[execOp,resolve,invoke,builtin,Builtin.max_,Builtin.max2,e.ev h,e.ev A]
theorem wZ_ {t A:TypeId} {x y:Operand} {m n:Int} (h:Fr.ev fr x=some (.int .i64 m)) (C:Fr.ev fr y=some (.int .i64 n)) (q:n≠0) (B:IntKind.wrap .i64 (m.tdiv n)=m.tdiv n) :
    Yld P N fr H Γ (.binOp .quo t x y A) ty (.int .i64 (m.tdiv n)) :=
  fun a v e _ _ _ _ _=>by simp[execOp,e.ev h,e.ev C,eqGuard,binOp,Op.intDiv,q,B]
theorem xQ_ (z:Value) (n:Nat):madeCells #[z] (n*1)=(List.replicate n z).toArray:=by
 unfold madeCells
 apply Array.ext
 ·simp
 intro i h e;simp at h e ⊢
 have:i%1=0:=Nat.mod_one i;simp[this]
theorem ub_ {t e:TypeId} {x y:Operand} {n by':Nat} {z:Value} (E:P.underlying t=some (.slice e)) (hi:(P.info? e).map (fun i=>(i.zero,i.size,i.bytes))=some (some z,1,by')) (C:z.cells=#[z]) (G:Fr.ev fr x=some (.int .i64 (n:Int))) (F:Fr.ev fr y=some (.int .i64 (n:Int)))
    (L:by'*n≤281474976710656) (J:n≤9223372036854775807) (I:Nat.blt d N.n=true)
    (hk:∀ b,Ops P R N v0 H0 ops l K ((d,.slice (some ⟨b,0,none⟩) n n)::fr) ((b,.cells (List.replicate n z).toArray e (0,0))::H) Γ):Ops P R N v0 H0 ops (⟨some d,.makeSlice t x y,ty,ps,af,none⟩::l) K fr H Γ:=by
  refine gt_ (x:=fun b=>.slice (some ⟨b,0,none⟩) n n) I (fun a v B _ _=>?_) hk;cases h:P.info? e with
  | none=>rw[h]at hi;cases hi
  | some i =>
    rw[h]at hi;simp only[Option.map_some,Option.some.injEq,Prod.mk.injEq]at hi
    have q:(i.bytes:Int)*(n:Int)≤281474976710656:=by
      rw[hi.2.2];have h:((by'*n:Nat):Int)≤281474976710656:=by omega
      rwa [Int.natCast_mul]at h
    have A:=run_make (P:=P) v.w t e i z E h hi.1 .i64 .i64 (n:Int) (n:Int) za_ (Int.le_refl _) q za_;rw[hi.2.1,C,Int.toNat_natCast,xQ_]at A;simp only[execOp,B.ev G,B.ev F];simp[A]
theorem nc_ {t:TypeId} {x y:Operand} {b off:Nat} (i:Nat) {h q:List Value} {z u:Value} {T:TypeId} (I:∀ w,(sizeOf t).run P w=.ok 1 w)
    (G:Fr.ev fr x=some (.pointer (some ⟨b,off,none⟩))) (C:Fr.ev fr y=some u) (hi:H[i]? = some (b,.cells (h++z::q).toArray T (0,0))) (E:off=h.length) (B:u.cells=#[u]) (A:u.oneCell'=true)
    (hk:Ops P R N v0 H0 ops l K fr (H.set i (b,.cells (h++u::q).toArray T (0,0))) Γ) :
    Ops P R N v0 H0 ops (⟨none,.store t x y,ty,ps,af,none⟩::l) K fr H Γ:=by
  subst E;refine z_ i I G C hi (by rw[B];rfl) zj_ (by rw[B];simpa using A) ?_
  have e:(((h++z::q).toArray.toList.take h.length++u.cells.toList++(h++z::q).toArray.toList.drop (h.length+1)).toArray)=(h++u::q).toArray:=by
    rw[B]
    have F:(h++z::q).drop (h.length+1)=q:=by
      rw[← List.drop_drop];simp
    simp[F]
  rw[e];exact hk
theorem qk_ {b cap n:Nat}:sad (some ⟨b,0,none⟩) cap 0 n=some ⟨b,0,none⟩:=by unfold sad;split<;>simp[cj_]
end
end Go.Sx
namespace Go.Sx
open Go
section
variable {P:Program} {N:Nf} {v0:Vw} {H0:Hp} {R:Exit→Act→World→Prop} {K:List Kt} {fr:Fr} {H:Hp} {Γ:List Fct}
variable {ops:Array Oper} {l:List Oper} {d:Nat} {ty:TypeId} {ps:String} {af:Array Edge}
theorem fs_ {x y:Operand} {t e:TypeId} {sz by' n m c:Nat} {sv:Value} {xs news:List Value} {Hr F:Hp} {ad:Option Addr} (L:Elt P t e sz by') (q:ax_ e sz sv n xs Hr)
    (S:Fr.ev fr x=some sv) (Q:Fr.ev fr y=some (.slice ad m c)) (V:ad=none→c=0) (Z:m≤c) (C:H.Perm (Hr++F)) (hl:news.length=m*sz) (A:∀ v,v.sat H→ac_ Γ v→bu_ v ad news) (O:∀ u∈news,u.oneCell'=true)
    (G:n+m≤maxLen) (X:(n+m)*by'≤140737488355328) (U:Nat.blt d N.n=true)
    (hk:∀ sv' Hr',ax_ e sz sv' (n+m) (xs++news) Hr'→Ops P R N v0 H0 ops l K ((d,sv')::fr) (Hr'++F) Γ) :
    Ops P R N v0 H0 ops (⟨some d,.call ⟨.builtin .append,#[x,y],#[t,t]⟩,ty,ps,af,none⟩::l) K fr H Γ:=by
  cases ad with
  | none =>
    obtain rfl:=V rfl;obtain rfl:m=0:=by omega
    obtain rfl:news=[]:=List.eq_nil_of_length_eq_zero (by simpa using hl);refine co_ rfl fun a v B E M J=>?_;obtain⟨i,z,hi,V,es,eb,ez⟩:=L.info;have g:=E.perm C;have Y:=q.owns g;have W:=run_append_owned_none (P:=P) (w:=v.w) 0 t ty e i sz L.und hi sv n xs Y;unfold Oper.wp execOp;simp only[resolve,invoke,builtin,Sem.run_bind,Sem.run_pure,Result.andThen_ok,List.map_toArray,List.map_cons,List.map_nil,B.ev S,B.ev Q,W];have T:v.to H v (Hr++F):=(Vw.to.refl v (Hr++F)).permL C.symm;exact hk sv Hr zah_ _ v (B.put U) g (M.trans T) J
  | some a0 =>
    refine am_ L q S Q C hl (fun v E J j u I=>?_) O G X U hk;rcases A v E J with h|⟨b,off,arr,T,fz,B,_,M,h5⟩
    · rw[h]at I;simp at I
    · rw[Option.some.injEq]at B
      subst B;have:=h5 j u I;rw[cj_];simp[World.cell?,M,this]
theorem oy_ {t e:TypeId} {sz:Nat} (h:∀ w,(underlying t).run P w=.ok (.slice e) w) (y:∀ w,(sizeOf e).run P w=.ok sz w) (q:Nat.blt d N.n=true)
    (hk:∀ b,Ops P R N v0 H0 ops l K ((d,.slice (some ⟨b,0,none⟩) 0 0)::fr) ((b,.cells #[] e (0,0))::H) Γ):Ops P R N v0 H0 ops (⟨some d,.buildSlice t 0 #[],ty,ps,af,none⟩::l) K fr H Γ :=
  gt_ (x:=fun b=>.slice (some ⟨b,0,none⟩) 0 0) q (fun a v A C B=>by
    simp only[execOp,Instr.buildSlice,Sem.run_bind,h,Result.andThen_ok,y,List.map_toArray];rw[if_neg za_,if_pos za_,Nat.zero_mul,show Array.range 0=#[] by simp];simp only[Sem.run_bind,Sem.run_pure,Result.andThen_ok,List.map_nil,List.map_toArray,List.toList_toArray,Instr.fill];rfl) hk
theorem bn_ {k:Act→World→Prop} {e:TypeId} {sz n:Nat} {sv:Value} {xs:List Value} {Hr F:Hp} (y:ax_ e sz sv n xs Hr) (A:H.Perm (Hr++F))
    (h:∀ ad cap,sv=.slice ad n cap→n≤cap→cap≤maxLen→(ad=none→cap=0)→Ok N v0 H0 k fr F (ai_ ad xs::Γ)):Ok N v0 H0 k fr H Γ:=by
  refine ju_ y A fun ad cap q E C=>h ad cap q E C fun B=>?_;rcases y.2 with⟨x,_,_⟩|⟨g,c,cur,x,_⟩
  · rw[x]at q
    simp only[Value.slice.injEq]at q;exact q.2.2.symm
  · rw[x,B]at q
    simp at q
end
end Go.Sx
namespace Go.Sx
open Go
section
variable {P:Program} {N:Nf} {fr:Fr} {H:Hp} {Γ:List Fct} {ty:TypeId} {e:TypeId} {sz n:Nat} {sv:Value} {xs:List Value} {Hr F:Hp}
theorem dV_ {O:Hp}:List.Perm (O++[]) O:=by rw[List.append_nil]
theorem aX_ {O Q:Hp}:List.Perm (Q++O) (O++Q):=List.perm_append_comm
theorem H_ {O:Hp} {b:Nat×Obj}:List.Perm (b::O) (O++[b]):=List.perm_append_comm (l₁:=[b])
theorem sU_ {H:Hp}:List.Perm ([]++H) H:=.refl _
def svB:Value→Nat
  | .slice (some a) _ _=>a.block
  | _=>0
theorem eU_ {x:Operand} {t A:TypeId} (h:ax_ e sz sv n xs Hr) (y:∀ w,(underlying t).run P w=.ok (.slice A) w) (q:Fr.ev fr x=some sv):Yld P N fr H Γ (.call ⟨.builtin .len,#[x],#[t]⟩) ty (.int .i64 (n:Int)):=by
 rcases h.2 with⟨rfl,rfl,_⟩|⟨g,cap,cur,rfl,_⟩
 ·exact dC_ y q
 exact dC_ y q
theorem bH_ {x y:Operand} {t q:TypeId} {k:IntKind} {i:Int} (h:ax_ e sz sv n xs Hr) (B:∀ w,(underlying t).run P w=.ok (.slice q) w) (E:∀ w,(sizeOf q).run P w=.ok sz w) (A:Fr.ev fr x=some sv) (G:Fr.ev fr y=some (.int k i)) (C:0≤i) (hl:i<n) :
    Yld P N fr H Γ (.indexAddr t x y) ty (.pointer (some ⟨svB sv,i.toNat*sz,none⟩)):=by
  rcases h.2 with⟨_,I,_⟩|⟨g,cap,cur,rfl,_⟩
  · omega
  · have:=eW_ (P:=P) (N:=N) (H:=H) (Γ:=Γ) (ty:=ty) B E A G C hl
    rw[Nat.zero_add]at this;exact this
theorem eV_ {x:Operand} {t:TypeId} {k m:Nat} {us:List Value} (h:ax_ e sz sv n xs Hr) (E:H.Perm (Hr++F)) (I:∀ w,(isAgg t).run P w=.ok true w) (S:∀ w,(sizeOf t).run P w=.ok m w) (Q:Fr.ev fr x=some (.pointer (some ⟨svB sv,k,none⟩)))
    (L:us.length=m) (V:0<m) (C:∀ j y,us[j]? = some y→xs[k+j]? = some y):Yld P N fr H Γ (.load t x) ty (.agg us.toArray):=by
  rcases h.2 with⟨_,B,_⟩|⟨g,cap,cur,rfl,rfl,W,T,U,M⟩
  · subst B
    have J:=h.1;have:xs=[]:=List.eq_nil_of_length_eq_zero (by simpa using J);subst this;have:=C 0 us[0] (List.getElem?_eq_getElem za_);simp at this
  · refine gJ_ Q fun v B _=>dP_ I S L fun j y G=>?_
    have O:=((B.perm E).own _ (List.mem_append_left _ List.mem_cons_self)).1;have q:=C j y G;rw[← M,List.getElem?_take]at q
    split at q
    · have A:cur[k+j]? = some y:=by simpa using q
      simp only[svB,World.cell?,O,Option.isSome_none,Bool.false_eq_true,if_false];exact A
    · cases q
end
end Go.Sx
namespace Go.Sx
open Go
section
variable {P:Program} {N:Nf} {fr:Fr} {H:Hp} {Γ:List Fct} {ty:TypeId} {e:TypeId} {sz n:Nat} {sv:Value} {xs:List Value} {Hr F:Hp}
theorem cU_ {x:Operand} {t:TypeId} {k:Nat} {u:Value} (h:ax_ e sz sv n xs Hr) (B:H.Perm (Hr++F)) (C:∀ w,(isAgg t).run P w=.ok false w) (I:Fr.ev fr x=some (.pointer (some ⟨svB sv,k,none⟩)))
    (q:xs[k]? = some u):Yld P N fr H Γ (.load t x) ty u:=by
  rcases h.2 with⟨_,A,_⟩|⟨g,cap,cur,rfl,rfl,M,J,L,E⟩
  · subst A
    have:xs=[]:=List.eq_nil_of_length_eq_zero (by simpa using h.1);subst this;simp at q
  · refine gJ_ I fun v A _=>cE_ C ?_
    have G:=((A.perm B).own _ (List.mem_append_left _ List.mem_cons_self)).1;rw[← E,List.getElem?_take]at q
    split at q
    · have y:cur[k]? = some u:=by simpa using q
      simp only[svB,World.cell?,G,Option.isSome_none,Bool.false_eq_true,if_false];exact y
    · cases q
theorem fq_ (h:ax_ e sz sv n xs Hr):sv.cells=#[sv]∧sv.oneCell'=true:=by
  rcases h.2 with⟨rfl,_⟩|⟨g,cap,cur,rfl,_⟩<;>exact⟨rfl,rfl⟩
theorem dM_ {v0:Vw} {H0:Hp} {R:Exit→Act→World→Prop} {K:List Kt} {ops:Array Oper} {l:List Oper} {ps:String} {af:Array Edge} {t:TypeId} {x y:Operand} {b off:Nat} (i:Nat) {cur:Array Value} {T:TypeId} (h:ax_ e sz sv n xs Hr) (C:∀ w,(sizeOf t).run P w=.ok 1 w)
    (B:Fr.ev fr x=some (.pointer (some ⟨b,off,none⟩))) (A:Fr.ev fr y=some sv) (hi:H[i]? = some (b,.cells cur T (0,0))) (q:Nat.ble (off+1) cur.size=true)
    (hk:Ops P R N v0 H0 ops l K fr (H.set i (b,.cells (cur.toList.take off++[sv]++cur.toList.drop (off+1)).toArray T (0,0))) Γ):Ops P R N v0 H0 ops (⟨none,.store t x y,ty,ps,af,none⟩::l) K fr H Γ :=
  z_ i C B A hi (by rw[(fq_ h).1];rfl) q (by rw[(fq_ h).1];simp[(fq_ h).2]) (by rw[(fq_ h).1];exact hk)
theorem mu_ {x y:Operand} {t q:TypeId} {m k:Int} (h:Fr.ev fr x=some (.int .i64 m)) (A:Fr.ev fr y=some (.int .i64 k)):Yld P N fr H Γ (.call ⟨.builtin .max,#[x,y],#[t,q]⟩) ty (.int .i64 (max m k)):=by
  have e:(if m<k then k else m)=max m k:=by split<;>omega
  exact e▸xa_ h A
theorem jJ_ {x y:Operand} {t q:TypeId} {m k:Int} (h:Fr.ev fr x=some (.int .i64 m)) (A:Fr.ev fr y=some (.int .i64 k)):Yld P N fr H Γ (.call ⟨.builtin .min,#[x,y],#[t,q]⟩) ty (.int .i64 (min m k)):=by
  have e:(if k<m then k else m)=min m k:=by split<;>omega
  exact e▸sC_ h A
theorem fe_ {b:Nat} {cs:List Value} {T:TypeId} {fz:Nat×Nat} (x:H.Perm ([(b,.cells cs.toArray T fz)]++F)):∀ v:Vw,v.sat H→ac_ Γ v→∀ j u,cs[j]? = some u→v.w.cell? ((⟨b,0,none⟩:Addr).add j)=some u:=by
  intro v y q j u h;exact aR_ (Γ:=Γ) 0 rfl v (y.perm x) q j u h
theorem fp_ {t B:TypeId} {x y:Operand} {m n:Bool} (A:P.underlying t=some .bool) (q:Fr.ev fr x=some (.bool m)) (C:Fr.ev fr y=some (.bool n)):Yld P N fr H Γ (.binOp .eql t x y B) ty (.bool (m==n)) :=
  fun a v h _ _ _ _ _=>by simp[execOp,h.ev q,h.ev C,eqGuard,binOp,run_equal_bool v.w t m n A]
theorem aE_ {α:Type} {f:α→List Value} (q:∀ x,(f x).all Value.oneCell'=true) {l:List α} {u:Value} (h:u∈l.flatMap f):u.oneCell'=true:=by
  obtain⟨y,_,A⟩:=List.mem_flatMap.1 h;exact List.all_eq_true.1 (q y) u A
end
end Go.Sx
namespace Go.Vs
open Go Go.Sx
structure RevI (L M:List Int) (k:Nat):Prop where
  len:M.length=L.length
  k2:2*k≤L.length+1
  get:∀ i:Nat,i<L.length→M[i]? = if i<k∨L.length≤i+k then L[L.length - 1 - i]? else L[i]?
theorem RevI.zero (L:List Int):RevI L L 0:=⟨rfl,by omega,fun i hi=>by rw[if_neg za_]⟩
theorem RevI.step {L M:List Int} {k:Nat} {a b:Int} (h:RevI L M k) (hk:(k:Int)<(L.length:Int) - 1 - (k:Int)) (A:M[L.length - 1 - k]? = some a) (B:M[k]? = some b):RevI L ((M.set k a).set (L.length - 1 - k) b) (k+1):=by
 have hl:=h.len;refine⟨by simp[hl],by omega,fun i hi=>?_⟩;have e:=h.get (L.length - 1 - k) za_;have y:=h.get k za_;rw[if_neg za_]at e y;rw[List.getElem?_set,List.getElem?_set,List.length_set]
 by_cases x:L.length - 1 - k=i
 ·rw[if_pos x,if_pos za_,if_pos za_]
  rw[← B,y];congr 1;omega
 rw[if_neg x]
 by_cases d:k=i
 ·rw[if_pos d,if_pos za_,if_pos za_,← A,e,d]
 rw[if_neg d,h.get i hi]
 by_cases q:i<k∨L.length≤i+k
 ·rw[if_pos q,if_pos za_]
 rw[if_neg q,if_neg za_]
theorem RevI.done {L M:List Int} {k:Nat} (h:RevI L M k) (hk:¬ (k:Int)<(L.length:Int) - 1 - (k:Int)):M=L.reverse:=by
 apply List.ext_getElem?
 intro i
 by_cases hi:i<L.length
 ·rw[h.get i hi,List.getElem?_reverse hi]
  by_cases e:i<k∨L.length≤i+k
  ·rw[if_pos e]
  rw[if_neg e];congr 1;omega
 rw[List.getElem?_eq_none (by rw[h.len];omega),List.getElem?_eq_none zn_]
end Go.Vs
namespace Go.Proofs
open Go.Shelf
def Tryz.lays156_ren:Go.Shelf.Ren:=⟨fun|156=>252|165=>258|166=>259|169=>260|240=>263|241=>264|276=>266|277=>267|n=>n,fun|31=>25|9=>9|3=>3|4=>4|0=>0|20=>20|72=>284|76=>288|70=>282|37=>247|75=>287|127=>291|164=>297|5=>5|80=>290|n=>n,fun|n=>n⟩
theorem Tryz.lays156:Go.Proofs.Lays.n156 Tryz.prog Tryz.lays156_ren:={
  mixed:=by kernel_rfl
  f156:=Tryz.func252.trans (congrArg some zd_)
  f165:=Tryz.func258.trans (congrArg some zd_)
  f166:=Tryz.func259.trans (congrArg some zd_)
  f169:=Tryz.func260.trans (congrArg some zd_)
  f240:=Tryz.func263.trans (congrArg some zd_)
  f241:=Tryz.func264.trans (congrArg some zd_)
  f276:=Tryz.func266.trans (congrArg some zd_)
  f277:=Tryz.func267.trans (congrArg some zd_)
  t0:=Tryz.underlying0
  a0:=Tryz.isAgg0
  z0:=Tryz.sizeOf0
  v0:=Tryz.zeroValue0
  t3:=Tryz.underlying3
  a3:=Tryz.isAgg3
  z3:=Tryz.sizeOf3
  v3:=Tryz.zeroValue3
  t4:=Tryz.underlying4
  a4:=Tryz.isAgg4
  z4:=Tryz.sizeOf4
  v4:=Tryz.zeroValue4
  t9:=Tryz.underlying9
  a9:=Tryz.isAgg9
  z9:=Tryz.sizeOf9
  v9:=Tryz.zeroValue9
  t20:=Tryz.underlying20
  a20:=Tryz.isAgg20
  z20:=Tryz.sizeOf20
  v20:=Tryz.zeroValue20
  t31:=Tryz.underlying25
  a31:=Tryz.isAgg25
  z31:=Tryz.sizeOf25
  v31:=Tryz.zeroValue25
  t37:=Tryz.underlying247
  a37:=Tryz.isAgg247
  z37:=Tryz.sizeOf247
  v37:=Tryz.zeroValue247
  t70:=Tryz.underlying282
  a70:=Tryz.isAgg282
  z70:=Tryz.sizeOf282
  v70:=Tryz.zeroValue282
  t72:=Tryz.underlying284
  a72:=Tryz.isAgg284
  z72:=Tryz.sizeOf284
  v72:=Tryz.zeroValue284
  t75:=Tryz.underlying287
  a75:=Tryz.isAgg287
  z75:=Tryz.sizeOf287
  v75:=Tryz.zeroValue287
  t76:=Tryz.underlying288
  a76:=Tryz.isAgg288
  z76:=Tryz.sizeOf288
  v76:=Tryz.zeroValue288
  t127:=Tryz.underlying291
  a127:=Tryz.isAgg291
  z127:=Tryz.sizeOf291
  v127:=Tryz.zeroValue291
  t164:=Tryz.underlying297
  a164:=Tryz.isAgg297
  z164:=Tryz.sizeOf297
  v164:=Tryz.zeroValue297 }
theorem Tryz.Builder_Extra_156:Builder.Extra Tryz.prog Tryz.lays156_ren:={
  sizeBuilder:=by kernel_rfl
  liesBuilder:=by kernel_rfl
  t5:=Tryz.underlying5
  a5:=Tryz.isAgg5
  z5:=Tryz.sizeOf5
  v5:=Tryz.zeroValue5
  infoByte:=by kernel_rfl
  cellsByte:=by kernel_rfl
  sizeByte:=by kernel_rfl
  neB5:=by decide }
open Go.RowKit in
theorem Tryz.strings_Join (bk o c:Nat) (q:List ByteArray) (d:ByteArray) (w:World) (h:∀ (j:Nat) x,q[j]? = some x→w.cell? ⟨bk,o+j,none⟩=some (.string x)) (B:bk<w.heap.size) (C:q.length≤140737488355328) (y:q.length≤c) (A:(Lib.join (q.map (·.data.toList)) d.data.toList).length≤140737488355328) :
    Calls Tryz.prog 252 #[.slice (some ⟨bk,o,none⟩) q.length c,.string d] w fun e w'=>e=.returned (.string ⟨(Lib.join (q.map (·.data.toList)) d.data.toList).toArray⟩)∧Below w.heap.size w w':=Any.strings_Join Tryz.lays156 Tryz.Builder_Extra_156 bk o c q d w h B C y A
def Tryz.lays122_ren:Go.Shelf.Ren:=⟨fun|122=>135|215=>174|n=>n,fun|3=>3|4=>4|n=>n,fun|n=>n⟩
theorem Tryz.lays122:Go.Proofs.Lays.n122 Tryz.prog Tryz.lays122_ren:={
  mixed:=by kernel_rfl
  f122:=Tryz.func135.trans (congrArg some zd_)
  f215:=Tryz.func174.trans (congrArg some zd_)
  t3:=Tryz.underlying3
  a3:=Tryz.isAgg3
  z3:=Tryz.sizeOf3
  v3:=Tryz.zeroValue3
  t4:=Tryz.underlying4
  a4:=Tryz.isAgg4
  z4:=Tryz.sizeOf4
  v4:=Tryz.zeroValue4 }
open Go.RowKit in
theorem Tryz.cmp_Compare_int (x y:Int) (w:World) :
    Calls Tryz.prog 135 #[.int .i64 x,.int .i64 y] w fun e w'=>e=.returned (.int .i64 (Lib.compareInt x y))∧w'=w:=Any.cmp_Compare_int Tryz.lays122 x y w
def Tryz.laysM171_ren:Go.Shelf.Ren:=⟨fun|171=>254|243=>261|246=>265|283=>268|284=>269|285=>270|286=>271|129=>173|317=>272|318=>273|319=>274|320=>275|337=>276|338=>277|n=>n,fun|3=>3|9=>9|2=>2|4=>4|171=>300|0=>0|53=>221|37=>247|5=>5|173=>302|212=>305|51=>219|20=>20|213=>306|46=>44|232=>307|233=>308|n=>n,fun|17=>6|18=>7|19=>8|n=>n⟩
theorem Tryz.laysM171:Go.Proofs.LaysM.n171 Tryz.prog Tryz.laysM171_ren:={
  mixed:=by kernel_rfl
  f129:=Tryz.func173.trans (congrArg some zd_)
  f171:=Tryz.func254.trans (congrArg some zd_)
  f243:=Tryz.func261.trans (congrArg some zd_)
  f246:=Tryz.func265.trans (congrArg some zd_)
  f283:=Tryz.func268.trans (congrArg some zd_)
  f284:=Tryz.func269.trans (congrArg some zd_)
  f285:=Tryz.func270.trans (congrArg some zd_)
  f286:=Tryz.func271.trans (congrArg some zd_)
  f317:=Tryz.func272.trans (congrArg some zd_)
  f318:=Tryz.func273.trans (congrArg some zd_)
  f319:=Tryz.func274.trans (congrArg some zd_)
  f320:=Tryz.func275.trans (congrArg some zd_)
  f337:=Tryz.func276.trans (congrArg some zd_)
  f338:=Tryz.func277.trans (congrArg some zd_)
  t0:=Tryz.underlying0
  a0:=Tryz.isAgg0
  z0:=Tryz.sizeOf0
  v0:=Tryz.zeroValue0
  t2:=Tryz.underlying2
  a2:=Tryz.isAgg2
  z2:=Tryz.sizeOf2
  v2:=Tryz.zeroValue2
  t3:=Tryz.underlying3
  a3:=Tryz.isAgg3
  z3:=Tryz.sizeOf3
  v3:=Tryz.zeroValue3
  t4:=Tryz.underlying4
  a4:=Tryz.isAgg4
  z4:=Tryz.sizeOf4
  v4:=Tryz.zeroValue4
  t5:=Tryz.underlying5
  a5:=Tryz.isAgg5
  z5:=Tryz.sizeOf5
  v5:=Tryz.zeroValue5
  t9:=Tryz.underlying9
  a9:=Tryz.isAgg9
  z9:=Tryz.sizeOf9
  v9:=Tryz.zeroValue9
  t20:=Tryz.underlying20
  a20:=Tryz.isAgg20
  z20:=Tryz.sizeOf20
  v20:=Tryz.zeroValue20
  t37:=Tryz.underlying247
  a37:=Tryz.isAgg247
  z37:=Tryz.sizeOf247
  v37:=Tryz.zeroValue247
  t46:=Tryz.underlying44
  a46:=Tryz.isAgg44
  z46:=Tryz.sizeOf44
  v46:=Tryz.zeroValue44
  t51:=Tryz.underlying219
  a51:=Tryz.isAgg219
  z51:=Tryz.sizeOf219
  v51:=Tryz.zeroValue219
  t53:=Tryz.underlying221
  a53:=Tryz.isAgg221
  z53:=Tryz.sizeOf221
  v53:=Tryz.zeroValue221
  t171:=Tryz.underlying300
  a171:=Tryz.isAgg300
  z171:=Tryz.sizeOf300
  v171:=Tryz.zeroValue300
  t173:=Tryz.underlying302
  a173:=Tryz.isAgg302
  z173:=Tryz.sizeOf302
  v173:=Tryz.zeroValue302
  t212:=Tryz.underlying305
  a212:=Tryz.isAgg305
  z212:=Tryz.sizeOf305
  v212:=Tryz.zeroValue305
  t213:=Tryz.underlying306
  a213:=Tryz.isAgg306
  z213:=Tryz.sizeOf306
  t232:=Tryz.underlying307
  a232:=Tryz.isAgg307
  z232:=Tryz.sizeOf307
  v232:=Tryz.zeroValue307
  t233:=Tryz.underlying308
  a233:=Tryz.isAgg308
  z233:=Tryz.sizeOf308
  v233:=Tryz.zeroValue308
  g17:=by kernel_rfl
  g18:=by kernel_rfl
  g19:=by kernel_rfl
  i0:=by kernel_rfl
  i2:=by kernel_rfl
  i3:=by kernel_rfl
  i4:=by kernel_rfl
  i5:=by kernel_rfl
  i9:=by kernel_rfl
  i20:=by kernel_rfl
  i37:=by kernel_rfl
  i46:=by kernel_rfl
  i51:=by kernel_rfl
  i53:=by kernel_rfl
  i171:=by kernel_rfl
  i173:=by kernel_rfl
  i212:=by kernel_rfl
  i232:=by kernel_rfl
  i233:=by kernel_rfl
  m17:=by kernel_rfl
  m18:=by kernel_rfl
  m19:=by kernel_rfl }
open Go.RowKit Go.Sort Go.Lib in
theorem Tryz.strconv_Itoa (n : Int) (q : -9223372036854775808 ≤ n) (h : n ≤ 9223372036854775807) (w : World) (d : Lib.TabIs Tryz.prog w "internal/strconv.uint64pow10" .u64 Lib.pow10Tab) :
    Calls Tryz.prog 254 #[.int .i64 n] w fun e w'=>e=.returned (.string ⟨(Lib.itoa n).toArray⟩)∧∃ k os,w'=grow (w.drewN k) os:=Any.strconv_Itoa Tryz.laysM171 n q h w d
def Tryz.lays219_ren:Go.Shelf.Ren:=⟨fun|219=>212|217=>225|225=>226|224=>227|267=>228|266=>249|314=>250|n=>n,fun|9=>9|3=>3|4=>4|5=>5|46=>44|146=>274|51=>219|n=>n,fun|1=>3|n=>n⟩
theorem Tryz.lays219:Go.Proofs.Lays.n219 Tryz.prog Tryz.lays219_ren:={
  mixed:=by kernel_rfl
  f217:=Tryz.func225.trans (congrArg some zd_)
  f219:=Tryz.func212.trans (congrArg some zd_)
  f224:=Tryz.func227.trans (congrArg some zd_)
  f225:=Tryz.func226.trans (congrArg some zd_)
  f266:=Tryz.func249.trans (congrArg some zd_)
  f267:=Tryz.func228.trans (congrArg some zd_)
  f314:=Tryz.func250.trans (congrArg some zd_)
  t3:=Tryz.underlying3
  a3:=Tryz.isAgg3
  z3:=Tryz.sizeOf3
  v3:=Tryz.zeroValue3
  t4:=Tryz.underlying4
  a4:=Tryz.isAgg4
  z4:=Tryz.sizeOf4
  v4:=Tryz.zeroValue4
  t5:=Tryz.underlying5
  a5:=Tryz.isAgg5
  z5:=Tryz.sizeOf5
  v5:=Tryz.zeroValue5
  t9:=Tryz.underlying9
  a9:=Tryz.isAgg9
  z9:=Tryz.sizeOf9
  v9:=Tryz.zeroValue9
  t46:=Tryz.underlying44
  a46:=Tryz.isAgg44
  z46:=Tryz.sizeOf44
  v46:=Tryz.zeroValue44
  t51:=Tryz.underlying219
  a51:=Tryz.isAgg219
  z51:=Tryz.sizeOf219
  v51:=Tryz.zeroValue219
  t146:=Tryz.underlying274
  a146:=Tryz.isAgg274
  z146:=Tryz.sizeOf274
  v146:=Tryz.zeroValue274
  g1:=by kernel_rfl }
open Go.RowKit Go.Lib in
theorem Tryz.stringslite_Index_one (s:ByteArray) (c:UInt8) (w:World) :
    Calls Tryz.prog 212 #[.string s,.string ⟨#[c]⟩] w fun e w'=>e=.returned (.int .i64 (Lib.indexByte s.data.toList c))∧w'=w:=Any.stringslite_Index_one Tryz.lays219 s c w
def Tryz.lays143_ren:Go.Shelf.Ren:=⟨fun|143=>247|219=>212|217=>225|225=>226|224=>227|267=>228|266=>249|314=>250|n=>n,fun|9=>9|3=>3|4=>4|5=>5|46=>44|146=>274|51=>219|n=>n,fun|1=>3|n=>n⟩
theorem Tryz.lays143:Go.Proofs.Lays.n143 Tryz.prog Tryz.lays143_ren:={
  mixed:=by kernel_rfl
  f143:=Tryz.func247.trans (congrArg some zd_)
  f217:=Tryz.func225.trans (congrArg some zd_)
  f219:=Tryz.func212.trans (congrArg some zd_)
  f224:=Tryz.func227.trans (congrArg some zd_)
  f225:=Tryz.func226.trans (congrArg some zd_)
  f266:=Tryz.func249.trans (congrArg some zd_)
  f267:=Tryz.func228.trans (congrArg some zd_)
  f314:=Tryz.func250.trans (congrArg some zd_)
  t3:=Tryz.underlying3
  a3:=Tryz.isAgg3
  z3:=Tryz.sizeOf3
  v3:=Tryz.zeroValue3
  t4:=Tryz.underlying4
  a4:=Tryz.isAgg4
  z4:=Tryz.sizeOf4
  v4:=Tryz.zeroValue4
  t5:=Tryz.underlying5
  a5:=Tryz.isAgg5
  z5:=Tryz.sizeOf5
  v5:=Tryz.zeroValue5
  t9:=Tryz.underlying9
  a9:=Tryz.isAgg9
  z9:=Tryz.sizeOf9
  v9:=Tryz.zeroValue9
  t46:=Tryz.underlying44
  a46:=Tryz.isAgg44
  z46:=Tryz.sizeOf44
  v46:=Tryz.zeroValue44
  t51:=Tryz.underlying219
  a51:=Tryz.isAgg219
  z51:=Tryz.sizeOf219
  v51:=Tryz.zeroValue219
  t146:=Tryz.underlying274
  a146:=Tryz.isAgg274
  z146:=Tryz.sizeOf274
  v146:=Tryz.zeroValue274
  g1:=by kernel_rfl }
open Go.RowKit Go.Lib in
theorem Tryz.strings_Index_one (s:ByteArray) (c:UInt8) (w:World) :
    Calls Tryz.prog 247 #[.string s,.string ⟨#[c]⟩] w fun e w'=>e=.returned (.int .i64 (Lib.indexByte s.data.toList c))∧w'=w:=Any.strings_Index_one Tryz.lays143 s c w
def Tryz.lays138_ren:Go.Shelf.Ren:=⟨fun|138=>246|195=>255|218=>257|143=>247|219=>212|217=>225|225=>226|224=>227|267=>228|266=>249|314=>250|n=>n,fun|9=>9|3=>3|4=>4|5=>5|0=>0|46=>44|146=>274|51=>219|n=>n,fun|1=>3|n=>n⟩
theorem Tryz.lays138:Go.Proofs.Lays.n138 Tryz.prog Tryz.lays138_ren:={
  mixed:=by kernel_rfl
  f138:=Tryz.func246.trans (congrArg some zd_)
  f143:=Tryz.func247.trans (congrArg some zd_)
  f195:=Tryz.func255.trans (congrArg some zd_)
  f217:=Tryz.func225.trans (congrArg some zd_)
  f218:=Tryz.func257.trans (congrArg some zd_)
  f219:=Tryz.func212.trans (congrArg some zd_)
  f224:=Tryz.func227.trans (congrArg some zd_)
  f225:=Tryz.func226.trans (congrArg some zd_)
  f266:=Tryz.func249.trans (congrArg some zd_)
  f267:=Tryz.func228.trans (congrArg some zd_)
  f314:=Tryz.func250.trans (congrArg some zd_)
  t0:=Tryz.underlying0
  a0:=Tryz.isAgg0
  z0:=Tryz.sizeOf0
  v0:=Tryz.zeroValue0
  t3:=Tryz.underlying3
  a3:=Tryz.isAgg3
  z3:=Tryz.sizeOf3
  v3:=Tryz.zeroValue3
  t4:=Tryz.underlying4
  a4:=Tryz.isAgg4
  z4:=Tryz.sizeOf4
  v4:=Tryz.zeroValue4
  t5:=Tryz.underlying5
  a5:=Tryz.isAgg5
  z5:=Tryz.sizeOf5
  v5:=Tryz.zeroValue5
  t9:=Tryz.underlying9
  a9:=Tryz.isAgg9
  z9:=Tryz.sizeOf9
  v9:=Tryz.zeroValue9
  t46:=Tryz.underlying44
  a46:=Tryz.isAgg44
  z46:=Tryz.sizeOf44
  v46:=Tryz.zeroValue44
  t51:=Tryz.underlying219
  a51:=Tryz.isAgg219
  z51:=Tryz.sizeOf219
  v51:=Tryz.zeroValue219
  t146:=Tryz.underlying274
  a146:=Tryz.isAgg274
  z146:=Tryz.sizeOf274
  v146:=Tryz.zeroValue274
  g1:=by kernel_rfl }
open Go.RowKit Go.Lib in
theorem Tryz.strings_Count_one (s:ByteArray) (c:UInt8) (w:World) :
    Calls Tryz.prog 246 #[.string s,.string ⟨#[c]⟩] w fun e w'=>e=.returned (.int .i64 (Lib.countByte s.data.toList c))∧w'=w:=Any.strings_Count_one Tryz.lays138 s c w
def Tryz.lays190_ren:Go.Shelf.Ren:=⟨fun|190=>95|125=>133|258=>144|128=>172|129=>173|302=>180|303=>181|304=>182|305=>183|306=>184|307=>185|308=>152|309=>186|310=>187|333=>209|329=>197|330=>198|334=>210|335=>211|336=>175|344=>224|n=>n,fun|31=>25|9=>9|3=>3|46=>44|0=>0|51=>219|53=>221|4=>4|183=>213|182=>212|131=>157|5=>5|218=>237|222=>150|228=>261|229=>262|n=>n,fun|n=>n⟩
theorem Tryz.lays190:Go.Proofs.Lays.n190 Tryz.prog Tryz.lays190_ren:={
  mixed:=by kernel_rfl
  f125:=Tryz.func133.trans (congrArg some zd_)
  f128:=Tryz.func172.trans (congrArg some zd_)
  f129:=Tryz.func173.trans (congrArg some zd_)
  f190:=Tryz.func95.trans (congrArg some zd_)
  f258:=Tryz.func144.trans (congrArg some zd_)
  f302:=Tryz.func180.trans (congrArg some zd_)
  f303:=Tryz.func181.trans (congrArg some zd_)
  f304:=Tryz.func182.trans (congrArg some zd_)
  f305:=Tryz.func183.trans (congrArg some zd_)
  f306:=Tryz.func184.trans (congrArg some zd_)
  f307:=Tryz.func185.trans (congrArg some zd_)
  f308:=Tryz.func152.trans (congrArg some zd_)
  f309:=Tryz.func186.trans (congrArg some zd_)
  f310:=Tryz.func187.trans (congrArg some zd_)
  f329:=Tryz.func197.trans (congrArg some zd_)
  f330:=Tryz.func198.trans (congrArg some zd_)
  f333:=Tryz.func209.trans (congrArg some zd_)
  f334:=Tryz.func210.trans (congrArg some zd_)
  f335:=Tryz.func211.trans (congrArg some zd_)
  f336:=Tryz.func175.trans (congrArg some zd_)
  f344:=Tryz.func224.trans (congrArg some zd_)
  t0:=Tryz.underlying0
  a0:=Tryz.isAgg0
  z0:=Tryz.sizeOf0
  v0:=Tryz.zeroValue0
  t3:=Tryz.underlying3
  a3:=Tryz.isAgg3
  z3:=Tryz.sizeOf3
  v3:=Tryz.zeroValue3
  t4:=Tryz.underlying4
  a4:=Tryz.isAgg4
  z4:=Tryz.sizeOf4
  v4:=Tryz.zeroValue4
  t5:=Tryz.underlying5
  a5:=Tryz.isAgg5
  z5:=Tryz.sizeOf5
  v5:=Tryz.zeroValue5
  t9:=Tryz.underlying9
  a9:=Tryz.isAgg9
  z9:=Tryz.sizeOf9
  v9:=Tryz.zeroValue9
  t31:=Tryz.underlying25
  a31:=Tryz.isAgg25
  z31:=Tryz.sizeOf25
  v31:=Tryz.zeroValue25
  t46:=Tryz.underlying44
  a46:=Tryz.isAgg44
  z46:=Tryz.sizeOf44
  v46:=Tryz.zeroValue44
  t51:=Tryz.underlying219
  a51:=Tryz.isAgg219
  z51:=Tryz.sizeOf219
  v51:=Tryz.zeroValue219
  t53:=Tryz.underlying221
  a53:=Tryz.isAgg221
  z53:=Tryz.sizeOf221
  v53:=Tryz.zeroValue221
  t131:=Tryz.underlying157
  a131:=Tryz.isAgg157
  z131:=Tryz.sizeOf157
  v131:=Tryz.zeroValue157
  t182:=Tryz.underlying212
  a182:=Tryz.isAgg212
  z182:=Tryz.sizeOf212
  v182:=Tryz.zeroValue212
  t183:=Tryz.underlying213
  a183:=Tryz.isAgg213
  z183:=Tryz.sizeOf213
  v183:=Tryz.zeroValue213
  t218:=Tryz.underlying237
  a218:=Tryz.isAgg237
  z218:=Tryz.sizeOf237
  v218:=Tryz.zeroValue237
  t222:=Tryz.underlying150
  a222:=Tryz.isAgg150
  z222:=Tryz.sizeOf150
  v222:=Tryz.zeroValue150
  t228:=Tryz.underlying261
  a228:=Tryz.isAgg261
  z228:=Tryz.sizeOf261
  v228:=Tryz.zeroValue261
  t229:=Tryz.underlying262
  a229:=Tryz.isAgg262
  z229:=Tryz.sizeOf262
  v229:=Tryz.zeroValue262 }
open Go.Sort Go.RowKit in
theorem Tryz.slices_Sort_string (d off cap:Nat) (ss:List (List UInt8)) (w:World) (A:Holds encStr w d off ss.toArray) (h:d<w.heap.size) (q:ss.length<4611686018427387904) :
    Calls Tryz.prog 95 #[.slice (some ⟨d,off,none⟩) ss.length cap] w fun e w' =>
      e=.returned (.tuple #[])∧∃ n os,w'=grow (putRow encStr (Sort.ahead w n) d off (ss.mergeSort fun x y=>decide (x≤y)).toArray) os:=Any.slices_Sort_string Tryz.lays190 d off cap ss w A h q
def Tryz.lays194_ren:Go.Shelf.Ren:=⟨fun|194=>117|n=>n,fun|31=>25|9=>9|3=>3|4=>4|0=>0|n=>n,fun|n=>n⟩
theorem Tryz.lays194:Go.Proofs.Lays.n194 Tryz.prog Tryz.lays194_ren:={
  mixed:=by kernel_rfl
  f194:=Tryz.func117.trans (congrArg some zd_)
  t0:=Tryz.underlying0
  a0:=Tryz.isAgg0
  z0:=Tryz.sizeOf0
  v0:=Tryz.zeroValue0
  t3:=Tryz.underlying3
  a3:=Tryz.isAgg3
  z3:=Tryz.sizeOf3
  v3:=Tryz.zeroValue3
  t4:=Tryz.underlying4
  a4:=Tryz.isAgg4
  z4:=Tryz.sizeOf4
  v4:=Tryz.zeroValue4
  t9:=Tryz.underlying9
  a9:=Tryz.isAgg9
  z9:=Tryz.sizeOf9
  v9:=Tryz.zeroValue9
  t31:=Tryz.underlying25
  a31:=Tryz.isAgg25
  z31:=Tryz.sizeOf25
  v31:=Tryz.zeroValue25 }
open Go.RowKit Go.Lib Go.Sort in
theorem Tryz.slices_Compact_string (d off cap:Nat) (h:List (List UInt8)) (w:World) (A:Holds encStr w d off h.toArray) (y:h.length≤9223372036854775807) (x:h.length≤cap) :
    Calls Tryz.prog 117 #[.slice (some ⟨d,off,none⟩) h.length cap] w fun e w'=>e=.returned (.slice (some ⟨d,off,none⟩) (Lib.compact h).length cap)∧∃ q,w'=putRow encStr (Sort.ahead w q) d off (Lib.compact h++List.replicate (h.length - (Lib.compact h).length) []).toArray:=Any.slices_Compact_string Tryz.lays194 d off cap h w A y x
open Go.RowKit Go.Lib Go.Sort in
theorem Tryz.slices_Compact_string_empty (a:Option Addr) (cap:Nat) (w:World) :
    Calls Tryz.prog 117 #[.slice a 0 cap] w fun e w'=>e=.returned (.slice a 0 cap)∧w'=w:=Any.slices_Compact_string_empty Tryz.lays194 a cap w
open Go.RowKit Go.Sort in
theorem Tryz.slices_Sort_string_none (p:Option Addr) (cap:Nat) (w:World) :
    Calls Tryz.prog 95 #[.slice p 0 cap] w fun e w'=>e=.returned (.tuple #[])∧w'=w:=Any.slices_Sort_string_none Tryz.lays190 p cap w
end Go.Proofs
namespace Go.Proofs
open Go.Shelf
def Tryz.lays106_ren:Go.Shelf.Ren:=⟨fun|106=>86|213=>141|265=>178|n=>n,fun|9=>9|3=>3|n=>n,fun|n=>n⟩
theorem Tryz.lays106:Go.Proofs.Lays.n106 Tryz.prog Tryz.lays106_ren:={
  mixed:=by kernel_rfl
  f106:=Tryz.func86.trans (congrArg some zd_)
  f213:=Tryz.func141.trans (congrArg some zd_)
  f265:=Tryz.func178.trans (congrArg some zd_)
  t3:=Tryz.underlying3
  a3:=Tryz.isAgg3
  z3:=Tryz.sizeOf3
  v3:=Tryz.zeroValue3
  t9:=Tryz.underlying9
  a9:=Tryz.isAgg9
  z9:=Tryz.sizeOf9
  v9:=Tryz.zeroValue9 }
open Go.RowKit in
theorem Tryz.strings_Compare (a b:ByteArray) (w:World) :
    Calls Tryz.prog 86 #[.string a,.string b] w fun e w'=>e=.returned (.int .i64 (Lib.compareBytes a.data.toList b.data.toList))∧w'=w:=Any.strings_Compare Tryz.lays106 a b w
end Go.Proofs
namespace Go.Sx
open Go
structure Cn (n:Nat) (G:Prop):Prop where
  go:G
structure Kw (A:Prop):Prop where
  go:A
theorem cn {n:Nat} {G G1:Prop} (k:G1→G) (h:Cn n G1):Cn (n+1) G:=⟨k h.go⟩
theorem cn0 {G:Prop} (h:G):Cn 0 G:=⟨h⟩
def noG (x:Value) (want:Bool):Bool:=match x with|.bool b=>Bool.xor b want|_=>true
section
variable {P:Program} {N:Nf} {v0:Vw} {H0:Hp} {R:Exit→Act→World→Prop} {K:List Kt} {fr:Fr} {H:Hp} {Γ:List Fct} {ops:Array Oper} {l:List Oper} {d:Nat} {ty:TypeId} {ps:String} {af:Array Edge} {Hs:Hp} {Γs:List Fct} {fuel:Nat} {listed:Array Bool}
theorem sV_ {op:Op} {j t:Nat} {want:Bool} {x:Value} (hj:iu_ ops j=some t) (hx:Fr.get fr t=some x) (hne:noG x want=true) (hN:Nat.blt d N.n=true)
    (h:Ops P R N v0 H0 ops l K ((d,undef)::fr) H Γ):Ops P R N v0 H0 ops (⟨some d,op,ty,ps,af,some (j,want)⟩::l) K fr H Γ:=ops_no hj hx (by cases x<;>first|rfl|exact hne) hN h
theorem sq_noG [NoPan R] {i:Nat} {is:List Nat} {op:Op} {x:Value} {j t:Nat} {want:Bool} (hi:ops[i]? = some ⟨some d,op,ty,ps,af,some (j,want)⟩) (hj:iu_ ops j=some t) (hx:Fr.get fr t=some x) (hne:noG x want=true) (hN:Nat.blt d N.n=true)
    (h:Sq P R N v0 H0 ops Hs Γs is fuel (listed.setIfInBounds i true) K ((d,undef)::fr) H Γ):Sq P R N v0 H0 ops Hs Γs (i::is) fuel listed K fr H Γ:=sq_no hi hj hx (by cases x<;>first|rfl|exact hne) hN h
end
end Go.Sx

namespace Go.Proofs.YtpbnmnfdgckaiaaGreatDoor
open Go Go.Sx
theorem zdf {p:Prop} [Decidable p] (h:decide p=false):¬p:=of_decide_eq_false h
theorem zdt {p:Prop} [Decidable p] (h:decide p=true):p:=of_decide_eq_true h
theorem znb {α:Type} [BEq α] [LawfulBEq α] {a b:α} (h:(a==b)=false):a≠b:=by simpa using h
theorem zeb {α:Type} [BEq α] [LawfulBEq α] {a b:α} (h:(a==b)=true):a=b:=eq_of_beq h
theorem zbe {α:Type} [BEq α] [LawfulBEq α] {a b:α} (h:(a != b)=false):a=b:=by simpa using h
theorem zk {G:Prop} (h:G:=by kernel_rfl):G:=h
theorem zh {P Q:Vw→Prop}:∀ v,P v→Q v→Q v:=fun _ _ h=>h
theorem zt {P Q:Vw→Prop}:∀ v,P v→Q v→ac_ [] v:=fun _ _ _=>trivial
section
variable {H r r' d O:Hp} {b c:Nat×Obj}
theorem zpn (h:H.Perm r):([]++H).Perm r:=h
end
abbrev zR {α:Type} (e k:Nat) (f:α→List Value) (sv:Value) (X:List α) (H:Hp):Prop:=ax_ e k sv X.length (X.flatMap f) H
theorem zsw {α β:Type} {e k:Nat} {f:β→List Value} {sv:Value} {A:List β} {H:Hp} (g:α→List β) (p:List α) (h:ax_ e k sv A.length (A.flatMap f) H):zR e k f sv (A++List.flatMap g (List.take 0 p)) H:=by
  unfold zR;simpa only[List.take_zero,List.flatMap_nil,List.append_nil] using h
theorem zsa {β:Type} {e k m:Nat} {f:β→List Value} {sv:Value} {A B:List β} {H:Hp} (h:ax_ e k sv (A.length+m) (A.flatMap f++B.flatMap f) H) (hm:B.length=m:=by first|rfl|simp):zR e k f sv (A++B) H:=by
  subst hm;unfold zR;rw[List.length_append,List.flatMap_append];exact h
theorem zge {α:Type} {l:List α} {i:Nat} (h:i<l.length):i<l.length∧∃ x,l[i]? = some x∧x∈l:=⟨h,_,List.getElem?_eq_getElem h,List.getElem_mem h⟩
theorem aC_ {α:Type} {f:α→List Value} {v:Vw} {ad:Option Addr} {l:List α} {i:Nat} {x:α} (h:bu_ v ad (l.flatMap f)) (hx:l[i]? = some x) (hf:∀ x,(f x).length≠0):∃ b off,ad=some ⟨b,off,none⟩ :=
  h.addr fun e=>by
    rw[List.flatMap_eq_nil_iff]at e;exact hf x (by rw[e x (List.mem_of_getElem? hx)];rfl)
theorem zbn {α:Type} [BEq α] [LawfulBEq α] {a b:α} (h:(a != b)=true):a≠b:=by simpa using h
theorem zp {G:Prop} (h:G:=by (repeat (first|(with_reducible first|exact f_|exact d_|exact y_|exact H_|exact aX_|exact ad_)|exact d_|(with_reducible first|apply zpn|(apply l_;rotate_left;(fail_if_success (with_reducible apply f_));rotate_right)|apply B_|apply c_|apply g_)|exact y_|exact ad_))):G:=h
theorem zf {G:Prop} (h:G:=by intro v_ a_ b_;repeat (first|exact trivial|(with_reducible first|exact b_.1|exact b_.2.1|exact b_.2.2.1|exact b_.2.2.2.1|exact b_.2.2.2.2.1|exact b_.2.2.2.2.2.1|exact b_.2.2.2.2.2.2.1|exact b_.2.2.2.2.2.2.2.1|exact b_.2.2.2.2.2.2.2.2.1|exact b_.2.2.2.2.2.2.2.2.2.1|exact b_.2.2.2.2.2.2.2.2.2.2.1|exact b_.2.2.2.2.2.2.2.2.2.2.2.1|exact b_|exact b_.2|exact b_.2.2|exact b_.2.2.2|exact b_.2.2.2.2|exact b_.2.2.2.2.2|exact b_.2.2.2.2.2.2|exact b_.2.2.2.2.2.2.2|exact b_.2.2.2.2.2.2.2.2|exact b_.2.2.2.2.2.2.2.2.2|exact b_.2.2.2.2.2.2.2.2.2.2|exact b_.2.2.2.2.2.2.2.2.2.2.2)|(first|exact b_.1|exact b_.2.1|exact b_.2.2.1|exact b_.2.2.2.1|exact b_.2.2.2.2.1|exact b_.2.2.2.2.2.1|exact b_.2.2.2.2.2.2.1|exact b_.2.2.2.2.2.2.2.1|exact b_.2.2.2.2.2.2.2.2.1|exact b_.2.2.2.2.2.2.2.2.2.1|exact b_.2.2.2.2.2.2.2.2.2.2.1|exact b_.2.2.2.2.2.2.2.2.2.2.2.1|exact b_|exact b_.2|exact b_.2.2|exact b_.2.2.2|exact b_.2.2.2.2|exact b_.2.2.2.2.2|exact b_.2.2.2.2.2.2|exact b_.2.2.2.2.2.2.2|exact b_.2.2.2.2.2.2.2.2|exact b_.2.2.2.2.2.2.2.2.2|exact b_.2.2.2.2.2.2.2.2.2.2|exact b_.2.2.2.2.2.2.2.2.2.2.2)|refine⟨?_,?_⟩)):G:=h
theorem zs {G:Prop} (h:G:=by intro v_ a_ b_;refine⟨?_,?_⟩;(first|exact a_|exact satNil a_|exact a_.tail|exact a_.tail.tail|exact a_.tail.tail.tail|exact a_.tail.tail.tail.tail|((apply Vw.sat.sub;apply a_.perm);(repeat (first|(with_reducible first|exact f_|exact d_|exact y_|exact H_|exact aX_|exact ad_)|exact d_|(with_reducible first|apply zpn|(apply l_;rotate_left;(fail_if_success (with_reducible apply f_));rotate_right)|apply B_|apply c_|apply g_)|exact y_|exact ad_))));(first|exact b_|exact b_.2|exact b_.2.2|exact b_.2.2.2|exact b_.2.2.2.2|exact b_.2.2.2.2.2|exact b_.2.2.2.2.2.2|exact b_.2.2.2.2.2.2.2|exact b_.2.2.2.2.2.2.2.2|exact b_.2.2.2.2.2.2.2.2.2|exact b_.2.2.2.2.2.2.2.2.2.2|exact b_.2.2.2.2.2.2.2.2.2.2.2)):G:=h
theorem zl {G:Prop} (h:G:=by repeat (first|exact trivial|refine⟨rfl,?_⟩)):G:=h
def lkN {α:Type}:List (Nat×α)→Nat→Option α
  | [],_=>none
  | (k,v)::l,n=>bif Nat.beq k n then some v else lkN l n
theorem pp_ {α:Type} {n:Nat} {v:α}:∀ {l:List (Nat×α)},lkN l n=some v→(n,v)∈l
  | (k,u)::l,h=>by
    simp only[lkN]at h;cases hb:Nat.beq k n with
    | true=>rw[hb,cond_true]at h;cases h;rw[Nat.eq_of_beq_eq_true hb];exact List.mem_cons_self
    | false=>rw[hb,cond_false]at h;exact List.mem_cons_of_mem _ (pp_ h)
def zAt:List (Nat×Bool):=[(9,false),(3,false),(26,false),(36,true),(40,true),(25,false),(4,false),(28,true),(120,false),(38,false),(119,false),(116,false),(174,true),(42,true),(180,true),(118,false),(121,false),(105,false),(54,true),(83,false),(33,false),(253,true),(122,false),(74,false),(112,false),(63,false),(127,false),(145,false),(103,true),(101,false),(95,true),(250,false),(208,true),(156,false),(190,true),(67,true)]
theorem zA {t:TypeId} {b:Bool} (h:lkN zAt t=some b):∀ w,(isAgg t).run Tryz.prog w=.ok b w:=by
  have h:=pp_ h;simp only[zAt,List.mem_cons,Prod.mk.injEq,List.not_mem_nil,or_false]at h;rcases h with⟨rfl,rfl⟩|⟨rfl,rfl⟩|⟨rfl,rfl⟩|⟨rfl,rfl⟩|⟨rfl,rfl⟩|⟨rfl,rfl⟩|⟨rfl,rfl⟩|⟨rfl,rfl⟩|⟨rfl,rfl⟩|⟨rfl,rfl⟩|⟨rfl,rfl⟩|⟨rfl,rfl⟩|⟨rfl,rfl⟩|⟨rfl,rfl⟩|⟨rfl,rfl⟩|⟨rfl,rfl⟩|⟨rfl,rfl⟩|⟨rfl,rfl⟩|⟨rfl,rfl⟩|⟨rfl,rfl⟩|⟨rfl,rfl⟩|⟨rfl,rfl⟩|⟨rfl,rfl⟩|⟨rfl,rfl⟩|⟨rfl,rfl⟩|⟨rfl,rfl⟩|⟨rfl,rfl⟩|⟨rfl,rfl⟩|⟨rfl,rfl⟩|⟨rfl,rfl⟩|⟨rfl,rfl⟩|⟨rfl,rfl⟩|⟨rfl,rfl⟩|⟨rfl,rfl⟩|⟨rfl,rfl⟩|⟨rfl,rfl⟩
  · exact ab_
  · exact aQ_
  · exact Tryz.isAgg26
  · exact aB_
  · exact aN_
  · exact lU_
  · exact Tryz.isAgg4
  · exact gd_
  · exact Tryz.isAgg120
  · exact Tryz.isAgg38
  · exact Tryz.isAgg119
  · exact Tryz.isAgg116
  · exact dy_
  · exact Tryz.isAgg42
  · exact Tryz.isAgg180
  · exact Tryz.isAgg118
  · exact Tryz.isAgg121
  · exact Tryz.isAgg105
  · exact Tryz.isAgg54
  · exact Tryz.isAgg83
  · exact Tryz.isAgg33
  · exact Tryz.isAgg253
  · exact Tryz.isAgg122
  · exact Tryz.isAgg74
  · exact Tryz.isAgg112
  · exact Tryz.isAgg63
  · exact Tryz.isAgg127
  · exact jF_
  · exact Tryz.isAgg103
  · exact Tryz.isAgg101
  · exact Tryz.isAgg95
  · exact Tryz.isAgg250
  · exact Tryz.isAgg208
  · exact Tryz.isAgg156
  · exact Tryz.isAgg190
  · exact it_
def zSt:List (Nat×Nat):=[(9,1),(3,1),(40,5),(26,1),(36,6),(25,1),(4,1),(28,6),(120,1),(174,10),(42,16),(38,1),(119,1),(180,2),(118,1),(121,1),(54,2),(83,1),(253,2),(63,1),(122,1),(112,1),(101,1),(103,2),(95,7),(250,1),(208,3),(156,1),(190,2),(67,2)]
theorem zS {t:TypeId} {b:Nat} (h:lkN zSt t=some b):∀ w,(sizeOf t).run Tryz.prog w=.ok b w:=by
  have h:=pp_ h;simp only[zSt,List.mem_cons,Prod.mk.injEq,List.not_mem_nil,or_false]at h;rcases h with⟨rfl,rfl⟩|⟨rfl,rfl⟩|⟨rfl,rfl⟩|⟨rfl,rfl⟩|⟨rfl,rfl⟩|⟨rfl,rfl⟩|⟨rfl,rfl⟩|⟨rfl,rfl⟩|⟨rfl,rfl⟩|⟨rfl,rfl⟩|⟨rfl,rfl⟩|⟨rfl,rfl⟩|⟨rfl,rfl⟩|⟨rfl,rfl⟩|⟨rfl,rfl⟩|⟨rfl,rfl⟩|⟨rfl,rfl⟩|⟨rfl,rfl⟩|⟨rfl,rfl⟩|⟨rfl,rfl⟩|⟨rfl,rfl⟩|⟨rfl,rfl⟩|⟨rfl,rfl⟩|⟨rfl,rfl⟩|⟨rfl,rfl⟩|⟨rfl,rfl⟩|⟨rfl,rfl⟩|⟨rfl,rfl⟩|⟨rfl,rfl⟩|⟨rfl,rfl⟩
  · exact I_
  · exact au_
  · exact M_
  · exact bT_
  · exact s_
  · exact ck_
  · exact dU_
  · exact bL_
  · exact eF_
  · exact F_
  · exact bS_
  · exact Tryz.sizeOf38
  · exact Tryz.sizeOf119
  · exact ij_
  · exact Tryz.sizeOf118
  · exact Tryz.sizeOf121
  · exact Tryz.sizeOf54
  · exact Tryz.sizeOf83
  · exact Tryz.sizeOf253
  · exact yL_
  · exact Tryz.sizeOf122
  · exact Tryz.sizeOf112
  · exact Tryz.sizeOf101
  · exact Tryz.sizeOf103
  · exact jE_
  · exact Tryz.sizeOf250
  · exact Tryz.sizeOf208
  · exact Tryz.sizeOf156
  · exact Tryz.sizeOf190
  · exact bR_
theorem zUe {P:Program} {t t1:TypeId} {q q1} (h:∀ w,(underlying t1).run P w=.ok q1 w) (e:t=t1) (e1:q1=q):∀ w,(underlying t).run P w=.ok q w:=by subst e e1;exact h
theorem Zy {A B:Prop} {n:Nat} (k:A) (h:Kw A→Cn n B:=by intro k_;repeat (first|exact cn0 k_.go|(apply cn;intro h_;((first|((with_reducible apply e_);rotate_left;exact rfl;exact h_;rotate_right)|((with_reducible apply N_);exact rfl;rotate_left;exact rfl;exact h_;rotate_right)|((with_reducible apply aP_);exact rfl;exact rfl;exact rfl;rotate_left;exact rfl;exact h_;rotate_right));(focus (first|((with_reducible apply al_);exact rfl)|((with_reducible apply ay_);exact rfl)|((with_reducible apply mx_);rotate_left;exact rfl;rotate_right;(first|exact zUe cK_ rfl rfl|exact zUe aU_ rfl rfl|exact zUe cJ_ rfl rfl|exact zUe n_ rfl rfl|exact zUe cz_ rfl rfl|exact zUe cv_ rfl rfl|exact zUe aD_ rfl rfl|exact zUe w_ rfl rfl|exact zUe D_ rfl rfl|exact zUe bd_ rfl rfl|exact zUe cH_ rfl rfl|exact zUe dD_ rfl rfl|exact zUe dk_ rfl rfl|exact zUe ag_ rfl rfl|exact zUe dn_ rfl rfl|exact zUe dl_ rfl rfl|exact zUe bY_ rfl rfl|exact zUe cx_ rfl rfl|exact zUe cw_ rfl rfl|exact zUe av_ rfl rfl|exact zUe ct_ rfl rfl|exact zUe aW_ rfl rfl|exact zUe cG_ rfl rfl|exact zUe cq_ rfl rfl|exact zUe cI_ rfl rfl|exact zUe bW_ rfl rfl|exact zUe cr_ rfl rfl|exact zUe cA_ rfl rfl|exact zUe bX_ rfl rfl|exact zUe cy_ rfl rfl);exact rfl;exact rfl;exact zS rfl)|((with_reducible apply bO_);(first|exact zUe cK_ rfl rfl|exact zUe aU_ rfl rfl|exact zUe cJ_ rfl rfl|exact zUe n_ rfl rfl|exact zUe cz_ rfl rfl|exact zUe cv_ rfl rfl|exact zUe aD_ rfl rfl|exact zUe w_ rfl rfl|exact zUe D_ rfl rfl|exact zUe bd_ rfl rfl|exact zUe cH_ rfl rfl|exact zUe dD_ rfl rfl|exact zUe dk_ rfl rfl|exact zUe ag_ rfl rfl|exact zUe dn_ rfl rfl|exact zUe dl_ rfl rfl|exact zUe bY_ rfl rfl|exact zUe cx_ rfl rfl|exact zUe cw_ rfl rfl|exact zUe av_ rfl rfl|exact zUe ct_ rfl rfl|exact zUe aW_ rfl rfl|exact zUe cG_ rfl rfl|exact zUe cq_ rfl rfl|exact zUe cI_ rfl rfl|exact zUe bW_ rfl rfl|exact zUe cr_ rfl rfl|exact zUe cA_ rfl rfl|exact zUe bX_ rfl rfl|exact zUe cy_ rfl rfl);exact rfl;exact rfl;exact rfl;exact zS rfl)|((with_reducible apply (aG_ 0));rotate_left;exact rfl;exact rfl;exact rfl;exact zA rfl)|((with_reducible apply (aG_ 1));rotate_left;exact rfl;exact rfl;exact rfl;exact zA rfl)|((with_reducible apply (aG_ 2));rotate_left;exact rfl;exact rfl;exact rfl;exact zA rfl)|((with_reducible apply (aG_ 3));rotate_left;exact rfl;exact rfl;exact rfl;exact zA rfl)|((with_reducible apply mt_);exact rfl;exact rfl)|((with_reducible apply cf_);exact rfl;exact rfl)|((with_reducible apply aZ_);exact rfl;exact rfl;exact rfl;exact ce_ (by omega) (by omega))|((with_reducible apply kB_);exact rfl)|((with_reducible apply bC_);exact rfl;exact rfl)|((with_reducible apply dC_);(first|exact zUe cK_ rfl rfl|exact zUe aU_ rfl rfl|exact zUe cJ_ rfl rfl|exact zUe n_ rfl rfl|exact zUe cz_ rfl rfl|exact zUe cv_ rfl rfl|exact zUe aD_ rfl rfl|exact zUe w_ rfl rfl|exact zUe D_ rfl rfl|exact zUe bd_ rfl rfl|exact zUe cH_ rfl rfl|exact zUe dD_ rfl rfl|exact zUe dk_ rfl rfl|exact zUe ag_ rfl rfl|exact zUe dn_ rfl rfl|exact zUe dl_ rfl rfl|exact zUe bY_ rfl rfl|exact zUe cx_ rfl rfl|exact zUe cw_ rfl rfl|exact zUe av_ rfl rfl|exact zUe ct_ rfl rfl|exact zUe aW_ rfl rfl|exact zUe cG_ rfl rfl|exact zUe cq_ rfl rfl|exact zUe cI_ rfl rfl|exact zUe bW_ rfl rfl|exact zUe cr_ rfl rfl|exact zUe cA_ rfl rfl|exact zUe bX_ rfl rfl|exact zUe cy_ rfl rfl);exact rfl)|((with_reducible apply (bB_ 0));rotate_left;exact zS rfl;exact rfl;exact rfl;exact rfl;exact zA rfl)|((with_reducible apply (bB_ 1));rotate_left;exact zS rfl;exact rfl;exact rfl;exact rfl;exact zA rfl)|((with_reducible apply (bB_ 2));rotate_left;exact zS rfl;exact rfl;exact rfl;exact rfl;exact zA rfl)|((with_reducible apply (bB_ 3));rotate_left;exact zS rfl;exact rfl;exact rfl;exact rfl;exact zA rfl)|((with_reducible apply dc_);rotate_left;exact rfl;(intro v _ h;first|exact h.1|exact h.2.1|exact h.2.2.1|exact h.2.2.2.1|exact h.2.2.2.2.1|exact h.2.2.2.2.2.1|exact h.2.2.2.2.2.2.1|exact h.2.2.2.2.2.2.2.1|exact h.2.2.2.2.2.2.2.2.1|exact h.2.2.2.2.2.2.2.2.2.1|exact h.2.2.2.2.2.2.2.2.2.2.1|exact h.2.2.2.2.2.2.2.2.2.2.2.1|exact h.1.1|exact h.2.1.1|exact h.2.2.1.1|exact h.2.2.2.1.1|exact h.2.2.2.2.1.1|exact h.2.2.2.2.2.1.1|exact h.2.2.2.2.2.2.1.1|exact h.1.2.2|exact h.2.1.2.2|exact h.2.2.1.2.2|exact h.2.2.2.1.2.2|exact h.2.2.2.2.1.2.2|exact h.2.2.2.2.2.1.2.2|exact h.2.2.2.2.2.2.1.2.2|exact h.2|exact h.2.2|exact h.2.2.2);exact rfl;exact zA rfl)|((with_reducible apply O_);(first|exact zUe cK_ rfl rfl|exact zUe aU_ rfl rfl|exact zUe cJ_ rfl rfl|exact zUe n_ rfl rfl|exact zUe cz_ rfl rfl|exact zUe cv_ rfl rfl|exact zUe aD_ rfl rfl|exact zUe w_ rfl rfl|exact zUe D_ rfl rfl|exact zUe bd_ rfl rfl|exact zUe cH_ rfl rfl|exact zUe dD_ rfl rfl|exact zUe dk_ rfl rfl|exact zUe ag_ rfl rfl|exact zUe dn_ rfl rfl|exact zUe dl_ rfl rfl|exact zUe bY_ rfl rfl|exact zUe cx_ rfl rfl|exact zUe cw_ rfl rfl|exact zUe av_ rfl rfl|exact zUe ct_ rfl rfl|exact zUe aW_ rfl rfl|exact zUe cG_ rfl rfl|exact zUe cq_ rfl rfl|exact zUe cI_ rfl rfl|exact zUe bW_ rfl rfl|exact zUe cr_ rfl rfl|exact zUe cA_ rfl rfl|exact zUe bX_ rfl rfl|exact zUe cy_ rfl rfl);exact zS rfl;exact rfl;exact rfl;(intro v _ h;first|exact aC_ h.1 (by assumption) (fun _=>Nat.succ_ne_zero _)|exact aC_ h.2.1 (by assumption) (fun _=>Nat.succ_ne_zero _)|exact aC_ h.2.2.1 (by assumption) (fun _=>Nat.succ_ne_zero _)|exact aC_ h.2.2.2.1 (by assumption) (fun _=>Nat.succ_ne_zero _)|exact aC_ h.2.2.2.2.1 (by assumption) (fun _=>Nat.succ_ne_zero _)|exact aC_ h.2.2.2.2.2.1 (by assumption) (fun _=>Nat.succ_ne_zero _)|exact aC_ h.2.2.2.2.2.2.1 (by assumption) (fun _=>Nat.succ_ne_zero _)|exact aC_ h.2.2.2.2.2.2.2.1 (by assumption) (fun _=>Nat.succ_ne_zero _)|exact aC_ h.2.2.2.2.2.2.2.2.1 (by assumption) (fun _=>Nat.succ_ne_zero _)|exact aC_ h.1.1 (by assumption) (fun _=>Nat.succ_ne_zero _)|exact aC_ h.2.1.1 (by assumption) (fun _=>Nat.succ_ne_zero _)|exact aC_ h.2.2.1.1 (by assumption) (fun _=>Nat.succ_ne_zero _)|exact aC_ h.2.2.2.1.1 (by assumption) (fun _=>Nat.succ_ne_zero _)|exact aC_ h.2.2.2.2.1.1 (by assumption) (fun _=>Nat.succ_ne_zero _)|exact aC_ h.2.2.2.2.2.1.1 (by assumption) (fun _=>Nat.succ_ne_zero _)|exact aC_ h.2.2.2.2.2.2.1.1 (by assumption) (fun _=>Nat.succ_ne_zero _)|exact aC_ h.1.2.2 (by assumption) (fun _=>Nat.succ_ne_zero _)|exact aC_ h.2.1.2.2 (by assumption) (fun _=>Nat.succ_ne_zero _)|exact aC_ h.2.2.1.2.2 (by assumption) (fun _=>Nat.succ_ne_zero _)|exact aC_ h.2.2.2.1.2.2 (by assumption) (fun _=>Nat.succ_ne_zero _)|exact aC_ h.2.2.2.2.1.2.2 (by assumption) (fun _=>Nat.succ_ne_zero _)|exact aC_ h.2.2.2.2.2.1.2.2 (by assumption) (fun _=>Nat.succ_ne_zero _)|exact aC_ h.2.2.2.2.2.2.1.2.2 (by assumption) (fun _=>Nat.succ_ne_zero _)|exact aC_ h.2 (by assumption) (fun _=>Nat.succ_ne_zero _)|exact aC_ h.2.2 (by assumption) (fun _=>Nat.succ_ne_zero _)|exact aC_ h.2.2.2 (by assumption) (fun _=>Nat.succ_ne_zero _));omega;(first|omega|(simp;done)))|((with_reducible apply bl_);rotate_left;exact rfl;(intro v _ h;first|exact h.1|exact h.2.1|exact h.2.2.1|exact h.2.2.2.1|exact h.2.2.2.2.1|exact h.2.2.2.2.2.1|exact h.2.2.2.2.2.2.1|exact h.2.2.2.2.2.2.2.1|exact h.2.2.2.2.2.2.2.2.1|exact h.2.2.2.2.2.2.2.2.2.1|exact h.2.2.2.2.2.2.2.2.2.2.1|exact h.2.2.2.2.2.2.2.2.2.2.2.1|exact h.1.1|exact h.2.1.1|exact h.2.2.1.1|exact h.2.2.2.1.1|exact h.2.2.2.2.1.1|exact h.2.2.2.2.2.1.1|exact h.2.2.2.2.2.2.1.1|exact h.1.2.2|exact h.2.1.2.2|exact h.2.2.1.2.2|exact h.2.2.2.1.2.2|exact h.2.2.2.2.1.2.2|exact h.2.2.2.2.2.1.2.2|exact h.2.2.2.2.2.2.1.2.2|exact h.2|exact h.2.2|exact h.2.2.2);(first|exact p_ Pc.cells_len (by assumption) 0 _ rfl|exact p_ Pc.cells_len (by assumption) _ _ rfl|exact p_ Fc.cells_len (by assumption) 0 _ rfl|exact p_ Fc.cells_len (by assumption) _ _ rfl|exact p_ Stp.cells_len (by assumption) 0 _ rfl|exact p_ Stp.cells_len (by assumption) _ _ rfl|exact p_ at_ (by assumption) 0 _ rfl|exact p_ at_ (by assumption) _ _ rfl|exact p_ dR_ (by assumption) 0 _ rfl|exact p_ dR_ (by assumption) _ _ rfl|exact p_ (n:=1) (by intro _;exact rfl) (by assumption) 0 _ rfl|exact p_ (n:=5) (by intro _;exact rfl) (by assumption) 0 _ rfl|exact p_ (n:=5) (by intro _;exact rfl) (by assumption) 1 _ rfl|exact p_ (n:=5) (by intro _;exact rfl) (by assumption) 2 _ rfl|exact p_ (n:=5) (by intro _;exact rfl) (by assumption) 3 _ rfl|exact p_ (n:=5) (by intro _;exact rfl) (by assumption) 4 _ rfl|exact p_ (n:=16) (by intro _;exact rfl) (by assumption) 0 _ rfl|exact p_ (n:=16) (by intro _;exact rfl) (by assumption) 1 _ rfl|exact p_ (n:=16) (by intro _;exact rfl) (by assumption) 13 _ rfl|exact p_ (n:=16) (by intro _;exact rfl) (by assumption) 14 _ rfl|exact p_ (n:=16) (by intro _;exact rfl) (by assumption) 15 _ rfl|exact p_ (n:=9) (by intro _;exact rfl) (by assumption) 0 _ rfl|exact p_ (n:=9) (by intro _;exact rfl) (by assumption) 1 _ rfl|exact p_ (n:=9) (by intro _;exact rfl) (by assumption) 2 _ rfl|exact p_ (n:=9) (by intro _;exact rfl) (by assumption) 3 _ rfl|exact p_ (n:=9) (by intro _;exact rfl) (by assumption) 4 _ rfl|exact p_ (n:=9) (by intro _;exact rfl) (by assumption) 5 _ rfl|exact p_ (n:=9) (by intro _;exact rfl) (by assumption) 6 _ rfl|exact p_ (n:=2) (by intro _;exact rfl) (by assumption) 0 _ rfl|exact p_ (n:=2) (by intro _;exact rfl) (by assumption) 1 _ rfl|exact p_ (n:=4) (by intro _;exact rfl) (by assumption) 0 _ rfl|exact p_ (n:=4) (by intro _;exact rfl) (by assumption) 1 _ rfl|exact p_ (n:=4) (by intro _;exact rfl) (by assumption) 2 _ rfl|exact p_ (n:=4) (by intro _;exact rfl) (by assumption) 3 _ rfl);exact zA rfl)|((with_reducible apply ae_);rotate_left;exact zS rfl;exact rfl;(intro v _ h;first|exact h.1|exact h.2.1|exact h.2.2.1|exact h.2.2.2.1|exact h.2.2.2.2.1|exact h.2.2.2.2.2.1|exact h.2.2.2.2.2.2.1|exact h.2.2.2.2.2.2.2.1|exact h.2.2.2.2.2.2.2.2.1|exact h.2.2.2.2.2.2.2.2.2.1|exact h.2.2.2.2.2.2.2.2.2.2.1|exact h.2.2.2.2.2.2.2.2.2.2.2.1|exact h.1.1|exact h.2.1.1|exact h.2.2.1.1|exact h.2.2.2.1.1|exact h.2.2.2.2.1.1|exact h.2.2.2.2.2.1.1|exact h.2.2.2.2.2.2.1.1|exact h.1.2.2|exact h.2.1.2.2|exact h.2.2.1.2.2|exact h.2.2.2.1.2.2|exact h.2.2.2.2.1.2.2|exact h.2.2.2.2.2.1.2.2|exact h.2.2.2.2.2.2.1.2.2|exact h.2|exact h.2.2|exact h.2.2.2);rotate_left;(exact p_ (by intro _;exact rfl) (by assumption));exact zA rfl;(exact rfl))|((with_reducible apply (aG_ 4));rotate_left;exact rfl;exact rfl;exact rfl;exact zA rfl)|((with_reducible apply (aG_ 5));rotate_left;exact rfl;exact rfl;exact rfl;exact zA rfl)|((with_reducible apply (aG_ 6));rotate_left;exact rfl;exact rfl;exact rfl;exact zA rfl)|((with_reducible apply (aG_ 7));rotate_left;exact rfl;exact rfl;exact rfl;exact zA rfl)|((with_reducible apply (bB_ 4));rotate_left;exact zS rfl;exact rfl;exact rfl;exact rfl;exact zA rfl)|((with_reducible apply (bB_ 5));rotate_left;exact zS rfl;exact rfl;exact rfl;exact rfl;exact zA rfl)|((with_reducible apply (bB_ 6));rotate_left;exact zS rfl;exact rfl;exact rfl;exact rfl;exact zA rfl)|((with_reducible apply (bB_ 7));rotate_left;exact zS rfl;exact rfl;exact rfl;exact rfl;exact zA rfl)))))|(apply cn;intro h_;first|((with_reducible apply bs_);exact h_)|((with_reducible apply aY_);exact rfl;exact h_)|((with_reducible apply bf_);exact h_)|((with_reducible apply aI_);exact h_)|((with_reducible apply ap_);exact rfl;exact rfl;exact h_)|((with_reducible apply sV_);exact rfl;exact rfl;exact rfl;exact rfl;exact h_)|((with_reducible apply bV_);exact rfl;exact h_)|((with_reducible apply fb_);exact rfl;exact h_)|((with_reducible apply gP_);exact h_)|((with_reducible apply bh_);exact h_)|((with_reducible apply iJ_);exact h_)|((with_reducible apply fI_);exact rfl;exact h_)|((with_reducible apply sq_noG);exact rfl;exact rfl;exact rfl;exact rfl;exact rfl;exact h_)|((with_reducible apply rt_);kernel_rfl;exact h_)|((with_reducible apply gQ_);exact h_)|((with_reducible apply mO_);exact rfl;exact h_)|((with_reducible apply op_);kernel_rfl;exact h_)|((with_reducible apply yg_);exact rfl;exact h_)|((with_reducible apply R_);exact zs;exact h_)|((apply ap_);exact rfl;exact rfl;exact h_)|((apply sV_);exact rfl;exact rfl;exact rfl;exact rfl;exact h_)|((apply bs_);exact h_))|(apply cn;intro h_;((apply e_);rotate_left;exact rfl;exact h_;rotate_right);(focus (first|((with_reducible apply al_);exact rfl)|((with_reducible apply ay_);exact rfl)|((with_reducible apply mx_);rotate_left;exact rfl;rotate_right;(first|exact zUe cK_ rfl rfl|exact zUe aU_ rfl rfl|exact zUe cJ_ rfl rfl|exact zUe n_ rfl rfl|exact zUe cz_ rfl rfl|exact zUe cv_ rfl rfl|exact zUe aD_ rfl rfl|exact zUe w_ rfl rfl|exact zUe D_ rfl rfl|exact zUe bd_ rfl rfl|exact zUe cH_ rfl rfl|exact zUe dD_ rfl rfl|exact zUe dk_ rfl rfl|exact zUe ag_ rfl rfl|exact zUe dn_ rfl rfl|exact zUe dl_ rfl rfl|exact zUe bY_ rfl rfl|exact zUe cx_ rfl rfl|exact zUe cw_ rfl rfl|exact zUe av_ rfl rfl|exact zUe ct_ rfl rfl|exact zUe aW_ rfl rfl|exact zUe cG_ rfl rfl|exact zUe cq_ rfl rfl|exact zUe cI_ rfl rfl|exact zUe bW_ rfl rfl|exact zUe cr_ rfl rfl|exact zUe cA_ rfl rfl|exact zUe bX_ rfl rfl|exact zUe cy_ rfl rfl);exact rfl;exact rfl;exact zS rfl)|((with_reducible apply bO_);(first|exact zUe cK_ rfl rfl|exact zUe aU_ rfl rfl|exact zUe cJ_ rfl rfl|exact zUe n_ rfl rfl|exact zUe cz_ rfl rfl|exact zUe cv_ rfl rfl|exact zUe aD_ rfl rfl|exact zUe w_ rfl rfl|exact zUe D_ rfl rfl|exact zUe bd_ rfl rfl|exact zUe cH_ rfl rfl|exact zUe dD_ rfl rfl|exact zUe dk_ rfl rfl|exact zUe ag_ rfl rfl|exact zUe dn_ rfl rfl|exact zUe dl_ rfl rfl|exact zUe bY_ rfl rfl|exact zUe cx_ rfl rfl|exact zUe cw_ rfl rfl|exact zUe av_ rfl rfl|exact zUe ct_ rfl rfl|exact zUe aW_ rfl rfl|exact zUe cG_ rfl rfl|exact zUe cq_ rfl rfl|exact zUe cI_ rfl rfl|exact zUe bW_ rfl rfl|exact zUe cr_ rfl rfl|exact zUe cA_ rfl rfl|exact zUe bX_ rfl rfl|exact zUe cy_ rfl rfl);exact rfl;exact rfl;exact rfl;exact zS rfl)|((with_reducible apply (aG_ 0));rotate_left;exact rfl;exact rfl;exact rfl;exact zA rfl)|((with_reducible apply (aG_ 1));rotate_left;exact rfl;exact rfl;exact rfl;exact zA rfl)|((with_reducible apply (aG_ 2));rotate_left;exact rfl;exact rfl;exact rfl;exact zA rfl)|((with_reducible apply (aG_ 3));rotate_left;exact rfl;exact rfl;exact rfl;exact zA rfl)|((with_reducible apply mt_);exact rfl;exact rfl)|((with_reducible apply cf_);exact rfl;exact rfl)|((with_reducible apply aZ_);exact rfl;exact rfl;exact rfl;exact ce_ (by omega) (by omega))|((with_reducible apply kB_);exact rfl)|((with_reducible apply bC_);exact rfl;exact rfl)|((with_reducible apply dC_);(first|exact zUe cK_ rfl rfl|exact zUe aU_ rfl rfl|exact zUe cJ_ rfl rfl|exact zUe n_ rfl rfl|exact zUe cz_ rfl rfl|exact zUe cv_ rfl rfl|exact zUe aD_ rfl rfl|exact zUe w_ rfl rfl|exact zUe D_ rfl rfl|exact zUe bd_ rfl rfl|exact zUe cH_ rfl rfl|exact zUe dD_ rfl rfl|exact zUe dk_ rfl rfl|exact zUe ag_ rfl rfl|exact zUe dn_ rfl rfl|exact zUe dl_ rfl rfl|exact zUe bY_ rfl rfl|exact zUe cx_ rfl rfl|exact zUe cw_ rfl rfl|exact zUe av_ rfl rfl|exact zUe ct_ rfl rfl|exact zUe aW_ rfl rfl|exact zUe cG_ rfl rfl|exact zUe cq_ rfl rfl|exact zUe cI_ rfl rfl|exact zUe bW_ rfl rfl|exact zUe cr_ rfl rfl|exact zUe cA_ rfl rfl|exact zUe bX_ rfl rfl|exact zUe cy_ rfl rfl);exact rfl)|((with_reducible apply (bB_ 0));rotate_left;exact zS rfl;exact rfl;exact rfl;exact rfl;exact zA rfl)|((with_reducible apply (bB_ 1));rotate_left;exact zS rfl;exact rfl;exact rfl;exact rfl;exact zA rfl)|((with_reducible apply (bB_ 2));rotate_left;exact zS rfl;exact rfl;exact rfl;exact rfl;exact zA rfl)|((with_reducible apply (bB_ 3));rotate_left;exact zS rfl;exact rfl;exact rfl;exact rfl;exact zA rfl)|((with_reducible apply dc_);rotate_left;exact rfl;(intro v _ h;first|exact h.1|exact h.2.1|exact h.2.2.1|exact h.2.2.2.1|exact h.2.2.2.2.1|exact h.2.2.2.2.2.1|exact h.2.2.2.2.2.2.1|exact h.2.2.2.2.2.2.2.1|exact h.2.2.2.2.2.2.2.2.1|exact h.2.2.2.2.2.2.2.2.2.1|exact h.2.2.2.2.2.2.2.2.2.2.1|exact h.2.2.2.2.2.2.2.2.2.2.2.1|exact h.1.1|exact h.2.1.1|exact h.2.2.1.1|exact h.2.2.2.1.1|exact h.2.2.2.2.1.1|exact h.2.2.2.2.2.1.1|exact h.2.2.2.2.2.2.1.1|exact h.1.2.2|exact h.2.1.2.2|exact h.2.2.1.2.2|exact h.2.2.2.1.2.2|exact h.2.2.2.2.1.2.2|exact h.2.2.2.2.2.1.2.2|exact h.2.2.2.2.2.2.1.2.2|exact h.2|exact h.2.2|exact h.2.2.2);exact rfl;exact zA rfl)|((with_reducible apply O_);(first|exact zUe cK_ rfl rfl|exact zUe aU_ rfl rfl|exact zUe cJ_ rfl rfl|exact zUe n_ rfl rfl|exact zUe cz_ rfl rfl|exact zUe cv_ rfl rfl|exact zUe aD_ rfl rfl|exact zUe w_ rfl rfl|exact zUe D_ rfl rfl|exact zUe bd_ rfl rfl|exact zUe cH_ rfl rfl|exact zUe dD_ rfl rfl|exact zUe dk_ rfl rfl|exact zUe ag_ rfl rfl|exact zUe dn_ rfl rfl|exact zUe dl_ rfl rfl|exact zUe bY_ rfl rfl|exact zUe cx_ rfl rfl|exact zUe cw_ rfl rfl|exact zUe av_ rfl rfl|exact zUe ct_ rfl rfl|exact zUe aW_ rfl rfl|exact zUe cG_ rfl rfl|exact zUe cq_ rfl rfl|exact zUe cI_ rfl rfl|exact zUe bW_ rfl rfl|exact zUe cr_ rfl rfl|exact zUe cA_ rfl rfl|exact zUe bX_ rfl rfl|exact zUe cy_ rfl rfl);exact zS rfl;exact rfl;exact rfl;(intro v _ h;first|exact aC_ h.1 (by assumption) (fun _=>Nat.succ_ne_zero _)|exact aC_ h.2.1 (by assumption) (fun _=>Nat.succ_ne_zero _)|exact aC_ h.2.2.1 (by assumption) (fun _=>Nat.succ_ne_zero _)|exact aC_ h.2.2.2.1 (by assumption) (fun _=>Nat.succ_ne_zero _)|exact aC_ h.2.2.2.2.1 (by assumption) (fun _=>Nat.succ_ne_zero _)|exact aC_ h.2.2.2.2.2.1 (by assumption) (fun _=>Nat.succ_ne_zero _)|exact aC_ h.2.2.2.2.2.2.1 (by assumption) (fun _=>Nat.succ_ne_zero _)|exact aC_ h.2.2.2.2.2.2.2.1 (by assumption) (fun _=>Nat.succ_ne_zero _)|exact aC_ h.2.2.2.2.2.2.2.2.1 (by assumption) (fun _=>Nat.succ_ne_zero _)|exact aC_ h.1.1 (by assumption) (fun _=>Nat.succ_ne_zero _)|exact aC_ h.2.1.1 (by assumption) (fun _=>Nat.succ_ne_zero _)|exact aC_ h.2.2.1.1 (by assumption) (fun _=>Nat.succ_ne_zero _)|exact aC_ h.2.2.2.1.1 (by assumption) (fun _=>Nat.succ_ne_zero _)|exact aC_ h.2.2.2.2.1.1 (by assumption) (fun _=>Nat.succ_ne_zero _)|exact aC_ h.2.2.2.2.2.1.1 (by assumption) (fun _=>Nat.succ_ne_zero _)|exact aC_ h.2.2.2.2.2.2.1.1 (by assumption) (fun _=>Nat.succ_ne_zero _)|exact aC_ h.1.2.2 (by assumption) (fun _=>Nat.succ_ne_zero _)|exact aC_ h.2.1.2.2 (by assumption) (fun _=>Nat.succ_ne_zero _)|exact aC_ h.2.2.1.2.2 (by assumption) (fun _=>Nat.succ_ne_zero _)|exact aC_ h.2.2.2.1.2.2 (by assumption) (fun _=>Nat.succ_ne_zero _)|exact aC_ h.2.2.2.2.1.2.2 (by assumption) (fun _=>Nat.succ_ne_zero _)|exact aC_ h.2.2.2.2.2.1.2.2 (by assumption) (fun _=>Nat.succ_ne_zero _)|exact aC_ h.2.2.2.2.2.2.1.2.2 (by assumption) (fun _=>Nat.succ_ne_zero _)|exact aC_ h.2 (by assumption) (fun _=>Nat.succ_ne_zero _)|exact aC_ h.2.2 (by assumption) (fun _=>Nat.succ_ne_zero _)|exact aC_ h.2.2.2 (by assumption) (fun _=>Nat.succ_ne_zero _));omega;(first|omega|(simp;done)))|((with_reducible apply bl_);rotate_left;exact rfl;(intro v _ h;first|exact h.1|exact h.2.1|exact h.2.2.1|exact h.2.2.2.1|exact h.2.2.2.2.1|exact h.2.2.2.2.2.1|exact h.2.2.2.2.2.2.1|exact h.2.2.2.2.2.2.2.1|exact h.2.2.2.2.2.2.2.2.1|exact h.2.2.2.2.2.2.2.2.2.1|exact h.2.2.2.2.2.2.2.2.2.2.1|exact h.2.2.2.2.2.2.2.2.2.2.2.1|exact h.1.1|exact h.2.1.1|exact h.2.2.1.1|exact h.2.2.2.1.1|exact h.2.2.2.2.1.1|exact h.2.2.2.2.2.1.1|exact h.2.2.2.2.2.2.1.1|exact h.1.2.2|exact h.2.1.2.2|exact h.2.2.1.2.2|exact h.2.2.2.1.2.2|exact h.2.2.2.2.1.2.2|exact h.2.2.2.2.2.1.2.2|exact h.2.2.2.2.2.2.1.2.2|exact h.2|exact h.2.2|exact h.2.2.2);(first|exact p_ Pc.cells_len (by assumption) 0 _ rfl|exact p_ Pc.cells_len (by assumption) _ _ rfl|exact p_ Fc.cells_len (by assumption) 0 _ rfl|exact p_ Fc.cells_len (by assumption) _ _ rfl|exact p_ Stp.cells_len (by assumption) 0 _ rfl|exact p_ Stp.cells_len (by assumption) _ _ rfl|exact p_ at_ (by assumption) 0 _ rfl|exact p_ at_ (by assumption) _ _ rfl|exact p_ dR_ (by assumption) 0 _ rfl|exact p_ dR_ (by assumption) _ _ rfl|exact p_ (n:=1) (by intro _;exact rfl) (by assumption) 0 _ rfl|exact p_ (n:=5) (by intro _;exact rfl) (by assumption) 0 _ rfl|exact p_ (n:=5) (by intro _;exact rfl) (by assumption) 1 _ rfl|exact p_ (n:=5) (by intro _;exact rfl) (by assumption) 2 _ rfl|exact p_ (n:=5) (by intro _;exact rfl) (by assumption) 3 _ rfl|exact p_ (n:=5) (by intro _;exact rfl) (by assumption) 4 _ rfl|exact p_ (n:=16) (by intro _;exact rfl) (by assumption) 0 _ rfl|exact p_ (n:=16) (by intro _;exact rfl) (by assumption) 1 _ rfl|exact p_ (n:=16) (by intro _;exact rfl) (by assumption) 13 _ rfl|exact p_ (n:=16) (by intro _;exact rfl) (by assumption) 14 _ rfl|exact p_ (n:=16) (by intro _;exact rfl) (by assumption) 15 _ rfl|exact p_ (n:=9) (by intro _;exact rfl) (by assumption) 0 _ rfl|exact p_ (n:=9) (by intro _;exact rfl) (by assumption) 1 _ rfl|exact p_ (n:=9) (by intro _;exact rfl) (by assumption) 2 _ rfl|exact p_ (n:=9) (by intro _;exact rfl) (by assumption) 3 _ rfl|exact p_ (n:=9) (by intro _;exact rfl) (by assumption) 4 _ rfl|exact p_ (n:=9) (by intro _;exact rfl) (by assumption) 5 _ rfl|exact p_ (n:=9) (by intro _;exact rfl) (by assumption) 6 _ rfl|exact p_ (n:=2) (by intro _;exact rfl) (by assumption) 0 _ rfl|exact p_ (n:=2) (by intro _;exact rfl) (by assumption) 1 _ rfl|exact p_ (n:=4) (by intro _;exact rfl) (by assumption) 0 _ rfl|exact p_ (n:=4) (by intro _;exact rfl) (by assumption) 1 _ rfl|exact p_ (n:=4) (by intro _;exact rfl) (by assumption) 2 _ rfl|exact p_ (n:=4) (by intro _;exact rfl) (by assumption) 3 _ rfl);exact zA rfl)|((with_reducible apply ae_);rotate_left;exact zS rfl;exact rfl;(intro v _ h;first|exact h.1|exact h.2.1|exact h.2.2.1|exact h.2.2.2.1|exact h.2.2.2.2.1|exact h.2.2.2.2.2.1|exact h.2.2.2.2.2.2.1|exact h.2.2.2.2.2.2.2.1|exact h.2.2.2.2.2.2.2.2.1|exact h.2.2.2.2.2.2.2.2.2.1|exact h.2.2.2.2.2.2.2.2.2.2.1|exact h.2.2.2.2.2.2.2.2.2.2.2.1|exact h.1.1|exact h.2.1.1|exact h.2.2.1.1|exact h.2.2.2.1.1|exact h.2.2.2.2.1.1|exact h.2.2.2.2.2.1.1|exact h.2.2.2.2.2.2.1.1|exact h.1.2.2|exact h.2.1.2.2|exact h.2.2.1.2.2|exact h.2.2.2.1.2.2|exact h.2.2.2.2.1.2.2|exact h.2.2.2.2.2.1.2.2|exact h.2.2.2.2.2.2.1.2.2|exact h.2|exact h.2.2|exact h.2.2.2);rotate_left;(exact p_ (by intro _;exact rfl) (by assumption));exact zA rfl;(exact rfl))|((with_reducible apply (aG_ 4));rotate_left;exact rfl;exact rfl;exact rfl;exact zA rfl)|((with_reducible apply (aG_ 5));rotate_left;exact rfl;exact rfl;exact rfl;exact zA rfl)|((with_reducible apply (aG_ 6));rotate_left;exact rfl;exact rfl;exact rfl;exact zA rfl)|((with_reducible apply (aG_ 7));rotate_left;exact rfl;exact rfl;exact rfl;exact zA rfl)|((with_reducible apply (bB_ 4));rotate_left;exact zS rfl;exact rfl;exact rfl;exact rfl;exact zA rfl)|((with_reducible apply (bB_ 5));rotate_left;exact zS rfl;exact rfl;exact rfl;exact rfl;exact zA rfl)|((with_reducible apply (bB_ 6));rotate_left;exact zS rfl;exact rfl;exact rfl;exact rfl;exact zA rfl)|((with_reducible apply (bB_ 7));rotate_left;exact zS rfl;exact rfl;exact rfl;exact rfl;exact zA rfl)))))):Cn n B:=h ⟨k⟩
theorem Zj {p q A B C:Prop} (n:Nat) (k0:p→A) (k1:q→B) (h:Kw (p→A)→Kw (q→B)→Cn n C:=by intro k0_ k1_;refine Zy ?_;first|((with_reducible apply G_);(first|((with_reducible apply br_);exact rfl;exact rfl)|((with_reducible apply dg_);exact rfl;exact rfl)|((with_reducible apply df_);exact rfl;exact rfl)|((with_reducible apply dK_);exact rfl;exact rfl)|((with_reducible apply cg_);exact rfl;exact rfl)|((with_reducible apply eD_);exact rfl;exact rfl)|((with_reducible apply dA_);exact rfl;exact rfl)|((with_reducible apply cT_);exact rfl;exact rfl)|((with_reducible apply em_);exact rfl;exact rfl));exact rfl;intro r_ h_;cases r_;(first|(have q_:=zdf h_;(try dsimp only[Con.kind,Con.parts,Con.name,Con.lo,Con.hi,Con.cap,Con.ad]at q_);exact k0_.go q_)|(have q_:=znb h_;(try dsimp only[Con.kind,Con.parts,Con.name,Con.lo,Con.hi,Con.cap,Con.ad]at q_);exact k0_.go q_)|(have q_:=zbe h_;(try dsimp only[Con.kind,Con.parts,Con.name,Con.lo,Con.hi,Con.cap,Con.ad]at q_);exact k0_.go q_));(first|(have q_:=zdt h_;(try dsimp only[Con.kind,Con.parts,Con.name,Con.lo,Con.hi,Con.cap,Con.ad]at q_);exact k1_.go q_)|(have q_:=zeb h_;(try dsimp only[Con.kind,Con.parts,Con.name,Con.lo,Con.hi,Con.cap,Con.ad]at q_);exact k1_.go q_)|(have q_:=zbn h_;(try dsimp only[Con.kind,Con.parts,Con.name,Con.lo,Con.hi,Con.cap,Con.ad]at q_);exact k1_.go q_)))|((with_reducible apply cZ_);exact rfl;(first|((with_reducible apply br_);exact rfl;exact rfl)|((with_reducible apply dg_);exact rfl;exact rfl)|((with_reducible apply df_);exact rfl;exact rfl)|((with_reducible apply dK_);exact rfl;exact rfl)|((with_reducible apply cg_);exact rfl;exact rfl)|((with_reducible apply eD_);exact rfl;exact rfl)|((with_reducible apply dA_);exact rfl;exact rfl)|((with_reducible apply cT_);exact rfl;exact rfl)|((with_reducible apply em_);exact rfl;exact rfl));exact rfl;intro r_ h_;cases r_;(first|(have q_:=zdf h_;(try dsimp only[Con.kind,Con.parts,Con.name,Con.lo,Con.hi,Con.cap,Con.ad]at q_);exact k0_.go q_)|(have q_:=znb h_;(try dsimp only[Con.kind,Con.parts,Con.name,Con.lo,Con.hi,Con.cap,Con.ad]at q_);exact k0_.go q_)|(have q_:=zbe h_;(try dsimp only[Con.kind,Con.parts,Con.name,Con.lo,Con.hi,Con.cap,Con.ad]at q_);exact k0_.go q_));(first|(have q_:=zdt h_;(try dsimp only[Con.kind,Con.parts,Con.name,Con.lo,Con.hi,Con.cap,Con.ad]at q_);exact k1_.go q_)|(have q_:=zeb h_;(try dsimp only[Con.kind,Con.parts,Con.name,Con.lo,Con.hi,Con.cap,Con.ad]at q_);exact k1_.go q_)|(have q_:=zbn h_;(try dsimp only[Con.kind,Con.parts,Con.name,Con.lo,Con.hi,Con.cap,Con.ad]at q_);exact k1_.go q_)))|((with_reducible apply bG_);exact rfl;exact rfl;exact rfl;(first|((with_reducible apply br_);exact rfl;exact rfl)|((with_reducible apply dg_);exact rfl;exact rfl)|((with_reducible apply df_);exact rfl;exact rfl)|((with_reducible apply dK_);exact rfl;exact rfl)|((with_reducible apply cg_);exact rfl;exact rfl)|((with_reducible apply eD_);exact rfl;exact rfl)|((with_reducible apply dA_);exact rfl;exact rfl)|((with_reducible apply cT_);exact rfl;exact rfl)|((with_reducible apply em_);exact rfl;exact rfl));exact rfl;intro r_ h_;cases r_;(first|(have q_:=zdf h_;(try dsimp only[Con.kind,Con.parts,Con.name,Con.lo,Con.hi,Con.cap,Con.ad]at q_);exact k0_.go q_)|(have q_:=znb h_;(try dsimp only[Con.kind,Con.parts,Con.name,Con.lo,Con.hi,Con.cap,Con.ad]at q_);exact k0_.go q_)|(have q_:=zbe h_;(try dsimp only[Con.kind,Con.parts,Con.name,Con.lo,Con.hi,Con.cap,Con.ad]at q_);exact k0_.go q_));(first|(have q_:=zdt h_;(try dsimp only[Con.kind,Con.parts,Con.name,Con.lo,Con.hi,Con.cap,Con.ad]at q_);exact k1_.go q_)|(have q_:=zeb h_;(try dsimp only[Con.kind,Con.parts,Con.name,Con.lo,Con.hi,Con.cap,Con.ad]at q_);exact k1_.go q_)|(have q_:=zbn h_;(try dsimp only[Con.kind,Con.parts,Con.name,Con.lo,Con.hi,Con.cap,Con.ad]at q_);exact k1_.go q_)))):C:=(h ⟨k0⟩ ⟨k1⟩).go
theorem Zi {p q A B C:Prop} (n:Nat) (k0:p→A) (k1:q→B) (h:Kw (p→A)→Kw (q→B)→Cn n C:=by intro k0_ k1_;refine Zy ?_;first|((with_reducible apply G_);(first|((with_reducible apply br_);exact rfl;exact rfl)|((with_reducible apply dg_);exact rfl;exact rfl)|((with_reducible apply df_);exact rfl;exact rfl)|((with_reducible apply dK_);exact rfl;exact rfl)|((with_reducible apply cg_);exact rfl;exact rfl)|((with_reducible apply eD_);exact rfl;exact rfl)|((with_reducible apply dA_);exact rfl;exact rfl)|((with_reducible apply cT_);exact rfl;exact rfl)|((with_reducible apply em_);exact rfl;exact rfl));exact rfl;intro r_ h_;cases r_;(first|exact k0_.go (zdf h_)|exact k0_.go (znb h_)|exact k0_.go (zbe h_));(first|exact k1_.go (zdt h_)|exact k1_.go (zeb h_)|exact k1_.go (zbn h_)))|((with_reducible apply cZ_);exact rfl;(first|((with_reducible apply br_);exact rfl;exact rfl)|((with_reducible apply dg_);exact rfl;exact rfl)|((with_reducible apply df_);exact rfl;exact rfl)|((with_reducible apply dK_);exact rfl;exact rfl)|((with_reducible apply cg_);exact rfl;exact rfl)|((with_reducible apply eD_);exact rfl;exact rfl)|((with_reducible apply dA_);exact rfl;exact rfl)|((with_reducible apply cT_);exact rfl;exact rfl)|((with_reducible apply em_);exact rfl;exact rfl));exact rfl;intro r_ h_;cases r_;(first|exact k0_.go (zdf h_)|exact k0_.go (znb h_)|exact k0_.go (zbe h_));(first|exact k1_.go (zdt h_)|exact k1_.go (zeb h_)|exact k1_.go (zbn h_)))|((with_reducible apply bG_);exact rfl;exact rfl;exact rfl;(first|((with_reducible apply br_);exact rfl;exact rfl)|((with_reducible apply dg_);exact rfl;exact rfl)|((with_reducible apply df_);exact rfl;exact rfl)|((with_reducible apply dK_);exact rfl;exact rfl)|((with_reducible apply cg_);exact rfl;exact rfl)|((with_reducible apply eD_);exact rfl;exact rfl)|((with_reducible apply dA_);exact rfl;exact rfl)|((with_reducible apply cT_);exact rfl;exact rfl)|((with_reducible apply em_);exact rfl;exact rfl));exact rfl;intro r_ h_;cases r_;(first|exact k0_.go (zdf h_)|exact k0_.go (znb h_)|exact k0_.go (zbe h_));(first|exact k1_.go (zdt h_)|exact k1_.go (zeb h_)|exact k1_.go (zbn h_)))):C:=(h ⟨k0⟩ ⟨k1⟩).go
theorem zm {p q:Prop} (k:p) (h:Kw p→q:=by intro k_;repeat (first|exact trivial|refine⟨rfl,?_⟩|refine⟨m_ rfl k_.go,?_⟩)):q:=h ⟨k⟩
theorem Zz {A B:Prop} (n:Nat) (k:A) (h:Kw A→Cn n B:=by intro k_;exact Zy k_.go):B:=(h ⟨k⟩).go
end Go.Proofs.YtpbnmnfdgckaiaaGreatDoor

namespace Go.Proofs.YtpbnmnfdgckaiaaGreatDoor
open Go Go.Sx Go.Proofs
attribute [local irreducible] Code.wp wpList wpAnyH
open Go.Vs
theorem nw_ (c:UInt8) :
    Fn0 Tryz.prog 189 #[.int .u8 (c.toNat:Int)] (.bool (eL_ c)):=by
  refine i_ Tryz.func189 rfl rfl Tryz.ntmps189 rfl fun y=>?_;refine Zi 8 (fun h=>?_) fun h=>?_
  · skip
    refine Zi 8 (fun d=>?_) fun d=>?_
    · skip
      refine Zz 11 ?_;exact Y_ sR_ () (m_ rfl zz_) (.refl _) zt
    · skip
      refine Zz 5 ?_;refine G_ (dK_ rfl rfl) rfl fun q e=>Zz 7 ?_
      exact Y_ sR_ () (m_ rfl zz_) (.refl _) zt
  · skip
    refine Zi 4 (fun d=>?_) fun d=>?_
    · skip
      refine Zi 5 (fun e=>?_) fun e=>?_
      · skip
        refine Zz 11 ?_;exact Y_ sR_ () (m_ rfl zz_) (.refl _) zt
      · skip
        refine Zz 5 ?_;refine G_ (dK_ rfl rfl) rfl fun q x=>Zz 7 ?_
        exact Y_ sR_ () (m_ rfl zz_) (.refl _) zt
    · skip
      refine Zz 13 ?_;exact Y_ sR_ () (m_ rfl zz_) (.refl _) zt
theorem qT_ (s:Str) (G:s.length≤140737488351232) :
    Fn0 Tryz.prog 179 #[str s] (.bool (lA_ s)):=by
  refine i_ Tryz.func179 rfl rfl Tryz.ntmps179 rfl fun F=>?_;refine Zz 9 ?_;refine xJ_ S_ bW_ Tryz.runUnderlying5 rfl rfl fun cap e C=>Zz 5 ?_
  refine bJ_ [(6,.slice (some ⟨e,0,none⟩) s.length cap),(7,.int .i64 (s.length:Int)),(8,.int .i64 ((0:Nat):Int))] zl ?_;refine ci_ (ι:={k:Nat // k≤s.length∧(s.take k).all fA_=true}) (fun i=>[(6,.slice (some ⟨e,0,none⟩) s.length cap),(7,.int .i64 (s.length:Int)),(8,.int .i64 (i.1:Int))]) (fun _=>_) (fun _=>_) (fun i=>s.length - i.1) ⟨0,by simp⟩ ?_;rintro ⟨k,hk⟩;refine bJ_ [(6,.slice (some ⟨e,0,none⟩) s.length cap),(7,.int .i64 (s.length:Int)),(8,.int .i64 (k:Int))] zl ?_;refine Zi 2 (fun A=>?_) fun A=>?_
  · skip
    refine Zz 12 ?_;exact Y_ Tryz.results179 () (m_ rfl (by rw[lA_,oZ_ fA_ s k za_ hk.2])) (.refl _) zt
  · skip
    have d:k<s.length:=by omega
    obtain⟨c,h⟩:∃ c,s[k]? = some c:=⟨_,List.getElem?_eq_getElem d⟩;refine Zz 10 ?_;refine e_ (eW_ bW_ Tryz.sizeOf5 rfl rfl za_ za_) rfl (e_ (aG_ (u:=.int .u8 (c.toNat:Int)) 0 Tryz.isAgg5 rfl rfl (by rw[show 0+((k:Int)).toNat*1=k by omega];exact vT_ h)) rfl ?_);refine Zz 6 ?_;refine A_ (nw_ c) rfl (.refl _) zt rfl fun B E=>e_ (as_ rfl) rfl (Zz 1 ?_)
    cases B
    · skip
      refine Zi 3 (fun y=>?_) fun y=>?_
      · skip
        refine Zz 19 ?_;exact x_ ⟨k+1,d,gE_ _ s k c h hk.2 zai_⟩ zn_ zl (.refl _) zh
      · skip
        refine Zi 5 (fun q=>?_) fun q=>?_
        · skip
          refine Zi 5 (fun x=>?_) fun x=>?_
          · skip
            refine Zz 13 ?_;exact x_ ⟨k+1,d,gE_ _ s k c h hk.2 zai_⟩ zn_ zl (.refl _) zh
          · skip
            refine Zz 12 ?_;exact Y_ Tryz.results179 () (m_ rfl (by rw[lA_,jO_ fA_ s k c h zai_])) (.refl _) zt
        · skip
          refine Zz 16 ?_;exact Y_ Tryz.results179 () (m_ rfl (by rw[lA_,jO_ fA_ s k c h zai_])) (.refl _) zt
    · skip
      refine Zz 21 ?_;exact x_ ⟨k+1,d,gE_ _ s k c h hk.2 zai_⟩ zn_ zl (.refl _) zh
theorem uh_ (s:Str) :
    Fn0 Tryz.prog 190 #[str s] (.bool (bx_ s)):=by
  refine i_ Tryz.func190 rfl rfl Tryz.ntmps190 rfl fun R=>?_;refine Zi 15 (fun Q=>?_) fun Q=>?_
  · skip
    refine Zi 6 (fun J=>?_) fun J=>?_
    · skip
      refine Zi 6 (fun P=>?_) fun P=>?_
      · skip
        refine Zi 6 (fun I=>?_) fun I=>?_
        · skip
          refine Zi 6 (fun L=>?_) fun L=>?_
          · skip
            refine Zi 6 (fun K=>?_) fun K=>?_
            · skip
              refine Zi 6 (fun N=>?_) fun N=>?_
              · skip
                refine Zi 6 (fun O=>?_) fun O=>?_
                · skip
                  refine Zi 6 (fun M=>?_) fun M=>?_
                  · skip
                    refine Zi 6 (fun y=>?_) fun y=>?_
                    · skip
                      refine Zi 6 (fun G=>?_) fun G=>?_
                      · skip
                        refine Zi 6 (fun E=>?_) fun E=>?_
                        · skip
                          refine Zi 6 (fun h=>?_) fun h=>?_
                          · skip
                            refine Zi 6 (fun C=>?_) fun C=>?_
                            · skip
                              refine Zi 6 (fun H=>?_) fun H=>?_
                              · skip
                                refine Zi 6 (fun x=>?_) fun x=>?_
                                · skip
                                  refine Zi 6 (fun e=>?_) fun e=>?_
                                  · skip
                                    refine Zi 6 (fun A=>?_) fun A=>?_
                                    · skip
                                      refine Zi 6 (fun q=>?_) fun q=>?_
                                      · skip
                                        refine Zi 6 (fun F=>?_) fun F=>?_
                                        · skip
                                          refine Zi 6 (fun B=>?_) fun B=>?_
                                          · skip
                                            refine Zi 5 (fun d=>?_) fun d=>?_
                                            · skip
                                              refine Zz 12 ?_;exact Y_ aL_ () (m_ rfl zq_) (.refl _) zt
                                            · skip
                                              refine Zz 10 ?_;exact Y_ aL_ () (m_ rfl zq_) (.refl _) zt
                                          · skip
                                            refine Zz 13 ?_;exact Y_ aL_ () (m_ rfl zq_) (.refl _) zt
                                        · skip
                                          refine Zz 13 ?_;exact Y_ aL_ () (m_ rfl zq_) (.refl _) zt
                                      · skip
                                        refine Zz 13 ?_;exact Y_ aL_ () (m_ rfl zq_) (.refl _) zt
                                    · skip
                                      refine Zz 13 ?_;exact Y_ aL_ () (m_ rfl zq_) (.refl _) zt
                                  · skip
                                    refine Zz 13 ?_;exact Y_ aL_ () (m_ rfl zq_) (.refl _) zt
                                · skip
                                  refine Zz 13 ?_;exact Y_ aL_ () (m_ rfl zq_) (.refl _) zt
                              · skip
                                refine Zz 13 ?_;exact Y_ aL_ () (m_ rfl zq_) (.refl _) zt
                            · skip
                              refine Zz 13 ?_;exact Y_ aL_ () (m_ rfl zq_) (.refl _) zt
                          · skip
                            refine Zz 13 ?_;exact Y_ aL_ () (m_ rfl zq_) (.refl _) zt
                        · skip
                          refine Zz 13 ?_;exact Y_ aL_ () (m_ rfl zq_) (.refl _) zt
                      · skip
                        refine Zz 13 ?_;exact Y_ aL_ () (m_ rfl zq_) (.refl _) zt
                    · skip
                      refine Zz 13 ?_;exact Y_ aL_ () (m_ rfl zq_) (.refl _) zt
                  · skip
                    refine Zz 13 ?_;exact Y_ aL_ () (m_ rfl zq_) (.refl _) zt
                · skip
                  refine Zz 13 ?_;exact Y_ aL_ () (m_ rfl zq_) (.refl _) zt
              · skip
                refine Zz 13 ?_;exact Y_ aL_ () (m_ rfl zq_) (.refl _) zt
            · skip
              refine Zz 13 ?_;exact Y_ aL_ () (m_ rfl zq_) (.refl _) zt
          · skip
            refine Zz 13 ?_;exact Y_ aL_ () (m_ rfl zq_) (.refl _) zt
        · skip
          refine Zz 13 ?_;exact Y_ aL_ () (m_ rfl zq_) (.refl _) zt
      · skip
        refine Zz 13 ?_;exact Y_ aL_ () (m_ rfl zq_) (.refl _) zt
    · skip
      refine Zz 13 ?_;exact Y_ aL_ () (m_ rfl zq_) (.refl _) zt
  · skip
    refine Zz 13 ?_;exact Y_ aL_ () (m_ rfl zq_) (.refl _) zt
theorem nv_ (s:Str) (C:s.length≤140737488351232) :
    Fn0 Tryz.prog 147 #[str s] (.bool (id_ s)):=by
  refine i_ Tryz.func147 rfl rfl Tryz.ntmps147 rfl fun B=>?_;refine Zi 8 (fun d=>?_) fun d=>?_
  · skip
    refine Zz 18 ?_;exact Y_ Tryz.results147 () (m_ rfl (by simp[id_, *])) (.refl _) zt
  · skip
    obtain⟨c,t,rfl⟩:=List.exists_cons_of_ne_nil d;refine Zz 4 ?_;refine e_ (dL_ S_ rfl rfl ze_ rfl) rfl (ap_ rfl rfl (A_ (nw_ _) rfl (.refl _) zt rfl fun h x=>Zz 2 ?_));cases h
    · skip
      refine Zz 12 ?_;exact Y_ Tryz.results147 () (m_ rfl (by simp[id_, *])) (.refl _) zt
    · skip
      refine Zz 3 ?_;refine A_ (qT_ _ zi_) rfl (.refl _) zt rfl fun e y=>Zz 2 ?_
      cases e
      · skip
        refine Zz 8 ?_;exact Y_ Tryz.results147 () (m_ rfl (by simp[id_, *])) (.refl _) zt
      · skip
        refine Zz 3 ?_;refine A_ (uh_ _) rfl (.refl _) zt rfl fun A q=>ap_ rfl rfl (e_ (as_ rfl) rfl (Zz 5 ?_))
        exact Y_ Tryz.results147 () (m_ rfl (by simp[id_, *])) (.refl _) zt
theorem hu_ (s:Str) (A:s.length≤140737488351232) :
    Fn0 Tryz.prog 142 #[str s] (.bool (cR_ s)):=by
  refine i_ Tryz.func142 rfl rfl Tryz.ntmps142 rfl fun x=>?_;refine Zz 8 ?_;refine e_ (cl_ S_ rfl) rfl ?_;refine Zi 0 (fun h=>?_) fun h=>?_
  · skip
    refine Zz 18 ?_;exact Y_ Tryz.results142 () (m_ rfl zB_) (.refl _) zt
  · skip
    refine Zz 4 ?_;refine e_ (cl_ S_ rfl) rfl (ap_ rfl rfl ?_);refine Zi 0 (fun d=>?_) fun d=>?_
    · skip
      refine Zz 14 ?_;exact Y_ Tryz.results142 () (m_ rfl zB_) (.refl _) zt
    · skip
      obtain⟨c,t,rfl⟩:=List.exists_cons_of_length_pos (l:=s) za_;refine Zz 5 ?_;refine e_ (dL_ S_ rfl rfl ze_ rfl) rfl (ap_ rfl rfl ?_);refine Zi 0 (fun e=>?_) fun e=>?_
      · skip
        refine Zz 9 ?_;exact Y_ Tryz.results142 () (m_ rfl zB_) (.refl _) zt
      · skip
        refine Zz 5 ?_;refine A_ (qT_ _ zi_) rfl (.refl _) zt rfl fun y q=>Zz 5 ?_
        exact Y_ Tryz.results142 () (m_ rfl zB_) (.refl _) zt
theorem lI_ (s:Str) (c:UInt8):Fn0 Tryz.prog 212 #[str s,str [c]] (.int .i64 (Lib.indexByte s c)) :=
  hy_ (callable Tryz.func212 rfl rfl) fun w=>(Tryz.stringslite_Index_one ⟨s.toArray⟩ c w).mono zF_
theorem pw_ (s:Str) (c:UInt8) (hk:ixS c s=none):Fn0 Tryz.prog 212 #[str s,str [c]] (.int .i64 (-1)):=by
  have h:=lI_ s c;rw[mi_,hk]at h;exact h
theorem pv_ (s:Str) (c:UInt8) (k:Nat) (hk:ixS c s=some k):Fn0 Tryz.prog 212 #[str s,str [c]] (.int .i64 (k:Int)):=by
  have h:=lI_ s c;rw[mi_,hk]at h;exact h
theorem us_ (s:Str) (c:UInt8) (hk:ixS c s=none) :
    Fn0 Tryz.prog 188 #[str s,str [c]] (.tuple #[str s,str [],.bool false]):=by
  refine i_ Tryz.func188 rfl rfl Tryz.ntmps188 rfl fun e=>?_;refine Zz 12 ?_;refine j_ (pw_ s c hk) rfl (.refl _) zt rfl fun _=>Zi 6 (fun d=>?_) fun d=>?_
  · skip
    refine Zz 14 ?_;exact xz_ Tryz.results188 () rfl rfl rfl rfl (.refl _) zt
  · skip
    exact absurd d ze_
theorem ur_ (s:Str) (c:UInt8) (k:Nat) (hk:ixS c s=some k) (hl:k<s.length) (h:s.length≤140737488351232) :
    Fn0 Tryz.prog 188 #[str s,str [c]] (.tuple #[str (s.take k),str (s.drop (k+1)),.bool true]):=by
  refine i_ Tryz.func188 rfl rfl Tryz.ntmps188 rfl fun e=>?_;refine Zz 12 ?_;refine j_ (pv_ s c k hk) rfl (.refl _) zt rfl fun _=>Zi 6 (fun d=>?_) fun d=>?_
  · skip
    exact absurd za_ d
  · skip
    refine Zz 5 ?_;refine t_ 0 [0,1,2,3,4,5,6,7,8,9,10,11] zk zs (Zz 2 ?_);refine N_ rfl (eR_ (i:=0) (j:=k) (kl:=.i64) S_ rfl rfl rfl za_ za_) rfl (Zz 3 ?_);refine N_ rfl (cl_ S_ rfl) rfl ?_;refine N_ rfl (aZ_ rfl rfl rfl (ce_ zw_ zw_)) rfl ?_;refine N_ rfl (eR_ (i:=k+1) (j:=s.length) (kh:=.i64) S_ rfl rfl rfl za_ za_) rfl (Zz 7 ?_);exact xz_ Tryz.results188 () rfl rfl rfl (by simp[List.take_of_length_le]) (.refl _) zt
theorem wz_ (s:Str) (c:UInt8) (hk:ixS c s=none) :
    Fn0 Tryz.prog 146 #[str s,str [c]] (.tuple #[str s,str [],.bool false]):=by
  refine i_ Tryz.func146 rfl rfl Tryz.ntmps146 rfl fun d=>?_;refine Zz 11 ?_;refine j_ (us_ s c hk) rfl (.refl _) zt rfl fun _=>Zz 9 ?_
  exact xz_ Tryz.results146 () rfl rfl rfl rfl (.refl _) zt
theorem ps_ (s:Str) (hk:ixS 58 s=none) :
    Fn0 Tryz.prog 99 #[str s] (.bool (bi_ s)):=by
  refine i_ Tryz.func99 rfl rfl Tryz.ntmps99 rfl fun q=>?_;refine Zz 9 ?_;refine e_ (cl_ S_ rfl) rfl ?_;refine Zi 0 (fun d=>?_) fun d=>?_
  · skip
    refine Zz 8 ?_;refine j_ (wz_ s 58 hk) rfl (.refl _) zt rfl fun _=>Zz 12 ?_
    refine A_ (nv_ _ zs_) rfl (.refl _) zt rfl fun e h=>?_;refine Zz 1 ?_;cases e
    · skip
      refine Zz 11 ?_;exact Y_ mV_ () (m_ rfl zR_) (.refl _) zt
    · skip
      refine Zz 3 ?_;refine e_ (as_ rfl) rfl (Zz 11 ?_);exact Y_ mV_ () (m_ rfl zR_) (.refl _) zt
  · skip
    refine Zz 9 ?_;exact Y_ mV_ () (m_ rfl zR_) (.refl _) zt
theorem wy_ (s:Str) (c:UInt8) (k:Nat) (hk:ixS c s=some k) (hl:k<s.length) (d:s.length≤140737488351232) :
    Fn0 Tryz.prog 146 #[str s,str [c]] (.tuple #[str (s.take k),str (s.drop (k+1)),.bool true]):=by
  refine i_ Tryz.func146 rfl rfl Tryz.ntmps146 rfl fun e=>?_;refine Zz 11 ?_;refine j_ (ur_ s c k hk hl d) rfl (.refl _) zt rfl fun _=>Zz 9 ?_
  exact xz_ Tryz.results146 () rfl rfl rfl rfl (.refl _) zt
theorem pr_ (s:Str) (k:Nat) (hk:ixS 58 s=some k) (hl:k<s.length) :
    Fn0 Tryz.prog 99 #[str s] (.bool (bi_ s)):=by
  refine i_ Tryz.func99 rfl rfl Tryz.ntmps99 rfl fun y=>?_;refine Zz 9 ?_;refine e_ (cl_ S_ rfl) rfl ?_;refine Zi 0 (fun d=>?_) fun d=>?_
  · skip
    refine Zz 8 ?_;refine j_ (wy_ s 58 k hk hl za_) rfl (.refl _) zt rfl fun _=>Zz 12 ?_
    refine A_ (nv_ _ zs_) rfl (.refl _) zt rfl fun e h=>?_;refine Zz 1 ?_;cases e
    · skip
      refine Zz 11 ?_;exact Y_ mV_ () (m_ rfl zR_) (.refl _) zt
    · skip
      refine Zz 3 ?_;refine e_ (as_ rfl) rfl (Zz 5 ?_);refine A_ (nv_ _ zs_) rfl (.refl _) zt rfl fun x q=>?_;refine Zz 7 ?_;exact Y_ mV_ () (m_ rfl zR_) (.refl _) zt
  · skip
    refine Zz 9 ?_;exact Y_ mV_ () (m_ rfl zR_) (.refl _) zt
theorem gS_ (s:Str):Fn0 Tryz.prog 99 #[str s] (.bool (bi_ s)):=by
  cases hk:ixS 58 s with
  | none=>exact ps_ s hk
  | some k=>exact pr_ s k hk (sd_ hk)
theorem gB_ (s:Str) (y:s.length≤140737488351232) :
    Fn0 Tryz.prog 93 #[str s] (.int .i64 (if aO_ s then 0 else 20)):=by
  refine i_ Tryz.func93 rfl rfl Tryz.ntmps93 rfl fun x=>?_;refine Zz 9 ?_;refine A_ (gS_ _) rfl (.refl _) zt rfl fun e q=>Zz 1 ?_
  cases e
  · skip
    refine Zz 3 ?_;refine A_ (hu_ _ y) rfl (.refl _) zt rfl fun d h=>Zz 3 ?_
    cases d
    · skip
      refine Zz 9 ?_;exact Y_ Tryz.results93 () (cd_ rfl (by simp[aO_, *])) (.refl _) zt
    · skip
      refine Zz 7 ?_;exact Y_ Tryz.results93 () (cd_ rfl (by simp[aO_, *])) (.refl _) zt
  · skip
    refine Zz 12 ?_;exact Y_ Tryz.results93 () (cd_ rfl (by simp[aO_, *])) (.refl _) zt
theorem fY_ (s:Str) (e:s.length≤140737488351232) :
    Fn0 Tryz.prog 159 #[str s] (.bool (aO_ s)):=by
  refine i_ Tryz.func159 rfl rfl Tryz.ntmps159 rfl fun h=>?_;refine Zz 8 ?_;refine j_ (gB_ s e) rfl (.refl _) zt rfl fun _=>G_ (br_ rfl rfl) rfl fun q d=>Zz 4 ?_
  exact Y_ Tryz.results159 () (m_ rfl (by subst_vars;cases aO_ s<;>rfl)) (.refl _) zt
theorem fits_c:∀ (m:Nat) (c:Con),c.sz≤m→c.ok→∀ (d n bs:Nat),d≤9→n≤64→∀ r,c.fits d n=r →
    Tri Tryz.prog 100 #[c.val,.int .i64 (d:Int),zp_ bs 0] [(bs,.cells #[.int .i64 (n:Int)] 3 (0,0))] [c.memF] (fun _:Unit=>.bool r.1) (fun _=>[(bs,.cells #[.int .i64 (r.2:Int)] 3 (0,0))]) (fun _=>[]):=by
  intro m
  induction m with
  | zero=>intro c h;have:=c.sz_pos;omega
  | succ m ih =>
    intro c hm F d n bs O P r J;obtain⟨k,nm,lo,hi,ad,cap,ps⟩:=c;have C:=Con.ok_len F;simp only[Con.parts,Con.cap]at C;refine i_ Tryz.func100 rfl rfl Tryz.ntmps100 rfl fun M=>?_;refine Zz 2 ?_;refine V_ rfl rfl fun L=>Zz 10 ?_
    refine z_ 1 au_ rfl rfl rfl rfl rfl rfl (Zj 6 (fun I=>?_) fun I=>?_)
    · skip
      refine Zj 8 (fun E=>?_) fun E=>?_
      · skip
        have y:¬ (8<d∨64<n+1):=by omega
        refine Zz 16 ?_;refine bJ_ [(1,.int .i64 (d:Int)),(2,zp_ bs 0),(23,.slice ad ps.length cap),(24,.int .i64 (ps.length:Int)),(25,.int .i64 ((0:Nat):Int))] zl ?_;refine ci_ (ι:={q:Nat×Nat // q.1≤ps.length∧Con.fits.fitss (ps.take q.1) (d+1) (n+1)=(true,q.2)∧q.2≤64}) (fun i=>[(1,.int .i64 (d:Int)),(2,zp_ bs 0),(23,.slice ad ps.length cap),(24,.int .i64 (ps.length:Int)),(25,.int .i64 (i.1.1:Int))]) (fun i=>[_,(bs,.cells #[.int .i64 (i.1.2:Int)] 3 (0,0))]) (fun _=>_) (fun i=>ps.length - i.1.1) ⟨(0,n+1),by simp[Con.fits.fitss];omega⟩ ?_;rintro ⟨⟨i,e⟩,hk⟩;refine bJ_ [(1,.int .i64 (d:Int)),(2,zp_ bs 0),(23,.slice ad ps.length cap),(24,.int .i64 (ps.length:Int)),(25,.int .i64 (i:Int))] zl ?_;refine Zj 2 (fun H=>?_) fun H=>?_
        · skip
          refine Zz 12 ?_;obtain rfl:r=(true,e):=by rw[← J];exact Con.fits_yes y za_ hk.2.1
          exact Y_ Tryz.results100 () rfl (gs_ (i:=1) rfl) zt
        · skip
          have B:i<ps.length:=by omega
          obtain⟨p,G⟩:∃ p,ps[i]? = some p:=⟨_,List.getElem?_eq_getElem B⟩;have A:p∈ps:=List.mem_of_getElem? G;refine Zz 10 ?_;refine e_ (O_ ag_ M_ rfl rfl (fun v _ h=>Con.row_addr (c:=.mk k nm lo hi ad cap ps) h.1 G) za_ za_) rfl (e_ (ae_ (us:=p.cells) aN_ M_ rfl (fun v _ h=>((Con.mem_iff (.mk k nm lo hi ad cap ps) v).1 h.1).1) p.cells_len (Con.part_cells (c:=.mk k nm lo hi ad cap ps) (i:=i) G)) rfl (E_ bQ_ rfl fun N=>ff_ 0 M_ rfl rfl rfl rfl (Zz 4 ?_)));refine e_ (dd_ 0 aN_ M_ rfl rfl) rfl (Zz 3 ?_);refine nf_ 2 (ih p (by have:=Con.sz_part (c:=.mk k nm lo hi ad cap ps) A;omega) (Con.ok_part (c:=.mk k nm lo hi ad cap ps) F A) (d+1) e bs za_ hk.2.2 _ rfl) rfl rfl (fun v _ h=>⟨Con.mem_part (c:=.mk k nm lo hi ad cap ps) h.1 A,trivial⟩) rfl fun K x=>?_;refine e_ (as_ rfl) rfl (Zz 2 ?_);cases K
          · skip
            try dsimp only[Con.kind,Con.parts,Con.name,Con.lo,Con.hi,Con.cap,Con.ad]at x
            refine Zz 7 ?_;obtain rfl:r=(false,(p.fits (d+1) e).2):=by rw[← J];exact Con.fits_no y G hk.2.1 zi_
            exact Y_ Tryz.results100 () rfl (gs_ (i:=2) rfl) zt
          · skip
            try dsimp only[Con.kind,Con.parts,Con.name,Con.lo,Con.hi,Con.cap,Con.ad]at x
            refine Zz 8 ?_;exact x_ ⟨(i+1,(p.fits (d+1) e).2),B,Con.fitss_step G hk.2.1 zi_⟩ zn_ zl (@List.perm_append_comm _ [_] _) zh
      · skip
        refine Zz 10 ?_;obtain rfl:r=(false,n+1):=by rw[← J,Con.fits_eq];simp<;>omega
        exact Y_ Tryz.results100 () rfl (gs_ (i:=1) rfl) zt
    · skip
      refine Zz 15 ?_;obtain rfl:r=(false,n+1):=by rw[← J,Con.fits_eq];simp<;>omega
      exact Y_ Tryz.results100 () rfl (gs_ (i:=1) rfl) zt
def sT_ (v:Vw):Prop:=v.sl∧v.im 6∧∃ T fz,v.w.heap[6]? = some (.cells (Lib.pow10Tab.map fun z=>Value.int .u64 z).toArray T fz)
theorem rS_ {v d:Vw} (h:v.le d) (q:sT_ v):sT_ d:=by
  obtain⟨x,e,T,fz,y⟩:=q;exact⟨by rw[h.sl];exact x,h.imUp _ e,T,fz,by rw[h.block _ e];exact y⟩
theorem tT_ {v : Vw} (d : sT_ v) : Lib.TabIs Tryz.prog v.w "internal/strconv.uint64pow10" .u64 Lib.pow10Tab := by
  obtain⟨_,q,T,fz,h⟩:=d;have e : Tryz.prog.globalNamed "internal/strconv.uint64pow10" = some 6 := by kernel_rfl
  simp only[Lib.TabIs,World.var?,e,Option.bind_some,h]
def cn_:Fct where
  p:=fun v=>bu_ v (some ⟨1,0,none⟩) (ez_.flatMap sY_)∧bu_ v (some ⟨0,0,none⟩) (tD_.flatMap Use.cells)∧True∧sT_ v
  mono:=fun v v' h hp=>⟨(ai_ _ _).mono v v' h hp.1,(ai_ _ _).mono v v' h hp.2.1,trivial,rS_ h hp.2.2.2⟩
def lQ_:Fct:=ai_ (some ⟨2,0,none⟩) (gu_.flatMap NUse.cells)
end Go.Proofs.YtpbnmnfdgckaiaaGreatDoor
