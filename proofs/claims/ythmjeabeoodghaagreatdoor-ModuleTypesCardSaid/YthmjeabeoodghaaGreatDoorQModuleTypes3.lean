/-
  Lemmas for the law ModuleTypes (no condition).
-/
import Derived.Test.YthmjeabeoodghaaGreatDoorQModuleTypes2
import Derived.Laws.MakeOwn
import Derived.Laws.OwnMore
import Derived.Shelf.Strings.Builder1
import Derived.Shelf.Strings.Builder2
import Derived.Shelf.Strings.OnBuilder
import Derived.Shelf.Small.Bits
import Derived.Shelf.Small.Strs
import Derived.Shelf.Small.Wraps
import Derived.Shelf.Utf8.RuneCount
import Derived.Shelf.Strconv.Itoa0
import Derived.Shelf.Strconv.Itoa1
import Derived.Shelf.LaysM
import Derived.Shelf.Strconv.Itoa2
import Derived.Shelf.Strconv.Itoa3
import Derived.Shelf.Strings.Search1
import Derived.Shelf.Strings.Search2
import Derived.Shelf.Strings.Search3
import Derived.Shelf.Strings.Cut
import Derived.Shelf.Strings.Count
import Derived.Shelf.Strings.Shaped
import Derived.Shelf.Sort.Plain
import Derived.Shelf.Strings.Prefix
import Derived.Shelf.Strings.Split
import Derived.Shelf.Strings.SplitShaped
import Derived.Shelf.Unicode.DecodeSlow
import Derived.Shelf.Slices.Reverse
import Derived.Shelf.Slices.CompactS
import Derived.Ground.Names2Prog
import Derived.Shelf.Slices.SearchI
import Derived.Shelf.Slices.Cells
import Derived.Shelf.Slices.In.SortNone
import Derived.Ground.SlgnProg
import Derived.Shelf.SlicesE.Clone
import Derived.Test.YthmjeabeoodghaaGreatDoorProg
set_option linter.unusedVariables false
set_option linter.unusedSimpArgs false
set_option linter.unusedSectionVars false
set_option maxHeartbeats 1000000
namespace Go.Vs
open Go Go.Sx
def bp_ (c:UInt8):Str→List Str
  | []=>[[]]
  | b::s=>if b=c then []::bp_ c s else match bp_ c s with
    | h::t=>(b::h)::t
    | []=>[[b]]
def dP_ (c:UInt8) (s:Str):Nat:=s.countP (·==c)
theorem lD_ (c:UInt8):∀ s,bp_ c s≠[]
 | []=>by simp[bp_]
 | b::s=>by
   simp only[bp_]
   split
   · simp
   · split<;>simp
theorem ft_ (c:UInt8):∀ s,(bp_ c s).length=dP_ c s+1
 | []=>by simp[bp_,dP_]
 | b::s=>by
   have d:=ft_ c s;simp only[bp_]
   by_cases h:b=c
   · simp only[h,if_true,List.length_cons,d,dP_,List.countP_cons,beq_self_eq_true]
   · simp only[h,if_false]
     cases hs:bp_ c s with
     | nil=>exact absurd hs (lD_ c s)
     | cons x t =>
       rw[hs]at d;simp only[List.length_cons]at d ⊢;simp only[dP_,List.countP_cons,beq_iff_eq,h,if_false,Nat.add_zero]at d ⊢;exact d
theorem gY_ {c:UInt8}:∀ {s:Str},ixS c s=none→bp_ c s=[s]
 | [],_=>rfl
 | b::s,h=>by
   simp only[ixS]at h
   split at h
   · cases h
   · rename_i d
     have e:ixS c s=none:=by simpa using h
     simp only[bp_,d,if_false,gY_ e]
theorem iT_ {c:UInt8}:∀ {s:Str} {k:Nat},ixS c s=some k→bp_ c s=s.take k::bp_ c (s.drop (k+1))
 | [],k,h=>by simp[ixS]at h
 | b::s,k,h=>by
   simp only[ixS]at h
   split at h
   · rename_i d
     simp only[Option.some.injEq]at h;subst h;simp[bp_,d]
   · rename_i d
     cases hx:ixS c s with
     | none=>rw[hx]at h;simp at h
     | some j =>
       rw[hx]at h;simp only[Option.map_some,Option.some.injEq]at h;subst h;simp only[bp_,d,if_false,iT_ hx,List.take_succ_cons,List.drop_succ_cons]
theorem yg_ {c:UInt8} {s:Str} (h:ixS c s=none):dP_ c s=0:=by
  have:=ft_ c s;rw[gY_ h]at this;simpa using this.symm
theorem qP_ {c:UInt8} {s:Str} {k:Nat} (h:ixS c s=some k):dP_ c s=dP_ c (s.drop (k+1))+1:=by
  have d:=ft_ c s;rw[iT_ h]at d;simp only[List.length_cons,ft_]at d;omega
theorem Ct_ (c:UInt8) (s:Str):dP_ c s≤s.length:=List.countP_le_length
def bj_ (s:Str):Bool :=
  if s=[42]∨s=[33] then true
  else if 2≤s.length∧s[0]? = some 123∧s[s.length - 1]? = some 125 then aN_ ((s.drop 1).take (s.length - 1 - 1))
  else if 3≤s.length∧s[0]? = some 60∧s[s.length - 1]? = some 62 then true
  else aN_ s
def cx_ (s:Str):Bool:=decide ((bp_ 46 s).length≤4)&&!((bp_ 46 s).any fun r=>!aN_ r)
def bU_ (used:Bool) (s:Str) (q:Str→Bool):Bool:=(used&&q s)||(!used&&(s==[]))
def Pc.valid (p:Pc):Bool :=
  if p.kind<1∨9<p.kind∨p.frm < -1∨1024≤p.frm then false
  else if (nus p.kind).numbers=true∧(p.lo < -1099511627776∨p.hi<p.lo∨1099511627776<p.hi) then false
  else if (nus p.kind).numbers=false∧(p.lo≠0∨p.hi≠0) then false
  else ((((bU_ (nus p.kind).a p.a bj_&&bU_ (nus p.kind).b p.b bj_)&&bU_ (nus p.kind).c p.c bj_)&&bU_ (nus p.kind).r p.r (if (nus p.kind).numbers then aN_ else cx_))&&bU_ (nus p.kind).s p.s cx_)&&bU_ (nus p.kind).t p.t cx_
structure Pc.sm (p:Pc):Prop where
  a:p.a.length≤17592186044414
  b:p.b.length≤17592186044414
  c:p.c.length≤17592186044414
  r:p.r.length≤17592186044414
  s:p.s.length≤17592186044414
  t:p.t.length≤17592186044414
def cC_ (l:List Pc):Int:=if 16384<l.length then 2 else if l.all Pc.valid then 0 else 1
end Go.Vs
namespace Go.Sx
open Go
section
variable {H r r' d t:Hp} {b:Nat×Obj} {O:Hp}
theorem g_:H.Perm ([]++H):=.refl _
theorem d_:(b::r).Perm ([b]++r):=.refl _
theorem w_:(O++r).Perm (O++r):=.refl _
theorem c_ (h:H.Perm (t++r)):(b::H).Perm (t++(b::r)):=(h.cons b).trans List.perm_middle.symm
theorem l_ (h:H.Perm (t++r)):(O++H).Perm (t++(O++r)):=(List.Perm.append_left O h).trans (by
  rw[← List.append_assoc,← List.append_assoc];exact List.Perm.append_right r List.perm_append_comm)
theorem i_ (e:H.Perm ([b]++r)) (h:r.Perm (d++r')):H.Perm ((b::d)++r'):=e.trans (h.cons b)
theorem B_ (e:H.Perm (O++r)) (h:r.Perm (d++r')):H.Perm ((O++d)++r'):=by
  rw[List.append_assoc];exact e.trans (List.Perm.append_left O h)
theorem aj_:H.Perm (H++[]):=by rw[List.append_nil]
end
theorem oo_:∀ xs:List (List UInt8),xs.flatMap au_=xs.map str
  | []=>rfl
  | x::xs=>by simp only[List.flatMap_cons,oo_ xs,List.map_cons];rfl
def cY_ (n:Int):List Value:=[.int .i64 n]
theorem dO_ (n:Int):(cY_ n).length=1:=rfl
section
variable {P:Program} {N:Nf} {v0:Vw} {H0:Hp} {R:Exit→Act→World→Prop} {K:List Kt} {fr:Fr} {H:Hp} {Γ:List Fct}
theorem aq_ {k:Act→World→Prop} {b:Nat} {cs:List Value} {T:TypeId} {fz:Nat×Nat} {F:Hp} (xs:List Value) (B:H.Perm ([(b,.cells cs.toArray T fz)]++F)) (A:cs=xs) (h:Ok N v0 H0 k fr F (X_ (some ⟨b,0,none⟩) xs::Γ)):Ok N v0 H0 k fr H Γ :=
  en_ (X_ (some ⟨b,0,none⟩) xs) B (fun v e m _=>.inr ⟨b,0,cs.toArray,T,fz,rfl,e,m,fun j x y=>by rw[Nat.zero_add,A];simpa using y⟩) h
theorem satNil {v:Vw} (h:v.sat H):v.sat []:=⟨(fun _ h=>by cases h),zaf_,h.lt⟩
variable {ops:Array Oper} {l:List Oper} {d:Nat} {ty:TypeId} {ps:String} {af:Array Edge}
theorem vC_ {x y:Operand} {t B:TypeId} {m n:Int} (A:Fr.ev fr x=some (.int .i64 m)) (h:Fr.ev fr y=some (.int .i64 n)) :
    Yld P N fr H Γ (.call ⟨.builtin .min,#[x,y],#[t,B]⟩) ty (.int .i64 (if n<m then n else m)) :=
  fun a v e C _ _ _ _=>by simp[execOp,resolve,invoke,builtin,Builtin.min_,Builtin.min2,e.ev A,e.ev h]
theorem AV_ {x y:Operand} {t B:TypeId} {m n:Int} (A:Fr.ev fr x=some (.int .i64 m)) (h:Fr.ev fr y=some (.int .i64 n)) :
    Yld P N fr H Γ (.call ⟨.builtin .max,#[x,y],#[t,B]⟩) ty (.int .i64 (if m<n then n else m)) :=
  fun a v e C _ _ _ _=>by simp[execOp,resolve,invoke,builtin,Builtin.max_,Builtin.max2,e.ev A,e.ev h]
theorem AU_ {t E:TypeId} {x y:Operand} {m n:Int} (B:Fr.ev fr x=some (.int .i64 m)) (h:Fr.ev fr y=some (.int .i64 n)) (C:n≠0) (A:IntKind.wrap .i64 (m.tdiv n)=m.tdiv n) :
    Yld P N fr H Γ (.binOp .quo t x y E) ty (.int .i64 (m.tdiv n)) :=
  fun a v e _ _ _ _ _=>by simp[execOp,e.ev B,e.ev h,eqGuard,binOp,Op.intDiv,C,A]
theorem BU_ (z:Value) (n:Nat):madeCells #[z] (n*1)=(List.replicate n z).toArray:=by
 unfold madeCells
 apply Array.ext
 ·simp
 intro i e h;simp at e h ⊢
 have:i%1=0:=Nat.mod_one i;simp[this]
theorem xA_ {t e:TypeId} {x y:Operand} {n by':Nat} {z:Value} (J:P.underlying t=some (.slice e)) (hi:(P.info? e).map (fun i=>(i.zero,i.size,i.bytes))=some (some z,1,by')) (L:z.cells=#[z]) (C:Fr.ev fr x=some (.int .i64 (n:Int))) (G:Fr.ev fr y=some (.int .i64 (n:Int)))
    (M:by'*n≤281474976710656) (E:n≤9223372036854775807) (F:Nat.blt d N.n=true)
    (I:∀ b,Ops P R N v0 H0 ops l K ((d,.slice (some ⟨b,0,none⟩) n n)::fr) ((b,.cells (List.replicate n z).toArray e (0,0))::H) Γ):Ops P R N v0 H0 ops (⟨some d,.makeSlice t x y,ty,ps,af,none⟩::l) K fr H Γ:=by
  refine hb_ (x:=fun b=>.slice (some ⟨b,0,none⟩) n n) F (fun a v A _ _=>?_) I;cases h:P.info? e with
  | none=>rw[h]at hi;cases hi
  | some i =>
    rw[h]at hi;simp only[Option.map_some,Option.some.injEq,Prod.mk.injEq]at hi
    have m:(i.bytes:Int)*(n:Int)≤281474976710656:=by
      rw[hi.2.2];have h:((by'*n:Nat):Int)≤281474976710656:=by omega
      rwa [Int.natCast_mul]at h
    have B:=run_make (P:=P) v.w t e i z J h hi.1 .i64 .i64 (n:Int) (n:Int) zaa_ (Int.le_refl _) m zaa_;rw[hi.2.1,L,Int.toNat_natCast,BU_]at B;simp only[execOp,A.ev C,A.ev G];simp[B]
theorem oG_ {t:TypeId} {x y:Operand} {b off:Nat} (i:Nat) {h m:List Value} {z u:Value} {T:TypeId} (E:∀ w,(sizeOf t).run P w=.ok 1 w)
    (F:Fr.ev fr x=some (.pointer (some ⟨b,off,none⟩))) (G:Fr.ev fr y=some u) (hi:H[i]? = some (b,.cells (h++z::m).toArray T (0,0))) (C:off=h.length) (v:u.cells=#[u]) (A:u.oneCell'=true)
    (I:Ops P R N v0 H0 ops l K fr (H.set i (b,.cells (h++u::m).toArray T (0,0))) Γ) :
    Ops P R N v0 H0 ops (⟨none,.store t x y,ty,ps,af,none⟩::l) K fr H Γ:=by
  subst C;refine o_ i E F G hi (by rw[v];rfl) zaf_ (by rw[v];simpa using A) ?_
  have e:(((h++z::m).toArray.toList.take h.length++u.cells.toList++(h++z::m).toArray.toList.drop (h.length+1)).toArray)=(h++u::m).toArray:=by
    rw[v]
    have B:(h++z::m).drop (h.length+1)=m:=by
      rw[← List.drop_drop];simp
    simp[B]
  rw[e];exact I
theorem sF_ {b cap n:Nat}:sad (some ⟨b,0,none⟩) cap 0 n=some ⟨b,0,none⟩:=by unfold sad;split<;>simp[cK_]
end
theorem wT_ {cs us e:List Value} {k:Nat} (off:Nat) (h:∀ j y,us[j]? = some y→cs[k+j]? = some y) (m:∀ (j:Nat) y,e[j]? = some y→us[off+j]? = some y):∀ j y,e[j]? = some y→cs[k+off+j]? = some y:=fun j y v=>by
  rw[Nat.add_assoc];exact h _ _ (m j y v)
end Go.Sx
namespace Go.Sx
open Go
section
variable {P:Program} {N:Nf} {v0:Vw} {H0:Hp} {R:Exit→Act→World→Prop} {K:List Kt} {fr:Fr} {H:Hp} {Γ:List Fct}
variable {ops:Array Oper} {l:List Oper} {d:Nat} {ty:TypeId} {ps:String} {af:Array Edge}
theorem mZ_ {x y:Operand} {t e:TypeId} {sz by' n m c:Nat} {sv:Value} {xs news:List Value} {Hr F:Hp} {ad:Ao} (G:Elt P t e sz by') (A:az_ e sz sv n xs Hr)
    (V:Fr.ev fr x=some sv) (X:Fr.ev fr y=some (.slice ad m c)) (U:ad=none→c=0) (hmc:m≤c) (Q:H.Perm (Hr++F)) (hl:news.length=m*sz) (B:∀ v,v.sat H→ad_ Γ v→bY_ v ad news) (O:∀ u∈news,u.oneCell'=true)
    (I:n+m≤maxLen) (hb:(n+m)*by'≤140737488355328) (W:Nat.blt d N.n=true)
    (S:∀ sv' Hr',az_ e sz sv' (n+m) (xs++news) Hr'→Ops P R N v0 H0 ops l K ((d,sv')::fr) (Hr'++F) Γ) :
    Ops P R N v0 H0 ops (⟨some d,.call ⟨.builtin .append,#[x,y],#[t,t]⟩,ty,ps,af,none⟩::l) K fr H Γ:=by
  cases ad with
  | none =>
    obtain rfl:=U rfl;obtain rfl:m=0:=by omega
    obtain rfl:news=[]:=List.eq_nil_of_length_eq_zero (by simpa using hl);refine cR_ rfl fun a v C J L E=>?_;obtain⟨i,z,hi,U,es,eb,ez⟩:=G.info;have g:=J.perm Q;have Y:=A.owns g;have hr:=run_append_owned_none (P:=P) (w:=v.w) 0 t ty e i sz G.und hi sv n xs Y;unfold Oper.wp execOp;simp only[resolve,invoke,builtin,Sem.run_bind,Sem.run_pure,Result.andThen_ok,List.map_toArray,List.map_cons,List.map_nil,C.ev V,C.ev X,hr];have T:v.to H v (Hr++F):=(Vw.to.refl v (Hr++F)).permL Q.symm;exact S sv Hr zaS_ _ v (C.put W) g (L.trans T) E
  | some a0 =>
    refine aO_ G A V X Q hl (fun v J E j u M=>?_) O I hb W S;rcases B v J E with h|⟨b,off,Z,T,fz,C,_,L,h5⟩
    · rw[h]at M;simp at M
    · rw[Option.some.injEq]at C
      subst C;have:=h5 j u M;rw[cK_];simp[World.cell?,L,this]
theorem xz_ {t e:TypeId} {sz:Nat} (y:∀ w,(underlying t).run P w=.ok (.slice e) w) (A:∀ w,(sizeOf e).run P w=.ok sz w) (h:Nat.blt d N.n=true)
    (m:∀ b,Ops P R N v0 H0 ops l K ((d,.slice (some ⟨b,0,none⟩) 0 0)::fr) ((b,.cells #[] e (0,0))::H) Γ):Ops P R N v0 H0 ops (⟨some d,.buildSlice t 0 #[],ty,ps,af,none⟩::l) K fr H Γ :=
  hb_ (x:=fun b=>.slice (some ⟨b,0,none⟩) 0 0) h (fun a v B C E=>by
    simp only[execOp,Instr.buildSlice,Sem.run_bind,y,Result.andThen_ok,A,List.map_toArray];rw[if_neg zaa_,if_pos zaa_,Nat.zero_mul,show Array.range 0=#[] by simp];simp only[Sem.run_bind,Sem.run_pure,Result.andThen_ok,List.map_nil,List.map_toArray,List.toList_toArray,Instr.fill];rfl) m
theorem bL_ {k:Act→World→Prop} {e:TypeId} {sz n:Nat} {sv:Value} {xs:List Value} {Hr F:Hp} (x:az_ e sz sv n xs Hr) (B:H.Perm (Hr++F))
    (h:∀ ad cap,sv=.slice ad n cap→n≤cap→cap≤maxLen→(ad=none→cap=0)→Ok N v0 H0 k fr F (X_ ad xs::Γ)):Ok N v0 H0 k fr H Γ:=by
  refine gE_ x B fun ad cap m y C=>h ad cap m y C fun A=>?_;rcases x.2 with⟨v,_,_⟩|⟨g,c,cur,v,_⟩
  · rw[v]at m
    simp only[Value.slice.injEq]at m;exact m.2.2.symm
  · rw[v,A]at m
    simp at m
end
end Go.Sx
namespace Go.Sx
open Go
section
variable {P:Program} {N:Nf} {fr:Fr} {H:Hp} {Γ:List Fct} {ty:TypeId} {e:TypeId} {sz n:Nat} {sv:Value} {xs:List Value} {Hr F:Hp}
theorem dY_ {O:Hp}:List.Perm (O++[]) O:=by rw[List.append_nil]
theorem bi_ {O Q:Hp}:List.Perm (Q++O) (O++Q):=List.perm_append_comm
theorem C_ {O:Hp} {b:Nat×Obj}:List.Perm (b::O) (O++[b]):=List.perm_append_comm (l₁:=[b])
theorem vU_ {H:Hp}:List.Perm ([]++H) H:=.refl _
def svB:Value→Nat
  | .slice (some a) _ _=>a.block
  | _=>0
theorem cF_ {x:Operand} {t y:TypeId} (h:az_ e sz sv n xs Hr) (m:∀ w,(underlying t).run P w=.ok (.slice y) w) (v:Fr.ev fr x=some sv):Yld P N fr H Γ (.call ⟨.builtin .len,#[x],#[t]⟩) ty (.int .i64 (n:Int)):=by
 rcases h.2 with⟨rfl,rfl,_⟩|⟨g,cap,cur,rfl,_⟩
 ·exact ed_ m v
 exact ed_ m v
theorem bI_ {x y:Operand} {t m:TypeId} {k:IntKind} {i:Int} (h:az_ e sz sv n xs Hr) (B:∀ w,(underlying t).run P w=.ok (.slice m) w) (E:∀ w,(sizeOf m).run P w=.ok sz w) (C:Fr.ev fr x=some sv) (v:Fr.ev fr y=some (.int k i)) (A:0≤i) (hl:i<n) :
    Yld P N fr H Γ (.indexAddr t x y) ty (.pointer (some ⟨svB sv,i.toNat*sz,none⟩)):=by
  rcases h.2 with⟨_,G,_⟩|⟨g,cap,cur,rfl,_⟩
  · omega
  · have:=gk_ (P:=P) (N:=N) (H:=H) (Γ:=Γ) (ty:=ty) B E C v A hl
    rw[Nat.zero_add]at this;exact this
theorem eQ_ {x:Operand} {t:TypeId} {k m:Nat} {us:List Value} (h:az_ e sz sv n xs Hr) (T:H.Perm (Hr++F)) (Q:∀ w,(isAgg t).run P w=.ok true w) (J:∀ w,(sizeOf t).run P w=.ok m w) (I:Fr.ev fr x=some (.pointer (some ⟨svB sv,k,none⟩)))
    (S:us.length=m) (V:0<m) (E:∀ j y,us[j]? = some y→xs[k+j]? = some y):Yld P N fr H Γ (.load t x) ty (.agg us.toArray):=by
  rcases h.2 with⟨_,C,_⟩|⟨g,cap,cur,rfl,rfl,W,X,U,G⟩
  · subst C
    have M:=h.1;have:xs=[]:=List.eq_nil_of_length_eq_zero (by simpa using M);subst this;have:=E 0 us[0] (List.getElem?_eq_getElem zaa_);simp at this
  · refine hp_ I fun v C _=>dL_ Q J S fun j y O=>?_
    have L:=((C.perm T).own _ (List.mem_append_left _ List.mem_cons_self)).1;have A:=E j y O;rw[← G,List.getElem?_take]at A
    split at A
    · have B:cur[k+j]? = some y:=by simpa using A
      simp only[svB,World.cell?,L,Option.isSome_none,Bool.false_eq_true,if_false];exact B
    · cases A
end
end Go.Sx
namespace Go.Sx
open Go
section
variable {P:Program} {N:Nf} {fr:Fr} {H:Hp} {Γ:List Fct} {ty:TypeId} {e:TypeId} {sz n:Nat} {sv:Value} {xs:List Value} {Hr F:Hp}
theorem dn_ {x:Operand} {t:TypeId} {k:Nat} {u:Value} (h:az_ e sz sv n xs Hr) (I:H.Perm (Hr++F)) (G:∀ w,(isAgg t).run P w=.ok false w) (C:Fr.ev fr x=some (.pointer (some ⟨svB sv,k,none⟩)))
    (m:xs[k]? = some u):Yld P N fr H Γ (.load t x) ty u:=by
  rcases h.2 with⟨_,A,_⟩|⟨g,cap,cur,rfl,rfl,L,M,J,B⟩
  · subst A
    have:xs=[]:=List.eq_nil_of_length_eq_zero (by simpa using h.1);subst this;simp at m
  · refine hp_ C fun v A _=>cd_ G ?_
    have E:=((A.perm I).own _ (List.mem_append_left _ List.mem_cons_self)).1;rw[← B,List.getElem?_take]at m
    split at m
    · have y:cur[k]? = some u:=by simpa using m
      simp only[svB,World.cell?,E,Option.isSome_none,Bool.false_eq_true,if_false];exact y
    · cases m
theorem dy_ (h:az_ e sz sv n xs Hr):sv.cells=#[sv]∧sv.oneCell'=true:=by
  rcases h.2 with⟨rfl,_⟩|⟨g,cap,cur,rfl,_⟩<;>exact⟨rfl,rfl⟩
theorem cq_ {v0:Vw} {H0:Hp} {R:Exit→Act→World→Prop} {K:List Kt} {ops:Array Oper} {l:List Oper} {ps:String} {af:Array Edge} {t:TypeId} {x y:Operand} {b off:Nat} (i:Nat) {cur:Array Value} {T:TypeId} (h:az_ e sz sv n xs Hr) (v:∀ w,(sizeOf t).run P w=.ok 1 w)
    (A:Fr.ev fr x=some (.pointer (some ⟨b,off,none⟩))) (B:Fr.ev fr y=some sv) (hi:H[i]? = some (b,.cells cur T (0,0))) (m:Nat.ble (off+1) cur.size=true)
    (C:Ops P R N v0 H0 ops l K fr (H.set i (b,.cells (cur.toList.take off++[sv]++cur.toList.drop (off+1)).toArray T (0,0))) Γ):Ops P R N v0 H0 ops (⟨none,.store t x y,ty,ps,af,none⟩::l) K fr H Γ :=
  o_ i v A B hi (by rw[(dy_ h).1];rfl) m (by rw[(dy_ h).1];simp[(dy_ h).2]) (by rw[(dy_ h).1];exact C)
theorem nT_ {x y:Operand} {t A:TypeId} {m k:Int} (v:Fr.ev fr x=some (.int .i64 m)) (h:Fr.ev fr y=some (.int .i64 k)):Yld P N fr H Γ (.call ⟨.builtin .max,#[x,y],#[t,A]⟩) ty (.int .i64 (max m k)):=by
  have e:(if m<k then k else m)=max m k:=by split<;>omega
  exact e▸AV_ v h
theorem kK_ {x y:Operand} {t A:TypeId} {m k:Int} (v:Fr.ev fr x=some (.int .i64 m)) (h:Fr.ev fr y=some (.int .i64 k)):Yld P N fr H Γ (.call ⟨.builtin .min,#[x,y],#[t,A]⟩) ty (.int .i64 (min m k)):=by
  have e:(if k<m then k else m)=min m k:=by split<;>omega
  exact e▸vC_ v h
theorem fx_ {b:Nat} {cs:List Value} {T:TypeId} {fz:Nat×Nat} (m:H.Perm ([(b,.cells cs.toArray T fz)]++F)):∀ v:Vw,v.sat H→ad_ Γ v→∀ j u,cs[j]? = some u→v.w.cell? ((⟨b,0,none⟩:Addr).add j)=some u:=by
  intro v h x j u y;exact bz_ (Γ:=Γ) 0 rfl v (h.perm m) x j u y
theorem sm_ {t E:TypeId} {x y:Operand} {m n:Bool} (B:P.underlying t=some .bool) (C:Fr.ev fr x=some (.bool m)) (A:Fr.ev fr y=some (.bool n)):Yld P N fr H Γ (.binOp .neq t x y E) ty (.bool (m != n)) :=
  fun a v h _ _ _ _ _=>by simp[execOp,h.ev C,h.ev A,eqGuard,binOp,run_equal_bool v.w t m n B,bne]
theorem sn_ {t E:TypeId} {x y:Operand} {m n:Bool} (B:P.underlying t=some .bool) (C:Fr.ev fr x=some (.bool m)) (A:Fr.ev fr y=some (.bool n)):Yld P N fr H Γ (.binOp .eql t x y E) ty (.bool (m==n)) :=
  fun a v h _ _ _ _ _=>by simp[execOp,h.ev C,h.ev A,eqGuard,binOp,run_equal_bool v.w t m n B]
theorem bn_ {α:Type} {f:α→List Value} (v:∀ x,(f x).all Value.oneCell'=true) {l:List α} {u:Value} (h:u∈l.flatMap f):u.oneCell'=true:=by
  obtain⟨y,_,m⟩:=List.mem_flatMap.1 h;exact List.all_eq_true.1 (v y) u m
end
end Go.Sx
namespace Go.Vs
open Go Go.Sx
structure RevI (L M:List Int) (k:Nat):Prop where
  len:M.length=L.length
  k2:2*k≤L.length+1
  get:∀ i:Nat,i<L.length→M[i]? = if i<k∨L.length≤i+k then L[L.length - 1 - i]? else L[i]?
theorem RevI.zero (L:List Int):RevI L L 0:=⟨rfl,by omega,fun i hi=>by rw[if_neg zaa_]⟩
theorem RevI.step {L M:List Int} {k:Nat} {a b:Int} (h:RevI L M k) (B:(k:Int)<(L.length:Int) - 1 - (k:Int)) (y:M[L.length - 1 - k]? = some a) (A:M[k]? = some b):RevI L ((M.set k a).set (L.length - 1 - k) b) (k+1):=by
 have hl:=h.len;refine⟨by simp[hl],by omega,fun i hi=>?_⟩;have m:=h.get (L.length - 1 - k) zaa_;have v:=h.get k zaa_;rw[if_neg zaa_]at m v;rw[List.getElem?_set,List.getElem?_set,List.length_set]
 by_cases e:L.length - 1 - k=i
 ·rw[if_pos e,if_pos zaa_,if_pos zaa_]
  rw[← A,v];congr 1;omega
 rw[if_neg e]
 by_cases d:k=i
 ·rw[if_pos d,if_pos zaa_,if_pos zaa_,← y,m,d]
 rw[if_neg d,h.get i hi]
 by_cases x:i<k∨L.length≤i+k
 ·rw[if_pos x,if_pos zaa_]
 rw[if_neg x,if_neg zaa_]
theorem RevI.done {L M:List Int} {k:Nat} (h:RevI L M k) (d:¬ (k:Int)<(L.length:Int) - 1 - (k:Int)):M=L.reverse:=by
 apply List.ext_getElem?
 intro i
 by_cases hi:i<L.length
 ·rw[h.get i hi,List.getElem?_reverse hi]
  by_cases e:i<k∨L.length≤i+k
  ·rw[if_pos e]
  rw[if_neg e];congr 1;omega
 rw[List.getElem?_eq_none (by rw[h.len];omega),List.getElem?_eq_none zap_]
def rg_ (a c:Str):Pc:=⟨1,a,[],c,[],[],[],0,0,0⟩
def cJ_ (frm:Int):List Str→List Pc→List Pc
  | [],l=>l
  | a::r,l=>cJ_ frm r (ins frm l (rg_ a [42]))
theorem hy_ (frm:Int):∀ (r:List Str) (l:List Pc),(cJ_ frm r l).length≤l.length+r.length
  | [],l=>by simp[cJ_]
  | a::r,l=>by
    have d:=hy_ frm r (ins frm l (rg_ a [42]));have e:=cj_ frm l (rg_ a [42]);simp only[cJ_,List.length_cons];omega
theorem lb_ (frm:Int):∀ (xs ys:List Str) (l:List Pc),cJ_ frm (xs++ys) l=cJ_ frm ys (cJ_ frm xs l)
  | [],_,_=>rfl
  | x::xs,ys,l=>by simp only[List.cons_append,cJ_];exact lb_ frm xs ys _
theorem uR_ (frm:Int) {xs:List Str} {a:Str} {i:Nat} (d:xs[i]? = some a) (l:List Pc):cJ_ frm (xs.take (i+1)) l=ins frm (cJ_ frm (xs.take i) l) (rg_ a [42]):=by
  rw[List.take_add_one,d,Option.toList_some,lb_];rfl
def ca_ (s:Str):Str:=[123]++s++[125]
def Ax.disj (x:Ax):Str:=[60]++x.left.operandN++[32,97,110,100,32]++x.right.operandN++[62]
def Ax.doms (x:Ax):Str:=[60,115,111,109,101,32]++x.role++[32,101,118,101,114,121,116,104,105,110,103,62]
def Ax.goalP (x:Ax):List Pc×List Fc×Int :=
  if x.check≠0 then ([],[],x.check)
  else if x.kind=1 then (x.right.leftP (-1) (x.left.rightP (-1) (cJ_ (-1) [x.left.atom,x.right.atom] [])),[⟨1,x.left.atom,x.right.atom,[],0,0⟩],0)
  else if x.kind=2 then (x.left.leftP (-1) (x.right.rightP (-1) (x.right.leftP (-1) (x.left.rightP (-1) (cJ_ (-1) [x.left.atom,x.right.atom] [])))),[⟨1,x.left.atom,x.right.atom,[],0,0⟩,⟨1,x.right.atom,x.left.atom,[],0,0⟩],0)
  else if x.kind=3 then (x.right.rightP (-1) (ins (-1) (x.left.rightP (-1) (ins (-1) (cJ_ (-1) [x.disj,[33]] []) (rg_ x.disj x.left.atom))) (rg_ x.disj x.right.atom)),[⟨1,x.disj,[33],[],0,0⟩],0)
  else if x.kind=4 then (x.right.leftP (-1) (ins (-1) (cJ_ (-1) [x.doms,x.right.atom] []) ⟨3,x.doms,[],[42],x.role,[],[],0,0,0⟩),[⟨1,x.doms,x.right.atom,[],0,0⟩],0)
  else if x.kind=8 then (x.right.leftP (-1) (cJ_ (-1) [ca_ x.a,x.right.atom] []),[⟨1,ca_ x.a,x.right.atom,[],0,0⟩],0)
  else if x.kind=9 then (cJ_ (-1) [ca_ x.a,ca_ x.b] [],[⟨2,ca_ x.a,ca_ x.b,x.role,0,0⟩],0)
  else ([],[],22)
theorem Con.operandN_len {c:Con} (d:c.ok):c.operandN.length≤6402:=by
  have:=Con.textN_len d;unfold operandN
  split<;>simp<;>omega
end Go.Vs
namespace Go.Proofs
open Go.Shelf
def Tryz.lays156_ren:Go.Shelf.Ren:=⟨fun|156=>313|165=>329|166=>330|169=>331|240=>341|241=>342|276=>347|277=>348|n=>n,fun|31=>25|9=>9|3=>3|4=>4|0=>0|20=>20|72=>363|76=>366|70=>361|37=>307|75=>365|127=>378|164=>381|5=>5|80=>368|n=>n,fun|n=>n⟩
theorem Tryz.lays156:Go.Proofs.Lays.n156 Tryz.prog Tryz.lays156_ren:={
  mixed:=by kernel_rfl
  f156:=Tryz.func313.trans (congrArg some zac_)
  f165:=Tryz.func329.trans (congrArg some zac_)
  f166:=Tryz.func330.trans (congrArg some zac_)
  f169:=Tryz.func331.trans (congrArg some zac_)
  f240:=Tryz.func341.trans (congrArg some zac_)
  f241:=Tryz.func342.trans (congrArg some zac_)
  f276:=Tryz.func347.trans (congrArg some zac_)
  f277:=Tryz.func348.trans (congrArg some zac_)
  t0:=Tryz.underlying0
  a0:=Tryz.isAgg0
  z0:=Tryz.sizeOf0
  v0:=Tryz.zeroValue0
  t3:=Tryz.underlying3
  a3:=Tryz.isAgg3
  z3:=Tryz.sizeOf3
  v3:=Tryz.zeroValue3
  t4:=Tryz.underlying4
  a4:=Tryz.isAgg4
  z4:=Tryz.sizeOf4
  v4:=Tryz.zeroValue4
  t9:=Tryz.underlying9
  a9:=Tryz.isAgg9
  z9:=Tryz.sizeOf9
  v9:=Tryz.zeroValue9
  t20:=Tryz.underlying20
  a20:=Tryz.isAgg20
  z20:=Tryz.sizeOf20
  v20:=Tryz.zeroValue20
  t31:=Tryz.underlying25
  a31:=Tryz.isAgg25
  z31:=Tryz.sizeOf25
  v31:=Tryz.zeroValue25
  t37:=Tryz.underlying307
  a37:=Tryz.isAgg307
  z37:=Tryz.sizeOf307
  v37:=Tryz.zeroValue307
  t70:=Tryz.underlying361
  a70:=Tryz.isAgg361
  z70:=Tryz.sizeOf361
  v70:=Tryz.zeroValue361
  t72:=Tryz.underlying363
  a72:=Tryz.isAgg363
  z72:=Tryz.sizeOf363
  v72:=Tryz.zeroValue363
  t75:=Tryz.underlying365
  a75:=Tryz.isAgg365
  z75:=Tryz.sizeOf365
  v75:=Tryz.zeroValue365
  t76:=Tryz.underlying366
  a76:=Tryz.isAgg366
  z76:=Tryz.sizeOf366
  v76:=Tryz.zeroValue366
  t127:=Tryz.underlying378
  a127:=Tryz.isAgg378
  z127:=Tryz.sizeOf378
  v127:=Tryz.zeroValue378
  t164:=Tryz.underlying381
  a164:=Tryz.isAgg381
  z164:=Tryz.sizeOf381
  v164:=Tryz.zeroValue381 }
theorem Tryz.Builder_Extra_156:Builder.Extra Tryz.prog Tryz.lays156_ren:={
  sizeBuilder:=by kernel_rfl
  liesBuilder:=by kernel_rfl
  t5:=Tryz.underlying5
  a5:=Tryz.isAgg5
  z5:=Tryz.sizeOf5
  v5:=Tryz.zeroValue5
  infoByte:=by kernel_rfl
  cellsByte:=by kernel_rfl
  sizeByte:=by kernel_rfl
  neB5:=by decide }
open Go.RowKit in
theorem Tryz.strings_Join (bk o c:Nat) (xs:List ByteArray) (h:ByteArray) (w:World) (d:∀ (j:Nat) x,xs[j]? = some x→w.cell? ⟨bk,o+j,none⟩=some (.string x)) (y:bk<w.heap.size) (A:xs.length≤140737488355328) (m:xs.length≤c) (v:(Lib.join (xs.map (·.data.toList)) h.data.toList).length≤140737488355328) :
    Calls Tryz.prog 313 #[.slice (some ⟨bk,o,none⟩) xs.length c,.string h] w fun e w'=>e=.returned (.string ⟨(Lib.join (xs.map (·.data.toList)) h.data.toList).toArray⟩)∧Below w.heap.size w w':=Any.strings_Join Tryz.lays156 Tryz.Builder_Extra_156 bk o c xs h w d y A m v
def Tryz.lays122_ren:Go.Shelf.Ren:=⟨fun|122=>108|215=>167|n=>n,fun|3=>3|4=>4|n=>n,fun|n=>n⟩
theorem Tryz.lays122:Go.Proofs.Lays.n122 Tryz.prog Tryz.lays122_ren:={
  mixed:=by kernel_rfl
  f122:=Tryz.func108.trans (congrArg some zac_)
  f215:=Tryz.func167.trans (congrArg some zac_)
  t3:=Tryz.underlying3
  a3:=Tryz.isAgg3
  z3:=Tryz.sizeOf3
  v3:=Tryz.zeroValue3
  t4:=Tryz.underlying4
  a4:=Tryz.isAgg4
  z4:=Tryz.sizeOf4
  v4:=Tryz.zeroValue4 }
open Go.RowKit in
theorem Tryz.cmp_Compare_int (x y:Int) (w:World) :
    Calls Tryz.prog 108 #[.int .i64 x,.int .i64 y] w fun e w'=>e=.returned (.int .i64 (Lib.compareInt x y))∧w'=w:=Any.cmp_Compare_int Tryz.lays122 x y w
def Tryz.laysM171_ren:Go.Shelf.Ren:=⟨fun|171=>323|243=>338|246=>346|283=>352|284=>353|285=>354|286=>355|129=>213|317=>357|318=>358|319=>359|320=>360|337=>361|338=>362|n=>n,fun|3=>3|9=>9|2=>2|4=>4|171=>387|0=>0|53=>271|37=>307|5=>5|173=>389|212=>392|51=>269|20=>20|213=>393|46=>193|232=>398|233=>399|n=>n,fun|17=>4|18=>7|19=>8|n=>n⟩
theorem Tryz.laysM171:Go.Proofs.LaysM.n171 Tryz.prog Tryz.laysM171_ren:={
  mixed:=by kernel_rfl
  f129:=Tryz.func213.trans (congrArg some zac_)
  f171:=Tryz.func323.trans (congrArg some zac_)
  f243:=Tryz.func338.trans (congrArg some zac_)
  f246:=Tryz.func346.trans (congrArg some zac_)
  f283:=Tryz.func352.trans (congrArg some zac_)
  f284:=Tryz.func353.trans (congrArg some zac_)
  f285:=Tryz.func354.trans (congrArg some zac_)
  f286:=Tryz.func355.trans (congrArg some zac_)
  f317:=Tryz.func357.trans (congrArg some zac_)
  f318:=Tryz.func358.trans (congrArg some zac_)
  f319:=Tryz.func359.trans (congrArg some zac_)
  f320:=Tryz.func360.trans (congrArg some zac_)
  f337:=Tryz.func361.trans (congrArg some zac_)
  f338:=Tryz.func362.trans (congrArg some zac_)
  t0:=Tryz.underlying0
  a0:=Tryz.isAgg0
  z0:=Tryz.sizeOf0
  v0:=Tryz.zeroValue0
  t2:=Tryz.underlying2
  a2:=Tryz.isAgg2
  z2:=Tryz.sizeOf2
  v2:=Tryz.zeroValue2
  t3:=Tryz.underlying3
  a3:=Tryz.isAgg3
  z3:=Tryz.sizeOf3
  v3:=Tryz.zeroValue3
  t4:=Tryz.underlying4
  a4:=Tryz.isAgg4
  z4:=Tryz.sizeOf4
  v4:=Tryz.zeroValue4
  t5:=Tryz.underlying5
  a5:=Tryz.isAgg5
  z5:=Tryz.sizeOf5
  v5:=Tryz.zeroValue5
  t9:=Tryz.underlying9
  a9:=Tryz.isAgg9
  z9:=Tryz.sizeOf9
  v9:=Tryz.zeroValue9
  t20:=Tryz.underlying20
  a20:=Tryz.isAgg20
  z20:=Tryz.sizeOf20
  v20:=Tryz.zeroValue20
  t37:=Tryz.underlying307
  a37:=Tryz.isAgg307
  z37:=Tryz.sizeOf307
  v37:=Tryz.zeroValue307
  t46:=Tryz.underlying193
  a46:=Tryz.isAgg193
  z46:=Tryz.sizeOf193
  v46:=Tryz.zeroValue193
  t51:=Tryz.underlying269
  a51:=Tryz.isAgg269
  z51:=Tryz.sizeOf269
  v51:=Tryz.zeroValue269
  t53:=Tryz.underlying271
  a53:=Tryz.isAgg271
  z53:=Tryz.sizeOf271
  v53:=Tryz.zeroValue271
  t171:=Tryz.underlying387
  a171:=Tryz.isAgg387
  z171:=Tryz.sizeOf387
  v171:=Tryz.zeroValue387
  t173:=Tryz.underlying389
  a173:=Tryz.isAgg389
  z173:=Tryz.sizeOf389
  v173:=Tryz.zeroValue389
  t212:=Tryz.underlying392
  a212:=Tryz.isAgg392
  z212:=Tryz.sizeOf392
  v212:=Tryz.zeroValue392
  t213:=Tryz.underlying393
  a213:=Tryz.isAgg393
  z213:=Tryz.sizeOf393
  t232:=Tryz.underlying398
  a232:=Tryz.isAgg398
  z232:=Tryz.sizeOf398
  v232:=Tryz.zeroValue398
  t233:=Tryz.underlying399
  a233:=Tryz.isAgg399
  z233:=Tryz.sizeOf399
  v233:=Tryz.zeroValue399
  g17:=by kernel_rfl
  g18:=by kernel_rfl
  g19:=by kernel_rfl
  i0:=by kernel_rfl
  i2:=by kernel_rfl
  i3:=by kernel_rfl
  i4:=by kernel_rfl
  i5:=by kernel_rfl
  i9:=by kernel_rfl
  i20:=by kernel_rfl
  i37:=by kernel_rfl
  i46:=by kernel_rfl
  i51:=by kernel_rfl
  i53:=by kernel_rfl
  i171:=by kernel_rfl
  i173:=by kernel_rfl
  i212:=by kernel_rfl
  i232:=by kernel_rfl
  i233:=by kernel_rfl
  m17:=by kernel_rfl
  m18:=by kernel_rfl
  m19:=by kernel_rfl }
open Go.RowKit Go.Sort Go.Lib in
theorem Tryz.strconv_Itoa (n : Int) (m : -9223372036854775808 ≤ n) (h : n ≤ 9223372036854775807) (w : World) (d : Lib.TabIs Tryz.prog w "internal/strconv.uint64pow10" .u64 Lib.pow10Tab) :
    Calls Tryz.prog 323 #[.int .i64 n] w fun e w'=>e=.returned (.string ⟨(Lib.itoa n).toArray⟩)∧∃ k os,w'=grow (w.drewN k) os:=Any.strconv_Itoa Tryz.laysM171 n m h w d
def Tryz.lays219_ren:Go.Shelf.Ren:=⟨fun|219=>309|217=>324|225=>325|224=>326|267=>327|266=>339|314=>340|n=>n,fun|9=>9|3=>3|4=>4|5=>5|46=>193|146=>376|51=>269|n=>n,fun|1=>2|n=>n⟩
theorem Tryz.lays219:Go.Proofs.Lays.n219 Tryz.prog Tryz.lays219_ren:={
  mixed:=by kernel_rfl
  f217:=Tryz.func324.trans (congrArg some zac_)
  f219:=Tryz.func309.trans (congrArg some zac_)
  f224:=Tryz.func326.trans (congrArg some zac_)
  f225:=Tryz.func325.trans (congrArg some zac_)
  f266:=Tryz.func339.trans (congrArg some zac_)
  f267:=Tryz.func327.trans (congrArg some zac_)
  f314:=Tryz.func340.trans (congrArg some zac_)
  t3:=Tryz.underlying3
  a3:=Tryz.isAgg3
  z3:=Tryz.sizeOf3
  v3:=Tryz.zeroValue3
  t4:=Tryz.underlying4
  a4:=Tryz.isAgg4
  z4:=Tryz.sizeOf4
  v4:=Tryz.zeroValue4
  t5:=Tryz.underlying5
  a5:=Tryz.isAgg5
  z5:=Tryz.sizeOf5
  v5:=Tryz.zeroValue5
  t9:=Tryz.underlying9
  a9:=Tryz.isAgg9
  z9:=Tryz.sizeOf9
  v9:=Tryz.zeroValue9
  t46:=Tryz.underlying193
  a46:=Tryz.isAgg193
  z46:=Tryz.sizeOf193
  v46:=Tryz.zeroValue193
  t51:=Tryz.underlying269
  a51:=Tryz.isAgg269
  z51:=Tryz.sizeOf269
  v51:=Tryz.zeroValue269
  t146:=Tryz.underlying376
  a146:=Tryz.isAgg376
  z146:=Tryz.sizeOf376
  v146:=Tryz.zeroValue376
  g1:=by kernel_rfl }
open Go.RowKit Go.Lib in
theorem Tryz.stringslite_Index_one (s:ByteArray) (c:UInt8) (w:World) :
    Calls Tryz.prog 309 #[.string s,.string ⟨#[c]⟩] w fun e w'=>e=.returned (.int .i64 (Lib.indexByte s.data.toList c))∧w'=w:=Any.stringslite_Index_one Tryz.lays219 s c w
def Tryz.lays143_ren:Go.Shelf.Ren:=⟨fun|143=>345|219=>309|217=>324|225=>325|224=>326|267=>327|266=>339|314=>340|n=>n,fun|9=>9|3=>3|4=>4|5=>5|46=>193|146=>376|51=>269|n=>n,fun|1=>2|n=>n⟩
theorem Tryz.lays143:Go.Proofs.Lays.n143 Tryz.prog Tryz.lays143_ren:={
  mixed:=by kernel_rfl
  f143:=Tryz.func345.trans (congrArg some zac_)
  f217:=Tryz.func324.trans (congrArg some zac_)
  f219:=Tryz.func309.trans (congrArg some zac_)
  f224:=Tryz.func326.trans (congrArg some zac_)
  f225:=Tryz.func325.trans (congrArg some zac_)
  f266:=Tryz.func339.trans (congrArg some zac_)
  f267:=Tryz.func327.trans (congrArg some zac_)
  f314:=Tryz.func340.trans (congrArg some zac_)
  t3:=Tryz.underlying3
  a3:=Tryz.isAgg3
  z3:=Tryz.sizeOf3
  v3:=Tryz.zeroValue3
  t4:=Tryz.underlying4
  a4:=Tryz.isAgg4
  z4:=Tryz.sizeOf4
  v4:=Tryz.zeroValue4
  t5:=Tryz.underlying5
  a5:=Tryz.isAgg5
  z5:=Tryz.sizeOf5
  v5:=Tryz.zeroValue5
  t9:=Tryz.underlying9
  a9:=Tryz.isAgg9
  z9:=Tryz.sizeOf9
  v9:=Tryz.zeroValue9
  t46:=Tryz.underlying193
  a46:=Tryz.isAgg193
  z46:=Tryz.sizeOf193
  v46:=Tryz.zeroValue193
  t51:=Tryz.underlying269
  a51:=Tryz.isAgg269
  z51:=Tryz.sizeOf269
  v51:=Tryz.zeroValue269
  t146:=Tryz.underlying376
  a146:=Tryz.isAgg376
  z146:=Tryz.sizeOf376
  v146:=Tryz.zeroValue376
  g1:=by kernel_rfl }
open Go.RowKit Go.Lib in
theorem Tryz.strings_Index_one (s:ByteArray) (c:UInt8) (w:World) :
    Calls Tryz.prog 345 #[.string s,.string ⟨#[c]⟩] w fun e w'=>e=.returned (.int .i64 (Lib.indexByte s.data.toList c))∧w'=w:=Any.strings_Index_one Tryz.lays143 s c w
def Tryz.lays138_ren:Go.Shelf.Ren:=⟨fun|138=>344|195=>349|218=>351|143=>345|219=>309|217=>324|225=>325|224=>326|267=>327|266=>339|314=>340|n=>n,fun|9=>9|3=>3|4=>4|5=>5|0=>0|46=>193|146=>376|51=>269|n=>n,fun|1=>2|n=>n⟩
theorem Tryz.lays138:Go.Proofs.Lays.n138 Tryz.prog Tryz.lays138_ren:={
  mixed:=by kernel_rfl
  f138:=Tryz.func344.trans (congrArg some zac_)
  f143:=Tryz.func345.trans (congrArg some zac_)
  f195:=Tryz.func349.trans (congrArg some zac_)
  f217:=Tryz.func324.trans (congrArg some zac_)
  f218:=Tryz.func351.trans (congrArg some zac_)
  f219:=Tryz.func309.trans (congrArg some zac_)
  f224:=Tryz.func326.trans (congrArg some zac_)
  f225:=Tryz.func325.trans (congrArg some zac_)
  f266:=Tryz.func339.trans (congrArg some zac_)
  f267:=Tryz.func327.trans (congrArg some zac_)
  f314:=Tryz.func340.trans (congrArg some zac_)
  t0:=Tryz.underlying0
  a0:=Tryz.isAgg0
  z0:=Tryz.sizeOf0
  v0:=Tryz.zeroValue0
  t3:=Tryz.underlying3
  a3:=Tryz.isAgg3
  z3:=Tryz.sizeOf3
  v3:=Tryz.zeroValue3
  t4:=Tryz.underlying4
  a4:=Tryz.isAgg4
  z4:=Tryz.sizeOf4
  v4:=Tryz.zeroValue4
  t5:=Tryz.underlying5
  a5:=Tryz.isAgg5
  z5:=Tryz.sizeOf5
  v5:=Tryz.zeroValue5
  t9:=Tryz.underlying9
  a9:=Tryz.isAgg9
  z9:=Tryz.sizeOf9
  v9:=Tryz.zeroValue9
  t46:=Tryz.underlying193
  a46:=Tryz.isAgg193
  z46:=Tryz.sizeOf193
  v46:=Tryz.zeroValue193
  t51:=Tryz.underlying269
  a51:=Tryz.isAgg269
  z51:=Tryz.sizeOf269
  v51:=Tryz.zeroValue269
  t146:=Tryz.underlying376
  a146:=Tryz.isAgg376
  z146:=Tryz.sizeOf376
  v146:=Tryz.zeroValue376
  g1:=by kernel_rfl }
open Go.RowKit Go.Lib in
theorem Tryz.strings_Count_one (s:ByteArray) (c:UInt8) (w:World) :
    Calls Tryz.prog 344 #[.string s,.string ⟨#[c]⟩] w fun e w'=>e=.returned (.int .i64 (Lib.countByte s.data.toList c))∧w'=w:=Any.strings_Count_one Tryz.lays138 s c w
def Tryz.lays190_ren:Go.Shelf.Ren:=⟨fun|190=>79|125=>145|258=>144|128=>212|129=>213|302=>203|303=>204|304=>205|305=>206|306=>207|307=>208|308=>209|309=>210|310=>211|333=>254|329=>255|330=>256|334=>257|335=>258|336=>228|344=>308|n=>n,fun|31=>25|9=>9|3=>3|46=>193|0=>0|51=>269|53=>271|4=>4|183=>263|182=>262|131=>211|5=>5|218=>301|222=>198|228=>345|229=>346|n=>n,fun|n=>n⟩
theorem Tryz.lays190:Go.Proofs.Lays.n190 Tryz.prog Tryz.lays190_ren:={
  mixed:=by kernel_rfl
  f125:=Tryz.func145.trans (congrArg some zac_)
  f128:=Tryz.func212.trans (congrArg some zac_)
  f129:=Tryz.func213.trans (congrArg some zac_)
  f190:=Tryz.func79.trans (congrArg some zac_)
  f258:=Tryz.func144.trans (congrArg some zac_)
  f302:=Tryz.func203.trans (congrArg some zac_)
  f303:=Tryz.func204.trans (congrArg some zac_)
  f304:=Tryz.func205.trans (congrArg some zac_)
  f305:=Tryz.func206.trans (congrArg some zac_)
  f306:=Tryz.func207.trans (congrArg some zac_)
  f307:=Tryz.func208.trans (congrArg some zac_)
  f308:=Tryz.func209.trans (congrArg some zac_)
  f309:=Tryz.func210.trans (congrArg some zac_)
  f310:=Tryz.func211.trans (congrArg some zac_)
  f329:=Tryz.func255.trans (congrArg some zac_)
  f330:=Tryz.func256.trans (congrArg some zac_)
  f333:=Tryz.func254.trans (congrArg some zac_)
  f334:=Tryz.func257.trans (congrArg some zac_)
  f335:=Tryz.func258.trans (congrArg some zac_)
  f336:=Tryz.func228.trans (congrArg some zac_)
  f344:=Tryz.func308.trans (congrArg some zac_)
  t0:=Tryz.underlying0
  a0:=Tryz.isAgg0
  z0:=Tryz.sizeOf0
  v0:=Tryz.zeroValue0
  t3:=Tryz.underlying3
  a3:=Tryz.isAgg3
  z3:=Tryz.sizeOf3
  v3:=Tryz.zeroValue3
  t4:=Tryz.underlying4
  a4:=Tryz.isAgg4
  z4:=Tryz.sizeOf4
  v4:=Tryz.zeroValue4
  t5:=Tryz.underlying5
  a5:=Tryz.isAgg5
  z5:=Tryz.sizeOf5
  v5:=Tryz.zeroValue5
  t9:=Tryz.underlying9
  a9:=Tryz.isAgg9
  z9:=Tryz.sizeOf9
  v9:=Tryz.zeroValue9
  t31:=Tryz.underlying25
  a31:=Tryz.isAgg25
  z31:=Tryz.sizeOf25
  v31:=Tryz.zeroValue25
  t46:=Tryz.underlying193
  a46:=Tryz.isAgg193
  z46:=Tryz.sizeOf193
  v46:=Tryz.zeroValue193
  t51:=Tryz.underlying269
  a51:=Tryz.isAgg269
  z51:=Tryz.sizeOf269
  v51:=Tryz.zeroValue269
  t53:=Tryz.underlying271
  a53:=Tryz.isAgg271
  z53:=Tryz.sizeOf271
  v53:=Tryz.zeroValue271
  t131:=Tryz.underlying211
  a131:=Tryz.isAgg211
  z131:=Tryz.sizeOf211
  v131:=Tryz.zeroValue211
  t182:=Tryz.underlying262
  a182:=Tryz.isAgg262
  z182:=Tryz.sizeOf262
  v182:=Tryz.zeroValue262
  t183:=Tryz.underlying263
  a183:=Tryz.isAgg263
  z183:=Tryz.sizeOf263
  v183:=Tryz.zeroValue263
  t218:=Tryz.underlying301
  a218:=Tryz.isAgg301
  z218:=Tryz.sizeOf301
  v218:=Tryz.zeroValue301
  t222:=Tryz.underlying198
  a222:=Tryz.isAgg198
  z222:=Tryz.sizeOf198
  v222:=Tryz.zeroValue198
  t228:=Tryz.underlying345
  a228:=Tryz.isAgg345
  z228:=Tryz.sizeOf345
  v228:=Tryz.zeroValue345
  t229:=Tryz.underlying346
  a229:=Tryz.isAgg346
  z229:=Tryz.sizeOf346
  v229:=Tryz.zeroValue346 }
open Go.Sort Go.RowKit in
theorem Tryz.slices_Sort_string (d off cap:Nat) (ss:List (List UInt8)) (w:World) (v:Holds encStr w d off ss.toArray) (h:d<w.heap.size) (m:ss.length<4611686018427387904) :
    Calls Tryz.prog 79 #[.slice (some ⟨d,off,none⟩) ss.length cap] w fun e w' =>
      e=.returned (.tuple #[])∧∃ n os,w'=grow (putRow encStr (Sort.ahead w n) d off (ss.mergeSort fun x y=>decide (x≤y)).toArray) os:=Any.slices_Sort_string Tryz.lays190 d off cap ss w v h m
def Tryz.lays194_ren:Go.Shelf.Ren:=⟨fun|194=>80|n=>n,fun|31=>25|9=>9|3=>3|4=>4|0=>0|n=>n,fun|n=>n⟩
theorem Tryz.lays194:Go.Proofs.Lays.n194 Tryz.prog Tryz.lays194_ren:={
  mixed:=by kernel_rfl
  f194:=Tryz.func80.trans (congrArg some zac_)
  t0:=Tryz.underlying0
  a0:=Tryz.isAgg0
  z0:=Tryz.sizeOf0
  v0:=Tryz.zeroValue0
  t3:=Tryz.underlying3
  a3:=Tryz.isAgg3
  z3:=Tryz.sizeOf3
  v3:=Tryz.zeroValue3
  t4:=Tryz.underlying4
  a4:=Tryz.isAgg4
  z4:=Tryz.sizeOf4
  v4:=Tryz.zeroValue4
  t9:=Tryz.underlying9
  a9:=Tryz.isAgg9
  z9:=Tryz.sizeOf9
  v9:=Tryz.zeroValue9
  t31:=Tryz.underlying25
  a31:=Tryz.isAgg25
  z31:=Tryz.sizeOf25
  v31:=Tryz.zeroValue25 }
open Go.RowKit Go.Lib Go.Sort in
theorem Tryz.slices_Compact_string (d off cap:Nat) (h:List (List UInt8)) (w:World) (x:Holds encStr w d off h.toArray) (v:h.length≤9223372036854775807) (m:h.length≤cap) :
    Calls Tryz.prog 80 #[.slice (some ⟨d,off,none⟩) h.length cap] w fun e w'=>e=.returned (.slice (some ⟨d,off,none⟩) (Lib.compact h).length cap)∧∃ q,w'=putRow encStr (Sort.ahead w q) d off (Lib.compact h++List.replicate (h.length - (Lib.compact h).length) []).toArray:=Any.slices_Compact_string Tryz.lays194 d off cap h w x v m
open Go.RowKit Go.Lib Go.Sort in
theorem Tryz.slices_Compact_string_empty (a:Ao) (cap:Nat) (w:World) :
    Calls Tryz.prog 80 #[.slice a 0 cap] w fun e w'=>e=.returned (.slice a 0 cap)∧w'=w:=Any.slices_Compact_string_empty Tryz.lays194 a cap w
open Go.RowKit Go.Sort in
theorem Tryz.slices_Sort_string_none (p:Ao) (cap:Nat) (w:World) :
    Calls Tryz.prog 79 #[.slice p 0 cap] w fun e w'=>e=.returned (.tuple #[])∧w'=w:=Any.slices_Sort_string_none Tryz.lays190 p cap w
end Go.Proofs
namespace Go.Proofs
open Go.Shelf
def Tryz.lays106_ren:Go.Shelf.Ren:=⟨fun|106=>111|213=>170|265=>229|n=>n,fun|9=>9|3=>3|n=>n,fun|n=>n⟩
theorem Tryz.lays106:Go.Proofs.Lays.n106 Tryz.prog Tryz.lays106_ren:={
  mixed:=by kernel_rfl
  f106:=Tryz.func111.trans (congrArg some zac_)
  f213:=Tryz.func170.trans (congrArg some zac_)
  f265:=Tryz.func229.trans (congrArg some zac_)
  t3:=Tryz.underlying3
  a3:=Tryz.isAgg3
  z3:=Tryz.sizeOf3
  v3:=Tryz.zeroValue3
  t9:=Tryz.underlying9
  a9:=Tryz.isAgg9
  z9:=Tryz.sizeOf9
  v9:=Tryz.zeroValue9 }
open Go.RowKit in
theorem Tryz.strings_Compare (a b:ByteArray) (w:World) :
    Calls Tryz.prog 111 #[.string a,.string b] w fun e w'=>e=.returned (.int .i64 (Lib.compareBytes a.data.toList b.data.toList))∧w'=w:=Any.strings_Compare Tryz.lays106 a b w
end Go.Proofs
namespace Go.Sx
open Go
structure Cn (n:Nat) (G:Prop):Prop where
  go:G
structure Kw (A:Prop):Prop where
  go:A
theorem cn {n:Nat} {G G1:Prop} (k:G1→G) (h:Cn n G1):Cn (n+1) G:=⟨k h.go⟩
theorem cn0 {G:Prop} (h:G):Cn 0 G:=⟨h⟩
def noG (x:Value) (want:Bool):Bool:=match x with|.bool b=>Bool.xor b want|_=>true
section
variable {P:Program} {N:Nf} {v0:Vw} {H0:Hp} {R:Exit→Act→World→Prop} {K:List Kt} {fr:Fr} {H:Hp} {Γ:List Fct} {ops:Array Oper} {l:List Oper} {d:Nat} {ty:TypeId} {ps:String} {af:Array Edge} {Hs:Hp} {Γs:List Fct} {fuel:Nat} {listed:Array Bool}
theorem vY_ {op:Op} {j t:Nat} {want:Bool} {x:Value} (hj:hF_ ops j=some t) (hx:Fr.get fr t=some x) (hne:noG x want=true) (hN:Nat.blt d N.n=true)
    (h:Ops P R N v0 H0 ops l K ((d,undef)::fr) H Γ):Ops P R N v0 H0 ops (⟨some d,op,ty,ps,af,some (j,want)⟩::l) K fr H Γ:=gB_ hj hx (by cases x<;>first|rfl|exact hne) hN h
theorem sq_noG [NoPan R] {i:Nat} {is:List Nat} {op:Op} {x:Value} {j t:Nat} {want:Bool} (hi:ops[i]? = some ⟨some d,op,ty,ps,af,some (j,want)⟩) (hj:hF_ ops j=some t) (hx:Fr.get fr t=some x) (hne:noG x want=true) (hN:Nat.blt d N.n=true)
    (h:Sq P R N v0 H0 ops Hs Γs is fuel (listed.setIfInBounds i true) K ((d,undef)::fr) H Γ):Sq P R N v0 H0 ops Hs Γs (i::is) fuel listed K fr H Γ:=sq_no hi hj hx (by cases x<;>first|rfl|exact hne) hN h
end
end Go.Sx

namespace Go.Proofs.YthmjeabeoodghaaGreatDoor
open Go Go.Sx Tryz
theorem zdf {p:Prop} [Decidable p] (h:decide p=false):¬p:=of_decide_eq_false h
theorem zdt {p:Prop} [Decidable p] (h:decide p=true):p:=of_decide_eq_true h
theorem znb {α:Type} [BEq α] [LawfulBEq α] {a b:α} (h:(a==b)=false):a≠b:=by simpa using h
theorem zeb {α:Type} [BEq α] [LawfulBEq α] {a b:α} (h:(a==b)=true):a=b:=eq_of_beq h
theorem zbe {α:Type} [BEq α] [LawfulBEq α] {a b:α} (h:(a != b)=false):a=b:=by simpa using h
theorem zk {G:Prop} (h:G:=by kernel_rfl):G:=h
theorem zh {P Q:Vw→Prop}:∀ v,P v→Q v→Q v:=fun _ _ h=>h
theorem zt {P Q:Vw→Prop}:∀ v,P v→Q v→ad_ [] v:=fun _ _ _=>trivial
section
variable {H r r' d O:Hp} {b c:Nat×Obj}
theorem zpn (h:H.Perm r):([]++H).Perm r:=h
end
abbrev zR {α:Type} (e k:Nat) (f:α→List Value) (sv:Value) (X:List α) (H:Hp):Prop:=az_ e k sv X.length (X.flatMap f) H
theorem zsw {α β:Type} {e k:Nat} {f:β→List Value} {sv:Value} {A:List β} {H:Hp} (g:α→List β) (p:List α) (h:az_ e k sv A.length (A.flatMap f) H):zR e k f sv (A++List.flatMap g (p.take 0)) H:=by
  unfold zR;simpa only[List.take_zero,List.flatMap_nil,List.append_nil] using h
theorem zsa {β:Type} {e k m:Nat} {f:β→List Value} {sv:Value} {A B:List β} {H:Hp} (h:az_ e k sv (A.length+m) (A.flatMap f++B.flatMap f) H) (hm:B.length=m:=by first|rfl|simp):zR e k f sv (A++B) H:=by
  subst hm;unfold zR;rw[List.length_append,List.flatMap_append];exact h
theorem zge {α:Type} {l:List α} {i:Nat} (h:i<l.length):i<l.length∧∃ x,l[i]? = some x∧x∈l:=⟨h,_,List.getElem?_eq_getElem h,List.getElem_mem h⟩
theorem bZ_ {α:Type} {f:α→List Value} {v:Vw} {ad:Ao} {l:List α} {i:Nat} {x:α} (h:bY_ v ad (l.flatMap f)) (hx:l[i]? = some x) (hf:∀ x,(f x).length≠0):∃ b off,ad=some ⟨b,off,none⟩ :=
  h.addr fun e=>by
    rw[List.flatMap_eq_nil_iff]at e;exact hf x (by rw[e x (List.mem_of_getElem? hx)];rfl)
theorem zbn {α:Type} [BEq α] [LawfulBEq α] {a b:α} (h:(a != b)=true):a≠b:=by simpa using h
theorem zp {G:Prop} (h:G:=by (repeat (first|(with_reducible first|exact g_|exact d_|exact w_|exact C_|exact bi_|exact aj_)|exact d_|(with_reducible first|apply zpn|(apply i_;rotate_left;(fail_if_success (with_reducible apply g_));rotate_right)|apply B_|apply c_|apply l_)|exact w_|exact aj_))):G:=h
theorem zf {G:Prop} (h:G:=by intro v_ a_ b_;repeat (first|exact trivial|(with_reducible first|exact b_.1|exact b_.2.1|exact b_.2.2.1|exact b_.2.2.2.1|exact b_.2.2.2.2.1|exact b_.2.2.2.2.2.1|exact b_.2.2.2.2.2.2.1|exact b_.2.2.2.2.2.2.2.1|exact b_.2.2.2.2.2.2.2.2.1|exact b_.2.2.2.2.2.2.2.2.2.1|exact b_.2.2.2.2.2.2.2.2.2.2.1|exact b_.2.2.2.2.2.2.2.2.2.2.2.1|exact b_|exact b_.2|exact b_.2.2|exact b_.2.2.2|exact b_.2.2.2.2|exact b_.2.2.2.2.2|exact b_.2.2.2.2.2.2|exact b_.2.2.2.2.2.2.2|exact b_.2.2.2.2.2.2.2.2|exact b_.2.2.2.2.2.2.2.2.2|exact b_.2.2.2.2.2.2.2.2.2.2|exact b_.2.2.2.2.2.2.2.2.2.2.2)|(first|exact b_.1|exact b_.2.1|exact b_.2.2.1|exact b_.2.2.2.1|exact b_.2.2.2.2.1|exact b_.2.2.2.2.2.1|exact b_.2.2.2.2.2.2.1|exact b_.2.2.2.2.2.2.2.1|exact b_.2.2.2.2.2.2.2.2.1|exact b_.2.2.2.2.2.2.2.2.2.1|exact b_.2.2.2.2.2.2.2.2.2.2.1|exact b_.2.2.2.2.2.2.2.2.2.2.2.1|exact b_|exact b_.2|exact b_.2.2|exact b_.2.2.2|exact b_.2.2.2.2|exact b_.2.2.2.2.2|exact b_.2.2.2.2.2.2|exact b_.2.2.2.2.2.2.2|exact b_.2.2.2.2.2.2.2.2|exact b_.2.2.2.2.2.2.2.2.2|exact b_.2.2.2.2.2.2.2.2.2.2|exact b_.2.2.2.2.2.2.2.2.2.2.2)|refine⟨?_,?_⟩)):G:=h
theorem zs {G:Prop} (h:G:=by intro v_ a_ b_;refine⟨?_,?_⟩;(first|exact a_|exact satNil a_|exact a_.tail|exact a_.tail.tail|exact a_.tail.tail.tail|exact a_.tail.tail.tail.tail|((apply Vw.sat.sub;apply a_.perm);(repeat (first|(with_reducible first|exact g_|exact d_|exact w_|exact C_|exact bi_|exact aj_)|exact d_|(with_reducible first|apply zpn|(apply i_;rotate_left;(fail_if_success (with_reducible apply g_));rotate_right)|apply B_|apply c_|apply l_)|exact w_|exact aj_))));(first|exact b_|exact b_.2|exact b_.2.2|exact b_.2.2.2|exact b_.2.2.2.2|exact b_.2.2.2.2.2|exact b_.2.2.2.2.2.2|exact b_.2.2.2.2.2.2.2|exact b_.2.2.2.2.2.2.2.2|exact b_.2.2.2.2.2.2.2.2.2|exact b_.2.2.2.2.2.2.2.2.2.2|exact b_.2.2.2.2.2.2.2.2.2.2.2)):G:=h
theorem zl {G:Prop} (h:G:=by repeat (first|exact trivial|refine⟨rfl,?_⟩)):G:=h
def lkN {α:Type}:List (Nat×α)→Nat→Option α
  | [],_=>none
  | (k,v)::l,n=>bif Nat.beq k n then some v else lkN l n
theorem rv_ {α:Type} {n:Nat} {v:α}:∀ {l:List (Nat×α)},lkN l n=some v→(n,v)∈l
  | (k,u)::l,h=>by
    simp only[lkN]at h;cases hb:Nat.beq k n with
    | true=>rw[hb,cond_true]at h;cases h;rw[Nat.eq_of_beq_eq_true hb];exact List.mem_cons_self
    | false=>rw[hb,cond_false]at h;exact List.mem_cons_of_mem _ (rv_ h)
def zAt:List (Nat×Bool):=[(9,false),(3,false),(28,true),(30,true),(25,false),(129,true),(4,false),(26,false),(22,false),(228,false),(227,false),(224,false),(76,true),(64,false),(292,true),(24,true),(226,false),(230,false),(156,true),(88,true),(244,true),(171,false),(71,false),(229,false),(242,false),(299,true),(335,true),(231,false),(245,false),(135,false),(181,false),(234,false),(154,false),(125,false),(182,false),(169,true),(167,false),(96,true),(82,true),(296,false),(331,true),(101,false),(91,true),(210,false)]
theorem zA {t:TypeId} {b:Bool} (h:lkN zAt t=some b):∀ w,(isAgg t).run prog w=.ok b w:=by
  have h:=rv_ h;simp only[zAt,List.mem_cons,Prod.mk.injEq,List.not_mem_nil,or_false]at h;rcases h with⟨rfl,rfl⟩|⟨rfl,rfl⟩|⟨rfl,rfl⟩|⟨rfl,rfl⟩|⟨rfl,rfl⟩|⟨rfl,rfl⟩|⟨rfl,rfl⟩|⟨rfl,rfl⟩|⟨rfl,rfl⟩|⟨rfl,rfl⟩|⟨rfl,rfl⟩|⟨rfl,rfl⟩|⟨rfl,rfl⟩|⟨rfl,rfl⟩|⟨rfl,rfl⟩|⟨rfl,rfl⟩|⟨rfl,rfl⟩|⟨rfl,rfl⟩|⟨rfl,rfl⟩|⟨rfl,rfl⟩|⟨rfl,rfl⟩|⟨rfl,rfl⟩|⟨rfl,rfl⟩|⟨rfl,rfl⟩|⟨rfl,rfl⟩|⟨rfl,rfl⟩|⟨rfl,rfl⟩|⟨rfl,rfl⟩|⟨rfl,rfl⟩|⟨rfl,rfl⟩|⟨rfl,rfl⟩|⟨rfl,rfl⟩|⟨rfl,rfl⟩|⟨rfl,rfl⟩|⟨rfl,rfl⟩|⟨rfl,rfl⟩|⟨rfl,rfl⟩|⟨rfl,rfl⟩|⟨rfl,rfl⟩|⟨rfl,rfl⟩|⟨rfl,rfl⟩|⟨rfl,rfl⟩|⟨rfl,rfl⟩|⟨rfl,rfl⟩
  · exact ai_
  · exact aF_
  · exact ac_
  · exact bq_
  · exact isAgg25
  · exact fT_
  · exact zZ_
  · exact isAgg26
  · exact np_
  · exact isAgg228
  · exact isAgg227
  · exact isAgg224
  · exact eC_
  · exact isAgg64
  · exact isAgg292
  · exact fC_
  · exact isAgg226
  · exact isAgg230
  · exact hD_
  · exact isAgg88
  · exact isAgg244
  · exact isAgg171
  · exact isAgg71
  · exact isAgg229
  · exact isAgg242
  · exact isAgg299
  · exact isAgg335
  · exact isAgg231
  · exact isAgg245
  · exact isAgg135
  · exact isAgg181
  · exact isAgg234
  · exact isAgg154
  · exact kI_
  · exact isAgg182
  · exact isAgg169
  · exact isAgg167
  · exact gO_
  · exact isAgg82
  · exact isAgg296
  · exact isAgg331
  · exact isAgg101
  · exact isAgg91
  · exact isAgg210
def zSt:List (Nat×Nat):=[(28,5),(9,1),(3,1),(30,16),(25,1),(129,6),(4,1),(26,1),(22,1),(76,10),(228,1),(227,1),(156,7),(292,2),(24,1),(226,1),(230,1),(244,2),(88,1),(64,1),(229,1),(335,2),(299,2),(231,1),(154,1),(135,1),(167,1),(71,1),(169,2),(96,2),(82,7),(296,1),(331,3),(91,16),(210,1)]
theorem zS {t:TypeId} {b:Nat} (h:lkN zSt t=some b):∀ w,(sizeOf t).run prog w=.ok b w:=by
  have h:=rv_ h;simp only[zSt,List.mem_cons,Prod.mk.injEq,List.not_mem_nil,or_false]at h;rcases h with⟨rfl,rfl⟩|⟨rfl,rfl⟩|⟨rfl,rfl⟩|⟨rfl,rfl⟩|⟨rfl,rfl⟩|⟨rfl,rfl⟩|⟨rfl,rfl⟩|⟨rfl,rfl⟩|⟨rfl,rfl⟩|⟨rfl,rfl⟩|⟨rfl,rfl⟩|⟨rfl,rfl⟩|⟨rfl,rfl⟩|⟨rfl,rfl⟩|⟨rfl,rfl⟩|⟨rfl,rfl⟩|⟨rfl,rfl⟩|⟨rfl,rfl⟩|⟨rfl,rfl⟩|⟨rfl,rfl⟩|⟨rfl,rfl⟩|⟨rfl,rfl⟩|⟨rfl,rfl⟩|⟨rfl,rfl⟩|⟨rfl,rfl⟩|⟨rfl,rfl⟩|⟨rfl,rfl⟩|⟨rfl,rfl⟩|⟨rfl,rfl⟩|⟨rfl,rfl⟩|⟨rfl,rfl⟩|⟨rfl,rfl⟩|⟨rfl,rfl⟩|⟨rfl,rfl⟩|⟨rfl,rfl⟩
  · exact n_
  · exact M_
  · exact P_
  · exact H_
  · exact dX_
  · exact at_
  · exact cv_
  · exact sizeOf26
  · exact ht_
  · exact L_
  · exact eX_
  · exact sizeOf227
  · exact aJ_
  · exact iU_
  · exact bH_
  · exact sizeOf226
  · exact sizeOf230
  · exact ba_
  · exact sizeOf88
  · exact kH_
  · exact sizeOf229
  · exact sizeOf335
  · exact sizeOf299
  · exact sizeOf231
  · exact sizeOf154
  · exact sizeOf135
  · exact sizeOf167
  · exact sizeOf71
  · exact sizeOf169
  · exact bG_
  · exact eK_
  · exact sizeOf296
  · exact sizeOf331
  · exact sizeOf91
  · exact sizeOf210
theorem zUe {P:Program} {t t1:TypeId} {q q1} (h:∀ w,(underlying t1).run P w=.ok q1 w) (e:t=t1) (e1:q1=q):∀ w,(underlying t).run P w=.ok q w:=by subst e e1;exact h
theorem zu {G:Prop} (h:G:=by first|exact zUe gz_ rfl rfl|exact zUe runUnderlying129 rfl rfl|exact zUe bX_ rfl rfl|exact zUe runUnderlying76 rfl rfl|exact zUe runUnderlying233 rfl rfl|exact zUe t_ rfl rfl|exact zUe F_ rfl rfl|exact zUe aU_ rfl rfl|exact zUe ab_ rfl rfl|exact zUe kU_ rfl rfl|exact zUe runUnderlying156 rfl rfl|exact zUe runUnderlying149 rfl rfl|exact zUe runUnderlying82 rfl rfl|exact zUe aW_ rfl rfl|exact zUe runUnderlying327 rfl rfl|exact zUe ap_ rfl rfl|exact zUe runUnderlying137 rfl rfl|exact zUe runUnderlying335 rfl rfl|exact zUe runUnderlying169 rfl rfl|exact zUe cp_ rfl rfl|exact zUe runUnderlying276 rfl rfl|exact zUe runUnderlying214 rfl rfl|exact zUe runUnderlying218 rfl rfl|exact zUe ag_ rfl rfl|exact zUe runUnderlying51 rfl rfl|exact zUe runUnderlying138 rfl rfl|exact zUe ek_ rfl rfl|exact zUe runUnderlying78 rfl rfl|exact zUe runUnderlying371 rfl rfl|exact zUe runUnderlying96 rfl rfl|exact zUe runUnderlying91 rfl rfl|exact zUe runUnderlying307 rfl rfl|exact zUe runUnderlying299 rfl rfl|exact zUe runUnderlying167 rfl rfl|exact zUe runUnderlying210 rfl rfl|exact zUe runUnderlying88 rfl rfl):G:=h
theorem zv {G:Prop} (h:G:=by intro v _ h;first|exact h.1|exact h.2.1|exact h.2.2.1|exact h.2.2.2.1|exact h.2.2.2.2.1|exact h.2.2.2.2.2.1|exact h.2.2.2.2.2.2.1|exact h.2.2.2.2.2.2.2.1|exact h.2.2.2.2.2.2.2.2.1|exact h.2.2.2.2.2.2.2.2.2.1|exact h.2.2.2.2.2.2.2.2.2.2.1|exact h.2.2.2.2.2.2.2.2.2.2.2.1|exact h.1.1|exact h.2.1.1|exact h.2.2.1.1|exact h.2.2.2.1.1|exact h.2.2.2.2.1.1|exact h.2.2.2.2.2.1.1|exact h.2.2.2.2.2.2.1.1|exact h.1.2.2|exact h.2.1.2.2|exact h.2.2.1.2.2|exact h.2.2.2.1.2.2|exact h.2.2.2.2.1.2.2|exact h.2.2.2.2.2.1.2.2|exact h.2.2.2.2.2.2.1.2.2|exact h.2|exact h.2.2|exact h.2.2.2):G:=h
theorem zy {G:Prop} (h:G:=by first|((with_reducible apply S_);exact rfl)|((with_reducible apply af_);exact rfl)|((with_reducible apply nW_);rotate_left;exact rfl;rotate_right;exact zu;exact rfl;exact rfl;exact zS rfl)|((with_reducible apply cf_);exact zu;exact rfl;exact rfl;exact rfl;exact zS rfl)|((with_reducible apply (bd_ 0));rotate_left;exact rfl;exact rfl;exact rfl;exact zA rfl)|((with_reducible apply (bd_ 1));rotate_left;exact rfl;exact rfl;exact rfl;exact zA rfl)|((with_reducible apply (bd_ 2));rotate_left;exact rfl;exact rfl;exact rfl;exact zA rfl)|((with_reducible apply (bd_ 3));rotate_left;exact rfl;exact rfl;exact rfl;exact zA rfl)|((with_reducible apply fm_);exact rfl;exact rfl)|((with_reducible apply gw_);exact rfl;exact rfl)|((with_reducible apply aI_);exact rfl;exact rfl;exact rfl;exact bv_ (by omega) (by omega))|((with_reducible apply pP_);exact rfl)|((with_reducible apply bB_);exact rfl;exact rfl)|((with_reducible apply ed_);exact zu;exact rfl)|((with_reducible apply (cO_ 0));rotate_left;exact zS rfl;exact rfl;exact rfl;exact rfl;exact zA rfl)|((with_reducible apply (cO_ 1));rotate_left;exact zS rfl;exact rfl;exact rfl;exact rfl;exact zA rfl)|((with_reducible apply (cO_ 2));rotate_left;exact zS rfl;exact rfl;exact rfl;exact rfl;exact zA rfl)|((with_reducible apply (cO_ 3));rotate_left;exact zS rfl;exact rfl;exact rfl;exact rfl;exact zA rfl)|((with_reducible apply cr_);rotate_left;exact rfl;exact zv;exact rfl;exact zA rfl)|((with_reducible apply U_);exact zu;exact zS rfl;exact rfl;exact rfl;(intro v _ h;first|exact bZ_ h.1 (by assumption) (fun _=>Nat.succ_ne_zero _)|exact bZ_ h.2.1 (by assumption) (fun _=>Nat.succ_ne_zero _)|exact bZ_ h.2.2.1 (by assumption) (fun _=>Nat.succ_ne_zero _)|exact bZ_ h.2.2.2.1 (by assumption) (fun _=>Nat.succ_ne_zero _)|exact bZ_ h.2.2.2.2.1 (by assumption) (fun _=>Nat.succ_ne_zero _)|exact bZ_ h.2.2.2.2.2.1 (by assumption) (fun _=>Nat.succ_ne_zero _)|exact bZ_ h.2.2.2.2.2.2.1 (by assumption) (fun _=>Nat.succ_ne_zero _)|exact bZ_ h.2.2.2.2.2.2.2.1 (by assumption) (fun _=>Nat.succ_ne_zero _)|exact bZ_ h.2.2.2.2.2.2.2.2.1 (by assumption) (fun _=>Nat.succ_ne_zero _)|exact bZ_ h.1.1 (by assumption) (fun _=>Nat.succ_ne_zero _)|exact bZ_ h.2.1.1 (by assumption) (fun _=>Nat.succ_ne_zero _)|exact bZ_ h.2.2.1.1 (by assumption) (fun _=>Nat.succ_ne_zero _)|exact bZ_ h.2.2.2.1.1 (by assumption) (fun _=>Nat.succ_ne_zero _)|exact bZ_ h.2.2.2.2.1.1 (by assumption) (fun _=>Nat.succ_ne_zero _)|exact bZ_ h.2.2.2.2.2.1.1 (by assumption) (fun _=>Nat.succ_ne_zero _)|exact bZ_ h.2.2.2.2.2.2.1.1 (by assumption) (fun _=>Nat.succ_ne_zero _)|exact bZ_ h.1.2.2 (by assumption) (fun _=>Nat.succ_ne_zero _)|exact bZ_ h.2.1.2.2 (by assumption) (fun _=>Nat.succ_ne_zero _)|exact bZ_ h.2.2.1.2.2 (by assumption) (fun _=>Nat.succ_ne_zero _)|exact bZ_ h.2.2.2.1.2.2 (by assumption) (fun _=>Nat.succ_ne_zero _)|exact bZ_ h.2.2.2.2.1.2.2 (by assumption) (fun _=>Nat.succ_ne_zero _)|exact bZ_ h.2.2.2.2.2.1.2.2 (by assumption) (fun _=>Nat.succ_ne_zero _)|exact bZ_ h.2.2.2.2.2.2.1.2.2 (by assumption) (fun _=>Nat.succ_ne_zero _)|exact bZ_ h.2 (by assumption) (fun _=>Nat.succ_ne_zero _)|exact bZ_ h.2.2 (by assumption) (fun _=>Nat.succ_ne_zero _)|exact bZ_ h.2.2.2 (by assumption) (fun _=>Nat.succ_ne_zero _));omega;(first|omega|(simp;done)))|((with_reducible apply bP_);rotate_left;exact rfl;exact zv;(first|exact z_ Pc.cells_len (by assumption) 0 _ rfl|exact z_ Pc.cells_len (by assumption) _ _ rfl|exact z_ Fc.cells_len (by assumption) 0 _ rfl|exact z_ Fc.cells_len (by assumption) _ _ rfl|exact z_ Stp.cells_len (by assumption) 0 _ rfl|exact z_ Stp.cells_len (by assumption) _ _ rfl|exact z_ aY_ (by assumption) 0 _ rfl|exact z_ aY_ (by assumption) _ _ rfl|exact z_ dO_ (by assumption) 0 _ rfl|exact z_ dO_ (by assumption) _ _ rfl|exact z_ (n:=1) (by intro _;exact rfl) (by assumption) 0 _ rfl|exact z_ (n:=5) (by intro _;exact rfl) (by assumption) 0 _ rfl|exact z_ (n:=5) (by intro _;exact rfl) (by assumption) 1 _ rfl|exact z_ (n:=5) (by intro _;exact rfl) (by assumption) 2 _ rfl|exact z_ (n:=5) (by intro _;exact rfl) (by assumption) 3 _ rfl|exact z_ (n:=5) (by intro _;exact rfl) (by assumption) 4 _ rfl|exact z_ (n:=16) (by intro _;exact rfl) (by assumption) 0 _ rfl|exact z_ (n:=16) (by intro _;exact rfl) (by assumption) 1 _ rfl|exact z_ (n:=16) (by intro _;exact rfl) (by assumption) 13 _ rfl|exact z_ (n:=16) (by intro _;exact rfl) (by assumption) 14 _ rfl|exact z_ (n:=16) (by intro _;exact rfl) (by assumption) 15 _ rfl|exact z_ (n:=9) (by intro _;exact rfl) (by assumption) 0 _ rfl|exact z_ (n:=9) (by intro _;exact rfl) (by assumption) 1 _ rfl|exact z_ (n:=9) (by intro _;exact rfl) (by assumption) 2 _ rfl|exact z_ (n:=9) (by intro _;exact rfl) (by assumption) 3 _ rfl|exact z_ (n:=9) (by intro _;exact rfl) (by assumption) 4 _ rfl|exact z_ (n:=9) (by intro _;exact rfl) (by assumption) 5 _ rfl|exact z_ (n:=9) (by intro _;exact rfl) (by assumption) 6 _ rfl|exact z_ (n:=2) (by intro _;exact rfl) (by assumption) 0 _ rfl|exact z_ (n:=2) (by intro _;exact rfl) (by assumption) 1 _ rfl|exact z_ (n:=4) (by intro _;exact rfl) (by assumption) 0 _ rfl|exact z_ (n:=4) (by intro _;exact rfl) (by assumption) 1 _ rfl|exact z_ (n:=4) (by intro _;exact rfl) (by assumption) 2 _ rfl|exact z_ (n:=4) (by intro _;exact rfl) (by assumption) 3 _ rfl);exact zA rfl)|((with_reducible apply al_);rotate_left;exact zS rfl;exact rfl;exact zv;rotate_left;(exact z_ (by intro _;exact rfl) (by assumption));exact zA rfl;(exact rfl))|((with_reducible apply (bd_ 4));rotate_left;exact rfl;exact rfl;exact rfl;exact zA rfl)|((with_reducible apply (bd_ 5));rotate_left;exact rfl;exact rfl;exact rfl;exact zA rfl)|((with_reducible apply (bd_ 6));rotate_left;exact rfl;exact rfl;exact rfl;exact zA rfl)|((with_reducible apply (bd_ 7));rotate_left;exact rfl;exact rfl;exact rfl;exact zA rfl)|((with_reducible apply (cO_ 4));rotate_left;exact zS rfl;exact rfl;exact rfl;exact rfl;exact zA rfl)|((with_reducible apply (cO_ 5));rotate_left;exact zS rfl;exact rfl;exact rfl;exact rfl;exact zA rfl)|((with_reducible apply (cO_ 6));rotate_left;exact zS rfl;exact rfl;exact rfl;exact rfl;exact zA rfl)|((with_reducible apply (cO_ 7));rotate_left;exact zS rfl;exact rfl;exact rfl;exact rfl;exact zA rfl)):G:=h
theorem Zy {A B:Prop} {n:Nat} (k:A) (h:Kw A→Cn n B:=by intro k_;repeat (first|exact cn0 k_.go|(apply cn;intro h_;((first|((with_reducible apply e_);rotate_left;exact rfl;exact h_;rotate_right)|((with_reducible apply T_);exact rfl;rotate_left;exact rfl;exact h_;rotate_right)|((with_reducible apply hZ_);exact rfl;exact rfl;exact rfl;rotate_left;exact rfl;exact h_;rotate_right));(exact zy)))|(apply cn;intro h_;first|((with_reducible apply aA_);exact h_)|((with_reducible apply am_);exact rfl;exact h_)|((with_reducible apply ax_);exact h_)|((with_reducible apply ae_);exact h_)|((with_reducible apply ar_);exact rfl;exact rfl;exact h_)|((with_reducible apply vY_);exact rfl;exact rfl;exact rfl;exact rfl;exact h_)|((with_reducible apply bw_);exact rfl;exact h_)|((with_reducible apply co_);exact rfl;exact h_)|((with_reducible apply df_);exact h_)|((with_reducible apply bV_);exact h_)|((with_reducible apply ge_);exact h_)|((with_reducible apply dm_);exact rfl;exact h_)|((with_reducible apply sq_noG);exact rfl;exact rfl;exact rfl;exact rfl;exact rfl;exact h_)|((with_reducible apply pA_);kernel_rfl;exact h_)|((with_reducible apply dQ_);exact h_)|((with_reducible apply iX_);exact rfl;exact h_)|((with_reducible apply wZ_);kernel_rfl;exact h_)|((with_reducible apply rL_);exact rfl;exact h_)|((with_reducible apply Q_);exact zs;exact h_)|((apply ar_);exact rfl;exact rfl;exact h_)|((apply vY_);exact rfl;exact rfl;exact rfl;exact rfl;exact h_)|((apply aA_);exact h_))|(apply cn;intro h_;((apply e_);rotate_left;exact rfl;exact h_;rotate_right);(exact zy)))):Cn n B:=h ⟨k⟩
theorem Zj {p q A B C:Prop} (n:Nat) (k0:p→A) (k1:q→B) (h:Kw (p→A)→Kw (q→B)→Cn n C:=by intro k0_ k1_;refine Zy ?_;first|((with_reducible apply E_);(first|((with_reducible apply aT_);exact rfl;exact rfl)|((with_reducible apply cD_);exact rfl;exact rfl)|((with_reducible apply dv_);exact rfl;exact rfl)|((with_reducible apply dV_);exact rfl;exact rfl)|((with_reducible apply cl_);exact rfl;exact rfl)|((with_reducible apply fE_);exact rfl;exact rfl)|((with_reducible apply dd_);exact rfl;exact rfl)|((with_reducible apply dK_);exact rfl;exact rfl)|((with_reducible apply gv_);exact rfl;exact rfl));exact rfl;intro r_ h_;cases r_;(first|(have q_:=zdf h_;(try dsimp only[Con.kind,Con.parts,Con.name,Con.lo,Con.hi,Con.cap,Con.ad]at q_);exact k0_.go q_)|(have q_:=znb h_;(try dsimp only[Con.kind,Con.parts,Con.name,Con.lo,Con.hi,Con.cap,Con.ad]at q_);exact k0_.go q_)|(have q_:=zbe h_;(try dsimp only[Con.kind,Con.parts,Con.name,Con.lo,Con.hi,Con.cap,Con.ad]at q_);exact k0_.go q_));(first|(have q_:=zdt h_;(try dsimp only[Con.kind,Con.parts,Con.name,Con.lo,Con.hi,Con.cap,Con.ad]at q_);exact k1_.go q_)|(have q_:=zeb h_;(try dsimp only[Con.kind,Con.parts,Con.name,Con.lo,Con.hi,Con.cap,Con.ad]at q_);exact k1_.go q_)|(have q_:=zbn h_;(try dsimp only[Con.kind,Con.parts,Con.name,Con.lo,Con.hi,Con.cap,Con.ad]at q_);exact k1_.go q_)))|((with_reducible apply gc_);exact rfl;(first|((with_reducible apply aT_);exact rfl;exact rfl)|((with_reducible apply cD_);exact rfl;exact rfl)|((with_reducible apply dv_);exact rfl;exact rfl)|((with_reducible apply dV_);exact rfl;exact rfl)|((with_reducible apply cl_);exact rfl;exact rfl)|((with_reducible apply fE_);exact rfl;exact rfl)|((with_reducible apply dd_);exact rfl;exact rfl)|((with_reducible apply dK_);exact rfl;exact rfl)|((with_reducible apply gv_);exact rfl;exact rfl));exact rfl;intro r_ h_;cases r_;(first|(have q_:=zdf h_;(try dsimp only[Con.kind,Con.parts,Con.name,Con.lo,Con.hi,Con.cap,Con.ad]at q_);exact k0_.go q_)|(have q_:=znb h_;(try dsimp only[Con.kind,Con.parts,Con.name,Con.lo,Con.hi,Con.cap,Con.ad]at q_);exact k0_.go q_)|(have q_:=zbe h_;(try dsimp only[Con.kind,Con.parts,Con.name,Con.lo,Con.hi,Con.cap,Con.ad]at q_);exact k0_.go q_));(first|(have q_:=zdt h_;(try dsimp only[Con.kind,Con.parts,Con.name,Con.lo,Con.hi,Con.cap,Con.ad]at q_);exact k1_.go q_)|(have q_:=zeb h_;(try dsimp only[Con.kind,Con.parts,Con.name,Con.lo,Con.hi,Con.cap,Con.ad]at q_);exact k1_.go q_)|(have q_:=zbn h_;(try dsimp only[Con.kind,Con.parts,Con.name,Con.lo,Con.hi,Con.cap,Con.ad]at q_);exact k1_.go q_)))|((with_reducible apply iS_);exact rfl;exact rfl;exact rfl;(first|((with_reducible apply aT_);exact rfl;exact rfl)|((with_reducible apply cD_);exact rfl;exact rfl)|((with_reducible apply dv_);exact rfl;exact rfl)|((with_reducible apply dV_);exact rfl;exact rfl)|((with_reducible apply cl_);exact rfl;exact rfl)|((with_reducible apply fE_);exact rfl;exact rfl)|((with_reducible apply dd_);exact rfl;exact rfl)|((with_reducible apply dK_);exact rfl;exact rfl)|((with_reducible apply gv_);exact rfl;exact rfl));exact rfl;intro r_ h_;cases r_;(first|(have q_:=zdf h_;(try dsimp only[Con.kind,Con.parts,Con.name,Con.lo,Con.hi,Con.cap,Con.ad]at q_);exact k0_.go q_)|(have q_:=znb h_;(try dsimp only[Con.kind,Con.parts,Con.name,Con.lo,Con.hi,Con.cap,Con.ad]at q_);exact k0_.go q_)|(have q_:=zbe h_;(try dsimp only[Con.kind,Con.parts,Con.name,Con.lo,Con.hi,Con.cap,Con.ad]at q_);exact k0_.go q_));(first|(have q_:=zdt h_;(try dsimp only[Con.kind,Con.parts,Con.name,Con.lo,Con.hi,Con.cap,Con.ad]at q_);exact k1_.go q_)|(have q_:=zeb h_;(try dsimp only[Con.kind,Con.parts,Con.name,Con.lo,Con.hi,Con.cap,Con.ad]at q_);exact k1_.go q_)|(have q_:=zbn h_;(try dsimp only[Con.kind,Con.parts,Con.name,Con.lo,Con.hi,Con.cap,Con.ad]at q_);exact k1_.go q_)))):C:=(h ⟨k0⟩ ⟨k1⟩).go
theorem Zi {p q A B C:Prop} (n:Nat) (k0:p→A) (k1:q→B) (h:Kw (p→A)→Kw (q→B)→Cn n C:=by intro k0_ k1_;refine Zy ?_;first|((with_reducible apply E_);(first|((with_reducible apply aT_);exact rfl;exact rfl)|((with_reducible apply cD_);exact rfl;exact rfl)|((with_reducible apply dv_);exact rfl;exact rfl)|((with_reducible apply dV_);exact rfl;exact rfl)|((with_reducible apply cl_);exact rfl;exact rfl)|((with_reducible apply fE_);exact rfl;exact rfl)|((with_reducible apply dd_);exact rfl;exact rfl)|((with_reducible apply dK_);exact rfl;exact rfl)|((with_reducible apply gv_);exact rfl;exact rfl));exact rfl;intro r_ h_;cases r_;(first|exact k0_.go (zdf h_)|exact k0_.go (znb h_)|exact k0_.go (zbe h_));(first|exact k1_.go (zdt h_)|exact k1_.go (zeb h_)|exact k1_.go (zbn h_)))|((with_reducible apply gc_);exact rfl;(first|((with_reducible apply aT_);exact rfl;exact rfl)|((with_reducible apply cD_);exact rfl;exact rfl)|((with_reducible apply dv_);exact rfl;exact rfl)|((with_reducible apply dV_);exact rfl;exact rfl)|((with_reducible apply cl_);exact rfl;exact rfl)|((with_reducible apply fE_);exact rfl;exact rfl)|((with_reducible apply dd_);exact rfl;exact rfl)|((with_reducible apply dK_);exact rfl;exact rfl)|((with_reducible apply gv_);exact rfl;exact rfl));exact rfl;intro r_ h_;cases r_;(first|exact k0_.go (zdf h_)|exact k0_.go (znb h_)|exact k0_.go (zbe h_));(first|exact k1_.go (zdt h_)|exact k1_.go (zeb h_)|exact k1_.go (zbn h_)))|((with_reducible apply iS_);exact rfl;exact rfl;exact rfl;(first|((with_reducible apply aT_);exact rfl;exact rfl)|((with_reducible apply cD_);exact rfl;exact rfl)|((with_reducible apply dv_);exact rfl;exact rfl)|((with_reducible apply dV_);exact rfl;exact rfl)|((with_reducible apply cl_);exact rfl;exact rfl)|((with_reducible apply fE_);exact rfl;exact rfl)|((with_reducible apply dd_);exact rfl;exact rfl)|((with_reducible apply dK_);exact rfl;exact rfl)|((with_reducible apply gv_);exact rfl;exact rfl));exact rfl;intro r_ h_;cases r_;(first|exact k0_.go (zdf h_)|exact k0_.go (znb h_)|exact k0_.go (zbe h_));(first|exact k1_.go (zdt h_)|exact k1_.go (zeb h_)|exact k1_.go (zbn h_)))):C:=(h ⟨k0⟩ ⟨k1⟩).go
theorem zm {p q:Prop} (k:p) (h:Kw p→q:=by intro k_;repeat (first|exact trivial|refine⟨rfl,?_⟩|refine⟨s_ rfl k_.go,?_⟩)):q:=h ⟨k⟩
theorem Zz {A B:Prop} (n:Nat) (k:A) (h:Kw A→Cn n B:=by intro k_;exact Zy k_.go):B:=(h ⟨k⟩).go
end Go.Proofs.YthmjeabeoodghaaGreatDoor

namespace Go.Proofs.YthmjeabeoodghaaGreatDoor
open Go Go.Sx Go.Proofs Tryz
attribute [local irreducible] Code.wp wpList wpAnyH
open Go.Vs
theorem oY_ (c:UInt8) :
    Fn0 prog 265 #[.int .u8 (c.toNat:Int)] (.bool (eG_ c)):=by
  refine j_ func265 rfl rfl ntmps265 rfl fun x=>?_;refine Zi 8 (fun h=>?_) fun h=>?_
  · refine Zi 8 (fun d=>?_) fun d=>?_
    · refine Zz 11 ?_;exact aa_ vO_ () (s_ rfl zaC_) (.refl _) zt
    · refine Zz 5 ?_;refine E_ (dV_ rfl rfl) rfl fun m e=>Zz 7 ?_
      exact aa_ vO_ () (s_ rfl zaC_) (.refl _) zt
  · refine Zi 4 (fun d=>?_) fun d=>?_
    · refine Zi 5 (fun e=>?_) fun e=>?_
      · refine Zz 11 ?_;exact aa_ vO_ () (s_ rfl zaC_) (.refl _) zt
      · refine Zz 5 ?_;refine E_ (dV_ rfl rfl) rfl fun m v=>Zz 7 ?_
        exact aa_ vO_ () (s_ rfl zaC_) (.refl _) zt
    · refine Zz 13 ?_;exact aa_ vO_ () (s_ rfl zaC_) (.refl _) zt
theorem tv_ (s:Str) (G:s.length≤140737488351232) :
    Fn0 prog 249 #[str s] (.bool (mT_ s)):=by
  refine j_ func249 rfl rfl ntmps249 rfl fun F=>?_;refine Zz 9 ?_;refine BN_ N_ runUnderlying307 runUnderlying5 rfl rfl fun cap e C=>Zz 5 ?_
  refine bt_ [(6,.slice (some ⟨e,0,none⟩) s.length cap),(7,.int .i64 (s.length:Int)),(8,.int .i64 ((0:Nat):Int))] zl ?_;refine bO_ (ι:={k:Nat // k≤s.length∧(s.take k).all fX_=true}) (fun i=>[(6,.slice (some ⟨e,0,none⟩) s.length cap),(7,.int .i64 (s.length:Int)),(8,.int .i64 (i.1:Int))]) (fun _=>_) (fun _=>_) (fun i=>s.length - i.1) ⟨0,by simp⟩ ?_;rintro ⟨k,A⟩;refine bt_ [(6,.slice (some ⟨e,0,none⟩) s.length cap),(7,.int .i64 (s.length:Int)),(8,.int .i64 (k:Int))] zl ?_;refine Zi 2 (fun x=>?_) fun x=>?_
  · refine Zz 12 ?_;exact aa_ results249 () (s_ rfl (by rw[mT_,rf_ fX_ s k zaa_ A.2])) (.refl _) zt
  · have d:k<s.length:=by omega
    obtain⟨c,h⟩:∃ c,s[k]? = some c:=⟨_,List.getElem?_eq_getElem d⟩;refine Zz 10 ?_;refine e_ (gk_ runUnderlying307 sizeOf5 rfl rfl zaa_ zaa_) rfl (e_ (bd_ (u:=.int .u8 (c.toNat:Int)) 0 isAgg5 rfl rfl (by rw[show 0+((k:Int)).toNat*1=k by omega];exact zM_ h)) rfl ?_);refine Zz 6 ?_;refine an_ (oY_ c) rfl (.refl _) zt rfl fun B E=>e_ (aR_ rfl) rfl (Zz 1 ?_)
    cases B
    · refine Zi 3 (fun y=>?_) fun y=>?_
      · refine Zz 19 ?_;exact x_ ⟨k+1,d,hk_ _ s k c h A.2 zbl_⟩ zap_ zl (.refl _) zh
      · refine Zi 5 (fun m=>?_) fun m=>?_
        · refine Zi 5 (fun v=>?_) fun v=>?_
          · refine Zz 13 ?_;exact x_ ⟨k+1,d,hk_ _ s k c h A.2 zbl_⟩ zap_ zl (.refl _) zh
          · refine Zz 12 ?_;exact aa_ results249 () (s_ rfl (by rw[mT_,kP_ fX_ s k c h zbl_])) (.refl _) zt
        · refine Zz 16 ?_;exact aa_ results249 () (s_ rfl (by rw[mT_,kP_ fX_ s k c h zbl_])) (.refl _) zt
    · refine Zz 21 ?_;exact x_ ⟨k+1,d,hk_ _ s k c h A.2 zbl_⟩ zap_ zl (.refl _) zh
theorem xN_ (s:Str) :
    Fn0 prog 266 #[str s] (.bool (bK_ s)):=by
  refine j_ func266 rfl rfl ntmps266 rfl fun Q=>?_;refine Zi 15 (fun K=>?_) fun K=>?_
  · refine Zi 6 (fun P=>?_) fun P=>?_
    · refine Zi 6 (fun N=>?_) fun N=>?_
      · refine Zi 6 (fun H=>?_) fun H=>?_
        · refine Zi 6 (fun I=>?_) fun I=>?_
          · refine Zi 6 (fun O=>?_) fun O=>?_
            · refine Zi 6 (fun L=>?_) fun L=>?_
              · refine Zi 6 (fun J=>?_) fun J=>?_
                · refine Zi 6 (fun M=>?_) fun M=>?_
                  · refine Zi 6 (fun d=>?_) fun d=>?_
                    · refine Zi 6 (fun F=>?_) fun F=>?_
                      · refine Zi 6 (fun y=>?_) fun y=>?_
                        · refine Zi 6 (fun C=>?_) fun C=>?_
                          · refine Zi 6 (fun G=>?_) fun G=>?_
                            · refine Zi 6 (fun m=>?_) fun m=>?_
                              · refine Zi 6 (fun v=>?_) fun v=>?_
                                · refine Zi 6 (fun e=>?_) fun e=>?_
                                  · refine Zi 6 (fun h=>?_) fun h=>?_
                                    · refine Zi 6 (fun A=>?_) fun A=>?_
                                      · refine Zi 6 (fun B=>?_) fun B=>?_
                                        · refine Zi 6 (fun x=>?_) fun x=>?_
                                          · refine Zi 5 (fun E=>?_) fun E=>?_
                                            · refine Zz 12 ?_;exact aa_ bb_ () (s_ rfl zas_) (.refl _) zt
                                            · refine Zz 10 ?_;exact aa_ bb_ () (s_ rfl zas_) (.refl _) zt
                                          · refine Zz 13 ?_;exact aa_ bb_ () (s_ rfl zas_) (.refl _) zt
                                        · refine Zz 13 ?_;exact aa_ bb_ () (s_ rfl zas_) (.refl _) zt
                                      · refine Zz 13 ?_;exact aa_ bb_ () (s_ rfl zas_) (.refl _) zt
                                    · refine Zz 13 ?_;exact aa_ bb_ () (s_ rfl zas_) (.refl _) zt
                                  · refine Zz 13 ?_;exact aa_ bb_ () (s_ rfl zas_) (.refl _) zt
                                · refine Zz 13 ?_;exact aa_ bb_ () (s_ rfl zas_) (.refl _) zt
                              · refine Zz 13 ?_;exact aa_ bb_ () (s_ rfl zas_) (.refl _) zt
                            · refine Zz 13 ?_;exact aa_ bb_ () (s_ rfl zas_) (.refl _) zt
                          · refine Zz 13 ?_;exact aa_ bb_ () (s_ rfl zas_) (.refl _) zt
                        · refine Zz 13 ?_;exact aa_ bb_ () (s_ rfl zas_) (.refl _) zt
                      · refine Zz 13 ?_;exact aa_ bb_ () (s_ rfl zas_) (.refl _) zt
                    · refine Zz 13 ?_;exact aa_ bb_ () (s_ rfl zas_) (.refl _) zt
                  · refine Zz 13 ?_;exact aa_ bb_ () (s_ rfl zas_) (.refl _) zt
                · refine Zz 13 ?_;exact aa_ bb_ () (s_ rfl zas_) (.refl _) zt
              · refine Zz 13 ?_;exact aa_ bb_ () (s_ rfl zas_) (.refl _) zt
            · refine Zz 13 ?_;exact aa_ bb_ () (s_ rfl zas_) (.refl _) zt
          · refine Zz 13 ?_;exact aa_ bb_ () (s_ rfl zas_) (.refl _) zt
        · refine Zz 13 ?_;exact aa_ bb_ () (s_ rfl zas_) (.refl _) zt
      · refine Zz 13 ?_;exact aa_ bb_ () (s_ rfl zas_) (.refl _) zt
    · refine Zz 13 ?_;exact aa_ bb_ () (s_ rfl zas_) (.refl _) zt
  · refine Zz 13 ?_;exact aa_ bb_ () (s_ rfl zas_) (.refl _) zt
theorem oX_ (s:Str) (B:s.length≤140737488351232) :
    Fn0 prog 220 #[str s] (.bool (gX_ s)):=by
  refine j_ func220 rfl rfl ntmps220 rfl fun A=>?_;refine Zi 8 (fun d=>?_) fun d=>?_
  · refine Zz 18 ?_;exact aa_ results220 () (s_ rfl (by simp[gX_, *])) (.refl _) zt
  · obtain⟨c,t,rfl⟩:=List.exists_cons_of_ne_nil d;refine Zz 4 ?_;refine e_ (cm_ N_ rfl rfl zad_ rfl) rfl (ar_ rfl rfl (an_ (oY_ _) rfl (.refl _) zt rfl fun h x=>Zz 2 ?_));cases h
    · refine Zz 12 ?_;exact aa_ results220 () (s_ rfl (by simp[gX_, *])) (.refl _) zt
    · refine Zz 3 ?_;refine an_ (tv_ _ zai_) rfl (.refl _) zt rfl fun e v=>Zz 2 ?_
      cases e
      · refine Zz 8 ?_;exact aa_ results220 () (s_ rfl (by simp[gX_, *])) (.refl _) zt
      · refine Zz 3 ?_;refine an_ (xN_ _) rfl (.refl _) zt rfl fun y m=>ar_ rfl rfl (e_ (aR_ rfl) rfl (Zz 5 ?_))
        exact aa_ results220 () (s_ rfl (by simp[gX_, *])) (.refl _) zt
theorem ig_ (s:Str) (y:s.length≤140737488351232) :
    Fn0 prog 193 #[str s] (.bool (cQ_ s)):=by
  refine j_ func193 rfl rfl ntmps193 rfl fun x=>?_;refine Zz 8 ?_;refine e_ (cB_ N_ rfl) rfl ?_;refine Zi 0 (fun e=>?_) fun e=>?_
  · refine Zz 18 ?_;exact aa_ results193 () (s_ rfl zaE_) (.refl _) zt
  · refine Zz 4 ?_;refine e_ (cB_ N_ rfl) rfl (ar_ rfl rfl ?_);refine Zi 0 (fun h=>?_) fun h=>?_
    · refine Zz 14 ?_;exact aa_ results193 () (s_ rfl zaE_) (.refl _) zt
    · obtain⟨c,t,rfl⟩:=List.exists_cons_of_length_pos (l:=s) zaa_;refine Zz 5 ?_;refine e_ (cm_ N_ rfl rfl zad_ rfl) rfl (ar_ rfl rfl ?_);refine Zi 0 (fun d=>?_) fun d=>?_
      · refine Zz 9 ?_;exact aa_ results193 () (s_ rfl zaE_) (.refl _) zt
      · refine Zz 5 ?_;refine an_ (tv_ _ zai_) rfl (.refl _) zt rfl fun v m=>Zz 5 ?_
        exact aa_ results193 () (s_ rfl zaE_) (.refl _) zt
theorem ne_ (s:Str) (c:UInt8):Fn0 prog 309 #[str s,str [c]] (.int .i64 (Lib.indexByte s c)) :=
  ii_ (callable func309 rfl rfl) fun w=>(Tryz.stringslite_Index_one ⟨s.toArray⟩ c w).mono zaI_
theorem rE_ (s:Str) (c:UInt8) (d:ixS c s=none):Fn0 prog 309 #[str s,str [c]] (.int .i64 (-1)):=by
  have h:=ne_ s c;rw[nF_,d]at h;exact h
theorem rD_ (s:Str) (c:UInt8) (k:Nat) (d:ixS c s=some k):Fn0 prog 309 #[str s,str [c]] (.int .i64 (k:Int)):=by
  have h:=ne_ s c;rw[nF_,d]at h;exact h
theorem yc_ (s:Str) (c:UInt8) (e:ixS c s=none) :
    Fn0 prog 264 #[str s,str [c]] (.tuple #[str s,str [],.bool false]):=by
  refine j_ func264 rfl rfl ntmps264 rfl fun h=>?_;refine Zz 12 ?_;refine f_ (rE_ s c e) rfl (.refl _) zt rfl fun _=>Zi 6 (fun d=>?_) fun d=>?_
  · refine Zz 14 ?_;exact xi_ results264 () rfl rfl rfl rfl (.refl _) zt
  · exact absurd d zad_
theorem yb_ (s:Str) (c:UInt8) (k:Nat) (e:ixS c s=some k) (hl:k<s.length) (m:s.length≤140737488351232) :
    Fn0 prog 264 #[str s,str [c]] (.tuple #[str (s.take k),str (s.drop (k+1)),.bool true]):=by
  refine j_ func264 rfl rfl ntmps264 rfl fun h=>?_;refine Zz 12 ?_;refine f_ (rD_ s c k e) rfl (.refl _) zt rfl fun _=>Zi 6 (fun d=>?_) fun d=>?_
  · exact absurd zaa_ d
  · refine Zz 5 ?_;refine D_ 0 [0,1,2,3,4,5,6,7,8,9,10,11] zk zs (Zz 2 ?_);refine T_ rfl (eI_ (i:=0) (j:=k) (kl:=.i64) N_ rfl rfl rfl zaa_ zaa_) rfl (Zz 3 ?_);refine T_ rfl (cB_ N_ rfl) rfl ?_;refine T_ rfl (aI_ rfl rfl rfl (bv_ zax_ zax_)) rfl ?_;refine T_ rfl (eI_ (i:=k+1) (j:=s.length) (kh:=.i64) N_ rfl rfl rfl zaa_ zaa_) rfl (Zz 7 ?_);exact xi_ results264 () rfl rfl rfl (by simp[List.take_of_length_le]) (.refl _) zt
theorem As_ (s:Str) (c:UInt8) (d:ixS c s=none) :
    Fn0 prog 219 #[str s,str [c]] (.tuple #[str s,str [],.bool false]):=by
  refine j_ func219 rfl rfl ntmps219 rfl fun e=>?_;refine Zz 11 ?_;refine f_ (yc_ s c d) rfl (.refl _) zt rfl fun _=>Zz 9 ?_
  exact xi_ results219 () rfl rfl rfl rfl (.refl _) zt
theorem rz_ (s:Str) (m:ixS 58 s=none) :
    Fn0 prog 155 #[str s] (.bool (bk_ s)):=by
  refine j_ func155 rfl rfl ntmps155 rfl fun v=>?_;refine Zz 9 ?_;refine e_ (cB_ N_ rfl) rfl ?_;refine Zi 0 (fun d=>?_) fun d=>?_
  · refine Zz 8 ?_;refine f_ (As_ s 58 m) rfl (.refl _) zt rfl fun _=>Zz 12 ?_
    refine an_ (oX_ _ zaq_) rfl (.refl _) zt rfl fun e h=>?_;refine Zz 1 ?_;cases e
    · refine Zz 11 ?_;exact aa_ lI_ () (s_ rfl zaZ_) (.refl _) zt
    · refine Zz 3 ?_;refine e_ (aR_ rfl) rfl (Zz 11 ?_);exact aa_ lI_ () (s_ rfl zaZ_) (.refl _) zt
  · refine Zz 9 ?_;exact aa_ lI_ () (s_ rfl zaZ_) (.refl _) zt
theorem Ar_ (s:Str) (c:UInt8) (k:Nat) (d:ixS c s=some k) (hl:k<s.length) (e:s.length≤140737488351232) :
    Fn0 prog 219 #[str s,str [c]] (.tuple #[str (s.take k),str (s.drop (k+1)),.bool true]):=by
  refine j_ func219 rfl rfl ntmps219 rfl fun h=>?_;refine Zz 11 ?_;refine f_ (yb_ s c k d hl e) rfl (.refl _) zt rfl fun _=>Zz 9 ?_
  exact xi_ results219 () rfl rfl rfl rfl (.refl _) zt
theorem ry_ (s:Str) (k:Nat) (x:ixS 58 s=some k) (hl:k<s.length) :
    Fn0 prog 155 #[str s] (.bool (bk_ s)):=by
  refine j_ func155 rfl rfl ntmps155 rfl fun y=>?_;refine Zz 9 ?_;refine e_ (cB_ N_ rfl) rfl ?_;refine Zi 0 (fun d=>?_) fun d=>?_
  · refine Zz 8 ?_;refine f_ (Ar_ s 58 k x hl zaa_) rfl (.refl _) zt rfl fun _=>Zz 12 ?_
    refine an_ (oX_ _ zaq_) rfl (.refl _) zt rfl fun e m=>?_;refine Zz 1 ?_;cases e
    · refine Zz 11 ?_;exact aa_ lI_ () (s_ rfl zaZ_) (.refl _) zt
    · refine Zz 3 ?_;refine e_ (aR_ rfl) rfl (Zz 5 ?_);refine an_ (oX_ _ zaq_) rfl (.refl _) zt rfl fun v h=>?_;refine Zz 7 ?_;exact aa_ lI_ () (s_ rfl zaZ_) (.refl _) zt
  · refine Zz 9 ?_;exact aa_ lI_ () (s_ rfl zaZ_) (.refl _) zt
theorem hB_ (s:Str):Fn0 prog 155 #[str s] (.bool (bk_ s)):=by
  cases hk:ixS 58 s with
  | none=>exact rz_ s hk
  | some k=>exact ry_ s k hk (vb_ hk)
theorem dG_ (s:Str) (x:s.length≤140737488351232) :
    Fn0 prog 131 #[str s] (.int .i64 (if aN_ s then 0 else 20)):=by
  refine j_ func131 rfl rfl ntmps131 rfl fun v=>?_;refine Zz 9 ?_;refine an_ (hB_ _) rfl (.refl _) zt rfl fun e m=>Zz 1 ?_
  cases e
  · refine Zz 3 ?_;refine an_ (ig_ _ x) rfl (.refl _) zt rfl fun d h=>Zz 3 ?_
    cases d
    · refine Zz 9 ?_;exact aa_ results131 () (be_ rfl (by simp[aN_, *])) (.refl _) zt
    · refine Zz 7 ?_;exact aa_ results131 () (be_ rfl (by simp[aN_, *])) (.refl _) zt
  · refine Zz 12 ?_;exact aa_ results131 () (be_ rfl (by simp[aN_, *])) (.refl _) zt
theorem gI_ (s:Str) (e:s.length≤140737488351232) :
    Fn0 prog 279 #[str s] (.bool (aN_ s)):=by
  refine j_ func279 rfl rfl ntmps279 rfl fun m=>?_;refine Zz 8 ?_;refine f_ (dG_ s e) rfl (.refl _) zt rfl fun _=>E_ (aT_ rfl rfl) rfl fun h d=>Zz 4 ?_
  exact aa_ results279 () (s_ rfl (by subst_vars;cases aN_ s<;>rfl)) (.refl _) zt
theorem fits_c:∀ (m:Nat) (c:Con),c.sz≤m→c.ok→∀ (d n bs:Nat),d≤9→n≤64→∀ r,c.fits d n=r →
    Tri prog 156 #[c.val,.int .i64 (d:Int),zp_ bs 0] [(bs,.cells #[.int .i64 (n:Int)] 3 (0,0))] [c.memF] (fun _:Unit=>.bool r.1) (fun _=>[(bs,.cells #[.int .i64 (r.2:Int)] 3 (0,0))]) (fun _=>[]):=by
  intro m
  induction m with
  | zero=>intro c h;have:=c.sz_pos;omega
  | succ m ih =>
    intro c hm B d n bs P Q r J;obtain⟨k,nm,lo,hi,ad,cap,ps⟩:=c;have F:=Con.ok_len B;simp only[Con.parts,Con.cap]at F;refine j_ func156 rfl rfl ntmps156 rfl fun M=>?_;refine Zz 2 ?_;refine K_ rfl rfl fun N=>Zz 10 ?_
    refine o_ 1 P_ rfl rfl rfl rfl rfl rfl (Zj 6 (fun A=>?_) fun A=>?_)
    · refine Zj 8 (fun H=>?_) fun H=>?_
      · have x:¬ (8<d∨64<n+1):=by omega
        refine Zz 16 ?_;refine bt_ [(1,.int .i64 (d:Int)),(2,zp_ bs 0),(23,.slice ad ps.length cap),(24,.int .i64 (ps.length:Int)),(25,.int .i64 ((0:Nat):Int))] zl ?_;refine bO_ (ι:={q:Nat×Nat // q.1≤ps.length∧Con.fits.fitss (ps.take q.1) (d+1) (n+1)=(true,q.2)∧q.2≤64}) (fun i=>[(1,.int .i64 (d:Int)),(2,zp_ bs 0),(23,.slice ad ps.length cap),(24,.int .i64 (ps.length:Int)),(25,.int .i64 (i.1.1:Int))]) (fun i=>[_,(bs,.cells #[.int .i64 (i.1.2:Int)] 3 (0,0))]) (fun _=>_) (fun i=>ps.length - i.1.1) ⟨(0,n+1),by simp[Con.fits.fitss];omega⟩ ?_;rintro ⟨⟨i,e⟩,I⟩;refine bt_ [(1,.int .i64 (d:Int)),(2,zp_ bs 0),(23,.slice ad ps.length cap),(24,.int .i64 (ps.length:Int)),(25,.int .i64 (i:Int))] zl ?_;refine Zj 2 (fun C=>?_) fun C=>?_
        · refine Zz 12 ?_;obtain rfl:r=(true,e):=by rw[← J];exact Con.fits_yes x zaa_ I.2.1
          exact aa_ results156 () rfl (gf_ (i:=1) rfl) zt
        · have E:i<ps.length:=by omega
          obtain⟨p,G⟩:∃ p,ps[i]? = some p:=⟨_,List.getElem?_eq_getElem E⟩;have y:p∈ps:=List.mem_of_getElem? G;refine Zz 10 ?_;refine e_ (U_ ab_ n_ rfl rfl (fun v _ h=>Con.row_addr (c:=.mk k nm lo hi ad cap ps) h.1 G) zaa_ zaa_) rfl (e_ (al_ (us:=p.cells) ac_ n_ rfl (fun v _ h=>((Con.mem_iff (.mk k nm lo hi ad cap ps) v).1 h.1).1) p.cells_len (Con.part_cells (c:=.mk k nm lo hi ad cap ps) (i:=i) G)) rfl (y_ aH_ rfl fun O=>fz_ 0 n_ rfl rfl rfl rfl (Zz 4 ?_)));refine e_ (cP_ 0 ac_ n_ rfl rfl) rfl (Zz 3 ?_);refine oJ_ 2 (ih p (by have:=Con.sz_part (c:=.mk k nm lo hi ad cap ps) y;omega) (Con.ok_part (c:=.mk k nm lo hi ad cap ps) B y) (d+1) e bs zaa_ I.2.2 _ rfl) rfl rfl (fun v _ h=>⟨Con.mem_part (c:=.mk k nm lo hi ad cap ps) h.1 y,trivial⟩) rfl fun K L=>?_;refine e_ (aR_ rfl) rfl (Zz 2 ?_);cases K
          · refine Zz 7 ?_;obtain rfl:r=(false,(p.fits (d+1) e).2):=by rw[← J];exact Con.fits_no x G I.2.1 zai_
            exact aa_ results156 () rfl (gf_ (i:=2) rfl) zt
          · refine Zz 8 ?_;exact x_ ⟨(i+1,(p.fits (d+1) e).2),E,Con.fitss_step G I.2.1 zai_⟩ zap_ zl (@List.perm_append_comm _ [_] _) zh
      · refine Zz 10 ?_;obtain rfl:r=(false,n+1):=by rw[← J,Con.fits_eq];simp<;>omega
        exact aa_ results156 () rfl (gf_ (i:=1) rfl) zt
    · refine Zz 15 ?_;obtain rfl:r=(false,n+1):=by rw[← J,Con.fits_eq];simp<;>omega
      exact aa_ results156 () rfl (gf_ (i:=1) rfl) zt
def vT_ (v:Vw):Prop:=v.sl∧v.im 4∧∃ T fz,v.w.heap[4]? = some (.cells (Lib.pow10Tab.map fun z=>Value.int .u64 z).toArray T fz)
theorem uF_ {v e:Vw} (h:v.le e) (m:vT_ v):vT_ e:=by
  obtain⟨y,d,T,fz,x⟩:=m;exact⟨by rw[h.sl];exact y,h.imUp _ d,T,fz,by rw[h.block _ d];exact x⟩
theorem xo_ {v : Vw} (d : vT_ v) : Lib.TabIs prog v.w "internal/strconv.uint64pow10" .u64 Lib.pow10Tab := by
  obtain⟨_,m,T,fz,e⟩:=d;have h : Tryz.prog.globalNamed "internal/strconv.uint64pow10" = some 4 := by kernel_rfl
  simp only[Lib.TabIs,World.var?,h,Option.bind_some,e]
def bN_:Fct where
  p:=fun v=>bY_ v (some ⟨1,0,none⟩) (dF_.flatMap wa_)∧bY_ v (some ⟨0,0,none⟩) (pE_.flatMap Use.cells)∧True∧vT_ v
  mono:=fun v v' h hp=>⟨(X_ _ _).mono v v' h hp.1,(X_ _ _).mono v v' h hp.2.1,trivial,uF_ h hp.2.2.2⟩
def hW_:Fct:=X_ (some ⟨3,0,none⟩) (gF_.flatMap NUse.cells)
theorem gu_ {G:Prop} (h:G:=by
 refine Zz 7 ?_;exact kd_):G:=h
theorem nQ_ {G:Prop} (h:G:=by
 refine Zz 7 ?_;exact met ⟨rfl,rfl,rfl,rfl,rfl,rfl,rfl,rfl,rfl,rfl,rfl,rfl,rfl,rfl,(s_ rfl (jaf I)),trivial⟩):G:=h
theorem kc_ {G:Prop} (h:G:=by
 exact met ⟨rfl,rfl,rfl,rfl,rfl,rfl,rfl,rfl,rfl,rfl,rfl,rfl,(s_ rfl (jot d)),trivial⟩):G:=h
theorem hQ_ {G:Prop} (h:G:=by
 exact met ⟨rfl,rfl,rfl,rfl,rfl,rfl,rfl,rfl,rfl,rfl,rfl,rfl,rfl,(s_ rfl (jot d)),trivial⟩):G:=h
theorem kd_ {G:Prop} (h:G:=by
 exact aa_ results157 () (be_ rfl (by unfold Con.fieldErr;simp only[Con.kind,Con.parts,Con.name,Con.lo,Con.hi];simp only[P];repeat (first|rfl|exact (if_pos zaa_).symm|(rw[if_pos zaH_];first|done|rfl)|(rw[if_neg zaH_])))) (.refl _) zt):G:=h
theorem pN_ (c:Con) (a0:c.ok):Tri prog 157 #[c.val] [] [bN_] (fun _:Unit=>.int .i64 c.fieldErr) (fun _=>[]) (fun _=>[]):=by
 obtain⟨k,nm,lo,hi,ad,cap,ps⟩:=c;have a5:=Con.ok_len a0;simp only[Con.parts,Con.cap]at a5;refine j_ func157 rfl rfl ntmps157 rfl fun v_1=>?_;refine Zz 2 ?_;refine K_ rfl rfl fun m=>Zz 8 ?_
 refine E_ (cD_ rfl rfl) rfl fun r_1 N=>Zz 1 ?_
 refine aB_ 4 ((decide (k<1))||(decide (7<k))) (fun r=>[(0,.agg (Con.cells (Con.mk k nm lo hi ad cap ps)).toArray),(1,zp_ m 0),(2,.int .i64 0),(11,.bool r)]) ?_ fun r_2 Z=>?_
 ·cases r_1
  ·have d:=N
   replace N:=zdf N;refine Zz 5 ?_;refine E_ (dd_ rfl rfl) rfl fun a4 M=>Zz 3 ?_
   exact met (zm (jof d M))
  have d:=N;replace N:=zdt N;refine Zz 6 ?_;exact met ⟨rfl,rfl,rfl,(s_ rfl (jot d)),trivial⟩
 refine Zz 2 ?_;cases r_2
 ·simp at Z
  obtain⟨x,hx⟩:∃ x,dF_[k.toNat]? = some x:=⟨_,List.getElem?_eq_getElem (show k.toNat<8 by omega)⟩;have P:nd k=x:=by simp[nd,hx]
  obtain⟨A,J,K,xb⟩:=x;refine Zz 7 ?_;refine e_ (dI_ runUnderlying277 sizeOf276 rfl rfl zcc_ (by show k<(8:Int);omega)) rfl ?_;refine e_ (al_ (ad:=some ⟨1,0,none⟩) (k:=k.toNat*4) (us:=wa_ (A,J,K,xb)) isAgg276 sizeOf276 rfl (fun v _ h=>h.1.1) (lM_ _) (fun j y hj=>by rw[kD_ wa_ 4 lM_ dF_ k.toNat j _ hx (by have:=(List.getElem?_eq_some_iff.1 hj).1;rwa [lM_]at this)];exact hj)) rfl ?_;refine y_ zeroValue276 rfl fun E=>o_ 0 sizeOf276 rfl rfl rfl rfl rfl rfl (Zz 10 ?_)
  refine E_ (cD_ rfl rfl) rfl fun a4 M=>Zz 1 ?_
  refine aB_ 7 ((decide ((ps.length:Int)<J))||(decide (K<(ps.length:Int)))) (fun r=>[(0,.agg (Con.cells (Con.mk k nm lo hi ad cap ps)).toArray),(1,zp_ m 0),(2,.int .i64 0),(11,.bool false),(12,zp_ m 0),(13,.int .i64 k),(14,.pointer (some (rad (some ⟨1,0,none⟩) (k.toNat*4)))),(15,.agg #[.int .i64 A,.int .i64 J,.int .i64 K,.bool xb]),(3,zp_ E 0),(29,.bool r)]) ?_ fun r_4 S=>?_
  ·cases a4
   ·have d:=M
    replace M:=zdf M;refine Zz 11 ?_;refine E_ (dd_ rfl rfl) rfl fun a2 Q=>Zz 3 ?_
    exact met (zm (jof d Q))
   have d:=M;replace M:=zdt M;refine Zz 9 ?_;exact met ⟨rfl,rfl,rfl,rfl,rfl,rfl,rfl,rfl,rfl,(s_ rfl (jot d)),trivial⟩
  refine Zz 1 ?_;refine aB_ 9 ((((decide ((ps.length:Int)<J))||(decide (K<(ps.length:Int)))))||(((A==0)&&(nm != [])))) (fun r=>[(0,.agg (Con.cells (Con.mk k nm lo hi ad cap ps)).toArray),(1,zp_ m 0),(2,.int .i64 0),(11,.bool false),(12,zp_ m 0),(13,.int .i64 k),(14,.pointer (some (rad (some ⟨1,0,none⟩) (k.toNat*4)))),(15,.agg #[.int .i64 A,.int .i64 J,.int .i64 K,.bool xb]),(3,zp_ E 0),(39,.bool r)]) ?_ fun a2 Q=>?_
  ·cases r_4
   ·have d:=S
    simp at S
    refine Zz 5 ?_;refine E_ (aT_ rfl rfl) rfl fun V e=>Zz 2 ?_
    refine aB_ 4 ((A==0)&&(nm != [])) (fun r=>[(0,.agg (Con.cells (Con.mk k nm lo hi ad cap ps)).toArray),(1,zp_ m 0),(2,.int .i64 0),(11,.bool false),(12,zp_ m 0),(13,.int .i64 k),(14,.pointer (some (rad (some ⟨1,0,none⟩) (k.toNat*4)))),(15,.agg #[.int .i64 A,.int .i64 J,.int .i64 K,.bool xb]),(3,zp_ E 0),(30,.bool false),(38,.bool r)]) ?_ fun W L=>?_
    ·cases V
     ·have I:=e
      replace e:=znb e;refine Zz 7 ?_;exact met ⟨rfl,rfl,rfl,rfl,rfl,rfl,rfl,rfl,rfl,rfl,(s_ rfl (jaf I)),trivial⟩
     have I:=e;replace e:=zeb e;refine Zz 5 ?_;refine E_ (dK_ rfl rfl) rfl fun U C=>Zz 4 ?_
     exact met ⟨rfl,rfl,rfl,rfl,rfl,rfl,rfl,rfl,rfl,rfl,(s_ rfl (jat I C)),trivial⟩
    refine Zz 3 ?_;exact met (zm (jof d L))
   have d:=S;simp at S
   refine Zz 11 ?_;exact met ⟨rfl,rfl,rfl,rfl,rfl,rfl,rfl,rfl,rfl,(s_ rfl (jot d)),trivial⟩
  refine Zz 2 ?_;cases a2
  ·simp at Q
   refine Zz 10 ?_;cases xb
   ·refine Zz 5 ?_;refine E_ (cl_ rfl rfl) rfl fun V e=>Zz 1 ?_
    refine aB_ 4 ((lo != 0)||(hi != 0)) (fun r=>[(0,.agg (Con.cells (Con.mk k nm lo hi ad cap ps)).toArray),(1,zp_ m 0),(2,.int .i64 0),(11,.bool false),(12,zp_ m 0),(13,.int .i64 k),(14,.pointer (some (rad (some ⟨1,0,none⟩) (k.toNat*4)))),(15,.agg #[.int .i64 A,.int .i64 J,.int .i64 K,.bool false]),(3,zp_ E 0),(39,.bool false),(40,zp_ E 3),(41,.bool false),(64,.bool r)]) ?_ fun W L=>?_
    ·cases V
     ·have d:=e
      replace e:=er_ e;refine Zz 5 ?_;refine E_ (cl_ rfl rfl) rfl fun U C=>Zz 3 ?_
      exact met (zm (jof d C))
     have d:=e;replace e:=eo_ e;refine Zz 6 ?_;exact kc_
    refine Zz 2 ?_;cases W
    ·simp at L
     refine Zz 8 ?_;refine E_ (aT_ rfl rfl) rfl fun U C=>Zz 1 ?_
     refine aB_ 4 ((A==0)||(bk_ nm)) (fun r=>[(0,.agg (Con.cells (Con.mk k nm lo hi ad cap ps)).toArray),(1,zp_ m 0),(2,.int .i64 0),(11,.bool false),(12,zp_ m 0),(13,.int .i64 k),(14,.pointer (some (rad (some ⟨1,0,none⟩) (k.toNat*4)))),(15,.agg #[.int .i64 A,.int .i64 J,.int .i64 K,.bool false]),(3,zp_ E 0),(39,.bool false),(40,zp_ E 3),(41,.bool false),(64,.bool false),(72,.bool r)]) ?_ fun X F=>?_
     ·cases U
      ·have d:=C
       replace C:=znb C;refine Zz 5 ?_;refine an_ (hB_ nm) rfl (.refl _) zt rfl fun R G=>Zz 3 ?_
       exact met (zm (jof d G))
      have d:=C;replace C:=zeb C;refine Zz 6 ?_;exact hQ_
     refine Zz 1 ?_;refine aB_ 9 ((((A==0)||(bk_ nm)))||(((A==2)&&(cQ_ nm)))) (fun r=>[(0,.agg (Con.cells (Con.mk k nm lo hi ad cap ps)).toArray),(1,zp_ m 0),(2,.int .i64 0),(11,.bool false),(12,zp_ m 0),(13,.int .i64 k),(14,.pointer (some (rad (some ⟨1,0,none⟩) (k.toNat*4)))),(15,.agg #[.int .i64 A,.int .i64 J,.int .i64 K,.bool false]),(3,zp_ E 0),(39,.bool false),(40,zp_ E 3),(41,.bool false),(64,.bool false),(82,.bool r)]) ?_ fun R G=>?_
     ·cases X
      ·have d:=F
       simp at F
       refine Zz 5 ?_;refine E_ (aT_ rfl rfl) rfl fun T B=>Zz 2 ?_
       refine aB_ 4 ((A==2)&&(cQ_ nm)) (fun r=>[(0,.agg (Con.cells (Con.mk k nm lo hi ad cap ps)).toArray),(1,zp_ m 0),(2,.int .i64 0),(11,.bool false),(12,zp_ m 0),(13,.int .i64 k),(14,.pointer (some (rad (some ⟨1,0,none⟩) (k.toNat*4)))),(15,.agg #[.int .i64 A,.int .i64 J,.int .i64 K,.bool false]),(3,zp_ E 0),(39,.bool false),(40,zp_ E 3),(41,.bool false),(64,.bool false),(73,.bool false),(81,.bool r)]) ?_ fun Y H=>?_
       ·cases T
        ·have I:=B
         replace B:=znb B;exact nQ_
        have I:=B;replace B:=zeb B;refine Zz 5 ?_;refine an_ (ig_ nm (Con.ok_name a0)) rfl (.refl _) zt rfl fun a3 O=>Zz 4 ?_
        exact met ⟨rfl,rfl,rfl,rfl,rfl,rfl,rfl,rfl,rfl,rfl,rfl,rfl,rfl,rfl,(s_ rfl (jat I O)),trivial⟩
       refine Zz 3 ?_;exact met (zm (jof d H))
      have d:=F;simp at F
      refine Zz 11 ?_;exact hQ_
     refine Zz 2 ?_;cases R
     ·simp at G
      refine Zz 9 ?_;exact kd_
     simp at G
     exact gu_
    simp at L
    exact gu_
   refine Zz 5 ?_;refine E_ (cD_ rfl rfl) rfl fun V e=>Zz 1 ?_
   refine aB_ 6 ((decide (lo<(-1099511627776)))||(decide (hi<lo))) (fun r=>[(0,.agg (Con.cells (Con.mk k nm lo hi ad cap ps)).toArray),(1,zp_ m 0),(2,.int .i64 0),(11,.bool false),(12,zp_ m 0),(13,.int .i64 k),(14,.pointer (some (rad (some ⟨1,0,none⟩) (k.toNat*4)))),(15,.agg #[.int .i64 A,.int .i64 J,.int .i64 K,.bool true]),(3,zp_ E 0),(39,.bool false),(40,zp_ E 3),(41,.bool true),(51,.bool r)]) ?_ fun W L=>?_
   ·cases V
    ·have d:=e
     replace e:=zdf e;refine Zz 9 ?_;refine E_ (dd_ rfl rfl) rfl fun U C=>Zz 3 ?_
     exact met (zm (jof d C))
    have d:=e;replace e:=zdt e;refine Zz 8 ?_;exact kc_
   refine Zz 1 ?_;refine aB_ 4 ((((decide (lo<(-1099511627776)))||(decide (hi<lo))))||(decide (1099511627776<hi))) (fun r=>[(0,.agg (Con.cells (Con.mk k nm lo hi ad cap ps)).toArray),(1,zp_ m 0),(2,.int .i64 0),(11,.bool false),(12,zp_ m 0),(13,.int .i64 k),(14,.pointer (some (rad (some ⟨1,0,none⟩) (k.toNat*4)))),(15,.agg #[.int .i64 A,.int .i64 J,.int .i64 K,.bool true]),(3,zp_ E 0),(39,.bool false),(40,zp_ E 3),(41,.bool true),(56,.bool r)]) ?_ fun U C=>?_
   ·cases W
    ·have d:=L
     simp at L
     refine Zz 5 ?_;refine E_ (dd_ rfl rfl) rfl fun X F=>Zz 3 ?_
     exact met (zm (jof d F))
    have d:=L;simp at L
    refine Zz 6 ?_;exact kc_
   refine Zz 2 ?_;cases U
   ·simp at C
    refine Zz 8 ?_;refine E_ (aT_ rfl rfl) rfl fun X F=>Zz 1 ?_
    refine aB_ 4 ((A==0)||(bk_ nm)) (fun r=>[(0,.agg (Con.cells (Con.mk k nm lo hi ad cap ps)).toArray),(1,zp_ m 0),(2,.int .i64 0),(11,.bool false),(12,zp_ m 0),(13,.int .i64 k),(14,.pointer (some (rad (some ⟨1,0,none⟩) (k.toNat*4)))),(15,.agg #[.int .i64 A,.int .i64 J,.int .i64 K,.bool true]),(3,zp_ E 0),(39,.bool false),(40,zp_ E 3),(41,.bool true),(56,.bool false),(72,.bool r)]) ?_ fun R G=>?_
    ·cases X
     ·have d:=F
      replace F:=znb F;refine Zz 5 ?_;refine an_ (hB_ nm) rfl (.refl _) zt rfl fun T B=>Zz 3 ?_
      exact met (zm (jof d B))
     have d:=F;replace F:=zeb F;refine Zz 6 ?_;exact hQ_
    refine Zz 1 ?_;refine aB_ 9 ((((A==0)||(bk_ nm)))||(((A==2)&&(cQ_ nm)))) (fun r=>[(0,.agg (Con.cells (Con.mk k nm lo hi ad cap ps)).toArray),(1,zp_ m 0),(2,.int .i64 0),(11,.bool false),(12,zp_ m 0),(13,.int .i64 k),(14,.pointer (some (rad (some ⟨1,0,none⟩) (k.toNat*4)))),(15,.agg #[.int .i64 A,.int .i64 J,.int .i64 K,.bool true]),(3,zp_ E 0),(39,.bool false),(40,zp_ E 3),(41,.bool true),(56,.bool false),(82,.bool r)]) ?_ fun T B=>?_
    ·cases R
     ·have d:=G
      simp at G
      refine Zz 5 ?_;refine E_ (aT_ rfl rfl) rfl fun Y H=>Zz 2 ?_
      refine aB_ 4 ((A==2)&&(cQ_ nm)) (fun r=>[(0,.agg (Con.cells (Con.mk k nm lo hi ad cap ps)).toArray),(1,zp_ m 0),(2,.int .i64 0),(11,.bool false),(12,zp_ m 0),(13,.int .i64 k),(14,.pointer (some (rad (some ⟨1,0,none⟩) (k.toNat*4)))),(15,.agg #[.int .i64 A,.int .i64 J,.int .i64 K,.bool true]),(3,zp_ E 0),(39,.bool false),(40,zp_ E 3),(41,.bool true),(56,.bool false),(73,.bool false),(81,.bool r)]) ?_ fun a3 O=>?_
      ·cases Y
       ·have I:=H
        replace H:=znb H;exact nQ_
       have I:=H;replace H:=zeb H;refine Zz 5 ?_;refine an_ (ig_ nm (Con.ok_name a0)) rfl (.refl _) zt rfl fun r_14 a1=>Zz 4 ?_
       exact met ⟨rfl,rfl,rfl,rfl,rfl,rfl,rfl,rfl,rfl,rfl,rfl,rfl,rfl,rfl,(s_ rfl (jat I a1)),trivial⟩
      refine Zz 3 ?_;exact met (zm (jof d O))
     have d:=G;simp at G
     refine Zz 11 ?_;exact hQ_
    refine Zz 2 ?_;cases T
    ·simp at B
     refine Zz 9 ?_;exact kd_
    simp at B
    exact gu_
   simp at C
   exact gu_
  simp at Q
  exact gu_
 simp at Z
 refine Zz 7 ?_;exact aa_ results157 () (be_ rfl (by unfold Con.fieldErr;simp only[Con.kind,Con.parts,Con.name,Con.lo,Con.hi];repeat (first|rfl|exact (if_pos zaa_).symm|(rw[if_pos zaH_];first|done|rfl)|(rw[if_neg zaH_])))) (.refl _) zt
end Go.Proofs.YthmjeabeoodghaaGreatDoor
