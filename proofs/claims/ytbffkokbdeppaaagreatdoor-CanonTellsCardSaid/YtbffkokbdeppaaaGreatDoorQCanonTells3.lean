/-
  Lemmas for the law CanonTells (no condition).
-/
import Derived.Test.YtbffkokbdeppaaaGreatDoorQCanonTells2
import Derived.Laws.MakeOwn
import Derived.Laws.OwnMore
import Derived.Shelf.Strings.Builder1
import Derived.Shelf.Strings.Builder2
import Derived.Shelf.Strings.OnBuilder
import Derived.Shelf.Small.Bits
import Derived.Shelf.Small.Strs
import Derived.Shelf.Small.Wraps
import Derived.Shelf.Utf8.RuneCount
import Derived.Shelf.Strconv.Itoa0
import Derived.Shelf.Strconv.Itoa1
import Derived.Shelf.LaysM
import Derived.Shelf.Strconv.Itoa2
import Derived.Shelf.Strconv.Itoa3
import Derived.Shelf.Strings.Search1
import Derived.Shelf.Strings.Search2
import Derived.Shelf.Strings.Search3
import Derived.Shelf.Strings.Cut
import Derived.Shelf.Strings.Count
import Derived.Shelf.Strings.Shaped
import Derived.Shelf.Sort.Plain
import Derived.Shelf.Strings.Prefix
import Derived.Shelf.Strings.Split
import Derived.Shelf.Strings.SplitShaped
import Derived.Shelf.Unicode.DecodeSlow
import Derived.Shelf.Slices.Reverse
import Derived.Shelf.Slices.CompactS
import Derived.Ground.Names2Prog
import Derived.Shelf.Slices.SearchI
import Derived.Shelf.Slices.Cells
import Derived.Shelf.Slices.In.SortNone
import Derived.Ground.SlgnProg
import Derived.Shelf.SlicesE.Clone
import Derived.Ground.SlsfProg
import Derived.Shelf.SlSortCmp.Insertion
import Derived.Shelf.SlSortCmp.Insertion1
import Derived.Shelf.SlSortCmp.ReverseRange1
import Derived.Test.YtbffkokbdeppaaaGreatDoorProg
set_option linter.unusedVariables false
set_option linter.unusedSimpArgs false
set_option linter.unusedSectionVars false
set_option maxHeartbeats 1000000
namespace Go.Vs
open Go Go.Sx
def bm_ (c:UInt8):Str->List Str
  | []=>[[]]
  | b::s=>if b=c then []::bm_ c s else match bm_ c s with
    | h::t=>(b::h)::t
    | []=>[[b]]
def dK_ (c:UInt8) (s:Str):Nat:=s.countP (·==c)
theorem lq_ (c:UInt8):∀ s,bm_ c s≠[]
 | []=>by simp[bm_]
 | b::s=>by
   simp only[bm_]
   split
   . simp
   . split<;>simp
theorem fd_ (c:UInt8):∀ s,(bm_ c s).length=dK_ c s+1
 | []=>by simp[bm_,dK_]
 | b::s=>by
   have d:=fd_ c s;simp only[bm_]
   by_cases h:b=c
   . simp only[h,ycn_,yal_,d,dK_,ydB_,beq_self_eq_true]
   . simp only[h,yce_]
     cases hs:bm_ c s with
     | nil=>exact absurd hs (lq_ c s)
     | cons x t =>
       rw[hs]at d;simp only[yal_]at d ⊢;simp only[dK_,ydB_,ycB_,h,yce_,ycl_]at d ⊢;exact d
theorem gD_ {c:UInt8}:∀ {s:Str},ixS c s=none->bm_ c s=[s]
 | [],_=>rfl
 | b::s,h=>by
   simp only[ixS]at h
   split at h
   . cases h
   . rename_i e
     have d:ixS c s=none:=by simpa using h
     simp only[bm_,e,yce_,gD_ d]
theorem iF_ {c:UInt8}:∀ {s:Str} {k:Nat},ixS c s=some k->bm_ c s=s.take k::bm_ c (s.drop (k+1))
 | [],k,h=>by simp[ixS]at h
 | b::s,k,h=>by
   simp only[ixS]at h
   split at h
   . rename_i d
     simp only[yak_]at h;subst h;simp[bm_,d]
   . rename_i d
     cases hx:ixS c s with
     | none=>rw[hx]at h;simp at h
     | some j =>
       rw[hx]at h;simp only[yaO_,yak_]at h;subst h;simp only[bm_,d,yce_,iF_ hx,ybo_,ycg_]
theorem xf_ {c:UInt8} {s:Str} (h:ixS c s=none):dK_ c s=0:=by
  have:=fd_ c s;rw[gD_ h]at this;simpa using this.symm
theorem qo_ {c:UInt8} {s:Str} {k:Nat} (h:ixS c s=some k):dK_ c s=dK_ c (s.drop (k+1))+1:=by
  have d:=fd_ c s;rw[iF_ h]at d;simp only[yal_,fd_]at d;omega
theorem BP_ (c:UInt8) (s:Str):dK_ c s<=s.length:=List.countP_le_length
def bd_ (s:Str):Bool :=
  if s=[42]\/s=[33] then true
  else if 2<=s.length/\s[0]? = some 123/\s[s.length - 1]? = some 125 then aV_ ((s.drop 1).take (s.length - 1 - 1))
  else if 3<=s.length/\s[0]? = some 60/\s[s.length - 1]? = some 62 then true
  else aV_ s
def ct_ (s:Str):Bool:=decide ((bm_ 46 s).length<=4)&&!((bm_ 46 s).any λr=>!aV_ r)
def bY_ (used:Bool) (s:Str) (q:Str->Bool):Bool:=(used&&q s)||(!used&&(s==[]))
def Pc.valid (p:Pc):Bool :=
  if p.kind<1\/9<p.kind\/p.frm < -1\/1024<=p.frm then false
  else if (nus p.kind).numbers=true/\(p.lo < -1099511627776\/p.hi<p.lo\/1099511627776<p.hi) then false
  else if (nus p.kind).numbers=false/\(p.lo≠0\/p.hi≠0) then false
  else ((((bY_ (nus p.kind).a p.a bd_&&bY_ (nus p.kind).b p.b bd_)&&bY_ (nus p.kind).c p.c bd_)&&bY_ (nus p.kind).r p.r (if (nus p.kind).numbers then aV_ else ct_))&&bY_ (nus p.kind).s p.s ct_)&&bY_ (nus p.kind).t p.t ct_
structure Pc.sm (p:Pc):Prop where
  a:p.a.length<=17592186044414
  b:p.b.length<=17592186044414
  c:p.c.length<=17592186044414
  r:p.r.length<=17592186044414
  s:p.s.length<=17592186044414
  t:p.t.length<=17592186044414
def cs_ (l:List Pc):Int:=if 16384<l.length then 2 else if l.all Pc.valid then 0 else 1
end Go.Vs
namespace Go.Sx
open Go
section
variable {H r r' d t:Hp} {b:Nat×Obj} {O:Hp}
theorem g_:H.Perm ([]++H):=.refl _
theorem d_:(b::r).Perm ([b]++r):=.refl _
theorem z_:(O++r).Perm (O++r):=.refl _
theorem c_ (h:H.Perm (t++r)):(b::H).Perm (t++(b::r)):=(h.cons b).trans ybN_.symm
theorem j_ (h:H.Perm (t++r)):(O++H).Perm (t++(O++r)):=(ybJ_ O h).trans (by
  rw[<-yar_,<-yar_];exact ycH_ r yaB_)
theorem l_ (e:H.Perm ([b]++r)) (h:r.Perm (d++r')):H.Perm ((b::d)++r'):=e.trans (h.cons b)
theorem F_ (e:H.Perm (O++r)) (h:r.Perm (d++r')):H.Perm ((O++d)++r'):=by
  rw[yar_];exact e.trans (ybJ_ O h)
theorem T_:H.Perm (H++[]):=by rw[yaw_]
end
theorem nO_:∀ xs:List (List UInt8),xs.flatMap al_=xs.map str
  | []=>rfl
  | x::xs=>by simp only[yaG_,nO_ xs,yay_];rfl
def fn_ (n:Int):List Value:=[.int .i64 n]
theorem eo_ (n:Int):(fn_ n).length=1:=rfl
section
variable {P:Program} {N:Nf} {v0:Vw} {H0:Hp} {R:Exit->Act->World->Prop} {K:List Kt} {fr:Fr} {H:Hp} {Γ:List Fct}
theorem bC_ {k:Act->World->Prop} {b:Nat} {cs:List Value} {T:TypeId} {fz:Nat×Nat} {F:Hp} (xs:List Value) (q:H.Perm ([(b,.cells cs.toArray T fz)]++F)) (A:cs=xs) (h:Ok N v0 H0 k fr F (ac_ (some ⟨b,0,none⟩) xs::Γ)):Ok N v0 H0 k fr H Γ :=
  eO_ (ac_ (some ⟨b,0,none⟩) xs) q (λv y m _=>.inr ⟨b,0,cs.toArray,T,fz,rfl,y,m,λj x e=>by rw[ybw_,A];simpa using e⟩) h
theorem satNil {v:Vw} (h:v.sat H):v.sat []:=⟨(λ_ h=>by cases h),zaj_,h.lt⟩
variable {ops:Array Oper} {l:List Oper} {d:Nat} {ty:TypeId} {ps:String} {af:Array Edge}
theorem uT_ {x y:Operand} {t q:TypeId} {m n:Int} (A:Fr.ev fr x=some (.int .i64 m)) (h:Fr.ev fr y=some (.int .i64 n)) :
    Yld P N fr H Γ (.call ⟨.builtin .min,#[x,y],#[t,q]⟩) ty (.int .i64 (if n<m then n else m)) :=
  λa v e B _ _ _ _=>by simp[execOp,resolve,invoke,builtin,Builtin.min_,Builtin.min2,e.ev A,e.ev h]
theorem Ah_ {x y:Operand} {t q:TypeId} {m n:Int} (A:Fr.ev fr x=some (.int .i64 m)) (h:Fr.ev fr y=some (.int .i64 n)) :
    Yld P N fr H Γ (.call ⟨.builtin .max,#[x,y],#[t,q]⟩) ty (.int .i64 (if m<n then n else m)) :=
  λa v e B _ _ _ _=>by simp[execOp,resolve,invoke,builtin,Builtin.max_,Builtin.max2,e.ev A,e.ev h]
theorem Ag_ {t A:TypeId} {x y:Operand} {m n:Int} (B:Fr.ev fr x=some (.int .i64 m)) (q:Fr.ev fr y=some (.int .i64 n)) (C:n≠0) (h:IntKind.wrap .i64 (m.tdiv n)=m.tdiv n) :
    Yld P N fr H Γ (.binOp .quo t x y A) ty (.int .i64 (m.tdiv n)) :=
  λa v e _ _ _ _ _=>by simp[execOp,e.ev B,e.ev q,eqGuard,binOp,Op.intDiv,C,h]
theorem Bi_ (z:Value) (n:Nat):madeCells #[z] (n*1)=(List.replicate n z).toArray:=by
 unfold madeCells
 apply Array.ext
 .simp
 intro i e h;simp at e h ⊢
 have:i%1=0:=Nat.mod_one i;simp[this]
theorem wy_ {t e:TypeId} {x y:Operand} {n by':Nat} {z:Value} (C:P.underlying t=some (.slice e)) (hi:(P.info? e).map (λi=>(i.zero,i.size,i.bytes))=some (some z,1,by')) (I:z.cells=#[z]) (E:Fr.ev fr x=some (.int .i64 (n:Int))) (B:Fr.ev fr y=some (.int .i64 (n:Int)))
    (J:by'*n<=281474976710656) (G:n<=9223372036854775807) (F:Nat.blt d N.n=true)
    (hk:∀ b,Ops P R N v0 H0 ops l K ((d,.slice (some ⟨b,0,none⟩) n n)::fr) ((b,.cells (List.replicate n z).toArray e (0,0))::H) Γ):Ops P R N v0 H0 ops (⟨some d,.makeSlice t x y,ty,ps,af,none⟩::l) K fr H Γ:=by
  refine gE_ (x:=λb=>.slice (some ⟨b,0,none⟩) n n) F (λa v A _ _=>?_) hk;cases h:P.info? e with
  | none=>rw[h]at hi;cases hi
  | some i =>
    rw[h]at hi;simp only[yaO_,yak_,ybV_]at hi
    have m:(i.bytes:Int)*(n:Int)<=281474976710656:=by
      rw[hi.2.2];have h:((by'*n:Nat):Int)<=281474976710656:=by omega
      rwa [Int.natCast_mul]at h
    have q:=run_make (P:=P) v.w t e i z C h hi.1 .i64 .i64 (n:Int) (n:Int) zaa_ (Int.le_refl _) m zaa_;rw[hi.2.1,I,ycK_,Bi_]at q;simp only[execOp,A.ev E,A.ev B];simp[q]
theorem ol_ {t:TypeId} {x y:Operand} {b off:Nat} (i:Nat) {h m:List Value} {z u:Value} {T:TypeId} (C:∀ w,(sizeOf t).run P w=.ok 1 w)
    (E:Fr.ev fr x=some (.pointer (some ⟨b,off,none⟩))) (B:Fr.ev fr y=some u) (hi:H[i]? = some (b,.cells (h++z::m).toArray T (0,0))) (A:off=h.length) (v:u.cells=#[u]) (q:u.oneCell'=true)
    (hk:Ops P R N v0 H0 ops l K fr (H.set i (b,.cells (h++u::m).toArray T (0,0))) Γ) :
    Ops P R N v0 H0 ops (⟨none,.store t x y,ty,ps,af,none⟩::l) K fr H Γ:=by
  subst A;refine n_ i C E B hi (by rw[v];rfl) zaj_ (by rw[v];simpa using q) ?_
  have e:(((h++z::m).toArray.toList.take h.length++u.cells.toList++(h++z::m).toArray.toList.drop (h.length+1)).toArray)=(h++u::m).toArray:=by
    rw[v]
    have F:(h++z::m).drop (h.length+1)=m:=by
      rw[<-List.drop_drop];simp
    simp[F]
  rw[e];exact hk
theorem nW_ {b cap n:Nat}:sad (some ⟨b,0,none⟩) cap 0 n=some ⟨b,0,none⟩:=by unfold sad;split<;>simp[cp_]
end
theorem wc_ {cs us e:List Value} {k:Nat} (off:Nat) (h:∀ j y,us[j]? = some y->cs[k+j]? = some y) (m:∀ (j:Nat) y,e[j]? = some y->us[off+j]? = some y):∀ j y,e[j]? = some y->cs[k+off+j]? = some y:=λj y q=>by
  rw[ycG_];exact h _ _ (m j y q)
end Go.Sx
namespace Go.Sx
open Go
section
variable {P:Program} {N:Nf} {v0:Vw} {H0:Hp} {R:Exit->Act->World->Prop} {K:List Kt} {fr:Fr} {H:Hp} {Γ:List Fct}
variable {ops:Array Oper} {l:List Oper} {d:Nat} {ty:TypeId} {ps:String} {af:Array Edge}
theorem eD_ {x y:Operand} {t e:TypeId} {sz by' n m c:Nat} {sv:Value} {xs news:List Value} {Hr F:Hp} {ad:Ao} (M:Elt P t e sz by') (q:at_ e sz sv n xs Hr)
    (U:Fr.ev fr x=some sv) (S:Fr.ev fr y=some (.slice ad m c)) (Q:ad=none->c=0) (Y:m<=c) (J:H.Perm (Hr++F)) (hl:news.length=m*sz) (A:∀ v,v.sat H->af_ Γ v->bG_ v ad news) (I:∀ u∈news,u.oneCell'=true)
    (G:n+m<=maxLen) (W:(n+m)*by'<=140737488355328) (V:Nat.blt d N.n=true)
    (hk:∀ sv' Hr',at_ e sz sv' (n+m) (xs++news) Hr'->Ops P R N v0 H0 ops l K ((d,sv')::fr) (Hr'++F) Γ) :
    Ops P R N v0 H0 ops (⟨some d,.call ⟨.builtin .append,#[x,y],#[t,t]⟩,ty,ps,af,none⟩::l) K fr H Γ:=by
  cases ad with
  | none =>
    obtain rfl:=Q rfl;obtain rfl:m=0:=by omega
    obtain rfl:news=[]:=yau_ (by simpa using hl);refine cy_ rfl λa v B C L E=>?_;obtain⟨i,z,hi,Q,es,eb,ez⟩:=M.info;have g:=C.perm J;have Z:=q.owns g;have hr:=run_append_owned_none (P:=P) (w:=v.w) 0 t ty e i sz M.und hi sv n xs Z;unfold Oper.wp execOp;simp only[resolve,invoke,builtin,Sem.run_bind,Sem.run_pure,Result.andThen_ok,ybt_,yay_,ybz_,B.ev U,B.ev S,hr];have T:v.to H v (Hr++F):=(Vw.to.refl v (Hr++F)).permL J.symm;exact hk sv Hr (by simpa using q) _ v (B.put V) g (L.trans T) E
  | some a0 =>
    refine aj_ M q U S J hl (λv C E j u O=>?_) I G W V hk;rcases A v C E with h|⟨b,off,arr,T,fz,B,_,L,X⟩
    . rw[h]at O;simp at O
    . rw[yak_]at B
      subst B;have:=X j u O;rw[cp_];simp[World.cell?,L,this]
theorem pR_ {t e:TypeId} {sz:Nat} (h:∀ w,(underlying t).run P w=.ok (.slice e) w) (m:∀ w,(sizeOf e).run P w=.ok sz w) (q:Nat.blt d N.n=true)
    (hk:∀ b,Ops P R N v0 H0 ops l K ((d,.slice (some ⟨b,0,none⟩) 0 0)::fr) ((b,.cells #[] e (0,0))::H) Γ):Ops P R N v0 H0 ops (⟨some d,.buildSlice t 0 #[],ty,ps,af,none⟩::l) K fr H Γ :=
  gE_ (x:=λb=>.slice (some ⟨b,0,none⟩) 0 0) q (λa v B y A=>by
    simp only[execOp,Instr.buildSlice,Sem.run_bind,h,Result.andThen_ok,m,ybt_];rw[yag_ zaa_,yao_ zaa_,ydl_,show Array.range 0=#[] by simp];simp only[Sem.run_bind,Sem.run_pure,Result.andThen_ok,ybz_,ybt_,ycF_,Instr.fill];rfl) hk
theorem aW_ {k:Act->World->Prop} {e:TypeId} {sz n:Nat} {sv:Value} {xs:List Value} {Hr F:Hp} (v:at_ e sz sv n xs Hr) (x:H.Perm (Hr++F))
    (h:∀ ad cap,sv=.slice ad n cap->n<=cap->cap<=maxLen->(ad=none->cap=0)->Ok N v0 H0 k fr F (ac_ ad xs::Γ)):Ok N v0 H0 k fr H Γ:=by
  refine gj_ v x λad cap m B y=>h ad cap m B y λA=>?_;rcases v.2 with⟨q,_,_⟩|⟨g,c,cur,q,_⟩
  . rw[q]at m
    simp only[Value.slice.injEq]at m;exact m.2.2.symm
  . rw[q,A]at m
    simp at m
end
end Go.Sx
namespace Go.Sx
open Go
section
variable {P:Program} {N:Nf} {fr:Fr} {H:Hp} {Γ:List Fct} {ty:TypeId} {e:TypeId} {sz n:Nat} {sv:Value} {xs:List Value} {Hr F:Hp}
theorem dk_ {O:Hp}:List.Perm (O++[]) O:=by rw[yaw_]
theorem aU_ {O Q:Hp}:List.Perm (Q++O) (O++Q):=yaB_
theorem B_ {O:Hp} {b:Nat×Obj}:List.Perm (b::O) (O++[b]):=yaB_ (l₁:=[b])
theorem vk_ {H:Hp}:List.Perm ([]++H) H:=.refl _
def svB:Value->Nat
  | .slice (some a) _ _=>a.block
  | _=>0
theorem cv_ {x:Operand} {t v:TypeId} (h:at_ e sz sv n xs Hr) (m:∀ w,(underlying t).run P w=.ok (.slice v) w) (q:Fr.ev fr x=some sv):Yld P N fr H Γ (.call ⟨.builtin .len,#[x],#[t]⟩) ty (.int .i64 (n:Int)):=by
 rcases h.2 with⟨rfl,rfl,_⟩|⟨g,cap,cur,rfl,_⟩
 .exact dG_ m q
 exact dG_ m q
theorem be_ {x y:Operand} {t m:TypeId} {k:IntKind} {i:Int} (h:at_ e sz sv n xs Hr) (v:∀ w,(underlying t).run P w=.ok (.slice m) w) (B:∀ w,(sizeOf m).run P w=.ok sz w) (C:Fr.ev fr x=some sv) (q:Fr.ev fr y=some (.int k i)) (A:0<=i) (hl:i<n) :
    Yld P N fr H Γ (.indexAddr t x y) ty (.pointer (some ⟨svB sv,i.toNat*sz,none⟩)):=by
  rcases h.2 with⟨_,E,_⟩|⟨g,cap,cur,rfl,_⟩
  . omega
  . have:=fb_ (P:=P) (N:=N) (H:=H) (Γ:=Γ) (ty:=ty) v B C q A hl
    rw[ybw_]at this;exact this
theorem cS_ {x:Operand} {t:TypeId} {k m:Nat} {us:List Value} (h:at_ e sz sv n xs Hr) (E:H.Perm (Hr++F)) (Q:∀ w,(isAgg t).run P w=.ok true w) (I:∀ w,(sizeOf t).run P w=.ok m w) (J:Fr.ev fr x=some (.pointer (some ⟨svB sv,k,none⟩)))
    (L:us.length=m) (T:0<m) (C:∀ j y,us[j]? = some y->xs[k+j]? = some y):Yld P N fr H Γ (.load t x) ty (.agg us.toArray):=by
  rcases h.2 with⟨_,A,_⟩|⟨g,cap,cur,rfl,rfl,U,V,W,M⟩
  . subst A
    have S:=h.1;have:xs=[]:=yau_ (by simpa using S);subst this;have:=C 0 us[0] (yaa_ zaa_);simp at this
  . refine gT_ J λv A _=>dI_ Q I L λj y O=>?_
    have G:=((A.perm E).own _ (yam_ _ yav_)).1;have q:=C j y O;rw[<-M,yaK_]at q
    split at q
    . have B:cur[k+j]? = some y:=by simpa using q
      simp only[svB,World.cell?,G,ycZ_,ybn_,yce_];exact B
    . cases q
end
end Go.Sx
namespace Go.Sx
open Go
section
variable {P:Program} {N:Nf} {fr:Fr} {H:Hp} {Γ:List Fct} {ty:TypeId} {e:TypeId} {sz n:Nat} {sv:Value} {xs:List Value} {Hr F:Hp}
theorem cw_ {x:Operand} {t:TypeId} {k:Nat} {u:Value} (h:at_ e sz sv n xs Hr) (A:H.Perm (Hr++F)) (G:∀ w,(isAgg t).run P w=.ok false w) (C:Fr.ev fr x=some (.pointer (some ⟨svB sv,k,none⟩)))
    (m:xs[k]? = some u):Yld P N fr H Γ (.load t x) ty u:=by
  rcases h.2 with⟨_,q,_⟩|⟨g,cap,cur,rfl,rfl,I,J,L,E⟩
  . subst q
    have:xs=[]:=yau_ (by simpa using h.1);subst this;simp at m
  . refine gT_ C λv q _=>cI_ G ?_
    have B:=((q.perm A).own _ (yam_ _ yav_)).1;rw[<-E,yaK_]at m
    split at m
    . have y:cur[k]? = some u:=by simpa using m
      simp only[svB,World.cell?,B,ycZ_,ybn_,yce_];exact y
    . cases m
theorem ek_ (h:at_ e sz sv n xs Hr):sv.cells=#[sv]/\sv.oneCell'=true:=by
  rcases h.2 with⟨rfl,_⟩|⟨g,cap,cur,rfl,_⟩<;>exact⟨rfl,rfl⟩
theorem cn_ {v0:Vw} {H0:Hp} {R:Exit->Act->World->Prop} {K:List Kt} {ops:Array Oper} {l:List Oper} {ps:String} {af:Array Edge} {t:TypeId} {x y:Operand} {b off:Nat} (i:Nat) {cur:Array Value} {T:TypeId} (h:at_ e sz sv n xs Hr) (v:∀ w,(sizeOf t).run P w=.ok 1 w)
    (A:Fr.ev fr x=some (.pointer (some ⟨b,off,none⟩))) (q:Fr.ev fr y=some sv) (hi:H[i]? = some (b,.cells cur T (0,0))) (m:Nat.ble (off+1) cur.size=true)
    (hk:Ops P R N v0 H0 ops l K fr (H.set i (b,.cells (cur.toList.take off++[sv]++cur.toList.drop (off+1)).toArray T (0,0))) Γ):Ops P R N v0 H0 ops (⟨none,.store t x y,ty,ps,af,none⟩::l) K fr H Γ :=
  n_ i v A q hi (by rw[(ek_ h).1];rfl) m (by rw[(ek_ h).1];simp[(ek_ h).2]) (by rw[(ek_ h).1];exact hk)
theorem nz_ {x y:Operand} {t q:TypeId} {m k:Int} (v:Fr.ev fr x=some (.int .i64 m)) (h:Fr.ev fr y=some (.int .i64 k)):Yld P N fr H Γ (.call ⟨.builtin .max,#[x,y],#[t,q]⟩) ty (.int .i64 (max m k)):=by
  have e:(if m<k then k else m)=max m k:=by split<;>omega
  exact e▸Ah_ v h
theorem kx_ {x y:Operand} {t q:TypeId} {m k:Int} (v:Fr.ev fr x=some (.int .i64 m)) (h:Fr.ev fr y=some (.int .i64 k)):Yld P N fr H Γ (.call ⟨.builtin .min,#[x,y],#[t,q]⟩) ty (.int .i64 (min m k)):=by
  have e:(if k<m then k else m)=min m k:=by split<;>omega
  exact e▸uT_ v h
theorem fj_ {b:Nat} {cs:List Value} {T:TypeId} {fz:Nat×Nat} (h:H.Perm ([(b,.cells cs.toArray T fz)]++F)):∀ v:Vw,v.sat H->af_ Γ v->∀ j u,cs[j]? = some u->v.w.cell? ((⟨b,0,none⟩:Addr).add j)=some u:=by
  intro v x q j u m;exact aL_ (Γ:=Γ) 0 rfl v (x.perm h) q j u m
theorem xx_ {t A:TypeId} {x y:Operand} {m n:Bool} (B:P.underlying t=some .bool) (C:Fr.ev fr x=some (.bool m)) (q:Fr.ev fr y=some (.bool n)):Yld P N fr H Γ (.binOp .neq t x y A) ty (.bool (m != n)) :=
  λa v h _ _ _ _ _=>by simp[execOp,h.ev C,h.ev q,eqGuard,binOp,run_equal_bool v.w t m n B,bne]
theorem kz_ {t A:TypeId} {x y:Operand} {m n:Bool} (B:P.underlying t=some .bool) (C:Fr.ev fr x=some (.bool m)) (q:Fr.ev fr y=some (.bool n)):Yld P N fr H Γ (.binOp .eql t x y A) ty (.bool (m==n)) :=
  λa v h _ _ _ _ _=>by simp[execOp,h.ev C,h.ev q,eqGuard,binOp,run_equal_bool v.w t m n B]
theorem az_ {α:Type} {f:α->List Value} (m:∀ x,(f x).all Value.oneCell'=true) {l:List α} {u:Value} (h:u∈l.flatMap f):u.oneCell'=true:=by
  obtain⟨y,_,q⟩:=yas_.1 h;exact yaW_.1 (m y) u q
end
end Go.Sx
namespace Go.Vs
open Go Go.Sx
structure RevI (L M:List Int) (k:Nat):Prop where
  len:M.length=L.length
  k2:2*k<=L.length+1
  get:∀ i:Nat,i<L.length->M[i]? = if i<k\/L.length<=i+k then L[L.length - 1 - i]? else L[i]?
theorem RevI.zero (L:List Int):RevI L L 0:=⟨rfl,by omega,λi hi=>by rw[yag_ zaa_]⟩
theorem RevI.step {L M:List Int} {k:Nat} {a b:Int} (h:RevI L M k) (hk:(k:Int)<(L.length:Int) - 1 - (k:Int)) (x:M[L.length - 1 - k]? = some a) (y:M[k]? = some b):RevI L ((M.set k a).set (L.length - 1 - k) b) (k+1):=by
 have hl:=h.len;refine⟨by simp[hl],by omega,λi hi=>?_⟩;have e:=h.get (L.length - 1 - k) zaa_;have v:=h.get k zaa_;rw[yag_ zaa_]at e v;rw[ybZ_,ybZ_,ybs_]
 by_cases m:L.length - 1 - k=i
 .rw[yao_ m,yao_ zaa_,yao_ zaa_]
  rw[<-y,v];congr 1;omega
 rw[yag_ m]
 by_cases d:k=i
 .rw[yao_ d,yao_ zaa_,yao_ zaa_,<-x,e,d]
 rw[yag_ d,h.get i hi]
 by_cases q:i<k\/L.length<=i+k
 .rw[yao_ q,yao_ zaa_]
 rw[yag_ q,yag_ zaa_]
theorem RevI.done {L M:List Int} {k:Nat} (h:RevI L M k) (hk:¬ (k:Int)<(L.length:Int) - 1 - (k:Int)):M=L.reverse:=by
 apply ybD_
 intro i
 by_cases hi:i<L.length
 .rw[h.get i hi,List.getElem?_reverse hi]
  by_cases e:i<k\/L.length<=i+k
  .rw[yao_ e]
  rw[yag_ e];congr 1;omega
 rw[ybv_ (by rw[h.len];omega),ybv_ zan_]
def pi_ (a c:Str):Pc:=⟨1,a,[],c,[],[],[],0,0,0⟩
def cM_ (frm:Int):List Str->List Pc->List Pc
  | [],l=>l
  | a::r,l=>cM_ frm r (ins frm l (pi_ a [42]))
theorem fV_ (frm:Int):∀ (r:List Str) (l:List Pc),(cM_ frm r l).length<=l.length+r.length
  | [],l=>by simp[cM_]
  | a::r,l=>by
    have d:=fV_ frm r (ins frm l (pi_ a [42]));have e:=cj_ frm l (pi_ a [42]);simp only[cM_,yal_];omega
theorem kR_ (frm:Int):∀ (xs ys:List Str) (l:List Pc),cM_ frm (xs++ys) l=cM_ frm ys (cM_ frm xs l)
  | [],_,_=>rfl
  | x::xs,ys,l=>by simp only[yaJ_,cM_];exact kR_ frm xs ys _
theorem ug_ (frm:Int) {xs:List Str} {a:Str} {i:Nat} (d:xs[i]? = some a) (l:List Pc):cM_ frm (xs.take (i+1)) l=ins frm (cM_ frm (xs.take i) l) (pi_ a [42]):=by
  rw[yaz_,d,ybd_,kR_];rfl
def bp_ (s:Str):Str:=[123]++s++[125]
def Ax.disj (x:Ax):Str:=[60]++x.left.operandN++[32,97,110,100,32]++x.right.operandN++[62]
def Ax.doms (x:Ax):Str:=[60,115,111,109,101,32]++x.role++[32,101,118,101,114,121,116,104,105,110,103,62]
def Ax.goalP (x:Ax):List Pc×List Fc×Int :=
  if x.check≠0 then ([],[],x.check)
  else if x.kind=1 then (x.right.leftP (-1) (x.left.rightP (-1) (cM_ (-1) [x.left.atom,x.right.atom] [])),[⟨1,x.left.atom,x.right.atom,[],0,0⟩],0)
  else if x.kind=2 then (x.left.leftP (-1) (x.right.rightP (-1) (x.right.leftP (-1) (x.left.rightP (-1) (cM_ (-1) [x.left.atom,x.right.atom] [])))),[⟨1,x.left.atom,x.right.atom,[],0,0⟩,⟨1,x.right.atom,x.left.atom,[],0,0⟩],0)
  else if x.kind=3 then (x.right.rightP (-1) (ins (-1) (x.left.rightP (-1) (ins (-1) (cM_ (-1) [x.disj,[33]] []) (pi_ x.disj x.left.atom))) (pi_ x.disj x.right.atom)),[⟨1,x.disj,[33],[],0,0⟩],0)
  else if x.kind=4 then (x.right.leftP (-1) (ins (-1) (cM_ (-1) [x.doms,x.right.atom] []) ⟨3,x.doms,[],[42],x.role,[],[],0,0,0⟩),[⟨1,x.doms,x.right.atom,[],0,0⟩],0)
  else if x.kind=8 then (x.right.leftP (-1) (cM_ (-1) [bp_ x.a,x.right.atom] []),[⟨1,bp_ x.a,x.right.atom,[],0,0⟩],0)
  else if x.kind=9 then (cM_ (-1) [bp_ x.a,bp_ x.b] [],[⟨2,bp_ x.a,bp_ x.b,x.role,0,0⟩],0)
  else ([],[],22)
theorem Con.operandN_len {c:Con} (d:c.ok):c.operandN.length<=6402:=by
  have:=Con.textN_len d;unfold operandN
  split<;>simp<;>omega
end Go.Vs
namespace Go.Proofs
open Go.Shelf
def Tryz.lays156_ren:Go.Shelf.Ren:=⟨fun|156=>369|165=>387|166=>388|169=>389|240=>397|241=>398|276=>403|277=>404|n=>n,fun|31=>25|9=>9|3=>3|4=>4|0=>0|20=>20|72=>410|76=>413|70=>408|37=>355|75=>412|127=>420|164=>425|5=>5|80=>415|n=>n,fun|n=>n⟩
theorem Tryz.lays156:Go.Proofs.Lays.n156 Tryz.prog Tryz.lays156_ren:={
  mixed:=by kernel_rfl
  f156:=Tryz.func369.trans (yae_ some zac_)
  f165:=Tryz.func387.trans (yae_ some zac_)
  f166:=Tryz.func388.trans (yae_ some zac_)
  f169:=Tryz.func389.trans (yae_ some zac_)
  f240:=Tryz.func397.trans (yae_ some zac_)
  f241:=Tryz.func398.trans (yae_ some zac_)
  f276:=Tryz.func403.trans (yae_ some zac_)
  f277:=Tryz.func404.trans (yae_ some zac_)
  t0:=Tryz.underlying0
  a0:=Tryz.isAgg0
  z0:=Tryz.sizeOf0
  v0:=Tryz.zeroValue0
  t3:=Tryz.underlying3
  a3:=Tryz.isAgg3
  z3:=Tryz.sizeOf3
  v3:=Tryz.zeroValue3
  t4:=Tryz.underlying4
  a4:=Tryz.isAgg4
  z4:=Tryz.sizeOf4
  v4:=Tryz.zeroValue4
  t9:=Tryz.underlying9
  a9:=Tryz.isAgg9
  z9:=Tryz.sizeOf9
  v9:=Tryz.zeroValue9
  t20:=Tryz.underlying20
  a20:=Tryz.isAgg20
  z20:=Tryz.sizeOf20
  v20:=Tryz.zeroValue20
  t31:=Tryz.underlying25
  a31:=Tryz.isAgg25
  z31:=Tryz.sizeOf25
  v31:=Tryz.zeroValue25
  t37:=Tryz.underlying355
  a37:=Tryz.isAgg355
  z37:=Tryz.sizeOf355
  v37:=Tryz.zeroValue355
  t70:=Tryz.underlying408
  a70:=Tryz.isAgg408
  z70:=Tryz.sizeOf408
  v70:=Tryz.zeroValue408
  t72:=Tryz.underlying410
  a72:=Tryz.isAgg410
  z72:=Tryz.sizeOf410
  v72:=Tryz.zeroValue410
  t75:=Tryz.underlying412
  a75:=Tryz.isAgg412
  z75:=Tryz.sizeOf412
  v75:=Tryz.zeroValue412
  t76:=Tryz.underlying413
  a76:=Tryz.isAgg413
  z76:=Tryz.sizeOf413
  v76:=Tryz.zeroValue413
  t127:=Tryz.underlying420
  a127:=Tryz.isAgg420
  z127:=Tryz.sizeOf420
  v127:=Tryz.zeroValue420
  t164:=Tryz.underlying425
  a164:=Tryz.isAgg425
  z164:=Tryz.sizeOf425
  v164:=Tryz.zeroValue425 }
theorem Tryz.Builder_Extra_156:Builder.Extra Tryz.prog Tryz.lays156_ren:={
  sizeBuilder:=by kernel_rfl
  liesBuilder:=by kernel_rfl
  t5:=Tryz.underlying5
  a5:=Tryz.isAgg5
  z5:=Tryz.sizeOf5
  v5:=Tryz.zeroValue5
  infoByte:=by kernel_rfl
  cellsByte:=by kernel_rfl
  sizeByte:=by kernel_rfl
  neB5:=by decide }
open Go.RowKit in
theorem Tryz.strings_Join (bk o c:Nat) (xs:List ByteArray) (d:ByteArray) (w:World) (h:∀ (j:Nat) x,xs[j]? = some x->w.cell? ⟨bk,o+j,none⟩=some (.string x)) (v:bk<w.heap.size) (y:xs.length<=140737488355328) (m:xs.length<=c) (q:(Lib.join (xs.map (·.data.toList)) d.data.toList).length<=140737488355328) :
    Calls Tryz.prog 369 #[.slice (some ⟨bk,o,none⟩) xs.length c,.string d] w λe w'=>e=.returned (.string ⟨(Lib.join (xs.map (·.data.toList)) d.data.toList).toArray⟩)/\Below w.heap.size w w':=Any.strings_Join Tryz.lays156 Tryz.Builder_Extra_156 bk o c xs d w h v y m q
def Tryz.lays122_ren:Go.Shelf.Ren:=⟨fun|122=>125|215=>206|n=>n,fun|3=>3|4=>4|n=>n,fun|n=>n⟩
theorem Tryz.lays122:Go.Proofs.Lays.n122 Tryz.prog Tryz.lays122_ren:={
  mixed:=by kernel_rfl
  f122:=Tryz.func125.trans (yae_ some zac_)
  f215:=Tryz.func206.trans (yae_ some zac_)
  t3:=Tryz.underlying3
  a3:=Tryz.isAgg3
  z3:=Tryz.sizeOf3
  v3:=Tryz.zeroValue3
  t4:=Tryz.underlying4
  a4:=Tryz.isAgg4
  z4:=Tryz.sizeOf4
  v4:=Tryz.zeroValue4 }
open Go.RowKit in
theorem Tryz.cmp_Compare_int (x y:Int) (w:World) :
    Calls Tryz.prog 125 #[.int .i64 x,.int .i64 y] w λe w'=>e=.returned (.int .i64 (Lib.compareInt x y))/\w'=w:=Any.cmp_Compare_int Tryz.lays122 x y w
def Tryz.laysM171_ren:Go.Shelf.Ren:=⟨fun|171=>381|243=>394|246=>402|283=>406|284=>407|285=>408|286=>409|129=>268|317=>410|318=>411|319=>412|320=>413|337=>414|338=>415|n=>n,fun|3=>3|9=>9|2=>2|4=>4|171=>428|0=>0|53=>308|37=>355|5=>5|173=>430|212=>437|51=>306|20=>20|213=>438|46=>231|232=>439|233=>440|n=>n,fun|17=>6|18=>7|19=>8|n=>n⟩
theorem Tryz.laysM171:Go.Proofs.LaysM.n171 Tryz.prog Tryz.laysM171_ren:={
  mixed:=by kernel_rfl
  f129:=Tryz.func268.trans (yae_ some zac_)
  f171:=Tryz.func381.trans (yae_ some zac_)
  f243:=Tryz.func394.trans (yae_ some zac_)
  f246:=Tryz.func402.trans (yae_ some zac_)
  f283:=Tryz.func406.trans (yae_ some zac_)
  f284:=Tryz.func407.trans (yae_ some zac_)
  f285:=Tryz.func408.trans (yae_ some zac_)
  f286:=Tryz.func409.trans (yae_ some zac_)
  f317:=Tryz.func410.trans (yae_ some zac_)
  f318:=Tryz.func411.trans (yae_ some zac_)
  f319:=Tryz.func412.trans (yae_ some zac_)
  f320:=Tryz.func413.trans (yae_ some zac_)
  f337:=Tryz.func414.trans (yae_ some zac_)
  f338:=Tryz.func415.trans (yae_ some zac_)
  t0:=Tryz.underlying0
  a0:=Tryz.isAgg0
  z0:=Tryz.sizeOf0
  v0:=Tryz.zeroValue0
  t2:=Tryz.underlying2
  a2:=Tryz.isAgg2
  z2:=Tryz.sizeOf2
  v2:=Tryz.zeroValue2
  t3:=Tryz.underlying3
  a3:=Tryz.isAgg3
  z3:=Tryz.sizeOf3
  v3:=Tryz.zeroValue3
  t4:=Tryz.underlying4
  a4:=Tryz.isAgg4
  z4:=Tryz.sizeOf4
  v4:=Tryz.zeroValue4
  t5:=Tryz.underlying5
  a5:=Tryz.isAgg5
  z5:=Tryz.sizeOf5
  v5:=Tryz.zeroValue5
  t9:=Tryz.underlying9
  a9:=Tryz.isAgg9
  z9:=Tryz.sizeOf9
  v9:=Tryz.zeroValue9
  t20:=Tryz.underlying20
  a20:=Tryz.isAgg20
  z20:=Tryz.sizeOf20
  v20:=Tryz.zeroValue20
  t37:=Tryz.underlying355
  a37:=Tryz.isAgg355
  z37:=Tryz.sizeOf355
  v37:=Tryz.zeroValue355
  t46:=Tryz.underlying231
  a46:=Tryz.isAgg231
  z46:=Tryz.sizeOf231
  v46:=Tryz.zeroValue231
  t51:=Tryz.underlying306
  a51:=Tryz.isAgg306
  z51:=Tryz.sizeOf306
  v51:=Tryz.zeroValue306
  t53:=Tryz.underlying308
  a53:=Tryz.isAgg308
  z53:=Tryz.sizeOf308
  v53:=Tryz.zeroValue308
  t171:=Tryz.underlying428
  a171:=Tryz.isAgg428
  z171:=Tryz.sizeOf428
  v171:=Tryz.zeroValue428
  t173:=Tryz.underlying430
  a173:=Tryz.isAgg430
  z173:=Tryz.sizeOf430
  v173:=Tryz.zeroValue430
  t212:=Tryz.underlying437
  a212:=Tryz.isAgg437
  z212:=Tryz.sizeOf437
  v212:=Tryz.zeroValue437
  t213:=Tryz.underlying438
  a213:=Tryz.isAgg438
  z213:=Tryz.sizeOf438
  t232:=Tryz.underlying439
  a232:=Tryz.isAgg439
  z232:=Tryz.sizeOf439
  v232:=Tryz.zeroValue439
  t233:=Tryz.underlying440
  a233:=Tryz.isAgg440
  z233:=Tryz.sizeOf440
  v233:=Tryz.zeroValue440
  g17:=by kernel_rfl
  g18:=by kernel_rfl
  g19:=by kernel_rfl
  i0:=by kernel_rfl
  i2:=by kernel_rfl
  i3:=by kernel_rfl
  i4:=by kernel_rfl
  i5:=by kernel_rfl
  i9:=by kernel_rfl
  i20:=by kernel_rfl
  i37:=by kernel_rfl
  i46:=by kernel_rfl
  i51:=by kernel_rfl
  i53:=by kernel_rfl
  i171:=by kernel_rfl
  i173:=by kernel_rfl
  i212:=by kernel_rfl
  i232:=by kernel_rfl
  i233:=by kernel_rfl
  m17:=by kernel_rfl
  m18:=by kernel_rfl
  m19:=by kernel_rfl }
open Go.RowKit Go.Sort Go.Lib in
theorem Tryz.strconv_Itoa (n : Int) (m : -9223372036854775808<=n) (h : n<=9223372036854775807) (w : World) (d : Lib.TabIs Tryz.prog w "internal/strconv.uint64pow10" .u64 Lib.pow10Tab) :
    Calls Tryz.prog 381 #[.int .i64 n] w λe w'=>e=.returned (.string ⟨(Lib.itoa n).toArray⟩)/\∃ k os,w'=grow (w.drewN k) os:=Any.strconv_Itoa Tryz.laysM171 n m h w d
def Tryz.lays219_ren:Go.Shelf.Ren:=⟨fun|219=>365|217=>382|225=>383|224=>384|267=>385|266=>395|314=>396|n=>n,fun|9=>9|3=>3|4=>4|5=>5|46=>231|146=>418|51=>306|n=>n,fun|1=>2|n=>n⟩
theorem Tryz.lays219:Go.Proofs.Lays.n219 Tryz.prog Tryz.lays219_ren:={
  mixed:=by kernel_rfl
  f217:=Tryz.func382.trans (yae_ some zac_)
  f219:=Tryz.func365.trans (yae_ some zac_)
  f224:=Tryz.func384.trans (yae_ some zac_)
  f225:=Tryz.func383.trans (yae_ some zac_)
  f266:=Tryz.func395.trans (yae_ some zac_)
  f267:=Tryz.func385.trans (yae_ some zac_)
  f314:=Tryz.func396.trans (yae_ some zac_)
  t3:=Tryz.underlying3
  a3:=Tryz.isAgg3
  z3:=Tryz.sizeOf3
  v3:=Tryz.zeroValue3
  t4:=Tryz.underlying4
  a4:=Tryz.isAgg4
  z4:=Tryz.sizeOf4
  v4:=Tryz.zeroValue4
  t5:=Tryz.underlying5
  a5:=Tryz.isAgg5
  z5:=Tryz.sizeOf5
  v5:=Tryz.zeroValue5
  t9:=Tryz.underlying9
  a9:=Tryz.isAgg9
  z9:=Tryz.sizeOf9
  v9:=Tryz.zeroValue9
  t46:=Tryz.underlying231
  a46:=Tryz.isAgg231
  z46:=Tryz.sizeOf231
  v46:=Tryz.zeroValue231
  t51:=Tryz.underlying306
  a51:=Tryz.isAgg306
  z51:=Tryz.sizeOf306
  v51:=Tryz.zeroValue306
  t146:=Tryz.underlying418
  a146:=Tryz.isAgg418
  z146:=Tryz.sizeOf418
  v146:=Tryz.zeroValue418
  g1:=by kernel_rfl }
open Go.RowKit Go.Lib in
theorem Tryz.stringslite_Index_one (s:ByteArray) (c:UInt8) (w:World) :
    Calls Tryz.prog 365 #[.string s,.string ⟨#[c]⟩] w λe w'=>e=.returned (.int .i64 (Lib.indexByte s.data.toList c))/\w'=w:=Any.stringslite_Index_one Tryz.lays219 s c w
def Tryz.lays143_ren:Go.Shelf.Ren:=⟨fun|143=>392|219=>365|217=>382|225=>383|224=>384|267=>385|266=>395|314=>396|n=>n,fun|9=>9|3=>3|4=>4|5=>5|46=>231|146=>418|51=>306|n=>n,fun|1=>2|n=>n⟩
theorem Tryz.lays143:Go.Proofs.Lays.n143 Tryz.prog Tryz.lays143_ren:={
  mixed:=by kernel_rfl
  f143:=Tryz.func392.trans (yae_ some zac_)
  f217:=Tryz.func382.trans (yae_ some zac_)
  f219:=Tryz.func365.trans (yae_ some zac_)
  f224:=Tryz.func384.trans (yae_ some zac_)
  f225:=Tryz.func383.trans (yae_ some zac_)
  f266:=Tryz.func395.trans (yae_ some zac_)
  f267:=Tryz.func385.trans (yae_ some zac_)
  f314:=Tryz.func396.trans (yae_ some zac_)
  t3:=Tryz.underlying3
  a3:=Tryz.isAgg3
  z3:=Tryz.sizeOf3
  v3:=Tryz.zeroValue3
  t4:=Tryz.underlying4
  a4:=Tryz.isAgg4
  z4:=Tryz.sizeOf4
  v4:=Tryz.zeroValue4
  t5:=Tryz.underlying5
  a5:=Tryz.isAgg5
  z5:=Tryz.sizeOf5
  v5:=Tryz.zeroValue5
  t9:=Tryz.underlying9
  a9:=Tryz.isAgg9
  z9:=Tryz.sizeOf9
  v9:=Tryz.zeroValue9
  t46:=Tryz.underlying231
  a46:=Tryz.isAgg231
  z46:=Tryz.sizeOf231
  v46:=Tryz.zeroValue231
  t51:=Tryz.underlying306
  a51:=Tryz.isAgg306
  z51:=Tryz.sizeOf306
  v51:=Tryz.zeroValue306
  t146:=Tryz.underlying418
  a146:=Tryz.isAgg418
  z146:=Tryz.sizeOf418
  v146:=Tryz.zeroValue418
  g1:=by kernel_rfl }
open Go.RowKit Go.Lib in
theorem Tryz.strings_Index_one (s:ByteArray) (c:UInt8) (w:World) :
    Calls Tryz.prog 392 #[.string s,.string ⟨#[c]⟩] w λe w'=>e=.returned (.int .i64 (Lib.indexByte s.data.toList c))/\w'=w:=Any.strings_Index_one Tryz.lays143 s c w
def Tryz.lays138_ren:Go.Shelf.Ren:=⟨fun|138=>391|195=>399|218=>401|143=>392|219=>365|217=>382|225=>383|224=>384|267=>385|266=>395|314=>396|n=>n,fun|9=>9|3=>3|4=>4|5=>5|0=>0|46=>231|146=>418|51=>306|n=>n,fun|1=>2|n=>n⟩
theorem Tryz.lays138:Go.Proofs.Lays.n138 Tryz.prog Tryz.lays138_ren:={
  mixed:=by kernel_rfl
  f138:=Tryz.func391.trans (yae_ some zac_)
  f143:=Tryz.func392.trans (yae_ some zac_)
  f195:=Tryz.func399.trans (yae_ some zac_)
  f217:=Tryz.func382.trans (yae_ some zac_)
  f218:=Tryz.func401.trans (yae_ some zac_)
  f219:=Tryz.func365.trans (yae_ some zac_)
  f224:=Tryz.func384.trans (yae_ some zac_)
  f225:=Tryz.func383.trans (yae_ some zac_)
  f266:=Tryz.func395.trans (yae_ some zac_)
  f267:=Tryz.func385.trans (yae_ some zac_)
  f314:=Tryz.func396.trans (yae_ some zac_)
  t0:=Tryz.underlying0
  a0:=Tryz.isAgg0
  z0:=Tryz.sizeOf0
  v0:=Tryz.zeroValue0
  t3:=Tryz.underlying3
  a3:=Tryz.isAgg3
  z3:=Tryz.sizeOf3
  v3:=Tryz.zeroValue3
  t4:=Tryz.underlying4
  a4:=Tryz.isAgg4
  z4:=Tryz.sizeOf4
  v4:=Tryz.zeroValue4
  t5:=Tryz.underlying5
  a5:=Tryz.isAgg5
  z5:=Tryz.sizeOf5
  v5:=Tryz.zeroValue5
  t9:=Tryz.underlying9
  a9:=Tryz.isAgg9
  z9:=Tryz.sizeOf9
  v9:=Tryz.zeroValue9
  t46:=Tryz.underlying231
  a46:=Tryz.isAgg231
  z46:=Tryz.sizeOf231
  v46:=Tryz.zeroValue231
  t51:=Tryz.underlying306
  a51:=Tryz.isAgg306
  z51:=Tryz.sizeOf306
  v51:=Tryz.zeroValue306
  t146:=Tryz.underlying418
  a146:=Tryz.isAgg418
  z146:=Tryz.sizeOf418
  v146:=Tryz.zeroValue418
  g1:=by kernel_rfl }
open Go.RowKit Go.Lib in
theorem Tryz.strings_Count_one (s:ByteArray) (c:UInt8) (w:World) :
    Calls Tryz.prog 391 #[.string s,.string ⟨#[c]⟩] w λe w'=>e=.returned (.int .i64 (Lib.countByte s.data.toList c))/\w'=w:=Any.strings_Count_one Tryz.lays138 s c w
def Tryz.lays190_ren:Go.Shelf.Ren:=⟨fun|190=>94|125=>181|258=>180|128=>267|129=>268|302=>258|303=>259|304=>260|305=>261|306=>262|307=>263|308=>264|309=>265|310=>266|333=>308|329=>309|330=>310|334=>311|335=>312|336=>282|344=>364|n=>n,fun|31=>25|9=>9|3=>3|46=>231|0=>0|51=>306|53=>308|4=>4|183=>300|182=>299|131=>249|5=>5|218=>349|222=>237|228=>388|229=>389|n=>n,fun|n=>n⟩
theorem Tryz.lays190:Go.Proofs.Lays.n190 Tryz.prog Tryz.lays190_ren:={
  mixed:=by kernel_rfl
  f125:=Tryz.func181.trans (yae_ some zac_)
  f128:=Tryz.func267.trans (yae_ some zac_)
  f129:=Tryz.func268.trans (yae_ some zac_)
  f190:=Tryz.func94.trans (yae_ some zac_)
  f258:=Tryz.func180.trans (yae_ some zac_)
  f302:=Tryz.func258.trans (yae_ some zac_)
  f303:=Tryz.func259.trans (yae_ some zac_)
  f304:=Tryz.func260.trans (yae_ some zac_)
  f305:=Tryz.func261.trans (yae_ some zac_)
  f306:=Tryz.func262.trans (yae_ some zac_)
  f307:=Tryz.func263.trans (yae_ some zac_)
  f308:=Tryz.func264.trans (yae_ some zac_)
  f309:=Tryz.func265.trans (yae_ some zac_)
  f310:=Tryz.func266.trans (yae_ some zac_)
  f329:=Tryz.func309.trans (yae_ some zac_)
  f330:=Tryz.func310.trans (yae_ some zac_)
  f333:=Tryz.func308.trans (yae_ some zac_)
  f334:=Tryz.func311.trans (yae_ some zac_)
  f335:=Tryz.func312.trans (yae_ some zac_)
  f336:=Tryz.func282.trans (yae_ some zac_)
  f344:=Tryz.func364.trans (yae_ some zac_)
  t0:=Tryz.underlying0
  a0:=Tryz.isAgg0
  z0:=Tryz.sizeOf0
  v0:=Tryz.zeroValue0
  t3:=Tryz.underlying3
  a3:=Tryz.isAgg3
  z3:=Tryz.sizeOf3
  v3:=Tryz.zeroValue3
  t4:=Tryz.underlying4
  a4:=Tryz.isAgg4
  z4:=Tryz.sizeOf4
  v4:=Tryz.zeroValue4
  t5:=Tryz.underlying5
  a5:=Tryz.isAgg5
  z5:=Tryz.sizeOf5
  v5:=Tryz.zeroValue5
  t9:=Tryz.underlying9
  a9:=Tryz.isAgg9
  z9:=Tryz.sizeOf9
  v9:=Tryz.zeroValue9
  t31:=Tryz.underlying25
  a31:=Tryz.isAgg25
  z31:=Tryz.sizeOf25
  v31:=Tryz.zeroValue25
  t46:=Tryz.underlying231
  a46:=Tryz.isAgg231
  z46:=Tryz.sizeOf231
  v46:=Tryz.zeroValue231
  t51:=Tryz.underlying306
  a51:=Tryz.isAgg306
  z51:=Tryz.sizeOf306
  v51:=Tryz.zeroValue306
  t53:=Tryz.underlying308
  a53:=Tryz.isAgg308
  z53:=Tryz.sizeOf308
  v53:=Tryz.zeroValue308
  t131:=Tryz.underlying249
  a131:=Tryz.isAgg249
  z131:=Tryz.sizeOf249
  v131:=Tryz.zeroValue249
  t182:=Tryz.underlying299
  a182:=Tryz.isAgg299
  z182:=Tryz.sizeOf299
  v182:=Tryz.zeroValue299
  t183:=Tryz.underlying300
  a183:=Tryz.isAgg300
  z183:=Tryz.sizeOf300
  v183:=Tryz.zeroValue300
  t218:=Tryz.underlying349
  a218:=Tryz.isAgg349
  z218:=Tryz.sizeOf349
  v218:=Tryz.zeroValue349
  t222:=Tryz.underlying237
  a222:=Tryz.isAgg237
  z222:=Tryz.sizeOf237
  v222:=Tryz.zeroValue237
  t228:=Tryz.underlying388
  a228:=Tryz.isAgg388
  z228:=Tryz.sizeOf388
  v228:=Tryz.zeroValue388
  t229:=Tryz.underlying389
  a229:=Tryz.isAgg389
  z229:=Tryz.sizeOf389
  v229:=Tryz.zeroValue389 }
open Go.Sort Go.RowKit in
theorem Tryz.slices_Sort_string (d off cap:Nat) (ss:List (List UInt8)) (w:World) (q:Holds encStr w d off ss.toArray) (h:d<w.heap.size) (m:ss.length<4611686018427387904) :
    Calls Tryz.prog 94 #[.slice (some ⟨d,off,none⟩) ss.length cap] w λe w' =>
      e=.returned (.tuple #[])/\∃ n os,w'=grow (putRow encStr (Sort.ahead w n) d off (ss.mergeSort λx y=>decide (x<=y)).toArray) os:=Any.slices_Sort_string Tryz.lays190 d off cap ss w q h m
def Tryz.lays194_ren:Go.Shelf.Ren:=⟨fun|194=>95|n=>n,fun|31=>25|9=>9|3=>3|4=>4|0=>0|n=>n,fun|n=>n⟩
theorem Tryz.lays194:Go.Proofs.Lays.n194 Tryz.prog Tryz.lays194_ren:={
  mixed:=by kernel_rfl
  f194:=Tryz.func95.trans (yae_ some zac_)
  t0:=Tryz.underlying0
  a0:=Tryz.isAgg0
  z0:=Tryz.sizeOf0
  v0:=Tryz.zeroValue0
  t3:=Tryz.underlying3
  a3:=Tryz.isAgg3
  z3:=Tryz.sizeOf3
  v3:=Tryz.zeroValue3
  t4:=Tryz.underlying4
  a4:=Tryz.isAgg4
  z4:=Tryz.sizeOf4
  v4:=Tryz.zeroValue4
  t9:=Tryz.underlying9
  a9:=Tryz.isAgg9
  z9:=Tryz.sizeOf9
  v9:=Tryz.zeroValue9
  t31:=Tryz.underlying25
  a31:=Tryz.isAgg25
  z31:=Tryz.sizeOf25
  v31:=Tryz.zeroValue25 }
open Go.RowKit Go.Lib Go.Sort in
theorem Tryz.slices_Compact_string (d off cap:Nat) (h:List (List UInt8)) (w:World) (x:Holds encStr w d off h.toArray) (v:h.length<=9223372036854775807) (m:h.length<=cap) :
    Calls Tryz.prog 95 #[.slice (some ⟨d,off,none⟩) h.length cap] w λe w'=>e=.returned (.slice (some ⟨d,off,none⟩) (Lib.compact h).length cap)/\∃ q,w'=putRow encStr (Sort.ahead w q) d off (Lib.compact h++List.replicate (h.length - (Lib.compact h).length) []).toArray:=Any.slices_Compact_string Tryz.lays194 d off cap h w x v m
open Go.RowKit Go.Lib Go.Sort in
theorem Tryz.slices_Compact_string_empty (a:Ao) (cap:Nat) (w:World) :
    Calls Tryz.prog 95 #[.slice a 0 cap] w λe w'=>e=.returned (.slice a 0 cap)/\w'=w:=Any.slices_Compact_string_empty Tryz.lays194 a cap w
open Go.RowKit Go.Sort in
theorem Tryz.slices_Sort_string_none (p:Ao) (cap:Nat) (w:World) :
    Calls Tryz.prog 94 #[.slice p 0 cap] w λe w'=>e=.returned (.tuple #[])/\w'=w:=Any.slices_Sort_string_none Tryz.lays190 p cap w
end Go.Proofs
namespace Go.Proofs
open Go.Shelf
def Tryz.lays106_ren:Go.Shelf.Ren:=⟨fun|106=>128|213=>209|265=>283|n=>n,fun|9=>9|3=>3|n=>n,fun|n=>n⟩
theorem Tryz.lays106:Go.Proofs.Lays.n106 Tryz.prog Tryz.lays106_ren:={
  mixed:=by kernel_rfl
  f106:=Tryz.func128.trans (yae_ some zac_)
  f213:=Tryz.func209.trans (yae_ some zac_)
  f265:=Tryz.func283.trans (yae_ some zac_)
  t3:=Tryz.underlying3
  a3:=Tryz.isAgg3
  z3:=Tryz.sizeOf3
  v3:=Tryz.zeroValue3
  t9:=Tryz.underlying9
  a9:=Tryz.isAgg9
  z9:=Tryz.sizeOf9
  v9:=Tryz.zeroValue9 }
open Go.RowKit in
theorem Tryz.strings_Compare (a b:ByteArray) (w:World) :
    Calls Tryz.prog 128 #[.string a,.string b] w λe w'=>e=.returned (.int .i64 (Lib.compareBytes a.data.toList b.data.toList))/\w'=w:=Any.strings_Compare Tryz.lays106 a b w
end Go.Proofs
namespace Go.Sx
open Go
structure Cn (n:Nat) (G:Prop):Prop where
  go:G
structure Kw (A:Prop):Prop where
  go:A
theorem cn {n:Nat} {G G1:Prop} (k:G1->G) (h:Cn n G1):Cn (n+1) G:=⟨k h.go⟩
theorem cn0 {G:Prop} (h:G):Cn 0 G:=⟨h⟩
def noG (x:Value) (want:Bool):Bool:=match x with|.bool b=>Bool.xor b want|_=>true
section
variable {P:Program} {N:Nf} {v0:Vw} {H0:Hp} {R:Exit->Act->World->Prop} {K:List Kt} {fr:Fr} {H:Hp} {Γ:List Fct} {ops:Array Oper} {l:List Oper} {d:Nat} {ty:TypeId} {ps:String} {af:Array Edge} {Hs:Hp} {Γs:List Fct} {fuel:Nat} {listed:Array Bool}
theorem vm_ {op:Op} {j t:Nat} {want:Bool} {x:Value} (hj:iR_ ops j=some t) (hx:Fr.get fr t=some x) (hne:noG x want=true) (hN:Nat.blt d N.n=true)
    (h:Ops P R N v0 H0 ops l K ((d,undef)::fr) H Γ):Ops P R N v0 H0 ops (⟨some d,op,ty,ps,af,some (j,want)⟩::l) K fr H Γ:=ops_no hj hx (by cases x<;>first|rfl|exact hne) hN h
theorem sq_noG [NoPan R] {i:Nat} {is:List Nat} {op:Op} {x:Value} {j t:Nat} {want:Bool} (hi:ops[i]? = some ⟨some d,op,ty,ps,af,some (j,want)⟩) (hj:iR_ ops j=some t) (hx:Fr.get fr t=some x) (hne:noG x want=true) (hN:Nat.blt d N.n=true)
    (h:Sq P R N v0 H0 ops Hs Γs is fuel (listed.setIfInBounds i true) K ((d,undef)::fr) H Γ):Sq P R N v0 H0 ops Hs Γs (i::is) fuel listed K fr H Γ:=sq_no hi hj hx (by cases x<;>first|rfl|exact hne) hN h
end
end Go.Sx

namespace Go.Proofs.YtbffkokbdeppaaaGreatDoor
open Go Go.Sx Tryz
theorem zdf {p:Prop} [Decidable p] (h:decide p=false):¬p:=ycf_ h
theorem zdt {p:Prop} [Decidable p] (h:decide p=true):p:=yaZ_ h
theorem znb {α:Type} [BEq α] [LawfulBEq α] {a b:α} (h:(a==b)=false):a≠b:=by simpa using h
theorem zeb {α:Type} [BEq α] [LawfulBEq α] {a b:α} (h:(a==b)=true):a=b:=eq_of_beq h
theorem zbe {α:Type} [BEq α] [LawfulBEq α] {a b:α} (h:(a != b)=false):a=b:=by simpa using h
theorem zk {G:Prop} (h:G:=by kernel_rfl):G:=h
theorem zh {P Q:Vw->Prop}:∀ v,P v->Q v->Q v:=λ_ _ h=>h
theorem zt {P Q:Vw->Prop}:∀ v,P v->Q v->af_ [] v:=λ_ _ _=>trivial
section
variable {H r r' d O:Hp} {b c:Nat×Obj}
theorem zpn (h:H.Perm r):([]++H).Perm r:=h
end
abbrev zR {α:Type} (e k:Nat) (f:α->List Value) (sv:Value) (X:List α) (H:Hp):Prop:=at_ e k sv X.length (X.flatMap f) H
theorem zsw {α β:Type} {e k:Nat} {f:β->List Value} {sv:Value} {A:List β} {H:Hp} (g:α->List β) (p:List α) (h:at_ e k sv A.length (A.flatMap f) H):zR e k f sv (A++List.flatMap g (p.take 0)) H:=by
  unfold zR;simpa only[ych_,ydE_,yaw_] using h
theorem zsa {β:Type} {e k m:Nat} {f:β->List Value} {sv:Value} {A B:List β} {H:Hp} (h:at_ e k sv (A.length+m) (A.flatMap f++B.flatMap f) H) (hm:B.length=m:=by first|rfl|simp):zR e k f sv (A++B) H:=by
  subst hm;unfold zR;rw[yaf_,yaY_];exact h
theorem zge {α:Type} {l:List α} {i:Nat} (h:i<l.length):i<l.length/\∃ x,l[i]? = some x/\x∈l:=⟨h,_,yaa_ h,ycP_ h⟩
theorem cf_ {α:Type} {f:α->List Value} {v:Vw} {ad:Ao} {l:List α} {i:Nat} {x:α} (h:bG_ v ad (l.flatMap f)) (hx:l[i]? = some x) (hf:∀ x,(f x).length≠0):∃ b off,ad=some ⟨b,off,none⟩ :=
  h.addr λe=>by
    rw[List.flatMap_eq_nil_iff]at e;exact hf x (by rw[e x (yad_ hx)];rfl)
theorem zbn {α:Type} [BEq α] [LawfulBEq α] {a b:α} (h:(a != b)=true):a≠b:=by simpa using h
theorem zp {G:Prop} (h:G:=by (repeat (first|(with_reducible first|exact g_|exact d_|exact z_|exact B_|exact aU_|exact T_)|exact d_|(with_reducible first|apply zpn|(apply l_;rotate_left;(fail_if_success (with_reducible apply g_));rotate_right)|apply F_|apply c_|apply j_)|exact z_|exact T_))):G:=h
theorem zf {G:Prop} (h:G:=by intro v_ a_ b_;repeat (first|exact trivial|(with_reducible first|exact b_.1|exact b_.2.1|exact b_.2.2.1|exact b_.2.2.2.1|exact b_.2.2.2.2.1|exact b_.2.2.2.2.2.1|exact b_.2.2.2.2.2.2.1|exact b_.2.2.2.2.2.2.2.1|exact b_.2.2.2.2.2.2.2.2.1|exact b_.2.2.2.2.2.2.2.2.2.1|exact b_.2.2.2.2.2.2.2.2.2.2.1|exact b_.2.2.2.2.2.2.2.2.2.2.2.1|exact b_|exact b_.2|exact b_.2.2|exact b_.2.2.2|exact b_.2.2.2.2|exact b_.2.2.2.2.2|exact b_.2.2.2.2.2.2|exact b_.2.2.2.2.2.2.2|exact b_.2.2.2.2.2.2.2.2|exact b_.2.2.2.2.2.2.2.2.2|exact b_.2.2.2.2.2.2.2.2.2.2|exact b_.2.2.2.2.2.2.2.2.2.2.2)|(first|exact b_.1|exact b_.2.1|exact b_.2.2.1|exact b_.2.2.2.1|exact b_.2.2.2.2.1|exact b_.2.2.2.2.2.1|exact b_.2.2.2.2.2.2.1|exact b_.2.2.2.2.2.2.2.1|exact b_.2.2.2.2.2.2.2.2.1|exact b_.2.2.2.2.2.2.2.2.2.1|exact b_.2.2.2.2.2.2.2.2.2.2.1|exact b_.2.2.2.2.2.2.2.2.2.2.2.1|exact b_|exact b_.2|exact b_.2.2|exact b_.2.2.2|exact b_.2.2.2.2|exact b_.2.2.2.2.2|exact b_.2.2.2.2.2.2|exact b_.2.2.2.2.2.2.2|exact b_.2.2.2.2.2.2.2.2|exact b_.2.2.2.2.2.2.2.2.2|exact b_.2.2.2.2.2.2.2.2.2.2|exact b_.2.2.2.2.2.2.2.2.2.2.2)|refine⟨?_,?_⟩)):G:=h
theorem zs {G:Prop} (h:G:=by intro v_ a_ b_;refine⟨?_,?_⟩;(first|exact a_|exact satNil a_|exact a_.tail|exact a_.tail.tail|exact a_.tail.tail.tail|exact a_.tail.tail.tail.tail|((apply Vw.sat.sub;apply a_.perm);(repeat (first|(with_reducible first|exact g_|exact d_|exact z_|exact B_|exact aU_|exact T_)|exact d_|(with_reducible first|apply zpn|(apply l_;rotate_left;(fail_if_success (with_reducible apply g_));rotate_right)|apply F_|apply c_|apply j_)|exact z_|exact T_))));(first|exact b_|exact b_.2|exact b_.2.2|exact b_.2.2.2|exact b_.2.2.2.2|exact b_.2.2.2.2.2|exact b_.2.2.2.2.2.2|exact b_.2.2.2.2.2.2.2|exact b_.2.2.2.2.2.2.2.2|exact b_.2.2.2.2.2.2.2.2.2|exact b_.2.2.2.2.2.2.2.2.2.2|exact b_.2.2.2.2.2.2.2.2.2.2.2)):G:=h
theorem zl {G:Prop} (h:G:=by repeat (first|exact trivial|refine⟨rfl,?_⟩)):G:=h
def lkN {α:Type}:List (Nat×α)->Nat->Option α
  | [],_=>none
  | (k,v)::l,n=>bif Nat.beq k n then some v else lkN l n
theorem qV_ {α:Type} {n:Nat} {v:α}:∀ {l:List (Nat×α)},lkN l n=some v->(n,v)∈l
  | (k,u)::l,h=>by
    simp only[lkN]at h;cases hb:Nat.beq k n with
    | true=>rw[hb,cond_true]at h;cases h;rw[ycm_ hb];exact yav_
    | false=>rw[hb,cond_false]at h;exact yaE_ _ (qV_ h)
def zAt:List (Nat×Bool):=[(9,false),(3,false),(28,true),(104,true),(30,true),(25,false),(50,false),(4,false),(26,false),(199,false),(22,false),(198,false),(195,false),(80,true),(267,true),(52,true),(197,false),(201,false),(171,true),(96,true),(186,false),(24,true),(69,false),(200,false),(151,false),(347,true),(333,true),(202,false),(189,false),(140,false),(205,false),(169,false),(110,true),(132,false),(184,true),(182,false),(90,true),(344,false),(329,true),(99,true),(248,false),(274,true)]
theorem zA {t:TypeId} {b:Bool} (h:lkN zAt t=some b):∀ w,(isAgg t).run prog w=.ok b w:=by
  have h:=qV_ h;simp only[zAt,yan_,ybV_,yaM_,ybW_]at h;rcases h with⟨rfl,rfl⟩|⟨rfl,rfl⟩|⟨rfl,rfl⟩|⟨rfl,rfl⟩|⟨rfl,rfl⟩|⟨rfl,rfl⟩|⟨rfl,rfl⟩|⟨rfl,rfl⟩|⟨rfl,rfl⟩|⟨rfl,rfl⟩|⟨rfl,rfl⟩|⟨rfl,rfl⟩|⟨rfl,rfl⟩|⟨rfl,rfl⟩|⟨rfl,rfl⟩|⟨rfl,rfl⟩|⟨rfl,rfl⟩|⟨rfl,rfl⟩|⟨rfl,rfl⟩|⟨rfl,rfl⟩|⟨rfl,rfl⟩|⟨rfl,rfl⟩|⟨rfl,rfl⟩|⟨rfl,rfl⟩|⟨rfl,rfl⟩|⟨rfl,rfl⟩|⟨rfl,rfl⟩|⟨rfl,rfl⟩|⟨rfl,rfl⟩|⟨rfl,rfl⟩|⟨rfl,rfl⟩|⟨rfl,rfl⟩|⟨rfl,rfl⟩|⟨rfl,rfl⟩|⟨rfl,rfl⟩|⟨rfl,rfl⟩|⟨rfl,rfl⟩|⟨rfl,rfl⟩|⟨rfl,rfl⟩|⟨rfl,rfl⟩|⟨rfl,rfl⟩|⟨rfl,rfl⟩
  . exact ad_
  . exact aQ_
  . exact ah_
  . exact bv_
  . exact bK_
  . exact na_
  . exact isAgg50
  . exact zb_
  . exact isAgg26
  . exact isAgg199
  . exact isAgg22
  . exact isAgg198
  . exact isAgg195
  . exact dQ_
  . exact isAgg267
  . exact gs_
  . exact isAgg197
  . exact isAgg201
  . exact hg_
  . exact isAgg96
  . exact isAgg186
  . exact isAgg24
  . exact isAgg69
  . exact isAgg200
  . exact isAgg151
  . exact isAgg347
  . exact isAgg333
  . exact isAgg202
  . exact isAgg189
  . exact isAgg140
  . exact isAgg205
  . exact isAgg169
  . exact fD_
  . exact ku_
  . exact isAgg184
  . exact isAgg182
  . exact isAgg90
  . exact isAgg344
  . exact isAgg329
  . exact isAgg99
  . exact isAgg248
  . exact isAgg274
def zSt:List (Nat×Nat):=[(9,1),(28,5),(3,1),(104,6),(30,16),(25,1),(50,1),(4,1),(26,1),(199,1),(22,1),(80,10),(198,1),(171,7),(267,2),(52,6),(197,1),(201,1),(96,1),(69,1),(24,1),(200,1),(333,2),(347,2),(202,1),(169,1),(140,1),(182,1),(110,2),(184,2),(90,7),(344,1),(329,3),(99,16),(248,1),(274,2)]
theorem zS {t:TypeId} {b:Nat} (h:lkN zSt t=some b):∀ w,(sizeOf t).run prog w=.ok b w:=by
  have h:=qV_ h;simp only[zSt,yan_,ybV_,yaM_,ybW_]at h;rcases h with⟨rfl,rfl⟩|⟨rfl,rfl⟩|⟨rfl,rfl⟩|⟨rfl,rfl⟩|⟨rfl,rfl⟩|⟨rfl,rfl⟩|⟨rfl,rfl⟩|⟨rfl,rfl⟩|⟨rfl,rfl⟩|⟨rfl,rfl⟩|⟨rfl,rfl⟩|⟨rfl,rfl⟩|⟨rfl,rfl⟩|⟨rfl,rfl⟩|⟨rfl,rfl⟩|⟨rfl,rfl⟩|⟨rfl,rfl⟩|⟨rfl,rfl⟩|⟨rfl,rfl⟩|⟨rfl,rfl⟩|⟨rfl,rfl⟩|⟨rfl,rfl⟩|⟨rfl,rfl⟩|⟨rfl,rfl⟩|⟨rfl,rfl⟩|⟨rfl,rfl⟩|⟨rfl,rfl⟩|⟨rfl,rfl⟩|⟨rfl,rfl⟩|⟨rfl,rfl⟩|⟨rfl,rfl⟩|⟨rfl,rfl⟩|⟨rfl,rfl⟩|⟨rfl,rfl⟩|⟨rfl,rfl⟩|⟨rfl,rfl⟩
  . exact G_
  . exact t_
  . exact ag_
  . exact y_
  . exact L_
  . exact bP_
  . exact cq_
  . exact cF_
  . exact sizeOf26
  . exact eL_
  . exact Cr_
  . exact K_
  . exact sizeOf198
  . exact aD_
  . exact iG_
  . exact bO_
  . exact sizeOf197
  . exact sizeOf201
  . exact sizeOf96
  . exact qL_
  . exact gZ_
  . exact sizeOf200
  . exact sizeOf333
  . exact sizeOf347
  . exact sizeOf202
  . exact sizeOf169
  . exact sizeOf140
  . exact sizeOf182
  . exact bn_
  . exact sizeOf184
  . exact ev_
  . exact sizeOf344
  . exact sizeOf329
  . exact sizeOf99
  . exact sizeOf248
  . exact sizeOf274
theorem zUe {P:Program} {t t1:TypeId} {q q1} (h:∀ w,(underlying t1).run P w=.ok q1 w) (e:t=t1) (e1:q1=q):∀ w,(underlying t).run P w=.ok q w:=by subst e e1;exact h
theorem zu {G:Prop} (h:G:=by first|exact zUe runUnderlying30 rfl rfl|exact zUe runUnderlying104 rfl rfl|exact zUe cd_ rfl rfl|exact zUe o_ rfl rfl|exact zUe runUnderlying204 rfl rfl|exact zUe runUnderlying80 rfl rfl|exact zUe dx_ rfl rfl|exact zUe aS_ rfl rfl|exact zUe J_ rfl rfl|exact zUe I_ rfl rfl|exact zUe ai_ rfl rfl|exact zUe runUnderlying171 rfl rfl|exact zUe runUnderlying24 rfl rfl|exact zUe runUnderlying164 rfl rfl|exact zUe runUnderlying90 rfl rfl|exact zUe aM_ rfl rfl|exact zUe runUnderlying325 rfl rfl|exact zUe runUnderlying142 rfl rfl|exact zUe runUnderlying333 rfl rfl|exact zUe runUnderlying184 rfl rfl|exact zUe runUnderlying314 rfl rfl|exact zUe runUnderlying252 rfl rfl|exact zUe runUnderlying256 rfl rfl|exact zUe aZ_ rfl rfl|exact zUe runUnderlying110 rfl rfl|exact zUe runUnderlying143 rfl rfl|exact zUe runUnderlying339 rfl rfl|exact zUe ee_ rfl rfl|exact zUe runUnderlying86 rfl rfl|exact zUe runUnderlying397 rfl rfl|exact zUe runUnderlying99 rfl rfl|exact zUe runUnderlying355 rfl rfl|exact zUe runUnderlying347 rfl rfl|exact zUe runUnderlying182 rfl rfl|exact zUe runUnderlying248 rfl rfl|exact zUe runUnderlying96 rfl rfl|exact zUe runUnderlying83 rfl rfl):G:=h
theorem zv {G:Prop} (h:G:=by intro v _ h;first|exact h.1|exact h.2.1|exact h.2.2.1|exact h.2.2.2.1|exact h.2.2.2.2.1|exact h.2.2.2.2.2.1|exact h.2.2.2.2.2.2.1|exact h.2.2.2.2.2.2.2.1|exact h.2.2.2.2.2.2.2.2.1|exact h.2.2.2.2.2.2.2.2.2.1|exact h.2.2.2.2.2.2.2.2.2.2.1|exact h.2.2.2.2.2.2.2.2.2.2.2.1|exact h.1.1|exact h.2.1.1|exact h.2.2.1.1|exact h.2.2.2.1.1|exact h.2.2.2.2.1.1|exact h.2.2.2.2.2.1.1|exact h.2.2.2.2.2.2.1.1|exact h.1.2.2|exact h.2.1.2.2|exact h.2.2.1.2.2|exact h.2.2.2.1.2.2|exact h.2.2.2.2.1.2.2|exact h.2.2.2.2.2.1.2.2|exact h.2.2.2.2.2.2.1.2.2|exact h.2|exact h.2.2|exact h.2.2.2):G:=h
theorem zy {G:Prop} (h:G:=by first|((with_reducible apply ar_);exact rfl)|((with_reducible apply aI_);exact rfl)|((with_reducible apply tF_);rotate_left;exact rfl;rotate_right;exact zu;exact rfl;exact rfl;exact zS rfl)|((with_reducible apply ci_);exact zu;exact rfl;exact rfl;exact rfl;exact zS rfl)|((with_reducible apply (aX_ 0));rotate_left;exact rfl;exact rfl;exact rfl;exact zA rfl)|((with_reducible apply (aX_ 1));rotate_left;exact rfl;exact rfl;exact rfl;exact zA rfl)|((with_reducible apply (aX_ 2));rotate_left;exact rfl;exact rfl;exact rfl;exact zA rfl)|((with_reducible apply (aX_ 3));rotate_left;exact rfl;exact rfl;exact rfl;exact zA rfl)|((with_reducible apply tD_);exact rfl;exact rfl)|((with_reducible apply cu_);exact rfl;exact rfl)|((with_reducible apply aC_);exact rfl;exact rfl;exact rfl;exact bq_ (by omega) (by omega))|((with_reducible apply pw_);exact rfl)|((with_reducible apply bU_);exact rfl;exact rfl)|((with_reducible apply dG_);exact zu;exact rfl)|((with_reducible apply (cQ_ 0));rotate_left;exact zS rfl;exact rfl;exact rfl;exact rfl;exact zA rfl)|((with_reducible apply (cQ_ 1));rotate_left;exact zS rfl;exact rfl;exact rfl;exact rfl;exact zA rfl)|((with_reducible apply (cQ_ 2));rotate_left;exact zS rfl;exact rfl;exact rfl;exact rfl;exact zA rfl)|((with_reducible apply (cQ_ 3));rotate_left;exact zS rfl;exact rfl;exact rfl;exact rfl;exact zA rfl)|((with_reducible apply dw_);rotate_left;exact rfl;exact zv;exact rfl;exact zA rfl)|((with_reducible apply Z_);exact zu;exact zS rfl;exact rfl;exact rfl;(intro v _ h;first|exact cf_ h.1 (by assumption) (λ_=>yaN_ _)|exact cf_ h.2.1 (by assumption) (λ_=>yaN_ _)|exact cf_ h.2.2.1 (by assumption) (λ_=>yaN_ _)|exact cf_ h.2.2.2.1 (by assumption) (λ_=>yaN_ _)|exact cf_ h.2.2.2.2.1 (by assumption) (λ_=>yaN_ _)|exact cf_ h.2.2.2.2.2.1 (by assumption) (λ_=>yaN_ _)|exact cf_ h.2.2.2.2.2.2.1 (by assumption) (λ_=>yaN_ _)|exact cf_ h.2.2.2.2.2.2.2.1 (by assumption) (λ_=>yaN_ _)|exact cf_ h.2.2.2.2.2.2.2.2.1 (by assumption) (λ_=>yaN_ _)|exact cf_ h.1.1 (by assumption) (λ_=>yaN_ _)|exact cf_ h.2.1.1 (by assumption) (λ_=>yaN_ _)|exact cf_ h.2.2.1.1 (by assumption) (λ_=>yaN_ _)|exact cf_ h.2.2.2.1.1 (by assumption) (λ_=>yaN_ _)|exact cf_ h.2.2.2.2.1.1 (by assumption) (λ_=>yaN_ _)|exact cf_ h.2.2.2.2.2.1.1 (by assumption) (λ_=>yaN_ _)|exact cf_ h.2.2.2.2.2.2.1.1 (by assumption) (λ_=>yaN_ _)|exact cf_ h.1.2.2 (by assumption) (λ_=>yaN_ _)|exact cf_ h.2.1.2.2 (by assumption) (λ_=>yaN_ _)|exact cf_ h.2.2.1.2.2 (by assumption) (λ_=>yaN_ _)|exact cf_ h.2.2.2.1.2.2 (by assumption) (λ_=>yaN_ _)|exact cf_ h.2.2.2.2.1.2.2 (by assumption) (λ_=>yaN_ _)|exact cf_ h.2.2.2.2.2.1.2.2 (by assumption) (λ_=>yaN_ _)|exact cf_ h.2.2.2.2.2.2.1.2.2 (by assumption) (λ_=>yaN_ _)|exact cf_ h.2 (by assumption) (λ_=>yaN_ _)|exact cf_ h.2.2 (by assumption) (λ_=>yaN_ _)|exact cf_ h.2.2.2 (by assumption) (λ_=>yaN_ _));omega;(first|omega|(simp;done)))|((with_reducible apply bA_);rotate_left;exact rfl;exact zv;(first|exact w_ Pc.cells_len (by assumption) 0 _ rfl|exact w_ Pc.cells_len (by assumption) _ _ rfl|exact w_ Fc.cells_len (by assumption) 0 _ rfl|exact w_ Fc.cells_len (by assumption) _ _ rfl|exact w_ Stp.cells_len (by assumption) 0 _ rfl|exact w_ Stp.cells_len (by assumption) _ _ rfl|exact w_ au_ (by assumption) 0 _ rfl|exact w_ au_ (by assumption) _ _ rfl|exact w_ eo_ (by assumption) 0 _ rfl|exact w_ eo_ (by assumption) _ _ rfl|exact w_ (n:=1) (by intro _;exact rfl) (by assumption) 0 _ rfl|exact w_ (n:=5) (by intro _;exact rfl) (by assumption) 0 _ rfl|exact w_ (n:=5) (by intro _;exact rfl) (by assumption) 1 _ rfl|exact w_ (n:=5) (by intro _;exact rfl) (by assumption) 2 _ rfl|exact w_ (n:=5) (by intro _;exact rfl) (by assumption) 3 _ rfl|exact w_ (n:=5) (by intro _;exact rfl) (by assumption) 4 _ rfl|exact w_ (n:=16) (by intro _;exact rfl) (by assumption) 0 _ rfl|exact w_ (n:=16) (by intro _;exact rfl) (by assumption) 1 _ rfl|exact w_ (n:=16) (by intro _;exact rfl) (by assumption) 13 _ rfl|exact w_ (n:=16) (by intro _;exact rfl) (by assumption) 14 _ rfl|exact w_ (n:=16) (by intro _;exact rfl) (by assumption) 15 _ rfl|exact w_ (n:=9) (by intro _;exact rfl) (by assumption) 0 _ rfl|exact w_ (n:=9) (by intro _;exact rfl) (by assumption) 1 _ rfl|exact w_ (n:=9) (by intro _;exact rfl) (by assumption) 2 _ rfl|exact w_ (n:=9) (by intro _;exact rfl) (by assumption) 3 _ rfl|exact w_ (n:=9) (by intro _;exact rfl) (by assumption) 4 _ rfl|exact w_ (n:=9) (by intro _;exact rfl) (by assumption) 5 _ rfl|exact w_ (n:=9) (by intro _;exact rfl) (by assumption) 6 _ rfl|exact w_ (n:=2) (by intro _;exact rfl) (by assumption) 0 _ rfl|exact w_ (n:=2) (by intro _;exact rfl) (by assumption) 1 _ rfl|exact w_ (n:=4) (by intro _;exact rfl) (by assumption) 0 _ rfl|exact w_ (n:=4) (by intro _;exact rfl) (by assumption) 1 _ rfl|exact w_ (n:=4) (by intro _;exact rfl) (by assumption) 2 _ rfl|exact w_ (n:=4) (by intro _;exact rfl) (by assumption) 3 _ rfl);exact zA rfl)|((with_reducible apply am_);rotate_left;exact zS rfl;exact rfl;exact zv;rotate_left;(exact w_ (by intro _;exact rfl) (by assumption));exact zA rfl;(exact rfl))|((with_reducible apply (aX_ 4));rotate_left;exact rfl;exact rfl;exact rfl;exact zA rfl)|((with_reducible apply (aX_ 5));rotate_left;exact rfl;exact rfl;exact rfl;exact zA rfl)|((with_reducible apply (aX_ 6));rotate_left;exact rfl;exact rfl;exact rfl;exact zA rfl)|((with_reducible apply (aX_ 7));rotate_left;exact rfl;exact rfl;exact rfl;exact zA rfl)|((with_reducible apply (cQ_ 4));rotate_left;exact zS rfl;exact rfl;exact rfl;exact rfl;exact zA rfl)|((with_reducible apply (cQ_ 5));rotate_left;exact zS rfl;exact rfl;exact rfl;exact rfl;exact zA rfl)|((with_reducible apply (cQ_ 6));rotate_left;exact zS rfl;exact rfl;exact rfl;exact rfl;exact zA rfl)|((with_reducible apply (cQ_ 7));rotate_left;exact zS rfl;exact rfl;exact rfl;exact rfl;exact zA rfl)):G:=h
theorem Zy {A B:Prop} {n:Nat} (k:A) (h:Kw A->Cn n B:=by intro k_;repeat (first|exact cn0 k_.go|(apply cn;intro h_;((first|((with_reducible apply e_);rotate_left;exact rfl;exact h_;rotate_right)|((with_reducible apply M_);exact rfl;rotate_left;exact rfl;exact h_;rotate_right)|((with_reducible apply bu_);exact rfl;exact rfl;exact rfl;rotate_left;exact rfl;exact h_;rotate_right));(exact zy)))|(apply cn;intro h_;first|((with_reducible apply bF_);exact h_)|((with_reducible apply bi_);exact rfl;exact h_)|((with_reducible apply bk_);exact h_)|((with_reducible apply aP_);exact h_)|((with_reducible apply ay_);exact rfl;exact rfl;exact h_)|((with_reducible apply vm_);exact rfl;exact rfl;exact rfl;exact rfl;exact h_)|((with_reducible apply ce_);exact rfl;exact h_)|((with_reducible apply ff_);exact rfl;exact h_)|((with_reducible apply ha_);exact h_)|((with_reducible apply bs_);exact h_)|((with_reducible apply ji_);exact h_)|((with_reducible apply fS_);exact rfl;exact h_)|((with_reducible apply sq_noG);exact rfl;exact rfl;exact rfl;exact rfl;exact rfl;exact h_)|((with_reducible apply tw_);kernel_rfl;exact h_)|((with_reducible apply hb_);exact h_)|((with_reducible apply nX_);exact rfl;exact h_)|((with_reducible apply pJ_);kernel_rfl;exact h_)|((with_reducible apply BC_);exact rfl;exact h_)|((with_reducible apply V_);exact zs;exact h_)|((apply ay_);exact rfl;exact rfl;exact h_)|((apply vm_);exact rfl;exact rfl;exact rfl;exact rfl;exact h_)|((apply bF_);exact h_))|(apply cn;intro h_;((apply e_);rotate_left;exact rfl;exact h_;rotate_right);(exact zy)))):Cn n B:=h ⟨k⟩
theorem Zj {p q A B C:Prop} (n:Nat) (k0:p->A) (k1:q->B) (h:Kw (p->A)->Kw (q->B)->Cn n C:=by intro k0_ k1_;refine Zy ?_;first|((with_reducible apply E_);(first|((with_reducible apply bz_);exact rfl;exact rfl)|((with_reducible apply dc_);exact rfl;exact rfl)|((with_reducible apply cW_);exact rfl;exact rfl)|((with_reducible apply dg_);exact rfl;exact rfl)|((with_reducible apply cg_);exact rfl;exact rfl)|((with_reducible apply eJ_);exact rfl;exact rfl)|((with_reducible apply ds_);exact rfl;exact rfl)|((with_reducible apply cJ_);exact rfl;exact rfl)|((with_reducible apply gd_);exact rfl;exact rfl));exact rfl;intro r_ h_;cases r_;(first|(have q_:=zdf h_;(try dsimp only[Con.kind,Con.parts,Con.name,Con.lo,Con.hi,Con.cap,Con.ad]at q_);exact k0_.go q_)|(have q_:=znb h_;(try dsimp only[Con.kind,Con.parts,Con.name,Con.lo,Con.hi,Con.cap,Con.ad]at q_);exact k0_.go q_)|(have q_:=zbe h_;(try dsimp only[Con.kind,Con.parts,Con.name,Con.lo,Con.hi,Con.cap,Con.ad]at q_);exact k0_.go q_));(first|(have q_:=zdt h_;(try dsimp only[Con.kind,Con.parts,Con.name,Con.lo,Con.hi,Con.cap,Con.ad]at q_);exact k1_.go q_)|(have q_:=zeb h_;(try dsimp only[Con.kind,Con.parts,Con.name,Con.lo,Con.hi,Con.cap,Con.ad]at q_);exact k1_.go q_)|(have q_:=zbn h_;(try dsimp only[Con.kind,Con.parts,Con.name,Con.lo,Con.hi,Con.cap,Con.ad]at q_);exact k1_.go q_)))|((with_reducible apply es_);exact rfl;(first|((with_reducible apply bz_);exact rfl;exact rfl)|((with_reducible apply dc_);exact rfl;exact rfl)|((with_reducible apply cW_);exact rfl;exact rfl)|((with_reducible apply dg_);exact rfl;exact rfl)|((with_reducible apply cg_);exact rfl;exact rfl)|((with_reducible apply eJ_);exact rfl;exact rfl)|((with_reducible apply ds_);exact rfl;exact rfl)|((with_reducible apply cJ_);exact rfl;exact rfl)|((with_reducible apply gd_);exact rfl;exact rfl));exact rfl;intro r_ h_;cases r_;(first|(have q_:=zdf h_;(try dsimp only[Con.kind,Con.parts,Con.name,Con.lo,Con.hi,Con.cap,Con.ad]at q_);exact k0_.go q_)|(have q_:=znb h_;(try dsimp only[Con.kind,Con.parts,Con.name,Con.lo,Con.hi,Con.cap,Con.ad]at q_);exact k0_.go q_)|(have q_:=zbe h_;(try dsimp only[Con.kind,Con.parts,Con.name,Con.lo,Con.hi,Con.cap,Con.ad]at q_);exact k0_.go q_));(first|(have q_:=zdt h_;(try dsimp only[Con.kind,Con.parts,Con.name,Con.lo,Con.hi,Con.cap,Con.ad]at q_);exact k1_.go q_)|(have q_:=zeb h_;(try dsimp only[Con.kind,Con.parts,Con.name,Con.lo,Con.hi,Con.cap,Con.ad]at q_);exact k1_.go q_)|(have q_:=zbn h_;(try dsimp only[Con.kind,Con.parts,Con.name,Con.lo,Con.hi,Con.cap,Con.ad]at q_);exact k1_.go q_)))|((with_reducible apply dV_);exact rfl;exact rfl;exact rfl;(first|((with_reducible apply bz_);exact rfl;exact rfl)|((with_reducible apply dc_);exact rfl;exact rfl)|((with_reducible apply cW_);exact rfl;exact rfl)|((with_reducible apply dg_);exact rfl;exact rfl)|((with_reducible apply cg_);exact rfl;exact rfl)|((with_reducible apply eJ_);exact rfl;exact rfl)|((with_reducible apply ds_);exact rfl;exact rfl)|((with_reducible apply cJ_);exact rfl;exact rfl)|((with_reducible apply gd_);exact rfl;exact rfl));exact rfl;intro r_ h_;cases r_;(first|(have q_:=zdf h_;(try dsimp only[Con.kind,Con.parts,Con.name,Con.lo,Con.hi,Con.cap,Con.ad]at q_);exact k0_.go q_)|(have q_:=znb h_;(try dsimp only[Con.kind,Con.parts,Con.name,Con.lo,Con.hi,Con.cap,Con.ad]at q_);exact k0_.go q_)|(have q_:=zbe h_;(try dsimp only[Con.kind,Con.parts,Con.name,Con.lo,Con.hi,Con.cap,Con.ad]at q_);exact k0_.go q_));(first|(have q_:=zdt h_;(try dsimp only[Con.kind,Con.parts,Con.name,Con.lo,Con.hi,Con.cap,Con.ad]at q_);exact k1_.go q_)|(have q_:=zeb h_;(try dsimp only[Con.kind,Con.parts,Con.name,Con.lo,Con.hi,Con.cap,Con.ad]at q_);exact k1_.go q_)|(have q_:=zbn h_;(try dsimp only[Con.kind,Con.parts,Con.name,Con.lo,Con.hi,Con.cap,Con.ad]at q_);exact k1_.go q_)))):C:=(h ⟨k0⟩ ⟨k1⟩).go
theorem Zi {p q A B C:Prop} (n:Nat) (k0:p->A) (k1:q->B) (h:Kw (p->A)->Kw (q->B)->Cn n C:=by intro k0_ k1_;refine Zy ?_;first|((with_reducible apply E_);(first|((with_reducible apply bz_);exact rfl;exact rfl)|((with_reducible apply dc_);exact rfl;exact rfl)|((with_reducible apply cW_);exact rfl;exact rfl)|((with_reducible apply dg_);exact rfl;exact rfl)|((with_reducible apply cg_);exact rfl;exact rfl)|((with_reducible apply eJ_);exact rfl;exact rfl)|((with_reducible apply ds_);exact rfl;exact rfl)|((with_reducible apply cJ_);exact rfl;exact rfl)|((with_reducible apply gd_);exact rfl;exact rfl));exact rfl;intro r_ h_;cases r_;(first|exact k0_.go (zdf h_)|exact k0_.go (znb h_)|exact k0_.go (zbe h_));(first|exact k1_.go (zdt h_)|exact k1_.go (zeb h_)|exact k1_.go (zbn h_)))|((with_reducible apply es_);exact rfl;(first|((with_reducible apply bz_);exact rfl;exact rfl)|((with_reducible apply dc_);exact rfl;exact rfl)|((with_reducible apply cW_);exact rfl;exact rfl)|((with_reducible apply dg_);exact rfl;exact rfl)|((with_reducible apply cg_);exact rfl;exact rfl)|((with_reducible apply eJ_);exact rfl;exact rfl)|((with_reducible apply ds_);exact rfl;exact rfl)|((with_reducible apply cJ_);exact rfl;exact rfl)|((with_reducible apply gd_);exact rfl;exact rfl));exact rfl;intro r_ h_;cases r_;(first|exact k0_.go (zdf h_)|exact k0_.go (znb h_)|exact k0_.go (zbe h_));(first|exact k1_.go (zdt h_)|exact k1_.go (zeb h_)|exact k1_.go (zbn h_)))|((with_reducible apply dV_);exact rfl;exact rfl;exact rfl;(first|((with_reducible apply bz_);exact rfl;exact rfl)|((with_reducible apply dc_);exact rfl;exact rfl)|((with_reducible apply cW_);exact rfl;exact rfl)|((with_reducible apply dg_);exact rfl;exact rfl)|((with_reducible apply cg_);exact rfl;exact rfl)|((with_reducible apply eJ_);exact rfl;exact rfl)|((with_reducible apply ds_);exact rfl;exact rfl)|((with_reducible apply cJ_);exact rfl;exact rfl)|((with_reducible apply gd_);exact rfl;exact rfl));exact rfl;intro r_ h_;cases r_;(first|exact k0_.go (zdf h_)|exact k0_.go (znb h_)|exact k0_.go (zbe h_));(first|exact k1_.go (zdt h_)|exact k1_.go (zeb h_)|exact k1_.go (zbn h_)))):C:=(h ⟨k0⟩ ⟨k1⟩).go
theorem zm {p q:Prop} (k:p) (h:Kw p->q:=by intro k_;repeat (first|exact trivial|refine⟨rfl,?_⟩|refine⟨s_ rfl k_.go,?_⟩)):q:=h ⟨k⟩
theorem Zz {A B:Prop} (n:Nat) (k:A) (h:Kw A->Cn n B:=by intro k_;exact Zy k_.go):B:=(h ⟨k⟩).go
end Go.Proofs.YtbffkokbdeppaaaGreatDoor

namespace Go.Proofs.YtbffkokbdeppaaaGreatDoor
open Go Go.Sx Go.Proofs Tryz
attribute [local irreducible] Code.wp wpList wpAnyH
open Go.Vs
theorem oF_ (c:UInt8) :
    Fn0 prog 319 #[.int .u8 (c.toNat:Int)] (.bool (et_ c)):=by
  refine i_ func319 rfl rfl ntmps319 rfl λv=>?_;refine Zi 8 (λh=>?_) λh=>?_
  . refine Zi 8 (λd=>?_) λd=>?_
    . refine Zz 11 ?_;exact ab_ vh_ () (s_ rfl zaE_) (.refl _) zt
    . refine Zz 5 ?_;refine E_ (dg_ rfl rfl) rfl λm e=>Zz 7 ?_
      exact ab_ vh_ () (s_ rfl zaE_) (.refl _) zt
  . refine Zi 4 (λd=>?_) λd=>?_
    . refine Zi 5 (λe=>?_) λe=>?_
      . refine Zz 11 ?_;exact ab_ vh_ () (s_ rfl zaE_) (.refl _) zt
      . refine Zz 5 ?_;refine E_ (dg_ rfl rfl) rfl λm q=>Zz 7 ?_
        exact ab_ vh_ () (s_ rfl zaE_) (.refl _) zt
    . refine Zz 13 ?_;exact ab_ vh_ () (s_ rfl zaE_) (.refl _) zt
theorem sT_ (s:Str) (E:s.length<=140737488351232) :
    Fn0 prog 303 #[str s] (.bool (mE_ s)):=by
  refine i_ func303 rfl rfl ntmps303 rfl λC=>?_;refine Zz 9 ?_;refine Ba_ W_ runUnderlying355 runUnderlying5 rfl rfl λcap e A=>Zz 5 ?_
  refine bx_ [(6,.slice (some ⟨e,0,none⟩) s.length cap),(7,iv_ s.length),(8,iv_ ((0:Nat):Int))] zl ?_;refine bV_ (ι:={k:Nat // k<=s.length/\(s.take k).all fH_=true}) (λi=>[(6,.slice (some ⟨e,0,none⟩) s.length cap),(7,iv_ s.length),(8,iv_ i.1)]) (λ_=>_) (λ_=>_) (λi=>s.length - i.1) ⟨0,by simp⟩ ?_;rintro ⟨k,hk⟩;refine bx_ [(6,.slice (some ⟨e,0,none⟩) s.length cap),(7,iv_ s.length),(8,iv_ k)] zl ?_;refine Zi 2 (λx=>?_) λx=>?_
  . refine Zz 12 ?_;exact ab_ results303 () (s_ rfl (by rw[mE_,qF_ fH_ s k zaa_ hk.2])) (.refl _) zt
  . have d:k<s.length:=by omega
    obtain⟨c,h⟩:∃ c,s[k]? = some c:=⟨_,yaa_ d⟩;refine Zz 10 ?_;refine e_ (fb_ runUnderlying355 sizeOf5 rfl rfl zaa_ zaa_) rfl (e_ (aX_ (u:=.int .u8 (c.toNat:Int)) 0 isAgg5 rfl rfl (by rw[show 0+((k:Int)).toNat*1=k by omega];exact yN_ h)) rfl ?_);refine Zz 6 ?_;refine S_ (oF_ c) rfl (.refl _) zt rfl λy B=>e_ (as_ rfl) rfl (Zz 1 ?_)
    cases y
    . refine Zi 3 (λv=>?_) λv=>?_
      . refine Zz 19 ?_;exact u_ ⟨k+1,d,gN_ _ s k c h hk.2 zbr_⟩ zan_ zl (.refl _) zh
      . refine Zi 5 (λq=>?_) λq=>?_
        . refine Zi 5 (λm=>?_) λm=>?_
          . refine Zz 13 ?_;exact u_ ⟨k+1,d,gN_ _ s k c h hk.2 zbr_⟩ zan_ zl (.refl _) zh
          . refine Zz 12 ?_;exact ab_ results303 () (s_ rfl (by rw[mE_,kD_ fH_ s k c h zbr_])) (.refl _) zt
        . refine Zz 16 ?_;exact ab_ results303 () (s_ rfl (by rw[mE_,kD_ fH_ s k c h zbr_])) (.refl _) zt
    . refine Zz 21 ?_;exact u_ ⟨k+1,d,gN_ _ s k c h hk.2 zbr_⟩ zan_ zl (.refl _) zh
theorem wM_ (s:Str) :
    Fn0 prog 320 #[str s] (.bool (bJ_ s)):=by
  refine i_ func320 rfl rfl ntmps320 rfl λP=>?_;refine Zi 15 (λN=>?_) λN=>?_
  . refine Zi 6 (λO=>?_) λO=>?_
    . refine Zi 6 (λM=>?_) λM=>?_
      . refine Zi 6 (λK=>?_) λK=>?_
        . refine Zi 6 (λI=>?_) λI=>?_
          . refine Zi 6 (λH=>?_) λH=>?_
            . refine Zi 6 (λL=>?_) λL=>?_
              . refine Zi 6 (λJ=>?_) λJ=>?_
                . refine Zi 6 (λG=>?_) λG=>?_
                  . refine Zi 6 (λe=>?_) λe=>?_
                    . refine Zi 6 (λh=>?_) λh=>?_
                      . refine Zi 6 (λv=>?_) λv=>?_
                        . refine Zi 6 (λF=>?_) λF=>?_
                          . refine Zi 6 (λB=>?_) λB=>?_
                            . refine Zi 6 (λx=>?_) λx=>?_
                              . refine Zi 6 (λm=>?_) λm=>?_
                                . refine Zi 6 (λE=>?_) λE=>?_
                                  . refine Zi 6 (λC=>?_) λC=>?_
                                    . refine Zi 6 (λA=>?_) λA=>?_
                                      . refine Zi 6 (λy=>?_) λy=>?_
                                        . refine Zi 6 (λq=>?_) λq=>?_
                                          . refine Zi 5 (λd=>?_) λd=>?_
                                            . refine Zz 12 ?_;exact ab_ aR_ () (s_ rfl zas_) (.refl _) zt
                                            . refine Zz 10 ?_;exact ab_ aR_ () (s_ rfl zas_) (.refl _) zt
                                          . refine Zz 13 ?_;exact ab_ aR_ () (s_ rfl zas_) (.refl _) zt
                                        . refine Zz 13 ?_;exact ab_ aR_ () (s_ rfl zas_) (.refl _) zt
                                      . refine Zz 13 ?_;exact ab_ aR_ () (s_ rfl zas_) (.refl _) zt
                                    . refine Zz 13 ?_;exact ab_ aR_ () (s_ rfl zas_) (.refl _) zt
                                  . refine Zz 13 ?_;exact ab_ aR_ () (s_ rfl zas_) (.refl _) zt
                                . refine Zz 13 ?_;exact ab_ aR_ () (s_ rfl zas_) (.refl _) zt
                              . refine Zz 13 ?_;exact ab_ aR_ () (s_ rfl zas_) (.refl _) zt
                            . refine Zz 13 ?_;exact ab_ aR_ () (s_ rfl zas_) (.refl _) zt
                          . refine Zz 13 ?_;exact ab_ aR_ () (s_ rfl zas_) (.refl _) zt
                        . refine Zz 13 ?_;exact ab_ aR_ () (s_ rfl zas_) (.refl _) zt
                      . refine Zz 13 ?_;exact ab_ aR_ () (s_ rfl zas_) (.refl _) zt
                    . refine Zz 13 ?_;exact ab_ aR_ () (s_ rfl zas_) (.refl _) zt
                  . refine Zz 13 ?_;exact ab_ aR_ () (s_ rfl zas_) (.refl _) zt
                . refine Zz 13 ?_;exact ab_ aR_ () (s_ rfl zas_) (.refl _) zt
              . refine Zz 13 ?_;exact ab_ aR_ () (s_ rfl zas_) (.refl _) zt
            . refine Zz 13 ?_;exact ab_ aR_ () (s_ rfl zas_) (.refl _) zt
          . refine Zz 13 ?_;exact ab_ aR_ () (s_ rfl zas_) (.refl _) zt
        . refine Zz 13 ?_;exact ab_ aR_ () (s_ rfl zas_) (.refl _) zt
      . refine Zz 13 ?_;exact ab_ aR_ () (s_ rfl zas_) (.refl _) zt
    . refine Zz 13 ?_;exact ab_ aR_ () (s_ rfl zas_) (.refl _) zt
  . refine Zz 13 ?_;exact ab_ aR_ () (s_ rfl zas_) (.refl _) zt
theorem oE_ (s:Str) (A:s.length<=140737488351232) :
    Fn0 prog 276 #[str s] (.bool (gC_ s)):=by
  refine i_ func276 rfl rfl ntmps276 rfl λx=>?_;refine Zi 8 (λd=>?_) λd=>?_
  . refine Zz 18 ?_;exact ab_ results276 () (s_ rfl (by simp[gC_, *])) (.refl _) zt
  . obtain⟨c,t,rfl⟩:=List.exists_cons_of_ne_nil d;refine Zz 4 ?_;refine e_ (dU_ W_ rfl rfl zae_ rfl) rfl (ay_ rfl rfl (S_ (oF_ _) rfl (.refl _) zt rfl λh v=>Zz 2 ?_));cases h
    . refine Zz 12 ?_;exact ab_ results276 () (s_ rfl (by simp[gC_, *])) (.refl _) zt
    . refine Zz 3 ?_;refine S_ (sT_ _ zal_) rfl (.refl _) zt rfl λe q=>Zz 2 ?_
      cases e
      . refine Zz 8 ?_;exact ab_ results276 () (s_ rfl (by simp[gC_, *])) (.refl _) zt
      . refine Zz 3 ?_;refine S_ (wM_ _) rfl (.refl _) zt rfl λy m=>ay_ rfl rfl (e_ (as_ rfl) rfl (Zz 5 ?_))
        exact ab_ results276 () (s_ rfl (by simp[gC_, *])) (.refl _) zt
theorem hJ_ (s:Str) (x:s.length<=140737488351232) :
    Fn0 prog 248 #[str s] (.bool (cT_ s)):=by
  refine i_ func248 rfl rfl ntmps248 rfl λq=>?_;refine Zz 8 ?_;refine e_ (ck_ W_ rfl) rfl ?_;refine Zi 0 (λe=>?_) λe=>?_
  . refine Zz 18 ?_;exact ab_ results248 () (s_ rfl zaG_) (.refl _) zt
  . refine Zz 4 ?_;refine e_ (ck_ W_ rfl) rfl (ay_ rfl rfl ?_);refine Zi 0 (λh=>?_) λh=>?_
    . refine Zz 14 ?_;exact ab_ results248 () (s_ rfl zaG_) (.refl _) zt
    . obtain⟨c,t,rfl⟩:=ycj_ (l:=s) zaa_;refine Zz 5 ?_;refine e_ (dU_ W_ rfl rfl zae_ rfl) rfl (ay_ rfl rfl ?_);refine Zi 0 (λd=>?_) λd=>?_
      . refine Zz 9 ?_;exact ab_ results248 () (s_ rfl zaG_) (.refl _) zt
      . refine Zz 5 ?_;refine S_ (sT_ _ zal_) rfl (.refl _) zt rfl λv m=>Zz 5 ?_
        exact ab_ results248 () (s_ rfl zaG_) (.refl _) zt
theorem mN_ (s:Str) (c:UInt8):Fn0 prog 365 #[str s,str [c]] (iv_ (Lib.indexByte s c)) :=
  hN_ (callable func365 rfl rfl) λw=>(Tryz.stringslite_Index_one ⟨s.toArray⟩ c w).mono zaM_
theorem rd_ (s:Str) (c:UInt8) (hk:ixS c s=none):Fn0 prog 365 #[str s,str [c]] (iv_ (-1)):=by
  have h:=mN_ s c;rw[no_,hk]at h;exact h
theorem rc_ (s:Str) (c:UInt8) (k:Nat) (hk:ixS c s=some k):Fn0 prog 365 #[str s,str [c]] (iv_ k):=by
  have h:=mN_ s c;rw[no_,hk]at h;exact h
theorem xa_ (s:Str) (c:UInt8) (hk:ixS c s=none) :
    Fn0 prog 318 #[str s,str [c]] (.tuple #[str s,str [],.bool false]):=by
  refine i_ func318 rfl rfl ntmps318 rfl λe=>?_;refine Zz 12 ?_;refine f_ (rd_ s c hk) rfl (.refl _) zt rfl λ_=>Zi 6 (λd=>?_) λd=>?_
  . refine Zz 14 ?_;exact wm_ results318 () rfl rfl rfl rfl (.refl _) zt
  . exact absurd d zae_
theorem wZ_ (s:Str) (c:UInt8) (k:Nat) (hk:ixS c s=some k) (hl:k<s.length) (h:s.length<=140737488351232) :
    Fn0 prog 318 #[str s,str [c]] (.tuple #[str (s.take k),str (s.drop (k+1)),.bool true]):=by
  refine i_ func318 rfl rfl ntmps318 rfl λe=>?_;refine Zz 12 ?_;refine f_ (rc_ s c k hk) rfl (.refl _) zt rfl λ_=>Zi 6 (λd=>?_) λd=>?_
  . exact absurd zaa_ d
  . refine Zz 5 ?_;refine D_ 0 [0,1,2,3,4,5,6,7,8,9,10,11] zk zs (Zz 2 ?_);refine M_ rfl (eX_ (i:=0) (j:=k) (kl:=.i64) W_ rfl rfl rfl zaa_ zaa_) rfl (Zz 3 ?_);refine M_ rfl (ck_ W_ rfl) rfl ?_;refine M_ rfl (aC_ rfl rfl rfl (bq_ zat_ zat_)) rfl ?_;refine M_ rfl (eX_ (i:=k+1) (j:=s.length) (kh:=.i64) W_ rfl rfl rfl zaa_ zaa_) rfl (Zz 7 ?_);exact wm_ results318 () rfl rfl rfl (by simp[yab_]) (.refl _) zt
theorem zz_ (s:Str) (c:UInt8) (hk:ixS c s=none) :
    Fn0 prog 275 #[str s,str [c]] (.tuple #[str s,str [],.bool false]):=by
  refine i_ func275 rfl rfl ntmps275 rfl λd=>?_;refine Zz 11 ?_;refine f_ (xa_ s c hk) rfl (.refl _) zt rfl λ_=>Zz 9 ?_
  exact wm_ results275 () rfl rfl rfl rfl (.refl _) zt
theorem qY_ (s:Str) (hk:ixS 58 s=none) :
    Fn0 prog 195 #[str s] (.bool (bj_ s)):=by
  refine i_ func195 rfl rfl ntmps195 rfl λm=>?_;refine Zz 9 ?_;refine e_ (ck_ W_ rfl) rfl ?_;refine Zi 0 (λd=>?_) λd=>?_
  . refine Zz 8 ?_;refine f_ (zz_ s 58 hk) rfl (.refl _) zt rfl λ_=>Zz 12 ?_
    refine S_ (oE_ _ zav_) rfl (.refl _) zt rfl λe h=>?_;refine Zz 1 ?_;cases e
    . refine Zz 11 ?_;exact ab_ lx_ () (s_ rfl zaZ_) (.refl _) zt
    . refine Zz 3 ?_;refine e_ (as_ rfl) rfl (Zz 11 ?_);exact ab_ lx_ () (s_ rfl zaZ_) (.refl _) zt
  . refine Zz 9 ?_;exact ab_ lx_ () (s_ rfl zaZ_) (.refl _) zt
theorem zy_ (s:Str) (c:UInt8) (k:Nat) (hk:ixS c s=some k) (hl:k<s.length) (d:s.length<=140737488351232) :
    Fn0 prog 275 #[str s,str [c]] (.tuple #[str (s.take k),str (s.drop (k+1)),.bool true]):=by
  refine i_ func275 rfl rfl ntmps275 rfl λe=>?_;refine Zz 11 ?_;refine f_ (wZ_ s c k hk hl d) rfl (.refl _) zt rfl λ_=>Zz 9 ?_
  exact wm_ results275 () rfl rfl rfl rfl (.refl _) zt
theorem qX_ (s:Str) (k:Nat) (hk:ixS 58 s=some k) (hl:k<s.length) :
    Fn0 prog 195 #[str s] (.bool (bj_ s)):=by
  refine i_ func195 rfl rfl ntmps195 rfl λq=>?_;refine Zz 9 ?_;refine e_ (ck_ W_ rfl) rfl ?_;refine Zi 0 (λd=>?_) λd=>?_
  . refine Zz 8 ?_;refine f_ (zy_ s 58 k hk hl zaa_) rfl (.refl _) zt rfl λ_=>Zz 12 ?_
    refine S_ (oE_ _ zav_) rfl (.refl _) zt rfl λe m=>?_;refine Zz 1 ?_;cases e
    . refine Zz 11 ?_;exact ab_ lx_ () (s_ rfl zaZ_) (.refl _) zt
    . refine Zz 3 ?_;refine e_ (as_ rfl) rfl (Zz 5 ?_);refine S_ (oE_ _ zav_) rfl (.refl _) zt rfl λv h=>?_;refine Zz 7 ?_;exact ab_ lx_ () (s_ rfl zaZ_) (.refl _) zt
  . refine Zz 9 ?_;exact ab_ lx_ () (s_ rfl zaZ_) (.refl _) zt
theorem he_ (s:Str):Fn0 prog 195 #[str s] (.bool (bj_ s)):=by
  cases hk:ixS 58 s with
  | none=>exact qY_ s hk
  | some k=>exact qX_ s k hk (un_ hk)
theorem gJ_ (s:Str) (v:s.length<=140737488351232) :
    Fn0 prog 167 #[str s] (iv_ (if aV_ s then 0 else 20)):=by
  refine i_ func167 rfl rfl ntmps167 rfl λq=>?_;refine Zz 9 ?_;refine S_ (he_ _) rfl (.refl _) zt rfl λe h=>Zz 1 ?_
  cases e
  . refine Zz 3 ?_;refine S_ (hJ_ _ v) rfl (.refl _) zt rfl λd m=>Zz 3 ?_
    cases d
    . refine Zz 9 ?_;exact ab_ results167 () (bl_ rfl (by simp[aV_, *])) (.refl _) zt
    . refine Zz 7 ?_;exact ab_ results167 () (bl_ rfl (by simp[aV_, *])) (.refl _) zt
  . refine Zz 12 ?_;exact ab_ results167 () (bl_ rfl (by simp[aV_, *])) (.refl _) zt
theorem go_ (s:Str) (d:s.length<=140737488351232) :
    Fn0 prog 289 #[str s] (.bool (aV_ s)):=by
  refine i_ func289 rfl rfl ntmps289 rfl λh=>?_;refine Zz 8 ?_;refine f_ (gJ_ s d) rfl (.refl _) zt rfl λ_=>E_ (bz_ rfl rfl) rfl λm e=>Zz 4 ?_
  exact ab_ results289 () (s_ rfl (by subst_vars;cases aV_ s<;>rfl)) (.refl _) zt
theorem fits_c:∀ (m:Nat) (c:Con),c.sz<=m->c.ok->∀ (d n bs:Nat),d<=9->n<=64->∀ r,c.fits d n=r->
    Tri prog 196 #[c.val,iv_ d,zp_ bs 0] [(bs,.cells #[iv_ n] 3 (0,0))] [c.memF] (λ_:Unit=>.bool r.1) (λ_=>[(bs,.cells #[iv_ r.2] 3 (0,0))]) (λ_=>[]):=by
  intro m
  induction m with
  | zero=>intro c h;have:=c.sz_pos;omega
  | succ m ih =>
    intro c hm E d n bs O P r I;obtain⟨k,nm,lo,hi,ad,cap,ps⟩:=c;have B:=Con.ok_len E;simp only[Con.parts,Con.cap]at B;refine i_ func196 rfl rfl ntmps196 rfl λM=>?_;refine Zz 2 ?_;refine P_ rfl rfl λN=>Zz 10 ?_
    refine n_ 1 ag_ rfl rfl rfl rfl rfl rfl (Zj 6 (λG=>?_) λG=>?_)
    . refine Zj 8 (λH=>?_) λH=>?_
      . have x:¬ (8<d\/64<n+1):=by omega
        refine Zz 16 ?_;refine bx_ [(1,iv_ d),(2,zp_ bs 0),(23,.slice ad ps.length cap),(24,iv_ ps.length),(25,iv_ ((0:Nat):Int))] zl ?_;refine bV_ (ι:={q:Nat×Nat // q.1<=ps.length/\Con.fits.fitss (ps.take q.1) (d+1) (n+1)=(true,q.2)/\q.2<=64}) (λi=>[(1,iv_ d),(2,zp_ bs 0),(23,.slice ad ps.length cap),(24,iv_ ps.length),(25,iv_ i.1.1)]) (λi=>[_,(bs,.cells #[iv_ i.1.2] 3 (0,0))]) (λ_=>_) (λi=>ps.length - i.1.1) ⟨(0,n+1),by simp[Con.fits.fitss];omega⟩ ?_;rintro ⟨⟨i,e⟩,hk⟩;refine bx_ [(1,iv_ d),(2,zp_ bs 0),(23,.slice ad ps.length cap),(24,iv_ ps.length),(25,iv_ i)] zl ?_;refine Zj 2 (λF=>?_) λF=>?_
        . refine Zz 12 ?_;obtain rfl:r=(true,e):=by rw[<-I];exact Con.fits_yes x zaa_ hk.2.1
          exact ab_ results196 () rfl (fQ_ (i:=1) rfl) zt
        . have A:i<ps.length:=by omega
          obtain⟨p,C⟩:∃ p,ps[i]? = some p:=⟨_,yaa_ A⟩;have y:p∈ps:=yad_ C;refine Zz 10 ?_;refine e_ (Z_ ai_ t_ rfl rfl (λv _ h=>Con.row_addr (c:=.mk k nm lo hi ad cap ps) h.1 C) zaa_ zaa_) rfl (e_ (am_ (us:=p.cells) ah_ t_ rfl (λv _ h=>((Con.mem_iff (.mk k nm lo hi ad cap ps) v).1 h.1).1) p.cells_len (Con.part_cells (c:=.mk k nm lo hi ad cap ps) (i:=i) C)) rfl (x_ aF_ rfl λL=>fk_ 0 t_ rfl rfl rfl rfl (Zz 4 ?_)));refine e_ (cR_ 0 ah_ t_ rfl rfl) rfl (Zz 3 ?_);refine oq_ 2 (ih p (by have:=Con.sz_part (c:=.mk k nm lo hi ad cap ps) y;omega) (Con.ok_part (c:=.mk k nm lo hi ad cap ps) E y) (d+1) e bs zaa_ hk.2.2 _ rfl) rfl rfl (λv _ h=>⟨Con.mem_part (c:=.mk k nm lo hi ad cap ps) h.1 y,trivial⟩) rfl λJ K=>?_;refine e_ (as_ rfl) rfl (Zz 2 ?_);cases J
          . refine Zz 7 ?_;obtain rfl:r=(false,(p.fits (d+1) e).2):=by rw[<-I];exact Con.fits_no x C hk.2.1 zal_
            exact ab_ results196 () rfl (fQ_ (i:=2) rfl) zt
          . refine Zz 8 ?_;exact u_ ⟨(i+1,(p.fits (d+1) e).2),A,Con.fitss_step C hk.2.1 zal_⟩ zan_ zl (@List.perm_append_comm _ [_] _) zh
      . refine Zz 10 ?_;obtain rfl:r=(false,n+1):=by rw[<-I,Con.fits_eq];simp<;>omega
        exact ab_ results196 () rfl (fQ_ (i:=1) rfl) zt
    . refine Zz 15 ?_;obtain rfl:r=(false,n+1):=by rw[<-I,Con.fits_eq];simp<;>omega
      exact ab_ results196 () rfl (fQ_ (i:=1) rfl) zt
def vj_ (v:Vw):Prop:=v.sl/\v.im 6/\∃ T fz,v.w.heap[6]? = some (.cells (Lib.pow10Tab.map λz=>Value.int .u64 z).toArray T fz)
theorem ub_ {v d:Vw} (h:v.le d) (m:vj_ v):vj_ d:=by
  obtain⟨x,e,T,fz,q⟩:=m;exact⟨by rw[h.sl];exact x,h.imUp _ e,T,fz,by rw[h.block _ e];exact q⟩
theorem wp_ {v : Vw} (d : vj_ v) : Lib.TabIs prog v.w "internal/strconv.uint64pow10" .u64 Lib.pow10Tab := by
  obtain⟨_,m,T,fz,e⟩:=d;have h : Tryz.prog.globalNamed "internal/strconv.uint64pow10" = some 6 := by kernel_rfl
  simp only[Lib.TabIs,World.var?,h,Option.bind_some,e]
def bN_:Fct where
  p:=λv=>bG_ v (some ⟨1,0,none⟩) (en_.flatMap vq_)/\bG_ v (some ⟨0,0,none⟩) (rX_.flatMap Use.cells)/\True/\vj_ v
  mono:=λv v' h hp=>⟨(ac_ _ _).mono v v' h hp.1,(ac_ _ _).mono v v' h hp.2.1,trivial,ub_ h hp.2.2.2⟩
def hx_:Fct:=ac_ (some ⟨3,0,none⟩) (gm_.flatMap NUse.cells)
theorem gc_ {G:Prop} (h:G:=by
 refine Zz 7 ?_;exact jW_):G:=h
theorem nw_ {G:Prop} (h:G:=by
 refine Zz 7 ?_;exact met ⟨rfl,rfl,rfl,rfl,rfl,rfl,rfl,rfl,rfl,rfl,rfl,rfl,rfl,rfl,(s_ rfl (jaf H)),trivial⟩):G:=h
theorem jV_ {G:Prop} (h:G:=by
 exact met ⟨rfl,rfl,rfl,rfl,rfl,rfl,rfl,rfl,rfl,rfl,rfl,rfl,(s_ rfl (jot d)),trivial⟩):G:=h
theorem hs_ {G:Prop} (h:G:=by
 exact met ⟨rfl,rfl,rfl,rfl,rfl,rfl,rfl,rfl,rfl,rfl,rfl,rfl,rfl,(s_ rfl (jot d)),trivial⟩):G:=h
theorem jW_ {G:Prop} (h:G:=by
 exact ab_ results197 () (bl_ rfl (by unfold Con.fieldErr;simp only[Con.kind,Con.parts,Con.name,Con.lo,Con.hi];simp only[O];repeat (first|rfl|exact (yao_ zaa_).symm|(rw[yao_ zaJ_];first|done|rfl)|(rw[yag_ zaJ_])))) (.refl _) zt):G:=h
theorem ps_ (c:Con) (Z:c.ok):Tri prog 197 #[c.val] [] [bN_] (λ_:Unit=>iv_ c.fieldErr) (λ_=>[]) (λ_=>[]):=by
 obtain⟨k,nm,lo,hi,ad,cap,ps⟩:=c;have a3:=Con.ok_len Z;simp only[Con.parts,Con.cap]at a3;refine i_ func197 rfl rfl ntmps197 rfl λv_1=>?_;refine Zz 2 ?_;refine P_ rfl rfl λm=>Zz 8 ?_
 refine E_ (dc_ rfl rfl) rfl λr_1 M=>Zz 1 ?_
 refine aq_ 4 ((decide (k<1))||(decide (7<k))) (λr=>[(0,.agg (Con.cells (Con.mk k nm lo hi ad cap ps)).toArray),(1,zp_ m 0),(2,iv_ 0),(11,.bool r)]) ?_ λr_2 Y=>?_
 .cases r_1
  .have d:=M
   replace M:=zdf M;refine Zz 5 ?_;refine E_ (ds_ rfl rfl) rfl λa2 L=>Zz 3 ?_
   exact met (zm (jof d L))
  have d:=M;replace M:=zdt M;refine Zz 6 ?_;exact met ⟨rfl,rfl,rfl,(s_ rfl (jot d)),trivial⟩
 refine Zz 2 ?_;cases r_2
 .simp at Y
  obtain⟨x,hx⟩:∃ x,en_[k.toNat]? = some x:=⟨_,yaa_ (show k.toNat<8 by omega)⟩;have O:nd k=x:=by simp[nd,hx]
  obtain⟨B,J,I,xb⟩:=x;refine Zz 7 ?_;refine e_ (dE_ runUnderlying315 sizeOf314 rfl rfl zcd_ (by show k<(8:Int);omega)) rfl ?_;refine e_ (am_ (ad:=some ⟨1,0,none⟩) (k:=k.toNat*4) (us:=vq_ (B,J,I,xb)) isAgg314 sizeOf314 rfl (λv _ h=>h.1.1) (lA_ _) (λj y hj=>by rw[kq_ vq_ 4 lA_ en_ k.toNat j _ hx (by have:=(yac_.1 hj).1;rwa [lA_]at this)];exact hj)) rfl ?_;refine x_ zeroValue314 rfl λC=>n_ 0 sizeOf314 rfl rfl rfl rfl rfl rfl (Zz 10 ?_)
  refine E_ (dc_ rfl rfl) rfl λa2 L=>Zz 1 ?_
  let Ru:Array Value:=#[iv_ B,iv_ J,iv_ I,.bool xb];refine aq_ 7 ((decide ((ps.length:Int)<J))||(decide (I<(ps.length:Int)))) (λr=>[(0,.agg (Con.cells (Con.mk k nm lo hi ad cap ps)).toArray),(1,zp_ m 0),(2,iv_ 0),(11,.bool false),(12,zp_ m 0),(13,iv_ k),(14,.pointer (some (rad (some ⟨1,0,none⟩) (k.toNat*4)))),(15,.agg Ru),(3,zp_ C 0),(29,.bool r)]) ?_ λr_4 R=>?_
  .cases a2
   .have d:=L
    replace L:=zdf L;refine Zz 11 ?_;refine E_ (ds_ rfl rfl) rfl λa1 P=>Zz 3 ?_
    exact met (zm (jof d P))
   have d:=L;replace L:=zdt L;refine Zz 9 ?_;exact met ⟨rfl,rfl,rfl,rfl,rfl,rfl,rfl,rfl,rfl,(s_ rfl (jot d)),trivial⟩
  refine Zz 1 ?_;refine aq_ 9 ((((decide ((ps.length:Int)<J))||(decide (I<(ps.length:Int)))))||(((B==0)&&(nm != [])))) (λr=>[(0,.agg (Con.cells (Con.mk k nm lo hi ad cap ps)).toArray),(1,zp_ m 0),(2,iv_ 0),(11,.bool false),(12,zp_ m 0),(13,iv_ k),(14,.pointer (some (rad (some ⟨1,0,none⟩) (k.toNat*4)))),(15,.agg Ru),(3,zp_ C 0),(39,.bool r)]) ?_ λa1 P=>?_
  .cases r_4
   .have d:=R
    simp at R
    refine Zz 5 ?_;refine E_ (bz_ rfl rfl) rfl λU e=>Zz 2 ?_
    refine aq_ 4 ((B==0)&&(nm != [])) (λr=>[(0,.agg (Con.cells (Con.mk k nm lo hi ad cap ps)).toArray),(1,zp_ m 0),(2,iv_ 0),(11,.bool false),(12,zp_ m 0),(13,iv_ k),(14,.pointer (some (rad (some ⟨1,0,none⟩) (k.toNat*4)))),(15,.agg Ru),(3,zp_ C 0),(30,.bool false),(38,.bool r)]) ?_ λW K=>?_
    .cases U
     .have H:=e
      replace e:=znb e;refine Zz 7 ?_;exact met ⟨rfl,rfl,rfl,rfl,rfl,rfl,rfl,rfl,rfl,rfl,(s_ rfl (jaf H)),trivial⟩
     have H:=e;replace e:=zeb e;refine Zz 5 ?_;refine E_ (cJ_ rfl rfl) rfl λT q=>Zz 4 ?_
     exact met ⟨rfl,rfl,rfl,rfl,rfl,rfl,rfl,rfl,rfl,rfl,(s_ rfl (jat H q)),trivial⟩
    refine Zz 3 ?_;exact met (zm (jof d K))
   have d:=R;simp at R
   refine Zz 11 ?_;exact met ⟨rfl,rfl,rfl,rfl,rfl,rfl,rfl,rfl,rfl,(s_ rfl (jot d)),trivial⟩
  refine Zz 2 ?_;cases a1
  .simp at P
   refine Zz 10 ?_;cases xb
   .refine Zz 5 ?_;refine E_ (cg_ rfl rfl) rfl λU e=>Zz 1 ?_
    let Qu:Array Value:=#[iv_ B,iv_ J,iv_ I,.bool false];refine aq_ 4 ((lo != 0)||(hi != 0)) (λr=>[(0,.agg (Con.cells (Con.mk k nm lo hi ad cap ps)).toArray),(1,zp_ m 0),(2,iv_ 0),(11,.bool false),(12,zp_ m 0),(13,iv_ k),(14,.pointer (some (rad (some ⟨1,0,none⟩) (k.toNat*4)))),(15,.agg Qu),(3,zp_ C 0),(39,.bool false),(40,zp_ C 3),(41,.bool false),(64,.bool r)]) ?_ λW K=>?_
    .cases U
     .have d:=e
      replace e:=fo_ e;refine Zz 5 ?_;refine E_ (cg_ rfl rfl) rfl λT q=>Zz 3 ?_
      exact met (zm (jof d q))
     have d:=e;replace e:=fm_ e;refine Zz 6 ?_;exact jV_
    refine Zz 2 ?_;cases W
    .simp at K
     refine Zz 8 ?_;refine E_ (bz_ rfl rfl) rfl λT q=>Zz 1 ?_
     refine aq_ 4 ((B==0)||(bj_ nm)) (λr=>[(0,.agg (Con.cells (Con.mk k nm lo hi ad cap ps)).toArray),(1,zp_ m 0),(2,iv_ 0),(11,.bool false),(12,zp_ m 0),(13,iv_ k),(14,.pointer (some (rad (some ⟨1,0,none⟩) (k.toNat*4)))),(15,.agg Qu),(3,zp_ C 0),(39,.bool false),(40,zp_ C 3),(41,.bool false),(64,.bool false),(72,.bool r)]) ?_ λV E=>?_
     .cases T
      .have d:=q
       replace q:=znb q;refine Zz 5 ?_;refine S_ (he_ nm) rfl (.refl _) zt rfl λS F=>Zz 3 ?_
       exact met (zm (jof d F))
      have d:=q;replace q:=zeb q;refine Zz 6 ?_;exact hs_
     refine Zz 1 ?_;refine aq_ 9 ((((B==0)||(bj_ nm)))||(((B==2)&&(cT_ nm)))) (λr=>[(0,.agg (Con.cells (Con.mk k nm lo hi ad cap ps)).toArray),(1,zp_ m 0),(2,iv_ 0),(11,.bool false),(12,zp_ m 0),(13,iv_ k),(14,.pointer (some (rad (some ⟨1,0,none⟩) (k.toNat*4)))),(15,.agg Qu),(3,zp_ C 0),(39,.bool false),(40,zp_ C 3),(41,.bool false),(64,.bool false),(82,.bool r)]) ?_ λS F=>?_
     .cases V
      .have d:=E
       simp at E
       refine Zz 5 ?_;refine E_ (bz_ rfl rfl) rfl λQ A=>Zz 2 ?_
       refine aq_ 4 ((B==2)&&(cT_ nm)) (λr=>[(0,.agg (Con.cells (Con.mk k nm lo hi ad cap ps)).toArray),(1,zp_ m 0),(2,iv_ 0),(11,.bool false),(12,zp_ m 0),(13,iv_ k),(14,.pointer (some (rad (some ⟨1,0,none⟩) (k.toNat*4)))),(15,.agg Qu),(3,zp_ C 0),(39,.bool false),(40,zp_ C 3),(41,.bool false),(64,.bool false),(73,.bool false),(81,.bool r)]) ?_ λX G=>?_
       .cases Q
        .have H:=A
         replace A:=znb A;exact nw_
        have H:=A;replace A:=zeb A;refine Zz 5 ?_;refine S_ (hJ_ nm (Con.ok_name Z)) rfl (.refl _) zt rfl λr_13 N=>Zz 4 ?_
        exact met ⟨rfl,rfl,rfl,rfl,rfl,rfl,rfl,rfl,rfl,rfl,rfl,rfl,rfl,rfl,(s_ rfl (jat H N)),trivial⟩
       refine Zz 3 ?_;exact met (zm (jof d G))
      have d:=E;simp at E
      refine Zz 11 ?_;exact hs_
     refine Zz 2 ?_;cases S
     .simp at F
      refine Zz 9 ?_;exact jW_
     simp at F
     exact gc_
    simp at K
    exact gc_
   refine Zz 5 ?_;refine E_ (dc_ rfl rfl) rfl λU e=>Zz 1 ?_
   let Pu:Array Value:=#[iv_ B,iv_ J,iv_ I,.bool true];refine aq_ 6 ((decide (lo<(-1099511627776)))||(decide (hi<lo))) (λr=>[(0,.agg (Con.cells (Con.mk k nm lo hi ad cap ps)).toArray),(1,zp_ m 0),(2,iv_ 0),(11,.bool false),(12,zp_ m 0),(13,iv_ k),(14,.pointer (some (rad (some ⟨1,0,none⟩) (k.toNat*4)))),(15,.agg Pu),(3,zp_ C 0),(39,.bool false),(40,zp_ C 3),(41,.bool true),(51,.bool r)]) ?_ λW K=>?_
   .cases U
    .have d:=e
     replace e:=zdf e;refine Zz 9 ?_;refine E_ (ds_ rfl rfl) rfl λT q=>Zz 3 ?_
     exact met (zm (jof d q))
    have d:=e;replace e:=zdt e;refine Zz 8 ?_;exact jV_
   refine Zz 1 ?_;refine aq_ 4 ((((decide (lo<(-1099511627776)))||(decide (hi<lo))))||(decide (1099511627776<hi))) (λr=>[(0,.agg (Con.cells (Con.mk k nm lo hi ad cap ps)).toArray),(1,zp_ m 0),(2,iv_ 0),(11,.bool false),(12,zp_ m 0),(13,iv_ k),(14,.pointer (some (rad (some ⟨1,0,none⟩) (k.toNat*4)))),(15,.agg Pu),(3,zp_ C 0),(39,.bool false),(40,zp_ C 3),(41,.bool true),(56,.bool r)]) ?_ λT q=>?_
   .cases W
    .have d:=K
     simp at K
     refine Zz 5 ?_;refine E_ (ds_ rfl rfl) rfl λV E=>Zz 3 ?_
     exact met (zm (jof d E))
    have d:=K;simp at K
    refine Zz 6 ?_;exact jV_
   refine Zz 2 ?_;cases T
   .simp at q
    refine Zz 8 ?_;refine E_ (bz_ rfl rfl) rfl λV E=>Zz 1 ?_
    refine aq_ 4 ((B==0)||(bj_ nm)) (λr=>[(0,.agg (Con.cells (Con.mk k nm lo hi ad cap ps)).toArray),(1,zp_ m 0),(2,iv_ 0),(11,.bool false),(12,zp_ m 0),(13,iv_ k),(14,.pointer (some (rad (some ⟨1,0,none⟩) (k.toNat*4)))),(15,.agg Pu),(3,zp_ C 0),(39,.bool false),(40,zp_ C 3),(41,.bool true),(56,.bool false),(72,.bool r)]) ?_ λS F=>?_
    .cases V
     .have d:=E
      replace E:=znb E;refine Zz 5 ?_;refine S_ (he_ nm) rfl (.refl _) zt rfl λQ A=>Zz 3 ?_
      exact met (zm (jof d A))
     have d:=E;replace E:=zeb E;refine Zz 6 ?_;exact hs_
    refine Zz 1 ?_;refine aq_ 9 ((((B==0)||(bj_ nm)))||(((B==2)&&(cT_ nm)))) (λr=>[(0,.agg (Con.cells (Con.mk k nm lo hi ad cap ps)).toArray),(1,zp_ m 0),(2,iv_ 0),(11,.bool false),(12,zp_ m 0),(13,iv_ k),(14,.pointer (some (rad (some ⟨1,0,none⟩) (k.toNat*4)))),(15,.agg Pu),(3,zp_ C 0),(39,.bool false),(40,zp_ C 3),(41,.bool true),(56,.bool false),(82,.bool r)]) ?_ λQ A=>?_
    .cases S
     .have d:=F
      simp at F
      refine Zz 5 ?_;refine E_ (bz_ rfl rfl) rfl λX G=>Zz 2 ?_
      refine aq_ 4 ((B==2)&&(cT_ nm)) (λr=>[(0,.agg (Con.cells (Con.mk k nm lo hi ad cap ps)).toArray),(1,zp_ m 0),(2,iv_ 0),(11,.bool false),(12,zp_ m 0),(13,iv_ k),(14,.pointer (some (rad (some ⟨1,0,none⟩) (k.toNat*4)))),(15,.agg Pu),(3,zp_ C 0),(39,.bool false),(40,zp_ C 3),(41,.bool true),(56,.bool false),(73,.bool false),(81,.bool r)]) ?_ λr_13 N=>?_
      .cases X
       .have H:=G
        replace G:=znb G;exact nw_
       have H:=G;replace G:=zeb G;refine Zz 5 ?_;refine S_ (hJ_ nm (Con.ok_name Z)) rfl (.refl _) zt rfl λr_14 a0=>Zz 4 ?_
       exact met ⟨rfl,rfl,rfl,rfl,rfl,rfl,rfl,rfl,rfl,rfl,rfl,rfl,rfl,rfl,(s_ rfl (jat H a0)),trivial⟩
      refine Zz 3 ?_;exact met (zm (jof d N))
     have d:=F;simp at F
     refine Zz 11 ?_;exact hs_
    refine Zz 2 ?_;cases Q
    .simp at A
     refine Zz 9 ?_;exact jW_
    simp at A
    exact gc_
   simp at q
   exact gc_
  simp at P
  exact gc_
 simp at Y
 refine Zz 7 ?_;exact ab_ results197 () (bl_ rfl (by unfold Con.fieldErr;simp only[Con.kind,Con.parts,Con.name,Con.lo,Con.hi];repeat (first|rfl|exact (yao_ zaa_).symm|(rw[yao_ zaJ_];first|done|rfl)|(rw[yag_ zaJ_])))) (.refl _) zt
end Go.Proofs.YtbffkokbdeppaaaGreatDoor
