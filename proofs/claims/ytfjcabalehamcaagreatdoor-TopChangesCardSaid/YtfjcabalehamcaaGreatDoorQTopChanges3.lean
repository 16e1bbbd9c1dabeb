/-
  Lemmas for the law TopChanges (no condition).
-/
import Derived.Test.YtfjcabalehamcaaGreatDoorQTopChanges2
import Derived.Laws.MakeOwn
import Derived.Laws.OwnMore
import Derived.Shelf.Strings.Builder1
import Derived.Shelf.Strings.Builder2
import Derived.Shelf.Strings.OnBuilder
import Derived.Shelf.Small.Bits
import Derived.Shelf.Small.Strs
import Derived.Shelf.Small.Wraps
import Derived.Shelf.Utf8.RuneCount
import Derived.Shelf.Strconv.Itoa0
import Derived.Shelf.Strconv.Itoa1
import Derived.Shelf.LaysM
import Derived.Shelf.Strconv.Itoa2
import Derived.Shelf.Strconv.Itoa3
import Derived.Shelf.Strings.Search1
import Derived.Shelf.Strings.Search2
import Derived.Shelf.Strings.Search3
import Derived.Shelf.Strings.Cut
import Derived.Shelf.Strings.Count
import Derived.Shelf.Strings.Shaped
import Derived.Shelf.Sort.Plain
import Derived.Shelf.Strings.Split
import Derived.Shelf.Strings.SplitShaped
import Derived.Shelf.Unicode.DecodeSlow
import Derived.Shelf.Slices.Reverse
import Derived.Shelf.Slices.CompactS
import Derived.Ground.Names2Prog
import Derived.Shelf.Slices.SearchI
import Derived.Shelf.Slices.Cells
import Derived.Shelf.Slices.In.SortNone
import Derived.Ground.SlgnProg
import Derived.Shelf.SlicesE.Clone
import Derived.Test.YtfjcabalehamcaaGreatDoorProg
set_option linter.unusedVariables false
set_option linter.unusedSimpArgs false
set_option linter.unusedSectionVars false
set_option maxHeartbeats 1000000
namespace Go.Sx
open Go
section
variable {H r r' d t:Hp} {b:Nat×Obj} {O:Hp}
theorem i_:H.Perm ([]++H):=.refl _
theorem d_:(b::r).Perm ([b]++r):=.refl _
theorem x_:(O++r).Perm (O++r):=.refl _
theorem c_ (h:H.Perm (t++r)):(b::H).Perm (t++(b::r)):=(h.cons b).trans ybM_.symm
theorem j_ (h:H.Perm (t++r)):(O++H).Perm (t++(O++r)):=(ybE_ O h).trans (by
  rw[<-yap_,<-yap_];exact ycT_ r yax_)
theorem m_ (m:H.Perm ([b]++r)) (v:r.Perm (d++r')):H.Perm ((b::d)++r'):=m.trans (v.cons b)
theorem G_ (m:H.Perm (O++r)) (v:r.Perm (d++r')):H.Perm ((O++d)++r'):=by
  rw[yap_];exact m.trans (ybE_ O v)
theorem af_:H.Perm (H++[]):=by rw[yaL_]
end
theorem mO_:∀ xs:List (List UInt8),xs.flatMap ar_=xs.map str
  | []=>rfl
  | x::xs=>by simp only[yaV_,mO_ xs,yaF_];rfl
def aY_ (n:Int):List Value:=[.int .i64 n]
theorem bx_ (n:Int):(aY_ n).length=1:=rfl
section
variable {P:Program} {N:Nf} {v0:Vw} {H0:Hp} {R:Exit->Act->World->Prop} {K:List Kt} {fr:Fr} {H:Hp} {Γ:List Fct}
theorem aL_ {k:Act->World->Prop} {b:Nat} {cs:List Value} {T:TypeId} {fz:Nat×Nat} {F:Hp} (xs:List Value) (A:H.Perm ([(b,.cells cs.toArray T fz)]++F)) (C:cs=xs) (h:Ok N v0 H0 k fr F (L_ (some ⟨b,0,none⟩) xs::Γ)):Ok N v0 H0 k fr H Γ :=
  hy_ (L_ (some ⟨b,0,none⟩) xs) A (λv B y _=>.inr ⟨b,0,cs.toArray,T,fz,rfl,B,y,λj x m=>by rw[yba_,C];simpa using m⟩) h
theorem satNil {v:Vw} (h:v.sat H):v.sat []:=⟨(λ_ h=>by cases h),zai_,h.lt⟩
variable {ops:Array Oper} {l:List Oper} {d:Nat} {ty:TypeId} {ps:String} {af:Array Edge}
theorem tC_ {x y:Operand} {t C:TypeId} {m n:Int} (E:Fr.ev fr x=some (.int .i64 m)) (B:Fr.ev fr y=some (.int .i64 n)) :
    Yld P N fr H Γ (.call ⟨.builtin .min,#[x,y],#[t,C]⟩) ty (.int .i64 (if n<m then n else m)) :=
  λa v A F _ _ _ _=>by simp[execOp,resolve,invoke,builtin,Builtin.min_,Builtin.min2,A.ev E,A.ev B]
theorem yG_ {x y:Operand} {t C:TypeId} {m n:Int} (E:Fr.ev fr x=some (.int .i64 m)) (B:Fr.ev fr y=some (.int .i64 n)) :
    Yld P N fr H Γ (.call ⟨.builtin .max,#[x,y],#[t,C]⟩) ty (.int .i64 (if m<n then n else m)) :=
  λa v A F _ _ _ _=>by simp[execOp,resolve,invoke,builtin,Builtin.max_,Builtin.max2,A.ev E,A.ev B]
theorem yF_ {t E:TypeId} {x y:Operand} {m n:Int} (F:Fr.ev fr x=some (.int .i64 m)) (C:Fr.ev fr y=some (.int .i64 n)) (G:n≠0) (B:IntKind.wrap .i64 (m.tdiv n)=m.tdiv n) :
    Yld P N fr H Γ (.binOp .quo t x y E) ty (.int .i64 (m.tdiv n)) :=
  λa v A _ _ _ _ _=>by simp[execOp,A.ev F,A.ev C,eqGuard,binOp,Op.intDiv,G,B]
theorem zL_ (z:Value) (n:Nat):madeCells #[z] (n*1)=(List.replicate n z).toArray:=by
 unfold madeCells
 apply Array.ext
 .simp
 intro i m v;simp at m v ⊢
 have:i%1=0:=Nat.mod_one i;simp[this]
theorem vk_ {t e:TypeId} {x y:Operand} {n by':Nat} {z:Value} (E:P.underlying t=some (.slice e)) (hi:(P.info? e).map (λi=>(i.zero,i.size,i.bytes))=some (some z,1,by')) (L:z.cells=#[z]) (F:Fr.ev fr x=some (.int .i64 (n:Int))) (C:Fr.ev fr y=some (.int .i64 (n:Int)))
    (M:by'*n<=281474976710656) (J:n<=9223372036854775807) (G:Nat.blt d N.n=true)
    (I:∀ b,Ops P R N v0 H0 ops l K ((d,.slice (some ⟨b,0,none⟩) n n)::fr) ((b,.cells (List.replicate n z).toArray e (0,0))::H) Γ):Ops P R N v0 H0 ops (⟨some d,.makeSlice t x y,ty,ps,af,none⟩::l) K fr H Γ:=by
  refine fd_ (x:=λb=>.slice (some ⟨b,0,none⟩) n n) G (λa v B _ _=>?_) I;cases h:P.info? e with
  | none=>rw[h]at hi;cases hi
  | some i =>
    rw[h]at hi;simp only[yaX_,yam_,ybD_]at hi
    have m:(i.bytes:Int)*(n:Int)<=281474976710656:=by
      rw[hi.2.2];have h:((by'*n:Nat):Int)<=281474976710656:=by omega
      rwa [ydy_]at h
    have A:=run_make (P:=P) v.w t e i z E h hi.1 .i64 .i64 (n:Int) (n:Int) zaa_ (Int.le_refl _) m zaa_;rw[hi.2.1,L,ybw_,zL_]at A;simp only[execOp,B.ev F,B.ev C];simp[A]
theorem nh_ {t:TypeId} {x y:Operand} {b off:Nat} (i:Nat) {m v:List Value} {z u:Value} {T:TypeId} (F:∀ w,(sizeOf t).run P w=.ok 1 w)
    (G:Fr.ev fr x=some (.pointer (some ⟨b,off,none⟩))) (E:Fr.ev fr y=some u) (hi:H[i]? = some (b,.cells (m++z::v).toArray T (0,0))) (C:off=m.length) (B:u.cells=#[u]) (A:u.oneCell'=true)
    (I:Ops P R N v0 H0 ops l K fr (H.set i (b,.cells (m++u::v).toArray T (0,0))) Γ) :
    Ops P R N v0 H0 ops (⟨none,.store t x y,ty,ps,af,none⟩::l) K fr H Γ:=by
  subst C;refine n_ i F G E hi (by rw[B];rfl) zai_ (by rw[B];simpa using A) ?_
  have e:(((m++z::v).toArray.toList.take m.length++u.cells.toList++(m++z::v).toArray.toList.drop (m.length+1)).toArray)=(m++u::v).toArray:=by
    rw[B]
    have J:(m++z::v).drop (m.length+1)=v:=by
      rw[<-List.drop_drop];simp
    simp[J]
  rw[e];exact I
theorem qH_ {b cap n:Nat}:sad (some ⟨b,0,none⟩) cap 0 n=some ⟨b,0,none⟩:=by unfold sad;split<;>simp[de_]
end
theorem oo_ {cs us m:List Value} {k:Nat} (off:Nat) (h:∀ j y,us[j]? = some y->cs[k+j]? = some y) (v:∀ (j:Nat) y,m[j]? = some y->us[off+j]? = some y):∀ j y,m[j]? = some y->cs[k+off+j]? = some y:=λj y x=>by
  rw[ycF_];exact h _ _ (v j y x)
end Go.Sx
namespace Go.Sx
open Go
section
variable {P:Program} {N:Nf} {v0:Vw} {H0:Hp} {R:Exit->Act->World->Prop} {K:List Kt} {fr:Fr} {H:Hp} {Γ:List Fct}
variable {ops:Array Oper} {l:List Oper} {d:Nat} {ty:TypeId} {ps:String} {af:Array Edge}
theorem cS_ {x y:Operand} {t e:TypeId} {sz by' n m c:Nat} {sv:Value} {xs news:List Value} {Hr F:Hp} {ad:Ao} (O:Elt P t e sz by') (A:ad_ e sz sv n xs Hr)
    (W:Fr.ev fr x=some sv) (V:Fr.ev fr y=some (.slice ad m c)) (U:ad=none->c=0) (a1:m<=c) (L:H.Perm (Hr++F)) (hl:news.length=m*sz) (B:∀ v,v.sat H->Z_ Γ v->bl_ v ad news) (J:∀ u∈news,u.oneCell'=true)
    (I:n+m<=maxLen) (Y:(n+m)*by'<=140737488355328) (X:Nat.blt d N.n=true)
    (S:∀ sv' Hr',ad_ e sz sv' (n+m) (xs++news) Hr'->Ops P R N v0 H0 ops l K ((d,sv')::fr) (Hr'++F) Γ) :
    Ops P R N v0 H0 ops (⟨some d,.call ⟨.builtin .append,#[x,y],#[t,t]⟩,ty,ps,af,none⟩::l) K fr H Γ:=by
  cases ad with
  | none =>
    obtain rfl:=U rfl;obtain rfl:m=0:=by omega
    obtain rfl:news=[]:=yaz_ (by simpa using hl);refine cN_ rfl λa v C E M G=>?_;obtain⟨i,z,hi,U,es,eb,ez⟩:=O.info;have g:=E.perm L;have ho:=A.owns g;have hr:=run_append_owned_none (P:=P) (w:=v.w) 0 t ty e i sz O.und hi sv n xs ho;unfold Oper.wp execOp;simp only[resolve,invoke,builtin,Sem.run_bind,Sem.run_pure,Result.andThen_ok,ybp_,yaF_,ybR_,C.ev W,C.ev V,hr];have T:v.to H v (Hr++F):=(Vw.to.refl v (Hr++F)).permL L.symm;exact S sv Hr zba_ _ v (C.put X) g (M.trans T) G
  | some a0 =>
    refine am_ O A W V L hl (λv E G j u Q=>?_) J I Y X S;rcases B v E G with h|⟨b,off,arr,T,fz,C,_,M,Z⟩
    . rw[h]at Q;simp at Q
    . rw[yam_]at C
      subst C;have:=Z j u Q;rw[de_];simp[World.cell?,M,this]
theorem gR_ {t e:TypeId} {sz:Nat} (y:∀ w,(underlying t).run P w=.ok (.slice e) w) (A:∀ w,(sizeOf e).run P w=.ok sz w) (B:Nat.blt d N.n=true)
    (m:∀ b,Ops P R N v0 H0 ops l K ((d,.slice (some ⟨b,0,none⟩) 0 0)::fr) ((b,.cells #[] e (0,0))::H) Γ):Ops P R N v0 H0 ops (⟨some d,.buildSlice t 0 #[],ty,ps,af,none⟩::l) K fr H Γ :=
  fd_ (x:=λb=>.slice (some ⟨b,0,none⟩) 0 0) B (λa v G C E=>by
    simp only[execOp,Instr.buildSlice,Sem.run_bind,y,Result.andThen_ok,A,ybp_];rw[yaf_ zaa_,yaq_ zaa_,ydk_,show Array.range 0=#[] by simp];simp only[Sem.run_bind,Sem.run_pure,Result.andThen_ok,ybR_,ybp_,ycM_,Instr.fill];rfl) m
theorem aZ_ {k:Act->World->Prop} {e:TypeId} {sz n:Nat} {sv:Value} {xs:List Value} {Hr F:Hp} (x:ad_ e sz sv n xs Hr) (y:H.Perm (Hr++F))
    (h:∀ ad cap,sv=.slice ad n cap->n<=cap->cap<=maxLen->(ad=none->cap=0)->Ok N v0 H0 k fr F (L_ ad xs::Γ)):Ok N v0 H0 k fr H Γ:=by
  refine cd_ x y λad cap m C A=>h ad cap m C A λB=>?_;rcases x.2 with⟨v,_,_⟩|⟨g,c,cur,v,_⟩
  . rw[v]at m
    simp only[Value.slice.injEq]at m;exact m.2.2.symm
  . rw[v,B]at m
    simp at m
theorem wB_ {cap i n:Nat} {ad:Ao} (h:sad ad cap i n=none):ad=none:=by
 unfold sad at h
 split at h
 .exact h
 simpa using h
end
end Go.Sx
namespace Go.Sx
open Go
section
variable {P:Program} {N:Nf} {fr:Fr} {H:Hp} {Γ:List Fct} {ty:TypeId} {e:TypeId} {sz n:Nat} {sv:Value} {xs:List Value} {Hr F:Hp}
theorem fc_ {O:Hp}:List.Perm (O++[]) O:=by rw[yaL_]
theorem bg_ {O Q:Hp}:List.Perm (Q++O) (O++Q):=yax_
theorem E_ {O:Hp} {b:Nat×Obj}:List.Perm (b::O) (O++[b]):=yax_ (l₁:=[b])
theorem oC_ {H:Hp}:List.Perm ([]++H) H:=.refl _
def svB:Value->Nat
  | .slice (some a) _ _=>a.block
  | _=>0
theorem bU_ {x:Operand} {t A:TypeId} (m:ad_ e sz sv n xs Hr) (v:∀ w,(underlying t).run P w=.ok (.slice A) w) (y:Fr.ev fr x=some sv):Yld P N fr H Γ (.call ⟨.builtin .len,#[x],#[t]⟩) ty (.int .i64 (n:Int)):=by
 rcases m.2 with⟨rfl,rfl,_⟩|⟨g,cap,cur,rfl,_⟩
 .exact fS_ v y
 exact fS_ v y
theorem aE_ {x y:Operand} {t v:TypeId} {k:IntKind} {i:Int} (m:ad_ e sz sv n xs Hr) (B:∀ w,(underlying t).run P w=.ok (.slice v) w) (E:∀ w,(sizeOf v).run P w=.ok sz w) (G:Fr.ev fr x=some sv) (A:Fr.ev fr y=some (.int k i)) (C:0<=i) (hl:i<n) :
    Yld P N fr H Γ (.indexAddr t x y) ty (.pointer (some ⟨svB sv,i.toNat*sz,none⟩)):=by
  rcases m.2 with⟨_,I,_⟩|⟨g,cap,cur,rfl,_⟩
  . omega
  . have:=gL_ (P:=P) (N:=N) (H:=H) (Γ:=Γ) (ty:=ty) B E G A C hl
    rw[yba_]at this;exact this
theorem gK_ {x:Operand} {t:TypeId} {k m:Nat} {us:List Value} (A:ad_ e sz sv n xs Hr) (I:H.Perm (Hr++F)) (T:∀ w,(isAgg t).run P w=.ok true w) (L:∀ w,(sizeOf t).run P w=.ok m w) (M:Fr.ev fr x=some (.pointer (some ⟨svB sv,k,none⟩)))
    (O:us.length=m) (V:0<m) (G:∀ j y,us[j]? = some y->xs[k+j]? = some y):Yld P N fr H Γ (.load t x) ty (.agg us.toArray):=by
  rcases A.2 with⟨_,C,_⟩|⟨g,cap,cur,rfl,rfl,W,X,Y,Q⟩
  . subst C
    have U:=A.1;have:xs=[]:=yaz_ (by simpa using U);subst this;have:=G 0 us[0] (yaa_ zaa_);simp at this
  . refine eN_ M λv C _=>cy_ T L O λj y S=>?_
    have J:=((C.perm I).own _ (yal_ _ yau_)).1;have B:=G j y S;rw[<-Q,ybg_]at B
    split at B
    . have E:cur[k+j]? = some y:=by simpa using B
      simp only[svB,World.cell?,J,ycS_,ybl_,yca_];exact E
    . cases B
end
end Go.Sx
namespace Go.Sx
open Go
section
variable {P:Program} {N:Nf} {fr:Fr} {H:Hp} {Γ:List Fct} {ty:TypeId} {e:TypeId} {sz n:Nat} {sv:Value} {xs:List Value} {Hr F:Hp}
theorem bA_ {x:Operand} {t:TypeId} {k:Nat} {u:Value} (m:ad_ e sz sv n xs Hr) (C:H.Perm (Hr++F)) (J:∀ w,(isAgg t).run P w=.ok false w) (G:Fr.ev fr x=some (.pointer (some ⟨svB sv,k,none⟩)))
    (y:xs[k]? = some u):Yld P N fr H Γ (.load t x) ty u:=by
  rcases m.2 with⟨_,A,_⟩|⟨g,cap,cur,rfl,rfl,L,M,O,I⟩
  . subst A
    have:xs=[]:=yaz_ (by simpa using m.1);subst this;simp at y
  . refine eN_ G λv A _=>bQ_ J ?_
    have E:=((A.perm C).own _ (yal_ _ yau_)).1;rw[<-I,ybg_]at y
    split at y
    . have B:cur[k]? = some u:=by simpa using y
      simp only[svB,World.cell?,E,ycS_,ybl_,yca_];exact B
    . cases y
theorem dX_ (h:ad_ e sz sv n xs Hr):sv.cells=#[sv]/\sv.oneCell'=true:=by
  rcases h.2 with⟨rfl,_⟩|⟨g,cap,cur,rfl,_⟩<;>exact⟨rfl,rfl⟩
theorem dm_ {v0:Vw} {H0:Hp} {R:Exit->Act->World->Prop} {K:List Kt} {ops:Array Oper} {l:List Oper} {ps:String} {af:Array Edge} {t:TypeId} {x y:Operand} {b off:Nat} (i:Nat) {cur:Array Value} {T:TypeId} (m:ad_ e sz sv n xs Hr) (B:∀ w,(sizeOf t).run P w=.ok 1 w)
    (C:Fr.ev fr x=some (.pointer (some ⟨b,off,none⟩))) (A:Fr.ev fr y=some sv) (hi:H[i]? = some (b,.cells cur T (0,0))) (v:Nat.ble (off+1) cur.size=true)
    (E:Ops P R N v0 H0 ops l K fr (H.set i (b,.cells (cur.toList.take off++[sv]++cur.toList.drop (off+1)).toArray T (0,0))) Γ):Ops P R N v0 H0 ops (⟨none,.store t x y,ty,ps,af,none⟩::l) K fr H Γ :=
  n_ i B C A hi (by rw[(dX_ m).1];rfl) v (by rw[(dX_ m).1];simp[(dX_ m).2]) (by rw[(dX_ m).1];exact E)
theorem mB_ {x y:Operand} {t A:TypeId} {m k:Int} (B:Fr.ev fr x=some (.int .i64 m)) (v:Fr.ev fr y=some (.int .i64 k)):Yld P N fr H Γ (.call ⟨.builtin .max,#[x,y],#[t,A]⟩) ty (.int .i64 (max m k)):=by
  have e:(if m<k then k else m)=max m k:=by split<;>omega
  exact e▸yG_ B v
theorem jJ_ {x y:Operand} {t A:TypeId} {m k:Int} (B:Fr.ev fr x=some (.int .i64 m)) (v:Fr.ev fr y=some (.int .i64 k)):Yld P N fr H Γ (.call ⟨.builtin .min,#[x,y],#[t,A]⟩) ty (.int .i64 (min m k)):=by
  have e:(if k<m then k else m)=min m k:=by split<;>omega
  exact e▸tC_ B v
theorem eR_ {b:Nat} {cs:List Value} {T:TypeId} {fz:Nat×Nat} (m:H.Perm ([(b,.cells cs.toArray T fz)]++F)):∀ v:Vw,v.sat H->Z_ Γ v->∀ j u,cs[j]? = some u->v.w.cell? ((⟨b,0,none⟩:Addr).add j)=some u:=by
  intro v A y j u x;exact ba_ (Γ:=Γ) 0 rfl v (A.perm m) y j u x
theorem vY_ {t C:TypeId} {x y:Operand} {m n:Bool} (E:P.underlying t=some .bool) (G:Fr.ev fr x=some (.bool m)) (B:Fr.ev fr y=some (.bool n)):Yld P N fr H Γ (.binOp .eql t x y C) ty (.bool (m==n)) :=
  λa v A _ _ _ _ _=>by simp[execOp,A.ev G,A.ev B,eqGuard,binOp,run_equal_bool v.w t m n E]
theorem aG_ {α:Type} {f:α->List Value} (m:∀ x,(f x).all Value.oneCell'=true) {l:List α} {u:Value} (h:u∈l.flatMap f):u.oneCell'=true:=by
  obtain⟨y,_,v⟩:=yar_.1 h;exact yaQ_.1 (m y) u v
end
end Go.Sx
namespace Go.Vs
open Go Go.Sx
structure RevI (L M:List Int) (k:Nat):Prop where
  len:M.length=L.length
  k2:2*k<=L.length+1
  get:∀ i:Nat,i<L.length->M[i]? = if i<k\/L.length<=i+k then L[L.length - 1 - i]? else L[i]?
theorem RevI.zero (L:List Int):RevI L L 0:=⟨rfl,by omega,λi hi=>by rw[yaf_ zaa_]⟩
theorem RevI.step {L M:List Int} {k:Nat} {a b:Int} (h:RevI L M k) (C:(k:Int)<(L.length:Int) - 1 - (k:Int)) (A:M[L.length - 1 - k]? = some a) (B:M[k]? = some b):RevI L ((M.set k a).set (L.length - 1 - k) b) (k+1):=by
 have hl:=h.len;refine⟨by simp[hl],by omega,λi hi=>?_⟩;have m:=h.get (L.length - 1 - k) zaa_;have y:=h.get k zaa_;rw[yaf_ zaa_]at m y;rw[ybm_,ybm_,yaT_]
 by_cases v:L.length - 1 - k=i
 .rw[yaq_ v,yaq_ zaa_,yaq_ zaa_]
  rw[<-B,y];congr 1;omega
 rw[yaf_ v]
 by_cases d:k=i
 .rw[yaq_ d,yaq_ zaa_,yaq_ zaa_,<-A,m,d]
 rw[yaf_ d,h.get i hi]
 by_cases x:i<k\/L.length<=i+k
 .rw[yaq_ x,yaq_ zaa_]
 rw[yaf_ x,yaf_ zaa_]
theorem RevI.done {L M:List Int} {k:Nat} (h:RevI L M k) (d:¬ (k:Int)<(L.length:Int) - 1 - (k:Int)):M=L.reverse:=by
 apply ybx_
 intro i
 by_cases hi:i<L.length
 .rw[h.get i hi,List.getElem?_reverse hi]
  by_cases e:i<k\/L.length<=i+k
  .rw[yaq_ e]
  rw[yaf_ e];congr 1;omega
 rw[ybu_ (by rw[h.len];omega),ybu_ zal_]
def dW_ (a c:Str):Pc:=⟨1,a,[],c,[],[],[],0,0,0⟩
def aw_ (frm:Int):List Str->List Pc->List Pc
  | [],l=>l
  | a::r,l=>aw_ frm r (ins frm l (dW_ a [42]))
theorem dw_ (frm:Int):∀ (r:List Str) (l:List Pc),(aw_ frm r l).length<=l.length+r.length
  | [],l=>by simp[aw_]
  | a::r,l=>by
    have d:=dw_ frm r (ins frm l (dW_ a [42]));have m:=bC_ frm l (dW_ a [42]);simp only[aw_,yai_];omega
theorem kf_ (frm:Int):∀ (xs ys:List Str) (l:List Pc),aw_ frm (xs++ys) l=aw_ frm ys (aw_ frm xs l)
  | [],_,_=>rfl
  | x::xs,ys,l=>by simp only[yav_,aw_];exact kf_ frm xs ys _
theorem sJ_ (frm:Int) {xs:List Str} {a:Str} {i:Nat} (d:xs[i]? = some a) (l:List Pc):aw_ frm (xs.take (i+1)) l=ins frm (aw_ frm (xs.take i) l) (dW_ a [42]):=by
  rw[yao_,d,yaC_,kf_];rfl
def cq_ (s:Str):Str:=[123]++s++[125]
def Ax.disj (x:Ax):Str:=[60]++x.left.operandN++[32,97,110,100,32]++x.right.operandN++[62]
def Ax.doms (x:Ax):Str:=[60,115,111,109,101,32]++x.role++[32,101,118,101,114,121,116,104,105,110,103,62]
def Ax.goalP (x:Ax):List Pc×List Fc×Int :=
  if x.check≠0 then ([],[],x.check)
  else if x.kind=1 then (x.right.leftP (-1) (x.left.rightP (-1) (aw_ (-1) [x.left.atom,x.right.atom] [])),[⟨1,x.left.atom,x.right.atom,[],0,0⟩],0)
  else if x.kind=2 then (x.left.leftP (-1) (x.right.rightP (-1) (x.right.leftP (-1) (x.left.rightP (-1) (aw_ (-1) [x.left.atom,x.right.atom] [])))),[⟨1,x.left.atom,x.right.atom,[],0,0⟩,⟨1,x.right.atom,x.left.atom,[],0,0⟩],0)
  else if x.kind=3 then (x.right.rightP (-1) (ins (-1) (x.left.rightP (-1) (ins (-1) (aw_ (-1) [x.disj,[33]] []) (dW_ x.disj x.left.atom))) (dW_ x.disj x.right.atom)),[⟨1,x.disj,[33],[],0,0⟩],0)
  else if x.kind=4 then (x.right.leftP (-1) (ins (-1) (aw_ (-1) [x.doms,x.right.atom] []) ⟨3,x.doms,[],[42],x.role,[],[],0,0,0⟩),[⟨1,x.doms,x.right.atom,[],0,0⟩],0)
  else if x.kind=8 then (x.right.leftP (-1) (aw_ (-1) [cq_ x.a,x.right.atom] []),[⟨1,cq_ x.a,x.right.atom,[],0,0⟩],0)
  else if x.kind=9 then (aw_ (-1) [cq_ x.a,cq_ x.b] [],[⟨2,cq_ x.a,cq_ x.b,x.role,0,0⟩],0)
  else ([],[],22)
theorem Con.operandN_len {c:Con} (d:c.ok):c.operandN.length<=6402:=by
  have:=Con.textN_len d;unfold operandN
  split<;>simp<;>omega
end Go.Vs
namespace Go.Proofs
open Go.Shelf
def Tryz.lays156_ren:Go.Shelf.Ren:=⟨fun|156=>308|165=>321|166=>322|169=>323|240=>327|241=>328|276=>330|277=>331|n=>n,fun|31=>34|9=>9|3=>3|4=>4|0=>0|20=>20|72=>383|76=>387|70=>381|37=>23|75=>386|127=>391|164=>397|5=>5|80=>389|n=>n,fun|n=>n⟩
theorem Tryz.lays156:Go.Proofs.Lays.n156 Tryz.prog Tryz.lays156_ren:={
  mixed:=by kernel_rfl
  f156:=Tryz.func308.trans (yah_ some zad_)
  f165:=Tryz.func321.trans (yah_ some zad_)
  f166:=Tryz.func322.trans (yah_ some zad_)
  f169:=Tryz.func323.trans (yah_ some zad_)
  f240:=Tryz.func327.trans (yah_ some zad_)
  f241:=Tryz.func328.trans (yah_ some zad_)
  f276:=Tryz.func330.trans (yah_ some zad_)
  f277:=Tryz.func331.trans (yah_ some zad_)
  t0:=Tryz.underlying0
  a0:=Tryz.isAgg0
  z0:=Tryz.sizeOf0
  v0:=Tryz.zeroValue0
  t3:=Tryz.underlying3
  a3:=Tryz.isAgg3
  z3:=Tryz.sizeOf3
  v3:=Tryz.zeroValue3
  t4:=Tryz.underlying4
  a4:=Tryz.isAgg4
  z4:=Tryz.sizeOf4
  v4:=Tryz.zeroValue4
  t9:=Tryz.underlying9
  a9:=Tryz.isAgg9
  z9:=Tryz.sizeOf9
  v9:=Tryz.zeroValue9
  t20:=Tryz.underlying20
  a20:=Tryz.isAgg20
  z20:=Tryz.sizeOf20
  v20:=Tryz.zeroValue20
  t31:=Tryz.underlying34
  a31:=Tryz.isAgg34
  z31:=Tryz.sizeOf34
  v31:=Tryz.zeroValue34
  t37:=Tryz.underlying23
  a37:=Tryz.isAgg23
  z37:=Tryz.sizeOf23
  v37:=Tryz.zeroValue23
  t70:=Tryz.underlying381
  a70:=Tryz.isAgg381
  z70:=Tryz.sizeOf381
  v70:=Tryz.zeroValue381
  t72:=Tryz.underlying383
  a72:=Tryz.isAgg383
  z72:=Tryz.sizeOf383
  v72:=Tryz.zeroValue383
  t75:=Tryz.underlying386
  a75:=Tryz.isAgg386
  z75:=Tryz.sizeOf386
  v75:=Tryz.zeroValue386
  t76:=Tryz.underlying387
  a76:=Tryz.isAgg387
  z76:=Tryz.sizeOf387
  v76:=Tryz.zeroValue387
  t127:=Tryz.underlying391
  a127:=Tryz.isAgg391
  z127:=Tryz.sizeOf391
  v127:=Tryz.zeroValue391
  t164:=Tryz.underlying397
  a164:=Tryz.isAgg397
  z164:=Tryz.sizeOf397
  v164:=Tryz.zeroValue397 }
theorem Tryz.Builder_Extra_156:Builder.Extra Tryz.prog Tryz.lays156_ren:={
  sizeBuilder:=by kernel_rfl
  liesBuilder:=by kernel_rfl
  t5:=Tryz.underlying5
  a5:=Tryz.isAgg5
  z5:=Tryz.sizeOf5
  v5:=Tryz.zeroValue5
  infoByte:=by kernel_rfl
  cellsByte:=by kernel_rfl
  sizeByte:=by kernel_rfl
  neB5:=by decide }
open Go.RowKit in
theorem Tryz.strings_Join (bk o c:Nat) (xs:List ByteArray) (d:ByteArray) (w:World) (m:∀ (j:Nat) x,xs[j]? = some x->w.cell? ⟨bk,o+j,none⟩=some (.string x)) (A:bk<w.heap.size) (B:xs.length<=140737488355328) (v:xs.length<=c) (y:(Lib.join (xs.map (·.data.toList)) d.data.toList).length<=140737488355328) :
    Calls Tryz.prog 308 #[.slice (some ⟨bk,o,none⟩) xs.length c,.string d] w λe w'=>e=.returned (.string ⟨(Lib.join (xs.map (·.data.toList)) d.data.toList).toArray⟩)/\Below w.heap.size w w':=Any.strings_Join Tryz.lays156 Tryz.Builder_Extra_156 bk o c xs d w m A B v y
def Tryz.lays122_ren:Go.Shelf.Ren:=⟨fun|122=>84|215=>135|n=>n,fun|3=>3|4=>4|n=>n,fun|n=>n⟩
theorem Tryz.lays122:Go.Proofs.Lays.n122 Tryz.prog Tryz.lays122_ren:={
  mixed:=by kernel_rfl
  f122:=Tryz.func84.trans (yah_ some zad_)
  f215:=Tryz.func135.trans (yah_ some zad_)
  t3:=Tryz.underlying3
  a3:=Tryz.isAgg3
  z3:=Tryz.sizeOf3
  v3:=Tryz.zeroValue3
  t4:=Tryz.underlying4
  a4:=Tryz.isAgg4
  z4:=Tryz.sizeOf4
  v4:=Tryz.zeroValue4 }
open Go.RowKit in
theorem Tryz.cmp_Compare_int (x y:Int) (w:World) :
    Calls Tryz.prog 84 #[.int .i64 x,.int .i64 y] w λe w'=>e=.returned (.int .i64 (Lib.compareInt x y))/\w'=w:=Any.cmp_Compare_int Tryz.lays122 x y w
def Tryz.laysM171_ren:Go.Shelf.Ren:=⟨fun|171=>310|243=>324|246=>329|283=>332|284=>333|285=>334|286=>335|129=>134|317=>336|318=>337|319=>338|320=>339|337=>340|338=>341|n=>n,fun|3=>3|9=>9|2=>2|4=>4|171=>400|0=>0|53=>213|37=>23|5=>5|173=>402|212=>405|51=>211|20=>20|213=>406|46=>149|232=>407|233=>408|n=>n,fun|17=>6|18=>7|19=>8|n=>n⟩
theorem Tryz.laysM171:Go.Proofs.LaysM.n171 Tryz.prog Tryz.laysM171_ren:={
  mixed:=by kernel_rfl
  f129:=Tryz.func134.trans (yah_ some zad_)
  f171:=Tryz.func310.trans (yah_ some zad_)
  f243:=Tryz.func324.trans (yah_ some zad_)
  f246:=Tryz.func329.trans (yah_ some zad_)
  f283:=Tryz.func332.trans (yah_ some zad_)
  f284:=Tryz.func333.trans (yah_ some zad_)
  f285:=Tryz.func334.trans (yah_ some zad_)
  f286:=Tryz.func335.trans (yah_ some zad_)
  f317:=Tryz.func336.trans (yah_ some zad_)
  f318:=Tryz.func337.trans (yah_ some zad_)
  f319:=Tryz.func338.trans (yah_ some zad_)
  f320:=Tryz.func339.trans (yah_ some zad_)
  f337:=Tryz.func340.trans (yah_ some zad_)
  f338:=Tryz.func341.trans (yah_ some zad_)
  t0:=Tryz.underlying0
  a0:=Tryz.isAgg0
  z0:=Tryz.sizeOf0
  v0:=Tryz.zeroValue0
  t2:=Tryz.underlying2
  a2:=Tryz.isAgg2
  z2:=Tryz.sizeOf2
  v2:=Tryz.zeroValue2
  t3:=Tryz.underlying3
  a3:=Tryz.isAgg3
  z3:=Tryz.sizeOf3
  v3:=Tryz.zeroValue3
  t4:=Tryz.underlying4
  a4:=Tryz.isAgg4
  z4:=Tryz.sizeOf4
  v4:=Tryz.zeroValue4
  t5:=Tryz.underlying5
  a5:=Tryz.isAgg5
  z5:=Tryz.sizeOf5
  v5:=Tryz.zeroValue5
  t9:=Tryz.underlying9
  a9:=Tryz.isAgg9
  z9:=Tryz.sizeOf9
  v9:=Tryz.zeroValue9
  t20:=Tryz.underlying20
  a20:=Tryz.isAgg20
  z20:=Tryz.sizeOf20
  v20:=Tryz.zeroValue20
  t37:=Tryz.underlying23
  a37:=Tryz.isAgg23
  z37:=Tryz.sizeOf23
  v37:=Tryz.zeroValue23
  t46:=Tryz.underlying149
  a46:=Tryz.isAgg149
  z46:=Tryz.sizeOf149
  v46:=Tryz.zeroValue149
  t51:=Tryz.underlying211
  a51:=Tryz.isAgg211
  z51:=Tryz.sizeOf211
  v51:=Tryz.zeroValue211
  t53:=Tryz.underlying213
  a53:=Tryz.isAgg213
  z53:=Tryz.sizeOf213
  v53:=Tryz.zeroValue213
  t171:=Tryz.underlying400
  a171:=Tryz.isAgg400
  z171:=Tryz.sizeOf400
  v171:=Tryz.zeroValue400
  t173:=Tryz.underlying402
  a173:=Tryz.isAgg402
  z173:=Tryz.sizeOf402
  v173:=Tryz.zeroValue402
  t212:=Tryz.underlying405
  a212:=Tryz.isAgg405
  z212:=Tryz.sizeOf405
  v212:=Tryz.zeroValue405
  t213:=Tryz.underlying406
  a213:=Tryz.isAgg406
  z213:=Tryz.sizeOf406
  t232:=Tryz.underlying407
  a232:=Tryz.isAgg407
  z232:=Tryz.sizeOf407
  v232:=Tryz.zeroValue407
  t233:=Tryz.underlying408
  a233:=Tryz.isAgg408
  z233:=Tryz.sizeOf408
  v233:=Tryz.zeroValue408
  g17:=by kernel_rfl
  g18:=by kernel_rfl
  g19:=by kernel_rfl
  i0:=by kernel_rfl
  i2:=by kernel_rfl
  i3:=by kernel_rfl
  i4:=by kernel_rfl
  i5:=by kernel_rfl
  i9:=by kernel_rfl
  i20:=by kernel_rfl
  i37:=by kernel_rfl
  i46:=by kernel_rfl
  i51:=by kernel_rfl
  i53:=by kernel_rfl
  i171:=by kernel_rfl
  i173:=by kernel_rfl
  i212:=by kernel_rfl
  i232:=by kernel_rfl
  i233:=by kernel_rfl
  m17:=by kernel_rfl
  m18:=by kernel_rfl
  m19:=by kernel_rfl }
open Go.RowKit Go.Sort Go.Lib in
theorem Tryz.strconv_Itoa (n : Int) (v : -9223372036854775808<=n) (m : n<=9223372036854775807) (w : World) (d : Lib.TabIs Tryz.prog w "internal/strconv.uint64pow10" .u64 Lib.pow10Tab) :
    Calls Tryz.prog 310 #[.int .i64 n] w λe w'=>e=.returned (.string ⟨(Lib.itoa n).toArray⟩)/\∃ k os,w'=grow (w.drewN k) os:=Any.strconv_Itoa Tryz.laysM171 n v m w d
def Tryz.lays219_ren:Go.Shelf.Ren:=⟨fun|219=>268|217=>303|225=>304|224=>305|267=>306|266=>319|314=>320|n=>n,fun|9=>9|3=>3|4=>4|5=>5|46=>149|146=>379|51=>211|n=>n,fun|1=>3|n=>n⟩
theorem Tryz.lays219:Go.Proofs.Lays.n219 Tryz.prog Tryz.lays219_ren:={
  mixed:=by kernel_rfl
  f217:=Tryz.func303.trans (yah_ some zad_)
  f219:=Tryz.func268.trans (yah_ some zad_)
  f224:=Tryz.func305.trans (yah_ some zad_)
  f225:=Tryz.func304.trans (yah_ some zad_)
  f266:=Tryz.func319.trans (yah_ some zad_)
  f267:=Tryz.func306.trans (yah_ some zad_)
  f314:=Tryz.func320.trans (yah_ some zad_)
  t3:=Tryz.underlying3
  a3:=Tryz.isAgg3
  z3:=Tryz.sizeOf3
  v3:=Tryz.zeroValue3
  t4:=Tryz.underlying4
  a4:=Tryz.isAgg4
  z4:=Tryz.sizeOf4
  v4:=Tryz.zeroValue4
  t5:=Tryz.underlying5
  a5:=Tryz.isAgg5
  z5:=Tryz.sizeOf5
  v5:=Tryz.zeroValue5
  t9:=Tryz.underlying9
  a9:=Tryz.isAgg9
  z9:=Tryz.sizeOf9
  v9:=Tryz.zeroValue9
  t46:=Tryz.underlying149
  a46:=Tryz.isAgg149
  z46:=Tryz.sizeOf149
  v46:=Tryz.zeroValue149
  t51:=Tryz.underlying211
  a51:=Tryz.isAgg211
  z51:=Tryz.sizeOf211
  v51:=Tryz.zeroValue211
  t146:=Tryz.underlying379
  a146:=Tryz.isAgg379
  z146:=Tryz.sizeOf379
  v146:=Tryz.zeroValue379
  g1:=by kernel_rfl }
open Go.RowKit Go.Lib in
theorem Tryz.stringslite_Index_one (s:ByteArray) (c:UInt8) (w:World) :
    Calls Tryz.prog 268 #[.string s,.string ⟨#[c]⟩] w λe w'=>e=.returned (.int .i64 (Lib.indexByte s.data.toList c))/\w'=w:=Any.stringslite_Index_one Tryz.lays219 s c w
def Tryz.lays143_ren:Go.Shelf.Ren:=⟨fun|143=>287|219=>268|217=>303|225=>304|224=>305|267=>306|266=>319|314=>320|n=>n,fun|9=>9|3=>3|4=>4|5=>5|46=>149|146=>379|51=>211|n=>n,fun|1=>3|n=>n⟩
theorem Tryz.lays143:Go.Proofs.Lays.n143 Tryz.prog Tryz.lays143_ren:={
  mixed:=by kernel_rfl
  f143:=Tryz.func287.trans (yah_ some zad_)
  f217:=Tryz.func303.trans (yah_ some zad_)
  f219:=Tryz.func268.trans (yah_ some zad_)
  f224:=Tryz.func305.trans (yah_ some zad_)
  f225:=Tryz.func304.trans (yah_ some zad_)
  f266:=Tryz.func319.trans (yah_ some zad_)
  f267:=Tryz.func306.trans (yah_ some zad_)
  f314:=Tryz.func320.trans (yah_ some zad_)
  t3:=Tryz.underlying3
  a3:=Tryz.isAgg3
  z3:=Tryz.sizeOf3
  v3:=Tryz.zeroValue3
  t4:=Tryz.underlying4
  a4:=Tryz.isAgg4
  z4:=Tryz.sizeOf4
  v4:=Tryz.zeroValue4
  t5:=Tryz.underlying5
  a5:=Tryz.isAgg5
  z5:=Tryz.sizeOf5
  v5:=Tryz.zeroValue5
  t9:=Tryz.underlying9
  a9:=Tryz.isAgg9
  z9:=Tryz.sizeOf9
  v9:=Tryz.zeroValue9
  t46:=Tryz.underlying149
  a46:=Tryz.isAgg149
  z46:=Tryz.sizeOf149
  v46:=Tryz.zeroValue149
  t51:=Tryz.underlying211
  a51:=Tryz.isAgg211
  z51:=Tryz.sizeOf211
  v51:=Tryz.zeroValue211
  t146:=Tryz.underlying379
  a146:=Tryz.isAgg379
  z146:=Tryz.sizeOf379
  v146:=Tryz.zeroValue379
  g1:=by kernel_rfl }
open Go.RowKit Go.Lib in
theorem Tryz.strings_Index_one (s:ByteArray) (c:UInt8) (w:World) :
    Calls Tryz.prog 287 #[.string s,.string ⟨#[c]⟩] w λe w'=>e=.returned (.int .i64 (Lib.indexByte s.data.toList c))/\w'=w:=Any.strings_Index_one Tryz.lays143 s c w
def Tryz.lays138_ren:Go.Shelf.Ren:=⟨fun|138=>286|195=>311|218=>313|143=>287|219=>268|217=>303|225=>304|224=>305|267=>306|266=>319|314=>320|n=>n,fun|9=>9|3=>3|4=>4|5=>5|0=>0|46=>149|146=>379|51=>211|n=>n,fun|1=>3|n=>n⟩
theorem Tryz.lays138:Go.Proofs.Lays.n138 Tryz.prog Tryz.lays138_ren:={
  mixed:=by kernel_rfl
  f138:=Tryz.func286.trans (yah_ some zad_)
  f143:=Tryz.func287.trans (yah_ some zad_)
  f195:=Tryz.func311.trans (yah_ some zad_)
  f217:=Tryz.func303.trans (yah_ some zad_)
  f218:=Tryz.func313.trans (yah_ some zad_)
  f219:=Tryz.func268.trans (yah_ some zad_)
  f224:=Tryz.func305.trans (yah_ some zad_)
  f225:=Tryz.func304.trans (yah_ some zad_)
  f266:=Tryz.func319.trans (yah_ some zad_)
  f267:=Tryz.func306.trans (yah_ some zad_)
  f314:=Tryz.func320.trans (yah_ some zad_)
  t0:=Tryz.underlying0
  a0:=Tryz.isAgg0
  z0:=Tryz.sizeOf0
  v0:=Tryz.zeroValue0
  t3:=Tryz.underlying3
  a3:=Tryz.isAgg3
  z3:=Tryz.sizeOf3
  v3:=Tryz.zeroValue3
  t4:=Tryz.underlying4
  a4:=Tryz.isAgg4
  z4:=Tryz.sizeOf4
  v4:=Tryz.zeroValue4
  t5:=Tryz.underlying5
  a5:=Tryz.isAgg5
  z5:=Tryz.sizeOf5
  v5:=Tryz.zeroValue5
  t9:=Tryz.underlying9
  a9:=Tryz.isAgg9
  z9:=Tryz.sizeOf9
  v9:=Tryz.zeroValue9
  t46:=Tryz.underlying149
  a46:=Tryz.isAgg149
  z46:=Tryz.sizeOf149
  v46:=Tryz.zeroValue149
  t51:=Tryz.underlying211
  a51:=Tryz.isAgg211
  z51:=Tryz.sizeOf211
  v51:=Tryz.zeroValue211
  t146:=Tryz.underlying379
  a146:=Tryz.isAgg379
  z146:=Tryz.sizeOf379
  v146:=Tryz.zeroValue379
  g1:=by kernel_rfl }
open Go.RowKit Go.Lib in
theorem Tryz.strings_Count_one (s:ByteArray) (c:UInt8) (w:World) :
    Calls Tryz.prog 286 #[.string s,.string ⟨#[c]⟩] w λe w'=>e=.returned (.int .i64 (Lib.countByte s.data.toList c))/\w'=w:=Any.strings_Count_one Tryz.lays138 s c w
def Tryz.lays190_ren:Go.Shelf.Ren:=⟨fun|190=>65|125=>82|258=>122|128=>133|129=>134|302=>185|303=>186|304=>187|305=>188|306=>189|307=>190|308=>191|309=>192|310=>193|333=>249|329=>196|330=>197|334=>250|335=>251|336=>206|344=>288|n=>n,fun|31=>34|9=>9|3=>3|46=>149|0=>0|51=>211|53=>213|4=>4|183=>204|182=>203|131=>208|5=>5|218=>280|222=>185|228=>326|229=>327|n=>n,fun|n=>n⟩
theorem Tryz.lays190:Go.Proofs.Lays.n190 Tryz.prog Tryz.lays190_ren:={
  mixed:=by kernel_rfl
  f125:=Tryz.func82.trans (yah_ some zad_)
  f128:=Tryz.func133.trans (yah_ some zad_)
  f129:=Tryz.func134.trans (yah_ some zad_)
  f190:=Tryz.func65.trans (yah_ some zad_)
  f258:=Tryz.func122.trans (yah_ some zad_)
  f302:=Tryz.func185.trans (yah_ some zad_)
  f303:=Tryz.func186.trans (yah_ some zad_)
  f304:=Tryz.func187.trans (yah_ some zad_)
  f305:=Tryz.func188.trans (yah_ some zad_)
  f306:=Tryz.func189.trans (yah_ some zad_)
  f307:=Tryz.func190.trans (yah_ some zad_)
  f308:=Tryz.func191.trans (yah_ some zad_)
  f309:=Tryz.func192.trans (yah_ some zad_)
  f310:=Tryz.func193.trans (yah_ some zad_)
  f329:=Tryz.func196.trans (yah_ some zad_)
  f330:=Tryz.func197.trans (yah_ some zad_)
  f333:=Tryz.func249.trans (yah_ some zad_)
  f334:=Tryz.func250.trans (yah_ some zad_)
  f335:=Tryz.func251.trans (yah_ some zad_)
  f336:=Tryz.func206.trans (yah_ some zad_)
  f344:=Tryz.func288.trans (yah_ some zad_)
  t0:=Tryz.underlying0
  a0:=Tryz.isAgg0
  z0:=Tryz.sizeOf0
  v0:=Tryz.zeroValue0
  t3:=Tryz.underlying3
  a3:=Tryz.isAgg3
  z3:=Tryz.sizeOf3
  v3:=Tryz.zeroValue3
  t4:=Tryz.underlying4
  a4:=Tryz.isAgg4
  z4:=Tryz.sizeOf4
  v4:=Tryz.zeroValue4
  t5:=Tryz.underlying5
  a5:=Tryz.isAgg5
  z5:=Tryz.sizeOf5
  v5:=Tryz.zeroValue5
  t9:=Tryz.underlying9
  a9:=Tryz.isAgg9
  z9:=Tryz.sizeOf9
  v9:=Tryz.zeroValue9
  t31:=Tryz.underlying34
  a31:=Tryz.isAgg34
  z31:=Tryz.sizeOf34
  v31:=Tryz.zeroValue34
  t46:=Tryz.underlying149
  a46:=Tryz.isAgg149
  z46:=Tryz.sizeOf149
  v46:=Tryz.zeroValue149
  t51:=Tryz.underlying211
  a51:=Tryz.isAgg211
  z51:=Tryz.sizeOf211
  v51:=Tryz.zeroValue211
  t53:=Tryz.underlying213
  a53:=Tryz.isAgg213
  z53:=Tryz.sizeOf213
  v53:=Tryz.zeroValue213
  t131:=Tryz.underlying208
  a131:=Tryz.isAgg208
  z131:=Tryz.sizeOf208
  v131:=Tryz.zeroValue208
  t182:=Tryz.underlying203
  a182:=Tryz.isAgg203
  z182:=Tryz.sizeOf203
  v182:=Tryz.zeroValue203
  t183:=Tryz.underlying204
  a183:=Tryz.isAgg204
  z183:=Tryz.sizeOf204
  v183:=Tryz.zeroValue204
  t218:=Tryz.underlying280
  a218:=Tryz.isAgg280
  z218:=Tryz.sizeOf280
  v218:=Tryz.zeroValue280
  t222:=Tryz.underlying185
  a222:=Tryz.isAgg185
  z222:=Tryz.sizeOf185
  v222:=Tryz.zeroValue185
  t228:=Tryz.underlying326
  a228:=Tryz.isAgg326
  z228:=Tryz.sizeOf326
  v228:=Tryz.zeroValue326
  t229:=Tryz.underlying327
  a229:=Tryz.isAgg327
  z229:=Tryz.sizeOf327
  v229:=Tryz.zeroValue327 }
open Go.Sort Go.RowKit in
theorem Tryz.slices_Sort_string (d off cap:Nat) (ss:List (List UInt8)) (w:World) (A:Holds encStr w d off ss.toArray) (m:d<w.heap.size) (v:ss.length<4611686018427387904) :
    Calls Tryz.prog 65 #[.slice (some ⟨d,off,none⟩) ss.length cap] w λe w' =>
      e=.returned (.tuple #[])/\∃ n os,w'=grow (putRow encStr (Sort.ahead w n) d off (ss.mergeSort λx y=>decide (x<=y)).toArray) os:=Any.slices_Sort_string Tryz.lays190 d off cap ss w A m v
def Tryz.lays194_ren:Go.Shelf.Ren:=⟨fun|194=>66|n=>n,fun|31=>34|9=>9|3=>3|4=>4|0=>0|n=>n,fun|n=>n⟩
theorem Tryz.lays194:Go.Proofs.Lays.n194 Tryz.prog Tryz.lays194_ren:={
  mixed:=by kernel_rfl
  f194:=Tryz.func66.trans (yah_ some zad_)
  t0:=Tryz.underlying0
  a0:=Tryz.isAgg0
  z0:=Tryz.sizeOf0
  v0:=Tryz.zeroValue0
  t3:=Tryz.underlying3
  a3:=Tryz.isAgg3
  z3:=Tryz.sizeOf3
  v3:=Tryz.zeroValue3
  t4:=Tryz.underlying4
  a4:=Tryz.isAgg4
  z4:=Tryz.sizeOf4
  v4:=Tryz.zeroValue4
  t9:=Tryz.underlying9
  a9:=Tryz.isAgg9
  z9:=Tryz.sizeOf9
  v9:=Tryz.zeroValue9
  t31:=Tryz.underlying34
  a31:=Tryz.isAgg34
  z31:=Tryz.sizeOf34
  v31:=Tryz.zeroValue34 }
open Go.RowKit Go.Lib Go.Sort in
theorem Tryz.slices_Compact_string (d off cap:Nat) (m:List (List UInt8)) (w:World) (y:Holds encStr w d off m.toArray) (x:m.length<=9223372036854775807) (v:m.length<=cap) :
    Calls Tryz.prog 66 #[.slice (some ⟨d,off,none⟩) m.length cap] w λe w'=>e=.returned (.slice (some ⟨d,off,none⟩) (Lib.compact m).length cap)/\∃ q,w'=putRow encStr (Sort.ahead w q) d off (Lib.compact m++List.replicate (m.length - (Lib.compact m).length) []).toArray:=Any.slices_Compact_string Tryz.lays194 d off cap m w y x v
open Go.RowKit Go.Lib Go.Sort in
theorem Tryz.slices_Compact_string_empty (a:Ao) (cap:Nat) (w:World) :
    Calls Tryz.prog 66 #[.slice a 0 cap] w λe w'=>e=.returned (.slice a 0 cap)/\w'=w:=Any.slices_Compact_string_empty Tryz.lays194 a cap w
open Go.RowKit Go.Sort in
theorem Tryz.slices_Sort_string_none (p:Ao) (cap:Nat) (w:World) :
    Calls Tryz.prog 65 #[.slice p 0 cap] w λe w'=>e=.returned (.tuple #[])/\w'=w:=Any.slices_Sort_string_none Tryz.lays190 p cap w
end Go.Proofs
namespace Go.Proofs
open Go.Shelf
def Tryz.lays106_ren:Go.Shelf.Ren:=⟨fun|106=>85|213=>136|265=>200|n=>n,fun|9=>9|3=>3|n=>n,fun|n=>n⟩
theorem Tryz.lays106:Go.Proofs.Lays.n106 Tryz.prog Tryz.lays106_ren:={
  mixed:=by kernel_rfl
  f106:=Tryz.func85.trans (yah_ some zad_)
  f213:=Tryz.func136.trans (yah_ some zad_)
  f265:=Tryz.func200.trans (yah_ some zad_)
  t3:=Tryz.underlying3
  a3:=Tryz.isAgg3
  z3:=Tryz.sizeOf3
  v3:=Tryz.zeroValue3
  t9:=Tryz.underlying9
  a9:=Tryz.isAgg9
  z9:=Tryz.sizeOf9
  v9:=Tryz.zeroValue9 }
open Go.RowKit in
theorem Tryz.strings_Compare (a b:ByteArray) (w:World) :
    Calls Tryz.prog 85 #[.string a,.string b] w λe w'=>e=.returned (.int .i64 (Lib.compareBytes a.data.toList b.data.toList))/\w'=w:=Any.strings_Compare Tryz.lays106 a b w
end Go.Proofs
namespace Go.Sx
open Go
structure Cn (n:Nat) (G:Prop):Prop where
  go:G
structure Kw (A:Prop):Prop where
  go:A
theorem cn {n:Nat} {G G1:Prop} (k:G1->G) (h:Cn n G1):Cn (n+1) G:=⟨k h.go⟩
theorem cn0 {G:Prop} (h:G):Cn 0 G:=⟨h⟩
def noG (x:Value) (want:Bool):Bool:=match x with|.bool b=>Bool.xor b want|_=>true
section
variable {P:Program} {N:Nf} {v0:Vw} {H0:Hp} {R:Exit->Act->World->Prop} {K:List Kt} {fr:Fr} {H:Hp} {Γ:List Fct} {ops:Array Oper} {l:List Oper} {d:Nat} {ty:TypeId} {ps:String} {af:Array Edge} {Hs:Hp} {Γs:List Fct} {fuel:Nat} {listed:Array Bool}
theorem tX_ {op:Op} {j t:Nat} {want:Bool} {x:Value} (hj:iv_ ops j=some t) (hx:Fr.get fr t=some x) (hne:noG x want=true) (hN:Nat.blt d N.n=true)
    (h:Ops P R N v0 H0 ops l K ((d,undef)::fr) H Γ):Ops P R N v0 H0 ops (⟨some d,op,ty,ps,af,some (j,want)⟩::l) K fr H Γ:=ops_no hj hx (by cases x<;>first|rfl|exact hne) hN h
theorem sq_noG [NoPan R] {i:Nat} {is:List Nat} {op:Op} {x:Value} {j t:Nat} {want:Bool} (hi:ops[i]? = some ⟨some d,op,ty,ps,af,some (j,want)⟩) (hj:iv_ ops j=some t) (hx:Fr.get fr t=some x) (hne:noG x want=true) (hN:Nat.blt d N.n=true)
    (h:Sq P R N v0 H0 ops Hs Γs is fuel (listed.setIfInBounds i true) K ((d,undef)::fr) H Γ):Sq P R N v0 H0 ops Hs Γs (i::is) fuel listed K fr H Γ:=sq_no hi hj hx (by cases x<;>first|rfl|exact hne) hN h
end
end Go.Sx

namespace Go.Proofs.YtfjcabalehamcaaGreatDoor
open Go Go.Sx Tryz
theorem zdf {p:Prop} [Decidable p] (h:decide p=false):¬p:=of_decide_eq_false h
theorem zdt {p:Prop} [Decidable p] (h:decide p=true):p:=ybf_ h
theorem znb {α:Type} [BEq α] [LawfulBEq α] {a b:α} (h:(a==b)=false):a≠b:=by simpa using h
theorem zeb {α:Type} [BEq α] [LawfulBEq α] {a b:α} (h:(a==b)=true):a=b:=eq_of_beq h
theorem zbe {α:Type} [BEq α] [LawfulBEq α] {a b:α} (h:(a != b)=false):a=b:=by simpa using h
theorem zk {G:Prop} (h:G:=by kernel_rfl):G:=h
theorem zh {P Q:Vw->Prop}:∀ v,P v->Q v->Q v:=λ_ _ h=>h
theorem zt {P Q:Vw->Prop}:∀ v,P v->Q v->Z_ [] v:=λ_ _ _=>trivial
section
variable {H r r' d O:Hp} {b c:Nat×Obj}
theorem zpn (h:H.Perm r):([]++H).Perm r:=h
end
abbrev zR {α:Type} (e k:Nat) (f:α->List Value) (sv:Value) (X:List α) (H:Hp):Prop:=ad_ e k sv X.length (X.flatMap f) H
theorem zsw {α β:Type} {e k:Nat} {f:β->List Value} {sv:Value} {A:List β} {H:Hp} (g:α->List β) (p:List α) (h:ad_ e k sv A.length (A.flatMap f) H):zR e k f sv (A++List.flatMap g (p.take 0)) H:=by
  unfold zR;simpa only[ycu_,List.flatMap_nil,yaL_] using h
theorem zsa {β:Type} {e k m:Nat} {f:β->List Value} {sv:Value} {A B:List β} {H:Hp} (h:ad_ e k sv (A.length+m) (A.flatMap f++B.flatMap f) H) (hm:B.length=m:=by first|rfl|simp):zR e k f sv (A++B) H:=by
  subst hm;unfold zR;rw[yaj_,yaW_];exact h
theorem zge {α:Type} {l:List α} {i:Nat} (h:i<l.length):i<l.length/\∃ x,l[i]? = some x/\x∈l:=⟨h,_,yaa_ h,ycm_ h⟩
theorem bM_ {α:Type} {f:α->List Value} {v:Vw} {ad:Ao} {l:List α} {i:Nat} {x:α} (h:bl_ v ad (l.flatMap f)) (hx:l[i]? = some x) (hf:∀ x,(f x).length≠0):∃ b off,ad=some ⟨b,off,none⟩ :=
  h.addr λe=>by
    rw[List.flatMap_eq_nil_iff]at e;exact hf x (by rw[e x (yac_ hx)];rfl)
theorem zbn {α:Type} [BEq α] [LawfulBEq α] {a b:α} (h:(a != b)=true):a≠b:=by simpa using h
theorem zp {G:Prop} (h:G:=by (repeat (first|(with_reducible first|exact i_|exact d_|exact x_|exact E_|exact bg_|exact af_)|exact d_|(with_reducible first|apply zpn|(apply m_;rotate_left;(fail_if_success (with_reducible apply i_));rotate_right)|apply G_|apply c_|apply j_)|exact x_|exact af_))):G:=h
theorem zf {G:Prop} (h:G:=by intro v_ a_ b_;repeat (first|exact trivial|(with_reducible first|exact b_.1|exact b_.2.1|exact b_.2.2.1|exact b_.2.2.2.1|exact b_.2.2.2.2.1|exact b_.2.2.2.2.2.1|exact b_.2.2.2.2.2.2.1|exact b_.2.2.2.2.2.2.2.1|exact b_.2.2.2.2.2.2.2.2.1|exact b_.2.2.2.2.2.2.2.2.2.1|exact b_.2.2.2.2.2.2.2.2.2.2.1|exact b_.2.2.2.2.2.2.2.2.2.2.2.1|exact b_|exact b_.2|exact b_.2.2|exact b_.2.2.2|exact b_.2.2.2.2|exact b_.2.2.2.2.2|exact b_.2.2.2.2.2.2|exact b_.2.2.2.2.2.2.2|exact b_.2.2.2.2.2.2.2.2|exact b_.2.2.2.2.2.2.2.2.2|exact b_.2.2.2.2.2.2.2.2.2.2|exact b_.2.2.2.2.2.2.2.2.2.2.2)|(first|exact b_.1|exact b_.2.1|exact b_.2.2.1|exact b_.2.2.2.1|exact b_.2.2.2.2.1|exact b_.2.2.2.2.2.1|exact b_.2.2.2.2.2.2.1|exact b_.2.2.2.2.2.2.2.1|exact b_.2.2.2.2.2.2.2.2.1|exact b_.2.2.2.2.2.2.2.2.2.1|exact b_.2.2.2.2.2.2.2.2.2.2.1|exact b_.2.2.2.2.2.2.2.2.2.2.2.1|exact b_|exact b_.2|exact b_.2.2|exact b_.2.2.2|exact b_.2.2.2.2|exact b_.2.2.2.2.2|exact b_.2.2.2.2.2.2|exact b_.2.2.2.2.2.2.2|exact b_.2.2.2.2.2.2.2.2|exact b_.2.2.2.2.2.2.2.2.2|exact b_.2.2.2.2.2.2.2.2.2.2|exact b_.2.2.2.2.2.2.2.2.2.2.2)|refine⟨?_,?_⟩)):G:=h
theorem zs {G:Prop} (h:G:=by intro v_ a_ b_;refine⟨?_,?_⟩;(first|exact a_|exact satNil a_|exact a_.tail|exact a_.tail.tail|exact a_.tail.tail.tail|exact a_.tail.tail.tail.tail|((apply Vw.sat.sub;apply a_.perm);(repeat (first|(with_reducible first|exact i_|exact d_|exact x_|exact E_|exact bg_|exact af_)|exact d_|(with_reducible first|apply zpn|(apply m_;rotate_left;(fail_if_success (with_reducible apply i_));rotate_right)|apply G_|apply c_|apply j_)|exact x_|exact af_))));(first|exact b_|exact b_.2|exact b_.2.2|exact b_.2.2.2|exact b_.2.2.2.2|exact b_.2.2.2.2.2|exact b_.2.2.2.2.2.2|exact b_.2.2.2.2.2.2.2|exact b_.2.2.2.2.2.2.2.2|exact b_.2.2.2.2.2.2.2.2.2|exact b_.2.2.2.2.2.2.2.2.2.2|exact b_.2.2.2.2.2.2.2.2.2.2.2)):G:=h
theorem zl {G:Prop} (h:G:=by repeat (first|exact trivial|refine⟨rfl,?_⟩)):G:=h
def lkN {α:Type}:List (Nat×α)->Nat->Option α
  | [],_=>none
  | (k,v)::l,n=>bif Nat.beq k n then some v else lkN l n
theorem pC_ {α:Type} {n:Nat} {v:α}:∀ {l:List (Nat×α)},lkN l n=some v->(n,v)∈l
  | (k,u)::l,h=>by
    simp only[lkN]at h;cases hb:Nat.beq k n with
    | true=>rw[hb,cond_true]at h;cases h;rw[ycd_ hb];exact yau_
    | false=>rw[hb,cond_false]at h;exact yaA_ _ (pC_ h)
def zAt:List (Nat×Bool):=[(9,false),(3,false),(49,true),(87,true),(51,true),(34,false),(4,false),(32,true),(47,false),(27,false),(89,false),(117,false),(35,false),(22,false),(77,false),(84,false),(146,true),(88,false),(91,false),(162,true),(173,true),(39,true),(44,false),(233,false),(37,true),(57,true),(90,false),(217,true),(316,true),(201,true),(92,false),(119,true),(71,false),(235,false),(175,false),(97,false),(215,false),(126,false),(234,false),(170,false),(176,false),(228,false),(129,true),(313,false),(195,true),(166,false),(245,true),(109,true),(226,true),(5,false)]
theorem zA {t:TypeId} {b:Bool} (h:lkN zAt t=some b):∀ w,(isAgg t).run prog w=.ok b w:=by
  have h:=pC_ h;simp only[zAt,yan_,ybD_,yaJ_,ybG_]at h;rcases h with⟨rfl,rfl⟩|⟨rfl,rfl⟩|⟨rfl,rfl⟩|⟨rfl,rfl⟩|⟨rfl,rfl⟩|⟨rfl,rfl⟩|⟨rfl,rfl⟩|⟨rfl,rfl⟩|⟨rfl,rfl⟩|⟨rfl,rfl⟩|⟨rfl,rfl⟩|⟨rfl,rfl⟩|⟨rfl,rfl⟩|⟨rfl,rfl⟩|⟨rfl,rfl⟩|⟨rfl,rfl⟩|⟨rfl,rfl⟩|⟨rfl,rfl⟩|⟨rfl,rfl⟩|⟨rfl,rfl⟩|⟨rfl,rfl⟩|⟨rfl,rfl⟩|⟨rfl,rfl⟩|⟨rfl,rfl⟩|⟨rfl,rfl⟩|⟨rfl,rfl⟩|⟨rfl,rfl⟩|⟨rfl,rfl⟩|⟨rfl,rfl⟩|⟨rfl,rfl⟩|⟨rfl,rfl⟩|⟨rfl,rfl⟩|⟨rfl,rfl⟩|⟨rfl,rfl⟩|⟨rfl,rfl⟩|⟨rfl,rfl⟩|⟨rfl,rfl⟩|⟨rfl,rfl⟩|⟨rfl,rfl⟩|⟨rfl,rfl⟩|⟨rfl,rfl⟩|⟨rfl,rfl⟩|⟨rfl,rfl⟩|⟨rfl,rfl⟩|⟨rfl,rfl⟩|⟨rfl,rfl⟩|⟨rfl,rfl⟩|⟨rfl,rfl⟩|⟨rfl,rfl⟩|⟨rfl,rfl⟩
  . exact ae_
  . exact au_
  . exact aq_
  . exact cp_
  . exact ed_
  . exact isAgg34
  . exact oP_
  . exact dy_
  . exact isAgg47
  . exact isAgg27
  . exact isAgg89
  . exact isAgg117
  . exact isAgg35
  . exact isAgg22
  . exact isAgg77
  . exact isAgg84
  . exact isAgg146
  . exact isAgg88
  . exact isAgg91
  . exact isAgg162
  . exact isAgg173
  . exact dx_
  . exact isAgg44
  . exact isAgg233
  . exact gl_
  . exact isAgg57
  . exact isAgg90
  . exact isAgg217
  . exact isAgg316
  . exact isAgg201
  . exact isAgg92
  . exact isAgg119
  . exact isAgg71
  . exact isAgg235
  . exact isAgg175
  . exact isAgg97
  . exact isAgg215
  . exact jF_
  . exact isAgg234
  . exact isAgg170
  . exact isAgg176
  . exact isAgg228
  . exact isAgg129
  . exact isAgg313
  . exact isAgg195
  . exact isAgg166
  . exact isAgg245
  . exact isAgg109
  . exact isAgg226
  . exact isAgg5
def zSt:List (Nat×Nat):=[(9,1),(49,5),(3,1),(87,6),(51,16),(34,1),(32,10),(4,1),(27,1),(47,1),(89,1),(22,1),(117,1),(77,1),(173,9),(35,1),(146,2),(37,2),(88,1),(91,1),(44,1),(162,1),(39,3),(217,7),(233,1),(57,1),(90,1),(201,2),(316,2),(119,1),(92,1),(215,1),(71,1),(235,1),(175,1),(234,1),(170,1),(176,1),(129,7),(313,1),(195,3),(245,3),(179,51),(109,16),(226,2),(5,1)]
theorem zS {t:TypeId} {b:Nat} (h:lkN zSt t=some b):∀ w,(sizeOf t).run prog w=.ok b w:=by
  have h:=pC_ h;simp only[zSt,yan_,ybD_,yaJ_,ybG_]at h;rcases h with⟨rfl,rfl⟩|⟨rfl,rfl⟩|⟨rfl,rfl⟩|⟨rfl,rfl⟩|⟨rfl,rfl⟩|⟨rfl,rfl⟩|⟨rfl,rfl⟩|⟨rfl,rfl⟩|⟨rfl,rfl⟩|⟨rfl,rfl⟩|⟨rfl,rfl⟩|⟨rfl,rfl⟩|⟨rfl,rfl⟩|⟨rfl,rfl⟩|⟨rfl,rfl⟩|⟨rfl,rfl⟩|⟨rfl,rfl⟩|⟨rfl,rfl⟩|⟨rfl,rfl⟩|⟨rfl,rfl⟩|⟨rfl,rfl⟩|⟨rfl,rfl⟩|⟨rfl,rfl⟩|⟨rfl,rfl⟩|⟨rfl,rfl⟩|⟨rfl,rfl⟩|⟨rfl,rfl⟩|⟨rfl,rfl⟩|⟨rfl,rfl⟩|⟨rfl,rfl⟩|⟨rfl,rfl⟩|⟨rfl,rfl⟩|⟨rfl,rfl⟩|⟨rfl,rfl⟩|⟨rfl,rfl⟩|⟨rfl,rfl⟩|⟨rfl,rfl⟩|⟨rfl,rfl⟩|⟨rfl,rfl⟩|⟨rfl,rfl⟩|⟨rfl,rfl⟩|⟨rfl,rfl⟩|⟨rfl,rfl⟩|⟨rfl,rfl⟩|⟨rfl,rfl⟩|⟨rfl,rfl⟩
  . exact U_
  . exact D_
  . exact K_
  . exact N_
  . exact ab_
  . exact ft_
  . exact A_
  . exact co_
  . exact cj_
  . exact sizeOf47
  . exact fs_
  . exact sizeOf22
  . exact wy_
  . exact sizeOf77
  . exact bv_
  . exact pn_
  . exact il_
  . exact aW_
  . exact sizeOf88
  . exact sizeOf91
  . exact AK_
  . exact sizeOf162
  . exact an_
  . exact fV_
  . exact sizeOf233
  . exact sizeOf57
  . exact sizeOf90
  . exact sizeOf201
  . exact sizeOf316
  . exact eu_
  . exact sizeOf92
  . exact sizeOf215
  . exact sizeOf71
  . exact sizeOf235
  . exact sizeOf175
  . exact sizeOf234
  . exact sizeOf170
  . exact sizeOf176
  . exact dG_
  . exact sizeOf313
  . exact sizeOf195
  . exact sizeOf245
  . exact sizeOf179
  . exact sizeOf109
  . exact sizeOf226
  . exact sizeOf5
theorem zUe {P:Program} {t t1:TypeId} {q q1} (h:∀ w,(underlying t1).run P w=.ok q1 w) (e:t=t1) (e1:q1=q):∀ w,(underlying t).run P w=.ok q w:=by subst e e1;exact h
theorem zu {G:Prop} (h:G:=by first|exact zUe runUnderlying51 rfl rfl|exact zUe runUnderlying87 rfl rfl|exact zUe runUnderlying49 rfl rfl|exact zUe runUnderlying32 rfl rfl|exact zUe runUnderlying94 rfl rfl|exact zUe B_ rfl rfl|exact zUe z_ rfl rfl|exact zUe as_ rfl rfl|exact zUe ai_ rfl rfl|exact zUe runUnderlying173 rfl rfl|exact zUe runUnderlying238 rfl rfl|exact zUe runUnderlying125 rfl rfl|exact zUe J_ rfl rfl|exact zUe aT_ rfl rfl|exact zUe runUnderlying217 rfl rfl|exact zUe runUnderlying57 rfl rfl|exact zUe al_ rfl rfl|exact zUe runUnderlying73 rfl rfl|exact zUe runUnderlying129 rfl rfl|exact zUe runUnderlying260 rfl rfl|exact zUe runUnderlying191 rfl rfl|exact zUe runUnderlying181 rfl rfl|exact zUe runUnderlying119 rfl rfl|exact zUe runUnderlying39 rfl rfl|exact zUe runUnderlying201 rfl rfl|exact zUe runUnderlying37 rfl rfl|exact zUe runUnderlying266 rfl rfl|exact zUe runUnderlying215 rfl rfl|exact zUe runUnderlying178 rfl rfl|exact zUe fX_ rfl rfl|exact zUe runUnderlying23 rfl rfl|exact zUe runUnderlying226 rfl rfl|exact zUe dZ_ rfl rfl|exact zUe runUnderlying61 rfl rfl|exact zUe runUnderlying65 rfl rfl|exact zUe runUnderlying322 rfl rfl|exact zUe runUnderlying109 rfl rfl|exact zUe runUnderlying316 rfl rfl|exact zUe runUnderlying162 rfl rfl):G:=h
theorem zv {G:Prop} (h:G:=by intro v _ h;first|exact h.1|exact h.2.1|exact h.2.2.1|exact h.2.2.2.1|exact h.2.2.2.2.1|exact h.2.2.2.2.2.1|exact h.2.2.2.2.2.2.1|exact h.2.2.2.2.2.2.2.1|exact h.2.2.2.2.2.2.2.2.1|exact h.2.2.2.2.2.2.2.2.2.1|exact h.2.2.2.2.2.2.2.2.2.2.1|exact h.2.2.2.2.2.2.2.2.2.2.2.1|exact h.1.1|exact h.2.1.1|exact h.2.2.1.1|exact h.2.2.2.1.1|exact h.2.2.2.2.1.1|exact h.2.2.2.2.2.1.1|exact h.2.2.2.2.2.2.1.1|exact h.1.2.2|exact h.2.1.2.2|exact h.2.2.1.2.2|exact h.2.2.2.1.2.2|exact h.2.2.2.2.1.2.2|exact h.2.2.2.2.2.1.2.2|exact h.2.2.2.2.2.2.1.2.2|exact h.2|exact h.2.2|exact h.2.2.2):G:=h
theorem zy {G:Prop} (h:G:=by first|((with_reducible apply aV_);exact rfl)|((with_reducible apply bs_);exact rfl)|((with_reducible apply mE_);rotate_left;exact rfl;rotate_right;exact zu;exact rfl;exact rfl;exact zS rfl)|((with_reducible apply iJ_);exact zu;exact rfl;exact rfl;exact rfl;exact zS rfl)|((with_reducible apply (cc_ 0));rotate_left;exact rfl;exact rfl;exact rfl;exact zA rfl)|((with_reducible apply (cc_ 1));rotate_left;exact rfl;exact rfl;exact rfl;exact zA rfl)|((with_reducible apply (cc_ 2));rotate_left;exact rfl;exact rfl;exact rfl;exact zA rfl)|((with_reducible apply (cc_ 3));rotate_left;exact rfl;exact rfl;exact rfl;exact zA rfl)|((with_reducible apply se_);exact rfl;exact rfl)|((with_reducible apply sd_);exact rfl;exact rfl)|((with_reducible apply bf_);exact rfl;exact rfl;exact rfl;exact bW_ (by omega) (by omega))|((with_reducible apply kD_);exact rfl)|((with_reducible apply qp_);exact rfl;exact rfl)|((with_reducible apply fS_);exact zu;exact rfl)|((with_reducible apply (cZ_ 0));rotate_left;exact zS rfl;exact rfl;exact rfl;exact rfl;exact zA rfl)|((with_reducible apply (cZ_ 1));rotate_left;exact zS rfl;exact rfl;exact rfl;exact rfl;exact zA rfl)|((with_reducible apply (cZ_ 2));rotate_left;exact zS rfl;exact rfl;exact rfl;exact rfl;exact zA rfl)|((with_reducible apply (cZ_ 3));rotate_left;exact zS rfl;exact rfl;exact rfl;exact rfl;exact zA rfl)|((with_reducible apply da_);rotate_left;exact rfl;exact zv;exact rfl;exact zA rfl)|((with_reducible apply Y_);exact zu;exact zS rfl;exact rfl;exact rfl;(intro v _ h;first|exact bM_ h.1 (by assumption) (λ_=>yaR_ _)|exact bM_ h.2.1 (by assumption) (λ_=>yaR_ _)|exact bM_ h.2.2.1 (by assumption) (λ_=>yaR_ _)|exact bM_ h.2.2.2.1 (by assumption) (λ_=>yaR_ _)|exact bM_ h.2.2.2.2.1 (by assumption) (λ_=>yaR_ _)|exact bM_ h.2.2.2.2.2.1 (by assumption) (λ_=>yaR_ _)|exact bM_ h.2.2.2.2.2.2.1 (by assumption) (λ_=>yaR_ _)|exact bM_ h.2.2.2.2.2.2.2.1 (by assumption) (λ_=>yaR_ _)|exact bM_ h.2.2.2.2.2.2.2.2.1 (by assumption) (λ_=>yaR_ _)|exact bM_ h.1.1 (by assumption) (λ_=>yaR_ _)|exact bM_ h.2.1.1 (by assumption) (λ_=>yaR_ _)|exact bM_ h.2.2.1.1 (by assumption) (λ_=>yaR_ _)|exact bM_ h.2.2.2.1.1 (by assumption) (λ_=>yaR_ _)|exact bM_ h.2.2.2.2.1.1 (by assumption) (λ_=>yaR_ _)|exact bM_ h.2.2.2.2.2.1.1 (by assumption) (λ_=>yaR_ _)|exact bM_ h.2.2.2.2.2.2.1.1 (by assumption) (λ_=>yaR_ _)|exact bM_ h.1.2.2 (by assumption) (λ_=>yaR_ _)|exact bM_ h.2.1.2.2 (by assumption) (λ_=>yaR_ _)|exact bM_ h.2.2.1.2.2 (by assumption) (λ_=>yaR_ _)|exact bM_ h.2.2.2.1.2.2 (by assumption) (λ_=>yaR_ _)|exact bM_ h.2.2.2.2.1.2.2 (by assumption) (λ_=>yaR_ _)|exact bM_ h.2.2.2.2.2.1.2.2 (by assumption) (λ_=>yaR_ _)|exact bM_ h.2.2.2.2.2.2.1.2.2 (by assumption) (λ_=>yaR_ _)|exact bM_ h.2 (by assumption) (λ_=>yaR_ _)|exact bM_ h.2.2 (by assumption) (λ_=>yaR_ _)|exact bM_ h.2.2.2 (by assumption) (λ_=>yaR_ _));omega;(first|omega|(simp;done)))|((with_reducible apply bN_);rotate_left;exact rfl;exact zv;(first|exact y_ Pc.cells_len (by assumption) 0 _ rfl|exact y_ Pc.cells_len (by assumption) _ _ rfl|exact y_ Fc.cells_len (by assumption) 0 _ rfl|exact y_ Fc.cells_len (by assumption) _ _ rfl|exact y_ Stp.cells_len (by assumption) 0 _ rfl|exact y_ Stp.cells_len (by assumption) _ _ rfl|exact y_ aO_ (by assumption) 0 _ rfl|exact y_ aO_ (by assumption) _ _ rfl|exact y_ bx_ (by assumption) 0 _ rfl|exact y_ bx_ (by assumption) _ _ rfl|exact y_ (n:=1) (by intro _;exact rfl) (by assumption) 0 _ rfl|exact y_ (n:=5) (by intro _;exact rfl) (by assumption) 0 _ rfl|exact y_ (n:=5) (by intro _;exact rfl) (by assumption) 1 _ rfl|exact y_ (n:=5) (by intro _;exact rfl) (by assumption) 2 _ rfl|exact y_ (n:=5) (by intro _;exact rfl) (by assumption) 3 _ rfl|exact y_ (n:=5) (by intro _;exact rfl) (by assumption) 4 _ rfl|exact y_ (n:=16) (by intro _;exact rfl) (by assumption) 0 _ rfl|exact y_ (n:=16) (by intro _;exact rfl) (by assumption) 1 _ rfl|exact y_ (n:=16) (by intro _;exact rfl) (by assumption) 13 _ rfl|exact y_ (n:=16) (by intro _;exact rfl) (by assumption) 14 _ rfl|exact y_ (n:=16) (by intro _;exact rfl) (by assumption) 15 _ rfl|exact y_ (n:=9) (by intro _;exact rfl) (by assumption) 0 _ rfl|exact y_ (n:=9) (by intro _;exact rfl) (by assumption) 1 _ rfl|exact y_ (n:=9) (by intro _;exact rfl) (by assumption) 2 _ rfl|exact y_ (n:=9) (by intro _;exact rfl) (by assumption) 3 _ rfl|exact y_ (n:=9) (by intro _;exact rfl) (by assumption) 4 _ rfl|exact y_ (n:=9) (by intro _;exact rfl) (by assumption) 5 _ rfl|exact y_ (n:=9) (by intro _;exact rfl) (by assumption) 6 _ rfl|exact y_ (n:=2) (by intro _;exact rfl) (by assumption) 0 _ rfl|exact y_ (n:=2) (by intro _;exact rfl) (by assumption) 1 _ rfl|exact y_ (n:=4) (by intro _;exact rfl) (by assumption) 0 _ rfl|exact y_ (n:=4) (by intro _;exact rfl) (by assumption) 1 _ rfl|exact y_ (n:=4) (by intro _;exact rfl) (by assumption) 2 _ rfl|exact y_ (n:=4) (by intro _;exact rfl) (by assumption) 3 _ rfl);exact zA rfl)|((with_reducible apply ah_);rotate_left;exact zS rfl;exact rfl;exact zv;rotate_left;(exact y_ (by intro _;exact rfl) (by assumption));exact zA rfl;(exact rfl))|((with_reducible apply (cc_ 4));rotate_left;exact rfl;exact rfl;exact rfl;exact zA rfl)|((with_reducible apply (cc_ 5));rotate_left;exact rfl;exact rfl;exact rfl;exact zA rfl)|((with_reducible apply (cc_ 6));rotate_left;exact rfl;exact rfl;exact rfl;exact zA rfl)|((with_reducible apply (cc_ 7));rotate_left;exact rfl;exact rfl;exact rfl;exact zA rfl)|((with_reducible apply (cZ_ 4));rotate_left;exact zS rfl;exact rfl;exact rfl;exact rfl;exact zA rfl)|((with_reducible apply (cZ_ 5));rotate_left;exact zS rfl;exact rfl;exact rfl;exact rfl;exact zA rfl)|((with_reducible apply (cZ_ 6));rotate_left;exact zS rfl;exact rfl;exact rfl;exact rfl;exact zA rfl)|((with_reducible apply (cZ_ 7));rotate_left;exact zS rfl;exact rfl;exact rfl;exact rfl;exact zA rfl)):G:=h
theorem Zy {A B:Prop} {n:Nat} (k:A) (h:Kw A->Cn n B:=by intro k_;repeat (first|exact cn0 k_.go|(apply cn;intro h_;((first|((with_reducible apply e_);rotate_left;exact rfl;exact h_;rotate_right)|((with_reducible apply S_);exact rfl;rotate_left;exact rfl;exact h_;rotate_right)|((with_reducible apply cY_);exact rfl;exact rfl;exact rfl;rotate_left;exact rfl;exact h_;rotate_right));(exact zy)))|(apply cn;intro h_;first|((with_reducible apply cb_);exact h_)|((with_reducible apply bp_);exact rfl;exact h_)|((with_reducible apply bb_);exact h_)|((with_reducible apply aQ_);exact h_)|((with_reducible apply aP_);exact rfl;exact rfl;exact h_)|((with_reducible apply tX_);exact rfl;exact rfl;exact rfl;exact rfl;exact h_)|((with_reducible apply bG_);exact rfl;exact h_)|((with_reducible apply ei_);exact rfl;exact h_)|((with_reducible apply gO_);exact h_)|((with_reducible apply bt_);exact h_)|((with_reducible apply jU_);exact h_)|((with_reducible apply pR_);exact rfl;exact h_)|((with_reducible apply sq_noG);exact rfl;exact rfl;exact rfl;exact rfl;exact rfl;exact h_)|((with_reducible apply yt_);kernel_rfl;exact h_)|((with_reducible apply gP_);exact h_)|((with_reducible apply mV_);exact rfl;exact h_)|((with_reducible apply uP_);kernel_rfl;exact h_)|((with_reducible apply Al_);exact rfl;exact h_)|((with_reducible apply H_);exact zs;exact h_)|((apply aP_);exact rfl;exact rfl;exact h_)|((apply tX_);exact rfl;exact rfl;exact rfl;exact rfl;exact h_)|((apply cb_);exact h_))|(apply cn;intro h_;((apply e_);rotate_left;exact rfl;exact h_;rotate_right);(exact zy)))):Cn n B:=h ⟨k⟩
theorem Zj {p q A B C:Prop} (n:Nat) (k0:p->A) (k1:q->B) (h:Kw (p->A)->Kw (q->B)->Cn n C:=by intro k0_ k1_;refine Zy ?_;first|((with_reducible apply P_);(first|((with_reducible apply by_);exact rfl;exact rfl)|((with_reducible apply cB_);exact rfl;exact rfl)|((with_reducible apply dp_);exact rfl;exact rfl)|((with_reducible apply dj_);exact rfl;exact rfl)|((with_reducible apply aM_);exact rfl;exact rfl)|((with_reducible apply fa_);exact rfl;exact rfl)|((with_reducible apply cP_);exact rfl;exact rfl)|((with_reducible apply dD_);exact rfl;exact rfl)|((with_reducible apply gJ_);exact rfl;exact rfl));exact rfl;intro r_ h_;cases r_;(first|(have q_:=zdf h_;(try dsimp only[Con.kind,Con.parts,Con.name,Con.lo,Con.hi,Con.cap,Con.ad]at q_);exact k0_.go q_)|(have q_:=znb h_;(try dsimp only[Con.kind,Con.parts,Con.name,Con.lo,Con.hi,Con.cap,Con.ad]at q_);exact k0_.go q_)|(have q_:=zbe h_;(try dsimp only[Con.kind,Con.parts,Con.name,Con.lo,Con.hi,Con.cap,Con.ad]at q_);exact k0_.go q_));(first|(have q_:=zdt h_;(try dsimp only[Con.kind,Con.parts,Con.name,Con.lo,Con.hi,Con.cap,Con.ad]at q_);exact k1_.go q_)|(have q_:=zeb h_;(try dsimp only[Con.kind,Con.parts,Con.name,Con.lo,Con.hi,Con.cap,Con.ad]at q_);exact k1_.go q_)|(have q_:=zbn h_;(try dsimp only[Con.kind,Con.parts,Con.name,Con.lo,Con.hi,Con.cap,Con.ad]at q_);exact k1_.go q_)))|((with_reducible apply ef_);exact rfl;(first|((with_reducible apply by_);exact rfl;exact rfl)|((with_reducible apply cB_);exact rfl;exact rfl)|((with_reducible apply dp_);exact rfl;exact rfl)|((with_reducible apply dj_);exact rfl;exact rfl)|((with_reducible apply aM_);exact rfl;exact rfl)|((with_reducible apply fa_);exact rfl;exact rfl)|((with_reducible apply cP_);exact rfl;exact rfl)|((with_reducible apply dD_);exact rfl;exact rfl)|((with_reducible apply gJ_);exact rfl;exact rfl));exact rfl;intro r_ h_;cases r_;(first|(have q_:=zdf h_;(try dsimp only[Con.kind,Con.parts,Con.name,Con.lo,Con.hi,Con.cap,Con.ad]at q_);exact k0_.go q_)|(have q_:=znb h_;(try dsimp only[Con.kind,Con.parts,Con.name,Con.lo,Con.hi,Con.cap,Con.ad]at q_);exact k0_.go q_)|(have q_:=zbe h_;(try dsimp only[Con.kind,Con.parts,Con.name,Con.lo,Con.hi,Con.cap,Con.ad]at q_);exact k0_.go q_));(first|(have q_:=zdt h_;(try dsimp only[Con.kind,Con.parts,Con.name,Con.lo,Con.hi,Con.cap,Con.ad]at q_);exact k1_.go q_)|(have q_:=zeb h_;(try dsimp only[Con.kind,Con.parts,Con.name,Con.lo,Con.hi,Con.cap,Con.ad]at q_);exact k1_.go q_)|(have q_:=zbn h_;(try dsimp only[Con.kind,Con.parts,Con.name,Con.lo,Con.hi,Con.cap,Con.ad]at q_);exact k1_.go q_)))|((with_reducible apply dq_);exact rfl;exact rfl;exact rfl;(first|((with_reducible apply by_);exact rfl;exact rfl)|((with_reducible apply cB_);exact rfl;exact rfl)|((with_reducible apply dp_);exact rfl;exact rfl)|((with_reducible apply dj_);exact rfl;exact rfl)|((with_reducible apply aM_);exact rfl;exact rfl)|((with_reducible apply fa_);exact rfl;exact rfl)|((with_reducible apply cP_);exact rfl;exact rfl)|((with_reducible apply dD_);exact rfl;exact rfl)|((with_reducible apply gJ_);exact rfl;exact rfl));exact rfl;intro r_ h_;cases r_;(first|(have q_:=zdf h_;(try dsimp only[Con.kind,Con.parts,Con.name,Con.lo,Con.hi,Con.cap,Con.ad]at q_);exact k0_.go q_)|(have q_:=znb h_;(try dsimp only[Con.kind,Con.parts,Con.name,Con.lo,Con.hi,Con.cap,Con.ad]at q_);exact k0_.go q_)|(have q_:=zbe h_;(try dsimp only[Con.kind,Con.parts,Con.name,Con.lo,Con.hi,Con.cap,Con.ad]at q_);exact k0_.go q_));(first|(have q_:=zdt h_;(try dsimp only[Con.kind,Con.parts,Con.name,Con.lo,Con.hi,Con.cap,Con.ad]at q_);exact k1_.go q_)|(have q_:=zeb h_;(try dsimp only[Con.kind,Con.parts,Con.name,Con.lo,Con.hi,Con.cap,Con.ad]at q_);exact k1_.go q_)|(have q_:=zbn h_;(try dsimp only[Con.kind,Con.parts,Con.name,Con.lo,Con.hi,Con.cap,Con.ad]at q_);exact k1_.go q_)))):C:=(h ⟨k0⟩ ⟨k1⟩).go
theorem Zi {p q A B C:Prop} (n:Nat) (k0:p->A) (k1:q->B) (h:Kw (p->A)->Kw (q->B)->Cn n C:=by intro k0_ k1_;refine Zy ?_;first|((with_reducible apply P_);(first|((with_reducible apply by_);exact rfl;exact rfl)|((with_reducible apply cB_);exact rfl;exact rfl)|((with_reducible apply dp_);exact rfl;exact rfl)|((with_reducible apply dj_);exact rfl;exact rfl)|((with_reducible apply aM_);exact rfl;exact rfl)|((with_reducible apply fa_);exact rfl;exact rfl)|((with_reducible apply cP_);exact rfl;exact rfl)|((with_reducible apply dD_);exact rfl;exact rfl)|((with_reducible apply gJ_);exact rfl;exact rfl));exact rfl;intro r_ h_;cases r_;(first|exact k0_.go (zdf h_)|exact k0_.go (znb h_)|exact k0_.go (zbe h_));(first|exact k1_.go (zdt h_)|exact k1_.go (zeb h_)|exact k1_.go (zbn h_)))|((with_reducible apply ef_);exact rfl;(first|((with_reducible apply by_);exact rfl;exact rfl)|((with_reducible apply cB_);exact rfl;exact rfl)|((with_reducible apply dp_);exact rfl;exact rfl)|((with_reducible apply dj_);exact rfl;exact rfl)|((with_reducible apply aM_);exact rfl;exact rfl)|((with_reducible apply fa_);exact rfl;exact rfl)|((with_reducible apply cP_);exact rfl;exact rfl)|((with_reducible apply dD_);exact rfl;exact rfl)|((with_reducible apply gJ_);exact rfl;exact rfl));exact rfl;intro r_ h_;cases r_;(first|exact k0_.go (zdf h_)|exact k0_.go (znb h_)|exact k0_.go (zbe h_));(first|exact k1_.go (zdt h_)|exact k1_.go (zeb h_)|exact k1_.go (zbn h_)))|((with_reducible apply dq_);exact rfl;exact rfl;exact rfl;(first|((with_reducible apply by_);exact rfl;exact rfl)|((with_reducible apply cB_);exact rfl;exact rfl)|((with_reducible apply dp_);exact rfl;exact rfl)|((with_reducible apply dj_);exact rfl;exact rfl)|((with_reducible apply aM_);exact rfl;exact rfl)|((with_reducible apply fa_);exact rfl;exact rfl)|((with_reducible apply cP_);exact rfl;exact rfl)|((with_reducible apply dD_);exact rfl;exact rfl)|((with_reducible apply gJ_);exact rfl;exact rfl));exact rfl;intro r_ h_;cases r_;(first|exact k0_.go (zdf h_)|exact k0_.go (znb h_)|exact k0_.go (zbe h_));(first|exact k1_.go (zdt h_)|exact k1_.go (zeb h_)|exact k1_.go (zbn h_)))):C:=(h ⟨k0⟩ ⟨k1⟩).go
theorem zm {p q:Prop} (k:p) (h:Kw p->q:=by intro k_;repeat (first|exact trivial|refine⟨rfl,?_⟩|refine⟨p_ rfl k_.go,?_⟩)):q:=h ⟨k⟩
theorem Zz {A B:Prop} (n:Nat) (k:A) (h:Kw A->Cn n B:=by intro k_;exact Zy k_.go):B:=(h ⟨k⟩).go
end Go.Proofs.YtfjcabalehamcaaGreatDoor

namespace Go.Proofs.YtfjcabalehamcaaGreatDoor
open Go Go.Sx Go.Proofs Tryz
attribute [local irreducible] Code.wp wpList wpAnyH
open Go.Vs
theorem nD_ (c:UInt8) :
    Fn0 prog 242 #[.int .u8 (c.toNat:Int)] (.bool (eA_ c)):=by
  refine g_ func242 rfl rfl ntmps242 rfl λA=>?_;refine Zi 8 (λv=>?_) λv=>?_
  . refine Zi 8 (λd=>?_) λd=>?_
    . refine Zz 11 ?_;exact ac_ tR_ () (p_ rfl zax_) (.refl _) zt
    . refine Zz 5 ?_;refine P_ (dj_ rfl rfl) rfl λx m=>Zz 7 ?_
      exact ac_ tR_ () (p_ rfl zax_) (.refl _) zt
  . refine Zi 4 (λd=>?_) λd=>?_
    . refine Zi 5 (λm=>?_) λm=>?_
      . refine Zz 11 ?_;exact ac_ tR_ () (p_ rfl zax_) (.refl _) zt
      . refine Zz 5 ?_;refine P_ (dj_ rfl rfl) rfl λx y=>Zz 7 ?_
        exact ac_ tR_ () (p_ rfl zax_) (.refl _) zt
    . refine Zz 13 ?_;exact ac_ tR_ () (p_ rfl zax_) (.refl _) zt
theorem rB_ (s:Str) (I:s.length<=140737488351232) :
    Fn0 prog 243 #[str s] (.bool (lJ_ s)):=by
  refine g_ func243 rfl rfl ntmps243 rfl λH=>?_;refine Zz 9 ?_;refine zF_ R_ runUnderlying23 runUnderlying5 rfl rfl λcap m F=>Zz 5 ?_
  refine bh_ [(6,.slice (some ⟨m,0,none⟩) s.length cap),(7,i4_ s.length),(8,i4_ ((0:Nat):Int))] zl ?_;refine bF_ (ι:={k:Nat // k<=s.length/\(s.take k).all fv_=true}) (λi=>[(6,.slice (some ⟨m,0,none⟩) s.length cap),(7,i4_ s.length),(8,i4_ i.1)]) (λ_=>_) (λ_=>_) (λi=>s.length - i.1) ⟨0,by simp⟩ ?_;rintro ⟨k,C⟩;refine bh_ [(6,.slice (some ⟨m,0,none⟩) s.length cap),(7,i4_ s.length),(8,i4_ k)] zl ?_;refine Zi 2 (λB=>?_) λB=>?_
  . refine Zz 12 ?_;exact ac_ results243 () (p_ rfl (by rw[lJ_,pi_ fv_ s k zaa_ C.2])) (.refl _) zt
  . have d:k<s.length:=by omega
    obtain⟨c,v⟩:∃ c,s[k]? = some c:=⟨_,yaa_ d⟩;refine Zz 10 ?_;refine e_ (gL_ runUnderlying23 sizeOf5 rfl rfl zaa_ zaa_) rfl (e_ (cc_ (u:=.int .u8 (c.toNat:Int)) 0 isAgg5 rfl rfl (by rw[show 0+((k:Int)).toNat*1=k by omega];exact xu_ v)) rfl ?_);refine Zz 6 ?_;refine aa_ (nD_ c) rfl (.refl _) zt rfl λE G=>e_ (aH_ rfl) rfl (Zz 1 ?_)
    cases E
    . refine Zi 3 (λA=>?_) λA=>?_
      . refine Zz 19 ?_;exact C_ ⟨k+1,d,gD_ _ s k c v C.2 zbb_⟩ zal_ zl (.refl _) zh
      . refine Zi 5 (λy=>?_) λy=>?_
        . refine Zi 5 (λx=>?_) λx=>?_
          . refine Zz 13 ?_;exact C_ ⟨k+1,d,gD_ _ s k c v C.2 zbb_⟩ zal_ zl (.refl _) zh
          . refine Zz 12 ?_;exact ac_ results243 () (p_ rfl (by rw[lJ_,jO_ fv_ s k c v zbb_])) (.refl _) zt
        . refine Zz 16 ?_;exact ac_ results243 () (p_ rfl (by rw[lJ_,jO_ fv_ s k c v zbb_])) (.refl _) zt
    . refine Zz 21 ?_;exact C_ ⟨k+1,d,gD_ _ s k c v C.2 zbb_⟩ zal_ zl (.refl _) zh
theorem vr_ (s:Str) :
    Fn0 prog 244 #[str s] (.bool (bw_ s)):=by
  refine g_ func244 rfl rfl ntmps244 rfl λS=>?_;refine Zi 15 (λQ=>?_) λQ=>?_
  . refine Zi 6 (λR=>?_) λR=>?_
    . refine Zi 6 (λP=>?_) λP=>?_
      . refine Zi 6 (λN=>?_) λN=>?_
        . refine Zi 6 (λL=>?_) λL=>?_
          . refine Zi 6 (λK=>?_) λK=>?_
            . refine Zi 6 (λO=>?_) λO=>?_
              . refine Zi 6 (λM=>?_) λM=>?_
                . refine Zi 6 (λJ=>?_) λJ=>?_
                  . refine Zi 6 (λm=>?_) λm=>?_
                    . refine Zi 6 (λv=>?_) λv=>?_
                      . refine Zi 6 (λA=>?_) λA=>?_
                        . refine Zi 6 (λI=>?_) λI=>?_
                          . refine Zi 6 (λF=>?_) λF=>?_
                            . refine Zi 6 (λB=>?_) λB=>?_
                              . refine Zi 6 (λx=>?_) λx=>?_
                                . refine Zi 6 (λH=>?_) λH=>?_
                                  . refine Zi 6 (λG=>?_) λG=>?_
                                    . refine Zi 6 (λE=>?_) λE=>?_
                                      . refine Zi 6 (λC=>?_) λC=>?_
                                        . refine Zi 6 (λy=>?_) λy=>?_
                                          . refine Zi 5 (λd=>?_) λd=>?_
                                            . refine Zz 12 ?_;exact ac_ aA_ () (p_ rfl zas_) (.refl _) zt
                                            . refine Zz 10 ?_;exact ac_ aA_ () (p_ rfl zas_) (.refl _) zt
                                          . refine Zz 13 ?_;exact ac_ aA_ () (p_ rfl zas_) (.refl _) zt
                                        . refine Zz 13 ?_;exact ac_ aA_ () (p_ rfl zas_) (.refl _) zt
                                      . refine Zz 13 ?_;exact ac_ aA_ () (p_ rfl zas_) (.refl _) zt
                                    . refine Zz 13 ?_;exact ac_ aA_ () (p_ rfl zas_) (.refl _) zt
                                  . refine Zz 13 ?_;exact ac_ aA_ () (p_ rfl zas_) (.refl _) zt
                                . refine Zz 13 ?_;exact ac_ aA_ () (p_ rfl zas_) (.refl _) zt
                              . refine Zz 13 ?_;exact ac_ aA_ () (p_ rfl zas_) (.refl _) zt
                            . refine Zz 13 ?_;exact ac_ aA_ () (p_ rfl zas_) (.refl _) zt
                          . refine Zz 13 ?_;exact ac_ aA_ () (p_ rfl zas_) (.refl _) zt
                        . refine Zz 13 ?_;exact ac_ aA_ () (p_ rfl zas_) (.refl _) zt
                      . refine Zz 13 ?_;exact ac_ aA_ () (p_ rfl zas_) (.refl _) zt
                    . refine Zz 13 ?_;exact ac_ aA_ () (p_ rfl zas_) (.refl _) zt
                  . refine Zz 13 ?_;exact ac_ aA_ () (p_ rfl zas_) (.refl _) zt
                . refine Zz 13 ?_;exact ac_ aA_ () (p_ rfl zas_) (.refl _) zt
              . refine Zz 13 ?_;exact ac_ aA_ () (p_ rfl zas_) (.refl _) zt
            . refine Zz 13 ?_;exact ac_ aA_ () (p_ rfl zas_) (.refl _) zt
          . refine Zz 13 ?_;exact ac_ aA_ () (p_ rfl zas_) (.refl _) zt
        . refine Zz 13 ?_;exact ac_ aA_ () (p_ rfl zas_) (.refl _) zt
      . refine Zz 13 ?_;exact ac_ aA_ () (p_ rfl zas_) (.refl _) zt
    . refine Zz 13 ?_;exact ac_ aA_ () (p_ rfl zas_) (.refl _) zt
  . refine Zz 13 ?_;exact ac_ aA_ () (p_ rfl zas_) (.refl _) zt
theorem nC_ (s:Str) (E:s.length<=140737488351232) :
    Fn0 prog 176 #[str s] (.bool (if_ s)):=by
  refine g_ func176 rfl rfl ntmps176 rfl λB=>?_;refine Zi 8 (λd=>?_) λd=>?_
  . refine Zz 18 ?_;exact ac_ results176 () (p_ rfl (by simp[if_, *])) (.refl _) zt
  . obtain⟨c,t,rfl⟩:=List.exists_cons_of_ne_nil d;refine Zz 4 ?_;refine e_ (bV_ R_ rfl rfl zac_ rfl) rfl (aP_ rfl rfl (aa_ (nD_ _) rfl (.refl _) zt rfl λv A=>Zz 2 ?_));cases v
    . refine Zz 12 ?_;exact ac_ results176 () (p_ rfl (by simp[if_, *])) (.refl _) zt
    . refine Zz 3 ?_;refine aa_ (rB_ _ zae_) rfl (.refl _) zt rfl λm y=>Zz 2 ?_
      cases m
      . refine Zz 8 ?_;exact ac_ results176 () (p_ rfl (by simp[if_, *])) (.refl _) zt
      . refine Zz 3 ?_;refine aa_ (vr_ _) rfl (.refl _) zt rfl λC x=>aP_ rfl rfl (e_ (aH_ rfl) rfl (Zz 5 ?_))
        exact ac_ results176 () (p_ rfl (by simp[if_, *])) (.refl _) zt
theorem hz_ (s:Str) (B:s.length<=140737488351232) :
    Fn0 prog 177 #[str s] (.bool (cE_ s)):=by
  refine g_ func177 rfl rfl ntmps177 rfl λy=>?_;refine Zz 8 ?_;refine e_ (cO_ R_ rfl) rfl ?_;refine Zi 0 (λm=>?_) λm=>?_
  . refine Zz 18 ?_;exact ac_ results177 () (p_ rfl zaz_) (.refl _) zt
  . refine Zz 4 ?_;refine e_ (cO_ R_ rfl) rfl (aP_ rfl rfl ?_);refine Zi 0 (λv=>?_) λv=>?_
    . refine Zz 14 ?_;exact ac_ results177 () (p_ rfl zaz_) (.refl _) zt
    . obtain⟨c,t,rfl⟩:=yda_ (l:=s) zaa_;refine Zz 5 ?_;refine e_ (bV_ R_ rfl rfl zac_ rfl) rfl (aP_ rfl rfl ?_);refine Zi 0 (λd=>?_) λd=>?_
      . refine Zz 9 ?_;exact ac_ results177 () (p_ rfl zaz_) (.refl _) zt
      . refine Zz 5 ?_;refine aa_ (rB_ _ zae_) rfl (.refl _) zt rfl λA x=>Zz 5 ?_
        exact ac_ results177 () (p_ rfl zaz_) (.refl _) zt
theorem lQ_ (s:Str) (c:UInt8):Fn0 prog 268 #[str s,str [c]] (i4_ (Lib.indexByte s c)) :=
  hF_ (callable func268 rfl rfl) λw=>(Tryz.stringslite_Index_one ⟨s.toArray⟩ c w).mono zaG_
theorem pJ_ (s:Str) (c:UInt8) (d:ixS c s=none):Fn0 prog 268 #[str s,str [c]] (i4_ (-1)):=by
  have h:=lQ_ s c;rw[ml_,d]at h;exact h
theorem pI_ (s:Str) (c:UInt8) (k:Nat) (d:ixS c s=some k):Fn0 prog 268 #[str s,str [c]] (i4_ k):=by
  have h:=lQ_ s c;rw[ml_,d]at h;exact h
theorem vC_ (s:Str) (c:UInt8) (m:ixS c s=none) :
    Fn0 prog 241 #[str s,str [c]] (.tuple #[str s,str [],.bool false]):=by
  refine g_ func241 rfl rfl ntmps241 rfl λv=>?_;refine Zz 12 ?_;refine f_ (pJ_ s c m) rfl (.refl _) zt rfl λ_=>Zi 6 (λd=>?_) λd=>?_
  . refine Zz 14 ?_;exact jZ_ results241 () rfl rfl rfl rfl (.refl _) zt
  . exact absurd d zac_
theorem vB_ (s:Str) (c:UInt8) (k:Nat) (v:ixS c s=some k) (hl:k<s.length) (x:s.length<=140737488351232) :
    Fn0 prog 241 #[str s,str [c]] (.tuple #[str (s.take k),str (s.drop (k+1)),.bool true]):=by
  refine g_ func241 rfl rfl ntmps241 rfl λm=>?_;refine Zz 12 ?_;refine f_ (pI_ s c k v) rfl (.refl _) zt rfl λ_=>Zi 6 (λd=>?_) λd=>?_
  . exact absurd zaa_ d
  . refine Zz 5 ?_;refine s_ 0 [0,1,2,3,4,5,6,7,8,9,10,11] zk zs (Zz 2 ?_);refine S_ rfl (eM_ (i:=0) (j:=k) (kl:=.i64) R_ rfl rfl rfl zaa_ zaa_) rfl (Zz 3 ?_);refine S_ rfl (cO_ R_ rfl) rfl ?_;refine S_ rfl (bf_ rfl rfl rfl (bW_ zam_ zam_)) rfl ?_;refine S_ rfl (eM_ (i:=k+1) (j:=s.length) (kh:=.i64) R_ rfl rfl rfl zaa_ zaa_) rfl (Zz 7 ?_);exact jZ_ results241 () rfl rfl rfl (by simp[yad_]) (.refl _) zt
theorem ya_ (s:Str) (c:UInt8) (d:ixS c s=none) :
    Fn0 prog 175 #[str s,str [c]] (.tuple #[str s,str [],.bool false]):=by
  refine g_ func175 rfl rfl ntmps175 rfl λm=>?_;refine Zz 11 ?_;refine f_ (vC_ s c d) rfl (.refl _) zt rfl λ_=>Zz 9 ?_
  exact jZ_ results175 () rfl rfl rfl rfl (.refl _) zt
theorem pG_ (s:Str) (y:ixS 58 s=none) :
    Fn0 prog 108 #[str s] (.bool (br_ s)):=by
  refine g_ func108 rfl rfl ntmps108 rfl λx=>?_;refine Zz 9 ?_;refine e_ (cO_ R_ rfl) rfl ?_;refine Zi 0 (λd=>?_) λd=>?_
  . refine Zz 8 ?_;refine f_ (ya_ s 58 y) rfl (.refl _) zt rfl λ_=>Zz 12 ?_
    refine aa_ (nC_ _ zap_) rfl (.refl _) zt rfl λm v=>?_;refine Zz 1 ?_;cases m
    . refine Zz 11 ?_;exact ac_ kM_ () (p_ rfl zaR_) (.refl _) zt
    . refine Zz 3 ?_;refine e_ (aH_ rfl) rfl (Zz 11 ?_);exact ac_ kM_ () (p_ rfl zaR_) (.refl _) zt
  . refine Zz 9 ?_;exact ac_ kM_ () (p_ rfl zaR_) (.refl _) zt
theorem xZ_ (s:Str) (c:UInt8) (k:Nat) (d:ixS c s=some k) (hl:k<s.length) (m:s.length<=140737488351232) :
    Fn0 prog 175 #[str s,str [c]] (.tuple #[str (s.take k),str (s.drop (k+1)),.bool true]):=by
  refine g_ func175 rfl rfl ntmps175 rfl λv=>?_;refine Zz 11 ?_;refine f_ (vB_ s c k d hl m) rfl (.refl _) zt rfl λ_=>Zz 9 ?_
  exact jZ_ results175 () rfl rfl rfl rfl (.refl _) zt
theorem pF_ (s:Str) (k:Nat) (A:ixS 58 s=some k) (hl:k<s.length) :
    Fn0 prog 108 #[str s] (.bool (br_ s)):=by
  refine g_ func108 rfl rfl ntmps108 rfl λy=>?_;refine Zz 9 ?_;refine e_ (cO_ R_ rfl) rfl ?_;refine Zi 0 (λd=>?_) λd=>?_
  . refine Zz 8 ?_;refine f_ (xZ_ s 58 k A hl zaa_) rfl (.refl _) zt rfl λ_=>Zz 12 ?_
    refine aa_ (nC_ _ zap_) rfl (.refl _) zt rfl λm x=>?_;refine Zz 1 ?_;cases m
    . refine Zz 11 ?_;exact ac_ kM_ () (p_ rfl zaR_) (.refl _) zt
    . refine Zz 3 ?_;refine e_ (aH_ rfl) rfl (Zz 5 ?_);refine aa_ (nC_ _ zap_) rfl (.refl _) zt rfl λB v=>?_;refine Zz 7 ?_;exact ac_ kM_ () (p_ rfl zaR_) (.refl _) zt
  . refine Zz 9 ?_;exact ac_ kM_ () (p_ rfl zaR_) (.refl _) zt
theorem gW_ (s:Str):Fn0 prog 108 #[str s] (.bool (br_ s)):=by
  cases hk:ixS 58 s with
  | none=>exact pG_ s hk
  | some k=>exact pF_ s k hk (sS_ hk)
theorem gB_ (s:Str) (A:s.length<=140737488351232) :
    Fn0 prog 109 #[str s] (i4_ (if aJ_ s then 0 else 20)):=by
  refine g_ func109 rfl rfl ntmps109 rfl λy=>?_;refine Zz 9 ?_;refine aa_ (gW_ _) rfl (.refl _) zt rfl λm v=>Zz 1 ?_
  cases m
  . refine Zz 3 ?_;refine aa_ (hz_ _ A) rfl (.refl _) zt rfl λd x=>Zz 3 ?_
    cases d
    . refine Zz 9 ?_;exact ac_ results109 () (bd_ rfl (by simp[aJ_, *])) (.refl _) zt
    . refine Zz 7 ?_;exact ac_ results109 () (bd_ rfl (by simp[aJ_, *])) (.refl _) zt
  . refine Zz 12 ?_;exact ac_ results109 () (bd_ rfl (by simp[aJ_, *])) (.refl _) zt
theorem ge_ (s:Str) (d:s.length<=140737488351232) :
    Fn0 prog 119 #[str s] (.bool (aJ_ s)):=by
  refine g_ func119 rfl rfl ntmps119 rfl λv=>?_;refine Zz 8 ?_;refine f_ (gB_ s d) rfl (.refl _) zt rfl λ_=>P_ (by_ rfl rfl) rfl λx m=>Zz 4 ?_
  exact ac_ results119 () (p_ rfl (by subst_vars;cases aJ_ s<;>rfl)) (.refl _) zt
theorem fits_c:∀ (m:Nat) (c:Con),c.sz<=m->c.ok->∀ (d n bs:Nat),d<=9->n<=64->∀ r,c.fits d n=r->
    Tri prog 110 #[c.val,i4_ d,zp_ bs 0] [(bs,.cells #[i4_ n] 3 (0,0))] [c.memF] (λ_:Unit=>.bool r.1) (λ_=>[(bs,.cells #[i4_ r.2] 3 (0,0))]) (λ_=>[]):=by
  intro m
  induction m with
  | zero=>intro c h;have:=c.sz_pos;omega
  | succ m ih =>
    intro c hm F d n bs Q R r K;obtain⟨k,nm,lo,hi,ad,cap,ps⟩:=c;have C:=Con.ok_len F;simp only[Con.parts,Con.cap]at C;refine g_ func110 rfl rfl ntmps110 rfl λO=>?_;refine Zz 2 ?_;refine F_ rfl rfl λP=>Zz 10 ?_
    refine n_ 1 K_ rfl rfl rfl rfl rfl rfl (Zj 6 (λH=>?_) λH=>?_)
    . refine Zj 8 (λI=>?_) λI=>?_
      . have y:¬ (8<d\/64<n+1):=by omega
        refine Zz 16 ?_;refine bh_ [(1,i4_ d),(2,zp_ bs 0),(23,.slice ad ps.length cap),(24,i4_ ps.length),(25,i4_ ((0:Nat):Int))] zl ?_;refine bF_ (ι:={q:Nat×Nat // q.1<=ps.length/\Con.fits.fitss (ps.take q.1) (d+1) (n+1)=(true,q.2)/\q.2<=64}) (λi=>[(1,i4_ d),(2,zp_ bs 0),(23,.slice ad ps.length cap),(24,i4_ ps.length),(25,i4_ i.1.1)]) (λi=>[_,(bs,.cells #[i4_ i.1.2] 3 (0,0))]) (λ_=>_) (λi=>ps.length - i.1.1) ⟨(0,n+1),by simp[Con.fits.fitss];omega⟩ ?_;rintro ⟨⟨i,x⟩,J⟩;refine bh_ [(1,i4_ d),(2,zp_ bs 0),(23,.slice ad ps.length cap),(24,i4_ ps.length),(25,i4_ i)] zl ?_;refine Zj 2 (λG=>?_) λG=>?_
        . refine Zz 12 ?_;obtain rfl:r=(true,x):=by rw[<-K];exact Con.fits_yes y zaa_ J.2.1
          exact ac_ results110 () rfl (fD_ (i:=1) rfl) zt
        . have B:i<ps.length:=by omega
          obtain⟨p,E⟩:∃ p,ps[i]? = some p:=⟨_,yaa_ B⟩;have A:p∈ps:=yac_ E;refine Zz 10 ?_;refine e_ (Y_ al_ D_ rfl rfl (λv _ h=>Con.row_addr (c:=.mk k nm lo hi ad cap ps) h.1 E) zaa_ zaa_) rfl (e_ (ah_ (us:=p.cells) aq_ D_ rfl (λv _ h=>((Con.mem_iff (.mk k nm lo hi ad cap ps) v).1 h.1).1) p.cells_len (Con.part_cells (c:=.mk k nm lo hi ad cap ps) (i:=i) E)) rfl (u_ bP_ rfl λN=>eS_ 0 D_ rfl rfl rfl rfl (Zz 4 ?_)));refine e_ (cD_ 0 aq_ D_ rfl rfl) rfl (Zz 3 ?_);refine nk_ 2 (ih p (by have:=Con.sz_part (c:=.mk k nm lo hi ad cap ps) A;omega) (Con.ok_part (c:=.mk k nm lo hi ad cap ps) F A) (d+1) x bs zaa_ J.2.2 _ rfl) rfl rfl (λv _ h=>⟨Con.mem_part (c:=.mk k nm lo hi ad cap ps) h.1 A,trivial⟩) rfl λL M=>?_;refine e_ (aH_ rfl) rfl (Zz 2 ?_);cases L
          . refine Zz 7 ?_;obtain rfl:r=(false,(p.fits (d+1) x).2):=by rw[<-K];exact Con.fits_no y E J.2.1 zae_
            exact ac_ results110 () rfl (fD_ (i:=2) rfl) zt
          . refine Zz 8 ?_;exact C_ ⟨(i+1,(p.fits (d+1) x).2),B,Con.fitss_step E J.2.1 zae_⟩ zal_ zl (@List.perm_append_comm _ [_] _) zh
      . refine Zz 10 ?_;obtain rfl:r=(false,n+1):=by rw[<-K,Con.fits_eq];simp<;>omega
        exact ac_ results110 () rfl (fD_ (i:=1) rfl) zt
    . refine Zz 15 ?_;obtain rfl:r=(false,n+1):=by rw[<-K,Con.fits_eq];simp<;>omega
      exact ac_ results110 () rfl (fD_ (i:=1) rfl) zt
def tU_ (v:Vw):Prop:=v.sl/\v.im 6/\∃ T fz,v.w.heap[6]? = some (.cells (Lib.pow10Tab.map λz=>Value.int .u64 z).toArray T fz)
theorem sy_ {v d:Vw} (h:v.le d) (x:tU_ v):tU_ d:=by
  obtain⟨A,m,T,fz,y⟩:=x;exact⟨by rw[h.sl];exact A,h.imUp _ m,T,fz,by rw[h.block _ m];exact y⟩
theorem uZ_ {v : Vw} (d : tU_ v) : Lib.TabIs prog v.w "internal/strconv.uint64pow10" .u64 Lib.pow10Tab := by
  obtain⟨_,y,T,fz,m⟩:=d;have x : Tryz.prog.globalNamed "internal/strconv.uint64pow10" = some 6 := by kernel_rfl
  simp only[Lib.TabIs,World.var?,x,Option.bind_some,m]
def bB_:Fct where
  p:=λv=>bl_ v (some ⟨2,0,none⟩) (en_.flatMap tZ_)/\bl_ v (some ⟨0,0,none⟩) (uD_.flatMap Use.cells)/\True/\tU_ v
  mono:=λv v' h hp=>⟨(L_ _ _).mono v v' h hp.1,(L_ _ _).mono v v' h hp.2.1,trivial,sy_ h hp.2.2.2⟩
def dA_:Fct:=L_ (some ⟨1,0,none⟩) (gv_.flatMap NUse.cells)
theorem fR_ {G:Prop} (h:G:=by
 refine Zz 7 ?_;exact jm_):G:=h
theorem mx_ {G:Prop} (h:G:=by
 refine Zz 7 ?_;exact met ⟨rfl,rfl,rfl,rfl,rfl,rfl,rfl,rfl,rfl,rfl,rfl,rfl,rfl,rfl,(p_ rfl (jaf J)),trivial⟩):G:=h
theorem jl_ {G:Prop} (h:G:=by
 exact met ⟨rfl,rfl,rfl,rfl,rfl,rfl,rfl,rfl,rfl,rfl,rfl,rfl,(p_ rfl (jot d)),trivial⟩):G:=h
theorem hg_ {G:Prop} (h:G:=by
 exact met ⟨rfl,rfl,rfl,rfl,rfl,rfl,rfl,rfl,rfl,rfl,rfl,rfl,rfl,(p_ rfl (jot d)),trivial⟩):G:=h
theorem jm_ {G:Prop} (h:G:=by
 exact ac_ results112 () (bd_ rfl (by unfold Con.fieldErr;simp only[Con.kind,Con.parts,Con.name,Con.lo,Con.hi];simp only[Q];repeat (first|rfl|exact (yaq_ zaa_).symm|(rw[yaq_ zaF_];first|done|rfl)|(rw[yaf_ zaF_])))) (.refl _) zt):G:=h
theorem od_ (c:Con) (a1:c.ok):Tri prog 112 #[c.val] [] [bB_] (λ_:Unit=>i4_ c.fieldErr) (λ_=>[]) (λ_=>[]):=by
 obtain⟨k,nm,lo,hi,ad,cap,ps⟩:=c;have a5:=Con.ok_len a1;simp only[Con.parts,Con.cap]at a5;refine g_ func112 rfl rfl ntmps112 rfl λv_1=>?_;refine Zz 2 ?_;refine F_ rfl rfl λA=>Zz 8 ?_
 refine P_ (cB_ rfl rfl) rfl λr_1 O=>Zz 1 ?_
 refine ao_ 4 ((decide (k<1))||(decide (7<k))) (λr=>[(0,.agg (Con.cells (Con.mk k nm lo hi ad cap ps)).toArray),(1,zp_ A 0),(2,i4_ 0),(11,.bool r)]) ?_ λr_2 a0=>?_
 .cases r_1
  .have d:=O
   replace O:=zdf O;refine Zz 5 ?_;refine P_ (cP_ rfl rfl) rfl λa4 N=>Zz 3 ?_
   exact met (zm (jof d N))
  have d:=O;replace O:=zdt O;refine Zz 6 ?_;exact met ⟨rfl,rfl,rfl,(p_ rfl (jot d)),trivial⟩
 refine Zz 2 ?_;cases r_2
 .simp at a0
  obtain⟨x,hx⟩:∃ x,en_[k.toNat]? = some x:=⟨_,yaa_ (show k.toNat<8 by omega)⟩;have Q:nd k=x:=by simp[nd,hx]
  obtain⟨E,L,K,xb⟩:=x;refine Zz 7 ?_;refine e_ (dk_ runUnderlying267 sizeOf266 rfl rfl zbE_ (by show k<(8:Int);omega)) rfl ?_;refine e_ (ah_ (ad:=some ⟨2,0,none⟩) (k:=k.toNat*4) (us:=tZ_ (E,L,K,xb)) isAgg266 sizeOf266 rfl (λv _ h=>h.1.1) (kQ_ _) (λj y hj=>by rw[kW_ tZ_ 4 kQ_ en_ k.toNat j _ hx (by have:=(yab_.1 hj).1;rwa [kQ_]at this)];exact hj)) rfl ?_;refine u_ zeroValue266 rfl λF=>n_ 0 sizeOf266 rfl rfl rfl rfl rfl rfl (Zz 10 ?_)
  refine P_ (cB_ rfl rfl) rfl λa4 N=>Zz 1 ?_
  let Ru:Array Value:=#[i4_ E,i4_ L,i4_ K,.bool xb];refine ao_ 7 ((decide ((ps.length:Int)<L))||(decide (K<(ps.length:Int)))) (λr=>[(0,.agg (Con.cells (Con.mk k nm lo hi ad cap ps)).toArray),(1,zp_ A 0),(2,i4_ 0),(11,.bool false),(12,zp_ A 0),(13,i4_ k),(14,.pointer (some (rad (some ⟨2,0,none⟩) (k.toNat*4)))),(15,.agg Ru),(3,zp_ F 0),(29,.bool r)]) ?_ λr_4 T=>?_
  .cases a4
   .have d:=N
    replace N:=zdf N;refine Zz 11 ?_;refine P_ (cP_ rfl rfl) rfl λa3 R=>Zz 3 ?_
    exact met (zm (jof d R))
   have d:=N;replace N:=zdt N;refine Zz 9 ?_;exact met ⟨rfl,rfl,rfl,rfl,rfl,rfl,rfl,rfl,rfl,(p_ rfl (jot d)),trivial⟩
  refine Zz 1 ?_;refine ao_ 9 ((((decide ((ps.length:Int)<L))||(decide (K<(ps.length:Int)))))||(((E==0)&&(nm != [])))) (λr=>[(0,.agg (Con.cells (Con.mk k nm lo hi ad cap ps)).toArray),(1,zp_ A 0),(2,i4_ 0),(11,.bool false),(12,zp_ A 0),(13,i4_ k),(14,.pointer (some (rad (some ⟨2,0,none⟩) (k.toNat*4)))),(15,.agg Ru),(3,zp_ F 0),(39,.bool r)]) ?_ λa3 R=>?_
  .cases r_4
   .have d:=T
    simp at T
    refine Zz 5 ?_;refine P_ (by_ rfl rfl) rfl λW m=>Zz 2 ?_
    refine ao_ 4 ((E==0)&&(nm != [])) (λr=>[(0,.agg (Con.cells (Con.mk k nm lo hi ad cap ps)).toArray),(1,zp_ A 0),(2,i4_ 0),(11,.bool false),(12,zp_ A 0),(13,i4_ k),(14,.pointer (some (rad (some ⟨2,0,none⟩) (k.toNat*4)))),(15,.agg Ru),(3,zp_ F 0),(30,.bool false),(38,.bool r)]) ?_ λY M=>?_
    .cases W
     .have J:=m
      replace m:=znb m;refine Zz 7 ?_;exact met ⟨rfl,rfl,rfl,rfl,rfl,rfl,rfl,rfl,rfl,rfl,(p_ rfl (jaf J)),trivial⟩
     have J:=m;replace m:=zeb m;refine Zz 5 ?_;refine P_ (dD_ rfl rfl) rfl λV B=>Zz 4 ?_
     exact met ⟨rfl,rfl,rfl,rfl,rfl,rfl,rfl,rfl,rfl,rfl,(p_ rfl (jat J B)),trivial⟩
    refine Zz 3 ?_;exact met (zm (jof d M))
   have d:=T;simp at T
   refine Zz 11 ?_;exact met ⟨rfl,rfl,rfl,rfl,rfl,rfl,rfl,rfl,rfl,(p_ rfl (jot d)),trivial⟩
  refine Zz 2 ?_;cases a3
  .simp at R
   refine Zz 10 ?_;cases xb
   .refine Zz 5 ?_;refine P_ (aM_ rfl rfl) rfl λW m=>Zz 1 ?_
    let Qu:Array Value:=#[i4_ E,i4_ L,i4_ K,.bool false];refine ao_ 4 ((lo != 0)||(hi != 0)) (λr=>[(0,.agg (Con.cells (Con.mk k nm lo hi ad cap ps)).toArray),(1,zp_ A 0),(2,i4_ 0),(11,.bool false),(12,zp_ A 0),(13,i4_ k),(14,.pointer (some (rad (some ⟨2,0,none⟩) (k.toNat*4)))),(15,.agg Qu),(3,zp_ F 0),(39,.bool false),(40,zp_ F 3),(41,.bool false),(64,.bool r)]) ?_ λY M=>?_
    .cases W
     .have d:=m
      replace m:=eY_ m;refine Zz 5 ?_;refine P_ (aM_ rfl rfl) rfl λV B=>Zz 3 ?_
      exact met (zm (jof d B))
     have d:=m;replace m:=eV_ m;refine Zz 6 ?_;exact jl_
    refine Zz 2 ?_;cases Y
    .simp at M
     refine Zz 8 ?_;refine P_ (by_ rfl rfl) rfl λV B=>Zz 1 ?_
     refine ao_ 4 ((E==0)||(br_ nm)) (λr=>[(0,.agg (Con.cells (Con.mk k nm lo hi ad cap ps)).toArray),(1,zp_ A 0),(2,i4_ 0),(11,.bool false),(12,zp_ A 0),(13,i4_ k),(14,.pointer (some (rad (some ⟨2,0,none⟩) (k.toNat*4)))),(15,.agg Qu),(3,zp_ F 0),(39,.bool false),(40,zp_ F 3),(41,.bool false),(64,.bool false),(72,.bool r)]) ?_ λX G=>?_
     .cases V
      .have d:=B
       replace B:=znb B;refine Zz 5 ?_;refine aa_ (gW_ nm) rfl (.refl _) zt rfl λU H=>Zz 3 ?_
       exact met (zm (jof d H))
      have d:=B;replace B:=zeb B;refine Zz 6 ?_;exact hg_
     refine Zz 1 ?_;refine ao_ 9 ((((E==0)||(br_ nm)))||(((E==2)&&(cE_ nm)))) (λr=>[(0,.agg (Con.cells (Con.mk k nm lo hi ad cap ps)).toArray),(1,zp_ A 0),(2,i4_ 0),(11,.bool false),(12,zp_ A 0),(13,i4_ k),(14,.pointer (some (rad (some ⟨2,0,none⟩) (k.toNat*4)))),(15,.agg Qu),(3,zp_ F 0),(39,.bool false),(40,zp_ F 3),(41,.bool false),(64,.bool false),(82,.bool r)]) ?_ λU H=>?_
     .cases X
      .have d:=G
       simp at G
       refine Zz 5 ?_;refine P_ (by_ rfl rfl) rfl λS C=>Zz 2 ?_
       refine ao_ 4 ((E==2)&&(cE_ nm)) (λr=>[(0,.agg (Con.cells (Con.mk k nm lo hi ad cap ps)).toArray),(1,zp_ A 0),(2,i4_ 0),(11,.bool false),(12,zp_ A 0),(13,i4_ k),(14,.pointer (some (rad (some ⟨2,0,none⟩) (k.toNat*4)))),(15,.agg Qu),(3,zp_ F 0),(39,.bool false),(40,zp_ F 3),(41,.bool false),(64,.bool false),(73,.bool false),(81,.bool r)]) ?_ λZ I=>?_
       .cases S
        .have J:=C
         replace C:=znb C;exact mx_
        have J:=C;replace C:=zeb C;refine Zz 5 ?_;refine aa_ (hz_ nm (Con.ok_name a1)) rfl (.refl _) zt rfl λr_13 P=>Zz 4 ?_
        exact met ⟨rfl,rfl,rfl,rfl,rfl,rfl,rfl,rfl,rfl,rfl,rfl,rfl,rfl,rfl,(p_ rfl (jat J P)),trivial⟩
       refine Zz 3 ?_;exact met (zm (jof d I))
      have d:=G;simp at G
      refine Zz 11 ?_;exact hg_
     refine Zz 2 ?_;cases U
     .simp at H
      refine Zz 9 ?_;exact jm_
     simp at H
     exact fR_
    simp at M
    exact fR_
   refine Zz 5 ?_;refine P_ (cB_ rfl rfl) rfl λW m=>Zz 1 ?_
   let Pu:Array Value:=#[i4_ E,i4_ L,i4_ K,.bool true];refine ao_ 6 ((decide (lo<(-1099511627776)))||(decide (hi<lo))) (λr=>[(0,.agg (Con.cells (Con.mk k nm lo hi ad cap ps)).toArray),(1,zp_ A 0),(2,i4_ 0),(11,.bool false),(12,zp_ A 0),(13,i4_ k),(14,.pointer (some (rad (some ⟨2,0,none⟩) (k.toNat*4)))),(15,.agg Pu),(3,zp_ F 0),(39,.bool false),(40,zp_ F 3),(41,.bool true),(51,.bool r)]) ?_ λY M=>?_
   .cases W
    .have d:=m
     replace m:=zdf m;refine Zz 9 ?_;refine P_ (cP_ rfl rfl) rfl λV B=>Zz 3 ?_
     exact met (zm (jof d B))
    have d:=m;replace m:=zdt m;refine Zz 8 ?_;exact jl_
   refine Zz 1 ?_;refine ao_ 4 ((((decide (lo<(-1099511627776)))||(decide (hi<lo))))||(decide (1099511627776<hi))) (λr=>[(0,.agg (Con.cells (Con.mk k nm lo hi ad cap ps)).toArray),(1,zp_ A 0),(2,i4_ 0),(11,.bool false),(12,zp_ A 0),(13,i4_ k),(14,.pointer (some (rad (some ⟨2,0,none⟩) (k.toNat*4)))),(15,.agg Pu),(3,zp_ F 0),(39,.bool false),(40,zp_ F 3),(41,.bool true),(56,.bool r)]) ?_ λV B=>?_
   .cases Y
    .have d:=M
     simp at M
     refine Zz 5 ?_;refine P_ (cP_ rfl rfl) rfl λX G=>Zz 3 ?_
     exact met (zm (jof d G))
    have d:=M;simp at M
    refine Zz 6 ?_;exact jl_
   refine Zz 2 ?_;cases V
   .simp at B
    refine Zz 8 ?_;refine P_ (by_ rfl rfl) rfl λX G=>Zz 1 ?_
    refine ao_ 4 ((E==0)||(br_ nm)) (λr=>[(0,.agg (Con.cells (Con.mk k nm lo hi ad cap ps)).toArray),(1,zp_ A 0),(2,i4_ 0),(11,.bool false),(12,zp_ A 0),(13,i4_ k),(14,.pointer (some (rad (some ⟨2,0,none⟩) (k.toNat*4)))),(15,.agg Pu),(3,zp_ F 0),(39,.bool false),(40,zp_ F 3),(41,.bool true),(56,.bool false),(72,.bool r)]) ?_ λU H=>?_
    .cases X
     .have d:=G
      replace G:=znb G;refine Zz 5 ?_;refine aa_ (gW_ nm) rfl (.refl _) zt rfl λS C=>Zz 3 ?_
      exact met (zm (jof d C))
     have d:=G;replace G:=zeb G;refine Zz 6 ?_;exact hg_
    refine Zz 1 ?_;refine ao_ 9 ((((E==0)||(br_ nm)))||(((E==2)&&(cE_ nm)))) (λr=>[(0,.agg (Con.cells (Con.mk k nm lo hi ad cap ps)).toArray),(1,zp_ A 0),(2,i4_ 0),(11,.bool false),(12,zp_ A 0),(13,i4_ k),(14,.pointer (some (rad (some ⟨2,0,none⟩) (k.toNat*4)))),(15,.agg Pu),(3,zp_ F 0),(39,.bool false),(40,zp_ F 3),(41,.bool true),(56,.bool false),(82,.bool r)]) ?_ λS C=>?_
    .cases U
     .have d:=H
      simp at H
      refine Zz 5 ?_;refine P_ (by_ rfl rfl) rfl λZ I=>Zz 2 ?_
      refine ao_ 4 ((E==2)&&(cE_ nm)) (λr=>[(0,.agg (Con.cells (Con.mk k nm lo hi ad cap ps)).toArray),(1,zp_ A 0),(2,i4_ 0),(11,.bool false),(12,zp_ A 0),(13,i4_ k),(14,.pointer (some (rad (some ⟨2,0,none⟩) (k.toNat*4)))),(15,.agg Pu),(3,zp_ F 0),(39,.bool false),(40,zp_ F 3),(41,.bool true),(56,.bool false),(73,.bool false),(81,.bool r)]) ?_ λr_13 P=>?_
      .cases Z
       .have J:=I
        replace I:=znb I;exact mx_
       have J:=I;replace I:=zeb I;refine Zz 5 ?_;refine aa_ (hz_ nm (Con.ok_name a1)) rfl (.refl _) zt rfl λr_14 a2=>Zz 4 ?_
       exact met ⟨rfl,rfl,rfl,rfl,rfl,rfl,rfl,rfl,rfl,rfl,rfl,rfl,rfl,rfl,(p_ rfl (jat J a2)),trivial⟩
      refine Zz 3 ?_;exact met (zm (jof d P))
     have d:=H;simp at H
     refine Zz 11 ?_;exact hg_
    refine Zz 2 ?_;cases S
    .simp at C
     refine Zz 9 ?_;exact jm_
    simp at C
    exact fR_
   simp at B
   exact fR_
  simp at R
  exact fR_
 simp at a0
 refine Zz 7 ?_;exact ac_ results112 () (bd_ rfl (by unfold Con.fieldErr;simp only[Con.kind,Con.parts,Con.name,Con.lo,Con.hi];repeat (first|rfl|exact (yaq_ zaa_).symm|(rw[yaq_ zaF_];first|done|rfl)|(rw[yaf_ zaF_])))) (.refl _) zt
end Go.Proofs.YtfjcabalehamcaaGreatDoor
