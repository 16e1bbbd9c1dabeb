/-
  Lemmas for the law ModuleGoal (no condition).
-/
import Derived.Test.YtbffkokbdeppaaaGreatDoorQModuleGoal6
import Derived.Scope
import Derived.Lib.Join
set_option linter.unusedVariables false
set_option linter.unusedSimpArgs false
set_option linter.unusedSectionVars false
set_option maxHeartbeats 1000000
namespace Go.Sx
open Go
section
variable {P:Program} {N:Nf} {v0:Vw} {H0:Hp} {R:Exit->Act->World->Prop} {K:List Kt} {fr:Fr} {H F:Hp} {Γ:List Fct} {ops:Array Oper} {l:List Oper} {d:Nat} {ty:TypeId} {ps:String} {af:Array Edge} {e:TypeId} {sz n:Nat} {sv:Value} {xs:List Value} {Hr:Hp}
def svK:Value->Nat
  | .slice _ _ c=>c
  | _=>0
def svT (sv:Value) (n k sz:Nat):Value:=.slice (some ⟨svB sv,k*sz,none⟩) (n - k) (svK sv - k)
theorem su_ {x y:Operand} {t m:TypeId} {kl:IntKind} {k:Nat} (h:at_ e sz sv n xs Hr) (A:∀ w,(underlying t).run P w=.ok (.slice m) w) (C:∀ w,(sizeOf m).run P w=.ok sz w) (E:Fr.ev fr x=some sv) (v:Fr.ev fr y=some (.int kl (k:Int))) (hk:k<n) :
    Yld P N fr H Γ (.slice t x (some y) none none) ty (svT sv n k sz):=by
  rcases h.2 with⟨_,G,_⟩|⟨g,cap,cur,rfl,rfl,B,J,L,I⟩
  . omega
  . refine ai_ (cD_ (i:=k) (j:=n) (kl:=kl) (kh:=.i64) A C E v rfl zaa_ B) ?_
    grind[svT,sad,ck_,svB,svK]
theorem xh_ {x:Operand} {t m:TypeId} {k:Nat} (h:∀ w,(underlying t).run P w=.ok (.slice m) w) (v:Fr.ev fr x=some (svT sv n k sz)):Yld P N fr H Γ (.call ⟨.builtin .len,#[x],#[t]⟩) ty (.int .i64 ((n - k:Nat):Int)):=dS_ h v
theorem rr_ {x y:Operand} {t h:TypeId} {k j:Nat} (v:∀ w,(underlying t).run P w=.ok (.slice h) w) (A:∀ w,(sizeOf h).run P w=.ok sz w) (B:Fr.ev fr x=some (svT sv n k sz)) (m:Fr.ev fr y=some (.int .i64 (j:Int))) (C:j<n - k) :
    Yld P N fr H Γ (.indexAddr t x y) ty (.pointer (some ⟨svB sv,((k+j:Nat):Int).toNat*sz,none⟩)):=by
  refine ai_ (ft_ v A B m zaa_ zaa_) ?_
  grind[Int.toNat_natCast]
theorem cutRow (h:at_ e sz sv n xs Hr) {k:Nat} (hk:k<=n) (I:0<n):∃ sv',at_ e sz sv' k (xs.take (k*sz)) Hr/\
    ∀ {N:Nf} {fr:Fr} {H:Hp} {Γ:List Fct} {ty t:TypeId} {x y:Operand},(∀ w,(underlying t).run P w=.ok (.slice e) w)->(∀ w,(sizeOf e).run P w=.ok sz w)->Fr.ev fr x=some sv->Fr.ev fr y=some (.int .i64 (k:Int))->Yld P N fr H Γ (.slice t x none (some y) none) ty sv':=by
  obtain⟨hl,⟨_,G,_⟩|⟨g,cap,cur,rfl,rfl,v,hm,E,m⟩⟩:=h
  . omega
  . refine⟨.slice (some ⟨g,0,none⟩) k cap,⟨?_,.inr ⟨g,cap,cur,rfl,rfl,by omega,hm,E,?_⟩⟩,λB C m A=>?_⟩
    . grind[Nat.mul_le_mul_right]
    . grind[Nat.mul_le_mul_right]
    . refine ai_ (cD_ (i:=0) (j:=k) (kl:=.i64) (kh:=.i64) B C m rfl A (ybm_ _) zaa_) ?_
      grind[sad,ck_]
theorem vd_ {x:Operand} {t:TypeId} {k:Nat} {z:Value} (y:at_ e sz sv n xs Hr) (hH:H.Perm (Hr++F)) (hu:∀ w,(underlying t).run P w=.ok (.slice e) w) (hz:∀ w,(zeroValue e).run P w=.ok z w) (T:z.cells.size=sz) (h1:z.cells.toList.all Value.oneCell'=true) (hsz:0<sz)
    (hx:Fr.ev fr x=some (svT sv n k sz)) (hk:k<n)
    (h:∀ Hr' zs,zs.length=(n - k)*sz->at_ e sz sv n (xs.take (k*sz)++zs) Hr'->Ops P R N v0 H0 ops l K fr (Hr'++F) Γ):Ops P R N v0 H0 ops (⟨none,.call ⟨.builtin .clear,#[x],#[t]⟩,ty,ps,af,none⟩::l) K fr H Γ:=by
  rcases y.2 with⟨_,h2,_⟩|⟨g,cap,cur,rfl,rfl,X,Z,S,h6⟩
  . omega
  . have hle:n*sz<=cap*sz:=yaU_ _ X
    have B:k*sz<=n*sz:=yaU_ _ zaa_;obtain⟨m,hm⟩:∃ m,n - k=m+1:=⟨n - k - 1,by omega⟩;have A:(Builtin.zeroCells z.cells (n - k)).toList.length=(n - k)*sz:=by simp[Builtin.zeroCells,T]
    have E:k*sz+(n - k)*sz=n*sz:=by rw[<-ybE_];congr 1;omega
    refine u_ hH (cQ_ rfl λa v W Q g3 g4=>?_);have V:=(Q.own _ yao_).1
    have C:=run_storeCells_at P g (k*sz) e (Builtin.zeroCells z.cells (n - k)).toList 0 cur v.w V (by rw[A,S];omega) (λc L=>by
      have G:0<z.cells.size:=by omega
      simp only[Builtin.zeroCells,Array.toList_map,Array.toList_range,yan_,ycx_]at L;obtain⟨i,_,rfl⟩:=L;have O:i%z.cells.size<z.cells.size:=Nat.mod_lt _ G;rw[getElem!_pos z.cells _ O];exact ybb_.1 h1 _ zai_)
    have he:(execOp a.eval ⟨none,.call ⟨.builtin .clear,#[x],#[t]⟩,ty,ps,af,none⟩).run P v.w=.ok (.value (.tuple #[])) (v.w.setRow g (cur.toList.take (k*sz)++(Builtin.zeroCells z.cells (n - k)).toList++cur.toList.drop (k*sz+(n - k)*sz)).toArray):=by
      rw[A]at C;simp only[ycX_]at C
      have M:a.eval x=.slice (some ⟨g,k*sz,none⟩) (m+1) (cap - k):=by
        have:=W.ev hx;rw[this];unfold svT;rw[hm];rfl
      rw[hm]at C ⊢;simp[execOp,resolve,invoke,builtin,M,Builtin.clear_,hu,hz,C]
    unfold Oper.wp;rw[he];obtain⟨q1,Y⟩:=gj_ (i:=0) (w':=v.w.setRow g (cur.toList.take (k*sz)++(Builtin.zeroCells z.cells (n - k)).toList++cur.toList.drop (k*sz+(n - k)*sz)).toArray) Q rfl rfl rfl rfl (yad_ _) zai_ (setRow_heap _ _ _ _ _ _ V) (λc L=>setRow_other _ _ _ _ L);refine h [(g,.cells (cur.toList.take (k*sz)++(Builtin.zeroCells z.cells (n - k)).toList++cur.toList.drop (k*sz+(n - k)*sz)).toArray e (0,0))] (Builtin.zeroCells z.cells (n - k)).toList A ⟨?_,.inr ⟨g,cap,_,rfl,rfl,X,Z,?_,?_⟩⟩ _ _ W q1 (g3.trans Y) (aT_ (Y.le Q) g4)
    . rw[yaj_,yaI_,A,y.1,ybA_ B];exact E
    . simp only[yca_,yaj_,yaI_,ycR_,ycc_,S,A,E]
      omega
    . have J:(cur.toList.take (k*sz)).length=k*sz:=by rw[yaI_,ycc_,S];omega
      rw[ycJ_]
      apply yaS_
      intro j;rw[ybK_]
      by_cases U:j<n*sz
      . rw[yaq_ U]
        by_cases I:j<k*sz
        . rw[yap_,ybF_ zaa_,ybF_ (by rw[yaI_,y.1];omega),ybK_,yaq_ I,ybK_,yaq_ I,<-h6,ybK_,yaq_ U]
        . rw[ybF_ (by rw[yaj_,J,A];omega),ybD_ zaa_,J,ybD_ (by rw[yaI_,y.1];omega),yaI_,y.1,ybA_ B]
      . rw[yag_ U,List.getElem?_eq_none (by rw[yaj_,yaI_,A,y.1,ybA_ B];omega)]
end
end Go.Sx
namespace Go.Vs
def cpG {α:Type} (q:α->α->Bool):α->List α->List α
  | _,[]=>[]
  | x,y::l=>if q y x then cpG q y l else y::cpG q y l
def cpL {α:Type} (q:α->α->Bool):List α->List α
  | []=>[]
  | x::l=>x::cpG q x l
theorem uj_ {α:Type} {q:α->α->Bool}:∀ (l:List α) (x z w:α),(x::l)[l.length]? = some w->cpG q x (l++[z])=cpG q x l++(if q z w then [] else [z])
  | [],x,z,w,h=>by
    grind[cpG]
  | y::l,x,z,w,h=>by
    simp only[yak_,ybw_]at h;simp only[yaD_,cpG];have:=uj_ (q:=q) l y z w h
    grind
theorem lw_ {α:Type} {q:α->α->Bool} {l:List α} {p:Nat} {w z:α} (h:l[p]? = some w) (k:l[p+1]? = some z):cpL q (l.take (p+2))=cpL q (l.take (p+1))++(if q z w then [] else [z]):=by
  cases l<;>grind[List.getElem?_eq_some_iff,List.take_add_one,cpL,uj_]
theorem Dd_ {α:Type} {q:α->α->Bool} (l:List α):(cpL q l).length<=l.length:=by
  cases l with
  | nil=>simp[cpL]
  | cons x l =>
    simp only[cpL,yak_]
    have:∀ (l:List α) (x:α),(cpG q x l).length<=l.length:=by
      intro l
      induction l<;>grind[cpG]
    grind
theorem sh_ {α:Type} {q:α->α->Bool}:∀ (l:List α) (x z:α),z∈cpG q x l->z∈l
 | [],_,_,h=>by grind[cpG]
 | y::l,x,z,h=>by
   simp only[cpG]at h
   split at h
   . exact yaK_ _ (sh_ l y z h)
   . rcases yal_.1 h with rfl|h
     . simp
     . exact yaK_ _ (sh_ l y z h)
theorem sg_ {α:Type} {q:α->α->Bool} {l:List α} {z:α} (h:z∈cpL q l):z∈l:=by
  cases l<;>grind[cpL,sh_]
structure CmI {α:Type} (q:α->α->Bool) (S M:List α) (k p:Nat):Prop where
  len:M.length=S.length
  kp:k<p
  pl:p<=S.length
  rest:∀ j,k<=j->M[j]? = S[j]?
  fst:M.take k=cpL q (S.take p)
theorem CmI.none {α:Type} {q:α->α->Bool} {S:List α} {k:Nat} {x y:α} (v:cpL q (S.take (k+1))=S.take (k+1)) (A:S[k]? = some x) (m:S[k+1]? = some y) (h:q y x=true):CmI q S S (k+1) (k+2) :=
  ⟨rfl,by omega,by grind,λ_ _=>rfl,by rw[lw_ A m,yaq_ h,yas_,v]⟩
theorem CmI.skip {α:Type} {q:α->α->Bool} {S M:List α} {k p:Nat} {x y:α} (h:CmI q S M k (p+1)) (v:M[p]? = some x) (m:M[p+1]? = some y) (A:q y x=true):CmI q S M k (p+2):=by
  have B:=h.kp;rw[h.rest p zaa_]at v;rw[h.rest (p+1) zaa_]at m;exact⟨h.len,by omega,by grind,h.rest,by rw[lw_ v m,yaq_ A,yas_,h.fst]⟩
theorem CmI.keep {α:Type} {q:α->α->Bool} {S M:List α} {k p:Nat} {x y:α} (h:CmI q S M k (p+1)) (A:M[p]? = some x) (m:M[p+1]? = some y) (C:q y x=false):CmI q S (M.set k y) (k+1) (p+2):=by
 have B:=h.kp;have v:=(yaf_.1 m).1;rw[h.rest p zaa_]at A;rw[h.rest (p+1) zaa_]at m;refine⟨by grind[len],by omega,by grind,λj E=>?_,?_⟩
 .rw[ycD_ zaa_];exact h.rest j zaa_
 grind[lw_,fst,List.take_add_one,List.take_set,List.length_take]
theorem CmI.done {α:Type} {q:α->α->Bool} {S M:List α} {k:Nat} (h:CmI q S M k S.length):M.take k=cpL q S:=by rw[h.fst,ybB_]
theorem AY_ {α:Type} {q:α->α->Bool} {S:List α} {k:Nat} {x y:α} (v:cpL q (S.take (k+1))=S.take (k+1)) (A:S[k]? = some x) (m:S[k+1]? = some y) (h:q y x=false):cpL q (S.take (k+2))=S.take (k+2):=by
  grind[lw_,List.take_add_one]
theorem rc_ {α:Type} {q:α->α->Bool} {S:List α} (h:S.length<2):cpL q S=S:=by
  match S,h with
  | [],_=>rfl
  | [x],_=>rfl
end Go.Vs
namespace Go.Vs
open Go Go.Sx
def ah_ (a b:Str):Fc:=⟨1,a,b,[],0,0⟩
def az_ (a r b:Str):Fc:=⟨2,a,b,r,0,0⟩
def am_ (a r:Str) (lo hi:Int):Fc:=⟨3,a,[],r,lo,hi⟩
inductive One (p:List Pc) (A:List Str) (S:Fc->Prop) (M:Fc->Fc->Prop):Fc->Prop
  | r1 {a:Str} (h:a∈A):One p A S M (ah_ a a)
  | r2 {a:Str} (h:a∈A):One p A S M (ah_ a [42])
  | r10 {a:Str} {x:Pc} (hx:x∈p) (hk:x.kind=7) (h:a∈A):One p A S M (az_ a x.r a)
  | r3 {a:Str} {x:Pc} (hx:x∈p) (hk:x.kind=1) (h:S (ah_ a x.a)):One p A S M (ah_ a x.c)
  | r4 {a:Str} {x:Pc} (hx:x∈p) (hk:x.kind=2) (h:S (ah_ a x.a)) (h':S (ah_ a x.b)):One p A S M (ah_ a x.c)
  | r5 {a:Str} {x:Pc} (hx:x∈p) (hk:x.kind=3) (h:S (ah_ a x.a)):One p A S M (az_ a x.r x.c)
  | r6 {a b:Str} {x:Pc} (hx:x∈p) (hk:x.kind=5) (h:S (az_ a x.r b)):One p A S M (az_ a x.t b)
  | r7 {a b c:Str} {x:Pc} (hx:x∈p) (hk:x.kind=6) (h:S (az_ a x.r b)) (h':S (az_ b x.s c)):One p A S M (az_ a x.t c)
  | r8 {a b:Str} {x:Pc} (hx:x∈p) (hk:x.kind=4) (h:S (az_ a x.r b)) (h':S (ah_ b x.a)):One p A S M (ah_ a x.c)
  | r9 {a r b:Str} (h:S (az_ a r b)) (h':S (ah_ b [33])):One p A S M (ah_ a [33])
  | r11 {a:Str} {x:Pc} (hx:x∈p) (hk:x.kind=8) (h:S (ah_ a x.a)):One p A S M (am_ a x.r x.lo x.hi)
  | r12 {a r:Str} {lo hi lo' hi':Int} (h:S (am_ a r lo hi)) (h':S (am_ a r lo' hi')) (hm:M (am_ a r lo hi) (am_ a r lo' hi')) (hl:max lo lo'<=min hi hi'):One p A S M (am_ a r (max lo lo') (min hi hi'))
  | r13 {a r:Str} {lo hi lo' hi':Int} (h:S (am_ a r lo hi)) (h':S (am_ a r lo' hi')) (hm:M (am_ a r lo hi) (am_ a r lo' hi')) (hl:min hi hi'<max lo lo'):One p A S M (ah_ a [33])
  | r14 {a:Str} {lo hi:Int} {x:Pc} (hx:x∈p) (hk:x.kind=9) (h:S (am_ a x.r lo hi)) (h1:x.lo<=lo) (h2:hi<=x.hi):One p A S M (ah_ a x.c)
abbrev kI_ (p:List Pc) (A:List Str) (S:Fc->Prop):Fc->Prop:=One p A S (λ_ _=>True)
theorem One.mono {p v:List Pc} {A E:List Str} {S m:Fc->Prop} {M C:Fc->Fc->Prop} (e:∀ x∈p,∃ y∈v,∃ n,{ y with frm:=n }=x) (k:∀ a∈A,a∈E) (hS:∀ y,S y->m y) (B:∀ x y,M x y->C x y) {y:Fc} (h:One p A S M y):One v E m C y:=by
  cases h with
  | r1 h=>exact .r1 (k _ h)
  | r2 h=>exact .r2 (k _ h)
  | r10 hx hk h=>obtain⟨z,d,n,rfl⟩:=e _ hx;exact One.r10 (x:=z) d hk (k _ h)
  | r3 hx hk h=>obtain⟨z,d,n,rfl⟩:=e _ hx;exact One.r3 (x:=z) d hk (hS _ h)
  | r4 hx hk h h'=>obtain⟨z,d,n,rfl⟩:=e _ hx;exact One.r4 (x:=z) d hk (hS _ h) (hS _ h')
  | r5 hx hk h=>obtain⟨z,d,n,rfl⟩:=e _ hx;exact One.r5 (x:=z) d hk (hS _ h)
  | r6 hx hk h=>obtain⟨z,d,n,rfl⟩:=e _ hx;exact One.r6 (x:=z) d hk (hS _ h)
  | r7 hx hk h h'=>obtain⟨z,d,n,rfl⟩:=e _ hx;exact One.r7 (x:=z) d hk (hS _ h) (hS _ h')
  | r8 hx hk h h'=>obtain⟨z,d,n,rfl⟩:=e _ hx;exact One.r8 (x:=z) d hk (hS _ h) (hS _ h')
  | r9 h h'=>exact .r9 (hS _ h) (hS _ h')
  | r11 hx hk h=>obtain⟨z,d,n,rfl⟩:=e _ hx;exact One.r11 (x:=z) d hk (hS _ h)
  | r12 h h' hm hl=>exact .r12 (hS _ h) (hS _ h') (B _ _ hm) hl
  | r13 h h' hm hl=>exact .r13 (hS _ h) (hS _ h') (B _ _ hm) hl
  | r14 hx hk h h1 h2=>obtain⟨z,d,n,rfl⟩:=e _ hx;exact One.r14 (x:=z) d hk (hS _ h) h1 h2
def Der (p:List Pc) (A:List Str) (y:Fc):Prop:=∀ T:Fc->Prop,(∀ y,kI_ p A T y->T y)->T y
theorem Der.step {p:List Pc} {A:List Str} {y:Fc} (h:kI_ p A (Der p A) y):Der p A y :=
  λT d=>d y (h.mono (λx e=>⟨x,e,x.frm,rfl⟩) (λ_ h=>h) (λz k=>k T d) (λ_ _ h=>h))
theorem Der.mono {p d:List Pc} {A e:List Str} (k:∀ x∈p,∃ y∈d,∃ n,{ y with frm:=n }=x) (m:∀ a∈A,a∈e) {y:Fc} (h:Der p A y):Der d e y :=
  h _ λ_ v=>Der.step (v.mono k m (λ_ h=>h) (λ_ _ h=>h))
theorem Der.least {p:List Pc} {A:List Str} {T:Fc->Prop} (d:∀ y,kI_ p A T y->T y) {y:Fc} (h:Der p A y):T y:=h T d
structure Ky where
  kind:Int
  role:Str
  atom:Str
deriving DecidableEq
abbrev kH_:=Str×Str
def lat {K D:Type} [DecidableEq K] (l:List (K×D)) (k:K):List D:=(l.filter λe=>decide (e.1=k)).map (·.2)
theorem cy_ {K D:Type} [DecidableEq K] {l:List (K×D)} {k:K} {d:D}:d∈lat l k↔(k,d)∈l:=by
  unfold lat;simp only[yan_,yaQ_,ybv_]
  grind
theorem vo_ {K D:Type} [DecidableEq K] (l m:List (K×D)) (k:K):lat (l++m) k=lat l k++lat m k:=by simp[lat]
theorem dv_ {K D:Type} [DecidableEq K] (l:List (K×D)) (k:K):(lat l k).length<=l.length:=by
  grind[lat]
def eh_ (x:Pc):List (Ky×Pc) :=
  if x.kind=1\/x.kind=3\/x.kind=8 then [(⟨x.kind,[],x.a⟩,x)]
  else if x.kind=2 then if x.b≠x.a then [(⟨x.kind,[],x.a⟩,x),(⟨x.kind,[],x.b⟩,x)] else [(⟨x.kind,[],x.a⟩,x)]
  else if x.kind=4 then [(⟨x.kind,[],x.a⟩,x),(⟨x.kind,x.r,x.a⟩,x)]
  else if x.kind=5\/x.kind=9 then [(⟨x.kind,x.r,[]⟩,x)]
  else if x.kind=6 then [(⟨x.kind,x.r,[]⟩,x),(⟨x.kind,[],x.s⟩,x)]
  else []
def Pc.zf (x:Pc):Pc:={ x with frm:=0 }
def uniq:List Pc->List Pc->List Pc
  | l,[]=>l
  | l,x::r=>uniq (if x.zf∈l then l else l++[x.zf]) r
theorem kO_:∀ (r l:List Pc) (x:Pc),x∈uniq l r↔x∈l\/∃ y∈r,y.zf=x
  | [],l,x=>by simp[uniq]
  | y::r,l,x=>by
    rw[uniq,kO_ r]
    grind
theorem kP_:∀ (r l:List Pc),(uniq l r).length<=l.length+r.length
  | [],l=>by simp[uniq]
  | y::r,l=>by
    rw[uniq];have:=kP_ r (if y.zf∈l then l else l++[y.zf])
    grind
def be_ (ps:List Pc):List (Ky×Pc):=ps.flatMap eh_
def aS_ (ps:List Pc):List Str:=(ps.filter λx=>decide (x.kind=7)).map (·.r)
theorem zQ_ (x:Pc):∀ e∈eh_ x,e.2=x/\e.1.kind=x.kind:=by
  grind[eh_]
theorem zO_ {x y:Pc} {k:Ky} (h:(k,y)∈eh_ x):y=x/\k.kind=x.kind:=zQ_ x _ h
def Pc.rok (x:Pc):Prop:=(x.kind=4\/x.kind=5\/x.kind=6\/x.kind=9\/x.kind=3\/x.kind=7\/x.kind=8->x.r≠[])/\(x.kind=6->x.s≠[]/\x.t≠[])/\(x.kind=5->x.t≠[])
theorem hu_ {ps:List Pc} {k:Ky} {x:Pc}:x∈lat (be_ ps) k↔x∈ps/\(k,x)∈eh_ x:=by
 rw[cy_,be_,yaB_];constructor
 .rintro ⟨y,d,h⟩
  obtain⟨rfl,_⟩:=zO_ h
  grind
 grind
theorem pm1 {ps:List Pc} {b:Str} {x:Pc}:x∈lat (be_ ps) ⟨1,[],b⟩↔x∈ps/\x.kind=1/\x.a=b:=by
  grind[hu_,eh_]
theorem pm2 {ps:List Pc} {b:Str} {x:Pc}:x∈lat (be_ ps) ⟨2,[],b⟩↔x∈ps/\x.kind=2/\(x.a=b\/x.b=b):=by
  grind[hu_,eh_]
theorem pm3 {ps:List Pc} {b:Str} {x:Pc}:x∈lat (be_ ps) ⟨3,[],b⟩↔x∈ps/\x.kind=3/\x.a=b:=by
  grind[hu_,eh_]
theorem pm8 {ps:List Pc} {b:Str} {x:Pc}:x∈lat (be_ ps) ⟨8,[],b⟩↔x∈ps/\x.kind=8/\x.a=b:=by
  grind[hu_,eh_]
theorem pm5 {ps:List Pc} {r:Str} {x:Pc}:x∈lat (be_ ps) ⟨5,r,[]⟩↔x∈ps/\x.kind=5/\x.r=r:=by
  grind[hu_,eh_]
theorem pm9 {ps:List Pc} {r:Str} {x:Pc}:x∈lat (be_ ps) ⟨9,r,[]⟩↔x∈ps/\x.kind=9/\x.r=r:=by
  grind[hu_,eh_]
theorem pm6 {ps:List Pc} {r:Str} (d:r≠[]) {x:Pc}:x∈lat (be_ ps) ⟨6,r,[]⟩↔x∈ps/\x.kind=6/\x.r=r:=by
  grind[hu_,eh_]
theorem pm6' {ps:List Pc} {s:Str} {x:Pc} (d:s≠[]):x∈lat (be_ ps) ⟨6,[],s⟩↔x∈ps/\x.kind=6/\x.s=s:=by
  grind[hu_,eh_]
theorem pm4 {ps:List Pc} (d:∀ x∈ps,x.rok) {b:Str} {x:Pc}:x∈lat (be_ ps) ⟨4,[],b⟩↔x∈ps/\x.kind=4/\x.a=b:=by
  grind[hu_,eh_]
theorem pm4' {ps:List Pc} {r b:Str} (d:r≠[]) {x:Pc}:x∈lat (be_ ps) ⟨4,r,b⟩↔x∈ps/\x.kind=4/\x.r=r/\x.a=b:=by
  grind[hu_,eh_]
structure Ix where
  above:List (Str×Str)
  under:List (Str×Str)
  frm:List (kH_×Str)
  into:List (kH_×Str)
  ranges:List (kH_×Fc)
  firms:List (kH_×Fc)
def Ix.nil:Ix:=⟨[],[],[],[],[],[]⟩
def Ix.add (x:Ix) (firm:Bool) (f:Fc):Ix :=
  if f.kind=1 then { x with above:=x.above++[(f.a,f.b)] }
  else if f.kind=2 then { x with under:=x.under++[(f.b,f.a)],frm:=x.frm++[((f.a,f.r),f.b)],into:=x.into++[((f.b,f.r),f.a)] }
  else if f.kind=3 then { x with ranges:=x.ranges++[((f.a,f.r),f)],firms:=if firm then x.firms++[((f.a,f.r),f)] else x.firms }
  else x
structure Ix.of (x:Ix) (S Fm:Fc->Prop):Prop where
  above:∀ a b,(a,b)∈x.above↔∃ f,S f/\f.kind=1/\f.a=a/\f.b=b
  under:∀ b a,(b,a)∈x.under↔∃ f,S f/\f.kind=2/\f.a=a/\f.b=b
  frm:∀ a r b,((a,r),b)∈x.frm↔∃ f,S f/\f.kind=2/\f.a=a/\f.r=r/\f.b=b
  into:∀ a r b,((b,r),a)∈x.into↔∃ f,S f/\f.kind=2/\f.a=a/\f.r=r/\f.b=b
  ranges:∀ a r f,((a,r),f)∈x.ranges↔S f/\f.kind=3/\f.a=a/\f.r=r
  firms:∀ a r f,((a,r),f)∈x.firms↔S f/\Fm f/\f.kind=3/\f.a=a/\f.r=r
theorem Ix.of_nil (Fm:Fc->Prop):Ix.nil.of (λ_=>False) Fm:=by
  constructor<;>simp[Ix.nil]
theorem Ix.of_add {x:Ix} {S Fm:Fc->Prop} (h:x.of S Fm) (f:Fc) {b:Bool} (v:b=true↔Fm f):(x.add b f).of (λy=>S y\/y=f) Fm:=by
 have d:∀ (Q:Fc->Prop),(∃ y,(S y\/y=f)/\Q y)↔(∃ y,S y/\Q y)\/Q f:=λQ=>by
   grind
 unfold Ix.add
 split
 .rename_i hk
  constructor
  all_goals grind[of.above,of.under,of.frm,of.into,of.ranges,of.firms]
 split
 .rename_i hk
  constructor
  all_goals grind[of.above,of.under,of.frm,of.into,of.ranges,of.firms]
 split
 .rename_i hk
  constructor
  all_goals grind[of.above,of.under,of.frm,of.into,of.ranges,of.firms]
 rename_i k e m
 constructor
 all_goals grind[of.above,of.under,of.frm,of.into,of.ranges,of.firms]
theorem Ix.of_firm {x:Ix} {S Fm d:Fc->Prop} (h:x.of S Fm) (e:∀ y,S y->(Fm y↔d y)):x.of S d :=
  ⟨h.above,h.under,h.frm,h.into,h.ranges,λa r f=>by grind[of.firms]⟩
section
variable (pm:List (Ky×Pc)) (x:Ix) (f:Fc)
def hS_:List Fc:=(lat pm ⟨1,[],f.b⟩).map λy=>ah_ f.a y.c
def qr_:List Fc:=(lat pm ⟨3,[],f.b⟩).map λy=>az_ f.a y.r y.c
def hP_:List Fc:=(lat pm ⟨5,f.r,[]⟩).map λy=>az_ f.a y.t f.b
def gp_:List Fc:=(lat pm ⟨6,f.r,[]⟩).flatMap λy=>(lat x.frm (f.b,y.s)).map λc=>az_ f.a y.t c
def it_:List Fc:=(lat pm ⟨6,[],f.r⟩).flatMap λy=>(lat x.into (f.a,y.r)).map λa=>az_ a y.t f.b
def gy_:List Fc:=(lat x.above f.b).flatMap λc=>(lat pm ⟨4,f.r,c⟩).map λy=>ah_ f.a y.c
def gz_:List Fc:=(lat pm ⟨4,[],f.b⟩).flatMap λy=>(lat x.into (f.a,y.r)).map λa=>ah_ a y.c
def dE_:List Fc:=if f.b=[33] then (lat x.under f.a).map λa=>ah_ a [33] else []
def xW_:List Fc:=((lat pm ⟨9,f.r,[]⟩).filter λy=>decide (y.lo<=f.lo/\f.hi<=y.hi)).map λy=>ah_ f.a y.c
def fl_ (y:Fc):Fc:=am_ f.a f.r (max f.lo y.lo) (min f.hi y.hi)
def fj_ (y:Fc):Bool:=decide (min f.hi y.hi<max f.lo y.lo)
def eU_ (firm:Bool):List Fc:=if firm then lat x.ranges (f.a,f.r) else lat x.firms (f.a,f.r)
def hn_ (l:List Fc):List Fc:=(l.filter λy=>!fj_ f y&&decide (fl_ f y≠f/\fl_ f y≠y)).map (fl_ f)
def iw_ (l:List Fc):List Fc:=if l.any (fj_ f) then [ah_ f.a [33]] else []
end
section
variable (stp:Fc->List Fc->List Fc) (kof:List Fc->List Fc)
def emits (L:List Fc) (s:List Fc):List Fc:=L.foldl (λs y=>stp y s) s
def fi_ (f:Fc) (l:List Pc) (s:List Fc):List Fc:=l.foldl (λs y=>if ah_ f.a y.a∈kof s/\ah_ f.a y.b∈kof s then stp (ah_ f.a y.c) s else s) s
def ct_ (f:Fc) (l:List Pc) (s:List Fc×List Fc):List Fc×List Fc:=l.foldl (λs y=>(stp (am_ f.a y.r y.lo y.hi) s.1,if am_ f.a y.r y.lo y.hi∈kof s.1 then s.2 else am_ f.a y.r y.lo y.hi::s.2)) s
end
theorem aY_ (stp:Fc->List Fc->List Fc) (L M:List Fc) (s:List Fc):emits stp (L++M) s=emits stp M (emits stp L s):=by simp[emits]
structure Grows (stp:Fc->List Fc->List Fc) (kof:List Fc->List Fc):Prop where
  up:∀ y s z,z∈kof s->z∈kof (stp y s)
theorem Grows.emits {stp:Fc->List Fc->List Fc} {kof:List Fc->List Fc} (h:Grows stp kof):∀ (L s:List Fc) (z:Fc),z∈kof s->z∈kof (emits stp L s)
  | [],_,_,hz=>hz
  | y::L,s,z,hz=>h.emits L _ z (h.up y s z hz)
theorem fV_ {stp:Fc->List Fc->List Fc} {kof:List Fc->List Fc} (h:Grows stp kof) (f:Fc):∀ (l:List Pc) (s:List Fc),
    ∃ L,fi_ stp kof f l s=emits stp L s/\(∀ y∈L,∃ x∈l,y=ah_ f.a x.c/\ah_ f.a x.a∈kof (fi_ stp kof f l s)/\ah_ f.a x.b∈kof (fi_ stp kof f l s))/\(∀ x∈l,ah_ f.a x.a∈kof s->ah_ f.a x.b∈kof s->ah_ f.a x.c∈L)
  | [],s=>⟨[],rfl,by simp,by simp⟩
  | x::l,s=>by
    by_cases F:ah_ f.a x.a∈kof s/\ah_ f.a x.b∈kof s
    . obtain⟨L,d,B,v⟩:=fV_ h f l (stp (ah_ f.a x.c) s)
      have e:fi_ stp kof f (x::l) s=fi_ stp kof f l (stp (ah_ f.a x.c) s):=by grind[fi_]
      refine⟨ah_ f.a x.c::L,by rw[e,d];rfl,λy m=>?_,λz k E C=>?_⟩
      . rw[e]
        rcases yal_.1 m with rfl|m
        . refine⟨x,by simp,rfl,?_,?_⟩<;>rw[d]<;>exact h.emits L _ _ (h.up _ _ _ zak_)
        grind
      . rcases yal_.1 k with rfl|k
        . simp
        . exact yaK_ _ (v z k (h.up _ _ _ E) (h.up _ _ _ C))
    . obtain⟨L,d,B,v⟩:=fV_ h f l s
      grind[fi_]
theorem fw_ (stp:Fc->List Fc->List Fc) (kof:List Fc->List Fc) (f:Fc):∀ (l:List Pc) (s fm:List Fc),(ct_ stp kof f l (s,fm)).1=emits stp (l.map λy=>am_ f.a y.r y.lo y.hi) s
  | [],_,_=>rfl
  | x::l,s,fm=>by
    simp only[ct_,ycV_,yar_,emits];exact fw_ stp kof f l _ _
theorem ib_ {stp:Fc->List Fc->List Fc} {kof:List Fc->List Fc} (h:Grows stp kof) (f:Fc):∀ (l:List Pc) (s fm:List Fc) (z:Fc),z∈(ct_ stp kof f l (s,fm)).2↔z∈fm\/(z ∉ kof s/\z∈(ct_ stp kof f l (s,fm)).2)
 | [],s,fm,z=>by grind[ct_]
 | x::l,s,fm,z=>by
   have m:=ib_ h f l (stp (am_ f.a x.r x.lo x.hi) s) (if am_ f.a x.r x.lo x.hi∈kof s then fm else am_ f.a x.r x.lo x.hi::fm) z;have e:ct_ stp kof f (x::l) (s,fm)=ct_ stp kof f l (stp (am_ f.a x.r x.lo x.hi) s,if am_ f.a x.r x.lo x.hi∈kof s then fm else am_ f.a x.r x.lo x.hi::fm):=rfl;rw[e];constructor
   . intro k
     rcases m.1 k with d|d
     . grind
     . exact .inr ⟨λq=>d.1 (h.up _ _ _ q),k⟩
   grind
theorem oq_ {stp:Fc->List Fc->List Fc} {kof:List Fc->List Fc} (f:Fc):∀ (l:List Pc) (s fm:List Fc) (z:Fc),z∈(ct_ stp kof f l (s,fm)).2->z∈fm\/∃ y∈l,z=am_ f.a y.r y.lo y.hi
  | [],s,fm,z,hz=>.inl hz
  | x::l,s,fm,z,hz=>by
    have e:ct_ stp kof f (x::l) (s,fm)=ct_ stp kof f l (stp (am_ f.a x.r x.lo x.hi) s,if am_ f.a x.r x.lo x.hi∈kof s then fm else am_ f.a x.r x.lo x.hi::fm):=rfl;rw[e]at hz;rcases oq_ f l _ _ z hz with d|⟨y,h,d⟩
    all_goals grind
def Fc.form (y:Fc):Prop:=(∃ a b,y=ah_ a b)\/(∃ a r b,y=az_ a r b/\r≠[])\/(∃ a r lo hi,y=am_ a r lo hi/\r≠[]/\-1099511627776<=lo/\lo<=hi/\hi<=1099511627776)
structure Pc.vok (x:Pc):Prop where
  rok:x.rok
  num:x.kind=8\/x.kind=9->-1099511627776<=x.lo/\x.lo<=x.hi/\x.hi<=1099511627776
theorem eW_ (a b:Str):(ah_ a b).form:=.inl ⟨a,b,rfl⟩
theorem qY_ {f:Fc} (h:f.form) (hk:f.kind=1):f=ah_ f.a f.b:=by
 rcases h with⟨a,b,rfl⟩|⟨a,r,b,rfl,_⟩|⟨a,r,lo,hi,rfl,_⟩
 .rfl
 all_goals grind[az_,am_]
theorem tZ_ {f:Fc} (h:f.form) (hk:f.kind=2):f=az_ f.a f.r f.b/\f.r≠[]:=by
 rcases h with⟨a,b,rfl⟩|⟨a,r,b,rfl,h⟩|⟨a,r,lo,hi,rfl,_⟩
 .grind[ah_]
 .exact⟨rfl,h⟩
 grind[am_]
theorem kd_ {f:Fc} (h:f.form) (hk:f.kind=3):f=am_ f.a f.r f.lo f.hi/\f.r≠[]/\-1099511627776<=f.lo/\f.lo<=f.hi/\f.hi<=1099511627776:=by
 rcases h with⟨a,b,rfl⟩|⟨a,r,b,rfl,_⟩|⟨a,r,lo,hi,rfl,h⟩
 .grind[ah_]
 .grind[az_]
 exact⟨rfl,h⟩
theorem lY_ {f:Fc} (h:f.form):f.kind=1\/f.kind=2\/f.kind=3:=by
  rcases h with⟨a,b,rfl⟩|⟨a,r,b,rfl,h⟩|⟨a,r,lo,hi,rfl,_⟩<;>simp[ah_,az_,am_]
theorem One.form {p:List Pc} {A:List Str} {S:Fc->Prop} {M:Fc->Fc->Prop} (e:∀ x∈p,x.vok) (hS:∀ y,S y->y.form) {y:Fc} (h:One p A S M y):y.form:=by
  have d:∀ {a r:Str} {lo hi:Int},S (am_ a r lo hi)->r≠[]/\-1099511627776<=lo/\lo<=hi/\hi<=1099511627776:=λh=>(kd_ (hS _ h) rfl).2
  cases h with
  | r1 _=>grind[eW_]
  | r2 _=>grind[eW_]
  | r10 hx hk _=>exact .inr (.inl ⟨_,_,_,rfl,(e _ hx).rok.1 (by simp[hk])⟩)
  | r3 _ _ _=>grind[eW_]
  | r4 _ _ _ _=>grind[eW_]
  | r5 hx hk _=>exact .inr (.inl ⟨_,_,_,rfl,(e _ hx).rok.1 (by simp[hk])⟩)
  | r6 hx hk _=>exact .inr (.inl ⟨_,_,_,rfl,(e _ hx).rok.2.2 hk⟩)
  | r7 hx hk _ _=>exact .inr (.inl ⟨_,_,_,rfl,((e _ hx).rok.2.1 hk).2⟩)
  | r8 _ _ _ _=>grind[eW_]
  | r9 _ _=>grind[eW_]
  | r11 hx hk _=>exact .inr (.inr ⟨_,_,_,_,rfl,(e _ hx).rok.1 (by simp[hk]),(e _ hx).num (.inl hk)⟩)
  | r12 h h' _ hl=>exact .inr (.inr ⟨_,_,_,_,rfl,(d h).1,by grind,hl,by grind⟩)
  | r13 _ _ _ _=>grind[eW_]
  | r14 _ _ _ _ _=>grind[eW_]
section
variable {ps:List Pc} {A:List Str} {x:Ix} {S Fm:Fc->Prop} {f:Fc} {kn:List Fc}
theorem qc_ (hk:f.kind=1) (v:f.form) (d:f∈kn):∀ y∈hS_ (be_ ps) f,kI_ ps A (·∈kn) y:=by
  intro y h;obtain⟨z,m,rfl⟩:=yan_.1 h;obtain⟨k,e,B⟩:=pm1.1 m;exact .r3 k e (by grind[qY_])
theorem uN_ (hk:f.kind=1) (v:f.form) (d:f∈kn):∀ y∈qr_ (be_ ps) f,kI_ ps A (·∈kn) y:=by
  intro y h;obtain⟨z,m,rfl⟩:=yan_.1 h;obtain⟨k,e,B⟩:=pm3.1 m;exact .r5 k e (by grind[qY_])
theorem sC_ (hk:f.kind=1) (v:f.form) (d:f∈kn):∀ y∈(lat (be_ ps) ⟨8,[],f.b⟩).map (λy=>am_ f.a y.r y.lo y.hi),kI_ ps A (·∈kn) y:=by
  intro y h;obtain⟨z,m,rfl⟩:=yan_.1 h;obtain⟨k,e,B⟩:=pm8.1 m;exact .r11 k e (by grind[qY_])
theorem qa_ (hk:f.kind=2) (v:f.form) (d:f∈kn):∀ y∈hP_ (be_ ps) f,kI_ ps A (·∈kn) y:=by
  intro y h;obtain⟨z,m,rfl⟩:=yan_.1 h;obtain⟨k,e,B⟩:=pm5.1 m;exact .r6 k e (by grind[tZ_])
theorem nO_ {hS:∀ y,S y->y.form} {a r b:Str} (h:∃ g,S g/\g.kind=2/\g.a=a/\g.r=r/\g.b=b):S (az_ a r b):=by
  grind[tZ_]
theorem ix_sub {hS:∀ y,S y->y.form} {a b:Str} (h:∃ g,S g/\g.kind=1/\g.a=a/\g.b=b):S (ah_ a b):=by
  grind[qY_]
theorem up_ (C:x.of S Fm) (hS:∀ y,S y->y.form) (h:∀ y,S y->y∈kn) (hk:f.kind=2) (G:f.form) (F:f∈kn):∀ y∈gp_ (be_ ps) x f++it_ (be_ ps) x f,kI_ ps A (·∈kn) y:=by
 intro y d;obtain⟨e,E⟩:=tZ_ G hk;rcases yai_.1 d with d|d
 .obtain⟨z,B,d⟩:=yaB_.1 d
  obtain⟨c,v,rfl⟩:=yan_.1 d;obtain⟨m,k,H⟩:=(pm6 E).1 B;exact .r7 m k zak_ (h _ (nO_ (hS:=hS) ((C.frm _ _ _).1 (cy_.1 v))))
 obtain⟨z,B,d⟩:=yaB_.1 d;obtain⟨c,v,rfl⟩:=yan_.1 d;obtain⟨m,k,H⟩:=(pm6' E).1 B;exact .r7 m k (h _ (nO_ (hS:=hS) ((C.into _ _ _).1 (cy_.1 v)))) zak_
theorem pw_ (B:x.of S Fm) (hS:∀ y,S y->y.form) (d:∀ y,S y->y∈kn) (hk:f.kind=2) (m:f.form) (k:f∈kn):∀ y∈gy_ (be_ ps) x f,kI_ ps A (·∈kn) y:=by
  intro y h;obtain⟨e,C⟩:=tZ_ m hk;obtain⟨c,G,h⟩:=yaB_.1 h;obtain⟨z,H,rfl⟩:=yan_.1 h;obtain⟨F,v,I,E⟩:=(pm4' C).1 H;exact .r8 (b:=f.b) F v zak_ (by rw[E];exact d _ (ix_sub (hS:=hS) ((B.above _ _).1 (cy_.1 G))))
theorem px_ (v:∀ x∈ps,x.vok) (h:x.of S Fm) (hS:∀ y,S y->y.form) (d:∀ y,S y->y∈kn) (hk:f.kind=1) (F:f.form) (k:f∈kn):∀ y∈gz_ (be_ ps) x f,kI_ ps A (·∈kn) y:=by
  intro y e;obtain⟨z,E,e⟩:=yaB_.1 e;obtain⟨c,C,rfl⟩:=yan_.1 e;obtain⟨B,m,G⟩:=(pm4 (λx h=>(v x h).rok)).1 E;exact .r8 (b:=f.a) B m (d _ (nO_ (hS:=hS) ((h.into _ _ _).1 (cy_.1 C)))) (by grind[qY_])
theorem nA_ (v:x.of S Fm) (hS:∀ y,S y->y.form) (d:∀ y,S y->y∈kn) (hk:f.kind=1) (F:f.form) (h:f∈kn):∀ y∈dE_ x f,kI_ ps A (·∈kn) y:=by
 intro y e;unfold dE_ at e
 split at e
 .rename_i G
  obtain⟨a,B,rfl⟩:=yan_.1 e;obtain⟨g,E,k,m,C⟩:=(v.under _ _).1 (cy_.1 B);exact .r9 (r:=g.r) (d _ (nO_ (hS:=hS) ⟨g,E,k,m,rfl,C⟩)) (by grind[qY_])
 grind
theorem nz_ (hk:f.kind=2) (e:f.form) (d:f∈kn) (h:ah_ f.b [33]∈kn):kI_ ps A (·∈kn) (ah_ f.a [33]) :=
  .r9 (r:=f.r) (b:=f.b) (by grind[tZ_]) h
theorem xV_ (hk:f.kind=3) (B:f.form) (h:f∈kn):∀ y∈xW_ (be_ ps) f,kI_ ps A (·∈kn) y:=by
  intro y m;obtain⟨z,e,rfl⟩:=yan_.1 m;obtain⟨e,d⟩:=yaQ_.1 e;obtain⟨v,k,C⟩:=pm9.1 e;have d:=yaY_ d;exact .r14 v k (by grind[kd_]) d.1 d.2
theorem lT_ (e:x.of S Fm) {firm:Bool} {y:Fc} (d:y∈eU_ x f firm):S y/\y.kind=3/\y.a=f.a/\y.r=f.r:=by
 unfold eU_ at d
 split at d
 .exact (e.ranges _ _ _).1 (cy_.1 d)
 have:=(e.firms _ _ _).1 (cy_.1 d)
 grind
theorem vk_ (G:x.of S Fm) (hS:∀ y,S y->y.form) (I:∀ y,S y->y∈kn) (hk:f.kind=3) (H:f.form) (m:f∈kn) {firm:Bool}:∀ y∈hn_ f (eU_ x f firm)++iw_ f (eU_ x f firm),kI_ ps A (·∈kn) y:=by
 intro y d;have e:=(kd_ H hk).1;rcases yai_.1 d with d|d
 .obtain⟨z,h,rfl⟩:=yan_.1 d
  obtain⟨h,F⟩:=yaQ_.1 h;obtain⟨E,v,B,C⟩:=lT_ G h;simp only[fj_,yaL_,yci_,ybO_,Int.not_lt]at F;have k:=(kd_ (hS z E) v).1;rw[B,C]at k;exact .r12 zak_ zak_ trivial F.1
 unfold iw_ at d
 split at d
 .rename_i J
  obtain⟨z,h,F⟩:=yco_.1 J;obtain⟨E,v,B,C⟩:=lT_ G h;have k:=(kd_ (hS z E) v).1;rw[B,C]at k;simp only[yam_]at d;subst d;exact .r13 (r:=f.r) (by rw[<-e];exact m) (by rw[<-k];grind) trivial (by grind[fj_])
 grind
theorem ul_ {z:Pc} {a:Str} (d:z∈ps) (hk:z.kind=1):ah_ a z.c∈hS_ (be_ ps) (ah_ a z.a) :=
  yan_.2 ⟨z,pm1.2 ⟨d,hk,rfl⟩,rfl⟩
theorem zD_ {z:Pc} {a:Str} (d:z∈ps) (hk:z.kind=3):az_ a z.r z.c∈qr_ (be_ ps) (ah_ a z.a) :=
  yan_.2 ⟨z,pm3.2 ⟨d,hk,rfl⟩,rfl⟩
theorem xl_ {z:Pc} {a:Str} (d:z∈ps) (hk:z.kind=8):am_ a z.r z.lo z.hi∈(lat (be_ ps) ⟨8,[],(ah_ a z.a).b⟩).map (λy=>am_ (ah_ a z.a).a y.r y.lo y.hi) :=
  yan_.2 ⟨z,pm8.2 ⟨d,hk,rfl⟩,rfl⟩
theorem tT_ {z:Pc} {a b:Str} (d:z∈ps) (hk:z.kind=5):az_ a z.t b∈hP_ (be_ ps) (az_ a z.r b) :=
  yan_.2 ⟨z,pm5.2 ⟨d,hk,rfl⟩,rfl⟩
theorem vN_ (k:x.of S Fm) (e:∀ x∈ps,x.vok) {z:Pc} {a b c:Str} (d:z∈ps) (hk:z.kind=6) (h:S (az_ b z.s c)):az_ a z.t c∈gp_ (be_ ps) x (az_ a z.r b) :=
  yaB_.2 ⟨z,(pm6 ((e z d).rok.1 (by simp[hk]))).2 ⟨d,hk,rfl⟩,yan_.2 ⟨c,cy_.2 ((k.frm _ _ _).2 ⟨_,h,rfl,rfl,rfl,rfl⟩),rfl⟩⟩
theorem vM_ (k:x.of S Fm) (e:∀ x∈ps,x.vok) {z:Pc} {a b c:Str} (d:z∈ps) (hk:z.kind=6) (h:S (az_ a z.r b)):az_ a z.t c∈it_ (be_ ps) x (az_ b z.s c) :=
  yaB_.2 ⟨z,(pm6' ((e z d).rok.2.1 hk).1).2 ⟨d,hk,rfl⟩,yan_.2 ⟨a,cy_.2 ((k.into _ _ _).2 ⟨_,h,rfl,rfl,rfl,rfl⟩),rfl⟩⟩
theorem sb_ (k:x.of S Fm) (e:∀ x∈ps,x.vok) {z:Pc} {a b:Str} (d:z∈ps) (hk:z.kind=4) (h:S (ah_ b z.a)):ah_ a z.c∈gy_ (be_ ps) x (az_ a z.r b) :=
  yaB_.2 ⟨z.a,cy_.2 ((k.above _ _).2 ⟨_,h,rfl,rfl,rfl⟩),yan_.2 ⟨z,(pm4' ((e z d).rok.1 (by simp[hk]))).2 ⟨d,hk,rfl,rfl⟩,rfl⟩⟩
theorem sc_ (d:x.of S Fm) (e:∀ x∈ps,x.vok) {z:Pc} {a b:Str} (k:z∈ps) (hk:z.kind=4) (h:S (az_ a z.r b)):ah_ a z.c∈gz_ (be_ ps) x (ah_ b z.a) :=
  yaB_.2 ⟨z,(pm4 (λx d=>(e x d).rok)).2 ⟨k,hk,rfl⟩,yan_.2 ⟨a,cy_.2 ((d.into _ _ _).2 ⟨_,h,rfl,rfl,rfl,rfl⟩),rfl⟩⟩
theorem qb_ (d:x.of S Fm) {a r b:Str} (h:S (az_ a r b)):ah_ a [33]∈dE_ x (ah_ b [33]):=by
  unfold dE_;rw[yaq_ (show (ah_ b [33]).b=[33] from rfl)];exact yan_.2 ⟨a,cy_.2 ((d.under _ _).2 ⟨_,h,rfl,rfl,rfl⟩),rfl⟩
theorem Cs_ {z:Pc} {a:Str} {lo hi:Int} (h:z∈ps) (hk:z.kind=9) (e:z.lo<=lo) (d:hi<=z.hi):ah_ a z.c∈xW_ (be_ ps) (am_ a z.r lo hi) :=
  yan_.2 ⟨z,yaQ_.2 ⟨pm9.2 ⟨h,hk,rfl⟩,yaW_ ⟨e,d⟩⟩,rfl⟩
theorem qN_ (k:x.of S Fm) {firm:Bool} (m:firm=true↔Fm f) {y:Fc} (e:S y) (hk:y.kind=3) (d:y.a=f.a) (h:y.r=f.r) (hm:Fm f\/Fm y):y∈eU_ x f firm:=by
  unfold eU_;cases firm with
  | true=>rw[yaq_ rfl];exact cy_.2 ((k.ranges _ _ _).2 ⟨e,hk,d,h⟩)
  | false =>
    rw[yag_ zae_];refine cy_.2 ((k.firms _ _ _).2 ⟨e,hm.resolve_left (λq=>?_),hk,d,h⟩)
    grind
theorem tC_ {l:List Fc} {y:Fc} (d:y∈l) :
    (max f.lo y.lo<=min f.hi y.hi->fl_ f y∈hn_ f l\/fl_ f y=f\/fl_ f y=y)/\(min f.hi y.hi<max f.lo y.lo->ah_ f.a [33]∈iw_ f l):=by
  refine⟨λh=>?_,λh=>?_⟩
  . by_cases e:fl_ f y=f
    . grind
    . by_cases k:fl_ f y=y
      . grind
      . refine .inl (yan_.2 ⟨y,yaQ_.2 ⟨d,?_⟩,rfl⟩)
        grind[fj_]
  grind[iw_,fj_]
end
section
variable (stp:Fc->List Fc->List Fc) (kof:List Fc->List Fc) (pm:List (Ky×Pc)) (x:Ix) (f:Fc)
def rl (j:Nat) (s:List Fc×List Fc):List Fc×List Fc :=
  if f.kind=1 then
    (match j with
    | 0=>(emits stp (hS_ pm f) s.1,s.2)
    | 1=>(fi_ stp kof f (lat pm ⟨2,[],f.b⟩) s.1,s.2)
    | 2=>(emits stp (qr_ pm f) s.1,s.2)
    | 3=>(emits stp (gz_ pm x f) s.1,s.2)
    | 4=>(emits stp (dE_ x f) s.1,s.2)
    | _=>ct_ stp kof f (lat pm ⟨8,[],f.b⟩) s)
  else if f.kind=2 then
    (match j with
    | 0=>(emits stp (hP_ pm f) s.1,s.2)
    | 1=>(emits stp (gp_ pm x f++it_ pm x f) s.1,s.2)
    | 2=>(emits stp (gy_ pm x f) s.1,s.2)
    | _=>(if ah_ f.b [33]∈kof s.1 then stp (ah_ f.a [33]) s.1 else s.1,s.2))
  else
    (match j with
    | 0=>(emits stp (hn_ f (eU_ x f (decide (f∈s.2)))++iw_ f (eU_ x f (decide (f∈s.2)))) s.1,s.2)
    | _=>(emits stp (xW_ pm f) s.1,s.2))
def rls:Nat->List Fc×List Fc->List Fc×List Fc
  | 0,s=>s
  | j+1,s=>rl stp kof pm x f j (rls j s)
def nrl:Nat:=if f.kind=1 then 6 else if f.kind=2 then 4 else 2
end
structure Cmpl (ps:List Pc) (S Fm kn good:Fc->Prop) (f:Fc):Prop where
  c3:∀ z a,z∈ps->z.kind=1->f=ah_ a z.a->good (ah_ a z.c)
  c4:∀ z a,z∈ps->z.kind=2->f=ah_ a z.a->kn (ah_ a z.b)->good (ah_ a z.c)
  c4':∀ z a,z∈ps->z.kind=2->f=ah_ a z.b->kn (ah_ a z.a)->good (ah_ a z.c)
  c5:∀ z a,z∈ps->z.kind=3->f=ah_ a z.a->good (az_ a z.r z.c)
  c6:∀ z a b,z∈ps->z.kind=5->f=az_ a z.r b->good (az_ a z.t b)
  c7:∀ z a b c,z∈ps->z.kind=6->f=az_ a z.r b->S (az_ b z.s c)->good (az_ a z.t c)
  c7':∀ z a b c,z∈ps->z.kind=6->f=az_ b z.s c->S (az_ a z.r b)->good (az_ a z.t c)
  c8:∀ z a b,z∈ps->z.kind=4->f=az_ a z.r b->S (ah_ b z.a)->good (ah_ a z.c)
  c8':∀ z a b,z∈ps->z.kind=4->f=ah_ b z.a->S (az_ a z.r b)->good (ah_ a z.c)
  c9:∀ a r b,f=az_ a r b->kn (ah_ b [33])->good (ah_ a [33])
  c9':∀ a r b,f=ah_ b [33]->S (az_ a r b)->good (ah_ a [33])
  c11:∀ z a,z∈ps->z.kind=8->f=ah_ a z.a->good (am_ a z.r z.lo z.hi)
  c12:∀ y,f.kind=3->S y->y.kind=3->y.a=f.a->y.r=f.r->(Fm f\/Fm y)->max f.lo y.lo<=min f.hi y.hi->good (fl_ f y)
  c13:∀ y,f.kind=3->S y->y.kind=3->y.a=f.a->y.r=f.r->(Fm f\/Fm y)->min f.hi y.hi<max f.lo y.lo->good (ah_ f.a [33])
  c14:∀ z a lo hi,z∈ps->z.kind=9->f=am_ a z.r lo hi->z.lo<=lo->hi<=z.hi->good (ah_ a z.c)
section
variable {stp:Fc->List Fc->List Fc} {kof:List Fc->List Fc} {ps:List Pc} {A:List Str} {x:Ix} {S Fm:Fc->Prop} {f:Fc}
theorem ta_ (d:Grows stp kof) (j:Nat) (s:List Fc×List Fc):∃ L,(rl stp kof (be_ ps) x f j s).1=emits stp L s.1:=by
 unfold rl
 split
 .split
  .grind
  .obtain⟨L,h,_⟩:=fV_ d f (lat (be_ ps) ⟨2,[],f.b⟩) s.1
   grind
  .grind
  .grind
  .grind
  exact⟨_,fw_ stp kof f _ s.1 s.2⟩
 split
 .split
  .grind
  .grind
  .grind
  simp only
  split
  .exact⟨[ah_ f.a [33]],rfl⟩
  exact⟨[],rfl⟩
 split
 all_goals grind
theorem lK_ (d:Grows stp kof) (j:Nat) (s:List Fc×List Fc):∃ L,(rls stp kof (be_ ps) x f j s).1=emits stp L s.1:=by
  induction j with
  | zero=>exact⟨[],rfl⟩
  | succ j ih =>
    obtain⟨L,h⟩:=ih;obtain⟨M,e⟩:=ta_ (ps:=ps) (x:=x) (f:=f) d j (rls stp kof (be_ ps) x f j s);exact⟨L++M,by grind[rls,aY_]⟩
theorem oP_ (d:Grows stp kof) (j:Nat) (s:List Fc×List Fc) (z:Fc) (e:z∈kof s.1):z∈kof (rls stp kof (be_ ps) x f j s).1:=by
  obtain⟨L,h⟩:=lK_ (ps:=ps) (x:=x) (f:=f) d j s;rw[h];exact d.emits L _ z e
theorem sZ_ (j:Nat) (s:List Fc×List Fc) (h:f.kind=1->j<=5):(rls stp kof (be_ ps) x f j s).2=s.2:=by
  induction j<;>grind[rls,rl.eq_def]
theorem zI_ (I:Grows stp kof) (hr:∀ x∈ps,x.vok) (U:x.of S Fm) (s:List Fc×List Fc) (M:∀ y,S y->(Fm y↔y∈s.2)) (hf:S f) (W:∀ y,S y->y∈kof s.1) (good:Fc->Prop) (hS:∀ y,S y->good y)
    (H:∀ j,j<nrl f->∀ L,(rls stp kof (be_ ps) x f (j+1) s).1=emits stp L (rls stp kof (be_ ps) x f j s).1->∀ y∈L,good y) :
    Cmpl ps S Fm (·∈kof s.1) good f:=by
  have K:∀ k j,f.kind=k->j<nrl f->∀ L,(rl stp kof (be_ ps) x f j (rls stp kof (be_ ps) x f j s)).1=emits stp L (rls stp kof (be_ ps) x f j s).1->∀ y∈L,good y:=λk j _ V L Z=>H j V L (by grind[rls])
  have n1:f.kind=1->nrl f=6:=λh=>by grind[nrl]
  have n2:f.kind=2->nrl f=4:=λh=>by grind[nrl]
  have Y:f.kind=3->nrl f=2:=λh=>by grind[nrl]
  have k1:∀ {a b},f=ah_ a b->f.kind=1:=λe=>by rw[e];rfl
  have k2:∀ {a r b},f=az_ a r b->f.kind=2:=λe=>by rw[e];rfl
  have O:∀ {a r lo hi},f=am_ a r lo hi->f.kind=3:=λe=>by rw[e];rfl
  have v:∀ z a,z∈ps->z.kind=2->f.kind=1->f.a=a->(z.a=f.b\/z.b=f.b)->ah_ a z.a∈kof s.1->ah_ a z.b∈kof s.1->good (ah_ a z.c):=by
    intro z a m hk d G X Q N;subst G;obtain⟨L,J,e2,e3⟩:=fV_ I f (lat (be_ ps) ⟨2,[],f.b⟩) (rls stp kof (be_ ps) x f 1 s).1
    grind[rl.eq_def,pm2,oP_]
  have P:f.kind=3->(∀ y∈hn_ f (eU_ x f (decide (f∈s.2)))++iw_ f (eU_ x f (decide (f∈s.2))),good y):=λF =>
    K 3 0 F zak_ _ (by rw[rl.eq_def,yag_ zak_,yag_ zak_];rfl)
  have B:decide (f∈s.2)=true↔Fm f:=by grind
  refine⟨?_,?_,?_,?_,?_,?_,?_,?_,?_,?_,?_,?_,?_,?_,?_⟩
  . intro z a m hk e
    have d:=k1 e;exact K 1 0 d zak_ (hS_ (be_ ps) f) zaJ_ _ (by grind[ul_])
  . intro z a m hk e h
    have d:=k1 e;exact v z a m hk d (by rw[e];rfl) (by rw[e];exact .inl rfl) zak_ h
  . intro z a m hk e h
    have d:=k1 e;exact v z a m hk d (by rw[e];rfl) (by rw[e];exact .inr rfl) h zak_
  . intro z a m hk e
    have d:=k1 e;exact K 1 2 d zak_ (qr_ (be_ ps) f) zaJ_ _ (by grind[zD_])
  . intro z a b m hk e
    have d:=k2 e;exact K 2 0 d zak_ (hP_ (be_ ps) f) zaJ_ _ (by grind[tT_])
  . intro z a b c m hk e h
    have d:=k2 e;exact K 2 1 d zak_ (gp_ (be_ ps) x f++it_ (be_ ps) x f) zaJ_ _ (yax_ _ (by grind[vN_]))
  . intro z a b c m hk e h
    have d:=k2 e;exact K 2 1 d zak_ (gp_ (be_ ps) x f++it_ (be_ ps) x f) zaJ_ _ (yaF_ _ (by grind[vM_]))
  . intro z a b m hk e h
    have d:=k2 e;exact K 2 2 d zak_ (gy_ (be_ ps) x f) zaJ_ _ (by grind[sb_])
  . intro z a b m hk e h
    have d:=k1 e;exact K 1 3 d zak_ (gz_ (be_ ps) x f) zaJ_ _ (by grind[sc_])
  . intro a r b e h
    have d:=k2 e;have J:ah_ f.b [33]∈kof (rls stp kof (be_ ps) x f 3 s).1:=oP_ I 3 s _ (by rw[e];exact h);exact K 2 3 d zak_ [ah_ f.a [33]] (by rw[rl.eq_def,yag_ zak_,yaq_ d];simp only[yaq_ J];rfl) _ (by grind[az_])
  . intro a r b e h
    have d:=k1 e;exact K 1 4 d zak_ (dE_ x f) zaJ_ _ (by grind[qb_])
  . intro z a m hk e
    have d:=k1 e;exact K 1 5 d zak_ ((lat (be_ ps) ⟨8,[],f.b⟩).map λy=>am_ f.a y.r y.lo y.hi) (by grind[rl.eq_def,fw_]) _ (by grind[xl_])
  . grind[qN_,tC_]
  . intro y F T hk G E hm hl
    have C:=qN_ U B T hk G E hm;exact P F _ (yaF_ _ ((tC_ (f:=f) C).2 hl))
  . intro z a lo hi m hk e Q N
    have d:=O e;exact K 3 1 d zak_ (xW_ (be_ ps) f) zaJ_ _ (by grind[Cs_])
end
end Go.Vs
namespace Go.Vs
open Go Go.Sx
def bP_ (m:Nat) (y:Fc) (q:List Fc):List Fc:=if q.length<=m/\y ∉ q then q++[y] else q
abbrev idk:List Fc->List Fc:=λq=>q
theorem sQ_ (m:Nat) (y:Fc) (q:List Fc):∃ t,bP_ m y q=q++t:=by
 unfold bP_;split
 .grind
 exact⟨[],by simp⟩
theorem ls_ (m:Nat):∀ (L q:List Fc),∃ t,emits (bP_ m) L q=q++t
  | [],q=>⟨[],by simp[emits]⟩
  | y::L,q=>by
    obtain⟨t,h⟩:=sQ_ m y q;obtain⟨u,d⟩:=ls_ m L (bP_ m y q);exact⟨t++u,by rw[<-yap_,<-h,<-d];rfl⟩
theorem ge_ (m:Nat):Grows (bP_ m) idk:=⟨λy s z d=>by obtain⟨t,h⟩:=sQ_ m y s;grind⟩
theorem hq_ (m:Nat):∀ (L q:List Fc) (z:Fc),z∈emits (bP_ m) L q->z∈q\/z∈L
  | [],q,z,h=>.inl h
  | y::L,q,z,h=>by
    rcases hq_ m L (bP_ m y q) z h with h|h
    all_goals grind[bP_]
theorem jR_ (m:Nat):∀ (L q:List Fc),q.Nodup->(emits (bP_ m) L q).Nodup
  | [],q,h=>h
  | y::L,q,h=>by
    refine jR_ m L (bP_ m y q) ?_
    grind[bP_]
theorem se_ (m:Nat):∀ (L q:List Fc),q.length<=m+1->(emits (bP_ m) L q).length<=m+1
  | [],q,h=>h
  | y::L,q,h=>by
    refine se_ m L (bP_ m y q) ?_
    grind[bP_]
theorem nR_ (m:Nat):∀ (L q:List Fc),(emits (bP_ m) L q).length<=m->∀ y∈L,y∈emits (bP_ m) L q
 | [],q,_,y,d=>by simp at d
 | x::L,q,h,y,d=>by
   have e:emits (bP_ m) (x::L) q=emits (bP_ m) L (bP_ m x q):=rfl;rw[e]at h ⊢;rcases yal_.1 d with rfl|d
   . obtain⟨t,k⟩:=ls_ m L (bP_ m y q)
     grind[bP_]
   . exact nR_ m L _ h y d
theorem np_ {ps:List Pc} {A:List Str} {m:Nat} {f:Fc}:∀ (l:List Pc) (s:List Fc),(∀ z∈l,z∈ps/\z.kind=2)->(∀ y∈s,Der ps A y)->∀ y∈fi_ (bP_ m) idk f l s,Der ps A y
 | [],s,_,hs,y,d=>hs y d
 | z::l,s,hl,hs,y,d=>by
   have e:=hl z zai_;simp only[fi_,ycV_]at d;refine np_ l _ (λz e=>hl z zbw_) (λy d=>?_) y d
   split at d
   . rename_i k
     have:=hq_ m [ah_ f.a z.c] s y d;rcases this with h|h
     . grind
     . simp at h;subst h
       exact Der.step (.r4 e.1 e.2 (hs _ k.1) (hs _ k.2))
   grind
section
variable {ps:List Pc} {A:List Str} {m:Nat} {x:Ix} {S Fm:Fc->Prop} {f:Fc}
theorem xG_ (H:∀ x∈ps,x.vok) (k:x.of S Fm) (hS:∀ y,S y->y.form) (hk:f.kind=1\/f.kind=2\/f.kind=3) (F:f.form) (j:Nat) (s:List Fc×List Fc) (v:∀ y,S y->y∈s.1) (B:f∈s.1) (d:∀ y∈s.1,Der ps A y) :
    ∀ y∈(rl (bP_ m) idk (be_ ps) x f j s).1,Der ps A y:=by
  have E:∀ L,(∀ y∈L,kI_ ps A (·∈s.1) y)->∀ y∈emits (bP_ m) L s.1,Der ps A y:=λL C y e=>by
    rcases hq_ m L s.1 y e with h|h
    . grind
    . exact Der.step ((C y h).mono (λx k=>⟨x,k,x.frm,rfl⟩) (λ_ h=>h) d (λ_ _ h=>h))
  unfold rl
  split
  . rename_i I
    split
    . grind[qc_]
    . exact np_ _ s.1 (λz K=>by grind[pm2]) d
    all_goals grind[uN_,px_,nA_,fw_,sC_]
  . split
    . rename_i G
      split
      . grind[qa_]
      . grind[up_]
      . grind[pw_]
      . simp only
        split
        . rename_i J
          exact E [ah_ f.a [33]] (λy e=>by grind[nz_])
        . exact d
    grind[vk_,xV_]
theorem oQ_ (v:∀ x∈ps,x.vok) (C:x.of S Fm) (hS:∀ y,S y->y.form) (h:f.form) (s:List Fc×List Fc) (d:∀ y,S y->y∈s.1) (e:f∈s.1) (B:∀ y∈s.1,Der ps A y) (j:Nat) :
    ∀ y∈(rls (bP_ m) idk (be_ ps) x f j s).1,Der ps A y:=by
  induction j with
  | zero=>exact B
  | succ j ih=>exact xG_ v C hS (lY_ h) h j _ (λy k=>oP_ (ge_ m) j s y (d y k)) (oP_ (ge_ m) j s f e) ih
end
inductive Fmd (fm:List Fc):Fc->Prop
  | base {y:Fc} (h:y∈fm):Fmd fm y
  | meet {y z:Fc} (hy:Fmd fm y) (hz:Fmd fm z) (ha:z.a=y.a) (hr:z.r=y.r) (hl:max y.lo z.lo<=min y.hi z.hi):Fmd fm (fl_ y z)
theorem Fmd.mono {fm d:List Fc} (h:∀ y∈fm,y∈d) {y:Fc} (e:Fmd fm y):Fmd d y:=by
  induction e with
  | base h1=>exact .base (h _ h1)
  | meet _ _ ha hr hl ih1 ih2=>exact .meet ih1 ih2 ha hr hl
structure InvA (ps:List Pc) (A:List Str) (m n:Nat) (q fm:List Fc) (x:Ix):Prop where
  nd:q.Nodup
  len:q.length<=m
  le:n<=q.length
  der:∀ y∈q,Der ps A y
  form:∀ y∈q,y.form
  ix:x.of (·∈q.take n) (·∈fm)
  fmq:∀ y∈fm,y∈q/\y.kind=3
  firm:∀ y∈q,y.kind=3->Fmd fm y
  st:∀ a∈A,ah_ a a∈q/\ah_ a [42]∈q/\∀ z∈ps,z.kind=7->az_ a z.r a∈q
  cl:∀ y,One ps A (·∈q.take n) (λy z=>y∈fm\/z∈fm) y->y∈q
theorem Der.form {p:List Pc} {A:List Str} (d:∀ x∈p,x.vok) {y:Fc} (h:Der p A y):y.form:=h _ λ_ e=>One.form d (λ_ h=>h) e
theorem mW_ {stp:Fc->List Fc->List Fc} {kof:List Fc->List Fc} (hk:∀ i s z,z∈kof (stp i s)->z∈kof s\/z=i) (h:Grows stp kof) (f:Fc):∀ (l:List Pc) (s fm:List Fc),∀ y∈l,am_ f.a y.r y.lo y.hi∈kof s\/am_ f.a y.r y.lo y.hi∈(ct_ stp kof f l (s,fm)).2
 | [],s,fm,y,d=>by simp at d
 | x::l,s,fm,y,d=>by
   have e:ct_ stp kof f (x::l) (s,fm)=ct_ stp kof f l (stp (am_ f.a x.r x.lo x.hi) s,if am_ f.a x.r x.lo x.hi∈kof s then fm else am_ f.a x.r x.lo x.hi::fm):=rfl;rw[e]
   by_cases v:am_ f.a y.r y.lo y.hi=am_ f.a x.r x.lo x.hi
   . grind[ib_]
   . rcases yal_.1 d with rfl|d
     . grind
     . rcases mW_ hk h f l (stp (am_ f.a x.r x.lo x.hi) s) (if am_ f.a x.r x.lo x.hi∈kof s then fm else am_ f.a x.r x.lo x.hi::fm) y d with k|k
       all_goals grind
theorem zs_ {q:List Fc} {n:Nat} {f z:Fc} (d:q[n]? = some f):z∈q.take (n+1)↔z∈q.take n\/z=f:=by
  grind[List.take_add_one]
theorem Dh_ {ps:List Pc} {A:List Str} {S Fm kn good:Fc->Prop} {f:Fc} (k:Cmpl ps (λy=>S y\/y=f) Fm kn good f) (v:∀ y,S y\/y=f->kn y) (h:∀ y,One ps A S (λy z=>Fm y\/Fm z) y->good y) (y:Fc) (B:One ps A (λy=>S y\/y=f) (λy z=>Fm y\/Fm z) y):good y:=by
 cases B with
 | r1 d=>exact h _ (.r1 d)
 | r2 d=>exact h _ (.r2 d)
 | r10 hx hk d=>exact h _ (.r10 hx hk d)
 | r3 hx hk d=>exact d.elim (λq=>h _ (.r3 hx hk q)) (λq=>k.c3 _ _ hx hk q.symm)
 | r4 hx hk d e =>
   rcases d with d|d
   . rcases e with e|e
     . exact h _ (.r4 hx hk d e)
     . exact k.c4' _ _ hx hk e.symm (v _ (.inl d))
   . exact k.c4 _ _ hx hk d.symm (v _ e)
 | r5 hx hk d=>exact d.elim (λq=>h _ (.r5 hx hk q)) (λq=>k.c5 _ _ hx hk q.symm)
 | r6 hx hk d=>exact d.elim (λq=>h _ (.r6 hx hk q)) (λq=>k.c6 _ _ _ hx hk q.symm)
 | r7 hx hk d e =>
   rcases d with d|d
   . rcases e with e|e
     . exact h _ (.r7 hx hk d e)
     . exact k.c7' _ _ _ _ hx hk e.symm (.inl d)
   . exact k.c7 _ _ _ _ hx hk d.symm e
 | r8 hx hk d e =>
   rcases d with d|d
   . rcases e with e|e
     . exact h _ (.r8 hx hk d e)
     . exact k.c8' _ _ _ hx hk e.symm (.inl d)
   . exact k.c8 _ _ _ hx hk d.symm e
 | r9 d e =>
   rcases d with d|d
   . rcases e with e|e
     . exact h _ (.r9 d e)
     . exact k.c9' _ _ _ e.symm (.inl d)
   . exact k.c9 _ _ _ d.symm (v _ e)
 | r11 hx hk d=>exact d.elim (λq=>h _ (.r11 hx hk q)) (λq=>k.c11 _ _ hx hk q.symm)
 | @r12 a r lo hi lo' hi' d e hm hl =>
   rcases d with d|d
   . rcases e with e|e
     . exact h _ (.r12 d e hm hl)
     . have:=k.c12 (am_ a r lo hi) zbl_ (.inl d) rfl zbl_ zbl_ zak_ (by grind[am_])
       rw[<-e]at this;rw[Int.max_comm,Int.min_comm];exact this
   . have:=k.c12 (am_ a r lo' hi') zbm_ e rfl zbm_ zbm_ zak_ (by rw[<-d];exact hl)
     rw[<-d]at this;exact this
 | @r13 a r lo hi lo' hi' d e hm hl =>
   rcases d with d|d
   . rcases e with e|e
     . exact h _ (.r13 d e hm hl)
     . have:=k.c13 (am_ a r lo hi) zbl_ (.inl d) rfl zbl_ zbl_ zak_ (by grind[am_])
       rw[<-e]at this;exact this
   . have:=k.c13 (am_ a r lo' hi') zbm_ e rfl zbm_ zbm_ zak_ (by rw[<-d];exact hl)
     rw[<-d]at this;exact this
 | r14 hx hk d g1 g2=>exact d.elim (λq=>h _ (.r14 hx hk q g1 g2)) (λq=>k.c14 _ _ _ _ hx hk q.symm g1 g2)
theorem One.congrM {p:List Pc} {A:List Str} {S:Fc->Prop} {M e:Fc->Fc->Prop} (d:∀ y z,S y->S z->M y z->e y z) {y:Fc} (h:One p A S M y):One p A S e y:=by
  cases h with
  | r1 h=>exact .r1 h
  | r2 h=>exact .r2 h
  | r10 hx hk h=>exact .r10 hx hk h
  | r3 hx hk h=>exact .r3 hx hk h
  | r4 hx hk h h'=>exact .r4 hx hk h h'
  | r5 hx hk h=>exact .r5 hx hk h
  | r6 hx hk h=>exact .r6 hx hk h
  | r7 hx hk h h'=>exact .r7 hx hk h h'
  | r8 hx hk h h'=>exact .r8 hx hk h h'
  | r9 h h'=>exact .r9 h h'
  | r11 hx hk h=>exact .r11 hx hk h
  | r12 h h' hm hl=>exact .r12 h h' (d _ _ h h' hm) hl
  | r13 h h' hm hl=>exact .r13 h h' (d _ _ h h' hm) hl
  | r14 hx hk h h1 h2=>exact .r14 hx hk h h1 h2
section
variable {ps:List Pc} {A:List Str} {m n:Nat} {q fm:List Fc} {x:Ix} {f:Fc}
theorem zJ_ (j k:Nat) (s:List Fc×List Fc):∃ t,(rls (bP_ m) idk (be_ ps) x f (j+k) s).1=(rls (bP_ m) idk (be_ ps) x f j s).1++t:=by
  induction k with
  | zero=>exact⟨[],by simp⟩
  | succ k ih =>
    obtain⟨t,h⟩:=ih;obtain⟨L,e⟩:=ta_ (ps:=ps) (x:=x) (f:=f) (ge_ m) (j+k) (rls (bP_ m) idk (be_ ps) x f (j+k) s);obtain⟨u,d⟩:=ls_ m L (rls (bP_ m) idk (be_ ps) x f (j+k) s).1
    grind[rls]
theorem tb_ (j:Nat) (s:List Fc×List Fc) (h:f.kind=1->j<=4) (H:f.kind=3->j≠0) (hk:f.kind=1\/f.kind=2\/f.kind=3):∀ y∈(rl (bP_ m) idk (be_ ps) x f j s).1,y.kind=3->y∈s.1:=by
 have E:∀ L:List Fc,(∀ y∈L,y.kind≠3)->∀ y∈emits (bP_ m) L s.1,y.kind=3->y∈s.1:=λL F y d hk =>
   (hq_ m L s.1 y d).elim id λq=>absurd hk (F y q)
 have v:∀ {α:Type} (l:List α) (g:α->Fc),(∀ a,(g a).kind≠3)->∀ y∈l.map g,y.kind≠3:=λl g B y d=>by
   grind
 have e:∀ {α β:Type} (l:List α) (k:α->List β) (g:α->β->Fc),(∀ a b,(g a b).kind≠3)->∀ y∈l.flatMap (λa=>(k a).map (g a)),y.kind≠3:=λl k g B y d=>by
   grind
 unfold rl
 split
 .rename_i C
  split
  .exact E _ (v _ _ λ_=>by simp[ah_])
  .obtain⟨L,I,J,_⟩:=fV_ (ge_ m) f (lat (be_ ps) ⟨2,[],f.b⟩) s.1
   grind[ah_]
  .exact E _ (v _ _ λ_=>by grind[az_])
  .exact E _ (e _ _ _ λ_ _=>by simp[ah_])
  all_goals grind[dE_,ah_]
 split
 .split
  .exact E _ (v _ _ λ_=>by grind[az_])
  .refine E _ λy d=>?_
   rcases yai_.1 d with d|d
   .exact e _ _ _ (λ_ _=>by grind[az_]) y d
   exact e _ _ _ (λ_ _=>by grind[az_]) y d
  .exact E _ (e _ _ _ λ_ _=>by simp[ah_])
  simp only
  split
  .exact E [ah_ f.a [33]] (by simp[ah_])
  grind
 rename_i C G
 split
 .grind
 exact E _ (v _ _ λ_=>by simp[ah_])
theorem qy_ (j:Nat) (s:List Fc×List Fc) (h:f.kind=1->j<=5) (v:f.kind≠3) (hk:f.kind=1\/f.kind=2\/f.kind=3):∀ y∈(rls (bP_ m) idk (be_ ps) x f j s).1,y.kind=3->y∈s.1:=by
  induction j with
  | zero=>exact λy e _=>e
  | succ j ih=>exact λy e d=>ih (λk=>by grind) y (tb_ j _ (λk=>by grind) (λk=>absurd k v) hk y e d) d
theorem AE_ (hr:∀ x∈ps,x.vok) (inv:InvA ps A m n q fm x) (hn:q[n]? = some f) {k:List Fc×List Fc} (G:rls (bP_ m) idk (be_ ps) (x.add (decide (f∈fm)) f) f (nrl f) (q,fm)=k) (hl:k.1.length<=m) :
    InvA ps A m (n+1) k.1 k.2 (x.add (decide (f∈fm)) f):=by
  have J:f∈q:=yab_ hn;have hlt:n<q.length:=(yaf_.1 hn).1;have E:=inv.form f J;have hk:=lY_ E;have O:(x.add (decide (f∈fm)) f).of (λy=>y∈q.take n\/y=f) (·∈fm):=Ix.of_add inv.ix f zai_;have C:∀ y,(y∈q.take n\/y=f)->y∈q:=λy d=>d.elim (λh=>ybr_ h) (λh=>h▸J)
  obtain⟨L,hL⟩:=lK_ (ps:=ps) (x:=x.add (decide (f∈fm)) f) (f:=f) (ge_ m) (nrl f) (q,fm);rw[G]at hL;obtain⟨t,ht⟩:=ls_ m L q;have F:∀ y∈q,y∈k.1:=λy d=>by grind
  have Y:k.1.take (n+1)=q.take (n+1):=by grind
  have M:∀ y,y∈k.1.take (n+1)↔(y∈q.take n\/y=f):=λy=>by grind[zs_]
  have N:∀ y∈k.1,Der ps A y:=by rw[<-G];exact oQ_ hr O (λy d=>inv.form y (C y d)) E (q,fm) C J inv.der (nrl f)
  have H:∀ j,j<nrl f->∀ L,(rls (bP_ m) idk (be_ ps) (x.add (decide (f∈fm)) f) f (j+1) (q,fm)).1=emits (bP_ m) L (rls (bP_ m) idk (be_ ps) (x.add (decide (f∈fm)) f) f j (q,fm)).1->∀ y∈L,y∈k.1:=by
    intro j hj L hL y d;obtain⟨u,hu⟩:=zJ_ (m:=m) (ps:=ps) (x:=x.add (decide (f∈fm)) f) (f:=f) (j+1) (nrl f - (j+1)) (q,fm)
    grind[nrl,nR_]
  have hc:=zI_ (ge_ m) hr O (q,fm) (λ_ _=>Iff.rfl) (.inr rfl) C (·∈k.1) (λy d=>F y (C y d)) H
  -- the firm ones
  have B:(∀ y∈fm,y∈k.2)/\(∀ y∈k.2,y∈fm\/(y ∉ q/\y∈k.1/\y.kind=3))/\(∀ y∈k.1,y.kind=3->y∈q\/y∈k.2\/∃ z,(z∈q.take n\/z=f)/\z.kind=3/\f.kind=3/\z.a=f.a/\z.r=f.r/\max f.lo z.lo<=min f.hi z.hi/\y=fl_ f z):=by
    by_cases V:f.kind=1
    . have e6:nrl f=5+1:=by grind[nrl]
      rw[e6,rls]at G;have a0:(rls (bP_ m) idk (be_ ps) (x.add (decide (f∈fm)) f) f 5 (q,fm)).2=fm:=sZ_ 5 (q,fm) (λ_=>yad_ _);have X:=qy_ (m:=m) (ps:=ps) (x:=x.add (decide (f∈fm)) f) (f:=f) 5 (q,fm) (λ_=>yad_ _) zaa_ hk;have W:∀ y∈q,y∈(rls (bP_ m) idk (be_ ps) (x.add (decide (f∈fm)) f) f 5 (q,fm)).1:=λy d=>oP_ (ge_ m) 5 (q,fm) y d
      have T:=H 5 zaa_;rw[rls]at T;generalize rls (bP_ m) idk (be_ ps) (x.add (decide (f∈fm)) f) f 5 (q,fm)=s5 at G a0 X W T
      have er:rl (bP_ m) idk (be_ ps) (x.add (decide (f∈fm)) f) f 5 s5=ct_ (bP_ m) idk f (lat (be_ ps) ⟨8,[],f.b⟩) s5:=by grind[rl.eq_def]
      rw[er]at G T;have a1:s5=(s5.1,fm):=by grind
      rw[a1]at G T;have Hv:=T _ (fw_ (bP_ m) idk f _ s5.1 fm);refine⟨λy d=>?_,λy d=>?_,λy d P=>?_⟩
      . grind[ib_,ge_]
      . rw[<-G]at d
        rcases (ib_ (ge_ m) f _ _ _ _).1 d with h|h
        . grind
        . rcases oq_ f _ _ _ _ h.2 with g|⟨z,K,rfl⟩
          . grind
          . exact .inr ⟨λhq=>h.1 (W _ hq),Hv _ (yan_.2 ⟨z,K,rfl⟩),rfl⟩
      . have hy':=d
        rw[<-G,fw_]at d;rcases hq_ m _ _ y d with h|h
        . grind
        . obtain⟨z,K,rfl⟩:=yan_.1 h
          rcases mW_ (stp:=bP_ m) (kof:=idk) (λi s z K=>(hq_ m [i] s z K).imp id zai_) (ge_ m) f _ s5.1 fm z K with g|g
          all_goals grind
    . have hf2:k.2=fm:=by grind[sZ_]
      refine⟨λy d=>by grind,λy d=>.inl zak_,λy d P=>?_⟩
      by_cases Z:f.kind=3
      . have e2:nrl f=0+1+1:=by grind[nrl]
        rw[e2,rls]at G;rw[<-G]at d;have Q:=tb_ 1 _ (λh=>absurd h V) (λ_=>by decide) hk y d P;rw[rls,rl.eq_def,yag_ V,yag_ zaa_]at Q;rcases hq_ m _ _ y Q with h|h
        . exact .inl h
        . rcases yai_.1 h with h|h
          . obtain⟨z,K,rfl⟩:=yan_.1 h
            grind[lT_,fj_]
          grind[iw_,ah_]
      . rw[<-G]at d
        exact .inl (qy_ _ _ (λh=>absurd h V) Z hk y d P)
  have I:∀ y,(y∈q.take n\/y=f)->(y∈fm↔y∈k.2):=λy d=>⟨λh=>B.1 y h,λh=>(B.2.1 y h).elim id λg=>absurd (C y d) g.1⟩
  refine⟨?_,hl,?_,N,λy d=>(N y d).form hr,?_,?_,?_,?_,?_⟩
  . grind[jR_,InvA.nd]
  . grind
  . have:=Ix.of_firm O I
    have e:(λy=>y∈k.1.take (n+1))=(λy=>y∈q.take n\/y=f):=funext λy=>propext (M y)
    grind
  . intro y d
    rcases B.2.1 y d with h|h
    . exact⟨F y (inv.fmq y h).1,(inv.fmq y h).2⟩
    grind
  . intro y d U
    rcases B.2.2 y d U with h|h|⟨z,V,h2,Z,h4,h5,h6,rfl⟩
    . exact (inv.firm y h U).mono B.1
    . exact .base h
    . exact .meet ((inv.firm f J Z).mono B.1) ((inv.firm z (C z V) h2).mono B.1) h4 h5 h6
  . intro a ha
    obtain⟨g1,g2,g3⟩:=inv.st a ha
    grind
  . intro y d
    have e:(λy=>y∈k.1.take (n+1))=(λy=>y∈q.take n\/y=f):=funext λy=>propext (M y)
    rw[e]at d;refine Dh_ (A:=A) hc C (λz K=>F z (inv.cl z K)) y (d.congrM λu v hu hv hm=>hm.imp (I u hu).2 (I v hv).2)
theorem AF_ (inv:InvA ps A m q.length q fm x) (y:Fc):Der ps A y↔y∈q:=by
 refine⟨λh=>h.least λy G=>?_,inv.der y⟩;have d:∀ y,One ps A (·∈q) (λy z=>y∈fm\/z∈fm) y->y∈q:=λy G=>inv.cl y zak_
 have C:∀ f,Fmd fm f->∀ z∈q,z.kind=3->z.a=f.a->z.r=f.r->(max z.lo f.lo<=min z.hi f.hi->fl_ z f∈q)/\(min z.hi f.hi<max z.lo f.lo->ah_ z.a [33]∈q):=by
   intro f O
   induction O with
   | @base f hb =>
     intro z L hk N k;obtain⟨E,J⟩:=inv.fmq f hb;have P:=(kd_ (inv.form z L) hk).1;have ef:=(kd_ (inv.form f E) J).1;rw[<-N,<-k]at ef;refine⟨λhl=>d _ (.r12 zak_ zak_ (.inr zak_) hl),λhl=>d _ (.r13 (r:=z.r) zak_ zak_ (.inr zak_) hl)⟩
   | @meet y w G hw N k hl ih1 ih2 =>
     intro z L hk I H;have B:z.a=y.a:=I;have v:z.r=y.r:=H;obtain⟨T,Q⟩:=ih1 z L hk B v;have K:(fl_ y w).lo=max y.lo w.lo:=rfl;have F:(fl_ y w).hi=min y.hi w.hi:=rfl;rw[K,F]
     by_cases U:max z.lo y.lo<=min z.hi y.hi
     . grind[fl_,Int.max_assoc,Int.min_assoc,am_]
     grind[Int.not_le]
 have M:∀ {a r:Str} {lo hi lo' hi':Int},am_ a r lo hi∈q->am_ a r lo' hi'∈q->(max lo lo'<=min hi hi'->am_ a r (max lo lo') (min hi hi')∈q)/\(min hi hi'<max lo lo'->ah_ a [33]∈q):=λh e=>C _ (inv.firm _ e rfl) _ h rfl rfl rfl
 cases G with
 | r1 h=>exact d _ (.r1 h)
 | r2 h=>exact d _ (.r2 h)
 | r10 hx hk h=>exact d _ (.r10 hx hk h)
 | r3 hx hk h=>exact d _ (.r3 hx hk h)
 | r4 hx hk h e=>exact d _ (.r4 hx hk h e)
 | r5 hx hk h=>exact d _ (.r5 hx hk h)
 | r6 hx hk h=>exact d _ (.r6 hx hk h)
 | r7 hx hk h e=>exact d _ (.r7 hx hk h e)
 | r8 hx hk h e=>exact d _ (.r8 hx hk h e)
 | r9 h e=>exact d _ (.r9 h e)
 | r11 hx hk h=>exact d _ (.r11 hx hk h)
 | r12 h e hm hl=>grind
 | r13 h e hm hl=>grind
 | r14 hx hk h h1 h2=>exact d _ (.r14 hx hk h h1 h2)
end
def hz_ (loops:List Str) (A:List Str):List Fc:=A.flatMap λa=>ah_ a a::ah_ a [42]::loops.map λr=>az_ a r a
theorem uq_ {ps:List Pc} {A:List Str} {S:Fc->Prop} {M:Fc->Fc->Prop}:∀ y∈hz_ (aS_ ps) A,One ps A S M y:=by
 intro y d;obtain⟨a,e,d⟩:=yaB_.1 d;simp only[yal_]at d;rcases d with rfl|rfl|d
 .exact .r1 e
 .exact .r2 e
 obtain⟨r,k,rfl⟩:=yan_.1 d;obtain⟨z,B,rfl⟩:=yan_.1 k;obtain⟨v,h⟩:=yaQ_.1 B;exact .r10 v (yaY_ h) e
theorem rm_ {ps:List Pc} {A:List Str} {a:Str} (d:a∈A):ah_ a a∈hz_ (aS_ ps) A/\ah_ a [42]∈hz_ (aS_ ps) A/\∀ z∈ps,z.kind=7->az_ a z.r a∈hz_ (aS_ ps) A:=by
  refine⟨yaB_.2 ⟨a,d,by simp⟩,yaB_.2 ⟨a,d,by simp⟩,λz e hk=>yaB_.2 ⟨a,d,?_⟩⟩;exact yaK_ _ (yaK_ _ (yan_.2 ⟨z.r,yan_.2 ⟨z,yaQ_.2 ⟨e,yaW_ hk⟩,rfl⟩,rfl⟩))
structure LoopA (ps:List Pc) (A:List Str) (m n:Nat) (q fm:List Fc) (x:Ix):Prop where
  nd:q.Nodup
  len:q.length<=m+1
  le:n<=q.length
  der:∀ y∈q,Der ps A y
  ix:x.of (·∈q.take n) (·∈fm)
  inv:q.length<=m->InvA ps A m n q fm x
section
variable {ps:List Pc} {A:List Str} {m n:Nat} {q fm:List Fc} {x:Ix} {f:Fc}
theorem tG_ (I:∀ x∈ps,x.vok) {q:List Fc} (F:emits (bP_ m) (hz_ (aS_ ps) A) []=q):LoopA ps A m 0 q [] Ix.nil:=by
 have v:∀ y∈q,y∈hz_ (aS_ ps) A:=λy k=>by rw[<-F]at k;exact (hq_ m _ _ y k).elim (λh=>by simp at h) id
 have d:∀ y∈q,Der ps A y:=λy k=>Der.step (uq_ y (v y k))
 have E:q.Nodup:=by grind[jR_]
 have C:Ix.nil.of (·∈q.take 0) (·∈([]:List Fc)):=by
   have e:(λy=>y∈q.take 0)=(λ_=>False):=funext λy=>by simp
   grind[Ix.of_nil]
 refine⟨E,by grind[se_],ybm_ _,d,C,λhl=>⟨E,hl,ybm_ _,d,λy k=>(d y k).form I,C,by simp,λy k hk=>?_,λa G=>?_,λy k=>?_⟩⟩
 .exfalso
  obtain⟨a,_,h⟩:=yaB_.1 (v y k)
  grind[ah_,az_]
 .grind[rm_,nR_]
 rw[<-F]at hl;have B:∀ a∈A,_:=λa G=>rm_ (ps:=ps) G
 have H:∀ z∈hz_ (aS_ ps) A,z∈q:=λz J=>by grind[nR_]
 cases k<;>grind
theorem gS_ (B:∀ x∈ps,x.vok) (h:LoopA ps A m n q fm x) (F:q[n]? = some f) (j:Nat) {e:List Fc×List Fc} (C:rls (bP_ m) idk (be_ ps) (x.add (decide (f∈fm)) f) f j (q,fm)=e) :
    e.1.Nodup/\e.1.length<=m+1/\(∀ y∈e.1,Der ps A y)/\∃ t,e.1=q++t:=by
  have d:f∈q:=yab_ F;have k:∀ y,(y∈q.take n\/y=f)->y∈q:=λy v=>v.elim (λh=>ybr_ h) (λh=>h▸d)
  obtain⟨L,E⟩:=lK_ (ps:=ps) (x:=x.add (decide (f∈fm)) f) (f:=f) (ge_ m) j (q,fm);rw[C]at E;refine⟨by grind[jR_,LoopA.nd],by grind[se_,LoopA.len],?_,by rw[E];exact ls_ m L q⟩;rw[<-C];exact oQ_ B (Ix.of_add h.ix f zai_) (λy v=>(h.der y (k y v)).form B) ((h.der f d).form B) (q,fm) k d h.der j
theorem kB_ (e:∀ x∈ps,x.vok) (h:LoopA ps A m n q fm x) (v:q[n]? = some f) {d:List Fc×List Fc} (k:rls (bP_ m) idk (be_ ps) (x.add (decide (f∈fm)) f) f (nrl f) (q,fm)=d) (hl:d.1.length<=m) :
    LoopA ps A m (n+1) d.1 d.2 (x.add (decide (f∈fm)) f):=by
  obtain⟨_,_,_,t,y⟩:=gS_ e h v (nrl f) k;have hi:=AE_ e (h.inv zak_) v k hl;exact⟨hi.nd,by omega,hi.le,hi.der,hi.ix,λ_=>hi⟩
theorem vm_ (h:LoopA ps A m q.length q fm x) (hl:q.length<=m) (y:Fc):Der ps A y↔y∈q:=AF_ (h.inv hl) y
end
theorem zf_eq (x:Pc):∃ n,{ x.zf with frm:=n }=x:=⟨x.frm,rfl⟩
theorem sE_ {p:List Pc} {A:List Str} {y:Fc}:Der (uniq [] p) A y↔Der p A y:=by
 constructor
 .refine Der.mono (λx d=>?_) (λ_ h=>h)
  rcases (kO_ p [] x).1 d with h|⟨z,e,rfl⟩
  .simp at h
  exact⟨z,e,0,rfl⟩
 exact Der.mono (λx d=>⟨x.zf,(kO_ p [] _).2 (.inr ⟨x,d,rfl⟩),zf_eq x⟩) (λ_ h=>h)
theorem zl_ {p:List Pc} (h:∀ x∈p,x.vok):∀ x∈uniq [] p,x.vok:=λx k=>by
 rcases (kO_ p [] x).1 k with e|⟨z,d,rfl⟩
 .simp at e
 exact⟨(h z d).rok,(h z d).num⟩
def Fc.lt (x y:Fc):Prop:=x.kind<y.kind\/x.kind=y.kind/\(x.a<y.a\/x.a=y.a/\(x.b<y.b\/x.b=y.b/\(x.r<y.r\/x.r=y.r/\(x.lo<y.lo\/x.lo=y.lo/\x.hi<y.hi))))
instance (x y:Fc):Decidable (Fc.lt x y):=by unfold Fc.lt;exact inferInstance
theorem rv_ (x y:Str):x<y\/x=y\/y<x:=by
  grind
theorem Fc.lt_irr (x:Fc):¬ x.lt x:=by
  grind[lt]
theorem Fc.lt_tri (x y:Fc):x.lt y\/x=y\/y.lt x:=by
 unfold Fc.lt;rcases ycN_ x.kind y.kind with h|h|h
 .grind
 .rcases rv_ x.a y.a with k|k|k
  .grind
  .rcases rv_ x.b y.b with d|d|d
   .grind
   .rcases rv_ x.r y.r with B|B|B
    .grind
    .rcases ycN_ x.lo y.lo with e|e|e
     .grind
     .rcases ycN_ x.hi y.hi with v|v|v
      .grind
      .refine .inr (.inl ?_);cases x;cases y;simp_all
      grind
     grind
    grind
   grind
  grind
 grind
theorem hL_ {α:Type} {lt:α->α->Prop} (k:∀ {x y z},lt x y->lt y z->lt x z) {x y z:α} {P Q R:Prop} (e:x=y->y=z->P->Q->R) (h:lt x y\/x=y/\P) (d:lt y z\/y=z/\Q):lt x z\/x=z/\R:=by
  grind
theorem Fc.lt_trans {x y z:Fc} (d:x.lt y) (e:y.lt z):x.lt z :=
  hL_ (lt:=λa b:Int=>a<b) Int.lt_trans (λ_ _=>hL_ (lt:=λa b:Str=>a<b) ycP_ (λ_ _=>hL_ (lt:=λa b:Str=>a<b) ycP_ (λ_ _=>hL_ (lt:=λa b:Str=>a<b) ycP_ (λ_ _=>hL_ (lt:=λa b:Int=>a<b) Int.lt_trans λ_ _=>Int.lt_trans)))) d e
abbrev Srt (l:List Fc):Prop:=l.Pairwise Fc.lt
def uz_ (p:List Pc) (A:List Str) (m:Nat):Option (List Fc)->Prop
  | some L=>Srt L/\(∀ y,y∈L↔Der p A y)/\L.length<=m
  | none=>∃ M:List Fc,M.Nodup/\(∀ y∈M,Der p A y)/\m<M.length
theorem gR_ {α:Type} [DecidableEq α]:∀ {l m:List α},l.Nodup->(∀ x∈l,x∈m)->l.length<=m.length
  | [],m,_,_=>by simp
  | x::l,m,h,hs=>by
    rw[ybt_]at h
    have:=gR_ (l:=l) (m:=m.erase x) h.2 λy d=>by
      grind
    grind
end Go.Vs
namespace Go.Vs
open Go Go.Sx
section
variable {ps:List Pc} {A:List Str} {c:List Fc} {x:Ix} {f:Fc}
end
section
variable {p:List Pc} {A:List Str} {l:List Fc} {f:Fc}
theorem DF_ {α β:Type} {g:α->List β} {n:Nat}:∀ (l:List α),(∀ x∈l,(g x).length<=n)->(l.flatMap g).length<=l.length*n
  | [],_=>by simp
  | x::l,h=>by
    have:=DF_ l λy d=>h y zaH_
    grind[Nat.add_mul]
end
end Go.Vs
namespace Go.Sx
open Go Go.Vs
theorem sJ_ {P:Program} {f:FuncId} {args:Array Value} {H:Hp} {Γ M:List Fct} {ι:Type} {F:ι->Value} {H':ι->Hp} (B:Hp) (J:Tri P f args H Γ F H' (λ_=>[]))
    (S:∀ v:Vw,(∀ p∈B,v.im p.1/\v.w.heap[p.1]? = some p.2)->ag_ M v->ag_ Γ v):Tri P f args (B++H) M F (λx=>B++H' x) (λ_=>[]):=by
  refine⟨J.callable,λv A U=>?_⟩;have C:=A.nodup;rw[yaz_,ybe_]at C;have O:∀ p∈B,p.1<v.w.heap.size:=λp m=>(yaA_.1 (A.own p (yax_ _ m)).1).1
  have L:(⟨λb=>v.im b\/b∈B.map Prod.fst,v.w,v.sl⟩:Vw).sat H:=by
    refine⟨λp m=>⟨(A.own p (yaF_ _ m)).1,λhi=>?_⟩,C.2.1,λb k=>?_⟩
    . rcases hi with hi|hi
      . exact (A.own p (yaF_ _ m)).2 hi
      grind
    . rcases k with k|k
      . exact A.lt b k
      grind
  have I:v.le ⟨λb=>v.im b\/b∈B.map Prod.fst,v.w,v.sl⟩:=⟨λb h=>.inl h,λ_ _=>rfl,rfl⟩;have Q:=S ⟨λb=>v.im b\/b∈B.map Prod.fst,v.w,v.sl⟩ (λp m=>⟨.inr (yaZ_ m),(A.own p (yax_ _ m)).1⟩) (aT_ I U);refine (J.run _ L Q).mono ?_;rintro e w' ⟨x,G,rfl,rfl,E,_,y⟩;have hB:∀ b,b∈B.map Prod.fst->G.im b:=λb k=>y.imUp b (.inr k)
  refine⟨x,⟨λb=>G.im b/\b ∉ B.map Prod.fst,G.w,G.sl⟩,rfl,rfl,⟨λp m=>?_,?_,λb k=>E.lt b k.1⟩,trivial,?_⟩
  . rcases yai_.1 m with m|m
    . refine⟨?_,λh=>h.2 (yaZ_ m)⟩
      have:=(y.le L).block p.1 (.inr (yaZ_ m));exact this.trans (A.own p (yax_ _ m)).1
    . exact⟨(E.own p m).1,λh=>(E.own p m).2 h.1⟩
  . rw[yaz_,ybe_]
    refine⟨C.1,E.nodup,λa V b k e=>?_⟩;subst e;obtain⟨p,m,rfl⟩:=yan_.1 k;exact (E.own p m).2 (hB _ V)
  . refine⟨y.os,y.tape,y.output,y.size,λb k T=>y.block b k (λhm=>T ?_),λb k=>⟨y.imUp b (.inl k),λhm=>?_⟩,λb k=>?_,λb k=>?_,y.sl,y.dr⟩
    . grind
    . obtain⟨p,m,rfl⟩:=yan_.1 hm
      exact (A.own p (yax_ _ m)).2 k
    . rcases y.imNew b k.1 with (h|h)|h|h
      all_goals grind
    . rw[yaz_]at k ⊢
      rcases yai_.1 k with h|h
      . grind
      . exact (y.hNew b h).imp (yaF_ _) id
structure KeyT (P:Program) (kt:TypeId) {K:Type} [DecidableEq K] (kv:K->Value):Prop where
  ok:∀ k,hV_ P kt (kv k)
  nf:∀ (k:K) (es:List MapEntry) (ks:List K),es.map (·.key)=ks.map kv->k ∉ ks->di_ P kt (kv k) es none
  sf:∀ (k:K) (es:List MapEntry) (ks:List K) (i:Nat) (e:MapEntry),es.map (·.key)=ks.map kv->ks.Nodup->ks[i]? = some k->es[i]? = some e->di_ P kt (kv k) es (some (i,e.val))
  same:∀ k,Instr.sameBits 10000 (kv k) (kv k)=true
section
variable {P:Program}
theorem sm_ (a b:List UInt8):((⟨a.toArray⟩:ByteArray)==⟨b.toArray⟩)=decide (a=b):=by
  show (a.toArray==b.toArray)=_
  grind
theorem tL_ {kt:TypeId} (v:P.underlying kt=some .string):KeyT P kt str where
  ok:=λk e w=>by
    have key:∀ m,(Instr.checkKey e (m+1) kt (str k)).run P w=.ok () w:=λm=>by simp[Instr.checkKey,run_underlying v,str]
    grind
  nf:=λk es ks h hk=>aw_ v (by
    have:∀ (ks:List Str) (es:List MapEntry) (i:Nat),es.map (·.key)=ks.map str->k ∉ ks->Instr.findNow .string (str k) es i=some none:=by
      intro ks
      induction ks with
      | nil => intro es i h _; have : es = [] := by simpa using h
               subst this;rfl
      | cons q ks ih =>
        intro es i h hk;cases es<;>grind[Instr.sameNow,str,sm_,Instr.findNow]
    grind)
  sf:=λk es ks i e h y hi A=>aw_ v (by
    have:∀ (ks:List Str) (es:List MapEntry) (j i:Nat),es.map (·.key)=ks.map str->ks.Nodup->ks[i]? = some k->es[i]? = some e->Instr.findNow .string (str k) es j=some (some (j+i,e.val)):=by
      intro ks
      induction ks with
      | nil=>grind
      | cons q ks ih =>
        intro es j i h y hi A;cases es with
        | nil=>simp at h
        | cons x es =>
          simp only[yar_,yaP_]at h;rw[ybt_]at y;cases i<;>grind[Instr.sameNow,str,sm_,Instr.findNow]
    grind)
  same:=λk=>by
    grind[Instr.sameBits,str,sm_]
theorem eV_ {K:Type} [DecidableEq K] {kt:TypeId} {C:Array Field} {kv:K->Value} (B:P.underlying kt=some (.struct C)) (A:∀ k,hV_ P kt (kv k)) (y:∀ p q w,(Op.equal kt (kv p) (kv q)).run P w=.ok (decide (p=q)) w) (m:∀ k,Instr.sameBits 10000 (kv k) (kv k)=true):KeyT P kt kv where
  ok:=A
  nf:=λk es ks h hk=>(is_ B y k ks es h).1 hk
  sf:=λk es ks i e h E hi F=>by
    have key:∀ (ks:List K) (es:List MapEntry) (j i:Nat),es.map (·.key)=ks.map kv->ks.Nodup->ks[i]? = some k->es[i]? = some e->∀ w,(Instr.findAsking kt (kv k) es j).run P w=.ok (some (j+i,e.val)) w:=by
      intro ks
      induction ks with
      | nil=>grind
      | cons q ks ih =>
        intro es j i h E hi F w;cases es with
        | nil=>simp at h
        | cons x es =>
          simp only[yar_,yaP_]at h;rw[ybt_]at E;cases i<;>grind[Instr.findAsking,Sem.run_bind,Result.andThen_ok,Sem.run_pure]
    intro w;have v:∀ (x:MapEntry) (r:List MapEntry),Instr.findNow (.struct C) (kv k) (x::r) 0=none:=λx r=>by grind[Instr.findNow,Instr.sameNow]
    cases es with
    | nil=>simp at F
    | cons x r =>
      simp only[Instr.findKey,Sem.run_bind,run_underlying B,Result.andThen_ok,v]
      grind
  same:=m
end
theorem jf_ (n:Nat) {k:IntKind} (i:Int):Instr.sameBits n (.int k i) (.int k i)=true:=by
  grind[Instr.sameBits]
theorem fR_ (n:Nat) (s:List UInt8):Instr.sameBits n (str s) (str s)=true:=by
  cases n<;>(show ((⟨s.toArray⟩:ByteArray)==⟨s.toArray⟩)=true;grind[sm_])
theorem hE_ {n:Nat} {l:List Value} (h:∀ v∈l,Instr.sameBits n v v=true):Instr.sameBits (n+1) (.agg l.toArray) (.agg l.toArray)=true:=by
  simp only[Instr.sameBits,BEq.rfl,Bool.true_and,ybb_];intro p k
  have:∀ (l:List Value),(∀ v∈l,Instr.sameBits n v v=true)->∀ p∈l.zip l,Instr.sameBits n p.1 p.2=true:=by
    intro l
    induction l with
    | nil=>intro _ p k;simp at k
    | cons a l ih =>
      grind[List.zip_cons_cons]
  grind
structure Born (es:Array MapEntry) (c:Nat):Prop where
  lt:∀ x∈es.toList,x.born<c
  nd:(es.toList.map (·.born)).Nodup
theorem Born.nil (c:Nat):Born #[] c:=⟨by simp,by simp⟩
theorem Born.push {es:Array MapEntry} {c:Nat} (h:Born es c) (m val:Value):Born (es.push ⟨m,val,c⟩) (c+1):=by
 refine⟨λx k=>?_,?_⟩
 .rw[ybY_,yai_]at k
  rcases k with k|k
  .exact Nat.lt_succ_of_lt (h.lt x k)
  grind
 rw[ybY_,yaz_,ybe_];refine⟨h.nd,by simp,λa v b y e=>?_⟩;obtain⟨x,k,rfl⟩:=yan_.1 v;simp at y
 have:=h.lt x k;omega
theorem Born.modify {es:Array MapEntry} {c:Nat} (h:Born es c) (i:Nat) (f:MapEntry->MapEntry) (A:∀ e,(f e).born=e.born):Born (es.modify i f) c:=by
  have m:(es.modify i f).toList.map (·.born)=es.toList.map (·.born):=by
    apply yaS_
    grind
  refine⟨λx v=>?_,by grind[nd]⟩;have:x.born∈(es.modify i f).toList.map (·.born):=yaZ_ v;rw[m]at this;obtain⟨y,k,e⟩:=yan_.1 this;rw[<-e];exact h.lt y k
theorem Born.find {es:Array MapEntry} {c i:Nat} {x:MapEntry} (h:Born es c) (k:es[i]? = some x):es.findIdx? (λe=>(e.born:Int)==(x.born:Int))=some i:=by
  grind[Array.findIdx?_eq_some_iff_getElem,Array.getElem?_eq_some_iff,Array.size,nd,List.pairwise_iff_getElem]
section
variable {K D:Type} [DecidableEq K] (kv:K->Value) (cells:D->List Value) (e:TypeId) (sz:Nat) (l:List (K×D))
def hU_:List K->List MapEntry->Hp->Prop
  | [],[],H=>H=[]
  | k::ks,x::es,H=>∃ Hk Hr,H=Hk++Hr/\x.key=kv k/\at_ e sz x.val (lat l k).length ((lat l k).flatMap cells) Hk/\hU_ ks es Hr
  | _,_,_=>False
def cC_ (mb:Nat) (H:Hp):Prop:=∃ ks es c Hr,H=(mb,.map es c)::Hr/\ks.Nodup/\(∀ x∈l,x.1∈ks)/\hU_ kv cells e sz l ks es.toList Hr/\Born es c
end
section
variable {K D:Type} [DecidableEq K] {kv:K->Value} {cells:D->List Value} {e:TypeId} {sz:Nat} {l:List (K×D)}
theorem hU_.keys:∀ {ks:List K} {es:List MapEntry} {H:Hp},hU_ kv cells e sz l ks es H->es.map (·.key)=ks.map kv
  | [],[],_,_=>rfl
  | k::ks,x::es,_,h=>by
    obtain⟨y,Hr,_,m,_,v⟩:=h;simp[m,v.keys]
  | [],_::_,_,h=>h.elim
  | _::_,[],_,h=>h.elim
theorem hU_.congr {m:List (K×D)}:∀ {ks:List K} {es:List MapEntry} {H:Hp},(∀ k∈ks,lat m k=lat l k)->hU_ kv cells e sz l ks es H->hU_ kv cells e sz m ks es H
  | [],[],_,_,h=>h
  | k::ks,x::es,_,hl,h=>by
    obtain⟨y,Hr,B,A,E,C⟩:=h;exact⟨y,Hr,B,A,by grind,C.congr λq v=>hl q (by simp[v])⟩
  | [],_::_,_,_,h=>h.elim
  | _::_,[],_,_,h=>h.elim
theorem hU_.get : ∀ {ks : List K} {es : List MapEntry} {H : Hp} {i : Nat} {k : K}, hU_ kv cells e sz l ks es H->ks.Nodup->ks[i]? = some k->∃ x A Hr, es[i]? = some x/\H.Perm (A ++ Hr)/\x.key = kv k/\at_ e sz x.val (lat l k).length ((lat l k).flatMap cells) A/\
      ∀ (v:List (K×D)) (y:MapEntry) (m:Hp),y.key=kv k->(∀ q,q≠k->lat v q=lat l q)->at_ e sz y.val (lat v k).length ((lat v k).flatMap cells) m->∃ H',hU_ kv cells e sz v ks (es.set i y) H'/\H'.Perm (m++Hr)
  | [],_,_,_,_,_,_,h=>by simp at h
  | _::_,[],_,_,_,h,_,_=>h.elim
  | q::ks,x::es,H,0,k,h,hn,hi=>by
    simp only[ybM_,yah_]at hi;subst hi;rw[ybt_]at hn;obtain⟨A,Hr,E,I,L,F⟩:=h;exact⟨x,A,Hr,rfl,E▸.refl _,I,L,λv y m C G J=>⟨m++Hr,⟨m,Hr,rfl,C,J,F.congr λz X=>G z (λe=>hn.1 (e▸X))⟩,.refl _⟩⟩
  | q::ks,x::es,H,i+1,k,h,hn,hi=>by
    simp only[ybw_]at hi;rw[ybt_]at hn;obtain⟨B,Y,E,I,L,F⟩:=h;obtain⟨y,A,Hr,U,T,Q,S,V⟩:=F.get hn.2 hi;have M:q≠k:=λe=>hn.1 (e▸yab_ hi)
    refine⟨y,A,B++Hr,U,?_,Q,S,λv z m C G J=>?_⟩
    . rw[E]
      refine (ybl_ B T).trans ?_;rw[<-yap_,<-yap_];exact yaE_.append_right _
    . obtain⟨H',O,W⟩:=V v z m C G J
      refine⟨B++H',⟨B,H',rfl,I,by grind,O⟩,(ybl_ B W).trans ?_⟩;rw[<-yap_,<-yap_];exact yaE_.append_right _
theorem hU_.push:∀ {ks:List K} {es:List MapEntry} {H:Hp} {k:K} {x:MapEntry} {Hk:Hp},hU_ kv cells e sz l ks es H->x.key=kv k->at_ e sz x.val (lat l k).length ((lat l k).flatMap cells) Hk->hU_ kv cells e sz l (ks++[k]) (es++[x]) (H++Hk)
  | [],[],_,k,x,Hk,h,h1,h2=>by subst h;exact⟨Hk,[],by simp,h1,h2,rfl⟩
  | q::ks,y::es,_,k,x,Hk,h,h1,h2=>by
    obtain⟨B,Hr,rfl,A,m,v⟩:=h;exact⟨B,Hr++Hk,by simp,A,m,v.push h1 h2⟩
  | [],_::_,_,_,_,_,h,_,_=>h.elim
  | _::_,[],_,_,_,_,h,_,_=>h.elim
theorem jL_ {k q:K} {d:D} (h:q≠k):lat (l++[(k,d)]) q=lat l q:=by
  grind[lat]
theorem cN_ {k:K} {d:D}:lat (l++[(k,d)]) k=lat l k++[d]:=by
  grind[lat]
theorem cC_.open {P:Program} {kt:TypeId} (I:KeyT P kt kv) {v:Nat} {H:Hp} (h:cC_ kv cells e sz l v H) (k:K) :
    ∃ es c sv B Hr,H.Perm ((v,.map es c)::(B++Hr))/\at_ e sz sv (lat l k).length ((lat l k).flatMap cells) B/\
      ((di_ P kt (kv k) es.toList none/\sv=.slice none 0 0/\∀ d sv' m,at_ e sz sv' (lat (l++[(k,d)]) k).length ((lat (l++[(k,d)]) k).flatMap cells) m->∃ H',cC_ kv cells e sz (l++[(k,d)]) v H'/\H'.Perm ((v,.map (es.push ⟨kv k,sv',c⟩) (c+1))::(m++Hr)))\/
       (∃ i x,di_ P kt (kv k) es.toList (some (i,sv))/\es[i]? = some x/\x.key=kv k/\x.val=sv/\∀ d sv' m,at_ e sz sv' (lat (l++[(k,d)]) k).length ((lat (l++[(k,d)]) k).flatMap cells) m->∃ H',cC_ kv cells e sz (l++[(k,d)]) v H'/\H'.Perm ((v,.map (es.modify i λy=>{ y with key:=kv k,val:=sv' }) c)::(m++Hr)))):=by
  obtain⟨ks,es,c,J,rfl,F,hl,hm,A⟩:=h
  by_cases hk:k∈ks
  . obtain⟨i,hi⟩:=yaJ_ hk
    obtain⟨x,B,Hr,Q,L,V,O,U⟩:=hm.get F hi;have T:es[i]? = some x:=by grind
    refine⟨es,c,x.val,B,Hr,.cons _ L,O,.inr ⟨i,x,I.sf k es.toList ks i x hm.keys F hi Q,T,V,rfl,λd sv' m E=>?_⟩⟩;obtain⟨H',W,M⟩:=U (l++[(k,d)]) { x with key:=kv k,val:=sv' } m rfl (λq C=>jL_ C) E;refine⟨(v,.map (es.modify i λy=>{ y with key:=kv k,val:=sv' }) c)::H',⟨ks,_,c,H',rfl,F,λy S=>?_,?_,A.modify i _ λ_=>rfl⟩,.cons _ M⟩
    . grind
    . have X:(es.modify i λy=>{ y with key:=kv k,val:=sv' }).toList=es.toList.set i { x with key:=kv k,val:=sv' }:=by
        apply yaS_
        grind
      grind
  . have G:lat l k=[]:=by
      apply ybI_.2
      grind[cy_]
    refine⟨es,c,.slice none 0 0,[],J,.refl _,by grind[at_.nil],.inl ⟨I.nf k es.toList ks hm.keys hk,rfl,λd sv' m E=>?_⟩⟩;refine⟨(v,.map (es.push ⟨kv k,sv',c⟩) (c+1))::(J++m),⟨ks++[k],_,_,_,rfl,?_,λy S=>?_,?_,A.push _ _⟩,.cons _ yaE_⟩
    . grind
    . grind
    . rw[ybY_]
      exact (hm.congr λq C=>jL_ (λ(e:q=k)=>hk (e▸C))).push rfl E
structure MOpn (kv:K->Value) (cells:D->List Value) (e:TypeId) (sz:Nat) (l:List (K×D)) (mb:Nat) (k:K) (es:Array MapEntry) (c i:Nat) (st:Int) (Hr:Hp):Prop where
  find:es.findIdx? (λx=>(x.born:Int)==st)=some i
  close:∀ d sv' Hk',at_ e sz sv' (lat (l++[(k,d)]) k).length ((lat (l++[(k,d)]) k).flatMap cells) Hk'->∃ H',cC_ kv cells e sz (l++[(k,d)]) mb H'/\H'.Perm ((mb,.map (es.modify i λy=>{ y with val:=sv' }) c)::(Hk'++Hr))
theorem vh_ {es:Array MapEntry} {i:Nat} {x:MapEntry} {key:Value} (k:es[i]? = some x) (hk:x.key=key):(es.modify i λy=>{ y with key:=key })=es:=by
 apply ycg_
 intro j;rw[ybo_]
 by_cases h:i=j
 .subst h;rw[yaq_ rfl,k];simp only[yaR_];rw[<-hk]
 grind
theorem cC_.entry {P:Program} {kt:TypeId} (O:KeyT P kt kv) {B:Nat} {H:Hp} (h:cC_ kv cells e sz l B H) (k:K) :
    ∃ es c v F i st sv E Hr,H.Perm ((B,.map es c)::(E++Hr))/\at_ e sz sv (lat l k).length ((lat l k).flatMap cells) E/\MOpn kv cells e sz l B k v F i st Hr/\
      ((di_ P kt (kv k) es.toList none/\sv=.slice none 0 0/\v=es.push ⟨kv k,.slice none 0 0,c⟩/\F=c+1/\st=(c:Int))\/(∃ j x,di_ P kt (kv k) es.toList (some (j,sv))/\es[j]? = some x/\x.key=kv k/\v=es/\F=c/\st=(x.born:Int))):=by
  have T:=h;obtain⟨ks,es,c,Q,rfl,L,hl,hm,m⟩:=T
  by_cases hk:k∈ks
  . obtain⟨i,hi⟩:=yaJ_ hk
    obtain⟨x,E,Hr,X,U,g3,W,Z⟩:=hm.get L hi;have S:es[i]? = some x:=by grind
    refine⟨es,c,es,c,i,x.born,x.val,E,Hr,.cons _ U,W,⟨m.find S,λd sv' A I=>?_⟩,.inr ⟨i,x,O.sf k es.toList ks i x hm.keys L hi X,S,g3,rfl,rfl,rfl⟩⟩;obtain⟨H',j1,j2⟩:=Z (l++[(k,d)]) { x with key:=kv k,val:=sv' } A rfl (λq G=>jL_ G) I;refine⟨(B,.map (es.modify i λy=>{ y with val:=sv' }) c)::H',⟨ks,_,c,H',rfl,L,λy Y=>?_,?_,m.modify i _ λ_=>rfl⟩,.cons _ j2⟩
    . grind
    . have e1:(es.modify i λy=>{ y with val:=sv' }).toList=es.toList.set i { x with key:=kv k,val:=sv' }:=by
        apply yaS_
        grind
      grind
  . have M:lat l k=[]:=by
      apply ybI_.2
      grind[cy_]
    have J:=m.push (kv k) (.slice none 0 0);have C:(es.push ⟨kv k,.slice none 0 0,c⟩)[es.size]? = some ⟨kv k,.slice none 0 0,c⟩:=by simp
    refine⟨es,c,es.push ⟨kv k,.slice none 0 0,c⟩,c+1,es.size,(c:Int),.slice none 0 0,[],Q,.refl _,by grind[at_.nil],⟨J.find C,λd sv' A I=>?_⟩,.inl ⟨O.nf k es.toList ks hm.keys hk,rfl,rfl,rfl,rfl⟩⟩
    have V:((es.push ⟨kv k,.slice none 0 0,c⟩).modify es.size λy=>{ y with val:=sv' })=es.push ⟨kv k,sv',c⟩:=by
      grind
    rw[V];refine⟨(B,.map (es.push ⟨kv k,sv',c⟩) (c+1))::(Q++A),⟨ks++[k],_,_,_,rfl,?_,λy Y=>?_,?_,m.push _ _⟩,.cons _ yaE_⟩
    . grind
    . grind
    . rw[ybY_]
      exact (hm.congr λq G=>jL_ (λ(e:q=k)=>hk (e▸G))).push rfl I
theorem cC_.nil (h:Nat) (c:Nat):cC_ kv cells e sz ([]:List (K×D)) h [(h,.map #[] c)]:=⟨[],#[],c,[],rfl,ybG_,by simp,rfl,Born.nil c⟩
def mlF (P:Program) (kt:TypeId) (kv:K->Value) (cells:D->List Value) (mb:Nat) (l:List (K×D)) (adr:K->Ao×Nat):Fct where
  p:=λv=>v.im mb/\∃ es c,v.w.heap[mb]? = some (.map es c)/\∀ k,bW_ v (adr k).1 ((lat l k).flatMap cells)/\
    ((di_ P kt (kv k) es.toList none/\Value.slice (adr k).1 (lat l k).length (adr k).2=.slice none 0 0)\/∃ i,di_ P kt (kv k) es.toList (some (i,.slice (adr k).1 (lat l k).length (adr k).2)))
  mono:=λv v' h ⟨h1,es,c,h2,h3⟩=>⟨h.imUp mb h1,es,c,by rw[h.block mb h1];exact h2,λk=>⟨(X_ _ _).mono v v' h (h3 k).1,(h3 k).2⟩⟩
theorem bj_ {P:Program} {kt:TypeId} {m:Nat} {adr:K->Ao×Nat} {v:Vw} (h:(mlF P kt kv cells m l adr).p v) (k:K):bW_ v (adr k).1 ((lat l k).flatMap cells):=by
  obtain⟨_,_,_,_,h⟩:=h
  grind
theorem xt_ {sv:Value} {n:Nat} {xs:List Value} {Hr:Hp} {v:Vw} (h:at_ e sz sv n xs Hr) (A:∀ p∈Hr,v.im p.1/\v.w.heap[p.1]? = some p.2):∃ ad cap,sv=.slice ad n cap/\n<=cap/\cap<=maxLen/\(n≠0->∃ b,ad=some ⟨b,0,none⟩)/\bW_ v ad xs:=by
 rcases h.2 with⟨rfl,rfl,rfl⟩|⟨g,cap,cur,rfl,rfl,m,B,F,C⟩
 .have:xs=[]:=yaw_ (by simpa using h.1)
  exact⟨none,0,rfl,yad_ _,by simp,λh=>absurd rfl h,.inl this⟩
 obtain⟨k,y⟩:=A _ (yam_.2 rfl);refine⟨some ⟨g,0,none⟩,cap,rfl,m,B,λ_=>⟨g,rfl⟩,.inr ⟨g,0,cur,e,(0,0),rfl,k,y,λj x E=>?_⟩⟩
 grind
theorem cC_.lentC {P:Program} {kt:TypeId} (J:KeyT P kt kv) {C:Nat} {H:Hp} (h:cC_ kv cells e sz l C H):∃ adr:K->Ao×Nat,(∀ k,(lat l k).length<=(adr k).2/\((adr k).1=none->(adr k).2=0))/\∀ v:Vw,(∀ p∈H,v.im p.1/\v.w.heap[p.1]? = some p.2)->(mlF P kt kv cells C l adr).p v:=by
 have O:=h;obtain⟨ks,es,c,S,rfl,M,hl,hm,_⟩:=O
 have m:∀ k,∃ q:Ao×Nat,((lat l k).length<=q.2/\(q.1=none->q.2=0))/\∀ v:Vw,(∀ p∈(C,Obj.map es c)::S,v.im p.1/\v.w.heap[p.1]? = some p.2)->bW_ v q.1 ((lat l k).flatMap cells)/\((di_ P kt (kv k) es.toList none/\Value.slice q.1 (lat l k).length q.2=.slice none 0 0)\/∃ i,di_ P kt (kv k) es.toList (some (i,.slice q.1 (lat l k).length q.2))):=λk=>by
   by_cases hk:k∈ks
   . obtain⟨i,hi⟩:=yaJ_ hk
     obtain⟨x,Hk,Hr,F,B,g3,L,_⟩:=hm.get M hi;have W:=J.sf k es.toList ks i x hm.keys M hi F
     have E:∃ ad cap,x.val=.slice ad (lat l k).length cap/\(lat l k).length<=cap/\(ad=none->cap=0):=by
       rcases L.2 with⟨Q,q2,_⟩|⟨g,cap,cur,Q,_,V,_⟩
       all_goals grind
     obtain⟨ad,cap,Y,A⟩:=E;refine⟨(ad,cap),A,λv y=>⟨?_,.inr ⟨i,by grind⟩⟩⟩;obtain⟨U,I,Z,_,_,_,X⟩:=xt_ L λp T=>y p (yaK_ _ (B.mem_iff.2 (yax_ _ T)))
     grind
   . have G:lat l k=[]:=by
       apply ybI_.2
       grind[cy_]
     exact⟨(none,0),⟨by grind,λ_=>rfl⟩,λv y=>⟨.inl zak_,.inl ⟨J.nf k es.toList ks hm.keys hk,by grind⟩⟩⟩
 refine⟨λk=>(m k).choose,λk=>(m k).choose_spec.1,λv y=>?_⟩;obtain⟨F,B⟩:=y _ yao_;exact⟨F,es,c,B,λk=>(m k).choose_spec.2 v y⟩
theorem cC_.lent {P:Program} {kt:TypeId} (m:KeyT P kt kv) {k:Nat} {H:Hp} (h:cC_ kv cells e sz l k H):∃ adr,∀ v:Vw,(∀ p∈H,v.im p.1/\v.w.heap[p.1]? = some p.2)->(mlF P kt kv cells k l adr).p v:=⟨_,(h.lentC m).choose_spec.2⟩
end
section
variable {P:Program} {K:Type} [DecidableEq K] {kv:K->Value} {kt:TypeId}
structure SetE (kv:K->Value) (es:Array MapEntry) (q:List K):Prop where
  keys:es.toList.map (·.key)=q.map kv
  vals:∀ x∈es.toList,x.val=.bool true
  nd:q.Nodup
theorem SetE.nil:SetE kv #[] ([]:List K):=⟨rfl,by simp,ybG_⟩
theorem SetE.size {es:Array MapEntry} {q:List K} (h:SetE kv es q):es.size=q.length:=by
  have:=yae_ List.length h.keys
  grind
theorem SetE.yes (A:KeyT P kt kv) {es:Array MapEntry} {q:List K} (h:SetE kv es q) {k:K} (hk:k∈q):∃ i x,q[i]? = some k/\es[i]? = some x/\x.key=kv k/\x.val=.bool true/\di_ P kt (kv k) es.toList (some (i,.bool true)):=by
  obtain⟨i,hi⟩:=yaJ_ hk
  have m:i<es.toList.length:=by
    have:=(yaf_.1 hi).1;have e:=yae_ List.length h.keys
    grind
  have B:=yaa_ m;have y:=h.vals _ (ycQ_ m)
  have v:es.toList[i].key=kv k:=by
    have:=yae_ (λl=>l[i]?) h.keys
    grind
  refine⟨i,es.toList[i],hi,by grind,v,y,?_⟩;have:=A.sf k es.toList q i _ h.keys h.nd hi B
  grind
theorem SetE.no (m:KeyT P kt kv) {es:Array MapEntry} {q:List K} (h:SetE kv es q) {k:K} (hk:k ∉ q):di_ P kt (kv k) es.toList none:=m.nf k es.toList q h.keys hk
theorem SetE.push {es:Array MapEntry} {q:List K} (h:SetE kv es q) {k:K} (hk:k ∉ q) (c:Nat):SetE kv (es.push ⟨kv k,.bool true,c⟩) (q++[k]):=by
 refine⟨by grind[keys],λx m=>?_,?_⟩
 .rw[ybY_,yai_]at m
  rcases m with m|m
  .exact h.vals x m
  grind
 grind[nd]
end
section ops
variable {P:Program} {N:Nf} {v0:Vw} {H0:Hp} {R:Exit->Act->World->Prop} {Kk:List Kt} {fr:Fr} {H:Hp} {Γ:List Fct}
variable {ops:Array Oper} {lo:List Oper} {d:Nat} {ty:TypeId} {ps:String} {af:Array Edge}
variable {K D:Type} [DecidableEq K] {kv:K->Value} {cells:D->List Value}
theorem bS_ {t kt I:TypeId} {x y:Operand} {F:Nat} {l:List (K×D)} {adr:K->Ao×Nat} {k:K} (G:KeyT P kt kv) (B:∀ w,(underlying t).run P w=.ok (.map kt I) w) (S:∀ w,(zeroValue I).run P w=.ok (.slice none 0 0) w) (E:Fr.ev fr x=some (.map (some F))) (A:Fr.ev fr y=some (kv k))
    (hm:∀ v,v.sat H->ag_ Γ v->(mlF P kt kv cells F l adr).p v):Yld P N fr H Γ (.lookup t x y false) ty (.slice (adr k).1 (lat l k).length (adr k).2) :=
  λa v h L Q _ _ _=>by
    obtain⟨_,es,c,J,M⟩:=hm v L Q;have C:=MapKept.run_getObj_map (P:=P) J;rcases (M k).2 with⟨m,O⟩|⟨i,m⟩
    . rw[O];simp[execOp,h.ev E,h.ev A,Instr.lookup,B,C,G.ok _ _ _,m _,S]
    . simp[execOp,h.ev E,h.ev A,Instr.lookup,B,C,G.ok _ _ _,m _]
theorem cU_ {t kt F:TypeId} {x y:Operand} {E c:Nat} {es:Array MapEntry} {q:List K} {k:K} (h:KeyT P kt kv) (A:∀ w,(underlying t).run P w=.ok (.map kt F) w) (I:∀ w,(zeroValue F).run P w=.ok (.bool false) w) (B:Fr.ev fr x=some (.map (some E))) (m:Fr.ev fr y=some (kv k))
    (C:SetE kv es q) (hm:∀ v,v.sat H->ag_ Γ v->v.w.heap[E]? = some (.map es c)):Yld P N fr H Γ (.lookup t x y false) ty (.bool (decide (k∈q))):=by
  by_cases hk:k∈q
  . obtain⟨i,_,_,_,_,_,G⟩:=C.yes h hk
    rw[yaW_ hk];exact ef_ A B m hm (h.ok k) G
  . rw[ybi_ hk]
    exact ep_ A I B m hm (h.ok k) (C.no h hk)
theorem za_ {t kt E:TypeId} {x:Operand} {h c:Nat} {es:Array MapEntry} (A:∀ w,(underlying t).run P w=.ok (.map kt E) w) (C:Fr.ev fr x=some (.map (some h))) (hm:∀ v,v.sat H->ag_ Γ v->v.w.heap[h]? = some (.map es c)) :
    Yld P N fr H Γ (.call ⟨.builtin .len,#[x],#[t]⟩) ty (.int .i64 (es.size:Int)) :=
  λa v y k m _ _ _=>by
    have B:=MapKept.run_getObj_map (P:=P) (hm v k m);simp[execOp,resolve,invoke,builtin,Builtin.len_,y.ev C,A,B,goInt]
theorem fA_ {o:Op} {t kt M:TypeId} {x y z:Operand} {b c i:Nat} (n:Nat) {es:Array MapEntry} {e:MapEntry} {k:K} {u u':Value} (G:KeyT P kt kv) (S:o=.insert t x y z\/o=.mapUpdate t x y z) (V:∀ w,(underlying t).run P w=.ok (.map kt M) w)
    (Y:Fr.ev fr x=some (.map (some b))) (U:Fr.ev fr y=some (kv k)) (O:Fr.ev fr z=some u) (hi:H[n]? = some (b,.map es c)) (Q:di_ P kt (kv k) es.toList (some (i,u'))) (E:es[i]? = some e) (C:e.key=kv k)
    (B:Ops P R N v0 H0 ops lo Kk fr (H.set n (b,.map (es.modify i λy=>{ y with key:=kv k,val:=u }) c)) Γ):Ops P R N v0 H0 ops (⟨none,o,ty,ps,af,none⟩::lo) Kk fr H Γ :=
  cQ_ rfl λa v h m W L=>by
    have A:=(m.own _ (yab_ hi)).1;have J:=MapKept.run_getObj_map (P:=P) A;have X:=MapKept.run_setObj_map (P:=P) (.map (es.modify i λy=>{ y with key:=kv k,val:=u }) c) A
    have E:(execOp a.eval ⟨none,o,ty,ps,af,none⟩).run P v.w=.ok .skip { v.w with heap:=v.w.heap.setIfInBounds b (.map (es.modify i λy=>{ y with key:=kv k,val:=u }) c) }:=by
      rcases S with rfl|rfl<;>simp[execOp,h.ev Y,h.ev U,h.ev O,Instr.mapUpdate,V,J,G.ok _ _ _,Q _,X,Instr.keyThatStays,E,C,G.same]
    unfold Oper.wp;rw[E];have I:=MapKept.heap_set (o':=.map (es.modify i λy=>{ y with key:=kv k,val:=u }) c) A;obtain⟨T,F⟩:=gj_ (w':={ v.w with heap:=v.w.heap.setIfInBounds b (.map (es.modify i λy=>{ y with key:=kv k,val:=u }) c) }) m hi rfl rfl rfl (yad_ _) zai_ I.1 (λk hk=>I.2 k hk);exact B a _ h T (W.trans F) (aT_ (F.le m) L)
theorem jm_ {es:Array MapEntry} {i:Nat} {e:MapEntry} {key val:Value} (k:es[i]? = some e) (hk:e.key=key) (m:e.val=val):(es.modify i λy=>{ y with key:=key,val:=val })=es:=by
 apply ycg_
 intro j;rw[ybo_]
 by_cases h:i=j
 .subst h;rw[yaq_ rfl,k];simp only[yaR_];rw[<-hk,<-m]
 grind
theorem hJ_ {o:Op} {t kt M:TypeId} {x y z:Operand} {b c:Nat} (n:Nat) {es:Array MapEntry} {q:List K} {k:K} (h:KeyT P kt kv) (A:o=.insert t x y z\/o=.mapUpdate t x y z) (C:∀ w,(underlying t).run P w=.ok (.map kt M) w)
    (F:Fr.ev fr x=some (.map (some b))) (B:Fr.ev fr y=some (kv k)) (I:Fr.ev fr z=some (.bool true)) (hi:H[n]? = some (b,.map es c)) (v:SetE kv es q)
    (m:∀ es' c',SetE kv es' (if k∈q then q else q++[k])->Ops P R N v0 H0 ops lo Kk fr (H.set n (b,.map es' c')) Γ):Ops P R N v0 H0 ops (⟨none,o,ty,ps,af,none⟩::lo) Kk fr H Γ:=by
  by_cases hk:k∈q
  . obtain⟨i,e,O,G,E,J,L⟩:=v.yes h hk
    refine fA_ n h A C F B I hi L G E ?_;rw[jm_ G E J]
    grind
  . exact aR_ n A C F B I hi (h.ok k) (v.no h hk) (m _ _ (by rw[yag_ hk];exact v.push hk c))
theorem fC_ {t kt S:TypeId} {x y:Operand} {m:Nat} {e:TypeId} {sz:Nat} {l:List (K×D)} {k:K} {Z F:Hp} (I:KeyT P kt kv) (hm:cC_ kv cells e sz l m Z) (X:∀ w,(underlying t).run P w=.ok (.map kt S) w) (hz:∀ w,(zeroValue S).run P w=.ok (.slice none 0 0) w)
    (Y:Fr.ev fr x=some (.map (some m))) (V:Fr.ev fr y=some (kv k)) (hH:H.Perm (Z++F)) (hN:Nat.blt d N.n=true)
    (hk:∀ es c i st sv E Hr,MOpn kv cells e sz l m k es c i st Hr->at_ e sz sv (lat l k).length ((lat l k).flatMap cells) E->Ops P R N v0 H0 ops lo Kk ((d,.tuple #[sv,.int .i64 st])::fr) ((m,.map es c)::(E++(Hr++F))) Γ) :
    Ops P R N v0 H0 ops (⟨some d,.mapEntry t x y,ty,ps,af,none⟩::lo) Kk fr H Γ:=by
  obtain⟨es,c,h,B,i,st,sv,E,Hr,p1,p2,p3,p4⟩:=hm.entry I k;refine cQ_ rfl λa v C h2 h3 h4=>?_
  have T:H.Perm ((m,.map es c)::(E++(Hr++F))):=hH.trans (by
    have:=p1.append_right F
    grind)
  have A:=h2.perm T;have G:=(A.own _ yao_).1;have O:=MapKept.run_getObj_map (P:=P) G
  have he:(execOp a.eval ⟨some d,.mapEntry t x y,ty,ps,af,none⟩).run P v.w=.ok (.value (.tuple #[sv,.int .i64 st])) { v.w with heap:=v.w.heap.setIfInBounds m (.map h B) }:=by
    rcases p4 with⟨L,rfl,rfl,rfl,rfl⟩|⟨j,z,L,q2,Q,rfl,rfl,rfl⟩
    . have M:=MapKept.run_setObj_map (P:=P) (.map (es.push ⟨kv k,.slice none 0 0,c⟩) (c+1)) G
      simp[execOp,C.ev Y,C.ev V,Instr.mapEntry,X,O,I.ok _ _ _,L _,hz,M,goInt]
    . have M:=MapKept.run_setObj_map (P:=P) (.map h B) G
      simp[execOp,C.ev Y,C.ev V,Instr.mapEntry,X,O,I.ok _ _ _,L _,Instr.keyThatStays,q2,Q,I.same,vh_ q2 Q,M,goInt]
  unfold Oper.wp;rw[he];have W:=MapKept.heap_set (o':=.map h B) G;obtain⟨U,J⟩:=gj_ (i:=0) (o':=.map h B) (w':={ v.w with heap:=v.w.heap.setIfInBounds m (.map h B) }) A rfl rfl rfl rfl (yad_ _) zai_ W.1 (λk hk=>W.2 k hk);simp only[yby_]at U J;exact hk h B i st sv E Hr p3 p2 _ _ (C.put hN) U (h3.trans (J.permL T.symm)) (aT_ (J.le A) h4)
theorem df_ {t:TypeId} {x y z:Operand} {h c i:Nat} {e:TypeId} {sz:Nat} {l:List (K×D)} {k:K} {dd:D} {es:Array MapEntry} {st:Int} {sv:Value} {C Hr F:Hp} (G:MOpn kv cells e sz l h k es c i st Hr) (X:at_ e sz sv (lat (l++[(k,dd)]) k).length ((lat (l++[(k,dd)]) k).flatMap cells) C)
    (hx:Fr.ev fr x=some (.map (some h))) (W:Fr.ev fr y=some (.int .i64 st)) (U:Fr.ev fr z=some sv) (L:H.Perm ((h,.map es c)::(C++(Hr++F))))
    (hk:∀ H',cC_ kv cells e sz (l++[(k,dd)]) h H'->Ops P R N v0 H0 ops lo Kk fr (H'++F) Γ):Ops P R N v0 H0 ops (⟨none,.entryStore t x y z,ty,ps,af,none⟩::lo) Kk fr H Γ:=by
  obtain⟨H',T,q2⟩:=G.close dd sv C X;refine cQ_ rfl λa v B O Y S=>?_;have m:=O.perm L;have A:=(m.own _ yao_).1;have Q:=MapKept.run_getObj_map (P:=P) A;have Z:=MapKept.run_setObj_map (P:=P) (.map (es.modify i λy=>{ y with val:=sv }) c) A
  have he:(execOp a.eval ⟨none,.entryStore t x y z,ty,ps,af,none⟩).run P v.w=.ok .skip { v.w with heap:=v.w.heap.setIfInBounds h (.map (es.modify i λy=>{ y with val:=sv }) c) }:=by
    have V:=G.find;simp[execOp,B.ev hx,B.ev W,B.ev U,Instr.entryStore,Q,Z,asInt,asIntOf,V]
  unfold Oper.wp;rw[he];have J:=MapKept.heap_set (o':=.map (es.modify i λy=>{ y with val:=sv }) c) A;obtain⟨I,E⟩:=gj_ (i:=0) (o':=.map (es.modify i λy=>{ y with val:=sv }) c) (w':={ v.w with heap:=v.w.heap.setIfInBounds h (.map (es.modify i λy=>{ y with val:=sv }) c) }) m rfl rfl rfl rfl (yad_ _) zai_ J.1 (λk hk=>J.2 k hk);simp only[yby_]at I E
  have M:((h,Obj.map (es.modify i λy=>{ y with val:=sv }) c)::(C++(Hr++F))).Perm (H'++F):=by
    have:=(q2.append_right F).symm
    grind
  exact hk H' T _ _ B (I.perm M) (Y.trans ((E.permL L.symm).subR λb A=>((M.map Prod.fst).mem_iff).2 A)) (aT_ (E.le m) S)
def MOp (P:Program) (kt:TypeId) (kv:K->Value) (cells:D->List Value) (e:TypeId) (sz:Nat) (l:List (K×D)) (mb:Nat) (k:K) (es:Array MapEntry) (c:Nat) (sv:Value) (Hr:Hp):Prop :=
  (di_ P kt (kv k) es.toList none/\sv=.slice none 0 0/\∀ d sv' Hk',at_ e sz sv' (lat (l++[(k,d)]) k).length ((lat (l++[(k,d)]) k).flatMap cells) Hk'->∃ H',cC_ kv cells e sz (l++[(k,d)]) mb H'/\H'.Perm ((mb,.map (es.push ⟨kv k,sv',c⟩) (c+1))::(Hk'++Hr)))\/
  (∃ i x,di_ P kt (kv k) es.toList (some (i,sv))/\es[i]? = some x/\x.key=kv k/\x.val=sv/\∀ d sv' Hk',at_ e sz sv' (lat (l++[(k,d)]) k).length ((lat (l++[(k,d)]) k).flatMap cells) Hk'->∃ H',cC_ kv cells e sz (l++[(k,d)]) mb H'/\H'.Perm ((mb,.map (es.modify i λy=>{ y with key:=kv k,val:=sv' }) c)::(Hk'++Hr)))
theorem fI_ {y:Act->World->Prop} {kt:TypeId} {v:Nat} {e:TypeId} {sz:Nat} {l:List (K×D)} {x F:Hp} (G:KeyT P kt kv) (k:K) (hm:cC_ kv cells e sz l v x) (C:H.Perm (x++F))
    (h:∀ es c sv m Hr,at_ e sz sv (lat l k).length ((lat l k).flatMap cells) m->MOp P kt kv cells e sz l v k es c sv Hr->Ok N v0 H0 y fr ((v,.map es c)::(m++(Hr++F))) Γ):Ok N v0 H0 y fr H Γ:=by
  obtain⟨es,c,sv,m,Hr,B,E,A⟩:=hm.open G k
  refine u_ (C.trans (by
    have:=B.append_right F
    grind)) (h es c sv m Hr E A)
theorem ce_ {t kt G:TypeId} {x y:Operand} {m c:Nat} {e:TypeId} {sz:Nat} {l:List (K×D)} {k:K} {es:Array MapEntry} {sv:Value} {Hr:Hp} (F:KeyT P kt kv) (I:MOp P kt kv cells e sz l m k es c sv Hr) (C:∀ w,(underlying t).run P w=.ok (.map kt G) w) (J:∀ w,(zeroValue G).run P w=.ok (.slice none 0 0) w)
    (E:Fr.ev fr x=some (.map (some m))) (B:Fr.ev fr y=some (kv k)) (i:Nat) (hi:H[i]? = some (m,.map es c)):Yld P N fr H Γ (.lookup t x y false) ty sv:=by
  have hm:∀ v,v.sat H->ag_ Γ v->v.w.heap[m]? = some (.map es c):=λv h _=>(h.own _ (yab_ hi)).1
  rcases I with⟨A,rfl,_⟩|⟨i,z,A,_⟩
  . exact ep_ C J E B hm (F.ok k) A
  . exact ef_ C E B hm (F.ok k) A
theorem dC_ {o:Op} {t kt S:TypeId} {x y z:Operand} {m c:Nat} {e:TypeId} {sz:Nat} {l:List (K×D)} {k:K} {dd:D} {es:Array MapEntry} {sv sv':Value} {v Hr F:Hp} (G:KeyT P kt kv) (T:MOp P kt kv cells e sz l m k es c sv Hr) (L:at_ e sz sv' (lat (l++[(k,dd)]) k).length ((lat (l++[(k,dd)]) k).flatMap cells) v)
    (h:o=.insert t x y z\/o=.mapUpdate t x y z) (M:∀ w,(underlying t).run P w=.ok (.map kt S) w) (O:Fr.ev fr x=some (.map (some m))) (J:Fr.ev fr y=some (kv k)) (I:Fr.ev fr z=some sv') (U:H.Perm ((m,.map es c)::(v++(Hr++F))))
    (hk:∀ H',cC_ kv cells e sz (l++[(k,dd)]) m H'->Ops P R N v0 H0 ops lo Kk fr (H'++F) Γ):Ops P R N v0 H0 ops (⟨none,o,ty,ps,af,none⟩::lo) Kk fr H Γ:=by
  refine u_ U ?_;rcases T with⟨C,_,A⟩|⟨i,q,C,V,Q,_,A⟩
  . obtain⟨H',B,E⟩:=A dd sv' v L
    refine aR_ 0 h M O J I rfl (G.ok k) C ?_;simp only[yby_];exact u_ (by have:=(E.append_right F).symm;grind) (hk H' B)
  . obtain⟨H',B,E⟩:=A dd sv' v L
    refine fA_ 0 G h M O J I rfl C V Q ?_;simp only[yby_];exact u_ (by have:=(E.append_right F).symm;grind) (hk H' B)
theorem cM_ {b:Nat×Obj} {O Q F:Hp} (h:H.Perm ((b::(O++Q))++F)):H.Perm (b::(O++(Q++F))):=by grind
theorem aW_ {b:Nat×Obj} {F:Hp} (h:H.Perm ([b]++F)):H.Perm (b::F):=h
theorem S_ {b:Nat×Obj} {F k:Hp} (h:H.Perm ([b]++F)) (m:F.Perm k):H.Perm (b::k):=List.Perm.trans h (m.cons b)
theorem qt_ {fn:Func} {k:Ending->World->Prop} {c:Code} (h:Run P (bodyPost P fn k) N v0 H0 c [] fr H Γ):Run P (bodyPost P fn k) N v0 H0 (.scope c) [] fr H Γ :=
  λa v A x B y=>wp_scope_straight (wp_mono (h a v A x B y) λe a w m=>by cases e<;>exact m)
theorem qv_ {c:Nat} (h:Fin P R N v0 H0 Kk fr H Γ):Run P R N v0 H0 (.label c) Kk fr H Γ :=
  λa v x k y m=>wp_label (h a v x k y m)
end ops
end Go.Sx
namespace Go.Vs
open Go Go.Sx
structure Rul where
  f:Str
  s:Str
  r:Str
  deriving DecidableEq
structure Itm where
  r:Str
  i:Nat
  j:Nat
  deriving DecidableEq
def Rul.cells (x:Rul):List Value:=[str x.f,str x.s,str x.r]
def Rul.val (x:Rul):Value:=.agg x.cells.toArray
theorem Rul.cells_len (x:Rul):x.cells.length=3:=rfl
def Itm.cells (x:Itm):List Value:=[str x.r,.int .i64 x.i,.int .i64 x.j]
theorem Itm.cells_len (x:Itm):x.cells.length=3:=rfl
def Ax.rul (x:Ax) (i:Nat):Rul:=⟨Lib.join (x.roles.take i) [46],x.roles.getD i [],if i+1=x.roles.length then x.role else Lib.join (x.roles.take (i+1)) [46]⟩
def fD_ {α:Type} [DecidableEq α] (y:α) (l:List α):List α:=if y∈l then l else l++[y]
def qe_ (y:Itm) (T Q:List Itm):List Itm:=if y∈T then Q else Q++[y]
theorem lF_ {α:Type} [DecidableEq α] {y z:α} {l:List α}:z∈fD_ y l↔z∈l\/z=y:=by
  grind[fD_]
theorem Dv_ {α:Type} [DecidableEq α] {y:α} {l:List α} (h:l.Nodup):(fD_ y l).Nodup:=by
  grind[fD_]
theorem lG_ {α:Type} [DecidableEq α] {y:α} {l:List α}:(fD_ y l).length<=l.length+1:=by
  grind[fD_]
def Itm.In (U:List Str) (n:Nat) (x:Itm):Prop:=x.r∈U/\x.i<=x.j/\x.j<=n
def uM_ (U:List Str) (n:Nat):List Itm:=U.flatMap λu=>(List.range (n+1)).flatMap λi=>(List.range (n+1)).map λj=>⟨u,i,j⟩
theorem pp_ {α β:Type} (g:α->List β) (c:Nat) (d:∀ x,(g x).length=c):∀ l:List α,(l.flatMap g).length=l.length*c
  | []=>by simp
  | x::l=>by rw[yaT_,yaj_,pp_ g c d l,d,yak_,ybE_,Nat.one_mul,Nat.add_comm]
theorem uL_ (U:List Str) (n:Nat):(uM_ U n).length=U.length*((n+1)*(n+1)) :=
  pp_ _ _ (λu=>by grind[pp_,List.length_range]) U
theorem AI_ {U:List Str} {n:Nat} {x:Itm} (h:x.In U n):x∈uM_ U n:=by
  unfold uM_;rw[yaB_];refine⟨x.r,h.1,?_⟩;rw[yaB_];have d:=h.2.1;have e:=h.2.2;exact⟨x.i,by grind,yan_.2 ⟨x.j,by grind,rfl⟩⟩
theorem yi_ {U:List Str} {n:Nat} {T:List Itm} (e:T.Nodup) (h:∀ x∈T,x.In U n):T.length<=U.length*((n+1)*(n+1)):=by
  rw[<-uL_];exact e.length_le_of_subset λx d=>AI_ (h x d)
section
variable {R:List Rul} {U:List Str} {n:Nat}
def Pr1 (n:Nat) (x:Itm) (T0:List Itm) (L:List Rul) (T:List Itm):Prop:=∀ y∈L,∀ e,x.j<=e->e<=n->(⟨y.s,x.j,e⟩:Itm)∈T0->(⟨y.r,x.i,e⟩:Itm)∈T
def Pr2 (x:Itm) (T0:List Itm) (L:List Rul) (T:List Itm):Prop:=∀ y∈L,∀ b,b<=x.i->(⟨y.f,b,x.i⟩:Itm)∈T0->(⟨y.r,b,x.j⟩:Itm)∈T
theorem Pr1.mono {x:Itm} {d T k:List Itm} {L:List Rul} (h:Pr1 n x d L T) (v:∀ y∈T,y∈k):Pr1 n x d L k:=λy A e B m C=>v _ (h y A e B m C)
theorem Pr2.mono {x:Itm} {d T e:List Itm} {L:List Rul} (h:Pr2 x d L T) (m:∀ y∈T,y∈e):Pr2 x d L e:=λy k b v A=>m _ (h y k b v A)
def muI (B:Nat) (T Q:List Itm):Nat:=2*(B - T.length)+Q.length
end
end Go.Vs
