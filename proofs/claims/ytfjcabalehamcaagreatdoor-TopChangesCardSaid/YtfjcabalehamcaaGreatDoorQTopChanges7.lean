/-
  Lemmas for the law TopChanges (no condition).
-/
import Derived.Test.YtfjcabalehamcaaGreatDoorQTopChanges6
import Derived.ArgAppend
set_option linter.unusedVariables false
set_option linter.unusedSimpArgs false
set_option linter.unusedSectionVars false
set_option maxHeartbeats 1000000
namespace Go.Sx
open Go
section
variable {P:Program} {N:Nf} {v0:Vw} {H0:Hp} {R:Exit->Act->World->Prop} {K:List Kt} {fr:Fr} {H F:Hp} {Γ:List Fct} {ops:Array Oper} {l:List Oper} {ty:TypeId} {ps:String} {af:Array Edge} {e:TypeId} {sz n:Nat} {sv:Value} {xs:List Value} {Hr:Hp}
theorem wl_ {α:Type} (l:List α) (k m:Nat) (u:α) (y:k<m) (hm:m<=l.length):(l.take k++[u]++l.drop (k+1)).take m=(l.take m).set k u:=by
 apply ybx_
 intro j;rw[ybg_,ybm_,yat_]
 by_cases d:j<m
 .rw[yaq_ d]
  by_cases x:j<k
  .rw[yaf_ zaa_,yap_,yaK_ zby_,ybg_,yaq_ x,ybg_,yaq_ d]
  by_cases v:j=k
  .subst v
   rw[yaq_ rfl,yaq_ zaa_,yap_,yaG_ zby_,yat_,ybn_ zaa_,ycP_];rfl
  rw[yaf_ zaa_,yaG_ (by rw[yaj_,yat_,ybO_];omega),yaj_,yat_,ybO_,ybP_,ybg_,yaq_ d,ybn_ zaa_]
  congr 1;omega
 rw[yaf_ d,yaf_ zaa_,ybg_,yaf_ d]
theorem cv_ {t:TypeId} {x y:Operand} {k:Nat} {u:Value} (d:ad_ e sz sv n xs Hr) (J:H.Perm (Hr++F)) (M:∀ w,(sizeOf t).run P w=.ok 1 w) (O:Fr.ev fr x=some (.pointer (some ⟨svB sv,k,none⟩))) (G:Fr.ev fr y=some u) (E:k<n*sz) (v:u.cells=#[u]) (m:u.oneCell'=true)
    (h:∀ Hr',ad_ e sz sv n (xs.set k u) Hr'->Ops P R N v0 H0 ops l K fr (Hr'++F) Γ):Ops P R N v0 H0 ops (⟨none,.store t x y,ty,ps,af,none⟩::l) K fr H Γ:=by
  rcases d.2 with⟨_,I,_⟩|⟨g,cap,cur,rfl,rfl,C,S,B,Q⟩
  . subst I;simp at E
  . have A:n*sz<=cap*sz:=ycI_ _ C
    refine t_ J (n_ (b:=g) (off:=k) 0 M O G rfl (by rw[v];rfl) ?_ (by rw[v];simp[m]) ?_)
    . have L:k+1<=cur.size:=by rw[B];omega
      simpa using L
    . rw[v]
      refine h [(g,.cells (cur.toList.take k++[u]++cur.toList.drop (k+1)).toArray e (0,0))] ⟨by rw[yaT_];exact d.1,.inr ⟨g,cap,_,rfl,rfl,C,S,?_,?_⟩⟩
      . simp only[ybF_,yaj_,yat_,ycn_,ybO_,ybU_,B];omega
      . show ((cur.toList.take k++[u]++cur.toList.drop (k+1)).toArray).toList.take (n*sz)=_
        rw[ycM_,wl_ _ _ _ _ E (by rw[ybU_,B];exact A),Q]
theorem ek_ {α:Type} (f:α->List Value) (z:Nat) (d:∀ x,(f x).length=z):∀ (l:List α) (i j:Nat) (x y:α) (u:Value),l[i]? = some x->j<z->f y=(f x).set j u->(l.flatMap f).set (i*z+j) u=(l.set i y).flatMap f
  | [],i,_,_,_,_,h,_,_=>by simp at h
  | a::l,0,j,x,y,u,h,hj,he=>by
    simp only[ybc_,yam_]at h;subst h;rw[yaV_,ybI_,yaV_,he,ydk_,yba_,List.set_append_left _ _ (by rw[d];exact hj)]
  | a::l,i+1,j,x,y,u,h,hj,he=>by
    simp only[ybb_]at h;rw[yaV_,ydi_,yaV_,<-ek_ f z d l i j x y u h hj he,List.set_append_right _ _ (by rw[d,ydC_];omega),d]
    congr 2
    rw[ydC_];omega
theorem yH_ {t y:TypeId} {x:Operand} {k d:IntKind} {m r:Int} {u:TypeDesc} (E:P.underlying t=some u) (A:P.underlying y=some (.int d)) (G:Fr.ev fr x=some (.int k m)) (B:IntKind.wrap d m=r):Yld P N fr H Γ (.convert t y x) ty (.int d r) :=
  λa v C _ _ _ _ _=>by subst B;simp[execOp,C.ev G,convert,run_underlying E,run_underlying A,Conv.intToInt]
end
end Go.Sx
namespace Go.Sx
open Go
section
variable {P:Program} {N:Nf} {v0:Vw} {H0:Hp} {R:Exit->Act->World->Prop} {K:List Kt} {fr:Fr} {H F:Hp} {Γ:List Fct} {ops:Array Oper} {l:List Oper} {ty:TypeId} {ps:String} {af:Array Edge} {e:TypeId} {sz n:Nat} {sv:Value} {xs:List Value} {Hr:Hp}
theorem uF_ {α:Type} (l us:List α) (k m:Nat) (d:k+us.length<=m) (hm:m<=l.length):(l.take k++us++l.drop (k+us.length)).take m=(l.take m).take k++us++(l.take m).drop (k+us.length):=by
  rw[ydl_,ybn_ zaa_,ydw_,yad_ (by simp only[yaj_,yat_];omega)]
  congr 1
  rw[List.drop_take]
  congr 1
  simp only[yaj_,yat_];omega
theorem sD_ {t:TypeId} {x y:Operand} {k:Nat} {us:List Value} (d:ad_ e sz sv n xs Hr) (J:H.Perm (Hr++F)) (M:∀ w,(sizeOf t).run P w=.ok sz w) (O:Fr.ev fr x=some (.pointer (some ⟨svB sv,k,none⟩))) (G:Fr.ev fr y=some (.agg us.toArray)) (Q:k+sz<=n*sz) (m:us.length=sz) (U:0<sz) (v:us.all Value.oneCell'=true)
    (h:∀ Hr',ad_ e sz sv n (xs.take k++us++xs.drop (k+sz)) Hr'->Ops P R N v0 H0 ops l K fr (Hr'++F) Γ):Ops P R N v0 H0 ops (⟨none,.store t x y,ty,ps,af,none⟩::l) K fr H Γ:=by
  rcases d.2 with⟨_,I,_⟩|⟨g,cap,cur,rfl,rfl,C,T,B,S⟩
  . subst I;simp only[ydk_]at Q;omega
  . have A:n*sz<=cap*sz:=ycI_ _ C
    have E:=d.1;refine t_ J (n_ (b:=g) (off:=k) (n:=sz) 0 M O G rfl (by simpa [Value.cells] using m) ?_ (by simpa [Value.cells] using v) ?_)
    . have L:k+sz<=cur.size:=by rw[B];omega
      simpa using L
    . refine h [(g,.cells (cur.toList.take k++us++cur.toList.drop (k+sz)).toArray e (0,0))] ⟨by simp only[yaj_,yat_,ycn_];omega,.inr ⟨g,cap,_,rfl,rfl,C,T,?_,?_⟩⟩
      . simp only[ybF_,yaj_,yat_,ycn_,ybU_,B];omega
      . show ((cur.toList.take k++us++cur.toList.drop (k+sz)).toArray).toList.take (n*sz)=_
        rw[ycM_,<-S];have:=uF_ cur.toList us k (n*sz) zaa_ (by rw[ybU_,B];exact A);rw[m]at this;exact this
theorem ui_ {α:Type} (f:α->List Value) (z:Nat) (d:∀ x,(f x).length=z):∀ (l:List α) (i:Nat) (y:α),i<l.length->(l.flatMap f).take (i*z)++f y++(l.flatMap f).drop (i*z+z)=(l.set i y).flatMap f
  | [],i,y,h=>by simp at h
  | a::l,0,y,h=>by
    rw[yaV_,ybI_,yaV_,ydk_,ycu_,ybC_,yba_,ydv_,yaP_ (by rw[d];exact yae_ _),d,ycP_];rfl
  | a::l,i+1,y,h=>by
    have m:i<l.length:=by simpa using h
    rw[yaV_,ydi_,yaV_,<-ui_ f z d l i y m,ydC_,ydw_,yad_ (by rw[d];omega),ydv_,yaP_ (by rw[d];omega),d];rw[show i*z+z - z=i*z by omega,show i*z+z+z - z=i*z+z by omega];simp[yap_]
end
end Go.Sx
namespace Go.Sx
open Go
section
variable {P:Program} {N:Nf} {v0:Vw} {H0:Hp} {R:Exit->Act->World->Prop} {K:List Kt} {fr:Fr} {H F:Hp} {Γ:List Fct} {ops:Array Oper} {l:List Oper} {d:Nat} {ty:TypeId} {ps:String} {af:Array Edge} {e:TypeId} {sz n:Nat} {sv:Value} {xs:List Value} {Hr:Hp}
inductive ORow (e:TypeId) (sz:Nat):Value->Nat->List Value->Hp->Prop
  | row {sv:Value} {n:Nat} {xs:List Value} {Hr:Hp} (h:ad_ e sz sv n xs Hr):ORow e sz sv n xs Hr
  | cut {g k n cap:Nat} {pre xs:List Value} {Hr:Hp} (hp:pre.length=k*sz) (h:ad_ e sz (.slice (some ⟨g,0,none⟩) (k+n) (k+cap)) (k+n) (pre++xs) Hr):ORow e sz (.slice (some ⟨g,k*sz,none⟩) n cap) n xs Hr
  | out {g k:Nat} {Hr:Hp}:ORow e sz (.slice (some ⟨g,k*sz,none⟩) 0 0) 0 [] Hr
theorem ORow.len (h:ORow e sz sv n xs Hr):xs.length=n*sz:=by
  cases h with
  | row h=>exact h.1
  | cut hp h=>have:=h.1;rw[yaj_,hp,ycf_]at this;omega
  | out=>simp
end
end Go.Sx
namespace Go.Sx
open Go
section
variable {P:Program} {N:Nf} {v0:Vw} {H0:Hp} {R:Exit->Act->World->Prop} {K:List Kt} {fr:Fr} {H F:Hp} {Γ:List Fct} {ops:Array Oper} {l:List Oper} {d:Nat} {ty:TypeId} {ps:String} {af:Array Edge} {e:TypeId} {sz n:Nat} {sv:Value} {xs:List Value} {Hr:Hp}
end
end Go.Sx
namespace Go.Vs
def cpG {α:Type} (q:α->α->Bool):α->List α->List α
  | _,[]=>[]
  | x,y::l=>if q y x then cpG q y l else y::cpG q y l
def cpL {α:Type} (q:α->α->Bool):List α->List α
  | []=>[]
  | x::l=>x::cpG q x l
theorem rO_ {α:Type} {q:α->α->Bool}:∀ (l:List α) (x z w:α),(x::l)[l.length]? = some w->cpG q x (l++[z])=cpG q x l++(if q z w then [] else [z])
 | [],x,z,w,h=>by
   simp only[yaB_,ybc_,yam_]at h;subst h;simp only[ybC_,cpG]
 | y::l,x,z,w,h=>by
   simp only[yai_,ybb_]at h;simp only[yav_,cpG];have:=rO_ (q:=q) l y z w h
   split
   . exact this
   . rw[this];rfl
theorem yb_ {α:Type} {q:α->α->Bool} {l:List α} {p:Nat} {w z:α} (v:l[p]? = some w) (A:l[p+1]? = some z):cpL q (l.take (p+2))=cpL q (l.take (p+1))++(if q z w then [] else [z]):=by
  cases l with
  | nil=>simp at v
  | cons x l =>
    have y:=(yab_.1 A).1;simp only[yai_]at y;simp only[ybb_]at A;have e:l.take (p+1)=l.take p++[z]:=by rw[yao_,A];rfl
    rw[ybd_,ybd_,cpL,cpL,e,yav_]
    congr 1
    have m:(l.take p).length=p:=by rw[yat_];omega
    refine rO_ (l.take p) x z w ?_;rw[m];cases p with
    | zero=>simpa using v
    | succ p =>
      simp only[ybb_]at v ⊢;rw[ybg_,yaq_ zaa_];exact v
structure CmI {α:Type} (q:α->α->Bool) (S M:List α) (k p:Nat):Prop where
  len:M.length=S.length
  kp:k<p
  pl:p<=S.length
  rest:∀ j,k<=j->M[j]? = S[j]?
  fst:M.take k=cpL q (S.take p)
theorem CmI.none {α:Type} {q:α->α->Bool} {S:List α} {k:Nat} {x y:α} (A:cpL q (S.take (k+1))=S.take (k+1)) (B:S[k]? = some x) (m:S[k+1]? = some y) (v:q y x=true):CmI q S S (k+1) (k+2) :=
  ⟨rfl,by omega,by have:=(yab_.1 m).1;omega,λ_ _=>rfl,by rw[yb_ B m,yaq_ v,yaL_,A]⟩
end Go.Vs
namespace Go.Vs
open Go Go.Sx
def Q_ (a b:Str):Fc:=⟨1,a,b,[],0,0⟩
def ak_ (a r b:Str):Fc:=⟨2,a,b,r,0,0⟩
def ag_ (a r:Str) (lo hi:Int):Fc:=⟨3,a,[],r,lo,hi⟩
inductive One (p:List Pc) (A:List Str) (S:Fc->Prop) (M:Fc->Fc->Prop):Fc->Prop
  | r1 {a:Str} (h:a∈A):One p A S M (Q_ a a)
  | r2 {a:Str} (h:a∈A):One p A S M (Q_ a [42])
  | r10 {a:Str} {x:Pc} (hx:x∈p) (hk:x.kind=7) (h:a∈A):One p A S M (ak_ a x.r a)
  | r3 {a:Str} {x:Pc} (hx:x∈p) (hk:x.kind=1) (h:S (Q_ a x.a)):One p A S M (Q_ a x.c)
  | r4 {a:Str} {x:Pc} (hx:x∈p) (hk:x.kind=2) (h:S (Q_ a x.a)) (h':S (Q_ a x.b)):One p A S M (Q_ a x.c)
  | r5 {a:Str} {x:Pc} (hx:x∈p) (hk:x.kind=3) (h:S (Q_ a x.a)):One p A S M (ak_ a x.r x.c)
  | r6 {a b:Str} {x:Pc} (hx:x∈p) (hk:x.kind=5) (h:S (ak_ a x.r b)):One p A S M (ak_ a x.t b)
  | r7 {a b c:Str} {x:Pc} (hx:x∈p) (hk:x.kind=6) (h:S (ak_ a x.r b)) (h':S (ak_ b x.s c)):One p A S M (ak_ a x.t c)
  | r8 {a b:Str} {x:Pc} (hx:x∈p) (hk:x.kind=4) (h:S (ak_ a x.r b)) (h':S (Q_ b x.a)):One p A S M (Q_ a x.c)
  | r9 {a r b:Str} (h:S (ak_ a r b)) (h':S (Q_ b [33])):One p A S M (Q_ a [33])
  | r11 {a:Str} {x:Pc} (hx:x∈p) (hk:x.kind=8) (h:S (Q_ a x.a)):One p A S M (ag_ a x.r x.lo x.hi)
  | r12 {a r:Str} {lo hi lo' hi':Int} (h:S (ag_ a r lo hi)) (h':S (ag_ a r lo' hi')) (hm:M (ag_ a r lo hi) (ag_ a r lo' hi')) (hl:max lo lo'<=min hi hi'):One p A S M (ag_ a r (max lo lo') (min hi hi'))
  | r13 {a r:Str} {lo hi lo' hi':Int} (h:S (ag_ a r lo hi)) (h':S (ag_ a r lo' hi')) (hm:M (ag_ a r lo hi) (ag_ a r lo' hi')) (hl:min hi hi'<max lo lo'):One p A S M (Q_ a [33])
  | r14 {a:Str} {lo hi:Int} {x:Pc} (hx:x∈p) (hk:x.kind=9) (h:S (ag_ a x.r lo hi)) (h1:x.lo<=lo) (h2:hi<=x.hi):One p A S M (Q_ a x.c)
abbrev hS_ (p:List Pc) (A:List Str) (S:Fc->Prop):Fc->Prop:=One p A S (λ_ _=>True)
theorem One.mono {p C:List Pc} {A G:List Str} {S B:Fc->Prop} {M F:Fc->Fc->Prop} (m:∀ x∈p,∃ y∈C,∃ n,{ y with frm:=n }=x) (v:∀ a∈A,a∈G) (hS:∀ y,S y->B y) (E:∀ x y,M x y->F x y) {y:Fc} (h:One p A S M y):One C G B F y:=by
  cases h with
  | r1 h=>exact .r1 (v _ h)
  | r2 h=>exact .r2 (v _ h)
  | r10 hx hk h=>obtain⟨z,d,n,rfl⟩:=m _ hx;exact One.r10 (x:=z) d hk (v _ h)
  | r3 hx hk h=>obtain⟨z,d,n,rfl⟩:=m _ hx;exact One.r3 (x:=z) d hk (hS _ h)
  | r4 hx hk h h'=>obtain⟨z,d,n,rfl⟩:=m _ hx;exact One.r4 (x:=z) d hk (hS _ h) (hS _ h')
  | r5 hx hk h=>obtain⟨z,d,n,rfl⟩:=m _ hx;exact One.r5 (x:=z) d hk (hS _ h)
  | r6 hx hk h=>obtain⟨z,d,n,rfl⟩:=m _ hx;exact One.r6 (x:=z) d hk (hS _ h)
  | r7 hx hk h h'=>obtain⟨z,d,n,rfl⟩:=m _ hx;exact One.r7 (x:=z) d hk (hS _ h) (hS _ h')
  | r8 hx hk h h'=>obtain⟨z,d,n,rfl⟩:=m _ hx;exact One.r8 (x:=z) d hk (hS _ h) (hS _ h')
  | r9 h h'=>exact .r9 (hS _ h) (hS _ h')
  | r11 hx hk h=>obtain⟨z,d,n,rfl⟩:=m _ hx;exact One.r11 (x:=z) d hk (hS _ h)
  | r12 h h' hm hl=>exact .r12 (hS _ h) (hS _ h') (E _ _ hm) hl
  | r13 h h' hm hl=>exact .r13 (hS _ h) (hS _ h') (E _ _ hm) hl
  | r14 hx hk h h1 h2=>obtain⟨z,d,n,rfl⟩:=m _ hx;exact One.r14 (x:=z) d hk (hS _ h) h1 h2
def Der (p:List Pc) (A:List Str) (y:Fc):Prop:=∀ T:Fc->Prop,(∀ y,hS_ p A T y->T y)->T y
theorem Der.step {p:List Pc} {A:List Str} {y:Fc} (h:hS_ p A (Der p A) y):Der p A y :=
  λT d=>d y (h.mono (λx m=>⟨x,m,x.frm,rfl⟩) (λ_ h=>h) (λz v=>v T d) (λ_ _ h=>h))
theorem Der.mono {p d:List Pc} {A m:List Str} (v:∀ x∈p,∃ y∈d,∃ n,{ y with frm:=n }=x) (B:∀ a∈A,a∈m) {y:Fc} (h:Der p A y):Der d m y :=
  h _ λ_ C=>Der.step (C.mono v B (λ_ h=>h) (λ_ _ h=>h))
theorem Der.least {p:List Pc} {A:List Str} {T:Fc->Prop} (d:∀ y,hS_ p A T y->T y) {y:Fc} (h:Der p A y):T y:=h T d
structure Ky where
  kind:Int
  role:Str
  atom:Str
deriving DecidableEq
abbrev jE_:=Str×Str
def lat {K D:Type} [DecidableEq K] (l:List (K×D)) (k:K):List D:=(l.filter λe=>decide (e.1=k)).map (·.2)
theorem cg_ {K D:Type} [DecidableEq K] {l:List (K×D)} {k:K} {d:D}:d∈lat l k↔(k,d)∈l:=by
  unfold lat;simp only[yas_,ybh_,ybo_];exact⟨λ⟨⟨a,b⟩,⟨v,m⟩,y⟩=>by subst m;subst y;exact v,λh=>⟨(k,d),⟨h,rfl⟩,rfl⟩⟩
theorem nx_ {K D:Type} [DecidableEq K] (l m:List (K×D)) (k:K):lat (l++m) k=lat l k++lat m k:=by simp[lat]
theorem eB_ {K D:Type} [DecidableEq K] (l:List (K×D)) (k:K):(lat l k).length<=l.length:=by
  simp only[lat,yaO_];exact ybN_ _ _
def cJ_ (x:Pc):List (Ky×Pc) :=
  if x.kind=1\/x.kind=3\/x.kind=8 then [(⟨x.kind,[],x.a⟩,x)]
  else if x.kind=2 then if x.b≠x.a then [(⟨x.kind,[],x.a⟩,x),(⟨x.kind,[],x.b⟩,x)] else [(⟨x.kind,[],x.a⟩,x)]
  else if x.kind=4 then [(⟨x.kind,[],x.a⟩,x),(⟨x.kind,x.r,x.a⟩,x)]
  else if x.kind=5\/x.kind=9 then [(⟨x.kind,x.r,[]⟩,x)]
  else if x.kind=6 then [(⟨x.kind,x.r,[]⟩,x),(⟨x.kind,[],x.s⟩,x)]
  else []
def Pc.zf (x:Pc):Pc:={ x with frm:=0 }
def uniq:List Pc->List Pc->List Pc
  | l,[]=>l
  | l,x::r=>uniq (if x.zf∈l then l else l++[x.zf]) r
theorem jL_:∀ (r l:List Pc) (x:Pc),x∈uniq l r↔x∈l\/∃ y∈r,y.zf=x
 | [],l,x=>by simp[uniq]
 | y::r,l,x=>by
   rw[uniq,jL_ r]
   by_cases h:y.zf∈l
   . rw[yaq_ h]
     constructor
     . rintro (d|⟨z,d,m⟩)
       . exact .inl d
       . exact .inr ⟨z,by simp[d],m⟩
     . rintro (d|⟨z,d,m⟩)
       . exact .inl d
       . rcases yan_.1 d with rfl|d
         . exact .inl (m▸h)
         . exact .inr ⟨z,d,m⟩
   . rw[yaf_ h]
     simp only[yag_,yan_,yaJ_,ybG_];constructor
     . rintro ((d|d)|⟨z,d,m⟩)
       . exact .inl d
       . exact .inr ⟨y,.inl rfl,d.symm⟩
       . exact .inr ⟨z,.inr d,m⟩
     . rintro (d|⟨z,d|d,m⟩)
       . exact .inl (.inl d)
       . subst d;exact .inl (.inr m.symm)
       . exact .inr ⟨z,d,m⟩
theorem jM_:∀ (r l:List Pc),(uniq l r).length<=l.length+r.length
  | [],l=>by simp[uniq]
  | y::r,l=>by
    rw[uniq];have:=jM_ r (if y.zf∈l then l else l++[y.zf]);have d:(if y.zf∈l then l else l++[y.zf]).length<=l.length+1:=by split<;>simp
    simp only[yai_];omega
def aC_ (ps:List Pc):List (Ky×Pc):=ps.flatMap cJ_
def ap_ (ps:List Pc):List Str:=(ps.filter λx=>decide (x.kind=7)).map (·.r)
theorem wQ_ (x:Pc):∀ e∈cJ_ x,e.2=x/\e.1.kind=x.kind:=by
  unfold cJ_
  repeat' split
  all_goals simp
theorem dK_ {x y:Pc} {k:Ky} (h:(k,y)∈cJ_ x):y=x/\k.kind=x.kind:=wQ_ x _ h
def Pc.rok (x:Pc):Prop:=(x.kind=4\/x.kind=5\/x.kind=6\/x.kind=9\/x.kind=3\/x.kind=7\/x.kind=8->x.r≠[])/\(x.kind=6->x.s≠[]/\x.t≠[])/\(x.kind=5->x.t≠[])
theorem gE_ {ps:List Pc} {k:Ky} {x:Pc}:x∈lat (aC_ ps) k↔x∈ps/\(k,x)∈cJ_ x:=by
 rw[cg_,aC_,yar_];constructor
 .rintro ⟨y,m,h⟩
  obtain⟨rfl,_⟩:=dK_ h;exact⟨m,h⟩
 rintro ⟨v,d⟩;exact⟨x,v,d⟩
theorem pm1 {ps:List Pc} {b:Str} {x:Pc}:x∈lat (aC_ ps) ⟨1,[],b⟩↔x∈ps/\x.kind=1/\x.a=b:=by
 rw[gE_];refine ybL_ λ_=>⟨λh=>?_,λ⟨h,m⟩=>?_⟩
 .have d:=(dK_ h).2
  simp only at d;simp[cJ_,<-d]at h
  exact⟨d.symm,h.symm⟩
 subst m;simp[cJ_,h]
theorem pm2 {ps:List Pc} {b:Str} {x:Pc}:x∈lat (aC_ ps) ⟨2,[],b⟩↔x∈ps/\x.kind=2/\(x.a=b\/x.b=b):=by
 rw[gE_];refine ybL_ λ_=>⟨λh=>?_,λ⟨h,m⟩=>?_⟩
 .have d:=(dK_ h).2
  simp only at d;simp[cJ_,<-d]at h
  split at h
  .simp at h;exact⟨d.symm,.inl h.symm⟩
  simp at h;rcases h with h|h
  .exact⟨d.symm,.inl h.symm⟩
  exact⟨d.symm,.inr h.symm⟩
 by_cases e:x.b=x.a
 .have:x.a=b:=m.elim id (λq=>e▸q)
  subst this;simp[cJ_,h,e]
 rcases m with rfl|rfl<;>simp[cJ_,h,e]
theorem pm3 {ps:List Pc} {b:Str} {x:Pc}:x∈lat (aC_ ps) ⟨3,[],b⟩↔x∈ps/\x.kind=3/\x.a=b:=by
 rw[gE_];refine ybL_ λ_=>⟨λh=>?_,λ⟨h,m⟩=>?_⟩
 .have d:=(dK_ h).2
  simp only at d;simp[cJ_,<-d]at h
  exact⟨d.symm,h.symm⟩
 subst m;simp[cJ_,h]
theorem pm8 {ps:List Pc} {b:Str} {x:Pc}:x∈lat (aC_ ps) ⟨8,[],b⟩↔x∈ps/\x.kind=8/\x.a=b:=by
 rw[gE_];refine ybL_ λ_=>⟨λh=>?_,λ⟨h,m⟩=>?_⟩
 .have d:=(dK_ h).2
  simp only at d;simp[cJ_,<-d]at h
  exact⟨d.symm,h.symm⟩
 subst m;simp[cJ_,h]
theorem pm5 {ps:List Pc} {r:Str} {x:Pc}:x∈lat (aC_ ps) ⟨5,r,[]⟩↔x∈ps/\x.kind=5/\x.r=r:=by
 rw[gE_];refine ybL_ λ_=>⟨λh=>?_,λ⟨h,m⟩=>?_⟩
 .have d:=(dK_ h).2
  simp only at d;simp[cJ_,<-d]at h
  exact⟨d.symm,h.symm⟩
 subst m;simp[cJ_,h]
theorem pm9 {ps:List Pc} {r:Str} {x:Pc}:x∈lat (aC_ ps) ⟨9,r,[]⟩↔x∈ps/\x.kind=9/\x.r=r:=by
 rw[gE_];refine ybL_ λ_=>⟨λh=>?_,λ⟨h,m⟩=>?_⟩
 .have d:=(dK_ h).2
  simp only at d;simp[cJ_,<-d]at h
  exact⟨d.symm,h.symm⟩
 subst m;simp[cJ_,h]
theorem pm6 {ps:List Pc} {r:Str} (v:r≠[]) {x:Pc}:x∈lat (aC_ ps) ⟨6,r,[]⟩↔x∈ps/\x.kind=6/\x.r=r:=by
 rw[gE_];refine ybL_ λy=>⟨λh=>?_,λ⟨h,m⟩=>?_⟩
 .have d:=(dK_ h).2
  simp only at d;simp[cJ_,<-d,v]at h
  exact⟨d.symm,h.symm⟩
 subst m;simp[cJ_,h]
theorem pm6' {ps:List Pc} {s:Str} {x:Pc} (v:s≠[]):x∈lat (aC_ ps) ⟨6,[],s⟩↔x∈ps/\x.kind=6/\x.s=s:=by
 rw[gE_];refine ybL_ λy=>⟨λh=>?_,λ⟨h,m⟩=>?_⟩
 .have d:=(dK_ h).2
  simp only at d;simp[cJ_,<-d,v]at h
  exact⟨d.symm,h.symm⟩
 subst m;simp[cJ_,h]
theorem pm4 {ps:List Pc} (v:∀ x∈ps,x.rok) {b:Str} {x:Pc}:x∈lat (aC_ ps) ⟨4,[],b⟩↔x∈ps/\x.kind=4/\x.a=b:=by
 rw[gE_];refine ybL_ λB=>⟨λh=>?_,λ⟨h,m⟩=>?_⟩
 .have d:=(dK_ h).2
  simp only at d;have y:=(v x B).1 (.inl d.symm);simp[cJ_,<-d]at h
  refine⟨d.symm,h.elim (λq=>q.symm) (λq=>absurd q.1 y)⟩
 subst m;simp[cJ_,h]
theorem pm4' {ps:List Pc} {r b:Str} (y:r≠[]) {x:Pc}:x∈lat (aC_ ps) ⟨4,r,b⟩↔x∈ps/\x.kind=4/\x.r=r/\x.a=b:=by
 rw[gE_];refine ybL_ λB=>⟨λh=>?_,λ⟨h,v,m⟩=>?_⟩
 .have d:=(dK_ h).2
  simp only at d;simp[cJ_,<-d,y]at h
  exact⟨d.symm,h.1.symm,h.2.symm⟩
 subst v m;simp[cJ_,h]
structure Ix where
  above:List (Str×Str)
  under:List (Str×Str)
  frm:List (jE_×Str)
  into:List (jE_×Str)
  ranges:List (jE_×Fc)
  firms:List (jE_×Fc)
def Ix.nil:Ix:=⟨[],[],[],[],[],[]⟩
def Ix.add (x:Ix) (firm:Bool) (f:Fc):Ix :=
  if f.kind=1 then { x with above:=x.above++[(f.a,f.b)] }
  else if f.kind=2 then { x with under:=x.under++[(f.b,f.a)],frm:=x.frm++[((f.a,f.r),f.b)],into:=x.into++[((f.b,f.r),f.a)] }
  else if f.kind=3 then { x with ranges:=x.ranges++[((f.a,f.r),f)],firms:=if firm then x.firms++[((f.a,f.r),f)] else x.firms }
  else x
structure Ix.of (x:Ix) (S Fm:Fc->Prop):Prop where
  above:∀ a b,(a,b)∈x.above↔∃ f,S f/\f.kind=1/\f.a=a/\f.b=b
  under:∀ b a,(b,a)∈x.under↔∃ f,S f/\f.kind=2/\f.a=a/\f.b=b
  frm:∀ a r b,((a,r),b)∈x.frm↔∃ f,S f/\f.kind=2/\f.a=a/\f.r=r/\f.b=b
  into:∀ a r b,((b,r),a)∈x.into↔∃ f,S f/\f.kind=2/\f.a=a/\f.r=r/\f.b=b
  ranges:∀ a r f,((a,r),f)∈x.ranges↔S f/\f.kind=3/\f.a=a/\f.r=r
  firms:∀ a r f,((a,r),f)∈x.firms↔S f/\Fm f/\f.kind=3/\f.a=a/\f.r=r
theorem Ix.of_nil (Fm:Fc->Prop):Ix.nil.of (λ_=>False) Fm:=by
  constructor<;>simp[Ix.nil]
theorem Ix.of_add {x:Ix} {S Fm:Fc->Prop} (h:x.of S Fm) (f:Fc) {b:Bool} (F:b=true↔Fm f):(x.add b f).of (λy=>S y\/y=f) Fm:=by
 have d:∀ (Q:Fc->Prop),(∃ y,(S y\/y=f)/\Q y)↔(∃ y,S y/\Q y)\/Q f:=λQ=>by
   constructor
   . rintro ⟨y,C|rfl,B⟩
     . exact .inl ⟨y,C,B⟩
     . exact .inr B
   . rintro (⟨y,C,B⟩|B)
     . exact⟨y,.inl C,B⟩
     . exact⟨f,.inr rfl,B⟩
 unfold Ix.add
 split
 .rename_i v
  constructor
  .intro a c;rw[d,<-h.above];simp[v];exact ycJ_ ⟨λ⟨p,q⟩=>⟨p.symm,q.symm⟩,λ⟨p,q⟩=>⟨p.symm,q.symm⟩⟩
  .intro a c;rw[d,<-h.under];simp[v]
  .intro a r c;rw[d,<-h.frm];simp[v]
  .intro a r c;rw[d,<-h.into];simp[v]
  .intro a r y;rw[h.ranges];constructor
   .exact λq=>⟨.inl q.1,q.2⟩
   rintro ⟨q|rfl,m⟩
   .exact⟨q,m⟩
   rw[v]at m;exact absurd m.1 zac_
  intro a r y;rw[h.firms];constructor
  .exact λq=>⟨.inl q.1,q.2⟩
  rintro ⟨q|rfl,m⟩
  .exact⟨q,m⟩
  rw[v]at m;exact absurd m.2.1 zac_
 split
 .rename_i v
  constructor
  .intro a c;rw[d,<-h.above];simp[v]
  .intro a c;rw[d,<-h.under];simp[v];exact ycJ_ ⟨λ⟨p,q⟩=>⟨q.symm,p.symm⟩,λ⟨p,q⟩=>⟨q.symm,p.symm⟩⟩
  .intro a r c;rw[d,<-h.frm];simp[v];exact ycJ_ ⟨λ⟨⟨p,q⟩,s⟩=>⟨p.symm,q.symm,s.symm⟩,λ⟨p,q,s⟩=>⟨⟨p.symm,q.symm⟩,s.symm⟩⟩
  .intro a r c;rw[d,<-h.into];simp[v];exact ycJ_ ⟨λ⟨⟨p,q⟩,s⟩=>⟨s.symm,q.symm,p.symm⟩,λ⟨p,q,s⟩=>⟨⟨s.symm,q.symm⟩,p.symm⟩⟩
  .intro a r y;rw[h.ranges];constructor
   .exact λq=>⟨.inl q.1,q.2⟩
   rintro ⟨q|rfl,m⟩
   .exact⟨q,m⟩
   rw[v]at m;exact absurd m.1 zac_
  intro a r y;rw[h.firms];constructor
  .exact λq=>⟨.inl q.1,q.2⟩
  rintro ⟨q|rfl,m⟩
  .exact⟨q,m⟩
  rw[v]at m;exact absurd m.2.1 zac_
 split
 .rename_i v
  constructor
  .intro a c;rw[d,<-h.above];simp[v]
  .intro a c;rw[d,<-h.under];simp[v]
  .intro a r c;rw[d,<-h.frm];simp[v]
  .intro a r c;rw[d,<-h.into];simp[v]
  .intro a r y
   simp only[yag_,yak_,h.ranges,ybD_];constructor
   .rintro (⟨q,m⟩|⟨⟨rfl,rfl⟩,rfl⟩)
    .exact⟨.inl q,m⟩
    exact⟨.inr rfl,v,rfl,rfl⟩
   rintro ⟨q|rfl,m,rfl,rfl⟩
   .exact .inl ⟨q,m,rfl,rfl⟩
   exact .inr ⟨⟨rfl,rfl⟩,rfl⟩
  intro a r y;cases b with
  | false =>
    simp only[ybl_,yca_,h.firms];constructor
    . exact λq=>⟨.inl q.1,q.2⟩
    . rintro ⟨q|rfl,m⟩
      . exact⟨q,m⟩
      . exact absurd (F.2 m.1) zac_
  | true =>
    simp only[yck_,yag_,yak_,h.firms,ybD_];constructor
    . rintro (⟨q,m⟩|⟨⟨rfl,rfl⟩,rfl⟩)
      . exact⟨.inl q,m⟩
      . exact⟨.inr rfl,F.1 rfl,v,rfl,rfl⟩
    . rintro ⟨q|rfl,m,G,rfl,rfl⟩
      . exact .inl ⟨q,m,G,rfl,rfl⟩
      . exact .inr ⟨⟨rfl,rfl⟩,rfl⟩
 rename_i C B E
 constructor
 .intro a c;rw[d,<-h.above];simp[C]
 .intro a c;rw[d,<-h.under];simp[B]
 .intro a r c;rw[d,<-h.frm];simp[B]
 .intro a r c;rw[d,<-h.into];simp[B]
 .intro a r y;rw[h.ranges];constructor
  .exact λq=>⟨.inl q.1,q.2⟩
  rintro ⟨q|rfl,m⟩
  .exact⟨q,m⟩
  exact absurd m.1 E
 intro a r y;rw[h.firms];constructor
 .exact λq=>⟨.inl q.1,q.2⟩
 rintro ⟨q|rfl,m⟩
 .exact⟨q,m⟩
 exact absurd m.2.1 E
theorem Ix.of_firm {x:Ix} {S Fm d:Fc->Prop} (h:x.of S Fm) (m:∀ y,S y->(Fm y↔d y)):x.of S d :=
  ⟨h.above,h.under,h.frm,h.into,h.ranges,λa r f=>by rw[h.firms];exact ybL_ λv=>by rw[m f v]⟩
section
variable (pm:List (Ky×Pc)) (x:Ix) (f:Fc)
def hb_:List Fc:=(lat pm ⟨1,[],f.b⟩).map λy=>Q_ f.a y.c
def or_:List Fc:=(lat pm ⟨3,[],f.b⟩).map λy=>ak_ f.a y.r y.c
def gY_:List Fc:=(lat pm ⟨5,f.r,[]⟩).map λy=>ak_ f.a y.t f.b
def fG_:List Fc:=(lat pm ⟨6,f.r,[]⟩).flatMap λy=>(lat x.frm (f.b,y.s)).map λc=>ak_ f.a y.t c
def hJ_:List Fc:=(lat pm ⟨6,[],f.r⟩).flatMap λy=>(lat x.into (f.a,y.r)).map λa=>ak_ a y.t f.b
def fM_:List Fc:=(lat x.above f.b).flatMap λc=>(lat pm ⟨4,f.r,c⟩).map λy=>Q_ f.a y.c
def fN_:List Fc:=(lat pm ⟨4,[],f.b⟩).flatMap λy=>(lat x.into (f.a,y.r)).map λa=>Q_ a y.c
def cW_:List Fc:=if f.b=[33] then (lat x.under f.a).map λa=>Q_ a [33] else []
def vi_:List Fc:=((lat pm ⟨9,f.r,[]⟩).filter λy=>decide (y.lo<=f.lo/\f.hi<=y.hi)).map λy=>Q_ f.a y.c
def dg_ (y:Fc):Fc:=ag_ f.a f.r (max f.lo y.lo) (min f.hi y.hi)
def eF_ (y:Fc):Bool:=decide (min f.hi y.hi<max f.lo y.lo)
def ep_ (firm:Bool):List Fc:=if firm then lat x.ranges (f.a,f.r) else lat x.firms (f.a,f.r)
def gw_ (l:List Fc):List Fc:=(l.filter λy=>!eF_ f y&&decide (dg_ f y≠f/\dg_ f y≠y)).map (dg_ f)
def hL_ (l:List Fc):List Fc:=if l.any (eF_ f) then [Q_ f.a [33]] else []
end
section
variable (stp:Fc->List Fc->List Fc) (kof:List Fc->List Fc)
def emits (L:List Fc) (s:List Fc):List Fc:=L.foldl (λs y=>stp y s) s
def ee_ (f:Fc) (l:List Pc) (s:List Fc):List Fc:=l.foldl (λs y=>if Q_ f.a y.a∈kof s/\Q_ f.a y.b∈kof s then stp (Q_ f.a y.c) s else s) s
def bX_ (f:Fc) (l:List Pc) (s:List Fc×List Fc):List Fc×List Fc:=l.foldl (λs y=>(stp (ag_ f.a y.r y.lo y.hi) s.1,if ag_ f.a y.r y.lo y.hi∈kof s.1 then s.2 else ag_ f.a y.r y.lo y.hi::s.2)) s
end
theorem ay_ (stp:Fc->List Fc->List Fc) (L M:List Fc) (s:List Fc):emits stp (L++M) s=emits stp M (emits stp L s):=by simp[emits]
structure Grows (stp:Fc->List Fc->List Fc) (kof:List Fc->List Fc):Prop where
  up:∀ y s z,z∈kof s->z∈kof (stp y s)
theorem Grows.emits {stp:Fc->List Fc->List Fc} {kof:List Fc->List Fc} (h:Grows stp kof):∀ (L s:List Fc) (z:Fc),z∈kof s->z∈kof (emits stp L s)
  | [],_,_,hz=>hz
  | y::L,s,z,hz=>h.emits L _ z (h.up y s z hz)
theorem fq_ {stp:Fc->List Fc->List Fc} {kof:List Fc->List Fc} (h:Grows stp kof) (f:Fc):∀ (l:List Pc) (s:List Fc),
    ∃ L,ee_ stp kof f l s=emits stp L s/\(∀ y∈L,∃ x∈l,y=Q_ f.a x.c/\Q_ f.a x.a∈kof (ee_ stp kof f l s)/\Q_ f.a x.b∈kof (ee_ stp kof f l s))/\(∀ x∈l,Q_ f.a x.a∈kof s->Q_ f.a x.b∈kof s->Q_ f.a x.c∈L)
  | [],s=>⟨[],rfl,by simp,by simp⟩
  | x::l,s=>by
    by_cases v:Q_ f.a x.a∈kof s/\Q_ f.a x.b∈kof s
    . obtain⟨L,E,F,G⟩:=fq_ h f l (stp (Q_ f.a x.c) s)
      have e:ee_ stp kof f (x::l) s=ee_ stp kof f l (stp (Q_ f.a x.c) s):=by simp only[ee_,ycw_,yaq_ v]
      refine⟨Q_ f.a x.c::L,by rw[e,E];rfl,λy m=>?_,λz d C B=>?_⟩
      . rw[e]
        rcases yan_.1 m with rfl|m
        . refine⟨x,by simp,rfl,?_,?_⟩<;>rw[E]<;>exact h.emits L _ _ (h.up _ _ _ (by first|exact v.1|exact v.2))
        . obtain⟨z,d,q⟩:=F y m
          exact⟨z,by simp[d],q⟩
      . rcases yan_.1 d with rfl|d
        . simp
        . exact yaA_ _ (G z d (h.up _ _ _ C) (h.up _ _ _ B))
    . obtain⟨L,E,F,G⟩:=fq_ h f l s
      have e:ee_ stp kof f (x::l) s=ee_ stp kof f l s:=by simp only[ee_,ycw_,yaf_ v]
      refine⟨L,by rw[e,E],λy m=>?_,λz d C B=>?_⟩
      . rw[e]
        obtain⟨z,d,q⟩:=F y m;exact⟨z,by simp[d],q⟩
      . rcases yan_.1 d with rfl|d
        . exact absurd ⟨C,B⟩ v
        . exact G z d C B
theorem eO_ (stp:Fc->List Fc->List Fc) (kof:List Fc->List Fc) (f:Fc):∀ (l:List Pc) (s fm:List Fc),(bX_ stp kof f l (s,fm)).1=emits stp (l.map λy=>ag_ f.a y.r y.lo y.hi) s
  | [],_,_=>rfl
  | x::l,s,fm=>by
    simp only[bX_,ycw_,yaF_,emits];exact eO_ stp kof f l _ _
theorem hm_ {stp:Fc->List Fc->List Fc} {kof:List Fc->List Fc} (h:Grows stp kof) (f:Fc):∀ (l:List Pc) (s fm:List Fc) (z:Fc),z∈(bX_ stp kof f l (s,fm)).2↔z∈fm\/(z ∉ kof s/\z∈(bX_ stp kof f l (s,fm)).2)
 | [],s,fm,z=>by simp[bX_]
 | x::l,s,fm,z=>by
   have v:=hm_ h f l (stp (ag_ f.a x.r x.lo x.hi) s) (if ag_ f.a x.r x.lo x.hi∈kof s then fm else ag_ f.a x.r x.lo x.hi::fm) z;have e:bX_ stp kof f (x::l) (s,fm)=bX_ stp kof f l (stp (ag_ f.a x.r x.lo x.hi) s,if ag_ f.a x.r x.lo x.hi∈kof s then fm else ag_ f.a x.r x.lo x.hi::fm):=rfl;rw[e];constructor
   . intro m
     rcases v.1 m with d|d
     . split at d
       . exact .inl d
       . rename_i y
         rcases yan_.1 d with rfl|d
         . exact .inr ⟨y,m⟩
         . exact .inl d
     . exact .inr ⟨λq=>d.1 (h.up _ _ _ q),m⟩
   . rintro (d|d)
     . exact v.2 (.inl (by split<;>simp[d]))
     . exact d.2
theorem mH_ {stp:Fc->List Fc->List Fc} {kof:List Fc->List Fc} (f:Fc):∀ (l:List Pc) (s fm:List Fc) (z:Fc),z∈(bX_ stp kof f l (s,fm)).2->z∈fm\/∃ y∈l,z=ag_ f.a y.r y.lo y.hi
 | [],s,fm,z,hz=>.inl hz
 | x::l,s,fm,z,hz=>by
   have e:bX_ stp kof f (x::l) (s,fm)=bX_ stp kof f l (stp (ag_ f.a x.r x.lo x.hi) s,if ag_ f.a x.r x.lo x.hi∈kof s then fm else ag_ f.a x.r x.lo x.hi::fm):=rfl;rw[e]at hz;rcases mH_ f l _ _ z hz with d|⟨y,m,d⟩
   . split at d
     . exact .inl d
     . rcases yan_.1 d with rfl|d
       . exact .inr ⟨x,by simp,rfl⟩
       . exact .inl d
   . exact .inr ⟨y,by simp[m],d⟩
def Fc.form (y:Fc):Prop:=(∃ a b,y=Q_ a b)\/(∃ a r b,y=ak_ a r b/\r≠[])\/(∃ a r lo hi,y=ag_ a r lo hi/\r≠[]/\-1099511627776<=lo/\lo<=hi/\hi<=1099511627776)
structure Pc.vok (x:Pc):Prop where
  rok:x.rok
  num:x.kind=8\/x.kind=9->-1099511627776<=x.lo/\x.lo<=x.hi/\x.hi<=1099511627776
theorem eq_ (a b:Str):(Q_ a b).form:=.inl ⟨a,b,rfl⟩
theorem nH_ {f:Fc} (h:f.form) (d:f.kind=1):f=Q_ f.a f.b:=by
 rcases h with⟨a,b,rfl⟩|⟨a,r,b,rfl,_⟩|⟨a,r,lo,hi,rfl,_⟩
 .rfl
 .simp[ak_]at d
 simp[ag_]at d
theorem lR_ {f:Fc} (h:f.form) (d:f.kind=2):f=ak_ f.a f.r f.b/\f.r≠[]:=by
 rcases h with⟨a,b,rfl⟩|⟨a,r,b,rfl,h⟩|⟨a,r,lo,hi,rfl,_⟩
 .simp[Q_]at d
 .exact⟨rfl,h⟩
 simp[ag_]at d
theorem hN_ {f:Fc} (h:f.form) (d:f.kind=3):f=ag_ f.a f.r f.lo f.hi/\f.r≠[]/\-1099511627776<=f.lo/\f.lo<=f.hi/\f.hi<=1099511627776:=by
 rcases h with⟨a,b,rfl⟩|⟨a,r,b,rfl,_⟩|⟨a,r,lo,hi,rfl,h⟩
 .simp[Q_]at d
 .simp[ak_]at d
 exact⟨rfl,h⟩
theorem iT_ {f:Fc} (h:f.form):f.kind=1\/f.kind=2\/f.kind=3:=by
  rcases h with⟨a,b,rfl⟩|⟨a,r,b,rfl,h⟩|⟨a,r,lo,hi,rfl,_⟩<;>simp[Q_,ak_,ag_]
theorem One.form {p:List Pc} {A:List Str} {S:Fc->Prop} {M:Fc->Fc->Prop} (m:∀ x∈p,x.vok) (hS:∀ y,S y->y.form) {y:Fc} (h:One p A S M y):y.form:=by
  have d:∀ {a r:Str} {lo hi:Int},S (ag_ a r lo hi)->r≠[]/\-1099511627776<=lo/\lo<=hi/\hi<=1099511627776:=λh=>(hN_ (hS _ h) rfl).2
  cases h with
  | r1 _=>exact eq_ _ _
  | r2 _=>exact eq_ _ _
  | r10 hx hk _=>exact .inr (.inl ⟨_,_,_,rfl,(m _ hx).rok.1 (by simp[hk])⟩)
  | r3 _ _ _=>exact eq_ _ _
  | r4 _ _ _ _=>exact eq_ _ _
  | r5 hx hk _=>exact .inr (.inl ⟨_,_,_,rfl,(m _ hx).rok.1 (by simp[hk])⟩)
  | r6 hx hk _=>exact .inr (.inl ⟨_,_,_,rfl,(m _ hx).rok.2.2 hk⟩)
  | r7 hx hk _ _=>exact .inr (.inl ⟨_,_,_,rfl,((m _ hx).rok.2.1 hk).2⟩)
  | r8 _ _ _ _=>exact eq_ _ _
  | r9 _ _=>exact eq_ _ _
  | r11 hx hk _=>exact .inr (.inr ⟨_,_,_,_,rfl,(m _ hx).rok.1 (by simp[hk]),(m _ hx).num (.inl hk)⟩)
  | r12 h h' _ hl=>exact .inr (.inr ⟨_,_,_,_,rfl,(d h).1,by have:=d h;omega,hl,by have:=d h;omega⟩)
  | r13 _ _ _ _=>exact eq_ _ _
  | r14 _ _ _ _ _=>exact eq_ _ _
section
variable {ps:List Pc} {A:List Str} {x:Ix} {S Fm:Fc->Prop} {f:Fc} {kn:List Fc}
theorem oc_ (m:f.kind=1) (v:f.form) (d:f∈kn):∀ y∈hb_ (aC_ ps) f,hS_ ps A (·∈kn) y:=by
  intro y C;obtain⟨z,G,rfl⟩:=yas_.1 C;obtain⟨E,B,F⟩:=pm1.1 G;exact .r3 E B zbA_
theorem sq_ (m:f.kind=1) (v:f.form) (d:f∈kn):∀ y∈or_ (aC_ ps) f,hS_ ps A (·∈kn) y:=by
  intro y C;obtain⟨z,G,rfl⟩:=yas_.1 C;obtain⟨E,B,F⟩:=pm3.1 G;exact .r5 E B zbA_
theorem qv_ (m:f.kind=1) (v:f.form) (d:f∈kn):∀ y∈(lat (aC_ ps) ⟨8,[],f.b⟩).map (λy=>ag_ f.a y.r y.lo y.hi),hS_ ps A (·∈kn) y:=by
  intro y C;obtain⟨z,G,rfl⟩:=yas_.1 C;obtain⟨E,B,F⟩:=pm8.1 G;exact .r11 E B zbA_
theorem nZ_ (m:f.kind=2) (v:f.form) (d:f∈kn):∀ y∈gY_ (aC_ ps) f,hS_ ps A (·∈kn) y:=by
  intro y C;obtain⟨z,G,rfl⟩:=yas_.1 C;obtain⟨E,B,F⟩:=pm5.1 G;exact .r6 E B (by rw[F,<-(lR_ v m).1];exact d)
theorem mk_ {hS:∀ y,S y->y.form} {a r b:Str} (h:∃ g,S g/\g.kind=2/\g.a=a/\g.r=r/\g.b=b):S (ak_ a r b):=by
  obtain⟨g,d,m,rfl,rfl,rfl⟩:=h;rw[<-(lR_ (hS g d) m).1];exact d
theorem ix_sub {hS:∀ y,S y->y.form} {a b:Str} (h:∃ g,S g/\g.kind=1/\g.a=a/\g.b=b):S (Q_ a b):=by
  obtain⟨g,d,m,rfl,rfl⟩:=h;rw[<-nH_ (hS g d) m];exact d
theorem rW_ (H:x.of S Fm) (hS:∀ y,S y->y.form) (v:∀ y,S y->y∈kn) (K:f.kind=2) (J:f.form) (m:f∈kn):∀ y∈fG_ (aC_ ps) x f++hJ_ (aC_ ps) x f,hS_ ps A (·∈kn) y:=by
 intro y d;obtain⟨e,I⟩:=lR_ J K;rcases yag_.1 d with d|d
 .obtain⟨z,G,d⟩:=yar_.1 d
  obtain⟨c,F,rfl⟩:=yas_.1 d;obtain⟨E,B,C⟩:=(pm6 I).1 G;exact .r7 E B (by rw[C,<-e];exact m) (v _ (mk_ (hS:=hS) ((H.frm _ _ _).1 (cg_.1 F))))
 obtain⟨z,G,d⟩:=yar_.1 d;obtain⟨c,F,rfl⟩:=yas_.1 d;obtain⟨E,B,C⟩:=(pm6' I).1 G;exact .r7 E B (v _ (mk_ (hS:=hS) ((H.into _ _ _).1 (cg_.1 F)))) (by rw[C,<-e];exact m)
theorem nJ_ (F:x.of S Fm) (hS:∀ y,S y->y.form) (m:∀ y,S y->y∈kn) (H:f.kind=2) (B:f.form) (d:f∈kn):∀ y∈fM_ (aC_ ps) x f,hS_ ps A (·∈kn) y:=by
  intro y v;obtain⟨e,G⟩:=lR_ B H;obtain⟨c,K,v⟩:=yar_.1 v;obtain⟨z,L,rfl⟩:=yas_.1 v;obtain⟨J,C,E,I⟩:=(pm4' G).1 L;exact .r8 (b:=f.b) J C (by rw[E,<-e];exact d) (by rw[I];exact m _ (ix_sub (hS:=hS) ((F.above _ _).1 (cg_.1 K))))
theorem nK_ (F:∀ x∈ps,x.vok) (B:x.of S Fm) (hS:∀ y,S y->y.form) (m:∀ y,S y->y∈kn) (H:f.kind=1) (C:f.form) (d:f∈kn):∀ y∈fN_ (aC_ ps) x f,hS_ ps A (·∈kn) y:=by
  intro y v;obtain⟨z,K,v⟩:=yar_.1 v;obtain⟨c,J,rfl⟩:=yas_.1 v;obtain⟨I,E,G⟩:=(pm4 (λx B=>(F x B).rok)).1 K;exact .r8 (b:=f.a) I E (m _ (mk_ (hS:=hS) ((B.into _ _ _).1 (cg_.1 J)))) (by rw[G,<-nH_ C H];exact d)
theorem ma_ (G:x.of S Fm) (hS:∀ y,S y->y.form) (v:∀ y,S y->y∈kn) (H:f.kind=1) (B:f.form) (m:f∈kn):∀ y∈cW_ x f,hS_ ps A (·∈kn) y:=by
 intro y d;unfold cW_ at d
 split at d
 .rename_i F
  obtain⟨a,I,rfl⟩:=yas_.1 d;obtain⟨g,K,C,E,J⟩:=(G.under _ _).1 (cg_.1 I);exact .r9 (r:=g.r) (v _ (mk_ (hS:=hS) ⟨g,K,C,E,rfl,J⟩)) (by rw[<-F,<-nH_ B H];exact m)
 simp at d
theorem lZ_ (m:f.kind=2) (v:f.form) (d:f∈kn) (h:Q_ f.b [33]∈kn):hS_ ps A (·∈kn) (Q_ f.a [33]) :=
  .r9 (r:=f.r) (b:=f.b) (by rw[<-(lR_ v m).1];exact d) h
theorem vh_ (B:f.kind=3) (C:f.form) (m:f∈kn):∀ y∈vi_ (aC_ ps) f,hS_ ps A (·∈kn) y:=by
  intro y F;obtain⟨z,v,rfl⟩:=yas_.1 F;obtain⟨v,d⟩:=ybh_.1 v;obtain⟨G,E,H⟩:=pm9.1 v;have d:=ybf_ d;exact .r14 G E (by rw[H,<-(hN_ C B).1];exact m) d.1 d.2
theorem kS_ (m:x.of S Fm) {firm:Bool} {y:Fc} (d:y∈ep_ x f firm):S y/\y.kind=3/\y.a=f.a/\y.r=f.r:=by
 unfold ep_ at d
 split at d
 .exact (m.ranges _ _ _).1 (cg_.1 d)
 have:=(m.firms _ _ _).1 (cg_.1 d);exact⟨this.1,this.2.2⟩
theorem sK_ (J:x.of S Fm) (hS:∀ y,S y->y.form) (B:∀ y,S y->y∈kn) (L:f.kind=3) (K:f.form) (m:f∈kn) {firm:Bool}:∀ y∈gw_ f (ep_ x f firm)++hL_ f (ep_ x f firm),hS_ ps A (·∈kn) y:=by
 intro y d;have e:=(hN_ K L).1;rcases yag_.1 d with d|d
 .obtain⟨z,E,rfl⟩:=yas_.1 d
  obtain⟨E,F⟩:=ybh_.1 E;obtain⟨C,G,H,I⟩:=kS_ J E;simp only[eF_,yaS_,ybV_,ybB_,Int.not_lt]at F;have v:=(hN_ (hS z C) G).1;rw[H,I]at v;exact .r12 (by rw[<-e];exact m) (by rw[<-v];exact B z C) trivial F.1
 unfold hL_ at d
 split at d
 .rename_i M
  obtain⟨z,E,F⟩:=ycl_.1 M;obtain⟨C,G,H,I⟩:=kS_ J E;have v:=(hN_ (hS z C) G).1;rw[H,I]at v;simp only[yak_]at d;subst d;exact .r13 (r:=f.r) (by rw[<-e];exact m) (by rw[<-v];exact B z C) trivial (by simpa [eF_] using F)
 simp at d
theorem rR_ {z:Pc} {a:Str} (m:z∈ps) (d:z.kind=1):Q_ a z.c∈hb_ (aC_ ps) (Q_ a z.a) :=
  yas_.2 ⟨z,pm1.2 ⟨m,d,rfl⟩,rfl⟩
theorem wx_ {z:Pc} {a:Str} (m:z∈ps) (d:z.kind=3):ak_ a z.r z.c∈or_ (aC_ ps) (Q_ a z.a) :=
  yas_.2 ⟨z,pm3.2 ⟨m,d,rfl⟩,rfl⟩
theorem uB_ {z:Pc} {a:Str} (m:z∈ps) (d:z.kind=8):ag_ a z.r z.lo z.hi∈(lat (aC_ ps) ⟨8,[],(Q_ a z.a).b⟩).map (λy=>ag_ (Q_ a z.a).a y.r y.lo y.hi) :=
  yas_.2 ⟨z,pm8.2 ⟨m,d,rfl⟩,rfl⟩
theorem rC_ {z:Pc} {a b:Str} (m:z∈ps) (d:z.kind=5):ak_ a z.t b∈gY_ (aC_ ps) (ak_ a z.r b) :=
  yas_.2 ⟨z,pm5.2 ⟨m,d,rfl⟩,rfl⟩
theorem to_ (y:x.of S Fm) (v:∀ x∈ps,x.vok) {z:Pc} {a b c:Str} (m:z∈ps) (d:z.kind=6) (h:S (ak_ b z.s c)):ak_ a z.t c∈fG_ (aC_ ps) x (ak_ a z.r b) :=
  yar_.2 ⟨z,(pm6 ((v z m).rok.1 zaK_)).2 ⟨m,d,rfl⟩,yas_.2 ⟨c,cg_.2 ((y.frm _ _ _).2 ⟨_,h,rfl,rfl,rfl,rfl⟩),rfl⟩⟩
theorem tn_ (y:x.of S Fm) (v:∀ x∈ps,x.vok) {z:Pc} {a b c:Str} (m:z∈ps) (d:z.kind=6) (h:S (ak_ a z.r b)):ak_ a z.t c∈hJ_ (aC_ ps) x (ak_ b z.s c) :=
  yar_.2 ⟨z,(pm6' ((v z m).rok.2.1 d).1).2 ⟨m,d,rfl⟩,yas_.2 ⟨a,cg_.2 ((y.into _ _ _).2 ⟨_,h,rfl,rfl,rfl,rfl⟩),rfl⟩⟩
theorem pS_ (y:x.of S Fm) (v:∀ x∈ps,x.vok) {z:Pc} {a b:Str} (m:z∈ps) (d:z.kind=4) (h:S (Q_ b z.a)):Q_ a z.c∈fM_ (aC_ ps) x (ak_ a z.r b) :=
  yar_.2 ⟨z.a,cg_.2 ((y.above _ _).2 ⟨_,h,rfl,rfl,rfl⟩),yas_.2 ⟨z,(pm4' ((v z m).rok.1 zaK_)).2 ⟨m,d,rfl,rfl⟩,rfl⟩⟩
theorem pT_ (d:x.of S Fm) (v:∀ x∈ps,x.vok) {z:Pc} {a b:Str} (y:z∈ps) (m:z.kind=4) (h:S (ak_ a z.r b)):Q_ a z.c∈fN_ (aC_ ps) x (Q_ b z.a) :=
  yar_.2 ⟨z,(pm4 (λx d=>(v x d).rok)).2 ⟨y,m,rfl⟩,yas_.2 ⟨a,cg_.2 ((d.into _ _ _).2 ⟨_,h,rfl,rfl,rfl,rfl⟩),rfl⟩⟩
theorem oa_ (d:x.of S Fm) {a r b:Str} (h:S (ak_ a r b)):Q_ a [33]∈cW_ x (Q_ b [33]):=by
  unfold cW_;rw[yaq_ (show (Q_ b [33]).b=[33] from rfl)];exact yas_.2 ⟨a,cg_.2 ((d.under _ _).2 ⟨_,h,rfl,rfl,rfl⟩),rfl⟩
theorem zD_ {z:Pc} {a:Str} {lo hi:Int} (y:z∈ps) (d:z.kind=9) (v:z.lo<=lo) (m:hi<=z.hi):Q_ a z.c∈vi_ (aC_ ps) (ag_ a z.r lo hi) :=
  yas_.2 ⟨z,ybh_.2 ⟨pm9.2 ⟨y,d,rfl⟩,yaE_ ⟨v,m⟩⟩,rfl⟩
theorem oJ_ (E:x.of S Fm) {firm:Bool} (d:firm=true↔Fm f) {y:Fc} (B:S y) (m:y.kind=3) (v:y.a=f.a) (C:y.r=f.r) (hm:Fm f\/Fm y):y∈ep_ x f firm:=by
  unfold ep_;cases firm with
  | true=>rw[yaq_ rfl];exact cg_.2 ((E.ranges _ _ _).2 ⟨B,m,v,C⟩)
  | false =>
    rw[yaf_ zac_];refine cg_.2 ((E.firms _ _ _).2 ⟨B,hm.resolve_left (λq=>?_),m,v,C⟩);exact absurd (d.2 q) zac_
theorem rq_ {l:List Fc} {y:Fc} (v:y∈l) :
    (max f.lo y.lo<=min f.hi y.hi->dg_ f y∈gw_ f l\/dg_ f y=f\/dg_ f y=y)/\(min f.hi y.hi<max f.lo y.lo->Q_ f.a [33]∈hL_ f l):=by
  refine⟨λh=>?_,λh=>?_⟩
  . by_cases d:dg_ f y=f
    . exact .inr (.inl d)
    . by_cases m:dg_ f y=y
      . exact .inr (.inr m)
      . refine .inl (yas_.2 ⟨y,ybh_.2 ⟨v,?_⟩,rfl⟩)
        simp only[eF_,yaS_,ybV_,ybB_,Int.not_lt,ybo_];exact⟨h,d,m⟩
  . unfold hL_
    rw[yaq_ (ycl_.2 ⟨y,v,by simpa [eF_] using h⟩)];simp
end
section
variable (stp:Fc->List Fc->List Fc) (kof:List Fc->List Fc) (pm:List (Ky×Pc)) (x:Ix) (f:Fc)
def rl (j:Nat) (s:List Fc×List Fc):List Fc×List Fc :=
  if f.kind=1 then
    (match j with
    | 0=>(emits stp (hb_ pm f) s.1,s.2)
    | 1=>(ee_ stp kof f (lat pm ⟨2,[],f.b⟩) s.1,s.2)
    | 2=>(emits stp (or_ pm f) s.1,s.2)
    | 3=>(emits stp (fN_ pm x f) s.1,s.2)
    | 4=>(emits stp (cW_ x f) s.1,s.2)
    | _=>bX_ stp kof f (lat pm ⟨8,[],f.b⟩) s)
  else if f.kind=2 then
    (match j with
    | 0=>(emits stp (gY_ pm f) s.1,s.2)
    | 1=>(emits stp (fG_ pm x f++hJ_ pm x f) s.1,s.2)
    | 2=>(emits stp (fM_ pm x f) s.1,s.2)
    | _=>(if Q_ f.b [33]∈kof s.1 then stp (Q_ f.a [33]) s.1 else s.1,s.2))
  else
    (match j with
    | 0=>(emits stp (gw_ f (ep_ x f (decide (f∈s.2)))++hL_ f (ep_ x f (decide (f∈s.2)))) s.1,s.2)
    | _=>(emits stp (vi_ pm f) s.1,s.2))
def rls:Nat->List Fc×List Fc->List Fc×List Fc
  | 0,s=>s
  | j+1,s=>rl stp kof pm x f j (rls j s)
def nrl:Nat:=if f.kind=1 then 6 else if f.kind=2 then 4 else 2
end
structure Cmpl (ps:List Pc) (S Fm kn good:Fc->Prop) (f:Fc):Prop where
  c3:∀ z a,z∈ps->z.kind=1->f=Q_ a z.a->good (Q_ a z.c)
  c4:∀ z a,z∈ps->z.kind=2->f=Q_ a z.a->kn (Q_ a z.b)->good (Q_ a z.c)
  c4':∀ z a,z∈ps->z.kind=2->f=Q_ a z.b->kn (Q_ a z.a)->good (Q_ a z.c)
  c5:∀ z a,z∈ps->z.kind=3->f=Q_ a z.a->good (ak_ a z.r z.c)
  c6:∀ z a b,z∈ps->z.kind=5->f=ak_ a z.r b->good (ak_ a z.t b)
  c7:∀ z a b c,z∈ps->z.kind=6->f=ak_ a z.r b->S (ak_ b z.s c)->good (ak_ a z.t c)
  c7':∀ z a b c,z∈ps->z.kind=6->f=ak_ b z.s c->S (ak_ a z.r b)->good (ak_ a z.t c)
  c8:∀ z a b,z∈ps->z.kind=4->f=ak_ a z.r b->S (Q_ b z.a)->good (Q_ a z.c)
  c8':∀ z a b,z∈ps->z.kind=4->f=Q_ b z.a->S (ak_ a z.r b)->good (Q_ a z.c)
  c9:∀ a r b,f=ak_ a r b->kn (Q_ b [33])->good (Q_ a [33])
  c9':∀ a r b,f=Q_ b [33]->S (ak_ a r b)->good (Q_ a [33])
  c11:∀ z a,z∈ps->z.kind=8->f=Q_ a z.a->good (ag_ a z.r z.lo z.hi)
  c12:∀ y,f.kind=3->S y->y.kind=3->y.a=f.a->y.r=f.r->(Fm f\/Fm y)->max f.lo y.lo<=min f.hi y.hi->good (dg_ f y)
  c13:∀ y,f.kind=3->S y->y.kind=3->y.a=f.a->y.r=f.r->(Fm f\/Fm y)->min f.hi y.hi<max f.lo y.lo->good (Q_ f.a [33])
  c14:∀ z a lo hi,z∈ps->z.kind=9->f=ag_ a z.r lo hi->z.lo<=lo->hi<=z.hi->good (Q_ a z.c)
section
variable {stp:Fc->List Fc->List Fc} {kof:List Fc->List Fc} {ps:List Pc} {A:List Str} {x:Ix} {S Fm:Fc->Prop} {f:Fc}
theorem qP_ (d:Grows stp kof) (j:Nat) (s:List Fc×List Fc):∃ L,(rl stp kof (aC_ ps) x f j s).1=emits stp L s.1:=by
 unfold rl
 split
 .split
  .exact⟨_,rfl⟩
  .obtain⟨L,h,_⟩:=fq_ d f (lat (aC_ ps) ⟨2,[],f.b⟩) s.1
   exact⟨L,h⟩
  .exact⟨_,rfl⟩
  .exact⟨_,rfl⟩
  .exact⟨_,rfl⟩
  exact⟨_,eO_ stp kof f _ s.1 s.2⟩
 split
 .split
  .exact⟨_,rfl⟩
  .exact⟨_,rfl⟩
  .exact⟨_,rfl⟩
  simp only
  split
  .exact⟨[Q_ f.a [33]],rfl⟩
  exact⟨[],rfl⟩
 split
 .exact⟨_,rfl⟩
 exact⟨_,rfl⟩
theorem kL_ (m:Grows stp kof) (j:Nat) (s:List Fc×List Fc):∃ L,(rls stp kof (aC_ ps) x f j s).1=emits stp L s.1:=by
  induction j with
  | zero=>exact⟨[],rfl⟩
  | succ j ih =>
    obtain⟨L,h⟩:=ih;obtain⟨M,d⟩:=qP_ (ps:=ps) (x:=x) (f:=f) m j (rls stp kof (aC_ ps) x f j s);exact⟨L++M,by rw[rls,d,h,ay_]⟩
theorem kK_ (d:Grows stp kof) (j:Nat) (s:List Fc×List Fc) (z:Fc) (m:z∈kof s.1):z∈kof (rls stp kof (aC_ ps) x f j s).1:=by
  obtain⟨L,h⟩:=kL_ (ps:=ps) (x:=x) (f:=f) d j s;rw[h];exact d.emits L _ z m
theorem qO_ (j:Nat) (s:List Fc×List Fc) (h:f.kind=1->j<=5):(rls stp kof (aC_ ps) x f j s).2=s.2:=by
 induction j with
 | zero=>rfl
 | succ j ih =>
   rw[<-ih (λd=>by have:=h d;omega),rls,rl.eq_def]
   split
   . rename_i d
     have:=h d
     match j,this with
     | 0,_=>rfl
     | 1,_=>rfl
     | 2,_=>rfl
     | 3,_=>rfl
     | 4,_=>rfl
   . split
     . split<;>rfl
     . split<;>rfl
theorem wG_ (P:Grows stp kof) (T:∀ x∈ps,x.vok) (I:x.of S Fm) (s:List Fc×List Fc) (U:∀ y,S y->(Fm y↔y∈s.2)) (Q:S f) (O:∀ y,S y->y∈kof s.1) (good:Fc->Prop) (hS:∀ y,S y->good y)
    (H:∀ j,j<nrl f->∀ L,(rls stp kof (aC_ ps) x f (j+1) s).1=emits stp L (rls stp kof (aC_ ps) x f j s).1->∀ y∈L,good y) :
    Cmpl ps S Fm (·∈kof s.1) good f:=by
  have K:∀ k j,f.kind=k->j<nrl f->∀ L,(rl stp kof (aC_ ps) x f j (rls stp kof (aC_ ps) x f j s)).1=emits stp L (rls stp kof (aC_ ps) x f j s).1->∀ y∈L,good y:=λk j _ hj L hL=>H j hj L (by rw[rls];exact hL)
  have J:f.kind=1->nrl f=6:=λh=>by simp[nrl,h]
  have N:f.kind=2->nrl f=4:=λh=>by simp[nrl,h]
  have Y:f.kind=3->nrl f=2:=λh=>by simp[nrl,h]
  have k1:∀ {a b},f=Q_ a b->f.kind=1:=λe=>by rw[e];rfl
  have k2:∀ {a r b},f=ak_ a r b->f.kind=2:=λe=>by rw[e];rfl
  have k3:∀ {a r lo hi},f=ag_ a r lo hi->f.kind=3:=λe=>by rw[e];rfl
  have E:∀ z a,z∈ps->z.kind=2->f.kind=1->f.a=a->(z.a=f.b\/z.b=f.b)->Q_ a z.a∈kof s.1->Q_ a z.b∈kof s.1->good (Q_ a z.c):=by
    intro z a v m d M hb W V;subst M;obtain⟨L,X,e2,e3⟩:=fq_ P f (lat (aC_ ps) ⟨2,[],f.b⟩) (rls stp kof (aC_ ps) x f 1 s).1;exact K 1 1 d zbd_ L (by rw[rl.eq_def,yaq_ d];exact X) _ (e3 z (pm2.2 ⟨v,m,hb⟩) (kK_ P 1 s _ W) (kK_ P 1 s _ V))
  have Z:f.kind=3->(∀ y∈gw_ f (ep_ x f (decide (f∈s.2)))++hL_ f (ep_ x f (decide (f∈s.2))),good y):=λF =>
    K 3 0 F (by rw[Y F];decide) _ (by rw[rl.eq_def,yaf_ (by rw[F];decide),yaf_ (by rw[F];decide)];rfl)
  have B:decide (f∈s.2)=true↔Fm f:=by rw[ybo_];exact (U f Q).symm
  refine⟨?_,?_,?_,?_,?_,?_,?_,?_,?_,?_,?_,?_,?_,?_,?_⟩
  . intro z a v m e
    have d:=k1 e;exact K 1 0 d zbd_ (hb_ (aC_ ps) f) zaW_ _ (by rw[e];exact rR_ v m)
  . intro z a v m e h
    have d:=k1 e;exact E z a v m d zbB_ (by rw[e];exact .inl rfl) (by rw[<-e];exact O f Q) h
  . intro z a v m e h
    have d:=k1 e;exact E z a v m d zbB_ (by rw[e];exact .inr rfl) h (by rw[<-e];exact O f Q)
  . intro z a v m e
    have d:=k1 e;exact K 1 2 d zbd_ (or_ (aC_ ps) f) zaW_ _ (by rw[e];exact wx_ v m)
  . intro z a b v m e
    have d:=k2 e;exact K 2 0 d zbr_ (gY_ (aC_ ps) f) zaE_ _ (by rw[e];exact rC_ v m)
  . intro z a b c v m e h
    have d:=k2 e;exact K 2 1 d zbr_ (fG_ (aC_ ps) x f++hJ_ (aC_ ps) x f) zaE_ _ (yal_ _ (by rw[e];exact to_ I T v m h))
  . intro z a b c v m e h
    have d:=k2 e;exact K 2 1 d zbr_ (fG_ (aC_ ps) x f++hJ_ (aC_ ps) x f) zaE_ _ (yay_ _ (by rw[e];exact tn_ I T v m h))
  . intro z a b v m e h
    have d:=k2 e;exact K 2 2 d zbr_ (fM_ (aC_ ps) x f) zaE_ _ (by rw[e];exact pS_ I T v m h)
  . intro z a b v m e h
    have d:=k1 e;exact K 1 3 d zbd_ (fN_ (aC_ ps) x f) zaW_ _ (by rw[e];exact pT_ I T v m h)
  . intro a r b e h
    have d:=k2 e;have X:Q_ f.b [33]∈kof (rls stp kof (aC_ ps) x f 3 s).1:=kK_ P 3 s _ (by rw[e];exact h);exact K 2 3 d zbr_ [Q_ f.a [33]] (by rw[rl.eq_def,yaf_ (by rw[d];decide),yaq_ d];simp only[yaq_ X];rfl) _ (by rw[e];simp[ak_])
  . intro a r b e h
    have d:=k1 e;exact K 1 4 d zbd_ (cW_ x f) zaW_ _ (by rw[e];exact oa_ I h)
  . intro z a v m e
    have d:=k1 e;exact K 1 5 d zbd_ ((lat (aC_ ps) ⟨8,[],f.b⟩).map λy=>ag_ f.a y.r y.lo y.hi) (by rw[rl.eq_def,yaq_ d];exact eO_ stp kof f _ _ _) _ (by rw[e];exact uB_ v m)
  . intro y F R m M G hm hl
    have C:=oJ_ I B R m M G hm;rcases (rq_ (f:=f) C).1 hl with q|q|q
    . exact Z F _ (yal_ _ q)
    . rw[q];exact hS f Q
    . rw[q];exact hS y R
  . intro y F R m M G hm hl
    have C:=oJ_ I B R m M G hm;exact Z F _ (yay_ _ ((rq_ (f:=f) C).2 hl))
  . intro z a lo hi v m e W V
    have d:=k3 e;exact K 3 1 d (by rw[Y d];decide) (vi_ (aC_ ps) f) (by rw[rl.eq_def,yaf_ (by rw[d];decide),yaf_ (by rw[d];decide)]<;>rfl) _ (by rw[e];exact zD_ v m W V)
end
end Go.Vs
namespace Go.Vs
open Go Go.Sx
def bm_ (m:Nat) (y:Fc) (q:List Fc):List Fc:=if q.length<=m/\y ∉ q then q++[y] else q
abbrev idk:List Fc->List Fc:=λq=>q
theorem qB_ (m:Nat) (y:Fc) (q:List Fc):∃ t,bm_ m y q=q++t:=by
 unfold bm_;split
 .exact⟨[y],rfl⟩
 exact⟨[],by simp⟩
theorem ks_ (m:Nat):∀ (L q:List Fc),∃ t,emits (bm_ m) L q=q++t
  | [],q=>⟨[],by simp[emits]⟩
  | y::L,q=>by
    obtain⟨t,h⟩:=qB_ m y q;obtain⟨u,d⟩:=ks_ m L (bm_ m y q);exact⟨t++u,by rw[<-yap_,<-h,<-d];rfl⟩
theorem fw_ (m:Nat):Grows (bm_ m) idk:=⟨λy s z d=>by obtain⟨t,h⟩:=qB_ m y s;rw[h];exact yal_ _ d⟩
theorem gz_ (m:Nat):∀ (L q:List Fc) (z:Fc),z∈emits (bm_ m) L q->z∈q\/z∈L
 | [],q,z,h=>.inl h
 | y::L,q,z,h=>by
   rcases gz_ m L (bm_ m y q) z h with h|h
   . unfold bm_ at h
     split at h
     . rcases yag_.1 h with h|h
       . exact .inl h
       . exact .inr (by simp at h;simp[h])
     . exact .inl h
   . exact .inr (yaA_ _ h)
theorem iV_ (m:Nat):∀ (L q:List Fc),q.Nodup->(emits (bm_ m) L q).Nodup
 | [],q,h=>h
 | y::L,q,h=>by
   refine iV_ m L (bm_ m y q) ?_;unfold bm_
   split
   . rename_i B
     rw[yaY_];exact⟨h,by simp,λa v b d e=>by simp at d;subst d;subst e;exact B.2 v⟩
   . exact h
theorem pU_ (m:Nat):∀ (L q:List Fc),q.length<=m+1->(emits (bm_ m) L q).length<=m+1
 | [],q,h=>h
 | y::L,q,h=>by
   refine pU_ m L (bm_ m y q) ?_;unfold bm_
   split
   . rename_i d;simp;exact d.1
   . exact h
theorem iW_ (m:Nat):∀ (L q:List Fc),(emits (bm_ m) L q).length<=m->∀ y∈L,y∈emits (bm_ m) L q
 | [],q,_,y,d=>by simp at d
 | x::L,q,h,y,d=>by
   have e:emits (bm_ m) (x::L) q=emits (bm_ m) L (bm_ m x q):=rfl;rw[e]at h ⊢;rcases yan_.1 d with rfl|d
   . obtain⟨t,B⟩:=ks_ m L (bm_ m y q)
     rw[B]at h ⊢;refine yal_ _ ?_;have hl:(bm_ m y q).length<=m:=by rw[yaj_]at h;omega
     unfold bm_ at hl ⊢
     split
     . simp
     . rename_i v
       rw[yaf_ v]at hl;exact Classical.byContradiction λC=>v ⟨hl,C⟩
   . exact iW_ m L _ h y d
theorem lU_ {ps:List Pc} {A:List Str} {m:Nat} {f:Fc}:∀ (l:List Pc) (s:List Fc),(∀ z∈l,z∈ps/\z.kind=2)->(∀ y∈s,Der ps A y)->∀ y∈ee_ (bm_ m) idk f l s,Der ps A y
 | [],s,_,hs,y,d=>hs y d
 | z::l,s,hl,hs,y,d=>by
   have v:=hl z zai_;simp only[ee_,ycw_]at d;refine lU_ l _ (λz v=>hl z (by simp[v])) (λy d=>?_) y d
   split at d
   . rename_i B
     have:=gz_ m [Q_ f.a z.c] s y d;rcases this with h|h
     . exact hs y h
     . simp at h;subst h
       exact Der.step (.r4 v.1 v.2 (hs _ B.1) (hs _ B.2))
   . exact hs y d
section
variable {ps:List Pc} {A:List Str} {m:Nat} {x:Ix} {S Fm:Fc->Prop} {f:Fc}
theorem uS_ (K:∀ x∈ps,x.vok) (C:x.of S Fm) (hS:∀ y,S y->y.form) (P:f.kind=1\/f.kind=2\/f.kind=3) (v:f.form) (j:Nat) (s:List Fc×List Fc) (B:∀ y,S y->y∈s.1) (d:f∈s.1) (I:∀ y∈s.1,Der ps A y) :
    ∀ y∈(rl (bm_ m) idk (aC_ ps) x f j s).1,Der ps A y:=by
  have E:∀ L,(∀ y∈L,hS_ ps A (·∈s.1) y)->∀ y∈emits (bm_ m) L s.1,Der ps A y:=λL N y H=>by
    rcases gz_ m L s.1 y H with h|h
    . exact I y h
    . exact Der.step ((N y h).mono (λx C=>⟨x,C,x.frm,rfl⟩) (λ_ h=>h) I (λ_ _ h=>h))
  unfold rl
  split
  . rename_i F
    split
    . exact E _ (oc_ F v d)
    . exact lU_ _ s.1 (λz O=>by have:=pm2.1 O;exact⟨this.1,this.2.1⟩) I
    . exact E _ (sq_ F v d)
    . exact E _ (nK_ K C hS B F v d)
    . exact E _ (ma_ C hS B F v d)
    . rw[eO_];exact E _ (qv_ F v d)
  . split
    . rename_i G
      split
      . exact E _ (nZ_ G v d)
      . exact E _ (rW_ C hS B G v d)
      . exact E _ (nJ_ C hS B G v d)
      . simp only
        split
        . rename_i M
          exact E [Q_ f.a [33]] (λy H=>by simp at H;subst H;exact lZ_ G v d M)
        . exact I
    . rename_i F G
      have J:f.kind=3:=by omega
      split
      . exact E _ (sK_ C hS B J v d)
      . exact E _ (vh_ J v d)
theorem mY_ (E:∀ x∈ps,x.vok) (G:x.of S Fm) (hS:∀ y,S y->y.form) (B:f.form) (s:List Fc×List Fc) (d:∀ y,S y->y∈s.1) (v:f∈s.1) (F:∀ y∈s.1,Der ps A y) (j:Nat) :
    ∀ y∈(rls (bm_ m) idk (aC_ ps) x f j s).1,Der ps A y:=by
  induction j with
  | zero=>exact F
  | succ j ih=>exact uS_ E G hS (iT_ B) B j _ (λy C=>kK_ (fw_ m) j s y (d y C)) (kK_ (fw_ m) j s f v) ih
end
inductive Fmd (fm:List Fc):Fc->Prop
  | base {y:Fc} (h:y∈fm):Fmd fm y
  | meet {y z:Fc} (hy:Fmd fm y) (hz:Fmd fm z) (ha:z.a=y.a) (hr:z.r=y.r) (hl:max y.lo z.lo<=min y.hi z.hi):Fmd fm (dg_ y z)
theorem Fmd.mono {fm d:List Fc} (h:∀ y∈fm,y∈d) {y:Fc} (v:Fmd fm y):Fmd d y:=by
  induction v with
  | base h1=>exact .base (h _ h1)
  | meet _ _ ha hr hl ih1 ih2=>exact .meet ih1 ih2 ha hr hl
structure InvA (ps:List Pc) (A:List Str) (m n:Nat) (q fm:List Fc) (x:Ix):Prop where
  nd:q.Nodup
  len:q.length<=m
  le:n<=q.length
  der:∀ y∈q,Der ps A y
  form:∀ y∈q,y.form
  ix:x.of (·∈q.take n) (·∈fm)
  fmq:∀ y∈fm,y∈q/\y.kind=3
  firm:∀ y∈q,y.kind=3->Fmd fm y
  st:∀ a∈A,Q_ a a∈q/\Q_ a [42]∈q/\∀ z∈ps,z.kind=7->ak_ a z.r a∈q
  cl:∀ y,One ps A (·∈q.take n) (λy z=>y∈fm\/z∈fm) y->y∈q
theorem Der.form {p:List Pc} {A:List Str} (d:∀ x∈p,x.vok) {y:Fc} (h:Der p A y):y.form:=h _ λ_ v=>One.form d (λ_ h=>h) v
theorem lH_ {stp:Fc->List Fc->List Fc} {kof:List Fc->List Fc} (C:∀ i s z,z∈kof (stp i s)->z∈kof s\/z=i) (h:Grows stp kof) (f:Fc):∀ (l:List Pc) (s fm:List Fc),∀ y∈l,ag_ f.a y.r y.lo y.hi∈kof s\/ag_ f.a y.r y.lo y.hi∈(bX_ stp kof f l (s,fm)).2
 | [],s,fm,y,d=>by simp at d
 | x::l,s,fm,y,d=>by
   have e:bX_ stp kof f (x::l) (s,fm)=bX_ stp kof f l (stp (ag_ f.a x.r x.lo x.hi) s,if ag_ f.a x.r x.lo x.hi∈kof s then fm else ag_ f.a x.r x.lo x.hi::fm):=rfl;rw[e]
   by_cases v:ag_ f.a y.r y.lo y.hi=ag_ f.a x.r x.lo x.hi
   . rw[v]
     by_cases E:ag_ f.a x.r x.lo x.hi∈kof s
     . exact .inl E
     . refine .inr ((hm_ h f l _ _ _).2 (.inl ?_))
       rw[yaf_ E];simp
   . rcases yan_.1 d with rfl|d
     . exact absurd rfl v
     . rcases lH_ C h f l (stp (ag_ f.a x.r x.lo x.hi) s) (if ag_ f.a x.r x.lo x.hi∈kof s then fm else ag_ f.a x.r x.lo x.hi::fm) y d with B|B
       . exact (C _ _ _ B).imp id λq=>absurd q v
       . exact .inr B
theorem wm_ {q:List Fc} {n:Nat} {f z:Fc} (d:q[n]? = some f):z∈q.take (n+1)↔z∈q.take n\/z=f:=by
  rw[yao_,d];simp
theorem Au_ {ps:List Pc} {A:List Str} {S Fm kn good:Fc->Prop} {f:Fc} (B:Cmpl ps (λy=>S y\/y=f) Fm kn good f) (C:∀ y,S y\/y=f->kn y) (h:∀ y,One ps A S (λy z=>Fm y\/Fm z) y->good y) (y:Fc) (E:One ps A (λy=>S y\/y=f) (λy z=>Fm y\/Fm z) y):good y:=by
 cases E with
 | r1 d=>exact h _ (.r1 d)
 | r2 d=>exact h _ (.r2 d)
 | r10 hx hk d=>exact h _ (.r10 hx hk d)
 | r3 hx hk d=>exact d.elim (λq=>h _ (.r3 hx hk q)) (λq=>B.c3 _ _ hx hk q.symm)
 | r4 hx hk d v =>
   rcases d with d|d
   . rcases v with v|v
     . exact h _ (.r4 hx hk d v)
     . exact B.c4' _ _ hx hk v.symm (C _ (.inl d))
   . exact B.c4 _ _ hx hk d.symm (C _ v)
 | r5 hx hk d=>exact d.elim (λq=>h _ (.r5 hx hk q)) (λq=>B.c5 _ _ hx hk q.symm)
 | r6 hx hk d=>exact d.elim (λq=>h _ (.r6 hx hk q)) (λq=>B.c6 _ _ _ hx hk q.symm)
 | r7 hx hk d v =>
   rcases d with d|d
   . rcases v with v|v
     . exact h _ (.r7 hx hk d v)
     . exact B.c7' _ _ _ _ hx hk v.symm (.inl d)
   . exact B.c7 _ _ _ _ hx hk d.symm v
 | r8 hx hk d v =>
   rcases d with d|d
   . rcases v with v|v
     . exact h _ (.r8 hx hk d v)
     . exact B.c8' _ _ _ hx hk v.symm (.inl d)
   . exact B.c8 _ _ _ hx hk d.symm v
 | r9 d v =>
   rcases d with d|d
   . rcases v with v|v
     . exact h _ (.r9 d v)
     . exact B.c9' _ _ _ v.symm (.inl d)
   . exact B.c9 _ _ _ d.symm (C _ v)
 | r11 hx hk d=>exact d.elim (λq=>h _ (.r11 hx hk q)) (λq=>B.c11 _ _ hx hk q.symm)
 | @r12 a r lo hi lo' hi' d v hm hl =>
   rcases d with d|d
   . rcases v with v|v
     . exact h _ (.r12 d v hm hl)
     . have:=B.c12 (ag_ a r lo hi) zbh_ (.inl d) rfl zbh_ zbh_ (by rw[<-v];exact hm.symm) (by rw[<-v];simp only[ag_];omega)
       rw[<-v]at this;rw[Int.max_comm,Int.min_comm];exact this
   . have:=B.c12 (ag_ a r lo' hi') zbi_ v rfl zbi_ zbi_ (by rw[<-d];exact hm) (by rw[<-d];exact hl)
     rw[<-d]at this;exact this
 | @r13 a r lo hi lo' hi' d v hm hl =>
   rcases d with d|d
   . rcases v with v|v
     . exact h _ (.r13 d v hm hl)
     . have:=B.c13 (ag_ a r lo hi) zbh_ (.inl d) rfl zbh_ zbh_ (by rw[<-v];exact hm.symm) (by rw[<-v];simp only[ag_];omega)
       rw[<-v]at this;exact this
   . have:=B.c13 (ag_ a r lo' hi') zbi_ v rfl zbi_ zbi_ (by rw[<-d];exact hm) (by rw[<-d];exact hl)
     rw[<-d]at this;exact this
 | r14 hx hk d g1 g2=>exact d.elim (λq=>h _ (.r14 hx hk q g1 g2)) (λq=>B.c14 _ _ _ _ hx hk q.symm g1 g2)
theorem One.congrM {p:List Pc} {A:List Str} {S:Fc->Prop} {M v:Fc->Fc->Prop} (d:∀ y z,S y->S z->M y z->v y z) {y:Fc} (h:One p A S M y):One p A S v y:=by
  cases h with
  | r1 h=>exact .r1 h
  | r2 h=>exact .r2 h
  | r10 hx hk h=>exact .r10 hx hk h
  | r3 hx hk h=>exact .r3 hx hk h
  | r4 hx hk h h'=>exact .r4 hx hk h h'
  | r5 hx hk h=>exact .r5 hx hk h
  | r6 hx hk h=>exact .r6 hx hk h
  | r7 hx hk h h'=>exact .r7 hx hk h h'
  | r8 hx hk h h'=>exact .r8 hx hk h h'
  | r9 h h'=>exact .r9 h h'
  | r11 hx hk h=>exact .r11 hx hk h
  | r12 h h' hm hl=>exact .r12 h h' (d _ _ h h' hm) hl
  | r13 h h' hm hl=>exact .r13 h h' (d _ _ h h' hm) hl
  | r14 hx hk h h1 h2=>exact .r14 hx hk h h1 h2
section
variable {ps:List Pc} {A:List Str} {m n:Nat} {q fm:List Fc} {x:Ix} {f:Fc}
theorem wH_ (j k:Nat) (s:List Fc×List Fc):∃ t,(rls (bm_ m) idk (aC_ ps) x f (j+k) s).1=(rls (bm_ m) idk (aC_ ps) x f j s).1++t:=by
  induction k with
  | zero=>exact⟨[],by simp⟩
  | succ k ih =>
    obtain⟨t,h⟩:=ih;obtain⟨L,v⟩:=qP_ (ps:=ps) (x:=x) (f:=f) (fw_ m) (j+k) (rls (bm_ m) idk (aC_ ps) x f (j+k) s);obtain⟨u,d⟩:=ks_ m L (rls (bm_ m) idk (aC_ ps) x f (j+k) s).1;exact⟨t++u,by rw[<-ycF_,rls,v,d,h,yap_]⟩
theorem qQ_ (j:Nat) (s:List Fc×List Fc) (h:f.kind=1->j<=4) (J:f.kind=3->j≠0) (G:f.kind=1\/f.kind=2\/f.kind=3):∀ y∈(rl (bm_ m) idk (aC_ ps) x f j s).1,y.kind=3->y∈s.1:=by
 have E:∀ L:List Fc,(∀ y∈L,y.kind≠3)->∀ y∈emits (bm_ m) L s.1,y.kind=3->y∈s.1:=λL N y d G =>
   (gz_ m L s.1 y d).elim id λq=>absurd G (N y q)
 have C:∀ {α:Type} (l:List α) (g:α->Fc),(∀ a,(g a).kind≠3)->∀ y∈l.map g,y.kind≠3:=λl g F y d=>by
   obtain⟨a,_,rfl⟩:=yas_.1 d;exact F a
 have B:∀ {α β:Type} (l:List α) (k:α->List β) (g:α->β->Fc),(∀ a b,(g a b).kind≠3)->∀ y∈l.flatMap (λa=>(k a).map (g a)),y.kind≠3:=λl k g F y d=>by
   obtain⟨a,_,d⟩:=yar_.1 d;exact C _ _ (F a) y d
 unfold rl
 split
 .rename_i H
  split
  .exact E _ (C _ _ λ_=>by simp[Q_])
  .obtain⟨L,K,R,_⟩:=fq_ (fw_ m) f (lat (aC_ ps) ⟨2,[],f.b⟩) s.1
   rw[K];exact E L λy d=>by obtain⟨_,_,rfl,_⟩:=R y d;simp[Q_]
  .exact E _ (C _ _ λ_=>by simp[ak_])
  .exact E _ (B _ _ _ λ_ _=>by simp[Q_])
  .refine E _ λy d=>?_
   unfold cW_ at d
   split at d
   .exact C _ _ (λ_=>by simp[Q_]) y d
   simp at d
  have:=h H
  rename_i M O P I Q
  have v:j=0\/j=1\/j=2\/j=3\/j=4:=by omega
  rcases v with v|v|v|v|v
  .exact (M v).elim
  .exact (O v).elim
  .exact (P v).elim
  .exact (I v).elim
  exact (Q v).elim
 split
 .split
  .exact E _ (C _ _ λ_=>by simp[ak_])
  .refine E _ λy d=>?_
   rcases yag_.1 d with d|d
   .exact B _ _ _ (λ_ _=>by simp[ak_]) y d
   exact B _ _ _ (λ_ _=>by simp[ak_]) y d
  .exact E _ (B _ _ _ λ_ _=>by simp[Q_])
  simp only
  split
  .exact E [Q_ f.a [33]] (by simp[Q_])
  exact λy d _=>d
 rename_i H T
 split
 .exact absurd rfl (J zaa_)
 exact E _ (C _ _ λ_=>by simp[Q_])
theorem ox_ (j:Nat) (s:List Fc×List Fc) (h:f.kind=1->j<=5) (E:f.kind≠3) (C:f.kind=1\/f.kind=2\/f.kind=3):∀ y∈(rls (bm_ m) idk (aC_ ps) x f j s).1,y.kind=3->y∈s.1:=by
  induction j with
  | zero=>exact λy B _=>B
  | succ j ih=>exact λy B v=>ih (λd=>by have:=h d;omega) y (qQ_ j _ (λd=>by have:=h d;omega) (λd=>absurd d E) C y B v) v
theorem xH_ (hr:∀ x∈ps,x.vok) (inv:InvA ps A m n q fm x) (hn:q[n]? = some f) {C:List Fc×List Fc} (G:rls (bm_ m) idk (aC_ ps) (x.add (decide (f∈fm)) f) f (nrl f) (q,fm)=C) (hl:C.1.length<=m) :
    InvA ps A m (n+1) C.1 C.2 (x.add (decide (f∈fm)) f):=by
  have P:f∈q:=yac_ hn;have hlt:n<q.length:=(yab_.1 hn).1;have K:=inv.form f P;have hk:=iT_ K;have O:(x.add (decide (f∈fm)) f).of (λy=>y∈q.take n\/y=f) (·∈fm):=Ix.of_add inv.ix f zai_;have F:∀ y,(y∈q.take n\/y=f)->y∈q:=λy d=>d.elim (λh=>ybs_ h) (λh=>h▸P)
  obtain⟨L,W⟩:=kL_ (ps:=ps) (x:=x.add (decide (f∈fm)) f) (f:=f) (fw_ m) (nrl f) (q,fm);rw[G]at W;obtain⟨t,ht⟩:=ks_ m L q;have M:C.1=q++t:=by rw[W];exact ht
  have B:∀ y∈q,y∈C.1:=λy d=>by rw[M];exact yal_ _ d
  have V:C.1.take (n+1)=q.take (n+1):=by rw[M,ycz_ zaa_]
  have R:∀ y,y∈C.1.take (n+1)↔(y∈q.take n\/y=f):=λy=>by rw[V];exact wm_ hn
  have T:∀ y∈C.1,Der ps A y:=by rw[<-G];exact mY_ hr O (λy d=>inv.form y (F y d)) K (q,fm) F P inv.der (nrl f)
  have H:∀ j,j<nrl f->∀ L,(rls (bm_ m) idk (aC_ ps) (x.add (decide (f∈fm)) f) f (j+1) (q,fm)).1=emits (bm_ m) L (rls (bm_ m) idk (aC_ ps) (x.add (decide (f∈fm)) f) f j (q,fm)).1->∀ y∈L,y∈C.1:=by
    intro j hj L W y d;obtain⟨u,Z⟩:=wH_ (m:=m) (ps:=ps) (x:=x.add (decide (f∈fm)) f) (f:=f) (j+1) (nrl f - (j+1)) (q,fm);rw[show j+1+(nrl f - (j+1))=nrl f by omega,G]at Z;have hle:(rls (bm_ m) idk (aC_ ps) (x.add (decide (f∈fm)) f) f (j+1) (q,fm)).1.length<=m:=by rw[Z,yaj_]at hl;omega
    rw[W]at hle;have:=iW_ m L _ hle y d;rw[Z,W];exact yal_ _ this
  have hc:=wG_ (fw_ m) hr O (q,fm) (λ_ _=>Iff.rfl) (.inr rfl) F (·∈C.1) (λy d=>B y (F y d)) H
  -- the firm ones
  have E:(∀ y∈fm,y∈C.2)/\(∀ y∈C.2,y∈fm\/(y ∉ q/\y∈C.1/\y.kind=3))/\(∀ y∈C.1,y.kind=3->y∈q\/y∈C.2\/∃ z,(z∈q.take n\/z=f)/\z.kind=3/\f.kind=3/\z.a=f.a/\z.r=f.r/\max f.lo z.lo<=min f.hi z.hi/\y=dg_ f z):=by
    by_cases Q:f.kind=1
    . have e6:nrl f=5+1:=by simp[nrl,Q]
      rw[e6,rls]at G;have hf5:(rls (bm_ m) idk (aC_ ps) (x.add (decide (f∈fm)) f) f 5 (q,fm)).2=fm:=qO_ 5 (q,fm) (λ_=>yae_ _);have U:=ox_ (m:=m) (ps:=ps) (x:=x.add (decide (f∈fm)) f) (f:=f) 5 (q,fm) (λ_=>yae_ _) zaa_ hk;have hq5:∀ y∈q,y∈(rls (bm_ m) idk (aC_ ps) (x.add (decide (f∈fm)) f) f 5 (q,fm)).1:=λy d=>kK_ (fw_ m) 5 (q,fm) y d
      have Y:=H 5 zaa_;rw[rls]at Y;generalize rls (bm_ m) idk (aC_ ps) (x.add (decide (f∈fm)) f) f 5 (q,fm)=s5 at G hf5 U hq5 Y
      have er:rl (bm_ m) idk (aC_ ps) (x.add (decide (f∈fm)) f) f 5 s5=bX_ (bm_ m) idk f (lat (aC_ ps) ⟨8,[],f.b⟩) s5:=by rw[rl.eq_def,yaq_ Q]<;>rfl
      rw[er]at G Y;have es5:s5=(s5.1,fm):=by rw[<-hf5]
      rw[es5]at G Y;have Hv:=Y _ (eO_ (bm_ m) idk f _ s5.1 fm);refine⟨λy d=>?_,λy d=>?_,λy d J=>?_⟩
      . rw[<-G];exact (hm_ (fw_ m) f _ _ _ _).2 (.inl d)
      . rw[<-G]at d
        rcases (hm_ (fw_ m) f _ _ _ _).1 d with h|h
        . exact .inl h
        . rcases mH_ f _ _ _ _ h.2 with g|⟨z,I,rfl⟩
          . exact .inl g
          . exact .inr ⟨λhq=>h.1 (hq5 _ hq),Hv _ (yas_.2 ⟨z,I,rfl⟩),rfl⟩
      . have hy':=d
        rw[<-G,eO_]at d;rcases gz_ m _ _ y d with h|h
        . exact .inl (U y h J)
        . obtain⟨z,I,rfl⟩:=yas_.1 h
          rcases lH_ (stp:=bm_ m) (kof:=idk) (λi s z I=>(gz_ m [i] s z I).imp id zai_) (fw_ m) f _ s5.1 fm z I with g|g
          . exact .inl (U _ g rfl)
          . exact .inr (.inl (by rw[<-G];exact g))
    . have hf2:C.2=fm:=by rw[<-G];exact qO_ _ (q,fm) (λh=>absurd h Q)
      refine⟨λy d=>by rw[hf2];exact d,λy d=>.inl (by rw[<-hf2];exact d),λy d J=>?_⟩
      by_cases h3:f.kind=3
      . have e2:nrl f=0+1+1:=by simp[nrl,h3]
        rw[e2,rls]at G;rw[<-G]at d;have X:=qQ_ 1 _ (λh=>absurd h Q) (λ_=>by decide) hk y d J;rw[rls,rl.eq_def,yaf_ Q,yaf_ zaa_]at X;rcases gz_ m _ _ y X with h|h
        . exact .inl h
        . rcases yag_.1 h with h|h
          . obtain⟨z,I,rfl⟩:=yas_.1 h
            obtain⟨I,hcc⟩:=ybh_.1 I;obtain⟨g1,g2,g3,g4⟩:=kS_ O I;simp only[eF_,yaS_,ybV_,ybB_,Int.not_lt]at hcc;exact .inr (.inr ⟨z,g1,g2,h3,g3,g4,hcc.1,rfl⟩)
          . unfold hL_ at h
            split at h
            . simp at h;rw[h]at J;simp[Q_]at J
            . simp at h
      . rw[<-G]at d
        exact .inl (ox_ _ _ (λh=>absurd h Q) h3 hk y d J)
  have N:∀ y,(y∈q.take n\/y=f)->(y∈fm↔y∈C.2):=λy d=>⟨λh=>E.1 y h,λh=>(E.2.1 y h).elim id λg=>absurd (F y d) g.1⟩
  refine⟨?_,hl,?_,T,λy d=>(T y d).form hr,?_,?_,?_,?_,?_⟩
  . rw[W];exact iV_ m L q inv.nd
  . rw[M,yaj_];omega
  . have:=Ix.of_firm O N
    have e:(λy=>y∈C.1.take (n+1))=(λy=>y∈q.take n\/y=f):=funext λy=>propext (R y)
    rw[e];exact this
  . intro y d
    rcases E.2.1 y d with h|h
    . exact⟨B y (inv.fmq y h).1,(inv.fmq y h).2⟩
    . exact h.2
  . intro y d hk3
    rcases E.2.2 y d hk3 with h|h|⟨z,Q,h2,h3,h4,h5,h6,rfl⟩
    . exact (inv.firm y h hk3).mono E.1
    . exact .base h
    . exact .meet ((inv.firm f P h3).mono E.1) ((inv.firm z (F z Q) h2).mono E.1) h4 h5 h6
  . intro a ha
    obtain⟨g1,g2,g3⟩:=inv.st a ha;exact⟨B _ g1,B _ g2,λz I hk=>B _ (g3 z I hk)⟩
  . intro y d
    have e:(λy=>y∈C.1.take (n+1))=(λy=>y∈q.take n\/y=f):=funext λy=>propext (R y)
    rw[e]at d;refine Au_ (A:=A) hc F (λz I=>B z (inv.cl z I)) y (d.congrM λu v Z hv hm=>hm.imp (N u Z).2 (N v hv).2)
theorem mm_le {a b c d e g:Int} (h:max a (max b c)<=min d (min e g)):max a b<=min d e:=by omega
theorem xI_ (inv:InvA ps A m q.length q fm x) (y:Fc):Der ps A y↔y∈q:=by
 refine⟨λh=>h.least λy K=>?_,inv.der y⟩;have d:∀ y,One ps A (·∈q) (λy z=>y∈fm\/z∈fm) y->y∈q:=λy K=>inv.cl y (by rw[ybS_];exact K)
 have O:∀ f,Fmd fm f->∀ z∈q,z.kind=3->z.a=f.a->z.r=f.r->(max z.lo f.lo<=min z.hi f.hi->dg_ z f∈q)/\(min z.hi f.hi<max z.lo f.lo->Q_ z.a [33]∈q):=by
   intro f hf
   induction hf with
   | @base f hb =>
     intro z J v T I;obtain⟨H,R⟩:=inv.fmq f hb;have W:=(hN_ (inv.form z J) v).1;have ef:=(hN_ (inv.form f H) R).1;rw[<-T,<-I]at ef;refine⟨λhl=>d _ (.r12 (by rw[<-W];exact J) (by rw[<-ef];exact H) (.inr (by rw[<-ef];exact hb)) hl),λhl=>d _ (.r13 (r:=z.r) (by rw[<-W];exact J) (by rw[<-ef];exact H) (.inr (by rw[<-ef];exact hb)) hl)⟩
   | @meet y w K hw T I hl ih1 ih2 =>
     intro z J v Q P;have G:z.a=y.a:=Q;have E:z.r=y.r:=P;obtain⟨i1,Y⟩:=ih1 z J v G E;have U:(dg_ y w).lo=max y.lo w.lo:=rfl;have N:(dg_ y w).hi=min y.hi w.hi:=rfl;rw[U,N]
     by_cases M:max z.lo y.lo<=min z.hi y.hi
     . have L:=i1 M
       obtain⟨V,X⟩:=ih2 (dg_ z y) L rfl (by rw[T,<-G];rfl) (by rw[I,<-E];rfl);have e1:(dg_ z y).lo=max z.lo y.lo:=rfl;have Z:(dg_ z y).hi=min z.hi y.hi:=rfl;rw[e1,Z]at V X;refine⟨λC=>?_,λC=>X (by rw[Int.max_assoc,Int.min_assoc];exact C)⟩;have:=V (by rw[Int.max_assoc,Int.min_assoc];exact C)
       have e:dg_ (dg_ z y) w=dg_ z (dg_ y w):=by
         simp only[dg_,ag_];rw[Int.max_assoc,Int.min_assoc]
       rw[<-e];exact this
     . exact⟨λC=>absurd (mm_le C) M,λ_=>Y (Int.not_le.1 M)⟩
 have F:∀ {a r:Str} {lo hi lo' hi':Int},ag_ a r lo hi∈q->ag_ a r lo' hi'∈q->(max lo lo'<=min hi hi'->ag_ a r (max lo lo') (min hi hi')∈q)/\(min hi hi'<max lo lo'->Q_ a [33]∈q):=λh B=>O _ (inv.firm _ B rfl) _ h rfl rfl rfl
 cases K with
 | r1 h=>exact d _ (.r1 h)
 | r2 h=>exact d _ (.r2 h)
 | r10 hx v h=>exact d _ (.r10 hx v h)
 | r3 hx v h=>exact d _ (.r3 hx v h)
 | r4 hx v h B=>exact d _ (.r4 hx v h B)
 | r5 hx v h=>exact d _ (.r5 hx v h)
 | r6 hx v h=>exact d _ (.r6 hx v h)
 | r7 hx v h B=>exact d _ (.r7 hx v h B)
 | r8 hx v h B=>exact d _ (.r8 hx v h B)
 | r9 h B=>exact d _ (.r9 h B)
 | r11 hx v h=>exact d _ (.r11 hx v h)
 | r12 h B hm hl=>exact (F h B).1 hl
 | r13 h B hm hl=>exact (F h B).2 hl
 | r14 hx v h L h2=>exact d _ (.r14 hx v h L h2)
end
def eZ_ (loops:List Str) (A:List Str):List Fc:=A.flatMap λa=>Q_ a a::Q_ a [42]::loops.map λr=>ak_ a r a
theorem lV_ {ps:List Pc} {A:List Str} {S:Fc->Prop} {M:Fc->Fc->Prop}:∀ y∈eZ_ (ap_ ps) A,One ps A S M y:=by
 intro y d;obtain⟨a,v,d⟩:=yar_.1 d;simp only[yan_]at d;rcases d with rfl|rfl|d
 .exact .r1 v
 .exact .r2 v
 obtain⟨r,C,rfl⟩:=yas_.1 d;obtain⟨z,F,rfl⟩:=yas_.1 C;obtain⟨E,B⟩:=ybh_.1 F;exact .r10 E (ybf_ B) v
theorem hd_ {ps:List Pc} {A:List Str} {a:Str} (d:a∈A):Q_ a a∈eZ_ (ap_ ps) A/\Q_ a [42]∈eZ_ (ap_ ps) A/\∀ z∈ps,z.kind=7->ak_ a z.r a∈eZ_ (ap_ ps) A:=by
  refine⟨yar_.2 ⟨a,d,by simp⟩,yar_.2 ⟨a,d,by simp⟩,λz y v=>yar_.2 ⟨a,d,?_⟩⟩;exact yaA_ _ (yaA_ _ (yas_.2 ⟨z.r,yas_.2 ⟨z,ybh_.2 ⟨y,yaE_ v⟩,rfl⟩,rfl⟩))
structure LoopA (ps:List Pc) (A:List Str) (m n:Nat) (q fm:List Fc) (x:Ix):Prop where
  nd:q.Nodup
  len:q.length<=m+1
  le:n<=q.length
  der:∀ y∈q,Der ps A y
  ix:x.of (·∈q.take n) (·∈fm)
  inv:q.length<=m->InvA ps A m n q fm x
section
variable {ps:List Pc} {A:List Str} {m n:Nat} {q fm:List Fc} {x:Ix} {f:Fc}
theorem ru_ (M:∀ x∈ps,x.vok) {q:List Fc} (G:emits (bm_ m) (eZ_ (ap_ ps) A) []=q):LoopA ps A m 0 q [] Ix.nil:=by
 have E:∀ y∈q,y∈eZ_ (ap_ ps) A:=λy C=>by rw[<-G]at C;exact (gz_ m _ _ y C).elim (λh=>by simp at h) id
 have v:∀ y∈q,Der ps A y:=λy C=>Der.step (lV_ y (E y C))
 have I:q.Nodup:=by rw[<-G];exact iV_ m _ _ ybZ_
 have H:Ix.nil.of (·∈q.take 0) (·∈([]:List Fc)):=by
   have e:(λy=>y∈q.take 0)=(λ_=>False):=funext λy=>by simp
   rw[e];exact Ix.of_nil _
 refine⟨I,by rw[<-G];exact pU_ m _ _ zai_,ycg_ _,v,H,λhl=>⟨I,hl,ycg_ _,v,λy C=>(v y C).form M,H,by simp,λy C d=>?_,λa J=>?_,λy C=>?_⟩⟩
 .exfalso
  obtain⟨a,_,h⟩:=yar_.1 (E y C);simp only[yan_]at h;rcases h with rfl|rfl|h
  .simp[Q_]at d
  .simp[Q_]at d
  obtain⟨r,_,rfl⟩:=yas_.1 h;simp[ak_]at d
 .obtain⟨L,N,O⟩:=hd_ (ps:=ps) J
  rw[<-G]at hl ⊢;exact⟨iW_ m _ _ hl _ L,iW_ m _ _ hl _ N,λz K d=>iW_ m _ _ hl _ (O z K d)⟩
 rw[<-G]at hl;have B:∀ a∈A,_:=λa J=>hd_ (ps:=ps) J
 have F:∀ z∈eZ_ (ap_ ps) A,z∈q:=λz K=>by rw[<-G];exact iW_ m _ _ hl z K
 cases C with
 | r1 h=>exact F _ (B _ h).1
 | r2 h=>exact F _ (B _ h).2.1
 | r10 hx d h=>exact F _ ((B _ h).2.2 _ hx d)
 | r3 hx d h=>simp at h
 | r4 hx d h h'=>simp at h
 | r5 hx d h=>simp at h
 | r6 hx d h=>simp at h
 | r7 hx d h h'=>simp at h
 | r8 hx d h h'=>simp at h
 | r9 h h'=>simp at h
 | r11 hx d h=>simp at h
 | r12 h h' hm hl=>simp at h
 | r13 h h' hm hl=>simp at h
 | r14 hx d h h1 h2=>simp at h
theorem gc_ (F:∀ x∈ps,x.vok) (h:LoopA ps A m n q fm x) (H:q[n]? = some f) (j:Nat) {v:List Fc×List Fc} (G:rls (bm_ m) idk (aC_ ps) (x.add (decide (f∈fm)) f) f j (q,fm)=v) :
    v.1.Nodup/\v.1.length<=m+1/\(∀ y∈v.1,Der ps A y)/\∃ t,v.1=q++t:=by
  have d:f∈q:=yac_ H;have B:∀ y,(y∈q.take n\/y=f)->y∈q:=λy E=>E.elim (λh=>ybs_ h) (λh=>h▸d)
  obtain⟨L,C⟩:=kL_ (ps:=ps) (x:=x.add (decide (f∈fm)) f) (f:=f) (fw_ m) j (q,fm);rw[G]at C;refine⟨by rw[C];exact iV_ m L q h.nd,by rw[C];exact pU_ m L q h.len,?_,by rw[C];exact ks_ m L q⟩;rw[<-G];exact mY_ F (Ix.of_add h.ix f zai_) (λy E=>(h.der y (B y E)).form F) ((h.der f d).form F) (q,fm) B d h.der j
theorem jy_ (v:∀ x∈ps,x.vok) (h:LoopA ps A m n q fm x) (B:q[n]? = some f) {d:List Fc×List Fc} (y:rls (bm_ m) idk (aC_ ps) (x.add (decide (f∈fm)) f) f (nrl f) (q,fm)=d) (hl:d.1.length<=m) :
    LoopA ps A m (n+1) d.1 d.2 (x.add (decide (f∈fm)) f):=by
  obtain⟨_,_,_,t,C⟩:=gc_ v h B (nrl f) y;have hi:=xH_ v (h.inv (by rw[C,yaj_]at hl;omega)) B y hl;exact⟨hi.nd,by have:=hi.len;omega,hi.le,hi.der,hi.ix,λ_=>hi⟩
theorem sM_ (h:LoopA ps A m q.length q fm x) (hl:q.length<=m) (y:Fc):Der ps A y↔y∈q:=xI_ (h.inv hl) y
end
theorem zf_eq (x:Pc):∃ n,{ x.zf with frm:=n }=x:=⟨x.frm,rfl⟩
theorem qw_ {p:List Pc} {A:List Str} {y:Fc}:Der (uniq [] p) A y↔Der p A y:=by
 constructor
 .refine Der.mono (λx d=>?_) (λ_ h=>h)
  rcases (jL_ p [] x).1 d with h|⟨z,v,rfl⟩
  .simp at h
  exact⟨z,v,0,rfl⟩
 exact Der.mono (λx d=>⟨x.zf,(jL_ p [] _).2 (.inr ⟨x,d,rfl⟩),zf_eq x⟩) (λ_ h=>h)
theorem wg_ {p:List Pc} (h:∀ x∈p,x.vok):∀ x∈uniq [] p,x.vok:=λx y=>by
 rcases (jL_ p [] x).1 y with v|⟨z,d,rfl⟩
 .simp at v
 exact⟨(h z d).rok,(h z d).num⟩
def Fc.lt (x y:Fc):Prop:=x.kind<y.kind\/x.kind=y.kind/\(x.a<y.a\/x.a=y.a/\(x.b<y.b\/x.b=y.b/\(x.r<y.r\/x.r=y.r/\(x.lo<y.lo\/x.lo=y.lo/\x.hi<y.hi))))
instance (x y:Fc):Decidable (Fc.lt x y):=by unfold Fc.lt;exact inferInstance
theorem pk_ (x:Str):¬ x<x:=ycA_ x
theorem pj_ (x y:Str):x<y\/x=y\/y<x:=by
 by_cases h:x<y
 .exact .inl h
 by_cases d:y<x
 .exact .inr (.inr d)
 exact .inr (.inl (ydb_ (yds_.1 d) (yds_.1 h)))
theorem Fc.lt_irr (x:Fc):¬ x.lt x:=by
  unfold Fc.lt;simp[pk_]
theorem Fc.lt_tri (x y:Fc):x.lt y\/x=y\/y.lt x:=by
 unfold Fc.lt;rcases ydm_ x.kind y.kind with h|h|h
 .exact .inl (.inl h)
 .rcases pj_ x.a y.a with d|d|d
  .exact .inl (.inr ⟨h,.inl d⟩)
  .rcases pj_ x.b y.b with v|v|v
   .exact .inl (.inr ⟨h,.inr ⟨d,.inl v⟩⟩)
   .rcases pj_ x.r y.r with B|B|B
    .exact .inl (.inr ⟨h,.inr ⟨d,.inr ⟨v,.inl B⟩⟩⟩)
    .rcases ydm_ x.lo y.lo with C|C|C
     .exact .inl (.inr ⟨h,.inr ⟨d,.inr ⟨v,.inr ⟨B,.inl C⟩⟩⟩⟩)
     .rcases ydm_ x.hi y.hi with E|E|E
      .exact .inl (.inr ⟨h,.inr ⟨d,.inr ⟨v,.inr ⟨B,.inr ⟨C,E⟩⟩⟩⟩⟩)
      .refine .inr (.inl ?_);cases x;cases y;simp_all
      exact .inr (.inr (.inr ⟨h.symm,.inr ⟨d.symm,.inr ⟨v.symm,.inr ⟨B.symm,.inr ⟨C.symm,E⟩⟩⟩⟩⟩))
     exact .inr (.inr (.inr ⟨h.symm,.inr ⟨d.symm,.inr ⟨v.symm,.inr ⟨B.symm,.inl C⟩⟩⟩⟩))
    exact .inr (.inr (.inr ⟨h.symm,.inr ⟨d.symm,.inr ⟨v.symm,.inl B⟩⟩⟩))
   exact .inr (.inr (.inr ⟨h.symm,.inr ⟨d.symm,.inl v⟩⟩))
  exact .inr (.inr (.inr ⟨h.symm,.inl d⟩))
 exact .inr (.inr (.inl h))
theorem gU_ {α:Type} {lt:α->α->Prop} (C:∀ {x y z},lt x y->lt y z->lt x z) {x y z:α} {P Q R:Prop} (B:x=y->y=z->P->Q->R) (v:lt x y\/x=y/\P) (d:lt y z\/y=z/\Q):lt x z\/x=z/\R:=by
 rcases v with v|⟨rfl,v⟩
 .rcases d with d|⟨rfl,d⟩
  .exact .inl (C v d)
  exact .inl v
 rcases d with d|⟨rfl,d⟩
 .exact .inl d
 exact .inr ⟨rfl,B rfl rfl v d⟩
theorem Fc.lt_trans {x y z:Fc} (d:x.lt y) (v:y.lt z):x.lt z :=
  gU_ (lt:=λa b:Int=>a<b) ydg_ (λ_ _=>gU_ (lt:=λa b:Str=>a<b) ycq_ (λ_ _=>gU_ (lt:=λa b:Str=>a<b) ycq_ (λ_ _=>gU_ (lt:=λa b:Str=>a<b) ycq_ (λ_ _=>gU_ (lt:=λa b:Int=>a<b) ydg_ λ_ _=>ydg_)))) d v
theorem hr_ {α:Type} {lt:α->α->Prop} (hi:∀ x,¬ lt x x) (v:∀ {x y z},lt x y->lt y z->lt x z):∀ {l m:List α},l.Pairwise lt->m.Pairwise lt->(∀ x,x∈l↔x∈m)->l=m
 | [],[],_,_,_=>rfl
 | [],y::m,_,_,h=>by have:=(h y).2 zai_;simp at this
 | x::l,[],_,_,h=>by have:=(h x).1 zai_;simp at this
 | x::l,y::m,h1,h2,h=>by
   rw[ycr_]at h1 h2
   have e:x=y:=by
     rcases yan_.1 ((h x).1 zai_) with e|C
     . exact e
     . rcases yan_.1 ((h y).2 zai_) with e|B
       . exact e.symm
       . exact absurd (v (h1.1 y B) (h2.1 x C)) (hi x)
   subst e
   congr 1
   refine hr_ hi v h1.2 h2.2 λz=>⟨λd=>?_,λd=>?_⟩
   . rcases yan_.1 ((h z).1 zaK_) with rfl|q
     . exact absurd (h1.1 z d) (hi z)
     . exact q
   . rcases yan_.1 ((h z).2 zaK_) with rfl|q
     . exact absurd (h2.1 z d) (hi z)
     . exact q
abbrev Srt (l:List Fc):Prop:=l.Pairwise Fc.lt
theorem Srt.ext {l m:List Fc} (d:Srt l) (v:Srt m) (h:∀ x,x∈l↔x∈m):l=m:=hr_ Fc.lt_irr Fc.lt_trans d v h
def fr_ (p:List Pc) (A:List Str) (m:Nat):Option (List Fc)->Prop
  | some L=>Srt L/\(∀ y,y∈L↔Der p A y)/\L.length<=m
  | none=>∃ M:List Fc,M.Nodup/\(∀ y∈M,Der p A y)/\m<M.length
theorem ez_ {α:Type} [DecidableEq α]:∀ {l m:List α},l.Nodup->(∀ x∈l,x∈m)->l.length<=m.length
  | [],m,_,_=>by simp
  | x::l,m,h,hs=>by
    rw[ybr_]at h
    have:=ez_ (l:=l) (m:=m.erase x) h.2 λy v=>by
      have d:y≠x:=λe=>h.1 (e▸v)
      exact (List.mem_erase_of_ne d).2 (hs y (by simp[v]))
    have B:=hs x zai_;rw[List.length_erase_of_mem B]at this;have:0<m.length:=ycU_ B;simp only[yai_];omega
theorem fr_.uniq {p:List Pc} {A:List Str} {m:Nat} {r d:Option (List Fc)} (h:fr_ p A m r) (v:fr_ p A m d):r=d:=by
  cases r with
  | none =>
    cases d with
    | none=>rfl
    | some L =>
      obtain⟨M,E,y,F⟩:=h;obtain⟨_,C,G⟩:=v;have:=ez_ E λx B=>(C x).2 (y x B)
      omega
  | some L =>
    cases d with
    | none =>
      obtain⟨M,E,y,F⟩:=v;obtain⟨_,C,G⟩:=h;have:=ez_ E λx B=>(C x).2 (y x B)
      omega
    | some L'=>rw[h.1.ext v.1 λx=>by rw[h.2.1,v.2.1]]
end Go.Vs
namespace Go.Vs
open Go Go.Sx
section
variable {ps:List Pc} {A:List Str} {c:List Fc} {x:Ix} {f:Fc}
theorem Cmpl.up {S I kn good E:Fc->Prop} (h:Cmpl ps S I kn good f) (C:∀ y,good y->E y):Cmpl ps S I kn E f :=
  ⟨λz a m d v=>C _ (h.c3 z a m d v),λz a m d v B=>C _ (h.c4 z a m d v B),λz a m d v B=>C _ (h.c4' z a m d v B),λz a m d v=>C _ (h.c5 z a m d v),λz a b m d v=>C _ (h.c6 z a b m d v),
   λz a b c m d v B=>C _ (h.c7 z a b c m d v B),λz a b c m d v B=>C _ (h.c7' z a b c m d v B),λz a b m d v B=>C _ (h.c8 z a b m d v B),λz a b m d v B=>C _ (h.c8' z a b m d v B),λa r b m d=>C _ (h.c9 a r b m d),λa r b m d=>C _ (h.c9' a r b m d),
   λz a m d v=>C _ (h.c11 z a m d v),λy m d v B F G H=>C _ (h.c12 y m d v B F G H),λy m d v B F G H=>C _ (h.c13 y m d v B F G H),λz a lo hi m d v B F=>C _ (h.c14 z a lo hi m d v B F)⟩
theorem yf_ {good:Fc->Prop} (m:∀ y∈eZ_ (ap_ ps) A,good y) (d:∀ f∈c,Cmpl ps (·∈c) (λ_=>True) (·∈c) good f) {y:Fc} (h:hS_ ps A (·∈c) y):good y:=by
  cases h with
  | r1 h=>exact m _ (hd_ h).1
  | r2 h=>exact m _ (hd_ h).2.1
  | r10 hx hk h=>exact m _ ((hd_ h).2.2 _ hx hk)
  | r3 hx hk h=>exact (d _ h).c3 _ _ hx hk rfl
  | r4 hx hk h h'=>exact (d _ h).c4 _ _ hx hk rfl h'
  | r5 hx hk h=>exact (d _ h).c5 _ _ hx hk rfl
  | r6 hx hk h=>exact (d _ h).c6 _ _ _ hx hk rfl
  | r7 hx hk h h'=>exact (d _ h).c7 _ _ _ _ hx hk rfl h'
  | r8 hx hk h h'=>exact (d _ h).c8 _ _ _ hx hk rfl h'
  | r9 h h'=>exact (d _ h).c9 _ _ _ rfl h'
  | r11 hx hk h=>exact (d _ h).c11 _ _ hx hk rfl
  | r12 h h' hm hl=>exact (d _ h).c12 _ rfl h' rfl rfl rfl (.inl trivial) hl
  | r13 h h' hm hl=>exact (d _ h).c13 _ rfl h' rfl rfl rfl (.inl trivial) hl
  | r14 hx hk h h1 h2=>exact (d _ h).c14 _ _ _ _ hx hk rfl h1 h2
end
def eQ_ (l:List Fc) (f:Fc):Nat:=l.countP λy=>decide (y.lt f)
def sW_ (l:List Fc) (f:Fc):List Fc:=if f∈l then l else l.take (eQ_ l f)++f::l.drop (eQ_ l f)
theorem lL_:∀ {l:List Fc} (f:Fc),Srt l->(∀ y∈l.take (eQ_ l f),y.lt f)/\(∀ y∈l.drop (eQ_ l f),¬ y.lt f)
 | [],f,_=>by simp[eQ_]
 | x::l,f,h=>by
   rw[Srt,ycr_]at h;obtain⟨B,C⟩:=lL_ f h.2
   by_cases v:x.lt f
   . have e:eQ_ (x::l) f=eQ_ l f+1:=by simp[eQ_,v]
     rw[e];simp only[ybd_,ybW_];exact⟨λy d=>(yan_.1 d).elim (λq=>q▸v) (B y),C⟩
   . have m:∀ y∈l,¬ y.lt f:=λy d q=>v (Fc.lt_trans (h.1 y d) q)
     have e:eQ_ (x::l) f=0:=by
       simp only[eQ_,ydu_,v,ydE_,ybl_,yca_,ycc_];rw[List.countP_eq_zero];intro y d;simpa using m y d
     rw[e];simp only[ycu_,yaJ_,false_imp_iff,implies_true,ydt_,ycZ_];intro y d;rcases yan_.1 d with rfl|d
     . exact v
     . exact m y d
theorem xL_ (l:List Fc) (f y:Fc):y∈sW_ l f↔y∈l\/y=f:=by
 unfold sW_
 split
 .rename_i h
  exact⟨.inl,λq=>q.elim id λe=>e▸h⟩
 have:y∈l↔y∈l.take (eQ_ l f)\/y∈l.drop (eQ_ l f):=by rw[<-yag_,ybA_]
 rw[this];simp only[yag_,yan_];constructor
 .rintro (h|h|h)
  .exact .inl (.inl h)
  .exact .inr h
  exact .inl (.inr h)
 rintro ((h|h)|h)
 .exact .inl h
 .exact .inr (.inr h)
 exact .inr (.inl h)
theorem xK_ {l:List Fc} (f:Fc) (h:Srt l):Srt (sW_ l f):=by
 unfold sW_
 split
 .exact h
 rename_i F
 obtain⟨C,E⟩:=lL_ f h
 have m:∀ y∈l.drop (eQ_ l f),f.lt y:=λy B=>by
   rcases Fc.lt_tri f y with q|q|q
   . exact q
   . exact absurd (List.mem_of_mem_drop B) (q▸F)
   . exact absurd q (E y B)
 rw[Srt,ycH_];refine⟨h.sublist (List.take_sublist _ _),ycr_.2 ⟨m,h.sublist (List.drop_sublist _ _)⟩,λa v b d=>?_⟩;rcases yan_.1 d with rfl|d
 .exact C a v
 exact Fc.lt_trans (C a v) (m b d)
def subA (p:List Pc) (l:List Fc) (f:Fc):List Fc:=p.flatMap λx =>
  if x.kind=1/\x.a=f.b then [Q_ f.a x.c]
  else if x.kind=2/\(x.a=f.b/\Q_ f.a x.b∈l\/x.b=f.b/\Q_ f.a x.a∈l) then [Q_ f.a x.c]
  else if x.kind=3/\x.a=f.b then [ak_ f.a x.r x.c]
  else if x.kind=8/\x.a=f.b then [ag_ f.a x.r x.lo x.hi]
  else []
def subBp (p:List Pc) (f y:Fc):List Fc:=p.flatMap λx=>if x.kind=4/\x.r=y.r/\x.a=f.b then [Q_ y.a x.c] else []
def yU_ (p:List Pc) (f y:Fc):List Fc:=if y.kind≠2\/y.b≠f.a then [] else (if f.b=[33] then [Q_ y.a [33]] else [])++subBp p f y
def subS (p:List Pc) (l:List Fc) (f:Fc):List Fc:=subA p l f++l.flatMap (yU_ p f)
def ub_ (x:Pc) (f y:Fc):List Fc:=if y.kind≠2 then [] else (if x.r=f.r/\y.a=f.b/\y.r=x.s then [ak_ f.a x.t y.b] else [])++(if x.s=f.r/\y.b=f.a/\y.r=x.r then [ak_ y.a x.t f.b] else [])
def oL_ (l:List Fc) (f:Fc) (x:Pc):List Fc :=
  if x.kind=5/\x.r=f.r then [ak_ f.a x.t f.b]
  else if x.kind=4/\x.r=f.r/\Q_ f.b x.a∈l then [Q_ f.a x.c]
  else if x.kind=6 then l.flatMap (ub_ x f) else []
def AO_ (p:List Pc) (l:List Fc) (f:Fc):List Fc:=(if Q_ f.b [33]∈l then [Q_ f.a [33]] else [])++p.flatMap (oL_ l f)
def pr_ (f y:Fc):List Fc:=if y.kind≠3\/y.a≠f.a\/y.r≠f.r then [] else if max f.lo y.lo<=min f.hi y.hi then [dg_ f y] else [Q_ f.a [33]]
def su_ (f:Fc) (x:Pc):List Fc:=if x.kind=9/\x.r=f.r/\x.lo<=f.lo/\f.hi<=x.hi then [Q_ f.a x.c] else []
def wN_ (p:List Pc) (l:List Fc) (f:Fc):List Fc:=l.flatMap (pr_ f)++p.flatMap (su_ f)
def gr_ (p:List Pc) (l:List Fc) (f:Fc):List Fc:=if f.kind=1 then subS p l f else if f.kind=2 then AO_ p l f else wN_ p l f
def jA_ (p:List Pc) (A:List Str):List Fc:=A.flatMap λa=>Q_ a a::Q_ a [42]::(p.filter λx=>decide (x.kind=7)).map λx=>ak_ a x.r a
theorem oU_ (p:List Pc) (A:List Str):jA_ p A=eZ_ (ap_ p) A:=by
  unfold jA_ eZ_ ap_;simp[ycO_,Function.comp_def]
section
variable {p:List Pc} {A:List Str} {l:List Fc} {f:Fc}
theorem qC_ (v:f∈l) (hF:∀ y∈l,y.form):∀ y∈gr_ p l f,hS_ p A (·∈l) y:=by
 have F:=hF f v;have M:=iT_ F;intro y d;unfold gr_ at d
 split at d
 .rename_i K
  have ef:=nH_ F K;rcases yag_.1 d with d|d
  .obtain⟨x,B,d⟩:=yar_.1 d
   split at d
   .rename_i m
    simp at d;subst d
    exact .r3 B m.1 zbj_
   split at d
   .rename_i m
    simp at d;subst d
    rcases m.2 with h|h
    .exact .r4 B m.1 (by rw[h.1,<-ef];exact v) h.2
    exact .r4 B m.1 h.2 (by rw[h.1,<-ef];exact v)
   split at d
   .rename_i m
    simp at d;subst d
    exact .r5 B m.1 zbj_
   split at d
   .rename_i m
    simp at d;subst d
    exact .r11 B m.1 zbj_
   simp at d
  obtain⟨g,E,d⟩:=yar_.1 d;unfold yU_ at d
  split at d
  .simp at d
  rename_i m
  simp only[not_or,Decidable.not_not]at m;have G:=(lR_ (hF g E) m.1).1;rcases yag_.1 d with d|d
  .split at d
   .rename_i H
    simp at d;subst d
    exact .r9 (r:=g.r) (b:=g.b) (by rw[<-G];exact E) (by rw[m.2,<-H,<-ef];exact v)
   simp at d
  obtain⟨x,B,d⟩:=yar_.1 d
  split at d
  .rename_i C
   simp at d;subst d
   exact .r8 (b:=g.b) B C.1 (by rw[C.2.1,<-G];exact E) (by rw[m.2,C.2.2,<-ef];exact v)
  simp at d
 split at d
 .rename_i J
  have ef:=(lR_ F J).1;rcases yag_.1 d with d|d
  .split at d
   .rename_i H
    simp at d;subst d
    exact .r9 (r:=f.r) (b:=f.b) (by rw[<-ef];exact v) H
   simp at d
  obtain⟨x,B,d⟩:=yar_.1 d;unfold oL_ at d
  split at d
  .rename_i m
   simp at d;subst d
   exact .r6 B m.1 zbj_
  split at d
  .rename_i m
   simp at d;subst d
   exact .r8 (b:=f.b) B m.1 (by rw[m.2.1,<-ef];exact v) m.2.2
  split at d
  .rename_i m
   obtain⟨g,E,d⟩:=yar_.1 d;unfold ub_ at d
   split at d
   .simp at d
   rename_i I
   have G:=(lR_ (hF g E) (Decidable.not_not.1 I)).1;rcases yag_.1 d with d|d
   .split at d
    .rename_i C
     simp at d;subst d
     exact .r7 (b:=f.b) B m (by rw[C.1,<-ef];exact v) (by rw[<-C.2.2,<-C.2.1,<-G];exact E)
    simp at d
   split at d
   .rename_i C
    simp at d;subst d
    exact .r7 (b:=f.a) B m (by rw[<-C.2.2,<-C.2.1,<-G];exact E) (by rw[C.1,<-ef];exact v)
   simp at d
  simp at d
 rename_i K J
 have L:f.kind=3:=by omega
 have ef:=(hN_ F L).1;rcases yag_.1 d with d|d
 .obtain⟨g,E,d⟩:=yar_.1 d
  unfold pr_ at d
  split at d
  .simp at d
  rename_i m
  simp only[not_or,Decidable.not_not]at m;have G:=(hN_ (hF g E) m.1).1;rw[m.2.1,m.2.2]at G
  split at d
  .rename_i hl
   simp at d;subst d
   exact .r12 (by rw[<-ef];exact v) (by rw[<-G];exact E) trivial hl
  rename_i hl
  simp at d;subst d
  exact .r13 (r:=f.r) (by rw[<-ef];exact v) (by rw[<-G];exact E) trivial (Int.not_le.1 hl)
 obtain⟨x,B,d⟩:=yar_.1 d;unfold su_ at d
 split at d
 .rename_i m
  simp at d;subst d
  exact .r14 B m.1 (by rw[m.2.1,<-ef];exact v) m.2.2.1 m.2.2.2
 simp at d
theorem so_:Cmpl p (·∈l) (λ_=>True) (·∈l) (·∈gr_ p l f) f:=by
 have v:∀ {a b y},f=Q_ a b->(y∈subS p l f)->y∈gr_ p l f:=λe h=>by unfold gr_;rw[yaq_ zbB_];exact h
 have B:∀ {a r b y},f=ak_ a r b->(y∈AO_ p l f)->y∈gr_ p l f:=λe h=>by unfold gr_;rw[yaf_ (by rw[e];simp[ak_]),yaq_ zbB_];exact h
 have G:∀ {y},f.kind=3->(y∈wN_ p l f)->y∈gr_ p l f:=λe h=>by unfold gr_;rw[yaf_ (by rw[e];decide),yaf_ (by rw[e];decide)];exact h
 refine⟨?_,?_,?_,?_,?_,?_,?_,?_,?_,?_,?_,?_,?_,?_,?_⟩
 .intro z a m d e
  refine v e (yal_ _ (yar_.2 ⟨z,m,?_⟩));rw[e,yaq_ ⟨d,rfl⟩];simp[Q_]
 .intro z a m d e h
  refine v e (yal_ _ (yar_.2 ⟨z,m,?_⟩));rw[e,yaf_ zaM_,yaq_ ⟨d,.inl ⟨rfl,h⟩⟩];simp[Q_]
 .intro z a m d e h
  refine v e (yal_ _ (yar_.2 ⟨z,m,?_⟩));rw[e,yaf_ zaM_,yaq_ ⟨d,.inr ⟨rfl,h⟩⟩];simp[Q_]
 .intro z a m d e
  refine v e (yal_ _ (yar_.2 ⟨z,m,?_⟩));rw[e,yaf_ zaM_,yaf_ zaM_,yaq_ ⟨d,rfl⟩];simp[Q_]
 .intro z a b m d e
  refine B e (yay_ _ (yar_.2 ⟨z,m,?_⟩));rw[e,oL_,yaq_ ⟨d,rfl⟩];simp[ak_]
 .intro z a b c m d e h
  refine B e (yay_ _ (yar_.2 ⟨z,m,?_⟩));rw[e,oL_,yaf_ zaM_,yaf_ zaM_,yaq_ d];refine yar_.2 ⟨_,h,?_⟩;rw[ub_,yaf_ (by simp[ak_])];refine yal_ _ ?_;rw[yaq_ ⟨rfl,rfl,rfl⟩];simp[ak_]
 .intro z a b c m d e h
  refine B e (yay_ _ (yar_.2 ⟨z,m,?_⟩));rw[e,oL_,yaf_ zaM_,yaf_ zaM_,yaq_ d];refine yar_.2 ⟨_,h,?_⟩;rw[ub_,yaf_ (by simp[ak_])];refine yay_ _ ?_;rw[yaq_ ⟨rfl,rfl,rfl⟩];simp[ak_]
 .intro z a b m d e h
  refine B e (yay_ _ (yar_.2 ⟨z,m,?_⟩));rw[e,oL_,yaf_ zaM_,yaq_ ⟨d,rfl,h⟩];simp[ak_]
 .intro z a b m d e h
  refine v e (yay_ _ (yar_.2 ⟨_,h,?_⟩));rw[yU_,yaf_ (by rw[e];simp[ak_,Q_])];refine yay_ _ (yar_.2 ⟨z,m,?_⟩);rw[e,yaq_ ⟨d,rfl,rfl⟩];simp[ak_]
 .intro a r b e h
  refine B e (yal_ _ ?_);rw[e,yaq_ (show Q_ (ak_ a r b).b [33]∈l from h)];simp[ak_]
 .intro a r b e h
  refine v e (yay_ _ (yar_.2 ⟨_,h,?_⟩));rw[yU_,yaf_ (by rw[e];simp[ak_,Q_])];refine yal_ _ ?_;rw[e,yaq_ (show (Q_ b [33]).b=[33] from rfl)];simp[ak_]
 .intro z a m d e
  refine v e (yal_ _ (yar_.2 ⟨z,m,?_⟩));rw[e,yaf_ zaM_,yaf_ zaM_,yaf_ zaM_,yaq_ ⟨d,rfl⟩];simp[Q_]
 .intro y F C d H E _ hl
  refine G F (yal_ _ (yar_.2 ⟨y,C,?_⟩));rw[pr_,yaf_ (by simp[d,H,E]),yaq_ hl];simp
 .intro y F C d H E _ hl
  refine G F (yal_ _ (yar_.2 ⟨y,C,?_⟩));rw[pr_,yaf_ (by simp[d,H,E]),yaf_ (Int.not_le.2 hl)];simp
 intro z a lo hi m d e J I;refine G zbB_ (yay_ _ (yar_.2 ⟨z,m,?_⟩));rw[e,su_,yaq_ ⟨d,rfl,J,I⟩];simp[ag_]
theorem AR_ {α β:Type} {g:α->List β} {n:Nat}:∀ (l:List α),(∀ x∈l,(g x).length<=n)->(l.flatMap g).length<=l.length*n
  | [],_=>by simp
  | x::l,h=>by
    have:=AR_ l λy d=>h y zaK_
    have m:=h x zai_;simp only[yaV_,yaj_,yai_,ycf_,Nat.one_mul];omega
theorem rm_ (hF:∀ y∈l,y.form) (y:Fc):y∈jA_ p A++l.flatMap (λf=>gr_ p l f)↔hS_ p A (·∈l) y:=by
 constructor
 .intro d
  rcases yag_.1 d with d|d
  .rw[oU_]at d;exact lV_ y d
  obtain⟨f,m,d⟩:=yar_.1 d;exact qC_ m hF y d
 intro d;refine yf_ (c:=l) (good:=λy=>y∈jA_ p A++l.flatMap (λf=>gr_ p l f)) (λy d=>yal_ _ (by rw[oU_];exact d)) (λf m=>?_) d;exact so_.up λy d=>yay_ _ (yar_.2 ⟨f,m,d⟩)
end
def grow1 (p:List Pc) (A:List Str) (l:List Fc):List Fc:=(jA_ p A++l.flatMap (λf=>gr_ p l f)).foldl sW_ l
def iD_ (p:List Pc) (A:List Str):Nat->List Fc
  | 0=>[]
  | n+1=>grow1 p A (iD_ p A n)
theorem nF_:∀ (xs l:List Fc) (y:Fc),y∈xs.foldl sW_ l↔y∈l\/y∈xs
 | [],l,y=>by simp
 | x::xs,l,y=>by
   rw[ycw_,nF_ xs,xL_];simp only[yan_];constructor
   . rintro ((h|h)|h)
     . exact .inl h
     . exact .inr (.inl h)
     . exact .inr (.inr h)
   . rintro (h|h|h)
     . exact .inl (.inl h)
     . exact .inl (.inr h)
     . exact .inr h
theorem nE_:∀ (xs:List Fc) {l:List Fc},Srt l->Srt (xs.foldl sW_ l)
  | [],_,h=>h
  | x::xs,_,h=>nE_ xs (xK_ x h)
theorem rV_ (p:List Pc) (A:List Str):∀ n,Srt (iD_ p A n)
  | 0=>List.Pairwise.nil
  | n+1=>nE_ _ (rV_ p A n)
theorem nQ_ {p:List Pc} {A:List Str} (m:∀ x∈p,x.vok):∀ n,∀ y∈iD_ p A n,Der p A y
 | 0,y,hy=>by simp[iD_]at hy
 | n+1,y,hy=>by
   have d:=nQ_ (A:=A) m n;rcases (nF_ _ _ y).1 hy with h|h
   . exact d y h
   . exact Der.step (((rm_ (λz B=>(d z B).form m) y).1 h).mono (λx v=>⟨x,v,x.frm,rfl⟩) (λ_ h=>h) d (λ_ _ h=>h))
theorem yi_ {p:List Pc} {A:List Str} (d:∀ x∈p,x.vok) (n m:Nat) (B:((jA_ p A++(iD_ p A n).flatMap (λf=>gr_ p (iD_ p A n) f)).all λy=>decide (y∈iD_ p A n))=true) (hl:(iD_ p A n).length<=m):fr_ p A m (some (iD_ p A n)):=by
  refine⟨rV_ p A n,λy=>⟨nQ_ d n y,λh=>h.least λz C=>?_⟩,hl⟩;exact ybf_ (yaQ_.1 B z ((rm_ (λw v=>(nQ_ d n w v).form d) z).2 C))
end Go.Vs
