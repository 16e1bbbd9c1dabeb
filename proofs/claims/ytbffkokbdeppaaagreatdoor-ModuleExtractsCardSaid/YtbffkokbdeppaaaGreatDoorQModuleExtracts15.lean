/-
  Lemmas for the law ModuleExtracts (no condition).
-/
import Derived.Test.YtbffkokbdeppaaaGreatDoorQModuleExtracts14
set_option linter.unusedVariables false
set_option linter.unusedSimpArgs false
set_option linter.unusedSectionVars false
set_option maxHeartbeats 1000000
namespace Go.Vs
open Go Go.Sx
def Con.nds:Con->List Con
  | .mk k nm lo hi ad cap ps=>.mk k nm lo hi ad cap ps::ndsL ps
where ndsL:List Con->List Con
  | []=>[]
  | p::ps=>nds p++ndsL ps
theorem wz_:∀ ps:List Con,Con.nds.ndsL ps=ps.flatMap Con.nds
  | []=>rfl
  | p::ps=>by rw[Con.nds.ndsL,wz_ ps,yaR_]
theorem Con.nds_eq (c:Con):c.nds=c::c.parts.flatMap Con.nds:=by cases c;rw[Con.nds,wz_];rfl
theorem wy_:∀ (n:Nat) (c:Con),c.sz<=n->c.nds.length<=c.sz
  | 0,c,h=>by grind[Con.sz_pos]
  | n+1,c,h=>by
    have key:∀ ps:List Con,(∀ p∈ps,p.nds.length<=p.sz)->(ps.flatMap Con.nds).length<=Con.sz.szs ps:=by
      intro ps
      induction ps<;>grind[Con.sz.szs]
    rw[Con.nds_eq,yap_,Con.sz_eq];have:=key c.parts λp d=>wy_ n p zaI_
    omega
def Con.nms (k:Int) (c:Con):List Str:=(c.nds.filter λx=>decide (x.kind=k)).map Con.name
theorem Con.nms_eq (k:Int) (c:Con):c.nms k=(if c.kind=k then [c.name] else [])++c.parts.flatMap (Con.nms k):=by
  unfold Con.nms;rw[Con.nds_eq,ycZ_]
  have key:∀ ps:List Con,((ps.flatMap Con.nds).filter λx=>decide (x.kind=k)).map Con.name=ps.flatMap λc=>(c.nds.filter λx=>decide (x.kind=k)).map Con.name:=by
    intro ps
    induction ps<;>grind
  grind
theorem Con.nms_len (k:Int) (c:Con):(c.nms k).length<=c.sz:=by
  unfold Con.nms;rw[yaB_];exact yaI_ (yce_ _ _) (wy_ _ c (yab_ _))
theorem qX_:∀ (n:Nat) (c:Con),c.sz<=n->c.check=0->∀ x∈c.nds,x.check=0
 | 0,c,h,_=>by grind[Con.sz_pos]
 | n+1,c,h,hc=>by
   intro x d;rw[Con.nds_eq,yar_,ybe_]at d;rcases d with rfl|⟨p,e,d⟩
   . exact hc
   . exact qX_ n p (by have:=Con.sz_part e;omega) (Con.check_part hc e) x d
structure NsI (X D Y:List Str):Prop where
  srt:SrS Y
  mem:∀ n,n∈Y↔n∈X\/n∈D
  len:Y.length<=X.length+D.length
theorem NsI.nil {X:List Str} (h:SrS X):NsI X [] X:=⟨h,λn=>by simp,by simp⟩
theorem NsI.one {X:List Str} {s:Str} (h:SrS X) (d:s≠[]):NsI X [s] (be_ X s) :=
  ⟨(fe_ h d).1,λn=>by grind[fe_],mv_ X s⟩
theorem NsI.app {X D Y E Z:List Str} (h:NsI X D Y) (g:NsI Y E Z):NsI X (D++E) Z :=
  ⟨g.srt,λn=>by rw[g.mem,h.mem,yaj_,or_assoc],by have:=h.len;have:=g.len;grind⟩
def Ax.inds (x:Ax):List Str:=x.left.nms 4++x.right.nms 4++(if x.a=[] then [] else [x.a])++(if x.b=[] then [] else [x.b])
def iE_ (l:List Ax):List Str:=l.flatMap Ax.inds
theorem vz_ {l:List Ax} {i:Nat} {x:Ax} (h:l[i]? = some x):iE_ (l.take (i+1))=iE_ (l.take i)++x.inds:=by
  grind[iE_,List.take_add_one]
structure W2I (l:List Str) (s:Str) (i:Nat) (R:List Str) (dn:Bool):Prop where
  no:dn=false->R=l.take i/\∀ x∈l.take i,x<s
  yes:dn=true->R++l.drop i=be_ l s
theorem tk1 {α:Type} {l:List α} {i:Nat} {x:α} (h:l[i]? = some x):l.take (i+1)=l.take i++[x]:=by grind[List.take_add_one]
theorem wU_ {α:Type} {l:List α} {i:Nat} {x:α} (h:l[i]? = some x):l.drop i=x::l.drop (i+1):=by
  grind[List.drop_eq_getElem_cons]
theorem W2I.t {l:List Str} {s x:Str} {i:Nat} {R:List Str} (h:W2I l s i R true) (d:l[i]? = some x):W2I l s (i+1) (R++[x]) true :=
  ⟨λq=>zbX_,λ_=>by have:=h.yes rfl;grind[wU_]⟩
theorem W2I.lt {l:List Str} {s x:Str} {i:Nat} {R:List Str} (h:W2I l s i R false) (hl:SrS l) (y:s≠[]) (k:l[i]? = some x) (e:s<x):W2I l s (i+1) ((R++[s])++[x]) true:=by
 obtain⟨C,u⟩:=h.no rfl;refine⟨λq=>zbX_,λ_=>?_⟩;have hi:=(yaf_.1 k).1
 have B:kS l s=i:=rm_ zaa_ u λz E=>by
   grind
 have A:s ∉ l:=λo=>by
   have d:s∈l.take i\/s∈l.drop i:=by grind[List.take_append_drop]
   rcases d with q|q
   . grind
   . rw[wU_ k]at q
     rcases yar_.1 q with rfl|q
     . grind
     . have v:SrS (l.drop i):=hl.sublist (List.drop_sublist _ _)
       grind[wU_,List.pairwise_cons]
 grind[kb_,wU_]
theorem ug_ {σ τ:Type} (f:Con->σ->σ):∀ (n:Nat) (c:Con),c.sz<=n->∀ s:σ,Con.fold (λx s=>(.inl (f x s):σ ⊕ τ)) c s=.inl (c.nds.foldl (λs x=>f x s) s)
  | 0,c,h=>by grind[Con.sz_pos]
  | n+1,c,h=>λs=>by
    rw[Con.fold_eq,Con.nds_eq,List.foldl_cons];dsimp only
    have key:∀ (ps:List Con),(∀ p∈ps,p.sz<=n)->∀ s:σ,Con.fold.folds (λx s=>(.inl (f x s):σ ⊕ τ)) ps s=.inl ((ps.flatMap Con.nds).foldl (λs x=>f x s) s):=by
      intro ps
      induction ps with
      | nil=>intro _ s;rfl
      | cons p ps ih =>
        intro d s;rw[Con.fold.folds,ug_ f n p (d p zak_) s]
        grind
    exact key c.parts (λp d=>by have:=Con.sz_part d;omega) _
end Go.Vs
namespace Go.Sx
open Go
section
variable {P:Program} {v0:Vw} {H0:Hp} {R:Exit->Act->World->Prop} {K:List Kt} {fr:Fr} {H:Hp} {Γ:List Fct}
def mks (Ds:List Nat):List Deferred:=Ds.map λD=>{ target:=.collected D,args:=#[] }
def mkH (Ds:List Nat):Hp:=Ds.map λD=>(D,.deferred (some []))
def Bg_ {ι:Type} (N:ι->Nf) (v0:Vw) (H0:Hp) (frs:ι->Fr) (Hs:ι->Hp) (Γs:ι->List Fct) (μ:ι->Nat) (n:Nat) (a:Act) (w:World):Prop :=
  ∃ j v,v.w=w/\Fr.sat (N j) (frs j) a/\v.sat (Hs j)/\v0.to H0 v (Hs j)/\aC_ (Γs j) v/\μ j<n
theorem mA_ {ι:Type} {c:Code} {B:Nf} (N:ι->Nf) (d:ι->Fr) (u:ι->Hp) (x:ι->List Fct) (μ:ι->Nat) (o:ι) {F:Hp} (A:Fr.le (d o) fr) (S:H.Perm (u o++F)) (Q:∀ v,v.sat H->aC_ Γ v->aC_ (x o) v)
    (h:∀ i,Run P R (N i) v0 H0 c (.inv (Bg_ N v0 H0 d u x μ (μ i))::K) (d i) (u i) (x i)) (W:B=N o:=by rfl):Run P R B v0 H0 (.loop c) K fr H Γ:=by
  subst W;refine bc_ _ A (em_ S Q ?_);intro a v L E T J;refine wp_loop_ghost (λn a w=>∃ i v,v.w=w/\Fr.sat (N i) (d i) a/\v.sat (u i)/\v0.to H0 v (u i)/\aC_ (x i) v/\μ i=n) (μ o) ⟨o,v,rfl,L,E,T,J,rfl⟩ ?_;rintro n a w ⟨i,v,rfl,O,G,X,M,rfl⟩;refine wp_mono (h i a v O G X M) λe Y w' k=>?_;cases e with
  | normal =>
    obtain⟨j,C,U,k1,k2,I,V,y⟩:=k;exact⟨μ j,y,j,C,U,k1,k2,I,V,rfl⟩
  | exit id=>exact k
  | goto l=>exact k
  | ret=>exact k
  | panic ch=>exact k
  | outgrown=>exact k
theorem kj_ {ι:Type} {o:Nf} {N:ι->Nf} {d:ι->Fr} {h:ι->Hp} {k:ι->List Fct} {μ:ι->Nat} {n:Nat} (j:ι) {F:Hp} (u:μ j<n) (e:Fr.le (d j) fr) (A:H.Perm (h j++F))
    (x:∀ v,v.sat H->aC_ Γ v->aC_ (k j) v) (G:o=N j:=by rfl):Ok o v0 H0 (Bg_ N v0 H0 d h k μ n) fr H Γ:=by
  subst G;exact bc_ (d j) e (em_ A x λ_ v E y B C=>⟨j,v,rfl,E,y,B,C,u⟩)
variable {N:Nat} {Ds:List Nat}
theorem retMs {fn:Func} {ι:Type} {G:Hp} {ret:ι->Value} {H':ι->Hp} {Γ':ι->List Fct} (x:ι) (Q:∀ (a:Act) (v:Vw),Fr.sat (⟨N,mks Ds⟩:Nf) fr a->v.sat G->aC_ Γ v->(results fn a.tmps).run P v.w=.ok (ret x) v.w) (E:H.Perm (mkH Ds++G))
    (S:∃ A,G.Perm (H' x++A)) (L:∀ v,v.sat G->aC_ Γ v->aC_ (Γ' x) v):Ok ⟨N,mks Ds⟩ v0 H0 (bodyPostM Fence.wide 0 P fn (lm_ v0 H0 ret H' Γ') .ret) fr H Γ:=by
  intro a v C F M I;show LeavesInM Fence.wide 0 P fn a.tmps _ a.defers .returning v.w
  rw[C.defers];obtain⟨A,y⟩:=S
  have key:∀ (e:List Nat) (d:Vw),d.sat (mkH e++G)->v0.to H0 d (mkH e++G)->aC_ Γ d->LeavesInM Fence.wide 0 P fn a.tmps (lm_ v0 H0 ret H' Γ') (mks e) .returning d.w:=by
    intro e
    induction e with
    | nil =>
      intro d k1 k2 o
      exact⟨ret x,Q a d C k1 o,x,d,rfl,rfl,(Vw.sat.perm k1 y).sub,L d k1 o,k2.subR λb k=>by
        grind⟩
    | cons D e ih =>
      intro d k1 k2 o;have hl:=(k1.own (D,.deferred (some [])) yaq_).1;have h:d.sat ((D,.deferred (some []))::(mkH e++G)):=k1;obtain⟨u,B⟩:=fx_ (o':=.deferred none) h;have O:(⟨d.im,d.w.putObj D (.deferred none),d.sl⟩:Vw).sat (mkH e++G):=⟨λp J=>u.own p (yaN_ _ J),by have:=u.nodup;grind,u.lt⟩;exact⟨by simp,.inl ⟨D,_,rfl,run_takeDeferred hl,ih ⟨d.im,_,d.sl⟩ O ((k2.trans B).subR λb k=>yaN_ _ k) (ba_ (B.le h) o)⟩⟩
  exact key Ds v (F.perm E) (M.subR λb k=>(E.map Prod.fst).mem_iff.2 k) I
theorem uX_ {σ α:Type} {g:Operand} {S:Nat} {assign body:Code} {J:FuncId} {caps:List Value} {Hj:σ->Hp} {Hc:Hp} {Γx:α->List Fct} {Γi:List Fct} {xv:α->Value} {good:α->Prop} {stp:α->σ->σ ⊕ Empty}
    (T:σ) (res:σ ⊕ Empty) (hg:Fr.ev fr g=some (.func (.func J) #[] caps.toArray)) (hH:H.Perm (Hc++Hj T)) (O:∀ v,v.sat H->aC_ Γ v->aC_ Γi v)
    (y:∀ l D (d:Loop),d.params=#[S]->d.state=.ready->d.pending=none->Fr.sat N fr ⟨d.tmps,[]⟩->d.assign=assign->d.body=body->∀ s x,good x->
      jY_ P l (xv x) (Hj s++HLp l D d) (Γx x) (λ_:Unit=>.bool (stp x s).isLeft) (λ_=>pJ_ (λs'=>Hj s'++HLp l D d) (λ_=>HLp l D { d with state:=.done,pending:=some .ret }) (stp x s)) (λ_=>[]))
    (hit:∀ l (Gj:σ->Hp) (Gx:Empty->Hp),(∀ s x,good x->jY_ P l (xv x) (Gj s) (Γx x) (λ_:Unit=>.bool (stp x s).isLeft) (λ_=>pJ_ Gj Gx (stp x s)) (λ_=>[]))->
      Tri P J (.func (.yield l) #[] #[]::caps).toArray (Hc++Gj T) Γi (λ_:Unit=>.tuple #[]) (λ_=>Hc++pJ_ Gj Gx res) (λ_=>[]))
    (B:∀ s',res=.inl s'->∀ D l r,Fin P R ⟨N,mks (D::Ds)⟩ v0 H0 K fr (Hc++Hj s'++HLp l D r) Γ) :
    Run P R ⟨N,mks Ds⟩ v0 H0 (.rangeFunc g #[S] assign body) K fr H Γ:=by
  intro a v C I h3 Z;refine wpIn_wide (n:=0) |>.1 (wpIn_mono (Q:=eM_ Fence.wide 0 P R K) (wpIn_rangeFunc λfn _=>?_) λe a w hq=>cd_ K e a w hq)
  obtain⟨a1,a2⟩:=gA_ (w':=v.w.alloc (.deferred (some []))) (o:=.deferred (some [])) I rfl rfl rfl rfl (yab_ _);obtain⟨d,k⟩:∃ d:Loop,d={ state:=.ready,pending:=none,fn,tmps:=a.tmps,params:=#[S],assign,body,defers:=v.w.heap.size }:=⟨_,rfl⟩;obtain⟨b1,b2⟩:=gA_ (w':=(v.w.alloc (.deferred (some []))).alloc (.loop d)) (o:=.loop d) a1 rfl rfl rfl rfl (yab_ _);have E:(v.w.alloc (Obj.deferred (some []))).heap.size=v.w.heap.size+1:=by simp
  have W:(⟨v.im,(v.w.alloc (.deferred (some []))).alloc (.loop d),v.sl⟩:Vw).sat ((v.w.heap.size+1,.loop d)::(v.w.heap.size,.deferred (some []))::H):=E▸b1;have F:v.to H ⟨v.im,(v.w.alloc (.deferred (some []))).alloc (.loop d),v.sl⟩ ((v.w.heap.size+1,.loop d)::(v.w.heap.size,.deferred (some []))::H):=a2.trans (E▸b2)
  have u:((v.w.heap.size+1,Obj.loop d)::(v.w.heap.size,.deferred (some []))::H).Perm (Hc++(Hj T++HLp (v.w.heap.size+1) v.w.heap.size d)):=by
    rw[<-yak_];exact (yah_ (l₁:=HLp (v.w.heap.size+1) v.w.heap.size d) (l₂:=H)).trans (hH.append_right _)
  have hT:=hit (v.w.heap.size+1) (λs=>Hj s++HLp (v.w.heap.size+1) v.w.heap.size d) (λ_=>HLp (v.w.heap.size+1) v.w.heap.size { d with state:=.done,pending:=some .ret })
    (y _ _ d zcg_ zcg_ zcg_ (by rw[k];exact⟨C.size,rfl,C.val⟩) zcg_ zcg_)
  have L:=ba_ (F.le I) (O v I Z);have he:=C.ev hg;refine⟨v.w.heap.size+1,qm_ v.w.heap.size,(v.w.alloc (.deferred (some []))).alloc (.loop d),⟨.fn (.func J) caps.toArray,#[.func (.yield (v.w.heap.size+1)) #[] #[]]⟩,(v.w.alloc (.deferred (some []))).alloc (.loop d),J,(.func (.yield (v.w.heap.size+1)) #[] #[]::caps).toArray,_,?_,?_,λ_ _=>trivial,?_,λh=>(by cases h),callsIn_wide.2 ((hT.run ⟨v.im,_,v.sl⟩ (W.perm u) L).mono ?_)⟩
  . rw[k];exact run_enterLoop_outer _ _ _ _ _
  . simp only[resolve,rangeCall,ybd_,yaE_,ybz_,he,Deferred.ofValue]
    rfl
  . have:=hT.callable (.func (.yield (v.w.heap.size+1)) #[] #[]::caps).toArray ((v.w.alloc (.deferred (some []))).alloc (.loop d))
    simpa [invoke] using this
  . rintro e w' ⟨_,v',rfl,rfl,g1,g2,g3⟩
    have G:=F.trans (g3.permL u.symm);have M:=ba_ (G.le I) Z;have U:∀ D,Fr.sat ⟨N,mks (D::Ds)⟩ fr { a with defers:=qm_ D++a.defers }:=λD=>⟨C.size,by show qm_ D++a.defers=_;rw[C.defers];rfl,C.val⟩
    have A:∀ (X Y:Hp) r,(Y++(X++HLp (v.w.heap.size+1) v.w.heap.size r)).Perm ((v.w.heap.size+1,.loop r)::(Y++X++[(v.w.heap.size,.deferred (some []))])):=λX Y r=>by
      unfold HLp;rw[<-yak_];exact ybo_
    cases res with
    | inl s' =>
      have q:=g1.perm (A (Hj s') Hc d);have hl:=(q.own _ yaq_).1;obtain⟨z1,z2⟩:=fx_ (o':=.loop { d with state:=.exhausted }) q
      have zp:((v.w.heap.size+1,Obj.loop { d with state:=.exhausted })::(Hc++Hj s'++[(v.w.heap.size,.deferred (some []))])).Perm (Hc++Hj s'++HLp (v.w.heap.size+1) v.w.heap.size { d with state:=.exhausted }):=by
        have:=(A (Hj s') Hc { d with state:=.exhausted }).symm;rw[<-yak_]at this;exact this
      refine⟨d.pending,_,run_endLoop hl (by rw[k];simp),?_⟩;have V:d.pending=none:=by rw[k]
      split
      case h_2=>rename_i c hc;rw[V]at hc;cases hc
      exact cz_ K .normal _ _ (B s' rfl _ _ _ _ ⟨v'.im,_,v'.sl⟩ (U _) (z1.perm zp) (h3.trans (G.trans ((z2.permL (A _ _ _).symm).subR λb hb=>(zp.map Prod.fst).mem_iff.2 hb))) (ba_ (z2.le q) M))
    | inr t=>exact nomatch t
end
end Go.Sx
namespace Go.Vs
open Go Go.Sx
def Ax.vc (k:Int) (x:Ax):List Str:=x.left.nms k++x.right.nms k++(if k=6 then x.roles++[x.role] else [])++(if k=4 then [x.a,x.b] else [])
def vcL (k:Int) (l:List Ax):List Str:=l.flatMap (Ax.vc k)
theorem yS_ {k:Int} {l:List Ax} {i:Nat} {x:Ax} (h:l[i]? = some x):vcL k (l.take (i+1))=vcL k (l.take i)++x.vc k:=by
  grind[vcL,List.take_add_one]
def StM.nil:StM:=⟨#[],0,[],SetE.nil,Born.nil 0⟩
structure VI (s:StM) (D:List Str):Prop where
  mem:∀ n,n∈s.ks↔n∈D
  len:s.ks.length<=D.length
theorem VI.add {s:StM} {D:List Str} (h:VI s D) (k:Str):VI (s.add k) (D++[k]) :=
  ⟨λn=>by grind[StM.mem,mem],by have:=StM.len (s:=s) (k:=k);have:=h.len;grind⟩
theorem VI.cg {s:StM} {D E:List Str} (h:VI s D) (e:D=E):VI s E:=e▸h
abbrev S4:=StM×StM×StM×StM
def eY_ (x:Con) (s:S4):S4:=if x.kind=3 then (s.1.add x.name,s.2) else if x.kind=6 then (s.1,s.2.1.add x.name,s.2.2) else if x.kind=7 then (s.1,s.2.1,s.2.2.1.add x.name,s.2.2.2) else if x.kind=4 then (s.1,s.2.1,s.2.2.1,s.2.2.2.add x.name) else s
structure V4 (s:S4) (D:Int->List Str):Prop where
  c:VI s.1 (D 3)
  r:VI s.2.1 (D 6)
  f:VI s.2.2.1 (D 7)
  i:VI s.2.2.2 (D 4)
theorem V4.nil:V4 (StM.nil,StM.nil,StM.nil,StM.nil) (λ_=>[]):=⟨⟨λn=>by simp[StM.nil],by simp[StM.nil]⟩,⟨λn=>by simp[StM.nil],by simp[StM.nil]⟩,⟨λn=>by simp[StM.nil],by simp[StM.nil]⟩,⟨λn=>by simp[StM.nil],by simp[StM.nil]⟩⟩
theorem V4.cg {s:S4} {D E:Int->List Str} (h:V4 s D) (e:∀ k,D k=E k):V4 s E:=⟨h.c.cg (e 3),h.r.cg (e 6),h.f.cg (e 7),h.i.cg (e 4)⟩
theorem V4.put {s:S4} {D:Int->List Str} (h:V4 s D) (x:Con):V4 (eY_ x s) (λk=>D k++if x.kind=k then [x.name] else []):=by
 unfold eY_
 split
 .rename_i q;exact⟨(h.c.add _).cg zap_,h.r.cg zap_,h.f.cg zap_,h.i.cg zap_⟩
 split
 .rename_i q;exact⟨h.c.cg zap_,(h.r.add _).cg zap_,h.f.cg zap_,h.i.cg zap_⟩
 split
 .rename_i q;exact⟨h.c.cg zap_,h.r.cg zap_,(h.f.add _).cg zap_,h.i.cg zap_⟩
 split
 .rename_i q;exact⟨h.c.cg zap_,h.r.cg zap_,h.f.cg zap_,(h.i.add _).cg zap_⟩
 rename_i e u o d;exact⟨h.c.cg zap_,h.r.cg zap_,h.f.cg zap_,h.i.cg zap_⟩
theorem V4.fold:∀ (L:List Con) {s:S4} {D:Int->List Str},V4 s D->V4 (L.foldl (λs x=>eY_ x s) s) (λk=>D k++(L.filter λx=>decide (x.kind=k)).map Con.name)
  | [],s,D,h=>h.cg λk=>by simp
  | x::L,s,D,h=>(V4.fold L (h.put x)).cg λk=>by
    grind
theorem V4.side {s:S4} {D:Int->List Str} {C:List Con} {j:Nat} {c:Con} (h:V4 s λk=>D k++(C.take j).flatMap (Con.nms k)) (d:C[j]? = some c):V4 (c.nds.foldl (λs x=>eY_ x s) s) (λk=>D k++(C.take (j+1)).flatMap (Con.nms k)) :=
  (V4.fold c.nds h).cg λk=>by
    rw[tk1 d,yan_,yak_];simp[Con.nms]
def S4.addR (s:S4) (n:Str):S4:=(s.1,s.2.1.add n,s.2.2)
def S4.addI (s:S4) (n:Str):S4:=(s.1,s.2.1,s.2.2.1,s.2.2.2.add n)
theorem V4.addR {s:S4} {D:Int->List Str} (h:V4 s D) (n:Str):V4 (s.addR n) (λk=>D k++if k=6 then [n] else []) :=
  ⟨h.c.cg zak_,(h.r.add n).cg zak_,h.f.cg zak_,h.i.cg zak_⟩
theorem V4.addI {s:S4} {D:Int->List Str} (h:V4 s D) (n:Str):V4 (s.addI n) (λk=>D k++if k=4 then [n] else []) :=
  ⟨h.c.cg zak_,h.r.cg zak_,h.f.cg zak_,(h.i.add n).cg zak_⟩
theorem V4.role {s:S4} {D:Int->List Str} {L:List Str} {j:Nat} {n:Str} (h:V4 s λk=>D k++if k=6 then L.take j else []) (d:L[j]? = some n):V4 (s.addR n) (λk=>D k++if k=6 then L.take (j+1) else []) :=
  (h.addR n).cg λk=>by grind[tk1]
theorem V4.axm {s:S4} {l:List Ax} {i:Nat} {x:Ax} (h:V4 s λk=>(vcL k (l.take i)++[x.left,x.right].flatMap (Con.nms k))++if k=6 then x.roles else []) (d:l[i]? = some x):V4 (((s.addR x.role).addI x.a).addI x.b) (λk=>vcL k (l.take (i+1))) :=
  (((h.addR x.role).addI x.a).addI x.b).cg λk=>by
    rw[yS_ d]
    grind[Ax.vc]
theorem vc_len {x:Ax} {k:Int} (d:x.left.sz<=1000000) (h:x.right.sz<=1000000) (e:x.roles.length<=1000000):(x.vc k).length<=4000000:=by
  grind[Ax.vc,Con.nms_len]
theorem rP_ {k:Int}:∀ {l:List Ax},(∀ x∈l,x.left.sz<=1000000/\x.right.sz<=1000000/\x.roles.length<=1000000)->(vcL k l).length<=4000000*l.length
  | [],_=>by simp[vcL]
  | x::l,h=>by
    have e:=rP_ (k:=k) (l:=l) λy d=>h y zbH_
    grind[vc_len,vcL]
theorem ti_ {l:List Str} (hl:l.Nodup):SrS (cu_ l):=by
  have e:=lS_ l;have d:(cu_ l).Nodup:=(ycP_ _ _).nodup_iff.2 hl;unfold List.Nodup at d;refine ycB_ (fun {a b} hab=>?_) (e.and d)
  grind
def iI_ (k:Int) (l:List Ax) (Y:List Str):Prop:=SrS Y/\∀ n,n∈Y↔n∈vcL k l/\(k=6\/k=4->n≠[])
theorem iI_.of {k:Int} {l:List Ax} {s:StM} (h:VI s (vcL k l)) (d:k≠6/\k≠4):iI_ k l (cu_ s.ks) :=
  ⟨ti_ s.hE.nd,λn=>by grind[List.mem_mergeSort,VI.mem]⟩
theorem iI_.ofD {k:Int} {l:List Ax} {s:StM} (h:VI s (vcL k l)) (d:k=6\/k=4):iI_ k l (cu_ (s.ks.filter λq=>decide (q≠[]))) :=
  ⟨ti_ (s.hE.nd.filter _),λn=>by grind[List.mem_mergeSort,VI.mem]⟩
theorem iI_.uniq {k:Int} {l:List Ax} {Y Z:List Str} (h:iI_ k l Y) (g:iI_ k l Z):Y=Z:=rU_ h.1 g.1 λn=>(h.2 n).trans (g.2 n).symm
end Go.Vs
namespace Go.Proofs.YtbffkokbdeppaaaGreatDoor
open Go Go.Sx Go.Proofs Tryz
attribute [local irreducible] Code.wp wpList wpAnyH
open Go.Vs
theorem zg_:iJ_ prog 83 [(0,1),(1,1),(2,1),(3,1)] [.slice none 0 0,.slice none 0 0,.slice none 0 0,.slice none 0 0]:=⟨_,he_,runUnderlying83,λw=>by simp[bo_]⟩
abbrev axA (x:Ax):Array Value:=#[.int .i64 x.kind,.bool x.opn,.int .i64 x.left.kind,str x.left.name,.int .i64 x.left.lo,.int .i64 x.left.hi,.slice x.left.ad x.left.parts.length x.left.cap,.int .i64 x.right.kind,str x.right.name,.int .i64 x.right.lo,.int .i64 x.right.hi,.slice x.right.ad x.right.parts.length x.right.cap,.slice x.ad x.roles.length x.cap,str x.role,str x.a,str x.b]
abbrev coA (c:Con):Array Value:=#[.int .i64 c.kind,str c.name,.int .i64 c.lo,.int .i64 c.hi,.slice c.ad c.parts.length c.cap]
theorem zU_ {A B:Hp} {l D:Nat} {r:Loop} {Ds:List Nat}:(B++(mkH Ds++A)++HLp l D r).Perm ((mkH (D::Ds)++A)++(B++[(l,.loop r)])):=by
  have d:(B++(mkH Ds++A)++HLp l D r).Perm ((mkH Ds++A)++B++HLp l D r):=List.Perm.append_right _ yah_;have e:(mkH Ds++A)++B++HLp l D r=((mkH Ds++A)++(B++[(l,.loop r)]))++[(D,.deferred (some []))]:=by simp[HLp]
  rw[e]at d;exact d.trans yah_
theorem ki_ {P:Program} {N:Nf} {T:Vw} {I H:Hp} {R:Exit->Act->World->Prop} {S:List Kt} {fr:Fr} {Γ:List Fct} {A:Array Oper} {lo:List Oper} {ty:TypeId} {ps:String} {W:Array Edge} {o:Op} {t J V:TypeId} {x y z:Operand} {b:Nat} (n:Nat) (s:StM) {k:Str} (C:KeyT P J str) (L:o=.insert t x y z\/o=.mapUpdate t x y z) (O:∀ w,(underlying t).run P w=.ok (.map J V) w)
    (Q:Fr.ev fr x=some (.map (some b))) (M:Fr.ev fr y=some (str k)) (K:Fr.ev fr z=some (.bool true)) (hi:H[n]? = some (b,.map s.es s.c))
    (d:Ops P R N T I A lo S fr (H.set n (b,.map (s.add k).es (s.add k).c)) Γ):Ops P R N T I A (⟨none,o,ty,ps,W,none⟩::lo) S fr H Γ:=by
  by_cases v:k∈s.ks
  . have G:s.add k=s:=by unfold StM.add;rw[dif_pos v]
    rw[G]at d;obtain⟨i,e,U,B,h,F,E⟩:=s.hE.yes C v;refine gQ_ (e:=e) (i:=i) (u:=.bool true) (u':=.bool true) n C L O Q M K hi E B h ?_;rw[ht_ B h F];exact d
  . have G:s.add k=⟨s.es.push ⟨str k,.bool true,s.c⟩,s.c+1,s.ks++[k],s.hE.push v s.c,s.hB.push _ _⟩:=by unfold StM.add;rw[dif_neg v]
    rw[G]at d;exact bG_ n L O Q M K hi (C.ok _) (s.hE.no C v) d
theorem Dl_ {x:Ax} (h:x.check=0):x.roles.length<=4:=by
 unfold Ax.check at h
 split at h
 .cases h
 rename_i d
 clear h;simp only[ycW_]at d;unfold Ax.shaped at d
 split at d
 .cases d
 rename_i u
 simp only[not_or]at u;have o:x.kind=1\/x.kind=2\/x.kind=3\/x.kind=4\/x.kind=5\/x.kind=6\/x.kind=7\/x.kind=8\/x.kind=9:=by omega
 simp only[yaJ_,yaY_]at d;have k:=d.2;rcases o with e|e|e|e|e|e|e|e|e<;>rw[e]at k<;>simp[us,kQ_]at k<;>first|omega|grind
def rkS (r:List Str×Ao×Nat):Prop:=r.1.length<=r.2.2/\r.2.2<=maxLen/\(r.2.1=none->r.2.2=0)
set_option maxHeartbeats 1000000 in
theorem voc_c (M:List Ax) (lad:Ao) (lcap:Nat) (hok:∀ x∈M,x.ok) (hC:∀ x∈M,x.check=0) (hll:M.length<=20):Tri prog 50 #[.slice lad M.length lcap] [] [bA_ lad M,cy_] (λy:{y:(List Str×Ao×Nat)×(List Str×Ao×Nat)×(List Str×Ao×Nat)×(List Str×Ao×Nat) // (iI_ 3 M y.1.1/\rkS y.1)/\(iI_ 6 M y.2.1.1/\rkS y.2.1)/\(iI_ 7 M y.2.2.1.1/\rkS y.2.2.1)/\(iI_ 4 M y.2.2.2.1/\rkS y.2.2.2)}=>.tuple #[.agg #[.slice y.1.1.2.1 y.1.1.1.length y.1.1.2.2,.slice y.1.2.1.2.1 y.1.2.1.1.length y.1.2.1.2.2,.slice y.1.2.2.1.2.1 y.1.2.2.1.1.length y.1.2.2.1.2.2,.slice y.1.2.2.2.2.1 y.1.2.2.2.1.length y.1.2.2.2.2.2],i4_ 0]) (λ_=>[]) (λy=>[O_ y.1.1.2.1 (y.1.1.1.flatMap V_),O_ y.1.2.1.2.1 (y.1.2.1.1.flatMap V_),O_ y.1.2.2.1.2.1 (y.1.2.2.1.1.flatMap V_),O_ y.1.2.2.2.2.1 (y.1.2.2.2.1.flatMap V_)]):=by
 refine eJ_ func50 rfl rfl ntmps50 rfl λv_1=>?_;have hx_1:=(@axA,@coA);have hzb:∀ x∈M,x.left.sz<=1000000/\x.right.sz<=1000000/\x.roles.length<=1000000:=λx hx=>⟨by have:=(jR_ (hC x hx)).1;omega,by have:=(jR_ (hC x hx)).2;omega,by have:=Dl_ (hC x hx);omega⟩
 refine Zz 2 ?_;refine K_ he_ rfl λJ=>Zz 12 ?_
 refine Y_ (ι:={y:Nat // y<=List.length M}) (λy=>[(0,.slice lad M.length lcap),(2,zp_ J 0),(3,i4_ 0),(21,.slice lad M.length lcap),(22,i4_ (List.length M:Int)),(23,i4_ y.1)]) (λy=>((J,.cells #[.slice none 0 0,.slice none 0 0,.slice none 0 0,.slice none 0 0] 83 (0,0))::[])) (λy=>[bA_ lad M,cy_]) (λy=>M.length - y.1) ⟨(0:Nat),by simp⟩ zl f_ zh ?_;rintro ⟨Z,hi_i0⟩;dsimp only at hi_i0 ⊢;refine Zi 2 (λR=>?_) λR=>?_
 .refine Zz 8 ?_
  refine dm_ rfl λo=>dm_ rfl λC=>Zz 6 ?_
  refine dm_ rfl λA=>dm_ rfl λB=>Zz 6 ?_
  refine dm_ rfl λH=>Zz 1 ?_
  refine bG_ 0 (.inl rfl) di_ rfl rfl rfl rfl (bR_ F_) (bu_ F_ rfl) (Zz 1 ?_);refine bG_ 0 (.inl rfl) di_ rfl rfl rfl rfl (bR_ F_) (bu_ F_ rfl) (Zz 1 ?_);refine bG_ 0 (.inl rfl) di_ rfl rfl rfl rfl (bR_ F_) (bu_ F_ rfl) (Zz 1 ?_);refine bG_ 0 (.inl rfl) di_ rfl rfl rfl rfl (bR_ F_) (bu_ F_ rfl) (Zz 1 ?_);refine K_ zeroValue152 rfl λL=>o_ 0 sizeOf152 rfl rfl rfl rfl rfl rfl (Zz 11 ?_)
  refine s_ (H':=((L,.cells #[.map (some H)] 152 (0,0))::((H,.map #[⟨i4_ 3,.map (some o),0⟩,⟨i4_ 6,.map (some C),1⟩,⟨i4_ 7,.map (some A),2⟩,⟨i4_ 4,.map (some B),3⟩] 4)::((B,.map #[] 0)::((A,.map #[] 0)::((C,.map #[] 0)::((o,.map #[] 0)::((J,.cells #[.slice none 0 0,.slice none 0 0,.slice none 0 0,.slice none 0 0] 83 (0,0))::(mkH []))))))))) (.refl _) ?_;refine mA_ (N:=λy=>⟨110,mks y.1.2.2⟩) (ι:={y:Nat×S4×List Nat // y.1<=List.length M/\V4 y.2.1 (λk=>vcL k (M.take y.1))}) (λy=>[(0,.slice lad M.length lcap),(2,zp_ J 0),(3,i4_ 0),(21,.slice lad M.length lcap),(22,i4_ (List.length M:Int)),(23,i4_ Z),(7,.map (some o)),(8,.map (some C)),(9,.map (some A)),(10,.map (some B)),(11,zp_ L 0),(44,.slice lad M.length lcap),(45,i4_ (List.length M:Int)),(46,i4_ y.1.1)]) (λy=>((L,.cells #[.map (some H)] 152 (0,0))::((H,.map #[⟨i4_ 3,.map (some o),0⟩,⟨i4_ 6,.map (some C),1⟩,⟨i4_ 7,.map (some A),2⟩,⟨i4_ 4,.map (some B),3⟩] 4)::((B,.map y.1.2.1.2.2.2.es y.1.2.1.2.2.2.c)::((A,.map y.1.2.1.2.2.1.es y.1.2.1.2.2.1.c)::((C,.map y.1.2.1.2.1.es y.1.2.1.2.1.c)::((o,.map y.1.2.1.1.es y.1.2.1.1.c)::((J,.cells #[.slice none 0 0,.slice none 0 0,.slice none 0 0,.slice none 0 0] 83 (0,0))::(mkH y.1.2.2))))))))) (λy=>[bA_ lad M,cy_]) (λy=>M.length - y.1.1) ⟨((0:Nat),((StM.nil,StM.nil,StM.nil,StM.nil):S4),([]:List Nat)),by simp,V4.nil.cg λk=>by simp[vcL]⟩ zl zp zh ?_;rintro ⟨⟨i,s,Ds⟩,hi_i,hV⟩;dsimp only at hi_i hV ⊢;refine Zi 2 (λhr_2=>?_) λhr_2=>?_
  .refine Zz 7 ?_
   rw[yac_ zaa_]at hV;have U:∀ k,List.length (vcL k M)<=80000000:=λk=>yaI_ (rP_ hzb) zaa_
   have hq_1:s.1.ks.length<=100000000:=by have:=hV.c.len;have:=U 3;omega
   have hq_2:List.length (List.filter (λq=>decide (q≠[])) s.2.1.ks)<=100000000:=by have:=hV.r.len;have:=U 6;have:=yce_ (λq=>decide (q≠[])) s.2.1.ks;omega
   have hq_3:s.2.2.1.ks.length<=100000000:=by have:=hV.f.len;have:=U 7;omega
   have hq_4:List.length (List.filter (λq=>decide (q≠[])) s.2.2.2.ks)<=100000000:=by have:=hV.i.len;have:=U 4;have:=yce_ (λq=>decide (q≠[])) s.2.2.2.ks;omega
   refine Zz 2 ?_;refine tK_ 4 eG_ bH_ rfl rfl rfl s.2.1.hE s.2.1.hB rfl λeD_1 hE_1 hB_1=>Zz 5 ?_
   refine tK_ 2 eG_ bH_ rfl rfl rfl s.2.2.2.hE s.2.2.2.hB rfl λeD_2 hE_2 hB_2=>Zz 5 ?_
   refine d_ (mg_ o) rfl e_ zt rfl λa2=>d_ (gF_ 193 [zp_ a2 0] [(a2,.cells #[.map (some o)] 151 (0,0)),(o,.map s.1.es s.1.c)] s.1.ks s.1.hE.nd hq_1 (mh_ o a2 s.1.c s.1.es s.1.ks s.1.hE.ke s.1.hB hq_1)) rfl (E_ f_ (g_ (g_ (g_ (g_ (g_ f_)))))) zt rfl λ⟨⟨ad_1,cp_1⟩,V,hs_2,hs_3⟩=>?_;dsimp only;refine Zz 1 ?_;refine d_ (mg_ C) rfl e_ zt rfl λa0=>d_ (gF_ 193 [zp_ a0 0] [(a0,.cells #[.map (some C)] 151 (0,0)),(C,.map eD_1 s.2.1.c)] (List.filter (λq=>decide (q≠[])) s.2.1.ks) hE_1.nd hq_2 (mh_ C a0 s.2.1.c eD_1 (List.filter (λq=>decide (q≠[])) s.2.1.ks) hE_1.ke hB_1 hq_2)) rfl zp zt rfl λ⟨⟨ad_2,cp_2⟩,hs_4,hs_5,hs_6⟩=>?_;dsimp only;refine Zz 1 ?_;refine d_ (mg_ A) rfl e_ zt rfl λby_3=>d_ (gF_ 193 [zp_ by_3 0] [(by_3,.cells #[.map (some A)] 151 (0,0)),(A,.map s.2.2.1.es s.2.2.1.c)] s.2.2.1.ks s.2.2.1.hE.nd hq_3 (mh_ A by_3 s.2.2.1.c s.2.2.1.es s.2.2.1.ks s.2.2.1.hE.ke s.2.2.1.hB hq_3)) rfl zp zt rfl λ⟨⟨ad_3,cp_3⟩,hs_7,hs_8,hs_9⟩=>?_;dsimp only;refine Zz 1 ?_;refine d_ (mg_ B) rfl e_ zt rfl λby_4=>d_ (gF_ 193 [zp_ by_4 0] [(by_4,.cells #[.map (some B)] 151 (0,0)),(B,.map eD_2 s.2.2.2.c)] (List.filter (λq=>decide (q≠[])) s.2.2.2.ks) hE_2.nd hq_4 (mh_ B by_4 s.2.2.2.c eD_2 (List.filter (λq=>decide (q≠[])) s.2.2.2.ks) hE_2.ke hB_2 hq_4)) rfl zp zt rfl λ⟨⟨ad_4,cp_4⟩,hs_10,hs_11,hs_12⟩=>?_;dsimp only;refine c_ (x_ zg_ rfl rfl) rfl (o_ 10 eb_ rfl rfl rfl rfl rfl rfl (Zz 4 ?_));exact retMs ⟨((cu_ s.1.ks,ad_1,cp_1),(cu_ (List.filter (λq=>decide (q≠[])) s.2.1.ks),ad_2,cp_2),(cu_ s.2.2.1.ks,ad_3,cp_3),(cu_ (List.filter (λq=>decide (q≠[])) s.2.2.2.ks),ad_4,cp_4)),⟨iI_.of hV.c zaa_,V,hs_2,hs_3⟩,⟨iI_.ofD hV.r zaa_,hs_4,hs_5,hs_6⟩,⟨iI_.of hV.f zaa_,hs_7,hs_8,hs_9⟩,⟨iI_.ofD hV.i zaa_,hs_10,hs_11,hs_12⟩⟩ (λaa v h_1 h_2 _=>br_ (us:=[.slice ad_1 (cu_ s.1.ks).length cp_1,.slice ad_2 (cu_ (List.filter (λq=>decide (q≠[])) s.2.1.ks)).length cp_2,.slice ad_3 (cu_ s.2.2.1.ks).length cp_3,.slice ad_4 (cu_ (List.filter (λq=>decide (q≠[])) s.2.2.2.ks)).length cp_4]) 10 results50 isAgg83 eb_ rfl rfl rfl rfl aa v h_1 h_2) (g_ (g_ (g_ (g_ (g_ (g_ (g_ (g_ (g_ (g_ ah_)))))))))) ⟨_,.refl _⟩ zf
  obtain⟨S,d,hx_2,O⟩:=zge (show i<M.length by omega);have hrc:=(hok d O).cap;refine Zz 12 ?_;refine K_ aQ_ rfl λP=>o_ 0 D_ rfl rfl rfl rfl rfl rfl (Zz 9 ?_)
  refine p_ z_ i_ ay_ rfl rfl rfl rfl rfl rfl λX=>?_;refine R_ (List.flatMap Con.cells [d.left,d.right]) f_ rfl ?_;refine Zz 5 ?_;refine mA_ (N:=λy=>⟨110,mks y.1.2.2⟩) (ι:={y:Nat×S4×List Nat // y.1<=List.length [d.left,d.right]/\V4 y.2.1 (λk=>vcL k (M.take i)++List.flatMap (Con.nms k) (List.take y.1 [d.left,d.right]))}) (λy=>[(0,.slice lad M.length lcap),(2,zp_ J 0),(3,i4_ 0),(21,.slice lad M.length lcap),(22,i4_ (List.length M:Int)),(23,i4_ Z),(7,.map (some o)),(8,.map (some C)),(9,.map (some A)),(10,.map (some B)),(11,zp_ L 0),(44,.slice lad M.length lcap),(45,i4_ (List.length M:Int)),(46,i4_ i),(13,zp_ P 0),(54,.slice (some ⟨X,0,none⟩) (List.length [d.left,d.right]) 2),(55,i4_ 2),(56,i4_ y.1.1)]) (λy=>((P,.cells (axA d) 30 (0,0))::((L,.cells #[.map (some H)] 152 (0,0))::((H,.map #[⟨i4_ 3,.map (some o),0⟩,⟨i4_ 6,.map (some C),1⟩,⟨i4_ 7,.map (some A),2⟩,⟨i4_ 4,.map (some B),3⟩] 4)::((B,.map y.1.2.1.2.2.2.es y.1.2.1.2.2.2.c)::((A,.map y.1.2.1.2.2.1.es y.1.2.1.2.2.1.c)::((C,.map y.1.2.1.2.1.es y.1.2.1.2.1.c)::((o,.map y.1.2.1.1.es y.1.2.1.1.c)::((J,.cells #[.slice none 0 0,.slice none 0 0,.slice none 0 0,.slice none 0 0] 83 (0,0))::(mkH y.1.2.2)))))))))) (λy=>[O_ (some ⟨X,0,none⟩) (List.flatMap Con.cells [d.left,d.right]),bA_ lad M,cy_]) (λy=>List.length [d.left,d.right] - y.1.1) ⟨((0:Nat),s,Ds),by simp,hV.cg λk=>by simp⟩ zl zp zh ?_;rintro ⟨⟨j,s,Ds⟩,hi_j,W⟩;dsimp only at hi_j W ⊢;refine Zi 2 (λhr_3=>?_) λhr_3=>?_
  .refine Zz 16 ?_
   have hV2e:V4 s (λk=>vcL k (M.take i)++List.flatMap (Con.nms k) [d.left,d.right]):=by rw[yac_ (l:=[d.left,d.right]) zbu_]at W;exact W
   refine mA_ (N:=λy=>⟨110,mks y.1.2.2⟩) (ι:={y:Nat×S4×List Nat // y.1<=List.length d.roles/\V4 y.2.1 (λk_1=>(vcL k_1 (M.take i)++List.flatMap (Con.nms k_1) [d.left,d.right])++if k_1=6 then List.take y.1 d.roles else [])}) (λy=>[(0,.slice lad M.length lcap),(2,zp_ J 0),(3,i4_ 0),(21,.slice lad M.length lcap),(22,i4_ (List.length M:Int)),(23,i4_ Z),(7,.map (some o)),(8,.map (some C)),(9,.map (some A)),(10,.map (some B)),(11,zp_ L 0),(44,.slice lad M.length lcap),(45,i4_ (List.length M:Int)),(46,i4_ i),(13,zp_ P 0),(54,.slice (some ⟨X,0,none⟩) (List.length [d.left,d.right]) 2),(55,i4_ 2),(56,i4_ j),(76,.slice d.ad d.roles.length d.cap),(77,i4_ (List.length d.roles:Int)),(78,i4_ y.1.1)]) (λy=>((P,.cells (axA d) 30 (0,0))::((L,.cells #[.map (some H)] 152 (0,0))::((H,.map #[⟨i4_ 3,.map (some o),0⟩,⟨i4_ 6,.map (some C),1⟩,⟨i4_ 7,.map (some A),2⟩,⟨i4_ 4,.map (some B),3⟩] 4)::((B,.map y.1.2.1.2.2.2.es y.1.2.1.2.2.2.c)::((A,.map y.1.2.1.2.2.1.es y.1.2.1.2.2.1.c)::((C,.map y.1.2.1.2.1.es y.1.2.1.2.1.c)::((o,.map y.1.2.1.1.es y.1.2.1.1.c)::((J,.cells #[.slice none 0 0,.slice none 0 0,.slice none 0 0,.slice none 0 0] 83 (0,0))::(mkH y.1.2.2)))))))))) (λy=>[O_ (some ⟨X,0,none⟩) (List.flatMap Con.cells [d.left,d.right]),bA_ lad M,cy_]) (λy=>d.roles.length - y.1.1) ⟨((0:Nat),s,Ds),by simp,hV2e.cg λk=>by simp⟩ zl zp zh ?_;rintro ⟨⟨k,s,Ds⟩,hi_k,Q⟩;dsimp only at hi_k Q ⊢;refine Zi 2 (λhr_4=>?_) λhr_4=>?_
   .refine Zz 7 ?_
    rw[yac_ (l:=Ax.roles d) zaa_]at Q;refine Zz 4 ?_;refine ki_ 5 s.2.1 eG_ (.inr rfl) bH_ rfl rfl rfl rfl (Zz 7 ?_);refine ki_ 3 ((s.addR d.role).2.2.2) eG_ (.inr rfl) bH_ rfl rfl rfl rfl (Zz 6 ?_);refine ki_ 3 (((s.addR d.role).addI d.a).2.2.2) eG_ (.inr rfl) bH_ rfl rfl rfl rfl (Zz 7 ?_);exact kj_ ⟨(i+1,(((s.addR d.role).addI d.a).addI d.b),Ds),S,Q.axm hx_2⟩ zae_ zl (E_ (g_ f_) (E_ (g_ f_) (E_ (g_ f_) (E_ (g_ f_) (E_ (g_ f_) (E_ (g_ f_) (E_ (g_ f_) ah_))))))) (λ_ _ h=>h.2)
   have a4:k<d.roles.length:=by omega
   obtain⟨r_1,R⟩:∃ e_1,d.roles[k]? = some e_1:=⟨_,yaa_ a4⟩;refine Zz 10 ?_;refine c_ (J_ m_ B_ rfl rfl (λv _ h=>az_ (n:=1) au_ zaj_ (by exact (h.2.1.2 d O).2.2) R) zaa_ zah_) rfl ?_;refine c_ (aS_ (ad:=d.ad) aJ_ rfl (λv _ h=>by exact (h.2.1.2 d O).2.2) (t_ au_ R 0 _ rfl)) rfl (Zz 6 ?_);refine ki_ 5 s.2.1 eG_ (.inr rfl) bH_ rfl rfl rfl rfl (Zz 7 ?_);exact kj_ ⟨(k+1,(s.addR r_1),Ds),a4,Q.role R⟩ zae_ zl zp zh
  have hlc_1:j<List.length [d.left,d.right]:=by simp only[yap_,yaw_]at *;omega
  obtain⟨e,a1⟩:∃ e_1,[d.left,d.right][j]? = some e_1:=⟨_,yaa_ hlc_1⟩;have a3:e∈[d.left,d.right]:=yad_ a1;refine Zz 11 ?_;refine c_ (ax_ (ad:=(some ⟨X,0,none⟩)) (us:=Con.cells e) H_ i_ rfl zf (Con.cells_len _) (t_ Con.cells_len a1)) rfl (K_ ay_ rfl λK=>o_ 0 i_ rfl rfl rfl rfl rfl rfl (Zz 5 ?_));refine d_ (uO_ e) rfl e_ zt rfl λbw=>Zz 3 ?_
  refine bc_ [(0,.slice lad M.length lcap),(2,zp_ J 0),(3,i4_ 0),(21,.slice lad M.length lcap),(22,i4_ (List.length M:Int)),(23,i4_ Z),(7,.map (some o)),(8,.map (some C)),(9,.map (some A)),(10,.map (some B)),(11,zp_ L 0),(44,.slice lad M.length lcap),(45,i4_ (List.length M:Int)),(46,i4_ i),(13,zp_ P 0),(54,.slice (some ⟨X,0,none⟩) (List.length [d.left,d.right]) 2),(55,i4_ 2),(56,i4_ j),(61,.func (.func 190) #[] #[zp_ bw 0])] zl ?_;have hokc:e.ok:=(jS_ (hok d O) (hzb d O).1 (hzb d O).2.1 a3).1;refine em_ (H':=(bw,.cells (Con.cells e).toArray 28 (0,0))::(mkH Ds++[(o,.map s.1.es s.1.c),(C,.map s.2.1.es s.2.1.c),(A,.map s.2.2.1.es s.2.2.1.c),(B,.map s.2.2.2.es s.2.2.2.c),(K,.cells (coA e) 28 (0,0)),(P,.cells (axA d) 30 (0,0)),(L,.cells #[.map (some H)] 152 (0,0)),(H,.map #[⟨i4_ 3,.map (some o),0⟩,⟨i4_ 6,.map (some C),1⟩,⟨i4_ 7,.map (some A),2⟩,⟨i4_ 4,.map (some B),3⟩] 4),(J,.cells #[.slice none 0 0,.slice none 0 0,.slice none 0 0,.slice none 0 0] 83 (0,0))])) (F:=[]) (by exact (E_ f_ (bP_ (g_ (g_ (g_ (g_ (g_ (g_ (g_ (g_ ah_)))))))) (E_ (g_ (g_ (g_ (g_ (g_ (g_ (g_ f_))))))) (E_ (g_ (g_ (g_ (g_ (g_ (g_ f_)))))) (E_ (g_ (g_ (g_ (g_ (g_ f_))))) (E_ (g_ (g_ (g_ (g_ f_)))) (E_ f_ (E_ f_ (E_ f_ (E_ f_ f_))))))))))) zh ?_;refine uX_ (Ds:=Ds) (α:={c:Con // c.ok}) (xv:=λx=>x.1.val) (good:=λ_=>True) (stp:=λx s=>.inl (eY_ x.1 s)) (Γx:=λx=>[x.1.memF]) (Γi:=[Con.memF e]) (Hj:=(λt:S4=>(mkH Ds++[(o,.map t.1.es t.1.c),(C,.map t.2.1.es t.2.1.c),(A,.map t.2.2.1.es t.2.2.1.c),(B,.map t.2.2.2.es t.2.2.2.c),(K,.cells (coA e) 28 (0,0)),(P,.cells (axA d) 30 (0,0)),(L,.cells #[.map (some H)] 152 (0,0)),(H,.map #[⟨i4_ 3,.map (some o),0⟩,⟨i4_ 6,.map (some C),1⟩,⟨i4_ 7,.map (some A),2⟩,⟨i4_ 4,.map (some B),3⟩] 4),(J,.cells #[.slice none 0 0,.slice none 0 0,.slice none 0 0,.slice none 0 0] 83 (0,0))]))) (Hc:=[(bw,.cells (Con.cells e).toArray 28 (0,0))]) (caps:=[zp_ bw 0]) s (Con.fold (λx s=>.inl (eY_ x s)) e s) rfl (.refl _) (λv _ h=>by exact⟨(uB_ (h.2.1.2 d O) a3),trivial⟩) ?_ ?_ ?_
  .rintro l D rec hpa hst hpe ht hasg hbody s ⟨x,hx⟩ -
   refine kM_ (ι:=Nat) (Hj:=(λt:S4=>(mkH Ds++[(o,.map t.1.es t.1.c),(C,.map t.2.1.es t.2.1.c),(A,.map t.2.2.1.es t.2.2.1.c),(B,.map t.2.2.2.es t.2.2.2.c),(K,.cells (coA e) 28 (0,0)),(P,.cells (axA d) 30 (0,0)),(L,.cells #[.map (some H)] 152 (0,0)),(H,.map #[⟨i4_ 3,.map (some o),0⟩,⟨i4_ 6,.map (some C),1⟩,⟨i4_ 7,.map (some A),2⟩,⟨i4_ 4,.map (some B),3⟩] 4),(J,.cells #[.slice none 0 0,.slice none 0 0,.slice none 0 0,.slice none 0 0] 83 (0,0))]))) (Hx:=λ_:Empty=>[]) (s:=s) (res:=.inl (eY_ x s)) (Γ:=[x.memF]) (λI=>[(11,zp_ L 0),(16,zp_ I 0)]) (λI=>((I,.cells (coA x) 28 (0,0))::(mkH Ds++[(o,.map s.1.es s.1.c),(C,.map s.2.1.es s.2.1.c),(A,.map s.2.2.1.es s.2.2.1.c),(B,.map s.2.2.2.es s.2.2.2.c),(K,.cells (coA e) 28 (0,0)),(P,.cells (axA d) 30 (0,0)),(L,.cells #[.map (some H)] 152 (0,0)),(H,.map #[⟨i4_ 3,.map (some o),0⟩,⟨i4_ 6,.map (some C),1⟩,⟨i4_ 7,.map (some A),2⟩,⟨i4_ 4,.map (some B),3⟩] 4),(J,.cells #[.slice none 0 0,.slice none 0 0,.slice none 0 0,.slice none 0 0] 83 (0,0))]))) hpa hst hpe ht rfl ?_ ?_
   .intro n v_1 H_1 Y
    rw[hasg];refine du_ (H':=((mkH Ds)++((o,.map s.1.es s.1.c)::((C,.map s.2.1.es s.2.1.c)::((A,.map s.2.2.1.es s.2.2.1.c)::((B,.map s.2.2.2.es s.2.2.2.c)::((K,.cells (coA e) 28 (0,0))::((P,.cells (axA d) 30 (0,0))::((L,.cells #[.map (some H)] 152 (0,0))::((H,.map #[⟨i4_ 3,.map (some o),0⟩,⟨i4_ 6,.map (some C),1⟩,⟨i4_ 7,.map (some A),2⟩,⟨i4_ 4,.map (some B),3⟩] 4)::((J,.cells #[.slice none 0 0,.slice none 0 0,.slice none 0 0,.slice none 0 0] 83 (0,0))::Y))))))))))) (F:=[]) zak_ zh ?_;refine gj_ (aL_ (ae_ f_) (aL_ (ae_ f_) (aL_ (ae_ f_) (aL_ (ae_ f_) (aL_ (ae_ f_) (aL_ (ae_ f_) (aL_ (ae_ f_) (aL_ (ae_ f_) (cg_ (ae_ f_)))))))))) ?_;refine aR_ ?_;refine pw_ (aa_ _) ay_ rfl λb_12=>?_;refine eD_ (aa_ _) 0 i_ rfl rfl rfl rfl rfl rfl ?_;refine bK_ ?_;refine cL_ rfl ?_;refine du_ (H':=((b_12,.cells (coA x) 28 (0,0))::((mkH Ds)++((o,.map s.1.es s.1.c)::((C,.map s.2.1.es s.2.1.c)::((A,.map s.2.2.1.es s.2.2.1.c)::((B,.map s.2.2.2.es s.2.2.2.c)::((K,.cells (coA e) 28 (0,0))::((P,.cells (axA d) 30 (0,0))::((L,.cells #[.map (some H)] 152 (0,0))::((H,.map #[⟨i4_ 3,.map (some o),0⟩,⟨i4_ 6,.map (some C),1⟩,⟨i4_ 7,.map (some A),2⟩,⟨i4_ 4,.map (some B),3⟩] 4)::((J,.cells #[.slice none 0 0,.slice none 0 0,.slice none 0 0,.slice none 0 0] 83 (0,0))::Y)))))))))))) (F:=[]) (by exact zp) zh ?_;exact eg_ b_12 zl (F:=[]) zak_ zh
   intro n v_1 H_1 Y I;rw[hbody]
   by_cases T:x.kind=3
   .refine du_ (H':=((I,.cells (coA x) 28 (0,0))::((mkH Ds)++((o,.map s.1.es s.1.c)::((C,.map s.2.1.es s.2.1.c)::((A,.map s.2.2.1.es s.2.2.1.c)::((B,.map s.2.2.2.es s.2.2.2.c)::((K,.cells (coA e) 28 (0,0))::((P,.cells (axA d) 30 (0,0))::((L,.cells #[.map (some H)] 152 (0,0))::((H,.map #[⟨i4_ 3,.map (some o),0⟩,⟨i4_ 6,.map (some C),1⟩,⟨i4_ 7,.map (some A),2⟩,⟨i4_ 4,.map (some B),3⟩] 4)::((J,.cells #[.slice none 0 0,.slice none 0 0,.slice none 0 0,.slice none 0 0] 83 (0,0))::Y)))))))))))) (F:=[]) zak_ zh ?_
    refine dZ_ ?_;refine gj_ (aL_ f_ (aL_ (ae_ f_) (aL_ (ae_ f_) (aL_ (ae_ f_) (aL_ (ae_ f_) (aL_ (ae_ f_) (aL_ (ae_ f_) (aL_ (ae_ f_) (aL_ (ae_ f_) (cg_ (ae_ f_))))))))))) ?_;refine cZ_ ?_;refine aR_ ?_;refine Z_ (aa_ _) (aK_ 7 De_ rfl rfl rfl) rfl rfl ?_;refine Z_ (aa_ _) (bl_ ao_ rfl rfl rfl af_) rfl rfl ?_;refine Z_ (aa_ _) (aK_ 0 aU_ rfl rfl rfl) rfl rfl ?_;refine Z_ (aa_ _) (ie_ (i:=0) (u:=.map (some o)) di_ rfl rfl 8 rfl (bR_ F_) (bu_ F_ (by rw[T];rfl))) rfl rfl ?_;refine Z_ (aa_ _) (P_ rfl) rfl rfl ?_;refine Z_ (aa_ _) (cf_ rfl rfl) rfl rfl ?_;refine Z_ (aa_ _) (cf_ rfl rfl) rfl rfl ?_;refine Z_ (aa_ _) (X_ rfl) rfl rfl ?_;refine Z_ (aa_ _) (X_ rfl) rfl rfl ?_;refine bK_ ?_;refine cm_ rfl ?_;refine cZ_ ?_;refine aR_ ?_;refine Z_ (aa_ _) (P_ rfl) rfl rfl ?_;refine bK_ ?_;refine cm_ rfl ?_;refine gf_ rfl ?_;refine aR_ ?_;refine Z_ (aa_ _) (P_ rfl) rfl rfl ?_;refine Z_ (aa_ _) (bl_ ao_ rfl rfl rfl B_) rfl rfl ?_;refine Z_ (aa_ _) (aK_ 0 aJ_ rfl rfl rfl) rfl rfl ?_;refine io_ (aa_ _) 1 s.1 eG_ (.inr rfl) bH_ rfl rfl rfl rfl ?_;refine bK_ ?_;refine cL_ rfl ?_;refine du_ (H':=((mkH Ds)++((o,.map (s.1.add x.name).es (s.1.add x.name).c)::((C,.map s.2.1.es s.2.1.c)::((A,.map s.2.2.1.es s.2.2.1.c)::((B,.map s.2.2.2.es s.2.2.2.c)::((K,.cells #[i4_ e.kind,str e.name,i4_ e.lo,i4_ e.hi,.slice e.ad e.parts.length e.cap] 28 (0,0))::((P,.cells #[i4_ d.kind,.bool d.opn,i4_ d.left.kind,str d.left.name,i4_ d.left.lo,i4_ d.left.hi,.slice d.left.ad d.left.parts.length d.left.cap,i4_ d.right.kind,str d.right.name,i4_ d.right.lo,i4_ d.right.hi,.slice d.right.ad d.right.parts.length d.right.cap,.slice d.ad d.roles.length d.cap,str d.role,str d.a,str d.b] 30 (0,0))::((L,.cells #[.map (some H)] 152 (0,0))::((H,.map #[⟨i4_ 3,.map (some o),0⟩,⟨i4_ 6,.map (some C),1⟩,⟨i4_ 7,.map (some A),2⟩,⟨i4_ 4,.map (some B),3⟩] 4)::((J,.cells #[.slice none 0 0,.slice none 0 0,.slice none 0 0,.slice none 0 0] 83 (0,0))::(Y++((I,.cells #[i4_ x.kind,str x.name,i4_ x.lo,i4_ x.hi,.slice x.ad x.parts.length x.cap] 28 (0,0))::[]))))))))))))) (F:=[]) zat_ zh ?_;refine fP_ (eY_ x s) rfl (G:=[(I,.cells (coA x) 28 (0,0))]) ?_;rw[show eY_ x s=(s.1.add x.name,s.2) from (by unfold eY_;rw[yax_ T])];simp
   have hn_1:=T
   by_cases T:x.kind=6
   .refine du_ (H':=((I,.cells (coA x) 28 (0,0))::((mkH Ds)++((o,.map s.1.es s.1.c)::((C,.map s.2.1.es s.2.1.c)::((A,.map s.2.2.1.es s.2.2.1.c)::((B,.map s.2.2.2.es s.2.2.2.c)::((K,.cells (coA e) 28 (0,0))::((P,.cells (axA d) 30 (0,0))::((L,.cells #[.map (some H)] 152 (0,0))::((H,.map #[⟨i4_ 3,.map (some o),0⟩,⟨i4_ 6,.map (some C),1⟩,⟨i4_ 7,.map (some A),2⟩,⟨i4_ 4,.map (some B),3⟩] 4)::((J,.cells #[.slice none 0 0,.slice none 0 0,.slice none 0 0,.slice none 0 0] 83 (0,0))::Y)))))))))))) (F:=[]) zak_ zh ?_
    refine dZ_ ?_;refine gj_ (aL_ f_ (aL_ (ae_ f_) (aL_ (ae_ f_) (aL_ (ae_ f_) (aL_ (ae_ f_) (aL_ (ae_ f_) (aL_ (ae_ f_) (aL_ (ae_ f_) (aL_ (ae_ f_) (cg_ (ae_ f_))))))))))) ?_;refine cZ_ ?_;refine aR_ ?_;refine Z_ (aa_ _) (aK_ 7 De_ rfl rfl rfl) rfl rfl ?_;refine Z_ (aa_ _) (bl_ ao_ rfl rfl rfl af_) rfl rfl ?_;refine Z_ (aa_ _) (aK_ 0 aU_ rfl rfl rfl) rfl rfl ?_;refine Z_ (aa_ _) (ie_ (i:=1) (u:=.map (some C)) di_ rfl rfl 8 rfl (bR_ F_) (bu_ F_ (by rw[T];rfl))) rfl rfl ?_;refine Z_ (aa_ _) (P_ rfl) rfl rfl ?_;refine Z_ (aa_ _) (cf_ rfl rfl) rfl rfl ?_;refine Z_ (aa_ _) (cf_ rfl rfl) rfl rfl ?_;refine Z_ (aa_ _) (X_ rfl) rfl rfl ?_;refine Z_ (aa_ _) (X_ rfl) rfl rfl ?_;refine bK_ ?_;refine cm_ rfl ?_;refine cZ_ ?_;refine aR_ ?_;refine Z_ (aa_ _) (P_ rfl) rfl rfl ?_;refine bK_ ?_;refine cm_ rfl ?_;refine gf_ rfl ?_;refine aR_ ?_;refine Z_ (aa_ _) (P_ rfl) rfl rfl ?_;refine Z_ (aa_ _) (bl_ ao_ rfl rfl rfl B_) rfl rfl ?_;refine Z_ (aa_ _) (aK_ 0 aJ_ rfl rfl rfl) rfl rfl ?_;refine io_ (aa_ _) 2 s.2.1 eG_ (.inr rfl) bH_ rfl rfl rfl rfl ?_;refine bK_ ?_;refine cL_ rfl ?_;refine du_ (H':=((mkH Ds)++((o,.map s.1.es s.1.c)::((C,.map (s.2.1.add x.name).es (s.2.1.add x.name).c)::((A,.map s.2.2.1.es s.2.2.1.c)::((B,.map s.2.2.2.es s.2.2.2.c)::((K,.cells #[i4_ e.kind,str e.name,i4_ e.lo,i4_ e.hi,.slice e.ad e.parts.length e.cap] 28 (0,0))::((P,.cells #[i4_ d.kind,.bool d.opn,i4_ d.left.kind,str d.left.name,i4_ d.left.lo,i4_ d.left.hi,.slice d.left.ad d.left.parts.length d.left.cap,i4_ d.right.kind,str d.right.name,i4_ d.right.lo,i4_ d.right.hi,.slice d.right.ad d.right.parts.length d.right.cap,.slice d.ad d.roles.length d.cap,str d.role,str d.a,str d.b] 30 (0,0))::((L,.cells #[.map (some H)] 152 (0,0))::((H,.map #[⟨i4_ 3,.map (some o),0⟩,⟨i4_ 6,.map (some C),1⟩,⟨i4_ 7,.map (some A),2⟩,⟨i4_ 4,.map (some B),3⟩] 4)::((J,.cells #[.slice none 0 0,.slice none 0 0,.slice none 0 0,.slice none 0 0] 83 (0,0))::(Y++((I,.cells #[i4_ x.kind,str x.name,i4_ x.lo,i4_ x.hi,.slice x.ad x.parts.length x.cap] 28 (0,0))::[]))))))))))))) (F:=[]) zat_ zh ?_;refine fP_ (eY_ x s) rfl (G:=[(I,.cells (coA x) 28 (0,0))]) ?_;rw[show eY_ x s=(s.1,s.2.1.add x.name,s.2.2) from (by unfold eY_;rw[yam_ zaa_,yax_ T])];simp
   have hn_2:=T
   by_cases T:x.kind=7
   .refine du_ (H':=((I,.cells (coA x) 28 (0,0))::((mkH Ds)++((o,.map s.1.es s.1.c)::((C,.map s.2.1.es s.2.1.c)::((A,.map s.2.2.1.es s.2.2.1.c)::((B,.map s.2.2.2.es s.2.2.2.c)::((K,.cells (coA e) 28 (0,0))::((P,.cells (axA d) 30 (0,0))::((L,.cells #[.map (some H)] 152 (0,0))::((H,.map #[⟨i4_ 3,.map (some o),0⟩,⟨i4_ 6,.map (some C),1⟩,⟨i4_ 7,.map (some A),2⟩,⟨i4_ 4,.map (some B),3⟩] 4)::((J,.cells #[.slice none 0 0,.slice none 0 0,.slice none 0 0,.slice none 0 0] 83 (0,0))::Y)))))))))))) (F:=[]) zak_ zh ?_
    refine dZ_ ?_;refine gj_ (aL_ f_ (aL_ (ae_ f_) (aL_ (ae_ f_) (aL_ (ae_ f_) (aL_ (ae_ f_) (aL_ (ae_ f_) (aL_ (ae_ f_) (aL_ (ae_ f_) (aL_ (ae_ f_) (cg_ (ae_ f_))))))))))) ?_;refine cZ_ ?_;refine aR_ ?_;refine Z_ (aa_ _) (aK_ 7 De_ rfl rfl rfl) rfl rfl ?_;refine Z_ (aa_ _) (bl_ ao_ rfl rfl rfl af_) rfl rfl ?_;refine Z_ (aa_ _) (aK_ 0 aU_ rfl rfl rfl) rfl rfl ?_;refine Z_ (aa_ _) (ie_ (i:=2) (u:=.map (some A)) di_ rfl rfl 8 rfl (bR_ F_) (bu_ F_ (by rw[T];rfl))) rfl rfl ?_;refine Z_ (aa_ _) (P_ rfl) rfl rfl ?_;refine Z_ (aa_ _) (cf_ rfl rfl) rfl rfl ?_;refine Z_ (aa_ _) (cf_ rfl rfl) rfl rfl ?_;refine Z_ (aa_ _) (X_ rfl) rfl rfl ?_;refine Z_ (aa_ _) (X_ rfl) rfl rfl ?_;refine bK_ ?_;refine cm_ rfl ?_;refine cZ_ ?_;refine aR_ ?_;refine Z_ (aa_ _) (P_ rfl) rfl rfl ?_;refine bK_ ?_;refine cm_ rfl ?_;refine gf_ rfl ?_;refine aR_ ?_;refine Z_ (aa_ _) (P_ rfl) rfl rfl ?_;refine Z_ (aa_ _) (bl_ ao_ rfl rfl rfl B_) rfl rfl ?_;refine Z_ (aa_ _) (aK_ 0 aJ_ rfl rfl rfl) rfl rfl ?_;refine io_ (aa_ _) 3 s.2.2.1 eG_ (.inr rfl) bH_ rfl rfl rfl rfl ?_;refine bK_ ?_;refine cL_ rfl ?_;refine du_ (H':=((mkH Ds)++((o,.map s.1.es s.1.c)::((C,.map s.2.1.es s.2.1.c)::((A,.map (s.2.2.1.add x.name).es (s.2.2.1.add x.name).c)::((B,.map s.2.2.2.es s.2.2.2.c)::((K,.cells #[i4_ e.kind,str e.name,i4_ e.lo,i4_ e.hi,.slice e.ad e.parts.length e.cap] 28 (0,0))::((P,.cells #[i4_ d.kind,.bool d.opn,i4_ d.left.kind,str d.left.name,i4_ d.left.lo,i4_ d.left.hi,.slice d.left.ad d.left.parts.length d.left.cap,i4_ d.right.kind,str d.right.name,i4_ d.right.lo,i4_ d.right.hi,.slice d.right.ad d.right.parts.length d.right.cap,.slice d.ad d.roles.length d.cap,str d.role,str d.a,str d.b] 30 (0,0))::((L,.cells #[.map (some H)] 152 (0,0))::((H,.map #[⟨i4_ 3,.map (some o),0⟩,⟨i4_ 6,.map (some C),1⟩,⟨i4_ 7,.map (some A),2⟩,⟨i4_ 4,.map (some B),3⟩] 4)::((J,.cells #[.slice none 0 0,.slice none 0 0,.slice none 0 0,.slice none 0 0] 83 (0,0))::(Y++((I,.cells #[i4_ x.kind,str x.name,i4_ x.lo,i4_ x.hi,.slice x.ad x.parts.length x.cap] 28 (0,0))::[]))))))))))))) (F:=[]) zat_ zh ?_;refine fP_ (eY_ x s) rfl (G:=[(I,.cells (coA x) 28 (0,0))]) ?_;rw[show eY_ x s=(s.1,s.2.1,s.2.2.1.add x.name,s.2.2.2) from (by unfold eY_;rw[yam_ zaa_,yam_ zaa_,yax_ T])];simp
   have hn_3:=T
   by_cases T:x.kind=4
   .refine du_ (H':=((I,.cells (coA x) 28 (0,0))::((mkH Ds)++((o,.map s.1.es s.1.c)::((C,.map s.2.1.es s.2.1.c)::((A,.map s.2.2.1.es s.2.2.1.c)::((B,.map s.2.2.2.es s.2.2.2.c)::((K,.cells (coA e) 28 (0,0))::((P,.cells (axA d) 30 (0,0))::((L,.cells #[.map (some H)] 152 (0,0))::((H,.map #[⟨i4_ 3,.map (some o),0⟩,⟨i4_ 6,.map (some C),1⟩,⟨i4_ 7,.map (some A),2⟩,⟨i4_ 4,.map (some B),3⟩] 4)::((J,.cells #[.slice none 0 0,.slice none 0 0,.slice none 0 0,.slice none 0 0] 83 (0,0))::Y)))))))))))) (F:=[]) zak_ zh ?_
    refine dZ_ ?_;refine gj_ (aL_ f_ (aL_ (ae_ f_) (aL_ (ae_ f_) (aL_ (ae_ f_) (aL_ (ae_ f_) (aL_ (ae_ f_) (aL_ (ae_ f_) (aL_ (ae_ f_) (aL_ (ae_ f_) (cg_ (ae_ f_))))))))))) ?_;refine cZ_ ?_;refine aR_ ?_;refine Z_ (aa_ _) (aK_ 7 De_ rfl rfl rfl) rfl rfl ?_;refine Z_ (aa_ _) (bl_ ao_ rfl rfl rfl af_) rfl rfl ?_;refine Z_ (aa_ _) (aK_ 0 aU_ rfl rfl rfl) rfl rfl ?_;refine Z_ (aa_ _) (ie_ (i:=3) (u:=.map (some B)) di_ rfl rfl 8 rfl (bR_ F_) (bu_ F_ (by rw[T];rfl))) rfl rfl ?_;refine Z_ (aa_ _) (P_ rfl) rfl rfl ?_;refine Z_ (aa_ _) (cf_ rfl rfl) rfl rfl ?_;refine Z_ (aa_ _) (cf_ rfl rfl) rfl rfl ?_;refine Z_ (aa_ _) (X_ rfl) rfl rfl ?_;refine Z_ (aa_ _) (X_ rfl) rfl rfl ?_;refine bK_ ?_;refine cm_ rfl ?_;refine cZ_ ?_;refine aR_ ?_;refine Z_ (aa_ _) (P_ rfl) rfl rfl ?_;refine bK_ ?_;refine cm_ rfl ?_;refine gf_ rfl ?_;refine aR_ ?_;refine Z_ (aa_ _) (P_ rfl) rfl rfl ?_;refine Z_ (aa_ _) (bl_ ao_ rfl rfl rfl B_) rfl rfl ?_;refine Z_ (aa_ _) (aK_ 0 aJ_ rfl rfl rfl) rfl rfl ?_;refine io_ (aa_ _) 4 s.2.2.2 eG_ (.inr rfl) bH_ rfl rfl rfl rfl ?_;refine bK_ ?_;refine cL_ rfl ?_;refine du_ (H':=((mkH Ds)++((o,.map s.1.es s.1.c)::((C,.map s.2.1.es s.2.1.c)::((A,.map s.2.2.1.es s.2.2.1.c)::((B,.map (s.2.2.2.add x.name).es (s.2.2.2.add x.name).c)::((K,.cells #[i4_ e.kind,str e.name,i4_ e.lo,i4_ e.hi,.slice e.ad e.parts.length e.cap] 28 (0,0))::((P,.cells #[i4_ d.kind,.bool d.opn,i4_ d.left.kind,str d.left.name,i4_ d.left.lo,i4_ d.left.hi,.slice d.left.ad d.left.parts.length d.left.cap,i4_ d.right.kind,str d.right.name,i4_ d.right.lo,i4_ d.right.hi,.slice d.right.ad d.right.parts.length d.right.cap,.slice d.ad d.roles.length d.cap,str d.role,str d.a,str d.b] 30 (0,0))::((L,.cells #[.map (some H)] 152 (0,0))::((H,.map #[⟨i4_ 3,.map (some o),0⟩,⟨i4_ 6,.map (some C),1⟩,⟨i4_ 7,.map (some A),2⟩,⟨i4_ 4,.map (some B),3⟩] 4)::((J,.cells #[.slice none 0 0,.slice none 0 0,.slice none 0 0,.slice none 0 0] 83 (0,0))::(Y++((I,.cells #[i4_ x.kind,str x.name,i4_ x.lo,i4_ x.hi,.slice x.ad x.parts.length x.cap] 28 (0,0))::[]))))))))))))) (F:=[]) zat_ zh ?_;refine fP_ (eY_ x s) rfl (G:=[(I,.cells (coA x) 28 (0,0))]) ?_;rw[show eY_ x s=(s.1,s.2.1,s.2.2.1,s.2.2.2.add x.name) from (by unfold eY_;rw[yam_ zaa_,yam_ zaa_,yam_ zaa_,yax_ T])];simp
   have hn_4:=T;refine du_ (H':=((I,.cells (coA x) 28 (0,0))::((mkH Ds)++((o,.map s.1.es s.1.c)::((C,.map s.2.1.es s.2.1.c)::((A,.map s.2.2.1.es s.2.2.1.c)::((B,.map s.2.2.2.es s.2.2.2.c)::((K,.cells (coA e) 28 (0,0))::((P,.cells (axA d) 30 (0,0))::((L,.cells #[.map (some H)] 152 (0,0))::((H,.map #[⟨i4_ 3,.map (some o),0⟩,⟨i4_ 6,.map (some C),1⟩,⟨i4_ 7,.map (some A),2⟩,⟨i4_ 4,.map (some B),3⟩] 4)::((J,.cells #[.slice none 0 0,.slice none 0 0,.slice none 0 0,.slice none 0 0] 83 (0,0))::Y)))))))))))) (F:=[]) zak_ zh ?_;refine dZ_ ?_;refine gj_ (aL_ f_ (aL_ (ae_ f_) (aL_ (ae_ f_) (aL_ (ae_ f_) (aL_ (ae_ f_) (aL_ (ae_ f_) (aL_ (ae_ f_) (aL_ (ae_ f_) (aL_ (ae_ f_) (cg_ (ae_ f_))))))))))) ?_;refine cZ_ ?_;refine aR_ ?_;refine Z_ (aa_ _) (aK_ 7 De_ rfl rfl rfl) rfl rfl ?_;refine Z_ (aa_ _) (bl_ ao_ rfl rfl rfl af_) rfl rfl ?_;refine Z_ (aa_ _) (aK_ 0 aU_ rfl rfl rfl) rfl rfl ?_;refine Z_ (aa_ _) (uK_ di_ eT_ rfl rfl 8 rfl (bR_ F_) ((tY_ F_).nf x.kind _ [3,6,7,4] rfl (by simp only[yar_,yav_,ybg_];omega))) rfl rfl ?_;refine Z_ (aa_ _) (P_ rfl) rfl rfl ?_;refine Z_ (aa_ _) (cf_ rfl rfl) rfl rfl ?_;refine Z_ (aa_ _) (cf_ rfl rfl) rfl rfl ?_;refine Z_ (aa_ _) (X_ rfl) rfl rfl ?_;refine Z_ (aa_ _) (X_ rfl) rfl rfl ?_;refine bK_ ?_;refine cm_ rfl ?_;refine cZ_ ?_;refine aR_ ?_;refine Z_ (aa_ _) (P_ rfl) rfl rfl ?_;refine bK_ ?_;refine cm_ rfl ?_;refine oe_ rfl ?_;refine mB_ ?_;refine cL_ rfl ?_;refine du_ (H':=((mkH Ds)++((o,.map s.1.es s.1.c)::((C,.map s.2.1.es s.2.1.c)::((A,.map s.2.2.1.es s.2.2.1.c)::((B,.map s.2.2.2.es s.2.2.2.c)::((K,.cells (coA e) 28 (0,0))::((P,.cells (axA d) 30 (0,0))::((L,.cells #[.map (some H)] 152 (0,0))::((H,.map #[⟨i4_ 3,.map (some o),0⟩,⟨i4_ 6,.map (some C),1⟩,⟨i4_ 7,.map (some A),2⟩,⟨i4_ 4,.map (some B),3⟩] 4)::((J,.cells #[.slice none 0 0,.slice none 0 0,.slice none 0 0,.slice none 0 0] 83 (0,0))::(Y++((I,.cells (coA x) 28 (0,0))::[]))))))))))))) (F:=[]) (by exact zp) zh ?_;refine fP_ (eY_ x s) rfl (G:=[(I,.cells (coA x) 28 (0,0))]) ?_;rw[show eY_ x s=s from (by unfold eY_;rw[yam_ zaa_,yam_ zaa_,yam_ zaa_,yam_ zaa_])];simp
  .intro l Gj Gx hY
   exact rO_ (E:=[]) (good:=λ_=>True) (λ_ _ _ _=>trivial) (λs x hx _=>hY s ⟨x,hx⟩ trivial) _ hokc trivial s
  intro s_1 V D l r;rw[ug_ (λx s=>eY_ x s) _ e (yab_ _)]at V;obtain rfl:=Sum.inl.inj V;have Q:=W.side a1;refine em_ (H':=mkH (D::Ds)++[(o,.map ((List.foldl (λs x=>eY_ x s) s (Con.nds e)).1).es ((List.foldl (λs x=>eY_ x s) s (Con.nds e)).1).c),(C,.map ((List.foldl (λs x=>eY_ x s) s (Con.nds e)).2.1).es ((List.foldl (λs x=>eY_ x s) s (Con.nds e)).2.1).c),(A,.map ((List.foldl (λs x=>eY_ x s) s (Con.nds e)).2.2.1).es ((List.foldl (λs x=>eY_ x s) s (Con.nds e)).2.2.1).c),(B,.map ((List.foldl (λs x=>eY_ x s) s (Con.nds e)).2.2.2).es ((List.foldl (λs x=>eY_ x s) s (Con.nds e)).2.2.2).c),(K,.cells (coA e) 28 (0,0)),(P,.cells (axA d) 30 (0,0)),(L,.cells #[.map (some H)] 152 (0,0)),(H,.map #[⟨i4_ 3,.map (some o),0⟩,⟨i4_ 6,.map (some C),1⟩,⟨i4_ 7,.map (some A),2⟩,⟨i4_ 4,.map (some B),3⟩] 4),(J,.cells #[.slice none 0 0,.slice none 0 0,.slice none 0 0,.slice none 0 0] 83 (0,0))]) (F:=[(bw,.cells (Con.cells e).toArray 28 (0,0))]++[(l,.loop r)]) zU_ zh ?_;refine ac_ rfl (s_ (aL_ (ae_ f_) (aL_ (ae_ f_) (aL_ (ae_ f_) (aL_ (ae_ f_) (aL_ (ae_ f_) (aL_ (ae_ f_) (aL_ (ae_ f_) (aL_ (ae_ f_) (cg_ bS_))))))))) (Zz 5 ?_));exact kj_ ⟨(j+1,(List.foldl (λs x=>eY_ x s) s (Con.nds e)),(D::Ds)),hlc_1,Q⟩ zae_ zl zp zh
 obtain⟨S,d,hx_1,O⟩:=zge (show Z<M.length by omega);refine Zz 12 ?_;refine K_ aQ_ rfl λo=>o_ 0 D_ rfl rfl rfl rfl rfl rfl (Zz 5 ?_)
 refine d_ (rH_ (hok d O) (hC d O)) rfl e_ (λv _ h=>by exact⟨(h.1.2 d O),h.2.1,trivial⟩) rfl λ_=>Zz 6 ?_
 refine c_ (aD_ (cP_ rfl rfl) (show _=Value.bool false from yag_ Value.bool zaj_)) rfl (Zz 10 ?_);exact kj_ ⟨Z+1,S⟩ zae_ zl (g_ f_) zh
end Go.Proofs.YtbffkokbdeppaaaGreatDoor
namespace Go.Vs
open Go Go.Sx
def cp_ (a b:Str):List Pc:=[⟨1,a,[],[42],[],[],[],0,0,0⟩,⟨1,b,[],[42],[],[],[],0,0,0⟩]
theorem kk_ (frm:Int) (a b:Str):bI_ frm [a,b] []=fj_ frm [] (cp_ a b):=rfl
def Ax.rgoal (x:Ax):List Pc :=
  if x.kind=1 then (cp_ x.left.atom x.right.atom++x.left.rright)++x.right.rleft
  else if x.kind=2 then (((cp_ x.left.atom x.right.atom++x.left.rright)++x.right.rleft)++x.right.rright)++x.left.rleft
  else if x.kind=3 then (((cp_ x.disj [33]++[⟨1,x.disj,[],x.left.atom,[],[],[],0,0,0⟩])++x.left.rright)++[⟨1,x.disj,[],x.right.atom,[],[],[],0,0,0⟩])++x.right.rright
  else if x.kind=4 then (cp_ x.doms x.right.atom++[⟨3,x.doms,[],[42],x.role,[],[],0,0,0⟩])++x.right.rleft
  else if x.kind=8 then cp_ (bY_ x.a) x.right.atom++x.right.rleft
  else cp_ (bY_ x.a) (bY_ x.b)
theorem gW_ (x:Ax) (k:x.check=0) (d:¬ (x.kind=5\/x.kind=6\/x.kind=7)) (h:1<=x.kind) (e:x.kind<=9):x.goalP.1=fj_ (-1) [] x.rgoal/\x.goalP.2.2=0:=by
 have L:=λ(c:Con) l=>Con.leftP_ins (-1) _ c (yab_ _) l
 have R:=λ(c:Con) l=>Con.rightP_ins (-1) _ c (yab_ _) l
 unfold Ax.goalP Ax.rgoal;rw[yam_ zap_]
 split
 .grind[cB_,kk_]
 split
 .grind[cB_,kk_]
 split
 .refine⟨?_,rfl⟩
  dsimp only;rw[R,R,cB_,cB_,cB_,cB_,kk_,gl_,gl_];rfl
 grind[cB_,kk_,gl_]
end Go.Vs
namespace Go.Proofs.YtbffkokbdeppaaaGreatDoor
open Go Go.Sx Go.Proofs Tryz
attribute [local irreducible] Code.wp wpList wpAnyH
open Go.Vs
def xE_ (x:Ax):List Str:=if x.kind=5\/x.kind=6\/x.kind=7 then x.role::x.roles else []
def fy_ (l:List Ax):List Str:=l.flatMap xE_
theorem of_ {l:List Ax} {i:Nat} {x:Ax} (h:l[i]? = some x):fy_ (l.take (i+1))=fy_ (l.take i)++xE_ x:=by
  grind[fy_,List.take_add_one]
theorem hI_ {x:Ax} (h:x.kind=5\/x.kind=6\/x.kind=7):xE_ x=x.role::x.roles:=yax_ h
theorem wi_ {x:Ax} (h:¬ (x.kind=5\/x.kind=6\/x.kind=7)):xE_ x=[]:=yam_ h
theorem uy_ {x:Ax}:∀ {j:Nat} {z:RSt},z∈x.chs j->z.1∈x.roles
 | 0,z,h=>by grind[Ax.chs]
 | j+1,z,h=>by
   rw[Ax.chs,yaj_]at h;rcases h with h|h
   . exact uy_ h
   grind
theorem uU_ {x:Ax} {z:RSt} (h:z∈x.steps):z.1∈xE_ x:=by
  grind[hI_,Ax.steps,uy_]
theorem th_ {l:List Ax}:∀ z∈bM_ l,z.1∈fy_ l:=λz d=>by
  grind[bM_,fy_,uU_]
theorem gi_ {s:Str} (h:bO_ s=true):s≠[]:=by grind[la_]
theorem oD_ {x:Ax} (h:x.check=0):(xE_ x).length<=30:=by
 have d:=jT_ h;have G:=Ax.good_of h
 by_cases k:x.kind=5\/x.kind=6\/x.kind=7
 .rw[hI_ k,yap_]
  rcases k with k|k|k
  .have:=G.one k;omega
  .have:=G.chain k;omega
  unfold Ax.shaped at d;rw[yam_ zaa_]at d;simp[us,kQ_,k]at d
  grind
 grind[wi_]
theorem kW_:∀ (l:List Ax),(∀ x∈l,x.check=0)->(fy_ l).length<=30*l.length
  | [],_=>by grind[fy_]
  | x::l,h=>by
    have e:=oD_ (h x zak_);have k:=kW_ l λy d=>h y zbH_
    grind[fy_]
theorem jk_ {G:Prop} (h:G:=by
 refine Zz 11 ?_;exact w_ ⟨(i+1,Q,W,F),L,(by rw[of_ e,hI_ G,show List.take j d.roles=Ax.roles d from yac_ zaa_]at *;exact J),I⟩ zae_ zl e_ zf):G:=h
theorem jl_ {G:Prop} (h:G:=by
 have u:j<d.roles.length:=by omega
 obtain⟨B,k⟩:∃ X,d.roles[j]? = some X:=⟨_,yaa_ u⟩;have A:B∈d.roles:=yad_ k;refine Zz 11 ?_;refine c_ (J_ aw_ D_ rfl rfl (λv _ h=>az_ (n:=16) Ax.cells_len zaj_ zbd_ e) zaa_ zah_) rfl ?_;refine c_ (bF_ bC_ rfl rfl rfl bo_) rfl (c_ (aS_ (ad:=ad) fS_ rfl (λv _ h=>by exact h.2.1.1) (t_ Ax.cells_len e 12 _ rfl)) rfl (Zz 1 ?_));refine c_ (J_ m_ B_ rfl rfl (λv _ h=>az_ (n:=1) au_ zaj_ (by exact h.2.2.1.2.2) k) zaa_ zah_) rfl ?_;refine c_ (aS_ (ad:=d.ad) aJ_ rfl (λv _ h=>by exact h.2.2.1.2.2) (t_ au_ k 0 _ rfl)) rfl (d_ (fu_ Q W F B (by have:=(J).len;simp only[yaw_]at this;omega) I (J).srt (gi_ (K.roles B A))) rfl e_ zf rfl λ⟨⟨a0,S⟩,H⟩=>?_);dsimp only;try dsimp only at H
 refine Zz 9 ?_;exact w_ ⟨(j+1,(be_ Q B),a0,S),u,(by rw[take_snoc k,<-yaL_,<-yak_];exact J.app (NsI.one J.srt (gi_ (K.roles B A)))),H⟩ zae_ zl e_ zf):G:=h
theorem all6_c (l:List Ax) (ad:Ao) (cap:Nat) (hok:∀ x∈l,x.ok) (hC:∀ x∈l,x.check=0) (hll:l.length<=100000):Tri prog 252 #[.slice ad l.length cap] [] [bA_ ad l] (λy:{y:List Str×Ao×Nat // NsI [] (fy_ l) y.1/\(y.1.length<=y.2.2/\y.2.2<=maxLen/\(y.2.1=none->y.2.2=0))}=>.slice y.1.2.1 y.1.1.length y.1.2.2) (λ_=>[]) (λy=>[O_ y.1.2.1 (y.1.1.flatMap V_)]):=by
 refine l_ func252 rfl rfl ntmps252 rfl λv_1=>?_;refine Zz 17 ?_;refine Y_ (ι:={y:Nat×List Str×Ao×Nat // y.1<=List.length l/\NsI [] (fy_ (l.take y.1)) y.2.1/\(y.2.1.length<=y.2.2.2/\y.2.2.2<=maxLen/\(y.2.2.1=none->y.2.2.2=0))}) (λy=>[(0,.slice ad l.length cap),(2,.slice none 0 0),(3,.slice y.1.2.2.1 y.1.2.1.length y.1.2.2.2),(4,i4_ y.1.1)]) (λy=>([])) (λy=>[O_ y.1.2.2.1 (y.1.2.1.flatMap V_),bA_ ad l]) (λy=>l.length - y.1.1) ⟨((0:Nat),([]:List Str),none,0),by simp,(NsI.nil List.Pairwise.nil),(by simp[maxLen])⟩ zl e_ (λv _ h=>by exact⟨(.inl rfl),h.1,trivial⟩) ?_;rintro ⟨⟨i,O,Z,R⟩,hi_i,P,C⟩;dsimp only at hi_i P C ⊢;have hrl:=kW_ (l.take i) λx hx=>hC x (yaS_ hx)
 rw[yat_]at hrl;have hOl:=P.len;rw[yaw_]at hOl;refine Zi 6 (λhr_1=>?_) λhr_1=>?_
 .refine Zz 12 ?_
  exact W_ results252 ⟨(O,Z,R),by rw[yac_ zaa_]at P;exact P,C⟩ rfl e_ zf
 obtain⟨L,d,e,o⟩:=zge (show i<l.length by omega);refine Zz 11 ?_;refine c_ (J_ aw_ D_ rfl rfl (λv _ h=>az_ (n:=16) Ax.cells_len zaj_ zbd_ e) zaa_ zah_) rfl ?_;refine c_ (bF_ bC_ rfl rfl rfl af_) rfl (c_ (aS_ (ad:=ad) aU_ rfl (λv _ h=>by exact h.2.1.1) (t_ Ax.cells_len e 0 _ rfl)) rfl ?_);refine Zi 0 (λhr_2=>?_) λhr_2=>?_
 .refine Zz 6 ?_
  refine c_ (J_ aw_ D_ rfl rfl (λv _ h=>az_ (n:=16) Ax.cells_len zaj_ zbd_ e) zaa_ zah_) rfl ?_;refine as_ rfl rfl (c_ (bF_ bC_ rfl rfl rfl af_) rfl (as_ rfl rfl (c_ (aS_ (ad:=ad) aU_ rfl (λv _ h=>by exact h.2.1.1) (t_ Ax.cells_len e 0 _ rfl)) rfl (as_ rfl rfl ?_))));refine Zi 0 (λa3=>?_) λa3=>?_
  .refine Zz 7 ?_
   refine c_ (J_ aw_ D_ rfl rfl (λv _ h=>az_ (n:=16) Ax.cells_len zaj_ zbd_ e) zaa_ zah_) rfl ?_;refine as_ rfl rfl (c_ (bF_ bC_ rfl rfl rfl af_) rfl (as_ rfl rfl (c_ (aS_ (ad:=ad) aU_ rfl (λv _ h=>by exact h.2.1.1) (t_ Ax.cells_len e 0 _ rfl)) rfl (as_ rfl rfl ?_))));refine Zi 0 (λM=>?_) λM=>?_
   .refine Zz 12 ?_
    exact w_ ⟨(i+1,O,Z,R),L,(by rw[of_ e,wi_ zaa_,yas_];exact P),C⟩ zae_ zl e_ zh
   refine Zz 5 ?_;have G:Ax.kind d=5\/Ax.kind d=6\/Ax.kind d=7:=by omega
   have K:=Ax.good_of (hC d o);have U:=K.role zaa_;have Y:=oD_ (hC d o);rw[hI_ G,yap_]at Y;refine Zz 4 ?_;refine c_ (J_ aw_ D_ rfl rfl (λv _ h=>az_ (n:=16) Ax.cells_len zaj_ zbd_ e) zaa_ zah_) rfl ?_;refine c_ (bF_ bC_ rfl rfl rfl B_) rfl (c_ (aS_ (ad:=ad) aJ_ rfl (λv _ h=>by exact h.2.1.1) (t_ Ax.cells_len e 13 _ rfl)) rfl (d_ (fu_ O Z R d.role zbv_ C (P).srt (gi_ U)) rfl e_ zf rfl λ⟨⟨a2,T⟩,E⟩=>?_));dsimp only;try dsimp only at E
   refine Zz 9 ?_;refine Y_ (ι:={y:Nat×List Str×Ao×Nat // y.1<=List.length d.roles/\NsI [] (fy_ (l.take i)++Ax.role d::List.take y.1 d.roles) y.2.1/\(y.2.1.length<=y.2.2.2/\y.2.2.2<=maxLen/\(y.2.2.1=none->y.2.2.2=0))}) (λy=>[(0,.slice ad l.length cap),(2,.slice none 0 0),(3,.slice y.1.2.2.1 y.1.2.1.length y.1.2.2.2),(4,i4_ i),(5,i4_ y.1.1)]) (λy=>([])) (λy=>[O_ y.1.2.2.1 (y.1.2.1.flatMap V_),bA_ ad l,Ax.memF d]) (λy=>d.roles.length - y.1.1) ⟨((0:Nat),(be_ O d.role),a2,T),by simp,zbr_,E⟩ zl e_ (λv _ h=>by exact⟨h.1,h.2.2.1,(h.2.2.1.2 d o),trivial⟩) ?_;rintro ⟨⟨j,Q,W,F⟩,V,J,I⟩;dsimp only at V J I ⊢;have a1:=J.len;simp only[yaw_,yae_,yap_,yat_]at a1;refine Zz 6 ?_;refine c_ (J_ aw_ D_ rfl rfl (λv _ h=>az_ (n:=16) Ax.cells_len zaj_ zbd_ e) zaa_ zah_) rfl ?_;refine c_ (bF_ bC_ rfl rfl rfl bo_) rfl (c_ (aS_ (ad:=ad) fS_ rfl (λv _ h=>by exact h.2.1.1) (t_ Ax.cells_len e 12 _ rfl)) rfl (Zi 1 (λhr_6=>?_) λhr_6=>?_))
   .exact jk_
   exact jl_
  refine Zz 13 ?_;have G:Ax.kind d=5\/Ax.kind d=6\/Ax.kind d=7:=by omega
  have K:=Ax.good_of (hC d o);have U:=K.role zaa_;have M:=oD_ (hC d o);rw[hI_ G,yap_]at M;refine Zz 4 ?_;refine c_ (J_ aw_ D_ rfl rfl (λv _ h=>az_ (n:=16) Ax.cells_len zaj_ zbd_ e) zaa_ zah_) rfl ?_;refine c_ (bF_ bC_ rfl rfl rfl B_) rfl (c_ (aS_ (ad:=ad) aJ_ rfl (λv _ h=>by exact h.2.1.1) (t_ Ax.cells_len e 13 _ rfl)) rfl (d_ (fu_ O Z R d.role zbv_ C (P).srt (gi_ U)) rfl e_ zf rfl λ⟨⟨a2,T⟩,E⟩=>?_));dsimp only;try dsimp only at E
  refine Zz 9 ?_;refine Y_ (ι:={y:Nat×List Str×Ao×Nat // y.1<=List.length d.roles/\NsI [] (fy_ (l.take i)++Ax.role d::List.take y.1 d.roles) y.2.1/\(y.2.1.length<=y.2.2.2/\y.2.2.2<=maxLen/\(y.2.2.1=none->y.2.2.2=0))}) (λy=>[(0,.slice ad l.length cap),(2,.slice none 0 0),(3,.slice y.1.2.2.1 y.1.2.1.length y.1.2.2.2),(4,i4_ i),(5,i4_ y.1.1)]) (λy=>([])) (λy=>[O_ y.1.2.2.1 (y.1.2.1.flatMap V_),bA_ ad l,Ax.memF d]) (λy=>d.roles.length - y.1.1) ⟨((0:Nat),(be_ O d.role),a2,T),by simp,zbr_,E⟩ zl e_ (λv _ h=>by exact⟨h.1,h.2.2.1,(h.2.2.1.2 d o),trivial⟩) ?_;rintro ⟨⟨j,Q,W,F⟩,V,J,I⟩;dsimp only at V J I ⊢;have a1:=J.len;simp only[yaw_,yae_,yap_,yat_]at a1;refine Zz 6 ?_;refine c_ (J_ aw_ D_ rfl rfl (λv _ h=>az_ (n:=16) Ax.cells_len zaj_ zbd_ e) zaa_ zah_) rfl ?_;refine c_ (bF_ bC_ rfl rfl rfl bo_) rfl (c_ (aS_ (ad:=ad) fS_ rfl (λv _ h=>by exact h.2.1.1) (t_ Ax.cells_len e 12 _ rfl)) rfl (Zi 1 (λY=>?_) λY=>?_))
  .exact jk_
  exact jl_
 refine Zz 20 ?_;have G:Ax.kind d=5\/Ax.kind d=6\/Ax.kind d=7:=by omega
 have K:=Ax.good_of (hC d o);have U:=K.role zaa_;have a3:=oD_ (hC d o);rw[hI_ G,yap_]at a3;refine Zz 4 ?_;refine c_ (J_ aw_ D_ rfl rfl (λv _ h=>az_ (n:=16) Ax.cells_len zaj_ zbd_ e) zaa_ zah_) rfl ?_;refine c_ (bF_ bC_ rfl rfl rfl B_) rfl (c_ (aS_ (ad:=ad) aJ_ rfl (λv _ h=>by exact h.2.1.1) (t_ Ax.cells_len e 13 _ rfl)) rfl (d_ (fu_ O Z R d.role zbv_ C (P).srt (gi_ U)) rfl e_ zf rfl λ⟨⟨a2,T⟩,E⟩=>?_));dsimp only;try dsimp only at E
 refine Zz 9 ?_;refine Y_ (ι:={y:Nat×List Str×Ao×Nat // y.1<=List.length d.roles/\NsI [] (fy_ (l.take i)++Ax.role d::List.take y.1 d.roles) y.2.1/\(y.2.1.length<=y.2.2.2/\y.2.2.2<=maxLen/\(y.2.2.1=none->y.2.2.2=0))}) (λy=>[(0,.slice ad l.length cap),(2,.slice none 0 0),(3,.slice y.1.2.2.1 y.1.2.1.length y.1.2.2.2),(4,i4_ i),(5,i4_ y.1.1)]) (λy=>([])) (λy=>[O_ y.1.2.2.1 (y.1.2.1.flatMap V_),bA_ ad l,Ax.memF d]) (λy=>d.roles.length - y.1.1) ⟨((0:Nat),(be_ O d.role),a2,T),by simp,zbr_,E⟩ zl e_ (λv _ h=>by exact⟨h.1,h.2.2.1,(h.2.2.1.2 d o),trivial⟩) ?_;rintro ⟨⟨j,Q,W,F⟩,V,J,I⟩;dsimp only at V J I ⊢;have a1:=J.len;simp only[yaw_,yae_,yap_,yat_]at a1;refine Zz 6 ?_;refine c_ (J_ aw_ D_ rfl rfl (λv _ h=>az_ (n:=16) Ax.cells_len zaj_ zbd_ e) zaa_ zah_) rfl ?_;refine c_ (bF_ bC_ rfl rfl rfl bo_) rfl (c_ (aS_ (ad:=ad) fS_ rfl (λv _ h=>by exact h.2.1.1) (t_ Ax.cells_len e 12 _ rfl)) rfl (Zi 1 (λM=>?_) λM=>?_))
 .exact jk_
 exact jl_
theorem CK_ {p:Pth} {z:RSt} {d e:Str} (h:lst p.rl=some d) (k:p.rl[0]? = some e):sJ_ p.b z=(decide (z.1=d)&&(decide (z.2.1=e)&&(p.st||z.2.2))):=by
  grind[sJ_,Pth.b]
theorem CJ_ {p:PB} {S:List RSt} {k:Nat} (h:∀ z∈S.take k,sJ_ p z=false) (d:S.length<=k):iH_ p S=false:=by
  grind[List.take_of_length_le,iH_]
theorem uw_ {p:PB} {S:List RSt} {k:Nat} {z:RSt} (d:S[k]? = some z) (h:sJ_ p z=true):iH_ p S=true:=by
  grind[iH_]
theorem Aa_ {l:List Str} {d:Str} (h:l[Int.toNat ((l.length:Int) - 1)]? = some d):lst l=some d:=by
  unfold lst;rw[<-h]
  congr 1
  omega
theorem oY_ {α:Type} {l:List α} {k:Nat} {x:α} {P:α->Prop} (h:∀ z∈l.take k,P z) (d:l[k]? = some x) (o:P x):∀ z∈l.take (k+1),P z:=λz e=>by
  rw[tk1 d,yaj_,yal_]at e
  grind
theorem yE_ (p:Pth) (S:List RSt) (sad:Ao) (F:Nat) (V:0<p.rl.length) (T:p.rl.length<=100000000) (R:S.length<=100000000):Tri prog 253 #[Pth.val p,.slice sad S.length F] [] [O_ sad (S.flatMap hf_),O_ (Pth.ad p) (List.flatMap V_ (Pth.rl p))] (λ_:Unit=>.bool (iH_ p.b S)) (λ_=>[]) (λ_=>[]):=by
 refine l_ func253 rfl rfl ntmps253 rfl λU=>?_;refine Zz 2 ?_;refine Q_ rfl rfl λM=>Zz 10 ?_
 refine Y_ (ι:={y:Nat // y<=List.length S/\(∀ z∈List.take y S,sJ_ (Pth.b p) z=false)}) (λy=>[(1,.slice sad S.length F),(2,zp_ M 0),(4,.bool false),(5,i4_ y.1)]) (λy=>((M,.cells #[.slice (Pth.ad p) (Pth.rl p).length (Pth.cap p),.bool (Pth.st p)] 290 (0,0))::[])) (λy=>[O_ sad (S.flatMap hf_),O_ (Pth.ad p) (List.flatMap V_ (Pth.rl p))]) (λy=>S.length - y.1) ⟨(0:Nat),by simp,zak_⟩ zl f_ zh ?_;rintro ⟨k,K,L⟩;dsimp only at K L ⊢;refine Zi 6 (λe=>?_) λe=>?_
 .refine Zz 11 ?_
  exact W_ results253 () (n_ rfl ((CJ_ L zaa_).symm)) e_ zt
 have u:k<S.length:=by omega
 obtain⟨O,d⟩:∃ A,S[k]? = some A:=⟨_,yaa_ u⟩;have J:(Int.toNat ((List.length (Pth.rl p):Int) - 1))<List.length (Pth.rl p):=by omega
 obtain⟨W,G⟩:∃ A,(Pth.rl p)[(Int.toNat ((List.length (Pth.rl p):Int) - 1))]? = some A:=⟨_,yaa_ J⟩;have I:0<List.length (Pth.rl p):=by omega
 obtain⟨X,H⟩:∃ A,(Pth.rl p)[0]? = some A:=⟨_,yaa_ I⟩;have B:sJ_ (Pth.b p) O=_:=CK_ (Aa_ G) H;refine Zz 9 ?_;refine C_ 22 [0,1,2,3,4,5,6,7,8,9,10,11,12,13,14] zk zs (Zz 2 ?_);refine G_ rfl (J_ bi_ ci_ rfl rfl (λv _ h=>az_ (n:=3) bZ_ zaj_ (by exact h.1) d) zaa_ zah_) rfl ?_;refine G_ rfl (bF_ bp_ rfl rfl rfl B_) rfl (G_ rfl (aS_ (ad:=sad) aJ_ rfl zf (t_ bZ_ d 0 _ rfl)) rfl (Zz 6 ?_));refine G_ rfl (J_ m_ B_ rfl rfl (λv _ h=>az_ (n:=1) au_ zaj_ (by exact h.2.1) G) zaa_ zah_) rfl ?_;refine G_ rfl (aS_ (ad:=(Pth.ad p)) aJ_ rfl zf (t_ au_ G 0 _ rfl)) rfl ?_;refine Zi 0 (λo=>?_) λo=>?_
 .refine Zz 2 ?_
  refine C_ 0 [15,16,17,18,19,20,21,22,23,24,25,26,27,28,29,30,31,32,33,34,35,36] zk zs (Zz 34 ?_);exact w_ ⟨k+1,u,(oY_ L d (by rw[B];simp[e,o]))⟩ zae_ zl f_ zh
 refine Zz 2 ?_;refine C_ 10 [15,16,17,18,19,20,21,22,23,24,25,26] zk zs (Zz 2 ?_);refine bL_ rfl rfl rfl (J_ bi_ ci_ rfl rfl (λv _ h=>az_ (n:=3) bZ_ zaj_ (by exact h.1) d) zaa_ zah_) rfl ?_;refine bL_ rfl rfl rfl (bF_ bp_ rfl rfl rfl B_) rfl (bL_ rfl rfl rfl (aS_ (ad:=sad) aJ_ rfl zf (t_ bZ_ d 1 _ rfl)) rfl (Zz 2 ?_));refine bL_ rfl rfl rfl (J_ m_ B_ rfl rfl (λv _ h=>az_ (n:=1) au_ zaj_ (by exact h.2.1) H) zaa_ zah_) rfl ?_;refine bL_ rfl rfl rfl (aS_ (ad:=(Pth.ad p)) aJ_ rfl zf (t_ au_ H 0 _ rfl)) rfl ?_;refine Zi 0 (λx=>?_) λx=>?_
 .refine Zz 3 ?_
  refine C_ 0 [27,28,29,30,31,32,33,34,35,36] zk zs (Zz 22 ?_);exact w_ ⟨k+1,u,(oY_ L d (by rw[B];simp[e,o,x]))⟩ zae_ zl f_ zh
 refine Zz 3 ?_;refine C_ 7 [27,28,29] zk zs (Zz 1 ?_);refine eo_ rfl rfl rfl (aK_ 0 cG_ rfl rfl rfl) rfl λQ C=>Zz 2 ?_
 cases Q
 .refine C_ 0 [30,31,32,33,34,35,36] zk zs (Zz 2 ?_)
  refine bL_ rfl rfl rfl (J_ bi_ ci_ rfl rfl (λv _ h=>az_ (n:=3) bZ_ zaj_ (by exact h.1) d) zaa_ zah_) rfl ?_;refine bL_ rfl rfl rfl (bF_ bp_ rfl rfl rfl bD_) rfl (eo_ rfl rfl rfl (aS_ (ad:=sad) cG_ rfl zf (t_ bZ_ d 2 _ rfl)) rfl λP E=>Zz 5 ?_);cases P
  .refine Zz 9 ?_
   exact w_ ⟨k+1,u,(oY_ L d (by rw[B];simp[e,o,x,C,E]))⟩ zae_ zl f_ zh
  refine Zz 7 ?_;exact W_ results253 () (n_ rfl ((uw_ d (by rw[B];simp[e,o,x,C,E])).symm)) e_ zt
 refine C_ 0 [30,31,32,33,34,35,36] zk zs (Zz 17 ?_);exact W_ results253 () (n_ rfl ((uw_ d (by rw[B];simp[e,o,x,C])).symm)) e_ zt
end Go.Proofs.YtbffkokbdeppaaaGreatDoor
