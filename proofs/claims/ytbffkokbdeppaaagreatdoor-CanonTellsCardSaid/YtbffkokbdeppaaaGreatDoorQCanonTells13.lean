/-
  Lemmas for the law CanonTells (no condition).
-/
import Derived.Test.YtbffkokbdeppaaaGreatDoorQCanonTells12
set_option linter.unusedVariables false
set_option linter.unusedSimpArgs false
set_option linter.unusedSectionVars false
set_option maxHeartbeats 1000000
namespace Go.Proofs.YtbffkokbdeppaaaGreatDoor
open Go Go.Sx Go.Proofs Tryz
attribute [local irreducible] Code.wp wpList wpAnyH
open Go.Vs Go.Shelf Go.RowKit
theorem Con.mem_sl:∀ (n:Nat) (c:Con),c.sz<=n->∀ (v:Vw) (q:Prop),c.mem v->c.mem ⟨v.im,v.w,q⟩
  | 0,c,h=>by have:=c.sz_pos;omega
  | n+1,c,h=>λv q hm=>by
    rw[Con.mem_iff]at hm ⊢;exact⟨hm.1,λp d=>Con.mem_sl n p zbt_ v q (hm.2 p d)⟩
theorem Tre.mem_sl:∀ (n:Nat) (t:Tre),t.tz<=n->∀ (v:Vw) (q:Prop),t.mem v->t.mem ⟨v.im,v.w,q⟩
  | 0,t,h=>by have:=t.tz_pos;omega
  | n+1,t,h=>λv q hm=>by
    rw[Tre.mem_iff]at hm ⊢;exact⟨Con.mem_sl _ _ (yaj_ _) v q hm.1,hm.2.1,λp d=>Tre.mem_sl n p (by have:=Tre.tz_part d;omega) v q (hm.2.2 p d)⟩
def lL_ (x w:Tre):Int:=Con.cmp x.con w.con
theorem wkoT:Wko lL_ where
  irr x:=by unfold lL_;rw[Con.cmp_self];omega
  tr x y z h1 h2:=Con.cmp_lt h1 h2
  ntr x y z h1 h2 h:=by
    unfold lL_ at *;have m:=Con.cmp_anti x.con y.con;have e:=Con.cmp_anti y.con z.con;have d:=Con.cmp_anti x.con z.con;have:=Con.cmp_tr z.con y.con x.con;unfold Tr3 at this;omega
theorem AF_ {sv:Value} {d:List Tre} {Hr:Hp} (h:at_ 171 7 sv d.length (d.flatMap Tre.cells) Hr) (hl:d.length<=1000000) (e:∀ t∈d,jS_ t) :
    Tri prog 199 #[sv,.func (.func 119) #[] #[]] Hr [cP_ d] (λ_:{y:Hp×List Tre // at_ 171 7 sv y.2.length (y.2.flatMap Tre.cells) y.1/\y.2.Perm d/\y.2.Pairwise λa b=>¬ lL_ b a<0}=>.tuple #[]) (λy=>y.1.1) (λ_=>[]) :=
  sortG (Γ:=[cP_ d]) Tryz.sortTr Tre.cells_len zae_ Tre.cells_one hg_ aD_ wkoT (callable func119 rfl rfl) (callable func199 rfl rfl)
    (λv q C=>⟨λt B=>Tre.mem_sl _ t (yaj_ _) v q (C.1 t B),trivial⟩) h zaa_
    (λx A y m=>by
      have T:=lK_ _ x y (yaj_ _) (e x A).1 (e y m).1 (e x A).2 (e y m).2;exact⟨T.callable,λv a b=>T.run v a ⟨b.1 x A,b.1 y m,trivial⟩⟩)
theorem vG_:∀ (l:List Tre) (x:Tre),(x::l).Pairwise (λa b=>¬ lL_ b a<0)->((cpG qT x l).Pairwise λa b=>lL_ a b<0)/\(∀ z∈cpG qT x l,lL_ x z<0)/\(∀ z∈l,z.con.core=x.con.core\/∃ w∈cpG qT x l,w.con.core=z.con.core)
 | [],x,_=>by simp[cpG]
 | y::l,x,h=>by
   rw[ybj_]at h;have G:¬ lL_ y x<0:=h.1 y zaj_;obtain⟨E,v,C⟩:=vG_ l y h.2;simp only[cpG]
   by_cases e:qT y x=true
   . rw[yao_ e]
     have B:Con.cmp y.con x.con=0:=by simpa [qT] using e
     have A:=(Con.cmp_zero _ _).1 B;refine⟨E,λz d=>?_,λz d=>?_⟩
     . have:=v z d
       unfold lL_ at *;rwa [Con.cmp_of A.symm (rfl:z.con.core=z.con.core)]
     . rcases yan_.1 d with rfl|d
       . exact .inl A
       . rcases C z d with q|q
         . exact .inl (q.trans A)
         . exact .inr q
   . rw[yag_ e]
     have B:Con.cmp y.con x.con≠0:=by simpa [qT] using e
     have m:lL_ x y<0:=by
       have:=Con.cmp_anti x.con y.con;unfold lL_ at *;omega
     refine⟨by rw[ybj_];exact⟨v,E⟩,λz d=>?_,λz d=>?_⟩
     . rcases yan_.1 d with rfl|d
       . exact m
       . exact Con.cmp_lt m (v z d)
     . rcases yan_.1 d with rfl|d
       . exact .inr ⟨z,by simp,rfl⟩
       . rcases C z d with q|⟨w,F,q⟩
         . exact .inr ⟨y,by simp,q.symm⟩
         . exact .inr ⟨w,yaE_ _ F,q⟩
theorem BM_ {S:List Tre} (h:S.Pairwise λa b=>¬ lL_ b a<0):Con.SrC ((cpL qT S).map Tre.con)/\∀ z,z∈((cpL qT S).map Tre.con).map Con.core↔z∈(S.map Tre.con).map Con.core:=by
 cases S with
 | nil=>exact⟨List.Pairwise.nil,λz=>ycU_⟩
 | cons x l =>
   obtain⟨m,v,y⟩:=vG_ l x h;refine⟨?_,λz=>⟨λe=>?_,λe=>?_⟩⟩
   . unfold Con.SrC
     rw[ycu_];simp only[cpL];rw[ybj_];exact⟨v,m⟩
   . rw[ycJ_]at e ⊢
     obtain⟨t,d,rfl⟩:=yap_.1 e;exact yaU_ (f:=Con.core ∘ Tre.con) (rx_ d)
   . rw[ycJ_]at e ⊢
     obtain⟨t,d,rfl⟩:=yap_.1 e;rcases yan_.1 d with rfl|d
     . exact yaU_ (f:=Con.core ∘ Tre.con) (by simp[cpL])
     . rcases y t d with q|⟨w,A,q⟩
       . exact yap_.2 ⟨x,by simp[cpL],q.symm⟩
       . exact yap_.2 ⟨w,by simp[cpL,A],q⟩
theorem ql_:∀ {a b:List Con},a.map Con.core=b.map Con.core->(a.find? λc=>decide (c.kind=2)).map Con.core=(b.find? λc=>decide (c.kind=2)).map Con.core
 | [],[],_=>rfl
 | [],y::b,h=>by simp at h
 | x::a,[],h=>by simp at h
 | x::a,y::b,h=>by
   rw[yay_,yay_,ybE_]at h;have hk:x.kind=y.kind:=Con.core_kind h.1;rw[ydI_,ydI_,hk]
   split
   . simp[h.1]
   . exact ql_ h.2
theorem ui_ {a b:List Con} (h:a.map Con.core=b.map Con.core):(Con.meetF a).2=(Con.meetF b).2/\(Con.meetF a).1.core=(Con.meetF b).1.core:=by
 have d:=ql_ h;have hl:a.length=b.length:=by have:=yae_ List.length h;simpa using this
 unfold Con.meetF;cases e:a.find? λc=>decide (c.kind=2) with
 | some x =>
   rw[e]at d;cases e2:b.find? λc=>decide (c.kind=2) with
   | none=>rw[e2]at d;simp at d
   | some y=>rw[e2]at d;simp only[yaO_,yak_]at d;exact⟨rfl,d⟩
 | none =>
   rw[e]at d;cases e2:b.find? λc=>decide (c.kind=2) with
   | some y=>rw[e2]at d;simp at d
   | none =>
     dsimp only
     match a,b,h,hl with
     | [],[],_,_=>exact⟨rfl,rfl⟩
     | [x],[y],h,_=>simp at h;exact⟨rfl,h⟩
     | x::x2::a,y::y2::b,h,hl =>
       dsimp only;rw[hl]
       split
       . exact⟨rfl,rfl⟩
       . refine⟨rfl,?_⟩
         rw[Con.core_eq,Con.core_eq];simp only[Con.kind,Con.name,Con.lo,Con.hi,Con.parts];rw[h]
theorem BB_ {l:List Con} {k:Nat} {x:Con} (e:∀ c∈l.take k,c.kind≠2) (d:l[k]? = some x) (hk:x.kind=2):(l.find? λc=>decide (c.kind=2))=some x:=by
  induction l generalizing k with
  | nil=>simp at d
  | cons y l ih =>
    cases k with
    | zero=>simp at d;subst d;simp[hk]
    | succ k =>
      have h:y.kind≠2:=e y zaj_;rw[ydI_,yaS_ h];exact ih (k:=k) (λc m=>e c (by rw[ybo_];exact yaE_ _ m)) zbA_
theorem jw_ {l:List Con} (d:∀ c∈l,c.kind≠2):(l.find? λc=>decide (c.kind=2))=none:=by
  rw[List.find?_eq_none];intro c e;simp[d c e]
def TdR (c:Con) (y:Con×Int):Prop:=y.2=c.tdy.2/\(y.2=0->y.1.core=c.tdy.1.core/\y.1.ok)
def MtE (ps:List Con):Con×Int:=if Con.erF (ps.map Con.tdy)≠0 then (Con.zeroC,Con.erF (ps.map Con.tdy)) else Con.meetF (Con.srtC ((ps.map Con.tdy).flatMap λz=>Con.flat1 z.1))
def MtR (ps:List Con) (y:Con×Int):Prop:=y.2=(MtE ps).2/\(y.2=0->y.1.core=(MtE ps).1.core/\y.1.ok)
theorem zs_:∀ {l:List (Con×Int)} {i:Nat} {z:Con×Int},Con.erF (l.take i)=0->l[i]? = some z->z.2≠0->Con.erF l=z.2
 | [],_,_,_,h,_=>by simp at h
 | y::l,0,z,_,h,hz=>by simp at h;subst h;simp[Con.erF,hz]
 | y::l,i+1,z,h0,h,hz=>by
   rw[ybo_]at h0;simp only[Con.erF]at h0 ⊢
   by_cases e:y.2≠0
   . rw[yao_ e]at h0;exact absurd h0 e
   . rw[yag_ e]at h0 ⊢
     exact zs_ h0 zaH_ hz
theorem zr_ {l:List (Con×Int)} {i:Nat} {z:Con×Int} (d:Con.erF (l.take i)=0) (h:l[i]? = some z) (m:z.2=0):Con.erF (l.take (i+1))=0:=by
 induction l generalizing i with
 | nil=>simp at h
 | cons y l ih =>
   cases i with
   | zero=>simp at h;subst h;simp[Con.erF,m]
   | succ i =>
     rw[ybo_]at d ⊢;simp only[Con.erF]at d ⊢
     by_cases e:y.2≠0
     . rw[yao_ e]at d;exact absurd d e
     . rw[yag_ e]at d ⊢;exact ih d zaH_
theorem uv_ {a b:Con} (h:a.core=b.core):(Con.flat1 a).map Con.core=(Con.flat1 b).map Con.core:=by
 have hk:=Con.core_kind h;unfold Con.flat1;rw[hk]
 split
 .rfl
 split
 .have:=yae_ Con.parts h
  rwa [Con.core_parts,Con.core_parts]at this
 simp[h]
structure McI (ps:List Con) (i:Nat) (ts:List Tre):Prop where
  core:(ts.map Tre.con).map Con.core=(((ps.map Con.tdy).take i).flatMap λz=>Con.flat1 z.1).map Con.core
  er:Con.erF ((ps.map Con.tdy).take i)=0
  good:∀ t∈ts,jS_ t/\t.con.ok
theorem wb_ {a b:List Con} (h:a.map Con.core=b.map Con.core):Con.sz.szs a=Con.sz.szs b:=Con.szs_core a b (by rw[Con.cores_map,Con.cores_map];exact h)
theorem xI_:∀ ps:List Con,Con.sz.szs ((ps.map Con.tdy).flatMap λz=>Con.flat1 z.1)<=Con.sz.szs ps:=λps=>by
  have:=Con.tdys_sz ps;rwa [Con.tdys_map]at this
theorem McI.size {ps:List Con} {i:Nat} {d:List Tre} (h:McI ps i d):Con.sz.szs (d.map Tre.con)<=Con.sz.szs (ps.take i):=by
  rw[wb_ h.core,<-List.map_take];exact xI_ (ps.take i)
theorem McI.len {ps:List Con} {i:Nat} {d:List Tre} (h:McI ps i d):d.length<=Con.sz.szs (ps.take i):=by
  have e:=szs_len (d.map Tre.con);rw[yaF_]at e;have:=h.size;omega
theorem McI.nil {ps:List Con}:McI ps 0 []:=⟨by simp,rfl,by simp⟩
theorem McI.add {ps:List Con} {i:Nat} {A us:List Tre} {p q:Con} {e:Int} (h:McI ps i A) (B:ps[i]? = some p) (F:TdR p (q,e)) (G:e=0) (C:(us.map Tre.con).map Con.core=(Con.flat1 q).map Con.core) (E:∀ t∈us,jS_ t/\t.con.ok):McI ps (i+1) (A++us):=by
 subst G;obtain⟨y,v⟩:=F;obtain⟨x,_⟩:=v rfl;have d:(ps.map Con.tdy)[i]? = some p.tdy:=by rw[yaH_,B];rfl
 have H:(ps.map Con.tdy).take (i+1)=(ps.map Con.tdy).take i++[p.tdy]:=by rw[yaz_,d];rfl
 refine⟨?_,zr_ h.er d y.symm,λt m=>?_⟩
 .rw[yat_,yat_,h.core,C,H,yaY_,yat_]
  congr 1
  simp only[yaG_,ydE_,yaw_];exact uv_ x
 rcases yah_.1 m with m|m
 .exact h.good t m
 exact E t m
theorem McI.done {ps:List Con} {q S:List Tre} (h:McI ps ps.length q) (x:S.Perm q) (A:S.Pairwise λa b=>¬ lL_ b a<0):(Con.meetF ((cpL qT S).map Tre.con)).2=(MtE ps).2/\(Con.meetF ((cpL qT S).map Tre.con)).1.core=(MtE ps).1.core:=by
  obtain⟨d,m⟩:=BM_ A;have y:Con.erF (ps.map Con.tdy)=0:=by have:=h.er;rwa [yab_ zaj_]at this
  have v:=h.core;rw[yab_ zaj_]at v
  have e:=Con.srtC_uniq (l:=(ps.map Con.tdy).flatMap λz=>Con.flat1 z.1) d (λz=>by
    rw[m z,<-v];exact ((x.map Tre.con).map Con.core).mem_iff)
  have:=ui_ e;unfold MtE;rw[yag_ (by rw[y];simp)];exact this
theorem MtE_er {ps:List Con} {i:Nat} {p q:Con} {e:Int} {A:List Tre} (h:McI ps i A) (x:ps[i]? = some p) (y:TdR p (q,e)) (v:e≠0):e=(MtE ps).2:=by
  have m:(ps.map Con.tdy)[i]? = some p.tdy:=by rw[yaH_,x];rfl
  have d:e=p.tdy.2:=y.1;have:=zs_ h.er m (by rw[<-d];exact v);unfold MtE;rw[yao_ (by rw[this,<-d];exact v)];dsimp only;rw[this,d]
theorem Tre.con_cells (t:Tre):∀ j y,(Con.cells t.con)[j]? = some y->(Tre.cells t)[0+j]? = some y:=λj y d=>by
  rw[ybw_];have hl:=(yac_.1 d).1;unfold Tre.cells;rw[ybb_ hl];exact d
theorem wJ_ {l:List Con} {b:Con} (h:(l.find? λc=>decide (c.kind=2))=some b):Con.meetF l=(b,0):=by unfold Con.meetF;rw[h]
theorem wI_ {l:List Con} (h:(l.find? λc=>decide (c.kind=2))=none) (d:l.length=0):Con.meetF l=(.mk 1 [] 0 0 none 0 [],0):=by
  unfold Con.meetF;rw[h,yau_ d]
theorem wH_ {l:List Con} {x:Con} (h:(l.find? λc=>decide (c.kind=2))=none) (e:l.length=1) (d:l[0]? = some x):Con.meetF l=(x,0):=by
  unfold Con.meetF;rw[h]
  match l,e,d with
  | [y],_,d=>simp at d;subst d;rfl
theorem wK_ {l:List Con} (h:(l.find? λc=>decide (c.kind=2))=none) (m:l.length≠0) (e:l.length≠1) (d:8<l.length):Con.meetF l=(Con.zeroC,2):=by
  unfold Con.meetF;rw[h]
  match l,m,e,d with
  | y::z::l,_,_,d=>dsimp only;rw[yao_ d]
theorem wL_ {l:List Con} (h:(l.find? λc=>decide (c.kind=2))=none) (m:l.length≠0) (e:l.length≠1) (d:¬ 8<l.length):Con.meetF l=(.mk 5 [] 0 0 none 0 l,0):=by
  unfold Con.meetF;rw[h]
  match l,m,e,d with
  | y::z::l,_,_,d=>dsimp only;rw[yag_ d]
theorem BJ_:Elt prog 26 28 5 64:=hj_ underlying26 (z:=.agg #[iv_ 0,str [],iv_ 0,iv_ 0,.slice none 0 0]) zac_ rfl zae_
theorem Con.cells_one (c:Con):c.cells.all Value.oneCell'=true:=rfl
def oV_ (l:List Con):Fct:=⟨λv=>∀ c∈l,c.mem v,λv v' hl h c hc=>c.memF.mono v v' hl (h c hc)⟩
theorem hw_ {S d:List Tre} {v:Vw} (h:(cP_ d).p v) (e:S.Perm d):(cP_ S).p v:=λt m=>h t (e.mem_iff.1 m)
theorem nI_ {S:List Tre} {v:Vw} (h:(cP_ S).p v):(cP_ (cpL qT S)).p v:=λt d=>h t (rx_ d)
theorem vZ_ {a b:List Tre} {v:Vw} (h:(cP_ a).p v) (k:(cP_ b).p v):(cP_ (a++b)).p v:=λt d=>(yah_.1 d).elim (h t) (k t)
theorem xc_ {l:List Tre} {v:Vw} (h:(cP_ l).p v):(oV_ (l.map Tre.con)).p v:=λc e=>by
  obtain⟨t,d,rfl⟩:=yap_.1 e;exact ((Tre.mem_iff t v).1 (h t d)).1
theorem tdR_sz {p q:Con} {e:Int} (h:TdR p (q,e)) (v:e=0):q.sz<=p.sz/\q.ok:=by
  obtain⟨d,m⟩:=h.2 v;rw[Con.sz_core _ _ d];exact⟨Con.tdy_sz p,m⟩
theorem wU_ {q:Con} (h:q.kind=1):(([]:List Tre).map Tre.con).map Con.core=(Con.flat1 q).map Con.core:=by unfold Con.flat1;rw[yao_ h];rfl
theorem wW_ {q:Con} {us:List Tre} (h:q.kind=5) (d:us.map Tre.con=q.parts):(us.map Tre.con).map Con.core=(Con.flat1 q).map Con.core:=by unfold Con.flat1;rw[yag_ zaa_,yao_ h,d]
theorem wV_ {q:Con} {t:Tre} (d:¬ q.kind=1) (e:¬ q.kind=5) (h:t.con=q):([t].map Tre.con).map Con.core=(Con.flat1 q).map Con.core:=by unfold Con.flat1;rw[yag_ d,yag_ e];simp[h]
theorem Ab_ {c p q:Con} {e:Int} {ad:Ao} (x:c.ok) (v:c.tdy=if p.tdy.2≠0\/p.tdy.1.kind=2 then p.tdy else (Con.mk 6 c.name 0 0 none 0 [p.tdy.1],0)) (E:TdR p (q,e)) (C:e=0) (hk:q.kind≠2):TdR c (.mk 6 c.name 0 0 ad 1 [q],0):=by
 obtain⟨d,h⟩:=E;dsimp only at d h;obtain⟨m,y⟩:=h C;have A:=Con.core_kind m;rw[yag_ (by rw[<-d,<-A];simp[C,hk])]at v;unfold TdR;rw[v];refine⟨rfl,λ_=>⟨?_,?_⟩⟩
 .rw[Con.core_eq,Con.core_eq]
  simp only[Con.kind,Con.name,Con.lo,Con.hi,Con.parts,yay_,ybz_,m]
 exact⟨by decide,by decide,Con.ok_name x,by decide,by decide,by decide,by decide,by simp,by simp,Con.oks_iff.2 λp B=>by rw[yai_]at B;subst B;exact y⟩
theorem ye_ {c:Con} (h:c.check=0) (hk:c.kind=6):c.parts.length=1:=by
  have f:=Con.fields (Con.check_zero h).1;have d:=f.le;have e:=f.mo;rw[hk]at d e;simp[Go.Vs.nd,en_]at d e
  omega
theorem Bg_ (ps:List Con) (O:Ao) (Y:Nat) (hsz:Con.sz.szs ps<=64) (hT:(∀ p∈ps,Tri prog 54 #[Con.val p] [] [Con.memF p] (λy:{y:Con×Int // TdR p y}=>.tuple #[Con.val y.1.1,iv_ y.1.2]) (λ_=>[]) (λy=>[Con.memF y.1.1]))):Tri prog 117 #[.slice O ps.length Y] [] [ac_ O (ps.flatMap Con.cells),oV_ ps] (λy:{y:Con×Int // MtR ps y}=>.tuple #[Con.val y.1.1,iv_ y.1.2]) (λ_=>[]) (λy=>[Con.memF y.1.1]):=by
 refine i_ func117 rfl rfl ntmps117 rfl λv_1=>?_;have hpl:=szs_len ps;refine Zz 2 ?_;refine x_ aF_ rfl λZ=>Zz 17 ?_
 let Pu:Nat×Obj:=(Z,.cells (Con.cells (Con.mk 0 [] 0 0 none 0 [])).toArray 28 (0,0));refine H_ (ι:={y:Nat×List Tre×Value×Hp // y.1<=List.length ps/\McI ps y.1 y.2.1/\zR 171 7 Tre.cells y.2.2.1 y.2.1 y.2.2.2}) (λy=>[(2,zp_ Z 0),(3,iv_ 0),(4,y.1.2.2.1),(15,.slice O ps.length Y),(16,iv_ (List.length ps:Int)),(17,iv_ y.1.1)]) (λy=>(Pu::y.1.2.2.2)) (λy=>[cP_ y.1.2.1,ac_ O (ps.flatMap Con.cells),oV_ ps]) (λy=>ps.length - y.1.1) ⟨((0:Nat),([]:List Tre),(.slice none 0 0),[]),zaj_,McI.nil,(at_.nil _ _)⟩ zl d_ (λv _ h=>by exact⟨(show (cP_ ([]:List Tre)).p v from λt B=>by simp at B),h.1,h.2.1,trivial⟩) ?_;rintro ⟨⟨i,ts,P,a9⟩,hi_i,hM,I⟩;dsimp only at hi_i hM I ⊢;have hMl:=hM.len;have hMs:=szs_take_le (l:=ps) i;refine Zi 2 (λb1=>?_) λb1=>?_
 .refine Zz 9 ?_
  refine f_ (AF_ I zaa_ (λt B=>(hM.good t B).1)) rfl B_ zf rfl λ⟨⟨Hs_1,S⟩,hs_1,F,hs_3⟩=>?_;dsimp only;dsimp only at hs_1 F hs_3;refine Zz 2 ?_;refine A_ (bc_ aU_) (Zz 3 ?_);refine f_ (xe_ S P Hs_1 hs_1 (λt B=>(hM.good t (F.mem_iff.1 B)).1) (by have:=F.length_eq;omega)) rfl B_ (λv _ h=>by exact⟨(hw_ h.1 F),trivial⟩) rfl λ⟨⟨a7,Hc_1⟩,L⟩=>?_;dsimp only;dsimp only at L;obtain⟨E,a6⟩:∃ E,E=cpL qT S:=⟨_,rfl⟩;rw[<-a6]at L;have d:=McI.done (by have e:=hM;rw[show i=ps.length from zaa_]at e;exact e) F hs_3;rw[<-a6]at d;have hDg:∀ t∈E,jS_ t/\t.con.ok:=λt B=>by rw[a6]at B;exact hM.good t (F.mem_iff.1 (rx_ B))
  have hDn:E.length<=64:=by have e:=BN_ (q:=qT) S;rw[<-a6]at e;have q_2:=F.length_eq;omega
  refine Zz 4 ?_;refine A_ (bc_ aU_) (bk_ (aW_ L B_ λa4 a1 hdad hcdad hmdad hzdad=>?_));subst hdad;refine Zz 7 ?_;refine H_ (ι:={y:Nat // y<=List.length E/\(∀ t∈List.take y E,t.con.kind≠2)}) (λy=>[(2,zp_ Z 0),(3,iv_ 0),(4,.slice a4 E.length a1),(15,.slice O ps.length Y),(16,iv_ (List.length ps:Int)),(17,iv_ i),(59,.slice a4 E.length a1),(60,iv_ (List.length E:Int)),(61,iv_ y.1)]) (λy=>(Pu::[])) (λy=>[ac_ a4 (E.flatMap Tre.cells),cP_ ts,ac_ O (ps.flatMap Con.cells),oV_ ps]) (λy=>E.length - y.1) ⟨(0:Nat),by simp,zaj_⟩ zl d_ zh ?_;rintro ⟨k,hi_k,A⟩;dsimp only at hi_k A ⊢;refine Zi 2 (λQ=>?_) λQ=>?_
  .refine Zi 12 (λJ=>?_) λJ=>?_
   .refine Zi 8 (λa3=>?_) λa3=>?_
    .refine Zi 8 (λa2=>?_) λa2=>?_
     .refine Zz 9 ?_
      refine n_ 0 ag_ rfl rfl rfl rfl rfl rfl (Zz 11 ?_);refine H_ (ι:={y:Nat×Value×Hp // y.1<=List.length E/\zR 28 5 Con.cells y.2.1 (List.map Tre.con (E.take y.1)) y.2.2}) (λy=>[(2,zp_ Z 0),(3,iv_ 0),(4,.slice a4 E.length a1),(15,.slice O ps.length Y),(16,iv_ (List.length ps:Int)),(17,iv_ i),(59,.slice a4 E.length a1),(60,iv_ (List.length E:Int)),(61,iv_ k),(91,.slice a4 E.length a1),(92,iv_ (List.length E:Int)),(93,iv_ y.1.1)]) (λy=>((Z,.cells #[iv_ 5,str [],iv_ 0,iv_ 0,y.1.2.1] 28 (0,0))::y.1.2.2)) (λy=>[ac_ a4 (E.flatMap Tre.cells),cP_ ts,ac_ O (ps.flatMap Con.cells),oV_ ps]) (λy=>E.length - y.1.1) ⟨((0:Nat),(.slice none 0 0),[]),by simp,(at_.nil _ _)⟩ zl d_ zh ?_;rintro ⟨⟨m,sv_P,H_P⟩,hi_m,X⟩;dsimp only at hi_m X ⊢;refine Zi 2 (λb2=>?_) λb2=>?_
      .refine Zz 9 ?_
       refine n_ 0 t_ rfl rfl rfl rfl rfl (by have q:=(ek_ X).2;simp only[Value.cells,List.all_cons,List.all_nil,q,Bool.and_true];rfl) ?_;refine Zz 4 ?_;have hml:List.take m E=E:=yab_ zaa_;rw[hml]at X;refine aW_ X B_ λqad b5 hqad hcqad hmqad hzqad=>?_;subst hqad;have T:=wL_ (jw_ λc hc=>by obtain⟨t,B,rfl⟩:=yap_.1 hc;exact A t (by rw[yab_ zaa_];exact B)) zar_ zar_ zar_;rw[T]at d;exact de_ ⟨((Con.mk 5 [] 0 0 qad b5 (E.map Tre.con)),0),⟨d.1,λ_=>⟨by rw[<-d.2,Con.core_eq,Con.core_eq];rfl,(by refine⟨by decide,by decide,by simp,by decide,by decide,by decide,by decide,hcqad,by rw[yaF_];omega,Con.oks_iff.2 λp hp=>?_⟩;obtain⟨t,B,rfl⟩:=yap_.1 hp;exact (hDg t B).2)⟩⟩⟩ (λaa v M A=>bI_ (us:=Con.cells (Con.mk 5 [] 0 0 qad b5 (E.map Tre.con))) 0 ly_ ah_ t_ rfl rfl rfl rfl aa v M A) g_ (λv _ h=>by exact⟨(Con.mem_iff (Con.mk 5 [] 0 0 qad b5 (E.map Tre.con)) v).2 ⟨h.1,xc_ (show (cP_ E).p v from a6▸nI_ (hw_ h.2.2.1 F))⟩,trivial⟩)
      have G:m<E.length:=by omega
      obtain⟨C,H⟩:∃ R,E[m]? = some R:=⟨_,yaa_ G⟩;refine Zz 12 ?_;refine x_ cz_ rfl λb_2=>n_ 0 aD_ rfl rfl rfl rfl rfl rfl (Zz 7 ?_)
      refine O_ ai_ t_ aF_ rfl rfl rfl rfl rfl rfl λb_3=>?_;refine aj_ (news:=List.flatMap Con.cells [(Tre.con C)]) BJ_ X rfl rfl (c_ (c_ B_)) rfl (aL_ 0 rfl) (λu hu=>az_ Con.cells_one hu) zaB_ zaD_ rfl λsv_2 a0 b1=>?_;refine A_ yaB_ ?_;have K:=zsa b1;refine Zz 1 ?_;refine cn_ 2 K sizeOf26 rfl rfl rfl rfl (Zz 7 ?_);exact u_ ⟨(m+1,sv_2,a0),G,(by rw[take_snoc H,yat_];exact K)⟩ zab_ zl (l_ (c_ (c_ d_)) (c_ B_)) zh
     refine Zz 6 ?_;refine e_ (C_ kf_ rfl rfl) rfl (n_ 0 t_ rfl rfl rfl rfl rfl rfl (Zz 4 ?_));have T:=wK_ (jw_ λc hc=>by obtain⟨t,B,rfl⟩:=yap_.1 hc;exact A t (by rw[yab_ zaa_];exact B)) zar_ zar_ zar_;rw[T]at d;exact de_ ⟨(Con.zeroC,2),⟨d.1,λq=>by cases q⟩⟩ (λaa v M A=>bI_ (us:=Con.cells Con.zeroC) 0 ly_ ah_ t_ rfl rfl rfl rfl aa v M A) g_ (λv _ h=>by exact⟨(show Con.mem Con.zeroC v from ⟨.inl rfl,trivial⟩),trivial⟩)
    refine Zz 5 ?_;have G:0<E.length:=by omega
    obtain⟨C,H⟩:∃ R,E[0]? = some R:=⟨_,yaa_ G⟩;have N:C∈E:=yad_ H;refine Zz 4 ?_;refine e_ (am_ (ad:=a4) (us:=Con.cells (Tre.con C)) ah_ t_ rfl zf rfl (wc_ 0 (w_ Tre.cells_len H) (Tre.con_cells C))) rfl (n_ 0 t_ rfl rfl rfl rfl rfl rfl (Zz 4 ?_));have T:=wH_ (jw_ λc hc=>by obtain⟨t,B,rfl⟩:=yap_.1 hc;exact A t (by rw[yab_ zaa_];exact B)) zar_ (x:=Tre.con C) (by rw[yaH_,H];rfl);rw[T]at d;exact de_ ⟨((Tre.con C),0),⟨d.1,λ_=>⟨d.2,(hDg C N).2⟩⟩⟩ (λaa v M A=>bI_ (us:=Con.cells (Tre.con C)) 0 ly_ ah_ t_ rfl rfl rfl rfl aa v M A) g_ (λv _ h=>by exact⟨((Tre.mem_iff C v).1 ((show (cP_ E).p v from a6▸nI_ (hw_ h.2.1 F)) C N)).1,trivial⟩)
   refine Zz 6 ?_;refine e_ (C_ kf_ rfl rfl) rfl (n_ 0 t_ rfl rfl rfl rfl rfl rfl (Zz 4 ?_));have T:=wI_ (jw_ λc hc=>by obtain⟨t,B,rfl⟩:=yap_.1 hc;exact A t (by rw[yab_ zaa_];exact B)) zar_;rw[T]at d;exact de_ ⟨((Con.mk 1 [] 0 0 none 0 []),0),⟨d.1,λ_=>⟨d.2,by simp[Con.ok,Con.ok.oks]⟩⟩⟩ (λaa v M A=>bI_ (us:=Con.cells (Con.mk 1 [] 0 0 none 0 [])) 0 ly_ ah_ t_ rfl rfl rfl rfl aa v M A) g_ (λv _ h=>by exact⟨(show Con.mem (Con.mk 1 [] 0 0 none 0 []) v from ⟨.inl rfl,trivial⟩),trivial⟩)
  have G:k<E.length:=by omega
  obtain⟨C,H⟩:∃ R,E[k]? = some R:=⟨_,yaa_ G⟩;have N:C∈E:=yad_ H;refine Zz 12 ?_;refine x_ cz_ rfl λb_2=>n_ 0 aD_ rfl rfl rfl rfl rfl rfl (Zi 7 (λJ=>?_) λJ=>?_)
  .refine Zz 10 ?_
   exact u_ ⟨k+1,G,(λt B=>by rw[take_snoc H,yah_,yai_]at B;rcases B with B|rfl;exact A t B;exact J)⟩ zab_ zl (c_ d_) zh
  refine Zz 7 ?_;refine n_ 1 t_ rfl rfl rfl rfl rfl rfl (Zz 4 ?_);have T:=wJ_ (BB_ (k:=k) (λc hc=>by rw[<-List.map_take]at hc;obtain⟨t,B,rfl⟩:=yap_.1 hc;exact A t B) (by rw[yaH_,H];rfl) J);rw[T]at d;exact de_ ⟨((Tre.con C),0),⟨d.1,λ_=>⟨d.2,(hDg C N).2⟩⟩⟩ (λaa v M A=>bI_ (us:=Con.cells (Tre.con C)) 1 ly_ ah_ t_ rfl rfl rfl rfl aa v M A) g_ (λv _ h=>by exact⟨((Tre.mem_iff C v).1 ((show (cP_ E).p v from a6▸nI_ (hw_ h.2.1 F)) C N)).1,trivial⟩)
 have V:i<ps.length:=by omega
 obtain⟨p_1,W⟩:∃ R,ps[i]? = some R:=⟨_,yaa_ V⟩;have a5:p_1∈ps:=yad_ W;have hps_1:=Con.sz_mem a5;refine Zz 12 ?_;refine x_ aF_ rfl λb_2=>n_ 0 t_ rfl rfl rfl rfl rfl rfl (Zz 5 ?_)
 refine f_ (hT p_1 a5) rfl g_ (λv _ h=>by exact⟨(h.2.2.1 p_1 a5),trivial⟩) rfl λ⟨⟨e,e_2⟩,K⟩=>?_;dsimp only;try dsimp only at K
 refine Zz 3 ?_;refine x_ aF_ rfl λb_3=>n_ 0 t_ rfl rfl rfl rfl rfl rfl (Zi 7 (λQ=>?_) λQ=>?_)
 .have a8:e_2=0:=by simpa using Q
  have hqz:=tdR_sz K a8;refine Zi 14 (λJ=>?_) λJ=>?_
  .refine Zi 6 (λa3=>?_) λa3=>?_
   .refine Zz 7 ?_
    refine f_ (rj_ _ e (yaj_ _) zaa_) rfl g_ zf rfl λ⟨b4,b0,hgw⟩=>?_;dsimp only;refine O_ aM_ aD_ cz_ rfl rfl rfl rfl rfl rfl λb_4=>?_;refine aj_ (news:=List.flatMap Tre.cells [b4]) rs_ I rfl rfl (c_ (c_ (c_ B_))) rfl (aL_ 0 rfl) (λu hu=>az_ Tre.cells_one hu) zaB_ zaD_ rfl λa7 a0 a2=>?_;refine A_ yaB_ ?_;have b3:=zsa a2;refine Zz 8 ?_;exact u_ ⟨(i+1,(ts++[b4]),a7,a0),V,(hM.add W K a8 (wV_ J a3 b0) (λt B=>by rw[yai_]at B;subst B;rw[jS_,b0];exact⟨⟨hgw,by omega⟩,hqz.2⟩)),b3⟩ zab_ zl (l_ (c_ (c_ (c_ d_))) (c_ (c_ B_))) (λv _ h=>by exact⟨kc_ h.2.2.1 h.1,h.2.2.2.1,h.2.2.2.2.1,trivial⟩)
   refine Zz 13 ?_;have hw_1:at_ 171 7 P (List.length (ts++([]:List Tre))) (List.flatMap Tre.cells (ts++([]:List Tre))) a9:=by have q:=I;rw[yaw_];exact q
   refine H_ (ι:={y:Nat×List Tre×Value×Hp // y.1<=List.length e.parts/\List.map Tre.con y.2.1=List.take y.1 e.parts/\(∀ t∈y.2.1,jS_ t/\t.con.ok)/\zR 171 7 Tre.cells y.2.2.1 (ts++y.2.1) y.2.2.2}) (λy=>[(2,zp_ Z 0),(3,iv_ 0),(4,y.1.2.2.1),(15,.slice O ps.length Y),(16,iv_ (List.length ps:Int)),(17,iv_ i),(42,.slice e.ad e.parts.length e.cap),(43,iv_ (List.length e.parts:Int)),(44,iv_ y.1.1)]) (λy=>((b_3,.cells (Con.cells e).toArray 28 (0,0))::((b_2,.cells (Con.cells p_1).toArray 28 (0,0))::(Pu::y.1.2.2.2)))) (λy=>[cP_ y.1.2.1,cP_ ts,ac_ O (ps.flatMap Con.cells),oV_ ps,Con.memF e]) (λy=>e.parts.length - y.1.1) ⟨((0:Nat),([]:List Tre),P,a9),zaj_,zaj_,zaj_,hw_1⟩ zl zp (λv _ h=>by exact⟨(show (cP_ ([]:List Tre)).p v from λt B=>by simp at B),h.2.1,h.2.2.1,h.2.2.2.1,h.1,trivial⟩) ?_;rintro ⟨⟨j,us,P,a9⟩,hj,hus,hug,I⟩;dsimp only at hj hus hug I ⊢;have hql:=Con.parts_lt e;have hul:=yae_ List.length hus;rw[yaF_,yaD_]at hul;refine Zi 2 (λa2=>?_) λa2=>?_
   .refine Zz 11 ?_
    exact u_ ⟨(i+1,(ts++us),P,a9),V,(hM.add W K a8 (wW_ a3 (by rw[hus,yab_ zaa_])) hug),I⟩ zab_ zl zp (λv _ h=>by exact⟨vZ_ h.2.1 h.1,h.2.2.1,h.2.2.2.1,trivial⟩)
   have b6:j<e.parts.length:=by omega
   obtain⟨c_1,L⟩:∃ R,e.parts[j]? = some R:=⟨_,yaa_ b6⟩;have U:c_1∈e.parts:=yad_ L;refine Zz 10 ?_;refine e_ (Z_ ai_ t_ rfl rfl (λv _ h=>aA_ (n:=5) Con.cells_len zae_ (by exact ((Con.mem_iff e v).1 h.2.2.2.2.1).1) L) zaa_ zai_) rfl ?_;refine e_ (am_ (ad:=e.ad) (us:=Con.cells c_1) ah_ t_ rfl (λv _ h=>by exact ((Con.mem_iff e v).1 h.2.2.2.2.1).1) (Con.cells_len _) (w_ Con.cells_len L)) rfl (x_ aF_ rfl λb_4=>n_ 0 t_ rfl rfl rfl rfl rfl rfl (Zz 5 ?_));refine f_ (rj_ _ c_1 (yaj_ _) (by have:=Con.sz_part U;omega)) rfl g_ (λv _ h=>by exact⟨(Con.mem_part (c:=e) h.2.2.2.2.1 U),trivial⟩) rfl λ⟨b4,b0,hgw⟩=>?_;dsimp only;refine O_ aM_ aD_ cz_ rfl rfl rfl rfl rfl rfl λb_5=>?_;refine aj_ (news:=List.flatMap Tre.cells [b4]) rs_ I rfl rfl (c_ (c_ (c_ (c_ B_)))) rfl (aL_ 0 rfl) (λu hu=>az_ Tre.cells_one hu) zaB_ zaD_ rfl λa7 a0 b2=>?_;refine A_ yaB_ ?_;have b3:=zsa b2;refine Zz 8 ?_;exact u_ ⟨(j+1,(us++[b4]),a7,a0),b6,(by rw[take_snoc L,yat_,hus];simp[b0]),(λt B=>by rcases yah_.1 B with B|B;exact hug t B;rw[yai_]at B;subst B;rw[jS_,b0];exact⟨⟨hgw,by have:=Con.sz_part U;omega⟩,Con.ok_part hqz.2 U⟩),(by rw[<-yar_];exact b3)⟩ zab_ zl (l_ (c_ (c_ d_)) (l_ (c_ (c_ d_)) (l_ (c_ (c_ d_)) (c_ B_)))) (λv _ h=>by exact⟨kc_ h.2.1 h.1,h.2.2.1,h.2.2.2.1,h.2.2.2.2.1,h.2.2.2.2.2.1,trivial⟩)
  refine Zz 11 ?_;exact u_ ⟨(i+1,(ts++[]),P,a9),V,(hM.add W K a8 (wU_ J) zaj_),(by rw[yaw_];exact I)⟩ zab_ zl (l_ (c_ (c_ d_)) (c_ B_)) (λv _ h=>by exact⟨(show (cP_ (ts++[])).p v from by rw[yaw_];exact h.2.1),h.2.2.1,h.2.2.2.1,trivial⟩)
 refine Zz 5 ?_;refine e_ (C_ kf_ rfl rfl) rfl (Zz 1 ?_);refine n_ 2 t_ rfl rfl rfl rfl rfl rfl (Zz 4 ?_);exact de_ ⟨(Con.zeroC,e_2),⟨MtE_er hM W K Q,λq=>absurd q Q⟩⟩ (λaa v A M=>bI_ (us:=Con.cells Con.zeroC) 2 ly_ ah_ t_ rfl rfl rfl rfl aa v A M) g_ (λv _ h=>by exact⟨(show Con.mem Con.zeroC v from ⟨.inl rfl,trivial⟩),trivial⟩)
theorem lX_ {G:Prop} (h:G:=by
 refine n_ 1 t_ rfl rfl rfl rfl rfl rfl (Zz 4 ?_);exact de_ ⟨(B,A),(by rw[yao_ (by first|exact .inl (by rw[<-d.1];assumption)|(by_cases J:A=0<;>first|exact .inl (by rw[<-d.1];exact J)|exact .inr (by rw[<-Con.core_kind (d.2 J).1];assumption)))]at F;unfold TdR;rw[F];exact d)⟩ (λH v x q=>bI_ (us:=Con.cells B) 1 results54 ah_ t_ rfl rfl rfl rfl H v x q) g_ zf):G:=h
theorem Aq_ (c:Con) (N:c.ok) (R:c.check=0) (T:(∀ p∈c.parts,Tri prog 54 #[Con.val p] [] [Con.memF p] (λy:{y:Con×Int // TdR p y}=>.tuple #[Con.val y.1.1,iv_ y.1.2]) (λ_=>[]) (λy=>[Con.memF y.1.1]))) (Q:c.kind=5->Tri prog 117 #[.slice c.ad c.parts.length c.cap] [] [ac_ c.ad (c.parts.flatMap Con.cells),oV_ c.parts] (λy:{y:Con×Int // MtR c.parts y}=>.tuple #[Con.val y.1.1,iv_ y.1.2]) (λ_=>[]) (λy=>[Con.memF y.1.1])):Tri prog 54 #[Con.val c] [] [Con.memF c] (λy:{y:Con×Int // TdR c y}=>.tuple #[Con.val y.1.1,iv_ y.1.2]) (λ_=>[]) (λy=>[Con.memF y.1.1]):=by
 refine i_ func54 rfl rfl ntmps54 rfl λU=>?_;refine Zz 2 ?_;refine P_ rfl rfl λV=>x_ aF_ rfl λS=>Zi 13 (λC=>?_) λC=>?_
 .refine Zi 6 (λm=>?_) λm=>?_
  .refine Zz 9 ?_
   refine n_ 0 t_ rfl rfl rfl rfl rfl rfl (Zz 4 ?_);exact de_ ⟨(c,0),(by unfold TdR;rw[Con.tdy_self m C];exact⟨rfl,λ_=>⟨rfl,N⟩⟩)⟩ (λH v x q=>bI_ (us:=Con.cells c) 0 results54 ah_ t_ rfl rfl rfl rfl H v x q) g_ zf
  refine Zz 8 ?_;refine f_ (Q m) rfl g_ (λv _ h=>by exact⟨((Con.mem_iff c v).1 h.1).1,((Con.mem_iff c v).1 h.1).2,trivial⟩) rfl λ⟨⟨G,A⟩,d⟩=>?_;dsimp only;try dsimp only at d
  refine Zz 2 ?_;refine n_ 0 t_ rfl rfl rfl rfl rfl rfl (Zz 4 ?_);exact de_ ⟨(G,A),(by unfold TdR;rw[Con.tdy_and m];exact d)⟩ (λH v x q=>bI_ (us:=Con.cells G) 0 results54 ah_ t_ rfl rfl rfl rfl H v x q) g_ zf
 have M:=ye_ R C;have K:0<c.parts.length:=by omega
 obtain⟨I,e⟩:∃ A,c.parts[0]? = some A:=⟨_,yaa_ K⟩;have E:I∈c.parts:=yad_ e;have P:Con.parts c=[I]:=by have G:=ycI_.1 M;obtain⟨z,J⟩:=G;rw[J]at e;simp at e;rw[J,e]
 have F:=Con.tdy_some C P;refine Zz 8 ?_;refine e_ (Z_ ai_ t_ rfl rfl (λv _ h=>aA_ (n:=5) Con.cells_len zae_ zbF_ e) zaa_ zai_) rfl ?_;refine e_ (am_ (ad:=c.ad) (us:=Con.cells I) ah_ t_ rfl (λv _ h=>by exact ((Con.mem_iff c v).1 h.1).1) (Con.cells_len _) (w_ Con.cells_len e)) rfl (f_ (T I E) rfl g_ (λv _ h=>by exact⟨(Con.mem_part (c:=c) h.1 E),trivial⟩) rfl λ⟨⟨B,A⟩,d⟩=>?_);dsimp only;try dsimp only at d
 refine Zz 3 ?_;refine x_ aF_ rfl λW=>n_ 0 t_ rfl rfl rfl rfl rfl rfl (Zi 7 (λm=>?_) λm=>?_)
 .refine Zi 6 (λO=>?_) λO=>?_
  .refine Zz 11 ?_
   refine O_ ai_ t_ aF_ rfl rfl rfl rfl rfl rfl λL=>?_;refine bC_ (List.flatMap Con.cells [B]) d_ rfl ?_;refine e_ (C_ kf_ rfl rfl) rfl (n_ 1 t_ rfl rfl rfl rfl rfl rfl (Zz 4 ?_));exact de_ ⟨((Con.mk 6 c.name 0 0 (some ⟨L,0,none⟩) 1 [B]),0),(Ab_ N F d (by first|assumption|simp_all) (by first|assumption|simp_all))⟩ (λH v x q=>bI_ (us:=Con.cells (Con.mk 6 c.name 0 0 (some ⟨L,0,none⟩) 1 [B])) 1 results54 ah_ t_ rfl rfl rfl rfl H v x q) g_ (λv _ h=>by exact⟨⟨h.1,⟨h.2.1,trivial⟩⟩,trivial⟩)
  refine Zz 8 ?_;exact lX_
 refine Zz 12 ?_;exact lX_
theorem tK_ (c:Con) (d:c.ok) (m:c.check=0):Tri prog 54 #[c.val] [] [c.memF] (λy:{y:Con×Int // TdR c y}=>.tuple #[Con.val y.1.1,iv_ y.1.2]) (λ_=>[]) (λy=>[Con.memF y.1.1]):=by
  have q:∀ n (c:Con),c.sz<=n->c.ok->c.check=0->Tri prog 54 #[c.val] [] [c.memF] (λy:{y:Con×Int // TdR c y}=>.tuple #[Con.val y.1.1,iv_ y.1.2]) (λ_=>[]) (λy=>[Con.memF y.1.1]):=by
    intro n
    induction n with
    | zero=>intro c h;have:=Con.sz_pos c;omega
    | succ n ih =>
      intro c h d m;have e:∀ p∈c.parts,Tri prog 54 #[Con.val p] [] [Con.memF p] (λy:{y:Con×Int // TdR p y}=>.tuple #[Con.val y.1.1,iv_ y.1.2]) (λ_=>[]) (λy=>[Con.memF y.1.1]):=λp e=>ih p (by have:=Con.sz_part e;omega) (Con.ok_part d e) (Con.check_part m e)
      refine Aq_ c d m e λ_=>Bg_ c.parts c.ad c.cap ?_ e
      have:=(Con.check_zero m).2;rw[Con.sz_eq]at this;omega
  exact q c.sz c (yaj_ _) d m
def TyR (x:Ax) (y:Ax×Int):Prop:=y.2=x.tdyE/\(y.2=0->TdyOf x y.1/\y.1.ok)
def SdF (u:Bool) (c q:Con):Prop:=(u=true->TdR c (q,0))/\(u=false->q=c)
theorem SdF.core {u:Bool} {c q:Con} (h:SdF u c q):q.core=(if u=true then c.tdy.1 else c).core:=by
  cases u with
  | true=>rw[yao_ rfl];exact ((h.1 rfl).2 rfl).1
  | false=>rw[yag_ zaj_,h.2 rfl]
theorem SdF.ok {u:Bool} {c q:Con} (h:SdF u c q) (d:c.ok):q.ok:=by
  cases u with
  | true=>exact ((h.1 rfl).2 rfl).2
  | false=>rw[h.2 rfl];exact d
theorem SdF.er {u:Bool} {c q:Con} (h:SdF u c q):¬ (u=true/\c.tdy.2≠0):=λk=>k.2 (h.1 k.1).1.symm
theorem SdF.yes {u:Bool} {c q:Con} {e:Int} (m:u=true) (h:TdR c (q,e)) (d:e=0):SdF u c q:=⟨λ_=>by rw[<-d];exact h,λk=>by rw[m]at k;exact absurd k zaj_⟩
theorem SdF.no {u:Bool} {c:Con} (d:¬ u=true):SdF u c c:=⟨λk=>absurd k d,λ_=>rfl⟩
theorem SdF.sz {u:Bool} {c q:Con} (h:SdF u c q):q.sz<=c.sz:=by
  cases u with
  | true =>
    rw[Con.sz_core _ _ ((h.1 rfl).2 rfl).1];exact Con.tdy_sz c
  | false=>rw[h.2 rfl];exact yaj_ _
theorem TyE1 {x y:Ax} (h:x.check≠0):TyR x (y,x.check):=⟨by unfold Ax.tdyE;rw[yao_ h],λk=>absurd k h⟩
theorem TyE2 {x y:Ax} {q:Con} {e:Int} (h:x.check=0) (A:(us x.kind).left=true) (v:TdR x.left (q,e)) (d:e≠0):TyR x (y,e):=by
  have m:e=x.left.tdy.2:=v.1;refine⟨?_,λk=>absurd k d⟩;unfold Ax.tdyE;rw[yag_ zbu_,yao_ ⟨A,by rw[<-m];exact d⟩];exact m
theorem TyE3 {x y:Ax} {l q:Con} {e:Int} (h:x.check=0) (hl:SdF (us x.kind).left x.left l) (A:(us x.kind).right=true) (v:TdR x.right (q,e)) (d:e≠0):TyR x (y,e):=by
  have m:e=x.right.tdy.2:=v.1;refine⟨?_,λk=>absurd k d⟩;unfold Ax.tdyE;rw[yag_ zbu_,yag_ hl.er,yao_ ⟨A,by rw[<-m];exact d⟩];exact m
theorem Ty_e {x:Ax} {l r:Con} (h:x.check=0) (hl:SdF (us x.kind).left x.left l) (d:SdF (us x.kind).right x.right r):x.tdyE=0:=by
  unfold Ax.tdyE;rw[yag_ zbu_,yag_ hl.er,yag_ d.er]
theorem Aa_ {x:Ax} {l r:Con} (hl:SdF (us x.kind).left x.left l) (d:SdF (us x.kind).right x.right r):Con.cmp x.tdyL x.tdyR=Con.cmp l r:=Con.cmp_of hl.core.symm d.core.symm
theorem Cj_ {x:Ax} {l r:Con} (d:x.ok) (h:x.check=0) (hl:SdF (us x.kind).left x.left l) (m:SdF (us x.kind).right x.right r) (q:¬ ((x.kind=2\/x.kind=3)/\0<Con.cmp l r)):TyR x (.mk x.kind x.opn l r x.ad x.cap x.roles x.role x.a x.b,0):=by
 have e:¬ x.swp:=by unfold Ax.swp;rw[Aa_ hl m];exact q
 refine⟨(Ty_e h hl m).symm,λ_=>⟨⟨rfl,rfl,rfl,rfl,rfl,rfl,?_,?_⟩,?_⟩⟩
 .rw[yag_ e];exact hl.core
 .rw[yag_ e];exact m.core
 exact⟨d.lo,d.hi,hl.ok d.left,m.ok d.right,d.len,d.cap,d.roles,d.role,d.a,d.b⟩
theorem Ci_ {x:Ax} {l r:Con} (d:x.ok) (h:x.check=0) (hl:SdF (us x.kind).left x.left l) (m:SdF (us x.kind).right x.right r) (hk:x.kind=2\/x.kind=3) (q:0<Con.cmp l r):TyR x (.mk x.kind x.opn r l x.ad x.cap x.roles x.role x.a x.b,0):=by
 have e:x.swp:=by unfold Ax.swp;rw[Aa_ hl m];exact⟨hk,q⟩
 refine⟨(Ty_e h hl m).symm,λ_=>⟨⟨rfl,rfl,rfl,rfl,rfl,rfl,?_,?_⟩,?_⟩⟩
 .rw[yao_ e];exact m.core
 .rw[yao_ e];exact hl.core
 exact⟨d.lo,d.hi,m.ok d.right,hl.ok d.left,d.len,d.cap,d.roles,d.role,d.a,d.b⟩
theorem lN_ {x:Ax} (h:x.check=0):x.shaped=true:=by
  cases e:x.shaped with
  | true=>rfl
  | false=>unfold Ax.check at h;rw[yao_ e]at h;simp at h
theorem vM_ {x:Ax} (h:x.check=0):1<=x.kind/\x.kind<=9:=by
 have d:=lN_ h;unfold Ax.shaped at d
 by_cases e:x.kind<1\/9<x.kind
 .rw[yao_ e]at d;simp at d
 omega
theorem tv_ {x:Ax} (h:x.check=0):x.namedU (us x.kind)=true:=by
  cases e:x.namedU (us x.kind) with
  | true=>rfl
  | false=>rw[Ax.check_20 (lN_ h) e]at h;simp at h
theorem li_ {x:Ax} (h:x.check=0) (d:(us x.kind).left=true):x.left.check=0:=by
 by_cases e:x.left.check=0
 .exact e
 rw[Ax.check_left (lN_ h) (tv_ h) d e]at h;exact absurd h e
theorem hn_ {x:Ax} (h:x.check=0) (d:(us x.kind).right=true):x.right.check=0:=by
 by_cases e:x.right.check=0
 .exact e
 rw[Ax.check_right (lN_ h) (tv_ h) (li_ h) d e]at h;exact absurd h e
theorem us_get {x:Ax} (h:1<=x.kind/\x.kind<=9):rX_[x.kind.toNat]? = some (us x.kind):=by
  have hl:x.kind.toNat<rX_.length:=by show x.kind.toNat<10;omega
  unfold us;rw[yaa_ hl];rfl
theorem eh_ {k:Int} (h:k=2\/k=3):(us k).left=true/\(us k).right=true:=by rcases h with rfl|rfl<;>exact⟨rfl,rfl⟩
theorem mB_ {x:Ax} {l:Con} (h:x.check=0) (hl:SdF (us x.kind).left x.left l) (d:(us x.kind).left=true):l.sz<=1000000:=by
  have e:=hl.sz;have m:=(Con.check_zero (li_ h d)).2;omega
theorem iB_ {x:Ax} {l:Con} (h:x.check=0) (hl:SdF (us x.kind).right x.right l) (d:(us x.kind).right=true):l.sz<=1000000:=by
  have e:=hl.sz;have m:=(Con.check_zero (hn_ h d)).2;omega
theorem strt30:gp_ prog 30 [(0,1),(1,1),(2,5),(7,5),(12,1),(13,1),(14,1),(15,1)] [iv_ 0,.bool false,iv_ 0,str [],iv_ 0,iv_ 0,.slice none 0 0,iv_ 0,str [],iv_ 0,iv_ 0,.slice none 0 0,.slice none 0 0,str [],str [],str []]:=⟨_,aJ_,runUnderlying30,λw=>by simp[ag_,cF_,G_,bP_,t_]⟩
theorem il_ {G:Prop} (h:G:=by
 refine n_ 1 L_ rfl rfl rfl rfl rfl rfl (Zz 4 ?_);exact de_ ⟨(x,0),Cj_ F H (SdF.no zbb_) (SdF.no zbv_) zaa_⟩ (λG v e d=>bI_ (us:=Ax.cells x) 1 cY_ bK_ L_ rfl rfl rfl rfl G v e d) g_ zf):G:=h
theorem lY_ {G:Prop} (h:G:=by
 refine Zz 10 ?_;refine n_ 1 t_ rfl rfl rfl rfl rfl rfl (Zz 1 ?_);refine n_ 1 t_ rfl rfl rfl rfl rfl rfl (Zz 5 ?_);refine n_ 1 L_ rfl rfl rfl rfl rfl rfl (Zz 4 ?_);exact de_ ⟨((Ax.mk x.kind x.opn K A x.ad x.cap x.roles x.role x.a x.b),0),Ci_ F H (SdF.yes B q zaA_) (SdF.yes C J zbe_) zaa_ zaa_⟩ (λG v e d=>bI_ (us:=Ax.cells (Ax.mk x.kind x.opn K A x.ad x.cap x.roles x.role x.a x.b)) 1 cY_ bK_ L_ rfl rfl rfl rfl G v e d) g_ (λv _ h=>by exact⟨⟨h.1,h.2.1,h.2.2.1.2.2⟩,trivial⟩)):G:=h
theorem lZ_ {G:Prop} (h:G:=by
 refine Zz 10 ?_;refine n_ 1 t_ rfl rfl rfl rfl rfl rfl (Zz 1 ?_);refine n_ 1 t_ rfl rfl rfl rfl rfl rfl (Zz 5 ?_);refine n_ 1 L_ rfl rfl rfl rfl rfl rfl (Zz 4 ?_);exact de_ ⟨((Ax.mk x.kind x.opn A x.left x.ad x.cap x.roles x.role x.a x.b),0),Ci_ F H (SdF.no zbb_) (SdF.yes C q zaA_) zaa_ zaa_⟩ (λG v e d=>bI_ (us:=Ax.cells (Ax.mk x.kind x.opn A x.left x.ad x.cap x.roles x.role x.a x.b)) 1 cY_ bK_ L_ rfl rfl rfl rfl G v e d) g_ (λv _ h=>by exact⟨⟨h.1,h.2.1.1,h.2.1.2.2⟩,trivial⟩)):G:=h
theorem ma_ {G:Prop} (h:G:=by
 refine Zz 10 ?_;refine n_ 1 t_ rfl rfl rfl rfl rfl rfl (Zz 1 ?_);refine n_ 1 t_ rfl rfl rfl rfl rfl rfl (Zz 5 ?_);refine n_ 1 L_ rfl rfl rfl rfl rfl rfl (Zz 4 ?_);exact de_ ⟨((Ax.mk x.kind x.opn x.right A x.ad x.cap x.roles x.role x.a x.b),0),Ci_ F H (SdF.yes B q zaA_) (SdF.no zbv_) zaa_ zaa_⟩ (λG v e d=>bI_ (us:=Ax.cells (Ax.mk x.kind x.opn x.right A x.ad x.cap x.roles x.role x.a x.b)) 1 cY_ bK_ L_ rfl rfl rfl rfl G v e d) g_ (λv _ h=>by exact⟨⟨h.2.1.2.1,h.1,h.2.1.2.2⟩,trivial⟩)):G:=h
theorem mb_ {G:Prop} (h:G:=by
 refine Zz 10 ?_;refine n_ 1 t_ rfl rfl rfl rfl rfl rfl (Zz 1 ?_);refine n_ 1 t_ rfl rfl rfl rfl rfl rfl (Zz 5 ?_);refine n_ 1 L_ rfl rfl rfl rfl rfl rfl (Zz 4 ?_);exact de_ ⟨((Ax.mk x.kind x.opn x.right x.left x.ad x.cap x.roles x.role x.a x.b),0),Ci_ F H (SdF.no zbb_) (SdF.no zbv_) zaa_ zaa_⟩ (λG v e d=>bI_ (us:=Ax.cells (Ax.mk x.kind x.opn x.right x.left x.ad x.cap x.roles x.role x.a x.b)) 1 cY_ bK_ L_ rfl rfl rfl rfl G v e d) g_ (λv _ h=>by exact⟨⟨h.1.2.1,h.1.1,h.1.2.2⟩,trivial⟩)):G:=h
theorem im_ {G:Prop} (h:G:=by
 refine n_ 1 L_ rfl rfl rfl rfl rfl rfl (Zz 4 ?_);exact de_ ⟨((Ax.mk x.kind x.opn A K x.ad x.cap x.roles x.role x.a x.b),0),Cj_ F H (SdF.yes B q zaA_) (SdF.yes C J zbe_) zaa_⟩ (λG v e d=>bI_ (us:=Ax.cells (Ax.mk x.kind x.opn A K x.ad x.cap x.roles x.role x.a x.b)) 1 cY_ bK_ L_ rfl rfl rfl rfl G v e d) g_ (λv _ h=>by exact⟨⟨h.2.1,h.1,h.2.2.1.2.2⟩,trivial⟩)):G:=h
theorem in_ {G:Prop} (h:G:=by
 refine n_ 1 L_ rfl rfl rfl rfl rfl rfl (Zz 4 ?_);exact de_ ⟨((Ax.mk x.kind x.opn x.left A x.ad x.cap x.roles x.role x.a x.b),0),Cj_ F H (SdF.no zbb_) (SdF.yes C q zaA_) zaa_⟩ (λG v e d=>bI_ (us:=Ax.cells (Ax.mk x.kind x.opn x.left A x.ad x.cap x.roles x.role x.a x.b)) 1 cY_ bK_ L_ rfl rfl rfl rfl G v e d) g_ (λv _ h=>by exact⟨⟨h.2.1.1,h.1,h.2.1.2.2⟩,trivial⟩)):G:=h
theorem io_ {G:Prop} (h:G:=by
 refine n_ 1 L_ rfl rfl rfl rfl rfl rfl (Zz 4 ?_);exact de_ ⟨((Ax.mk x.kind x.opn A x.right x.ad x.cap x.roles x.role x.a x.b),0),Cj_ F H (SdF.yes B q zaA_) (SdF.no zbv_) zaa_⟩ (λG v e d=>bI_ (us:=Ax.cells (Ax.mk x.kind x.opn A x.right x.ad x.cap x.roles x.role x.a x.b)) 1 cY_ bK_ L_ rfl rfl rfl rfl G v e d) g_ (λv _ h=>by exact⟨⟨h.1,h.2.1.2.1,h.2.1.2.2⟩,trivial⟩)):G:=h
set_option maxHeartbeats 1000000 in
theorem nJ_ (x:Ax) (F:x.ok):Tri prog 18 #[Ax.val x] [] [Ax.memF x,bN_] (λy:{y:Ax×Int // TyR x y}=>.tuple #[Ax.val y.1.1,iv_ y.1.2]) (λ_=>[]) (λy=>[Ax.memF y.1.1]):=by
 refine i_ func18 rfl rfl ntmps18 rfl λT=>?_;refine Zz 2 ?_;refine P_ rfl rfl λV=>x_ aJ_ rfl λS=>Zz 7 ?_
 refine f_ (eS_ x F) rfl g_ zf rfl λ_=>Zi 6 (λM=>?_) λM=>?_
 .have H:Ax.check x=0:=by simpa using M
  have P:=vM_ H;refine Zz 9 ?_;refine e_ (dE_ runUnderlying91 ev_ rfl rfl (by show (0:Int)<=x.kind;omega) (by show x.kind<(10:Int);omega)) rfl ?_;obtain⟨U,B⟩:∃ b,(us x.kind).left=b:=⟨_,rfl⟩;obtain⟨R,C⟩:∃ b,(us x.kind).right=b:=⟨_,rfl⟩;refine e_ (am_ (ad:=some ⟨0,0,none⟩) (us:=Use.cells (us x.kind)) isAgg90 ev_ rfl (λv _ h=>h.2.1.2.1) (Use.cells_len _) (w_ Use.cells_len (us_get P))) rfl ?_;unfold Use.cells;rw[B,C];refine x_ zeroValue90 rfl λW=>n_ 0 ev_ rfl rfl rfl rfl rfl rfl (Zz 5 ?_)
  refine n_ 1 L_ rfl rfl rfl rfl rfl rfl (Zz 9 ?_);cases U
  .refine Zz 10 ?_
   cases R
   .refine Zi 8 (λm=>?_) λm=>?_
    .refine Zi 6 (λE=>?_) λE=>?_
     .refine Zz 17 ?_
      exact il_
     refine Zz 11 ?_;refine f_ (eq_ x.left x.right (mB_ H (SdF.no zbb_) (eh_ zaa_).1) (iB_ H (SdF.no zbv_) (eh_ zaa_).2)) rfl g_ (λv _ h=>by exact⟨h.1.1,h.1.2.1,trivial⟩) rfl λ_=>?_;refine ay_ rfl rfl ?_;refine Zi 0 (λI=>?_) λI=>?_
     .refine Zz 9 ?_
      exact il_
     exact mb_
    refine Zz 15 ?_;refine f_ (eq_ x.left x.right (mB_ H (SdF.no zbb_) (eh_ zaa_).1) (iB_ H (SdF.no zbv_) (eh_ zaa_).2)) rfl g_ (λv _ h=>by exact⟨h.1.1,h.1.2.1,trivial⟩) rfl λ_=>?_;refine ay_ rfl rfl ?_;refine Zi 0 (λE=>?_) λE=>?_
    .refine Zz 9 ?_
     exact il_
    exact mb_
   refine Zz 5 ?_;refine f_ (tK_ x.right F.right (hn_ H C)) rfl g_ (λv _ h=>by exact⟨h.1.2.1,trivial⟩) rfl λ⟨⟨A,N⟩,q⟩=>?_;dsimp only;try dsimp only at q
   refine Zz 4 ?_;refine n_ 1 t_ rfl rfl rfl rfl rfl rfl (Zi 6 (λm=>?_) λm=>?_)
   .refine Zi 10 (λE=>?_) λE=>?_
    .refine Zi 6 (λI=>?_) λI=>?_
     .refine Zz 17 ?_
      exact in_
     refine Zz 11 ?_;refine f_ (eq_ x.left A (mB_ H (SdF.no zbb_) (eh_ zaa_).1) (iB_ H (SdF.yes C q zaA_) (eh_ zaa_).2)) rfl g_ (λv _ h=>by exact⟨h.2.1.1,h.1,trivial⟩) rfl λ_=>?_;refine ay_ rfl rfl ?_;refine Zi 0 (λL=>?_) λL=>?_
     .refine Zz 9 ?_
      exact in_
     exact lZ_
    refine Zz 15 ?_;refine f_ (eq_ x.left A (mB_ H (SdF.no zbb_) (eh_ zaa_).1) (iB_ H (SdF.yes C q zaA_) (eh_ zaa_).2)) rfl g_ (λv _ h=>by exact⟨h.2.1.1,h.1,trivial⟩) rfl λ_=>?_;refine ay_ rfl rfl ?_;refine Zi 0 (λI=>?_) λI=>?_
    .refine Zz 9 ?_
     exact in_
    exact lZ_
   refine Zz 5 ?_;refine e_ (C_ strt30 rfl rfl) rfl (Zz 1 ?_);refine n_ 1 L_ rfl rfl rfl rfl rfl rfl (Zz 4 ?_);exact de_ ⟨((Ax.mk 0 false (Con.mk 0 [] 0 0 none 0 []) (Con.mk 0 [] 0 0 none 0 []) none 0 [] [] [] []),N),TyE3 H (SdF.no zbb_) C q zaA_⟩ (λG v e d=>bI_ (us:=Ax.cells (Ax.mk 0 false (Con.mk 0 [] 0 0 none 0 []) (Con.mk 0 [] 0 0 none 0 []) none 0 [] [] [] [])) 1 cY_ bK_ L_ rfl rfl rfl rfl G v e d) g_ (λv _ h=>by exact⟨⟨⟨.inl rfl,trivial⟩,⟨.inl rfl,trivial⟩,(.inl rfl)⟩,trivial⟩)
  refine Zz 5 ?_;refine f_ (tK_ x.left F.left (li_ H B)) rfl g_ (λv _ h=>by exact⟨h.1.1,trivial⟩) rfl λ⟨⟨A,N⟩,q⟩=>?_;dsimp only;try dsimp only at q
  refine Zz 4 ?_;refine n_ 1 t_ rfl rfl rfl rfl rfl rfl (Zi 6 (λm=>?_) λm=>?_)
  .refine Zz 12 ?_
   cases R
   .refine Zi 8 (λE=>?_) λE=>?_
    .refine Zi 6 (λI=>?_) λI=>?_
     .refine Zz 17 ?_
      exact io_
     refine Zz 11 ?_;refine f_ (eq_ A x.right (mB_ H (SdF.yes B q zaA_) (eh_ zaa_).1) (iB_ H (SdF.no zbv_) (eh_ zaa_).2)) rfl g_ (λv _ h=>by exact⟨h.1,h.2.1.2.1,trivial⟩) rfl λ_=>?_;refine ay_ rfl rfl ?_;refine Zi 0 (λL=>?_) λL=>?_
     .refine Zz 9 ?_
      exact io_
     exact ma_
    refine Zz 15 ?_;refine f_ (eq_ A x.right (mB_ H (SdF.yes B q zaA_) (eh_ zaa_).1) (iB_ H (SdF.no zbv_) (eh_ zaa_).2)) rfl g_ (λv _ h=>by exact⟨h.1,h.2.1.2.1,trivial⟩) rfl λ_=>?_;refine ay_ rfl rfl ?_;refine Zi 0 (λI=>?_) λI=>?_
    .refine Zz 9 ?_
     exact io_
    exact ma_
   refine Zz 5 ?_;refine f_ (tK_ x.right F.right (hn_ H C)) rfl g_ (λv _ h=>by exact⟨h.2.1.2.1,trivial⟩) rfl λ⟨⟨K,Q⟩,J⟩=>?_;dsimp only;try dsimp only at J
   refine Zz 4 ?_;refine n_ 1 t_ rfl rfl rfl rfl rfl rfl (Zi 6 (λE=>?_) λE=>?_)
   .refine Zi 10 (λI=>?_) λI=>?_
    .refine Zi 6 (λL=>?_) λL=>?_
     .refine Zz 17 ?_
      exact im_
     refine Zz 11 ?_;refine f_ (eq_ A K (mB_ H (SdF.yes B q zaA_) (eh_ zaa_).1) (iB_ H (SdF.yes C J zbe_) (eh_ zaa_).2)) rfl g_ zf rfl λ_=>ay_ rfl rfl ?_
     refine Zi 0 (λO=>?_) λO=>?_
     .refine Zz 9 ?_
      exact im_
     exact lY_
    refine Zz 15 ?_;refine f_ (eq_ A K (mB_ H (SdF.yes B q zaA_) (eh_ zaa_).1) (iB_ H (SdF.yes C J zbe_) (eh_ zaa_).2)) rfl g_ zf rfl λ_=>ay_ rfl rfl ?_
    refine Zi 0 (λL=>?_) λL=>?_
    .refine Zz 9 ?_
     exact im_
    exact lY_
   refine Zz 5 ?_;refine e_ (C_ strt30 rfl rfl) rfl (Zz 1 ?_);refine n_ 1 L_ rfl rfl rfl rfl rfl rfl (Zz 4 ?_);exact de_ ⟨((Ax.mk 0 false (Con.mk 0 [] 0 0 none 0 []) (Con.mk 0 [] 0 0 none 0 []) none 0 [] [] [] []),Q),TyE3 H (SdF.yes B q zaA_) C J zbe_⟩ (λG v e d=>bI_ (us:=Ax.cells (Ax.mk 0 false (Con.mk 0 [] 0 0 none 0 []) (Con.mk 0 [] 0 0 none 0 []) none 0 [] [] [] [])) 1 cY_ bK_ L_ rfl rfl rfl rfl G v e d) g_ (λv _ h=>by exact⟨⟨⟨.inl rfl,trivial⟩,⟨.inl rfl,trivial⟩,(.inl rfl)⟩,trivial⟩)
  refine Zz 5 ?_;refine e_ (C_ strt30 rfl rfl) rfl (Zz 1 ?_);refine n_ 1 L_ rfl rfl rfl rfl rfl rfl (Zz 4 ?_);exact de_ ⟨((Ax.mk 0 false (Con.mk 0 [] 0 0 none 0 []) (Con.mk 0 [] 0 0 none 0 []) none 0 [] [] [] []),N),TyE2 H B q zaA_⟩ (λG v e d=>bI_ (us:=Ax.cells (Ax.mk 0 false (Con.mk 0 [] 0 0 none 0 []) (Con.mk 0 [] 0 0 none 0 []) none 0 [] [] [] [])) 1 cY_ bK_ L_ rfl rfl rfl rfl G v e d) g_ (λv _ h=>by exact⟨⟨⟨.inl rfl,trivial⟩,⟨.inl rfl,trivial⟩,(.inl rfl)⟩,trivial⟩)
 refine Zz 5 ?_;refine e_ (C_ strt30 rfl rfl) rfl (Zz 1 ?_);refine n_ 0 L_ rfl rfl rfl rfl rfl rfl (Zz 4 ?_);exact de_ ⟨((Ax.mk 0 false (Con.mk 0 [] 0 0 none 0 []) (Con.mk 0 [] 0 0 none 0 []) none 0 [] [] [] []),(Ax.check x)),TyE1 (by simpa using M)⟩ (λG v e d=>bI_ (us:=Ax.cells (Ax.mk 0 false (Con.mk 0 [] 0 0 none 0 []) (Con.mk 0 [] 0 0 none 0 []) none 0 [] [] [] [])) 0 cY_ bK_ L_ rfl rfl rfl rfl G v e d) g_ (λv _ h=>by exact⟨⟨⟨.inl rfl,trivial⟩,⟨.inl rfl,trivial⟩,(.inl rfl)⟩,trivial⟩)
def qA_ (x:Ax):Prop:=x.left.core=(if x.swp then x.tdyR.core else x.tdyL.core)/\x.right.core=if x.swp then x.tdyL.core else x.tdyR.core
theorem pD_ {x y:Ax} (h:TdyOf x y):x.alk y↔qA_ x :=
  ⟨λ⟨_,d,e,_⟩=>⟨by rw[d,h.left],by rw[e,h.right]⟩,λ⟨d,e⟩=>⟨h.kind.symm,by rw[d,h.left],by rw[e,h.right],h.roles.symm,h.role.symm,h.a.symm,h.b.symm⟩⟩
instance (x:Ax):Decidable (qA_ x):=decidable_of_iff (Con.cmp x.left (if x.swp then x.tdyR else x.tdyL)=0/\Con.cmp x.right (if x.swp then x.tdyL else x.tdyR)=0) (by
 rw[Con.cmp_zero,Con.cmp_zero];unfold qA_
 by_cases h:x.swp
 .simp only[yao_ h]
 simp only[yag_ h])
def ig_ (x:Ax):Int:=if x.tdyE≠0 then x.tdyE else if qA_ x then 0 else 22
def axE:List Ax->Int
  | []=>0
  | x::l=>if ig_ x≠0 then ig_ x else axE l
theorem zT_:∀ {l:List Ax} {i:Nat} {x:Ax},(∀ z∈l.take i,ig_ z=0)->l[i]? = some x->ig_ x≠0->axE l=ig_ x
  | [],_,_,_,h,_=>by simp at h
  | y::l,0,x,_,h,hx=>by simp at h;subst h;simp[axE,hx]
  | y::l,i+1,x,h0,h,hx=>by
    have d:ig_ y=0:=h0 y zaj_;simp only[axE];rw[yag_ (by rw[d];simp)];exact zT_ (i:=i) (λz e=>h0 z zbT_) zaH_ hx
theorem pd_:∀ {l:List Ax},axE l=0↔∀ z∈l,ig_ z=0
 | []=>by simp[axE]
 | y::l=>by
   simp only[axE]
   by_cases h:ig_ y=0
   . rw[yag_ zbu_,pd_];simp[h]
   . rw[yao_ h]
     exact⟨λq=>absurd q h,λq=>absurd (q y zaj_) h⟩
def lQ_ (l:List Ax):Prop:=∀ (i:Nat) (x y:Ax),l[i]? = some x->l[i+1]? = some y->Ax.cmp x y=-1
def qz_ (x:Ax):Prop:=yk_ x=true/\x.opn=false
def BCk (l:List Ax) (e:Int):Prop :=
  (axE l≠0/\e=axE l)\/(axE l=0/\¬ lQ_ l/\e=70)\/(axE l=0/\lQ_ l/\1024<l.length/\e=2)\/(axE l=0/\lQ_ l/\l.length<=1024/\(∃ x∈l,qz_ x)/\e=71)\/
    (axE l=0/\lQ_ l/\l.length<=1024/\(∀ x∈l,¬ qz_ x)/\RlR l e)
theorem BCk.uniq {l:List Ax} {a b:Int} (h:BCk l a) (k:BCk l b):a=b:=by
  rcases h with⟨e,d⟩|⟨e,d,v⟩|⟨e,d,v,m⟩|⟨e,d,v,m,C⟩|⟨e,d,v,m,C⟩<;>rcases k with⟨k1,k2⟩|⟨k1,k2,B⟩|⟨k1,k2,B,q⟩|⟨k1,k2,B,q,E⟩|⟨k1,k2,B,q,E⟩ <;>
    first|(exact absurd e k1)|(exact absurd k1 e)|(exact absurd d k2)|(exact absurd k2 d)|omega|(obtain⟨x,A,y⟩:=m;exact absurd y (q x A))|(obtain⟨x,A,y⟩:=q;exact absurd y (m x A))|exact C.uniq E
theorem kd_ {x:Ax} (h:x.tdyE=0):x.check=0:=by
 by_cases e:x.check=0
 .exact e
 unfold Ax.tdyE at h;rw[yao_ e]at h;exact h
theorem pC_ {x:Ax}:ig_ x=0↔x.tdyE=0/\qA_ x:=by
 unfold ig_
 by_cases h:x.tdyE=0
 .rw[yag_ zbu_]
  by_cases c:qA_ x
  .rw[yao_ c];exact⟨λ_=>⟨h,c⟩,λ_=>rfl⟩
  rw[yag_ c];exact⟨λq=>by omega,λq=>absurd q.2 c⟩
 rw[yao_ h];exact⟨λq=>absurd q h,λq=>q.1⟩
theorem tidE_a {x y:Ax} {e:Int} (h:TyR x (y,e)) (m:e≠0):ig_ x=e:=by
  have d:e=x.tdyE:=h.1;unfold ig_;rw[yao_ (by rw[<-d];exact m),d]
theorem tidE_b {x y:Ax} {e:Int} (h:TyR x (y,e)) (d:e=0) (A:¬ x.alk y):ig_ x=22:=by
  have v:e=x.tdyE:=h.1;have m:=pD_ (h.2 d).1;unfold ig_;rw[yag_ (by rw[<-v,d];simp),yag_ λq=>A (m.2 q)]
theorem tidE_c {x y:Ax} {e:Int} (h:TyR x (y,e)) (d:e=0) (v:x.alk y):ig_ x=0:=by
  have m:e=x.tdyE:=h.1;have q:=pD_ (h.2 d).1;exact pC_.2 ⟨by rw[<-m,d],q.1 v⟩
theorem tf_ {c:Con} (h:c.empty=true):c.sz=1:=by
  cases c with
  | mk k n l hi ad cp ps =>
    unfold Con.empty at h;simp only[yaq_,ycB_,Con.parts]at h;have:ps=[]:=yau_ zaa_;subst this;simp[Con.sz,Con.sz.szs]
theorem jQ_ {x:Ax} (h:x.check=0):x.left.sz<=64/\x.right.sz<=64:=by
 have m:=lN_ h;have hk:=vM_ h;unfold Ax.shaped at m;rw[yag_ zaa_]at m;simp only[yaq_,yby_]at m;obtain⟨⟨⟨⟨⟨⟨d,e⟩,_⟩,_⟩,_⟩,_⟩,_⟩:=m;constructor
 .rcases d with d|d
  .exact (Con.check_zero (li_ h d)).2
  rw[tf_ d];omega
 rcases e with e|e
 .exact (Con.check_zero (hn_ h e)).2
 rw[tf_ e];omega
theorem xJ_ {x:Ax} (h:x.check=0):x.tdyL.sz<=64/\x.tdyR.sz<=64:=by
  have d:=jQ_ h;have m:=Con.tdy_sz x.left;have e:=Con.tdy_sz x.right;unfold Ax.tdyL Ax.tdyR;constructor<;>split<;>omega
theorem sb_ {x y:Ax} (h:TdyOf x y) (q:x.check=0):y.left.sz<=64/\y.right.sz<=64:=by
 have m:=xJ_ q;have d:=h.left;have e:=h.right
 by_cases c:x.swp
 .rw[yao_ c]at d e
  rw[Con.sz_core _ _ d,Con.sz_core _ _ e];exact⟨m.2,m.1⟩
 rw[yag_ c]at d e;rw[Con.sz_core _ _ d,Con.sz_core _ _ e];exact m
theorem lQ_.step {l:List Ax} {k:Nat} {x y:Ax} (h:∀ (i:Nat) (x y:Ax),i+1<k+1->l[i]? = some x->l[i+1]? = some y->Ax.cmp x y=-1) (C:l[k]? = some x) (q:l[k+1]? = some y) (B:Ax.cmp x y=-1) :
    ∀ (i:Nat) (x y:Ax),i+1<k+1+1->l[i]? = some x->l[i+1]? = some y->Ax.cmp x y=-1:=λi A v hi m d=>by
  by_cases e:i=k
  . subst e;rw[C]at m;rw[q]at d;cases m;cases d;exact B
  . exact h i A v zaa_ m d
theorem lQ_.all {l:List Ax} {k:Nat} (h:∀ (i:Nat) (x y:Ax),i+1<k->l[i]? = some x->l[i+1]? = some y->Ax.cmp x y=-1) (hk:l.length<=k):lQ_ l:=λi x y e d=>h i x y zce_ e d
theorem BCk.er {l:List Ax} {i:Nat} {x:Ax} {e:Int} (m:∀ z∈l.take i,ig_ z=0) (q:l[i]? = some x) (d:ig_ x=e) (h:e≠0):BCk l e:=by
  have:=zT_ m q (by rw[d];exact h);exact .inl ⟨by rw[this,d];exact h,by rw[this,d]⟩
theorem tA_ {l:List Ax} {i:Nat} {p:Ax->Prop} (h:∀ z∈l.take i,p z) (hi:l.length<=i):∀ z∈l,p z:=by rwa [yab_ hi]at h
theorem sc_ {l:List Ax} {i:Nat} {x:Ax} {p:Ax->Prop} (h:∀ z∈l.take i,p z) (m:l[i]? = some x) (e:p x):∀ z∈l.take (i+1),p z:=λz d=>by
 rw[take_snoc m,yah_,yai_]at d;rcases d with d|rfl
 .exact h z d
 exact e
theorem jE_ {l:List Ax} (h:axE l=0):∀ x∈l,x.check=0:=λx d=>kd_ (pC_.1 (pd_.1 h x d)).1
theorem bk_eq {a:Bool} {n:Int} (h:(a&&(n==0))=true):a=true/\n=0:=by simpa using h
theorem bk_ne {x y:Ax} {e:Int} (h:((x.opn==y.opn)&&(Ax.cmp x y==0))=false) (A:TyR x (y,e)) (m:e=0):¬ x.alk y:=λq=>by
  have v:=(Ax.cmp_zero _ _).2 q;have d:=(A.2 m).1.opn;dsimp only at d;rw[v,d]at h;simp at h
theorem my_ {G:Prop} (h:G:=by
 exact u_ ⟨j+1,K,(sc_ hN L (by unfold qz_;intro q;simp_all))⟩ zab_ zl (c_ d_) zh):G:=h
set_option maxHeartbeats 1000000 in
theorem iY_ (l:List Ax) (ad:Ao) (cap:Nat) (P:∀ x∈l,x.ok) (hll:l.length<=1000000):Tri prog 20 #[.agg #[.slice ad l.length cap]] [] [cG_ ad l,bN_] (λy:{e:Int // BCk l e}=>iv_ y.1) (λ_=>[]) (λ_=>[]):=by
 refine i_ func20 rfl rfl ntmps20 rfl λv_1=>?_;refine Zz 2 ?_;refine P_ rfl rfl λN=>Zz 13 ?_
 let Pu:Hp:=((N,.cells #[.slice ad l.length cap] 24 (0,0))::[]);refine H_ (ι:={y:Nat // y<=List.length l/\(∀ z∈List.take y l,ig_ z=0)}) (λy=>[(1,zp_ N 0),(2,iv_ 0),(11,.slice ad l.length cap),(12,iv_ (List.length l:Int)),(13,iv_ y.1)]) (λy=>Pu) (λy=>[cG_ ad l,bN_]) (λy=>l.length - y.1) ⟨(0:Nat),by simp,zaj_⟩ zl d_ zh ?_;rintro ⟨i,a0,hE⟩;dsimp only at a0 hE ⊢;refine Zi 2 (λa3=>?_) λa3=>?_
 .refine Zz 13 ?_
  have J:axE l=0:=pd_.2 (tA_ hE zaa_);have W:=jE_ J;refine H_ (ι:={y:Nat // 1<=y/\(∀ (n:Nat) (p q:Ax),n+1<y->l[n]? = some p->l[n+1]? = some q->Ax.cmp p q=-1)}) (λy=>[(1,zp_ N 0),(2,iv_ 0),(7,iv_ y.1)]) (λy=>Pu) (λy=>[cG_ ad l,bN_]) (λy=>l.length - y.1) ⟨(1:Nat),zaj_,(λi x y h=>by omega)⟩ zl d_ zh ?_;rintro ⟨a1,Y,hS⟩;dsimp only at Y hS ⊢;refine Zi 7 (λF=>?_) λF=>?_
  .refine Zi 11 (λB=>?_) λB=>?_
   .refine Zz 15 ?_
    have R:lQ_ l:=lQ_.all hS zaa_;refine H_ (ι:={y:Nat // y<=List.length l/\(∀ z∈List.take y l,¬ qz_ z)}) (λy=>[(1,zp_ N 0),(2,iv_ 0),(56,.slice ad l.length cap),(57,iv_ (List.length l:Int)),(58,iv_ y.1)]) (λy=>Pu) (λy=>[cG_ ad l,bN_]) (λy=>l.length - y.1) ⟨(0:Nat),by simp,zaj_⟩ zl d_ zh ?_;rintro ⟨j,a2,hN⟩;dsimp only at a2 hN ⊢;refine Zi 2 (λX=>?_) λX=>?_
    .refine Zz 10 ?_
     refine f_ (pM_ l ad cap P W zaa_) rfl g_ zf rfl λ⟨⟨rv,re⟩,hre⟩=>?_;dsimp only;refine Zz 13 ?_;exact ab_ oc_ ⟨re,.inr (.inr (.inr (.inr ⟨J,R,by omega,tA_ hN zaa_,hre⟩)))⟩ rfl g_ zt
    have K:j<l.length:=by omega
    obtain⟨Q,L⟩:∃ M,l[j]? = some M:=⟨_,yaa_ K⟩;have U:Q∈l:=yad_ L;refine Zz 12 ?_;refine x_ aJ_ rfl λb_2=>n_ 0 L_ rfl rfl rfl rfl rfl rfl (Zz 5 ?_)
    refine S_ (uL_ Q) rfl g_ zt rfl λT hr_5=>Zz 1 ?_
    cases T
    .refine Zz 14 ?_
     exact my_
    refine Zz 4 ?_;generalize hzo:Ax.opn Q=zo
    refine ay_ rfl rfl (e_ (as_ rfl) rfl (Zz 3 ?_));cases zo
    .refine Zz 7 ?_
     exact ab_ oc_ ⟨71,.inr (.inr (.inr (.inl ⟨J,R,by omega,⟨Q,U,by unfold qz_;simp_all⟩,rfl⟩)))⟩ rfl g_ zt
    refine Zz 8 ?_;exact my_
   refine Zz 9 ?_;have R:lQ_ l:=lQ_.all hS zaa_;exact ab_ oc_ ⟨2,.inr (.inr (.inl ⟨J,R,by omega,rfl⟩))⟩ rfl g_ zt
  obtain⟨H,rfl⟩:∃ H,a1=H+1:=⟨a1 - 1,by omega⟩;obtain⟨O,A,E,d⟩:=zge (show H<l.length by omega);have V:(H+1:Nat)<l.length:=by omega
  obtain⟨I,m⟩:∃ M,l[(H+1:Nat)]? = some M:=⟨_,yaa_ V⟩;have G:I∈l:=yad_ m;refine Zz 9 ?_;refine D_ 2 [0,1,2,3,4,5,6,7,8,9,10] zk zs (Zz 3 ?_);refine M_ rfl (ao_ (aC_ rfl rfl rfl (bq_ zaa_ zaa_)) (show _=iv_ H from yae_ _ zaa_)) rfl (Zz 8 ?_);refine p_ 11 rfl zk (f_ (rB_ A I (P A d) (P I G) (by have:=(jQ_ (W A d)).1;omega) (by have:=(jQ_ (W A d)).2;omega) (by have:=(jQ_ (W I G)).1;omega) (by have:=(jQ_ (W I G)).2;omega)) rfl g_ (λv _ h=>by exact⟨(h.1.2 A d),(h.1.2 I G),trivial⟩) rfl λ_=>?_);refine Zz 3 ?_;refine D_ 0 [12] zk zs ?_;refine Zi 0 (λB=>?_) λB=>?_
  .refine Zz 8 ?_
   refine e_ (ao_ (aC_ rfl rfl rfl (bq_ zaa_ zaa_)) (show _=iv_ ((H+1+1:Nat):Int) from yae_ _ zaa_)) rfl (Zz 3 ?_);exact u_ ⟨H+1+1,zaa_,(lQ_.step hS E m (by simpa using B))⟩ zab_ zl d_ zh
  refine Zz 10 ?_;exact ab_ oc_ ⟨70,.inr (.inl ⟨J,λq=>B (q H A I E m),rfl⟩)⟩ rfl g_ zt
 obtain⟨O,A,E,d⟩:=zge (show i<l.length by omega);refine Zz 12 ?_;refine x_ aJ_ rfl λb_2=>n_ 0 L_ rfl rfl rfl rfl rfl rfl (Zz 5 ?_)
 refine f_ (nJ_ A (P A d)) rfl g_ (λv _ h=>by exact⟨(h.1.2 A d),h.2.1,trivial⟩) rfl λ⟨⟨I,M⟩,m⟩=>?_;dsimp only;try dsimp only at m
 refine Zz 3 ?_;refine x_ aJ_ rfl λb_3=>n_ 0 L_ rfl rfl rfl rfl rfl rfl (Zi 7 (λF=>?_) λF=>?_)
 .have C:M=0:=by simpa using F
  have S:Ax.check A=0:=kd_ (by have q:=m.1;dsimp only at q;rw[<-q,C]);have L:=jQ_ S;have Z:=sb_ (m.2 C).1 S;dsimp only at Z;refine Zz 8 ?_;refine e_ (C_ xO_ rfl rfl) rfl (Zz 1 ?_);refine S_ (BF_ A I (P A d) (m.2 C).2 zaa_ zaa_ zaa_ zaa_) rfl g_ (λv _ h=>by exact⟨(h.2.1.2 A d),h.1,trivial⟩) rfl λT B=>e_ (as_ rfl) rfl (Zz 2 ?_)
  cases T
  .refine Zz 7 ?_
   exact ab_ oc_ ⟨22,BCk.er hE E (tidE_b m C (bk_ne B m C)) zae_⟩ rfl g_ zt
  refine Zz 8 ?_;exact u_ ⟨i+1,O,(sc_ hE E (tidE_c m C ((Ax.cmp_zero _ _).1 (bk_eq B).2)))⟩ zab_ zl (c_ (c_ d_)) (λ_ _ h=>h.2)
 refine Zz 10 ?_;exact ab_ oc_ ⟨M,BCk.er hE E (tidE_a m zbg_) zbg_⟩ rfl g_ zt
theorem xl_ {l:List Ax} {S:List Str} (q:l.length<=12) (e:∀ x∈l,x.ok) (m:∀ x∈l,x.check=0) (h:nF_ S=true) (hS:S.length<=8):cs_ (bL_ 0 l++kk_ S)=0:=by
 have hl:=kX_ 0 l m;unfold cs_;rw[yag_ (by rw[yaf_,kk_,yaF_];omega),yao_];rw[yaW_];intro x d;rcases yah_.1 d with d|d
 .exact (kY_ l 0 zaa_ e m x d).2.2.2
 obtain⟨s,v,rfl⟩:=yap_.1 d;unfold nF_ at h;rw[yaq_,yaW_]at h;exact wG_ (h.2 s v)
def MpR (l:List Ax) (P:List Pc) (e:Int):Prop:=∃ e0,BCk l e0/\((e0≠0/\e=e0/\P=[])\/(e0=0/\e=(bg_ l).2/\P=(bg_ l).1))
def ExR (l:List Ax) (S:List Str) (X:List Ax) (e:Int):Prop:=∃ e0,BCk l e0/\((e0≠0/\e=e0/\X=[])\/(e0=0/\(bg_ l).2≠0/\e=(bg_ l).2/\X=[])\/(e0=0/\(bg_ l).2=0/\nF_ S=false/\e=1/\X=[])\/
    (e0=0/\(bg_ l).2=0/\nF_ S=true/\e=0/\X=Ct_ l (matN l (bg_ l).1 S l.length)))
theorem MpR.ok {l:List Ax} {P:List Pc} {e:Int} (h:MpR l P e) (d:e=0):BCk l 0/\(bg_ l).2=0/\P=(bg_ l).1:=by
 obtain⟨q,m,h|h⟩:=h
 .exact absurd (h.2.1.symm.trans d) h.1
 exact⟨h.1▸m,h.2.1.symm.trans d,h.2.2⟩
theorem ExR.ok {l:List Ax} {S:List Str} {P:List Pc} {e:Int} (h:MpR l P e) (d:e=0) (m:nF_ S=true):ExR l S (Ct_ l (matN l P S l.length)) 0:=by
  obtain⟨v,q,x⟩:=h.ok d;exact⟨0,v,.inr (.inr (.inr ⟨rfl,q,m,rfl,by rw[x]⟩))⟩
theorem pb_ {l:List Ax} (h:BCk l 0):axE l=0/\lQ_ l/\l.length<=1024/\(∀ x∈l,¬ qz_ x)/\RlR l 0:=by
 rcases h with⟨d,e⟩|⟨_,_,q⟩|⟨_,_,_,m⟩|⟨_,_,_,_,v⟩|h
 .exact absurd e.symm d
 .omega
 .omega
 .omega
 exact h
end Go.Proofs.YtbffkokbdeppaaaGreatDoor
namespace Go.Sx
open Go Go.Vs
theorem ox_ {α β:Type} (f:α->β):∀ (l:List α) (i:Nat),(l.eraseIdx i).map f=(l.map f).eraseIdx i
  | [],_=>rfl
  | _::_,0=>rfl
  | x::l,i+1=>by simp only[List.eraseIdx_cons_succ,yay_];rw[ox_ f l i]
structure StM where
  es:Array MapEntry
  c:Nat
  ks:List Str
  hE:SetE str es ks
  hB:Born es c
def StM.add (s:StM) (k:Str):StM:=if h:k∈s.ks then s else ⟨s.es.push ⟨str k,.bool true,s.c⟩,s.c+1,s.ks++[k],s.hE.push h s.c,s.hB.push _ _⟩
theorem StM.mem {s:StM} {k n:Str}:n∈(s.add k).ks↔n∈s.ks\/n=k:=by
 unfold StM.add
 split
 .rename_i h
  exact⟨.inl,λq=>q.elim id λe=>e▸h⟩
 simp
theorem StM.len {s:StM} {k:Str}:(s.add k).ks.length<=s.ks.length+1:=by
  unfold StM.add
  split<;>simp
section
variable {P:Program} {N:Nat} {v0:Vw} {H0:Hp} {R:Exit->Act->World->Prop} {Kk:List Kt} {fr:Fr} {H:Hp} {Γ:List Fct}
variable {ops:Array Oper} {lo:List Oper} {d:Nat} {ty:TypeId} {ps:String} {af:Array Edge}
theorem fa_ {t h G:TypeId} {x y:Operand} {b c i:Nat} {es:Array MapEntry} {e u:Value} (C:∀ w,(underlying t).run P w=.ok (.map h G) w) (F:Fr.ev fr x=some (.map (some b))) (A:Fr.ev fr y=some e) (n:Nat)
    (hi:H[n]? = some (b,.map es c)) (hk:hp_ P h e) (q:do_ P h e es.toList (some (i,u))):Yld P N fr H Γ (.lookup t x y true) ty (.tuple #[u,.bool true]) :=
  λa v m B I _ _ _=>by
    have E:=MapKept.run_getObj_map (P:=P) (B.own _ (yad_ hi)).1;simp[execOp,m.ev F,m.ev A,Instr.lookup,C,E,hk _ _,q _]
theorem tE_ {t h q:TypeId} {x y:Operand} {b c:Nat} {es:Array MapEntry} {e z:Value} (E:∀ w,(underlying t).run P w=.ok (.map h q) w) (I:∀ w,(zeroValue q).run P w=.ok z w) (G:Fr.ev fr x=some (.map (some b))) (B:Fr.ev fr y=some e) (n:Nat)
    (hi:H[n]? = some (b,.map es c)) (hk:hp_ P h e) (A:do_ P h e es.toList none):Yld P N fr H Γ (.lookup t x y true) ty (.tuple #[z,.bool false]) :=
  λa v m C J _ _ _=>by
    have F:=MapKept.run_getObj_map (P:=P) (C.own _ (yad_ hi)).1;simp[execOp,m.ev G,m.ev B,Instr.lookup,E,F,hk _ _,A _,I]
theorem hI_ {Fc:Fence} {K:Nat} {D:List Deferred} {o:Op} {t J X:TypeId} {x y z:Operand} {b:Nat} (W:Opn Fc) (n:Nat) (s:StM) {k:Str} (q:KeyT P J str) (F:o=.insert t x y z\/o=.mapUpdate t x y z) (S:∀ w,(underlying t).run P w=.ok (.map J X) w)
    (T:Fr.ev fr x=some (.map (some b))) (O:Fr.ev fr y=some (str k)) (L:Fr.ev fr z=some (.bool true)) (hi:H[n]? = some (b,.map s.es s.c))
    (E:fJ_ Fc K P R N D v0 H0 ops lo Kk fr (H.set n (b,.map (s.add k).es (s.add k).c)) Γ):fJ_ Fc K P R N D v0 H0 ops (⟨none,o,ty,ps,af,none⟩::lo) Kk fr H Γ :=
  dZ_ (by rfl) λa v h B h3 V=>by
    refine⟨λf _=>W.fn f,?_⟩;rw[semAt_eq (by rcases F with rfl|rfl<;>rfl)];have C:=(B.own _ (yad_ hi)).1;have I:=MapKept.run_getObj_map (P:=P) C;have A:=MapKept.run_setObj_map (P:=P) (.map (s.add k).es (s.add k).c) C
    have he:(execOp (Act.eval ⟨a.tmps,[]⟩) ⟨none,o,ty,ps,af,none⟩).run P v.w=.ok .skip { v.w with heap:=v.w.heap.setIfInBounds b (.map (s.add k).es (s.add k).c) }:=by
      by_cases hk:k∈s.ks
      . have G:s.add k=s:=by unfold StM.add;rw[dif_pos hk]
        rw[G]at A ⊢;obtain⟨i,e,M,m,U,Y,g5⟩:=s.hE.yes q hk;have Z:=iP_ m U Y;rcases F with rfl|rfl<;>simp[execOp,h.sat.ev T,h.sat.ev O,h.sat.ev L,Instr.mapUpdate,S,I,q.ok _ _ _,g5 _,A,Instr.keyThatStays,m,U,q.same,Z]
      . have G:s.add k=⟨s.es.push ⟨str k,.bool true,s.c⟩,s.c+1,s.ks++[k],s.hE.push hk s.c,s.hB.push _ _⟩:=by unfold StM.add;rw[dif_neg hk]
        rw[G]at A ⊢;dsimp only at A ⊢;have hf:=s.hE.no q hk;rcases F with rfl|rfl<;>simp[execOp,h.sat.ev T,h.sat.ev O,h.sat.ev L,Instr.mapUpdate,S,I,q.ok _ _ _,hf _,A]
    rw[show a.eval=Act.eval ⟨a.tmps,[]⟩ from rfl,he];have Q:=MapKept.heap_set (o':=.map (s.add k).es (s.add k).c) C;obtain⟨M,m⟩:=eM_ (w':={ v.w with heap:=v.w.heap.setIfInBounds b (.map (s.add k).es (s.add k).c) }) B hi rfl rfl rfl (yaj_ _) zaj_ Q.1 (λk hk=>Q.2 k hk);exact E _ _ h M (h3.trans m) (av_ (m.le B) V)
theorem sC_ {N:Nf} {t I et:TypeId} {x y:Operand} {b:Nat} {C:Option Nat} (n:Nat) {es:Array MapEntry} {c:Nat} {ks:List Str} {k:Str} (J:KeyT P I str) (hu:∀ w,(underlying t).run P w=.ok (.map I et) w)
    (B:Fr.ev fr x=some (.map (some b))) (Y:Fr.ev fr y=some (str k)) (hi:H[n]? = some (b,.map es c)) (hE:SetE str es ks) (hB:Born es c) (hd:C=none)
    (Q:∀ h,SetE str h (ks.filter λq=>decide (q≠k))->Born h c->Ops P R N v0 H0 ops lo Kk fr (H.set n (b,.map h c)) Γ):Ops P R N v0 H0 ops (⟨C,.call ⟨.builtin .delete,#[x,y],#[t,I]⟩,ty,ps,af,none⟩::lo) Kk fr H Γ :=
  cy_ rfl λa v E M h3 h4=>by
    subst hd;have F:=(M.own _ (yad_ hi)).1;have X:=MapKept.run_getObj_map (P:=P) F
    obtain⟨h,L,O,T⟩:∃ h,(execOp a.eval ⟨none,.call ⟨.builtin .delete,#[x,y],#[t,I]⟩,ty,ps,af,none⟩).run P v.w=.ok (.value (.tuple #[])) { v.w with heap:=v.w.heap.setIfInBounds b (.map h c) }/\SetE str h (ks.filter λq=>decide (q≠k))/\Born h c:=by
      by_cases hk:k∈ks
      . obtain⟨i,e,K,G,g3,g4,g5⟩:=hE.yes J hk
        have W:i<es.size:=by
          have:=(yax_.1 G).1;exact this
        have m:(es.eraseIdxIfInBounds i).toList=es.toList.eraseIdx i:=by
          unfold Array.eraseIdxIfInBounds;rw[dif_pos W];simp
        have V:=MapKept.run_setObj_map (P:=P) (.map (es.eraseIdxIfInBounds i) c) F
        have A:ks.eraseIdx i=ks.filter λq=>decide (q≠k):=by
          have h9:ks.erase k=ks.filter (λq=>q != k):=hE.nd.erase_eq_filter k
          have h8:ks.erase k=ks.eraseIdx i:=by
            have U:=(yac_.1 K).1;rw[List.erase_eq_eraseIdx_of_idxOf (i:=i)];have e1:=(yac_.1 K).2;rw[<-e1];exact hE.nd.idxOf_getElem i U
          rw[<-h8,h9]
          congr 1
          funext q
          by_cases S:q=k<;>simp[S]
        refine⟨es.eraseIdxIfInBounds i,?_,⟨?_,λx B=>?_,?_⟩,⟨λx B=>?_,?_⟩⟩
        . simp[execOp,resolve,invoke,builtin,E.ev B,E.ev Y,Builtin.delete_,hu,X,J.ok _ _ _,g5 _,V,Result.andThen]
        . rw[m,<-A,ox_,ox_,hE.keys]
        . rw[m]at B;exact hE.vals x ((ydj_ _ _).subset B)
        . exact hE.nd.filter _
        . rw[m]at B;exact hB.lt x ((ydj_ _ _).subset B)
        . rw[m];exact hB.nd.sublist ((ydj_ _ _).map _)
      . have V:=MapKept.run_setObj_map (P:=P) (.map es c) F
        have hf:=hE.no J hk
        have A:(ks.filter λq=>decide (q≠k))=ks:=List.filter_eq_self.2 λq S=>by
          have:q≠k:=λe=>hk (e▸S)
          simpa using this
        refine⟨es,?_,by rw[A];exact hE,hB⟩;simp[execOp,resolve,invoke,builtin,E.ev B,E.ev Y,Builtin.delete_,hu,X,J.ok _ _ _,hf _,V,Result.andThen]
    unfold Oper.wp;rw[L];have Z:=MapKept.heap_set (o':=.map h c) F;obtain⟨K,G⟩:=eM_ (w':={ v.w with heap:=v.w.heap.setIfInBounds b (.map h c) }) M hi rfl rfl rfl (yaj_ _) zaj_ Z.1 (λk hk=>Z.2 k hk);exact Q h O T a _ E K (h3.trans G) (av_ (G.le M) h4)
end
end Go.Sx
namespace Go.Vs
open Go Go.Sx
def Con.nds:Con->List Con
  | .mk k nm lo hi ad cap ps=>.mk k nm lo hi ad cap ps::ndsL ps
where ndsL:List Con->List Con
  | []=>[]
  | p::ps=>nds p++ndsL ps
theorem vs_:∀ ps:List Con,Con.nds.ndsL ps=ps.flatMap Con.nds
  | []=>rfl
  | p::ps=>by rw[Con.nds.ndsL,vs_ ps,yaG_]
theorem Con.nds_eq (c:Con):c.nds=c::c.parts.flatMap Con.nds:=by cases c;rw[Con.nds,vs_];rfl
theorem vr_:∀ (n:Nat) (c:Con),c.sz<=n->c.nds.length<=c.sz
  | 0,c,h=>by have:=c.sz_pos;omega
  | n+1,c,h=>by
    have e:∀ ps:List Con,(∀ p∈ps,p.nds.length<=p.sz)->(ps.flatMap Con.nds).length<=Con.sz.szs ps:=by
      intro ps
      induction ps with
      | nil=>intro _;simp[Con.sz.szs]
      | cons p ps ih =>
        intro d;rw[yaG_,yaf_,Con.sz.szs];have x:=d p zaj_;have v:=ih λq m=>d q (by simp[m])
        omega
    rw[Con.nds_eq,yal_,Con.sz_eq];have:=e c.parts λp d=>vr_ n p zbt_
    omega
def Con.nms (k:Int) (c:Con):List Str:=(c.nds.filter λx=>decide (x.kind=k)).map Con.name
theorem Con.nms_eq (k:Int) (c:Con):c.nms k=(if c.kind=k then [c.name] else [])++c.parts.flatMap (Con.nms k):=by
 unfold Con.nms;rw[Con.nds_eq,ycO_]
 have d:∀ ps:List Con,((ps.flatMap Con.nds).filter λx=>decide (x.kind=k)).map Con.name=ps.flatMap λc=>(c.nds.filter λx=>decide (x.kind=k)).map Con.name:=by
   intro ps
   induction ps with
   | nil=>rfl
   | cons p ps ih=>rw[yaG_,ycb_,yat_,ih,yaG_]
 by_cases h:c.kind=k
 .rw[yao_ zaH_,yao_ h,yay_,d];rfl
 rw[yag_ zaH_,yag_ h,d];rfl
theorem Con.nms_len (k:Int) (c:Con):(c.nms k).length<=c.sz:=by
  unfold Con.nms;rw[yaF_];exact ybg_ (yba_ _ _) (vr_ _ c (yaj_ _))
theorem pX_:∀ (n:Nat) (c:Con),c.sz<=n->c.check=0->∀ x∈c.nds,x.check=0
 | 0,c,h,_=>by have:=c.sz_pos;omega
 | n+1,c,h,hc=>by
   intro x d;rw[Con.nds_eq,yan_,yas_]at d;rcases d with rfl|⟨p,e,d⟩
   . exact hc
   . exact pX_ n p (by have:=Con.sz_part e;omega) (Con.check_part hc e) x d
structure W2I (l:List Str) (s:Str) (i:Nat) (R:List Str) (dn:Bool):Prop where
  no:dn=false->R=l.take i/\∀ x∈l.take i,x<s
  yes:dn=true->R++l.drop i=xD_ l s
theorem tk1 {α:Type} {l:List α} {i:Nat} {x:α} (h:l[i]? = some x):l.take (i+1)=l.take i++[x]:=by rw[yaz_,h];rfl
theorem vD_ {α:Type} {l:List α} {i:Nat} {x:α} (h:l[i]? = some x):l.drop i=x::l.drop (i+1):=by
  obtain⟨hi,rfl⟩:=yac_.1 h;exact ybi_ hi
theorem W2I.t {l:List Str} {s x:Str} {i:Nat} {R:List Str} (h:W2I l s i R true) (d:l[i]? = some x):W2I l s (i+1) (R++[x]) true :=
  ⟨λq=>zbS_,λ_=>by have:=h.yes rfl;rw[vD_ d]at this;rw[yar_];exact this⟩
theorem W2I.lt {l:List Str} {s x:Str} {i:Nat} {R:List Str} (h:W2I l s i R false) (hl:SrS l) (C:s≠[]) (d:l[i]? = some x) (e:s<x):W2I l s (i+1) ((R++[s])++[x]) true:=by
 obtain⟨F,A⟩:=h.no rfl;refine⟨λq=>zbS_,λ_=>?_⟩;have hi:=(yac_.1 d).1
 have hk:kS l s=i:=Cv_ zaa_ A λz B=>by
   rw[d,yak_]at B;subst B;exact λq=>ybM_ _ (ybU_ q e)
 have E:s ∉ l:=λy=>by
   have v:s∈l.take i\/s∈l.drop i:=by rw[<-yah_,ybK_];exact y
   rcases v with q|q
   . exact ybM_ _ (A s q)
   . rw[vD_ d]at q
     rcases yan_.1 q with rfl|q
     . exact ybM_ _ e
     . have m:SrS (l.drop i):=hl.sublist (List.drop_sublist _ _)
       rw[vD_ d]at m;exact ybM_ _ (ybU_ ((ybj_.1 m).1 s q) e)
 rw[vX_ C E,hk,F,vD_ d];simp
theorem tb_ {σ τ:Type} (f:Con->σ->σ):∀ (n:Nat) (c:Con),c.sz<=n->∀ s:σ,Con.fold (λx s=>(.inl (f x s):σ ⊕ τ)) c s=.inl (c.nds.foldl (λs x=>f x s) s)
  | 0,c,h=>by have:=c.sz_pos;omega
  | n+1,c,h=>λs=>by
    rw[Con.fold_eq,Con.nds_eq,yck_];dsimp only
    have e:∀ (ps:List Con),(∀ p∈ps,p.sz<=n)->∀ s:σ,Con.fold.folds (λx s=>(.inl (f x s):σ ⊕ τ)) ps s=.inl ((ps.flatMap Con.nds).foldl (λs x=>f x s) s):=by
      intro ps
      induction ps with
      | nil=>intro _ s;rfl
      | cons p ps ih =>
        intro d s;rw[Con.fold.folds,tb_ f n p (d p zaj_) s];dsimp only;rw[ih (λq m=>d q (by simp[m])),yaG_,yde_]
    exact e c.parts (λp d=>by have:=Con.sz_part d;omega) _
end Go.Vs
namespace Go.Sx
open Go
section
variable {P:Program} {v0:Vw} {H0:Hp} {R:Exit->Act->World->Prop} {K:List Kt} {fr:Fr} {H:Hp} {Γ:List Fct}
def mks (Ds:List Nat):List Deferred:=Ds.map λD=>{ target:=.collected D,args:=#[] }
def mkH (Ds:List Nat):Hp:=Ds.map λD=>(D,.deferred (some []))
def Ae_ {ι:Type} (N:ι->Nf) (v0:Vw) (H0:Hp) (frs:ι->Fr) (Hs:ι->Hp) (Γs:ι->List Fct) (μ:ι->Nat) (n:Nat) (a:Act) (w:World):Prop :=
  ∃ j v,v.w=w/\Fr.sat (N j) (frs j) a/\v.sat (Hs j)/\v0.to H0 v (Hs j)/\af_ (Γs j) v/\μ j<n
theorem ls_ {ι:Type} {c:Code} {B:Nf} (N:ι->Nf) (d:ι->Fr) (Hs:ι->Hp) (x:ι->List Fct) (μ:ι->Nat) (q:ι) {F:Hp} (A:Fr.le (d q) fr) (S:H.Perm (Hs q++F)) (Q:∀ v,v.sat H->af_ Γ v->af_ (x q) v)
    (h:∀ i,Run P R (N i) v0 H0 c (.inv (Ae_ N v0 H0 d Hs x μ (μ i))::K) (d i) (Hs i) (x i)) (W:B=N q:=by rfl):Run P R B v0 H0 (.loop c) K fr H Γ:=by
  subst W;refine bx_ _ A (du_ S Q ?_);intro a v L E T J;refine wp_loop_ghost (λn a w=>∃ i v,v.w=w/\Fr.sat (N i) (d i) a/\v.sat (Hs i)/\v0.to H0 v (Hs i)/\af_ (x i) v/\μ i=n) (μ q) ⟨q,v,rfl,L,E,T,J,rfl⟩ ?_;rintro n a w ⟨i,v,rfl,O,G,X,M,rfl⟩;refine wp_mono (h i a v O G X M) λe a' w' m=>?_;cases e with
  | normal =>
    obtain⟨j,C,U,k1,k2,I,V,y⟩:=m;exact⟨μ j,y,j,C,U,k1,k2,I,V,rfl⟩
  | exit id=>exact m
  | goto l=>exact m
  | ret=>exact m
  | panic ch=>exact m
  | outgrown=>exact m
theorem jn_ {ι:Type} {m:Nf} {N:ι->Nf} {d:ι->Fr} {Hs:ι->Hp} {h:ι->List Fct} {μ:ι->Nat} {n:Nat} (j:ι) {F:Hp} (q:μ j<n) (e:Fr.le (d j) fr) (A:H.Perm (Hs j++F))
    (x:∀ v,v.sat H->af_ Γ v->af_ (h j) v) (G:m=N j:=by rfl):Ok m v0 H0 (Ae_ N v0 H0 d Hs h μ n) fr H Γ:=by
  subst G;exact bx_ (d j) e (du_ A x λ_ v E y B C=>⟨j,v,rfl,E,y,B,C,q⟩)
variable {N:Nat} {Ds:List Nat}
theorem retMs {fn:Func} {ι:Type} {G:Hp} {ret:ι->Value} {H':ι->Hp} {Γ':ι->List Fct} (x:ι) (T:∀ (a:Act) (v:Vw),Fr.sat (⟨N,mks Ds⟩:Nf) fr a->v.sat G->af_ Γ v->(results fn a.tmps).run P v.w=.ok (ret x) v.w) (I:H.Perm (mkH Ds++G))
    (U:∃ A,G.Perm (H' x++A)) (O:∀ v,v.sat G->af_ Γ v->af_ (Γ' x) v):Ok ⟨N,mks Ds⟩ v0 H0 (bodyPostM Fence.wide 0 P fn (ln_ v0 H0 ret H' Γ') .ret) fr H Γ:=by
  intro a v F J Q L;show LeavesInM Fence.wide 0 P fn a.tmps _ a.defers .returning v.w
  rw[F.defers];obtain⟨A,m⟩:=U
  have C:∀ (e:List Nat) (d:Vw),d.sat (mkH e++G)->v0.to H0 d (mkH e++G)->af_ Γ d->LeavesInM Fence.wide 0 P fn a.tmps (ln_ v0 H0 ret H' Γ') (mks e) .returning d.w:=by
    intro e
    induction e with
    | nil =>
      intro d k1 k2 y
      exact⟨ret x,T a d F k1 y,x,d,rfl,rfl,(Vw.sat.perm k1 m).sub,O d k1 y,k2.subR λb h=>by
        have:b∈(H' x++A).map Prod.fst:=by rw[yat_];exact yam_ _ h
        exact (m.map Prod.fst).mem_iff.2 this⟩
    | cons D e ih =>
      intro d k1 k2 y;have hl:=(k1.own (D,.deferred (some [])) yav_).1;have q:d.sat ((D,.deferred (some []))::(mkH e++G)):=k1;obtain⟨B,E⟩:=eN_ (o':=.deferred none) q;have S:(⟨d.im,d.w.putObj D (.deferred none),d.sl⟩:Vw).sat (mkH e++G):=⟨λp M=>B.own p (yaE_ _ M),by have:=B.nodup;rw[yay_,ybG_]at this;exact this.2,B.lt⟩;exact⟨by simp,.inl ⟨D,_,rfl,run_takeDeferred hl,ih ⟨d.im,_,d.sl⟩ S ((k2.trans E).subR λb h=>yaE_ _ h) (av_ (E.le q) y)⟩⟩
  exact C Ds v (J.perm I) (Q.subR λb h=>(I.map Prod.fst).mem_iff.2 h) L
theorem tU_ {σ α:Type} {g:Operand} {T:Nat} {assign body:Code} {L:FuncId} {caps:List Value} {Hj:σ->Hp} {Hc:Hp} {Γx:α->List Fct} {Γi:List Fct} {xv:α->Value} {good:α->Prop} {stp:α->σ->σ ⊕ Empty}
    (V:σ) (res:σ ⊕ Empty) (hg:Fr.ev fr g=some (.func (.func L) #[] caps.toArray)) (hH:H.Perm (Hc++Hj V)) (S:∀ v,v.sat H->af_ Γ v->af_ Γi v)
    (A:∀ l D (d:Loop),d.params=#[T]->d.state=.ready->d.pending=none->Fr.sat N fr ⟨d.tmps,[]⟩->d.assign=assign->d.body=body->∀ s x,good x->
      jJ_ P l (xv x) (Hj s++HLp l D d) (Γx x) (λ_:Unit=>.bool (stp x s).isLeft) (λ_=>oK_ (λs'=>Hj s'++HLp l D d) (λ_=>HLp l D { d with state:=.done,pending:=some .ret }) (stp x s)) (λ_=>[]))
    (U:∀ l (Gj:σ->Hp) (Gx:Empty->Hp),(∀ s x,good x->jJ_ P l (xv x) (Gj s) (Γx x) (λ_:Unit=>.bool (stp x s).isLeft) (λ_=>oK_ Gj Gx (stp x s)) (λ_=>[]))->
      Tri P L (.func (.yield l) #[] #[]::caps).toArray (Hc++Gj V) Γi (λ_:Unit=>.tuple #[]) (λ_=>Hc++oK_ Gj Gx res) (λ_=>[]))
    (C:∀ s',res=.inl s'->∀ D l r,Fin P R ⟨N,mks (D::Ds)⟩ v0 H0 K fr (Hc++Hj s'++HLp l D r) Γ) :
    Run P R ⟨N,mks Ds⟩ v0 H0 (.rangeFunc g #[T] assign body) K fr H Γ:=by
  intro a v E J h3 h4;refine wpIn_wide (n:=0) |>.1 (wpIn_mono (Q:=eg_ Fence.wide 0 P R K) (wpIn_rangeFunc λfn _=>?_) λe a w hq=>bt_ K e a w hq)
  obtain⟨a1,a2⟩:=fO_ (w':=v.w.alloc (.deferred (some []))) (o:=.deferred (some [])) J rfl rfl rfl rfl (yaj_ _);obtain⟨d,m⟩:∃ d:Loop,d={ state:=.ready,pending:=none,fn,tmps:=a.tmps,params:=#[T],assign,body,defers:=v.w.heap.size }:=⟨_,rfl⟩;obtain⟨b1,b2⟩:=fO_ (w':=(v.w.alloc (.deferred (some []))).alloc (.loop d)) (o:=.loop d) a1 rfl rfl rfl rfl (yaj_ _);have F:(v.w.alloc (Obj.deferred (some []))).heap.size=v.w.heap.size+1:=by simp
  have a0:(⟨v.im,(v.w.alloc (.deferred (some []))).alloc (.loop d),v.sl⟩:Vw).sat ((v.w.heap.size+1,.loop d)::(v.w.heap.size,.deferred (some []))::H):=F▸b1;have G:v.to H ⟨v.im,(v.w.alloc (.deferred (some []))).alloc (.loop d),v.sl⟩ ((v.w.heap.size+1,.loop d)::(v.w.heap.size,.deferred (some []))::H):=a2.trans (F▸b2)
  have y:((v.w.heap.size+1,Obj.loop d)::(v.w.heap.size,.deferred (some []))::H).Perm (Hc++(Hj V++HLp (v.w.heap.size+1) v.w.heap.size d)):=by
    rw[<-yar_];exact (yaB_ (l₁:=HLp (v.w.heap.size+1) v.w.heap.size d) (l₂:=H)).trans (hH.append_right _)
  have hT:=U (v.w.heap.size+1) (λs=>Hj s++HLp (v.w.heap.size+1) v.w.heap.size d) (λ_=>HLp (v.w.heap.size+1) v.w.heap.size { d with state:=.done,pending:=some .ret })
    (A _ _ d zbV_ zbV_ zbV_ (by rw[m];exact⟨E.size,rfl,E.val⟩) zbV_ zbV_)
  have M:=av_ (G.le J) (S v J h4);have he:=E.ev hg;refine⟨v.w.heap.size+1,pn_ v.w.heap.size,(v.w.alloc (.deferred (some []))).alloc (.loop d),⟨.fn (.func L) caps.toArray,#[.func (.yield (v.w.heap.size+1)) #[] #[]]⟩,(v.w.alloc (.deferred (some []))).alloc (.loop d),L,(.func (.yield (v.w.heap.size+1)) #[] #[]::caps).toArray,_,?_,?_,λ_ _=>trivial,?_,λh=>(by cases h),callsIn_wide.2 ((hT.run ⟨v.im,_,v.sl⟩ (a0.perm y) M).mono ?_)⟩
  . rw[m];exact run_enterLoop_outer _ _ _ _ _
  . simp only[resolve,rangeCall,ybt_,yay_,ybz_,he,Deferred.ofValue]
    rfl
  . have:=hT.callable (.func (.yield (v.w.heap.size+1)) #[] #[]::caps).toArray ((v.w.alloc (.deferred (some []))).alloc (.loop d))
    simpa [invoke] using this
  . rintro e w' ⟨_,v',rfl,rfl,g1,g2,g3⟩
    have I:=G.trans (g3.permL y.symm);have O:=av_ (I.le J) h4;have W:∀ D,Fr.sat ⟨N,mks (D::Ds)⟩ fr { a with defers:=pn_ D++a.defers }:=λD=>⟨E.size,by show pn_ D++a.defers=_;rw[E.defers];rfl,E.val⟩
    have B:∀ (X Y:Hp) r,(Y++(X++HLp (v.w.heap.size+1) v.w.heap.size r)).Perm ((v.w.heap.size+1,.loop r)::(Y++X++[(v.w.heap.size,.deferred (some []))])):=λX Y r=>by
      unfold HLp;rw[<-yar_];exact ybN_
    cases res with
    | inl s' =>
      have q:=g1.perm (B (Hj s') Hc d);have hl:=(q.own _ yav_).1;obtain⟨z1,z2⟩:=eN_ (o':=.loop { d with state:=.exhausted }) q
      have zp:((v.w.heap.size+1,Obj.loop { d with state:=.exhausted })::(Hc++Hj s'++[(v.w.heap.size,.deferred (some []))])).Perm (Hc++Hj s'++HLp (v.w.heap.size+1) v.w.heap.size { d with state:=.exhausted }):=by
        have:=(B (Hj s') Hc { d with state:=.exhausted }).symm;rw[<-yar_]at this;exact this
      refine⟨d.pending,_,run_endLoop hl (by rw[m];simp),?_⟩;have Z:d.pending=none:=by rw[m]
      split
      case h_2=>rename_i c hc;rw[Z]at hc;cases hc
      exact ca_ K .normal _ _ (C s' rfl _ _ _ _ ⟨v'.im,_,v'.sl⟩ (W _) (z1.perm zp) (h3.trans (I.trans ((z2.permL (B _ _ _).symm).subR λb hb=>(zp.map Prod.fst).mem_iff.2 hb))) (av_ (z2.le q) O))
    | inr t=>exact nomatch t
end
end Go.Sx
namespace Go.Vs
open Go Go.Sx
def Ax.vc (k:Int) (x:Ax):List Str:=x.left.nms k++x.right.nms k++(if k=6 then x.roles++[x.role] else [])++(if k=4 then [x.a,x.b] else [])
def vcL (k:Int) (l:List Ax):List Str:=l.flatMap (Ax.vc k)
theorem xE_ {k:Int} {l:List Ax} {i:Nat} {x:Ax} (h:l[i]? = some x):vcL k (l.take (i+1))=vcL k (l.take i)++x.vc k:=by
  unfold vcL;rw[yaz_,h,yaY_];simp
def StM.nil:StM:=⟨#[],0,[],SetE.nil,Born.nil 0⟩
structure VI (s:StM) (D:List Str):Prop where
  mem:∀ n,n∈s.ks↔n∈D
  len:s.ks.length<=D.length
theorem VI.add {s:StM} {D:List Str} (h:VI s D) (k:Str):VI (s.add k) (D++[k]) :=
  ⟨λn=>by rw[StM.mem,h.mem];simp,by have:=StM.len (s:=s) (k:=k);have:=h.len;rw[yaf_];simp;omega⟩
theorem VI.cg {s:StM} {D E:List Str} (h:VI s D) (e:D=E):VI s E:=e▸h
abbrev S4:=StM×StM×StM×StM
def em_ (x:Con) (s:S4):S4:=if x.kind=3 then (s.1.add x.name,s.2) else if x.kind=6 then (s.1,s.2.1.add x.name,s.2.2) else if x.kind=7 then (s.1,s.2.1,s.2.2.1.add x.name,s.2.2.2) else if x.kind=4 then (s.1,s.2.1,s.2.2.1,s.2.2.2.add x.name) else s
structure V4 (s:S4) (D:Int->List Str):Prop where
  c:VI s.1 (D 3)
  r:VI s.2.1 (D 6)
  f:VI s.2.2.1 (D 7)
  i:VI s.2.2.2 (D 4)
theorem V4.nil:V4 (StM.nil,StM.nil,StM.nil,StM.nil) (λ_=>[]):=⟨⟨λn=>by simp[StM.nil],by simp[StM.nil]⟩,⟨λn=>by simp[StM.nil],by simp[StM.nil]⟩,⟨λn=>by simp[StM.nil],by simp[StM.nil]⟩,⟨λn=>by simp[StM.nil],by simp[StM.nil]⟩⟩
theorem V4.cg {s:S4} {D E:Int->List Str} (h:V4 s D) (e:∀ k,D k=E k):V4 s E:=⟨h.c.cg (e 3),h.r.cg (e 6),h.f.cg (e 7),h.i.cg (e 4)⟩
theorem V4.put {s:S4} {D:Int->List Str} (h:V4 s D) (x:Con):V4 (em_ x s) (λk=>D k++if x.kind=k then [x.name] else []):=by
 unfold em_
 split
 .rename_i q;exact⟨(h.c.add _).cg (by rw[yao_ q]),h.r.cg (by rw[yag_ zaa_];simp),h.f.cg (by rw[yag_ zaa_];simp),h.i.cg (by rw[yag_ zaa_];simp)⟩
 split
 .rename_i q;exact⟨h.c.cg (by rw[yag_ zaa_];simp),(h.r.add _).cg (by rw[yao_ q]),h.f.cg (by rw[yag_ zaa_];simp),h.i.cg (by rw[yag_ zaa_];simp)⟩
 split
 .rename_i q;exact⟨h.c.cg (by rw[yag_ zaa_];simp),h.r.cg (by rw[yag_ zaa_];simp),(h.f.add _).cg (by rw[yao_ q]),h.i.cg (by rw[yag_ zaa_];simp)⟩
 split
 .rename_i q;exact⟨h.c.cg (by rw[yag_ zaa_];simp),h.r.cg (by rw[yag_ zaa_];simp),h.f.cg (by rw[yag_ zaa_];simp),(h.i.add _).cg (by rw[yao_ q])⟩
 rename_i e v m d;exact⟨h.c.cg (by rw[yag_ e];simp),h.r.cg (by rw[yag_ v];simp),h.f.cg (by rw[yag_ m];simp),h.i.cg (by rw[yag_ d];simp)⟩
theorem V4.fold:∀ (L:List Con) {s:S4} {D:Int->List Str},V4 s D->V4 (L.foldl (λs x=>em_ x s) s) (λk=>D k++(L.filter λx=>decide (x.kind=k)).map Con.name)
  | [],s,D,h=>h.cg λk=>by simp
  | x::L,s,D,h=>(V4.fold L (h.put x)).cg λk=>by
    rw[ycO_,yar_]
    by_cases q:x.kind=k<;>simp[q]
theorem V4.side {s:S4} {D:Int->List Str} {C:List Con} {j:Nat} {c:Con} (h:V4 s λk=>D k++(C.take j).flatMap (Con.nms k)) (d:C[j]? = some c):V4 (c.nds.foldl (λs x=>em_ x s) s) (λk=>D k++(C.take (j+1)).flatMap (Con.nms k)) :=
  (V4.fold c.nds h).cg λk=>by
    rw[tk1 d,yaY_,yar_];simp[Con.nms]
def S4.addR (s:S4) (n:Str):S4:=(s.1,s.2.1.add n,s.2.2)
def S4.addI (s:S4) (n:Str):S4:=(s.1,s.2.1,s.2.2.1,s.2.2.2.add n)
theorem V4.addR {s:S4} {D:Int->List Str} (h:V4 s D) (n:Str):V4 (s.addR n) (λk=>D k++if k=6 then [n] else []) :=
  ⟨h.c.cg zaj_,(h.r.add n).cg zaj_,h.f.cg zaj_,h.i.cg zaj_⟩
theorem V4.addI {s:S4} {D:Int->List Str} (h:V4 s D) (n:Str):V4 (s.addI n) (λk=>D k++if k=4 then [n] else []) :=
  ⟨h.c.cg zaj_,h.r.cg zaj_,h.f.cg zaj_,(h.i.add n).cg zaj_⟩
theorem V4.role {s:S4} {D:Int->List Str} {L:List Str} {j:Nat} {n:Str} (h:V4 s λk=>D k++if k=6 then L.take j else []) (d:L[j]? = some n):V4 (s.addR n) (λk=>D k++if k=6 then L.take (j+1) else []) :=
  (h.addR n).cg λk=>by by_cases q:k=6<;>simp[q,tk1 d]
theorem V4.axm {s:S4} {l:List Ax} {i:Nat} {x:Ax} (h:V4 s λk=>(vcL k (l.take i)++[x.left,x.right].flatMap (Con.nms k))++if k=6 then x.roles else []) (e:l[i]? = some x):V4 (((s.addR x.role).addI x.a).addI x.b) (λk=>vcL k (l.take (i+1))) :=
 (((h.addR x.role).addI x.a).addI x.b).cg λk=>by
   rw[xE_ e];unfold Ax.vc
   by_cases q:k=6
   . subst q;simp
   . by_cases d:k=4
     . subst d;simp
     . simp[q,d]
theorem vc_len {x:Ax} {k:Int} (d:x.left.sz<=1000000) (h:x.right.sz<=1000000) (e:x.roles.length<=1000000):(x.vc k).length<=4000000:=by
  unfold Ax.vc;have:=Con.nms_len k x.left;have:=Con.nms_len k x.right;rw[yaf_,yaf_,yaf_]
  split<;>split<;>simp<;>omega
theorem uZ_ {k:Int}:∀ {l:List Ax},(∀ x∈l,x.left.sz<=1000000/\x.right.sz<=1000000/\x.roles.length<=1000000)->(vcL k l).length<=4000000*l.length
  | [],_=>by simp[vcL]
  | x::l,h=>by
    have e:=uZ_ (k:=k) (l:=l) λy d=>h y zaS_
    obtain⟨a,b,c⟩:=h x zaj_;have m:=vc_len (k:=k) a b c;unfold vcL at e ⊢;rw[yaG_,yaf_,yal_];omega
theorem gX_ {l:List Str} (hl:l.Nodup):SrS (bb_ l):=by
 have e:=gf_ l;have d:(bb_ l).Nodup:=(ycE_ _ _).nodup_iff.2 hl;unfold List.Nodup at d;refine ydc_ (fun {a b} hab=>?_) (e.and d)
 by_cases g:a<b
 .exact g
 exact absurd (ycw_ hab.1 (ycc_.1 g)) hab.2
def lP_ (k:Int) (l:List Ax) (Y:List Str):Prop:=SrS Y/\∀ n,n∈Y↔n∈vcL k l/\(k=6\/k=4->n≠[])
theorem lP_.of {k:Int} {l:List Ax} {s:StM} (h:VI s (vcL k l)) (hk:k≠6/\k≠4):lP_ k l (bb_ s.ks) :=
  ⟨gX_ s.hE.nd,λn=>by rw[ybc_,h.mem];exact⟨λq=>⟨q,λr=>by rcases r with r|r;exact absurd r hk.1;exact absurd r hk.2⟩,λq=>q.1⟩⟩
theorem lP_.ofD {k:Int} {l:List Ax} {s:StM} (h:VI s (vcL k l)) (hk:k=6\/k=4):lP_ k l (bb_ (s.ks.filter λq=>decide (q≠[]))) :=
  ⟨gX_ (s.hE.nd.filter _),λn=>by rw[ybc_,yaX_,h.mem];exact⟨λq=>⟨q.1,λ_=>by simpa using q.2⟩,λq=>⟨q.1,by simpa using q.2 hk⟩⟩⟩
end Go.Vs
