/-
  Lemmas for the law TopChanges (no condition).
-/
import Derived.Test.YtfjcabalehamcaaGreatDoorQTopChanges7
import Derived.Scope
import Derived.Lib.Join
import Derived.Lib.AppendZeros
import Derived.Maps.RangeRun
import Derived.WalkSpells
set_option linter.unusedVariables false
set_option linter.unusedSimpArgs false
set_option linter.unusedSectionVars false
set_option maxHeartbeats 1000000
namespace Go.Vs
open Go Go.Sx
structure Stp where
  rule:Int
  fact:Fc
  piece:Int
  ad:Ao
  cap:Nat
  frm:List Int
def Stp.cells (s:Stp):List Value:=[.int .i64 s.rule,.int .i64 s.fact.kind,str s.fact.a,str s.fact.b,str s.fact.r,.int .i64 s.fact.lo,.int .i64 s.fact.hi,.int .i64 s.piece,.slice s.ad s.frm.length s.cap]
theorem Stp.cells_len (s:Stp):s.cells.length=9:=rfl
def Stp.val (s:Stp):Value:=.agg s.cells.toArray
theorem Stp.fact_cells (s:Stp) (j:Nat) (y:Value) (h:(Fc.cells s.fact)[j]? = some y):s.cells[1+j]? = some y:=by
  match j,h with
  | 0,h=>exact h
  | 1,h=>exact h
  | 2,h=>exact h
  | 3,h=>exact h
  | 4,h=>exact h
  | 5,h=>exact h
  | n+6,h=>simp[Fc.cells]at h
def bY_ (l:List Stp):Fct where
  p v:=∀ s∈l,bl_ v s.ad (s.frm.flatMap aY_)
  mono v v' h hp s hs:=(L_ s.ad (s.frm.flatMap aY_)).mono v v' h (hp s hs)
theorem sn_ {l:List Stp} {s:Stp} {v:Vw} (h:(bY_ l).p v) (m:bl_ v s.ad (s.frm.flatMap aY_)):(bY_ (l++[s])).p v:=λx d=>by
 rcases yag_.1 d with d|d
 .exact h x d
 rw[yak_]at d;subst d;exact m
theorem op_ {l m:List Stp} {v:Vw} (h:(bY_ m).p v) (d:∀ x∈l,x∈m):(bY_ l).p v:=λx y=>h x (d x y)
theorem kF_ {v:Vw}:(bY_ []).p v:=λx d=>by simp at d
def fcs (l:List Stp):List Fc:=l.map (·.fact)
theorem dL_ (l m:List Stp):fcs (l++m)=fcs l++fcs m:=by simp[fcs]
theorem dn_ (l:List Stp):(fcs l).length=l.length:=by simp[fcs]
def At (l:List Stp) (m:Nat) (f:Fc):Prop:=∃ s,l[m]? = some s/\s.fact=f
theorem At.lt {l:List Stp} {m:Nat} {f:Fc} (h:At l m f):m<l.length:=by
  obtain⟨s,h,_⟩:=h;exact (yab_.1 h).1
theorem At.mem {l:List Stp} {m:Nat} {f:Fc} (h:At l m f):f∈fcs l:=by
  obtain⟨s,h,rfl⟩:=h;exact yaI_ (yac_ h)
theorem At.pre {l d:List Stp} {m:Nat} {f:Fc} (h:At l m f) (v:l <+: d):At d m f:=by
  obtain⟨t,rfl⟩:=v;obtain⟨s,h,e⟩:=h;exact⟨s,by rw[yaK_ (yab_.1 h).1];exact h,e⟩
theorem vM_ {l:List Stp} {f:Fc} (h:f∈fcs l):∃ m,At l m f:=by
  obtain⟨s,d,rfl⟩:=yas_.1 h;obtain⟨i,hi⟩:=yaU_ d;exact⟨i,s,hi,rfl⟩
inductive Cor (p:List Pc) (A:List Str) (l:List Stp):Int->Fc->Int->List Int->Prop
  | r1 {a:Str} (h:a∈A):Cor p A l 1 (Q_ a a) (-1) []
  | r2 {a:Str} (h:a∈A):Cor p A l 2 (Q_ a [42]) (-1) []
  | r3 {a:Str} {x:Pc} {i m:Nat} (hx:p[i]? = some x) (hk:x.kind=1) (h:At l m (Q_ a x.a)):Cor p A l 3 (Q_ a x.c) i [(m:Int)]
theorem Cor.map {p:List Pc} {A:List Str} {l d:List Stp} {g:Int->Int} {r:Int} {f:Fc} {i:Int} {fr:List Int} (v:∀ (m:Nat) f,(m:Int)∈fr->At l m f->∃ k:Nat,g (m:Int)=k/\At d k f) (h:Cor p A l r f i fr):Cor p A d r f i (fr.map g):=by
  cases h with
  | r1 h=>exact .r1 h
  | r2 h=>exact .r2 h
  | r3 hx hk h=>obtain⟨k,e,h⟩:=v _ _ zai_ h;rw[yaF_,e];exact .r3 hx hk h
theorem Cor.prem {p:List Pc} {A:List Str} {l:List Stp} {r:Int} {f:Fc} {i:Int} {fr:List Int} (h:Cor p A l r f i fr):∀ x∈fr,0<=x/\x<l.length:=by
  intro x d;cases h with
  | r1 h=>simp at d
  | r2 h=>simp at d
  | r3 hx' hk h=>have:=h.lt;simp at d;omega
theorem Cor.two {p:List Pc} {A:List Str} {l:List Stp} {r:Int} {f:Fc} {i:Int} {fr:List Int} (h:Cor p A l r f i fr):fr.length<=2:=by cases h<;>simp
theorem Cor.form {p:List Pc} {A:List Str} {l:List Stp} {r:Int} {f:Fc} {i:Int} {fr:List Int} (h:Cor p A l r f i fr):f=Q_ f.a f.b:=by cases h<;>rfl
structure Eng (p:List Pc) (A:List Str) (l:List Stp):Prop where
  nd:(fcs l).Nodup
  cor:∀ (n:Nat) s,l[n]? = some s->Cor p A (l.take n) s.rule s.fact s.piece s.frm
theorem Eng.nil (p:List Pc) (A:List Str):Eng p A []:=⟨by simp[fcs],λn s h=>by simp at h⟩
theorem tT_ {l m:List Stp} {n:Nat} {s:Stp} (h:l <+: m) (d:l[n]? = some s):m[n]? = some s:=by
  obtain⟨t,rfl⟩:=h;rw[yaK_ (yab_.1 d).1];exact d
theorem fC_ {l d:List Stp} (h:l <+: d) {f:Fc} (m:f∈fcs l):f∈fcs d:=by
  obtain⟨t,rfl⟩:=h;rw[dL_];exact yal_ _ m
def me_ (l:List Stp) (s:Stp):List Stp:=if s.fact∈fcs l then l else l++[s]
theorem yw_ (l:List Stp) (s:Stp):l <+: me_ l s:=by
 unfold me_;split
 .exact ybq_ _
 exact List.prefix_append _ _
theorem yx_ (l:List Stp) (s:Stp):s.fact∈fcs (me_ l s):=by
 unfold me_;split
 .assumption
 rw[dL_];simp[fcs]
theorem Eng.add {p:List Pc} {A:List Str} {l:List Stp} (h:Eng p A l) {s:Stp} (v:Cor p A l s.rule s.fact s.piece s.frm):Eng p A (me_ l s):=by
 unfold me_;split
 .exact h
 rename_i x
 refine⟨?_,λn t d=>?_⟩
 .rw[dL_,yaY_]
  exact⟨h.nd,by simp[fcs],λa y b m e=>by simp[fcs]at m;subst m;subst e;exact x y⟩
 by_cases hl:n<l.length
 .rw[yaK_ hl]at d
  rw[ycz_ zaa_];exact h.cor n t d
 have e:n=l.length:=by have:=(yab_.1 d).1;simp at this;omega
 subst e;rw[yaG_ zaa_]at d;simp at d
 subst d;rw[List.take_left];exact v
theorem rQ_ {p:List Pc} {A:List Str} {l:List Stp} (h:∀ (n:Nat) s,l[n]? = some s->Cor p A (l.take n) s.rule s.fact s.piece s.frm) (y:∀ x∈p,x.c∈A):∀ f∈fcs l,∃ a∈A,∃ b∈[42]::A,f=Q_ a b:=by
 have m:∀ k,∀ f∈fcs (l.take k),∃ a∈A,∃ b∈[42]::A,f=Q_ a b:=by
   intro k
   induction k with
   | zero=>intro f d;simp[fcs]at d
   | succ k ih =>
     intro f d;rw[yao_,dL_,yag_]at d;rcases d with d|d
     . exact ih f d
     . cases hk:l[k]? with
       | none=>rw[hk]at d;simp[fcs]at d
       | some s =>
         rw[hk]at d;simp[fcs]at d
         subst d;have c:=h k s hk;generalize s.rule=r at c
         generalize s.piece=q at c
         generalize s.frm=fr at c
         generalize s.fact=f at c
         cases c with
         | r1 h=>exact⟨_,h,_,yaA_ _ h,rfl⟩
         | r2 h=>exact⟨_,h,_,yau_,rfl⟩
         | r3 hx hk h =>
           obtain⟨a,v,b,B,e⟩:=ih _ h.mem;simp only[Q_,Fc.mk.injEq]at e;exact⟨_,e.2.1▸v,_,yaA_ _ (y _ (yac_ hx)),rfl⟩
 intro f d;exact m l.length f (by rw[ybS_];exact d)
theorem Eng.len {p:List Pc} {A:List Str} {l:List Stp} (h:Eng p A l) (F:∀ x∈p,x.c∈A) (G:A.length<=200):l.length<=65536:=by
  have d:=ez_ h.nd (m:=A.flatMap λa=>([42]::A).map λb=>Q_ a b) λf v=>by
    obtain⟨a,E,b,C,rfl⟩:=rQ_ h.cor F f v;exact yar_.2 ⟨a,E,yaI_ C⟩
  rw[dn_]at d
  have y:∀ (B:List Str),(B.flatMap λa=>([42]::A).map λb=>Q_ a b).length=B.length*(A.length+1):=by
    intro B
    induction B with
    | nil=>simp
    | cons a B ih=>rw[yaV_,yaj_,ih,yaO_,yai_,yai_,ydC_];omega
  rw[y]at d;have H:A.length*(A.length+1)<=200*201:=Nat.mul_le_mul G zaa_;omega
theorem Eng.at {p:List Pc} {A:List Str} {l:List Stp} (h:Eng p A l) {m k:Nat} {f:Fc} (hm:At l m f) (v:At l k f):m=k:=by
  obtain⟨s,y,e⟩:=hm;obtain⟨t,B,C⟩:=v;have d:(fcs l)[m]? = some f:=by unfold fcs;rw[yaH_,y,yaX_,e]
  have x:(fcs l)[k]? = some f:=by unfold fcs;rw[yaH_,B,yaX_,C]
  exact (ydo_ (yab_.1 d).choose h.nd).1 (d.trans x.symm)
structure Fnd (p:List Pc) (fm:List (Ky×Int)):Prop where
  snd:∀ k m,(k,m)∈fm->∃ (i:Nat) (x:Pc),m=i/\p[i]? = some x/\k=⟨1,[],x.a⟩
  all:∀ z∈p,∃ (i:Nat) (x:Pc),p[i]? = some x/\x.zf=z.zf/\(⟨1,[],z.a⟩,(i:Int))∈fm
  len:fm.length<=p.length
theorem tB_ {x z:Pc} (h:x.zf=z.zf):x.a=z.a/\x.c=z.c:=by
  unfold Pc.zf at h;injection h with h1 h2 h3 h4 h5 h6 h7 h8 h9 _;exact⟨h2,h4⟩
theorem Fnd.no {p:List Pc} {fm:List (Ky×Int)} (h:Fnd p fm) {k:Ky} (d:k.kind≠1):(lat fm k).length=0:=by
  cases e:lat fm k with
  | nil=>rfl
  | cons m r =>
    obtain⟨i,x,_,_,v⟩:=h.snd k m (cg_.1 (by rw[e];exact yau_));rw[v]at d;exact absurd rfl d
def Und (p:List Pc) (fm:List (Ky×Int)) (k:Ky) (Q:Pc->Prop):Prop:=∀ m∈lat fm k,∀ x,p[m.toNat]? = some x->Q x
theorem Und.all {p:List Pc} {fm:List (Ky×Int)} (h:Fnd p fm) {b:Str} {Q:Pc->Prop} (y:Und p fm ⟨1,[],b⟩ Q) {z:Pc} (B:z∈p) (d:z.a=b):∃ x,x.zf=z.zf/\Q x:=by
  obtain⟨i,x,v,m,A⟩:=h.all z B;exact⟨x,m,y i (cg_.2 (d▸A)) x zaZ_⟩
structure LoopP (p:List Pc) (A:List Str) (n:Nat) (l:List Stp):Prop where
  eng:Eng p A l
  le:n<=l.length
  st:∀ a∈A,Q_ a a∈fcs l/\Q_ a [42]∈fcs l
  cl:∀ (i:Nat) s,i<n->l[i]? = some s->∀ z∈p,z.a=s.fact.b->Q_ s.fact.a z.c∈fcs l
theorem LoopP.next {p:List Pc} {A:List Str} {fm:List (Ky×Int)} {n:Nat} {l v:List Stp} {s:Stp} (h:LoopP p A n l) (F:Fnd p fm) (y:l[n]? = some s) (H:Eng p A v) (d:l <+: v) (J:Und p fm ⟨1,[],s.fact.b⟩ (λx=>Q_ s.fact.a x.c∈fcs v)):LoopP p A (n+1) v:=by
 have K:=(yab_.1 y).1;refine⟨H,by obtain⟨t,rfl⟩:=d;simp;omega,λa C=>⟨fC_ d (h.st a C).1,fC_ d (h.st a C).2⟩,λi t hi m z E B=>?_⟩
 by_cases e:i=n
 .subst e
  rw[tT_ d y]at m;cases m;obtain⟨x,I,G⟩:=Und.all F J E B;rw[<-(tB_ I).2];exact G
 have hl:l[i]? = some l[i]:=yaa_ zaa_;rw[tT_ d hl]at m;cases m;exact fC_ d (h.cl i _ zaa_ hl z E B)
theorem LoopP.done {p:List Pc} {A:List Str} {l:List Stp} {f:Fc} (h:LoopP p A l.length l) (v:∀ S:Fc->Prop,(∀ a∈A,S (Q_ a a))->(∀ x∈p,∀ a,S (Q_ a x.a)->S (Q_ a x.c))->S f):f∈fcs l:=by
  refine v (·∈fcs l) (λa d=>(h.st a d).1) λx y a d=>?_;obtain⟨i,s,m,e⟩:=vM_ d;have:=h.cl i s (yab_.1 m).1 m x y zbB_;rw[e]at this;exact this
end Go.Vs
namespace Go.Sx
open Go Go.Vs
theorem jN_ {P:Program} {f:FuncId} {args:Array Value} {H:Hp} {Γ Γ0:List Fct} {ι:Type} {G:ι->Value} {H':ι->Hp} (B:Hp) (M:Tri P f args H Γ G H' (λ_=>[]))
    (S:∀ v:Vw,(∀ p∈B,v.im p.1/\v.w.heap[p.1]? = some p.2)->Z_ Γ0 v->Z_ Γ v):Tri P f args (B++H) Γ0 G (λx=>B++H' x) (λ_=>[]):=by
  refine⟨M.callable,λv E U=>?_⟩;have C:=E.nodup;rw[yaw_,yaY_]at C;have J:∀ p∈B,p.1<v.w.heap.size:=λp m=>(yaD_.1 (E.own p (yal_ _ m)).1).1
  have O:(⟨λb=>v.im b\/b∈B.map Prod.fst,v.w,v.sl⟩:Vw).sat H:=by
    refine⟨λp m=>⟨(E.own p (yay_ _ m)).1,λhi=>?_⟩,C.2.1,λb y=>?_⟩
    . rcases hi with hi|hi
      . exact (E.own p (yay_ _ m)).2 hi
      . exact C.2.2 _ hi _ (yaI_ m) rfl
    . rcases y with y|y
      . exact E.lt b y
      . obtain⟨p,m,rfl⟩:=yas_.1 y
        exact J p m
  have L:v.le ⟨λb=>v.im b\/b∈B.map Prod.fst,v.w,v.sl⟩:=⟨λb h=>.inl h,λ_ _=>rfl,rfl⟩;have Q:=S ⟨λb=>v.im b\/b∈B.map Prod.fst,v.w,v.sl⟩ (λp m=>⟨.inr (yaI_ m),(E.own p (yal_ _ m)).1⟩) (aB_ L U);refine (M.run _ O Q).mono ?_;rintro e w' ⟨x,I,rfl,rfl,F,_,A⟩;have hB:∀ b,b∈B.map Prod.fst->I.im b:=λb y=>A.imUp b (.inr y)
  refine⟨x,⟨λb=>I.im b/\b ∉ B.map Prod.fst,I.w,I.sl⟩,rfl,rfl,⟨λp m=>?_,?_,λb y=>F.lt b y.1⟩,trivial,?_⟩
  . rcases yag_.1 m with m|m
    . refine⟨?_,λh=>h.2 (yaI_ m)⟩
      have:=(A.le O).block p.1 (.inr (yaI_ m));exact this.trans (E.own p (yal_ _ m)).1
    . exact⟨(F.own p m).1,λh=>(F.own p m).2 h.1⟩
  . rw[yaw_,yaY_]
    refine⟨C.1,F.nodup,λa V b y e=>?_⟩;subst e;obtain⟨p,m,rfl⟩:=yas_.1 y;exact (F.own p m).2 (hB _ V)
  . refine⟨A.os,A.tape,A.output,A.size,λb y T=>A.block b y (λhm=>T ?_),λb y=>⟨A.imUp b (.inl y),λhm=>?_⟩,λb y=>?_,λb y=>?_,A.sl,A.dr⟩
    . rw[yaw_];exact yay_ _ hm
    . obtain⟨p,m,rfl⟩:=yas_.1 hm
      exact (E.own p (yal_ _ m)).2 y
    . rcases A.imNew b y.1 with (h|h)|h|h
      . exact .inl h
      . exact absurd h y.2
      . exact .inr (.inl (by rw[yaw_];exact yay_ _ h))
      . exact .inr (.inr h)
    . rw[yaw_]at y ⊢
      rcases yag_.1 y with h|h
      . exact .inl (yal_ _ h)
      . exact (A.hNew b h).imp (yay_ _) id
structure KeyT (P:Program) (kt:TypeId) {K:Type} [DecidableEq K] (kv:K->Value):Prop where
  ok:∀ k,hP_ P kt (kv k)
  nf:∀ (k:K) (es:List MapEntry) (ks:List K),es.map (·.key)=ks.map kv->k ∉ ks->dh_ P kt (kv k) es none
  sf:∀ (k:K) (es:List MapEntry) (ks:List K) (i:Nat) (e:MapEntry),es.map (·.key)=ks.map kv->ks.Nodup->ks[i]? = some k->es[i]? = some e->dh_ P kt (kv k) es (some (i,e.val))
  same:∀ k,Instr.sameBits 10000 (kv k) (kv k)=true
section
variable {P:Program}
theorem nU_ (a b:List UInt8):((⟨a.toArray⟩:ByteArray)==⟨b.toArray⟩)=decide (a=b):=by
  show (a.toArray==b.toArray)=_
  rw[ybJ_];simp
theorem rx_ {kt:TypeId} (E:P.underlying kt=some .string):KeyT P kt str where
  ok:=λk e w=>by
    have key:∀ m,(Instr.checkKey e (m+1) kt (str k)).run P w=.ok () w:=λm=>by simp[Instr.checkKey,run_underlying E,str]
    exact key 9999
  nf:=λk es ks h B=>ax_ E (by
    have:∀ (ks:List Str) (es:List MapEntry) (i:Nat),es.map (·.key)=ks.map str->k ∉ ks->Instr.findNow .string (str k) es i=some none:=by
      intro ks
      induction ks with
      | nil => intro es i h _; have : es = [] := by simpa using h
               subst this;rfl
      | cons q ks ih =>
        intro es i h B;cases es with
        | nil=>simp at h
        | cons e es =>
          simp only[yaF_,ybt_]at h;simp only[yan_,not_or]at B
          have y:Instr.sameNow .string (str k) e.key=some false:=by
            rw[h.1];show some ((⟨k.toArray⟩:ByteArray)==⟨q.toArray⟩)=some false
            rw[nU_,ybi_ B.1]
          simp only[Instr.findNow,y];exact ih es (i+1) h.2 B.2
    exact this ks es 0 h B)
  sf:=λk es ks i e h A hi v=>ax_ E (by
    have:∀ (ks:List Str) (es:List MapEntry) (j i:Nat),es.map (·.key)=ks.map str->ks.Nodup->ks[i]? = some k->es[i]? = some e->Instr.findNow .string (str k) es j=some (some (j+i,e.val)):=by
      intro ks
      induction ks with
      | nil=>intro es j i _ _ h;simp at h
      | cons q ks ih =>
        intro es j i h A hi v;cases es with
        | nil=>simp at h
        | cons x es =>
          simp only[yaF_,ybt_]at h;rw[ybr_]at A;cases i with
          | zero =>
            simp only[ybc_,yam_]at hi v;subst hi;subst v
            have y:Instr.sameNow .string (str q) x.key=some true:=by
              rw[h.1];show some ((⟨q.toArray⟩:ByteArray)==⟨q.toArray⟩)=some true
              rw[nU_,yaE_ rfl]
            simp only[Instr.findNow,y,ycc_]
          | succ i =>
            simp only[ybb_]at hi v;have C:k≠q:=λe=>A.1 (e▸yac_ hi)
            have y:Instr.sameNow .string (str k) x.key=some false:=by
              rw[h.1];show some ((⟨k.toArray⟩:ByteArray)==⟨q.toArray⟩)=some false
              rw[nU_,ybi_ C]
            simp only[Instr.findNow,y];rw[ih es (j+1) i h.2 A.2 hi v,show j+1+i=j+(i+1) by omega]
    have:=this ks es 0 i h A hi v;rwa [yba_]at this)
  same:=λk=>by
    have key:∀ m,Instr.sameBits m (str k) (str k)=true:=λm=>by
      cases m<;>(show ((⟨k.toArray⟩:ByteArray)==⟨k.toArray⟩)=true;rw[nU_,yaE_ rfl])
    exact key 10000
theorem fo_ {K:Type} [DecidableEq K] {kt:TypeId} {G:Array Field} {kv:K->Value} (F:P.underlying kt=some (.struct G)) (E:∀ k,hP_ P kt (kv k)) (m:∀ p q w,(Op.equal kt (kv p) (kv q)).run P w=.ok (decide (p=q)) w) (v:∀ k,Instr.sameBits 10000 (kv k) (kv k)=true):KeyT P kt kv where
  ok:=E
  nf:=λk es ks h I=>(hH_ F m k ks es h).1 I
  sf:=λk es ks i e h A hi y=>by
    have key:∀ (ks:List K) (es:List MapEntry) (j i:Nat),es.map (·.key)=ks.map kv->ks.Nodup->ks[i]? = some k->es[i]? = some e->∀ w,(Instr.findAsking kt (kv k) es j).run P w=.ok (some (j+i,e.val)) w:=by
      intro ks
      induction ks with
      | nil=>intro es j i _ _ h;simp at h
      | cons q ks ih =>
        intro es j i h A hi y w;cases es with
        | nil=>simp at h
        | cons x es =>
          simp only[yaF_,ybt_]at h;rw[ybr_]at A;cases i with
          | zero =>
            simp only[ybc_,yam_]at hi y;subst hi;subst y;simp only[Instr.findAsking,Sem.run_bind,h.1,m,Result.andThen_ok,decide_true,yck_,Sem.run_pure,ycc_]
          | succ i =>
            simp only[ybb_]at hi y;have C:k≠q:=λe=>A.1 (e▸yac_ hi)
            simp only[Instr.findAsking,Sem.run_bind,h.1,m,Result.andThen_ok,C,ydE_,ybl_,yca_];rw[ih es (j+1) i h.2 A.2 hi y w,show j+1+i=j+(i+1) by omega]
    intro w;have B:∀ (x:MapEntry) (r:List MapEntry),Instr.findNow (.struct G) (kv k) (x::r) 0=none:=λx r=>by simp[Instr.findNow,Instr.sameNow]
    cases es with
    | nil=>simp at y
    | cons x r =>
      simp only[Instr.findKey,Sem.run_bind,run_underlying F,Result.andThen_ok,B];have:=key ks (x::r) 0 i h A hi y w;rwa [yba_]at this
  same:=v
end
theorem dY_ (n:Nat) {k:IntKind} (i:Int):Instr.sameBits n (.int k i) (.int k i)=true:=by
  cases n<;>simp[Instr.sameBits]
theorem cF_ (n:Nat) (s:List UInt8):Instr.sameBits n (str s) (str s)=true:=by
  cases n<;>(show ((⟨s.toArray⟩:ByteArray)==⟨s.toArray⟩)=true;rw[nU_,yaE_ rfl])
theorem im_ {n:Nat} {l:List Value} (h:∀ v∈l,Instr.sameBits n v v=true):Instr.sameBits (n+1) (.agg l.toArray) (.agg l.toArray)=true:=by
 simp only[Instr.sameBits,BEq.rfl,Bool.true_and,yaQ_];intro p m
 have:∀ (l:List Value),(∀ v∈l,Instr.sameBits n v v=true)->∀ p∈l.zip l,Instr.sameBits n p.1 p.2=true:=by
   intro l
   induction l with
   | nil=>intro _ p m;simp at m
   | cons a l ih =>
     intro h p m;simp only[List.zip_cons_cons,yan_]at m;rcases m with rfl|m
     . exact h a zai_
     . exact ih (λv x=>h v zbD_) p m
 exact this l h p m
structure Born (es:Array MapEntry) (c:Nat):Prop where
  lt:∀ x∈es.toList,x.born<c
  nd:(es.toList.map (·.born)).Nodup
theorem Born.nil (c:Nat):Born #[] c:=⟨by simp,by simp⟩
theorem Born.push {es:Array MapEntry} {c:Nat} (h:Born es c) (v val:Value):Born (es.push ⟨v,val,c⟩) (c+1):=by
 refine⟨λx m=>?_,?_⟩
 .rw[ycv_,yag_]at m
  rcases m with m|m
  .exact Nat.lt_succ_of_lt (h.lt x m)
  rw[yak_]at m;rw[m];exact Nat.lt_succ_self _
 rw[ycv_,yaw_,yaY_];refine⟨h.nd,by simp,λa y b A e=>?_⟩;obtain⟨x,m,rfl⟩:=yas_.1 y;simp at A
 have:=h.lt x m;omega
theorem Born.modify {es:Array MapEntry} {c:Nat} (h:Born es c) (i:Nat) (f:MapEntry->MapEntry) (v:∀ e,(f e).born=e.born):Born (es.modify i f) c:=by
 have m:(es.modify i f).toList.map (·.born)=es.toList.map (·.born):=by
   apply ybx_
   intro j;simp only[yaH_,ybe_,yby_]
   split
   . cases es[j]? <;> simp[v]
   . rfl
 refine⟨λx B=>?_,by rw[m];exact h.nd⟩;have:x.born∈(es.modify i f).toList.map (·.born):=yaI_ B;rw[m]at this;obtain⟨y,A,e⟩:=yas_.1 this;rw[<-e];exact h.lt y A
theorem Born.find {es:Array MapEntry} {c i:Nat} {x:MapEntry} (h:Born es c) (y:es[i]? = some x):es.findIdx? (λe=>(e.born:Int)==(x.born:Int))=some i:=by
  rw[Array.findIdx?_eq_some_iff_getElem];obtain⟨hi,rfl⟩:=yaD_.1 y;refine⟨hi,by simp,λj v=>?_⟩;simp only[beq_eq_false_iff_ne,ne_eq,Bool.not_eq_true];intro e;have m:j<es.size:=Nat.lt_trans v hi;have:=h.nd;rw[List.nodup_iff_pairwise_ne,yaN_]at this;have:=this j i zaY_ (by simpa using hi) v;simp at this
  exact this (by exact_mod_cast e)
section
variable {K D:Type} [DecidableEq K] (kv:K->Value) (cells:D->List Value) (e:TypeId) (sz:Nat) (l:List (K×D))
def he_:List K->List MapEntry->Hp->Prop
  | [],[],H=>H=[]
  | k::ks,x::es,H=>∃ Hk Hr,H=Hk++Hr/\x.key=kv k/\ad_ e sz x.val (lat l k).length ((lat l k).flatMap cells) Hk/\he_ ks es Hr
  | _,_,_=>False
def cs_ (mb:Nat) (H:Hp):Prop:=∃ ks es c Hr,H=(mb,.map es c)::Hr/\ks.Nodup/\(∀ x∈l,x.1∈ks)/\he_ kv cells e sz l ks es.toList Hr/\Born es c
end
section
variable {K D:Type} [DecidableEq K] {kv:K->Value} {cells:D->List Value} {e:TypeId} {sz:Nat} {l:List (K×D)}
theorem he_.keys:∀ {ks:List K} {es:List MapEntry} {H:Hp},he_ kv cells e sz l ks es H->es.map (·.key)=ks.map kv
  | [],[],_,_=>rfl
  | k::ks,x::es,_,h=>by
    obtain⟨y,Hr,_,m,_,v⟩:=h;simp[m,v.keys]
  | [],_::_,_,h=>h.elim
  | _::_,[],_,h=>h.elim
theorem he_.congr {m:List (K×D)}:∀ {ks:List K} {es:List MapEntry} {H:Hp},(∀ k∈ks,lat m k=lat l k)->he_ kv cells e sz l ks es H->he_ kv cells e sz m ks es H
  | [],[],_,_,h=>h
  | k::ks,x::es,_,hl,h=>by
    obtain⟨A,Hr,C,B,y,E⟩:=h;exact⟨A,Hr,C,B,by rw[hl k zai_];exact y,E.congr λq v=>hl q (by simp[v])⟩
  | [],_::_,_,_,h=>h.elim
  | _::_,[],_,_,h=>h.elim
theorem he_.get : ∀ {ks : List K} {es : List MapEntry} {H : Hp} {i : Nat} {k : K}, he_ kv cells e sz l ks es H->ks.Nodup->ks[i]? = some k->∃ x A Hr, es[i]? = some x/\H.Perm (A ++ Hr)/\x.key = kv k/\ad_ e sz x.val (lat l k).length ((lat l k).flatMap cells) A/\
      ∀ (v:List (K×D)) (y:MapEntry) (m:Hp),y.key=kv k->(∀ q,q≠k->lat v q=lat l q)->ad_ e sz y.val (lat v k).length ((lat v k).flatMap cells) m->∃ H',he_ kv cells e sz v ks (es.set i y) H'/\H'.Perm (m++Hr)
  | [],_,_,_,_,_,_,h=>by simp at h
  | _::_,[],_,_,_,h,_,_=>h.elim
  | q::ks,x::es,H,0,k,h,hn,hi=>by
    simp only[ybc_,yam_]at hi;subst hi;rw[ybr_]at hn;obtain⟨A,Hr,I,L,G,J⟩:=h;exact⟨x,A,Hr,rfl,I▸.refl _,L,G,λv y m E C M=>⟨m++Hr,⟨m,Hr,rfl,E,M,J.congr λz X=>C z (λe=>hn.1 (e▸X))⟩,.refl _⟩⟩
  | q::ks,x::es,H,i+1,k,h,hn,hi=>by
    simp only[ybb_]at hi;rw[ybr_]at hn;obtain⟨B,Y,I,L,G,J⟩:=h;obtain⟨y,A,Hr,U,T,Q,S,V⟩:=J.get hn.2 hi;have F:q≠k:=λe=>hn.1 (e▸yac_ hi)
    refine⟨y,A,B++Hr,U,?_,Q,S,λv z m E C M=>?_⟩
    . rw[I]
      refine (ybE_ B T).trans ?_;rw[<-yap_,<-yap_];exact yax_.append_right _
    . obtain⟨H',O,W⟩:=V v z m E C M
      refine⟨B++H',⟨B,H',rfl,L,by rw[C q F];exact G,O⟩,(ybE_ B W).trans ?_⟩;rw[<-yap_,<-yap_];exact yax_.append_right _
theorem he_.push:∀ {ks:List K} {es:List MapEntry} {H:Hp} {k:K} {x:MapEntry} {Hk:Hp},he_ kv cells e sz l ks es H->x.key=kv k->ad_ e sz x.val (lat l k).length ((lat l k).flatMap cells) Hk->he_ kv cells e sz l (ks++[k]) (es++[x]) (H++Hk)
  | [],[],_,k,x,Hk,h,h1,h2=>by subst h;exact⟨Hk,[],by simp,h1,h2,rfl⟩
  | q::ks,y::es,_,k,x,Hk,h,h1,h2=>by
    obtain⟨B,Hr,rfl,A,m,v⟩:=h;exact⟨B,Hr++Hk,by simp,A,m,v.push h1 h2⟩
  | [],_::_,_,_,_,_,h,_,_=>h.elim
  | _::_,[],_,_,_,_,h,_,_=>h.elim
theorem iO_ {k q:K} {d:D} (h:q≠k):lat (l++[(k,d)]) q=lat l q:=by
  rw[nx_];simp[lat,Ne.symm h]
theorem ec_ {k:K} {d:D}:lat (l++[(k,d)]) k=lat l k++[d]:=by
  rw[nx_];simp[lat]
theorem cs_.open {P:Program} {kt:TypeId} (T:KeyT P kt kv) {B:Nat} {H:Hp} (h:cs_ kv cells e sz l B H) (k:K) :
    ∃ es c sv J Hr,H.Perm ((B,.map es c)::(J++Hr))/\ad_ e sz sv (lat l k).length ((lat l k).flatMap cells) J/\
      ((dh_ P kt (kv k) es.toList none/\sv=.slice none 0 0/\∀ d m v,ad_ e sz m (lat (l++[(k,d)]) k).length ((lat (l++[(k,d)]) k).flatMap cells) v->∃ H',cs_ kv cells e sz (l++[(k,d)]) B H'/\H'.Perm ((B,.map (es.push ⟨kv k,m,c⟩) (c+1))::(v++Hr)))\/
       (∃ i x,dh_ P kt (kv k) es.toList (some (i,sv))/\es[i]? = some x/\x.key=kv k/\x.val=sv/\∀ d m v,ad_ e sz m (lat (l++[(k,d)]) k).length ((lat (l++[(k,d)]) k).flatMap cells) v->∃ H',cs_ kv cells e sz (l++[(k,d)]) B H'/\H'.Perm ((B,.map (es.modify i λy=>{ y with key:=kv k,val:=m }) c)::(v++Hr)))):=by
  obtain⟨ks,es,c,U,rfl,I,hl,hm,G⟩:=h
  by_cases C:k∈ks
  . obtain⟨i,hi⟩:=yaU_ C
    obtain⟨x,J,Hr,O,Y,g3,g4,g5⟩:=hm.get I hi;have V:es[i]? = some x:=by rw[<-ybe_];exact O
    refine⟨es,c,x.val,J,Hr,.cons _ Y,g4,.inr ⟨i,x,T.sf k es.toList ks i x hm.keys I hi O,V,g3,rfl,λd m v Q=>?_⟩⟩;obtain⟨H',X,Z⟩:=g5 (l++[(k,d)]) { x with key:=kv k,val:=m } v rfl (λq M=>iO_ M) Q;refine⟨(B,.map (es.modify i λy=>{ y with key:=kv k,val:=m }) c)::H',⟨ks,_,c,H',rfl,I,λy A=>?_,?_,G.modify i _ λ_=>rfl⟩,.cons _ Z⟩
    . rcases yag_.1 A with A|A
      . exact hl y A
      . simp at A;rw[A];exact C
    . have e1:(es.modify i λy=>{ y with key:=kv k,val:=m }).toList=es.toList.set i { x with key:=kv k,val:=m }:=by
        apply ybx_
        intro j;rw[ybe_,yby_,ybm_,ybe_]
        by_cases F:i=j
        . subst F
          have L:i<es.toList.length:=(yab_.1 O).1;simp only[yck_,V,yaX_,yaq_ L]
        . simp[F]
      rw[e1];exact X
  . have E:lat l k=[]:=by
      apply ycx_.2
      intro d W;exact C (hl _ (cg_.1 W))
    refine⟨es,c,.slice none 0 0,[],U,.refl _,by rw[E];exact ad_.nil _ _,.inl ⟨T.nf k es.toList ks hm.keys C,rfl,λd m v Q=>?_⟩⟩;refine⟨(B,.map (es.push ⟨kv k,m,c⟩) (c+1))::(U++v),⟨ks++[k],_,_,_,rfl,?_,λy A=>?_,?_,G.push _ _⟩,.cons _ yax_⟩
    . rw[yaY_];exact⟨I,by simp,λa ha b S e=>by simp at S;subst S;subst e;exact C ha⟩
    . rcases yag_.1 A with A|A
      . exact yal_ _ (hl y A)
      . simp at A;simp[A]
    . rw[ycv_]
      exact (hm.congr λq M=>iO_ (λ(e:q=k)=>C (e▸M))).push rfl Q
structure MOpn (kv:K->Value) (cells:D->List Value) (e:TypeId) (sz:Nat) (l:List (K×D)) (mb:Nat) (k:K) (es:Array MapEntry) (c i:Nat) (st:Int) (Hr:Hp):Prop where
  find:es.findIdx? (λx=>(x.born:Int)==st)=some i
  close:∀ d sv' Hk',ad_ e sz sv' (lat (l++[(k,d)]) k).length ((lat (l++[(k,d)]) k).flatMap cells) Hk'->∃ H',cs_ kv cells e sz (l++[(k,d)]) mb H'/\H'.Perm ((mb,.map (es.modify i λy=>{ y with val:=sv' }) c)::(Hk'++Hr))
theorem sI_ {es:Array MapEntry} {i:Nat} {x:MapEntry} {key:Value} (A:es[i]? = some x) (v:x.key=key):(es.modify i λy=>{ y with key:=key })=es:=by
 apply yco_
 intro j;rw[yby_]
 by_cases m:i=j
 .subst m;rw[yaq_ rfl,A];simp only[yaX_];rw[<-v]
 rw[yaf_ m]
theorem cs_.entry {P:Program} {kt:TypeId} (Z:KeyT P kt kv) {I:Nat} {H:Hp} (h:cs_ kv cells e sz l I H) (k:K) :
    ∃ es c B S i st sv O Hr,H.Perm ((I,.map es c)::(O++Hr))/\ad_ e sz sv (lat l k).length ((lat l k).flatMap cells) O/\MOpn kv cells e sz l I k B S i st Hr/\
      ((dh_ P kt (kv k) es.toList none/\sv=.slice none 0 0/\B=es.push ⟨kv k,.slice none 0 0,c⟩/\S=c+1/\st=(c:Int))\/(∃ j x,dh_ P kt (kv k) es.toList (some (j,sv))/\es[j]? = some x/\x.key=kv k/\B=es/\S=c/\st=(x.born:Int))):=by
  have h0:=h;obtain⟨ks,es,c,Ho,rfl,L,hl,hm,A⟩:=h0
  by_cases E:k∈ks
  . obtain⟨i,hi⟩:=yaU_ E
    obtain⟨x,O,Hr,U,g2,g3,g4,g5⟩:=hm.get L hi;have X:es[i]? = some x:=by rw[<-ybe_];exact U
    refine⟨es,c,es,c,i,x.born,x.val,O,Hr,.cons _ g2,g4,⟨A.find X,λd m C V=>?_⟩,.inr ⟨i,x,Z.sf k es.toList ks i x hm.keys L hi U,X,g3,rfl,rfl,rfl⟩⟩;obtain⟨H',j1,j2⟩:=g5 (l++[(k,d)]) { x with key:=kv k,val:=m } C rfl (λq T=>iO_ T) V;refine⟨(I,.map (es.modify i λy=>{ y with val:=m }) c)::H',⟨ks,_,c,H',rfl,L,λy v=>?_,?_,A.modify i _ λ_=>rfl⟩,.cons _ j2⟩
    . rcases yag_.1 v with v|v
      . exact hl y v
      . simp at v;rw[v];exact E
    . have e1:(es.modify i λy=>{ y with val:=m }).toList=es.toList.set i { x with key:=kv k,val:=m }:=by
        apply ybx_
        intro j;rw[ybe_,yby_,ybm_,ybe_]
        by_cases G:i=j
        . subst G
          have Q:i<es.toList.length:=(yab_.1 U).1;simp only[yck_,X,yaX_,yaq_ Q];rw[<-g3]
        . simp[G]
      rw[e1];exact j1
  . have F:lat l k=[]:=by
      apply ycx_.2
      intro d hd;exact E (hl _ (cg_.1 hd))
    have W:=A.push (kv k) (.slice none 0 0);have J:(es.push ⟨kv k,.slice none 0 0,c⟩)[es.size]? = some ⟨kv k,.slice none 0 0,c⟩:=by simp
    refine⟨es,c,es.push ⟨kv k,.slice none 0 0,c⟩,c+1,es.size,(c:Int),.slice none 0 0,[],Ho,.refl _,by rw[F];exact ad_.nil _ _,⟨W.find J,λd m C V=>?_⟩,.inl ⟨Z.nf k es.toList ks hm.keys E,rfl,rfl,rfl,rfl⟩⟩
    have e2:((es.push ⟨kv k,.slice none 0 0,c⟩).modify es.size λy=>{ y with val:=m })=es.push ⟨kv k,m,c⟩:=by
      apply yco_
      intro j;rw[yby_,ycy_,ycy_]
      by_cases M:j=es.size
      . subst M;simp
      . rw[yaf_ (λq=>M q.symm),yaf_ M,yaf_ M]
    rw[e2];refine⟨(I,.map (es.push ⟨kv k,m,c⟩) (c+1))::(Ho++C),⟨ks++[k],_,_,_,rfl,?_,λy v=>?_,?_,A.push _ _⟩,.cons _ yax_⟩
    . rw[yaY_];exact⟨L,by simp,λa ha b Y e=>by simp at Y;subst Y;subst e;exact E ha⟩
    . rcases yag_.1 v with v|v
      . exact yal_ _ (hl y v)
      . simp at v;simp[v]
    . rw[ycv_]
      exact (hm.congr λq T=>iO_ (λ(e:q=k)=>E (e▸T))).push rfl V
theorem cs_.nil (m:Nat) (c:Nat):cs_ kv cells e sz ([]:List (K×D)) m [(m,.map #[] c)]:=⟨[],#[],c,[],rfl,ybZ_,by simp,rfl,Born.nil c⟩
def mlF (P:Program) (kt:TypeId) (kv:K->Value) (cells:D->List Value) (mb:Nat) (l:List (K×D)) (adr:K->Ao×Nat):Fct where
  p:=λv=>v.im mb/\∃ es c,v.w.heap[mb]? = some (.map es c)/\∀ k,bl_ v (adr k).1 ((lat l k).flatMap cells)/\
    ((dh_ P kt (kv k) es.toList none/\Value.slice (adr k).1 (lat l k).length (adr k).2=.slice none 0 0)\/∃ i,dh_ P kt (kv k) es.toList (some (i,.slice (adr k).1 (lat l k).length (adr k).2)))
  mono:=λv v' h ⟨h1,es,c,h2,h3⟩=>⟨h.imUp mb h1,es,c,by rw[h.block mb h1];exact h2,λk=>⟨(L_ _ _).mono v v' h (h3 k).1,(h3 k).2⟩⟩
theorem bc_ {P:Program} {kt:TypeId} {m:Nat} {adr:K->Ao×Nat} {v:Vw} (h:(mlF P kt kv cells m l adr).p v) (k:K):bl_ v (adr k).1 ((lat l k).flatMap cells):=by
  obtain⟨_,_,_,_,h⟩:=h;exact (h k).1
theorem kG_ {sv:Value} {n:Nat} {xs:List Value} {Hr:Hp} {v:Vw} (h:ad_ e sz sv n xs Hr) (E:∀ p∈Hr,v.im p.1/\v.w.heap[p.1]? = some p.2):∃ ad cap,sv=.slice ad n cap/\n<=cap/\cap<=maxLen/\(n≠0->∃ b,ad=some ⟨b,0,none⟩)/\bl_ v ad xs:=by
 rcases h.2 with⟨rfl,rfl,rfl⟩|⟨g,cap,cur,rfl,rfl,A,F,G,C⟩
 .have:xs=[]:=yaz_ (by simpa using h.1)
  exact⟨none,0,rfl,yae_ _,by simp[maxLen],λh=>absurd rfl h,.inl this⟩
 obtain⟨y,B⟩:=E _ (yak_.2 rfl);refine⟨some ⟨g,0,none⟩,cap,rfl,A,F,λ_=>⟨g,rfl⟩,.inr ⟨g,0,cur,e,(0,0),rfl,y,B,λj x m=>?_⟩⟩;rw[<-C,ybg_]at m
 split at m
 .rw[yba_,<-ybe_];exact m
 cases m
theorem cs_.lentC {P:Program} {kt:TypeId} (O:KeyT P kt kv) {F:Nat} {H:Hp} (h:cs_ kv cells e sz l F H):∃ adr:K->Ao×Nat,(∀ k,(lat l k).length<=(adr k).2/\((adr k).1=none->(adr k).2=0))/\∀ v:Vw,(∀ p∈H,v.im p.1/\v.w.heap[p.1]? = some p.2)->(mlF P kt kv cells F l adr).p v:=by
 have V:=h;obtain⟨ks,es,c,Y,rfl,T,hl,hm,_⟩:=V
 have y:∀ k,∃ q:Ao×Nat,((lat l k).length<=q.2/\(q.1=none->q.2=0))/\∀ v:Vw,(∀ p∈(F,Obj.map es c)::Y,v.im p.1/\v.w.heap[p.1]? = some p.2)->bl_ v q.1 ((lat l k).flatMap cells)/\((dh_ P kt (kv k) es.toList none/\Value.slice q.1 (lat l k).length q.2=.slice none 0 0)\/∃ i,dh_ P kt (kv k) es.toList (some (i,.slice q.1 (lat l k).length q.2))):=λk=>by
   by_cases E:k∈ks
   . obtain⟨i,hi⟩:=yaU_ E
     obtain⟨x,Hk,Hr,J,C,g3,Q,_⟩:=hm.get T hi;have hf:=O.sf k es.toList ks i x hm.keys T hi J
     have G:∃ ad cap,x.val=.slice ad (lat l k).length cap/\(lat l k).length<=cap/\(ad=none->cap=0):=by
       rcases Q.2 with⟨I,q2,_⟩|⟨g,cap,cur,I,_,W,_⟩
       . exact⟨none,0,by rw[I,q2],by omega,λ_=>rfl⟩
       . exact⟨_,cap,I,W,λq=>by cases q⟩
     obtain⟨ad,cap,S,B⟩:=G;refine⟨(ad,cap),B,λv A=>⟨?_,.inr ⟨i,by rw[<-S];exact hf⟩⟩⟩;obtain⟨Z,M,L,_,_,_,hr⟩:=kG_ Q λp X=>A p (yaA_ _ (C.mem_iff.2 (yal_ _ X)))
     rw[S]at L;simp only[Value.slice.injEq]at L;rw[L.1];exact hr
   . have m:lat l k=[]:=by
       apply ycx_.2
       intro d U;exact E (hl _ (cg_.1 U))
     exact⟨(none,0),⟨by rw[m];simp,λ_=>rfl⟩,λv A=>⟨.inl (by rw[m];rfl),.inl ⟨O.nf k es.toList ks hm.keys E,by rw[m];rfl⟩⟩⟩
 refine⟨λk=>(y k).choose,λk=>(y k).choose_spec.1,λv A=>?_⟩;obtain⟨J,C⟩:=A _ yau_;exact⟨J,es,c,C,λk=>(y k).choose_spec.2 v A⟩
theorem cs_.lent {P:Program} {kt:TypeId} (x:KeyT P kt kv) {m:Nat} {H:Hp} (h:cs_ kv cells e sz l m H):∃ adr,∀ v:Vw,(∀ p∈H,v.im p.1/\v.w.heap[p.1]? = some p.2)->(mlF P kt kv cells m l adr).p v:=⟨_,(h.lentC x).choose_spec.2⟩
end
section
variable {P:Program} {K:Type} [DecidableEq K] {kv:K->Value} {kt:TypeId}
structure SetE (kv:K->Value) (es:Array MapEntry) (q:List K):Prop where
  keys:es.toList.map (·.key)=q.map kv
  vals:∀ x∈es.toList,x.val=.bool true
  nd:q.Nodup
theorem SetE.nil:SetE kv #[] ([]:List K):=⟨rfl,by simp,ybZ_⟩
theorem SetE.size {es:Array MapEntry} {q:List K} (h:SetE kv es q):es.size=q.length:=by
  have:=yah_ List.length h.keys;simpa using this
theorem SetE.yes (C:KeyT P kt kv) {es:Array MapEntry} {q:List K} (h:SetE kv es q) {k:K} (B:k∈q):∃ i x,q[i]? = some k/\es[i]? = some x/\x.key=kv k/\x.val=.bool true/\dh_ P kt (kv k) es.toList (some (i,.bool true)):=by
  obtain⟨i,hi⟩:=yaU_ B
  have m:i<es.toList.length:=by
    have:=(yab_.1 hi).1;have e:=yah_ List.length h.keys;simp at e this ⊢;omega
  have y:=yaa_ m;have A:=h.vals _ (ycm_ m)
  have v:es.toList[i].key=kv k:=by
    have:=yah_ (λl=>l[i]?) h.keys;simp only[yaH_,y,hi,yaX_,yam_]at this;exact this
  refine⟨i,es.toList[i],hi,by rw[<-ybe_];exact y,v,A,?_⟩;have:=C.sf k es.toList q i _ h.keys h.nd hi y;rwa [A]at this
theorem SetE.no (m:KeyT P kt kv) {es:Array MapEntry} {q:List K} (h:SetE kv es q) {k:K} (v:k ∉ q):dh_ P kt (kv k) es.toList none:=m.nf k es.toList q h.keys v
theorem SetE.push {es:Array MapEntry} {q:List K} (h:SetE kv es q) {k:K} (y:k ∉ q) (c:Nat):SetE kv (es.push ⟨kv k,.bool true,c⟩) (q++[k]):=by
 refine⟨by simp[h.keys],λx m=>?_,?_⟩
 .rw[ycv_,yag_]at m
  rcases m with m|m
  .exact h.vals x m
  simp at m;rw[m]
 rw[yaY_];exact⟨h.nd,by simp,λa A b v e=>by simp at v;subst v;subst e;exact y A⟩
end
section ops
variable {P:Program} {N:Nf} {v0:Vw} {H0:Hp} {R:Exit->Act->World->Prop} {Kk:List Kt} {fr:Fr} {H:Hp} {Γ:List Fct}
variable {ops:Array Oper} {lo:List Oper} {d:Nat} {ty:TypeId} {ps:String} {af:Array Edge}
variable {K D:Type} [DecidableEq K] {kv:K->Value} {cells:D->List Value}
theorem bi_ {t kt J:TypeId} {x y:Operand} {G:Nat} {l:List (K×D)} {adr:K->Ao×Nat} {k:K} (I:KeyT P kt kv) (C:∀ w,(underlying t).run P w=.ok (.map kt J) w) (T:∀ w,(zeroValue J).run P w=.ok (.slice none 0 0) w) (F:Fr.ev fr x=some (.map (some G))) (B:Fr.ev fr y=some (kv k))
    (hm:∀ v,v.sat H->Z_ Γ v->(mlF P kt kv cells G l adr).p v):Yld P N fr H Γ (.lookup t x y false) ty (.slice (adr k).1 (lat l k).length (adr k).2) :=
  λa v m M S _ _ _=>by
    obtain⟨_,es,c,L,O⟩:=hm v M S;have E:=MapKept.run_getObj_map (P:=P) L;rcases (O k).2 with⟨A,Q⟩|⟨i,A⟩
    . rw[Q];simp[execOp,m.ev F,m.ev B,Instr.lookup,C,E,I.ok _ _ _,A _,T]
    . simp[execOp,m.ev F,m.ev B,Instr.lookup,C,E,I.ok _ _ _,A _]
theorem df_ {t kt I:TypeId} {x y:Operand} {G c:Nat} {es:Array MapEntry} {q:List K} {k:K} (A:KeyT P kt kv) (C:∀ w,(underlying t).run P w=.ok (.map kt I) w) (L:∀ w,(zeroValue I).run P w=.ok (.bool false) w) (E:Fr.ev fr x=some (.map (some G))) (B:Fr.ev fr y=some (kv k))
    (F:SetE kv es q) (hm:∀ v,v.sat H->Z_ Γ v->v.w.heap[G]? = some (.map es c)):Yld P N fr H Γ (.lookup t x y false) ty (.bool (decide (k∈q))):=by
  by_cases m:k∈q
  . obtain⟨i,_,_,_,_,_,J⟩:=F.yes A m
    rw[yaE_ m];exact hk_ C E B hm (A.ok k) J
  . rw[ybi_ m]
    exact hj_ C L E B hm (A.ok k) (F.no A m)
theorem vX_ {t kt G:TypeId} {x:Operand} {m c:Nat} {es:Array MapEntry} (C:∀ w,(underlying t).run P w=.ok (.map kt G) w) (F:Fr.ev fr x=some (.map (some m))) (hm:∀ v,v.sat H->Z_ Γ v->v.w.heap[m]? = some (.map es c)) :
    Yld P N fr H Γ (.call ⟨.builtin .len,#[x],#[t]⟩) ty (.int .i64 (es.size:Int)) :=
  λa v B y A _ _ _=>by
    have E:=MapKept.run_getObj_map (P:=P) (hm v y A);simp[execOp,resolve,invoke,builtin,Builtin.len_,B.ev F,C,E,goInt]
theorem nf_ {o:Op} {t kt S:TypeId} {x y z:Operand} {b c i:Nat} (n:Nat) {es:Array MapEntry} {e:MapEntry} {k:K} {u Q:Value} (I:KeyT P kt kv) (V:o=.insert t x y z\/o=.mapUpdate t x y z) (Y:∀ w,(underlying t).run P w=.ok (.map kt S) w)
    (hx:Fr.ev fr x=some (.map (some b))) (X:Fr.ev fr y=some (kv k)) (T:Fr.ev fr z=some u) (hi:H[n]? = some (b,.map es c)) (U:dh_ P kt (kv k) es.toList (some (i,Q))) (F:es[i]? = some e) (E:e.key=kv k)
    (C:Ops P R N v0 H0 ops lo Kk fr (H.set n (b,.map (es.modify i λy=>{ y with key:=kv k,val:=u }) c)) Γ):Ops P R N v0 H0 ops (⟨none,o,ty,ps,af,none⟩::lo) Kk fr H Γ :=
  cN_ rfl λa v m A Z O=>by
    have B:=(A.own _ (yac_ hi)).1;have L:=MapKept.run_getObj_map (P:=P) B;have hs:=MapKept.run_setObj_map (P:=P) (.map (es.modify i λy=>{ y with key:=kv k,val:=u }) c) B
    have F:(execOp a.eval ⟨none,o,ty,ps,af,none⟩).run P v.w=.ok .skip { v.w with heap:=v.w.heap.setIfInBounds b (.map (es.modify i λy=>{ y with key:=kv k,val:=u }) c) }:=by
      rcases V with rfl|rfl<;>simp[execOp,m.ev hx,m.ev X,m.ev T,Instr.mapUpdate,Y,L,I.ok _ _ _,U _,hs,Instr.keyThatStays,F,E,I.same]
    unfold Oper.wp;rw[F];have J:=MapKept.heap_set (o':=.map (es.modify i λy=>{ y with key:=kv k,val:=u }) c) B;obtain⟨W,G⟩:=gu_ (w':={ v.w with heap:=v.w.heap.setIfInBounds b (.map (es.modify i λy=>{ y with key:=kv k,val:=u }) c) }) A hi rfl rfl rfl (yae_ _) zai_ J.1 (λk M=>J.2 k M);exact C a _ m W (Z.trans G) (aB_ (G.le A) O)
theorem rp_ {es:Array MapEntry} {i:Nat} {e:MapEntry} {key val:Value} (x:es[i]? = some e) (v:e.key=key) (A:e.val=val):(es.modify i λy=>{ y with key:=key,val:=val })=es:=by
 apply yco_
 intro j;rw[yby_]
 by_cases m:i=j
 .subst m;rw[yaq_ rfl,x];simp only[yaX_];rw[<-v,<-A]
 rw[yaf_ m]
theorem ex_ {o:Op} {t kt Q:TypeId} {x y z:Operand} {b c:Nat} (n:Nat) {es:Array MapEntry} {q:List K} {k:K} (B:KeyT P kt kv) (C:o=.insert t x y z\/o=.mapUpdate t x y z) (F:∀ w,(underlying t).run P w=.ok (.map kt Q) w)
    (I:Fr.ev fr x=some (.map (some b))) (E:Fr.ev fr y=some (kv k)) (L:Fr.ev fr z=some (.bool true)) (hi:H[n]? = some (b,.map es c)) (A:SetE kv es q)
    (m:∀ es' c',SetE kv es' (if k∈q then q else q++[k])->Ops P R N v0 H0 ops lo Kk fr (H.set n (b,.map es' c')) Γ):Ops P R N v0 H0 ops (⟨none,o,ty,ps,af,none⟩::lo) Kk fr H Γ:=by
  by_cases v:k∈q
  . obtain⟨i,e,S,J,G,M,O⟩:=A.yes B v
    refine nf_ n B C F I E L hi O J G ?_;rw[rp_ J G M];exact m es c (by rw[yaq_ v];exact A)
  . exact aF_ n C F I E L hi (B.ok k) (A.no B v) (m _ _ (by rw[yaf_ v];exact A.push v c))
theorem eT_ {t kt U:TypeId} {x y:Operand} {A:Nat} {e:TypeId} {sz:Nat} {l:List (K×D)} {k:K} {Hm F:Hp} (J:KeyT P kt kv) (hm:cs_ kv cells e sz l A Hm) (Z:∀ w,(underlying t).run P w=.ok (.map kt U) w) (hz:∀ w,(zeroValue U).run P w=.ok (.slice none 0 0) w)
    (hx:Fr.ev fr x=some (.map (some A))) (X:Fr.ev fr y=some (kv k)) (hH:H.Perm (Hm++F)) (hN:Nat.blt d N.n=true)
    (L:∀ es c i st sv G Hr,MOpn kv cells e sz l A k es c i st Hr->ad_ e sz sv (lat l k).length ((lat l k).flatMap cells) G->Ops P R N v0 H0 ops lo Kk ((d,.tuple #[sv,.int .i64 st])::fr) ((A,.map es c)::(G++(Hr++F))) Γ) :
    Ops P R N v0 H0 ops (⟨some d,.mapEntry t x y,ty,ps,af,none⟩::lo) Kk fr H Γ:=by
  obtain⟨es,c,m,C,i,st,sv,G,Hr,p1,p2,p3,p4⟩:=hm.entry J k;refine cN_ rfl λa v E h2 h3 h4=>?_
  have V:H.Perm ((A,.map es c)::(G++(Hr++F))):=hH.trans (by
    have:=p1.append_right F;simpa [yap_] using this)
  have B:=h2.perm V;have I:=(B.own _ yau_).1;have S:=MapKept.run_getObj_map (P:=P) I
  have he:(execOp a.eval ⟨some d,.mapEntry t x y,ty,ps,af,none⟩).run P v.w=.ok (.value (.tuple #[sv,.int .i64 st])) { v.w with heap:=v.w.heap.setIfInBounds A (.map m C) }:=by
    rcases p4 with⟨O,rfl,rfl,rfl,rfl⟩|⟨j,z,O,q2,T,rfl,rfl,rfl⟩
    . have Q:=MapKept.run_setObj_map (P:=P) (.map (es.push ⟨kv k,.slice none 0 0,c⟩) (c+1)) I
      simp[execOp,E.ev hx,E.ev X,Instr.mapEntry,Z,S,J.ok _ _ _,O _,hz,Q,goInt]
    . have Q:=MapKept.run_setObj_map (P:=P) (.map m C) I
      simp[execOp,E.ev hx,E.ev X,Instr.mapEntry,Z,S,J.ok _ _ _,O _,Instr.keyThatStays,q2,T,J.same,sI_ q2 T,Q,goInt]
  unfold Oper.wp;rw[he];have Y:=MapKept.heap_set (o':=.map m C) I;obtain⟨W,M⟩:=gu_ (i:=0) (o':=.map m C) (w':={ v.w with heap:=v.w.heap.setIfInBounds A (.map m C) }) B rfl rfl rfl rfl (yae_ _) zai_ Y.1 (λk L=>Y.2 k L);simp only[ybI_]at W M;exact L m C i st sv G Hr p3 p2 _ _ (E.put hN) W (h3.trans (M.permL V.symm)) (aB_ (M.le B) h4)
theorem cH_ {t:TypeId} {x y z:Operand} {m c i:Nat} {e:TypeId} {sz:Nat} {l:List (K×D)} {k:K} {dd:D} {es:Array MapEntry} {st:Int} {sv:Value} {E Hr F:Hp} (J:MOpn kv cells e sz l m k es c i st Hr) (Z:ad_ e sz sv (lat (l++[(k,dd)]) k).length ((lat (l++[(k,dd)]) k).flatMap cells) E)
    (hx:Fr.ev fr x=some (.map (some m))) (Y:Fr.ev fr y=some (.int .i64 st)) (W:Fr.ev fr z=some sv) (O:H.Perm ((m,.map es c)::(E++(Hr++F))))
    (G:∀ H',cs_ kv cells e sz (l++[(k,dd)]) m H'->Ops P R N v0 H0 ops lo Kk fr (H'++F) Γ):Ops P R N v0 H0 ops (⟨none,.entryStore t x y z,ty,ps,af,none⟩::lo) Kk fr H Γ:=by
  obtain⟨H',V,q2⟩:=J.close dd sv E Z;refine cN_ rfl λa v C S h3 U=>?_;have A:=S.perm O;have B:=(A.own _ yau_).1;have T:=MapKept.run_getObj_map (P:=P) B;have hs:=MapKept.run_setObj_map (P:=P) (.map (es.modify i λy=>{ y with val:=sv }) c) B
  have he:(execOp a.eval ⟨none,.entryStore t x y z,ty,ps,af,none⟩).run P v.w=.ok .skip { v.w with heap:=v.w.heap.setIfInBounds m (.map (es.modify i λy=>{ y with val:=sv }) c) }:=by
    have X:=J.find;simp[execOp,C.ev hx,C.ev Y,C.ev W,Instr.entryStore,T,hs,asInt,asIntOf,X]
  unfold Oper.wp;rw[he];have M:=MapKept.heap_set (o':=.map (es.modify i λy=>{ y with val:=sv }) c) B;obtain⟨L,I⟩:=gu_ (i:=0) (o':=.map (es.modify i λy=>{ y with val:=sv }) c) (w':={ v.w with heap:=v.w.heap.setIfInBounds m (.map (es.modify i λy=>{ y with val:=sv }) c) }) A rfl rfl rfl rfl (yae_ _) zai_ M.1 (λk G=>M.2 k G);simp only[ybI_]at L I
  have Q:((m,Obj.map (es.modify i λy=>{ y with val:=sv }) c)::(E++(Hr++F))).Perm (H'++F):=by
    have:=(q2.append_right F).symm;simpa [yap_] using this
  exact G H' V _ _ C (L.perm Q) (h3.trans ((I.permL O.symm).subR λb B=>((Q.map Prod.fst).mem_iff).2 B)) (aB_ (I.le A) U)
def MOp (P:Program) (kt:TypeId) (kv:K->Value) (cells:D->List Value) (e:TypeId) (sz:Nat) (l:List (K×D)) (mb:Nat) (k:K) (es:Array MapEntry) (c:Nat) (sv:Value) (Hr:Hp):Prop :=
  (dh_ P kt (kv k) es.toList none/\sv=.slice none 0 0/\∀ d sv' Hk',ad_ e sz sv' (lat (l++[(k,d)]) k).length ((lat (l++[(k,d)]) k).flatMap cells) Hk'->∃ H',cs_ kv cells e sz (l++[(k,d)]) mb H'/\H'.Perm ((mb,.map (es.push ⟨kv k,sv',c⟩) (c+1))::(Hk'++Hr)))\/
  (∃ i x,dh_ P kt (kv k) es.toList (some (i,sv))/\es[i]? = some x/\x.key=kv k/\x.val=sv/\∀ d sv' Hk',ad_ e sz sv' (lat (l++[(k,d)]) k).length ((lat (l++[(k,d)]) k).flatMap cells) Hk'->∃ H',cs_ kv cells e sz (l++[(k,d)]) mb H'/\H'.Perm ((mb,.map (es.modify i λy=>{ y with key:=kv k,val:=sv' }) c)::(Hk'++Hr)))
theorem pu_ {y:Act->World->Prop} {kt:TypeId} {v:Nat} {e:TypeId} {sz:Nat} {l:List (K×D)} {x F:Hp} (G:KeyT P kt kv) (k:K) (hm:cs_ kv cells e sz l v x) (C:H.Perm (x++F))
    (h:∀ es c sv m Hr,ad_ e sz sv (lat l k).length ((lat l k).flatMap cells) m->MOp P kt kv cells e sz l v k es c sv Hr->Ok N v0 H0 y fr ((v,.map es c)::(m++(Hr++F))) Γ):Ok N v0 H0 y fr H Γ:=by
  obtain⟨es,c,sv,m,Hr,B,E,A⟩:=hm.open G k
  refine t_ (C.trans (by
    have:=B.append_right F;simpa [yap_] using this)) (h es c sv m Hr E A)
theorem fJ_ {t kt G:TypeId} {x y:Operand} {m c:Nat} {e:TypeId} {sz:Nat} {l:List (K×D)} {k:K} {es:Array MapEntry} {sv:Value} {Hr:Hp} (F:KeyT P kt kv) (I:MOp P kt kv cells e sz l m k es c sv Hr) (C:∀ w,(underlying t).run P w=.ok (.map kt G) w) (J:∀ w,(zeroValue G).run P w=.ok (.slice none 0 0) w)
    (E:Fr.ev fr x=some (.map (some m))) (B:Fr.ev fr y=some (kv k)) (i:Nat) (hi:H[i]? = some (m,.map es c)):Yld P N fr H Γ (.lookup t x y false) ty sv:=by
  have hm:∀ v,v.sat H->Z_ Γ v->v.w.heap[m]? = some (.map es c):=λv h _=>(h.own _ (yac_ hi)).1
  rcases I with⟨A,rfl,_⟩|⟨i,z,A,_⟩
  . exact hj_ C J E B hm (F.ok k) A
  . exact hk_ C E B hm (F.ok k) A
theorem ju_ {o:Op} {t kt V:TypeId} {x y z:Operand} {A c:Nat} {e:TypeId} {sz:Nat} {l:List (K×D)} {k:K} {dd:D} {es:Array MapEntry} {sv m:Value} {B Hr F:Hp} (L:KeyT P kt kv) (W:MOp P kt kv cells e sz l A k es c sv Hr) (Q:ad_ e sz m (lat (l++[(k,dd)]) k).length ((lat (l++[(k,dd)]) k).flatMap cells) B)
    (v:o=.insert t x y z\/o=.mapUpdate t x y z) (S:∀ w,(underlying t).run P w=.ok (.map kt V) w) (T:Fr.ev fr x=some (.map (some A))) (O:Fr.ev fr y=some (kv k)) (M:Fr.ev fr z=some m) (X:H.Perm ((A,.map es c)::(B++(Hr++F))))
    (J:∀ H',cs_ kv cells e sz (l++[(k,dd)]) A H'->Ops P R N v0 H0 ops lo Kk fr (H'++F) Γ):Ops P R N v0 H0 ops (⟨none,o,ty,ps,af,none⟩::lo) Kk fr H Γ:=by
  refine t_ X ?_;rcases W with⟨G,_,C⟩|⟨i,q,G,Y,U,_,C⟩
  . obtain⟨H',E,I⟩:=C dd m B Q
    refine aF_ 0 v S T O M rfl (L.ok k) G ?_;simp only[ybI_];exact t_ zbk_ (J H' E)
  . obtain⟨H',E,I⟩:=C dd m B Q
    refine nf_ 0 L v S T O M rfl G Y U ?_;simp only[ybI_];exact t_ zbk_ (J H' E)
theorem eb_ {b:Nat×Obj} {O Q F:Hp} (h:H.Perm ((b::(O++Q))++F)):H.Perm (b::(O++(Q++F))):=by simpa [yap_] using h
theorem be_ {b:Nat×Obj} {F:Hp} (h:H.Perm ([b]++F)):H.Perm (b::F):=h
theorem X_ {b:Nat×Obj} {F m:Hp} (h:H.Perm ([b]++F)) (v:F.Perm m):H.Perm (b::m):=List.Perm.trans h (v.cons b)
theorem os_ {fn:Func} {m:Ending->World->Prop} {c:Code} (h:Run P (bodyPost P fn m) N v0 H0 c [] fr H Γ):Run P (bodyPost P fn m) N v0 H0 (.scope c) [] fr H Γ :=
  λa v B y C A=>wp_scope_straight (wp_mono (h a v B y C A) λe a w x=>by cases e<;>exact x)
theorem ou_ {c:Nat} (h:Fin P R N v0 H0 Kk fr H Γ):Run P R N v0 H0 (.label c) Kk fr H Γ :=
  λa v y m A x=>wp_label (h a v y m A x)
end ops
end Go.Sx
namespace Go.Vs
open Go Go.Sx
structure Rul where
  f:Str
  s:Str
  r:Str
  deriving DecidableEq
structure Itm where
  r:Str
  i:Nat
  j:Nat
  deriving DecidableEq
def Rul.cells (x:Rul):List Value:=[str x.f,str x.s,str x.r]
def Itm.cells (x:Itm):List Value:=[str x.r,.int .i64 x.i,.int .i64 x.j]
def addI {α:Type} [DecidableEq α] (y:α) (l:List α):List α:=if y∈l then l else l++[y]
theorem addI_mem {α:Type} [DecidableEq α] {y z:α} {l:List α}:z∈addI y l↔z∈l\/z=y:=by
 unfold addI
 by_cases h:y∈l
 .rw[yaq_ h];exact⟨.inl,λq=>q.elim id λe=>e▸h⟩
 rw[yaf_ h,yag_,yak_]
section
variable {R:List Rul} {U:List Str} {n:Nat}
def Pr1 (n:Nat) (x:Itm) (T0:List Itm) (L:List Rul) (T:List Itm):Prop:=∀ y∈L,∀ e,x.j<=e->e<=n->(⟨y.s,x.j,e⟩:Itm)∈T0->(⟨y.r,x.i,e⟩:Itm)∈T
def Pr2 (x:Itm) (T0:List Itm) (L:List Rul) (T:List Itm):Prop:=∀ y∈L,∀ b,b<=x.i->(⟨y.f,b,x.i⟩:Itm)∈T0->(⟨y.r,b,x.j⟩:Itm)∈T
theorem Pr1.mono {x:Itm} {d T m:List Itm} {L:List Rul} (h:Pr1 n x d L T) (A:∀ y∈T,y∈m):Pr1 n x d L m:=λy B e C v E=>A _ (h y B e C v E)
theorem Pr2.mono {x:Itm} {d T m:List Itm} {L:List Rul} (h:Pr2 x d L T) (A:∀ y∈T,y∈m):Pr2 x d L m:=λy v b B C=>A _ (h y v b B C)
end
end Go.Vs
namespace Go.Sx
open Go Go.Vs
def kH_ (T:List Itm) (r:Str):List Value:=(List.range 4225).map λk=>.bool (decide ((⟨r,k / 65,k%65⟩:Itm)∈T))
theorem mQ_ (T:List Itm) (r:Str):(kH_ T r).length=4225:=by simp[kH_]
theorem pl_ (T:List Itm) (r:Str) {k:Nat} (m:k<4225):(kH_ T r)[k]? = some (.bool (decide ((⟨r,k / 65,k%65⟩:Itm)∈T))):=by
  unfold kH_;rw[yaH_,List.getElem?_range m];rfl
theorem wu_ {i j:Nat} (m:j<=64):(i*65+j) / 65=i/\(i*65+j)%65=j:=by omega
theorem ww_ (T:List Itm) (r:Str) {i j:Nat} (hi:i<=64) (x:j<=64):(kH_ T r)[i*65+j]? = some (.bool (decide ((⟨r,i,j⟩:Itm)∈T))):=by
  obtain⟨v,m⟩:=wu_ (i:=i) x;rw[pl_ T r zaa_,v,m]
theorem mP_ {T:List Itm} {r q:Str} {i j:Nat} (h:q≠r):kH_ (addI ⟨r,i,j⟩ T) q=kH_ T q:=by
  unfold kH_
  apply ybX_
  intro k _
  congr 1
  apply ydc_.2
  rw[addI_mem];exact⟨λq=>q.elim id λe=>absurd (yah_ Itm.r e) h,.inl⟩
theorem wv_ (T:List Itm) (r:Str) {i j:Nat} (hi:i<=64) (v:j<=64):(kH_ T r).set (i*65+j) (.bool true)=kH_ (addI ⟨r,i,j⟩ T) r:=by
 apply ybx_
 intro k;rw[ybm_,mQ_];obtain⟨x,y⟩:=wu_ (i:=i) v
 by_cases m:i*65+j=k
 .subst m
  rw[yaq_ rfl,yaq_ zaa_,ww_ _ _ hi v,yaE_ (addI_mem.2 (.inr rfl))]
 rw[yaf_ m]
 by_cases hl:k<4225
 .rw[pl_ _ _ hl,pl_ _ _ hl]
  congr 2
  apply ydc_.2
  rw[addI_mem];refine⟨.inl,λq=>q.elim id λe=>?_⟩;simp only[Itm.mk.injEq,ydt_]at e;omega
 rw[ybu_ (by rw[mQ_];omega),ybu_ (by rw[mQ_];omega)]
def yR_ (ks:List (Str×Nat)) (k:Str):Option Nat:=(ks.find? λp=>decide (p.1=k)).map (·.2)
def tptr (o:Option Nat):Value:=.pointer (o.map λb=>⟨b,0,none⟩)
def ph_ (tt:TypeId) (T:List Itm) (p:Str×Nat):Nat×Obj:=(p.2,.cells (kH_ T p.1).toArray tt (0,0))
structure TabE (ks:List (Str×Nat)) (T:List Itm) (es:Array MapEntry):Prop where
  keys:es.toList.map (·.key)=(ks.map (·.1)).map str
  vals:es.toList.map (·.val)=ks.map λp=>tptr (some p.2)
  nd:(ks.map (·.1)).Nodup
  all:∀ x∈T,x.r∈ks.map (·.1)
def TabO (tt mb:Nat) (ks:List (Str×Nat)) (T:List Itm) (H:Hp):Prop:=∃ es c,H=(mb,.map es c)::ks.map (ph_ tt T)/\TabE ks T es
theorem on_ {ks:List (Str×Nat)} {k:Str} {b:Nat} (h:yR_ ks k=some b):(k,b)∈ks:=by
  unfold yR_ at h;rw[ycC_]at h;obtain⟨p,v,rfl⟩:=h;have m:=List.find?_some v;have x:=List.mem_of_find?_eq_some v;simp only[ybo_]at m;subst m;exact x
section
variable {P:Program} {kt:TypeId} {tt mb:Nat} {ks:List (Str×Nat)} {T:List Itm} {es:Array MapEntry} {H:Hp}
theorem TabO.at (h:TabO tt mb ks T H) {k:Str} {b:Nat} (C:yR_ ks k=some b):∃ Hr,H.Perm ((b,.cells (kH_ T k).toArray tt (0,0))::Hr)/\
    ∀ i j,i<=64->j<=64->∃ H',TabO tt mb ks (addI ⟨k,i,j⟩ T) H'/\((b,Obj.cells ((kH_ T k).set (i*65+j) (.bool true)).toArray tt (0,0))::Hr).Perm H':=by
  obtain⟨es,c,rfl,hE⟩:=h;have hm:=on_ C;obtain⟨v,y,rfl⟩:=List.append_of_mem hm;refine⟨(mb,.map es c)::(v++y).map (ph_ tt T),?_,λi j hi G=>?_⟩
  . rw[yaw_,yaF_,yaw_]
    exact (List.Perm.cons _ ybM_).trans (.swap _ _ _)
  . refine⟨(mb,.map es c)::(v++(k,b)::y).map (ph_ tt (addI ⟨k,i,j⟩ T)),⟨es,c,rfl,hE.keys,hE.vals,hE.nd,λx B=>?_⟩,?_⟩
    . rcases addI_mem.1 B with B|rfl
      . exact hE.all x B
      . simp
    . have m:=hE.nd
      rw[yaw_,yaF_,yaY_,ybr_]at m
      have E:v.map (ph_ tt (addI ⟨k,i,j⟩ T))=v.map (ph_ tt T):=ybX_ λp A=>by
        unfold ph_;rw[mP_ λe=>m.2.2 p.1 (yaI_ A) k zai_ e]
      have I:y.map (ph_ tt (addI ⟨k,i,j⟩ T))=y.map (ph_ tt T):=ybX_ λp A=>by
        unfold ph_;rw[mP_ λe=>m.2.1.1 (yas_.2 ⟨p,A,e⟩)]
      rw[wv_ T k hi G,yaw_,yaw_,yaF_,E,I];exact ((List.Perm.cons _ ybM_).trans (.swap _ _ _)).symm
end
section ops
variable {P:Program} {N:Nf} {v0:Vw} {H0:Hp} {R:Exit->Act->World->Prop} {K:List Kt} {fr:Fr} {H F:Hp} {Γ:List Fct}
variable {ops:Array Oper} {l:List Oper} {d:Nat} {ty:TypeId} {ps:String} {af:Array Edge}
variable {tt mb:Nat} {ks:List (Str×Nat)} {T:List Itm} {Hx:Hp}
end ops
end Go.Sx
namespace Go.Sx
open Go Go.Vs
structure IntE {K:Type} (kv:K->Value) (es:Array MapEntry) (ks:List K) (vs:List Int):Prop where
  keys:es.toList.map (·.key)=ks.map kv
  vals:es.toList.map (·.val)=vs.map λn=>Value.int .i64 n
  nd:ks.Nodup
section
variable {P:Program} {K:Type} [DecidableEq K] {kv:K->Value} {kt:TypeId} {es:Array MapEntry} {ks:List K} {vs:List Int}
theorem IntE.nil:IntE kv #[] ([]:List K) []:=⟨rfl,rfl,ybZ_⟩
theorem IntE.len (h:IntE kv es ks vs):vs.length=ks.length:=by
  have m:=yah_ List.length h.keys;have v:=yah_ List.length h.vals;simp only[yaO_]at m v;omega
theorem IntE.yes (A:KeyT P kt kv) (h:IntE kv es ks vs) {k:K} (y:k∈ks):∃ (i:Nat) (n:Int),ks[i]? = some k/\vs[i]? = some n/\dh_ P kt (kv k) es.toList (some (i,.int .i64 n)):=by
  obtain⟨i,hi⟩:=yaU_ y
  have v:i<es.toList.length:=by
    have:=(yab_.1 hi).1;have e:=yah_ List.length h.keys;simp only[yaO_]at e;omega
  have x:=yaa_ v;have m:=yah_ (λl=>l[i]?) h.vals;simp only[yaH_,x,yaX_]at m;cases hn:vs[i]? with
  | none=>rw[hn]at m;simp at m
  | some n =>
    rw[hn]at m;simp only[yaX_,yam_]at m;refine⟨i,n,hi,hn,?_⟩;have:=A.sf k es.toList ks i _ h.keys h.nd hi x;rwa [m]at this
theorem IntE.no (m:KeyT P kt kv) (h:IntE kv es ks vs) {k:K} (v:k ∉ ks):dh_ P kt (kv k) es.toList none:=m.nf k es.toList ks h.keys v
theorem IntE.push (h:IntE kv es ks vs) {k:K} (v:k ∉ ks) (n:Int) (c:Nat):IntE kv (es.push ⟨kv k,.int .i64 n,c⟩) (ks++[k]) (vs++[n]):=by
  refine⟨by simp[h.keys],by simp[h.vals],?_⟩;rw[yaY_];exact⟨h.nd,by simp,λa x b m e=>by simp at m;subst m;subst e;exact v x⟩
end
section ops
variable {P:Program} {N:Nf} {v0:Vw} {H0:Hp} {R:Exit->Act->World->Prop} {Kk:List Kt} {fr:Fr} {H:Hp} {Γ:List Fct}
variable {ops:Array Oper} {lo:List Oper} {d:Nat} {ty:TypeId} {ps:String} {af:Array Edge}
variable {K:Type} [DecidableEq K] {kv:K->Value}
theorem kP_ {t kt Q:TypeId} {x y:Operand} {G c:Nat} {es:Array MapEntry} {ks:List K} {vs:List Int} {k:K} {F:Hp} (B:KeyT P kt kv) (J:∀ w,(underlying t).run P w=.ok (.map kt Q) w) (X:∀ w,(zeroValue Q).run P w=.ok (.int .i64 0) w) (L:Fr.ev fr x=some (.map (some G))) (I:Fr.ev fr y=some (kv k))
    (hE:IntE kv es ks vs) (S:H.Perm ([(G,.map es c)]++F)) (O:Nat.blt d N.n=true)
    (M:∀ (r:Bool) (n:Int),decide (k∈ks)=r->(r=true->∃ i:Nat,ks[i]? = some k/\vs[i]? = some n)->Ops P R N v0 H0 ops lo Kk ((d,.tuple #[.int .i64 n,.bool r])::fr) H Γ):Ops P R N v0 H0 ops (⟨some d,.lookup t x y true,ty,ps,af,none⟩::lo) Kk fr H Γ:=by
  have hm:∀ v:Vw,v.sat H->v.w.heap[G]? = some (.map es c):=λv h=>(h.own _ (S.mem_iff.2 (yal_ _ (yak_.2 rfl)))).1
  by_cases m:k∈ks
  . obtain⟨i,n,W,U,V⟩:=hE.yes B m
    refine e_ (x:=.tuple #[.int .i64 n,.bool true]) (λa v A E T _ _ _=>?_) O (M true n (yaE_ m) λ_=>⟨i,W,U⟩);have C:=MapKept.run_getObj_map (P:=P) (hm v E);simp[execOp,A.ev L,A.ev I,Instr.lookup,J,C,B.ok _ _ _,V _]
  . refine e_ (x:=.tuple #[.int .i64 0,.bool false]) (λa v A E T _ _ _=>?_) O (M false 0 (ybi_ m) λq=>by cases q)
    have C:=MapKept.run_getObj_map (P:=P) (hm v E);simp[execOp,A.ev L,A.ev I,Instr.lookup,J,C,B.ok _ _ _,hE.no B m _,X]
theorem nj_ {o:Op} {t kt I:TypeId} {x y z:Operand} {v c:Nat} (j:Nat) {es:Array MapEntry} {ks:List K} {vs:List Int} {k:K} {n:Int} (B:KeyT P kt kv) (C:o=.insert t x y z\/o=.mapUpdate t x y z) (F:∀ w,(underlying t).run P w=.ok (.map kt I) w)
    (G:Fr.ev fr x=some (.map (some v))) (E:Fr.ev fr y=some (kv k)) (J:Fr.ev fr z=some (.int .i64 n)) (hi:H[j]? = some (v,.map es c)) (hE:IntE kv es ks vs) (A:k ∉ ks)
    (m:∀ es' c',IntE kv es' (ks++[k]) (vs++[n])->Ops P R N v0 H0 ops lo Kk fr (H.set j (v,.map es' c')) Γ):Ops P R N v0 H0 ops (⟨none,o,ty,ps,af,none⟩::lo) Kk fr H Γ :=
  aF_ j C F G E J hi (B.ok k) (hE.no B A) (m _ _ (hE.push A n c))
end ops
def iot (n:Nat):List Int:=(List.range n).map Int.ofNat
theorem zY_ {n i:Nat} {m:Int} (h:(iot n)[i]? = some m):m=i:=by
  unfold iot at h;rw[yaH_]at h;cases hq:(List.range n)[i]? with
  | none=>rw[hq]at h;simp at h
  | some j =>
    rw[hq]at h;obtain⟨x,v⟩:=yab_.1 hq;simp at v h
    omega
theorem xG_ (n:Nat):iot (n+1)=iot n++[(n:Int)]:=by simp[iot,List.range_succ]
end Go.Sx
namespace Go.Vs
open Go Go.Sx
section
variable {p:List Pc} {A:List Str} {fm:List (Ky×Int)} {n:Nat} {l l' l3:List Stp} {s t:Stp} {f:Fc} {z:Pc} {i j k m:Nat}
theorem qk_ (hl:l3=me_ l s) (hE:Eng p A l) (d:Cor p A l s.rule s.fact s.piece s.frm):Eng p A l3:=by rw[hl];exact hE.add d
theorem qi_ (hl:l3=me_ l s):l <+: l3:=by rw[hl];exact yw_ l s
theorem qj_ (hl:l3=me_ l s):s.fact∈fcs l3:=by rw[hl];exact yx_ l s
theorem qz_ (h:(l.take n)[i]? = some s):l[i]? = some s:=by
  have hi:=(yab_.1 h).1;simp at hi
  rw[yaM_ zaa_]at h;exact h
def iF_ (p:List Pc) (row:List Int) (i:Nat) (Q:Pc->Prop):Prop:=∀ j,j<i->∀ m,row[j]? = some m->∀ x,p[m.toNat]? = some x->Q x
theorem iF_.zero {row:List Int} {Q:Pc->Prop}:iF_ p row 0 Q:=λj d=>by omega
theorem iF_.step {row:List Int} {Q y:Pc->Prop} (h:iF_ p row i Q) (hm:∀ x,Q x->y x) (C:row[i]? = some (k:Int)) (E:p[k]? = some z) (B:y z):iF_ p row (i+1) y:=λj F m d x v=>by
 by_cases e:j=i
 .subst e
  rw[C]at d;cases d;simp only[ybw_]at v;rw[E]at v;cases v;exact B
 exact hm x (h j zaa_ m d x v)
theorem iF_.done {K:Ky} {Q:Pc->Prop} (h:iF_ p (lat fm K) i Q) (hi:¬ (i:Int)<((lat fm K).length:Int)):Und p fm K Q:=λm hm x v=>by
  obtain⟨j,d⟩:=yaU_ hm;exact h j zaI_ m d x v
theorem Und.mono {K:Ky} {Q v:Pc->Prop} (h:Und p fm K Q) (hm:∀ x,Q x->v x):Und p fm K v:=λm d x y=>hm x (h m d x y)
theorem known_at {g:Fc} {c:Int} (h:∃ q:Nat,(fcs l)[q]? = some g/\(iot l.length)[q]? = some c):∃ q:Nat,c=q/\At l q g:=by
  obtain⟨q,d,v⟩:=h;refine⟨q,zY_ v,?_⟩;unfold fcs at d;rw[yaH_]at d;cases hq:l[q]? with
  | none=>rw[hq]at d;simp at d
  | some s=>rw[hq]at d;exact⟨s,hq,by simpa using d⟩
theorem cor3 (d:∀ z∈p,z.kind=1) (v:p[i]? = some z) (x:Ky.mk 1 [] f.b=⟨1,[],z.a⟩) (h:At l n (Q_ f.a f.b)):Cor p A l 3 (Q_ f.a z.c) i [(n:Int)]:=by
  injection x with _ _ e
  rw[e]at h;exact .r3 v (d z (yac_ v)) h
def AtI (al:List Str) (i:Nat) (Q:Str->Prop):Prop:=∀ j,j<i->∀ a,al[j]? = some a->Q a
theorem AtI.zero {al:List Str} {Q:Str->Prop}:AtI al 0 Q:=λj d=>by omega
theorem AtI.step {al:List Str} {Q d:Str->Prop} {a:Str} (h:AtI al i Q) (hm:∀ x,Q x->d x) (B:al[i]? = some a) (y:d a):AtI al (i+1) d:=λj C b v=>by
 by_cases e:j=i
 .subst e;rw[B]at v;cases v;exact y
 exact hm b (h j zaa_ b v)
theorem AtI.done {al:List Str} {Q:Str->Prop} (h:AtI al i Q) (hi:¬ (i:Int)<(al.length:Int)):∀ a∈al,Q a:=λa v=>by
  obtain⟨j,d⟩:=yaU_ v;exact h j zaI_ a d
def AtQ (l:List Stp) (a:Str):Prop:=Q_ a a∈fcs l/\Q_ a [42]∈fcs l
theorem AtQ.mono {a:Str} (d:l <+: l') (h:AtQ l a):AtQ l' a:=⟨fC_ d h.1,fC_ d h.2⟩
theorem LoopP.start (h:Eng p A l) (d:∀ a∈A,AtQ l a):LoopP p A 0 l:=⟨h,ycg_ _,d,λi t hi=>by omega⟩
end
structure PrfL (p:List Pc) (A:List Str) (f:Fc) (L:List Stp):Prop where
  cor:∀ (n:Nat) s,L[n]? = some s->Cor p A (L.take n) s.rule s.fact s.piece s.frm
  last:(fcs L).getLast? = some f
  nd:(fcs L).Nodup
theorem wR_ {p:List Pc} {A:List Str} {f:Fc} {l:List Stp} {k:Nat} (hE:Eng p A l) (h:At l k f):PrfL p A f (l.take (k+1)):=by
 obtain⟨s,v,rfl⟩:=h;have y:=(yab_.1 v).1;refine⟨λn t d=>?_,?_,?_⟩
 .have x:=(yab_.1 d).1
  simp at x
  rw[yaM_ zaa_]at d;rw[ydl_,ybn_ zaa_];exact hE.cor n t d
 .rw[yao_,v,yaC_,dL_];simp[fcs]
 have:fcs (l.take (k+1))=(fcs l).take (k+1):=by simp[fcs,ydr_]
 rw[this];exact hE.nd.sublist (List.take_sublist _ _)
theorem Fnd.nil:Fnd [] []:=⟨λk m h=>by simp at h,λz d=>by simp at d,by simp⟩
theorem ii_ {p:List Pc} {i j:Nat} {x:Pc} (h:(p.take i)[j]? = some x):(p.take (i+1))[j]? = some x:=by
  have d:=(yab_.1 h).1;simp at d
  rw[yaM_ zaa_]at h ⊢;exact h
theorem Fnd.new {p:List Pc} {fm:List (Ky×Int)} {i:Nat} {x:Pc} (h:Fnd (p.take i) fm) (B:p[i]? = some x):Fnd (p.take (i+1)) (fm++[(⟨1,[],x.a⟩,(i:Int))]):=by
 have hi:=(yab_.1 B).1;have e:p.take (i+1)=p.take i++[x]:=by rw[yao_,B];rfl
 have v:(p.take (i+1))[i]? = some x:=by rw[yaM_ zaa_];exact B
 refine⟨λk m hm=>?_,λz d=>?_,?_⟩
 .rcases yag_.1 hm with hm|hm
  .obtain⟨j,y,C,F,E⟩:=h.snd k m hm
   exact⟨j,y,C,ii_ F,E⟩
  rw[yak_]at hm;cases hm;exact⟨i,x,rfl,v,rfl⟩
 .rw[e]at d
  rcases yag_.1 d with d|d
  .obtain⟨j,y,C,F,E⟩:=h.all z d
   exact⟨j,y,ii_ C,F,yal_ _ E⟩
  rw[yak_]at d;subst d;exact⟨i,z,v,rfl,by simp⟩
 have G:=h.len;simp only[yat_,yaj_,yai_,yaB_]at G ⊢;omega
theorem Fnd.old {p:List Pc} {fm:List (Ky×Int)} {i:Nat} {x:Pc} (h:Fnd (p.take i) fm) (E:p[i]? = some x) (I:∃ y∈p.take i,y.zf=x.zf):Fnd (p.take (i+1)) fm:=by
 have hi:=(yab_.1 E).1;have e:p.take (i+1)=p.take i++[x]:=by rw[yao_,E];rfl
 refine⟨λk m hm=>?_,λz d=>?_,?_⟩
 .obtain⟨j,y,v,C,B⟩:=h.snd k m hm
  exact⟨j,y,v,ii_ C,B⟩
 .rw[e]at d
  rcases yag_.1 d with d|d
  .obtain⟨j,y,v,C,B⟩:=h.all z d
   exact⟨j,y,ii_ v,C,B⟩
  rw[yak_]at d;subst d;obtain⟨w,G,F⟩:=I;obtain⟨j,y,v,C,B⟩:=h.all w G;exact⟨j,y,ii_ v,C.trans F,(tB_ F).1▸B⟩
 have H:=h.len;simp only[yat_]at H ⊢;omega
theorem wA_ {p:List Pc} {ks:List Pc} {i:Nat} {x:Pc} (h:∀ z,z∈ks↔∃ y∈p.take i,y.zf=z) (B:p[i]? = some x):∀ z,z∈ks++[x.zf]↔∃ y∈p.take (i+1),y.zf=z:=λz=>by
 have v:p.take (i+1)=p.take i++[x]:=by rw[yao_,B];rfl
 rw[v,yag_,h z,yak_];constructor
 .rintro (⟨y,d,e⟩|rfl)
  .exact⟨y,by simp[d],e⟩
  exact⟨x,by simp,rfl⟩
 rintro ⟨y,d,e⟩;rcases yag_.1 d with d|d
 .exact .inl ⟨y,d,e⟩
 rw[yak_]at d;subst d;exact .inr e.symm
theorem wz_ {p:List Pc} {ks:List Pc} {i:Nat} {x:Pc} (h:∀ z,z∈ks↔∃ y∈p.take i,y.zf=z) (B:p[i]? = some x) (hm:x.zf∈ks):∀ z,z∈ks↔∃ y∈p.take (i+1),y.zf=z:=λz=>by
 have v:p.take (i+1)=p.take i++[x]:=by rw[yao_,B];rfl
 rw[h z,v];constructor
 .rintro ⟨y,d,e⟩;exact⟨y,by simp[d],e⟩
 rintro ⟨y,d,e⟩;rcases yag_.1 d with d|d
 .exact⟨y,d,e⟩
 rw[yak_]at d;subst d;rw[<-e];exact (h _).1 hm
end Go.Vs
namespace Go.Sx
open Go
def wY_ (b:Nat) (F:Value->List Value) (T:TypeId):Fct where
  p:=λv=>v.im b/\∃ u,v.w.heap[b]? = some (.cells (F u).toArray T (0,0))
  mono:=λv v' h hp=>⟨h.imUp b hp.1,by rw[h.block b hp.1];exact hp.2⟩
section
variable {P:Program} {N:Nf} {v0:Vw} {H0:Hp} {R:Exit->Act->World->Prop} {K:List Kt} {fr:Fr} {H Hs:Hp} {Γ Γs:List Fct}
variable {ops:Array Oper} {d:Nat} {ty:TypeId} {ps:String} {af:Array Edge} {fuel:Nat} {listed:Array Bool}
theorem ux_ {t:TypeId} {x:Operand} {b off:Nat} {F:Value->List Value} {T:TypeId} {u:Value} (y:∀ w,(isAgg t).run P w=.ok false w) (E:Fr.ev fr x=some (.pointer (some ⟨b,off,none⟩))) (m:∀ v,v.sat H->Z_ Γ v->(wY_ b F T).p v) (C:∀ z,(F z)[off]? = some u):Yld P N fr H Γ (.load t x) ty u :=
  eN_ E λv A B=>bQ_ y (by
    obtain⟨_,z,G⟩:=m v A B;have:=C z;simp only[World.cell?,G,yba_];simpa using this)
theorem jQ_ {b:Nat} {F:Value->List Value} {T:TypeId} {u:Value} {M:Hp} (G:H.Perm ([(b,.cells (F u).toArray T (0,0))]++(Hs++M))) (I:∀ v,v.sat H->Z_ Γ v->Z_ Γs v):∀ v,v.sat H->Z_ Γ v->SW Hs (wY_ b F T::Γs) v.w:=λv C J=>by
 have A:=C.perm G;have E:=A.own (b,.cells (F u).toArray T (0,0)) zai_;have m:=A.nodup;simp only[yav_,ybC_,yaF_,ybr_]at m
 have L:(⟨λc=>v.im c\/c=b,v.w,v.sl⟩:Vw).sat Hs:=by
   refine⟨λp x=>⟨(A.own p zbD_).1,λhi=>?_⟩,?_,λc y=>?_⟩
   . rcases hi with hi|hi
     . exact (A.own p zbD_).2 hi
     . exact m.1 (by rw[<-hi];exact yaI_ zbD_)
   . have:=m.2;rw[yaw_,yaY_]at this;exact this.1
   . rcases y with y|y
     . exact C.lt c y
     . rw[y];exact (yaD_.1 E.1).1
 have B:v.le ⟨λc=>v.im c\/c=b,v.w,v.sl⟩:=⟨λc h=>.inl h,λ_ _=>rfl,rfl⟩;exact⟨⟨λc=>v.im c\/c=b,v.w,v.sl⟩,rfl,L,⟨.inr rfl,u,E.1⟩,aB_ B (I v C J)⟩
theorem kb_ {b:Nat×Obj} {F G Hx:Hp} (m:Hx.Perm ([b]++F)) (v:F.Perm (Hs++G)):Hx.Perm ([b]++(Hs++G)):=m.trans (v.append_left [b])
theorem uO_ {m:Nat} (f:Fct) (Hs:Hp) (hm:P.follows .mixedOrders=true) (h:Any P R N v0 H0 ops Hs (f::Γ) ops.size (Array.replicate ops.size false) K fr H Γ):Run P R N v0 H0 (.region m ops true) K fr H Γ:=mW_ Hs (f::Γ) hm h
theorem yr_ [NoPan R] (i:Nat) {m:Oper} {x:Value} (hi:ops[i]? = some m) (L:Region.noSelect ops=true) (E:Region.free .any ops listed i=true) (G:(Region.ready .any ops listed).contains i=true)
    (C:m.dst=some d) (O:Nat.blt d N.n=true) (F:∀ a,Fr.sat N fr a->YieldsIf P ops (SW Hs Γs) m x a) (J:∀ v,v.sat H->Z_ Γ v->SW Hs Γs v.w)
    (h:Any P R N v0 H0 ops Hs Γs fuel (listed.setIfInBounds i true) K ((d,x)::fr) H Γ):Any P R N v0 H0 ops Hs Γs (fuel+1) listed K fr H Γ :=
  λa v B y I A=>wpAnyH_take hi L E G (λc a w M=>ip_ K M) (F a B) (J v y A) (by
    rw[C];exact h _ v (B.put O) y I A)
def SqW (P:Program) (R:Exit->Act->World->Prop) (N:Nf) (v0:Vw) (H0:Hp) (ops:Array Oper) (Hs:Hp) (Γs:List Fct) (is:List Nat) (fuel:Nat) (listed:Array Bool) (K:List Kt) (fr:Fr) (H:Hp) (Γ:List Fct):Prop :=
  (Region.noSelect ops&&gt_ ops listed is)=true->(∀ v,v.sat H->Z_ Γ v->SW Hs Γs v.w)->Any P R N v0 H0 ops Hs Γs (fuel+is.length) listed K fr H Γ
theorem AF_ (fuel:Nat) (m:List Nat) (x:(Region.noSelect ops&&gt_ ops listed m)=true) (y:∀ v,v.sat H->Z_ Γ v->SW Hs Γs v.w) (h:SqW P R N v0 H0 ops Hs Γs m fuel listed K fr H Γ):Any P R N v0 H0 ops Hs Γs (fuel+m.length) listed K fr H Γ:=h x y
theorem ze_ (h:Any P R N v0 H0 ops Hs Γs fuel listed K fr H Γ):SqW P R N v0 H0 ops Hs Γs [] fuel listed K fr H Γ:=λ_ _=>h
theorem dN_ [NoPan R] {i:Nat} {y:List Nat} {A:Op} {x:Value} (hi:ops[i]? = some ⟨some d,A,ty,ps,af,none⟩) (E:Yld P N fr Hs Γs A ty x) (J:Nat.blt d N.n=true)
    (h:SqW P R N v0 H0 ops Hs Γs y fuel (listed.setIfInBounds i true) K ((d,x)::fr) H Γ):SqW P R N v0 H0 ops Hs Γs (i::y) fuel listed K fr H Γ:=λC m=>by
  obtain⟨F,L,I,B⟩:=jS_ C;exact yr_ i hi F L I rfl J (λa G=>.inl ⟨rfl,λw ⟨v,e,k1,k2⟩=>by subst e;exact E a v G k1 k2 (some d) ps af⟩) m (h B m)
theorem iZ_ (B:∀ v,v.sat H->Z_ Γ v->SW Hs Γs v.w) (h:Any P R N v0 H0 ops Hs Γs fuel listed K fr H Γ):Ok N v0 H0 (Nx P R ops Hs Γs fuel listed K) fr H Γ :=
  λa v y m A x=>⟨B v m x,h a v y m A x⟩
end
end Go.Sx
namespace Go.Sx
open Go Go.Vs
section
variable {P:Program} {N:Nf} {v0:Vw} {H0:Hp} {fr:Fr} {H:Hp} {Γ:List Fct}
variable {K D:Type} [DecidableEq K] {kv:K->Value} {cells:D->List Value}
end
end Go.Sx
namespace Go.Sx
open Go
section
variable {P:Program} {N:Nf} {v0:Vw} {H0:Hp} {R:Exit->Act->World->Prop} {K:List Kt} {fr:Fr} {H F:Hp} {Γ:List Fct} {ops:Array Oper} {l:List Oper} {d:Nat} {ty:TypeId} {ps:String} {af:Array Edge} {e:TypeId} {sz n:Nat} {sv:Value} {xs:List Value} {Hr:Hp}
theorem sE_ {t kt G:TypeId} {x:Operand} {k:IntKind} {m:Int} (B:∀ w,(underlying t).run P w=.ok (.map kt G) w) (E:Fr.ev fr x=some (.int k m)) (C:Nat.blt d N.n=true) (y:∀ b,Ops P R N v0 H0 ops l K ((d,.map (some b))::fr) ((b,.map #[] 0)::H) Γ) :
    Ops P R N v0 H0 ops (⟨some d,.makeMap t (some x),ty,ps,af,none⟩::l) K fr H Γ :=
  fd_ (x:=λb=>.map (some b)) C (λa v A _ _=>by simp[execOp,Instr.makeMap,newObj,B,A.ev E,asInt,asIntOf];rfl) y
theorem rh_ {x y:Operand} {t C:TypeId} {by':Nat} {k kn:IntKind} (E:Elt P t e sz by') (G:P.underlying C=some (.int kn)) (Q:Fr.ev fr x=some (.slice none 0 0)) (L:Fr.ev fr y=some (.int k (n:Int))) (O:0<n) (X:n*by'<=140737488355328) (m:n<=maxLen) (T:Nat.blt d N.n=true)
    (S:∀ (y:Nat×Array Value) (b:Nat),(n<=y.1/\y.1<=maxLen/\y.2.size=y.1*sz)->Ops P R N v0 H0 ops l K ((d,.slice (some ⟨b,0,none⟩) n y.1)::fr) ((b,.cells y.2 e (0,0))::H) Γ) :
    Ops P R N v0 H0 ops (⟨some d,.call ⟨.builtin .append,#[x,y],#[t,C]⟩,ty,ps,af,none⟩::l) K fr H Γ :=
  ni_ (β:=Nat×Array Value) (x:=λy b=>.slice (some ⟨b,0,none⟩) n y.1) (o:=λy=>.cells y.2 e (0,0)) (λy=>n<=y.1/\y.1<=maxLen/\y.2.size=y.1*sz) T
    (λa v I W Y=>by
      obtain⟨i,z,hi,V,es,U,J⟩:=E.info;subst es U;have M:=Lib.run_append_nil_zeros (P:=P) v.w t C ty e i z k kn E.und G hi V n O E.pos (by simp only[maxLen]at m;omega) zaa_;have B:=grownCap_ge v.w n 0 e;have A:=grownCap_le_maxLen v.w n 0 e m;refine⟨(grownCap v.w n 0 e,Builtin.zeroCells z.cells n++Builtin.zeroCells z.cells (grownCap v.w n 0 e - n)),v.w.drew.alloc (.cells (Builtin.zeroCells z.cells n++Builtin.zeroCells z.cells (grownCap v.w n 0 e - n)) e),⟨B,A,?_⟩,?_,rfl,rfl,rfl,rfl,by simp⟩
      . simp only[Array.size_append,size_zeroCells,J,<-ycf_]
        congr 1
        omega
      . simp only[execOp,resolve,invoke,builtin,Sem.run_bind,Sem.run_pure,Result.andThen_ok,ybp_,yaF_,ybR_,I.ev Q,I.ev L,M])
    S
theorem qq_ {x:Operand} {t:TypeId} {ad:Ao} {len cap:Nat} (y:∀ w,(underlying t).run P w=.ok (.slice e) w) (A:Fr.ev fr x=some (.slice ad len cap)) :
    Yld P N fr H Γ (.call ⟨.builtin .cap,#[x],#[t]⟩) ty (.int .i64 (cap:Int)) :=
  λa v m _ _ _ _ _=>by simp[execOp,resolve,invoke,builtin,Builtin.cap_,y,m.ev A,goInt]
theorem uJ_ {b cap:Nat} {cur:Array Value} (m:cap<=maxLen) (v:cur.size=cap*sz):ad_ e sz (.slice (some ⟨b,0,none⟩) 0 cap) 0 [] [(b,.cells cur e (0,0))] :=
  ⟨by simp,.inr ⟨b,cap,cur,rfl,rfl,ycg_ _,m,v,by simp⟩⟩
end
end Go.Sx
namespace Go.Sx
open Go
theorem xB_ {P:Program} {kt:TypeId} {m:IntKind} (E:P.underlying kt=some (.int m)):KeyT P kt (λn:Int=>.int m n) where
  ok:=λk=>aU_ E
  nf:=λk es ks h B=>ax_ E (by
    have:∀ (ks:List Int) (es:List MapEntry) (i:Nat),es.map (·.key)=ks.map (λn:Int=>Value.int m n)->k ∉ ks->Instr.findNow (.int m) (.int m k) es i=some none:=by
      intro ks
      induction ks with
      | nil => intro es i h _; have : es = [] := by simpa using h
               subst this;rfl
      | cons q ks ih =>
        intro es i h B;cases es with
        | nil=>simp at h
        | cons e es =>
          simp only[yaF_,ybt_]at h;simp only[yan_,not_or]at B
          have y:Instr.sameNow (.int m) (.int m k) e.key=some false:=by
            rw[h.1];simp[Instr.sameNow,B.1]
          simp only[Instr.findNow,y];exact ih es (i+1) h.2 B.2
    exact this ks es 0 h B)
  sf:=λk es ks i e h A hi v=>ax_ E (by
    have:∀ (ks:List Int) (es:List MapEntry) (j i:Nat),es.map (·.key)=ks.map (λn:Int=>Value.int m n)->ks.Nodup->ks[i]? = some k->es[i]? = some e->Instr.findNow (.int m) (.int m k) es j=some (some (j+i,e.val)):=by
      intro ks
      induction ks with
      | nil=>intro es j i _ _ h;simp at h
      | cons q ks ih =>
        intro es j i h A hi v;cases es with
        | nil=>simp at h
        | cons x es =>
          simp only[yaF_,ybt_]at h;rw[ybr_]at A;cases i with
          | zero =>
            simp only[ybc_,yam_]at hi v;subst hi;subst v
            have y:Instr.sameNow (.int m) (.int m q) x.key=some true:=by
              rw[h.1];simp[Instr.sameNow]
            simp only[Instr.findNow,y,ycc_]
          | succ i =>
            simp only[ybb_]at hi v;have C:k≠q:=λe=>A.1 (e▸yac_ hi)
            have y:Instr.sameNow (.int m) (.int m k) x.key=some false:=by
              rw[h.1];simp[Instr.sameNow,C]
            simp only[Instr.findNow,y];rw[ih es (j+1) i h.2 A.2 hi v,show j+1+i=j+(i+1) by omega]
    have:=this ks es 0 i h A hi v;rwa [yba_]at this)
  same:=λk=>dY_ 10000 k
end Go.Sx
namespace Go.Sx
open Go
section
variable {P:Program} {N:Nat} {v0:Vw} {H0:Hp} {R:Exit->Act->World->Prop} {Kk:List Kt} {fr:Fr} {H:Hp} {Γ:List Fct}
variable {ops:Array Oper} {lo:List Oper} {d:Nat} {ty:TypeId} {ps:String} {af:Array Edge}
variable {K:Type} [DecidableEq K] {kv:K->Value}
theorem vj_ {t kt m:TypeId} {x:Operand} {b c:Nat} (n:Nat) {es:Array MapEntry} (A:P.underlying t=some (.map kt m)) (C:Fr.ev fr x=some (.map (some b))) (hi:H[n]? = some (b,.map es c)) (I:Nat.blt d N=true)
    (E:∀ r,Ops P R N v0 H0 ops lo Kk ((d,.pointer (some ⟨r,0,none⟩))::fr) ((r,.mapIter (some b) c #[] c)::H) Γ):Ops P R N v0 H0 ops (⟨some d,.range t x,ty,ps,af,none⟩::lo) Kk fr H Γ :=
  fd_ (x:=λb=>.pointer (some ⟨b,0,none⟩)) I (λa v G y _=>by
    have B:=(y.own _ (yac_ hi)).1;simp[execOp,G.ev C,run_range_map v.w t kt m b es c A B]) E
theorem xd_ {O:Operand} {b r c y M:Nat} {es:Array MapEntry} {A:Array Nat} (n m:Nat) (hit:Fr.ev fr O=some (.pointer (some ⟨r,0,none⟩))) (hr:H[n]? = some (r,.mapIter (some b) y A M)) (hb:H[m]? = some (b,.map es c)) (I:∀ x∈es.toList,x.born<y) (X:y<=M) (hN:Nat.blt d N=true)
    (h0:(leftOf es A).size=0->Ops P R N v0 H0 ops lo Kk ((d,.tuple #[.bool false])::fr) H Γ)
    (S:∀ e,e∈(leftOf es A).toList->Ops P R N v0 H0 ops lo Kk ((d,.tuple #[.bool true,e.key,e.val])::fr) (H.set n (r,.mapIter (some b) y (A.push e.born) c)) Γ):Ops P R N v0 H0 ops (⟨some d,.next O false,ty,ps,af,none⟩::lo) Kk fr H Γ :=
  cN_ rfl λa v L G h3 Z=>by
    have J:=(G.own _ (yac_ hr)).1;have T:=(G.own _ (yac_ hb)).1;unfold Oper.wp;rcases run_next_at (P:=P) v.w ty r b y M A es c J T I X with⟨e0,C⟩|⟨e,he,E,B,C⟩
    . have V:(execOp a.eval ⟨some d,.next O false,ty,ps,af,none⟩).run P v.w=.ok (.value (.tuple #[.bool false])) v.w:=by simp[execOp,L.ev hit,C]
      rw[V];exact h0 e0 _ v (L.put hN) G h3 Z
    . have V:(execOp a.eval ⟨some d,.next O false,ty,ps,af,none⟩).run P v.w=.ok (.value (.tuple #[.bool true,e.key,e.val])) (ChangeMaps.setBlock E r (.mapIter (some b) y (A.push e.born) c)):=by simp[execOp,L.ev hit,C]
      rw[V];have U:E.heap[r]? = some (.mapIter (some b) y A M):=by rcases B with rfl|rfl<;>exact J
      have Q:r<E.heap.size:=(yaD_.1 U).1;have hw:E.heap=v.w.heap:=by rcases B with rfl|rfl<;>rfl
      have W:v.w.drawn<=E.drawn:=by
        rcases B with rfl|rfl
        . exact yae_ _
        . exact Nat.le_succ _
      obtain⟨g1,Y⟩:=gu_ (w':=ChangeMaps.setBlock E r (.mapIter (some b) y (A.push e.born) c)) G hr zbx_ zbx_ zbx_ W (by simp[ChangeMaps.setBlock,hw])
        (by simp only[ChangeMaps.setBlock];rw[Array.getElem?_setIfInBounds_self_of_lt Q]) (λk S=>by simp only[ChangeMaps.setBlock];rw[ycV_ (Ne.symm S),hw])
      exact S e he _ ⟨v.im,_,v.sl⟩ (L.put hN) g1 (h3.trans Y) (aB_ (Y.le G) Z)
theorem uy_ {B:Operand} {b r c x:Nat} {es:Array MapEntry} {y:Array Nat} {e:MapEntry} (n m:Nat) (hit:Fr.ev fr B=some (.pointer (some ⟨r,0,none⟩))) (C:H[n]? = some (r,.mapIter (some b) x (y.push e.born) c)) (E:H[m]? = some (b,.map es c)) (G:e∈es.toList) (hB:Born es c) :
    Yld P N fr H Γ (.entry B) ty (.tuple #[e.key,e.val]) :=
  λa v I A _ _ _ _=>by
    have:=run_entry_at (P:=P) v.w r b x y es c e (A.own _ (yac_ C)).1 (A.own _ (yac_ E)).1 G hB.nd;simp[execOp,I.ev hit,this]
structure ItS (kv:K->Value) (es:Array MapEntry) (seen:Array Nat) (done:List K):Prop where
  nd:done.Nodup
  mem:∀ e∈es.toList,seen.contains e.born=true↔∃ k∈done,e.key=kv k
  sub:∀ k∈done,∃ e∈es.toList,e.key=kv k
theorem ItS.nil {es:Array MapEntry}:ItS kv es #[] []:=⟨ybZ_,λe _=>by simp,λk m=>by simp at m⟩
end
section
variable {P:Program} {N:Nat} {v0:Vw} {H0:Hp} {R:Exit->Act->World->Prop} {K:List Kt} {fr:Fr} {H F:Hp} {Γ:List Fct}
def tw_ {σ:Type} (v0:Vw) (H0:Hp) (Hj:σ->Hp) (ok:σ->Prop) (HL:Hp):Exit->Act->World->Prop
  | .normal,_,w=>∃ s' v,ok s'/\v.w=w/\v.sat (Hj s'++HL)/\v0.to H0 v (Hj s'++HL)
  | _,_,_=>False
theorem lG_ {σ ι:Type} {l D:Nat} {m:Loop} {pm:Nat} {x:Value} {Hj:σ->Hp} {s:σ} {ok:σ->Prop} (O:ι->Fr) (L:ι->Hp)
    (hp:m.params=#[pm]) (S:m.state=.ready) (hpe:m.pending=none) (ht:Fr.sat N fr ⟨m.tmps,[]⟩) (U:Nat.blt pm N=true)
    (A:∀ n v0 H0 HL,iH_ (Fence.wide.inRound l) n P (Mid N v0 H0 O (λi=>L i++HL) (λ_=>Γ)) N [] v0 H0 m.assign [] ((pm,x)::fr) (Hj s++HL) Γ)
    (C:∀ n v0 H0 HL i,iH_ (Fence.wide.inRound l) n P (tw_ v0 H0 Hj ok HL) N [] v0 H0 m.body [] (O i) (L i++HL) Γ) :
    kB_ P l x (Hj s++HLp l D m) Γ (λ_:{E:σ // ok E}=>.bool true) (λE=>Hj E.1++HLp l D m) (λ_=>[]):=by
  intro v hs hΓ
  have y:∀ (X:Hp) r,(X++HLp l D r).Perm ((l,.loop r)::(X++[(D,.deferred (some []))])):=λX r=>by
    unfold HLp;exact ybM_
  have hl:v.w.heap[l]? = some (.loop m):=((hs.perm (y _ _)).own _ yau_).1;refine⟨m.fn,_,m.assign,m.body,run_yield hl (by simp[hp]),λn=>roundIn_of_wpIn trivial ?_⟩;have a0:(m.params.zip #[x]).foldl (λtmps (t,a)=>tmps.setIfInBounds t a) m.tmps=m.tmps.setIfInBounds pm x:=by simp[hp]
  rw[a0];have M:Fr.sat N ((pm,x)::fr) ⟨m.tmps.setIfInBounds pm x,[]⟩:=ht.put U;refine wpIn_mono (ey_.1 (A n v (Hj s++HLp l D m) (HLp l D m)) ⟨m.tmps.setIfInBounds pm x,[]⟩ v M hs (Vw.to.refl _ _) hΓ) ?_;rintro e a1 w1 ⟨rfl,i,J,rfl,k1,k2,k3,k4⟩;have B:=k2.perm (y _ _);have Z:=(B.own _ yau_).1;obtain⟨m1,m2⟩:=fb_ (o':=.loop { m with state:=.busy }) B;refine⟨_,run_beginRound Z S,?_⟩;have m3:=m1.perm (y (L i) { m with state:=.busy }).symm
  have m4:v.to (Hj s++HLp l D m) ⟨J.im,J.w.putObj l (.loop { m with state:=.busy }),J.sl⟩ (L i++HLp l D { m with state:=.busy }) :=
    (k3.trans ((m2.permL (y _ _).symm).subR λb Q=>((y (L i) { m with state:=.busy }).map Prod.fst).mem_iff.1 Q))
  have V:=aB_ (m2.le B) k4;refine wpIn_mono (ey_.1 (C n v (Hj s++HLp l D m) (HLp l D { m with state:=.busy }) i) a1 ⟨J.im,_,J.sl⟩ k1 m3 m4 V) ?_;intro e2 a2 w2 G;cases e2 with
  | normal =>
    obtain⟨E,W,Y,rfl,q1,q2⟩:=G;have I:=q1.perm (y _ _);have T:=(I.own _ yau_).1;obtain⟨z1,z2⟩:=fb_ (o':=.loop m) I;have er:({ m with state:=.ready,pending:=none }:Loop)=m:=by cases m;simp_all
    refine⟨_,_,run_endRound none T,⟨E,Y⟩,⟨W.im,W.w.putObj l (.loop m),W.sl⟩,rfl,?_,z1.perm (y _ _).symm,trivial,q2.trans ((z2.permL (y _ _).symm).subR λb Q=>((y (Hj E) m).map Prod.fst).mem_iff.1 Q)⟩;simp[er]
  | ret=>exact G.elim
  | exit id=>exact G.elim
  | goto t=>exact G.elim
  | panic c=>exact G.elim
  | outgrown=>exact G.elim
theorem mX_ {σ:Type} {Hj:σ->Hp} {x G:Hp} {ok:σ->Prop} (m:σ) (B:ok m) (A:H.Perm (Hj m++x++G)):OkD N [] v0 H0 (tw_ v0 H0 Hj ok x .normal) fr H Γ :=
  ke_ (Γ':=[]) A (λ_ _ _=>trivial) λa v E y C _=>⟨m,v,B,rfl,y,C⟩
theorem qJ_ {σ α:Type} {g:Operand} {pm:Nat} {assign body:Code} {T:FuncId} {caps:List Value} {Hj:σ->Hp} {Hc:Hp} {Γi:List Fct} (Γx:List Fct) {xv:α->Value} {good:σ->α->Prop} {nx:α->σ->σ->Prop} {Rc:σ->Prop}
    (s0:σ) (hg:Fr.ev fr g=some (.func (.func T) #[] caps.toArray)) (hH:H.Perm (Hc++Hj s0)) (W:∀ v,v.sat H->Z_ Γ v->Z_ Γi v)
    (C:∀ l D (m:Loop),m.params=#[pm]->m.state=.ready->m.pending=none->Fr.sat N fr ⟨m.tmps,[]⟩->m.assign=assign->m.body=body->∀ s x,good s x->
      kB_ P l (xv x) (Hj s++HLp l D m) Γx (λ_:{A:σ // nx x s A}=>.bool true) (λA=>Hj A.1++HLp l D m) (λ_=>[]))
    (hit:∀ l (Gj:σ->Hp),(∀ s x,good s x->kB_ P l (xv x) (Gj s) Γx (λ_:{A:σ // nx x s A}=>.bool true) (λA=>Gj A.1) (λ_=>[]))->
      Tri P T (.func (.yield l) #[] #[]::caps).toArray (Hc++Gj s0) Γi (λ_:{A:σ // Rc A}=>.tuple #[]) (λA=>Hc++Gj A.1) (λ_=>[]))
    (G:∀ A,Rc A->∀ D l r,sc_ Fence.wide 0 P R N (nu_ D) v0 H0 K fr (Hc++Hj A++HLp l D r) Γ) :
    Run P R N v0 H0 (.rangeFunc g #[pm] assign body) K fr H Γ:=by
  intro a v I S h3 h4;refine wpIn_wide (n:=0) |>.1 (wpIn_mono (Q:=ea_ Fence.wide 0 P R K) (wpIn_rangeFunc λfn _=>?_) λe a w hq=>bn_ K e a w hq)
  obtain⟨a1,a2⟩:=hs_ (w':=v.w.alloc (.deferred (some []))) (o:=.deferred (some [])) S rfl rfl rfl rfl (yae_ _);obtain⟨m,y⟩:∃ m:Loop,m={ state:=.ready,pending:=none,fn,tmps:=a.tmps,params:=#[pm],assign,body,defers:=v.w.heap.size }:=⟨_,rfl⟩;obtain⟨b1,b2⟩:=hs_ (w':=(v.w.alloc (.deferred (some []))).alloc (.loop m)) (o:=.loop m) a1 rfl rfl rfl rfl (yae_ _);have J:(v.w.alloc (Obj.deferred (some []))).heap.size=v.w.heap.size+1:=by simp
  have b1':(⟨v.im,(v.w.alloc (.deferred (some []))).alloc (.loop m),v.sl⟩:Vw).sat ((v.w.heap.size+1,.loop m)::(v.w.heap.size,.deferred (some []))::H):=J▸b1;have L:v.to H ⟨v.im,(v.w.alloc (.deferred (some []))).alloc (.loop m),v.sl⟩ ((v.w.heap.size+1,.loop m)::(v.w.heap.size,.deferred (some []))::H):=a2.trans (J▸b2)
  have B:((v.w.heap.size+1,Obj.loop m)::(v.w.heap.size,.deferred (some []))::H).Perm (Hc++(Hj s0++HLp (v.w.heap.size+1) v.w.heap.size m)):=by
    rw[<-yap_];exact (yax_ (l₁:=HLp (v.w.heap.size+1) v.w.heap.size m) (l₂:=H)).trans (hH.append_right _)
  have hT:=hit (v.w.heap.size+1) (λs=>Hj s++HLp (v.w.heap.size+1) v.w.heap.size m)
    (C _ _ m (by rw[y]) (by rw[y]) (by rw[y]) (by rw[y];exact⟨I.size,rfl,I.val⟩) (by rw[y]) (by rw[y]))
  have U:=aB_ (L.le S) (W v S h4);have he:=I.ev hg;refine⟨v.w.heap.size+1,nu_ v.w.heap.size,(v.w.alloc (.deferred (some []))).alloc (.loop m),⟨.fn (.func T) caps.toArray,#[.func (.yield (v.w.heap.size+1)) #[] #[]]⟩,(v.w.alloc (.deferred (some []))).alloc (.loop m),T,(.func (.yield (v.w.heap.size+1)) #[] #[]::caps).toArray,_,?_,?_,λ_ _=>trivial,?_,λh=>(by cases h),callsIn_wide.2 ((hT.run ⟨v.im,_,v.sl⟩ (b1'.perm B) U).mono ?_)⟩
  . rw[y];exact run_enterLoop_outer _ _ _ _ _
  . simp only[resolve,rangeCall,ybp_,yaF_,ybR_,he,Deferred.ofValue]
    rfl
  . have:=hT.callable (.func (.yield (v.w.heap.size+1)) #[] #[]::caps).toArray ((v.w.alloc (.deferred (some []))).alloc (.loop m))
    simpa [invoke] using this
  . rintro e w' ⟨⟨A,Z⟩,v',rfl,rfl,g1,g2,g3⟩
    have O:=L.trans (g3.permL B.symm);have V:=aB_ (O.le S) h4;have hsd:∀ M,SatD N M fr { a with defers:=M++a.defers }:=λM=>⟨⟨I.size,rfl,I.val⟩,by show M++a.defers=M;rw[I.defers];simp⟩
    have E:∀ (X Y:Hp) r,(Y++(X++HLp (v.w.heap.size+1) v.w.heap.size r)).Perm ((v.w.heap.size+1,.loop r)::(Y++X++[(v.w.heap.size,.deferred (some []))])):=λX Y r=>by
      unfold HLp;rw[<-yap_];exact ybM_
    have q:=g1.perm (E (Hj A) Hc m);have hl:=(q.own _ yau_).1;obtain⟨z1,z2⟩:=fb_ (o':=.loop { m with state:=.exhausted }) q
    have zp:((v.w.heap.size+1,Obj.loop { m with state:=.exhausted })::(Hc++Hj A++[(v.w.heap.size,.deferred (some []))])).Perm (Hc++Hj A++HLp (v.w.heap.size+1) v.w.heap.size { m with state:=.exhausted }):=by
      have:=(E (Hj A) Hc { m with state:=.exhausted }).symm;rw[<-yap_]at this;exact this
    refine⟨m.pending,_,run_endLoop hl (by rw[y];simp),?_⟩;have hpn:m.pending=none:=by rw[y]
    split
    case h_2=>rename_i c hc;rw[hpn]at hc;cases hc
    exact G A Z _ _ _ _ ⟨v'.im,_,v'.sl⟩ (hsd _) (z1.perm zp) (h3.trans (O.trans ((z2.permL (E _ _ _).symm).subR λb hb=>(zp.map Prod.fst).mem_iff.2 hb))) (aB_ (z2.le q) V)
theorem mU_ {σ α:Type} {g:Operand} {pm:Nat} {assign body:Code} {C:FuncId} {caps:List Value} {Hj:σ->Hp} {Hc:Hp} {Γi:List Fct} {xv:α->Value} {good:σ->α->Prop} {nx:α->σ->σ->Prop} {Rc:σ->Prop}
    (A:σ) (G:Fr.ev fr g=some (.func (.func C) #[] caps.toArray)) (E:H.Perm (Hc++Hj A)) (B:∀ v,v.sat H->Z_ Γ v->Z_ Γi v)
    (m:∀ l D (rec:Loop),rec.params=#[pm]->rec.state=.ready->rec.pending=none->Fr.sat N fr ⟨rec.tmps,[]⟩->rec.assign=assign->rec.body=body->∀ s x,good s x->
      kB_ P l (xv x) (Hj s++HLp l D rec) [] (λ_:{s':σ // nx x s s'}=>.bool true) (λs'=>Hj s'.1++HLp l D rec) (λ_=>[]))
    (hit:∀ l (Gj:σ->Hp),(∀ s x,good s x->kB_ P l (xv x) (Gj s) [] (λ_:{s':σ // nx x s s'}=>.bool true) (λs'=>Gj s'.1) (λ_=>[]))->
      Tri P C (.func (.yield l) #[] #[]::caps).toArray (Hc++Gj A) Γi (λ_:{s':σ // Rc s'}=>.tuple #[]) (λs'=>Hc++Gj s'.1) (λ_=>[]))
    (y:∀ s',Rc s'->∀ D l r,sc_ Fence.wide 0 P R N (nu_ D) v0 H0 K fr (Hc++Hj s'++HLp l D r) Γ) :
    Run P R N v0 H0 (.rangeFunc g #[pm] assign body) K fr H Γ:=
  qJ_ [] A G E B m hit y
end
section
variable {Fc:Fence} {n:Nat} {P:Program} {N:Nat} {D:List Deferred} {v0:Vw} {H0:Hp} {R:Exit->Act->World->Prop} {K:List Kt} {fr:Fr} {H:Hp} {Γ:List Fct}
variable {ops:Array Oper} {l:List Oper} {d:Nat} {ty:TypeId} {ps:String} {af:Array Edge}
theorem oF_ {t e:TypeId} {len sz:Nat} {parts:List (Nat×Operand)} {vs:List (Nat×Value)} {A:Value} {cs:List Value} (hF:Opn Fc) (V:∀ w,(underlying t).run P w=.ok (.slice e) w) (X:∀ w,(sizeOf e).run P w=.ok sz w) (hz:∀ w,(zeroValue e).run P w=.ok A w)
    (I:A.cells.toList.length=sz) (S:Nat.blt 0 (len*sz)=true) (G:Nat.ble (len*sz) 16777216=true) (Y:Fr.evp fr parts=some vs) (T:ko_ (λi=>some (i*sz,sz)) (hi_ A.cells.toList len) vs=some cs) (hN:Nat.blt d N=true)
    (Z:∀ b,gi_ Fc n P R N D v0 H0 ops l K ((d,.slice (some ⟨b,0,none⟩) len len)::fr) ((b,.cells cs.toArray e (0,0))::H) Γ):gi_ Fc n P R N D v0 H0 ops (⟨some d,.buildSlice t len parts.toArray,ty,ps,af,none⟩::l) K fr H Γ :=
  ej_ rfl λa v O J W h4=>by
    refine⟨λf _=>hF.fn f,?_⟩;rw[semAt_eq rfl]
    have he:(execOp a.eval ⟨some d,.buildSlice t len parts.toArray,ty,ps,af,none⟩).run P v.w=.ok (.value (.slice (some ⟨v.w.heap.size,0,none⟩) len len)) (v.w.alloc (.cells cs.toArray e (0,0))):=by
      have B:=O.sat.evp Y;have m:=ha_ _ _ _ _ T;have y:0<len*sz:=by simpa [Nat.blt_eq] using S
      have Q:0<sz:=Nat.pos_of_mul_pos_left y;have L:len*sz<=16777216:=ybj_ G;have E:=jr_ A.cells.toList zaa_ len;rw[I]at E;simp only[ycG_]at E;rw[<-E]at m;have C:(parts.map λ(i,x)=>(i,a.eval x))=vs:=B;simp only[execOp,Instr.buildSlice,Sem.run_bind,V,Result.andThen_ok,X,ybp_,C];rw[yaf_ zaa_,yaf_ zaa_];simp only[Sem.run_bind,Sem.run_pure,hz,Result.andThen_ok,m];rfl
    rw[he];obtain⟨U,M⟩:=hs_ (w':=v.w.alloc (.cells cs.toArray e (0,0))) (o:=.cells cs.toArray e (0,0)) J rfl rfl rfl rfl (yae_ _);exact Z v.w.heap.size _ ⟨v.im,_,v.sl⟩ (O.put hN) U (W.trans M) (aB_ (M.le J) h4)
theorem rj_ {k:Act->World->Prop} {H':Hp} (m:H.Perm H') (h:OkD N D v0 H0 k fr H' Γ):OkD N D v0 H0 k fr H Γ :=
  λa v A x B y=>h a v A (x.perm m) (B.subR λb C=>(m.map Prod.fst).mem_iff.2 C) y
theorem jf_ {t e:TypeId} {x y:Operand} {b off sz m:Nat} {sv:Value} {xs:List Value} {Hr:Hp} (hF:Opn Fc) (i:Nat) {cur:Array Value} {T:TypeId} (v:ad_ e sz sv m xs Hr) (C:∀ w,(sizeOf t).run P w=.ok 1 w)
    (E:Fr.ev fr x=some (.pointer (some ⟨b,off,none⟩))) (B:Fr.ev fr y=some sv) (hi:H[i]? = some (b,.cells cur T (0,0))) (A:Nat.ble (off+1) cur.size=true)
    (G:gi_ Fc n P R N D v0 H0 ops l K fr (H.set i (b,.cells (cur.toList.take off++[sv]++cur.toList.drop (off+1)).toArray T (0,0))) Γ):gi_ Fc n P R N D v0 H0 ops (⟨none,.store t x y,ty,ps,af,none⟩::l) K fr H Γ :=
  eU_ hF i C E B hi (by rw[(dX_ v).1];rfl) A (by rw[(dX_ v).1];simp[(dX_ v).2]) (by rw[(dX_ v).1];exact G)
theorem lM_ {x y:Operand} {t e:TypeId} {sz by' m k c:Nat} {sv:Value} {xs news:List Value} {Hr F:Hp} {ad:Addr} (hF:Opn Fc) (I:Elt P t e sz by') (B:ad_ e sz sv m xs Hr)
    (hx:Fr.ev fr x=some sv) (hy:Fr.ev fr y=some (.slice (some ad) k c)) (M:H.Perm (Hr++F)) (hl:news.length=k*sz) (C:∀ v,v.sat H->Z_ Γ v->∀ j u,news[j]? = some u->v.w.cell? (ad.add j)=some u) (G:∀ u∈news,u.oneCell'=true)
    (E:m+k<=maxLen) (S:(m+k)*by'<=140737488355328) (hN:Nat.blt d N=true)
    (hk:∀ sv' A,ad_ e sz sv' (m+k) (xs++news) A->gi_ Fc n P R N D v0 H0 ops l K ((d,sv')::fr) (A++F) Γ) :
    gi_ Fc n P R N D v0 H0 ops (⟨some d,.call ⟨.builtin .append,#[x,y],#[t,t]⟩,ty,ps,af,none⟩::l) K fr H Γ :=
  ej_ rfl λa v L J h3 U=>by
    refine⟨λf _=>hF.fn f,?_⟩;rw[semAt_eq rfl];obtain⟨i,z,hi,W,es,V,ez⟩:=I.info;have g:=J.perm M;have Z:=C v J U;have X:=B.owns g;obtain⟨Q,w',Y,q1,q2,_⟩:=run_append_own (P:=P) v.w 0 t ty e i z sz by' I.und hi W es V ez I.pos sv m xs X ad k c news hl Z G E S (ycg_ _)
    obtain⟨a1,a2⟩:=kA_ v.w I.und hi W es X hl Z G E (by rw[V];exact S) Y;obtain⟨A,k1,k2,T⟩:=oR_ B g q1 q2 a1 a2;have e1:a.eval x=sv:=L.sat.ev hx;have e2:a.eval y=.slice (some ad) k c:=L.sat.ev hy
    have O:(execOp a.eval ⟨some d,.call ⟨.builtin .append,#[x,y],#[t,t]⟩,ty,ps,af,none⟩).run P v.w=.ok (.value Q) w':=by
      simp only[execOp,resolve,invoke,builtin,Sem.run_bind,Sem.run_pure,Result.andThen_ok,ybp_,yaF_,ybR_,e1,e2,Y]
    rw[O];exact hk Q A k1 _ ⟨v.im,w',v.sl⟩ (L.put hN) k2 (h3.trans (T.permL M.symm)) (aB_ ((T.permL M.symm).le J) U)
end
end Go.Sx
namespace Go.Vs
open Go Go.Sx
abbrev RSt:=Str×Str×Bool
def app1 (l:List Str) (x:Str):List Str:=if x∈l then l else l++[x]
def tH_ (l:List Str):List Str:=l.foldl app1 []
theorem sk_ (l:List Str) (x:Str):tH_ (l++[x])=app1 (tH_ l) x:=by simp[tH_]
def ik (S:List RSt) (r:Str):List Str:=tH_ ((S.filter λz=>decide (z.1=r)).map (·.2.1))
def flg (S:List RSt) (r s:Str):Bool:=S.any λz=>decide (z.1=r)&&(decide (z.2.1=s)&&z.2.2)
theorem Ab_ (S:List RSt) (r s:Str) (c:Bool) (q:Str):ik (S++[(r,s,c)]) q=if r=q then app1 (ik S q) s else ik S q:=by
 unfold ik;rw[ycR_,yaw_]
 by_cases h:r=q
 .rw[yaq_ h]
  simp only[List.filter_cons,h,decide_true,yck_,List.filter_nil,yaF_,ybR_];exact sk_ _ _
 rw[yaf_ h];simp[h]
theorem xU_ (S:List RSt) (r s:Str) (c:Bool) (q t:Str):flg (S++[(r,s,c)]) q t=(flg S q t||(decide (r=q)&&(decide (s=t)&&c))):=by
  unfold flg;rw[ydf_];simp
end Go.Vs
namespace Go.Sx
open Go Go.Vs
structure BolE (es:Array MapEntry) (ks:List Str) (g:Str->Bool):Prop where
  keys:es.toList.map (·.key)=ks.map str
  vals:es.toList.map (·.val)=ks.map λk=>Value.bool (g k)
  nd:ks.Nodup
section
variable {P:Program} {kt:TypeId} {es:Array MapEntry} {ks:List Str} {g:Str->Bool}
end
def nt_ (E:Str->Array MapEntry×Nat) (p:Str×Nat):Nat×Obj:=(p.2,.map (E p.1).1 (E p.1).2)
def mptr (o:Option Nat):Value:=.map o
structure MmE (ks:List (Str×Nat)) (S:List RSt) (es:Array MapEntry) (c:Nat) (E:Str->Array MapEntry×Nat):Prop where
  keys:es.toList.map (·.key)=(ks.map (·.1)).map str
  vals:es.toList.map (·.val)=ks.map λp=>mptr (some p.2)
  nd:(ks.map (·.1)).Nodup
  all:∀ z∈S,z.1∈ks.map (·.1)
  born:Born es c
  inn:∀ k∈ks.map (·.1),BolE (E k).1 (ik S k) (flg S k)/\Born (E k).1 (E k).2
def MmO (mb:Nat) (ks:List (Str×Nat)) (S:List RSt) (H:Hp):Prop:=∃ es c E,H=(mb,.map es c)::ks.map (nt_ E)/\MmE ks S es c E
section
variable {P:Program} {kt:TypeId} {mb:Nat} {ks:List (Str×Nat)} {S:List RSt} {es:Array MapEntry} {c:Nat} {E:Str->Array MapEntry×Nat} {H:Hp}
theorem MmO.at (h:MmO mb ks S H) {k:Str} {b:Nat} (J:yR_ ks k=some b):∃ es c Hr,H.Perm ((b,.map es c)::Hr)/\BolE es (ik S k) (flg S k)/\Born es c/\
    ∀ s d m v,BolE m (ik (S++[(k,s,d)]) k) (flg (S++[(k,s,d)]) k)->Born m v->∃ H',MmO mb ks (S++[(k,s,d)]) H'/\((b,Obj.map m v)::Hr).Perm H':=by
  obtain⟨es,c,E,rfl,hE⟩:=h;have hm:=on_ J;have x:k∈ks.map (·.1):=yaI_ hm;obtain⟨B,C,rfl⟩:=List.append_of_mem hm;refine⟨(E k).1,(E k).2,(mb,.map es c)::(B++C).map (nt_ E),?_,(hE.inn k x).1,(hE.inn k x).2,λs d m v hB G=>?_⟩
  . rw[yaw_,yaF_,yaw_]
    exact (List.Perm.cons _ ybM_).trans (.swap _ _ _)
  . have y:=hE.nd
    rw[yaw_,yaF_,yaY_,ybr_]at y
    have O:B.map (nt_ λq=>if q=k then (m,v) else E q)=B.map (nt_ E):=ybX_ λp I=>by
      unfold nt_;dsimp only;rw[yaf_ λe=>y.2.2 p.1 (yaI_ I) k zai_ e]
    have M:C.map (nt_ λq=>if q=k then (m,v) else E q)=C.map (nt_ E):=ybX_ λp I=>by
      unfold nt_;dsimp only;rw[yaf_ λe=>y.2.1.1 (yas_.2 ⟨p,I,e⟩)]
    refine⟨(mb,.map es c)::(B++(k,b)::C).map (nt_ λq=>if q=k then (m,v) else E q),⟨es,c,_,rfl,hE.keys,hE.vals,hE.nd,λz A=>?_,hE.born,λq L=>?_⟩,?_⟩
    . rcases yag_.1 A with A|A
      . exact hE.all z A
      . rw[yak_]at A;subst A;exact x
    . by_cases e:q=k
      . subst e;rw[yaq_ rfl];exact⟨hB,G⟩
      . rw[yaf_ e,Ab_,yaf_ (Ne.symm e)]
        have:flg (S++[(k,s,d)]) q=flg S q:=funext λt=>by rw[xU_,ybi_ (Ne.symm e)];simp
        rw[this];exact hE.inn q L
    . have Q:nt_ (λq=>if q=k then (m,v) else E q) (k,b)=(b,.map m v):=by unfold nt_;dsimp only;rw[yaq_ rfl]
      rw[yaw_,yaw_,yaF_,O,M,Q];exact ((List.Perm.cons _ ybM_).trans (.swap _ _ _)).symm
end
section ops
variable {P:Program} {N:Nf} {v0:Vw} {H0:Hp} {R:Exit->Act->World->Prop} {K:List Kt} {fr:Fr} {H F:Hp} {Γ:List Fct}
variable {ops:Array Oper} {l:List Oper} {d:Nat} {ty:TypeId} {ps:String} {af:Array Edge}
variable {mb:Nat} {ks:List (Str×Nat)} {S:List RSt} {Hx:Hp}
end ops
end Go.Sx
namespace Go.Vs
open Go Go.Sx
def Ax.selfs (x:Ax):Nat:=x.roles.countP λr=>decide (r=x.role)
def Ax.exm (x:Ax) (i:Nat):Bool:=decide (x.roles[i]? = some x.role)&&((decide (x.selfs=1)&&(decide (i=0)||decide (i+1=x.roles.length)))||(decide (x.selfs=2)&&decide (x.roles.length=2)))
def Ax.chs (x:Ax):Nat->List RSt
  | 0=>[]
  | i+1=>x.chs i++(match x.roles[i]? with|some r=>if x.exm i=true then [] else [(r,x.role,true)]|none=>[])
def Ax.steps (x:Ax):List RSt :=
  if x.kind=5 then (match x.roles[0]? with|some r=>if r=x.role then [] else [(r,x.role,false)]|none=>[])
  else if x.kind=6 then x.chs x.roles.length else []
def wo_ (l:List Ax):List RSt:=l.flatMap Ax.steps
def sE (S:List RSt) (r s:Str) (c:Bool):Prop:=(r,s,c)∈S
def Circ (S:List RSt):Prop:=∃ n,Clo (sE S) n
end Go.Vs
namespace Go.Sx
open Go
section
variable {P:Program} {N:Nat} {v0:Vw} {H0:Hp} {R:Exit->Act->World->Prop} {K:List Kt} {fr:Fr} {H F:Hp} {Γ:List Fct}
theorem bH_ {n:Nat}:∀ (K:List Kt) (e:Exit) (a:Act) (w:World),post P R K e a w->ea_ Fence.wide n P R K e a w
 | [],_,_,_,h=>h
 | .seq c::K,.normal,a,w,h=>wpIn_wide.2 (wp_mono h λe a w d=>bH_ K e a w d)
 | .seq _::K,.exit _,a,w,h=>bH_ K _ a w h
 | .seq _::K,.goto _,a,w,h=>bH_ K _ a w h
 | .seq _::K,.ret,a,w,h=>bH_ K _ a w h
 | .seq _::K,.panic _,a,w,h=>bH_ K _ a w h
 | .seq _::K,.outgrown,a,w,h=>bH_ K _ a w h
 | .inv J::_,.normal,_,_,h=>h
 | .inv _::K,.exit _,a,w,h=>bH_ K _ a w h
 | .inv _::K,.goto _,a,w,h=>bH_ K _ a w h
 | .inv _::K,.ret,a,w,h=>bH_ K _ a w h
 | .inv _::K,.panic _,a,w,h=>bH_ K _ a w h
 | .inv _::K,.outgrown,a,w,h=>bH_ K _ a w h
 | .blk id::K,.exit id',a,w,h=>by
   simp only[ea_,post]at h ⊢
   split
   . rename_i e;rw[yaq_ e]at h;exact bH_ K _ a w h
   . rename_i e;rw[yaf_ e]at h;exact bH_ K _ a w h
 | .blk _::K,.normal,a,w,h=>bH_ K _ a w h
 | .blk _::K,.goto _,a,w,h=>bH_ K _ a w h
 | .blk _::K,.ret,a,w,h=>bH_ K _ a w h
 | .blk _::K,.panic _,a,w,h=>bH_ K _ a w h
 | .blk _::K,.outgrown,a,w,h=>bH_ K _ a w h
theorem rJ_ {D:Nat} {n:Nat} (h:Fin P R ⟨N,nu_ D⟩ v0 H0 K fr H Γ):sc_ Fence.wide n P R N (nu_ D) v0 H0 K fr H Γ :=
  λa v d m y x=>bH_ K _ a v.w (h a v ⟨d.sat.size,d.defers,d.sat.val⟩ m y x)
theorem retMF {fn:Func} {ι:Type} {D:Nat} {G:Hp} {ret:ι->Value} {H':ι->Hp} {Γ':ι->List Fct} (x:ι) (S:∀ (a:Act) (v:Vw),Fr.sat (⟨N,nu_ D⟩:Nf) fr a->v.sat G->Z_ Γ v->(results fn a.tmps).run P v.w=.ok (ret x) v.w) (B:H.Perm ((D,.deferred (some []))::(G)))
    (T:∃ m,G.Perm (H' x++m)) (L:∀ v,v.sat G->Z_ Γ v->Z_ (Γ' x) v):Ok ⟨N,nu_ D⟩ v0 H0 (bodyPostM Fence.wide 0 P fn (jb_ v0 H0 ret H' Γ') .ret) fr H Γ:=by
  intro a v I M O U;show LeavesInM Fence.wide 0 P fn a.tmps _ a.defers .returning v.w
  rw[I.defers];have q:=M.perm B;have hl:=(q.own _ yau_).1;obtain⟨A,C⟩:=fb_ (o':=.deferred none) q;have y:(⟨v.im,v.w.putObj D (.deferred none),v.sl⟩:Vw).sat G:=⟨λp J=>A.own p (yaA_ _ J),by have:=A.nodup;rw[yaF_,ybr_]at this;exact this.2,A.lt⟩;have E:=aB_ (C.le q) U;obtain⟨m,d⟩:=T;refine⟨by simp,.inl ⟨D,_,rfl,run_takeDeferred hl,ret x,?_,x,⟨v.im,_,v.sl⟩,rfl,rfl,(y.perm d).sub,L _ y E,?_⟩⟩
  . exact S a ⟨v.im,_,v.sl⟩ I y E
  . refine (O.trans (C.permL B.symm)).subR λb Q=>?_
    have:b∈(H' x++m).map Prod.fst:=by rw[yaw_];exact yal_ _ Q
    rw[yaF_];exact yaA_ _ ((d.map Prod.fst).mem_iff.2 this)
end
end Go.Sx
