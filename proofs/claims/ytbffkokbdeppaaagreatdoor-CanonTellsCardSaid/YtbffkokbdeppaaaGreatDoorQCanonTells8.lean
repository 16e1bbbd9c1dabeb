/-
  Lemmas for the law CanonTells (no condition).
-/
import Derived.Test.YtbffkokbdeppaaaGreatDoorQCanonTells7
import Derived.Scope
import Derived.Lib.Join
import Derived.Lib.AppendZeros
import Derived.Maps.RangeRun
import Derived.WalkSpells
set_option linter.unusedVariables false
set_option linter.unusedSimpArgs false
set_option linter.unusedSectionVars false
set_option maxHeartbeats 1000000
namespace Go.Sx
open Go Go.Vs
theorem sa_ {P:Program} {f:FuncId} {args:Array Value} {H:Hp} {Γ O:List Fct} {ι:Type} {F:ι->Value} {H':ι->Hp} (B:Hp) (L:Tri P f args H Γ F H' (λ_=>[]))
    (S:∀ v:Vw,(∀ p∈B,v.im p.1/\v.w.heap[p.1]? = some p.2)->af_ O v->af_ Γ v):Tri P f args (B++H) O F (λx=>B++H' x) (λ_=>[]):=by
  refine⟨L.callable,λv C U=>?_⟩;have A:=C.nodup;rw[yat_,ybf_]at A;have I:∀ p∈B,p.1<v.w.heap.size:=λp m=>(yax_.1 (C.own p (yam_ _ m)).1).1
  have M:(⟨λb=>v.im b\/b∈B.map Prod.fst,v.w,v.sl⟩:Vw).sat H:=by
    refine⟨λp m=>⟨(C.own p (yaA_ _ m)).1,λhi=>?_⟩,A.2.1,λb q=>?_⟩
    . rcases hi with hi|hi
      . exact (C.own p (yaA_ _ m)).2 hi
      . exact A.2.2 _ hi _ (yaU_ m) rfl
    . rcases q with q|q
      . exact C.lt b q
      . obtain⟨p,m,rfl⟩:=yap_.1 q
        exact I p m
  have J:v.le ⟨λb=>v.im b\/b∈B.map Prod.fst,v.w,v.sl⟩:=⟨λb h=>.inl h,λ_ _=>rfl,rfl⟩;have Q:=S ⟨λb=>v.im b\/b∈B.map Prod.fst,v.w,v.sl⟩ (λp m=>⟨.inr (yaU_ m),(C.own p (yam_ _ m)).1⟩) (av_ J U);refine (L.run _ M Q).mono ?_;rintro e w' ⟨x,G,rfl,rfl,E,_,y⟩;have hB:∀ b,b∈B.map Prod.fst->G.im b:=λb q=>y.imUp b (.inr q)
  refine⟨x,⟨λb=>G.im b/\b ∉ B.map Prod.fst,G.w,G.sl⟩,rfl,rfl,⟨λp m=>?_,?_,λb q=>E.lt b q.1⟩,trivial,?_⟩
  . rcases yah_.1 m with m|m
    . refine⟨?_,λh=>h.2 (yaU_ m)⟩
      have:=(y.le M).block p.1 (.inr (yaU_ m));exact this.trans (C.own p (yam_ _ m)).1
    . exact⟨(E.own p m).1,λh=>(E.own p m).2 h.1⟩
  . rw[yat_,ybf_]
    refine⟨A.1,E.nodup,λa V b q e=>?_⟩;subst e;obtain⟨p,m,rfl⟩:=yap_.1 q;exact (E.own p m).2 (hB _ V)
  . refine⟨y.os,y.tape,y.output,y.size,λb q T=>y.block b q (λhm=>T ?_),λb q=>⟨y.imUp b (.inl q),λhm=>?_⟩,λb q=>?_,λb q=>?_,y.sl,y.dr⟩
    . rw[yat_];exact yaA_ _ hm
    . obtain⟨p,m,rfl⟩:=yap_.1 hm
      exact (C.own p (yam_ _ m)).2 q
    . rcases y.imNew b q.1 with (h|h)|h|h
      . exact .inl h
      . exact absurd h q.2
      . exact .inr (.inl (by rw[yat_];exact yaA_ _ h))
      . exact .inr (.inr h)
    . rw[yat_]at q ⊢
      rcases yah_.1 q with h|h
      . exact .inl (yam_ _ h)
      . exact (y.hNew b h).imp (yaA_ _) id
structure KeyT (P:Program) (kt:TypeId) {K:Type} [DecidableEq K] (kv:K->Value):Prop where
  ok:∀ k,hp_ P kt (kv k)
  nf:∀ (k:K) (es:List MapEntry) (ks:List K),es.map (·.key)=ks.map kv->k ∉ ks->do_ P kt (kv k) es none
  sf:∀ (k:K) (es:List MapEntry) (ks:List K) (i:Nat) (e:MapEntry),es.map (·.key)=ks.map kv->ks.Nodup->ks[i]? = some k->es[i]? = some e->do_ P kt (kv k) es (some (i,e.val))
  same:∀ k,Instr.sameBits 10000 (kv k) (kv k)=true
section
variable {P:Program}
theorem pc_ (a b:List UInt8):((⟨a.toArray⟩:ByteArray)==⟨b.toArray⟩)=decide (a=b):=by
  show (a.toArray==b.toArray)=_
  rw[ybx_];simp
theorem sP_ {kt:TypeId} (C:P.underlying kt=some .string):KeyT P kt str where
  ok:=λk e w=>by
    have key:∀ m,(Instr.checkKey e (m+1) kt (str k)).run P w=.ok () w:=λm=>by simp[Instr.checkKey,run_underlying C,str]
    exact key 9999
  nf:=λk es ks h hk=>aw_ C (by
    have:∀ (ks:List Str) (es:List MapEntry) (i:Nat),es.map (·.key)=ks.map str->k ∉ ks->Instr.findNow .string (str k) es i=some none:=by
      intro ks
      induction ks with
      | nil => intro es i h _; have : es = [] := by simpa using h
               subst this;rfl
      | cons q ks ih =>
        intro es i h hk;cases es with
        | nil=>simp at h
        | cons e es =>
          simp only[yay_,ybE_]at h;simp only[yan_,ydH_]at hk
          have y:Instr.sameNow .string (str k) e.key=some false:=by
            rw[h.1];show some ((⟨k.toArray⟩:ByteArray)==⟨q.toArray⟩)=some false
            rw[pc_,yaS_ hk.1]
          simp only[Instr.findNow,y];exact ih es (i+1) h.2 hk.2
    exact this ks es 0 h hk)
  sf:=λk es ks i e h A hi v=>aw_ C (by
    have:∀ (ks:List Str) (es:List MapEntry) (j i:Nat),es.map (·.key)=ks.map str->ks.Nodup->ks[i]? = some k->es[i]? = some e->Instr.findNow .string (str k) es j=some (some (j+i,e.val)):=by
      intro ks
      induction ks with
      | nil=>intro es j i _ _ h;simp at h
      | cons q ks ih =>
        intro es j i h A hi v;cases es with
        | nil=>simp at h
        | cons x es =>
          simp only[yay_,ybE_]at h;rw[ybG_]at A;cases i with
          | zero =>
            simp only[ybe_,yak_]at hi v;subst hi;subst v
            have y:Instr.sameNow .string (str q) x.key=some true:=by
              rw[h.1];show some ((⟨q.toArray⟩:ByteArray)==⟨q.toArray⟩)=some true
              rw[pc_,yaC_ rfl]
            simp only[Instr.findNow,y,ycl_]
          | succ i =>
            simp only[ybu_]at hi v;have B:k≠q:=λe=>A.1 (e▸yad_ hi)
            have y:Instr.sameNow .string (str k) x.key=some false:=by
              rw[h.1];show some ((⟨k.toArray⟩:ByteArray)==⟨q.toArray⟩)=some false
              rw[pc_,yaS_ B]
            simp only[Instr.findNow,y];rw[ih es (j+1) i h.2 A.2 hi v,show j+1+i=j+(i+1) by omega]
    have:=this ks es 0 i h A hi v;rwa [ybw_]at this)
  same:=λk=>by
    have key:∀ m,Instr.sameBits m (str k) (str k)=true:=λm=>by
      cases m<;>(show ((⟨k.toArray⟩:ByteArray)==⟨k.toArray⟩)=true;rw[pc_,yaC_ rfl])
    exact key 10000
theorem fz_ {K:Type} [DecidableEq K] {kt:TypeId} {fs:Array Field} {kv:K->Value} (F:P.underlying kt=some (.struct fs)) (E:∀ k,hp_ P kt (kv k)) (m:∀ p q w,(Op.equal kt (kv p) (kv q)).run P w=.ok (decide (p=q)) w) (v:∀ k,Instr.sameBits 10000 (kv k) (kv k)=true):KeyT P kt kv where
  ok:=E
  nf:=λk es ks h hk=>(hQ_ F m k ks es h).1 hk
  sf:=λk es ks i e h A hi y=>by
    have key:∀ (ks:List K) (es:List MapEntry) (j i:Nat),es.map (·.key)=ks.map kv->ks.Nodup->ks[i]? = some k->es[i]? = some e->∀ w,(Instr.findAsking kt (kv k) es j).run P w=.ok (some (j+i,e.val)) w:=by
      intro ks
      induction ks with
      | nil=>intro es j i _ _ h;simp at h
      | cons q ks ih =>
        intro es j i h A hi y w;cases es with
        | nil=>simp at h
        | cons x es =>
          simp only[yay_,ybE_]at h;rw[ybG_]at A;cases i with
          | zero =>
            simp only[ybe_,yak_]at hi y;subst hi;subst y;simp only[Instr.findAsking,Sem.run_bind,h.1,m,Result.andThen_ok,decide_true,ycn_,Sem.run_pure,ycl_]
          | succ i =>
            simp only[ybu_]at hi y;have C:k≠q:=λe=>A.1 (e▸yad_ hi)
            simp only[Instr.findAsking,Sem.run_bind,h.1,m,Result.andThen_ok,C,ydO_,ybn_,yce_];rw[ih es (j+1) i h.2 A.2 hi y w,show j+1+i=j+(i+1) by omega]
    intro w;have B:∀ (x:MapEntry) (r:List MapEntry),Instr.findNow (.struct fs) (kv k) (x::r) 0=none:=λx r=>by simp[Instr.findNow,Instr.sameNow]
    cases es with
    | nil=>simp at y
    | cons x r =>
      simp only[Instr.findKey,Sem.run_bind,run_underlying F,Result.andThen_ok,B];have:=key ks (x::r) 0 i h A hi y w;rwa [ybw_]at this
  same:=v
end
theorem el_ (n:Nat) {k:IntKind} (i:Int):Instr.sameBits n (.int k i) (.int k i)=true:=by
  cases n<;>simp[Instr.sameBits]
theorem dh_ (n:Nat) (s:List UInt8):Instr.sameBits n (str s) (str s)=true:=by
  cases n<;>(show ((⟨s.toArray⟩:ByteArray)==⟨s.toArray⟩)=true;rw[pc_,yaC_ rfl])
theorem iH_ {n:Nat} {l:List Value} (h:∀ v∈l,Instr.sameBits n v v=true):Instr.sameBits (n+1) (.agg l.toArray) (.agg l.toArray)=true:=by
 simp only[Instr.sameBits,BEq.rfl,Bool.true_and,yaW_];intro p m
 have:∀ (l:List Value),(∀ v∈l,Instr.sameBits n v v=true)->∀ p∈l.zip l,Instr.sameBits n p.1 p.2=true:=by
   intro l
   induction l with
   | nil=>intro _ p m;simp at m
   | cons a l ih =>
     intro h p m;simp only[List.zip_cons_cons,yan_]at m;rcases m with rfl|m
     . exact h a zaj_
     . exact ih (λv q=>h v (by simp[q])) p m
 exact this l h p m
structure Born (es:Array MapEntry) (c:Nat):Prop where
  lt:∀ x∈es.toList,x.born<c
  nd:(es.toList.map (·.born)).Nodup
theorem Born.nil (c:Nat):Born #[] c:=⟨by simp,by simp⟩
theorem Born.push {es:Array MapEntry} {c:Nat} (h:Born es c) (q val:Value):Born (es.push ⟨q,val,c⟩) (c+1):=by
 refine⟨λx m=>?_,?_⟩
 .rw[yct_,yah_]at m
  rcases m with m|m
  .exact Nat.lt_succ_of_lt (h.lt x m)
  rw[yai_]at m;rw[m];exact Nat.lt_succ_self _
 rw[yct_,yat_,ybf_];refine⟨h.nd,by simp,λa v b y e=>?_⟩;obtain⟨x,m,rfl⟩:=yap_.1 v;simp at y
 have:=h.lt x m;omega
theorem Born.modify {es:Array MapEntry} {c:Nat} (h:Born es c) (i:Nat) (f:MapEntry->MapEntry) (q:∀ e,(f e).born=e.born):Born (es.modify i f) c:=by
 have m:(es.modify i f).toList.map (·.born)=es.toList.map (·.born):=by
   apply ybD_
   intro j;simp only[yaH_,yaQ_,ybk_]
   split
   . cases es[j]? <;> simp[q]
   . rfl
 refine⟨λx A=>?_,by rw[m];exact h.nd⟩;have:x.born∈(es.modify i f).toList.map (·.born):=yaU_ A;rw[m]at this;obtain⟨y,v,e⟩:=yap_.1 this;rw[<-e];exact h.lt y v
theorem Born.find {es:Array MapEntry} {c i:Nat} {x:MapEntry} (h:Born es c) (v:es[i]? = some x):es.findIdx? (λe=>(e.born:Int)==(x.born:Int))=some i:=by
  rw[Array.findIdx?_eq_some_iff_getElem];obtain⟨hi,rfl⟩:=yax_.1 v;refine⟨hi,by simp,λj q=>?_⟩;simp only[beq_eq_false_iff_ne,ne_eq,Bool.not_eq_true];intro e;have m:j<es.size:=Nat.lt_trans q hi;have:=h.nd;rw[List.nodup_iff_pairwise_ne,yaP_]at this;have:=this j i zaA_ (by simpa using hi) q;simp at this
  exact this (by exact_mod_cast e)
section
variable {K D:Type} [DecidableEq K] (kv:K->Value) (cells:D->List Value) (e:TypeId) (sz:Nat) (l:List (K×D))
def ho_:List K->List MapEntry->Hp->Prop
  | [],[],H=>H=[]
  | k::ks,x::es,H=>∃ Hk Hr,H=Hk++Hr/\x.key=kv k/\at_ e sz x.val (lat l k).length ((lat l k).flatMap cells) Hk/\ho_ ks es Hr
  | _,_,_=>False
def cU_ (mb:Nat) (H:Hp):Prop:=∃ ks es c Hr,H=(mb,.map es c)::Hr/\ks.Nodup/\(∀ x∈l,x.1∈ks)/\ho_ kv cells e sz l ks es.toList Hr/\Born es c
end
section
variable {K D:Type} [DecidableEq K] {kv:K->Value} {cells:D->List Value} {e:TypeId} {sz:Nat} {l:List (K×D)}
theorem ho_.keys:∀ {ks:List K} {es:List MapEntry} {H:Hp},ho_ kv cells e sz l ks es H->es.map (·.key)=ks.map kv
  | [],[],_,_=>rfl
  | k::ks,x::es,_,h=>by
    obtain⟨v,Hr,_,m,_,q⟩:=h;simp[m,q.keys]
  | [],_::_,_,h=>h.elim
  | _::_,[],_,h=>h.elim
theorem ho_.congr {m:List (K×D)}:∀ {ks:List K} {es:List MapEntry} {H:Hp},(∀ k∈ks,lat m k=lat l k)->ho_ kv cells e sz l ks es H->ho_ kv cells e sz m ks es H
  | [],[],_,_,h=>h
  | k::ks,x::es,_,hl,h=>by
    obtain⟨A,Hr,C,B,y,E⟩:=h;exact⟨A,Hr,C,B,by rw[hl k zaj_];exact y,E.congr λq v=>hl q (by simp[v])⟩
  | [],_::_,_,_,h=>h.elim
  | _::_,[],_,_,h=>h.elim
theorem ho_.get : ∀ {ks : List K} {es : List MapEntry} {H : Hp} {i : Nat} {k : K}, ho_ kv cells e sz l ks es H->ks.Nodup->ks[i]? = some k->∃ x A Hr, es[i]? = some x/\H.Perm (A ++ Hr)/\x.key = kv k/\at_ e sz x.val (lat l k).length ((lat l k).flatMap cells) A/\
      ∀ (v:List (K×D)) (y:MapEntry) (m:Hp),y.key=kv k->(∀ q,q≠k->lat v q=lat l q)->at_ e sz y.val (lat v k).length ((lat v k).flatMap cells) m->∃ H',ho_ kv cells e sz v ks (es.set i y) H'/\H'.Perm (m++Hr)
  | [],_,_,_,_,_,_,h=>by simp at h
  | _::_,[],_,_,_,h,_,_=>h.elim
  | q::ks,x::es,H,0,k,h,hn,hi=>by
    simp only[ybe_,yak_]at hi;subst hi;rw[ybG_]at hn;obtain⟨A,Hr,I,L,G,J⟩:=h;exact⟨x,A,Hr,rfl,I▸.refl _,L,G,λv y m E C M=>⟨m++Hr,⟨m,Hr,rfl,E,M,J.congr λz X=>C z (λe=>hn.1 (e▸X))⟩,.refl _⟩⟩
  | q::ks,x::es,H,i+1,k,h,hn,hi=>by
    simp only[ybu_]at hi;rw[ybG_]at hn;obtain⟨B,Y,I,L,G,J⟩:=h;obtain⟨y,A,Hr,U,T,Q,S,V⟩:=J.get hn.2 hi;have F:q≠k:=λe=>hn.1 (e▸yad_ hi)
    refine⟨y,A,B++Hr,U,?_,Q,S,λv z m E C M=>?_⟩
    . rw[I]
      refine (ybJ_ B T).trans ?_;rw[<-yar_,<-yar_];exact yaB_.append_right _
    . obtain⟨H',O,W⟩:=V v z m E C M
      refine⟨B++H',⟨B,H',rfl,L,by rw[C q F];exact G,O⟩,(ybJ_ B W).trans ?_⟩;rw[<-yar_,<-yar_];exact yaB_.append_right _
theorem ho_.push:∀ {ks:List K} {es:List MapEntry} {H:Hp} {k:K} {x:MapEntry} {Hk:Hp},ho_ kv cells e sz l ks es H->x.key=kv k->at_ e sz x.val (lat l k).length ((lat l k).flatMap cells) Hk->ho_ kv cells e sz l (ks++[k]) (es++[x]) (H++Hk)
  | [],[],_,k,x,Hk,h,h1,h2=>by subst h;exact⟨Hk,[],by simp,h1,h2,rfl⟩
  | q::ks,y::es,_,k,x,Hk,h,h1,h2=>by
    obtain⟨B,Hr,rfl,A,m,v⟩:=h;exact⟨B,Hr++Hk,by simp,A,m,v.push h1 h2⟩
  | [],_::_,_,_,_,_,h,_,_=>h.elim
  | _::_,[],_,_,_,_,h,_,_=>h.elim
theorem jp_ {k q:K} {d:D} (h:q≠k):lat (l++[(k,d)]) q=lat l q:=by
  rw[oA_];simp[lat,Ne.symm h]
theorem ea_ {k:K} {d:D}:lat (l++[(k,d)]) k=lat l k++[d]:=by
  rw[oA_];simp[lat]
theorem cU_.open {P:Program} {kt:TypeId} (Q:KeyT P kt kv) {A:Nat} {H:Hp} (h:cU_ kv cells e sz l A H) (k:K) :
    ∃ es c sv G Hr,H.Perm ((A,.map es c)::(G++Hr))/\at_ e sz sv (lat l k).length ((lat l k).flatMap cells) G/\
      ((do_ P kt (kv k) es.toList none/\sv=.slice none 0 0/\∀ d sv' m,at_ e sz sv' (lat (l++[(k,d)]) k).length ((lat (l++[(k,d)]) k).flatMap cells) m->∃ H',cU_ kv cells e sz (l++[(k,d)]) A H'/\H'.Perm ((A,.map (es.push ⟨kv k,sv',c⟩) (c+1))::(m++Hr)))\/
       (∃ i x,do_ P kt (kv k) es.toList (some (i,sv))/\es[i]? = some x/\x.key=kv k/\x.val=sv/\∀ d sv' m,at_ e sz sv' (lat (l++[(k,d)]) k).length ((lat (l++[(k,d)]) k).flatMap cells) m->∃ H',cU_ kv cells e sz (l++[(k,d)]) A H'/\H'.Perm ((A,.map (es.modify i λy=>{ y with key:=kv k,val:=sv' }) c)::(m++Hr)))):=by
  obtain⟨ks,es,c,S,rfl,F,hl,hm,E⟩:=h
  by_cases hk:k∈ks
  . obtain⟨i,hi⟩:=ybq_ hk
    obtain⟨x,G,Hr,L,W,g3,Y,Z⟩:=hm.get F hi;have T:es[i]? = some x:=by rw[<-yaQ_];exact L
    refine⟨es,c,x.val,G,Hr,.cons _ W,Y,.inr ⟨i,x,Q.sf k es.toList ks i x hm.keys F hi L,T,g3,rfl,λd sv' m M=>?_⟩⟩;obtain⟨H',V,X⟩:=Z (l++[(k,d)]) { x with key:=kv k,val:=sv' } m rfl (λq J=>jp_ J) M;refine⟨(A,.map (es.modify i λy=>{ y with key:=kv k,val:=sv' }) c)::H',⟨ks,_,c,H',rfl,F,λy v=>?_,?_,E.modify i _ λ_=>rfl⟩,.cons _ X⟩
    . rcases yah_.1 v with v|v
      . exact hl y v
      . simp at v;rw[v];exact hk
    . have e1:(es.modify i λy=>{ y with key:=kv k,val:=sv' }).toList=es.toList.set i { x with key:=kv k,val:=sv' }:=by
        apply ybD_
        intro j;rw[yaQ_,ybk_,ybZ_,yaQ_]
        by_cases C:i=j
        . subst C
          have I:i<es.toList.length:=(yac_.1 L).1;simp only[ycn_,T,yaO_,yao_ I]
        . simp[C]
      rw[e1];exact V
  . have B:lat l k=[]:=by
      apply ybP_.2
      intro d U;exact hk (hl _ (cb_.1 U))
    refine⟨es,c,.slice none 0 0,[],S,.refl _,by rw[B];exact at_.nil _ _,.inl ⟨Q.nf k es.toList ks hm.keys hk,rfl,λd sv' m M=>?_⟩⟩;refine⟨(A,.map (es.push ⟨kv k,sv',c⟩) (c+1))::(S++m),⟨ks++[k],_,_,_,rfl,?_,λy v=>?_,?_,E.push _ _⟩,.cons _ yaB_⟩
    . rw[ybf_];exact⟨F,by simp,λa ha b O e=>by simp at O;subst O;subst e;exact hk ha⟩
    . rcases yah_.1 v with v|v
      . exact yam_ _ (hl y v)
      . simp at v;simp[v]
    . rw[yct_]
      exact (hm.congr λq J=>jp_ (λ(e:q=k)=>hk (e▸J))).push rfl M
structure MOpn (kv:K->Value) (cells:D->List Value) (e:TypeId) (sz:Nat) (l:List (K×D)) (mb:Nat) (k:K) (es:Array MapEntry) (c i:Nat) (st:Int) (Hr:Hp):Prop where
  find:es.findIdx? (λx=>(x.born:Int)==st)=some i
  close:∀ d sv' Hk',at_ e sz sv' (lat (l++[(k,d)]) k).length ((lat (l++[(k,d)]) k).flatMap cells) Hk'->∃ H',cU_ kv cells e sz (l++[(k,d)]) mb H'/\H'.Perm ((mb,.map (es.modify i λy=>{ y with val:=sv' }) c)::(Hk'++Hr))
theorem uf_ {es:Array MapEntry} {i:Nat} {x:MapEntry} {key:Value} (m:es[i]? = some x) (hk:x.key=key):(es.modify i λy=>{ y with key:=key })=es:=by
 apply yco_
 intro j;rw[ybk_]
 by_cases h:i=j
 .subst h;rw[yao_ rfl,m];simp only[yaO_];rw[<-hk]
 rw[yag_ h]
theorem cU_.entry {P:Program} {kt:TypeId} (X:KeyT P kt kv) {F:Nat} {H:Hp} (h:cU_ kv cells e sz l F H) (k:K) :
    ∃ es c A O i st sv L Hr,H.Perm ((F,.map es c)::(L++Hr))/\at_ e sz sv (lat l k).length ((lat l k).flatMap cells) L/\MOpn kv cells e sz l F k A O i st Hr/\
      ((do_ P kt (kv k) es.toList none/\sv=.slice none 0 0/\A=es.push ⟨kv k,.slice none 0 0,c⟩/\O=c+1/\st=(c:Int))\/(∃ j x,do_ P kt (kv k) es.toList (some (j,sv))/\es[j]? = some x/\x.key=kv k/\A=es/\O=c/\st=(x.born:Int))):=by
  have h0:=h;obtain⟨ks,es,c,Y,rfl,I,hl,hm,v⟩:=h0
  by_cases hk:k∈ks
  . obtain⟨i,hi⟩:=ybq_ hk
    obtain⟨x,L,Hr,S,g2,Z,g4,g5⟩:=hm.get I hi;have V:es[i]? = some x:=by rw[<-yaQ_];exact S
    refine⟨es,c,es,c,i,x.born,x.val,L,Hr,.cons _ g2,g4,⟨v.find V,λd sv' B T=>?_⟩,.inr ⟨i,x,X.sf k es.toList ks i x hm.keys I hi S,V,Z,rfl,rfl,rfl⟩⟩;obtain⟨H',j1,j2⟩:=g5 (l++[(k,d)]) { x with key:=kv k,val:=sv' } B rfl (λq Q=>jp_ Q) T;refine⟨(F,.map (es.modify i λy=>{ y with val:=sv' }) c)::H',⟨ks,_,c,H',rfl,I,λy m=>?_,?_,v.modify i _ λ_=>rfl⟩,.cons _ j2⟩
    . rcases yah_.1 m with m|m
      . exact hl y m
      . simp at m;rw[m];exact hk
    . have e1:(es.modify i λy=>{ y with val:=sv' }).toList=es.toList.set i { x with key:=kv k,val:=sv' }:=by
        apply ybD_
        intro j;rw[yaQ_,ybk_,ybZ_,yaQ_]
        by_cases E:i=j
        . subst E
          have M:i<es.toList.length:=(yac_.1 S).1;simp only[ycn_,V,yaO_,yao_ M];rw[<-Z]
        . simp[E]
      rw[e1];exact j1
  . have C:lat l k=[]:=by
      apply ybP_.2
      intro d hd;exact hk (hl _ (cb_.1 hd))
    have U:=v.push (kv k) (.slice none 0 0);have G:(es.push ⟨kv k,.slice none 0 0,c⟩)[es.size]? = some ⟨kv k,.slice none 0 0,c⟩:=by simp
    refine⟨es,c,es.push ⟨kv k,.slice none 0 0,c⟩,c+1,es.size,(c:Int),.slice none 0 0,[],Y,.refl _,by rw[C];exact at_.nil _ _,⟨U.find G,λd sv' B T=>?_⟩,.inl ⟨X.nf k es.toList ks hm.keys hk,rfl,rfl,rfl,rfl⟩⟩
    have e2:((es.push ⟨kv k,.slice none 0 0,c⟩).modify es.size λy=>{ y with val:=sv' })=es.push ⟨kv k,sv',c⟩:=by
      apply yco_
      intro j;rw[ybk_,ycC_,ycC_]
      by_cases J:j=es.size
      . subst J;simp
      . rw[yag_ (λq=>J q.symm),yag_ J,yag_ J]
    rw[e2];refine⟨(F,.map (es.push ⟨kv k,sv',c⟩) (c+1))::(Y++B),⟨ks++[k],_,_,_,rfl,?_,λy m=>?_,?_,v.push _ _⟩,.cons _ yaB_⟩
    . rw[ybf_];exact⟨I,by simp,λa ha b W e=>by simp at W;subst W;subst e;exact hk ha⟩
    . rcases yah_.1 m with m|m
      . exact yam_ _ (hl y m)
      . simp at m;simp[m]
    . rw[yct_]
      exact (hm.congr λq Q=>jp_ (λ(e:q=k)=>hk (e▸Q))).push rfl T
theorem cU_.nil (h:Nat) (c:Nat):cU_ kv cells e sz ([]:List (K×D)) h [(h,.map #[] c)]:=⟨[],#[],c,[],rfl,ycA_,by simp,rfl,Born.nil c⟩
def mlF (P:Program) (kt:TypeId) (kv:K->Value) (cells:D->List Value) (mb:Nat) (l:List (K×D)) (adr:K->Ao×Nat):Fct where
  p:=λv=>v.im mb/\∃ es c,v.w.heap[mb]? = some (.map es c)/\∀ k,bG_ v (adr k).1 ((lat l k).flatMap cells)/\
    ((do_ P kt (kv k) es.toList none/\Value.slice (adr k).1 (lat l k).length (adr k).2=.slice none 0 0)\/∃ i,do_ P kt (kv k) es.toList (some (i,.slice (adr k).1 (lat l k).length (adr k).2)))
  mono:=λv v' h ⟨h1,es,c,h2,h3⟩=>⟨h.imUp mb h1,es,c,by rw[h.block mb h1];exact h2,λk=>⟨(ac_ _ _).mono v v' h (h3 k).1,(h3 k).2⟩⟩
theorem ba_ {P:Program} {kt:TypeId} {m:Nat} {adr:K->Ao×Nat} {v:Vw} (h:(mlF P kt kv cells m l adr).p v) (k:K):bG_ v (adr k).1 ((lat l k).flatMap cells):=by
  obtain⟨_,_,_,_,h⟩:=h;exact (h k).1
theorem we_ {sv:Value} {n:Nat} {xs:List Value} {Hr:Hp} {v:Vw} (h:at_ e sz sv n xs Hr) (C:∀ p∈Hr,v.im p.1/\v.w.heap[p.1]? = some p.2):∃ ad cap,sv=.slice ad n cap/\n<=cap/\cap<=maxLen/\(n≠0->∃ b,ad=some ⟨b,0,none⟩)/\bG_ v ad xs:=by
 rcases h.2 with⟨rfl,rfl,rfl⟩|⟨g,cap,cur,rfl,rfl,y,E,F,B⟩
 .have:xs=[]:=yau_ (by simpa using h.1)
  exact⟨none,0,rfl,yaj_ _,by simp[maxLen],λh=>absurd rfl h,.inl this⟩
 obtain⟨q,A⟩:=C _ (yai_.2 rfl);refine⟨some ⟨g,0,none⟩,cap,rfl,y,E,λ_=>⟨g,rfl⟩,.inr ⟨g,0,cur,e,(0,0),rfl,q,A,λj x m=>?_⟩⟩;rw[<-B,yaK_]at m
 split at m
 .rw[ybw_,<-yaQ_];exact m
 cases m
theorem cU_.lentC {P:Program} {kt:TypeId} (M:KeyT P kt kv) {E:Nat} {H:Hp} (h:cU_ kv cells e sz l E H):∃ adr:K->Ao×Nat,(∀ k,(lat l k).length<=(adr k).2/\((adr k).1=none->(adr k).2=0))/\∀ v:Vw,(∀ p∈H,v.im p.1/\v.w.heap[p.1]? = some p.2)->(mlF P kt kv cells E l adr).p v:=by
 have U:=h;obtain⟨ks,es,c,X,rfl,S,hl,hm,_⟩:=U
 have y:∀ k,∃ q:Ao×Nat,((lat l k).length<=q.2/\(q.1=none->q.2=0))/\∀ v:Vw,(∀ p∈(E,Obj.map es c)::X,v.im p.1/\v.w.heap[p.1]? = some p.2)->bG_ v q.1 ((lat l k).flatMap cells)/\((do_ P kt (kv k) es.toList none/\Value.slice q.1 (lat l k).length q.2=.slice none 0 0)\/∃ i,do_ P kt (kv k) es.toList (some (i,.slice q.1 (lat l k).length q.2))):=λk=>by
   by_cases hk:k∈ks
   . obtain⟨i,hi⟩:=ybq_ hk
     obtain⟨x,Hk,Hr,I,C,g3,O,_⟩:=hm.get S hi;have Z:=M.sf k es.toList ks i x hm.keys S hi I
     have F:∃ ad cap,x.val=.slice ad (lat l k).length cap/\(lat l k).length<=cap/\(ad=none->cap=0):=by
       rcases O.2 with⟨G,q2,_⟩|⟨g,cap,cur,G,_,V,_⟩
       . exact⟨none,0,by rw[G,q2],by omega,λ_=>rfl⟩
       . exact⟨_,cap,G,V,λq=>by cases q⟩
     obtain⟨ad,cap,Q,B⟩:=F;refine⟨(ad,cap),B,λv A=>⟨?_,.inr ⟨i,by rw[<-Q];exact Z⟩⟩⟩;obtain⟨Y,L,J,_,_,_,hr⟩:=we_ O λp W=>A p (yaE_ _ (C.mem_iff.2 (yam_ _ W)))
     rw[Q]at J;simp only[Value.slice.injEq]at J;rw[J.1];exact hr
   . have m:lat l k=[]:=by
       apply ybP_.2
       intro d T;exact hk (hl _ (cb_.1 T))
     exact⟨(none,0),⟨by rw[m];simp,λ_=>rfl⟩,λv A=>⟨.inl (by rw[m];rfl),.inl ⟨M.nf k es.toList ks hm.keys hk,by rw[m];rfl⟩⟩⟩
 refine⟨λk=>(y k).choose,λk=>(y k).choose_spec.1,λv A=>?_⟩;obtain⟨I,C⟩:=A _ yav_;exact⟨I,es,c,C,λk=>(y k).choose_spec.2 v A⟩
theorem cU_.lent {P:Program} {kt:TypeId} (q:KeyT P kt kv) {m:Nat} {H:Hp} (h:cU_ kv cells e sz l m H):∃ adr,∀ v:Vw,(∀ p∈H,v.im p.1/\v.w.heap[p.1]? = some p.2)->(mlF P kt kv cells m l adr).p v:=⟨_,(h.lentC q).choose_spec.2⟩
end
section
variable {P:Program} {K:Type} [DecidableEq K] {kv:K->Value} {kt:TypeId}
structure SetE (kv:K->Value) (es:Array MapEntry) (q:List K):Prop where
  keys:es.toList.map (·.key)=q.map kv
  vals:∀ x∈es.toList,x.val=.bool true
  nd:q.Nodup
theorem SetE.nil:SetE kv #[] ([]:List K):=⟨rfl,by simp,ycA_⟩
theorem SetE.size {es:Array MapEntry} {q:List K} (h:SetE kv es q):es.size=q.length:=by
  have:=yae_ List.length h.keys;simpa using this
theorem SetE.yes (B:KeyT P kt kv) {es:Array MapEntry} {q:List K} (h:SetE kv es q) {k:K} (hk:k∈q):∃ i x,q[i]? = some k/\es[i]? = some x/\x.key=kv k/\x.val=.bool true/\do_ P kt (kv k) es.toList (some (i,.bool true)):=by
  obtain⟨i,hi⟩:=ybq_ hk
  have m:i<es.toList.length:=by
    have:=(yac_.1 hi).1;have e:=yae_ List.length h.keys;simp at e this ⊢;omega
  have y:=yaa_ m;have A:=h.vals _ (ycP_ m)
  have v:es.toList[i].key=kv k:=by
    have:=yae_ (λl=>l[i]?) h.keys;simp only[yaH_,y,hi,yaO_,yak_]at this;exact this
  refine⟨i,es.toList[i],hi,by rw[<-yaQ_];exact y,v,A,?_⟩;have:=B.sf k es.toList q i _ h.keys h.nd hi y;rwa [A]at this
theorem SetE.no (m:KeyT P kt kv) {es:Array MapEntry} {q:List K} (h:SetE kv es q) {k:K} (hk:k ∉ q):do_ P kt (kv k) es.toList none:=m.nf k es.toList q h.keys hk
theorem SetE.push {es:Array MapEntry} {q:List K} (h:SetE kv es q) {k:K} (hk:k ∉ q) (c:Nat):SetE kv (es.push ⟨kv k,.bool true,c⟩) (q++[k]):=by
 refine⟨by simp[h.keys],λx m=>?_,?_⟩
 .rw[yct_,yah_]at m
  rcases m with m|m
  .exact h.vals x m
  simp at m;rw[m]
 rw[ybf_];exact⟨h.nd,by simp,λa y b v e=>by simp at v;subst v;subst e;exact hk y⟩
end
section ops
variable {P:Program} {N:Nf} {v0:Vw} {H0:Hp} {R:Exit->Act->World->Prop} {Kk:List Kt} {fr:Fr} {H:Hp} {Γ:List Fct}
variable {ops:Array Oper} {lo:List Oper} {d:Nat} {ty:TypeId} {ps:String} {af:Array Edge}
variable {K D:Type} [DecidableEq K] {kv:K->Value} {cells:D->List Value}
theorem bM_ {t kt G:TypeId} {x y:Operand} {E:Nat} {l:List (K×D)} {adr:K->Ao×Nat} {k:K} (F:KeyT P kt kv) (A:∀ w,(underlying t).run P w=.ok (.map kt G) w) (Q:∀ w,(zeroValue G).run P w=.ok (.slice none 0 0) w) (C:Fr.ev fr x=some (.map (some E))) (q:Fr.ev fr y=some (kv k))
    (hm:∀ v,v.sat H->af_ Γ v->(mlF P kt kv cells E l adr).p v):Yld P N fr H Γ (.lookup t x y false) ty (.slice (adr k).1 (lat l k).length (adr k).2) :=
  λa v h J O _ _ _=>by
    obtain⟨_,es,c,I,L⟩:=hm v J O;have B:=MapKept.run_getObj_map (P:=P) I;rcases (L k).2 with⟨m,M⟩|⟨i,m⟩
    . rw[M];simp[execOp,h.ev C,h.ev q,Instr.lookup,A,B,F.ok _ _ _,m _,Q]
    . simp[execOp,h.ev C,h.ev q,Instr.lookup,A,B,F.ok _ _ _,m _]
theorem bH_ {t kt F:TypeId} {x y:Operand} {E c:Nat} {es:Array MapEntry} {q:List K} {k:K} (h:KeyT P kt kv) (A:∀ w,(underlying t).run P w=.ok (.map kt F) w) (I:∀ w,(zeroValue F).run P w=.ok (.bool false) w) (B:Fr.ev fr x=some (.map (some E))) (m:Fr.ev fr y=some (kv k))
    (C:SetE kv es q) (hm:∀ v,v.sat H->af_ Γ v->v.w.heap[E]? = some (.map es c)):Yld P N fr H Γ (.lookup t x y false) ty (.bool (decide (k∈q))):=by
  by_cases hk:k∈q
  . obtain⟨i,_,_,_,_,_,G⟩:=C.yes h hk
    rw[yaC_ hk];exact eY_ A B m hm (h.ok k) G
  . rw[yaS_ hk]
    exact eI_ A I B m hm (h.ok k) (C.no h hk)
theorem xw_ {t kt E:TypeId} {x:Operand} {h c:Nat} {es:Array MapEntry} (A:∀ w,(underlying t).run P w=.ok (.map kt E) w) (C:Fr.ev fr x=some (.map (some h))) (hm:∀ v,v.sat H->af_ Γ v->v.w.heap[h]? = some (.map es c)) :
    Yld P N fr H Γ (.call ⟨.builtin .len,#[x],#[t]⟩) ty (.int .i64 (es.size:Int)) :=
  λa v y m q _ _ _=>by
    have B:=MapKept.run_getObj_map (P:=P) (hm v m q);simp[execOp,resolve,invoke,builtin,Builtin.len_,y.ev C,A,B,goInt]
theorem hF_ {o:Op} {t kt L:TypeId} {x y z:Operand} {b c i:Nat} (n:Nat) {es:Array MapEntry} {e:MapEntry} {k:K} {u u':Value} (F:KeyT P kt kv) (Q:o=.insert t x y z\/o=.mapUpdate t x y z) (U:∀ w,(underlying t).run P w=.ok (.map kt L) w)
    (X:Fr.ev fr x=some (.map (some b))) (T:Fr.ev fr y=some (kv k)) (M:Fr.ev fr z=some u) (hi:H[n]? = some (b,.map es c)) (O:do_ P kt (kv k) es.toList (some (i,u'))) (C:es[i]? = some e) (B:e.key=kv k)
    (A:Ops P R N v0 H0 ops lo Kk fr (H.set n (b,.map (es.modify i λy=>{ y with key:=kv k,val:=u }) c)) Γ):Ops P R N v0 H0 ops (⟨none,o,ty,ps,af,none⟩::lo) Kk fr H Γ :=
  cy_ rfl λa v h m V J=>by
    have q:=(m.own _ (yad_ hi)).1;have I:=MapKept.run_getObj_map (P:=P) q;have W:=MapKept.run_setObj_map (P:=P) (.map (es.modify i λy=>{ y with key:=kv k,val:=u }) c) q
    have C:(execOp a.eval ⟨none,o,ty,ps,af,none⟩).run P v.w=.ok .skip { v.w with heap:=v.w.heap.setIfInBounds b (.map (es.modify i λy=>{ y with key:=kv k,val:=u }) c) }:=by
      rcases Q with rfl|rfl<;>simp[execOp,h.ev X,h.ev T,h.ev M,Instr.mapUpdate,U,I,F.ok _ _ _,O _,W,Instr.keyThatStays,C,B,F.same]
    unfold Oper.wp;rw[C];have G:=MapKept.heap_set (o':=.map (es.modify i λy=>{ y with key:=kv k,val:=u }) c) q;obtain⟨S,E⟩:=eM_ (w':={ v.w with heap:=v.w.heap.setIfInBounds b (.map (es.modify i λy=>{ y with key:=kv k,val:=u }) c) }) m hi rfl rfl rfl (yaj_ _) zaj_ G.1 (λk hk=>G.2 k hk);exact A a _ h S (V.trans E) (av_ (E.le m) J)
theorem iP_ {es:Array MapEntry} {i:Nat} {e:MapEntry} {key val:Value} (m:es[i]? = some e) (hk:e.key=key) (q:e.val=val):(es.modify i λy=>{ y with key:=key,val:=val })=es:=by
 apply yco_
 intro j;rw[ybk_]
 by_cases h:i=j
 .subst h;rw[yao_ rfl,m];simp only[yaO_];rw[<-hk,<-q]
 rw[yag_ h]
theorem oo_ {o:Op} {t kt M:TypeId} {x y z:Operand} {b c:Nat} (n:Nat) {es:Array MapEntry} {q:List K} {k:K} (v:KeyT P kt kv) (A:o=.insert t x y z\/o=.mapUpdate t x y z) (C:∀ w,(underlying t).run P w=.ok (.map kt M) w)
    (F:Fr.ev fr x=some (.map (some b))) (B:Fr.ev fr y=some (kv k)) (I:Fr.ev fr z=some (.bool true)) (hi:H[n]? = some (b,.map es c)) (m:SetE kv es q)
    (h:∀ es' c',SetE kv es' (if k∈q then q else q++[k])->Ops P R N v0 H0 ops lo Kk fr (H.set n (b,.map es' c')) Γ):Ops P R N v0 H0 ops (⟨none,o,ty,ps,af,none⟩::lo) Kk fr H Γ:=by
  by_cases hk:k∈q
  . obtain⟨i,e,O,G,E,J,L⟩:=m.yes v hk
    refine hF_ n v A C F B I hi L G E ?_;rw[iP_ G E J];exact h es c (by rw[yao_ hk];exact m)
  . exact aE_ n A C F B I hi (v.ok k) (m.no v hk) (h _ _ (by rw[yag_ hk];exact m.push hk c))
theorem fl_ {t kt Q:TypeId} {x y:Operand} {m:Nat} {e:TypeId} {sz:Nat} {l:List (K×D)} {k:K} {Y F:Hp} (G:KeyT P kt kv) (hm:cU_ kv cells e sz l m Y) (W:∀ w,(underlying t).run P w=.ok (.map kt Q) w) (hz:∀ w,(zeroValue Q).run P w=.ok (.slice none 0 0) w)
    (X:Fr.ev fr x=some (.map (some m))) (U:Fr.ev fr y=some (kv k)) (hH:H.Perm (Y++F)) (hN:Nat.blt d N.n=true)
    (hk:∀ es c i st sv C Hr,MOpn kv cells e sz l m k es c i st Hr->at_ e sz sv (lat l k).length ((lat l k).flatMap cells) C->Ops P R N v0 H0 ops lo Kk ((d,.tuple #[sv,.int .i64 st])::fr) ((m,.map es c)::(C++(Hr++F))) Γ) :
    Ops P R N v0 H0 ops (⟨some d,.mapEntry t x y,ty,ps,af,none⟩::lo) Kk fr H Γ:=by
  obtain⟨es,c,h,A,i,st,sv,C,Hr,p1,p2,p3,p4⟩:=hm.entry G k;refine cy_ rfl λa v B h2 h3 h4=>?_
  have S:H.Perm ((m,.map es c)::(C++(Hr++F))):=hH.trans (by
    have:=p1.append_right F;simpa [yar_] using this)
  have q:=h2.perm S;have E:=(q.own _ yav_).1;have M:=MapKept.run_getObj_map (P:=P) E
  have he:(execOp a.eval ⟨some d,.mapEntry t x y,ty,ps,af,none⟩).run P v.w=.ok (.value (.tuple #[sv,.int .i64 st])) { v.w with heap:=v.w.heap.setIfInBounds m (.map h A) }:=by
    rcases p4 with⟨J,rfl,rfl,rfl,rfl⟩|⟨j,z,J,Z,O,rfl,rfl,rfl⟩
    . have L:=MapKept.run_setObj_map (P:=P) (.map (es.push ⟨kv k,.slice none 0 0,c⟩) (c+1)) E
      simp[execOp,B.ev X,B.ev U,Instr.mapEntry,W,M,G.ok _ _ _,J _,hz,L,goInt]
    . have L:=MapKept.run_setObj_map (P:=P) (.map h A) E
      simp[execOp,B.ev X,B.ev U,Instr.mapEntry,W,M,G.ok _ _ _,J _,Instr.keyThatStays,Z,O,G.same,uf_ Z O,L,goInt]
  unfold Oper.wp;rw[he];have V:=MapKept.heap_set (o':=.map h A) E;obtain⟨T,I⟩:=eM_ (i:=0) (o':=.map h A) (w':={ v.w with heap:=v.w.heap.setIfInBounds m (.map h A) }) q rfl rfl rfl rfl (yaj_ _) zaj_ V.1 (λk hk=>V.2 k hk);simp only[ycd_]at T I;exact hk h A i st sv C Hr p3 p2 _ _ (B.put hN) T (h3.trans (I.permL S.symm)) (av_ (I.le q) h4)
theorem cZ_ {t:TypeId} {x y z:Operand} {h c i:Nat} {e:TypeId} {sz:Nat} {l:List (K×D)} {k:K} {dd:D} {es:Array MapEntry} {st:Int} {sv:Value} {B Hr F:Hp} (E:MOpn kv cells e sz l h k es c i st Hr) (W:at_ e sz sv (lat (l++[(k,dd)]) k).length ((lat (l++[(k,dd)]) k).flatMap cells) B)
    (Z:Fr.ev fr x=some (.map (some h))) (V:Fr.ev fr y=some (.int .i64 st)) (T:Fr.ev fr z=some sv) (J:H.Perm ((h,.map es c)::(B++(Hr++F))))
    (hk:∀ H',cU_ kv cells e sz (l++[(k,dd)]) h H'->Ops P R N v0 H0 ops lo Kk fr (H'++F) Γ):Ops P R N v0 H0 ops (⟨none,.entryStore t x y z,ty,ps,af,none⟩::lo) Kk fr H Γ:=by
  obtain⟨H',S,q2⟩:=E.close dd sv B W;refine cy_ rfl λa v A M X Q=>?_;have m:=M.perm J;have q:=(m.own _ yav_).1;have O:=MapKept.run_getObj_map (P:=P) q;have Y:=MapKept.run_setObj_map (P:=P) (.map (es.modify i λy=>{ y with val:=sv }) c) q
  have he:(execOp a.eval ⟨none,.entryStore t x y z,ty,ps,af,none⟩).run P v.w=.ok .skip { v.w with heap:=v.w.heap.setIfInBounds h (.map (es.modify i λy=>{ y with val:=sv }) c) }:=by
    have U:=E.find;simp[execOp,A.ev Z,A.ev V,A.ev T,Instr.entryStore,O,Y,asInt,asIntOf,U]
  unfold Oper.wp;rw[he];have I:=MapKept.heap_set (o':=.map (es.modify i λy=>{ y with val:=sv }) c) q;obtain⟨G,C⟩:=eM_ (i:=0) (o':=.map (es.modify i λy=>{ y with val:=sv }) c) (w':={ v.w with heap:=v.w.heap.setIfInBounds h (.map (es.modify i λy=>{ y with val:=sv }) c) }) m rfl rfl rfl rfl (yaj_ _) zaj_ I.1 (λk hk=>I.2 k hk);simp only[ycd_]at G C
  have L:((h,Obj.map (es.modify i λy=>{ y with val:=sv }) c)::(B++(Hr++F))).Perm (H'++F):=by
    have:=(q2.append_right F).symm;simpa [yar_] using this
  exact hk H' S _ _ A (G.perm L) (X.trans ((C.permL J.symm).subR λb q=>((L.map Prod.fst).mem_iff).2 q)) (av_ (C.le m) Q)
def MOp (P:Program) (kt:TypeId) (kv:K->Value) (cells:D->List Value) (e:TypeId) (sz:Nat) (l:List (K×D)) (mb:Nat) (k:K) (es:Array MapEntry) (c:Nat) (sv:Value) (Hr:Hp):Prop :=
  (do_ P kt (kv k) es.toList none/\sv=.slice none 0 0/\∀ d sv' Hk',at_ e sz sv' (lat (l++[(k,d)]) k).length ((lat (l++[(k,d)]) k).flatMap cells) Hk'->∃ H',cU_ kv cells e sz (l++[(k,d)]) mb H'/\H'.Perm ((mb,.map (es.push ⟨kv k,sv',c⟩) (c+1))::(Hk'++Hr)))\/
  (∃ i x,do_ P kt (kv k) es.toList (some (i,sv))/\es[i]? = some x/\x.key=kv k/\x.val=sv/\∀ d sv' Hk',at_ e sz sv' (lat (l++[(k,d)]) k).length ((lat (l++[(k,d)]) k).flatMap cells) Hk'->∃ H',cU_ kv cells e sz (l++[(k,d)]) mb H'/\H'.Perm ((mb,.map (es.modify i λy=>{ y with key:=kv k,val:=sv' }) c)::(Hk'++Hr)))
theorem nl_ {x:Act->World->Prop} {kt:TypeId} {q:Nat} {e:TypeId} {sz:Nat} {l:List (K×D)} {v F:Hp} (E:KeyT P kt kv) (k:K) (hm:cU_ kv cells e sz l q v) (B:H.Perm (v++F))
    (h:∀ es c sv m Hr,at_ e sz sv (lat l k).length ((lat l k).flatMap cells) m->MOp P kt kv cells e sz l q k es c sv Hr->Ok N v0 H0 x fr ((q,.map es c)::(m++(Hr++F))) Γ):Ok N v0 H0 x fr H Γ:=by
  obtain⟨es,c,sv,m,Hr,A,C,y⟩:=hm.open E k
  refine A_ (B.trans (by
    have:=A.append_right F;simpa [yar_] using this)) (h es c sv m Hr C y)
theorem eC_ {t kt F:TypeId} {x y:Operand} {m c:Nat} {e:TypeId} {sz:Nat} {l:List (K×D)} {k:K} {es:Array MapEntry} {sv:Value} {Hr:Hp} (E:KeyT P kt kv) (G:MOp P kt kv cells e sz l m k es c sv Hr) (B:∀ w,(underlying t).run P w=.ok (.map kt F) w) (I:∀ w,(zeroValue F).run P w=.ok (.slice none 0 0) w)
    (C:Fr.ev fr x=some (.map (some m))) (A:Fr.ev fr y=some (kv k)) (i:Nat) (hi:H[i]? = some (m,.map es c)):Yld P N fr H Γ (.lookup t x y false) ty sv:=by
  have hm:∀ v,v.sat H->af_ Γ v->v.w.heap[m]? = some (.map es c):=λv h _=>(h.own _ (yad_ hi)).1
  rcases G with⟨q,rfl,_⟩|⟨i,z,q,_⟩
  . exact eI_ B I C A hm (E.ok k) q
  . exact eY_ B C A hm (E.ok k) q
theorem hG_ {o:Op} {t kt S:TypeId} {x y z:Operand} {m c:Nat} {e:TypeId} {sz:Nat} {l:List (K×D)} {k:K} {dd:D} {es:Array MapEntry} {sv sv':Value} {v Hr F:Hp} (G:KeyT P kt kv) (T:MOp P kt kv cells e sz l m k es c sv Hr) (L:at_ e sz sv' (lat (l++[(k,dd)]) k).length ((lat (l++[(k,dd)]) k).flatMap cells) v)
    (h:o=.insert t x y z\/o=.mapUpdate t x y z) (M:∀ w,(underlying t).run P w=.ok (.map kt S) w) (O:Fr.ev fr x=some (.map (some m))) (J:Fr.ev fr y=some (kv k)) (I:Fr.ev fr z=some sv') (U:H.Perm ((m,.map es c)::(v++(Hr++F))))
    (hk:∀ H',cU_ kv cells e sz (l++[(k,dd)]) m H'->Ops P R N v0 H0 ops lo Kk fr (H'++F) Γ):Ops P R N v0 H0 ops (⟨none,o,ty,ps,af,none⟩::lo) Kk fr H Γ:=by
  refine A_ U ?_;rcases T with⟨C,_,A⟩|⟨i,q,C,V,Q,_,A⟩
  . obtain⟨H',B,E⟩:=A dd sv' v L
    refine aE_ 0 h M O J I rfl (G.ok k) C ?_;simp only[ycd_];exact A_ zbG_ (hk H' B)
  . obtain⟨H',B,E⟩:=A dd sv' v L
    refine hF_ 0 G h M O J I rfl C V Q ?_;simp only[ycd_];exact A_ zbG_ (hk H' B)
theorem dY_ {b:Nat×Obj} {O Q F:Hp} (h:H.Perm ((b::(O++Q))++F)):H.Perm (b::(O++(Q++F))):=by simpa [yar_] using h
theorem bc_ {b:Nat×Obj} {F:Hp} (h:H.Perm ([b]++F)):H.Perm (b::F):=h
theorem Y_ {b:Nat×Obj} {F m:Hp} (h:H.Perm ([b]++F)) (q:F.Perm m):H.Perm (b::m):=List.Perm.trans h (q.cons b)
theorem lr_ {fn:Func} {m:Ending->World->Prop} {c:Code} (h:Run P (bodyPost P fn m) N v0 H0 c [] fr H Γ):Run P (bodyPost P fn m) N v0 H0 (.scope c) [] fr H Γ :=
  λa v A x B y=>wp_scope_straight (wp_mono (h a v A x B y) λe a w q=>by cases e<;>exact q)
theorem lt_ {c:Nat} (h:Fin P R N v0 H0 Kk fr H Γ):Run P R N v0 H0 (.label c) Kk fr H Γ :=
  λa v x m y q=>wp_label (h a v x m y q)
end ops
end Go.Sx
namespace Go.Vs
open Go Go.Sx
structure Rul where
  f:Str
  s:Str
  r:Str
  deriving DecidableEq
structure Itm where
  r:Str
  i:Nat
  j:Nat
  deriving DecidableEq
def addI {α:Type} [DecidableEq α] (y:α) (l:List α):List α:=if y∈l then l else l++[y]
theorem ll_ {α:Type} [DecidableEq α] {y z:α} {l:List α}:z∈addI y l↔z∈l\/z=y:=by
 unfold addI
 by_cases h:y∈l
 .rw[yao_ h];exact⟨.inl,λq=>q.elim id λe=>e▸h⟩
 rw[yag_ h,yah_,yai_]
section
variable {R:List Rul} {U:List Str} {n:Nat}
def Pr1 (n:Nat) (x:Itm) (T0:List Itm) (L:List Rul) (T:List Itm):Prop:=∀ y∈L,∀ e,x.j<=e->e<=n->(⟨y.s,x.j,e⟩:Itm)∈T0->(⟨y.r,x.i,e⟩:Itm)∈T
def Pr2 (x:Itm) (T0:List Itm) (L:List Rul) (T:List Itm):Prop:=∀ y∈L,∀ b,b<=x.i->(⟨y.f,b,x.i⟩:Itm)∈T0->(⟨y.r,b,x.j⟩:Itm)∈T
theorem Pr1.mono {x:Itm} {d T m:List Itm} {L:List Rul} (h:Pr1 n x d L T) (v:∀ y∈T,y∈m):Pr1 n x d L m:=λy A e B q C=>v _ (h y A e B q C)
theorem Pr2.mono {x:Itm} {d T e:List Itm} {L:List Rul} (h:Pr2 x d L T) (q:∀ y∈T,y∈e):Pr2 x d L e:=λy m b v A=>q _ (h y m b v A)
end
end Go.Vs
namespace Go.Sx
open Go Go.Vs
def lp_ (T:List Itm) (r:Str):List Value:=(List.range 4225).map λk=>.bool (decide ((⟨r,k / 65,k%65⟩:Itm)∈T))
theorem nS_ (T:List Itm) (r:Str):(lp_ T r).length=4225:=by simp[lp_]
theorem qK_ (T:List Itm) (r:Str) {k:Nat} (hk:k<4225):(lp_ T r)[k]? = some (.bool (decide ((⟨r,k / 65,k%65⟩:Itm)∈T))):=by
  unfold lp_;rw[yaH_,List.getElem?_range hk];rfl
theorem xZ_ {i j:Nat} (e:j<=64):(i*65+j) / 65=i/\(i*65+j)%65=j:=by omega
theorem yb_ (T:List Itm) (r:Str) {i j:Nat} (hi:i<=64) (m:j<=64):(lp_ T r)[i*65+j]? = some (.bool (decide ((⟨r,i,j⟩:Itm)∈T))):=by
  obtain⟨h,e⟩:=xZ_ (i:=i) m;rw[qK_ T r zaa_,h,e]
theorem nR_ {T:List Itm} {r q:Str} {i j:Nat} (h:q≠r):lp_ (addI ⟨r,i,j⟩ T) q=lp_ T q:=by
  unfold lp_
  apply ybY_
  intro k _
  congr 1
  apply ybm_.2
  rw[ll_];exact⟨λq=>q.elim id λe=>absurd (yae_ Itm.r e) h,.inl⟩
theorem ya_ (T:List Itm) (r:Str) {i j:Nat} (hi:i<=64) (h:j<=64):(lp_ T r).set (i*65+j) (.bool true)=lp_ (addI ⟨r,i,j⟩ T) r:=by
 apply ybD_
 intro k;rw[ybZ_,nS_];obtain⟨m,v⟩:=xZ_ (i:=i) h
 by_cases hk:i*65+j=k
 .subst hk
  rw[yao_ rfl,yao_ zaa_,yb_ _ _ hi h,yaC_ (ll_.2 (.inr rfl))]
 rw[yag_ hk]
 by_cases hl:k<4225
 .rw[qK_ _ _ hl,qK_ _ _ hl]
  congr 2
  apply ybm_.2
  rw[ll_];refine⟨.inl,λq=>q.elim id λe=>?_⟩;simp only[Itm.mk.injEq,ydi_]at e;omega
 rw[ybv_ (by rw[nS_];omega),ybv_ (by rw[nS_];omega)]
def gU_ (ks:List (Str×Nat)) (k:Str):Option Nat:=(ks.find? λp=>decide (p.1=k)).map (·.2)
def tptr (o:Option Nat):Value:=.pointer (o.map λb=>⟨b,0,none⟩)
def qE_ (tt:TypeId) (T:List Itm) (p:Str×Nat):Nat×Obj:=(p.2,.cells (lp_ T p.1).toArray tt (0,0))
structure TabE (ks:List (Str×Nat)) (T:List Itm) (es:Array MapEntry):Prop where
  keys:es.toList.map (·.key)=(ks.map (·.1)).map str
  vals:es.toList.map (·.val)=ks.map λp=>tptr (some p.2)
  nd:(ks.map (·.1)).Nodup
  all:∀ x∈T,x.r∈ks.map (·.1)
def TabO (tt mb:Nat) (ks:List (Str×Nat)) (T:List Itm) (H:Hp):Prop:=∃ es c,H=(mb,.map es c)::ks.map (qE_ tt T)/\TabE ks T es
theorem lo_ {ks:List (Str×Nat)} {k:Str} {b:Nat} (h:gU_ ks k=some b):(k,b)∈ks:=by
  unfold gU_ at h;rw[ycv_]at h;obtain⟨p,m,rfl⟩:=h;have e:=List.find?_some m;have q:=List.mem_of_find?_eq_some m;simp only[yaI_]at e;subst e;exact q
theorem jg_ {ks:List (Str×Nat)} {k:Str} (h:gU_ ks k=none):k ∉ ks.map (·.1):=by
  unfold gU_ at h;rw[Option.map_eq_none_iff,List.find?_eq_none]at h;intro hm;obtain⟨p,e,rfl⟩:=yap_.1 hm;exact h p e zaj_
theorem xM_ {ks:List (Str×Nat)} {k:Str} {b:Nat} (h:gU_ ks k=none):gU_ (ks++[(k,b)]) k=some b:=by
  unfold gU_ at h ⊢;rw[Option.map_eq_none_iff]at h;rw[List.find?_append,h];simp
section
variable {P:Program} {kt:TypeId} {tt mb:Nat} {ks:List (Str×Nat)} {T:List Itm} {es:Array MapEntry} {H:Hp}
theorem TabO.at (h:TabO tt mb ks T H) {k:Str} {b:Nat} (hk:gU_ ks k=some b):∃ Hr,H.Perm ((b,.cells (lp_ T k).toArray tt (0,0))::Hr)/\
    ∀ i j,i<=64->j<=64->∃ H',TabO tt mb ks (addI ⟨k,i,j⟩ T) H'/\((b,Obj.cells ((lp_ T k).set (i*65+j) (.bool true)).toArray tt (0,0))::Hr).Perm H':=by
  obtain⟨es,c,rfl,hE⟩:=h;have hm:=lo_ hk;obtain⟨q,v,rfl⟩:=List.append_of_mem hm;refine⟨(mb,.map es c)::(q++v).map (qE_ tt T),?_,λi j hi C=>?_⟩
  . rw[yat_,yay_,yat_]
    exact (List.Perm.cons _ ybN_).trans (.swap _ _ _)
  . refine⟨(mb,.map es c)::(q++(k,b)::v).map (qE_ tt (addI ⟨k,i,j⟩ T)),⟨es,c,rfl,hE.keys,hE.vals,hE.nd,λx A=>?_⟩,?_⟩
    . rcases ll_.1 A with A|rfl
      . exact hE.all x A
      . simp
    . have m:=hE.nd
      rw[yat_,yay_,ybf_,ybG_]at m
      have B:q.map (qE_ tt (addI ⟨k,i,j⟩ T))=q.map (qE_ tt T):=ybY_ λp y=>by
        unfold qE_;rw[nR_ λe=>m.2.2 p.1 (yaU_ y) k zaj_ e]
      have E:v.map (qE_ tt (addI ⟨k,i,j⟩ T))=v.map (qE_ tt T):=ybY_ λp y=>by
        unfold qE_;rw[nR_ λe=>m.2.1.1 (yap_.2 ⟨p,y,e⟩)]
      rw[ya_ T k hi C,yat_,yat_,yay_,B,E];exact ((List.Perm.cons _ ybN_).trans (.swap _ _ _)).symm
end
section ops
variable {P:Program} {N:Nf} {v0:Vw} {H0:Hp} {R:Exit->Act->World->Prop} {K:List Kt} {fr:Fr} {H F:Hp} {Γ:List Fct}
variable {ops:Array Oper} {l:List Oper} {d:Nat} {ty:TypeId} {ps:String} {af:Array Edge}
variable {tt mb:Nat} {ks:List (Str×Nat)} {T:List Itm} {Hx:Hp}
end ops
end Go.Sx
namespace Go.Sx
open Go Go.Vs
structure IntE {K:Type} (kv:K->Value) (es:Array MapEntry) (ks:List K) (vs:List Int):Prop where
  keys:es.toList.map (·.key)=ks.map kv
  vals:es.toList.map (·.val)=vs.map λn=>Value.int .i64 n
  nd:ks.Nodup
section
variable {P:Program} {K:Type} [DecidableEq K] {kv:K->Value} {kt:TypeId} {es:Array MapEntry} {ks:List K} {vs:List Int}
end
section ops
variable {P:Program} {N:Nf} {v0:Vw} {H0:Hp} {R:Exit->Act->World->Prop} {Kk:List Kt} {fr:Fr} {H:Hp} {Γ:List Fct}
variable {ops:Array Oper} {lo:List Oper} {d:Nat} {ty:TypeId} {ps:String} {af:Array Edge}
variable {K:Type} [DecidableEq K] {kv:K->Value}
end ops
def iot (n:Nat):List Int:=(List.range n).map Int.ofNat
end Go.Sx
namespace Go.Sx
open Go
section
variable {P:Program} {N:Nf} {v0:Vw} {H0:Hp} {R:Exit->Act->World->Prop} {K:List Kt} {fr:Fr} {H F:Hp} {Γ:List Fct} {ops:Array Oper} {l:List Oper} {d:Nat} {ty:TypeId} {ps:String} {af:Array Edge} {e:TypeId} {sz n:Nat} {sv:Value} {xs:List Value} {Hr:Hp}
theorem mI_ {x y:Operand} {t A:TypeId} {by':Nat} {k E:IntKind} (B:Elt P t e sz by') (C:P.underlying A=some (.int E)) (O:Fr.ev fr x=some (.slice none 0 0)) (J:Fr.ev fr y=some (.int k (n:Int))) (M:0<n) (V:n*by'<=140737488355328) (h:n<=maxLen) (Q:Nat.blt d N.n=true)
    (hk:∀ (y:Nat×Array Value) (b:Nat),(n<=y.1/\y.1<=maxLen/\y.2.size=y.1*sz)->Ops P R N v0 H0 ops l K ((d,.slice (some ⟨b,0,none⟩) n y.1)::fr) ((b,.cells y.2 e (0,0))::H) Γ) :
    Ops P R N v0 H0 ops (⟨some d,.call ⟨.builtin .append,#[x,y],#[t,A]⟩,ty,ps,af,none⟩::l) K fr H Γ :=
  on_ (β:=Nat×Array Value) (x:=λy b=>.slice (some ⟨b,0,none⟩) n y.1) (o:=λy=>.cells y.2 e (0,0)) (λy=>n<=y.1/\y.1<=maxLen/\y.2.size=y.1*sz) Q
    (λa v G U W=>by
      obtain⟨i,z,hi,T,es,S,I⟩:=B.info;subst es S;have L:=Lib.run_append_nil_zeros (P:=P) v.w t A ty e i z k E B.und C hi T n M B.pos (by simp only[maxLen]at h;omega) zaa_;have q:=grownCap_ge v.w n 0 e;have m:=grownCap_le_maxLen v.w n 0 e h;refine⟨(grownCap v.w n 0 e,Builtin.zeroCells z.cells n++Builtin.zeroCells z.cells (grownCap v.w n 0 e - n)),v.w.drew.alloc (.cells (Builtin.zeroCells z.cells n++Builtin.zeroCells z.cells (grownCap v.w n 0 e - n)) e),⟨q,m,?_⟩,?_,rfl,rfl,rfl,rfl,by simp⟩
      . simp only[Array.size_append,size_zeroCells,I,<-ybB_]
        congr 1
        omega
      . simp only[execOp,resolve,invoke,builtin,Sem.run_bind,Sem.run_pure,Result.andThen_ok,ybt_,yay_,ybz_,G.ev O,G.ev J,L])
    hk
theorem ky_ {x:Operand} {t:TypeId} {ad:Ao} {len cap:Nat} (m:∀ w,(underlying t).run P w=.ok (.slice e) w) (q:Fr.ev fr x=some (.slice ad len cap)) :
    Yld P N fr H Γ (.call ⟨.builtin .cap,#[x],#[t]⟩) ty (.int .i64 (cap:Int)) :=
  λa v h _ _ _ _ _=>by simp[execOp,resolve,invoke,builtin,Builtin.cap_,m,h.ev q,goInt]
theorem pF_ {b cap:Nat} {cur:Array Value} (h:cap<=maxLen) (m:cur.size=cap*sz):at_ e sz (.slice (some ⟨b,0,none⟩) 0 cap) 0 [] [(b,.cells cur e (0,0))] :=
  ⟨by simp,.inr ⟨b,cap,cur,rfl,rfl,ybC_ _,h,m,by simp⟩⟩
end
end Go.Sx
namespace Go.Sx
open Go
theorem yU_ {P:Program} {E:TypeId} {m:IntKind} (C:P.underlying E=some (.int m)):KeyT P E (λn:Int=>.int m n) where
  ok:=λk=>aH_ C
  nf:=λk es ks h hk=>aw_ C (by
    have:∀ (ks:List Int) (es:List MapEntry) (i:Nat),es.map (·.key)=ks.map (λn:Int=>Value.int m n)->k ∉ ks->Instr.findNow (.int m) (.int m k) es i=some none:=by
      intro ks
      induction ks with
      | nil => intro es i h _; have : es = [] := by simpa using h
               subst this;rfl
      | cons q ks ih =>
        intro es i h hk;cases es with
        | nil=>simp at h
        | cons e es =>
          simp only[yay_,ybE_]at h;simp only[yan_,ydH_]at hk
          have y:Instr.sameNow (.int m) (.int m k) e.key=some false:=by
            rw[h.1];simp[Instr.sameNow,hk.1]
          simp only[Instr.findNow,y];exact ih es (i+1) h.2 hk.2
    exact this ks es 0 h hk)
  sf:=λk es ks i e h A hi v=>aw_ C (by
    have:∀ (ks:List Int) (es:List MapEntry) (j i:Nat),es.map (·.key)=ks.map (λn:Int=>Value.int m n)->ks.Nodup->ks[i]? = some k->es[i]? = some e->Instr.findNow (.int m) (.int m k) es j=some (some (j+i,e.val)):=by
      intro ks
      induction ks with
      | nil=>intro es j i _ _ h;simp at h
      | cons q ks ih =>
        intro es j i h A hi v;cases es with
        | nil=>simp at h
        | cons x es =>
          simp only[yay_,ybE_]at h;rw[ybG_]at A;cases i with
          | zero =>
            simp only[ybe_,yak_]at hi v;subst hi;subst v
            have y:Instr.sameNow (.int m) (.int m q) x.key=some true:=by
              rw[h.1];simp[Instr.sameNow]
            simp only[Instr.findNow,y,ycl_]
          | succ i =>
            simp only[ybu_]at hi v;have B:k≠q:=λe=>A.1 (e▸yad_ hi)
            have y:Instr.sameNow (.int m) (.int m k) x.key=some false:=by
              rw[h.1];simp[Instr.sameNow,B]
            simp only[Instr.findNow,y];rw[ih es (j+1) i h.2 A.2 hi v,show j+1+i=j+(i+1) by omega]
    have:=this ks es 0 i h A hi v;rwa [ybw_]at this)
  same:=λk=>el_ 10000 k
end Go.Sx
namespace Go.Sx
open Go
section
variable {P:Program} {N:Nat} {v0:Vw} {H0:Hp} {R:Exit->Act->World->Prop} {Kk:List Kt} {fr:Fr} {H:Hp} {Γ:List Fct}
variable {ops:Array Oper} {lo:List Oper} {d:Nat} {ty:TypeId} {ps:String} {af:Array Edge}
variable {K:Type} [DecidableEq K] {kv:K->Value}
theorem pS_ {t e h:TypeId} {x:Operand} {b c:Nat} (n:Nat) {es:Array MapEntry} (q:P.underlying t=some (.map e h)) (A:Fr.ev fr x=some (.map (some b))) (hi:H[n]? = some (b,.map es c)) (C:Nat.blt d N=true)
    (hk:∀ r,Ops P R N v0 H0 ops lo Kk ((d,.pointer (some ⟨r,0,none⟩))::fr) ((r,.mapIter (some b) c #[] c)::H) Γ):Ops P R N v0 H0 ops (⟨some d,.range t x,ty,ps,af,none⟩::lo) Kk fr H Γ :=
  gE_ (x:=λb=>.pointer (some ⟨b,0,none⟩)) C (λa v B m _=>by
    have y:=(m.own _ (yad_ hi)).1;simp[execOp,B.ev A,run_range_map v.w t e h b es c q y]) hk
theorem sA_ {M:Operand} {b r c h L:Nat} {es:Array MapEntry} {q:Array Nat} (n m:Nat) (E:Fr.ev fr M=some (.pointer (some ⟨r,0,none⟩))) (Z:H[n]? = some (r,.mapIter (some b) h q L)) (hb:H[m]? = some (b,.map es c)) (G:∀ x∈es.toList,x.born<h) (V:h<=L) (hN:Nat.blt d N=true)
    (h0:(leftOf es q).size=0->Ops P R N v0 H0 ops lo Kk ((d,.tuple #[.bool false])::fr) H Γ)
    (hk:∀ e,e∈(leftOf es q).toList->Ops P R N v0 H0 ops lo Kk ((d,.tuple #[.bool true,e.key,e.val])::fr) (H.set n (r,.mapIter (some b) h (q.push e.born) c)) Γ):Ops P R N v0 H0 ops (⟨some d,.next M false,ty,ps,af,none⟩::lo) Kk fr H Γ :=
  cy_ rfl λa v J C h3 X=>by
    have I:=(C.own _ (yad_ Z)).1;have Q:=(C.own _ (yad_ hb)).1;unfold Oper.wp;rcases run_next_at (P:=P) v.w ty r b h L q es c I Q G V with⟨e0,A⟩|⟨e,he,B,y,A⟩
    . have T:(execOp a.eval ⟨some d,.next M false,ty,ps,af,none⟩).run P v.w=.ok (.value (.tuple #[.bool false])) v.w:=by simp[execOp,J.ev E,A]
      rw[T];exact h0 e0 _ v (J.put hN) C h3 X
    . have T:(execOp a.eval ⟨some d,.next M false,ty,ps,af,none⟩).run P v.w=.ok (.value (.tuple #[.bool true,e.key,e.val])) (ChangeMaps.setBlock B r (.mapIter (some b) h (q.push e.born) c)):=by simp[execOp,J.ev E,A]
      rw[T];have S:B.heap[r]? = some (.mapIter (some b) h q L):=by rcases y with rfl|rfl<;>exact I
      have O:r<B.heap.size:=(yax_.1 S).1;have Y:B.heap=v.w.heap:=by rcases y with rfl|rfl<;>rfl
      have U:v.w.drawn<=B.drawn:=by
        rcases y with rfl|rfl
        . exact yaj_ _
        . exact Nat.le_succ _
      obtain⟨g1,W⟩:=eM_ (w':=ChangeMaps.setBlock B r (.mapIter (some b) h (q.push e.born) c)) C Z zbR_ zbR_ zbR_ U (by simp[ChangeMaps.setBlock,Y])
        (by simp only[ChangeMaps.setBlock];rw[Array.getElem?_setIfInBounds_self_of_lt O]) (λk hk=>by simp only[ChangeMaps.setBlock];rw[ydb_ (Ne.symm hk),Y])
      exact hk e he _ ⟨v.im,_,v.sl⟩ (J.put hN) g1 (h3.trans W) (av_ (W.le C) X)
theorem pz_ {A:Operand} {b r c h:Nat} {es:Array MapEntry} {q:Array Nat} {e:MapEntry} (n m:Nat) (x:Fr.ev fr A=some (.pointer (some ⟨r,0,none⟩))) (B:H[n]? = some (r,.mapIter (some b) h (q.push e.born) c)) (C:H[m]? = some (b,.map es c)) (E:e∈es.toList) (hB:Born es c) :
    Yld P N fr H Γ (.entry A) ty (.tuple #[e.key,e.val]) :=
  λa v G y _ _ _ _=>by
    have:=run_entry_at (P:=P) v.w r b h q es c e (y.own _ (yad_ B)).1 (y.own _ (yad_ C)).1 E hB.nd;simp[execOp,G.ev x,this]
structure ItS (kv:K->Value) (es:Array MapEntry) (seen:Array Nat) (done:List K):Prop where
  nd:done.Nodup
  mem:∀ e∈es.toList,seen.contains e.born=true↔∃ k∈done,e.key=kv k
  sub:∀ k∈done,∃ e∈es.toList,e.key=kv k
theorem ItS.nil {es:Array MapEntry}:ItS kv es #[] []:=⟨ycA_,λe _=>by simp,λk hk=>by simp at hk⟩
end
section
variable {P:Program} {N:Nat} {v0:Vw} {H0:Hp} {R:Exit->Act->World->Prop} {K:List Kt} {fr:Fr} {H F:Hp} {Γ:List Fct}
def uQ_ {σ:Type} (v0:Vw) (H0:Hp) (Hj:σ->Hp) (ok:σ->Prop) (HL:Hp):Exit->Act->World->Prop
  | .normal,_,w=>∃ s' v,ok s'/\v.w=w/\v.sat (Hj s'++HL)/\v0.to H0 v (Hj s'++HL)
  | _,_,_=>False
theorem rN_ {σ ι:Type} {l D:Nat} {h:Loop} {y:Nat} {x:Value} {Hj:σ->Hp} {s:σ} {ok:σ->Prop} (M:ι->Fr) (J:ι->Hp)
    (hp:h.params=#[y]) (Q:h.state=.ready) (hpe:h.pending=none) (ht:Fr.sat N fr ⟨h.tmps,[]⟩) (T:Nat.blt y N=true)
    (q:∀ n v0 H0 HL,jb_ (Fence.wide.inRound l) n P (Mid N v0 H0 M (λi=>J i++HL) (λ_=>Γ)) N [] v0 H0 h.assign [] ((y,x)::fr) (Hj s++HL) Γ)
    (B:∀ n v0 H0 HL i,jb_ (Fence.wide.inRound l) n P (uQ_ v0 H0 Hj ok HL) N [] v0 H0 h.body [] (M i) (J i++HL) Γ) :
    jJ_ P l x (Hj s++HLp l D h) Γ (λ_:{C:σ // ok C}=>.bool true) (λC=>Hj C.1++HLp l D h) (λ_=>[]):=by
  intro v hs hΓ
  have m:∀ (X:Hp) r,(X++HLp l D r).Perm ((l,.loop r)::(X++[(D,.deferred (some []))])):=λX r=>by
    unfold HLp;exact ybN_
  have hl:v.w.heap[l]? = some (.loop h):=((hs.perm (m _ _)).own _ yav_).1;refine⟨h.fn,_,h.assign,h.body,run_yield hl (by simp[hp]),λn=>roundIn_of_wpIn trivial ?_⟩;have Z:(h.params.zip #[x]).foldl (λtmps (t,a)=>tmps.setIfInBounds t a) h.tmps=h.tmps.setIfInBounds y x:=by simp[hp]
  rw[Z];have L:Fr.sat N ((y,x)::fr) ⟨h.tmps.setIfInBounds y x,[]⟩:=ht.put T;refine wpIn_mono (gP_.1 (q n v (Hj s++HLp l D h) (HLp l D h)) ⟨h.tmps.setIfInBounds y x,[]⟩ v L hs (Vw.to.refl _ _) hΓ) ?_;rintro e a1 w1 ⟨rfl,i,I,rfl,k1,k2,k3,k4⟩;have A:=k2.perm (m _ _);have Y:=(A.own _ yav_).1;obtain⟨m1,m2⟩:=eN_ (o':=.loop { h with state:=.busy }) A;refine⟨_,run_beginRound Y Q,?_⟩;have m3:=m1.perm (m (J i) { h with state:=.busy }).symm
  have m4:v.to (Hj s++HLp l D h) ⟨I.im,I.w.putObj l (.loop { h with state:=.busy }),I.sl⟩ (J i++HLp l D { h with state:=.busy }) :=
    (k3.trans ((m2.permL (m _ _).symm).subR λb O=>((m (J i) { h with state:=.busy }).map Prod.fst).mem_iff.1 O))
  have U:=av_ (m2.le A) k4;refine wpIn_mono (gP_.1 (B n v (Hj s++HLp l D h) (HLp l D { h with state:=.busy }) i) a1 ⟨I.im,_,I.sl⟩ k1 m3 m4 U) ?_;intro e2 a2 w2 E;cases e2 with
  | normal =>
    obtain⟨C,V,W,rfl,q1,q2⟩:=E;have G:=q1.perm (m _ _);have S:=(G.own _ yav_).1;obtain⟨z1,z2⟩:=eN_ (o':=.loop h) G;have er:({ h with state:=.ready,pending:=none }:Loop)=h:=by cases h;simp_all
    refine⟨_,_,run_endRound none S,⟨C,W⟩,⟨V.im,V.w.putObj l (.loop h),V.sl⟩,rfl,?_,z1.perm (m _ _).symm,trivial,q2.trans ((z2.permL (m _ _).symm).subR λb O=>((m (Hj C) h).map Prod.fst).mem_iff.1 O)⟩;simp[er]
  | ret=>exact E.elim
  | exit id=>exact E.elim
  | goto t=>exact E.elim
  | panic c=>exact E.elim
  | outgrown=>exact E.elim
theorem tV_ {σ:Type} {Hj:σ->Hp} {h G:Hp} {ok:σ->Prop} (e:σ) (x:ok e) (q:H.Perm (Hj e++h++G)):OkD N [] v0 H0 (uQ_ v0 H0 Hj ok h .normal) fr H Γ :=
  cL_ (Γ':=[]) q (λ_ _ _=>trivial) λa v A m y _=>⟨e,v,x,rfl,m,y⟩
theorem sk_ {σ α:Type} {g:Operand} {Z:Nat} {assign body:Code} {T:FuncId} {caps:List Value} {Hj:σ->Hp} {Hc:Hp} {Γi:List Fct} (Γx:List Fct) {xv:α->Value} {good:σ->α->Prop} {nx:α->σ->σ->Prop} {Rc:σ->Prop}
    (s0:σ) (hg:Fr.ev fr g=some (.func (.func T) #[] caps.toArray)) (hH:H.Perm (Hc++Hj s0)) (W:∀ v,v.sat H->af_ Γ v->af_ Γi v)
    (C:∀ l D (m:Loop),m.params=#[Z]->m.state=.ready->m.pending=none->Fr.sat N fr ⟨m.tmps,[]⟩->m.assign=assign->m.body=body->∀ s x,good s x->
      jJ_ P l (xv x) (Hj s++HLp l D m) Γx (λ_:{A:σ // nx x s A}=>.bool true) (λA=>Hj A.1++HLp l D m) (λ_=>[]))
    (a3:∀ l (Gj:σ->Hp),(∀ s x,good s x->jJ_ P l (xv x) (Gj s) Γx (λ_:{A:σ // nx x s A}=>.bool true) (λA=>Gj A.1) (λ_=>[]))->
      Tri P T (.func (.yield l) #[] #[]::caps).toArray (Hc++Gj s0) Γi (λ_:{A:σ // Rc A}=>.tuple #[]) (λA=>Hc++Gj A.1) (λ_=>[]))
    (G:∀ A,Rc A->∀ D l r,uS_ Fence.wide 0 P R N (pn_ D) v0 H0 K fr (Hc++Hj A++HLp l D r) Γ) :
    Run P R N v0 H0 (.rangeFunc g #[Z] assign body) K fr H Γ:=by
  intro a v I S h3 h4;refine wpIn_wide (n:=0) |>.1 (wpIn_mono (Q:=eg_ Fence.wide 0 P R K) (wpIn_rangeFunc λfn _=>?_) λe a w hq=>bt_ K e a w hq)
  obtain⟨a1,a2⟩:=fO_ (w':=v.w.alloc (.deferred (some []))) (o:=.deferred (some [])) S rfl rfl rfl rfl (yaj_ _);obtain⟨m,y⟩:∃ m:Loop,m={ state:=.ready,pending:=none,fn,tmps:=a.tmps,params:=#[Z],assign,body,defers:=v.w.heap.size }:=⟨_,rfl⟩;obtain⟨b1,b2⟩:=fO_ (w':=(v.w.alloc (.deferred (some []))).alloc (.loop m)) (o:=.loop m) a1 rfl rfl rfl rfl (yaj_ _);have J:(v.w.alloc (Obj.deferred (some []))).heap.size=v.w.heap.size+1:=by simp
  have b1':(⟨v.im,(v.w.alloc (.deferred (some []))).alloc (.loop m),v.sl⟩:Vw).sat ((v.w.heap.size+1,.loop m)::(v.w.heap.size,.deferred (some []))::H):=J▸b1;have L:v.to H ⟨v.im,(v.w.alloc (.deferred (some []))).alloc (.loop m),v.sl⟩ ((v.w.heap.size+1,.loop m)::(v.w.heap.size,.deferred (some []))::H):=a2.trans (J▸b2)
  have B:((v.w.heap.size+1,Obj.loop m)::(v.w.heap.size,.deferred (some []))::H).Perm (Hc++(Hj s0++HLp (v.w.heap.size+1) v.w.heap.size m)):=by
    rw[<-yar_];exact (yaB_ (l₁:=HLp (v.w.heap.size+1) v.w.heap.size m) (l₂:=H)).trans (hH.append_right _)
  have hT:=a3 (v.w.heap.size+1) (λs=>Hj s++HLp (v.w.heap.size+1) v.w.heap.size m)
    (C _ _ m (by rw[y]) (by rw[y]) (by rw[y]) (by rw[y];exact⟨I.size,rfl,I.val⟩) (by rw[y]) (by rw[y]))
  have U:=av_ (L.le S) (W v S h4);have he:=I.ev hg;refine⟨v.w.heap.size+1,pn_ v.w.heap.size,(v.w.alloc (.deferred (some []))).alloc (.loop m),⟨.fn (.func T) caps.toArray,#[.func (.yield (v.w.heap.size+1)) #[] #[]]⟩,(v.w.alloc (.deferred (some []))).alloc (.loop m),T,(.func (.yield (v.w.heap.size+1)) #[] #[]::caps).toArray,_,?_,?_,λ_ _=>trivial,?_,λh=>(by cases h),callsIn_wide.2 ((hT.run ⟨v.im,_,v.sl⟩ (b1'.perm B) U).mono ?_)⟩
  . rw[y];exact run_enterLoop_outer _ _ _ _ _
  . simp only[resolve,rangeCall,ybt_,yay_,ybz_,he,Deferred.ofValue]
    rfl
  . have:=hT.callable (.func (.yield (v.w.heap.size+1)) #[] #[]::caps).toArray ((v.w.alloc (.deferred (some []))).alloc (.loop m))
    simpa [invoke] using this
  . rintro e w' ⟨⟨A,a0⟩,v',rfl,rfl,g1,g2,g3⟩
    have O:=L.trans (g3.permL B.symm);have V:=av_ (O.le S) h4;have hsd:∀ M,SatD N M fr { a with defers:=M++a.defers }:=λM=>⟨⟨I.size,rfl,I.val⟩,by show M++a.defers=M;rw[I.defers];simp⟩
    have E:∀ (X Y:Hp) r,(Y++(X++HLp (v.w.heap.size+1) v.w.heap.size r)).Perm ((v.w.heap.size+1,.loop r)::(Y++X++[(v.w.heap.size,.deferred (some []))])):=λX Y r=>by
      unfold HLp;rw[<-yar_];exact ybN_
    have q:=g1.perm (E (Hj A) Hc m);have hl:=(q.own _ yav_).1;obtain⟨z1,z2⟩:=eN_ (o':=.loop { m with state:=.exhausted }) q
    have zp:((v.w.heap.size+1,Obj.loop { m with state:=.exhausted })::(Hc++Hj A++[(v.w.heap.size,.deferred (some []))])).Perm (Hc++Hj A++HLp (v.w.heap.size+1) v.w.heap.size { m with state:=.exhausted }):=by
      have:=(E (Hj A) Hc { m with state:=.exhausted }).symm;rw[<-yar_]at this;exact this
    refine⟨m.pending,_,run_endLoop hl (by rw[y];simp),?_⟩;have hpn:m.pending=none:=by rw[y]
    split
    case h_2=>rename_i c hc;rw[hpn]at hc;cases hc
    exact G A a0 _ _ _ _ ⟨v'.im,_,v'.sl⟩ (hsd _) (z1.perm zp) (h3.trans (O.trans ((z2.permL (E _ _ _).symm).subR λb hb=>(zp.map Prod.fst).mem_iff.2 hb))) (av_ (z2.le q) V)
theorem tT_ {σ α:Type} {g:Operand} {A:Nat} {assign body:Code} {B:FuncId} {caps:List Value} {Hj:σ->Hp} {Hc:Hp} {Γi:List Fct} {xv:α->Value} {good:σ->α->Prop} {nx:α->σ->σ->Prop} {Rc:σ->Prop}
    (q:σ) (E:Fr.ev fr g=some (.func (.func B) #[] caps.toArray)) (C:H.Perm (Hc++Hj q)) (y:∀ v,v.sat H->af_ Γ v->af_ Γi v)
    (e:∀ l D (rec:Loop),rec.params=#[A]->rec.state=.ready->rec.pending=none->Fr.sat N fr ⟨rec.tmps,[]⟩->rec.assign=assign->rec.body=body->∀ s x,good s x->
      jJ_ P l (xv x) (Hj s++HLp l D rec) [] (λ_:{s':σ // nx x s s'}=>.bool true) (λs'=>Hj s'.1++HLp l D rec) (λ_=>[]))
    (m:∀ l (Gj:σ->Hp),(∀ s x,good s x->jJ_ P l (xv x) (Gj s) [] (λ_:{s':σ // nx x s s'}=>.bool true) (λs'=>Gj s'.1) (λ_=>[]))->
      Tri P B (.func (.yield l) #[] #[]::caps).toArray (Hc++Gj q) Γi (λ_:{s':σ // Rc s'}=>.tuple #[]) (λs'=>Hc++Gj s'.1) (λ_=>[]))
    (h:∀ s',Rc s'->∀ D l r,uS_ Fence.wide 0 P R N (pn_ D) v0 H0 K fr (Hc++Hj s'++HLp l D r) Γ) :
    Run P R N v0 H0 (.rangeFunc g #[A] assign body) K fr H Γ:=
  sk_ [] q E C y e m h
end
section
variable {Fc:Fence} {n:Nat} {P:Program} {N:Nat} {D:List Deferred} {v0:Vw} {H0:Hp} {R:Exit->Act->World->Prop} {K:List Kt} {fr:Fr} {H:Hp} {Γ:List Fct}
variable {ops:Array Oper} {l:List Oper} {d:Nat} {ty:TypeId} {ps:String} {af:Array Edge}
theorem wB_ {t e:TypeId} {len sz:Nat} {parts:List (Nat×Operand)} {vs:List (Nat×Value)} {q:Value} {cs:List Value} (hF:Opn Fc) (T:∀ w,(underlying t).run P w=.ok (.slice e) w) (V:∀ w,(sizeOf e).run P w=.ok sz w) (hz:∀ w,(zeroValue e).run P w=.ok q w)
    (E:q.cells.toList.length=sz) (O:Nat.blt 0 (len*sz)=true) (C:Nat.ble (len*sz) 16777216=true) (W:Fr.evp fr parts=some vs) (Q:mQ_ (λi=>some (i*sz,sz)) (jI_ q.cells.toList len) vs=some cs) (Z:Nat.blt d N=true)
    (hk:∀ b,fJ_ Fc n P R N D v0 H0 ops l K ((d,.slice (some ⟨b,0,none⟩) len len)::fr) ((b,.cells cs.toArray e (0,0))::H) Γ):fJ_ Fc n P R N D v0 H0 ops (⟨some d,.buildSlice t len parts.toArray,ty,ps,af,none⟩::l) K fr H Γ :=
  dZ_ rfl λa v L G U Y=>by
    refine⟨λf _=>hF.fn f,?_⟩;rw[semAt_eq rfl]
    have X:(execOp a.eval ⟨some d,.buildSlice t len parts.toArray,ty,ps,af,none⟩).run P v.w=.ok (.value (.slice (some ⟨v.w.heap.size,0,none⟩) len len)) (v.w.alloc (.cells cs.toArray e (0,0))):=by
      have y:=L.sat.evp W;have h:=iT_ _ _ _ _ Q;have m:0<len*sz:=by simpa [Nat.blt_eq] using O
      have M:0<sz:=Nat.pos_of_mul_pos_left m;have I:len*sz<=16777216:=yca_ C;have B:=kg_ q.cells.toList zaa_ len;rw[E]at B;simp only[ydn_]at B;rw[<-B]at h;have A:(parts.map λ(i,x)=>(i,a.eval x))=vs:=y;simp only[execOp,Instr.buildSlice,Sem.run_bind,T,Result.andThen_ok,V,ybt_,A];rw[yag_ zaa_,yag_ zaa_];simp only[Sem.run_bind,Sem.run_pure,hz,Result.andThen_ok,h];rfl
    rw[X];obtain⟨S,J⟩:=fO_ (w':=v.w.alloc (.cells cs.toArray e (0,0))) (o:=.cells cs.toArray e (0,0)) G rfl rfl rfl rfl (yaj_ _);exact hk v.w.heap.size _ ⟨v.im,_,v.sl⟩ (L.put Z) S (U.trans J) (av_ (J.le G) Y)
theorem gk_ {k:Act->World->Prop} {H':Hp} (e:H.Perm H') (h:OkD N D v0 H0 k fr H' Γ):OkD N D v0 H0 k fr H Γ :=
  λa v x m y q=>h a v x (m.perm e) (y.subR λb A=>(e.map Prod.fst).mem_iff.2 A) q
theorem pl_ {t e:TypeId} {x y:Operand} {b off sz m:Nat} {sv:Value} {xs:List Value} {Hr:Hp} (C:Opn Fc) (i:Nat) {cur:Array Value} {T:TypeId} (h:at_ e sz sv m xs Hr) (A:∀ w,(sizeOf t).run P w=.ok 1 w)
    (B:Fr.ev fr x=some (.pointer (some ⟨b,off,none⟩))) (v:Fr.ev fr y=some sv) (hi:H[i]? = some (b,.cells cur T (0,0))) (q:Nat.ble (off+1) cur.size=true)
    (hk:fJ_ Fc n P R N D v0 H0 ops l K fr (H.set i (b,.cells (cur.toList.take off++[sv]++cur.toList.drop (off+1)).toArray T (0,0))) Γ):fJ_ Fc n P R N D v0 H0 ops (⟨none,.store t x y,ty,ps,af,none⟩::l) K fr H Γ :=
  ew_ C i A B v hi (by rw[(ek_ h).1];rfl) q (by rw[(ek_ h).1];simp[(ek_ h).2]) (by rw[(ek_ h).1];exact hk)
theorem sF_ {x y:Operand} {t e:TypeId} {sz by' m k c:Nat} {sv:Value} {xs news:List Value} {Hr F:Hp} {ad:Addr} (hF:Opn Fc) (E:Elt P t e sz by') (q:at_ e sz sv m xs Hr)
    (hx:Fr.ev fr x=some sv) (hy:Fr.ev fr y=some (.slice (some ad) k c)) (J:H.Perm (Hr++F)) (hl:news.length=k*sz) (A:∀ v,v.sat H->af_ Γ v->∀ j u,news[j]? = some u->v.w.cell? (ad.add j)=some u) (C:∀ u∈news,u.oneCell'=true)
    (B:m+k<=maxLen) (O:(m+k)*by'<=140737488355328) (hN:Nat.blt d N=true)
    (hk:∀ sv' h,at_ e sz sv' (m+k) (xs++news) h->fJ_ Fc n P R N D v0 H0 ops l K ((d,sv')::fr) (h++F) Γ) :
    fJ_ Fc n P R N D v0 H0 ops (⟨some d,.call ⟨.builtin .append,#[x,y],#[t,t]⟩,ty,ps,af,none⟩::l) K fr H Γ :=
  dZ_ rfl λa v I G h3 S=>by
    refine⟨λf _=>hF.fn f,?_⟩;rw[semAt_eq rfl];obtain⟨i,z,hi,U,es,T,ez⟩:=E.info;have g:=G.perm J;have X:=A v G S;have V:=q.owns g;obtain⟨M,w',W,Y,q2,_⟩:=run_append_own (P:=P) v.w 0 t ty e i z sz by' E.und hi U es T ez E.pos sv m xs V ad k c news hl X C B O (ybC_ _)
    obtain⟨a1,a2⟩:=lk_ v.w E.und hi U es V hl X C B (by rw[T];exact O) W;obtain⟨h,k1,k2,Q⟩:=js_ q g Y q2 a1 a2;have e1:a.eval x=sv:=I.sat.ev hx;have Z:a.eval y=.slice (some ad) k c:=I.sat.ev hy
    have L:(execOp a.eval ⟨some d,.call ⟨.builtin .append,#[x,y],#[t,t]⟩,ty,ps,af,none⟩).run P v.w=.ok (.value M) w':=by
      simp only[execOp,resolve,invoke,builtin,Sem.run_bind,Sem.run_pure,Result.andThen_ok,ybt_,yay_,ybz_,e1,Z,W]
    rw[L];exact hk M h k1 _ ⟨v.im,w',v.sl⟩ (I.put hN) k2 (h3.trans (Q.permL J.symm)) (av_ ((Q.permL J.symm).le G) S)
end
end Go.Sx
namespace Go.Vs
open Go Go.Sx
abbrev RSt:=Str×Str×Bool
def ng_ (l:List Str) (x:Str):List Str:=if x∈l then l else l++[x]
def nH_ (l:List Str):List Str:=l.foldl ng_ []
theorem tJ_ (l:List Str) (x:Str):nH_ (l++[x])=ng_ (nH_ l) x:=by simp[nH_]
theorem zV_ {l:List Str} {x y:Str}:y∈ng_ l x↔y∈l\/y=x:=by
 unfold ng_
 split
 .rename_i h
  exact⟨.inl,λq=>q.elim id λe=>e▸h⟩
 simp
theorem Cf_ {l:List Str} {x:Str} (h:l.Nodup):(ng_ l x).Nodup:=by
 unfold ng_
 split
 .exact h
 rename_i v
 rw[ybf_];exact⟨h,by simp,λa q b m e=>by simp at m;subst m;subst e;exact v q⟩
theorem nG_ (l:List Str):(nH_ l).Nodup/\∀ y,y∈nH_ l↔y∈l:=by
  unfold nH_
  have m:∀ (l e:List Str),e.Nodup->(l.foldl ng_ e).Nodup/\∀ y,y∈l.foldl ng_ e↔y∈e\/y∈l:=by
    intro l
    induction l with
    | nil=>intro e h;exact⟨h,λy=>by simp⟩
    | cons x l ih =>
      intro e h;obtain⟨v,q⟩:=ih (ng_ e x) (Cf_ h);refine⟨v,λy=>?_⟩;rw[yck_,q,zV_,yan_,or_assoc]
  obtain⟨v,q⟩:=m l [] ycA_;exact⟨v,λy=>by rw[q];simp⟩
def ik (S:List RSt) (r:Str):List Str:=nH_ ((S.filter λz=>decide (z.1=r)).map (·.2.1))
def flg (S:List RSt) (r s:Str):Bool:=S.any λz=>decide (z.1=r)&&(decide (z.2.1=s)&&z.2.2)
theorem oJ_ {S:List RSt} {r s:Str}:s∈ik S r↔∃ c,(r,s,c)∈S:=by
 unfold ik;rw[(nG_ _).2,yap_];constructor
 .rintro ⟨⟨a,b,c⟩,h,rfl⟩
  rw[yaX_,yaI_]at h;obtain⟨e,rfl⟩:=h;exact⟨c,e⟩
 rintro ⟨c,h⟩;exact⟨(r,s,c),by rw[yaX_];exact⟨h,by simp⟩,rfl⟩
theorem Cx_ (S:List RSt) (r:Str):(ik S r).Nodup:=(nG_ _).1
theorem rg_ (S:List RSt) (r s:Str) (c:Bool) (q:Str):ik (S++[(r,s,c)]) q=if r=q then ng_ (ik S q) s else ik S q:=by
 unfold ik;rw[ycb_,yat_]
 by_cases h:r=q
 .rw[yao_ h]
  simp only[ycO_,h,decide_true,ycn_,List.filter_nil,yay_,ybz_];exact tJ_ _ _
 rw[yag_ h];simp[h]
theorem oM_ {S:List RSt} {r s:Str}:flg S r s=true↔(r,s,true)∈S:=by
 unfold flg;rw[ybT_];constructor
 .rintro ⟨⟨a,b,c⟩,h,e⟩
  simp only[yaq_,yaI_]at e;obtain⟨rfl,rfl,rfl⟩:=e;exact h
 exact λh=>⟨_,h,by simp⟩
theorem oN_ (S:List RSt) (r s:Str) (c:Bool) (q t:Str):flg (S++[(r,s,c)]) q t=(flg S q t||(decide (r=q)&&(decide (s=t)&&c))):=by
  unfold flg;rw[yci_];simp
theorem flg_no {S:List RSt} {r s:Str} (h:s ∉ ik S r):flg S r s=false:=by
 cases e:flg S r s
 .rfl
 exact absurd (oJ_.2 ⟨true,oM_.1 e⟩) h
end Go.Vs
namespace Go.Sx
open Go Go.Vs
structure BolE (es:Array MapEntry) (ks:List Str) (g:Str->Bool):Prop where
  keys:es.toList.map (·.key)=ks.map str
  vals:es.toList.map (·.val)=ks.map λk=>Value.bool (g k)
  nd:ks.Nodup
section
variable {P:Program} {kt:TypeId} {es:Array MapEntry} {ks:List Str} {g:Str->Bool}
theorem BolE.nil {g:Str->Bool}:BolE #[] [] g:=⟨rfl,rfl,ycA_⟩
theorem BolE.no (e:KeyT P kt str) (h:BolE es ks g) {k:Str} (hk:k ∉ ks):do_ P kt (str k) es.toList none:=e.nf k es.toList ks h.keys hk
theorem BolE.yes (y:KeyT P kt str) (h:BolE es ks g) {k:Str} (hk:k∈ks):∃ i e,ks[i]? = some k/\es[i]? = some e/\e.key=str k/\e.val=.bool (g k)/\do_ P kt (str k) es.toList (some (i,.bool (g k))):=by
  obtain⟨i,hi⟩:=ybq_ hk
  have v:i<es.toList.length:=by
    have:=(yac_.1 hi).1;have e:=yae_ List.length h.keys;simp only[yaF_]at e;omega
  have q:=yaa_ v;have x:=yae_ (λl=>l[i]?) h.vals;simp only[yaH_,q,yaO_,hi,yak_]at x;have m:=yae_ (λl=>l[i]?) h.keys;simp only[yaH_,q,yaO_,hi,yak_]at m;refine⟨i,es.toList[i],hi,by rw[<-yaQ_];exact q,m,x,?_⟩;have:=y.sf k es.toList ks i _ h.keys h.nd hi q;rwa [x]at this
theorem BolE.push (h:BolE es ks g) {k:Str} (hk:k ∉ ks) (b:Bool) (c:Nat) {m:Str->Bool} (B:m k=b) (A:∀ q,q∈ks->m q=g q):BolE (es.push ⟨str k,.bool b,c⟩) (ks++[k]) m:=by
 refine⟨by simp[h.keys],?_,?_⟩
 .rw[yct_,yat_,h.vals,yat_]
  simp only[yay_,ybz_,B];rw[show List.map (λq=>Value.bool (g q)) ks=List.map (λq=>Value.bool (m q)) ks from ybY_ λq x=>by rw[A q x]]
 rw[ybf_];exact⟨h.nd,by simp,λa y b v e=>by simp at v;subst v;subst e;exact hk y⟩
theorem BolE.set (h:BolE es ks g) {k:Str} {i:Nat} (hi:ks[i]? = some k) (b:Bool) {I:Str->Bool} (Q:I k=b) (O:∀ q,q≠k->I q=g q):BolE (es.modify i λy=>{ y with key:=str k,val:=.bool b }) ks I:=by
 have A:=yae_ List.length h.keys;simp only[yaF_]at A;refine⟨?_,?_,h.nd⟩
 .rw[<-h.keys]
  apply ybD_
  intro j;simp only[yaH_,yaQ_,ybk_]
  by_cases m:i=j
  .subst m
   rw[yao_ rfl];have hk:=yae_ (λl=>l[i]?) h.keys;simp only[yaH_,hi,yaO_,yaQ_]at hk;cases he:es[i]? with
   | none=>rfl
   | some e=>rw[he]at hk;simpa using hk.symm
  rw[yag_ m]
 apply ybD_
 intro j;have L:=yae_ (λl=>l[j]?) h.vals;simp only[yaH_,yaQ_,ybk_]at L ⊢
 by_cases m:i=j
 .subst m
  have G:i<es.size:=by
    have:=(yac_.1 hi).1;rw[ybH_]at A;omega
  rw[yao_ rfl,ybR_ G,hi];simp[Q]
 rw[yag_ m,L];cases hq:ks[j]? with
 | none=>rfl
 | some q =>
   have:q≠k:=λe=>by
     subst e;have x:=(yac_.1 hi).1;have B:=(yac_.1 hq).1;have J:=(yac_.1 hi).2;have M:=(yac_.1 hq).2;have C:=h.nd;unfold List.Nodup at C;rw[yaP_]at C;rcases ycM_ i j with v|v|v
     . exact C i j x B v (J.trans M.symm)
     . exact m v
     . exact C j i B x v (M.trans J.symm)
   simp[O q this]
end
def gr_ (E:Str->Array MapEntry×Nat) (p:Str×Nat):Nat×Obj:=(p.2,.map (E p.1).1 (E p.1).2)
def mX_ (o:Option Nat):Value:=.map o
structure MmE (ks:List (Str×Nat)) (S:List RSt) (es:Array MapEntry) (c:Nat) (E:Str->Array MapEntry×Nat):Prop where
  keys:es.toList.map (·.key)=(ks.map (·.1)).map str
  vals:es.toList.map (·.val)=ks.map λp=>mX_ (some p.2)
  nd:(ks.map (·.1)).Nodup
  all:∀ z∈S,z.1∈ks.map (·.1)
  born:Born es c
  inn:∀ k∈ks.map (·.1),BolE (E k).1 (ik S k) (flg S k)/\Born (E k).1 (E k).2
def MmO (mb:Nat) (ks:List (Str×Nat)) (S:List RSt) (H:Hp):Prop:=∃ es c E,H=(mb,.map es c)::ks.map (gr_ E)/\MmE ks S es c E
theorem MmO.nil (mb c:Nat):MmO mb [] [] [(mb,.map #[] c)]:=⟨#[],c,λ_=>(#[],0),rfl,rfl,rfl,ycA_,by simp,Born.nil c,by simp⟩
section
variable {P:Program} {kt:TypeId} {mb:Nat} {ks:List (Str×Nat)} {S:List RSt} {es:Array MapEntry} {c:Nat} {E:Str->Array MapEntry×Nat} {H:Hp}
theorem MmE.no (e:KeyT P kt str) (h:MmE ks S es c E) {k:Str} (hk:gU_ ks k=none):do_ P kt (str k) es.toList none:=e.nf k es.toList _ h.keys (jg_ hk)
theorem MmE.yes (m:KeyT P kt str) (h:MmE ks S es c E) {k:Str} {b:Nat} (hk:gU_ ks k=some b):∃ i,do_ P kt (str k) es.toList (some (i,mX_ (some b))):=by
  obtain⟨i,hi⟩:=ybq_ (lo_ hk);have e:=yae_ (λl=>l[i]?) h.vals;simp only[yaH_,hi,yaO_]at e;cases hx:es.toList[i]? with
  | none=>rw[hx]at e;simp at e
  | some x =>
    rw[hx]at e;simp only[yaO_,yak_]at e;refine⟨i,?_⟩;have:=m.sf k es.toList _ i x h.keys h.nd (by rw[yaH_,hi];rfl) hx;rwa [e]at this
theorem MmO.at (h:MmO mb ks S H) {k:Str} {b:Nat} (hk:gU_ ks k=some b):∃ es c Hr,H.Perm ((b,.map es c)::Hr)/\BolE es (ik S k) (flg S k)/\Born es c/\
    ∀ s d m v,BolE m (ik (S++[(k,s,d)]) k) (flg (S++[(k,s,d)]) k)->Born m v->∃ H',MmO mb ks (S++[(k,s,d)]) H'/\((b,Obj.map m v)::Hr).Perm H':=by
  obtain⟨es,c,E,rfl,hE⟩:=h;have hm:=lo_ hk;have x:k∈ks.map (·.1):=yaU_ hm;obtain⟨B,C,rfl⟩:=List.append_of_mem hm;refine⟨(E k).1,(E k).2,(mb,.map es c)::(B++C).map (gr_ E),?_,(hE.inn k x).1,(hE.inn k x).2,λs d m v hB G=>?_⟩
  . rw[yat_,yay_,yat_]
    exact (List.Perm.cons _ ybN_).trans (.swap _ _ _)
  . have y:=hE.nd
    rw[yat_,yay_,ybf_,ybG_]at y
    have M:B.map (gr_ λq=>if q=k then (m,v) else E q)=B.map (gr_ E):=ybY_ λp I=>by
      unfold gr_;dsimp only;rw[yag_ λe=>y.2.2 p.1 (yaU_ I) k zaj_ e]
    have L:C.map (gr_ λq=>if q=k then (m,v) else E q)=C.map (gr_ E):=ybY_ λp I=>by
      unfold gr_;dsimp only;rw[yag_ λe=>y.2.1.1 (yap_.2 ⟨p,I,e⟩)]
    refine⟨(mb,.map es c)::(B++(k,b)::C).map (gr_ λq=>if q=k then (m,v) else E q),⟨es,c,_,rfl,hE.keys,hE.vals,hE.nd,λz A=>?_,hE.born,λq J=>?_⟩,?_⟩
    . rcases yah_.1 A with A|A
      . exact hE.all z A
      . rw[yai_]at A;subst A;exact x
    . by_cases e:q=k
      . subst e;rw[yao_ rfl];exact⟨hB,G⟩
      . rw[yag_ e,rg_,yag_ (Ne.symm e)]
        have:flg (S++[(k,s,d)]) q=flg S q:=funext λt=>by rw[oN_,yaS_ (Ne.symm e)];simp
        rw[this];exact hE.inn q J
    . have O:gr_ (λq=>if q=k then (m,v) else E q) (k,b)=(b,.map m v):=by unfold gr_;dsimp only;rw[yao_ rfl]
      rw[yat_,yat_,yay_,M,L,O];exact ((List.Perm.cons _ ybN_).trans (.swap _ _ _)).symm
theorem MmE.push (h:MmE ks S es c E) {k:Str} (hk:gU_ ks k=none) (b G:Nat):MmE (ks++[(k,b)]) S (es.push ⟨str k,mX_ (some b),c⟩) (c+1) (λq=>if q=k then (#[],G) else E q):=by
 have v:=jg_ hk;refine⟨by simp[h.keys],by simp[h.vals],?_,λx B=>by simp only[yat_,yah_];exact .inl (h.all x B),h.born.push _ _,λq m=>?_⟩
 .rw[yat_,ybf_]
  exact⟨h.nd,by simp,λa C q m e=>by simp at m;subst m;subst e;exact v C⟩
 by_cases e:q=k
 .subst e
  rw[yao_ rfl]
  have:ik S q=[]:=ybP_.2 λs A=>by
    obtain⟨d,y⟩:=oJ_.1 A;exact v (h.all _ y)
  rw[this];exact⟨BolE.nil,Born.nil _⟩
 rw[yag_ e];refine h.inn q ?_;rw[yat_,yah_]at m;rcases m with m|m
 .exact m
 simp at m;exact absurd m e
end
section ops
variable {P:Program} {N:Nf} {v0:Vw} {H0:Hp} {R:Exit->Act->World->Prop} {K:List Kt} {fr:Fr} {H F:Hp} {Γ:List Fct}
variable {ops:Array Oper} {l:List Oper} {d:Nat} {ty:TypeId} {ps:String} {af:Array Edge}
variable {mb:Nat} {ks:List (Str×Nat)} {S:List RSt} {Hx:Hp}
theorem eZ_ {t kt B:TypeId} {x y:Operand} {k:Str} (e:KeyT P kt str) (q:∀ w,(underlying t).run P w=.ok (.map kt B) w) (J:∀ w,(zeroValue B).run P w=.ok (.map none) w) (I:MmO mb ks S Hx) (A:Fr.ev fr x=some (.map (some mb))) (m:Fr.ev fr y=some (str k)) (C:H.Perm (Hx++F)) :
    Yld P N fr H Γ (.lookup t x y false) ty (mX_ (gU_ ks k)):=by
  obtain⟨es,c,E,rfl,hE⟩:=I;have hm:∀ v:Vw,v.sat H->af_ Γ v->v.w.heap[mb]? = some (.map es c):=λv h _=>(h.own (mb,.map es c) (C.mem_iff.2 zaj_)).1
  cases hk:gU_ ks k with
  | none=>exact eI_ q J A m hm (e.ok k) (hE.no e hk)
  | some b =>
    obtain⟨i,G⟩:=hE.yes e hk;exact eY_ q A m hm (e.ok k) G
theorem xv_ {t A kt e:TypeId} {x y:Operand} {o:Option Nat} (B:P.underlying t=some (.map kt e)) (C:Fr.ev fr x=some (mX_ o)) (q:Fr.ev fr y=some (.map none)):Yld P N fr H Γ (.binOp .eql t x y A) ty (.bool (decide (o=none))) :=
  λa v h _ _ _ _ _=>by
    have m:decide (o=none)=o.isNone:=by cases o<;>simp
    rw[m];have:=run_eql_map_nil (P:=P) v.w t kt e o B;simp[execOp,h.ev C,h.ev q,eqGuard,mX_,this]
theorem jZ_ {t kt G:TypeId} {x y:Operand} {k s:Str} {b:Nat} (e:KeyT P kt str) (B:∀ w,(underlying t).run P w=.ok (.map kt G) w) (O:∀ w,(zeroValue G).run P w=.ok (.bool false) w) (L:MmO mb ks S Hx) (hk:gU_ ks k=some b) (C:Fr.ev fr x=some (.map (some b))) (q:Fr.ev fr y=some (str s)) (I:H.Perm (Hx++F)) :
    Yld P N fr H Γ (.lookup t x y false) ty (.bool (flg S k s)):=by
  obtain⟨es,c,Hr,M,A,_,_⟩:=L.at hk;have hm:∀ v:Vw,v.sat H->af_ Γ v->v.w.heap[b]? = some (.map es c):=λv h _=>(h.own _ (I.mem_iff.2 (yam_ _ (M.mem_iff.2 yav_)))).1
  by_cases m:s∈ik S k
  . obtain⟨_,_,_,_,_,_,J⟩:=A.yes e m
    exact eY_ B C q hm (e.ok s) J
  . rw[flg_no m]
    exact eI_ B O C q hm (e.ok s) (A.no e m)
theorem yC_ {o:Op} {t kt Q:TypeId} {x y z:Operand} {k:Str} {b h:Nat} (B:KeyT P kt str) (C:o=.insert t x y z\/o=.mapUpdate t x y z) (I:∀ w,(underlying t).run P w=.ok (.map kt Q) w) (O:MmO mb ks S Hx) (hk:gU_ ks k=none)
    (J:Fr.ev fr x=some (.map (some mb))) (G:Fr.ev fr y=some (str k)) (T:Fr.ev fr z=some (.map (some b))) (m:H.Perm ((b,.map #[] h)::(Hx++F)))
    (v:∀ H',MmO mb (ks++[(k,b)]) S H'->Ops P R N v0 H0 ops l K fr (H'++F) Γ):Ops P R N v0 H0 ops (⟨none,o,ty,ps,af,none⟩::l) K fr H Γ:=by
  obtain⟨es,c,E,rfl,hE⟩:=O
  have L:ks.map (gr_ λq=>if q=k then (#[],h) else E q)=ks.map (gr_ E):=ybY_ λp m=>by
    unfold gr_;dsimp only;rw[yag_ λe:p.1=k=>jg_ hk (e▸yaU_ m)]
  have M:gr_ (λq=>if q=k then (#[],h) else E q) (k,b)=(b,.map #[] h):=by unfold gr_;dsimp only;rw[yao_ rfl]
  have A:H.Perm ((mb,.map es c)::((ks++[(k,b)]).map (gr_ λq=>if q=k then (#[],h) else E q)++F)):=by
    refine m.trans ?_;rw[yat_,yay_,ybz_,L,M,yaJ_];refine (List.Perm.swap _ _ _).trans (.cons _ ?_);rw[yar_];exact ybN_.symm
  refine A_ A ?_;refine aE_ 0 C I J G T rfl (B.ok k) (hE.no B hk) ?_;simp only[ycd_];exact v _ ⟨_,_,_,rfl,hE.push hk b h⟩
theorem sz_ {o:Op} {t kt et:TypeId} {x y z:Operand} {k s:Str} {b:Nat} {e M:Bool} (A:KeyT P kt str) (Q:o=.insert t x y z\/o=.mapUpdate t x y z) (U:∀ w,(underlying t).run P w=.ok (.map kt et) w) (Y:MmO mb ks S Hx) (hk:gU_ ks k=some b) (he:M=(flg S k s||e))
    (W:Fr.ev fr x=some (.map (some b))) (T:Fr.ev fr y=some (str s)) (O:Fr.ev fr z=some (.bool M)) (hp:H.Perm (Hx++F))
    (m:∀ H',MmO mb ks (S++[(k,s,e)]) H'->Ops P R N v0 H0 ops l K fr (H'++F) Γ):Ops P R N v0 H0 ops (⟨none,o,ty,ps,af,none⟩::l) K fr H Γ:=by
  subst he;obtain⟨es,c,Hr,Z,v,V,L⟩:=Y.at hk;have I:flg (S++[(k,s,e)]) k s=(flg S k s||e):=by rw[oN_];simp
  have J:∀ q,q≠s->flg (S++[(k,s,e)]) k q=flg S k q:=λq B=>by rw[oN_,yaS_ (Ne.symm B)];simp
  refine A_ (hp.trans (Z.append_right F)) ?_
  by_cases h:s∈ik S k
  . obtain⟨i,en,g1,X,g3,g4,g5⟩:=v.yes A h
    obtain⟨H',C,G⟩:=L s e (es.modify i λy=>{ y with key:=str s,val:=.bool (flg S k s||e) }) c (by rw[rg_,yao_ rfl,ng_,yao_ h];exact v.set g1 _ I J) (V.modify i _ λ_=>rfl);exact hF_ 0 A Q U W T O rfl g5 X g3 (A_ (G.append_right F) (m H' C))
  . obtain⟨H',C,G⟩:=L s e (es.push ⟨str s,.bool (flg S k s||e),c⟩) (c+1) (by rw[rg_,yao_ rfl,ng_,yag_ h];exact v.push h (flg S k s||e) c I λq B=>J q (λe=>h (e▸B))) (V.push _ _)
    exact aE_ 0 Q U W T O rfl (A.ok s) (v.no A h) (A_ (G.append_right F) (m H' C))
end ops
end Go.Sx
namespace Go.Vs
open Go Go.Sx
def Ax.selfs (x:Ax):Nat:=x.roles.countP λr=>decide (r=x.role)
def Ax.exm (x:Ax) (i:Nat):Bool:=decide (x.roles[i]? = some x.role)&&((decide (x.selfs=1)&&(decide (i=0)||decide (i+1=x.roles.length)))||(decide (x.selfs=2)&&decide (x.roles.length=2)))
def Ax.chs (x:Ax):Nat->List RSt
  | 0=>[]
  | i+1=>x.chs i++(match x.roles[i]? with|some r=>if x.exm i=true then [] else [(r,x.role,true)]|none=>[])
def Ax.steps (x:Ax):List RSt :=
  if x.kind=5 then (match x.roles[0]? with|some r=>if r=x.role then [] else [(r,x.role,false)]|none=>[])
  else if x.kind=6 then x.chs x.roles.length else []
def cX_ (l:List Ax):List RSt:=l.flatMap Ax.steps
theorem dB_ {l:List Ax} {i:Nat} {x:Ax} (h:l[i]? = some x):cX_ (l.take (i+1))=cX_ (l.take i)++x.steps:=by
  unfold cX_;rw[yaz_,h,yaY_];simp
theorem Ax.steps_five {x:Ax} {r:Str} (hk:x.kind=5) (h:x.roles[0]? = some r) (d:r≠x.role):x.steps=[(r,x.role,false)]:=by unfold Ax.steps;rw[yao_ hk,h];dsimp only;rw[yag_ d]
theorem Ax.steps_same {x:Ax} {r:Str} (hk:x.kind=5) (h:x.roles[0]? = some r) (d:r=x.role):x.steps=[]:=by unfold Ax.steps;rw[yao_ hk,h];dsimp only;rw[yao_ d]
theorem Ax.steps_six {x:Ax} (hk:x.kind=6):x.steps=x.chs x.roles.length:=by unfold Ax.steps;rw[yag_ zaa_,yao_ hk]
theorem Ax.steps_no {x:Ax} (d:x.kind≠5) (e:x.kind≠6):x.steps=[]:=by unfold Ax.steps;rw[yag_ d,yag_ e]
theorem Ax.chs_yes {x:Ax} {i:Nat} {r:Str} (h:x.roles[i]? = some r) (d:x.exm i=true):x.chs (i+1)=x.chs i:=by rw[Ax.chs,h];dsimp only;rw[yao_ d,yaw_]
theorem Ax.chs_no {x:Ax} {i:Nat} {r:Str} (h:x.roles[i]? = some r) (d:x.exm i=false):x.chs (i+1)=x.chs i++[(r,x.role,true)]:=by rw[Ax.chs,h];dsimp only;rw[yag_ (by rw[d];simp)]
def Frm (ks:List (Str×Nat)) (S:List RSt):Prop:=∀ k∈ks.map (·.1),∃ s c,(k,s,c)∈S
theorem Frm.nil {S:List RSt}:Frm [] S:=λk hk=>by simp at hk
theorem Frm.more {ks:List (Str×Nat)} {S T:List RSt} (h:Frm ks S):Frm ks (S++T):=λk hk=>by
  obtain⟨s,c,d⟩:=h k hk;exact⟨s,c,yam_ _ d⟩
theorem Frm.add {ks d:List (Str×Nat)} {S:List RSt} {r s:Str} {e:Bool} (h:Frm ks S) (m:∀ k∈d.map (·.1),k∈ks.map (·.1)\/k=r):Frm d (S++[(r,s,e)]):=λk hk=>by
 rcases m k hk with v|rfl
 .obtain⟨t,c,q⟩:=h k v
  exact⟨t,c,yam_ _ q⟩
 exact⟨s,e,by simp⟩
def sE (S:List RSt) (r s:Str) (c:Bool):Prop:=(r,s,c)∈S
def rK_ (S:List RSt):Prop:=∃ n,Clo (sE S) n
theorem yI_ {α:Type} {l:List α} (h:l.Nodup) {i j:Nat} {x:α} (hi:l[i]? = some x) (q:l[j]? = some x):i=j:=by
 have e:=(yac_.1 hi).1;have d:=(yac_.1 q).1;have m:=(yac_.1 hi).2;have v:=(yac_.1 q).2;unfold List.Nodup at h;rw[yaP_]at h;rcases ycM_ i j with g|g|g
 .exact absurd (m.trans v.symm) (h i j e d g)
 .exact g
 exact absurd (v.trans m.symm) (h j i d e g)
structure GrO (S:List RSt) (R:List Str) (G:List (List (Nat×Bool))):Prop where
  len:G.length=R.length
  nd:R.Nodup
  mem:∀ r,r∈R↔∃ s c,(r,s,c)∈S
  row:∀ (i:Nat) (r:Str) (l:List (Nat×Bool)),R[i]? = some r->G[i]? = some l->∀ (j:Nat) (c:Bool),(j,c)∈l↔∃ s,R[j]? = some s/\(∃ c',(r,s,c')∈S)/\c=flg S r s
theorem GrO.to {S:List RSt} {R:List Str} {G:List (List (Nat×Bool))} (h:GrO S R G):∀ (i:Nat) (l:List (Nat×Bool)),G[i]? = some l->∀ s∈l,s.1<G.length:=by
  intro i l hl s m;have d:=(yac_.1 hl).1;rw[h.len]at d;obtain⟨t,e,_⟩:=(h.row i _ l (yaa_ d) hl s.1 s.2).1 m;rw[h.len];exact (yac_.1 e).1
theorem GrO.circ {S:List RSt} {R:List Str} {G:List (List (Nat×Bool))} (h:GrO S R G):rK_ S↔∃ n,Clo (gE G) n:=by
 constructor
 .rintro ⟨n,f,c,F,I,A,C,e,v⟩
  have Q:∀ m,∃ j,m<=n->R[j]? = some (f m):=λm=>by
    by_cases g:m<=n
    . by_cases O:m<n
      . obtain⟨j,L⟩:=ybq_ ((h.mem (f m)).2 ⟨_,_,A m O⟩)
        exact⟨j,λ_=>L⟩
      . obtain⟨j,L⟩:=ybq_ ((h.mem (f 0)).2 ⟨_,_,A 0 F⟩)
        exact⟨j,λ_=>by rw[show m=n by omega,I];exact L⟩
    . exact⟨0,λq=>absurd q g⟩
  obtain⟨g,H⟩:=Classical.axiomOfChoice Q;refine⟨n,g,λm=>flg S (f m) (f (m+1)),F,?_,λm hm=>?_,C,e,?_⟩
  .have x:=H n (yaj_ _)
   have J:=H 0 (ybC_ _);rw[I]at x;exact yI_ h.nd x J
  .have x:=H m zaa_
   have B:g m<G.length:=by rw[h.len];exact (yac_.1 x).1
   exact⟨_,yaa_ B,(h.row (g m) (f m) _ x (yaa_ B) _ _).2 ⟨f (m+1),H (m+1) zaa_,⟨_,A m hm⟩,rfl⟩⟩
  have:=A C e;rw[v]at this;exact oM_.2 this
 rintro ⟨n,g,c,F,I,A,C,e,v⟩
 have K:∀ m,m<n->∃ d,((R[g m]?).getD [],(R[g (m+1)]?).getD [],d)∈S/\(c m=true->d=true):=λm hm=>by
   obtain⟨l,hl,P⟩:=A m hm;have E:g m<R.length:=by rw[<-h.len];exact (yac_.1 hl).1
   obtain⟨s,x,⟨N,J⟩,M⟩:=(h.row (g m) _ l (yaa_ E) hl _ _).1 P;rw[yaa_ E,x];simp only[Option.getD_some];cases hc:c m
   . exact⟨N,J,λq=>by cases q⟩
   . rw[hc]at M
     exact⟨true,oM_.1 M.symm,λ_=>rfl⟩
 have y:∀ m,∃ d,m<n->((R[g m]?).getD [],(R[g (m+1)]?).getD [],d)∈S/\(c m=true->d=true):=λm=>by
   by_cases g:m<n
   . obtain⟨d,y⟩:=K m g
     exact⟨d,λ_=>y⟩
   . exact⟨false,λq=>absurd q g⟩
 obtain⟨d,y⟩:=Classical.axiomOfChoice y;exact⟨n,λm=>(R[g m]?).getD [],d,F,by dsimp only;rw[I],λm hm=>(y m hm).1,C,e,(y C e).2 v⟩
end Go.Vs
namespace Go.Sx
open Go
section
variable {P:Program} {N:Nat} {v0:Vw} {H0:Hp} {R:Exit->Act->World->Prop} {K:List Kt} {fr:Fr} {H F:Hp} {Γ:List Fct}
theorem ca_ {n:Nat}:∀ (K:List Kt) (e:Exit) (a:Act) (w:World),post P R K e a w->eg_ Fence.wide n P R K e a w
 | [],_,_,_,h=>h
 | .seq c::K,.normal,a,w,h=>wpIn_wide.2 (wp_mono h λe a w d=>ca_ K e a w d)
 | .seq _::K,.exit _,a,w,h=>ca_ K _ a w h
 | .seq _::K,.goto _,a,w,h=>ca_ K _ a w h
 | .seq _::K,.ret,a,w,h=>ca_ K _ a w h
 | .seq _::K,.panic _,a,w,h=>ca_ K _ a w h
 | .seq _::K,.outgrown,a,w,h=>ca_ K _ a w h
 | .inv J::_,.normal,_,_,h=>h
 | .inv _::K,.exit _,a,w,h=>ca_ K _ a w h
 | .inv _::K,.goto _,a,w,h=>ca_ K _ a w h
 | .inv _::K,.ret,a,w,h=>ca_ K _ a w h
 | .inv _::K,.panic _,a,w,h=>ca_ K _ a w h
 | .inv _::K,.outgrown,a,w,h=>ca_ K _ a w h
 | .blk id::K,.exit id',a,w,h=>by
   simp only[eg_,post]at h ⊢
   split
   . rename_i e;rw[yao_ e]at h;exact ca_ K _ a w h
   . rename_i e;rw[yag_ e]at h;exact ca_ K _ a w h
 | .blk _::K,.normal,a,w,h=>ca_ K _ a w h
 | .blk _::K,.goto _,a,w,h=>ca_ K _ a w h
 | .blk _::K,.ret,a,w,h=>ca_ K _ a w h
 | .blk _::K,.panic _,a,w,h=>ca_ K _ a w h
 | .blk _::K,.outgrown,a,w,h=>ca_ K _ a w h
end
end Go.Sx
namespace Go.Sx
open Go
section
variable {P:Program} {N:Nf} {v0:Vw} {H0:Hp} {R:Exit->Act->World->Prop} {K:List Kt} {fr:Fr} {H F:Hp} {Γ:List Fct} {ops:Array Oper} {l:List Oper} {d:Nat} {ty:TypeId} {ps:String} {af:Array Edge} {e:TypeId} {sz n:Nat} {sv:Value} {xs:List Value} {Hr:Hp}
theorem yL_ (z:List Value) (h:0<z.length) (n:Nat):madeCells z.toArray (n*z.length)=(jI_ z n).toArray:=kg_ z h n
theorem sB_ {t:TypeId} {x y:Operand} {by':Nat} {z:Value} (G:P.underlying t=some (.slice e)) (hi:(P.info? e).map (λi=>(i.zero,i.size,i.bytes))=some (some z,sz,by')) (m:z.cells.toList.length=sz) (L:0<sz) (I:Fr.ev fr x=some (.int .i64 (n:Int))) (E:Fr.ev fr y=some (.int .i64 (n:Int)))
    (M:by'*n<=281474976710656) (q:n<=maxLen) (J:Nat.blt d N.n=true)
    (hk:∀ sv Hr,at_ e sz sv n (jI_ z.cells.toList n) Hr->Ops P R N v0 H0 ops l K ((d,sv)::fr) (Hr++H) Γ):Ops P R N v0 H0 ops (⟨some d,.makeSlice t x y,ty,ps,af,none⟩::l) K fr H Γ:=by
  refine gE_ (x:=λb=>.slice (some ⟨b,0,none⟩) n n) (o:=.cells (jI_ z.cells.toList n).toArray e (0,0)) J (λa v C _ _=>?_) (λb=>hk _ [(b,.cells (jI_ z.cells.toList n).toArray e (0,0))] ⟨?_,.inr ⟨b,n,(jI_ z.cells.toList n).toArray,rfl,rfl,yaj_ _,q,?_,?_⟩⟩)
  . cases h:P.info? e with
    | none=>rw[h]at hi;cases hi
    | some i =>
      rw[h]at hi;simp only[yaO_,yak_,ybV_]at hi
      have A:(i.bytes:Int)*(n:Int)<=281474976710656:=by
        rw[hi.2.2];have h:((by'*n:Nat):Int)<=281474976710656:=by omega
        rwa [Int.natCast_mul]at h
      have B:=run_make (P:=P) v.w t e i z G h hi.1 .i64 .i64 (n:Int) (n:Int) zaa_ (Int.le_refl _) A (by simp only[maxLen]at q;omega);have hm:=yL_ z.cells.toList zaa_ n;rw[m,ydn_]at hm;rw[hi.2.1,ycK_,hm]at B;simp only[execOp,C.ev I,C.ev E];simp[B]
  . rw[ix_,m]
  . simp only[ybI_];rw[ix_,m]
  . rw[ycF_,yab_ (by rw[ix_,m];exact yaj_ _)]
theorem rL_ {α:Type} (f:α->List Value) (z:α):∀ n,jI_ (f z) n=(List.replicate n z).flatMap f
  | 0=>rfl
  | n+1=>by rw[jI_,List.replicate_succ,yaG_,rL_ f z n]
end
end Go.Sx
namespace Go.Vs
open Go Go.Sx
def Ky.cells (k:Ky):List Value:=[.int .i64 k.kind,str k.role,str k.atom]
def Ky.val (k:Ky):Value:=.agg k.cells.toArray
def sj_ (s:kt_):List Value:=[str s.1,str s.2]
def hY_ (s:kt_):Value:=.agg (sj_ s).toArray
def Ky.eqb (p q:Ky):Bool:=(p.kind==q.kind)&&((p.role==q.role)&&((p.atom==q.atom)&&true))
theorem Ky.eqb_eq (p q:Ky):p.eqb q=decide (p=q):=by
  rw[ybx_];cases p;cases q;simp[Ky.eqb]
def Cq_ (p q:kt_):Bool:=(p.1==q.1)&&((p.2==q.2)&&true)
theorem xY_ (p q:kt_):Cq_ p q=decide (p=q):=by
  rw[ybx_];cases p;cases q;simp[Cq_]
theorem Fc.cells_one (p:Fc):p.cells.all Value.oneCell'=true:=rfl
end Go.Vs
namespace Go.Sx
open Go Go.Vs
structure Emt (P:Program) (tF:TypeId) where
  stp:Fc->List Fc->List Fc
  kof:List Fc->List Fc
  St:List Fc->List Fc->Hp->Prop
  fn:FuncId
  caps:List Value
  ef:Fct
  kb:Nat
  fb:Nat
  grows:Grows stp kof
  emit:∀ f nw fm H,St nw fm H->Tri P fn (f.val::caps).toArray H [ef] (λ_:{H':Hp // St (stp f nw) fm H'}=>.tuple #[]) (λy=>y.1) (λ_=>[])
  known:∀ {nw fm H},St nw fm H->∃ es c,(kb,Obj.map es c)∈H/\SetE Fc.val es (kof nw)
  firm:∀ {nw fm H},St nw fm H->∃ es c q,(fb,Obj.map es c)∈H/\SetE Fc.val es q/\∀ f,f∈q↔f∈fm
  setf:∀ {nw fm H} (f:Fc),St nw fm H->∃ es c q Hr,H.Perm ((fb,Obj.map es c)::Hr)/\SetE Fc.val es q/\(∀ f,f∈q↔f∈fm)/\∀ es' c',SetE Fc.val es' (if f∈q then q else q++[f])->∃ H',St nw (f::fm) H'/\H'.Perm ((fb,Obj.map es' c')::Hr)
section
variable {P:Program} {N:Nf} {v0:Vw} {H0:Hp} {R:Exit->Act->World->Prop} {K:List Kt} {fr:Fr} {H:Hp} {Γ:List Fct}
variable {ops:Array Oper} {l:List Oper} {d:Nat} {ty:TypeId} {ps:String} {af:Array Edge} {tF:TypeId} {E:Emt P tF} {nw fm:List Fc} {Hs F:Hp}
theorem oj_ {b:Nat} {o:Obj} {v:Vw} (e:H.Perm (Hs++F)) (hm:(b,o)∈Hs) (h:v.sat H):v.w.heap[b]? = some o:=(h.own _ (e.mem_iff.2 (yam_ _ hm))).1
theorem jd_ {t e:TypeId} {x y:Operand} {f:Fc} (hS:E.St nw fm Hs) (I:KeyT P tF Fc.val) (B:∀ w,(underlying t).run P w=.ok (.map tF e) w) (J:∀ w,(zeroValue e).run P w=.ok (.bool false) w) (C:Fr.ev fr x=some (.map (some E.kb))) (A:Fr.ev fr y=some f.val) (m:H.Perm (Hs++F)) :
    Yld P N fr H Γ (.lookup t x y false) ty (.bool (decide (f∈E.kof nw))):=by
  obtain⟨es,c,q,G⟩:=E.known hS;exact bH_ I B J C A G λv h _=>oj_ m q h
theorem rQ_ {t m:TypeId} {x y:Operand} {f:Fc} (hS:E.St nw fm Hs) (M:KeyT P tF Fc.val) (G:∀ w,(underlying t).run P w=.ok (.map tF m) w) (O:∀ w,(zeroValue m).run P w=.ok (.bool false) w) (J:Fr.ev fr x=some (.map (some E.fb))) (C:Fr.ev fr y=some f.val) (A:H.Perm (Hs++F)) :
    Yld P N fr H Γ (.lookup t x y false) ty (.bool (decide (f∈fm))):=by
  obtain⟨es,c,q,B,L,I⟩:=E.firm hS;have:=bH_ (P:=P) (N:=N) (H:=H) (Γ:=Γ) (ty:=ty) M G O J C L λv h _=>oj_ A B h
  have e:decide (f∈q)=decide (f∈fm):=by rw[ybm_];exact I f
  rw[<-e];exact this
theorem yB_ {o:Op} {t S:TypeId} {x y z:Operand} {f:Fc} (hS:E.St nw fm Hs) (O:KeyT P tF Fc.val) (B:o=.insert t x y z\/o=.mapUpdate t x y z) (J:∀ w,(underlying t).run P w=.ok (.map tF S) w)
    (L:Fr.ev fr x=some (.map (some E.fb))) (C:Fr.ev fr y=some f.val) (T:Fr.ev fr z=some (.bool true)) (m:H.Perm (Hs++F))
    (hk:∀ Hs',E.St nw (f::fm) Hs'->Ops P R N v0 H0 ops l K fr (Hs'++F) Γ):Ops P R N v0 H0 ops (⟨none,o,ty,ps,af,none⟩::l) K fr H Γ:=by
  obtain⟨es,c,q,Hr,A,G,U,v⟩:=E.setf f hS;refine A_ (H':=(E.fb,.map es c)::(Hr++F)) (m.trans (by have:=A.append_right F;simpa using this)) ?_;refine oo_ 0 O B J L C T rfl G λh I e=>?_;obtain⟨H',M,Q⟩:=v h I e;simp only[ycd_];exact A_ (by have:=(Q.append_right F).symm;simpa using this) (hk H' M)
end
structure EngB where
  g:Nat
  pb:Nat
  ab:Nat
  ub:Nat
  ob:Nat
  ib:Nat
  rb:Nat
  sb:Nat
  lad:Ao
  lcap:Nat
  lps:List Str
structure EngA where
  p:Ky->Ao×Nat
  a:Str->Ao×Nat
  u:Str->Ao×Nat
  o:kt_->Ao×Nat
  i:kt_->Ao×Nat
  r:kt_->Ao×Nat
  s:kt_->Ao×Nat
def EngB.cells (B:EngB) {P:Program} {tF:TypeId} (E:Emt P tF):List Value :=
  [.map (some B.pb),.slice B.lad B.lps.length B.lcap,.map (some E.kb),.func (.func E.fn) #[] E.caps.toArray,.map (some B.ab),.map (some B.ub),.map (some B.ob),.map (some B.ib),.map (some B.rb),.map (some B.sb),.map (some E.fb)]
structure IxH where
  a:Hp
  u:Hp
  o:Hp
  i:Hp
  r:Hp
  s:Hp
def IxO (tS tF:TypeId) (B:EngB) (x:Ix) (y:IxH):Prop :=
  cU_ str al_ tS 1 x.above B.ab y.a/\cU_ str al_ tS 1 x.under B.ub y.u/\cU_ hY_ al_ tS 1 x.frm B.ob y.o/\cU_ hY_ al_ tS 1 x.into B.ib y.i/\cU_ hY_ Fc.cells tF 6 x.ranges B.rb y.r/\cU_ hY_ Fc.cells tF 6 x.firms B.sb y.s
end Go.Sx
