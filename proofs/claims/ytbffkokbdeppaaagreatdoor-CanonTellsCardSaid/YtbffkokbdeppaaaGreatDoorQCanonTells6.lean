/-
  Lemmas for the law CanonTells (no condition).
-/
import Derived.Lib.SlicesCompact
import Derived.Sort.EncStr
import Derived.Test.YtbffkokbdeppaaaGreatDoorQCanonTells5
import Derived.Test.YtbffkokbdeppaaaGreatDoorProg
import Derived.ArgAppend
set_option linter.unusedVariables false
set_option linter.unusedSimpArgs false
set_option linter.unusedSectionVars false
set_option maxHeartbeats 1000000
namespace Go.Vs
open Go Go.Sx
theorem kA_ {s:Str} (h:gC_ s=true):∃ c t,s=c::t/\et_ c=true/\mE_ s=true:=by
  cases s with
  | nil=>simp[gC_]at h
  | cons c t =>
    simp only[gC_,yaq_]at h;exact⟨c,t,rfl,h.1.1.2,h.1.2⟩
theorem plain_head {s:Str} (h:bj_ s=true):∃ c t,s=c::t/\et_ c=true:=by
  unfold bj_ at h;simp only[yaq_]at h;cases hx:ixS 58 s with
  | none=>rw[hx]at h;obtain⟨c,t,e,m,_⟩:=kA_ h.2;exact⟨c,t,e,m⟩
  | some k =>
    rw[hx]at h;simp only[yaq_]at h;obtain⟨c,t,e,m,_⟩:=kA_ h.2.1;cases s with
    | nil=>simp at e
    | cons d u =>
      cases k with
      | zero=>simp at e
      | succ k=>simp only[ybo_,ybE_]at e;exact⟨d,u,rfl,e.1▸m⟩
theorem nL_ {s:Str} (h:mE_ s=true):∀ c∈s,fH_ c=true:=λc d=>yaW_.1 h c d
theorem wN_ {c:UInt8} {s:Str} {k:Nat} (h:ixS c s=some k):s=s.take k++c::s.drop (k+1):=by
 induction s generalizing k with
 | nil=>simp[ixS]at h
 | cons b s ih =>
   simp only[ixS]at h
   split at h
   . rename_i d
     simp only[yak_]at h;subst h;subst d;simp
   . cases hx:ixS c s with
     | none=>rw[hx]at h;simp at h
     | some j =>
       rw[hx]at h;simp only[yaO_,yak_]at h;subst h;simp only[ybo_,ycg_,yaJ_];rw[<-ih hx]
theorem wr_ {s:Str} (h:bj_ s=true):∀ c∈s,fH_ c=true\/c=58:=by
 unfold bj_ at h;simp only[yaq_]at h;cases hx:ixS 58 s with
 | none=>rw[hx]at h;obtain⟨_,_,_,_,e⟩:=kA_ h.2;exact λc d=>.inl (nL_ e c d)
 | some k =>
   rw[hx]at h;simp only[yaq_]at h;obtain⟨_,_,_,_,e⟩:=kA_ h.2.1;obtain⟨_,_,_,_,m⟩:=kA_ h.2.2;intro c d;rw[wN_ hx]at d;rcases yah_.1 d with d|d
   . exact .inl (nL_ e c d)
   . rcases yan_.1 d with rfl|d
     . exact .inr rfl
     . exact .inl (nL_ m c d)
theorem mM_ {c:UInt8}:∀ {s:Str},c ∉ s->ixS c s=none
  | [],_=>rfl
  | b::s,h=>by
    simp only[yan_,ydH_]at h;simp only[ixS];rw[yag_ (λe=>h.1 e.symm),mM_ h.2];rfl
theorem iL_ {s:Str} (h:bj_ s=true):bm_ 46 s=[s] :=
  gD_ (mM_ λhm=>by rcases wr_ h 46 hm with h|h<;>revert h<;>decide)
theorem df_ {s:Str} (h:bj_ s=true):aV_ s=true:=by simp[aV_,h]
theorem dp_ {s:Str} (h:bj_ s=true):ct_ s=true:=by
  unfold ct_;rw[iL_ h];simp[df_ h]
theorem nT_ (c:UInt8):∀ (f r:Str),bm_ c (f++[c]++r)=bm_ c f++bm_ c r
 | [],r=>by simp[bm_]
 | b::f,r=>by
   have d:=nT_ c f r;simp only[yar_,yaJ_,ycX_]at d ⊢
   by_cases e:b=c
   . subst e;simp only[bm_,ycn_,d,yaJ_]
   . simp only[bm_,e,yce_,d]
     cases hs:bm_ c f with
     | nil=>exact absurd hs (lq_ c f)
     | cons x t=>simp
theorem uk_ {c:UInt8} (h:et_ c=true):c≠42/\c≠33/\c≠123/\c≠60/\c≠95:=by
  refine⟨?_,?_,?_,?_,?_⟩<;>rintro rfl<;>revert h<;>decide
theorem uM_ {s:Str} (h:bj_ s=true):bd_ s=true:=by
  obtain⟨c,t,rfl,v⟩:=plain_head h;obtain⟨m,d,q,e,_⟩:=uk_ v;unfold bd_;rw[yag_ (by simp[m,d]),yag_ (by simp[q]),yag_ zbJ_];exact df_ h
theorem lj_ {s:Str} (h:aV_ s=true):bd_ ([123]++s++[125])=true:=by
  unfold bd_;have e:([123]++s++[125]).length=s.length+2:=by simp
  rw[yag_ zaj_,yao_ (by
    refine⟨by omega,by simp,?_⟩;rw[ybh_ zaj_];simp)]
  rw[e];have:(List.drop 1 ([123]++s++[125])).take (s.length+2 - 1 - 1)=s:=by simp
  rw[this];exact h
theorem uN_ {t:Str} (h:t≠[]):bd_ ([60]++t++[62])=true:=by
  unfold bd_;have hl:0<t.length:=List.length_pos_iff.2 h;have e:([60]++t++[62]).length=t.length+2:=by simp
  rw[yag_ zaj_,yag_ zaj_,yao_ (by
    refine⟨by omega,by simp,?_⟩;rw[ybh_ zaj_];simp)]
namespace Con
def dep:Con->Nat
  | mk _ _ _ _ _ _ ps=>deps ps
where deps:List Con->Nat
  | []=>0
  | p::ps=>max (1+dep p) (deps ps)
theorem ru_ {p:Con}:∀ {ps:List Con},p∈ps->1+p.dep<=dep.deps ps
 | q::ps,h=>by
   rcases yan_.1 h with rfl|h
   . simp only[dep.deps];omega
   . have:=ru_ h;simp only[dep.deps];omega
theorem rv_ (c:Con):c.dep=dep.deps c.parts:=by cases c;rfl
theorem sz_eq (c:Con):c.sz=1+sz.szs c.parts:=by cases c;rfl
theorem tc_:∀ (m:Nat) (c:Con),c.sz<=m->∀ d n,(c.fits d n).1=true↔d+c.dep<=8/\n+c.sz<=64
 | 0,c,h=>by have:=c.sz_pos;omega
 | m+1,c,h=>λd n=>by
   have y:∀ ps:List Con,(∀ p∈ps,p.sz<=m)->∀ n,n<=64->((fits.fitss ps (d+1) n).1=true↔(∀ p∈ps,d+1+p.dep<=8)/\n+sz.szs ps<=64):=by
     intro ps
     induction ps with
     | nil=>intro _ n E;simp[fits.fitss,sz.szs,E]
     | cons p ps ih =>
       intro e n E;have v:=tc_ m p (e p zaj_) (d+1) n;simp only[fits.fitss,sz.szs,yan_,forall_eq_or_imp];rcases x:p.fits (d+1) n with⟨b,q⟩
       rw[x]at v;cases b with
       | true =>
         have C:=rm_ _ p (yaj_ _) (d+1) n (by rw[x]);rw[x]at C;simp only at C v ⊢;have B:=v.1 trivial;rw[ih (λr G=>e r (by simp[G])) q zaa_];constructor
         . rintro ⟨a,b⟩;exact⟨⟨B.1,a⟩,by omega⟩
         . rintro ⟨⟨_,a⟩,b⟩;exact⟨a,by omega⟩
       | false =>
         simp only[ybn_,false_iff]at v ⊢;rintro ⟨⟨a,_⟩,b⟩;exact v ⟨a,by omega⟩
   have F:=rv_ c;have H:=sz_eq c;rw[fits_eq]
   split
   . rename_i A
     simp only[yby_,yaI_]at A;simp only[ybn_,false_iff];rintro ⟨a,b⟩;omega
   . rename_i A
     simp only[yby_,yaI_,ydH_]at A;rw[y c.parts (λp e=>by have:=sz_part e;omega) (n+1) zaa_,F,H];constructor
     . rintro ⟨a,b⟩
       refine⟨?_,by omega⟩
       have:∀ ps:List Con,(∀ p∈ps,d+1+p.dep<=8)->d+dep.deps ps<=8:=by
         intro ps
         induction ps with
         | nil=>intro _;simp[dep.deps];omega
         | cons p ps ih =>
           intro e;have v:=e p zaj_;have B:=ih λq x=>e q (by simp[x])
           simp only[dep.deps];omega
       exact this _ a
     . rintro ⟨a,b⟩
       exact⟨λp e=>by have:=ru_ e;omega,by omega⟩
theorem check_iff (c:Con):c.check=0↔c.dep<=8/\c.sz<=64/\c.fine:=by
 unfold check fine;have h:=tc_ _ c (yaj_ _) 0 0
 by_cases d:(c.fits 0 0).1=true
 .rw[yao_ d]
  have:=h.1 d;constructor
  .intro e;exact⟨by omega,by omega,e⟩
  exact λe=>e.2.2
 rw[yag_ d];constructor
 .intro e;cases e
 intro e;exact absurd (h.2 ⟨by omega,by omega⟩) d
theorem check_part {c p:Con} (h:c.check=0) (d:p∈c.parts):p.check=0:=by
  rw[check_iff]at h ⊢;have e:=ru_ d;rw[<-rv_]at e;have m:=sz_part d;exact⟨by omega,by omega,fine_part h.2.2 d⟩
structure Names (c:Con):Prop where
  plain:c.kind=3\/c.kind=6\/c.kind=7->bj_ c.name=true
  person:c.kind=4->aV_ c.name=true
  nums:c.kind=7->-1099511627776<=c.lo/\c.lo<=c.hi/\c.hi<=1099511627776
theorem names_of {c:Con} (h:c.fine):Names c:=by
 have F:=fields h;have d:=((kZ_ c).1 h).1;unfold fieldErr at d;rw[yag_ (by have:=F.k1;have:=F.k7;omega)]at d
 split at d
 .cases d
 split at d
 .cases d
 rename_i q
 split at d
 .cases d
 split at d
 .rename_i m
  refine⟨λe=>?_,λe=>?_,λe=>?_⟩
  .rcases e with e|e|e<;>rw[e]at m<;>simpa [nd,en_] using m
  .rw[e]at m
   simp[nd,en_]at m
   simp[aV_,m]
  rw[e]at q;simp[nd,en_]at q
  omega
 cases d
theorem oB_ (x y:Str) (r:List Str) (d:Str):Lib.join (x::y::r) d=x++d++Lib.join (y::r) d:=by simp[Lib.join,List.intercalate]
theorem Ar_ {c:Con} (h:c.fine) (hk:5<=c.kind):c.text≠[]:=by
 have F:=fields h;have e:=F.k7;rw[text_eq,yag_ zaa_,yag_ zaa_,yag_ zaa_,yag_ zaa_]
 split
 .rename_i d
  have hl:=F.le;rw[d]at hl;simp[nd,en_]at hl
  match hp:c.parts,hl with
  | [],hl=>simp at hl
  | [_],hl=>simp at hl
  | p::q::r,_=>simp only[yay_,oB_];simp
 split
 .simp only[oB_];simp
 simp only[oB_];simp
theorem atom_ok {c:Con} (h:c.check=0):bd_ c.atom=true:=by
 have d:=(check_zero h).1;have F:=fields d;have N:=names_of d;have e:=F.k1;have m:=F.k7;unfold atom
 split
 .rfl
 split
 .rfl
 split
 .exact uM_ (N.plain zaa_)
 split
 .exact lj_ (N.person zaa_)
 unfold textN;rw[yao_ h];exact uN_ (Ar_ d zaa_)
theorem atom_len {c:Con} (d:c.ok) (h:c.check=0):c.atom.length<=7000:=by
  have F:=fields (check_zero h).1;have m:=F.nm;have e:=textN_len d;unfold atom
  repeat' split
  all_goals simp<;>omega
theorem wn_ {c:Con} (h:c.check=0) (hk:c.kind=5) {j:Nat} (y:2<=j) (B:j<=c.parts.length):(c.pre j).check=0:=by
 have v:=(check_zero h).1;have F:=fields v;have d:=F.mo;rw[hk]at d;simp[nd,en_]at d
 rw[check_iff]at h ⊢
 have m:∀ (ps:List Con) (j:Nat),sz.szs (ps.take j)<=sz.szs ps/\dep.deps (ps.take j)<=dep.deps ps:=by
   intro ps
   induction ps with
   | nil=>intro j;simp
   | cons p ps ih =>
     intro j;cases j with
     | zero=>simp[sz.szs,dep.deps]
     | succ j=>have:=ih j;simp only[ybo_,sz.szs,dep.deps];omega
 have C:=m c.parts j;have A:=rv_ c;have E:=sz_eq c;refine⟨?_,?_,?_⟩
 .rw[rv_];show dep.deps (c.parts.take j)<=8;omega
 .rw[sz_eq];show 1+sz.szs (c.parts.take j)<=64;omega
 rw[kZ_];refine⟨?_,λp x=>fine_part v (ybO_ x)⟩;unfold fieldErr;have e:(c.pre j).parts.length=j:=by show (c.parts.take j).length=j;simp;omega
 rw[yag_ (by show ¬ ((5:Int)<1\/7<(5:Int));omega)];simp only[e];have q:(c.pre j).kind=5:=rfl;rw[q];simp[nd,en_,pre,name,lo,hi]
 omega
end Con
structure PQ (f:Int) (q:Pc):Prop where
  frm:q.frm=f
  sm:q.sm
  ok:q.valid=true
section
variable {f:Int} (h0:-1<=f) (h1:f<1024) {a b c r s t:Str} {lo hi:Int}
include h0 h1
theorem xF_ (d:bd_ a=true) (e:bd_ c=true):Pc.valid ⟨1,a,[],c,[],[],[],0,0,f⟩=true:=by
  unfold Pc.valid;rw[yag_ zan_];simp[nus,gm_,bY_,d,e]
theorem val2 (d:bd_ a=true) (h:bd_ b=true) (e:bd_ c=true):Pc.valid ⟨2,a,b,c,[],[],[],0,0,f⟩=true:=by
  unfold Pc.valid;rw[yag_ zan_];simp[nus,gm_,bY_,d,h,e]
theorem val3 (d:bd_ a=true) (h:ct_ r=true) (e:bd_ c=true):Pc.valid ⟨3,a,[],c,r,[],[],0,0,f⟩=true:=by
  unfold Pc.valid;rw[yag_ zan_];simp[nus,gm_,bY_,d,h,e]
theorem val4 (d:bd_ a=true) (h:ct_ r=true) (e:bd_ c=true):Pc.valid ⟨4,a,[],c,r,[],[],0,0,f⟩=true:=by
  unfold Pc.valid;rw[yag_ zan_];simp[nus,gm_,bY_,d,h,e]
theorem val5 (e:ct_ r=true) (d:ct_ t=true):Pc.valid ⟨5,[],[],[],r,[],t,0,0,f⟩=true:=by
  unfold Pc.valid;rw[yag_ zan_];simp[nus,gm_,bY_,e,d]
theorem val6 (h:ct_ r=true) (d:ct_ s=true) (e:ct_ t=true):Pc.valid ⟨6,[],[],[],r,s,t,0,0,f⟩=true:=by
  unfold Pc.valid;rw[yag_ zan_];simp[nus,gm_,bY_,h,d,e]
theorem val7 (d:ct_ r=true):Pc.valid ⟨7,[],[],[],r,[],[],0,0,f⟩=true:=by
  unfold Pc.valid;rw[yag_ zan_];simp[nus,gm_,bY_,d]
theorem val8 (d:bd_ a=true) (e:aV_ r=true) (h:-1099511627776<=lo/\lo<=hi/\hi<=1099511627776):Pc.valid ⟨8,a,[],[],r,[],[],lo,hi,f⟩=true:=by
  unfold Pc.valid;rw[yag_ zan_,yag_ (by simp[nus,gm_];omega)];simp[nus,gm_,bY_,d,e]
theorem val9 (d:bd_ c=true) (e:aV_ r=true) (h:-1099511627776<=lo/\lo<=hi/\hi<=1099511627776):Pc.valid ⟨9,[],[],c,r,[],[],lo,hi,f⟩=true:=by
  unfold Pc.valid;rw[yag_ zan_,yag_ (by simp[nus,gm_];omega)];simp[nus,gm_,bY_,d,e]
end
theorem dn_ {Q:Pc->Prop} {f:Int} {l:List Pc} {p:Pc} (hl:∀ q∈l,Q q) (e:Q { p with frm:=f }):∀ q∈ins f l p,Q q:=by
 unfold ins
 split
 .exact hl
 intro q d;rcases yah_.1 d with d|d
 .exact hl q d
 simp only[yai_]at d;subst d;exact e
theorem dz_ {s:Str} (h:bj_ s=true):s.length<=24:=Con.plain_len h
theorem lz_ {s:Str} (h:aV_ s=true):s.length<=24:=by
 simp only[aV_,yby_]at h;rcases h with h|h
 .exact Con.plain_len h
 exact Con.reserved_len h
namespace Con
section
variable {f:Int} (h0:-1<=f) (h1:f<1024)
include h0 h1
theorem tz_ (c:Con) (e:c.ok) (h:c.check=0) (hk:c.kind=5):∀ (r:List Con) (j:Nat) (a:Str) (l:List Pc),1<=j->j+r.length<=c.parts.length->(∀ p∈r,p∈c.parts)->bd_ a=true->a.length<=7000->(∀ q∈l,PQ f q)->∀ q∈andP f c r j a l,PQ f q
  | [],_,_,l,_,_,_,_,_,hl=>hl
  | p::r,j,a,l,hj,hlen,hm,ha,hal,hl=>by
    simp only[yal_]at hlen;have m:=hm p zaj_;have d:=wn_ h hk (j:=j+1) zaa_ zaa_;have v:=atom_ok d;have y:=atom_len (pre_ok e (j+1)) d;have x:=atom_ok (check_part h m);have B:=atom_len (ok_part e m) (check_part h m);simp only[andP]
    exact tz_ c e h hk r (j+1) _ _ zaa_ zaa_ (λq A=>hm q (by simp[A])) v y
      (dn_ hl ⟨rfl,⟨by dsimp only;omega,by dsimp only;omega,by dsimp only;omega,by simp,by simp,by simp⟩,val2 h0 h1 ha x v⟩)
theorem leftP_all:∀ (m:Nat) (c:Con),c.sz<=m->c.ok->c.check=0->∀ l,(∀ q∈l,PQ f q)->∀ q∈c.leftP f l,PQ f q
 | 0,c,h=>by have:=c.sz_pos;omega
 | m+1,c,h=>λx A l hl=>by
   have B:∀ ps:List Con,(∀ p∈ps,p∈c.parts)->∀ l,(∀ q∈l,PQ f q)->∀ q∈leftP.lefts f ps l,PQ f q:=by
     intro ps
     induction ps with
     | nil=>intro _ l hl;exact hl
     | cons p ps ih =>
       intro y l hl;have d:=y p zaj_;exact ih (λq E=>y q (by simp[E])) _ (leftP_all m p (by have:=sz_part d;omega) (ok_part x d) (check_part A d) l hl)
   have hk:=B c.parts (λ_ h=>h) l hl;have F:=fields (check_zero A).1;have N:=names_of (check_zero A).1;have ca:=atom_ok A;have cl:=atom_len x A;rw[leftP_eq]
   split
   . rename_i J
     have e:=F.le;rw[J]at e;simp[nd,en_]at e
     match y:c.parts,e with
     | [],e=>simp at e
     | p::r,_ =>
       have d:p∈c.parts:=by rw[y];simp
       have C:=atom_ok (check_part A d);have G:=atom_len (ok_part x d) (check_part A d);refine tz_ h0 h1 c x A J _ 1 _ _ zaa_ (by rw[y];simp;omega) (λq E=>by rw[y];exact List.mem_of_mem_drop E) (by simpa using C) (by simpa using G) (by rw[y]at hk;exact hk)
   . split
     . rename_i H
       have e:=F.le;rw[H]at e;simp[nd,en_]at e
       have v:=N.plain (.inr (.inl H))
       match y:c.parts,e with
       | [],e=>simp at e
       | p::r,_ =>
         have d:p∈c.parts:=by rw[y];simp
         have C:=atom_ok (check_part A d);have G:=atom_len (ok_part x d) (check_part A d);have K:=dz_ v;rw[y]at hk;exact dn_ hk ⟨rfl,⟨by simp;omega,by simp,by dsimp only;omega,by dsimp only;omega,by simp,by simp⟩,val4 h0 h1 (by simpa using C) (dp_ v) ca⟩
     . split
       . rename_i I
         have v:=N.plain (.inr (.inr I));have K:=dz_ v;exact dn_ hl ⟨rfl,⟨by simp,by simp,by dsimp only;omega,by dsimp only;omega,by simp,by simp⟩,val9 h0 h1 ca (df_ v) (N.nums I)⟩
       . exact hl
theorem rightP_all:∀ (m:Nat) (c:Con),c.sz<=m->c.ok->c.check=0->∀ l,(∀ q∈l,PQ f q)->∀ q∈c.rightP f l,PQ f q
 | 0,c,h=>by have:=c.sz_pos;omega
 | m+1,c,h=>λv y l hl=>by
   have ca:=atom_ok y;have cl:=atom_len v y
   have C:∀ ps:List Con,(∀ p∈ps,p∈c.parts)->∀ l,(∀ q∈l,PQ f q)->∀ q∈rightP.rights f c.atom ps l,PQ f q:=by
     intro ps
     induction ps with
     | nil=>intro _ l hl;exact hl
     | cons p ps ih =>
       intro A l hl;have d:=A p zaj_;have E:=atom_ok (check_part y d);have J:=atom_len (ok_part v d) (check_part y d)
       exact ih (λq G=>A q (by simp[G])) _ (rightP_all m p (by have:=sz_part d;omega) (ok_part v d) (check_part y d) _
         (dn_ hl ⟨rfl,⟨by dsimp only;omega,by simp,by dsimp only;omega,by simp,by simp,by simp⟩,xF_ h0 h1 ca E⟩))
   have B:∀ ps:List Con,(∀ p∈ps,p∈c.parts)->∀ l,(∀ q∈l,PQ f q)->∀ q∈rightP.righty f ps l,PQ f q:=by
     intro ps
     induction ps with
     | nil=>intro _ l hl;exact hl
     | cons p ps ih =>
       intro A l hl;have d:=A p zaj_;exact ih (λq G=>A q (by simp[G])) _ (rightP_all m p (by have:=sz_part d;omega) (ok_part v d) (check_part y d) l hl)
   have F:=fields (check_zero y).1;have N:=names_of (check_zero y).1;rw[rightP_eq]
   split
   . exact C c.parts (λ_ h=>h) l hl
   . split
     . rename_i H
       have x:=F.le;rw[H]at x;simp[nd,en_]at x
       have e:=N.plain (.inr (.inl H));have K:=dz_ e;refine B c.parts (λ_ h=>h) _ (dn_ hl ?_)
       match A:c.parts,x with
       | [],x=>simp at x
       | p::r,_ =>
         have d:p∈c.parts:=by rw[A];simp
         have E:=atom_ok (check_part y d);have J:=atom_len (ok_part v d) (check_part y d);exact⟨rfl,⟨by dsimp only;omega,by simp,by simp;omega,by dsimp only;omega,by simp,by simp⟩,val3 h0 h1 ca (dp_ e) zbe_⟩
     . split
       . rename_i I
         have e:=N.plain (.inr (.inr I));have K:=dz_ e;exact dn_ hl ⟨rfl,⟨by dsimp only;omega,by simp,by simp,by dsimp only;omega,by simp,by simp⟩,val8 h0 h1 ca (df_ e) (N.nums I)⟩
       . exact hl
end
end Con
namespace Ax
section
variable {f:Int} (h0:-1<=f) (h1:f<1024)
include h0 h1
theorem pa_ (role:Str) (C:bj_ role=true):∀ (rs:List Str) (g:Str) (l:List Pc),(∀ r∈rs,bj_ r=true)->(bm_ 46 g).length+rs.length<=4->((bm_ 46 g).all aV_=true)->g.length<=100*(bm_ 46 g).length->(∀ q∈l,PQ f q)->∀ q∈chainP f role rs g l,PQ f q
 | [],_,_,_,_,_,_,hl=>hl
 | r::t,g,l,hp,hn,hg,hgl,hl=>by
   have d:=hp r zaj_;have G:=dz_ d;have F:=dz_ C;simp only[yal_]at hn
   have m:ct_ g=true:=by
     unfold ct_;rw[yaC_ zaa_];simp only[Bool.true_and,ybp_];rw[ycL_];intro y B;simp[yaW_.1 hg y B]
   simp only[chainP]
   by_cases E:t=[]
   . subst E
     simp only[ycn_,chainP];exact dn_ hl ⟨rfl,⟨by simp,by simp,by simp,by dsimp only;omega,by dsimp only;omega,by dsimp only;omega⟩,val6 h0 h1 m (dp_ d) (dp_ C)⟩
   . simp only[E,yce_]
     have H:0<t.length:=List.length_pos_iff.2 E;have e:=nT_ 46 g r;rw[iL_ d]at e;have h:(bm_ 46 (g++[46]++r)).all aV_=true:=by rw[e,ycV_,hg];simp[df_ d]
     have A:(bm_ 46 (g++[46]++r)).length=(bm_ 46 g).length+1:=by rw[e];simp
     have x:(g++[46]++r).length<=100*(bm_ 46 (g++[46]++r)).length:=by rw[A];simp;omega
     have v:ct_ (g++[46]++r)=true:=by
       unfold ct_;rw[yaC_ zaa_];simp only[Bool.true_and,ybp_];rw[ycL_];intro y B;simp[yaW_.1 h y B]
     exact pa_ role C t _ _ (λq I=>hp q (by simp[I])) zaa_ h x
       (dn_ hl ⟨rfl,⟨by simp,by simp,by simp,by dsimp only;omega,by dsimp only;omega,by dsimp only;omega⟩,val6 h0 h1 m (dp_ d) v⟩)
theorem pieces_all {x:Ax} (d:x.ok) (v:x.check=0):∀ q∈x.pieces f,PQ f q:=by
 have G:=good_of v;have L:=λ(c:Con) (d:c.ok) (v:c.check=0)=>Con.leftP_all h0 h1 _ c (yaj_ _) d v
 have C:=λ(c:Con) (d:c.ok) (v:c.check=0)=>Con.rightP_all h0 h1 _ c (yaj_ _) d v
 have n:∀ q∈([]:List Pc),PQ f q:=λq F=>by cases F
 have K:=G.k1;have N:=G.k9;have A:=λ(c:Con) (d:c.ok) (v:c.check=0)=>(⟨Con.atom_ok v,Con.atom_len d v⟩:bd_ c.atom=true/\c.atom.length<=7000)
 unfold pieces
 split
 .have l:=G.left zaa_;have r:=G.right zaa_
  have B:=A _ d.left l;have m:=A _ d.right r;exact dn_ (C _ d.right r _ (L _ d.left l _ n)) ⟨rfl,⟨by dsimp only;omega,by simp,by dsimp only;omega,by simp,by simp,by simp⟩,xF_ h0 h1 B.1 m.1⟩
 split
 .have l:=G.left zaa_;have r:=G.right zaa_
  have B:=A _ d.left l;have m:=A _ d.right r;exact dn_ (C _ d.left l _ (L _ d.right r _ (dn_ (C _ d.right r _ (L _ d.left l _ n)) ⟨rfl,⟨by dsimp only;omega,by simp,by dsimp only;omega,by simp,by simp,by simp⟩,xF_ h0 h1 B.1 m.1⟩))) ⟨rfl,⟨by dsimp only;omega,by simp,by dsimp only;omega,by simp,by simp,by simp⟩,xF_ h0 h1 m.1 B.1⟩
 split
 .have l:=G.left zaa_;have r:=G.right zaa_
  have B:=A _ d.left l;have m:=A _ d.right r;exact dn_ (L _ d.right r _ (L _ d.left l _ n)) ⟨rfl,⟨by dsimp only;omega,by dsimp only;omega,by simp,by simp,by simp,by simp⟩,val2 h0 h1 B.1 m.1 rfl⟩
 split
 .have r:=G.right zaa_;have m:=A _ d.right r;have p:=G.role zaa_;have pl:=dz_ p
  exact dn_ (C _ d.right r _ n) ⟨rfl,⟨by simp,by simp,by dsimp only;omega,by dsimp only;omega,by simp,by simp⟩,val4 h0 h1 rfl (dp_ p) m.1⟩
 split
 .rename_i I
  have p:=G.role zaa_;have pl:=dz_ p;have J:=G.one I
  match hr:x.roles,J with
  | [r],_ =>
    have y:=G.roles r (by rw[hr];simp);have E:=dz_ y;exact dn_ n ⟨rfl,⟨by simp,by simp,by simp,by simp;omega,by simp,by dsimp only;omega⟩,val5 h0 h1 (by simpa using dp_ y) (dp_ p)⟩
 split
 .rename_i M
  have p:=G.role zaa_;have h:=G.chain M
  match hr:x.roles,h with
  | [],h=>simp at h
  | r::t,h =>
    have y:=G.roles r (by rw[hr];simp);have E:=dz_ y;have e:=iL_ y;simp only[yal_]at h;simp only[ycg_,ydf_,List.headD_cons];exact pa_ h0 h1 x.role p t r [] (λq F=>G.roles q (by rw[hr];simp[F])) (by rw[e];simp;omega) (by rw[e];simp[df_ y]) (by rw[e];simp;omega) n
 split
 .have p:=G.role zaa_;have pl:=dz_ p
  exact dn_ n ⟨rfl,⟨by simp,by simp,by simp,by dsimp only;omega,by simp,by simp⟩,val7 h0 h1 (dp_ p)⟩
 split
 .have r:=G.right zaa_;have m:=A _ d.right r;have p:=G.a zaa_;have pl:=lz_ p
  exact dn_ (C _ d.right r _ n) ⟨rfl,⟨by simp;omega,by simp,by dsimp only;omega,by simp,by simp,by simp⟩,xF_ h0 h1 (lj_ p) m.1⟩
 have p:=G.role zaa_;have pl:=dz_ p;have H:=G.a zaa_;have pb:=G.b zaa_;have O:=lz_ H;have P:=lz_ pb;exact dn_ n ⟨rfl,⟨by simp;omega,by simp,by simp;omega,by dsimp only;omega,by simp,by simp⟩,val3 h0 h1 (lj_ H) (dp_ p) (lj_ pb)⟩
end
end Ax
namespace Con
end Con
def bL_:Nat->List Ax->List Pc
  | _,[]=>[]
  | i,x::l=>x.pieces (i:Int)++bL_ (i+1) l
theorem kX_:∀ (i:Nat) (l:List Ax),(∀ x∈l,x.check=0)->(bL_ i l).length<=1000*l.length
  | _,[],_=>by simp[bL_]
  | i,x::l,h=>by
    have h1:=ki_ (i:Int) (Ax.good_of (h x zaj_));have e:=kX_ (i+1) l λy d=>h y zaS_
    simp only[bL_,yaf_,yal_];omega
theorem qi_:∀ (l:List Ax) (i:Nat) (p:List Pc),(∀ x∈l,x.check=0)->p.length+1000*l.length<=16384->hL_ i l p=some (p++bL_ i l)
  | [],i,p,_,_=>by simp[hL_,bL_]
  | x::l,i,p,h,hl=>by
    have h1:=ki_ (i:Int) (Ax.good_of (h x zaj_));simp only[yal_]at hl;simp only[hL_,bL_];rw[yag_ zan_,qi_ l (i+1) _ (λy d=>h y zaS_) zan_,yar_]
theorem kY_:∀ (l:List Ax) (i:Nat),i+l.length<=1024->(∀ x∈l,x.ok)->(∀ x∈l,x.check=0)->∀ q∈bL_ i l,(i:Int)<=q.frm/\q.frm<((i+l.length:Nat):Int)/\q.sm/\q.valid=true
 | [],_,_,_,_=>by simp[bL_]
 | x::l,i,hi,hok,hc=>by
   simp only[yal_]at hi ⊢;intro q d;simp only[bL_]at d;rcases yah_.1 d with d|d
   . have h:=Ax.pieces_all (f:=(i:Int)) zaa_ zaa_ (hok x zaj_) (hc x zaj_) q d
     exact⟨by rw[h.frm];omega,by rw[h.frm];omega,h.sm,h.ok⟩
   . have h:=kY_ l (i+1) zaa_ (λy e=>hok y zbJ_) (λy e=>hc y zbJ_) q d
     exact⟨by omega,by omega,h.2.2⟩
theorem oi_ {l:List Ax} (hl:l.length<=12) (h:∀ x∈l,x.check=0):bg_ l=(bL_ 0 l,0):=by
  unfold bg_;rw[yag_ zaa_,yag_ (by simp[fu_ h]),qi_ l 0 [] h zan_];simp
end Go.Vs
namespace Go.Vs
open Go Go.Sx
section
variable {f:Int} {R:List Pc->List Pc->Prop} (hr:∀ l,R l l) (ht:∀ {a b c},R a b->R b c->R a c) (hi:∀ l p,R l (ins f l p))
include hr ht hi
end
structure Gr (a b:List Pc):Prop where
  nodup:a.Nodup->b.Nodup
  sub:∀ q∈a,q∈b
theorem Gr.trans {a b c:List Pc} (h:Gr a b) (k:Gr b c):Gr a c:=⟨λq=>k.nodup (h.nodup q),λq d=>k.sub q (h.sub q d)⟩
def wgt (c:Con):Nat:=if c.kind=0 then 0 else c.sz
end Go.Vs
namespace Go.Sx
open Go
section
variable {P:Program} {N:Nf} {fr:Fr} {H:Hp} {Γ:List Fct}
theorem lg_:∀ (x y:List UInt8),Op.bytesLess x y=decide (x<y)
  | [],[]=>by simp[Op.bytesLess]
  | _::_,[]=>by simp[Op.bytesLess]
  | [],_::_=>by simp[Op.bytesLess]
  | a::x,b::y=>by
    rw[Op.bytesLess,lg_ x y];simp only[ycx_]
    by_cases d:a<b<;>by_cases h:a=b<;>by_cases e:x<y<;>simp[d,h,e]
theorem BZ_ (x y:List UInt8):(Op.bytesLess x y||x==y)=decide (x<=y):=by
 rw[lg_]
 by_cases h:x<=y
 .rw[yaC_ h]
  by_cases e:x=y
  .simp[e]
  have:x<y:=by
    apply Decidable.byContradiction
    intro d;exact e (ycw_ h (ycc_.1 d))
  simp[this]
 rw[yaS_ h];have m:¬ x<y:=λq=>h (List.le_of_lt q)
 have d:x≠y:=λe=>h (e▸List.le_refl x)
 simp[m,d]
theorem gd_ {t h ty:TypeId} {x y:Operand} {m n:List UInt8} (q:Fr.ev fr x=some (str m)) (e:Fr.ev fr y=some (str n)):Yld P N fr H Γ (.binOp .lss t x y h) ty (.bool (decide (m<n))) :=
  λa v d _ _ _ _ _=>by rw[<-lg_];simp[execOp,d.ev q,d.ev e,str,eqGuard,binOp,Op.stringOp]
theorem kb_ {f:FuncId} {args:Array Value} {r:Value} {g:Nat} {cur:Array Value} {T:TypeId} {d:Array (List UInt8)} (K:ec_ P f)
    (h:∀ v:Vw,v.sat [(g,.cells cur T (0,0))]->Calls P f args v.w λe w'=>e=.returned r/\∃ n os,w'=Sort.grow (Sort.putRow Go.Proofs.encStr (Sort.ahead v.w n) g 0 d) os) :
    Tri P f args [(g,.cells cur T (0,0))] Γ (λ_:Unit=>r) (λ_=>[(g,.cells (Sort.putCells Go.Proofs.encStr 0 d cur) T (0,0))]) (λ_=>[]) :=
  ⟨K,λv F _=>(h v F).mono λe w' ⟨J,n,os,x⟩=>by
    have E:=(F.own _ yav_);have B:g<v.w.heap.size:=(yax_.1 E.1).1
    have A:∀ b,b<v.w.heap.size->w'.heap[b]? = if b=g then some (.cells (Sort.putCells Go.Proofs.encStr 0 d cur) T (0,0)) else v.w.heap[b]? := λb A=>by
      rw[x];simp only[Sort.grow,Sort.putRow,Sort.mapBlock,Sort.ahead];rw[ybA_ zbd_,ybk_]
      by_cases e:b=g
      . subst e
        simp only[ycn_,E.1,yaO_,Sort.onCells]
      . rw[yag_ (λq=>e q.symm),yag_ e]
    have y:v.w.heap.size<=w'.heap.size:=by rw[x];simp[Sort.grow,Sort.putRow,Sort.mapBlock,Sort.ahead]
    refine⟨(),⟨v.im,w',v.sl⟩,J,rfl,⟨λp G=>?_,by simp,λb m=>ybQ_ (F.lt b m) y⟩,trivial,⟨by rw[x];rfl,by rw[x];rfl,by rw[x];rfl,y,λb m I=>?_,λ_ h=>h,λ_ h=>.inl h,λb hm=>.inl (by simpa using hm),rfl,.inr zbH_⟩⟩
    . simp only[yai_]at G
      subst G;exact⟨by show w'.heap[g]? = _;rw[A g B,yao_ rfl],E.2⟩
    . have C:b≠g:=by simpa using I
      show w'.heap[b]? = _
      rw[A b m,yag_ C]⟩
theorem oe_ {cur:Array Value} {d:List (List UInt8)} (h:d.length<=cur.size):(Sort.putCells Go.Proofs.encStr 0 d.toArray cur).toList.take d.length=d.flatMap al_:=by
 rw[nO_]
 apply ybD_
 intro j;rw[yaK_,yaH_]
 split
 .rename_i e
  simp only[Sort.putCells,yaQ_,Array.getElem?_mapIdx];rw[ybR_ zaa_];simp only[yaO_,ybC_,ydi_,ybw_,ybI_,e,ycn_,ydM_];rw[yaa_ e];simp only[yaO_];rw[getElem!_pos d.toArray j zbc_];rfl
 rename_i e
 rw[ybv_ zaa_];rfl
theorem of_ {cur:Array Value} {d:Array (List UInt8)}:(Sort.putCells Go.Proofs.encStr 0 d cur).size=cur.size:=by simp[Sort.putCells]
end
end Go.Sx
namespace Go.Vs
open Go Go.Sx
def lO_ (p:Pc):List Str:=[p.a,p.b,p.c].filter λs=>!(s==[])
def cO_ (l:List Pc):List Str:=l.flatMap lO_
def ex_ (l:List Pc):List Str:=Lib.compact ((cO_ l).mergeSort λx y=>decide (x<=y))
theorem ks_:∀ l:List Pc,(cO_ l).length<=3*l.length
  | []=>by simp[cO_]
  | p::r=>by
    have d:=ks_ r;have e:(lO_ p).length<=3:=by unfold lO_;exact yba_ _ _
    simp only[cO_,yaG_,yaf_,yal_]at d ⊢;omega
theorem gf_ (l:List Str):(l.mergeSort λx y=>decide (x<=y)).Pairwise λx y=>x<=y:=by
  have h:=ycY_ (le:=λx y:Str=>decide (x<=y)) (λa b c e d=>by simp only[yaI_]at *;exact List.le_trans e d) (λa b=>by
    simp only[yby_,yaI_];exact List.le_total a b) l
  exact h.imp (λh=>yaZ_ h)
theorem iX_ {d:List Str}:Lib.compact d=((List.range d.length).filter λj=>decide (j=0\/d[j]! ≠ d[j - 1]!)).map λj=>d[j]! := by
 unfold Lib.compact Lib.compactUpTo Lib.keeps
 have e:∀ j,d.toArray[j]! = d[j]! := λj=>by
   by_cases h:j<d.length
   . rw[getElem!_pos d.toArray j zaH_,getElem!_pos d j h];simp
   . rw[getElem!_neg d.toArray j zaH_,getElem!_neg d j h]
 rw[ybY_ λj _=>e j]
 congr 2
 funext j
 rw[e,e]
theorem gI_ (d:List Str):(Lib.compact d).length<=d.length:=by
  rw[iX_,yaF_];have:=yba_ (λj=>decide (j=0\/d[j]! ≠ d[j - 1]!)) (List.range d.length);simpa using this
theorem iW_ {d:List Str} (x:Str):x∈Lib.compact d↔x∈d:=by
 rw[iX_,yap_];constructor
 .rintro ⟨j,m,rfl⟩
  have hl:=ycz_.1 (yaX_.1 m).1;rw[getElem!_pos d j hl];exact ycP_ hl
 intro v;obtain⟨j,m,e⟩:=List.mem_iff_getElem.1 v;clear v
 induction j with
 | zero=>exact⟨0,yaX_.2 ⟨ycz_.2 m,by simp⟩,by rw[getElem!_pos d 0 m];exact e⟩
 | succ j ih =>
   by_cases h:d[j+1]! = d[j]!
   . have q:j<d.length:=by omega
     refine ih q ?_;rw[getElem!_pos d (j+1) m,getElem!_pos d j q]at h;rw[<-h];exact e
   . exact⟨j+1,yaX_.2 ⟨ycz_.2 m,yaC_ (.inr h)⟩,by rw[getElem!_pos d (j+1) m];exact e⟩
theorem hT_ {d:List Str} (J:d.Pairwise λx y=>x<=y):(Lib.compact d).Pairwise λx y=>x<y:=by
 rw[iX_,ycu_];have G:(List.range d.length).Pairwise (·<·):=List.pairwise_lt_range;have C:=G.filter (λj=>decide (j=0\/d[j]! ≠ d[j - 1]!));refine ycR_ ?_ C;intro j k L hk E;have v:=ycz_.1 (yaX_.1 hk).1;have e:=(yaX_.1 hk).2;simp only[yaI_]at e
 have q:d[k]! ≠ d[k - 1]! := by
   rcases e with h|h
   . omega
   . exact h
 have m:∀ a b,a<=b->b<d.length->d[a]!<=d[b]! := by
   intro a b A B;rcases Nat.lt_or_eq_of_le A with h|h
   . rw[getElem!_pos d a zaa_,getElem!_pos d b B]
     exact yaP_.1 J a b zaa_ B h
   . subst h;exact List.le_refl _
 have K:=m j (k - 1) zaa_ zaa_;have F:=m (k - 1) k zaa_ v
 have I:d[k - 1]! < d[k]! := by
   apply Decidable.byContradiction
   intro h;exact q (ycw_ (ycc_.1 h) F)
 exact List.lt_of_le_of_lt K I
theorem fq_ (l:List Pc) (x:Str):x∈ex_ l↔x∈cO_ l:=by
  unfold ex_;rw[iW_,ybc_]
theorem fr_ (l:List Pc):(ex_ l).length<=3*l.length:=by
  have d:=gI_ ((cO_ l).mergeSort λx y=>decide (x<=y));rw[yaR_]at d;have e:=ks_ l;unfold ex_;omega
end Go.Vs
namespace Go.Proofs.YtbffkokbdeppaaaGreatDoor
open Go Go.Sx Go.Proofs Tryz
attribute [local irreducible] Code.wp wpList wpAnyH
open Go.Vs
theorem eltS:Elt prog 25 9 1 16:=hj_ iA_ (z:=.string ⟨#[]⟩) zac_ rfl zae_
theorem lG_ {g n cap:Nat} {cur:Array Value} {xs:List Str} {v:Vw} (m:v.sat [(g,.cells cur 9 (0,0))]) (h:cur.toList.take (xs.length*1)=xs.flatMap al_):Sort.Holds encStr v.w g 0 xs.toArray:=by
 intro j d;have e:=(m.own _ yav_).1;simp only[ybI_]at d;have q:cur[j]? = some (str xs[j]):=pE_ h j xs[j] (yaa_ d);refine⟨?_,?_⟩
 .simp only[World.cell?,ybw_,e,ycZ_,ybn_,yce_]
  rw[q,getElem!_pos xs.toArray j zbA_];rfl
 simp[World.frozen?,e]
theorem nk_ {sv:Value} {xs:List Str} {Hr:Hp} (h:at_ 9 1 sv xs.length (xs.flatMap al_) Hr) (hl:xs.length<=1000000000000) :
    Tri prog 94 #[sv] Hr [] (λ_:{y:Hp // at_ 9 1 sv xs.length ((xs.mergeSort λx y=>decide (x<=y)).flatMap al_) y}=>.tuple #[]) (λy=>y.1) (λ_=>[]):=by
  rcases h.2 with⟨rfl,K,rfl⟩|⟨g,cap,cur,rfl,rfl,G,J,F,L⟩
  . obtain rfl:xs=[]:=yau_ K
    have T:=bZ_ (P:=prog) (H:=[]) (Γ:=[]) (callable func94 rfl rfl) (λv _ _=>(Tryz.slices_Sort_string_none none 0 v.w).mono zag_);exact⟨T.callable,λv a b=>(T.run v a b).mono (by rintro e w' ⟨x,I,m,C,A,q,B⟩;exact⟨⟨[],by simpa using at_.nil _ _⟩,I,m,C,A,q,B⟩)⟩
  . have T:=kb_ (P:=prog) (Γ:=[]) (d:=(xs.mergeSort λx y=>decide (x<=y)).toArray) (callable func94 rfl rfl) (λv M=>Tryz.slices_Sort_string g 0 cap xs v.w (lG_ (n:=0) (cap:=0) M L) (yax_.1 (M.own _ yav_).1).1 zaa_)
    have E:(xs.mergeSort λx y=>decide (x<=y)).length=xs.length:=yaR_ _;refine⟨T.callable,λv a b=>(T.run v a b).mono ?_⟩;rintro e w' ⟨x,I,m,C,A,q,B⟩;refine⟨⟨_,by rw[cr_ al_ 1 au_,E],.inr ⟨g,cap,_,rfl,rfl,G,J,by rw[of_];exact F,?_⟩⟩,I,m,C,A,q,B⟩;have:=oe_ (cur:=cur) (d:=xs.mergeSort λx y=>decide (x<=y)) (by rw[E,F];omega);rw[E]at this;rw[ydv_];exact this
theorem kr_ {sv:Value} {xs:List Str} {Hr:Hp} (h:at_ 9 1 sv xs.length (xs.flatMap al_) Hr) (hl:xs.length<=1000000000000) :
    Tri prog 95 #[sv] Hr [] (λy:{y:Value×Hp // at_ 9 1 y.1 (Lib.compact xs).length ((Lib.compact xs).flatMap al_) y.2}=>y.1.1) (λy=>y.1.2) (λ_=>[]):=by
  rcases h.2 with⟨rfl,L,rfl⟩|⟨g,cap,cur,rfl,rfl,J,K,F,M⟩
  . obtain rfl:xs=[]:=yau_ L
    have T:=bZ_ (P:=prog) (H:=[]) (Γ:=[]) (callable func95 rfl rfl) (λv _ _=>(Tryz.slices_Compact_string_empty none 0 v.w).mono zag_);exact⟨T.callable,λv a b=>(T.run v a b).mono (by rintro e w' ⟨x,I,m,A,C,B,E⟩;exact⟨⟨(.slice none 0 0,[]),by simpa [Lib.compact,Lib.compactUpTo] using at_.nil _ _⟩,I,m,A,C,B,E⟩)⟩
  . have N:=gI_ xs
    have T:=kb_ (P:=prog) (Γ:=[]) (r:=.slice (some ⟨g,0,none⟩) (Lib.compact xs).length cap) (d:=(Lib.compact xs++List.replicate (xs.length - (Lib.compact xs).length) []).toArray) (callable func95 rfl rfl) (λv Q=>(Tryz.slices_Compact_string g 0 cap xs v.w (lG_ (n:=0) (cap:=0) Q M) zaa_ J).mono (by
      rintro e w' ⟨rfl,q,rfl⟩;exact⟨rfl,q,#[],by rw[Sort.grow_empty]⟩))
    refine⟨T.callable,λv a b=>(T.run v a b).mono ?_⟩;rintro e w' ⟨x,I,m,A,C,B,E⟩;refine⟨⟨(.slice (some ⟨g,0,none⟩) (Lib.compact xs).length cap,_),by rw[cr_ al_ 1 au_],.inr ⟨g,cap,_,rfl,rfl,by omega,K,by rw[of_];exact F,?_⟩⟩,I,m,A,C,B,E⟩;have O:(Lib.compact xs++List.replicate (xs.length - (Lib.compact xs).length) ([]:Str)).length=xs.length:=by simp;omega
    have:=oe_ (cur:=cur) (d:=Lib.compact xs++List.replicate (xs.length - (Lib.compact xs).length) []) (by rw[O,F];omega);rw[O]at this;have G:=yae_ (List.take (Lib.compact xs).length) this;rw[ydg_,ybL_ N,yaY_,ycq_ (by rw[cr_ al_ 1 au_];omega),yab_ (l:=(Lib.compact xs).flatMap al_) (by rw[cr_ al_ 1 au_];omega)]at G;rw[ydv_];exact G
theorem Cc_ (l:List Pc) (ad:Ao) (cap:Nat) (hl:l.length<=100000000000):Tri prog 47 #[.slice ad l.length cap] [] [ac_ ad (l.flatMap Pc.cells)] (λy:{y:Ao×Nat // (ex_ l).length<=y.2/\y.2<=maxLen}=>.slice y.1.1 (ex_ l).length y.1.2) (λ_=>[]) (λy=>[ac_ y.1.1 ((ex_ l).flatMap al_)]):=by
 refine i_ func47 rfl rfl ntmps47 rfl λX=>?_;refine Zz 14 ?_;refine bx_ [(2,.slice none 0 0),(7,.slice ad l.length cap),(8,iv_ (List.length l:Int)),(9,iv_ ((0:Nat):Int))] zl ?_;refine bV_ (ι:={y:Nat×Value×Hp // y.1<=l.length/\at_ 9 1 y.2.1 (cO_ (l.take y.1)).length ((cO_ (l.take y.1)).flatMap al_) y.2.2}) (λy=>[(2,y.1.2.1),(7,.slice ad l.length cap),(8,iv_ (List.length l:Int)),(9,iv_ y.1.1)]) (λy=>y.1.2.2) (λ_=>_) (λy=>l.length - y.1.1) ⟨(0,.slice none 0 0,[]),by simp,at_.nil _ _⟩ ?_;rintro ⟨⟨i,sv,Hr⟩,hi,q⟩;dsimp only at hi q;dsimp only;have H:=ks_ (l.take i);rw[yaD_]at H;refine bx_ [(2,sv),(7,.slice ad l.length cap),(8,iv_ (List.length l:Int)),(9,iv_ i)] zl ?_;refine Zi 2 (λR=>?_) λR=>?_
 .refine Zz 7 ?_
  have W:l.take i=l:=yab_ zaa_;rw[W]at q H;refine Zz 2 ?_;refine f_ (nk_ q zaa_) rfl T_ zt rfl λ⟨Hs,Z⟩=>?_;dsimp only;refine A_ (List.Perm.symm T_) ?_;have L:at_ 9 1 sv ((cO_ l).mergeSort λx y=>decide (x<=y)).length (((cO_ l).mergeSort λx y=>decide (x<=y)).flatMap al_) Hs:=by rw[yaR_];exact Z
  refine Zz 5 ?_;refine f_ (kr_ L (by rw[yaR_];omega)) rfl T_ zt rfl λ⟨⟨sc,Hc⟩,hc⟩=>?_;dsimp only;refine A_ (List.Perm.symm T_) (Zz 4 ?_);refine gj_ hc T_ λI N T J P=>?_;exact ab_ results47 ⟨(I,N),J,P⟩ (fs_ rfl T) g_ zf
 have v:i<l.length:=by omega
 obtain⟨d,M⟩:∃ F,l[i]? = some F:=⟨_,yaa_ v⟩;refine Zz 12 ?_;refine x_ aa_ rfl λa0=>n_ 0 K_ rfl rfl rfl rfl rfl rfl (Zz 10 ?_)
 refine O_ o_ G_ ax_ rfl rfl rfl rfl rfl rfl λB=>?_;refine bC_ (List.flatMap al_ [d.a,d.b,d.c]) d_ rfl ?_;refine Zz 5 ?_;refine bx_ [(2,sv),(7,.slice ad l.length cap),(8,iv_ (List.length l:Int)),(9,iv_ i),(19,.slice (some ⟨B,0,none⟩) (List.length [d.a,d.b,d.c]) 3),(20,iv_ 3),(21,iv_ ((0:Nat):Int))] zl ?_;refine bV_ (ι:={y:Nat×Value×Hp // y.1<=3/\at_ 9 1 y.2.1 (cO_ (l.take i)++(List.take y.1 [d.a,d.b,d.c]).filter λs=>!(s==[])).length ((cO_ (l.take i)++(List.take y.1 [d.a,d.b,d.c]).filter λs=>!(s==[])).flatMap al_) y.2.2}) (λy=>[(2,y.1.2.1),(7,.slice ad l.length cap),(8,iv_ (List.length l:Int)),(9,iv_ i),(19,.slice (some ⟨B,0,none⟩) (List.length [d.a,d.b,d.c]) 3),(20,iv_ 3),(21,iv_ y.1.1)]) (λy=>_:: y.1.2.2) (λ_=>_) (λy=>3 - y.1.1) ⟨(0,sv,Hr),by simp,by simpa using q⟩ ?_;rintro ⟨⟨k,U,V⟩,hk,C⟩;dsimp only at hk C;dsimp only
 have Y:((cO_ (l.take i)++(List.take k [d.a,d.b,d.c]).filter λs=>!(s==[]))).length<=(cO_ (l.take i)).length+3:=by
   have:=yba_ (λs=>!(s==[])) (List.take k [d.a,d.b,d.c]);simp only[yaf_,yaD_,yal_,yaL_]at this ⊢;omega
 refine bx_ [(2,U),(7,.slice ad l.length cap),(8,iv_ (List.length l:Int)),(9,iv_ i),(19,.slice (some ⟨B,0,none⟩) (List.length [d.a,d.b,d.c]) 3),(20,iv_ 3),(21,iv_ k)] zl ?_;refine Zi 2 (λS=>?_) λS=>?_
 .refine Zz 11 ?_
  have m:cO_ (l.take (i+1))=cO_ (l.take i)++lO_ d:=by unfold cO_;rw[yaz_,M,yaY_];simp
  exact u_ ⟨(i+1,U,V),v,by dsimp only;rw[m];have:=C;rw[yab_ (show [d.a,d.b,d.c].length<=k by simp;omega)]at this;exact this⟩ zab_ zl (c_ T_) (λ_ _ h=>h.2)
 have G:k<List.length [d.a,d.b,d.c]:=by simp;omega
 obtain⟨e,A⟩:∃ F,[d.a,d.b,d.c][k]? = some F:=⟨_,yaa_ G⟩;refine Zz 11 ?_;refine e_ (bA_ (ad:=(some ⟨B,0,none⟩)) ad_ rfl zf (w_ au_ A 0 _ rfl)) rfl (Zi 6 (λO=>?_) λO=>?_)
 .refine Zz 10 ?_
  have m:(cO_ (l.take i)++(List.take (k+1) [d.a,d.b,d.c]).filter λs=>!(s==[]))=(cO_ (l.take i)++(List.take k [d.a,d.b,d.c]).filter λs=>!(s==[]))++[e].filter (λs=>!(s==[])):=by rw[yar_,<-ycb_,yaz_,A];simp
  rw[show [e].filter (λs=>!(s==[]))=[] by simp[*],yaw_]at m;exact u_ ⟨(k+1,U,V),by dsimp only;omega,by dsimp only;rw[m];exact C⟩ zab_ zl zp zh
 refine Zz 6 ?_;refine O_ o_ G_ ax_ rfl rfl rfl rfl rfl rfl λa1=>?_;refine aj_ (news:=[str e]) eltS C rfl rfl zp rfl (aL_ 0 rfl) (kP_ rfl) zaq_ zaa_ rfl λK Q E=>?_;refine A_ (@List.perm_append_comm _ _ [_,_]) (Zz 8 ?_);have m:(cO_ (l.take i)++(List.take (k+1) [d.a,d.b,d.c]).filter λs=>!(s==[]))=(cO_ (l.take i)++(List.take k [d.a,d.b,d.c]).filter λs=>!(s==[]))++[e].filter (λs=>!(s==[])):=by rw[yar_,<-ycb_,yaz_,A];simp
 rw[show [e].filter (λs=>!(s==[]))=[e] by simp[*]]at m;exact u_ ⟨(k+1,K,Q),by dsimp only;omega,by dsimp only;rw[m];rw[yaf_ (bs:=[e]),yaY_ (ys:=[e])];exact E⟩ zab_ zl (l_ (c_ d_) (c_ T_)) zh
end Go.Proofs.YtbffkokbdeppaaaGreatDoor
namespace Go.Sx
open Go
section
variable {P:Program} {N:Nf} {v0:Vw} {H0:Hp} {R:Exit->Act->World->Prop} {K:List Kt} {fr:Fr} {H:Hp} {Γ:List Fct}
variable {ops:Array Oper} {l:List Oper} {d:Nat} {ty:TypeId} {ps:String} {af:Array Edge}
end
end Go.Sx
namespace Go.Vs
open Go Go.Sx
theorem tY_ {α:Type} {R:α->α->Prop} {l:List α} (h:l.Pairwise R) {i j:Nat} {x y:α} (v:l[i]? = some x) (q:l[j]? = some y) (e:i<j):R x y:=by
  obtain⟨hi,rfl⟩:=yac_.1 v;obtain⟨m,rfl⟩:=yac_.1 q;exact yaP_.1 h i j hi m e
def Cov (hs:List Bool) (L S:List Str):Prop:=hs.length=L.length/\∀ (n:Nat) (s:Str),L[n]? = some s->s∈S->hs[n]? = some true
def three (p:Pc):List Str:=[p.a,p.b,p.c]
theorem Cov.all {e:List Bool} {l:List Pc} (h:Cov e (ex_ l) (l.flatMap three)) {n:Nat} (m:n<(ex_ l).length):e[n]? = some true:=by
  have hm:=(fq_ l _).1 (ycP_ m);refine h.2 n _ (yaa_ m) ?_;simp only[cO_,yas_,lO_,yaX_]at hm;obtain⟨p,v,q⟩:=hm;exact yas_.2 ⟨p,v,q.1⟩
-- valid pieces,kind by kind
section
variable {a b c r s t:Str} {lo hi f:Int}
end
-- atoms
-- roles
-- sorted insertion
def kS (l:List Str) (s:Str):Nat:=(l.takeWhile λx=>decide (x<s)).length
theorem Cv_ {s:Str}:∀ {l:List Str} {k:Nat},k<=l.length->(∀ x∈l.take k,x<s)->(∀ x,l[k]? = some x->¬ x<s)->kS l s=k
  | [],k,h1,_,_=>by simp at h1;simp[kS,h1]
  | y::r,0,_,_,h3=>by
    have:=h3 y rfl;unfold kS;rw[List.takeWhile_cons_of_neg (by simpa using this)];rfl
  | y::r,k+1,h1,h2,h3=>by
    have h:y<s:=h2 y zaj_;have e:=Cv_ (l:=r) (k:=k) (by simpa using h1) (λx d=>h2 x zaS_) (λx d=>h3 x zbA_);unfold kS at e ⊢;rw[List.takeWhile_cons_of_pos zaH_,yal_,e]
def xD_ (l:List Str) (s:Str):List Str:=if s=[]\/l[kS l s]? = some s then l else l.take (kS l s)++[s]++l.drop (kS l s)
end Go.Vs
namespace Go.Sx
open Go
section
variable {P:Program} {N:Nf} {v0:Vw} {H0:Hp} {fr:Fr} {H:Hp} {Γ:List Fct}
end
end Go.Sx
namespace Go.Vs
open Go Go.Sx
namespace Con
theorem szs_append:∀ (xs ys:List Con),sz.szs (xs++ys)=sz.szs xs+sz.szs ys
  | [],ys=>by simp[sz.szs]
  | x::xs,ys=>by simp only[yaJ_,sz.szs,szs_append xs ys];omega
theorem szs_step {ps:List Con} {p:Con} {i:Nat} (d:ps[i]? = some p):sz.szs (ps.take (i+1))=sz.szs (ps.take i)+p.sz:=by
  rw[take_snoc d,szs_append];simp[sz.szs]
end Con
namespace Ax
theorem check_20 {x:Ax} (h:x.shaped=true) (d:x.namedU (us x.kind)=false):x.check=20:=by unfold check;rw[yag_ zbu_,yao_ d]
theorem check_left {x:Ax} (h:x.shaped=true) (e:x.namedU (us x.kind)=true) (hl:(us x.kind).left=true) (d:x.left.check≠0):x.check=x.left.check:=by
  unfold check;rw[yag_ zbu_,yag_ (by rw[e];simp),yao_ ⟨hl,d⟩]
theorem check_right {x:Ax} (h:x.shaped=true) (e:x.namedU (us x.kind)=true) (hl:(us x.kind).left=true->x.left.check=0) (m:(us x.kind).right=true) (d:x.right.check≠0):x.check=x.right.check:=by
  unfold check;rw[yag_ zbu_,yag_ (by rw[e];simp),yag_ (λq=>q.2 (hl q.1)),yao_ ⟨m,d⟩]
end Ax
end Go.Vs
namespace Go.Proofs.YtbffkokbdeppaaaGreatDoor
open Go Go.Sx Go.Proofs Tryz
attribute [local irreducible] Code.wp wpList wpAnyH
open Go.Vs
theorem zD_:∀ (m:Nat) (c:Con),c.sz<=m->c.ok->∀ (d most:Int),0<=d/\d<=40->0<=most/\most<=1000->Tri prog 77 #[Con.val c,iv_ d,iv_ most] [] [Con.memF c] (λr:{r:Int // 1<=r/\r<=most+4398046511104/\(r<=most->(c.sz:Int)<=r)}=>iv_ r.1) (λ_=>[]) (λ_=>[]):=by
 intro m
 induction m with
 | zero=>intro c h;have:=c.sz_pos;omega
 | succ m ih =>
   intro c hm I d most W M;have V:=Con.ok_name I;have S:=Con.ok_len I;refine i_ func77 rfl rfl ntmps77 rfl λU=>?_;refine Zz 2 ?_;refine P_ rfl rfl λE=>Zi 7 (λG=>?_) λG=>?_
   . refine Zz 9 ?_;refine e_ (ck_ W_ rfl) rfl (e_ (ao_ (Ag_ (n:=40) rfl rfl zae_ (bq_ (r:=((List.length c.name / 40:Nat):Int)) zaa_ zaa_)) (show _=iv_ ((List.length c.name / 40:Nat):Int) from rfl)) rfl (Zz 11 ?_));refine bx_ [(1,iv_ d),(2,iv_ most),(3,zp_ E 0),(7,iv_ (1+((List.length c.name / 40:Nat):Int))),(8,iv_ ((0:Nat):Int))] zl ?_;refine bV_ (ι:={x:Nat×Int // x.1<=c.parts.length/\1<=x.2/\x.2<=most+4398046511104/\(x.2<=most->((1+Con.sz.szs (c.parts.take x.1):Nat):Int)<=x.2)}) (λx=>[(1,iv_ d),(2,iv_ most),(3,zp_ E 0),(7,iv_ x.1.2),(8,iv_ x.1.1)]) (λ_=>_) (λ_=>_) (λx=>c.parts.length - x.1.1) ⟨(0,1+((List.length c.name / 40:Nat):Int)),by simp,by dsimp only;omega,by dsimp only;omega,by simp[Con.sz.szs];omega⟩ ?_;rintro ⟨⟨i,n⟩,hk⟩;dsimp only at hk;obtain⟨R,Q,P,F⟩:=hk;refine bx_ [(1,iv_ d),(2,iv_ most),(3,zp_ E 0),(7,iv_ n),(8,iv_ i)] zl ?_;refine Zz 7 ?_;refine E_ (dc_ rfl rfl) rfl λO e=>Zz 1 ?_
     refine aq_ 4 ((decide ((i:Int)<(List.length c.parts:Int)))&&(decide (n<=most))) (λr=>[(1,iv_ d),(2,iv_ most),(3,zp_ E 0),(7,iv_ n),(8,iv_ i),(27,.bool r)]) ?_ λN A=>?_
     . cases O
       . have C:=e;replace e:=zdf e;refine Zz 6 ?_;exact met ⟨rfl,rfl,rfl,rfl,rfl,(s_ rfl (jaf C)),trivial⟩
       . have C:=e;replace e:=zdt e;refine Zz 5 ?_;refine E_ (dg_ rfl rfl) rfl λT J=>Zz 3 ?_
         exact met ⟨rfl,rfl,rfl,rfl,rfl,(s_ rfl (jat C J)),trivial⟩
     . refine Zz 2 ?_;cases N
       . simp at A
         refine Zz 10 ?_;exact ab_ results77 ⟨n,by omega,by omega,λq=>by have hi:c.parts.length<=i:=(by simp at *;omega);have:=F q;rw[yab_ hi]at this;rw[Con.sz_eq];exact this⟩ rfl (@List.perm_append_comm _ [_] _) zt
       . simp at A
         obtain⟨H,K,B,y⟩:=zge (show i<c.parts.length by omega);refine Zz 10 ?_;refine e_ (Z_ ai_ t_ rfl rfl (λv _ h=>aA_ (n:=5) Con.cells_len zae_ zbF_ B) zaa_ zai_) rfl ?_;refine e_ (am_ (ad:=c.ad) (us:=Con.cells K) ah_ t_ rfl (λv _ h=>by exact ((Con.mem_iff c v).1 h.1).1) (Con.cells_len _) (w_ Con.cells_len B)) rfl (Zz 5 ?_);refine f_ (ih K (by have:=Con.sz_part y;omega) (Con.ok_part I y) (d - 1) (most - n) ⟨by omega,by omega⟩ ⟨by omega,by omega⟩) rfl g_ (λv _ h=>by exact⟨(Con.mem_part (c:=c) h.1 y),trivial⟩) rfl λ⟨r,G,e,A⟩=>?_;dsimp only;refine Zz 10 ?_;have L:=Con.szs_step B;exact u_ ⟨(i+1,n+r),H,by dsimp only;omega,by dsimp only;omega,λq=>by dsimp only at q ⊢;rw[L];have:=A zaa_;have:=F zaa_;omega⟩ zab_ zl (.refl _) zh
   . refine Zz 11 ?_;exact ab_ results77 ⟨(most+1),by omega,by omega,λq=>by omega⟩ rfl (@List.perm_append_comm _ [_] _) zt
theorem zn_ (c:Con) (h:c.ok):Tri prog 36 #[Con.val c] [] [Con.memF c] (λb:{b:Bool // b=true->c.sz<=150}=>.bool b.1) (λ_=>[]) (λ_=>[]):=by
  refine i_ func36 rfl rfl ntmps36 rfl λx=>?_;refine Zz 2 ?_;refine P_ rfl rfl λy=>Zz 6 ?_
  refine f_ (zD_ _ c (yaj_ _) h 40 150 ⟨by decide,by decide⟩ ⟨by decide,by decide⟩) rfl g_ zf rfl λ⟨r,d,v,e⟩=>?_;dsimp only;refine E_ (dg_ rfl rfl) rfl λm d=>Zz 4 ?_
  exact ab_ results36 ⟨m,λq=>by rw[q]at d;have:=yaZ_ d;have:=e this;omega⟩ rfl (@List.perm_append_comm _ [_] _) zt
structure Ax.Few (x:Ax):Prop where
  left:x.left.sz<=150
  right:x.right.sz<=150
  roles:x.roles.length<=600
theorem ip_ {G:Prop} (h:G:=by
 exact ab_ results9 ⟨false,λh=>by cases h⟩ rfl (@List.perm_append_comm _ [_] _) zt):G:=h
theorem mh_ {G:Prop} (h:G:=by
 refine Zz 6 ?_;refine f_ (zn_ x.left d.left) rfl g_ (λv _ h=>by exact⟨h.1.1,trivial⟩) rfl λ⟨E,m⟩=>?_;dsimp only;refine Zz 2 ?_;cases E
 .refine Zz 8 ?_
  exact ip_
 refine Zz 5 ?_;refine f_ (zn_ x.right d.right) rfl g_ (λv _ h=>by exact⟨h.1.2.1,trivial⟩) rfl λ⟨A,e⟩=>?_;dsimp only;refine Zz 5 ?_;exact ab_ results9 ⟨A,λh=>⟨m rfl,e h,by omega⟩⟩ rfl (@List.perm_append_comm _ [_] _) zt):G:=h
theorem mR_ (x:Ax) (d:x.ok):Tri prog 9 #[Ax.val x] [] [Ax.memF x] (λb:{b:Bool // b=true->Ax.Few x}=>.bool b.1) (λ_=>[]) (λ_=>[]):=by
 refine i_ func9 rfl rfl ntmps9 rfl λK=>?_;have O:=d.role;have L:=d.a;have M:=d.b;have P:=d.cap;refine Zz 2 ?_;refine P_ rfl rfl λC=>Zz 7 ?_
 refine e_ (ck_ W_ rfl) rfl (Zz 2 ?_);refine e_ (ck_ W_ rfl) rfl (Zz 3 ?_);refine e_ (ck_ W_ rfl) rfl (Zz 16 ?_);refine bx_ [(1,zp_ C 0),(3,iv_ ((((x.role.length:Int)+(x.a.length:Int))+(x.b.length:Int))+(10*(List.length x.roles:Int)))),(4,iv_ ((0:Nat):Int))] zl ?_;refine bV_ (ι:={y:Nat×Int // y.1<=x.roles.length/\y.1<=100/\(x.roles.length:Int)<=y.2/\y.2<=444444444444444444+y.1*140737488351232}) (λy=>[(1,zp_ C 0),(3,iv_ y.1.2),(4,iv_ y.1.1)]) (λ_=>_) (λ_=>_) (λy=>x.roles.length - y.1.1) ⟨(0,((((x.role.length:Int)+(x.a.length:Int))+(x.b.length:Int))+(10*(List.length x.roles:Int)))),by simp,by simp,by dsimp only;omega,by dsimp only;omega⟩ ?_;rintro ⟨⟨i,n⟩,hk⟩;dsimp only at hk;refine bx_ [(1,zp_ C 0),(3,iv_ n),(4,iv_ i)] zl ?_;refine Zi 7 (λI=>?_) λI=>?_
 .refine Zi 12 (λq=>?_) λq=>?_
  .refine Zz 14 ?_
   exact ip_
  exact mh_
 refine Zi 4 (λq=>?_) λq=>?_
 .refine Zi 9 (λH=>?_) λH=>?_
  .refine Zz 14 ?_
   exact ip_
  exact mh_
 obtain⟨F,G,J,B⟩:=zge (show i<x.roles.length by omega);have N:=d.roles G B;refine Zz 15 ?_;refine e_ (ck_ W_ rfl) rfl (Zz 10 ?_);exact u_ ⟨(i+1,n+(List.length G:Int)),F,by dsimp only;omega,by dsimp only;omega,by dsimp only;omega⟩ zab_ zl (.refl _) zh
theorem rq_ (l:List Ax) (ad:Ao) (cap:Nat) (most:Int) (F:l.length<=cap/\cap<=2199023255488) (E:∀ x∈l,x.ok):Tri prog 35 #[.slice ad l.length cap,iv_ most] [] [cG_ ad l] (λb:{b:Bool // b=true->(l.length:Int)<=most/\∀ x∈l,Ax.Few x}=>.bool b.1) (λ_=>[]) (λ_=>[]):=by
 refine i_ func35 rfl rfl ntmps35 rfl λG=>?_;refine Zi 11 (λB=>?_) λB=>?_
 .refine Zz 12 ?_
  refine bx_ [(0,.slice ad l.length cap),(5,iv_ ((0:Nat):Int))] zl ?_;refine bV_ (ι:={q:Nat // q<=l.length/\∀ x∈l.take q,Ax.Few x}) (λi=>[(0,.slice ad l.length cap),(5,iv_ i.1)]) (λ_=>_) (λ_=>_) (λi=>l.length - i.1) ⟨0,by simp⟩ ?_;rintro ⟨i,hk⟩;refine bx_ [(0,.slice ad l.length cap),(5,iv_ i)] zl ?_;refine Zi 6 (λC=>?_) λC=>?_
  .refine Zz 11 ?_
   exact ab_ results35 ⟨true,λ_=>⟨by omega,λx m=>hk.2 x (by rw[yab_ zaa_];exact m)⟩⟩ rfl (.refl _) zt
  obtain⟨y,e,A,d⟩:=zge (show i<l.length by omega);refine Zz 13 ?_;refine f_ (mR_ e (E e d)) rfl g_ (λv _ h=>by exact⟨(h.1.2 e d),trivial⟩) rfl λ⟨r,H⟩=>?_;dsimp only;refine e_ (as_ rfl) rfl (Zz 2 ?_);cases r
  .refine Zz 7 ?_
   exact ab_ results35 ⟨false,λh=>by cases h⟩ rfl (.refl _) zt
  refine Zz 9 ?_;exact u_ ⟨i+1,y,λx m=>by rw[yaz_,A]at m;simp only[ybd_,yah_,yai_]at m;rcases m with m|rfl;exact hk.2 x m;exact H rfl⟩ zan_ zl (.refl _) zh
 refine Zz 9 ?_;exact ab_ results35 ⟨false,λh=>by cases h⟩ rfl (.refl _) zt
end Go.Proofs.YtbffkokbdeppaaaGreatDoor
namespace Go.Sx
open Go
section
variable {P:Program} {N:Nf} {v0:Vw} {H0:Hp} {R:Exit->Act->World->Prop} {K:List Kt} {fr:Fr} {H F:Hp} {Γ:List Fct} {ops:Array Oper} {l:List Oper} {ty:TypeId} {ps:String} {af:Array Edge} {e:TypeId} {sz n:Nat} {sv:Value} {xs:List Value} {Hr:Hp}
theorem xK_ {α:Type} (l:List α) (k m:Nat) (u:α) (hk:k<m) (hm:m<=l.length):(l.take k++[u]++l.drop (k+1)).take m=(l.take m).set k u:=by
 apply ybD_
 intro j;rw[yaK_,ybZ_,yaD_]
 by_cases d:j<m
 .rw[yao_ d]
  by_cases q:j<k
  .rw[yag_ zaa_,yar_,ybb_ zbW_,yaK_,yao_ q,yaK_,yao_ d]
  by_cases h:j=k
  .subst h
   rw[yao_ rfl,yao_ zaa_,yar_,ybh_ zbW_,yaD_,ybL_ zaa_,ycS_];rfl
  rw[yag_ zaa_,ybh_ (by rw[yaf_,yaD_,ybF_];omega),yaf_,yaD_,ybF_,ycW_,yaK_,yao_ d,ybL_ zaa_]
  congr 1;omega
 rw[yag_ d,yag_ zaa_,yaK_,yag_ d]
theorem ef_ {t:TypeId} {x y:Operand} {k:Nat} {u:Value} (d:at_ e sz sv n xs Hr) (G:H.Perm (Hr++F)) (J:∀ w,(sizeOf t).run P w=.ok 1 w) (L:Fr.ev fr x=some (.pointer (some ⟨svB sv,k,none⟩))) (C:Fr.ev fr y=some u) (hk:k<n*sz) (q:u.cells=#[u]) (m:u.oneCell'=true)
    (h:∀ Hr',at_ e sz sv n (xs.set k u) Hr'->Ops P R N v0 H0 ops l K fr (Hr'++F) Γ):Ops P R N v0 H0 ops (⟨none,.store t x y,ty,ps,af,none⟩::l) K fr H Γ:=by
  rcases d.2 with⟨_,E,_⟩|⟨g,cap,cur,rfl,rfl,B,O,A,M⟩
  . subst E;simp at hk
  . have v:n*sz<=cap*sz:=ybr_ _ B
    refine A_ G (n_ (b:=g) (off:=k) 0 J L C rfl (by rw[q];rfl) ?_ (by rw[q];simp[m]) ?_)
    . have I:k+1<=cur.size:=by rw[A];omega
      simpa using I
    . rw[q]
      refine h [(g,.cells (cur.toList.take k++[u]++cur.toList.drop (k+1)).toArray e (0,0))] ⟨by rw[ybs_];exact d.1,.inr ⟨g,cap,_,rfl,rfl,B,O,?_,?_⟩⟩
      . simp only[ybI_,yaf_,yaD_,ycp_,ybF_,ybH_,A];omega
      . show ((cur.toList.take k++[u]++cur.toList.drop (k+1)).toArray).toList.take (n*sz)=_
        rw[ycF_,xK_ _ _ _ _ hk (by rw[ybH_,A];exact v),M]
theorem gR_ {α:Type} (f:α->List Value) (z:Nat) (d:∀ x,(f x).length=z):∀ (l:List α) (i j:Nat) (x y:α) (u:Value),l[i]? = some x->j<z->f y=(f x).set j u->(l.flatMap f).set (i*z+j) u=(l.set i y).flatMap f
  | [],i,_,_,_,_,h,_,_=>by simp at h
  | a::l,0,j,x,y,u,h,hj,he=>by
    simp only[ybe_,yak_]at h;subst h;rw[yaG_,ycd_,yaG_,he,ydl_,ybw_,List.set_append_left _ _ (by rw[d];exact hj)]
  | a::l,i+1,j,x,y,u,h,hj,he=>by
    simp only[ybu_]at h;rw[yaG_,ydw_,yaG_,<-gR_ f z d l i j x y u h hj he,List.set_append_right _ _ (by rw[d,Nat.succ_mul];omega),d]
    congr 2
    rw[Nat.succ_mul];omega
theorem uV_ {t h:TypeId} {x:Operand} {k d:IntKind} {m r:Int} {u:TypeDesc} (B:P.underlying t=some u) (q:P.underlying h=some (.int d)) (C:Fr.ev fr x=some (.int k m)) (y:IntKind.wrap d m=r):Yld P N fr H Γ (.convert t h x) ty (.int d r) :=
  λa v A _ _ _ _ _=>by subst y;simp[execOp,A.ev C,convert,run_underlying B,run_underlying q,Conv.intToInt]
theorem wrapU {r:Int} (d:0<=r) (h:r<=18446744073709551615):IntKind.wrap .u64 r=r:=by
  simp[IntKind.wrap,IntKind.signed,IntKind.bits]
  omega
end
end Go.Sx
namespace Go.Sx
open Go
section
variable {P:Program} {N:Nf} {v0:Vw} {H0:Hp} {R:Exit->Act->World->Prop} {K:List Kt} {fr:Fr} {H F:Hp} {Γ:List Fct} {ops:Array Oper} {l:List Oper} {ty:TypeId} {ps:String} {af:Array Edge} {e:TypeId} {sz n:Nat} {sv:Value} {xs:List Value} {Hr:Hp}
theorem wa_ {α:Type} (l us:List α) (k m:Nat) (hk:k+us.length<=m) (hm:m<=l.length):(l.take k++us++l.drop (k+us.length)).take m=(l.take m).take k++us++(l.take m).drop (k+us.length):=by
  rw[ydg_,ybL_ zaa_,ydG_,yab_ (by simp only[yaf_,yaD_];omega)]
  congr 1
  rw[List.drop_take]
  congr 1
  simp only[yaf_,yaD_];omega
theorem om_ {t:TypeId} {x y:Operand} {k:Nat} {us:List Value} (d:at_ e sz sv n xs Hr) (I:H.Perm (Hr++F)) (L:∀ w,(sizeOf t).run P w=.ok sz w) (M:Fr.ev fr x=some (.pointer (some ⟨svB sv,k,none⟩))) (E:Fr.ev fr y=some (.agg us.toArray)) (hk:k+sz<=n*sz) (m:us.length=sz) (S:0<sz) (q:us.all Value.oneCell'=true)
    (h:∀ Hr',at_ e sz sv n (xs.take k++us++xs.drop (k+sz)) Hr'->Ops P R N v0 H0 ops l K fr (Hr'++F) Γ):Ops P R N v0 H0 ops (⟨none,.store t x y,ty,ps,af,none⟩::l) K fr H Γ:=by
  rcases d.2 with⟨_,G,_⟩|⟨g,cap,cur,rfl,rfl,B,Q,A,O⟩
  . subst G;simp only[ydl_]at hk;omega
  . have v:n*sz<=cap*sz:=ybr_ _ B
    have C:=d.1;refine A_ I (n_ (b:=g) (off:=k) (n:=sz) 0 L M E rfl (by simpa [Value.cells] using m) ?_ (by simpa [Value.cells] using q) ?_)
    . have J:k+sz<=cur.size:=by rw[A];omega
      simpa using J
    . refine h [(g,.cells (cur.toList.take k++us++cur.toList.drop (k+sz)).toArray e (0,0))] ⟨by simp only[yaf_,yaD_,ycp_];omega,.inr ⟨g,cap,_,rfl,rfl,B,Q,?_,?_⟩⟩
      . simp only[ybI_,yaf_,yaD_,ycp_,ybH_,A];omega
      . show ((cur.toList.take k++us++cur.toList.drop (k+sz)).toArray).toList.take (n*sz)=_
        rw[ycF_,<-O];have:=wa_ cur.toList us k (n*sz) zaa_ (by rw[ybH_,A];exact v);rw[m]at this;exact this
theorem rl_ {α:Type} (f:α->List Value) (z:Nat) (d:∀ x,(f x).length=z):∀ (l:List α) (i:Nat) (y:α),i<l.length->(l.flatMap f).take (i*z)++f y++(l.flatMap f).drop (i*z+z)=(l.set i y).flatMap f
  | [],i,y,h=>by simp at h
  | a::l,0,y,h=>by
    rw[yaG_,ycd_,yaG_,ydl_,ych_,ycX_,ybw_,ydC_,yaT_ (by rw[d];exact yaj_ _),d,ycS_];rfl
  | a::l,i+1,y,h=>by
    have m:i<l.length:=by simpa using h
    rw[yaG_,ydw_,yaG_,<-rl_ f z d l i y m,Nat.succ_mul,ydG_,yab_ (by rw[d];omega),ydC_,yaT_ (by rw[d];omega),d];rw[show i*z+z - z=i*z by omega,show i*z+z+z - z=i*z+z by omega];simp[yar_]
end
end Go.Sx
namespace Go.Sx
open Go
section
variable {P:Program} {N:Nf} {v0:Vw} {H0:Hp} {R:Exit->Act->World->Prop} {K:List Kt} {fr:Fr} {H F:Hp} {Γ:List Fct} {ops:Array Oper} {l:List Oper} {d:Nat} {ty:TypeId} {ps:String} {af:Array Edge} {e:TypeId} {sz n:Nat} {sv:Value} {xs:List Value} {Hr:Hp}
inductive ORow (e:TypeId) (sz:Nat):Value->Nat->List Value->Hp->Prop
  | row {sv:Value} {n:Nat} {xs:List Value} {Hr:Hp} (h:at_ e sz sv n xs Hr):ORow e sz sv n xs Hr
  | cut {g k n cap:Nat} {pre xs:List Value} {Hr:Hp} (hp:pre.length=k*sz) (h:at_ e sz (.slice (some ⟨g,0,none⟩) (k+n) (k+cap)) (k+n) (pre++xs) Hr):ORow e sz (.slice (some ⟨g,k*sz,none⟩) n cap) n xs Hr
  | out {g k:Nat} {Hr:Hp}:ORow e sz (.slice (some ⟨g,k*sz,none⟩) 0 0) 0 [] Hr
theorem ORow.len (h:ORow e sz sv n xs Hr):xs.length=n*sz:=by
  cases h with
  | row h=>exact h.1
  | cut hp h=>have:=h.1;rw[yaf_,hp,ybB_]at this;omega
  | out=>simp
theorem ORow.form (h:ORow e sz sv n xs Hr):∃ ad cap,sv=.slice ad n cap/\n<=cap/\(ad=none->cap=0):=by
 cases h with
 | row h =>
   rcases h.2 with⟨rfl,rfl,_⟩|⟨g,cap,cur,rfl,_,v,_⟩
   . exact⟨_,_,rfl,yaj_ _,λ_=>rfl⟩
   . exact⟨_,_,rfl,v,λq=>by cases q⟩
 | cut hp h =>
   rcases h.2 with⟨m,_⟩|⟨g,cap,cur,m,_,v,_⟩
   . cases m
   . simp only[Value.slice.injEq]at m;obtain⟨_,_,rfl⟩:=m;exact⟨_,_,rfl,by omega,λq=>by cases q⟩
 | out=>exact⟨_,_,rfl,yaj_ _,λq=>by cases q⟩
theorem rO_ {x:Operand} {t q:TypeId} (h:ORow e sz sv n xs Hr) (m:∀ w,(underlying t).run P w=.ok (.slice q) w) (v:Fr.ev fr x=some sv):Yld P N fr H Γ (.call ⟨.builtin .len,#[x],#[t]⟩) ty (.int .i64 (n:Int)):=by
  obtain⟨ad,cap,rfl,_⟩:=h.form;exact dG_ m v
def svO:Value->Nat
  | .slice (some a) _ _=>a.off
  | _=>0
theorem uU_ {x y:Operand} {t B:TypeId} {k:IntKind} {i:Int} (m:ORow e sz sv n xs Hr) (v:∀ w,(underlying t).run P w=.ok (.slice B) w) (C:∀ w,(sizeOf B).run P w=.ok sz w) (E:Fr.ev fr x=some sv) (q:Fr.ev fr y=some (.int k i)) (A:0<=i) (hl:i<n) :
    Yld P N fr H Γ (.indexAddr t x y) ty (.pointer (some ⟨svB sv,svO sv+i.toNat*sz,none⟩)):=by
  cases m with
  | row h =>
    have:=be_ (P:=P) (N:=N) (H:=H) (Γ:=Γ) (ty:=ty) h v C E q A hl;rcases h.2 with⟨_,G,_⟩|⟨g,cap,cur,rfl,_⟩
    . omega
    . simpa [svO] using this
  | cut hp h=>exact fb_ (P:=P) (N:=N) (H:=H) (Γ:=Γ) (ty:=ty) v C E q A hl
  | out=>omega
theorem sD_ {x y:Operand} {t G:TypeId} {kl:IntKind} {i:Nat} (q:ORow e sz sv n xs Hr) (J:∀ w,(underlying t).run P w=.ok (.slice G) w) (L:∀ w,(sizeOf G).run P w=.ok sz w) (M:Fr.ev fr x=some sv) (I:Fr.ev fr y=some (.int kl (i:Int))) (hi:i<=n) (O:Nat.blt d N.n=true)
    (hk:∀ sv',ORow e sz sv' (n - i) (xs.drop (i*sz)) Hr->Ops P R N v0 H0 ops l K ((d,sv')::fr) H Γ):Ops P R N v0 H0 ops (⟨some d,.slice t x (some y) none none,ty,ps,af,none⟩::l) K fr H Γ:=by
  have v:=q.len;obtain⟨ad,cap,A,E,_⟩:=q.form;have C:Fr.ev fr x=some (.slice ad n cap):=by rw[M,A]
  refine e_ (cV_ (i:=i) (j:=n) (kl:=kl) (kh:=.i64) J L C I rfl hi E) O ?_;refine hk _ ?_;cases q with
  | @row sv n xs Hr h =>
    rcases h.2 with⟨rfl,rfl,rfl⟩|⟨g,m,cur,rfl,_,Q,_⟩
    . obtain rfl:i=0:=by omega
      simp only[Value.slice.injEq]at A;obtain⟨rfl,_,rfl⟩:=A;have:xs=[]:=yau_ (by simpa using v);subst this;simp only[sad,List.drop_nil,ycS_];exact .row h
    . simp only[Value.slice.injEq]at A
      obtain⟨rfl,_,rfl⟩:=A
      by_cases B:m=i
      . subst B
        have:n=m:=by omega
        subst this;simp only[sad,ycn_,ycS_];rw[List.drop_eq_nil_of_le zaa_];have:=ORow.out (e:=e) (sz:=sz) (g:=g) (k:=0) (Hr:=Hr);simpa using this
      . simp only[sad,B,yce_,yaO_,cp_,ybw_]
        refine .cut (pre:=xs.take (i*sz)) (by rw[yaD_,v];exact ybL_ (ybr_ _ hi)) ?_;rw[ybK_,show i+(n - i)=n by omega,show i+(m - i)=m by omega];exact h
  | @cut g k n cap0 pre xs Hr hp h =>
    simp only[Value.slice.injEq]at A;obtain⟨rfl,_,rfl⟩:=A
    by_cases B:cap0=i
    . subst B
      have:n=cap0:=by omega
      subst this;simp only[sad,ycn_,ycS_];rw[List.drop_eq_nil_of_le zaa_];exact .out
    . simp only[sad,B,yce_,yaO_,cp_]
      rw[<-ybB_];refine .cut (pre:=pre++xs.take (i*sz)) (by rw[yaf_,yaD_,v,hp,ybL_ (ybr_ _ hi),ybB_]) ?_;rw[yar_,ybK_,show k+i+(n - i)=k+n by omega,show k+i+(cap0 - i)=k+cap0 by omega];exact h
  | @out g k Hr =>
    obtain rfl:i=0:=by omega
    simp only[Value.slice.injEq]at A;obtain⟨rfl,_,rfl⟩:=A;simp only[sad,ycn_,ycS_,List.drop_nil];exact .out
theorem Vw.to.more {v x:Vw} {H':Hp} (h:v.to F x H'):v.to (Hr++F) x H' where
 os:=h.os
 tape:=h.tape
 output:=h.output
 size:=h.size
 block:=λb m y=>h.block b m λhm=>y (by rw[yat_];exact yaA_ _ hm)
 imUp:=h.imUp
 imNew:=λb m=>by
   rw[yat_];rcases h.imNew b m with q|q|q
   . exact .inl q
   . exact .inr (.inl (yaA_ _ q))
   . exact .inr (.inr q)
 hNew:=λb m=>by
   rw[yat_];rcases h.hNew b m with q|q
   . exact .inl (yaA_ _ q)
   . exact .inr q
 sl:=h.sl
 dr:=h.dr
theorem Vw.sat.subB {v:Vw} (h:v.sat (Hr++F)):v.sat F :=
  ⟨λx m=>h.own x (yaA_ _ m),by have:=h.nodup;rw[yat_,ybf_]at this;exact this.2.1,h.lt⟩
theorem nZ_ {v:Vw} {a:Addr} {news:List Value} (h:bG_ v (some a) news):∀ j u,news[j]? = some u->v.w.cell? (a.add j)=some u:=λj u m=>by
 rcases h with h|⟨b,off,y,T,fz,q,_,x,A⟩
 .rw[h]at m;simp at m
 rw[yak_]at q;subst q;have:=A j u m;rw[cp_];simp[World.cell?,x,this]
theorem nY_ (w:World) (t ty e:TypeId) (i:TypeInfo) (C:P.underlying t=some (.slice e)) (hi:P.info? e=some i)
    (g off h q:Nat) (cur:Array Value) (E:w.heap[g]? = some (.cells cur e (0,0)))
    (a:Addr) (m c:Nat) (news:List Value) (hl:news.length=m*i.size) (v:∀ j u,news[j]? = some u->w.cell? (a.add j)=some u) (G:∀ u∈news,u.oneCell'=true)
    (x:h+m<=q) (y:off+h*i.size+news.length<=cur.size) :
    (Builtin.append_ #[t,t] ty #[.slice (some ⟨g,off,none⟩) h q,.slice (some a) m c]).run P w =
      .ok (.slice (some ⟨g,off,none⟩) (h+m) q) (w.setRow g (cur.toList.take (off+h*i.size)++news++cur.toList.drop (off+h*i.size+news.length)).toArray):=by
  have B:=run_firstCells_some (P:=P) w i.size m a m c news hl v;have A:=run_storeCells_at P g (off+h*i.size) e news 0 cur w E (by simpa using y) G;simp only[ycl_]at A;simp[Builtin.append_,run_underlying C,sizeOf,typeInfo,hi,Builtin.lenOf,x,B,Addr.add_lit,A]
theorem ta_ {v:Vw} {t ty':TypeId} {by' m c cap:Nat} {b a:Addr} {news:List Value} (G:Elt P t e sz by') (Z:v.sat (Hr++F)) (C:xs.length=n*sz) (af_:∀ j u,xs[j]? = some u->v.w.cell? (b.add j)=some u) (hl:news.length=m*sz) (q:∀ j u,news[j]? = some u->v.w.cell? (a.add j)=some u)
    (I:cap<n+m) (B:n+m<=maxLen) (L:(n+m)*by'<=140737488355328) :
    ∃ A w' x,(Builtin.append_ #[t,t] ty' #[.slice (some b) n cap,.slice (some a) m c]).run P v.w=.ok A w'/\at_ e sz A (n+m) (xs++news) x/\(⟨v.im,w',v.sl⟩:Vw).sat (x++F)/\v.to (Hr++F) ⟨v.im,w',v.sl⟩ (x++F):=by
  obtain⟨i,z,hi,O,es,W,X⟩:=G.info;subst es W;have E:n+m<=9223372036854775807:=by simp only[maxLen]at B;omega
  have Q:=run_append_grow (P:=P) v.w t ty' e i z G.und hi O b n cap xs C af_ a m c news hl q I zaa_ (growslice_fits I L);obtain⟨A,w',h,M,q2⟩:=run_append_arg_grows (P:=P) v.w t ty' e i z i.size i.bytes G.und hi O rfl rfl X G.pos b n cap xs C af_ a m c news hl q I B L;have T:w'.ownsRow 0 e i.size A (n+m) (xs++news):=⟨M.1,M.2.imp id λ⟨g,cap,cur,V,_,Y⟩=>⟨g,cap,cur,V,ybC_ _,Y⟩⟩
  have S:v.w.drawn<=w'.drawn:=by
    rw[Q]at h;cases h;simp
  have y:∀ g,A.ownBlock=some g->(Value.slice none 0 0).ownBlock=some g\/v.w.heap.size<=g:=λg J=>by
    rw[Q]at h;cases h;simp only[Value.ownBlock,yak_]at J;exact .inr zaa_
  obtain⟨x,k1,k2,U⟩:=js_ (F:=F) (at_.nil e i.size) (by simpa using Z.subB) T q2 S y;exact⟨A,w',x,h,k1,k2,by simpa using Vw.to.more (Hr:=Hr) U⟩
theorem mJ_ {x y:Operand} {t:TypeId} {by' m c:Nat} {news:List Value} {ad:Ao} (O:Elt P t e sz by') (T:ORow e sz sv n xs Hr)
    (V:Fr.ev fr x=some sv) (W:Fr.ev fr y=some (.slice ad m c)) (Y:ad=none->c=0) (hmc:m<=c) (L:H.Perm (Hr++F)) (hl:news.length=m*sz) (E:∀ v,v.sat H->af_ Γ v->bG_ v ad news) (h1c:∀ u∈news,u.oneCell'=true)
    (U:n+m<=maxLen) (hb:(n+m)*by'<=140737488355328) (hN:Nat.blt d N.n=true)
    (hk:∀ sv' C,ORow e sz sv' (n+m) (xs++news) C->Ops P R N v0 H0 ops l K ((d,sv')::fr) (C++F) Γ) :
    Ops P R N v0 H0 ops (⟨some d,.call ⟨.builtin .append,#[x,y],#[t,t]⟩,ty,ps,af,none⟩::l) K fr H Γ:=by
  have S:=T.len;cases T with
  | row h=>exact eD_ O h V W Y hmc L hl E h1c U hb hN λsv' C q=>hk sv' C (.row q)
  | @cut g k n cap pre xs Hr hp h =>
    cases ad with
    | none =>
      obtain rfl:=Y rfl;obtain rfl:m=0:=by omega
      obtain rfl:news=[]:=yau_ (by simpa using hl);obtain⟨_,A,ee,hnc,_⟩:=(ORow.cut (cap:=cap) hp h).form;simp only[Value.slice.injEq]at ee;obtain⟨_,_,rfl⟩:=ee;refine e_ (x:=.slice (some ⟨g,k*sz,none⟩) n cap) (λa v B _ _ _ _ _=>?_) hN (A_ L (hk _ Hr (by simpa using ORow.cut (cap:=cap) hp h)));obtain⟨i,z,hi,Y,es,eb,ez⟩:=O.info;simp[execOp,resolve,invoke,builtin,B.ev V,B.ev W,Builtin.append_,run_underlying O.und,sizeOf,typeInfo,hi,Builtin.lenOf,Builtin.firstCells,hnc,storeCells]
    | some a0 =>
      obtain⟨A,cur,X,e1,h4,h5,h6,h7⟩:∃ A cur,A=k+cap/\Hr=[(g,.cells cur e (0,0))]/\k+n<=A/\A<=maxLen/\cur.size=A*sz/\cur.toList.take ((k+n)*sz)=pre++xs:=by
        rcases h.2 with⟨B,_⟩|⟨g1,A,cur,B,I,Z⟩
        . cases B
        . simp only[Value.slice.injEq,yak_,Addr.mk.injEq]at B
          obtain⟨⟨rfl,_,_⟩,_,rfl⟩:=B;exact⟨_,cur,rfl,I,Z⟩
      subst X;refine cy_ rfl λa v B I Z G=>?_;have g2:=I.perm L;have hn:=nZ_ (E v I G);have hg:=(g2.own (g,.cells cur e (0,0)) (by rw[e1];simp)).1
      by_cases J:n+m<=cap
      . obtain⟨i,z,hi,hz',es,eb,ez⟩:=O.info
        subst es;have hr:=nY_ (P:=P) v.w t ty e i O.und hi g (k*i.size) n cap cur hg a0 m c news hl hn h1c J (by rw[hl,h6,<-ybB_,<-ybB_];exact ybr_ _ zaa_);rw[<-ybB_]at hr;have hL:(pre++xs++news).length=(k+n+m)*i.size:=by rw[yaf_,h.1,hl,<-ybB_]
        obtain⟨C,k1,k2,Q⟩:=js_ (sv':=.slice (some ⟨g,0,none⟩) (k+n+m) (k+cap)) (n':=k+n+m) (ys:=pre++xs++news) h g2
          (w':=v.w.setRow g (cur.toList.take ((k+n)*i.size)++news++cur.toList.drop ((k+n)*i.size+news.length)).toArray)
          ⟨hL,.inr ⟨g,k+cap,_,rfl,ybC_ _,setRow_heap v.w g cur _ e _ hg,by omega,h5,by
              simp only[ybI_,yaf_,yaD_,ycp_,ybH_];have:(k+n)*i.size+news.length<=cur.size:=by rw[hl,h6,<-ybB_];exact ybr_ _ zaa_
              omega,by rw[h7,<-hL];exact List.take_left⟩⟩
          ⟨rfl,rfl,rfl,by simp,λk _ hk=>setRow_other v.w g k _ (λe=>hk (by simp[Value.ownBlock,e]))⟩ zaj_ (λ_ h=>.inl h)
        unfold Oper.wp execOp;simp only[resolve,invoke,builtin,Sem.run_bind,Sem.run_pure,Result.andThen_ok,ybt_,yay_,ybz_,B.ev V,B.ev W,hr];refine hk _ C (.cut (pre:=pre) (cap:=cap) hp (by rw[<-ycG_,<-yar_];exact k1)) _ ⟨v.im,_,v.sl⟩ (B.put hN) k2 (Z.trans (Q.permL L.symm)) (av_ ((Q.permL L.symm).le I) G)
      . have af_:∀ j u,xs[j]? = some u->v.w.cell? ((⟨g,k*sz,none⟩:Addr).add j)=some u:=λj u hj=>by
          rw[cp_];have hj':=(yac_.1 hj).1
          have hc:cur[k*sz+j]? = some u:=by
            have q:(cur.toList.take ((k+n)*sz))[k*sz+j]? = some u:=by rw[h7,ybh_ zaa_,hp,Nat.add_sub_cancel_left];exact hj
            rw[yaK_]at q
            split at q
            . simpa using q
            . cases q
          simp[World.cell?,hg,hc]
        obtain⟨v',w',C,hr,k1,k2,Q⟩:=ta_ (F:=F) (t:=t) (ty':=ty) (cap:=cap) (c:=c) O g2 S af_ hl hn (Nat.lt_of_not_le J) U hb;unfold Oper.wp execOp;simp only[resolve,invoke,builtin,Sem.run_bind,Sem.run_pure,Result.andThen_ok,ybt_,yay_,ybz_,B.ev V,B.ev W,hr];exact hk v' C (.row k1) _ ⟨v.im,w',v.sl⟩ (B.put hN) k2 (Z.trans (Q.permL L.symm)) (av_ ((Q.permL L.symm).le I) G)
  | @out g k Hr =>
    have M:m=0->news=[]:=λq=>yau_ (by rw[hl,q,ydl_])
    by_cases hm:m=0
    . obtain rfl:=M hm
      subst hm;refine e_ (x:=.slice (some ⟨g,k*sz,none⟩) 0 0) (λa v B I h4 _ _ _=>?_) hN (A_ L (hk _ Hr ORow.out));obtain⟨i,z,hi,Y,es,eb,ez⟩:=O.info;cases ad with
      | none=>obtain rfl:=Y rfl;simp[execOp,resolve,invoke,builtin,B.ev V,B.ev W,Builtin.append_,run_underlying O.und,sizeOf,typeInfo,hi,Builtin.lenOf,Builtin.firstCells,storeCells]
      | some a0=>simp[execOp,resolve,invoke,builtin,B.ev V,B.ev W,Builtin.append_,run_underlying O.und,sizeOf,typeInfo,hi,Builtin.lenOf,Builtin.firstCells,loadCells,loadCellsFrom,storeCells]
    . cases ad with
      | none=>have:=Y rfl;omega
      | some a0 =>
        refine cy_ rfl λa v B I Z G=>?_;have g2:=I.perm L;have hn:=nZ_ (E v I G);obtain⟨v',w',C,hr,k1,k2,Q⟩:=ta_ (F:=F) (t:=t) (ty':=ty) (b:=⟨g,k*sz,none⟩) (cap:=0) O g2 S (λj u hj=>by simp at hj) hl hn (c:=c) zaa_ U hb;unfold Oper.wp execOp;simp only[resolve,invoke,builtin,Sem.run_bind,Sem.run_pure,Result.andThen_ok,ybt_,yay_,ybz_,B.ev V,B.ev W,hr];exact hk v' C (.row k1) _ ⟨v.im,w',v.sl⟩ (B.put hN) k2 (Z.trans (Q.permL L.symm)) (av_ ((Q.permL L.symm).le I) G)
end
end Go.Sx
namespace Go.Sx
open Go
section
variable {P:Program} {N:Nf} {v0:Vw} {H0:Hp} {R:Exit->Act->World->Prop} {K:List Kt} {fr:Fr} {H F:Hp} {Γ:List Fct} {ops:Array Oper} {l:List Oper} {d:Nat} {ty:TypeId} {ps:String} {af:Array Edge} {e:TypeId} {sz n:Nat} {sv:Value} {xs:List Value} {Hr:Hp}
def svK:Value->Nat
  | .slice _ _ c=>c
  | _=>0
def svT (sv:Value) (n k sz:Nat):Value:=.slice (some ⟨svB sv,k*sz,none⟩) (n - k) (svK sv - k)
theorem kw_ {x y:Operand} {t m:TypeId} {kl:IntKind} {k:Nat} (h:at_ e sz sv n xs Hr) (v:∀ w,(underlying t).run P w=.ok (.slice m) w) (B:∀ w,(sizeOf m).run P w=.ok sz w) (C:Fr.ev fr x=some sv) (q:Fr.ev fr y=some (.int kl (k:Int))) (hk:k<n) :
    Yld P N fr H Γ (.slice t x (some y) none none) ty (svT sv n k sz):=by
  rcases h.2 with⟨_,E,_⟩|⟨g,cap,cur,rfl,rfl,A,I,J,G⟩
  . omega
  . refine ao_ (cV_ (i:=k) (j:=n) (kl:=kl) (kh:=.i64) v B C q rfl zaa_ A) ?_
    unfold svT sad;rw[yag_ zaa_];simp[cp_,svB,svK]
theorem py_ {x:Operand} {t m:TypeId} {k:Nat} (h:∀ w,(underlying t).run P w=.ok (.slice m) w) (q:Fr.ev fr x=some (svT sv n k sz)):Yld P N fr H Γ (.call ⟨.builtin .len,#[x],#[t]⟩) ty (.int .i64 ((n - k:Nat):Int)):=dG_ h q
theorem je_ {x y:Operand} {t h:TypeId} {k j:Nat} (q:∀ w,(underlying t).run P w=.ok (.slice h) w) (v:∀ w,(sizeOf h).run P w=.ok sz w) (A:Fr.ev fr x=some (svT sv n k sz)) (m:Fr.ev fr y=some (.int .i64 (j:Int))) (B:j<n - k) :
    Yld P N fr H Γ (.indexAddr t x y) ty (.pointer (some ⟨svB sv,((k+j:Nat):Int).toNat*sz,none⟩)):=by
  refine ao_ (fb_ q v A m zaa_ zaa_) ?_;rw[ycK_,ycK_,ybB_]
theorem zA_ (h:at_ e sz sv n xs Hr) {k:Nat} (hk:k<=n) (G:0<n):∃ sv',at_ e sz sv' k (xs.take (k*sz)) Hr/\
    ∀ {N:Nf} {fr:Fr} {H:Hp} {Γ:List Fct} {ty t:TypeId} {x y:Operand},(∀ w,(underlying t).run P w=.ok (.slice e) w)->(∀ w,(sizeOf e).run P w=.ok sz w)->Fr.ev fr x=some sv->Fr.ev fr y=some (.int .i64 (k:Int))->Yld P N fr H Γ (.slice t x none (some y) none) ty sv':=by
  obtain⟨hl,⟨_,E,_⟩|⟨g,cap,cur,rfl,rfl,q,hm,C,m⟩⟩:=h
  . omega
  . refine⟨.slice (some ⟨g,0,none⟩) k cap,⟨?_,.inr ⟨g,cap,cur,rfl,rfl,by omega,hm,C,?_⟩⟩,λA B m v=>?_⟩
    . rw[yaD_,hl];exact ybL_ (ybr_ _ hk)
    . rw[<-m,ydg_,ybL_ (ybr_ _ hk)]
    . refine ao_ (cV_ (i:=0) (j:=k) (kl:=.i64) (kh:=.i64) A B m rfl v (ybC_ _) zaa_) ?_
      unfold sad;rw[yag_ zaa_];simp[cp_]
theorem op_ {x:Operand} {t:TypeId} {k:Nat} {z:Value} (q:at_ e sz sv n xs Hr) (hH:H.Perm (Hr++F)) (hu:∀ w,(underlying t).run P w=.ok (.slice e) w) (hz:∀ w,(zeroValue e).run P w=.ok z w) (S:z.cells.size=sz) (h1:z.cells.toList.all Value.oneCell'=true) (hsz:0<sz)
    (hx:Fr.ev fr x=some (svT sv n k sz)) (hk:k<n)
    (h:∀ Hr' zs,zs.length=(n - k)*sz->at_ e sz sv n (xs.take (k*sz)++zs) Hr'->Ops P R N v0 H0 ops l K fr (Hr'++F) Γ):Ops P R N v0 H0 ops (⟨none,.call ⟨.builtin .clear,#[x],#[t]⟩,ty,ps,af,none⟩::l) K fr H Γ:=by
  rcases q.2 with⟨_,h2,_⟩|⟨g,cap,cur,rfl,rfl,W,Y,Q,h6⟩
  . omega
  . have hle:n*sz<=cap*sz:=ybr_ _ W
    have A:k*sz<=n*sz:=ybr_ _ zaa_;obtain⟨m,hm⟩:∃ m,n - k=m+1:=⟨n - k - 1,by omega⟩;have y:(Builtin.zeroCells z.cells (n - k)).toList.length=(n - k)*sz:=by simp[Builtin.zeroCells,S]
    have C:k*sz+(n - k)*sz=n*sz:=by rw[<-ybB_];congr 1;omega
    refine A_ hH (cy_ rfl λa v V O g3 g4=>?_);have U:=(O.own _ yav_).1
    have B:=run_storeCells_at P g (k*sz) e (Builtin.zeroCells z.cells (n - k)).toList 0 cur v.w U (by rw[y,Q];omega) (λc J=>by
      have E:0<z.cells.size:=by omega
      simp only[Builtin.zeroCells,Array.toList_map,Array.toList_range,yap_,ycz_]at J;obtain⟨i,_,rfl⟩:=J;have M:i%z.cells.size<z.cells.size:=ydA_ _ E;rw[getElem!_pos z.cells _ M];exact yaW_.1 h1 _ zaj_)
    have he:(execOp a.eval ⟨none,.call ⟨.builtin .clear,#[x],#[t]⟩,ty,ps,af,none⟩).run P v.w=.ok (.value (.tuple #[])) (v.w.setRow g (cur.toList.take (k*sz)++(Builtin.zeroCells z.cells (n - k)).toList++cur.toList.drop (k*sz+(n - k)*sz)).toArray):=by
      rw[y]at B;simp only[ycl_]at B
      have L:a.eval x=.slice (some ⟨g,k*sz,none⟩) (m+1) (cap - k):=by
        have:=V.ev hx;rw[this];unfold svT;rw[hm];rfl
      rw[hm]at B ⊢;simp[execOp,resolve,invoke,builtin,L,Builtin.clear_,hu,hz,B]
    unfold Oper.wp;rw[he];obtain⟨Z,X⟩:=eM_ (i:=0) (w':=v.w.setRow g (cur.toList.take (k*sz)++(Builtin.zeroCells z.cells (n - k)).toList++cur.toList.drop (k*sz+(n - k)*sz)).toArray) O rfl rfl rfl rfl (yaj_ _) zaj_ (setRow_heap _ _ _ _ _ _ U) (λc J=>setRow_other _ _ _ _ J);refine h [(g,.cells (cur.toList.take (k*sz)++(Builtin.zeroCells z.cells (n - k)).toList++cur.toList.drop (k*sz+(n - k)*sz)).toArray e (0,0))] (Builtin.zeroCells z.cells (n - k)).toList y ⟨?_,.inr ⟨g,cap,_,rfl,rfl,W,Y,?_,?_⟩⟩ _ _ V Z (g3.trans X) (av_ (X.le O) g4)
    . rw[yaf_,yaD_,y,q.1,ybL_ A];exact C
    . simp only[ybI_,yaf_,yaD_,ycp_,ybH_,Q,y,C]
      omega
    . have I:(cur.toList.take (k*sz)).length=k*sz:=by rw[yaD_,ybH_,Q];omega
      rw[ycF_]
      apply ybD_
      intro j;rw[yaK_]
      by_cases T:j<n*sz
      . rw[yao_ T]
        by_cases G:j<k*sz
        . rw[yar_,ybb_ zaa_,ybb_ (by rw[yaD_,q.1];omega),yaK_,yao_ G,yaK_,yao_ G,<-h6,yaK_,yao_ T]
        . rw[ybb_ (by rw[yaf_,I,y];omega),ybh_ zaa_,I,ybh_ (by rw[yaD_,q.1];omega),yaD_,q.1,ybL_ A]
      . rw[yag_ T,ybv_ (by rw[yaf_,yaD_,y,q.1,ybL_ A];omega)]
end
end Go.Sx
namespace Go.Vs
def cpG {α:Type} (q:α->α->Bool):α->List α->List α
  | _,[]=>[]
  | x,y::l=>if q y x then cpG q y l else y::cpG q y l
def cpL {α:Type} (q:α->α->Bool):List α->List α
  | []=>[]
  | x::l=>x::cpG q x l
theorem tk_ {α:Type} {q:α->α->Bool}:∀ (l:List α) (x z w:α),(x::l)[l.length]? = some w->cpG q x (l++[z])=cpG q x l++(if q z w then [] else [z])
 | [],x,z,w,h=>by
   simp only[yaL_,ybe_,yak_]at h;subst h;simp only[ycX_,cpG]
 | y::l,x,z,w,h=>by
   simp only[yal_,ybu_]at h;simp only[yaJ_,cpG];have:=tk_ (q:=q) l y z w h
   split
   . exact this
   . rw[this];rfl
theorem lf_ {α:Type} {q:α->α->Bool} {l:List α} {p:Nat} {w z:α} (m:l[p]? = some w) (y:l[p+1]? = some z):cpL q (l.take (p+2))=cpL q (l.take (p+1))++(if q z w then [] else [z]):=by
  cases l with
  | nil=>simp at m
  | cons x l =>
    have v:=(yac_.1 y).1;simp only[yal_]at v;simp only[ybu_]at y;have e:l.take (p+1)=l.take p++[z]:=by rw[yaz_,y];rfl
    rw[ybo_,ybo_,cpL,cpL,e,yaJ_]
    congr 1
    have h:(l.take p).length=p:=by rw[yaD_];omega
    refine tk_ (l.take p) x z w ?_;rw[h];cases p with
    | zero=>simpa using m
    | succ p =>
      simp only[ybu_]at m ⊢;rw[yaK_,yao_ zaa_];exact m
theorem BN_ {α:Type} {q:α->α->Bool} (l:List α):(cpL q l).length<=l.length:=by
  cases l with
  | nil=>simp[cpL]
  | cons x l =>
    simp only[cpL,yal_]
    have:∀ (l:List α) (x:α),(cpG q x l).length<=l.length:=by
      intro l
      induction l with
      | nil=>intro x;simp[cpG]
      | cons y l ih =>
        intro x;simp only[cpG];have:=ih y
        split<;>simp<;>omega
    have:=this l x;omega
theorem ry_ {α:Type} {q:α->α->Bool}:∀ (l:List α) (x z:α),z∈cpG q x l->z∈l
 | [],_,_,h=>by simp[cpG]at h
 | y::l,x,z,h=>by
   simp only[cpG]at h
   split at h
   . exact yaE_ _ (ry_ l y z h)
   . rcases yan_.1 h with rfl|h
     . simp
     . exact yaE_ _ (ry_ l y z h)
theorem rx_ {α:Type} {q:α->α->Bool} {l:List α} {z:α} (h:z∈cpL q l):z∈l:=by
 cases l with
 | nil=>simp[cpL]at h
 | cons x l =>
   rcases yan_.1 h with rfl|h
   . simp
   . exact yaE_ _ (ry_ l x z h)
structure CmI {α:Type} (q:α->α->Bool) (S M:List α) (k p:Nat):Prop where
  len:M.length=S.length
  kp:k<p
  pl:p<=S.length
  rest:∀ j,k<=j->M[j]? = S[j]?
  fst:M.take k=cpL q (S.take p)
theorem CmI.none {α:Type} {q:α->α->Bool} {S:List α} {k:Nat} {x y:α} (v:cpL q (S.take (k+1))=S.take (k+1)) (A:S[k]? = some x) (h:S[k+1]? = some y) (m:q y x=true):CmI q S S (k+1) (k+2) :=
  ⟨rfl,by omega,by have:=(yac_.1 h).1;omega,λ_ _=>rfl,by rw[lf_ A h,yao_ m,yaw_,v]⟩
theorem CmI.skip {α:Type} {q:α->α->Bool} {S M:List α} {k p:Nat} {x y:α} (h:CmI q S M k (p+1)) (v:M[p]? = some x) (m:M[p+1]? = some y) (A:q y x=true):CmI q S M k (p+2):=by
  have B:=h.kp;rw[h.rest p zaa_]at v;rw[h.rest (p+1) zaa_]at m;exact⟨h.len,by omega,by have:=(yac_.1 m).1;omega,h.rest,by rw[lf_ v m,yao_ A,yaw_,h.fst]⟩
theorem CmI.keep {α:Type} {q:α->α->Bool} {S M:List α} {k p:Nat} {x y:α} (h:CmI q S M k (p+1)) (v:M[p]? = some x) (m:M[p+1]? = some y) (B:q y x=false):CmI q S (M.set k y) (k+1) (p+2):=by
 have C:=h.kp;have A:=(yac_.1 m).1;rw[h.rest p zaa_]at v;rw[h.rest (p+1) zaa_]at m;refine⟨by rw[ybs_];exact h.len,by omega,by have:=(yac_.1 m).1;omega,λj E=>?_,?_⟩
 .rw[ydp_ zaa_];exact h.rest j zaa_
 rw[lf_ v m,yag_ zbb_,<-h.fst,yaz_,List.take_set,List.getElem?_set_self zaa_];rw[List.set_eq_of_length_le zbW_];rfl
theorem CmI.done {α:Type} {q:α->α->Bool} {S M:List α} {k:Nat} (h:CmI q S M k S.length):M.take k=cpL q S:=by rw[h.fst,ycr_]
theorem tj_ {α:Type} {q:α->α->Bool} {S:List α} {k:Nat} {x y:α} (v:cpL q (S.take (k+1))=S.take (k+1)) (A:S[k]? = some x) (h:S[k+1]? = some y) (m:q y x=false):cpL q (S.take (k+2))=S.take (k+2):=by
  rw[lf_ A h,yag_ (by rw[m];simp),v,yaz_ (i:=k+1),h];rfl
theorem jA_ {α:Type} {q:α->α->Bool} {S:List α} (h:S.length<2):cpL q S=S:=by
  match S,h with
  | [],_=>rfl
  | [x],_=>rfl
end Go.Vs
