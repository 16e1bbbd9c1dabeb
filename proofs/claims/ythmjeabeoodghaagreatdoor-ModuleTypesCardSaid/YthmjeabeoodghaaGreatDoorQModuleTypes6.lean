/-
  Lemmas for the law ModuleTypes (no condition).
-/
import Derived.Lib.SlicesCompact
import Derived.Sort.EncStr
import Derived.Test.YthmjeabeoodghaaGreatDoorQModuleTypes5
import Derived.Test.YthmjeabeoodghaaGreatDoorProg
set_option linter.unusedVariables false
set_option linter.unusedSimpArgs false
set_option linter.unusedSectionVars false
set_option maxHeartbeats 1000000
namespace Go.Vs
open Go Go.Sx
theorem kL_ {s:Str} (h:gX_ s=true):∃ c t,s=c::t∧eG_ c=true∧mT_ s=true:=by
  cases s with
  | nil=>simp[gX_]at h
  | cons c t =>
    simp only[gX_,Bool.and_eq_true]at h;exact⟨c,t,rfl,h.1.1.2,h.1.2⟩
theorem plain_head {s:Str} (h:bk_ s=true):∃ c t,s=c::t∧eG_ c=true:=by
  unfold bk_ at h;simp only[Bool.and_eq_true]at h;cases hx:ixS 58 s with
  | none=>rw[hx]at h;obtain⟨c,t,e,m,_⟩:=kL_ h.2;exact⟨c,t,e,m⟩
  | some k =>
    rw[hx]at h;simp only[Bool.and_eq_true]at h;obtain⟨c,t,e,m,_⟩:=kL_ h.2.1;cases s with
    | nil=>simp at e
    | cons d u =>
      cases k with
      | zero=>simp at e
      | succ k=>simp only[List.take_succ_cons,List.cons.injEq]at e;exact⟨d,u,rfl,e.1▸m⟩
theorem ok_ {s:Str} (h:mT_ s=true):∀ c∈s,fX_ c=true:=fun c d=>List.all_eq_true.1 h c d
theorem xO_ {c:UInt8} {s:Str} {k:Nat} (h:ixS c s=some k):s=s.take k++c::s.drop (k+1):=by
 induction s generalizing k with
 | nil=>simp[ixS]at h
 | cons b s ih =>
   simp only[ixS]at h
   split at h
   · rename_i d
     simp only[Option.some.injEq]at h;subst h;subst d;simp
   · cases hx:ixS c s with
     | none=>rw[hx]at h;simp at h
     | some j =>
       rw[hx]at h;simp only[Option.map_some,Option.some.injEq]at h;subst h;simp only[List.take_succ_cons,List.drop_succ_cons,List.cons_append];rw[← ih hx]
theorem xq_ {s:Str} (h:bk_ s=true):∀ c∈s,fX_ c=true∨c=58:=by
 unfold bk_ at h;simp only[Bool.and_eq_true]at h;cases hx:ixS 58 s with
 | none=>rw[hx]at h;obtain⟨_,_,_,_,e⟩:=kL_ h.2;exact fun c d=>.inl (ok_ e c d)
 | some k =>
   rw[hx]at h;simp only[Bool.and_eq_true]at h;obtain⟨_,_,_,_,e⟩:=kL_ h.2.1;obtain⟨_,_,_,_,m⟩:=kL_ h.2.2;intro c d;rw[xO_ hx]at d;rcases List.mem_append.1 d with d|d
   · exact .inl (ok_ e c d)
   · rcases List.mem_cons.1 d with rfl|d
     · exact .inr rfl
     · exact .inl (ok_ m c d)
theorem nd_ {c:UInt8}:∀ {s:Str},c ∉ s→ixS c s=none
  | [],_=>rfl
  | b::s,h=>by
    simp only[List.mem_cons,not_or]at h;simp only[ixS];rw[if_neg (fun e=>h.1 e.symm),nd_ h.2];rfl
theorem iY_ {s:Str} (h:bk_ s=true):bp_ 46 s=[s] :=
  gY_ (nd_ fun hm=>by rcases xq_ h 46 hm with h|h<;>revert h<;>decide)
theorem db_ {s:Str} (h:bk_ s=true):aN_ s=true:=by simp[aN_,h]
theorem dq_ {s:Str} (h:bk_ s=true):cx_ s=true:=by
  unfold cx_;rw[iY_ h];simp[db_ h]
theorem ot_ (c:UInt8):∀ (f r:Str),bp_ c (f++[c]++r)=bp_ c f++bp_ c r
 | [],r=>by simp[bp_]
 | b::f,r=>by
   have d:=ot_ c f r;simp only[List.append_assoc,List.cons_append,List.nil_append]at d ⊢
   by_cases e:b=c
   · subst e;simp only[bp_,if_true,d,List.cons_append]
   · simp only[bp_,e,if_false,d]
     cases hs:bp_ c f with
     | nil=>exact absurd hs (lD_ c f)
     | cons x t=>simp
theorem uW_ {c:UInt8} (h:eG_ c=true):c≠42∧c≠33∧c≠123∧c≠60∧c≠95:=by
  refine⟨?_,?_,?_,?_,?_⟩<;>rintro rfl<;>revert h<;>decide
theorem py_ {s:Str} (h:bk_ s=true):bj_ s=true:=by
  obtain⟨c,t,rfl,e⟩:=plain_head h;obtain⟨d,m,v,x,_⟩:=uW_ e;unfold bj_;rw[if_neg (by simp[d,m]),if_neg (by simp[v]),if_neg zbL_];exact db_ h
theorem jo_ {s:Str} (h:aN_ s=true):bj_ ([123]++s++[125])=true:=by
  unfold bj_;have e:([123]++s++[125]).length=s.length+2:=by simp
  rw[if_neg zaf_,if_pos (by
    refine⟨by omega,by simp,?_⟩;rw[List.getElem?_append_right zaf_];simp)]
  rw[e];have:(List.drop 1 ([123]++s++[125])).take (s.length+2 - 1 - 1)=s:=by simp
  rw[this];exact h
theorem vz_ {t:Str} (h:t≠[]):bj_ ([60]++t++[62])=true:=by
  unfold bj_;have hl:0<t.length:=List.length_pos_iff.2 h;have e:([60]++t++[62]).length=t.length+2:=by simp
  rw[if_neg zaf_,if_neg zaf_,if_pos (by
    refine⟨by omega,by simp,?_⟩;rw[List.getElem?_append_right zaf_];simp)]
namespace Con
def dep:Con→Nat
  | mk _ _ _ _ _ _ ps=>deps ps
where deps:List Con→Nat
  | []=>0
  | p::ps=>max (1+dep p) (deps ps)
theorem rR_ {p:Con}:∀ {ps:List Con},p∈ps→1+p.dep≤dep.deps ps
 | q::ps,h=>by
   rcases List.mem_cons.1 h with rfl|h
   · simp only[dep.deps];omega
   · have:=rR_ h;simp only[dep.deps];omega
theorem rS_ (c:Con):c.dep=dep.deps c.parts:=by cases c;rfl
theorem sz_eq (c:Con):c.sz=1+sz.szs c.parts:=by cases c;rfl
theorem tE_:∀ (m:Nat) (c:Con),c.sz≤m→∀ d n,(c.fits d n).1=true↔d+c.dep≤8∧n+c.sz≤64
 | 0,c,h=>by have:=c.sz_pos;omega
 | m+1,c,h=>fun d n=>by
   have A:∀ ps:List Con,(∀ p∈ps,p.sz≤m)→∀ n,n≤64→((fits.fitss ps (d+1) n).1=true↔(∀ p∈ps,d+1+p.dep≤8)∧n+sz.szs ps≤64):=by
     intro ps
     induction ps with
     | nil=>intro _ n E;simp[fits.fitss,sz.szs,E]
     | cons p ps ih =>
       intro e n E;have v:=tE_ m p (e p zaf_) (d+1) n;simp only[fits.fitss,sz.szs,List.mem_cons,forall_eq_or_imp];rcases x:p.fits (d+1) n with⟨b,q⟩
       rw[x]at v;cases b with
       | true =>
         have B:=rJ_ _ p (Nat.le_refl _) (d+1) n (by rw[x]);rw[x]at B;simp only at B v ⊢;have C:=v.1 trivial;rw[ih (fun r F=>e r (by simp[F])) q zaa_];constructor
         · rintro ⟨a,b⟩;exact⟨⟨C.1,a⟩,by omega⟩
         · rintro ⟨⟨_,a⟩,b⟩;exact⟨a,by omega⟩
       | false =>
         simp only[Bool.false_eq_true,false_iff]at v ⊢;rintro ⟨⟨a,_⟩,b⟩;exact v ⟨a,by omega⟩
   have G:=rS_ c;have H:=sz_eq c;rw[fits_eq]
   split
   · rename_i y
     simp only[Bool.or_eq_true,decide_eq_true_eq]at y;simp only[Bool.false_eq_true,false_iff];rintro ⟨a,b⟩;omega
   · rename_i y
     simp only[Bool.or_eq_true,decide_eq_true_eq,not_or]at y;rw[A c.parts (fun p e=>by have:=sz_part e;omega) (n+1) zaa_,G,H];constructor
     · rintro ⟨a,b⟩
       refine⟨?_,by omega⟩
       have:∀ ps:List Con,(∀ p∈ps,d+1+p.dep≤8)→d+dep.deps ps≤8:=by
         intro ps
         induction ps with
         | nil=>intro _;simp[dep.deps];omega
         | cons p ps ih =>
           intro e;have v:=e p zaf_;have C:=ih fun q x=>e q zbL_
           simp only[dep.deps];omega
       exact this _ a
     · rintro ⟨a,b⟩
       exact⟨fun p e=>by have:=rR_ e;omega,by omega⟩
theorem check_iff (c:Con):c.check=0↔c.dep≤8∧c.sz≤64∧c.fine:=by
 unfold check fine;have h:=tE_ _ c (Nat.le_refl _) 0 0
 by_cases d:(c.fits 0 0).1=true
 ·rw[if_pos d]
  have:=h.1 d;constructor
  ·intro e;exact⟨by omega,by omega,e⟩
  exact fun e=>e.2.2
 rw[if_neg d];constructor
 ·intro e;cases e
 intro e;exact absurd (h.2 ⟨by omega,by omega⟩) d
theorem check_part {c p:Con} (h:c.check=0) (d:p∈c.parts):p.check=0:=by
  rw[check_iff]at h ⊢;have e:=rR_ d;rw[← rS_]at e;have m:=sz_part d;exact⟨by omega,by omega,fine_part h.2.2 d⟩
structure Names (c:Con):Prop where
  plain:c.kind=3∨c.kind=6∨c.kind=7→bk_ c.name=true
  person:c.kind=4→aN_ c.name=true
  nums:c.kind=7→-1099511627776≤c.lo∧c.lo≤c.hi∧c.hi≤1099511627776
theorem names_of {c:Con} (h:c.fine):Names c:=by
 have F:=fields h;have d:=((ll_ c).1 h).1;unfold fieldErr at d;rw[if_neg (by have:=F.k1;have:=F.k7;omega)]at d
 split at d
 ·cases d
 split at d
 ·cases d
 rename_i v
 split at d
 ·cases d
 split at d
 ·rename_i m
  refine⟨fun e=>?_,fun e=>?_,fun e=>?_⟩
  ·rcases e with e|e|e<;>rw[e]at m<;>simpa [nd,dF_] using m
  ·rw[e]at m
   simp[nd,dF_]at m
   simp[aN_,m]
  rw[e]at v;simp[nd,dF_]at v
  omega
 cases d
theorem oU_ (x y:Str) (r:List Str) (d:Str):Lib.join (x::y::r) d=x++d++Lib.join (y::r) d:=by simp[Lib.join,List.intercalate]
theorem Bg_ {c:Con} (h:c.fine) (e:5≤c.kind):c.text≠[]:=by
 have F:=fields h;have m:=F.k7;rw[text_eq,if_neg zaa_,if_neg zaa_,if_neg zaa_,if_neg zaa_]
 split
 ·rename_i d
  have hl:=F.le;rw[d]at hl;simp[nd,dF_]at hl
  match hp:c.parts,hl with
  | [],hl=>simp at hl
  | [_],hl=>simp at hl
  | p::q::r,_=>simp only[List.map_cons,oU_];simp
 split
 ·simp only[oU_];simp
 simp only[oU_];simp
theorem atom_ok {c:Con} (h:c.check=0):bj_ c.atom=true:=by
 have d:=(check_zero h).1;have F:=fields d;have N:=names_of d;have e:=F.k1;have m:=F.k7;unfold atom
 split
 ·rfl
 split
 ·rfl
 split
 ·exact py_ (N.plain zaa_)
 split
 ·exact jo_ (N.person zaa_)
 unfold textN;rw[if_pos h];exact vz_ (Bg_ d zaa_)
theorem atom_len {c:Con} (d:c.ok) (h:c.check=0):c.atom.length≤7000:=by
  have F:=fields (check_zero h).1;have e:=F.nm;have m:=textN_len d;unfold atom
  repeat' split
  all_goals simp<;>omega
theorem xm_ {c:Con} (h:c.check=0) (y:c.kind=5) {j:Nat} (G:2≤j) (H:j≤c.parts.length):(c.pre j).check=0:=by
 have x:=(check_zero h).1;have F:=fields x;have e:=F.mo;rw[y]at e;simp[nd,dF_]at e
 rw[check_iff]at h ⊢
 have m:∀ (ps:List Con) (j:Nat),sz.szs (ps.take j)≤sz.szs ps∧dep.deps (ps.take j)≤dep.deps ps:=by
   intro ps
   induction ps with
   | nil=>intro j;simp
   | cons p ps ih =>
     intro j;cases j with
     | zero=>simp[sz.szs,dep.deps]
     | succ j=>have:=ih j;simp only[List.take_succ_cons,sz.szs,dep.deps];omega
 have E:=m c.parts j;have B:=rS_ c;have C:=sz_eq c;refine⟨?_,?_,?_⟩
 ·rw[rS_];show dep.deps (c.parts.take j)≤8;omega
 ·rw[sz_eq];show 1+sz.szs (c.parts.take j)≤64;omega
 rw[ll_];refine⟨?_,fun p A=>fine_part x (List.mem_of_mem_take A)⟩;unfold fieldErr;have d:(c.pre j).parts.length=j:=by show (c.parts.take j).length=j;simp;omega
 rw[if_neg (by show ¬ ((5:Int)<1∨7<(5:Int));omega)];simp only[d];have v:(c.pre j).kind=5:=rfl;rw[v];simp[nd,dF_,pre,name,lo,hi]
 omega
end Con
structure PQ (f:Int) (q:Pc):Prop where
  frm:q.frm=f
  sm:q.sm
  ok:q.valid=true
section
variable {f:Int} (h0:-1≤f) (h1:f<1024) {a b c r s t:Str} {lo hi:Int}
include h0 h1
theorem yF_ (d:bj_ a=true) (e:bj_ c=true):Pc.valid ⟨1,a,[],c,[],[],[],0,0,f⟩=true:=by
  unfold Pc.valid;rw[if_neg zap_];simp[nus,gF_,bU_,d,e]
theorem val2 (d:bj_ a=true) (e:bj_ b=true) (h:bj_ c=true):Pc.valid ⟨2,a,b,c,[],[],[],0,0,f⟩=true:=by
  unfold Pc.valid;rw[if_neg zap_];simp[nus,gF_,bU_,d,e,h]
theorem val3 (d:bj_ a=true) (e:cx_ r=true) (h:bj_ c=true):Pc.valid ⟨3,a,[],c,r,[],[],0,0,f⟩=true:=by
  unfold Pc.valid;rw[if_neg zap_];simp[nus,gF_,bU_,d,e,h]
theorem val4 (d:bj_ a=true) (e:cx_ r=true) (h:bj_ c=true):Pc.valid ⟨4,a,[],c,r,[],[],0,0,f⟩=true:=by
  unfold Pc.valid;rw[if_neg zap_];simp[nus,gF_,bU_,d,e,h]
theorem val5 (e:cx_ r=true) (d:cx_ t=true):Pc.valid ⟨5,[],[],[],r,[],t,0,0,f⟩=true:=by
  unfold Pc.valid;rw[if_neg zap_];simp[nus,gF_,bU_,e,d]
theorem val6 (e:cx_ r=true) (h:cx_ s=true) (d:cx_ t=true):Pc.valid ⟨6,[],[],[],r,s,t,0,0,f⟩=true:=by
  unfold Pc.valid;rw[if_neg zap_];simp[nus,gF_,bU_,e,h,d]
theorem val7 (d:cx_ r=true):Pc.valid ⟨7,[],[],[],r,[],[],0,0,f⟩=true:=by
  unfold Pc.valid;rw[if_neg zap_];simp[nus,gF_,bU_,d]
theorem val8 (d:bj_ a=true) (e:aN_ r=true) (h:-1099511627776≤lo∧lo≤hi∧hi≤1099511627776):Pc.valid ⟨8,a,[],[],r,[],[],lo,hi,f⟩=true:=by
  unfold Pc.valid;rw[if_neg zap_,if_neg (by simp[nus,gF_];omega)];simp[nus,gF_,bU_,d,e]
theorem val9 (e:bj_ c=true) (d:aN_ r=true) (h:-1099511627776≤lo∧lo≤hi∧hi≤1099511627776):Pc.valid ⟨9,[],[],c,r,[],[],lo,hi,f⟩=true:=by
  unfold Pc.valid;rw[if_neg zap_,if_neg (by simp[nus,gF_];omega)];simp[nus,gF_,bU_,e,d]
end
theorem bC_ {Q:Pc→Prop} {f:Int} {l:List Pc} {p:Pc} (hl:∀ q∈l,Q q) (e:Q { p with frm:=f }):∀ q∈ins f l p,Q q:=by
 unfold ins
 split
 ·exact hl
 intro q d;rcases List.mem_append.1 d with d|d
 ·exact hl q d
 simp only[List.mem_singleton]at d;subst d;exact e
theorem dj_ {s:Str} (h:bk_ s=true):s.length≤24:=Con.plain_len h
theorem gn_ {s:Str} (h:aN_ s=true):s.length≤24:=by
 simp only[aN_,Bool.or_eq_true]at h;rcases h with h|h
 ·exact Con.plain_len h
 exact Con.reserved_len h
namespace Con
section
variable {f:Int} (h0:-1≤f) (h1:f<1024)
include h0 h1
theorem ue_ (c:Con) (e:c.ok) (h:c.check=0) (v:c.kind=5):∀ (r:List Con) (j:Nat) (a:Str) (l:List Pc),1≤j→j+r.length≤c.parts.length→(∀ p∈r,p∈c.parts)→bj_ a=true→a.length≤7000→(∀ q∈l,PQ f q)→∀ q∈andP f c r j a l,PQ f q
  | [],_,_,l,_,_,_,_,_,hl=>hl
  | p::r,j,a,l,hj,hlen,hm,ha,hal,hl=>by
    simp only[List.length_cons]at hlen;have m:=hm p zaf_;have d:=xm_ h v (j:=j+1) zaa_ zaa_;have x:=atom_ok d;have y:=atom_len (pre_ok e (j+1)) d;have B:=atom_ok (check_part h m);have C:=atom_len (ok_part e m) (check_part h m);simp only[andP]
    exact ue_ c e h v r (j+1) _ _ zaa_ zaa_ (fun q A=>hm q (by simp[A])) x y
      (bC_ hl ⟨rfl,⟨by dsimp only;omega,by dsimp only;omega,by dsimp only;omega,by simp,by simp,by simp⟩,val2 h0 h1 ha B x⟩)
theorem leftP_all:∀ (m:Nat) (c:Con),c.sz≤m→c.ok→c.check=0→∀ l,(∀ q∈l,PQ f q)→∀ q∈c.leftP f l,PQ f q
 | 0,c,h=>by have:=c.sz_pos;omega
 | m+1,c,h=>fun x y l hl=>by
   have C:∀ ps:List Con,(∀ p∈ps,p∈c.parts)→∀ l,(∀ q∈l,PQ f q)→∀ q∈leftP.lefts f ps l,PQ f q:=by
     intro ps
     induction ps with
     | nil=>intro _ l hl;exact hl
     | cons p ps ih =>
       intro A l hl;have e:=A p zaf_;exact ih (fun q E=>A q zbY_) _ (leftP_all m p (by have:=sz_part e;omega) (ok_part x e) (check_part y e) l hl)
   have B:=C c.parts (fun _ h=>h) l hl;have F:=fields (check_zero y).1;have N:=names_of (check_zero y).1;have ca:=atom_ok y;have cl:=atom_len x y;rw[leftP_eq]
   split
   · rename_i I
     have d:=F.le;rw[I]at d;simp[nd,dF_]at d
     match A:c.parts,d with
     | [],d=>simp at d
     | p::r,_ =>
       have e:p∈c.parts:=by rw[A];simp
       have G:=atom_ok (check_part y e);have J:=atom_len (ok_part x e) (check_part y e);refine ue_ h0 h1 c x y I _ 1 _ _ zaa_ (by rw[A];simp;omega) (fun q E=>by rw[A];exact List.mem_of_mem_drop E) zbN_ (by simpa using J) (by rw[A]at B;exact B)
   · split
     · rename_i H
       have d:=F.le;rw[H]at d;simp[nd,dF_]at d
       have v:=N.plain (.inr (.inl H))
       match A:c.parts,d with
       | [],d=>simp at d
       | p::r,_ =>
         have e:p∈c.parts:=by rw[A];simp
         have G:=atom_ok (check_part y e);have J:=atom_len (ok_part x e) (check_part y e);have L:=dj_ v;rw[A]at B;exact bC_ B ⟨rfl,⟨by simp;omega,by simp,by dsimp only;omega,by dsimp only;omega,by simp,by simp⟩,val4 h0 h1 zbN_ (dq_ v) ca⟩
     · split
       · rename_i K
         have v:=N.plain (.inr (.inr K));have L:=dj_ v;exact bC_ hl ⟨rfl,⟨by simp,by simp,by dsimp only;omega,by dsimp only;omega,by simp,by simp⟩,val9 h0 h1 ca (db_ v) (N.nums K)⟩
       · exact hl
theorem rightP_all:∀ (m:Nat) (c:Con),c.sz≤m→c.ok→c.check=0→∀ l,(∀ q∈l,PQ f q)→∀ q∈c.rightP f l,PQ f q
 | 0,c,h=>by have:=c.sz_pos;omega
 | m+1,c,h=>fun x y l hl=>by
   have ca:=atom_ok y;have cl:=atom_len x y
   have C:∀ ps:List Con,(∀ p∈ps,p∈c.parts)→∀ l,(∀ q∈l,PQ f q)→∀ q∈rightP.rights f c.atom ps l,PQ f q:=by
     intro ps
     induction ps with
     | nil=>intro _ l hl;exact hl
     | cons p ps ih =>
       intro A l hl;have d:=A p zaf_;have G:=atom_ok (check_part y d);have J:=atom_len (ok_part x d) (check_part y d)
       exact ih (fun q E=>A q zbY_) _ (rightP_all m p zaU_ (ok_part x d) (check_part y d) _
         (bC_ hl ⟨rfl,⟨by dsimp only;omega,by simp,by dsimp only;omega,by simp,by simp,by simp⟩,yF_ h0 h1 ca G⟩))
   have B:∀ ps:List Con,(∀ p∈ps,p∈c.parts)→∀ l,(∀ q∈l,PQ f q)→∀ q∈rightP.righty f ps l,PQ f q:=by
     intro ps
     induction ps with
     | nil=>intro _ l hl;exact hl
     | cons p ps ih =>
       intro A l hl;have d:=A p zaf_;exact ih (fun q E=>A q zbY_) _ (rightP_all m p zaU_ (ok_part x d) (check_part y d) l hl)
   have F:=fields (check_zero y).1;have N:=names_of (check_zero y).1;rw[rightP_eq]
   split
   · exact C c.parts (fun _ h=>h) l hl
   · split
     · rename_i H
       have e:=F.le;rw[H]at e;simp[nd,dF_]at e
       have v:=N.plain (.inr (.inl H));have K:=dj_ v;refine B c.parts (fun _ h=>h) _ (bC_ hl ?_)
       match A:c.parts,e with
       | [],e=>simp at e
       | p::r,_ =>
         have d:p∈c.parts:=by rw[A];simp
         have G:=atom_ok (check_part y d);have J:=atom_len (ok_part x d) (check_part y d);exact⟨rfl,⟨by dsimp only;omega,by simp,by simp;omega,by dsimp only;omega,by simp,by simp⟩,val3 h0 h1 ca (dq_ v) zbN_⟩
     · split
       · rename_i I
         have v:=N.plain (.inr (.inr I));have K:=dj_ v;exact bC_ hl ⟨rfl,⟨by dsimp only;omega,by simp,by simp,by dsimp only;omega,by simp,by simp⟩,val8 h0 h1 ca (db_ v) (N.nums I)⟩
       · exact hl
end
end Con
namespace Ax
section
variable {f:Int} (h0:-1≤f) (h1:f<1024)
include h0 h1
theorem ps_ (role:Str) (E:bk_ role=true):∀ (rs:List Str) (g:Str) (l:List Pc),(∀ r∈rs,bk_ r=true)→(bp_ 46 g).length+rs.length≤4→((bp_ 46 g).all aN_=true)→g.length≤100*(bp_ 46 g).length→(∀ q∈l,PQ f q)→∀ q∈chainP f role rs g l,PQ f q
 | [],_,_,_,_,_,_,hl=>hl
 | r::t,g,l,hp,hn,hg,hgl,hl=>by
   have d:=hp r zaf_;have I:=dj_ d;have F:=dj_ E;simp only[List.length_cons]at hn
   have v:cx_ g=true:=by
     unfold cx_;rw[decide_eq_true zaa_];simp only[Bool.true_and,Bool.not_eq_true'];rw[List.any_eq_false];intro y B;simp[List.all_eq_true.1 hg y B]
   simp only[chainP]
   by_cases C:t=[]
   · subst C
     simp only[if_true,chainP];exact bC_ hl ⟨rfl,⟨by simp,by simp,by simp,by dsimp only;omega,by dsimp only;omega,by dsimp only;omega⟩,val6 h0 h1 v (dq_ d) (dq_ E)⟩
   · simp only[C,if_false]
     have H:0<t.length:=List.length_pos_iff.2 C;have e:=ot_ 46 g r;rw[iY_ d]at e;have h:(bp_ 46 (g++[46]++r)).all aN_=true:=by rw[e,List.all_append,hg];simp[db_ d]
     have m:(bp_ 46 (g++[46]++r)).length=(bp_ 46 g).length+1:=by rw[e];simp
     have A:(g++[46]++r).length≤100*(bp_ 46 (g++[46]++r)).length:=by rw[m];simp;omega
     have x:cx_ (g++[46]++r)=true:=by
       unfold cx_;rw[decide_eq_true zaa_];simp only[Bool.true_and,Bool.not_eq_true'];rw[List.any_eq_false];intro y B;simp[List.all_eq_true.1 h y B]
     exact ps_ role E t _ _ (fun q G=>hp q (by simp[G])) zaa_ h A
       (bC_ hl ⟨rfl,⟨by simp,by simp,by simp,by dsimp only;omega,by dsimp only;omega,by dsimp only;omega⟩,val6 h0 h1 v (dq_ d) x⟩)
theorem pieces_all {x:Ax} (d:x.ok) (v:x.check=0):∀ q∈x.pieces f,PQ f q:=by
 have G:=good_of v;have L:=fun (c:Con) (d:c.ok) (v:c.check=0)=>Con.leftP_all h0 h1 _ c (Nat.le_refl _) d v
 have C:=fun (c:Con) (d:c.ok) (v:c.check=0)=>Con.rightP_all h0 h1 _ c (Nat.le_refl _) d v
 have n:∀ q∈([]:List Pc),PQ f q:=fun q E=>by cases E
 have M:=G.k1;have O:=G.k9;have A:=fun (c:Con) (d:c.ok) (v:c.check=0)=>(⟨Con.atom_ok v,Con.atom_len d v⟩:bj_ c.atom=true∧c.atom.length≤7000)
 unfold pieces
 split
 ·have l:=G.left zaa_;have r:=G.right zaa_
  have y:=A _ d.left l;have m:=A _ d.right r;exact bC_ (C _ d.right r _ (L _ d.left l _ n)) ⟨rfl,⟨by dsimp only;omega,by simp,by dsimp only;omega,by simp,by simp,by simp⟩,yF_ h0 h1 y.1 m.1⟩
 split
 ·have l:=G.left zaa_;have r:=G.right zaa_
  have y:=A _ d.left l;have m:=A _ d.right r;exact bC_ (C _ d.left l _ (L _ d.right r _ (bC_ (C _ d.right r _ (L _ d.left l _ n)) ⟨rfl,⟨by dsimp only;omega,by simp,by dsimp only;omega,by simp,by simp,by simp⟩,yF_ h0 h1 y.1 m.1⟩))) ⟨rfl,⟨by dsimp only;omega,by simp,by dsimp only;omega,by simp,by simp,by simp⟩,yF_ h0 h1 m.1 y.1⟩
 split
 ·have l:=G.left zaa_;have r:=G.right zaa_
  have y:=A _ d.left l;have m:=A _ d.right r;exact bC_ (L _ d.right r _ (L _ d.left l _ n)) ⟨rfl,⟨by dsimp only;omega,by dsimp only;omega,by simp,by simp,by simp,by simp⟩,val2 h0 h1 y.1 m.1 rfl⟩
 split
 ·have r:=G.right zaa_;have m:=A _ d.right r;have p:=G.role zaa_;have pl:=dj_ p
  exact bC_ (C _ d.right r _ n) ⟨rfl,⟨by simp,by simp,by dsimp only;omega,by dsimp only;omega,by simp,by simp⟩,val4 h0 h1 rfl (dq_ p) m.1⟩
 split
 ·rename_i K
  have p:=G.role zaa_;have pl:=dj_ p;have I:=G.one K
  match hr:x.roles,I with
  | [r],_ =>
    have B:=G.roles r (by rw[hr];simp);have F:=dj_ B;exact bC_ n ⟨rfl,⟨by simp,by simp,by simp,by simp;omega,by simp,by dsimp only;omega⟩,val5 h0 h1 (by simpa using dq_ B) (dq_ p)⟩
 split
 ·rename_i J
  have p:=G.role zaa_;have h:=G.chain J
  match hr:x.roles,h with
  | [],h=>simp at h
  | r::t,h =>
    have B:=G.roles r (by rw[hr];simp);have F:=dj_ B;have e:=iY_ B;simp only[List.length_cons]at h;simp only[List.drop_succ_cons,List.drop_zero,List.headD_cons];exact ps_ h0 h1 x.role p t r [] (fun q E=>G.roles q (by rw[hr];simp[E])) (by rw[e];simp;omega) (by rw[e];simp[db_ B]) (by rw[e];simp;omega) n
 split
 ·have p:=G.role zaa_;have pl:=dj_ p
  exact bC_ n ⟨rfl,⟨by simp,by simp,by simp,by dsimp only;omega,by simp,by simp⟩,val7 h0 h1 (dq_ p)⟩
 split
 ·have r:=G.right zaa_;have m:=A _ d.right r;have p:=G.a zaa_;have pl:=gn_ p
  exact bC_ (C _ d.right r _ n) ⟨rfl,⟨by simp;omega,by simp,by dsimp only;omega,by simp,by simp,by simp⟩,yF_ h0 h1 (jo_ p) m.1⟩
 have p:=G.role zaa_;have pl:=dj_ p;have H:=G.a zaa_;have pb:=G.b zaa_;have N:=gn_ H;have P:=gn_ pb;exact bC_ n ⟨rfl,⟨by simp;omega,by simp,by simp;omega,by dsimp only;omega,by simp,by simp⟩,val3 h0 h1 (jo_ H) (dq_ p) (jo_ pb)⟩
end
end Ax
def shift (k:Int) (p:Pc):Pc:={ p with frm:=p.frm+k }
theorem wX_ {k:Int} {p q:Pc} (h:shift k p=shift k q):p=q:=by
  cases p;cases q;simp only[shift,Pc.mk.injEq]at h ⊢;refine⟨h.1,h.2.1,h.2.2.1,h.2.2.2.1,h.2.2.2.2.1,h.2.2.2.2.2.1,h.2.2.2.2.2.2.1,h.2.2.2.2.2.2.2.1,h.2.2.2.2.2.2.2.2.1,by omega⟩
theorem cs_ (f k:Int) (l:List Pc) (p:Pc):ins (f+k) (l.map (shift k)) p=(ins f l p).map (shift k):=by
 have hm:({ p with frm:=f+k }:Pc)∈l.map (shift k)↔({ p with frm:=f }:Pc)∈l:=by
   rw[List.mem_map];constructor
   · rintro ⟨q,d,e⟩
     have:q={ p with frm:=f }:=wX_ (k:=k) e;exact this▸d
   · exact fun h=>⟨_,h,rfl⟩
 unfold ins
 by_cases h:({ p with frm:=f }:Pc)∈l
 ·rw[if_pos (hm.2 h),if_pos h]
 rw[if_neg (fun q=>h (hm.1 q)),if_neg h,List.map_append];rfl
namespace Con
theorem pC_ (f k:Int) (c:Con):∀ (r:List Con) (j:Nat) (a:Str) (l:List Pc),andP (f+k) c r j a (l.map (shift k))=(andP f c r j a l).map (shift k)
  | [],_,_,_=>rfl
  | p::r,j,a,l=>by simp only[andP,cs_];exact pC_ f k c r (j+1) _ _
theorem leftP_shift (f k:Int):∀ (m:Nat) (c:Con),c.sz≤m→∀ l,c.leftP (f+k) (l.map (shift k))=(c.leftP f l).map (shift k)
 | 0,c,h=>by have:=c.sz_pos;omega
 | m+1,c,h=>fun l=>by
   have e:∀ ps:List Con,(∀ p∈ps,p.sz≤m)→∀ l,leftP.lefts (f+k) ps (l.map (shift k))=(leftP.lefts f ps l).map (shift k):=by
     intro ps
     induction ps with
     | nil=>intro _ l;rfl
     | cons p ps ih =>
       intro d l;simp only[leftP.lefts];rw[leftP_shift f k m p (d p zaf_) l];exact ih (fun q x=>d q zbL_) _
   have v:=e c.parts (fun p d=>by have:=sz_part d;omega) l;rw[leftP_eq,leftP_eq,v]
   split
   · exact pC_ _ _ _ _ _ _ _
   · split
     · exact cs_ _ _ _ _
     · split
       · exact cs_ _ _ _ _
       · rfl
theorem rightP_shift (f k:Int):∀ (m:Nat) (c:Con),c.sz≤m→∀ l,c.rightP (f+k) (l.map (shift k))=(c.rightP f l).map (shift k)
 | 0,c,h=>by have:=c.sz_pos;omega
 | m+1,c,h=>fun l=>by
   have x:∀ ps:List Con,(∀ p∈ps,p.sz≤m)→∀ a l,rightP.rights (f+k) a ps (l.map (shift k))=(rightP.rights f a ps l).map (shift k):=by
     intro ps
     induction ps with
     | nil=>intro _ a l;rfl
     | cons p ps ih =>
       intro d a l;simp only[rightP.rights];rw[cs_,rightP_shift f k m p (d p zaf_)];exact ih (fun q y=>d q zbD_) _ _
   have v:∀ ps:List Con,(∀ p∈ps,p.sz≤m)→∀ l,rightP.righty (f+k) ps (l.map (shift k))=(rightP.righty f ps l).map (shift k):=by
     intro ps
     induction ps with
     | nil=>intro _ l;rfl
     | cons p ps ih =>
       intro d l;simp only[rightP.righty];rw[rightP_shift f k m p (d p zaf_)];exact ih (fun q y=>d q zbD_) _
   have e:∀ p∈c.parts,p.sz≤m:=fun p d=>by have:=sz_part d;omega
   rw[rightP_eq,rightP_eq]
   split
   · exact x c.parts e _ l
   · split
     · rw[cs_];exact v c.parts e _
     · split
       · exact cs_ _ _ _ _
       · rfl
end Con
theorem Ax.chainP_shift (f k:Int) (ro:Str):∀ (rs:List Str) (g:Str) (l:List Pc),Ax.chainP (f+k) ro rs g (l.map (shift k))=(Ax.chainP f ro rs g l).map (shift k)
  | [],_,_=>rfl
  | r::t,g,l=>by simp only[Ax.chainP,cs_];exact Ax.chainP_shift f k ro t _ _
theorem Ax.pieces_shift (f k:Int) (x:Ax):x.pieces (f+k)=(x.pieces f).map (shift k):=by
 have L:=fun (c:Con) l=>Con.leftP_shift f k _ c (Nat.le_refl _) l
 have d:=fun (c:Con) l=>Con.rightP_shift f k _ c (Nat.le_refl _) l
 have n:([]:List Pc)=([]:List Pc).map (shift k):=rfl;unfold Ax.pieces
 repeat' split
 ·rw[n,L,d,cs_];rfl
 ·rw[n,L,d,cs_,L,d,cs_];rfl
 ·rw[n,L,L,cs_];rfl
 ·rw[n,d,cs_];rfl
 ·rw[n,cs_];rfl
 ·rw[n,Ax.chainP_shift];rfl
 ·rw[n,cs_];rfl
 ·rw[n,d,cs_];rfl
 rw[n,cs_];rfl
def bo_:Nat→List Ax→List Pc
  | _,[]=>[]
  | i,x::l=>x.pieces (i:Int)++bo_ (i+1) l
theorem pg_:∀ (i:Nat) (l:List Ax),(∀ x∈l,x.check=0)→(bo_ i l).length≤1000*l.length
  | _,[],_=>by simp[bo_]
  | i,x::l,h=>by
    have h1:=kv_ (i:Int) (Ax.good_of (h x zaf_));have e:=pg_ (i+1) l fun y d=>h y zaT_
    simp only[bo_,List.length_append,List.length_cons];omega
theorem qH_:∀ (l:List Ax) (i:Nat) (p:List Pc),(∀ x∈l,x.check=0)→p.length+1000*l.length≤16384→fD_ i l p=some (p++bo_ i l)
  | [],i,p,_,_=>by simp[fD_,bo_]
  | x::l,i,p,h,hl=>by
    have h1:=kv_ (i:Int) (Ax.good_of (h x zaf_));simp only[List.length_cons]at hl;simp only[fD_,bo_];rw[if_neg zap_,qH_ l (i+1) _ (fun y d=>h y zaT_) zap_,List.append_assoc]
theorem ph_:∀ (l:List Ax) (i:Nat),i+l.length≤1024→(∀ x∈l,x.ok)→(∀ x∈l,x.check=0)→∀ q∈bo_ i l,(i:Int)≤q.frm∧q.frm<((i+l.length:Nat):Int)∧q.sm∧q.valid=true
 | [],_,_,_,_=>by simp[bo_]
 | x::l,i,hi,hok,hc=>by
   simp only[List.length_cons]at hi ⊢;intro q d;simp only[bo_]at d;rcases List.mem_append.1 d with d|d
   · have h:=Ax.pieces_all (f:=(i:Int)) zaa_ zaa_ (hok x zaf_) (hc x zaf_) q d
     exact⟨by rw[h.frm];omega,by rw[h.frm];omega,h.sm,h.ok⟩
   · have h:=ph_ l (i+1) zaa_ (fun y e=>hok y zbZ_) (fun y e=>hc y zbZ_) q d
     exact⟨by omega,by omega,h.2.2⟩
theorem oC_ {l:List Ax} (hl:l.length≤12) (h:∀ x∈l,x.check=0):aL_ l=(bo_ 0 l,0):=by
  unfold aL_;rw[if_neg zaa_,if_neg (by simp[fH_ h]),qH_ l 0 [] h zap_];simp
end Go.Vs
namespace Go.Vs
open Go Go.Sx
section
variable {f:Int} {R:List Pc→List Pc→Prop} (hr:∀ l,R l l) (ht:∀ {a b c},R a b→R b c→R a c) (hi:∀ l p,R l (ins f l p))
include hr ht hi
theorem uc_ (c:Con):∀ (r:List Con) (j:Nat) (a:Str) (l:List Pc),R l (c.andP f r j a l)
  | [],_,_,l=>hr l
  | p::r,j,a,l=>ht (hi l _) (uc_ c r (j+1) _ _)
theorem qA_:∀ (m:Nat) (c:Con),c.sz≤m→∀ l,R l (c.leftP f l)
 | 0,c,h=>by have:=c.sz_pos;omega
 | m+1,c,h=>fun l=>by
   have e:∀ ps:List Con,(∀ p∈ps,p.sz≤m)→∀ l,R l (Con.leftP.lefts f ps l):=by
     intro ps
     induction ps with
     | nil=>intro _ l;exact hr l
     | cons p ps ih=>intro d l;exact ht (qA_ m p (d p zaf_) l) (ih (fun q x=>d q zbL_) _)
   have v:=e c.parts (fun p d=>by have:=Con.sz_part d;omega) l;rw[Con.leftP_eq]
   split
   · exact ht v (uc_ hr ht hi c _ _ _ _)
   · split
     · exact ht v (hi _ _)
     · split
       · exact hi _ _
       · exact hr l
theorem kr_:∀ (m:Nat) (c:Con),c.sz≤m→∀ l,R l (c.rightP f l)
 | 0,c,h=>by have:=c.sz_pos;omega
 | m+1,c,h=>fun l=>by
   have x:∀ ps:List Con,(∀ p∈ps,p.sz≤m)→∀ a l,R l (Con.rightP.rights f a ps l):=by
     intro ps
     induction ps with
     | nil=>intro _ a l;exact hr l
     | cons p ps ih=>intro d a l;exact ht (hi _ _) (ht (kr_ m p (d p zaf_) _) (ih (fun q y=>d q zbD_) _ _))
   have v:∀ ps:List Con,(∀ p∈ps,p.sz≤m)→∀ l,R l (Con.rightP.righty f ps l):=by
     intro ps
     induction ps with
     | nil=>intro _ l;exact hr l
     | cons p ps ih=>intro d l;exact ht (kr_ m p (d p zaf_) l) (ih (fun q y=>d q zbD_) _)
   have e:∀ p∈c.parts,p.sz≤m:=fun p d=>by have:=Con.sz_part d;omega
   rw[Con.rightP_eq]
   split
   · exact x c.parts e _ l
   · split
     · exact ht (hi _ _) (v c.parts e _)
     · split
       · exact hi _ _
       · exact hr l
end
structure Gr (a b:List Pc):Prop where
  nodup:a.Nodup→b.Nodup
  sub:∀ q∈a,q∈b
theorem Gr.trans {a b c:List Pc} (h:Gr a b) (k:Gr b c):Gr a c:=⟨fun q=>k.nodup (h.nodup q),fun q d=>k.sub q (h.sub q d)⟩
def wgt (c:Con):Nat:=if c.kind=0 then 0 else c.sz
end Go.Vs
namespace Go.Sx
open Go
section
variable {P:Program} {N:Nf} {fr:Fr} {H:Hp} {Γ:List Fct}
theorem pu_:∀ (x y:List UInt8),Op.bytesLess x y=decide (x<y)
  | [],[]=>by simp[Op.bytesLess]
  | _::_,[]=>by simp[Op.bytesLess]
  | [],_::_=>by simp[Op.bytesLess]
  | a::x,b::y=>by
    rw[Op.bytesLess,pu_ x y];simp only[List.cons_lt_cons_iff]
    by_cases d:a<b<;>by_cases e:a=b<;>by_cases h:x<y<;>simp[d,e,h]
theorem CA_ (x y:List UInt8):(Op.bytesLess x y||x==y)=decide (x≤y):=by
 rw[pu_]
 by_cases h:x≤y
 ·rw[decide_eq_true h]
  by_cases e:x=y
  ·simp[e]
  have:x<y:=by
    apply Decidable.byContradiction
    intro d;exact e (List.le_antisymm h (List.not_lt.1 d))
  simp[this]
 rw[decide_eq_false h];have m:¬ x<y:=fun q=>h (List.le_of_lt q)
 have d:x≠y:=fun e=>h (e▸List.le_refl x)
 simp[m,d]
theorem gv_ {t A ty:TypeId} {x y:Operand} {m n:List UInt8} (h:Fr.ev fr x=some (str m)) (e:Fr.ev fr y=some (str n)):Yld P N fr H Γ (.binOp .lss t x y A) ty (.bool (decide (m<n))) :=
  fun a v d _ _ _ _ _=>by rw[← pu_];simp[execOp,d.ev h,d.ev e,str,eqGuard,binOp,Op.stringOp]
theorem og_ {f:FuncId} {args:Array Value} {r:Value} {g:Nat} {cur:Array Value} {T:TypeId} {d:Array (List UInt8)} (I:fj_ P f)
    (h:∀ v:Vw,v.sat [(g,.cells cur T (0,0))]→Calls P f args v.w fun e w'=>e=.returned r∧∃ n os,w'=Sort.grow (Sort.putRow Go.Proofs.encStr (Sort.ahead v.w n) g 0 d) os) :
    Tri P f args [(g,.cells cur T (0,0))] Γ (fun _:Unit=>r) (fun _=>[(g,.cells (Sort.putCells Go.Proofs.encStr 0 d cur) T (0,0))]) (fun _=>[]) :=
  ⟨I,fun v B _=>(h v B).mono fun e w' ⟨J,n,os,x⟩=>by
    have E:=(B.own _ List.mem_cons_self);have F:g<v.w.heap.size:=(Array.getElem?_eq_some_iff.1 E.1).1
    have A:∀ b,b<v.w.heap.size→w'.heap[b]? = if b=g then some (.cells (Sort.putCells Go.Proofs.encStr 0 d cur) T (0,0)) else v.w.heap[b]? := fun b A=>by
      rw[x];simp only[Sort.grow,Sort.putRow,Sort.mapBlock,Sort.ahead];rw[Array.getElem?_append_left zaS_,Array.getElem?_modify]
      by_cases e:b=g
      · subst e
        simp only[if_true,E.1,Option.map_some,Sort.onCells]
      · rw[if_neg (fun q=>e q.symm),if_neg e]
    have y:v.w.heap.size≤w'.heap.size:=by rw[x];simp[Sort.grow,Sort.putRow,Sort.mapBlock,Sort.ahead]
    refine⟨(),⟨v.im,w',v.sl⟩,J,rfl,⟨fun p G=>?_,by simp,fun b m=>Nat.lt_of_lt_of_le (B.lt b m) y⟩,trivial,⟨by rw[x];rfl,by rw[x];rfl,by rw[x];rfl,y,fun b m K=>?_,fun _ h=>h,fun _ h=>.inl h,fun b hm=>.inl (by simpa using hm),rfl,.inr zbA_⟩⟩
    · simp only[List.mem_singleton]at G
      subst G;exact⟨by show w'.heap[g]? = _;rw[A g F,if_pos rfl],E.2⟩
    · have C:b≠g:=by simpa using K
      show w'.heap[b]? = _
      rw[A b m,if_neg C]⟩
theorem sQ_ {cur:Array Value} {d:List (List UInt8)} (h:d.length≤cur.size):(Sort.putCells Go.Proofs.encStr 0 d.toArray cur).toList.take d.length=d.flatMap au_:=by
 rw[oo_]
 apply List.ext_getElem?
 intro j;rw[List.getElem?_take,List.getElem?_map]
 split
 ·rename_i e
  simp only[Sort.putCells,Array.getElem?_toList,Array.getElem?_mapIdx];rw[Array.getElem?_eq_getElem zaa_];simp only[Option.map_some,Nat.zero_le,true_and,Nat.zero_add,List.size_toArray,e,if_true,Nat.sub_zero];rw[List.getElem?_eq_getElem e];simp only[Option.map_some];rw[getElem!_pos d.toArray j zbc_];rfl
 rename_i e
 rw[List.getElem?_eq_none zaa_];rfl
theorem sR_ {cur:Array Value} {d:Array (List UInt8)}:(Sort.putCells Go.Proofs.encStr 0 d cur).size=cur.size:=by simp[Sort.putCells]
end
end Go.Sx
namespace Go.Vs
open Go Go.Sx
def jn_ (p:Pc):List Str:=[p.a,p.b,p.c].filter fun s=>!(s==[])
def cG_ (l:List Pc):List Str:=l.flatMap jn_
def dC_ (l:List Pc):List Str:=Lib.compact ((cG_ l).mergeSort fun x y=>decide (x≤y))
theorem kE_:∀ l:List Pc,(cG_ l).length≤3*l.length
  | []=>by simp[cG_]
  | p::r=>by
    have d:=kE_ r;have e:(jn_ p).length≤3:=by unfold jn_;exact List.length_filter_le _ _
    simp only[cG_,List.flatMap_cons,List.length_append,List.length_cons]at d ⊢;omega
theorem kT_ (l:List Str):(l.mergeSort fun x y=>decide (x≤y)).Pairwise fun x y=>x≤y:=by
  have h:=List.pairwise_mergeSort (le:=fun x y:Str=>decide (x≤y)) (fun a b c d e=>by simp only[decide_eq_true_eq]at *;exact List.le_trans d e) (fun a b=>by
    simp only[Bool.or_eq_true,decide_eq_true_eq];exact List.le_total a b) l
  exact h.imp (fun h=>of_decide_eq_true h)
theorem jh_ {d:List Str}:Lib.compact d=((List.range d.length).filter fun j=>decide (j=0∨d[j]! ≠ d[j - 1]!)).map fun j=>d[j]! := by
 unfold Lib.compact Lib.compactUpTo Lib.keeps
 have e:∀ j,d.toArray[j]! = d[j]! := fun j=>by
   by_cases h:j<d.length
   · rw[getElem!_pos d.toArray j zaB_,getElem!_pos d j h];simp
   · rw[getElem!_neg d.toArray j zaB_,getElem!_neg d j h]
 rw[List.map_congr_left fun j _=>e j]
 congr 2
 funext j
 rw[e,e]
theorem jg_ (d:List Str):(Lib.compact d).length≤d.length:=by
  rw[jh_,List.length_map];have:=List.length_filter_le (fun j=>decide (j=0∨d[j]! ≠ d[j - 1]!)) (List.range d.length);simpa using this
theorem ni_ {d:List Str} (x:Str):x∈Lib.compact d↔x∈d:=by
 rw[jh_,List.mem_map];constructor
 ·rintro ⟨j,m,rfl⟩
  have hl:=List.mem_range.1 (List.mem_filter.1 m).1;rw[getElem!_pos d j hl];exact List.getElem_mem hl
 intro y;obtain⟨j,m,e⟩:=List.mem_iff_getElem.1 y;clear y
 induction j with
 | zero=>exact⟨0,List.mem_filter.2 ⟨List.mem_range.2 m,by simp⟩,by rw[getElem!_pos d 0 m];exact e⟩
 | succ j ih =>
   by_cases h:d[j+1]! = d[j]!
   · have v:j<d.length:=by omega
     refine ih v ?_;rw[getElem!_pos d (j+1) m,getElem!_pos d j v]at h;rw[← h];exact e
   · exact⟨j+1,List.mem_filter.2 ⟨List.mem_range.2 m,decide_eq_true (.inr h)⟩,by rw[getElem!_pos d (j+1) m];exact e⟩
theorem vo_ {d:List Str} (G:d.Pairwise fun x y=>x≤y):(Lib.compact d).Pairwise fun x y=>x<y:=by
 rw[jh_,List.pairwise_map];have J:(List.range d.length).Pairwise (·<·):=List.pairwise_lt_range;have F:=J.filter (fun j=>decide (j=0∨d[j]! ≠ d[j - 1]!));refine List.Pairwise.imp_of_mem ?_ F;intro j k O E M;have A:=List.mem_range.1 (List.mem_filter.1 E).1;have m:=(List.mem_filter.1 E).2;simp only[decide_eq_true_eq]at m
 have B:d[k]! ≠ d[k - 1]! := by
   rcases m with h|h
   · omega
   · exact h
 have e:∀ a b,a≤b→b<d.length→d[a]! ≤ d[b]! := by
   intro a b v C;rcases Nat.lt_or_eq_of_le v with h|h
   · rw[getElem!_pos d a zaa_,getElem!_pos d b C]
     exact List.pairwise_iff_getElem.1 G a b zaa_ C h
   · subst h;exact List.le_refl _
 have I:=e j (k - 1) zaa_ zaa_;have K:=e (k - 1) k zaa_ A
 have L:d[k - 1]! < d[k]! := by
   apply Decidable.byContradiction
   intro h;exact B (List.le_antisymm (List.not_lt.1 h) K)
 exact List.lt_of_le_of_lt I L
theorem ej_ (l:List Pc) (x:Str):x∈dC_ l↔x∈cG_ l:=by
  unfold dC_;rw[ni_,List.mem_mergeSort]
theorem yp_ (l:List Pc):(dC_ l).Pairwise fun x y=>x<y:=vo_ (kT_ _)
theorem eO_ (l:List Pc):(dC_ l).length≤3*l.length:=by
  have d:=jg_ ((cG_ l).mergeSort fun x y=>decide (x≤y));rw[List.length_mergeSort]at d;have e:=kE_ l;unfold dC_;omega
end Go.Vs
namespace Go.Proofs.YthmjeabeoodghaaGreatDoor
open Go Go.Sx Go.Proofs Tryz
attribute [local irreducible] Code.wp wpList wpAnyH
open Go.Vs
theorem eltS:Elt prog 25 9 1 16:=hh_ iO_ (z:=.string ⟨#[]⟩) zac_ rfl zad_
theorem qD_ {g n cap:Nat} {cur:Array Value} {xs:List Str} {v:Vw} (x:v.sat [(g,.cells cur 9 (0,0))]) (m:cur.toList.take (xs.length*1)=xs.flatMap au_):Sort.Holds encStr v.w g 0 xs.toArray:=by
 intro j d;have e:=(x.own _ List.mem_cons_self).1;simp only[List.size_toArray]at d;have h:cur[j]? = some (str xs[j]):=pY_ m j xs[j] (List.getElem?_eq_getElem d);refine⟨?_,?_⟩
 ·simp only[World.cell?,Nat.zero_add,e,Option.isSome_none,Bool.false_eq_true,if_false]
  rw[h,getElem!_pos xs.toArray j zbd_];rfl
 simp[World.frozen?,e]
theorem rm_ {sv:Value} {xs:List Str} {Hr:Hp} (h:az_ 9 1 sv xs.length (xs.flatMap au_) Hr) (hl:xs.length≤1000000000000) :
    Tri prog 79 #[sv] Hr [] (fun _:{y:Hp // az_ 9 1 sv xs.length ((xs.mergeSort fun x y=>decide (x≤y)).flatMap au_) y}=>.tuple #[]) (fun y=>y.1) (fun _=>[]):=by
  rcases h.2 with⟨rfl,J,rfl⟩|⟨g,cap,cur,rfl,rfl,M,L,G,I⟩
  · obtain rfl:xs=[]:=List.eq_nil_of_length_eq_zero J
    have T:=cL_ (P:=prog) (H:=[]) (Γ:=[]) (callable func79 rfl rfl) (fun v _ _=>(Tryz.slices_Sort_string_none none 0 v.w).mono zak_);exact⟨T.callable,fun v a b=>(T.run v a b).mono (by rintro e w' ⟨x,K,A,C,F,B,E⟩;exact⟨⟨[],by simpa using az_.nil _ _⟩,K,A,C,F,B,E⟩)⟩
  · have T:=og_ (P:=prog) (Γ:=[]) (d:=(xs.mergeSort fun x y=>decide (x≤y)).toArray) (callable func79 rfl rfl) (fun v N=>Tryz.slices_Sort_string g 0 cap xs v.w (qD_ (n:=0) (cap:=0) N I) (Array.getElem?_eq_some_iff.1 (N.own _ List.mem_cons_self).1).1 zaa_)
    have m:(xs.mergeSort fun x y=>decide (x≤y)).length=xs.length:=List.length_mergeSort _;refine⟨T.callable,fun v a b=>(T.run v a b).mono ?_⟩;rintro e w' ⟨x,K,A,C,F,B,E⟩;refine⟨⟨_,by rw[dU_ au_ 1 aY_,m],.inr ⟨g,cap,_,rfl,rfl,M,L,by rw[sR_];exact G,?_⟩⟩,K,A,C,F,B,E⟩;have:=sQ_ (cur:=cur) (d:=xs.mergeSort fun x y=>decide (x≤y)) (by rw[m,G];omega);rw[m]at this;rw[Nat.mul_one];exact this
theorem pp_ {sv:Value} {xs:List Str} {Hr:Hp} (h:az_ 9 1 sv xs.length (xs.flatMap au_) Hr) (hl:xs.length≤1000000000000) :
    Tri prog 80 #[sv] Hr [] (fun y:{y:Value×Hp // az_ 9 1 y.1 (Lib.compact xs).length ((Lib.compact xs).flatMap au_) y.2}=>y.1.1) (fun y=>y.1.2) (fun _=>[]):=by
  rcases h.2 with⟨rfl,N,rfl⟩|⟨g,cap,cur,rfl,rfl,L,K,F,M⟩
  · obtain rfl:xs=[]:=List.eq_nil_of_length_eq_zero N
    have T:=cL_ (P:=prog) (H:=[]) (Γ:=[]) (callable func80 rfl rfl) (fun v _ _=>(Tryz.slices_Compact_string_empty none 0 v.w).mono zak_);exact⟨T.callable,fun v a b=>(T.run v a b).mono (by rintro e w' ⟨x,J,C,A,B,m,E⟩;exact⟨⟨(.slice none 0 0,[]),by simpa [Lib.compact,Lib.compactUpTo] using az_.nil _ _⟩,J,C,A,B,m,E⟩)⟩
  · have I:=jg_ xs
    have T:=og_ (P:=prog) (Γ:=[]) (r:=.slice (some ⟨g,0,none⟩) (Lib.compact xs).length cap) (d:=(Lib.compact xs++List.replicate (xs.length - (Lib.compact xs).length) []).toArray) (callable func80 rfl rfl) (fun v Q=>(Tryz.slices_Compact_string g 0 cap xs v.w (qD_ (n:=0) (cap:=0) Q M) zaa_ L).mono (by
      rintro e w' ⟨rfl,q,rfl⟩;exact⟨rfl,q,#[],by rw[Sort.grow_empty]⟩))
    refine⟨T.callable,fun v a b=>(T.run v a b).mono ?_⟩;rintro e w' ⟨x,J,C,A,B,m,E⟩;refine⟨⟨(.slice (some ⟨g,0,none⟩) (Lib.compact xs).length cap,_),by rw[dU_ au_ 1 aY_],.inr ⟨g,cap,_,rfl,rfl,by omega,K,by rw[sR_];exact F,?_⟩⟩,J,C,A,B,m,E⟩;have O:(Lib.compact xs++List.replicate (xs.length - (Lib.compact xs).length) ([]:Str)).length=xs.length:=by simp;omega
    have:=sQ_ (cur:=cur) (d:=Lib.compact xs++List.replicate (xs.length - (Lib.compact xs).length) []) (by rw[O,F];omega);rw[O]at this;have G:=congrArg (List.take (Lib.compact xs).length) this;rw[List.take_take,Nat.min_eq_left I,List.flatMap_append,List.take_append_of_le_length (by rw[dU_ au_ 1 aY_];omega),List.take_of_length_le (l:=(Lib.compact xs).flatMap au_) (by rw[dU_ au_ 1 aY_];omega)]at G;rw[Nat.mul_one];exact G
theorem wC_ (l:List Pc) (ad:Ao) (cap:Nat) (hl:l.length≤100000000000):Tri prog 40 #[.slice ad l.length cap] [] [X_ ad (l.flatMap Pc.cells)] (fun y:{y:Ao×Nat // (dC_ l).length≤y.2∧y.2≤maxLen}=>.slice y.1.1 (dC_ l).length y.1.2) (fun _=>[]) (fun y=>[X_ y.1.1 ((dC_ l).flatMap au_)]):=by
 refine j_ func40 rfl rfl ntmps40 rfl fun X=>?_;refine Zz 14 ?_;refine bt_ [(2,.slice none 0 0),(7,.slice ad l.length cap),(8,.int .i64 (List.length l:Int)),(9,.int .i64 ((0:Nat):Int))] zl ?_;refine bO_ (ι:={y:Nat×Value×Hp // y.1≤l.length∧az_ 9 1 y.2.1 (cG_ (l.take y.1)).length ((cG_ (l.take y.1)).flatMap au_) y.2.2}) (fun y=>[(2,y.1.2.1),(7,.slice ad l.length cap),(8,.int .i64 (List.length l:Int)),(9,.int .i64 (y.1.1:Int))]) (fun y=>y.1.2.2) (fun _=>_) (fun y=>l.length - y.1.1) ⟨(0,.slice none 0 0,[]),by simp,az_.nil _ _⟩ ?_;rintro ⟨⟨i,sv,Hr⟩,hi,v⟩;dsimp only at hi v;dsimp only;have M:=kE_ (l.take i);rw[List.length_take]at M;refine bt_ [(2,sv),(7,.slice ad l.length cap),(8,.int .i64 (List.length l:Int)),(9,.int .i64 (i:Int))] zl ?_;refine Zi 2 (fun J=>?_) fun J=>?_
 ·refine Zz 7 ?_
  have Z:l.take i=l:=List.take_of_length_le zaa_;rw[Z]at v M;refine Zz 2 ?_;refine f_ (rm_ v zaa_) rfl aj_ zt rfl fun⟨Hs,Y⟩=>?_;dsimp only;refine A_ (List.Perm.symm aj_) ?_;have O:az_ 9 1 sv ((cG_ l).mergeSort fun x y=>decide (x≤y)).length (((cG_ l).mergeSort fun x y=>decide (x≤y)).flatMap au_) Hs:=by rw[List.length_mergeSort];exact Y
  refine Zz 5 ?_;refine f_ (pp_ O (by rw[List.length_mergeSort];omega)) rfl aj_ zt rfl fun⟨⟨sc,Hc⟩,hc⟩=>?_;dsimp only;refine A_ (List.Perm.symm aj_) (Zz 4 ?_);refine gE_ hc aj_ fun R K V L Q=>?_;exact aa_ results40 ⟨(R,K),L,Q⟩ (ea_ rfl V) g_ zf
 have B:i<l.length:=by omega
 obtain⟨d,S⟩:∃ H,l[i]? = some H:=⟨_,List.getElem?_eq_getElem B⟩;refine Zz 12 ?_;refine y_ V_ rfl fun a0=>o_ 0 L_ rfl rfl rfl rfl rfl rfl (Zz 10 ?_)
 refine G_ t_ M_ aw_ rfl rfl rfl rfl rfl rfl fun E=>?_;refine aq_ (List.flatMap au_ [d.a,d.b,d.c]) d_ rfl ?_;refine Zz 5 ?_;refine bt_ [(2,sv),(7,.slice ad l.length cap),(8,.int .i64 (List.length l:Int)),(9,.int .i64 (i:Int)),(19,.slice (some ⟨E,0,none⟩) (List.length [d.a,d.b,d.c]) 3),(20,.int .i64 3),(21,.int .i64 ((0:Nat):Int))] zl ?_;refine bO_ (ι:={y:Nat×Value×Hp // y.1≤3∧az_ 9 1 y.2.1 (cG_ (l.take i)++(List.take y.1 [d.a,d.b,d.c]).filter fun s=>!(s==[])).length ((cG_ (l.take i)++(List.take y.1 [d.a,d.b,d.c]).filter fun s=>!(s==[])).flatMap au_) y.2.2}) (fun y=>[(2,y.1.2.1),(7,.slice ad l.length cap),(8,.int .i64 (List.length l:Int)),(9,.int .i64 (i:Int)),(19,.slice (some ⟨E,0,none⟩) (List.length [d.a,d.b,d.c]) 3),(20,.int .i64 3),(21,.int .i64 (y.1.1:Int))]) (fun y=>_:: y.1.2.2) (fun _=>_) (fun y=>3 - y.1.1) ⟨(0,sv,Hr),by simp,by simpa using v⟩ ?_;rintro ⟨⟨k,U,W⟩,hk,C⟩;dsimp only at hk C;dsimp only
 have hfl:((cG_ (l.take i)++(List.take k [d.a,d.b,d.c]).filter fun s=>!(s==[]))).length≤(cG_ (l.take i)).length+3:=by
   have:=List.length_filter_le (fun s=>!(s==[])) (List.take k [d.a,d.b,d.c]);simp only[List.length_append,List.length_take,List.length_cons,List.length_nil]at this ⊢;omega
 refine bt_ [(2,U),(7,.slice ad l.length cap),(8,.int .i64 (List.length l:Int)),(9,.int .i64 (i:Int)),(19,.slice (some ⟨E,0,none⟩) (List.length [d.a,d.b,d.c]) 3),(20,.int .i64 3),(21,.int .i64 (k:Int))] zl ?_;refine Zi 2 (fun T=>?_) fun T=>?_
 ·refine Zz 11 ?_
  have m:cG_ (l.take (i+1))=cG_ (l.take i)++jn_ d:=by unfold cG_;rw[List.take_add_one,S,List.flatMap_append];simp
  exact x_ ⟨(i+1,U,W),B,by dsimp only;rw[m];have:=C;rw[List.take_of_length_le (show [d.a,d.b,d.c].length≤k by simp;omega)]at this;exact this⟩ zab_ zl (c_ aj_) (fun _ _ h=>h.2)
 have G:k<List.length [d.a,d.b,d.c]:=by simp;omega
 obtain⟨e,A⟩:∃ H,[d.a,d.b,d.c][k]? = some H:=⟨_,List.getElem?_eq_getElem G⟩;refine Zz 11 ?_;refine e_ (bP_ (ad:=(some ⟨E,0,none⟩)) ai_ rfl zf (z_ aY_ A 0 _ rfl)) rfl (Zi 6 (fun N=>?_) fun N=>?_)
 ·refine Zz 10 ?_
  have m:(cG_ (l.take i)++(List.take (k+1) [d.a,d.b,d.c]).filter fun s=>!(s==[]))=(cG_ (l.take i)++(List.take k [d.a,d.b,d.c]).filter fun s=>!(s==[]))++[e].filter (fun s=>!(s==[])):=by rw[List.append_assoc,← List.filter_append,List.take_add_one,A];simp
  rw[show [e].filter (fun s=>!(s==[]))=[] by simp[*],List.append_nil]at m;exact x_ ⟨(k+1,U,W),by dsimp only;omega,by dsimp only;rw[m];exact C⟩ zab_ zl zp zh
 refine Zz 6 ?_;refine G_ t_ M_ aw_ rfl rfl rfl rfl rfl rfl fun b_3=>?_;refine aO_ (news:=[str e]) eltS C rfl rfl zp rfl (bz_ 0 rfl) (kY_ rfl) zan_ zaa_ rfl fun I P F=>?_;refine A_ (@List.perm_append_comm _ _ [_,_]) (Zz 8 ?_);have m:(cG_ (l.take i)++(List.take (k+1) [d.a,d.b,d.c]).filter fun s=>!(s==[]))=(cG_ (l.take i)++(List.take k [d.a,d.b,d.c]).filter fun s=>!(s==[]))++[e].filter (fun s=>!(s==[])):=by rw[List.append_assoc,← List.filter_append,List.take_add_one,A];simp
 rw[show [e].filter (fun s=>!(s==[]))=[e] by simp[*]]at m;exact x_ ⟨(k+1,I,P),by dsimp only;omega,by dsimp only;rw[m];rw[List.length_append (bs:=[e]),List.flatMap_append (ys:=[e])];exact F⟩ zab_ zl (i_ (c_ d_) (c_ aj_)) zh
end Go.Proofs.YthmjeabeoodghaaGreatDoor
namespace Go.Sx
open Go
section
variable {P:Program} {N:Nf} {v0:Vw} {H0:Hp} {R:Exit→Act→World→Prop} {K:List Kt} {fr:Fr} {H:Hp} {Γ:List Fct}
variable {ops:Array Oper} {l:List Oper} {d:Nat} {ty:TypeId} {ps:String} {af:Array Edge}
end
end Go.Sx
namespace Go.Vs
open Go Go.Sx
theorem uC_ {α:Type} {R:α→α→Prop} {l:List α} (h:l.Pairwise R) {i j:Nat} {x y:α} (A:l[i]? = some x) (m:l[j]? = some y) (e:i<j):R x y:=by
  obtain⟨hi,rfl⟩:=List.getElem?_eq_some_iff.1 A;obtain⟨v,rfl⟩:=List.getElem?_eq_some_iff.1 m;exact List.pairwise_iff_getElem.1 h i j hi v e
def Cov (hs:List Bool) (L S:List Str):Prop:=hs.length=L.length∧∀ (n:Nat) (s:Str),L[n]? = some s→s∈S→hs[n]? = some true
def three (p:Pc):List Str:=[p.a,p.b,p.c]
theorem Cov.all {m:List Bool} {l:List Pc} (h:Cov m (dC_ l) (l.flatMap three)) {n:Nat} (e:n<(dC_ l).length):m[n]? = some true:=by
  have hm:=(ej_ l _).1 (List.getElem_mem e);refine h.2 n _ (List.getElem?_eq_getElem e) ?_;simp only[cG_,List.mem_flatMap,jn_,List.mem_filter]at hm;obtain⟨p,v,x⟩:=hm;exact List.mem_flatMap.2 ⟨p,v,x.1⟩
theorem sW_ (s:Str):((if aN_ s then (0:Int) else 20)==0)=aN_ s:=by cases aN_ s<;>rfl
-- valid pieces,kind by kind
section
variable {a b c r s t:Str} {lo hi f:Int}
end
-- atoms
-- roles
-- sorted insertion
def kS (l:List Str) (s:Str):Nat:=(l.takeWhile fun x=>decide (x<s)).length
theorem CQ_ {s:Str}:∀ {l:List Str} {k:Nat},k≤l.length→(∀ x∈l.take k,x<s)→(∀ x,l[k]? = some x→¬ x<s)→kS l s=k
  | [],k,h1,_,_=>by simp at h1;simp[kS,h1]
  | y::r,0,_,_,h3=>by
    have:=h3 y rfl;unfold kS;rw[List.takeWhile_cons_of_neg (by simpa using this)];rfl
  | y::r,k+1,h1,h2,h3=>by
    have h:y<s:=h2 y zaf_;have e:=CQ_ (l:=r) (k:=k) (by simpa using h1) (fun x d=>h2 x zaT_) (fun x d=>h3 x zbd_);unfold kS at e ⊢;rw[List.takeWhile_cons_of_pos zaB_,List.length_cons,e]
def dw_ (l:List Str) (s:Str):List Str:=if s=[]∨l[kS l s]? = some s then l else l.take (kS l s)++[s]++l.drop (kS l s)
theorem kS_le (l:List Str) (s:Str):kS l s≤l.length:=(List.takeWhile_sublist _).length_le
theorem lz_ (l:List Str) (s:Str):(dw_ l s).length≤l.length+1:=by
 have:=kS_le l s;unfold dw_
 split
 ·omega
 simp only[List.length_append,List.length_take,List.length_cons,List.length_nil,List.length_drop];omega
theorem ly_ {l:List Str} {s x:Str}:x∈dw_ l s↔x∈l∨(x=s∧s≠[]):=by
 unfold dw_
 split
 ·rename_i h
  constructor
  ·exact .inl
  rintro (m|⟨rfl,m⟩)
  ·exact m
  rcases h with h|h
  ·exact absurd h m
  exact List.mem_of_getElem? h
 rename_i h
 simp only[not_or]at h
 have e:x∈l↔x∈l.take (kS l s)∨x∈l.drop (kS l s):=by
   rw[← List.mem_append,List.take_append_drop]
 rw[e];simp only[List.mem_append,List.mem_singleton];constructor
 ·rintro ((d|d)|d)
  ·exact .inl (.inl d)
  ·exact .inr ⟨d,d▸h.1⟩
  exact .inl (.inr d)
 rintro ((d|d)|d)
 ·exact .inl (.inl d)
 ·exact .inr d
 exact .inl (.inr d.1)
theorem yJ_ {s:Str}:∀ (l:List Str),∀ x∈l.take (kS l s),x<s:=by
 intro l x d
 have e:l.take (kS l s)=l.takeWhile fun x=>decide (x<s):=by
   unfold kS;exact (List.prefix_iff_eq_take.1 (List.takeWhile_prefix _)).symm
 rw[e]at d
 induction l with
 | nil=>simp at d
 | cons y r ih =>
   by_cases h:y<s
   · rw[List.takeWhile_cons_of_pos zaB_]at d
     rcases List.mem_cons.1 d with rfl|d
     · exact h
     · refine ih d ?_
       unfold kS;exact (List.prefix_iff_eq_take.1 (List.takeWhile_prefix _)).symm
   · rw[List.takeWhile_cons_of_neg zaB_]at d
     simp at d
theorem vH_ {s:Str}:∀ (l:List Str) (x:Str),l[kS l s]? = some x→¬ x<s
 | [],x,h=>by simp at h
 | y::r,x,h=>by
   unfold kS at h
   by_cases d:y<s
   · rw[List.takeWhile_cons_of_pos zbd_,List.length_cons,List.getElem?_cons_succ]at h
     exact vH_ r x h
   · rw[List.takeWhile_cons_of_neg zbd_]at h
     simp only[List.length_nil,List.getElem?_cons_zero,Option.some.injEq]at h;subst h;exact d
theorem nX_ {l:List Str} {s:Str} (h:l.Pairwise fun x y=>x<y):(dw_ l s).Pairwise fun x y=>x<y:=by
 unfold dw_
 split
 ·exact h
 rename_i B
 simp only[not_or]at B
 have A:∀ y∈l.drop (kS l s),s<y:=by
   intro y e;obtain⟨j,C,rfl⟩:=List.mem_iff_getElem.1 e;rw[List.getElem_drop];rw[List.length_drop]at C;have m:kS l s<l.length:=by omega
   have E:=vH_ l _ (List.getElem?_eq_getElem m)
   have v:s<l[kS l s]:=by
     apply Decidable.byContradiction
     intro q
     apply B.2
     rw[List.getElem?_eq_getElem m,Option.some.injEq];exact List.le_antisymm (List.not_lt.1 q) (List.not_lt.1 E)
   rcases Nat.eq_zero_or_pos j with rfl|F
   · exact v
   · exact List.lt_trans v (List.pairwise_iff_getElem.1 h _ _ m zaa_ zaa_)
 rw[List.pairwise_append,List.pairwise_append];refine⟨⟨h.sublist (List.take_sublist _ _),List.pairwise_singleton _ _,fun x d y e=>?_⟩,h.sublist (List.drop_sublist _ _),fun x d y e=>?_⟩
 ·rw[List.mem_singleton]at e
  subst e;exact yJ_ l x d
 rcases List.mem_append.1 d with d|d
 ·exact List.lt_trans (yJ_ l x d) (A y e)
 rw[List.mem_singleton]at d;subst d;exact A y e
def AI_ (l:List Pc):List Str:=l.foldl (fun L p=>dw_ (dw_ (dw_ L p.a) p.b) p.c) []
theorem px_:∀ (l:List Pc) (L:List Str),L.Pairwise (fun x y=>x<y)→(l.foldl (fun L p=>dw_ (dw_ (dw_ L p.a) p.b) p.c) L).Pairwise (fun x y=>x<y)∧(∀ x,x∈l.foldl (fun L p=>dw_ (dw_ (dw_ L p.a) p.b) p.c) L↔x∈L∨x∈cG_ l)∧(l.foldl (fun L p=>dw_ (dw_ (dw_ L p.a) p.b) p.c) L).length≤L.length+3*l.length
 | [],L,h=>⟨h,fun x=>by simp[cG_],by simp⟩
 | p::r,L,h=>by
   obtain⟨e,m,E⟩:=px_ r (dw_ (dw_ (dw_ L p.a) p.b) p.c) (nX_ (nX_ (nX_ h)));refine⟨e,fun x=>?_,?_⟩
   · rw[List.foldl_cons,m,ly_,ly_,ly_]
     simp only[cG_,List.flatMap_cons,List.mem_append,jn_,List.mem_filter,List.mem_cons,List.not_mem_nil,or_false];constructor
     · rintro ((((h|⟨rfl,h⟩)|⟨rfl,h⟩)|⟨rfl,h⟩)|h)
       · exact .inl h
       · exact .inr (.inl ⟨.inl rfl,by simpa using h⟩)
       · exact .inr (.inl ⟨.inr (.inl rfl),by simpa using h⟩)
       · exact .inr (.inl ⟨.inr (.inr rfl),by simpa using h⟩)
       · exact .inr (.inr h)
     · rintro (h|⟨h,v⟩|h)
       · exact .inl (.inl (.inl (.inl h)))
       · have d:x≠[]:=by simpa using v
         rcases h with rfl|rfl|rfl
         · exact .inl (.inl (.inl (.inr ⟨rfl,d⟩)))
         · exact .inl (.inl (.inr ⟨rfl,d⟩))
         · exact .inl (.inr ⟨rfl,d⟩)
       · exact .inr h
   · rw[List.foldl_cons]
     have A:=lz_ L p.a;have B:=lz_ (dw_ L p.a) p.b;have C:=lz_ (dw_ (dw_ L p.a) p.b) p.c;simp only[List.length_cons];omega
theorem pZ_:∀ {l m:List Str},l.Pairwise (fun x y=>x<y)→m.Pairwise (fun x y=>x<y)→(∀ x,x∈l↔x∈m)→l=m
 | [],[],_,_,_=>rfl
 | [],y::m,_,_,h=>by have:=(h y).2 zaf_;simp at this
 | x::l,[],_,_,h=>by have:=(h x).1 zaf_;simp at this
 | x::l,y::m,h1,h2,h=>by
   rw[List.pairwise_cons]at h1 h2
   have e:x=y:=by
     have v:=(h x).1 zaf_;have d:=(h y).2 zaf_;rcases List.mem_cons.1 v with e|v
     · exact e
     rcases List.mem_cons.1 d with e|d
     · exact e.symm
     exact absurd (List.lt_trans (h1.1 y d) (h2.1 x v)) (List.lt_irrefl _)
   subst e
   congr 1
   refine pZ_ h1.2 h2.2 fun z=>?_;have A:=h z;simp only[List.mem_cons]at A;constructor
   · intro q
     rcases A.1 (.inr q) with e|e
     · subst e
       exact absurd (h1.1 z q) (List.lt_irrefl _)
     · exact e
   · intro q
     rcases A.2 (.inr q) with e|e
     · subst e
       exact absurd (h2.1 z q) (List.lt_irrefl _)
     · exact e
theorem AH_ (l:List Pc):dC_ l=AI_ l:=by
  obtain⟨d,e,_⟩:=px_ l [] List.Pairwise.nil;refine pZ_ (yp_ l) d fun x=>?_;have:=e x;rw[ej_];simp only[List.not_mem_nil,false_or]at this;exact this.symm
end Go.Vs
namespace Go.Sx
open Go
section
variable {P:Program} {N:Nf} {v0:Vw} {H0:Hp} {fr:Fr} {H:Hp} {Γ:List Fct}
end
end Go.Sx
namespace Go.Vs
open Go Go.Sx
namespace Con
theorem szs_append:∀ (xs ys:List Con),sz.szs (xs++ys)=sz.szs xs+sz.szs ys
  | [],ys=>by simp[sz.szs]
  | x::xs,ys=>by simp only[List.cons_append,sz.szs,szs_append xs ys];omega
theorem szs_step {ps:List Con} {p:Con} {i:Nat} (d:ps[i]? = some p):sz.szs (ps.take (i+1))=sz.szs (ps.take i)+p.sz:=by
  rw[take_snoc d,szs_append];simp[sz.szs]
theorem szs_take_le (ps:List Con) (i:Nat):sz.szs (ps.take i)≤sz.szs ps:=by
  have:=szs_append (ps.take i) (ps.drop i);rw[List.take_append_drop]at this;omega
end Con
namespace Ax
theorem check_20 {x:Ax} (h:x.shaped=true) (d:x.namedU (us x.kind)=false):x.check=20:=by unfold check;rw[if_neg zbp_,if_pos d]
theorem check_left {x:Ax} (h:x.shaped=true) (e:x.namedU (us x.kind)=true) (hl:(us x.kind).left=true) (d:x.left.check≠0):x.check=x.left.check:=by
  unfold check;rw[if_neg zbp_,if_neg (by rw[e];simp),if_pos ⟨hl,d⟩]
theorem check_right {x:Ax} (h:x.shaped=true) (m:x.namedU (us x.kind)=true) (hl:(us x.kind).left=true→x.left.check=0) (e:(us x.kind).right=true) (d:x.right.check≠0):x.check=x.right.check:=by
  unfold check;rw[if_neg zbp_,if_neg (by rw[m];simp),if_neg (fun q=>q.2 (hl q.1)),if_pos ⟨e,d⟩]
end Ax
end Go.Vs
namespace Go.Proofs.YthmjeabeoodghaaGreatDoor
open Go Go.Sx Go.Proofs Tryz
attribute [local irreducible] Code.wp wpList wpAnyH
open Go.Vs
theorem Au_:∀ (m:Nat) (c:Con),c.sz≤m→c.ok→∀ (d most:Int),0≤d∧d≤40→0≤most∧most≤1000→Tri prog 62 #[Con.val c,.int .i64 d,.int .i64 most] [] [Con.memF c] (fun r:{r:Int // 1≤r∧r≤most+4398046511104∧(r≤most→(c.sz:Int)≤r)}=>.int .i64 r.1) (fun _=>[]) (fun _=>[]):=by
 intro m
 induction m with
 | zero=>intro c h;have:=c.sz_pos;omega
 | succ m ih =>
   intro c hm H d most X M;have W:=Con.ok_name H;have U:=Con.ok_len H;refine j_ func62 rfl rfl ntmps62 rfl fun T=>?_;refine Zz 2 ?_;refine K_ rfl rfl fun E=>Zi 7 (fun F=>?_) fun F=>?_
   · refine Zz 9 ?_;refine e_ (cB_ N_ rfl) rfl (e_ (ao_ (AU_ (n:=40) rfl rfl zad_ (bv_ (r:=((List.length c.name / 40:Nat):Int)) zaa_ zaa_)) (show _=Value.int .i64 ((List.length c.name / 40:Nat):Int) from rfl)) rfl (Zz 11 ?_));refine bt_ [(1,.int .i64 d),(2,.int .i64 most),(3,zp_ E 0),(7,.int .i64 (1+((List.length c.name / 40:Nat):Int))),(8,.int .i64 ((0:Nat):Int))] zl ?_;refine bO_ (ι:={x:Nat×Int // x.1≤c.parts.length∧1≤x.2∧x.2≤most+4398046511104∧(x.2≤most→((1+Con.sz.szs (c.parts.take x.1):Nat):Int)≤x.2)}) (fun x=>[(1,.int .i64 d),(2,.int .i64 most),(3,zp_ E 0),(7,.int .i64 x.1.2),(8,.int .i64 (x.1.1:Int))]) (fun _=>_) (fun _=>_) (fun x=>c.parts.length - x.1.1) ⟨(0,1+((List.length c.name / 40:Nat):Int)),by simp,by dsimp only;omega,by dsimp only;omega,by simp[Con.sz.szs];omega⟩ ?_;rintro ⟨⟨i,n⟩,Q⟩;dsimp only at Q;obtain⟨P,R,S,G⟩:=Q;refine bt_ [(1,.int .i64 d),(2,.int .i64 most),(3,zp_ E 0),(7,.int .i64 n),(8,.int .i64 (i:Int))] zl ?_;refine Zz 7 ?_;refine E_ (cD_ rfl rfl) rfl fun O e=>Zz 1 ?_
     refine aB_ 4 ((decide ((i:Int)<(List.length c.parts:Int)))&&(decide (n≤most))) (fun r=>[(1,.int .i64 d),(2,.int .i64 most),(3,zp_ E 0),(7,.int .i64 n),(8,.int .i64 (i:Int)),(27,.bool r)]) ?_ fun L A=>?_
     · cases O
       · have B:=e;replace e:=zdf e;refine Zz 6 ?_;exact met ⟨rfl,rfl,rfl,rfl,rfl,(s_ rfl (jaf B)),trivial⟩
       · have B:=e;replace e:=zdt e;refine Zz 5 ?_;refine E_ (dV_ rfl rfl) rfl fun V K=>Zz 3 ?_
         exact met ⟨rfl,rfl,rfl,rfl,rfl,(s_ rfl (jat B K)),trivial⟩
     · refine Zz 2 ?_;cases L
       · simp at A
         refine Zz 10 ?_;exact aa_ results62 ⟨n,by omega,by omega,fun q=>by have hi:c.parts.length≤i:=(by simp at *;omega);have:=G q;rw[List.take_of_length_le hi]at this;rw[Con.sz_eq];exact this⟩ rfl (@List.perm_append_comm _ [_] _) zt
       · simp at A
         obtain⟨I,J,C,y⟩:=zge (show i<c.parts.length by omega);refine Zz 10 ?_;refine e_ (U_ ab_ n_ rfl rfl (fun v _ h=>aK_ (n:=5) Con.cells_len zad_ zba_ C) zaa_ zah_) rfl ?_;refine e_ (al_ (ad:=c.ad) (us:=Con.cells J) ac_ n_ rfl (fun v _ h=>by exact ((Con.mem_iff c v).1 h.1).1) (Con.cells_len _) (z_ Con.cells_len C)) rfl (Zz 5 ?_);refine f_ (ih J (by have:=Con.sz_part y;omega) (Con.ok_part H y) (d - 1) (most - n) ⟨by omega,by omega⟩ ⟨by omega,by omega⟩) rfl g_ (fun v _ h=>by exact⟨(Con.mem_part (c:=c) h.1 y),trivial⟩) rfl fun⟨r,F,e,A⟩=>?_;dsimp only;refine Zz 10 ?_;have N:=Con.szs_step C;exact x_ ⟨(i+1,n+r),I,by dsimp only;omega,by dsimp only;omega,fun q=>by dsimp only at q ⊢;rw[N];have:=A zaa_;have:=G zaa_;omega⟩ zab_ zl (.refl _) zh
   · refine Zz 11 ?_;exact aa_ results62 ⟨(most+1),by omega,by omega,fun q=>by omega⟩ rfl (@List.perm_append_comm _ [_] _) zt
theorem Aj_ (c:Con) (m:c.ok):Tri prog 29 #[Con.val c] [] [Con.memF c] (fun b:{b:Bool // b=true→c.sz≤150}=>.bool b.1) (fun _=>[]) (fun _=>[]):=by
  refine j_ func29 rfl rfl ntmps29 rfl fun y=>?_;refine Zz 2 ?_;refine K_ rfl rfl fun x=>Zz 6 ?_
  refine f_ (Au_ _ c (Nat.le_refl _) m 40 150 ⟨by decide,by decide⟩ ⟨by decide,by decide⟩) rfl g_ zf rfl fun⟨r,d,v,e⟩=>?_;dsimp only;refine E_ (dV_ rfl rfl) rfl fun h d=>Zz 4 ?_
  exact aa_ results29 ⟨h,fun q=>by rw[q]at d;have:=of_decide_eq_true d;have:=e this;omega⟩ rfl (@List.perm_append_comm _ [_] _) zt
structure Ax.Few (x:Ax):Prop where
  left:x.left.sz≤150
  right:x.right.sz≤150
  roles:x.roles.length≤600
theorem iD_ {G:Prop} (h:G:=by
 exact aa_ results9 ⟨false,fun h=>by cases h⟩ rfl (@List.perm_append_comm _ [_] _) zt):G:=h
theorem mC_ {G:Prop} (h:G:=by
 refine Zz 6 ?_;refine f_ (Aj_ x.left d.left) rfl g_ (fun v _ h=>by exact⟨h.1.1,trivial⟩) rfl fun⟨F,e⟩=>?_;dsimp only;refine Zz 2 ?_;cases F
 ·refine Zz 8 ?_
  exact iD_
 refine Zz 5 ?_;refine f_ (Aj_ x.right d.right) rfl g_ (fun v _ h=>by exact⟨h.1.2.1,trivial⟩) rfl fun⟨B,m⟩=>?_;dsimp only;refine Zz 5 ?_;exact aa_ results9 ⟨B,fun h=>⟨e rfl,m h,by omega⟩⟩ rfl (@List.perm_append_comm _ [_] _) zt):G:=h
theorem nh_ (x:Ax) (d:x.ok):Tri prog 9 #[Ax.val x] [] [Ax.memF x] (fun b:{b:Bool // b=true→Ax.Few x}=>.bool b.1) (fun _=>[]) (fun _=>[]):=by
 refine j_ func9 rfl rfl ntmps9 rfl fun M=>?_;have L:=d.role;have R:=d.a;have P:=d.b;have N:=d.cap;refine Zz 2 ?_;refine K_ rfl rfl fun E=>Zz 7 ?_
 refine e_ (cB_ N_ rfl) rfl (Zz 2 ?_);refine e_ (cB_ N_ rfl) rfl (Zz 3 ?_);refine e_ (cB_ N_ rfl) rfl (Zz 16 ?_);refine bt_ [(1,zp_ E 0),(3,.int .i64 ((((x.role.length:Int)+(x.a.length:Int))+(x.b.length:Int))+(10*(List.length x.roles:Int)))),(4,.int .i64 ((0:Nat):Int))] zl ?_;refine bO_ (ι:={y:Nat×Int // y.1≤x.roles.length∧y.1≤100∧(x.roles.length:Int)≤y.2∧y.2≤444444444444444444+y.1*140737488351232}) (fun y=>[(1,zp_ E 0),(3,.int .i64 y.1.2),(4,.int .i64 (y.1.1:Int))]) (fun _=>_) (fun _=>_) (fun y=>x.roles.length - y.1.1) ⟨(0,((((x.role.length:Int)+(x.a.length:Int))+(x.b.length:Int))+(10*(List.length x.roles:Int)))),by simp,by simp,by dsimp only;omega,by dsimp only;omega⟩ ?_;rintro ⟨⟨i,n⟩,O⟩;dsimp only at O;refine bt_ [(1,zp_ E 0),(3,.int .i64 n),(4,.int .i64 (i:Int))] zl ?_;refine Zi 7 (fun H=>?_) fun H=>?_
 ·refine Zi 12 (fun A=>?_) fun A=>?_
  ·refine Zz 14 ?_
   exact iD_
  exact mC_
 refine Zi 4 (fun A=>?_) fun A=>?_
 ·refine Zi 9 (fun J=>?_) fun J=>?_
  ·refine Zz 14 ?_
   exact iD_
  exact mC_
 obtain⟨G,I,K,C⟩:=zge (show i<x.roles.length by omega);have Q:=d.roles I C;refine Zz 15 ?_;refine e_ (cB_ N_ rfl) rfl (Zz 10 ?_);exact x_ ⟨(i+1,n+(List.length I:Int)),G,by dsimp only;omega,by dsimp only;omega,by dsimp only;omega⟩ zab_ zl (.refl _) zh
theorem rO_ (l:List Ax) (ad:Ao) (cap:Nat) (most:Int) (F:l.length≤cap∧cap≤2199023255488) (E:∀ x∈l,x.ok):Tri prog 28 #[.slice ad l.length cap,.int .i64 most] [] [ch_ ad l] (fun b:{b:Bool // b=true→(l.length:Int)≤most∧∀ x∈l,Ax.Few x}=>.bool b.1) (fun _=>[]) (fun _=>[]):=by
 refine j_ func28 rfl rfl ntmps28 rfl fun H=>?_;refine Zi 11 (fun A=>?_) fun A=>?_
 ·refine Zz 12 ?_
  refine bt_ [(0,.slice ad l.length cap),(5,.int .i64 ((0:Nat):Int))] zl ?_;refine bO_ (ι:={q:Nat // q≤l.length∧∀ x∈l.take q,Ax.Few x}) (fun i=>[(0,.slice ad l.length cap),(5,.int .i64 (i.1:Int))]) (fun _=>_) (fun _=>_) (fun i=>l.length - i.1) ⟨0,by simp⟩ ?_;rintro ⟨i,G⟩;refine bt_ [(0,.slice ad l.length cap),(5,.int .i64 (i:Int))] zl ?_;refine Zi 6 (fun C=>?_) fun C=>?_
  ·refine Zz 11 ?_
   exact aa_ results28 ⟨true,fun _=>⟨by omega,fun x e=>G.2 x (by rw[List.take_of_length_le zaa_];exact e)⟩⟩ rfl (.refl _) zt
  obtain⟨y,m,B,d⟩:=zge (show i<l.length by omega);refine Zz 13 ?_;refine f_ (nh_ m (E m d)) rfl g_ (fun v _ h=>by exact⟨(h.1.2 m d),trivial⟩) rfl fun⟨r,I⟩=>?_;dsimp only;refine e_ (aR_ rfl) rfl (Zz 2 ?_);cases r
  ·refine Zz 7 ?_
   exact aa_ results28 ⟨false,fun h=>by cases h⟩ rfl (.refl _) zt
  refine Zz 9 ?_;exact x_ ⟨i+1,y,fun x e=>by rw[List.take_add_one,B]at e;simp only[Option.toList_some,List.mem_append,List.mem_singleton]at e;rcases e with e|rfl;exact G.2 x e;exact I rfl⟩ zap_ zl (.refl _) zh
 refine Zz 9 ?_;exact aa_ results28 ⟨false,fun h=>by cases h⟩ rfl (.refl _) zt
theorem nD_:∀ (m:Nat) (c:Con),c.sz≤m→c.ok→c.sz≤1000→Tri prog 192 #[Con.val c] [] [Con.memF c] (fun _:Unit=>.int .i64 (c.sz:Int)) (fun _=>[]) (fun _=>[]):=by
 intro m
 induction m with
 | zero=>intro c h;have:=c.sz_pos;omega
 | succ m ih =>
   intro c hm C K;have H:=Con.ok_len C;refine j_ func192 rfl rfl ntmps192 rfl fun G=>?_;refine Zz 2 ?_;refine K_ rfl rfl fun y=>Zz 15 ?_
   have F:=Con.sz_eq c;refine bt_ [(1,zp_ y 0),(3,.int .i64 1),(4,.int .i64 ((0:Nat):Int))] zl ?_;refine bO_ (ι:={z:Nat // z≤c.parts.length}) (fun z=>[(1,zp_ y 0),(3,.int .i64 ((1+Con.sz.szs (c.parts.take z.1):Nat):Int)),(4,.int .i64 (z.1:Int))]) (fun _=>_) (fun _=>_) (fun z=>c.parts.length - z.1) ⟨0,by simp⟩ ?_;rintro ⟨i,hi⟩;dsimp only;refine bt_ [(1,zp_ y 0),(3,.int .i64 ((1+Con.sz.szs (c.parts.take i):Nat):Int)),(4,.int .i64 (i:Int))] zl ?_;refine Zi 7 (fun B=>?_) fun B=>?_
   · refine Zz 12 ?_;exact aa_ results192 () (be_ rfl (by rw[F,List.take_of_length_le zaa_])) g_ zt
   · obtain⟨A,E,e,d⟩:=zge (show i<c.parts.length by omega);have J:=Con.sz_part d;have x:=Con.szs_take_le c.parts (i+1);rw[Con.szs_step e]at x;refine Zz 12 ?_;refine e_ (U_ ab_ n_ rfl rfl (fun v _ h=>aK_ (n:=5) Con.cells_len zad_ zba_ e) zaa_ zah_) rfl ?_;refine e_ (al_ (ad:=c.ad) (us:=Con.cells E) ac_ n_ rfl (fun v _ h=>by exact ((Con.mem_iff c v).1 h.1).1) (Con.cells_len _) (z_ Con.cells_len e)) rfl (f_ (ih E zaa_ (Con.ok_part C d) zaa_) rfl g_ (fun v _ h=>by exact⟨(Con.mem_part (c:=c) h.1 d),trivial⟩) rfl fun _=>Zz 10 ?_);have I:=Con.szs_step e;exact x_ ⟨i+1,A⟩ zab_ ⟨rfl,(be_ rfl zab_),rfl,trivial⟩ (.refl _) zh
end Go.Proofs.YthmjeabeoodghaaGreatDoor
namespace Go.Sx
open Go
section
variable {P:Program} {N:Nf} {v0:Vw} {H0:Hp} {R:Exit→Act→World→Prop} {K:List Kt} {fr:Fr} {H F:Hp} {Γ:List Fct} {ops:Array Oper} {l:List Oper} {ty:TypeId} {ps:String} {af:Array Edge} {e:TypeId} {sz n:Nat} {sv:Value} {xs:List Value} {Hr:Hp}
theorem yN_ {α:Type} (l:List α) (k m:Nat) (u:α) (x:k<m) (hm:m≤l.length):(l.take k++[u]++l.drop (k+1)).take m=(l.take m).set k u:=by
 apply List.ext_getElem?
 intro j;rw[List.getElem?_take,List.getElem?_set,List.length_take]
 by_cases d:j<m
 ·rw[if_pos d]
  by_cases h:j<k
  ·rw[if_neg zaa_,List.append_assoc,List.getElem?_append_left zbR_,List.getElem?_take,if_pos h,List.getElem?_take,if_pos d]
  by_cases v:j=k
  ·subst v
   rw[if_pos rfl,if_pos zaa_,List.append_assoc,List.getElem?_append_right zbR_,List.length_take,Nat.min_eq_left zaa_,Nat.sub_self];rfl
  rw[if_neg zaa_,List.getElem?_append_right (by rw[List.length_append,List.length_take,List.length_singleton];omega),List.length_append,List.length_take,List.length_singleton,List.getElem?_drop,List.getElem?_take,if_pos d,Nat.min_eq_left zaa_]
  congr 1;omega
 rw[if_neg d,if_neg zaa_,List.getElem?_take,if_neg d]
theorem eR_ {t:TypeId} {x y:Operand} {k:Nat} {u:Value} (d:az_ e sz sv n xs Hr) (S:H.Perm (Hr++F)) (J:∀ w,(sizeOf t).run P w=.ok 1 w) (I:Fr.ev fr x=some (.pointer (some ⟨svB sv,k,none⟩))) (M:Fr.ev fr y=some u) (C:k<n*sz) (A:u.cells=#[u]) (B:u.oneCell'=true)
    (h:∀ Hr',az_ e sz sv n (xs.set k u) Hr'→Ops P R N v0 H0 ops l K fr (Hr'++F) Γ):Ops P R N v0 H0 ops (⟨none,.store t x y,ty,ps,af,none⟩::l) K fr H Γ:=by
  rcases d.2 with⟨_,O,_⟩|⟨g,cap,cur,rfl,rfl,E,Q,m,G⟩
  · subst O;simp at C
  · have v:n*sz≤cap*sz:=Nat.mul_le_mul_right _ E
    refine A_ S (o_ (b:=g) (off:=k) 0 J I M rfl (by rw[A];rfl) ?_ (by rw[A];simp[B]) ?_)
    · have L:k+1≤cur.size:=by rw[m];omega
      simpa using L
    · rw[A]
      refine h [(g,.cells (cur.toList.take k++[u]++cur.toList.drop (k+1)).toArray e (0,0))] ⟨by rw[List.length_set];exact d.1,.inr ⟨g,cap,_,rfl,rfl,E,Q,?_,?_⟩⟩
      · simp only[List.size_toArray,List.length_append,List.length_take,List.length_drop,List.length_singleton,Array.length_toList,m];omega
      · show ((cur.toList.take k++[u]++cur.toList.drop (k+1)).toArray).toList.take (n*sz)=_
        rw[List.toList_toArray,yN_ _ _ _ _ C (by rw[Array.length_toList,m];exact v),G]
theorem ij_ {α:Type} (f:α→List Value) (z:Nat) (d:∀ x,(f x).length=z):∀ (l:List α) (i j:Nat) (x y:α) (u:Value),l[i]? = some x→j<z→f y=(f x).set j u→(l.flatMap f).set (i*z+j) u=(l.set i y).flatMap f
  | [],i,_,_,_,_,h,_,_=>by simp at h
  | a::l,0,j,x,y,u,h,hj,he=>by
    simp only[List.getElem?_cons_zero,Option.some.injEq]at h;subst h;rw[List.flatMap_cons,List.set_cons_zero,List.flatMap_cons,he,Nat.zero_mul,Nat.zero_add,List.set_append_left _ _ (by rw[d];exact hj)]
  | a::l,i+1,j,x,y,u,h,hj,he=>by
    simp only[List.getElem?_cons_succ]at h;rw[List.flatMap_cons,List.set_cons_succ,List.flatMap_cons,← ij_ f z d l i j x y u h hj he,List.set_append_right _ _ (by rw[d,Nat.succ_mul];omega),d]
    congr 2
    rw[Nat.succ_mul];omega
theorem vD_ {t h:TypeId} {x:Operand} {k d:IntKind} {m r:Int} {u:TypeDesc} (E:P.underlying t=some u) (B:P.underlying h=some (.int d)) (C:Fr.ev fr x=some (.int k m)) (A:IntKind.wrap d m=r):Yld P N fr H Γ (.convert t h x) ty (.int d r) :=
  fun a v y _ _ _ _ _=>by subst A;simp[execOp,y.ev C,convert,run_underlying E,run_underlying B,Conv.intToInt]
theorem wrapU {r:Int} (d:0≤r) (h:r≤18446744073709551615):IntKind.wrap .u64 r=r:=by
  simp[IntKind.wrap,IntKind.signed,IntKind.bits]
  omega
end
end Go.Sx
namespace Go.Sx
open Go
section
variable {P:Program} {N:Nf} {v0:Vw} {H0:Hp} {R:Exit→Act→World→Prop} {K:List Kt} {fr:Fr} {H F:Hp} {Γ:List Fct} {ops:Array Oper} {l:List Oper} {ty:TypeId} {ps:String} {af:Array Edge} {e:TypeId} {sz n:Nat} {sv:Value} {xs:List Value} {Hr:Hp}
theorem wR_ {α:Type} (l us:List α) (k m:Nat) (d:k+us.length≤m) (hm:m≤l.length):(l.take k++us++l.drop (k+us.length)).take m=(l.take m).take k++us++(l.take m).drop (k+us.length):=by
  rw[List.take_take,Nat.min_eq_left zaa_,List.take_append,List.take_of_length_le (by simp only[List.length_append,List.length_take];omega)]
  congr 1
  rw[List.drop_take]
  congr 1
  simp only[List.length_append,List.length_take];omega
theorem uI_ {t:TypeId} {x y:Operand} {k:Nat} {us:List Value} (d:az_ e sz sv n xs Hr) (T:H.Perm (Hr++F)) (J:∀ w,(sizeOf t).run P w=.ok sz w) (I:Fr.ev fr x=some (.pointer (some ⟨svB sv,k,none⟩))) (M:Fr.ev fr y=some (.agg us.toArray)) (O:k+sz≤n*sz) (m:us.length=sz) (U:0<sz) (B:us.all Value.oneCell'=true)
    (h:∀ Hr',az_ e sz sv n (xs.take k++us++xs.drop (k+sz)) Hr'→Ops P R N v0 H0 ops l K fr (Hr'++F) Γ):Ops P R N v0 H0 ops (⟨none,.store t x y,ty,ps,af,none⟩::l) K fr H Γ:=by
  rcases d.2 with⟨_,Q,_⟩|⟨g,cap,cur,rfl,rfl,C,S,v,G⟩
  · subst Q;simp only[Nat.zero_mul]at O;omega
  · have A:n*sz≤cap*sz:=Nat.mul_le_mul_right _ C
    have E:=d.1;refine A_ T (o_ (b:=g) (off:=k) (n:=sz) 0 J I M rfl (by simpa [Value.cells] using m) ?_ (by simpa [Value.cells] using B) ?_)
    · have L:k+sz≤cur.size:=by rw[v];omega
      simpa using L
    · refine h [(g,.cells (cur.toList.take k++us++cur.toList.drop (k+sz)).toArray e (0,0))] ⟨by simp only[List.length_append,List.length_take,List.length_drop];omega,.inr ⟨g,cap,_,rfl,rfl,C,S,?_,?_⟩⟩
      · simp only[List.size_toArray,List.length_append,List.length_take,List.length_drop,Array.length_toList,v];omega
      · show ((cur.toList.take k++us++cur.toList.drop (k+sz)).toArray).toList.take (n*sz)=_
        rw[List.toList_toArray,← G];have:=wR_ cur.toList us k (n*sz) zaa_ (by rw[Array.length_toList,v];exact A);rw[m]at this;exact this
theorem wl_ {α:Type} (f:α→List Value) (z:Nat) (d:∀ x,(f x).length=z):∀ (l:List α) (i:Nat) (y:α),i<l.length→(l.flatMap f).take (i*z)++f y++(l.flatMap f).drop (i*z+z)=(l.set i y).flatMap f
  | [],i,y,h=>by simp at h
  | a::l,0,y,h=>by
    rw[List.flatMap_cons,List.set_cons_zero,List.flatMap_cons,Nat.zero_mul,List.take_zero,List.nil_append,Nat.zero_add,List.drop_append,List.drop_of_length_le (by rw[d];exact Nat.le_refl _),d,Nat.sub_self];rfl
  | a::l,i+1,y,h=>by
    have m:i<l.length:=by simpa using h
    rw[List.flatMap_cons,List.set_cons_succ,List.flatMap_cons,← wl_ f z d l i y m,Nat.succ_mul,List.take_append,List.take_of_length_le (by rw[d];omega),List.drop_append,List.drop_of_length_le (by rw[d];omega),d];rw[show i*z+z - z=i*z by omega,show i*z+z+z - z=i*z+z by omega];simp[List.append_assoc]
end
end Go.Sx
namespace Go.Sx
open Go
section
variable {P:Program} {N:Nf} {v0:Vw} {H0:Hp} {R:Exit→Act→World→Prop} {K:List Kt} {fr:Fr} {H F:Hp} {Γ:List Fct} {ops:Array Oper} {l:List Oper} {d:Nat} {ty:TypeId} {ps:String} {af:Array Edge} {e:TypeId} {sz n:Nat} {sv:Value} {xs:List Value} {Hr:Hp}
def svK:Value→Nat
  | .slice _ _ c=>c
  | _=>0
def svT (sv:Value) (n k sz:Nat):Value:=.slice (some ⟨svB sv,k*sz,none⟩) (n - k) (svK sv - k)
theorem sh_ {x y:Operand} {t m:TypeId} {kl:IntKind} {k:Nat} (h:az_ e sz sv n xs Hr) (v:∀ w,(underlying t).run P w=.ok (.slice m) w) (B:∀ w,(sizeOf m).run P w=.ok sz w) (A:Fr.ev fr x=some sv) (C:Fr.ev fr y=some (.int kl (k:Int))) (J:k<n) :
    Yld P N fr H Γ (.slice t x (some y) none none) ty (svT sv n k sz):=by
  rcases h.2 with⟨_,L,_⟩|⟨g,cap,cur,rfl,rfl,E,M,I,G⟩
  · omega
  · refine ao_ (dH_ (i:=k) (j:=n) (kl:=kl) (kh:=.i64) v B A C rfl zaa_ E) ?_
    unfold svT sad;rw[if_neg zaa_];simp[cK_,svB,svK]
theorem wL_ {x:Operand} {t v:TypeId} {k:Nat} (h:∀ w,(underlying t).run P w=.ok (.slice v) w) (m:Fr.ev fr x=some (svT sv n k sz)):Yld P N fr H Γ (.call ⟨.builtin .len,#[x],#[t]⟩) ty (.int .i64 ((n - k:Nat):Int)):=ed_ h m
theorem rc_ {x y:Operand} {t h:TypeId} {k j:Nat} (A:∀ w,(underlying t).run P w=.ok (.slice h) w) (B:∀ w,(sizeOf h).run P w=.ok sz w) (v:Fr.ev fr x=some (svT sv n k sz)) (m:Fr.ev fr y=some (.int .i64 (j:Int))) (C:j<n - k) :
    Yld P N fr H Γ (.indexAddr t x y) ty (.pointer (some ⟨svB sv,((k+j:Nat):Int).toNat*sz,none⟩)):=by
  refine ao_ (gk_ A B v m zaa_ zaa_) ?_;rw[Int.toNat_natCast,Int.toNat_natCast,Nat.add_mul]
theorem cutRow (h:az_ e sz sv n xs Hr) {k:Nat} (A:k≤n) (J:0<n):∃ m,az_ e sz m k (xs.take (k*sz)) Hr ∧
    ∀ {N:Nf} {fr:Fr} {H:Hp} {Γ:List Fct} {ty t:TypeId} {x y:Operand},(∀ w,(underlying t).run P w=.ok (.slice e) w)→(∀ w,(sizeOf e).run P w=.ok sz w)→Fr.ev fr x=some sv→Fr.ev fr y=some (.int .i64 (k:Int))→Yld P N fr H Γ (.slice t x none (some y) none) ty m:=by
  obtain⟨hl,⟨_,L,_⟩|⟨g,cap,cur,rfl,rfl,I,hm,B,v⟩⟩:=h
  · omega
  · refine⟨.slice (some ⟨g,0,none⟩) k cap,⟨?_,.inr ⟨g,cap,cur,rfl,rfl,by omega,hm,B,?_⟩⟩,fun C E v G=>?_⟩
    · rw[List.length_take,hl];exact Nat.min_eq_left (Nat.mul_le_mul_right _ A)
    · rw[← v,List.take_take,Nat.min_eq_left (Nat.mul_le_mul_right _ A)]
    · refine ao_ (dH_ (i:=0) (j:=k) (kl:=.i64) (kh:=.i64) C E v rfl G (Nat.zero_le _) zaa_) ?_
      unfold sad;rw[if_neg zaa_];simp[cK_]
theorem uL_ {x:Operand} {t:TypeId} {k:Nat} {z:Value} (y:az_ e sz sv n xs Hr) (hH:H.Perm (Hr++F)) (hu:∀ w,(underlying t).run P w=.ok (.slice e) w) (hz:∀ w,(zeroValue e).run P w=.ok z w) (T:z.cells.size=sz) (h1:z.cells.toList.all Value.oneCell'=true) (hsz:0<sz)
    (hx:Fr.ev fr x=some (svT sv n k sz)) (hk:k<n)
    (h:∀ Hr' zs,zs.length=(n - k)*sz→az_ e sz sv n (xs.take (k*sz)++zs) Hr'→Ops P R N v0 H0 ops l K fr (Hr'++F) Γ):Ops P R N v0 H0 ops (⟨none,.call ⟨.builtin .clear,#[x],#[t]⟩,ty,ps,af,none⟩::l) K fr H Γ:=by
  rcases y.2 with⟨_,h2,_⟩|⟨g,cap,cur,rfl,rfl,Y,h4,Q,h6⟩
  · omega
  · have a0:n*sz≤cap*sz:=Nat.mul_le_mul_right _ Y
    have B:k*sz≤n*sz:=Nat.mul_le_mul_right _ zaa_;obtain⟨m,hm⟩:∃ m,n - k=m+1:=⟨n - k - 1,by omega⟩;have A:(Builtin.zeroCells z.cells (n - k)).toList.length=(n - k)*sz:=by simp[Builtin.zeroCells,T]
    have E:k*sz+(n - k)*sz=n*sz:=by rw[← Nat.add_mul];congr 1;omega
    refine A_ hH (cR_ rfl fun a v W M g3 g4=>?_);have X:=(M.own _ List.mem_cons_self).1
    have C:=run_storeCells_at P g (k*sz) e (Builtin.zeroCells z.cells (n - k)).toList 0 cur v.w X (by rw[A,Q];omega) (fun c L=>by
      have J:0<z.cells.size:=by omega
      simp only[Builtin.zeroCells,Array.toList_map,Array.toList_range,List.mem_map,List.mem_range]at L;obtain⟨i,_,rfl⟩:=L;have O:i%z.cells.size<z.cells.size:=Nat.mod_lt _ J;rw[getElem!_pos z.cells _ O];exact List.all_eq_true.1 h1 _ zaf_)
    have he:(execOp a.eval ⟨none,.call ⟨.builtin .clear,#[x],#[t]⟩,ty,ps,af,none⟩).run P v.w=.ok (.value (.tuple #[])) (v.w.setRow g (cur.toList.take (k*sz)++(Builtin.zeroCells z.cells (n - k)).toList++cur.toList.drop (k*sz+(n - k)*sz)).toArray):=by
      rw[A]at C;simp only[Nat.add_zero]at C
      have S:a.eval x=.slice (some ⟨g,k*sz,none⟩) (m+1) (cap - k):=by
        have:=W.ev hx;rw[this];unfold svT;rw[hm];rfl
      rw[hm]at C ⊢;simp[execOp,resolve,invoke,builtin,S,Builtin.clear_,hu,hz,C]
    unfold Oper.wp;rw[he];obtain⟨Z,V⟩:=eY_ (i:=0) (w':=v.w.setRow g (cur.toList.take (k*sz)++(Builtin.zeroCells z.cells (n - k)).toList++cur.toList.drop (k*sz+(n - k)*sz)).toArray) M rfl rfl rfl rfl (Nat.le_refl _) zaf_ (setRow_heap _ _ _ _ _ _ X) (fun c L=>setRow_other _ _ _ _ L);refine h [(g,.cells (cur.toList.take (k*sz)++(Builtin.zeroCells z.cells (n - k)).toList++cur.toList.drop (k*sz+(n - k)*sz)).toArray e (0,0))] (Builtin.zeroCells z.cells (n - k)).toList A ⟨?_,.inr ⟨g,cap,_,rfl,rfl,Y,h4,?_,?_⟩⟩ _ _ W Z (g3.trans V) (aD_ (V.le M) g4)
    · rw[List.length_append,List.length_take,A,y.1,Nat.min_eq_left B];exact E
    · simp only[List.size_toArray,List.length_append,List.length_take,List.length_drop,Array.length_toList,Q,A,E]
      omega
    · have G:(cur.toList.take (k*sz)).length=k*sz:=by rw[List.length_take,Array.length_toList,Q];omega
      rw[List.toList_toArray]
      apply List.ext_getElem?
      intro j;rw[List.getElem?_take]
      by_cases U:j<n*sz
      · rw[if_pos U]
        by_cases I:j<k*sz
        · rw[List.append_assoc,List.getElem?_append_left zaa_,List.getElem?_append_left (by rw[List.length_take,y.1];omega),List.getElem?_take,if_pos I,List.getElem?_take,if_pos I,← h6,List.getElem?_take,if_pos U]
        · rw[List.getElem?_append_left (by rw[List.length_append,G,A];omega),List.getElem?_append_right zaa_,G,List.getElem?_append_right (by rw[List.length_take,y.1];omega),List.length_take,y.1,Nat.min_eq_left B]
      · rw[if_neg U,List.getElem?_eq_none (by rw[List.length_append,List.length_take,A,y.1,Nat.min_eq_left B];omega)]
end
end Go.Sx
namespace Go.Vs
def cpG {α:Type} (q:α→α→Bool):α→List α→List α
  | _,[]=>[]
  | x,y::l=>if q y x then cpG q y l else y::cpG q y l
def cpL {α:Type} (q:α→α→Bool):List α→List α
  | []=>[]
  | x::l=>x::cpG q x l
theorem tP_ {α:Type} {q:α→α→Bool}:∀ (l:List α) (x z w:α),(x::l)[l.length]? = some w→cpG q x (l++[z])=cpG q x l++(if q z w then [] else [z])
 | [],x,z,w,h=>by
   simp only[List.length_nil,List.getElem?_cons_zero,Option.some.injEq]at h;subst h;simp only[List.nil_append,cpG]
 | y::l,x,z,w,h=>by
   simp only[List.length_cons,List.getElem?_cons_succ]at h;simp only[List.cons_append,cpG];have:=tP_ (q:=q) l y z w h
   split
   · exact this
   · rw[this];rfl
theorem lr_ {α:Type} {q:α→α→Bool} {l:List α} {p:Nat} {w z:α} (m:l[p]? = some w) (y:l[p+1]? = some z):cpL q (l.take (p+2))=cpL q (l.take (p+1))++(if q z w then [] else [z]):=by
  cases l with
  | nil=>simp at m
  | cons x l =>
    have v:=(List.getElem?_eq_some_iff.1 y).1;simp only[List.length_cons]at v;simp only[List.getElem?_cons_succ]at y;have e:l.take (p+1)=l.take p++[z]:=by rw[List.take_add_one,y];rfl
    rw[List.take_succ_cons,List.take_succ_cons,cpL,cpL,e,List.cons_append]
    congr 1
    have h:(l.take p).length=p:=by rw[List.length_take];omega
    refine tP_ (l.take p) x z w ?_;rw[h];cases p with
    | zero=>simpa using m
    | succ p =>
      simp only[List.getElem?_cons_succ]at m ⊢;rw[List.getElem?_take,if_pos zaa_];exact m
theorem Cs_ {α:Type} {q:α→α→Bool} (l:List α):(cpL q l).length≤l.length:=by
  cases l with
  | nil=>simp[cpL]
  | cons x l =>
    simp only[cpL,List.length_cons]
    have:∀ (l:List α) (x:α),(cpG q x l).length≤l.length:=by
      intro l
      induction l with
      | nil=>intro x;simp[cpG]
      | cons y l ih =>
        intro x;simp only[cpG];have:=ih y
        split<;>simp<;>omega
    have:=this l x;omega
theorem rU_ {α:Type} {q:α→α→Bool}:∀ (l:List α) (x z:α),z∈cpG q x l→z∈l
 | [],_,_,h=>by simp[cpG]at h
 | y::l,x,z,h=>by
   simp only[cpG]at h
   split at h
   · exact List.mem_cons_of_mem _ (rU_ l y z h)
   · rcases List.mem_cons.1 h with rfl|h
     · simp
     · exact List.mem_cons_of_mem _ (rU_ l y z h)
theorem rT_ {α:Type} {q:α→α→Bool} {l:List α} {z:α} (h:z∈cpL q l):z∈l:=by
 cases l with
 | nil=>simp[cpL]at h
 | cons x l =>
   rcases List.mem_cons.1 h with rfl|h
   · simp
   · exact List.mem_cons_of_mem _ (rU_ l x z h)
structure CmI {α:Type} (q:α→α→Bool) (S M:List α) (k p:Nat):Prop where
  len:M.length=S.length
  kp:k<p
  pl:p≤S.length
  rest:∀ j,k≤j→M[j]? = S[j]?
  fst:M.take k=cpL q (S.take p)
theorem CmI.none {α:Type} {q:α→α→Bool} {S:List α} {k:Nat} {x y:α} (v:cpL q (S.take (k+1))=S.take (k+1)) (m:S[k]? = some x) (h:S[k+1]? = some y) (A:q y x=true):CmI q S S (k+1) (k+2) :=
  ⟨rfl,by omega,by have:=(List.getElem?_eq_some_iff.1 h).1;omega,fun _ _=>rfl,by rw[lr_ m h,if_pos A,List.append_nil,v]⟩
theorem CmI.skip {α:Type} {q:α→α→Bool} {S M:List α} {k p:Nat} {x y:α} (h:CmI q S M k (p+1)) (v:M[p]? = some x) (m:M[p+1]? = some y) (A:q y x=true):CmI q S M k (p+2):=by
  have B:=h.kp;rw[h.rest p zaa_]at v;rw[h.rest (p+1) zaa_]at m;exact⟨h.len,by omega,by have:=(List.getElem?_eq_some_iff.1 m).1;omega,h.rest,by rw[lr_ v m,if_pos A,List.append_nil,h.fst]⟩
theorem CmI.keep {α:Type} {q:α→α→Bool} {S M:List α} {k p:Nat} {x y:α} (h:CmI q S M k (p+1)) (v:M[p]? = some x) (m:M[p+1]? = some y) (B:q y x=false):CmI q S (M.set k y) (k+1) (p+2):=by
 have C:=h.kp;have A:=(List.getElem?_eq_some_iff.1 m).1;rw[h.rest p zaa_]at v;rw[h.rest (p+1) zaa_]at m;refine⟨by rw[List.length_set];exact h.len,by omega,by have:=(List.getElem?_eq_some_iff.1 m).1;omega,fun j E=>?_,?_⟩
 ·rw[List.getElem?_set_ne zaa_];exact h.rest j zaa_
 rw[lr_ v m,if_neg (by rw[B];simp),← h.fst,List.take_add_one,List.take_set,List.getElem?_set_self zaa_];rw[List.set_eq_of_length_le zbR_];rfl
theorem CmI.done {α:Type} {q:α→α→Bool} {S M:List α} {k:Nat} (h:CmI q S M k S.length):M.take k=cpL q S:=by rw[h.fst,List.take_length]
theorem At_ {α:Type} {q:α→α→Bool} {S:List α} {k:Nat} {x y:α} (v:cpL q (S.take (k+1))=S.take (k+1)) (m:S[k]? = some x) (h:S[k+1]? = some y) (A:q y x=false):cpL q (S.take (k+2))=S.take (k+2):=by
  rw[lr_ m h,if_neg (by rw[A];simp),v,List.take_add_one (i:=k+1),h];rfl
theorem qN_ {α:Type} {q:α→α→Bool} {S:List α} (h:S.length<2):cpL q S=S:=by
  match S,h with
  | [],_=>rfl
  | [x],_=>rfl
end Go.Vs
