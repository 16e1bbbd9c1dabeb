/-
  Part of the proof of the law CanonAsksSpec over this seat: the small logic, the data, the contracts of functions (no condition).
-/
import Derived.Test.YtpbnmnfdgckaiaaGreatDoorQCanonAsksSpec5
import Derived.SevenTiedAt
import Derived.Stop.Joined
import Derived.Lay
import Derived.LaidMore
import Derived.Test.YtpbnmnfdgckaiaaGreatDoorQCanonAsksSpec3
import Derived.Lib.SlicesCompact
import Derived.Sort.EncStr
import Derived.Test.YtpbnmnfdgckaiaaGreatDoorQCanonAsksSpec4
import Derived.Test.YtpbnmnfdgckaiaaGreatDoorQCanonAsksSpec2
import Derived.ArgAppend
set_option linter.unusedVariables false
set_option linter.unusedSimpArgs false
set_option linter.unusedSectionVars false
set_option maxHeartbeats 1000000
namespace Go.Vs
open Go Go.Sx Go.ChangeShapes Go.WideShapes Go.ChangeAt Go.RowKit
section
variable {H:Type} {enc:TypeId×Value→H} {P:Program} {w:World}
mutual
def fc_ {H:Type}:DataW H→List Value
  | .lit (.int k n)=>[.int k n]
  | .lit (.bool b)=>[.bool b]
  | .agg ps=>jZ_ ps
  | _=>[]
def jZ_ {H:Type}:List (DataW H)→List Value
  | []=>[]
  | d::r=>fc_ d++jZ_ r
end
def hp_ (P:Program):Nat→TypeId→Bool
  | 0,_=>false
  | n+1,t=>match P.underlying t with
    | some .bool=>true
    | some (.int _)=>true
    | some (.struct fs)=>fs.toList.all fun f=>hp_ P n f.type
    | some (.array _ e)=>hp_ P n e
    | _=>false
theorem js_:∀ l:List (DataW H),jZ_ l=l.flatMap fc_
  | []=>by simp[jZ_]
  | d::r=>by simp only[jZ_,js_ r,List.flatMap_cons]
theorem tile:∀ (e:List Nat) (cs:List Value) (g:List (List Value)),cs.length=e.sum→g.length=e.length→(∀ j n,e[j]? = some n→some ((cs.drop (e.take j).sum).take n)=g[j]?)→cs=g.flatten
  | [],cs,g,h,hg,_=>by
    simp only[List.sum_nil]at h;have A:=List.eq_nil_of_length_eq_zero h;have B:g=[]:=List.eq_nil_of_length_eq_zero hg;simp[A,B]
  | n::e,cs,[],h,hg,hp=>by simp at hg
  | n::e,cs,x::g,h,hg,hp=>by
    have q:=hp 0 n rfl;simp only[List.take_zero,List.sum_nil,List.drop_zero,List.getElem?_cons_zero,Option.some.injEq]at q
    have C:=tile e (cs.drop n) g (by rw[List.length_drop,h];simp) (by simpa using hg) (fun j m y=>by
      have:=hp (j+1) m y;simp only[List.take_succ_cons,List.sum_cons,List.getElem?_cons_succ]at this;rw[← this,List.drop_drop])
    rw[List.flatten_cons,← C,← q,List.take_append_drop]
theorem vE_ {T:TypeId→Prop} {E:Bool} (K:Kids P T):∀ (n m:Nat) (t:TypeId) (cs:List Value) (x:DataW H×List MemPlace),T t→hp_ P m t=true→DataW.trod enc P w 0 (fun _=>true) E n t cs=some x→cs=fc_ x.1:=by
 intro n
 induction n with
 | zero=>intro m t cs x _ _ h;simp[DataW.trod]at h
 | succ n ih =>
   intro m t cs x O C h;cases m with
   | zero=>simp[hp_]at C
   | succ m =>
   cases hu:P.underlying t with
   | none=>simp[hp_,hu]at C
   | some d =>
     cases d with
     | bool=>obtain⟨b,rfl,rfl⟩:=DataW.trod_bool hu h;simp[fc_]
     | int k=>obtain⟨b,rfl,rfl,_⟩:=DataW.trod_int hu h;simp[fc_]
     | struct fs =>
       obtain⟨L,N,S,rfl,hl,y,J⟩:=DataW.trod_struct hu h;obtain rfl:N=n:=by omega
       obtain⟨k1,k2,R⟩:=K.struct O hu;simp only[hp_,hu]at C;simp only[fc_];rw[js_,List.flatMap_def,List.map_map];refine tile (fs.toList.map fun f=>P.cellsOf f.type) cs _ (by rw[hl,k2]) (by simp[y]) fun j q B=>?_;rw[List.getElem?_map,Option.map_eq_some_iff]at B;obtain⟨f,A,rfl⟩:=B;have F:=J j f (by simpa using A);have Q:=R j f A;have I:j<L.length:=by rw[y];have:=(List.getElem?_eq_some_iff.1 A).1;simpa using this
       rw[List.getElem?_eq_getElem I]at F;have M:=ih m f.type _ _ (k1 f (List.mem_of_getElem? A)) (List.all_eq_true.1 C f (List.mem_of_getElem? A)) F;rw[List.getElem?_map,List.getElem?_eq_getElem I,← List.map_take,← Q,M];rfl
     | array len e =>
       obtain⟨L,N,S,rfl,hl,y,J⟩:=DataW.trod_array hu h;obtain rfl:N=n:=by omega
       obtain⟨k1,k2⟩:=K.array O hu;simp only[hp_,hu]at C;simp only[fc_];rw[js_,List.flatMap_def,List.map_map];refine tile (List.replicate len (P.cellsOf e)) cs _ (by rw[hl,k2];simp) (by simp[y]) fun j q B=>?_;rw[List.getElem?_replicate]at B
       split at B
       · rename_i I
         simp only[Option.some.injEq]at B;subst B;have F:=J j I;have G:j<L.length:=by omega
         rw[List.getElem?_eq_getElem G]at F;have M:=ih m e _ _ k1 C F;rw[List.getElem?_map,List.getElem?_eq_getElem G,List.take_replicate,List.sum_replicate_nat,Nat.min_eq_left za_,M];rfl
       · cases B
     | _=>simp[hp_,hu]at C
end
section
variable {H:Type} {enc:TypeId×Value→H} {P:Program} {W W':World}
theorem jj_:∀ {ts:List TypeId} {vs:List Value} {ds:List (DataW H)} {ps:List MemPlace} {sp:Nat→Bool},DataW.TrodAll enc P W 0 sp true ts vs ds ps→(∀ p∈ps,W.sameAt W' p)→DataW.TrodAll enc P W' 0 sp true ts vs ds ps
  | [],[],[],_,_,h,_=>h
  | _::_,_::_,_::_,_,_,⟨p,q,⟨n,h1⟩,h2,e⟩,hs=>⟨p,q,⟨n,DataW.trod_carry n _ _ _ h1 (fun x y=>hs x (by rw[e];exact List.mem_append_left _ y))⟩,jj_ h2 (fun x y=>hs x (by rw[e];exact List.mem_append_right _ y)),e⟩
theorem vV_ {T:TypeId→Prop} (K:Kids P T) (hz:∀ t e,T t→P.underlying t=some (.slice e)→0<P.cellsOf e) {f:Func} {s:ChangeSpec} {args:Array Value} {J:List (DataW H)} {before:List MemPlace} {Y:TypeId} (M:∀ t∈f.params.toList,T t) (y:s.vars=[])
    (Z:DataW.Whole enc P f.params.toList s.vars false W args.toList J [] before) (U:s.fn H (J++[])={ results:=[.lit (.bool true)],args:=J }) (I:f.resultTypes=#[Y]) (N:P.underlying Y=some .bool) {L:Vw} (E:(vw W).to [] L []) :
    s.post enc P f false true false false W args (.bool true) L.w:=by
  have S:=Z;obtain⟨p,q,R,V,hp,_,_⟩:=Z;have hq:q=[]:=by rw[y]at V;exact V
  subst hq;simp only[List.append_nil]at hp;subst hp;have A:∀ b,b<W.heap.size→L.w.heap[b]? = W.heap[b]? := fun b N=>E.block b N zj_
  have C:∀ x∈before,W.sameAt L.w x:=fun x O=>by
    have G:=DataW.TrodAll.lt R x O;cases x with
    | cell b off=>exact World.cell?_of_block (A b G)
    | map b=>exact A b G
  have Q:=jj_ R C;have F:=DataW.TrodAll.respare K hz (spare':=fun b=>decide (b<W.heap.size)) M Q (fun x O=>by simpa using DataW.TrodAll.lt R x O);refine⟨J,[],before,[],before,[],S,?_,?_,?_,⟨E.os,E.output,fun i hi=>?_⟩,fun h=>by cases h⟩
  · rw[U,I];exact trodAll_mk1 (shut_bool N true)
  · rw[U];exact F
  · rw[U,y];rfl
  · rw[A i hi]
    have B:∃ o,W.heap[i]? = some o:=⟨_,Array.getElem?_eq_getElem hi⟩;obtain⟨o,ho⟩:=B;rw[ho];cases o<;>simp
section
variable {tI tB tS tSs tC tCs tA tAs tP tPs:TypeId} (X:Tys P tI tB tS tSs tC tCs tA tAs tP tPs) {base:Nat} {v:Value} {d:DataW H} {ps:List MemPlace}
include X
theorem pO_ (q:Value.okWide P W .any base tS v) (h:DataW.Trod enc P W 0 (fun _=>true) true tS v d ps) (A:wok (d.weights P tS)):∃ s:Str,v=str s∧s.length≤140737488351232:=by
  obtain⟨B,rfl⟩:=okWide_string X.s q;obtain⟨n,y⟩:=h;obtain⟨s,e,x⟩:=str_of X y A;simp only[Value.cells,List.cons.injEq,and_true]at e;exact⟨s,e,x⟩
end
theorem jP_ {T:TypeId→Prop} (K:Kids P T) {name:String} {d:DataW Unit} {y:List (String×DataW Unit)} {W:World} (h:laidMet P y W) (hm:(name,d)∈y) {g:Nat} {t:TypeId} (M:P.globalNamed name=some g) (E:(P.globals[g]?).map (·.type)=some t) (O:T t) {m:Nat} (N:hp_ P m t=true) :
    ∃ F fz,W.heap[g]? = some (.cells (fc_ d).toArray F fz):=by
  obtain⟨ps,hl,_,_⟩:=h
  have J:∀ (l:List (String×DataW Unit)) (ps:List MemPlace),DataW.LaidVars P W l ps→(name,d)∈l→∃ g t cs n p,P.globalNamed name=some g∧(P.globals[g]?).map (·.type)=some t∧W.var? P name=some cs∧DataW.trod (fun _=>()) P W 0 (fun _=>true) false n t cs.toList=some (d,p):=by
    intro l
    induction l with
    | nil=>intro ps _ h;cases h
    | cons x r ih =>
      intro ps h hm;obtain⟨n',U⟩:=x;obtain⟨g,t,cs,B,p,q,G,C,A,I,R,_⟩:=h;rcases List.mem_cons.1 hm with e|hm
      · cases e;exact⟨g,t,cs,B,p,G,C,A,I⟩
      · exact ih q R hm
  obtain⟨S,L,cs,n,p,G,C,A,I⟩:=J y ps hl hm;obtain rfl:S=g:=Option.some.inj (G.symm.trans M);obtain rfl:L=t:=Option.some.inj (C.symm.trans E);have e:=vE_ K n m L cs.toList _ O N I;simp only[World.var?,M,Option.bind_some]at A
  split at A
  · rename_i c F fz Q
    simp only[Option.some.injEq]at A;subst A;exact⟨F,fz,by rw[Q,← e]⟩
  · cases A
end
end Go.Vs
namespace Go.Vs
open Go Go.Sx
theorem jL_ {s:Str} (h:id_ s=true):∃ c t,s=c::t∧eL_ c=true∧lA_ s=true:=by
  cases s with
  | nil=>simp[id_]at h
  | cons c t =>
    simp only[id_,Bool.and_eq_true]at h;exact⟨c,t,rfl,h.1.1.2,h.1.2⟩
theorem rT_ {s:Str} (h:bi_ s=true):∃ c t,s=c::t∧eL_ c=true:=by
  unfold bi_ at h;simp only[Bool.and_eq_true]at h;cases hx:ixS 58 s with
  | none=>rw[hx]at h;obtain⟨c,t,e,q,_⟩:=jL_ h.2;exact⟨c,t,e,q⟩
  | some k =>
    rw[hx]at h;simp only[Bool.and_eq_true]at h;obtain⟨c,t,e,q,_⟩:=jL_ h.2.1;cases s with
    | nil=>simp at e
    | cons d u =>
      cases k with
      | zero=>simp at e
      | succ k=>simp only[List.take_succ_cons,List.cons.injEq]at e;exact⟨d,u,rfl,e.1▸q⟩
theorem mE_ {s:Str} (h:lA_ s=true):∀ c∈s,fA_ c=true:=fun c d=>List.all_eq_true.1 h c d
theorem ui_ {c:UInt8} {s:Str} {k:Nat} (h:ixS c s=some k):s=s.take k++c::s.drop (k+1):=by
 induction s generalizing k with
 | nil=>simp[ixS]at h
 | cons b s ih =>
   simp only[ixS]at h
   split at h
   · rename_i d
     simp only[Option.some.injEq]at h;subst h;subst d;simp
   · cases hx:ixS c s with
     | none=>rw[hx]at h;simp at h
     | some j =>
       rw[hx]at h;simp only[Option.map_some,Option.some.injEq]at h;subst h;simp only[List.take_succ_cons,List.drop_succ_cons,List.cons_append];rw[← ih hx]
theorem tV_ {s:Str} (h:bi_ s=true):∀ c∈s,fA_ c=true∨c=58:=by
 unfold bi_ at h;simp only[Bool.and_eq_true]at h;cases hx:ixS 58 s with
 | none=>rw[hx]at h;obtain⟨_,_,_,_,e⟩:=jL_ h.2;exact fun c d=>.inl (mE_ e c d)
 | some k =>
   rw[hx]at h;simp only[Bool.and_eq_true]at h;obtain⟨_,_,_,_,e⟩:=jL_ h.2.1;obtain⟨_,_,_,_,q⟩:=jL_ h.2.2;intro c d;rw[ui_ hx]at d;rcases List.mem_append.1 d with d|d
   · exact .inl (mE_ e c d)
   · rcases List.mem_cons.1 d with rfl|d
     · exact .inr rfl
     · exact .inl (mE_ q c d)
theorem lH_ {c:UInt8}:∀ {s:Str},c ∉ s→ixS c s=none
  | [],_=>rfl
  | b::s,h=>by
    simp only[List.mem_cons,not_or]at h;simp only[ixS];rw[if_neg (fun e=>h.1 e.symm),lH_ h.2];rfl
theorem ip_ {s:Str} (h:bi_ s=true):bc_ 46 s=[s] :=
  gr_ (lH_ fun hm=>by rcases tV_ h 46 hm with h|h<;>revert h<;>decide)
theorem de_ {s:Str} (h:bi_ s=true):aO_ s=true:=by simp[aO_,h]
theorem du_ {s:Str} (h:bi_ s=true):cB_ s=true:=by
  unfold cB_;rw[ip_ h];simp[de_ h]
theorem mM_ (c:UInt8):∀ (f r:Str),bc_ c (f++[c]++r)=bc_ c f++bc_ c r
 | [],r=>by simp[bc_]
 | b::f,r=>by
   have d:=mM_ c f r;simp only[List.append_assoc,List.cons_append,List.nil_append]at d ⊢
   by_cases e:b=c
   · subst e;simp only[bc_,if_true,d,List.cons_append]
   · simp only[bc_,e,if_false,d]
     cases hs:bc_ c f with
     | nil=>exact absurd hs (kE_ c f)
     | cons x t=>simp
theorem sb_ {c:UInt8} (h:eL_ c=true):c≠42∧c≠33∧c≠123∧c≠60∧c≠95:=by
  refine⟨?_,?_,?_,?_,?_⟩<;>rintro rfl<;>revert h<;>decide
theorem sw_ {s:Str} (h:bi_ s=true):be_ s=true:=by
  obtain⟨c,t,rfl,q⟩:=rT_ h;obtain⟨e,y,d,x,_⟩:=sb_ q;unfold be_;rw[if_neg (by simp[e,y]),if_neg zS_,if_neg (by simp[x])];exact de_ h
theorem kv_ {s:Str} (h:aO_ s=true):be_ ([123]++s++[125])=true:=by
  unfold be_;have e:([123]++s++[125]).length=s.length+2:=by simp
  rw[if_neg zj_,if_pos (by
    refine⟨by omega,by simp,?_⟩;rw[List.getElem?_append_right zj_];simp)]
  rw[e];have:(List.drop 1 ([123]++s++[125])).take (s.length+2 - 1 - 1)=s:=by simp
  rw[this];exact h
theorem sx_ {t:Str} (h:t≠[]):be_ ([60]++t++[62])=true:=by
  unfold be_;have hl:0<t.length:=List.length_pos_iff.2 h;have e:([60]++t++[62]).length=t.length+2:=by simp
  rw[if_neg zj_,if_neg zj_,if_pos (by
    refine⟨by omega,by simp,?_⟩;rw[List.getElem?_append_right zj_];simp)]
namespace Con
def dep:Con→Nat
  | mk _ _ _ _ _ _ ps=>deps ps
where deps:List Con→Nat
  | []=>0
  | p::ps=>max (1+dep p) (deps ps)
theorem pH_ {p:Con}:∀ {ps:List Con},p∈ps→1+p.dep≤dep.deps ps
 | q::ps,h=>by
   rcases List.mem_cons.1 h with rfl|h
   · simp only[dep.deps];omega
   · have:=pH_ h;simp only[dep.deps];omega
theorem pI_ (c:Con):c.dep=dep.deps c.parts:=by cases c;rfl
theorem sz_eq (c:Con):c.sz=1+sz.szs c.parts:=by cases c;rfl
theorem rb_:∀ (m:Nat) (c:Con),c.sz≤m→∀ d n,(c.fits d n).1=true↔d+c.dep≤8∧n+c.sz≤64
 | 0,c,h=>by have:=c.sz_pos;omega
 | m+1,c,h=>fun d n=>by
   have B:∀ ps:List Con,(∀ p∈ps,p.sz≤m)→∀ n,n≤64→((fits.fitss ps (d+1) n).1=true↔(∀ p∈ps,d+1+p.dep≤8)∧n+sz.szs ps≤64):=by
     intro ps
     induction ps with
     | nil=>intro _ n C;simp[fits.fitss,sz.szs,C]
     | cons p ps ih =>
       intro e n C;have x:=rb_ m p (e p zj_) (d+1) n;simp only[fits.fitss,sz.szs,List.mem_cons,forall_eq_or_imp];rcases y:p.fits (d+1) n with⟨b,q⟩
       rw[y]at x;cases b with
       | true =>
         have E:=pC_ _ p (Nat.le_refl _) (d+1) n zaz_;rw[y]at E;simp only at E x ⊢;have F:=x.1 trivial;rw[ih (fun r G=>e r (by simp[G])) q za_];constructor
         · rintro ⟨a,b⟩;exact⟨⟨F.1,a⟩,by omega⟩
         · rintro ⟨⟨_,a⟩,b⟩;exact⟨a,by omega⟩
       | false =>
         simp only[Bool.false_eq_true,false_iff]at x ⊢;rintro ⟨⟨a,_⟩,b⟩;exact x ⟨a,by omega⟩
   have I:=pI_ c;have H:=sz_eq c;rw[fits_eq]
   split
   · rename_i A
     simp only[Bool.or_eq_true,decide_eq_true_eq]at A;simp only[Bool.false_eq_true,false_iff];rintro ⟨a,b⟩;omega
   · rename_i A
     simp only[Bool.or_eq_true,decide_eq_true_eq,not_or]at A;rw[B c.parts (fun p e=>by have:=sz_part e;omega) (n+1) za_,I,H];constructor
     · rintro ⟨a,b⟩
       refine⟨?_,by omega⟩
       have:∀ ps:List Con,(∀ p∈ps,d+1+p.dep≤8)→d+dep.deps ps≤8:=by
         intro ps
         induction ps with
         | nil=>intro _;simp[dep.deps];omega
         | cons p ps ih =>
           intro e;have x:=e p zj_;have F:=ih fun q y=>e q (by simp[y])
           simp only[dep.deps];omega
       exact this _ a
     · rintro ⟨a,b⟩
       exact⟨fun p e=>by have:=pH_ e;omega,by omega⟩
theorem check_iff (c:Con):c.check=0↔c.dep≤8∧c.sz≤64∧c.fine:=by
 unfold check fine;have h:=rb_ _ c (Nat.le_refl _) 0 0
 by_cases d:(c.fits 0 0).1=true
 ·rw[if_pos d]
  have:=h.1 d;constructor
  ·intro e;exact⟨by omega,by omega,e⟩
  exact fun e=>e.2.2
 rw[if_neg d];constructor
 ·intro e;cases e
 intro e;exact absurd (h.2 ⟨by omega,by omega⟩) d
theorem check_part {c p:Con} (h:c.check=0) (d:p∈c.parts):p.check=0:=by
  rw[check_iff]at h ⊢;have e:=pH_ d;rw[← pI_]at e;have q:=sz_part d;exact⟨by omega,by omega,fine_part h.2.2 d⟩
structure Names (c:Con):Prop where
  plain:c.kind=3∨c.kind=6∨c.kind=7→bi_ c.name=true
  person:c.kind=4→aO_ c.name=true
  nums:c.kind=7→-1099511627776≤c.lo∧c.lo≤c.hi∧c.hi≤1099511627776
theorem names_of {c:Con} (h:c.fine):Names c:=by
 have F:=fields h;have hk:c.kind=1∨c.kind=2∨c.kind=3∨c.kind=4∨c.kind=5∨c.kind=6∨c.kind=7:=by have:=F.k1;have:=F.k7;omega
 have d:=((kl_ c).1 h).1;unfold fieldErr at d;rw[if_neg (by have:=F.k1;have:=F.k7;omega)]at d
 split at d
 ·cases d
 split at d
 ·cases d
 rename_i x
 split at d
 ·cases d
 split at d
 ·rename_i q
  refine⟨fun e=>?_,fun e=>?_,fun e=>?_⟩
  ·rcases e with e|e|e<;>rw[e]at q<;>simpa [nd,ez_] using q
  ·rw[e]at q
   simp[nd,ez_]at q
   simp[aO_,q]
  rw[e]at x;simp[nd,ez_]at x
  omega
 cases d
theorem nt_ (x y:Str) (r:List Str) (d:Str):Lib.join (x::y::r) d=x++d++Lib.join (y::r) d:=by simp[Lib.join,List.intercalate]
theorem xd_ {c:Con} (h:c.fine) (hk:5≤c.kind):c.text≠[]:=by
 have F:=fields h;have e:=F.k7;rw[text_eq,if_neg za_,if_neg za_,if_neg za_,if_neg za_]
 split
 ·rename_i d
  have hl:=F.le;rw[d]at hl;simp[nd,ez_]at hl
  match hp:c.parts,hl with
  | [],hl=>simp at hl
  | [_],hl=>simp at hl
  | p::q::r,_=>simp only[List.map_cons,nt_];simp
 split
 ·simp only[nt_];simp
 simp only[nt_];simp
theorem atom_ok {c:Con} (h:c.check=0):be_ c.atom=true:=by
 have d:=(check_zero h).1;have F:=fields d;have N:=names_of d;have q:=F.k1;have e:=F.k7;unfold atom
 split
 ·rfl
 split
 ·rfl
 split
 ·exact sw_ (N.plain za_)
 split
 ·exact kv_ (N.person za_)
 unfold textN;rw[if_pos h];exact sx_ (xd_ d za_)
theorem atom_len {c:Con} (d:c.ok) (h:c.check=0):c.atom.length≤7000:=by
  have F:=fields (check_zero h).1;have q:=F.nm;have e:=textN_len d;unfold atom
  repeat' split
  all_goals simp<;>omega
theorem tR_ {c:Con} (h:c.check=0) (hk:c.kind=5) {j:Nat} (H:2≤j) (B:j≤c.parts.length):(c.pre j).check=0:=by
 have y:=(check_zero h).1;have F:=fields y;have e:=F.mo;rw[hk]at e;simp[nd,ez_]at e
 rw[check_iff]at h ⊢
 have x:∀ (ps:List Con) (j:Nat),sz.szs (ps.take j)≤sz.szs ps∧dep.deps (ps.take j)≤dep.deps ps:=by
   intro ps
   induction ps with
   | nil=>intro j;simp
   | cons p ps ih =>
     intro j;cases j with
     | zero=>simp[sz.szs,dep.deps]
     | succ j=>have:=ih j;simp only[List.take_succ_cons,sz.szs,dep.deps];omega
 have C:=x c.parts j;have E:=pI_ c;have G:=sz_eq c;refine⟨?_,?_,?_⟩
 ·rw[pI_];show dep.deps (c.parts.take j)≤8;omega
 ·rw[sz_eq];show 1+sz.szs (c.parts.take j)≤64;omega
 rw[kl_];refine⟨?_,fun p A=>fine_part y (List.mem_of_mem_take A)⟩;unfold fieldErr;have d:(c.pre j).parts.length=j:=by show (c.parts.take j).length=j;simp;omega
 rw[if_neg (by show ¬ ((5:Int)<1∨7<(5:Int));omega)];simp only[d];have q:(c.pre j).kind=5:=rfl;rw[q];simp[nd,ez_,pre,name,lo,hi]
 omega
end Con
structure PQ (f:Int) (q:Pc):Prop where
  frm:q.frm=f
  sm:q.sm
  ok:q.valid=true
section
variable {f:Int} (h0:-1≤f) (h1:f<1024) {a b c r s t:Str} {lo hi:Int}
include h0 h1
theorem uN_ (e:be_ a=true) (d:be_ c=true):Pc.valid ⟨1,a,[],c,[],[],[],0,0,f⟩=true:=by
  unfold Pc.valid;rw[if_neg zn_];simp[nus,gu_,bZ_,e,d]
theorem val2 (h:be_ a=true) (d:be_ b=true) (e:be_ c=true):Pc.valid ⟨2,a,b,c,[],[],[],0,0,f⟩=true:=by
  unfold Pc.valid;rw[if_neg zn_];simp[nus,gu_,bZ_,h,d,e]
theorem val3 (h:be_ a=true) (e:cB_ r=true) (d:be_ c=true):Pc.valid ⟨3,a,[],c,r,[],[],0,0,f⟩=true:=by
  unfold Pc.valid;rw[if_neg zn_];simp[nus,gu_,bZ_,h,e,d]
theorem val4 (h:be_ a=true) (e:cB_ r=true) (d:be_ c=true):Pc.valid ⟨4,a,[],c,r,[],[],0,0,f⟩=true:=by
  unfold Pc.valid;rw[if_neg zn_];simp[nus,gu_,bZ_,h,e,d]
theorem val5 (e:cB_ r=true) (d:cB_ t=true):Pc.valid ⟨5,[],[],[],r,[],t,0,0,f⟩=true:=by
  unfold Pc.valid;rw[if_neg zn_];simp[nus,gu_,bZ_,e,d]
theorem val6 (h:cB_ r=true) (d:cB_ s=true) (e:cB_ t=true):Pc.valid ⟨6,[],[],[],r,s,t,0,0,f⟩=true:=by
  unfold Pc.valid;rw[if_neg zn_];simp[nus,gu_,bZ_,h,d,e]
theorem val7 (d:cB_ r=true):Pc.valid ⟨7,[],[],[],r,[],[],0,0,f⟩=true:=by
  unfold Pc.valid;rw[if_neg zn_];simp[nus,gu_,bZ_,d]
theorem val8 (e:be_ a=true) (d:aO_ r=true) (h:-1099511627776≤lo∧lo≤hi∧hi≤1099511627776):Pc.valid ⟨8,a,[],[],r,[],[],lo,hi,f⟩=true:=by
  unfold Pc.valid;rw[if_neg zn_,if_neg (by simp[nus,gu_];omega)];simp[nus,gu_,bZ_,e,d]
theorem val9 (d:be_ c=true) (e:aO_ r=true) (h:-1099511627776≤lo∧lo≤hi∧hi≤1099511627776):Pc.valid ⟨9,[],[],c,r,[],[],lo,hi,f⟩=true:=by
  unfold Pc.valid;rw[if_neg zn_,if_neg (by simp[nus,gu_];omega)];simp[nus,gu_,bZ_,d,e]
end
theorem do_ {Q:Pc→Prop} {f:Int} {l:List Pc} {p:Pc} (hl:∀ q∈l,Q q) (e:Q { p with frm:=f }):∀ q∈ins f l p,Q q:=by
 unfold ins
 split
 ·exact hl
 intro q d;rcases List.mem_append.1 d with d|d
 ·exact hl q d
 simp only[List.mem_singleton]at d;subst d;exact e
theorem dF_ {s:Str} (h:bi_ s=true):s.length≤24:=Con.plain_len h
theorem kL_ {s:Str} (h:aO_ s=true):s.length≤24:=by
 simp only[aO_,Bool.or_eq_true]at h;rcases h with h|h
 ·exact Con.plain_len h
 exact Con.reserved_len h
namespace Con
section
variable {f:Int} (h0:-1≤f) (h1:f<1024)
include h0 h1
theorem rv_ (c:Con) (e:c.ok) (h:c.check=0) (hk:c.kind=5):∀ (r:List Con) (j:Nat) (a:Str) (l:List Pc),1≤j→j+r.length≤c.parts.length→(∀ p∈r,p∈c.parts)→be_ a=true→a.length≤7000→(∀ q∈l,PQ f q)→∀ q∈andP f c r j a l,PQ f q
  | [],_,_,l,_,_,_,_,_,hl=>hl
  | p::r,j,a,l,hj,hlen,hm,ha,hal,hl=>by
    simp only[List.length_cons]at hlen;have x:=hm p zj_;have d:=tR_ h hk (j:=j+1) za_ za_;have y:=atom_ok d;have C:=atom_len (pre_ok e (j+1)) d;have B:=atom_ok (check_part h x);have E:=atom_len (ok_part e x) (check_part h x);simp only[andP]
    exact rv_ c e h hk r (j+1) _ _ za_ za_ (fun q A=>hm q (by simp[A])) y C
      (do_ hl ⟨rfl,⟨by dsimp only;omega,by dsimp only;omega,by dsimp only;omega,by simp,by simp,by simp⟩,val2 h0 h1 ha B y⟩)
theorem leftP_all:∀ (m:Nat) (c:Con),c.sz≤m→c.ok→c.check=0→∀ l,(∀ q∈l,PQ f q)→∀ q∈c.leftP f l,PQ f q
 | 0,c,h=>by have:=c.sz_pos;omega
 | m+1,c,h=>fun y A l hl=>by
   have E:∀ ps:List Con,(∀ p∈ps,p∈c.parts)→∀ l,(∀ q∈l,PQ f q)→∀ q∈leftP.lefts f ps l,PQ f q:=by
     intro ps
     induction ps with
     | nil=>intro _ l hl;exact hl
     | cons p ps ih =>
       intro B l hl;have d:=B p zj_;exact ih (fun q C=>B q (by simp[C])) _ (leftP_all m p (by have:=sz_part d;omega) (ok_part y d) (check_part A d) l hl)
   have hk:=E c.parts (fun _ h=>h) l hl;have F:=fields (check_zero A).1;have N:=names_of (check_zero A).1;have ca:=atom_ok A;have cl:=atom_len y A;rw[leftP_eq]
   split
   · rename_i J
     have e:=F.le;rw[J]at e;simp[nd,ez_]at e
     match B:c.parts,e with
     | [],e=>simp at e
     | p::r,_ =>
       have d:p∈c.parts:=by rw[B];simp
       have G:=atom_ok (check_part A d);have K:=atom_len (ok_part y d) (check_part A d);refine rv_ h0 h1 c y A J _ 1 _ _ za_ (by rw[B];simp;omega) (fun q C=>by rw[B];exact List.mem_of_mem_drop C) (by simpa using G) (by simpa using K) (by rw[B]at hk;exact hk)
   · split
     · rename_i I
       have e:=F.le;rw[I]at e;simp[nd,ez_]at e
       have x:=N.plain (.inr (.inl I))
       match B:c.parts,e with
       | [],e=>simp at e
       | p::r,_ =>
         have d:p∈c.parts:=by rw[B];simp
         have G:=atom_ok (check_part A d);have K:=atom_len (ok_part y d) (check_part A d);have L:=dF_ x;rw[B]at hk;exact do_ hk ⟨rfl,⟨by simp;omega,by simp,by dsimp only;omega,by dsimp only;omega,by simp,by simp⟩,val4 h0 h1 (by simpa using G) (du_ x) ca⟩
     · split
       · rename_i H
         have x:=N.plain (.inr (.inr H));have L:=dF_ x;exact do_ hl ⟨rfl,⟨by simp,by simp,by dsimp only;omega,by dsimp only;omega,by simp,by simp⟩,val9 h0 h1 ca (de_ x) (N.nums H)⟩
       · exact hl
theorem rightP_all:∀ (m:Nat) (c:Con),c.sz≤m→c.ok→c.check=0→∀ l,(∀ q∈l,PQ f q)→∀ q∈c.rightP f l,PQ f q
 | 0,c,h=>by have:=c.sz_pos;omega
 | m+1,c,h=>fun x A l hl=>by
   have ca:=atom_ok A;have cl:=atom_len x A
   have G:∀ ps:List Con,(∀ p∈ps,p∈c.parts)→∀ l,(∀ q∈l,PQ f q)→∀ q∈rightP.rights f c.atom ps l,PQ f q:=by
     intro ps
     induction ps with
     | nil=>intro _ l hl;exact hl
     | cons p ps ih =>
       intro B l hl;have d:=B p zj_;have H:=atom_ok (check_part A d);have K:=atom_len (ok_part x d) (check_part A d)
       exact ih (fun q E=>B q (by simp[E])) _ (rightP_all m p (by have:=sz_part d;omega) (ok_part x d) (check_part A d) _
         (do_ hl ⟨rfl,⟨by dsimp only;omega,by simp,by dsimp only;omega,by simp,by simp,by simp⟩,uN_ h0 h1 ca H⟩))
   have C:∀ ps:List Con,(∀ p∈ps,p∈c.parts)→∀ l,(∀ q∈l,PQ f q)→∀ q∈rightP.righty f ps l,PQ f q:=by
     intro ps
     induction ps with
     | nil=>intro _ l hl;exact hl
     | cons p ps ih =>
       intro B l hl;have d:=B p zj_;exact ih (fun q E=>B q (by simp[E])) _ (rightP_all m p (by have:=sz_part d;omega) (ok_part x d) (check_part A d) l hl)
   have F:=fields (check_zero A).1;have N:=names_of (check_zero A).1;rw[rightP_eq]
   split
   · exact G c.parts (fun _ h=>h) l hl
   · split
     · rename_i J
       have y:=F.le;rw[J]at y;simp[nd,ez_]at y
       have e:=N.plain (.inr (.inl J));have L:=dF_ e;refine C c.parts (fun _ h=>h) _ (do_ hl ?_)
       match B:c.parts,y with
       | [],y=>simp at y
       | p::r,_ =>
         have d:p∈c.parts:=by rw[B];simp
         have H:=atom_ok (check_part A d);have K:=atom_len (ok_part x d) (check_part A d);exact⟨rfl,⟨by dsimp only;omega,by simp,by simp;omega,by dsimp only;omega,by simp,by simp⟩,val3 h0 h1 ca (du_ e) (by simpa using H)⟩
     · split
       · rename_i I
         have e:=N.plain (.inr (.inr I));have L:=dF_ e;exact do_ hl ⟨rfl,⟨by dsimp only;omega,by simp,by simp,by dsimp only;omega,by simp,by simp⟩,val8 h0 h1 ca (de_ e) (N.nums I)⟩
       · exact hl
end
end Con
namespace Ax
section
variable {f:Int} (h0:-1≤f) (h1:f<1024)
include h0 h1
theorem nP_ (role:Str) (E:bi_ role=true):∀ (F:List Str) (g:Str) (l:List Pc),(∀ r∈F,bi_ r=true)→(bc_ 46 g).length+F.length≤4→((bc_ 46 g).all aO_=true)→g.length≤100*(bc_ 46 g).length→(∀ q∈l,PQ f q)→∀ q∈chainP f role F g l,PQ f q
 | [],_,_,_,_,_,_,hl=>hl
 | r::t,g,l,hp,hn,hg,hgl,hl=>by
   have d:=hp r zj_;have K:=dF_ d;have I:=dF_ E;simp only[List.length_cons]at hn
   have C:cB_ g=true:=by
     unfold cB_;rw[decide_eq_true za_];simp only[Bool.true_and,Bool.not_eq_true'];rw[List.any_eq_false];intro y H;simp[List.all_eq_true.1 hg y H]
   simp only[chainP]
   by_cases G:t=[]
   · subst G
     simp only[if_true,chainP];exact do_ hl ⟨rfl,⟨by simp,by simp,by simp,by dsimp only;omega,by dsimp only;omega,by dsimp only;omega⟩,val6 h0 h1 C (du_ d) (du_ E)⟩
   · simp only[G,if_false]
     have L:0<t.length:=List.length_pos_iff.2 G;have e:=mM_ 46 g r;rw[ip_ d]at e;have h:(bc_ 46 (g++[46]++r)).all aO_=true:=by rw[e,List.all_append,hg];simp[de_ d]
     have B:(bc_ 46 (g++[46]++r)).length=(bc_ 46 g).length+1:=by rw[e];simp
     have x:(g++[46]++r).length≤100*(bc_ 46 (g++[46]++r)).length:=by rw[B];simp;omega
     have A:cB_ (g++[46]++r)=true:=by
       unfold cB_;rw[decide_eq_true za_];simp only[Bool.true_and,Bool.not_eq_true'];rw[List.any_eq_false];intro y H;simp[List.all_eq_true.1 h y H]
     exact nP_ role E t _ _ (fun q J=>hp q (by simp[J])) za_ h x
       (do_ hl ⟨rfl,⟨by simp,by simp,by simp,by dsimp only;omega,by dsimp only;omega,by dsimp only;omega⟩,val6 h0 h1 C (du_ d) A⟩)
theorem pieces_all {x:Ax} (d:x.ok) (B:x.check=0):∀ q∈x.pieces f,PQ f q:=by
 have G:=good_of B;have L:=fun (c:Con) (d:c.ok) (B:c.check=0)=>Con.leftP_all h0 h1 _ c (Nat.le_refl _) d B
 have F:=fun (c:Con) (d:c.ok) (B:c.check=0)=>Con.rightP_all h0 h1 _ c (Nat.le_refl _) d B
 have n:∀ q∈([]:List Pc),PQ f q:=fun q H=>by cases H
 have K:=G.k1;have Q:=G.k9;have A:=fun (c:Con) (d:c.ok) (B:c.check=0)=>(⟨Con.atom_ok B,Con.atom_len d B⟩:be_ c.atom=true∧c.atom.length≤7000)
 unfold pieces
 split
 ·have l:=G.left za_;have r:=G.right za_
  have E:=A _ d.left l;have y:=A _ d.right r;exact do_ (F _ d.right r _ (L _ d.left l _ n)) ⟨rfl,⟨by dsimp only;omega,by simp,by dsimp only;omega,by simp,by simp,by simp⟩,uN_ h0 h1 E.1 y.1⟩
 split
 ·have l:=G.left za_;have r:=G.right za_
  have E:=A _ d.left l;have y:=A _ d.right r;exact do_ (F _ d.left l _ (L _ d.right r _ (do_ (F _ d.right r _ (L _ d.left l _ n)) ⟨rfl,⟨by dsimp only;omega,by simp,by dsimp only;omega,by simp,by simp,by simp⟩,uN_ h0 h1 E.1 y.1⟩))) ⟨rfl,⟨by dsimp only;omega,by simp,by dsimp only;omega,by simp,by simp,by simp⟩,uN_ h0 h1 y.1 E.1⟩
 split
 ·have l:=G.left za_;have r:=G.right za_
  have E:=A _ d.left l;have y:=A _ d.right r;exact do_ (L _ d.right r _ (L _ d.left l _ n)) ⟨rfl,⟨by dsimp only;omega,by dsimp only;omega,by simp,by simp,by simp,by simp⟩,val2 h0 h1 E.1 y.1 rfl⟩
 split
 ·have r:=G.right za_;have y:=A _ d.right r;have p:=G.role za_;have pl:=dF_ p
  exact do_ (F _ d.right r _ n) ⟨rfl,⟨by simp,by simp,by dsimp only;omega,by dsimp only;omega,by simp,by simp⟩,val4 h0 h1 rfl (du_ p) y.1⟩
 split
 ·rename_i O
  have p:=G.role za_;have pl:=dF_ p;have M:=G.one O
  match hr:x.roles,M with
  | [r],_ =>
    have C:=G.roles r (by rw[hr];simp);have I:=dF_ C;exact do_ n ⟨rfl,⟨by simp,by simp,by simp,by simp;omega,by simp,by dsimp only;omega⟩,val5 h0 h1 (by simpa using du_ C) (du_ p)⟩
 split
 ·rename_i N
  have p:=G.role za_;have h:=G.chain N
  match hr:x.roles,h with
  | [],h=>simp at h
  | r::t,h =>
    have C:=G.roles r (by rw[hr];simp);have I:=dF_ C;have e:=ip_ C;simp only[List.length_cons]at h;simp only[List.drop_succ_cons,List.drop_zero,List.headD_cons];exact nP_ h0 h1 x.role p t r [] (fun q H=>G.roles q (by rw[hr];simp[H])) (by rw[e];simp;omega) (by rw[e];simp[de_ C]) (by rw[e];simp;omega) n
 split
 ·have p:=G.role za_;have pl:=dF_ p
  exact do_ n ⟨rfl,⟨by simp,by simp,by simp,by dsimp only;omega,by simp,by simp⟩,val7 h0 h1 (du_ p)⟩
 split
 ·have r:=G.right za_;have y:=A _ d.right r;have p:=G.a za_;have pl:=kL_ p
  exact do_ (F _ d.right r _ n) ⟨rfl,⟨by simp;omega,by simp,by dsimp only;omega,by simp,by simp,by simp⟩,uN_ h0 h1 (kv_ p) y.1⟩
 have p:=G.role za_;have pl:=dF_ p;have J:=G.a za_;have pb:=G.b za_;have P:=kL_ J;have R:=kL_ pb;exact do_ n ⟨rfl,⟨by simp;omega,by simp,by simp;omega,by dsimp only;omega,by simp,by simp⟩,val3 h0 h1 (kv_ J) (du_ p) (kv_ pb)⟩
end
end Ax
namespace Con
end Con
def cF_:Nat→List Ax→List Pc
  | _,[]=>[]
  | i,x::l=>x.pieces (i:Int)++cF_ (i+1) l
theorem qZ_:∀ (i:Nat) (l:List Ax),(∀ x∈l,x.check=0)→(cF_ i l).length≤1000*l.length
  | _,[],_=>by simp[cF_]
  | i,x::l,h=>by
    have h1:=jt_ (i:Int) (Ax.good_of (h x zj_));have e:=qZ_ (i+1) l fun y d=>h y zS_
    simp only[cF_,List.length_append,List.length_cons];omega
theorem oL_:∀ (l:List Ax) (i:Nat) (p:List Pc),(∀ x∈l,x.check=0)→p.length+1000*l.length≤16384→hw_ i l p=some (p++cF_ i l)
  | [],i,p,_,_=>by simp[hw_,cF_]
  | x::l,i,p,h,hl=>by
    have h1:=jt_ (i:Int) (Ax.good_of (h x zj_));simp only[List.length_cons]at hl;simp only[hw_,cF_];rw[if_neg zn_,oL_ l (i+1) _ (fun y d=>h y zS_) zn_,List.append_assoc]
theorem ra_:∀ (l:List Ax) (i:Nat),i+l.length≤1024→(∀ x∈l,x.ok)→(∀ x∈l,x.check=0)→∀ q∈cF_ i l,(i:Int)≤q.frm∧q.frm<((i+l.length:Nat):Int)∧q.sm∧q.valid=true
 | [],_,_,_,_=>by simp[cF_]
 | x::l,i,hi,hok,hc=>by
   simp only[List.length_cons]at hi ⊢;intro q d;simp only[cF_]at d;rcases List.mem_append.1 d with d|d
   · have h:=Ax.pieces_all (f:=(i:Int)) za_ za_ (hok x zj_) (hc x zj_) q d
     exact⟨by rw[h.frm];omega,by rw[h.frm];omega,h.sm,h.ok⟩
   · have h:=ra_ l (i+1) za_ (fun y e=>hok y zaM_) (fun y e=>hc y zaM_) q d
     exact⟨by omega,by omega,h.2.2⟩
theorem rU_ {l:List Ax} (hl:l.length≤12) (h:∀ x∈l,x.check=0):bz_ l=(cF_ 0 l,0):=by
  unfold bz_;rw[if_neg za_,if_neg (by simp[fm_ h]),oL_ l 0 [] h zn_];simp
end Go.Vs
namespace Go.Sx
open Go
section
variable {P:Program} {N:Nf} {fr:Fr} {H:Hp} {Γ:List Fct}
theorem kt_:∀ (x y:List UInt8),Op.bytesLess x y=decide (x<y)
  | [],[]=>by simp[Op.bytesLess]
  | _::_,[]=>by simp[Op.bytesLess]
  | [],_::_=>by simp[Op.bytesLess]
  | a::x,b::y=>by
    rw[Op.bytesLess,kt_ x y];simp only[List.cons_lt_cons_iff]
    by_cases h:a<b<;>by_cases d:a=b<;>by_cases e:x<y<;>simp[h,d,e]
theorem ys_ (x y:List UInt8):(Op.bytesLess x y||x==y)=decide (x≤y):=by
 rw[kt_]
 by_cases h:x≤y
 ·rw[decide_eq_true h]
  by_cases e:x=y
  ·simp[e]
  have:x<y:=by
    apply Decidable.byContradiction
    intro d;exact e (List.le_antisymm h (List.not_lt.1 d))
  simp[this]
 rw[decide_eq_false h];have A:¬ x<y:=fun q=>h (List.le_of_lt q)
 have d:x≠y:=fun e=>h (e▸List.le_refl x)
 simp[A,d]
theorem em_ {t h ty:TypeId} {x y:Operand} {m n:List UInt8} (e:Fr.ev fr x=some (str m)) (q:Fr.ev fr y=some (str n)):Yld P N fr H Γ (.binOp .lss t x y h) ty (.bool (decide (m<n))) :=
  fun a v d _ _ _ _ _=>by rw[← kt_];simp[execOp,d.ev e,d.ev q,str,eqGuard,binOp,Op.stringOp]
theorem jp_ {f:FuncId} {args:Array Value} {r:Value} {g:Nat} {cur:Array Value} {T:TypeId} {d:Array (List UInt8)} (K:hc_ P f)
    (h:∀ v:Vw,v.sat [(g,.cells cur T (0,0))]→Calls P f args v.w fun e w'=>e=.returned r∧∃ n os,w'=Sort.grow (Sort.putRow Go.Proofs.encStr (Sort.ahead v.w n) g 0 d) os) :
    Tri P f args [(g,.cells cur T (0,0))] Γ (fun _:Unit=>r) (fun _=>[(g,.cells (Sort.putCells Go.Proofs.encStr 0 d cur) T (0,0))]) (fun _=>[]) :=
  ⟨K,fun v C _=>(h v C).mono fun e w' ⟨L,n,os,y⟩=>by
    have G:=(C.own _ List.mem_cons_self);have F:g<v.w.heap.size:=(Array.getElem?_eq_some_iff.1 G.1).1
    have B:∀ b,b<v.w.heap.size→w'.heap[b]? = if b=g then some (.cells (Sort.putCells Go.Proofs.encStr 0 d cur) T (0,0)) else v.w.heap[b]? := fun b B=>by
      rw[y];simp only[Sort.grow,Sort.putRow,Sort.mapBlock,Sort.ahead];rw[Array.getElem?_append_left zW_,Array.getElem?_modify]
      by_cases e:b=g
      · subst e
        simp only[if_true,G.1,Option.map_some,Sort.onCells]
      · rw[if_neg (fun q=>e q.symm),if_neg e]
    have A:v.w.heap.size≤w'.heap.size:=by rw[y];simp[Sort.grow,Sort.putRow,Sort.mapBlock,Sort.ahead]
    refine⟨(),⟨v.im,w',v.sl⟩,L,rfl,⟨fun p I=>?_,by simp,fun b x=>Nat.lt_of_lt_of_le (C.lt b x) A⟩,trivial,⟨by rw[y];rfl,by rw[y];rfl,by rw[y];rfl,A,fun b x J=>?_,fun _ h=>h,fun _ h=>.inl h,fun b hm=>.inl (by simpa using hm),rfl,.inr (by rw[y];exact Nat.le_add_right _ _)⟩⟩
    · simp only[List.mem_singleton]at I
      subst I;exact⟨by show w'.heap[g]? = _;rw[B g F,if_pos rfl],G.2⟩
    · have E:b≠g:=by simpa using J
      show w'.heap[b]? = _
      rw[B b x,if_neg E]⟩
theorem mW_ {cur:Array Value} {d:List (List UInt8)} (h:d.length≤cur.size):(Sort.putCells Go.Proofs.encStr 0 d.toArray cur).toList.take d.length=d.flatMap ak_:=by
 rw[mH_]
 apply List.ext_getElem?
 intro j;rw[List.getElem?_take,List.getElem?_map]
 split
 ·rename_i e
  simp only[Sort.putCells,Array.getElem?_toList,Array.getElem?_mapIdx];rw[Array.getElem?_eq_getElem za_];simp only[Option.map_some,Nat.zero_le,true_and,Nat.zero_add,List.size_toArray,e,if_true,Nat.sub_zero];rw[List.getElem?_eq_getElem e];simp only[Option.map_some];rw[getElem!_pos d.toArray j zag_];rfl
 rename_i e
 rw[List.getElem?_eq_none za_];rfl
theorem mX_ {cur:Array Value} {d:Array (List UInt8)}:(Sort.putCells Go.Proofs.encStr 0 d cur).size=cur.size:=by simp[Sort.putCells]
end
end Go.Sx
namespace Go.Vs
open Go Go.Sx
def kY_ (p:Pc):List Str:=[p.a,p.b,p.c].filter fun s=>!(s==[])
def cQ_ (l:List Pc):List Str:=l.flatMap kY_
def eu_ (l:List Pc):List Str:=Lib.compact ((cQ_ l).mergeSort fun x y=>decide (x≤y))
theorem jC_:∀ l:List Pc,(cQ_ l).length≤3*l.length
  | []=>by simp[cQ_]
  | p::r=>by
    have d:=jC_ r;have e:(kY_ p).length≤3:=by unfold kY_;exact List.length_filter_le _ _
    simp only[cQ_,List.flatMap_cons,List.length_append,List.length_cons]at d ⊢;omega
theorem fQ_ (l:List Str):(l.mergeSort fun x y=>decide (x≤y)).Pairwise fun x y=>x≤y:=by
  have h:=List.pairwise_mergeSort (le:=fun x y:Str=>decide (x≤y)) (fun a b c d e=>by simp only[decide_eq_true_eq]at *;exact List.le_trans d e) (fun a b=>by
    simp only[Bool.or_eq_true,decide_eq_true_eq];exact List.le_total a b) l
  exact h.imp (fun h=>of_decide_eq_true h)
theorem iB_ {d:List Str}:Lib.compact d=((List.range d.length).filter fun j=>decide (j=0∨d[j]! ≠ d[j - 1]!)).map fun j=>d[j]! := by
 unfold Lib.compact Lib.compactUpTo Lib.keeps
 have e:∀ j,d.toArray[j]! = d[j]! := fun j=>by
   by_cases h:j<d.length
   · rw[getElem!_pos d.toArray j zK_,getElem!_pos d j h];simp
   · rw[getElem!_neg d.toArray j zK_,getElem!_neg d j h]
 rw[List.map_congr_left fun j _=>e j]
 congr 2
 funext j
 rw[e,e]
theorem gy_ (d:List Str):(Lib.compact d).length≤d.length:=by
  rw[iB_,List.length_map];have:=List.length_filter_le (fun j=>decide (j=0∨d[j]! ≠ d[j - 1]!)) (List.range d.length);simpa using this
theorem iA_ {d:List Str} (x:Str):x∈Lib.compact d↔x∈d:=by
 rw[iB_,List.mem_map];constructor
 ·rintro ⟨j,q,rfl⟩
  have hl:=List.mem_range.1 (List.mem_filter.1 q).1;rw[getElem!_pos d j hl];exact List.getElem_mem hl
 intro A;obtain⟨j,q,e⟩:=List.mem_iff_getElem.1 A;clear A
 induction j with
 | zero=>exact⟨0,List.mem_filter.2 ⟨List.mem_range.2 q,by simp⟩,by rw[getElem!_pos d 0 q];exact e⟩
 | succ j ih =>
   by_cases h:d[j+1]! = d[j]!
   · have y:j<d.length:=by omega
     refine ih y ?_;rw[getElem!_pos d (j+1) q,getElem!_pos d j y]at h;rw[← h];exact e
   · exact⟨j+1,List.mem_filter.2 ⟨List.mem_range.2 q,decide_eq_true (.inr h)⟩,by rw[getElem!_pos d (j+1) q];exact e⟩
theorem hD_ {d:List Str} (M:d.Pairwise fun x y=>x≤y):(Lib.compact d).Pairwise fun x y=>x<y:=by
 rw[iB_,List.pairwise_map];have G:(List.range d.length).Pairwise (·<·):=List.pairwise_lt_range;have F:=G.filter (fun j=>decide (j=0∨d[j]! ≠ d[j - 1]!));refine List.Pairwise.imp_of_mem ?_ F;intro j k O hk J;have B:=List.mem_range.1 (List.mem_filter.1 hk).1;have e:=(List.mem_filter.1 hk).2;simp only[decide_eq_true_eq]at e
 have C:d[k]! ≠ d[k - 1]! := by
   rcases e with h|h
   · omega
   · exact h
 have q:∀ a b,a≤b→b<d.length→d[a]! ≤ d[b]! := by
   intro a b A E;rcases Nat.lt_or_eq_of_le A with h|h
   · rw[getElem!_pos d a za_,getElem!_pos d b E]
     exact List.pairwise_iff_getElem.1 M a b za_ E h
   · subst h;exact List.le_refl _
 have I:=q j (k - 1) za_ za_;have L:=q (k - 1) k za_ B
 have K:d[k - 1]! < d[k]! := by
   apply Decidable.byContradiction
   intro h;exact C (List.le_antisymm (List.not_lt.1 h) L)
 exact List.lt_of_le_of_lt I K
theorem fZ_ (l:List Pc) (x:Str):x∈eu_ l↔x∈cQ_ l:=by
  unfold eu_;rw[iA_,List.mem_mergeSort]
theorem fk_ (l:List Pc):(eu_ l).length≤3*l.length:=by
  have d:=gy_ ((cQ_ l).mergeSort fun x y=>decide (x≤y));rw[List.length_mergeSort]at d;have e:=jC_ l;unfold eu_;omega
end Go.Vs
namespace Go.Proofs.YtpbnmnfdgckaiaaGreatDoor
open Go Go.Sx Go.Proofs
attribute [local irreducible] Code.wp wpList wpAnyH
open Go.Vs
theorem eltS:Elt Tryz.prog 25 9 1 16:=ji_ ie_ (z:=.string ⟨#[]⟩) zd_ rfl ze_
theorem kR_ {g n cap:Nat} {cur:Array Value} {d:List Str} {v:Vw} (x:v.sat [(g,.cells cur 9 (0,0))]) (y:cur.toList.take (d.length*1)=d.flatMap ak_):Sort.Holds encStr v.w g 0 d.toArray:=by
 intro j e;have h:=(x.own _ List.mem_cons_self).1;simp only[List.size_toArray]at e;have q:cur[j]? = some (str d[j]):=om_ y j d[j] (List.getElem?_eq_getElem e);refine⟨?_,?_⟩
 ·simp only[World.cell?,Nat.zero_add,h,Option.isSome_none,Bool.false_eq_true,if_false]
  rw[q,getElem!_pos d.toArray j zag_];rfl
 simp[World.frozen?,h]
theorem mf_ {sv:Value} {q:List Str} {Hr:Hp} (h:ax_ 9 1 sv q.length (q.flatMap ak_) Hr) (hl:q.length≤1000000000000) :
    Tri Tryz.prog 95 #[sv] Hr [] (fun _:{y:Hp // ax_ 9 1 sv q.length ((q.mergeSort fun x y=>decide (x≤y)).flatMap ak_) y}=>.tuple #[]) (fun y=>y.1) (fun _=>[]):=by
  rcases h.2 with⟨rfl,J,rfl⟩|⟨g,cap,cur,rfl,rfl,N,L,I,M⟩
  · obtain rfl:q=[]:=List.eq_nil_of_length_eq_zero J
    have T:=cO_ (P:=Tryz.prog) (H:=[]) (Γ:=[]) (callable Tryz.func95 rfl rfl) (fun v _ _=>(Tryz.slices_Sort_string_none none 0 v.w).mono zk_);exact⟨T.callable,fun v a b=>(T.run v a b).mono (by rintro e w' ⟨x,K,A,G,E,F,B⟩;exact⟨⟨[],by simpa using ax_.nil _ _⟩,K,A,G,E,F,B⟩)⟩
  · have T:=jp_ (P:=Tryz.prog) (Γ:=[]) (d:=(q.mergeSort fun x y=>decide (x≤y)).toArray) (callable Tryz.func95 rfl rfl) (fun v O=>Tryz.slices_Sort_string g 0 cap q v.w (kR_ (n:=0) (cap:=0) O M) (Array.getElem?_eq_some_iff.1 (O.own _ List.mem_cons_self).1).1 za_)
    have C:(q.mergeSort fun x y=>decide (x≤y)).length=q.length:=List.length_mergeSort _;refine⟨T.callable,fun v a b=>(T.run v a b).mono ?_⟩;rintro e w' ⟨x,K,A,G,E,F,B⟩;refine⟨⟨_,by rw[dv_ ak_ 1 at_,C],.inr ⟨g,cap,_,rfl,rfl,N,L,by rw[mX_];exact I,?_⟩⟩,K,A,G,E,F,B⟩;have:=mW_ (cur:=cur) (d:=q.mergeSort fun x y=>decide (x≤y)) (by rw[C,I];omega);rw[C]at this;rw[Nat.mul_one];exact this
theorem jB_ {sv:Value} {A:List Str} {Hr:Hp} (h:ax_ 9 1 sv A.length (A.flatMap ak_) Hr) (hl:A.length≤1000000000000) :
    Tri Tryz.prog 117 #[sv] Hr [] (fun y:{y:Value×Hp // ax_ 9 1 y.1 (Lib.compact A).length ((Lib.compact A).flatMap ak_) y.2}=>y.1.1) (fun y=>y.1.2) (fun _=>[]):=by
  rcases h.2 with⟨rfl,K,rfl⟩|⟨g,cap,cur,rfl,rfl,Q,O,J,L⟩
  · obtain rfl:A=[]:=List.eq_nil_of_length_eq_zero K
    have T:=cO_ (P:=Tryz.prog) (H:=[]) (Γ:=[]) (callable Tryz.func117 rfl rfl) (fun v _ _=>(Tryz.slices_Compact_string_empty none 0 v.w).mono zk_);exact⟨T.callable,fun v a b=>(T.run v a b).mono (by rintro e w' ⟨x,N,B,G,E,F,C⟩;exact⟨⟨(.slice none 0 0,[]),by simpa [Lib.compact,Lib.compactUpTo] using ax_.nil _ _⟩,N,B,G,E,F,C⟩)⟩
  · have M:=gy_ A
    have T:=jp_ (P:=Tryz.prog) (Γ:=[]) (r:=.slice (some ⟨g,0,none⟩) (Lib.compact A).length cap) (d:=(Lib.compact A++List.replicate (A.length - (Lib.compact A).length) []).toArray) (callable Tryz.func117 rfl rfl) (fun v S=>(Tryz.slices_Compact_string g 0 cap A v.w (kR_ (n:=0) (cap:=0) S L) za_ Q).mono (by
      rintro e w' ⟨rfl,q,rfl⟩;exact⟨rfl,q,#[],by rw[Sort.grow_empty]⟩))
    refine⟨T.callable,fun v a b=>(T.run v a b).mono ?_⟩;rintro e w' ⟨x,N,B,G,E,F,C⟩;refine⟨⟨(.slice (some ⟨g,0,none⟩) (Lib.compact A).length cap,_),by rw[dv_ ak_ 1 at_],.inr ⟨g,cap,_,rfl,rfl,by omega,O,by rw[mX_];exact J,?_⟩⟩,N,B,G,E,F,C⟩;have R:(Lib.compact A++List.replicate (A.length - (Lib.compact A).length) ([]:Str)).length=A.length:=by simp;omega
    have:=mW_ (cur:=cur) (d:=Lib.compact A++List.replicate (A.length - (Lib.compact A).length) []) (by rw[R,J];omega);rw[R]at this;have I:=congrArg (List.take (Lib.compact A).length) this;rw[List.take_take,Nat.min_eq_left M,List.flatMap_append,List.take_append_of_le_length (by rw[dv_ ak_ 1 at_];omega),List.take_of_length_le (l:=(Lib.compact A).flatMap ak_) (by rw[dv_ ak_ 1 at_];omega)]at I;rw[Nat.mul_one];exact I
theorem yw_ (l:List Pc) (ad:Option Addr) (cap:Nat) (hl:l.length≤100000000000):Tri Tryz.prog 116 #[.slice ad (List.length l) cap] [] [ai_ ad (List.flatMap Pc.cells l)] (fun y:{y:Option Addr×Nat // (eu_ l).length≤y.2∧y.2≤maxLen}=>.slice y.1.1 (eu_ l).length y.1.2) (fun _=>[]) (fun y=>[ai_ y.1.1 ((eu_ l).flatMap ak_)]):=by
 refine i_ Tryz.func116 rfl rfl Tryz.ntmps116 rfl fun v_1=>?_;refine Zz 14 ?_;refine bJ_ [(2,.slice none 0 0),(7,.slice ad (List.length l) cap),(8,.int .i64 (List.length l:Int)),(9,.int .i64 ((0:Nat):Int))] zl ?_;refine ci_ (ι:={y:Nat×Value×Hp // y.1≤l.length∧ax_ 9 1 y.2.1 (cQ_ (l.take y.1)).length ((cQ_ (l.take y.1)).flatMap ak_) y.2.2}) (fun y=>[(2,y.1.2.1),(7,.slice ad (List.length l) cap),(8,.int .i64 (List.length l:Int)),(9,.int .i64 (y.1.1:Int))]) (fun y=>y.1.2.2) (fun _=>_) (fun y=>l.length - y.1.1) ⟨(0,.slice none 0 0,[]),by simp,ax_.nil _ _⟩ ?_;rintro ⟨⟨i,sv,Hr⟩,hi,A⟩;dsimp only at hi A;dsimp only;have O:=jC_ (l.take i);rw[List.length_take]at O;refine bJ_ [(2,sv),(7,.slice ad (List.length l) cap),(8,.int .i64 (List.length l:Int)),(9,.int .i64 (i:Int))] zl ?_;refine Zi 2 (fun T=>?_) fun T=>?_
 ·refine Zz 7 ?_
  have et:l.take i=l:=List.take_of_length_le za_;rw[et]at A O;refine Zz 2 ?_;refine j_ (mf_ A za_) rfl ad_ zt rfl fun⟨Hs,hs⟩=>?_;dsimp only;refine C_ (List.Perm.symm ad_) ?_;have L:ax_ 9 1 sv ((cQ_ l).mergeSort fun x y=>decide (x≤y)).length (((cQ_ l).mergeSort fun x y=>decide (x≤y)).flatMap ak_) Hs:=by rw[List.length_mergeSort];exact hs
  refine Zz 5 ?_;refine j_ (jB_ L (by rw[List.length_mergeSort];omega)) rfl ad_ zt rfl fun⟨⟨sc,Hc⟩,hc⟩=>?_;dsimp only;refine C_ (List.Perm.symm ad_) (Zz 4 ?_);refine ju_ hc ad_ fun J M X P K=>?_;exact Y_ Tryz.results116 ⟨(J,M),P,K⟩ (fG_ rfl X) f_ zf
 obtain⟨G,d,N,W⟩:=zge (show i<List.length l by omega);refine Zz 12 ?_;refine E_ T_ rfl fun a1=>z_ 0 F_ rfl rfl rfl rfl rfl rfl (Zz 10 ?_)
 refine X_ n_ I_ az_ rfl rfl rfl rfl rfl rfl fun F=>?_;refine cL_ (List.flatMap ak_ [d.a,d.b,d.c]) d_ rfl ?_;refine Zz 5 ?_;refine bJ_ [(2,sv),(7,.slice ad (List.length l) cap),(8,.int .i64 (List.length l:Int)),(9,.int .i64 (i:Int)),(19,.slice (some ⟨F,0,none⟩) (List.length [d.a,d.b,d.c]) 3),(20,.int .i64 3),(21,.int .i64 ((0:Nat):Int))] zl ?_;refine ci_ (ι:={y:Nat×Value×Hp // y.1≤3∧ax_ 9 1 y.2.1 (cQ_ (l.take i)++(List.take y.1 [d.a,d.b,d.c]).filter fun s=>!(s==[])).length ((cQ_ (l.take i)++(List.take y.1 [d.a,d.b,d.c]).filter fun s=>!(s==[])).flatMap ak_) y.2.2}) (fun y=>[(2,y.1.2.1),(7,.slice ad (List.length l) cap),(8,.int .i64 (List.length l:Int)),(9,.int .i64 (i:Int)),(19,.slice (some ⟨F,0,none⟩) (List.length [d.a,d.b,d.c]) 3),(20,.int .i64 3),(21,.int .i64 (y.1.1:Int))]) (fun y=>_:: y.1.2.2) (fun _=>_) (fun y=>3 - y.1.1) ⟨(0,sv,Hr),by simp,by simpa using A⟩ ?_;rintro ⟨⟨k,V,Z⟩,hk,C⟩;dsimp only at hk C;dsimp only
 have hfl:((cQ_ (l.take i)++(List.take k [d.a,d.b,d.c]).filter fun s=>!(s==[]))).length≤(cQ_ (l.take i)).length+3:=by
   have:=List.length_filter_le (fun s=>!(s==[])) (List.take k [d.a,d.b,d.c]);simp only[List.length_append,List.length_take,List.length_cons,List.length_nil]at this ⊢;omega
 refine bJ_ [(2,V),(7,.slice ad (List.length l) cap),(8,.int .i64 (List.length l:Int)),(9,.int .i64 (i:Int)),(19,.slice (some ⟨F,0,none⟩) (List.length [d.a,d.b,d.c]) 3),(20,.int .i64 3),(21,.int .i64 (k:Int))] zl ?_;refine Zi 2 (fun R=>?_) fun R=>?_
 ·refine Zz 11 ?_
  have q:cQ_ (l.take (i+1))=cQ_ (l.take i)++kY_ d:=by unfold cQ_;rw[List.take_add_one,N,List.flatMap_append];simp
  exact x_ ⟨(i+1,V,Z),G,by dsimp only;rw[q];have:=C;rw[List.take_of_length_le (show [d.a,d.b,d.c].length≤k by simp;omega)]at this;exact this⟩ zb_ zl (c_ ad_) (fun _ _ h=>h.2)
 have H:k<List.length [d.a,d.b,d.c]:=by simp;omega
 obtain⟨e,B⟩:∃ U,[d.a,d.b,d.c][k]? = some U:=⟨_,List.getElem?_eq_getElem H⟩;have Y:e∈[d.a,d.b,d.c]:=List.mem_of_getElem? B;refine Zz 11 ?_;refine e_ (bl_ (ad:=(some ⟨F,0,none⟩)) ab_ rfl zf (p_ at_ B 0 _ rfl)) rfl (Zi 6 (fun S=>?_) fun S=>?_)
 ·refine Zz 10 ?_
  have q:(cQ_ (l.take i)++(List.take (k+1) [d.a,d.b,d.c]).filter fun s=>!(s==[]))=(cQ_ (l.take i)++(List.take k [d.a,d.b,d.c]).filter fun s=>!(s==[]))++[e].filter (fun s=>!(s==[])):=by rw[List.append_assoc,← List.filter_append,List.take_add_one,B];simp
  rw[show [e].filter (fun s=>!(s==[]))=[] by simp[*],List.append_nil]at q;exact x_ ⟨(k+1,V,Z),by dsimp only;omega,by dsimp only;rw[q];exact C⟩ zb_ zl zp zh
 refine Zz 6 ?_;refine X_ n_ I_ az_ rfl rfl rfl rfl rfl rfl fun a0=>?_;refine am_ (news:=[str e]) eltS C rfl rfl zp rfl (aR_ 0 rfl) (ka_ rfl) zm_ za_ rfl fun Q I E=>?_;refine C_ (@List.perm_append_comm _ _ [_,_]) (Zz 8 ?_);have q:(cQ_ (l.take i)++(List.take (k+1) [d.a,d.b,d.c]).filter fun s=>!(s==[]))=(cQ_ (l.take i)++(List.take k [d.a,d.b,d.c]).filter fun s=>!(s==[]))++[e].filter (fun s=>!(s==[])):=by rw[List.append_assoc,← List.filter_append,List.take_add_one,B];simp
 rw[show [e].filter (fun s=>!(s==[]))=[e] by simp[*]]at q;exact x_ ⟨(k+1,Q,I),by dsimp only;omega,by dsimp only;rw[q];rw[List.length_append (bs:=[e]),List.flatMap_append (ys:=[e])];exact E⟩ zb_ zl (l_ (c_ d_) (c_ ad_)) zh
end Go.Proofs.YtpbnmnfdgckaiaaGreatDoor
namespace Go.Sx
open Go
section
variable {P:Program} {N:Nf} {v0:Vw} {H0:Hp} {R:Exit→Act→World→Prop} {K:List Kt} {fr:Fr} {H:Hp} {Γ:List Fct}
variable {ops:Array Oper} {l:List Oper} {d:Nat} {ty:TypeId} {ps:String} {af:Array Edge}
end
end Go.Sx
namespace Go.Vs
open Go Go.Sx
theorem rP_ {α:Type} {R:α→α→Prop} {l:List α} (h:l.Pairwise R) {i j:Nat} {x y:α} (A:l[i]? = some x) (B:l[j]? = some y) (e:i<j):R x y:=by
  obtain⟨hi,rfl⟩:=List.getElem?_eq_some_iff.1 A;obtain⟨q,rfl⟩:=List.getElem?_eq_some_iff.1 B;exact List.pairwise_iff_getElem.1 h i j hi q e
def Cov (hs:List Bool) (L S:List Str):Prop:=hs.length=L.length∧∀ (n:Nat) (s:Str),L[n]? = some s→s∈S→hs[n]? = some true
def three (p:Pc):List Str:=[p.a,p.b,p.c]
theorem Cov.all {q:List Bool} {l:List Pc} (h:Cov q (eu_ l) (l.flatMap three)) {n:Nat} (e:n<(eu_ l).length):q[n]? = some true:=by
  have hm:=(fZ_ l _).1 (List.getElem_mem e);refine h.2 n _ (List.getElem?_eq_getElem e) ?_;simp only[cQ_,List.mem_flatMap,kY_,List.mem_filter]at hm;obtain⟨p,y,x⟩:=hm;exact List.mem_flatMap.2 ⟨p,y,x.1⟩
-- valid pieces,kind by kind
section
variable {a b c r s t:Str} {lo hi f:Int}
end
-- atoms
-- roles
-- sorted insertion
def kS (l:List Str) (s:Str):Nat:=(l.takeWhile fun x=>decide (x<s)).length
theorem yQ_ {s:Str}:∀ {l:List Str} {k:Nat},k≤l.length→(∀ x∈l.take k,x<s)→(∀ x,l[k]? = some x→¬ x<s)→kS l s=k
  | [],k,h1,_,_=>by simp at h1;simp[kS,h1]
  | y::r,0,_,_,h3=>by
    have:=h3 y rfl;unfold kS;rw[List.takeWhile_cons_of_neg (by simpa using this)];rfl
  | y::r,k+1,h1,h2,h3=>by
    have h:y<s:=h2 y zj_;have e:=yQ_ (l:=r) (k:=k) (by simpa using h1) (fun x d=>h2 x zS_) (fun x d=>h3 x (by simpa using d));unfold kS at e ⊢;rw[List.takeWhile_cons_of_pos zK_,List.length_cons,e]
def uK_ (l:List Str) (s:Str):List Str:=if s=[]∨l[kS l s]? = some s then l else l.take (kS l s)++[s]++l.drop (kS l s)
end Go.Vs
namespace Go.Sx
open Go
section
variable {P:Program} {N:Nf} {v0:Vw} {H0:Hp} {fr:Fr} {H:Hp} {Γ:List Fct}
end
end Go.Sx
namespace Go.Vs
open Go Go.Sx
namespace Con
theorem szs_append:∀ (d ys:List Con),sz.szs (d++ys)=sz.szs d+sz.szs ys
  | [],ys=>by simp[sz.szs]
  | x::d,ys=>by simp only[List.cons_append,sz.szs,szs_append d ys];omega
end Con
namespace Ax
theorem check_20 {x:Ax} (h:x.shaped=true) (d:x.namedU (us x.kind)=false):x.check=20:=by unfold check;rw[if_neg (by rw[h];simp),if_pos d]
theorem check_left {x:Ax} (h:x.shaped=true) (d:x.namedU (us x.kind)=true) (hl:(us x.kind).left=true) (e:x.left.check≠0):x.check=x.left.check:=by
  unfold check;rw[if_neg (by rw[h];simp),if_neg (by rw[d];simp),if_pos ⟨hl,e⟩]
theorem check_right {x:Ax} (h:x.shaped=true) (d:x.namedU (us x.kind)=true) (hl:(us x.kind).left=true→x.left.check=0) (y:(us x.kind).right=true) (e:x.right.check≠0):x.check=x.right.check:=by
  unfold check;rw[if_neg (by rw[h];simp),if_neg (by rw[d];simp),if_neg (fun q=>q.2 (hl q.1)),if_pos ⟨y,e⟩]
end Ax
end Go.Vs
namespace Go.Sx
open Go
section
variable {P:Program} {N:Nf} {v0:Vw} {H0:Hp} {R:Exit→Act→World→Prop} {K:List Kt} {fr:Fr} {H F:Hp} {Γ:List Fct} {ops:Array Oper} {l:List Oper} {ty:TypeId} {ps:String} {af:Array Edge} {e:TypeId} {sz n:Nat} {sv:Value} {xs:List Value} {Hr:Hp}
theorem uQ_ {α:Type} (l:List α) (k m:Nat) (u:α) (hk:k<m) (hm:m≤l.length):(l.take k++[u]++l.drop (k+1)).take m=(l.take m).set k u:=by
 apply List.ext_getElem?
 intro j;rw[List.getElem?_take,List.getElem?_set,List.length_take]
 by_cases d:j<m
 ·rw[if_pos d]
  by_cases h:j<k
  ·rw[if_neg za_,List.append_assoc,List.getElem?_append_left zaJ_,List.getElem?_take,if_pos h,List.getElem?_take,if_pos d]
  by_cases q:j=k
  ·subst q
   rw[if_pos rfl,if_pos za_,List.append_assoc,List.getElem?_append_right zaJ_,List.length_take,Nat.min_eq_left za_,Nat.sub_self];rfl
  rw[if_neg za_,List.getElem?_append_right (by rw[List.length_append,List.length_take,List.length_singleton];omega),List.length_append,List.length_take,List.length_singleton,List.getElem?_drop,List.getElem?_take,if_pos d,Nat.min_eq_left za_]
  congr 1;omega
 rw[if_neg d,if_neg za_,List.getElem?_take,if_neg d]
theorem fg_ {t:TypeId} {x y:Operand} {k:Nat} {u:Value} (d:ax_ e sz sv n xs Hr) (G:H.Perm (Hr++F)) (S:∀ w,(sizeOf t).run P w=.ok 1 w) (O:Fr.ev fr x=some (.pointer (some ⟨svB sv,k,none⟩))) (M:Fr.ev fr y=some u) (hk:k<n*sz) (A:u.cells=#[u]) (C:u.oneCell'=true)
    (h:∀ Hr',ax_ e sz sv n (xs.set k u) Hr'→Ops P R N v0 H0 ops l K fr (Hr'++F) Γ):Ops P R N v0 H0 ops (⟨none,.store t x y,ty,ps,af,none⟩::l) K fr H Γ:=by
  rcases d.2 with⟨_,Q,_⟩|⟨g,cap,cur,rfl,rfl,E,I,q,J⟩
  · subst Q;simp at hk
  · have B:n*sz≤cap*sz:=Nat.mul_le_mul_right _ E
    refine C_ G (z_ (b:=g) (off:=k) 0 S O M rfl (by rw[A];rfl) ?_ (by rw[A];simp[C]) ?_)
    · have L:k+1≤cur.size:=by rw[q];omega
      simpa using L
    · rw[A]
      refine h [(g,.cells (cur.toList.take k++[u]++cur.toList.drop (k+1)).toArray e (0,0))] ⟨by rw[List.length_set];exact d.1,.inr ⟨g,cap,_,rfl,rfl,E,I,?_,?_⟩⟩
      · simp only[List.size_toArray,List.length_append,List.length_take,List.length_drop,List.length_singleton,Array.length_toList,q];omega
      · show ((cur.toList.take k++[u]++cur.toList.drop (k+1)).toArray).toList.take (n*sz)=_
        rw[List.toList_toArray,uQ_ _ _ _ _ hk (by rw[Array.length_toList,q];exact B),J]
theorem iv_ {α:Type} (f:α→List Value) (z:Nat) (d:∀ x,(f x).length=z):∀ (l:List α) (i j:Nat) (x y:α) (u:Value),l[i]? = some x→j<z→f y=(f x).set j u→(l.flatMap f).set (i*z+j) u=(l.set i y).flatMap f
  | [],i,_,_,_,_,h,_,_=>by simp at h
  | a::l,0,j,x,y,u,h,hj,he=>by
    simp only[List.getElem?_cons_zero,Option.some.injEq]at h;subst h;rw[List.flatMap_cons,List.set_cons_zero,List.flatMap_cons,he,Nat.zero_mul,Nat.zero_add,List.set_append_left _ _ (by rw[d];exact hj)]
  | a::l,i+1,j,x,y,u,h,hj,he=>by
    simp only[List.getElem?_cons_succ]at h;rw[List.flatMap_cons,List.set_cons_succ,List.flatMap_cons,← iv_ f z d l i j x y u h hj he,List.set_append_right _ _ (by rw[d,Nat.succ_mul];omega),d]
    congr 2
    rw[Nat.succ_mul];omega
theorem sE_ {t h:TypeId} {x:Operand} {k d:IntKind} {m r:Int} {u:TypeDesc} (B:P.underlying t=some u) (A:P.underlying h=some (.int d)) (q:Fr.ev fr x=some (.int k m)) (C:IntKind.wrap d m=r):Yld P N fr H Γ (.convert t h x) ty (.int d r) :=
  fun a v y _ _ _ _ _=>by subst C;simp[execOp,y.ev q,convert,run_underlying B,run_underlying A,Conv.intToInt]
theorem wrapU {r:Int} (h:0≤r) (d:r≤18446744073709551615):IntKind.wrap .u64 r=r:=by
  simp[IntKind.wrap,IntKind.signed,IntKind.bits]
  omega
end
end Go.Sx
namespace Go.Sx
open Go
section
variable {P:Program} {N:Nf} {v0:Vw} {H0:Hp} {R:Exit→Act→World→Prop} {K:List Kt} {fr:Fr} {H F:Hp} {Γ:List Fct} {ops:Array Oper} {l:List Oper} {ty:TypeId} {ps:String} {af:Array Edge} {e:TypeId} {sz n:Nat} {sv:Value} {xs:List Value} {Hr:Hp}
theorem tE_ {α:Type} (l us:List α) (k m:Nat) (hk:k+us.length≤m) (hm:m≤l.length):(l.take k++us++l.drop (k+us.length)).take m=(l.take m).take k++us++(l.take m).drop (k+us.length):=by
  rw[List.take_take,Nat.min_eq_left za_,List.take_append,List.take_of_length_le (by simp only[List.length_append,List.length_take];omega)]
  congr 1
  rw[List.drop_take]
  congr 1
  simp only[List.length_append,List.length_take];omega
theorem rV_ {t:TypeId} {x y:Operand} {k:Nat} {us:List Value} (d:ax_ e sz sv n xs Hr) (G:H.Perm (Hr++F)) (T:∀ w,(sizeOf t).run P w=.ok sz w) (Q:Fr.ev fr x=some (.pointer (some ⟨svB sv,k,none⟩))) (M:Fr.ev fr y=some (.agg us.toArray)) (hk:k+sz≤n*sz) (q:us.length=sz) (U:0<sz) (C:us.all Value.oneCell'=true)
    (h:∀ Hr',ax_ e sz sv n (xs.take k++us++xs.drop (k+sz)) Hr'→Ops P R N v0 H0 ops l K fr (Hr'++F) Γ):Ops P R N v0 H0 ops (⟨none,.store t x y,ty,ps,af,none⟩::l) K fr H Γ:=by
  rcases d.2 with⟨_,S,_⟩|⟨g,cap,cur,rfl,rfl,E,I,A,J⟩
  · subst S;simp only[Nat.zero_mul]at hk;omega
  · have B:n*sz≤cap*sz:=Nat.mul_le_mul_right _ E
    have O:=d.1;refine C_ G (z_ (b:=g) (off:=k) (n:=sz) 0 T Q M rfl (by simpa [Value.cells] using q) ?_ (by simpa [Value.cells] using C) ?_)
    · have L:k+sz≤cur.size:=by rw[A];omega
      simpa using L
    · refine h [(g,.cells (cur.toList.take k++us++cur.toList.drop (k+sz)).toArray e (0,0))] ⟨by simp only[List.length_append,List.length_take,List.length_drop];omega,.inr ⟨g,cap,_,rfl,rfl,E,I,?_,?_⟩⟩
      · simp only[List.size_toArray,List.length_append,List.length_take,List.length_drop,Array.length_toList,A];omega
      · show ((cur.toList.take k++us++cur.toList.drop (k+sz)).toArray).toList.take (n*sz)=_
        rw[List.toList_toArray,← J];have:=tE_ cur.toList us k (n*sz) za_ (by rw[Array.length_toList,A];exact B);rw[q]at this;exact this
theorem th_ {α:Type} (f:α→List Value) (z:Nat) (d:∀ x,(f x).length=z):∀ (l:List α) (i:Nat) (y:α),i<l.length→(l.flatMap f).take (i*z)++f y++(l.flatMap f).drop (i*z+z)=(l.set i y).flatMap f
  | [],i,y,h=>by simp at h
  | a::l,0,y,h=>by
    rw[List.flatMap_cons,List.set_cons_zero,List.flatMap_cons,Nat.zero_mul,List.take_zero,List.nil_append,Nat.zero_add,List.drop_append,List.drop_of_length_le (by rw[d];exact Nat.le_refl _),d,Nat.sub_self];rfl
  | a::l,i+1,y,h=>by
    have q:i<l.length:=by simpa using h
    rw[List.flatMap_cons,List.set_cons_succ,List.flatMap_cons,← th_ f z d l i y q,Nat.succ_mul,List.take_append,List.take_of_length_le (by rw[d];omega),List.drop_append,List.drop_of_length_le (by rw[d];omega),d];rw[show i*z+z - z=i*z by omega,show i*z+z+z - z=i*z+z by omega];simp[List.append_assoc]
end
end Go.Sx
namespace Go.Sx
open Go
section
variable {P:Program} {N:Nf} {v0:Vw} {H0:Hp} {R:Exit→Act→World→Prop} {K:List Kt} {fr:Fr} {H F:Hp} {Γ:List Fct} {ops:Array Oper} {l:List Oper} {d:Nat} {ty:TypeId} {ps:String} {af:Array Edge} {e:TypeId} {sz n:Nat} {sv:Value} {xs:List Value} {Hr:Hp}
inductive ORow (e:TypeId) (sz:Nat):Value→Nat→List Value→Hp→Prop
  | row {sv:Value} {n:Nat} {xs:List Value} {Hr:Hp} (h:ax_ e sz sv n xs Hr):ORow e sz sv n xs Hr
  | cut {g k n cap:Nat} {pre xs:List Value} {Hr:Hp} (hp:pre.length=k*sz) (h:ax_ e sz (.slice (some ⟨g,0,none⟩) (k+n) (k+cap)) (k+n) (pre++xs) Hr):ORow e sz (.slice (some ⟨g,k*sz,none⟩) n cap) n xs Hr
  | out {g k:Nat} {Hr:Hp}:ORow e sz (.slice (some ⟨g,k*sz,none⟩) 0 0) 0 [] Hr
theorem ORow.len (h:ORow e sz sv n xs Hr):xs.length=n*sz:=by
  cases h with
  | row h=>exact h.1
  | cut hp h=>have:=h.1;rw[List.length_append,hp,Nat.add_mul]at this;omega
  | out=>simp
theorem ORow.form (h:ORow e sz sv n xs Hr):∃ ad cap,sv=.slice ad n cap∧n≤cap∧(ad=none→cap=0):=by
 cases h with
 | row h =>
   rcases h.2 with⟨rfl,rfl,_⟩|⟨g,cap,cur,rfl,_,y,_⟩
   · exact⟨_,_,rfl,Nat.le_refl _,fun _=>rfl⟩
   · exact⟨_,_,rfl,y,fun q=>by cases q⟩
 | cut hp h =>
   rcases h.2 with⟨x,_⟩|⟨g,cap,cur,x,_,y,_⟩
   · cases x
   · simp only[Value.slice.injEq]at x;obtain⟨_,_,rfl⟩:=x;exact⟨_,_,rfl,by omega,fun q=>by cases q⟩
 | out=>exact⟨_,_,rfl,Nat.le_refl _,fun q=>by cases q⟩
theorem pW_ {x:Operand} {t y:TypeId} (h:ORow e sz sv n xs Hr) (A:∀ w,(underlying t).run P w=.ok (.slice y) w) (q:Fr.ev fr x=some sv):Yld P N fr H Γ (.call ⟨.builtin .len,#[x],#[t]⟩) ty (.int .i64 (n:Int)):=by
  obtain⟨ad,cap,rfl,_⟩:=h.form;exact dC_ A q
def svO:Value→Nat
  | .slice (some a) _ _=>a.off
  | _=>0
theorem sD_ {x y:Operand} {t B:TypeId} {k:IntKind} {i:Int} (q:ORow e sz sv n xs Hr) (C:∀ w,(underlying t).run P w=.ok (.slice B) w) (G:∀ w,(sizeOf B).run P w=.ok sz w) (A:Fr.ev fr x=some sv) (I:Fr.ev fr y=some (.int k i)) (E:0≤i) (hl:i<n) :
    Yld P N fr H Γ (.indexAddr t x y) ty (.pointer (some ⟨svB sv,svO sv+i.toNat*sz,none⟩)):=by
  cases q with
  | row h =>
    have:=bH_ (P:=P) (N:=N) (H:=H) (Γ:=Γ) (ty:=ty) h C G A I E hl;rcases h.2 with⟨_,J,_⟩|⟨g,cap,cur,rfl,_⟩
    · omega
    · simpa [svO] using this
  | cut hp h=>exact eW_ (P:=P) (N:=N) (H:=H) (Γ:=Γ) (ty:=ty) C G A I E hl
  | out=>omega
theorem qE_ {x y:Operand} {t J:TypeId} {kl:IntKind} {i:Nat} (A:ORow e sz sv n xs Hr) (O:∀ w,(underlying t).run P w=.ok (.slice J) w) (S:∀ w,(sizeOf J).run P w=.ok sz w) (M:Fr.ev fr x=some sv) (L:Fr.ev fr y=some (.int kl (i:Int))) (hi:i≤n) (Q:Nat.blt d N.n=true)
    (hk:∀ sv',ORow e sz sv' (n - i) (xs.drop (i*sz)) Hr→Ops P R N v0 H0 ops l K ((d,sv')::fr) H Γ):Ops P R N v0 H0 ops (⟨some d,.slice t x (some y) none none,ty,ps,af,none⟩::l) K fr H Γ:=by
  have B:=A.len;obtain⟨ad,cap,C,I,_⟩:=A.form;have G:Fr.ev fr x=some (.slice ad n cap):=by rw[M,C]
  refine e_ (dJ_ (i:=i) (j:=n) (kl:=kl) (kh:=.i64) O S G L rfl hi I) Q ?_;refine hk _ ?_;cases A with
  | @row sv n xs Hr h =>
    rcases h.2 with⟨rfl,rfl,rfl⟩|⟨g,q,cur,rfl,_,T,_⟩
    · obtain rfl:i=0:=by omega
      simp only[Value.slice.injEq]at C;obtain⟨rfl,_,rfl⟩:=C;have:xs=[]:=List.eq_nil_of_length_eq_zero zW_;subst this;simp only[sad,List.drop_nil,Nat.sub_self];exact .row h
    · simp only[Value.slice.injEq]at C
      obtain⟨rfl,_,rfl⟩:=C
      by_cases E:q=i
      · subst E
        have:n=q:=by omega
        subst this;simp only[sad,if_true,Nat.sub_self];rw[List.drop_eq_nil_of_le za_];have:=ORow.out (e:=e) (sz:=sz) (g:=g) (k:=0) (Hr:=Hr);simpa using this
      · simp only[sad,E,if_false,Option.map_some,cj_,Nat.zero_add]
        refine .cut (pre:=xs.take (i*sz)) (by rw[List.length_take,B];exact Nat.min_eq_left (Nat.mul_le_mul_right _ hi)) ?_;rw[List.take_append_drop,show i+(n - i)=n by omega,show i+(q - i)=q by omega];exact h
  | @cut g k n cap0 pre xs Hr hp h =>
    simp only[Value.slice.injEq]at C;obtain⟨rfl,_,rfl⟩:=C
    by_cases E:cap0=i
    · subst E
      have:n=cap0:=by omega
      subst this;simp only[sad,if_true,Nat.sub_self];rw[List.drop_eq_nil_of_le za_];exact .out
    · simp only[sad,E,if_false,Option.map_some,cj_]
      rw[← Nat.add_mul];refine .cut (pre:=pre++xs.take (i*sz)) (by rw[List.length_append,List.length_take,B,hp,Nat.min_eq_left (Nat.mul_le_mul_right _ hi),Nat.add_mul]) ?_;rw[List.append_assoc,List.take_append_drop,show k+i+(n - i)=k+n by omega,show k+i+(cap0 - i)=k+cap0 by omega];exact h
  | @out g k Hr =>
    obtain rfl:i=0:=by omega
    simp only[Value.slice.injEq]at C;obtain⟨rfl,_,rfl⟩:=C;simp only[sad,if_true,Nat.sub_self,List.drop_nil];exact .out
theorem Vw.to.more {v y:Vw} {H':Hp} (h:v.to F y H'):v.to (Hr++F) y H' where
 os:=h.os
 tape:=h.tape
 output:=h.output
 size:=h.size
 block:=fun b x A=>h.block b x fun hm=>A (by rw[List.map_append];exact List.mem_append_right _ hm)
 imUp:=h.imUp
 imNew:=fun b x=>by
   rw[List.map_append];rcases h.imNew b x with q|q|q
   · exact .inl q
   · exact .inr (.inl (List.mem_append_right _ q))
   · exact .inr (.inr q)
 hNew:=fun b x=>by
   rw[List.map_append];rcases h.hNew b x with q|q
   · exact .inl (List.mem_append_right _ q)
   · exact .inr q
 sl:=h.sl
 dr:=h.dr
theorem Vw.sat.subB {v:Vw} (h:v.sat (Hr++F)):v.sat F :=
  ⟨fun x q=>h.own x (List.mem_append_right _ q),by have:=h.nodup;rw[List.map_append,List.nodup_append]at this;exact this.2.1,h.lt⟩
theorem mR_ {v:Vw} {a:Addr} {news:List Value} (h:bu_ v (some a) news):∀ j u,news[j]? = some u→v.w.cell? (a.add j)=some u:=fun j u q=>by
 rcases h with h|⟨b,off,B,T,fz,x,_,A,y⟩
 ·rw[h]at q;simp at q
 rw[Option.some.injEq]at x;subst x;have:=y j u q;rw[cj_];simp[World.cell?,A,this]
theorem mP_ (w:World) (t ty e:TypeId) (i:TypeInfo) (G:P.underlying t=some (.slice e)) (hi:P.info? e=some i)
    (g off h q:Nat) (cur:Array Value) (I:w.heap[g]? = some (.cells cur e (0,0)))
    (a:Addr) (m c:Nat) (news:List Value) (hl:news.length=m*i.size) (y:∀ j u,news[j]? = some u→w.cell? (a.add j)=some u) (E:∀ u∈news,u.oneCell'=true)
    (x:h+m≤q) (B:off+h*i.size+news.length≤cur.size) :
    (Builtin.append_ #[t,t] ty #[.slice (some ⟨g,off,none⟩) h q,.slice (some a) m c]).run P w =
      .ok (.slice (some ⟨g,off,none⟩) (h+m) q) (w.setRow g (cur.toList.take (off+h*i.size)++news++cur.toList.drop (off+h*i.size+news.length)).toArray):=by
  have C:=run_firstCells_some (P:=P) w i.size m a m c news hl y;have A:=run_storeCells_at P g (off+h*i.size) e news 0 cur w I zW_ E;simp only[Nat.add_zero]at A;simp[Builtin.append_,run_underlying G,sizeOf,typeInfo,hi,Builtin.lenOf,x,C,Addr.add_lit,A]
theorem qX_ {v:Vw} {t ty':TypeId} {by' m c cap:Nat} {b a:Addr} {news:List Value} (G:Elt P t e sz by') (hs:v.sat (Hr++F)) (C:xs.length=n*sz) (ac_:∀ j u,xs[j]? = some u→v.w.cell? (b.add j)=some u) (hl:news.length=m*sz) (x:∀ j u,news[j]? = some u→v.w.cell? (a.add j)=some u)
    (J:cap<n+m) (B:n+m≤maxLen) (M:(n+m)*by'≤140737488355328) :
    ∃ A w' q,(Builtin.append_ #[t,t] ty' #[.slice (some b) n cap,.slice (some a) m c]).run P v.w=.ok A w'∧ax_ e sz A (n+m) (xs++news) q∧(⟨v.im,w',v.sl⟩:Vw).sat (q++F)∧v.to (Hr++F) ⟨v.im,w',v.sl⟩ (q++F):=by
  obtain⟨i,z,hi,O,es,Z,U⟩:=G.info;subst es Z;have E:n+m≤9223372036854775807:=by simp only[maxLen]at B;omega
  have L:=run_append_grow (P:=P) v.w t ty' e i z G.und hi O b n cap xs C ac_ a m c news hl x J za_ (growslice_fits J M);obtain⟨A,w',h,Q,V⟩:=run_append_arg_grows (P:=P) v.w t ty' e i z i.size i.bytes G.und hi O rfl rfl U G.pos b n cap xs C ac_ a m c news hl x J B M;have Y:w'.ownsRow 0 e i.size A (n+m) (xs++news):=⟨Q.1,Q.2.imp id fun⟨g,cap,cur,W,_,X⟩=>⟨g,cap,cur,W,Nat.zero_le _,X⟩⟩
  have T:v.w.drawn≤w'.drawn:=by
    rw[L]at h;cases h;simp
  have y:∀ g,A.ownBlock=some g→(Value.slice none 0 0).ownBlock=some g∨v.w.heap.size≤g:=fun g I=>by
    rw[L]at h;cases h;simp only[Value.ownBlock,Option.some.injEq]at I;exact .inr za_
  obtain⟨q,k1,k2,S⟩:=iS_ (F:=F) (ax_.nil e i.size) (by simpa using hs.subB) Y V T y;exact⟨A,w',q,h,k1,k2,by simpa using Vw.to.more (Hr:=Hr) S⟩
theorem lE_ {x y:Operand} {t:TypeId} {by' m c:Nat} {news:List Value} {ad:Option Addr} (O:Elt P t e sz by') (T:ORow e sz sv n xs Hr)
    (V:Fr.ev fr x=some sv) (U:Fr.ev fr y=some (.slice ad m c)) (Y:ad=none→c=0) (hmc:m≤c) (L:H.Perm (Hr++F)) (hl:news.length=m*sz) (E:∀ v,v.sat H→ac_ Γ v→bu_ v ad news) (h1c:∀ u∈news,u.oneCell'=true)
    (W:n+m≤maxLen) (hb:(n+m)*by'≤140737488355328) (hN:Nat.blt d N.n=true)
    (hk:∀ sv' C,ORow e sz sv' (n+m) (xs++news) C→Ops P R N v0 H0 ops l K ((d,sv')::fr) (C++F) Γ) :
    Ops P R N v0 H0 ops (⟨some d,.call ⟨.builtin .append,#[x,y],#[t,t]⟩,ty,ps,af,none⟩::l) K fr H Γ:=by
  have Q:=T.len;cases T with
  | row h=>exact fs_ O h V U Y hmc L hl E h1c W hb hN fun sv' C q=>hk sv' C (.row q)
  | @cut g k n cap pre xs Hr hp h =>
    cases ad with
    | none =>
      obtain rfl:=Y rfl;obtain rfl:m=0:=by omega
      obtain rfl:news=[]:=List.eq_nil_of_length_eq_zero (by simpa using hl);obtain⟨_,A,ee,hnc,_⟩:=(ORow.cut (cap:=cap) hp h).form;simp only[Value.slice.injEq]at ee;obtain⟨_,_,rfl⟩:=ee;refine e_ (x:=.slice (some ⟨g,k*sz,none⟩) n cap) (fun a v B _ _ _ _ _=>?_) hN (C_ L (hk _ Hr (by simpa using ORow.cut (cap:=cap) hp h)));obtain⟨i,z,hi,Y,es,eb,ez⟩:=O.info;simp[execOp,resolve,invoke,builtin,B.ev V,B.ev U,Builtin.append_,run_underlying O.und,sizeOf,typeInfo,hi,Builtin.lenOf,Builtin.firstCells,hnc,storeCells]
    | some a0 =>
      obtain⟨A,cur,X,e1,h4,h5,h6,h7⟩:∃ A cur,A=k+cap∧Hr=[(g,.cells cur e (0,0))]∧k+n≤A∧A≤maxLen∧cur.size=A*sz∧cur.toList.take ((k+n)*sz)=pre++xs:=by
        rcases h.2 with⟨B,_⟩|⟨g1,A,cur,B,M,h3⟩
        · cases B
        · simp only[Value.slice.injEq,Option.some.injEq,Addr.mk.injEq]at B
          obtain⟨⟨rfl,_,_⟩,_,rfl⟩:=B;exact⟨_,cur,rfl,M,h3⟩
      subst X;refine co_ rfl fun a v B M h3 G=>?_;have g2:=M.perm L;have hn:=mR_ (E v M G);have hg:=(g2.own (g,.cells cur e (0,0)) (by rw[e1];simp)).1
      by_cases I:n+m≤cap
      · obtain⟨i,z,hi,hz',es,eb,ez⟩:=O.info
        subst es;have Z:=mP_ (P:=P) v.w t ty e i O.und hi g (k*i.size) n cap cur hg a0 m c news hl hn h1c I (by rw[hl,h6,← Nat.add_mul,← Nat.add_mul];exact Nat.mul_le_mul_right _ za_);rw[← Nat.add_mul]at Z;have hL:(pre++xs++news).length=(k+n+m)*i.size:=by rw[List.length_append,h.1,hl,← Nat.add_mul]
        obtain⟨C,k1,k2,S⟩:=iS_ (sv':=.slice (some ⟨g,0,none⟩) (k+n+m) (k+cap)) (n':=k+n+m) (ys:=pre++xs++news) h g2
          (w':=v.w.setRow g (cur.toList.take ((k+n)*i.size)++news++cur.toList.drop ((k+n)*i.size+news.length)).toArray)
          ⟨hL,.inr ⟨g,k+cap,_,rfl,Nat.zero_le _,setRow_heap v.w g cur _ e _ hg,by omega,h5,by
              simp only[List.size_toArray,List.length_append,List.length_take,List.length_drop,Array.length_toList];have:(k+n)*i.size+news.length≤cur.size:=by rw[hl,h6,← Nat.add_mul];exact Nat.mul_le_mul_right _ za_
              omega,by rw[h7,← hL];exact List.take_left⟩⟩
          ⟨rfl,rfl,rfl,by simp,fun k _ hk=>setRow_other v.w g k _ (fun e=>hk (by simp[Value.ownBlock,e]))⟩ zj_ (fun _ h=>.inl h)
        unfold Oper.wp execOp;simp only[resolve,invoke,builtin,Sem.run_bind,Sem.run_pure,Result.andThen_ok,List.map_toArray,List.map_cons,List.map_nil,B.ev V,B.ev U,Z];refine hk _ C (.cut (pre:=pre) (cap:=cap) hp (by rw[← Nat.add_assoc,← List.append_assoc];exact k1)) _ ⟨v.im,_,v.sl⟩ (B.put hN) k2 (h3.trans (S.permL L.symm)) (an_ ((S.permL L.symm).le M) G)
      · have ac_:∀ j u,xs[j]? = some u→v.w.cell? ((⟨g,k*sz,none⟩:Addr).add j)=some u:=fun j u hj=>by
          rw[cj_];have hj':=(List.getElem?_eq_some_iff.1 hj).1
          have hc:cur[k*sz+j]? = some u:=by
            have q:(cur.toList.take ((k+n)*sz))[k*sz+j]? = some u:=by rw[h7,List.getElem?_append_right za_,hp,Nat.add_sub_cancel_left];exact hj
            rw[List.getElem?_take]at q
            split at q
            · simpa using q
            · cases q
          simp[World.cell?,hg,hc]
        obtain⟨v',w',C,Z,k1,k2,S⟩:=qX_ (F:=F) (t:=t) (ty':=ty) (cap:=cap) (c:=c) O g2 Q ac_ hl hn (Nat.lt_of_not_le I) W hb;unfold Oper.wp execOp;simp only[resolve,invoke,builtin,Sem.run_bind,Sem.run_pure,Result.andThen_ok,List.map_toArray,List.map_cons,List.map_nil,B.ev V,B.ev U,Z];exact hk v' C (.row k1) _ ⟨v.im,w',v.sl⟩ (B.put hN) k2 (h3.trans (S.permL L.symm)) (an_ ((S.permL L.symm).le M) G)
  | @out g k Hr =>
    have J:m=0→news=[]:=fun q=>List.eq_nil_of_length_eq_zero (by rw[hl,q,Nat.zero_mul])
    by_cases hm:m=0
    · obtain rfl:=J hm
      subst hm;refine e_ (x:=.slice (some ⟨g,k*sz,none⟩) 0 0) (fun a v B M h4 _ _ _=>?_) hN (C_ L (hk _ Hr ORow.out));obtain⟨i,z,hi,Y,es,eb,ez⟩:=O.info;cases ad with
      | none=>obtain rfl:=Y rfl;simp[execOp,resolve,invoke,builtin,B.ev V,B.ev U,Builtin.append_,run_underlying O.und,sizeOf,typeInfo,hi,Builtin.lenOf,Builtin.firstCells,storeCells]
      | some a0=>simp[execOp,resolve,invoke,builtin,B.ev V,B.ev U,Builtin.append_,run_underlying O.und,sizeOf,typeInfo,hi,Builtin.lenOf,Builtin.firstCells,loadCells,loadCellsFrom,storeCells]
    · cases ad with
      | none=>have:=Y rfl;omega
      | some a0 =>
        refine co_ rfl fun a v B M h3 G=>?_;have g2:=M.perm L;have hn:=mR_ (E v M G);obtain⟨v',w',C,Z,k1,k2,S⟩:=qX_ (F:=F) (t:=t) (ty':=ty) (b:=⟨g,k*sz,none⟩) (cap:=0) O g2 Q (fun j u hj=>by simp at hj) hl hn (c:=c) za_ W hb;unfold Oper.wp execOp;simp only[resolve,invoke,builtin,Sem.run_bind,Sem.run_pure,Result.andThen_ok,List.map_toArray,List.map_cons,List.map_nil,B.ev V,B.ev U,Z];exact hk v' C (.row k1) _ ⟨v.im,w',v.sl⟩ (B.put hN) k2 (h3.trans (S.permL L.symm)) (an_ ((S.permL L.symm).le M) G)
end
end Go.Sx
namespace Go.Sx
open Go
section
variable {P:Program} {N:Nf} {v0:Vw} {H0:Hp} {R:Exit→Act→World→Prop} {K:List Kt} {fr:Fr} {H F:Hp} {Γ:List Fct} {ops:Array Oper} {l:List Oper} {d:Nat} {ty:TypeId} {ps:String} {af:Array Edge} {e:TypeId} {sz n:Nat} {sv:Value} {xs:List Value} {Hr:Hp}
def svK:Value→Nat
  | .slice _ _ c=>c
  | _=>0
def svT (sv:Value) (n k sz:Nat):Value:=.slice (some ⟨svB sv,k*sz,none⟩) (n - k) (svK sv - k)
theorem pV_ {x y:Operand} {t q:TypeId} {kl:IntKind} {k:Nat} (h:ax_ e sz sv n xs Hr) (E:∀ w,(underlying t).run P w=.ok (.slice q) w) (G:∀ w,(sizeOf q).run P w=.ok sz w) (C:Fr.ev fr x=some sv) (A:Fr.ev fr y=some (.int kl (k:Int))) (hk:k<n) :
    Yld P N fr H Γ (.slice t x (some y) none none) ty (svT sv n k sz):=by
  rcases h.2 with⟨_,M,_⟩|⟨g,cap,cur,rfl,rfl,B,I,L,J⟩
  · omega
  · refine ar_ (dJ_ (i:=k) (j:=n) (kl:=kl) (kh:=.i64) E G C A rfl za_ B) ?_
    unfold svT sad;rw[if_neg za_];simp[cj_,svB,svK]
theorem tz_ {x:Operand} {t y:TypeId} {k:Nat} (h:∀ w,(underlying t).run P w=.ok (.slice y) w) (q:Fr.ev fr x=some (svT sv n k sz)):Yld P N fr H Γ (.call ⟨.builtin .len,#[x],#[t]⟩) ty (.int .i64 ((n - k:Nat):Int)):=dC_ h q
theorem oW_ {x y:Operand} {t h:TypeId} {k j:Nat} (A:∀ w,(underlying t).run P w=.ok (.slice h) w) (B:∀ w,(sizeOf h).run P w=.ok sz w) (q:Fr.ev fr x=some (svT sv n k sz)) (C:Fr.ev fr y=some (.int .i64 (j:Int))) (E:j<n - k) :
    Yld P N fr H Γ (.indexAddr t x y) ty (.pointer (some ⟨svB sv,((k+j:Nat):Int).toNat*sz,none⟩)):=by
  refine ar_ (eW_ A B q C za_ za_) ?_;rw[Int.toNat_natCast,Int.toNat_natCast,Nat.add_mul]
theorem cutRow (h:ax_ e sz sv n xs Hr) {k:Nat} (hk:k≤n) (I:0<n):∃ sv',ax_ e sz sv' k (xs.take (k*sz)) Hr ∧
    ∀ {N:Nf} {fr:Fr} {H:Hp} {Γ:List Fct} {ty t:TypeId} {x y:Operand},(∀ w,(underlying t).run P w=.ok (.slice e) w)→(∀ w,(sizeOf e).run P w=.ok sz w)→Fr.ev fr x=some sv→Fr.ev fr y=some (.int .i64 (k:Int))→Yld P N fr H Γ (.slice t x none (some y) none) ty sv':=by
  obtain⟨hl,⟨_,J,_⟩|⟨g,cap,cur,rfl,rfl,A,hm,B,q⟩⟩:=h
  · omega
  · refine⟨.slice (some ⟨g,0,none⟩) k cap,⟨?_,.inr ⟨g,cap,cur,rfl,rfl,by omega,hm,B,?_⟩⟩,fun E G q C=>?_⟩
    · rw[List.length_take,hl];exact Nat.min_eq_left (Nat.mul_le_mul_right _ hk)
    · rw[← q,List.take_take,Nat.min_eq_left (Nat.mul_le_mul_right _ hk)]
    · refine ar_ (dJ_ (i:=0) (j:=k) (kl:=.i64) (kh:=.i64) E G q rfl C (Nat.zero_le _) za_) ?_
      unfold sad;rw[if_neg za_];simp[cj_]
theorem rW_ {x:Operand} {t:TypeId} {k:Nat} {z:Value} (q:ax_ e sz sv n xs Hr) (Y:H.Perm (Hr++F)) (hu:∀ w,(underlying t).run P w=.ok (.slice e) w) (hz:∀ w,(zeroValue e).run P w=.ok z w) (M:z.cells.size=sz) (h1:z.cells.toList.all Value.oneCell'=true) (a0:0<sz)
    (hx:Fr.ev fr x=some (svT sv n k sz)) (hk:k<n)
    (h:∀ Hr' zs,zs.length=(n - k)*sz→ax_ e sz sv n (xs.take (k*sz)++zs) Hr'→Ops P R N v0 H0 ops l K fr (Hr'++F) Γ):Ops P R N v0 H0 ops (⟨none,.call ⟨.builtin .clear,#[x],#[t]⟩,ty,ps,af,none⟩::l) K fr H Γ:=by
  rcases q.2 with⟨_,h2,_⟩|⟨g,cap,cur,rfl,rfl,X,h4,S,h6⟩
  · omega
  · have hle:n*sz≤cap*sz:=Nat.mul_le_mul_right _ X
    have A:k*sz≤n*sz:=Nat.mul_le_mul_right _ za_;obtain⟨m,hm⟩:∃ m,n - k=m+1:=⟨n - k - 1,by omega⟩;have y:(Builtin.zeroCells z.cells (n - k)).toList.length=(n - k)*sz:=by simp[Builtin.zeroCells,M]
    have C:k*sz+(n - k)*sz=n*sz:=by rw[← Nat.add_mul];congr 1;omega
    refine C_ Y (co_ rfl fun a v V T g3 Z=>?_);have U:=(T.own _ List.mem_cons_self).1
    have B:=run_storeCells_at P g (k*sz) e (Builtin.zeroCells z.cells (n - k)).toList 0 cur v.w U (by rw[y,S];omega) (fun c J=>by
      have G:0<z.cells.size:=by omega
      simp only[Builtin.zeroCells,Array.toList_map,Array.toList_range,List.mem_map,List.mem_range]at J;obtain⟨i,_,rfl⟩:=J;have L:i%z.cells.size<z.cells.size:=Nat.mod_lt _ G;rw[getElem!_pos z.cells _ L];exact List.all_eq_true.1 h1 _ zj_)
    have he:(execOp a.eval ⟨none,.call ⟨.builtin .clear,#[x],#[t]⟩,ty,ps,af,none⟩).run P v.w=.ok (.value (.tuple #[])) (v.w.setRow g (cur.toList.take (k*sz)++(Builtin.zeroCells z.cells (n - k)).toList++cur.toList.drop (k*sz+(n - k)*sz)).toArray):=by
      rw[y]at B;simp only[Nat.add_zero]at B
      have Q:a.eval x=.slice (some ⟨g,k*sz,none⟩) (m+1) (cap - k):=by
        have:=V.ev hx;rw[this];unfold svT;rw[hm];rfl
      rw[hm]at B ⊢;simp[execOp,resolve,invoke,builtin,Q,Builtin.clear_,hu,hz,B]
    unfold Oper.wp;rw[he];obtain⟨q1,W⟩:=eG_ (i:=0) (w':=v.w.setRow g (cur.toList.take (k*sz)++(Builtin.zeroCells z.cells (n - k)).toList++cur.toList.drop (k*sz+(n - k)*sz)).toArray) T rfl rfl rfl rfl (Nat.le_refl _) zj_ (setRow_heap _ _ _ _ _ _ U) (fun c J=>setRow_other _ _ _ _ J);refine h [(g,.cells (cur.toList.take (k*sz)++(Builtin.zeroCells z.cells (n - k)).toList++cur.toList.drop (k*sz+(n - k)*sz)).toArray e (0,0))] (Builtin.zeroCells z.cells (n - k)).toList y ⟨?_,.inr ⟨g,cap,_,rfl,rfl,X,h4,?_,?_⟩⟩ _ _ V q1 (g3.trans W) (an_ (W.le T) Z)
    · rw[List.length_append,List.length_take,y,q.1,Nat.min_eq_left A];exact C
    · simp only[List.size_toArray,List.length_append,List.length_take,List.length_drop,Array.length_toList,S,y,C]
      omega
    · have I:(cur.toList.take (k*sz)).length=k*sz:=by rw[List.length_take,Array.length_toList,S];omega
      rw[List.toList_toArray]
      apply List.ext_getElem?
      intro j;rw[List.getElem?_take]
      by_cases O:j<n*sz
      · rw[if_pos O]
        by_cases E:j<k*sz
        · rw[List.append_assoc,List.getElem?_append_left za_,List.getElem?_append_left (by rw[List.length_take,q.1];omega),List.getElem?_take,if_pos E,List.getElem?_take,if_pos E,← h6,List.getElem?_take,if_pos O]
        · rw[List.getElem?_append_left (by rw[List.length_append,I,y];omega),List.getElem?_append_right za_,I,List.getElem?_append_right (by rw[List.length_take,q.1];omega),List.length_take,q.1,Nat.min_eq_left A]
      · rw[if_neg O,List.getElem?_eq_none (by rw[List.length_append,List.length_take,y,q.1,Nat.min_eq_left A];omega)]
end
end Go.Sx
namespace Go.Vs
def cpG {α:Type} (q:α→α→Bool):α→List α→List α
  | _,[]=>[]
  | x,y::l=>if q y x then cpG q y l else y::cpG q y l
def cpL {α:Type} (q:α→α→Bool):List α→List α
  | []=>[]
  | x::l=>x::cpG q x l
theorem ri_ {α:Type} {q:α→α→Bool}:∀ (l:List α) (x z w:α),(x::l)[l.length]? = some w→cpG q x (l++[z])=cpG q x l++(if q z w then [] else [z])
 | [],x,z,w,h=>by
   simp only[List.length_nil,List.getElem?_cons_zero,Option.some.injEq]at h;subst h;simp only[List.nil_append,cpG]
 | y::l,x,z,w,h=>by
   simp only[List.length_cons,List.getElem?_cons_succ]at h;simp only[List.cons_append,cpG];have:=ri_ (q:=q) l y z w h
   split
   · exact this
   · rw[this];rfl
theorem kr_ {α:Type} {q:α→α→Bool} {l:List α} {p:Nat} {w z:α} (y:l[p]? = some w) (B:l[p+1]? = some z):cpL q (l.take (p+2))=cpL q (l.take (p+1))++(if q z w then [] else [z]):=by
  cases l with
  | nil=>simp at y
  | cons x l =>
    have A:=(List.getElem?_eq_some_iff.1 B).1;simp only[List.length_cons]at A;simp only[List.getElem?_cons_succ]at B;have e:l.take (p+1)=l.take p++[z]:=by rw[List.take_add_one,B];rfl
    rw[List.take_succ_cons,List.take_succ_cons,cpL,cpL,e,List.cons_append]
    congr 1
    have h:(l.take p).length=p:=by rw[List.length_take];omega
    refine ri_ (l.take p) x z w ?_;rw[h];cases p with
    | zero=>simpa using y
    | succ p =>
      simp only[List.getElem?_cons_succ]at y ⊢;rw[List.getElem?_take,if_pos za_];exact y
structure CmI {α:Type} (q:α→α→Bool) (S M:List α) (k p:Nat):Prop where
  len:M.length=S.length
  kp:k<p
  pl:p≤S.length
  rest:∀ j,k≤j→M[j]? = S[j]?
  fst:M.take k=cpL q (S.take p)
theorem CmI.none {α:Type} {q:α→α→Bool} {S:List α} {k:Nat} {x y:α} (C:cpL q (S.take (k+1))=S.take (k+1)) (B:S[k]? = some x) (h:S[k+1]? = some y) (A:q y x=true):CmI q S S (k+1) (k+2) :=
  ⟨rfl,by omega,by have:=(List.getElem?_eq_some_iff.1 h).1;omega,fun _ _=>rfl,by rw[kr_ B h,if_pos A,List.append_nil,C]⟩
theorem CmI.skip {α:Type} {q:α→α→Bool} {S M:List α} {k p:Nat} {x y:α} (h:CmI q S M k (p+1)) (B:M[p]? = some x) (A:M[p+1]? = some y) (C:q y x=true):CmI q S M k (p+2):=by
  have E:=h.kp;rw[h.rest p za_]at B;rw[h.rest (p+1) za_]at A;exact⟨h.len,by omega,by have:=(List.getElem?_eq_some_iff.1 A).1;omega,h.rest,by rw[kr_ B A,if_pos C,List.append_nil,h.fst]⟩
theorem CmI.keep {α:Type} {q:α→α→Bool} {S M:List α} {k p:Nat} {x y:α} (h:CmI q S M k (p+1)) (B:M[p]? = some x) (A:M[p+1]? = some y) (C:q y x=false):CmI q S (M.set k y) (k+1) (p+2):=by
 have I:=h.kp;have E:=(List.getElem?_eq_some_iff.1 A).1;rw[h.rest p za_]at B;rw[h.rest (p+1) za_]at A;refine⟨by rw[List.length_set];exact h.len,by omega,by have:=(List.getElem?_eq_some_iff.1 A).1;omega,fun j G=>?_,?_⟩
 ·rw[List.getElem?_set_ne za_];exact h.rest j za_
 rw[kr_ B A,if_neg (by rw[C];simp),← h.fst,List.take_add_one,List.take_set,List.getElem?_set_self za_];rw[List.set_eq_of_length_le zaJ_];rfl
theorem CmI.done {α:Type} {q:α→α→Bool} {S M:List α} {k:Nat} (h:CmI q S M k S.length):M.take k=cpL q S:=by rw[h.fst,List.take_length]
theorem wA_ {α:Type} {q:α→α→Bool} {S:List α} {k:Nat} {x y:α} (C:cpL q (S.take (k+1))=S.take (k+1)) (B:S[k]? = some x) (h:S[k+1]? = some y) (A:q y x=false):cpL q (S.take (k+2))=S.take (k+2):=by
  rw[kr_ B h,if_neg (by rw[A];simp),C,List.take_add_one (i:=k+1),h];rfl
theorem oQ_ {α:Type} {q:α→α→Bool} {S:List α} (h:S.length<2):cpL q S=S:=by
  match S,h with
  | [],_=>rfl
  | [x],_=>rfl
end Go.Vs
