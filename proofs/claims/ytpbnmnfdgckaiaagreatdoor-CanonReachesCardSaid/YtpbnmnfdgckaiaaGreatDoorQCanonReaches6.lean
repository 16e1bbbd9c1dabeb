/-
  Part of the proof of the law CanonReaches over this seat: the small logic, the data, the contracts of functions (no condition).
-/
import Derived.Test.YtpbnmnfdgckaiaaGreatDoorQCanonReaches5
import Derived.SevenTiedAt
import Derived.Stop.Joined
import Derived.Lay
import Derived.LaidMore
import Derived.Test.YtpbnmnfdgckaiaaGreatDoorQCanonReaches3
import Derived.Lib.SlicesCompact
import Derived.Sort.EncStr
import Derived.Test.YtpbnmnfdgckaiaaGreatDoorQCanonReaches4
import Derived.Test.YtpbnmnfdgckaiaaGreatDoorQCanonReaches2
import Derived.Test.YtpbnmnfdgckaiaaGreatDoorProg
import Derived.ArgAppend
set_option linter.unusedVariables false
set_option linter.unusedSimpArgs false
set_option linter.unusedSectionVars false
set_option maxHeartbeats 1000000
namespace Go.Vs
open Go Go.Sx Go.ChangeShapes Go.WideShapes Go.ChangeAt Go.RowKit
section
variable {H:Type} {enc:TypeId×Value→H} {P:Program} {w:World}
mutual
def ff_ {H:Type}:DataW H→List Value
  | .lit (.int k n)=>[.int k n]
  | .lit (.bool b)=>[.bool b]
  | .agg ps=>kf_ ps
  | _=>[]
def kf_ {H:Type}:List (DataW H)→List Value
  | []=>[]
  | d::r=>ff_ d++kf_ r
end
def hv_ (P:Program):Nat→TypeId→Bool
  | 0,_=>false
  | n+1,t=>match P.underlying t with
    | some .bool=>true
    | some (.int _)=>true
    | some (.struct fs)=>fs.toList.all fun f=>hv_ P n f.type
    | some (.array _ e)=>hv_ P n e
    | _=>false
theorem jC_:∀ l:List (DataW H),kf_ l=l.flatMap ff_
  | []=>by simp[kf_]
  | d::r=>by simp only[kf_,jC_ r,List.flatMap_cons]
theorem tile:∀ (e:List Nat) (cs:List Value) (g:List (List Value)),cs.length=e.sum→g.length=e.length→(∀ j n,e[j]? = some n→some ((cs.drop (e.take j).sum).take n)=g[j]?)→cs=g.flatten
  | [],cs,g,h,hg,_=>by
    simp only[List.sum_nil]at h;have A:=List.eq_nil_of_length_eq_zero h;have B:g=[]:=List.eq_nil_of_length_eq_zero hg;simp[A,B]
  | n::e,cs,[],h,hg,hp=>by simp at hg
  | n::e,cs,x::g,h,hg,hp=>by
    have k:=hp 0 n rfl;simp only[List.take_zero,List.sum_nil,List.drop_zero,List.getElem?_cons_zero,Option.some.injEq]at k
    have q:=tile e (cs.drop n) g (by rw[List.length_drop,h];simp) (by simpa using hg) (fun j m y=>by
      have:=hp (j+1) m y;simp only[List.take_succ_cons,List.sum_cons,List.getElem?_cons_succ]at this;rw[← this,List.drop_drop])
    rw[List.flatten_cons,← q,← k,List.take_append_drop]
theorem vM_ {T:TypeId→Prop} {E:Bool} (K:Kids P T):∀ (n m:Nat) (t:TypeId) (cs:List Value) (x:DataW H×List MemPlace),T t→hv_ P m t=true→DataW.trod enc P w 0 (fun _=>true) E n t cs=some x→cs=ff_ x.1:=by
 intro n
 induction n with
 | zero=>intro m t cs x _ _ h;simp[DataW.trod]at h
 | succ n ih =>
   intro m t cs x O C h;cases m with
   | zero=>simp[hv_]at C
   | succ m =>
   cases hu:P.underlying t with
   | none=>simp[hv_,hu]at C
   | some d =>
     cases d with
     | bool=>obtain⟨b,rfl,rfl⟩:=DataW.trod_bool hu h;simp[ff_]
     | int k=>obtain⟨b,rfl,rfl,_⟩:=DataW.trod_int hu h;simp[ff_]
     | struct fs =>
       obtain⟨N,M,S,rfl,hl,y,J⟩:=DataW.trod_struct hu h;obtain rfl:M=n:=by omega
       obtain⟨k1,k2,Q⟩:=K.struct O hu;simp only[hv_,hu]at C;simp only[ff_];rw[jC_,List.flatMap_def,List.map_map];refine tile (fs.toList.map fun f=>P.cellsOf f.type) cs _ (by rw[hl,k2]) (by simp[y]) fun j q B=>?_;rw[List.getElem?_map,Option.map_eq_some_iff]at B;obtain⟨f,A,rfl⟩:=B;have G:=J j f zaQ_;have R:=Q j f A;have I:j<N.length:=by rw[y];have:=(List.getElem?_eq_some_iff.1 A).1;simpa using this
       rw[List.getElem?_eq_getElem I]at G;have L:=ih m f.type _ _ (k1 f (List.mem_of_getElem? A)) (List.all_eq_true.1 C f (List.mem_of_getElem? A)) G;rw[List.getElem?_map,List.getElem?_eq_getElem I,← List.map_take,← R,L];rfl
     | array len e =>
       obtain⟨N,M,S,rfl,hl,y,J⟩:=DataW.trod_array hu h;obtain rfl:M=n:=by omega
       obtain⟨k1,k2⟩:=K.array O hu;simp only[hv_,hu]at C;simp only[ff_];rw[jC_,List.flatMap_def,List.map_map];refine tile (List.replicate len (P.cellsOf e)) cs _ (by rw[hl,k2];simp) (by simp[y]) fun j q B=>?_;rw[List.getElem?_replicate]at B
       split at B
       · rename_i I
         simp only[Option.some.injEq]at B;subst B;have G:=J j I;have F:j<N.length:=by omega
         rw[List.getElem?_eq_getElem F]at G;have L:=ih m e _ _ k1 C G;rw[List.getElem?_map,List.getElem?_eq_getElem F,List.take_replicate,List.sum_replicate_nat,Nat.min_eq_left zs_,L];rfl
       · cases B
     | _=>simp[hv_,hu]at C
end
section
variable {H:Type} {enc:TypeId×Value→H} {P:Program} {W W':World}
theorem jq_:∀ {ts:List TypeId} {vs:List Value} {ds:List (DataW H)} {ps:List MemPlace} {sp:Nat→Bool},DataW.TrodAll enc P W 0 sp true ts vs ds ps→(∀ p∈ps,W.sameAt W' p)→DataW.TrodAll enc P W' 0 sp true ts vs ds ps
  | [],[],[],_,_,h,_=>h
  | _::_,_::_,_::_,_,_,⟨p,q,⟨n,h1⟩,h2,e⟩,hs=>⟨p,q,⟨n,DataW.trod_carry n _ _ _ h1 (fun x k=>hs x (by rw[e];exact List.mem_append_left _ k))⟩,jq_ h2 (fun x k=>hs x (by rw[e];exact List.mem_append_right _ k)),e⟩
theorem wc_ {T:TypeId→Prop} (K:Kids P T) (hz:∀ t e,T t→P.underlying t=some (.slice e)→0<P.cellsOf e) {f:Func} {s:ChangeSpec} {args:Array Value} {I:List (DataW H)} {before:List MemPlace} {U:TypeId} (R:∀ t∈f.params.toList,T t) (m:s.vars=[])
    (Y:DataW.Whole enc P f.params.toList s.vars false W args.toList I [] before) (M:s.fn H (I++[])={ results:=[.lit (.bool true)],args:=I }) (F:f.resultTypes=#[U]) (O:P.underlying U=some .bool) {G:Vw} (y:(vw W).to [] G []) :
    s.post enc P f false true false false W args (.bool true) G.w:=by
  have L:=Y;obtain⟨p,q,Q,V,S,_,_⟩:=Y;have Z:q=[]:=by rw[m]at V;exact V
  subst Z;simp only[List.append_nil]at S;subst S;have k:∀ b,b<W.heap.size→G.w.heap[b]? = W.heap[b]? := fun b O=>y.block b O zB_
  have B:∀ x∈before,W.sameAt G.w x:=fun x N=>by
    have C:=DataW.TrodAll.lt Q x N;cases x with
    | cell b off=>exact World.cell?_of_block (k b C)
    | map b=>exact k b C
  have J:=jq_ Q B;have E:=DataW.TrodAll.respare K hz (spare':=fun b=>decide (b<W.heap.size)) R J (fun x N=>by simpa using DataW.TrodAll.lt Q x N);refine⟨I,[],before,[],before,[],L,?_,?_,?_,⟨y.os,y.output,fun i hi=>?_⟩,fun h=>by cases h⟩
  · rw[M,F];exact trodAll_mk1 (shut_bool O true)
  · rw[M];exact E
  · rw[M,m];rfl
  · rw[k i hi]
    have A:∃ o,W.heap[i]? = some o:=⟨_,Array.getElem?_eq_getElem hi⟩;obtain⟨o,ho⟩:=A;rw[ho];cases o<;>simp
section
variable {tI tB tS tSs tC tCs tA tAs tP tPs:TypeId} (X:Tys P tI tB tS tSs tC tCs tA tAs tP tPs) {base:Nat} {v:Value} {d:DataW H} {ps:List MemPlace}
include X
theorem yT_ (k:Value.okWide P W .any base tAs v) (h:DataW.Trod enc P W 0 (fun _=>true) true tAs v d ps) (x:wok (d.weights P tAs)) :
    ∃ (l:List Ax) (ad:Option Addr) (cap:Nat),v=.slice ad l.length cap∧(ej_ ad l).p (vw W)∧(∀ y∈l,y.ok)∧l.length≤cap∧cap≤2199023255488:=by
  obtain⟨a,len,cap,rfl⟩:=okWide_slice X.axs k;obtain⟨n,q⟩:=h;obtain⟨l,ad,m,e,A⟩:=axs_of X q x;simp only[Value.cells,List.cons.injEq,and_true]at e;exact⟨l,ad,m,e,A⟩
end
theorem jX_ {T:TypeId→Prop} (K:Kids P T) {name:String} {d:DataW Unit} {k:List (String×DataW Unit)} {W:World} (h:laidMet P k W) (hm:(name,d)∈k) {g:Nat} {t:TypeId} (L:P.globalNamed name=some g) (B:(P.globals[g]?).map (·.type)=some t) (O:T t) {m:Nat} (R:hv_ P m t=true) :
    ∃ C fz,W.heap[g]? = some (.cells (ff_ d).toArray C fz):=by
  obtain⟨ps,hl,_,_⟩:=h
  have G:∀ (l:List (String×DataW Unit)) (ps:List MemPlace),DataW.LaidVars P W l ps→(name,d)∈l→∃ g t cs n p,P.globalNamed name=some g∧(P.globals[g]?).map (·.type)=some t∧W.var? P name=some cs∧DataW.trod (fun _=>()) P W 0 (fun _=>true) false n t cs.toList=some (d,p):=by
    intro l
    induction l with
    | nil=>intro ps _ h;cases h
    | cons x r ih =>
      intro ps h hm;obtain⟨n',S⟩:=x;obtain⟨g,t,cs,A,p,q,E,F,y,I,Q,_⟩:=h;rcases List.mem_cons.1 hm with e|hm
      · cases e;exact⟨g,t,cs,A,p,E,F,y,I⟩
      · exact ih q Q hm
  obtain⟨N,J,cs,n,p,E,F,y,I⟩:=G k ps hl hm;obtain rfl:N=g:=Option.some.inj (E.symm.trans L);obtain rfl:J=t:=Option.some.inj (F.symm.trans B);have e:=vM_ K n m J cs.toList _ O R I;simp only[World.var?,L,Option.bind_some]at y
  split at y
  · rename_i c C fz M
    simp only[Option.some.injEq]at y;subst y;exact⟨C,fz,by rw[M,← e]⟩
  · cases y
end
end Go.Vs
namespace Go.Vs
open Go Go.Sx
theorem jT_ {s:Str} (h:ik_ s=true):∃ c t,s=c::t∧eQ_ c=true∧lH_ s=true:=by
  cases s with
  | nil=>simp[ik_]at h
  | cons c t =>
    simp only[ik_,Bool.and_eq_true]at h;exact⟨c,t,rfl,h.1.1.2,h.1.2⟩
theorem sh_ {s:Str} (h:bh_ s=true):∃ c t,s=c::t∧eQ_ c=true:=by
  unfold bh_ at h;simp only[Bool.and_eq_true]at h;cases hx:ixS 58 s with
  | none=>rw[hx]at h;obtain⟨c,t,e,m,_⟩:=jT_ h.2;exact⟨c,t,e,m⟩
  | some k =>
    rw[hx]at h;simp only[Bool.and_eq_true]at h;obtain⟨c,t,e,m,_⟩:=jT_ h.2.1;cases s with
    | nil=>simp at e
    | cons d u =>
      cases k with
      | zero=>simp at e
      | succ k=>simp only[List.take_succ_cons,List.cons.injEq]at e;exact⟨d,u,rfl,e.1▸m⟩
theorem mO_ {s:Str} (h:lH_ s=true):∀ c∈s,fG_ c=true:=fun c d=>List.all_eq_true.1 h c d
theorem uw_ {c:UInt8} {s:Str} {k:Nat} (h:ixS c s=some k):s=s.take k++c::s.drop (k+1):=by
 induction s generalizing k with
 | nil=>simp[ixS]at h
 | cons b s ih =>
   simp only[ixS]at h
   split at h
   · rename_i d
     simp only[Option.some.injEq]at h;subst h;subst d;simp
   · cases hx:ixS c s with
     | none=>rw[hx]at h;simp at h
     | some j =>
       rw[hx]at h;simp only[Option.map_some,Option.some.injEq]at h;subst h;simp only[List.take_succ_cons,List.drop_succ_cons,List.cons_append];rw[← ih hx]
theorem uj_ {s:Str} (h:bh_ s=true):∀ c∈s,fG_ c=true∨c=58:=by
 unfold bh_ at h;simp only[Bool.and_eq_true]at h;cases hx:ixS 58 s with
 | none=>rw[hx]at h;obtain⟨_,_,_,_,e⟩:=jT_ h.2;exact fun c d=>.inl (mO_ e c d)
 | some k =>
   rw[hx]at h;simp only[Bool.and_eq_true]at h;obtain⟨_,_,_,_,e⟩:=jT_ h.2.1;obtain⟨_,_,_,_,m⟩:=jT_ h.2.2;intro c d;rw[uw_ hx]at d;rcases List.mem_append.1 d with d|d
   · exact .inl (mO_ e c d)
   · rcases List.mem_cons.1 d with rfl|d
     · exact .inr rfl
     · exact .inl (mO_ m c d)
theorem lO_ {c:UInt8}:∀ {s:Str},c ∉ s→ixS c s=none
  | [],_=>rfl
  | b::s,h=>by
    simp only[List.mem_cons,not_or]at h;simp only[ixS];rw[if_neg (fun e=>h.1 e.symm),lO_ h.2];rfl
theorem ix_ {s:Str} (h:bh_ s=true):aW_ 46 s=[s] :=
  gw_ (lO_ fun hm=>by rcases uj_ h 46 hm with h|h<;>revert h<;>decide)
theorem dh_ {s:Str} (h:bh_ s=true):aK_ s=true:=by simp[aK_,h]
theorem du_ {s:Str} (h:bh_ s=true):cn_ s=true:=by
  unfold cn_;rw[ix_ h];simp[dh_ h]
theorem mU_ (c:UInt8):∀ (f r:Str),aW_ c (f++[c]++r)=aW_ c f++aW_ c r
 | [],r=>by simp[aW_]
 | b::f,r=>by
   have d:=mU_ c f r;simp only[List.append_assoc,List.cons_append,List.nil_append]at d ⊢
   by_cases e:b=c
   · subst e;simp only[aW_,if_true,d,List.cons_append]
   · simp only[aW_,e,if_false,d]
     cases hs:aW_ c f with
     | nil=>exact absurd hs (kH_ c f)
     | cons x t=>simp
theorem sq_ {c:UInt8} (h:eQ_ c=true):c≠42∧c≠33∧c≠123∧c≠60∧c≠95:=by
  refine⟨?_,?_,?_,?_,?_⟩<;>rintro rfl<;>revert h<;>decide
theorem sN_ {s:Str} (h:bh_ s=true):bd_ s=true:=by
  obtain⟨c,t,rfl,e⟩:=sh_ h;obtain⟨q,k,d,m,_⟩:=sq_ e;unfold bd_;rw[if_neg (by simp[q,k]),if_neg zaa_,if_neg (by simp[m])];exact dh_ h
theorem ky_ {s:Str} (h:aK_ s=true):bd_ ([123]++s++[125])=true:=by
  unfold bd_;have e:([123]++s++[125]).length=s.length+2:=by simp
  rw[if_neg zB_,if_pos (by
    refine⟨by omega,by simp,?_⟩;rw[List.getElem?_append_right zB_];simp)]
  rw[e];have:(List.drop 1 ([123]++s++[125])).take (s.length+2 - 1 - 1)=s:=by simp
  rw[this];exact h
theorem sO_ {t:Str} (h:t≠[]):bd_ ([60]++t++[62])=true:=by
  unfold bd_;have hl:0<t.length:=List.length_pos_iff.2 h;have e:([60]++t++[62]).length=t.length+2:=by simp
  rw[if_neg zB_,if_neg zB_,if_pos (by
    refine⟨by omega,by simp,?_⟩;rw[List.getElem?_append_right zB_];simp)]
namespace Con
def dep:Con→Nat
  | mk _ _ _ _ _ _ ps=>deps ps
where deps:List Con→Nat
  | []=>0
  | p::ps=>max (1+dep p) (deps ps)
theorem pO_ {p:Con}:∀ {ps:List Con},p∈ps→1+p.dep≤dep.deps ps
 | q::ps,h=>by
   rcases List.mem_cons.1 h with rfl|h
   · simp only[dep.deps];omega
   · have:=pO_ h;simp only[dep.deps];omega
theorem pP_ (c:Con):c.dep=dep.deps c.parts:=by cases c;rfl
theorem sz_eq (c:Con):c.sz=1+sz.szs c.parts:=by cases c;rfl
theorem rl_:∀ (m:Nat) (c:Con),c.sz≤m→∀ d n,(c.fits d n).1=true↔d+c.dep≤8∧n+c.sz≤64
 | 0,c,h=>by have:=c.sz_pos;omega
 | m+1,c,h=>fun d n=>by
   have y:∀ ps:List Con,(∀ p∈ps,p.sz≤m)→∀ n,n≤64→((fits.fitss ps (d+1) n).1=true↔(∀ p∈ps,d+1+p.dep≤8)∧n+sz.szs ps≤64):=by
     intro ps
     induction ps with
     | nil=>intro _ n C;simp[fits.fitss,sz.szs,C]
     | cons p ps ih =>
       intro e n C;have k:=rl_ m p (e p zB_) (d+1) n;simp only[fits.fitss,sz.szs,List.mem_cons,forall_eq_or_imp];rcases v:p.fits (d+1) n with⟨b,q⟩
       rw[v]at k;cases b with
       | true =>
         have A:=pI_ _ p (Nat.le_refl _) (d+1) n (by rw[v]);rw[v]at A;simp only at A k ⊢;have B:=k.1 trivial;rw[ih (fun r G=>e r (by simp[G])) q zs_];constructor
         · rintro ⟨a,b⟩;exact⟨⟨B.1,a⟩,by omega⟩
         · rintro ⟨⟨_,a⟩,b⟩;exact⟨a,by omega⟩
       | false =>
         simp only[Bool.false_eq_true,false_iff]at k ⊢;rintro ⟨⟨a,_⟩,b⟩;exact k ⟨a,by omega⟩
   have E:=pP_ c;have F:=sz_eq c;rw[fits_eq]
   split
   · rename_i x
     simp only[Bool.or_eq_true,decide_eq_true_eq]at x;simp only[Bool.false_eq_true,false_iff];rintro ⟨a,b⟩;omega
   · rename_i x
     simp only[Bool.or_eq_true,decide_eq_true_eq,not_or]at x;rw[y c.parts (fun p e=>by have:=sz_part e;omega) (n+1) zs_,E,F];constructor
     · rintro ⟨a,b⟩
       refine⟨?_,by omega⟩
       have:∀ ps:List Con,(∀ p∈ps,d+1+p.dep≤8)→d+dep.deps ps≤8:=by
         intro ps
         induction ps with
         | nil=>intro _;simp[dep.deps];omega
         | cons p ps ih =>
           intro e;have k:=e p zB_;have B:=ih fun q v=>e q (by simp[v])
           simp only[dep.deps];omega
       exact this _ a
     · rintro ⟨a,b⟩
       exact⟨fun p e=>by have:=pO_ e;omega,by omega⟩
theorem check_iff (c:Con):c.check=0↔c.dep≤8∧c.sz≤64∧c.fine:=by
 unfold check fine;have h:=rl_ _ c (Nat.le_refl _) 0 0
 by_cases d:(c.fits 0 0).1=true
 ·rw[if_pos d]
  have:=h.1 d;constructor
  ·intro e;exact⟨by omega,by omega,e⟩
  exact fun e=>e.2.2
 rw[if_neg d];constructor
 ·intro e;cases e
 intro e;exact absurd (h.2 ⟨by omega,by omega⟩) d
theorem check_part {c p:Con} (h:c.check=0) (d:p∈c.parts):p.check=0:=by
  rw[check_iff]at h ⊢;have e:=pO_ d;rw[← pP_]at e;have k:=sz_part d;exact⟨by omega,by omega,fine_part h.2.2 d⟩
structure Names (c:Con):Prop where
  plain:c.kind=3∨c.kind=6∨c.kind=7→bh_ c.name=true
  person:c.kind=4→aK_ c.name=true
  nums:c.kind=7→-1099511627776≤c.lo∧c.lo≤c.hi∧c.hi≤1099511627776
theorem names_of {c:Con} (h:c.fine):Names c:=by
 have F:=fields h;have hk:c.kind=1∨c.kind=2∨c.kind=3∨c.kind=4∨c.kind=5∨c.kind=6∨c.kind=7:=by have:=F.k1;have:=F.k7;omega
 have d:=((ko_ c).1 h).1;unfold fieldErr at d;rw[if_neg (by have:=F.k1;have:=F.k7;omega)]at d
 split at d
 ·cases d
 split at d
 ·cases d
 rename_i m
 split at d
 ·cases d
 split at d
 ·rename_i k
  refine⟨fun e=>?_,fun e=>?_,fun e=>?_⟩
  ·rcases e with e|e|e<;>rw[e]at k<;>simpa [nd,eC_] using k
  ·rw[e]at k
   simp[nd,eC_]at k
   simp[aK_,k]
  rw[e]at m;simp[nd,eC_]at m
  omega
 cases d
theorem ny_ (x y:Str) (r:List Str) (d:Str):Lib.join (x::y::r) d=x++d++Lib.join (y::r) d:=by simp[Lib.join,List.intercalate]
theorem xp_ {c:Con} (h:c.fine) (hk:5≤c.kind):c.text≠[]:=by
 have F:=fields h;have e:=F.k7;rw[text_eq,if_neg zs_,if_neg zs_,if_neg zs_,if_neg zs_]
 split
 ·rename_i d
  have hl:=F.le;rw[d]at hl;simp[nd,eC_]at hl
  match hp:c.parts,hl with
  | [],hl=>simp at hl
  | [_],hl=>simp at hl
  | p::q::r,_=>simp only[List.map_cons,ny_];simp
 split
 ·simp only[ny_];simp
 simp only[ny_];simp
theorem atom_ok {c:Con} (h:c.check=0):bd_ c.atom=true:=by
 have d:=(check_zero h).1;have F:=fields d;have N:=names_of d;have k:=F.k1;have e:=F.k7;unfold atom
 split
 ·rfl
 split
 ·rfl
 split
 ·exact sN_ (N.plain zs_)
 split
 ·exact ky_ (N.person zs_)
 unfold textN;rw[if_pos h];exact sO_ (xp_ d zs_)
theorem atom_len {c:Con} (d:c.ok) (h:c.check=0):c.atom.length≤7000:=by
  have F:=fields (check_zero h).1;have e:=F.nm;have k:=textN_len d;unfold atom
  repeat' split
  all_goals simp<;>omega
theorem uf_ {c:Con} (h:c.check=0) (hk:c.kind=5) {j:Nat} (B:2≤j) (y:j≤c.parts.length):(c.pre j).check=0:=by
 have q:=(check_zero h).1;have F:=fields q;have e:=F.mo;rw[hk]at e;simp[nd,eC_]at e
 rw[check_iff]at h ⊢
 have k:∀ (ps:List Con) (j:Nat),sz.szs (ps.take j)≤sz.szs ps∧dep.deps (ps.take j)≤dep.deps ps:=by
   intro ps
   induction ps with
   | nil=>intro j;simp
   | cons p ps ih =>
     intro j;cases j with
     | zero=>simp[sz.szs,dep.deps]
     | succ j=>have:=ih j;simp only[List.take_succ_cons,sz.szs,dep.deps];omega
 have C:=k c.parts j;have x:=pP_ c;have A:=sz_eq c;refine⟨?_,?_,?_⟩
 ·rw[pP_];show dep.deps (c.parts.take j)≤8;omega
 ·rw[sz_eq];show 1+sz.szs (c.parts.take j)≤64;omega
 rw[ko_];refine⟨?_,fun p v=>fine_part q (List.mem_of_mem_take v)⟩;unfold fieldErr;have d:(c.pre j).parts.length=j:=by show (c.parts.take j).length=j;simp;omega
 rw[if_neg (by show ¬ ((5:Int)<1∨7<(5:Int));omega)];simp only[d];have m:(c.pre j).kind=5:=rfl;rw[m];simp[nd,eC_,pre,name,lo,hi]
 omega
end Con
structure PQ (f:Int) (q:Pc):Prop where
  frm:q.frm=f
  sm:q.sm
  ok:q.valid=true
section
variable {f:Int} (h0:-1≤f) (h1:f<1024) {a b c r s t:Str} {lo hi:Int}
include h0 h1
theorem ve_ (e:bd_ a=true) (d:bd_ c=true):Pc.valid ⟨1,a,[],c,[],[],[],0,0,f⟩=true:=by
  unfold Pc.valid;rw[if_neg zF_];simp[nus,gz_,cb_,e,d]
theorem val2 (h:bd_ a=true) (d:bd_ b=true) (e:bd_ c=true):Pc.valid ⟨2,a,b,c,[],[],[],0,0,f⟩=true:=by
  unfold Pc.valid;rw[if_neg zF_];simp[nus,gz_,cb_,h,d,e]
theorem val3 (h:bd_ a=true) (d:cn_ r=true) (e:bd_ c=true):Pc.valid ⟨3,a,[],c,r,[],[],0,0,f⟩=true:=by
  unfold Pc.valid;rw[if_neg zF_];simp[nus,gz_,cb_,h,d,e]
theorem val4 (h:bd_ a=true) (d:cn_ r=true) (e:bd_ c=true):Pc.valid ⟨4,a,[],c,r,[],[],0,0,f⟩=true:=by
  unfold Pc.valid;rw[if_neg zF_];simp[nus,gz_,cb_,h,d,e]
theorem val5 (e:cn_ r=true) (d:cn_ t=true):Pc.valid ⟨5,[],[],[],r,[],t,0,0,f⟩=true:=by
  unfold Pc.valid;rw[if_neg zF_];simp[nus,gz_,cb_,e,d]
theorem val6 (h:cn_ r=true) (e:cn_ s=true) (d:cn_ t=true):Pc.valid ⟨6,[],[],[],r,s,t,0,0,f⟩=true:=by
  unfold Pc.valid;rw[if_neg zF_];simp[nus,gz_,cb_,h,e,d]
theorem val7 (d:cn_ r=true):Pc.valid ⟨7,[],[],[],r,[],[],0,0,f⟩=true:=by
  unfold Pc.valid;rw[if_neg zF_];simp[nus,gz_,cb_,d]
theorem val8 (e:bd_ a=true) (d:aK_ r=true) (h:-1099511627776≤lo∧lo≤hi∧hi≤1099511627776):Pc.valid ⟨8,a,[],[],r,[],[],lo,hi,f⟩=true:=by
  unfold Pc.valid;rw[if_neg zF_,if_neg (by simp[nus,gz_];omega)];simp[nus,gz_,cb_,e,d]
theorem val9 (d:bd_ c=true) (e:aK_ r=true) (h:-1099511627776≤lo∧lo≤hi∧hi≤1099511627776):Pc.valid ⟨9,[],[],c,r,[],[],lo,hi,f⟩=true:=by
  unfold Pc.valid;rw[if_neg zF_,if_neg (by simp[nus,gz_];omega)];simp[nus,gz_,cb_,d,e]
end
theorem bm_ {Q:Pc→Prop} {f:Int} {l:List Pc} {p:Pc} (hl:∀ q∈l,Q q) (e:Q { p with frm:=f }):∀ q∈ins f l p,Q q:=by
 unfold ins
 split
 ·exact hl
 intro q d;rcases List.mem_append.1 d with d|d
 ·exact hl q d
 simp only[List.mem_singleton]at d;subst d;exact e
theorem dE_ {s:Str} (h:bh_ s=true):s.length≤24:=Con.plain_len h
theorem kP_ {s:Str} (h:aK_ s=true):s.length≤24:=by
 simp only[aK_,Bool.or_eq_true]at h;rcases h with h|h
 ·exact Con.plain_len h
 exact Con.reserved_len h
namespace Con
section
variable {f:Int} (h0:-1≤f) (h1:f<1024)
include h0 h1
theorem rI_ (c:Con) (e:c.ok) (h:c.check=0) (hk:c.kind=5):∀ (r:List Con) (j:Nat) (a:Str) (l:List Pc),1≤j→j+r.length≤c.parts.length→(∀ p∈r,p∈c.parts)→bd_ a=true→a.length≤7000→(∀ q∈l,PQ f q)→∀ q∈andP f c r j a l,PQ f q
  | [],_,_,l,_,_,_,_,_,hl=>hl
  | p::r,j,a,l,hj,hlen,hm,ha,hal,hl=>by
    simp only[List.length_cons]at hlen;have k:=hm p zB_;have d:=uf_ h hk (j:=j+1) zs_ zs_;have m:=atom_ok d;have v:=atom_len (pre_ok e (j+1)) d;have y:=atom_ok (check_part h k);have A:=atom_len (ok_part e k) (check_part h k);simp only[andP]
    exact rI_ c e h hk r (j+1) _ _ zs_ zs_ (fun q x=>hm q (by simp[x])) m v
      (bm_ hl ⟨rfl,⟨by dsimp only;omega,by dsimp only;omega,by dsimp only;omega,by simp,by simp,by simp⟩,val2 h0 h1 ha y m⟩)
theorem leftP_all:∀ (m:Nat) (c:Con),c.sz≤m→c.ok→c.check=0→∀ l,(∀ q∈l,PQ f q)→∀ q∈c.leftP f l,PQ f q
 | 0,c,h=>by have:=c.sz_pos;omega
 | m+1,c,h=>fun k x l hl=>by
   have B:∀ ps:List Con,(∀ p∈ps,p∈c.parts)→∀ l,(∀ q∈l,PQ f q)→∀ q∈leftP.lefts f ps l,PQ f q:=by
     intro ps
     induction ps with
     | nil=>intro _ l hl;exact hl
     | cons p ps ih =>
       intro y l hl;have e:=y p zB_;exact ih (fun q A=>y q (by simp[A])) _ (leftP_all m p (by have:=sz_part e;omega) (ok_part k e) (check_part x e) l hl)
   have hk:=B c.parts (fun _ h=>h) l hl;have F:=fields (check_zero x).1;have N:=names_of (check_zero x).1;have ca:=atom_ok x;have cl:=atom_len k x;rw[leftP_eq]
   split
   · rename_i I
     have d:=F.le;rw[I]at d;simp[nd,eC_]at d
     match y:c.parts,d with
     | [],d=>simp at d
     | p::r,_ =>
       have e:p∈c.parts:=by rw[y];simp
       have C:=atom_ok (check_part x e);have H:=atom_len (ok_part k e) (check_part x e);refine rI_ h0 h1 c k x I _ 1 _ _ zs_ (by rw[y];simp;omega) (fun q A=>by rw[y];exact List.mem_of_mem_drop A) (by simpa using C) (by simpa using H) (by rw[y]at hk;exact hk)
   · split
     · rename_i E
       have d:=F.le;rw[E]at d;simp[nd,eC_]at d
       have v:=N.plain (.inr (.inl E))
       match y:c.parts,d with
       | [],d=>simp at d
       | p::r,_ =>
         have e:p∈c.parts:=by rw[y];simp
         have C:=atom_ok (check_part x e);have H:=atom_len (ok_part k e) (check_part x e);have J:=dE_ v;rw[y]at hk;exact bm_ hk ⟨rfl,⟨by simp;omega,by simp,by dsimp only;omega,by dsimp only;omega,by simp,by simp⟩,val4 h0 h1 (by simpa using C) (du_ v) ca⟩
     · split
       · rename_i G
         have v:=N.plain (.inr (.inr G));have J:=dE_ v;exact bm_ hl ⟨rfl,⟨by simp,by simp,by dsimp only;omega,by dsimp only;omega,by simp,by simp⟩,val9 h0 h1 ca (dh_ v) (N.nums G)⟩
       · exact hl
theorem rightP_all:∀ (m:Nat) (c:Con),c.sz≤m→c.ok→c.check=0→∀ l,(∀ q∈l,PQ f q)→∀ q∈c.rightP f l,PQ f q
 | 0,c,h=>by have:=c.sz_pos;omega
 | m+1,c,h=>fun e x l hl=>by
   have ca:=atom_ok x;have cl:=atom_len e x
   have C:∀ ps:List Con,(∀ p∈ps,p∈c.parts)→∀ l,(∀ q∈l,PQ f q)→∀ q∈rightP.rights f c.atom ps l,PQ f q:=by
     intro ps
     induction ps with
     | nil=>intro _ l hl;exact hl
     | cons p ps ih =>
       intro y l hl;have d:=y p zB_;have E:=atom_ok (check_part x d);have J:=atom_len (ok_part e d) (check_part x d)
       exact ih (fun q B=>y q (by simp[B])) _ (rightP_all m p (by have:=sz_part d;omega) (ok_part e d) (check_part x d) _
         (bm_ hl ⟨rfl,⟨by dsimp only;omega,by simp,by dsimp only;omega,by simp,by simp,by simp⟩,ve_ h0 h1 ca E⟩))
   have A:∀ ps:List Con,(∀ p∈ps,p∈c.parts)→∀ l,(∀ q∈l,PQ f q)→∀ q∈rightP.righty f ps l,PQ f q:=by
     intro ps
     induction ps with
     | nil=>intro _ l hl;exact hl
     | cons p ps ih =>
       intro y l hl;have d:=y p zB_;exact ih (fun q B=>y q (by simp[B])) _ (rightP_all m p (by have:=sz_part d;omega) (ok_part e d) (check_part x d) l hl)
   have F:=fields (check_zero x).1;have N:=names_of (check_zero x).1;rw[rightP_eq]
   split
   · exact C c.parts (fun _ h=>h) l hl
   · split
     · rename_i G
       have v:=F.le;rw[G]at v;simp[nd,eC_]at v
       have k:=N.plain (.inr (.inl G));have I:=dE_ k;refine A c.parts (fun _ h=>h) _ (bm_ hl ?_)
       match y:c.parts,v with
       | [],v=>simp at v
       | p::r,_ =>
         have d:p∈c.parts:=by rw[y];simp
         have E:=atom_ok (check_part x d);have J:=atom_len (ok_part e d) (check_part x d);exact⟨rfl,⟨by dsimp only;omega,by simp,by simp;omega,by dsimp only;omega,by simp,by simp⟩,val3 h0 h1 ca (du_ k) (by simpa using E)⟩
     · split
       · rename_i H
         have k:=N.plain (.inr (.inr H));have I:=dE_ k;exact bm_ hl ⟨rfl,⟨by dsimp only;omega,by simp,by simp,by dsimp only;omega,by simp,by simp⟩,val8 h0 h1 ca (dh_ k) (N.nums H)⟩
       · exact hl
end
end Con
namespace Ax
section
variable {f:Int} (h0:-1≤f) (h1:f<1024)
include h0 h1
theorem nS_ (role:Str) (B:bh_ role=true):∀ (E:List Str) (g:Str) (l:List Pc),(∀ r∈E,bh_ r=true)→(aW_ 46 g).length+E.length≤4→((aW_ 46 g).all aK_=true)→g.length≤100*(aW_ 46 g).length→(∀ q∈l,PQ f q)→∀ q∈chainP f role E g l,PQ f q
 | [],_,_,_,_,_,_,hl=>hl
 | r::t,g,l,hp,hn,hg,hgl,hl=>by
   have d:=hp r zB_;have H:=dE_ d;have F:=dE_ B;simp only[List.length_cons]at hn
   have x:cn_ g=true:=by
     unfold cn_;rw[decide_eq_true zs_];simp only[Bool.true_and,Bool.not_eq_true'];rw[List.any_eq_false];intro y C;simp[List.all_eq_true.1 hg y C]
   simp only[chainP]
   by_cases A:t=[]
   · subst A
     simp only[if_true,chainP];exact bm_ hl ⟨rfl,⟨by simp,by simp,by simp,by dsimp only;omega,by dsimp only;omega,by dsimp only;omega⟩,val6 h0 h1 x (du_ d) (du_ B)⟩
   · simp only[A,if_false]
     have I:0<t.length:=List.length_pos_iff.2 A;have e:=mU_ 46 g r;rw[ix_ d]at e;have h:(aW_ 46 (g++[46]++r)).all aK_=true:=by rw[e,List.all_append,hg];simp[dh_ d]
     have k:(aW_ 46 (g++[46]++r)).length=(aW_ 46 g).length+1:=by rw[e];simp
     have v:(g++[46]++r).length≤100*(aW_ 46 (g++[46]++r)).length:=by rw[k];simp;omega
     have m:cn_ (g++[46]++r)=true:=by
       unfold cn_;rw[decide_eq_true zs_];simp only[Bool.true_and,Bool.not_eq_true'];rw[List.any_eq_false];intro y C;simp[List.all_eq_true.1 h y C]
     exact nS_ role B t _ _ (fun q G=>hp q (by simp[G])) zs_ h v
       (bm_ hl ⟨rfl,⟨by simp,by simp,by simp,by dsimp only;omega,by dsimp only;omega,by dsimp only;omega⟩,val6 h0 h1 x (du_ d) m⟩)
theorem pieces_all {x:Ax} (d:x.ok) (m:x.check=0):∀ q∈x.pieces f,PQ f q:=by
 have G:=good_of m;have L:=fun (c:Con) (d:c.ok) (m:c.check=0)=>Con.leftP_all h0 h1 _ c (Nat.le_refl _) d m
 have B:=fun (c:Con) (d:c.ok) (m:c.check=0)=>Con.rightP_all h0 h1 _ c (Nat.le_refl _) d m
 have n:∀ q∈([]:List Pc),PQ f q:=fun q C=>by cases C
 have K:=G.k1;have O:=G.k9;have A:=fun (c:Con) (d:c.ok) (m:c.check=0)=>(⟨Con.atom_ok m,Con.atom_len d m⟩:bd_ c.atom=true∧c.atom.length≤7000)
 unfold pieces
 split
 ·have l:=G.left zs_;have r:=G.right zs_
  have v:=A _ d.left l;have k:=A _ d.right r;exact bm_ (B _ d.right r _ (L _ d.left l _ n)) ⟨rfl,⟨by dsimp only;omega,by simp,by dsimp only;omega,by simp,by simp,by simp⟩,ve_ h0 h1 v.1 k.1⟩
 split
 ·have l:=G.left zs_;have r:=G.right zs_
  have v:=A _ d.left l;have k:=A _ d.right r;exact bm_ (B _ d.left l _ (L _ d.right r _ (bm_ (B _ d.right r _ (L _ d.left l _ n)) ⟨rfl,⟨by dsimp only;omega,by simp,by dsimp only;omega,by simp,by simp,by simp⟩,ve_ h0 h1 v.1 k.1⟩))) ⟨rfl,⟨by dsimp only;omega,by simp,by dsimp only;omega,by simp,by simp,by simp⟩,ve_ h0 h1 k.1 v.1⟩
 split
 ·have l:=G.left zs_;have r:=G.right zs_
  have v:=A _ d.left l;have k:=A _ d.right r;exact bm_ (L _ d.right r _ (L _ d.left l _ n)) ⟨rfl,⟨by dsimp only;omega,by dsimp only;omega,by simp,by simp,by simp,by simp⟩,val2 h0 h1 v.1 k.1 rfl⟩
 split
 ·have r:=G.right zs_;have k:=A _ d.right r;have p:=G.role zs_;have pl:=dE_ p
  exact bm_ (B _ d.right r _ n) ⟨rfl,⟨by simp,by simp,by dsimp only;omega,by dsimp only;omega,by simp,by simp⟩,val4 h0 h1 rfl (du_ p) k.1⟩
 split
 ·rename_i J
  have p:=G.role zs_;have pl:=dE_ p;have I:=G.one J
  match hr:x.roles,I with
  | [r],_ =>
    have y:=G.roles r (by rw[hr];simp);have E:=dE_ y;exact bm_ n ⟨rfl,⟨by simp,by simp,by simp,by simp;omega,by simp,by dsimp only;omega⟩,val5 h0 h1 (by simpa using du_ y) (du_ p)⟩
 split
 ·rename_i H
  have p:=G.role zs_;have h:=G.chain H
  match hr:x.roles,h with
  | [],h=>simp at h
  | r::t,h =>
    have y:=G.roles r (by rw[hr];simp);have E:=dE_ y;have e:=ix_ y;simp only[List.length_cons]at h;simp only[List.drop_succ_cons,List.drop_zero,List.headD_cons];exact nS_ h0 h1 x.role p t r [] (fun q C=>G.roles q (by rw[hr];simp[C])) (by rw[e];simp;omega) (by rw[e];simp[dh_ y]) (by rw[e];simp;omega) n
 split
 ·have p:=G.role zs_;have pl:=dE_ p
  exact bm_ n ⟨rfl,⟨by simp,by simp,by simp,by dsimp only;omega,by simp,by simp⟩,val7 h0 h1 (du_ p)⟩
 split
 ·have r:=G.right zs_;have k:=A _ d.right r;have p:=G.a zs_;have pl:=kP_ p
  exact bm_ (B _ d.right r _ n) ⟨rfl,⟨by simp;omega,by simp,by dsimp only;omega,by simp,by simp,by simp⟩,ve_ h0 h1 (ky_ p) k.1⟩
 have p:=G.role zs_;have pl:=dE_ p;have F:=G.a zs_;have pb:=G.b zs_;have M:=kP_ F;have N:=kP_ pb;exact bm_ n ⟨rfl,⟨by simp;omega,by simp,by simp;omega,by dsimp only;omega,by simp,by simp⟩,val3 h0 h1 (ky_ F) (du_ p) (ky_ pb)⟩
end
end Ax
namespace Con
end Con
def cc_:Nat→List Ax→List Pc
  | _,[]=>[]
  | i,x::l=>x.pieces (i:Int)++cc_ (i+1) l
theorem rj_:∀ (i:Nat) (l:List Ax),(∀ x∈l,x.check=0)→(cc_ i l).length≤1000*l.length
  | _,[],_=>by simp[cc_]
  | i,x::l,h=>by
    have h1:=jD_ (i:Int) (Ax.good_of (h x zB_));have e:=rj_ (i+1) l fun y d=>h y zaa_
    simp only[cc_,List.length_append,List.length_cons];omega
theorem oR_:∀ (l:List Ax) (i:Nat) (p:List Pc),(∀ x∈l,x.check=0)→p.length+1000*l.length≤16384→hC_ i l p=some (p++cc_ i l)
  | [],i,p,_,_=>by simp[hC_,cc_]
  | x::l,i,p,h,hl=>by
    have h1:=jD_ (i:Int) (Ax.good_of (h x zB_));simp only[List.length_cons]at hl;simp only[hC_,cc_];rw[if_neg zF_,oR_ l (i+1) _ (fun y d=>h y zaa_) zF_,List.append_assoc]
theorem rk_:∀ (l:List Ax) (i:Nat),i+l.length≤1024→(∀ x∈l,x.ok)→(∀ x∈l,x.check=0)→∀ q∈cc_ i l,(i:Int)≤q.frm∧q.frm<((i+l.length:Nat):Int)∧q.sm∧q.valid=true
 | [],_,_,_,_=>by simp[cc_]
 | x::l,i,hi,hok,hc=>by
   simp only[List.length_cons]at hi ⊢;intro q d;simp only[cc_]at d;rcases List.mem_append.1 d with d|d
   · have h:=Ax.pieces_all (f:=(i:Int)) zs_ zs_ (hok x zB_) (hc x zB_) q d
     exact⟨by rw[h.frm];omega,by rw[h.frm];omega,h.sm,h.ok⟩
   · have h:=rk_ l (i+1) zs_ (fun y e=>hok y (by simp[e])) (fun y e=>hc y (by simp[e])) q d
     exact⟨by omega,by omega,h.2.2⟩
theorem si_ {l:List Ax} (hl:l.length≤12) (h:∀ x∈l,x.check=0):bC_ l=(cc_ 0 l,0):=by
  unfold bC_;rw[if_neg zs_,if_neg (by simp[fs_ h]),oR_ l 0 [] h zF_];simp
end Go.Vs
namespace Go.Sx
open Go
section
variable {P:Program} {N:Nf} {fr:Fr} {H:Hp} {Γ:List Fct}
theorem kw_:∀ (x y:List UInt8),Op.bytesLess x y=decide (x<y)
  | [],[]=>by simp[Op.bytesLess]
  | _::_,[]=>by simp[Op.bytesLess]
  | [],_::_=>by simp[Op.bytesLess]
  | a::x,b::y=>by
    rw[Op.bytesLess,kw_ x y];simp only[List.cons_lt_cons_iff]
    by_cases e:a<b<;>by_cases h:a=b<;>by_cases d:x<y<;>simp[e,h,d]
theorem yK_ (x y:List UInt8):(Op.bytesLess x y||x==y)=decide (x≤y):=by
 rw[kw_]
 by_cases h:x≤y
 ·rw[decide_eq_true h]
  by_cases e:x=y
  ·simp[e]
  have:x<y:=by
    apply Decidable.byContradiction
    intro d;exact e (List.le_antisymm h (List.not_lt.1 d))
  simp[this]
 rw[decide_eq_false h];have k:¬ x<y:=fun q=>h (List.le_of_lt q)
 have d:x≠y:=fun e=>h (e▸List.le_refl x)
 simp[k,d]
theorem fW_ {t k ty:TypeId} {x y:Operand} {m n:List UInt8} (e:Fr.ev fr x=some (str m)) (h:Fr.ev fr y=some (str n)):Yld P N fr H Γ (.binOp .lss t x y k) ty (.bool (decide (m<n))) :=
  fun a v d _ _ _ _ _=>by rw[← kw_];simp[execOp,d.ev e,d.ev h,str,eqGuard,binOp,Op.stringOp]
theorem jy_ {f:FuncId} {args:Array Value} {r:Value} {g:Nat} {cur:Array Value} {T:TypeId} {d:Array (List UInt8)} (G:hh_ P f)
    (h:∀ v:Vw,v.sat [(g,.cells cur T (0,0))]→Calls P f args v.w fun e w'=>e=.returned r∧∃ n os,w'=Sort.grow (Sort.putRow Go.Proofs.encStr (Sort.ahead v.w n) g 0 d) os) :
    Tri P f args [(g,.cells cur T (0,0))] Γ (fun _:Unit=>r) (fun _=>[(g,.cells (Sort.putCells Go.Proofs.encStr 0 d cur) T (0,0))]) (fun _=>[]) :=
  ⟨G,fun v E _=>(h v E).mono fun e w' ⟨I,n,os,m⟩=>by
    have C:=(E.own _ List.mem_cons_self);have A:g<v.w.heap.size:=(Array.getElem?_eq_some_iff.1 C.1).1
    have y:∀ b,b<v.w.heap.size→w'.heap[b]? = if b=g then some (.cells (Sort.putCells Go.Proofs.encStr 0 d cur) T (0,0)) else v.w.heap[b]? := fun b y=>by
      rw[m];simp only[Sort.grow,Sort.putRow,Sort.mapBlock,Sort.ahead];rw[Array.getElem?_append_left zaO_,Array.getElem?_modify]
      by_cases e:b=g
      · subst e
        simp only[if_true,C.1,Option.map_some,Sort.onCells]
      · rw[if_neg (fun q=>e q.symm),if_neg e]
    have x:v.w.heap.size≤w'.heap.size:=by rw[m];simp[Sort.grow,Sort.putRow,Sort.mapBlock,Sort.ahead]
    refine⟨(),⟨v.im,w',v.sl⟩,I,rfl,⟨fun p F=>?_,by simp,fun b k=>Nat.lt_of_lt_of_le (E.lt b k) x⟩,trivial,⟨by rw[m];rfl,by rw[m];rfl,by rw[m];rfl,x,fun b k J=>?_,fun _ h=>h,fun _ h=>.inl h,fun b hm=>.inl (by simpa using hm),rfl,.inr (by rw[m];exact Nat.le_add_right _ _)⟩⟩
    · simp only[List.mem_singleton]at F
      subst F;exact⟨by show w'.heap[g]? = _;rw[y g A,if_pos rfl],C.2⟩
    · have B:b≠g:=by simpa using J
      show w'.heap[b]? = _
      rw[y b k,if_neg B]⟩
theorem nb_ {cur:Array Value} {d:List (List UInt8)} (h:d.length≤cur.size):(Sort.putCells Go.Proofs.encStr 0 d.toArray cur).toList.take d.length=d.flatMap ag_:=by
 rw[mQ_]
 apply List.ext_getElem?
 intro j;rw[List.getElem?_take,List.getElem?_map]
 split
 ·rename_i e
  simp only[Sort.putCells,Array.getElem?_toList,Array.getElem?_mapIdx];rw[Array.getElem?_eq_getElem zs_];simp only[Option.map_some,Nat.zero_le,true_and,Nat.zero_add,List.size_toArray,e,if_true,Nat.sub_zero];rw[List.getElem?_eq_getElem e];simp only[Option.map_some];rw[getElem!_pos d.toArray j zag_];rfl
 rename_i e
 rw[List.getElem?_eq_none zs_];rfl
theorem nc_ {cur:Array Value} {d:Array (List UInt8)}:(Sort.putCells Go.Proofs.encStr 0 d cur).size=cur.size:=by simp[Sort.putCells]
end
end Go.Sx
namespace Go.Vs
open Go Go.Sx
def lf_ (p:Pc):List Str:=[p.a,p.b,p.c].filter fun s=>!(s==[])
def cU_ (l:List Pc):List Str:=l.flatMap lf_
def ev_ (l:List Pc):List Str:=Lib.compact ((cU_ l).mergeSort fun x y=>decide (x≤y))
theorem jN_:∀ l:List Pc,(cU_ l).length≤3*l.length
  | []=>by simp[cU_]
  | p::r=>by
    have d:=jN_ r;have e:(lf_ p).length≤3:=by unfold lf_;exact List.length_filter_le _ _
    simp only[cU_,List.flatMap_cons,List.length_append,List.length_cons]at d ⊢;omega
theorem fY_ (l:List Str):(l.mergeSort fun x y=>decide (x≤y)).Pairwise fun x y=>x≤y:=by
  have h:=List.pairwise_mergeSort (le:=fun x y:Str=>decide (x≤y)) (fun a b c e d=>by simp only[decide_eq_true_eq]at *;exact List.le_trans e d) (fun a b=>by
    simp only[Bool.or_eq_true,decide_eq_true_eq];exact List.le_total a b) l
  exact h.imp (fun h=>of_decide_eq_true h)
theorem iK_ {d:List Str}:Lib.compact d=((List.range d.length).filter fun j=>decide (j=0∨d[j]! ≠ d[j - 1]!)).map fun j=>d[j]! := by
 unfold Lib.compact Lib.compactUpTo Lib.keeps
 have e:∀ j,d.toArray[j]! = d[j]! := fun j=>by
   by_cases h:j<d.length
   · rw[getElem!_pos d.toArray j zV_,getElem!_pos d j h];simp
   · rw[getElem!_neg d.toArray j zV_,getElem!_neg d j h]
 rw[List.map_congr_left fun j _=>e j]
 congr 2
 funext j
 rw[e,e]
theorem gD_ (d:List Str):(Lib.compact d).length≤d.length:=by
  rw[iK_,List.length_map];have:=List.length_filter_le (fun j=>decide (j=0∨d[j]! ≠ d[j - 1]!)) (List.range d.length);simpa using this
theorem iJ_ {d:List Str} (x:Str):x∈Lib.compact d↔x∈d:=by
 rw[iK_,List.mem_map];constructor
 ·rintro ⟨j,k,rfl⟩
  have hl:=List.mem_range.1 (List.mem_filter.1 k).1;rw[getElem!_pos d j hl];exact List.getElem_mem hl
 intro q;obtain⟨j,k,e⟩:=List.mem_iff_getElem.1 q;clear q
 induction j with
 | zero=>exact⟨0,List.mem_filter.2 ⟨List.mem_range.2 k,by simp⟩,by rw[getElem!_pos d 0 k];exact e⟩
 | succ j ih =>
   by_cases h:d[j+1]! = d[j]!
   · have m:j<d.length:=by omega
     refine ih m ?_;rw[getElem!_pos d (j+1) k,getElem!_pos d j m]at h;rw[← h];exact e
   · exact⟨j+1,List.mem_filter.2 ⟨List.mem_range.2 k,decide_eq_true (.inr h)⟩,by rw[getElem!_pos d (j+1) k];exact e⟩
theorem hJ_ {d:List Str} (E:d.Pairwise fun x y=>x≤y):(Lib.compact d).Pairwise fun x y=>x<y:=by
 rw[iK_,List.pairwise_map];have G:(List.range d.length).Pairwise (·<·):=List.pairwise_lt_range;have I:=G.filter (fun j=>decide (j=0∨d[j]! ≠ d[j - 1]!));refine List.Pairwise.imp_of_mem ?_ I;intro j k L hk C;have A:=List.mem_range.1 (List.mem_filter.1 hk).1;have m:=(List.mem_filter.1 hk).2;simp only[decide_eq_true_eq]at m
 have q:d[k]! ≠ d[k - 1]! := by
   rcases m with h|h
   · omega
   · exact h
 have e:∀ a b,a≤b→b<d.length→d[a]! ≤ d[b]! := by
   intro a b v B;rcases Nat.lt_or_eq_of_le v with h|h
   · rw[getElem!_pos d a zs_,getElem!_pos d b B]
     exact List.pairwise_iff_getElem.1 E a b zs_ B h
   · subst h;exact List.le_refl _
 have K:=e j (k - 1) zs_ zs_;have F:=e (k - 1) k zs_ A
 have J:d[k - 1]! < d[k]! := by
   apply Decidable.byContradiction
   intro h;exact q (List.le_antisymm (List.not_lt.1 h) F)
 exact List.lt_of_le_of_lt K J
theorem fp_ (l:List Pc) (x:Str):x∈ev_ l↔x∈cU_ l:=by
  unfold ev_;rw[iJ_,List.mem_mergeSort]
theorem fq_ (l:List Pc):(ev_ l).length≤3*l.length:=by
  have d:=gD_ ((cU_ l).mergeSort fun x y=>decide (x≤y));rw[List.length_mergeSort]at d;have e:=jN_ l;unfold ev_;omega
end Go.Vs
namespace Go.Proofs.YtpbnmnfdgckaiaaGreatDoor
open Go Go.Sx Go.Proofs
attribute [local irreducible] Code.wp wpList wpAnyH
open Go.Vs
theorem eltS:Elt Tryz.prog 25 9 1 16:=jo_ il_ (z:=.string ⟨#[]⟩) zv_ rfl zw_
theorem kZ_ {g n cap:Nat} {cur:Array Value} {d:List Str} {v:Vw} (q:v.sat [(g,.cells cur 9 (0,0))]) (m:cur.toList.take (d.length*1)=d.flatMap ag_):Sort.Holds encStr v.w g 0 d.toArray:=by
 intro j e;have h:=(q.own _ List.mem_cons_self).1;simp only[List.size_toArray]at e;have k:cur[j]? = some (str d[j]):=or_ m j d[j] (List.getElem?_eq_getElem e);refine⟨?_,?_⟩
 ·simp only[World.cell?,Nat.zero_add,h,Option.isSome_none,Bool.false_eq_true,if_false]
  rw[k,getElem!_pos d.toArray j zag_];rfl
 simp[World.frozen?,h]
theorem mo_ {sv:Value} {k:List Str} {Hr:Hp} (h:ay_ 9 1 sv k.length (k.flatMap ag_) Hr) (hl:k.length≤1000000000000) :
    Tri Tryz.prog 95 #[sv] Hr [] (fun _:{y:Hp // ay_ 9 1 sv k.length ((k.mergeSort fun x y=>decide (x≤y)).flatMap ag_) y}=>.tuple #[]) (fun y=>y.1) (fun _=>[]):=by
  rcases h.2 with⟨rfl,K,rfl⟩|⟨g,cap,cur,rfl,rfl,G,J,F,I⟩
  · obtain rfl:k=[]:=List.eq_nil_of_length_eq_zero K
    have T:=cT_ (P:=Tryz.prog) (H:=[]) (Γ:=[]) (callable Tryz.func95 rfl rfl) (fun v _ _=>(Tryz.slices_Sort_string_none none 0 v.w).mono zC_);exact⟨T.callable,fun v a b=>(T.run v a b).mono (by rintro e w' ⟨x,L,q,E,m,A,C⟩;exact⟨⟨[],by simpa using ay_.nil _ _⟩,L,q,E,m,A,C⟩)⟩
  · have T:=jy_ (P:=Tryz.prog) (Γ:=[]) (d:=(k.mergeSort fun x y=>decide (x≤y)).toArray) (callable Tryz.func95 rfl rfl) (fun v M=>Tryz.slices_Sort_string g 0 cap k v.w (kZ_ (n:=0) (cap:=0) M I) (Array.getElem?_eq_some_iff.1 (M.own _ List.mem_cons_self).1).1 zs_)
    have B:(k.mergeSort fun x y=>decide (x≤y)).length=k.length:=List.length_mergeSort _;refine⟨T.callable,fun v a b=>(T.run v a b).mono ?_⟩;rintro e w' ⟨x,L,q,E,m,A,C⟩;refine⟨⟨_,by rw[dv_ ag_ 1 aq_,B],.inr ⟨g,cap,_,rfl,rfl,G,J,by rw[nc_];exact F,?_⟩⟩,L,q,E,m,A,C⟩;have:=nb_ (cur:=cur) (d:=k.mergeSort fun x y=>decide (x≤y)) (by rw[B,F];omega);rw[B]at this;rw[Nat.mul_one];exact this
theorem jM_ {sv:Value} {k:List Str} {Hr:Hp} (h:ay_ 9 1 sv k.length (k.flatMap ag_) Hr) (hl:k.length≤1000000000000) :
    Tri Tryz.prog 117 #[sv] Hr [] (fun y:{y:Value×Hp // ay_ 9 1 y.1 (Lib.compact k).length ((Lib.compact k).flatMap ag_) y.2}=>y.1.1) (fun y=>y.1.2) (fun _=>[]):=by
  rcases h.2 with⟨rfl,M,rfl⟩|⟨g,cap,cur,rfl,rfl,L,J,F,I⟩
  · obtain rfl:k=[]:=List.eq_nil_of_length_eq_zero M
    have T:=cT_ (P:=Tryz.prog) (H:=[]) (Γ:=[]) (callable Tryz.func117 rfl rfl) (fun v _ _=>(Tryz.slices_Compact_string_empty none 0 v.w).mono zC_);exact⟨T.callable,fun v a b=>(T.run v a b).mono (by rintro e w' ⟨x,K,m,E,B,A,C⟩;exact⟨⟨(.slice none 0 0,[]),by simpa [Lib.compact,Lib.compactUpTo] using ay_.nil _ _⟩,K,m,E,B,A,C⟩)⟩
  · have N:=gD_ k
    have T:=jy_ (P:=Tryz.prog) (Γ:=[]) (r:=.slice (some ⟨g,0,none⟩) (Lib.compact k).length cap) (d:=(Lib.compact k++List.replicate (k.length - (Lib.compact k).length) []).toArray) (callable Tryz.func117 rfl rfl) (fun v Q=>(Tryz.slices_Compact_string g 0 cap k v.w (kZ_ (n:=0) (cap:=0) Q I) zs_ L).mono (by
      rintro e w' ⟨rfl,q,rfl⟩;exact⟨rfl,q,#[],by rw[Sort.grow_empty]⟩))
    refine⟨T.callable,fun v a b=>(T.run v a b).mono ?_⟩;rintro e w' ⟨x,K,m,E,B,A,C⟩;refine⟨⟨(.slice (some ⟨g,0,none⟩) (Lib.compact k).length cap,_),by rw[dv_ ag_ 1 aq_],.inr ⟨g,cap,_,rfl,rfl,by omega,J,by rw[nc_];exact F,?_⟩⟩,K,m,E,B,A,C⟩;have O:(Lib.compact k++List.replicate (k.length - (Lib.compact k).length) ([]:Str)).length=k.length:=by simp;omega
    have:=nb_ (cur:=cur) (d:=Lib.compact k++List.replicate (k.length - (Lib.compact k).length) []) (by rw[O,F];omega);rw[O]at this;have G:=congrArg (List.take (Lib.compact k).length) this;rw[List.take_take,Nat.min_eq_left N,List.flatMap_append,List.take_append_of_le_length (by rw[dv_ ag_ 1 aq_];omega),List.take_of_length_le (l:=(Lib.compact k).flatMap ag_) (by rw[dv_ ag_ 1 aq_];omega)]at G;rw[Nat.mul_one];exact G
theorem yP_ (l:List Pc) (ad:Option Addr) (cap:Nat) (hl:l.length≤100000000000):Tri Tryz.prog 116 #[.slice ad (List.length l) cap] [] [ah_ ad (List.flatMap Pc.cells l)] (fun y:{y:Option Addr×Nat // (ev_ l).length≤y.2∧y.2≤maxLen}=>.slice y.1.1 (ev_ l).length y.1.2) (fun _=>[]) (fun y=>[ah_ y.1.1 ((ev_ l).flatMap ag_)]):=by
 refine i_ Tryz.func116 rfl rfl Tryz.ntmps116 rfl fun a0=>?_;refine Zz 14 ?_;refine bs_ [(2,.slice none 0 0),(7,.slice ad (List.length l) cap),(8,.int .i64 (List.length l:Int)),(9,.int .i64 ((0:Nat):Int))] zl ?_;refine bR_ (ι:={y:Nat×Value×Hp // y.1≤l.length∧ay_ 9 1 y.2.1 (cU_ (l.take y.1)).length ((cU_ (l.take y.1)).flatMap ag_) y.2.2}) (fun y=>[(2,y.1.2.1),(7,.slice ad (List.length l) cap),(8,.int .i64 (List.length l:Int)),(9,.int .i64 (y.1.1:Int))]) (fun y=>y.1.2.2) (fun _=>_) (fun y=>l.length - y.1.1) ⟨(0,.slice none 0 0,[]),by simp,ay_.nil _ _⟩ ?_;rintro ⟨⟨i,sv,Hr⟩,hi,v⟩;dsimp only at hi v;dsimp only;have N:=jN_ (l.take i);rw[List.length_take]at N;refine bs_ [(2,sv),(7,.slice ad (List.length l) cap),(8,.int .i64 (List.length l:Int)),(9,.int .i64 (i:Int))] zl ?_;refine Zi 2 (fun Q=>?_) fun Q=>?_
 ·refine Zz 7 ?_
  have Z:l.take i=l:=List.take_of_length_le zs_;rw[Z]at v N;refine Zz 2 ?_;refine g_ (mo_ v zs_) rfl ac_ zt rfl fun⟨Hs,hs⟩=>?_;dsimp only;refine y_ (List.Perm.symm ac_) ?_;have I:ay_ 9 1 sv ((cU_ l).mergeSort fun x y=>decide (x≤y)).length (((cU_ l).mergeSort fun x y=>decide (x≤y)).flatMap ag_) Hs:=by rw[List.length_mergeSort];exact hs
  refine Zz 5 ?_;refine g_ (jM_ I (by rw[List.length_mergeSort];omega)) rfl ac_ zt rfl fun⟨⟨sc,Hc⟩,Y⟩=>?_;dsimp only;refine y_ (List.Perm.symm ac_) (Zz 4 ?_);refine jE_ Y ac_ fun G R U K H=>?_;exact ae_ Tryz.results116 ⟨(G,R),K,H⟩ (fM_ rfl U) m_ zf
 obtain⟨F,d,P,V⟩:=zge (show i<List.length l by omega);refine Zz 12 ?_;refine G_ P_ rfl fun a2=>u_ 0 F_ rfl rfl rfl rfl rfl rfl (Zz 10 ?_)
 refine U_ l_ E_ ax_ rfl rfl rfl rfl rfl rfl fun C=>?_;refine cQ_ (List.flatMap ag_ [d.a,d.b,d.c]) d_ rfl ?_;refine Zz 5 ?_;refine bs_ [(2,sv),(7,.slice ad (List.length l) cap),(8,.int .i64 (List.length l:Int)),(9,.int .i64 (i:Int)),(19,.slice (some ⟨C,0,none⟩) (List.length [d.a,d.b,d.c]) 3),(20,.int .i64 3),(21,.int .i64 ((0:Nat):Int))] zl ?_;refine bR_ (ι:={y:Nat×Value×Hp // y.1≤3∧ay_ 9 1 y.2.1 (cU_ (l.take i)++(List.take y.1 [d.a,d.b,d.c]).filter fun s=>!(s==[])).length ((cU_ (l.take i)++(List.take y.1 [d.a,d.b,d.c]).filter fun s=>!(s==[])).flatMap ag_) y.2.2}) (fun y=>[(2,y.1.2.1),(7,.slice ad (List.length l) cap),(8,.int .i64 (List.length l:Int)),(9,.int .i64 (i:Int)),(19,.slice (some ⟨C,0,none⟩) (List.length [d.a,d.b,d.c]) 3),(20,.int .i64 3),(21,.int .i64 (y.1.1:Int))]) (fun y=>_:: y.1.2.2) (fun _=>_) (fun y=>3 - y.1.1) ⟨(0,sv,Hr),by simp,by simpa using v⟩ ?_;rintro ⟨⟨k,S,X⟩,hk,A⟩;dsimp only at hk A;dsimp only
 have a3:((cU_ (l.take i)++(List.take k [d.a,d.b,d.c]).filter fun s=>!(s==[]))).length≤(cU_ (l.take i)).length+3:=by
   have:=List.length_filter_le (fun s=>!(s==[])) (List.take k [d.a,d.b,d.c]);simp only[List.length_append,List.length_take,List.length_cons,List.length_nil]at this ⊢;omega
 refine bs_ [(2,S),(7,.slice ad (List.length l) cap),(8,.int .i64 (List.length l:Int)),(9,.int .i64 (i:Int)),(19,.slice (some ⟨C,0,none⟩) (List.length [d.a,d.b,d.c]) 3),(20,.int .i64 3),(21,.int .i64 (k:Int))] zl ?_;refine Zi 2 (fun L=>?_) fun L=>?_
 ·refine Zz 11 ?_
  have m:cU_ (l.take (i+1))=cU_ (l.take i)++lf_ d:=by unfold cU_;rw[List.take_add_one,P,List.flatMap_append];simp
  exact w_ ⟨(i+1,S,X),F,by dsimp only;rw[m];have:=A;rw[List.take_of_length_le (show [d.a,d.b,d.c].length≤k by simp;omega)]at this;exact this⟩ zt_ zl (c_ ac_) (fun _ _ h=>h.2)
 have E:k<List.length [d.a,d.b,d.c]:=by simp;omega
 obtain⟨e,q⟩:∃ T,[d.a,d.b,d.c][k]? = some T:=⟨_,List.getElem?_eq_getElem E⟩;have W:e∈[d.a,d.b,d.c]:=List.mem_of_getElem? q;refine Zz 11 ?_;refine e_ (bn_ (ad:=(some ⟨C,0,none⟩)) W_ rfl zf (o_ aq_ q 0 _ rfl)) rfl (Zi 6 (fun M=>?_) fun M=>?_)
 ·refine Zz 10 ?_
  have m:(cU_ (l.take i)++(List.take (k+1) [d.a,d.b,d.c]).filter fun s=>!(s==[]))=(cU_ (l.take i)++(List.take k [d.a,d.b,d.c]).filter fun s=>!(s==[]))++[e].filter (fun s=>!(s==[])):=by rw[List.append_assoc,← List.filter_append,List.take_add_one,q];simp
  rw[show [e].filter (fun s=>!(s==[]))=[] by simp[*],List.append_nil]at m;exact w_ ⟨(k+1,S,X),by dsimp only;omega,by dsimp only;rw[m];exact A⟩ zt_ zl zp zh
 refine Zz 6 ?_;refine U_ l_ E_ ax_ rfl rfl rfl rfl rfl rfl fun a1=>?_;refine an_ (news:=[str e]) eltS A rfl rfl zp rfl (aO_ 0 rfl) (kg_ rfl) zE_ zs_ rfl fun O J B=>?_;refine y_ (@List.perm_append_comm _ _ [_,_]) (Zz 8 ?_);have m:(cU_ (l.take i)++(List.take (k+1) [d.a,d.b,d.c]).filter fun s=>!(s==[]))=(cU_ (l.take i)++(List.take k [d.a,d.b,d.c]).filter fun s=>!(s==[]))++[e].filter (fun s=>!(s==[])):=by rw[List.append_assoc,← List.filter_append,List.take_add_one,q];simp
 rw[show [e].filter (fun s=>!(s==[]))=[e] by simp[*]]at m;exact w_ ⟨(k+1,O,J),by dsimp only;omega,by dsimp only;rw[m];rw[List.length_append (bs:=[e]),List.flatMap_append (ys:=[e])];exact B⟩ zt_ zl (j_ (c_ d_) (c_ ac_)) zh
end Go.Proofs.YtpbnmnfdgckaiaaGreatDoor
namespace Go.Sx
open Go
section
variable {P:Program} {N:Nf} {v0:Vw} {H0:Hp} {R:Exit→Act→World→Prop} {K:List Kt} {fr:Fr} {H:Hp} {Γ:List Fct}
variable {ops:Array Oper} {l:List Oper} {d:Nat} {ty:TypeId} {ps:String} {af:Array Edge}
end
end Go.Sx
namespace Go.Vs
open Go Go.Sx
theorem sd_ {α:Type} {R:α→α→Prop} {l:List α} (h:l.Pairwise R) {i j:Nat} {x y:α} (k:l[i]? = some x) (m:l[j]? = some y) (e:i<j):R x y:=by
  obtain⟨hi,rfl⟩:=List.getElem?_eq_some_iff.1 k;obtain⟨q,rfl⟩:=List.getElem?_eq_some_iff.1 m;exact List.pairwise_iff_getElem.1 h i j hi q e
def Cov (hs:List Bool) (L S:List Str):Prop:=hs.length=L.length∧∀ (n:Nat) (s:Str),L[n]? = some s→s∈S→hs[n]? = some true
theorem Cov.nil (L:List Str):Cov (List.replicate L.length false) L []:=⟨by simp,fun _ _ _ h=>by simp at h⟩
theorem Cov.set {q:List Bool} {L S:List Str} (h:Cov q L S) (n:Nat):Cov (q.set n true) L S:=⟨by rw[List.length_set];exact h.1,fun m s x v=>by
 have k:=h.2 m s x v;rw[List.getElem?_set]
 split
 ·rename_i e
  subst e;rw[if_pos (List.getElem?_eq_some_iff.1 k).1]
 exact k⟩
def zd_ (hs:List Bool) (L S:List Str) (y:Str) (n:Nat):Prop:=Cov hs L S∧∀ m,m<n→L[m]? = some y→hs[m]? = some true
theorem zd_.zero {e:List Bool} {L S:List Str} {y:Str} (h:Cov e L S):zd_ e L S y 0:=⟨h,fun _ h=>by omega⟩
theorem zd_.done {q:List Bool} {L S:List Str} {y:Str} {n:Nat} (h:zd_ q L S y n) (v:L.length≤n):Cov q L (S++[y]):=⟨h.1.1,fun m s k e=>by
 rcases List.mem_append.1 e with e|e
 ·exact h.1.2 m s k e
 simp only[List.mem_singleton]at e;subst e;have:=(List.getElem?_eq_some_iff.1 k).1;exact h.2 m zs_ k⟩
def three (p:Pc):List Str:=[p.a,p.b,p.c]
theorem Cov.all {k:List Bool} {l:List Pc} (h:Cov k (ev_ l) (l.flatMap three)) {n:Nat} (e:n<(ev_ l).length):k[n]? = some true:=by
  have hm:=(fp_ l _).1 (List.getElem_mem e);refine h.2 n _ (List.getElem?_eq_getElem e) ?_;simp only[cU_,List.mem_flatMap,lf_,List.mem_filter]at hm;obtain⟨p,q,m⟩:=hm;exact List.mem_flatMap.2 ⟨p,q,m.1⟩
-- valid pieces,kind by kind
section
variable {a b c r s t:Str} {lo hi f:Int}
end
-- atoms
-- roles
structure RInv (s:Str) (a i:Nat) (dn:List Str):Prop where
  le:a≤i
  il:i≤s.length
  no:ixS 46 ((s.drop a).take (i - a))=none
  sp:aW_ 46 s=dn++aW_ 46 (s.drop a)
  al:dn.all aK_=true
structure REnd (s:Str) (i:Nat) (dn:List Str):Prop where
  il:i=s.length+1
  sp:aW_ 46 s=dn
  al:dn.all aK_=true
theorem RInv.len {s:Str} {a i:Nat} {dn:List Str} (h:RInv s a i dn):dn.length≤s.length+1:=by
  have d:=ea_ 46 s;have e:=mt_ 46 s;rw[h.sp,List.length_append]at d;omega
theorem REnd.len {s:Str} {i:Nat} {dn:List Str} (h:REnd s i dn):dn.length≤s.length+1:=by
  have d:=ea_ 46 s;have e:=mt_ 46 s;rw[h.sp]at d;omega
theorem RInv.next {s:Str} {a i:Nat} {dn:List Str} {c:UInt8} (h:RInv s a i dn) (e:s[i]? = some c) (d:c≠46):RInv s a (i+1) dn:=by
  have hi:=(List.getElem?_eq_some_iff.1 e).1;have k:=h.le;refine⟨by omega,by omega,?_,h.sp,h.al⟩;rw[show i+1 - a=(i - a)+1 by omega];exact wl_ (s.drop a) (i - a) c (by rw[List.getElem?_drop,show a+(i - a)=i by omega];exact e) h.no d
theorem REnd.role {s:Str} {i:Nat} {dn:List Str} (h:REnd s i dn):cn_ s=decide ((dn.length:Int)≤4):=by
  unfold cn_;rw[h.sp]
  have:dn.any (fun r=>!aK_ r)=false:=by
    rw[List.any_eq_false];intro x d;have:=List.all_eq_true.1 h.al x d;simp[this]
  rw[this];simp
  omega
-- sorted insertion
def kS (l:List Str) (s:Str):Nat:=(l.takeWhile fun x=>decide (x<s)).length
theorem zj_ {s:Str}:∀ {l:List Str} {k:Nat},k≤l.length→(∀ x∈l.take k,x<s)→(∀ x,l[k]? = some x→¬ x<s)→kS l s=k
  | [],k,h1,_,_=>by simp at h1;simp[kS,h1]
  | y::r,0,_,_,h3=>by
    have:=h3 y rfl;unfold kS;rw[List.takeWhile_cons_of_neg (by simpa using this)];rfl
  | y::r,k+1,h1,h2,h3=>by
    have h:y<s:=h2 y zB_;have e:=zj_ (l:=r) (k:=k) (by simpa using h1) (fun x d=>h2 x zaa_) (fun x d=>h3 x (by simpa using d));unfold kS at e ⊢;rw[List.takeWhile_cons_of_pos zV_,List.length_cons,e]
def dR_ (l:List Str) (s:Str):List Str:=if s=[]∨l[kS l s]? = some s then l else l.take (kS l s)++[s]++l.drop (kS l s)
theorem kS_le (l:List Str) (s:Str):kS l s≤l.length:=(List.takeWhile_sublist _).length_le
theorem tP_ {l:List Str} {s x:Str}:x∈dR_ l s↔x∈l∨(x=s∧s≠[]):=by
 unfold dR_
 split
 ·rename_i h
  constructor
  ·exact .inl
  rintro (k|⟨rfl,k⟩)
  ·exact k
  rcases h with h|h
  ·exact absurd h k
  exact List.mem_of_getElem? h
 rename_i h
 simp only[not_or]at h
 have e:x∈l↔x∈l.take (kS l s)∨x∈l.drop (kS l s):=by
   rw[← List.mem_append,List.take_append_drop]
 rw[e];simp only[List.mem_append,List.mem_singleton];constructor
 ·rintro ((d|d)|d)
  ·exact .inl (.inl d)
  ·exact .inr ⟨d,d▸h.1⟩
  exact .inl (.inr d)
 rintro ((d|d)|d)
 ·exact .inl (.inl d)
 ·exact .inr d
 exact .inl (.inr d.1)
theorem rP_ {s:Str}:∀ (l:List Str),∀ x∈l.take (kS l s),x<s:=by
 intro l x d
 have e:l.take (kS l s)=l.takeWhile fun x=>decide (x<s):=by
   unfold kS;exact (List.prefix_iff_eq_take.1 (List.takeWhile_prefix _)).symm
 rw[e]at d
 induction l with
 | nil=>simp at d
 | cons y r ih =>
   by_cases h:y<s
   · rw[List.takeWhile_cons_of_pos zV_]at d
     rcases List.mem_cons.1 d with rfl|d
     · exact h
     · refine ih d ?_
       unfold kS;exact (List.prefix_iff_eq_take.1 (List.takeWhile_prefix _)).symm
   · rw[List.takeWhile_cons_of_neg zV_]at d
     simp at d
theorem pf_ {s:Str}:∀ (l:List Str) (x:Str),l[kS l s]? = some x→¬ x<s
 | [],x,h=>by simp at h
 | y::r,x,h=>by
   unfold kS at h
   by_cases d:y<s
   · rw[List.takeWhile_cons_of_pos (by simpa using d),List.length_cons,List.getElem?_cons_succ]at h
     exact pf_ r x h
   · rw[List.takeWhile_cons_of_neg (by simpa using d)]at h
     simp only[List.length_nil,List.getElem?_cons_zero,Option.some.injEq]at h;subst h;exact d
theorem vb_ {l:List Str} {s:Str} (h:l.Pairwise fun x y=>x<y):(dR_ l s).Pairwise fun x y=>x<y:=by
 unfold dR_
 split
 ·exact h
 rename_i m
 simp only[not_or]at m
 have k:∀ y∈l.drop (kS l s),s<y:=by
   intro y e;obtain⟨j,A,rfl⟩:=List.mem_iff_getElem.1 e;rw[List.getElem_drop];rw[List.length_drop]at A;have hk:kS l s<l.length:=by omega
   have B:=pf_ l _ (List.getElem?_eq_getElem hk)
   have v:s<l[kS l s]:=by
     apply Decidable.byContradiction
     intro q
     apply m.2
     rw[List.getElem?_eq_getElem hk,Option.some.injEq];exact List.le_antisymm (List.not_lt.1 q) (List.not_lt.1 B)
   rcases Nat.eq_zero_or_pos j with rfl|C
   · exact v
   · exact List.lt_trans v (List.pairwise_iff_getElem.1 h _ _ hk zs_ zs_)
 rw[List.pairwise_append,List.pairwise_append];refine⟨⟨h.sublist (List.take_sublist _ _),List.pairwise_singleton _ _,fun x d y e=>?_⟩,h.sublist (List.drop_sublist _ _),fun x d y e=>?_⟩
 ·rw[List.mem_singleton]at e
  subst e;exact rP_ l x d
 rcases List.mem_append.1 d with d|d
 ·exact List.lt_trans (rP_ l x d) (k y e)
 rw[List.mem_singleton]at d;subst d;exact k y e
end Go.Vs
namespace Go.Sx
open Go
section
variable {P:Program} {N:Nf} {v0:Vw} {H0:Hp} {fr:Fr} {H:Hp} {Γ:List Fct}
end
end Go.Sx
namespace Go.Vs
open Go Go.Sx
namespace Con
theorem szs_append:∀ (d ys:List Con),sz.szs (d++ys)=sz.szs d+sz.szs ys
  | [],ys=>by simp[sz.szs]
  | x::d,ys=>by simp only[List.cons_append,sz.szs,szs_append d ys];omega
theorem szs_step {ps:List Con} {p:Con} {i:Nat} (d:ps[i]? = some p):sz.szs (ps.take (i+1))=sz.szs (ps.take i)+p.sz:=by
  rw[take_snoc d,szs_append];simp[sz.szs]
end Con
namespace Ax
theorem check_20 {x:Ax} (h:x.shaped=true) (d:x.namedU (us x.kind)=false):x.check=20:=by unfold check;rw[if_neg (by rw[h];simp),if_pos d]
theorem check_left {x:Ax} (h:x.shaped=true) (e:x.namedU (us x.kind)=true) (hl:(us x.kind).left=true) (d:x.left.check≠0):x.check=x.left.check:=by
  unfold check;rw[if_neg (by rw[h];simp),if_neg (by rw[e];simp),if_pos ⟨hl,d⟩]
theorem check_right {x:Ax} (h:x.shaped=true) (e:x.namedU (us x.kind)=true) (hl:(us x.kind).left=true→x.left.check=0) (k:(us x.kind).right=true) (d:x.right.check≠0):x.check=x.right.check:=by
  unfold check;rw[if_neg (by rw[h];simp),if_neg (by rw[e];simp),if_neg (fun q=>q.2 (hl q.1)),if_pos ⟨k,d⟩]
end Ax
end Go.Vs
namespace Go.Proofs.YtpbnmnfdgckaiaaGreatDoor
open Go Go.Sx Go.Proofs
attribute [local irreducible] Code.wp wpList wpAnyH
open Go.Vs
theorem wK_:∀ (m:Nat) (c:Con),c.sz≤m→c.ok→∀ (d most:Int),0≤d∧d≤40→0≤most∧most≤1000→Tri Tryz.prog 145 #[Con.val c,.int .i64 d,.int .i64 most] [] [Con.memF c] (fun r:{r:Int // 1≤r∧r≤most+4398046511104∧(r≤most→(c.sz:Int)≤r)}=>.int .i64 r.1) (fun _=>[]) (fun _=>[]):=by
 intro m
 induction m with
 | zero=>intro c h;have:=c.sz_pos;omega
 | succ m ih =>
   intro c hm G d most V N;have S:=Con.ok_name G;have U:=Con.ok_len G;refine i_ Tryz.func145 rfl rfl Tryz.ntmps145 rfl fun R=>?_;refine Zz 2 ?_;refine aa_ rfl rfl fun C=>Zi 7 (fun E=>?_) fun E=>?_
   · skip
     refine Zz 9 ?_;refine e_ (cK_ V_ rfl) rfl (e_ (ar_ (xl_ (n:=40) rfl rfl zw_ (cm_ (r:=((List.length (Con.name c) / 40:Nat):Int)) zs_ zs_)) (show _=Value.int .i64 ((List.length (Con.name c) / 40:Nat):Int) from rfl)) rfl (Zz 11 ?_));refine bs_ [(1,.int .i64 d),(2,.int .i64 most),(3,zp_ C 0),(7,.int .i64 (1+((List.length (Con.name c) / 40:Nat):Int))),(8,.int .i64 ((0:Nat):Int))] zl ?_;refine bR_ (ι:={x:Nat×Int // x.1≤c.parts.length∧1≤x.2∧x.2≤most+4398046511104∧(x.2≤most→((1+Con.sz.szs (c.parts.take x.1):Nat):Int)≤x.2)}) (fun x=>[(1,.int .i64 d),(2,.int .i64 most),(3,zp_ C 0),(7,.int .i64 x.1.2),(8,.int .i64 (x.1.1:Int))]) (fun _=>_) (fun _=>_) (fun x=>c.parts.length - x.1.1) ⟨(0,1+((List.length (Con.name c) / 40:Nat):Int)),by simp,by dsimp only;omega,by dsimp only;omega,by simp[Con.sz.szs];omega⟩ ?_;rintro ⟨⟨i,n⟩,hk⟩;dsimp only at hk;obtain⟨O,P,Q,F⟩:=hk;refine bs_ [(1,.int .i64 d),(2,.int .i64 most),(3,zp_ C 0),(7,.int .i64 n),(8,.int .i64 (i:Int))] zl ?_;refine Zz 7 ?_;refine B_ (dc_ rfl rfl) rfl fun K e=>Zz 1 ?_
     refine ai_ 4 ((decide ((i:Int)<(List.length (Con.parts c):Int)))&&(decide (n≤most))) (fun r=>[(1,.int .i64 d),(2,.int .i64 most),(3,zp_ C 0),(7,.int .i64 n),(8,.int .i64 (i:Int)),(27,.bool r)]) ?_ fun M y=>?_
     · skip
       cases K
       · skip
         have A:=e;replace e:=zdf e;refine Zz 6 ?_;exact met ⟨rfl,rfl,rfl,rfl,rfl,(n_ rfl (jaf A)),trivial⟩
       · skip
         have A:=e;replace e:=zdt e;refine Zz 5 ?_;refine B_ (dj_ rfl rfl) rfl fun T J=>Zz 3 ?_
         exact met ⟨rfl,rfl,rfl,rfl,rfl,(n_ rfl (jat A J)),trivial⟩
     · skip
       refine Zz 2 ?_;cases M
       · skip
         simp at y
         refine Zz 10 ?_;exact ae_ Tryz.results145 ⟨n,by omega,by omega,fun q=>by have hi:c.parts.length≤i:=(by simp at *;omega);have:=F q;rw[List.take_of_length_le hi]at this;rw[Con.sz_eq];exact this⟩ rfl (@List.perm_append_comm _ [_] _) zt
       · skip
         simp at y
         skip;obtain⟨H,I,B,k⟩:=zge (show i<List.length (Con.parts c) by omega);refine Zz 10 ?_;refine e_ (S_ ad_ J_ rfl rfl (fun v _ h=>au_ (n:=5) Con.cells_len zw_ (by exact ((Con.mem_iff c v).1 h.1).1) B) zs_ zz_) rfl ?_;refine e_ (aj_ (ad:=(Con.ad c)) (us:=Con.cells I) aH_ J_ rfl (fun v _ h=>by exact ((Con.mem_iff c v).1 h.1).1) (Con.cells_len _) (o_ Con.cells_len B)) rfl (Zz 5 ?_);refine g_ (ih I (by have:=Con.sz_part k;omega) (Con.ok_part G k) (d - 1) (most - n) ⟨by omega,by omega⟩ ⟨by omega,by omega⟩) rfl m_ (fun v _ h=>by exact⟨(Con.mem_part (c:=c) h.1 k),trivial⟩) rfl fun⟨r,E,e,y⟩=>?_;dsimp only;refine Zz 10 ?_;have L:=Con.szs_step B;exact w_ ⟨(i+1,n+r),H,by dsimp only;omega,by dsimp only;omega,fun q=>by dsimp only at q ⊢;rw[L];have:=y zs_;have:=F zs_;omega⟩ zt_ zl (.refl _) zh
   · skip
     refine Zz 11 ?_;exact ae_ Tryz.results145 ⟨(most+1),by omega,by omega,fun q=>by omega⟩ rfl (@List.perm_append_comm _ [_] _) zt
theorem wA_ (c:Con) (h:c.ok):Tri Tryz.prog 97 #[Con.val c] [] [Con.memF c] (fun b:{b:Bool // b=true→c.sz≤150}=>.bool b.1) (fun _=>[]) (fun _=>[]):=by
  refine i_ Tryz.func97 rfl rfl Tryz.ntmps97 rfl fun v=>?_;refine Zz 2 ?_;refine aa_ rfl rfl fun x=>Zz 6 ?_
  refine g_ (wK_ _ c (Nat.le_refl _) h 40 150 ⟨by decide,by decide⟩ ⟨by decide,by decide⟩) rfl m_ zf rfl fun⟨r,d,m,e⟩=>?_;dsimp only;refine B_ (dj_ rfl rfl) rfl fun k d=>Zz 4 ?_
  exact ae_ Tryz.results97 ⟨k,fun q=>by rw[q]at d;have:=of_decide_eq_true d;have:=e this;omega⟩ rfl (@List.perm_append_comm _ [_] _) zt
structure Ax.Few (x:Ax):Prop where
  left:x.left.sz≤150
  right:x.right.sz≤150
  roles:x.roles.length≤600
theorem ib_ {G:Prop} (h:G:=by
 exact ae_ Tryz.results60 ⟨false,fun h=>by cases h⟩ rfl (@List.perm_append_comm _ [_] _) zt):G:=h
theorem lq_ {G:Prop} (h:G:=by
 refine Zz 6 ?_;refine g_ (wA_ (Ax.left x) d.left) rfl m_ (fun v _ h=>by exact⟨h.1.1,trivial⟩) rfl fun⟨E,e⟩=>?_;dsimp only;refine Zz 2 ?_;cases E
 ·refine Zz 8 ?_
  exact ib_
 refine Zz 5 ?_;refine g_ (wA_ (Ax.right x) d.right) rfl m_ (fun v _ h=>by exact⟨h.1.2.1,trivial⟩) rfl fun⟨B,k⟩=>?_;dsimp only;refine Zz 5 ?_;exact ae_ Tryz.results60 ⟨B,fun h=>⟨e rfl,k h,by omega⟩⟩ rfl (@List.perm_append_comm _ [_] _) zt):G:=h
theorem lS_ (x:Ax) (d:x.ok):Tri Tryz.prog 60 #[Ax.val x] [] [Ax.memF x] (fun b:{b:Bool // b=true→Ax.Few x}=>.bool b.1) (fun _=>[]) (fun _=>[]):=by
 refine i_ Tryz.func60 rfl rfl Tryz.ntmps60 rfl fun K=>?_;have P:=d.role;have J:=d.a;have O:=d.b;have N:=d.len;have M:=d.cap;refine Zz 2 ?_;refine aa_ rfl rfl fun C=>Zz 7 ?_
 refine e_ (cK_ V_ rfl) rfl (Zz 2 ?_);refine e_ (cK_ V_ rfl) rfl (Zz 3 ?_);refine e_ (cK_ V_ rfl) rfl (Zz 16 ?_);refine bs_ [(1,zp_ C 0),(3,.int .i64 (((((Ax.role x).length:Int)+((Ax.a x).length:Int))+((Ax.b x).length:Int))+(10*(List.length (Ax.roles x):Int)))),(4,.int .i64 ((0:Nat):Int))] zl ?_;refine bR_ (ι:={y:Nat×Int // y.1≤x.roles.length∧y.1≤100∧(x.roles.length:Int)≤y.2∧y.2≤444444444444444444+y.1*140737488351232}) (fun y=>[(1,zp_ C 0),(3,.int .i64 y.1.2),(4,.int .i64 (y.1.1:Int))]) (fun _=>_) (fun _=>_) (fun y=>x.roles.length - y.1.1) ⟨(0,(((((Ax.role x).length:Int)+((Ax.a x).length:Int))+((Ax.b x).length:Int))+(10*(List.length (Ax.roles x):Int)))),by simp,by simp,by dsimp only;omega,by dsimp only;omega⟩ ?_;rintro ⟨⟨i,n⟩,hk⟩;dsimp only at hk;refine bs_ [(1,zp_ C 0),(3,.int .i64 n),(4,.int .i64 (i:Int))] zl ?_;refine Zi 7 (fun H=>?_) fun H=>?_
 ·refine Zi 12 (fun m=>?_) fun m=>?_
  ·refine Zz 14 ?_
   exact ib_
  exact lq_
 refine Zi 4 (fun m=>?_) fun m=>?_
 ·refine Zi 9 (fun G=>?_) fun G=>?_
  ·refine Zz 14 ?_
   exact ib_
  exact lq_
 obtain⟨A,F,I,q⟩:=zge (show i<List.length (Ax.roles x) by omega);have L:=d.roles F q;refine Zz 15 ?_;refine e_ (cK_ V_ rfl) rfl (Zz 10 ?_);exact w_ ⟨(i+1,n+(List.length F:Int)),A,by dsimp only;omega,by dsimp only;omega,by dsimp only;omega⟩ zt_ zl (.refl _) zh
theorem pM_ (l:List Ax) (ad:Option Addr) (cap:Nat) (most:Int) (E:l.length≤cap∧cap≤2199023255488) (C:∀ x∈l,x.ok):Tri Tryz.prog 28 #[.slice ad (List.length l) cap,.int .i64 most] [] [ej_ ad l] (fun b:{b:Bool // b=true→(l.length:Int)≤most∧∀ x∈l,Ax.Few x}=>.bool b.1) (fun _=>[]) (fun _=>[]):=by
 refine i_ Tryz.func28 rfl rfl Tryz.ntmps28 rfl fun F=>?_;refine Zi 11 (fun B=>?_) fun B=>?_
 ·refine Zz 12 ?_
  refine bs_ [(0,.slice ad (List.length l) cap),(5,.int .i64 ((0:Nat):Int))] zl ?_;refine bR_ (ι:={q:Nat // q≤l.length∧∀ x∈l.take q,Ax.Few x}) (fun i=>[(0,.slice ad (List.length l) cap),(5,.int .i64 (i.1:Int))]) (fun _=>_) (fun _=>_) (fun i=>l.length - i.1) ⟨0,by simp⟩ ?_;rintro ⟨i,hk⟩;refine bs_ [(0,.slice ad (List.length l) cap),(5,.int .i64 (i:Int))] zl ?_;refine Zi 6 (fun A=>?_) fun A=>?_
  ·refine Zz 11 ?_
   exact ae_ Tryz.results28 ⟨true,fun _=>⟨by omega,fun x m=>hk.2 x (by rw[List.take_of_length_le zs_];exact m)⟩⟩ rfl (.refl _) zt
  obtain⟨k,e,y,d⟩:=zge (show i<List.length l by omega);refine Zz 13 ?_;refine g_ (lS_ e (C e d)) rfl m_ (fun v _ h=>by exact⟨(h.1.2 e d),trivial⟩) rfl fun⟨r,G⟩=>?_;dsimp only;refine e_ (aw_ rfl) rfl (Zz 2 ?_);cases r
  ·refine Zz 7 ?_
   exact ae_ Tryz.results28 ⟨false,fun h=>by cases h⟩ rfl (.refl _) zt
  refine Zz 9 ?_;exact w_ ⟨i+1,k,fun x m=>by rw[List.take_add_one,y]at m;simp only[Option.toList_some,List.mem_append,List.mem_singleton]at m;rcases m with m|rfl;exact hk.2 x m;exact G rfl⟩ zF_ zl (.refl _) zh
 refine Zz 9 ?_;exact ae_ Tryz.results28 ⟨false,fun h=>by cases h⟩ rfl (.refl _) zt
end Go.Proofs.YtpbnmnfdgckaiaaGreatDoor
namespace Go.Sx
open Go
section
variable {P:Program} {N:Nf} {v0:Vw} {H0:Hp} {R:Exit→Act→World→Prop} {K:List Kt} {fr:Fr} {H F:Hp} {Γ:List Fct} {ops:Array Oper} {l:List Oper} {ty:TypeId} {ps:String} {af:Array Edge} {e:TypeId} {sz n:Nat} {sv:Value} {xs:List Value} {Hr:Hp}
theorem vg_ {α:Type} (l:List α) (k m:Nat) (u:α) (hk:k<m) (hm:m≤l.length):(l.take k++[u]++l.drop (k+1)).take m=(l.take m).set k u:=by
 apply List.ext_getElem?
 intro j;rw[List.getElem?_take,List.getElem?_set,List.length_take]
 by_cases d:j<m
 ·rw[if_pos d]
  by_cases q:j<k
  ·rw[if_neg zs_,List.append_assoc,List.getElem?_append_left zaU_,List.getElem?_take,if_pos q,List.getElem?_take,if_pos d]
  by_cases h:j=k
  ·subst h
   rw[if_pos rfl,if_pos zs_,List.append_assoc,List.getElem?_append_right zaU_,List.length_take,Nat.min_eq_left zs_,Nat.sub_self];rfl
  rw[if_neg zs_,List.getElem?_append_right (by rw[List.length_append,List.length_take,List.length_singleton];omega),List.length_append,List.length_take,List.length_singleton,List.getElem?_drop,List.getElem?_take,if_pos d,Nat.min_eq_left zs_]
  congr 1;omega
 rw[if_neg d,if_neg zs_,List.getElem?_take,if_neg d]
theorem fj_ {t:TypeId} {x y:Operand} {k:Nat} {u:Value} (d:ay_ e sz sv n xs Hr) (M:H.Perm (Hr++F)) (E:∀ w,(sizeOf t).run P w=.ok 1 w) (I:Fr.ev fr x=some (.pointer (some ⟨svB sv,k,none⟩))) (J:Fr.ev fr y=some u) (hk:k<n*sz) (m:u.cells=#[u]) (A:u.oneCell'=true)
    (h:∀ Hr',ay_ e sz sv n (xs.set k u) Hr'→Ops P R N v0 H0 ops l K fr (Hr'++F) Γ):Ops P R N v0 H0 ops (⟨none,.store t x y,ty,ps,af,none⟩::l) K fr H Γ:=by
  rcases d.2 with⟨_,G,_⟩|⟨g,cap,cur,rfl,rfl,B,O,v,C⟩
  · subst G;simp at hk
  · have q:n*sz≤cap*sz:=Nat.mul_le_mul_right _ B
    refine y_ M (u_ (b:=g) (off:=k) 0 E I J rfl (by rw[m];rfl) ?_ (by rw[m];simp[A]) ?_)
    · have L:k+1≤cur.size:=by rw[v];omega
      simpa using L
    · rw[m]
      refine h [(g,.cells (cur.toList.take k++[u]++cur.toList.drop (k+1)).toArray e (0,0))] ⟨by rw[List.length_set];exact d.1,.inr ⟨g,cap,_,rfl,rfl,B,O,?_,?_⟩⟩
      · simp only[List.size_toArray,List.length_append,List.length_take,List.length_drop,List.length_singleton,Array.length_toList,v];omega
      · show ((cur.toList.take k++[u]++cur.toList.drop (k+1)).toArray).toList.take (n*sz)=_
        rw[List.toList_toArray,vg_ _ _ _ _ hk (by rw[Array.length_toList,v];exact q),C]
theorem iD_ {α:Type} (f:α→List Value) (z:Nat) (d:∀ x,(f x).length=z):∀ (l:List α) (i j:Nat) (x y:α) (u:Value),l[i]? = some x→j<z→f y=(f x).set j u→(l.flatMap f).set (i*z+j) u=(l.set i y).flatMap f
  | [],i,_,_,_,_,h,_,_=>by simp at h
  | a::l,0,j,x,y,u,h,hj,he=>by
    simp only[List.getElem?_cons_zero,Option.some.injEq]at h;subst h;rw[List.flatMap_cons,List.set_cons_zero,List.flatMap_cons,he,Nat.zero_mul,Nat.zero_add,List.set_append_left _ _ (by rw[d];exact hj)]
  | a::l,i+1,j,x,y,u,h,hj,he=>by
    simp only[List.getElem?_cons_succ]at h;rw[List.flatMap_cons,List.set_cons_succ,List.flatMap_cons,← iD_ f z d l i j x y u h hj he,List.set_append_right _ _ (by rw[d,Nat.succ_mul];omega),d]
    congr 2
    rw[Nat.succ_mul];omega
theorem sX_ {t h:TypeId} {x:Operand} {k d:IntKind} {m r:Int} {u:TypeDesc} (A:P.underlying t=some u) (q:P.underlying h=some (.int d)) (y:Fr.ev fr x=some (.int k m)) (B:IntKind.wrap d m=r):Yld P N fr H Γ (.convert t h x) ty (.int d r) :=
  fun a v C _ _ _ _ _=>by subst B;simp[execOp,C.ev y,convert,run_underlying A,run_underlying q,Conv.intToInt]
theorem wrapU {r:Int} (d:0≤r) (h:r≤18446744073709551615):IntKind.wrap .u64 r=r:=by
  simp[IntKind.wrap,IntKind.signed,IntKind.bits]
  omega
end
end Go.Sx
namespace Go.Sx
open Go
section
variable {P:Program} {N:Nf} {v0:Vw} {H0:Hp} {R:Exit→Act→World→Prop} {K:List Kt} {fr:Fr} {H F:Hp} {Γ:List Fct} {ops:Array Oper} {l:List Oper} {ty:TypeId} {ps:String} {af:Array Edge} {e:TypeId} {sz n:Nat} {sv:Value} {xs:List Value} {Hr:Hp}
theorem tS_ {α:Type} (l us:List α) (k m:Nat) (hk:k+us.length≤m) (hm:m≤l.length):(l.take k++us++l.drop (k+us.length)).take m=(l.take m).take k++us++(l.take m).drop (k+us.length):=by
  rw[List.take_take,Nat.min_eq_left zs_,List.take_append,List.take_of_length_le (by simp only[List.length_append,List.length_take];omega)]
  congr 1
  rw[List.drop_take]
  congr 1
  simp only[List.length_append,List.length_take];omega
theorem sj_ {t:TypeId} {x y:Operand} {k:Nat} {us:List Value} (d:ay_ e sz sv n xs Hr) (O:H.Perm (Hr++F)) (E:∀ w,(sizeOf t).run P w=.ok sz w) (J:Fr.ev fr x=some (.pointer (some ⟨svB sv,k,none⟩))) (L:Fr.ev fr y=some (.agg us.toArray)) (hk:k+sz≤n*sz) (m:us.length=sz) (S:0<sz) (A:us.all Value.oneCell'=true)
    (h:∀ Hr',ay_ e sz sv n (xs.take k++us++xs.drop (k+sz)) Hr'→Ops P R N v0 H0 ops l K fr (Hr'++F) Γ):Ops P R N v0 H0 ops (⟨none,.store t x y,ty,ps,af,none⟩::l) K fr H Γ:=by
  rcases d.2 with⟨_,I,_⟩|⟨g,cap,cur,rfl,rfl,B,Q,v,C⟩
  · subst I;simp only[Nat.zero_mul]at hk;omega
  · have q:n*sz≤cap*sz:=Nat.mul_le_mul_right _ B
    have G:=d.1;refine y_ O (u_ (b:=g) (off:=k) (n:=sz) 0 E J L rfl (by simpa [Value.cells] using m) ?_ (by simpa [Value.cells] using A) ?_)
    · have M:k+sz≤cur.size:=by rw[v];omega
      simpa using M
    · refine h [(g,.cells (cur.toList.take k++us++cur.toList.drop (k+sz)).toArray e (0,0))] ⟨by simp only[List.length_append,List.length_take,List.length_drop];omega,.inr ⟨g,cap,_,rfl,rfl,B,Q,?_,?_⟩⟩
      · simp only[List.size_toArray,List.length_append,List.length_take,List.length_drop,Array.length_toList,v];omega
      · show ((cur.toList.take k++us++cur.toList.drop (k+sz)).toArray).toList.take (n*sz)=_
        rw[List.toList_toArray,← C];have:=tS_ cur.toList us k (n*sz) zs_ (by rw[Array.length_toList,v];exact q);rw[m]at this;exact this
theorem tw_ {α:Type} (f:α→List Value) (z:Nat) (d:∀ x,(f x).length=z):∀ (l:List α) (i:Nat) (y:α),i<l.length→(l.flatMap f).take (i*z)++f y++(l.flatMap f).drop (i*z+z)=(l.set i y).flatMap f
  | [],i,y,h=>by simp at h
  | a::l,0,y,h=>by
    rw[List.flatMap_cons,List.set_cons_zero,List.flatMap_cons,Nat.zero_mul,List.take_zero,List.nil_append,Nat.zero_add,List.drop_append,List.drop_of_length_le (by rw[d];exact Nat.le_refl _),d,Nat.sub_self];rfl
  | a::l,i+1,y,h=>by
    have k:i<l.length:=by simpa using h
    rw[List.flatMap_cons,List.set_cons_succ,List.flatMap_cons,← tw_ f z d l i y k,Nat.succ_mul,List.take_append,List.take_of_length_le (by rw[d];omega),List.drop_append,List.drop_of_length_le (by rw[d];omega),d];rw[show i*z+z - z=i*z by omega,show i*z+z+z - z=i*z+z by omega];simp[List.append_assoc]
end
end Go.Sx
namespace Go.Sx
open Go
section
variable {P:Program} {N:Nf} {v0:Vw} {H0:Hp} {R:Exit→Act→World→Prop} {K:List Kt} {fr:Fr} {H F:Hp} {Γ:List Fct} {ops:Array Oper} {l:List Oper} {d:Nat} {ty:TypeId} {ps:String} {af:Array Edge} {e:TypeId} {sz n:Nat} {sv:Value} {xs:List Value} {Hr:Hp}
inductive ORow (e:TypeId) (sz:Nat):Value→Nat→List Value→Hp→Prop
  | row {sv:Value} {n:Nat} {xs:List Value} {Hr:Hp} (h:ay_ e sz sv n xs Hr):ORow e sz sv n xs Hr
  | cut {g k n cap:Nat} {pre xs:List Value} {Hr:Hp} (hp:pre.length=k*sz) (h:ay_ e sz (.slice (some ⟨g,0,none⟩) (k+n) (k+cap)) (k+n) (pre++xs) Hr):ORow e sz (.slice (some ⟨g,k*sz,none⟩) n cap) n xs Hr
  | out {g k:Nat} {Hr:Hp}:ORow e sz (.slice (some ⟨g,k*sz,none⟩) 0 0) 0 [] Hr
theorem ORow.len (h:ORow e sz sv n xs Hr):xs.length=n*sz:=by
  cases h with
  | row h=>exact h.1
  | cut hp h=>have:=h.1;rw[List.length_append,hp,Nat.add_mul]at this;omega
  | out=>simp
theorem ORow.form (h:ORow e sz sv n xs Hr):∃ ad cap,sv=.slice ad n cap∧n≤cap∧(ad=none→cap=0):=by
 cases h with
 | row h =>
   rcases h.2 with⟨rfl,rfl,_⟩|⟨g,cap,cur,rfl,_,m,_⟩
   · exact⟨_,_,rfl,Nat.le_refl _,fun _=>rfl⟩
   · exact⟨_,_,rfl,m,fun q=>by cases q⟩
 | cut hp h =>
   rcases h.2 with⟨k,_⟩|⟨g,cap,cur,k,_,m,_⟩
   · cases k
   · simp only[Value.slice.injEq]at k;obtain⟨_,_,rfl⟩:=k;exact⟨_,_,rfl,by omega,fun q=>by cases q⟩
 | out=>exact⟨_,_,rfl,Nat.le_refl _,fun q=>by cases q⟩
theorem qb_ {x:Operand} {t m:TypeId} (h:ORow e sz sv n xs Hr) (q:∀ w,(underlying t).run P w=.ok (.slice m) w) (k:Fr.ev fr x=some sv):Yld P N fr H Γ (.call ⟨.builtin .len,#[x],#[t]⟩) ty (.int .i64 (n:Int)):=by
  obtain⟨ad,cap,rfl,_⟩:=h.form;exact dC_ q k
def svO:Value→Nat
  | .slice (some a) _ _=>a.off
  | _=>0
theorem sW_ {x y:Operand} {t v:TypeId} {k:IntKind} {i:Int} (m:ORow e sz sv n xs Hr) (E:∀ w,(underlying t).run P w=.ok (.slice v) w) (A:∀ w,(sizeOf v).run P w=.ok sz w) (q:Fr.ev fr x=some sv) (B:Fr.ev fr y=some (.int k i)) (C:0≤i) (hl:i<n) :
    Yld P N fr H Γ (.indexAddr t x y) ty (.pointer (some ⟨svB sv,svO sv+i.toNat*sz,none⟩)):=by
  cases m with
  | row h =>
    have:=bF_ (P:=P) (N:=N) (H:=H) (Γ:=Γ) (ty:=ty) h E A q B C hl;rcases h.2 with⟨_,G,_⟩|⟨g,cap,cur,rfl,_⟩
    · omega
    · simpa [svO] using this
  | cut hp h=>exact fa_ (P:=P) (N:=N) (H:=H) (Γ:=Γ) (ty:=ty) E A q B C hl
  | out=>omega
theorem qM_ {x y:Operand} {t G:TypeId} {kl:IntKind} {i:Nat} (v:ORow e sz sv n xs Hr) (J:∀ w,(underlying t).run P w=.ok (.slice G) w) (I:∀ w,(sizeOf G).run P w=.ok sz w) (L:Fr.ev fr x=some sv) (O:Fr.ev fr y=some (.int kl (i:Int))) (hi:i≤n) (M:Nat.blt d N.n=true)
    (hk:∀ sv',ORow e sz sv' (n - i) (xs.drop (i*sz)) Hr→Ops P R N v0 H0 ops l K ((d,sv')::fr) H Γ):Ops P R N v0 H0 ops (⟨some d,.slice t x (some y) none none,ty,ps,af,none⟩::l) K fr H Γ:=by
  have q:=v.len;obtain⟨ad,cap,A,E,_⟩:=v.form;have C:Fr.ev fr x=some (.slice ad n cap):=by rw[L,A]
  refine e_ (dI_ (i:=i) (j:=n) (kl:=kl) (kh:=.i64) J I C O rfl hi E) M ?_;refine hk _ ?_;cases v with
  | @row sv n xs Hr h =>
    rcases h.2 with⟨rfl,rfl,rfl⟩|⟨g,m,cur,rfl,_,Q,_⟩
    · obtain rfl:i=0:=by omega
      simp only[Value.slice.injEq]at A;obtain⟨rfl,_,rfl⟩:=A;have:xs=[]:=List.eq_nil_of_length_eq_zero (by simpa using q);subst this;simp only[sad,List.drop_nil,Nat.sub_self];exact .row h
    · simp only[Value.slice.injEq]at A
      obtain⟨rfl,_,rfl⟩:=A
      by_cases B:m=i
      · subst B
        have:n=m:=by omega
        subst this;simp only[sad,if_true,Nat.sub_self];rw[List.drop_eq_nil_of_le zs_];have:=ORow.out (e:=e) (sz:=sz) (g:=g) (k:=0) (Hr:=Hr);simpa using this
      · simp only[sad,B,if_false,Option.map_some,cp_,Nat.zero_add]
        refine .cut (pre:=xs.take (i*sz)) (by rw[List.length_take,q];exact Nat.min_eq_left (Nat.mul_le_mul_right _ hi)) ?_;rw[List.take_append_drop,show i+(n - i)=n by omega,show i+(m - i)=m by omega];exact h
  | @cut g k n cap0 pre xs Hr hp h =>
    simp only[Value.slice.injEq]at A;obtain⟨rfl,_,rfl⟩:=A
    by_cases B:cap0=i
    · subst B
      have:n=cap0:=by omega
      subst this;simp only[sad,if_true,Nat.sub_self];rw[List.drop_eq_nil_of_le zs_];exact .out
    · simp only[sad,B,if_false,Option.map_some,cp_]
      rw[← Nat.add_mul];refine .cut (pre:=pre++xs.take (i*sz)) (by rw[List.length_append,List.length_take,q,hp,Nat.min_eq_left (Nat.mul_le_mul_right _ hi),Nat.add_mul]) ?_;rw[List.append_assoc,List.take_append_drop,show k+i+(n - i)=k+n by omega,show k+i+(cap0 - i)=k+cap0 by omega];exact h
  | @out g k Hr =>
    obtain rfl:i=0:=by omega
    simp only[Value.slice.injEq]at A;obtain⟨rfl,_,rfl⟩:=A;simp only[sad,if_true,Nat.sub_self,List.drop_nil];exact .out
theorem Vw.to.more {v m:Vw} {H':Hp} (h:v.to F m H'):v.to (Hr++F) m H' where
 os:=h.os
 tape:=h.tape
 output:=h.output
 size:=h.size
 block:=fun b k x=>h.block b k fun hm=>x (by rw[List.map_append];exact List.mem_append_right _ hm)
 imUp:=h.imUp
 imNew:=fun b k=>by
   rw[List.map_append];rcases h.imNew b k with q|q|q
   · exact .inl q
   · exact .inr (.inl (List.mem_append_right _ q))
   · exact .inr (.inr q)
 hNew:=fun b k=>by
   rw[List.map_append];rcases h.hNew b k with q|q
   · exact .inl (List.mem_append_right _ q)
   · exact .inr q
 sl:=h.sl
 dr:=h.dr
theorem Vw.sat.subB {v:Vw} (h:v.sat (Hr++F)):v.sat F :=
  ⟨fun x k=>h.own x (List.mem_append_right _ k),by have:=h.nodup;rw[List.map_append,List.nodup_append]at this;exact this.2.1,h.lt⟩
theorem mY_ {v:Vw} {a:Addr} {news:List Value} (h:bx_ v (some a) news):∀ j u,news[j]? = some u→v.w.cell? (a.add j)=some u:=fun j u k=>by
 rcases h with h|⟨b,off,q,T,fz,m,_,x,y⟩
 ·rw[h]at k;simp at k
 rw[Option.some.injEq]at m;subst m;have:=y j u k;rw[cp_];simp[World.cell?,x,this]
theorem mW_ (w:World) (t ty e:TypeId) (i:TypeInfo) (A:P.underlying t=some (.slice e)) (hi:P.info? e=some i)
    (g off h k:Nat) (cur:Array Value) (C:w.heap[g]? = some (.cells cur e (0,0)))
    (a:Addr) (m c:Nat) (news:List Value) (hl:news.length=m*i.size) (v:∀ j u,news[j]? = some u→w.cell? (a.add j)=some u) (E:∀ u∈news,u.oneCell'=true)
    (q:h+m≤k) (y:off+h*i.size+news.length≤cur.size) :
    (Builtin.append_ #[t,t] ty #[.slice (some ⟨g,off,none⟩) h k,.slice (some a) m c]).run P w =
      .ok (.slice (some ⟨g,off,none⟩) (h+m) k) (w.setRow g (cur.toList.take (off+h*i.size)++news++cur.toList.drop (off+h*i.size+news.length)).toArray):=by
  have B:=run_firstCells_some (P:=P) w i.size m a m c news hl v;have x:=run_storeCells_at P g (off+h*i.size) e news 0 cur w C zaO_ E;simp only[Nat.add_zero]at x;simp[Builtin.append_,run_underlying A,sizeOf,typeInfo,hi,Builtin.lenOf,q,B,Addr.add_lit,x]
theorem rg_ {v:Vw} {t ty':TypeId} {by' m c cap:Nat} {b a:Addr} {news:List Value} (C:Elt P t e sz by') (W:v.sat (Hr++F)) (A:xs.length=n*sz) (Z_:∀ j u,xs[j]? = some u→v.w.cell? (b.add j)=some u) (hl:news.length=m*sz) (q:∀ j u,news[j]? = some u→v.w.cell? (a.add j)=some u)
    (G:cap<n+m) (B:n+m≤maxLen) (O:(n+m)*by'≤140737488355328) :
    ∃ y w' h,(Builtin.append_ #[t,t] ty' #[.slice (some b) n cap,.slice (some a) m c]).run P v.w=.ok y w'∧ay_ e sz y (n+m) (xs++news) h∧(⟨v.im,w',v.sl⟩:Vw).sat (h++F)∧v.to (Hr++F) ⟨v.im,w',v.sl⟩ (h++F):=by
  obtain⟨i,z,hi,M,es,Q,X⟩:=C.info;subst es Q;have E:n+m≤9223372036854775807:=by simp only[maxLen]at B;omega
  have L:=run_append_grow (P:=P) v.w t ty' e i z C.und hi M b n cap xs A Z_ a m c news hl q G zs_ (growslice_fits G O);obtain⟨y,w',k,J,Y⟩:=run_append_arg_grows (P:=P) v.w t ty' e i z i.size i.bytes C.und hi M rfl rfl X C.pos b n cap xs A Z_ a m c news hl q G B O;have q0:w'.ownsRow 0 e i.size y (n+m) (xs++news):=⟨J.1,J.2.imp id fun⟨g,cap,cur,U,_,T⟩=>⟨g,cap,cur,U,Nat.zero_le _,T⟩⟩
  have V:v.w.drawn≤w'.drawn:=by
    rw[L]at k;cases k;simp
  have x:∀ g,y.ownBlock=some g→(Value.slice none 0 0).ownBlock=some g∨v.w.heap.size≤g:=fun g I=>by
    rw[L]at k;cases k;simp only[Value.ownBlock,Option.some.injEq]at I;exact .inr zs_
  obtain⟨h,k1,k2,S⟩:=iW_ (F:=F) (ay_.nil e i.size) (by simpa using W.subB) q0 Y V x;exact⟨y,w',h,k,k1,k2,by simpa using Vw.to.more (Hr:=Hr) S⟩
theorem lL_ {x y:Operand} {t:TypeId} {by' m c:Nat} {news:List Value} {ad:Option Addr} (O:Elt P t e sz by') (T:ORow e sz sv n xs Hr)
    (X:Fr.ev fr x=some sv) (V:Fr.ev fr y=some (.slice ad m c)) (Y:ad=none→c=0) (hmc:m≤c) (M:H.Perm (Hr++F)) (hl:news.length=m*sz) (E:∀ v,v.sat H→Z_ Γ v→bx_ v ad news) (h1c:∀ u∈news,u.oneCell'=true)
    (W:n+m≤maxLen) (hb:(n+m)*by'≤140737488355328) (hN:Nat.blt d N.n=true)
    (hk:∀ sv' C,ORow e sz sv' (n+m) (xs++news) C→Ops P R N v0 H0 ops l K ((d,sv')::fr) (C++F) Γ) :
    Ops P R N v0 H0 ops (⟨some d,.call ⟨.builtin .append,#[x,y],#[t,t]⟩,ty,ps,af,none⟩::l) K fr H Γ:=by
  have S:=T.len;cases T with
  | row h=>exact fx_ O h X V Y hmc M hl E h1c W hb hN fun sv' C q=>hk sv' C (.row q)
  | @cut g k n cap pre xs Hr hp h =>
    cases ad with
    | none =>
      obtain rfl:=Y rfl;obtain rfl:m=0:=by omega
      obtain rfl:news=[]:=List.eq_nil_of_length_eq_zero (by simpa using hl);obtain⟨_,A,ee,hnc,_⟩:=(ORow.cut (cap:=cap) hp h).form;simp only[Value.slice.injEq]at ee;obtain⟨_,_,rfl⟩:=ee;refine e_ (x:=.slice (some ⟨g,k*sz,none⟩) n cap) (fun a v B _ _ _ _ _=>?_) hN (y_ M (hk _ Hr (by simpa using ORow.cut (cap:=cap) hp h)));obtain⟨i,z,hi,Y,es,eb,ez⟩:=O.info;simp[execOp,resolve,invoke,builtin,B.ev X,B.ev V,Builtin.append_,run_underlying O.und,sizeOf,typeInfo,hi,Builtin.lenOf,Builtin.firstCells,hnc,storeCells]
    | some a0 =>
      obtain⟨A,cur,U,e1,h4,h5,h6,h7⟩:∃ A cur,A=k+cap∧Hr=[(g,.cells cur e (0,0))]∧k+n≤A∧A≤maxLen∧cur.size=A*sz∧cur.toList.take ((k+n)*sz)=pre++xs:=by
        rcases h.2 with⟨B,_⟩|⟨g1,A,cur,B,L,h3⟩
        · cases B
        · simp only[Value.slice.injEq,Option.some.injEq,Addr.mk.injEq]at B
          obtain⟨⟨rfl,_,_⟩,_,rfl⟩:=B;exact⟨_,cur,rfl,L,h3⟩
      subst U;refine cq_ rfl fun a v B L h3 G=>?_;have g2:=L.perm M;have hn:=mY_ (E v L G);have hg:=(g2.own (g,.cells cur e (0,0)) (by rw[e1];simp)).1
      by_cases J:n+m≤cap
      · obtain⟨i,z,hi,hz',es,eb,ez⟩:=O.info
        subst es;have Z:=mW_ (P:=P) v.w t ty e i O.und hi g (k*i.size) n cap cur hg a0 m c news hl hn h1c J (by rw[hl,h6,← Nat.add_mul,← Nat.add_mul];exact Nat.mul_le_mul_right _ zs_);rw[← Nat.add_mul]at Z;have hL:(pre++xs++news).length=(k+n+m)*i.size:=by rw[List.length_append,h.1,hl,← Nat.add_mul]
        obtain⟨C,k1,k2,Q⟩:=iW_ (sv':=.slice (some ⟨g,0,none⟩) (k+n+m) (k+cap)) (n':=k+n+m) (ys:=pre++xs++news) h g2
          (w':=v.w.setRow g (cur.toList.take ((k+n)*i.size)++news++cur.toList.drop ((k+n)*i.size+news.length)).toArray)
          ⟨hL,.inr ⟨g,k+cap,_,rfl,Nat.zero_le _,setRow_heap v.w g cur _ e _ hg,by omega,h5,by
              simp only[List.size_toArray,List.length_append,List.length_take,List.length_drop,Array.length_toList];have:(k+n)*i.size+news.length≤cur.size:=by rw[hl,h6,← Nat.add_mul];exact Nat.mul_le_mul_right _ zs_
              omega,by rw[h7,← hL];exact List.take_left⟩⟩
          ⟨rfl,rfl,rfl,by simp,fun k _ hk=>setRow_other v.w g k _ (fun e=>hk (by simp[Value.ownBlock,e]))⟩ zB_ (fun _ h=>.inl h)
        unfold Oper.wp execOp;simp only[resolve,invoke,builtin,Sem.run_bind,Sem.run_pure,Result.andThen_ok,List.map_toArray,List.map_cons,List.map_nil,B.ev X,B.ev V,Z];refine hk _ C (.cut (pre:=pre) (cap:=cap) hp (by rw[← Nat.add_assoc,← List.append_assoc];exact k1)) _ ⟨v.im,_,v.sl⟩ (B.put hN) k2 (h3.trans (Q.permL M.symm)) (ao_ ((Q.permL M.symm).le L) G)
      · have Z_:∀ j u,xs[j]? = some u→v.w.cell? ((⟨g,k*sz,none⟩:Addr).add j)=some u:=fun j u hj=>by
          rw[cp_];have hj':=(List.getElem?_eq_some_iff.1 hj).1
          have hc:cur[k*sz+j]? = some u:=by
            have q:(cur.toList.take ((k+n)*sz))[k*sz+j]? = some u:=by rw[h7,List.getElem?_append_right zs_,hp,Nat.add_sub_cancel_left];exact hj
            rw[List.getElem?_take]at q
            split at q
            · simpa using q
            · cases q
          simp[World.cell?,hg,hc]
        obtain⟨v',w',C,Z,k1,k2,Q⟩:=rg_ (F:=F) (t:=t) (ty':=ty) (cap:=cap) (c:=c) O g2 S Z_ hl hn (Nat.lt_of_not_le J) W hb;unfold Oper.wp execOp;simp only[resolve,invoke,builtin,Sem.run_bind,Sem.run_pure,Result.andThen_ok,List.map_toArray,List.map_cons,List.map_nil,B.ev X,B.ev V,Z];exact hk v' C (.row k1) _ ⟨v.im,w',v.sl⟩ (B.put hN) k2 (h3.trans (Q.permL M.symm)) (ao_ ((Q.permL M.symm).le L) G)
  | @out g k Hr =>
    have I:m=0→news=[]:=fun q=>List.eq_nil_of_length_eq_zero (by rw[hl,q,Nat.zero_mul])
    by_cases hm:m=0
    · obtain rfl:=I hm
      subst hm;refine e_ (x:=.slice (some ⟨g,k*sz,none⟩) 0 0) (fun a v B L h4 _ _ _=>?_) hN (y_ M (hk _ Hr ORow.out));obtain⟨i,z,hi,Y,es,eb,ez⟩:=O.info;cases ad with
      | none=>obtain rfl:=Y rfl;simp[execOp,resolve,invoke,builtin,B.ev X,B.ev V,Builtin.append_,run_underlying O.und,sizeOf,typeInfo,hi,Builtin.lenOf,Builtin.firstCells,storeCells]
      | some a0=>simp[execOp,resolve,invoke,builtin,B.ev X,B.ev V,Builtin.append_,run_underlying O.und,sizeOf,typeInfo,hi,Builtin.lenOf,Builtin.firstCells,loadCells,loadCellsFrom,storeCells]
    · cases ad with
      | none=>have:=Y rfl;omega
      | some a0 =>
        refine cq_ rfl fun a v B L h3 G=>?_;have g2:=L.perm M;have hn:=mY_ (E v L G);obtain⟨v',w',C,Z,k1,k2,Q⟩:=rg_ (F:=F) (t:=t) (ty':=ty) (b:=⟨g,k*sz,none⟩) (cap:=0) O g2 S (fun j u hj=>by simp at hj) hl hn (c:=c) zs_ W hb;unfold Oper.wp execOp;simp only[resolve,invoke,builtin,Sem.run_bind,Sem.run_pure,Result.andThen_ok,List.map_toArray,List.map_cons,List.map_nil,B.ev X,B.ev V,Z];exact hk v' C (.row k1) _ ⟨v.im,w',v.sl⟩ (B.put hN) k2 (h3.trans (Q.permL M.symm)) (ao_ ((Q.permL M.symm).le L) G)
end
end Go.Sx
namespace Go.Sx
open Go
section
variable {P:Program} {N:Nf} {v0:Vw} {H0:Hp} {R:Exit→Act→World→Prop} {K:List Kt} {fr:Fr} {H F:Hp} {Γ:List Fct} {ops:Array Oper} {l:List Oper} {d:Nat} {ty:TypeId} {ps:String} {af:Array Edge} {e:TypeId} {sz n:Nat} {sv:Value} {xs:List Value} {Hr:Hp}
def svK:Value→Nat
  | .slice _ _ c=>c
  | _=>0
def svT (sv:Value) (n k sz:Nat):Value:=.slice (some ⟨svB sv,k*sz,none⟩) (n - k) (svK sv - k)
theorem qa_ {x y:Operand} {t m:TypeId} {kl:IntKind} {k:Nat} (h:ay_ e sz sv n xs Hr) (v:∀ w,(underlying t).run P w=.ok (.slice m) w) (q:∀ w,(sizeOf m).run P w=.ok sz w) (B:Fr.ev fr x=some sv) (C:Fr.ev fr y=some (.int kl (k:Int))) (hk:k<n) :
    Yld P N fr H Γ (.slice t x (some y) none none) ty (svT sv n k sz):=by
  rcases h.2 with⟨_,G,_⟩|⟨g,cap,cur,rfl,rfl,A,J,I,E⟩
  · omega
  · refine ar_ (dI_ (i:=k) (j:=n) (kl:=kl) (kh:=.i64) v q B C rfl zs_ A) ?_
    unfold svT sad;rw[if_neg zs_];simp[cp_,svB,svK]
theorem tN_ {x:Operand} {t m:TypeId} {k:Nat} (q:∀ w,(underlying t).run P w=.ok (.slice m) w) (h:Fr.ev fr x=some (svT sv n k sz)):Yld P N fr H Γ (.call ⟨.builtin .len,#[x],#[t]⟩) ty (.int .i64 ((n - k:Nat):Int)):=dC_ q h
theorem pb_ {x y:Operand} {t h:TypeId} {k j:Nat} (A:∀ w,(underlying t).run P w=.ok (.slice h) w) (q:∀ w,(sizeOf h).run P w=.ok sz w) (m:Fr.ev fr x=some (svT sv n k sz)) (v:Fr.ev fr y=some (.int .i64 (j:Int))) (B:j<n - k) :
    Yld P N fr H Γ (.indexAddr t x y) ty (.pointer (some ⟨svB sv,((k+j:Nat):Int).toNat*sz,none⟩)):=by
  refine ar_ (fa_ A q m v zs_ zs_) ?_;rw[Int.toNat_natCast,Int.toNat_natCast,Nat.add_mul]
theorem cutRow (h:ay_ e sz sv n xs Hr) {k:Nat} (hk:k≤n) (E:0<n):∃ sv',ay_ e sz sv' k (xs.take (k*sz)) Hr ∧
    ∀ {N:Nf} {fr:Fr} {H:Hp} {Γ:List Fct} {ty t:TypeId} {x y:Operand},(∀ w,(underlying t).run P w=.ok (.slice e) w)→(∀ w,(sizeOf e).run P w=.ok sz w)→Fr.ev fr x=some sv→Fr.ev fr y=some (.int .i64 (k:Int))→Yld P N fr H Γ (.slice t x none (some y) none) ty sv':=by
  obtain⟨hl,⟨_,G,_⟩|⟨g,cap,cur,rfl,rfl,A,hm,q,m⟩⟩:=h
  · omega
  · refine⟨.slice (some ⟨g,0,none⟩) k cap,⟨?_,.inr ⟨g,cap,cur,rfl,rfl,by omega,hm,q,?_⟩⟩,fun B v m C=>?_⟩
    · rw[List.length_take,hl];exact Nat.min_eq_left (Nat.mul_le_mul_right _ hk)
    · rw[← m,List.take_take,Nat.min_eq_left (Nat.mul_le_mul_right _ hk)]
    · refine ar_ (dI_ (i:=0) (j:=k) (kl:=.i64) (kh:=.i64) B v m rfl C (Nat.zero_le _) zs_) ?_
      unfold sad;rw[if_neg zs_];simp[cp_]
theorem sk_ {x:Operand} {t:TypeId} {k:Nat} {z:Value} (q:ay_ e sz sv n xs Hr) (hH:H.Perm (Hr++F)) (hu:∀ w,(underlying t).run P w=.ok (.slice e) w) (hz:∀ w,(zeroValue e).run P w=.ok z w) (O:z.cells.size=sz) (h1:z.cells.toList.all Value.oneCell'=true) (hsz:0<sz)
    (hx:Fr.ev fr x=some (svT sv n k sz)) (hk:k<n)
    (h:∀ Hr' zs,zs.length=(n - k)*sz→ay_ e sz sv n (xs.take (k*sz)++zs) Hr'→Ops P R N v0 H0 ops l K fr (Hr'++F) Γ):Ops P R N v0 H0 ops (⟨none,.call ⟨.builtin .clear,#[x],#[t]⟩,ty,ps,af,none⟩::l) K fr H Γ:=by
  rcases q.2 with⟨_,h2,_⟩|⟨g,cap,cur,rfl,rfl,U,h4,T,Z⟩
  · omega
  · have hle:n*sz≤cap*sz:=Nat.mul_le_mul_right _ U
    have A:k*sz≤n*sz:=Nat.mul_le_mul_right _ zs_;obtain⟨m,hm⟩:∃ m,n - k=m+1:=⟨n - k - 1,by omega⟩;have y:(Builtin.zeroCells z.cells (n - k)).toList.length=(n - k)*sz:=by simp[Builtin.zeroCells,O]
    have C:k*sz+(n - k)*sz=n*sz:=by rw[← Nat.add_mul];congr 1;omega
    refine y_ hH (cq_ rfl fun a v V Q g3 g4=>?_);have X:=(Q.own _ List.mem_cons_self).1
    have B:=run_storeCells_at P g (k*sz) e (Builtin.zeroCells z.cells (n - k)).toList 0 cur v.w X (by rw[y,T];omega) (fun c J=>by
      have I:0<z.cells.size:=by omega
      simp only[Builtin.zeroCells,Array.toList_map,Array.toList_range,List.mem_map,List.mem_range]at J;obtain⟨i,_,rfl⟩:=J;have L:i%z.cells.size<z.cells.size:=Nat.mod_lt _ I;rw[getElem!_pos z.cells _ L];exact List.all_eq_true.1 h1 _ zB_)
    have he:(execOp a.eval ⟨none,.call ⟨.builtin .clear,#[x],#[t]⟩,ty,ps,af,none⟩).run P v.w=.ok (.value (.tuple #[])) (v.w.setRow g (cur.toList.take (k*sz)++(Builtin.zeroCells z.cells (n - k)).toList++cur.toList.drop (k*sz+(n - k)*sz)).toArray):=by
      rw[y]at B;simp only[Nat.add_zero]at B
      have M:a.eval x=.slice (some ⟨g,k*sz,none⟩) (m+1) (cap - k):=by
        have:=V.ev hx;rw[this];unfold svT;rw[hm];rfl
      rw[hm]at B ⊢;simp[execOp,resolve,invoke,builtin,M,Builtin.clear_,hu,hz,B]
    unfold Oper.wp;rw[he];obtain⟨Y,W⟩:=eL_ (i:=0) (w':=v.w.setRow g (cur.toList.take (k*sz)++(Builtin.zeroCells z.cells (n - k)).toList++cur.toList.drop (k*sz+(n - k)*sz)).toArray) Q rfl rfl rfl rfl (Nat.le_refl _) zB_ (setRow_heap _ _ _ _ _ _ X) (fun c J=>setRow_other _ _ _ _ J);refine h [(g,.cells (cur.toList.take (k*sz)++(Builtin.zeroCells z.cells (n - k)).toList++cur.toList.drop (k*sz+(n - k)*sz)).toArray e (0,0))] (Builtin.zeroCells z.cells (n - k)).toList y ⟨?_,.inr ⟨g,cap,_,rfl,rfl,U,h4,?_,?_⟩⟩ _ _ V Y (g3.trans W) (ao_ (W.le Q) g4)
    · rw[List.length_append,List.length_take,y,q.1,Nat.min_eq_left A];exact C
    · simp only[List.size_toArray,List.length_append,List.length_take,List.length_drop,Array.length_toList,T,y,C]
      omega
    · have E:(cur.toList.take (k*sz)).length=k*sz:=by rw[List.length_take,Array.length_toList,T];omega
      rw[List.toList_toArray]
      apply List.ext_getElem?
      intro j;rw[List.getElem?_take]
      by_cases S:j<n*sz
      · rw[if_pos S]
        by_cases G:j<k*sz
        · rw[List.append_assoc,List.getElem?_append_left zs_,List.getElem?_append_left (by rw[List.length_take,q.1];omega),List.getElem?_take,if_pos G,List.getElem?_take,if_pos G,← Z,List.getElem?_take,if_pos S]
        · rw[List.getElem?_append_left (by rw[List.length_append,E,y];omega),List.getElem?_append_right zs_,E,List.getElem?_append_right (by rw[List.length_take,q.1];omega),List.length_take,q.1,Nat.min_eq_left A]
      · rw[if_neg S,List.getElem?_eq_none (by rw[List.length_append,List.length_take,y,q.1,Nat.min_eq_left A];omega)]
end
end Go.Sx
namespace Go.Vs
def cpG {α:Type} (q:α→α→Bool):α→List α→List α
  | _,[]=>[]
  | x,y::l=>if q y x then cpG q y l else y::cpG q y l
def cpL {α:Type} (q:α→α→Bool):List α→List α
  | []=>[]
  | x::l=>x::cpG q x l
theorem ru_ {α:Type} {q:α→α→Bool}:∀ (l:List α) (x z w:α),(x::l)[l.length]? = some w→cpG q x (l++[z])=cpG q x l++(if q z w then [] else [z])
 | [],x,z,w,h=>by
   simp only[List.length_nil,List.getElem?_cons_zero,Option.some.injEq]at h;subst h;simp only[List.nil_append,cpG]
 | y::l,x,z,w,h=>by
   simp only[List.length_cons,List.getElem?_cons_succ]at h;simp only[List.cons_append,cpG];have:=ru_ (q:=q) l y z w h
   split
   · exact this
   · rw[this];rfl
theorem ku_ {α:Type} {q:α→α→Bool} {l:List α} {p:Nat} {w z:α} (k:l[p]? = some w) (v:l[p+1]? = some z):cpL q (l.take (p+2))=cpL q (l.take (p+1))++(if q z w then [] else [z]):=by
  cases l with
  | nil=>simp at k
  | cons x l =>
    have m:=(List.getElem?_eq_some_iff.1 v).1;simp only[List.length_cons]at m;simp only[List.getElem?_cons_succ]at v;have e:l.take (p+1)=l.take p++[z]:=by rw[List.take_add_one,v];rfl
    rw[List.take_succ_cons,List.take_succ_cons,cpL,cpL,e,List.cons_append]
    congr 1
    have h:(l.take p).length=p:=by rw[List.length_take];omega
    refine ru_ (l.take p) x z w ?_;rw[h];cases p with
    | zero=>simpa using k
    | succ p =>
      simp only[List.getElem?_cons_succ]at k ⊢;rw[List.getElem?_take,if_pos zs_];exact k
structure CmI {α:Type} (q:α→α→Bool) (S M:List α) (k p:Nat):Prop where
  len:M.length=S.length
  kp:k<p
  pl:p≤S.length
  rest:∀ j,k≤j→M[j]? = S[j]?
  fst:M.take k=cpL q (S.take p)
theorem CmI.none {α:Type} {q:α→α→Bool} {S:List α} {k:Nat} {x y:α} (A:cpL q (S.take (k+1))=S.take (k+1)) (m:S[k]? = some x) (h:S[k+1]? = some y) (v:q y x=true):CmI q S S (k+1) (k+2) :=
  ⟨rfl,by omega,by have:=(List.getElem?_eq_some_iff.1 h).1;omega,fun _ _=>rfl,by rw[ku_ m h,if_pos v,List.append_nil,A]⟩
theorem CmI.skip {α:Type} {q:α→α→Bool} {S M:List α} {k p:Nat} {x y:α} (h:CmI q S M k (p+1)) (v:M[p]? = some x) (m:M[p+1]? = some y) (A:q y x=true):CmI q S M k (p+2):=by
  have B:=h.kp;rw[h.rest p zs_]at v;rw[h.rest (p+1) zs_]at m;exact⟨h.len,by omega,by have:=(List.getElem?_eq_some_iff.1 m).1;omega,h.rest,by rw[ku_ v m,if_pos A,List.append_nil,h.fst]⟩
theorem CmI.keep {α:Type} {q:α→α→Bool} {S M:List α} {k p:Nat} {x y:α} (h:CmI q S M k (p+1)) (v:M[p]? = some x) (m:M[p+1]? = some y) (A:q y x=false):CmI q S (M.set k y) (k+1) (p+2):=by
 have C:=h.kp;have B:=(List.getElem?_eq_some_iff.1 m).1;rw[h.rest p zs_]at v;rw[h.rest (p+1) zs_]at m;refine⟨by rw[List.length_set];exact h.len,by omega,by have:=(List.getElem?_eq_some_iff.1 m).1;omega,fun j E=>?_,?_⟩
 ·rw[List.getElem?_set_ne zs_];exact h.rest j zs_
 rw[ku_ v m,if_neg (by rw[A];simp),← h.fst,List.take_add_one,List.take_set,List.getElem?_set_self zs_];rw[List.set_eq_of_length_le zaU_];rfl
theorem CmI.done {α:Type} {q:α→α→Bool} {S M:List α} {k:Nat} (h:CmI q S M k S.length):M.take k=cpL q S:=by rw[h.fst,List.take_length]
theorem wJ_ {α:Type} {q:α→α→Bool} {S:List α} {k:Nat} {x y:α} (A:cpL q (S.take (k+1))=S.take (k+1)) (m:S[k]? = some x) (h:S[k+1]? = some y) (v:q y x=false):cpL q (S.take (k+2))=S.take (k+2):=by
  rw[ku_ m h,if_neg (by rw[v];simp),A,List.take_add_one (i:=k+1),h];rfl
theorem oV_ {α:Type} {q:α→α→Bool} {S:List α} (h:S.length<2):cpL q S=S:=by
  match S,h with
  | [],_=>rfl
  | [x],_=>rfl
end Go.Vs
