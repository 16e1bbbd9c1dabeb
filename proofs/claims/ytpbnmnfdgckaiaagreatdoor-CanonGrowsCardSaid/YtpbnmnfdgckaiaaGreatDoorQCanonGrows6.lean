/-
  Part of the proof of the law CanonGrows over this seat: the small logic, the data, the contracts of functions (no condition).
-/
import Derived.Test.YtpbnmnfdgckaiaaGreatDoorQCanonGrows5
import Derived.SevenTiedAt
import Derived.Stop.Joined
import Derived.Lay
import Derived.LaidMore
import Derived.Test.YtpbnmnfdgckaiaaGreatDoorQCanonGrows3
import Derived.Lib.SlicesCompact
import Derived.Sort.EncStr
import Derived.Test.YtpbnmnfdgckaiaaGreatDoorQCanonGrows4
import Derived.Test.YtpbnmnfdgckaiaaGreatDoorQCanonGrows2
import Derived.Test.YtpbnmnfdgckaiaaGreatDoorProg
import Derived.ArgAppend
set_option linter.unusedVariables false
set_option linter.unusedSimpArgs false
set_option linter.unusedSectionVars false
set_option maxHeartbeats 1000000
namespace Go.Vs
open Go Go.Sx Go.ChangeShapes Go.WideShapes Go.ChangeAt Go.RowKit
section
variable {H:Type} {enc:TypeId×Value→H} {P:Program} {w:World}
mutual
def fA_ {H:Type}:DataW H→List Value
  | .lit (.int k n)=>[.int k n]
  | .lit (.bool b)=>[.bool b]
  | .agg ps=>ky_ ps
  | _=>[]
def ky_ {H:Type}:List (DataW H)→List Value
  | []=>[]
  | d::r=>fA_ d++ky_ r
end
def hH_ (P:Program):Nat→TypeId→Bool
  | 0,_=>false
  | n+1,t=>match P.underlying t with
    | some .bool=>true
    | some (.int _)=>true
    | some (.struct fs)=>fs.toList.all fun f=>hH_ P n f.type
    | some (.array _ e)=>hH_ P n e
    | _=>false
theorem jL_:∀ l:List (DataW H),ky_ l=l.flatMap fA_
  | []=>by simp[ky_]
  | d::r=>by simp only[ky_,jL_ r,List.flatMap_cons]
theorem tile:∀ (e:List Nat) (cs:List Value) (g:List (List Value)),cs.length=e.sum→g.length=e.length→(∀ j n,e[j]? = some n→some ((cs.drop (e.take j).sum).take n)=g[j]?)→cs=g.flatten
  | [],cs,g,h,hg,_=>by
    simp only[List.sum_nil]at h;have y:=List.eq_nil_of_length_eq_zero h;have B:g=[]:=List.eq_nil_of_length_eq_zero hg;simp[y,B]
  | n::e,cs,[],h,hg,hp=>by simp at hg
  | n::e,cs,x::g,h,hg,hp=>by
    have k:=hp 0 n rfl;simp only[List.take_zero,List.sum_nil,List.drop_zero,List.getElem?_cons_zero,Option.some.injEq]at k
    have q:=tile e (cs.drop n) g (by rw[List.length_drop,h];simp) (by simpa using hg) (fun j m A=>by
      have:=hp (j+1) m A;simp only[List.take_succ_cons,List.sum_cons,List.getElem?_cons_succ]at this;rw[← this,List.drop_drop])
    rw[List.flatten_cons,← q,← k,List.take_append_drop]
theorem vQ_ {T:TypeId→Prop} {G:Bool} (K:Kids P T):∀ (n m:Nat) (t:TypeId) (cs:List Value) (x:DataW H×List MemPlace),T t→hH_ P m t=true→DataW.trod enc P w 0 (fun _=>true) G n t cs=some x→cs=fA_ x.1:=by
 intro n
 induction n with
 | zero=>intro m t cs x _ _ h;simp[DataW.trod]at h
 | succ n ih =>
   intro m t cs x O C h;cases m with
   | zero=>simp[hH_]at C
   | succ m =>
   cases hu:P.underlying t with
   | none=>simp[hH_,hu]at C
   | some d =>
     cases d with
     | bool=>obtain⟨b,rfl,rfl⟩:=DataW.trod_bool hu h;simp[fA_]
     | int k=>obtain⟨b,rfl,rfl,_⟩:=DataW.trod_int hu h;simp[fA_]
     | struct fs =>
       obtain⟨J,N,S,rfl,hl,y,L⟩:=DataW.trod_struct hu h;obtain rfl:N=n:=by omega
       obtain⟨k1,k2,Q⟩:=K.struct O hu;simp only[hH_,hu]at C;simp only[fA_];rw[jL_,List.flatMap_def,List.map_map];refine tile (fs.toList.map fun f=>P.cellsOf f.type) cs _ (by rw[hl,k2]) (by simp[y]) fun j q B=>?_;rw[List.getElem?_map,Option.map_eq_some_iff]at B;obtain⟨f,A,rfl⟩:=B;have F:=L j f zaE_;have R:=Q j f A;have I:j<J.length:=by rw[y];have:=(List.getElem?_eq_some_iff.1 A).1;simpa using this
       rw[List.getElem?_eq_getElem I]at F;have M:=ih m f.type _ _ (k1 f (List.mem_of_getElem? A)) (List.all_eq_true.1 C f (List.mem_of_getElem? A)) F;rw[List.getElem?_map,List.getElem?_eq_getElem I,← List.map_take,← R,M];rfl
     | array len e =>
       obtain⟨J,N,S,rfl,hl,y,L⟩:=DataW.trod_array hu h;obtain rfl:N=n:=by omega
       obtain⟨k1,k2⟩:=K.array O hu;simp only[hH_,hu]at C;simp only[fA_];rw[jL_,List.flatMap_def,List.map_map];refine tile (List.replicate len (P.cellsOf e)) cs _ (by rw[hl,k2];simp) (by simp[y]) fun j q B=>?_;rw[List.getElem?_replicate]at B
       split at B
       · rename_i I
         simp only[Option.some.injEq]at B;subst B;have F:=L j I;have E:j<J.length:=by omega
         rw[List.getElem?_eq_getElem E]at F;have M:=ih m e _ _ k1 C F;rw[List.getElem?_map,List.getElem?_eq_getElem E,List.take_replicate,List.sum_replicate_nat,Nat.min_eq_left zr_,M];rfl
       · cases B
     | _=>simp[hH_,hu]at C
end
section
variable {H:Type} {enc:TypeId×Value→H} {P:Program} {W W':World}
theorem jC_:∀ {ts:List TypeId} {vs:List Value} {ds:List (DataW H)} {ps:List MemPlace} {sp:Nat→Bool},DataW.TrodAll enc P W 0 sp true ts vs ds ps→(∀ p∈ps,W.sameAt W' p)→DataW.TrodAll enc P W' 0 sp true ts vs ds ps
  | [],[],[],_,_,h,_=>h
  | _::_,_::_,_::_,_,_,⟨p,q,⟨n,h1⟩,h2,e⟩,hs=>⟨p,q,⟨n,DataW.trod_carry n _ _ _ h1 (fun x k=>hs x (by rw[e];exact List.mem_append_left _ k))⟩,jC_ h2 (fun x k=>hs x (by rw[e];exact List.mem_append_right _ k)),e⟩
theorem wg_ {T:TypeId→Prop} (K:Kids P T) (hz:∀ t e,T t→P.underlying t=some (.slice e)→0<P.cellsOf e) {f:Func} {s:ChangeSpec} {args:Array Value} {I:List (DataW H)} {before:List MemPlace} {V:TypeId} (J:∀ t∈f.params.toList,T t) (m:s.vars=[])
    (S:DataW.Whole enc P f.params.toList s.vars false W args.toList I [] before) (L:s.fn H (I++[])={ results:=[.lit (.bool true)],args:=I }) (F:f.resultTypes=#[V]) (Q:P.underlying V=some .bool) {G:Vw} (B:(vw W).to [] G []) :
    s.post enc P f false true false false W args (.bool true) G.w:=by
  have R:=S;obtain⟨p,q,O,Y,U,_,_⟩:=S;have hq:q=[]:=by rw[m]at Y;exact Y
  subst hq;simp only[List.append_nil]at U;subst U;have k:∀ b,b<W.heap.size→G.w.heap[b]? = W.heap[b]? := fun b Q=>B.block b Q zC_
  have y:∀ x∈before,W.sameAt G.w x:=fun x M=>by
    have C:=DataW.TrodAll.lt O x M;cases x with
    | cell b off=>exact World.cell?_of_block (k b C)
    | map b=>exact k b C
  have N:=jC_ O y;have E:=DataW.TrodAll.respare K hz (spare':=fun b=>decide (b<W.heap.size)) J N (fun x M=>by simpa using DataW.TrodAll.lt O x M);refine⟨I,[],before,[],before,[],R,?_,?_,?_,⟨B.os,B.output,fun i hi=>?_⟩,fun h=>by cases h⟩
  · rw[L,F];exact trodAll_mk1 (shut_bool Q true)
  · rw[L];exact E
  · rw[L,m];rfl
  · rw[k i hi]
    have A:∃ o,W.heap[i]? = some o:=⟨_,Array.getElem?_eq_getElem hi⟩;obtain⟨o,Z⟩:=A;rw[Z];cases o<;>simp
section
variable {tI tB tS tSs tC tCs tA tAs tP tPs:TypeId} (X:Tys P tI tB tS tSs tC tCs tA tAs tP tPs) {base:Nat} {v:Value} {d:DataW H} {ps:List MemPlace}
include X
theorem arg_ax (k:Value.okWide P W .any base tA v) (h:DataW.Trod enc P W 0 (fun _=>true) true tA v d ps) (x:wok (d.weights P tA)):∃ a:Ax,v=a.val∧a.mem (vw W)∧a.ok:=by
  obtain⟨fs,q,_⟩:=X.a;unfold Value.okWide at k;rw[q]at k;obtain⟨cs,rfl,_⟩:=k;obtain⟨n,y⟩:=h;obtain⟨a,e,m⟩:=zo_ X y x;refine⟨a,?_,m⟩;simp only[Value.cells]at e;rw[Ax.val,← e]
theorem yU_ (m:Value.okWide P W .any base tI v) (h:DataW.Trod enc P W 0 (fun _=>true) true tI v d ps):∃ k:Int,v=.int .i64 k∧-9223372036854775808≤k∧k≤9223372036854775807:=by
  obtain⟨k,e,_,_,q⟩:=open_int X.i m h;have:=bounds_i64 q;exact⟨k,e,this.1,this.2⟩
end
theorem kp_ {T:TypeId→Prop} (K:Kids P T) {name:String} {d:DataW Unit} {k:List (String×DataW Unit)} {W:World} (h:laidMet P k W) (hm:(name,d)∈k) {g:Nat} {t:TypeId} (J:P.globalNamed name=some g) (B:(P.globals[g]?).map (·.type)=some t) (Q:T t) {m:Nat} (R:hH_ P m t=true) :
    ∃ E fz,W.heap[g]? = some (.cells (fA_ d).toArray E fz):=by
  obtain⟨ps,hl,_,_⟩:=h
  have C:∀ (l:List (String×DataW Unit)) (ps:List MemPlace),DataW.LaidVars P W l ps→(name,d)∈l→∃ g t cs n p,P.globalNamed name=some g∧(P.globals[g]?).map (·.type)=some t∧W.var? P name=some cs∧DataW.trod (fun _=>()) P W 0 (fun _=>true) false n t cs.toList=some (d,p):=by
    intro l
    induction l with
    | nil=>intro ps _ h;cases h
    | cons x r ih =>
      intro ps h hm;obtain⟨n',S⟩:=x;obtain⟨g,t,cs,A,p,q,F,G,y,I,N,_⟩:=h;rcases List.mem_cons.1 hm with e|hm
      · cases e;exact⟨g,t,cs,A,p,F,G,y,I⟩
      · exact ih q N hm
  obtain⟨O,L,cs,n,p,F,G,y,I⟩:=C k ps hl hm;obtain rfl:O=g:=Option.some.inj (F.symm.trans J);obtain rfl:L=t:=Option.some.inj (G.symm.trans B);have e:=vQ_ K n m L cs.toList _ Q R I;simp only[World.var?,J,Option.bind_some]at y
  split at y
  · rename_i c E fz M
    simp only[Option.some.injEq]at y;subst y;exact⟨E,fz,by rw[M,← e]⟩
  · cases y
end
end Go.Vs
namespace Go.Vs
open Go Go.Sx
theorem kl_ {s:Str} (h:ix_ s=true):∃ c t,s=c::t∧fl_ c=true∧mg_ s=true:=by
  cases s with
  | nil=>simp[ix_]at h
  | cons c t =>
    simp only[ix_,Bool.and_eq_true]at h;exact⟨c,t,rfl,h.1.1.2,h.1.2⟩
theorem sl_ {s:Str} (h:bx_ s=true):∃ c t,s=c::t∧fl_ c=true:=by
  unfold bx_ at h;simp only[Bool.and_eq_true]at h;cases hx:ixS 58 s with
  | none=>rw[hx]at h;obtain⟨c,t,e,m,_⟩:=kl_ h.2;exact⟨c,t,e,m⟩
  | some k =>
    rw[hx]at h;simp only[Bool.and_eq_true]at h;obtain⟨c,t,e,m,_⟩:=kl_ h.2.1;cases s with
    | nil=>simp at e
    | cons d u =>
      cases k with
      | zero=>simp at e
      | succ k=>simp only[List.take_succ_cons,List.cons.injEq]at e;exact⟨d,u,rfl,e.1▸m⟩
theorem ng_ {s:Str} (h:mg_ s=true):∀ c∈s,fZ_ c=true:=fun c d=>List.all_eq_true.1 h c d
theorem uw_ {c:UInt8} {s:Str} {k:Nat} (h:ixS c s=some k):s=s.take k++c::s.drop (k+1):=by
 induction s generalizing k with
 | nil=>simp[ixS]at h
 | cons b s ih =>
   simp only[ixS]at h
   split at h
   · rename_i d
     simp only[Option.some.injEq]at h;subst h;subst d;simp
   · cases hx:ixS c s with
     | none=>rw[hx]at h;simp at h
     | some j =>
       rw[hx]at h;simp only[Option.map_some,Option.some.injEq]at h;subst h;simp only[List.take_succ_cons,List.drop_succ_cons,List.cons_append];rw[← ih hx]
theorem ui_ {s:Str} (h:bx_ s=true):∀ c∈s,fZ_ c=true∨c=58:=by
 unfold bx_ at h;simp only[Bool.and_eq_true]at h;cases hx:ixS 58 s with
 | none=>rw[hx]at h;obtain⟨_,_,_,_,e⟩:=kl_ h.2;exact fun c d=>.inl (ng_ e c d)
 | some k =>
   rw[hx]at h;simp only[Bool.and_eq_true]at h;obtain⟨_,_,_,_,e⟩:=kl_ h.2.1;obtain⟨_,_,_,_,m⟩:=kl_ h.2.2;intro c d;rw[uw_ hx]at d;rcases List.mem_append.1 d with d|d
   · exact .inl (ng_ e c d)
   · rcases List.mem_cons.1 d with rfl|d
     · exact .inr rfl
     · exact .inl (ng_ m c d)
theorem mm_ {c:UInt8}:∀ {s:Str},c ∉ s→ixS c s=none
  | [],_=>rfl
  | b::s,h=>by
    simp only[List.mem_cons,not_or]at h;simp only[ixS];rw[if_neg (fun e=>h.1 e.symm),mm_ h.2];rfl
theorem iK_ {s:Str} (h:bx_ s=true):bp_ 46 s=[s] :=
  gN_ (mm_ fun hm=>by rcases ui_ h 46 hm with h|h<;>revert h<;>decide)
theorem dv_ {s:Str} (h:bx_ s=true):ba_ s=true:=by simp[ba_,h]
theorem dK_ {s:Str} (h:bx_ s=true):cS_ s=true:=by
  unfold cS_;rw[iK_ h];simp[dv_ h]
theorem no_ (c:UInt8):∀ (f r:Str),bp_ c (f++[c]++r)=bp_ c f++bp_ c r
 | [],r=>by simp[bp_]
 | b::f,r=>by
   have d:=no_ c f r;simp only[List.append_assoc,List.cons_append,List.nil_append]at d ⊢
   by_cases e:b=c
   · subst e;simp only[bp_,if_true,d,List.cons_append]
   · simp only[bp_,e,if_false,d]
     cases hs:bp_ c f with
     | nil=>exact absurd hs (la_ c f)
     | cons x t=>simp
theorem su_ {c:UInt8} (h:fl_ c=true):c≠42∧c≠33∧c≠123∧c≠60∧c≠95:=by
  refine⟨?_,?_,?_,?_,?_⟩<;>rintro rfl<;>revert h<;>decide
theorem sQ_ {s:Str} (h:bx_ s=true):bv_ s=true:=by
  obtain⟨c,t,rfl,m⟩:=sl_ h;obtain⟨d,e,k,q,_⟩:=su_ m;unfold bv_;rw[if_neg (by simp[d,e]),if_neg zaX_,if_neg (by simp[q])];exact dv_ h
theorem kS_ {s:Str} (h:ba_ s=true):bv_ ([123]++s++[125])=true:=by
  unfold bv_;have e:([123]++s++[125]).length=s.length+2:=by simp
  rw[if_neg zC_,if_pos (by
    refine⟨by omega,by simp,?_⟩;rw[List.getElem?_append_right zC_];simp)]
  rw[e];have:(List.drop 1 ([123]++s++[125])).take (s.length+2 - 1 - 1)=s:=by simp
  rw[this];exact h
theorem sR_ {t:Str} (h:t≠[]):bv_ ([60]++t++[62])=true:=by
  unfold bv_;have hl:0<t.length:=List.length_pos_iff.2 h;have e:([60]++t++[62]).length=t.length+2:=by simp
  rw[if_neg zC_,if_neg zC_,if_pos (by
    refine⟨by omega,by simp,?_⟩;rw[List.getElem?_append_right zC_];simp)]
namespace Con
def dep:Con→Nat
  | mk _ _ _ _ _ _ ps=>deps ps
where deps:List Con→Nat
  | []=>0
  | p::ps=>max (1+dep p) (deps ps)
theorem qd_ {p:Con}:∀ {ps:List Con},p∈ps→1+p.dep≤dep.deps ps
 | q::ps,h=>by
   rcases List.mem_cons.1 h with rfl|h
   · simp only[dep.deps];omega
   · have:=qd_ h;simp only[dep.deps];omega
theorem qe_ (c:Con):c.dep=dep.deps c.parts:=by cases c;rfl
theorem sz_eq (c:Con):c.sz=1+sz.szs c.parts:=by cases c;rfl
theorem rv_:∀ (m:Nat) (c:Con),c.sz≤m→∀ d n,(c.fits d n).1=true↔d+c.dep≤8∧n+c.sz≤64
 | 0,c,h=>by have:=c.sz_pos;omega
 | m+1,c,h=>fun d n=>by
   have y:∀ ps:List Con,(∀ p∈ps,p.sz≤m)→∀ n,n≤64→((fits.fitss ps (d+1) n).1=true↔(∀ p∈ps,d+1+p.dep≤8)∧n+sz.szs ps≤64):=by
     intro ps
     induction ps with
     | nil=>intro _ n C;simp[fits.fitss,sz.szs,C]
     | cons p ps ih =>
       intro e n C;have k:=rv_ m p (e p zC_) (d+1) n;simp only[fits.fitss,sz.szs,List.mem_cons,forall_eq_or_imp];rcases v:p.fits (d+1) n with⟨b,q⟩
       rw[v]at k;cases b with
       | true =>
         have B:=pX_ _ p (Nat.le_refl _) (d+1) n (by rw[v]);rw[v]at B;simp only at B k ⊢;have A:=k.1 trivial;rw[ih (fun r G=>e r (by simp[G])) q zr_];constructor
         · rintro ⟨a,b⟩;exact⟨⟨A.1,a⟩,by omega⟩
         · rintro ⟨⟨_,a⟩,b⟩;exact⟨a,by omega⟩
       | false =>
         simp only[Bool.false_eq_true,false_iff]at k ⊢;rintro ⟨⟨a,_⟩,b⟩;exact k ⟨a,by omega⟩
   have E:=qe_ c;have F:=sz_eq c;rw[fits_eq]
   split
   · rename_i x
     simp only[Bool.or_eq_true,decide_eq_true_eq]at x;simp only[Bool.false_eq_true,false_iff];rintro ⟨a,b⟩;omega
   · rename_i x
     simp only[Bool.or_eq_true,decide_eq_true_eq,not_or]at x;rw[y c.parts (fun p e=>by have:=sz_part e;omega) (n+1) zr_,E,F];constructor
     · rintro ⟨a,b⟩
       refine⟨?_,by omega⟩
       have:∀ ps:List Con,(∀ p∈ps,d+1+p.dep≤8)→d+dep.deps ps≤8:=by
         intro ps
         induction ps with
         | nil=>intro _;simp[dep.deps];omega
         | cons p ps ih =>
           intro e;have k:=e p zC_;have A:=ih fun q v=>e q (by simp[v])
           simp only[dep.deps];omega
       exact this _ a
     · rintro ⟨a,b⟩
       exact⟨fun p e=>by have:=qd_ e;omega,by omega⟩
theorem check_iff (c:Con):c.check=0↔c.dep≤8∧c.sz≤64∧c.fine:=by
 unfold check fine;have h:=rv_ _ c (Nat.le_refl _) 0 0
 by_cases d:(c.fits 0 0).1=true
 ·rw[if_pos d]
  have:=h.1 d;constructor
  ·intro e;exact⟨by omega,by omega,e⟩
  exact fun e=>e.2.2
 rw[if_neg d];constructor
 ·intro e;cases e
 intro e;exact absurd (h.2 ⟨by omega,by omega⟩) d
theorem check_part {c p:Con} (h:c.check=0) (d:p∈c.parts):p.check=0:=by
  rw[check_iff]at h ⊢;have e:=qd_ d;rw[← qe_]at e;have k:=sz_part d;exact⟨by omega,by omega,fine_part h.2.2 d⟩
structure Names (c:Con):Prop where
  plain:c.kind=3∨c.kind=6∨c.kind=7→bx_ c.name=true
  person:c.kind=4→ba_ c.name=true
  nums:c.kind=7→-1099511627776≤c.lo∧c.lo≤c.hi∧c.hi≤1099511627776
theorem names_of {c:Con} (h:c.fine):Names c:=by
 have F:=fields h;have hk:c.kind=1∨c.kind=2∨c.kind=3∨c.kind=4∨c.kind=5∨c.kind=6∨c.kind=7:=by have:=F.k1;have:=F.k7;omega
 have d:=((kH_ c).1 h).1;unfold fieldErr at d;rw[if_neg (by have:=F.k1;have:=F.k7;omega)]at d
 split at d
 ·cases d
 split at d
 ·cases d
 rename_i m
 split at d
 ·cases d
 split at d
 ·rename_i k
  refine⟨fun e=>?_,fun e=>?_,fun e=>?_⟩
  ·rcases e with e|e|e<;>rw[e]at k<;>simpa [nd,eU_] using k
  ·rw[e]at k
   simp[nd,eU_]at k
   simp[ba_,k]
  rw[e]at m;simp[nd,eU_]at m
  omega
 cases d
theorem nT_ (x y:Str) (r:List Str) (d:Str):Lib.join (x::y::r) d=x++d++Lib.join (y::r) d:=by simp[Lib.join,List.intercalate]
theorem xq_ {c:Con} (h:c.fine) (hk:5≤c.kind):c.text≠[]:=by
 have F:=fields h;have e:=F.k7;rw[text_eq,if_neg zr_,if_neg zr_,if_neg zr_,if_neg zr_]
 split
 ·rename_i d
  have hl:=F.le;rw[d]at hl;simp[nd,eU_]at hl
  match hp:c.parts,hl with
  | [],hl=>simp at hl
  | [_],hl=>simp at hl
  | p::q::r,_=>simp only[List.map_cons,nT_];simp
 split
 ·simp only[nT_];simp
 simp only[nT_];simp
theorem atom_ok {c:Con} (h:c.check=0):bv_ c.atom=true:=by
 have d:=(check_zero h).1;have F:=fields d;have N:=names_of d;have e:=F.k1;have k:=F.k7;unfold atom
 split
 ·rfl
 split
 ·rfl
 split
 ·exact sQ_ (N.plain zr_)
 split
 ·exact kS_ (N.person zr_)
 unfold textN;rw[if_pos h];exact sR_ (xq_ d zr_)
theorem atom_len {c:Con} (d:c.ok) (h:c.check=0):c.atom.length≤7000:=by
  have F:=fields (check_zero h).1;have k:=F.nm;have e:=textN_len d;unfold atom
  repeat' split
  all_goals simp<;>omega
theorem ue_ {c:Con} (h:c.check=0) (hk:c.kind=5) {j:Nat} (y:2≤j) (B:j≤c.parts.length):(c.pre j).check=0:=by
 have q:=(check_zero h).1;have F:=fields q;have e:=F.mo;rw[hk]at e;simp[nd,eU_]at e
 rw[check_iff]at h ⊢
 have m:∀ (ps:List Con) (j:Nat),sz.szs (ps.take j)≤sz.szs ps∧dep.deps (ps.take j)≤dep.deps ps:=by
   intro ps
   induction ps with
   | nil=>intro j;simp
   | cons p ps ih =>
     intro j;cases j with
     | zero=>simp[sz.szs,dep.deps]
     | succ j=>have:=ih j;simp only[List.take_succ_cons,sz.szs,dep.deps];omega
 have x:=m c.parts j;have C:=qe_ c;have A:=sz_eq c;refine⟨?_,?_,?_⟩
 ·rw[qe_];show dep.deps (c.parts.take j)≤8;omega
 ·rw[sz_eq];show 1+sz.szs (c.parts.take j)≤64;omega
 rw[kH_];refine⟨?_,fun p v=>fine_part q (List.mem_of_mem_take v)⟩;unfold fieldErr;have d:(c.pre j).parts.length=j:=by show (c.parts.take j).length=j;simp;omega
 rw[if_neg (by show ¬ ((5:Int)<1∨7<(5:Int));omega)];simp only[d];have k:(c.pre j).kind=5:=rfl;rw[k];simp[nd,eU_,pre,name,lo,hi]
 omega
end Con
structure PQ (f:Int) (q:Pc):Prop where
  frm:q.frm=f
  sm:q.sm
  ok:q.valid=true
section
variable {f:Int} (h0:-1≤f) (h1:f<1024) {a b c r s t:Str} {lo hi:Int}
include h0 h1
theorem vi_ (d:bv_ a=true) (e:bv_ c=true):Pc.valid ⟨1,a,[],c,[],[],[],0,0,f⟩=true:=by
  unfold Pc.valid;rw[if_neg zH_];simp[nus,gQ_,cq_,d,e]
theorem val2 (d:bv_ a=true) (e:bv_ b=true) (h:bv_ c=true):Pc.valid ⟨2,a,b,c,[],[],[],0,0,f⟩=true:=by
  unfold Pc.valid;rw[if_neg zH_];simp[nus,gQ_,cq_,d,e,h]
theorem val3 (e:bv_ a=true) (d:cS_ r=true) (h:bv_ c=true):Pc.valid ⟨3,a,[],c,r,[],[],0,0,f⟩=true:=by
  unfold Pc.valid;rw[if_neg zH_];simp[nus,gQ_,cq_,e,d,h]
theorem val4 (e:bv_ a=true) (d:cS_ r=true) (h:bv_ c=true):Pc.valid ⟨4,a,[],c,r,[],[],0,0,f⟩=true:=by
  unfold Pc.valid;rw[if_neg zH_];simp[nus,gQ_,cq_,e,d,h]
theorem val5 (d:cS_ r=true) (e:cS_ t=true):Pc.valid ⟨5,[],[],[],r,[],t,0,0,f⟩=true:=by
  unfold Pc.valid;rw[if_neg zH_];simp[nus,gQ_,cq_,d,e]
theorem val6 (d:cS_ r=true) (h:cS_ s=true) (e:cS_ t=true):Pc.valid ⟨6,[],[],[],r,s,t,0,0,f⟩=true:=by
  unfold Pc.valid;rw[if_neg zH_];simp[nus,gQ_,cq_,d,h,e]
theorem val7 (d:cS_ r=true):Pc.valid ⟨7,[],[],[],r,[],[],0,0,f⟩=true:=by
  unfold Pc.valid;rw[if_neg zH_];simp[nus,gQ_,cq_,d]
theorem val8 (e:bv_ a=true) (d:ba_ r=true) (h:-1099511627776≤lo∧lo≤hi∧hi≤1099511627776):Pc.valid ⟨8,a,[],[],r,[],[],lo,hi,f⟩=true:=by
  unfold Pc.valid;rw[if_neg zH_,if_neg (by simp[nus,gQ_];omega)];simp[nus,gQ_,cq_,e,d]
theorem val9 (d:bv_ c=true) (e:ba_ r=true) (h:-1099511627776≤lo∧lo≤hi∧hi≤1099511627776):Pc.valid ⟨9,[],[],c,r,[],[],lo,hi,f⟩=true:=by
  unfold Pc.valid;rw[if_neg zH_,if_neg (by simp[nus,gQ_];omega)];simp[nus,gQ_,cq_,d,e]
end
theorem dH_ {Q:Pc→Prop} {f:Int} {l:List Pc} {p:Pc} (hl:∀ q∈l,Q q) (e:Q { p with frm:=f }):∀ q∈ins f l p,Q q:=by
 unfold ins
 split
 ·exact hl
 intro q d;rcases List.mem_append.1 d with d|d
 ·exact hl q d
 simp only[List.mem_singleton]at d;subst d;exact e
theorem dR_ {s:Str} (h:bx_ s=true):s.length≤24:=Con.plain_len h
theorem lh_ {s:Str} (h:ba_ s=true):s.length≤24:=by
 simp only[ba_,Bool.or_eq_true]at h;rcases h with h|h
 ·exact Con.plain_len h
 exact Con.reserved_len h
namespace Con
section
variable {f:Int} (h0:-1≤f) (h1:f<1024)
include h0 h1
theorem rO_ (c:Con) (e:c.ok) (h:c.check=0) (hk:c.kind=5):∀ (r:List Con) (j:Nat) (a:Str) (l:List Pc),1≤j→j+r.length≤c.parts.length→(∀ p∈r,p∈c.parts)→bv_ a=true→a.length≤7000→(∀ q∈l,PQ f q)→∀ q∈andP f c r j a l,PQ f q
  | [],_,_,l,_,_,_,_,_,hl=>hl
  | p::r,j,a,l,hj,hlen,hm,ha,hal,hl=>by
    simp only[List.length_cons]at hlen;have k:=hm p zC_;have d:=ue_ h hk (j:=j+1) zr_ zr_;have m:=atom_ok d;have v:=atom_len (pre_ok e (j+1)) d;have x:=atom_ok (check_part h k);have A:=atom_len (ok_part e k) (check_part h k);simp only[andP]
    exact rO_ c e h hk r (j+1) _ _ zr_ zr_ (fun q y=>hm q (by simp[y])) m v
      (dH_ hl ⟨rfl,⟨by dsimp only;omega,by dsimp only;omega,by dsimp only;omega,by simp,by simp,by simp⟩,val2 h0 h1 ha x m⟩)
theorem leftP_all:∀ (m:Nat) (c:Con),c.sz≤m→c.ok→c.check=0→∀ l,(∀ q∈l,PQ f q)→∀ q∈c.leftP f l,PQ f q
 | 0,c,h=>by have:=c.sz_pos;omega
 | m+1,c,h=>fun k x l hl=>by
   have C:∀ ps:List Con,(∀ p∈ps,p∈c.parts)→∀ l,(∀ q∈l,PQ f q)→∀ q∈leftP.lefts f ps l,PQ f q:=by
     intro ps
     induction ps with
     | nil=>intro _ l hl;exact hl
     | cons p ps ih =>
       intro y l hl;have e:=y p zC_;exact ih (fun q B=>y q (by simp[B])) _ (leftP_all m p (by have:=sz_part e;omega) (ok_part k e) (check_part x e) l hl)
   have hk:=C c.parts (fun _ h=>h) l hl;have F:=fields (check_zero x).1;have N:=names_of (check_zero x).1;have ca:=atom_ok x;have cl:=atom_len k x;rw[leftP_eq]
   split
   · rename_i H
     have d:=F.le;rw[H]at d;simp[nd,eU_]at d
     match y:c.parts,d with
     | [],d=>simp at d
     | p::r,_ =>
       have e:p∈c.parts:=by rw[y];simp
       have A:=atom_ok (check_part x e);have I:=atom_len (ok_part k e) (check_part x e);refine rO_ h0 h1 c k x H _ 1 _ _ zr_ (by rw[y];simp;omega) (fun q B=>by rw[y];exact List.mem_of_mem_drop B) zaE_ (by simpa using I) (by rw[y]at hk;exact hk)
   · split
     · rename_i G
       have d:=F.le;rw[G]at d;simp[nd,eU_]at d
       have v:=N.plain (.inr (.inl G))
       match y:c.parts,d with
       | [],d=>simp at d
       | p::r,_ =>
         have e:p∈c.parts:=by rw[y];simp
         have A:=atom_ok (check_part x e);have I:=atom_len (ok_part k e) (check_part x e);have J:=dR_ v;rw[y]at hk;exact dH_ hk ⟨rfl,⟨by simp;omega,by simp,by dsimp only;omega,by dsimp only;omega,by simp,by simp⟩,val4 h0 h1 zaE_ (dK_ v) ca⟩
     · split
       · rename_i E
         have v:=N.plain (.inr (.inr E));have J:=dR_ v;exact dH_ hl ⟨rfl,⟨by simp,by simp,by dsimp only;omega,by dsimp only;omega,by simp,by simp⟩,val9 h0 h1 ca (dv_ v) (N.nums E)⟩
       · exact hl
theorem rightP_all:∀ (m:Nat) (c:Con),c.sz≤m→c.ok→c.check=0→∀ l,(∀ q∈l,PQ f q)→∀ q∈c.rightP f l,PQ f q
 | 0,c,h=>by have:=c.sz_pos;omega
 | m+1,c,h=>fun e x l hl=>by
   have ca:=atom_ok x;have cl:=atom_len e x
   have E:∀ ps:List Con,(∀ p∈ps,p∈c.parts)→∀ l,(∀ q∈l,PQ f q)→∀ q∈rightP.rights f c.atom ps l,PQ f q:=by
     intro ps
     induction ps with
     | nil=>intro _ l hl;exact hl
     | cons p ps ih =>
       intro y l hl;have d:=y p zC_;have B:=atom_ok (check_part x d);have J:=atom_len (ok_part e d) (check_part x d)
       exact ih (fun q C=>y q (by simp[C])) _ (rightP_all m p (by have:=sz_part d;omega) (ok_part e d) (check_part x d) _
         (dH_ hl ⟨rfl,⟨by dsimp only;omega,by simp,by dsimp only;omega,by simp,by simp,by simp⟩,vi_ h0 h1 ca B⟩))
   have A:∀ ps:List Con,(∀ p∈ps,p∈c.parts)→∀ l,(∀ q∈l,PQ f q)→∀ q∈rightP.righty f ps l,PQ f q:=by
     intro ps
     induction ps with
     | nil=>intro _ l hl;exact hl
     | cons p ps ih =>
       intro y l hl;have d:=y p zC_;exact ih (fun q C=>y q (by simp[C])) _ (rightP_all m p (by have:=sz_part d;omega) (ok_part e d) (check_part x d) l hl)
   have F:=fields (check_zero x).1;have N:=names_of (check_zero x).1;rw[rightP_eq]
   split
   · exact E c.parts (fun _ h=>h) l hl
   · split
     · rename_i H
       have v:=F.le;rw[H]at v;simp[nd,eU_]at v
       have k:=N.plain (.inr (.inl H));have I:=dR_ k;refine A c.parts (fun _ h=>h) _ (dH_ hl ?_)
       match y:c.parts,v with
       | [],v=>simp at v
       | p::r,_ =>
         have d:p∈c.parts:=by rw[y];simp
         have B:=atom_ok (check_part x d);have J:=atom_len (ok_part e d) (check_part x d);exact⟨rfl,⟨by dsimp only;omega,by simp,by simp;omega,by dsimp only;omega,by simp,by simp⟩,val3 h0 h1 ca (dK_ k) (by simpa using B)⟩
     · split
       · rename_i G
         have k:=N.plain (.inr (.inr G));have I:=dR_ k;exact dH_ hl ⟨rfl,⟨by dsimp only;omega,by simp,by simp,by dsimp only;omega,by simp,by simp⟩,val8 h0 h1 ca (dv_ k) (N.nums G)⟩
       · exact hl
end
end Con
namespace Ax
section
variable {f:Int} (h0:-1≤f) (h1:f<1024)
include h0 h1
theorem on_ (role:Str) (B:bx_ role=true):∀ (A:List Str) (g:Str) (l:List Pc),(∀ r∈A,bx_ r=true)→(bp_ 46 g).length+A.length≤4→((bp_ 46 g).all ba_=true)→g.length≤100*(bp_ 46 g).length→(∀ q∈l,PQ f q)→∀ q∈chainP f role A g l,PQ f q
 | [],_,_,_,_,_,_,hl=>hl
 | r::t,g,l,hp,hn,hg,hgl,hl=>by
   have d:=hp r zC_;have G:=dR_ d;have F:=dR_ B;simp only[List.length_cons]at hn
   have x:cS_ g=true:=by
     unfold cS_;rw[decide_eq_true zr_];simp only[Bool.true_and,Bool.not_eq_true'];rw[List.any_eq_false];intro y C;simp[List.all_eq_true.1 hg y C]
   simp only[chainP]
   by_cases E:t=[]
   · subst E
     simp only[if_true,chainP];exact dH_ hl ⟨rfl,⟨by simp,by simp,by simp,by dsimp only;omega,by dsimp only;omega,by dsimp only;omega⟩,val6 h0 h1 x (dK_ d) (dK_ B)⟩
   · simp only[E,if_false]
     have I:0<t.length:=List.length_pos_iff.2 E;have e:=no_ 46 g r;rw[iK_ d]at e;have h:(bp_ 46 (g++[46]++r)).all ba_=true:=by rw[e,List.all_append,hg];simp[dv_ d]
     have k:(bp_ 46 (g++[46]++r)).length=(bp_ 46 g).length+1:=by rw[e];simp
     have m:(g++[46]++r).length≤100*(bp_ 46 (g++[46]++r)).length:=by rw[k];simp;omega
     have v:cS_ (g++[46]++r)=true:=by
       unfold cS_;rw[decide_eq_true zr_];simp only[Bool.true_and,Bool.not_eq_true'];rw[List.any_eq_false];intro y C;simp[List.all_eq_true.1 h y C]
     exact on_ role B t _ _ (fun q H=>hp q (by simp[H])) zr_ h m
       (dH_ hl ⟨rfl,⟨by simp,by simp,by simp,by dsimp only;omega,by dsimp only;omega,by dsimp only;omega⟩,val6 h0 h1 x (dK_ d) v⟩)
theorem pieces_all {x:Ax} (d:x.ok) (m:x.check=0):∀ q∈x.pieces f,PQ f q:=by
 have G:=good_of m;have L:=fun (c:Con) (d:c.ok) (m:c.check=0)=>Con.leftP_all h0 h1 _ c (Nat.le_refl _) d m
 have B:=fun (c:Con) (d:c.ok) (m:c.check=0)=>Con.rightP_all h0 h1 _ c (Nat.le_refl _) d m
 have n:∀ q∈([]:List Pc),PQ f q:=fun q E=>by cases E
 have K:=G.k1;have M:=G.k9;have A:=fun (c:Con) (d:c.ok) (m:c.check=0)=>(⟨Con.atom_ok m,Con.atom_len d m⟩:bv_ c.atom=true∧c.atom.length≤7000)
 unfold pieces
 split
 ·have l:=G.left zr_;have r:=G.right zr_
  have v:=A _ d.left l;have k:=A _ d.right r;exact dH_ (B _ d.right r _ (L _ d.left l _ n)) ⟨rfl,⟨by dsimp only;omega,by simp,by dsimp only;omega,by simp,by simp,by simp⟩,vi_ h0 h1 v.1 k.1⟩
 split
 ·have l:=G.left zr_;have r:=G.right zr_
  have v:=A _ d.left l;have k:=A _ d.right r;exact dH_ (B _ d.left l _ (L _ d.right r _ (dH_ (B _ d.right r _ (L _ d.left l _ n)) ⟨rfl,⟨by dsimp only;omega,by simp,by dsimp only;omega,by simp,by simp,by simp⟩,vi_ h0 h1 v.1 k.1⟩))) ⟨rfl,⟨by dsimp only;omega,by simp,by dsimp only;omega,by simp,by simp,by simp⟩,vi_ h0 h1 k.1 v.1⟩
 split
 ·have l:=G.left zr_;have r:=G.right zr_
  have v:=A _ d.left l;have k:=A _ d.right r;exact dH_ (L _ d.right r _ (L _ d.left l _ n)) ⟨rfl,⟨by dsimp only;omega,by dsimp only;omega,by simp,by simp,by simp,by simp⟩,val2 h0 h1 v.1 k.1 rfl⟩
 split
 ·have r:=G.right zr_;have k:=A _ d.right r;have p:=G.role zr_;have pl:=dR_ p
  exact dH_ (B _ d.right r _ n) ⟨rfl,⟨by simp,by simp,by dsimp only;omega,by dsimp only;omega,by simp,by simp⟩,val4 h0 h1 rfl (dK_ p) k.1⟩
 split
 ·rename_i I
  have p:=G.role zr_;have pl:=dR_ p;have H:=G.one I
  match hr:x.roles,H with
  | [r],_ =>
    have y:=G.roles r (by rw[hr];simp);have C:=dR_ y;exact dH_ n ⟨rfl,⟨by simp,by simp,by simp,by simp;omega,by simp,by dsimp only;omega⟩,val5 h0 h1 (by simpa using dK_ y) (dK_ p)⟩
 split
 ·rename_i J
  have p:=G.role zr_;have h:=G.chain J
  match hr:x.roles,h with
  | [],h=>simp at h
  | r::t,h =>
    have y:=G.roles r (by rw[hr];simp);have C:=dR_ y;have e:=iK_ y;simp only[List.length_cons]at h;simp only[List.drop_succ_cons,List.drop_zero,List.headD_cons];exact on_ h0 h1 x.role p t r [] (fun q E=>G.roles q (by rw[hr];simp[E])) (by rw[e];simp;omega) (by rw[e];simp[dv_ y]) (by rw[e];simp;omega) n
 split
 ·have p:=G.role zr_;have pl:=dR_ p
  exact dH_ n ⟨rfl,⟨by simp,by simp,by simp,by dsimp only;omega,by simp,by simp⟩,val7 h0 h1 (dK_ p)⟩
 split
 ·have r:=G.right zr_;have k:=A _ d.right r;have p:=G.a zr_;have pl:=lh_ p
  exact dH_ (B _ d.right r _ n) ⟨rfl,⟨by simp;omega,by simp,by dsimp only;omega,by simp,by simp,by simp⟩,vi_ h0 h1 (kS_ p) k.1⟩
 have p:=G.role zr_;have pl:=dR_ p;have F:=G.a zr_;have pb:=G.b zr_;have N:=lh_ F;have O:=lh_ pb;exact dH_ n ⟨rfl,⟨by simp;omega,by simp,by simp;omega,by dsimp only;omega,by simp,by simp⟩,val3 h0 h1 (kS_ F) (dK_ p) (kS_ pb)⟩
end
end Ax
def shift (k:Int) (p:Pc):Pc:={ p with frm:=p.frm+k }
theorem tW_ {k:Int} {p q:Pc} (h:shift k p=shift k q):p=q:=by
  cases p;cases q;simp only[shift,Pc.mk.injEq]at h ⊢;refine⟨h.1,h.2.1,h.2.2.1,h.2.2.2.1,h.2.2.2.2.1,h.2.2.2.2.2.1,h.2.2.2.2.2.2.1,h.2.2.2.2.2.2.2.1,h.2.2.2.2.2.2.2.2.1,by omega⟩
theorem cz_ (f k:Int) (l:List Pc) (p:Pc):ins (f+k) (l.map (shift k)) p=(ins f l p).map (shift k):=by
 have hm:({ p with frm:=f+k }:Pc)∈l.map (shift k)↔({ p with frm:=f }:Pc)∈l:=by
   rw[List.mem_map];constructor
   · rintro ⟨q,d,e⟩
     have:q={ p with frm:=f }:=tW_ (k:=k) e;exact this▸d
   · exact fun h=>⟨_,h,rfl⟩
 unfold ins
 by_cases h:({ p with frm:=f }:Pc)∈l
 ·rw[if_pos (hm.2 h),if_pos h]
 rw[if_neg (fun q=>h (hm.1 q)),if_neg h,List.map_append];rfl
namespace Con
theorem os_ (f k:Int) (c:Con):∀ (r:List Con) (j:Nat) (a:Str) (l:List Pc),andP (f+k) c r j a (l.map (shift k))=(andP f c r j a l).map (shift k)
  | [],_,_,_=>rfl
  | p::r,j,a,l=>by simp only[andP,cz_];exact os_ f k c r (j+1) _ _
theorem leftP_shift (f k:Int):∀ (m:Nat) (c:Con),c.sz≤m→∀ l,c.leftP (f+k) (l.map (shift k))=(c.leftP f l).map (shift k)
 | 0,c,h=>by have:=c.sz_pos;omega
 | m+1,c,h=>fun l=>by
   have e:∀ ps:List Con,(∀ p∈ps,p.sz≤m)→∀ l,leftP.lefts (f+k) ps (l.map (shift k))=(leftP.lefts f ps l).map (shift k):=by
     intro ps
     induction ps with
     | nil=>intro _ l;rfl
     | cons p ps ih =>
       intro d l;simp only[leftP.lefts];rw[leftP_shift f k m p (d p zC_) l];exact ih (fun q v=>d q (by simp[v])) _
   have hk:=e c.parts (fun p d=>by have:=sz_part d;omega) l;rw[leftP_eq,leftP_eq,hk]
   split
   · exact os_ _ _ _ _ _ _ _
   · split
     · exact cz_ _ _ _ _
     · split
       · exact cz_ _ _ _ _
       · rfl
theorem rightP_shift (f k:Int):∀ (m:Nat) (c:Con),c.sz≤m→∀ l,c.rightP (f+k) (l.map (shift k))=(c.rightP f l).map (shift k)
 | 0,c,h=>by have:=c.sz_pos;omega
 | m+1,c,h=>fun l=>by
   have y:∀ ps:List Con,(∀ p∈ps,p.sz≤m)→∀ a l,rightP.rights (f+k) a ps (l.map (shift k))=(rightP.rights f a ps l).map (shift k):=by
     intro ps
     induction ps with
     | nil=>intro _ a l;rfl
     | cons p ps ih =>
       intro d a l;simp only[rightP.rights];rw[cz_,rightP_shift f k m p (d p zC_)];exact ih (fun q x=>d q (by simp[x])) _ _
   have e:∀ ps:List Con,(∀ p∈ps,p.sz≤m)→∀ l,rightP.righty (f+k) ps (l.map (shift k))=(rightP.righty f ps l).map (shift k):=by
     intro ps
     induction ps with
     | nil=>intro _ l;rfl
     | cons p ps ih =>
       intro d l;simp only[rightP.righty];rw[rightP_shift f k m p (d p zC_)];exact ih (fun q x=>d q (by simp[x])) _
   have v:∀ p∈c.parts,p.sz≤m:=fun p d=>by have:=sz_part d;omega
   rw[rightP_eq,rightP_eq]
   split
   · exact y c.parts v _ l
   · split
     · rw[cz_];exact e c.parts v _
     · split
       · exact cz_ _ _ _ _
       · rfl
end Con
theorem Ax.chainP_shift (f k:Int) (ro:Str):∀ (d:List Str) (g:Str) (l:List Pc),Ax.chainP (f+k) ro d g (l.map (shift k))=(Ax.chainP f ro d g l).map (shift k)
  | [],_,_=>rfl
  | r::t,g,l=>by simp only[Ax.chainP,cz_];exact Ax.chainP_shift f k ro t _ _
theorem Ax.pieces_shift (f k:Int) (x:Ax):x.pieces (f+k)=(x.pieces f).map (shift k):=by
 have L:=fun (c:Con) l=>Con.leftP_shift f k _ c (Nat.le_refl _) l
 have d:=fun (c:Con) l=>Con.rightP_shift f k _ c (Nat.le_refl _) l
 have n:([]:List Pc)=([]:List Pc).map (shift k):=rfl;unfold Ax.pieces
 repeat' split
 ·rw[n,L,d,cz_];rfl
 ·rw[n,L,d,cz_,L,d,cz_];rfl
 ·rw[n,L,L,cz_];rfl
 ·rw[n,d,cz_];rfl
 ·rw[n,cz_];rfl
 ·rw[n,Ax.chainP_shift];rfl
 ·rw[n,cz_];rfl
 ·rw[n,d,cz_];rfl
 rw[n,cz_];rfl
def cr_:Nat→List Ax→List Pc
  | _,[]=>[]
  | i,x::l=>x.pieces (i:Int)++cr_ (i+1) l
theorem kG_:∀ (i:Nat) (l:List Ax),(∀ x∈l,x.check=0)→(cr_ i l).length≤1000*l.length
  | _,[],_=>by simp[cr_]
  | i,x::l,h=>by
    have h1:=jM_ (i:Int) (Ax.good_of (h x zC_));have e:=kG_ (i+1) l fun y d=>h y zah_
    simp only[cr_,List.length_append,List.length_cons];omega
theorem pk_:∀ (l:List Ax) (i:Nat) (p:List Pc),(∀ x∈l,x.check=0)→p.length+1000*l.length≤16384→hO_ i l p=some (p++cr_ i l)
  | [],i,p,_,_=>by simp[hO_,cr_]
  | x::l,i,p,h,hl=>by
    have h1:=jM_ (i:Int) (Ax.good_of (h x zC_));simp only[List.length_cons]at hl;simp only[hO_,cr_];rw[if_neg zH_,pk_ l (i+1) _ (fun y d=>h y zah_) zH_,List.append_assoc]
theorem of_:∀ (l:List Ax) (i:Nat),i+l.length≤1024→(∀ x∈l,x.ok)→(∀ x∈l,x.check=0)→∀ q∈cr_ i l,(i:Int)≤q.frm∧q.frm<((i+l.length:Nat):Int)∧q.sm∧q.valid=true
 | [],_,_,_,_=>by simp[cr_]
 | x::l,i,hi,hok,hc=>by
   simp only[List.length_cons]at hi ⊢;intro q d;simp only[cr_]at d;rcases List.mem_append.1 d with d|d
   · have h:=Ax.pieces_all (f:=(i:Int)) zr_ zr_ (hok x zC_) (hc x zC_) q d
     exact⟨by rw[h.frm];omega,by rw[h.frm];omega,h.sm,h.ok⟩
   · have h:=of_ l (i+1) zr_ (fun y e=>hok y (by simp[e])) (fun y e=>hc y (by simp[e])) q d
     exact⟨by omega,by omega,h.2.2⟩
theorem sm_ {l:List Ax} (hl:l.length≤12) (h:∀ x∈l,x.check=0):bO_ l=(cr_ 0 l,0):=by
  unfold bO_;rw[if_neg zr_,if_neg (by simp[fK_ h]),pk_ l 0 [] h zH_];simp
end Go.Vs
namespace Go.Sx
open Go
section
variable {P:Program} {N:Nf} {fr:Fr} {H:Hp} {Γ:List Fct}
theorem kQ_:∀ (x y:List UInt8),Op.bytesLess x y=decide (x<y)
  | [],[]=>by simp[Op.bytesLess]
  | _::_,[]=>by simp[Op.bytesLess]
  | [],_::_=>by simp[Op.bytesLess]
  | a::x,b::y=>by
    rw[Op.bytesLess,kQ_ x y];simp only[List.cons_lt_cons_iff]
    by_cases d:a<b<;>by_cases h:a=b<;>by_cases e:x<y<;>simp[d,h,e]
theorem yM_ (x y:List UInt8):(Op.bytesLess x y||x==y)=decide (x≤y):=by
 rw[kQ_]
 by_cases h:x≤y
 ·rw[decide_eq_true h]
  by_cases e:x=y
  ·simp[e]
  have:x<y:=by
    apply Decidable.byContradiction
    intro d;exact e (List.le_antisymm h (List.not_lt.1 d))
  simp[this]
 rw[decide_eq_false h];have k:¬ x<y:=fun q=>h (List.le_of_lt q)
 have d:x≠y:=fun e=>h (e▸List.le_refl x)
 simp[k,d]
theorem eB_ {t h ty:TypeId} {x y:Operand} {m n:List UInt8} (k:Fr.ev fr x=some (str m)) (e:Fr.ev fr y=some (str n)):Yld P N fr H Γ (.binOp .lss t x y h) ty (.bool (decide (m<n))) :=
  fun a v d _ _ _ _ _=>by rw[← kQ_];simp[execOp,d.ev k,d.ev e,str,eqGuard,binOp,Op.stringOp]
theorem jI_ {f:FuncId} {args:Array Value} {r:Value} {g:Nat} {cur:Array Value} {T:TypeId} {d:Array (List UInt8)} (I:hu_ P f)
    (h:∀ v:Vw,v.sat [(g,.cells cur T (0,0))]→Calls P f args v.w fun e w'=>e=.returned r∧∃ n os,w'=Sort.grow (Sort.putRow Go.Proofs.encStr (Sort.ahead v.w n) g 0 d) os) :
    Tri P f args [(g,.cells cur T (0,0))] Γ (fun _:Unit=>r) (fun _=>[(g,.cells (Sort.putCells Go.Proofs.encStr 0 d cur) T (0,0))]) (fun _=>[]) :=
  ⟨I,fun v A _=>(h v A).mono fun e w' ⟨G,n,os,m⟩=>by
    have E:=(A.own _ List.mem_cons_self);have B:g<v.w.heap.size:=(Array.getElem?_eq_some_iff.1 E.1).1
    have y:∀ b,b<v.w.heap.size→w'.heap[b]? = if b=g then some (.cells (Sort.putCells Go.Proofs.encStr 0 d cur) T (0,0)) else v.w.heap[b]? := fun b y=>by
      rw[m];simp only[Sort.grow,Sort.putRow,Sort.mapBlock,Sort.ahead];rw[Array.getElem?_append_left zaW_,Array.getElem?_modify]
      by_cases e:b=g
      · subst e
        simp only[if_true,E.1,Option.map_some,Sort.onCells]
      · rw[if_neg (fun q=>e q.symm),if_neg e]
    have x:v.w.heap.size≤w'.heap.size:=by rw[m];simp[Sort.grow,Sort.putRow,Sort.mapBlock,Sort.ahead]
    refine⟨(),⟨v.im,w',v.sl⟩,G,rfl,⟨fun p F=>?_,by simp,fun b k=>Nat.lt_of_lt_of_le (A.lt b k) x⟩,trivial,⟨by rw[m];rfl,by rw[m];rfl,by rw[m];rfl,x,fun b k J=>?_,fun _ h=>h,fun _ h=>.inl h,fun b hm=>.inl (by simpa using hm),rfl,.inr (by rw[m];exact Nat.le_add_right _ _)⟩⟩
    · simp only[List.mem_singleton]at F
      subst F;exact⟨by show w'.heap[g]? = _;rw[y g B,if_pos rfl],E.2⟩
    · have C:b≠g:=by simpa using J
      show w'.heap[b]? = _
      rw[y b k,if_neg C]⟩
theorem nw_ {cur:Array Value} {d:List (List UInt8)} (h:d.length≤cur.size):(Sort.putCells Go.Proofs.encStr 0 d.toArray cur).toList.take d.length=d.flatMap ap_:=by
 rw[nj_]
 apply List.ext_getElem?
 intro j;rw[List.getElem?_take,List.getElem?_map]
 split
 ·rename_i e
  simp only[Sort.putCells,Array.getElem?_toList,Array.getElem?_mapIdx];rw[Array.getElem?_eq_getElem zr_];simp only[Option.map_some,Nat.zero_le,true_and,Nat.zero_add,List.size_toArray,e,if_true,Nat.sub_zero];rw[List.getElem?_eq_getElem e];simp only[Option.map_some];rw[getElem!_pos d.toArray j zak_];rfl
 rename_i e
 rw[List.getElem?_eq_none zr_];rfl
theorem nx_ {cur:Array Value} {d:Array (List UInt8)}:(Sort.putCells Go.Proofs.encStr 0 d cur).size=cur.size:=by simp[Sort.putCells]
end
end Go.Sx
namespace Go.Vs
open Go Go.Sx
def lt_ (p:Pc):List Str:=[p.a,p.b,p.c].filter fun s=>!(s==[])
def dj_ (l:List Pc):List Str:=l.flatMap lt_
def eO_ (l:List Pc):List Str:=Lib.compact ((dj_ l).mergeSort fun x y=>decide (x≤y))
theorem jW_:∀ l:List Pc,(dj_ l).length≤3*l.length
  | []=>by simp[dj_]
  | p::r=>by
    have d:=jW_ r;have e:(lt_ p).length≤3:=by unfold lt_;exact List.length_filter_le _ _
    simp only[dj_,List.flatMap_cons,List.length_append,List.length_cons]at d ⊢;omega
theorem gs_ (l:List Str):(l.mergeSort fun x y=>decide (x≤y)).Pairwise fun x y=>x≤y:=by
  have h:=List.pairwise_mergeSort (le:=fun x y:Str=>decide (x≤y)) (fun a b c d e=>by simp only[decide_eq_true_eq]at *;exact List.le_trans d e) (fun a b=>by
    simp only[Bool.or_eq_true,decide_eq_true_eq];exact List.le_total a b) l
  exact h.imp (fun h=>of_decide_eq_true h)
theorem iY_ {d:List Str}:Lib.compact d=((List.range d.length).filter fun j=>decide (j=0∨d[j]! ≠ d[j - 1]!)).map fun j=>d[j]! := by
 unfold Lib.compact Lib.compactUpTo Lib.keeps
 have e:∀ j,d.toArray[j]! = d[j]! := fun j=>by
   by_cases h:j<d.length
   · rw[getElem!_pos d.toArray j zag_,getElem!_pos d j h];simp
   · rw[getElem!_neg d.toArray j zag_,getElem!_neg d j h]
 rw[List.map_congr_left fun j _=>e j]
 congr 2
 funext j
 rw[e,e]
theorem gU_ (d:List Str):(Lib.compact d).length≤d.length:=by
  rw[iY_,List.length_map];have:=List.length_filter_le (fun j=>decide (j=0∨d[j]! ≠ d[j - 1]!)) (List.range d.length);simpa using this
theorem iX_ {d:List Str} (x:Str):x∈Lib.compact d↔x∈d:=by
 rw[iY_,List.mem_map];constructor
 ·rintro ⟨j,k,rfl⟩
  have hl:=List.mem_range.1 (List.mem_filter.1 k).1;rw[getElem!_pos d j hl];exact List.getElem_mem hl
 intro q;obtain⟨j,k,e⟩:=List.mem_iff_getElem.1 q;clear q
 induction j with
 | zero=>exact⟨0,List.mem_filter.2 ⟨List.mem_range.2 k,by simp⟩,by rw[getElem!_pos d 0 k];exact e⟩
 | succ j ih =>
   by_cases h:d[j+1]! = d[j]!
   · have m:j<d.length:=by omega
     refine ih m ?_;rw[getElem!_pos d (j+1) k,getElem!_pos d j m]at h;rw[← h];exact e
   · exact⟨j+1,List.mem_filter.2 ⟨List.mem_range.2 k,decide_eq_true (.inr h)⟩,by rw[getElem!_pos d (j+1) k];exact e⟩
theorem hV_ {d:List Str} (G:d.Pairwise fun x y=>x≤y):(Lib.compact d).Pairwise fun x y=>x<y:=by
 rw[iY_,List.pairwise_map];have I:(List.range d.length).Pairwise (·<·):=List.pairwise_lt_range;have J:=I.filter (fun j=>decide (j=0∨d[j]! ≠ d[j - 1]!));refine List.Pairwise.imp_of_mem ?_ J;intro j k L hk F;have v:=List.mem_range.1 (List.mem_filter.1 hk).1;have m:=(List.mem_filter.1 hk).2;simp only[decide_eq_true_eq]at m
 have A:d[k]! ≠ d[k - 1]! := by
   rcases m with h|h
   · omega
   · exact h
 have e:∀ a b,a≤b→b<d.length→d[a]! ≤ d[b]! := by
   intro a b q B;rcases Nat.lt_or_eq_of_le q with h|h
   · rw[getElem!_pos d a zr_,getElem!_pos d b B]
     exact List.pairwise_iff_getElem.1 G a b zr_ B h
   · subst h;exact List.le_refl _
 have C:=e j (k - 1) zr_ zr_;have E:=e (k - 1) k zr_ v
 have K:d[k - 1]! < d[k]! := by
   apply Decidable.byContradiction
   intro h;exact A (List.le_antisymm (List.not_lt.1 h) E)
 exact List.lt_of_le_of_lt C K
theorem fH_ (l:List Pc) (x:Str):x∈eO_ l↔x∈dj_ l:=by
  unfold eO_;rw[iX_,List.mem_mergeSort]
theorem fI_ (l:List Pc):(eO_ l).length≤3*l.length:=by
  have d:=gU_ ((dj_ l).mergeSort fun x y=>decide (x≤y));rw[List.length_mergeSort]at d;have e:=jW_ l;unfold eO_;omega
end Go.Vs
namespace Go.Proofs.YtpbnmnfdgckaiaaGreatDoor
open Go Go.Sx Go.Proofs
attribute [local irreducible] Code.wp wpList wpAnyH
open Go.Vs
theorem eltS:Elt Tryz.prog 25 9 1 16:=iV_ iy_ (z:=.string ⟨#[]⟩) zw_ rfl zx_
theorem ln_ {g n cap:Nat} {cur:Array Value} {d:List Str} {v:Vw} (k:v.sat [(g,.cells cur 9 (0,0))]) (m:cur.toList.take (d.length*1)=d.flatMap ap_):Sort.Holds encStr v.w g 0 d.toArray:=by
 intro j e;have h:=(k.own _ List.mem_cons_self).1;simp only[List.size_toArray]at e;have q:cur[j]? = some (str d[j]):=oL_ m j d[j] (List.getElem?_eq_getElem e);refine⟨?_,?_⟩
 ·simp only[World.cell?,Nat.zero_add,h,Option.isSome_none,Bool.false_eq_true,if_false]
  rw[q,getElem!_pos d.toArray j zak_];rfl
 simp[World.frozen?,h]
theorem mH_ {sv:Value} {k:List Str} {Hr:Hp} (h:aB_ 9 1 sv k.length (k.flatMap ap_) Hr) (hl:k.length≤1000000000000) :
    Tri Tryz.prog 95 #[sv] Hr [] (fun _:{y:Hp // aB_ 9 1 sv k.length ((k.mergeSort fun x y=>decide (x≤y)).flatMap ap_) y}=>.tuple #[]) (fun y=>y.1) (fun _=>[]):=by
  rcases h.2 with⟨rfl,J,rfl⟩|⟨g,cap,cur,rfl,rfl,L,G,F,K⟩
  · obtain rfl:k=[]:=List.eq_nil_of_length_eq_zero J
    have T:=dh_ (P:=Tryz.prog) (H:=[]) (Γ:=[]) (callable Tryz.func95 rfl rfl) (fun v _ _=>(Tryz.slices_Sort_string_none none 0 v.w).mono zD_);exact⟨T.callable,fun v a b=>(T.run v a b).mono (by rintro e w' ⟨x,I,B,m,E,A,q⟩;exact⟨⟨[],by simpa using aB_.nil _ _⟩,I,B,m,E,A,q⟩)⟩
  · have T:=jI_ (P:=Tryz.prog) (Γ:=[]) (d:=(k.mergeSort fun x y=>decide (x≤y)).toArray) (callable Tryz.func95 rfl rfl) (fun v M=>Tryz.slices_Sort_string g 0 cap k v.w (ln_ (n:=0) (cap:=0) M K) (Array.getElem?_eq_some_iff.1 (M.own _ List.mem_cons_self).1).1 zr_)
    have C:(k.mergeSort fun x y=>decide (x≤y)).length=k.length:=List.length_mergeSort _;refine⟨T.callable,fun v a b=>(T.run v a b).mono ?_⟩;rintro e w' ⟨x,I,B,m,E,A,q⟩;refine⟨⟨_,by rw[br_ ap_ 1 aw_,C],.inr ⟨g,cap,_,rfl,rfl,L,G,by rw[nx_];exact F,?_⟩⟩,I,B,m,E,A,q⟩;have:=nw_ (cur:=cur) (d:=k.mergeSort fun x y=>decide (x≤y)) (by rw[C,F];omega);rw[C]at this;rw[Nat.mul_one];exact this
theorem jV_ {sv:Value} {k:List Str} {Hr:Hp} (h:aB_ 9 1 sv k.length (k.flatMap ap_) Hr) (hl:k.length≤1000000000000) :
    Tri Tryz.prog 117 #[sv] Hr [] (fun y:{y:Value×Hp // aB_ 9 1 y.1 (Lib.compact k).length ((Lib.compact k).flatMap ap_) y.2}=>y.1.1) (fun y=>y.1.2) (fun _=>[]):=by
  rcases h.2 with⟨rfl,L,rfl⟩|⟨g,cap,cur,rfl,rfl,N,I,G,K⟩
  · obtain rfl:k=[]:=List.eq_nil_of_length_eq_zero L
    have T:=dh_ (P:=Tryz.prog) (H:=[]) (Γ:=[]) (callable Tryz.func117 rfl rfl) (fun v _ _=>(Tryz.slices_Compact_string_empty none 0 v.w).mono zD_);exact⟨T.callable,fun v a b=>(T.run v a b).mono (by rintro e w' ⟨x,J,A,B,E,m,C⟩;exact⟨⟨(.slice none 0 0,[]),by simpa [Lib.compact,Lib.compactUpTo] using aB_.nil _ _⟩,J,A,B,E,m,C⟩)⟩
  · have M:=gU_ k
    have T:=jI_ (P:=Tryz.prog) (Γ:=[]) (r:=.slice (some ⟨g,0,none⟩) (Lib.compact k).length cap) (d:=(Lib.compact k++List.replicate (k.length - (Lib.compact k).length) []).toArray) (callable Tryz.func117 rfl rfl) (fun v Q=>(Tryz.slices_Compact_string g 0 cap k v.w (ln_ (n:=0) (cap:=0) Q K) zr_ N).mono (by
      rintro e w' ⟨rfl,q,rfl⟩;exact⟨rfl,q,#[],by rw[Sort.grow_empty]⟩))
    refine⟨T.callable,fun v a b=>(T.run v a b).mono ?_⟩;rintro e w' ⟨x,J,A,B,E,m,C⟩;refine⟨⟨(.slice (some ⟨g,0,none⟩) (Lib.compact k).length cap,_),by rw[br_ ap_ 1 aw_],.inr ⟨g,cap,_,rfl,rfl,by omega,I,by rw[nx_];exact G,?_⟩⟩,J,A,B,E,m,C⟩;have O:(Lib.compact k++List.replicate (k.length - (Lib.compact k).length) ([]:Str)).length=k.length:=by simp;omega
    have:=nw_ (cur:=cur) (d:=Lib.compact k++List.replicate (k.length - (Lib.compact k).length) []) (by rw[O,G];omega);rw[O]at this;have F:=congrArg (List.take (Lib.compact k).length) this;rw[List.take_take,Nat.min_eq_left M,List.flatMap_append,List.take_append_of_le_length (by rw[br_ ap_ 1 aw_];omega),List.take_of_length_le (l:=(Lib.compact k).flatMap ap_) (by rw[br_ ap_ 1 aw_];omega)]at F;rw[Nat.mul_one];exact F
theorem yQ_ (l:List Pc) (ad:Option Addr) (cap:Nat) (hl:l.length≤100000000000):Tri Tryz.prog 116 #[.slice ad (List.length l) cap] [] [V_ ad (List.flatMap Pc.cells l)] (fun y:{y:Option Addr×Nat // (eO_ l).length≤y.2∧y.2≤maxLen}=>.slice y.1.1 (eO_ l).length y.1.2) (fun _=>[]) (fun y=>[V_ y.1.1 ((eO_ l).flatMap ap_)]):=by
 refine j_ Tryz.func116 rfl rfl Tryz.ntmps116 rfl fun v_1=>?_;refine Zz 14 ?_;refine bC_ [(2,.slice none 0 0),(7,.slice ad (List.length l) cap),(8,.int .i64 (List.length l:Int)),(9,.int .i64 ((0:Nat):Int))] zl ?_;refine cc_ (ι:={y:Nat×Value×Hp // y.1≤l.length∧aB_ 9 1 y.2.1 (dj_ (l.take y.1)).length ((dj_ (l.take y.1)).flatMap ap_) y.2.2}) (fun y=>[(2,y.1.2.1),(7,.slice ad (List.length l) cap),(8,.int .i64 (List.length l:Int)),(9,.int .i64 (y.1.1:Int))]) (fun y=>y.1.2.2) (fun _=>_) (fun y=>l.length - y.1.1) ⟨(0,.slice none 0 0,[]),by simp,aB_.nil _ _⟩ ?_;rintro ⟨⟨i,sv,Hr⟩,hi,q⟩;dsimp only at hi q;dsimp only;have Q:=jW_ (l.take i);rw[List.length_take]at Q;refine bC_ [(2,sv),(7,.slice ad (List.length l) cap),(8,.int .i64 (List.length l:Int)),(9,.int .i64 (i:Int))] zl ?_;refine Zi 2 (fun M=>?_) fun M=>?_
 ·refine Zz 7 ?_
  have et:l.take i=l:=List.take_of_length_le zr_;rw[et]at q Q;refine Zz 2 ?_;refine i_ (mH_ q zr_) rfl ah_ zt rfl fun⟨Hs,Y⟩=>?_;dsimp only;refine u_ (List.Perm.symm ah_) ?_;have O:aB_ 9 1 sv ((dj_ l).mergeSort fun x y=>decide (x≤y)).length (((dj_ l).mergeSort fun x y=>decide (x≤y)).flatMap ap_) Hs:=by rw[List.length_mergeSort];exact Y
  refine Zz 5 ?_;refine i_ (jV_ O (by rw[List.length_mergeSort];omega)) rfl ah_ zt rfl fun⟨⟨sc,Hc⟩,Z⟩=>?_;dsimp only;refine u_ (List.Perm.symm ah_) (Zz 4 ?_);refine jO_ Z ah_ fun R N S G J=>?_;exact af_ Tryz.results116 ⟨(R,N),G,J⟩ (gh_ rfl S) l_ zf
 obtain⟨E,d,L,W⟩:=zge (show i<List.length l by omega);refine Zz 12 ?_;refine D_ W_ rfl fun b_1=>x_ 0 J_ rfl rfl rfl rfl rfl rfl (Zz 10 ?_)
 refine R_ m_ H_ aK_ rfl rfl rfl rfl rfl rfl fun B=>?_;refine bu_ (List.flatMap ap_ [d.a,d.b,d.c]) d_ rfl ?_;refine Zz 5 ?_;refine bC_ [(2,sv),(7,.slice ad (List.length l) cap),(8,.int .i64 (List.length l:Int)),(9,.int .i64 (i:Int)),(19,.slice (some ⟨B,0,none⟩) (List.length [d.a,d.b,d.c]) 3),(20,.int .i64 3),(21,.int .i64 ((0:Nat):Int))] zl ?_;refine cc_ (ι:={y:Nat×Value×Hp // y.1≤3∧aB_ 9 1 y.2.1 (dj_ (l.take i)++(List.take y.1 [d.a,d.b,d.c]).filter fun s=>!(s==[])).length ((dj_ (l.take i)++(List.take y.1 [d.a,d.b,d.c]).filter fun s=>!(s==[])).flatMap ap_) y.2.2}) (fun y=>[(2,y.1.2.1),(7,.slice ad (List.length l) cap),(8,.int .i64 (List.length l:Int)),(9,.int .i64 (i:Int)),(19,.slice (some ⟨B,0,none⟩) (List.length [d.a,d.b,d.c]) 3),(20,.int .i64 3),(21,.int .i64 (y.1.1:Int))]) (fun y=>_:: y.1.2.2) (fun _=>_) (fun y=>3 - y.1.1) ⟨(0,sv,Hr),by simp,by simpa using q⟩ ?_;rintro ⟨⟨k,V,X⟩,hk,C⟩;dsimp only at hk C;dsimp only
 have hfl:((dj_ (l.take i)++(List.take k [d.a,d.b,d.c]).filter fun s=>!(s==[]))).length≤(dj_ (l.take i)).length+3:=by
   have:=List.length_filter_le (fun s=>!(s==[])) (List.take k [d.a,d.b,d.c]);simp only[List.length_append,List.length_take,List.length_cons,List.length_nil]at this ⊢;omega
 refine bC_ [(2,V),(7,.slice ad (List.length l) cap),(8,.int .i64 (List.length l:Int)),(9,.int .i64 (i:Int)),(19,.slice (some ⟨B,0,none⟩) (List.length [d.a,d.b,d.c]) 3),(20,.int .i64 3),(21,.int .i64 (k:Int))] zl ?_;refine Zi 2 (fun I=>?_) fun I=>?_
 ·refine Zz 11 ?_
  have m:dj_ (l.take (i+1))=dj_ (l.take i)++lt_ d:=by unfold dj_;rw[List.take_add_one,L,List.flatMap_append];simp
  exact y_ ⟨(i+1,V,X),E,by dsimp only;rw[m];have:=C;rw[List.take_of_length_le (show [d.a,d.b,d.c].length≤k by simp;omega)]at this;exact this⟩ zu_ zl (c_ ah_) (fun _ _ h=>h.2)
 have F:k<List.length [d.a,d.b,d.c]:=by simp;omega
 obtain⟨e,v⟩:∃ T,[d.a,d.b,d.c][k]? = some T:=⟨_,List.getElem?_eq_getElem F⟩;have U:e∈[d.a,d.b,d.c]:=List.mem_of_getElem? v;refine Zz 11 ?_;refine e_ (bt_ (ad:=(some ⟨B,0,none⟩)) ab_ rfl zf (p_ aw_ v 0 _ rfl)) rfl (Zi 6 (fun P=>?_) fun P=>?_)
 ·refine Zz 10 ?_
  have m:(dj_ (l.take i)++(List.take (k+1) [d.a,d.b,d.c]).filter fun s=>!(s==[]))=(dj_ (l.take i)++(List.take k [d.a,d.b,d.c]).filter fun s=>!(s==[]))++[e].filter (fun s=>!(s==[])):=by rw[List.append_assoc,← List.filter_append,List.take_add_one,v];simp
  rw[show [e].filter (fun s=>!(s==[]))=[] by simp[*],List.append_nil]at m;exact y_ ⟨(k+1,V,X),by dsimp only;omega,by dsimp only;rw[m];exact C⟩ zu_ zl zp zh
 refine Zz 6 ?_;refine R_ m_ H_ aK_ rfl rfl rfl rfl rfl rfl fun b_3=>?_;refine ay_ (news:=[str e]) eltS C rfl rfl zp rfl (be_ 0 rfl) (kz_ rfl) zG_ zr_ rfl fun H K A=>?_;refine u_ (@List.perm_append_comm _ _ [_,_]) (Zz 8 ?_);have m:(dj_ (l.take i)++(List.take (k+1) [d.a,d.b,d.c]).filter fun s=>!(s==[]))=(dj_ (l.take i)++(List.take k [d.a,d.b,d.c]).filter fun s=>!(s==[]))++[e].filter (fun s=>!(s==[])):=by rw[List.append_assoc,← List.filter_append,List.take_add_one,v];simp
 rw[show [e].filter (fun s=>!(s==[]))=[e] by simp[*]]at m;exact y_ ⟨(k+1,H,K),by dsimp only;omega,by dsimp only;rw[m];rw[List.length_append (bs:=[e]),List.flatMap_append (ys:=[e])];exact A⟩ zu_ zl (f_ (c_ d_) (c_ ah_)) zh
end Go.Proofs.YtpbnmnfdgckaiaaGreatDoor
namespace Go.Sx
open Go
section
variable {P:Program} {N:Nf} {v0:Vw} {H0:Hp} {R:Exit→Act→World→Prop} {K:List Kt} {fr:Fr} {H:Hp} {Γ:List Fct}
variable {ops:Array Oper} {l:List Oper} {d:Nat} {ty:TypeId} {ps:String} {af:Array Edge}
end
end Go.Sx
namespace Go.Vs
open Go Go.Sx
theorem sh_ {α:Type} {R:α→α→Prop} {l:List α} (h:l.Pairwise R) {i j:Nat} {x y:α} (q:l[i]? = some x) (k:l[j]? = some y) (e:i<j):R x y:=by
  obtain⟨hi,rfl⟩:=List.getElem?_eq_some_iff.1 q;obtain⟨m,rfl⟩:=List.getElem?_eq_some_iff.1 k;exact List.pairwise_iff_getElem.1 h i j hi m e
def Cov (hs:List Bool) (L S:List Str):Prop:=hs.length=L.length∧∀ (n:Nat) (s:Str),L[n]? = some s→s∈S→hs[n]? = some true
def three (p:Pc):List Str:=[p.a,p.b,p.c]
theorem Cov.all {e:List Bool} {l:List Pc} (h:Cov e (eO_ l) (l.flatMap three)) {n:Nat} (k:n<(eO_ l).length):e[n]? = some true:=by
  have hm:=(fH_ l _).1 (List.getElem_mem k);refine h.2 n _ (List.getElem?_eq_getElem k) ?_;simp only[dj_,List.mem_flatMap,lt_,List.mem_filter]at hm;obtain⟨p,m,q⟩:=hm;exact List.mem_flatMap.2 ⟨p,m,q.1⟩
-- valid pieces,kind by kind
section
variable {a b c r s t:Str} {lo hi f:Int}
end
-- atoms
-- roles
-- sorted insertion
def kS (l:List Str) (s:Str):Nat:=(l.takeWhile fun x=>decide (x<s)).length
theorem zj_ {s:Str}:∀ {l:List Str} {k:Nat},k≤l.length→(∀ x∈l.take k,x<s)→(∀ x,l[k]? = some x→¬ x<s)→kS l s=k
  | [],k,h1,_,_=>by simp at h1;simp[kS,h1]
  | y::r,0,_,_,h3=>by
    have:=h3 y rfl;unfold kS;rw[List.takeWhile_cons_of_neg (by simpa using this)];rfl
  | y::r,k+1,h1,h2,h3=>by
    have h:y<s:=h2 y zC_;have e:=zj_ (l:=r) (k:=k) (by simpa using h1) (fun x d=>h2 x zah_) (fun x d=>h3 x (by simpa using d));unfold kS at e ⊢;rw[List.takeWhile_cons_of_pos zag_,List.length_cons,e]
def vf_ (l:List Str) (s:Str):List Str:=if s=[]∨l[kS l s]? = some s then l else l.take (kS l s)++[s]++l.drop (kS l s)
end Go.Vs
namespace Go.Sx
open Go
section
variable {P:Program} {N:Nf} {v0:Vw} {H0:Hp} {fr:Fr} {H:Hp} {Γ:List Fct}
end
end Go.Sx
namespace Go.Vs
open Go Go.Sx
namespace Con
theorem szs_append:∀ (d ys:List Con),sz.szs (d++ys)=sz.szs d+sz.szs ys
  | [],ys=>by simp[sz.szs]
  | x::d,ys=>by simp only[List.cons_append,sz.szs,szs_append d ys];omega
theorem szs_step {ps:List Con} {p:Con} {i:Nat} (d:ps[i]? = some p):sz.szs (ps.take (i+1))=sz.szs (ps.take i)+p.sz:=by
  rw[take_snoc d,szs_append];simp[sz.szs]
end Con
namespace Ax
theorem check_20 {x:Ax} (h:x.shaped=true) (d:x.namedU (us x.kind)=false):x.check=20:=by unfold check;rw[if_neg (by rw[h];simp),if_pos d]
theorem check_left {x:Ax} (h:x.shaped=true) (e:x.namedU (us x.kind)=true) (hl:(us x.kind).left=true) (d:x.left.check≠0):x.check=x.left.check:=by
  unfold check;rw[if_neg (by rw[h];simp),if_neg (by rw[e];simp),if_pos ⟨hl,d⟩]
theorem check_right {x:Ax} (h:x.shaped=true) (k:x.namedU (us x.kind)=true) (hl:(us x.kind).left=true→x.left.check=0) (d:(us x.kind).right=true) (e:x.right.check≠0):x.check=x.right.check:=by
  unfold check;rw[if_neg (by rw[h];simp),if_neg (by rw[k];simp),if_neg (fun q=>q.2 (hl q.1)),if_pos ⟨d,e⟩]
end Ax
end Go.Vs
namespace Go.Proofs.YtpbnmnfdgckaiaaGreatDoor
open Go Go.Sx Go.Proofs
attribute [local irreducible] Code.wp wpList wpAnyH
open Go.Vs
theorem wM_:∀ (m:Nat) (c:Con),c.sz≤m→c.ok→∀ (d most:Int),0≤d∧d≤40→0≤most∧most≤1000→Tri Tryz.prog 145 #[Con.val c,.int .i64 d,.int .i64 most] [] [Con.memF c] (fun r:{r:Int // 1≤r∧r≤most+4398046511104∧(r≤most→(c.sz:Int)≤r)}=>.int .i64 r.1) (fun _=>[]) (fun _=>[]):=by
 intro m
 induction m with
 | zero=>intro c h;have:=c.sz_pos;omega
 | succ m ih =>
   intro c hm G d most V N;have R:=Con.ok_name G;have U:=Con.ok_len G;refine j_ Tryz.func145 rfl rfl Tryz.ntmps145 rfl fun T=>?_;refine Zz 2 ?_;refine aa_ rfl rfl fun C=>Zi 7 (fun F=>?_) fun F=>?_
   · skip
     refine Zz 9 ?_;refine e_ (da_ Z_ rfl) rfl (e_ (aD_ (sW_ (n:=40) rfl rfl zx_ (ce_ (r:=((List.length (Con.name c) / 40:Nat):Int)) zr_ zr_)) (show _=Value.int .i64 ((List.length (Con.name c) / 40:Nat):Int) from rfl)) rfl (Zz 11 ?_));refine bC_ [(1,.int .i64 d),(2,.int .i64 most),(3,zp_ C 0),(7,.int .i64 (1+((List.length (Con.name c) / 40:Nat):Int))),(8,.int .i64 ((0:Nat):Int))] zl ?_;refine cc_ (ι:={x:Nat×Int // x.1≤c.parts.length∧1≤x.2∧x.2≤most+4398046511104∧(x.2≤most→((1+Con.sz.szs (c.parts.take x.1):Nat):Int)≤x.2)}) (fun x=>[(1,.int .i64 d),(2,.int .i64 most),(3,zp_ C 0),(7,.int .i64 x.1.2),(8,.int .i64 (x.1.1:Int))]) (fun _=>_) (fun _=>_) (fun x=>c.parts.length - x.1.1) ⟨(0,1+((List.length (Con.name c) / 40:Nat):Int)),by simp,by dsimp only;omega,by dsimp only;omega,by simp[Con.sz.szs];omega⟩ ?_;rintro ⟨⟨i,n⟩,hk⟩;dsimp only at hk;obtain⟨O,Q,P,E⟩:=hk;refine bC_ [(1,.int .i64 d),(2,.int .i64 most),(3,zp_ C 0),(7,.int .i64 n),(8,.int .i64 (i:Int))] zl ?_;refine Zz 7 ?_;refine C_ (cv_ rfl rfl) rfl fun K e=>Zz 1 ?_
     refine at_ 4 ((decide ((i:Int)<(List.length (Con.parts c):Int)))&&(decide (n≤most))) (fun r=>[(1,.int .i64 d),(2,.int .i64 most),(3,zp_ C 0),(7,.int .i64 n),(8,.int .i64 (i:Int)),(27,.bool r)]) ?_ fun M y=>?_
     · skip
       cases K
       · skip
         have B:=e;replace e:=zdf e;refine Zz 6 ?_;exact met ⟨rfl,rfl,rfl,rfl,rfl,(o_ rfl (jaf B)),trivial⟩
       · skip
         have B:=e;replace e:=zdt e;refine Zz 5 ?_;refine C_ (dw_ rfl rfl) rfl fun S I=>Zz 3 ?_
         exact met ⟨rfl,rfl,rfl,rfl,rfl,(o_ rfl (jat B I)),trivial⟩
     · skip
       refine Zz 2 ?_;cases M
       · skip
         simp at y
         refine Zz 10 ?_;exact af_ Tryz.results145 ⟨n,by omega,by omega,fun q=>by have hi:c.parts.length≤i:=(by simp at *;omega);have:=E q;rw[List.take_of_length_le hi]at this;rw[Con.sz_eq];exact this⟩ rfl (@List.perm_append_comm _ [_] _) zt
       · skip
         simp at y
         skip;obtain⟨H,J,A,k⟩:=zge (show i<List.length (Con.parts c) by omega);refine Zz 10 ?_;refine e_ (U_ ai_ L_ rfl rfl (fun v _ h=>aE_ (n:=5) Con.cells_len zx_ (by exact ((Con.mem_iff c v).1 h.1).1) A) zr_ zA_) rfl ?_;refine e_ (au_ (ad:=(Con.ad c)) (us:=Con.cells J) aU_ L_ rfl (fun v _ h=>by exact ((Con.mem_iff c v).1 h.1).1) (Con.cells_len _) (p_ Con.cells_len A)) rfl (Zz 5 ?_);refine i_ (ih J (by have:=Con.sz_part k;omega) (Con.ok_part G k) (d - 1) (most - n) ⟨by omega,by omega⟩ ⟨by omega,by omega⟩) rfl l_ (fun v _ h=>by exact⟨(Con.mem_part (c:=c) h.1 k),trivial⟩) rfl fun⟨r,F,e,y⟩=>?_;dsimp only;refine Zz 10 ?_;have L:=Con.szs_step A;exact y_ ⟨(i+1,n+r),H,by dsimp only;omega,by dsimp only;omega,fun q=>by dsimp only at q ⊢;rw[L];have:=y zr_;have:=E zr_;omega⟩ zu_ zl (.refl _) zh
   · skip
     refine Zz 11 ?_;exact af_ Tryz.results145 ⟨(most+1),by omega,by omega,fun q=>by omega⟩ rfl (@List.perm_append_comm _ [_] _) zt
theorem wC_ (c:Con) (k:c.ok):Tri Tryz.prog 97 #[Con.val c] [] [Con.memF c] (fun b:{b:Bool // b=true→c.sz≤150}=>.bool b.1) (fun _=>[]) (fun _=>[]):=by
  refine j_ Tryz.func97 rfl rfl Tryz.ntmps97 rfl fun v=>?_;refine Zz 2 ?_;refine aa_ rfl rfl fun x=>Zz 6 ?_
  refine i_ (wM_ _ c (Nat.le_refl _) k 40 150 ⟨by decide,by decide⟩ ⟨by decide,by decide⟩) rfl l_ zf rfl fun⟨r,d,m,e⟩=>?_;dsimp only;refine C_ (dw_ rfl rfl) rfl fun h d=>Zz 4 ?_
  exact af_ Tryz.results97 ⟨h,fun q=>by rw[q]at d;have:=of_decide_eq_true d;have:=e this;omega⟩ rfl (@List.perm_append_comm _ [_] _) zt
structure Ax.Few (x:Ax):Prop where
  left:x.left.sz≤150
  right:x.right.sz≤150
  roles:x.roles.length≤600
theorem in_ {G:Prop} (h:G:=by
 exact af_ Tryz.results60 ⟨false,fun h=>by cases h⟩ rfl (@List.perm_append_comm _ [_] _) zt):G:=h
theorem lG_ {G:Prop} (h:G:=by
 refine Zz 6 ?_;refine i_ (wC_ (Ax.left x) d.left) rfl l_ (fun v _ h=>by exact⟨h.1.1,trivial⟩) rfl fun⟨q,e⟩=>?_;dsimp only;refine Zz 2 ?_;cases q
 ·refine Zz 8 ?_
  exact in_
 refine Zz 5 ?_;refine i_ (wC_ (Ax.right x) d.right) rfl l_ (fun v _ h=>by exact⟨h.1.2.1,trivial⟩) rfl fun⟨B,k⟩=>?_;dsimp only;refine Zz 5 ?_;exact af_ Tryz.results60 ⟨B,fun h=>⟨e rfl,k h,by omega⟩⟩ rfl (@List.perm_append_comm _ [_] _) zt):G:=h
theorem mq_ (x:Ax) (d:x.ok):Tri Tryz.prog 60 #[Ax.val x] [] [Ax.memF x] (fun b:{b:Bool // b=true→Ax.Few x}=>.bool b.1) (fun _=>[]) (fun _=>[]):=by
 refine j_ Tryz.func60 rfl rfl Tryz.ntmps60 rfl fun K=>?_;have N:=d.role;have P:=d.a;have J:=d.b;have M:=d.len;have O:=d.cap;refine Zz 2 ?_;refine aa_ rfl rfl fun C=>Zz 7 ?_
 refine e_ (da_ Z_ rfl) rfl (Zz 2 ?_);refine e_ (da_ Z_ rfl) rfl (Zz 3 ?_);refine e_ (da_ Z_ rfl) rfl (Zz 16 ?_);refine bC_ [(1,zp_ C 0),(3,.int .i64 (((((Ax.role x).length:Int)+((Ax.a x).length:Int))+((Ax.b x).length:Int))+(10*(List.length (Ax.roles x):Int)))),(4,.int .i64 ((0:Nat):Int))] zl ?_;refine cc_ (ι:={y:Nat×Int // y.1≤x.roles.length∧y.1≤100∧(x.roles.length:Int)≤y.2∧y.2≤444444444444444444+y.1*140737488351232}) (fun y=>[(1,zp_ C 0),(3,.int .i64 y.1.2),(4,.int .i64 (y.1.1:Int))]) (fun _=>_) (fun _=>_) (fun y=>x.roles.length - y.1.1) ⟨(0,(((((Ax.role x).length:Int)+((Ax.a x).length:Int))+((Ax.b x).length:Int))+(10*(List.length (Ax.roles x):Int)))),by simp,by simp,by dsimp only;omega,by dsimp only;omega⟩ ?_;rintro ⟨⟨i,n⟩,hk⟩;dsimp only at hk;refine bC_ [(1,zp_ C 0),(3,.int .i64 n),(4,.int .i64 (i:Int))] zl ?_;refine Zi 7 (fun F=>?_) fun F=>?_
 ·refine Zi 12 (fun m=>?_) fun m=>?_
  ·refine Zz 14 ?_
   exact in_
  exact lG_
 refine Zi 4 (fun m=>?_) fun m=>?_
 ·refine Zi 9 (fun G=>?_) fun G=>?_
  ·refine Zz 14 ?_
   exact in_
  exact lG_
 obtain⟨A,H,I,E⟩:=zge (show i<List.length (Ax.roles x) by omega);have L:=d.roles H E;refine Zz 15 ?_;refine e_ (da_ Z_ rfl) rfl (Zz 10 ?_);exact y_ ⟨(i+1,n+(List.length H:Int)),A,by dsimp only;omega,by dsimp only;omega,by dsimp only;omega⟩ zu_ zl (.refl _) zh
theorem qb_ (l:List Ax) (ad:Option Addr) (cap:Nat) (most:Int) (E:l.length≤cap∧cap≤2199023255488) (C:∀ x∈l,x.ok):Tri Tryz.prog 28 #[.slice ad (List.length l) cap,.int .i64 most] [] [cu_ ad l] (fun b:{b:Bool // b=true→(l.length:Int)≤most∧∀ x∈l,Ax.Few x}=>.bool b.1) (fun _=>[]) (fun _=>[]):=by
 refine j_ Tryz.func28 rfl rfl Tryz.ntmps28 rfl fun F=>?_;refine Zi 11 (fun A=>?_) fun A=>?_
 ·refine Zz 12 ?_
  refine bC_ [(0,.slice ad (List.length l) cap),(5,.int .i64 ((0:Nat):Int))] zl ?_;refine cc_ (ι:={q:Nat // q≤l.length∧∀ x∈l.take q,Ax.Few x}) (fun i=>[(0,.slice ad (List.length l) cap),(5,.int .i64 (i.1:Int))]) (fun _=>_) (fun _=>_) (fun i=>l.length - i.1) ⟨0,by simp⟩ ?_;rintro ⟨i,hk⟩;refine bC_ [(0,.slice ad (List.length l) cap),(5,.int .i64 (i:Int))] zl ?_;refine Zi 6 (fun B=>?_) fun B=>?_
  ·refine Zz 11 ?_
   exact af_ Tryz.results28 ⟨true,fun _=>⟨by omega,fun x e=>hk.2 x (by rw[List.take_of_length_le zr_];exact e)⟩⟩ rfl (.refl _) zt
  obtain⟨k,m,y,d⟩:=zge (show i<List.length l by omega);refine Zz 13 ?_;refine i_ (mq_ m (C m d)) rfl l_ (fun v _ h=>by exact⟨(h.1.2 m d),trivial⟩) rfl fun⟨r,G⟩=>?_;dsimp only;refine e_ (aJ_ rfl) rfl (Zz 2 ?_);cases r
  ·refine Zz 7 ?_
   exact af_ Tryz.results28 ⟨false,fun h=>by cases h⟩ rfl (.refl _) zt
  refine Zz 9 ?_;exact y_ ⟨i+1,k,fun x e=>by rw[List.take_add_one,y]at e;simp only[Option.toList_some,List.mem_append,List.mem_singleton]at e;rcases e with e|rfl;exact hk.2 x e;exact G rfl⟩ zH_ zl (.refl _) zh
 refine Zz 9 ?_;exact af_ Tryz.results28 ⟨false,fun h=>by cases h⟩ rfl (.refl _) zt
end Go.Proofs.YtpbnmnfdgckaiaaGreatDoor
namespace Go.Sx
open Go
section
variable {P:Program} {N:Nf} {v0:Vw} {H0:Hp} {R:Exit→Act→World→Prop} {K:List Kt} {fr:Fr} {H F:Hp} {Γ:List Fct} {ops:Array Oper} {l:List Oper} {ty:TypeId} {ps:String} {af:Array Edge} {e:TypeId} {sz n:Nat} {sv:Value} {xs:List Value} {Hr:Hp}
theorem vk_ {α:Type} (l:List α) (k m:Nat) (u:α) (hk:k<m) (hm:m≤l.length):(l.take k++[u]++l.drop (k+1)).take m=(l.take m).set k u:=by
 apply List.ext_getElem?
 intro j;rw[List.getElem?_take,List.getElem?_set,List.length_take]
 by_cases d:j<m
 ·rw[if_pos d]
  by_cases h:j<k
  ·rw[if_neg zr_,List.append_assoc,List.getElem?_append_left zbd_,List.getElem?_take,if_pos h,List.getElem?_take,if_pos d]
  by_cases q:j=k
  ·subst q
   rw[if_pos rfl,if_pos zr_,List.append_assoc,List.getElem?_append_right zbd_,List.length_take,Nat.min_eq_left zr_,Nat.sub_self];rfl
  rw[if_neg zr_,List.getElem?_append_right (by rw[List.length_append,List.length_take,List.length_singleton];omega),List.length_append,List.length_take,List.length_singleton,List.getElem?_drop,List.getElem?_take,if_pos d,Nat.min_eq_left zr_]
  congr 1;omega
 rw[if_neg d,if_neg zr_,List.getElem?_take,if_neg d]
theorem fD_ {t:TypeId} {x y:Operand} {k:Nat} {u:Value} (d:aB_ e sz sv n xs Hr) (C:H.Perm (Hr++F)) (G:∀ w,(sizeOf t).run P w=.ok 1 w) (J:Fr.ev fr x=some (.pointer (some ⟨svB sv,k,none⟩))) (M:Fr.ev fr y=some u) (hk:k<n*sz) (m:u.cells=#[u]) (A:u.oneCell'=true)
    (h:∀ Hr',aB_ e sz sv n (xs.set k u) Hr'→Ops P R N v0 H0 ops l K fr (Hr'++F) Γ):Ops P R N v0 H0 ops (⟨none,.store t x y,ty,ps,af,none⟩::l) K fr H Γ:=by
  rcases d.2 with⟨_,E,_⟩|⟨g,cap,cur,rfl,rfl,B,O,v,L⟩
  · subst E;simp at hk
  · have q:n*sz≤cap*sz:=Nat.mul_le_mul_right _ B
    refine u_ C (x_ (b:=g) (off:=k) 0 G J M rfl (by rw[m];rfl) ?_ (by rw[m];simp[A]) ?_)
    · have I:k+1≤cur.size:=by rw[v];omega
      simpa using I
    · rw[m]
      refine h [(g,.cells (cur.toList.take k++[u]++cur.toList.drop (k+1)).toArray e (0,0))] ⟨by rw[List.length_set];exact d.1,.inr ⟨g,cap,_,rfl,rfl,B,O,?_,?_⟩⟩
      · simp only[List.size_toArray,List.length_append,List.length_take,List.length_drop,List.length_singleton,Array.length_toList,v];omega
      · show ((cur.toList.take k++[u]++cur.toList.drop (k+1)).toArray).toList.take (n*sz)=_
        rw[List.toList_toArray,vk_ _ _ _ _ hk (by rw[Array.length_toList,v];exact q),L]
theorem iS_ {α:Type} (f:α→List Value) (z:Nat) (d:∀ x,(f x).length=z):∀ (l:List α) (i j:Nat) (x y:α) (u:Value),l[i]? = some x→j<z→f y=(f x).set j u→(l.flatMap f).set (i*z+j) u=(l.set i y).flatMap f
  | [],i,_,_,_,_,h,_,_=>by simp at h
  | a::l,0,j,x,y,u,h,hj,he=>by
    simp only[List.getElem?_cons_zero,Option.some.injEq]at h;subst h;rw[List.flatMap_cons,List.set_cons_zero,List.flatMap_cons,he,Nat.zero_mul,Nat.zero_add,List.set_append_left _ _ (by rw[d];exact hj)]
  | a::l,i+1,j,x,y,u,h,hj,he=>by
    simp only[List.getElem?_cons_succ]at h;rw[List.flatMap_cons,List.set_cons_succ,List.flatMap_cons,← iS_ f z d l i j x y u h hj he,List.set_append_right _ _ (by rw[d,Nat.succ_mul];omega),d]
    congr 2
    rw[Nat.succ_mul];omega
theorem kk_ {t h:TypeId} {x:Operand} {k d:IntKind} {m r:Int} {u:TypeDesc} (y:P.underlying t=some u) (A:P.underlying h=some (.int d)) (C:Fr.ev fr x=some (.int k m)) (B:IntKind.wrap d m=r):Yld P N fr H Γ (.convert t h x) ty (.int d r) :=
  fun a v q _ _ _ _ _=>by subst B;simp[execOp,q.ev C,convert,run_underlying y,run_underlying A,Conv.intToInt]
theorem uX_ {t k:TypeId} {x y:Operand} {m n:Int} (A:Fr.ev fr x=some (.int .u64 m)) (h:Fr.ev fr y=some (.int .u64 n)) (B:n≠0) (q:IntKind.wrap .u64 (m.tmod n)=m.tmod n) :
    Yld P N fr H Γ (.binOp .rem t x y k) ty (.int .u64 (m.tmod n)) :=
  fun a v d _ _ _ _ _=>by simp[execOp,d.ev A,d.ev h,eqGuard,binOp,Op.intDiv,B,q]
theorem vb_ {r:Int} (h:0≤r) (d:r≤18446744073709551615):IntKind.wrap .u64 r=r:=by
  simp[IntKind.wrap,IntKind.signed,IntKind.bits]
  omega
end
end Go.Sx
namespace Go.Sx
open Go
section
variable {P:Program} {N:Nf} {v0:Vw} {H0:Hp} {R:Exit→Act→World→Prop} {K:List Kt} {fr:Fr} {H F:Hp} {Γ:List Fct} {ops:Array Oper} {l:List Oper} {ty:TypeId} {ps:String} {af:Array Edge} {e:TypeId} {sz n:Nat} {sv:Value} {xs:List Value} {Hr:Hp}
theorem tR_ {α:Type} (l us:List α) (k m:Nat) (hk:k+us.length≤m) (hm:m≤l.length):(l.take k++us++l.drop (k+us.length)).take m=(l.take m).take k++us++(l.take m).drop (k+us.length):=by
  rw[List.take_take,Nat.min_eq_left zr_,List.take_append,List.take_of_length_le (by simp only[List.length_append,List.length_take];omega)]
  congr 1
  rw[List.drop_take]
  congr 1
  simp only[List.length_append,List.length_take];omega
theorem sn_ {t:TypeId} {x y:Operand} {k:Nat} {us:List Value} (d:aB_ e sz sv n xs Hr) (C:H.Perm (Hr++F)) (G:∀ w,(sizeOf t).run P w=.ok sz w) (J:Fr.ev fr x=some (.pointer (some ⟨svB sv,k,none⟩))) (M:Fr.ev fr y=some (.agg us.toArray)) (hk:k+sz≤n*sz) (m:us.length=sz) (S:0<sz) (A:us.all Value.oneCell'=true)
    (h:∀ Hr',aB_ e sz sv n (xs.take k++us++xs.drop (k+sz)) Hr'→Ops P R N v0 H0 ops l K fr (Hr'++F) Γ):Ops P R N v0 H0 ops (⟨none,.store t x y,ty,ps,af,none⟩::l) K fr H Γ:=by
  rcases d.2 with⟨_,E,_⟩|⟨g,cap,cur,rfl,rfl,B,Q,v,L⟩
  · subst E;simp only[Nat.zero_mul]at hk;omega
  · have q:n*sz≤cap*sz:=Nat.mul_le_mul_right _ B
    have O:=d.1;refine u_ C (x_ (b:=g) (off:=k) (n:=sz) 0 G J M rfl (by simpa [Value.cells] using m) ?_ (by simpa [Value.cells] using A) ?_)
    · have I:k+sz≤cur.size:=by rw[v];omega
      simpa using I
    · refine h [(g,.cells (cur.toList.take k++us++cur.toList.drop (k+sz)).toArray e (0,0))] ⟨by simp only[List.length_append,List.length_take,List.length_drop];omega,.inr ⟨g,cap,_,rfl,rfl,B,Q,?_,?_⟩⟩
      · simp only[List.size_toArray,List.length_append,List.length_take,List.length_drop,Array.length_toList,v];omega
      · show ((cur.toList.take k++us++cur.toList.drop (k+sz)).toArray).toList.take (n*sz)=_
        rw[List.toList_toArray,← L];have:=tR_ cur.toList us k (n*sz) zr_ (by rw[Array.length_toList,v];exact q);rw[m]at this;exact this
theorem tw_ {α:Type} (f:α→List Value) (z:Nat) (d:∀ x,(f x).length=z):∀ (l:List α) (i:Nat) (y:α),i<l.length→(l.flatMap f).take (i*z)++f y++(l.flatMap f).drop (i*z+z)=(l.set i y).flatMap f
  | [],i,y,h=>by simp at h
  | a::l,0,y,h=>by
    rw[List.flatMap_cons,List.set_cons_zero,List.flatMap_cons,Nat.zero_mul,List.take_zero,List.nil_append,Nat.zero_add,List.drop_append,List.drop_of_length_le (by rw[d];exact Nat.le_refl _),d,Nat.sub_self];rfl
  | a::l,i+1,y,h=>by
    have k:i<l.length:=by simpa using h
    rw[List.flatMap_cons,List.set_cons_succ,List.flatMap_cons,← tw_ f z d l i y k,Nat.succ_mul,List.take_append,List.take_of_length_le (by rw[d];omega),List.drop_append,List.drop_of_length_le (by rw[d];omega),d];rw[show i*z+z - z=i*z by omega,show i*z+z+z - z=i*z+z by omega];simp[List.append_assoc]
end
end Go.Sx
namespace Go.Sx
open Go
section
variable {P:Program} {N:Nf} {v0:Vw} {H0:Hp} {R:Exit→Act→World→Prop} {K:List Kt} {fr:Fr} {H F:Hp} {Γ:List Fct} {ops:Array Oper} {l:List Oper} {d:Nat} {ty:TypeId} {ps:String} {af:Array Edge} {e:TypeId} {sz n:Nat} {sv:Value} {xs:List Value} {Hr:Hp}
inductive ORow (e:TypeId) (sz:Nat):Value→Nat→List Value→Hp→Prop
  | row {sv:Value} {n:Nat} {xs:List Value} {Hr:Hp} (h:aB_ e sz sv n xs Hr):ORow e sz sv n xs Hr
  | cut {g k n cap:Nat} {pre xs:List Value} {Hr:Hp} (hp:pre.length=k*sz) (h:aB_ e sz (.slice (some ⟨g,0,none⟩) (k+n) (k+cap)) (k+n) (pre++xs) Hr):ORow e sz (.slice (some ⟨g,k*sz,none⟩) n cap) n xs Hr
  | out {g k:Nat} {Hr:Hp}:ORow e sz (.slice (some ⟨g,k*sz,none⟩) 0 0) 0 [] Hr
theorem ORow.len (h:ORow e sz sv n xs Hr):xs.length=n*sz:=by
  cases h with
  | row h=>exact h.1
  | cut hp h=>have:=h.1;rw[List.length_append,hp,Nat.add_mul]at this;omega
  | out=>simp
theorem ORow.form (h:ORow e sz sv n xs Hr):∃ ad cap,sv=.slice ad n cap∧n≤cap∧(ad=none→cap=0):=by
 cases h with
 | row h =>
   rcases h.2 with⟨rfl,rfl,_⟩|⟨g,cap,cur,rfl,_,m,_⟩
   · exact⟨_,_,rfl,Nat.le_refl _,fun _=>rfl⟩
   · exact⟨_,_,rfl,m,fun q=>by cases q⟩
 | cut hp h =>
   rcases h.2 with⟨k,_⟩|⟨g,cap,cur,k,_,m,_⟩
   · cases k
   · simp only[Value.slice.injEq]at k;obtain⟨_,_,rfl⟩:=k;exact⟨_,_,rfl,by omega,fun q=>by cases q⟩
 | out=>exact⟨_,_,rfl,Nat.le_refl _,fun q=>by cases q⟩
theorem qq_ {x:Operand} {t m:TypeId} (h:ORow e sz sv n xs Hr) (k:∀ w,(underlying t).run P w=.ok (.slice m) w) (q:Fr.ev fr x=some sv):Yld P N fr H Γ (.call ⟨.builtin .len,#[x],#[t]⟩) ty (.int .i64 (n:Int)):=by
  obtain⟨ad,cap,rfl,_⟩:=h.form;exact cA_ k q
def svO:Value→Nat
  | .slice (some a) _ _=>a.off
  | _=>0
theorem sY_ {x y:Operand} {t B:TypeId} {k:IntKind} {i:Int} (m:ORow e sz sv n xs Hr) (v:∀ w,(underlying t).run P w=.ok (.slice B) w) (A:∀ w,(sizeOf B).run P w=.ok sz w) (C:Fr.ev fr x=some sv) (q:Fr.ev fr y=some (.int k i)) (E:0≤i) (hl:i<n) :
    Yld P N fr H Γ (.indexAddr t x y) ty (.pointer (some ⟨svB sv,svO sv+i.toNat*sz,none⟩)):=by
  cases m with
  | row h =>
    have:=bR_ (P:=P) (N:=N) (H:=H) (Γ:=Γ) (ty:=ty) h v A C q E hl;rcases h.2 with⟨_,G,_⟩|⟨g,cap,cur,rfl,_⟩
    · omega
    · simpa [svO] using this
  | cut hp h=>exact fv_ (P:=P) (N:=N) (H:=H) (Γ:=Γ) (ty:=ty) v A C q E hl
  | out=>omega
theorem qZ_ {x y:Operand} {t G:TypeId} {kl:IntKind} {i:Nat} (v:ORow e sz sv n xs Hr) (I:∀ w,(underlying t).run P w=.ok (.slice G) w) (J:∀ w,(sizeOf G).run P w=.ok sz w) (L:Fr.ev fr x=some sv) (M:Fr.ev fr y=some (.int kl (i:Int))) (hi:i≤n) (O:Nat.blt d N.n=true)
    (hk:∀ sv',ORow e sz sv' (n - i) (xs.drop (i*sz)) Hr→Ops P R N v0 H0 ops l K ((d,sv')::fr) H Γ):Ops P R N v0 H0 ops (⟨some d,.slice t x (some y) none none,ty,ps,af,none⟩::l) K fr H Γ:=by
  have q:=v.len;obtain⟨ad,cap,A,E,_⟩:=v.form;have C:Fr.ev fr x=some (.slice ad n cap):=by rw[L,A]
  refine e_ (dm_ (i:=i) (j:=n) (kl:=kl) (kh:=.i64) I J C M rfl hi E) O ?_;refine hk _ ?_;cases v with
  | @row sv n xs Hr h =>
    rcases h.2 with⟨rfl,rfl,rfl⟩|⟨g,m,cur,rfl,_,Q,_⟩
    · obtain rfl:i=0:=by omega
      simp only[Value.slice.injEq]at A;obtain⟨rfl,_,rfl⟩:=A;have:xs=[]:=List.eq_nil_of_length_eq_zero (by simpa using q);subst this;simp only[sad,List.drop_nil,Nat.sub_self];exact .row h
    · simp only[Value.slice.injEq]at A
      obtain⟨rfl,_,rfl⟩:=A
      by_cases B:m=i
      · subst B
        have:n=m:=by omega
        subst this;simp only[sad,if_true,Nat.sub_self];rw[List.drop_eq_nil_of_le zr_];have:=ORow.out (e:=e) (sz:=sz) (g:=g) (k:=0) (Hr:=Hr);simpa using this
      · simp only[sad,B,if_false,Option.map_some,cC_,Nat.zero_add]
        refine .cut (pre:=xs.take (i*sz)) (by rw[List.length_take,q];exact Nat.min_eq_left (Nat.mul_le_mul_right _ hi)) ?_;rw[List.take_append_drop,show i+(n - i)=n by omega,show i+(m - i)=m by omega];exact h
  | @cut g k n cap0 pre xs Hr hp h =>
    simp only[Value.slice.injEq]at A;obtain⟨rfl,_,rfl⟩:=A
    by_cases B:cap0=i
    · subst B
      have:n=cap0:=by omega
      subst this;simp only[sad,if_true,Nat.sub_self];rw[List.drop_eq_nil_of_le zr_];exact .out
    · simp only[sad,B,if_false,Option.map_some,cC_]
      rw[← Nat.add_mul];refine .cut (pre:=pre++xs.take (i*sz)) (by rw[List.length_append,List.length_take,q,hp,Nat.min_eq_left (Nat.mul_le_mul_right _ hi),Nat.add_mul]) ?_;rw[List.append_assoc,List.take_append_drop,show k+i+(n - i)=k+n by omega,show k+i+(cap0 - i)=k+cap0 by omega];exact h
  | @out g k Hr =>
    obtain rfl:i=0:=by omega
    simp only[Value.slice.injEq]at A;obtain⟨rfl,_,rfl⟩:=A;simp only[sad,if_true,Nat.sub_self,List.drop_nil];exact .out
theorem Vw.to.more {v m:Vw} {H':Hp} (h:v.to F m H'):v.to (Hr++F) m H' where
 os:=h.os
 tape:=h.tape
 output:=h.output
 size:=h.size
 block:=fun b k x=>h.block b k fun hm=>x (by rw[List.map_append];exact List.mem_append_right _ hm)
 imUp:=h.imUp
 imNew:=fun b k=>by
   rw[List.map_append];rcases h.imNew b k with q|q|q
   · exact .inl q
   · exact .inr (.inl (List.mem_append_right _ q))
   · exact .inr (.inr q)
 hNew:=fun b k=>by
   rw[List.map_append];rcases h.hNew b k with q|q
   · exact .inl (List.mem_append_right _ q)
   · exact .inr q
 sl:=h.sl
 dr:=h.dr
theorem Vw.sat.subB {v:Vw} (h:v.sat (Hr++F)):v.sat F :=
  ⟨fun x k=>h.own x (List.mem_append_right _ k),by have:=h.nodup;rw[List.map_append,List.nodup_append]at this;exact this.2.1,h.lt⟩
theorem ns_ {v:Vw} {a:Addr} {news:List Value} (h:bz_ v (some a) news):∀ j u,news[j]? = some u→v.w.cell? (a.add j)=some u:=fun j u k=>by
 rcases h with h|⟨b,off,q,T,fz,m,_,y,x⟩
 ·rw[h]at k;simp at k
 rw[Option.some.injEq]at m;subst m;have:=x j u k;rw[cC_];simp[World.cell?,y,this]
theorem nq_ (w:World) (t ty e:TypeId) (i:TypeInfo) (C:P.underlying t=some (.slice e)) (hi:P.info? e=some i)
    (g off h k:Nat) (cur:Array Value) (B:w.heap[g]? = some (.cells cur e (0,0)))
    (a:Addr) (m c:Nat) (news:List Value) (hl:news.length=m*i.size) (v:∀ j u,news[j]? = some u→w.cell? (a.add j)=some u) (A:∀ u∈news,u.oneCell'=true)
    (q:h+m≤k) (y:off+h*i.size+news.length≤cur.size) :
    (Builtin.append_ #[t,t] ty #[.slice (some ⟨g,off,none⟩) h k,.slice (some a) m c]).run P w =
      .ok (.slice (some ⟨g,off,none⟩) (h+m) k) (w.setRow g (cur.toList.take (off+h*i.size)++news++cur.toList.drop (off+h*i.size+news.length)).toArray):=by
  have E:=run_firstCells_some (P:=P) w i.size m a m c news hl v;have x:=run_storeCells_at P g (off+h*i.size) e news 0 cur w B zaW_ A;simp only[Nat.add_zero]at x;simp[Builtin.append_,run_underlying C,sizeOf,typeInfo,hi,Builtin.lenOf,q,E,Addr.add_lit,x]
theorem rt_ {v:Vw} {t ty':TypeId} {by' m c cap:Nat} {b a:Addr} {news:List Value} (C:Elt P t e sz by') (Q:v.sat (Hr++F)) (B:xs.length=n*sz) (ag_:∀ j u,xs[j]? = some u→v.w.cell? (b.add j)=some u) (hl:news.length=m*sz) (h:∀ j u,news[j]? = some u→v.w.cell? (a.add j)=some u)
    (I:cap<n+m) (A:n+m≤maxLen) (L:(n+m)*by'≤140737488355328) :
    ∃ y w' q,(Builtin.append_ #[t,t] ty' #[.slice (some b) n cap,.slice (some a) m c]).run P v.w=.ok y w'∧aB_ e sz y (n+m) (xs++news) q∧(⟨v.im,w',v.sl⟩:Vw).sat (q++F)∧v.to (Hr++F) ⟨v.im,w',v.sl⟩ (q++F):=by
  obtain⟨i,z,hi,M,es,W,Z⟩:=C.info;subst es W;have E:n+m≤9223372036854775807:=by simp only[maxLen]at A;omega
  have O:=run_append_grow (P:=P) v.w t ty' e i z C.und hi M b n cap xs B ag_ a m c news hl h I zr_ (growslice_fits I L);obtain⟨y,w',k,J,Y⟩:=run_append_arg_grows (P:=P) v.w t ty' e i z i.size i.bytes C.und hi M rfl rfl Z C.pos b n cap xs B ag_ a m c news hl h I A L;have S:w'.ownsRow 0 e i.size y (n+m) (xs++news):=⟨J.1,J.2.imp id fun⟨g,cap,cur,V,_,U⟩=>⟨g,cap,cur,V,Nat.zero_le _,U⟩⟩
  have X:v.w.drawn≤w'.drawn:=by
    rw[O]at k;cases k;simp
  have x:∀ g,y.ownBlock=some g→(Value.slice none 0 0).ownBlock=some g∨v.w.heap.size≤g:=fun g G=>by
    rw[O]at k;cases k;simp only[Value.ownBlock,Option.some.injEq]at G;exact .inr zr_
  obtain⟨q,k1,k2,T⟩:=jn_ (F:=F) (aB_.nil e i.size) (by simpa using Q.subB) S Y X x;exact⟨y,w',q,k,k1,k2,by simpa using Vw.to.more (Hr:=Hr) T⟩
theorem mj_ {x y:Operand} {t:TypeId} {by' m c:Nat} {news:List Value} {ad:Option Addr} (O:Elt P t e sz by') (S:ORow e sz sv n xs Hr)
    (W:Fr.ev fr x=some sv) (U:Fr.ev fr y=some (.slice ad m c)) (Z:ad=none→c=0) (hmc:m≤c) (J:H.Perm (Hr++F)) (hl:news.length=m*sz) (E:∀ v,v.sat H→ag_ Γ v→bz_ v ad news) (h1c:∀ u∈news,u.oneCell'=true)
    (V:n+m≤maxLen) (hb:(n+m)*by'≤140737488355328) (hN:Nat.blt d N.n=true)
    (hk:∀ sv' C,ORow e sz sv' (n+m) (xs++news) C→Ops P R N v0 H0 ops l K ((d,sv')::fr) (C++F) Γ) :
    Ops P R N v0 H0 ops (⟨some d,.call ⟨.builtin .append,#[x,y],#[t,t]⟩,ty,ps,af,none⟩::l) K fr H Γ:=by
  have Q:=S.len;cases S with
  | row h=>exact aL_ O h W U Z hmc J hl E h1c V hb hN fun sv' C q=>hk sv' C (.row q)
  | @cut g k n cap pre xs Hr hp h =>
    cases ad with
    | none =>
      obtain rfl:=Z rfl;obtain rfl:m=0:=by omega
      obtain rfl:news=[]:=List.eq_nil_of_length_eq_zero (by simpa using hl);obtain⟨_,B,ee,hnc,_⟩:=(ORow.cut (cap:=cap) hp h).form;simp only[Value.slice.injEq]at ee;obtain⟨_,_,rfl⟩:=ee;refine e_ (x:=.slice (some ⟨g,k*sz,none⟩) n cap) (fun a v A _ _ _ _ _=>?_) hN (u_ J (hk _ Hr (by simpa using ORow.cut (cap:=cap) hp h)));obtain⟨i,z,hi,Z,es,eb,ez⟩:=O.info;simp[execOp,resolve,invoke,builtin,A.ev W,A.ev U,Builtin.append_,run_underlying O.und,sizeOf,typeInfo,hi,Builtin.lenOf,Builtin.firstCells,hnc,storeCells]
    | some a0 =>
      obtain⟨B,cur,X,e1,h4,h5,h6,h7⟩:∃ B cur,B=k+cap∧Hr=[(g,.cells cur e (0,0))]∧k+n≤B∧B≤maxLen∧cur.size=B*sz∧cur.toList.take ((k+n)*sz)=pre++xs:=by
        rcases h.2 with⟨A,_⟩|⟨g1,B,cur,A,L,Y⟩
        · cases A
        · simp only[Value.slice.injEq,Option.some.injEq,Addr.mk.injEq]at A
          obtain⟨⟨rfl,_,_⟩,_,rfl⟩:=A;exact⟨_,cur,rfl,L,Y⟩
      subst X;refine cD_ rfl fun a v A L Y G=>?_;have g2:=L.perm J;have hn:=ns_ (E v L G);have hg:=(g2.own (g,.cells cur e (0,0)) (by rw[e1];simp)).1
      by_cases I:n+m≤cap
      · obtain⟨i,z,hi,hz',es,eb,ez⟩:=O.info
        subst es;have hr:=nq_ (P:=P) v.w t ty e i O.und hi g (k*i.size) n cap cur hg a0 m c news hl hn h1c I (by rw[hl,h6,← Nat.add_mul,← Nat.add_mul];exact Nat.mul_le_mul_right _ zr_);rw[← Nat.add_mul]at hr;have hL:(pre++xs++news).length=(k+n+m)*i.size:=by rw[List.length_append,h.1,hl,← Nat.add_mul]
        obtain⟨C,k1,k2,T⟩:=jn_ (sv':=.slice (some ⟨g,0,none⟩) (k+n+m) (k+cap)) (n':=k+n+m) (ys:=pre++xs++news) h g2
          (w':=v.w.setRow g (cur.toList.take ((k+n)*i.size)++news++cur.toList.drop ((k+n)*i.size+news.length)).toArray)
          ⟨hL,.inr ⟨g,k+cap,_,rfl,Nat.zero_le _,setRow_heap v.w g cur _ e _ hg,by omega,h5,by
              simp only[List.size_toArray,List.length_append,List.length_take,List.length_drop,Array.length_toList];have:(k+n)*i.size+news.length≤cur.size:=by rw[hl,h6,← Nat.add_mul];exact Nat.mul_le_mul_right _ zr_
              omega,by rw[h7,← hL];exact List.take_left⟩⟩
          ⟨rfl,rfl,rfl,by simp,fun k _ hk=>setRow_other v.w g k _ (fun e=>hk (by simp[Value.ownBlock,e]))⟩ zC_ (fun _ h=>.inl h)
        unfold Oper.wp execOp;simp only[resolve,invoke,builtin,Sem.run_bind,Sem.run_pure,Result.andThen_ok,List.map_toArray,List.map_cons,List.map_nil,A.ev W,A.ev U,hr];refine hk _ C (.cut (pre:=pre) (cap:=cap) hp (by rw[← Nat.add_assoc,← List.append_assoc];exact k1)) _ ⟨v.im,_,v.sl⟩ (A.put hN) k2 (Y.trans (T.permL J.symm)) (az_ ((T.permL J.symm).le L) G)
      · have ag_:∀ j u,xs[j]? = some u→v.w.cell? ((⟨g,k*sz,none⟩:Addr).add j)=some u:=fun j u hj=>by
          rw[cC_];have hj':=(List.getElem?_eq_some_iff.1 hj).1
          have hc:cur[k*sz+j]? = some u:=by
            have q:(cur.toList.take ((k+n)*sz))[k*sz+j]? = some u:=by rw[h7,List.getElem?_append_right zr_,hp,Nat.add_sub_cancel_left];exact hj
            rw[List.getElem?_take]at q
            split at q
            · simpa using q
            · cases q
          simp[World.cell?,hg,hc]
        obtain⟨v',w',C,hr,k1,k2,T⟩:=rt_ (F:=F) (t:=t) (ty':=ty) (cap:=cap) (c:=c) O g2 Q ag_ hl hn (Nat.lt_of_not_le I) V hb;unfold Oper.wp execOp;simp only[resolve,invoke,builtin,Sem.run_bind,Sem.run_pure,Result.andThen_ok,List.map_toArray,List.map_cons,List.map_nil,A.ev W,A.ev U,hr];exact hk v' C (.row k1) _ ⟨v.im,w',v.sl⟩ (A.put hN) k2 (Y.trans (T.permL J.symm)) (az_ ((T.permL J.symm).le L) G)
  | @out g k Hr =>
    have M:m=0→news=[]:=fun q=>List.eq_nil_of_length_eq_zero (by rw[hl,q,Nat.zero_mul])
    by_cases hm:m=0
    · obtain rfl:=M hm
      subst hm;refine e_ (x:=.slice (some ⟨g,k*sz,none⟩) 0 0) (fun a v A L h4 _ _ _=>?_) hN (u_ J (hk _ Hr ORow.out));obtain⟨i,z,hi,Z,es,eb,ez⟩:=O.info;cases ad with
      | none=>obtain rfl:=Z rfl;simp[execOp,resolve,invoke,builtin,A.ev W,A.ev U,Builtin.append_,run_underlying O.und,sizeOf,typeInfo,hi,Builtin.lenOf,Builtin.firstCells,storeCells]
      | some a0=>simp[execOp,resolve,invoke,builtin,A.ev W,A.ev U,Builtin.append_,run_underlying O.und,sizeOf,typeInfo,hi,Builtin.lenOf,Builtin.firstCells,loadCells,loadCellsFrom,storeCells]
    · cases ad with
      | none=>have:=Z rfl;omega
      | some a0 =>
        refine cD_ rfl fun a v A L Y G=>?_;have g2:=L.perm J;have hn:=ns_ (E v L G);obtain⟨v',w',C,hr,k1,k2,T⟩:=rt_ (F:=F) (t:=t) (ty':=ty) (b:=⟨g,k*sz,none⟩) (cap:=0) O g2 Q (fun j u hj=>by simp at hj) hl hn (c:=c) zr_ V hb;unfold Oper.wp execOp;simp only[resolve,invoke,builtin,Sem.run_bind,Sem.run_pure,Result.andThen_ok,List.map_toArray,List.map_cons,List.map_nil,A.ev W,A.ev U,hr];exact hk v' C (.row k1) _ ⟨v.im,w',v.sl⟩ (A.put hN) k2 (Y.trans (T.permL J.symm)) (az_ ((T.permL J.symm).le L) G)
end
end Go.Sx
namespace Go.Sx
open Go
section
variable {P:Program} {N:Nf} {v0:Vw} {H0:Hp} {R:Exit→Act→World→Prop} {K:List Kt} {fr:Fr} {H F:Hp} {Γ:List Fct} {ops:Array Oper} {l:List Oper} {d:Nat} {ty:TypeId} {ps:String} {af:Array Edge} {e:TypeId} {sz n:Nat} {sv:Value} {xs:List Value} {Hr:Hp}
def svK:Value→Nat
  | .slice _ _ c=>c
  | _=>0
def svT (sv:Value) (n k sz:Nat):Value:=.slice (some ⟨svB sv,k*sz,none⟩) (n - k) (svK sv - k)
theorem qp_ {x y:Operand} {t m:TypeId} {kl:IntKind} {k:Nat} (h:aB_ e sz sv n xs Hr) (q:∀ w,(underlying t).run P w=.ok (.slice m) w) (v:∀ w,(sizeOf m).run P w=.ok sz w) (A:Fr.ev fr x=some sv) (B:Fr.ev fr y=some (.int kl (k:Int))) (hk:k<n) :
    Yld P N fr H Γ (.slice t x (some y) none none) ty (svT sv n k sz):=by
  rcases h.2 with⟨_,E,_⟩|⟨g,cap,cur,rfl,rfl,C,J,I,G⟩
  · omega
  · refine aD_ (dm_ (i:=k) (j:=n) (kl:=kl) (kh:=.i64) q v A B rfl zr_ C) ?_
    unfold svT sad;rw[if_neg zr_];simp[cC_,svB,svK]
theorem tM_ {x:Operand} {t h:TypeId} {k:Nat} (q:∀ w,(underlying t).run P w=.ok (.slice h) w) (m:Fr.ev fr x=some (svT sv n k sz)):Yld P N fr H Γ (.call ⟨.builtin .len,#[x],#[t]⟩) ty (.int .i64 ((n - k:Nat):Int)):=cA_ q m
theorem pv_ {x y:Operand} {t h:TypeId} {k j:Nat} (q:∀ w,(underlying t).run P w=.ok (.slice h) w) (v:∀ w,(sizeOf h).run P w=.ok sz w) (A:Fr.ev fr x=some (svT sv n k sz)) (m:Fr.ev fr y=some (.int .i64 (j:Int))) (B:j<n - k) :
    Yld P N fr H Γ (.indexAddr t x y) ty (.pointer (some ⟨svB sv,((k+j:Nat):Int).toNat*sz,none⟩)):=by
  refine aD_ (fv_ q v A m zr_ zr_) ?_;rw[Int.toNat_natCast,Int.toNat_natCast,Nat.add_mul]
theorem cutRow (h:aB_ e sz sv n xs Hr) {k:Nat} (hk:k≤n) (E:0<n):∃ sv',aB_ e sz sv' k (xs.take (k*sz)) Hr ∧
    ∀ {N:Nf} {fr:Fr} {H:Hp} {Γ:List Fct} {ty t:TypeId} {x y:Operand},(∀ w,(underlying t).run P w=.ok (.slice e) w)→(∀ w,(sizeOf e).run P w=.ok sz w)→Fr.ev fr x=some sv→Fr.ev fr y=some (.int .i64 (k:Int))→Yld P N fr H Γ (.slice t x none (some y) none) ty sv':=by
  obtain⟨hl,⟨_,G,_⟩|⟨g,cap,cur,rfl,rfl,q,hm,B,m⟩⟩:=h
  · omega
  · refine⟨.slice (some ⟨g,0,none⟩) k cap,⟨?_,.inr ⟨g,cap,cur,rfl,rfl,by omega,hm,B,?_⟩⟩,fun v A m C=>?_⟩
    · rw[List.length_take,hl];exact Nat.min_eq_left (Nat.mul_le_mul_right _ hk)
    · rw[← m,List.take_take,Nat.min_eq_left (Nat.mul_le_mul_right _ hk)]
    · refine aD_ (dm_ (i:=0) (j:=k) (kl:=.i64) (kh:=.i64) v A m rfl C (Nat.zero_le _) zr_) ?_
      unfold sad;rw[if_neg zr_];simp[cC_]
theorem so_ {x:Operand} {t:TypeId} {k:Nat} {z:Value} (q:aB_ e sz sv n xs Hr) (hH:H.Perm (Hr++F)) (Y:∀ w,(underlying t).run P w=.ok (.slice e) w) (hz:∀ w,(zeroValue e).run P w=.ok z w) (T:z.cells.size=sz) (h1:z.cells.toList.all Value.oneCell'=true) (a0:0<sz)
    (Z:Fr.ev fr x=some (svT sv n k sz)) (hk:k<n)
    (h:∀ Hr' zs,zs.length=(n - k)*sz→aB_ e sz sv n (xs.take (k*sz)++zs) Hr'→Ops P R N v0 H0 ops l K fr (Hr'++F) Γ):Ops P R N v0 H0 ops (⟨none,.call ⟨.builtin .clear,#[x],#[t]⟩,ty,ps,af,none⟩::l) K fr H Γ:=by
  rcases q.2 with⟨_,h2,_⟩|⟨g,cap,cur,rfl,rfl,V,h4,M,h6⟩
  · omega
  · have hle:n*sz≤cap*sz:=Nat.mul_le_mul_right _ V
    have A:k*sz≤n*sz:=Nat.mul_le_mul_right _ zr_;obtain⟨m,hm⟩:∃ m,n - k=m+1:=⟨n - k - 1,by omega⟩;have y:(Builtin.zeroCells z.cells (n - k)).toList.length=(n - k)*sz:=by simp[Builtin.zeroCells,T]
    have C:k*sz+(n - k)*sz=n*sz:=by rw[← Nat.add_mul];congr 1;omega
    refine u_ hH (cD_ rfl fun a v U Q g3 g4=>?_);have W:=(Q.own _ List.mem_cons_self).1
    have B:=run_storeCells_at P g (k*sz) e (Builtin.zeroCells z.cells (n - k)).toList 0 cur v.w W (by rw[y,M];omega) (fun c J=>by
      have G:0<z.cells.size:=by omega
      simp only[Builtin.zeroCells,Array.toList_map,Array.toList_range,List.mem_map,List.mem_range]at J;obtain⟨i,_,rfl⟩:=J;have L:i%z.cells.size<z.cells.size:=Nat.mod_lt _ G;rw[getElem!_pos z.cells _ L];exact List.all_eq_true.1 h1 _ zC_)
    have he:(execOp a.eval ⟨none,.call ⟨.builtin .clear,#[x],#[t]⟩,ty,ps,af,none⟩).run P v.w=.ok (.value (.tuple #[])) (v.w.setRow g (cur.toList.take (k*sz)++(Builtin.zeroCells z.cells (n - k)).toList++cur.toList.drop (k*sz+(n - k)*sz)).toArray):=by
      rw[y]at B;simp only[Nat.add_zero]at B
      have S:a.eval x=.slice (some ⟨g,k*sz,none⟩) (m+1) (cap - k):=by
        have:=U.ev Z;rw[this];unfold svT;rw[hm];rfl
      rw[hm]at B ⊢;simp[execOp,resolve,invoke,builtin,S,Builtin.clear_,Y,hz,B]
    unfold Oper.wp;rw[he];obtain⟨q1,X⟩:=ff_ (i:=0) (w':=v.w.setRow g (cur.toList.take (k*sz)++(Builtin.zeroCells z.cells (n - k)).toList++cur.toList.drop (k*sz+(n - k)*sz)).toArray) Q rfl rfl rfl rfl (Nat.le_refl _) zC_ (setRow_heap _ _ _ _ _ _ W) (fun c J=>setRow_other _ _ _ _ J);refine h [(g,.cells (cur.toList.take (k*sz)++(Builtin.zeroCells z.cells (n - k)).toList++cur.toList.drop (k*sz+(n - k)*sz)).toArray e (0,0))] (Builtin.zeroCells z.cells (n - k)).toList y ⟨?_,.inr ⟨g,cap,_,rfl,rfl,V,h4,?_,?_⟩⟩ _ _ U q1 (g3.trans X) (az_ (X.le Q) g4)
    · rw[List.length_append,List.length_take,y,q.1,Nat.min_eq_left A];exact C
    · simp only[List.size_toArray,List.length_append,List.length_take,List.length_drop,Array.length_toList,M,y,C]
      omega
    · have E:(cur.toList.take (k*sz)).length=k*sz:=by rw[List.length_take,Array.length_toList,M];omega
      rw[List.toList_toArray]
      apply List.ext_getElem?
      intro j;rw[List.getElem?_take]
      by_cases O:j<n*sz
      · rw[if_pos O]
        by_cases I:j<k*sz
        · rw[List.append_assoc,List.getElem?_append_left zr_,List.getElem?_append_left (by rw[List.length_take,q.1];omega),List.getElem?_take,if_pos I,List.getElem?_take,if_pos I,← h6,List.getElem?_take,if_pos O]
        · rw[List.getElem?_append_left (by rw[List.length_append,E,y];omega),List.getElem?_append_right zr_,E,List.getElem?_append_right (by rw[List.length_take,q.1];omega),List.length_take,q.1,Nat.min_eq_left A]
      · rw[if_neg O,List.getElem?_eq_none (by rw[List.length_append,List.length_take,y,q.1,Nat.min_eq_left A];omega)]
end
end Go.Sx
namespace Go.Vs
def cpG {α:Type} (q:α→α→Bool):α→List α→List α
  | _,[]=>[]
  | x,y::l=>if q y x then cpG q y l else y::cpG q y l
def cpL {α:Type} (q:α→α→Bool):List α→List α
  | []=>[]
  | x::l=>x::cpG q x l
theorem rB_ {α:Type} {q:α→α→Bool}:∀ (l:List α) (x z w:α),(x::l)[l.length]? = some w→cpG q x (l++[z])=cpG q x l++(if q z w then [] else [z])
 | [],x,z,w,h=>by
   simp only[List.length_nil,List.getElem?_cons_zero,Option.some.injEq]at h;subst h;simp only[List.nil_append,cpG]
 | y::l,x,z,w,h=>by
   simp only[List.length_cons,List.getElem?_cons_succ]at h;simp only[List.cons_append,cpG];have:=rB_ (q:=q) l y z w h
   split
   · exact this
   · rw[this];rfl
theorem kO_ {α:Type} {q:α→α→Bool} {l:List α} {p:Nat} {w z:α} (k:l[p]? = some w) (m:l[p+1]? = some z):cpL q (l.take (p+2))=cpL q (l.take (p+1))++(if q z w then [] else [z]):=by
  cases l with
  | nil=>simp at k
  | cons x l =>
    have v:=(List.getElem?_eq_some_iff.1 m).1;simp only[List.length_cons]at v;simp only[List.getElem?_cons_succ]at m;have e:l.take (p+1)=l.take p++[z]:=by rw[List.take_add_one,m];rfl
    rw[List.take_succ_cons,List.take_succ_cons,cpL,cpL,e,List.cons_append]
    congr 1
    have h:(l.take p).length=p:=by rw[List.length_take];omega
    refine rB_ (l.take p) x z w ?_;rw[h];cases p with
    | zero=>simpa using k
    | succ p =>
      simp only[List.getElem?_cons_succ]at k ⊢;rw[List.getElem?_take,if_pos zr_];exact k
structure CmI {α:Type} (q:α→α→Bool) (S M:List α) (k p:Nat):Prop where
  len:M.length=S.length
  kp:k<p
  pl:p≤S.length
  rest:∀ j,k≤j→M[j]? = S[j]?
  fst:M.take k=cpL q (S.take p)
theorem CmI.none {α:Type} {q:α→α→Bool} {S:List α} {k:Nat} {x y:α} (A:cpL q (S.take (k+1))=S.take (k+1)) (v:S[k]? = some x) (h:S[k+1]? = some y) (m:q y x=true):CmI q S S (k+1) (k+2) :=
  ⟨rfl,by omega,by have:=(List.getElem?_eq_some_iff.1 h).1;omega,fun _ _=>rfl,by rw[kO_ v h,if_pos m,List.append_nil,A]⟩
theorem CmI.skip {α:Type} {q:α→α→Bool} {S M:List α} {k p:Nat} {x y:α} (h:CmI q S M k (p+1)) (v:M[p]? = some x) (m:M[p+1]? = some y) (A:q y x=true):CmI q S M k (p+2):=by
  have B:=h.kp;rw[h.rest p zr_]at v;rw[h.rest (p+1) zr_]at m;exact⟨h.len,by omega,by have:=(List.getElem?_eq_some_iff.1 m).1;omega,h.rest,by rw[kO_ v m,if_pos A,List.append_nil,h.fst]⟩
theorem CmI.keep {α:Type} {q:α→α→Bool} {S M:List α} {k p:Nat} {x y:α} (h:CmI q S M k (p+1)) (v:M[p]? = some x) (m:M[p+1]? = some y) (B:q y x=false):CmI q S (M.set k y) (k+1) (p+2):=by
 have C:=h.kp;have A:=(List.getElem?_eq_some_iff.1 m).1;rw[h.rest p zr_]at v;rw[h.rest (p+1) zr_]at m;refine⟨by rw[List.length_set];exact h.len,by omega,by have:=(List.getElem?_eq_some_iff.1 m).1;omega,fun j E=>?_,?_⟩
 ·rw[List.getElem?_set_ne zr_];exact h.rest j zr_
 rw[kO_ v m,if_neg (by rw[B];simp),← h.fst,List.take_add_one,List.take_set,List.getElem?_set_self zr_];rw[List.set_eq_of_length_le zbd_];rfl
theorem CmI.done {α:Type} {q:α→α→Bool} {S M:List α} {k:Nat} (h:CmI q S M k S.length):M.take k=cpL q S:=by rw[h.fst,List.take_length]
theorem wL_ {α:Type} {q:α→α→Bool} {S:List α} {k:Nat} {x y:α} (A:cpL q (S.take (k+1))=S.take (k+1)) (v:S[k]? = some x) (h:S[k+1]? = some y) (m:q y x=false):cpL q (S.take (k+2))=S.take (k+2):=by
  rw[kO_ v h,if_neg (by rw[m];simp),A,List.take_add_one (i:=k+1),h];rfl
theorem po_ {α:Type} {q:α→α→Bool} {S:List α} (h:S.length<2):cpL q S=S:=by
  match S,h with
  | [],_=>rfl
  | [x],_=>rfl
end Go.Vs
