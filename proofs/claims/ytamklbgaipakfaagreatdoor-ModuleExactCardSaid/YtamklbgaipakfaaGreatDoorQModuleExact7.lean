/-
  Part of the proof of the law ModuleExact over this seat: the small logic, the data, the contracts of functions (no condition).
-/
import Derived.Test.YtamklbgaipakfaaGreatDoorQModuleExact6
import Derived.SevenTiedAt
import Derived.Stop.Joined
import Derived.Lay
import Derived.LaidMore
import Derived.Test.YtamklbgaipakfaaGreatDoorQModuleExact3
import Derived.Lib.SlicesCompact
import Derived.Sort.EncStr
import Derived.Test.YtamklbgaipakfaaGreatDoorQModuleExact5
import Derived.Test.YtamklbgaipakfaaGreatDoorQModuleExact2
import Derived.Test.YtamklbgaipakfaaGreatDoorProg
import Derived.ArgAppend
set_option linter.unusedVariables false
set_option linter.unusedSimpArgs false
set_option linter.unusedSectionVars false
set_option maxHeartbeats 1000000
namespace Go.Vs
open Go Go.Sx Go.ChangeShapes Go.WideShapes Go.ChangeAt Go.RowKit
section
variable {H:Type} {enc:TypeId×Value→H} {P:Program} {w:World}
mutual
def fr_ {H:Type}:DataW H→List Value
  | .lit (.int k n)=>[.int k n]
  | .lit (.bool b)=>[.bool b]
  | .agg ps=>jf_ ps
  | _=>[]
def jf_ {H:Type}:List (DataW H)→List Value
  | []=>[]
  | d::r=>fr_ d++jf_ r
end
def hm_ (P:Program):Nat→TypeId→Bool
  | 0,_=>false
  | n+1,t=>match P.underlying t with
    | some .bool=>true
    | some (.int _)=>true
    | some (.struct fs)=>fs.toList.all fun f=>hm_ P n f.type
    | some (.array _ e)=>hm_ P n e
    | _=>false
theorem iJ_:∀ l:List (DataW H),jf_ l=l.flatMap fr_
  | []=>by simp[jf_]
  | d::r=>by simp only[jf_,iJ_ r,List.flatMap_cons]
theorem tile:∀ (ls:List Nat) (cs:List Value) (g:List (List Value)),cs.length=ls.sum→g.length=ls.length→(∀ j n,ls[j]? = some n→some ((cs.drop (ls.take j).sum).take n)=g[j]?)→cs=g.flatten
  | [],cs,g,h,hg,_=>by
    simp only[List.sum_nil]at h
    have h1:=List.eq_nil_of_length_eq_zero h
    have h2:g=[]:=List.eq_nil_of_length_eq_zero hg
    simp[h1,h2]
  | n::ls,cs,[],h,hg,hp=>by simp at hg
  | n::ls,cs,x::g,h,hg,hp=>by
    have h0:=hp 0 n rfl
    simp only[List.take_zero,List.sum_nil,List.drop_zero,List.getElem?_cons_zero,Option.some.injEq]at h0
    have ih:=tile ls (cs.drop n) g (by rw[List.length_drop,h];simp) (by simpa using hg) (fun j m hj=>by
      have:=hp (j+1) m hj
      simp only[List.take_succ_cons,List.sum_cons,List.getElem?_cons_succ]at this
      rw[← this,List.drop_drop])
    rw[List.flatten_cons,← ih,← h0,List.take_append_drop]
theorem tM_ {T:TypeId→Prop} {held:Bool} (K:Kids P T):∀ (n m:Nat) (t:TypeId) (cs:List Value) (x:DataW H×List MemPlace),T t→hm_ P m t=true→DataW.trod enc P w 0 (fun _=>true) held n t cs=some x→cs=fr_ x.1:=by
 intro n
 induction n with
 | zero=>intro m t cs x _ _ h;simp[DataW.trod]at h
 | succ n ih =>
   intro m t cs x hT hb h
   cases m with
   | zero=>simp[hm_]at hb
   | succ m =>
   cases hu:P.underlying t with
   | none=>simp[hm_,hu]at hb
   | some d =>
     cases d with
     | bool=>obtain⟨b,rfl,rfl⟩:=DataW.trod_bool hu h;simp[fr_]
     | int k=>obtain⟨b,rfl,rfl,_⟩:=DataW.trod_int hu h;simp[fr_]
     | struct fs =>
       obtain⟨xs,m',hn,rfl,hl,hlen,hf⟩:=DataW.trod_struct hu h
       obtain rfl:m'=n:=by omega
       obtain⟨k1,k2,k3⟩:=K.struct hT hu
       simp only[hm_,hu]at hb
       simp only[fr_]
       rw[iJ_,List.flatMap_def,List.map_map]
       refine tile (fs.toList.map fun f=>P.cellsOf f.type) cs _ (by rw[hl,k2]) (by simp[hlen]) fun j q hq=>?_
       rw[List.getElem?_map,Option.map_eq_some_iff]at hq
       obtain⟨f,hf',rfl⟩:=hq
       have h1:=hf j f (by simpa using hf')
       have h2:=k3 j f hf'
       have hj:j<xs.length:=by rw[hlen];have:=(List.getElem?_eq_some_iff.1 hf').1;simpa using this
       rw[List.getElem?_eq_getElem hj]at h1
       have h3:=ih m f.type _ _ (k1 f (List.mem_of_getElem? hf')) (List.all_eq_true.1 hb f (List.mem_of_getElem? hf')) h1
       rw[List.getElem?_map,List.getElem?_eq_getElem hj,← List.map_take,← h2,h3]
       rfl
     | array len e =>
       obtain⟨xs,m',hn,rfl,hl,hlen,hf⟩:=DataW.trod_array hu h
       obtain rfl:m'=n:=by omega
       obtain⟨k1,k2⟩:=K.array hT hu
       simp only[hm_,hu]at hb
       simp only[fr_]
       rw[iJ_,List.flatMap_def,List.map_map]
       refine tile (List.replicate len (P.cellsOf e)) cs _ (by rw[hl,k2];simp) (by simp[hlen]) fun j q hq=>?_
       rw[List.getElem?_replicate]at hq
       split at hq
       · rename_i hj
         simp only[Option.some.injEq]at hq
         subst hq
         have h1:=hf j hj
         have hjx:j<xs.length:=by omega
         rw[List.getElem?_eq_getElem hjx]at h1
         have h3:=ih m e _ _ k1 hb h1
         rw[List.getElem?_map,List.getElem?_eq_getElem hjx,List.take_replicate,List.sum_replicate_nat,Nat.min_eq_left (by omega),h3]
         rfl
       · cases hq
     | _=>simp[hm_,hu]at hb
end
section
variable {H:Type} {enc:TypeId×Value→H} {P:Program} {W W':World}
theorem iC_:∀ {ts:List TypeId} {vs:List Value} {ds:List (DataW H)} {ps:List MemPlace} {sp:Nat→Bool},DataW.TrodAll enc P W 0 sp true ts vs ds ps→(∀ p∈ps,W.sameAt W' p)→DataW.TrodAll enc P W' 0 sp true ts vs ds ps
  | [],[],[],_,_,h,_=>h
  | _::_,_::_,_::_,_,_,⟨p,q,⟨n,h1⟩,h2,e⟩,hs=>⟨p,q,⟨n,DataW.trod_carry n _ _ _ h1 (fun x hx=>hs x (by rw[e];exact List.mem_append_left _ hx))⟩,iC_ h2 (fun x hx=>hs x (by rw[e];exact List.mem_append_right _ hx)),e⟩
theorem ua_ {T:TypeId→Prop} (K:Kids P T) (hz:∀ t e,T t→P.underlying t=some (.slice e)→0<P.cellsOf e) {f:Func} {s:ChangeSpec} {args:Array Value} {ds:List (DataW H)} {before:List MemPlace} {tb:TypeId} (hts:∀ t∈f.params.toList,T t) (hvars:s.vars=[])
    (hW:DataW.Whole enc P f.params.toList s.vars false W args.toList ds [] before) (hs:s.fn H (ds++[])={ results:=[.lit (.bool true)],args:=ds }) (hres:f.resultTypes=#[tb]) (hb:P.underlying tb=some .bool) {v':Vw} (hto:(vw W).to [] v' []) :
    s.post enc P f false true false false W args (.bool true) v'.w:=by
  have hW':=hW
  obtain⟨p,q,hA,hV,hp,_,_⟩:=hW
  have hq:q=[]:=by rw[hvars]at hV;exact hV
  subst hq
  simp only[List.append_nil]at hp
  subst hp
  have hblk:∀ b,b<W.heap.size→v'.w.heap[b]? = W.heap[b]? := fun b hb=>hto.block b hb (by simp)
  have hsame:∀ x∈before,W.sameAt v'.w x:=fun x hx=>by
    have hlt:=DataW.TrodAll.lt hA x hx
    cases x with
    | cell b off=>exact World.cell?_of_block (hblk b hlt)
    | map b=>exact hblk b hlt
  have hA':=iC_ hA hsame
  have hA'':=DataW.TrodAll.respare K hz (spare':=fun b=>decide (b<W.heap.size)) hts hA' (fun x hx=>by simpa using DataW.TrodAll.lt hA x hx)
  refine⟨ds,[],before,[],before,[],hW',?_,?_,?_,⟨hto.os,hto.output,fun i hi=>?_⟩,fun h=>by cases h⟩
  · rw[hs,hres];exact trodAll_mk1 (shut_bool hb true)
  · rw[hs];exact hA''
  · rw[hs,hvars];rfl
  · rw[hblk i hi]
    have hsome:∃ o,W.heap[i]? = some o:=⟨_,Array.getElem?_eq_getElem hi⟩
    obtain⟨o,ho⟩:=hsome
    rw[ho]
    cases o<;>simp
section
variable {tI tB tS tSs tC tCs tA tAs tP tPs:TypeId} (X:Tys P tI tB tS tSs tC tCs tA tAs tP tPs) {base:Nat} {v:Value} {d:DataW H} {ps:List MemPlace}
include X
theorem wa_ (hval:Value.okWide P W .any base tAs v) (h:DataW.Trod enc P W 0 (fun _=>true) true tAs v d ps) (hw:wok (d.weights P tAs)) :
    ∃ (l:List Ax) (ad:Option Addr) (cap:Nat),v=.slice ad l.length cap∧(dw_ ad l).p (vw W)∧(∀ y∈l,y.ok)∧l.length≤cap∧cap≤2199023255488:=by
  obtain⟨a,len,cap,rfl⟩:=okWide_slice X.axs hval
  obtain⟨n,hn⟩:=h
  obtain⟨l,ad,cap',e,h1⟩:=axs_of X hn hw
  simp only[Value.cells,List.cons.injEq,and_true]at e
  exact⟨l,ad,cap',e,h1⟩
theorem uE_ (hval:Value.okWide P W .any base tSs v) (h:DataW.Trod enc P W 0 (fun _=>true) true tSs v d ps) (hw:wok (d.weights P tSs)) :
    ∃ (l:List Str) (ad:Option Addr) (cap:Nat),v=.slice ad l.length cap∧bY_ (vw W) ad (l.flatMap aE_)∧(∀ s∈l,s.length≤140737488351232)∧l.length≤cap∧cap≤8796093021952:=by
  obtain⟨a,len,cap,rfl⟩:=okWide_slice X.ss hval
  obtain⟨n,hn⟩:=h
  obtain⟨l,ad,cap',e,h1⟩:=rk_ X hn hw
  simp only[Value.cells,List.cons.injEq,and_true]at e
  exact⟨l,ad,cap',e,h1⟩
end
theorem jc_ {T:TypeId→Prop} (K:Kids P T) {name:String} {d:DataW Unit} {laid:List (String×DataW Unit)} {W:World} (h:laidMet P laid W) (hm:(name,d)∈laid) {g:Nat} {t:TypeId} (hg:P.globalNamed name=some g) (ht':(P.globals[g]?).map (·.type)=some t) (hT:T t) {m:Nat} (hb:hm_ P m t=true) :
    ∃ T' fz,W.heap[g]? = some (.cells (fr_ d).toArray T' fz):=by
  obtain⟨ps,hl,_,_⟩:=h
  have key:∀ (l:List (String×DataW Unit)) (ps:List MemPlace),DataW.LaidVars P W l ps→(name,d)∈l→∃ g t cs n p,P.globalNamed name=some g∧(P.globals[g]?).map (·.type)=some t∧W.var? P name=some cs∧DataW.trod (fun _=>()) P W 0 (fun _=>true) false n t cs.toList=some (d,p):=by
    intro l
    induction l with
    | nil=>intro ps _ h;cases h
    | cons x r ih =>
      intro ps h hm
      obtain⟨n',d'⟩:=x
      obtain⟨g,t,cs,fuel,p,q,h1,h2,h3,h4,h5,_⟩:=h
      rcases List.mem_cons.1 hm with e|hm
      · cases e;exact⟨g,t,cs,fuel,p,h1,h2,h3,h4⟩
      · exact ih q h5 hm
  obtain⟨g',t',cs,n,p,h1,h2,h3,h4⟩:=key laid ps hl hm
  obtain rfl:g'=g:=Option.some.inj (h1.symm.trans hg)
  obtain rfl:t'=t:=Option.some.inj (h2.symm.trans ht')
  have e:=tM_ K n m t' cs.toList _ hT hb h4
  simp only[World.var?,hg,Option.bind_some]at h3
  split at h3
  · rename_i c T' fz hc
    simp only[Option.some.injEq]at h3
    subst h3
    exact⟨T',fz,by rw[hc,← e]⟩
  · cases h3
end
end Go.Vs
namespace Go.Vs
open Go Go.Sx
theorem iW_ {s:Str} (h:hJ_ s=true):∃ c t,s=c::t∧fk_ c=true∧ko_ s=true:=by
  cases s with
  | nil=>simp[hJ_]at h
  | cons c t =>
    simp only[hJ_,Bool.and_eq_true]at h
    exact⟨c,t,rfl,h.1.1.2,h.1.2⟩
theorem qr_ {s:Str} (h:bC_ s=true):∃ c t,s=c::t∧fk_ c=true:=by
  unfold bC_ at h
  simp only[Bool.and_eq_true]at h
  cases hx:ixS 58 s with
  | none=>rw[hx]at h;obtain⟨c,t,h1,h2,_⟩:=iW_ h.2;exact⟨c,t,h1,h2⟩
  | some k =>
    rw[hx]at h
    simp only[Bool.and_eq_true]at h
    obtain⟨c,t,h1,h2,_⟩:=iW_ h.2.1
    cases s with
    | nil=>simp at h1
    | cons d u =>
      cases k with
      | zero=>simp at h1
      | succ k=>simp only[List.take_succ_cons,List.cons.injEq]at h1;exact⟨d,u,rfl,h1.1▸h2⟩
theorem lg_ {s:Str} (h:ko_ s=true):∀ c∈s,fN_ c=true:=fun c hc=>List.all_eq_true.1 h c hc
theorem sD_ {c:UInt8} {s:Str} {k:Nat} (h:ixS c s=some k):s=s.take k++c::s.drop (k+1):=by
 induction s generalizing k with
 | nil=>simp[ixS]at h
 | cons b s ih =>
   simp only[ixS]at h
   split at h
   · rename_i hb
     simp only[Option.some.injEq]at h
     subst h;subst hb;simp
   · cases hx:ixS c s with
     | none=>rw[hx]at h;simp at h
     | some j =>
       rw[hx]at h
       simp only[Option.map_some,Option.some.injEq]at h
       subst h
       simp only[List.take_succ_cons,List.drop_succ_cons,List.cons_append]
       rw[← ih hx]
theorem sn_ {s:Str} (h:bC_ s=true):∀ c∈s,fN_ c=true∨c=58:=by
 unfold bC_ at h
 simp only[Bool.and_eq_true]at h
 cases hx:ixS 58 s with
 | none=>rw[hx]at h;obtain⟨_,_,_,_,h3⟩:=iW_ h.2;exact fun c hc=>.inl (lg_ h3 c hc)
 | some k =>
   rw[hx]at h
   simp only[Bool.and_eq_true]at h
   obtain⟨_,_,_,_,h3⟩:=iW_ h.2.1
   obtain⟨_,_,_,_,h4⟩:=iW_ h.2.2
   intro c hc
   rw[sD_ hx]at hc
   rcases List.mem_append.1 hc with hc|hc
   · exact .inl (lg_ h3 c hc)
   · rcases List.mem_cons.1 hc with rfl|hc
     · exact .inr rfl
     · exact .inl (lg_ h4 c hc)
theorem kw_ {c:UInt8}:∀ {s:Str},c ∉ s→ixS c s=none
  | [],_=>rfl
  | b::s,h=>by
    simp only[List.mem_cons,not_or]at h
    simp only[ixS]
    rw[if_neg (fun e=>h.1 e.symm),kw_ h.2];rfl
theorem hQ_ {s:Str} (h:bC_ s=true):bf_ 46 s=[s] :=
  fB_ (kw_ fun hm=>by rcases sn_ h 46 hm with h|h<;>revert h<;>decide)
theorem dB_ {s:Str} (h:bC_ s=true):aX_ s=true:=by simp[aX_,h]
theorem dO_ {s:Str} (h:bC_ s=true):cA_ s=true:=by
  unfold cA_
  rw[hQ_ h]
  simp[dB_ h]
theorem ln_ (c:UInt8):∀ (f r:Str),bf_ c (f++[c]++r)=bf_ c f++bf_ c r
 | [],r=>by simp[bf_]
 | b::f,r=>by
   have ih:=ln_ c f r
   simp only[List.append_assoc,List.cons_append,List.nil_append]at ih ⊢
   by_cases hb:b=c
   · subst hb;simp only[bf_,if_true,ih,List.cons_append]
   · simp only[bf_,hb,if_false,ih]
     cases hs:bf_ c f with
     | nil=>exact absurd hs (jM_ c f)
     | cons x t=>simp
theorem qF_ {c:UInt8} (h:fk_ c=true):c≠42∧c≠33∧c≠123∧c≠60∧c≠95:=by
  refine⟨?_,?_,?_,?_,?_⟩<;>rintro rfl<;>revert h<;>decide
theorem ra_ {s:Str} (h:bC_ s=true):aM_ s=true:=by
  obtain⟨c,t,rfl,hc⟩:=qr_ h
  obtain⟨h1,h2,h3,h4,_⟩:=qF_ hc
  unfold aM_
  rw[if_neg (by simp[h1,h2]),if_neg (by simp[h3]),if_neg (by simp[h4])]
  exact dB_ h
theorem jE_ {s:Str} (h:aX_ s=true):aM_ ([123]++s++[125])=true:=by
  unfold aM_
  have e:([123]++s++[125]).length=s.length+2:=by simp
  rw[if_neg (by simp),if_pos (by
    refine⟨by omega,by simp,?_⟩
    rw[List.getElem?_append_right (by simp)];simp)]
  rw[e]
  have:(List.drop 1 ([123]++s++[125])).take (s.length+2 - 1 - 1)=s:=by simp
  rw[this];exact h
theorem rb_ {t:Str} (h:t≠[]):aM_ ([60]++t++[62])=true:=by
  unfold aM_
  have hl:0<t.length:=List.length_pos_iff.2 h
  have e:([60]++t++[62]).length=t.length+2:=by simp
  rw[if_neg (by simp),if_neg (by simp),if_pos (by
    refine⟨by omega,by simp,?_⟩
    rw[List.getElem?_append_right (by simp)];simp)]
namespace Con
def dep:Con→Nat
  | mk _ _ _ _ _ _ ps=>deps ps
where deps:List Con→Nat
  | []=>0
  | p::ps=>max (1+dep p) (deps ps)
theorem od_ {p:Con}:∀ {ps:List Con},p∈ps→1+p.dep≤dep.deps ps
 | q::ps,h=>by
   rcases List.mem_cons.1 h with rfl|h
   · simp only[dep.deps];omega
   · have:=od_ h;simp only[dep.deps];omega
theorem oe_ (c:Con):c.dep=dep.deps c.parts:=by cases c;rfl
theorem sz_eq (c:Con):c.sz=1+sz.szs c.parts:=by cases c;rfl
theorem pH_:∀ (m:Nat) (c:Con),c.sz≤m→∀ d n,(c.fits d n).1=true↔d+c.dep≤8∧n+c.sz≤64
 | 0,c,h=>by have:=c.sz_pos;omega
 | m+1,c,h=>fun d n=>by
   have key:∀ ps:List Con,(∀ p∈ps,p.sz≤m)→∀ n,n≤64→((fits.fitss ps (d+1) n).1=true↔(∀ p∈ps,d+1+p.dep≤8)∧n+sz.szs ps≤64):=by
     intro ps
     induction ps with
     | nil=>intro _ n hn;simp[fits.fitss,sz.szs,hn]
     | cons p ps ih =>
       intro hp n hn
       have h1:=pH_ m p (hp p (by simp)) (d+1) n
       simp only[fits.fitss,sz.szs,List.mem_cons,forall_eq_or_imp]
       rcases hq:p.fits (d+1) n with⟨b,q⟩
       rw[hq]at h1
       cases b with
       | true =>
         have hs:=nU_ _ p (Nat.le_refl _) (d+1) n (by rw[hq])
         rw[hq]at hs
         simp only at hs h1 ⊢
         have h2:=h1.1 trivial
         rw[ih (fun r hr=>hp r (by simp[hr])) q (by omega)]
         constructor
         · rintro ⟨a,b⟩;exact⟨⟨h2.1,a⟩,by omega⟩
         · rintro ⟨⟨_,a⟩,b⟩;exact⟨a,by omega⟩
       | false =>
         simp only[Bool.false_eq_true,false_iff]at h1 ⊢
         rintro ⟨⟨a,_⟩,b⟩
         exact h1 ⟨a,by omega⟩
   have hd:=oe_ c
   have hz:=sz_eq c
   rw[fits_eq]
   split
   · rename_i hc
     simp only[Bool.or_eq_true,decide_eq_true_eq]at hc
     simp only[Bool.false_eq_true,false_iff]
     rintro ⟨a,b⟩
     omega
   · rename_i hc
     simp only[Bool.or_eq_true,decide_eq_true_eq,not_or]at hc
     rw[key c.parts (fun p hp=>by have:=sz_part hp;omega) (n+1) (by omega),hd,hz]
     constructor
     · rintro ⟨a,b⟩
       refine⟨?_,by omega⟩
       have:∀ ps:List Con,(∀ p∈ps,d+1+p.dep≤8)→d+dep.deps ps≤8:=by
         intro ps
         induction ps with
         | nil=>intro _;simp[dep.deps];omega
         | cons p ps ih =>
           intro hp
           have h1:=hp p (by simp)
           have h2:=ih fun q hq=>hp q (by simp[hq])
           simp only[dep.deps];omega
       exact this _ a
     · rintro ⟨a,b⟩
       exact⟨fun p hp=>by have:=od_ hp;omega,by omega⟩
theorem nj_ (c:Con):c.check=0↔c.dep≤8∧c.sz≤64∧c.fine:=by
 unfold check fine
 have h:=pH_ _ c (Nat.le_refl _) 0 0
 by_cases hf:(c.fits 0 0).1=true
 ·rw[if_pos hf]
  have:=h.1 hf
  constructor
  ·intro e;exact⟨by omega,by omega,e⟩
  exact fun e=>e.2.2
 rw[if_neg hf]
 constructor
 ·intro e;cases e
 intro e;exact absurd (h.2 ⟨by omega,by omega⟩) hf
theorem cF_ {c p:Con} (h:c.check=0) (hp:p∈c.parts):p.check=0:=by
  rw[nj_]at h ⊢
  have h1:=od_ hp
  rw[← oe_]at h1
  have h2:=sz_part hp
  exact⟨by omega,by omega,fine_part h.2.2 hp⟩
structure Names (c:Con):Prop where
  plain:c.kind=3∨c.kind=6∨c.kind=7→bC_ c.name=true
  person:c.kind=4→aX_ c.name=true
  nums:c.kind=7→-1099511627776≤c.lo∧c.lo≤c.hi∧c.hi≤1099511627776
theorem lE_ {c:Con} (h:c.fine):Names c:=by
 have F:=fields h
 have hk:c.kind=1∨c.kind=2∨c.kind=3∨c.kind=4∨c.kind=5∨c.kind=6∨c.kind=7:=by have:=F.k1;have:=F.k7;omega
 have h0:=((jw_ c).1 h).1
 unfold fieldErr at h0
 rw[if_neg (by have:=F.k1;have:=F.k7;omega)]at h0
 split at h0
 ·cases h0
 split at h0
 ·cases h0
 rename_i h3
 split at h0
 ·cases h0
 split at h0
 ·rename_i h5
  refine⟨fun e=>?_,fun e=>?_,fun e=>?_⟩
  ·rcases e with e|e|e<;>rw[e]at h5<;>simpa [nd,eT_] using h5
  ·rw[e]at h5
   simp[nd,eT_]at h5
   simp[aX_,h5]
  rw[e]at h3
  simp[nd,eT_]at h3
  omega
 cases h0
theorem lK_ (x y:Str) (r:List Str) (sep:Str):Lib.join (x::y::r) sep=x++sep++Lib.join (y::r) sep:=by simp[Lib.join,List.intercalate]
theorem uT_ {c:Con} (h:c.fine) (hk:5≤c.kind):c.text≠[]:=by
 have F:=fields h
 have h7:=F.k7
 rw[text_eq,if_neg (by omega),if_neg (by omega),if_neg (by omega),if_neg (by omega)]
 split
 ·rename_i h5
  have hl:=F.le
  rw[h5]at hl
  simp[nd,eT_]at hl
  match hp:c.parts,hl with
  | [],hl=>simp at hl
  | [_],hl=>simp at hl
  | p::q::r,_=>simp only[List.map_cons,lK_];simp
 split
 ·simp only[lK_];simp
 simp only[lK_];simp
theorem atom_ok {c:Con} (h:c.check=0):aM_ c.atom=true:=by
 have hf:=(check_zero h).1
 have F:=fields hf
 have N:=lE_ hf
 have h1:=F.k1
 have h7:=F.k7
 unfold atom
 split
 ·rfl
 split
 ·rfl
 split
 ·exact ra_ (N.plain (by omega))
 split
 ·exact jE_ (N.person (by omega))
 unfold textN
 rw[if_pos h]
 exact rb_ (uT_ hf (by omega))
theorem atom_len {c:Con} (hok:c.ok) (h:c.check=0):c.atom.length≤7000:=by
  have F:=fields (check_zero h).1
  have hn:=F.nm
  have ht:=textN_len hok
  unfold atom
  repeat' split
  all_goals simp<;>omega
theorem sj_ {c:Con} (h:c.check=0) (hk:c.kind=5) {j:Nat} (h2:2≤j) (hj:j≤c.parts.length):(c.pre j).check=0:=by
 have hf:=(check_zero h).1
 have F:=fields hf
 have hmo:=F.mo
 rw[hk]at hmo
 simp[nd,eT_]at hmo
 rw[nj_]at h ⊢
 have key:∀ (ps:List Con) (j:Nat),sz.szs (ps.take j)≤sz.szs ps∧dep.deps (ps.take j)≤dep.deps ps:=by
   intro ps
   induction ps with
   | nil=>intro j;simp
   | cons p ps ih =>
     intro j
     cases j with
     | zero=>simp[sz.szs,dep.deps]
     | succ j=>have:=ih j;simp only[List.take_succ_cons,sz.szs,dep.deps];omega
 have h1:=key c.parts j
 have e1:=oe_ c
 have e2:=sz_eq c
 refine⟨?_,?_,?_⟩
 ·rw[oe_];show dep.deps (c.parts.take j)≤8;omega
 ·rw[sz_eq];show 1+sz.szs (c.parts.take j)≤64;omega
 rw[jw_]
 refine⟨?_,fun p hp=>fine_part hf (List.mem_of_mem_take hp)⟩
 unfold fieldErr
 have hlen:(c.pre j).parts.length=j:=by show (c.parts.take j).length=j;simp;omega
 rw[if_neg (by show ¬ ((5:Int)<1∨7<(5:Int));omega)]
 simp only[hlen]
 have hk5:(c.pre j).kind=5:=rfl
 rw[hk5]
 simp[nd,eT_,pre,name,lo,hi]
 omega
end Con
end Go.Vs
namespace Go.Vs
open Go Go.Sx
structure PQ (f:Int) (q:Pc):Prop where
  frm:q.frm=f
  sm:q.sm
  ok:q.valid=true
section
variable {f:Int} (h0:-1≤f) (h1:f<1024) {a b c r s t:Str} {lo hi:Int}
include h0 h1
theorem tn_ (ha:aM_ a=true) (hc:aM_ c=true):Pc.valid ⟨1,a,[],c,[],[],[],0,0,f⟩=true:=by
  unfold Pc.valid;rw[if_neg (by simp;omega)];simp[nus,gk_,ch_,ha,hc]
theorem val2 (ha:aM_ a=true) (hb:aM_ b=true) (hc:aM_ c=true):Pc.valid ⟨2,a,b,c,[],[],[],0,0,f⟩=true:=by
  unfold Pc.valid;rw[if_neg (by simp;omega)];simp[nus,gk_,ch_,ha,hb,hc]
theorem val3 (ha:aM_ a=true) (hr:cA_ r=true) (hc:aM_ c=true):Pc.valid ⟨3,a,[],c,r,[],[],0,0,f⟩=true:=by
  unfold Pc.valid;rw[if_neg (by simp;omega)];simp[nus,gk_,ch_,ha,hr,hc]
theorem val4 (ha:aM_ a=true) (hr:cA_ r=true) (hc:aM_ c=true):Pc.valid ⟨4,a,[],c,r,[],[],0,0,f⟩=true:=by
  unfold Pc.valid;rw[if_neg (by simp;omega)];simp[nus,gk_,ch_,ha,hr,hc]
theorem val5 (hr:cA_ r=true) (ht:cA_ t=true):Pc.valid ⟨5,[],[],[],r,[],t,0,0,f⟩=true:=by
  unfold Pc.valid;rw[if_neg (by simp;omega)];simp[nus,gk_,ch_,hr,ht]
theorem val6 (hr:cA_ r=true) (hs:cA_ s=true) (ht:cA_ t=true):Pc.valid ⟨6,[],[],[],r,s,t,0,0,f⟩=true:=by
  unfold Pc.valid;rw[if_neg (by simp;omega)];simp[nus,gk_,ch_,hr,hs,ht]
theorem val7 (hr:cA_ r=true):Pc.valid ⟨7,[],[],[],r,[],[],0,0,f⟩=true:=by
  unfold Pc.valid;rw[if_neg (by simp;omega)];simp[nus,gk_,ch_,hr]
theorem val8 (ha:aM_ a=true) (hr:aX_ r=true) (hn:-1099511627776≤lo∧lo≤hi∧hi≤1099511627776):Pc.valid ⟨8,a,[],[],r,[],[],lo,hi,f⟩=true:=by
  unfold Pc.valid;rw[if_neg (by simp;omega),if_neg (by simp[nus,gk_];omega)];simp[nus,gk_,ch_,ha,hr]
theorem val9 (hc:aM_ c=true) (hr:aX_ r=true) (hn:-1099511627776≤lo∧lo≤hi∧hi≤1099511627776):Pc.valid ⟨9,[],[],c,r,[],[],lo,hi,f⟩=true:=by
  unfold Pc.valid;rw[if_neg (by simp;omega),if_neg (by simp[nus,gk_];omega)];simp[nus,gk_,ch_,hc,hr]
end
theorem dL_ {Q:Pc→Prop} {f:Int} {l:List Pc} {p:Pc} (hl:∀ q∈l,Q q) (hp:Q { p with frm:=f }):∀ q∈ins f l p,Q q:=by
 unfold ins
 split
 ·exact hl
 intro q hq
 rcases List.mem_append.1 hq with hq|hq
 ·exact hl q hq
 simp only[List.mem_singleton]at hq;subst hq;exact hp
theorem eh_ {s:Str} (h:bC_ s=true):s.length≤24:=Con.plain_len h
theorem jU_ {s:Str} (h:aX_ s=true):s.length≤24:=by
 simp only[aX_,Bool.or_eq_true]at h
 rcases h with h|h
 ·exact Con.plain_len h
 exact Con.reserved_len h
namespace Con
section
variable {f:Int} (h0:-1≤f) (h1:f<1024)
include h0 h1
theorem pW_ (c:Con) (hok:c.ok) (hc:c.check=0) (hk:c.kind=5):∀ (r:List Con) (j:Nat) (a:Str) (l:List Pc),1≤j→j+r.length≤c.parts.length→(∀ p∈r,p∈c.parts)→aM_ a=true→a.length≤7000→(∀ q∈l,PQ f q)→∀ q∈andP f c r j a l,PQ f q
  | [],_,_,l,_,_,_,_,_,hl=>hl
  | p::r,j,a,l,hj,hlen,hm,ha,hal,hl=>by
    simp only[List.length_cons]at hlen
    have hp:=hm p (by simp)
    have hpre:=sj_ hc hk (j:=j+1) (by omega) (by omega)
    have x1:=atom_ok hpre
    have x2:=atom_len (pre_ok hok (j+1)) hpre
    have x3:=atom_ok (cF_ hc hp)
    have x4:=atom_len (ok_part hok hp) (cF_ hc hp)
    simp only[andP]
    exact pW_ c hok hc hk r (j+1) _ _ (by omega) (by omega) (fun q hq=>hm q (by simp[hq])) x1 x2
      (dL_ hl ⟨rfl,⟨by dsimp only;omega,by dsimp only;omega,by dsimp only;omega,by simp,by simp,by simp⟩,val2 h0 h1 ha x3 x1⟩)
theorem leftP_all:∀ (m:Nat) (c:Con),c.sz≤m→c.ok→c.check=0→∀ l,(∀ q∈l,PQ f q)→∀ q∈c.leftP f l,PQ f q
 | 0,c,h=>by have:=c.sz_pos;omega
 | m+1,c,h=>fun hok hc l hl=>by
   have key:∀ ps:List Con,(∀ p∈ps,p∈c.parts)→∀ l,(∀ q∈l,PQ f q)→∀ q∈leftP.lefts f ps l,PQ f q:=by
     intro ps
     induction ps with
     | nil=>intro _ l hl;exact hl
     | cons p ps ih =>
       intro hp l hl
       have hpm:=hp p (by simp)
       exact ih (fun q hq=>hp q (by simp[hq])) _ (leftP_all m p (by have:=sz_part hpm;omega) (ok_part hok hpm) (cF_ hc hpm) l hl)
   have hk:=key c.parts (fun _ h=>h) l hl
   have F:=fields (check_zero hc).1
   have N:=lE_ (check_zero hc).1
   have ca:=atom_ok hc
   have cl:=atom_len hok hc
   rw[leftP_eq]
   split
   · rename_i h5
     have hle:=F.le
     rw[h5]at hle
     simp[nd,eT_]at hle
     match hp:c.parts,hle with
     | [],hle=>simp at hle
     | p::r,_ =>
       have hpm:p∈c.parts:=by rw[hp];simp
       have x3:=atom_ok (cF_ hc hpm)
       have x4:=atom_len (ok_part hok hpm) (cF_ hc hpm)
       refine pW_ h0 h1 c hok hc h5 _ 1 _ _ (by omega) (by rw[hp];simp;omega) (fun q hq=>by rw[hp];exact List.mem_of_mem_drop hq) (by simpa using x3) (by simpa using x4) (by rw[hp]at hk;exact hk)
   · split
     · rename_i h6
       have hle:=F.le
       rw[h6]at hle
       simp[nd,eT_]at hle
       have hpl:=N.plain (.inr (.inl h6))
       match hp:c.parts,hle with
       | [],hle=>simp at hle
       | p::r,_ =>
         have hpm:p∈c.parts:=by rw[hp];simp
         have x3:=atom_ok (cF_ hc hpm)
         have x4:=atom_len (ok_part hok hpm) (cF_ hc hpm)
         have x5:=eh_ hpl
         rw[hp]at hk
         exact dL_ hk ⟨rfl,⟨by simp;omega,by simp,by dsimp only;omega,by dsimp only;omega,by simp,by simp⟩,val4 h0 h1 (by simpa using x3) (dO_ hpl) ca⟩
     · split
       · rename_i h7
         have hpl:=N.plain (.inr (.inr h7))
         have x5:=eh_ hpl
         exact dL_ hl ⟨rfl,⟨by simp,by simp,by dsimp only;omega,by dsimp only;omega,by simp,by simp⟩,val9 h0 h1 ca (dB_ hpl) (N.nums h7)⟩
       · exact hl
theorem rightP_all:∀ (m:Nat) (c:Con),c.sz≤m→c.ok→c.check=0→∀ l,(∀ q∈l,PQ f q)→∀ q∈c.rightP f l,PQ f q
 | 0,c,h=>by have:=c.sz_pos;omega
 | m+1,c,h=>fun hok hc l hl=>by
   have ca:=atom_ok hc
   have cl:=atom_len hok hc
   have key:∀ ps:List Con,(∀ p∈ps,p∈c.parts)→∀ l,(∀ q∈l,PQ f q)→∀ q∈rightP.rights f c.atom ps l,PQ f q:=by
     intro ps
     induction ps with
     | nil=>intro _ l hl;exact hl
     | cons p ps ih =>
       intro hp l hl
       have hpm:=hp p (by simp)
       have x3:=atom_ok (cF_ hc hpm)
       have x4:=atom_len (ok_part hok hpm) (cF_ hc hpm)
       exact ih (fun q hq=>hp q (by simp[hq])) _ (rightP_all m p (by have:=sz_part hpm;omega) (ok_part hok hpm) (cF_ hc hpm) _
         (dL_ hl ⟨rfl,⟨by dsimp only;omega,by simp,by dsimp only;omega,by simp,by simp,by simp⟩,tn_ h0 h1 ca x3⟩))
   have key2:∀ ps:List Con,(∀ p∈ps,p∈c.parts)→∀ l,(∀ q∈l,PQ f q)→∀ q∈rightP.righty f ps l,PQ f q:=by
     intro ps
     induction ps with
     | nil=>intro _ l hl;exact hl
     | cons p ps ih =>
       intro hp l hl
       have hpm:=hp p (by simp)
       exact ih (fun q hq=>hp q (by simp[hq])) _ (rightP_all m p (by have:=sz_part hpm;omega) (ok_part hok hpm) (cF_ hc hpm) l hl)
   have F:=fields (check_zero hc).1
   have N:=lE_ (check_zero hc).1
   rw[rightP_eq]
   split
   · exact key c.parts (fun _ h=>h) l hl
   · split
     · rename_i h6
       have hle:=F.le
       rw[h6]at hle
       simp[nd,eT_]at hle
       have hpl:=N.plain (.inr (.inl h6))
       have x5:=eh_ hpl
       refine key2 c.parts (fun _ h=>h) _ (dL_ hl ?_)
       match hp:c.parts,hle with
       | [],hle=>simp at hle
       | p::r,_ =>
         have hpm:p∈c.parts:=by rw[hp];simp
         have x3:=atom_ok (cF_ hc hpm)
         have x4:=atom_len (ok_part hok hpm) (cF_ hc hpm)
         exact⟨rfl,⟨by dsimp only;omega,by simp,by simp;omega,by dsimp only;omega,by simp,by simp⟩,val3 h0 h1 ca (dO_ hpl) (by simpa using x3)⟩
     · split
       · rename_i h7
         have hpl:=N.plain (.inr (.inr h7))
         have x5:=eh_ hpl
         exact dL_ hl ⟨rfl,⟨by dsimp only;omega,by simp,by simp,by dsimp only;omega,by simp,by simp⟩,val8 h0 h1 ca (dB_ hpl) (N.nums h7)⟩
       · exact hl
end
end Con
namespace Ax
section
variable {f:Int} (h0:-1≤f) (h1:f<1024)
include h0 h1
theorem lZ_ (role:Str) (hr:bC_ role=true):∀ (rs:List Str) (g:Str) (l:List Pc),(∀ r∈rs,bC_ r=true)→(bf_ 46 g).length+rs.length≤4→((bf_ 46 g).all aX_=true)→g.length≤100*(bf_ 46 g).length→(∀ q∈l,PQ f q)→∀ q∈chainP f role rs g l,PQ f q
 | [],_,_,_,_,_,_,hl=>hl
 | r::t,g,l,hp,hn,hg,hgl,hl=>by
   have hpr:=hp r (by simp)
   have hrl:=eh_ hpr
   have hrol:=eh_ hr
   simp only[List.length_cons]at hn
   have hgr:cA_ g=true:=by
     unfold cA_
     rw[decide_eq_true (by omega)]
     simp only[Bool.true_and,Bool.not_eq_true']
     rw[List.any_eq_false]
     intro y hy
     simp[List.all_eq_true.1 hg y hy]
   simp only[chainP]
   by_cases ht:t=[]
   · subst ht
     simp only[if_true,chainP]
     exact dL_ hl ⟨rfl,⟨by simp,by simp,by simp,by dsimp only;omega,by dsimp only;omega,by dsimp only;omega⟩,val6 h0 h1 hgr (dO_ hpr) (dO_ hr)⟩
   · simp only[ht,if_false]
     have htl:0<t.length:=List.length_pos_iff.2 ht
     have e:=ln_ 46 g r
     rw[hQ_ hpr]at e
     have hall:(bf_ 46 (g++[46]++r)).all aX_=true:=by rw[e,List.all_append,hg];simp[dB_ hpr]
     have hlen:(bf_ 46 (g++[46]++r)).length=(bf_ 46 g).length+1:=by rw[e];simp
     have hgl2:(g++[46]++r).length≤100*(bf_ 46 (g++[46]++r)).length:=by rw[hlen];simp;omega
     have hgr2:cA_ (g++[46]++r)=true:=by
       unfold cA_
       rw[decide_eq_true (by omega)]
       simp only[Bool.true_and,Bool.not_eq_true']
       rw[List.any_eq_false]
       intro y hy
       simp[List.all_eq_true.1 hall y hy]
     exact lZ_ role hr t _ _ (fun q hq=>hp q (by simp[hq])) (by omega) hall hgl2
       (dL_ hl ⟨rfl,⟨by simp,by simp,by simp,by dsimp only;omega,by dsimp only;omega,by dsimp only;omega⟩,val6 h0 h1 hgr (dO_ hpr) hgr2⟩)
theorem pieces_all {x:Ax} (hok:x.ok) (hc:x.check=0):∀ q∈x.pieces f,PQ f q:=by
 have G:=good_of hc
 have L:=fun (c:Con) (hok:c.ok) (hc:c.check=0)=>Con.leftP_all h0 h1 _ c (Nat.le_refl _) hok hc
 have Rr:=fun (c:Con) (hok:c.ok) (hc:c.check=0)=>Con.rightP_all h0 h1 _ c (Nat.le_refl _) hok hc
 have n:∀ q∈([]:List Pc),PQ f q:=fun q hq=>by cases hq
 have h1':=G.k1
 have h9:=G.k9
 have A:=fun (c:Con) (hok:c.ok) (hc:c.check=0)=>(⟨Con.atom_ok hc,Con.atom_len hok hc⟩:aM_ c.atom=true∧c.atom.length≤7000)
 unfold pieces
 split
 ·have l:=G.left (by omega);have r:=G.right (by omega)
  have a1:=A _ hok.left l;have a2:=A _ hok.right r
  exact dL_ (Rr _ hok.right r _ (L _ hok.left l _ n)) ⟨rfl,⟨by dsimp only;omega,by simp,by dsimp only;omega,by simp,by simp,by simp⟩,tn_ h0 h1 a1.1 a2.1⟩
 split
 ·have l:=G.left (by omega);have r:=G.right (by omega)
  have a1:=A _ hok.left l;have a2:=A _ hok.right r
  exact dL_ (Rr _ hok.left l _ (L _ hok.right r _ (dL_ (Rr _ hok.right r _ (L _ hok.left l _ n)) ⟨rfl,⟨by dsimp only;omega,by simp,by dsimp only;omega,by simp,by simp,by simp⟩,tn_ h0 h1 a1.1 a2.1⟩))) ⟨rfl,⟨by dsimp only;omega,by simp,by dsimp only;omega,by simp,by simp,by simp⟩,tn_ h0 h1 a2.1 a1.1⟩
 split
 ·have l:=G.left (by omega);have r:=G.right (by omega)
  have a1:=A _ hok.left l;have a2:=A _ hok.right r
  exact dL_ (L _ hok.right r _ (L _ hok.left l _ n)) ⟨rfl,⟨by dsimp only;omega,by dsimp only;omega,by simp,by simp,by simp,by simp⟩,val2 h0 h1 a1.1 a2.1 rfl⟩
 split
 ·have r:=G.right (by omega);have a2:=A _ hok.right r;have p:=G.role (by omega);have pl:=eh_ p
  exact dL_ (Rr _ hok.right r _ n) ⟨rfl,⟨by simp,by simp,by dsimp only;omega,by dsimp only;omega,by simp,by simp⟩,val4 h0 h1 rfl (dO_ p) a2.1⟩
 split
 ·rename_i h5
  have p:=G.role (by omega);have pl:=eh_ p
  have ho:=G.one h5
  match hr:x.roles,ho with
  | [r],_ =>
    have p2:=G.roles r (by rw[hr];simp);have pl2:=eh_ p2
    exact dL_ n ⟨rfl,⟨by simp,by simp,by simp,by simp;omega,by simp,by dsimp only;omega⟩,val5 h0 h1 (by simpa using dO_ p2) (dO_ p)⟩
 split
 ·rename_i h6
  have p:=G.role (by omega)
  have hch:=G.chain h6
  match hr:x.roles,hch with
  | [],hch=>simp at hch
  | r::t,hch =>
    have p2:=G.roles r (by rw[hr];simp);have pl2:=eh_ p2
    have e:=hQ_ p2
    simp only[List.length_cons]at hch
    simp only[List.drop_succ_cons,List.drop_zero,List.headD_cons]
    exact lZ_ h0 h1 x.role p t r [] (fun q hq=>G.roles q (by rw[hr];simp[hq])) (by rw[e];simp;omega) (by rw[e];simp[dB_ p2]) (by rw[e];simp;omega) n
 split
 ·have p:=G.role (by omega);have pl:=eh_ p
  exact dL_ n ⟨rfl,⟨by simp,by simp,by simp,by dsimp only;omega,by simp,by simp⟩,val7 h0 h1 (dO_ p)⟩
 split
 ·have r:=G.right (by omega);have a2:=A _ hok.right r;have p:=G.a (by omega);have pl:=jU_ p
  exact dL_ (Rr _ hok.right r _ n) ⟨rfl,⟨by simp;omega,by simp,by dsimp only;omega,by simp,by simp,by simp⟩,tn_ h0 h1 (jE_ p) a2.1⟩
 have p:=G.role (by omega);have pl:=eh_ p;have pa:=G.a (by omega);have pb:=G.b (by omega);have l1:=jU_ pa;have l2:=jU_ pb
 exact dL_ n ⟨rfl,⟨by simp;omega,by simp,by simp;omega,by dsimp only;omega,by simp,by simp⟩,val3 h0 h1 (jE_ pa) (dO_ p) (jE_ pb)⟩
end
end Ax
def ee_ (k:Int) (p:Pc):Pc:={ p with frm:=p.frm+k }
theorem rW_ {k:Int} {p q:Pc} (h:ee_ k p=ee_ k q):p=q:=by
  cases p;cases q
  simp only[ee_,Pc.mk.injEq]at h ⊢
  refine⟨h.1,h.2.1,h.2.2.1,h.2.2.2.1,h.2.2.2.2.1,h.2.2.2.2.2.1,h.2.2.2.2.2.2.1,h.2.2.2.2.2.2.2.1,h.2.2.2.2.2.2.2.2.1,by omega⟩
theorem cz_ (f k:Int) (l:List Pc) (p:Pc):ins (f+k) (l.map (ee_ k)) p=(ins f l p).map (ee_ k):=by
 have hm:({ p with frm:=f+k }:Pc)∈l.map (ee_ k)↔({ p with frm:=f }:Pc)∈l:=by
   rw[List.mem_map]
   constructor
   · rintro ⟨q,hq,e⟩
     have:q={ p with frm:=f }:=rW_ (k:=k) e
     exact this▸hq
   · exact fun h=>⟨_,h,rfl⟩
 unfold ins
 by_cases h:({ p with frm:=f }:Pc)∈l
 ·rw[if_pos (hm.2 h),if_pos h]
 rw[if_neg (fun q=>h (hm.1 q)),if_neg h,List.map_append];rfl
namespace Con
theorem md_ (f k:Int) (c:Con):∀ (r:List Con) (j:Nat) (a:Str) (l:List Pc),andP (f+k) c r j a (l.map (ee_ k))=(andP f c r j a l).map (ee_ k)
  | [],_,_,_=>rfl
  | p::r,j,a,l=>by simp only[andP,cz_];exact md_ f k c r (j+1) _ _
theorem leftP_shift (f k:Int):∀ (m:Nat) (c:Con),c.sz≤m→∀ l,c.leftP (f+k) (l.map (ee_ k))=(c.leftP f l).map (ee_ k)
 | 0,c,h=>by have:=c.sz_pos;omega
 | m+1,c,h=>fun l=>by
   have key:∀ ps:List Con,(∀ p∈ps,p.sz≤m)→∀ l,leftP.lefts (f+k) ps (l.map (ee_ k))=(leftP.lefts f ps l).map (ee_ k):=by
     intro ps
     induction ps with
     | nil=>intro _ l;rfl
     | cons p ps ih =>
       intro hp l
       simp only[leftP.lefts]
       rw[leftP_shift f k m p (hp p (by simp)) l]
       exact ih (fun q hq=>hp q (by simp[hq])) _
   have hk:=key c.parts (fun p hp=>by have:=sz_part hp;omega) l
   rw[leftP_eq,leftP_eq,hk]
   split
   · exact md_ _ _ _ _ _ _ _
   · split
     · exact cz_ _ _ _ _
     · split
       · exact cz_ _ _ _ _
       · rfl
theorem rightP_shift (f k:Int):∀ (m:Nat) (c:Con),c.sz≤m→∀ l,c.rightP (f+k) (l.map (ee_ k))=(c.rightP f l).map (ee_ k)
 | 0,c,h=>by have:=c.sz_pos;omega
 | m+1,c,h=>fun l=>by
   have key:∀ ps:List Con,(∀ p∈ps,p.sz≤m)→∀ a l,rightP.rights (f+k) a ps (l.map (ee_ k))=(rightP.rights f a ps l).map (ee_ k):=by
     intro ps
     induction ps with
     | nil=>intro _ a l;rfl
     | cons p ps ih =>
       intro hp a l
       simp only[rightP.rights]
       rw[cz_,rightP_shift f k m p (hp p (by simp))]
       exact ih (fun q hq=>hp q (by simp[hq])) _ _
   have key2:∀ ps:List Con,(∀ p∈ps,p.sz≤m)→∀ l,rightP.righty (f+k) ps (l.map (ee_ k))=(rightP.righty f ps l).map (ee_ k):=by
     intro ps
     induction ps with
     | nil=>intro _ l;rfl
     | cons p ps ih =>
       intro hp l
       simp only[rightP.righty]
       rw[rightP_shift f k m p (hp p (by simp))]
       exact ih (fun q hq=>hp q (by simp[hq])) _
   have hps:∀ p∈c.parts,p.sz≤m:=fun p hp=>by have:=sz_part hp;omega
   rw[rightP_eq,rightP_eq]
   split
   · exact key c.parts hps _ l
   · split
     · rw[cz_];exact key2 c.parts hps _
     · split
       · exact cz_ _ _ _ _
       · rfl
end Con
theorem Ax.chainP_shift (f k:Int) (ro:Str):∀ (rs:List Str) (g:Str) (l:List Pc),Ax.chainP (f+k) ro rs g (l.map (ee_ k))=(Ax.chainP f ro rs g l).map (ee_ k)
  | [],_,_=>rfl
  | r::t,g,l=>by simp only[Ax.chainP,cz_];exact Ax.chainP_shift f k ro t _ _
theorem Ax.pieces_shift (f k:Int) (x:Ax):x.pieces (f+k)=(x.pieces f).map (ee_ k):=by
 have L:=fun (c:Con) l=>Con.leftP_shift f k _ c (Nat.le_refl _) l
 have Rr:=fun (c:Con) l=>Con.rightP_shift f k _ c (Nat.le_refl _) l
 have n:([]:List Pc)=([]:List Pc).map (ee_ k):=rfl
 unfold Ax.pieces
 repeat' split
 ·rw[n,L,Rr,cz_];rfl
 ·rw[n,L,Rr,cz_,L,Rr,cz_];rfl
 ·rw[n,L,L,cz_];rfl
 ·rw[n,Rr,cz_];rfl
 ·rw[n,cz_];rfl
 ·rw[n,Ax.chainP_shift];rfl
 ·rw[n,cz_];rfl
 ·rw[n,Rr,cz_];rfl
 rw[n,cz_];rfl
def ex_:Nat→List Ax→List Pc
  | _,[]=>[]
  | i,x::l=>x.pieces (i:Int)++ex_ (i+1) l
theorem jv_:∀ (i:Nat) (l:List Ax),(∀ x∈l,x.check=0)→(ex_ i l).length≤1000*l.length
  | _,[],_=>by simp[ex_]
  | i,x::l,h=>by
    have h1:=iK_ (i:Int) (Ax.good_of (h x (by simp)))
    have h2:=jv_ (i+1) l fun y hy=>h y (by simp[hy])
    simp only[ex_,List.length_append,List.length_cons]
    omega
theorem mX_:∀ (l:List Ax) (i:Nat) (p:List Pc),(∀ x∈l,x.check=0)→p.length+1000*l.length≤16384→hr_ i l p=some (p++ex_ i l)
  | [],i,p,_,_=>by simp[hr_,ex_]
  | x::l,i,p,h,hl=>by
    have h1:=iK_ (i:Int) (Ax.good_of (h x (by simp)))
    simp only[List.length_cons]at hl
    simp only[hr_,ex_]
    rw[if_neg (by simp;omega),mX_ l (i+1) _ (fun y hy=>h y (by simp[hy])) (by simp;omega),List.append_assoc]
theorem lP_:∀ (l:List Ax) (i:Nat),i+l.length≤1024→(∀ x∈l,x.ok)→(∀ x∈l,x.check=0)→∀ q∈ex_ i l,(i:Int)≤q.frm∧q.frm<((i+l.length:Nat):Int)∧q.sm∧q.valid=true
 | [],_,_,_,_=>by simp[ex_]
 | x::l,i,hi,hok,hc=>by
   simp only[List.length_cons]at hi ⊢
   intro q hq
   simp only[ex_]at hq
   rcases List.mem_append.1 hq with hq|hq
   · have h:=Ax.pieces_all (f:=(i:Int)) (by omega) (by omega) (hok x (by simp)) (hc x (by simp)) q hq
     exact⟨by rw[h.frm];omega,by rw[h.frm];omega,h.sm,h.ok⟩
   · have h:=lP_ l (i+1) (by omega) (fun y hy=>hok y (by simp[hy])) (fun y hy=>hc y (by simp[hy])) q hq
     exact⟨by omega,by omega,h.2.2⟩
theorem hW_:∀ {l:List Ax},dd_ l=0→∀ x∈l,x.check=0
 | [],_,_,h=>by cases h
 | y::l,hb,x,hx=>by
   simp only[dd_]at hb
   split at hb
   · rename_i hy
     rcases List.mem_cons.1 hx with rfl|hx
     · exact hy
     · exact hW_ hb x hx
   · rename_i hy;exact absurd hb hy
theorem iL_ {l:List Ax} (hl:l.length≤12) (h:∀ x∈l,x.check=0):az_ l=(ex_ 0 l,0):=by
  unfold az_
  rw[if_neg (by omega),if_neg (by simp[fy_ h]),mX_ l 0 [] h (by simp;omega)]
  simp
theorem kr_ {l:List Ax} (hl:l.length≤12) (h:dd_ l≠0):az_ l=([],dd_ l):=by
  unfold az_
  rw[if_neg (by omega),if_pos h]
end Go.Vs
namespace Go.Vs
open Go Go.Sx
section
variable {f:Int} {R:List Pc→List Pc→Prop} (hr:∀ l,R l l) (ht:∀ {a b c},R a b→R b c→R a c) (hi:∀ l p,R l (ins f l p))
include hr ht hi
end
structure Gr (a b:List Pc):Prop where
  nodup:a.Nodup→b.Nodup
  sub:∀ q∈a,q∈b
theorem Gr.refl (l:List Pc):Gr l l:=⟨id,fun _ h=>h⟩
theorem Gr.trans {a b c:List Pc} (h:Gr a b) (k:Gr b c):Gr a c:=⟨fun q=>k.nodup (h.nodup q),fun q hq=>k.sub q (h.sub q hq)⟩
theorem Gr.ins (f:Int) (l:List Pc) (p:Pc):Gr l (ins f l p):=by
 unfold Vs.ins
 split
 ·exact Gr.refl l
 rename_i h
 refine⟨fun hn=>?_,fun q hq=>List.mem_append_left _ hq⟩
 rw[List.nodup_append]
 exact⟨hn,by simp,fun a ha b hb=>by simp only[List.mem_singleton]at hb;subst hb;rintro rfl;exact h ha⟩
def wgt (c:Con):Nat:=if c.kind=0 then 0 else c.sz
end Go.Vs
namespace Go.Sx
open Go
section
variable {P:Program} {N:Nf} {fr:Fr} {H:Hp} {Γ:List Fct}
theorem ma_:∀ (x y:List UInt8),Op.bytesLess x y=decide (x<y)
  | [],[]=>by simp[Op.bytesLess]
  | _::_,[]=>by simp[Op.bytesLess]
  | [],_::_=>by simp[Op.bytesLess]
  | a::x,b::y=>by
    rw[Op.bytesLess,ma_ x y]
    simp only[List.cons_lt_cons_iff]
    by_cases h1:a<b<;>by_cases h2:a=b<;>by_cases h3:x<y<;>simp[h1,h2,h3]
theorem vW_ (x y:List UInt8):(Op.bytesLess x y||x==y)=decide (x≤y):=by
 rw[ma_]
 by_cases h:x≤y
 ·rw[decide_eq_true h]
  by_cases e:x=y
  ·simp[e]
  have:x<y:=by
    apply Decidable.byContradiction
    intro h2
    exact e (List.le_antisymm h (List.not_lt.1 h2))
  simp[this]
 rw[decide_eq_false h]
 have h1:¬ x<y:=fun q=>h (List.le_of_lt q)
 have h2:x≠y:=fun e=>h (e▸List.le_refl x)
 simp[h1,h2]
theorem kX_ {t t' ty:TypeId} {x y:Operand} {m n:List UInt8} (hx:Fr.ev fr x=some (str m)) (hy:Fr.ev fr y=some (str n)):Yld P N fr H Γ (.binOp .lss t x y t') ty (.bool (decide (m<n))) :=
  fun a v h1 _ _ _ _ _=>by rw[← ma_];simp[execOp,h1.ev hx,h1.ev hy,str,eqGuard,binOp,Op.stringOp]
theorem lf_ {f:FuncId} {args:Array Value} {r:Value} {g:Nat} {cur:Array Value} {T:TypeId} {d:Array (List UInt8)} (hc:he_ P f)
    (h:∀ v:Vw,v.sat [(g,.cells cur T (0,0))]→Calls P f args v.w fun e w'=>e=.returned r∧∃ n os,w'=Sort.grow (Sort.putRow Go.Proofs.encStr (Sort.ahead v.w n) g 0 d) os) :
    Tri P f args [(g,.cells cur T (0,0))] Γ (fun _:Unit=>r) (fun _=>[(g,.cells (Sort.putCells Go.Proofs.encStr 0 d cur) T (0,0))]) (fun _=>[]) :=
  ⟨hc,fun v h1 _=>(h v h1).mono fun e w' ⟨he,n,os,hw⟩=>by
    have hg:=(h1.own _ List.mem_cons_self)
    have hlt:g<v.w.heap.size:=(Array.getElem?_eq_some_iff.1 hg.1).1
    have hb:∀ b,b<v.w.heap.size→w'.heap[b]? = if b=g then some (.cells (Sort.putCells Go.Proofs.encStr 0 d cur) T (0,0)) else v.w.heap[b]? := fun b hb=>by
      rw[hw]
      simp only[Sort.grow,Sort.putRow,Sort.mapBlock,Sort.ahead]
      rw[Array.getElem?_append_left (by simpa using hb),Array.getElem?_modify]
      by_cases e:b=g
      · subst e
        simp only[if_true,hg.1,Option.map_some,Sort.onCells]
      · rw[if_neg (fun q=>e q.symm),if_neg e]
    have hsz:v.w.heap.size≤w'.heap.size:=by rw[hw];simp[Sort.grow,Sort.putRow,Sort.mapBlock,Sort.ahead]
    refine⟨(),⟨v.im,w',v.sl⟩,he,rfl,⟨fun p hp=>?_,by simp,fun b hbb=>Nat.lt_of_lt_of_le (h1.lt b hbb) hsz⟩,trivial,⟨by rw[hw];rfl,by rw[hw];rfl,by rw[hw];rfl,hsz,fun b hbb hn=>?_,fun _ h=>h,fun _ h=>.inl h,fun b hm=>.inl (by simpa using hm),rfl,.inr (by rw[hw];exact Nat.le_add_right _ _)⟩⟩
    · simp only[List.mem_singleton]at hp
      subst hp
      exact⟨by show w'.heap[g]? = _;rw[hb g hlt,if_pos rfl],hg.2⟩
    · have hn':b≠g:=by simpa using hn
      show w'.heap[b]? = _
      rw[hb b hbb,if_neg hn']⟩
theorem pa_ {cur:Array Value} {d:List (List UInt8)} (hs:d.length≤cur.size):(Sort.putCells Go.Proofs.encStr 0 d.toArray cur).toList.take d.length=d.flatMap aE_:=by
 rw[lk_]
 apply List.ext_getElem?
 intro j
 rw[List.getElem?_take,List.getElem?_map]
 split
 ·rename_i hj
  simp only[Sort.putCells,Array.getElem?_toList,Array.getElem?_mapIdx]
  rw[Array.getElem?_eq_getElem (by omega)]
  simp only[Option.map_some,Nat.zero_le,true_and,Nat.zero_add,List.size_toArray,hj,if_true,Nat.sub_zero]
  rw[List.getElem?_eq_getElem hj]
  simp only[Option.map_some]
  rw[getElem!_pos d.toArray j (by simpa using hj)]
  rfl
 rename_i hj
 rw[List.getElem?_eq_none (by omega)];rfl
theorem pb_ {cur:Array Value} {d:Array (List UInt8)}:(Sort.putCells Go.Proofs.encStr 0 d cur).size=cur.size:=by simp[Sort.putCells]
end
end Go.Sx
namespace Go.Vs
open Go Go.Sx
def kj_ (p:Pc):List Str:=[p.a,p.b,p.c].filter fun s=>!(s==[])
def cW_ (l:List Pc):List Str:=l.flatMap kj_
def dY_ (l:List Pc):List Str:=Lib.compact ((cW_ l).mergeSort fun x y=>decide (x≤y))
theorem iR_:∀ l:List Pc,(cW_ l).length≤3*l.length
  | []=>by simp[cW_]
  | p::r=>by
    have h1:=iR_ r
    have h2:(kj_ p).length≤3:=by unfold kj_;exact List.length_filter_le _ _
    simp only[cW_,List.flatMap_cons,List.length_append,List.length_cons]at h1 ⊢
    omega
theorem oL_ (l:List Str):(l.mergeSort fun x y=>decide (x≤y)).Pairwise fun x y=>x≤y:=by
  have h:=List.pairwise_mergeSort (le:=fun x y:Str=>decide (x≤y)) (fun a b c h1 h2=>by simp only[decide_eq_true_eq]at *;exact List.le_trans h1 h2) (fun a b=>by
    simp only[Bool.or_eq_true,decide_eq_true_eq];exact List.le_total a b) l
  exact h.imp (fun h=>of_decide_eq_true h)
theorem ib_ {zs:List Str}:Lib.compact zs=((List.range zs.length).filter fun j=>decide (j=0∨zs[j]! ≠ zs[j - 1]!)).map fun j=>zs[j]! := by
 unfold Lib.compact Lib.compactUpTo Lib.keeps
 have e:∀ j,zs.toArray[j]! = zs[j]! := fun j=>by
   by_cases h:j<zs.length
   · rw[getElem!_pos zs.toArray j (by simpa using h),getElem!_pos zs j h];simp
   · rw[getElem!_neg zs.toArray j (by simpa using h),getElem!_neg zs j h]
 rw[List.map_congr_left fun j _=>e j]
 congr 2
 funext j
 rw[e,e]
theorem ia_ (zs:List Str):(Lib.compact zs).length≤zs.length:=by
  rw[ib_,List.length_map]
  have:=List.length_filter_le (fun j=>decide (j=0∨zs[j]! ≠ zs[j - 1]!)) (List.range zs.length)
  simpa using this
theorem kB_ {zs:List Str} (x:Str):x∈Lib.compact zs↔x∈zs:=by
 rw[ib_,List.mem_map]
 constructor
 ·rintro ⟨j,hj,rfl⟩
  have hl:=List.mem_range.1 (List.mem_filter.1 hj).1
  rw[getElem!_pos zs j hl]
  exact List.getElem_mem hl
 intro hx
 obtain⟨j,hj,e⟩:=List.mem_iff_getElem.1 hx
 clear hx
 induction j with
 | zero=>exact⟨0,List.mem_filter.2 ⟨List.mem_range.2 hj,by simp⟩,by rw[getElem!_pos zs 0 hj];exact e⟩
 | succ j ih =>
   by_cases h:zs[j+1]! = zs[j]!
   · have hj':j<zs.length:=by omega
     refine ih hj' ?_
     rw[getElem!_pos zs (j+1) hj,getElem!_pos zs j hj']at h
     rw[← h];exact e
   · exact⟨j+1,List.mem_filter.2 ⟨List.mem_range.2 hj,decide_eq_true (.inr h)⟩,by rw[getElem!_pos zs (j+1) hj];exact e⟩
theorem qS_ {zs:List Str} (hs:zs.Pairwise fun x y=>x≤y):(Lib.compact zs).Pairwise fun x y=>x<y:=by
 rw[ib_,List.pairwise_map]
 have hr:(List.range zs.length).Pairwise (·<·):=List.pairwise_lt_range
 have hf:=hr.filter (fun j=>decide (j=0∨zs[j]! ≠ zs[j - 1]!))
 refine List.Pairwise.imp_of_mem ?_ hf
 intro j k hj hk hlt
 have hkl:=List.mem_range.1 (List.mem_filter.1 hk).1
 have hkk:=(List.mem_filter.1 hk).2
 simp only[decide_eq_true_eq]at hkk
 have hne:zs[k]! ≠ zs[k - 1]! := by
   rcases hkk with h|h
   · omega
   · exact h
 have hle:∀ a b,a≤b→b<zs.length→zs[a]! ≤ zs[b]! := by
   intro a b hab hb
   rcases Nat.lt_or_eq_of_le hab with h|h
   · rw[getElem!_pos zs a (by omega),getElem!_pos zs b hb]
     exact List.pairwise_iff_getElem.1 hs a b (by omega) hb h
   · subst h;exact List.le_refl _
 have h1:=hle j (k - 1) (by omega) (by omega)
 have h2:=hle (k - 1) k (by omega) hkl
 have h3:zs[k - 1]! < zs[k]! := by
   apply Decidable.byContradiction
   intro h
   exact hne (List.le_antisymm (List.not_lt.1 h) h2)
 exact List.lt_of_le_of_lt h1 h3
theorem go_ (l:List Pc) (x:Str):x∈dY_ l↔x∈cW_ l:=by
  unfold dY_
  rw[kB_,List.mem_mergeSort]
theorem sY_ (l:List Pc):(dY_ l).Pairwise fun x y=>x<y:=qS_ (oL_ _)
theorem eR_ (l:List Pc):(dY_ l).length≤3*l.length:=by
  have h1:=ia_ ((cW_ l).mergeSort fun x y=>decide (x≤y))
  rw[List.length_mergeSort]at h1
  have h2:=iR_ l
  unfold dY_
  omega
end Go.Vs
namespace Go.Proofs.YtamklbgaipakfaaGreatDoor
open Go Go.Sx Go.Proofs
attribute [local irreducible] Code.wp wpList wpAnyH
open Go.Vs
theorem eltS:Elt Tryz.prog 23 9 1 16:=hZ_ hK_ (z:=.string ⟨#[]⟩) (by kernel_rfl) rfl (by decide)
theorem mV_ {g n cap:Nat} {cur:Array Value} {xs:List Str} {v:Vw} (hs:v.sat [(g,.cells cur 9 (0,0))]) (ht:cur.toList.take (xs.length*1)=xs.flatMap aE_):Sort.Holds encStr v.w g 0 xs.toArray:=by
 intro j hj
 have hb:=(hs.own _ List.mem_cons_self).1
 simp only[List.size_toArray]at hj
 have hc:cur[j]? = some (str xs[j]):=mz_ ht j xs[j] (List.getElem?_eq_getElem hj)
 refine⟨?_,?_⟩
 ·simp only[World.cell?,Nat.zero_add,hb,Option.isSome_none,Bool.false_eq_true,if_false]
  rw[hc,getElem!_pos xs.toArray j (by simpa using hj)]
  rfl
 simp[World.frozen?,hb]
theorem nw_ {sv:Value} {xs:List Str} {Hr:Hp} (h:aL_ 9 1 sv xs.length (xs.flatMap aE_) Hr) (hl:xs.length≤1000000000000) :
    Tri Tryz.prog 43 #[sv] Hr [] (fun _:{y:Hp // aL_ 9 1 sv xs.length ((xs.mergeSort fun x y=>decide (x≤y)).flatMap aE_) y}=>.tuple #[]) (fun y=>y.1) (fun _=>[]):=by
  rcases h.2 with⟨rfl,h2,rfl⟩|⟨g,cap,cur,rfl,rfl,h3,h4,h5,h6⟩
  · obtain rfl:xs=[]:=List.eq_nil_of_length_eq_zero h2
    have T:=eb_ (P:=Tryz.prog) (H:=[]) (Γ:=[]) (callable Tryz.func43 rfl rfl) (fun v _ _=>(Tryz.slices_Sort_string_none none 0 v.w).mono (by rintro e w' ⟨rfl,rfl⟩;exact⟨rfl,⟨rfl,rfl,rfl,Nat.le_refl _,fun _ _=>rfl⟩,.inr (Nat.le_refl _)⟩))
    exact⟨T.callable,fun v a b=>(T.run v a b).mono (by rintro e w' ⟨x,v',e1,e2,e3,e4,e5⟩;exact⟨⟨[],by simpa using aL_.nil _ _⟩,v',e1,e2,e3,e4,e5⟩)⟩
  · have T:=lf_ (P:=Tryz.prog) (Γ:=[]) (d:=(xs.mergeSort fun x y=>decide (x≤y)).toArray) (callable Tryz.func43 rfl rfl) (fun v hs=>Tryz.slices_Sort_string g 0 cap xs v.w (mV_ (n:=0) (cap:=0) hs h6) (Array.getElem?_eq_some_iff.1 (hs.own _ List.mem_cons_self).1).1 (by omega))
    have hsz:(xs.mergeSort fun x y=>decide (x≤y)).length=xs.length:=List.length_mergeSort _
    refine⟨T.callable,fun v a b=>(T.run v a b).mono ?_⟩
    rintro e w' ⟨x,v',e1,e2,e3,e4,e5⟩
    refine⟨⟨_,by rw[em_ aE_ 1 at_,hsz],.inr ⟨g,cap,_,rfl,rfl,h3,h4,by rw[pb_];exact h5,?_⟩⟩,v',e1,e2,e3,e4,e5⟩
    have:=pa_ (cur:=cur) (d:=xs.mergeSort fun x y=>decide (x≤y)) (by rw[hsz,h5];omega)
    rw[hsz]at this
    rw[Nat.mul_one];exact this
theorem lT_ {sv:Value} {xs:List Str} {Hr:Hp} (h:aL_ 9 1 sv xs.length (xs.flatMap aE_) Hr) (hl:xs.length≤1000000000000) :
    Tri Tryz.prog 116 #[sv] Hr [] (fun y:{y:Value×Hp // aL_ 9 1 y.1 (Lib.compact xs).length ((Lib.compact xs).flatMap aE_) y.2}=>y.1.1) (fun y=>y.1.2) (fun _=>[]):=by
  rcases h.2 with⟨rfl,h2,rfl⟩|⟨g,cap,cur,rfl,rfl,h3,h4,h5,h6⟩
  · obtain rfl:xs=[]:=List.eq_nil_of_length_eq_zero h2
    have T:=eb_ (P:=Tryz.prog) (H:=[]) (Γ:=[]) (callable Tryz.func116 rfl rfl) (fun v _ _=>(Tryz.slices_Compact_string_empty none 0 v.w).mono (by rintro e w' ⟨rfl,rfl⟩;exact⟨rfl,⟨rfl,rfl,rfl,Nat.le_refl _,fun _ _=>rfl⟩,.inr (Nat.le_refl _)⟩))
    exact⟨T.callable,fun v a b=>(T.run v a b).mono (by rintro e w' ⟨x,v',e1,e2,e3,e4,e5⟩;exact⟨⟨(.slice none 0 0,[]),by simpa [Lib.compact,Lib.compactUpTo] using aL_.nil _ _⟩,v',e1,e2,e3,e4,e5⟩)⟩
  · have hcl:=ia_ xs
    have T:=lf_ (P:=Tryz.prog) (Γ:=[]) (r:=.slice (some ⟨g,0,none⟩) (Lib.compact xs).length cap) (d:=(Lib.compact xs++List.replicate (xs.length - (Lib.compact xs).length) []).toArray) (callable Tryz.func116 rfl rfl) (fun v hs=>(Tryz.slices_Compact_string g 0 cap xs v.w (mV_ (n:=0) (cap:=0) hs h6) (by omega) h3).mono (by
      rintro e w' ⟨rfl,q,rfl⟩
      exact⟨rfl,q,#[],by rw[Sort.grow_empty]⟩))
    refine⟨T.callable,fun v a b=>(T.run v a b).mono ?_⟩
    rintro e w' ⟨x,v',e1,e2,e3,e4,e5⟩
    refine⟨⟨(.slice (some ⟨g,0,none⟩) (Lib.compact xs).length cap,_),by rw[em_ aE_ 1 at_],.inr ⟨g,cap,_,rfl,rfl,by omega,h4,by rw[pb_];exact h5,?_⟩⟩,v',e1,e2,e3,e4,e5⟩
    have hd:(Lib.compact xs++List.replicate (xs.length - (Lib.compact xs).length) ([]:Str)).length=xs.length:=by simp;omega
    have:=pa_ (cur:=cur) (d:=Lib.compact xs++List.replicate (xs.length - (Lib.compact xs).length) []) (by rw[hd,h5];omega)
    rw[hd]at this
    have h7:=congrArg (List.take (Lib.compact xs).length) this
    rw[List.take_take,Nat.min_eq_left hcl,List.flatMap_append,List.take_append_of_le_length (by rw[em_ aE_ 1 at_];omega),List.take_of_length_le (l:=(Lib.compact xs).flatMap aE_) (by rw[em_ aE_ 1 at_];omega)]at h7
    rw[Nat.mul_one];exact h7
theorem rH_ (l:List Pc) (ad:Option Addr) (cap:Nat) (hl:l.length≤100000000000):Tri Tryz.prog 60 #[.slice ad (List.length l) cap] [] [al_ ad (List.flatMap Pc.cells l)] (fun y:{y:Option Addr×Nat // (dY_ l).length≤y.2∧y.2≤maxLen}=>.slice y.1.1 (dY_ l).length y.1.2) (fun _=>[]) (fun y=>[al_ y.1.1 ((dY_ l).flatMap aE_)]):=by
 refine l_ Tryz.func60 rfl rfl Tryz.ntmps60 rfl fun v0=>?_
 refine Zz 14 ?_
 refine bx_ [(2,.slice none 0 0),(7,.slice ad (List.length l) cap),(8,.int .i64 (List.length l:Int)),(9,.int .i64 ((0:Nat):Int))] zl ?_
 refine bL_ (ι:={y:Nat×Value×Hp // y.1≤l.length∧aL_ 9 1 y.2.1 (cW_ (l.take y.1)).length ((cW_ (l.take y.1)).flatMap aE_) y.2.2}) (fun y=>[(2,y.1.2.1),(7,.slice ad (List.length l) cap),(8,.int .i64 (List.length l:Int)),(9,.int .i64 (y.1.1:Int))]) (fun y=>y.1.2.2) (fun _=>_) (fun y=>l.length - y.1.1) ⟨(0,.slice none 0 0,[]),by simp,aL_.nil _ _⟩ ?_
 rintro ⟨⟨i,sv,Hr⟩,hi,hrow⟩
 dsimp only at hi hrow
 dsimp only
 have hol:=iR_ (l.take i)
 rw[List.length_take]at hol
 refine bx_ [(2,sv),(7,.slice ad (List.length l) cap),(8,.int .i64 (List.length l:Int)),(9,.int .i64 (i:Int))] zl ?_
 refine Zi 2 (fun hr1=>?_) fun hr1=>?_
 ·refine Zz 7 ?_
  have et:l.take i=l:=List.take_of_length_le (by omega)
  rw[et]at hrow hol
  refine Zz 2 ?_
  refine f_ (nw_ hrow (by omega)) rfl aZ_ zt rfl fun⟨Hs,hs⟩=>?_
  dsimp only
  refine C_ (List.Perm.symm aZ_) ?_
  have hs2:aL_ 9 1 sv ((cW_ l).mergeSort fun x y=>decide (x≤y)).length (((cW_ l).mergeSort fun x y=>decide (x≤y)).flatMap aE_) Hs:=by rw[List.length_mergeSort];exact hs
  refine Zz 5 ?_
  refine f_ (lT_ hs2 (by rw[List.length_mergeSort];omega)) rfl aZ_ zt rfl fun⟨⟨sc,Hc⟩,hc⟩=>?_
  dsimp only
  refine C_ (List.Perm.symm aZ_) (Zz 4 ?_)
  refine du_ hc aZ_ fun ad2 cp2 hsv hc1 hc2=>?_
  exact N_ Tryz.results60 ⟨(ad2,cp2),hc1,hc2⟩ (cb_ rfl hsv) g_ zf
 obtain⟨hlx1,x1,hx1,hmx1⟩:=zge (show i<List.length l by omega)
 refine Zz 12 ?_
 refine K_ Z_ rfl fun b1=>x_ 0 F_ rfl rfl rfl rfl rfl rfl (Zz 10 ?_)
 refine E_ n_ O_ an_ rfl rfl rfl rfl rfl rfl fun b2=>?_
 refine ap_ (List.flatMap aE_ [x1.a,x1.b,x1.c]) e_ rfl ?_
 refine Zz 5 ?_
 refine bx_ [(2,sv),(7,.slice ad (List.length l) cap),(8,.int .i64 (List.length l:Int)),(9,.int .i64 (i:Int)),(19,.slice (some ⟨b2,0,none⟩) (List.length [x1.a,x1.b,x1.c]) 3),(20,.int .i64 3),(21,.int .i64 ((0:Nat):Int))] zl ?_
 refine bL_ (ι:={y:Nat×Value×Hp // y.1≤3∧aL_ 9 1 y.2.1 (cW_ (l.take i)++(List.take y.1 [x1.a,x1.b,x1.c]).filter fun s=>!(s==[])).length ((cW_ (l.take i)++(List.take y.1 [x1.a,x1.b,x1.c]).filter fun s=>!(s==[])).flatMap aE_) y.2.2}) (fun y=>[(2,y.1.2.1),(7,.slice ad (List.length l) cap),(8,.int .i64 (List.length l:Int)),(9,.int .i64 (i:Int)),(19,.slice (some ⟨b2,0,none⟩) (List.length [x1.a,x1.b,x1.c]) 3),(20,.int .i64 3),(21,.int .i64 (y.1.1:Int))]) (fun y=>_:: y.1.2.2) (fun _=>_) (fun y=>3 - y.1.1) ⟨(0,sv,Hr),by simp,by simpa using hrow⟩ ?_
 rintro ⟨⟨k,sw,Hw⟩,hk,hkr⟩
 dsimp only at hk hkr
 dsimp only
 have hfl:((cW_ (l.take i)++(List.take k [x1.a,x1.b,x1.c]).filter fun s=>!(s==[]))).length≤(cW_ (l.take i)).length+3:=by
   have:=List.length_filter_le (fun s=>!(s==[])) (List.take k [x1.a,x1.b,x1.c])
   simp only[List.length_append,List.length_take,List.length_cons,List.length_nil]at this ⊢
   omega
 refine bx_ [(2,sw),(7,.slice ad (List.length l) cap),(8,.int .i64 (List.length l:Int)),(9,.int .i64 (i:Int)),(19,.slice (some ⟨b2,0,none⟩) (List.length [x1.a,x1.b,x1.c]) 3),(20,.int .i64 3),(21,.int .i64 (k:Int))] zl ?_
 refine Zi 2 (fun hr2=>?_) fun hr2=>?_
 ·refine Zz 11 ?_
  have hst:cW_ (l.take (i+1))=cW_ (l.take i)++kj_ x1:=by unfold cW_;rw[List.take_add_one,hx1,List.flatMap_append];simp
  exact J_ ⟨(i+1,sw,Hw),hlx1,by dsimp only;rw[hst];have:=hkr;rw[List.take_of_length_le (show [x1.a,x1.b,x1.c].length≤k by simp;omega)]at this;exact this⟩ (by dsimp only;omega) zl (c_ aZ_) (fun _ _ h=>h.2)
 have hly1:k<List.length [x1.a,x1.b,x1.c]:=by simp;omega
 obtain⟨y1,hy1⟩:∃ e0,[x1.a,x1.b,x1.c][k]? = some e0:=⟨_,List.getElem?_eq_getElem hly1⟩
 have hmy1:y1∈[x1.a,x1.b,x1.c]:=List.mem_of_getElem? hy1
 refine Zz 11 ?_
 refine d_ (ba_ (ad:=(some ⟨b2,0,none⟩)) av_ rfl zf (u_ at_ hy1 0 _ rfl)) rfl (Zi 6 (fun hr3=>?_) fun hr3=>?_)
 ·refine Zz 10 ?_
  have hst:(cW_ (l.take i)++(List.take (k+1) [x1.a,x1.b,x1.c]).filter fun s=>!(s==[]))=(cW_ (l.take i)++(List.take k [x1.a,x1.b,x1.c]).filter fun s=>!(s==[]))++[y1].filter (fun s=>!(s==[])):=by rw[List.append_assoc,← List.filter_append,List.take_add_one,hy1];simp
  rw[show [y1].filter (fun s=>!(s==[]))=[] by simp[*],List.append_nil]at hst
  exact J_ ⟨(k+1,sw,Hw),by dsimp only;omega,by dsimp only;rw[hst];exact hkr⟩ (by dsimp only;omega) zl zp zh
 refine Zz 6 ?_
 refine E_ n_ O_ an_ rfl rfl rfl rfl rfl rfl fun b3=>?_
 refine aG_ (news:=[str y1]) eltS hkr rfl rfl zp rfl (bM_ 0 rfl) (io_ rfl) (by simp only[maxLen];omega) (by omega) rfl fun sv2 Hr2 hrow2=>?_
 refine C_ (@List.perm_append_comm _ _ [_,_]) (Zz 8 ?_)
 have hst:(cW_ (l.take i)++(List.take (k+1) [x1.a,x1.b,x1.c]).filter fun s=>!(s==[]))=(cW_ (l.take i)++(List.take k [x1.a,x1.b,x1.c]).filter fun s=>!(s==[]))++[y1].filter (fun s=>!(s==[])):=by rw[List.append_assoc,← List.filter_append,List.take_add_one,hy1];simp
 rw[show [y1].filter (fun s=>!(s==[]))=[y1] by simp[*]]at hst
 exact J_ ⟨(k+1,sv2,Hr2),by dsimp only;omega,by dsimp only;rw[hst];rw[List.length_append (bs:=[y1]),List.flatMap_append (ys:=[y1])];exact hrow2⟩ (by dsimp only;omega) zl (p_ (c_ e_) (c_ aZ_)) zh
end Go.Proofs.YtamklbgaipakfaaGreatDoor
namespace Go.Sx
open Go
section
variable {P:Program} {N:Nf} {v0:Vw} {H0:Hp} {R:Exit→Act→World→Prop} {K:List Kt} {fr:Fr} {H:Hp} {Γ:List Fct}
variable {ops:Array Oper} {l:List Oper} {d:Nat} {ty:TypeId} {ps:String} {af:Array Edge}
end
end Go.Sx
namespace Go.Vs
open Go Go.Sx
def Cov (hs:List Bool) (L S:List Str):Prop:=hs.length=L.length∧∀ (n:Nat) (s:Str),L[n]? = some s→s∈S→hs[n]? = some true
theorem Cov.nil (L:List Str):Cov (List.replicate L.length false) L []:=⟨by simp,fun _ _ _ h=>by simp at h⟩
theorem Cov.set {hs:List Bool} {L S:List Str} (h:Cov hs L S) (n:Nat):Cov (hs.set n true) L S:=⟨by rw[List.length_set];exact h.1,fun m s h1 h2=>by
 have h3:=h.2 m s h1 h2
 rw[List.getElem?_set]
 split
 ·rename_i e
  subst e
  rw[if_pos (List.getElem?_eq_some_iff.1 h3).1]
 exact h3⟩
def mp_ (hs:List Bool) (L S:List Str) (y:Str) (n:Nat):Prop:=Cov hs L S∧∀ m,m<n→L[m]? = some y→hs[m]? = some true
theorem mp_.zero {hs:List Bool} {L S:List Str} {y:Str} (h:Cov hs L S):mp_ hs L S y 0:=⟨h,fun _ h=>by omega⟩
theorem mp_.hit {hs:List Bool} {L S:List Str} {y:Str} {n:Nat} (h:mp_ hs L S y n) (hn:n<L.length):mp_ (hs.set n true) L S y (n+1):=⟨h.1.set n,fun m hm e=>by
 rw[List.getElem?_set]
 split
 ·rename_i e
  rw[if_pos (by rw[h.1.1];omega)]
 rename_i e2
 exact h.2 m (by omega) e⟩
theorem mp_.miss {hs:List Bool} {L S:List Str} {y z:Str} {n:Nat} (h:mp_ hs L S y n) (hz:L[n]? = some z) (hne:z≠y):mp_ hs L S y (n+1):=⟨h.1,fun m hm e=>by
 by_cases e2:m=n
 ·subst e2
  rw[hz,Option.some.injEq]at e
  exact absurd e hne
 exact h.2 m (by omega) e⟩
theorem mp_.done {hs:List Bool} {L S:List Str} {y:Str} {n:Nat} (h:mp_ hs L S y n) (hn:L.length≤n):Cov hs L (S++[y]):=⟨h.1.1,fun m s h1 h2=>by
 rcases List.mem_append.1 h2 with h2|h2
 ·exact h.1.2 m s h1 h2
 simp only[List.mem_singleton]at h2
 subst h2
 have:=(List.getElem?_eq_some_iff.1 h1).1
 exact h.2 m (by omega) h1⟩
def three (p:Pc):List Str:=[p.a,p.b,p.c]
theorem Cov.all {hs:List Bool} {l:List Pc} (h:Cov hs (dY_ l) (l.flatMap three)) {n:Nat} (hn:n<(dY_ l).length):hs[n]? = some true:=by
  have hm:=(go_ l _).1 (List.getElem_mem hn)
  refine h.2 n _ (List.getElem?_eq_getElem hn) ?_
  simp only[cW_,List.mem_flatMap,kj_,List.mem_filter]at hm
  obtain⟨p,h1,h2⟩:=hm
  exact List.mem_flatMap.2 ⟨p,h1,h2.1⟩
end Go.Vs
namespace Go.Vs
open Go Go.Sx
theorem kp_ (s:Str):((if aX_ s then (0:Int) else 20)==0)=aX_ s:=by cases aX_ s<;>rfl
-- valid pieces,kind by kind
section
variable {a b c r s t:Str} {lo hi f:Int}
end
-- atoms
-- roles
structure RInv (s:Str) (a i:Nat) (dn:List Str):Prop where
  le:a≤i
  il:i≤s.length
  no:ixS 46 ((s.drop a).take (i - a))=none
  sp:bf_ 46 s=dn++bf_ 46 (s.drop a)
  al:dn.all aX_=true
structure REnd (s:Str) (i:Nat) (dn:List Str):Prop where
  il:i=s.length+1
  sp:bf_ 46 s=dn
  al:dn.all aX_=true
def segS (s:Str) (a i:Nat):Str:=(s.drop a).take (i - a)
theorem RInv.len {s:Str} {a i:Nat} {dn:List Str} (h:RInv s a i dn):dn.length≤s.length+1:=by
  have h1:=eq_ 46 s
  have h2:=kU_ 46 s
  rw[h.sp,List.length_append]at h1
  omega
theorem REnd.len {s:Str} {i:Nat} {dn:List Str} (h:REnd s i dn):dn.length≤s.length+1:=by
  have h1:=eq_ 46 s
  have h2:=kU_ 46 s
  rw[h.sp]at h1
  omega
theorem RInv.next {s:Str} {a i:Nat} {dn:List Str} {c:UInt8} (h:RInv s a i dn) (hc:s[i]? = some c) (hne:c≠46):RInv s a (i+1) dn:=by
  have hi:=(List.getElem?_eq_some_iff.1 hc).1
  have hle:=h.le
  refine⟨by omega,by omega,?_,h.sp,h.al⟩
  rw[show i+1 - a=(i - a)+1 by omega]
  exact ui_ (s.drop a) (i - a) c (by rw[List.getElem?_drop,show a+(i - a)=i by omega];exact hc) h.no hne
theorem RInv.fin {s:Str} {a i:Nat} {dn:List Str} (h:RInv s a i dn) (hi:¬ i<s.length):bf_ 46 s=dn++[segS s a i]:=by
  have hle:=h.le
  have hil:=h.il
  have e:(s.drop a).take (i - a)=s.drop a:=List.take_of_length_le (by rw[List.length_drop];omega)
  have hn:=h.no
  rw[e]at hn
  rw[h.sp,fB_ hn,segS,e]
theorem REnd.role {s:Str} {i:Nat} {dn:List Str} (h:REnd s i dn):cA_ s=decide ((dn.length:Int)≤4):=by
  unfold cA_
  rw[h.sp]
  have:dn.any (fun r=>!aX_ r)=false:=by
    rw[List.any_eq_false]
    intro x hx
    have:=List.all_eq_true.1 h.al x hx
    simp[this]
  rw[this]
  simp
  omega
-- sorted insertion
def kS (l:List Str) (s:Str):Nat:=(l.takeWhile fun x=>decide (x<s)).length
def cf_ (l:List Str) (s:Str):List Str:=if s=[]∨l[kS l s]? = some s then l else l.take (kS l s)++[s]++l.drop (kS l s)
theorem wg_ (l:List Str) (s:Str):kS l s≤l.length:=(List.takeWhile_sublist _).length_le
theorem jJ_ (l:List Str) (s:Str):(cf_ l s).length≤l.length+1:=by
 have:=wg_ l s
 unfold cf_
 split
 ·omega
 simp only[List.length_append,List.length_take,List.length_cons,List.length_nil,List.length_drop]
 omega
theorem ij_ {l:List Str} {s x:Str}:x∈cf_ l s↔x∈l∨(x=s∧s≠[]):=by
 unfold cf_
 split
 ·rename_i h
  constructor
  ·exact .inl
  rintro (h2|⟨rfl,h2⟩)
  ·exact h2
  rcases h with h|h
  ·exact absurd h h2
  exact List.mem_of_getElem? h
 rename_i h
 simp only[not_or]at h
 have e:x∈l↔x∈l.take (kS l s)∨x∈l.drop (kS l s):=by
   rw[← List.mem_append,List.take_append_drop]
 rw[e]
 simp only[List.mem_append,List.mem_singleton]
 constructor
 ·rintro ((h1|h1)|h1)
  ·exact .inl (.inl h1)
  ·exact .inr ⟨h1,h1▸h.1⟩
  exact .inl (.inr h1)
 rintro ((h1|h1)|h1)
 ·exact .inl (.inl h1)
 ·exact .inr h1
 exact .inl (.inr h1.1)
theorem qe_ {s:Str}:∀ (l:List Str),∀ x∈l.take (kS l s),x<s:=by
 intro l x hx
 have e:l.take (kS l s)=l.takeWhile fun x=>decide (x<s):=by
   unfold kS
   exact (List.prefix_iff_eq_take.1 (List.takeWhile_prefix _)).symm
 rw[e]at hx
 induction l with
 | nil=>simp at hx
 | cons y r ih =>
   by_cases hy:y<s
   · rw[List.takeWhile_cons_of_pos (by simpa using hy)]at hx
     rcases List.mem_cons.1 hx with rfl|hx
     · exact hy
     · refine ih hx ?_
       unfold kS
       exact (List.prefix_iff_eq_take.1 (List.takeWhile_prefix _)).symm
   · rw[List.takeWhile_cons_of_neg (by simpa using hy)]at hx
     simp at hx
theorem nr_ {s:Str}:∀ (l:List Str) (x:Str),l[kS l s]? = some x→¬ x<s
 | [],x,h=>by simp at h
 | y::r,x,h=>by
   unfold kS at h
   by_cases hy:y<s
   · rw[List.takeWhile_cons_of_pos (by simpa using hy),List.length_cons,List.getElem?_cons_succ]at h
     exact nr_ r x h
   · rw[List.takeWhile_cons_of_neg (by simpa using hy)]at h
     simp only[List.length_nil,List.getElem?_cons_zero,Option.some.injEq]at h
     subst h
     exact hy
theorem iX_ {l:List Str} {s:Str} (h:l.Pairwise fun x y=>x<y):(cf_ l s).Pairwise fun x y=>x<y:=by
 unfold cf_
 split
 ·exact h
 rename_i hn
 simp only[not_or]at hn
 have hd:∀ y∈l.drop (kS l s),s<y:=by
   intro y hy
   obtain⟨j,hj,rfl⟩:=List.mem_iff_getElem.1 hy
   rw[List.getElem_drop]
   rw[List.length_drop]at hj
   have hk:kS l s<l.length:=by omega
   have h0:=nr_ l _ (List.getElem?_eq_getElem hk)
   have h1:s<l[kS l s]:=by
     apply Decidable.byContradiction
     intro q
     apply hn.2
     rw[List.getElem?_eq_getElem hk,Option.some.injEq]
     exact List.le_antisymm (List.not_lt.1 q) (List.not_lt.1 h0)
   rcases Nat.eq_zero_or_pos j with rfl|hp
   · exact h1
   · exact List.lt_trans h1 (List.pairwise_iff_getElem.1 h _ _ hk (by omega) (by omega))
 rw[List.pairwise_append,List.pairwise_append]
 refine⟨⟨h.sublist (List.take_sublist _ _),List.pairwise_singleton _ _,fun x hx y hy=>?_⟩,h.sublist (List.drop_sublist _ _),fun x hx y hy=>?_⟩
 ·rw[List.mem_singleton]at hy
  subst hy
  exact qe_ l x hx
 rcases List.mem_append.1 hx with hx|hx
 ·exact List.lt_trans (qe_ l x hx) (hd y hy)
 rw[List.mem_singleton]at hx
 subst hx
 exact hd y hy
def atomsF (l:List Pc):List Str:=l.foldl (fun L p=>cf_ (cf_ (cf_ L p.a) p.b) p.c) []
theorem mc_:∀ (l:List Pc) (L:List Str),L.Pairwise (fun x y=>x<y)→(l.foldl (fun L p=>cf_ (cf_ (cf_ L p.a) p.b) p.c) L).Pairwise (fun x y=>x<y)∧(∀ x,x∈l.foldl (fun L p=>cf_ (cf_ (cf_ L p.a) p.b) p.c) L↔x∈L∨x∈cW_ l)∧(l.foldl (fun L p=>cf_ (cf_ (cf_ L p.a) p.b) p.c) L).length≤L.length+3*l.length
 | [],L,h=>⟨h,fun x=>by simp[cW_],by simp⟩
 | p::r,L,h=>by
   obtain⟨h1,h2,h3⟩:=mc_ r (cf_ (cf_ (cf_ L p.a) p.b) p.c) (iX_ (iX_ (iX_ h)))
   refine⟨h1,fun x=>?_,?_⟩
   · rw[List.foldl_cons,h2,ij_,ij_,ij_]
     simp only[cW_,List.flatMap_cons,List.mem_append,kj_,List.mem_filter,List.mem_cons,List.not_mem_nil,or_false]
     constructor
     · rintro ((((h|⟨rfl,h⟩)|⟨rfl,h⟩)|⟨rfl,h⟩)|h)
       · exact .inl h
       · exact .inr (.inl ⟨.inl rfl,by simpa using h⟩)
       · exact .inr (.inl ⟨.inr (.inl rfl),by simpa using h⟩)
       · exact .inr (.inl ⟨.inr (.inr rfl),by simpa using h⟩)
       · exact .inr (.inr h)
     · rintro (h|⟨h,h5⟩|h)
       · exact .inl (.inl (.inl (.inl h)))
       · have h6:x≠[]:=by simpa using h5
         rcases h with rfl|rfl|rfl
         · exact .inl (.inl (.inl (.inr ⟨rfl,h6⟩)))
         · exact .inl (.inl (.inr ⟨rfl,h6⟩))
         · exact .inl (.inr ⟨rfl,h6⟩)
       · exact .inr h
   · rw[List.foldl_cons]
     have a1:=jJ_ L p.a
     have a2:=jJ_ (cf_ L p.a) p.b
     have a3:=jJ_ (cf_ (cf_ L p.a) p.b) p.c
     simp only[List.length_cons]
     omega
theorem mA_:∀ {l m:List Str},l.Pairwise (fun x y=>x<y)→m.Pairwise (fun x y=>x<y)→(∀ x,x∈l↔x∈m)→l=m
 | [],[],_,_,_=>rfl
 | [],y::m,_,_,h=>by have:=(h y).2 (by simp);simp at this
 | x::l,[],_,_,h=>by have:=(h x).1 (by simp);simp at this
 | x::l,y::m,h1,h2,h=>by
   rw[List.pairwise_cons]at h1 h2
   have e:x=y:=by
     have hx:=(h x).1 (by simp)
     have hy:=(h y).2 (by simp)
     rcases List.mem_cons.1 hx with e|hx
     · exact e
     rcases List.mem_cons.1 hy with e|hy
     · exact e.symm
     exact absurd (List.lt_trans (h1.1 y hy) (h2.1 x hx)) (List.lt_irrefl _)
   subst e
   congr 1
   refine mA_ h1.2 h2.2 fun z=>?_
   have hz:=h z
   simp only[List.mem_cons]at hz
   constructor
   · intro q
     rcases hz.1 (.inr q) with e|e
     · subst e
       exact absurd (h1.1 z q) (List.lt_irrefl _)
     · exact e
   · intro q
     rcases hz.2 (.inr q) with e|e
     · subst e
       exact absurd (h2.1 z q) (List.lt_irrefl _)
     · exact e
theorem uC_ (l:List Pc):dY_ l=atomsF l:=by
  obtain⟨h1,h2,_⟩:=mc_ l [] List.Pairwise.nil
  refine mA_ (sY_ l) h1 fun x=>?_
  have:=h2 x
  rw[go_]
  simp only[List.not_mem_nil,false_or]at this
  exact this.symm
end Go.Vs
namespace Go.Sx
open Go
section
variable {P:Program} {N:Nf} {v0:Vw} {H0:Hp} {fr:Fr} {H:Hp} {Γ:List Fct}
end
end Go.Sx
namespace Go.Vs
open Go Go.Sx
namespace Con
theorem szs_append:∀ (xs ys:List Con),sz.szs (xs++ys)=sz.szs xs+sz.szs ys
  | [],ys=>by simp[sz.szs]
  | x::xs,ys=>by simp only[List.cons_append,sz.szs,szs_append xs ys];omega
theorem szs_step {ps:List Con} {p:Con} {i:Nat} (hp:ps[i]? = some p):sz.szs (ps.take (i+1))=sz.szs (ps.take i)+p.sz:=by
  rw[take_snoc hp,szs_append];simp[sz.szs]
theorem szs_take_le (ps:List Con) (i:Nat):sz.szs (ps.take i)≤sz.szs ps:=by
  have:=szs_append (ps.take i) (ps.drop i)
  rw[List.take_append_drop]at this
  omega
end Con
namespace Ax
end Ax
end Go.Vs
namespace Go.Proofs.YtamklbgaipakfaaGreatDoor
open Go Go.Sx Go.Proofs
attribute [local irreducible] Code.wp wpList wpAnyH
open Go.Vs
theorem uu_:∀ (m:Nat) (c:Con),c.sz≤m→c.ok→∀ (d most:Int),0≤d∧d≤40→0≤most∧most≤1000→Tri Tryz.prog 105 #[Con.val c,.int .i64 d,.int .i64 most] [] [Con.memF c] (fun r:{r:Int // 1≤r∧r≤most+4398046511104∧(r≤most→(c.sz:Int)≤r)}=>.int .i64 r.1) (fun _=>[]) (fun _=>[]):=by
 intro m
 induction m with
 | zero=>intro c h;have:=c.sz_pos;omega
 | succ m ih =>
   intro c hm hok d most hd hmost
   have hnl:=Con.ok_name hok
   have hpl:=Con.ok_len hok
   refine l_ Tryz.func105 rfl rfl Tryz.ntmps105 rfl fun v0=>?_
   refine Zz 2 ?_
   refine U_ rfl rfl fun b1=>Zi 7 (fun hr1=>?_) fun hr1=>?_
   · skip
     refine Zz 9 ?_
     refine d_ (do_ T_ rfl) rfl (d_ (aY_ (uK_ (n:=40) rfl rfl (by decide) (bK_ (r:=((List.length (Con.name c) / 40:Nat):Int)) (by omega) (by omega))) (show _=Value.int .i64 ((List.length (Con.name c) / 40:Nat):Int) from rfl)) rfl (Zz 11 ?_))
     refine bx_ [(1,.int .i64 d),(2,.int .i64 most),(3,zp_ b1 0),(7,.int .i64 (1+((List.length (Con.name c) / 40:Nat):Int))),(8,.int .i64 ((0:Nat):Int))] zl ?_
     refine bL_ (ι:={x:Nat×Int // x.1≤c.parts.length∧1≤x.2∧x.2≤most+4398046511104∧(x.2≤most→((1+Con.sz.szs (c.parts.take x.1):Nat):Int)≤x.2)}) (fun x=>[(1,.int .i64 d),(2,.int .i64 most),(3,zp_ b1 0),(7,.int .i64 x.1.2),(8,.int .i64 (x.1.1:Int))]) (fun _=>_) (fun _=>_) (fun x=>c.parts.length - x.1.1) ⟨(0,1+((List.length (Con.name c) / 40:Nat):Int)),by simp,by dsimp only;omega,by dsimp only;omega,by simp[Con.sz.szs];omega⟩ ?_
     rintro ⟨⟨i,n⟩,hk⟩
     dsimp only at hk
     obtain⟨hk1,hk2,hk3,hk4⟩:=hk
     refine bx_ [(1,.int .i64 d),(2,.int .i64 most),(3,zp_ b1 0),(7,.int .i64 n),(8,.int .i64 (i:Int))] zl ?_
     refine Zz 7 ?_
     refine D_ (dg_ rfl rfl) rfl fun r2 hr2=>Zz 1 ?_
     refine aH_ 4 ((decide ((i:Int)<(List.length (Con.parts c):Int)))&&(decide (n≤most))) (fun r=>[(1,.int .i64 d),(2,.int .i64 most),(3,zp_ b1 0),(7,.int .i64 n),(8,.int .i64 (i:Int)),(27,.bool r)]) ?_ fun r3 hr3=>?_
     · skip
       cases r2
       · skip
         have qr3:=hr2
         replace hr2:=zdf hr2
         refine Zz 6 ?_
         exact met ⟨rfl,rfl,rfl,rfl,rfl,(m_ rfl (jaf qr3)),trivial⟩
       · skip
         have qr3:=hr2
         replace hr2:=zdt hr2
         refine Zz 5 ?_
         refine D_ (fu_ rfl rfl) rfl fun r4 hr4=>Zz 3 ?_
         exact met ⟨rfl,rfl,rfl,rfl,rfl,(m_ rfl (jat qr3 hr4)),trivial⟩
     · skip
       refine Zz 2 ?_
       cases r3
       · skip
         simp at hr3
         refine Zz 10 ?_
         exact N_ Tryz.results105 ⟨n,by omega,by omega,fun q=>by have hi:c.parts.length≤i:=(by simp at *;omega);have:=hk4 q;rw[List.take_of_length_le hi]at this;rw[Con.sz_eq];exact this⟩ rfl (@List.perm_append_comm _ [_] _) zt
       · skip
         simp at hr3
         skip
         obtain⟨hlx1,x1,hx1,hmx1⟩:=zge (show i<List.length (Con.parts c) by omega)
         refine Zz 10 ?_
         refine d_ (L_ ab_ A_ rfl rfl (fun v _ h=>y_ (n:=5) Con.cells_len (by decide) (by exact ((Con.mem_iff c v).1 h.1).1) hx1) (by omega) (by first|omega|(simp;done))) rfl ?_
         refine d_ (af_ (ad:=(Con.ad c)) (us:=Con.cells x1) aD_ A_ rfl (fun v _ h=>by exact ((Con.mem_iff c v).1 h.1).1) (Con.cells_len _) (u_ Con.cells_len hx1)) rfl (Zz 5 ?_)
         refine f_ (ih x1 (by have:=Con.sz_part hmx1;omega) (Con.ok_part hok hmx1) (d - 1) (most - n) ⟨by omega,by omega⟩ ⟨by omega,by omega⟩) rfl g_ (fun v _ h=>by exact⟨(Con.mem_part (c:=c) h.1 hmx1),trivial⟩) rfl fun⟨r,hr1,hr2,hr3⟩=>?_
         dsimp only
         refine Zz 10 ?_
         have hst:=Con.szs_step hx1
         exact J_ ⟨(i+1,n+r),hlx1,by dsimp only;omega,by dsimp only;omega,fun q=>by dsimp only at q ⊢;rw[hst];have:=hr3 (by omega);have:=hk4 (by omega);omega⟩ (by dsimp only;omega) zl (.refl _) zh
   · skip
     refine Zz 11 ?_
     exact N_ Tryz.results105 ⟨(most+1),by omega,by omega,fun q=>by omega⟩ rfl (@List.perm_append_comm _ [_] _) zt
theorem nZ_ (c:Con) (hok:c.ok):Tri Tryz.prog 55 #[Con.val c] [] [Con.memF c] (fun b:{b:Bool // b=true→c.sz≤150}=>.bool b.1) (fun _=>[]) (fun _=>[]):=by
  refine l_ Tryz.func55 rfl rfl Tryz.ntmps55 rfl fun v0=>?_
  refine Zz 2 ?_
  refine U_ rfl rfl fun b1=>Zz 6 ?_
  refine f_ (uu_ _ c (Nat.le_refl _) hok 40 150 ⟨by decide,by decide⟩ ⟨by decide,by decide⟩) rfl g_ zf rfl fun⟨r,hr1,hr2,hr3⟩=>?_
  dsimp only
  refine D_ (fu_ rfl rfl) rfl fun r1 hr1=>Zz 4 ?_
  exact N_ Tryz.results55 ⟨r1,fun q=>by rw[q]at hr1;have:=of_decide_eq_true hr1;have:=hr3 this;omega⟩ rfl (@List.perm_append_comm _ [_] _) zt
structure Ax.Few (x:Ax):Prop where
  left:x.left.sz≤150
  right:x.right.sz≤150
  roles:x.roles.length≤600
theorem pJ_ (x:Ax) (hok:x.ok):Tri Tryz.prog 21 #[Ax.val x] [] [Ax.memF x] (fun b:{b:Bool // b=true→Ax.Few x}=>.bool b.1) (fun _=>[]) (fun _=>[]):=by
 refine l_ Tryz.func21 rfl rfl Tryz.ntmps21 rfl fun v0=>?_
 have h1:=hok.role
 have h2:=hok.a
 have h3:=hok.b
 have h4:=hok.len
 have h5:=hok.cap
 refine Zz 2 ?_
 refine U_ rfl rfl fun b1=>Zz 7 ?_
 refine d_ (do_ T_ rfl) rfl (Zz 2 ?_)
 refine d_ (do_ T_ rfl) rfl (Zz 3 ?_)
 refine d_ (do_ T_ rfl) rfl (Zz 16 ?_)
 refine bx_ [(1,zp_ b1 0),(3,.int .i64 (((((Ax.role x).length:Int)+((Ax.a x).length:Int))+((Ax.b x).length:Int))+(10*(List.length (Ax.roles x):Int)))),(4,.int .i64 ((0:Nat):Int))] zl ?_
 refine bL_ (ι:={y:Nat×Int // y.1≤x.roles.length∧y.1≤100∧(x.roles.length:Int)≤y.2∧y.2≤444444444444444444+y.1*140737488351232}) (fun y=>[(1,zp_ b1 0),(3,.int .i64 y.1.2),(4,.int .i64 (y.1.1:Int))]) (fun _=>_) (fun _=>_) (fun y=>x.roles.length - y.1.1) ⟨(0,(((((Ax.role x).length:Int)+((Ax.a x).length:Int))+((Ax.b x).length:Int))+(10*(List.length (Ax.roles x):Int)))),by simp,by simp,by dsimp only;omega,by dsimp only;omega⟩ ?_
 rintro ⟨⟨i,n⟩,hk⟩
 dsimp only at hk
 refine bx_ [(1,zp_ b1 0),(3,.int .i64 n),(4,.int .i64 (i:Int))] zl ?_
 refine Zi 7 (fun hr1=>?_) fun hr1=>?_
 ·refine Zi 12 (fun hr2=>?_) fun hr2=>?_
  ·refine Zz 14 ?_
   exact N_ lr_ ⟨false,fun h=>by cases h⟩ rfl (@List.perm_append_comm _ [_] _) zt
  refine Zz 6 ?_
  refine f_ (nZ_ (Ax.left x) hok.left) rfl g_ (fun v _ h=>by exact⟨h.1.1,trivial⟩) rfl fun⟨f1,hf1⟩=>?_
  dsimp only
  refine Zz 2 ?_
  cases f1
  ·refine Zz 8 ?_
   exact N_ lr_ ⟨false,fun h=>by cases h⟩ rfl (@List.perm_append_comm _ [_] _) zt
  refine Zz 5 ?_
  refine f_ (nZ_ (Ax.right x) hok.right) rfl g_ (fun v _ h=>by exact⟨h.1.2.1,trivial⟩) rfl fun⟨f2,hf2⟩=>?_
  dsimp only
  refine Zz 5 ?_
  exact N_ lr_ ⟨f2,fun h=>⟨hf1 rfl,hf2 h,by omega⟩⟩ rfl (@List.perm_append_comm _ [_] _) zt
 refine Zi 4 (fun hr3=>?_) fun hr3=>?_
 ·refine Zi 9 (fun hr4=>?_) fun hr4=>?_
  ·refine Zz 14 ?_
   exact N_ lr_ ⟨false,fun h=>by cases h⟩ rfl (@List.perm_append_comm _ [_] _) zt
  refine Zz 6 ?_
  refine f_ (nZ_ (Ax.left x) hok.left) rfl g_ (fun v _ h=>by exact⟨h.1.1,trivial⟩) rfl fun⟨f1,hf1⟩=>?_
  dsimp only
  refine Zz 2 ?_
  cases f1
  ·refine Zz 8 ?_
   exact N_ lr_ ⟨false,fun h=>by cases h⟩ rfl (@List.perm_append_comm _ [_] _) zt
  refine Zz 5 ?_
  refine f_ (nZ_ (Ax.right x) hok.right) rfl g_ (fun v _ h=>by exact⟨h.1.2.1,trivial⟩) rfl fun⟨f2,hf2⟩=>?_
  dsimp only
  refine Zz 5 ?_
  exact N_ lr_ ⟨f2,fun h=>⟨hf1 rfl,hf2 h,by omega⟩⟩ rfl (@List.perm_append_comm _ [_] _) zt
 obtain⟨hlx1,x1,hx1,hmx1⟩:=zge (show i<List.length (Ax.roles x) by omega)
 have hrl:=hok.roles x1 hmx1
 refine Zz 13 ?_
 refine d_ (L_ n_ O_ rfl rfl (fun v _ h=>y_ (n:=1) at_ (by decide) (by exact h.1.2.2) hx1) (by omega) (by first|omega|(simp;done))) rfl ?_
 refine d_ (ba_ (ad:=(Ax.ad x)) av_ rfl (fun v _ h=>by exact h.1.2.2) (u_ at_ hx1 0 _ rfl)) rfl (d_ (do_ T_ rfl) rfl (Zz 10 ?_))
 exact J_ ⟨(i+1,n+(List.length x1:Int)),hlx1,by dsimp only;omega,by dsimp only;omega,by dsimp only;omega⟩ (by dsimp only;omega) zl (.refl _) zh
theorem nY_ (l:List Ax) (ad:Option Addr) (cap:Nat) (most:Int) (hcap:l.length≤cap∧cap≤2199023255488) (hok:∀ x∈l,x.ok):Tri Tryz.prog 35 #[.slice ad (List.length l) cap,.int .i64 most] [] [dw_ ad l] (fun b:{b:Bool // b=true→(l.length:Int)≤most∧∀ x∈l,Ax.Few x}=>.bool b.1) (fun _=>[]) (fun _=>[]):=by
 refine l_ Tryz.func35 rfl rfl Tryz.ntmps35 rfl fun v0=>?_
 refine Zi 11 (fun hr1=>?_) fun hr1=>?_
 ·refine Zz 12 ?_
  refine bx_ [(0,.slice ad (List.length l) cap),(5,.int .i64 ((0:Nat):Int))] zl ?_
  refine bL_ (ι:={q:Nat // q≤l.length∧∀ x∈l.take q,Ax.Few x}) (fun i=>[(0,.slice ad (List.length l) cap),(5,.int .i64 (i.1:Int))]) (fun _=>_) (fun _=>_) (fun i=>l.length - i.1) ⟨0,by simp⟩ ?_
  rintro ⟨i,hk⟩
  refine bx_ [(0,.slice ad (List.length l) cap),(5,.int .i64 (i:Int))] zl ?_
  refine Zi 6 (fun hr2=>?_) fun hr2=>?_
  ·refine Zz 11 ?_
   exact N_ Tryz.results35 ⟨true,fun _=>⟨by omega,fun x hx=>hk.2 x (by rw[List.take_of_length_le (by omega)];exact hx)⟩⟩ rfl (.refl _) zt
  obtain⟨hlx1,x1,hx1,hmx1⟩:=zge (show i<List.length l by omega)
  refine Zz 11 ?_
  refine d_ (L_ Q_ S_ rfl rfl (fun v _ h=>y_ (n:=16) Ax.cells_len (by decide) (by exact h.1.1) hx1) (by omega) (by first|omega|(simp;done))) rfl ?_
  refine d_ (af_ (ad:=ad) (us:=Ax.cells x1) bI_ S_ rfl (fun v _ h=>by exact h.1.1) (Ax.cells_len _) (u_ Ax.cells_len hx1)) rfl (f_ (pJ_ x1 (hok x1 hmx1)) rfl g_ (fun v _ h=>by exact⟨(h.1.2 x1 hmx1),trivial⟩) rfl fun⟨r,hr⟩=>?_)
  dsimp only
  refine d_ (bb_ rfl) rfl (Zz 2 ?_)
  cases r
  ·refine Zz 7 ?_
   exact N_ Tryz.results35 ⟨false,fun h=>by cases h⟩ rfl (.refl _) zt
  refine Zz 9 ?_
  exact J_ ⟨i+1,hlx1,fun x hx=>by rw[List.take_add_one,hx1]at hx;simp only[Option.toList_some,List.mem_append,List.mem_singleton]at hx;rcases hx with hx|rfl;exact hk.2 x hx;exact hr rfl⟩ (by simp;omega) zl (.refl _) zh
 refine Zz 9 ?_
 exact N_ Tryz.results35 ⟨false,fun h=>by cases h⟩ rfl (.refl _) zt
end Go.Proofs.YtamklbgaipakfaaGreatDoor
namespace Go.Proofs.YtamklbgaipakfaaGreatDoor
open Go Go.Sx Go.Proofs
attribute [local irreducible] Code.wp wpList wpAnyH
open Go.Vs
theorem kQ_:∀ (m:Nat) (c:Con),c.sz≤m→c.ok→c.sz≤1000→Tri Tryz.prog 222 #[Con.val c] [] [Con.memF c] (fun _:Unit=>.int .i64 (c.sz:Int)) (fun _=>[]) (fun _=>[]):=by
 intro m
 induction m with
 | zero=>intro c h;have:=c.sz_pos;omega
 | succ m ih =>
   intro c hm hok hz
   have hpl:=Con.ok_len hok
   refine l_ Tryz.func222 rfl rfl Tryz.ntmps222 rfl fun v0=>?_
   refine Zz 2 ?_
   refine U_ rfl rfl fun b1=>Zz 15 ?_
   have hsz:=Con.sz_eq c
   refine bx_ [(1,zp_ b1 0),(3,.int .i64 1),(4,.int .i64 ((0:Nat):Int))] zl ?_
   refine bL_ (ι:={z:Nat // z≤c.parts.length}) (fun z=>[(1,zp_ b1 0),(3,.int .i64 ((1+Con.sz.szs (c.parts.take z.1):Nat):Int)),(4,.int .i64 (z.1:Int))]) (fun _=>_) (fun _=>_) (fun z=>c.parts.length - z.1) ⟨0,by simp⟩ ?_
   rintro ⟨i,hi⟩
   dsimp only
   have hle:=Con.szs_take_le c.parts i
   refine bx_ [(1,zp_ b1 0),(3,.int .i64 ((1+Con.sz.szs (c.parts.take i):Nat):Int)),(4,.int .i64 (i:Int))] zl ?_
   refine Zi 7 (fun hr1=>?_) fun hr1=>?_
   · skip
     refine Zz 12 ?_
     exact N_ Tryz.results222 () (V_ rfl (by rw[hsz,List.take_of_length_le (by omega)])) g_ zt
   · skip
     obtain⟨hlx1,x1,hx1,hmx1⟩:=zge (show i<List.length (Con.parts c) by omega)
     have hsp:=Con.sz_part hmx1
     have hle2:=Con.szs_take_le c.parts (i+1)
     rw[Con.szs_step hx1]at hle2
     refine Zz 12 ?_
     refine d_ (L_ ab_ A_ rfl rfl (fun v _ h=>y_ (n:=5) Con.cells_len (by decide) (by exact ((Con.mem_iff c v).1 h.1).1) hx1) (by omega) (by first|omega|(simp;done))) rfl ?_
     refine d_ (af_ (ad:=(Con.ad c)) (us:=Con.cells x1) aD_ A_ rfl (fun v _ h=>by exact ((Con.mem_iff c v).1 h.1).1) (Con.cells_len _) (u_ Con.cells_len hx1)) rfl (f_ (ih x1 (by omega) (Con.ok_part hok hmx1) (by omega)) rfl g_ (fun v _ h=>by exact⟨(Con.mem_part (c:=c) h.1 hmx1),trivial⟩) rfl fun _=>Zz 10 ?_)
     have hst:=Con.szs_step hx1
     exact J_ ⟨i+1,hlx1⟩ (by dsimp only;omega) ⟨rfl,(V_ rfl (by dsimp only;omega)),rfl,trivial⟩ (.refl _) zh
end Go.Proofs.YtamklbgaipakfaaGreatDoor
namespace Go.Vs
open Go Go.Sx
structure Pw where
  l:List Pc
  ad:Option Addr
  cap:Nat
def Pw.cells (x:Pw):List Value:=[.slice x.ad x.l.length x.cap]
theorem Pw.cells_len (x:Pw):x.cells.length=1:=rfl
namespace Con
end Con
namespace Ax
end Ax
end Go.Vs
namespace Go.Sx
open Go
section
variable {P:Program} {N:Nf} {v0:Vw} {H0:Hp} {R:Exit→Act→World→Prop} {K:List Kt} {fr:Fr} {H F:Hp} {Γ:List Fct} {ops:Array Oper} {l:List Oper} {ty:TypeId} {ps:String} {af:Array Edge} {e:TypeId} {sz n:Nat} {sv:Value} {xs:List Value} {Hr:Hp}
theorem tq_ {α:Type} (l:List α) (k m:Nat) (u:α) (hk:k<m) (hm:m≤l.length):(l.take k++[u]++l.drop (k+1)).take m=(l.take m).set k u:=by
 apply List.ext_getElem?
 intro j
 rw[List.getElem?_take,List.getElem?_set,List.length_take]
 by_cases hj:j<m
 ·rw[if_pos hj]
  by_cases h1:j<k
  ·rw[if_neg (by omega),List.append_assoc,List.getElem?_append_left (by rw[List.length_take];omega),List.getElem?_take,if_pos h1,List.getElem?_take,if_pos hj]
  by_cases h2:j=k
  ·subst h2
   rw[if_pos rfl,if_pos (by omega),List.append_assoc,List.getElem?_append_right (by rw[List.length_take];omega),List.length_take,Nat.min_eq_left (by omega),Nat.sub_self];rfl
  rw[if_neg (by omega),List.getElem?_append_right (by rw[List.length_append,List.length_take,List.length_singleton];omega),List.length_append,List.length_take,List.length_singleton,List.getElem?_drop,List.getElem?_take,if_pos hj,Nat.min_eq_left (by omega)]
  congr 1;omega
 rw[if_neg hj,if_neg (by omega),List.getElem?_take,if_neg hj]
theorem st_ {t:TypeId} {x y:Operand} {k:Nat} {u:Value} (hrow:aL_ e sz sv n xs Hr) (hH:H.Perm (Hr++F)) (hs:∀ w,(sizeOf t).run P w=.ok 1 w) (hx:Fr.ev fr x=some (.pointer (some ⟨svB sv,k,none⟩))) (hy:Fr.ev fr y=some u) (hk:k<n*sz) (hu:u.cells=#[u]) (hu1:u.oneCell'=true)
    (h:∀ Hr',aL_ e sz sv n (xs.set k u) Hr'→Ops P R N v0 H0 ops l K fr (Hr'++F) Γ):Ops P R N v0 H0 ops (⟨none,.store t x y,ty,ps,af,none⟩::l) K fr H Γ:=by
  rcases hrow.2 with⟨_,h2,_⟩|⟨g,cap,cur,rfl,rfl,h3,h4,h5,h6⟩
  · subst h2;simp at hk
  · have hle:n*sz≤cap*sz:=Nat.mul_le_mul_right _ h3
    refine C_ hH (x_ (b:=g) (off:=k) 0 hs hx hy rfl (by rw[hu];rfl) ?_ (by rw[hu];simp[hu1]) ?_)
    · have hb:k+1≤cur.size:=by rw[h5];omega
      simpa using hb
    · rw[hu]
      refine h [(g,.cells (cur.toList.take k++[u]++cur.toList.drop (k+1)).toArray e (0,0))] ⟨by rw[List.length_set];exact hrow.1,.inr ⟨g,cap,_,rfl,rfl,h3,h4,?_,?_⟩⟩
      · simp only[List.size_toArray,List.length_append,List.length_take,List.length_drop,List.length_singleton,Array.length_toList,h5];omega
      · show ((cur.toList.take k++[u]++cur.toList.drop (k+1)).toArray).toList.take (n*sz)=_
        rw[List.toList_toArray,tq_ _ _ _ _ hk (by rw[Array.length_toList,h5];exact hle),h6]
theorem uq_ {α:Type} (f:α→List Value) (z:Nat) (hf:∀ x,(f x).length=z):∀ (l:List α) (i j:Nat) (x y:α) (u:Value),l[i]? = some x→j<z→f y=(f x).set j u→(l.flatMap f).set (i*z+j) u=(l.set i y).flatMap f
  | [],i,_,_,_,_,h,_,_=>by simp at h
  | a::l,0,j,x,y,u,h,hj,he=>by
    simp only[List.getElem?_cons_zero,Option.some.injEq]at h
    subst h
    rw[List.flatMap_cons,List.set_cons_zero,List.flatMap_cons,he,Nat.zero_mul,Nat.zero_add,List.set_append_left _ _ (by rw[hf];exact hj)]
  | a::l,i+1,j,x,y,u,h,hj,he=>by
    simp only[List.getElem?_cons_succ]at h
    rw[List.flatMap_cons,List.set_cons_succ,List.flatMap_cons,← uq_ f z hf l i j x y u h hj he,List.set_append_right _ _ (by rw[hf,Nat.succ_mul];omega),hf]
    congr 2
    rw[Nat.succ_mul];omega
end
end Go.Sx
namespace Go.Sx
open Go
section
variable {P:Program} {N:Nf} {v0:Vw} {H0:Hp} {R:Exit→Act→World→Prop} {K:List Kt} {fr:Fr} {H F:Hp} {Γ:List Fct} {ops:Array Oper} {l:List Oper} {d:Nat} {ty:TypeId} {ps:String} {af:Array Edge} {e:TypeId} {sz n:Nat} {sv:Value} {xs:List Value} {Hr:Hp}
inductive ORow (e:TypeId) (sz:Nat):Value→Nat→List Value→Hp→Prop
  | row {sv:Value} {n:Nat} {xs:List Value} {Hr:Hp} (h:aL_ e sz sv n xs Hr):ORow e sz sv n xs Hr
  | cut {g k n cap:Nat} {pre xs:List Value} {Hr:Hp} (hp:pre.length=k*sz) (h:aL_ e sz (.slice (some ⟨g,0,none⟩) (k+n) (k+cap)) (k+n) (pre++xs) Hr):ORow e sz (.slice (some ⟨g,k*sz,none⟩) n cap) n xs Hr
  | out {g k:Nat} {Hr:Hp}:ORow e sz (.slice (some ⟨g,k*sz,none⟩) 0 0) 0 [] Hr
theorem ORow.len (h:ORow e sz sv n xs Hr):xs.length=n*sz:=by
  cases h with
  | row h=>exact h.1
  | cut hp h=>have:=h.1;rw[List.length_append,hp,Nat.add_mul]at this;omega
  | out=>simp
theorem ORow.form (h:ORow e sz sv n xs Hr):∃ ad cap,sv=.slice ad n cap∧n≤cap∧(ad=none→cap=0):=by
 cases h with
 | row h =>
   rcases h.2 with⟨rfl,rfl,_⟩|⟨g,cap,cur,rfl,_,h3,_⟩
   · exact⟨_,_,rfl,Nat.le_refl _,fun _=>rfl⟩
   · exact⟨_,_,rfl,h3,fun q=>by cases q⟩
 | cut hp h =>
   rcases h.2 with⟨h1,_⟩|⟨g,cap,cur,h1,_,h3,_⟩
   · cases h1
   · simp only[Value.slice.injEq]at h1;obtain⟨_,_,rfl⟩:=h1;exact⟨_,_,rfl,by omega,fun q=>by cases q⟩
 | out=>exact⟨_,_,rfl,Nat.le_refl _,fun q=>by cases q⟩
end
end Go.Sx
