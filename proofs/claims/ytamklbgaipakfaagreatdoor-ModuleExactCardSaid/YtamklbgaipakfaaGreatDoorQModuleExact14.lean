/-
  Part of the proof of the law ModuleExact over this seat: the small logic, the data, the contracts of functions (no condition).
-/
import Derived.Test.YtamklbgaipakfaaGreatDoorQModuleExact12
import Derived.Test.YtamklbgaipakfaaGreatDoorQModuleExact13
import Derived.Test.YtamklbgaipakfaaGreatDoorQModuleExact7
import Derived.Test.YtamklbgaipakfaaGreatDoorQModuleExact6
import Derived.Test.YtamklbgaipakfaaGreatDoorQModuleExact9
import Derived.Test.YtamklbgaipakfaaGreatDoorQModuleExact11
set_option linter.unusedVariables false
set_option linter.unusedSimpArgs false
set_option linter.unusedSectionVars false
set_option maxHeartbeats 1000000
namespace Go.Vs
open Go Go.Sx
inductive Tre where
  | mk (con:Con) (size:Int) (ad:Option Addr) (cap:Nat) (parts:List Tre)
namespace Tre
def con:Tre→Con|mk c _ _ _ _=>c
def size:Tre→Int|mk _ n _ _ _=>n
def ad:Tre→Option Addr|mk _ _ a _ _=>a
def cap:Tre→Nat|mk _ _ _ c _=>c
def parts:Tre→List Tre|mk _ _ _ _ p=>p
def cells (t:Tre):List Value:=t.con.cells++[.int .i64 t.size,.slice t.ad t.parts.length t.cap]
def val (t:Tre):Value:=.agg t.cells.toArray
theorem cells_len (t:Tre):t.cells.length=7:=rfl
theorem cells_one (t:Tre):t.cells.all Value.oneCell'=true:=by simp[cells,Con.cells,Value.oneCell',str]
def tz:Tre→Nat
  | mk _ _ _ _ ps=>1+tzs ps
where tzs:List Tre→Nat
  | []=>0
  | p::ps=>tz p+tzs ps
theorem tz_pos (t:Tre):0<t.tz:=by cases t;simp[tz];omega
theorem tp_ {p:Tre}:∀ {ps:List Tre},p∈ps→p.tz≤tz.tzs ps
 | q::ps,h=>by
   rcases List.mem_cons.1 h with rfl|h
   · simp[tz.tzs]
   · have:=tp_ h;simp[tz.tzs];omega
theorem uS_ {t p:Tre} (h:p∈t.parts):p.tz<t.tz:=by
  cases t with
  | mk c n a cp ps=>have:=tp_ (ps:=ps) h;simp only[tz];omega
def mem:Tre→Vw→Prop
  | mk c _ a _ ps,v=>c.mem v∧bY_ v a (ps.flatMap cells)∧mems ps v
where mems:List Tre→Vw→Prop
  | [],_=>True
  | p::ps,v=>mem p v∧mems ps v
theorem mems_iff {v:Vw}:∀ {ps:List Tre},mem.mems ps v↔∀ p∈ps,p.mem v
  | []=>by simp[mem.mems]
  | p::ps=>by simp[mem.mems,mems_iff (ps:=ps)]
theorem mem_iff (t:Tre) (v:Vw):t.mem v↔t.con.mem v∧bY_ v t.ad (t.parts.flatMap cells)∧∀ p∈t.parts,p.mem v:=by
  cases t with
  | mk c n a cp ps=>simp only[mem,mems_iff,con,ad,parts]
theorem mem_mono:∀ (n:Nat) (t:Tre),t.tz≤n→∀ v v',v.le v'→t.mem v→t.mem v'
  | 0,t,h=>by have:=t.tz_pos;omega
  | n+1,t,h=>fun v v' hl hm=>by
    rw[mem_iff]at hm ⊢
    exact⟨t.con.memF.mono v v' hl hm.1,(al_ t.ad (t.parts.flatMap cells)).mono v v' hl hm.2.1,fun p hp=>mem_mono n p (by have:=uS_ hp;omega) v v' hl (hm.2.2 p hp)⟩
def memF (t:Tre):Fct:=⟨t.mem,mem_mono t.tz t (Nat.le_refl _)⟩
theorem mem_part {t p:Tre} {v:Vw} (h:t.memF.p v) (hp:p∈t.parts):p.memF.p v:=((mem_iff t v).1 h).2.2 p hp
def wf:Tre→Prop
  | mk c n _ _ ps=>n=(c.sz:Int)∧c.parts=cons ps∧wfs ps
where
  wfs:List Tre→Prop
  | []=>True
  | p::ps=>wf p∧wfs ps
  cons:List Tre→List Con
  | []=>[]
  | p::ps=>p.con::cons ps
theorem pP_:∀ ps:List Tre,wf.cons ps=ps.map con
  | []=>rfl
  | p::ps=>by rw[wf.cons,pP_ ps];rfl
theorem rg_:∀ {ps:List Tre},wf.wfs ps↔∀ p∈ps,p.wf
  | []=>by simp[wf.wfs]
  | p::ps=>by simp[wf.wfs,rg_ (ps:=ps)]
theorem wf_iff (t:Tre):t.wf↔t.size=(t.con.sz:Int)∧t.con.parts=t.parts.map con∧∀ p∈t.parts,p.wf:=by
  cases t with
  | mk c n a cp ps=>simp only[wf,rg_,pP_,con,size,parts]
theorem wf_part {t p:Tre} (h:t.wf) (hp:p∈t.parts):p.wf∧p.con.sz<t.con.sz:=by
  obtain⟨_,h2,h3⟩:=(wf_iff t).1 h
  exact⟨h3 p hp,Con.sz_part (by rw[h2];exact List.mem_map_of_mem hp)⟩
end Tre
def kn_ (l:List Tre):Fct:=⟨fun v=>∀ t∈l,t.mem v,fun v v' hl h t ht=>t.memF.mono v v' hl (h t ht)⟩
theorem qf_ {l:List Tre} {t:Tre} {v:Vw} (h:(kn_ l).p v) (ht:t.memF.p v):(kn_ (l++[t])).p v:=fun x hx=>by
 rcases List.mem_append.1 hx with hx|hx
 ·exact h x hx
 rw[List.mem_singleton]at hx;subst hx;exact ht
theorem szs_step {l:List Con} {i:Nat} {x:Con} (h:l[i]? = some x):Con.sz.szs (l.take (i+1))=Con.sz.szs (l.take i)+x.sz:=by
  have key:∀ (a b:List Con),Con.sz.szs (a++b)=Con.sz.szs a+Con.sz.szs b:=fun a b=>by
    induction a with
    | nil=>simp[Con.sz.szs]
    | cons c a ih=>simp[Con.sz.szs,ih];omega
  rw[List.take_add_one,h,Option.toList_some,key]
  simp[Con.sz.szs]
theorem szs_take_le {l:List Con} (i:Nat):Con.sz.szs (l.take i)≤Con.sz.szs l:=by
  induction l generalizing i with
  | nil=>simp
  | cons c l ih =>
    cases i with
    | zero=>simp[Con.sz.szs]
    | succ i=>have:=ih i;simp[Con.sz.szs];omega
theorem szs_len:∀ l:List Con,l.length≤Con.sz.szs l
  | []=>Nat.le_refl _
  | c::l=>by have:=szs_len l;have:=c.sz_pos;simp only[List.length_cons,Con.sz.szs];omega
theorem Con.parts_lt (c:Con):c.parts.length<c.sz:=by have:=szs_len c.parts;rw[Con.sz_eq];omega
theorem og_ {a b:List Con} {i:Nat} {x y:Con} (hx:a[i]? = some x) (hy:b[i]? = some y):Con.cmp.cmps (a.drop i) (b.drop i)=if Con.cmp x y=0 then Con.cmp.cmps (a.drop (i+1)) (b.drop (i+1)) else Con.cmp x y:=by
  obtain⟨h1,e1⟩:=List.getElem?_eq_some_iff.1 hx
  obtain⟨h2,e2⟩:=List.getElem?_eq_some_iff.1 hy
  rw[List.drop_eq_getElem_cons h1,List.drop_eq_getElem_cons h2,Con.cmp.cmps,e1,e2]
theorem ne_ {a b:List Con} {i:Nat} (h1:i<a.length) (h2:b.length≤i):Con.cmp.cmps (a.drop i) (b.drop i)=1:=by
  rw[List.drop_eq_getElem_cons h1,List.drop_of_length_le h2,Con.cmp.cmps]
theorem lU_ {a b:List Con} {i:Nat} (h1:a.length≤i) (h2:i<b.length):Con.cmp.cmps (a.drop i) (b.drop i)=-1:=by
  rw[List.drop_eq_getElem_cons h2,List.drop_of_length_le h1,Con.cmp.cmps]
theorem pQ_ {a b:List Con} {i:Nat} (h1:a.length≤i) (h2:b.length≤i):Con.cmp.cmps (a.drop i) (b.drop i)=0:=by
  rw[List.drop_of_length_le h1,List.drop_of_length_le h2,Con.cmp.cmps]
theorem oh_ {a b:List Str} {i:Nat} {x y:Str} (hx:a[i]? = some x) (hy:b[i]? = some y):ed_ (a.drop i) (b.drop i)=if Lib.compareBytes x y=0 then ed_ (a.drop (i+1)) (b.drop (i+1)) else Lib.compareBytes x y:=by
  obtain⟨h1,e1⟩:=List.getElem?_eq_some_iff.1 hx
  obtain⟨h2,e2⟩:=List.getElem?_eq_some_iff.1 hy
  rw[List.drop_eq_getElem_cons h1,List.drop_eq_getElem_cons h2,ed_,e1,e2]
theorem nh_ {a b:List Str} {i:Nat} (h1:i<a.length) (h2:b.length≤i):ed_ (a.drop i) (b.drop i)=1:=by
  rw[List.drop_eq_getElem_cons h1,List.drop_of_length_le h2,ed_]
theorem lW_ {a b:List Str} {i:Nat} (h1:a.length≤i) (h2:i<b.length):ed_ (a.drop i) (b.drop i)=-1:=by
  rw[List.drop_eq_getElem_cons h2,List.drop_of_length_le h1,ed_]
theorem pR_ {a b:List Str} {i:Nat} (h1:a.length≤i) (h2:b.length≤i):ed_ (a.drop i) (b.drop i)=0:=by
  rw[List.drop_of_length_le h1,List.drop_of_length_le h2,ed_]
theorem jh_ (x:Int):orF [x]=x:=by simp only[orF];split<;>simp_all
theorem jg_:∀ (l:List Int) (x:Int),orF (l++[x])=if orF l=0 then x else orF l
 | [],x=>by rw[List.nil_append,jh_];simp[orF]
 | y::l,x=>by
   rw[List.cons_append,orF,orF,jg_ l x]
   by_cases h:y=0
   · rw[if_pos h,if_pos h]
   · rw[if_neg h,if_neg h,if_neg h]
theorem dS_ {l:List Int} {v x:Int} (hv:v=orF l) (h:v=0):x=orF (l++[x]):=by rw[jg_,if_pos (hv▸h)]
theorem eB_ {l:List Int} {v x:Int} (hv:v=orF l) (h:v≠0):v=orF (l++[x]):=by rw[jg_,if_neg (hv▸h)];exact hv
def gH_ (v n all fin:Int) (at':Prop):Prop:=(v≠0→n=v)∧(v=0→(n=0→all=fin∧at')∧(n≠0→all=n))
theorem lV_ {a b:List Con} {i:Nat} (h1:i≤a.length) (h2:i≤b.length) (h:a.length≤i∨b.length≤i):Con.cmp.cmps (a.drop i) (b.drop i)=Lib.compareInt (a.length:Int) (b.length:Int):=by
 unfold Lib.compareInt
 by_cases ha:a.length≤i
 ·by_cases hb:b.length≤i
  ·rw[pQ_ ha hb,if_neg (by omega),if_neg (by omega)]
  rw[lU_ ha (by omega),if_pos (by omega)]
 rw[ne_ (by omega) (h.resolve_left ha),if_neg (by omega),if_pos (by omega)]
theorem lX_ {a b:List Str} {i:Nat} (h1:i≤a.length) (h2:i≤b.length) (h:a.length≤i∨b.length≤i):ed_ (a.drop i) (b.drop i)=Lib.compareInt (a.length:Int) (b.length:Int):=by
 unfold Lib.compareInt
 by_cases ha:a.length≤i
 ·by_cases hb:b.length≤i
  ·rw[pR_ ha hb,if_neg (by omega),if_neg (by omega)]
  rw[lW_ ha (by omega),if_pos (by omega)]
 rw[nh_ (by omega) (h.resolve_left ha),if_neg (by omega),if_pos (by omega)]
theorem gH_.fin {v n all fin o:Int} {at':Prop} {l:List Int} (h:gH_ v n all fin at') (hv:v=orF l) (hx:n=0→v=0→at'→fin=o):(if n=0 then o else n)=(if v=0 then (if n=0 then o else n) else v)∧(v=0→(if n=0 then o else n)=all):=by
 obtain⟨h1,h2⟩:=h
 constructor
 ·by_cases hv0:v=0
  ·rw[if_pos hv0]
  rw[if_neg hv0,h1 hv0,if_neg hv0]
 intro hv0
 obtain⟨h3,h4⟩:=h2 hv0
 by_cases hn:n=0
 ·rw[if_pos hn];obtain⟨e,ha⟩:=h3 hn;rw[e,hx hn hv0 ha]
 rw[if_neg hn,h4 hn]
theorem gH_.or {v n all fin o:Int} {at':Prop} {l:List Int} (h:gH_ v n all fin at') (hv:v=orF l) (hx:n=0→v=0→at'→fin=o):(if n=0 then o else n)=orF (l++[all]):=by
 obtain⟨g1,g2⟩:=h.fin hv hx
 rw[jg_,← hv]
 by_cases hv0:v=0
 ·rw[if_pos hv0,g2 hv0]
 rw[if_neg hv0,g1,if_neg hv0]
theorem gH_.init {v all:Int} {at':Prop} (h:at'):gH_ v v all all at':=⟨fun _=>rfl,fun h0=>⟨fun _=>⟨rfl,h⟩,fun q=>absurd h0 q⟩⟩
theorem gH_.step {v all fin fin' m:Int} {at' at2:Prop} (h:gH_ v 0 all fin at') (e:fin=if m=0 then fin' else m) (h2:at'→at2):gH_ v m all fin' at2:=by
 obtain⟨h1,h3⟩:=h
 refine⟨fun hv=>absurd (h1 hv).symm hv,fun hv=>?_⟩
 obtain⟨g,_⟩:=h3 hv
 obtain⟨g1,g2⟩:=g rfl
 refine⟨fun hm=>?_,fun hm=>?_⟩
 ·rw[if_pos hm]at e;exact⟨g1.trans e,h2 g2⟩
 rw[if_neg hm]at e;exact g1.trans e
def wgL:List Con→Int
  | []=>0
  | c::l=>(if c.kind=0 then 0 else (c.sz:Int))+wgL l
def wgS:List Str→Int
  | []=>0
  | s::l=>(if s=[] then 0 else 1)+wgS l
theorem uO_ (a b:List Con):wgL (a++b)=wgL a+wgL b:=by
  induction a with
  | nil=>simp[wgL]
  | cons c a ih=>simp only[List.cons_append,wgL,ih];omega
theorem uN_ (a b:List Str):wgS (a++b)=wgS a+wgS b:=by
  induction a with
  | nil=>simp[wgS]
  | cons c a ih=>simp only[List.cons_append,wgS,ih];omega
theorem oz_ {l:List Con} {i:Nat} {x:Con} (h:l[i]? = some x):wgL (l.take (i+1))=wgL (l.take i)+(if x.kind=0 then 0 else (x.sz:Int)):=by
  rw[List.take_add_one,h,uO_];simp[wgL]
theorem oy_ {l:List Str} {i:Nat} {x:Str} (h:l[i]? = some x):wgS (l.take (i+1))=wgS (l.take i)+(if x=[] then 0 else 1):=by
  rw[List.take_add_one,h,uN_];simp[wgS]
theorem tl_ {l:List Con} (h:∀ c∈l,c.sz≤1000000):0≤wgL l∧wgL l≤1000000*l.length:=by
  induction l with
  | nil=>simp[wgL]
  | cons c l ih =>
    have h1:=h c (by simp)
    have h2:=ih fun d hd=>h d (by simp[hd])
    simp only[wgL,List.length_cons]
    split<;>omega
theorem wgS_bd (l:List Str):0≤wgS l∧wgS l≤l.length:=by
  induction l with
  | nil=>simp[wgS]
  | cons c l ih=>simp only[wgS,List.length_cons];split<;>omega
theorem Ax.wgt_eq (x:Ax):x.wgt=wgL [x.left,x.right]+(x.roles.length:Int)+wgS [x.role,x.a,x.b]:=by
  unfold Ax.wgt;simp only[wgL,wgS];omega
theorem uB_ {x:Ax} {v:Vw} (h:x.memF.p v) {c:Con} (hc:c∈[x.left,x.right]):c.memF.p v:=by
 simp only[List.mem_cons,List.not_mem_nil,or_false]at hc
 rcases hc with rfl|rfl
 ·exact h.1
 exact h.2.1
theorem id_ {x:Ax} (hok:x.ok) (h1:x.left.sz≤1000000) (h2:x.right.sz≤1000000) {c:Con} (hc:c∈[x.left,x.right]):c.ok∧c.sz≤1000000:=by
 simp only[List.mem_cons,List.not_mem_nil,or_false]at hc
 rcases hc with rfl|rfl
 ·exact⟨hok.left,h1⟩
 exact⟨hok.right,h2⟩
theorem nf_ (c d:Con):Con.cmp c d=if orF [Lib.compareInt (c.sz:Int) (d.sz:Int),Lib.compareInt c.kind d.kind,Lib.compareBytes c.name d.name,Lib.compareInt c.lo d.lo,Lib.compareInt c.hi d.hi]=0 then Con.cmp.cmps c.parts d.parts else orF [Lib.compareInt (c.sz:Int) (d.sz:Int),Lib.compareInt c.kind d.kind,Lib.compareBytes c.name d.name,Lib.compareInt c.lo d.lo,Lib.compareInt c.hi d.hi]:=by
  rw[Con.cmp_eq]
  simp only[orF]
  (repeat' split)<;>first|rfl|omega|(simp_all;done)
end Go.Vs
namespace Go.Proofs.YtamklbgaipakfaaGreatDoor
open Go Go.Sx Go.Proofs
attribute [local irreducible] Code.wp wpList wpAnyH
open Go.Vs
theorem ph_ (l:List Ax) (ad:Option Addr) (cap:Nat) (hcap:l.length≤cap∧cap≤2199023255488) (hok:∀ x∈l,x.ok) {p:List Pc} {er:Int} (e:az_ l=(p,er)) :
    Tri Tryz.prog 27 #[.slice ad l.length cap] [] [dw_ ad l,cq_] (fun y:{y:Option Addr×Nat // p.length≤y.2∧y.2≤maxLen∧(y.1=none→y.2=0)}=>.tuple #[.slice y.1.1 p.length y.1.2,.int .i64 er]) (fun _=>[]) (fun y=>[al_ y.1.1 (p.flatMap Pc.cells)]):=by
  have h:=tN_ l ad cap hcap hok
  generalize az_ l=g at h e
  subst e
  exact h
theorem sg_ {l:List Ax} {p:List Pc} {er:Int} {S:List Str} (h:er≠0):gC_ l p er S=([],er):=if_pos h
theorem qm_ {l:List Ax} {p:List Pc} {er:Int} {S:List Str} (h:¬ er≠0) (h2:ge_ S=false):gC_ l p er S=([],1):=by unfold gC_;rw[if_neg h,if_pos h2]
theorem sf_ {l:List Ax} {p:List Pc} {er:Int} {S:List Str} (h:¬ er≠0) (h2:ge_ S=true):gC_ l p er S=(eC_ l p S l.length,0):=by unfold gC_;rw[if_neg h,if_neg (by rw[h2];simp)]
theorem rE_ {er:Int} (h:er=0):¬ er≠0:=fun q=>q h
theorem oo_ (ls:List Ax) (lad:Option Addr) (lcap:Nat) (hcap:ls.length≤lcap∧lcap≤2199023255488) (hok:∀ x∈ls,x.ok) (hll:ls.length≤100000000) (S:List Str) (sad:Option Addr) (scap:Nat) (hS:S.length≤100000000) (hSl:∀ s∈S,s.length≤100000) (p:List Pc) (er:Int) (hPL:az_ ls=(p,er)) (hp:p.length≤100000000) (R:List Int) (e:Int) (hR:gC_ ls p er S=(R,e)):Tri Tryz.prog 11 #[.slice lad (List.length ls) lcap,.slice sad (List.length S) scap] [] [dw_ lad ls,cq_,al_ sad (List.flatMap aE_ S)] (fun y:{y:Option Addr×Nat // R.length≤y.2∧y.2≤maxLen∧(y.1=none→y.2=0)}=>.tuple #[.slice y.1.1 R.length y.1.2,.int .i64 e]) (fun _=>[]) (fun y=>[al_ y.1.1 (R.flatMap ew_)]):=by
 refine l_ Tryz.func11 rfl rfl Tryz.ntmps11 rfl fun v0=>?_
 refine Zz 9 ?_
 refine f_ (ph_ ls lad lcap hcap hok hPL) rfl g_ zf rfl fun⟨⟨ad,cap⟩,hpc1,hpc2,hpc3⟩=>?_
 dsimp only
 refine Zi 11 (fun hr1=>?_) fun hr1=>?_
 ·refine Zz 9 ?_
  refine aj_ (uR_ S sad scap hSl) rfl g_ zf rfl fun r2 hr2=>d_ (bb_ rfl) rfl (Zz 2 ?_)
  cases r2
  ·refine Zz 8 ?_
   have e0:=hR.symm.trans (qm_ (rE_ hr1) hr2)
   obtain⟨rfl,rfl⟩:=Prod.mk.inj e0
   exact lq_ Tryz.results11 ⟨(none,0),by simp[maxLen]⟩ rfl rfl rfl g_ (fun v _ h=>by exact⟨.inl rfl,trivial⟩)
  refine Zz 8 ?_
  refine f_ (mQ_ ls lad lcap p ad cap S sad scap) rfl g_ zt rfl fun⟨bp,bs,bl⟩=>?_
  dsimp only
  refine f_ (qU_ ls lad lcap p ad cap S sad scap bp bs bl hp hS hll) rfl g_ zf rfl fun⟨⟨qad,qcap⟩,hq1,hq2,hq3⟩=>?_
  dsimp only
  refine Zz 5 ?_
  have e0:=hR.symm.trans (sf_ (rE_ hr1) hr2)
  obtain⟨rfl,rfl⟩:=Prod.mk.inj e0
  exact lq_ Tryz.results11 ⟨(qad,qcap),⟨hq1,hq2,hq3⟩⟩ rfl rfl rfl g_ zf
 refine Zz 11 ?_
 have e0:=hR.symm.trans (sg_ hr1)
 obtain⟨rfl,rfl⟩:=Prod.mk.inj e0
 exact lq_ Tryz.results11 ⟨(none,0),by simp[maxLen]⟩ rfl rfl rfl g_ (fun v _ h=>by exact⟨.inl rfl,trivial⟩)
end Go.Proofs.YtamklbgaipakfaaGreatDoor
namespace Go.Proofs.YtamklbgaipakfaaGreatDoor
open Go Go.Sx Go.Proofs
attribute [local irreducible] Code.wp wpList wpAnyH
open Go.Vs
theorem strt37:iv_ Tryz.prog 37 [(0,1)] [.slice none 0 0]:=⟨_,Tryz.zeroValue37,bw_,fun w=>by simp[gS_]⟩
theorem oc_:Elt Tryz.prog 22 48 16 216:=hZ_ Tryz.underlying22 (z:=.agg #[.int .i64 0,.bool false,.int .i64 0,str [],.int .i64 0,.int .i64 0,.slice none 0 0,.int .i64 0,str [],.int .i64 0,.int .i64 0,.slice none 0 0,.slice none 0 0,str [],str [],str []]) (by kernel_rfl) rfl (by decide)
theorem Ax.cells_one (x:Ax):x.cells.all Value.oneCell'=true:=by simp[Ax.cells,Con.cells,Value.oneCell',str]
theorem part_c (ls:List Ax) (lad:Option Addr) (lcap:Nat) (p:List Pc) (ad:Option Addr) (cap:Nat) (S:List Str) (sad:Option Addr) (scap:Nat) (hp:p.length≤100000000) (hS:S.length≤100000000) (hll:ls.length≤100000000):Tri Tryz.prog 46 #[.slice lad (List.length ls) lcap,.slice ad (List.length p) cap,.slice sad (List.length S) scap] [] [al_ ad (List.flatMap Pc.cells p),al_ sad (List.flatMap aE_ S),dw_ lad ls] (fun y:{y:Value×Hp×List Int // aL_ 48 16 y.1 (bR_ ls y.2.2).length ((bR_ ls y.2.2).flatMap Ax.cells) y.2.1∧y.2.2=(eC_ ls p S (List.length ls))}=>.agg #[y.1.1]) (fun y=>y.1.2.1) (fun _=>[]):=by
 refine eZ_ Tryz.func46 rfl rfl Tryz.ntmps46 rfl fun v0=>?_
 refine X_ ?_
 refine I_ ?_
 refine U_ rfl rfl fun b1=>?_
 refine K_ Tryz.zeroValue37 rfl fun b2=>?_
 refine aa_ ?_
 refine G_ rfl ?_
 refine X_ ?_
 refine X_ ?_
 refine I_ ?_
 refine d_ (bl_ 1 kH_ rfl rfl rfl) rfl ?_
 refine d_ (t_ rfl) rfl ?_
 refine d_ (t_ rfl) rfl ?_
 refine f_ (mQ_ ls lad lcap p ad cap S sad scap) rfl g_ zt rfl fun⟨bp,bs,bl⟩=>?_
 dsimp only
 refine aa_ ?_
 refine G_ rfl ?_
 refine cy_ ?_
 refine ez_ (bi_ b1 (.cells #[.slice lad (List.length ls) lcap] 22 (0,0))) (bD_ (c_ e_)) (fun _ h1 h2 _=>⟨h1,h2⟩) ?_
 refine bx_ [(3,zp_ b1 0),(6,zp_ b2 0),(11,.func (.func 80) #[] #[zp_ bp 0,zp_ bs 0,zp_ bl 0])] zl ?_
 refine hO_ [bi_ b1 (.cells #[.slice lad (List.length ls) lcap] 22 (0,0)),dw_ lad ls] (σ:={y:Value×Hp×List Int // aL_ 48 16 y.1 (bR_ ls y.2.2).length ((bR_ ls y.2.2).flatMap Ax.cells) y.2.1∧(bR_ ls y.2.2).length=y.2.2.length}) (α:=Int) (xv:=fun x=>.int .i64 x) (good:=fun s x=>s.1.2.2.length<100000000∧0≤x∧x<(List.length ls:Int)) (nx:=fun x s s'=>s'.1.2.2=s.1.2.2++[x]) (Rc:=fun s=>s.1.2.2=(eC_ ls p S (List.length ls))) (Γi:=[bi_ bp (.cells #[.slice ad (List.length p) cap] 54 (0,0)),bi_ bs (.cells #[.slice sad (List.length S) scap] 23 (0,0)),bi_ bl (.cells #[.slice lad (List.length ls) lcap] 22 (0,0)),al_ ad (List.flatMap Pc.cells p),al_ sad (List.flatMap aE_ S),dw_ lad ls,bi_ b1 (.cells #[.slice lad (List.length ls) lcap] 22 (0,0)),dw_ lad ls]) (Hj:=fun y=>(b2,.cells #[y.1.1] 37 (0,0))::y.1.2.1) (Hc:=[]) (caps:=[zp_ bp 0,zp_ bs 0,zp_ bl 0]) ⟨(.slice none 0 0,[],[]),aL_.nil _ _,rfl⟩ rfl (.refl _) zf ?_ ?_ ?_
 ·rintro l D rec hpa hst hpe ht hasg hbody ⟨⟨sv,Hq,L⟩,hr,hrl⟩ x ⟨hx1,hx2,hx3⟩
  dsimp only at hr hrl hx1 ⊢
  obtain⟨a1,ha1⟩:∃ a1,ls[x.toNat]? = some a1:=⟨_,List.getElem?_eq_getElem (by omega)⟩
  refine hI_ (ι:=Unit) (Hj:=fun y:{y:Value×Hp×List Int // aL_ 48 16 y.1 (bR_ ls y.2.2).length ((bR_ ls y.2.2).flatMap Ax.cells) y.2.1∧(bR_ ls y.2.2).length=y.2.2.length}=>(b2,.cells #[y.1.1] 37 (0,0))::y.1.2.1) (s:=⟨(sv,Hq,L),hr,hrl⟩) (ok:=fun s'=>s'.1.2.2=L++[x]) (Γ:=[bi_ b1 (.cells #[.slice lad (List.length ls) lcap] 22 (0,0)),dw_ lad ls]) (fun _=>[(3,zp_ b1 0),(6,zp_ b2 0),(7,.int .i64 x)]) (fun _=>(b2,.cells #[sv] 37 (0,0))::Hq) hpa hst hpe ht rfl ?_ ?_
  ·intro n v0 H0 HL
   rw[hasg]
   dsimp only
   refine dP_.2 (C_ (H':=(b2,.cells #[sv] 37 (0,0))::(Hq++HL)) (by simp) (dP_.1 ?_))
   refine bh_ ?_
   refine aq_ (bv_ _) (W_ rfl) rfl rfl ?_
   refine bW_ ?_
   refine de_ rfl ?_
   exact dE_ () zl (F:=[]) (by rw[List.append_nil];exact .refl _) zh
  intro n v0 H0 HL _
  rw[hbody]
  refine dP_.2 (C_ (H':=(b2,.cells #[sv] 37 (0,0))::(Hq++HL)) (by simp) (dP_.1 ?_))
  refine gg_ ?_
  refine qj_ (HL) zk rfl rfl mj_ ?_
  refine z_ 5 [0,2,3,4,5] zk zs ?_
  refine P_ rfl (el_ bw_ rfl rfl rfl gS_) rfl ?_
  refine P_ rfl (cp_ kH_ rfl zf rfl) rfl ?_
  refine P_ rfl (t_ rfl) rfl ?_
  refine P_ rfl (L_ Q_ S_ rfl rfl (fun v _ h=>y_ (n:=16) Ax.cells_len (by decide) (by exact h.2.1.1) ha1) (by omega) (by first|omega|(simp;done))) rfl ?_
  refine P_ rfl (af_ (ad:=lad) (us:=Ax.cells a1) bI_ S_ rfl (fun v _ h=>by exact h.2.1.1) (Ax.cells_len _) (u_ Ax.cells_len ha1)) rfl ?_
  refine bA_ ?_
  refine hy_ 1 6 rfl rfl zk ?_ ?_
  ·refine d_ (bl_ 0 kH_ rfl rfl rfl) rfl ?_
   refine aa_ ?_
   refine bJ_ rfl ?_
   refine H_ zs ?_
   refine j_ 6 rfl zk ?_
   refine E_ Q_ S_ bc_ rfl rfl rfl rfl rfl rfl fun b3=>?_
   refine aa_ ?_
   refine bJ_ rfl ?_
   refine H_ (fun _ a b=>⟨Vw.sat.sub (a.perm (c_ (c_ ca_))),b⟩) ?_
   refine j_ 7 rfl zk ?_
   refine aG_ (news:=List.flatMap Ax.cells [a1]) oc_ hr rfl rfl zp rfl (bM_ 0 rfl) (fun u hu=>bd_ Ax.cells_one hu) (by simp only[maxLen];((try simp only[List.length_append,List.length_cons,List.length_nil]);omega)) (by ((try simp only[List.length_append,List.length_cons,List.length_nil]);omega)) rfl fun sv1 Hr1 hr1=>?_
   have hq1:=zsa hr1
   refine aa_ ?_
   refine bJ_ rfl ?_
   refine H_ zs ?_
   refine z_ 1 [8] zk zs ?_
   refine P_ rfl (el_ bw_ rfl rfl rfl gS_) rfl ?_
   refine bA_ ?_
   refine j_ 9 rfl zk ?_
   refine C_ (aB_ (i_ e_) (bD_ (i_ e_))) ?_
   refine cI_ 1 hq1 gS_ rfl rfl rfl rfl ?_
   refine aa_ ?_
   refine bJ_ rfl ?_
   refine H_ (fun _ a b=>⟨Vw.sat.sub (a.perm (c_ (c_ ca_))),b⟩) ?_
   refine gp_ zk ?_
   refine kT_ rfl ?_
   exact dP_.1 (hl_ ⟨(sv1,Hr1,L++[x]),by rw[gj_ ha1];exact hq1,by rw[gj_ ha1,List.length_append,List.length_append,hrl];rfl⟩ rfl (nD_ (p_ (c_ e_) (s_ (c_ o_) (s_ M_ e_)))))
  refine E_ Q_ S_ bc_ rfl rfl rfl rfl rfl rfl fun b4=>?_
  refine aa_ ?_
  refine bJ_ rfl ?_
  refine H_ (fun _ a b=>⟨Vw.sat.sub (a.perm (c_ (c_ ca_))),b⟩) ?_
  refine j_ 1 rfl zk ?_
  refine d_ (bl_ 1 kH_ rfl rfl rfl) rfl ?_
  refine aa_ ?_
  refine bJ_ rfl ?_
  refine H_ (fun _ a b=>⟨Vw.sat.sub (a.perm (c_ (c_ ca_))),b⟩) ?_
  refine j_ 7 rfl zk ?_
  refine aG_ (news:=List.flatMap Ax.cells [a1]) oc_ hr rfl rfl zp rfl (bM_ 0 rfl) (fun u hu=>bd_ Ax.cells_one hu) (by simp only[maxLen];((try simp only[List.length_append,List.length_cons,List.length_nil]);omega)) (by ((try simp only[List.length_append,List.length_cons,List.length_nil]);omega)) rfl fun sv2 Hr2 hr2=>?_
  have hq2:=zsa hr2
  refine aa_ ?_
  refine bJ_ rfl ?_
  refine H_ zs ?_
  refine z_ 1 [8] zk zs ?_
  refine P_ rfl (el_ bw_ rfl rfl rfl gS_) rfl ?_
  refine bA_ ?_
  refine j_ 9 rfl zk ?_
  refine C_ (aB_ (i_ e_) (bD_ (i_ e_))) ?_
  refine cI_ 1 hq2 gS_ rfl rfl rfl rfl ?_
  refine aa_ ?_
  refine bJ_ rfl ?_
  refine H_ (fun _ a b=>⟨Vw.sat.sub (a.perm (c_ (c_ ca_))),b⟩) ?_
  refine gp_ zk ?_
  refine kT_ rfl ?_
  exact dP_.1 (hl_ ⟨(sv2,Hr2,L++[x]),by rw[gj_ ha1];exact hq2,by rw[gj_ ha1,List.length_append,List.length_append,hrl];rfl⟩ rfl (nD_ (p_ (c_ e_) (s_ (c_ o_) (s_ M_ e_)))))
 ·intro l Gj hY
  exact tW_ (lst:=fun y=>y.1.2.2) ls lad lcap p ad cap S sad scap bp bs bl (bi_ b1 (.cells #[.slice lad (List.length ls) lcap] 22 (0,0))) (dw_ lad ls) (fun s x h=>hY s x h) ⟨(.slice none 0 0,[],[]),aL_.nil _ _,rfl⟩ rfl hp hS hll
 rintro ⟨⟨sv,Hq,L⟩,hr,hrl⟩ hL D l r
 dsimp only at hL hr hrl ⊢
 refine dm_ rfl ?_
 refine fD_ ?_
 refine bh_ ?_
 refine aq_ ad_ (bz_ 0 Tryz.isAgg37 gQ_ rfl rfl rfl) rfl rfl ?_
 refine eP_ ad_ 0 gQ_ rfl rfl rfl rfl rfl (by have q:=(ep_ hr).2;simp only[Value.cells,List.all_cons,List.all_nil,q,Bool.and_true]) ?_
 refine bW_ ?_
 refine dm_ rfl ?_
 refine gT_ ?_
 exact mG_ (G:=(b2,.cells #[sv] 37 (0,0))::(Hq++[(l,.loop r)])) ⟨(sv,Hq,L),hr,hL⟩ (fun a v h1 h2=>dV_ (us:=[sv]) 0 Tryz.results46 Tryz.isAgg37 gQ_ rfl rfl rfl a v h1 h2) (by unfold HLp;simp only[List.cons_append,List.append_assoc,List.nil_append];exact rt_) ⟨_,wf_⟩ rfl
end Go.Proofs.YtamklbgaipakfaaGreatDoor
namespace Go.Proofs.YtamklbgaipakfaaGreatDoor
open Go Go.Sx Go.Proofs
attribute [local irreducible] Code.wp wpList wpAnyH
open Go.Vs
theorem uX_:iv_ Tryz.prog 223 [(0,5),(5,1),(6,1)] [.int .i64 0,str [],.int .i64 0,.int .i64 0,.slice none 0 0,.int .i64 0,.slice none 0 0]:=⟨_,hH_,cN_,fun w=>by simp[ao_,A_,Tryz.sizeOf221]⟩
theorem vP_:Elt Tryz.prog 221 223 7 96:=hZ_ Tryz.underlying221 (z:=.agg #[.int .i64 0,str [],.int .i64 0,.int .i64 0,.slice none 0 0,.int .i64 0,.slice none 0 0]) (by kernel_rfl) rfl (by decide)
theorem Tre.cells_one (t:Tre):t.cells.all Value.oneCell'=true:=Go.Vs.Tre.cells_one t
theorem up_:∀ (m:Nat) (c:Con),c.sz≤m→c.sz≤1000000→Tri Tryz.prog 179 #[Con.val c] [] [Con.memF c] (fun y:{t:Tre // t.con=c∧t.wf}=>y.1.val) (fun _=>[]) (fun y=>[y.1.memF]):=by
 intro m
 induction m with
 | zero=>intro c h;have:=Con.sz_pos c;omega
 | succ m ih =>
   intro c h hz
   refine l_ Tryz.func179 rfl rfl Tryz.ntmps179 rfl fun v0=>?_
   refine Zz 2 ?_
   refine U_ rfl rfl fun b1=>K_ hH_ rfl fun b2=>Zz 5 ?_
   refine d_ (w_ uX_ rfl rfl) rfl (x_ 0 dq_ rfl rfl rfl rfl rfl rfl (Zz 12 ?_))
   have hG0:True:=trivial
   refine ai_ (ι:={y:Nat×List Tre×Int×Value×Hp // y.1≤List.length (Con.parts c)∧List.map Tre.con y.2.1=List.take y.1 (Con.parts c)∧y.2.2.1=((1+Con.sz.szs (List.take y.1 (Con.parts c)):Nat):Int)∧(∀ t∈y.2.1,t.wf)∧zR 223 7 Tre.cells y.2.2.2.1 y.2.1 y.2.2.2.2}) (fun y=>[(2,zp_ b2 0),(9,.slice (Con.ad c) (List.length (Con.parts c)) (Con.cap c)),(10,.int .i64 (List.length (Con.parts c):Int)),(11,.int .i64 (y.1.1:Int))]) (fun y=>((b2,.cells #[.int .i64 (Con.kind c),str (Con.name c),.int .i64 (Con.lo c),.int .i64 (Con.hi c),.slice (Con.ad c) (List.length (Con.parts c)) (Con.cap c),.int .i64 y.1.2.2.1,y.1.2.2.2.1] 223 (0,0))::y.1.2.2.2.2)) (fun y=>[kn_ y.1.2.1,Con.memF c]) (fun y=>List.length (Con.parts c) - y.1.1) ⟨((0:Nat),([]:List Tre),1,(.slice none 0 0),[]),by simp,by simp,(by simp[Con.sz.szs]),by simp,(aL_.nil _ _)⟩ zl e_ (fun v _ h=>by exact⟨(show (kn_ ([]:List Tre)).p v from fun t ht=>by simp at ht),h.1,trivial⟩) ?_
   rintro ⟨⟨i,ts,zz,sv_T,H_T⟩,hi_i,hts,hzz,hwf,hr_T⟩
   dsimp only at hi_i hts hzz hwf hr_T ⊢
   have hzb:=szs_take_le (l:=Con.parts c) i
   have hzc:=Con.sz_eq c
   have hpl:=Con.parts_lt c
   refine Zi 2 (fun hr1=>?_) fun hr1=>?_
   · skip
     refine Zz 9 ?_
     refine x_ 0 dq_ rfl rfl rfl rfl rfl (by have q:=(ep_ hr_T).2;simp only[Value.cells,List.all_cons,List.all_nil,q,Bool.and_true];rfl) ?_
     refine Zz 3 ?_
     refine cr_ hr_T M_ fun tad tcap htad hctad hmtad hztad=>?_
     subst htad
     have hti:List.take i (Con.parts c)=Con.parts c:=List.take_of_length_le (by omega)
     rw[hti]at hts hzz
     exact fE_ ⟨Tre.mk c zz tad tcap ts,rfl,(Tre.wf_iff _).2 ⟨by dsimp only[Tre.size,Tre.con];rw[hzz,Con.sz_eq],hts.symm,hwf⟩⟩ (fun aa v h1 h2=>dV_ (us:=Tre.cells (Tre.mk c zz tad tcap ts)) 0 Tryz.results179 Tryz.isAgg223 dq_ rfl rfl rfl aa v h1 h2) g_ (fun v _ h=>by exact⟨(Tre.mem_iff _ v).2 ⟨h.2.2.1,h.1,h.2.1⟩,trivial⟩)
   · skip
     obtain⟨hlx1,x1,hx1,hmx1⟩:=zge (show i<List.length (Con.parts c) by omega)
     refine Zz 10 ?_
     refine d_ (L_ ab_ A_ rfl rfl (fun v _ h=>y_ (n:=5) Con.cells_len (by decide) (by exact ((Con.mem_iff c v).1 h.2.1).1) hx1) (by omega) (by first|omega|(simp;done))) rfl ?_
     refine d_ (af_ (ad:=(Con.ad c)) (us:=Con.cells x1) aD_ A_ rfl (fun v _ h=>by exact ((Con.mem_iff c v).1 h.2.1).1) (Con.cells_len _) (u_ Con.cells_len hx1)) rfl (K_ bE_ rfl fun b3=>x_ 0 A_ rfl rfl rfl rfl rfl rfl (Zz 5 ?_))
     refine f_ (ih x1 (by have:=Con.sz_part hmx1;omega) (by have:=Con.sz_part hmx1;omega)) rfl g_ (fun v _ h=>by exact⟨(Con.mem_part (c:=c) h.2.1 hmx1),trivial⟩) rfl fun⟨q,hqc,hqw⟩=>?_
     dsimp only
     have hqs:Tre.size q=(Con.sz x1:Int):=by rw[((Tre.wf_iff q).1 hqw).1,hqc]
     have hxs:=Con.sz_part hmx1
     refine K_ hH_ rfl fun b4=>x_ 0 dq_ rfl rfl rfl rfl rfl rfl (Zz 10 ?_)
     refine x_ 2 ao_ rfl rfl rfl rfl rfl rfl (Zz 6 ?_)
     refine E_ bN_ dq_ hH_ rfl rfl rfl rfl rfl rfl fun b5=>?_
     refine aG_ (news:=List.flatMap Tre.cells [q]) vP_ hr_T rfl rfl (c_ (c_ (c_ M_))) rfl (bM_ 0 rfl) (fun u hu=>bd_ Tre.cells_one hu) (by simp only[maxLen];((try simp only[List.length_append,List.length_cons,List.length_nil]);have:=congrArg List.length hts;rw[List.length_map,List.length_take]at this;have:=Con.parts_lt c;omega)) (by ((try simp only[List.length_append,List.length_cons,List.length_nil]);have:=congrArg List.length hts;rw[List.length_map,List.length_take]at this;have:=Con.parts_lt c;omega)) rfl fun sv1 Hr1 hr1=>?_
     refine C_ List.perm_append_comm ?_
     have hq1:=zsa hr1
     refine Zz 1 ?_
     refine cI_ 3 hq1 Tryz.sizeOf221 rfl rfl rfl rfl (Zz 7 ?_)
     exact J_ ⟨(i+1,(ts++[q]),(zz+Tre.size q),sv1,Hr1),hlx1,(by rw[take_snoc hx1,List.map_append,hts];simp[hqc]),(by show zz+Tre.size q=_;rw[szs_step hx1,hzz,hqs];omega),(fun t ht=>by rcases List.mem_append.1 ht with ht|ht;exact hwf t ht;rw[List.mem_singleton]at ht;subst ht;exact hqw),hq1⟩ (by dsimp only;omega) zl (p_ (c_ (c_ (c_ e_))) (c_ (c_ M_))) (fun v _ h=>by exact⟨qf_ h.2.1 h.1,h.2.2.1,trivial⟩)
end Go.Proofs.YtamklbgaipakfaaGreatDoor
namespace Go.Proofs.YtamklbgaipakfaaGreatDoor
open Go Go.Sx Go.Proofs
attribute [local irreducible] Code.wp wpList wpAnyH
open Go.Vs
theorem sU_ (ts us:List Tre) (ad ae:Option Addr) (cap cpe:Nat) (hts:ts.length≤1000000) (hus:us.length≤1000000) (hC:(∀ t∈ts,∀ u∈us,Tri Tryz.prog 180 #[t.val,u.val] [] [t.memF,u.memF] (fun _:Unit=>.int .i64 (Con.cmp t.con u.con)) (fun _=>[]) (fun _=>[]))):Tri Tryz.prog 237 #[.slice ad (List.length ts) cap,.slice ae (List.length us) cpe,.func (.func 180) #[] #[]] [] [al_ ad (List.flatMap Tre.cells ts),al_ ae (List.flatMap Tre.cells us),kn_ ts,kn_ us] (fun _:Unit=>.int .i64 (Con.cmp.cmps (List.map Tre.con ts) (List.map Tre.con us))) (fun _=>[]) (fun _=>[]):=by
 refine l_ Tryz.func237 rfl rfl Tryz.ntmps237 rfl fun v0=>?_
 refine Zz 14 ?_
 refine ai_ (ι:={y:Nat // y≤List.length ts∧Con.cmp.cmps (List.map Tre.con ts) (List.map Tre.con us)=Con.cmp.cmps (List.drop y (List.map Tre.con ts)) (List.drop y (List.map Tre.con us))}) (fun y=>[(0,.slice ad (List.length ts) cap),(1,.slice ae (List.length us) cpe),(2,.func (.func 180) #[] #[]),(6,.int .i64 0),(11,.slice ad (List.length ts) cap),(12,.int .i64 (List.length ts:Int)),(13,.int .i64 (y.1:Int))]) (fun y=>([])) (fun y=>[al_ ad (List.flatMap Tre.cells ts),al_ ae (List.flatMap Tre.cells us),kn_ ts,kn_ us]) (fun y=>List.length ts - y.1) ⟨(0:Nat),by simp,rfl⟩ zl g_ zh ?_
 rintro ⟨i,hi_i,hcm⟩
 dsimp only at hi_i hcm ⊢
 refine Zi 2 (fun hr1=>?_) fun hr1=>?_
 ·refine Zi 13 (fun hr2=>?_) fun hr2=>?_
  ·refine Zz 11 ?_
   exact N_ Tryz.results237 () (V_ rfl (by rw[hcm];symm;exact pQ_ (by rw[List.length_map];omega) (by rw[List.length_map];omega))) g_ zt
  refine Zz 9 ?_
  exact N_ Tryz.results237 () (V_ rfl (by rw[hcm];symm;exact lU_ (by rw[List.length_map];omega) (by rw[List.length_map];omega))) g_ zt
 obtain⟨hlx1,x1,hx1,hmx1⟩:=zge (show i<List.length ts by omega)
 refine Zz 11 ?_
 refine d_ (L_ bN_ dq_ rfl rfl (fun v _ h=>y_ (n:=7) Tre.cells_len (by decide) (by exact h.1) hx1) (by omega) (by first|omega|(simp;done))) rfl ?_
 refine d_ (af_ (ad:=ad) (us:=Tre.cells x1) Tryz.isAgg223 dq_ rfl zf (Tre.cells_len _) (u_ Tre.cells_len hx1)) rfl (K_ hH_ rfl fun b1=>Zz 1 ?_)
 refine x_ 0 dq_ rfl rfl rfl rfl rfl rfl (Zi 8 (fun hr3=>?_) fun hr3=>?_)
 ·have hly1:i<List.length us:=by omega
  obtain⟨y1,hy1⟩:∃ e0,us[i]? = some e0:=⟨_,List.getElem?_eq_getElem hly1⟩
  have hmy1:y1∈us:=List.mem_of_getElem? hy1
  refine Zz 9 ?_
  refine d_ (L_ bN_ dq_ rfl rfl (fun v _ h=>y_ (n:=7) Tre.cells_len (by decide) (by exact h.2.1) hy1) (by omega) (by first|omega|(simp;done))) rfl ?_
  refine d_ (af_ (ad:=ae) (us:=Tre.cells y1) Tryz.isAgg223 dq_ rfl zf (Tre.cells_len _) (u_ Tre.cells_len hy1)) rfl (K_ hH_ rfl fun b2=>x_ 0 dq_ rfl rfl rfl rfl rfl rfl (Zz 7 ?_))
  refine Y_ (hC x1 hmx1 y1 hmy1) rfl rfl g_ (fun v _ h=>by exact⟨(h.2.2.1 x1 hmx1),(h.2.2.2.1 y1 hmy1),trivial⟩) rfl fun _=>Zi 6 (fun hr4=>?_) fun hr4=>?_
  ·refine Zz 10 ?_
   exact J_ ⟨i+1,hlx1,(by rw[hcm,og_ (by rw[List.getElem?_map,hx1];rfl) (by rw[List.getElem?_map,hy1];rfl),if_pos hr4])⟩ (by dsimp only;omega) zl g_ zh
  refine Zz 10 ?_
  exact N_ Tryz.results237 () (V_ rfl (by rw[hcm,og_ (by rw[List.getElem?_map,hx1];rfl) (by rw[List.getElem?_map,hy1];rfl),if_neg hr4])) g_ zt
 refine Zz 9 ?_
 exact N_ Tryz.results237 () (V_ rfl (by rw[hcm];symm;exact ne_ (by rw[List.length_map];omega) (by rw[List.length_map];omega))) g_ zt
theorem sR_:∀ (m:Nat) (t u:Tre),t.con.sz≤m→t.wf→u.wf→t.con.sz≤1000000→u.con.sz≤1000000→Tri Tryz.prog 180 #[Tre.val t,Tre.val u] [] [Tre.memF t,Tre.memF u] (fun _:Unit=>.int .i64 (Con.cmp t.con u.con)) (fun _=>[]) (fun _=>[]):=by
 intro m
 induction m with
 | zero=>intro t u h;have:=Con.sz_pos t.con;omega
 | succ m ih =>
   intro t u h hwt hwu hz1 hz2
   obtain⟨hs1,hp1,hw1⟩:=(Tre.wf_iff t).1 hwt
   obtain⟨hs2,hp2,hw2⟩:=(Tre.wf_iff u).1 hwu
   have hl1:(Tre.parts t).length≤1000000:=by have q:=congrArg List.length hp1;rw[List.length_map]at q;have:=Con.parts_lt t.con;omega
   have hl2:(Tre.parts u).length≤1000000:=by have q:=congrArg List.length hp2;rw[List.length_map]at q;have:=Con.parts_lt u.con;omega
   refine l_ Tryz.func180 rfl rfl Tryz.ntmps180 rfl fun v0=>?_
   refine Zz 2 ?_
   refine U_ rfl rfl fun b1=>U_ rfl rfl fun b2=>Zz 5 ?_
   refine z_ 8 [0,1,2,3,5,6,7,8,9,10,12,13,14,15,16,17,19,20,21,22,23,24,26,27,28,29,30,31] zk zs (Zz 29 ?_)
   refine j_ 4 rfl zk (f_ (fm_ (Tre.size t) (Tre.size u)) rfl g_ zt rfl fun _=>Zz 3 ?_)
   refine j_ 11 rfl zk (f_ (fm_ (Con.kind (Tre.con t)) (Con.kind (Tre.con u))) rfl g_ zt rfl fun _=>Zz 3 ?_)
   refine j_ 18 rfl zk (f_ (df_ (Con.name (Tre.con t)) (Con.name (Tre.con u))) rfl g_ zt rfl fun _=>Zz 3 ?_)
   refine j_ 25 rfl zk (f_ (fm_ (Con.lo (Tre.con t)) (Con.lo (Tre.con u))) rfl g_ zt rfl fun _=>Zz 3 ?_)
   refine j_ 32 rfl zk (f_ (fm_ (Con.hi (Tre.con t)) (Con.hi (Tre.con u))) rfl g_ zt rfl fun _=>Zz 3 ?_)
   refine j_ 33 rfl zk (E_ ac_ ao_ bq_ rfl rfl rfl rfl rfl rfl fun b3=>?_)
   refine ap_ (List.flatMap ew_ [(Lib.compareInt (Tre.size t) (Tre.size u)),(Lib.compareInt (Con.kind (Tre.con t)) (Con.kind (Tre.con u))),(Lib.compareBytes (Con.name (Tre.con t)) (Con.name (Tre.con u))),(Lib.compareInt (Con.lo (Tre.con t)) (Con.lo (Tre.con u))),(Lib.compareInt (Con.hi (Tre.con t)) (Con.hi (Tre.con u)))]) e_ rfl ?_
   refine Zz 3 ?_
   refine j_ 34 rfl zk (f_ (lx_ [(Lib.compareInt (Tre.size t) (Tre.size u)),(Lib.compareInt (Con.kind (Tre.con t)) (Con.kind (Tre.con u))),(Lib.compareBytes (Con.name (Tre.con t)) (Con.name (Tre.con u))),(Lib.compareInt (Con.lo (Tre.con t)) (Con.lo (Tre.con u))),(Lib.compareInt (Con.hi (Tre.con t)) (Con.hi (Tre.con u)))] (some ⟨b3,0,none⟩) 5 (by simp)) rfl g_ zf rfl fun _=>Zz 3 ?_)
   refine z_ 0 [35] zk zs (Zi 8 (fun hr1=>?_) fun hr1=>?_)
   · skip
     refine Zz 11 ?_
     refine f_ (sU_ (Tre.parts t) (Tre.parts u) (Tre.ad t) (Tre.ad u) (Tre.cap t) (Tre.cap u) hl1 hl2 (fun x hx y hy=>ih x y (by have:=(Tre.wf_part hwt hx).2;omega) (Tre.wf_part hwt hx).1 (Tre.wf_part hwu hy).1 (by have:=(Tre.wf_part hwt hx).2;omega) (by have:=(Tre.wf_part hwu hy).2;omega))) rfl g_ (fun v _ h=>by exact⟨((Tre.mem_iff t v).1 h.2.1).2.1,((Tre.mem_iff u v).1 h.2.2.1).2.1,((Tre.mem_iff t v).1 h.2.1).2.2,((Tre.mem_iff u v).1 h.2.2.1).2.2,trivial⟩) rfl fun _=>?_
     refine Zz 4 ?_
     exact N_ Tryz.results180 () (V_ rfl (by rw[nf_,← hs1,← hs2,if_pos hr1,hp1,hp2])) g_ zt
   · skip
     refine Zz 10 ?_
     exact N_ Tryz.results180 () (V_ rfl (by rw[nf_,← hs1,← hs2,if_neg hr1])) g_ zt
theorem lY_ (c d:Con) (hz1:c.sz≤1000000) (hz2:d.sz≤1000000):Tri Tryz.prog 95 #[Con.val c,Con.val d] [] [Con.memF c,Con.memF d] (fun _:Unit=>.int .i64 (Con.cmp c d)) (fun _=>[]) (fun _=>[]):=by
  refine l_ Tryz.func95 rfl rfl Tryz.ntmps95 rfl fun v0=>?_
  refine Zz 2 ?_
  refine U_ rfl rfl fun b1=>U_ rfl rfl fun b2=>Zz 5 ?_
  refine z_ 4 [0,2] zk zs (Zz 3 ?_)
  refine j_ 1 rfl zk (f_ (up_ _ c (Nat.le_refl _) hz1) rfl g_ zf rfl fun⟨q1,hq1c,hq1w⟩=>?_)
  dsimp only
  refine Zz 3 ?_
  refine j_ 3 rfl zk (f_ (up_ _ d (Nat.le_refl _) hz2) rfl g_ zf rfl fun⟨q2,hq2c,hq2w⟩=>?_)
  dsimp only
  refine Zz 3 ?_
  refine j_ 4 rfl zk (f_ (sR_ _ q1 q2 (Nat.le_refl _) hq1w hq2w (by rw[hq1c];exact hz1) (by rw[hq2c];exact hz2)) rfl g_ zf rfl fun _=>?_)
  refine Zz 3 ?_
  refine z_ 0 [5] zk zs (Zz 5 ?_)
  exact N_ Tryz.results95 () (V_ rfl (by rw[hq1c,hq2c])) g_ zt
end Go.Proofs.YtamklbgaipakfaaGreatDoor
namespace Go.Proofs.YtamklbgaipakfaaGreatDoor
open Go Go.Sx Go.Proofs
attribute [local irreducible] Code.wp wpList wpAnyH
open Go.Vs
theorem ot_ {P:Program} {N:Nf} {fr:Fr} {H:Hp} {Γ:List Fct} {t t' ty:TypeId} {x y:Operand} {m n:List UInt8} (hx:Fr.ev fr x=some (str m)) (hy:Fr.ev fr y=some (str n)):Yld P N fr H Γ (.binOp .gtr t x y t') ty (.bool (decide (n<m))) :=
  fun a v h1 _ _ _ _ _=>by
    have e:decide (n<m)=!decide (m≤n):=by rw[Bool.eq_iff_iff];simp[List.not_le]
    rw[e,← vW_];simp[execOp,h1.ev hx,h1.ev hy,str,eqGuard,binOp,Op.stringOp]
theorem rB_ (s:Str):Fn0 Tryz.prog 233 #[str s] (.bool false):=by
  refine l_ Tryz.func233 rfl rfl Tryz.ntmps233 rfl fun v0=>?_
  refine Zz 9 ?_
  refine d_ (aY_ (fz_ rfl rfl) (show _=Value.bool false from congrArg Value.bool (by simp))) rfl (Zz 4 ?_)
  exact N_ Tryz.results233 () rfl g_ zt
theorem sT_ (x y:Str):Fn0 Tryz.prog 183 #[str x,str y] (.int .i64 (Lib.compareBytes x y)):=by
 refine l_ Tryz.func183 rfl rfl Tryz.ntmps183 rfl fun v0=>?_
 refine Zz 8 ?_
 refine f_ (rB_ x) rfl g_ zt rfl fun _=>Zz 6 ?_
 refine f_ (rB_ y) rfl g_ zt rfl fun _=>Zi 26 (fun hr1=>?_) fun hr1=>?_
 ·refine Zz 10 ?_
  refine D_ (ot_ rfl rfl) rfl fun r2 hr2=>Zz 2 ?_
  cases r2
  ·replace hr2:=zdf hr2
   refine Zz 9 ?_
   exact N_ Tryz.results183 () (V_ rfl (by rw[iQ_,if_neg hr1,if_neg hr2])) g_ zt
  replace hr2:=zdt hr2
  refine Zz 7 ?_
  exact N_ Tryz.results183 () (V_ rfl (by rw[iQ_,if_neg hr1,if_pos hr2])) g_ zt
 refine Zz 9 ?_
 exact N_ Tryz.results183 () (V_ rfl (by rw[iQ_,if_pos hr1])) g_ zt
theorem kV_ (lA lB:List Str) (ad ae:Option Addr) (cap cpe:Nat) (hl:lA.length≤140737488351232) (hm:lB.length≤140737488351232):Tri Tryz.prog 99 #[.slice ad (List.length lA) cap,.slice ae (List.length lB) cpe] [] [al_ ad (List.flatMap aE_ lA),al_ ae (List.flatMap aE_ lB)] (fun _:Unit=>.int .i64 (ed_ lA lB)) (fun _=>[]) (fun _=>[]):=by
 refine l_ Tryz.func99 rfl rfl Tryz.ntmps99 rfl fun v0=>?_
 refine Zz 14 ?_
 refine ai_ (ι:={y:Nat // y≤List.length lA∧ed_ lA lB=ed_ (List.drop y lA) (List.drop y lB)}) (fun y=>[(0,.slice ad (List.length lA) cap),(1,.slice ae (List.length lB) cpe),(4,.int .i64 0),(9,.slice ad (List.length lA) cap),(10,.int .i64 (List.length lA:Int)),(11,.int .i64 (y.1:Int))]) (fun y=>([])) (fun y=>[al_ ad (List.flatMap aE_ lA),al_ ae (List.flatMap aE_ lB)]) (fun y=>List.length lA - y.1) ⟨(0:Nat),by simp,rfl⟩ zl g_ zh ?_
 rintro ⟨i,hi_i,hcm⟩
 dsimp only at hi_i hcm ⊢
 refine Zi 2 (fun hr1=>?_) fun hr1=>?_
 ·refine Zi 13 (fun hr2=>?_) fun hr2=>?_
  ·refine Zz 11 ?_
   exact N_ Tryz.results99 () (V_ rfl (by rw[hcm];symm;exact pR_ (by omega) (by omega))) g_ zt
  refine Zz 9 ?_
  exact N_ Tryz.results99 () (V_ rfl (by rw[hcm];symm;exact lW_ (by omega) (by omega))) g_ zt
 obtain⟨hlx1,x1,hx1,hmx1⟩:=zge (show i<List.length lA by omega)
 refine Zi 23 (fun hr3=>?_) fun hr3=>?_
 ·have hly1:i<List.length lB:=by omega
  obtain⟨y1,hy1⟩:∃ e0,lB[i]? = some e0:=⟨_,List.getElem?_eq_getElem hly1⟩
  have hmy1:y1∈lB:=List.mem_of_getElem? hy1
  refine Zz 18 ?_
  refine f_ (sT_ x1 y1) rfl g_ zt rfl fun _=>Zi 6 (fun hr4=>?_) fun hr4=>?_
  ·refine Zz 10 ?_
   exact J_ ⟨i+1,hlx1,(by rw[hcm,oh_ hx1 hy1,if_pos hr4])⟩ (by dsimp only;omega) zl g_ zh
  refine Zz 10 ?_
  exact N_ Tryz.results99 () (V_ rfl (by rw[hcm,oh_ hx1 hy1,if_neg hr4])) g_ zt
 refine Zz 9 ?_
 exact N_ Tryz.results99 () (V_ rfl (by rw[hcm];symm;exact nh_ (by omega) (by omega))) g_ zt
theorem oA_ (x:Ax) (hok:x.ok) (hz1:x.left.sz≤1000000) (hz2:x.right.sz≤1000000):Tri Tryz.prog 98 #[Ax.val x] [] [Ax.memF x] (fun _:Unit=>.int .i64 x.wgt) (fun _=>[]) (fun _=>[]):=by
 refine l_ Tryz.func98 rfl rfl Tryz.ntmps98 rfl fun v0=>?_
 have hrl:=hok.len
 have hrc:=hok.cap
 refine Zz 2 ?_
 refine U_ rfl rfl fun b1=>Zz 10 ?_
 refine E_ ab_ A_ bE_ rfl rfl rfl rfl rfl rfl fun b2=>?_
 refine ap_ (List.flatMap Con.cells [(Ax.left x),(Ax.right x)]) e_ rfl ?_
 refine Zz 5 ?_
 refine ai_ (ι:={y:Nat×Int // y.1≤List.length [(Ax.left x),(Ax.right x)]∧y.2=wgL (List.take y.1 [(Ax.left x),(Ax.right x)])}) (fun y=>[(1,zp_ b1 0),(2,.int .i64 y.1.2),(11,.slice (some ⟨b2,0,none⟩) (List.length [(Ax.left x),(Ax.right x)]) 2),(12,.int .i64 2),(13,.int .i64 (y.1.1:Int))]) (fun y=>((b1,.cells #[.int .i64 (Ax.kind x),.bool (Ax.opn x),.int .i64 (Con.kind (Ax.left x)),str (Con.name (Ax.left x)),.int .i64 (Con.lo (Ax.left x)),.int .i64 (Con.hi (Ax.left x)),.slice (Con.ad (Ax.left x)) (List.length (Con.parts (Ax.left x))) (Con.cap (Ax.left x)),.int .i64 (Con.kind (Ax.right x)),str (Con.name (Ax.right x)),.int .i64 (Con.lo (Ax.right x)),.int .i64 (Con.hi (Ax.right x)),.slice (Con.ad (Ax.right x)) (List.length (Con.parts (Ax.right x))) (Con.cap (Ax.right x)),.slice (Ax.ad x) (List.length (Ax.roles x)) (Ax.cap x),str (Ax.role x),str (Ax.a x),str (Ax.b x)] 48 (0,0))::[])) (fun y=>[al_ (some ⟨b2,0,none⟩) (List.flatMap Con.cells [(Ax.left x),(Ax.right x)]),Ax.memF x]) (fun y=>List.length [(Ax.left x),(Ax.right x)] - y.1.1) ⟨((0:Nat),0),by simp,(by simp[wgL])⟩ zl e_ zh ?_
 rintro ⟨⟨i,zz⟩,hi_i,hzz⟩
 dsimp only at hi_i hzz ⊢
 have hbd:=tl_ (l:=List.take i [(Ax.left x),(Ax.right x)]) (fun c hc=>(id_ hok hz1 hz2 (List.mem_of_mem_take hc)).2)
 have htl:(List.take i [(Ax.left x),(Ax.right x)]).length≤2:=by rw[List.length_take];exact Nat.min_le_right _ _
 refine Zi 2 (fun hr1=>?_) fun hr1=>?_
 ·refine Zz 12 ?_
  refine d_ (aT_ rfl rfl rfl (bK_ (by first|omega|(simp only[List.length_cons,List.length_nil]at *;omega)) (by first|omega|(simp only[List.length_cons,List.length_nil]at *;omega)))) rfl ?_
  refine Zz 12 ?_
  refine E_ n_ O_ an_ rfl rfl rfl rfl rfl rfl fun b3=>?_
  refine ap_ (List.flatMap aE_ [(Ax.role x),(Ax.a x),(Ax.b x)]) e_ rfl ?_
  refine Zz 5 ?_
  have hB:zz=wgL [(Ax.left x),(Ax.right x)]:=by rw[hzz,List.take_of_length_le (by simp only[List.length_cons,List.length_nil]at *;omega)]
  refine ai_ (ι:={y:Nat×Int // y.1≤List.length [(Ax.role x),(Ax.a x),(Ax.b x)]∧y.2=wgL [(Ax.left x),(Ax.right x)]+(List.length (Ax.roles x):Int)+wgS (List.take y.1 [(Ax.role x),(Ax.a x),(Ax.b x)])}) (fun y=>[(1,zp_ b1 0),(2,.int .i64 y.1.2),(11,.slice (some ⟨b2,0,none⟩) (List.length [(Ax.left x),(Ax.right x)]) 2),(12,.int .i64 2),(13,.int .i64 (i:Int)),(36,.slice (some ⟨b3,0,none⟩) (List.length [(Ax.role x),(Ax.a x),(Ax.b x)]) 3),(37,.int .i64 3),(38,.int .i64 (y.1.1:Int))]) (fun y=>((b1,.cells #[.int .i64 (Ax.kind x),.bool (Ax.opn x),.int .i64 (Con.kind (Ax.left x)),str (Con.name (Ax.left x)),.int .i64 (Con.lo (Ax.left x)),.int .i64 (Con.hi (Ax.left x)),.slice (Con.ad (Ax.left x)) (List.length (Con.parts (Ax.left x))) (Con.cap (Ax.left x)),.int .i64 (Con.kind (Ax.right x)),str (Con.name (Ax.right x)),.int .i64 (Con.lo (Ax.right x)),.int .i64 (Con.hi (Ax.right x)),.slice (Con.ad (Ax.right x)) (List.length (Con.parts (Ax.right x))) (Con.cap (Ax.right x)),.slice (Ax.ad x) (List.length (Ax.roles x)) (Ax.cap x),str (Ax.role x),str (Ax.a x),str (Ax.b x)] 48 (0,0))::[])) (fun y=>[al_ (some ⟨b3,0,none⟩) (List.flatMap aE_ [(Ax.role x),(Ax.a x),(Ax.b x)]),al_ (some ⟨b2,0,none⟩) (List.flatMap Con.cells [(Ax.left x),(Ax.right x)]),Ax.memF x]) (fun y=>List.length [(Ax.role x),(Ax.a x),(Ax.b x)] - y.1.1) ⟨((0:Nat),(zz+(List.length (Ax.roles x):Int))),by simp,(by show (zz+(List.length (Ax.roles x):Int))=_;rw[hB];simp[wgS])⟩ zl e_ zh ?_
  rintro ⟨⟨j,yy⟩,hi_j,hyy⟩
  dsimp only at hi_j hyy ⊢
  have hbs:=wgS_bd (List.take j [(Ax.role x),(Ax.a x),(Ax.b x)])
  have htj:(List.take j [(Ax.role x),(Ax.a x),(Ax.b x)]).length≤3:=by rw[List.length_take];exact Nat.min_le_right _ _
  have hbl:=tl_ (l:=[(Ax.left x),(Ax.right x)]) (fun c hc=>(id_ hok hz1 hz2 hc).2)
  refine Zi 2 (fun hr2=>?_) fun hr2=>?_
  ·refine Zz 13 ?_
   exact N_ Tryz.results98 () (V_ rfl (by rw[hyy,Ax.wgt_eq,List.take_of_length_le (by simp only[List.length_cons,List.length_nil]at *;omega)])) g_ zt
  have hls1:j<List.length [(Ax.role x),(Ax.a x),(Ax.b x)]:=by simp only[List.length_cons,List.length_nil]at *;omega
  obtain⟨s1,hs1⟩:∃ e0,[(Ax.role x),(Ax.a x),(Ax.b x)][j]? = some e0:=⟨_,List.getElem?_eq_getElem hls1⟩
  have hms1:s1∈[(Ax.role x),(Ax.a x),(Ax.b x)]:=List.mem_of_getElem? hs1
  refine Zz 11 ?_
  refine d_ (ba_ (ad:=(some ⟨b3,0,none⟩)) av_ rfl zf (u_ at_ hs1 0 _ rfl)) rfl (Zi 6 (fun hr3=>?_) fun hr3=>?_)
  ·refine Zz 6 ?_
   refine d_ (aT_ rfl rfl rfl (bK_ (by first|omega|(simp only[List.length_cons,List.length_nil]at *;omega)) (by first|omega|(simp only[List.length_cons,List.length_nil]at *;omega)))) rfl ?_
   refine Zz 3 ?_
   exact J_ ⟨(j+1,yy),hls1,(by show yy=_;rw[oy_ hs1,if_pos hr3];omega)⟩ (by dsimp only;omega) zl e_ zh
  refine Zz 5 ?_
  refine d_ (aT_ rfl rfl rfl (bK_ (by first|omega|(simp only[List.length_cons,List.length_nil]at *;omega)) (by first|omega|(simp only[List.length_cons,List.length_nil]at *;omega)))) rfl ?_
  refine Zz 4 ?_
  refine d_ (aT_ rfl rfl rfl (bK_ (by first|omega|(simp only[List.length_cons,List.length_nil]at *;omega)) (by first|omega|(simp only[List.length_cons,List.length_nil]at *;omega)))) rfl ?_
  refine Zz 3 ?_
  exact J_ ⟨(j+1,(yy+1)),hls1,(by show (yy+1)=_;rw[oy_ hs1,if_neg hr3];omega)⟩ (by dsimp only;omega) zl e_ zh
 have hlc1:i<List.length [(Ax.left x),(Ax.right x)]:=by simp only[List.length_cons,List.length_nil]at *;omega
 obtain⟨c1,hc1⟩:∃ e0,[(Ax.left x),(Ax.right x)][i]? = some e0:=⟨_,List.getElem?_eq_getElem hlc1⟩
 have hmc1:c1∈[(Ax.left x),(Ax.right x)]:=List.mem_of_getElem? hc1
 have hcz:=(id_ hok hz1 hz2 hmc1).2
 refine Zz 10 ?_
 refine d_ (L_ ab_ A_ rfl rfl (fun v _ h=>y_ (n:=5) Con.cells_len (by decide) (by exact h.1) hc1) (by omega) (by first|omega|(simp;done))) rfl ?_
 refine d_ (af_ (ad:=(some ⟨b2,0,none⟩)) (us:=Con.cells c1) aD_ A_ rfl zf (Con.cells_len _) (u_ Con.cells_len hc1)) rfl (K_ bE_ rfl fun b4=>x_ 0 A_ rfl rfl rfl rfl rfl rfl (Zi 6 (fun hr4=>?_) fun hr4=>?_))
 ·refine Zz 6 ?_
  refine d_ (aT_ rfl rfl rfl (bK_ (by first|omega|(simp only[List.length_cons,List.length_nil]at *;omega)) (by first|omega|(simp only[List.length_cons,List.length_nil]at *;omega)))) rfl ?_
  refine Zz 3 ?_
  exact J_ ⟨(i+1,zz),hlc1,(by show zz=_;rw[oz_ hc1,if_pos hr4];omega)⟩ (by dsimp only;omega) zl (c_ e_) zh
 refine Zz 6 ?_
 refine f_ (size_c c1 (id_ hok hz1 hz2 hmc1).1 (id_ hok hz1 hz2 hmc1).2) rfl g_ (fun v _ h=>by exact⟨(uB_ h.2.1 hmc1),trivial⟩) rfl fun _=>?_
 refine d_ (aT_ rfl rfl rfl (bK_ (by first|omega|(simp only[List.length_cons,List.length_nil]at *;omega)) (by first|omega|(simp only[List.length_cons,List.length_nil]at *;omega)))) rfl ?_
 refine Zz 4 ?_
 refine d_ (aT_ rfl rfl rfl (bK_ (by first|omega|(simp only[List.length_cons,List.length_nil]at *;omega)) (by first|omega|(simp only[List.length_cons,List.length_nil]at *;omega)))) rfl ?_
 refine Zz 3 ?_
 exact J_ ⟨(i+1,(zz+(Con.sz c1:Int))),hlc1,(by show (zz+(Con.sz c1:Int))=_;rw[oz_ hc1,if_neg hr4];omega)⟩ (by dsimp only;omega) zl (c_ e_) zh
theorem rG_ (x y:Ax) (hok1:x.ok) (hok2:y.ok) (hz1l:x.left.sz≤1000000) (hz1r:x.right.sz≤1000000) (hz2l:y.left.sz≤1000000) (hz2r:y.right.sz≤1000000):Tri Tryz.prog 50 #[Ax.val x,Ax.val y] [] [Ax.memF x,Ax.memF y] (fun _:Unit=>.int .i64 (Ax.cmp x y)) (fun _=>[]) (fun _=>[]):=by
 refine l_ Tryz.func50 rfl rfl Tryz.ntmps50 rfl fun v0=>?_
 refine Zz 2 ?_
 refine U_ rfl rfl fun b1=>U_ rfl rfl fun b2=>Zz 5 ?_
 refine z_ 7 [0,2,5,6,7,8] zk zs (Zz 7 ?_)
 refine j_ 1 rfl zk (f_ (oA_ x hok1 hz1l hz1r) rfl g_ zf rfl fun _=>Zz 3 ?_)
 refine j_ 3 rfl zk (f_ (oA_ y hok2 hz2l hz2r) rfl g_ zf rfl fun _=>Zz 3 ?_)
 refine j_ 4 rfl zk (f_ (fm_ (Ax.wgt x) (Ax.wgt y)) rfl g_ zt rfl fun _=>Zz 3 ?_)
 refine j_ 9 rfl zk (f_ (fm_ (Ax.kind x) (Ax.kind y)) rfl g_ zt rfl fun _=>Zz 3 ?_)
 refine j_ 10 rfl zk (E_ ac_ ao_ bq_ rfl rfl rfl rfl rfl rfl fun b3=>?_)
 refine ap_ (List.flatMap ew_ [(Lib.compareInt (Ax.wgt x) (Ax.wgt y)),(Lib.compareInt (Ax.kind x) (Ax.kind y))]) e_ rfl ?_
 refine Zz 3 ?_
 refine j_ 11 rfl zk (f_ (lx_ [(Lib.compareInt (Ax.wgt x) (Ax.wgt y)),(Lib.compareInt (Ax.kind x) (Ax.kind y))] (some ⟨b3,0,none⟩) 2 (by simp)) rfl g_ zf rfl fun _=>Zz 3 ?_)
 refine z_ 0 [12] zk zs (Zi 8 (fun hr1=>?_) fun hr1=>?_)
 ·refine Zi 9 (fun hr2=>?_) fun hr2=>?_
  ·refine Zi 9 (fun hr3=>?_) fun hr3=>?_
   ·refine Zz 7 ?_
    refine z_ 7 [0,1,2,3,5,6,7,8,10,11,12,13,15,16,17,18] zk zs (Zz 17 ?_)
    refine j_ 4 rfl zk (f_ (kV_ (Ax.roles x) (Ax.roles y) (Ax.ad x) (Ax.ad y) (Ax.cap x) (Ax.cap y) (by have:=hok1.len;have:=hok1.cap;omega) (by have:=hok2.len;have:=hok2.cap;omega)) rfl g_ (fun v _ h=>by exact⟨h.2.1.2.2,h.2.2.1.2.2,trivial⟩) rfl fun _=>?_)
    refine Zz 3 ?_
    refine j_ 9 rfl zk (f_ (df_ (Ax.role x) (Ax.role y)) rfl g_ zt rfl fun _=>Zz 3 ?_)
    refine j_ 14 rfl zk (f_ (df_ (Ax.a x) (Ax.a y)) rfl g_ zt rfl fun _=>Zz 3 ?_)
    refine j_ 19 rfl zk (f_ (df_ (Ax.b x) (Ax.b y)) rfl g_ zt rfl fun _=>Zz 3 ?_)
    refine j_ 20 rfl zk (E_ ac_ ao_ bq_ rfl rfl rfl rfl rfl rfl fun b4=>?_)
    refine ap_ (List.flatMap ew_ [(ed_ (Ax.roles x) (Ax.roles y)),(Lib.compareBytes (Ax.role x) (Ax.role y)),(Lib.compareBytes (Ax.a x) (Ax.a y)),(Lib.compareBytes (Ax.b x) (Ax.b y))]) e_ rfl ?_
    refine Zz 3 ?_
    refine j_ 21 rfl zk (f_ (lx_ [(ed_ (Ax.roles x) (Ax.roles y)),(Lib.compareBytes (Ax.role x) (Ax.role y)),(Lib.compareBytes (Ax.a x) (Ax.a y)),(Lib.compareBytes (Ax.b x) (Ax.b y))] (some ⟨b4,0,none⟩) 4 (by simp)) rfl g_ zf rfl fun _=>Zz 3 ?_)
    refine z_ 0 [22] zk zs (Zz 5 ?_)
    exact N_ gh_ () (V_ rfl (by unfold Ax.cmp;simp only[orF]at *;(repeat' split)<;>simp_all)) g_ zt
   refine Zz 10 ?_
   exact N_ gh_ () (V_ rfl (by unfold Ax.cmp;simp only[orF]at *;(repeat' split)<;>simp_all)) g_ zt
  refine Zz 8 ?_
  refine f_ (lY_ (Ax.right x) (Ax.right y) hz1r hz2r) rfl g_ (fun v _ h=>by exact⟨h.2.1.2.1,h.2.2.1.2.1,trivial⟩) rfl fun _=>Zi 7 (fun hr4=>?_) fun hr4=>?_
  ·refine Zz 7 ?_
   refine z_ 7 [0,1,2,3,5,6,7,8,10,11,12,13,15,16,17,18] zk zs (Zz 17 ?_)
   refine j_ 4 rfl zk (f_ (kV_ (Ax.roles x) (Ax.roles y) (Ax.ad x) (Ax.ad y) (Ax.cap x) (Ax.cap y) (by have:=hok1.len;have:=hok1.cap;omega) (by have:=hok2.len;have:=hok2.cap;omega)) rfl g_ (fun v _ h=>by exact⟨h.2.1.2.2,h.2.2.1.2.2,trivial⟩) rfl fun _=>?_)
   refine Zz 3 ?_
   refine j_ 9 rfl zk (f_ (df_ (Ax.role x) (Ax.role y)) rfl g_ zt rfl fun _=>Zz 3 ?_)
   refine j_ 14 rfl zk (f_ (df_ (Ax.a x) (Ax.a y)) rfl g_ zt rfl fun _=>Zz 3 ?_)
   refine j_ 19 rfl zk (f_ (df_ (Ax.b x) (Ax.b y)) rfl g_ zt rfl fun _=>Zz 3 ?_)
   refine j_ 20 rfl zk (E_ ac_ ao_ bq_ rfl rfl rfl rfl rfl rfl fun b5=>?_)
   refine ap_ (List.flatMap ew_ [(ed_ (Ax.roles x) (Ax.roles y)),(Lib.compareBytes (Ax.role x) (Ax.role y)),(Lib.compareBytes (Ax.a x) (Ax.a y)),(Lib.compareBytes (Ax.b x) (Ax.b y))]) e_ rfl ?_
   refine Zz 3 ?_
   refine j_ 21 rfl zk (f_ (lx_ [(ed_ (Ax.roles x) (Ax.roles y)),(Lib.compareBytes (Ax.role x) (Ax.role y)),(Lib.compareBytes (Ax.a x) (Ax.a y)),(Lib.compareBytes (Ax.b x) (Ax.b y))] (some ⟨b5,0,none⟩) 4 (by simp)) rfl g_ zf rfl fun _=>Zz 3 ?_)
   refine z_ 0 [22] zk zs (Zz 5 ?_)
   exact N_ gh_ () (V_ rfl (by unfold Ax.cmp;simp only[orF]at *;(repeat' split)<;>simp_all)) g_ zt
  refine Zz 10 ?_
  exact N_ gh_ () (V_ rfl (by unfold Ax.cmp;simp only[orF]at *;(repeat' split)<;>simp_all)) g_ zt
 refine Zz 8 ?_
 refine f_ (lY_ (Ax.left x) (Ax.left y) hz1l hz2l) rfl g_ (fun v _ h=>by exact⟨h.2.1.1,h.2.2.1.1,trivial⟩) rfl fun _=>Zi 7 (fun hr5=>?_) fun hr5=>?_
 ·refine Zi 9 (fun hr6=>?_) fun hr6=>?_
  ·refine Zz 7 ?_
   refine z_ 7 [0,1,2,3,5,6,7,8,10,11,12,13,15,16,17,18] zk zs (Zz 17 ?_)
   refine j_ 4 rfl zk (f_ (kV_ (Ax.roles x) (Ax.roles y) (Ax.ad x) (Ax.ad y) (Ax.cap x) (Ax.cap y) (by have:=hok1.len;have:=hok1.cap;omega) (by have:=hok2.len;have:=hok2.cap;omega)) rfl g_ (fun v _ h=>by exact⟨h.2.1.2.2,h.2.2.1.2.2,trivial⟩) rfl fun _=>?_)
   refine Zz 3 ?_
   refine j_ 9 rfl zk (f_ (df_ (Ax.role x) (Ax.role y)) rfl g_ zt rfl fun _=>Zz 3 ?_)
   refine j_ 14 rfl zk (f_ (df_ (Ax.a x) (Ax.a y)) rfl g_ zt rfl fun _=>Zz 3 ?_)
   refine j_ 19 rfl zk (f_ (df_ (Ax.b x) (Ax.b y)) rfl g_ zt rfl fun _=>Zz 3 ?_)
   refine j_ 20 rfl zk (E_ ac_ ao_ bq_ rfl rfl rfl rfl rfl rfl fun b6=>?_)
   refine ap_ (List.flatMap ew_ [(ed_ (Ax.roles x) (Ax.roles y)),(Lib.compareBytes (Ax.role x) (Ax.role y)),(Lib.compareBytes (Ax.a x) (Ax.a y)),(Lib.compareBytes (Ax.b x) (Ax.b y))]) e_ rfl ?_
   refine Zz 3 ?_
   refine j_ 21 rfl zk (f_ (lx_ [(ed_ (Ax.roles x) (Ax.roles y)),(Lib.compareBytes (Ax.role x) (Ax.role y)),(Lib.compareBytes (Ax.a x) (Ax.a y)),(Lib.compareBytes (Ax.b x) (Ax.b y))] (some ⟨b6,0,none⟩) 4 (by simp)) rfl g_ zf rfl fun _=>Zz 3 ?_)
   refine z_ 0 [22] zk zs (Zz 5 ?_)
   exact N_ gh_ () (V_ rfl (by unfold Ax.cmp;simp only[orF]at *;(repeat' split)<;>simp_all)) g_ zt
  refine Zz 10 ?_
  exact N_ gh_ () (V_ rfl (by unfold Ax.cmp;simp only[orF]at *;(repeat' split)<;>simp_all)) g_ zt
 refine Zz 8 ?_
 refine f_ (lY_ (Ax.right x) (Ax.right y) hz1r hz2r) rfl g_ (fun v _ h=>by exact⟨h.2.1.2.1,h.2.2.1.2.1,trivial⟩) rfl fun _=>Zi 7 (fun hr7=>?_) fun hr7=>?_
 ·refine Zz 7 ?_
  refine z_ 7 [0,1,2,3,5,6,7,8,10,11,12,13,15,16,17,18] zk zs (Zz 17 ?_)
  refine j_ 4 rfl zk (f_ (kV_ (Ax.roles x) (Ax.roles y) (Ax.ad x) (Ax.ad y) (Ax.cap x) (Ax.cap y) (by have:=hok1.len;have:=hok1.cap;omega) (by have:=hok2.len;have:=hok2.cap;omega)) rfl g_ (fun v _ h=>by exact⟨h.2.1.2.2,h.2.2.1.2.2,trivial⟩) rfl fun _=>?_)
  refine Zz 3 ?_
  refine j_ 9 rfl zk (f_ (df_ (Ax.role x) (Ax.role y)) rfl g_ zt rfl fun _=>Zz 3 ?_)
  refine j_ 14 rfl zk (f_ (df_ (Ax.a x) (Ax.a y)) rfl g_ zt rfl fun _=>Zz 3 ?_)
  refine j_ 19 rfl zk (f_ (df_ (Ax.b x) (Ax.b y)) rfl g_ zt rfl fun _=>Zz 3 ?_)
  refine j_ 20 rfl zk (E_ ac_ ao_ bq_ rfl rfl rfl rfl rfl rfl fun b7=>?_)
  refine ap_ (List.flatMap ew_ [(ed_ (Ax.roles x) (Ax.roles y)),(Lib.compareBytes (Ax.role x) (Ax.role y)),(Lib.compareBytes (Ax.a x) (Ax.a y)),(Lib.compareBytes (Ax.b x) (Ax.b y))]) e_ rfl ?_
  refine Zz 3 ?_
  refine j_ 21 rfl zk (f_ (lx_ [(ed_ (Ax.roles x) (Ax.roles y)),(Lib.compareBytes (Ax.role x) (Ax.role y)),(Lib.compareBytes (Ax.a x) (Ax.a y)),(Lib.compareBytes (Ax.b x) (Ax.b y))] (some ⟨b7,0,none⟩) 4 (by simp)) rfl g_ zf rfl fun _=>Zz 3 ?_)
  refine z_ 0 [22] zk zs (Zz 5 ?_)
  exact N_ gh_ () (V_ rfl (by unfold Ax.cmp;simp only[orF]at *;(repeat' split)<;>simp_all)) g_ zt
 refine Zz 10 ?_
 exact N_ gh_ () (V_ rfl (by unfold Ax.cmp;simp only[orF]at *;(repeat' split)<;>simp_all)) g_ zt
end Go.Proofs.YtamklbgaipakfaaGreatDoor
namespace Go.Proofs.YtamklbgaipakfaaGreatDoor
open Go Go.Sx Go.Proofs
attribute [local irreducible] Code.wp wpList wpAnyH
open Go.Vs
theorem oI_ {a b:Str} (h:str a=str b):a=b:=by
  have h2:=congrArg (fun z:ByteArray=>z.data.toList) (Value.string.inj h)
  simpa using h2
def rI_ (P:Program) (gf:FuncId) (caps:List Value) (Hc:Hp) (Rc:List Str→Prop):Prop:=∀ {σ:Type} (l:Nat) (Gj:σ→Hp) (lst:σ→List Str),(∀ s x,(lst s).length<100000000→jH_ P l (str x) (Gj s) [] (fun _:{s':σ // lst s'=lst s++[x]}=>.bool true) (fun s'=>Gj s'.1) (fun _=>[]))→∀ s0,lst s0=[] →
  Tri P gf (.func (.yield l) #[] #[]::caps).toArray (Hc++Gj s0) [] (fun _:{s':σ // Rc (lst s')}=>.tuple #[]) (fun s'=>Hc++Gj s'.1) (fun _=>[])
theorem vr_ {C Q:Hp} {c d e:Nat×Obj}:(C++(c::Q)++[d,e]).Perm (e::(C++(c::(Q++[d])))):=by
  have h1:C++(c::Q)++[d,e]=(C++(c::(Q++[d])))++[e]:=by simp
  rw[h1];exact List.perm_append_comm
theorem pf_D10 {C Q:Hp} {c d:Nat×Obj}:(C++(c::(Q++[d]))).Perm ((C++Q)++[c,d]):=by
  have h1:(C++Q)++[c,d]=C++((Q++[c])++[d]):=by simp
  rw[h1]
  exact List.Perm.append_left C (List.Perm.append_right [d] (show ([c]++Q).Perm _ from List.perm_append_comm))
theorem rR_ {L q:List Str} (h:L.Perm q) (hn:q.Nodup):fb_ L=fb_ q:=by
 have strict:∀ l:List Str,l.Nodup→SrS (fb_ l):=fun l hl=>by
   have h1:=oL_ l
   have h2:(fb_ l).Nodup:=(List.mergeSort_perm _ _).nodup_iff.2 hl
   unfold List.Nodup at h2
   refine List.Pairwise.imp (fun {a b} hab=>?_) (h1.and h2)
   by_cases g:a<b
   · exact g
   · exact absurd (List.le_antisymm hab.1 (List.not_lt.1 g)) hab.2
 exact nv_ (strict L (h.nodup_iff.2 hn)) (strict q hn) fun x=>by rw[List.mem_mergeSort,List.mem_mergeSort,h.mem_iff]
theorem uc_ {σ:Type} {l:Nat} {Gj:σ→Hp} {lst:σ→List Str} (hY:∀ s x,(lst s).length<100000000→jH_ Tryz.prog l (str x) (Gj s) [] (fun _:{s':σ // lst s'=lst s++[x]}=>.bool true) (fun s'=>Gj s'.1) (fun _=>[])) (s0:σ) (hs0:lst s0=[]) (mb bx c:Nat) (es:Array MapEntry) (q:List Str) (hE:KeyE str es q) (hB:Born es c) (hql:q.length≤100000000):Tri Tryz.prog 239 #[.func (.yield l) #[] #[],zp_ bx 0] ((bx,.cells #[.map (some mb)] 165 (0,0))::(mb,.map es c)::Gj s0) [] (fun _:{s':σ // (lst s').Perm q}=>.tuple #[]) (fun s'=>(bx,.cells #[.map (some mb)] 165 (0,0))::(mb,.map es c)::Gj s'.1) (fun _=>[]):=by
 refine l_ Tryz.func239 rfl rfl Tryz.ntmps239 rfl fun v0=>?_
 refine Zz 3 ?_
 refine su_ 1 Tryz.underlying165 rfl rfl rfl fun rr=>Zz 3 ?_
 refine ai_ (ι:={y:List Str×Array Nat×Nat×σ // ItS str es y.2.1 y.1∧c≤y.2.2.1∧lst y.2.2.2=y.1∧(∀ z∈y.1,z∈q)}) (fun y=>[(0,.func (.yield l) #[] #[]),(1,zp_ bx 0),(5,zp_ rr 0)]) (fun y=>((rr,.mapIter (some mb) c y.1.2.1 y.1.2.2.1)::((bx,.cells #[.map (some mb)] 165 (0,0))::((mb,.map es c)::(Gj y.1.2.2.2))))) (fun y=>[]) (fun y=>List.length q - List.length y.1.1) ⟨([],#[],c,s0),ItS.nil,Nat.le_refl _,hs0,by simp⟩ zl zp zt ?_
 rintro ⟨⟨done,seen,c0,s⟩,hI,hsc,hls,hsub⟩
 dsimp only at hI hsc hls hsub ⊢
 refine Zz 2 ?_
 refine tS_ 0 2 rfl rfl rfl hB.lt hsc rfl (fun h0=>?_) (fun e he=>?_)
 ·refine Zz 7 ?_
  exact bX_ Tryz.results239 ⟨s,by rw[hls];exact hI.endK (fun _ _=>oI_) hE h0⟩ rfl zp zt
 obtain⟨k,hkq,hkd,hkv,hem,hI2⟩:=hI.stepK (fun _ _=>oI_) hE hB he
 refine Zz 10 ?_
 refine d_ (aY_ (rJ_ 0 2 rfl rfl rfl hem hB) (show _=Value.tuple #[str k,e.val] by rw[hkv])) rfl (Zz 5 ?_)
 refine gf_ (ι:={s':σ // lst s'=lst s++[k]}) (fun _=>[(0,.func (.yield l) #[] #[]),(1,zp_ bx 0),(5,zp_ rr 0),(13,.bool false)]) (fun z=>((rr,.mapIter (some mb) c (seen.push e.born) c)::((bx,.cells #[.map (some mb)] 165 (0,0))::((mb,.map es c)::(Gj z.1))))) (fun _=>[]) ?_ ?_
 ·refine bh_ ?_
  refine aq_ ad_ (t_ rfl) rfl rfl ?_
  refine aq_ ad_ (t_ rfl) rfl rfl ?_
  refine eO_ (hY s k (by rw[hls];have:=gU_ hI2.nd (m:=q) (fun z hz=>by rcases List.mem_append.1 hz with hz|hz;exact hsub z hz;rw[List.mem_singleton]at hz;exact hz▸hkq);rw[List.length_append,List.length_singleton]at this;omega)) rfl rfl (c_ (c_ M_)) zt rfl fun z=>?_
  refine aq_ ad_ (bb_ rfl) rfl rfl ?_
  refine bW_ ?_
  refine de_ rfl ?_
  exact dE_ z zl zp zh
 rintro ⟨s',hs'⟩
 dsimp only
 refine Zz 4 ?_
 exact J_ ⟨(done++[k],seen.push e.born,c,s'),hI2,Nat.le_refl _,by rw[hs',hls],fun z hz=>by rcases List.mem_append.1 hz with hz|hz;exact hsub z hz;rw[List.mem_singleton]at hz;exact hz▸hkq⟩ (by have:=gU_ hI2.nd (m:=q) (fun z hz=>by rcases List.mem_append.1 hz with hz|hz;exact hsub z hz;rw[List.mem_singleton]at hz;exact hz▸hkq);rw[List.length_append,List.length_singleton]at this;dsimp only;rw[List.length_append,List.length_singleton];omega) zl (p_ e_ (p_ e_ (p_ e_ aZ_))) zt
theorem vF_ (mb bx c:Nat) (es:Array MapEntry) (q:List Str) (hE:KeyE str es q) (hB:Born es c) (hql:q.length≤100000000):rI_ Tryz.prog 239 [zp_ bx 0] [(bx,.cells #[.map (some mb)] 165 (0,0)),(mb,.map es c)] (fun L=>L.Perm q) :=
  fun l Gj lst hY s0 hs0=>uc_ hY s0 hs0 mb bx c es q hE hB hql
theorem vB_ (mb:Nat):Tri Tryz.prog 185 #[.map (some mb)] [] [] (fun bx:Nat=>.func (.func 239) #[] #[zp_ bx 0]) (fun bx=>[(bx,.cells #[.map (some mb)] 165 (0,0))]) (fun _=>[]):=by
  refine l_ Tryz.func185 rfl rfl Tryz.ntmps185 rfl fun v0=>?_
  refine Zz 2 ?_
  refine U_ rfl rfl fun b1=>Zz 5 ?_
  refine d_ (bV_ rfl rfl) rfl (Zz 4 ?_)
  exact N_ Tryz.results185 b1 rfl (F:=[]) (.refl _) zt
theorem tO_ {C Q G:Hp} {c:Nat×Obj}:(C++(c::Q)++G).Perm (c::(C++(Q++G))):=by
  have h1:C++(c::Q)++G=C++([c]++(Q++G)):=by simp
  rw[h1,← List.append_assoc]
  exact List.Perm.append_right (Q++G) (List.perm_append_comm (l₁:=C) (l₂:=[c])) |>.trans (by simp)
theorem ta_ (gf:FuncId) (caps:List Value) (Hc:Hp) (Rc:List Str→Prop) (hIt:rI_ Tryz.prog gf caps Hc Rc):Tri Tryz.prog 250 #[.slice none 0 0,.func (.func gf) #[] caps.toArray] Hc [] (fun y:{y:Value×Hp×List Str // aL_ 9 1 y.1 y.2.2.length (y.2.2.flatMap aE_) y.2.1∧Rc y.2.2}=>y.1.1) (fun y=>Hc++y.1.2.1) (fun _=>[]):=by
 refine eZ_ Tryz.func250 rfl rfl Tryz.ntmps250 rfl fun v0=>?_
 refine Zz 2 ?_
 refine U_ rfl rfl fun b1=>Zz 10 ?_
 refine bx_ [(2,zp_ b1 0),(6,.func (.func gf) #[] caps.toArray)] zl ?_
 refine qi_ (σ:={y:Value×Hp×List Str // aL_ 9 1 y.1 y.2.2.length (y.2.2.flatMap aE_) y.2.1}) (α:=Str) (xv:=fun x=>str x) (good:=fun s _=>s.1.2.2.length<100000000) (nx:=fun x s s'=>s'.1.2.2=s.1.2.2++[x]) (Rc:=fun s=>Rc s.1.2.2) (Γi:=[]) (Hj:=fun y=>(b1,.cells #[y.1.1] 23 (0,0))::y.1.2.1) (Hc:=Hc) (caps:=caps) ⟨(.slice none 0 0,[],[]),aL_.nil _ _⟩ rfl (@List.perm_append_comm _ [_] _) zt ?_ ?_ ?_
 ·rintro l D rec hpa hst hpe ht hasg hbody ⟨⟨sv,Hq,L⟩,hr⟩ x hx1
  dsimp only at hr hx1 ⊢
  refine hI_ (ι:=Unit) (Hj:=fun y:{y:Value×Hp×List Str // aL_ 9 1 y.1 y.2.2.length (y.2.2.flatMap aE_) y.2.1}=>(b1,.cells #[y.1.1] 23 (0,0))::y.1.2.1) (s:=⟨(sv,Hq,L),hr⟩) (ok:=fun s'=>s'.1.2.2=L++[x]) (Γ:=[]) (fun _=>[(2,zp_ b1 0),(5,str x)]) (fun _=>(b1,.cells #[sv] 23 (0,0))::Hq) hpa hst hpe ht rfl ?_ ?_
  ·intro n v0 H0 HL
   rw[hasg]
   dsimp only
   refine dP_.2 (C_ (H':=(b1,.cells #[sv] 23 (0,0))::(Hq++HL)) (by simp) (dP_.1 ?_))
   refine bh_ ?_
   refine aq_ (bv_ _) (W_ rfl) rfl rfl ?_
   refine bW_ ?_
   refine de_ rfl ?_
   exact dE_ () zl (F:=[]) (by rw[List.append_nil];exact .refl _) zh
  intro n v0 H0 HL _
  rw[hbody]
  refine dP_.2 (C_ (H':=(b1,.cells #[sv] 23 (0,0))::(Hq++HL)) (by simp) (dP_.1 ?_))
  refine gg_ ?_
  refine bh_ ?_
  refine aq_ (bv_ _) (bl_ 0 Tryz.isAgg23 rfl rfl rfl) rfl rfl ?_
  refine aq_ (bv_ _) (t_ rfl) rfl rfl ?_
  refine mO_ (bv_ _) n_ O_ an_ rfl rfl rfl rfl rfl rfl fun b3=>?_
  refine ks_ (bv_ _) (news:=List.flatMap aE_ [x]) dM_ hr rfl rfl zp rfl (bM_ 0 rfl) (fun u hu=>bd_ cP_ hu) (by simp only[maxLen];omega) (by omega) rfl fun sv1 Hr1 hr1=>?_
  have hq1:=zsa hr1
  refine pp_ (aB_ (i_ e_) (bD_ (i_ e_))) ?_
  refine iz_ (bv_ _) 1 hq1 gR_ rfl rfl rfl rfl ?_
  refine bW_ ?_
  refine de_ rfl ?_
  exact hl_ ⟨(sv1,Hr1,(L++[x])),hq1⟩ rfl (nD_ (p_ (c_ e_) (s_ (c_ o_) (s_ M_ e_))))
 ·intro l Gj hY
  exact hIt l Gj (fun y=>y.1.2.2) (fun s x h=>hY s x h) ⟨(.slice none 0 0,[],[]),aL_.nil _ _⟩ rfl
 rintro ⟨⟨sv,Hq,L⟩,hr⟩ hL D l r
 dsimp only at hL hr ⊢
 refine jl_ (H':=(b1,.cells #[sv] 23 (0,0))::(Hc++(Hq++HLp l D r))) (F:=[]) (by rw[List.append_nil];exact tO_) zh ?_
 refine dm_ rfl ?_
 refine fD_ ?_
 refine bh_ ?_
 refine aq_ ad_ (bl_ 0 Tryz.isAgg23 rfl rfl rfl) rfl rfl ?_
 refine aq_ ad_ (W_ rfl) rfl rfl ?_
 refine bW_ ?_
 refine dm_ rfl ?_
 refine gT_ ?_
 exact mG_ (G:=Hc++((b1,.cells #[sv] 23 (0,0))::(Hq++[(l,.loop r)]))) ⟨(sv,Hq,L),hr,hL⟩ (fun a v h1 h2=>by have e:=h1.val 4 sv rfl;simp[results,Tryz.results250,e]) (tO_.symm.trans (by unfold HLp;exact vr_)) ⟨_,pf_D10⟩ rfl
theorem qT_ (gf:FuncId) (caps:List Value) (Hc:Hp) (Rc:List Str→Prop) (hIt:rI_ Tryz.prog gf caps Hc Rc):Tri Tryz.prog 200 #[.func (.func gf) #[] caps.toArray] Hc [] (fun y:{y:Value×Hp×List Str // aL_ 9 1 y.1 y.2.2.length (y.2.2.flatMap aE_) y.2.1∧Rc y.2.2}=>y.1.1) (fun y=>Hc++y.1.2.1) (fun _=>[]):=by
  refine l_ Tryz.func200 rfl rfl Tryz.ntmps200 rfl fun v0=>?_
  refine Zz 8 ?_
  refine f_ (ta_ gf caps Hc Rc hIt) rfl aZ_ zt rfl fun⟨⟨sv1,Hq1,L1⟩,hr1,hL1⟩=>?_
  dsimp only
  dsimp only at hr1 hL1 ⊢
  simp only[List.append_assoc,List.append_nil]
  refine Zz 4 ?_
  exact N_ Tryz.results200 ⟨(sv1,Hq1,L1),hr1,hL1⟩ rfl zp zt
theorem rU_ (gf:FuncId) (caps:List Value) (Hc:Hp) (q:List Str) (hqn:q.Nodup) (hql:q.length≤100000000) (hIt:rI_ Tryz.prog gf caps Hc (fun L=>L.Perm q)):Tri Tryz.prog 127 #[.func (.func gf) #[] caps.toArray] Hc [] (fun y:{y:Option Addr×Nat // (fb_ q).length≤y.2∧y.2≤maxLen∧(y.1=none→y.2=0)}=>.slice y.1.1 (fb_ q).length y.1.2) (fun _=>Hc) (fun y=>[al_ y.1.1 ((fb_ q).flatMap aE_)]):=by
  refine l_ Tryz.func127 rfl rfl Tryz.ntmps127 rfl fun v0=>?_
  refine Zz 8 ?_
  refine f_ (qT_ gf caps Hc (fun L=>L.Perm q) hIt) rfl aZ_ zt rfl fun⟨⟨sv1,Hq1,L1⟩,hr1,hL1⟩=>?_
  dsimp only
  dsimp only at hr1 hL1 ⊢
  simp only[List.append_assoc,List.append_nil]
  refine Zz 6 ?_
  refine f_ (nw_ hr1 (by have:=hL1.length_eq;omega)) rfl ca_ zt rfl fun⟨Hq9,hq9⟩=>?_
  dsimp only
  have hs9:aL_ 9 1 sv1 (List.length (fb_ q)) (List.flatMap aE_ (fb_ q)) Hq9:=by rw[← rR_ hL1 hqn,show (fb_ L1).length=L1.length from List.length_mergeSort _];exact hq9
  refine Zz 9 ?_
  refine cr_ hs9 o_ fun ad2 cp2 had2 hcad2 hmad2 hzad2=>?_
  exact N_ Tryz.results127 ⟨(ad2,cp2),hcad2,hmad2,hzad2⟩ (cb_ rfl had2) aZ_ zf
end Go.Proofs.YtamklbgaipakfaaGreatDoor
namespace Go.Proofs.YtamklbgaipakfaaGreatDoor
open Go Go.Sx Go.Proofs
attribute [local irreducible] Code.wp wpList wpAnyH
open Go.Vs
theorem strt94:iv_ Tryz.prog 94 [(0,16)] [.int .i64 0,.bool false,.int .i64 0,str [],.int .i64 0,.int .i64 0,.slice none 0 0,.int .i64 0,str [],.int .i64 0,.int .i64 0,.slice none 0 0,.slice none 0 0,str [],str [],str []]:=⟨_,Tryz.zeroValue94,cX_,fun w=>by simp[S_]⟩
def pln (x:Ax):Prop:=x.kind=1∧x.left.kind=3∧x.right.kind=3
theorem nk_ {x:Ax} (hok:x.ok) (hC:x.check=0):Tri Tryz.prog 65 #[x.val] [] [x.memF,cq_] (fun _:Unit=>.int .i64 0) (fun _=>[]) (fun _=>[]):=by
  have h:=hw_ x hok
  rw[hC]at h
  exact h
theorem ri_ (c:Con) (hk:c.kind=3):Tri Tryz.prog 94 #[Con.val c] [] [] (fun _:Unit=>.tuple #[c.val,.int .i64 0]) (fun _=>[]) (fun _=>[]):=by
 refine l_ Tryz.func94 rfl rfl Tryz.ntmps94 rfl fun v0=>?_
 refine Zz 2 ?_
 refine U_ rfl rfl fun b1=>K_ bE_ rfl fun b2=>Zi 13 (fun hr1=>?_) fun hr1=>?_
 ·refine Zi 6 (fun hr2=>?_) fun hr2=>?_
  ·refine Zz 9 ?_
   refine x_ 0 A_ rfl rfl rfl rfl rfl rfl (Zz 4 ?_)
   exact fE_ () (fun aa v h1 h2=>eN_ (us:=Con.cells c) 0 Tryz.results94 aD_ A_ rfl rfl rfl rfl aa v h1 h2) g_ zt
  exfalso;omega
 exfalso;omega
theorem rP_ (x:Ax) (hok:x.ok) (hC:x.check=0) (hP:pln x):Tri Tryz.prog 48 #[Ax.val x] [] [Ax.memF x,cq_] (fun _:Unit=>.tuple #[x.val,.int .i64 0]) (fun _=>[]) (fun _=>[]):=by
 refine l_ Tryz.func48 rfl rfl Tryz.ntmps48 rfl fun v0=>?_
 have hk1:=hP.1
 refine Zz 2 ?_
 refine U_ rfl rfl fun b1=>K_ bc_ rfl fun b2=>Zz 7 ?_
 refine f_ (nk_ hok hC) rfl g_ zf rfl fun _=>Zz 6 ?_
 refine d_ (aY_ (bS_ rfl rfl) (show _=Value.bool false from congrArg Value.bool (by decide))) rfl (Zz 9 ?_)
 refine d_ (eo_ Tryz.runUnderlying151 er_ rfl rfl (by show (0:Int)≤x.kind;omega) (by show x.kind<(10:Int);omega)) rfl ?_
 refine d_ (af_ (ad:=some ⟨0,0,none⟩) (us:=Use.cells ⟨true,true,false,false,false,0,0⟩) Tryz.isAgg150 er_ rfl (fun v _ h=>h.2.1.2.1) (Use.cells_len _) (u_ Use.cells_len (show rO_[(Ax.kind x).toNat]? = some _ from by rw[hP.1];rfl))) rfl ?_
 refine K_ Tryz.zeroValue150 rfl fun b3=>x_ 0 er_ rfl rfl rfl rfl rfl rfl (Zz 5 ?_)
 refine x_ 1 S_ rfl rfl rfl rfl rfl rfl (Zz 14 ?_)
 refine f_ (ri_ (Ax.left x) hP.2.1) rfl g_ zt rfl fun _=>Zz 4 ?_
 refine x_ 1 A_ rfl rfl rfl rfl rfl rfl (Zz 6 ?_)
 refine d_ (aY_ (bS_ rfl rfl) (show _=Value.bool false from congrArg Value.bool (by decide))) rfl (Zz 17 ?_)
 refine f_ (ri_ (Ax.right x) hP.2.2) rfl g_ zt rfl fun _=>Zz 4 ?_
 refine x_ 1 A_ rfl rfl rfl rfl rfl rfl (Zz 6 ?_)
 refine d_ (aY_ (bS_ rfl rfl) (show _=Value.bool false from congrArg Value.bool (by decide))) rfl (Zi 10 (fun hr1=>?_) fun hr1=>?_)
 ·refine Zi 6 (fun hr2=>?_) fun hr2=>?_
  ·refine Zz 17 ?_
   refine x_ 1 S_ rfl rfl rfl rfl rfl rfl (Zz 4 ?_)
   exact fE_ () (fun aa v h1 h2=>eN_ (us:=Ax.cells x) 1 Tryz.results48 bI_ S_ rfl rfl rfl rfl aa v h1 h2) g_ zt
  exfalso;have:=hP.1;omega
 exfalso;have:=hP.1;omega
theorem wc_ (x y:Ax) (hok1:x.ok) (hok2:y.ok) (hz1l:x.left.sz≤1000000) (hz1r:x.right.sz≤1000000) (hz2l:y.left.sz≤1000000) (hz2r:y.right.sz≤1000000):Tri Tryz.prog 54 #[.agg #[.int .i64 (Ax.kind x),.bool (Ax.opn x),.int .i64 (Con.kind (Ax.left x)),str (Con.name (Ax.left x)),.int .i64 (Con.lo (Ax.left x)),.int .i64 (Con.hi (Ax.left x)),.slice (Con.ad (Ax.left x)) (List.length (Con.parts (Ax.left x))) (Con.cap (Ax.left x)),.int .i64 (Con.kind (Ax.right x)),str (Con.name (Ax.right x)),.int .i64 (Con.lo (Ax.right x)),.int .i64 (Con.hi (Ax.right x)),.slice (Con.ad (Ax.right x)) (List.length (Con.parts (Ax.right x))) (Con.cap (Ax.right x)),.slice (Ax.ad x) (List.length (Ax.roles x)) (Ax.cap x),str (Ax.role x),str (Ax.a x),str (Ax.b x)],Ax.val y] [] [Ax.memF x,Ax.memF y] (fun _:Unit=>.bool (Ax.cmp x y==0)) (fun _=>[]) (fun _=>[]):=by
  refine l_ Tryz.func54 rfl rfl Tryz.ntmps54 rfl fun v0=>?_
  refine Zz 2 ?_
  refine U_ rfl rfl fun b1=>U_ rfl rfl fun b2=>Zz 8 ?_
  refine f_ (rG_ x y hok1 hok2 hz1l hz1r hz2l hz2r) rfl g_ zf rfl fun _=>D_ (aI_ rfl rfl) rfl fun r1 hr1=>Zz 4 ?_
  exact N_ Tryz.results54 () (m_ rfl (by rw[← hr1])) g_ zt
theorem vM_ (x y:Ax) (hok1:x.ok) (hok2:y.ok) (hz1l:x.left.sz≤1000000) (hz1r:x.right.sz≤1000000) (hz2l:y.left.sz≤1000000) (hz2r:y.right.sz≤1000000):Tri Tryz.prog 49 #[.agg #[.int .i64 (Ax.kind x),.bool (Ax.opn x),.int .i64 (Con.kind (Ax.left x)),str (Con.name (Ax.left x)),.int .i64 (Con.lo (Ax.left x)),.int .i64 (Con.hi (Ax.left x)),.slice (Con.ad (Ax.left x)) (List.length (Con.parts (Ax.left x))) (Con.cap (Ax.left x)),.int .i64 (Con.kind (Ax.right x)),str (Con.name (Ax.right x)),.int .i64 (Con.lo (Ax.right x)),.int .i64 (Con.hi (Ax.right x)),.slice (Con.ad (Ax.right x)) (List.length (Con.parts (Ax.right x))) (Con.cap (Ax.right x)),.slice (Ax.ad x) (List.length (Ax.roles x)) (Ax.cap x),str (Ax.role x),str (Ax.a x),str (Ax.b x)],Ax.val y] [] [Ax.memF x,Ax.memF y] (fun _:Unit=>.bool ((x.opn==y.opn)&&(Ax.cmp x y==0))) (fun _=>[]) (fun _=>[]):=by
 refine l_ Tryz.func49 rfl rfl Tryz.ntmps49 rfl fun v0=>?_
 refine Zz 2 ?_
 refine U_ rfl rfl fun b1=>U_ rfl rfl fun b2=>Zz 10 ?_
 refine D_ (ow_ Tryz.underlying4 rfl rfl) rfl fun r1 hr1=>Zz 1 ?_
 cases r1
 ·refine Zz 8 ?_
  exact N_ Tryz.results49 () (m_ rfl (by simp only[hr1,if_true,if_false,decide_true,decide_false,Bool.and_true,Bool.and_false,Bool.true_and,Bool.false_and,Bool.or_true,Bool.or_false,Bool.true_or,Bool.false_or,Bool.not_true,Bool.not_false,ne_eq,not_true_eq_false,not_false_eq_true,true_and,and_true,false_and,and_false,true_or,or_true,false_or,or_false,ite_true,ite_false,Bool.false_eq_true])) g_ zt
 refine Zz 5 ?_
 refine aj_ (wc_ x y hok1 hok2 hz1l hz1r hz2l hz2r) rfl g_ zf rfl fun r2 hr2=>Zz 5 ?_
 exact N_ Tryz.results49 () (m_ rfl (by rw[← hr2];simp only[hr1,if_true,if_false,decide_true,decide_false,Bool.and_true,Bool.and_false,Bool.true_and,Bool.false_and,Bool.or_true,Bool.or_false,Bool.true_or,Bool.false_or,Bool.not_true,Bool.not_false,ne_eq,not_true_eq_false,not_false_eq_true,true_and,and_true,false_and,and_false,true_or,or_true,false_or,or_false,ite_true,ite_false,Bool.false_eq_true])) g_ zt
def oR_ (x:Ax):Bool:=(x.kind==5)||(x.kind==6)||(x.kind==7)
theorem qZ_ (x:Ax):Fn0 Tryz.prog 51 #[Ax.val x] (.bool (oR_ x)):=by
 refine l_ Tryz.func51 rfl rfl Tryz.ntmps51 rfl fun v0=>?_
 refine Zz 2 ?_
 refine U_ rfl rfl fun b1=>Zi 7 (fun hr1=>?_) fun hr1=>?_
 ·refine Zi 6 (fun hr2=>?_) fun hr2=>?_
  ·refine Zz 7 ?_
   refine D_ (aI_ rfl rfl) rfl fun r3 hr3=>Zz 5 ?_
   exact N_ Tryz.results51 () (m_ rfl (by unfold oR_;simp_all)) g_ zt
  refine Zz 10 ?_
  exact N_ Tryz.results51 () (m_ rfl (by unfold oR_;simp_all)) g_ zt
 refine Zz 14 ?_
 exact N_ Tryz.results51 () (m_ rfl (by unfold oR_;simp_all)) g_ zt
end Go.Proofs.YtamklbgaipakfaaGreatDoor
namespace Go.Proofs.YtamklbgaipakfaaGreatDoor
open Go Go.Sx Go.Proofs
attribute [local irreducible] Code.wp wpList wpAnyH
open Go.Vs
theorem qk_ (l:List Ax) (ad:Option Addr) (cap:Nat) (hok:∀ x∈l,x.ok) (hC:∀ x∈l,x.check=0) (hP:∀ x∈l,pln x) (hll:l.length≤1000):Tri Tryz.prog 101 #[.slice ad (List.length l) cap] [] [dw_ ad l,cq_] (fun _:Unit=>.int .i64 0) (fun _=>[]) (fun _=>[]):=by
 refine l_ Tryz.func101 rfl rfl Tryz.ntmps101 rfl fun v0=>?_
 refine Zz 14 ?_
 refine ai_ (ι:={y:Nat // y≤List.length l}) (fun y=>[(2,.int .i64 0),(6,.slice ad (List.length l) cap),(7,.int .i64 (List.length l:Int)),(8,.int .i64 (y.1:Int))]) (fun y=>([])) (fun y=>[dw_ ad l,cq_]) (fun y=>List.length l - y.1) ⟨(0:Nat),by simp⟩ zl g_ zh ?_
 rintro ⟨i,hi_i⟩
 dsimp only at hi_i ⊢
 refine Zi 2 (fun hr1=>?_) fun hr1=>?_
 ·refine Zz 12 ?_
  exact N_ Tryz.results101 () rfl g_ zt
 obtain⟨hlx1,x1,hx1,hmx1⟩:=zge (show i<List.length l by omega)
 have hkx:=hP x1 hmx1
 have hkx1:=hkx.1
 refine Zz 10 ?_
 refine d_ (L_ Q_ S_ rfl rfl (fun v _ h=>y_ (n:=16) Ax.cells_len (by decide) (by exact h.1.1) hx1) (by omega) (by first|omega|(simp;done))) rfl ?_
 refine d_ (af_ (ad:=ad) (us:=Ax.cells x1) bI_ S_ rfl (fun v _ h=>by exact h.1.1) (Ax.cells_len _) (u_ Ax.cells_len hx1)) rfl (K_ bc_ rfl fun b1=>x_ 0 S_ rfl rfl rfl rfl rfl rfl (Zz 5 ?_))
 refine f_ (nk_ (hok x1 hmx1) (hC x1 hmx1)) rfl g_ (fun v _ h=>by exact⟨(h.1.2 x1 hmx1),h.2.1,trivial⟩) rfl fun _=>Zz 6 ?_
 refine d_ (aY_ (bS_ rfl rfl) (show _=Value.bool false from congrArg Value.bool (by decide))) rfl (Zz 10 ?_)
 exact J_ ⟨i+1,hlx1⟩ (by dsimp only;omega) zl g_ zh
theorem tt_ (l:List Ax) (ad:Option Addr) (cap:Nat) (hok:∀ x∈l,x.ok) (hC:∀ x∈l,x.check=0) (hP:∀ x∈l,pln x) (hll:l.length≤1000):Tri Tryz.prog 103 #[.slice ad (List.length l) cap] [] [dw_ ad l] (fun b:Nat=>.map (some b)) (fun b=>[(b,.map #[] 0)]) (fun _=>[]):=by
 refine l_ Tryz.func103 rfl rfl Tryz.ntmps103 rfl fun v0=>?_
 refine Zz 7 ?_
 refine cd_ rfl fun b1=>K_ Tryz.zeroValue165 rfl fun b2=>x_ 0 Tryz.sizeOf165 rfl rfl rfl rfl rfl rfl (Zz 4 ?_)
 refine d_ (bV_ rfl rfl) rfl (Zz 12 ?_)
 refine ai_ (ι:={y:Nat // y≤List.length l}) (fun y=>[(2,.map none),(3,zp_ b2 0),(4,.func (.func 187) #[] #[zp_ b2 0]),(11,.slice ad (List.length l) cap),(12,.int .i64 (List.length l:Int)),(13,.int .i64 (y.1:Int))]) (fun y=>((b2,.cells #[.map (some b1)] 165 (0,0))::((b1,.map #[] 0)::[]))) (fun y=>[dw_ ad l]) (fun y=>List.length l - y.1) ⟨(0:Nat),by simp⟩ zl zp zh ?_
 rintro ⟨i,hi_i⟩
 dsimp only at hi_i ⊢
 refine Zi 2 (fun hr1=>?_) fun hr1=>?_
 ·refine Zz 13 ?_
  exact N_ Tryz.results103 b1 rfl zp zt
 obtain⟨hlx1,x1,hx1,hmx1⟩:=zge (show i<List.length l by omega)
 have hkx:=hP x1 hmx1
 have hkx1:=hkx.1
 refine Zz 10 ?_
 refine d_ (L_ Q_ S_ rfl rfl (fun v _ h=>y_ (n:=16) Ax.cells_len (by decide) (by exact h.1.1) hx1) (by omega) (by first|omega|(simp;done))) rfl ?_
 refine d_ (af_ (ad:=ad) (us:=Ax.cells x1) bI_ S_ rfl (fun v _ h=>by exact h.1.1) (Ax.cells_len _) (u_ Ax.cells_len hx1)) rfl (K_ bc_ rfl fun b3=>x_ 0 S_ rfl rfl rfl rfl rfl rfl (Zi 11 (fun hr2=>?_) fun hr2=>?_))
 ·refine Zi 6 (fun hr3=>?_) fun hr3=>?_
  ·refine Zz 11 ?_
   exact J_ ⟨i+1,hlx1⟩ (by dsimp only;omega) zl (p_ (c_ e_) (c_ e_)) zh
  exfalso;omega
 exfalso;omega
theorem pq_ (mb:Nat):Tri Tryz.prog 102 #[.map (some mb)] [(mb,.map #[] 0)] [] (fun y:Option Addr×Nat=>.agg #[.slice y.1 (List.length (fb_ [])) y.2,.slice none 0 0]) (fun _=>[]) (fun y=>[al_ y.1 (List.flatMap aE_ (fb_ []))]):=by
 refine l_ Tryz.func102 rfl rfl Tryz.ntmps102 rfl fun v0=>?_
 refine Zz 2 ?_
 refine K_ Tryz.zeroValue163 rfl fun b1=>Zz 5 ?_
 refine f_ (vB_ mb) rfl g_ zt rfl fun bx=>f_ (rU_ 239 [zp_ bx 0] [(bx,.cells #[.map (some mb)] 165 (0,0)),(mb,.map #[] 0)] [] List.nodup_nil (by simp) (vF_ mb bx 0 #[] [] KeyE.nil (Born.nil 0) (by simp))) rfl zp zt rfl fun⟨⟨sad9,scp9⟩,hs91,hs92,hs93⟩=>?_
 dsimp only
 have hs0:fb_ []=[]:=List.mergeSort_nil
 have hsl0:List.length (fb_ [])=0:=by rw[hs0];rfl
 refine Zz 1 ?_
 refine x_ 2 gR_ rfl rfl rfl rfl rfl rfl (Zz 12 ?_)
 refine ai_ (ι:={y:Nat // y≤List.length (fb_ [])}) (fun y=>[(0,.map (some mb)),(2,zp_ b1 0),(15,.slice sad9 (List.length (fb_ [])) scp9),(16,.int .i64 (List.length (fb_ []):Int)),(17,.int .i64 (y.1:Int))]) (fun y=>((b1,.cells #[.slice sad9 (List.length (fb_ [])) scp9,.slice none 0 0] 163 (0,0))::[])) (fun y=>[al_ sad9 (List.flatMap aE_ (fb_ []))]) (fun y=>List.length (fb_ []) - y.1) ⟨(0:Nat),by simp⟩ zl (c_ (c_ e_)) zh ?_
 rintro ⟨i,hi_i⟩
 dsimp only at hi_i ⊢
 refine Zi 2 (fun hr1=>?_) fun hr1=>?_
 ·refine Zz 9 ?_
  refine x_ 0 Tryz.sizeOf163 rfl rfl rfl rfl rfl rfl (Zz 3 ?_)
  exact fE_ ⟨sad9,scp9⟩ (fun aa v h1 h2=>dV_ (us:=[.slice sad9 (List.length (fb_ [])) scp9,.slice none 0 0]) 0 Tryz.results102 Tryz.isAgg163 Tryz.sizeOf163 rfl rfl rfl aa v h1 h2) g_ zf
 exfalso;rw[hs0]at *;simp only[List.length_nil]at *;omega
theorem ql_ (l:List Ax) (ad:Option Addr) (cap:Nat) (hok:∀ x∈l,x.ok) (hC:∀ x∈l,x.check=0) (hP:∀ x∈l,pln x) (hll:l.length≤1000):Tri Tryz.prog 52 #[.slice ad (List.length l) cap] [] [dw_ ad l,cq_] (fun _:Unit=>.tuple #[.slice none 0 0,.int .i64 0]) (fun _=>[]) (fun _=>[]):=by
 refine l_ Tryz.func52 rfl rfl Tryz.ntmps52 rfl fun v0=>?_
 refine Zz 10 ?_
 refine f_ (qk_ l ad cap hok hC hP hll) rfl g_ zf rfl fun _=>Zz 6 ?_
 refine d_ (aY_ (bS_ rfl rfl) (show _=Value.bool false from congrArg Value.bool (by decide))) rfl (Zz 8 ?_)
 refine f_ (tt_ l ad cap hok hC hP hll) rfl g_ zf rfl fun mb=>f_ (pq_ mb) rfl e_ zt rfl fun⟨sad9,scp9⟩=>?_
 dsimp only
 have hs0:fb_ []=[]:=List.mergeSort_nil
 have hsl0:List.length (fb_ [])=0:=by rw[hs0];rfl
 refine K_ Tryz.zeroValue163 rfl fun b1=>x_ 0 Tryz.sizeOf163 rfl rfl rfl rfl rfl rfl (Zz 26 ?_)
 refine ai_ (ι:={y:Nat // y≤List.length (fb_ [])}) (fun y=>[(2,.slice none 0 0),(3,.int .i64 0),(5,zp_ b1 0),(6,.int .i64 ((List.length (fb_ []):Int)+1)),(7,.slice none 0 0),(26,.int .i64 (List.length (fb_ []):Int)),(27,.int .i64 (y.1:Int))]) (fun y=>((b1,.cells #[.slice sad9 (List.length (fb_ [])) scp9,.slice none 0 0] 163 (0,0))::[])) (fun y=>[al_ sad9 (List.flatMap aE_ (fb_ [])),dw_ ad l,cq_]) (fun y=>List.length (fb_ []) - y.1) ⟨(0:Nat),by simp⟩ zl e_ zh ?_
 rintro ⟨i,hi_i⟩
 dsimp only at hi_i ⊢
 refine Zi 2 (fun hr1=>?_) fun hr1=>?_
 ·refine Zz 10 ?_
  refine d_ (aY_ (os_ (ad:=none) (m:=0) (c:=0) Tryz.underlying27 rfl rfl) (show _=Value.bool true from rfl)) rfl (Zz 10 ?_)
  exact lq_ Tryz.results52 () rfl rfl rfl g_ zt
 exfalso;rw[hs0]at *;simp only[List.length_nil]at *;omega
theorem ok_ (l:List Ax) (ad:Option Addr) (cap:Nat) (hok:∀ x∈l,x.ok) (hC:∀ x∈l,x.check=0) (hP:∀ x∈l,pln x) (hll:l.length≤1000) (hz:∀ x∈l,x.left.sz≤1000000∧x.right.sz≤1000000) (hS:∀ (i:Nat) x y,l[i]? = some x→l[i+1]? = some y→Ax.cmp x y=-1):Tri Tryz.prog 19 #[.agg #[.slice ad (List.length l) cap]] [] [dw_ ad l,cq_] (fun _:Unit=>.int .i64 0) (fun _=>[]) (fun _=>[]):=by
 refine l_ Tryz.func19 rfl rfl Tryz.ntmps19 rfl fun v0=>?_
 refine Zz 2 ?_
 refine U_ rfl rfl fun b1=>Zz 13 ?_
 refine ai_ (ι:={y:Nat // y≤List.length l}) (fun y=>[(1,zp_ b1 0),(2,.int .i64 0),(11,.slice ad (List.length l) cap),(12,.int .i64 (List.length l:Int)),(13,.int .i64 (y.1:Int))]) (fun y=>((b1,.cells #[.slice ad (List.length l) cap] 37 (0,0))::[])) (fun y=>[dw_ ad l,cq_]) (fun y=>List.length l - y.1) ⟨(0:Nat),by simp⟩ zl e_ zh ?_
 rintro ⟨i,hi_i⟩
 dsimp only at hi_i ⊢
 refine Zi 2 (fun hr1=>?_) fun hr1=>?_
 ·refine Zz 13 ?_
  refine ai_ (ι:={y:Nat // 1≤y}) (fun y=>[(1,zp_ b1 0),(2,.int .i64 0),(7,.int .i64 (y.1:Int))]) (fun y=>((b1,.cells #[.slice ad (List.length l) cap] 37 (0,0))::[])) (fun y=>[dw_ ad l,cq_]) (fun y=>List.length l - y.1) ⟨(1:Nat),by simp⟩ zl e_ zh ?_
  rintro ⟨k3,hi1⟩
  dsimp only at hi1 ⊢
  refine Zi 7 (fun hr2=>?_) fun hr2=>?_
  ·refine Zi 11 (fun hr3=>?_) fun hr3=>?_
   ·refine Zz 15 ?_
    refine ai_ (ι:={y:Nat // y≤List.length l}) (fun y=>[(1,zp_ b1 0),(2,.int .i64 0),(56,.slice ad (List.length l) cap),(57,.int .i64 (List.length l:Int)),(58,.int .i64 (y.1:Int))]) (fun y=>((b1,.cells #[.slice ad (List.length l) cap] 37 (0,0))::[])) (fun y=>[dw_ ad l,cq_]) (fun y=>List.length l - y.1) ⟨(0:Nat),by simp⟩ zl e_ zh ?_
    rintro ⟨j,hi_j⟩
    dsimp only at hi_j ⊢
    refine Zi 2 (fun hr4=>?_) fun hr4=>?_
    ·refine Zz 10 ?_
     refine f_ (ql_ l ad cap hok hC hP hll) rfl g_ zf rfl fun _=>Zz 13 ?_
     exact N_ Tryz.results19 () rfl g_ zt
    have hlz1:j<List.length l:=by omega
    obtain⟨z1,hz1⟩:∃ e0,l[j]? = some e0:=⟨_,List.getElem?_eq_getElem hlz1⟩
    have hmz1:z1∈l:=List.mem_of_getElem? hz1
    have hkz:=(hP z1 hmz1).1
    refine Zz 10 ?_
    refine d_ (L_ Q_ S_ rfl rfl (fun v _ h=>y_ (n:=16) Ax.cells_len (by decide) (by exact h.1.1) hz1) (by omega) (by first|omega|(simp;done))) rfl ?_
    refine d_ (af_ (ad:=ad) (us:=Ax.cells z1) bI_ S_ rfl (fun v _ h=>by exact h.1.1) (Ax.cells_len _) (u_ Ax.cells_len hz1)) rfl (K_ bc_ rfl fun b2=>x_ 0 S_ rfl rfl rfl rfl rfl rfl (Zz 5 ?_))
    refine aj_ (qZ_ z1) rfl g_ zt rfl fun r5 hr5=>Zz 1 ?_
    cases r5
    ·refine Zz 14 ?_
     exact J_ ⟨j+1,hlz1⟩ (by dsimp only;omega) zl (c_ e_) zh
    exfalso;simp[oR_,hkz]at *
   exfalso;omega
  obtain⟨i0,rfl⟩:∃ i0,k3=i0+1:=⟨k3 - 1,by omega⟩
  obtain⟨hlx1,x1,hx1,hmx1⟩:=zge (show i0<List.length l by omega)
  have hly1:(i0+1:Nat)<List.length l:=by omega
  obtain⟨y1,hy1⟩:∃ e0,l[(i0+1:Nat)]? = some e0:=⟨_,List.getElem?_eq_getElem hly1⟩
  have hmy1:y1∈l:=List.mem_of_getElem? hy1
  refine Zz 9 ?_
  refine z_ 2 [0,1,2,3,4,5,6,7,8,9,10] zk zs (Zz 3 ?_)
  refine P_ rfl (aY_ (aT_ rfl rfl rfl (bK_ (by omega) (by omega))) (show _=Value.int .i64 (i0:Int) from congrArg _ (by omega))) rfl ?_
  refine P_ rfl (L_ Q_ S_ rfl rfl (fun v _ h=>y_ (n:=16) Ax.cells_len (by decide) (by exact h.1.1) hx1) (by omega) (by first|omega|(simp;done))) rfl ?_
  refine P_ rfl (af_ (ad:=ad) (us:=Ax.cells x1) bI_ S_ rfl (fun v _ h=>by exact h.1.1) (Ax.cells_len _) (u_ Ax.cells_len hx1)) rfl (Zz 3 ?_)
  refine P_ rfl (L_ Q_ S_ rfl rfl (fun v _ h=>y_ (n:=16) Ax.cells_len (by decide) (by exact h.1.1) hy1) (by omega) (by first|omega|(simp;done))) rfl ?_
  refine P_ rfl (af_ (ad:=ad) (us:=Ax.cells y1) bI_ S_ rfl (fun v _ h=>by exact h.1.1) (Ax.cells_len _) (u_ Ax.cells_len hy1)) rfl (bA_ (j_ 11 rfl zk (f_ (rG_ x1 y1 (hok x1 hmx1) (hok y1 hmy1) (hz x1 hmx1).1 (hz x1 hmx1).2 (hz y1 hmy1).1 (hz y1 hmy1).2) rfl g_ (fun v _ h=>by exact⟨(h.1.2 x1 hmx1),(h.1.2 y1 hmy1),trivial⟩) rfl fun _=>Zz 3 ?_)))
  refine z_ 0 [12] zk zs ?_
  refine Zi 0 (fun hr6=>?_) fun hr6=>?_
  ·refine Zz 8 ?_
   refine d_ (aY_ (aT_ rfl rfl rfl (bK_ (by omega) (by omega))) (show _=Value.int .i64 ((i0+1+1:Nat):Int) from congrArg _ (by omega))) rfl (Zz 3 ?_)
   exact J_ ⟨i0+1+1,by omega⟩ (by dsimp only;omega) zl e_ zh
  exfalso;exact hr6 (hS i0 x1 y1 hx1 hy1)
 obtain⟨hlx1,x1,hx1,hmx1⟩:=zge (show i<List.length l by omega)
 have hkx:=hP x1 hmx1
 have hkx1:=hkx.1
 refine Zz 10 ?_
 refine d_ (L_ Q_ S_ rfl rfl (fun v _ h=>y_ (n:=16) Ax.cells_len (by decide) (by exact h.1.1) hx1) (by omega) (by first|omega|(simp;done))) rfl ?_
 refine d_ (af_ (ad:=ad) (us:=Ax.cells x1) bI_ S_ rfl (fun v _ h=>by exact h.1.1) (Ax.cells_len _) (u_ Ax.cells_len hx1)) rfl (K_ bc_ rfl fun b3=>x_ 0 S_ rfl rfl rfl rfl rfl rfl (Zz 5 ?_))
 refine f_ (rP_ x1 (hok x1 hmx1) (hC x1 hmx1) (hP x1 hmx1)) rfl g_ (fun v _ h=>by exact⟨(h.1.2 x1 hmx1),h.2.1,trivial⟩) rfl fun _=>Zz 3 ?_
 refine K_ bc_ rfl fun b4=>x_ 0 S_ rfl rfl rfl rfl rfl rfl (Zz 7 ?_)
 refine d_ (aY_ (bS_ rfl rfl) (show _=Value.bool false from congrArg Value.bool (by decide))) rfl (Zz 8 ?_)
 refine d_ (w_ strt94 rfl rfl) rfl (Zz 1 ?_)
 refine aj_ (vM_ x1 x1 (hok x1 hmx1) (hok x1 hmx1) (hz x1 hmx1).1 (hz x1 hmx1).2 (hz x1 hmx1).1 (hz x1 hmx1).2) rfl g_ (fun v _ h=>by exact⟨(h.1.2 x1 hmx1),(h.1.2 x1 hmx1),trivial⟩) rfl fun r7 hr7=>d_ (bb_ rfl) rfl (Zz 2 ?_)
 cases r7
 ·exfalso;rw[Ax.cmp_self]at hr7;simp at hr7
 refine Zz 8 ?_
 exact J_ ⟨i+1,hlx1⟩ (by dsimp only;omega) zl (c_ (c_ e_)) zh
end Go.Proofs.YtamklbgaipakfaaGreatDoor
namespace Go.Proofs.YtamklbgaipakfaaGreatDoor
open Go Go.Sx Go.Proofs
attribute [local irreducible] Code.wp wpList wpAnyH
open Go.Vs
structure PL where
  l:List Pc
  ad:Option Addr
  cap:Nat
def PL.cells (x:PL):List Value:=[.slice x.ad x.l.length x.cap]
theorem PL.cells_len (x:PL):x.cells.length=1:=rfl
structure PL.ok (x:PL):Prop where
  le:x.l.length≤x.cap
  nz:x.ad=none→x.cap=0
  sh:x.l.length≤100000
def plF (xs:List PL):Fct where
  p v:=∀ x∈xs,bY_ v x.ad (List.flatMap Pc.cells x.l)
  mono:=fun v v' h hp x hx=>(al_ x.ad (List.flatMap Pc.cells x.l)).mono v v' h (hp x hx)
def hA_ (xs:List PL):List Pc:=List.flatMap PL.l xs
theorem qs_ {xs:List PL} {i:Nat} {x:PL} (h:xs[i]? = some x):hA_ (xs.take (i+1))=hA_ (xs.take i)++x.l:=by unfold hA_;rw[List.take_add_one,h];simp
theorem so_ {xs:List PL} (h:∀ x∈xs,x.ok) (i:Nat):(hA_ (xs.take i)).length≤min i xs.length*100000:=by
  have:=wh_ (g:=PL.l) (n:=100000) (xs.take i) fun x hx=>(h x (List.mem_of_mem_take hx)).sh
  rwa [List.length_take]at this
theorem vJ_ (n:Nat) (hn:n≤1000000000):Tri Tryz.prog 115 #[.slice none 0 0,.int .i64 (n:Int)] [] [] (fun y:{y:Value×Hp // aL_ 58 10 y.1 0 [] y.2}=>y.1.1) (fun y=>y.1.2) (fun _=>[]):=by
 refine l_ Tryz.func115 rfl rfl Tryz.ntmps115 rfl fun v0=>?_
 refine Zi 9 (fun hr1=>?_) fun hr1=>?_
 ·refine Zz 10 ?_
  refine d_ (ov_ q_ rfl) rfl (Zz 3 ?_)
  refine d_ (aY_ (aT_ rfl rfl rfl (bK_ (by omega) (by omega))) (show Value.int .i64 ((n:Int) - (0 - 0))=Value.int .i64 (n:Int) from congrArg _ (by omega))) rfl (Zi 6 (fun hr2=>?_) fun hr2=>?_)
  ·refine Zz 12 ?_
   exact N_ Tryz.results115 ⟨(.slice none 0 0,[]),aL_.nil _ _⟩ rfl g_ zt
  refine Zz 6 ?_
  refine d_ (ov_ q_ rfl) rfl (d_ (aY_ (eM_ (i:=0) (j:=0) (kl:=.i64) (kh:=.i64) q_ F_ rfl rfl rfl (by omega) (by omega)) (show _=Value.slice none 0 0 from rfl)) rfl (Zz 1 ?_))
  refine pn_ (n:=n) hY_ B_ rfl rfl (by omega) (by omega) (by simp only[maxLen];omega) rfl fun yz bz hz=>?_
  refine Zz 2 ?_
  refine d_ (aY_ (eM_ (i:=0) (j:=0) (kl:=.i64) (kh:=.i64) q_ F_ rfl rfl rfl (by omega) (by omega)) (show _=Value.slice (some ⟨bz,0,none⟩) 0 yz.1 by simp[oM_])) rfl (Zz 10 ?_)
  exact N_ Tryz.results115 ⟨(.slice (some ⟨bz,0,none⟩) 0 yz.1,[(bz,.cells yz.2 58 (0,0))]),rS_ hz.2.1 hz.2.2⟩ rfl e_ zt
 exfalso;omega
theorem uv_ (xs:List PL) (xad:Option Addr) (xcap:Nat) (hok:∀ x∈xs,x.ok) (hl:xs.length≤100):Tri Tryz.prog 59 #[.slice xad (List.length xs) xcap] [] [al_ xad (List.flatMap PL.cells xs),plF xs] (fun y:{y:Option Addr×Nat // ((hA_ xs)).length≤y.2∧y.2≤maxLen∧(y.1=none→y.2=0)}=>.slice y.1.1 ((hA_ xs)).length y.1.2) (fun _=>[]) (fun y=>[al_ y.1.1 (((hA_ xs)).flatMap Pc.cells)]):=by
 refine l_ Tryz.func59 rfl rfl Tryz.ntmps59 rfl fun v0=>?_
 refine Zz 19 ?_
 refine ai_ (ι:={y:Nat×Nat // y.1≤List.length xs∧y.2≤y.1*100000}) (fun y=>[(0,.slice xad (List.length xs) xcap),(3,.int .i64 (y.1.2:Int)),(9,.slice xad (List.length xs) xcap),(10,.int .i64 (List.length xs:Int)),(11,.int .i64 (y.1.1:Int))]) (fun y=>([])) (fun y=>[al_ xad (List.flatMap PL.cells xs),plF xs]) (fun y=>List.length xs - y.1.1) ⟨((0:Nat),(0:Nat)),by simp,by simp⟩ zl g_ zh ?_
 rintro ⟨⟨i,w⟩,hi,hw⟩
 dsimp only at hi hw ⊢
 refine Zi 2 (fun hr1=>?_) fun hr1=>?_
 ·refine Zz 9 ?_
  refine f_ (vJ_ w (by omega)) rfl g_ zt rfl fun⟨⟨svg9,Hg9⟩,hg9⟩=>?_
  dsimp only
  dsimp only at hg9
  refine C_ im_ ?_
  have hg8:aL_ 58 10 svg9 (List.length (hA_ (List.take 0 xs))) (List.flatMap Pc.cells (hA_ (List.take 0 xs))) Hg9:=by exact hg9
  refine Zz 12 ?_
  refine ai_ (ι:={y:Nat×Value×Hp // y.1≤List.length xs∧zR 58 10 Pc.cells y.2.1 (hA_ (List.take y.1 xs)) y.2.2}) (fun y=>[(0,.slice xad (List.length xs) xcap),(6,y.1.2.1),(25,.slice xad (List.length xs) xcap),(26,.int .i64 (List.length xs:Int)),(27,.int .i64 (y.1.1:Int))]) (fun y=>(y.1.2.2)) (fun y=>[al_ xad (List.flatMap PL.cells xs),plF xs]) (fun y=>List.length xs - y.1.1) ⟨((0:Nat),svg9,Hg9),by simp,hg8⟩ zl aZ_ zh ?_
  rintro ⟨⟨j,sv_Rp,H_Rp⟩,hj,hr_Rp⟩
  dsimp only at hj hr_Rp ⊢
  have hpl:=so_ hok j
  refine Zi 2 (fun hr2=>?_) fun hr2=>?_
  ·rw[List.take_of_length_le (by omega)]at hr_Rp
   refine Zz 13 ?_
   refine cr_ hr_Rp aZ_ fun ad2 cp2 had2 hcad2 hmad2 hzad2=>?_
   exact N_ Tryz.results59 ⟨(ad2,cp2),hcad2,hmad2,hzad2⟩ (cb_ rfl had2) g_ zf
  obtain⟨hlx2,x2,hx2,hmx2⟩:=zge (show j<List.length xs by omega)
  have hsh1:=(hok x2 hmx2).sh
  refine Zz 10 ?_
  refine d_ (L_ bO_ gP_ rfl rfl (fun v _ h=>y_ (n:=1) PL.cells_len (by decide) (by exact h.1) hx2) (by omega) (by first|omega|(simp;done))) rfl ?_
  refine d_ (ba_ (ad:=xad) qN_ rfl zf (u_ PL.cells_len hx2 0 _ rfl)) rfl (Zz 6 ?_)
  refine eS_ (news:=List.flatMap Pc.cells (PL.l x2)) hY_ hr_Rp rfl rfl (hok x2 hmx2).nz (hok x2 hmx2).le aZ_ (by rw[em_ Pc.cells 10 Pc.cells_len]) (fun v _ h=>by exact (h.2.1 x2 hmx2)) (fun u hu=>bd_ Pc.cells_one hu) (by simp only[maxLen];(have:=(hok x2 hmx2).sh;omega)) (by (have:=(hok x2 hmx2).sh;omega)) rfl fun sv1 Hr1 hr1=>?_
  refine C_ List.perm_append_comm ?_
  have hq1:=zsa hr1
  refine Zz 8 ?_
  exact J_ ⟨(j+1,sv1,Hr1),hlx2,(by rw[qs_ hx2];exact hq1)⟩ (by dsimp only;omega) zl aZ_ zh
 obtain⟨hlx1,x1,hx1,hmx1⟩:=zge (show i<List.length xs by omega)
 have hsh1:=(hok x1 hmx1).sh
 refine Zz 10 ?_
 refine d_ (L_ bO_ gP_ rfl rfl (fun v _ h=>y_ (n:=1) PL.cells_len (by decide) (by exact h.1) hx1) (by omega) (by first|omega|(simp;done))) rfl ?_
 refine d_ (ba_ (ad:=xad) qN_ rfl zf (u_ PL.cells_len hx1 0 _ rfl)) rfl (Zi 15 (fun hr3=>?_) fun hr3=>?_)
 ·refine Zz 10 ?_
  exact J_ ⟨(i+1,w+List.length (PL.l x1)),hlx1,by have:=(hok x1 hmx1).sh;dsimp only;omega⟩ (by dsimp only;omega) ⟨rfl,(V_ rfl (by push_cast;rfl)),rfl,rfl,rfl,trivial⟩ g_ zh
 exfalso;omega
end Go.Proofs.YtamklbgaipakfaaGreatDoor
namespace Go.Proofs.YtamklbgaipakfaaGreatDoor
open Go Go.Sx Go.Proofs
attribute [local irreducible] Code.wp wpList wpAnyH
open Go.Vs
theorem nG_ (l:List Ax) (ad:Option Addr) (cap:Nat) (hok:∀ x∈l,x.ok) (hC:∀ x∈l,x.check=0) (hP:∀ x∈l,pln x) (hll:l.length≤1000) (hz:∀ x∈l,x.left.sz≤1000000∧x.right.sz≤1000000) (hS:∀ (i:Nat) x y,l[i]? = some x→l[i+1]? = some y→Ax.cmp x y=-1) (hcap:l.length≤cap∧cap≤2199023255488) (p:List Pc) (hPL:az_ l=(p,0)) (hpl:p.length≤1000):Tri Tryz.prog 45 #[.agg #[.slice ad (List.length l) cap]] [] [dw_ ad l,cq_] (fun y:{y:Option Addr×Nat // p.length≤y.2∧y.2≤maxLen∧(y.1=none→y.2=0)}=>.tuple #[.slice y.1.1 p.length y.1.2,.int .i64 0]) (fun _=>[]) (fun y=>[al_ y.1.1 (p.flatMap Pc.cells)]):=by
  refine l_ Tryz.func45 rfl rfl Tryz.ntmps45 rfl fun v0=>?_
  refine Zz 2 ?_
  refine U_ rfl rfl fun b1=>Zz 8 ?_
  refine f_ (ok_ l ad cap hok hC hP hll hz hS) rfl g_ zf rfl fun _=>Zz 6 ?_
  refine d_ (aY_ (bS_ rfl rfl) (show _=Value.bool false from congrArg Value.bool (by decide))) rfl (Zz 9 ?_)
  refine f_ (ph_ l ad cap hcap hok hPL) rfl g_ zf rfl fun⟨⟨pad,pcap⟩,hpc1,hpc2,hpc3⟩=>?_
  dsimp only
  refine Zz 7 ?_
  exact lq_ Tryz.results45 ⟨(pad,pcap),hpc1,hpc2,hpc3⟩ rfl rfl rfl g_ zf
theorem goal_m {x:Ax} (hok:x.ok) {p:List Pc} {fs:List Fc} {er:Int} (e:x.goalP=(p,fs,er)) :
    Tri Tryz.prog 58 #[x.val] [] [x.memF,cq_] (fun y:{y:Option Addr×Nat×Option Addr×Nat // p.length≤y.2.1∧y.2.1≤maxLen∧fs.length≤y.2.2.2∧y.2.2.2≤maxLen∧(y.1=none→y.2.1=0)}=>.tuple #[.slice y.1.1 p.length y.1.2.1,.slice y.1.2.2.1 fs.length y.1.2.2.2,.int .i64 er])
    (fun _=>[]) (fun y=>[al_ y.1.1 (p.flatMap Pc.cells),al_ y.1.2.2.1 (fs.flatMap Fc.cells)]):=by
  have h:=goal_c x hok
  generalize x.goalP=g at h e
  subst e
  exact h
theorem Of0_c (l:List Ax) (ad:Option Addr) (cap:Nat) (hok:∀ x∈l,x.ok) (hC:∀ x∈l,x.check=0) (hP:∀ x∈l,pln x) (hll:l.length≤1000) (hz:∀ x∈l,x.left.sz≤1000000∧x.right.sz≤1000000) (hS:∀ (i:Nat) x y,l[i]? = some x→l[i+1]? = some y→Ax.cmp x y=-1) (hcap:l.length≤cap∧cap≤2199023255488) (p:List Pc) (hPL:az_ l=(p,0)) (hpl:p.length≤1000) (x:Ax) (hox:x.ok) (q:List Pc) (F:List Fc) (hG:x.goalP=(q,F,0)) (hql:q.length≤1000):Tri Tryz.prog 23 #[.agg #[.slice ad (List.length l) cap],Ax.val x] [] [dw_ ad l,cq_,Ax.memF x] (fun y:{y:Value×Hp // zR 48 16 Ax.cells y.1 (bR_ l (eC_ l (p++q) (dY_ q) (List.length l))) y.2}=>.tuple #[.agg #[y.1.1],.int .i64 0]) (fun y=>y.1.2) (fun _=>[]):=by
 refine l_ Tryz.func23 rfl rfl Tryz.ntmps23 rfl fun v0=>?_
 refine X_ ?_
 refine I_ ?_
 refine U_ rfl rfl fun b1=>?_
 refine U_ rfl rfl fun b2=>?_
 refine K_ Tryz.zeroValue37 rfl fun b3=>?_
 refine d_ (W_ rfl) rfl ?_
 refine aa_ ?_
 refine G_ rfl ?_
 refine X_ ?_
 refine I_ ?_
 refine d_ (bz_ 2 Tryz.isAgg37 gQ_ rfl rfl rfl) rfl ?_
 refine f_ (nG_ l ad cap hok hC hP hll hz hS hcap p hPL hpl) rfl g_ zf rfl fun⟨⟨pad,pcap⟩,hpc1,hpc2,hpc3⟩=>?_
 dsimp only
 refine d_ (t_ rfl) rfl ?_
 refine d_ (bs_ rfl rfl) rfl ?_
 refine d_ (bs_ rfl rfl) rfl ?_
 refine d_ (W_ rfl) rfl ?_
 refine d_ (W_ rfl) rfl ?_
 refine aa_ ?_
 refine G_ rfl ?_
 refine X_ ?_
 refine X_ ?_
 refine I_ ?_
 refine d_ (t_ rfl) rfl ?_
 refine d_ (aY_ (bS_ rfl rfl) (show _=Value.bool false from congrArg Value.bool (by decide))) rfl ?_
 refine aa_ ?_
 refine G_ rfl ?_
 refine aW_ rfl ?_
 refine bt_ ?_
 refine G_ rfl ?_
 refine X_ ?_
 refine I_ ?_
 refine d_ (bz_ 1 bI_ S_ rfl rfl rfl) rfl ?_
 refine f_ (goal_m hox hG) rfl g_ zf rfl fun⟨⟨qad,qcap,fad,fcap⟩,hqc1,hqc2,hfc1,hfc2,hqc3⟩=>?_
 dsimp only
 refine d_ (t_ rfl) rfl ?_
 refine d_ (bs_ rfl rfl) rfl ?_
 refine d_ (bs_ rfl rfl) rfl ?_
 refine d_ (bs_ rfl rfl) rfl ?_
 refine d_ (W_ rfl) rfl ?_
 refine d_ (W_ rfl) rfl ?_
 refine d_ (W_ rfl) rfl ?_
 refine aa_ ?_
 refine G_ rfl ?_
 refine X_ ?_
 refine X_ ?_
 refine I_ ?_
 refine d_ (t_ rfl) rfl ?_
 refine d_ (aY_ (bS_ rfl rfl) (show _=Value.bool false from congrArg Value.bool (by decide))) rfl ?_
 refine aa_ ?_
 refine G_ rfl ?_
 refine aW_ rfl ?_
 refine bt_ ?_
 refine G_ rfl ?_
 refine X_ ?_
 refine X_ ?_
 refine I_ ?_
 refine d_ (t_ rfl) rfl ?_
 refine d_ (dp_ q_ rfl) rfl ?_
 refine d_ (t_ rfl) rfl ?_
 refine d_ (dp_ q_ rfl) rfl ?_
 refine d_ (aT_ rfl rfl rfl (bK_ (by omega) (by omega))) rfl ?_
 refine D_ (ea_ rfl rfl) rfl fun r1 hr1=>?_
 refine aa_ ?_
 refine G_ rfl ?_
 cases r1
 ·replace hr1:=zdf hr1
  refine aW_ rfl ?_
  refine bt_ ?_
  refine G_ rfl ?_
  refine X_ ?_
  refine am_ ((b2,.cells #[.int .i64 (Ax.kind x),.bool (Ax.opn x),.int .i64 (Con.kind (Ax.left x)),str (Con.name (Ax.left x)),.int .i64 (Con.lo (Ax.left x)),.int .i64 (Con.hi (Ax.left x)),.slice (Con.ad (Ax.left x)) (List.length (Con.parts (Ax.left x))) (Con.cap (Ax.left x)),.int .i64 (Con.kind (Ax.right x)),str (Con.name (Ax.right x)),.int .i64 (Con.lo (Ax.right x)),.int .i64 (Con.hi (Ax.right x)),.slice (Con.ad (Ax.right x)) (List.length (Con.parts (Ax.right x))) (Con.cap (Ax.right x)),.slice (Ax.ad x) (List.length (Ax.roles x)) (Ax.cap x),str (Ax.role x),str (Ax.a x),str (Ax.b x)] 48 (0,0))::((b1,.cells #[.slice ad (List.length l) cap] 37 (0,0))::[])) zk ?_
  refine z_ 6 [0,1,2,3,6] zk zs ?_
  refine P_ rfl (el_ bw_ rfl rfl rfl gS_) rfl ?_
  refine P_ rfl (bl_ 1 kH_ rfl rfl rfl) rfl ?_
  refine P_ rfl (t_ rfl) rfl ?_
  refine P_ rfl (t_ rfl) rfl ?_
  refine P_ rfl (t_ rfl) rfl ?_
  refine bA_ ?_
  refine j_ 4 rfl zk ?_
  refine E_ bO_ gP_ cC_ rfl rfl rfl rfl rfl rfl fun b4=>?_
  refine ap_ (List.flatMap PL.cells [(PL.mk p pad pcap),(PL.mk q qad qcap)]) e_ rfl ?_
  refine aa_ ?_
  refine bJ_ rfl ?_
  refine H_ zs ?_
  refine j_ 5 rfl zk ?_
  refine f_ ((show Tri Tryz.prog 59 _ [] _ (fun y:{y:Option Addr×Nat // (p++q).length≤y.2∧y.2≤maxLen∧(y.1=none→y.2=0)}=>.slice y.1.1 (p++q).length y.1.2) (fun _=>[]) (fun y=>[al_ y.1.1 ((p++q).flatMap Pc.cells)]) from by have h:=uv_ [(PL.mk p pad pcap),(PL.mk q qad qcap)] (some ⟨b4,0,none⟩) 2 (fun y hy=>by simp only[List.mem_cons,List.not_mem_nil,or_false]at hy;rcases hy with rfl|rfl;exact⟨hpc1,hpc3,by dsimp only;omega⟩;exact⟨hqc1,hqc3,by dsimp only;omega⟩) (by simp);have eC:(hA_ [(PL.mk p pad pcap),(PL.mk q qad qcap)])=p++q:=(by simp[hA_]);rw[eC]at h;exact h)) rfl g_ (fun v _ h=>by refine⟨h.1,fun y hy=>?_,trivial⟩;simp only[List.mem_cons,List.not_mem_nil,or_false]at hy;rcases hy with rfl|rfl;exact h.2.2.2.1;exact h.2.1) rfl fun⟨⟨ccad,cccap⟩,hcc1,hcc2,hcc3⟩=>?_
  dsimp only
  refine aa_ ?_
  refine bJ_ rfl ?_
  refine H_ zs ?_
  refine j_ 7 rfl zk ?_
  refine f_ (rH_ q qad qcap (by omega)) rfl g_ zf rfl fun⟨⟨aad,acap⟩,hac,ham⟩=>?_
  dsimp only
  refine aa_ ?_
  refine bJ_ rfl ?_
  refine H_ zs ?_
  refine j_ 8 rfl zk ?_
  refine f_ (part_c l ad cap (p++q) ccad cccap (dY_ q) aad acap (by rw[List.length_append];omega) (by have:=eR_ q;omega) (by omega)) rfl g_ zf rfl fun⟨⟨svq,Hqq,Lq⟩,hrq,hLq⟩=>?_
  dsimp only
  dsimp only at hrq hLq ⊢
  subst hLq
  refine aa_ ?_
  refine bJ_ rfl ?_
  refine H_ zs ?_
  refine j_ 9 rfl zk ?_
  refine C_ (aB_ (i_ e_) (aB_ (i_ e_) (bD_ ca_))) ?_
  refine x_ 0 gQ_ rfl rfl rfl rfl rfl (by have q:=(ep_ hrq).2;simp only[Value.cells,List.all_cons,List.all_nil,q,Bool.and_true]) ?_
  refine aa_ ?_
  refine bJ_ rfl ?_
  refine H_ (fun _ a b=>⟨Vw.sat.sub (a.perm (p_ (c_ e_) (c_ e_))),b.2.2.2⟩) ?_
  refine z_ 0 [10] zk (fun _ a b=>⟨Vw.sat.sub (a.perm (p_ (c_ e_) (c_ e_))),b.2.2.2⟩) ?_
  refine P_ rfl (W_ rfl) rfl ?_
  refine bA_ ?_
  refine gp_ zk ?_
  refine G_ rfl ?_
  refine eK_ ?_
  exact fE_ ⟨(svq,Hqq),hrq⟩ (fun aa v h1 h2=>eN_ (us:=[svq]) 0 Tryz.results23 Tryz.isAgg37 gQ_ rfl rfl rfl rfl aa v h1 h2) (c_ (c_ M_)) zt
 replace hr1:=zdt hr1
 exfalso;omega
end Go.Proofs.YtamklbgaipakfaaGreatDoor
