/-
  Part of the proof of the law ModuleShrinks over this seat: the small logic, the data, the contracts of functions (no condition).
-/
import Derived.Test.YtamklbgaipakfaaGreatDoorQModuleShrinks10
import Derived.Test.YtamklbgaipakfaaGreatDoorQModuleShrinks7
import Derived.Test.YtamklbgaipakfaaGreatDoorQModuleShrinks6
import Derived.Test.YtamklbgaipakfaaGreatDoorQModuleShrinks8
import Derived.Test.YtamklbgaipakfaaGreatDoorQModuleShrinks9
set_option linter.unusedVariables false
set_option linter.unusedSimpArgs false
set_option linter.unusedSectionVars false
set_option maxHeartbeats 1000000
namespace Go.Vs
open Go Go.Sx
namespace Con
theorem core_parts (c:Con):c.core.parts=c.parts.map core:=by rw[core_eq];rfl
mutual
theorem lM_:∀ c:Con,c.core.core=c.core
  | mk k n l h a cp ps=>by rw[core,core,ky_ ps]
theorem ky_:∀ ps:List Con,core.cores (core.cores ps)=core.cores ps
  | []=>rfl
  | p::ps=>by rw[core.cores,core.cores,lM_ p,ky_ ps]
end
theorem np_ (c:Con):c.core.sz=c.sz:=sz_core _ _ (lM_ c)
mutual
theorem im_:∀ a b:Con,cmp a.core b.core=cmp a b
  | mk k n l h a cp ps,mk k' n' l' h' a' cp' ps'=>by
    rw[cmp_eq,cmp_eq,np_,np_]
    simp only[core,kind,name,lo,hi,parts]
    rw[lP_ ps ps']
theorem lP_:∀ a b:List Con,cmp.cmps (core.cores a) (core.cores b)=cmp.cmps a b
  | [],[]=>rfl
  | [],_::_=>rfl
  | _::_,[]=>rfl
  | x::xs,y::ys=>by rw[core.cores,core.cores,cmp.cmps,cmp.cmps,im_ x y,lP_ xs ys]
end
theorem cmp_of {a a' b b':Con} (h1:a.core=a'.core) (h2:b.core=b'.core):cmp a b=cmp a' b':=by rw[← im_ a b,← im_ a' b',h1,h2]
theorem cmp_lt {x y z:Con} (h:cmp x y<0) (h':cmp y z<0):cmp x z<0:=by
  have:=cmp_tr x y z
  unfold Tr3 at this
  omega
def SrC (l:List Con):Prop:=l.Pairwise fun a b=>cmp a b<0
theorem SrC.core {l:List Con}:SrC (l.map core)↔SrC l:=by
  unfold SrC
  rw[List.pairwise_map]
  simp only[im_]
theorem SrC.ext:∀ {l m:List Con},SrC l→SrC m→(∀ z,z∈l.map Con.core↔z∈m.map Con.core)→l.map Con.core=m.map Con.core
 | [],[],_,_,_=>rfl
 | [],y::m,_,_,h=>by have:=(h y.core).2 (by simp);simp at this
 | x::l,[],_,_,h=>by have:=(h x.core).1 (by simp);simp at this
 | x::l,y::m,h1,h2,h=>by
   unfold SrC at h1 h2
   rw[List.pairwise_cons]at h1 h2
   have hx:∀ z∈l,cmp x z<0:=h1.1
   have hy:∀ z∈m,cmp y z<0:=h2.1
   have e:x.core=y.core:=by
     have q1:=(h x.core).1 (by simp)
     have q2:=(h y.core).2 (by simp)
     rw[List.map_cons,List.mem_cons]at q1 q2
     rcases q1 with q1|q1
     · exact q1
     · rcases q2 with q2|q2
       · exact q2.symm
       · obtain⟨z,hz,e1⟩:=List.mem_map.1 q1
         obtain⟨t,ht,e2⟩:=List.mem_map.1 q2
         have g1:cmp y x<0:=by rw[cmp_of (a':=y) (b':=z) rfl e1.symm];exact hy z hz
         have g2:cmp x y<0:=by rw[cmp_of (a':=x) (b':=t) rfl e2.symm];exact hx t ht
         have:=cmp_anti x y
         omega
   have ih:=SrC.ext (l:=l) (m:=m) h1.2 h2.2 (fun z=>by
     constructor
     · intro hz
       have:=(h z).1 (by rw[List.map_cons];exact List.mem_cons_of_mem _ hz)
       rw[List.map_cons,List.mem_cons]at this
       rcases this with g|g
       · obtain⟨t,ht,e1⟩:=List.mem_map.1 hz
         have q:=hx t ht
         rw[(cmp_zero x t).2 (by rw[e1,g,e])]at q
         omega
       · exact g
     · intro hz
       have:=(h z).2 (by rw[List.map_cons];exact List.mem_cons_of_mem _ hz)
       rw[List.map_cons,List.mem_cons]at this
       rcases this with g|g
       · obtain⟨t,ht,e1⟩:=List.mem_map.1 hz
         have q:=hy t ht
         rw[(cmp_zero y t).2 (by rw[e1,g,e])]at q
         omega
       · exact g)
   rw[List.map_cons,List.map_cons,e,ih]
def fl_ (c:Con):List Con→List Con
  | []=>[c]
  | d::l=>if cmp c d<0 then c::d::l else if cmp c d=0 then d::l else d::fl_ c l
def srtC (l:List Con):List Con:=l.foldl (fun s c=>fl_ c s) []
theorem kr_ {c:Con}:∀ {l:List Con} {z:Con},z∈fl_ c l→z=c∨z∈l
 | [],z,h=>by simp[fl_]at h;exact .inl h
 | d::l,z,h=>by
   simp only[fl_]at h
   split at h
   · simpa using h
   · split at h
     · exact .inr h
     · rcases List.mem_cons.1 h with rfl|h
       · simp
       · exact (kr_ h).imp id (List.mem_cons_of_mem _)
theorem oa_ {c:Con}:∀ {l:List Con} {z:Con},z∈l→z∈fl_ c l
 | d::l,z,h=>by
   simp only[fl_]
   split
   · exact List.mem_cons_of_mem _ h
   · split
     · exact h
     · rcases List.mem_cons.1 h with rfl|h
       · simp
       · exact List.mem_cons_of_mem _ (oa_ h)
theorem ob_ {c:Con}:∀ {l:List Con},∃ z∈fl_ c l,z.core=c.core
 | []=>⟨c,by simp[fl_],rfl⟩
 | d::l=>by
   simp only[fl_]
   split
   · exact⟨c,by simp,rfl⟩
   · split
     · rename_i h;exact⟨d,by simp,((cmp_zero c d).1 h).symm⟩
     · obtain⟨z,hz,e⟩:=ob_ (c:=c) (l:=l)
       exact⟨z,List.mem_cons_of_mem _ hz,e⟩
theorem nZ_ {c:Con}:∀ {l:List Con},SrC l→SrC (fl_ c l)
 | [],_=>by simp[SrC,fl_]
 | d::l,h=>by
   unfold SrC at h
   rw[List.pairwise_cons]at h
   simp only[fl_]
   split
   · rename_i h1
     unfold SrC
     rw[List.pairwise_cons,List.pairwise_cons]
     refine⟨fun z hz=>?_,h⟩
     rcases List.mem_cons.1 hz with rfl|hz
     · exact h1
     · exact cmp_lt h1 (h.1 z hz)
   · split
     · unfold SrC;rw[List.pairwise_cons];exact h
     · rename_i h1 h2
       unfold SrC
       rw[List.pairwise_cons]
       refine⟨fun z hz=>?_,nZ_ (l:=l) h.2⟩
       rcases kr_ hz with rfl|hz
       · have:=cmp_anti d z;omega
       · exact h.1 z hz
theorem hP_:∀ (l s:List Con),SrC s→SrC (l.foldl (fun s c=>fl_ c s) s)∧(∀ z∈l.foldl (fun s c=>fl_ c s) s,z∈s∨z∈l)∧(∀ z,z∈s∨z∈l→∃ t∈l.foldl (fun s c=>fl_ c s) s,t.core=z.core)
 | [],s,h=>⟨h,fun z hz=>.inl hz,fun z hz=>⟨z,hz.elim id (fun q=>by simp at q),rfl⟩⟩
 | x::l,s,h=>by
   obtain⟨h1,h2,h3⟩:=hP_ l (fl_ x s) (nZ_ h)
   refine⟨h1,fun z hz=>?_,fun z hz=>?_⟩
   · rcases h2 z hz with q|q
     · exact (kr_ q).elim (fun e=>.inr (by simp[e])) .inl
     · exact .inr (List.mem_cons_of_mem _ q)
   · rcases hz with hz|hz
     · exact h3 z (.inl (oa_ hz))
     · rcases List.mem_cons.1 hz with rfl|hz
       · obtain⟨t,ht,e⟩:=ob_ (c:=z) (l:=s)
         obtain⟨u,hu,e2⟩:=h3 t (.inl ht)
         exact⟨u,hu,e2.trans e⟩
       · exact h3 z (.inr hz)
theorem so_ (l:List Con):SrC (srtC l):=(hP_ l [] List.Pairwise.nil).1
theorem sn_ {l:List Con} {z:Con} (h:z∈srtC l):z∈l:=((hP_ l [] List.Pairwise.nil).2.1 z h).elim (fun q=>by simp at q) id
theorem sp_ (l:List Con) (z:Con):z∈(srtC l).map core↔z∈l.map core:=by
 constructor
 ·intro h
  obtain⟨t,ht,rfl⟩:=List.mem_map.1 h
  exact List.mem_map_of_mem (sn_ ht)
 intro h
 obtain⟨t,ht,rfl⟩:=List.mem_map.1 h
 obtain⟨u,hu,e⟩:=(hP_ l [] List.Pairwise.nil).2.2 t (.inr ht)
 exact List.mem_map.2 ⟨u,hu,e⟩
theorem srtC_uniq {l m:List Con} (h:SrC m) (hm:∀ z,z∈m.map core↔z∈l.map core):m.map core=(srtC l).map core:=SrC.ext h (so_ l) fun z=>(hm z).trans (sp_ l z).symm
def flat1 (c:Con):List Con:=if c.kind=1 then [] else if c.kind=5 then c.parts else [c]
def zeroC:Con:=mk 0 [] 0 0 none 0 []
def meetF (s:List Con):Con×Int :=
  match s.find? fun c=>decide (c.kind=2) with
  | some b=>(b,0)
  | none =>
    match s with
    | []=>(mk 1 [] 0 0 none 0 [],0)
    | [x]=>(x,0)
    | _=>if 8<s.length then (zeroC,2) else (mk 5 [] 0 0 none 0 s,0)
def erF:List (Con×Int)→Int
  | []=>0
  | z::l=>if z.2≠0 then z.2 else erF l
def tdy:Con→Con×Int
  | mk k n lo hi a cp ps =>
    if k=6 then (match tdys ps with
      | z::_=>if z.2≠0∨z.1.kind=2 then z else (mk 6 n 0 0 none 0 [z.1],0)
      | []=>(zeroC,0))
    else if k=5 then (if erF (tdys ps)≠0 then (zeroC,erF (tdys ps)) else meetF (srtC ((tdys ps).flatMap fun z=>flat1 z.1)))
    else (mk k n lo hi a cp ps,0)
where tdys:List Con→List (Con×Int)
  | []=>[]
  | p::ps=>tdy p::tdys ps
theorem tdys_map:∀ ps:List Con,tdy.tdys ps=ps.map tdy
  | []=>rfl
  | p::ps=>by rw[tdy.tdys,tdys_map ps];rfl
theorem oG_ (c : Con) : c.tdy = if c.kind = 6 then (match c.parts.map tdy with
      | z::_=>if z.2≠0∨z.1.kind=2 then z else (mk 6 c.name 0 0 none 0 [z.1],0)
      | []=>(zeroC,0))
    else if c.kind=5 then (if erF (c.parts.map tdy)≠0 then (zeroC,erF (c.parts.map tdy)) else meetF (srtC ((c.parts.map tdy).flatMap fun z=>flat1 z.1)))
    else (c,0):=by
  cases c
  rw[tdy,tdys_map]
  rfl
theorem tdy_some {c p:Con} (hk:c.kind=6) (hp:c.parts=[p]):c.tdy=if p.tdy.2≠0∨p.tdy.1.kind=2 then p.tdy else (mk 6 c.name 0 0 none 0 [p.tdy.1],0):=by
  rw[oG_,if_pos hk,hp];rfl
theorem tdy_and {c:Con} (hk:c.kind=5):c.tdy=if erF (c.parts.map tdy)≠0 then (zeroC,erF (c.parts.map tdy)) else meetF (srtC ((c.parts.map tdy).flatMap fun z=>flat1 z.1)):=by
  rw[oG_,if_neg (by omega),if_pos hk]
theorem tdy_self {c:Con} (h5:c.kind≠5) (h6:c.kind≠6):c.tdy=(c,0):=by rw[oG_,if_neg h6,if_neg h5]
theorem qj_ (c:Con):∀ l:List Con,sz.szs (fl_ c l)≤c.sz+sz.szs l
 | []=>by simp[fl_,sz.szs]
 | d::l=>by
   simp only[fl_]
   split
   · simp[sz.szs]
   · split
     · simp only[sz.szs];omega
     · have:=qj_ c l;simp only[sz.szs];omega
theorem pL_:∀ xs ys:List Con,sz.szs (xs++ys)=sz.szs xs+sz.szs ys
  | [],ys=>by simp[sz.szs]
  | x::xs,ys=>by rw[List.cons_append,sz.szs,sz.szs,pL_ xs ys];omega
theorem uj_ (l:List Con):sz.szs (srtC l)≤sz.szs l:=by
  have key:∀ (l s:List Con),sz.szs (l.foldl (fun s c=>fl_ c s) s)≤sz.szs s+sz.szs l:=by
    intro l
    induction l with
    | nil=>intro s;simp[sz.szs]
    | cons x l ih =>
      intro s
      have h1:=ih (fl_ x s)
      have h2:=qj_ x s
      rw[List.foldl_cons,sz.szs]
      omega
  have:=key l []
  simp only[sz.szs]at this
  unfold srtC
  omega
theorem to_ (c:Con):sz.szs (flat1 c)≤c.sz:=by
 unfold flat1
 split
 ·simp[sz.szs]
 split
 ·rw[sz_eq];omega
 simp[sz.szs]
theorem sP_ {s:List Con} (h:(meetF s).2=0):(meetF s).1.sz≤1+sz.szs s:=by
 unfold meetF at h ⊢
 split
 ·rename_i b hb
  have:=sz_mem (List.mem_of_find?_eq_some hb)
  dsimp only;omega
 rename_i hb
 rw[hb]at h
 dsimp only at h
 split
 ·simp[sz,sz.szs]
 ·simp[sz.szs]
 split
 ·rename_i h1;simp[sz,sz.szs,zeroC]
 simp only[sz];omega
theorem jF_:zeroC.sz=1:=rfl
mutual
theorem tdy_sz:∀ c:Con,c.tdy.1.sz≤c.sz
  | mk k n lo hi a cp ps=>by
    have hs:=tdys_sz ps
    rw[tdy]
    split
    · cases ps with
      | nil=>rw[tdy.tdys];dsimp only;rw[jF_];simp[sz]
      | cons p ps =>
        rw[tdy.tdys]
        dsimp only
        have h1:=tdy_sz p
        split
        · simp only[sz,sz.szs];omega
        · simp only[sz,sz.szs];omega
    · split
      · split
        · dsimp only;rw[jF_];simp[sz]
        · have h1:=uj_ ((tdy.tdys ps).flatMap fun z=>flat1 z.1)
          by_cases h2:(meetF (srtC ((tdy.tdys ps).flatMap fun z=>flat1 z.1))).2=0
          · have:=sP_ h2
            simp only[sz];omega
          · have:(meetF (srtC ((tdy.tdys ps).flatMap fun z=>flat1 z.1))).1=zeroC:=by
              unfold meetF at h2 ⊢
              split
              · rename_i b hb;rw[hb]at h2;simp at h2
              · rename_i hb
                rw[hb]at h2
                dsimp only at h2 ⊢
                split
                · rename_i e;rw[e]at h2;simp at h2
                · rename_i e;rw[e]at h2;simp at h2
                · split
                  · rfl
                  · rename_i h3;rw[if_neg h3]at h2;simp at h2
            rw[this,jF_];simp[sz]
      · exact Nat.le_refl _
theorem tdys_sz:∀ ps:List Con,sz.szs ((tdy.tdys ps).flatMap fun z=>flat1 z.1)≤sz.szs ps
  | []=>by simp[tdy.tdys,sz.szs]
  | p::ps=>by
    rw[tdy.tdys,List.flatMap_cons,pL_]
    have h1:=tdy_sz p
    have h2:=tdys_sz ps
    have h3:=to_ (tdy p).1
    simp only[sz.szs];omega
end
end Con
def Ax.tdyE (x:Ax):Int :=
  if x.check≠0 then x.check
  else if (us x.kind).left=true∧x.left.tdy.2≠0 then x.left.tdy.2
  else if (us x.kind).right=true∧x.right.tdy.2≠0 then x.right.tdy.2
  else 0
def Ax.tdyL (x:Ax):Con:=if (us x.kind).left=true then x.left.tdy.1 else x.left
def Ax.tdyR (x:Ax):Con:=if (us x.kind).right=true then x.right.tdy.1 else x.right
def Ax.swp (x:Ax):Prop:=(x.kind=2∨x.kind=3)∧0<Con.cmp x.tdyL x.tdyR
instance (x:Ax):Decidable x.swp:=by unfold Ax.swp;infer_instance
structure TdyOf (x y:Ax):Prop where
  kind:y.kind=x.kind
  opn:y.opn=x.opn
  roles:y.roles=x.roles
  role:y.role=x.role
  a:y.a=x.a
  b:y.b=x.b
  left:y.left.core=if x.swp then x.tdyR.core else x.tdyL.core
  right:y.right.core=if x.swp then x.tdyL.core else x.tdyR.core
theorem TdyOf.alk {x y z:Ax} (h:TdyOf x y) (k:TdyOf x z):y.alk z :=
  ⟨h.kind.trans k.kind.symm,h.left.trans k.left.symm,h.right.trans k.right.symm,h.roles.trans k.roles.symm,h.role.trans k.role.symm,h.a.trans k.a.symm,h.b.trans k.b.symm⟩
end Go.Vs
namespace Go.Proofs.YtamklbgaipakfaaGreatDoor
open Go Go.Sx Go.Proofs
attribute [local irreducible] Code.wp wpList wpAnyH
open Go.Vs
theorem nH_ (l:List Ax) (ad:Option Addr) (cap:Nat) (hcap:l.length≤cap∧cap≤2199023255488) (hok:∀ x∈l,x.ok) {p:List Pc} {er:Int} (e:ad_ l=(p,er)) :
    Tri Tryz.prog 27 #[.slice ad l.length cap] [] [aR_ ad l,bn_] (fun y:{y:Option Addr×Nat // p.length≤y.2∧y.2≤maxLen∧(y.1=none→y.2=0)}=>.tuple #[.slice y.1.1 p.length y.1.2,.int .i64 er]) (fun _=>[]) (fun y=>[ac_ y.1.1 (p.flatMap Pc.cells)]):=by
  have h:=sG_ l ad cap hcap hok
  generalize ad_ l=g at h e
  subst e
  exact h
theorem re_ {l:List Ax} {p:List Pc} {er:Int} {S:List Str} (h:er≠0):hu_ l p er S=([],er):=if_pos h
theorem oP_ {l:List Ax} {p:List Pc} {er:Int} {S:List Str} (h:¬ er≠0) (h2:dE_ S=false):hu_ l p er S=([],1):=by unfold hu_;rw[if_neg h,if_pos h2]
theorem rd_ {l:List Ax} {p:List Pc} {er:Int} {S:List Str} (h:¬ er≠0) (h2:dE_ S=true):hu_ l p er S=(di_ l p S l.length,0):=by unfold hu_;rw[if_neg h,if_neg (by rw[h2];simp)]
theorem qo_ {er:Int} (h:er=0):¬ er≠0:=fun q=>q h
theorem qB_ (ls:List Ax) (lad:Option Addr) (lcap:Nat) (hcap:ls.length≤lcap∧lcap≤2199023255488) (hok:∀ x∈ls,x.ok) (hll:ls.length≤100000000) (S:List Str) (sad:Option Addr) (scap:Nat) (hS:S.length≤100000000) (hSl:∀ s∈S,s.length≤100000) (p:List Pc) (er:Int) (hPL:ad_ ls=(p,er)) (hp:p.length≤100000000) (R:List Int) (e:Int) (hR:hu_ ls p er S=(R,e)):Tri Tryz.prog 11 #[.slice lad (List.length ls) lcap,.slice sad (List.length S) scap] [] [aR_ lad ls,bn_,ac_ sad (List.flatMap aJ_ S)] (fun y:{y:Option Addr×Nat // R.length≤y.2∧y.2≤maxLen∧(y.1=none→y.2=0)}=>.tuple #[.slice y.1.1 R.length y.1.2,.int .i64 e]) (fun _=>[]) (fun y=>[ac_ y.1.1 (R.flatMap ct_)]):=by
 refine j_ Tryz.func11 rfl rfl Tryz.ntmps11 rfl fun v0=>?_
 refine Zz 9 ?_
 refine d_ (nH_ ls lad lcap hcap hok hPL) rfl e_ zf rfl fun⟨⟨ad,cap⟩,hpc1,hpc2,hpc3⟩=>?_
 dsimp only
 refine Zi 11 (fun hr1=>?_) fun hr1=>?_
 ·refine Zz 9 ?_
  refine af_ (pJ_ S sad scap hSl) rfl e_ zf rfl fun r2 hr2=>c_ (aG_ rfl) rfl (Zz 2 ?_)
  cases r2
  ·refine Zz 8 ?_
   have e0:=hR.symm.trans (oP_ (qo_ hr1) hr2)
   obtain⟨rfl,rfl⟩:=Prod.mk.inj e0
   exact fr_ Tryz.results11 ⟨(none,0),by simp[maxLen]⟩ rfl rfl rfl e_ (fun v _ h=>by exact⟨.inl rfl,trivial⟩)
  refine Zz 8 ?_
  refine d_ (ly_ ls lad lcap p ad cap S sad scap) rfl e_ zt rfl fun⟨bp,bs,bl⟩=>?_
  dsimp only
  refine d_ (pw_ ls lad lcap p ad cap S sad scap bp bs bl hp hS hll) rfl e_ zf rfl fun⟨⟨qad,qcap⟩,hq1,hq2,hq3⟩=>?_
  dsimp only
  refine Zz 5 ?_
  have e0:=hR.symm.trans (rd_ (qo_ hr1) hr2)
  obtain⟨rfl,rfl⟩:=Prod.mk.inj e0
  exact fr_ Tryz.results11 ⟨(qad,qcap),⟨hq1,hq2,hq3⟩⟩ rfl rfl rfl e_ zf
 refine Zz 11 ?_
 have e0:=hR.symm.trans (re_ hr1)
 obtain⟨rfl,rfl⟩:=Prod.mk.inj e0
 exact fr_ Tryz.results11 ⟨(none,0),by simp[maxLen]⟩ rfl rfl rfl e_ (fun v _ h=>by exact⟨.inl rfl,trivial⟩)
end Go.Proofs.YtamklbgaipakfaaGreatDoor
namespace Go.Proofs.YtamklbgaipakfaaGreatDoor
open Go Go.Sx Go.Proofs
attribute [local irreducible] Code.wp wpList wpAnyH
open Go.Vs
theorem oI_:iT_ Tryz.prog 37 [(0,1)] [.slice none 0 0]:=⟨_,cQ_,bd_,fun w=>by simp[fy_]⟩
theorem tv_:Elt Tryz.prog 22 48 16 216:=fo_ Tryz.underlying22 (z:=.agg #[.int .i64 0,.bool false,.int .i64 0,str [],.int .i64 0,.int .i64 0,.slice none 0 0,.int .i64 0,str [],.int .i64 0,.int .i64 0,.slice none 0 0,.slice none 0 0,str [],str [],str []]) (by kernel_rfl) rfl (by decide)
theorem Ax.cells_one (x:Ax):x.cells.all Value.oneCell'=true:=by simp[Ax.cells,Con.cells,Value.oneCell',str]
theorem sJ_ (ls:List Ax) (lad:Option Addr) (lcap:Nat) (p:List Pc) (ad:Option Addr) (cap:Nat) (S:List Str) (sad:Option Addr) (scap:Nat) (hp:p.length≤100000000) (hS:S.length≤100000000) (hll:ls.length≤100000000):Tri Tryz.prog 46 #[.slice lad (List.length ls) lcap,.slice ad (List.length p) cap,.slice sad (List.length S) scap] [] [ac_ ad (List.flatMap Pc.cells p),ac_ sad (List.flatMap aJ_ S),aR_ lad ls] (fun y:{y:Value×Hp×List Int // ar_ 48 16 y.1 (cV_ ls y.2.2).length ((cV_ ls y.2.2).flatMap Ax.cells) y.2.1∧y.2.2=(di_ ls p S (List.length ls))}=>.agg #[y.1.1]) (fun y=>y.1.2.1) (fun _=>[]):=by
 refine ec_ Tryz.func46 rfl rfl Tryz.ntmps46 rfl fun v0=>?_
 refine at_ ?_
 refine X_ ?_
 refine N_ rfl rfl fun b1=>?_
 refine G_ cQ_ rfl fun b2=>?_
 refine ap_ ?_
 refine ab_ rfl ?_
 refine at_ ?_
 refine at_ ?_
 refine X_ ?_
 refine c_ (aO_ 1 jn_ rfl rfl rfl) rfl ?_
 refine c_ (H_ rfl) rfl ?_
 refine c_ (H_ rfl) rfl ?_
 refine d_ (ly_ ls lad lcap p ad cap S sad scap) rfl e_ zt rfl fun⟨bp,bs,bl⟩=>?_
 dsimp only
 refine ap_ ?_
 refine ab_ rfl ?_
 refine dr_ ?_
 refine eD_ (bj_ b1 (.cells #[.slice lad (List.length ls) lcap] 22 (0,0))) (bO_ (l_ i_)) (fun _ h1 h2 _=>⟨h1,h2⟩) ?_
 refine bp_ [(3,zp_ b1 0),(6,zp_ b2 0),(11,.func (.func 80) #[] #[zp_ bp 0,zp_ bs 0,zp_ bl 0])] zl ?_
 refine gx_ [bj_ b1 (.cells #[.slice lad (List.length ls) lcap] 22 (0,0)),aR_ lad ls] (σ:={y:Value×Hp×List Int // ar_ 48 16 y.1 (cV_ ls y.2.2).length ((cV_ ls y.2.2).flatMap Ax.cells) y.2.1∧(cV_ ls y.2.2).length=y.2.2.length}) (α:=Int) (xv:=fun x=>.int .i64 x) (good:=fun s x=>s.1.2.2.length<100000000∧0≤x∧x<(List.length ls:Int)) (nx:=fun x s s'=>s'.1.2.2=s.1.2.2++[x]) (Rc:=fun s=>s.1.2.2=(di_ ls p S (List.length ls))) (Γi:=[bj_ bp (.cells #[.slice ad (List.length p) cap] 54 (0,0)),bj_ bs (.cells #[.slice sad (List.length S) scap] 23 (0,0)),bj_ bl (.cells #[.slice lad (List.length ls) lcap] 22 (0,0)),ac_ ad (List.flatMap Pc.cells p),ac_ sad (List.flatMap aJ_ S),aR_ lad ls,bj_ b1 (.cells #[.slice lad (List.length ls) lcap] 22 (0,0)),aR_ lad ls]) (Hj:=fun y=>(b2,.cells #[y.1.1] 37 (0,0))::y.1.2.1) (Hc:=[]) (caps:=[zp_ bp 0,zp_ bs 0,zp_ bl 0]) ⟨(.slice none 0 0,[],[]),ar_.nil _ _,rfl⟩ rfl (.refl _) zf ?_ ?_ ?_
 ·rintro l D rec hpa hst hpe ht hasg hbody ⟨⟨sv,Hq,L⟩,hr,hrl⟩ x ⟨hx1,hx2,hx3⟩
  dsimp only at hr hrl hx1 ⊢
  obtain⟨a1,ha1⟩:∃ a1,ls[x.toNat]? = some a1:=⟨_,List.getElem?_eq_getElem (by omega)⟩
  refine gm_ (ι:=Unit) (Hj:=fun y:{y:Value×Hp×List Int // ar_ 48 16 y.1 (cV_ ls y.2.2).length ((cV_ ls y.2.2).flatMap Ax.cells) y.2.1∧(cV_ ls y.2.2).length=y.2.2.length}=>(b2,.cells #[y.1.1] 37 (0,0))::y.1.2.1) (s:=⟨(sv,Hq,L),hr,hrl⟩) (ok:=fun s'=>s'.1.2.2=L++[x]) (Γ:=[bj_ b1 (.cells #[.slice lad (List.length ls) lcap] 22 (0,0)),aR_ lad ls]) (fun _=>[(3,zp_ b1 0),(6,zp_ b2 0),(7,.int .i64 x)]) (fun _=>(b2,.cells #[sv] 37 (0,0))::Hq) hpa hst hpe ht rfl ?_ ?_
  ·intro n v0 H0 HL
   rw[hasg]
   dsimp only
   refine cT_.2 (u_ (H':=(b2,.cells #[sv] 37 (0,0))::(Hq++HL)) (by simp) (cT_.1 ?_))
   refine aM_ ?_
   refine Z_ (bc_ _) (aq_ rfl) rfl rfl ?_
   refine bz_ ?_
   refine ci_ rfl ?_
   exact cy_ () zl (F:=[]) (by rw[List.append_nil];exact .refl _) zh
  intro n v0 H0 HL _
  rw[hbody]
  refine cT_.2 (u_ (H':=(b2,.cells #[sv] 37 (0,0))::(Hq++HL)) (by simp) (cT_.1 ?_))
  refine fb_ ?_
  refine oM_ (HL) zk rfl rfl kQ_ ?_
  refine Q_ 5 [0,2,3,4,5] zk zs ?_
  refine P_ rfl (dq_ bd_ rfl rfl rfl fy_) rfl ?_
  refine P_ rfl (bN_ jn_ rfl zf rfl) rfl ?_
  refine P_ rfl (H_ rfl) rfl ?_
  refine P_ rfl (C_ s_ f_ rfl rfl (fun v _ h=>q_ (n:=16) Ax.cells_len (by decide) (by exact h.2.1.1) ha1) (by omega) (by first|omega|(simp;done))) rfl ?_
  refine P_ rfl (L_ (ad:=lad) (us:=Ax.cells a1) K_ f_ rfl (fun v _ h=>by exact h.2.1.1) (Ax.cells_len _) (o_ Ax.cells_len ha1)) rfl ?_
  refine ba_ ?_
  refine jD_ 1 6 rfl rfl zk ?_ ?_
  ·refine c_ (aO_ 0 jn_ rfl rfl rfl) rfl ?_
   refine ap_ ?_
   refine bU_ rfl ?_
   refine S_ zs ?_
   refine p_ 6 rfl zk ?_
   refine B_ s_ f_ av_ rfl rfl rfl rfl rfl rfl fun b3=>?_
   refine ap_ ?_
   refine bU_ rfl ?_
   refine S_ (fun _ a b=>⟨Vw.sat.sub (a.perm (l_ (l_ br_))),b⟩) ?_
   refine p_ 7 rfl zk ?_
   refine aX_ (news:=List.flatMap Ax.cells [a1]) tv_ hr rfl rfl zp rfl (bC_ 0 rfl) (fun u hu=>bY_ Ax.cells_one hu) (by simp only[maxLen];((try simp only[List.length_append,List.length_cons,List.length_nil]);omega)) (by ((try simp only[List.length_append,List.length_cons,List.length_nil]);omega)) rfl fun sv1 Hr1 hr1=>?_
   have hq1:=zsa hr1
   refine ap_ ?_
   refine bU_ rfl ?_
   refine S_ zs ?_
   refine Q_ 1 [8] zk zs ?_
   refine P_ rfl (dq_ bd_ rfl rfl rfl fy_) rfl ?_
   refine ba_ ?_
   refine p_ 9 rfl zk ?_
   refine u_ (bm_ (an_ i_) (bO_ (an_ i_))) ?_
   refine cs_ 1 hq1 fy_ rfl rfl rfl rfl ?_
   refine ap_ ?_
   refine bU_ rfl ?_
   refine S_ (fun _ a b=>⟨Vw.sat.sub (a.perm (l_ (l_ br_))),b⟩) ?_
   refine is_ zk ?_
   refine jz_ rfl ?_
   exact cT_.1 (fS_ ⟨(sv1,Hr1,L++[x]),by rw[ev_ ha1];exact hq1,by rw[ev_ ha1,List.length_append,List.length_append,hrl];rfl⟩ rfl (mj_ (V_ (l_ i_) (bi_ (l_ aI_) (bi_ au_ i_)))))
  refine B_ s_ f_ av_ rfl rfl rfl rfl rfl rfl fun b4=>?_
  refine ap_ ?_
  refine bU_ rfl ?_
  refine S_ (fun _ a b=>⟨Vw.sat.sub (a.perm (l_ (l_ br_))),b⟩) ?_
  refine p_ 1 rfl zk ?_
  refine c_ (aO_ 1 jn_ rfl rfl rfl) rfl ?_
  refine ap_ ?_
  refine bU_ rfl ?_
  refine S_ (fun _ a b=>⟨Vw.sat.sub (a.perm (l_ (l_ br_))),b⟩) ?_
  refine p_ 7 rfl zk ?_
  refine aX_ (news:=List.flatMap Ax.cells [a1]) tv_ hr rfl rfl zp rfl (bC_ 0 rfl) (fun u hu=>bY_ Ax.cells_one hu) (by simp only[maxLen];((try simp only[List.length_append,List.length_cons,List.length_nil]);omega)) (by ((try simp only[List.length_append,List.length_cons,List.length_nil]);omega)) rfl fun sv2 Hr2 hr2=>?_
  have hq2:=zsa hr2
  refine ap_ ?_
  refine bU_ rfl ?_
  refine S_ zs ?_
  refine Q_ 1 [8] zk zs ?_
  refine P_ rfl (dq_ bd_ rfl rfl rfl fy_) rfl ?_
  refine ba_ ?_
  refine p_ 9 rfl zk ?_
  refine u_ (bm_ (an_ i_) (bO_ (an_ i_))) ?_
  refine cs_ 1 hq2 fy_ rfl rfl rfl rfl ?_
  refine ap_ ?_
  refine bU_ rfl ?_
  refine S_ (fun _ a b=>⟨Vw.sat.sub (a.perm (l_ (l_ br_))),b⟩) ?_
  refine is_ zk ?_
  refine jz_ rfl ?_
  exact cT_.1 (fS_ ⟨(sv2,Hr2,L++[x]),by rw[ev_ ha1];exact hq2,by rw[ev_ ha1,List.length_append,List.length_append,hrl];rfl⟩ rfl (mj_ (V_ (l_ i_) (bi_ (l_ aI_) (bi_ au_ i_)))))
 ·intro l Gj hY
  exact sS_ (lst:=fun y=>y.1.2.2) ls lad lcap p ad cap S sad scap bp bs bl (bj_ b1 (.cells #[.slice lad (List.length ls) lcap] 22 (0,0))) (aR_ lad ls) (fun s x h=>hY s x h) ⟨(.slice none 0 0,[],[]),ar_.nil _ _,rfl⟩ rfl hp hS hll
 rintro ⟨⟨sv,Hq,L⟩,hr,hrl⟩ hL D l r
 dsimp only at hL hr hrl ⊢
 refine cz_ rfl ?_
 refine eG_ ?_
 refine aM_ ?_
 refine Z_ J_ (bs_ 0 gE_ bl_ rfl rfl rfl) rfl rfl ?_
 refine dQ_ J_ 0 bl_ rfl rfl rfl rfl rfl (by have q:=(db_ hr).2;simp only[Value.cells,List.all_cons,List.all_nil,q,Bool.and_true]) ?_
 refine bz_ ?_
 refine cz_ rfl ?_
 refine fz_ ?_
 exact ln_ (G:=(b2,.cells #[sv] 37 (0,0))::(Hq++[(l,.loop r)])) ⟨(sv,Hq,L),hr,hL⟩ (fun a v h1 h2=>dT_ (us:=[sv]) 0 Tryz.results46 gE_ bl_ rfl rfl rfl a v h1 h2) (by unfold HLp;simp only[List.cons_append,List.append_assoc,List.nil_append];exact pX_) ⟨_,vc_⟩ rfl
end Go.Proofs.YtamklbgaipakfaaGreatDoor
namespace Go.Proofs.YtamklbgaipakfaaGreatDoor
open Go Go.Sx Go.Proofs
attribute [local irreducible] Code.wp wpList wpAnyH
open Go.Vs
theorem uf_:iT_ Tryz.prog 223 [(0,5),(5,1),(6,1)] [.int .i64 0,str [],.int .i64 0,.int .i64 0,.slice none 0 0,.int .i64 0,.slice none 0 0]:=⟨_,bZ_,cf_,fun w=>by simp[U_,g_,Tryz.sizeOf221]⟩
theorem mJ_:Elt Tryz.prog 221 223 7 96:=fo_ Tryz.underlying221 (z:=.agg #[.int .i64 0,str [],.int .i64 0,.int .i64 0,.slice none 0 0,.int .i64 0,.slice none 0 0]) (by kernel_rfl) rfl (by decide)
theorem Tre.cells_one (t:Tre):t.cells.all Value.oneCell'=true:=Go.Vs.Tre.cells_one t
theorem mC_:∀ (m:Nat) (c:Con),c.sz≤m→c.sz≤1000000→Tri Tryz.prog 179 #[Con.val c] [] [Con.memF c] (fun y:{t:Tre // t.con=c∧t.wf}=>y.1.val) (fun _=>[]) (fun y=>[y.1.memF]):=by
 intro m
 induction m with
 | zero=>intro c h;have:=Con.sz_pos c;omega
 | succ m ih =>
   intro c h hz
   refine j_ Tryz.func179 rfl rfl Tryz.ntmps179 rfl fun v0=>?_
   refine Zz 2 ?_
   refine N_ rfl rfl fun b1=>G_ bZ_ rfl fun b2=>Zz 5 ?_
   refine c_ (A_ uf_ rfl rfl) rfl (n_ 0 aa_ rfl rfl rfl rfl rfl rfl (Zz 12 ?_))
   have hG0:True:=trivial
   refine Y_ (ι:={y:Nat×List Tre×Int×Value×Hp // y.1≤List.length (Con.parts c)∧List.map Tre.con y.2.1=List.take y.1 (Con.parts c)∧y.2.2.1=((1+Con.sz.szs (List.take y.1 (Con.parts c)):Nat):Int)∧(∀ t∈y.2.1,t.wf)∧zR 223 7 Tre.cells y.2.2.2.1 y.2.1 y.2.2.2.2}) (fun y=>[(2,zp_ b2 0),(9,.slice (Con.ad c) (List.length (Con.parts c)) (Con.cap c)),(10,.int .i64 (List.length (Con.parts c):Int)),(11,.int .i64 (y.1.1:Int))]) (fun y=>((b2,.cells #[.int .i64 (Con.kind c),str (Con.name c),.int .i64 (Con.lo c),.int .i64 (Con.hi c),.slice (Con.ad c) (List.length (Con.parts c)) (Con.cap c),.int .i64 y.1.2.2.1,y.1.2.2.2.1] 223 (0,0))::y.1.2.2.2.2)) (fun y=>[cu_ y.1.2.1,Con.memF c]) (fun y=>List.length (Con.parts c) - y.1.1) ⟨((0:Nat),([]:List Tre),1,(.slice none 0 0),[]),by simp,by simp,(by simp[Con.sz.szs]),by simp,(ar_.nil _ _)⟩ zl i_ (fun v _ h=>by exact⟨(show (cu_ ([]:List Tre)).p v from fun t ht=>by simp at ht),h.1,trivial⟩) ?_
   rintro ⟨⟨i,ts,zz,sv_T,H_T⟩,hi_i,hts,hzz,hwf,hr_T⟩
   dsimp only at hi_i hts hzz hwf hr_T ⊢
   have hzb:=szs_take_le (l:=Con.parts c) i
   have hzc:=Con.sz_eq c
   have hpl:=Con.parts_lt c
   refine Zi 2 (fun hr1=>?_) fun hr1=>?_
   · skip
     refine Zz 9 ?_
     refine n_ 0 aa_ rfl rfl rfl rfl rfl (by have q:=(db_ hr_T).2;simp only[Value.cells,List.all_cons,List.all_nil,q,Bool.and_true];rfl) ?_
     refine Zz 3 ?_
     refine bu_ hr_T au_ fun tad tcap htad hctad hmtad hztad=>?_
     subst htad
     have hti:List.take i (Con.parts c)=Con.parts c:=List.take_of_length_le (by omega)
     rw[hti]at hts hzz
     exact cr_ ⟨Tre.mk c zz tad tcap ts,rfl,(Tre.wf_iff _).2 ⟨by dsimp only[Tre.size,Tre.con];rw[hzz,Con.sz_eq],hts.symm,hwf⟩⟩ (fun aa v h1 h2=>dT_ (us:=Tre.cells (Tre.mk c zz tad tcap ts)) 0 Tryz.results179 cX_ aa_ rfl rfl rfl aa v h1 h2) e_ (fun v _ h=>by exact⟨(Tre.mem_iff _ v).2 ⟨h.2.2.1,h.1,h.2.1⟩,trivial⟩)
   · skip
     obtain⟨hlx1,x1,hx1,hmx1⟩:=zge (show i<List.length (Con.parts c) by omega)
     refine Zz 10 ?_
     refine c_ (C_ D_ g_ rfl rfl (fun v _ h=>q_ (n:=5) Con.cells_len (by decide) (by exact ((Con.mem_iff c v).1 h.2.1).1) hx1) (by omega) (by first|omega|(simp;done))) rfl ?_
     refine c_ (L_ (ad:=(Con.ad c)) (us:=Con.cells x1) R_ g_ rfl (fun v _ h=>by exact ((Con.mem_iff c v).1 h.2.1).1) (Con.cells_len _) (o_ Con.cells_len hx1)) rfl (G_ aC_ rfl fun b3=>n_ 0 g_ rfl rfl rfl rfl rfl rfl (Zz 5 ?_))
     refine d_ (ih x1 (by have:=Con.sz_part hmx1;omega) (by have:=Con.sz_part hmx1;omega)) rfl e_ (fun v _ h=>by exact⟨(Con.mem_part (c:=c) h.2.1 hmx1),trivial⟩) rfl fun⟨q,hqc,hqw⟩=>?_
     dsimp only
     have hqs:Tre.size q=(Con.sz x1:Int):=by rw[((Tre.wf_iff q).1 hqw).1,hqc]
     have hxs:=Con.sz_part hmx1
     refine G_ bZ_ rfl fun b4=>n_ 0 aa_ rfl rfl rfl rfl rfl rfl (Zz 10 ?_)
     refine n_ 2 U_ rfl rfl rfl rfl rfl rfl (Zz 6 ?_)
     refine B_ M_ aa_ bZ_ rfl rfl rfl rfl rfl rfl fun b5=>?_
     refine aX_ (news:=List.flatMap Tre.cells [q]) mJ_ hr_T rfl rfl (l_ (l_ (l_ au_))) rfl (bC_ 0 rfl) (fun u hu=>bY_ Tre.cells_one hu) (by simp only[maxLen];((try simp only[List.length_append,List.length_cons,List.length_nil]);have:=congrArg List.length hts;rw[List.length_map,List.length_take]at this;have:=Con.parts_lt c;omega)) (by ((try simp only[List.length_append,List.length_cons,List.length_nil]);have:=congrArg List.length hts;rw[List.length_map,List.length_take]at this;have:=Con.parts_lt c;omega)) rfl fun sv1 Hr1 hr1=>?_
     refine u_ List.perm_append_comm ?_
     have hq1:=zsa hr1
     refine Zz 1 ?_
     refine cs_ 3 hq1 Tryz.sizeOf221 rfl rfl rfl rfl (Zz 7 ?_)
     exact z_ ⟨(i+1,(ts++[q]),(zz+Tre.size q),sv1,Hr1),hlx1,(by rw[take_snoc hx1,List.map_append,hts];simp[hqc]),(by show zz+Tre.size q=_;rw[szs_step hx1,hzz,hqs];omega),(fun t ht=>by rcases List.mem_append.1 ht with ht|ht;exact hwf t ht;rw[List.mem_singleton]at ht;subst ht;exact hqw),hq1⟩ (by dsimp only;omega) zl (V_ (l_ (l_ (l_ i_))) (l_ (l_ au_))) (fun v _ h=>by exact⟨hq_ h.2.1 h.1,h.2.2.1,trivial⟩)
end Go.Proofs.YtamklbgaipakfaaGreatDoor
namespace Go.Proofs.YtamklbgaipakfaaGreatDoor
open Go Go.Sx Go.Proofs
attribute [local irreducible] Code.wp wpList wpAnyH
open Go.Vs
theorem rO_ (ts us:List Tre) (ad ae:Option Addr) (cap cpe:Nat) (hts:ts.length≤1000000) (hus:us.length≤1000000) (hC:(∀ t∈ts,∀ u∈us,Tri Tryz.prog 180 #[t.val,u.val] [] [t.memF,u.memF] (fun _:Unit=>.int .i64 (Con.cmp t.con u.con)) (fun _=>[]) (fun _=>[]))):Tri Tryz.prog 237 #[.slice ad (List.length ts) cap,.slice ae (List.length us) cpe,.func (.func 180) #[] #[]] [] [ac_ ad (List.flatMap Tre.cells ts),ac_ ae (List.flatMap Tre.cells us),cu_ ts,cu_ us] (fun _:Unit=>.int .i64 (Con.cmp.cmps (List.map Tre.con ts) (List.map Tre.con us))) (fun _=>[]) (fun _=>[]):=by
 refine j_ Tryz.func237 rfl rfl Tryz.ntmps237 rfl fun v0=>?_
 refine Zz 14 ?_
 refine Y_ (ι:={y:Nat // y≤List.length ts∧Con.cmp.cmps (List.map Tre.con ts) (List.map Tre.con us)=Con.cmp.cmps (List.drop y (List.map Tre.con ts)) (List.drop y (List.map Tre.con us))}) (fun y=>[(0,.slice ad (List.length ts) cap),(1,.slice ae (List.length us) cpe),(2,.func (.func 180) #[] #[]),(6,.int .i64 0),(11,.slice ad (List.length ts) cap),(12,.int .i64 (List.length ts:Int)),(13,.int .i64 (y.1:Int))]) (fun y=>([])) (fun y=>[ac_ ad (List.flatMap Tre.cells ts),ac_ ae (List.flatMap Tre.cells us),cu_ ts,cu_ us]) (fun y=>List.length ts - y.1) ⟨(0:Nat),by simp,rfl⟩ zl e_ zh ?_
 rintro ⟨i,hi_i,hcm⟩
 dsimp only at hi_i hcm ⊢
 refine Zi 2 (fun hr1=>?_) fun hr1=>?_
 ·refine Zi 13 (fun hr2=>?_) fun hr2=>?_
  ·refine Zz 11 ?_
   exact E_ Tryz.results237 () (O_ rfl (by rw[hcm];symm;exact oq_ (by rw[List.length_map];omega) (by rw[List.length_map];omega))) e_ zt
  refine Zz 9 ?_
  exact E_ Tryz.results237 () (O_ rfl (by rw[hcm];symm;exact kA_ (by rw[List.length_map];omega) (by rw[List.length_map];omega))) e_ zt
 obtain⟨hlx1,x1,hx1,hmx1⟩:=zge (show i<List.length ts by omega)
 refine Zz 11 ?_
 refine c_ (C_ M_ aa_ rfl rfl (fun v _ h=>q_ (n:=7) Tre.cells_len (by decide) (by exact h.1) hx1) (by omega) (by first|omega|(simp;done))) rfl ?_
 refine c_ (L_ (ad:=ad) (us:=Tre.cells x1) cX_ aa_ rfl zf (Tre.cells_len _) (o_ Tre.cells_len hx1)) rfl (G_ bZ_ rfl fun b1=>Zz 1 ?_)
 refine n_ 0 aa_ rfl rfl rfl rfl rfl rfl (Zi 8 (fun hr3=>?_) fun hr3=>?_)
 ·have hly1:i<List.length us:=by omega
  obtain⟨y1,hy1⟩:∃ e0,us[i]? = some e0:=⟨_,List.getElem?_eq_getElem hly1⟩
  have hmy1:y1∈us:=List.mem_of_getElem? hy1
  refine Zz 9 ?_
  refine c_ (C_ M_ aa_ rfl rfl (fun v _ h=>q_ (n:=7) Tre.cells_len (by decide) (by exact h.2.1) hy1) (by omega) (by first|omega|(simp;done))) rfl ?_
  refine c_ (L_ (ad:=ae) (us:=Tre.cells y1) cX_ aa_ rfl zf (Tre.cells_len _) (o_ Tre.cells_len hy1)) rfl (G_ bZ_ rfl fun b2=>n_ 0 aa_ rfl rfl rfl rfl rfl rfl (Zz 7 ?_))
  refine ax_ (hC x1 hmx1 y1 hmy1) rfl rfl e_ (fun v _ h=>by exact⟨(h.2.2.1 x1 hmx1),(h.2.2.2.1 y1 hmy1),trivial⟩) rfl fun _=>Zi 6 (fun hr4=>?_) fun hr4=>?_
  ·refine Zz 10 ?_
   exact z_ ⟨i+1,hlx1,(by rw[hcm,mP_ (by rw[List.getElem?_map,hx1];rfl) (by rw[List.getElem?_map,hy1];rfl),if_pos hr4])⟩ (by dsimp only;omega) zl e_ zh
  refine Zz 10 ?_
  exact E_ Tryz.results237 () (O_ rfl (by rw[hcm,mP_ (by rw[List.getElem?_map,hx1];rfl) (by rw[List.getElem?_map,hy1];rfl),if_neg hr4])) e_ zt
 refine Zz 9 ?_
 exact E_ Tryz.results237 () (O_ rfl (by rw[hcm];symm;exact lO_ (by rw[List.length_map];omega) (by rw[List.length_map];omega))) e_ zt
theorem iM_:∀ (m:Nat) (t u:Tre),t.con.sz≤m→t.wf→u.wf→t.con.sz≤1000000→u.con.sz≤1000000→Tri Tryz.prog 180 #[Tre.val t,Tre.val u] [] [Tre.memF t,Tre.memF u] (fun _:Unit=>.int .i64 (Con.cmp t.con u.con)) (fun _=>[]) (fun _=>[]):=by
 intro m
 induction m with
 | zero=>intro t u h;have:=Con.sz_pos t.con;omega
 | succ m ih =>
   intro t u h hwt hwu hz1 hz2
   obtain⟨hs1,hp1,hw1⟩:=(Tre.wf_iff t).1 hwt
   obtain⟨hs2,hp2,hw2⟩:=(Tre.wf_iff u).1 hwu
   have hl1:(Tre.parts t).length≤1000000:=by have q:=congrArg List.length hp1;rw[List.length_map]at q;have:=Con.parts_lt t.con;omega
   have hl2:(Tre.parts u).length≤1000000:=by have q:=congrArg List.length hp2;rw[List.length_map]at q;have:=Con.parts_lt u.con;omega
   refine j_ Tryz.func180 rfl rfl Tryz.ntmps180 rfl fun v0=>?_
   refine Zz 2 ?_
   refine N_ rfl rfl fun b1=>N_ rfl rfl fun b2=>Zz 5 ?_
   refine Q_ 8 [0,1,2,3,5,6,7,8,9,10,12,13,14,15,16,17,19,20,21,22,23,24,26,27,28,29,30,31] zk zs (Zz 29 ?_)
   refine p_ 4 rfl zk (d_ (fI_ (Tre.size t) (Tre.size u)) rfl e_ zt rfl fun _=>Zz 3 ?_)
   refine p_ 11 rfl zk (d_ (fI_ (Con.kind (Tre.con t)) (Con.kind (Tre.con u))) rfl e_ zt rfl fun _=>Zz 3 ?_)
   refine p_ 18 rfl zk (d_ (dc_ (Con.name (Tre.con t)) (Con.name (Tre.con u))) rfl e_ zt rfl fun _=>Zz 3 ?_)
   refine p_ 25 rfl zk (d_ (fI_ (Con.lo (Tre.con t)) (Con.lo (Tre.con u))) rfl e_ zt rfl fun _=>Zz 3 ?_)
   refine p_ 32 rfl zk (d_ (fI_ (Con.hi (Tre.con t)) (Con.hi (Tre.con u))) rfl e_ zt rfl fun _=>Zz 3 ?_)
   refine p_ 33 rfl zk (B_ I_ U_ aU_ rfl rfl rfl rfl rfl rfl fun b3=>?_)
   refine ai_ (List.flatMap ct_ [(Lib.compareInt (Tre.size t) (Tre.size u)),(Lib.compareInt (Con.kind (Tre.con t)) (Con.kind (Tre.con u))),(Lib.compareBytes (Con.name (Tre.con t)) (Con.name (Tre.con u))),(Lib.compareInt (Con.lo (Tre.con t)) (Con.lo (Tre.con u))),(Lib.compareInt (Con.hi (Tre.con t)) (Con.hi (Tre.con u)))]) i_ rfl ?_
   refine Zz 3 ?_
   refine p_ 34 rfl zk (d_ (ls_ [(Lib.compareInt (Tre.size t) (Tre.size u)),(Lib.compareInt (Con.kind (Tre.con t)) (Con.kind (Tre.con u))),(Lib.compareBytes (Con.name (Tre.con t)) (Con.name (Tre.con u))),(Lib.compareInt (Con.lo (Tre.con t)) (Con.lo (Tre.con u))),(Lib.compareInt (Con.hi (Tre.con t)) (Con.hi (Tre.con u)))] (some ⟨b3,0,none⟩) 5 (by simp)) rfl e_ zf rfl fun _=>Zz 3 ?_)
   refine Q_ 0 [35] zk zs (Zi 8 (fun hr1=>?_) fun hr1=>?_)
   · skip
     refine Zz 11 ?_
     refine d_ (rO_ (Tre.parts t) (Tre.parts u) (Tre.ad t) (Tre.ad u) (Tre.cap t) (Tre.cap u) hl1 hl2 (fun x hx y hy=>ih x y (by have:=(Tre.wf_part hwt hx).2;omega) (Tre.wf_part hwt hx).1 (Tre.wf_part hwu hy).1 (by have:=(Tre.wf_part hwt hx).2;omega) (by have:=(Tre.wf_part hwu hy).2;omega))) rfl e_ (fun v _ h=>by exact⟨((Tre.mem_iff t v).1 h.2.1).2.1,((Tre.mem_iff u v).1 h.2.2.1).2.1,((Tre.mem_iff t v).1 h.2.1).2.2,((Tre.mem_iff u v).1 h.2.2.1).2.2,trivial⟩) rfl fun _=>?_
     refine Zz 4 ?_
     exact E_ Tryz.results180 () (O_ rfl (by rw[lR_,← hs1,← hs2,if_pos hr1,hp1,hp2])) e_ zt
   · skip
     refine Zz 10 ?_
     exact E_ Tryz.results180 () (O_ rfl (by rw[lR_,← hs1,← hs2,if_neg hr1])) e_ zt
theorem dA_ (c d:Con) (hz1:c.sz≤1000000) (hz2:d.sz≤1000000):Tri Tryz.prog 95 #[Con.val c,Con.val d] [] [Con.memF c,Con.memF d] (fun _:Unit=>.int .i64 (Con.cmp c d)) (fun _=>[]) (fun _=>[]):=by
  refine j_ Tryz.func95 rfl rfl Tryz.ntmps95 rfl fun v0=>?_
  refine Zz 2 ?_
  refine N_ rfl rfl fun b1=>N_ rfl rfl fun b2=>Zz 5 ?_
  refine Q_ 4 [0,2] zk zs (Zz 3 ?_)
  refine p_ 1 rfl zk (d_ (mC_ _ c (Nat.le_refl _) hz1) rfl e_ zf rfl fun⟨q1,hq1c,hq1w⟩=>?_)
  dsimp only
  refine Zz 3 ?_
  refine p_ 3 rfl zk (d_ (mC_ _ d (Nat.le_refl _) hz2) rfl e_ zf rfl fun⟨q2,hq2c,hq2w⟩=>?_)
  dsimp only
  refine Zz 3 ?_
  refine p_ 4 rfl zk (d_ (iM_ _ q1 q2 (Nat.le_refl _) hq1w hq2w (by rw[hq1c];exact hz1) (by rw[hq2c];exact hz2)) rfl e_ zf rfl fun _=>?_)
  refine Zz 3 ?_
  refine Q_ 0 [5] zk zs (Zz 5 ?_)
  exact E_ Tryz.results95 () (O_ rfl (by rw[hq1c,hq2c])) e_ zt
end Go.Proofs.YtamklbgaipakfaaGreatDoor
namespace Go.Proofs.YtamklbgaipakfaaGreatDoor
open Go Go.Sx Go.Proofs
attribute [local irreducible] Code.wp wpList wpAnyH
open Go.Vs
theorem nb_ {P:Program} {N:Nf} {fr:Fr} {H:Hp} {Γ:List Fct} {t t' ty:TypeId} {x y:Operand} {m n:List UInt8} (hx:Fr.ev fr x=some (str m)) (hy:Fr.ev fr y=some (str n)):Yld P N fr H Γ (.binOp .gtr t x y t') ty (.bool (decide (n<m))) :=
  fun a v h1 _ _ _ _ _=>by
    have e:decide (n<m)=!decide (m≤n):=by rw[Bool.eq_iff_iff];simp[List.not_le]
    rw[e,← uS_];simp[execOp,h1.ev hx,h1.ev hy,str,eqGuard,binOp,Op.stringOp]
theorem mv_ (s:Str):Fn0 Tryz.prog 233 #[str s] (.bool false):=by
  refine j_ Tryz.func233 rfl rfl Tryz.ntmps233 rfl fun v0=>?_
  refine Zz 9 ?_
  refine c_ (aA_ (ea_ rfl rfl) (show _=Value.bool false from congrArg Value.bool (by simp))) rfl (Zz 4 ?_)
  exact E_ Tryz.results233 () rfl e_ zt
theorem rM_ (x y:Str):Fn0 Tryz.prog 183 #[str x,str y] (.int .i64 (Lib.compareBytes x y)):=by
 refine j_ Tryz.func183 rfl rfl Tryz.ntmps183 rfl fun v0=>?_
 refine Zz 8 ?_
 refine d_ (mv_ x) rfl e_ zt rfl fun _=>Zz 6 ?_
 refine d_ (mv_ y) rfl e_ zt rfl fun _=>Zi 26 (fun hr1=>?_) fun hr1=>?_
 ·refine Zz 10 ?_
  refine y_ (nb_ rfl rfl) rfl fun r2 hr2=>Zz 2 ?_
  cases r2
  ·replace hr2:=zdf hr2
   refine Zz 9 ?_
   exact E_ Tryz.results183 () (O_ rfl (by rw[hB_,if_neg hr1,if_neg hr2])) e_ zt
  replace hr2:=zdt hr2
  refine Zz 7 ?_
  exact E_ Tryz.results183 () (O_ rfl (by rw[hB_,if_neg hr1,if_pos hr2])) e_ zt
 refine Zz 9 ?_
 exact E_ Tryz.results183 () (O_ rfl (by rw[hB_,if_pos hr1])) e_ zt
theorem jB_ (lA lB:List Str) (ad ae:Option Addr) (cap cpe:Nat) (hl:lA.length≤140737488351232) (hm:lB.length≤140737488351232):Tri Tryz.prog 99 #[.slice ad (List.length lA) cap,.slice ae (List.length lB) cpe] [] [ac_ ad (List.flatMap aJ_ lA),ac_ ae (List.flatMap aJ_ lB)] (fun _:Unit=>.int .i64 (bQ_ lA lB)) (fun _=>[]) (fun _=>[]):=by
 refine j_ Tryz.func99 rfl rfl Tryz.ntmps99 rfl fun v0=>?_
 refine Zz 14 ?_
 refine Y_ (ι:={y:Nat // y≤List.length lA∧bQ_ lA lB=bQ_ (List.drop y lA) (List.drop y lB)}) (fun y=>[(0,.slice ad (List.length lA) cap),(1,.slice ae (List.length lB) cpe),(4,.int .i64 0),(9,.slice ad (List.length lA) cap),(10,.int .i64 (List.length lA:Int)),(11,.int .i64 (y.1:Int))]) (fun y=>([])) (fun y=>[ac_ ad (List.flatMap aJ_ lA),ac_ ae (List.flatMap aJ_ lB)]) (fun y=>List.length lA - y.1) ⟨(0:Nat),by simp,rfl⟩ zl e_ zh ?_
 rintro ⟨i,hi_i,hcm⟩
 dsimp only at hi_i hcm ⊢
 refine Zi 2 (fun hr1=>?_) fun hr1=>?_
 ·refine Zi 13 (fun hr2=>?_) fun hr2=>?_
  ·refine Zz 11 ?_
   exact E_ Tryz.results99 () (O_ rfl (by rw[hcm];symm;exact or_ (by omega) (by omega))) e_ zt
  refine Zz 9 ?_
  exact E_ Tryz.results99 () (O_ rfl (by rw[hcm];symm;exact kC_ (by omega) (by omega))) e_ zt
 obtain⟨hlx1,x1,hx1,hmx1⟩:=zge (show i<List.length lA by omega)
 refine Zi 23 (fun hr3=>?_) fun hr3=>?_
 ·have hly1:i<List.length lB:=by omega
  obtain⟨y1,hy1⟩:∃ e0,lB[i]? = some e0:=⟨_,List.getElem?_eq_getElem hly1⟩
  have hmy1:y1∈lB:=List.mem_of_getElem? hy1
  refine Zz 18 ?_
  refine d_ (rM_ x1 y1) rfl e_ zt rfl fun _=>Zi 6 (fun hr4=>?_) fun hr4=>?_
  ·refine Zz 10 ?_
   exact z_ ⟨i+1,hlx1,(by rw[hcm,mQ_ hx1 hy1,if_pos hr4])⟩ (by dsimp only;omega) zl e_ zh
  refine Zz 10 ?_
  exact E_ Tryz.results99 () (O_ rfl (by rw[hcm,mQ_ hx1 hy1,if_neg hr4])) e_ zt
 refine Zz 9 ?_
 exact E_ Tryz.results99 () (O_ rfl (by rw[hcm];symm;exact lT_ (by omega) (by omega))) e_ zt
theorem nh_ (x:Ax) (hok:x.ok) (hz1:x.left.sz≤1000000) (hz2:x.right.sz≤1000000):Tri Tryz.prog 98 #[Ax.val x] [] [Ax.memF x] (fun _:Unit=>.int .i64 x.wgt) (fun _=>[]) (fun _=>[]):=by
 refine j_ Tryz.func98 rfl rfl Tryz.ntmps98 rfl fun v0=>?_
 have hrl:=hok.len
 have hrc:=hok.cap
 refine Zz 2 ?_
 refine N_ rfl rfl fun b1=>Zz 10 ?_
 refine B_ D_ g_ aC_ rfl rfl rfl rfl rfl rfl fun b2=>?_
 refine ai_ (List.flatMap Con.cells [(Ax.left x),(Ax.right x)]) i_ rfl ?_
 refine Zz 5 ?_
 refine Y_ (ι:={y:Nat×Int // y.1≤List.length [(Ax.left x),(Ax.right x)]∧y.2=wgL (List.take y.1 [(Ax.left x),(Ax.right x)])}) (fun y=>[(1,zp_ b1 0),(2,.int .i64 y.1.2),(11,.slice (some ⟨b2,0,none⟩) (List.length [(Ax.left x),(Ax.right x)]) 2),(12,.int .i64 2),(13,.int .i64 (y.1.1:Int))]) (fun y=>((b1,.cells #[.int .i64 (Ax.kind x),.bool (Ax.opn x),.int .i64 (Con.kind (Ax.left x)),str (Con.name (Ax.left x)),.int .i64 (Con.lo (Ax.left x)),.int .i64 (Con.hi (Ax.left x)),.slice (Con.ad (Ax.left x)) (List.length (Con.parts (Ax.left x))) (Con.cap (Ax.left x)),.int .i64 (Con.kind (Ax.right x)),str (Con.name (Ax.right x)),.int .i64 (Con.lo (Ax.right x)),.int .i64 (Con.hi (Ax.right x)),.slice (Con.ad (Ax.right x)) (List.length (Con.parts (Ax.right x))) (Con.cap (Ax.right x)),.slice (Ax.ad x) (List.length (Ax.roles x)) (Ax.cap x),str (Ax.role x),str (Ax.a x),str (Ax.b x)] 48 (0,0))::[])) (fun y=>[ac_ (some ⟨b2,0,none⟩) (List.flatMap Con.cells [(Ax.left x),(Ax.right x)]),Ax.memF x]) (fun y=>List.length [(Ax.left x),(Ax.right x)] - y.1.1) ⟨((0:Nat),0),by simp,(by simp[wgL])⟩ zl i_ zh ?_
 rintro ⟨⟨i,zz⟩,hi_i,hzz⟩
 dsimp only at hi_i hzz ⊢
 have hbd:=sc_ (l:=List.take i [(Ax.left x),(Ax.right x)]) (fun c hc=>(gK_ hok hz1 hz2 (List.mem_of_mem_take hc)).2)
 have htl:(List.take i [(Ax.left x),(Ax.right x)]).length≤2:=by rw[List.length_take];exact Nat.min_le_right _ _
 refine Zi 2 (fun hr1=>?_) fun hr1=>?_
 ·refine Zz 12 ?_
  refine c_ (as_ rfl rfl rfl (aV_ (by first|omega|(simp only[List.length_cons,List.length_nil]at *;omega)) (by first|omega|(simp only[List.length_cons,List.length_nil]at *;omega)))) rfl ?_
  refine Zz 12 ?_
  refine B_ t_ ah_ aK_ rfl rfl rfl rfl rfl rfl fun b3=>?_
  refine ai_ (List.flatMap aJ_ [(Ax.role x),(Ax.a x),(Ax.b x)]) i_ rfl ?_
  refine Zz 5 ?_
  have hB:zz=wgL [(Ax.left x),(Ax.right x)]:=by rw[hzz,List.take_of_length_le (by simp only[List.length_cons,List.length_nil]at *;omega)]
  refine Y_ (ι:={y:Nat×Int // y.1≤List.length [(Ax.role x),(Ax.a x),(Ax.b x)]∧y.2=wgL [(Ax.left x),(Ax.right x)]+(List.length (Ax.roles x):Int)+wgS (List.take y.1 [(Ax.role x),(Ax.a x),(Ax.b x)])}) (fun y=>[(1,zp_ b1 0),(2,.int .i64 y.1.2),(11,.slice (some ⟨b2,0,none⟩) (List.length [(Ax.left x),(Ax.right x)]) 2),(12,.int .i64 2),(13,.int .i64 (i:Int)),(36,.slice (some ⟨b3,0,none⟩) (List.length [(Ax.role x),(Ax.a x),(Ax.b x)]) 3),(37,.int .i64 3),(38,.int .i64 (y.1.1:Int))]) (fun y=>((b1,.cells #[.int .i64 (Ax.kind x),.bool (Ax.opn x),.int .i64 (Con.kind (Ax.left x)),str (Con.name (Ax.left x)),.int .i64 (Con.lo (Ax.left x)),.int .i64 (Con.hi (Ax.left x)),.slice (Con.ad (Ax.left x)) (List.length (Con.parts (Ax.left x))) (Con.cap (Ax.left x)),.int .i64 (Con.kind (Ax.right x)),str (Con.name (Ax.right x)),.int .i64 (Con.lo (Ax.right x)),.int .i64 (Con.hi (Ax.right x)),.slice (Con.ad (Ax.right x)) (List.length (Con.parts (Ax.right x))) (Con.cap (Ax.right x)),.slice (Ax.ad x) (List.length (Ax.roles x)) (Ax.cap x),str (Ax.role x),str (Ax.a x),str (Ax.b x)] 48 (0,0))::[])) (fun y=>[ac_ (some ⟨b3,0,none⟩) (List.flatMap aJ_ [(Ax.role x),(Ax.a x),(Ax.b x)]),ac_ (some ⟨b2,0,none⟩) (List.flatMap Con.cells [(Ax.left x),(Ax.right x)]),Ax.memF x]) (fun y=>List.length [(Ax.role x),(Ax.a x),(Ax.b x)] - y.1.1) ⟨((0:Nat),(zz+(List.length (Ax.roles x):Int))),by simp,(by show (zz+(List.length (Ax.roles x):Int))=_;rw[hB];simp[wgS])⟩ zl i_ zh ?_
  rintro ⟨⟨j,yy⟩,hi_j,hyy⟩
  dsimp only at hi_j hyy ⊢
  have hbs:=wgS_bd (List.take j [(Ax.role x),(Ax.a x),(Ax.b x)])
  have htj:(List.take j [(Ax.role x),(Ax.a x),(Ax.b x)]).length≤3:=by rw[List.length_take];exact Nat.min_le_right _ _
  have hbl:=sc_ (l:=[(Ax.left x),(Ax.right x)]) (fun c hc=>(gK_ hok hz1 hz2 hc).2)
  refine Zi 2 (fun hr2=>?_) fun hr2=>?_
  ·refine Zz 13 ?_
   exact E_ Tryz.results98 () (O_ rfl (by rw[hyy,Ax.wgt_eq,List.take_of_length_le (by simp only[List.length_cons,List.length_nil]at *;omega)])) e_ zt
  have hls1:j<List.length [(Ax.role x),(Ax.a x),(Ax.b x)]:=by simp only[List.length_cons,List.length_nil]at *;omega
  obtain⟨s1,hs1⟩:∃ e0,[(Ax.role x),(Ax.a x),(Ax.b x)][j]? = some e0:=⟨_,List.getElem?_eq_getElem hls1⟩
  have hms1:s1∈[(Ax.role x),(Ax.a x),(Ax.b x)]:=List.mem_of_getElem? hs1
  refine Zz 11 ?_
  refine c_ (bt_ (ad:=(some ⟨b3,0,none⟩)) aL_ rfl zf (o_ ak_ hs1 0 _ rfl)) rfl (Zi 6 (fun hr3=>?_) fun hr3=>?_)
  ·refine Zz 6 ?_
   refine c_ (as_ rfl rfl rfl (aV_ (by first|omega|(simp only[List.length_cons,List.length_nil]at *;omega)) (by first|omega|(simp only[List.length_cons,List.length_nil]at *;omega)))) rfl ?_
   refine Zz 3 ?_
   exact z_ ⟨(j+1,yy),hls1,(by show yy=_;rw[nf_ hs1,if_pos hr3];omega)⟩ (by dsimp only;omega) zl i_ zh
  refine Zz 5 ?_
  refine c_ (as_ rfl rfl rfl (aV_ (by first|omega|(simp only[List.length_cons,List.length_nil]at *;omega)) (by first|omega|(simp only[List.length_cons,List.length_nil]at *;omega)))) rfl ?_
  refine Zz 4 ?_
  refine c_ (as_ rfl rfl rfl (aV_ (by first|omega|(simp only[List.length_cons,List.length_nil]at *;omega)) (by first|omega|(simp only[List.length_cons,List.length_nil]at *;omega)))) rfl ?_
  refine Zz 3 ?_
  exact z_ ⟨(j+1,(yy+1)),hls1,(by show (yy+1)=_;rw[nf_ hs1,if_neg hr3];omega)⟩ (by dsimp only;omega) zl i_ zh
 have hlc1:i<List.length [(Ax.left x),(Ax.right x)]:=by simp only[List.length_cons,List.length_nil]at *;omega
 obtain⟨c1,hc1⟩:∃ e0,[(Ax.left x),(Ax.right x)][i]? = some e0:=⟨_,List.getElem?_eq_getElem hlc1⟩
 have hmc1:c1∈[(Ax.left x),(Ax.right x)]:=List.mem_of_getElem? hc1
 have hcz:=(gK_ hok hz1 hz2 hmc1).2
 refine Zz 10 ?_
 refine c_ (C_ D_ g_ rfl rfl (fun v _ h=>q_ (n:=5) Con.cells_len (by decide) (by exact h.1) hc1) (by omega) (by first|omega|(simp;done))) rfl ?_
 refine c_ (L_ (ad:=(some ⟨b2,0,none⟩)) (us:=Con.cells c1) R_ g_ rfl zf (Con.cells_len _) (o_ Con.cells_len hc1)) rfl (G_ aC_ rfl fun b4=>n_ 0 g_ rfl rfl rfl rfl rfl rfl (Zi 6 (fun hr4=>?_) fun hr4=>?_))
 ·refine Zz 6 ?_
  refine c_ (as_ rfl rfl rfl (aV_ (by first|omega|(simp only[List.length_cons,List.length_nil]at *;omega)) (by first|omega|(simp only[List.length_cons,List.length_nil]at *;omega)))) rfl ?_
  refine Zz 3 ?_
  exact z_ ⟨(i+1,zz),hlc1,(by show zz=_;rw[ng_ hc1,if_pos hr4];omega)⟩ (by dsimp only;omega) zl (l_ i_) zh
 refine Zz 6 ?_
 refine d_ (size_c c1 (gK_ hok hz1 hz2 hmc1).1 (gK_ hok hz1 hz2 hmc1).2) rfl e_ (fun v _ h=>by exact⟨(tH_ h.2.1 hmc1),trivial⟩) rfl fun _=>?_
 refine c_ (as_ rfl rfl rfl (aV_ (by first|omega|(simp only[List.length_cons,List.length_nil]at *;omega)) (by first|omega|(simp only[List.length_cons,List.length_nil]at *;omega)))) rfl ?_
 refine Zz 4 ?_
 refine c_ (as_ rfl rfl rfl (aV_ (by first|omega|(simp only[List.length_cons,List.length_nil]at *;omega)) (by first|omega|(simp only[List.length_cons,List.length_nil]at *;omega)))) rfl ?_
 refine Zz 3 ?_
 exact z_ ⟨(i+1,(zz+(Con.sz c1:Int))),hlc1,(by show (zz+(Con.sz c1:Int))=_;rw[ng_ hc1,if_neg hr4];omega)⟩ (by dsimp only;omega) zl (l_ i_) zh
theorem mR_ (x y:Ax) (hok1:x.ok) (hok2:y.ok) (hz1l:x.left.sz≤1000000) (hz1r:x.right.sz≤1000000) (hz2l:y.left.sz≤1000000) (hz2r:y.right.sz≤1000000):Tri Tryz.prog 50 #[Ax.val x,Ax.val y] [] [Ax.memF x,Ax.memF y] (fun _:Unit=>.int .i64 (Ax.cmp x y)) (fun _=>[]) (fun _=>[]):=by
 refine j_ Tryz.func50 rfl rfl Tryz.ntmps50 rfl fun v0=>?_
 refine Zz 2 ?_
 refine N_ rfl rfl fun b1=>N_ rfl rfl fun b2=>Zz 5 ?_
 refine Q_ 7 [0,2,5,6,7,8] zk zs (Zz 7 ?_)
 refine p_ 1 rfl zk (d_ (nh_ x hok1 hz1l hz1r) rfl e_ zf rfl fun _=>Zz 3 ?_)
 refine p_ 3 rfl zk (d_ (nh_ y hok2 hz2l hz2r) rfl e_ zf rfl fun _=>Zz 3 ?_)
 refine p_ 4 rfl zk (d_ (fI_ (Ax.wgt x) (Ax.wgt y)) rfl e_ zt rfl fun _=>Zz 3 ?_)
 refine p_ 9 rfl zk (d_ (fI_ (Ax.kind x) (Ax.kind y)) rfl e_ zt rfl fun _=>Zz 3 ?_)
 refine p_ 10 rfl zk (B_ I_ U_ aU_ rfl rfl rfl rfl rfl rfl fun b3=>?_)
 refine ai_ (List.flatMap ct_ [(Lib.compareInt (Ax.wgt x) (Ax.wgt y)),(Lib.compareInt (Ax.kind x) (Ax.kind y))]) i_ rfl ?_
 refine Zz 3 ?_
 refine p_ 11 rfl zk (d_ (ls_ [(Lib.compareInt (Ax.wgt x) (Ax.wgt y)),(Lib.compareInt (Ax.kind x) (Ax.kind y))] (some ⟨b3,0,none⟩) 2 (by simp)) rfl e_ zf rfl fun _=>Zz 3 ?_)
 refine Q_ 0 [12] zk zs (Zi 8 (fun hr1=>?_) fun hr1=>?_)
 ·refine Zi 9 (fun hr2=>?_) fun hr2=>?_
  ·refine Zi 9 (fun hr3=>?_) fun hr3=>?_
   ·refine Zz 7 ?_
    refine Q_ 7 [0,1,2,3,5,6,7,8,10,11,12,13,15,16,17,18] zk zs (Zz 17 ?_)
    refine p_ 4 rfl zk (d_ (jB_ (Ax.roles x) (Ax.roles y) (Ax.ad x) (Ax.ad y) (Ax.cap x) (Ax.cap y) (by have:=hok1.len;have:=hok1.cap;omega) (by have:=hok2.len;have:=hok2.cap;omega)) rfl e_ (fun v _ h=>by exact⟨h.2.1.2.2,h.2.2.1.2.2,trivial⟩) rfl fun _=>?_)
    refine Zz 3 ?_
    refine p_ 9 rfl zk (d_ (dc_ (Ax.role x) (Ax.role y)) rfl e_ zt rfl fun _=>Zz 3 ?_)
    refine p_ 14 rfl zk (d_ (dc_ (Ax.a x) (Ax.a y)) rfl e_ zt rfl fun _=>Zz 3 ?_)
    refine p_ 19 rfl zk (d_ (dc_ (Ax.b x) (Ax.b y)) rfl e_ zt rfl fun _=>Zz 3 ?_)
    refine p_ 20 rfl zk (B_ I_ U_ aU_ rfl rfl rfl rfl rfl rfl fun b4=>?_)
    refine ai_ (List.flatMap ct_ [(bQ_ (Ax.roles x) (Ax.roles y)),(Lib.compareBytes (Ax.role x) (Ax.role y)),(Lib.compareBytes (Ax.a x) (Ax.a y)),(Lib.compareBytes (Ax.b x) (Ax.b y))]) i_ rfl ?_
    refine Zz 3 ?_
    refine p_ 21 rfl zk (d_ (ls_ [(bQ_ (Ax.roles x) (Ax.roles y)),(Lib.compareBytes (Ax.role x) (Ax.role y)),(Lib.compareBytes (Ax.a x) (Ax.a y)),(Lib.compareBytes (Ax.b x) (Ax.b y))] (some ⟨b4,0,none⟩) 4 (by simp)) rfl e_ zf rfl fun _=>Zz 3 ?_)
    refine Q_ 0 [22] zk zs (Zz 5 ?_)
    exact E_ fc_ () (O_ rfl (by unfold Ax.cmp;simp only[orF]at *;(repeat' split)<;>simp_all)) e_ zt
   refine Zz 10 ?_
   exact E_ fc_ () (O_ rfl (by unfold Ax.cmp;simp only[orF]at *;(repeat' split)<;>simp_all)) e_ zt
  refine Zz 8 ?_
  refine d_ (dA_ (Ax.right x) (Ax.right y) hz1r hz2r) rfl e_ (fun v _ h=>by exact⟨h.2.1.2.1,h.2.2.1.2.1,trivial⟩) rfl fun _=>Zi 7 (fun hr4=>?_) fun hr4=>?_
  ·refine Zz 7 ?_
   refine Q_ 7 [0,1,2,3,5,6,7,8,10,11,12,13,15,16,17,18] zk zs (Zz 17 ?_)
   refine p_ 4 rfl zk (d_ (jB_ (Ax.roles x) (Ax.roles y) (Ax.ad x) (Ax.ad y) (Ax.cap x) (Ax.cap y) (by have:=hok1.len;have:=hok1.cap;omega) (by have:=hok2.len;have:=hok2.cap;omega)) rfl e_ (fun v _ h=>by exact⟨h.2.1.2.2,h.2.2.1.2.2,trivial⟩) rfl fun _=>?_)
   refine Zz 3 ?_
   refine p_ 9 rfl zk (d_ (dc_ (Ax.role x) (Ax.role y)) rfl e_ zt rfl fun _=>Zz 3 ?_)
   refine p_ 14 rfl zk (d_ (dc_ (Ax.a x) (Ax.a y)) rfl e_ zt rfl fun _=>Zz 3 ?_)
   refine p_ 19 rfl zk (d_ (dc_ (Ax.b x) (Ax.b y)) rfl e_ zt rfl fun _=>Zz 3 ?_)
   refine p_ 20 rfl zk (B_ I_ U_ aU_ rfl rfl rfl rfl rfl rfl fun b5=>?_)
   refine ai_ (List.flatMap ct_ [(bQ_ (Ax.roles x) (Ax.roles y)),(Lib.compareBytes (Ax.role x) (Ax.role y)),(Lib.compareBytes (Ax.a x) (Ax.a y)),(Lib.compareBytes (Ax.b x) (Ax.b y))]) i_ rfl ?_
   refine Zz 3 ?_
   refine p_ 21 rfl zk (d_ (ls_ [(bQ_ (Ax.roles x) (Ax.roles y)),(Lib.compareBytes (Ax.role x) (Ax.role y)),(Lib.compareBytes (Ax.a x) (Ax.a y)),(Lib.compareBytes (Ax.b x) (Ax.b y))] (some ⟨b5,0,none⟩) 4 (by simp)) rfl e_ zf rfl fun _=>Zz 3 ?_)
   refine Q_ 0 [22] zk zs (Zz 5 ?_)
   exact E_ fc_ () (O_ rfl (by unfold Ax.cmp;simp only[orF]at *;(repeat' split)<;>simp_all)) e_ zt
  refine Zz 10 ?_
  exact E_ fc_ () (O_ rfl (by unfold Ax.cmp;simp only[orF]at *;(repeat' split)<;>simp_all)) e_ zt
 refine Zz 8 ?_
 refine d_ (dA_ (Ax.left x) (Ax.left y) hz1l hz2l) rfl e_ (fun v _ h=>by exact⟨h.2.1.1,h.2.2.1.1,trivial⟩) rfl fun _=>Zi 7 (fun hr5=>?_) fun hr5=>?_
 ·refine Zi 9 (fun hr6=>?_) fun hr6=>?_
  ·refine Zz 7 ?_
   refine Q_ 7 [0,1,2,3,5,6,7,8,10,11,12,13,15,16,17,18] zk zs (Zz 17 ?_)
   refine p_ 4 rfl zk (d_ (jB_ (Ax.roles x) (Ax.roles y) (Ax.ad x) (Ax.ad y) (Ax.cap x) (Ax.cap y) (by have:=hok1.len;have:=hok1.cap;omega) (by have:=hok2.len;have:=hok2.cap;omega)) rfl e_ (fun v _ h=>by exact⟨h.2.1.2.2,h.2.2.1.2.2,trivial⟩) rfl fun _=>?_)
   refine Zz 3 ?_
   refine p_ 9 rfl zk (d_ (dc_ (Ax.role x) (Ax.role y)) rfl e_ zt rfl fun _=>Zz 3 ?_)
   refine p_ 14 rfl zk (d_ (dc_ (Ax.a x) (Ax.a y)) rfl e_ zt rfl fun _=>Zz 3 ?_)
   refine p_ 19 rfl zk (d_ (dc_ (Ax.b x) (Ax.b y)) rfl e_ zt rfl fun _=>Zz 3 ?_)
   refine p_ 20 rfl zk (B_ I_ U_ aU_ rfl rfl rfl rfl rfl rfl fun b6=>?_)
   refine ai_ (List.flatMap ct_ [(bQ_ (Ax.roles x) (Ax.roles y)),(Lib.compareBytes (Ax.role x) (Ax.role y)),(Lib.compareBytes (Ax.a x) (Ax.a y)),(Lib.compareBytes (Ax.b x) (Ax.b y))]) i_ rfl ?_
   refine Zz 3 ?_
   refine p_ 21 rfl zk (d_ (ls_ [(bQ_ (Ax.roles x) (Ax.roles y)),(Lib.compareBytes (Ax.role x) (Ax.role y)),(Lib.compareBytes (Ax.a x) (Ax.a y)),(Lib.compareBytes (Ax.b x) (Ax.b y))] (some ⟨b6,0,none⟩) 4 (by simp)) rfl e_ zf rfl fun _=>Zz 3 ?_)
   refine Q_ 0 [22] zk zs (Zz 5 ?_)
   exact E_ fc_ () (O_ rfl (by unfold Ax.cmp;simp only[orF]at *;(repeat' split)<;>simp_all)) e_ zt
  refine Zz 10 ?_
  exact E_ fc_ () (O_ rfl (by unfold Ax.cmp;simp only[orF]at *;(repeat' split)<;>simp_all)) e_ zt
 refine Zz 8 ?_
 refine d_ (dA_ (Ax.right x) (Ax.right y) hz1r hz2r) rfl e_ (fun v _ h=>by exact⟨h.2.1.2.1,h.2.2.1.2.1,trivial⟩) rfl fun _=>Zi 7 (fun hr7=>?_) fun hr7=>?_
 ·refine Zz 7 ?_
  refine Q_ 7 [0,1,2,3,5,6,7,8,10,11,12,13,15,16,17,18] zk zs (Zz 17 ?_)
  refine p_ 4 rfl zk (d_ (jB_ (Ax.roles x) (Ax.roles y) (Ax.ad x) (Ax.ad y) (Ax.cap x) (Ax.cap y) (by have:=hok1.len;have:=hok1.cap;omega) (by have:=hok2.len;have:=hok2.cap;omega)) rfl e_ (fun v _ h=>by exact⟨h.2.1.2.2,h.2.2.1.2.2,trivial⟩) rfl fun _=>?_)
  refine Zz 3 ?_
  refine p_ 9 rfl zk (d_ (dc_ (Ax.role x) (Ax.role y)) rfl e_ zt rfl fun _=>Zz 3 ?_)
  refine p_ 14 rfl zk (d_ (dc_ (Ax.a x) (Ax.a y)) rfl e_ zt rfl fun _=>Zz 3 ?_)
  refine p_ 19 rfl zk (d_ (dc_ (Ax.b x) (Ax.b y)) rfl e_ zt rfl fun _=>Zz 3 ?_)
  refine p_ 20 rfl zk (B_ I_ U_ aU_ rfl rfl rfl rfl rfl rfl fun b7=>?_)
  refine ai_ (List.flatMap ct_ [(bQ_ (Ax.roles x) (Ax.roles y)),(Lib.compareBytes (Ax.role x) (Ax.role y)),(Lib.compareBytes (Ax.a x) (Ax.a y)),(Lib.compareBytes (Ax.b x) (Ax.b y))]) i_ rfl ?_
  refine Zz 3 ?_
  refine p_ 21 rfl zk (d_ (ls_ [(bQ_ (Ax.roles x) (Ax.roles y)),(Lib.compareBytes (Ax.role x) (Ax.role y)),(Lib.compareBytes (Ax.a x) (Ax.a y)),(Lib.compareBytes (Ax.b x) (Ax.b y))] (some ⟨b7,0,none⟩) 4 (by simp)) rfl e_ zf rfl fun _=>Zz 3 ?_)
  refine Q_ 0 [22] zk zs (Zz 5 ?_)
  exact E_ fc_ () (O_ rfl (by unfold Ax.cmp;simp only[orF]at *;(repeat' split)<;>simp_all)) e_ zt
 refine Zz 10 ?_
 exact E_ fc_ () (O_ rfl (by unfold Ax.cmp;simp only[orF]at *;(repeat' split)<;>simp_all)) e_ zt
end Go.Proofs.YtamklbgaipakfaaGreatDoor
namespace Go.Proofs.YtamklbgaipakfaaGreatDoor
open Go Go.Sx Go.Proofs
attribute [local irreducible] Code.wp wpList wpAnyH
open Go.Vs
theorem hO_ {a b:Str} (h:str a=str b):a=b:=by
  have h2:=congrArg (fun z:ByteArray=>z.data.toList) (Value.string.inj h)
  simpa using h2
def oy_ (P:Program) (gf:FuncId) (caps:List Value) (Hc:Hp) (Rc:List Str→Prop):Prop:=∀ {σ:Type} (l:Nat) (Gj:σ→Hp) (lst:σ→List Str),(∀ s x,(lst s).length<100000000→hE_ P l (str x) (Gj s) [] (fun _:{s':σ // lst s'=lst s++[x]}=>.bool true) (fun s'=>Gj s'.1) (fun _=>[]))→∀ s0,lst s0=[] →
  Tri P gf (.func (.yield l) #[] #[]::caps).toArray (Hc++Gj s0) [] (fun _:{s':σ // Rc (lst s')}=>.tuple #[]) (fun s'=>Hc++Gj s'.1) (fun _=>[])
theorem uv_ {C Q:Hp} {c d e:Nat×Obj}:(C++(c::Q)++[d,e]).Perm (e::(C++(c::(Q++[d])))):=by
  have h1:C++(c::Q)++[d,e]=(C++(c::(Q++[d])))++[e]:=by simp
  rw[h1];exact List.perm_append_comm
theorem pf_D10 {C Q:Hp} {c d:Nat×Obj}:(C++(c::(Q++[d]))).Perm ((C++Q)++[c,d]):=by
  have h1:(C++Q)++[c,d]=C++((Q++[c])++[d]):=by simp
  rw[h1]
  exact List.Perm.append_left C (List.Perm.append_right [d] (show ([c]++Q).Perm _ from List.perm_append_comm))
theorem qN_ {L q:List Str} (h:L.Perm q) (hn:q.Nodup):bb_ L=bb_ q:=by
 have strict:∀ l:List Str,l.Nodup→SrS (bb_ l):=fun l hl=>by
   have h1:=jY_ l
   have h2:(bb_ l).Nodup:=(List.mergeSort_perm _ _).nodup_iff.2 hl
   unfold List.Nodup at h2
   refine List.Pairwise.imp (fun {a b} hab=>?_) (h1.and h2)
   by_cases g:a<b
   · exact g
   · exact absurd (List.le_antisymm hab.1 (List.not_lt.1 g)) hab.2
 exact mg_ (strict L (h.nodup_iff.2 hn)) (strict q hn) fun x=>by rw[List.mem_mergeSort,List.mem_mergeSort,h.mem_iff]
theorem ta_ {σ:Type} {l:Nat} {Gj:σ→Hp} {lst:σ→List Str} (hY:∀ s x,(lst s).length<100000000→hE_ Tryz.prog l (str x) (Gj s) [] (fun _:{s':σ // lst s'=lst s++[x]}=>.bool true) (fun s'=>Gj s'.1) (fun _=>[])) (s0:σ) (hs0:lst s0=[]) (mb bx c:Nat) (es:Array MapEntry) (q:List Str) (hE:KeyE str es q) (hB:Born es c) (hql:q.length≤100000000):Tri Tryz.prog 201 #[.func (.yield l) #[] #[],zp_ bx 0] ((bx,.cells #[.map (some mb)] 184 (0,0))::(mb,.map es c)::Gj s0) [] (fun _:{s':σ // (lst s').Perm q}=>.tuple #[]) (fun s'=>(bx,.cells #[.map (some mb)] 184 (0,0))::(mb,.map es c)::Gj s'.1) (fun _=>[]):=by
 refine j_ Tryz.func201 rfl rfl Tryz.ntmps201 rfl fun v0=>?_
 refine Zz 3 ?_
 refine lt_ 1 Tryz.underlying184 rfl rfl rfl fun rr=>Zz 3 ?_
 refine Y_ (ι:={y:List Str×Array Nat×Nat×σ // ItS str es y.2.1 y.1∧c≤y.2.2.1∧lst y.2.2.2=y.1∧(∀ z∈y.1,z∈q)}) (fun y=>[(0,.func (.yield l) #[] #[]),(1,zp_ bx 0),(5,zp_ rr 0)]) (fun y=>((rr,.mapIter (some mb) c y.1.2.1 y.1.2.2.1)::((bx,.cells #[.map (some mb)] 184 (0,0))::((mb,.map es c)::(Gj y.1.2.2.2))))) (fun y=>[]) (fun y=>List.length q - List.length y.1.1) ⟨([],#[],c,s0),ItS.nil,Nat.le_refl _,hs0,by simp⟩ zl zp zt ?_
 rintro ⟨⟨done,seen,c0,s⟩,hI,hsc,hls,hsub⟩
 dsimp only at hI hsc hls hsub ⊢
 refine Zz 2 ?_
 refine nM_ 0 2 rfl rfl rfl hB.lt hsc rfl (fun h0=>?_) (fun e he=>?_)
 ·refine Zz 7 ?_
  exact dS_ Tryz.results201 ⟨s,by rw[hls];exact hI.endK (fun _ _=>hO_) hE h0⟩ rfl zp zt
 obtain⟨k,hkq,hkd,hkv,hem,hI2⟩:=hI.stepK (fun _ _=>hO_) hE hB he
 refine Zz 10 ?_
 refine c_ (aA_ (kX_ 0 2 rfl rfl rfl hem hB) (show _=Value.tuple #[str k,e.val] by rw[hkv])) rfl (Zz 5 ?_)
 refine eF_ (ι:={s':σ // lst s'=lst s++[k]}) (fun _=>[(0,.func (.yield l) #[] #[]),(1,zp_ bx 0),(5,zp_ rr 0),(13,.bool false)]) (fun z=>((rr,.mapIter (some mb) c (seen.push e.born) c)::((bx,.cells #[.map (some mb)] 184 (0,0))::((mb,.map es c)::(Gj z.1))))) (fun _=>[]) ?_ ?_
 ·refine aM_ ?_
  refine Z_ J_ (H_ rfl) rfl rfl ?_
  refine Z_ J_ (H_ rfl) rfl rfl ?_
  refine dy_ (hY s k (by rw[hls];have:=fg_ hI2.nd (m:=q) (fun z hz=>by rcases List.mem_append.1 hz with hz|hz;exact hsub z hz;rw[List.mem_singleton]at hz;exact hz▸hkq);rw[List.length_append,List.length_singleton]at this;omega)) rfl rfl (l_ (l_ au_)) zt rfl fun z=>?_
  refine Z_ J_ (aG_ rfl) rfl rfl ?_
  refine bz_ ?_
  refine ci_ rfl ?_
  exact cy_ z zl zp zh
 rintro ⟨s',hs'⟩
 dsimp only
 refine Zz 4 ?_
 exact z_ ⟨(done++[k],seen.push e.born,c,s'),hI2,Nat.le_refl _,by rw[hs',hls],fun z hz=>by rcases List.mem_append.1 hz with hz|hz;exact hsub z hz;rw[List.mem_singleton]at hz;exact hz▸hkq⟩ (by have:=fg_ hI2.nd (m:=q) (fun z hz=>by rcases List.mem_append.1 hz with hz|hz;exact hsub z hz;rw[List.mem_singleton]at hz;exact hz▸hkq);rw[List.length_append,List.length_singleton]at this;dsimp only;rw[List.length_append,List.length_singleton];omega) zl (V_ i_ (V_ i_ (V_ i_ am_))) zt
theorem uE_ (mb bx c:Nat) (es:Array MapEntry) (q:List Str) (hE:KeyE str es q) (hB:Born es c) (hql:q.length≤100000000):oy_ Tryz.prog 201 [zp_ bx 0] [(bx,.cells #[.map (some mb)] 184 (0,0)),(mb,.map es c)] (fun L=>L.Perm q) :=
  fun l Gj lst hY s0 hs0=>ta_ hY s0 hs0 mb bx c es q hE hB hql
theorem uD_ (mb:Nat):Tri Tryz.prog 128 #[.map (some mb)] [] [] (fun bx:Nat=>.func (.func 201) #[] #[zp_ bx 0]) (fun bx=>[(bx,.cells #[.map (some mb)] 184 (0,0))]) (fun _=>[]):=by
  refine j_ Tryz.func128 rfl rfl Tryz.ntmps128 rfl fun v0=>?_
  refine Zz 2 ?_
  refine N_ rfl rfl fun b1=>Zz 5 ?_
  refine c_ (dw_ rfl rfl) rfl (Zz 4 ?_)
  exact E_ Tryz.results128 b1 rfl (F:=[]) (.refl _) zt
theorem sZ_ {σ:Type} {l:Nat} {Gj:σ→Hp} {lst:σ→List Str} (hY:∀ s x,(lst s).length<100000000→hE_ Tryz.prog l (str x) (Gj s) [] (fun _:{s':σ // lst s'=lst s++[x]}=>.bool true) (fun s'=>Gj s'.1) (fun _=>[])) (s0:σ) (hs0:lst s0=[]) (mb bx c:Nat) (es:Array MapEntry) (q:List Str) (hE:KeyE str es q) (hB:Born es c) (hql:q.length≤100000000):Tri Tryz.prog 239 #[.func (.yield l) #[] #[],zp_ bx 0] ((bx,.cells #[.map (some mb)] 165 (0,0))::(mb,.map es c)::Gj s0) [] (fun _:{s':σ // (lst s').Perm q}=>.tuple #[]) (fun s'=>(bx,.cells #[.map (some mb)] 165 (0,0))::(mb,.map es c)::Gj s'.1) (fun _=>[]):=by
 refine j_ Tryz.func239 rfl rfl Tryz.ntmps239 rfl fun v0=>?_
 refine Zz 3 ?_
 refine lt_ 1 Tryz.underlying165 rfl rfl rfl fun rr=>Zz 3 ?_
 refine Y_ (ι:={y:List Str×Array Nat×Nat×σ // ItS str es y.2.1 y.1∧c≤y.2.2.1∧lst y.2.2.2=y.1∧(∀ z∈y.1,z∈q)}) (fun y=>[(0,.func (.yield l) #[] #[]),(1,zp_ bx 0),(5,zp_ rr 0)]) (fun y=>((rr,.mapIter (some mb) c y.1.2.1 y.1.2.2.1)::((bx,.cells #[.map (some mb)] 165 (0,0))::((mb,.map es c)::(Gj y.1.2.2.2))))) (fun y=>[]) (fun y=>List.length q - List.length y.1.1) ⟨([],#[],c,s0),ItS.nil,Nat.le_refl _,hs0,by simp⟩ zl zp zt ?_
 rintro ⟨⟨done,seen,c0,s⟩,hI,hsc,hls,hsub⟩
 dsimp only at hI hsc hls hsub ⊢
 refine Zz 2 ?_
 refine nM_ 0 2 rfl rfl rfl hB.lt hsc rfl (fun h0=>?_) (fun e he=>?_)
 ·refine Zz 7 ?_
  exact dS_ Tryz.results239 ⟨s,by rw[hls];exact hI.endK (fun _ _=>hO_) hE h0⟩ rfl zp zt
 obtain⟨k,hkq,hkd,hkv,hem,hI2⟩:=hI.stepK (fun _ _=>hO_) hE hB he
 refine Zz 10 ?_
 refine c_ (aA_ (kX_ 0 2 rfl rfl rfl hem hB) (show _=Value.tuple #[str k,e.val] by rw[hkv])) rfl (Zz 5 ?_)
 refine eF_ (ι:={s':σ // lst s'=lst s++[k]}) (fun _=>[(0,.func (.yield l) #[] #[]),(1,zp_ bx 0),(5,zp_ rr 0),(13,.bool false)]) (fun z=>((rr,.mapIter (some mb) c (seen.push e.born) c)::((bx,.cells #[.map (some mb)] 165 (0,0))::((mb,.map es c)::(Gj z.1))))) (fun _=>[]) ?_ ?_
 ·refine aM_ ?_
  refine Z_ J_ (H_ rfl) rfl rfl ?_
  refine Z_ J_ (H_ rfl) rfl rfl ?_
  refine dy_ (hY s k (by rw[hls];have:=fg_ hI2.nd (m:=q) (fun z hz=>by rcases List.mem_append.1 hz with hz|hz;exact hsub z hz;rw[List.mem_singleton]at hz;exact hz▸hkq);rw[List.length_append,List.length_singleton]at this;omega)) rfl rfl (l_ (l_ au_)) zt rfl fun z=>?_
  refine Z_ J_ (aG_ rfl) rfl rfl ?_
  refine bz_ ?_
  refine ci_ rfl ?_
  exact cy_ z zl zp zh
 rintro ⟨s',hs'⟩
 dsimp only
 refine Zz 4 ?_
 exact z_ ⟨(done++[k],seen.push e.born,c,s'),hI2,Nat.le_refl _,by rw[hs',hls],fun z hz=>by rcases List.mem_append.1 hz with hz|hz;exact hsub z hz;rw[List.mem_singleton]at hz;exact hz▸hkq⟩ (by have:=fg_ hI2.nd (m:=q) (fun z hz=>by rcases List.mem_append.1 hz with hz|hz;exact hsub z hz;rw[List.mem_singleton]at hz;exact hz▸hkq);rw[List.length_append,List.length_singleton]at this;dsimp only;rw[List.length_append,List.length_singleton];omega) zl (V_ i_ (V_ i_ (V_ i_ am_))) zt
theorem qh_ (mb bx c:Nat) (es:Array MapEntry) (q:List Str) (hE:KeyE str es q) (hB:Born es c) (hql:q.length≤100000000):oy_ Tryz.prog 239 [zp_ bx 0] [(bx,.cells #[.map (some mb)] 165 (0,0)),(mb,.map es c)] (fun L=>L.Perm q) :=
  fun l Gj lst hY s0 hs0=>sZ_ hY s0 hs0 mb bx c es q hE hB hql
theorem qg_ (mb:Nat):Tri Tryz.prog 185 #[.map (some mb)] [] [] (fun bx:Nat=>.func (.func 239) #[] #[zp_ bx 0]) (fun bx=>[(bx,.cells #[.map (some mb)] 165 (0,0))]) (fun _=>[]):=by
  refine j_ Tryz.func185 rfl rfl Tryz.ntmps185 rfl fun v0=>?_
  refine Zz 2 ?_
  refine N_ rfl rfl fun b1=>Zz 5 ?_
  refine c_ (dw_ rfl rfl) rfl (Zz 4 ?_)
  exact E_ Tryz.results185 b1 rfl (F:=[]) (.refl _) zt
theorem sI_ {C Q G:Hp} {c:Nat×Obj}:(C++(c::Q)++G).Perm (c::(C++(Q++G))):=by
  have h1:C++(c::Q)++G=C++([c]++(Q++G)):=by simp
  rw[h1,← List.append_assoc]
  exact List.Perm.append_right (Q++G) (List.perm_append_comm (l₁:=C) (l₂:=[c])) |>.trans (by simp)
theorem rS_ (gf:FuncId) (caps:List Value) (Hc:Hp) (Rc:List Str→Prop) (hIt:oy_ Tryz.prog gf caps Hc Rc):Tri Tryz.prog 250 #[.slice none 0 0,.func (.func gf) #[] caps.toArray] Hc [] (fun y:{y:Value×Hp×List Str // ar_ 9 1 y.1 y.2.2.length (y.2.2.flatMap aJ_) y.2.1∧Rc y.2.2}=>y.1.1) (fun y=>Hc++y.1.2.1) (fun _=>[]):=by
 refine ec_ Tryz.func250 rfl rfl Tryz.ntmps250 rfl fun v0=>?_
 refine Zz 2 ?_
 refine N_ rfl rfl fun b1=>Zz 10 ?_
 refine bp_ [(2,zp_ b1 0),(6,.func (.func gf) #[] caps.toArray)] zl ?_
 refine oL_ (σ:={y:Value×Hp×List Str // ar_ 9 1 y.1 y.2.2.length (y.2.2.flatMap aJ_) y.2.1}) (α:=Str) (xv:=fun x=>str x) (good:=fun s _=>s.1.2.2.length<100000000) (nx:=fun x s s'=>s'.1.2.2=s.1.2.2++[x]) (Rc:=fun s=>Rc s.1.2.2) (Γi:=[]) (Hj:=fun y=>(b1,.cells #[y.1.1] 23 (0,0))::y.1.2.1) (Hc:=Hc) (caps:=caps) ⟨(.slice none 0 0,[],[]),ar_.nil _ _⟩ rfl (@List.perm_append_comm _ [_] _) zt ?_ ?_ ?_
 ·rintro l D rec hpa hst hpe ht hasg hbody ⟨⟨sv,Hq,L⟩,hr⟩ x hx1
  dsimp only at hr hx1 ⊢
  refine gm_ (ι:=Unit) (Hj:=fun y:{y:Value×Hp×List Str // ar_ 9 1 y.1 y.2.2.length (y.2.2.flatMap aJ_) y.2.1}=>(b1,.cells #[y.1.1] 23 (0,0))::y.1.2.1) (s:=⟨(sv,Hq,L),hr⟩) (ok:=fun s'=>s'.1.2.2=L++[x]) (Γ:=[]) (fun _=>[(2,zp_ b1 0),(5,str x)]) (fun _=>(b1,.cells #[sv] 23 (0,0))::Hq) hpa hst hpe ht rfl ?_ ?_
  ·intro n v0 H0 HL
   rw[hasg]
   dsimp only
   refine cT_.2 (u_ (H':=(b1,.cells #[sv] 23 (0,0))::(Hq++HL)) (by simp) (cT_.1 ?_))
   refine aM_ ?_
   refine Z_ (bc_ _) (aq_ rfl) rfl rfl ?_
   refine bz_ ?_
   refine ci_ rfl ?_
   exact cy_ () zl (F:=[]) (by rw[List.append_nil];exact .refl _) zh
  intro n v0 H0 HL _
  rw[hbody]
  refine cT_.2 (u_ (H':=(b1,.cells #[sv] 23 (0,0))::(Hq++HL)) (by simp) (cT_.1 ?_))
  refine fb_ ?_
  refine aM_ ?_
  refine Z_ (bc_ _) (aO_ 0 Tryz.isAgg23 rfl rfl rfl) rfl rfl ?_
  refine Z_ (bc_ _) (H_ rfl) rfl rfl ?_
  refine lw_ (bc_ _) t_ ah_ aK_ rfl rfl rfl rfl rfl rfl fun b3=>?_
  refine ja_ (bc_ _) (news:=List.flatMap aJ_ [x]) qs_ hr rfl rfl zp rfl (bC_ 0 rfl) (fun u hu=>bY_ nq_ hu) (by simp only[maxLen];omega) (by omega) rfl fun sv1 Hr1 hr1=>?_
  have hq1:=zsa hr1
  refine nR_ (bm_ (an_ i_) (bO_ (an_ i_))) ?_
  refine hg_ (bc_ _) 1 hq1 vb_ rfl rfl rfl rfl ?_
  refine bz_ ?_
  refine ci_ rfl ?_
  exact fS_ ⟨(sv1,Hr1,(L++[x])),hq1⟩ rfl (mj_ (V_ (l_ i_) (bi_ (l_ aI_) (bi_ au_ i_))))
 ·intro l Gj hY
  exact hIt l Gj (fun y=>y.1.2.2) (fun s x h=>hY s x h) ⟨(.slice none 0 0,[],[]),ar_.nil _ _⟩ rfl
 rintro ⟨⟨sv,Hq,L⟩,hr⟩ hL D l r
 dsimp only at hL hr ⊢
 refine hY_ (H':=(b1,.cells #[sv] 23 (0,0))::(Hc++(Hq++HLp l D r))) (F:=[]) (by rw[List.append_nil];exact sI_) zh ?_
 refine cz_ rfl ?_
 refine eG_ ?_
 refine aM_ ?_
 refine Z_ J_ (aO_ 0 Tryz.isAgg23 rfl rfl rfl) rfl rfl ?_
 refine Z_ J_ (aq_ rfl) rfl rfl ?_
 refine bz_ ?_
 refine cz_ rfl ?_
 refine fz_ ?_
 exact ln_ (G:=Hc++((b1,.cells #[sv] 23 (0,0))::(Hq++[(l,.loop r)]))) ⟨(sv,Hq,L),hr,hL⟩ (fun a v h1 h2=>by have e:=h1.val 4 sv rfl;simp[results,Tryz.results250,e]) (sI_.symm.trans (by unfold HLp;exact uv_)) ⟨_,pf_D10⟩ rfl
theorem pv_ (gf:FuncId) (caps:List Value) (Hc:Hp) (Rc:List Str→Prop) (hIt:oy_ Tryz.prog gf caps Hc Rc):Tri Tryz.prog 200 #[.func (.func gf) #[] caps.toArray] Hc [] (fun y:{y:Value×Hp×List Str // ar_ 9 1 y.1 y.2.2.length (y.2.2.flatMap aJ_) y.2.1∧Rc y.2.2}=>y.1.1) (fun y=>Hc++y.1.2.1) (fun _=>[]):=by
  refine j_ Tryz.func200 rfl rfl Tryz.ntmps200 rfl fun v0=>?_
  refine Zz 8 ?_
  refine d_ (rS_ gf caps Hc Rc hIt) rfl am_ zt rfl fun⟨⟨sv1,Hq1,L1⟩,hr1,hL1⟩=>?_
  dsimp only
  dsimp only at hr1 hL1 ⊢
  simp only[List.append_assoc,List.append_nil]
  refine Zz 4 ?_
  exact E_ Tryz.results200 ⟨(sv1,Hq1,L1),hr1,hL1⟩ rfl zp zt
theorem ix_ (gf:FuncId) (caps:List Value) (Hc:Hp) (q:List Str) (hqn:q.Nodup) (hql:q.length≤100000000) (hIt:oy_ Tryz.prog gf caps Hc (fun L=>L.Perm q)):Tri Tryz.prog 127 #[.func (.func gf) #[] caps.toArray] Hc [] (fun y:{y:Option Addr×Nat // (bb_ q).length≤y.2∧y.2≤maxLen∧(y.1=none→y.2=0)}=>.slice y.1.1 (bb_ q).length y.1.2) (fun _=>Hc) (fun y=>[ac_ y.1.1 ((bb_ q).flatMap aJ_)]):=by
  refine j_ Tryz.func127 rfl rfl Tryz.ntmps127 rfl fun v0=>?_
  refine Zz 8 ?_
  refine d_ (pv_ gf caps Hc (fun L=>L.Perm q) hIt) rfl am_ zt rfl fun⟨⟨sv1,Hq1,L1⟩,hr1,hL1⟩=>?_
  dsimp only
  dsimp only at hr1 hL1 ⊢
  simp only[List.append_assoc,List.append_nil]
  refine Zz 6 ?_
  refine d_ (pO_ hr1 (by have:=hL1.length_eq;omega)) rfl br_ zt rfl fun⟨Hq9,hq9⟩=>?_
  dsimp only
  have hs9:ar_ 9 1 sv1 (List.length (bb_ q)) (List.flatMap aJ_ (bb_ q)) Hq9:=by rw[← qN_ hL1 hqn,show (bb_ L1).length=L1.length from List.length_mergeSort _];exact hq9
  refine Zz 9 ?_
  refine bu_ hs9 aI_ fun ad2 cp2 had2 hcad2 hmad2 hzad2=>?_
  exact E_ Tryz.results127 ⟨(ad2,cp2),hcad2,hmad2,hzad2⟩ (bI_ rfl had2) am_ zf
end Go.Proofs.YtamklbgaipakfaaGreatDoor
namespace Go.Proofs.YtamklbgaipakfaaGreatDoor
open Go Go.Sx Go.Proofs
attribute [local irreducible] Code.wp wpList wpAnyH
open Go.Vs
theorem oH_:iT_ Tryz.prog 94 [(0,16)] [.int .i64 0,.bool false,.int .i64 0,str [],.int .i64 0,.int .i64 0,.slice none 0 0,.int .i64 0,str [],.int .i64 0,.int .i64 0,.slice none 0 0,.slice none 0 0,str [],str [],str []]:=⟨_,Tryz.zeroValue94,cn_,fun w=>by simp[f_]⟩
def pln (x:Ax):Prop:=x.kind=1∧x.left.kind=3∧x.right.kind=3
theorem iO_ {x:Ax} (hok:x.ok) (hC:x.check=0):Tri Tryz.prog 65 #[x.val] [] [x.memF,bn_] (fun _:Unit=>.int .i64 0) (fun _=>[]) (fun _=>[]):=by
  have h:=eV_ x hok
  rw[hC]at h
  exact h
theorem pK_ (c:Con) (hk:c.kind=3):Tri Tryz.prog 94 #[Con.val c] [] [] (fun _:Unit=>.tuple #[c.val,.int .i64 0]) (fun _=>[]) (fun _=>[]):=by
 refine j_ Tryz.func94 rfl rfl Tryz.ntmps94 rfl fun v0=>?_
 refine Zz 2 ?_
 refine N_ rfl rfl fun b1=>G_ aC_ rfl fun b2=>Zi 13 (fun hr1=>?_) fun hr1=>?_
 ·refine Zi 6 (fun hr2=>?_) fun hr2=>?_
  ·refine Zz 9 ?_
   refine n_ 0 g_ rfl rfl rfl rfl rfl rfl (Zz 4 ?_)
   exact cr_ () (fun aa v h1 h2=>bg_ (us:=Con.cells c) 0 jZ_ R_ g_ rfl rfl rfl rfl aa v h1 h2) e_ zt
  exfalso;omega
 exfalso;omega
theorem qI_ (x:Ax) (hok:x.ok) (hC:x.check=0) (hP:pln x):Tri Tryz.prog 48 #[Ax.val x] [] [Ax.memF x,bn_] (fun _:Unit=>.tuple #[x.val,.int .i64 0]) (fun _=>[]) (fun _=>[]):=by
 refine j_ Tryz.func48 rfl rfl Tryz.ntmps48 rfl fun v0=>?_
 have hk1:=hP.1
 refine Zz 2 ?_
 refine N_ rfl rfl fun b1=>G_ av_ rfl fun b2=>Zz 7 ?_
 refine d_ (iO_ hok hC) rfl e_ zf rfl fun _=>Zz 6 ?_
 refine c_ (aA_ (bR_ rfl rfl) (show _=Value.bool false from congrArg Value.bool (by decide))) rfl (Zz 9 ?_)
 refine c_ (er_ qX_ cg_ rfl rfl (by show (0:Int)≤x.kind;omega) (by show x.kind<(10:Int);omega)) rfl ?_
 refine c_ (L_ (ad:=some ⟨0,0,none⟩) (us:=Use.cells ⟨true,true,false,false,false,0,0⟩) vf_ cg_ rfl (fun v _ h=>h.2.1.2.1) (Use.cells_len _) (o_ Use.cells_len (show nj_[(Ax.kind x).toNat]? = some _ from by rw[hP.1];rfl))) rfl ?_
 refine G_ Tryz.zeroValue150 rfl fun b3=>n_ 0 cg_ rfl rfl rfl rfl rfl rfl (Zz 5 ?_)
 refine n_ 1 f_ rfl rfl rfl rfl rfl rfl (Zz 14 ?_)
 refine d_ (pK_ (Ax.left x) hP.2.1) rfl e_ zt rfl fun _=>Zz 4 ?_
 refine n_ 1 g_ rfl rfl rfl rfl rfl rfl (Zz 6 ?_)
 refine c_ (aA_ (bR_ rfl rfl) (show _=Value.bool false from congrArg Value.bool (by decide))) rfl (Zz 17 ?_)
 refine d_ (pK_ (Ax.right x) hP.2.2) rfl e_ zt rfl fun _=>Zz 4 ?_
 refine n_ 1 g_ rfl rfl rfl rfl rfl rfl (Zz 6 ?_)
 refine c_ (aA_ (bR_ rfl rfl) (show _=Value.bool false from congrArg Value.bool (by decide))) rfl (Zi 10 (fun hr1=>?_) fun hr1=>?_)
 ·refine Zi 6 (fun hr2=>?_) fun hr2=>?_
  ·refine Zz 17 ?_
   refine n_ 1 f_ rfl rfl rfl rfl rfl rfl (Zz 4 ?_)
   exact cr_ () (fun aa v h1 h2=>bg_ (us:=Ax.cells x) 1 aF_ K_ f_ rfl rfl rfl rfl aa v h1 h2) e_ zt
  exfalso;have:=hP.1;omega
 exfalso;have:=hP.1;omega
theorem qz_ (x y:Ax) (hok1:x.ok) (hok2:y.ok) (hz1l:x.left.sz≤1000000) (hz1r:x.right.sz≤1000000) (hz2l:y.left.sz≤1000000) (hz2r:y.right.sz≤1000000):Tri Tryz.prog 54 #[.agg #[.int .i64 (Ax.kind x),.bool (Ax.opn x),.int .i64 (Con.kind (Ax.left x)),str (Con.name (Ax.left x)),.int .i64 (Con.lo (Ax.left x)),.int .i64 (Con.hi (Ax.left x)),.slice (Con.ad (Ax.left x)) (List.length (Con.parts (Ax.left x))) (Con.cap (Ax.left x)),.int .i64 (Con.kind (Ax.right x)),str (Con.name (Ax.right x)),.int .i64 (Con.lo (Ax.right x)),.int .i64 (Con.hi (Ax.right x)),.slice (Con.ad (Ax.right x)) (List.length (Con.parts (Ax.right x))) (Con.cap (Ax.right x)),.slice (Ax.ad x) (List.length (Ax.roles x)) (Ax.cap x),str (Ax.role x),str (Ax.a x),str (Ax.b x)],Ax.val y] [] [Ax.memF x,Ax.memF y] (fun _:Unit=>.bool (Ax.cmp x y==0)) (fun _=>[]) (fun _=>[]):=by
  refine j_ Tryz.func54 rfl rfl Tryz.ntmps54 rfl fun v0=>?_
  refine Zz 2 ?_
  refine N_ rfl rfl fun b1=>N_ rfl rfl fun b2=>Zz 8 ?_
  refine d_ (mR_ x y hok1 hok2 hz1l hz1r hz2l hz2r) rfl e_ zf rfl fun _=>y_ (ay_ rfl rfl) rfl fun r1 hr1=>Zz 4 ?_
  exact E_ Tryz.results54 () (m_ rfl (by rw[← hr1])) e_ zt
theorem qp_ (x y:Ax) (hok1:x.ok) (hok2:y.ok) (hz1l:x.left.sz≤1000000) (hz1r:x.right.sz≤1000000) (hz2l:y.left.sz≤1000000) (hz2r:y.right.sz≤1000000):Tri Tryz.prog 49 #[.agg #[.int .i64 (Ax.kind x),.bool (Ax.opn x),.int .i64 (Con.kind (Ax.left x)),str (Con.name (Ax.left x)),.int .i64 (Con.lo (Ax.left x)),.int .i64 (Con.hi (Ax.left x)),.slice (Con.ad (Ax.left x)) (List.length (Con.parts (Ax.left x))) (Con.cap (Ax.left x)),.int .i64 (Con.kind (Ax.right x)),str (Con.name (Ax.right x)),.int .i64 (Con.lo (Ax.right x)),.int .i64 (Con.hi (Ax.right x)),.slice (Con.ad (Ax.right x)) (List.length (Con.parts (Ax.right x))) (Con.cap (Ax.right x)),.slice (Ax.ad x) (List.length (Ax.roles x)) (Ax.cap x),str (Ax.role x),str (Ax.a x),str (Ax.b x)],Ax.val y] [] [Ax.memF x,Ax.memF y] (fun _:Unit=>.bool ((x.opn==y.opn)&&(Ax.cmp x y==0))) (fun _=>[]) (fun _=>[]):=by
 refine j_ Tryz.func49 rfl rfl Tryz.ntmps49 rfl fun v0=>?_
 refine Zz 2 ?_
 refine N_ rfl rfl fun b1=>N_ rfl rfl fun b2=>Zz 10 ?_
 refine y_ (nd_ Tryz.underlying4 rfl rfl) rfl fun r1 hr1=>Zz 1 ?_
 cases r1
 ·refine Zz 8 ?_
  exact E_ Tryz.results49 () (m_ rfl (by simp only[hr1,if_true,if_false,decide_true,decide_false,Bool.and_true,Bool.and_false,Bool.true_and,Bool.false_and,Bool.or_true,Bool.or_false,Bool.true_or,Bool.false_or,Bool.not_true,Bool.not_false,ne_eq,not_true_eq_false,not_false_eq_true,true_and,and_true,false_and,and_false,true_or,or_true,false_or,or_false,ite_true,ite_false,Bool.false_eq_true])) e_ zt
 refine Zz 5 ?_
 refine af_ (qz_ x y hok1 hok2 hz1l hz1r hz2l hz2r) rfl e_ zf rfl fun r2 hr2=>Zz 5 ?_
 exact E_ Tryz.results49 () (m_ rfl (by rw[← hr2];simp only[hr1,if_true,if_false,decide_true,decide_false,Bool.and_true,Bool.and_false,Bool.true_and,Bool.false_and,Bool.or_true,Bool.or_false,Bool.true_or,Bool.false_or,Bool.not_true,Bool.not_false,ne_eq,not_true_eq_false,not_false_eq_true,true_and,and_true,false_and,and_false,true_or,or_true,false_or,or_false,ite_true,ite_false,Bool.false_eq_true])) e_ zt
def lm_ (x:Ax):Bool:=(x.kind==5)||(x.kind==6)||(x.kind==7)
theorem kH_ (x:Ax):Fn0 Tryz.prog 51 #[Ax.val x] (.bool (lm_ x)):=by
 refine j_ Tryz.func51 rfl rfl Tryz.ntmps51 rfl fun v0=>?_
 refine Zz 2 ?_
 refine N_ rfl rfl fun b1=>Zi 7 (fun hr1=>?_) fun hr1=>?_
 ·refine Zi 6 (fun hr2=>?_) fun hr2=>?_
  ·refine Zz 7 ?_
   refine y_ (ay_ rfl rfl) rfl fun r3 hr3=>Zz 5 ?_
   exact E_ Tryz.results51 () (m_ rfl (by unfold lm_;simp_all)) e_ zt
  refine Zz 10 ?_
  exact E_ Tryz.results51 () (m_ rfl (by unfold lm_;simp_all)) e_ zt
 refine Zz 14 ?_
 exact E_ Tryz.results51 () (m_ rfl (by unfold lm_;simp_all)) e_ zt
end Go.Proofs.YtamklbgaipakfaaGreatDoor
namespace Go.Proofs.YtamklbgaipakfaaGreatDoor
open Go Go.Sx Go.Proofs
attribute [local irreducible] Code.wp wpList wpAnyH
open Go.Vs
theorem oN_ (l:List Ax) (ad:Option Addr) (cap:Nat) (hok:∀ x∈l,x.ok) (hC:∀ x∈l,x.check=0) (hP:∀ x∈l,pln x) (hll:l.length≤1000):Tri Tryz.prog 101 #[.slice ad (List.length l) cap] [] [aR_ ad l,bn_] (fun _:Unit=>.int .i64 0) (fun _=>[]) (fun _=>[]):=by
 refine j_ Tryz.func101 rfl rfl Tryz.ntmps101 rfl fun v0=>?_
 refine Zz 14 ?_
 refine Y_ (ι:={y:Nat // y≤List.length l}) (fun y=>[(2,.int .i64 0),(6,.slice ad (List.length l) cap),(7,.int .i64 (List.length l:Int)),(8,.int .i64 (y.1:Int))]) (fun y=>([])) (fun y=>[aR_ ad l,bn_]) (fun y=>List.length l - y.1) ⟨(0:Nat),by simp⟩ zl e_ zh ?_
 rintro ⟨i,hi_i⟩
 dsimp only at hi_i ⊢
 refine Zi 2 (fun hr1=>?_) fun hr1=>?_
 ·refine Zz 12 ?_
  exact E_ Tryz.results101 () rfl e_ zt
 obtain⟨hlx1,x1,hx1,hmx1⟩:=zge (show i<List.length l by omega)
 have hkx:=hP x1 hmx1
 have hkx1:=hkx.1
 refine Zz 10 ?_
 refine c_ (C_ s_ f_ rfl rfl (fun v _ h=>q_ (n:=16) Ax.cells_len (by decide) (by exact h.1.1) hx1) (by omega) (by first|omega|(simp;done))) rfl ?_
 refine c_ (L_ (ad:=ad) (us:=Ax.cells x1) K_ f_ rfl (fun v _ h=>by exact h.1.1) (Ax.cells_len _) (o_ Ax.cells_len hx1)) rfl (G_ av_ rfl fun b1=>n_ 0 f_ rfl rfl rfl rfl rfl rfl (Zz 5 ?_))
 refine d_ (iO_ (hok x1 hmx1) (hC x1 hmx1)) rfl e_ (fun v _ h=>by exact⟨(h.1.2 x1 hmx1),h.2.1,trivial⟩) rfl fun _=>Zz 6 ?_
 refine c_ (aA_ (bR_ rfl rfl) (show _=Value.bool false from congrArg Value.bool (by decide))) rfl (Zz 10 ?_)
 exact z_ ⟨i+1,hlx1⟩ (by dsimp only;omega) zl e_ zh
theorem sm_ (l:List Ax) (ad:Option Addr) (cap:Nat) (hok:∀ x∈l,x.ok) (hC:∀ x∈l,x.check=0) (hP:∀ x∈l,pln x) (hll:l.length≤1000):Tri Tryz.prog 103 #[.slice ad (List.length l) cap] [] [aR_ ad l] (fun b:Nat=>.map (some b)) (fun b=>[(b,.map #[] 0)]) (fun _=>[]):=by
 refine j_ Tryz.func103 rfl rfl Tryz.ntmps103 rfl fun v0=>?_
 refine Zz 7 ?_
 refine ds_ rfl fun b1=>G_ Tryz.zeroValue165 rfl fun b2=>n_ 0 Tryz.sizeOf165 rfl rfl rfl rfl rfl rfl (Zz 4 ?_)
 refine c_ (dw_ rfl rfl) rfl (Zz 12 ?_)
 refine Y_ (ι:={y:Nat // y≤List.length l}) (fun y=>[(2,.map none),(3,zp_ b2 0),(4,.func (.func 187) #[] #[zp_ b2 0]),(11,.slice ad (List.length l) cap),(12,.int .i64 (List.length l:Int)),(13,.int .i64 (y.1:Int))]) (fun y=>((b2,.cells #[.map (some b1)] 165 (0,0))::((b1,.map #[] 0)::[]))) (fun y=>[aR_ ad l]) (fun y=>List.length l - y.1) ⟨(0:Nat),by simp⟩ zl zp zh ?_
 rintro ⟨i,hi_i⟩
 dsimp only at hi_i ⊢
 refine Zi 2 (fun hr1=>?_) fun hr1=>?_
 ·refine Zz 13 ?_
  exact E_ Tryz.results103 b1 rfl zp zt
 obtain⟨hlx1,x1,hx1,hmx1⟩:=zge (show i<List.length l by omega)
 have hkx:=hP x1 hmx1
 have hkx1:=hkx.1
 refine Zz 10 ?_
 refine c_ (C_ s_ f_ rfl rfl (fun v _ h=>q_ (n:=16) Ax.cells_len (by decide) (by exact h.1.1) hx1) (by omega) (by first|omega|(simp;done))) rfl ?_
 refine c_ (L_ (ad:=ad) (us:=Ax.cells x1) K_ f_ rfl (fun v _ h=>by exact h.1.1) (Ax.cells_len _) (o_ Ax.cells_len hx1)) rfl (G_ av_ rfl fun b3=>n_ 0 f_ rfl rfl rfl rfl rfl rfl (Zi 11 (fun hr2=>?_) fun hr2=>?_))
 ·refine Zi 6 (fun hr3=>?_) fun hr3=>?_
  ·refine Zz 11 ?_
   exact z_ ⟨i+1,hlx1⟩ (by dsimp only;omega) zl (V_ (l_ i_) (l_ i_)) zh
  exfalso;omega
 exfalso;omega
theorem nS_ (mb:Nat):Tri Tryz.prog 102 #[.map (some mb)] [(mb,.map #[] 0)] [] (fun y:Option Addr×Nat=>.agg #[.slice y.1 (List.length (bb_ [])) y.2,.slice none 0 0]) (fun _=>[]) (fun y=>[ac_ y.1 (List.flatMap aJ_ (bb_ []))]):=by
 refine j_ Tryz.func102 rfl rfl Tryz.ntmps102 rfl fun v0=>?_
 refine Zz 2 ?_
 refine G_ Tryz.zeroValue163 rfl fun b1=>Zz 5 ?_
 refine d_ (qg_ mb) rfl e_ zt rfl fun bx=>d_ (ix_ 239 [zp_ bx 0] [(bx,.cells #[.map (some mb)] 165 (0,0)),(mb,.map #[] 0)] [] List.nodup_nil (by simp) (qh_ mb bx 0 #[] [] KeyE.nil (Born.nil 0) (by simp))) rfl zp zt rfl fun⟨⟨sad9,scp9⟩,hs91,hs92,hs93⟩=>?_
 dsimp only
 have hs0:bb_ []=[]:=List.mergeSort_nil
 have hsl0:List.length (bb_ [])=0:=by rw[hs0];rfl
 refine Zz 1 ?_
 refine n_ 2 vb_ rfl rfl rfl rfl rfl rfl (Zz 12 ?_)
 refine Y_ (ι:={y:Nat // y≤List.length (bb_ [])}) (fun y=>[(0,.map (some mb)),(2,zp_ b1 0),(15,.slice sad9 (List.length (bb_ [])) scp9),(16,.int .i64 (List.length (bb_ []):Int)),(17,.int .i64 (y.1:Int))]) (fun y=>((b1,.cells #[.slice sad9 (List.length (bb_ [])) scp9,.slice none 0 0] 163 (0,0))::[])) (fun y=>[ac_ sad9 (List.flatMap aJ_ (bb_ []))]) (fun y=>List.length (bb_ []) - y.1) ⟨(0:Nat),by simp⟩ zl (l_ (l_ i_)) zh ?_
 rintro ⟨i,hi_i⟩
 dsimp only at hi_i ⊢
 refine Zi 2 (fun hr1=>?_) fun hr1=>?_
 ·refine Zz 9 ?_
  refine n_ 0 gv_ rfl rfl rfl rfl rfl rfl (Zz 3 ?_)
  exact cr_ ⟨sad9,scp9⟩ (fun aa v h1 h2=>dT_ (us:=[.slice sad9 (List.length (bb_ [])) scp9,.slice none 0 0]) 0 Tryz.results102 Tryz.isAgg163 gv_ rfl rfl rfl aa v h1 h2) e_ zf
 exfalso;rw[hs0]at *;simp only[List.length_nil]at *;omega
theorem oO_ (l:List Ax) (ad:Option Addr) (cap:Nat) (hok:∀ x∈l,x.ok) (hC:∀ x∈l,x.check=0) (hP:∀ x∈l,pln x) (hll:l.length≤1000):Tri Tryz.prog 52 #[.slice ad (List.length l) cap] [] [aR_ ad l,bn_] (fun _:Unit=>.tuple #[.slice none 0 0,.int .i64 0]) (fun _=>[]) (fun _=>[]):=by
 refine j_ Tryz.func52 rfl rfl Tryz.ntmps52 rfl fun v0=>?_
 refine Zz 10 ?_
 refine d_ (oN_ l ad cap hok hC hP hll) rfl e_ zf rfl fun _=>Zz 6 ?_
 refine c_ (aA_ (bR_ rfl rfl) (show _=Value.bool false from congrArg Value.bool (by decide))) rfl (Zz 8 ?_)
 refine d_ (sm_ l ad cap hok hC hP hll) rfl e_ zf rfl fun mb=>d_ (nS_ mb) rfl i_ zt rfl fun⟨sad9,scp9⟩=>?_
 dsimp only
 have hs0:bb_ []=[]:=List.mergeSort_nil
 have hsl0:List.length (bb_ [])=0:=by rw[hs0];rfl
 refine G_ Tryz.zeroValue163 rfl fun b1=>n_ 0 gv_ rfl rfl rfl rfl rfl rfl (Zz 26 ?_)
 refine Y_ (ι:={y:Nat // y≤List.length (bb_ [])}) (fun y=>[(2,.slice none 0 0),(3,.int .i64 0),(5,zp_ b1 0),(6,.int .i64 ((List.length (bb_ []):Int)+1)),(7,.slice none 0 0),(26,.int .i64 (List.length (bb_ []):Int)),(27,.int .i64 (y.1:Int))]) (fun y=>((b1,.cells #[.slice sad9 (List.length (bb_ [])) scp9,.slice none 0 0] 163 (0,0))::[])) (fun y=>[ac_ sad9 (List.flatMap aJ_ (bb_ [])),aR_ ad l,bn_]) (fun y=>List.length (bb_ []) - y.1) ⟨(0:Nat),by simp⟩ zl i_ zh ?_
 rintro ⟨i,hi_i⟩
 dsimp only at hi_i ⊢
 refine Zi 2 (fun hr1=>?_) fun hr1=>?_
 ·refine Zz 10 ?_
  refine c_ (aA_ (na_ (ad:=none) (m:=0) (c:=0) Tryz.underlying27 rfl rfl) (show _=Value.bool true from rfl)) rfl (Zz 10 ?_)
  exact fr_ Tryz.results52 () rfl rfl rfl e_ zt
 exfalso;rw[hs0]at *;simp only[List.length_nil]at *;omega
theorem mU_ (l:List Ax) (ad:Option Addr) (cap:Nat) (hok:∀ x∈l,x.ok) (hC:∀ x∈l,x.check=0) (hP:∀ x∈l,pln x) (hll:l.length≤1000) (hz:∀ x∈l,x.left.sz≤1000000∧x.right.sz≤1000000) (hS:∀ (i:Nat) x y,l[i]? = some x→l[i+1]? = some y→Ax.cmp x y=-1):Tri Tryz.prog 19 #[.agg #[.slice ad (List.length l) cap]] [] [aR_ ad l,bn_] (fun _:Unit=>.int .i64 0) (fun _=>[]) (fun _=>[]):=by
 refine j_ Tryz.func19 rfl rfl Tryz.ntmps19 rfl fun v0=>?_
 refine Zz 2 ?_
 refine N_ rfl rfl fun b1=>Zz 13 ?_
 refine Y_ (ι:={y:Nat // y≤List.length l}) (fun y=>[(1,zp_ b1 0),(2,.int .i64 0),(11,.slice ad (List.length l) cap),(12,.int .i64 (List.length l:Int)),(13,.int .i64 (y.1:Int))]) (fun y=>((b1,.cells #[.slice ad (List.length l) cap] 37 (0,0))::[])) (fun y=>[aR_ ad l,bn_]) (fun y=>List.length l - y.1) ⟨(0:Nat),by simp⟩ zl i_ zh ?_
 rintro ⟨i,hi_i⟩
 dsimp only at hi_i ⊢
 refine Zi 2 (fun hr1=>?_) fun hr1=>?_
 ·refine Zz 13 ?_
  refine Y_ (ι:={y:Nat // 1≤y}) (fun y=>[(1,zp_ b1 0),(2,.int .i64 0),(7,.int .i64 (y.1:Int))]) (fun y=>((b1,.cells #[.slice ad (List.length l) cap] 37 (0,0))::[])) (fun y=>[aR_ ad l,bn_]) (fun y=>List.length l - y.1) ⟨(1:Nat),by simp⟩ zl i_ zh ?_
  rintro ⟨k3,hi1⟩
  dsimp only at hi1 ⊢
  refine Zi 7 (fun hr2=>?_) fun hr2=>?_
  ·refine Zi 11 (fun hr3=>?_) fun hr3=>?_
   ·refine Zz 15 ?_
    refine Y_ (ι:={y:Nat // y≤List.length l}) (fun y=>[(1,zp_ b1 0),(2,.int .i64 0),(56,.slice ad (List.length l) cap),(57,.int .i64 (List.length l:Int)),(58,.int .i64 (y.1:Int))]) (fun y=>((b1,.cells #[.slice ad (List.length l) cap] 37 (0,0))::[])) (fun y=>[aR_ ad l,bn_]) (fun y=>List.length l - y.1) ⟨(0:Nat),by simp⟩ zl i_ zh ?_
    rintro ⟨j,hi_j⟩
    dsimp only at hi_j ⊢
    refine Zi 2 (fun hr4=>?_) fun hr4=>?_
    ·refine Zz 10 ?_
     refine d_ (oO_ l ad cap hok hC hP hll) rfl e_ zf rfl fun _=>Zz 13 ?_
     exact E_ gz_ () rfl e_ zt
    have hlz1:j<List.length l:=by omega
    obtain⟨z1,hz1⟩:∃ e0,l[j]? = some e0:=⟨_,List.getElem?_eq_getElem hlz1⟩
    have hmz1:z1∈l:=List.mem_of_getElem? hz1
    have hkz:=(hP z1 hmz1).1
    refine Zz 10 ?_
    refine c_ (C_ s_ f_ rfl rfl (fun v _ h=>q_ (n:=16) Ax.cells_len (by decide) (by exact h.1.1) hz1) (by omega) (by first|omega|(simp;done))) rfl ?_
    refine c_ (L_ (ad:=ad) (us:=Ax.cells z1) K_ f_ rfl (fun v _ h=>by exact h.1.1) (Ax.cells_len _) (o_ Ax.cells_len hz1)) rfl (G_ av_ rfl fun b2=>n_ 0 f_ rfl rfl rfl rfl rfl rfl (Zz 5 ?_))
    refine af_ (kH_ z1) rfl e_ zt rfl fun r5 hr5=>Zz 1 ?_
    cases r5
    ·refine Zz 14 ?_
     exact z_ ⟨j+1,hlz1⟩ (by dsimp only;omega) zl (l_ i_) zh
    exfalso;simp[lm_,hkz]at *
   exfalso;omega
  obtain⟨i0,rfl⟩:∃ i0,k3=i0+1:=⟨k3 - 1,by omega⟩
  obtain⟨hlx1,x1,hx1,hmx1⟩:=zge (show i0<List.length l by omega)
  have hly1:(i0+1:Nat)<List.length l:=by omega
  obtain⟨y1,hy1⟩:∃ e0,l[(i0+1:Nat)]? = some e0:=⟨_,List.getElem?_eq_getElem hly1⟩
  have hmy1:y1∈l:=List.mem_of_getElem? hy1
  refine Zz 9 ?_
  refine Q_ 2 [0,1,2,3,4,5,6,7,8,9,10] zk zs (Zz 3 ?_)
  refine P_ rfl (aA_ (as_ rfl rfl rfl (aV_ (by omega) (by omega))) (show _=Value.int .i64 (i0:Int) from congrArg _ (by omega))) rfl ?_
  refine P_ rfl (C_ s_ f_ rfl rfl (fun v _ h=>q_ (n:=16) Ax.cells_len (by decide) (by exact h.1.1) hx1) (by omega) (by first|omega|(simp;done))) rfl ?_
  refine P_ rfl (L_ (ad:=ad) (us:=Ax.cells x1) K_ f_ rfl (fun v _ h=>by exact h.1.1) (Ax.cells_len _) (o_ Ax.cells_len hx1)) rfl (Zz 3 ?_)
  refine P_ rfl (C_ s_ f_ rfl rfl (fun v _ h=>q_ (n:=16) Ax.cells_len (by decide) (by exact h.1.1) hy1) (by omega) (by first|omega|(simp;done))) rfl ?_
  refine P_ rfl (L_ (ad:=ad) (us:=Ax.cells y1) K_ f_ rfl (fun v _ h=>by exact h.1.1) (Ax.cells_len _) (o_ Ax.cells_len hy1)) rfl (ba_ (p_ 11 rfl zk (d_ (mR_ x1 y1 (hok x1 hmx1) (hok y1 hmy1) (hz x1 hmx1).1 (hz x1 hmx1).2 (hz y1 hmy1).1 (hz y1 hmy1).2) rfl e_ (fun v _ h=>by exact⟨(h.1.2 x1 hmx1),(h.1.2 y1 hmy1),trivial⟩) rfl fun _=>Zz 3 ?_)))
  refine Q_ 0 [12] zk zs ?_
  refine Zi 0 (fun hr6=>?_) fun hr6=>?_
  ·refine Zz 8 ?_
   refine c_ (aA_ (as_ rfl rfl rfl (aV_ (by omega) (by omega))) (show _=Value.int .i64 ((i0+1+1:Nat):Int) from congrArg _ (by omega))) rfl (Zz 3 ?_)
   exact z_ ⟨i0+1+1,by omega⟩ (by dsimp only;omega) zl i_ zh
  exfalso;exact hr6 (hS i0 x1 y1 hx1 hy1)
 obtain⟨hlx1,x1,hx1,hmx1⟩:=zge (show i<List.length l by omega)
 have hkx:=hP x1 hmx1
 have hkx1:=hkx.1
 refine Zz 10 ?_
 refine c_ (C_ s_ f_ rfl rfl (fun v _ h=>q_ (n:=16) Ax.cells_len (by decide) (by exact h.1.1) hx1) (by omega) (by first|omega|(simp;done))) rfl ?_
 refine c_ (L_ (ad:=ad) (us:=Ax.cells x1) K_ f_ rfl (fun v _ h=>by exact h.1.1) (Ax.cells_len _) (o_ Ax.cells_len hx1)) rfl (G_ av_ rfl fun b3=>n_ 0 f_ rfl rfl rfl rfl rfl rfl (Zz 5 ?_))
 refine d_ (qI_ x1 (hok x1 hmx1) (hC x1 hmx1) (hP x1 hmx1)) rfl e_ (fun v _ h=>by exact⟨(h.1.2 x1 hmx1),h.2.1,trivial⟩) rfl fun _=>Zz 3 ?_
 refine G_ av_ rfl fun b4=>n_ 0 f_ rfl rfl rfl rfl rfl rfl (Zz 7 ?_)
 refine c_ (aA_ (bR_ rfl rfl) (show _=Value.bool false from congrArg Value.bool (by decide))) rfl (Zz 8 ?_)
 refine c_ (A_ oH_ rfl rfl) rfl (Zz 1 ?_)
 refine af_ (qp_ x1 x1 (hok x1 hmx1) (hok x1 hmx1) (hz x1 hmx1).1 (hz x1 hmx1).2 (hz x1 hmx1).1 (hz x1 hmx1).2) rfl e_ (fun v _ h=>by exact⟨(h.1.2 x1 hmx1),(h.1.2 x1 hmx1),trivial⟩) rfl fun r7 hr7=>c_ (aG_ rfl) rfl (Zz 2 ?_)
 cases r7
 ·exfalso;rw[Ax.cmp_self]at hr7;simp at hr7
 refine Zz 8 ?_
 exact z_ ⟨i+1,hlx1⟩ (by dsimp only;omega) zl (l_ (l_ i_)) zh
end Go.Proofs.YtamklbgaipakfaaGreatDoor
namespace Go.Proofs.YtamklbgaipakfaaGreatDoor
open Go Go.Sx Go.Proofs
attribute [local irreducible] Code.wp wpList wpAnyH
open Go.Vs
structure PL where
  l:List Pc
  ad:Option Addr
  cap:Nat
def PL.cells (x:PL):List Value:=[.slice x.ad x.l.length x.cap]
theorem PL.cells_len (x:PL):x.cells.length=1:=rfl
structure PL.ok (x:PL):Prop where
  le:x.l.length≤x.cap
  nz:x.ad=none→x.cap=0
  sh:x.l.length≤100000
def plF (xs:List PL):Fct where
  p v:=∀ x∈xs,bA_ v x.ad (List.flatMap Pc.cells x.l)
  mono:=fun v v' h hp x hx=>(ac_ x.ad (List.flatMap Pc.cells x.l)).mono v v' h (hp x hx)
def gd_ (xs:List PL):List Pc:=List.flatMap PL.l xs
theorem oW_ {xs:List PL} {i:Nat} {x:PL} (h:xs[i]? = some x):gd_ (xs.take (i+1))=gd_ (xs.take i)++x.l:=by unfold gd_;rw[List.take_add_one,h];simp
theorem rl_ {xs:List PL} (h:∀ x∈xs,x.ok) (i:Nat):(gd_ (xs.take i)).length≤min i xs.length*100000:=by
  have:=vh_ (g:=PL.l) (n:=100000) (xs.take i) fun x hx=>(h x (List.mem_of_mem_take hx)).sh
  rwa [List.length_take]at this
theorem uH_ (n:Nat) (hn:n≤1000000000):Tri Tryz.prog 115 #[.slice none 0 0,.int .i64 (n:Int)] [] [] (fun y:{y:Value×Hp // ar_ 58 10 y.1 0 [] y.2}=>y.1.1) (fun y=>y.1.2) (fun _=>[]):=by
 refine j_ Tryz.func115 rfl rfl Tryz.ntmps115 rfl fun v0=>?_
 refine Zi 9 (fun hr1=>?_) fun hr1=>?_
 ·refine Zz 10 ?_
  refine c_ (nc_ x_ rfl) rfl (Zz 3 ?_)
  refine c_ (aA_ (as_ rfl rfl rfl (aV_ (by omega) (by omega))) (show Value.int .i64 ((n:Int) - (0 - 0))=Value.int .i64 (n:Int) from congrArg _ (by omega))) rfl (Zi 6 (fun hr2=>?_) fun hr2=>?_)
  ·refine Zz 12 ?_
   exact E_ Tryz.results115 ⟨(.slice none 0 0,[]),ar_.nil _ _⟩ rfl e_ zt
  refine Zz 6 ?_
  refine c_ (nc_ x_ rfl) rfl (c_ (aA_ (df_ (i:=0) (j:=0) (kl:=.i64) (kh:=.i64) x_ aw_ rfl rfl rfl (by omega) (by omega)) (show _=Value.slice none 0 0 from rfl)) rfl (Zz 1 ?_))
  refine nN_ (n:=n) tu_ w_ rfl rfl (by omega) (by omega) (by simp only[maxLen];omega) rfl fun yz bz hz=>?_
  refine Zz 2 ?_
  refine c_ (aA_ (df_ (i:=0) (j:=0) (kl:=.i64) (kh:=.i64) x_ aw_ rfl rfl rfl (by omega) (by omega)) (show _=Value.slice (some ⟨bz,0,none⟩) 0 yz.1 by simp[sy_])) rfl (Zz 10 ?_)
  exact E_ Tryz.results115 ⟨(.slice (some ⟨bz,0,none⟩) 0 yz.1,[(bz,.cells yz.2 58 (0,0))]),qO_ hz.2.1 hz.2.2⟩ rfl i_ zt
 exfalso;omega
theorem tB_ (xs:List PL) (xad:Option Addr) (xcap:Nat) (hok:∀ x∈xs,x.ok) (hl:xs.length≤100):Tri Tryz.prog 59 #[.slice xad (List.length xs) xcap] [] [ac_ xad (List.flatMap PL.cells xs),plF xs] (fun y:{y:Option Addr×Nat // ((gd_ xs)).length≤y.2∧y.2≤maxLen∧(y.1=none→y.2=0)}=>.slice y.1.1 ((gd_ xs)).length y.1.2) (fun _=>[]) (fun y=>[ac_ y.1.1 (((gd_ xs)).flatMap Pc.cells)]):=by
 refine j_ Tryz.func59 rfl rfl Tryz.ntmps59 rfl fun v0=>?_
 refine Zz 19 ?_
 refine Y_ (ι:={y:Nat×Nat // y.1≤List.length xs∧y.2≤y.1*100000}) (fun y=>[(0,.slice xad (List.length xs) xcap),(3,.int .i64 (y.1.2:Int)),(9,.slice xad (List.length xs) xcap),(10,.int .i64 (List.length xs:Int)),(11,.int .i64 (y.1.1:Int))]) (fun y=>([])) (fun y=>[ac_ xad (List.flatMap PL.cells xs),plF xs]) (fun y=>List.length xs - y.1.1) ⟨((0:Nat),(0:Nat)),by simp,by simp⟩ zl e_ zh ?_
 rintro ⟨⟨i,w⟩,hi,hw⟩
 dsimp only at hi hw ⊢
 refine Zi 2 (fun hr1=>?_) fun hr1=>?_
 ·refine Zz 9 ?_
  refine d_ (uH_ w (by omega)) rfl e_ zt rfl fun⟨⟨svg9,Hg9⟩,hg9⟩=>?_
  dsimp only
  dsimp only at hg9
  refine u_ dO_ ?_
  have hg8:ar_ 58 10 svg9 (List.length (gd_ (List.take 0 xs))) (List.flatMap Pc.cells (gd_ (List.take 0 xs))) Hg9:=by exact hg9
  refine Zz 12 ?_
  refine Y_ (ι:={y:Nat×Value×Hp // y.1≤List.length xs∧zR 58 10 Pc.cells y.2.1 (gd_ (List.take y.1 xs)) y.2.2}) (fun y=>[(0,.slice xad (List.length xs) xcap),(6,y.1.2.1),(25,.slice xad (List.length xs) xcap),(26,.int .i64 (List.length xs:Int)),(27,.int .i64 (y.1.1:Int))]) (fun y=>(y.1.2.2)) (fun y=>[ac_ xad (List.flatMap PL.cells xs),plF xs]) (fun y=>List.length xs - y.1.1) ⟨((0:Nat),svg9,Hg9),by simp,hg8⟩ zl am_ zh ?_
  rintro ⟨⟨j,sv_Rp,H_Rp⟩,hj,hr_Rp⟩
  dsimp only at hj hr_Rp ⊢
  have hpl:=rl_ hok j
  refine Zi 2 (fun hr2=>?_) fun hr2=>?_
  ·rw[List.take_of_length_le (by omega)]at hr_Rp
   refine Zz 13 ?_
   refine bu_ hr_Rp am_ fun ad2 cp2 had2 hcad2 hmad2 hzad2=>?_
   exact E_ Tryz.results59 ⟨(ad2,cp2),hcad2,hmad2,hzad2⟩ (bI_ rfl had2) e_ zf
  obtain⟨hlx2,x2,hx2,hmx2⟩:=zge (show j<List.length xs by omega)
  have hsh1:=(hok x2 hmx2).sh
  refine Zz 10 ?_
  refine c_ (C_ bw_ fx_ rfl rfl (fun v _ h=>q_ (n:=1) PL.cells_len (by decide) (by exact h.1) hx2) (by omega) (by first|omega|(simp;done))) rfl ?_
  refine c_ (bt_ (ad:=xad) po_ rfl zf (o_ PL.cells_len hx2 0 _ rfl)) rfl (Zz 6 ?_)
  refine nO_ (news:=List.flatMap Pc.cells (PL.l x2)) tu_ hr_Rp rfl rfl (hok x2 hmx2).nz (hok x2 hmx2).le am_ (by rw[ey_ Pc.cells 10 Pc.cells_len]) (fun v _ h=>by exact (h.2.1 x2 hmx2)) (fun u hu=>bY_ Pc.cells_one hu) (by simp only[maxLen];(have:=(hok x2 hmx2).sh;omega)) (by (have:=(hok x2 hmx2).sh;omega)) rfl fun sv1 Hr1 hr1=>?_
  refine u_ List.perm_append_comm ?_
  have hq1:=zsa hr1
  refine Zz 8 ?_
  exact z_ ⟨(j+1,sv1,Hr1),hlx2,(by rw[oW_ hx2];exact hq1)⟩ (by dsimp only;omega) zl am_ zh
 obtain⟨hlx1,x1,hx1,hmx1⟩:=zge (show i<List.length xs by omega)
 have hsh1:=(hok x1 hmx1).sh
 refine Zz 10 ?_
 refine c_ (C_ bw_ fx_ rfl rfl (fun v _ h=>q_ (n:=1) PL.cells_len (by decide) (by exact h.1) hx1) (by omega) (by first|omega|(simp;done))) rfl ?_
 refine c_ (bt_ (ad:=xad) po_ rfl zf (o_ PL.cells_len hx1 0 _ rfl)) rfl (Zi 15 (fun hr3=>?_) fun hr3=>?_)
 ·refine Zz 10 ?_
  exact z_ ⟨(i+1,w+List.length (PL.l x1)),hlx1,by have:=(hok x1 hmx1).sh;dsimp only;omega⟩ (by dsimp only;omega) ⟨rfl,(O_ rfl (by push_cast;rfl)),rfl,rfl,rfl,trivial⟩ e_ zh
 exfalso;omega
end Go.Proofs.YtamklbgaipakfaaGreatDoor
