/-
  Part of the proof of the law ModuleShrinks over this seat: the small logic, the data, the contracts of functions (no condition).
-/
import Derived.Test.YtamklbgaipakfaaGreatDoorQModuleShrinks6
import Derived.Test.YtamklbgaipakfaaGreatDoorQModuleShrinks3
import Derived.Lib.SlicesCompact
import Derived.Sort.EncStr
import Derived.Test.YtamklbgaipakfaaGreatDoorQModuleShrinks5
import Derived.Test.YtamklbgaipakfaaGreatDoorQModuleShrinks2
import Derived.Test.YtamklbgaipakfaaGreatDoorProg
import Derived.ArgAppend
set_option linter.unusedVariables false
set_option linter.unusedSimpArgs false
set_option linter.unusedSectionVars false
set_option maxHeartbeats 1000000
namespace Go.Vs
open Go Go.Sx
structure PQ (f:Int) (q:Pc):Prop where
  frm:q.frm=f
  sm:q.sm
  ok:q.valid=true
section
variable {f:Int} (h0:-1≤f) (h1:f<1024) {a b c r s t:Str} {lo hi:Int}
include h0 h1
theorem se_ (ha:bX_ a=true) (hc:bX_ c=true):Pc.valid ⟨1,a,[],c,[],[],[],0,0,f⟩=true:=by
  unfold Pc.valid;rw[if_neg (by simp;omega)];simp[nus,ge_,hA_,ha,hc]
theorem val2 (ha:bX_ a=true) (hb:bX_ b=true) (hc:bX_ c=true):Pc.valid ⟨2,a,b,c,[],[],[],0,0,f⟩=true:=by
  unfold Pc.valid;rw[if_neg (by simp;omega)];simp[nus,ge_,hA_,ha,hb,hc]
theorem val3 (ha:bX_ a=true) (hr:ed_ r=true) (hc:bX_ c=true):Pc.valid ⟨3,a,[],c,r,[],[],0,0,f⟩=true:=by
  unfold Pc.valid;rw[if_neg (by simp;omega)];simp[nus,ge_,hA_,ha,hr,hc]
theorem val4 (ha:bX_ a=true) (hr:ed_ r=true) (hc:bX_ c=true):Pc.valid ⟨4,a,[],c,r,[],[],0,0,f⟩=true:=by
  unfold Pc.valid;rw[if_neg (by simp;omega)];simp[nus,ge_,hA_,ha,hr,hc]
theorem val5 (hr:ed_ r=true) (ht:ed_ t=true):Pc.valid ⟨5,[],[],[],r,[],t,0,0,f⟩=true:=by
  unfold Pc.valid;rw[if_neg (by simp;omega)];simp[nus,ge_,hA_,hr,ht]
theorem val6 (hr:ed_ r=true) (hs:ed_ s=true) (ht:ed_ t=true):Pc.valid ⟨6,[],[],[],r,s,t,0,0,f⟩=true:=by
  unfold Pc.valid;rw[if_neg (by simp;omega)];simp[nus,ge_,hA_,hr,hs,ht]
theorem val7 (hr:ed_ r=true):Pc.valid ⟨7,[],[],[],r,[],[],0,0,f⟩=true:=by
  unfold Pc.valid;rw[if_neg (by simp;omega)];simp[nus,ge_,hA_,hr]
theorem val8 (ha:bX_ a=true) (hr:aQ_ r=true) (hn:-1099511627776≤lo∧lo≤hi∧hi≤1099511627776):Pc.valid ⟨8,a,[],[],r,[],[],lo,hi,f⟩=true:=by
  unfold Pc.valid;rw[if_neg (by simp;omega),if_neg (by simp[nus,ge_];omega)];simp[nus,ge_,hA_,ha,hr]
theorem val9 (hc:bX_ c=true) (hr:aQ_ r=true) (hn:-1099511627776≤lo∧lo≤hi∧hi≤1099511627776):Pc.valid ⟨9,[],[],c,r,[],[],lo,hi,f⟩=true:=by
  unfold Pc.valid;rw[if_neg (by simp;omega),if_neg (by simp[nus,ge_];omega)];simp[nus,ge_,hA_,hc,hr]
end
theorem cO_ {Q:Pc→Prop} {f:Int} {l:List Pc} {p:Pc} (hl:∀ q∈l,Q q) (hp:Q { p with frm:=f }):∀ q∈ins f l p,Q q:=by
 unfold ins
 split
 ·exact hl
 intro q hq
 rcases List.mem_append.1 hq with hq|hq
 ·exact hl q hq
 simp only[List.mem_singleton]at hq;subst hq;exact hp
theorem do_ {s:Str} (h:bk_ s=true):s.length≤24:=Con.plain_len h
theorem iC_ {s:Str} (h:aQ_ s=true):s.length≤24:=by
 simp only[aQ_,Bool.or_eq_true]at h
 rcases h with h|h
 ·exact Con.plain_len h
 exact Con.reserved_len h
namespace Con
section
variable {f:Int} (h0:-1≤f) (h1:f<1024)
include h0 h1
theorem ov_ (c:Con) (hok:c.ok) (hc:c.check=0) (hk:c.kind=5):∀ (r:List Con) (j:Nat) (a:Str) (l:List Pc),1≤j→j+r.length≤c.parts.length→(∀ p∈r,p∈c.parts)→bX_ a=true→a.length≤7000→(∀ q∈l,PQ f q)→∀ q∈andP f c r j a l,PQ f q
  | [],_,_,l,_,_,_,_,_,hl=>hl
  | p::r,j,a,l,hj,hlen,hm,ha,hal,hl=>by
    simp only[List.length_cons]at hlen
    have hp:=hm p (by simp)
    have hpre:=rh_ hc hk (j:=j+1) (by omega) (by omega)
    have x1:=atom_ok hpre
    have x2:=atom_len (pre_ok hok (j+1)) hpre
    have x3:=atom_ok (check_part hc hp)
    have x4:=atom_len (ok_part hok hp) (check_part hc hp)
    simp only[andP]
    exact ov_ c hok hc hk r (j+1) _ _ (by omega) (by omega) (fun q hq=>hm q (by simp[hq])) x1 x2
      (cO_ hl ⟨rfl,⟨by dsimp only;omega,by dsimp only;omega,by dsimp only;omega,by simp,by simp,by simp⟩,val2 h0 h1 ha x3 x1⟩)
theorem leftP_all:∀ (m:Nat) (c:Con),c.sz≤m→c.ok→c.check=0→∀ l,(∀ q∈l,PQ f q)→∀ q∈c.leftP f l,PQ f q
 | 0,c,h=>by have:=c.sz_pos;omega
 | m+1,c,h=>fun hok hc l hl=>by
   have key:∀ ps:List Con,(∀ p∈ps,p∈c.parts)→∀ l,(∀ q∈l,PQ f q)→∀ q∈leftP.lefts f ps l,PQ f q:=by
     intro ps
     induction ps with
     | nil=>intro _ l hl;exact hl
     | cons p ps ih =>
       intro hp l hl
       have hpm:=hp p (by simp)
       exact ih (fun q hq=>hp q (by simp[hq])) _ (leftP_all m p (by have:=sz_part hpm;omega) (ok_part hok hpm) (check_part hc hpm) l hl)
   have hk:=key c.parts (fun _ h=>h) l hl
   have F:=fields (check_zero hc).1
   have N:=kk_ (check_zero hc).1
   have ca:=atom_ok hc
   have cl:=atom_len hok hc
   rw[leftP_eq]
   split
   · rename_i h5
     have hle:=F.le
     rw[h5]at hle
     simp[nd,dL_]at hle
     match hp:c.parts,hle with
     | [],hle=>simp at hle
     | p::r,_ =>
       have hpm:p∈c.parts:=by rw[hp];simp
       have x3:=atom_ok (check_part hc hpm)
       have x4:=atom_len (ok_part hok hpm) (check_part hc hpm)
       refine ov_ h0 h1 c hok hc h5 _ 1 _ _ (by omega) (by rw[hp];simp;omega) (fun q hq=>by rw[hp];exact List.mem_of_mem_drop hq) (by simpa using x3) (by simpa using x4) (by rw[hp]at hk;exact hk)
   · split
     · rename_i h6
       have hle:=F.le
       rw[h6]at hle
       simp[nd,dL_]at hle
       have hpl:=N.plain (.inr (.inl h6))
       match hp:c.parts,hle with
       | [],hle=>simp at hle
       | p::r,_ =>
         have hpm:p∈c.parts:=by rw[hp];simp
         have x3:=atom_ok (check_part hc hpm)
         have x4:=atom_len (ok_part hok hpm) (check_part hc hpm)
         have x5:=do_ hpl
         rw[hp]at hk
         exact cO_ hk ⟨rfl,⟨by simp;omega,by simp,by dsimp only;omega,by dsimp only;omega,by simp,by simp⟩,val4 h0 h1 (by simpa using x3) (cS_ hpl) ca⟩
     · split
       · rename_i h7
         have hpl:=N.plain (.inr (.inr h7))
         have x5:=do_ hpl
         exact cO_ hl ⟨rfl,⟨by simp,by simp,by dsimp only;omega,by dsimp only;omega,by simp,by simp⟩,val9 h0 h1 ca (cE_ hpl) (N.nums h7)⟩
       · exact hl
theorem rightP_all:∀ (m:Nat) (c:Con),c.sz≤m→c.ok→c.check=0→∀ l,(∀ q∈l,PQ f q)→∀ q∈c.rightP f l,PQ f q
 | 0,c,h=>by have:=c.sz_pos;omega
 | m+1,c,h=>fun hok hc l hl=>by
   have ca:=atom_ok hc
   have cl:=atom_len hok hc
   have key:∀ ps:List Con,(∀ p∈ps,p∈c.parts)→∀ l,(∀ q∈l,PQ f q)→∀ q∈rightP.rights f c.atom ps l,PQ f q:=by
     intro ps
     induction ps with
     | nil=>intro _ l hl;exact hl
     | cons p ps ih =>
       intro hp l hl
       have hpm:=hp p (by simp)
       have x3:=atom_ok (check_part hc hpm)
       have x4:=atom_len (ok_part hok hpm) (check_part hc hpm)
       exact ih (fun q hq=>hp q (by simp[hq])) _ (rightP_all m p (by have:=sz_part hpm;omega) (ok_part hok hpm) (check_part hc hpm) _
         (cO_ hl ⟨rfl,⟨by dsimp only;omega,by simp,by dsimp only;omega,by simp,by simp,by simp⟩,se_ h0 h1 ca x3⟩))
   have key2:∀ ps:List Con,(∀ p∈ps,p∈c.parts)→∀ l,(∀ q∈l,PQ f q)→∀ q∈rightP.righty f ps l,PQ f q:=by
     intro ps
     induction ps with
     | nil=>intro _ l hl;exact hl
     | cons p ps ih =>
       intro hp l hl
       have hpm:=hp p (by simp)
       exact ih (fun q hq=>hp q (by simp[hq])) _ (rightP_all m p (by have:=sz_part hpm;omega) (ok_part hok hpm) (check_part hc hpm) l hl)
   have F:=fields (check_zero hc).1
   have N:=kk_ (check_zero hc).1
   rw[rightP_eq]
   split
   · exact key c.parts (fun _ h=>h) l hl
   · split
     · rename_i h6
       have hle:=F.le
       rw[h6]at hle
       simp[nd,dL_]at hle
       have hpl:=N.plain (.inr (.inl h6))
       have x5:=do_ hpl
       refine key2 c.parts (fun _ h=>h) _ (cO_ hl ?_)
       match hp:c.parts,hle with
       | [],hle=>simp at hle
       | p::r,_ =>
         have hpm:p∈c.parts:=by rw[hp];simp
         have x3:=atom_ok (check_part hc hpm)
         have x4:=atom_len (ok_part hok hpm) (check_part hc hpm)
         exact⟨rfl,⟨by dsimp only;omega,by simp,by simp;omega,by dsimp only;omega,by simp,by simp⟩,val3 h0 h1 ca (cS_ hpl) (by simpa using x3)⟩
     · split
       · rename_i h7
         have hpl:=N.plain (.inr (.inr h7))
         have x5:=do_ hpl
         exact cO_ hl ⟨rfl,⟨by dsimp only;omega,by simp,by simp,by dsimp only;omega,by simp,by simp⟩,val8 h0 h1 ca (cE_ hpl) (N.nums h7)⟩
       · exact hl
end
end Con
namespace Ax
section
variable {f:Int} (h0:-1≤f) (h1:f<1024)
include h0 h1
theorem kE_ (role:Str) (hr:bk_ role=true):∀ (rs:List Str) (g:Str) (l:List Pc),(∀ r∈rs,bk_ r=true)→(bF_ 46 g).length+rs.length≤4→((bF_ 46 g).all aQ_=true)→g.length≤100*(bF_ 46 g).length→(∀ q∈l,PQ f q)→∀ q∈chainP f role rs g l,PQ f q
 | [],_,_,_,_,_,_,hl=>hl
 | r::t,g,l,hp,hn,hg,hgl,hl=>by
   have hpr:=hp r (by simp)
   have hrl:=do_ hpr
   have hrol:=do_ hr
   simp only[List.length_cons]at hn
   have hgr:ed_ g=true:=by
     unfold ed_
     rw[decide_eq_true (by omega)]
     simp only[Bool.true_and,Bool.not_eq_true']
     rw[List.any_eq_false]
     intro y hy
     simp[List.all_eq_true.1 hg y hy]
   simp only[chainP]
   by_cases ht:t=[]
   · subst ht
     simp only[if_true,chainP]
     exact cO_ hl ⟨rfl,⟨by simp,by simp,by simp,by dsimp only;omega,by dsimp only;omega,by dsimp only;omega⟩,val6 h0 h1 hgr (cS_ hpr) (cS_ hr)⟩
   · simp only[ht,if_false]
     have htl:0<t.length:=List.length_pos_iff.2 ht
     have e:=jW_ 46 g r
     rw[gA_ hpr]at e
     have hall:(bF_ 46 (g++[46]++r)).all aQ_=true:=by rw[e,List.all_append,hg];simp[cE_ hpr]
     have hlen:(bF_ 46 (g++[46]++r)).length=(bF_ 46 g).length+1:=by rw[e];simp
     have hgl2:(g++[46]++r).length≤100*(bF_ 46 (g++[46]++r)).length:=by rw[hlen];simp;omega
     have hgr2:ed_ (g++[46]++r)=true:=by
       unfold ed_
       rw[decide_eq_true (by omega)]
       simp only[Bool.true_and,Bool.not_eq_true']
       rw[List.any_eq_false]
       intro y hy
       simp[List.all_eq_true.1 hall y hy]
     exact kE_ role hr t _ _ (fun q hq=>hp q (by simp[hq])) (by omega) hall hgl2
       (cO_ hl ⟨rfl,⟨by simp,by simp,by simp,by dsimp only;omega,by dsimp only;omega,by dsimp only;omega⟩,val6 h0 h1 hgr (cS_ hpr) hgr2⟩)
theorem pieces_all {x:Ax} (hok:x.ok) (hc:x.check=0):∀ q∈x.pieces f,PQ f q:=by
 have G:=good_of hc
 have L:=fun (c:Con) (hok:c.ok) (hc:c.check=0)=>Con.leftP_all h0 h1 _ c (Nat.le_refl _) hok hc
 have Rr:=fun (c:Con) (hok:c.ok) (hc:c.check=0)=>Con.rightP_all h0 h1 _ c (Nat.le_refl _) hok hc
 have n:∀ q∈([]:List Pc),PQ f q:=fun q hq=>by cases hq
 have h1':=G.k1
 have h9:=G.k9
 have A:=fun (c:Con) (hok:c.ok) (hc:c.check=0)=>(⟨Con.atom_ok hc,Con.atom_len hok hc⟩:bX_ c.atom=true∧c.atom.length≤7000)
 unfold pieces
 split
 ·have l:=G.left (by omega);have r:=G.right (by omega)
  have a1:=A _ hok.left l;have a2:=A _ hok.right r
  exact cO_ (Rr _ hok.right r _ (L _ hok.left l _ n)) ⟨rfl,⟨by dsimp only;omega,by simp,by dsimp only;omega,by simp,by simp,by simp⟩,se_ h0 h1 a1.1 a2.1⟩
 split
 ·have l:=G.left (by omega);have r:=G.right (by omega)
  have a1:=A _ hok.left l;have a2:=A _ hok.right r
  exact cO_ (Rr _ hok.left l _ (L _ hok.right r _ (cO_ (Rr _ hok.right r _ (L _ hok.left l _ n)) ⟨rfl,⟨by dsimp only;omega,by simp,by dsimp only;omega,by simp,by simp,by simp⟩,se_ h0 h1 a1.1 a2.1⟩))) ⟨rfl,⟨by dsimp only;omega,by simp,by dsimp only;omega,by simp,by simp,by simp⟩,se_ h0 h1 a2.1 a1.1⟩
 split
 ·have l:=G.left (by omega);have r:=G.right (by omega)
  have a1:=A _ hok.left l;have a2:=A _ hok.right r
  exact cO_ (L _ hok.right r _ (L _ hok.left l _ n)) ⟨rfl,⟨by dsimp only;omega,by dsimp only;omega,by simp,by simp,by simp,by simp⟩,val2 h0 h1 a1.1 a2.1 rfl⟩
 split
 ·have r:=G.right (by omega);have a2:=A _ hok.right r;have p:=G.role (by omega);have pl:=do_ p
  exact cO_ (Rr _ hok.right r _ n) ⟨rfl,⟨by simp,by simp,by dsimp only;omega,by dsimp only;omega,by simp,by simp⟩,val4 h0 h1 rfl (cS_ p) a2.1⟩
 split
 ·rename_i h5
  have p:=G.role (by omega);have pl:=do_ p
  have ho:=G.one h5
  match hr:x.roles,ho with
  | [r],_ =>
    have p2:=G.roles r (by rw[hr];simp);have pl2:=do_ p2
    exact cO_ n ⟨rfl,⟨by simp,by simp,by simp,by simp;omega,by simp,by dsimp only;omega⟩,val5 h0 h1 (by simpa using cS_ p2) (cS_ p)⟩
 split
 ·rename_i h6
  have p:=G.role (by omega)
  have hch:=G.chain h6
  match hr:x.roles,hch with
  | [],hch=>simp at hch
  | r::t,hch =>
    have p2:=G.roles r (by rw[hr];simp);have pl2:=do_ p2
    have e:=gA_ p2
    simp only[List.length_cons]at hch
    simp only[List.drop_succ_cons,List.drop_zero,List.headD_cons]
    exact kE_ h0 h1 x.role p t r [] (fun q hq=>G.roles q (by rw[hr];simp[hq])) (by rw[e];simp;omega) (by rw[e];simp[cE_ p2]) (by rw[e];simp;omega) n
 split
 ·have p:=G.role (by omega);have pl:=do_ p
  exact cO_ n ⟨rfl,⟨by simp,by simp,by simp,by dsimp only;omega,by simp,by simp⟩,val7 h0 h1 (cS_ p)⟩
 split
 ·have r:=G.right (by omega);have a2:=A _ hok.right r;have p:=G.a (by omega);have pl:=iC_ p
  exact cO_ (Rr _ hok.right r _ n) ⟨rfl,⟨by simp;omega,by simp,by dsimp only;omega,by simp,by simp,by simp⟩,se_ h0 h1 (iq_ p) a2.1⟩
 have p:=G.role (by omega);have pl:=do_ p;have pa:=G.a (by omega);have pb:=G.b (by omega);have l1:=iC_ pa;have l2:=iC_ pb
 exact cO_ n ⟨rfl,⟨by simp;omega,by simp,by simp;omega,by dsimp only;omega,by simp,by simp⟩,val3 h0 h1 (iq_ pa) (cS_ p) (iq_ pb)⟩
end
end Ax
def shift (k:Int) (p:Pc):Pc:={ p with frm:=p.frm+k }
theorem qS_ {k:Int} {p q:Pc} (h:shift k p=shift k q):p=q:=by
  cases p;cases q
  simp only[shift,Pc.mk.injEq]at h ⊢
  refine⟨h.1,h.2.1,h.2.2.1,h.2.2.2.1,h.2.2.2.2.1,h.2.2.2.2.2.1,h.2.2.2.2.2.2.1,h.2.2.2.2.2.2.2.1,h.2.2.2.2.2.2.2.2.1,by omega⟩
theorem bV_ (f k:Int) (l:List Pc) (p:Pc):ins (f+k) (l.map (shift k)) p=(ins f l p).map (shift k):=by
 have hm:({ p with frm:=f+k }:Pc)∈l.map (shift k)↔({ p with frm:=f }:Pc)∈l:=by
   rw[List.mem_map]
   constructor
   · rintro ⟨q,hq,e⟩
     have:q={ p with frm:=f }:=qS_ (k:=k) e
     exact this▸hq
   · exact fun h=>⟨_,h,rfl⟩
 unfold ins
 by_cases h:({ p with frm:=f }:Pc)∈l
 ·rw[if_pos (hm.2 h),if_pos h]
 rw[if_neg (fun q=>h (hm.1 q)),if_neg h,List.map_append];rfl
namespace Con
theorem kO_ (f k:Int) (c:Con):∀ (r:List Con) (j:Nat) (a:Str) (l:List Pc),andP (f+k) c r j a (l.map (shift k))=(andP f c r j a l).map (shift k)
  | [],_,_,_=>rfl
  | p::r,j,a,l=>by simp only[andP,bV_];exact kO_ f k c r (j+1) _ _
theorem leftP_shift (f k:Int):∀ (m:Nat) (c:Con),c.sz≤m→∀ l,c.leftP (f+k) (l.map (shift k))=(c.leftP f l).map (shift k)
 | 0,c,h=>by have:=c.sz_pos;omega
 | m+1,c,h=>fun l=>by
   have key:∀ ps:List Con,(∀ p∈ps,p.sz≤m)→∀ l,leftP.lefts (f+k) ps (l.map (shift k))=(leftP.lefts f ps l).map (shift k):=by
     intro ps
     induction ps with
     | nil=>intro _ l;rfl
     | cons p ps ih =>
       intro hp l
       simp only[leftP.lefts]
       rw[leftP_shift f k m p (hp p (by simp)) l]
       exact ih (fun q hq=>hp q (by simp[hq])) _
   have hk:=key c.parts (fun p hp=>by have:=sz_part hp;omega) l
   rw[leftP_eq,leftP_eq,hk]
   split
   · exact kO_ _ _ _ _ _ _ _
   · split
     · exact bV_ _ _ _ _
     · split
       · exact bV_ _ _ _ _
       · rfl
theorem rightP_shift (f k:Int):∀ (m:Nat) (c:Con),c.sz≤m→∀ l,c.rightP (f+k) (l.map (shift k))=(c.rightP f l).map (shift k)
 | 0,c,h=>by have:=c.sz_pos;omega
 | m+1,c,h=>fun l=>by
   have key:∀ ps:List Con,(∀ p∈ps,p.sz≤m)→∀ a l,rightP.rights (f+k) a ps (l.map (shift k))=(rightP.rights f a ps l).map (shift k):=by
     intro ps
     induction ps with
     | nil=>intro _ a l;rfl
     | cons p ps ih =>
       intro hp a l
       simp only[rightP.rights]
       rw[bV_,rightP_shift f k m p (hp p (by simp))]
       exact ih (fun q hq=>hp q (by simp[hq])) _ _
   have key2:∀ ps:List Con,(∀ p∈ps,p.sz≤m)→∀ l,rightP.righty (f+k) ps (l.map (shift k))=(rightP.righty f ps l).map (shift k):=by
     intro ps
     induction ps with
     | nil=>intro _ l;rfl
     | cons p ps ih =>
       intro hp l
       simp only[rightP.righty]
       rw[rightP_shift f k m p (hp p (by simp))]
       exact ih (fun q hq=>hp q (by simp[hq])) _
   have hps:∀ p∈c.parts,p.sz≤m:=fun p hp=>by have:=sz_part hp;omega
   rw[rightP_eq,rightP_eq]
   split
   · exact key c.parts hps _ l
   · split
     · rw[bV_];exact key2 c.parts hps _
     · split
       · exact bV_ _ _ _ _
       · rfl
end Con
theorem Ax.chainP_shift (f k:Int) (ro:Str):∀ (rs:List Str) (g:Str) (l:List Pc),Ax.chainP (f+k) ro rs g (l.map (shift k))=(Ax.chainP f ro rs g l).map (shift k)
  | [],_,_=>rfl
  | r::t,g,l=>by simp only[Ax.chainP,bV_];exact Ax.chainP_shift f k ro t _ _
theorem Ax.pieces_shift (f k:Int) (x:Ax):x.pieces (f+k)=(x.pieces f).map (shift k):=by
 have L:=fun (c:Con) l=>Con.leftP_shift f k _ c (Nat.le_refl _) l
 have Rr:=fun (c:Con) l=>Con.rightP_shift f k _ c (Nat.le_refl _) l
 have n:([]:List Pc)=([]:List Pc).map (shift k):=rfl
 unfold Ax.pieces
 repeat' split
 ·rw[n,L,Rr,bV_];rfl
 ·rw[n,L,Rr,bV_,L,Rr,bV_];rfl
 ·rw[n,L,L,bV_];rfl
 ·rw[n,Rr,bV_];rfl
 ·rw[n,bV_];rfl
 ·rw[n,Ax.chainP_shift];rfl
 ·rw[n,bV_];rfl
 ·rw[n,Rr,bV_];rfl
 rw[n,bV_];rfl
def fF_:Nat→List Ax→List Pc
  | _,[]=>[]
  | i,x::l=>x.pieces (i:Int)++fF_ (i+1) l
theorem lH_:∀ (l:List Ax) (i:Nat) (p:List Pc),(∀ x∈l,x.check=0)→p.length+1000*l.length≤16384→ex_ i l p=some (p++fF_ i l)
  | [],i,p,_,_=>by simp[ex_,fF_]
  | x::l,i,p,h,hl=>by
    have h1:=kc_ (i:Int) (Ax.good_of (h x (by simp)))
    simp only[List.length_cons]at hl
    simp only[ex_,fF_]
    rw[if_neg (by simp;omega),lH_ l (i+1) _ (fun y hy=>h y (by simp[hy])) (by simp;omega),List.append_assoc]
theorem kd_ {l:List Ax} (hl:l.length≤12) (h:∀ x∈l,x.check=0):ad_ l=(fF_ 0 l,0):=by
  unfold ad_
  rw[if_neg (by omega),if_neg (by simp[eE_ h]),lH_ l 0 [] h (by simp;omega)]
  simp
end Go.Vs
namespace Go.Vs
open Go Go.Sx
section
variable {f:Int} {R:List Pc→List Pc→Prop} (hr:∀ l,R l l) (ht:∀ {a b c},R a b→R b c→R a c) (hi:∀ l p,R l (ins f l p))
include hr ht hi
end
structure Gr (a b:List Pc):Prop where
  nodup:a.Nodup→b.Nodup
  sub:∀ q∈a,q∈b
theorem Gr.refl (l:List Pc):Gr l l:=⟨id,fun _ h=>h⟩
theorem Gr.trans {a b c:List Pc} (h:Gr a b) (k:Gr b c):Gr a c:=⟨fun q=>k.nodup (h.nodup q),fun q hq=>k.sub q (h.sub q hq)⟩
theorem Gr.ins (f:Int) (l:List Pc) (p:Pc):Gr l (ins f l p):=by
 unfold Vs.ins
 split
 ·exact Gr.refl l
 rename_i h
 refine⟨fun hn=>?_,fun q hq=>List.mem_append_left _ hq⟩
 rw[List.nodup_append]
 exact⟨hn,by simp,fun a ha b hb=>by simp only[List.mem_singleton]at hb;subst hb;rintro rfl;exact h ha⟩
def wgt (c:Con):Nat:=if c.kind=0 then 0 else c.sz
end Go.Vs
namespace Go.Sx
open Go
section
variable {P:Program} {N:Nf} {fr:Fr} {H:Hp} {Γ:List Fct}
theorem kF_:∀ (x y:List UInt8),Op.bytesLess x y=decide (x<y)
  | [],[]=>by simp[Op.bytesLess]
  | _::_,[]=>by simp[Op.bytesLess]
  | [],_::_=>by simp[Op.bytesLess]
  | a::x,b::y=>by
    rw[Op.bytesLess,kF_ x y]
    simp only[List.cons_lt_cons_iff]
    by_cases h1:a<b<;>by_cases h2:a=b<;>by_cases h3:x<y<;>simp[h1,h2,h3]
theorem uS_ (x y:List UInt8):(Op.bytesLess x y||x==y)=decide (x≤y):=by
 rw[kF_]
 by_cases h:x≤y
 ·rw[decide_eq_true h]
  by_cases e:x=y
  ·simp[e]
  have:x<y:=by
    apply Decidable.byContradiction
    intro h2
    exact e (List.le_antisymm h (List.not_lt.1 h2))
  simp[this]
 rw[decide_eq_false h]
 have h1:¬ x<y:=fun q=>h (List.le_of_lt q)
 have h2:x≠y:=fun e=>h (e▸List.le_refl x)
 simp[h1,h2]
theorem hI_ {t t' ty:TypeId} {x y:Operand} {m n:List UInt8} (hx:Fr.ev fr x=some (str m)) (hy:Fr.ev fr y=some (str n)):Yld P N fr H Γ (.binOp .lss t x y t') ty (.bool (decide (m<n))) :=
  fun a v h1 _ _ _ _ _=>by rw[← kF_];simp[execOp,h1.ev hx,h1.ev hy,str,eqGuard,binOp,Op.stringOp]
theorem jM_ {f:FuncId} {args:Array Value} {r:Value} {g:Nat} {cur:Array Value} {T:TypeId} {d:Array (List UInt8)} (hc:eJ_ P f)
    (h:∀ v:Vw,v.sat [(g,.cells cur T (0,0))]→Calls P f args v.w fun e w'=>e=.returned r∧∃ n os,w'=Sort.grow (Sort.putRow Go.Proofs.encStr (Sort.ahead v.w n) g 0 d) os) :
    Tri P f args [(g,.cells cur T (0,0))] Γ (fun _:Unit=>r) (fun _=>[(g,.cells (Sort.putCells Go.Proofs.encStr 0 d cur) T (0,0))]) (fun _=>[]) :=
  ⟨hc,fun v h1 _=>(h v h1).mono fun e w' ⟨he,n,os,hw⟩=>by
    have hg:=(h1.own _ List.mem_cons_self)
    have hlt:g<v.w.heap.size:=(Array.getElem?_eq_some_iff.1 hg.1).1
    have hb:∀ b,b<v.w.heap.size→w'.heap[b]? = if b=g then some (.cells (Sort.putCells Go.Proofs.encStr 0 d cur) T (0,0)) else v.w.heap[b]? := fun b hb=>by
      rw[hw]
      simp only[Sort.grow,Sort.putRow,Sort.mapBlock,Sort.ahead]
      rw[Array.getElem?_append_left (by simpa using hb),Array.getElem?_modify]
      by_cases e:b=g
      · subst e
        simp only[if_true,hg.1,Option.map_some,Sort.onCells]
      · rw[if_neg (fun q=>e q.symm),if_neg e]
    have hsz:v.w.heap.size≤w'.heap.size:=by rw[hw];simp[Sort.grow,Sort.putRow,Sort.mapBlock,Sort.ahead]
    refine⟨(),⟨v.im,w',v.sl⟩,he,rfl,⟨fun p hp=>?_,by simp,fun b hbb=>Nat.lt_of_lt_of_le (h1.lt b hbb) hsz⟩,trivial,⟨by rw[hw];rfl,by rw[hw];rfl,by rw[hw];rfl,hsz,fun b hbb hn=>?_,fun _ h=>h,fun _ h=>.inl h,fun b hm=>.inl (by simpa using hm),rfl,.inr (by rw[hw];exact Nat.le_add_right _ _)⟩⟩
    · simp only[List.mem_singleton]at hp
      subst hp
      exact⟨by show w'.heap[g]? = _;rw[hb g hlt,if_pos rfl],hg.2⟩
    · have hn':b≠g:=by simpa using hn
      show w'.heap[b]? = _
      rw[hb b hbb,if_neg hn']⟩
theorem nB_ {cur:Array Value} {d:List (List UInt8)} (hs:d.length≤cur.size):(Sort.putCells Go.Proofs.encStr 0 d.toArray cur).toList.take d.length=d.flatMap aJ_:=by
 rw[nr_]
 apply List.ext_getElem?
 intro j
 rw[List.getElem?_take,List.getElem?_map]
 split
 ·rename_i hj
  simp only[Sort.putCells,Array.getElem?_toList,Array.getElem?_mapIdx]
  rw[Array.getElem?_eq_getElem (by omega)]
  simp only[Option.map_some,Nat.zero_le,true_and,Nat.zero_add,List.size_toArray,hj,if_true,Nat.sub_zero]
  rw[List.getElem?_eq_getElem hj]
  simp only[Option.map_some]
  rw[getElem!_pos d.toArray j (by simpa using hj)]
  rfl
 rename_i hj
 rw[List.getElem?_eq_none (by omega)];rfl
theorem nC_ {cur:Array Value} {d:Array (List UInt8)}:(Sort.putCells Go.Proofs.encStr 0 d cur).size=cur.size:=by simp[Sort.putCells]
end
end Go.Sx
namespace Go.Vs
open Go Go.Sx
def iS_ (p:Pc):List Str:=[p.a,p.b,p.c].filter fun s=>!(s==[])
def cl_ (l:List Pc):List Str:=l.flatMap iS_
def em_ (l:List Pc):List Str:=Lib.compact ((cl_ l).mergeSort fun x y=>decide (x≤y))
theorem hC_:∀ l:List Pc,(cl_ l).length≤3*l.length
  | []=>by simp[cl_]
  | p::r=>by
    have h1:=hC_ r
    have h2:(iS_ p).length≤3:=by unfold iS_;exact List.length_filter_le _ _
    simp only[cl_,List.flatMap_cons,List.length_append,List.length_cons]at h1 ⊢
    omega
theorem jY_ (l:List Str):(l.mergeSort fun x y=>decide (x≤y)).Pairwise fun x y=>x≤y:=by
  have h:=List.pairwise_mergeSort (le:=fun x y:Str=>decide (x≤y)) (fun a b c h1 h2=>by simp only[decide_eq_true_eq]at *;exact List.le_trans h1 h2) (fun a b=>by
    simp only[Bool.or_eq_true,decide_eq_true_eq];exact List.le_total a b) l
  exact h.imp (fun h=>of_decide_eq_true h)
theorem gH_ {zs:List Str}:Lib.compact zs=((List.range zs.length).filter fun j=>decide (j=0∨zs[j]! ≠ zs[j - 1]!)).map fun j=>zs[j]! := by
 unfold Lib.compact Lib.compactUpTo Lib.keeps
 have e:∀ j,zs.toArray[j]! = zs[j]! := fun j=>by
   by_cases h:j<zs.length
   · rw[getElem!_pos zs.toArray j (by simpa using h),getElem!_pos zs j h];simp
   · rw[getElem!_neg zs.toArray j (by simpa using h),getElem!_neg zs j h]
 rw[List.map_congr_left fun j _=>e j]
 congr 2
 funext j
 rw[e,e]
theorem jh_ (zs:List Str):(Lib.compact zs).length≤zs.length:=by
  rw[gH_,List.length_map]
  have:=List.length_filter_le (fun j=>decide (j=0∨zs[j]! ≠ zs[j - 1]!)) (List.range zs.length)
  simpa using this
theorem oo_ {zs:List Str} (x:Str):x∈Lib.compact zs↔x∈zs:=by
 rw[gH_,List.mem_map]
 constructor
 ·rintro ⟨j,hj,rfl⟩
  have hl:=List.mem_range.1 (List.mem_filter.1 hj).1
  rw[getElem!_pos zs j hl]
  exact List.getElem_mem hl
 intro hx
 obtain⟨j,hj,e⟩:=List.mem_iff_getElem.1 hx
 clear hx
 induction j with
 | zero=>exact⟨0,List.mem_filter.2 ⟨List.mem_range.2 hj,by simp⟩,by rw[getElem!_pos zs 0 hj];exact e⟩
 | succ j ih =>
   by_cases h:zs[j+1]! = zs[j]!
   · have hj':j<zs.length:=by omega
     refine ih hj' ?_
     rw[getElem!_pos zs (j+1) hj,getElem!_pos zs j hj']at h
     rw[← h];exact e
   · exact⟨j+1,List.mem_filter.2 ⟨List.mem_range.2 hj,decide_eq_true (.inr h)⟩,by rw[getElem!_pos zs (j+1) hj];exact e⟩
theorem pt_ {zs:List Str} (hs:zs.Pairwise fun x y=>x≤y):(Lib.compact zs).Pairwise fun x y=>x<y:=by
 rw[gH_,List.pairwise_map]
 have hr:(List.range zs.length).Pairwise (·<·):=List.pairwise_lt_range
 have hf:=hr.filter (fun j=>decide (j=0∨zs[j]! ≠ zs[j - 1]!))
 refine List.Pairwise.imp_of_mem ?_ hf
 intro j k hj hk hlt
 have hkl:=List.mem_range.1 (List.mem_filter.1 hk).1
 have hkk:=(List.mem_filter.1 hk).2
 simp only[decide_eq_true_eq]at hkk
 have hne:zs[k]! ≠ zs[k - 1]! := by
   rcases hkk with h|h
   · omega
   · exact h
 have hle:∀ a b,a≤b→b<zs.length→zs[a]! ≤ zs[b]! := by
   intro a b hab hb
   rcases Nat.lt_or_eq_of_le hab with h|h
   · rw[getElem!_pos zs a (by omega),getElem!_pos zs b hb]
     exact List.pairwise_iff_getElem.1 hs a b (by omega) hb h
   · subst h;exact List.le_refl _
 have h1:=hle j (k - 1) (by omega) (by omega)
 have h2:=hle (k - 1) k (by omega) hkl
 have h3:zs[k - 1]! < zs[k]! := by
   apply Decidable.byContradiction
   intro h
   exact hne (List.le_antisymm (List.not_lt.1 h) h2)
 exact List.lt_of_le_of_lt h1 h3
theorem kM_ (l:List Pc) (x:Str):x∈em_ l↔x∈cl_ l:=by
  unfold em_
  rw[oo_,List.mem_mergeSort]
theorem rR_ (l:List Pc):(em_ l).Pairwise fun x y=>x<y:=pt_ (jY_ _)
theorem pz_ (l:List Pc):(em_ l).length≤3*l.length:=by
  have h1:=jh_ ((cl_ l).mergeSort fun x y=>decide (x≤y))
  rw[List.length_mergeSort]at h1
  have h2:=hC_ l
  unfold em_
  omega
end Go.Vs
namespace Go.Proofs.YtamklbgaipakfaaGreatDoor
open Go Go.Sx Go.Proofs
attribute [local irreducible] Code.wp wpList wpAnyH
open Go.Vs
theorem eltS:Elt Tryz.prog 23 9 1 16:=fo_ Tryz.underlying23 (z:=.string ⟨#[]⟩) (by kernel_rfl) rfl (by decide)
theorem lD_ {g n cap:Nat} {cur:Array Value} {xs:List Str} {v:Vw} (hs:v.sat [(g,.cells cur 9 (0,0))]) (ht:cur.toList.take (xs.length*1)=xs.flatMap aJ_):Sort.Holds encStr v.w g 0 xs.toArray:=by
 intro j hj
 have hb:=(hs.own _ List.mem_cons_self).1
 simp only[List.size_toArray]at hj
 have hc:cur[j]? = some (str xs[j]):=le_ ht j xs[j] (List.getElem?_eq_getElem hj)
 refine⟨?_,?_⟩
 ·simp only[World.cell?,Nat.zero_add,hb,Option.isSome_none,Bool.false_eq_true,if_false]
  rw[hc,getElem!_pos xs.toArray j (by simpa using hj)]
  rfl
 simp[World.frozen?,hb]
theorem pO_ {sv:Value} {xs:List Str} {Hr:Hp} (h:ar_ 9 1 sv xs.length (xs.flatMap aJ_) Hr) (hl:xs.length≤1000000000000) :
    Tri Tryz.prog 43 #[sv] Hr [] (fun _:{y:Hp // ar_ 9 1 sv xs.length ((xs.mergeSort fun x y=>decide (x≤y)).flatMap aJ_) y}=>.tuple #[]) (fun y=>y.1) (fun _=>[]):=by
  rcases h.2 with⟨rfl,h2,rfl⟩|⟨g,cap,cur,rfl,rfl,h3,h4,h5,h6⟩
  · obtain rfl:xs=[]:=List.eq_nil_of_length_eq_zero h2
    have T:=cH_ (P:=Tryz.prog) (H:=[]) (Γ:=[]) (callable Tryz.func43 rfl rfl) (fun v _ _=>(Tryz.slices_Sort_string_none none 0 v.w).mono (by rintro e w' ⟨rfl,rfl⟩;exact⟨rfl,⟨rfl,rfl,rfl,Nat.le_refl _,fun _ _=>rfl⟩,.inr (Nat.le_refl _)⟩))
    exact⟨T.callable,fun v a b=>(T.run v a b).mono (by rintro e w' ⟨x,v',e1,e2,e3,e4,e5⟩;exact⟨⟨[],by simpa using ar_.nil _ _⟩,v',e1,e2,e3,e4,e5⟩)⟩
  · have T:=jM_ (P:=Tryz.prog) (Γ:=[]) (d:=(xs.mergeSort fun x y=>decide (x≤y)).toArray) (callable Tryz.func43 rfl rfl) (fun v hs=>Tryz.slices_Sort_string g 0 cap xs v.w (lD_ (n:=0) (cap:=0) hs h6) (Array.getElem?_eq_some_iff.1 (hs.own _ List.mem_cons_self).1).1 (by omega))
    have hsz:(xs.mergeSort fun x y=>decide (x≤y)).length=xs.length:=List.length_mergeSort _
    refine⟨T.callable,fun v a b=>(T.run v a b).mono ?_⟩
    rintro e w' ⟨x,v',e1,e2,e3,e4,e5⟩
    refine⟨⟨_,by rw[ey_ aJ_ 1 ak_,hsz],.inr ⟨g,cap,_,rfl,rfl,h3,h4,by rw[nC_];exact h5,?_⟩⟩,v',e1,e2,e3,e4,e5⟩
    have:=nB_ (cur:=cur) (d:=xs.mergeSort fun x y=>decide (x≤y)) (by rw[hsz,h5];omega)
    rw[hsz]at this
    rw[Nat.mul_one];exact this
theorem pu_ {sv:Value} {xs:List Str} {Hr:Hp} (h:ar_ 9 1 sv xs.length (xs.flatMap aJ_) Hr) (hl:xs.length≤1000000000000) :
    Tri Tryz.prog 116 #[sv] Hr [] (fun y:{y:Value×Hp // ar_ 9 1 y.1 (Lib.compact xs).length ((Lib.compact xs).flatMap aJ_) y.2}=>y.1.1) (fun y=>y.1.2) (fun _=>[]):=by
  rcases h.2 with⟨rfl,h2,rfl⟩|⟨g,cap,cur,rfl,rfl,h3,h4,h5,h6⟩
  · obtain rfl:xs=[]:=List.eq_nil_of_length_eq_zero h2
    have T:=cH_ (P:=Tryz.prog) (H:=[]) (Γ:=[]) (callable Tryz.func116 rfl rfl) (fun v _ _=>(Tryz.slices_Compact_string_empty none 0 v.w).mono (by rintro e w' ⟨rfl,rfl⟩;exact⟨rfl,⟨rfl,rfl,rfl,Nat.le_refl _,fun _ _=>rfl⟩,.inr (Nat.le_refl _)⟩))
    exact⟨T.callable,fun v a b=>(T.run v a b).mono (by rintro e w' ⟨x,v',e1,e2,e3,e4,e5⟩;exact⟨⟨(.slice none 0 0,[]),by simpa [Lib.compact,Lib.compactUpTo] using ar_.nil _ _⟩,v',e1,e2,e3,e4,e5⟩)⟩
  · have hcl:=jh_ xs
    have T:=jM_ (P:=Tryz.prog) (Γ:=[]) (r:=.slice (some ⟨g,0,none⟩) (Lib.compact xs).length cap) (d:=(Lib.compact xs++List.replicate (xs.length - (Lib.compact xs).length) []).toArray) (callable Tryz.func116 rfl rfl) (fun v hs=>(Tryz.slices_Compact_string g 0 cap xs v.w (lD_ (n:=0) (cap:=0) hs h6) (by omega) h3).mono (by
      rintro e w' ⟨rfl,q,rfl⟩
      exact⟨rfl,q,#[],by rw[Sort.grow_empty]⟩))
    refine⟨T.callable,fun v a b=>(T.run v a b).mono ?_⟩
    rintro e w' ⟨x,v',e1,e2,e3,e4,e5⟩
    refine⟨⟨(.slice (some ⟨g,0,none⟩) (Lib.compact xs).length cap,_),by rw[ey_ aJ_ 1 ak_],.inr ⟨g,cap,_,rfl,rfl,by omega,h4,by rw[nC_];exact h5,?_⟩⟩,v',e1,e2,e3,e4,e5⟩
    have hd:(Lib.compact xs++List.replicate (xs.length - (Lib.compact xs).length) ([]:Str)).length=xs.length:=by simp;omega
    have:=nB_ (cur:=cur) (d:=Lib.compact xs++List.replicate (xs.length - (Lib.compact xs).length) []) (by rw[hd,h5];omega)
    rw[hd]at this
    have h7:=congrArg (List.take (Lib.compact xs).length) this
    rw[List.take_take,Nat.min_eq_left hcl,List.flatMap_append,List.take_append_of_le_length (by rw[ey_ aJ_ 1 ak_];omega),List.take_of_length_le (l:=(Lib.compact xs).flatMap aJ_) (by rw[ey_ aJ_ 1 ak_];omega)]at h7
    rw[Nat.mul_one];exact h7
theorem uV_ (l:List Pc) (ad:Option Addr) (cap:Nat) (hl:l.length≤100000000000):Tri Tryz.prog 60 #[.slice ad (List.length l) cap] [] [ac_ ad (List.flatMap Pc.cells l)] (fun y:{y:Option Addr×Nat // (em_ l).length≤y.2∧y.2≤maxLen}=>.slice y.1.1 (em_ l).length y.1.2) (fun _=>[]) (fun y=>[ac_ y.1.1 ((em_ l).flatMap aJ_)]):=by
 refine j_ Tryz.func60 rfl rfl Tryz.ntmps60 rfl fun v0=>?_
 refine Zz 14 ?_
 refine bp_ [(2,.slice none 0 0),(7,.slice ad (List.length l) cap),(8,.int .i64 (List.length l:Int)),(9,.int .i64 ((0:Nat):Int))] zl ?_
 refine bG_ (ι:={y:Nat×Value×Hp // y.1≤l.length∧ar_ 9 1 y.2.1 (cl_ (l.take y.1)).length ((cl_ (l.take y.1)).flatMap aJ_) y.2.2}) (fun y=>[(2,y.1.2.1),(7,.slice ad (List.length l) cap),(8,.int .i64 (List.length l:Int)),(9,.int .i64 (y.1.1:Int))]) (fun y=>y.1.2.2) (fun _=>_) (fun y=>l.length - y.1.1) ⟨(0,.slice none 0 0,[]),by simp,ar_.nil _ _⟩ ?_
 rintro ⟨⟨i,sv,Hr⟩,hi,hrow⟩
 dsimp only at hi hrow
 dsimp only
 have hol:=hC_ (l.take i)
 rw[List.length_take]at hol
 refine bp_ [(2,sv),(7,.slice ad (List.length l) cap),(8,.int .i64 (List.length l:Int)),(9,.int .i64 (i:Int))] zl ?_
 refine Zi 2 (fun hr1=>?_) fun hr1=>?_
 ·refine Zz 7 ?_
  have et:l.take i=l:=List.take_of_length_le (by omega)
  rw[et]at hrow hol
  refine Zz 2 ?_
  refine d_ (pO_ hrow (by omega)) rfl am_ zt rfl fun⟨Hs,hs⟩=>?_
  dsimp only
  refine u_ (List.Perm.symm am_) ?_
  have hs2:ar_ 9 1 sv ((cl_ l).mergeSort fun x y=>decide (x≤y)).length (((cl_ l).mergeSort fun x y=>decide (x≤y)).flatMap aJ_) Hs:=by rw[List.length_mergeSort];exact hs
  refine Zz 5 ?_
  refine d_ (pu_ hs2 (by rw[List.length_mergeSort];omega)) rfl am_ zt rfl fun⟨⟨sc,Hc⟩,hc⟩=>?_
  dsimp only
  refine u_ (List.Perm.symm am_) (Zz 4 ?_)
  refine cC_ hc am_ fun ad2 cp2 hsv hc1 hc2=>?_
  exact E_ Tryz.results60 ⟨(ad2,cp2),hc1,hc2⟩ (bI_ rfl hsv) e_ zf
 obtain⟨hlx1,x1,hx1,hmx1⟩:=zge (show i<List.length l by omega)
 refine Zz 12 ?_
 refine G_ ao_ rfl fun b1=>n_ 0 aw_ rfl rfl rfl rfl rfl rfl (Zz 10 ?_)
 refine B_ t_ ah_ aK_ rfl rfl rfl rfl rfl rfl fun b2=>?_
 refine ai_ (List.flatMap aJ_ [x1.a,x1.b,x1.c]) i_ rfl ?_
 refine Zz 5 ?_
 refine bp_ [(2,sv),(7,.slice ad (List.length l) cap),(8,.int .i64 (List.length l:Int)),(9,.int .i64 (i:Int)),(19,.slice (some ⟨b2,0,none⟩) (List.length [x1.a,x1.b,x1.c]) 3),(20,.int .i64 3),(21,.int .i64 ((0:Nat):Int))] zl ?_
 refine bG_ (ι:={y:Nat×Value×Hp // y.1≤3∧ar_ 9 1 y.2.1 (cl_ (l.take i)++(List.take y.1 [x1.a,x1.b,x1.c]).filter fun s=>!(s==[])).length ((cl_ (l.take i)++(List.take y.1 [x1.a,x1.b,x1.c]).filter fun s=>!(s==[])).flatMap aJ_) y.2.2}) (fun y=>[(2,y.1.2.1),(7,.slice ad (List.length l) cap),(8,.int .i64 (List.length l:Int)),(9,.int .i64 (i:Int)),(19,.slice (some ⟨b2,0,none⟩) (List.length [x1.a,x1.b,x1.c]) 3),(20,.int .i64 3),(21,.int .i64 (y.1.1:Int))]) (fun y=>_:: y.1.2.2) (fun _=>_) (fun y=>3 - y.1.1) ⟨(0,sv,Hr),by simp,by simpa using hrow⟩ ?_
 rintro ⟨⟨k,sw,Hw⟩,hk,hkr⟩
 dsimp only at hk hkr
 dsimp only
 have hfl:((cl_ (l.take i)++(List.take k [x1.a,x1.b,x1.c]).filter fun s=>!(s==[]))).length≤(cl_ (l.take i)).length+3:=by
   have:=List.length_filter_le (fun s=>!(s==[])) (List.take k [x1.a,x1.b,x1.c])
   simp only[List.length_append,List.length_take,List.length_cons,List.length_nil]at this ⊢
   omega
 refine bp_ [(2,sw),(7,.slice ad (List.length l) cap),(8,.int .i64 (List.length l:Int)),(9,.int .i64 (i:Int)),(19,.slice (some ⟨b2,0,none⟩) (List.length [x1.a,x1.b,x1.c]) 3),(20,.int .i64 3),(21,.int .i64 (k:Int))] zl ?_
 refine Zi 2 (fun hr2=>?_) fun hr2=>?_
 ·refine Zz 11 ?_
  have hst:cl_ (l.take (i+1))=cl_ (l.take i)++iS_ x1:=by unfold cl_;rw[List.take_add_one,hx1,List.flatMap_append];simp
  exact z_ ⟨(i+1,sw,Hw),hlx1,by dsimp only;rw[hst];have:=hkr;rw[List.take_of_length_le (show [x1.a,x1.b,x1.c].length≤k by simp;omega)]at this;exact this⟩ (by dsimp only;omega) zl (l_ am_) (fun _ _ h=>h.2)
 have hly1:k<List.length [x1.a,x1.b,x1.c]:=by simp;omega
 obtain⟨y1,hy1⟩:∃ e0,[x1.a,x1.b,x1.c][k]? = some e0:=⟨_,List.getElem?_eq_getElem hly1⟩
 have hmy1:y1∈[x1.a,x1.b,x1.c]:=List.mem_of_getElem? hy1
 refine Zz 11 ?_
 refine c_ (bt_ (ad:=(some ⟨b2,0,none⟩)) aL_ rfl zf (o_ ak_ hy1 0 _ rfl)) rfl (Zi 6 (fun hr3=>?_) fun hr3=>?_)
 ·refine Zz 10 ?_
  have hst:(cl_ (l.take i)++(List.take (k+1) [x1.a,x1.b,x1.c]).filter fun s=>!(s==[]))=(cl_ (l.take i)++(List.take k [x1.a,x1.b,x1.c]).filter fun s=>!(s==[]))++[y1].filter (fun s=>!(s==[])):=by rw[List.append_assoc,← List.filter_append,List.take_add_one,hy1];simp
  rw[show [y1].filter (fun s=>!(s==[]))=[] by simp[*],List.append_nil]at hst
  exact z_ ⟨(k+1,sw,Hw),by dsimp only;omega,by dsimp only;rw[hst];exact hkr⟩ (by dsimp only;omega) zl zp zh
 refine Zz 6 ?_
 refine B_ t_ ah_ aK_ rfl rfl rfl rfl rfl rfl fun b3=>?_
 refine aX_ (news:=[str y1]) eltS hkr rfl rfl zp rfl (bC_ 0 rfl) (gU_ rfl) (by simp only[maxLen];omega) (by omega) rfl fun sv2 Hr2 hrow2=>?_
 refine u_ (@List.perm_append_comm _ _ [_,_]) (Zz 8 ?_)
 have hst:(cl_ (l.take i)++(List.take (k+1) [x1.a,x1.b,x1.c]).filter fun s=>!(s==[]))=(cl_ (l.take i)++(List.take k [x1.a,x1.b,x1.c]).filter fun s=>!(s==[]))++[y1].filter (fun s=>!(s==[])):=by rw[List.append_assoc,← List.filter_append,List.take_add_one,hy1];simp
 rw[show [y1].filter (fun s=>!(s==[]))=[y1] by simp[*]]at hst
 exact z_ ⟨(k+1,sv2,Hr2),by dsimp only;omega,by dsimp only;rw[hst];rw[List.length_append (bs:=[y1]),List.flatMap_append (ys:=[y1])];exact hrow2⟩ (by dsimp only;omega) zl (V_ (l_ i_) (l_ am_)) zh
end Go.Proofs.YtamklbgaipakfaaGreatDoor
namespace Go.Sx
open Go
section
variable {P:Program} {N:Nf} {v0:Vw} {H0:Hp} {R:Exit→Act→World→Prop} {K:List Kt} {fr:Fr} {H:Hp} {Γ:List Fct}
variable {ops:Array Oper} {l:List Oper} {d:Nat} {ty:TypeId} {ps:String} {af:Array Edge}
end
end Go.Sx
namespace Go.Vs
open Go Go.Sx
theorem oR_ {α:Type} {R:α→α→Prop} {l:List α} (h:l.Pairwise R) {i j:Nat} {x y:α} (hx:l[i]? = some x) (hy:l[j]? = some y) (hij:i<j):R x y:=by
  obtain⟨hi,rfl⟩:=List.getElem?_eq_some_iff.1 hx
  obtain⟨hj,rfl⟩:=List.getElem?_eq_some_iff.1 hy
  exact List.pairwise_iff_getElem.1 h i j hi hj hij
def Cov (hs:List Bool) (L S:List Str):Prop:=hs.length=L.length∧∀ (n:Nat) (s:Str),L[n]? = some s→s∈S→hs[n]? = some true
theorem Cov.nil (L:List Str):Cov (List.replicate L.length false) L []:=⟨by simp,fun _ _ _ h=>by simp at h⟩
theorem Cov.set {hs:List Bool} {L S:List Str} (h:Cov hs L S) (n:Nat):Cov (hs.set n true) L S:=⟨by rw[List.length_set];exact h.1,fun m s h1 h2=>by
 have h3:=h.2 m s h1 h2
 rw[List.getElem?_set]
 split
 ·rename_i e
  subst e
  rw[if_pos (List.getElem?_eq_some_iff.1 h3).1]
 exact h3⟩
def kT_ (hs:List Bool) (L S:List Str) (y:Str) (n:Nat):Prop:=Cov hs L S∧∀ m,m<n→L[m]? = some y→hs[m]? = some true
theorem kT_.zero {hs:List Bool} {L S:List Str} {y:Str} (h:Cov hs L S):kT_ hs L S y 0:=⟨h,fun _ h=>by omega⟩
theorem kT_.hit {hs:List Bool} {L S:List Str} {y:Str} {n:Nat} (h:kT_ hs L S y n) (hn:n<L.length):kT_ (hs.set n true) L S y (n+1):=⟨h.1.set n,fun m hm e=>by
 rw[List.getElem?_set]
 split
 ·rename_i e
  rw[if_pos (by rw[h.1.1];omega)]
 rename_i e2
 exact h.2 m (by omega) e⟩
theorem kT_.miss {hs:List Bool} {L S:List Str} {y z:Str} {n:Nat} (h:kT_ hs L S y n) (hz:L[n]? = some z) (hne:z≠y):kT_ hs L S y (n+1):=⟨h.1,fun m hm e=>by
 by_cases e2:m=n
 ·subst e2
  rw[hz,Option.some.injEq]at e
  exact absurd e hne
 exact h.2 m (by omega) e⟩
theorem kT_.done {hs:List Bool} {L S:List Str} {y:Str} {n:Nat} (h:kT_ hs L S y n) (hn:L.length≤n):Cov hs L (S++[y]):=⟨h.1.1,fun m s h1 h2=>by
 rcases List.mem_append.1 h2 with h2|h2
 ·exact h.1.2 m s h1 h2
 simp only[List.mem_singleton]at h2
 subst h2
 have:=(List.getElem?_eq_some_iff.1 h1).1
 exact h.2 m (by omega) h1⟩
def three (p:Pc):List Str:=[p.a,p.b,p.c]
theorem Cov.all {hs:List Bool} {l:List Pc} (h:Cov hs (em_ l) (l.flatMap three)) {n:Nat} (hn:n<(em_ l).length):hs[n]? = some true:=by
  have hm:=(kM_ l _).1 (List.getElem_mem hn)
  refine h.2 n _ (List.getElem?_eq_getElem hn) ?_
  simp only[cl_,List.mem_flatMap,iS_,List.mem_filter]at hm
  obtain⟨p,h1,h2⟩:=hm
  exact List.mem_flatMap.2 ⟨p,h1,h2.1⟩
end Go.Vs
namespace Go.Vs
open Go Go.Sx
theorem iX_ (s:Str):((if aQ_ s then (0:Int) else 20)==0)=aQ_ s:=by cases aQ_ s<;>rfl
-- valid pieces,kind by kind
section
variable {a b c r s t:Str} {lo hi f:Int}
end
-- atoms
-- roles
structure RInv (s:Str) (a i:Nat) (dn:List Str):Prop where
  le:a≤i
  il:i≤s.length
  no:ixS 46 ((s.drop a).take (i - a))=none
  sp:bF_ 46 s=dn++bF_ 46 (s.drop a)
  al:dn.all aQ_=true
structure REnd (s:Str) (i:Nat) (dn:List Str):Prop where
  il:i=s.length+1
  sp:bF_ 46 s=dn
  al:dn.all aQ_=true
def segS (s:Str) (a i:Nat):Str:=(s.drop a).take (i - a)
theorem RInv.start (s:Str):RInv s 0 0 []:=⟨Nat.le_refl _,Nat.zero_le _,by simp[ixS],by simp,rfl⟩
theorem RInv.len {s:Str} {a i:Nat} {dn:List Str} (h:RInv s a i dn):dn.length≤s.length+1:=by
  have h1:=ht_ 46 s
  have h2:=qu_ 46 s
  rw[h.sp,List.length_append]at h1
  omega
theorem REnd.len {s:Str} {i:Nat} {dn:List Str} (h:REnd s i dn):dn.length≤s.length+1:=by
  have h1:=ht_ 46 s
  have h2:=qu_ 46 s
  rw[h.sp]at h1
  omega
theorem RInv.next {s:Str} {a i:Nat} {dn:List Str} {c:UInt8} (h:RInv s a i dn) (hc:s[i]? = some c) (hne:c≠46):RInv s a (i+1) dn:=by
  have hi:=(List.getElem?_eq_some_iff.1 hc).1
  have hle:=h.le
  refine⟨by omega,by omega,?_,h.sp,h.al⟩
  rw[show i+1 - a=(i - a)+1 by omega]
  exact tf_ (s.drop a) (i - a) c (by rw[List.getElem?_drop,show a+(i - a)=i by omega];exact hc) h.no hne
theorem RInv.fin {s:Str} {a i:Nat} {dn:List Str} (h:RInv s a i dn) (hi:¬ i<s.length):bF_ 46 s=dn++[segS s a i]:=by
  have hle:=h.le
  have hil:=h.il
  have e:(s.drop a).take (i - a)=s.drop a:=List.take_of_length_le (by rw[List.length_drop];omega)
  have hn:=h.no
  rw[e]at hn
  rw[h.sp,gu_ hn,segS,e]
theorem REnd.role {s:Str} {i:Nat} {dn:List Str} (h:REnd s i dn):ed_ s=decide ((dn.length:Int)≤4):=by
  unfold ed_
  rw[h.sp]
  have:dn.any (fun r=>!aQ_ r)=false:=by
    rw[List.any_eq_false]
    intro x hx
    have:=List.all_eq_true.1 h.al x hx
    simp[this]
  rw[this]
  simp
  omega
-- sorted insertion
def kS (l:List Str) (s:Str):Nat:=(l.takeWhile fun x=>decide (x<s)).length
def bE_ (l:List Str) (s:Str):List Str:=if s=[]∨l[kS l s]? = some s then l else l.take (kS l s)++[s]++l.drop (kS l s)
theorem ve_ (l:List Str) (s:Str):kS l s≤l.length:=(List.takeWhile_sublist _).length_le
theorem iv_ (l:List Str) (s:Str):(bE_ l s).length≤l.length+1:=by
 have:=ve_ l s
 unfold bE_
 split
 ·omega
 simp only[List.length_append,List.length_take,List.length_cons,List.length_nil,List.length_drop]
 omega
theorem gO_ {l:List Str} {s x:Str}:x∈bE_ l s↔x∈l∨(x=s∧s≠[]):=by
 unfold bE_
 split
 ·rename_i h
  constructor
  ·exact .inl
  rintro (h2|⟨rfl,h2⟩)
  ·exact h2
  rcases h with h|h
  ·exact absurd h h2
  exact List.mem_of_getElem? h
 rename_i h
 simp only[not_or]at h
 have e:x∈l↔x∈l.take (kS l s)∨x∈l.drop (kS l s):=by
   rw[← List.mem_append,List.take_append_drop]
 rw[e]
 simp only[List.mem_append,List.mem_singleton]
 constructor
 ·rintro ((h1|h1)|h1)
  ·exact .inl (.inl h1)
  ·exact .inr ⟨h1,h1▸h.1⟩
  exact .inl (.inr h1)
 rintro ((h1|h1)|h1)
 ·exact .inl (.inl h1)
 ·exact .inr h1
 exact .inl (.inr h1.1)
theorem oE_ {s:Str}:∀ (l:List Str),∀ x∈l.take (kS l s),x<s:=by
 intro l x hx
 have e:l.take (kS l s)=l.takeWhile fun x=>decide (x<s):=by
   unfold kS
   exact (List.prefix_iff_eq_take.1 (List.takeWhile_prefix _)).symm
 rw[e]at hx
 induction l with
 | nil=>simp at hx
 | cons y r ih =>
   by_cases hy:y<s
   · rw[List.takeWhile_cons_of_pos (by simpa using hy)]at hx
     rcases List.mem_cons.1 hx with rfl|hx
     · exact hy
     · refine ih hx ?_
       unfold kS
       exact (List.prefix_iff_eq_take.1 (List.takeWhile_prefix _)).symm
   · rw[List.takeWhile_cons_of_neg (by simpa using hy)]at hx
     simp at hx
theorem mc_ {s:Str}:∀ (l:List Str) (x:Str),l[kS l s]? = some x→¬ x<s
 | [],x,h=>by simp at h
 | y::r,x,h=>by
   unfold kS at h
   by_cases hy:y<s
   · rw[List.takeWhile_cons_of_pos (by simpa using hy),List.length_cons,List.getElem?_cons_succ]at h
     exact mc_ r x h
   · rw[List.takeWhile_cons_of_neg (by simpa using hy)]at h
     simp only[List.length_nil,List.getElem?_cons_zero,Option.some.injEq]at h
     subst h
     exact hy
theorem hL_ {l:List Str} {s:Str} (h:l.Pairwise fun x y=>x<y):(bE_ l s).Pairwise fun x y=>x<y:=by
 unfold bE_
 split
 ·exact h
 rename_i hn
 simp only[not_or]at hn
 have hd:∀ y∈l.drop (kS l s),s<y:=by
   intro y hy
   obtain⟨j,hj,rfl⟩:=List.mem_iff_getElem.1 hy
   rw[List.getElem_drop]
   rw[List.length_drop]at hj
   have hk:kS l s<l.length:=by omega
   have h0:=mc_ l _ (List.getElem?_eq_getElem hk)
   have h1:s<l[kS l s]:=by
     apply Decidable.byContradiction
     intro q
     apply hn.2
     rw[List.getElem?_eq_getElem hk,Option.some.injEq]
     exact List.le_antisymm (List.not_lt.1 q) (List.not_lt.1 h0)
   rcases Nat.eq_zero_or_pos j with rfl|hp
   · exact h1
   · exact List.lt_trans h1 (List.pairwise_iff_getElem.1 h _ _ hk (by omega) (by omega))
 rw[List.pairwise_append,List.pairwise_append]
 refine⟨⟨h.sublist (List.take_sublist _ _),List.pairwise_singleton _ _,fun x hx y hy=>?_⟩,h.sublist (List.drop_sublist _ _),fun x hx y hy=>?_⟩
 ·rw[List.mem_singleton]at hy
  subst hy
  exact oE_ l x hx
 rcases List.mem_append.1 hx with hx|hx
 ·exact List.lt_trans (oE_ l x hx) (hd y hy)
 rw[List.mem_singleton]at hx
 subst hx
 exact hd y hy
def atomsF (l:List Pc):List Str:=l.foldl (fun L p=>bE_ (bE_ (bE_ L p.a) p.b) p.c) []
theorem kN_:∀ (l:List Pc) (L:List Str),L.Pairwise (fun x y=>x<y)→(l.foldl (fun L p=>bE_ (bE_ (bE_ L p.a) p.b) p.c) L).Pairwise (fun x y=>x<y)∧(∀ x,x∈l.foldl (fun L p=>bE_ (bE_ (bE_ L p.a) p.b) p.c) L↔x∈L∨x∈cl_ l)∧(l.foldl (fun L p=>bE_ (bE_ (bE_ L p.a) p.b) p.c) L).length≤L.length+3*l.length
 | [],L,h=>⟨h,fun x=>by simp[cl_],by simp⟩
 | p::r,L,h=>by
   obtain⟨h1,h2,h3⟩:=kN_ r (bE_ (bE_ (bE_ L p.a) p.b) p.c) (hL_ (hL_ (hL_ h)))
   refine⟨h1,fun x=>?_,?_⟩
   · rw[List.foldl_cons,h2,gO_,gO_,gO_]
     simp only[cl_,List.flatMap_cons,List.mem_append,iS_,List.mem_filter,List.mem_cons,List.not_mem_nil,or_false]
     constructor
     · rintro ((((h|⟨rfl,h⟩)|⟨rfl,h⟩)|⟨rfl,h⟩)|h)
       · exact .inl h
       · exact .inr (.inl ⟨.inl rfl,by simpa using h⟩)
       · exact .inr (.inl ⟨.inr (.inl rfl),by simpa using h⟩)
       · exact .inr (.inl ⟨.inr (.inr rfl),by simpa using h⟩)
       · exact .inr (.inr h)
     · rintro (h|⟨h,h5⟩|h)
       · exact .inl (.inl (.inl (.inl h)))
       · have h6:x≠[]:=by simpa using h5
         rcases h with rfl|rfl|rfl
         · exact .inl (.inl (.inl (.inr ⟨rfl,h6⟩)))
         · exact .inl (.inl (.inr ⟨rfl,h6⟩))
         · exact .inl (.inr ⟨rfl,h6⟩)
       · exact .inr h
   · rw[List.foldl_cons]
     have a1:=iv_ L p.a
     have a2:=iv_ (bE_ L p.a) p.b
     have a3:=iv_ (bE_ (bE_ L p.a) p.b) p.c
     simp only[List.length_cons]
     omega
theorem lg_:∀ {l m:List Str},l.Pairwise (fun x y=>x<y)→m.Pairwise (fun x y=>x<y)→(∀ x,x∈l↔x∈m)→l=m
 | [],[],_,_,_=>rfl
 | [],y::m,_,_,h=>by have:=(h y).2 (by simp);simp at this
 | x::l,[],_,_,h=>by have:=(h x).1 (by simp);simp at this
 | x::l,y::m,h1,h2,h=>by
   rw[List.pairwise_cons]at h1 h2
   have e:x=y:=by
     have hx:=(h x).1 (by simp)
     have hy:=(h y).2 (by simp)
     rcases List.mem_cons.1 hx with e|hx
     · exact e
     rcases List.mem_cons.1 hy with e|hy
     · exact e.symm
     exact absurd (List.lt_trans (h1.1 y hy) (h2.1 x hx)) (List.lt_irrefl _)
   subst e
   congr 1
   refine lg_ h1.2 h2.2 fun z=>?_
   have hz:=h z
   simp only[List.mem_cons]at hz
   constructor
   · intro q
     rcases hz.1 (.inr q) with e|e
     · subst e
       exact absurd (h1.1 z q) (List.lt_irrefl _)
     · exact e
   · intro q
     rcases hz.2 (.inr q) with e|e
     · subst e
       exact absurd (h2.1 z q) (List.lt_irrefl _)
     · exact e
theorem tJ_ (l:List Pc):em_ l=atomsF l:=by
  obtain⟨h1,h2,_⟩:=kN_ l [] List.Pairwise.nil
  refine lg_ (rR_ l) h1 fun x=>?_
  have:=h2 x
  rw[kM_]
  simp only[List.not_mem_nil,false_or]at this
  exact this.symm
end Go.Vs
namespace Go.Sx
open Go
section
variable {P:Program} {N:Nf} {v0:Vw} {H0:Hp} {fr:Fr} {H:Hp} {Γ:List Fct}
end
end Go.Sx
namespace Go.Vs
open Go Go.Sx
namespace Con
theorem szs_append:∀ (xs ys:List Con),sz.szs (xs++ys)=sz.szs xs+sz.szs ys
  | [],ys=>by simp[sz.szs]
  | x::xs,ys=>by simp only[List.cons_append,sz.szs,szs_append xs ys];omega
theorem szs_step {ps:List Con} {p:Con} {i:Nat} (hp:ps[i]? = some p):sz.szs (ps.take (i+1))=sz.szs (ps.take i)+p.sz:=by
  rw[take_snoc hp,szs_append];simp[sz.szs]
theorem szs_take_le (ps:List Con) (i:Nat):sz.szs (ps.take i)≤sz.szs ps:=by
  have:=szs_append (ps.take i) (ps.drop i)
  rw[List.take_append_drop]at this
  omega
end Con
namespace Ax
theorem check_20 {x:Ax} (h:x.shaped=true) (hn:x.namedU (us x.kind)=false):x.check=20:=by unfold check;rw[if_neg (by rw[h];simp),if_pos hn]
theorem check_left {x:Ax} (h:x.shaped=true) (hn:x.namedU (us x.kind)=true) (hl:(us x.kind).left=true) (he:x.left.check≠0):x.check=x.left.check:=by
  unfold check;rw[if_neg (by rw[h];simp),if_neg (by rw[hn];simp),if_pos ⟨hl,he⟩]
theorem check_right {x:Ax} (h:x.shaped=true) (hn:x.namedU (us x.kind)=true) (hl:(us x.kind).left=true→x.left.check=0) (hr:(us x.kind).right=true) (he:x.right.check≠0):x.check=x.right.check:=by
  unfold check;rw[if_neg (by rw[h];simp),if_neg (by rw[hn];simp),if_neg (fun q=>q.2 (hl q.1)),if_pos ⟨hr,he⟩]
end Ax
end Go.Vs
namespace Go.Proofs.YtamklbgaipakfaaGreatDoor
open Go Go.Sx Go.Proofs
attribute [local irreducible] Code.wp wpList wpAnyH
open Go.Vs
theorem tA_:∀ (m:Nat) (c:Con),c.sz≤m→c.ok→∀ (d most:Int),0≤d∧d≤40→0≤most∧most≤1000→Tri Tryz.prog 105 #[Con.val c,.int .i64 d,.int .i64 most] [] [Con.memF c] (fun r:{r:Int // 1≤r∧r≤most+4398046511104∧(r≤most→(c.sz:Int)≤r)}=>.int .i64 r.1) (fun _=>[]) (fun _=>[]):=by
 intro m
 induction m with
 | zero=>intro c h;have:=c.sz_pos;omega
 | succ m ih =>
   intro c hm hok d most hd hmost
   have hnl:=Con.ok_name hok
   have hpl:=Con.ok_len hok
   refine j_ Tryz.func105 rfl rfl Tryz.ntmps105 rfl fun v0=>?_
   refine Zz 2 ?_
   refine N_ rfl rfl fun b1=>Zi 7 (fun hr1=>?_) fun hr1=>?_
   · skip
     refine Zz 9 ?_
     refine c_ (dk_ aj_ rfl) rfl (c_ (aA_ (tV_ (n:=40) rfl rfl (by decide) (aV_ (r:=((List.length (Con.name c) / 40:Nat):Int)) (by omega) (by omega))) (show _=Value.int .i64 ((List.length (Con.name c) / 40:Nat):Int) from rfl)) rfl (Zz 11 ?_))
     refine bp_ [(1,.int .i64 d),(2,.int .i64 most),(3,zp_ b1 0),(7,.int .i64 (1+((List.length (Con.name c) / 40:Nat):Int))),(8,.int .i64 ((0:Nat):Int))] zl ?_
     refine bG_ (ι:={x:Nat×Int // x.1≤c.parts.length∧1≤x.2∧x.2≤most+4398046511104∧(x.2≤most→((1+Con.sz.szs (c.parts.take x.1):Nat):Int)≤x.2)}) (fun x=>[(1,.int .i64 d),(2,.int .i64 most),(3,zp_ b1 0),(7,.int .i64 x.1.2),(8,.int .i64 (x.1.1:Int))]) (fun _=>_) (fun _=>_) (fun x=>c.parts.length - x.1.1) ⟨(0,1+((List.length (Con.name c) / 40:Nat):Int)),by simp,by dsimp only;omega,by dsimp only;omega,by simp[Con.sz.szs];omega⟩ ?_
     rintro ⟨⟨i,n⟩,hk⟩
     dsimp only at hk
     obtain⟨hk1,hk2,hk3,hk4⟩:=hk
     refine bp_ [(1,.int .i64 d),(2,.int .i64 most),(3,zp_ b1 0),(7,.int .i64 n),(8,.int .i64 (i:Int))] zl ?_
     refine Zz 7 ?_
     refine y_ (dN_ rfl rfl) rfl fun r2 hr2=>Zz 1 ?_
     refine aN_ 4 ((decide ((i:Int)<(List.length (Con.parts c):Int)))&&(decide (n≤most))) (fun r=>[(1,.int .i64 d),(2,.int .i64 most),(3,zp_ b1 0),(7,.int .i64 n),(8,.int .i64 (i:Int)),(27,.bool r)]) ?_ fun r3 hr3=>?_
     · skip
       cases r2
       · skip
         have qr3:=hr2
         replace hr2:=zdf hr2
         refine Zz 6 ?_
         exact met ⟨rfl,rfl,rfl,rfl,rfl,(m_ rfl (jaf qr3)),trivial⟩
       · skip
         have qr3:=hr2
         replace hr2:=zdt hr2
         refine Zz 5 ?_
         refine y_ (fm_ rfl rfl) rfl fun r4 hr4=>Zz 3 ?_
         exact met ⟨rfl,rfl,rfl,rfl,rfl,(m_ rfl (jat qr3 hr4)),trivial⟩
     · skip
       refine Zz 2 ?_
       cases r3
       · skip
         simp at hr3
         refine Zz 10 ?_
         exact E_ Tryz.results105 ⟨n,by omega,by omega,fun q=>by have hi:c.parts.length≤i:=(by simp at *;omega);have:=hk4 q;rw[List.take_of_length_le hi]at this;rw[Con.sz_eq];exact this⟩ rfl (@List.perm_append_comm _ [_] _) zt
       · skip
         simp at hr3
         skip
         obtain⟨hlx1,x1,hx1,hmx1⟩:=zge (show i<List.length (Con.parts c) by omega)
         refine Zz 10 ?_
         refine c_ (C_ D_ g_ rfl rfl (fun v _ h=>q_ (n:=5) Con.cells_len (by decide) (by exact ((Con.mem_iff c v).1 h.1).1) hx1) (by omega) (by first|omega|(simp;done))) rfl ?_
         refine c_ (L_ (ad:=(Con.ad c)) (us:=Con.cells x1) R_ g_ rfl (fun v _ h=>by exact ((Con.mem_iff c v).1 h.1).1) (Con.cells_len _) (o_ Con.cells_len hx1)) rfl (Zz 5 ?_)
         refine d_ (ih x1 (by have:=Con.sz_part hmx1;omega) (Con.ok_part hok hmx1) (d - 1) (most - n) ⟨by omega,by omega⟩ ⟨by omega,by omega⟩) rfl e_ (fun v _ h=>by exact⟨(Con.mem_part (c:=c) h.1 hmx1),trivial⟩) rfl fun⟨r,hr1,hr2,hr3⟩=>?_
         dsimp only
         refine Zz 10 ?_
         have hst:=Con.szs_step hx1
         exact z_ ⟨(i+1,n+r),hlx1,by dsimp only;omega,by dsimp only;omega,fun q=>by dsimp only at q ⊢;rw[hst];have:=hr3 (by omega);have:=hk4 (by omega);omega⟩ (by dsimp only;omega) zl (.refl _) zh
   · skip
     refine Zz 11 ?_
     exact E_ Tryz.results105 ⟨(most+1),by omega,by omega,fun q=>by omega⟩ rfl (@List.perm_append_comm _ [_] _) zt
theorem mI_ (c:Con) (hok:c.ok):Tri Tryz.prog 55 #[Con.val c] [] [Con.memF c] (fun b:{b:Bool // b=true→c.sz≤150}=>.bool b.1) (fun _=>[]) (fun _=>[]):=by
  refine j_ Tryz.func55 rfl rfl Tryz.ntmps55 rfl fun v0=>?_
  refine Zz 2 ?_
  refine N_ rfl rfl fun b1=>Zz 6 ?_
  refine d_ (tA_ _ c (Nat.le_refl _) hok 40 150 ⟨by decide,by decide⟩ ⟨by decide,by decide⟩) rfl e_ zf rfl fun⟨r,hr1,hr2,hr3⟩=>?_
  dsimp only
  refine y_ (fm_ rfl rfl) rfl fun r1 hr1=>Zz 4 ?_
  exact E_ Tryz.results55 ⟨r1,fun q=>by rw[q]at hr1;have:=of_decide_eq_true hr1;have:=hr3 this;omega⟩ rfl (@List.perm_append_comm _ [_] _) zt
structure Ax.Few (x:Ax):Prop where
  left:x.left.sz≤150
  right:x.right.sz≤150
  roles:x.roles.length≤600
theorem oh_ (x:Ax) (hok:x.ok):Tri Tryz.prog 21 #[Ax.val x] [] [Ax.memF x] (fun b:{b:Bool // b=true→Ax.Few x}=>.bool b.1) (fun _=>[]) (fun _=>[]):=by
 refine j_ Tryz.func21 rfl rfl Tryz.ntmps21 rfl fun v0=>?_
 have h1:=hok.role
 have h2:=hok.a
 have h3:=hok.b
 have h4:=hok.len
 have h5:=hok.cap
 refine Zz 2 ?_
 refine N_ rfl rfl fun b1=>Zz 7 ?_
 refine c_ (dk_ aj_ rfl) rfl (Zz 2 ?_)
 refine c_ (dk_ aj_ rfl) rfl (Zz 3 ?_)
 refine c_ (dk_ aj_ rfl) rfl (Zz 16 ?_)
 refine bp_ [(1,zp_ b1 0),(3,.int .i64 (((((Ax.role x).length:Int)+((Ax.a x).length:Int))+((Ax.b x).length:Int))+(10*(List.length (Ax.roles x):Int)))),(4,.int .i64 ((0:Nat):Int))] zl ?_
 refine bG_ (ι:={y:Nat×Int // y.1≤x.roles.length∧y.1≤100∧(x.roles.length:Int)≤y.2∧y.2≤444444444444444444+y.1*140737488351232}) (fun y=>[(1,zp_ b1 0),(3,.int .i64 y.1.2),(4,.int .i64 (y.1.1:Int))]) (fun _=>_) (fun _=>_) (fun y=>x.roles.length - y.1.1) ⟨(0,(((((Ax.role x).length:Int)+((Ax.a x).length:Int))+((Ax.b x).length:Int))+(10*(List.length (Ax.roles x):Int)))),by simp,by simp,by dsimp only;omega,by dsimp only;omega⟩ ?_
 rintro ⟨⟨i,n⟩,hk⟩
 dsimp only at hk
 refine bp_ [(1,zp_ b1 0),(3,.int .i64 n),(4,.int .i64 (i:Int))] zl ?_
 refine Zi 7 (fun hr1=>?_) fun hr1=>?_
 ·refine Zi 12 (fun hr2=>?_) fun hr2=>?_
  ·refine Zz 14 ?_
   exact E_ ka_ ⟨false,fun h=>by cases h⟩ rfl (@List.perm_append_comm _ [_] _) zt
  refine Zz 6 ?_
  refine d_ (mI_ (Ax.left x) hok.left) rfl e_ (fun v _ h=>by exact⟨h.1.1,trivial⟩) rfl fun⟨f1,hf1⟩=>?_
  dsimp only
  refine Zz 2 ?_
  cases f1
  ·refine Zz 8 ?_
   exact E_ ka_ ⟨false,fun h=>by cases h⟩ rfl (@List.perm_append_comm _ [_] _) zt
  refine Zz 5 ?_
  refine d_ (mI_ (Ax.right x) hok.right) rfl e_ (fun v _ h=>by exact⟨h.1.2.1,trivial⟩) rfl fun⟨f2,hf2⟩=>?_
  dsimp only
  refine Zz 5 ?_
  exact E_ ka_ ⟨f2,fun h=>⟨hf1 rfl,hf2 h,by omega⟩⟩ rfl (@List.perm_append_comm _ [_] _) zt
 refine Zi 4 (fun hr3=>?_) fun hr3=>?_
 ·refine Zi 9 (fun hr4=>?_) fun hr4=>?_
  ·refine Zz 14 ?_
   exact E_ ka_ ⟨false,fun h=>by cases h⟩ rfl (@List.perm_append_comm _ [_] _) zt
  refine Zz 6 ?_
  refine d_ (mI_ (Ax.left x) hok.left) rfl e_ (fun v _ h=>by exact⟨h.1.1,trivial⟩) rfl fun⟨f1,hf1⟩=>?_
  dsimp only
  refine Zz 2 ?_
  cases f1
  ·refine Zz 8 ?_
   exact E_ ka_ ⟨false,fun h=>by cases h⟩ rfl (@List.perm_append_comm _ [_] _) zt
  refine Zz 5 ?_
  refine d_ (mI_ (Ax.right x) hok.right) rfl e_ (fun v _ h=>by exact⟨h.1.2.1,trivial⟩) rfl fun⟨f2,hf2⟩=>?_
  dsimp only
  refine Zz 5 ?_
  exact E_ ka_ ⟨f2,fun h=>⟨hf1 rfl,hf2 h,by omega⟩⟩ rfl (@List.perm_append_comm _ [_] _) zt
 obtain⟨hlx1,x1,hx1,hmx1⟩:=zge (show i<List.length (Ax.roles x) by omega)
 have hrl:=hok.roles x1 hmx1
 refine Zz 13 ?_
 refine c_ (C_ t_ ah_ rfl rfl (fun v _ h=>q_ (n:=1) ak_ (by decide) (by exact h.1.2.2) hx1) (by omega) (by first|omega|(simp;done))) rfl ?_
 refine c_ (bt_ (ad:=(Ax.ad x)) aL_ rfl (fun v _ h=>by exact h.1.2.2) (o_ ak_ hx1 0 _ rfl)) rfl (c_ (dk_ aj_ rfl) rfl (Zz 10 ?_))
 exact z_ ⟨(i+1,n+(List.length x1:Int)),hlx1,by dsimp only;omega,by dsimp only;omega,by dsimp only;omega⟩ (by dsimp only;omega) zl (.refl _) zh
theorem mH_ (l:List Ax) (ad:Option Addr) (cap:Nat) (most:Int) (hcap:l.length≤cap∧cap≤2199023255488) (hok:∀ x∈l,x.ok):Tri Tryz.prog 35 #[.slice ad (List.length l) cap,.int .i64 most] [] [aR_ ad l] (fun b:{b:Bool // b=true→(l.length:Int)≤most∧∀ x∈l,Ax.Few x}=>.bool b.1) (fun _=>[]) (fun _=>[]):=by
 refine j_ Tryz.func35 rfl rfl Tryz.ntmps35 rfl fun v0=>?_
 refine Zi 11 (fun hr1=>?_) fun hr1=>?_
 ·refine Zz 12 ?_
  refine bp_ [(0,.slice ad (List.length l) cap),(5,.int .i64 ((0:Nat):Int))] zl ?_
  refine bG_ (ι:={q:Nat // q≤l.length∧∀ x∈l.take q,Ax.Few x}) (fun i=>[(0,.slice ad (List.length l) cap),(5,.int .i64 (i.1:Int))]) (fun _=>_) (fun _=>_) (fun i=>l.length - i.1) ⟨0,by simp⟩ ?_
  rintro ⟨i,hk⟩
  refine bp_ [(0,.slice ad (List.length l) cap),(5,.int .i64 (i:Int))] zl ?_
  refine Zi 6 (fun hr2=>?_) fun hr2=>?_
  ·refine Zz 11 ?_
   exact E_ Tryz.results35 ⟨true,fun _=>⟨by omega,fun x hx=>hk.2 x (by rw[List.take_of_length_le (by omega)];exact hx)⟩⟩ rfl (.refl _) zt
  obtain⟨hlx1,x1,hx1,hmx1⟩:=zge (show i<List.length l by omega)
  refine Zz 11 ?_
  refine c_ (C_ s_ f_ rfl rfl (fun v _ h=>q_ (n:=16) Ax.cells_len (by decide) (by exact h.1.1) hx1) (by omega) (by first|omega|(simp;done))) rfl ?_
  refine c_ (L_ (ad:=ad) (us:=Ax.cells x1) K_ f_ rfl (fun v _ h=>by exact h.1.1) (Ax.cells_len _) (o_ Ax.cells_len hx1)) rfl (d_ (oh_ x1 (hok x1 hmx1)) rfl e_ (fun v _ h=>by exact⟨(h.1.2 x1 hmx1),trivial⟩) rfl fun⟨r,hr⟩=>?_)
  dsimp only
  refine c_ (aG_ rfl) rfl (Zz 2 ?_)
  cases r
  ·refine Zz 7 ?_
   exact E_ Tryz.results35 ⟨false,fun h=>by cases h⟩ rfl (.refl _) zt
  refine Zz 9 ?_
  exact z_ ⟨i+1,hlx1,fun x hx=>by rw[List.take_add_one,hx1]at hx;simp only[Option.toList_some,List.mem_append,List.mem_singleton]at hx;rcases hx with hx|rfl;exact hk.2 x hx;exact hr rfl⟩ (by simp;omega) zl (.refl _) zh
 refine Zz 9 ?_
 exact E_ Tryz.results35 ⟨false,fun h=>by cases h⟩ rfl (.refl _) zt
end Go.Proofs.YtamklbgaipakfaaGreatDoor
namespace Go.Proofs.YtamklbgaipakfaaGreatDoor
open Go Go.Sx Go.Proofs
attribute [local irreducible] Code.wp wpList wpAnyH
open Go.Vs
theorem jx_:∀ (m:Nat) (c:Con),c.sz≤m→c.ok→c.sz≤1000→Tri Tryz.prog 222 #[Con.val c] [] [Con.memF c] (fun _:Unit=>.int .i64 (c.sz:Int)) (fun _=>[]) (fun _=>[]):=by
 intro m
 induction m with
 | zero=>intro c h;have:=c.sz_pos;omega
 | succ m ih =>
   intro c hm hok hz
   have hpl:=Con.ok_len hok
   refine j_ Tryz.func222 rfl rfl Tryz.ntmps222 rfl fun v0=>?_
   refine Zz 2 ?_
   refine N_ rfl rfl fun b1=>Zz 15 ?_
   have hsz:=Con.sz_eq c
   refine bp_ [(1,zp_ b1 0),(3,.int .i64 1),(4,.int .i64 ((0:Nat):Int))] zl ?_
   refine bG_ (ι:={z:Nat // z≤c.parts.length}) (fun z=>[(1,zp_ b1 0),(3,.int .i64 ((1+Con.sz.szs (c.parts.take z.1):Nat):Int)),(4,.int .i64 (z.1:Int))]) (fun _=>_) (fun _=>_) (fun z=>c.parts.length - z.1) ⟨0,by simp⟩ ?_
   rintro ⟨i,hi⟩
   dsimp only
   have hle:=Con.szs_take_le c.parts i
   refine bp_ [(1,zp_ b1 0),(3,.int .i64 ((1+Con.sz.szs (c.parts.take i):Nat):Int)),(4,.int .i64 (i:Int))] zl ?_
   refine Zi 7 (fun hr1=>?_) fun hr1=>?_
   · skip
     refine Zz 12 ?_
     exact E_ Tryz.results222 () (O_ rfl (by rw[hsz,List.take_of_length_le (by omega)])) e_ zt
   · skip
     obtain⟨hlx1,x1,hx1,hmx1⟩:=zge (show i<List.length (Con.parts c) by omega)
     have hsp:=Con.sz_part hmx1
     have hle2:=Con.szs_take_le c.parts (i+1)
     rw[Con.szs_step hx1]at hle2
     refine Zz 12 ?_
     refine c_ (C_ D_ g_ rfl rfl (fun v _ h=>q_ (n:=5) Con.cells_len (by decide) (by exact ((Con.mem_iff c v).1 h.1).1) hx1) (by omega) (by first|omega|(simp;done))) rfl ?_
     refine c_ (L_ (ad:=(Con.ad c)) (us:=Con.cells x1) R_ g_ rfl (fun v _ h=>by exact ((Con.mem_iff c v).1 h.1).1) (Con.cells_len _) (o_ Con.cells_len hx1)) rfl (d_ (ih x1 (by omega) (Con.ok_part hok hmx1) (by omega)) rfl e_ (fun v _ h=>by exact⟨(Con.mem_part (c:=c) h.1 hmx1),trivial⟩) rfl fun _=>Zz 10 ?_)
     have hst:=Con.szs_step hx1
     exact z_ ⟨i+1,hlx1⟩ (by dsimp only;omega) ⟨rfl,(O_ rfl (by dsimp only;omega)),rfl,trivial⟩ (.refl _) zh
end Go.Proofs.YtamklbgaipakfaaGreatDoor
namespace Go.Vs
open Go Go.Sx
structure Pw where
  l:List Pc
  ad:Option Addr
  cap:Nat
def Pw.cells (x:Pw):List Value:=[.slice x.ad x.l.length x.cap]
theorem Pw.cells_len (x:Pw):x.cells.length=1:=rfl
namespace Con
end Con
namespace Ax
end Ax
end Go.Vs
namespace Go.Sx
open Go
section
variable {P:Program} {N:Nf} {v0:Vw} {H0:Hp} {R:Exit→Act→World→Prop} {K:List Kt} {fr:Fr} {H F:Hp} {Γ:List Fct} {ops:Array Oper} {l:List Oper} {ty:TypeId} {ps:String} {af:Array Edge} {e:TypeId} {sz n:Nat} {sv:Value} {xs:List Value} {Hr:Hp}
theorem si_ {α:Type} (l:List α) (k m:Nat) (u:α) (hk:k<m) (hm:m≤l.length):(l.take k++[u]++l.drop (k+1)).take m=(l.take m).set k u:=by
 apply List.ext_getElem?
 intro j
 rw[List.getElem?_take,List.getElem?_set,List.length_take]
 by_cases hj:j<m
 ·rw[if_pos hj]
  by_cases h1:j<k
  ·rw[if_neg (by omega),List.append_assoc,List.getElem?_append_left (by rw[List.length_take];omega),List.getElem?_take,if_pos h1,List.getElem?_take,if_pos hj]
  by_cases h2:j=k
  ·subst h2
   rw[if_pos rfl,if_pos (by omega),List.append_assoc,List.getElem?_append_right (by rw[List.length_take];omega),List.length_take,Nat.min_eq_left (by omega),Nat.sub_self];rfl
  rw[if_neg (by omega),List.getElem?_append_right (by rw[List.length_append,List.length_take,List.length_singleton];omega),List.length_append,List.length_take,List.length_singleton,List.getElem?_drop,List.getElem?_take,if_pos hj,Nat.min_eq_left (by omega)]
  congr 1;omega
 rw[if_neg hj,if_neg (by omega),List.getElem?_take,if_neg hj]
theorem dU_ {t:TypeId} {x y:Operand} {k:Nat} {u:Value} (hrow:ar_ e sz sv n xs Hr) (hH:H.Perm (Hr++F)) (hs:∀ w,(sizeOf t).run P w=.ok 1 w) (hx:Fr.ev fr x=some (.pointer (some ⟨svB sv,k,none⟩))) (hy:Fr.ev fr y=some u) (hk:k<n*sz) (hu:u.cells=#[u]) (hu1:u.oneCell'=true)
    (h:∀ Hr',ar_ e sz sv n (xs.set k u) Hr'→Ops P R N v0 H0 ops l K fr (Hr'++F) Γ):Ops P R N v0 H0 ops (⟨none,.store t x y,ty,ps,af,none⟩::l) K fr H Γ:=by
  rcases hrow.2 with⟨_,h2,_⟩|⟨g,cap,cur,rfl,rfl,h3,h4,h5,h6⟩
  · subst h2;simp at hk
  · have hle:n*sz≤cap*sz:=Nat.mul_le_mul_right _ h3
    refine u_ hH (n_ (b:=g) (off:=k) 0 hs hx hy rfl (by rw[hu];rfl) ?_ (by rw[hu];simp[hu1]) ?_)
    · have hb:k+1≤cur.size:=by rw[h5];omega
      simpa using hb
    · rw[hu]
      refine h [(g,.cells (cur.toList.take k++[u]++cur.toList.drop (k+1)).toArray e (0,0))] ⟨by rw[List.length_set];exact hrow.1,.inr ⟨g,cap,_,rfl,rfl,h3,h4,?_,?_⟩⟩
      · simp only[List.size_toArray,List.length_append,List.length_take,List.length_drop,List.length_singleton,Array.length_toList,h5];omega
      · show ((cur.toList.take k++[u]++cur.toList.drop (k+1)).toArray).toList.take (n*sz)=_
        rw[List.toList_toArray,si_ _ _ _ _ hk (by rw[Array.length_toList,h5];exact hle),h6]
theorem fZ_ {α:Type} (f:α→List Value) (z:Nat) (hf:∀ x,(f x).length=z):∀ (l:List α) (i j:Nat) (x y:α) (u:Value),l[i]? = some x→j<z→f y=(f x).set j u→(l.flatMap f).set (i*z+j) u=(l.set i y).flatMap f
  | [],i,_,_,_,_,h,_,_=>by simp at h
  | a::l,0,j,x,y,u,h,hj,he=>by
    simp only[List.getElem?_cons_zero,Option.some.injEq]at h
    subst h
    rw[List.flatMap_cons,List.set_cons_zero,List.flatMap_cons,he,Nat.zero_mul,Nat.zero_add,List.set_append_left _ _ (by rw[hf];exact hj)]
  | a::l,i+1,j,x,y,u,h,hj,he=>by
    simp only[List.getElem?_cons_succ]at h
    rw[List.flatMap_cons,List.set_cons_succ,List.flatMap_cons,← fZ_ f z hf l i j x y u h hj he,List.set_append_right _ _ (by rw[hf,Nat.succ_mul];omega),hf]
    congr 2
    rw[Nat.succ_mul];omega
theorem pE_ {t t':TypeId} {x:Operand} {k k':IntKind} {m r:Int} {u:TypeDesc} (hs:P.underlying t=some u) (hd:P.underlying t'=some (.int k')) (hx:Fr.ev fr x=some (.int k m)) (hw:IntKind.wrap k' m=r):Yld P N fr H Γ (.convert t t' x) ty (.int k' r) :=
  fun a v h1 _ _ _ _ _=>by subst hw;simp[execOp,h1.ev hx,convert,run_underlying hs,run_underlying hd,Conv.intToInt]
theorem wrapU {r:Int} (h1:0≤r) (h2:r≤18446744073709551615):IntKind.wrap .u64 r=r:=by
  simp[IntKind.wrap,IntKind.signed,IntKind.bits]
  omega
end
end Go.Sx
namespace Go.Sx
open Go
section
variable {P:Program} {N:Nf} {v0:Vw} {H0:Hp} {R:Exit→Act→World→Prop} {K:List Kt} {fr:Fr} {H F:Hp} {Γ:List Fct} {ops:Array Oper} {l:List Oper} {ty:TypeId} {ps:String} {af:Array Edge} {e:TypeId} {sz n:Nat} {sv:Value} {xs:List Value} {Hr:Hp}
theorem qJ_ {α:Type} (l us:List α) (k m:Nat) (hk:k+us.length≤m) (hm:m≤l.length):(l.take k++us++l.drop (k+us.length)).take m=(l.take m).take k++us++(l.take m).drop (k+us.length):=by
  rw[List.take_take,Nat.min_eq_left (by omega),List.take_append,List.take_of_length_le (by simp only[List.length_append,List.length_take];omega)]
  congr 1
  rw[List.drop_take]
  congr 1
  simp only[List.length_append,List.length_take]
  omega
theorem oX_ {t:TypeId} {x y:Operand} {k:Nat} {us:List Value} (hrow:ar_ e sz sv n xs Hr) (hH:H.Perm (Hr++F)) (hs:∀ w,(sizeOf t).run P w=.ok sz w) (hx:Fr.ev fr x=some (.pointer (some ⟨svB sv,k,none⟩))) (hy:Fr.ev fr y=some (.agg us.toArray)) (hk:k+sz≤n*sz) (hus:us.length=sz) (hp:0<sz) (hu1:us.all Value.oneCell'=true)
    (h:∀ Hr',ar_ e sz sv n (xs.take k++us++xs.drop (k+sz)) Hr'→Ops P R N v0 H0 ops l K fr (Hr'++F) Γ):Ops P R N v0 H0 ops (⟨none,.store t x y,ty,ps,af,none⟩::l) K fr H Γ:=by
  rcases hrow.2 with⟨_,h2,_⟩|⟨g,cap,cur,rfl,rfl,h3,h4,h5,h6⟩
  · subst h2;simp only[Nat.zero_mul]at hk;omega
  · have hle:n*sz≤cap*sz:=Nat.mul_le_mul_right _ h3
    have hlx:=hrow.1
    refine u_ hH (n_ (b:=g) (off:=k) (n:=sz) 0 hs hx hy rfl (by simpa [Value.cells] using hus) ?_ (by simpa [Value.cells] using hu1) ?_)
    · have hb:k+sz≤cur.size:=by rw[h5];omega
      simpa using hb
    · refine h [(g,.cells (cur.toList.take k++us++cur.toList.drop (k+sz)).toArray e (0,0))] ⟨by simp only[List.length_append,List.length_take,List.length_drop];omega,.inr ⟨g,cap,_,rfl,rfl,h3,h4,?_,?_⟩⟩
      · simp only[List.size_toArray,List.length_append,List.length_take,List.length_drop,Array.length_toList,h5];omega
      · show ((cur.toList.take k++us++cur.toList.drop (k+sz)).toArray).toList.take (n*sz)=_
        rw[List.toList_toArray,← h6]
        have:=qJ_ cur.toList us k (n*sz) (by omega) (by rw[Array.length_toList,h5];exact hle)
        rw[hus]at this;exact this
theorem qk_ {α:Type} (f:α→List Value) (z:Nat) (hf:∀ x,(f x).length=z):∀ (l:List α) (i:Nat) (y:α),i<l.length→(l.flatMap f).take (i*z)++f y++(l.flatMap f).drop (i*z+z)=(l.set i y).flatMap f
  | [],i,y,h=>by simp at h
  | a::l,0,y,h=>by
    rw[List.flatMap_cons,List.set_cons_zero,List.flatMap_cons,Nat.zero_mul,List.take_zero,List.nil_append,Nat.zero_add,List.drop_append,List.drop_of_length_le (by rw[hf];exact Nat.le_refl _),hf,Nat.sub_self];rfl
  | a::l,i+1,y,h=>by
    have h':i<l.length:=by simpa using h
    rw[List.flatMap_cons,List.set_cons_succ,List.flatMap_cons,← qk_ f z hf l i y h',Nat.succ_mul,List.take_append,List.take_of_length_le (by rw[hf];omega),List.drop_append,List.drop_of_length_le (by rw[hf];omega),hf]
    rw[show i*z+z - z=i*z by omega,show i*z+z+z - z=i*z+z by omega]
    simp[List.append_assoc]
end
end Go.Sx
namespace Go.Sx
open Go
section
variable {P:Program} {N:Nf} {v0:Vw} {H0:Hp} {R:Exit→Act→World→Prop} {K:List Kt} {fr:Fr} {H F:Hp} {Γ:List Fct} {ops:Array Oper} {l:List Oper} {d:Nat} {ty:TypeId} {ps:String} {af:Array Edge} {e:TypeId} {sz n:Nat} {sv:Value} {xs:List Value} {Hr:Hp}
inductive ORow (e:TypeId) (sz:Nat):Value→Nat→List Value→Hp→Prop
  | row {sv:Value} {n:Nat} {xs:List Value} {Hr:Hp} (h:ar_ e sz sv n xs Hr):ORow e sz sv n xs Hr
  | cut {g k n cap:Nat} {pre xs:List Value} {Hr:Hp} (hp:pre.length=k*sz) (h:ar_ e sz (.slice (some ⟨g,0,none⟩) (k+n) (k+cap)) (k+n) (pre++xs) Hr):ORow e sz (.slice (some ⟨g,k*sz,none⟩) n cap) n xs Hr
  | out {g k:Nat} {Hr:Hp}:ORow e sz (.slice (some ⟨g,k*sz,none⟩) 0 0) 0 [] Hr
theorem ORow.len (h:ORow e sz sv n xs Hr):xs.length=n*sz:=by
  cases h with
  | row h=>exact h.1
  | cut hp h=>have:=h.1;rw[List.length_append,hp,Nat.add_mul]at this;omega
  | out=>simp
theorem ORow.form (h:ORow e sz sv n xs Hr):∃ ad cap,sv=.slice ad n cap∧n≤cap∧(ad=none→cap=0):=by
 cases h with
 | row h =>
   rcases h.2 with⟨rfl,rfl,_⟩|⟨g,cap,cur,rfl,_,h3,_⟩
   · exact⟨_,_,rfl,Nat.le_refl _,fun _=>rfl⟩
   · exact⟨_,_,rfl,h3,fun q=>by cases q⟩
 | cut hp h =>
   rcases h.2 with⟨h1,_⟩|⟨g,cap,cur,h1,_,h3,_⟩
   · cases h1
   · simp only[Value.slice.injEq]at h1;obtain⟨_,_,rfl⟩:=h1;exact⟨_,_,rfl,by omega,fun q=>by cases q⟩
 | out=>exact⟨_,_,rfl,Nat.le_refl _,fun q=>by cases q⟩
theorem Vw.to.more {v v':Vw} {H':Hp} (h:v.to F v' H'):v.to (Hr++F) v' H' where
 os:=h.os
 tape:=h.tape
 output:=h.output
 size:=h.size
 block:=fun b hb hn=>h.block b hb fun hm=>hn (by rw[List.map_append];exact List.mem_append_right _ hm)
 imUp:=h.imUp
 imNew:=fun b hb=>by
   rw[List.map_append]
   rcases h.imNew b hb with q|q|q
   · exact .inl q
   · exact .inr (.inl (List.mem_append_right _ q))
   · exact .inr (.inr q)
 hNew:=fun b hb=>by
   rw[List.map_append]
   rcases h.hNew b hb with q|q
   · exact .inl (List.mem_append_right _ q)
   · exact .inr q
 sl:=h.sl
 dr:=h.dr
end
end Go.Sx
namespace Go.Sx
open Go
section
variable {P:Program} {N:Nf} {v0:Vw} {H0:Hp} {R:Exit→Act→World→Prop} {K:List Kt} {fr:Fr} {H F:Hp} {Γ:List Fct} {ops:Array Oper} {l:List Oper} {d:Nat} {ty:TypeId} {ps:String} {af:Array Edge} {e:TypeId} {sz n:Nat} {sv:Value} {xs:List Value} {Hr:Hp}
def svK:Value→Nat
  | .slice _ _ c=>c
  | _=>0
def svT (sv:Value) (n k sz:Nat):Value:=.slice (some ⟨svB sv,k*sz,none⟩) (n - k) (svK sv - k)
theorem mZ_ {x y:Operand} {t e':TypeId} {kl:IntKind} {k:Nat} (hrow:ar_ e sz sv n xs Hr) (hu:∀ w,(underlying t).run P w=.ok (.slice e') w) (hs:∀ w,(sizeOf e').run P w=.ok sz w) (hx:Fr.ev fr x=some sv) (hy:Fr.ev fr y=some (.int kl (k:Int))) (hk:k<n) :
    Yld P N fr H Γ (.slice t x (some y) none none) ty (svT sv n k sz):=by
  rcases hrow.2 with⟨_,h2,_⟩|⟨g,cap,cur,rfl,rfl,h3,h4,h5,h6⟩
  · omega
  · refine aA_ (df_ (i:=k) (j:=n) (kl:=kl) (kh:=.i64) hu hs hx hy rfl (by omega) h3) ?_
    unfold svT sad
    rw[if_neg (by omega)]
    simp[cp_,svB,svK]
theorem qE_ {x:Operand} {t e':TypeId} {k:Nat} (hu:∀ w,(underlying t).run P w=.ok (.slice e') w) (hx:Fr.ev fr x=some (svT sv n k sz)):Yld P N fr H Γ (.call ⟨.builtin .len,#[x],#[t]⟩) ty (.int .i64 ((n - k:Nat):Int)):=dl_ hu hx
theorem lY_ {x y:Operand} {t e':TypeId} {k j:Nat} (hu:∀ w,(underlying t).run P w=.ok (.slice e') w) (hs:∀ w,(sizeOf e').run P w=.ok sz w) (hx:Fr.ev fr x=some (svT sv n k sz)) (hy:Fr.ev fr y=some (.int .i64 (j:Int))) (hj:j<n - k) :
    Yld P N fr H Γ (.indexAddr t x y) ty (.pointer (some ⟨svB sv,((k+j:Nat):Int).toNat*sz,none⟩)):=by
  refine aA_ (gN_ hu hs hx hy (by omega) (by omega)) ?_
  rw[Int.toNat_natCast,Int.toNat_natCast,Nat.add_mul]
theorem cutRow (hrow:ar_ e sz sv n xs Hr) {k:Nat} (hk:k≤n) (hn:0<n):∃ sv',ar_ e sz sv' k (xs.take (k*sz)) Hr ∧
    ∀ {N:Nf} {fr:Fr} {H:Hp} {Γ:List Fct} {ty t:TypeId} {x y:Operand},(∀ w,(underlying t).run P w=.ok (.slice e) w)→(∀ w,(sizeOf e).run P w=.ok sz w)→Fr.ev fr x=some sv→Fr.ev fr y=some (.int .i64 (k:Int))→Yld P N fr H Γ (.slice t x none (some y) none) ty sv':=by
  obtain⟨hl,⟨_,h0,_⟩|⟨g,cap,cur,rfl,rfl,hn',hm,hc,hx⟩⟩:=hrow
  · omega
  · refine⟨.slice (some ⟨g,0,none⟩) k cap,⟨?_,.inr ⟨g,cap,cur,rfl,rfl,by omega,hm,hc,?_⟩⟩,fun hu hs hx hy=>?_⟩
    · rw[List.length_take,hl];exact Nat.min_eq_left (Nat.mul_le_mul_right _ hk)
    · rw[← hx,List.take_take,Nat.min_eq_left (Nat.mul_le_mul_right _ hk)]
    · refine aA_ (df_ (i:=0) (j:=k) (kl:=.i64) (kh:=.i64) hu hs hx rfl hy (Nat.zero_le _) (by omega)) ?_
      unfold sad
      rw[if_neg (by omega)]
      simp[cp_]
theorem pa_ {x:Operand} {t:TypeId} {k:Nat} {z:Value} (hrow:ar_ e sz sv n xs Hr) (hH:H.Perm (Hr++F)) (hu:∀ w,(underlying t).run P w=.ok (.slice e) w) (hz:∀ w,(zeroValue e).run P w=.ok z w) (hzl:z.cells.size=sz) (h1:z.cells.toList.all Value.oneCell'=true) (hsz:0<sz)
    (hx:Fr.ev fr x=some (svT sv n k sz)) (hk:k<n)
    (h:∀ Hr' zs,zs.length=(n - k)*sz→ar_ e sz sv n (xs.take (k*sz)++zs) Hr'→Ops P R N v0 H0 ops l K fr (Hr'++F) Γ):Ops P R N v0 H0 ops (⟨none,.call ⟨.builtin .clear,#[x],#[t]⟩,ty,ps,af,none⟩::l) K fr H Γ:=by
  rcases hrow.2 with⟨_,h2,_⟩|⟨g,cap,cur,rfl,rfl,h3,h4,h5,h6⟩
  · omega
  · have hle:n*sz≤cap*sz:=Nat.mul_le_mul_right _ h3
    have hkle:k*sz≤n*sz:=Nat.mul_le_mul_right _ (by omega)
    obtain⟨m,hm⟩:∃ m,n - k=m+1:=⟨n - k - 1,by omega⟩
    have hzs:(Builtin.zeroCells z.cells (n - k)).toList.length=(n - k)*sz:=by simp[Builtin.zeroCells,hzl]
    have hadd:k*sz+(n - k)*sz=n*sz:=by rw[← Nat.add_mul];congr 1;omega
    refine u_ hH (cF_ rfl fun a v g1 g2 g3 g4=>?_)
    have hb:=(g2.own _ List.mem_cons_self).1
    have hst:=run_storeCells_at P g (k*sz) e (Builtin.zeroCells z.cells (n - k)).toList 0 cur v.w hb (by rw[hzs,h5];omega) (fun c hc=>by
      have hsz':0<z.cells.size:=by omega
      simp only[Builtin.zeroCells,Array.toList_map,Array.toList_range,List.mem_map,List.mem_range]at hc
      obtain⟨i,_,rfl⟩:=hc
      have hlt:i%z.cells.size<z.cells.size:=Nat.mod_lt _ hsz'
      rw[getElem!_pos z.cells _ hlt]
      exact List.all_eq_true.1 h1 _ (by simp))
    have he:(execOp a.eval ⟨none,.call ⟨.builtin .clear,#[x],#[t]⟩,ty,ps,af,none⟩).run P v.w=.ok (.value (.tuple #[])) (v.w.setRow g (cur.toList.take (k*sz)++(Builtin.zeroCells z.cells (n - k)).toList++cur.toList.drop (k*sz+(n - k)*sz)).toArray):=by
      rw[hzs]at hst
      simp only[Nat.add_zero]at hst
      have hx':a.eval x=.slice (some ⟨g,k*sz,none⟩) (m+1) (cap - k):=by
        have:=g1.ev hx
        rw[this];unfold svT;rw[hm];rfl
      rw[hm]at hst ⊢
      simp[execOp,resolve,invoke,builtin,hx',Builtin.clear_,hu,hz,hst]
    unfold Oper.wp
    rw[he]
    obtain⟨q1,q2⟩:=eR_ (i:=0) (w':=v.w.setRow g (cur.toList.take (k*sz)++(Builtin.zeroCells z.cells (n - k)).toList++cur.toList.drop (k*sz+(n - k)*sz)).toArray) g2 rfl rfl rfl rfl (Nat.le_refl _) (by simp) (setRow_heap _ _ _ _ _ _ hb) (fun c hc=>setRow_other _ _ _ _ hc)
    refine h [(g,.cells (cur.toList.take (k*sz)++(Builtin.zeroCells z.cells (n - k)).toList++cur.toList.drop (k*sz+(n - k)*sz)).toArray e (0,0))] (Builtin.zeroCells z.cells (n - k)).toList hzs ⟨?_,.inr ⟨g,cap,_,rfl,rfl,h3,h4,?_,?_⟩⟩ _ _ g1 q1 (g3.trans q2) (aD_ (q2.le g2) g4)
    · rw[List.length_append,List.length_take,hzs,hrow.1,Nat.min_eq_left hkle];exact hadd
    · simp only[List.size_toArray,List.length_append,List.length_take,List.length_drop,Array.length_toList,h5,hzs,hadd]
      omega
    · have hlc:(cur.toList.take (k*sz)).length=k*sz:=by rw[List.length_take,Array.length_toList,h5];omega
      rw[List.toList_toArray]
      apply List.ext_getElem?
      intro j
      rw[List.getElem?_take]
      by_cases hj:j<n*sz
      · rw[if_pos hj]
        by_cases hjk:j<k*sz
        · rw[List.append_assoc,List.getElem?_append_left (by omega),List.getElem?_append_left (by rw[List.length_take,hrow.1];omega),List.getElem?_take,if_pos hjk,List.getElem?_take,if_pos hjk,← h6,List.getElem?_take,if_pos hj]
        · rw[List.getElem?_append_left (by rw[List.length_append,hlc,hzs];omega),List.getElem?_append_right (by omega),hlc,List.getElem?_append_right (by rw[List.length_take,hrow.1];omega),List.length_take,hrow.1,Nat.min_eq_left hkle]
      · rw[if_neg hj,List.getElem?_eq_none (by rw[List.length_append,List.length_take,hzs,hrow.1,Nat.min_eq_left hkle];omega)]
end
end Go.Sx
namespace Go.Vs
def cpG {α:Type} (q:α→α→Bool):α→List α→List α
  | _,[]=>[]
  | x,y::l=>if q y x then cpG q y l else y::cpG q y l
def cpL {α:Type} (q:α→α→Bool):List α→List α
  | []=>[]
  | x::l=>x::cpG q x l
theorem om_ {α:Type} {q:α→α→Bool}:∀ (l:List α) (x z w:α),(x::l)[l.length]? = some w→cpG q x (l++[z])=cpG q x l++(if q z w then [] else [z])
 | [],x,z,w,h=>by
   simp only[List.length_nil,List.getElem?_cons_zero,Option.some.injEq]at h
   subst h
   simp only[List.nil_append,cpG]
 | y::l,x,z,w,h=>by
   simp only[List.length_cons,List.getElem?_cons_succ]at h
   simp only[List.cons_append,cpG]
   have:=om_ (q:=q) l y z w h
   split
   · exact this
   · rw[this];rfl
theorem il_ {α:Type} {q:α→α→Bool} {l:List α} {p:Nat} {w z:α} (hw:l[p]? = some w) (hz:l[p+1]? = some z):cpL q (l.take (p+2))=cpL q (l.take (p+1))++(if q z w then [] else [z]):=by
  cases l with
  | nil=>simp at hw
  | cons x l =>
    have hzl:=(List.getElem?_eq_some_iff.1 hz).1
    simp only[List.length_cons]at hzl
    simp only[List.getElem?_cons_succ]at hz
    have e:l.take (p+1)=l.take p++[z]:=by rw[List.take_add_one,hz];rfl
    rw[List.take_succ_cons,List.take_succ_cons,cpL,cpL,e,List.cons_append]
    congr 1
    have hlen:(l.take p).length=p:=by rw[List.length_take];omega
    refine om_ (l.take p) x z w ?_
    rw[hlen]
    cases p with
    | zero=>simpa using hw
    | succ p =>
      simp only[List.getElem?_cons_succ]at hw ⊢
      rw[List.getElem?_take,if_pos (by omega)];exact hw
theorem uQ_ {α:Type} {q:α→α→Bool} (l:List α):(cpL q l).length≤l.length:=by
  cases l with
  | nil=>simp[cpL]
  | cons x l =>
    simp only[cpL,List.length_cons]
    have:∀ (l:List α) (x:α),(cpG q x l).length≤l.length:=by
      intro l
      induction l with
      | nil=>intro x;simp[cpG]
      | cons y l ih =>
        intro x
        simp only[cpG]
        have:=ih y
        split<;>simp<;>omega
    have:=this l x
    omega
theorem mN_ {α:Type} {q:α→α→Bool}:∀ (l:List α) (x z:α),z∈cpG q x l→z∈l
 | [],_,_,h=>by simp[cpG]at h
 | y::l,x,z,h=>by
   simp only[cpG]at h
   split at h
   · exact List.mem_cons_of_mem _ (mN_ l y z h)
   · rcases List.mem_cons.1 h with rfl|h
     · simp
     · exact List.mem_cons_of_mem _ (mN_ l y z h)
theorem mM_ {α:Type} {q:α→α→Bool} {l:List α} {z:α} (h:z∈cpL q l):z∈l:=by
 cases l with
 | nil=>simp[cpL]at h
 | cons x l =>
   rcases List.mem_cons.1 h with rfl|h
   · simp
   · exact List.mem_cons_of_mem _ (mN_ l x z h)
structure CmI {α:Type} (q:α→α→Bool) (S M:List α) (k p:Nat):Prop where
  len:M.length=S.length
  kp:k<p
  pl:p≤S.length
  rest:∀ j,k≤j→M[j]? = S[j]?
  fst:M.take k=cpL q (S.take p)
theorem CmI.none {α:Type} {q:α→α→Bool} {S:List α} {k:Nat} {x y:α} (h0:cpL q (S.take (k+1))=S.take (k+1)) (hx:S[k]? = some x) (hy:S[k+1]? = some y) (hq:q y x=true):CmI q S S (k+1) (k+2) :=
  ⟨rfl,by omega,by have:=(List.getElem?_eq_some_iff.1 hy).1;omega,fun _ _=>rfl,by rw[il_ hx hy,if_pos hq,List.append_nil,h0]⟩
theorem CmI.skip {α:Type} {q:α→α→Bool} {S M:List α} {k p:Nat} {x y:α} (h:CmI q S M k (p+1)) (hx:M[p]? = some x) (hy:M[p+1]? = some y) (hq:q y x=true):CmI q S M k (p+2):=by
  have hp:=h.kp
  rw[h.rest p (by omega)]at hx
  rw[h.rest (p+1) (by omega)]at hy
  exact⟨h.len,by omega,by have:=(List.getElem?_eq_some_iff.1 hy).1;omega,h.rest,by rw[il_ hx hy,if_pos hq,List.append_nil,h.fst]⟩
theorem CmI.keep {α:Type} {q:α→α→Bool} {S M:List α} {k p:Nat} {x y:α} (h:CmI q S M k (p+1)) (hx:M[p]? = some x) (hy:M[p+1]? = some y) (hq:q y x=false):CmI q S (M.set k y) (k+1) (p+2):=by
 have hp:=h.kp
 have hyl:=(List.getElem?_eq_some_iff.1 hy).1
 rw[h.rest p (by omega)]at hx
 rw[h.rest (p+1) (by omega)]at hy
 refine⟨by rw[List.length_set];exact h.len,by omega,by have:=(List.getElem?_eq_some_iff.1 hy).1;omega,fun j hj=>?_,?_⟩
 ·rw[List.getElem?_set_ne (by omega)];exact h.rest j (by omega)
 rw[il_ hx hy,if_neg (by rw[hq];simp),← h.fst,List.take_add_one,List.take_set,List.getElem?_set_self (by omega)]
 rw[List.set_eq_of_length_le (by rw[List.length_take];omega)]
 rfl
theorem CmI.done {α:Type} {q:α→α→Bool} {S M:List α} {k:Nat} (h:CmI q S M k S.length):M.take k=cpL q S:=by rw[h.fst,List.take_length]
theorem tz_ {α:Type} {q:α→α→Bool} {S:List α} {k:Nat} {x y:α} (h0:cpL q (S.take (k+1))=S.take (k+1)) (hx:S[k]? = some x) (hy:S[k+1]? = some y) (hq:q y x=false):cpL q (S.take (k+2))=S.take (k+2):=by
  rw[il_ hx hy,if_neg (by rw[hq];simp),h0,List.take_add_one (i:=k+1),hy]
  rfl
theorem lL_ {α:Type} {q:α→α→Bool} {S:List α} (h:S.length<2):cpL q S=S:=by
  match S,h with
  | [],_=>rfl
  | [x],_=>rfl
end Go.Vs
namespace Go.Vs
open Go Go.Sx
def dj_ (a b:Str):Fc:=⟨1,a,b,[],0,0⟩
def de_ (a r b:Str):Fc:=⟨2,a,b,r,0,0⟩
def en_ (a r:Str) (lo hi:Int):Fc:=⟨3,a,[],r,lo,hi⟩
inductive One (p:List Pc) (A:List Str) (S:Fc→Prop) (M:Fc→Fc→Prop):Fc→Prop
  | r1 {a:Str} (h:a∈A):One p A S M (dj_ a a)
  | r2 {a:Str} (h:a∈A):One p A S M (dj_ a [42])
  | r10 {a:Str} {x:Pc} (hx:x∈p) (hk:x.kind=7) (h:a∈A):One p A S M (de_ a x.r a)
  | r3 {a:Str} {x:Pc} (hx:x∈p) (hk:x.kind=1) (h:S (dj_ a x.a)):One p A S M (dj_ a x.c)
  | r4 {a:Str} {x:Pc} (hx:x∈p) (hk:x.kind=2) (h:S (dj_ a x.a)) (h':S (dj_ a x.b)):One p A S M (dj_ a x.c)
  | r5 {a:Str} {x:Pc} (hx:x∈p) (hk:x.kind=3) (h:S (dj_ a x.a)):One p A S M (de_ a x.r x.c)
  | r6 {a b:Str} {x:Pc} (hx:x∈p) (hk:x.kind=5) (h:S (de_ a x.r b)):One p A S M (de_ a x.t b)
  | r7 {a b c:Str} {x:Pc} (hx:x∈p) (hk:x.kind=6) (h:S (de_ a x.r b)) (h':S (de_ b x.s c)):One p A S M (de_ a x.t c)
  | r8 {a b:Str} {x:Pc} (hx:x∈p) (hk:x.kind=4) (h:S (de_ a x.r b)) (h':S (dj_ b x.a)):One p A S M (dj_ a x.c)
  | r9 {a r b:Str} (h:S (de_ a r b)) (h':S (dj_ b [33])):One p A S M (dj_ a [33])
  | r11 {a:Str} {x:Pc} (hx:x∈p) (hk:x.kind=8) (h:S (dj_ a x.a)):One p A S M (en_ a x.r x.lo x.hi)
  | r12 {a r:Str} {lo hi lo' hi':Int} (h:S (en_ a r lo hi)) (h':S (en_ a r lo' hi')) (hm:M (en_ a r lo hi) (en_ a r lo' hi')) (hl:max lo lo'≤min hi hi'):One p A S M (en_ a r (max lo lo') (min hi hi'))
  | r13 {a r:Str} {lo hi lo' hi':Int} (h:S (en_ a r lo hi)) (h':S (en_ a r lo' hi')) (hm:M (en_ a r lo hi) (en_ a r lo' hi')) (hl:min hi hi'<max lo lo'):One p A S M (dj_ a [33])
  | r14 {a:Str} {lo hi:Int} {x:Pc} (hx:x∈p) (hk:x.kind=9) (h:S (en_ a x.r lo hi)) (h1:x.lo≤lo) (h2:hi≤x.hi):One p A S M (dj_ a x.c)
abbrev One' (p:List Pc) (A:List Str) (S:Fc→Prop):Fc→Prop:=One p A S (fun _ _=>True)
theorem One.mono {p p':List Pc} {A A':List Str} {S S':Fc→Prop} {M M':Fc→Fc→Prop} (hp:∀ x∈p,∃ y∈p',∃ n,{ y with frm:=n }=x) (hA:∀ a∈A,a∈A') (hS:∀ y,S y→S' y) (hM:∀ x y,M x y→M' x y) {y:Fc} (h:One p A S M y):One p' A' S' M' y:=by
  cases h with
  | r1 h=>exact .r1 (hA _ h)
  | r2 h=>exact .r2 (hA _ h)
  | r10 hx hk h=>obtain⟨z,hz,n,rfl⟩:=hp _ hx;exact One.r10 (x:=z) hz hk (hA _ h)
  | r3 hx hk h=>obtain⟨z,hz,n,rfl⟩:=hp _ hx;exact One.r3 (x:=z) hz hk (hS _ h)
  | r4 hx hk h h'=>obtain⟨z,hz,n,rfl⟩:=hp _ hx;exact One.r4 (x:=z) hz hk (hS _ h) (hS _ h')
  | r5 hx hk h=>obtain⟨z,hz,n,rfl⟩:=hp _ hx;exact One.r5 (x:=z) hz hk (hS _ h)
  | r6 hx hk h=>obtain⟨z,hz,n,rfl⟩:=hp _ hx;exact One.r6 (x:=z) hz hk (hS _ h)
  | r7 hx hk h h'=>obtain⟨z,hz,n,rfl⟩:=hp _ hx;exact One.r7 (x:=z) hz hk (hS _ h) (hS _ h')
  | r8 hx hk h h'=>obtain⟨z,hz,n,rfl⟩:=hp _ hx;exact One.r8 (x:=z) hz hk (hS _ h) (hS _ h')
  | r9 h h'=>exact .r9 (hS _ h) (hS _ h')
  | r11 hx hk h=>obtain⟨z,hz,n,rfl⟩:=hp _ hx;exact One.r11 (x:=z) hz hk (hS _ h)
  | r12 h h' hm hl=>exact .r12 (hS _ h) (hS _ h') (hM _ _ hm) hl
  | r13 h h' hm hl=>exact .r13 (hS _ h) (hS _ h') (hM _ _ hm) hl
  | r14 hx hk h h1 h2=>obtain⟨z,hz,n,rfl⟩:=hp _ hx;exact One.r14 (x:=z) hz hk (hS _ h) h1 h2
def Der (p:List Pc) (A:List Str) (y:Fc):Prop:=∀ T:Fc→Prop,(∀ y,One' p A T y→T y)→T y
theorem Der.step {p:List Pc} {A:List Str} {y:Fc} (h:One' p A (Der p A) y):Der p A y :=
  fun T hT=>hT y (h.mono (fun x hx=>⟨x,hx,x.frm,rfl⟩) (fun _ h=>h) (fun z hz=>hz T hT) (fun _ _ h=>h))
theorem Der.mono {p p':List Pc} {A A':List Str} (hp:∀ x∈p,∃ y∈p',∃ n,{ y with frm:=n }=x) (hA:∀ a∈A,a∈A') {y:Fc} (h:Der p A y):Der p' A' y :=
  h _ fun _ hz=>Der.step (hz.mono hp hA (fun _ h=>h) (fun _ _ h=>h))
theorem Der.least {p:List Pc} {A:List Str} {T:Fc→Prop} (hT:∀ y,One' p A T y→T y) {y:Fc} (h:Der p A y):T y:=h T hT
structure Ky where
  kind:Int
  role:Str
  atom:Str
deriving DecidableEq
abbrev uZ_:=Str×Str
def lat {K D:Type} [DecidableEq K] (l:List (K×D)) (k:K):List D:=(l.filter fun e=>decide (e.1=k)).map (·.2)
theorem mr_ {K D:Type} [DecidableEq K] {l:List (K×D)} {k:K} {d:D}:d∈lat l k↔(k,d)∈l:=by
  unfold lat
  simp only[List.mem_map,List.mem_filter,decide_eq_true_eq]
  exact⟨fun⟨⟨a,b⟩,⟨h1,h2⟩,h3⟩=>by subst h2;subst h3;exact h1,fun h=>⟨(k,d),⟨h,rfl⟩,rfl⟩⟩
theorem hy_ {K D:Type} [DecidableEq K] (l m:List (K×D)) (k:K):lat (l++m) k=lat l k++lat m k:=by simp[lat]
theorem qf_ {K D:Type} [DecidableEq K] (l:List (K×D)) (k:K):(lat l k).length≤l.length:=by
  simp only[lat,List.length_map];exact List.length_filter_le _ _
def putL (x:Pc):List (Ky×Pc) :=
  if x.kind=1∨x.kind=3∨x.kind=8 then [(⟨x.kind,[],x.a⟩,x)]
  else if x.kind=2 then if x.b≠x.a then [(⟨x.kind,[],x.a⟩,x),(⟨x.kind,[],x.b⟩,x)] else [(⟨x.kind,[],x.a⟩,x)]
  else if x.kind=4 then [(⟨x.kind,[],x.a⟩,x),(⟨x.kind,x.r,x.a⟩,x)]
  else if x.kind=5∨x.kind=9 then [(⟨x.kind,x.r,[]⟩,x)]
  else if x.kind=6 then [(⟨x.kind,x.r,[]⟩,x),(⟨x.kind,[],x.s⟩,x)]
  else []
def Pc.zf (x:Pc):Pc:={ x with frm:=0 }
def uniq:List Pc→List Pc→List Pc
  | l,[]=>l
  | l,x::r=>uniq (if x.zf∈l then l else l++[x.zf]) r
def pmOf (ps:List Pc):List (Ky×Pc):=ps.flatMap putL
def uB_ (ps:List Pc):List Str:=(ps.filter fun x=>decide (x.kind=7)).map (·.r)
def Pc.rok (x:Pc):Prop:=(x.kind=4∨x.kind=5∨x.kind=6∨x.kind=9∨x.kind=3∨x.kind=7∨x.kind=8→x.r≠[])∧(x.kind=6→x.s≠[]∧x.t≠[])∧(x.kind=5→x.t≠[])
structure Ix where
  above:List (Str×Str)
  under:List (Str×Str)
  frm:List (uZ_×Str)
  into:List (uZ_×Str)
  ranges:List (uZ_×Fc)
  firms:List (uZ_×Fc)
def Ix.nil:Ix:=⟨[],[],[],[],[],[]⟩
def Ix.add (x:Ix) (firm:Bool) (f:Fc):Ix :=
  if f.kind=1 then { x with above:=x.above++[(f.a,f.b)] }
  else if f.kind=2 then { x with under:=x.under++[(f.b,f.a)],frm:=x.frm++[((f.a,f.r),f.b)],into:=x.into++[((f.b,f.r),f.a)] }
  else if f.kind=3 then { x with ranges:=x.ranges++[((f.a,f.r),f)],firms:=if firm then x.firms++[((f.a,f.r),f)] else x.firms }
  else x
section
variable (pm:List (Ky×Pc)) (x:Ix) (f:Fc)
def vd_ (y:Fc):Fc:=en_ f.a f.r (max f.lo y.lo) (min f.hi y.hi)
end
section
variable (stp:Fc→List Fc→List Fc) (kof:List Fc→List Fc)
end
structure Grows (stp:Fc→List Fc→List Fc) (kof:List Fc→List Fc):Prop where
  up:∀ y s z,z∈kof s→z∈kof (stp y s)
def Fc.form (y:Fc):Prop:=(∃ a b,y=dj_ a b)∨(∃ a r b,y=de_ a r b∧r≠[])∨(∃ a r lo hi,y=en_ a r lo hi∧r≠[]∧-1099511627776≤lo∧lo≤hi∧hi≤1099511627776)
structure Pc.vok (x:Pc):Prop where
  rok:x.rok
  num:x.kind=8∨x.kind=9→-1099511627776≤x.lo∧x.lo≤x.hi∧x.hi≤1099511627776
theorem dY_ (a b:Str):(dj_ a b).form:=.inl ⟨a,b,rfl⟩
theorem form2 {f:Fc} (h:f.form) (hk:f.kind=2):f=de_ f.a f.r f.b∧f.r≠[]:=by
 rcases h with⟨a,b,rfl⟩|⟨a,r,b,rfl,h⟩|⟨a,r,lo,hi,rfl,_⟩
 ·simp[dj_]at hk
 ·exact⟨rfl,h⟩
 simp[en_]at hk
theorem form3 {f:Fc} (h:f.form) (hk:f.kind=3):f=en_ f.a f.r f.lo f.hi∧f.r≠[]∧-1099511627776≤f.lo∧f.lo≤f.hi∧f.hi≤1099511627776:=by
 rcases h with⟨a,b,rfl⟩|⟨a,r,b,rfl,_⟩|⟨a,r,lo,hi,rfl,h⟩
 ·simp[dj_]at hk
 ·simp[de_]at hk
 exact⟨rfl,h⟩
theorem One.form {p:List Pc} {A:List Str} {S:Fc→Prop} {M:Fc→Fc→Prop} (hp:∀ x∈p,x.vok) (hS:∀ y,S y→y.form) {y:Fc} (h:One p A S M y):y.form:=by
  have link_r:∀ {a r b:Str},S (de_ a r b)→r≠[]:=fun h=>(form2 (hS _ h) rfl).2
  have span_r:∀ {a r:Str} {lo hi:Int},S (en_ a r lo hi)→r≠[]∧-1099511627776≤lo∧lo≤hi∧hi≤1099511627776:=fun h=>(form3 (hS _ h) rfl).2
  cases h with
  | r1 _=>exact dY_ _ _
  | r2 _=>exact dY_ _ _
  | r10 hx hk _=>exact .inr (.inl ⟨_,_,_,rfl,(hp _ hx).rok.1 (by simp[hk])⟩)
  | r3 _ _ _=>exact dY_ _ _
  | r4 _ _ _ _=>exact dY_ _ _
  | r5 hx hk _=>exact .inr (.inl ⟨_,_,_,rfl,(hp _ hx).rok.1 (by simp[hk])⟩)
  | r6 hx hk _=>exact .inr (.inl ⟨_,_,_,rfl,(hp _ hx).rok.2.2 hk⟩)
  | r7 hx hk _ _=>exact .inr (.inl ⟨_,_,_,rfl,((hp _ hx).rok.2.1 hk).2⟩)
  | r8 _ _ _ _=>exact dY_ _ _
  | r9 _ _=>exact dY_ _ _
  | r11 hx hk _=>exact .inr (.inr ⟨_,_,_,_,rfl,(hp _ hx).rok.1 (by simp[hk]),(hp _ hx).num (.inl hk)⟩)
  | r12 h h' _ hl=>exact .inr (.inr ⟨_,_,_,_,rfl,(span_r h).1,by have:=span_r h;omega,hl,by have:=span_r h;omega⟩)
  | r13 _ _ _ _=>exact dY_ _ _
  | r14 _ _ _ _ _=>exact dY_ _ _
section
variable {ps:List Pc} {A:List Str} {x:Ix} {S Fm:Fc→Prop} {f:Fc} {kn:List Fc}
end
section
variable (stp:Fc→List Fc→List Fc) (kof:List Fc→List Fc) (pm:List (Ky×Pc)) (x:Ix) (f:Fc)
end
structure Cmpl (ps:List Pc) (S Fm kn good:Fc→Prop) (f:Fc):Prop where
  c3:∀ z a,z∈ps→z.kind=1→f=dj_ a z.a→good (dj_ a z.c)
  c4:∀ z a,z∈ps→z.kind=2→f=dj_ a z.a→kn (dj_ a z.b)→good (dj_ a z.c)
  c4':∀ z a,z∈ps→z.kind=2→f=dj_ a z.b→kn (dj_ a z.a)→good (dj_ a z.c)
  c5:∀ z a,z∈ps→z.kind=3→f=dj_ a z.a→good (de_ a z.r z.c)
  c6:∀ z a b,z∈ps→z.kind=5→f=de_ a z.r b→good (de_ a z.t b)
  c7:∀ z a b c,z∈ps→z.kind=6→f=de_ a z.r b→S (de_ b z.s c)→good (de_ a z.t c)
  c7':∀ z a b c,z∈ps→z.kind=6→f=de_ b z.s c→S (de_ a z.r b)→good (de_ a z.t c)
  c8:∀ z a b,z∈ps→z.kind=4→f=de_ a z.r b→S (dj_ b z.a)→good (dj_ a z.c)
  c8':∀ z a b,z∈ps→z.kind=4→f=dj_ b z.a→S (de_ a z.r b)→good (dj_ a z.c)
  c9:∀ a r b,f=de_ a r b→kn (dj_ b [33])→good (dj_ a [33])
  c9':∀ a r b,f=dj_ b [33]→S (de_ a r b)→good (dj_ a [33])
  c11:∀ z a,z∈ps→z.kind=8→f=dj_ a z.a→good (en_ a z.r z.lo z.hi)
  c12:∀ y,f.kind=3→S y→y.kind=3→y.a=f.a→y.r=f.r→(Fm f∨Fm y)→max f.lo y.lo≤min f.hi y.hi→good (vd_ f y)
  c13:∀ y,f.kind=3→S y→y.kind=3→y.a=f.a→y.r=f.r→(Fm f∨Fm y)→min f.hi y.hi<max f.lo y.lo→good (dj_ f.a [33])
  c14:∀ z a lo hi,z∈ps→z.kind=9→f=en_ a z.r lo hi→z.lo≤lo→hi≤z.hi→good (dj_ a z.c)
section
variable {stp:Fc→List Fc→List Fc} {kof:List Fc→List Fc} {ps:List Pc} {A:List Str} {x:Ix} {S Fm:Fc→Prop} {f:Fc}
end
end Go.Vs
namespace Go.Vs
open Go Go.Sx
section
variable {ps:List Pc} {A:List Str} {m:Nat} {x:Ix} {S Fm:Fc→Prop} {f:Fc}
end
inductive Fmd (fm:List Fc):Fc→Prop
  | base {y:Fc} (h:y∈fm):Fmd fm y
  | meet {y z:Fc} (hy:Fmd fm y) (hz:Fmd fm z) (ha:z.a=y.a) (hr:z.r=y.r) (hl:max y.lo z.lo≤min y.hi z.hi):Fmd fm (vd_ y z)
theorem Fmd.mono {fm fm':List Fc} (h:∀ y∈fm,y∈fm') {y:Fc} (hy:Fmd fm y):Fmd fm' y:=by
  induction hy with
  | base h1=>exact .base (h _ h1)
  | meet _ _ ha hr hl ih1 ih2=>exact .meet ih1 ih2 ha hr hl
theorem Der.form {p:List Pc} {A:List Str} (hp:∀ x∈p,x.vok) {y:Fc} (h:Der p A y):y.form:=h _ fun _ hz=>One.form hp (fun _ h=>h) hz
section
variable {ps:List Pc} {A:List Str} {m n:Nat} {q fm:List Fc} {x:Ix} {f:Fc}
end
section
variable {ps:List Pc} {A:List Str} {m n:Nat} {q fm:List Fc} {x:Ix} {f:Fc}
end
def Fc.lt (x y:Fc):Prop:=x.kind<y.kind∨x.kind=y.kind∧(x.a<y.a∨x.a=y.a∧(x.b<y.b∨x.b=y.b∧(x.r<y.r∨x.r=y.r∧(x.lo<y.lo∨x.lo=y.lo∧x.hi<y.hi))))
instance (x y:Fc):Decidable (Fc.lt x y):=by unfold Fc.lt;exact inferInstance
theorem uh_ (x:Str):¬ x<x:=List.lt_irrefl x
theorem Fc.lt_irr (x:Fc):¬ x.lt x:=by
  unfold Fc.lt
  simp[uh_]
theorem fD_ {α:Type} {lt:α→α→Prop} (ht:∀ {x y z},lt x y→lt y z→lt x z) {x y z:α} {P Q R:Prop} (hr:x=y→y=z→P→Q→R) (h1:lt x y∨x=y∧P) (h2:lt y z∨y=z∧Q):lt x z∨x=z∧R:=by
 rcases h1 with h1|⟨rfl,h1⟩
 ·rcases h2 with h2|⟨rfl,h2⟩
  ·exact .inl (ht h1 h2)
  exact .inl h1
 rcases h2 with h2|⟨rfl,h2⟩
 ·exact .inl h2
 exact .inr ⟨rfl,hr rfl rfl h1 h2⟩
theorem Fc.lt_trans {x y z:Fc} (h1:x.lt y) (h2:y.lt z):x.lt z :=
  fD_ (lt:=fun a b:Int=>a<b) Int.lt_trans (fun _ _=>fD_ (lt:=fun a b:Str=>a<b) List.lt_trans (fun _ _=>fD_ (lt:=fun a b:Str=>a<b) List.lt_trans (fun _ _=>fD_ (lt:=fun a b:Str=>a<b) List.lt_trans (fun _ _=>fD_ (lt:=fun a b:Int=>a<b) Int.lt_trans fun _ _=>Int.lt_trans)))) h1 h2
theorem jX_ {α:Type} {lt:α→α→Prop} (hi:∀ x,¬ lt x x) (ht:∀ {x y z},lt x y→lt y z→lt x z):∀ {l m:List α},l.Pairwise lt→m.Pairwise lt→(∀ x,x∈l↔x∈m)→l=m
 | [],[],_,_,_=>rfl
 | [],y::m,_,_,h=>by have:=(h y).2 (by simp);simp at this
 | x::l,[],_,_,h=>by have:=(h x).1 (by simp);simp at this
 | x::l,y::m,h1,h2,h=>by
   rw[List.pairwise_cons]at h1 h2
   have e:x=y:=by
     rcases List.mem_cons.1 ((h x).1 (by simp)) with e|hx
     · exact e
     · rcases List.mem_cons.1 ((h y).2 (by simp)) with e|hy
       · exact e.symm
       · exact absurd (ht (h1.1 y hy) (h2.1 x hx)) (hi x)
   subst e
   congr 1
   refine jX_ hi ht h1.2 h2.2 fun z=>⟨fun hz=>?_,fun hz=>?_⟩
   · rcases List.mem_cons.1 ((h z).1 (by simp[hz])) with rfl|q
     · exact absurd (h1.1 z hz) (hi z)
     · exact q
   · rcases List.mem_cons.1 ((h z).2 (by simp[hz])) with rfl|q
     · exact absurd (h2.1 z hz) (hi z)
     · exact q
abbrev Srt (l:List Fc):Prop:=l.Pairwise Fc.lt
theorem Srt.ext {l m:List Fc} (h1:Srt l) (h2:Srt m) (h:∀ x,x∈l↔x∈m):l=m:=jX_ Fc.lt_irr Fc.lt_trans h1 h2 h
theorem Srt.nodup {l:List Fc} (h:Srt l):l.Nodup:=by
  unfold List.Nodup
  refine List.Pairwise.imp ?_ h
  intro a b hab e
  exact Fc.lt_irr b (e▸hab)
def tT_ (p:List Pc) (A:List Str) (m:Nat):Option (List Fc)→Prop
  | some L=>Srt L∧(∀ y,y∈L↔Der p A y)∧L.length≤m
  | none=>∃ M:List Fc,M.Nodup∧(∀ y∈M,Der p A y)∧m<M.length
theorem fg_ {α:Type} [DecidableEq α]:∀ {l m:List α},l.Nodup→(∀ x∈l,x∈m)→l.length≤m.length
  | [],m,_,_=>by simp
  | x::l,m,h,hs=>by
    rw[List.nodup_cons]at h
    have:=fg_ (l:=l) (m:=m.erase x) h.2 fun y hy=>by
      have hne:y≠x:=fun e=>h.1 (e▸hy)
      exact (List.mem_erase_of_ne hne).2 (hs y (by simp[hy]))
    have hx:=hs x (by simp)
    rw[List.length_erase_of_mem hx]at this
    have:0<m.length:=List.length_pos_of_mem hx
    simp only[List.length_cons]
    omega
theorem tT_.uniq {p:List Pc} {A:List Str} {m:Nat} {r r':Option (List Fc)} (h:tT_ p A m r) (h':tT_ p A m r'):r=r':=by
  cases r with
  | none =>
    cases r' with
    | none=>rfl
    | some L =>
      obtain⟨M,h1,h2,h3⟩:=h
      obtain⟨_,g2,g3⟩:=h'
      have:=fg_ h1 fun x hx=>(g2 x).2 (h2 x hx)
      omega
  | some L =>
    cases r' with
    | none =>
      obtain⟨M,h1,h2,h3⟩:=h'
      obtain⟨_,g2,g3⟩:=h
      have:=fg_ h1 fun x hx=>(g2 x).2 (h2 x hx)
      omega
    | some L'=>rw[h.1.ext h'.1 fun x=>by rw[h.2.1,h'.2.1]]
end Go.Vs
namespace Go.Vs
open Go Go.Sx
section
variable {ps:List Pc} {A:List Str} {c:List Fc} {x:Ix} {f:Fc}
theorem Cmpl.up {S Fm kn good good':Fc→Prop} (h:Cmpl ps S Fm kn good f) (hg:∀ y,good y→good' y):Cmpl ps S Fm kn good' f :=
  ⟨fun z a h1 h2 h3=>hg _ (h.c3 z a h1 h2 h3),fun z a h1 h2 h3 h4=>hg _ (h.c4 z a h1 h2 h3 h4),fun z a h1 h2 h3 h4=>hg _ (h.c4' z a h1 h2 h3 h4),fun z a h1 h2 h3=>hg _ (h.c5 z a h1 h2 h3),fun z a b h1 h2 h3=>hg _ (h.c6 z a b h1 h2 h3),
   fun z a b c h1 h2 h3 h4=>hg _ (h.c7 z a b c h1 h2 h3 h4),fun z a b c h1 h2 h3 h4=>hg _ (h.c7' z a b c h1 h2 h3 h4),fun z a b h1 h2 h3 h4=>hg _ (h.c8 z a b h1 h2 h3 h4),fun z a b h1 h2 h3 h4=>hg _ (h.c8' z a b h1 h2 h3 h4),fun a r b h1 h2=>hg _ (h.c9 a r b h1 h2),fun a r b h1 h2=>hg _ (h.c9' a r b h1 h2),
   fun z a h1 h2 h3=>hg _ (h.c11 z a h1 h2 h3),fun y h1 h2 h3 h4 h5 h6 h7=>hg _ (h.c12 y h1 h2 h3 h4 h5 h6 h7),fun y h1 h2 h3 h4 h5 h6 h7=>hg _ (h.c13 y h1 h2 h3 h4 h5 h6 h7),fun z a lo hi h1 h2 h3 h4 h5=>hg _ (h.c14 z a lo hi h1 h2 h3 h4 h5)⟩
end
section
variable {p:List Pc} {A:List Str} {l:List Fc} {f:Fc}
theorem vh_ {α β:Type} {g:α→List β} {n:Nat}:∀ (l:List α),(∀ x∈l,(g x).length≤n)→(l.flatMap g).length≤l.length*n
  | [],_=>by simp
  | x::l,h=>by
    have:=vh_ l fun y hy=>h y (by simp[hy])
    have hx:=h x (by simp)
    simp only[List.flatMap_cons,List.length_append,List.length_cons,Nat.add_mul,Nat.one_mul]
    omega
end
end Go.Vs
