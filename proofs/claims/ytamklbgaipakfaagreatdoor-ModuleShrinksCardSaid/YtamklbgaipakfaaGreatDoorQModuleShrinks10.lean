/-
  Part of the proof of the law ModuleShrinks over this seat: the small logic, the data, the contracts of functions (no condition).
-/
import Derived.Test.YtamklbgaipakfaaGreatDoorQModuleShrinks9
import Derived.Test.YtamklbgaipakfaaGreatDoorQModuleShrinks7
import Derived.Test.YtamklbgaipakfaaGreatDoorQModuleShrinks8
import Derived.Test.YtamklbgaipakfaaGreatDoorQModuleShrinks2
import Derived.Lib.Bytealg
import Derived.Lib.Small
import Derived.Test.YtamklbgaipakfaaGreatDoorQModuleShrinks3
set_option linter.unusedVariables false
set_option linter.unusedSimpArgs false
set_option linter.unusedSectionVars false
set_option maxHeartbeats 1000000
namespace Go.Vs
open Go Go.Sx
abbrev SrS (l:List Str):Prop:=l.Pairwise fun x y=>x<y
theorem fw_ (a:Str):¬ a<a:=List.lt_irrefl a
theorem kS_hit {l:List Str} {s:Str} (h:SrS l) (hs:s∈l):l[kS l s]? = some s:=by
 obtain⟨j,hj⟩:=List.getElem?_of_mem hs
 have hl:=(List.getElem?_eq_some_iff.1 hj).1
 rcases Nat.lt_trichotomy (kS l s) j with q|q|q
 ·have hk:kS l s<l.length:=by omega
  have e:=List.getElem?_eq_getElem hk
  have h1:=mc_ l _ e
  have h2:=List.pairwise_iff_getElem.1 h (kS l s) j hk hl q
  rw[(List.getElem?_eq_some_iff.1 hj).2]at h2
  exact absurd h2 h1
 ·rw[q];exact hj
 have:s∈l.take (kS l s):=by
   refine List.mem_of_getElem? (i:=j) ?_
   rw[List.getElem?_take_of_lt q];exact hj
 exact absurd (oE_ l s this) (fw_ s)
theorem jH_ {l:List Str} {s:Str} (h:SrS l) (hs:s∈l):bE_ l s=l:=by
  unfold bE_;rw[if_pos (.inr (kS_hit h hs))]
theorem qG_ {l:List Str} {s:Str} (hn:s≠[]) (hs:s ∉ l):bE_ l s=l.take (kS l s)++[s]++l.drop (kS l s):=by
  unfold bE_;rw[if_neg (by rintro (q|q);exact hn q;exact hs (List.mem_of_getElem? q))]
theorem ho_ {l:List Str} {s:Str} (hn:s≠[]) (hs:s ∉ l):(bE_ l s).length=l.length+1:=by
  have:=ve_ l s
  rw[qG_ hn hs]
  simp only[List.length_append,List.length_take,List.length_cons,List.length_nil,List.length_drop]
  omega
structure Rcd where
  a:List Str
  aad:Option Addr
  acap:Nat
  r:List Str
  rad:Option Addr
  rcap:Nat
  f:List Str
  fad:Option Addr
  fcap:Nat
def Rcd.cells (x:Rcd):List Value:=[.slice x.aad x.a.length x.acap,.slice x.rad x.r.length x.rcap,.slice x.fad x.f.length x.fcap]
theorem Rcd.cells_len (x:Rcd):x.cells.length=3:=rfl
def Rcd.val (x:Rcd):Value:=.agg x.cells.toArray
def iK_ (a r f:List Str) (t:Thg):Prop:=(t.kind=1∧t.name∈a)∨(t.kind=2∧t.name∈r)∨(t.kind=3∧t.name∈f)
instance (a r f:List Str) (t:Thg):Decidable (iK_ a r f t):=by unfold iK_;infer_instance
def mb_ (a r f:List Str) (x:Pc):Bool:=decide (∀ u∈ae_ x,iK_ a r f u)
def ma_ (a:List Str) (x:Pc):List Str:=if x.kind=1∨x.kind=2∨x.kind=4∨x.kind=9∨x.kind=3 then bE_ a x.c else a
def jj_ (r:List Str) (x:Pc):List Str:=if x.kind=3∨x.kind=7 then bE_ r x.r else if x.kind=5∨x.kind=6 then bE_ r x.t else r
def lZ_ (f:List Str) (x:Pc):List Str:=if x.kind=8 then bE_ f x.r else f
def PcN (x:Pc):Prop:=(1≤x.kind∧x.kind≤9)∧∀ t∈W_ x,t.name≠[]
theorem eZ_ {l:List Str} {s:Str} (h:SrS l) (hn:s≠[]):SrS (bE_ l s)∧l.length≤(bE_ l s).length∧((bE_ l s).length=l.length→bE_ l s=l)∧∀ n,n∈bE_ l s↔n∈l∨n=s:=by
 refine⟨hL_ h,?_,?_,fun n=>by rw[gO_];constructor;(rintro (q|q);exact .inl q;exact .inr q.1);(rintro (q|q);exact .inl q;exact .inr ⟨q,q▸hn⟩)⟩
 ·by_cases hs:s∈l
  ·rw[jH_ h hs];exact Nat.le_refl _
  rw[ho_ hn hs];omega
 intro e
 by_cases hs:s∈l
 ·exact jH_ h hs
 rw[ho_ hn hs]at e;omega
theorem pl_ {x:Pc} (h:1≤x.kind∧x.kind≤9):x.kind=1∨x.kind=2∨x.kind=3∨x.kind=4∨x.kind=5∨x.kind=6∨x.kind=7∨x.kind=8∨x.kind=9:=by omega
theorem la_ {a:List Str} {x:Pc} (ha:SrS a) (hx:PcN x):SrS (ma_ a x)∧a.length≤(ma_ a x).length∧((ma_ a x).length=a.length→ma_ a x=a)∧∀ n,n∈ma_ a x↔n∈a∨(⟨1,n⟩:Thg)∈W_ x:=by
 obtain⟨hk,hn⟩:=hx
 by_cases c:x.kind=1∨x.kind=2∨x.kind=4∨x.kind=9∨x.kind=3
 ·have e:ma_ a x=bE_ a x.c:=if_pos c
  have hc:(⟨1,x.c⟩:Thg)∈W_ x:=by rcases c with k|k|k|k|k<;>simp[W_,k]
  have g:∀ n,(⟨1,n⟩:Thg)∈W_ x↔n=x.c:=fun n=>by rcases c with k|k|k|k|k<;>simp[W_,k]
  obtain⟨h1,h2,h3,h4⟩:=eZ_ ha (hn _ hc)
  rw[e]
  exact⟨h1,h2,h3,fun n=>by rw[h4,g]⟩
 have e:ma_ a x=a:=if_neg c
 rw[e]
 refine⟨ha,Nat.le_refl _,fun _=>rfl,fun n=>⟨.inl,?_⟩⟩
 rintro (q|q)
 ·exact q
 rcases pl_ hk with k|k|k|k|k|k|k|k|k<;>simp[W_,k]at q c
theorem kY_ {r:List Str} {x:Pc} (ha:SrS r) (hx:PcN x):SrS (jj_ r x)∧r.length≤(jj_ r x).length∧((jj_ r x).length=r.length→jj_ r x=r)∧∀ n,n∈jj_ r x↔n∈r∨(⟨2,n⟩:Thg)∈W_ x:=by
 obtain⟨hk,hn⟩:=hx
 by_cases c:x.kind=3∨x.kind=7
 ·have e:jj_ r x=bE_ r x.r:=if_pos c
  have hc:(⟨2,x.r⟩:Thg)∈W_ x:=by rcases c with k|k<;>simp[W_,k]
  have g:∀ n,(⟨2,n⟩:Thg)∈W_ x↔n=x.r:=fun n=>by rcases c with k|k<;>simp[W_,k]
  obtain⟨h1,h2,h3,h4⟩:=eZ_ ha (hn _ hc)
  rw[e]
  exact⟨h1,h2,h3,fun n=>by rw[h4,g]⟩
 by_cases d:x.kind=5∨x.kind=6
 ·have e:jj_ r x=bE_ r x.t:=by unfold jj_;rw[if_neg c,if_pos d]
  have hc:(⟨2,x.t⟩:Thg)∈W_ x:=by rcases d with k|k<;>simp[W_,k]
  have g:∀ n,(⟨2,n⟩:Thg)∈W_ x↔n=x.t:=fun n=>by rcases d with k|k<;>simp[W_,k]
  obtain⟨h1,h2,h3,h4⟩:=eZ_ ha (hn _ hc)
  rw[e]
  exact⟨h1,h2,h3,fun n=>by rw[h4,g]⟩
 have e:jj_ r x=r:=by unfold jj_;rw[if_neg c,if_neg d]
 rw[e]
 refine⟨ha,Nat.le_refl _,fun _=>rfl,fun n=>⟨.inl,?_⟩⟩
 rintro (q|q)
 ·exact q
 rcases pl_ hk with k|k|k|k|k|k|k|k|k<;>simp[W_,k]at q c d
theorem kZ_ {f:List Str} {x:Pc} (ha:SrS f) (hx:PcN x):SrS (lZ_ f x)∧f.length≤(lZ_ f x).length∧((lZ_ f x).length=f.length→lZ_ f x=f)∧∀ n,n∈lZ_ f x↔n∈f∨(⟨3,n⟩:Thg)∈W_ x:=by
 obtain⟨hk,hn⟩:=hx
 by_cases c:x.kind=8
 ·have e:lZ_ f x=bE_ f x.r:=if_pos c
  have hc:(⟨3,x.r⟩:Thg)∈W_ x:=by simp[W_,c]
  have g:∀ n,(⟨3,n⟩:Thg)∈W_ x↔n=x.r:=fun n=>by simp[W_,c]
  obtain⟨h1,h2,h3,h4⟩:=eZ_ ha (hn _ hc)
  rw[e]
  exact⟨h1,h2,h3,fun n=>by rw[h4,g]⟩
 have e:lZ_ f x=f:=if_neg c
 rw[e]
 refine⟨ha,Nat.le_refl _,fun _=>rfl,fun n=>⟨.inl,?_⟩⟩
 rintro (q|q)
 ·exact q
 rcases pl_ hk with k|k|k|k|k|k|k|k|k<;>simp[W_,k]at q c
theorem oe_ {x:Pc} {t:Thg} (h:t∈W_ x):t.kind=1∨t.kind=2∨t.kind=3:=by
  unfold W_ at h
  repeat' split at h
  all_goals simp at h
  all_goals first|(rcases h with rfl|rfl<;>simp)|(subst h;simp)
theorem tn_ {a r f:List Str} {x:Pc} (ha:SrS a) (hr:SrS r) (hf:SrS f) (hx:PcN x) (t:Thg):iK_ (ma_ a x) (jj_ r x) (lZ_ f x) t↔iK_ a r f t∨t∈W_ x:=by
 obtain⟨k,n⟩:=t
 unfold iK_
 rw[(la_ ha hx).2.2.2,(kY_ hr hx).2.2.2,(kZ_ hf hx).2.2.2]
 dsimp only
 constructor
 ·rintro (⟨rfl,q|q⟩|⟨rfl,q|q⟩|⟨rfl,q|q⟩)
  ·exact .inl (.inl ⟨rfl,q⟩)
  ·exact .inr q
  ·exact .inl (.inr (.inl ⟨rfl,q⟩))
  ·exact .inr q
  ·exact .inl (.inr (.inr ⟨rfl,q⟩))
  exact .inr q
 rintro ((⟨rfl,q⟩|⟨rfl,q⟩|⟨rfl,q⟩)|q)
 ·exact .inl ⟨rfl,.inl q⟩
 ·exact .inr (.inl ⟨rfl,.inl q⟩)
 ·exact .inr (.inr ⟨rfl,.inl q⟩)
 rcases oe_ q with e|e|e
 ·dsimp only at e;subst e;exact .inl ⟨rfl,.inr q⟩
 ·dsimp only at e;subst e;exact .inr (.inl ⟨rfl,.inr q⟩)
 dsimp only at e;subst e;exact .inr (.inr ⟨rfl,.inr q⟩)
structure RdI (p:List Pc) (S:List Str) (a r f:List Str):Prop where
  sa:SrS a
  sr:SrS r
  sf:SrS f
  snd:∀ t,iK_ a r f t→Rch p S t
  bas:∀ t∈cW_ S,iK_ a r f t
structure RdR (p:List Pc) (S:List Str) (n:Int) (i:Nat) (a r f:List Str):Prop where
  inv:RdI p S a r f
  le:n≤((a.length+r.length+f.length:Nat):Int)
  cl:n=((a.length+r.length+f.length:Nat):Int)→∀ (j:Nat) x,p[j]? = some x→j<i→mb_ a r f x=true→∀ t∈W_ x,iK_ a r f t
theorem RdR.start {p:List Pc} {S a r f:List Str} (h:RdI p S a r f):RdR p S ((a.length+r.length+f.length:Nat):Int) 0 a r f:=⟨h,Int.le_refl _,fun _ j x _ hj=>absurd hj (Nat.not_lt_zero _)⟩
theorem RdR.skip {p:List Pc} {S a r f:List Str} {n:Int} {i:Nat} {x:Pc} (h:RdR p S n i a r f) (hx:p[i]? = some x) (hu:mb_ a r f x=false):RdR p S n (i+1) a r f:=⟨h.inv,h.le,fun hn j y hj hlt hy=>by
 by_cases e:j=i
 ·subst e
  rw[hx,Option.some.injEq]at hj
  subst hj
  rw[hu]at hy
  cases hy
 exact h.cl hn j y hj (by omega) hy⟩
theorem RdR.take {p:List Pc} {S a r f:List Str} {n:Int} {i:Nat} {x:Pc} (h:RdR p S n i a r f) (hx:p[i]? = some x) (hN:PcN x) (hu:mb_ a r f x=true):RdR p S n (i+1) (ma_ a x) (jj_ r x) (lZ_ f x):=by
 obtain⟨a1,a2,a3,_⟩:=la_ h.inv.sa hN
 obtain⟨r1,r2,r3,_⟩:=kY_ h.inv.sr hN
 obtain⟨f1,f2,f3,_⟩:=kZ_ h.inv.sf hN
 have hT:=tn_ h.inv.sa h.inv.sr h.inv.sf hN
 have hus:∀ u∈ae_ x,Rch p S u:=fun u q=>h.inv.snd u (of_decide_eq_true hu u q)
 refine⟨⟨a1,r1,f1,fun t ht=>?_,fun t ht=>(hT t).2 (.inl (h.inv.bas t ht))⟩,by have:=h.le;omega,fun hn=>?_⟩
 ·rcases (hT t).1 ht with q|q
  ·exact h.inv.snd t q
  exact .give (List.mem_of_getElem? hx) hus q
 have hle:=h.le
 have ea:=a3 (by omega)
 have er:=r3 (by omega)
 have ef:=f3 (by omega)
 have hn2:n=((a.length+r.length+f.length:Nat):Int):=by rw[ea,er,ef]at hn;exact hn
 intro j y hj hlt hy t ht
 by_cases e:j=i
 ·subst e
  rw[hx,Option.some.injEq]at hj
  subst hj
  exact (hT t).2 (.inr ht)
 rw[ea,er,ef]at hy ⊢
 exact h.cl hn2 j y hj (by omega) hy t ht
theorem RdR.done {p:List Pc} {S a r f:List Str} (h:RdR p S ((a.length+r.length+f.length:Nat):Int) p.length a r f):∀ t,iK_ a r f t↔Rch p S t:=fun t=>by
  refine⟨h.inv.snd t,fun ht=>?_⟩
  induction ht with
  | base hb=>exact h.inv.bas _ hb
  | give hx hn hg ih =>
    obtain⟨j,hj⟩:=List.getElem?_of_mem hx
    exact h.cl rfl j _ hj (List.getElem?_eq_some_iff.1 hj).1 (decide_eq_true ih) _ hg
theorem RdI.len {p:List Pc} {S a r f:List Str} (h:RdI p S a r f):a.length+r.length+f.length≤(hM_ p S).length:=by
 have nd:∀ {l:List Str},SrS l→l.Nodup:=fun hl=>List.Pairwise.imp (fun {x y} hxy=>fun e:x=y=>by subst e;exact fw_ _ hxy) hl
 have mk:∀ (k:Int) {l:List Str},SrS l→(l.map fun n=>(⟨k,n⟩:Thg)).Nodup:=fun k l hl=>by
   unfold List.Nodup
   rw[List.pairwise_map]
   exact List.Pairwise.imp (fun {x y} hxy=>fun e=>hxy (Thg.mk.inj e).2) (nd hl)
 have e:((a.map fun n=>(⟨1,n⟩:Thg))++((r.map fun n=>(⟨2,n⟩:Thg))++f.map fun n=>(⟨3,n⟩:Thg))).length=a.length+r.length+f.length:=by simp;omega
 rw[← e]
 refine dK_ _ _ ?_ fun t ht=>(h.snd t ?_).univ
 ·rw[List.nodup_append,List.nodup_append]
  refine⟨mk 1 h.sa,⟨mk 2 h.sr,mk 3 h.sf,fun x hx y hy e=>?_⟩,fun x hx y hy e=>?_⟩
  ·obtain⟨u,_,rfl⟩:=List.mem_map.1 hx
   obtain⟨v,_,rfl⟩:=List.mem_map.1 hy
   have:=(Thg.mk.inj e).1
   omega
  obtain⟨u,_,rfl⟩:=List.mem_map.1 hx
  rcases List.mem_append.1 hy with hy|hy<;>obtain⟨v,_,rfl⟩:=List.mem_map.1 hy<;>(have:=(Thg.mk.inj e).1;omega)
 simp only[List.mem_append,List.mem_map]at ht
 unfold iK_
 rcases ht with⟨u,hu,rfl⟩|⟨u,hu,rfl⟩|⟨u,hu,rfl⟩
 ·exact .inl ⟨rfl,hu⟩
 ·exact .inr (.inl ⟨rfl,hu⟩)
 exact .inr (.inr ⟨rfl,hu⟩)
end Go.Vs
namespace Go.Proofs.YtamklbgaipakfaaGreatDoor
open Go Go.Sx Go.Proofs
attribute [local irreducible] Code.wp wpList wpAnyH
open Go.Vs
def fn_ (a:Ax):Prop:=a.kind=5∨a.kind=6∨a.kind=7
instance (a:Ax):Decidable (fn_ a):=by unfold fn_;infer_instance
def Mat (l:List Ax) (p:List Pc) (S:List Str) (i:Int):Prop:=(∃ a,l[i.toNat]? = some a∧fn_ a)∨∃ x∈p,x.frm=i∧Usb p S x
def matB (l:List Ax) (p:List Pc) (S:List Str) (i:Int):Bool:=((l[i.toNat]?).any fun a=>decide (fn_ a))||p.any fun x=>decide (x.frm=i)&&usbB p S x
theorem km_ {l:List Ax} {p:List Pc} {S:List Str} {i:Int}:matB l p S i=true↔Mat l p S i:=by
 unfold matB Mat
 rw[Bool.or_eq_true,List.any_eq_true]
 refine or_congr ?_ ?_
 ·cases l[i.toNat]? <;> simp
 constructor
 ·rintro ⟨x,hx,h⟩
  rw[Bool.and_eq_true,decide_eq_true_eq,nk_]at h
  exact⟨x,hx,h⟩
 rintro ⟨x,hx,h1,h2⟩
 exact⟨x,hx,by rw[Bool.and_eq_true,decide_eq_true_eq,nk_];exact⟨h1,h2⟩⟩
def di_ (l:List Ax) (p:List Pc) (S:List Str) (n:Nat):List Int:=(iot n).filter fun i=>matB l p S i
theorem fB_ {l:List Ax} {p:List Pc} {S:List Str} {n:Nat} (h:Mat l p S n):di_ l p S (n+1)=di_ l p S n++[(n:Int)]:=by
  unfold di_
  rw[ie_,List.filter_append,List.filter_cons,if_pos (km_.2 h)]
  rfl
theorem qc_ {l:List Ax} {p:List Pc} {S:List Str} {n:Nat} (h:¬ Mat l p S n):di_ l p S (n+1)=di_ l p S n:=by
  unfold di_
  rw[ie_,List.filter_append,List.filter_cons,if_neg (fun q=>h (km_.1 q))]
  simp
theorem iE_ {l:List Ax} {p:List Pc} {S:List Str}:di_ l p S 0=[]:=by simp[di_,iot]
theorem ib_ {l:List Ax} {p:List Pc} {S:List Str} {n:Nat} {i:Int}:i∈di_ l p S n↔(0≤i∧i<n)∧Mat l p S i:=by
 unfold di_
 rw[List.mem_filter,km_]
 constructor
 ·rintro ⟨h1,h2⟩
  obtain⟨k,hk⟩:=List.getElem?_of_mem h1
  have e:=qi_ hk
  have hl:=(List.getElem?_eq_some_iff.1 hk).1
  simp[iot]at hl
  exact⟨by omega,h2⟩
 rintro ⟨⟨h1,h2⟩,h3⟩
 refine⟨?_,h3⟩
 simp only[iot,List.mem_map,List.mem_range]
 exact⟨i.toNat,by omega,by simp;omega⟩
theorem fC_ {l:List Ax} {p:List Pc} {S:List Str} (n:Nat):(di_ l p S n).length≤n:=by
  unfold di_
  refine Nat.le_trans (List.length_filter_le _ _) ?_
  simp[iot]
def cV_ (l:List Ax) (w:List Int):List Ax:=w.filterMap fun i=>l[i.toNat]?
theorem ev_ {l:List Ax} {w:List Int} {i:Int} {a:Ax} (h:l[i.toNat]? = some a):cV_ l (w++[i])=cV_ l w++[a]:=by simp[cV_,h]
theorem fA_ {l:List Ax} {w:List Int} {a:Ax}:a∈cV_ l w↔∃ i∈w,l[i.toNat]? = some a:=by simp[cV_]
theorem gF_:∀ {l:List Ax} {i:Nat} {q:Pc},q∈fF_ i l↔∃ (j:Nat) (a:Ax),l[j]? = some a∧q∈a.pieces ((i+j:Nat):Int)
 | [],i,q=>by simp[fF_]
 | x::l,i,q=>by
   rw[fF_,List.mem_append,gF_]
   constructor
   · rintro (h|⟨j,a,h1,h2⟩)
     · exact⟨0,x,rfl,h⟩
     · exact⟨j+1,a,by simpa using h1,by rwa [show i+(j+1)=i+1+j by omega]⟩
   · rintro ⟨j,a,h1,h2⟩
     match j with
     | 0 => obtain rfl : x = a := by simpa using h1
            exact .inl h2
     | j+1=>exact .inr ⟨j,a,by simpa using h1,by rwa [show i+1+j=i+(j+1) by omega]⟩
theorem iY_ {a:Ax} {q:Pc} {f:Int} (g:Int) (h:q∈a.pieces f):∃ y∈a.pieces g,∃ n,{ y with frm:=n }=q:=by
  have h0:a.pieces f=(a.pieces 0).map (shift f):=by have:=Ax.pieces_shift 0 f a;rwa [Int.zero_add]at this
  have h1:a.pieces g=(a.pieces 0).map (shift g):=by have:=Ax.pieces_shift 0 g a;rwa [Int.zero_add]at this
  rw[h0]at h
  obtain⟨z,hz,rfl⟩:=List.mem_map.1 h
  exact⟨shift g z,by rw[h1];exact List.mem_map.2 ⟨z,hz,rfl⟩,z.frm+f,rfl⟩
theorem ph_ {l:List Ax} {S:List Str} (hl:l.length≤12) (hok:∀ x∈l,x.ok) (hc:∀ x∈l,x.check=0):∀ x∈fF_ 0 l,Usb (fF_ 0 l) S x→∃ y∈fF_ 0 (cV_ l (di_ l (fF_ 0 l) S l.length)),∃ n,{ y with frm:=n }=x:=fun x hx hu=>by
  obtain⟨j,a,h1,h2⟩:=gF_.1 hx
  rw[Nat.zero_add]at h2
  have ha:=List.mem_of_getElem? h1
  have hj:=(List.getElem?_eq_some_iff.1 h1).1
  have hf:x.frm=j:=(Ax.pieces_all (f:=(j:Int)) (by omega) (by omega) (hok a ha) (hc a ha) x h2).frm
  have hm:(j:Int)∈di_ l (fF_ 0 l) S l.length:=ib_.2 ⟨by omega,.inr ⟨x,hx,hf,hu⟩⟩
  have hp:a∈cV_ l (di_ l (fF_ 0 l) S l.length):=fA_.2 ⟨j,hm,by simpa using h1⟩
  obtain⟨k,hk⟩:=List.getElem?_of_mem hp
  obtain⟨y,hy,n,e⟩:=iY_ ((0+k:Nat):Int) h2
  exact⟨y,gF_.2 ⟨k,a,hk,hy⟩,n,e⟩
end Go.Proofs.YtamklbgaipakfaaGreatDoor
namespace Go.Vs
open Go Go.Sx
def orF:List Int→Int
  | []=>0
  | x::l=>if x=0 then orF l else x
theorem sL_:∀ {l:List Int} {i:Nat} {x:Int},(∀ y∈l.take i,y=0)→l[i]? = some x→x≠0→orF l=x
  | [],_,_,_,h,_=>by simp at h
  | y::l,0,x,_,h,hx=>by simp at h;subst h;simp[orF,hx]
  | y::l,i+1,x,h0,h,hx=>by
    have hy:y=0:=h0 y (by simp)
    rw[orF,if_pos hy]
    exact sL_ (i:=i) (fun z hz=>h0 z (by rw[List.take_succ_cons];exact List.mem_cons_of_mem _ hz)) (by simpa using h) hx
theorem nL_:∀ {l:List Int},(∀ y∈l,y=0)→orF l=0
  | [],_=>rfl
  | y::l,h=>by rw[orF,if_pos (h y (by simp))];exact nL_ fun z hz=>h z (by simp[hz])
theorem qx_ (x y:Int):Lib.compareInt x y=0↔x=y:=by unfold Lib.compareInt;(repeat' split)<;>omega
theorem mS_:∀ (x y:Str),Lib.compareBytes x y<0↔x<y
 | [],[]=>by simp[Lib.compareBytes]
 | [],b::y=>by simp[Lib.compareBytes]
 | a::x,[]=>by simp[Lib.compareBytes]
 | a::x,b::y=>by
   rw[Lib.compareBytes,List.cons_lt_cons_iff]
   by_cases h1:a<b
   · rw[if_pos h1];simp[h1]
   · by_cases h2:b<a
     · rw[if_neg h1,if_pos h2]
       have:a≠b:=fun e=>by subst e;exact h1 h2
       simp[h1,this]
     · have e:a=b:=UInt8.le_antisymm (UInt8.not_lt.1 h2) (UInt8.not_lt.1 h1)
       rw[if_neg h1,if_neg h2,mS_ x y];simp[e]
theorem gc_:∀ (x y:Str),Lib.compareBytes x y=0↔x=y
 | [],[]=>by simp[Lib.compareBytes]
 | [],b::y=>by simp[Lib.compareBytes]
 | a::x,[]=>by simp[Lib.compareBytes]
 | a::x,b::y=>by
   rw[Lib.compareBytes]
   by_cases h1:a<b
   · rw[if_pos h1]
     have:a≠b:=fun e=>by subst e;exact absurd h1 (UInt8.lt_irrefl a)
     simp[this]
   · by_cases h2:b<a
     · rw[if_neg h1,if_pos h2]
       have:a≠b:=fun e=>by subst e;exact h1 h2
       simp[this]
     · have e:a=b:=UInt8.le_antisymm (UInt8.not_lt.1 h2) (UInt8.not_lt.1 h1)
       rw[if_neg h1,if_neg h2,gc_ x y];simp[e]
theorem hf_ (x:Int) (l:List Int):orF (x::l)=0↔x=0∧orF l=0:=by
  rw[orF];split<;>omega
theorem pY_:orF []=0:=rfl
theorem gZ_ (x y:Int):Lib.compareInt y x=- Lib.compareInt x y:=by unfold Lib.compareInt;(repeat' split)<;>omega
theorem gY_:∀ (x y:Str),Lib.compareBytes y x=- Lib.compareBytes x y
 | [],[]=>by simp[Lib.compareBytes]
 | [],b::y=>by simp[Lib.compareBytes]
 | a::x,[]=>by simp[Lib.compareBytes]
 | a::x,b::y=>by
   rw[Lib.compareBytes,Lib.compareBytes]
   by_cases h1:a<b
   · have h2:¬ b<a:=fun h=>absurd (UInt8.lt_trans h1 h) (UInt8.lt_irrefl a)
     rw[if_neg h2,if_pos h1,if_pos h1];rfl
   · by_cases h2:b<a
     · rw[if_pos h2,if_neg h1,if_pos h2]
     · rw[if_neg h2,if_neg h1,if_neg h1,if_neg h2,gY_ x y]
theorem hB_:∀ (x y:Str),Lib.compareBytes x y=if x<y then -1 else if y<x then 1 else 0
 | [],[]=>by simp[Lib.compareBytes]
 | [],b::y=>by simp[Lib.compareBytes]
 | a::x,[]=>by simp[Lib.compareBytes]
 | a::x,b::y=>by
   rw[Lib.compareBytes]
   by_cases h1:a<b
   · have l:a::x<b::y:=by rw[List.cons_lt_cons_iff];exact .inl h1
     rw[if_pos h1,if_pos l]
   · by_cases h2:b<a
     · have l:b::y<a::x:=by rw[List.cons_lt_cons_iff];exact .inl h2
       have nl:¬ a::x<b::y:=fun q=>absurd (List.lt_trans q l) (List.lt_irrefl _)
       rw[if_neg h1,if_pos h2,if_neg nl,if_pos l]
     · have e:a=b:=UInt8.le_antisymm (UInt8.not_lt.1 h2) (UInt8.not_lt.1 h1)
       subst e
       rw[if_neg h1,if_neg h2,hB_ x y]
       simp only[List.cons_lt_cons_iff,h1,false_or,true_and]
def Tr3 (x y z:Int):Prop:=(x≤0→y≤0→z≤0∧(z=0→x=0∧y=0))∧(x=0→y=0→z=0)
theorem Tr3.cI (a b c:Int):Tr3 (Lib.compareInt a b) (Lib.compareInt b c) (Lib.compareInt a c):=by
  unfold Tr3 Lib.compareInt
  refine⟨?_,?_⟩<;>(repeat' split)<;>omega
theorem Tr3.cS (a b c:Str):Tr3 (Lib.compareBytes a b) (Lib.compareBytes b c) (Lib.compareBytes a c):=by
 have n1:=mS_ a b
 have z1:=gc_ a b
 have n2:=mS_ b c
 have z2:=gc_ b c
 have n3:=mS_ a c
 have z3:=gc_ a c
 constructor
 ·intro h1 h2
  by_cases e1:Lib.compareBytes a b=0
  ·have:=z1.1 e1;subst this
   refine⟨h2,fun h=>⟨e1,h⟩⟩
  have l1:a<b:=n1.1 (by omega)
  by_cases e2:Lib.compareBytes b c=0
  ·have:=z2.1 e2;subst this
   exact⟨h1,fun h=>⟨h,e2⟩⟩
  have l2:b<c:=n2.1 (by omega)
  have:=n3.2 (List.lt_trans l1 l2)
  exact⟨by omega,fun h=>by omega⟩
 intro h1 h2
 rw[z1]at h1;rw[z2]at h2;subst h1;subst h2;exact z3.2 rfl
theorem Tr3.or {x y z x' y' z':Int} (h:Tr3 x y z) (h':Tr3 x' y' z'):Tr3 (if x=0 then x' else x) (if y=0 then y' else y) (if z=0 then z' else z):=by
  unfold Tr3 at h h' ⊢
  (repeat' split)<;>omega
theorem Tr3.nil:Tr3 0 0 0:=by unfold Tr3;omega
theorem Tr3.orF {x y z:Int} {l m n:List Int} (h:Tr3 x y z) (h':Tr3 (Go.Vs.orF l) (Go.Vs.orF m) (Go.Vs.orF n)):Tr3 (Go.Vs.orF (x::l)) (Go.Vs.orF (y::m)) (Go.Vs.orF (z::n)):=by
  rw[Go.Vs.orF,Go.Vs.orF,Go.Vs.orF];exact h.or h'
theorem cN_ {x y:Int} {l m:List Int} (h:y=-x) (h':orF m=- orF l):orF (y::m)=- orF (x::l):=by
  rw[orF,orF];(repeat' split)<;>omega
def bQ_:List Str→List Str→Int
  | [],[]=>0
  | [],_::_=>-1
  | _::_,[]=>1
  | x::xs,y::ys=>if Lib.compareBytes x y=0 then bQ_ xs ys else Lib.compareBytes x y
theorem lU_:∀ a b,bQ_ b a=- bQ_ a b
  | [],[]=>rfl
  | [],_::_=>rfl
  | _::_,[]=>rfl
  | x::xs,y::ys=>by
    have h1:=gY_ x y
    have h2:=lU_ xs ys
    rw[bQ_,bQ_];(repeat' split)<;>omega
theorem lS_:∀ a b,bQ_ a b=0↔a=b
  | [],[]=>by simp[bQ_]
  | [],_::_=>by simp[bQ_]
  | _::_,[]=>by simp[bQ_]
  | x::xs,y::ys=>by
    rw[bQ_,List.cons.injEq,← gc_,← lS_ xs ys]
    split<;>simp_all
theorem Tr3.cL:∀ a b c,Tr3 (bQ_ a b) (bQ_ b c) (bQ_ a c)
  | [],[],[]=>by unfold Tr3 bQ_;omega
  | [],[],_::_=>by unfold Tr3;simp[bQ_]
  | [],_::_,[]=>by unfold Tr3;simp[bQ_]
  | [],_::_,_::_=>by unfold Tr3;simp[bQ_]
  | _::_,[],[]=>by unfold Tr3;simp[bQ_]
  | _::_,[],_::_=>by unfold Tr3;simp[bQ_]
  | _::_,_::_,[]=>by unfold Tr3;simp[bQ_]
  | x::xs,y::ys,z::zs=>by
    rw[bQ_,bQ_,bQ_];exact (Tr3.cS x y z).or (Tr3.cL xs ys zs)
namespace Con
def core:Con→Con
  | mk k n l h _ _ ps=>mk k n l h none 0 (cores ps)
where cores:List Con→List Con
  | []=>[]
  | p::ps=>core p::cores ps
theorem cores_map:∀ ps:List Con,core.cores ps=ps.map core
  | []=>rfl
  | p::ps=>by rw[core.cores,cores_map ps];rfl
theorem core_eq (c:Con):c.core=mk c.kind c.name c.lo c.hi none 0 (c.parts.map core):=by cases c;simp only[core,cores_map,kind,name,lo,hi,parts]
def cmp:Con→Con→Int
  | mk k n l h _ _ ps,d=>orF [Lib.compareInt ((1+sz.szs ps:Nat):Int) (d.sz:Int),Lib.compareInt k d.kind,Lib.compareBytes n d.name,Lib.compareInt l d.lo,Lib.compareInt h d.hi,cmps ps d.parts]
where cmps:List Con→List Con→Int
  | [],[]=>0
  | [],_::_=>-1
  | _::_,[]=>1
  | p::ps,q::qs=>if cmp p q=0 then cmps ps qs else cmp p q
theorem cmp_eq (c d:Con):cmp c d=orF [Lib.compareInt (c.sz:Int) (d.sz:Int),Lib.compareInt c.kind d.kind,Lib.compareBytes c.name d.name,Lib.compareInt c.lo d.lo,Lib.compareInt c.hi d.hi,cmp.cmps c.parts d.parts]:=by cases c;rfl
mutual
theorem cmp_anti:∀ c d:Con,cmp d c=- cmp c d
  | mk k n l h a cp ps,mk k' n' l' h' a' cp' ps'=>by
    rw[cmp,cmp]
    exact cN_ (gZ_ _ _) (cN_ (gZ_ _ _) (cN_ (gY_ _ _) (cN_ (gZ_ _ _) (cN_ (gZ_ _ _) (cN_ (lQ_ ps ps') rfl)))))
theorem lQ_:∀ ps qs:List Con,cmp.cmps qs ps=- cmp.cmps ps qs
  | [],[]=>rfl
  | [],_::_=>rfl
  | _::_,[]=>rfl
  | p::ps,q::qs=>by
    have h1:=cmp_anti p q
    have h2:=lQ_ ps qs
    rw[cmp.cmps,cmp.cmps];(repeat' split)<;>omega
end
mutual
theorem cmp_tr:∀ a b c:Con,Tr3 (cmp a b) (cmp b c) (cmp a c)
  | mk k n l h a cp ps,mk k' n' l' h' a' cp' ps',mk k2 n2 l2 h2 a2 cp2 ps2=>by
    rw[cmp,cmp,cmp]
    exact (Tr3.cI _ _ _).orF ((Tr3.cI _ _ _).orF ((Tr3.cS _ _ _).orF ((Tr3.cI _ _ _).orF ((Tr3.cI _ _ _).orF ((qv_ ps ps' ps2).orF Tr3.nil)))))
theorem qv_:∀ a b c:List Con,Tr3 (cmp.cmps a b) (cmp.cmps b c) (cmp.cmps a c)
  | [],[],[]=>by unfold Tr3;simp[cmp.cmps]
  | [],[],_::_=>by unfold Tr3;simp[cmp.cmps]
  | [],_::_,[]=>by unfold Tr3;simp[cmp.cmps]
  | [],_::_,_::_=>by unfold Tr3;simp[cmp.cmps]
  | _::_,[],[]=>by unfold Tr3;simp[cmp.cmps]
  | _::_,[],_::_=>by unfold Tr3;simp[cmp.cmps]
  | _::_,_::_,[]=>by unfold Tr3;simp[cmp.cmps]
  | x::xs,y::ys,z::zs=>by
    rw[cmp.cmps,cmp.cmps,cmp.cmps];exact (cmp_tr x y z).or (qv_ xs ys zs)
end
mutual
theorem cmp_zero:∀ a b:Con,cmp a b=0↔a.core=b.core
  | mk k n l h a cp ps,mk k' n' l' h' a' cp' ps'=>by
    rw[cmp,core,core]
    simp only[hf_,pY_]
    simp only[qx_,gc_,lN_ ps ps',and_true,mk.injEq,kind,name,lo,hi,parts,true_and]
    constructor
    · rintro ⟨_,h2,h3,h4,h5,h6⟩;exact⟨h2,h3,h4,h5,h6⟩
    · rintro ⟨h2,h3,h4,h5,h6⟩
      refine⟨?_,h2,h3,h4,h5,h6⟩
      have:=szs_core ps ps' h6
      simp only[sz];omega
theorem lN_:∀ a b:List Con,cmp.cmps a b=0↔core.cores a=core.cores b
  | [],[]=>by simp[cmp.cmps]
  | [],_::_=>by simp[cmp.cmps,core.cores]
  | _::_,[]=>by simp[cmp.cmps,core.cores]
  | x::xs,y::ys=>by
    rw[cmp.cmps,core.cores,core.cores,List.cons.injEq,← cmp_zero x y,← lN_ xs ys]
    split<;>simp_all
theorem sz_core:∀ a b:Con,a.core=b.core→a.sz=b.sz
  | mk k n l h a cp ps,mk k' n' l' h' a' cp' ps'=>by
    rw[core,core,mk.injEq]
    rintro ⟨_,_,_,_,_,_,h6⟩
    have:=szs_core ps ps' h6
    simp only[sz];omega
theorem szs_core:∀ a b:List Con,core.cores a=core.cores b→sz.szs a=sz.szs b
  | [],[]=>fun _=>rfl
  | [],_::_=>by simp[core.cores]
  | _::_,[]=>by simp[core.cores]
  | x::xs,y::ys=>by
    rw[core.cores,core.cores,List.cons.injEq]
    rintro ⟨h1,h2⟩
    have:=sz_core x y h1
    have:=szs_core xs ys h2
    simp only[sz.szs];omega
end
theorem cmp_self (a:Con):cmp a a=0:=(cmp_zero a a).2 rfl
end Con
def Ax.wgt (x:Ax):Int:=(if x.left.kind=0 then 0 else (x.left.sz:Int))+(if x.right.kind=0 then 0 else (x.right.sz:Int))+(x.roles.length:Int)+(if x.role=[] then 0 else 1)+(if x.a=[] then 0 else 1)+(if x.b=[] then 0 else 1)
def Ax.cmp (x y:Ax):Int:=orF [Lib.compareInt x.wgt y.wgt,Lib.compareInt x.kind y.kind,Con.cmp x.left y.left,Con.cmp x.right y.right,bQ_ x.roles y.roles,Lib.compareBytes x.role y.role,Lib.compareBytes x.a y.a,Lib.compareBytes x.b y.b]
theorem Ax.cmp_anti (x y:Ax):cmp y x=- cmp x y :=
  cN_ (gZ_ _ _) (cN_ (gZ_ _ _) (cN_ (Con.cmp_anti _ _) (cN_ (Con.cmp_anti _ _) (cN_ (lU_ _ _) (cN_ (gY_ _ _) (cN_ (gY_ _ _) (cN_ (gY_ _ _) rfl)))))))
theorem Ax.cmp_tr (x y z:Ax):Tr3 (cmp x y) (cmp y z) (cmp x z) :=
  (Tr3.cI _ _ _).orF ((Tr3.cI _ _ _).orF ((Con.cmp_tr _ _ _).orF ((Con.cmp_tr _ _ _).orF ((Tr3.cL _ _ _).orF ((Tr3.cS _ _ _).orF ((Tr3.cS _ _ _).orF ((Tr3.cS _ _ _).orF Tr3.nil)))))))
def Ax.alk (x y:Ax):Prop:=x.kind=y.kind∧x.left.core=y.left.core∧x.right.core=y.right.core∧x.roles=y.roles∧x.role=y.role∧x.a=y.a∧x.b=y.b
theorem Con.core_kind {a b:Con} (h:a.core=b.core):a.kind=b.kind:=by
  rw[Con.core_eq,Con.core_eq,Con.mk.injEq]at h;exact h.1
theorem Ax.cmp_zero (x y:Ax):cmp x y=0↔x.alk y:=by
 unfold cmp alk
 simp only[hf_,pY_]
 simp only[qx_,gc_,Con.cmp_zero,lS_,and_true]
 constructor
 ·rintro ⟨_,h⟩;exact h
 rintro ⟨h1,h2,h3,h4,h5,h6,h7⟩
 refine⟨?_,h1,h2,h3,h4,h5,h6,h7⟩
 unfold wgt
 rw[Con.core_kind h2,Con.core_kind h3,Con.sz_core _ _ h2,Con.sz_core _ _ h3,h4,h5,h6,h7]
theorem Ax.cmp_self (x:Ax):cmp x x=0:=(cmp_zero x x).2 ⟨rfl,rfl,rfl,rfl,rfl,rfl,rfl⟩
theorem Ax.cmp_lt {x y z:Ax} (h:cmp x y<0) (h':cmp y z<0):cmp x z<0:=by
  have:=cmp_tr x y z
  unfold Tr3 at this
  omega
end Go.Vs
namespace Go.Proofs.YtamklbgaipakfaaGreatDoor
open Go Go.Sx Go.Proofs
attribute [local irreducible] Code.wp wpList wpAnyH
open Go.Vs
instance:Inhabited Fc:=⟨⟨0,[],[],[],0,0⟩⟩
theorem fI_ (x y:Int):Fn0 Tryz.prog 97 #[.int .i64 x,.int .i64 y] (.int .i64 (Lib.compareInt x y)) :=
  cH_ (callable Tryz.func97 rfl rfl) fun v _ _=>(Tryz.cmp_Compare_int x y v.w).mono (by rintro e w' ⟨rfl,rfl⟩;exact⟨rfl,⟨rfl,rfl,rfl,Nat.le_refl _,fun _ _=>rfl⟩,.inr (Nat.le_refl _)⟩)
theorem dc_ (x y:Str):Fn0 Tryz.prog 100 #[str x,str y] (.int .i64 (Lib.compareBytes x y)) :=
  cH_ (callable Tryz.func100 rfl rfl) fun v _ _=>(Tryz.strings_Compare ⟨x.toArray⟩ ⟨y.toArray⟩ v.w).mono (by rintro e w' ⟨rfl,rfl⟩;exact⟨rfl,⟨rfl,rfl,rfl,Nat.le_refl _,fun _ _=>rfl⟩,.inr (Nat.le_refl _)⟩)
theorem ls_ (l:List Int) (ad:Option Addr) (cap:Nat) (hl:l.length≤1000):Tri Tryz.prog 96 #[.slice ad (List.length l) cap] [] [ac_ ad (List.flatMap ct_ l)] (fun _:Unit=>.int .i64 (orF l)) (fun _=>[]) (fun _=>[]):=by
 refine j_ Tryz.func96 rfl rfl Tryz.ntmps96 rfl fun v0=>?_
 refine Zz 19 ?_
 refine Y_ (ι:={y:Nat // y≤l.length∧∀ z∈l.take y,z=0}) (fun y=>[(3,.int .i64 0),(6,.slice ad (List.length l) cap),(7,.int .i64 (List.length l:Int)),(8,.int .i64 (y.1:Int))]) (fun y=>([])) (fun y=>[ac_ ad (List.flatMap ct_ l)]) (fun y=>l.length - y.1) ⟨(0:Nat),by simp,by simp⟩ zl e_ zh ?_
 rintro ⟨i,hi,h0⟩
 dsimp only at hi h0 ⊢
 refine Zi 2 (fun hr1=>?_) fun hr1=>?_
 ·refine Zz 13 ?_
  exact E_ Tryz.results96 () (O_ rfl (nL_ fun y hy=>h0 y (by rw[List.take_of_length_le (by omega)];exact hy)).symm) e_ zt
 obtain⟨hlx1,x1,hx1,hmx1⟩:=zge (show i<List.length l by omega)
 refine Zi 19 (fun hr2=>?_) fun hr2=>?_
 ·refine Zz 10 ?_
  exact z_ ⟨i+1,hlx1,fun y hy=>by rw[List.take_add_one,hx1]at hy;simp only[Option.toList_some,List.mem_append,List.mem_singleton]at hy;rcases hy with hy|rfl;exact h0 y hy;omega⟩ (by dsimp only;omega) zl e_ zh
 refine Zz 10 ?_
 exact E_ Tryz.results96 () (O_ rfl (sL_ h0 hx1 (by assumption)).symm) e_ zt
end Go.Proofs.YtamklbgaipakfaaGreatDoor
namespace Go.Proofs.YtamklbgaipakfaaGreatDoor
open Go Go.Sx Go.Proofs
attribute [local irreducible] Code.wp wpList wpAnyH
open Go.Vs
structure Cl where
  atoms:List Str
  aad:Option Addr
  acap:Nat
  facts:List Fc
  fad:Option Addr
  fcap:Nat
def Cl.cells (c:Cl):List Value:=[.slice c.aad c.atoms.length c.acap,.slice c.fad c.facts.length c.fcap]
theorem Cl.cells_len (c:Cl):c.cells.length=2:=rfl
def Cl.val (c:Cl):Value:=.agg c.cells.toArray
def Cl.row (c:Cl):List Fct:=[ac_ c.aad (List.flatMap aJ_ c.atoms),ac_ c.fad (List.flatMap Fc.cells c.facts)]
def Cl.no:Cl:=Cl.mk [] none 0 [] none 0
structure Cl.ok (c:Cl):Prop where
  al:c.atoms.length≤c.acap
  am:c.acap≤maxLen
  az:c.aad=none→c.acap=0
  fl:c.facts.length≤c.fcap
  fm:c.fcap≤maxLen
  fz:c.fad=none→c.fcap=0
section
variable {P:Program} {N:Nf} {v0:Vw} {H0:Hp} {fr:Fr} {H F Ha Hu Ho Hi Hr Hm Hs:Hp} {Γ:List Fct}
theorem bg_ {fn:Func} {t s b n:Nat} {ty T:TypeId} {us:List Value} {u:Value} (i:Nat) (hr:fn.results=#[.cell t ty,.tmp s]) (ha:∀ w,(isAgg ty).run P w=.ok true w) (hs:∀ w,(sizeOf ty).run P w=.ok n w) (hn:us.length=n) (hx:Fr.get fr t=some (zp_ b 0)) (hu:Fr.get fr s=some u)
    (hi:H[i]? = some (b,.cells us.toArray T (0,0))) (a:Act) (v:Vw) (h1:Fr.sat N fr a) (h2:v.sat H):(results fn a.tmps).run P v.w=.ok (.tuple #[.agg us.toArray,u]) v.w:=by
  have e:=h1.val t _ hx
  have e2:=h1.val s _ hu
  have hl:=dm_ (t:=ty) (w:=v.w) (b:=b) (off:=0) ha hs hn (fun j y hj=>by rw[Nat.zero_add,ei_ h2 hi];simpa using hj)
  simp[results,hr,e,e2,asAddr,hl]
end
end Go.Proofs.YtamklbgaipakfaaGreatDoor
namespace Go.Proofs.YtamklbgaipakfaaGreatDoor
open Go Go.Sx Go.Proofs
attribute [local irreducible] Code.wp wpList wpAnyH
open Go.Vs Go.Shelf Go.RowKit
theorem ne_ {v v':Vw} (h:v.to [] v' []) (hs:¬ v.sl):∃ q os,v'.w=Sort.grow (v.w.drewN q) os:=by
 have hd:v.w.drawn≤v'.w.drawn:=h.dr.resolve_left hs
 refine⟨v'.w.drawn - v.w.drawn,v'.w.heap.extract v.w.heap.size v'.w.heap.size,?_⟩
 have hh:v'.w.heap=v.w.heap++v'.w.heap.extract v.w.heap.size v'.w.heap.size:=by
   apply Array.ext_getElem?
   intro i
   have hsz:=h.size
   rw[Array.getElem?_append]
   split
   · rename_i hi;exact h.block i hi (by simp)
   · rename_i hi
     rw[Array.getElem?_extract]
     split
     · congr 1;omega
     · rw[Array.getElem?_eq_none (by omega)]
 have e1:=h.os;have e2:=h.tape;have e3:=h.output
 obtain⟨im',⟨hp,tp,dn,os',ou⟩,sl'⟩:=v'
 simp only at e1 e2 e3 hh hd
 simp only[Sort.grow,World.drewN,World.mk.injEq]
 exact⟨hh,e2,by omega,e1,e3⟩
theorem rf_ {cur:Array Value} {d:List Value} (hs:d.length≤cur.size):(Sort.putCells id 0 d.toArray cur).toList.take d.length=d:=by
 apply List.ext_getElem?
 intro j
 rw[List.getElem?_take]
 split
 ·rename_i hj
  simp only[Sort.putCells,Array.getElem?_toList,Array.getElem?_mapIdx]
  rw[Array.getElem?_eq_getElem (by omega)]
  simp only[Option.map_some,Nat.zero_le,true_and,Nat.zero_add,List.size_toArray,hj,if_true,Nat.sub_zero]
  rw[List.getElem?_eq_getElem hj,getElem!_pos d.toArray j (by simpa using hj)]
  rfl
 rename_i hj
 rw[List.getElem?_eq_none (by omega)]
theorem rg_ {cur d:Array Value}:(Sort.putCells id 0 d cur).size=cur.size:=by simp[Sort.putCells]
theorem holdsV {g:Nat} {cur:Array Value} {T:TypeId} {xs:List Value} {v:Vw} (hs:v.sat [(g,.cells cur T (0,0))]) (ht:cur.toList.take xs.length=xs):Sort.Holds id v.w g 0 xs.toArray:=by
 intro j hj
 have hb:=(hs.own _ List.mem_cons_self).1
 simp only[List.size_toArray]at hj
 have hc:cur[j]? = some xs[j]:=by
   have:=congrArg (fun l=>l[j]?) ht
   simp only[List.getElem?_take,hj,if_true,Array.getElem?_toList]at this
   rw[this,List.getElem?_eq_getElem hj]
 refine⟨?_,?_⟩
 ·simp only[World.cell?,Nat.zero_add,hb,Option.isSome_none,Bool.false_eq_true,if_false]
  rw[hc,getElem!_pos xs.toArray j (by simpa using hj)]
  rfl
 simp[World.frozen?,hb]
end Go.Proofs.YtamklbgaipakfaaGreatDoor
namespace Go.Proofs.YtamklbgaipakfaaGreatDoor
open Go Go.Sx Go.Proofs
attribute [local irreducible] Code.wp wpList wpAnyH
open Go.Vs Go.Shelf Go.RowKit
theorem lJ_ {D:Type} [Inhabited D] {cells:D→List Value} {k:Nat} (hk:∀ x,(cells x).length=k) (hk0:0<k) (xs:List D):Sort.flatK cells k xs.toArray=(xs.flatMap cells).toArray:=by
 apply Array.ext_getElem?
 intro t
 have e0:(xs.flatMap cells).toArray[t]? = (xs.flatMap cells)[t]? := by simp
 rw[e0]
 by_cases ht:t<xs.length*k
 ·have hd:t / k<xs.length:=(Nat.div_lt_iff_lt_mul hk0).2 ht
  have:=iL_ cells k hk xs (t / k) (t%k) xs[t / k] (List.getElem?_eq_getElem hd) (Nat.mod_lt _ hk0)
  rw[Nat.div_add_mod' t k]at this
  rw[this]
  simp only[Sort.flatK,Array.getElem?_map,List.size_toArray]
  rw[Array.getElem?_eq_getElem (by simpa using ht)]
  simp only[Array.getElem_range,Option.map_some]
  rw[getElem!_pos xs.toArray (t / k) (by simpa using hd)]
  have hl:t%k<(cells xs[t / k]).length:=by rw[hk];exact Nat.mod_lt _ hk0
  rw[List.getElem?_eq_getElem hl]
  simp only[List.getElem_toArray]
  rw[getElem!_pos (cells xs[t / k]) (t%k) hl]
 rw[List.getElem?_eq_none (by rw[ey_ cells k hk];omega),Array.getElem?_eq_none (by simp[Sort.flatK];omega)]
theorem nm_ {P:Program} {Γ:List Fct} {f:FuncId} {args:Array Value} {r:Value} {g:Nat} {cur:Array Value} {T:TypeId} {ι:Type} {d:ι→Array Value} (hc:eJ_ P f)
    (h:∀ v:Vw,v.sat [(g,.cells cur T (0,0))]→ag_ Γ v→Calls P f args v.w fun e w'=>e=.returned r∧∃ (i:ι) (n:Nat) (os:Array Obj),w'=Sort.grow (Sort.putRow id (Sort.ahead v.w n) g 0 (d i)) os) :
    Tri P f args [(g,.cells cur T (0,0))] Γ (fun _:ι=>r) (fun i=>[(g,.cells (Sort.putCells id 0 (d i) cur) T (0,0))]) (fun _=>[]) :=
  ⟨hc,fun v h1 h2=>(h v h1 h2).mono fun e w' ⟨he,i,n,os,hw⟩=>by
    have hg:=(h1.own _ List.mem_cons_self)
    have hlt:g<v.w.heap.size:=(Array.getElem?_eq_some_iff.1 hg.1).1
    have hb:∀ b,b<v.w.heap.size→w'.heap[b]? = if b=g then some (.cells (Sort.putCells id 0 (d i) cur) T (0,0)) else v.w.heap[b]? := fun b hb=>by
      rw[hw]
      simp only[Sort.grow,Sort.putRow,Sort.mapBlock,Sort.ahead]
      rw[Array.getElem?_append_left (by simpa using hb),Array.getElem?_modify]
      by_cases e:b=g
      · subst e
        simp only[if_true,hg.1,Option.map_some,Sort.onCells]
      · rw[if_neg (fun q=>e q.symm),if_neg e]
    have hsz:v.w.heap.size≤w'.heap.size:=by rw[hw];simp[Sort.grow,Sort.putRow,Sort.mapBlock,Sort.ahead]
    refine⟨i,⟨v.im,w',v.sl⟩,he,rfl,⟨fun p hp=>?_,by simp,fun b hbb=>Nat.lt_of_lt_of_le (h1.lt b hbb) hsz⟩,trivial,⟨by rw[hw];rfl,by rw[hw];rfl,by rw[hw];rfl,hsz,fun b hbb hn=>?_,fun _ h=>h,fun _ h=>.inl h,fun b hm=>.inl (by simpa using hm),rfl,.inr (by rw[hw];exact Nat.le_add_right _ _)⟩⟩
    · simp only[List.mem_singleton]at hp
      subst hp
      exact⟨by show w'.heap[g]? = _;rw[hb g hlt,if_pos rfl],hg.2⟩
    · have hn':b≠g:=by simpa using hn
      show w'.heap[b]? = _
      rw[hb b hbb,if_neg hn']⟩
structure Wko {D:Type} (cf:D→D→Int):Prop where
  irr:∀ x,¬ cf x x<0
  tr:∀ x y z,cf x y<0→cf y z<0→cf x z<0
  ntr:∀ x y z,¬ cf x y<0→¬ cf y z<0→¬ cf x z<0
theorem sortG {P:Program} {ρ:Ren} (L:SlLaysF0.n6 P ρ) {D:Type} {cells:D→List Value} {k:Nat} {Te:TypeId} (hk:∀ x,(cells x).length=k) (hk0:0<k) (h1:∀ x,(cells x).all Value.oneCell'=true)
    (aE:∀ w,(isAgg (ρ.t 24)).run P w=.ok true w) (zE:∀ w,(Go.sizeOf (ρ.t 24)).run P w=.ok k w) {cf:D→D→Int} (hO:Wko cf) {g:Nat} (hg:eJ_ P g) (hF:eJ_ P (ρ.f 6))
    {Γ:List Fct} (hΓ:∀ (v:Vw) (q:Prop),ag_ Γ v→ag_ Γ ⟨v.im,v.w,q⟩) {sv:Value} {xs:List D} {Hr:Hp} (h:ar_ Te k sv xs.length (xs.flatMap cells) Hr) (hl:xs.length≤1000000000000)
    (hC:∀ x∈xs,∀ y∈xs,Tri P g #[.agg (cells x).toArray,.agg (cells y).toArray] [] Γ (fun _:Unit=>.int .i64 (cf x y)) (fun _=>[]) (fun _=>[])) :
    Tri P (ρ.f 6) #[sv,.func (.func g) #[] #[]] Hr Γ (fun _:{y:Hp×List D // ar_ Te k sv y.2.length (y.2.flatMap cells) y.1∧y.2.Perm xs∧y.2.Pairwise fun a b=>¬ cf b a<0}=>.tuple #[]) (fun y=>y.1.1) (fun _=>[]):=by
  by_cases hx0:xs=[]
  · subst hx0
    rcases h.2 with⟨rfl,h2,rfl⟩|⟨b,cap,cur,rfl,rfl,h3,h4,h5,h6⟩
    · have T:=cH_ (P:=P) (H:=[]) (Γ:=Γ) hF (fun v _ _=>(AnyF.slices_SortFunc_none { L with } none 0 (.func (.func g) #[] #[]) v.w).mono (by rintro e w' ⟨rfl,rfl⟩;exact⟨rfl,⟨rfl,rfl,rfl,Nat.le_refl _,fun _ _=>rfl⟩,.inr (Nat.le_refl _)⟩))
      exact⟨T.callable,fun v a b=>(T.run v a b).mono (by rintro e w' ⟨x,v',e1,e2,e3,e4,e5⟩;exact⟨⟨([],[]),ar_.nil _ _,.refl _,List.Pairwise.nil⟩,v',e1,e2,e3,e4,e5⟩)⟩
    · have T:=cH_ (P:=P) (H:=[(b,.cells cur Te (0,0))]) (Γ:=Γ) hF (fun v _ _=>(AnyF.slices_SortFunc_none { L with } (some ⟨b,0,none⟩) cap (.func (.func g) #[] #[]) v.w).mono (by rintro e w' ⟨rfl,rfl⟩;exact⟨rfl,⟨rfl,rfl,rfl,Nat.le_refl _,fun _ _=>rfl⟩,.inr (Nat.le_refl _)⟩))
      exact⟨T.callable,fun v a c=>(T.run v a c).mono (by rintro e w' ⟨x,v',e1,e2,e3,e4,e5⟩;exact⟨⟨([(b,.cells cur Te (0,0))],[]),h,.refl _,List.Pairwise.nil⟩,v',e1,e2,e3,e4,e5⟩)⟩
  · rcases h.2 with⟨_,h2,_⟩|⟨b,cap,cur,rfl,rfl,h3,h4,h5,h6⟩
    · exact absurd (List.eq_nil_of_length_eq_zero h2) hx0
    · obtain⟨x0,hx0⟩:=List.exists_mem_of_ne_nil _ hx0
      haveI:Inhabited {x // x∈xs}:=⟨⟨x0,hx0⟩⟩
      have hx:(xs.flatMap cells).length=xs.length*k:=ey_ cells k hk xs
      have hf:∀ l:List {x // x∈xs},(l.flatMap fun z=>cells z.1)=(l.map Subtype.val).flatMap cells:=fun l=>by rw[List.flatMap_map]
      have hat:(xs.attach.map Subtype.val)=xs:=List.attach_map_subtype_val xs
      have T:=nm_ (P:=P) (Γ:=Γ) (r:=.tuple #[]) (g:=b) (cur:=cur) (T:=Te) (ι:={d:Array {x // x∈xs} // d.size=xs.length∧d.toList.Perm xs.attach∧d.toList.Pairwise fun a b=>¬ cf b.1 a.1<0}) (d:=fun d=>((d.1.toList.map Subtype.val).flatMap cells).toArray) (f:=ρ.f 6) (args:=#[.slice (some ⟨b,0,none⟩) xs.length cap,.func (.func g) #[] #[]]) hF (fun v hs hv=>by
        have hh:=AnyQ.slices_SortFunc L k aE zE (fun z:{x // x∈xs}=>cells z.1) (fun z=>hk z.1) (fun x u hu=>List.all_eq_true.1 (h1 x.1) u hu) (fun a b=>cf a.1 b.1)
          ⟨fun x=>decide_eq_false (hO.irr x.1),fun x y z h1 h2=>decide_eq_true (hO.tr _ _ _ (of_decide_eq_true h1) (of_decide_eq_true h2)),fun x y z h1 h2=>decide_eq_false (hO.ntr _ _ _ (of_decide_eq_false h1) (of_decide_eq_false h2))⟩
          g #[] b 0 cap xs.attach.toArray v.w (fun args w=>hg args w) ?_ (by unfold Sort.HoldsK;rw[lJ_ (cells:=fun z:{x // x∈xs}=>cells z.1) (fun z=>hk z.1) hk0,hf,hat];exact holdsV hs (by rw[hx];exact h6)) (Array.getElem?_eq_some_iff.1 (hs.own _ List.mem_cons_self).1).1 (by simp;omega)
        · have e1:xs.attach.toArray.size=xs.length:=by simp
          rw[e1]at hh
          refine hh.mono ?_
          rintro e w' ⟨rfl,d',n,os,hp,hsrt,rfl⟩
          have hsz:d'.size=xs.length:=by have:=hp.1;rwa [e1]at this
          refine⟨rfl,⟨d',hsz,?_,?_⟩,n,os,?_⟩
          · have:=hp.2.2
            rw[← hsz,Array.extract_size,hsz]at this
            have e2:xs.attach.toArray.extract 0 xs.length=xs.attach.toArray:=by
              have q:=Array.extract_size (xs:=xs.attach.toArray)
              rwa [e1]at q
            rw[e2]at this
            exact this
          · rw[List.pairwise_iff_getElem]
            intro i j hi hj hij
            have hj':j<d'.size:=by simpa using hj
            have:=hsrt i j (Nat.zero_le _) hij (by omega)
            rw[getElem!_pos d' j hj',getElem!_pos d' i (by omega)]at this
            have:=of_decide_eq_false this
            simpa using this
          · unfold sortWorldK Sort.putRowK
            have q9:=lJ_ (cells:=fun z:{x // x∈xs}=>cells z.1) (fun z=>hk z.1) hk0 d'.toList
            rw[hf]at q9
            rw[show d'.toList.toArray=d' by simp]at q9
            rw[q9]
        · intro m os dk _ x y
          have hgb:=hs.own _ List.mem_cons_self
          have hlt:b<v.w.heap.size:=(Array.getElem?_eq_some_iff.1 hgb.1).1
          have hheap:∀ c,c<v.w.heap.size→c≠b→(sortWorldK (fun z:{x // x∈xs}=>cells z.1) k v.w b 0 m dk os).heap[c]? = v.w.heap[c]? := fun c hc hn=>by
            unfold sortWorldK Sort.putRowK
            simp only[Sort.grow,Sort.putRow,Sort.mapBlock,Sort.ahead]
            rw[Array.getElem?_append_left (by simpa using hc),Array.getElem?_modify,if_neg (fun q=>hn q.symm)]
          have hsz2:v.w.heap.size≤(sortWorldK (fun z:{x // x∈xs}=>cells z.1) k v.w b 0 m dk os).heap.size:=by unfold sortWorldK Sort.putRowK;simp[Sort.grow,Sort.putRow,Sort.mapBlock,Sort.ahead]
          have hq:=(hC x.1 x.2 y.1 y.2).run ⟨v.im,sortWorldK (fun z:{x // x∈xs}=>cells z.1) k v.w b 0 m dk os,False⟩ ⟨by simp,by simp,fun c hc=>Nat.lt_of_lt_of_le (hs.lt c hc) hsz2⟩
            (aD_ (v:=⟨v.im,v.w,False⟩) ⟨fun _ q=>q,fun c hc=>hheap c (hs.lt c hc) (fun e=>hgb.2 (e▸hc)),rfl⟩ (hΓ v False hv))
          refine hq.mono ?_
          rintro e w' ⟨_,v',rfl,rfl,_,_,ht⟩
          obtain⟨q,os',hw⟩:=ne_ ht (fun h=>h)
          exact⟨rfl,q,os',hw⟩)
      refine⟨T.callable,fun v a b=>(T.run v a b).mono ?_⟩
      rintro e w' ⟨⟨d',hsz,hp,hpw⟩,v',e1,e2,e3,e4,e5⟩
      have hlen:(d'.toList.map Subtype.val).length=xs.length:=by simp[hsz]
      have hy:((d'.toList.map Subtype.val).flatMap cells).length=xs.length*k:=by rw[ey_ cells k hk,hlen]
      refine⟨⟨(_,d'.toList.map Subtype.val),⟨by rw[hy,hlen],.inr ⟨_,cap,_,by rw[hlen],rfl,by rw[hlen];exact h3,h4,by rw[rg_];exact h5,?_⟩⟩,?_,?_⟩,v',e1,e2,e3,e4,e5⟩
      · have:=rf_ (cur:=cur) (d:=(d'.toList.map Subtype.val).flatMap cells) (by rw[hy,h5];exact Nat.mul_le_mul_right k h3)
        rw[hy]at this
        dsimp only
        rw[hlen];exact this
      · have:=hp.map Subtype.val
        rwa [hat]at this
      · rw[List.pairwise_map];exact hpw
end Go.Proofs.YtamklbgaipakfaaGreatDoor
namespace Go.Vs
open Go Go.Sx Go.Proofs.YtamklbgaipakfaaGreatDoor
def js_ (p:List Pc) (U:List Bool) (q:List Int) (i:Nat):Prop:=∀ m,m∈q↔∃ (j:Nat) (x:Pc),j<i∧p[j]? = some x∧U[j]? = some true∧x.frm=m
theorem js_.zero {p:List Pc} {U:List Bool}:js_ p U [] 0:=fun m=>by simp
theorem js_.miss {p:List Pc} {U:List Bool} {q:List Int} {i:Nat} (h:js_ p U q i) (hw:U[i]? = some false):js_ p U q (i+1):=fun m=>by
 rw[h m]
 constructor
 ·rintro ⟨j,x,h1,h2⟩;exact⟨j,x,by omega,h2⟩
 rintro ⟨j,x,h1,h2,h3,h4⟩
 refine⟨j,x,?_,h2,h3,h4⟩
 rcases Nat.lt_or_ge j i with g|g
 ·exact g
 obtain rfl:j=i:=by omega
 rw[hw]at h3;simp at h3
theorem js_.hit {p:List Pc} {U:List Bool} {q:List Int} {i:Nat} {x:Pc} (h:js_ p U q i) (hx:p[i]? = some x) (hw:U[i]? = some true):js_ p U (if x.frm∈q then q else q++[x.frm]) (i+1):=fun m=>by
 have e:m∈(if x.frm∈q then q else q++[x.frm])↔m∈q∨m=x.frm:=by
   split
   · rename_i g;constructor
     · exact .inl
     · rintro (z|rfl);exact z;exact g
   · simp
 rw[e,h m]
 constructor
 ·rintro (⟨j,y,h1,h2⟩|rfl)
  ·exact⟨j,y,by omega,h2⟩
  exact⟨i,x,by omega,hx,hw,rfl⟩
 rintro ⟨j,y,h1,h2,h3,h4⟩
 rcases Nat.lt_or_ge j i with g|g
 ·exact .inl ⟨j,y,g,h2,h3,h4⟩
 obtain rfl:j=i:=by omega
 rw[hx,Option.some.injEq]at h2
 subst h2
 exact .inr h4.symm
theorem js_.done {p:List Pc} {S:List Str} {K:List Thg} {U:List Bool} {q:List Int} {i:Nat} (h:js_ p U q i) (hi:p.length≤i) (hR:ReachR p S K U) (m:Int):m∈q↔∃ x∈p,x.frm=m∧Usb p S x:=by
 rw[h m]
 constructor
 ·rintro ⟨j,x,h1,h2,h3,h4⟩
  obtain⟨b,g1,g2⟩:=hR.use j x h2
  rw[h3,Option.some.injEq]at g1
  exact⟨x,List.mem_of_getElem? h2,h4,g2.1 g1.symm⟩
 rintro ⟨x,hx,h4,hu⟩
 obtain⟨j,hj⟩:=List.getElem?_of_mem hx
 obtain⟨b,g1,g2⟩:=hR.use j x hj
 have:=(List.getElem?_eq_some_iff.1 hj).1
 refine⟨j,x,by omega,hj,?_,h4⟩
 rw[g1,g2.2 hu]
theorem ia_ {l:List Ax} {p:List Pc} {S:List Str} {i:Nat} {a:Ax} (ha:l[i]? = some a) (hk:fn_ a):Mat l p S i:=.inl ⟨a,by simpa using ha,hk⟩
theorem sQ_ {l:List Ax} {p:List Pc} {S:List Str} {i:Nat} {q:List Int} (h:∀ m,m∈q↔∃ x∈p,x.frm=m∧Usb p S x) (hi:(i:Int)∈q):Mat l p S i:=.inr ((h i).1 hi)
theorem uA_ {l:List Ax} {p:List Pc} {S:List Str} {i:Nat} {a:Ax} {q:List Int} (h:∀ m,m∈q↔∃ x∈p,x.frm=m∧Usb p S x) (ha:l[i]? = some a) (hk:¬ fn_ a) (hi:¬ (i:Int)∈q):¬ Mat l p S i:=by
 rintro (⟨b,hb,hkb⟩|hq)
 ·have:l[i]? = some b:=by simpa using hb
  rw[ha,Option.some.injEq]at this
  subst this
  exact hk hkb
 exact hi ((h i).2 hq)
end Go.Vs
namespace Go.Proofs.YtamklbgaipakfaaGreatDoor
open Go Go.Sx Go.Proofs
attribute [local irreducible] Code.wp wpList wpAnyH
open Go.Vs
theorem ly_ (ls:List Ax) (lad:Option Addr) (lcap:Nat) (p:List Pc) (ad:Option Addr) (cap:Nat) (S:List Str) (sad:Option Addr) (scap:Nat):Tri Tryz.prog 38 #[.slice lad (List.length ls) lcap,.slice ad (List.length p) cap,.slice sad (List.length S) scap] [] [] (fun y:Nat×Nat×Nat=>.func (.func 80) #[] #[zp_ y.1 0,zp_ y.2.1 0,zp_ y.2.2 0]) (fun _=>[]) (fun y=>[bj_ y.1 (.cells #[.slice ad (List.length p) cap] 54 (0,0)),bj_ y.2.1 (.cells #[.slice sad (List.length S) scap] 23 (0,0)),bj_ y.2.2 (.cells #[.slice lad (List.length ls) lcap] 22 (0,0))]):=by
  refine j_ Tryz.func38 rfl rfl Tryz.ntmps38 rfl fun v0=>?_
  refine Zz 2 ?_
  refine N_ rfl rfl fun b1=>N_ rfl rfl fun b2=>N_ rfl rfl fun b3=>Zz 5 ?_
  refine c_ (dw_ rfl rfl) rfl (Zz 4 ?_)
  refine eD_ (bj_ b1 (.cells #[.slice lad (List.length ls) lcap] 22 (0,0))) (bO_ (l_ (l_ i_))) (fun _ h1 h2 _=>⟨h1,h2⟩) ?_
  refine eD_ (bj_ b2 (.cells #[.slice ad (List.length p) cap] 54 (0,0))) (bO_ (l_ i_)) (fun _ h1 h2 _=>⟨h1,h2⟩) ?_
  refine eD_ (bj_ b3 (.cells #[.slice sad (List.length S) scap] 23 (0,0))) (bO_ i_) (fun _ h1 h2 _=>⟨h1,h2⟩) ?_
  exact E_ Tryz.results38 (b2,b3,b1) rfl e_ zf
theorem sS_ {σ:Type} {lq:Nat} {Gj:σ→Hp} {lst:σ→List Int} (ls:List Ax) (lad:Option Addr) (lcap:Nat) (p:List Pc) (ad:Option Addr) (cap:Nat) (S:List Str) (sad:Option Addr) (scap:Nat) (bp bs bl:Nat) (Fx Fy:Fct) (hY:∀ s x,((lst s).length<100000000∧0≤x∧x<(List.length ls:Int))→hE_ Tryz.prog lq (.int .i64 x) (Gj s) [Fx,Fy] (fun _:{s':σ // lst s'=lst s++[x]}=>.bool true) (fun s'=>Gj s'.1) (fun _=>[])) (s0:σ) (hs0:lst s0=[]) (hp:p.length≤100000000) (hS:S.length≤100000000) (hll:ls.length≤100000000):Tri Tryz.prog 80 #[.func (.yield lq) #[] #[],zp_ bp 0,zp_ bs 0,zp_ bl 0] (Gj s0) [bj_ bp (.cells #[.slice ad (List.length p) cap] 54 (0,0)),bj_ bs (.cells #[.slice sad (List.length S) scap] 23 (0,0)),bj_ bl (.cells #[.slice lad (List.length ls) lcap] 22 (0,0)),ac_ ad (List.flatMap Pc.cells p),ac_ sad (List.flatMap aJ_ S),aR_ lad ls,Fx,Fy] (fun _:{s':σ // lst s'=di_ ls p S (List.length ls)}=>.tuple #[]) (fun s'=>Gj s'.1) (fun _=>[]):=by
 refine j_ Tryz.func80 rfl rfl Tryz.ntmps80 rfl fun v0=>?_
 refine at_ ?_
 refine X_ ?_
 refine c_ (bN_ po_ rfl zf rfl) rfl ?_
 refine c_ (bN_ Tryz.isAgg23 rfl zf rfl) rfl ?_
 refine d_ (uo_ p ad cap S sad scap hp hS) rfl e_ zf rfl fun⟨⟨kb,esK,cK,Kq,svU,Uq,HUq⟩,hEK,hBK,hrU,hRR⟩=>?_
 dsimp only
 dsimp only at hEK hBK hrU hRR
 simp only[List.cons_append,List.append_assoc]
 refine c_ (H_ rfl) rfl ?_
 refine c_ (cG_ rfl rfl) rfl ?_
 refine c_ (cG_ rfl rfl) rfl ?_
 refine c_ (aq_ rfl) rfl ?_
 refine c_ (aq_ rfl) rfl ?_
 refine ap_ ?_
 refine ab_ rfl ?_
 refine at_ ?_
 refine X_ ?_
 refine ds_ rfl fun b1=>?_
 refine c_ (aq_ rfl) rfl ?_
 refine ap_ ?_
 refine ab_ rfl ?_
 refine at_ ?_
 refine at_ ?_
 refine X_ ?_
 refine c_ (H_ rfl) rfl ?_
 refine c_ (du_ hrU Tryz.runUnderlying79 rfl) rfl ?_
 refine c_ (H_ rfl) rfl ?_
 refine ap_ ?_
 refine ab_ rfl ?_
 refine dr_ ?_
 refine Y_ (ι:={y:Nat×Array MapEntry×Nat×List Int // y.1≤List.length Uq∧SetE (fun n:Int=>.int .i64 n) y.2.1 y.2.2.2∧js_ p Uq y.2.2.2 y.1}) (fun y=>[(0,.func (.yield lq) #[] #[]),(1,zp_ bp 0),(3,zp_ bl 0),(7,.map (some b1)),(20,svU),(21,.int .i64 (List.length Uq:Int)),(22,.int .i64 (y.1.1:Int))]) (fun y=>((b1,.map y.1.2.1 y.1.2.2.1)::(HUq++(Gj s0)))) (fun y=>[bj_ bp (.cells #[.slice ad (List.length p) cap] 54 (0,0)),bj_ bs (.cells #[.slice sad (List.length S) scap] 23 (0,0)),bj_ bl (.cells #[.slice lad (List.length ls) lcap] 22 (0,0)),ac_ ad (List.flatMap Pc.cells p),ac_ sad (List.flatMap aJ_ S),aR_ lad ls,Fx,Fy]) (fun y=>List.length Uq - y.1.1) ⟨((0:Nat),#[],0,([]:List Int)),by simp,SetE.nil,js_.zero⟩ zl zp zh ?_
 rintro ⟨⟨i,es3,c3,q⟩,hi_i,hE3,hq⟩
 dsimp only at hi_i hE3 hq ⊢
 refine at_ ?_
 refine X_ ?_
 refine y_ (dN_ rfl rfl) rfl fun r1 hr1=>?_
 refine ap_ ?_
 refine ab_ rfl ?_
 refine at_ ?_
 cases r1
 ·replace hr1:=zdf hr1
  refine bx_ rfl ?_
  refine gy_ rfl ?_
  refine ab_ rfl ?_
  refine at_ ?_
  refine X_ ?_
  refine c_ (bN_ jn_ rfl zf rfl) rfl ?_
  refine c_ (dl_ s_ rfl) rfl ?_
  refine c_ (H_ rfl) rfl ?_
  refine ap_ ?_
  refine ab_ rfl ?_
  refine dr_ ?_
  have hqd:=hq.done (S:=S) (by rw[← hRR.ul];omega) hRR
  refine Y_ (ι:={y:Nat×σ // y.1≤List.length ls∧lst y.2=di_ ls p S y.1}) (fun y=>[(0,.func (.yield lq) #[] #[]),(1,zp_ bp 0),(3,zp_ bl 0),(7,.map (some b1)),(21,.int .i64 (List.length Uq:Int)),(22,.int .i64 (i:Int)),(35,.slice lad (List.length ls) lcap),(36,.int .i64 (List.length ls:Int)),(37,.int .i64 (y.1.1:Int))]) (fun y=>((b1,.map es3 c3)::(Gj y.1.2))) (fun y=>[bj_ bp (.cells #[.slice ad (List.length p) cap] 54 (0,0)),bj_ bs (.cells #[.slice sad (List.length S) scap] 23 (0,0)),bj_ bl (.cells #[.slice lad (List.length ls) lcap] 22 (0,0)),ac_ ad (List.flatMap Pc.cells p),ac_ sad (List.flatMap aJ_ S),aR_ lad ls,Fx,Fy]) (fun y=>List.length ls - y.1.1) ⟨((0:Nat),s0),by simp,(by rw[iE_];exact hs0)⟩ zl zp zh ?_
  rintro ⟨⟨k,s⟩,hi_k,hls⟩
  dsimp only at hi_k hls ⊢
  refine at_ ?_
  refine X_ ?_
  refine y_ (dN_ rfl rfl) rfl fun r2 hr2=>?_
  refine ap_ ?_
  refine ab_ rfl ?_
  refine at_ ?_
  cases r2
  ·replace hr2:=zdf hr2
   refine bx_ rfl ?_
   refine gy_ rfl ?_
   refine jz_ rfl ?_
   exact dS_ Tryz.results80 ⟨s,by rw[show List.length ls=k by omega];exact hls⟩ rfl au_ zt
  replace hr2:=zdt hr2
  have hla1:k<List.length ls:=by omega
  obtain⟨a1,ha1⟩:∃ e0,ls[k]? = some e0:=⟨_,List.getElem?_eq_getElem hla1⟩
  have hma1:a1∈ls:=List.mem_of_getElem? ha1
  refine dh_ rfl ?_
  refine ch_ ?_
  refine ab_ rfl ?_
  refine at_ ?_
  refine dr_ ?_
  refine at_ ?_
  refine X_ ?_
  refine c_ (H_ rfl) rfl ?_
  refine c_ (C_ s_ f_ rfl rfl (fun v _ h=>q_ (n:=16) Ax.cells_len (by decide) (by exact h.2.2.2.2.2.1.1) ha1) (by omega) (by first|omega|(simp;done))) rfl ?_
  refine c_ (L_ (ad:=lad) (us:=Ax.cells a1) K_ f_ rfl (fun v _ h=>by exact h.2.2.2.2.2.1.1) (Ax.cells_len _) (o_ Ax.cells_len ha1)) rfl ?_
  refine G_ av_ rfl fun b2=>?_
  refine c_ (aq_ rfl) rfl ?_
  refine n_ 0 f_ rfl rfl rfl rfl rfl rfl ?_
  refine ap_ ?_
  refine ab_ rfl ?_
  refine at_ ?_
  refine X_ ?_
  refine c_ (dq_ bo_ rfl rfl rfl U_) rfl ?_
  refine c_ (aO_ 0 aZ_ rfl rfl rfl) rfl ?_
  refine y_ (ay_ rfl rfl) rfl fun r3 hr3=>?_
  refine c_ (H_ rfl) rfl ?_
  cases r3
  ·replace hr3:=znb hr3
   refine az_ rfl rfl ?_
   refine c_ (dq_ bo_ rfl rfl rfl U_) rfl ?_
   refine az_ rfl rfl ?_
   refine c_ (aO_ 0 aZ_ rfl rfl rfl) rfl ?_
   refine az_ rfl rfl ?_
   refine y_ (ay_ rfl rfl) rfl fun r4 hr4=>?_
   refine c_ (dP_ rfl rfl) rfl ?_
   refine c_ (H_ rfl) rfl ?_
   cases r4
   ·replace hr4:=znb hr4
    refine az_ rfl rfl ?_
    refine c_ (dq_ bo_ rfl rfl rfl U_) rfl ?_
    refine az_ rfl rfl ?_
    refine c_ (aO_ 0 aZ_ rfl rfl rfl) rfl ?_
    refine az_ rfl rfl ?_
    refine y_ (ay_ rfl rfl) rfl fun r5 hr5=>?_
    refine c_ (dP_ rfl rfl) rfl ?_
    refine c_ (aq_ rfl) rfl ?_
    refine ap_ ?_
    refine ab_ rfl ?_
    refine at_ ?_
    cases r5
    ·replace hr5:=znb hr5
     by_cases hq9:(k:Int)∈q
     ·have hM:Mat ls p S (k:Int):=sQ_ hqd hq9
      refine eF_ (ι:={s':σ // lst s'=lst s++[(k:Int)]}) (fun _=>[(0,.func (.yield lq) #[] #[]),(1,zp_ bp 0),(3,zp_ bl 0),(7,.map (some b1)),(21,.int .i64 (List.length Uq:Int)),(22,.int .i64 (i:Int)),(35,.slice lad (List.length ls) lcap),(36,.int .i64 (List.length ls:Int)),(37,.int .i64 (k:Int)),(66,.bool false)]) (fun z=>((b2,.cells #[.int .i64 (Ax.kind a1),.bool (Ax.opn a1),.int .i64 (Con.kind (Ax.left a1)),str (Con.name (Ax.left a1)),.int .i64 (Con.lo (Ax.left a1)),.int .i64 (Con.hi (Ax.left a1)),.slice (Con.ad (Ax.left a1)) (List.length (Con.parts (Ax.left a1))) (Con.cap (Ax.left a1)),.int .i64 (Con.kind (Ax.right a1)),str (Con.name (Ax.right a1)),.int .i64 (Con.lo (Ax.right a1)),.int .i64 (Con.hi (Ax.right a1)),.slice (Con.ad (Ax.right a1)) (List.length (Con.parts (Ax.right a1))) (Con.cap (Ax.right a1)),.slice (Ax.ad a1) (List.length (Ax.roles a1)) (Ax.cap a1),str (Ax.role a1),str (Ax.a a1),str (Ax.b a1)] 48 (0,0))::((b1,.map es3 c3)::(Gj z.1)))) (fun _=>[bj_ bp (.cells #[.slice ad (List.length p) cap] 54 (0,0)),bj_ bs (.cells #[.slice sad (List.length S) scap] 23 (0,0)),bj_ bl (.cells #[.slice lad (List.length ls) lcap] 22 (0,0)),ac_ ad (List.flatMap Pc.cells p),ac_ sad (List.flatMap aJ_ S),aR_ lad ls,Fx,Fy]) ?_ ?_
      ·refine aM_ ?_
       refine Z_ J_ (H_ rfl) rfl rfl ?_
       refine Z_ J_ (H_ rfl) rfl rfl ?_
       refine bT_ J_ rfl rfl ?_
       refine Z_ J_ (H_ rfl) rfl rfl ?_
       refine bT_ J_ rfl rfl ?_
       refine Z_ J_ (H_ rfl) rfl rfl ?_
       refine bT_ J_ rfl rfl ?_
       refine lv_ J_ (gn_ (k:=(k:Int)) pm_ Tryz.runUnderlying134 fL_ rfl rfl hE3 (fun v h _=>(h.own _ (List.mem_of_getElem? (i:=1) rfl)).1)) rfl rfl fun r6 hr6=>?_
       refine Z_ J_ (dP_ rfl rfl) rfl rfl ?_
       refine Z_ J_ (H_ rfl) rfl rfl ?_
       cases r6
       ·replace hr6:=zdf hr6
        exact absurd hq9 hr6
       replace hr6:=zdt hr6
       refine bT_ J_ rfl rfl ?_
       refine Z_ J_ (H_ rfl) rfl rfl ?_
       refine bT_ J_ rfl rfl ?_
       refine Z_ J_ (H_ rfl) rfl rfl ?_
       refine bT_ J_ rfl rfl ?_
       refine dy_ (hY s (k:Int) ⟨by rw[hls];have:=fC_ (l:=ls) (p:=p) (S:=S) k;omega,by omega,by omega⟩) rfl rfl (l_ au_) zf rfl fun z=>?_
       refine bT_ J_ rfl rfl ?_
       refine Z_ J_ (aG_ rfl) rfl rfl ?_
       refine Z_ J_ (ck_ rfl rfl) rfl rfl ?_
       refine bz_ ?_
       refine ci_ rfl ?_
       exact cy_ z zl zp zh
      rintro ⟨s',hs'⟩
      dsimp only
      refine ab_ rfl ?_
      refine bx_ rfl ?_
      refine ch_ ?_
      refine ab_ rfl ?_
      refine X_ ?_
      refine c_ (as_ rfl rfl rfl (aV_ (by omega) (by omega))) rfl ?_
      refine c_ (H_ rfl) rfl ?_
      refine ap_ ?_
      refine bU_ rfl ?_
      exact z_ ⟨(k+1,s'),hla1,(by rw[fB_ hM,← hls];exact hs')⟩ (by dsimp only;omega) zl zp zh
     have hM:¬ Mat ls p S (k:Int):=uA_ hqd ha1 (by unfold fn_;omega) hq9
     refine X_ ?_
     refine c_ (H_ rfl) rfl ?_
     refine c_ (H_ rfl) rfl ?_
     refine az_ rfl rfl ?_
     refine c_ (H_ rfl) rfl ?_
     refine az_ rfl rfl ?_
     refine c_ (H_ rfl) rfl ?_
     refine az_ rfl rfl ?_
     refine y_ (gn_ (k:=(k:Int)) pm_ Tryz.runUnderlying134 fL_ rfl rfl hE3 (fun v h _=>(h.own _ (List.mem_of_getElem? (i:=1) rfl)).1)) rfl fun r7 hr7=>?_
     refine c_ (dP_ rfl rfl) rfl ?_
     refine c_ (H_ rfl) rfl ?_
     cases r7
     ·replace hr7:=zdf hr7
      refine ej_ rfl rfl rfl rfl ?_
      refine ej_ rfl rfl rfl rfl ?_
      refine ej_ rfl rfl rfl rfl ?_
      refine ej_ rfl rfl rfl rfl ?_
      refine c_ (dP_ rfl rfl) rfl ?_
      refine ap_ ?_
      refine ab_ rfl ?_
      refine bx_ rfl ?_
      refine ch_ ?_
      refine ab_ rfl ?_
      refine X_ ?_
      refine c_ (as_ rfl rfl rfl (aV_ (by omega) (by omega))) rfl ?_
      refine c_ (H_ rfl) rfl ?_
      refine ap_ ?_
      refine bU_ rfl ?_
      exact z_ ⟨(k+1,s),hla1,(by rw[qc_ hM];exact hls)⟩ (by dsimp only;omega) zl (V_ (l_ i_) au_) zh
     replace hr7:=zdt hr7
     exact absurd hr7 hq9
    replace hr5:=zeb hr5
    have hM:Mat ls p S (k:Int):=ia_ ha1 (by unfold fn_;omega)
    refine eF_ (ι:={s':σ // lst s'=lst s++[(k:Int)]}) (fun _=>[(0,.func (.yield lq) #[] #[]),(1,zp_ bp 0),(3,zp_ bl 0),(7,.map (some b1)),(21,.int .i64 (List.length Uq:Int)),(22,.int .i64 (i:Int)),(35,.slice lad (List.length ls) lcap),(36,.int .i64 (List.length ls:Int)),(37,.int .i64 (k:Int)),(66,.bool false)]) (fun z=>((b2,.cells #[.int .i64 (Ax.kind a1),.bool (Ax.opn a1),.int .i64 (Con.kind (Ax.left a1)),str (Con.name (Ax.left a1)),.int .i64 (Con.lo (Ax.left a1)),.int .i64 (Con.hi (Ax.left a1)),.slice (Con.ad (Ax.left a1)) (List.length (Con.parts (Ax.left a1))) (Con.cap (Ax.left a1)),.int .i64 (Con.kind (Ax.right a1)),str (Con.name (Ax.right a1)),.int .i64 (Con.lo (Ax.right a1)),.int .i64 (Con.hi (Ax.right a1)),.slice (Con.ad (Ax.right a1)) (List.length (Con.parts (Ax.right a1))) (Con.cap (Ax.right a1)),.slice (Ax.ad a1) (List.length (Ax.roles a1)) (Ax.cap a1),str (Ax.role a1),str (Ax.a a1),str (Ax.b a1)] 48 (0,0))::((b1,.map es3 c3)::(Gj z.1)))) (fun _=>[bj_ bp (.cells #[.slice ad (List.length p) cap] 54 (0,0)),bj_ bs (.cells #[.slice sad (List.length S) scap] 23 (0,0)),bj_ bl (.cells #[.slice lad (List.length ls) lcap] 22 (0,0)),ac_ ad (List.flatMap Pc.cells p),ac_ sad (List.flatMap aJ_ S),aR_ lad ls,Fx,Fy]) ?_ ?_
    ·refine aM_ ?_
     refine Z_ J_ (H_ rfl) rfl rfl ?_
     refine Z_ J_ (H_ rfl) rfl rfl ?_
     refine eT_ J_ rfl rfl rfl rfl ?_
     refine eT_ J_ rfl rfl rfl rfl ?_
     refine eT_ J_ rfl rfl rfl rfl ?_
     refine Z_ J_ (ck_ rfl rfl) rfl rfl ?_
     refine Z_ J_ (H_ rfl) rfl rfl ?_
     refine bT_ J_ rfl rfl ?_
     refine Z_ J_ (H_ rfl) rfl rfl ?_
     refine bT_ J_ rfl rfl ?_
     refine Z_ J_ (H_ rfl) rfl rfl ?_
     refine bT_ J_ rfl rfl ?_
     refine dy_ (hY s (k:Int) ⟨by rw[hls];have:=fC_ (l:=ls) (p:=p) (S:=S) k;omega,by omega,by omega⟩) rfl rfl (l_ au_) zf rfl fun z=>?_
     refine bT_ J_ rfl rfl ?_
     refine Z_ J_ (aG_ rfl) rfl rfl ?_
     refine Z_ J_ (ck_ rfl rfl) rfl rfl ?_
     refine bz_ ?_
     refine ci_ rfl ?_
     exact cy_ z zl zp zh
    rintro ⟨s',hs'⟩
    dsimp only
    refine ab_ rfl ?_
    refine bx_ rfl ?_
    refine ch_ ?_
    refine ab_ rfl ?_
    refine X_ ?_
    refine c_ (as_ rfl rfl rfl (aV_ (by omega) (by omega))) rfl ?_
    refine c_ (H_ rfl) rfl ?_
    refine ap_ ?_
    refine bU_ rfl ?_
    exact z_ ⟨(k+1,s'),hla1,(by rw[fB_ hM,← hls];exact hs')⟩ (by dsimp only;omega) zl zp zh
   replace hr4:=zeb hr4
   refine ej_ rfl rfl rfl rfl ?_
   refine ej_ rfl rfl rfl rfl ?_
   refine ej_ rfl rfl rfl rfl ?_
   refine c_ (ck_ rfl rfl) rfl ?_
   refine c_ (aq_ rfl) rfl ?_
   refine ap_ ?_
   refine ab_ rfl ?_
   refine at_ ?_
   have hM:Mat ls p S (k:Int):=ia_ ha1 (by unfold fn_;omega)
   refine eF_ (ι:={s':σ // lst s'=lst s++[(k:Int)]}) (fun _=>[(0,.func (.yield lq) #[] #[]),(1,zp_ bp 0),(3,zp_ bl 0),(7,.map (some b1)),(21,.int .i64 (List.length Uq:Int)),(22,.int .i64 (i:Int)),(35,.slice lad (List.length ls) lcap),(36,.int .i64 (List.length ls:Int)),(37,.int .i64 (k:Int)),(66,.bool false)]) (fun z=>((b2,.cells #[.int .i64 (Ax.kind a1),.bool (Ax.opn a1),.int .i64 (Con.kind (Ax.left a1)),str (Con.name (Ax.left a1)),.int .i64 (Con.lo (Ax.left a1)),.int .i64 (Con.hi (Ax.left a1)),.slice (Con.ad (Ax.left a1)) (List.length (Con.parts (Ax.left a1))) (Con.cap (Ax.left a1)),.int .i64 (Con.kind (Ax.right a1)),str (Con.name (Ax.right a1)),.int .i64 (Con.lo (Ax.right a1)),.int .i64 (Con.hi (Ax.right a1)),.slice (Con.ad (Ax.right a1)) (List.length (Con.parts (Ax.right a1))) (Con.cap (Ax.right a1)),.slice (Ax.ad a1) (List.length (Ax.roles a1)) (Ax.cap a1),str (Ax.role a1),str (Ax.a a1),str (Ax.b a1)] 48 (0,0))::((b1,.map es3 c3)::(Gj z.1)))) (fun _=>[bj_ bp (.cells #[.slice ad (List.length p) cap] 54 (0,0)),bj_ bs (.cells #[.slice sad (List.length S) scap] 23 (0,0)),bj_ bl (.cells #[.slice lad (List.length ls) lcap] 22 (0,0)),ac_ ad (List.flatMap Pc.cells p),ac_ sad (List.flatMap aJ_ S),aR_ lad ls,Fx,Fy]) ?_ ?_
   ·refine aM_ ?_
    refine Z_ J_ (H_ rfl) rfl rfl ?_
    refine Z_ J_ (H_ rfl) rfl rfl ?_
    refine eT_ J_ rfl rfl rfl rfl ?_
    refine eT_ J_ rfl rfl rfl rfl ?_
    refine eT_ J_ rfl rfl rfl rfl ?_
    refine Z_ J_ (ck_ rfl rfl) rfl rfl ?_
    refine Z_ J_ (H_ rfl) rfl rfl ?_
    refine bT_ J_ rfl rfl ?_
    refine Z_ J_ (H_ rfl) rfl rfl ?_
    refine bT_ J_ rfl rfl ?_
    refine Z_ J_ (H_ rfl) rfl rfl ?_
    refine bT_ J_ rfl rfl ?_
    refine dy_ (hY s (k:Int) ⟨by rw[hls];have:=fC_ (l:=ls) (p:=p) (S:=S) k;omega,by omega,by omega⟩) rfl rfl (l_ au_) zf rfl fun z=>?_
    refine bT_ J_ rfl rfl ?_
    refine Z_ J_ (aG_ rfl) rfl rfl ?_
    refine Z_ J_ (ck_ rfl rfl) rfl rfl ?_
    refine bz_ ?_
    refine ci_ rfl ?_
    exact cy_ z zl zp zh
   rintro ⟨s',hs'⟩
   dsimp only
   refine ab_ rfl ?_
   refine bx_ rfl ?_
   refine ch_ ?_
   refine ab_ rfl ?_
   refine X_ ?_
   refine c_ (as_ rfl rfl rfl (aV_ (by omega) (by omega))) rfl ?_
   refine c_ (H_ rfl) rfl ?_
   refine ap_ ?_
   refine bU_ rfl ?_
   exact z_ ⟨(k+1,s'),hla1,(by rw[fB_ hM,← hls];exact hs')⟩ (by dsimp only;omega) zl zp zh
  replace hr3:=zeb hr3
  refine ej_ rfl rfl rfl rfl ?_
  refine ej_ rfl rfl rfl rfl ?_
  refine ej_ rfl rfl rfl rfl ?_
  refine c_ (ck_ rfl rfl) rfl ?_
  refine c_ (H_ rfl) rfl ?_
  refine ej_ rfl rfl rfl rfl ?_
  refine ej_ rfl rfl rfl rfl ?_
  refine ej_ rfl rfl rfl rfl ?_
  refine c_ (ck_ rfl rfl) rfl ?_
  refine c_ (aq_ rfl) rfl ?_
  refine ap_ ?_
  refine ab_ rfl ?_
  refine at_ ?_
  have hM:Mat ls p S (k:Int):=ia_ ha1 (by unfold fn_;omega)
  refine eF_ (ι:={s':σ // lst s'=lst s++[(k:Int)]}) (fun _=>[(0,.func (.yield lq) #[] #[]),(1,zp_ bp 0),(3,zp_ bl 0),(7,.map (some b1)),(21,.int .i64 (List.length Uq:Int)),(22,.int .i64 (i:Int)),(35,.slice lad (List.length ls) lcap),(36,.int .i64 (List.length ls:Int)),(37,.int .i64 (k:Int)),(66,.bool false)]) (fun z=>((b2,.cells #[.int .i64 (Ax.kind a1),.bool (Ax.opn a1),.int .i64 (Con.kind (Ax.left a1)),str (Con.name (Ax.left a1)),.int .i64 (Con.lo (Ax.left a1)),.int .i64 (Con.hi (Ax.left a1)),.slice (Con.ad (Ax.left a1)) (List.length (Con.parts (Ax.left a1))) (Con.cap (Ax.left a1)),.int .i64 (Con.kind (Ax.right a1)),str (Con.name (Ax.right a1)),.int .i64 (Con.lo (Ax.right a1)),.int .i64 (Con.hi (Ax.right a1)),.slice (Con.ad (Ax.right a1)) (List.length (Con.parts (Ax.right a1))) (Con.cap (Ax.right a1)),.slice (Ax.ad a1) (List.length (Ax.roles a1)) (Ax.cap a1),str (Ax.role a1),str (Ax.a a1),str (Ax.b a1)] 48 (0,0))::((b1,.map es3 c3)::(Gj z.1)))) (fun _=>[bj_ bp (.cells #[.slice ad (List.length p) cap] 54 (0,0)),bj_ bs (.cells #[.slice sad (List.length S) scap] 23 (0,0)),bj_ bl (.cells #[.slice lad (List.length ls) lcap] 22 (0,0)),ac_ ad (List.flatMap Pc.cells p),ac_ sad (List.flatMap aJ_ S),aR_ lad ls,Fx,Fy]) ?_ ?_
  ·refine aM_ ?_
   refine Z_ J_ (H_ rfl) rfl rfl ?_
   refine Z_ J_ (H_ rfl) rfl rfl ?_
   refine eT_ J_ rfl rfl rfl rfl ?_
   refine eT_ J_ rfl rfl rfl rfl ?_
   refine eT_ J_ rfl rfl rfl rfl ?_
   refine Z_ J_ (ck_ rfl rfl) rfl rfl ?_
   refine Z_ J_ (H_ rfl) rfl rfl ?_
   refine bT_ J_ rfl rfl ?_
   refine Z_ J_ (H_ rfl) rfl rfl ?_
   refine bT_ J_ rfl rfl ?_
   refine Z_ J_ (H_ rfl) rfl rfl ?_
   refine bT_ J_ rfl rfl ?_
   refine dy_ (hY s (k:Int) ⟨by rw[hls];have:=fC_ (l:=ls) (p:=p) (S:=S) k;omega,by omega,by omega⟩) rfl rfl (l_ au_) zf rfl fun z=>?_
   refine bT_ J_ rfl rfl ?_
   refine Z_ J_ (aG_ rfl) rfl rfl ?_
   refine Z_ J_ (ck_ rfl rfl) rfl rfl ?_
   refine bz_ ?_
   refine ci_ rfl ?_
   exact cy_ z zl zp zh
  rintro ⟨s',hs'⟩
  dsimp only
  refine ab_ rfl ?_
  refine bx_ rfl ?_
  refine ch_ ?_
  refine ab_ rfl ?_
  refine X_ ?_
  refine c_ (as_ rfl rfl rfl (aV_ (by omega) (by omega))) rfl ?_
  refine c_ (H_ rfl) rfl ?_
  refine ap_ ?_
  refine bU_ rfl ?_
  exact z_ ⟨(k+1,s'),hla1,(by rw[fB_ hM,← hls];exact hs')⟩ (by dsimp only;omega) zl zp zh
 replace hr1:=zdt hr1
 have hlw1:i<List.length Uq:=by omega
 obtain⟨w1,hw1⟩:∃ e0,Uq[i]? = some e0:=⟨_,List.getElem?_eq_getElem hlw1⟩
 have hmw1:w1∈Uq:=List.mem_of_getElem? hw1
 have hlx1:i<List.length p:=by have:=hRR.ul;omega
 obtain⟨x1,hx1⟩:∃ e0,p[i]? = some e0:=⟨_,List.getElem?_eq_getElem hlx1⟩
 have hmx1:x1∈p:=List.mem_of_getElem? hx1
 refine dh_ rfl ?_
 refine ch_ ?_
 refine ab_ rfl ?_
 refine at_ ?_
 refine dr_ ?_
 refine at_ ?_
 refine X_ ?_
 refine c_ (H_ rfl) rfl ?_
 refine c_ (bv_ hrU Tryz.runUnderlying79 cj_ rfl rfl (by omega) (by omega)) rfl ?_
 refine c_ (dg_ hrU zp tj_ rfl (o_ lW_ hw1 0 _ rfl)) rfl ?_
 refine c_ (aq_ rfl) rfl ?_
 refine c_ (aq_ rfl) rfl ?_
 refine ap_ ?_
 refine ab_ rfl ?_
 refine at_ ?_
 refine X_ ?_
 refine c_ (H_ rfl) rfl ?_
 refine ap_ ?_
 refine ab_ rfl ?_
 cases w1
 ·refine bx_ rfl ?_
  refine ch_ ?_
  refine ab_ rfl ?_
  refine X_ ?_
  refine c_ (as_ rfl rfl rfl (aV_ (by omega) (by omega))) rfl ?_
  refine c_ (H_ rfl) rfl ?_
  refine ap_ ?_
  refine bU_ rfl ?_
  exact z_ ⟨(i+1,es3,c3,q),hlw1,hE3,hq.miss hw1⟩ (by dsimp only;omega) zl zp zh
 refine dh_ rfl ?_
 refine X_ ?_
 refine c_ (H_ rfl) rfl ?_
 refine c_ (bN_ po_ rfl zf rfl) rfl ?_
 refine c_ (H_ rfl) rfl ?_
 refine c_ (C_ x_ aw_ rfl rfl (fun v _ h=>q_ (n:=10) Pc.cells_len (by decide) (by exact h.2.2.2.1) hx1) (by omega) (by first|omega|(simp;done))) rfl ?_
 refine c_ (hm_ bS_ rfl rfl rfl U_) rfl ?_
 refine c_ (bt_ (ad:=ad) aZ_ rfl zf (o_ Pc.cells_len hx1 9 _ rfl)) rfl ?_
 refine sN_ (k:=x1.frm) 0 pm_ (.inr rfl) Tryz.runUnderlying134 rfl rfl rfl rfl hE3 fun ej1 cj1 hj1=>?_
 refine ap_ ?_
 refine ab_ rfl ?_
 refine X_ ?_
 refine c_ (as_ rfl rfl rfl (aV_ (by omega) (by omega))) rfl ?_
 refine c_ (H_ rfl) rfl ?_
 refine ap_ ?_
 refine bU_ rfl ?_
 exact z_ ⟨(i+1,ej1,cj1,(if x1.frm∈q then q else q++[x1.frm])),hlw1,hj1,hq.hit hx1 hw1⟩ (by dsimp only;omega) zl zp zh
end Go.Proofs.YtamklbgaipakfaaGreatDoor
namespace Go.Proofs.YtamklbgaipakfaaGreatDoor
open Go Go.Sx Go.Proofs
attribute [local irreducible] Code.wp wpList wpAnyH
open Go.Vs
theorem pX_ {c d e:Nat×Obj} {Q:Hp}:(c::(Q++[d,e])).Perm (e::c::(Q++[d])):=by
  have h1:(c::(Q++[d,e]))=(c::(Q++[d]))++[e]:=by simp
  rw[h1];exact List.perm_append_comm
theorem vc_ {c d:Nat×Obj} {Q:Hp}:(c::(Q++[d])).Perm (Q++[c,d]):=by
  have h1:Q++[c,d]=(Q++[c])++[d]:=by simp
  rw[h1]
  exact List.Perm.append_right _ (show ([c]++Q).Perm _ from List.perm_append_comm)
theorem mj_ {H A B C G:Hp} {b:Nat×Obj} (h:H.Perm ((b::(A++(B++C)))++G)):H.Perm ((b::A)++B++(C++G)):=by simpa [List.append_assoc] using h
def dE_ (S:List Str):Bool:=decide (S.length≤16384)&&S.all bX_
def hu_ (l:List Ax) (p:List Pc) (er:Int) (S:List Str):List Int×Int:=if er≠0 then ([],er) else if dE_ S=false then ([],1) else (di_ l p S l.length,0)
theorem rT_ (ls:List Ax) (lad:Option Addr) (lcap:Nat) (p:List Pc) (ad:Option Addr) (cap:Nat) (S:List Str) (sad:Option Addr) (scap:Nat) (bp bs bl:Nat) (hp:p.length≤100000000) (hS:S.length≤100000000) (hll:ls.length≤100000000):Tri Tryz.prog 79 #[.slice none 0 0,.func (.func 80) #[] #[zp_ bp 0,zp_ bs 0,zp_ bl 0]] [] [bj_ bp (.cells #[.slice ad (List.length p) cap] 54 (0,0)),bj_ bs (.cells #[.slice sad (List.length S) scap] 23 (0,0)),bj_ bl (.cells #[.slice lad (List.length ls) lcap] 22 (0,0)),ac_ ad (List.flatMap Pc.cells p),ac_ sad (List.flatMap aJ_ S),aR_ lad ls] (fun y:{y:Value×Hp×List Int // ar_ 3 1 y.1 y.2.2.length (y.2.2.flatMap ct_) y.2.1∧y.2.2=(di_ ls p S (List.length ls))}=>y.1.1) (fun y=>y.1.2.1) (fun _=>[]):=by
 refine ec_ Tryz.func79 rfl rfl Tryz.ntmps79 rfl fun v0=>?_
 refine Zz 2 ?_
 refine N_ rfl rfl fun b1=>Zz 10 ?_
 refine bp_ [(2,zp_ b1 0),(6,.func (.func 80) #[] #[zp_ bp 0,zp_ bs 0,zp_ bl 0])] zl ?_
 refine gx_ [bj_ bp (.cells #[.slice ad (List.length p) cap] 54 (0,0)),bj_ bs (.cells #[.slice sad (List.length S) scap] 23 (0,0))] (σ:={y:Value×Hp×List Int // ar_ 3 1 y.1 y.2.2.length (y.2.2.flatMap ct_) y.2.1}) (α:=Int) (xv:=fun x=>.int .i64 x) (good:=fun s x=>s.1.2.2.length<100000000∧0≤x∧x<(List.length ls:Int)) (nx:=fun x s s'=>s'.1.2.2=s.1.2.2++[x]) (Rc:=fun s=>s.1.2.2=(di_ ls p S (List.length ls))) (Γi:=[bj_ bp (.cells #[.slice ad (List.length p) cap] 54 (0,0)),bj_ bs (.cells #[.slice sad (List.length S) scap] 23 (0,0)),bj_ bl (.cells #[.slice lad (List.length ls) lcap] 22 (0,0)),ac_ ad (List.flatMap Pc.cells p),ac_ sad (List.flatMap aJ_ S),aR_ lad ls,bj_ bp (.cells #[.slice ad (List.length p) cap] 54 (0,0)),bj_ bs (.cells #[.slice sad (List.length S) scap] 23 (0,0))]) (Hj:=fun y=>(b1,.cells #[y.1.1] 27 (0,0))::y.1.2.1) (Hc:=[]) (caps:=[zp_ bp 0,zp_ bs 0,zp_ bl 0]) ⟨(.slice none 0 0,[],[]),ar_.nil _ _⟩ rfl (.refl _) zf ?_ ?_ ?_
 ·rintro l D rec hpa hst hpe ht hasg hbody ⟨⟨sv,Hq,L⟩,hr⟩ x ⟨hx1,hx2,hx3⟩
  dsimp only at hr hx1 ⊢
  refine gm_ (ι:=Unit) (Hj:=fun y:{y:Value×Hp×List Int // ar_ 3 1 y.1 y.2.2.length (y.2.2.flatMap ct_) y.2.1}=>(b1,.cells #[y.1.1] 27 (0,0))::y.1.2.1) (s:=⟨(sv,Hq,L),hr⟩) (ok:=fun s'=>s'.1.2.2=L++[x]) (Γ:=[bj_ bp (.cells #[.slice ad (List.length p) cap] 54 (0,0)),bj_ bs (.cells #[.slice sad (List.length S) scap] 23 (0,0))]) (fun _=>[(2,zp_ b1 0),(5,.int .i64 x)]) (fun _=>(b1,.cells #[sv] 27 (0,0))::Hq) hpa hst hpe ht rfl ?_ ?_
  ·intro n v0 H0 HL
   rw[hasg]
   dsimp only
   refine cT_.2 (u_ (H':=(b1,.cells #[sv] 27 (0,0))::(Hq++HL)) (by simp) (cT_.1 ?_))
   refine aM_ ?_
   refine Z_ (bc_ _) (aq_ rfl) rfl rfl ?_
   refine bz_ ?_
   refine ci_ rfl ?_
   exact cy_ () zl (F:=[]) (by rw[List.append_nil];exact .refl _) zh
  intro n v0 H0 HL _
  rw[hbody]
  refine cT_.2 (u_ (H':=(b1,.cells #[sv] 27 (0,0))::(Hq++HL)) (by simp) (cT_.1 ?_))
  refine fb_ ?_
  refine aM_ ?_
  refine Z_ (bc_ _) (aO_ 0 Tryz.isAgg27 rfl rfl rfl) rfl rfl ?_
  refine Z_ (bc_ _) (H_ rfl) rfl rfl ?_
  refine lw_ (bc_ _) I_ U_ aU_ rfl rfl rfl rfl rfl rfl fun b3=>?_
  refine ja_ (bc_ _) (news:=List.flatMap ct_ [x]) jA_ hr rfl rfl zp rfl (bC_ 0 rfl) (fun u hu=>bY_ if_ hu) (by simp only[maxLen];omega) (by omega) rfl fun sv1 Hr1 hr1=>?_
  have hq1:=zsa hr1
  refine nR_ (bm_ (an_ i_) (bO_ (an_ i_))) ?_
  refine hg_ (bc_ _) 1 hq1 Tryz.sizeOf27 rfl rfl rfl rfl ?_
  refine bz_ ?_
  refine ci_ rfl ?_
  exact fS_ ⟨(sv1,Hr1,(L++[x])),hq1⟩ rfl (mj_ (V_ (l_ i_) (bi_ (l_ aI_) (bi_ au_ i_))))
 ·intro l Gj hY
  exact sS_ (lst:=fun y=>y.1.2.2) ls lad lcap p ad cap S sad scap bp bs bl (bj_ bp (.cells #[.slice ad (List.length p) cap] 54 (0,0))) (bj_ bs (.cells #[.slice sad (List.length S) scap] 23 (0,0))) (fun s x h=>hY s x h) ⟨(.slice none 0 0,[],[]),ar_.nil _ _⟩ rfl hp hS hll
 rintro ⟨⟨sv,Hq,L⟩,hr⟩ hL D l r
 dsimp only at hL hr ⊢
 refine cz_ rfl ?_
 refine eG_ ?_
 refine aM_ ?_
 refine Z_ J_ (aO_ 0 Tryz.isAgg27 rfl rfl rfl) rfl rfl ?_
 refine Z_ J_ (aq_ rfl) rfl rfl ?_
 refine bz_ ?_
 refine cz_ rfl ?_
 refine fz_ ?_
 exact ln_ (G:=(b1,.cells #[sv] 27 (0,0))::(Hq++[(l,.loop r)])) ⟨(sv,Hq,L),hr,hL⟩ (fun a v h1 h2=>by have e:=h1.val 4 sv rfl;simp[results,Tryz.results79,e]) (by unfold HLp;simp only[List.cons_append,List.append_assoc,List.nil_append];exact pX_) ⟨_,vc_⟩ rfl
theorem pw_ (ls:List Ax) (lad:Option Addr) (lcap:Nat) (p:List Pc) (ad:Option Addr) (cap:Nat) (S:List Str) (sad:Option Addr) (scap:Nat) (bp bs bl:Nat) (hp:p.length≤100000000) (hS:S.length≤100000000) (hll:ls.length≤100000000):Tri Tryz.prog 37 #[.func (.func 80) #[] #[zp_ bp 0,zp_ bs 0,zp_ bl 0]] [] [bj_ bp (.cells #[.slice ad (List.length p) cap] 54 (0,0)),bj_ bs (.cells #[.slice sad (List.length S) scap] 23 (0,0)),bj_ bl (.cells #[.slice lad (List.length ls) lcap] 22 (0,0)),ac_ ad (List.flatMap Pc.cells p),ac_ sad (List.flatMap aJ_ S),aR_ lad ls] (fun y:{y:Option Addr×Nat // ((di_ ls p S (List.length ls))).length≤y.2∧y.2≤maxLen∧(y.1=none→y.2=0)}=>.slice y.1.1 ((di_ ls p S (List.length ls))).length y.1.2) (fun _=>[]) (fun y=>[ac_ y.1.1 (((di_ ls p S (List.length ls))).flatMap ct_)]):=by
  refine j_ Tryz.func37 rfl rfl Tryz.ntmps37 rfl fun v0=>?_
  refine Zz 8 ?_
  refine d_ (rT_ ls lad lcap p ad cap S sad scap bp bs bl hp hS hll) rfl e_ zf rfl fun⟨⟨sv1,Hq1,L1⟩,hr1,hL1⟩=>?_
  dsimp only
  dsimp only at hr1 hL1 ⊢
  subst hL1
  simp only[List.append_nil]
  refine Zz 4 ?_
  refine bu_ hr1 am_ fun ad2 cp2 had2 hcad2 hmad2 hzad2=>?_
  exact E_ Tryz.results37 ⟨(ad2,cp2),hcad2,hmad2,hzad2⟩ (bI_ rfl had2) e_ zf
theorem ni_ (s:Str) (hs:s.length≤17592186044414):Fn0 Tryz.prog 78 #[str s] (.bool (bX_ s)):=by
 refine j_ Tryz.func78 rfl rfl Tryz.ntmps78 rfl fun v0=>?_
 refine Zz 8 ?_
 refine c_ (dk_ aj_ rfl) rfl (Zi 8 (fun hr1=>?_) fun hr1=>?_)
 ·refine Zi 4 (fun hr2=>?_) fun hr2=>?_
  ·refine Zi 8 (fun hr3=>?_) fun hr3=>?_
   ·refine Zi 19 (fun hr4=>?_) fun hr4=>?_
    ·refine Zz 21 ?_
     refine d_ (cv_ _ (by first|omega|(simp;omega))) rfl e_ zt rfl fun _=>?_
     refine y_ (aA_ (ay_ rfl rfl) (congrArg Value.bool (iX_ _))) rfl fun r5 hr5=>Zz 4 ?_
     exact E_ cA_ () (m_ rfl (by unfold bX_;(repeat (any_goals split))<;>first|rfl|(simp_all;done)|(exfalso;simp_all;omega)|(exfalso;simp_all;done))) (.refl _) zt
    exfalso;omega
   obtain⟨c,hc⟩:∃ c,s[0]? = some c:=⟨_,List.getElem?_eq_getElem (by omega)⟩
   obtain⟨e,he⟩:∃ e,s[s.length - 1]? = some e:=⟨_,List.getElem?_eq_getElem (by omega)⟩
   have hc123 : (s[0]? = some 123) ↔ ((c.toNat : Int) = 123) := by
                               rw[hc];simp only[Option.some.injEq];exact⟨fun q=>by subst q;rfl,fun q=>UInt8.toNat_inj.1 (by show c.toNat=123;omega)⟩
   have he125 : (s[s.length - 1]? = some 125) ↔ ((e.toNat : Int) = 125) := by
                               rw[he];simp only[Option.some.injEq];exact⟨fun q=>by subst q;rfl,fun q=>UInt8.toNat_inj.1 (by show e.toNat=125;omega)⟩
   have hc60 : (s[0]? = some 60) ↔ ((c.toNat : Int) = 60) := by
                               rw[hc];simp only[Option.some.injEq];exact⟨fun q=>by subst q;rfl,fun q=>UInt8.toNat_inj.1 (by show c.toNat=60;omega)⟩
   have he62 : (s[s.length - 1]? = some 62) ↔ ((e.toNat : Int) = 62) := by
                               rw[he];simp only[Option.some.injEq];exact⟨fun q=>by subst q;rfl,fun q=>UInt8.toNat_inj.1 (by show e.toNat=62;omega)⟩
   refine Zz 4 ?_
   refine c_ (dv_ aj_ rfl rfl (by decide) hc) rfl (az_ rfl rfl ?_)
   refine Zi 0 (fun hr6=>?_) fun hr6=>?_
   ·refine Zi 15 (fun hr7=>?_) fun hr7=>?_
    ·refine Zz 21 ?_
     refine d_ (cv_ _ (by first|omega|(simp;omega))) rfl e_ zt rfl fun _=>?_
     refine y_ (aA_ (ay_ rfl rfl) (congrArg Value.bool (iX_ _))) rfl fun r8 hr8=>Zz 4 ?_
     exact E_ cA_ () (m_ rfl (by unfold bX_;(repeat (any_goals split))<;>first|rfl|(simp_all;done)|(exfalso;simp_all;omega)|(exfalso;simp_all;done))) (.refl _) zt
    refine Zz 4 ?_
    refine c_ (dv_ aj_ rfl rfl (by decide) hc) rfl (az_ rfl rfl ?_)
    refine Zi 0 (fun hr9=>?_) fun hr9=>?_
    ·refine Zz 17 ?_
     refine d_ (cv_ _ (by first|omega|(simp;omega))) rfl e_ zt rfl fun _=>?_
     refine y_ (aA_ (ay_ rfl rfl) (congrArg Value.bool (iX_ _))) rfl fun r10 hr10=>Zz 4 ?_
     exact E_ cA_ () (m_ rfl (by unfold bX_;(repeat (any_goals split))<;>first|rfl|(simp_all;done)|(exfalso;simp_all;omega)|(exfalso;simp_all;done))) (.refl _) zt
    refine Zz 9 ?_
    refine c_ (dv_ aj_ rfl rfl (by omega) (show s[((s.length:Int) - 1).toNat]? = some e by rw[show ((s.length:Int) - 1).toNat=s.length - 1 by omega];exact he)) rfl ?_
    refine az_ rfl rfl ?_
    refine Zi 0 (fun hr11=>?_) fun hr11=>?_
    ·refine Zz 10 ?_
     refine d_ (cv_ _ (by first|omega|(simp;omega))) rfl e_ zt rfl fun _=>?_
     refine y_ (aA_ (ay_ rfl rfl) (congrArg Value.bool (iX_ _))) rfl fun r12 hr12=>Zz 4 ?_
     exact E_ cA_ () (m_ rfl (by unfold bX_;(repeat (any_goals split))<;>first|rfl|(simp_all;done)|(exfalso;simp_all;omega)|(exfalso;simp_all;done))) (.refl _) zt
    refine Zz 11 ?_
    exact E_ cA_ () (m_ rfl (by unfold bX_;(repeat (any_goals split))<;>first|rfl|(simp_all;done)|(exfalso;simp_all;omega)|(exfalso;simp_all;done))) (.refl _) zt
   refine Zz 9 ?_
   refine c_ (dv_ aj_ rfl rfl (by omega) (show s[((s.length:Int) - 1).toNat]? = some e by rw[show ((s.length:Int) - 1).toNat=s.length - 1 by omega];exact he)) rfl ?_
   refine az_ rfl rfl ?_
   refine Zi 0 (fun hr13=>?_) fun hr13=>?_
   ·refine Zi 8 (fun hr14=>?_) fun hr14=>?_
    ·refine Zz 21 ?_
     refine d_ (cv_ _ (by first|omega|(simp;omega))) rfl e_ zt rfl fun _=>?_
     refine y_ (aA_ (ay_ rfl rfl) (congrArg Value.bool (iX_ _))) rfl fun r15 hr15=>Zz 4 ?_
     exact E_ cA_ () (m_ rfl (by unfold bX_;(repeat (any_goals split))<;>first|rfl|(simp_all;done)|(exfalso;simp_all;omega)|(exfalso;simp_all;done))) (.refl _) zt
    refine Zz 4 ?_
    refine c_ (dv_ aj_ rfl rfl (by decide) hc) rfl (az_ rfl rfl ?_)
    refine Zi 0 (fun hr16=>?_) fun hr16=>?_
    ·refine Zz 17 ?_
     refine d_ (cv_ _ (by first|omega|(simp;omega))) rfl e_ zt rfl fun _=>?_
     refine y_ (aA_ (ay_ rfl rfl) (congrArg Value.bool (iX_ _))) rfl fun r17 hr17=>Zz 4 ?_
     exact E_ cA_ () (m_ rfl (by unfold bX_;(repeat (any_goals split))<;>first|rfl|(simp_all;done)|(exfalso;simp_all;omega)|(exfalso;simp_all;done))) (.refl _) zt
    refine Zz 9 ?_
    refine c_ (dv_ aj_ rfl rfl (by omega) (show s[((s.length:Int) - 1).toNat]? = some e by rw[show ((s.length:Int) - 1).toNat=s.length - 1 by omega];exact he)) rfl ?_
    refine az_ rfl rfl ?_
    refine Zi 0 (fun hr18=>?_) fun hr18=>?_
    ·refine Zz 10 ?_
     refine d_ (cv_ _ (by first|omega|(simp;omega))) rfl e_ zt rfl fun _=>?_
     refine y_ (aA_ (ay_ rfl rfl) (congrArg Value.bool (iX_ _))) rfl fun r19 hr19=>Zz 4 ?_
     exact E_ cA_ () (m_ rfl (by unfold bX_;(repeat (any_goals split))<;>first|rfl|(simp_all;done)|(exfalso;simp_all;omega)|(exfalso;simp_all;done))) (.refl _) zt
    refine Zz 11 ?_
    exact E_ cA_ () (m_ rfl (by unfold bX_;(repeat (any_goals split))<;>first|rfl|(simp_all;done)|(exfalso;simp_all;omega)|(exfalso;simp_all;done))) (.refl _) zt
   refine Zz 10 ?_
   refine c_ (hk_ (i:=1) (j:=s.length - 1) (kl:=.i64) (kh:=.i64) aj_ rfl rfl (show _=some (Value.int .i64 ((s.length - 1:Nat):Int)) by rw[show ((s.length - 1:Nat):Int)=(s.length:Int) - 1 by omega];rfl) (by omega) (by omega)) rfl ?_
   refine d_ (cv_ _ (by first|omega|(simp;omega))) rfl e_ zt rfl fun _=>?_
   refine y_ (aA_ (ay_ rfl rfl) (congrArg Value.bool (iX_ _))) rfl fun r20 hr20=>Zz 4 ?_
   exact E_ cA_ () (m_ rfl (by unfold bX_;(repeat (any_goals split))<;>first|rfl|(simp_all;done)|(exfalso;simp_all;omega)|(exfalso;simp_all;done))) (.refl _) zt
  refine Zz 11 ?_
  exact E_ cA_ () (m_ rfl (by unfold bX_;(repeat (any_goals split))<;>first|rfl|(simp_all;done)|(exfalso;simp_all;omega)|(exfalso;simp_all;done))) (.refl _) zt
 refine Zz 14 ?_
 exact E_ cA_ () (m_ rfl (by unfold bX_;(repeat (any_goals split))<;>first|rfl|(simp_all;done)|(exfalso;simp_all;omega)|(exfalso;simp_all;done))) (.refl _) zt
theorem pJ_ (S:List Str) (sad:Option Addr) (scap:Nat) (hSl:∀ s∈S,s.length≤100000):Tri Tryz.prog 36 #[.slice sad (List.length S) scap] [] [ac_ sad (List.flatMap aJ_ S)] (fun _:Unit=>.bool (dE_ S)) (fun _=>[]) (fun _=>[]):=by
 refine j_ Tryz.func36 rfl rfl Tryz.ntmps36 rfl fun v0=>?_
 refine Zi 10 (fun hr1=>?_) fun hr1=>?_
 ·refine Zz 14 ?_
  refine Y_ (ι:={y:Nat // y≤List.length S∧iU_ S y (fun _ s=>bX_ s=true)}) (fun y=>[(2,.bool false),(8,.slice sad (List.length S) scap),(9,.int .i64 (List.length S:Int)),(10,.int .i64 (y.1:Int))]) (fun y=>([])) (fun y=>[ac_ sad (List.flatMap aJ_ S)]) (fun y=>List.length S - y.1) ⟨(0:Nat),by simp,iU_.zero⟩ zl e_ zh ?_
  rintro ⟨i,hi_i,hva⟩
  dsimp only at hi_i hva ⊢
  refine Zi 2 (fun hr2=>?_) fun hr2=>?_
  ·refine Zz 12 ?_
   exact E_ Tryz.results36 () (m_ rfl (by unfold dE_;rw[List.all_eq_true.2 (hva.all (by omega))];simp;omega)) e_ zt
  have hls1:i<List.length S:=by omega
  obtain⟨s1,hs1⟩:∃ e0,S[i]? = some e0:=⟨_,List.getElem?_eq_getElem hls1⟩
  have hms1:s1∈S:=List.mem_of_getElem? hs1
  refine Zz 18 ?_
  refine af_ (ni_ s1 (by have:=hSl _ hms1;omega)) rfl e_ zt rfl fun r3 hr3=>?_
  refine c_ (aG_ rfl) rfl (Zz 2 ?_)
  cases r3
  ·refine Zz 7 ?_
   exact E_ Tryz.results36 () (m_ rfl (by unfold dE_;symm;rw[Bool.and_eq_false_iff];right;rw[List.all_eq_false];exact⟨s1,hms1,by simpa using hr3⟩)) e_ zt
  refine Zz 8 ?_
  exact z_ ⟨i+1,hls1,hva.step hs1 hr3⟩ (by dsimp only;omega) zl e_ zh
 refine Zz 9 ?_
 exact E_ Tryz.results36 () (m_ rfl (by unfold dE_;symm;rw[Bool.and_eq_false_iff];left;rw[decide_eq_false_iff_not];omega)) e_ zt
end Go.Proofs.YtamklbgaipakfaaGreatDoor
namespace Go.Vs
open Go Go.Sx Go.Proofs.YtamklbgaipakfaaGreatDoor
def kP_ (p:List Pc) (er:Int) (v:Bool) (S X:List Str) (e:Int):Prop :=
  (er≠0∧X=[]∧e=er)∨(er=0∧v=false∧X=[]∧e=1)∨(er=0∧v=true∧e=0∧SrS X∧∀ n,n∈X↔Rch p S ⟨1,n⟩)
theorem mg_:∀ {l m:List Str},SrS l→SrS m→(∀ x,x∈l↔x∈m)→l=m
 | [],[],_,_,_=>rfl
 | [],y::m,_,_,h=>absurd ((h y).2 List.mem_cons_self) (by simp)
 | x::l,[],_,_,h=>absurd ((h x).1 List.mem_cons_self) (by simp)
 | x::l,y::m,h1,h2,h=>by
   unfold SrS at h1 h2
   rw[List.pairwise_cons]at h1 h2
   have e:x=y:=by
     rcases List.mem_cons.1 ((h x).1 List.mem_cons_self) with e|e
     · exact e
     · rcases List.mem_cons.1 ((h y).2 List.mem_cons_self) with e2|e2
       · exact e2.symm
       · exact absurd (List.lt_trans (h2.1 x e) (h1.1 y e2)) (fw_ _)
   subst e
   rw[mg_ h1.2 h2.2 fun z=>?_]
   constructor
   · intro hz
     rcases List.mem_cons.1 ((h z).1 (List.mem_cons_of_mem _ hz)) with e|e
     · subst e;exact absurd (h1.1 _ hz) (fw_ _)
     · exact e
   · intro hz
     rcases List.mem_cons.1 ((h z).2 (List.mem_cons_of_mem _ hz)) with e|e
     · subst e;exact absurd (h2.1 _ hz) (fw_ _)
     · exact e
theorem kP_.uniq {p:List Pc} {er:Int} {v:Bool} {S X Y:List Str} {e f:Int} (h:kP_ p er v S X e) (g:kP_ p er v S Y f):X=Y∧e=f:=by
 rcases h with⟨h1,h2,h3⟩|⟨h1,h2,h3,h4⟩|⟨h1,h2,h3,h4,h5⟩<;>rcases g with⟨g1,g2,g3⟩|⟨g1,g2,g3,g4⟩|⟨g1,g2,g3,g4,g5⟩
 ·exact⟨h2.trans g2.symm,h3.trans g3.symm⟩
 ·exact absurd g1 h1
 ·exact absurd g1 h1
 ·exact absurd h1 g1
 ·exact⟨h3.trans g3.symm,h4.trans g4.symm⟩
 ·rw[h2]at g2;cases g2
 ·exact absurd h1 g1
 ·rw[h2]at g2;cases g2
 exact⟨mg_ h4 g4 fun n=>(h5 n).trans (g5 n).symm,h3.trans g3.symm⟩
abbrev bb_ (l:List Str):List Str:=l.mergeSort fun x y=>decide (x≤y)
end Go.Vs
namespace Go.Vs
open Go Go.Sx
inductive Tre where
  | mk (con:Con) (size:Int) (ad:Option Addr) (cap:Nat) (parts:List Tre)
namespace Tre
def con:Tre→Con|mk c _ _ _ _=>c
def size:Tre→Int|mk _ n _ _ _=>n
def ad:Tre→Option Addr|mk _ _ a _ _=>a
def cap:Tre→Nat|mk _ _ _ c _=>c
def parts:Tre→List Tre|mk _ _ _ _ p=>p
def cells (t:Tre):List Value:=t.con.cells++[.int .i64 t.size,.slice t.ad t.parts.length t.cap]
def val (t:Tre):Value:=.agg t.cells.toArray
theorem cells_len (t:Tre):t.cells.length=7:=rfl
theorem cells_one (t:Tre):t.cells.all Value.oneCell'=true:=by simp[cells,Con.cells,Value.oneCell',str]
def tz:Tre→Nat
  | mk _ _ _ _ ps=>1+tzs ps
where tzs:List Tre→Nat
  | []=>0
  | p::ps=>tz p+tzs ps
theorem tz_pos (t:Tre):0<t.tz:=by cases t;simp[tz];omega
theorem sf_ {p:Tre}:∀ {ps:List Tre},p∈ps→p.tz≤tz.tzs ps
 | q::ps,h=>by
   rcases List.mem_cons.1 h with rfl|h
   · simp[tz.tzs]
   · have:=sf_ h;simp[tz.tzs];omega
theorem tz_part {t p:Tre} (h:p∈t.parts):p.tz<t.tz:=by
  cases t with
  | mk c n a cp ps=>have:=sf_ (ps:=ps) h;simp only[tz];omega
def mem:Tre→Vw→Prop
  | mk c _ a _ ps,v=>c.mem v∧bA_ v a (ps.flatMap cells)∧mems ps v
where mems:List Tre→Vw→Prop
  | [],_=>True
  | p::ps,v=>mem p v∧mems ps v
theorem mems_iff {v:Vw}:∀ {ps:List Tre},mem.mems ps v↔∀ p∈ps,p.mem v
  | []=>by simp[mem.mems]
  | p::ps=>by simp[mem.mems,mems_iff (ps:=ps)]
theorem mem_iff (t:Tre) (v:Vw):t.mem v↔t.con.mem v∧bA_ v t.ad (t.parts.flatMap cells)∧∀ p∈t.parts,p.mem v:=by
  cases t with
  | mk c n a cp ps=>simp only[mem,mems_iff,con,ad,parts]
theorem mem_mono:∀ (n:Nat) (t:Tre),t.tz≤n→∀ v v',v.le v'→t.mem v→t.mem v'
  | 0,t,h=>by have:=t.tz_pos;omega
  | n+1,t,h=>fun v v' hl hm=>by
    rw[mem_iff]at hm ⊢
    exact⟨t.con.memF.mono v v' hl hm.1,(ac_ t.ad (t.parts.flatMap cells)).mono v v' hl hm.2.1,fun p hp=>mem_mono n p (by have:=tz_part hp;omega) v v' hl (hm.2.2 p hp)⟩
def memF (t:Tre):Fct:=⟨t.mem,mem_mono t.tz t (Nat.le_refl _)⟩
theorem mem_part {t p:Tre} {v:Vw} (h:t.memF.p v) (hp:p∈t.parts):p.memF.p v:=((mem_iff t v).1 h).2.2 p hp
def wf:Tre→Prop
  | mk c n _ _ ps=>n=(c.sz:Int)∧c.parts=cons ps∧wfs ps
where
  wfs:List Tre→Prop
  | []=>True
  | p::ps=>wf p∧wfs ps
  cons:List Tre→List Con
  | []=>[]
  | p::ps=>p.con::cons ps
theorem on_:∀ ps:List Tre,wf.cons ps=ps.map con
  | []=>rfl
  | p::ps=>by rw[wf.cons,on_ ps];rfl
theorem pH_:∀ {ps:List Tre},wf.wfs ps↔∀ p∈ps,p.wf
  | []=>by simp[wf.wfs]
  | p::ps=>by simp[wf.wfs,pH_ (ps:=ps)]
theorem wf_iff (t:Tre):t.wf↔t.size=(t.con.sz:Int)∧t.con.parts=t.parts.map con∧∀ p∈t.parts,p.wf:=by
  cases t with
  | mk c n a cp ps=>simp only[wf,pH_,on_,con,size,parts]
theorem wf_part {t p:Tre} (h:t.wf) (hp:p∈t.parts):p.wf∧p.con.sz<t.con.sz:=by
  obtain⟨_,h2,h3⟩:=(wf_iff t).1 h
  exact⟨h3 p hp,Con.sz_part (by rw[h2];exact List.mem_map_of_mem hp)⟩
end Tre
def cu_ (l:List Tre):Fct:=⟨fun v=>∀ t∈l,t.mem v,fun v v' hl h t ht=>t.memF.mono v v' hl (h t ht)⟩
theorem hq_ {l:List Tre} {t:Tre} {v:Vw} (h:(cu_ l).p v) (ht:t.memF.p v):(cu_ (l++[t])).p v:=fun x hx=>by
 rcases List.mem_append.1 hx with hx|hx
 ·exact h x hx
 rw[List.mem_singleton]at hx;subst hx;exact ht
theorem szs_step {l:List Con} {i:Nat} {x:Con} (h:l[i]? = some x):Con.sz.szs (l.take (i+1))=Con.sz.szs (l.take i)+x.sz:=by
  have key:∀ (a b:List Con),Con.sz.szs (a++b)=Con.sz.szs a+Con.sz.szs b:=fun a b=>by
    induction a with
    | nil=>simp[Con.sz.szs]
    | cons c a ih=>simp[Con.sz.szs,ih];omega
  rw[List.take_add_one,h,Option.toList_some,key]
  simp[Con.sz.szs]
theorem szs_take_le {l:List Con} (i:Nat):Con.sz.szs (l.take i)≤Con.sz.szs l:=by
  induction l generalizing i with
  | nil=>simp
  | cons c l ih =>
    cases i with
    | zero=>simp[Con.sz.szs]
    | succ i=>have:=ih i;simp[Con.sz.szs];omega
theorem szs_len:∀ l:List Con,l.length≤Con.sz.szs l
  | []=>Nat.le_refl _
  | c::l=>by have:=szs_len l;have:=c.sz_pos;simp only[List.length_cons,Con.sz.szs];omega
theorem Con.parts_lt (c:Con):c.parts.length<c.sz:=by have:=szs_len c.parts;rw[Con.sz_eq];omega
theorem mP_ {a b:List Con} {i:Nat} {x y:Con} (hx:a[i]? = some x) (hy:b[i]? = some y):Con.cmp.cmps (a.drop i) (b.drop i)=if Con.cmp x y=0 then Con.cmp.cmps (a.drop (i+1)) (b.drop (i+1)) else Con.cmp x y:=by
  obtain⟨h1,e1⟩:=List.getElem?_eq_some_iff.1 hx
  obtain⟨h2,e2⟩:=List.getElem?_eq_some_iff.1 hy
  rw[List.drop_eq_getElem_cons h1,List.drop_eq_getElem_cons h2,Con.cmp.cmps,e1,e2]
theorem lO_ {a b:List Con} {i:Nat} (h1:i<a.length) (h2:b.length≤i):Con.cmp.cmps (a.drop i) (b.drop i)=1:=by
  rw[List.drop_eq_getElem_cons h1,List.drop_of_length_le h2,Con.cmp.cmps]
theorem kA_ {a b:List Con} {i:Nat} (h1:a.length≤i) (h2:i<b.length):Con.cmp.cmps (a.drop i) (b.drop i)=-1:=by
  rw[List.drop_eq_getElem_cons h2,List.drop_of_length_le h1,Con.cmp.cmps]
theorem oq_ {a b:List Con} {i:Nat} (h1:a.length≤i) (h2:b.length≤i):Con.cmp.cmps (a.drop i) (b.drop i)=0:=by
  rw[List.drop_of_length_le h1,List.drop_of_length_le h2,Con.cmp.cmps]
theorem mQ_ {a b:List Str} {i:Nat} {x y:Str} (hx:a[i]? = some x) (hy:b[i]? = some y):bQ_ (a.drop i) (b.drop i)=if Lib.compareBytes x y=0 then bQ_ (a.drop (i+1)) (b.drop (i+1)) else Lib.compareBytes x y:=by
  obtain⟨h1,e1⟩:=List.getElem?_eq_some_iff.1 hx
  obtain⟨h2,e2⟩:=List.getElem?_eq_some_iff.1 hy
  rw[List.drop_eq_getElem_cons h1,List.drop_eq_getElem_cons h2,bQ_,e1,e2]
theorem lT_ {a b:List Str} {i:Nat} (h1:i<a.length) (h2:b.length≤i):bQ_ (a.drop i) (b.drop i)=1:=by
  rw[List.drop_eq_getElem_cons h1,List.drop_of_length_le h2,bQ_]
theorem kC_ {a b:List Str} {i:Nat} (h1:a.length≤i) (h2:i<b.length):bQ_ (a.drop i) (b.drop i)=-1:=by
  rw[List.drop_eq_getElem_cons h2,List.drop_of_length_le h1,bQ_]
theorem or_ {a b:List Str} {i:Nat} (h1:a.length≤i) (h2:b.length≤i):bQ_ (a.drop i) (b.drop i)=0:=by
  rw[List.drop_of_length_le h1,List.drop_of_length_le h2,bQ_]
theorem hW_ (x:Int):orF [x]=x:=by simp only[orF];split<;>simp_all
theorem hV_:∀ (l:List Int) (x:Int),orF (l++[x])=if orF l=0 then x else orF l
 | [],x=>by rw[List.nil_append,hW_];simp[orF]
 | y::l,x=>by
   rw[List.cons_append,orF,orF,hV_ l x]
   by_cases h:y=0
   · rw[if_pos h,if_pos h]
   · rw[if_neg h,if_neg h,if_neg h]
theorem cY_ {l:List Int} {v x:Int} (hv:v=orF l) (h:v=0):x=orF (l++[x]):=by rw[hV_,if_pos (hv▸h)]
theorem dG_ {l:List Int} {v x:Int} (hv:v=orF l) (h:v≠0):v=orF (l++[x]):=by rw[hV_,if_neg (hv▸h)];exact hv
def ft_ (v n all fin:Int) (at':Prop):Prop:=(v≠0→n=v)∧(v=0→(n=0→all=fin∧at')∧(n≠0→all=n))
theorem kB_ {a b:List Con} {i:Nat} (h1:i≤a.length) (h2:i≤b.length) (h:a.length≤i∨b.length≤i):Con.cmp.cmps (a.drop i) (b.drop i)=Lib.compareInt (a.length:Int) (b.length:Int):=by
 unfold Lib.compareInt
 by_cases ha:a.length≤i
 ·by_cases hb:b.length≤i
  ·rw[oq_ ha hb,if_neg (by omega),if_neg (by omega)]
  rw[kA_ ha (by omega),if_pos (by omega)]
 rw[lO_ (by omega) (h.resolve_left ha),if_neg (by omega),if_pos (by omega)]
theorem kD_ {a b:List Str} {i:Nat} (h1:i≤a.length) (h2:i≤b.length) (h:a.length≤i∨b.length≤i):bQ_ (a.drop i) (b.drop i)=Lib.compareInt (a.length:Int) (b.length:Int):=by
 unfold Lib.compareInt
 by_cases ha:a.length≤i
 ·by_cases hb:b.length≤i
  ·rw[or_ ha hb,if_neg (by omega),if_neg (by omega)]
  rw[kC_ ha (by omega),if_pos (by omega)]
 rw[lT_ (by omega) (h.resolve_left ha),if_neg (by omega),if_pos (by omega)]
theorem ft_.fin {v n all fin o:Int} {at':Prop} {l:List Int} (h:ft_ v n all fin at') (hv:v=orF l) (hx:n=0→v=0→at'→fin=o):(if n=0 then o else n)=(if v=0 then (if n=0 then o else n) else v)∧(v=0→(if n=0 then o else n)=all):=by
 obtain⟨h1,h2⟩:=h
 constructor
 ·by_cases hv0:v=0
  ·rw[if_pos hv0]
  rw[if_neg hv0,h1 hv0,if_neg hv0]
 intro hv0
 obtain⟨h3,h4⟩:=h2 hv0
 by_cases hn:n=0
 ·rw[if_pos hn];obtain⟨e,ha⟩:=h3 hn;rw[e,hx hn hv0 ha]
 rw[if_neg hn,h4 hn]
theorem ft_.or {v n all fin o:Int} {at':Prop} {l:List Int} (h:ft_ v n all fin at') (hv:v=orF l) (hx:n=0→v=0→at'→fin=o):(if n=0 then o else n)=orF (l++[all]):=by
 obtain⟨g1,g2⟩:=h.fin hv hx
 rw[hV_,← hv]
 by_cases hv0:v=0
 ·rw[if_pos hv0,g2 hv0]
 rw[if_neg hv0,g1,if_neg hv0]
theorem ft_.init {v all:Int} {at':Prop} (h:at'):ft_ v v all all at':=⟨fun _=>rfl,fun h0=>⟨fun _=>⟨rfl,h⟩,fun q=>absurd h0 q⟩⟩
theorem ft_.step {v all fin fin' m:Int} {at' at2:Prop} (h:ft_ v 0 all fin at') (e:fin=if m=0 then fin' else m) (h2:at'→at2):ft_ v m all fin' at2:=by
 obtain⟨h1,h3⟩:=h
 refine⟨fun hv=>absurd (h1 hv).symm hv,fun hv=>?_⟩
 obtain⟨g,_⟩:=h3 hv
 obtain⟨g1,g2⟩:=g rfl
 refine⟨fun hm=>?_,fun hm=>?_⟩
 ·rw[if_pos hm]at e;exact⟨g1.trans e,h2 g2⟩
 rw[if_neg hm]at e;exact g1.trans e
def wgL:List Con→Int
  | []=>0
  | c::l=>(if c.kind=0 then 0 else (c.sz:Int))+wgL l
def wgS:List Str→Int
  | []=>0
  | s::l=>(if s=[] then 0 else 1)+wgS l
theorem tY_ (a b:List Con):wgL (a++b)=wgL a+wgL b:=by
  induction a with
  | nil=>simp[wgL]
  | cons c a ih=>simp only[List.cons_append,wgL,ih];omega
theorem tX_ (a b:List Str):wgS (a++b)=wgS a+wgS b:=by
  induction a with
  | nil=>simp[wgS]
  | cons c a ih=>simp only[List.cons_append,wgS,ih];omega
theorem ng_ {l:List Con} {i:Nat} {x:Con} (h:l[i]? = some x):wgL (l.take (i+1))=wgL (l.take i)+(if x.kind=0 then 0 else (x.sz:Int)):=by
  rw[List.take_add_one,h,tY_];simp[wgL]
theorem nf_ {l:List Str} {i:Nat} {x:Str} (h:l[i]? = some x):wgS (l.take (i+1))=wgS (l.take i)+(if x=[] then 0 else 1):=by
  rw[List.take_add_one,h,tX_];simp[wgS]
theorem sc_ {l:List Con} (h:∀ c∈l,c.sz≤1000000):0≤wgL l∧wgL l≤1000000*l.length:=by
  induction l with
  | nil=>simp[wgL]
  | cons c l ih =>
    have h1:=h c (by simp)
    have h2:=ih fun d hd=>h d (by simp[hd])
    simp only[wgL,List.length_cons]
    split<;>omega
theorem wgS_bd (l:List Str):0≤wgS l∧wgS l≤l.length:=by
  induction l with
  | nil=>simp[wgS]
  | cons c l ih=>simp only[wgS,List.length_cons];split<;>omega
theorem Ax.wgt_eq (x:Ax):x.wgt=wgL [x.left,x.right]+(x.roles.length:Int)+wgS [x.role,x.a,x.b]:=by
  unfold Ax.wgt;simp only[wgL,wgS];omega
theorem tH_ {x:Ax} {v:Vw} (h:x.memF.p v) {c:Con} (hc:c∈[x.left,x.right]):c.memF.p v:=by
 simp only[List.mem_cons,List.not_mem_nil,or_false]at hc
 rcases hc with rfl|rfl
 ·exact h.1
 exact h.2.1
theorem gK_ {x:Ax} (hok:x.ok) (h1:x.left.sz≤1000000) (h2:x.right.sz≤1000000) {c:Con} (hc:c∈[x.left,x.right]):c.ok∧c.sz≤1000000:=by
 simp only[List.mem_cons,List.not_mem_nil,or_false]at hc
 rcases hc with rfl|rfl
 ·exact⟨hok.left,h1⟩
 exact⟨hok.right,h2⟩
theorem lR_ (c d:Con):Con.cmp c d=if orF [Lib.compareInt (c.sz:Int) (d.sz:Int),Lib.compareInt c.kind d.kind,Lib.compareBytes c.name d.name,Lib.compareInt c.lo d.lo,Lib.compareInt c.hi d.hi]=0 then Con.cmp.cmps c.parts d.parts else orF [Lib.compareInt (c.sz:Int) (d.sz:Int),Lib.compareInt c.kind d.kind,Lib.compareBytes c.name d.name,Lib.compareInt c.lo d.lo,Lib.compareInt c.hi d.hi]:=by
  rw[Con.cmp_eq]
  simp only[orF]
  (repeat' split)<;>first|rfl|omega|(simp_all;done)
end Go.Vs
