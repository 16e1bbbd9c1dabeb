/-
  Part of the proof of the law CanonReaches over this seat: the small logic, the data, the contracts of functions (no condition).
-/
import Derived.Test.YtpbnmnfdgckaiaaGreatDoorQCanonReaches14
import Derived.Test.YtpbnmnfdgckaiaaGreatDoorQCanonReaches11
import Derived.Test.YtpbnmnfdgckaiaaGreatDoorQCanonReaches6
import Derived.Test.YtpbnmnfdgckaiaaGreatDoorQCanonReaches3
import Derived.Test.YtpbnmnfdgckaiaaGreatDoorRows
set_option linter.unusedVariables false
set_option linter.unusedSimpArgs false
set_option linter.unusedSectionVars false
set_option maxHeartbeats 1000000
namespace Go.Proofs.YtpbnmnfdgckaiaaGreatDoor
open Go Go.Sx Go.Proofs
attribute [local irreducible] Code.wp wpList wpAnyH
open Go.Vs Go.Shelf Go.RowKit
def gamF (Γ:List Fct):Fct where
  p v:=Z_ Γ v
  mono:=fun v v' h hp=>ao_ h hp
def sl_ (p s:Str):Prop:=¬ ((nls p=nls s∧s≤p)∨(nls p=true∧nls s=false))
def og_ (l:List Str):Prop:=(∀ s∈l,s≠[])∧∀ (i:Nat) p s,l[i]? = some p→l[i+1]? = some s→sl_ p s
def qm_ (f:Fc):Bool:=(decide (f=X_ f.a f.b)&&(f.a != []))&&(f.b != [])
def kU_ (K:List Str) (f:Fc):Bool:=((decide (f=ab_ f.a f.r f.b)&&decide (f.a∈K))&&decide (f.b∈K))&&(f.r != [])
def qx_ (K:List Str) (f:Fc):Bool:=((((decide (f=am_ f.a f.r f.lo f.hi)&&decide (f.a∈K))&&(f.r != []))&&decide (-1099511627776≤f.lo))&&decide (f.lo≤f.hi))&&decide (f.hi≤1099511627776)
def qk_ (K:List Str) (f:Fc):Bool:=qm_ f&&decide (f.a∈K)
def qX_ (K:List Str) (f:Fc):Bool:=(kU_ K f&&!nls f.a)&&!nls f.b
structure MdV (m:Mdl):Prop where
  no:og_ m.no
  ty:(∀ f∈m.ty,qk_ m.no f=true)∧Srt m.ty
  li:(∀ f∈m.li,qX_ m.no f=true)∧Srt m.li
  di:(∀ f∈m.di,kU_ m.no f=true)∧Srt m.di
  ra:(∀ f∈m.ra,qx_ m.no f=true)∧Srt m.ra
  ro:(∀ f∈m.ro,qm_ f=true)∧Srt m.ro
theorem pQ_ {K L:List Str} (h:∀ n,n∈K↔n∈L) (s:Str):decide (s∈K)=decide (s∈L):=decide_eq_decide.2 (h s)
theorem pt_ {K L:List Str} (h:∀ n,n∈K↔n∈L) (f:Fc):kU_ K f=kU_ L f:=by unfold kU_;rw[pQ_ h,pQ_ h]
theorem th_ {K L:List Str} (h:∀ n,n∈K↔n∈L) (f:Fc):qx_ K f=qx_ L f:=by unfold qx_;rw[pQ_ h]
theorem te_ {K L:List Str} (h:∀ n,n∈K↔n∈L) (f:Fc):qk_ K f=qk_ L f:=by unfold qk_;rw[pQ_ h]
theorem ts_ {K L:List Str} (h:∀ n,n∈K↔n∈L) (f:Fc):qX_ K f=qX_ L f:=by unfold qX_;rw[pt_ h]
theorem yg_ {m:Mdl} {K:List Str} (h:∀ n,n∈K↔n∈m.no) {A x y B k v:Bool} (F:A=true↔og_ m.no) (H:x=true↔(∀ f∈m.ty,qk_ K f=true)∧Srt m.ty) (C:y=true↔(∀ f∈m.li,qX_ K f=true)∧Srt m.li) (E:B=true↔(∀ f∈m.di,kU_ K f=true)∧Srt m.di)
    (I:k=true↔(∀ f∈m.ra,qx_ K f=true)∧Srt m.ra) (G:v=true↔(∀ f∈m.ro,qm_ f=true)∧Srt m.ro):MdV m↔A=true∧x=true∧y=true∧B=true∧k=true∧v=true:=by
  rw[F,H,C,E,I,G];simp only[te_ h,ts_ h,pt_ h,th_ h];exact⟨fun q=>⟨q.no,q.ty,q.li,q.di,q.ra,q.ro⟩,fun⟨a,b,c,d,e,f⟩=>⟨a,b,c,d,e,f⟩⟩
theorem oG_ {l:List Str} {i:Nat} {s:Str} (h:og_ (l.take i)) (m:l[i]? = some s) (v:s≠[]) (y:∀ p,0<i→l[i - 1]? = some p→sl_ p s):og_ (l.take (i+1)):=by
 refine⟨fun z d=>?_,fun j p z k d=>?_⟩
 ·rw[tk1 m,List.mem_append,List.mem_singleton]at d
  exact d.elim (h.1 z) fun q=>by rw[q];exact v
 have x:=(List.getElem?_eq_some_iff.1 d).1;rw[List.length_take]at x;rw[List.getElem?_take]at k d
 split at d
 ·rename_i q
  rw[if_pos zs_]at k
  by_cases e:j+1=i
  ·subst e
   rw[m]at d;obtain rfl:=Option.some.inj d;exact y p zs_ zax_
  exact h.2 j p z (by rw[List.getElem?_take,if_pos zs_];exact k) (by rw[List.getElem?_take,if_pos zs_];exact d)
 simp at d
theorem nodV_0 {l:List Str} (h:og_ l) {i:Nat} {s:Str} (d:l[i]? = some s):s≠[]:=h.1 s (List.mem_of_getElem? d)
theorem nodV_1 {l:List Str} (h:og_ l) {i:Nat} {p s:Str} (d:l[i]? = some s) (hi:0<i) (e:l[i - 1]? = some p):sl_ p s:=h.2 (i - 1) p s e (by rw[show i - 1+1=i by omega];exact d)
theorem nO_ {g:FuncId} {cv:List Value} {Gc:List Fct} (V:Fc→Bool) (l:List Fc) (ad:Option Addr) (cap:Nat) (hl:l.length≤9223372036854775807) (J:∀ x∈l,Tri Tryz.prog g (Fc.val x::cv).toArray [] Gc (fun _:Unit=>.bool (V x)) (fun _=>[]) (fun _=>[])):Tri Tryz.prog 41 #[.slice ad (List.length l) cap,.func (.func g) #[] cv.toArray] [] [ah_ ad (List.flatMap Fc.cells l),gamF Gc] (fun b:{b:Bool // b=true↔(∀ x∈l,V x=true)∧Srt l}=>.bool b.1) (fun _=>[]) (fun _=>[]):=by
 refine i_ Tryz.func41 rfl rfl Tryz.ntmps41 rfl fun H=>?_;refine Zz 14 ?_;refine M_ (ι:={y:Nat // y≤List.length l∧(∀ x∈List.take y l,V x=true)}) (fun y=>[(0,.slice ad (List.length l) cap),(1,.func (.func g) #[] cv.toArray),(4,.bool false),(7,.slice ad (List.length l) cap),(8,.int .i64 (List.length l:Int)),(9,.int .i64 (y.1:Int))]) (fun y=>([])) (fun y=>[ah_ ad (List.flatMap Fc.cells l),gamF Gc]) (fun y=>List.length l - y.1) ⟨(0:Nat),by simp,zB_⟩ zl m_ zh ?_;rintro ⟨i,k,F⟩;dsimp only at k F ⊢;refine Zi 2 (fun B=>?_) fun B=>?_
 ·refine Zz 9 ?_
  refine g_ (ys_ l ad cap hl) rfl m_ zf rfl fun⟨ib,E⟩=>?_;dsimp only;refine Zz 4 ?_;exact ae_ Tryz.results41 ⟨ib,E.trans ⟨fun q=>⟨fun x K=>F x (by rw[List.take_of_length_le zs_];exact K),q⟩,fun q=>q.2⟩⟩ rfl m_ zt
 obtain⟨h,m,A,d⟩:=zge (show i<List.length l by omega);refine Zz 12 ?_;refine G_ Y_ rfl fun I=>u_ 0 A_ rfl rfl rfl rfl rfl rfl (Zz 6 ?_)
 refine bI_ (first:=[]) (cap:=cv) (J m d) rfl rfl m_ zf rfl fun C e=>e_ (aw_ rfl) rfl (Zz 2 ?_)
 cases C
 ·refine Zz 7 ?_
  exact ae_ Tryz.results41 ⟨false,fun q=>zaS_,fun q=>by have v:=q.1 m d;rw[e]at v;cases v⟩ rfl m_ zt
 refine Zz 8 ?_;exact w_ ⟨i+1,h,(fun z G=>by rw[tk1 A,List.mem_append,List.mem_singleton]at G;exact G.elim (F z) fun q=>by rw[q];exact e)⟩ zt_ zl m_ zh
theorem ig_ {G:Prop} (h:G:=by
 exact ae_ Tryz.results35 ⟨false,fun q=>zaS_,fun q=>absurd (nodV_1 q d zs_ e) (by unfold sl_;simp_all)⟩ rfl m_ zt):G:=h
theorem gt_ {G:Prop} (h:G:=by
 exact w_ ⟨i+1,k,(oG_ A d h fun p _ v=>by rw[e]at v;obtain rfl:=Option.some.inj v;unfold sl_;simp_all)⟩ zt_ zl m_ zh):G:=h
theorem yc_ (l:List Str) (ad:Option Addr) (cap:Nat) (hl:l.length≤9223372036854775807):Tri Tryz.prog 35 #[.slice ad (List.length l) cap] [] [ah_ ad (List.flatMap ag_ l)] (fun b:{b:Bool // b=true↔og_ l}=>.bool b.1) (fun _=>[]) (fun _=>[]):=by
 refine i_ Tryz.func35 rfl rfl Tryz.ntmps35 rfl fun T=>?_;refine Zz 14 ?_;refine M_ (ι:={y:Nat // y≤List.length l∧og_ (List.take y l)}) (fun y=>[(0,.slice ad (List.length l) cap),(2,.bool false),(6,.slice ad (List.length l) cap),(7,.int .i64 (List.length l:Int)),(8,.int .i64 (y.1:Int))]) (fun y=>([])) (fun y=>[ah_ ad (List.flatMap ag_ l)]) (fun y=>List.length l - y.1) ⟨(0:Nat),by simp,⟨by simp,by simp⟩⟩ zl m_ zh ?_;rintro ⟨i,F,A⟩;dsimp only at F A ⊢;refine Zi 2 (fun J=>?_) fun J=>?_
 ·refine Zz 12 ?_
  exact ae_ Tryz.results35 ⟨true,fun _=>by rw[List.take_of_length_le zs_]at A;exact A,fun _=>rfl⟩ rfl m_ zt
 obtain⟨k,C,d,N⟩:=zge (show i<List.length l by omega);refine Zi 21 (fun h=>?_) fun h=>?_
 ·refine Zi 9 (fun G=>?_) fun G=>?_
  ·obtain⟨O,x,H,L⟩:=zge (show (Int.toNat ((i:Int) - 1))<List.length l by omega)
   have e:l[i - 1]? = some x:=by rw[show i - 1=Int.toNat ((i:Int) - 1) by omega];exact H
   refine Zz 18 ?_;refine T_ (bJ_ x) rfl m_ zt rfl fun U R=>Zz 1 ?_
   refine T_ (bJ_ C) rfl m_ zt rfl fun V S=>B_ (uX_ Tryz.underlying4 rfl rfl) rfl fun M P=>Zz 1 ?_
   cases M
   ·refine Zz 8 ?_
    refine T_ (bJ_ x) rfl m_ zt rfl fun B m=>Zz 2 ?_
    cases B
    ·refine Zz 16 ?_
     exact gt_
    refine Zz 3 ?_;refine T_ (bJ_ C) rfl m_ zt rfl fun E I=>aQ_ rfl rfl (e_ (aw_ rfl) rfl (Zz 5 ?_))
    cases E
    ·refine Zz 7 ?_
     exact ig_
    refine Zz 8 ?_;exact gt_
   refine Zz 5 ?_;refine B_ (uU_ rfl rfl) rfl fun B m=>Zz 2 ?_
   cases B
   ·replace m:=zdf m
    refine Zz 3 ?_;refine T_ (bJ_ x) rfl m_ zt rfl fun E I=>Zz 2 ?_
    cases E
    ·refine Zz 16 ?_
     exact gt_
    refine Zz 3 ?_;refine T_ (bJ_ C) rfl m_ zt rfl fun K Q=>aQ_ rfl rfl (e_ (aw_ rfl) rfl (Zz 5 ?_))
    cases K
    ·refine Zz 7 ?_
     exact ig_
    refine Zz 8 ?_;exact gt_
   replace m:=zdt m;refine Zz 17 ?_;exact ig_
  refine Zz 10 ?_;exact w_ ⟨i+1,k,(oG_ A d h fun p q=>by omega)⟩ zt_ zl m_ zh
 refine Zz 9 ?_;exact ae_ Tryz.results35 ⟨false,fun q=>zaS_,fun q=>absurd h (nodV_0 q d)⟩ rfl m_ zt
theorem wU_ (f:Fc):Tri Tryz.prog 36 #[Fc.val f] [] [] (fun _:Unit=>.bool (qm_ f)) (fun _=>[]) (fun _=>[]):=by
 refine i_ Tryz.func36 rfl rfl Tryz.ntmps36 rfl fun B=>?_;refine Zz 2 ?_;refine aa_ rfl rfl fun y=>Zz 10 ?_
 refine e_ (I_ eI_ rfl rfl) rfl (B_ (eB_ (p:=f) (q:=(Fc.mk 1 f.a f.b [] 0 0)) rfl rfl) rfl fun A e=>Zz 1 ?_);refine ai_ 4 ((decide (f=(Fc.mk 1 f.a f.b [] 0 0)))&&(f.a != [])) (fun r=>[(1,zp_ y 0),(2,.bool false),(14,.bool r)]) ?_ fun x k=>?_
 ·cases A
  ·have d:=e
   replace e:=zdf e;refine Zz 6 ?_;exact met ⟨rfl,rfl,(n_ rfl (jaf d)),trivial⟩
  have d:=e;replace e:=zdt e;refine Zz 5 ?_;refine B_ (cJ_ rfl rfl) rfl fun v h=>Zz 3 ?_
  exact met ⟨rfl,rfl,(n_ rfl (jat d h)),trivial⟩
 refine Zz 1 ?_;refine ai_ 4 ((((decide (f=(Fc.mk 1 f.a f.b [] 0 0)))&&(f.a != [])))&&(f.b != [])) (fun r=>[(2,.bool false),(19,.bool r)]) ?_ fun v h=>?_
 ·cases x
  ·have d:=k
   refine Zz 6 ?_;exact met ⟨rfl,(n_ rfl (jaf d)),trivial⟩
  have d:=k;refine Zz 5 ?_;refine B_ (cJ_ rfl rfl) rfl fun C m=>Zz 3 ?_
  exact met ⟨rfl,(n_ rfl (jat d m)),trivial⟩
 refine Zz 4 ?_;exact ae_ Tryz.results36 () (n_ rfl (by rw[← h];rfl)) m_ zt
theorem wT_ (f:Fc) (H:Nat) (E:Nat) (es:Array MapEntry) (c:Nat) (K:List Str) (hE:SetE str es K):Tri Tryz.prog 37 #[Fc.val f,zp_ H 0] [] [bW_ H (.cells #[.map (some E)] 33 (0,0)),bW_ E (.map es c)] (fun _:Unit=>.bool (kU_ K f)) (fun _=>[]) (fun _=>[]):=by
 refine i_ Tryz.func37 rfl rfl Tryz.ntmps37 rfl fun J=>?_;refine Zz 2 ?_;refine aa_ rfl rfl fun B=>Zz 12 ?_
 refine e_ (I_ eI_ rfl rfl) rfl (B_ (eB_ (p:=f) (q:=(Fc.mk 2 f.a f.b f.r 0 0)) rfl rfl) rfl fun G e=>Zz 1 ?_);refine ai_ 5 ((decide (f=(Fc.mk 2 f.a f.b f.r 0 0)))&&(decide (f.a∈K))) (fun r=>[(1,zp_ H 0),(2,zp_ B 0),(3,.bool false),(18,.bool r)]) ?_ fun I y=>?_
 ·cases G
  ·have d:=e
   replace e:=zdf e;refine Zz 7 ?_;exact met ⟨rfl,rfl,rfl,(n_ rfl (jaf d)),trivial⟩
  have d:=e;replace e:=zdt e;refine Zz 7 ?_;refine B_ (ar_ (bg_ (k:=f.a) (q:=K) bi_ H_ as_ rfl rfl hE (fun v _ h=>(by exact h.2.1:(bW_ E (.map es c)).p v).2)) (show _=Value.bool (decide (f.a∈K)) from congrArg Value.bool (decide_eq_decide.2 Iff.rfl))) rfl fun A m=>Zz 3 ?_
  exact met ⟨rfl,rfl,rfl,(n_ rfl (jat d m)),trivial⟩
 refine Zz 1 ?_;refine ai_ 5 ((((decide (f=(Fc.mk 2 f.a f.b f.r 0 0)))&&(decide (f.a∈K))))&&(decide (f.b∈K))) (fun r=>[(2,zp_ B 0),(3,.bool false),(24,.bool r)]) ?_ fun A m=>?_
 ·cases I
  ·have d:=y
   refine Zz 7 ?_;exact met ⟨rfl,rfl,(n_ rfl (jaf d)),trivial⟩
  have d:=y;refine Zz 7 ?_;refine B_ (ar_ (bg_ (k:=f.b) (q:=K) bi_ H_ as_ rfl rfl hE (fun v _ h=>(by exact h.2.1:(bW_ E (.map es c)).p v).2)) (show _=Value.bool (decide (f.b∈K)) from congrArg Value.bool (decide_eq_decide.2 Iff.rfl))) rfl fun F x=>Zz 3 ?_
  exact met ⟨rfl,rfl,(n_ rfl (jat d x)),trivial⟩
 refine Zz 1 ?_;refine ai_ 4 ((((((decide (f=(Fc.mk 2 f.a f.b f.r 0 0)))&&(decide (f.a∈K))))&&(decide (f.b∈K))))&&(f.r != [])) (fun r=>[(3,.bool false),(29,.bool r)]) ?_ fun F x=>?_
 ·cases A
  ·have d:=m
   refine Zz 6 ?_;exact met ⟨rfl,(n_ rfl (jaf d)),trivial⟩
  have d:=m;refine Zz 5 ?_;refine B_ (cJ_ rfl rfl) rfl fun L C=>Zz 3 ?_
  exact met ⟨rfl,(n_ rfl (jat d C)),trivial⟩
 refine Zz 4 ?_;exact ae_ Tryz.results37 () (n_ rfl (by rw[← x];rfl)) m_ zt
theorem chk3_c (f:Fc) (fb B:Nat) (A:Nat) (es:Array MapEntry) (c:Nat) (K:List Str) (hE:SetE str es K):Tri Tryz.prog 38 #[Fc.val f,zp_ fb 0,zp_ B 0] [] [bW_ fb (.cells #[.func (.func 36) #[] #[]] 74 (0,0)),bW_ B (.cells #[.map (some A)] 33 (0,0)),bW_ A (.map es c)] (fun _:Unit=>.bool (qk_ K f)) (fun _=>[]) (fun _=>[]):=by
 refine i_ Tryz.func38 rfl rfl Tryz.ntmps38 rfl fun E=>?_;refine Zz 2 ?_;refine aa_ rfl rfl fun G=>Zz 7 ?_
 refine bI_ (wU_ f) rfl rfl m_ zt rfl fun y e=>Zz 1 ?_
 refine ai_ 5 ((qm_ f)&&(decide (f.a∈K))) (fun r=>[(4,.bool false),(13,.bool r)]) ?_ fun F m=>?_
 ·cases y
  ·have d:=e
   refine Zz 7 ?_;exact met ⟨rfl,(n_ rfl (jaf d)),trivial⟩
  have d:=e;refine Zz 7 ?_;refine B_ (ar_ (bg_ (k:=f.a) (q:=K) bi_ H_ as_ rfl rfl hE (fun v _ h=>(by exact h.2.2.1:(bW_ A (.map es c)).p v).2)) (show _=Value.bool (decide (f.a∈K)) from congrArg Value.bool (decide_eq_decide.2 Iff.rfl))) rfl fun C x=>Zz 3 ?_
  exact met ⟨rfl,(n_ rfl (jat d x)),trivial⟩
 refine Zz 4 ?_;exact ae_ Tryz.results38 () (n_ rfl (by rw[← m];rfl)) m_ zt
theorem chk4_c (f:Fc) (C x:Nat) (y:Nat) (es:Array MapEntry) (c:Nat) (K:List Str) (hE:SetE str es K):Tri Tryz.prog 39 #[Fc.val f,zp_ C 0] [] [bW_ C (.cells #[.func (.func 37) #[] #[zp_ x 0]] 74 (0,0)),bW_ x (.cells #[.map (some y)] 33 (0,0)),bW_ y (.map es c)] (fun _:Unit=>.bool (qX_ K f)) (fun _=>[]) (fun _=>[]):=by
 refine i_ Tryz.func39 rfl rfl Tryz.ntmps39 rfl fun E=>?_;refine Zz 2 ?_;refine aa_ rfl rfl fun B=>Zz 7 ?_
 refine bI_ (wT_ f x y es c K hE) rfl rfl m_ zf rfl fun v k=>Zz 1 ?_
 refine ai_ 5 ((kU_ K f)&&(!(nls f.a))) (fun r=>[(2,zp_ B 0),(3,.bool false),(12,.bool r)]) ?_ fun A h=>?_
 ·cases v
  ·have d:=k
   refine Zz 7 ?_;exact met ⟨rfl,rfl,(n_ rfl (jaf d)),trivial⟩
  have d:=k;refine Zz 5 ?_;refine T_ (bJ_ f.a) rfl m_ zt rfl fun q e=>aQ_ rfl rfl (e_ (aw_ rfl) rfl (Zz 3 ?_))
  exact met ⟨rfl,rfl,(n_ rfl (jat d (jn e))),trivial⟩
 refine Zz 1 ?_;refine ai_ 5 ((((kU_ K f)&&(!(nls f.a))))&&(!(nls f.b))) (fun r=>[(3,.bool false),(18,.bool r)]) ?_ fun q e=>?_
 ·cases A
  ·have d:=h
   refine Zz 7 ?_;exact met ⟨rfl,(n_ rfl (jaf d)),trivial⟩
  have d:=h;refine Zz 5 ?_;refine T_ (bJ_ f.b) rfl m_ zt rfl fun F m=>aQ_ rfl rfl (e_ (aw_ rfl) rfl (Zz 3 ?_))
  exact met ⟨rfl,(n_ rfl (jat d (jn m))),trivial⟩
 refine Zz 4 ?_;exact ae_ Tryz.results39 () (n_ rfl zaz_) m_ zt
theorem gs_ {G:Prop} (h:G:=by
 exact met ⟨rfl,rfl,(n_ rfl (jaf d)),trivial⟩):G:=h
theorem chk5_c (f:Fc) (N:Nat) (L:Nat) (es:Array MapEntry) (c:Nat) (K:List Str) (hE:SetE str es K):Tri Tryz.prog 40 #[Fc.val f,zp_ N 0] [] [bW_ N (.cells #[.map (some L)] 33 (0,0)),bW_ L (.map es c)] (fun _:Unit=>.bool (qx_ K f)) (fun _=>[]) (fun _=>[]):=by
 refine i_ Tryz.func40 rfl rfl Tryz.ntmps40 rfl fun O=>?_;refine Zz 2 ?_;refine aa_ rfl rfl fun B=>Zz 14 ?_
 refine e_ (I_ eI_ rfl rfl) rfl (B_ (eB_ (p:=f) (q:=(Fc.mk 3 f.a [] f.r f.lo f.hi)) rfl rfl) rfl fun I e=>Zz 1 ?_);refine ai_ 5 ((decide (f=(Fc.mk 3 f.a [] f.r f.lo f.hi)))&&(decide (f.a∈K))) (fun r=>[(2,zp_ B 0),(3,.bool false),(20,.bool r)]) ?_ fun M C=>?_
 ·cases I
  ·have d:=e
   replace e:=zdf e;refine Zz 7 ?_;exact gs_
  have d:=e;replace e:=zdt e;refine Zz 7 ?_;refine B_ (ar_ (bg_ (k:=f.a) (q:=K) bi_ H_ as_ rfl rfl hE (fun v _ h=>(by exact h.2.1:(bW_ L (.map es c)).p v).2)) (show _=Value.bool (decide (f.a∈K)) from congrArg Value.bool (decide_eq_decide.2 Iff.rfl))) rfl fun E x=>Zz 3 ?_
  exact met ⟨rfl,rfl,(n_ rfl (jat d x)),trivial⟩
 refine Zz 1 ?_;refine ai_ 4 ((((decide (f=(Fc.mk 3 f.a [] f.r f.lo f.hi)))&&(decide (f.a∈K))))&&(f.r != [])) (fun r=>[(2,zp_ B 0),(3,.bool false),(25,.bool r)]) ?_ fun E x=>?_
 ·cases M
  ·have d:=C
   refine Zz 6 ?_;exact gs_
  have d:=C;refine Zz 5 ?_;refine B_ (cJ_ rfl rfl) rfl fun F m=>Zz 3 ?_
  exact met ⟨rfl,rfl,(n_ rfl (jat d m)),trivial⟩
 refine Zz 1 ?_;refine ai_ 4 ((((((decide (f=(Fc.mk 3 f.a [] f.r f.lo f.hi)))&&(decide (f.a∈K))))&&(f.r != [])))&&(decide ((-1099511627776)≤f.lo))) (fun r=>[(2,zp_ B 0),(3,.bool false),(30,.bool r)]) ?_ fun F m=>?_
 ·cases E
  ·have d:=x
   refine Zz 6 ?_;exact gs_
  have d:=x;refine Zz 5 ?_;refine B_ (dj_ rfl rfl) rfl fun H y=>Zz 3 ?_
  exact met ⟨rfl,rfl,(n_ rfl (jat d y)),trivial⟩
 refine Zz 1 ?_;refine ai_ 6 ((((((((decide (f=(Fc.mk 3 f.a [] f.r f.lo f.hi)))&&(decide (f.a∈K))))&&(f.r != [])))&&(decide ((-1099511627776)≤f.lo))))&&(decide (f.lo≤f.hi))) (fun r=>[(2,zp_ B 0),(3,.bool false),(37,.bool r)]) ?_ fun H y=>?_
 ·cases F
  ·have d:=m
   refine Zz 8 ?_;exact gs_
  have d:=m;refine Zz 9 ?_;refine B_ (dj_ rfl rfl) rfl fun J A=>Zz 3 ?_
  exact met ⟨rfl,rfl,(n_ rfl (jat d A)),trivial⟩
 refine Zz 1 ?_;refine ai_ 4 ((((((((((decide (f=(Fc.mk 3 f.a [] f.r f.lo f.hi)))&&(decide (f.a∈K))))&&(f.r != [])))&&(decide ((-1099511627776)≤f.lo))))&&(decide (f.lo≤f.hi))))&&(decide (f.hi≤1099511627776))) (fun r=>[(3,.bool false),(42,.bool r)]) ?_ fun J A=>?_
 ·cases H
  ·have d:=y
   refine Zz 6 ?_;exact met ⟨rfl,(n_ rfl (jaf d)),trivial⟩
  have d:=y;refine Zz 5 ?_;refine B_ (dj_ rfl rfl) rfl fun P G=>Zz 3 ?_
  exact met ⟨rfl,(n_ rfl (jat d G)),trivial⟩
 refine Zz 4 ?_;exact ae_ Tryz.results40 () (n_ rfl (by rw[← A];rfl)) m_ zt
theorem rB_ (m:Mdl) (C:m.ok):Tri Tryz.prog 10 #[Mdl.val m] [] [ma_ m] (fun e:{e:Int // (e=0∨e=1)∧(e=0↔MdV m)}=>.int .i64 e.1) (fun _=>[]) (fun _=>[]):=by
 refine i_ Tryz.func10 rfl rfl Tryz.ntmps10 rfl fun a0=>?_;have hdl:=C.no;refine Zz 2 ?_;refine aa_ rfl rfl fun Q=>Zz 8 ?_
 refine g_ (yc_ (Mdl.no m) (Mdl.noa m) (Mdl.noc m) C.no) rfl m_ (fun v _ h=>by exact⟨h.1.1,trivial⟩) rfl fun⟨bn,R⟩=>?_;dsimp only;refine e_ (aw_ rfl) rfl (Zz 2 ?_);cases bn
 ·refine Zz 7 ?_
  exact ae_ iv_ ⟨1,.inr rfl,fun q=>absurd q zw_,fun q=>absurd q (fun q=>by have:=R.2 q.no;cases this)⟩ rfl m_ zt
 refine Zz 5 ?_;refine aY_ rfl fun k=>G_ dU_ rfl fun d=>u_ 0 Tryz.sizeOf33 rfl rfl rfl rfl rfl rfl (Zz 12 ?_)
 refine M_ (ι:={y:Nat×StM // y.1≤List.length (Mdl.no m)∧(∀ n,n∈y.2.ks↔n∈List.take y.1 (Mdl.no m))}) (fun y=>[(1,zp_ Q 0),(2,.int .i64 0),(3,zp_ d 0),(18,.slice (Mdl.noa m) (List.length (Mdl.no m)) (Mdl.noc m)),(19,.int .i64 (List.length (Mdl.no m):Int)),(20,.int .i64 (y.1.1:Int))]) (fun y=>((d,.cells #[.map (some k)] 33 (0,0))::((k,.map y.1.2.es y.1.2.c)::((Q,.cells #[.slice (Mdl.noa m) (List.length (Mdl.no m)) (Mdl.noc m),.slice (Mdl.tya m) (List.length (Mdl.ty m)) (Mdl.tyc m),.slice (Mdl.lia m) (List.length (Mdl.li m)) (Mdl.lic m),.slice (Mdl.dia m) (List.length (Mdl.di m)) (Mdl.dic m),.slice (Mdl.raa m) (List.length (Mdl.ra m)) (Mdl.rac m),.slice (Mdl.roa m) (List.length (Mdl.ro m)) (Mdl.roc m)] 28 (0,0))::[])))) (fun y=>[ma_ m]) (fun y=>List.length (Mdl.no m) - y.1.1) ⟨((0:Nat),StM.nil),by simp,(by intro n;simp[StM.nil])⟩ zl zp zh ?_;rintro ⟨⟨i,s⟩,O,M⟩;dsimp only at O M ⊢;refine Zi 2 (fun W=>?_) fun W=>?_
 ·refine Zz 7 ?_
  rw[List.take_of_length_le zs_]at M;refine eO_ (bW_ k (.map s.es s.c)) (bb_ (c_ d_)) (fun _ B A _=>⟨B,A⟩) ?_;refine eO_ (bW_ d (.cells #[.map (some k)] 33 (0,0))) (bb_ d_) (fun _ B A _=>⟨B,A⟩) ?_;refine aG_ (G_ Tryz.zeroValue74 rfl fun K=>u_ 0 Tryz.sizeOf74 rfl rfl rfl rfl rfl rfl (Zz 4 ?_));refine e_ (bK_ rfl rfl) rfl (G_ Tryz.zeroValue74 rfl fun J=>u_ 0 Tryz.sizeOf74 rfl rfl rfl rfl rfl rfl (Zz 3 ?_));refine eO_ (bW_ K (.cells #[.func (.func 36) #[] #[]] 74 (0,0))) (bb_ (c_ d_)) (fun _ B A _=>⟨B,A⟩) ?_;refine eO_ (bW_ J (.cells #[.func (.func 37) #[] #[zp_ d 0]] 74 (0,0))) (bb_ d_) (fun _ B A _=>⟨B,A⟩) ?_;refine aG_ (e_ (bK_ rfl rfl) rfl (Zz 5 ?_));refine e_ (bK_ rfl rfl) rfl (Zz 5 ?_);refine e_ (bK_ rfl rfl) rfl (Zz 8 ?_);refine g_ (nO_ (cv:=[zp_ K 0,zp_ d 0]) (Gc:=[bW_ K (.cells #[.func (.func 36) #[] #[]] 74 (0,0)),bW_ d (.cells #[.map (some k)] 33 (0,0)),bW_ k (.map s.es s.c)]) (qk_ s.ks) (Mdl.ty m) (Mdl.tya m) (Mdl.tyc m) C.ty fun x _=>by exact chk3_c x K d k s.es s.c s.ks s.hE) rfl m_ (fun v _ h=>by exact⟨h.2.2.2.2.1.2.1,⟨h.2.1,h.2.2.1,h.2.2.2.1,trivial⟩,trivial⟩) rfl fun⟨P,I⟩=>?_;dsimp only;refine Zz 1 ?_;cases P
  ·refine Zz 30 ?_
   refine e_ (aw_ rfl) rfl (Zz 9 ?_);exact ae_ iv_ ⟨1,.inr rfl,fun q=>absurd q zw_,fun q=>absurd q (fun q=>by have:=I.2 ⟨fun f L=>(te_ M f).trans (q.ty.1 f L),q.ty.2⟩;cases this)⟩ rfl m_ zt
  refine Zz 7 ?_;refine g_ (nO_ (cv:=[zp_ J 0]) (Gc:=[bW_ J (.cells #[.func (.func 37) #[] #[zp_ d 0]] 74 (0,0)),bW_ d (.cells #[.map (some k)] 33 (0,0)),bW_ k (.map s.es s.c)]) (qX_ s.ks) (Mdl.li m) (Mdl.lia m) (Mdl.lic m) C.li fun x _=>by exact chk4_c x J d k s.es s.c s.ks s.hE) rfl m_ (fun v _ h=>by exact⟨h.2.2.2.2.1.2.2.1,⟨h.1,h.2.2.1,h.2.2.2.1,trivial⟩,trivial⟩) rfl fun⟨S,H⟩=>?_;dsimp only;refine Zz 2 ?_;cases S
  ·refine Zz 24 ?_
   refine e_ (aw_ rfl) rfl (Zz 9 ?_);exact ae_ iv_ ⟨1,.inr rfl,fun q=>absurd q zw_,fun q=>absurd q (fun q=>by have:=H.2 ⟨fun f L=>(ts_ M f).trans (q.li.1 f L),q.li.2⟩;cases this)⟩ rfl m_ zt
  refine Zz 7 ?_;refine g_ (nO_ (cv:=[zp_ d 0]) (Gc:=[bW_ d (.cells #[.map (some k)] 33 (0,0)),bW_ k (.map s.es s.c)]) (kU_ s.ks) (Mdl.di m) (Mdl.dia m) (Mdl.dic m) C.di fun x _=>by exact wT_ x d k s.es s.c s.ks s.hE) rfl m_ (fun v _ h=>by exact⟨h.2.2.2.2.1.2.2.2.1,⟨h.2.2.1,h.2.2.2.1,trivial⟩,trivial⟩) rfl fun⟨V,G⟩=>?_;dsimp only;refine Zz 2 ?_;cases V
  ·refine Zz 18 ?_
   refine e_ (aw_ rfl) rfl (Zz 9 ?_);exact ae_ iv_ ⟨1,.inr rfl,fun q=>absurd q zw_,fun q=>absurd q (fun q=>by have:=G.2 ⟨fun f L=>(pt_ M f).trans (q.di.1 f L),q.di.2⟩;cases this)⟩ rfl m_ zt
  refine Zz 7 ?_;refine g_ (nO_ (cv:=[zp_ d 0]) (Gc:=[bW_ d (.cells #[.map (some k)] 33 (0,0)),bW_ k (.map s.es s.c)]) (qx_ s.ks) (Mdl.ra m) (Mdl.raa m) (Mdl.rac m) C.ra fun x _=>by exact chk5_c x d k s.es s.c s.ks s.hE) rfl m_ (fun v _ h=>by exact⟨h.2.2.2.2.1.2.2.2.2.1,⟨h.2.2.1,h.2.2.2.1,trivial⟩,trivial⟩) rfl fun⟨T,E⟩=>?_;dsimp only;refine Zz 2 ?_;cases T
  ·refine Zz 12 ?_
   refine e_ (aw_ rfl) rfl (Zz 9 ?_);exact ae_ iv_ ⟨1,.inr rfl,fun q=>absurd q zw_,fun q=>absurd q (fun q=>by have:=E.2 ⟨fun f L=>(th_ M f).trans (q.ra.1 f L),q.ra.2⟩;cases this)⟩ rfl m_ zt
  refine Zz 7 ?_;refine g_ (nO_ (cv:=[]) (Gc:=[]) (qm_) (Mdl.ro m) (Mdl.roa m) (Mdl.roc m) C.ro fun x _=>by exact wU_ x) rfl m_ (fun v _ h=>by exact⟨h.2.2.2.2.1.2.2.2.2.2,trivial,trivial⟩) rfl fun⟨X,F⟩=>?_;dsimp only;refine Zz 8 ?_;refine e_ (aw_ rfl) rfl (Zz 2 ?_);cases X
  ·refine Zz 7 ?_
   exact ae_ iv_ ⟨1,.inr rfl,fun q=>absurd q zw_,fun q=>absurd q (fun q=>by have:=F.2 ⟨fun f L=>q.ro.1 f L,q.ro.2⟩;cases this)⟩ rfl m_ zt
  refine Zz 9 ?_;exact ae_ iv_ ⟨0,.inl rfl,fun _=>(yg_ M R I H G E F).2 ⟨rfl,rfl,rfl,rfl,rfl,rfl⟩,fun _=>rfl⟩ rfl m_ zt
 obtain⟨N,Y,U,Z⟩:=zge (show i<List.length (Mdl.no m) by omega);refine Zz 18 ?_;refine di_ 1 s bi_ (.inr rfl) H_ rfl rfl rfl rfl (Zz 7 ?_);exact w_ ⟨(i+1,(StM.add s Y)),N,(by intro n;rw[StM.mem,M n,tk1 U];simp)⟩ zt_ zl zp zh
end Go.Proofs.YtpbnmnfdgckaiaaGreatDoor
namespace Go.Proofs.YtpbnmnfdgckaiaaGreatDoor
open Go Go.Sx Go.Proofs
attribute [local irreducible] Code.wp wpList wpAnyH
open Go.Vs Go.Shelf Go.RowKit
structure Bok (ls:List Ax) (m:Mdl) (c:Cl):Prop where
  chk:∀ x∈ls,x.check=0
  nc:¬ mj_ (cD_ ls)
  pc:de_ (cc_ 0 ls)=0
  at':c.atoms=atS (cc_ 0 ls)
  fs:gH_ (cc_ 0 ls) (atS (cc_ 0 ls)) 65536 (some c.facts)
  asm:AsmR (cc_ 0 ls) c m.no m.ty m.li m.di m.ra
  inc:zb_ ls m.ro
theorem uR_.bok {ls:List Ax} {m:Mdl} {e:Int} (h:uR_ ls m e) (d:e=0):∃ c,Bok ls m c:=by
 rcases h with⟨_,x,k,c,q,A,v⟩|⟨h,_⟩
 ·obtain⟨B,_,_,_,y,C⟩:=q.good
  exact⟨c,x,k,B,y,C,A,v⟩
 exact absurd d h
theorem jb_ {p:List Pc} (k:de_ p=0) {y:Fc} (h:Der p (atS p) y):(y.kind=1→y=X_ y.a y.b∧y.a∈atS p∧y.b∈atS p)∧(y.kind=2→y=ab_ y.a y.r y.b∧y.a∈atS p∧y.b∈atS p∧y.r≠[])∧(y.kind=3→y=am_ y.a y.r y.lo y.hi∧y.a∈atS p∧y.r≠[]∧-1099511627776≤y.lo∧y.lo≤y.hi∧y.hi≤1099511627776):=by
 have d:=der_ok (fz_ k) h;have e:=h.form fun x v=>gP_ (fz_ k x v)
 rcases e with⟨a,b,rfl⟩|⟨a,r,b,rfl,_⟩|⟨a,r,lo,hi,rfl,_⟩
 ·have:=fo1.1 d
  exact⟨fun _=>⟨rfl,this.1,this.2⟩,fun q=>absurd q (by simp[X_]),fun q=>absurd q (by simp[X_])⟩
 ·have:=fo2.1 d
  exact⟨fun q=>absurd q (by simp[ab_]),fun _=>⟨rfl,this.1,this.2.1,this.2.2⟩,fun q=>absurd q (by simp[ab_])⟩
 have:=fo3.1 d;exact⟨fun q=>absurd q (by simp[am_]),fun q=>absurd q (by simp[am_]),fun _=>⟨rfl,this.1,this.2.1,this.2.2.1,this.2.2.2.1,this.2.2.2.2⟩⟩
theorem kt_ {p:List Pc} {F:List Fc} (A:∀ y,y∈F↔Der p (atS p) y) (C:de_ p=0) {s:Str} {z:Fc}:(s,z)∈dz_ p F↔∃ y∈p,y.kind=3∧Der p (atS p) (X_ s y.a)∧z=ab_ s y.r y.c:=by
 rw[rs_];constructor
 ·rintro ⟨f,B,y,q,e,v,x,rfl,rfl⟩
  have d:=(A f).1 B;have k:=((jb_ C d).1 e).1;refine⟨y,q,v,?_,rfl⟩;rw[x,← k];exact d
 rintro ⟨y,q,e,d,rfl⟩;exact⟨X_ s y.a,(A _).2 d,y,q,rfl,e,rfl,rfl,rfl⟩
theorem kh_ {D:List (Str×Fc)} {s t:Str}:t∈nxD D s↔∃ z,(s,z)∈D∧z.b=t:=by
  unfold nxD;rw[List.mem_map];exact⟨fun⟨z,h,e⟩=>⟨z,bM_.1 h,e⟩,fun⟨z,h,e⟩=>⟨z,bM_.2 h,e⟩⟩
theorem RchS.mono {nx d:Str→List Str} {I e:List Str} (k:∀ s t,t∈nx s→t∈d s) (q:∀ s∈I,s∈e) {t:Str} (h:RchS nx I t):RchS d e t:=by
  induction h with
  | zero h=>exact .zero (q _ h)
  | step _ ht ih=>exact .step ih (k _ _ ht)
theorem hB_ {l:List Str} {s:Str}:s∈el_ l↔s∈l∧nls s=false:=by unfold el_;rw[List.mem_filter,Bool.not_eq_true']
section
variable {ls:List Ax} {m:Mdl} {c:Cl} (h:Bok ls m c)
include h
theorem Bok.der (y:Fc):y∈c.facts↔Der (cc_ 0 ls) (atS (cc_ 0 ls)) y:=h.fs.2.1 y
theorem Bok.rch (s:Str):s∈m.no↔RchS (nxD (dz_ (cc_ 0 ls) c.facts)) (el_ (atS (cc_ 0 ls))) s:=by rw[← h.at'];exact h.asm.nd.mem s
theorem Bok.next {s:Str} {z:Fc} (d:s∈m.no) (e:(s,z)∈dz_ (cc_ 0 ls) c.facts):z.b∈m.no:=(h.rch _).2 (.step ((h.rch _).1 d) (kh_.2 ⟨z,e,rfl⟩))
theorem Bok.no_at {s:Str} (v:s∈m.no):s∈atS (cc_ 0 ls):=by
  have d:=(h.rch s).1 v;cases d with
  | zero q=>exact (hB_.1 q).1
  | step _ q =>
    obtain⟨z,x,rfl⟩:=kh_.1 q;obtain⟨y,k,e,_,rfl⟩:=(kt_ h.der h.pc).1 x;exact zq_ k (.inr (.inr rfl)) (tc_ (fz_ h.pc y k) (by simp[e]))
theorem Bok.ind {s:Str} (d:s∈atS (cc_ 0 ls)) (e:nls s=false):s∈m.no:=(h.rch s).2 (.zero (hB_.2 ⟨d,e⟩))
theorem Bok.ty (z:Fc):z∈m.ty↔Der (cc_ 0 ls) (atS (cc_ 0 ls)) z∧z.kind=1∧z.a∈m.no:=by rw[h.asm.ty.2,h.der]
theorem Bok.li (z:Fc):z∈m.li↔Der (cc_ 0 ls) (atS (cc_ 0 ls)) z∧z.kind=2∧nls z.a=false∧nls z.b=false:=by rw[h.asm.li.2,h.der]
theorem Bok.ra (z:Fc):z∈m.ra↔Der (cc_ 0 ls) (atS (cc_ 0 ls)) z∧z.kind=3∧z.a∈m.no:=by rw[h.asm.ra.2,h.der]
theorem Bok.di (z:Fc):z∈m.di↔∃ s∈m.no,∃ y∈cc_ 0 ls,y.kind=3∧Der (cc_ 0 ls) (atS (cc_ 0 ls)) (X_ s y.a)∧z=ab_ s y.r y.c:=by
  rw[h.asm.di.2];exact⟨fun⟨s,d,q⟩=>⟨s,d,(kt_ h.der h.pc).1 q⟩,fun⟨s,d,q⟩=>⟨s,d,(kt_ h.der h.pc).2 q⟩⟩
theorem Bok.nls_N {N:List Str} (v:∀ s,(s∈el_ (atS (cc_ 0 ls))∨s∈N)↔RchS (nxD (dz_ (cc_ 0 ls) c.facts)) (el_ (atS (cc_ 0 ls))) s) (e:∀ s∈N,s ∉ el_ (atS (cc_ 0 ls))):∀ s∈N,nls s=true:=fun s d=>by
 have k:=h.no_at ((h.rch s).2 ((v s).1 (.inr d)))
 by_cases q:nls s=true
 ·exact q
 exact absurd (hB_.2 ⟨k,by simpa using q⟩) (e s d)
theorem Bok.nodup:m.no.Nodup:=tm_ h.asm.nd (by rw[h.at'];exact ((nV_ _).sublist List.filter_sublist).imp fun {a b} q e=>by subst e;exact List.lt_irrefl _ q)
end
theorem ye_ {l:List Str} (k:∀ s∈l,s≠[]) (h:l.Pairwise sl_):og_ l:=⟨k,fun i p s q d=>by
  obtain⟨y,v⟩:=List.getElem?_eq_some_iff.1 q;obtain⟨e,x⟩:=List.getElem?_eq_some_iff.1 d;have:=List.pairwise_iff_getElem.1 h i (i+1) y e zs_;rwa [v,x]at this⟩
theorem tn_ {p s:Str} (h:nls p=nls s) (hl:p<s):sl_ p s:=fun q=>by
 rcases q with⟨_,q⟩|⟨d,e⟩
 ·exact absurd hl (List.not_lt.2 q)
 rw[h,e]at d;cases d
theorem Bok.nodV {ls:List Ax} {m:Mdl} {c:Cl} (h:Bok ls m c):og_ m.no:=by
 refine ye_ (fun s E=>sP_ (h.no_at E)) ?_;obtain⟨N,C,e,x,v⟩:=h.asm.nd;rw[h.at']at e x v;have B:=h.nls_N v x;rw[e,List.pairwise_append];refine⟨?_,?_,fun a k b d=>?_⟩
 ·refine List.Pairwise.imp_of_mem (fun {a b} k d q=>tn_ ?_ q) ((nV_ _).sublist List.filter_sublist)
  rw[(hB_.1 k).2,(hB_.1 d).2]
 ·refine List.Pairwise.imp_of_mem (fun {a b} k d q=>tn_ ?_ q) (gS_ C)
  rw[List.mem_mergeSort]at k d;rw[B a k,B b d]
 rw[List.mem_mergeSort]at d;have y:=(hB_.1 k).2;have A:=B b d;rintro (⟨q,_⟩|⟨q,_⟩)
 ·rw[y,A]at q;cases q
 rw[y]at q;cases q
theorem abv_ne {l:List Ax} (y:∀ x∈l,x.check=0) {r t:Str} (A:r≠[]) (h:RchS (lat (gm_ l)) [r] t):t≠[]:=by
 cases h with
 | zero h=>rw[List.mem_singleton.1 h];exact A
 | step _ ht =>
   have k:=bM_.1 ht;unfold gm_ at k;obtain⟨x,v,d⟩:=List.mem_flatMap.1 k
   split at d
   · rename_i q
     simp only[List.mem_singleton,Prod.mk.injEq]at d;rw[d.2];have:=(Ax.good_of (y x v)).role (.inr (.inl q));intro e;rw[e]at this;revert this;decide
   · simp at d
theorem Bok.mdV {ls:List Ax} {m:Mdl} {c:Cl} (h:Bok ls m c):MdV m where
  no:=h.nodV
  ty:=⟨fun f d=>by
    obtain⟨q,e,k⟩:=(h.ty f).1 d;obtain⟨x,A,v⟩:=(jb_ h.pc q).1 e;have C:=sP_ A;have E:=sP_ v;unfold qk_ qm_;rw[decide_eq_true x,decide_eq_true k,bne_iff_ne.2 C,bne_iff_ne.2 E];rfl,h.asm.ty.1⟩
  li:=⟨fun f d=>by
    obtain⟨q,e,k,I⟩:=(h.li f).1 d;obtain⟨x,A,v,B⟩:=(jb_ h.pc q).2.1 e;unfold qX_ kU_;rw[decide_eq_true x,decide_eq_true (h.ind A k),decide_eq_true (h.ind v I),bne_iff_ne.2 B,k,I];rfl,h.asm.li.1⟩
  di:=⟨fun f d=>by
    obtain⟨s,F,y,H,G,J,rfl⟩:=(h.di f).1 d;have L:=h.next F ((kt_ h.der h.pc).2 ⟨y,H,G,J,rfl⟩);have K:(ab_ s y.r y.c).r≠[]:=(gP_ (fz_ h.pc y H)).rok.1 (by simp[G]);unfold kU_;rw[decide_eq_true (p:=ab_ s y.r y.c=ab_ (ab_ s y.r y.c).a (ab_ s y.r y.c).r (ab_ s y.r y.c).b) rfl,decide_eq_true (p:=(ab_ s y.r y.c).a∈m.no) F,decide_eq_true (p:=(ab_ s y.r y.c).b∈m.no) L,bne_iff_ne.2 K];rfl,h.asm.di.1⟩
  ra:=⟨fun f d=>by
    obtain⟨q,e,k⟩:=(h.ra f).1 d;obtain⟨x,A,v,B,M,N⟩:=(jb_ h.pc q).2.2 e;unfold qx_;rw[decide_eq_true x,decide_eq_true k,bne_iff_ne.2 v,decide_eq_true B,decide_eq_true M,decide_eq_true N];rfl,h.asm.ra.1⟩
  ro:=⟨fun f d=>by
    obtain⟨r,t,⟨q,e⟩,k,rfl⟩:=(h.inc.2 f).1 d;have E:(X_ r t).b≠[]:=abv_ne h.chk e k;have C:(X_ r t).a≠[]:=e;unfold qm_;rw[decide_eq_true (p:=X_ r t=X_ (X_ r t).a (X_ r t).b) rfl,bne_iff_ne.2 C,bne_iff_ne.2 E];rfl,h.inc.1⟩
theorem Bok.self {ls:List Ax} {m:Mdl} {c:Cl} (h:Bok ls m c) {s:Str} (d:s∈m.no):X_ s s∈m.ty∧X_ s [42]∈m.ty :=
  ⟨(h.ty _).2 ⟨Der.step (.r1 (h.no_at d)),rfl,d⟩,(h.ty _).2 ⟨Der.step (.r2 (h.no_at d)),rfl,d⟩⟩
def Clsd (di:List Fc) (K:List Str):Prop:=∀ f∈di,f.a∈K→f.b∈K
theorem Bok.all {ls:List Ax} {m:Mdl} {c:Cl} (h:Bok ls m c) {K:List Str} (E:K.Nodup) (C:∀ x∈K,x∈m.no) (hi:∀ x∈m.no,nls x=false→x∈K) (B:Clsd m.di K∨m.no.length≤K.length):(∀ x∈m.no,x∈K)∧K.length=m.no.length:=by
 have v:∀ x∈m.no,x∈K:=by
   rcases B with B|B
   · intro x A
     have A:=(h.rch x).1 A
     induction A with
     | zero q=>exact hi _ ((h.rch _).2 (.zero q)) (hB_.1 q).2
     | @step s t hs' ht ih =>
       obtain⟨z,k,rfl⟩:=kh_.1 ht;have d:=(h.rch s).2 hs';have F:z∈m.di:=(h.asm.di.2 z).2 ⟨s,d,k⟩;have G:z.a=s:=by obtain⟨y,_,_,_,e⟩:=(kt_ h.der h.pc).1 k;rw[e];rfl
       exact B z F (by rw[G];exact ih d)
   · intro x A
     apply Classical.byContradiction
     intro q
     have:=cS_ (l:=x::K) (m:=m.no) (List.nodup_cons.2 ⟨q,E⟩) fun z k=>by
       rcases List.mem_cons.1 k with rfl|k
       · exact A
       · exact C z k
     simp only[List.length_cons]at this;omega
 exact⟨v,Nat.le_antisymm (cS_ E C) (cS_ h.nodup v)⟩
section
variable {R:List Str} {f:Int}
theorem zr_ (c:Con):∀ (r:List Con) (j:Nat) (a:Str) (l:List Pc),(∀ q∈l,q.kind=3→q.r∈R)→∀ q∈Con.andP f c r j a l,q.kind=3→q.r∈R
  | [],_,_,l,hl=>hl
  | p::r,j,a,l,hl=>zr_ c r (j+1) _ _ (bm_ hl fun k=>by simp at k)
theorem wa_:∀ (m:Nat) (c:Con),c.sz≤m→∀ l:List Pc,(∀ q∈l,q.kind=3→q.r∈R)→∀ q∈c.leftP f l,q.kind=3→q.r∈R
 | 0,c,h=>by have:=c.sz_pos;omega
 | m+1,c,h=>fun l hl=>by
   have e:∀ ps:List Con,(∀ p∈ps,p.sz≤m)→∀ l:List Pc,(∀ q∈l,q.kind=3→q.r∈R)→∀ q∈Con.leftP.lefts f ps l,q.kind=3→q.r∈R:=by
     intro ps
     induction ps with
     | nil=>intro _ l hl;exact hl
     | cons p ps ih=>intro d l hl;exact ih (fun q v=>d q (by simp[v])) _ (wa_ m p (d p zB_) l hl)
   have hk:=e c.parts (fun p d=>by have:=Con.sz_part d;omega) l hl;rw[Con.leftP_eq]
   split
   · exact zr_ c _ 1 _ _ hk
   · split
     · exact bm_ hk fun k=>by simp at k
     · split
       · exact bm_ hl fun k=>by simp at k
       · exact hl
theorem pp_:∀ (m:Nat) (c:Con),c.sz≤m→(∀ r∈c.nms 6,r∈R)→∀ l:List Pc,(∀ q∈l,q.kind=3→q.r∈R)→∀ q∈c.rightP f l,q.kind=3→q.r∈R
 | 0,c,h=>by have:=c.sz_pos;omega
 | m+1,c,h=>fun A l hl=>by
   have e:∀ p∈c.parts,p.sz≤m∧∀ r∈p.nms 6,r∈R:=fun p d=>⟨by have:=Con.sz_part d;omega,fun r C=>A r (by rw[Con.nms_eq,List.mem_append];exact .inr (List.mem_flatMap.2 ⟨p,d,C⟩))⟩
   have y:∀ ps:List Con,(∀ p∈ps,p.sz≤m∧∀ r∈p.nms 6,r∈R)→∀ a l,(∀ q∈l,Pc.kind q=3→q.r∈R)→∀ q∈Con.rightP.rights f a ps l,q.kind=3→q.r∈R:=by
     intro ps
     induction ps with
     | nil=>intro _ a l hl;exact hl
     | cons p ps ih=>intro d a l hl;exact ih (fun q x=>d q (by simp[x])) a _ (pp_ m p (d p zB_).1 (d p zB_).2 _ (bm_ hl fun k=>by simp at k))
   have v:∀ ps:List Con,(∀ p∈ps,p.sz≤m∧∀ r∈p.nms 6,r∈R)→∀ l,(∀ q∈l,Pc.kind q=3→q.r∈R)→∀ q∈Con.rightP.righty f ps l,q.kind=3→q.r∈R:=by
     intro ps
     induction ps with
     | nil=>intro _ l hl;exact hl
     | cons p ps ih=>intro d l hl;exact ih (fun q x=>d q (by simp[x])) _ (pp_ m p (d p zB_).1 (d p zB_).2 l hl)
   rw[Con.rightP_eq]
   split
   · exact y _ e _ _ hl
   · split
     · rename_i B
       exact v _ e _ (bm_ hl fun _=>A _ (by rw[Con.nms_eq,if_pos B];simp))
     · split
       · exact bm_ hl fun k=>by simp at k
       · exact hl
end
theorem tD_ {R:List Str} {f:Int} (ro:Str):∀ (d:List Str) (g:Str) (l:List Pc),(∀ q∈l,q.kind=3→q.r∈R)→∀ q∈Ax.chainP f ro d g l,q.kind=3→q.r∈R
  | [],_,l,hl=>hl
  | r::t,g,l,hl=>tD_ ro t _ _ (bm_ hl fun k=>by simp at k)
theorem xV_ {x:Ax} {f:Int}:∀ q∈x.pieces f,q.kind=3→q.r∈x.vc 6:=by
 have d:∀ q∈([]:List Pc),q.kind=3→q.r∈x.vc 6:=fun q A=>by cases A
 have y:∀ r∈x.left.nms 6,r∈x.vc 6:=fun r v=>by unfold Ax.vc;simp[v]
 have e:∀ r∈x.right.nms 6,r∈x.vc 6:=fun r v=>by unfold Ax.vc;simp[v]
 have L:=fun (c:Con)=>wa_ (R:=x.vc 6) (f:=f) _ c (Nat.le_refl _)
 have Q:=fun (c:Con)=>pp_ (R:=x.vc 6) (f:=f) _ c (Nat.le_refl _)
 unfold Ax.pieces
 split
 ·exact bm_ (Q _ e _ (L _ _ d)) fun k=>by simp at k
 split
 ·exact bm_ (Q _ y _ (L _ _ (bm_ (Q _ e _ (L _ _ d)) fun k=>by simp at k))) fun k=>by simp at k
 split
 ·exact bm_ (L _ _ (L _ _ d)) fun k=>by simp at k
 split
 ·exact bm_ (Q _ e _ d) fun k=>by simp at k
 split
 ·exact bm_ d fun k=>by simp at k
 split
 ·exact tD_ _ _ _ _ d
 split
 ·exact bm_ d fun k=>by simp at k
 split
 ·exact bm_ (Q _ e _ d) fun k=>by simp at k
 exact bm_ d fun _=>by unfold Ax.vc;simp
theorem flat3 {l:List Ax} {q:Pc} (h:q∈cc_ 0 l) (k:q.kind=3):q.r∈vcL 6 l:=by
  obtain⟨j,a,e,d⟩:=nK_.1 h;exact List.mem_flatMap.2 ⟨a,List.mem_of_getElem? e,xV_ q d k⟩
theorem flat5 {l:List Ax} {r t:Str} (h:(r,t)∈gm_ l):∃ y∈cc_ 0 l,y.kind=5∧y.r=r∧y.t=t:=by
 unfold gm_ at h;obtain⟨x,k,d⟩:=List.mem_flatMap.1 h
 split at d
 ·rename_i e
  simp only[List.mem_singleton,Prod.mk.injEq]at d;obtain⟨j,q⟩:=List.getElem?_of_mem k;refine⟨⟨5,[],[],[],x.roles.headD [],[],x.role,0,0,((0+j:Nat):Int)⟩,nK_.2 ⟨j,x,q,?_⟩,rfl,d.1.symm,d.2.symm⟩;unfold Ax.pieces;rw[if_neg zs_,if_neg zs_,if_neg zs_,if_neg zs_,if_pos e];simp[ins]
 simp at d
section
variable {ls:List Ax} {m:Mdl} {c:Cl} (h:Bok ls m c)
include h
theorem Bok.di_r {f:Fc} (k:f∈m.di):f=ab_ f.a f.r f.b∧f.r∈vcL 6 ls∧f.r≠[]∧Der (cc_ 0 ls) (atS (cc_ 0 ls)) f:=by
  obtain⟨s,v,y,e,d,q,rfl⟩:=(h.di f).1 k;exact⟨rfl,flat3 e d,(gP_ (fz_ h.pc y e)).rok.1 zaa_,Der.step (.r5 e d q)⟩
omit h in
theorem yi_ {a b r t:Str} (d:Der (cc_ 0 ls) (atS (cc_ 0 ls)) (ab_ a r b)) (e:RchS (lat (gm_ ls)) [r] t):Der (cc_ 0 ls) (atS (cc_ 0 ls)) (ab_ a t b):=by
  induction e with
  | zero q=>rw[List.mem_singleton.1 q];exact d
  | step _ q ih =>
    obtain⟨y,k,v,rfl,rfl⟩:=flat5 (bM_.1 q);exact Der.step (.r6 k v ih)
theorem Bok.role {f:Fc} (d:f∈m.di) {t:Str} (k:RchS (lat (gm_ ls)) [f.r] t):vC_ m f.a t f.b=true:=by
 obtain⟨e,y,x,v⟩:=h.di_r d
 by_cases q:nls f.a=false∧nls f.b=false
 ·rw[vB_ q.1 q.2]
  exact decide_eq_true ((h.li _).2 ⟨yi_ (r:=f.r) (by rw[← e];exact v) k,rfl,q⟩)
 rw[kL_ q];refine kA_ d (po_ e ?_);unfold rt_;rw[decide_eq_true ((h.inc.2 _).2 ⟨f.r,t,⟨y,x⟩,k,rfl⟩),Bool.or_true]
theorem Bok.plain {r:Str} (e:r∈vcL 6 ls) (d:r≠[]):aK_ r=true:=ke_ (qg_ h.chk e d)
end
end Go.Proofs.YtpbnmnfdgckaiaaGreatDoor
namespace Go.Proofs.YtpbnmnfdgckaiaaGreatDoor
open Go Go.Sx Go.Proofs
attribute [local irreducible] Code.wp wpList wpAnyH
open Go.Vs Go.Shelf Go.RowKit
def L22 (ad:Option Addr):List Ax:=[Ax.mk 1 false (Con.mk 3 [65] 0 0 none 0 []) (Con.mk 6 [114] 0 0 ad 1 [(Con.mk 3 [66] 0 0 none 0 [])]) none 0 [] [] [] [],Ax.mk 8 false (Con.mk 0 [] 0 0 none 0 []) (Con.mk 3 [65] 0 0 none 0 []) none 0 [] [] [97] []]
def P22:List Pc:=[⟨3,[60,115,111,109,101,32,114,32,66,62],[],[66],[114],[],[],0,0,0⟩,⟨1,[65],[],[60,115,111,109,101,32,114,32,66,62],[],[],[],0,0,0⟩,⟨1,[123,97,125],[],[65],[],[],[],0,0,1⟩]
theorem za_ (ad:Option Addr):∀ x∈L22 ad,x.check=0:=fun x d=>by
  unfold L22 at d;simp only[List.mem_cons,List.not_mem_nil,or_false]at d;rcases d with rfl|rfl<;>kernel_rfl
theorem L22_ok (ad:Option Addr):∀ x∈L22 ad,x.ok:=fun x d=>by
  unfold L22 at d;simp only[List.mem_cons,List.not_mem_nil,or_false]at d;rcases d with rfl|rfl<;>(constructor<;>simp[Con.ok,Con.ok.oks])
theorem nX_ (ad:Option Addr):cc_ 0 (L22 ad)=P22:=by kernel_rfl
theorem uQ_ (ad:Option Addr):cD_ (L22 ad)=[]:=by kernel_rfl
theorem rz_:¬ mj_ []:=fun⟨n,f,c,e,_,d,_⟩=>by have:=d 0 e;cases this
def A22:List Str:=[[33],[42],[60,115,111,109,101,32,114,32,66,62],[65],[66],[123,97,125]]
theorem tI_:atS P22=A22:=ht_ mm_ List.lt_trans (nV_ P22) zw_ fun x=>by
 rw[hN_,fp_];simp only[cU_,lf_,P22,A22,List.flatMap_cons,List.flatMap_nil,List.mem_append,List.mem_cons,List.not_mem_nil,or_false];simp
 constructor
 ·intro h
  simp only[or_assoc]at h;rcases h with rfl|rfl|rfl|rfl|rfl|rfl|rfl|rfl<;>simp
 rintro (rfl|rfl|rfl|rfl|rfl|rfl)<;>simp
theorem wX_:atS []=[[33],[42]]:=ht_ mm_ List.lt_trans (nV_ []) zw_ fun x=>by
  rw[hN_,fp_];simp[cU_,or_comm]
def F22:List Fc:=nQ_ P22 A22 6
theorem tL_:de_ P22=0:=by decide +kernel
theorem xg_:gH_ P22 A22 65536 (some F22):=ry_ (oX_ tL_) 6 65536 zau_ zau_
theorem F0_is:gH_ [] [[33],[42]] 65536 (some (nQ_ [] [[33],[42]] 3)):=ry_ (fun x d=>by simp at d) 3 65536 zau_ zau_
theorem zc_ {s t:Str} (h:t∈nxD (dz_ P22 F22) s):s∈[[60,115,111,109,101,32,114,32,66,62],[65],[123,97,125]]∧t=[66]:=by
  have d:((dz_ P22 F22).all fun e=>decide (e.1∈[[60,115,111,109,101,32,114,32,66,62],[65],[123,97,125]])&&decide (e.2.b=[66]))=true:=by decide +kernel
  obtain⟨z,k,rfl⟩:=kh_.1 h;have:=List.all_eq_true.1 d _ k;simp only[Bool.and_eq_true,decide_eq_true_eq]at this;exact this
theorem xh_:([123,97,125],ab_ [123,97,125] [114] [66])∈dz_ P22 F22:=by decide +kernel
theorem N22:oh_ (dz_ P22 F22) (el_ A22) [[123,97,125],[66]]:=by
 have d:el_ A22=[[123,97,125]]:=by decide +kernel
 refine⟨[[66]],by simp,by rw[d,aS_,List.mergeSort_singleton];rfl,by rw[d];decide,fun s=>?_⟩;rw[d];constructor
 ·rintro (h|h)
  ·exact .zero h
  rw[List.mem_singleton.1 h];exact .step (.zero (List.mem_singleton.2 rfl)) (kh_.2 ⟨_,xh_,rfl⟩)
 intro h
 induction h with
 | zero h=>exact .inl h
 | step _ ht _=>exact .inr (List.mem_singleton.2 (zc_ ht).2)
theorem bld22 {ad:Option Addr} {m:Mdl} {e:Int} (h:uR_ (L22 ad) m e):e=0∧m.no=[[123,97,125],[66]]∧m.di=[ab_ [123,97,125] [114] [66]]∧X_ [123,97,125] [65]∈m.ty∧vC_ m [123,97,125] [114] [66]=true∧MdV m:=by
 have H:e=0:=by
   rcases h with⟨h,_⟩|⟨_,_,⟨x,I,h⟩|h|⟨_,c,h⟩⟩
   · exact h
   · exact absurd (za_ ad x I) h
   · rw[uQ_]at h;exact absurd h rz_
   · rw[nX_]at h
     exact ((tJ_ h tL_ zw_ zw_ (r:=some F22) (by rw[tI_];exact xg_)).1 _ rfl).1
 subst H;obtain⟨c,h⟩:=h.bok rfl;have v:=h.fs;have q:=h.at';have d:=h.asm;have B:=h.mdV;rw[nX_,tI_]at v q;rw[nX_]at d;have C:c.facts=F22:=by have:=gH_.uniq v xg_;exact Option.some.inj this
 have E:=d.nd;rw[C,q]at E;have k:=E.uniq N22
 have y:m.di=[ab_ [123,97,125] [114] [66]]:=by
   refine Srt.ext d.di.1 zB_ fun z=>?_;rw[d.di.2,k,C,List.mem_singleton];constructor
   · rintro ⟨s,F,G⟩
     have A:((dz_ P22 F22).all fun e=>!decide (e.1∈[[123,97,125],[66]])||decide (e.2=ab_ [123,97,125] [114] [66]))=true:=by decide +kernel
     have:=List.all_eq_true.1 A _ G;simpa [F] using this
   · rintro rfl
     exact⟨_,by simp,xh_⟩
 refine⟨rfl,k,y,(d.ty.2 _).2 ⟨by rw[C];decide +kernel,rfl,by rw[k];simp[X_]⟩,?_,B⟩;rw[kL_ zw_];refine kA_ (x:=ab_ [123,97,125] [114] [66]) (by rw[y];simp) (po_ rfl ?_);unfold rt_;rfl
theorem bld0 {m:Mdl} {e:Int} (h:uR_ [] m e):e=0∧m.no=[]:=by
 have A:e=0:=by
   rcases h with⟨h,_⟩|⟨_,_,⟨x,B,h⟩|h|⟨_,c,h⟩⟩
   · exact h
   · cases B
   · exact absurd h rz_
   · exact ((tJ_ (p:=[]) h zau_ zw_ zw_ (r:=some _) (by rw[wX_];exact F0_is)).1 _ rfl).1
 subst A;obtain⟨c,h⟩:=h.bok rfl;refine⟨rfl,List.eq_nil_iff_forall_not_mem.2 fun s v=>?_⟩;have k:=(h.rch s).1 v
 have d:∀ t,¬ RchS (nxD (dz_ (cc_ 0 []) c.facts)) (el_ (atS (cc_ 0 []))) t:=fun t q=>by
   have y:el_ (atS (cc_ 0 []))=[]:=by rw[show cc_ 0 []=[] from rfl,wX_];decide +kernel
   rw[y]at q
   induction q with
   | zero h=>cases h
   | step _ _ ih=>exact ih
 exact d s k
theorem vm_:hX_ Tryz.prog 42 [(0,1),(1,1),(2,5),(7,5),(12,1),(13,1),(14,1),(15,1)] [.int .i64 0,.bool false,.int .i64 0,str [],.int .i64 0,.int .i64 0,.slice none 0 0,.int .i64 0,str [],.int .i64 0,.int .i64 0,.slice none 0 0,.slice none 0 0,str [],str [],str []]:=⟨_,cI_,cO_,fun w=>by simp[ak_,dQ_,E_,bP_,J_]⟩
theorem kR_ (s:Str):Fn0 Tryz.prog 26 #[str s] (Con.val (Con.mk 3 s 0 0 none 0 [])):=by
  refine i_ Tryz.func26 rfl rfl Tryz.ntmps26 rfl fun q=>?_;refine Zz 2 ?_;refine G_ bU_ rfl fun m=>Zz 5 ?_
  refine e_ (I_ rQ_ rfl rfl) rfl (u_ 0 J_ rfl rfl rfl rfl rfl rfl (Zz 3 ?_));exact gW_ () (fun d v e k=>ei_ (us:=Con.cells (Con.mk 3 s 0 0 none 0 [])) 0 Tryz.results26 aH_ J_ rfl rfl rfl d v e k) m_ (fun v _ h=>trivial)
theorem vx_:Tri Tryz.prog 7 #[] [] [ci_,jf_] (fun _:Unit=>.bool true) (fun _=>[]) (fun _=>[]):=by
 refine i_ Tryz.func7 rfl rfl Tryz.ntmps7 rfl fun v_1=>?_;refine be_ ?_;refine aG_ ?_;refine e_ (az_ rfl) rfl ?_;refine bq_ ?_;refine aZ_ rfl ?_;refine be_ ?_;refine aG_ ?_;refine g_ (kR_ [65]) rfl m_ zt rfl fun _=>?_;refine g_ (kR_ [66]) rfl m_ zt rfl fun _=>?_;refine U_ ad_ J_ bU_ rfl rfl rfl rfl rfl rfl fun Q=>?_;refine cQ_ (List.flatMap Con.cells [(Con.mk 3 [66] 0 0 none 0 [])]) d_ rfl ?_;refine e_ (I_ rQ_ rfl rfl) rfl ?_;refine e_ (I_ vm_ rfl rfl) rfl ?_;refine g_ (kR_ [65]) rfl m_ zt rfl fun _=>?_;refine e_ (I_ vm_ rfl rfl) rfl ?_;refine U_ aU_ br_ cI_ rfl rfl rfl rfl rfl rfl fun b_2=>?_;refine cQ_ (List.flatMap Ax.cells [(Ax.mk 1 false (Con.mk 3 [65] 0 0 none 0 []) (Con.mk 6 [114] 0 0 (some ⟨Q,0,none⟩) 1 [(Con.mk 3 [66] 0 0 none 0 [])]) none 0 [] [] [] []),(Ax.mk 8 false (Con.mk 0 [] 0 0 none 0 []) (Con.mk 3 [65] 0 0 none 0 []) none 0 [] [] [97] [])]) d_ rfl ?_;refine e_ (az_ rfl) rfl ?_;refine bq_ ?_;refine aZ_ rfl ?_;refine be_ ?_;refine aG_ ?_;refine e_ (al_ rfl) rfl ?_;refine g_ (pU_ [(Ax.mk 1 false (Con.mk 3 [65] 0 0 none 0 []) (Con.mk 6 [114] 0 0 (some ⟨Q,0,none⟩) 1 [(Con.mk 3 [66] 0 0 none 0 [])]) none 0 [] [] [] []),(Ax.mk 8 false (Con.mk 0 [] 0 0 none 0 []) (Con.mk 3 [65] 0 0 none 0 []) none 0 [] [] [97] [])] (some ⟨b_2,0,none⟩) 2 (L22_ok _) zB_) rfl m_ (fun v _ h=>by exact⟨⟨h.1,fun y hy=>by simp only[List.mem_cons,List.not_mem_nil,or_false]at hy;rcases hy with rfl|rfl;exact⟨⟨.inl rfl,trivial⟩,⟨h.2.1,⟨⟨.inl rfl,trivial⟩,trivial⟩⟩,(.inl rfl)⟩;exact⟨⟨.inl rfl,trivial⟩,⟨.inl rfl,trivial⟩,(.inl rfl)⟩⟩,h.2.2.1,h.2.2.2.1,trivial⟩) rfl fun⟨⟨d,e_1⟩,O,J⟩=>?_;dsimp only;dsimp only at O J;obtain⟨rfl,e,K,a0,V,Y⟩  :=bld22 (ad:=(some ⟨Q,0,none⟩)) O;refine e_ (al_ rfl) rfl ?_;refine e_ (bG_ rfl rfl) rfl ?_;refine e_ (bG_ rfl rfl) rfl ?_;refine G_ ju_ rfl fun b_3=>?_;refine u_ 0 bH_ rfl rfl rfl rfl rfl rfl ?_;refine e_ (az_ rfl) rfl ?_;refine bq_ ?_;refine aZ_ rfl ?_;refine be_ ?_;refine aG_ ?_;refine g_ (pU_ ([]:List Ax) none 0 (fun x hx=>by cases hx) zw_) rfl m_ (fun v _ h=>by exact⟨⟨.inl rfl,fun x hx=>by cases hx⟩,h.2.2.2.1,h.2.2.2.2.1,trivial⟩) rfl fun⟨⟨m_2,e_2⟩,P,a2⟩=>?_;dsimp only;dsimp only at P a2;obtain⟨rfl,a1⟩:=bld0 P;refine e_ (al_ rfl) rfl ?_;refine e_ (bG_ rfl rfl) rfl ?_;refine e_ (bG_ rfl rfl) rfl ?_;refine G_ ju_ rfl fun b_4=>?_;refine u_ 0 bH_ rfl rfl rfl rfl rfl rfl ?_;refine e_ (az_ rfl) rfl ?_;refine bq_ ?_;refine aZ_ rfl ?_;refine be_ ?_;have R:0<List.length (Mdl.no d):=by rw[e];decide
 obtain⟨Z,C⟩:∃ L,(Mdl.no d)[0]? = some L:=⟨_,List.getElem?_eq_getElem R⟩;have b0:Z∈(Mdl.no d):=List.mem_of_getElem? C;have X:Z=[123,97,125]:=by rw[e]at C;simpa using C.symm
 have S:1<List.length (Mdl.no d):=by rw[e];decide
 obtain⟨a3,F⟩:∃ L,(Mdl.no d)[1]? = some L:=⟨_,List.getElem?_eq_getElem S⟩;have hmx_2:a3∈(Mdl.no d):=List.mem_of_getElem? F;have a4:a3=[66]:=by rw[e]at F;simpa using F.symm
 have T:0<List.length (Mdl.di d):=by rw[K];decide
 obtain⟨M,E⟩:∃ L,(Mdl.di d)[0]? = some L:=⟨_,List.getElem?_eq_getElem T⟩;have a9:M∈(Mdl.di d):=List.mem_of_getElem? E;have W:M=ab_ [123,97,125] [114] [66]:=by rw[K]at E;simpa using E.symm
 refine ou_ zk ?_;refine K_ 58 [0,1,2,3,4,5,6,7,8] zk zs ?_;refine N_ rfl (al_ rfl) rfl ?_;refine N_ rfl (ar_ (bt_ rfl rfl) (show _=Value.bool true from congrArg Value.bool zw_)) rfl ?_;refine N_ rfl (al_ rfl) rfl ?_;refine bu_ rfl rfl rfl (bS_ aT_ rfl rfl rfl bP_) rfl ?_;refine bu_ rfl rfl rfl (aE_ 1 mc_ rfl rfl rfl) rfl ?_;refine bu_ rfl rfl rfl (dC_ l_ rfl) rfl ?_;refine em_ rfl rfl rfl (bt_ rfl rfl) rfl fun a7 H=>?_;refine N_ rfl (cg_ rfl rfl) rfl ?_;refine N_ rfl (al_ rfl) rfl ?_;refine bv_ ?_;cases a7
 ·replace H:=znb H
  exact absurd zaW_ H
 replace H:=zeb H;refine K_ 51 [9,10,11,12,13,14,15] zk zs ?_;refine bu_ rfl rfl rfl (bS_ aT_ rfl rfl rfl bP_) rfl ?_;refine bu_ rfl rfl rfl (aE_ 1 mc_ rfl rfl rfl) rfl ?_;refine bu_ rfl rfl rfl (S_ l_ E_ rfl rfl (fun v _ h=>au_ (n:=1) aq_ zw_ (by exact h.2.1.1) C) zs_ zz_) rfl ?_;refine bu_ rfl rfl rfl (bn_ (ad:=(Mdl.noa d)) W_ rfl (fun v _ h=>by exact h.2.1.1) (o_ aq_ C 0 _ rfl)) rfl ?_;refine em_ rfl rfl rfl (cX_ rfl rfl) rfl fun r_2 k=>?_;refine N_ rfl (cg_ rfl rfl) rfl ?_;refine N_ rfl (al_ rfl) rfl ?_;refine bv_ ?_;cases r_2
 ·replace k:=znb k
  exact absurd X k
 replace k:=zeb k;refine K_ 44 [16,17,18,19,20,21,22] zk zs ?_;refine bu_ rfl rfl rfl (bS_ aT_ rfl rfl rfl bP_) rfl ?_;refine bu_ rfl rfl rfl (aE_ 1 mc_ rfl rfl rfl) rfl ?_;refine bu_ rfl rfl rfl (S_ l_ E_ rfl rfl (fun v _ h=>au_ (n:=1) aq_ zw_ (by exact h.2.1.1) F) zs_ zz_) rfl ?_;refine bu_ rfl rfl rfl (bn_ (ad:=(Mdl.noa d)) W_ rfl (fun v _ h=>by exact h.2.1.1) (o_ aq_ F 0 _ rfl)) rfl ?_;refine em_ rfl rfl rfl (cX_ rfl rfl) rfl fun r_3 m=>?_;refine N_ rfl (cg_ rfl rfl) rfl ?_;refine N_ rfl (al_ rfl) rfl ?_;refine bv_ ?_;cases r_3
 ·replace m:=znb m
  exact absurd a4 m
 replace m:=zeb m;refine K_ 38 [23,24,25,26,27,28] zk zs ?_;refine bu_ rfl rfl rfl (bS_ aT_ rfl rfl rfl ck_) rfl ?_;refine bu_ rfl rfl rfl (aE_ 1 Tryz.isAgg26 rfl rfl rfl) rfl ?_;refine bu_ rfl rfl rfl (dC_ x_ rfl) rfl ?_;refine em_ rfl rfl rfl (bt_ rfl rfl) rfl fun r_4 G=>?_;refine N_ rfl (cg_ rfl rfl) rfl ?_;refine N_ rfl (al_ rfl) rfl ?_;refine bv_ ?_;cases r_4
 ·replace G:=znb G
  exact absurd (by rw[K];rfl) G
 replace G:=zeb G;refine K_ 34 [29,30,31,32] zk zs ?_;refine bu_ rfl rfl rfl (bS_ aT_ rfl rfl rfl ck_) rfl ?_;refine bu_ rfl rfl rfl (aE_ 1 Tryz.isAgg26 rfl rfl rfl) rfl ?_;refine bu_ rfl rfl rfl (S_ x_ A_ rfl rfl (fun v _ h=>au_ (n:=6) Fc.cells_len zw_ (by exact h.2.1.2.2.2.1) E) zs_ zz_) rfl ?_;refine bu_ rfl rfl rfl (aj_ (ad:=(Mdl.dia d)) (us:=Fc.cells M) bB_ A_ rfl (fun v _ h=>by exact h.2.1.2.2.2.1) (Fc.cells_len _) (o_ Fc.cells_len E)) rfl ?_;refine bv_ ?_;refine s_ 33 rfl zk ?_;refine aQ_ rfl rfl ?_;refine g_ (xM_ [123,97,125] [114] [66]) rfl m_ zt rfl fun _=>?_;refine bq_ ?_;refine fO_ rfl ?_;refine O_ zs ?_;refine K_ 30 [34,35,36] zk zs ?_;refine em_ rfl rfl rfl (eB_ (p:=M) (q:=(ab_ [123,97,125] [114] [66])) rfl rfl) rfl fun r_5 I=>?_;refine N_ rfl (cg_ rfl rfl) rfl ?_;refine N_ rfl (al_ rfl) rfl ?_;refine bv_ ?_;cases r_5
 ·replace I:=zdf I
  exact absurd W I
 replace I:=zdt I;refine K_ 29 [37] zk zs ?_;refine bu_ rfl rfl rfl (bE_ 1 gl_ bH_ rfl rfl rfl) rfl ?_;refine bv_ ?_;refine s_ 38 rfl zk ?_;refine aQ_ rfl rfl ?_;refine T_ (jL_ d J [123,97,125] [65]) rfl m_ zf rfl fun r_6 B=>?_;refine bq_ ?_;refine fO_ rfl ?_;refine O_ zs ?_;refine K_ 26 [39,40] zk zs ?_;refine N_ rfl (cg_ rfl rfl) rfl ?_;refine N_ rfl (al_ rfl) rfl ?_;refine bv_ ?_;cases r_6
 ·replace B:=zdf B
  exact absurd a0 B
 replace B:=zdt B;refine K_ 25 [41] zk zs ?_;refine bu_ rfl rfl rfl (bE_ 1 gl_ bH_ rfl rfl rfl) rfl ?_;refine bv_ ?_;refine s_ 42 rfl zk ?_;refine aQ_ rfl rfl ?_;refine T_ (xL_ d J [123,97,125] [114] [66]) rfl m_ zf rfl fun a8 N=>?_;refine bq_ ?_;refine fO_ rfl ?_;refine O_ zs ?_;refine K_ 22 [43,44] zk zs ?_;refine N_ rfl (cg_ rfl rfl) rfl ?_;refine N_ rfl (al_ rfl) rfl ?_;refine bv_ ?_;cases a8
 ·rw[V]at N;cases N
 refine K_ 21 [45] zk zs ?_;refine bu_ rfl rfl rfl (bE_ 1 gl_ bH_ rfl rfl rfl) rfl ?_;refine bv_ ?_;refine s_ 46 rfl zk ?_;refine aQ_ rfl rfl ?_;refine g_ (rB_ d J) rfl m_ zf rfl fun⟨e_4,a6⟩=>?_;dsimp only;obtain rfl:e_4=0:=a6.2.2 Y;refine bq_ ?_;refine fO_ rfl ?_;refine O_ zs ?_;refine K_ 7 [47,48,49,50,51,52,53,54,55,56,57,58,59] zk zs ?_;refine bu_ rfl rfl rfl (ar_ (bt_ rfl rfl) (show _=Value.bool true from congrArg Value.bool zw_)) rfl ?_;refine N_ rfl (cg_ rfl rfl) rfl ?_;refine N_ rfl (al_ rfl) rfl ?_;refine bu_ rfl rfl rfl (al_ rfl) rfl ?_;refine bu_ rfl rfl rfl (ar_ (bt_ rfl rfl) (show _=Value.bool true from congrArg Value.bool zw_)) rfl ?_;refine N_ rfl (cg_ rfl rfl) rfl ?_;refine N_ rfl (al_ rfl) rfl ?_;refine bu_ rfl rfl rfl (bS_ aT_ rfl rfl rfl bP_) rfl ?_;refine bu_ rfl rfl rfl (aE_ 0 mc_ rfl rfl rfl) rfl ?_;refine bu_ rfl rfl rfl (dC_ l_ rfl) rfl ?_;refine em_ rfl rfl rfl (bt_ rfl rfl) rfl fun r_8 A=>?_;refine N_ rfl (cg_ rfl rfl) rfl ?_;refine N_ rfl (al_ rfl) rfl ?_;refine bv_ ?_;cases r_8
 ·replace A:=znb A
  exact absurd (by rw[a1];rfl) A
 replace A:=zeb A;refine s_ 60 rfl zk ?_;refine aQ_ rfl rfl ?_;refine T_ (bJ_ [65]) rfl m_ zt rfl fun r_9 a5=>?_;refine bq_ ?_;refine fO_ rfl ?_;refine O_ zs ?_;refine K_ 4 [61,62] zk zs ?_;refine N_ rfl (cg_ rfl rfl) rfl ?_;refine N_ rfl (al_ rfl) rfl ?_;refine bv_ ?_;cases r_9
 ·exact absurd a5 zw_
 refine s_ 63 rfl zk ?_;refine aQ_ rfl rfl ?_;refine T_ (bJ_ [123,97,125]) rfl m_ zt rfl fun r_10 U=>?_;refine bq_ ?_;refine fO_ rfl ?_;refine O_ zs ?_;refine K_ 0 [64,65,66] zk zs ?_;refine bu_ rfl rfl rfl (aw_ rfl) rfl ?_;refine N_ rfl (cg_ rfl rfl) rfl ?_;refine N_ rfl (az_ rfl) rfl ?_;refine bv_ ?_;refine rF_ zk ?_;refine aZ_ rfl ?_;refine iP_ ?_;exact ae_ Tryz.results7 () (n_ rfl (by rw[← U];decide)) m_ zt
end Go.Proofs.YtpbnmnfdgckaiaaGreatDoor
namespace Go.Proofs.YtpbnmnfdgckaiaaGreatDoor
open Go Go.Sx Go.Proofs
attribute [local irreducible] Code.wp wpList wpAnyH
open Go.Vs Go.Shelf Go.RowKit
theorem yL_ {k:List Ax} {m:Mdl} {e:Int} (h:uR_ k m e) (d:e≠0):m.no=[]:=by
 rcases h with⟨h,_⟩|⟨_,h,_⟩
 ·exact absurd h d
 rw[h];rfl
def R1 (m:Mdl) (i:Nat) (K:List Str):Prop:=(∀ x∈K,x∈m.no)∧∀ x∈m.no.take i,nls x=false→x∈K
def R2 (m:Mdl) (k:Nat) (K:List Str):Prop:=(∀ x∈K,x∈m.no)∧(∀ x∈m.no,nls x=false→x∈K)∧(Clsd m.di K∨k≤K.length)
def R3 (m:Mdl) (K:List Str) (j:Nat) (L:List Str):Prop:=(∃ E,L=K++E)∧(∀ x∈L,x∈m.no)∧(∀ f∈m.di.take j,f.a∈K→f.b∈L)∧(Clsd m.di K→L=K)
theorem R1.skip {m:Mdl} {i:Nat} {K:List Str} {x:Str} (h:R1 m i K) (e:m.no[i]? = some x) (k:nls x=true):R1 m (i+1) K:=⟨h.1,fun z d q=>by
 rw[tk1 e,List.mem_append,List.mem_singleton]at d;rcases d with d|rfl
 ·exact h.2 z d q
 rw[k]at q;cases q⟩
theorem R1.take {m:Mdl} {i:Nat} {s:StM} {x:Str} (h:R1 m i s.ks) (k:m.no[i]? = some x):R1 m (i+1) (s.add x).ks:=⟨fun z d=>(StM.mem.1 d).elim (h.1 z) fun e=>by rw[e];exact List.mem_of_getElem? k,fun z d q=>by
  rw[tk1 k,List.mem_append,List.mem_singleton]at d;exact StM.mem.2 (d.imp (fun d=>h.2 z d q) id)⟩
theorem R1.done {m:Mdl} {i:Nat} {K:List Str} (h:R1 m i K) (hi:m.no.length≤i):R2 m 0 K:=⟨h.1,by have:=h.2;rwa [List.take_of_length_le hi]at this,.inr (Nat.zero_le _)⟩
theorem R3.init {m:Mdl} {K:List Str} (h:∀ x∈K,x∈m.no):R3 m K 0 K:=⟨⟨[],by simp⟩,h,by simp,fun _=>rfl⟩
theorem R3.skip {m:Mdl} {K L:List Str} {j:Nat} {f:Fc} (h:R3 m K j L) (e:m.di[j]? = some f) (k:f.a ∉ L):R3 m K (j+1) L:=⟨h.1,h.2.1,fun z d q=>by
 rw[tk1 e,List.mem_append,List.mem_singleton]at d;rcases d with d|rfl
 ·exact h.2.2.1 z d q
 obtain⟨E,hE⟩:=h.1;exact absurd (by rw[hE];exact List.mem_append_left _ q) k,h.2.2.2⟩
theorem R3.take {m:Mdl} {K:List Str} {s:StM} {j:Nat} {f:Fc} (h:R3 m K j s.ks) (v:m.di[j]? = some f) (y:f.b∈m.no) (x:f.a∈s.ks):R3 m K (j+1) (s.add f.b).ks:=by
 obtain⟨E,hE⟩:=h.1;refine⟨?_,fun z d=>(StM.mem.1 d).elim (h.2.1 z) fun e=>by rw[e];exact y,fun z d q=>?_,fun q=>?_⟩
 ·unfold StM.add
  split
  ·exact⟨E,hE⟩
  exact⟨E++[f.b],by show s.ks++[f.b]=_;rw[hE,List.append_assoc]⟩
 ·rw[tk1 v,List.mem_append,List.mem_singleton]at d
  exact StM.mem.2 (d.imp (fun d=>h.2.2.1 z d q) fun e=>by rw[e])
 have e:=h.2.2.2 q;have k:f.b∈s.ks:=by rw[e];exact q f (List.mem_of_getElem? v) (by rw[← e];exact x)
 unfold StM.add;rw[dif_pos k];exact e
theorem R3.done {m:Mdl} {K L:List Str} {j k:Nat} (h:R3 m K j L) (F:m.di.length≤j) (B:R2 m k K):R2 m (k+1) L:=by
 obtain⟨⟨E,hE⟩,y,d,v⟩:=h;rw[List.take_of_length_le F]at d;refine⟨y,fun x C q=>by rw[hE];exact List.mem_append_left _ (B.2.1 x C q),?_⟩;rcases B.2.2 with A|hl
 ·rw[v A];exact .inl A
 cases E with
 | nil =>
   rw[List.append_nil]at hE;subst hE;exact .inl d
 | cons e E=>exact .inr (by rw[hE,List.length_append,List.length_cons];omega)
set_option maxHeartbeats 1000000 in
theorem canonReaches_c (T:List Ax) (lad:Option Addr) (lcap:Nat) (a0:T.length≤lcap∧lcap≤2199023255488) (X:∀ x∈T,x.ok):Tri Tryz.prog 3 #[.slice lad (List.length T) lcap] [] [ej_ lad T,ci_,jf_] (fun _:Unit=>.bool true) (fun _=>[]) (fun _=>[]):=by
 refine i_ Tryz.func3 rfl rfl Tryz.ntmps3 rfl fun v_1=>?_;refine Zz 8 ?_;refine g_ (vx_) rfl m_ zf rfl fun _=>e_ (aw_ rfl) rfl (Zz 9 ?_)
 refine g_ (yx_ T lad lcap a0 X) rfl m_ zf rfl fun⟨fb,hfb⟩=>?_;dsimp only;refine e_ (aw_ rfl) rfl (Zz 2 ?_);cases fb
 ·refine Zz 7 ?_
  exact ae_ Tryz.results3 () rfl m_ zt
 obtain⟨h_1,hfw⟩:=hfb rfl;refine Zz 6 ?_;refine g_ (pU_ T lad lcap X zs_) rfl m_ zf rfl fun⟨⟨m,e⟩,hb,M⟩=>?_;dsimp only;dsimp only at hb M;have hnl:=M.no;have hdl:=M.di;have hrol:=M.ro;refine Zz 3 ?_;refine G_ ju_ rfl fun I=>u_ 0 bH_ rfl rfl rfl rfl rfl rfl (Zi 7 (fun a3=>?_) fun a3=>?_)
 ·obtain⟨c,hB⟩:=hb.bok zA_
  refine Zz 9 ?_;refine g_ (rB_ m M) rfl m_ zf rfl fun⟨e_1,a4⟩=>?_;dsimp only;obtain rfl:e_1=0:=a4.2.2 hB.mdV;refine e_ (ar_ (ce_ rfl rfl) (show _=Value.bool false from congrArg Value.bool zw_)) rfl (Zz 7 ?_);refine aY_ rfl fun K=>Zz 13 ?_
  refine M_ (ι:={y:Nat×StM // y.1≤List.length (Mdl.no m)∧R1 m y.1 y.2.ks}) (fun y=>[(2,.bool false),(3,zp_ I 0),(5,.map (some K)),(33,.slice (Mdl.noa m) (List.length (Mdl.no m)) (Mdl.noc m)),(34,.int .i64 (List.length (Mdl.no m):Int)),(35,.int .i64 (y.1.1:Int))]) (fun y=>((K,.map y.1.2.es y.1.2.c)::((I,.cells #[.slice (Mdl.noa m) (List.length (Mdl.no m)) (Mdl.noc m),.slice (Mdl.tya m) (List.length (Mdl.ty m)) (Mdl.tyc m),.slice (Mdl.lia m) (List.length (Mdl.li m)) (Mdl.lic m),.slice (Mdl.dia m) (List.length (Mdl.di m)) (Mdl.dic m),.slice (Mdl.raa m) (List.length (Mdl.ra m)) (Mdl.rac m),.slice (Mdl.roa m) (List.length (Mdl.ro m)) (Mdl.roc m)] 28 (0,0))::[]))) (fun y=>[ma_ m,ej_ lad T,ci_,jf_]) (fun y=>List.length (Mdl.no m) - y.1.1) ⟨((0:Nat),StM.nil),by simp,⟨by simp[StM.nil],by simp⟩⟩ zl zp zh ?_;rintro ⟨⟨i,s⟩,V,hR⟩;dsimp only at V hR ⊢;refine Zi 2 (fun Q=>?_) fun Q=>?_
  ·refine Zz 16 ?_
   refine M_ (ι:={y:Nat×StM // y.1≤List.length (Mdl.no m)∧R2 m y.1 y.2.ks}) (fun y=>[(2,.bool false),(3,zp_ I 0),(5,.map (some K)),(33,.slice (Mdl.noa m) (List.length (Mdl.no m)) (Mdl.noc m)),(34,.int .i64 (List.length (Mdl.no m):Int)),(35,.int .i64 (i:Int)),(47,.int .i64 (List.length (Mdl.no m):Int)),(48,.int .i64 (y.1.1:Int))]) (fun y=>((K,.map y.1.2.es y.1.2.c)::((I,.cells #[.slice (Mdl.noa m) (List.length (Mdl.no m)) (Mdl.noc m),.slice (Mdl.tya m) (List.length (Mdl.ty m)) (Mdl.tyc m),.slice (Mdl.lia m) (List.length (Mdl.li m)) (Mdl.lic m),.slice (Mdl.dia m) (List.length (Mdl.di m)) (Mdl.dic m),.slice (Mdl.raa m) (List.length (Mdl.ra m)) (Mdl.rac m),.slice (Mdl.roa m) (List.length (Mdl.ro m)) (Mdl.roc m)] 28 (0,0))::[]))) (fun y=>[ma_ m,ej_ lad T,ci_,jf_]) (fun y=>List.length (Mdl.no m) - y.1.1) ⟨((0:Nat),s),by simp,(hR.done zs_)⟩ zl zp zh ?_;rintro ⟨⟨k,G⟩,a1,F⟩;dsimp only at a1 F ⊢;refine Zi 2 (fun R=>?_) fun R=>?_
   ·refine Zz 16 ?_
    obtain⟨W,Y⟩:=hB.all G.hE.nd F.1 F.2.1 (F.2.2.imp id fun q=>by omega);refine M_ (ι:={y:Nat // y≤List.length (Mdl.no m)}) (fun y=>[(2,.bool false),(3,zp_ I 0),(5,.map (some K)),(33,.slice (Mdl.noa m) (List.length (Mdl.no m)) (Mdl.noc m)),(34,.int .i64 (List.length (Mdl.no m):Int)),(35,.int .i64 (i:Int)),(47,.int .i64 (List.length (Mdl.no m):Int)),(48,.int .i64 (k:Int)),(67,.slice (Mdl.noa m) (List.length (Mdl.no m)) (Mdl.noc m)),(68,.int .i64 (List.length (Mdl.no m):Int)),(69,.int .i64 (y.1:Int))]) (fun y=>((K,.map G.es G.c)::((I,.cells #[.slice (Mdl.noa m) (List.length (Mdl.no m)) (Mdl.noc m),.slice (Mdl.tya m) (List.length (Mdl.ty m)) (Mdl.tyc m),.slice (Mdl.lia m) (List.length (Mdl.li m)) (Mdl.lic m),.slice (Mdl.dia m) (List.length (Mdl.di m)) (Mdl.dic m),.slice (Mdl.raa m) (List.length (Mdl.ra m)) (Mdl.rac m),.slice (Mdl.roa m) (List.length (Mdl.ro m)) (Mdl.roc m)] 28 (0,0))::[]))) (fun y=>[ma_ m,ej_ lad T,ci_,jf_]) (fun y=>List.length (Mdl.no m) - y.1) ⟨(0:Nat),by simp⟩ zl zp zh ?_;rintro ⟨q,a2⟩;dsimp only at a2 ⊢;refine Zi 2 (fun S=>?_) fun S=>?_
    ·refine Zz 9 ?_
     refine e_ (jw_ G.hE H_ rfl (fun v h _=>(h.own _ (List.mem_of_getElem? (i:=0) rfl)).1)) rfl (Zz 3 ?_);refine B_ (bt_ rfl rfl) rfl fun L d=>Zz 4 ?_
     exact ae_ Tryz.results3 () (n_ rfl (by rw[← d];exact beq_iff_eq.2 (by rw[Y]))) m_ zt
    obtain⟨C,A,E,B⟩:=zge (show q<List.length (Mdl.no m) by omega);refine Zz 19 ?_;refine B_ (ar_ (bg_ (k:=A) (q:=G.ks) bi_ H_ as_ rfl rfl G.hE (fun v h _=>(h.own _ (List.mem_of_getElem? (i:=0) rfl)).1)) (show _=Value.bool (decide (A∈G.ks)) from congrArg Value.bool (decide_eq_decide.2 Iff.rfl))) rfl fun L d=>e_ (aw_ rfl) rfl (Zz 1 ?_)
    cases L
    ·replace d:=zdf d
     exact absurd (W A B) d
    replace d:=zdt d;refine Zz 7 ?_;refine T_ (jL_ m M A A) rfl m_ zf rfl fun r_2 J=>aQ_ rfl rfl (e_ (aw_ rfl) rfl (Zz 2 ?_))
    cases r_2
    ·replace J:=zdf J
     exact absurd (hB.self B).1 J
    replace J:=zdt J;refine Zz 5 ?_;refine T_ (jL_ m M A [42]) rfl m_ zf rfl fun r_3 H=>aQ_ rfl rfl (e_ (aw_ rfl) rfl (Zz 3 ?_))
    cases r_3
    ·replace H:=zdf H
     exact absurd (hB.self B).2 H
    replace H:=zdt H;refine Zz 8 ?_;exact w_ ⟨q+1,C⟩ zt_ zl zp zh
   have C:k<List.length (Mdl.no m):=by omega
   refine Zz 17 ?_;refine M_ (ι:={y:Nat×StM // y.1≤List.length (Mdl.di m)∧R3 m G.ks y.1 y.2.ks}) (fun y=>[(2,.bool false),(3,zp_ I 0),(5,.map (some K)),(33,.slice (Mdl.noa m) (List.length (Mdl.no m)) (Mdl.noc m)),(34,.int .i64 (List.length (Mdl.no m):Int)),(35,.int .i64 (i:Int)),(47,.int .i64 (List.length (Mdl.no m):Int)),(48,.int .i64 (k:Int)),(51,.slice (Mdl.dia m) (List.length (Mdl.di m)) (Mdl.dic m)),(52,.int .i64 (List.length (Mdl.di m):Int)),(53,.int .i64 (y.1.1:Int))]) (fun y=>((K,.map y.1.2.es y.1.2.c)::((I,.cells #[.slice (Mdl.noa m) (List.length (Mdl.no m)) (Mdl.noc m),.slice (Mdl.tya m) (List.length (Mdl.ty m)) (Mdl.tyc m),.slice (Mdl.lia m) (List.length (Mdl.li m)) (Mdl.lic m),.slice (Mdl.dia m) (List.length (Mdl.di m)) (Mdl.dic m),.slice (Mdl.raa m) (List.length (Mdl.ra m)) (Mdl.rac m),.slice (Mdl.roa m) (List.length (Mdl.ro m)) (Mdl.roc m)] 28 (0,0))::[]))) (fun y=>[ma_ m,ej_ lad T,ci_,jf_]) (fun y=>List.length (Mdl.di m) - y.1.1) ⟨((0:Nat),G),by simp,(R3.init F.1)⟩ zl zp zh ?_;rintro ⟨⟨j,N⟩,Z,O⟩;dsimp only at Z O ⊢;refine Zi 2 (fun S=>?_) fun S=>?_
   ·refine Zz 11 ?_
    exact w_ ⟨(k+1,N),C,(O.done zs_ F)⟩ zt_ zl zp zh
   obtain⟨P,A,E,B⟩:=zge (show j<List.length (Mdl.di m) by omega);have U:Fc.b A∈Mdl.no m:=by have q:=(hB.mdV.di.1 A B);unfold kU_ at q;simp only[Bool.and_eq_true,decide_eq_true_eq]at q;exact q.1.2
   refine Zz 10 ?_;refine e_ (S_ x_ A_ rfl rfl (fun v _ h=>au_ (n:=6) Fc.cells_len zw_ (by exact h.1.2.2.2.1) E) zs_ zz_) rfl ?_;refine e_ (aj_ (ad:=(Mdl.dia m)) (us:=Fc.cells A) bB_ A_ rfl (fun v _ h=>by exact h.1.2.2.2.1) (Fc.cells_len _) (o_ Fc.cells_len E)) rfl (G_ Y_ rfl fun b_3=>u_ 0 A_ rfl rfl rfl rfl rfl rfl (Zz 7 ?_));refine B_ (ar_ (bg_ (k:=A.a) (q:=N.ks) bi_ H_ as_ rfl rfl N.hE (fun v h _=>(h.own _ (List.mem_of_getElem? (i:=1) rfl)).1)) (show _=Value.bool (decide (A.a∈N.ks)) from congrArg Value.bool (decide_eq_decide.2 Iff.rfl))) rfl fun L d=>Zz 2 ?_
   cases L
   ·replace d:=zdf d
    refine Zz 8 ?_;exact w_ ⟨(j+1,N),P,(O.skip E d)⟩ zt_ zl (j_ (c_ d_) (c_ d_)) zh
   replace d:=zdt d;refine Zz 5 ?_;refine di_ 1 N bi_ (.inr rfl) H_ rfl rfl rfl rfl (Zz 7 ?_);exact w_ ⟨(j+1,(StM.add N A.b)),P,(O.take E U d)⟩ zt_ zl (j_ (c_ d_) (c_ d_)) zh
  obtain⟨C,A,E,B⟩:=zge (show i<List.length (Mdl.no m) by omega);refine Zz 18 ?_;refine T_ (bJ_ A) rfl m_ zt rfl fun L R=>e_ (aw_ rfl) rfl (Zz 2 ?_)
  cases L
  ·refine Zz 4 ?_
   refine di_ 0 s bi_ (.inr rfl) H_ rfl rfl rfl rfl (Zz 7 ?_);exact w_ ⟨(i+1,(StM.add s A)),C,(hR.take E)⟩ zt_ zl zp zh
  refine Zz 8 ?_;exact w_ ⟨(i+1,s),C,(hR.skip E R)⟩ zt_ zl zp zh
 refine Zz 8 ?_;refine B_ (bt_ rfl rfl) rfl fun L Q=>Zz 4 ?_
 exact ae_ Tryz.results3 () (n_ rfl (by rw[← Q,yL_ hb zA_];rfl)) m_ zt
end Go.Proofs.YtpbnmnfdgckaiaaGreatDoor
namespace Go.Proofs.YtpbnmnfdgckaiaaGreatDoor
open Go Go.Sx Go.Proofs
attribute [local irreducible] Code.wp wpList wpAnyH
open Go.Vs Go.ChangeShapes Go.WideShapes Go.ChangeAt Go.RowKit
theorem own:ownKnob Tryz.prog.godebug=none:=by kernel_rfl
def gB_ : List (String × DataW Unit) := [("math/bits.deBruijn32tab", Rows.laid_math_bits_deBruijn32tab), ("math/bits.deBruijn64tab", Rows.laid_math_bits_deBruijn64tab), ("internal/strconv.uint64pow10", Rows.laid_internal_strconv_uint64pow10), ("unicode/utf8.acceptRanges", Rows.laid_unicode_utf8_acceptRanges), ("veilstone/terms.needs", Rows.laid_veilstone_terms_needs), ("veilstone/terms.uses", Rows.laid_veilstone_terms_uses), ("veilstone/normal.uses", Rows.laid_veilstone_normal_uses), ("unicode/utf8.first", Rows.laid_unicode_utf8_first)]
theorem wd_:Kids Tryz.prog (·<Tryz.prog.types.size):=kids_rows zv_ zv_
theorem full:∀ t e,t<Tryz.prog.types.size→Tryz.prog.underlying t=some (.slice e)→0<Tryz.prog.cellsOf e:=slices_full_of _ zv_
theorem ns_:Tryz.prog.types.size=322:=by kernel_rfl
theorem tysX:Tys Tryz.prog 3 4 9 25 40 38 42 22 174 63 where
  i:=p_
  b:=Tryz.underlying4
  s:=aF_
  ss:=il_
  c:=⟨_,Tryz.underlying40,rfl⟩
  cs:=Tryz.underlying38
  a:=⟨_,Tryz.underlying42,rfl⟩
  axs:=Tryz.underlying22
  p:=⟨_,fc_,rfl⟩
  ps:=Tryz.underlying63
  ci:=by kernel_rfl
  cb:=by kernel_rfl
  cs1:=by kernel_rfl
  css:=by kernel_rfl
  cc:=by kernel_rfl
  ccs:=by kernel_rfl
  ca:=by kernel_rfl
  cp:=by kernel_rfl
  bs:=by kernel_rfl
  bc:=by kernel_rfl
  ba:=by kernel_rfl
  bp:=by kernel_rfl
theorem lX_ {W:World} (h:laidMetH Tryz.prog gB_ W):∃ T fz,W.heap[1]? = some (.cells (ff_ (H:=Unit) Rows.laid_veilstone_terms_needs).toArray T fz):=by
  rw[MakeChecks.laidMetH_plain _ _ _ zk]at h;exact jX_ wd_ (name := "veilstone/terms.needs") h (by simp [gB_]) (g := 1) (t := 201) zk zk (by rw [ns_]; decide) (m := 4) zk
theorem mP_ {W:World} (h:laidMetH Tryz.prog gB_ W):∃ T fz,W.heap[0]? = some (.cells (ff_ (H:=Unit) Rows.laid_veilstone_terms_uses).toArray T fz):=by
  rw[MakeChecks.laidMetH_plain _ _ _ zk]at h;exact jX_ wd_ (name := "veilstone/terms.uses") h (by simp [gB_]) (g := 0) (t := 96) zk zk (by rw [ns_]; decide) (m := 4) zk
theorem lY_ {W:World} (h:laidMetH Tryz.prog gB_ W):∃ T fz,W.heap[2]? = some (.cells (ff_ (H:=Unit) Rows.laid_veilstone_normal_uses).toArray T fz):=by
  rw[MakeChecks.laidMetH_plain _ _ _ zk]at h;exact jX_ wd_ (name := "veilstone/normal.uses") h (by simp [gB_]) (g := 2) (t := 205) zk zk (by rw [ns_]; decide) (m := 4) zk
theorem gQ_ {W:World} (h:laidMetH Tryz.prog gB_ W):∃ T fz,W.heap[6]? = some (.cells (ff_ (H:=Unit) Rows.laid_internal_strconv_uint64pow10).toArray T fz):=by
  rw[MakeChecks.laidMetH_plain _ _ _ zk]at h;exact jX_ wd_ (name := "internal/strconv.uint64pow10") h (by simp [gB_]) (g := 6) (t := 305) zk zk (by rw [ns_]; decide) (m := 4) zk
theorem pn_ {W:World} {g:Nat} {l:List Value} {d:List Value} (h:∃ T fz,W.heap[g]? = some (.cells l.toArray T fz)) (e:l=d):bx_ (vw W) (some ⟨g,0,none⟩) d:=by
  obtain⟨T,fz,h⟩:=h;subst e;exact .inr ⟨g,0,_,T,fz,rfl,(Array.getElem?_eq_some_iff.1 h).1,h,fun j x k=>by rw[Nat.zero_add];simpa using k⟩
theorem xq_ {W:World} (h:laidMetH Tryz.prog gB_ W):ci_.p (vw W):=by
  refine⟨pn_ (lX_ h) zk,pn_ (mP_ h) zk,trivial,?_⟩;obtain⟨T,fz,d⟩:=gQ_ h;refine⟨trivial,(Array.getElem?_eq_some_iff.1 d).1,T,fz,?_⟩;rw[show (Lib.pow10Tab.map fun z=>Value.int .u64 z)=ff_ (H:=Unit) Rows.laid_internal_strconv_uint64pow10 by kernel_rfl];exact d
theorem xr_ {W:World} (h:laidMetH Tryz.prog gB_ W):jf_.p (vw W):=pn_ (lY_ h) zv_
end Go.Proofs.YtpbnmnfdgckaiaaGreatDoor
