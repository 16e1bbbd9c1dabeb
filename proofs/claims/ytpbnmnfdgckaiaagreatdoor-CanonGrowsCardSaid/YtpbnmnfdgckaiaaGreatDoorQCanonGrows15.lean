/-
  Part of the proof of the law CanonGrows over this seat: the small logic, the data, the contracts of functions (no condition).
-/
import Derived.Test.YtpbnmnfdgckaiaaGreatDoorQCanonGrows14
import Derived.Test.YtpbnmnfdgckaiaaGreatDoorQCanonGrows11
set_option linter.unusedVariables false
set_option linter.unusedSimpArgs false
set_option linter.unusedSectionVars false
set_option maxHeartbeats 1000000
namespace Go.Proofs.YtpbnmnfdgckaiaaGreatDoor
open Go Go.Sx Go.Proofs
attribute [local irreducible] Code.wp wpList wpAnyH
open Go.Vs Go.Shelf Go.RowKit
def gamF (Γ:List Fct):Fct where
  p v:=ag_ Γ v
  mono:=fun v v' h hp=>az_ h hp
def sp_ (p s:Str):Prop:=¬ ((nls p=nls s∧s≤p)∨(nls p=true∧nls s=false))
def oC_ (l:List Str):Prop:=(∀ s∈l,s≠[])∧∀ (i:Nat) p s,l[i]? = some p→l[i+1]? = some s→sp_ p s
def qz_ (f:Fc):Bool:=(decide (f=ac_ f.a f.b)&&(f.a != []))&&(f.b != [])
def mx_ (K:List Str) (f:Fc):Bool:=((decide (f=am_ f.a f.r f.b)&&decide (f.a∈K))&&decide (f.b∈K))&&(f.r != [])
def qJ_ (K:List Str) (f:Fc):Bool:=((((decide (f=ax_ f.a f.r f.lo f.hi)&&decide (f.a∈K))&&(f.r != []))&&decide (-1099511627776≤f.lo))&&decide (f.lo≤f.hi))&&decide (f.hi≤1099511627776)
def qx_ (K:List Str) (f:Fc):Bool:=qz_ f&&decide (f.a∈K)
def rk_ (K:List Str) (f:Fc):Bool:=(mx_ K f&&!nls f.a)&&!nls f.b
structure MdV (m:Mdl):Prop where
  no:oC_ m.no
  ty:(∀ f∈m.ty,qx_ m.no f=true)∧Srt m.ty
  li:(∀ f∈m.li,rk_ m.no f=true)∧Srt m.li
  di:(∀ f∈m.di,mx_ m.no f=true)∧Srt m.di
  ra:(∀ f∈m.ra,qJ_ m.no f=true)∧Srt m.ra
  ro:(∀ f∈m.ro,qz_ f=true)∧Srt m.ro
theorem qf_ {K L:List Str} (h:∀ n,n∈K↔n∈L) (s:Str):decide (s∈K)=decide (s∈L):=decide_eq_decide.2 (h s)
theorem pI_ {K L:List Str} (h:∀ n,n∈K↔n∈L) (f:Fc):mx_ K f=mx_ L f:=by unfold mx_;rw[qf_ h,qf_ h]
theorem th_ {K L:List Str} (h:∀ n,n∈K↔n∈L) (f:Fc):qJ_ K f=qJ_ L f:=by unfold qJ_;rw[qf_ h]
theorem te_ {K L:List Str} (h:∀ n,n∈K↔n∈L) (f:Fc):qx_ K f=qx_ L f:=by unfold qx_;rw[qf_ h]
theorem ts_ {K L:List Str} (h:∀ n,n∈K↔n∈L) (f:Fc):rk_ K f=rk_ L f:=by unfold rk_;rw[pI_ h]
theorem yj_ {m:Mdl} {K:List Str} (h:∀ n,n∈K↔n∈m.no) {k x v y A B:Bool} (F:k=true↔oC_ m.no) (C:x=true↔(∀ f∈m.ty,qx_ K f=true)∧Srt m.ty) (E:v=true↔(∀ f∈m.li,rk_ K f=true)∧Srt m.li) (H:y=true↔(∀ f∈m.di,mx_ K f=true)∧Srt m.di)
    (I:A=true↔(∀ f∈m.ra,qJ_ K f=true)∧Srt m.ra) (G:B=true↔(∀ f∈m.ro,qz_ f=true)∧Srt m.ro):MdV m↔k=true∧x=true∧v=true∧y=true∧A=true∧B=true:=by
  rw[F,C,E,H,I,G];simp only[te_ h,ts_ h,pI_ h,th_ h];exact⟨fun q=>⟨q.no,q.ty,q.li,q.di,q.ra,q.ro⟩,fun⟨a,b,c,d,e,f⟩=>⟨a,b,c,d,e,f⟩⟩
theorem oY_ {l:List Str} {i:Nat} {s:Str} (h:oC_ (l.take i)) (m:l[i]? = some s) (y:s≠[]) (v:∀ p,0<i→l[i - 1]? = some p→sp_ p s):oC_ (l.take (i+1)):=by
 refine⟨fun z d=>?_,fun j p z k d=>?_⟩
 ·rw[tk1 m,List.mem_append,List.mem_singleton]at d
  exact d.elim (h.1 z) fun q=>by rw[q];exact y
 have x:=(List.getElem?_eq_some_iff.1 d).1;rw[List.length_take]at x;rw[List.getElem?_take]at k d
 split at d
 ·rename_i q
  rw[if_pos zr_]at k
  by_cases e:j+1=i
  ·subst e
   rw[m]at d;obtain rfl:=Option.some.inj d;exact v p zr_ zaC_
  exact h.2 j p z (by rw[List.getElem?_take,if_pos zr_];exact k) (by rw[List.getElem?_take,if_pos zr_];exact d)
 simp at d
theorem nodV_0 {l:List Str} (h:oC_ l) {i:Nat} {s:Str} (d:l[i]? = some s):s≠[]:=h.1 s (List.mem_of_getElem? d)
theorem nodV_1 {l:List Str} (h:oC_ l) {i:Nat} {p s:Str} (e:l[i]? = some s) (hi:0<i) (d:l[i - 1]? = some p):sp_ p s:=h.2 (i - 1) p s d zaL_
theorem oj_ {g:FuncId} {cv:List Value} {Gc:List Fct} (V:Fc→Bool) (l:List Fc) (ad:Option Addr) (cap:Nat) (hl:l.length≤9223372036854775807) (J:∀ x∈l,Tri Tryz.prog g (Fc.val x::cv).toArray [] Gc (fun _:Unit=>.bool (V x)) (fun _=>[]) (fun _=>[])):Tri Tryz.prog 41 #[.slice ad (List.length l) cap,.func (.func g) #[] cv.toArray] [] [V_ ad (List.flatMap Fc.cells l),gamF Gc] (fun b:{b:Bool // b=true↔(∀ x∈l,V x=true)∧Srt l}=>.bool b.1) (fun _=>[]) (fun _=>[]):=by
 refine j_ Tryz.func41 rfl rfl Tryz.ntmps41 rfl fun K=>?_;refine Zz 14 ?_;refine P_ (ι:={y:Nat // y≤List.length l∧(∀ x∈List.take y l,V x=true)}) (fun y=>[(0,.slice ad (List.length l) cap),(1,.func (.func g) #[] cv.toArray),(4,.bool false),(7,.slice ad (List.length l) cap),(8,.int .i64 (List.length l:Int)),(9,.int .i64 (y.1:Int))]) (fun y=>([])) (fun y=>[V_ ad (List.flatMap Fc.cells l),gamF Gc]) (fun y=>List.length l - y.1) ⟨(0:Nat),by simp,zC_⟩ zl l_ zh ?_;rintro ⟨i,k,E⟩;dsimp only at k E ⊢;refine Zi 2 (fun v=>?_) fun v=>?_
 ·refine Zz 9 ?_
  refine i_ (yv_ l ad cap hl) rfl l_ zf rfl fun⟨ib,F⟩=>?_;dsimp only;refine Zz 4 ?_;exact af_ Tryz.results41 ⟨ib,F.trans ⟨fun q=>⟨fun x H=>E x (by rw[List.take_of_length_le zr_];exact H),q⟩,fun q=>q.2⟩⟩ rfl l_ zt
 obtain⟨h,B,m,d⟩:=zge (show i<List.length l by omega);refine Zz 12 ?_;refine D_ ae_ rfl fun I=>x_ 0 E_ rfl rfl rfl rfl rfl rfl (Zz 6 ?_)
 refine bS_ (first:=[]) (cap:=cv) (J B d) rfl rfl l_ zf rfl fun C e=>e_ (aJ_ rfl) rfl (Zz 2 ?_)
 cases C
 ·refine Zz 7 ?_
  exact af_ Tryz.results41 ⟨false,fun q=>zba_,fun q=>by have A:=q.1 B d;rw[e]at A;cases A⟩ rfl l_ zt
 refine Zz 8 ?_;exact y_ ⟨i+1,h,(fun z G=>by rw[tk1 m,List.mem_append,List.mem_singleton]at G;exact G.elim (E z) fun q=>by rw[q];exact e)⟩ zu_ zl l_ zh
theorem it_ {G:Prop} (h:G:=by
 exact af_ Tryz.results35 ⟨false,fun q=>zba_,fun q=>absurd (nodV_1 q d zr_ e) (by unfold sp_;simp_all)⟩ rfl l_ zt):G:=h
theorem gL_ {G:Prop} (h:G:=by
 exact y_ ⟨i+1,h,(oY_ A d k fun p _ v=>by rw[e]at v;obtain rfl:=Option.some.inj v;unfold sp_;simp_all)⟩ zu_ zl l_ zh):G:=h
theorem yf_ (l:List Str) (ad:Option Addr) (cap:Nat) (hl:l.length≤9223372036854775807):Tri Tryz.prog 35 #[.slice ad (List.length l) cap] [] [V_ ad (List.flatMap ap_ l)] (fun b:{b:Bool // b=true↔oC_ l}=>.bool b.1) (fun _=>[]) (fun _=>[]):=by
 refine j_ Tryz.func35 rfl rfl Tryz.ntmps35 rfl fun U=>?_;refine Zz 14 ?_;refine P_ (ι:={y:Nat // y≤List.length l∧oC_ (List.take y l)}) (fun y=>[(0,.slice ad (List.length l) cap),(2,.bool false),(6,.slice ad (List.length l) cap),(7,.int .i64 (List.length l:Int)),(8,.int .i64 (y.1:Int))]) (fun y=>([])) (fun y=>[V_ ad (List.flatMap ap_ l)]) (fun y=>List.length l - y.1) ⟨(0:Nat),by simp,⟨by simp,by simp⟩⟩ zl l_ zh ?_;rintro ⟨i,G,A⟩;dsimp only at G A ⊢;refine Zi 2 (fun I=>?_) fun I=>?_
 ·refine Zz 12 ?_
  exact af_ Tryz.results35 ⟨true,fun _=>by rw[List.take_of_length_le zr_]at A;exact A,fun _=>rfl⟩ rfl l_ zt
 obtain⟨h,E,d,O⟩:=zge (show i<List.length l by omega);refine Zi 21 (fun k=>?_) fun k=>?_
 ·refine Zi 9 (fun J=>?_) fun J=>?_
  ·obtain⟨N,x,H,M⟩:=zge (show (Int.toNat ((i:Int) - 1))<List.length l by omega)
   have e:l[i - 1]? = some x:=by rw[show i - 1=Int.toNat ((i:Int) - 1) by omega];exact H
   refine Zz 18 ?_;refine T_ (bY_ x) rfl l_ zt rfl fun T R=>Zz 1 ?_
   refine T_ (bY_ E) rfl l_ zt rfl fun V S=>C_ (va_ Tryz.underlying4 rfl rfl) rfl fun L Q=>Zz 1 ?_
   cases L
   ·refine Zz 8 ?_
    refine T_ (bY_ x) rfl l_ zt rfl fun C m=>Zz 2 ?_
    cases C
    ·refine Zz 16 ?_
     exact gL_
    refine Zz 3 ?_;refine T_ (bY_ E) rfl l_ zt rfl fun B F=>aQ_ rfl rfl (e_ (aJ_ rfl) rfl (Zz 5 ?_))
    cases B
    ·refine Zz 7 ?_
     exact it_
    refine Zz 8 ?_;exact gL_
   refine Zz 5 ?_;refine C_ (uW_ rfl rfl) rfl fun C m=>Zz 2 ?_
   cases C
   ·replace m:=zdf m
    refine Zz 3 ?_;refine T_ (bY_ x) rfl l_ zt rfl fun B F=>Zz 2 ?_
    cases B
    ·refine Zz 16 ?_
     exact gL_
    refine Zz 3 ?_;refine T_ (bY_ E) rfl l_ zt rfl fun K P=>aQ_ rfl rfl (e_ (aJ_ rfl) rfl (Zz 5 ?_))
    cases K
    ·refine Zz 7 ?_
     exact it_
    refine Zz 8 ?_;exact gL_
   replace m:=zdt m;refine Zz 17 ?_;exact it_
  refine Zz 10 ?_;exact y_ ⟨i+1,h,(oY_ A d k fun p q=>by omega)⟩ zu_ zl l_ zh
 refine Zz 9 ?_;exact af_ Tryz.results35 ⟨false,fun q=>zba_,fun q=>absurd k (nodV_0 q d)⟩ rfl l_ zt
theorem wW_ (f:Fc):Tri Tryz.prog 36 #[Fc.val f] [] [] (fun _:Unit=>.bool (qz_ f)) (fun _=>[]) (fun _=>[]):=by
 refine j_ Tryz.func36 rfl rfl Tryz.ntmps36 rfl fun C=>?_;refine Zz 2 ?_;refine aa_ rfl rfl fun A=>Zz 10 ?_
 refine e_ (K_ fb_ rfl rfl) rfl (C_ (ew_ (p:=f) (q:=(Fc.mk 1 f.a f.b [] 0 0)) rfl rfl) rfl fun x e=>Zz 1 ?_);refine at_ 4 ((decide (f=(Fc.mk 1 f.a f.b [] 0 0)))&&(f.a != [])) (fun r=>[(1,zp_ A 0),(2,.bool false),(14,.bool r)]) ?_ fun v k=>?_
 ·cases x
  ·have d:=e
   replace e:=zdf e;refine Zz 6 ?_;exact met ⟨rfl,rfl,(o_ rfl (jaf d)),trivial⟩
  have d:=e;replace e:=zdt e;refine Zz 5 ?_;refine C_ (cZ_ rfl rfl) rfl fun y h=>Zz 3 ?_
  exact met ⟨rfl,rfl,(o_ rfl (jat d h)),trivial⟩
 refine Zz 1 ?_;refine at_ 4 ((((decide (f=(Fc.mk 1 f.a f.b [] 0 0)))&&(f.a != [])))&&(f.b != [])) (fun r=>[(2,.bool false),(19,.bool r)]) ?_ fun y h=>?_
 ·cases v
  ·have d:=k
   refine Zz 6 ?_;exact met ⟨rfl,(o_ rfl (jaf d)),trivial⟩
  have d:=k;refine Zz 5 ?_;refine C_ (cZ_ rfl rfl) rfl fun B m=>Zz 3 ?_
  exact met ⟨rfl,(o_ rfl (jat d m)),trivial⟩
 refine Zz 4 ?_;exact af_ Tryz.results36 () (o_ rfl (by rw[← h];rfl)) l_ zt
theorem wV_ (f:Fc) (I:Nat) (E:Nat) (es:Array MapEntry) (c:Nat) (K:List Str) (hE:SetE str es K):Tri Tryz.prog 37 #[Fc.val f,zp_ I 0] [] [ck_ I (.cells #[.map (some E)] 33 (0,0)),ck_ E (.map es c)] (fun _:Unit=>.bool (mx_ K f)) (fun _=>[]) (fun _=>[]):=by
 refine j_ Tryz.func37 rfl rfl Tryz.ntmps37 rfl fun L=>?_;refine Zz 2 ?_;refine aa_ rfl rfl fun A=>Zz 12 ?_
 refine e_ (K_ fb_ rfl rfl) rfl (C_ (ew_ (p:=f) (q:=(Fc.mk 2 f.a f.b f.r 0 0)) rfl rfl) rfl fun F e=>Zz 1 ?_);refine at_ 5 ((decide (f=(Fc.mk 2 f.a f.b f.r 0 0)))&&(decide (f.a∈K))) (fun r=>[(1,zp_ I 0),(2,zp_ A 0),(3,.bool false),(18,.bool r)]) ?_ fun G y=>?_
 ·cases F
  ·have d:=e
   replace e:=zdf e;refine Zz 7 ?_;exact met ⟨rfl,rfl,rfl,(o_ rfl (jaf d)),trivial⟩
  have d:=e;replace e:=zdt e;refine Zz 7 ?_;refine C_ (aD_ (bJ_ (k:=f.a) (q:=K) bG_ S_ aM_ rfl rfl hE (fun v _ h=>(by exact h.2.1:(ck_ E (.map es c)).p v).2)) (show _=Value.bool (decide (f.a∈K)) from congrArg Value.bool (decide_eq_decide.2 Iff.rfl))) rfl fun C m=>Zz 3 ?_
  exact met ⟨rfl,rfl,rfl,(o_ rfl (jat d m)),trivial⟩
 refine Zz 1 ?_;refine at_ 5 ((((decide (f=(Fc.mk 2 f.a f.b f.r 0 0)))&&(decide (f.a∈K))))&&(decide (f.b∈K))) (fun r=>[(2,zp_ A 0),(3,.bool false),(24,.bool r)]) ?_ fun C m=>?_
 ·cases G
  ·have d:=y
   refine Zz 7 ?_;exact met ⟨rfl,rfl,(o_ rfl (jaf d)),trivial⟩
  have d:=y;refine Zz 7 ?_;refine C_ (aD_ (bJ_ (k:=f.b) (q:=K) bG_ S_ aM_ rfl rfl hE (fun v _ h=>(by exact h.2.1:(ck_ E (.map es c)).p v).2)) (show _=Value.bool (decide (f.b∈K)) from congrArg Value.bool (decide_eq_decide.2 Iff.rfl))) rfl fun H x=>Zz 3 ?_
  exact met ⟨rfl,rfl,(o_ rfl (jat d x)),trivial⟩
 refine Zz 1 ?_;refine at_ 4 ((((((decide (f=(Fc.mk 2 f.a f.b f.r 0 0)))&&(decide (f.a∈K))))&&(decide (f.b∈K))))&&(f.r != [])) (fun r=>[(3,.bool false),(29,.bool r)]) ?_ fun H x=>?_
 ·cases C
  ·have d:=m
   refine Zz 6 ?_;exact met ⟨rfl,(o_ rfl (jaf d)),trivial⟩
  have d:=m;refine Zz 5 ?_;refine C_ (cZ_ rfl rfl) rfl fun J B=>Zz 3 ?_
  exact met ⟨rfl,(o_ rfl (jat d B)),trivial⟩
 refine Zz 4 ?_;exact af_ Tryz.results37 () (o_ rfl (by rw[← x];rfl)) l_ zt
theorem chk3_c (f:Fc) (fb B:Nat) (A:Nat) (es:Array MapEntry) (c:Nat) (K:List Str) (hE:SetE str es K):Tri Tryz.prog 38 #[Fc.val f,zp_ fb 0,zp_ B 0] [] [ck_ fb (.cells #[.func (.func 36) #[] #[]] 74 (0,0)),ck_ B (.cells #[.map (some A)] 33 (0,0)),ck_ A (.map es c)] (fun _:Unit=>.bool (qx_ K f)) (fun _=>[]) (fun _=>[]):=by
 refine j_ Tryz.func38 rfl rfl Tryz.ntmps38 rfl fun C=>?_;refine Zz 2 ?_;refine aa_ rfl rfl fun E=>Zz 7 ?_
 refine bS_ (wW_ f) rfl rfl l_ zt rfl fun y e=>Zz 1 ?_
 refine at_ 5 ((qz_ f)&&(decide (f.a∈K))) (fun r=>[(4,.bool false),(13,.bool r)]) ?_ fun F m=>?_
 ·cases y
  ·have d:=e
   refine Zz 7 ?_;exact met ⟨rfl,(o_ rfl (jaf d)),trivial⟩
  have d:=e;refine Zz 7 ?_;refine C_ (aD_ (bJ_ (k:=f.a) (q:=K) bG_ S_ aM_ rfl rfl hE (fun v _ h=>(by exact h.2.2.1:(ck_ A (.map es c)).p v).2)) (show _=Value.bool (decide (f.a∈K)) from congrArg Value.bool (decide_eq_decide.2 Iff.rfl))) rfl fun G x=>Zz 3 ?_
  exact met ⟨rfl,(o_ rfl (jat d x)),trivial⟩
 refine Zz 4 ?_;exact af_ Tryz.results38 () (o_ rfl (by rw[← m];rfl)) l_ zt
theorem chk4_c (f:Fc) (C x:Nat) (y:Nat) (es:Array MapEntry) (c:Nat) (K:List Str) (hE:SetE str es K):Tri Tryz.prog 39 #[Fc.val f,zp_ C 0] [] [ck_ C (.cells #[.func (.func 37) #[] #[zp_ x 0]] 74 (0,0)),ck_ x (.cells #[.map (some y)] 33 (0,0)),ck_ y (.map es c)] (fun _:Unit=>.bool (rk_ K f)) (fun _=>[]) (fun _=>[]):=by
 refine j_ Tryz.func39 rfl rfl Tryz.ntmps39 rfl fun E=>?_;refine Zz 2 ?_;refine aa_ rfl rfl fun B=>Zz 7 ?_
 refine bS_ (wV_ f x y es c K hE) rfl rfl l_ zf rfl fun q h=>Zz 1 ?_
 refine at_ 5 ((mx_ K f)&&(!(nls f.a))) (fun r=>[(2,zp_ B 0),(3,.bool false),(12,.bool r)]) ?_ fun v k=>?_
 ·cases q
  ·have d:=h
   refine Zz 7 ?_;exact met ⟨rfl,rfl,(o_ rfl (jaf d)),trivial⟩
  have d:=h;refine Zz 5 ?_;refine T_ (bY_ f.a) rfl l_ zt rfl fun A e=>aQ_ rfl rfl (e_ (aJ_ rfl) rfl (Zz 3 ?_))
  exact met ⟨rfl,rfl,(o_ rfl (jat d (jn e))),trivial⟩
 refine Zz 1 ?_;refine at_ 5 ((((mx_ K f)&&(!(nls f.a))))&&(!(nls f.b))) (fun r=>[(3,.bool false),(18,.bool r)]) ?_ fun A e=>?_
 ·cases v
  ·have d:=k
   refine Zz 7 ?_;exact met ⟨rfl,(o_ rfl (jaf d)),trivial⟩
  have d:=k;refine Zz 5 ?_;refine T_ (bY_ f.b) rfl l_ zt rfl fun F m=>aQ_ rfl rfl (e_ (aJ_ rfl) rfl (Zz 3 ?_))
  exact met ⟨rfl,(o_ rfl (jat d (jn m))),trivial⟩
 refine Zz 4 ?_;exact af_ Tryz.results39 () (o_ rfl zaF_) l_ zt
theorem gK_ {G:Prop} (h:G:=by
 exact met ⟨rfl,rfl,(o_ rfl (jaf d)),trivial⟩):G:=h
theorem chk5_c (f:Fc) (N:Nat) (L:Nat) (es:Array MapEntry) (c:Nat) (K:List Str) (hE:SetE str es K):Tri Tryz.prog 40 #[Fc.val f,zp_ N 0] [] [ck_ N (.cells #[.map (some L)] 33 (0,0)),ck_ L (.map es c)] (fun _:Unit=>.bool (qJ_ K f)) (fun _=>[]) (fun _=>[]):=by
 refine j_ Tryz.func40 rfl rfl Tryz.ntmps40 rfl fun O=>?_;refine Zz 2 ?_;refine aa_ rfl rfl fun B=>Zz 14 ?_
 refine e_ (K_ fb_ rfl rfl) rfl (C_ (ew_ (p:=f) (q:=(Fc.mk 3 f.a [] f.r f.lo f.hi)) rfl rfl) rfl fun I e=>Zz 1 ?_);refine at_ 5 ((decide (f=(Fc.mk 3 f.a [] f.r f.lo f.hi)))&&(decide (f.a∈K))) (fun r=>[(2,zp_ B 0),(3,.bool false),(20,.bool r)]) ?_ fun J C=>?_
 ·cases I
  ·have d:=e
   replace e:=zdf e;refine Zz 7 ?_;exact gK_
  have d:=e;replace e:=zdt e;refine Zz 7 ?_;refine C_ (aD_ (bJ_ (k:=f.a) (q:=K) bG_ S_ aM_ rfl rfl hE (fun v _ h=>(by exact h.2.1:(ck_ L (.map es c)).p v).2)) (show _=Value.bool (decide (f.a∈K)) from congrArg Value.bool (decide_eq_decide.2 Iff.rfl))) rfl fun G y=>Zz 3 ?_
  exact met ⟨rfl,rfl,(o_ rfl (jat d y)),trivial⟩
 refine Zz 1 ?_;refine at_ 4 ((((decide (f=(Fc.mk 3 f.a [] f.r f.lo f.hi)))&&(decide (f.a∈K))))&&(f.r != [])) (fun r=>[(2,zp_ B 0),(3,.bool false),(25,.bool r)]) ?_ fun G y=>?_
 ·cases J
  ·have d:=C
   refine Zz 6 ?_;exact gK_
  have d:=C;refine Zz 5 ?_;refine C_ (cZ_ rfl rfl) rfl fun F m=>Zz 3 ?_
  exact met ⟨rfl,rfl,(o_ rfl (jat d m)),trivial⟩
 refine Zz 1 ?_;refine at_ 4 ((((((decide (f=(Fc.mk 3 f.a [] f.r f.lo f.hi)))&&(decide (f.a∈K))))&&(f.r != [])))&&(decide ((-1099511627776)≤f.lo))) (fun r=>[(2,zp_ B 0),(3,.bool false),(30,.bool r)]) ?_ fun F m=>?_
 ·cases G
  ·have d:=y
   refine Zz 6 ?_;exact gK_
  have d:=y;refine Zz 5 ?_;refine C_ (dw_ rfl rfl) rfl fun E x=>Zz 3 ?_
  exact met ⟨rfl,rfl,(o_ rfl (jat d x)),trivial⟩
 refine Zz 1 ?_;refine at_ 6 ((((((((decide (f=(Fc.mk 3 f.a [] f.r f.lo f.hi)))&&(decide (f.a∈K))))&&(f.r != [])))&&(decide ((-1099511627776)≤f.lo))))&&(decide (f.lo≤f.hi))) (fun r=>[(2,zp_ B 0),(3,.bool false),(37,.bool r)]) ?_ fun E x=>?_
 ·cases F
  ·have d:=m
   refine Zz 8 ?_;exact gK_
  have d:=m;refine Zz 9 ?_;refine C_ (dw_ rfl rfl) rfl fun M A=>Zz 3 ?_
  exact met ⟨rfl,rfl,(o_ rfl (jat d A)),trivial⟩
 refine Zz 1 ?_;refine at_ 4 ((((((((((decide (f=(Fc.mk 3 f.a [] f.r f.lo f.hi)))&&(decide (f.a∈K))))&&(f.r != [])))&&(decide ((-1099511627776)≤f.lo))))&&(decide (f.lo≤f.hi))))&&(decide (f.hi≤1099511627776))) (fun r=>[(3,.bool false),(42,.bool r)]) ?_ fun M A=>?_
 ·cases E
  ·have d:=x
   refine Zz 6 ?_;exact met ⟨rfl,(o_ rfl (jaf d)),trivial⟩
  have d:=x;refine Zz 5 ?_;refine C_ (dw_ rfl rfl) rfl fun P H=>Zz 3 ?_
  exact met ⟨rfl,(o_ rfl (jat d H)),trivial⟩
 refine Zz 4 ?_;exact af_ Tryz.results40 () (o_ rfl (by rw[← A];rfl)) l_ zt
theorem wX_ (m:Mdl) (A:m.ok):Tri Tryz.prog 10 #[Mdl.val m] [] [er_ m] (fun e:{e:Int // (e=0∨e=1)∧(e=0↔MdV m)}=>.int .i64 e.1) (fun _=>[]) (fun _=>[]):=by
 refine j_ Tryz.func10 rfl rfl Tryz.ntmps10 rfl fun v_1=>?_;have hdl:=A.no;refine Zz 2 ?_;refine aa_ rfl rfl fun R=>Zz 8 ?_
 refine i_ (yf_ (Mdl.no m) (Mdl.noa m) (Mdl.noc m) A.no) rfl l_ (fun v _ h=>by exact⟨h.1.1,trivial⟩) rfl fun⟨bn,P⟩=>?_;dsimp only;refine e_ (aJ_ rfl) rfl (Zz 2 ?_);cases bn
 ·refine Zz 7 ?_
  exact af_ iI_ ⟨1,.inr rfl,fun q=>absurd q zx_,fun q=>absurd q (fun q=>by have:=P.2 q.no;cases this)⟩ rfl l_ zt
 refine Zz 5 ?_;refine bn_ rfl fun d=>D_ ei_ rfl fun k=>x_ 0 Tryz.sizeOf33 rfl rfl rfl rfl rfl rfl (Zz 12 ?_)
 refine P_ (ι:={y:Nat×StM // y.1≤List.length (Mdl.no m)∧(∀ n,n∈y.2.ks↔n∈List.take y.1 (Mdl.no m))}) (fun y=>[(1,zp_ R 0),(2,.int .i64 0),(3,zp_ k 0),(18,.slice (Mdl.noa m) (List.length (Mdl.no m)) (Mdl.noc m)),(19,.int .i64 (List.length (Mdl.no m):Int)),(20,.int .i64 (y.1.1:Int))]) (fun y=>((k,.cells #[.map (some d)] 33 (0,0))::((d,.map y.1.2.es y.1.2.c)::((R,.cells #[.slice (Mdl.noa m) (List.length (Mdl.no m)) (Mdl.noc m),.slice (Mdl.tya m) (List.length (Mdl.ty m)) (Mdl.tyc m),.slice (Mdl.lia m) (List.length (Mdl.li m)) (Mdl.lic m),.slice (Mdl.dia m) (List.length (Mdl.di m)) (Mdl.dic m),.slice (Mdl.raa m) (List.length (Mdl.ra m)) (Mdl.rac m),.slice (Mdl.roa m) (List.length (Mdl.ro m)) (Mdl.roc m)] 28 (0,0))::[])))) (fun y=>[er_ m]) (fun y=>List.length (Mdl.no m) - y.1.1) ⟨((0:Nat),StM.nil),by simp,(by intro n;simp[StM.nil])⟩ zl zp zh ?_;rintro ⟨⟨i,s⟩,Q,M⟩;dsimp only at Q M ⊢;refine Zi 2 (fun U=>?_) fun U=>?_
 ·refine Zz 7 ?_
  rw[List.take_of_length_le zr_]at M;refine fj_ (ck_ d (.map s.es s.c)) (bq_ (c_ d_)) (fun _ B C _=>⟨B,C⟩) ?_;refine fj_ (ck_ k (.cells #[.map (some d)] 33 (0,0))) (bq_ d_) (fun _ B C _=>⟨B,C⟩) ?_;refine ad_ (D_ Tryz.zeroValue74 rfl fun K=>x_ 0 Tryz.sizeOf74 rfl rfl rfl rfl rfl rfl (Zz 4 ?_));refine e_ (bT_ rfl rfl) rfl (D_ Tryz.zeroValue74 rfl fun J=>x_ 0 Tryz.sizeOf74 rfl rfl rfl rfl rfl rfl (Zz 3 ?_));refine fj_ (ck_ K (.cells #[.func (.func 36) #[] #[]] 74 (0,0))) (bq_ (c_ d_)) (fun _ B C _=>⟨B,C⟩) ?_;refine fj_ (ck_ J (.cells #[.func (.func 37) #[] #[zp_ k 0]] 74 (0,0))) (bq_ d_) (fun _ B C _=>⟨B,C⟩) ?_;refine ad_ (e_ (bT_ rfl rfl) rfl (Zz 5 ?_));refine e_ (bT_ rfl rfl) rfl (Zz 5 ?_);refine e_ (bT_ rfl rfl) rfl (Zz 8 ?_);refine i_ (oj_ (cv:=[zp_ K 0,zp_ k 0]) (Gc:=[ck_ K (.cells #[.func (.func 36) #[] #[]] 74 (0,0)),ck_ k (.cells #[.map (some d)] 33 (0,0)),ck_ d (.map s.es s.c)]) (qx_ s.ks) (Mdl.ty m) (Mdl.tya m) (Mdl.tyc m) A.ty fun x _=>by exact chk3_c x K k d s.es s.c s.ks s.hE) rfl l_ (fun v _ h=>by exact⟨h.2.2.2.2.1.2.1,⟨h.2.1,h.2.2.1,h.2.2.2.1,trivial⟩,trivial⟩) rfl fun⟨W,I⟩=>?_;dsimp only;refine Zz 1 ?_;cases W
  ·refine Zz 30 ?_
   refine e_ (aJ_ rfl) rfl (Zz 9 ?_);exact af_ iI_ ⟨1,.inr rfl,fun q=>absurd q zx_,fun q=>absurd q (fun q=>by have:=I.2 ⟨fun f L=>(te_ M f).trans (q.ty.1 f L),q.ty.2⟩;cases this)⟩ rfl l_ zt
  refine Zz 7 ?_;refine i_ (oj_ (cv:=[zp_ J 0]) (Gc:=[ck_ J (.cells #[.func (.func 37) #[] #[zp_ k 0]] 74 (0,0)),ck_ k (.cells #[.map (some d)] 33 (0,0)),ck_ d (.map s.es s.c)]) (rk_ s.ks) (Mdl.li m) (Mdl.lia m) (Mdl.lic m) A.li fun x _=>by exact chk4_c x J k d s.es s.c s.ks s.hE) rfl l_ (fun v _ h=>by exact⟨h.2.2.2.2.1.2.2.1,⟨h.1,h.2.2.1,h.2.2.2.1,trivial⟩,trivial⟩) rfl fun⟨S,E⟩=>?_;dsimp only;refine Zz 2 ?_;cases S
  ·refine Zz 24 ?_
   refine e_ (aJ_ rfl) rfl (Zz 9 ?_);exact af_ iI_ ⟨1,.inr rfl,fun q=>absurd q zx_,fun q=>absurd q (fun q=>by have:=E.2 ⟨fun f L=>(ts_ M f).trans (q.li.1 f L),q.li.2⟩;cases this)⟩ rfl l_ zt
  refine Zz 7 ?_;refine i_ (oj_ (cv:=[zp_ k 0]) (Gc:=[ck_ k (.cells #[.map (some d)] 33 (0,0)),ck_ d (.map s.es s.c)]) (mx_ s.ks) (Mdl.di m) (Mdl.dia m) (Mdl.dic m) A.di fun x _=>by exact wV_ x k d s.es s.c s.ks s.hE) rfl l_ (fun v _ h=>by exact⟨h.2.2.2.2.1.2.2.2.1,⟨h.2.2.1,h.2.2.2.1,trivial⟩,trivial⟩) rfl fun⟨X,G⟩=>?_;dsimp only;refine Zz 2 ?_;cases X
  ·refine Zz 18 ?_
   refine e_ (aJ_ rfl) rfl (Zz 9 ?_);exact af_ iI_ ⟨1,.inr rfl,fun q=>absurd q zx_,fun q=>absurd q (fun q=>by have:=G.2 ⟨fun f L=>(pI_ M f).trans (q.di.1 f L),q.di.2⟩;cases this)⟩ rfl l_ zt
  refine Zz 7 ?_;refine i_ (oj_ (cv:=[zp_ k 0]) (Gc:=[ck_ k (.cells #[.map (some d)] 33 (0,0)),ck_ d (.map s.es s.c)]) (qJ_ s.ks) (Mdl.ra m) (Mdl.raa m) (Mdl.rac m) A.ra fun x _=>by exact chk5_c x k d s.es s.c s.ks s.hE) rfl l_ (fun v _ h=>by exact⟨h.2.2.2.2.1.2.2.2.2.1,⟨h.2.2.1,h.2.2.2.1,trivial⟩,trivial⟩) rfl fun⟨O,H⟩=>?_;dsimp only;refine Zz 2 ?_;cases O
  ·refine Zz 12 ?_
   refine e_ (aJ_ rfl) rfl (Zz 9 ?_);exact af_ iI_ ⟨1,.inr rfl,fun q=>absurd q zx_,fun q=>absurd q (fun q=>by have:=H.2 ⟨fun f L=>(th_ M f).trans (q.ra.1 f L),q.ra.2⟩;cases this)⟩ rfl l_ zt
  refine Zz 7 ?_;refine i_ (oj_ (cv:=[]) (Gc:=[]) (qz_) (Mdl.ro m) (Mdl.roa m) (Mdl.roc m) A.ro fun x _=>by exact wW_ x) rfl l_ (fun v _ h=>by exact⟨h.2.2.2.2.1.2.2.2.2.2,trivial,trivial⟩) rfl fun⟨V,F⟩=>?_;dsimp only;refine Zz 8 ?_;refine e_ (aJ_ rfl) rfl (Zz 2 ?_);cases V
  ·refine Zz 7 ?_
   exact af_ iI_ ⟨1,.inr rfl,fun q=>absurd q zx_,fun q=>absurd q (fun q=>by have:=F.2 ⟨fun f L=>q.ro.1 f L,q.ro.2⟩;cases this)⟩ rfl l_ zt
  refine Zz 9 ?_;exact af_ iI_ ⟨0,.inl rfl,fun _=>(yj_ M P I E G H F).2 ⟨rfl,rfl,rfl,rfl,rfl,rfl⟩,fun _=>rfl⟩ rfl l_ zt
 obtain⟨N,Z,T,Y⟩:=zge (show i<List.length (Mdl.no m) by omega);refine Zz 18 ?_;refine ec_ 1 s bG_ (.inr rfl) S_ rfl rfl rfl rfl (Zz 7 ?_);exact y_ ⟨(i+1,(StM.add s Z)),N,(by intro n;rw[StM.mem,M n,tk1 T];simp)⟩ zu_ zl zp zh
end Go.Proofs.YtpbnmnfdgckaiaaGreatDoor
namespace Go.Proofs.YtpbnmnfdgckaiaaGreatDoor
open Go Go.Sx Go.Proofs
attribute [local irreducible] Code.wp wpList wpAnyH
open Go.Vs Go.Shelf Go.RowKit
structure Bok (ls:List Ax) (m:Mdl) (c:Cl):Prop where
  chk:∀ x∈ls,x.check=0
  nc:¬ lv_ (di_ ls)
  pc:cE_ (cr_ 0 ls)=0
  at':c.atoms=atS (cr_ 0 ls)
  fs:eJ_ (cr_ 0 ls) (atS (cr_ 0 ls)) 65536 (some c.facts)
  asm:AsmR (cr_ 0 ls) c m.no m.ty m.li m.di m.ra
  inc:uT_ ls m.ro
theorem oE_.bok {ls:List Ax} {m:Mdl} {e:Int} (h:oE_ ls m e) (q:e=0):∃ c,Bok ls m c:=by
 rcases h with⟨_,d,k,c,B,C,A⟩|⟨h,_⟩
 ·obtain⟨y,_,_,_,v,x⟩:=B.good
  exact⟨c,d,k,y,v,x,C,A⟩
 exact absurd q h
theorem js_ {p:List Pc} (k:cE_ p=0) {y:Fc} (h:Der p (atS p) y):(y.kind=1→y=ac_ y.a y.b∧y.a∈atS p∧y.b∈atS p)∧(y.kind=2→y=am_ y.a y.r y.b∧y.a∈atS p∧y.b∈atS p∧y.r≠[])∧(y.kind=3→y=ax_ y.a y.r y.lo y.hi∧y.a∈atS p∧y.r≠[]∧-1099511627776≤y.lo∧y.lo≤y.hi∧y.hi≤1099511627776):=by
 have d:=der_ok (gW_ k) h;have e:=h.form fun x v=>jd_ (gW_ k x v)
 rcases e with⟨a,b,rfl⟩|⟨a,r,b,rfl,_⟩|⟨a,r,lo,hi,rfl,_⟩
 ·have:=fo1.1 d
  exact⟨fun _=>⟨rfl,this.1,this.2⟩,fun q=>absurd q (by simp[ac_]),fun q=>absurd q (by simp[ac_])⟩
 ·have:=fo2.1 d
  exact⟨fun q=>absurd q (by simp[am_]),fun _=>⟨rfl,this.1,this.2.1,this.2.2⟩,fun q=>absurd q (by simp[am_])⟩
 have:=fo3.1 d;exact⟨fun q=>absurd q (by simp[ax_]),fun q=>absurd q (by simp[ax_]),fun _=>⟨rfl,this.1,this.2.1,this.2.2.1,this.2.2.2.1,this.2.2.2.2⟩⟩
theorem kM_ {p:List Pc} {F:List Fc} (A:∀ y,y∈F↔Der p (atS p) y) (B:cE_ p=0) {s:Str} {z:Fc}:(s,z)∈ds_ p F↔∃ y∈p,y.kind=3∧Der p (atS p) (ac_ s y.a)∧z=am_ s y.r y.c:=by
 rw[kN_];constructor
 ·rintro ⟨f,C,y,k,e,q,x,rfl,rfl⟩
  have d:=(A f).1 C;have v:=((js_ B d).1 e).1;refine⟨y,k,q,?_,rfl⟩;rw[x,← v];exact d
 rintro ⟨y,k,e,d,rfl⟩;exact⟨ac_ s y.a,(A _).2 d,y,k,rfl,e,rfl,rfl,rfl⟩
theorem hM_ {D:List (Str×Fc)} {s t:Str}:t∈nxD D s↔∃ z,(s,z)∈D∧z.b=t:=by
  unfold nxD;rw[List.mem_map];exact⟨fun⟨z,h,e⟩=>⟨z,bP_.1 h,e⟩,fun⟨z,h,e⟩=>⟨z,bP_.2 h,e⟩⟩
theorem RchS.mono {nx d:Str→List Str} {I e:List Str} (q:∀ s t,t∈nx s→t∈d s) (k:∀ s∈I,s∈e) {t:Str} (h:RchS nx I t):RchS d e t:=by
  induction h with
  | zero h=>exact .zero (k _ h)
  | step _ ht ih=>exact .step ih (q _ _ ht)
theorem fJ_ {l:List Str} {s:Str}:s∈eA_ l↔s∈l∧nls s=false:=by unfold eA_;rw[List.mem_filter,Bool.not_eq_true']
section
variable {ls:List Ax} {m:Mdl} {c:Cl} (h:Bok ls m c)
include h
theorem Bok.der (y:Fc):y∈c.facts↔Der (cr_ 0 ls) (atS (cr_ 0 ls)) y:=h.fs.2.1 y
theorem Bok.rch (s:Str):s∈m.no↔RchS (nxD (ds_ (cr_ 0 ls) c.facts)) (eA_ (atS (cr_ 0 ls))) s:=by rw[← h.at'];exact h.asm.nd.mem s
theorem Bok.next {s:Str} {z:Fc} (d:s∈m.no) (e:(s,z)∈ds_ (cr_ 0 ls) c.facts):z.b∈m.no:=(h.rch _).2 (.step ((h.rch _).1 d) (hM_.2 ⟨z,e,rfl⟩))
theorem Bok.no_at {s:Str} (v:s∈m.no):s∈atS (cr_ 0 ls):=by
  have e:=(h.rch s).1 v;cases e with
  | zero q=>exact (fJ_.1 q).1
  | step _ q =>
    obtain⟨z,x,rfl⟩:=hM_.1 q;obtain⟨y,k,d,_,rfl⟩:=(kM_ h.der h.pc).1 x;exact zq_ k (.inr (.inr rfl)) (td_ (gW_ h.pc y k) zah_)
theorem Bok.ind {s:Str} (d:s∈atS (cr_ 0 ls)) (e:nls s=false):s∈m.no:=(h.rch s).2 (.zero (fJ_.2 ⟨d,e⟩))
theorem Bok.ty (z:Fc):z∈m.ty↔Der (cr_ 0 ls) (atS (cr_ 0 ls)) z∧z.kind=1∧z.a∈m.no:=by rw[h.asm.ty.2,h.der]
theorem Bok.li (z:Fc):z∈m.li↔Der (cr_ 0 ls) (atS (cr_ 0 ls)) z∧z.kind=2∧nls z.a=false∧nls z.b=false:=by rw[h.asm.li.2,h.der]
theorem Bok.ra (z:Fc):z∈m.ra↔Der (cr_ 0 ls) (atS (cr_ 0 ls)) z∧z.kind=3∧z.a∈m.no:=by rw[h.asm.ra.2,h.der]
theorem Bok.di (z:Fc):z∈m.di↔∃ s∈m.no,∃ y∈cr_ 0 ls,y.kind=3∧Der (cr_ 0 ls) (atS (cr_ 0 ls)) (ac_ s y.a)∧z=am_ s y.r y.c:=by
  rw[h.asm.di.2];exact⟨fun⟨s,d,q⟩=>⟨s,d,(kM_ h.der h.pc).1 q⟩,fun⟨s,d,q⟩=>⟨s,d,(kM_ h.der h.pc).2 q⟩⟩
theorem Bok.nls_N {N:List Str} (k:∀ s,(s∈eA_ (atS (cr_ 0 ls))∨s∈N)↔RchS (nxD (ds_ (cr_ 0 ls) c.facts)) (eA_ (atS (cr_ 0 ls))) s) (e:∀ s∈N,s ∉ eA_ (atS (cr_ 0 ls))):∀ s∈N,nls s=true:=fun s d=>by
 have v:=h.no_at ((h.rch s).2 ((k s).1 (.inr d)))
 by_cases q:nls s=true
 ·exact q
 exact absurd (fJ_.2 ⟨v,by simpa using q⟩) (e s d)
theorem Bok.nodup:m.no.Nodup:=tm_ h.asm.nd (by rw[h.at'];exact ((jX_ _).sublist List.filter_sublist).imp fun {a b} q e=>by subst e;exact List.lt_irrefl _ q)
end
theorem yh_ {l:List Str} (y:∀ s∈l,s≠[]) (h:l.Pairwise sp_):oC_ l:=⟨y,fun i p s d q=>by
  obtain⟨e,x⟩:=List.getElem?_eq_some_iff.1 d;obtain⟨k,v⟩:=List.getElem?_eq_some_iff.1 q;have:=List.pairwise_iff_getElem.1 h i (i+1) e k zr_;rwa [x,v]at this⟩
theorem tn_ {p s:Str} (h:nls p=nls s) (hl:p<s):sp_ p s:=fun q=>by
 rcases q with⟨_,q⟩|⟨d,e⟩
 ·exact absurd hl (List.not_lt.2 q)
 rw[h,e]at d;cases d
theorem Bok.nodV {ls:List Ax} {m:Mdl} {c:Cl} (h:Bok ls m c):oC_ m.no:=by
 refine yh_ (fun s E=>sS_ (h.no_at E)) ?_;obtain⟨N,A,e,y,x⟩:=h.asm.nd;rw[h.at']at e y x;have B:=h.nls_N x y;rw[e,List.pairwise_append];refine⟨?_,?_,fun a k b d=>?_⟩
 ·refine List.Pairwise.imp_of_mem (fun {a b} k d q=>tn_ ?_ q) ((jX_ _).sublist List.filter_sublist)
  rw[(fJ_.1 k).2,(fJ_.1 d).2]
 ·refine List.Pairwise.imp_of_mem (fun {a b} k d q=>tn_ ?_ q) (fP_ A)
  rw[List.mem_mergeSort]at k d;rw[B a k,B b d]
 rw[List.mem_mergeSort]at d;have v:=(fJ_.1 k).2;have C:=B b d;rintro (⟨q,_⟩|⟨q,_⟩)
 ·rw[v,C]at q;cases q
 rw[v]at q;cases q
theorem abv_ne {l:List Ax} (v:∀ x∈l,x.check=0) {r t:Str} (y:r≠[]) (h:RchS (lat (fU_ l)) [r] t):t≠[]:=by
 cases h with
 | zero h=>rw[List.mem_singleton.1 h];exact y
 | step _ ht =>
   have k:=bP_.1 ht;unfold fU_ at k;obtain⟨x,A,d⟩:=List.mem_flatMap.1 k
   split at d
   · rename_i q
     simp only[List.mem_singleton,Prod.mk.injEq]at d;rw[d.2];have:=(Ax.good_of (v x A)).role (.inr (.inl q));intro e;rw[e]at this;revert this;decide
   · simp at d
theorem Bok.mdV {ls:List Ax} {m:Mdl} {c:Cl} (h:Bok ls m c):MdV m where
  no:=h.nodV
  ty:=⟨fun f d=>by
    obtain⟨q,e,k⟩:=(h.ty f).1 d;obtain⟨x,A,v⟩:=(js_ h.pc q).1 e;have E:=sS_ A;have B:=sS_ v;unfold qx_ qz_;rw[decide_eq_true x,decide_eq_true k,bne_iff_ne.2 E,bne_iff_ne.2 B];rfl,h.asm.ty.1⟩
  li:=⟨fun f d=>by
    obtain⟨q,e,k,I⟩:=(h.li f).1 d;obtain⟨x,A,v,C⟩:=(js_ h.pc q).2.1 e;unfold rk_ mx_;rw[decide_eq_true x,decide_eq_true (h.ind A k),decide_eq_true (h.ind v I),bne_iff_ne.2 C,k,I];rfl,h.asm.li.1⟩
  di:=⟨fun f d=>by
    obtain⟨s,F,y,G,H,K,rfl⟩:=(h.di f).1 d;have L:=h.next F ((kM_ h.der h.pc).2 ⟨y,G,H,K,rfl⟩);have M:(am_ s y.r y.c).r≠[]:=(jd_ (gW_ h.pc y G)).rok.1 (by simp[H]);unfold mx_;rw[decide_eq_true (p:=am_ s y.r y.c=am_ (am_ s y.r y.c).a (am_ s y.r y.c).r (am_ s y.r y.c).b) rfl,decide_eq_true (p:=(am_ s y.r y.c).a∈m.no) F,decide_eq_true (p:=(am_ s y.r y.c).b∈m.no) L,bne_iff_ne.2 M];rfl,h.asm.di.1⟩
  ra:=⟨fun f d=>by
    obtain⟨q,e,k⟩:=(h.ra f).1 d;obtain⟨x,A,v,C,J,N⟩:=(js_ h.pc q).2.2 e;unfold qJ_;rw[decide_eq_true x,decide_eq_true k,bne_iff_ne.2 v,decide_eq_true C,decide_eq_true J,decide_eq_true N];rfl,h.asm.ra.1⟩
  ro:=⟨fun f d=>by
    obtain⟨r,t,⟨q,e⟩,k,rfl⟩:=(h.inc.2 f).1 d;have B:(ac_ r t).b≠[]:=abv_ne h.chk e k;have E:(ac_ r t).a≠[]:=e;unfold qz_;rw[decide_eq_true (p:=ac_ r t=ac_ (ac_ r t).a (ac_ r t).b) rfl,bne_iff_ne.2 E,bne_iff_ne.2 B];rfl,h.inc.1⟩
def Clsd (di:List Fc) (K:List Str):Prop:=∀ f∈di,f.a∈K→f.b∈K
theorem Bok.all {ls:List Ax} {m:Mdl} {c:Cl} (h:Bok ls m c) {K:List Str} (E:K.Nodup) (C:∀ x∈K,x∈m.no) (hi:∀ x∈m.no,nls x=false→x∈K) (B:Clsd m.di K∨m.no.length≤K.length):(∀ x∈m.no,x∈K)∧K.length=m.no.length:=by
 have A:∀ x∈m.no,x∈K:=by
   rcases B with B|B
   · intro x v
     have v:=(h.rch x).1 v
     induction v with
     | zero q=>exact hi _ ((h.rch _).2 (.zero q)) (fJ_.1 q).2
     | @step s t hs' ht ih =>
       obtain⟨z,k,rfl⟩:=hM_.1 ht;have d:=(h.rch s).2 hs';have F:z∈m.di:=(h.asm.di.2 z).2 ⟨s,d,k⟩;have G:z.a=s:=by obtain⟨y,_,_,_,e⟩:=(kM_ h.der h.pc).1 k;rw[e];rfl
       exact B z F (by rw[G];exact ih d)
   · intro x v
     apply Classical.byContradiction
     intro q
     have:=cd_ (l:=x::K) (m:=m.no) (List.nodup_cons.2 ⟨q,E⟩) fun z k=>by
       rcases List.mem_cons.1 k with rfl|k
       · exact v
       · exact C z k
     simp only[List.length_cons]at this;omega
 exact⟨A,Nat.le_antisymm (cd_ E C) (cd_ h.nodup A)⟩
section
variable {R:List Str} {f:Int}
end
section
variable {ls:List Ax} {m:Mdl} {c:Cl} (h:Bok ls m c)
include h
theorem Bok.plain {r:Str} (d:r∈vcL 6 ls) (e:r≠[]):ba_ r=true:=kx_ (qu_ h.chk d e)
end
end Go.Proofs.YtpbnmnfdgckaiaaGreatDoor
namespace Go.Proofs.YtpbnmnfdgckaiaaGreatDoor
open Go Go.Sx Go.Proofs
attribute [local irreducible] Code.wp wpList wpAnyH
open Go.Vs Go.Shelf Go.RowKit
def L22 (ad:Option Addr):List Ax:=[Ax.mk 1 false (Con.mk 3 [65] 0 0 none 0 []) (Con.mk 6 [114] 0 0 ad 1 [(Con.mk 3 [66] 0 0 none 0 [])]) none 0 [] [] [] [],Ax.mk 8 false (Con.mk 0 [] 0 0 none 0 []) (Con.mk 3 [65] 0 0 none 0 []) none 0 [] [] [97] []]
def P22:List Pc:=[⟨3,[60,115,111,109,101,32,114,32,66,62],[],[66],[114],[],[],0,0,0⟩,⟨1,[65],[],[60,115,111,109,101,32,114,32,66,62],[],[],[],0,0,0⟩,⟨1,[123,97,125],[],[65],[],[],[],0,0,1⟩]
theorem zb_ (ad:Option Addr):∀ x∈L22 ad,x.check=0:=fun x d=>by
  unfold L22 at d;simp only[List.mem_cons,List.not_mem_nil,or_false]at d;rcases d with rfl|rfl<;>kernel_rfl
theorem L22_ok (ad:Option Addr):∀ x∈L22 ad,x.ok:=fun x d=>by
  unfold L22 at d;simp only[List.mem_cons,List.not_mem_nil,or_false]at d;rcases d with rfl|rfl<;>(constructor<;>simp[Con.ok,Con.ok.oks])
theorem ot_ (ad:Option Addr):cr_ 0 (L22 ad)=P22:=by kernel_rfl
theorem uS_ (ad:Option Addr):di_ (L22 ad)=[]:=by kernel_rfl
theorem rG_:¬ lv_ []:=fun⟨n,f,c,d,_,e,_⟩=>by have:=e 0 d;cases this
def A22:List Str:=[[33],[42],[60,115,111,109,101,32,114,32,66,62],[65],[66],[123,97,125]]
theorem tH_:atS P22=A22:=gr_ ge_ List.lt_trans (jX_ P22) zx_ fun x=>by
 rw[hZ_,fH_];simp only[dj_,lt_,P22,A22,List.flatMap_cons,List.flatMap_nil,List.mem_append,List.mem_cons,List.not_mem_nil,or_false];simp
 constructor
 ·intro h
  simp only[or_assoc]at h;rcases h with rfl|rfl|rfl|rfl|rfl|rfl|rfl|rfl<;>simp
 rintro (rfl|rfl|rfl|rfl|rfl|rfl)<;>simp
theorem xc_:atS []=[[33],[42]]:=gr_ ge_ List.lt_trans (jX_ []) zx_ fun x=>by
  rw[hZ_,fH_];simp[dj_,or_comm]
def F22:List Fc:=ol_ P22 A22 6
theorem tJ_:cE_ P22=0:=by decide +kernel
theorem xi_:eJ_ P22 A22 65536 (some F22):=rF_ (pq_ tJ_) 6 65536 zaz_ zaz_
theorem F0_is:eJ_ [] [[33],[42]] 65536 (some (ol_ [] [[33],[42]] 3)):=rF_ (fun x d=>by simp at d) 3 65536 zaz_ zaz_
theorem zc_ {s t:Str} (h:t∈nxD (ds_ P22 F22) s):s∈[[60,115,111,109,101,32,114,32,66,62],[65],[123,97,125]]∧t=[66]:=by
  have d:((ds_ P22 F22).all fun e=>decide (e.1∈[[60,115,111,109,101,32,114,32,66,62],[65],[123,97,125]])&&decide (e.2.b=[66]))=true:=by decide +kernel
  obtain⟨z,k,rfl⟩:=hM_.1 h;have:=List.all_eq_true.1 d _ k;simp only[Bool.and_eq_true,decide_eq_true_eq]at this;exact this
theorem xj_:([123,97,125],am_ [123,97,125] [114] [66])∈ds_ P22 F22:=by decide +kernel
theorem N22:oD_ (ds_ P22 F22) (eA_ A22) [[123,97,125],[66]]:=by
 have d:eA_ A22=[[123,97,125]]:=by decide +kernel
 refine⟨[[66]],by simp,by rw[d,bg_,List.mergeSort_singleton];rfl,by rw[d];decide,fun s=>?_⟩;rw[d];constructor
 ·rintro (h|h)
  ·exact .zero h
  rw[List.mem_singleton.1 h];exact .step (.zero (List.mem_singleton.2 rfl)) (hM_.2 ⟨_,xj_,rfl⟩)
 intro h
 induction h with
 | zero h=>exact .inl h
 | step _ ht _=>exact .inr (List.mem_singleton.2 (zc_ ht).2)
theorem bld22 {ad:Option Addr} {m:Mdl} {e:Int} (h:oE_ (L22 ad) m e):e=0∧m.no=[[123,97,125],[66]]∧m.di=[am_ [123,97,125] [114] [66]]∧ac_ [123,97,125] [65]∈m.ty∧xP_ m [123,97,125] [114] [66]=true∧MdV m:=by
 have G:e=0:=by
   rcases h with⟨h,_⟩|⟨_,_,⟨x,I,h⟩|h|⟨_,c,h⟩⟩
   · exact h
   · exact absurd (zb_ ad x I) h
   · rw[uS_]at h;exact absurd h rG_
   · rw[ot_]at h
     exact ((mL_ h tJ_ zx_ zx_ (r:=some F22) (by rw[tH_];exact xi_)).1 _ rfl).1
 subst G;obtain⟨c,h⟩:=h.bok rfl;have v:=h.fs;have y:=h.at';have d:=h.asm;have B:=h.mdV;rw[ot_,tH_]at v y;rw[ot_]at d;have A:c.facts=F22:=by have:=eJ_.uniq v xi_;exact Option.some.inj this
 have E:=d.nd;rw[A,y]at E;have k:=E.uniq N22
 have q:m.di=[am_ [123,97,125] [114] [66]]:=by
   refine Srt.ext d.di.1 zC_ fun z=>?_;rw[d.di.2,k,A,List.mem_singleton];constructor
   · rintro ⟨s,F,H⟩
     have C:((ds_ P22 F22).all fun e=>!decide (e.1∈[[123,97,125],[66]])||decide (e.2=am_ [123,97,125] [114] [66]))=true:=by decide +kernel
     have:=List.all_eq_true.1 C _ H;simpa [F] using this
   · rintro rfl
     exact⟨_,by simp,xj_⟩
 refine⟨rfl,k,q,(d.ty.2 _).2 ⟨by rw[A];decide +kernel,rfl,by rw[k];simp[ac_]⟩,?_,B⟩;rw[nt_ zx_];refine or_ (x:=am_ [123,97,125] [114] [66]) (by rw[q];simp) (sf_ rfl ?_);unfold sH_;rfl
theorem bld0 {m:Mdl} {e:Int} (h:oE_ [] m e):e=0∧m.no=[]:=by
 have y:e=0:=by
   rcases h with⟨h,_⟩|⟨_,_,⟨x,B,h⟩|h|⟨_,c,h⟩⟩
   · exact h
   · cases B
   · exact absurd h rG_
   · exact ((mL_ (p:=[]) h zaz_ zx_ zx_ (r:=some _) (by rw[xc_];exact F0_is)).1 _ rfl).1
 subst y;obtain⟨c,h⟩:=h.bok rfl;refine⟨rfl,List.eq_nil_iff_forall_not_mem.2 fun s v=>?_⟩;have d:=(h.rch s).1 v
 have k:∀ t,¬ RchS (nxD (ds_ (cr_ 0 []) c.facts)) (eA_ (atS (cr_ 0 []))) t:=fun t q=>by
   have A:eA_ (atS (cr_ 0 []))=[]:=by rw[show cr_ 0 []=[] from rfl,xc_];decide +kernel
   rw[A]at q
   induction q with
   | zero h=>cases h
   | step _ _ ih=>exact ih
 exact k s d
theorem vq_:ij_ Tryz.prog 42 [(0,1),(1,1),(2,5),(7,5),(12,1),(13,1),(14,1),(15,1)] [.int .i64 0,.bool false,.int .i64 0,str [],.int .i64 0,.int .i64 0,.slice none 0 0,.int .i64 0,str [],.int .i64 0,.int .i64 0,.slice none 0 0,.slice none 0 0,str [],str [],str []]:=⟨_,bc_,de_,fun w=>by simp[av_,ef_,H_,bI_,L_]⟩
theorem lj_ (s:Str):Fn0 Tryz.prog 26 #[str s] (Con.val (Con.mk 3 s 0 0 none 0 [])):=by
  refine j_ Tryz.func26 rfl rfl Tryz.ntmps26 rfl fun m=>?_;refine Zz 2 ?_;refine D_ ch_ rfl fun q=>Zz 5 ?_
  refine e_ (K_ rU_ rfl rfl) rfl (x_ 0 L_ rfl rfl rfl rfl rfl rfl (Zz 3 ?_));exact hi_ () (fun k v d e=>ex_ (us:=Con.cells (Con.mk 3 s 0 0 none 0 [])) 0 Tryz.results26 aU_ L_ rfl rfl rfl k v d e) l_ (fun v _ h=>trivial)
theorem vC_:Tri Tryz.prog 7 #[] [] [bV_,eX_] (fun _:Unit=>.bool true) (fun _=>[]) (fun _=>[]):=by
 refine j_ Tryz.func7 rfl rfl Tryz.ntmps7 rfl fun v_1=>?_;refine as_ ?_;refine ad_ ?_;refine e_ (an_ rfl) rfl ?_;refine M_ ?_;refine al_ rfl ?_;refine as_ ?_;refine ad_ ?_;refine i_ (lj_ [65]) rfl l_ zt rfl fun _=>?_;refine i_ (lj_ [66]) rfl l_ zt rfl fun _=>?_;refine R_ ai_ L_ ch_ rfl rfl rfl rfl rfl rfl fun S=>?_;refine bu_ (List.flatMap Con.cells [(Con.mk 3 [66] 0 0 none 0 [])]) d_ rfl ?_;refine e_ (K_ rU_ rfl rfl) rfl ?_;refine e_ (K_ vq_ rfl rfl) rfl ?_;refine i_ (lj_ [65]) rfl l_ zt rfl fun _=>?_;refine e_ (K_ vq_ rfl rfl) rfl ?_;refine R_ Q_ ar_ bc_ rfl rfl rfl rfl rfl rfl fun b_2=>?_;refine bu_ (List.flatMap Ax.cells [(Ax.mk 1 false (Con.mk 3 [65] 0 0 none 0 []) (Con.mk 6 [114] 0 0 (some ⟨S,0,none⟩) 1 [(Con.mk 3 [66] 0 0 none 0 [])]) none 0 [] [] [] []),(Ax.mk 8 false (Con.mk 0 [] 0 0 none 0 []) (Con.mk 3 [65] 0 0 none 0 []) none 0 [] [] [97] [])]) d_ rfl ?_;refine e_ (an_ rfl) rfl ?_;refine M_ ?_;refine al_ rfl ?_;refine as_ ?_;refine ad_ ?_;refine e_ (O_ rfl) rfl ?_;refine i_ (fM_ [(Ax.mk 1 false (Con.mk 3 [65] 0 0 none 0 []) (Con.mk 6 [114] 0 0 (some ⟨S,0,none⟩) 1 [(Con.mk 3 [66] 0 0 none 0 [])]) none 0 [] [] [] []),(Ax.mk 8 false (Con.mk 0 [] 0 0 none 0 []) (Con.mk 3 [65] 0 0 none 0 []) none 0 [] [] [97] [])] (some ⟨b_2,0,none⟩) 2 (L22_ok _) zC_) rfl l_ (fun v _ h=>by exact⟨⟨h.1,fun y hy=>by simp only[List.mem_cons,List.not_mem_nil,or_false]at hy;rcases hy with rfl|rfl;exact⟨⟨.inl rfl,trivial⟩,⟨h.2.1,⟨⟨.inl rfl,trivial⟩,trivial⟩⟩,(.inl rfl)⟩;exact⟨⟨.inl rfl,trivial⟩,⟨.inl rfl,trivial⟩,(.inl rfl)⟩⟩,h.2.2.1,h.2.2.2.1,trivial⟩) rfl fun⟨⟨d,e_1⟩,N,J⟩=>?_;dsimp only;dsimp only at N J;obtain⟨rfl,m,L,Z,Q,a5⟩  :=bld22 (ad:=(some ⟨S,0,none⟩)) N;refine e_ (O_ rfl) rfl ?_;refine e_ (aG_ rfl rfl) rfl ?_;refine e_ (aG_ rfl rfl) rfl ?_;refine D_ aS_ rfl fun b_3=>?_;refine x_ 0 bb_ rfl rfl rfl rfl rfl rfl ?_;refine e_ (an_ rfl) rfl ?_;refine M_ ?_;refine al_ rfl ?_;refine as_ ?_;refine ad_ ?_;refine i_ (fM_ ([]:List Ax) none 0 (fun x hx=>by cases hx) zx_) rfl l_ (fun v _ h=>by exact⟨⟨.inl rfl,fun x hx=>by cases hx⟩,h.2.2.2.1,h.2.2.2.2.1,trivial⟩) rfl fun⟨⟨m_2,e_2⟩,P,a1⟩=>?_;dsimp only;dsimp only at P a1;obtain⟨rfl,a0⟩:=bld0 P;refine e_ (O_ rfl) rfl ?_;refine e_ (aG_ rfl rfl) rfl ?_;refine e_ (aG_ rfl rfl) rfl ?_;refine D_ aS_ rfl fun b_4=>?_;refine x_ 0 bb_ rfl rfl rfl rfl rfl rfl ?_;refine e_ (an_ rfl) rfl ?_;refine M_ ?_;refine al_ rfl ?_;refine as_ ?_;have R:0<List.length (Mdl.no d):=by rw[m];decide
 obtain⟨a6,C⟩:∃ K,(Mdl.no d)[0]? = some K:=⟨_,List.getElem?_eq_getElem R⟩;have hmx_1:a6∈(Mdl.no d):=List.mem_of_getElem? C;have a4:a6=[123,97,125]:=by rw[m]at C;simpa using C.symm
 have U:1<List.length (Mdl.no d):=by rw[m];decide
 obtain⟨a2,B⟩:∃ K,(Mdl.no d)[1]? = some K:=⟨_,List.getElem?_eq_getElem U⟩;have hmx_2:a2∈(Mdl.no d):=List.mem_of_getElem? B;have Y:a2=[66]:=by rw[m]at B;simpa using B.symm
 have T:0<List.length (Mdl.di d):=by rw[L];decide
 obtain⟨M,k⟩:∃ K,(Mdl.di d)[0]? = some K:=⟨_,List.getElem?_eq_getElem T⟩;have hmx_3:M∈(Mdl.di d):=List.mem_of_getElem? k;have a3:M=am_ [123,97,125] [114] [66]:=by rw[L]at k;simpa using k.symm
 refine jg_ zk ?_;refine G_ 58 [0,1,2,3,4,5,6,7,8] zk zs ?_;refine z_ rfl (O_ rfl) rfl ?_;refine z_ rfl (aD_ (bU_ rfl rfl) (show _=Value.bool true from congrArg Value.bool zx_)) rfl ?_;refine z_ rfl (O_ rfl) rfl ?_;refine bK_ rfl rfl rfl (bh_ aj_ rfl rfl rfl bI_) rfl ?_;refine bK_ rfl rfl rfl (aC_ 1 gE_ rfl rfl rfl) rfl ?_;refine bK_ rfl rfl rfl (cA_ m_ rfl) rfl ?_;refine en_ rfl rfl rfl (bU_ rfl rfl) rfl fun r_1 E=>?_;refine z_ rfl (cm_ rfl rfl) rfl ?_;refine z_ rfl (O_ rfl) rfl ?_;refine aZ_ ?_;cases r_1
 ·replace E:=znb E
  exact absurd (by rw[m];rfl) E
 replace E:=zeb E;refine G_ 51 [9,10,11,12,13,14,15] zk zs ?_;refine bK_ rfl rfl rfl (bh_ aj_ rfl rfl rfl bI_) rfl ?_;refine bK_ rfl rfl rfl (aC_ 1 gE_ rfl rfl rfl) rfl ?_;refine bK_ rfl rfl rfl (U_ m_ H_ rfl rfl (fun v _ h=>aE_ (n:=1) aw_ zx_ (by exact h.2.1.1) C) zr_ zA_) rfl ?_;refine bK_ rfl rfl rfl (bt_ (ad:=(Mdl.noa d)) ab_ rfl (fun v _ h=>by exact h.2.1.1) (p_ aw_ C 0 _ rfl)) rfl ?_;refine en_ rfl rfl rfl (dn_ rfl rfl) rfl fun r_2 G=>?_;refine z_ rfl (cm_ rfl rfl) rfl ?_;refine z_ rfl (O_ rfl) rfl ?_;refine aZ_ ?_;cases r_2
 ·replace G:=znb G
  exact absurd a4 G
 replace G:=zeb G;refine G_ 44 [16,17,18,19,20,21,22] zk zs ?_;refine bK_ rfl rfl rfl (bh_ aj_ rfl rfl rfl bI_) rfl ?_;refine bK_ rfl rfl rfl (aC_ 1 gE_ rfl rfl rfl) rfl ?_;refine bK_ rfl rfl rfl (U_ m_ H_ rfl rfl (fun v _ h=>aE_ (n:=1) aw_ zx_ (by exact h.2.1.1) B) zr_ zA_) rfl ?_;refine bK_ rfl rfl rfl (bt_ (ad:=(Mdl.noa d)) ab_ rfl (fun v _ h=>by exact h.2.1.1) (p_ aw_ B 0 _ rfl)) rfl ?_;refine en_ rfl rfl rfl (dn_ rfl rfl) rfl fun a8 I=>?_;refine z_ rfl (cm_ rfl rfl) rfl ?_;refine z_ rfl (O_ rfl) rfl ?_;refine aZ_ ?_;cases a8
 ·replace I:=znb I
  exact absurd Y I
 replace I:=zeb I;refine G_ 38 [23,24,25,26,27,28] zk zs ?_;refine bK_ rfl rfl rfl (bh_ aj_ rfl rfl rfl aH_) rfl ?_;refine bK_ rfl rfl rfl (aC_ 1 cV_ rfl rfl rfl) rfl ?_;refine bK_ rfl rfl rfl (cA_ A_ rfl) rfl ?_;refine en_ rfl rfl rfl (bU_ rfl rfl) rfl fun a9 H=>?_;refine z_ rfl (cm_ rfl rfl) rfl ?_;refine z_ rfl (O_ rfl) rfl ?_;refine aZ_ ?_;cases a9
 ·replace H:=znb H
  exact absurd (by rw[L];rfl) H
 replace H:=zeb H;refine G_ 34 [29,30,31,32] zk zs ?_;refine bK_ rfl rfl rfl (bh_ aj_ rfl rfl rfl aH_) rfl ?_;refine bK_ rfl rfl rfl (aC_ 1 cV_ rfl rfl rfl) rfl ?_;refine bK_ rfl rfl rfl (U_ A_ E_ rfl rfl (fun v _ h=>aE_ (n:=6) Fc.cells_len zx_ (by exact h.2.1.2.2.2.1) k) zr_ zA_) rfl ?_;refine bK_ rfl rfl rfl (au_ (ad:=(Mdl.dia d)) (us:=Fc.cells M) bH_ E_ rfl (fun v _ h=>by exact h.2.1.2.2.2.1) (Fc.cells_len _) (p_ Fc.cells_len k)) rfl ?_;refine aZ_ ?_;refine n_ 33 rfl zk ?_;refine aQ_ rfl rfl ?_;refine i_ (xQ_ [123,97,125] [114] [66]) rfl l_ zt rfl fun _=>?_;refine M_ ?_;refine aq_ rfl ?_;refine w_ zs ?_;refine G_ 30 [34,35,36] zk zs ?_;refine en_ rfl rfl rfl (ew_ (p:=M) (q:=(am_ [123,97,125] [114] [66])) rfl rfl) rfl fun b0 F=>?_;refine z_ rfl (cm_ rfl rfl) rfl ?_;refine z_ rfl (O_ rfl) rfl ?_;refine aZ_ ?_;cases b0
 ·replace F:=zdf F
  exact absurd a3 F
 replace F:=zdt F;refine G_ 29 [37] zk zs ?_;refine bK_ rfl rfl rfl (bs_ 1 eF_ bb_ rfl rfl rfl) rfl ?_;refine aZ_ ?_;refine n_ 38 rfl zk ?_;refine aQ_ rfl rfl ?_;refine T_ (sI_ d J [123,97,125] [65]) rfl l_ zf rfl fun a7 A=>?_;refine M_ ?_;refine aq_ rfl ?_;refine w_ zs ?_;refine G_ 26 [39,40] zk zs ?_;refine z_ rfl (cm_ rfl rfl) rfl ?_;refine z_ rfl (O_ rfl) rfl ?_;refine aZ_ ?_;cases a7
 ·replace A:=zdf A
  exact absurd Z A
 replace A:=zdt A;refine G_ 25 [41] zk zs ?_;refine bK_ rfl rfl rfl (bs_ 1 eF_ bb_ rfl rfl rfl) rfl ?_;refine aZ_ ?_;refine n_ 42 rfl zk ?_;refine aQ_ rfl rfl ?_;refine T_ (xO_ d J [123,97,125] [114] [66]) rfl l_ zf rfl fun r_7 O=>?_;refine M_ ?_;refine aq_ rfl ?_;refine w_ zs ?_;refine G_ 22 [43,44] zk zs ?_;refine z_ rfl (cm_ rfl rfl) rfl ?_;refine z_ rfl (O_ rfl) rfl ?_;refine aZ_ ?_;cases r_7
 ·rw[Q]at O;cases O
 refine G_ 21 [45] zk zs ?_;refine bK_ rfl rfl rfl (bs_ 1 eF_ bb_ rfl rfl rfl) rfl ?_;refine aZ_ ?_;refine n_ 46 rfl zk ?_;refine aQ_ rfl rfl ?_;refine i_ (wX_ d J) rfl l_ zf rfl fun⟨e_4,W⟩=>?_;dsimp only;obtain rfl:e_4=0:=W.2.2 a5;refine M_ ?_;refine aq_ rfl ?_;refine w_ zs ?_;refine G_ 7 [47,48,49,50,51,52,53,54,55,56,57,58,59] zk zs ?_;refine bK_ rfl rfl rfl (aD_ (bU_ rfl rfl) (show _=Value.bool true from congrArg Value.bool zx_)) rfl ?_;refine z_ rfl (cm_ rfl rfl) rfl ?_;refine z_ rfl (O_ rfl) rfl ?_;refine bK_ rfl rfl rfl (O_ rfl) rfl ?_;refine bK_ rfl rfl rfl (aD_ (bU_ rfl rfl) (show _=Value.bool true from congrArg Value.bool zx_)) rfl ?_;refine z_ rfl (cm_ rfl rfl) rfl ?_;refine z_ rfl (O_ rfl) rfl ?_;refine bK_ rfl rfl rfl (bh_ aj_ rfl rfl rfl bI_) rfl ?_;refine bK_ rfl rfl rfl (aC_ 0 gE_ rfl rfl rfl) rfl ?_;refine bK_ rfl rfl rfl (cA_ m_ rfl) rfl ?_;refine en_ rfl rfl rfl (bU_ rfl rfl) rfl fun r_8 e=>?_;refine z_ rfl (cm_ rfl rfl) rfl ?_;refine z_ rfl (O_ rfl) rfl ?_;refine aZ_ ?_;cases r_8
 ·replace e:=znb e
  exact absurd (by rw[a0];rfl) e
 replace e:=zeb e;refine n_ 60 rfl zk ?_;refine aQ_ rfl rfl ?_;refine T_ (bY_ [65]) rfl l_ zt rfl fun b1 X=>?_;refine M_ ?_;refine aq_ rfl ?_;refine w_ zs ?_;refine G_ 4 [61,62] zk zs ?_;refine z_ rfl (cm_ rfl rfl) rfl ?_;refine z_ rfl (O_ rfl) rfl ?_;refine aZ_ ?_;cases b1
 ·exact absurd X zx_
 refine n_ 63 rfl zk ?_;refine aQ_ rfl rfl ?_;refine T_ (bY_ [123,97,125]) rfl l_ zt rfl fun r_10 V=>?_;refine M_ ?_;refine aq_ rfl ?_;refine w_ zs ?_;refine G_ 0 [64,65,66] zk zs ?_;refine bK_ rfl rfl rfl (aJ_ rfl) rfl ?_;refine z_ rfl (cm_ rfl rfl) rfl ?_;refine z_ rfl (an_ rfl) rfl ?_;refine aZ_ ?_;refine eI_ zk ?_;refine al_ rfl ?_;refine hG_ ?_;exact af_ Tryz.results7 () (o_ rfl (by rw[← V];decide)) l_ zt
end Go.Proofs.YtpbnmnfdgckaiaaGreatDoor
namespace Go.Proofs.YtpbnmnfdgckaiaaGreatDoor
open Go Go.Sx Go.Proofs
attribute [local irreducible] Code.wp wpList wpAnyH
open Go.Vs Go.Shelf Go.RowKit
def R1 (m:Mdl) (i:Nat) (K:List Str):Prop:=(∀ x∈K,x∈m.no)∧∀ x∈m.no.take i,nls x=false→x∈K
end Go.Proofs.YtpbnmnfdgckaiaaGreatDoor
namespace Go.Proofs.YtpbnmnfdgckaiaaGreatDoor
open Go Go.Sx Go.Proofs
attribute [local irreducible] Code.wp wpList wpAnyH
open Go.Vs Go.Shelf Go.RowKit
theorem zd_.at {d:List Ax} {r t:Str} {T:List Str} (h:zd_ d r T) (e:t∈T):RchS (lat (fU_ d)) [r] t:=(h.2 t).1 e
end Go.Proofs.YtpbnmnfdgckaiaaGreatDoor
namespace Go.Proofs.YtpbnmnfdgckaiaaGreatDoor
open Go Go.Sx Go.Proofs
attribute [local irreducible] Code.wp wpList wpAnyH
open Go.Vs Go.Shelf Go.RowKit
theorem iz_ {l d:List Ax} (h:∀ a∈d,a∈l):ii_ (cr_ 0 d) (cr_ 0 l):=fun x A=>by
  obtain⟨j,a,m,q⟩:=oe_.1 A;obtain⟨k,hk⟩:=List.getElem?_of_mem (h a (List.mem_of_getElem? m));obtain⟨y,v,n,e⟩:=qS_ ((0+k:Nat):Int) q;exact⟨y,oe_.2 ⟨k,a,hk,v⟩,n,e⟩
theorem rH_ {l:List Ax} (h:l.length≤12) (d:∀ x∈l,x.ok) (e:∀ x∈l,x.check=0):cE_ (cr_ 0 l)=0:=by
  have hl:=kG_ 0 l e;unfold cE_;rw[if_neg zr_,if_pos];rw[List.all_eq_true];exact fun x k=>(of_ l 0 zr_ d e x k).2.2.2
theorem tB_ {p d:List Pc} {F e:List Fc} (v:ii_ p d) (k:∀ y∈F,y∈e) {s:Str} {z:Fc} (h:(s,z)∈ds_ p F):(s,z)∈ds_ d e:=by
  obtain⟨f,B,y,x,k1,A,E,m,C⟩:=kN_.1 h;obtain⟨w,q,n,rfl⟩:=v y x;exact kN_.2 ⟨f,k f B,w,q,k1,A,E,m,C⟩
theorem za_ {l d:List Ax} (h:∀ a∈l,a∈d) {e:Str×Str} (k:e∈fU_ l):e∈fU_ d:=by
  unfold fU_ at k ⊢;obtain⟨x,m,q⟩:=List.mem_flatMap.1 k;exact List.mem_flatMap.2 ⟨x,h x m,q⟩
theorem vc_sub {k:Int} {l d:List Ax} (h:∀ a∈l,a∈d) {e:Str} (m:e∈vcL k l):e∈vcL k d:=by
  obtain⟨x,v,q⟩:=List.mem_flatMap.1 m;exact List.mem_flatMap.2 ⟨x,h x v,q⟩
theorem yt_ {l d:List Ax} {X Y:List Fc} (h:∀ a∈l,a∈d) (y:uT_ l X) (v:uT_ d Y):∀ z∈X,z∈Y:=fun z x=>by
  obtain⟨r,t,⟨k,m⟩,B,e⟩:=(y.2 z).1 x;exact (v.2 z).2 ⟨r,t,⟨vc_sub h k,m⟩,RchS.mono (fun s t A=>bP_.2 (za_ h (bP_.1 A))) (fun s q=>q) B,e⟩
structure Mle (m n:Mdl):Prop where
  no:∀ x∈m.no,x∈n.no
  ty:∀ x∈m.ty,x∈n.ty
  li:∀ x∈m.li,x∈n.li
  di:∀ x∈m.di,x∈n.di
  ra:∀ x∈m.ra,x∈n.ra
  ro:∀ x∈m.ro,x∈n.ro
theorem Bok.le {l G:List Ax} {m n:Mdl} {c d:Cl} (h:Bok l m c) (F:Bok G n d) (I:∀ a∈l,a∈G):Mle m n:=by
  have E:ii_ (cr_ 0 l) (cr_ 0 G):=iz_ I;have H:∀ y∈c.facts,y∈d.facts:=fun y K=>(F.der y).2 (E.der ((h.der y).1 K))
  have B:∀ x∈m.no,x∈n.no:=fun x J=>(F.rch x).2 (RchS.mono (fun s t L=>by
    obtain⟨z,A,e⟩:=hM_.1 L;exact hM_.2 ⟨z,tB_ E H A,e⟩) (fun s q=>fJ_.2 ⟨E.at' s (fJ_.1 q).1,(fJ_.1 q).2⟩) ((h.rch x).1 J))
  exact⟨B,fun z A=>by obtain⟨v,k,C⟩:=(h.ty z).1 A;exact (F.ty z).2 ⟨E.der v,k,B _ C⟩,
    fun z A=>by obtain⟨v,k⟩:=(h.li z).1 A;exact (F.li z).2 ⟨E.der v,k⟩,
    fun z A=>by obtain⟨s,v,k⟩:=(h.asm.di.2 z).1 A;exact (F.asm.di.2 z).2 ⟨s,B s v,tB_ E H k⟩,
    fun z A=>by obtain⟨v,k,C⟩:=(h.ra z).1 A;exact (F.ra z).2 ⟨E.der v,k,B _ C⟩,yt_ I h.inc F.inc⟩
structure Meq (m n:Mdl):Prop where
  no:m.no=n.no
  ty:m.ty=n.ty
  li:m.li=n.li
  di:m.di=n.di
  ra:m.ra=n.ra
  ro:m.ro=n.ro
theorem Bok.eq {l H:List Ax} {m n:Mdl} {c d:Cl} (h:Bok l m c) (e:Bok H n d) (I:∀ a∈l,a∈H) (y:∀ a∈H,a∈l):Meq m n:=by
  have a:=h.le e I;have b:=e.le h y;have E:c.atoms=d.atoms:=by rw[h.at',e.at'];exact (iz_ I).atS_eq (iz_ y)
  refine⟨?_,Srt.ext h.asm.ty.1 e.asm.ty.1 fun z=>⟨a.ty z,b.ty z⟩,Srt.ext h.asm.li.1 e.asm.li.1 fun z=>⟨a.li z,b.li z⟩,Srt.ext h.asm.di.1 e.asm.di.1 fun z=>⟨a.di z,b.di z⟩,Srt.ext h.asm.ra.1 e.asm.ra.1 fun z=>⟨a.ra z,b.ra z⟩,Srt.ext h.inc.1 e.inc.1 fun z=>⟨a.ro z,b.ro z⟩⟩;obtain⟨N,C,B,G,K⟩:=h.asm.nd;obtain⟨M,F,x,A,J⟩:=e.asm.nd;have k:=a.no;have v:=b.no;rw[B,x]at k v;rw[B,x];rw[← E]at A k v ⊢
  rw[show bg_ N=bg_ M from kr_ (fP_ C) (fP_ F) fun s=>by
    rw[List.mem_mergeSort,List.mem_mergeSort];exact⟨fun q=>((List.mem_append.1 (k s (List.mem_append_right _ (List.mem_mergeSort.2 q)))).resolve_left (G s q) |> List.mem_mergeSort.1),fun q=>((List.mem_append.1 (v s (List.mem_append_right _ (List.mem_mergeSort.2 q)))).resolve_left (A s q) |> List.mem_mergeSort.1)⟩]
theorem wY_ {l B:List Ax} {m n:Mdl} {e:Int} (h:oE_ l m 0) (N:oE_ B n e) (I:∀ a∈l,a∈B) (k:∀ a∈B,a∈l) (A:∀ x∈l,x.ok) (C:l.length≤12) (v:B.length≤12):e=0:=by
 rcases h with⟨_,F,L,c,H,_,_⟩|⟨h,_⟩
 ·rcases N with⟨h,_⟩|⟨O,_,⟨x,y,K⟩|J|⟨E,d,M⟩⟩
  ·exact h
  ·exact absurd (F x (k x y)) K
  ·exact absurd (lv_.sub (fun z G=>by
     unfold di_ at G ⊢;obtain⟨x,y,q⟩:=List.mem_flatMap.1 G;exact List.mem_flatMap.2 ⟨x,k x y,q⟩) J) L
  exact (uP_ (iz_ I) (iz_ k) H M (rH_ C A F) (rH_ v (fun x y=>A x (k x y)) E) zx_ zx_).2.2.symm
 exact absurd rfl h
theorem Bok.len {d:List Ax} {m:Mdl} {c:Cl} (h:Bok d m c) (G:d.length≤12):m.no.length≤1000000000∧m.ty.length≤1000000000∧m.li.length≤1000000000∧m.di.length≤1000000000∧m.ra.length≤1000000000∧m.ro.length≤1000000000:=by
  have L:=kG_ 0 d h.chk;have S:=qk_ (cr_ 0 d);have N:=h.fs.2.2;have P:=cd_ h.nodup fun x v=>h.no_at v
  have Q:=cd_ h.asm.ty.1.nodup fun x v=>((h.asm.ty.2 x).1 v).1
  have K:=cd_ h.asm.li.1.nodup fun x v=>((h.asm.li.2 x).1 v).1
  have C:=cd_ (m:=(ds_ (cr_ 0 d) c.facts).map (·.2)) h.asm.di.1.nodup fun x v=>by obtain⟨s,_,q⟩:=(h.asm.di.2 x).1 v;exact List.mem_map.2 ⟨_,q,rfl⟩
  have R:=cd_ h.asm.ra.1.nodup fun x v=>((h.asm.ra.2 x).1 v).1
  have I:=cd_ (m:=(vcL 6 d).flatMap fun r=>(r::(fU_ d).map (·.2)).map (ac_ r)) h.inc.1.nodup fun x v=>by
    obtain⟨r,t,⟨E,_⟩,A,e⟩:=(h.inc.2 x).1 v;have:=A.mem (T:=(fU_ d).map (·.2)) fun s t J=>List.mem_map.2 ⟨_,bP_.1 J,rfl⟩
    exact List.mem_flatMap.2 ⟨r,E,List.mem_map.2 ⟨t,by simpa using this,e.symm⟩⟩
  have M:=ho_ (p:=cr_ 0 d) c.facts;have O:=Nat.mul_le_mul N (show (cr_ 0 d).length≤12000 by omega);have y:∀ x∈d,x.left.sz≤64∧x.right.sz≤64∧x.roles.length≤4:=fun x v=>⟨(pt_ (h.chk x v)).1,(pt_ (h.chk x v)).2,xb_ (h.chk x v)⟩
  have F:=na_ (k:=6) (l:=d) y;have A:=iZ_ d
  have H:((vcL 6 d).flatMap fun r=>(r::(fU_ d).map (·.2)).map (ac_ r)).length≤(vcL 6 d).length*13:=by
    have B:∀ V:List Str,(V.flatMap fun r=>(r::(fU_ d).map (·.2)).map (ac_ r)).length≤V.length*13:=by
      intro V
      induction V with
      | nil=>simp
      | cons r V ih =>
        rw[List.flatMap_cons,List.length_append,List.length_map,List.length_cons,List.length_map,List.length_cons,Nat.add_mul];omega
    exact B _
  rw[List.length_map]at C;omega
end Go.Proofs.YtpbnmnfdgckaiaaGreatDoor
