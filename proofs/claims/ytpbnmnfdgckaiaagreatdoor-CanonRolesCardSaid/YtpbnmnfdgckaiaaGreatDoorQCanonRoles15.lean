/-
  Part of the proof of the law CanonRoles over this seat: the small logic, the data, the contracts of functions (no condition).
-/
import Derived.Test.YtpbnmnfdgckaiaaGreatDoorQCanonRoles14
import Derived.Test.YtpbnmnfdgckaiaaGreatDoorQCanonRoles11
import Derived.Test.YtpbnmnfdgckaiaaGreatDoorQCanonRoles6
import Derived.Test.YtpbnmnfdgckaiaaGreatDoorQCanonRoles3
import Derived.Test.YtpbnmnfdgckaiaaGreatDoorRows
set_option linter.unusedVariables false
set_option linter.unusedSimpArgs false
set_option linter.unusedSectionVars false
set_option maxHeartbeats 1000000
namespace Go.Proofs.YtpbnmnfdgckaiaaGreatDoor
open Go Go.Sx Go.Proofs
attribute [local irreducible] Code.wp wpList wpAnyH
open Go.Vs Go.Shelf Go.RowKit
def gamF (Γ:List Fct):Fct where
  p v:=Z_ Γ v
  mono:=fun v v' h hp=>ao_ h hp
def rB_ (p s:Str):Prop:=¬ ((nls p=nls s∧s≤p)∨(nls p=true∧nls s=false))
def nG_ (l:List Str):Prop:=(∀ s∈l,s≠[])∧∀ (i:Nat) p s,l[i]? = some p→l[i+1]? = some s→rB_ p s
def pI_ (f:Fc):Bool:=(decide (f=Y_ f.a f.b)&&(f.a != []))&&(f.b != [])
def lC_ (K:List Str) (f:Fc):Bool:=((decide (f=ab_ f.a f.r f.b)&&decide (f.a∈K))&&decide (f.b∈K))&&(f.r != [])
def pT_ (K:List Str) (f:Fc):Bool:=((((decide (f=am_ f.a f.r f.lo f.hi)&&decide (f.a∈K))&&(f.r != []))&&decide (-1099511627776≤f.lo))&&decide (f.lo≤f.hi))&&decide (f.hi≤1099511627776)
def pG_ (K:List Str) (f:Fc):Bool:=pI_ f&&decide (f.a∈K)
def qt_ (K:List Str) (f:Fc):Bool:=(lC_ K f&&!nls f.a)&&!nls f.b
structure MdV (m:Mdl):Prop where
  no:nG_ m.no
  ty:(∀ f∈m.ty,pG_ m.no f=true)∧Srt m.ty
  li:(∀ f∈m.li,qt_ m.no f=true)∧Srt m.li
  di:(∀ f∈m.di,lC_ m.no f=true)∧Srt m.di
  ra:(∀ f∈m.ra,pT_ m.no f=true)∧Srt m.ra
  ro:(∀ f∈m.ro,pI_ f=true)∧Srt m.ro
theorem pl_ {K L:List Str} (h:∀ n,n∈K↔n∈L) (s:Str):decide (s∈K)=decide (s∈L):=decide_eq_decide.2 (h s)
theorem oO_ {K L:List Str} (h:∀ n,n∈K↔n∈L) (f:Fc):lC_ K f=lC_ L f:=by unfold lC_;rw[pl_ h,pl_ h]
theorem su_ {K L:List Str} (h:∀ n,n∈K↔n∈L) (f:Fc):pT_ K f=pT_ L f:=by unfold pT_;rw[pl_ h]
theorem sq_ {K L:List Str} (h:∀ n,n∈K↔n∈L) (f:Fc):pG_ K f=pG_ L f:=by unfold pG_;rw[pl_ h]
theorem sF_ {K L:List Str} (h:∀ n,n∈K↔n∈L) (f:Fc):qt_ K f=qt_ L f:=by unfold qt_;rw[oO_ h]
theorem xn_ {m:Mdl} {K:List Str} (h:∀ n,n∈K↔n∈m.no) {v A y x k B:Bool} (G:v=true↔nG_ m.no) (I:A=true↔(∀ f∈m.ty,pG_ K f=true)∧Srt m.ty) (E:y=true↔(∀ f∈m.li,qt_ K f=true)∧Srt m.li) (C:x=true↔(∀ f∈m.di,lC_ K f=true)∧Srt m.di)
    (F:k=true↔(∀ f∈m.ra,pT_ K f=true)∧Srt m.ra) (H:B=true↔(∀ f∈m.ro,pI_ f=true)∧Srt m.ro):MdV m↔v=true∧A=true∧y=true∧x=true∧k=true∧B=true:=by
  rw[G,I,E,C,F,H];simp only[sq_ h,sF_ h,oO_ h,su_ h];exact⟨fun q=>⟨q.no,q.ty,q.li,q.di,q.ra,q.ro⟩,fun⟨a,b,c,d,e,f⟩=>⟨a,b,c,d,e,f⟩⟩
theorem oc_ {l:List Str} {i:Nat} {s:Str} (h:nG_ (l.take i)) (m:l[i]? = some s) (x:s≠[]) (y:∀ p,0<i→l[i - 1]? = some p→rB_ p s):nG_ (l.take (i+1)):=by
 refine⟨fun z d=>?_,fun j p z k d=>?_⟩
 ·rw[tk1 m,List.mem_append,List.mem_singleton]at d
  exact d.elim (h.1 z) fun q=>by rw[q];exact x
 have v:=(List.getElem?_eq_some_iff.1 d).1;rw[List.length_take]at v;rw[List.getElem?_take]at k d
 split at d
 ·rename_i q
  rw[if_pos za_]at k
  by_cases e:j+1=i
  ·subst e
   rw[m]at d;obtain rfl:=Option.some.inj d;exact y p za_ zam_
  exact h.2 j p z (by rw[List.getElem?_take,if_pos za_];exact k) (by rw[List.getElem?_take,if_pos za_];exact d)
 simp at d
theorem nodV_0 {l:List Str} (h:nG_ l) {i:Nat} {s:Str} (d:l[i]? = some s):s≠[]:=h.1 s (List.mem_of_getElem? d)
theorem nodV_1 {l:List Str} (h:nG_ l) {i:Nat} {p s:Str} (e:l[i]? = some s) (hi:0<i) (d:l[i - 1]? = some p):rB_ p s:=h.2 (i - 1) p s d (by rw[show i - 1+1=i by omega];exact e)
theorem np_ {g:FuncId} {cv:List Value} {Gc:List Fct} (V:Fc→Bool) (l:List Fc) (ad:Option Addr) (cap:Nat) (hl:l.length≤9223372036854775807) (I:∀ x∈l,Tri Tryz.prog g (Fc.val x::cv).toArray [] Gc (fun _:Unit=>.bool (V x)) (fun _=>[]) (fun _=>[])):Tri Tryz.prog 41 #[.slice ad (List.length l) cap,.func (.func g) #[] cv.toArray] [] [ah_ ad (List.flatMap Fc.cells l),gamF Gc] (fun b:{b:Bool // b=true↔(∀ x∈l,V x=true)∧Srt l}=>.bool b.1) (fun _=>[]) (fun _=>[]):=by
 refine i_ Tryz.func41 rfl rfl Tryz.ntmps41 rfl fun H=>?_;refine Zz 14 ?_;refine L_ (ι:={y:Nat // y≤List.length l∧(∀ x∈List.take y l,V x=true)}) (fun y=>[(0,.slice ad (List.length l) cap),(1,.func (.func g) #[] cv.toArray),(4,.bool false),(7,.slice ad (List.length l) cap),(8,.int .i64 (List.length l:Int)),(9,.int .i64 (y.1:Int))]) (fun y=>([])) (fun y=>[ah_ ad (List.flatMap Fc.cells l),gamF Gc]) (fun y=>List.length l - y.1) ⟨(0:Nat),by simp,zj_⟩ zl m_ zh ?_;rintro ⟨i,B,E⟩;dsimp only at B E ⊢;refine Zi 2 (fun m=>?_) fun m=>?_
 ·refine Zz 9 ?_
  refine g_ (xz_ l ad cap hl) rfl m_ zf rfl fun⟨ib,C⟩=>?_;dsimp only;refine Zz 4 ?_;exact ae_ Tryz.results41 ⟨ib,C.trans ⟨fun q=>⟨fun x K=>E x (by rw[List.take_of_length_le za_];exact K),q⟩,fun q=>q.2⟩⟩ rfl m_ zt
 obtain⟨h,A,v,d⟩:=zge (show i<List.length l by omega);refine Zz 12 ?_;refine G_ X_ rfl fun J=>u_ 0 y_ rfl rfl rfl rfl rfl rfl (Zz 6 ?_)
 refine bH_ (first:=[]) (cap:=cv) (I A d) rfl rfl m_ zf rfl fun F e=>e_ (ax_ rfl) rfl (Zz 2 ?_)
 cases F
 ·refine Zz 7 ?_
  exact ae_ Tryz.results41 ⟨false,fun q=>zaB_,fun q=>by have k:=q.1 A d;rw[e]at k;cases k⟩ rfl m_ zt
 refine Zz 8 ?_;exact x_ ⟨i+1,h,(fun z G=>by rw[tk1 v,List.mem_append,List.mem_singleton]at G;exact G.elim (E z) fun q=>by rw[q];exact e)⟩ zb_ zl m_ zh
theorem hW_ {G:Prop} (h:G:=by
 exact ae_ Tryz.results35 ⟨false,fun q=>zaB_,fun q=>absurd (nodV_1 q d za_ h) (by unfold rB_;simp_all)⟩ rfl m_ zt):G:=h
theorem gl_ {G:Prop} (h:G:=by
 exact x_ ⟨i+1,k,(oc_ A d e fun p _ v=>by rw[h]at v;obtain rfl:=Option.some.inj v;unfold rB_;simp_all)⟩ zb_ zl m_ zh):G:=h
theorem xj_ (l:List Str) (ad:Option Addr) (cap:Nat) (hl:l.length≤9223372036854775807):Tri Tryz.prog 35 #[.slice ad (List.length l) cap] [] [ah_ ad (List.flatMap af_ l)] (fun b:{b:Bool // b=true↔nG_ l}=>.bool b.1) (fun _=>[]) (fun _=>[]):=by
 refine i_ Tryz.func35 rfl rfl Tryz.ntmps35 rfl fun T=>?_;refine Zz 14 ?_;refine L_ (ι:={y:Nat // y≤List.length l∧nG_ (List.take y l)}) (fun y=>[(0,.slice ad (List.length l) cap),(2,.bool false),(6,.slice ad (List.length l) cap),(7,.int .i64 (List.length l:Int)),(8,.int .i64 (y.1:Int))]) (fun y=>([])) (fun y=>[ah_ ad (List.flatMap af_ l)]) (fun y=>List.length l - y.1) ⟨(0:Nat),by simp,⟨by simp,by simp⟩⟩ zl m_ zh ?_;rintro ⟨i,J,A⟩;dsimp only at J A ⊢;refine Zi 2 (fun H=>?_) fun H=>?_
 ·refine Zz 12 ?_
  exact ae_ Tryz.results35 ⟨true,fun _=>by rw[List.take_of_length_le za_]at A;exact A,fun _=>rfl⟩ rfl m_ zt
 obtain⟨k,E,d,L⟩:=zge (show i<List.length l by omega);refine Zi 21 (fun e=>?_) fun e=>?_
 ·refine Zi 9 (fun F=>?_) fun F=>?_
  ·obtain⟨M,x,I,K⟩:=zge (show (Int.toNat ((i:Int) - 1))<List.length l by omega)
   have h:l[i - 1]? = some x:=by rw[show i - 1=Int.toNat ((i:Int) - 1) by omega];exact I
   refine Zz 18 ?_;refine T_ (bM_ x) rfl m_ zt rfl fun V Q=>Zz 1 ?_
   refine T_ (bM_ E) rfl m_ zt rfl fun U P=>B_ (uj_ Tryz.underlying4 rfl rfl) rfl fun N R=>Zz 1 ?_
   cases N
   ·refine Zz 8 ?_
    refine T_ (bM_ x) rfl m_ zt rfl fun C m=>Zz 2 ?_
    cases C
    ·refine Zz 16 ?_
     exact gl_
    refine Zz 3 ?_;refine T_ (bM_ E) rfl m_ zt rfl fun B G=>aR_ rfl rfl (e_ (ax_ rfl) rfl (Zz 5 ?_))
    cases B
    ·refine Zz 7 ?_
     exact hW_
    refine Zz 8 ?_;exact gl_
   refine Zz 5 ?_;refine B_ (ug_ rfl rfl) rfl fun C m=>Zz 2 ?_
   cases C
   ·replace m:=zdf m
    refine Zz 3 ?_;refine T_ (bM_ x) rfl m_ zt rfl fun B G=>Zz 2 ?_
    cases B
    ·refine Zz 16 ?_
     exact gl_
    refine Zz 3 ?_;refine T_ (bM_ E) rfl m_ zt rfl fun O S=>aR_ rfl rfl (e_ (ax_ rfl) rfl (Zz 5 ?_))
    cases O
    ·refine Zz 7 ?_
     exact hW_
    refine Zz 8 ?_;exact gl_
   replace m:=zdt m;refine Zz 17 ?_;exact hW_
  refine Zz 10 ?_;exact x_ ⟨i+1,k,(oc_ A d e fun p q=>by omega)⟩ zb_ zl m_ zh
 refine Zz 9 ?_;exact ae_ Tryz.results35 ⟨false,fun q=>zaB_,fun q=>absurd e (nodV_0 q d)⟩ rfl m_ zt
theorem we_ (f:Fc):Tri Tryz.prog 36 #[Fc.val f] [] [] (fun _:Unit=>.bool (pI_ f)) (fun _=>[]) (fun _=>[]):=by
 refine i_ Tryz.func36 rfl rfl Tryz.ntmps36 rfl fun C=>?_;refine Zz 2 ?_;refine aa_ rfl rfl fun A=>Zz 10 ?_
 refine e_ (H_ eC_ rfl rfl) rfl (B_ (ew_ (p:=f) (q:=(Fc.mk 1 f.a f.b [] 0 0)) rfl rfl) rfl fun v e=>Zz 1 ?_);refine ai_ 4 ((decide (f=(Fc.mk 1 f.a f.b [] 0 0)))&&(f.a != [])) (fun r=>[(1,zp_ A 0),(2,.bool false),(14,.bool r)]) ?_ fun x k=>?_
 ·cases v
  ·have d:=e
   replace e:=zdf e;refine Zz 6 ?_;exact met ⟨rfl,rfl,(n_ rfl (jaf d)),trivial⟩
  have d:=e;replace e:=zdt e;refine Zz 5 ?_;refine B_ (cF_ rfl rfl) rfl fun y h=>Zz 3 ?_
  exact met ⟨rfl,rfl,(n_ rfl (jat d h)),trivial⟩
 refine Zz 1 ?_;refine ai_ 4 ((((decide (f=(Fc.mk 1 f.a f.b [] 0 0)))&&(f.a != [])))&&(f.b != [])) (fun r=>[(2,.bool false),(19,.bool r)]) ?_ fun y h=>?_
 ·cases x
  ·have d:=k
   refine Zz 6 ?_;exact met ⟨rfl,(n_ rfl (jaf d)),trivial⟩
  have d:=k;refine Zz 5 ?_;refine B_ (cF_ rfl rfl) rfl fun B m=>Zz 3 ?_
  exact met ⟨rfl,(n_ rfl (jat d m)),trivial⟩
 refine Zz 4 ?_;exact ae_ Tryz.results36 () (n_ rfl (by rw[← h];rfl)) m_ zt
theorem wd_ (f:Fc) (F:Nat) (E:Nat) (es:Array MapEntry) (c:Nat) (K:List Str) (hE:SetE str es K):Tri Tryz.prog 37 #[Fc.val f,zp_ F 0] [] [bW_ F (.cells #[.map (some E)] 33 (0,0)),bW_ E (.map es c)] (fun _:Unit=>.bool (lC_ K f)) (fun _=>[]) (fun _=>[]):=by
 refine i_ Tryz.func37 rfl rfl Tryz.ntmps37 rfl fun L=>?_;refine Zz 2 ?_;refine aa_ rfl rfl fun C=>Zz 12 ?_
 refine e_ (H_ eC_ rfl rfl) rfl (B_ (ew_ (p:=f) (q:=(Fc.mk 2 f.a f.b f.r 0 0)) rfl rfl) rfl fun G e=>Zz 1 ?_);refine ai_ 5 ((decide (f=(Fc.mk 2 f.a f.b f.r 0 0)))&&(decide (f.a∈K))) (fun r=>[(1,zp_ F 0),(2,zp_ C 0),(3,.bool false),(18,.bool r)]) ?_ fun I y=>?_
 ·cases G
  ·have d:=e
   replace e:=zdf e;refine Zz 7 ?_;exact met ⟨rfl,rfl,rfl,(n_ rfl (jaf d)),trivial⟩
  have d:=e;replace e:=zdt e;refine Zz 7 ?_;refine B_ (ar_ (bs_ (k:=f.a) (q:=K) bo_ M_ az_ rfl rfl hE (fun v _ h=>(by exact h.2.1:(bW_ E (.map es c)).p v).2)) (show _=Value.bool (decide (f.a∈K)) from congrArg Value.bool (decide_eq_decide.2 Iff.rfl))) rfl fun B m=>Zz 3 ?_
  exact met ⟨rfl,rfl,rfl,(n_ rfl (jat d m)),trivial⟩
 refine Zz 1 ?_;refine ai_ 5 ((((decide (f=(Fc.mk 2 f.a f.b f.r 0 0)))&&(decide (f.a∈K))))&&(decide (f.b∈K))) (fun r=>[(2,zp_ C 0),(3,.bool false),(24,.bool r)]) ?_ fun B m=>?_
 ·cases I
  ·have d:=y
   refine Zz 7 ?_;exact met ⟨rfl,rfl,(n_ rfl (jaf d)),trivial⟩
  have d:=y;refine Zz 7 ?_;refine B_ (ar_ (bs_ (k:=f.b) (q:=K) bo_ M_ az_ rfl rfl hE (fun v _ h=>(by exact h.2.1:(bW_ E (.map es c)).p v).2)) (show _=Value.bool (decide (f.b∈K)) from congrArg Value.bool (decide_eq_decide.2 Iff.rfl))) rfl fun H x=>Zz 3 ?_
  exact met ⟨rfl,rfl,(n_ rfl (jat d x)),trivial⟩
 refine Zz 1 ?_;refine ai_ 4 ((((((decide (f=(Fc.mk 2 f.a f.b f.r 0 0)))&&(decide (f.a∈K))))&&(decide (f.b∈K))))&&(f.r != [])) (fun r=>[(3,.bool false),(29,.bool r)]) ?_ fun H x=>?_
 ·cases B
  ·have d:=m
   refine Zz 6 ?_;exact met ⟨rfl,(n_ rfl (jaf d)),trivial⟩
  have d:=m;refine Zz 5 ?_;refine B_ (cF_ rfl rfl) rfl fun J A=>Zz 3 ?_
  exact met ⟨rfl,(n_ rfl (jat d A)),trivial⟩
 refine Zz 4 ?_;exact ae_ Tryz.results37 () (n_ rfl (by rw[← x];rfl)) m_ zt
theorem chk3_c (f:Fc) (fb B:Nat) (y:Nat) (es:Array MapEntry) (c:Nat) (K:List Str) (hE:SetE str es K):Tri Tryz.prog 38 #[Fc.val f,zp_ fb 0,zp_ B 0] [] [bW_ fb (.cells #[.func (.func 36) #[] #[]] 74 (0,0)),bW_ B (.cells #[.map (some y)] 33 (0,0)),bW_ y (.map es c)] (fun _:Unit=>.bool (pG_ K f)) (fun _=>[]) (fun _=>[]):=by
 refine i_ Tryz.func38 rfl rfl Tryz.ntmps38 rfl fun E=>?_;refine Zz 2 ?_;refine aa_ rfl rfl fun F=>Zz 7 ?_
 refine bH_ (we_ f) rfl rfl m_ zt rfl fun A e=>Zz 1 ?_
 refine ai_ 5 ((pI_ f)&&(decide (f.a∈K))) (fun r=>[(4,.bool false),(13,.bool r)]) ?_ fun G x=>?_
 ·cases A
  ·have d:=e
   refine Zz 7 ?_;exact met ⟨rfl,(n_ rfl (jaf d)),trivial⟩
  have d:=e;refine Zz 7 ?_;refine B_ (ar_ (bs_ (k:=f.a) (q:=K) bo_ M_ az_ rfl rfl hE (fun v _ h=>(by exact h.2.2.1:(bW_ y (.map es c)).p v).2)) (show _=Value.bool (decide (f.a∈K)) from congrArg Value.bool (decide_eq_decide.2 Iff.rfl))) rfl fun C m=>Zz 3 ?_
  exact met ⟨rfl,(n_ rfl (jat d m)),trivial⟩
 refine Zz 4 ?_;exact ae_ Tryz.results38 () (n_ rfl (by rw[← x];rfl)) m_ zt
theorem chk4_c (f:Fc) (C v:Nat) (q:Nat) (es:Array MapEntry) (c:Nat) (K:List Str) (hE:SetE str es K):Tri Tryz.prog 39 #[Fc.val f,zp_ C 0] [] [bW_ C (.cells #[.func (.func 37) #[] #[zp_ v 0]] 74 (0,0)),bW_ v (.cells #[.map (some q)] 33 (0,0)),bW_ q (.map es c)] (fun _:Unit=>.bool (qt_ K f)) (fun _=>[]) (fun _=>[]):=by
 refine i_ Tryz.func39 rfl rfl Tryz.ntmps39 rfl fun E=>?_;refine Zz 2 ?_;refine aa_ rfl rfl fun y=>Zz 7 ?_
 refine bH_ (wd_ f v q es c K hE) rfl rfl m_ zf rfl fun A k=>Zz 1 ?_
 refine ai_ 5 ((lC_ K f)&&(!(nls f.a))) (fun r=>[(2,zp_ y 0),(3,.bool false),(12,.bool r)]) ?_ fun B h=>?_
 ·cases A
  ·have d:=k
   refine Zz 7 ?_;exact met ⟨rfl,rfl,(n_ rfl (jaf d)),trivial⟩
  have d:=k;refine Zz 5 ?_;refine T_ (bM_ f.a) rfl m_ zt rfl fun x e=>aR_ rfl rfl (e_ (ax_ rfl) rfl (Zz 3 ?_))
  exact met ⟨rfl,rfl,(n_ rfl (jat d (jn e))),trivial⟩
 refine Zz 1 ?_;refine ai_ 5 ((((lC_ K f)&&(!(nls f.a))))&&(!(nls f.b))) (fun r=>[(3,.bool false),(18,.bool r)]) ?_ fun x e=>?_
 ·cases B
  ·have d:=h
   refine Zz 7 ?_;exact met ⟨rfl,(n_ rfl (jaf d)),trivial⟩
  have d:=h;refine Zz 5 ?_;refine T_ (bM_ f.b) rfl m_ zt rfl fun F m=>aR_ rfl rfl (e_ (ax_ rfl) rfl (Zz 3 ?_))
  exact met ⟨rfl,(n_ rfl (jat d (jn m))),trivial⟩
 refine Zz 4 ?_;exact ae_ Tryz.results39 () (n_ rfl zah_) m_ zt
theorem gk_ {G:Prop} (h:G:=by
 exact met ⟨rfl,rfl,(n_ rfl (jaf d)),trivial⟩):G:=h
theorem chk5_c (f:Fc) (N:Nat) (I:Nat) (es:Array MapEntry) (c:Nat) (K:List Str) (hE:SetE str es K):Tri Tryz.prog 40 #[Fc.val f,zp_ N 0] [] [bW_ N (.cells #[.map (some I)] 33 (0,0)),bW_ I (.map es c)] (fun _:Unit=>.bool (pT_ K f)) (fun _=>[]) (fun _=>[]):=by
 refine i_ Tryz.func40 rfl rfl Tryz.ntmps40 rfl fun O=>?_;refine Zz 2 ?_;refine aa_ rfl rfl fun B=>Zz 14 ?_
 refine e_ (H_ eC_ rfl rfl) rfl (B_ (ew_ (p:=f) (q:=(Fc.mk 3 f.a [] f.r f.lo f.hi)) rfl rfl) rfl fun J e=>Zz 1 ?_);refine ai_ 5 ((decide (f=(Fc.mk 3 f.a [] f.r f.lo f.hi)))&&(decide (f.a∈K))) (fun r=>[(2,zp_ B 0),(3,.bool false),(20,.bool r)]) ?_ fun L C=>?_
 ·cases J
  ·have d:=e
   replace e:=zdf e;refine Zz 7 ?_;exact gk_
  have d:=e;replace e:=zdt e;refine Zz 7 ?_;refine B_ (ar_ (bs_ (k:=f.a) (q:=K) bo_ M_ az_ rfl rfl hE (fun v _ h=>(by exact h.2.1:(bW_ I (.map es c)).p v).2)) (show _=Value.bool (decide (f.a∈K)) from congrArg Value.bool (decide_eq_decide.2 Iff.rfl))) rfl fun F x=>Zz 3 ?_
  exact met ⟨rfl,rfl,(n_ rfl (jat d x)),trivial⟩
 refine Zz 1 ?_;refine ai_ 4 ((((decide (f=(Fc.mk 3 f.a [] f.r f.lo f.hi)))&&(decide (f.a∈K))))&&(f.r != [])) (fun r=>[(2,zp_ B 0),(3,.bool false),(25,.bool r)]) ?_ fun F x=>?_
 ·cases L
  ·have d:=C
   refine Zz 6 ?_;exact gk_
  have d:=C;refine Zz 5 ?_;refine B_ (cF_ rfl rfl) rfl fun G y=>Zz 3 ?_
  exact met ⟨rfl,rfl,(n_ rfl (jat d y)),trivial⟩
 refine Zz 1 ?_;refine ai_ 4 ((((((decide (f=(Fc.mk 3 f.a [] f.r f.lo f.hi)))&&(decide (f.a∈K))))&&(f.r != [])))&&(decide ((-1099511627776)≤f.lo))) (fun r=>[(2,zp_ B 0),(3,.bool false),(30,.bool r)]) ?_ fun G y=>?_
 ·cases F
  ·have d:=x
   refine Zz 6 ?_;exact gk_
  have d:=x;refine Zz 5 ?_;refine B_ (de_ rfl rfl) rfl fun E m=>Zz 3 ?_
  exact met ⟨rfl,rfl,(n_ rfl (jat d m)),trivial⟩
 refine Zz 1 ?_;refine ai_ 6 ((((((((decide (f=(Fc.mk 3 f.a [] f.r f.lo f.hi)))&&(decide (f.a∈K))))&&(f.r != [])))&&(decide ((-1099511627776)≤f.lo))))&&(decide (f.lo≤f.hi))) (fun r=>[(2,zp_ B 0),(3,.bool false),(37,.bool r)]) ?_ fun E m=>?_
 ·cases G
  ·have d:=y
   refine Zz 8 ?_;exact gk_
  have d:=y;refine Zz 9 ?_;refine B_ (de_ rfl rfl) rfl fun M A=>Zz 3 ?_
  exact met ⟨rfl,rfl,(n_ rfl (jat d A)),trivial⟩
 refine Zz 1 ?_;refine ai_ 4 ((((((((((decide (f=(Fc.mk 3 f.a [] f.r f.lo f.hi)))&&(decide (f.a∈K))))&&(f.r != [])))&&(decide ((-1099511627776)≤f.lo))))&&(decide (f.lo≤f.hi))))&&(decide (f.hi≤1099511627776))) (fun r=>[(3,.bool false),(42,.bool r)]) ?_ fun M A=>?_
 ·cases E
  ·have d:=m
   refine Zz 6 ?_;exact met ⟨rfl,(n_ rfl (jaf d)),trivial⟩
  have d:=m;refine Zz 5 ?_;refine B_ (de_ rfl rfl) rfl fun P H=>Zz 3 ?_
  exact met ⟨rfl,(n_ rfl (jat d H)),trivial⟩
 refine Zz 4 ?_;exact ae_ Tryz.results40 () (n_ rfl (by rw[← A];rfl)) m_ zt
theorem wf_ (m:Mdl) (B:m.ok):Tri Tryz.prog 10 #[Mdl.val m] [] [mU_ m] (fun e:{e:Int // (e=0∨e=1)∧(e=0↔MdV m)}=>.int .i64 e.1) (fun _=>[]) (fun _=>[]):=by
 refine i_ Tryz.func10 rfl rfl Tryz.ntmps10 rfl fun a1=>?_;have a0:=B.no;refine Zz 2 ?_;refine aa_ rfl rfl fun U=>Zz 8 ?_
 refine g_ (xj_ (Mdl.no m) (Mdl.noa m) (Mdl.noc m) B.no) rfl m_ (fun v _ h=>by exact⟨h.1.1,trivial⟩) rfl fun⟨bn,S⟩=>?_;dsimp only;refine e_ (ax_ rfl) rfl (Zz 2 ?_);cases bn
 ·refine Zz 7 ?_
  exact ae_ ij_ ⟨1,.inr rfl,fun q=>absurd q ze_,fun q=>absurd q (fun q=>by have:=S.2 q.no;cases this)⟩ rfl m_ zt
 refine Zz 5 ?_;refine aY_ rfl fun k=>G_ dQ_ rfl fun d=>u_ 0 Tryz.sizeOf33 rfl rfl rfl rfl rfl rfl (Zz 12 ?_)
 refine L_ (ι:={y:Nat×StM // y.1≤List.length (Mdl.no m)∧(∀ n,n∈y.2.ks↔n∈List.take y.1 (Mdl.no m))}) (fun y=>[(1,zp_ U 0),(2,.int .i64 0),(3,zp_ d 0),(18,.slice (Mdl.noa m) (List.length (Mdl.no m)) (Mdl.noc m)),(19,.int .i64 (List.length (Mdl.no m):Int)),(20,.int .i64 (y.1.1:Int))]) (fun y=>((d,.cells #[.map (some k)] 33 (0,0))::((k,.map y.1.2.es y.1.2.c)::((U,.cells #[.slice (Mdl.noa m) (List.length (Mdl.no m)) (Mdl.noc m),.slice (Mdl.tya m) (List.length (Mdl.ty m)) (Mdl.tyc m),.slice (Mdl.lia m) (List.length (Mdl.li m)) (Mdl.lic m),.slice (Mdl.dia m) (List.length (Mdl.di m)) (Mdl.dic m),.slice (Mdl.raa m) (List.length (Mdl.ra m)) (Mdl.rac m),.slice (Mdl.roa m) (List.length (Mdl.ro m)) (Mdl.roc m)] 28 (0,0))::[])))) (fun y=>[mU_ m]) (fun y=>List.length (Mdl.no m) - y.1.1) ⟨((0:Nat),StM.nil),by simp,(by intro n;simp[StM.nil])⟩ zl zp zh ?_;rintro ⟨⟨i,s⟩,T,M⟩;dsimp only at T M ⊢;refine Zi 2 (fun Q=>?_) fun Q=>?_
 ·refine Zz 7 ?_
  rw[List.take_of_length_le za_]at M;refine eI_ (bW_ k (.map s.es s.c)) (bb_ (c_ d_)) (fun _ C A _=>⟨C,A⟩) ?_;refine eI_ (bW_ d (.cells #[.map (some k)] 33 (0,0))) (bb_ d_) (fun _ C A _=>⟨C,A⟩) ?_;refine aG_ (G_ Tryz.zeroValue74 rfl fun J=>u_ 0 Tryz.sizeOf74 rfl rfl rfl rfl rfl rfl (Zz 4 ?_));refine e_ (bI_ rfl rfl) rfl (G_ Tryz.zeroValue74 rfl fun L=>u_ 0 Tryz.sizeOf74 rfl rfl rfl rfl rfl rfl (Zz 3 ?_));refine eI_ (bW_ J (.cells #[.func (.func 36) #[] #[]] 74 (0,0))) (bb_ (c_ d_)) (fun _ C A _=>⟨C,A⟩) ?_;refine eI_ (bW_ L (.cells #[.func (.func 37) #[] #[zp_ d 0]] 74 (0,0))) (bb_ d_) (fun _ C A _=>⟨C,A⟩) ?_;refine aG_ (e_ (bI_ rfl rfl) rfl (Zz 5 ?_));refine e_ (bI_ rfl rfl) rfl (Zz 5 ?_);refine e_ (bI_ rfl rfl) rfl (Zz 8 ?_);refine g_ (np_ (cv:=[zp_ J 0,zp_ d 0]) (Gc:=[bW_ J (.cells #[.func (.func 36) #[] #[]] 74 (0,0)),bW_ d (.cells #[.map (some k)] 33 (0,0)),bW_ k (.map s.es s.c)]) (pG_ s.ks) (Mdl.ty m) (Mdl.tya m) (Mdl.tyc m) B.ty fun x _=>by exact chk3_c x J d k s.es s.c s.ks s.hE) rfl m_ (fun v _ h=>by exact⟨h.2.2.2.2.1.2.1,⟨h.2.1,h.2.2.1,h.2.2.2.1,trivial⟩,trivial⟩) rfl fun⟨V,E⟩=>?_;dsimp only;refine Zz 1 ?_;cases V
  ·refine Zz 30 ?_
   refine e_ (ax_ rfl) rfl (Zz 9 ?_);exact ae_ ij_ ⟨1,.inr rfl,fun q=>absurd q ze_,fun q=>absurd q (fun q=>by have:=E.2 ⟨fun f K=>(sq_ M f).trans (q.ty.1 f K),q.ty.2⟩;cases this)⟩ rfl m_ zt
  refine Zz 7 ?_;refine g_ (np_ (cv:=[zp_ L 0]) (Gc:=[bW_ L (.cells #[.func (.func 37) #[] #[zp_ d 0]] 74 (0,0)),bW_ d (.cells #[.map (some k)] 33 (0,0)),bW_ k (.map s.es s.c)]) (qt_ s.ks) (Mdl.li m) (Mdl.lia m) (Mdl.lic m) B.li fun x _=>by exact chk4_c x L d k s.es s.c s.ks s.hE) rfl m_ (fun v _ h=>by exact⟨h.2.2.2.2.1.2.2.1,⟨h.1,h.2.2.1,h.2.2.2.1,trivial⟩,trivial⟩) rfl fun⟨O,G⟩=>?_;dsimp only;refine Zz 2 ?_;cases O
  ·refine Zz 24 ?_
   refine e_ (ax_ rfl) rfl (Zz 9 ?_);exact ae_ ij_ ⟨1,.inr rfl,fun q=>absurd q ze_,fun q=>absurd q (fun q=>by have:=G.2 ⟨fun f K=>(sF_ M f).trans (q.li.1 f K),q.li.2⟩;cases this)⟩ rfl m_ zt
  refine Zz 7 ?_;refine g_ (np_ (cv:=[zp_ d 0]) (Gc:=[bW_ d (.cells #[.map (some k)] 33 (0,0)),bW_ k (.map s.es s.c)]) (lC_ s.ks) (Mdl.di m) (Mdl.dia m) (Mdl.dic m) B.di fun x _=>by exact wd_ x d k s.es s.c s.ks s.hE) rfl m_ (fun v _ h=>by exact⟨h.2.2.2.2.1.2.2.2.1,⟨h.2.2.1,h.2.2.2.1,trivial⟩,trivial⟩) rfl fun⟨W,F⟩=>?_;dsimp only;refine Zz 2 ?_;cases W
  ·refine Zz 18 ?_
   refine e_ (ax_ rfl) rfl (Zz 9 ?_);exact ae_ ij_ ⟨1,.inr rfl,fun q=>absurd q ze_,fun q=>absurd q (fun q=>by have:=F.2 ⟨fun f K=>(oO_ M f).trans (q.di.1 f K),q.di.2⟩;cases this)⟩ rfl m_ zt
  refine Zz 7 ?_;refine g_ (np_ (cv:=[zp_ d 0]) (Gc:=[bW_ d (.cells #[.map (some k)] 33 (0,0)),bW_ k (.map s.es s.c)]) (pT_ s.ks) (Mdl.ra m) (Mdl.raa m) (Mdl.rac m) B.ra fun x _=>by exact chk5_c x d k s.es s.c s.ks s.hE) rfl m_ (fun v _ h=>by exact⟨h.2.2.2.2.1.2.2.2.2.1,⟨h.2.2.1,h.2.2.2.1,trivial⟩,trivial⟩) rfl fun⟨P,H⟩=>?_;dsimp only;refine Zz 2 ?_;cases P
  ·refine Zz 12 ?_
   refine e_ (ax_ rfl) rfl (Zz 9 ?_);exact ae_ ij_ ⟨1,.inr rfl,fun q=>absurd q ze_,fun q=>absurd q (fun q=>by have:=H.2 ⟨fun f K=>(su_ M f).trans (q.ra.1 f K),q.ra.2⟩;cases this)⟩ rfl m_ zt
  refine Zz 7 ?_;refine g_ (np_ (cv:=[]) (Gc:=[]) (pI_) (Mdl.ro m) (Mdl.roa m) (Mdl.roc m) B.ro fun x _=>by exact we_ x) rfl m_ (fun v _ h=>by exact⟨h.2.2.2.2.1.2.2.2.2.2,trivial,trivial⟩) rfl fun⟨X,I⟩=>?_;dsimp only;refine Zz 8 ?_;refine e_ (ax_ rfl) rfl (Zz 2 ?_);cases X
  ·refine Zz 7 ?_
   exact ae_ ij_ ⟨1,.inr rfl,fun q=>absurd q ze_,fun q=>absurd q (fun q=>by have:=I.2 ⟨fun f K=>q.ro.1 f K,q.ro.2⟩;cases this)⟩ rfl m_ zt
  refine Zz 9 ?_;exact ae_ ij_ ⟨0,.inl rfl,fun _=>(xn_ M S E G F H I).2 ⟨rfl,rfl,rfl,rfl,rfl,rfl⟩,fun _=>rfl⟩ rfl m_ zt
 obtain⟨N,Z,R,Y⟩:=zge (show i<List.length (Mdl.no m) by omega);refine Zz 18 ?_;refine dM_ 1 s bo_ (.inr rfl) M_ rfl rfl rfl rfl (Zz 7 ?_);exact x_ ⟨(i+1,(StM.add s Z)),N,(by intro n;rw[StM.mem,M n,tk1 R];simp)⟩ zb_ zl zp zh
end Go.Proofs.YtpbnmnfdgckaiaaGreatDoor
namespace Go.Proofs.YtpbnmnfdgckaiaaGreatDoor
open Go Go.Sx Go.Proofs
attribute [local irreducible] Code.wp wpList wpAnyH
open Go.Vs Go.Shelf Go.RowKit
structure Bok (ls:List Ax) (m:Mdl) (c:Cl):Prop where
  chk:∀ x∈ls,x.check=0
  nc:¬ pt_ (cU_ ls)
  pc:da_ (cc_ 0 ls)=0
  at':c.atoms=atS (cc_ 0 ls)
  fs:gy_ (cc_ 0 ls) (atS (cc_ 0 ls)) 65536 (some c.facts)
  asm:AsmR (cc_ 0 ls) c m.no m.ty m.li m.di m.ra
  inc:yf_ ls m.ro
theorem wr_.bok {ls:List Ax} {m:Mdl} {e:Int} (h:wr_ ls m e) (A:e=0):∃ c,Bok ls m c:=by
 rcases h with⟨_,C,k,c,d,q,B⟩|⟨h,_⟩
 ·obtain⟨v,_,_,_,x,y⟩:=d.good
  exact⟨c,C,k,v,x,y,q,B⟩
 exact absurd A h
theorem iO_ {p:List Pc} (k:da_ p=0) {y:Fc} (h:Der p (atS p) y):(y.kind=1→y=Y_ y.a y.b∧y.a∈atS p∧y.b∈atS p)∧(y.kind=2→y=ab_ y.a y.r y.b∧y.a∈atS p∧y.b∈atS p∧y.r≠[])∧(y.kind=3→y=am_ y.a y.r y.lo y.hi∧y.a∈atS p∧y.r≠[]∧-1099511627776≤y.lo∧y.lo≤y.hi∧y.hi≤1099511627776):=by
 have d:=der_ok (ft_ k) h;have e:=h.form fun x v=>gF_ (ft_ k x v)
 rcases e with⟨a,b,rfl⟩|⟨a,r,b,rfl,_⟩|⟨a,r,lo,hi,rfl,_⟩
 ·have:=fo1.1 d
  exact⟨fun _=>⟨rfl,this.1,this.2⟩,fun q=>absurd q (by simp[Y_]),fun q=>absurd q (by simp[Y_])⟩
 ·have:=fo2.1 d
  exact⟨fun q=>absurd q (by simp[ab_]),fun _=>⟨rfl,this.1,this.2.1,this.2.2⟩,fun q=>absurd q (by simp[ab_])⟩
 have:=fo3.1 d;exact⟨fun q=>absurd q (by simp[am_]),fun q=>absurd q (by simp[am_]),fun _=>⟨rfl,this.1,this.2.1,this.2.2.1,this.2.2.2.1,this.2.2.2.2⟩⟩
theorem ka_ {p:List Pc} {F:List Fc} (A:∀ y,y∈F↔Der p (atS p) y) (B:da_ p=0) {s:Str} {z:Fc}:(s,z)∈dv_ p F↔∃ y∈p,y.kind=3∧Der p (atS p) (Y_ s y.a)∧z=ab_ s y.r y.c:=by
 rw[qM_];constructor
 ·rintro ⟨f,C,y,k,e,q,v,rfl,rfl⟩
  have d:=(A f).1 C;have x:=((iO_ B d).1 e).1;refine⟨y,k,q,?_,rfl⟩;rw[v,← x];exact d
 rintro ⟨y,k,e,d,rfl⟩;exact⟨Y_ s y.a,(A _).2 d,y,k,rfl,e,rfl,rfl,rfl⟩
theorem jO_ {D:List (Str×Fc)} {s t:Str}:t∈nxD D s↔∃ z,(s,z)∈D∧z.b=t:=by
  unfold nxD;rw[List.mem_map];exact⟨fun⟨z,h,e⟩=>⟨z,bL_.1 h,e⟩,fun⟨z,h,e⟩=>⟨z,bL_.2 h,e⟩⟩
theorem RchS.mono {nx d:Str→List Str} {I e:List Str} (q:∀ s t,t∈nx s→t∈d s) (k:∀ s∈I,s∈e) {t:Str} (h:RchS nx I t):RchS d e t:=by
  induction h with
  | zero h=>exact .zero (k _ h)
  | step _ ht ih=>exact .step ih (q _ _ ht)
theorem ht_ {l:List Str} {s:Str}:s∈ef_ l↔s∈l∧nls s=false:=by unfold ef_;rw[List.mem_filter,Bool.not_eq_true']
section
variable {ls:List Ax} {m:Mdl} {c:Cl} (h:Bok ls m c)
include h
theorem Bok.der (y:Fc):y∈c.facts↔Der (cc_ 0 ls) (atS (cc_ 0 ls)) y:=h.fs.2.1 y
theorem Bok.rch (s:Str):s∈m.no↔RchS (nxD (dv_ (cc_ 0 ls) c.facts)) (ef_ (atS (cc_ 0 ls))) s:=by rw[← h.at'];exact h.asm.nd.mem s
theorem Bok.next {s:Str} {z:Fc} (e:s∈m.no) (d:(s,z)∈dv_ (cc_ 0 ls) c.facts):z.b∈m.no:=(h.rch _).2 (.step ((h.rch _).1 e) (jO_.2 ⟨z,d,rfl⟩))
theorem Bok.no_at {s:Str} (x:s∈m.no):s∈atS (cc_ 0 ls):=by
  have e:=(h.rch s).1 x;cases e with
  | zero q=>exact (ht_.1 q).1
  | step _ q =>
    obtain⟨z,v,rfl⟩:=jO_.1 q;obtain⟨y,k,d,_,rfl⟩:=(ka_ h.der h.pc).1 v;exact yt_ k (.inr (.inr rfl)) (sp_ (ft_ h.pc y k) zL_)
theorem Bok.ind {s:Str} (e:s∈atS (cc_ 0 ls)) (d:nls s=false):s∈m.no:=(h.rch s).2 (.zero (ht_.2 ⟨e,d⟩))
theorem Bok.ty (z:Fc):z∈m.ty↔Der (cc_ 0 ls) (atS (cc_ 0 ls)) z∧z.kind=1∧z.a∈m.no:=by rw[h.asm.ty.2,h.der]
theorem Bok.li (z:Fc):z∈m.li↔Der (cc_ 0 ls) (atS (cc_ 0 ls)) z∧z.kind=2∧nls z.a=false∧nls z.b=false:=by rw[h.asm.li.2,h.der]
theorem Bok.ra (z:Fc):z∈m.ra↔Der (cc_ 0 ls) (atS (cc_ 0 ls)) z∧z.kind=3∧z.a∈m.no:=by rw[h.asm.ra.2,h.der]
theorem Bok.di (z:Fc):z∈m.di↔∃ s∈m.no,∃ y∈cc_ 0 ls,y.kind=3∧Der (cc_ 0 ls) (atS (cc_ 0 ls)) (Y_ s y.a)∧z=ab_ s y.r y.c:=by
  rw[h.asm.di.2];exact⟨fun⟨s,d,q⟩=>⟨s,d,(ka_ h.der h.pc).1 q⟩,fun⟨s,d,q⟩=>⟨s,d,(ka_ h.der h.pc).2 q⟩⟩
theorem Bok.nls_N {N:List Str} (v:∀ s,(s∈ef_ (atS (cc_ 0 ls))∨s∈N)↔RchS (nxD (dv_ (cc_ 0 ls) c.facts)) (ef_ (atS (cc_ 0 ls))) s) (k:∀ s∈N,s ∉ ef_ (atS (cc_ 0 ls))):∀ s∈N,nls s=true:=fun s d=>by
 have e:=h.no_at ((h.rch s).2 ((v s).1 (.inr d)))
 by_cases q:nls s=true
 ·exact q
 exact absurd (ht_.2 ⟨e,by simpa using q⟩) (k s d)
theorem Bok.nodup:m.no.Nodup:=sz_ h.asm.nd (by rw[h.at'];exact ((nv_ _).sublist List.filter_sublist).imp fun {a b} q e=>by subst e;exact List.lt_irrefl _ q)
end
theorem xl_ {l:List Str} (d:∀ s∈l,s≠[]) (h:l.Pairwise rB_):nG_ l:=⟨d,fun i p s e k=>by
  obtain⟨v,q⟩:=List.getElem?_eq_some_iff.1 e;obtain⟨y,x⟩:=List.getElem?_eq_some_iff.1 k;have:=List.pairwise_iff_getElem.1 h i (i+1) v y za_;rwa [q,x]at this⟩
theorem sA_ {p s:Str} (h:nls p=nls s) (hl:p<s):rB_ p s:=fun q=>by
 rcases q with⟨_,q⟩|⟨d,e⟩
 ·exact absurd hl (List.not_lt.2 q)
 rw[h,e]at d;cases d
theorem Bok.nodV {ls:List Ax} {m:Mdl} {c:Cl} (h:Bok ls m c):nG_ m.no:=by
 refine xl_ (fun s E=>se_ (h.no_at E)) ?_;obtain⟨N,C,e,v,y⟩:=h.asm.nd;rw[h.at']at e v y;have A:=h.nls_N y v;rw[e,List.pairwise_append];refine⟨?_,?_,fun a k b d=>?_⟩
 ·refine List.Pairwise.imp_of_mem (fun {a b} k d q=>sA_ ?_ q) ((nv_ _).sublist List.filter_sublist)
  rw[(ht_.1 k).2,(ht_.1 d).2]
 ·refine List.Pairwise.imp_of_mem (fun {a b} k d q=>sA_ ?_ q) (gJ_ C)
  rw[List.mem_mergeSort]at k d;rw[A a k,A b d]
 rw[List.mem_mergeSort]at d;have x:=(ht_.1 k).2;have B:=A b d;rintro (⟨q,_⟩|⟨q,_⟩)
 ·rw[x,B]at q;cases q
 rw[x]at q;cases q
theorem abv_ne {l:List Ax} (A:∀ x∈l,x.check=0) {r t:Str} (v:r≠[]) (h:RchS (lat (gc_ l)) [r] t):t≠[]:=by
 cases h with
 | zero h=>rw[List.mem_singleton.1 h];exact v
 | step _ ht =>
   have k:=bL_.1 ht;unfold gc_ at k;obtain⟨x,y,d⟩:=List.mem_flatMap.1 k
   split at d
   · rename_i q
     simp only[List.mem_singleton,Prod.mk.injEq]at d;rw[d.2];have:=(Ax.good_of (A x y)).role (.inr (.inl q));intro e;rw[e]at this;revert this;decide
   · simp at d
theorem Bok.mdV {ls:List Ax} {m:Mdl} {c:Cl} (h:Bok ls m c):MdV m where
  no:=h.nodV
  ty:=⟨fun f d=>by
    obtain⟨q,k,e⟩:=(h.ty f).1 d;obtain⟨v,A,x⟩:=(iO_ h.pc q).1 k;have B:=se_ A;have E:=se_ x;unfold pG_ pI_;rw[decide_eq_true v,decide_eq_true e,bne_iff_ne.2 B,bne_iff_ne.2 E];rfl,h.asm.ty.1⟩
  li:=⟨fun f d=>by
    obtain⟨q,k,e,I⟩:=(h.li f).1 d;obtain⟨v,A,x,C⟩:=(iO_ h.pc q).2.1 k;unfold qt_ lC_;rw[decide_eq_true v,decide_eq_true (h.ind A e),decide_eq_true (h.ind x I),bne_iff_ne.2 C,e,I];rfl,h.asm.li.1⟩
  di:=⟨fun f d=>by
    obtain⟨s,G,y,F,H,K,rfl⟩:=(h.di f).1 d;have L:=h.next G ((ka_ h.der h.pc).2 ⟨y,F,H,K,rfl⟩);have J:(ab_ s y.r y.c).r≠[]:=(gF_ (ft_ h.pc y F)).rok.1 (by simp[H]);unfold lC_;rw[decide_eq_true (p:=ab_ s y.r y.c=ab_ (ab_ s y.r y.c).a (ab_ s y.r y.c).r (ab_ s y.r y.c).b) rfl,decide_eq_true (p:=(ab_ s y.r y.c).a∈m.no) G,decide_eq_true (p:=(ab_ s y.r y.c).b∈m.no) L,bne_iff_ne.2 J];rfl,h.asm.di.1⟩
  ra:=⟨fun f d=>by
    obtain⟨q,k,e⟩:=(h.ra f).1 d;obtain⟨v,A,x,C,M,N⟩:=(iO_ h.pc q).2.2 k;unfold pT_;rw[decide_eq_true v,decide_eq_true e,bne_iff_ne.2 x,decide_eq_true C,decide_eq_true M,decide_eq_true N];rfl,h.asm.ra.1⟩
  ro:=⟨fun f d=>by
    obtain⟨r,t,⟨q,k⟩,e,rfl⟩:=(h.inc.2 f).1 d;have E:(Y_ r t).b≠[]:=abv_ne h.chk k e;have B:(Y_ r t).a≠[]:=k;unfold pI_;rw[decide_eq_true (p:=Y_ r t=Y_ (Y_ r t).a (Y_ r t).b) rfl,bne_iff_ne.2 B,bne_iff_ne.2 E];rfl,h.inc.1⟩
def Clsd (di:List Fc) (K:List Str):Prop:=∀ f∈di,f.a∈K→f.b∈K
theorem Bok.all {ls:List Ax} {m:Mdl} {c:Cl} (h:Bok ls m c) {K:List Str} (E:K.Nodup) (C:∀ x∈K,x∈m.no) (hi:∀ x∈m.no,nls x=false→x∈K) (B:Clsd m.di K∨m.no.length≤K.length):(∀ x∈m.no,x∈K)∧K.length=m.no.length:=by
 have A:∀ x∈m.no,x∈K:=by
   rcases B with B|B
   · intro x v
     have v:=(h.rch x).1 v
     induction v with
     | zero q=>exact hi _ ((h.rch _).2 (.zero q)) (ht_.1 q).2
     | @step s t hs' ht ih =>
       obtain⟨z,k,rfl⟩:=jO_.1 ht;have d:=(h.rch s).2 hs';have F:z∈m.di:=(h.asm.di.2 z).2 ⟨s,d,k⟩;have G:z.a=s:=by obtain⟨y,_,_,_,e⟩:=(ka_ h.der h.pc).1 k;rw[e];rfl
       exact B z F (by rw[G];exact ih d)
   · intro x v
     apply Classical.byContradiction
     intro q
     have:=cO_ (l:=x::K) (m:=m.no) (List.nodup_cons.2 ⟨q,E⟩) fun z k=>by
       rcases List.mem_cons.1 k with rfl|k
       · exact v
       · exact C z k
     simp only[List.length_cons]at this;omega
 exact⟨A,Nat.le_antisymm (cO_ E C) (cO_ h.nodup A)⟩
section
variable {R:List Str} {f:Int}
theorem yu_ (c:Con):∀ (r:List Con) (j:Nat) (a:Str) (l:List Pc),(∀ q∈l,q.kind=3→q.r∈R)→∀ q∈Con.andP f c r j a l,q.kind=3→q.r∈R
  | [],_,_,l,hl=>hl
  | p::r,j,a,l,hl=>yu_ c r (j+1) _ _ (bk_ hl fun k=>by simp at k)
theorem vm_:∀ (m:Nat) (c:Con),c.sz≤m→∀ l:List Pc,(∀ q∈l,q.kind=3→q.r∈R)→∀ q∈c.leftP f l,q.kind=3→q.r∈R
 | 0,c,h=>by have:=c.sz_pos;omega
 | m+1,c,h=>fun l hl=>by
   have e:∀ ps:List Con,(∀ p∈ps,p.sz≤m)→∀ l:List Pc,(∀ q∈l,q.kind=3→q.r∈R)→∀ q∈Con.leftP.lefts f ps l,q.kind=3→q.r∈R:=by
     intro ps
     induction ps with
     | nil=>intro _ l hl;exact hl
     | cons p ps ih=>intro d l hl;exact ih (fun q v=>d q zaG_) _ (vm_ m p (d p zj_) l hl)
   have hk:=e c.parts (fun p d=>by have:=Con.sz_part d;omega) l hl;rw[Con.leftP_eq]
   split
   · exact yu_ c _ 1 _ _ hk
   · split
     · exact bk_ hk fun k=>by simp at k
     · split
       · exact bk_ hl fun k=>by simp at k
       · exact hl
theorem oK_:∀ (m:Nat) (c:Con),c.sz≤m→(∀ r∈c.nms 6,r∈R)→∀ l:List Pc,(∀ q∈l,q.kind=3→q.r∈R)→∀ q∈c.rightP f l,q.kind=3→q.r∈R
 | 0,c,h=>by have:=c.sz_pos;omega
 | m+1,c,h=>fun A l hl=>by
   have e:∀ p∈c.parts,p.sz≤m∧∀ r∈p.nms 6,r∈R:=fun p d=>⟨by have:=Con.sz_part d;omega,fun r B=>A r (by rw[Con.nms_eq,List.mem_append];exact .inr (List.mem_flatMap.2 ⟨p,d,B⟩))⟩
   have y:∀ ps:List Con,(∀ p∈ps,p.sz≤m∧∀ r∈p.nms 6,r∈R)→∀ a l,(∀ q∈l,Pc.kind q=3→q.r∈R)→∀ q∈Con.rightP.rights f a ps l,q.kind=3→q.r∈R:=by
     intro ps
     induction ps with
     | nil=>intro _ a l hl;exact hl
     | cons p ps ih=>intro d a l hl;exact ih (fun q x=>d q (by simp[x])) a _ (oK_ m p (d p zj_).1 (d p zj_).2 _ (bk_ hl fun k=>by simp at k))
   have v:∀ ps:List Con,(∀ p∈ps,p.sz≤m∧∀ r∈p.nms 6,r∈R)→∀ l,(∀ q∈l,Pc.kind q=3→q.r∈R)→∀ q∈Con.rightP.righty f ps l,q.kind=3→q.r∈R:=by
     intro ps
     induction ps with
     | nil=>intro _ l hl;exact hl
     | cons p ps ih=>intro d l hl;exact ih (fun q x=>d q (by simp[x])) _ (oK_ m p (d p zj_).1 (d p zj_).2 l hl)
   rw[Con.rightP_eq]
   split
   · exact y _ e _ _ hl
   · split
     · rename_i C
       exact v _ e _ (bk_ hl fun _=>A _ (by rw[Con.nms_eq,if_pos C];simp))
     · split
       · exact bk_ hl fun k=>by simp at k
       · exact hl
end
theorem sR_ {R:List Str} {f:Int} (ro:Str):∀ (d:List Str) (g:Str) (l:List Pc),(∀ q∈l,q.kind=3→q.r∈R)→∀ q∈Ax.chainP f ro d g l,q.kind=3→q.r∈R
  | [],_,l,hl=>hl
  | r::t,g,l,hl=>sR_ ro t _ _ (bk_ hl fun k=>by simp at k)
theorem xc_ {x:Ax} {f:Int}:∀ q∈x.pieces f,q.kind=3→q.r∈x.vc 6:=by
 have d:∀ q∈([]:List Pc),q.kind=3→q.r∈x.vc 6:=fun q A=>by cases A
 have y:∀ r∈x.left.nms 6,r∈x.vc 6:=fun r v=>by unfold Ax.vc;simp[v]
 have e:∀ r∈x.right.nms 6,r∈x.vc 6:=fun r v=>by unfold Ax.vc;simp[v]
 have L:=fun (c:Con)=>vm_ (R:=x.vc 6) (f:=f) _ c (Nat.le_refl _)
 have Q:=fun (c:Con)=>oK_ (R:=x.vc 6) (f:=f) _ c (Nat.le_refl _)
 unfold Ax.pieces
 split
 ·exact bk_ (Q _ e _ (L _ _ d)) fun k=>by simp at k
 split
 ·exact bk_ (Q _ y _ (L _ _ (bk_ (Q _ e _ (L _ _ d)) fun k=>by simp at k))) fun k=>by simp at k
 split
 ·exact bk_ (L _ _ (L _ _ d)) fun k=>by simp at k
 split
 ·exact bk_ (Q _ e _ d) fun k=>by simp at k
 split
 ·exact bk_ d fun k=>by simp at k
 split
 ·exact sR_ _ _ _ _ d
 split
 ·exact bk_ d fun k=>by simp at k
 split
 ·exact bk_ (Q _ e _ d) fun k=>by simp at k
 exact bk_ d fun _=>by unfold Ax.vc;simp
theorem flat3 {l:List Ax} {q:Pc} (h:q∈cc_ 0 l) (k:q.kind=3):q.r∈vcL 6 l:=by
  obtain⟨j,a,d,e⟩:=nl_.1 h;exact List.mem_flatMap.2 ⟨a,List.mem_of_getElem? d,xc_ q e k⟩
theorem flat5 {l:List Ax} {r t:Str} (h:(r,t)∈gc_ l):∃ y∈cc_ 0 l,y.kind=5∧y.r=r∧y.t=t:=by
 unfold gc_ at h;obtain⟨x,k,d⟩:=List.mem_flatMap.1 h
 split at d
 ·rename_i e
  simp only[List.mem_singleton,Prod.mk.injEq]at d;obtain⟨j,q⟩:=List.getElem?_of_mem k;refine⟨⟨5,[],[],[],x.roles.headD [],[],x.role,0,0,((0+j:Nat):Int)⟩,nl_.2 ⟨j,x,q,?_⟩,rfl,d.1.symm,d.2.symm⟩;unfold Ax.pieces;rw[if_neg za_,if_neg za_,if_neg za_,if_neg za_,if_pos e];simp[ins]
 simp at d
section
variable {ls:List Ax} {m:Mdl} {c:Cl} (h:Bok ls m c)
include h
theorem Bok.di_r {f:Fc} (q:f∈m.di):f=ab_ f.a f.r f.b∧f.r∈vcL 6 ls∧f.r≠[]∧Der (cc_ 0 ls) (atS (cc_ 0 ls)) f:=by
  obtain⟨s,v,y,d,e,k,rfl⟩:=(h.di f).1 q;exact⟨rfl,flat3 d e,(gF_ (ft_ h.pc y d)).rok.1 (by simp[e]),Der.step (.r5 d e k)⟩
omit h in
theorem xp_ {a b r t:Str} (k:Der (cc_ 0 ls) (atS (cc_ 0 ls)) (ab_ a r b)) (d:RchS (lat (gc_ ls)) [r] t):Der (cc_ 0 ls) (atS (cc_ 0 ls)) (ab_ a t b):=by
  induction d with
  | zero q=>rw[List.mem_singleton.1 q];exact k
  | step _ q ih =>
    obtain⟨y,e,v,rfl,rfl⟩:=flat5 (bL_.1 q);exact Der.step (.r6 e v ih)
theorem Bok.role {f:Fc} (k:f∈m.di) {t:Str} (d:RchS (lat (gc_ ls)) [f.r] t):uN_ m f.a t f.b=true:=by
 obtain⟨e,x,y,v⟩:=h.di_r k
 by_cases q:nls f.a=false∧nls f.b=false
 ·rw[uM_ q.1 q.2]
  exact decide_eq_true ((h.li _).2 ⟨xp_ (r:=f.r) (by rw[← e];exact v) d,rfl,q⟩)
 rw[ks_ q];refine kh_ k (oJ_ e ?_);unfold qN_;rw[decide_eq_true ((h.inc.2 _).2 ⟨f.r,t,⟨x,y⟩,d,rfl⟩),Bool.or_true]
theorem Bok.plain {r:Str} (e:r∈vcL 6 ls) (d:r≠[]):aM_ r=true:=jL_ (pC_ h.chk e d)
end
end Go.Proofs.YtpbnmnfdgckaiaaGreatDoor
namespace Go.Proofs.YtpbnmnfdgckaiaaGreatDoor
open Go Go.Sx Go.Proofs
attribute [local irreducible] Code.wp wpList wpAnyH
open Go.Vs Go.Shelf Go.RowKit
def L22 (ad:Option Addr):List Ax:=[Ax.mk 1 false (Con.mk 3 [65] 0 0 none 0 []) (Con.mk 6 [114] 0 0 ad 1 [(Con.mk 3 [66] 0 0 none 0 [])]) none 0 [] [] [] [],Ax.mk 8 false (Con.mk 0 [] 0 0 none 0 []) (Con.mk 3 [65] 0 0 none 0 []) none 0 [] [] [97] []]
def P22:List Pc:=[⟨3,[60,115,111,109,101,32,114,32,66,62],[],[66],[114],[],[],0,0,0⟩,⟨1,[65],[],[60,115,111,109,101,32,114,32,66,62],[],[],[],0,0,0⟩,⟨1,[123,97,125],[],[65],[],[],[],0,0,1⟩]
theorem ye_ (ad:Option Addr):∀ x∈L22 ad,x.check=0:=fun x d=>by
  unfold L22 at d;simp only[List.mem_cons,List.not_mem_nil,or_false]at d;rcases d with rfl|rfl<;>kernel_rfl
theorem L22_ok (ad:Option Addr):∀ x∈L22 ad,x.ok:=fun x d=>by
  unfold L22 at d;simp only[List.mem_cons,List.not_mem_nil,or_false]at d;rcases d with rfl|rfl<;>(constructor<;>simp[Con.ok,Con.ok.oks])
theorem nx_ (ad:Option Addr):cc_ 0 (L22 ad)=P22:=by kernel_rfl
theorem ud_ (ad:Option Addr):cU_ (L22 ad)=[]:=by kernel_rfl
theorem qT_:¬ pt_ []:=fun⟨n,f,c,d,_,e,_⟩=>by have:=e 0 d;cases this
def A22:List Str:=[[33],[42],[60,115,111,109,101,32,114,32,66,62],[65],[66],[123,97,125]]
theorem sW_:atS P22=A22:=hl_ oC_ List.lt_trans (nv_ P22) ze_ fun x=>by
 rw[iP_,gb_];simp only[cQ_,kH_,P22,A22,List.flatMap_cons,List.flatMap_nil,List.mem_append,List.mem_cons,List.not_mem_nil,or_false];simp
 constructor
 ·intro h
  simp only[or_assoc]at h;rcases h with rfl|rfl|rfl|rfl|rfl|rfl|rfl|rfl<;>simp
 rintro (rfl|rfl|rfl|rfl|rfl|rfl)<;>simp
theorem wi_:atS []=[[33],[42]]:=hl_ oC_ List.lt_trans (nv_ []) ze_ fun x=>by
  rw[iP_,gb_];simp[cQ_,or_comm]
def F22:List Fc:=nr_ P22 A22 6
theorem sZ_:da_ P22=0:=by decide +kernel
theorem wp_:gy_ P22 A22 65536 (some F22):=qS_ (ot_ sZ_) 6 65536 zac_ zac_
theorem F0_is:gy_ [] [[33],[42]] 65536 (some (nr_ [] [[33],[42]] 3)):=qS_ (fun x d=>by simp at d) 3 65536 zac_ zac_
theorem yg_ {s t:Str} (h:t∈nxD (dv_ P22 F22) s):s∈[[60,115,111,109,101,32,114,32,66,62],[65],[123,97,125]]∧t=[66]:=by
  have d:((dv_ P22 F22).all fun e=>decide (e.1∈[[60,115,111,109,101,32,114,32,66,62],[65],[123,97,125]])&&decide (e.2.b=[66]))=true:=by decide +kernel
  obtain⟨z,k,rfl⟩:=jO_.1 h;have:=List.all_eq_true.1 d _ k;simp only[Bool.and_eq_true,decide_eq_true_eq]at this;exact this
theorem wq_:([123,97,125],ab_ [123,97,125] [114] [66])∈dv_ P22 F22:=by decide +kernel
theorem N22:nH_ (dv_ P22 F22) (ef_ A22) [[123,97,125],[66]]:=by
 have d:ef_ A22=[[123,97,125]]:=by decide +kernel
 refine⟨[[66]],by simp,by rw[d,aS_,List.mergeSort_singleton];rfl,by rw[d];decide,fun s=>?_⟩;rw[d];constructor
 ·rintro (h|h)
  ·exact .zero h
  rw[List.mem_singleton.1 h];exact .step (.zero (List.mem_singleton.2 rfl)) (jO_.2 ⟨_,wq_,rfl⟩)
 intro h
 induction h with
 | zero h=>exact .inl h
 | step _ ht _=>exact .inr (List.mem_singleton.2 (yg_ ht).2)
theorem bld22 {ad:Option Addr} {m:Mdl} {e:Int} (h:wr_ (L22 ad) m e):e=0∧m.no=[[123,97,125],[66]]∧m.di=[ab_ [123,97,125] [114] [66]]∧Y_ [123,97,125] [65]∈m.ty∧uN_ m [123,97,125] [114] [66]=true∧MdV m:=by
 have I:e=0:=by
   rcases h with⟨h,_⟩|⟨_,_,⟨x,H,h⟩|h|⟨_,c,h⟩⟩
   · exact h
   · exact absurd (ye_ ad x H) h
   · rw[ud_]at h;exact absurd h qT_
   · rw[nx_]at h
     exact ((sX_ h sZ_ ze_ ze_ (r:=some F22) (by rw[sW_];exact wp_)).1 _ rfl).1
 subst I;obtain⟨c,h⟩:=h.bok rfl;have y:=h.fs;have v:=h.at';have d:=h.asm;have B:=h.mdV;rw[nx_,sW_]at y v;rw[nx_]at d;have A:c.facts=F22:=by have:=gy_.uniq y wp_;exact Option.some.inj this
 have E:=d.nd;rw[A,v]at E;have k:=E.uniq N22
 have q:m.di=[ab_ [123,97,125] [114] [66]]:=by
   refine Srt.ext d.di.1 zj_ fun z=>?_;rw[d.di.2,k,A,List.mem_singleton];constructor
   · rintro ⟨s,G,F⟩
     have C:((dv_ P22 F22).all fun e=>!decide (e.1∈[[123,97,125],[66]])||decide (e.2=ab_ [123,97,125] [114] [66]))=true:=by decide +kernel
     have:=List.all_eq_true.1 C _ F;simpa [G] using this
   · rintro rfl
     exact⟨_,by simp,wq_⟩
 refine⟨rfl,k,q,(d.ty.2 _).2 ⟨by rw[A];decide +kernel,rfl,by rw[k];simp[Y_]⟩,?_,B⟩;rw[ks_ ze_];refine kh_ (x:=ab_ [123,97,125] [114] [66]) (by rw[q];simp) (oJ_ rfl ?_);unfold qN_;rfl
theorem bld0 {m:Mdl} {e:Int} (h:wr_ [] m e):e=0∧m.no=[]:=by
 have B:e=0:=by
   rcases h with⟨h,_⟩|⟨_,_,⟨x,y,h⟩|h|⟨_,c,h⟩⟩
   · exact h
   · cases y
   · exact absurd h qT_
   · exact ((sX_ (p:=[]) h zac_ ze_ ze_ (r:=some _) (by rw[wi_];exact F0_is)).1 _ rfl).1
 subst B;obtain⟨c,h⟩:=h.bok rfl;refine⟨rfl,List.eq_nil_iff_forall_not_mem.2 fun s v=>?_⟩;have k:=(h.rch s).1 v
 have d:∀ t,¬ RchS (nxD (dv_ (cc_ 0 []) c.facts)) (ef_ (atS (cc_ 0 []))) t:=fun t q=>by
   have A:ef_ (atS (cc_ 0 []))=[]:=by rw[show cc_ 0 []=[] from rfl,wi_];decide +kernel
   rw[A]at q
   induction q with
   | zero h=>cases h
   | step _ _ ih=>exact ih
 exact d s k
theorem uy_:hN_ Tryz.prog 42 [(0,1),(1,1),(2,5),(7,5),(12,1),(13,1),(14,1),(15,1)] [.int .i64 0,.bool false,.int .i64 0,str [],.int .i64 0,.int .i64 0,.slice none 0 0,.int .i64 0,str [],.int .i64 0,.int .i64 0,.slice none 0 0,.slice none 0 0,str [],str [],str []]:=⟨_,cE_,cK_,fun w=>by simp[ak_,dN_,E_,bO_,I_]⟩
theorem kx_ (s:Str):Fn0 Tryz.prog 26 #[str s] (Con.val (Con.mk 3 s 0 0 none 0 [])):=by
  refine i_ Tryz.func26 rfl rfl Tryz.ntmps26 rfl fun m=>?_;refine Zz 2 ?_;refine G_ bT_ rfl fun q=>Zz 5 ?_
  refine e_ (H_ rh_ rfl rfl) rfl (u_ 0 I_ rfl rfl rfl rfl rfl rfl (Zz 3 ?_));exact gN_ () (fun d v e k=>ed_ (us:=Con.cells (Con.mk 3 s 0 0 none 0 [])) 0 Tryz.results26 aH_ I_ rfl rfl rfl d v e k) m_ (fun v _ h=>trivial)
theorem uI_:Tri Tryz.prog 7 #[] [] [cj_,ji_] (fun _:Unit=>.bool true) (fun _=>[]) (fun _=>[]):=by
 refine i_ Tryz.func7 rfl rfl Tryz.ntmps7 rfl fun v_1=>?_;refine be_ ?_;refine aG_ ?_;refine e_ (ay_ rfl) rfl ?_;refine bq_ ?_;refine aX_ rfl ?_;refine be_ ?_;refine aG_ ?_;refine g_ (kx_ [65]) rfl m_ zt rfl fun _=>?_;refine g_ (kx_ [66]) rfl m_ zt rfl fun _=>?_;refine U_ ad_ I_ bT_ rfl rfl rfl rfl rfl rfl fun T=>?_;refine cM_ (List.flatMap Con.cells [(Con.mk 3 [66] 0 0 none 0 [])]) d_ rfl ?_;refine e_ (H_ rh_ rfl rfl) rfl ?_;refine e_ (H_ uy_ rfl rfl) rfl ?_;refine g_ (kx_ [65]) rfl m_ zt rfl fun _=>?_;refine e_ (H_ uy_ rfl rfl) rfl ?_;refine U_ aU_ br_ cE_ rfl rfl rfl rfl rfl rfl fun b4=>?_;refine cM_ (List.flatMap Ax.cells [(Ax.mk 1 false (Con.mk 3 [65] 0 0 none 0 []) (Con.mk 6 [114] 0 0 (some ⟨T,0,none⟩) 1 [(Con.mk 3 [66] 0 0 none 0 [])]) none 0 [] [] [] []),(Ax.mk 8 false (Con.mk 0 [] 0 0 none 0 []) (Con.mk 3 [65] 0 0 none 0 []) none 0 [] [] [97] [])]) d_ rfl ?_;refine e_ (ay_ rfl) rfl ?_;refine bq_ ?_;refine aX_ rfl ?_;refine be_ ?_;refine aG_ ?_;refine e_ (al_ rfl) rfl ?_;refine g_ (pp_ [(Ax.mk 1 false (Con.mk 3 [65] 0 0 none 0 []) (Con.mk 6 [114] 0 0 (some ⟨T,0,none⟩) 1 [(Con.mk 3 [66] 0 0 none 0 [])]) none 0 [] [] [] []),(Ax.mk 8 false (Con.mk 0 [] 0 0 none 0 []) (Con.mk 3 [65] 0 0 none 0 []) none 0 [] [] [97] [])] (some ⟨b4,0,none⟩) 2 (L22_ok _) zj_) rfl m_ (fun v _ h=>by exact⟨⟨h.1,fun y hy=>by simp only[List.mem_cons,List.not_mem_nil,or_false]at hy;rcases hy with rfl|rfl;exact⟨⟨.inl rfl,trivial⟩,⟨h.2.1,⟨⟨.inl rfl,trivial⟩,trivial⟩⟩,(.inl rfl)⟩;exact⟨⟨.inl rfl,trivial⟩,⟨.inl rfl,trivial⟩,(.inl rfl)⟩⟩,h.2.2.1,h.2.2.2.1,trivial⟩) rfl fun⟨⟨d,e_1⟩,O,J⟩=>?_;dsimp only;dsimp only at O J;obtain⟨rfl,G,L,a3,V,a5⟩  :=bld22 (ad:=(some ⟨T,0,none⟩)) O;refine e_ (al_ rfl) rfl ?_;refine e_ (bF_ rfl rfl) rfl ?_;refine e_ (bF_ rfl rfl) rfl ?_;refine G_ je_ rfl fun b_3=>?_;refine u_ 0 bG_ rfl rfl rfl rfl rfl rfl ?_;refine e_ (ay_ rfl) rfl ?_;refine bq_ ?_;refine aX_ rfl ?_;refine be_ ?_;refine aG_ ?_;refine g_ (pp_ ([]:List Ax) none 0 (fun x hx=>by cases hx) ze_) rfl m_ (fun v _ h=>by exact⟨⟨.inl rfl,fun x hx=>by cases hx⟩,h.2.2.2.1,h.2.2.2.2.1,trivial⟩) rfl fun⟨⟨m_2,e_2⟩,P,a1⟩=>?_;dsimp only;dsimp only at P a1;obtain⟨rfl,W⟩:=bld0 P;refine e_ (al_ rfl) rfl ?_;refine e_ (bF_ rfl rfl) rfl ?_;refine e_ (bF_ rfl rfl) rfl ?_;refine G_ je_ rfl fun b_4=>?_;refine u_ 0 bG_ rfl rfl rfl rfl rfl rfl ?_;refine e_ (ay_ rfl) rfl ?_;refine bq_ ?_;refine aX_ rfl ?_;refine be_ ?_;have S:0<List.length (Mdl.no d):=by rw[G];decide
 obtain⟨a4,H⟩:∃ K,(Mdl.no d)[0]? = some K:=⟨_,List.getElem?_eq_getElem S⟩;have a8:a4∈(Mdl.no d):=List.mem_of_getElem? H;have a0:a4=[123,97,125]:=by rw[G]at H;simpa using H.symm
 have R:1<List.length (Mdl.no d):=by rw[G];decide
 obtain⟨X,F⟩:∃ K,(Mdl.no d)[1]? = some K:=⟨_,List.getElem?_eq_getElem R⟩;have b6:X∈(Mdl.no d):=List.mem_of_getElem? F;have a6:X=[66]:=by rw[G]at F;simpa using F.symm
 have U:0<List.length (Mdl.di d):=by rw[L];decide
 obtain⟨M,B⟩:∃ K,(Mdl.di d)[0]? = some K:=⟨_,List.getElem?_eq_getElem U⟩;have hmx_3:M∈(Mdl.di d):=List.mem_of_getElem? B;have Z:M=ab_ [123,97,125] [114] [66]:=by rw[L]at B;simpa using B.symm
 refine nQ_ zk ?_;refine J_ 58 [0,1,2,3,4,5,6,7,8] zk zs ?_;refine N_ rfl (al_ rfl) rfl ?_;refine N_ rfl (ar_ (bJ_ rfl rfl) (show _=Value.bool true from congrArg Value.bool ze_)) rfl ?_;refine N_ rfl (al_ rfl) rfl ?_;refine bu_ rfl rfl rfl (bR_ aT_ rfl rfl rfl bO_) rfl ?_;refine bu_ rfl rfl rfl (aE_ 1 lE_ rfl rfl rfl) rfl ?_;refine bu_ rfl rfl rfl (dy_ l_ rfl) rfl ?_;refine eh_ rfl rfl rfl (bJ_ rfl rfl) rfl fun b3 A=>?_;refine N_ rfl (cf_ rfl rfl) rfl ?_;refine N_ rfl (al_ rfl) rfl ?_;refine bv_ ?_;cases b3
 ·replace A:=znb A
  exact absurd (by rw[G];rfl) A
 replace A:=zeb A;refine J_ 51 [9,10,11,12,13,14,15] zk zs ?_;refine bu_ rfl rfl rfl (bR_ aT_ rfl rfl rfl bO_) rfl ?_;refine bu_ rfl rfl rfl (aE_ 1 lE_ rfl rfl rfl) rfl ?_;refine bu_ rfl rfl rfl (Q_ l_ E_ rfl rfl (fun v _ h=>as_ (n:=1) aq_ ze_ (by exact h.2.1.1) H) za_ zh_) rfl ?_;refine bu_ rfl rfl rfl (bl_ (ad:=(Mdl.noa d)) W_ rfl (fun v _ h=>by exact h.2.1.1) (o_ aq_ H 0 _ rfl)) rfl ?_;refine eh_ rfl rfl rfl (cT_ rfl rfl) rfl fun a9 E=>?_;refine N_ rfl (cf_ rfl rfl) rfl ?_;refine N_ rfl (al_ rfl) rfl ?_;refine bv_ ?_;cases a9
 ·replace E:=znb E
  exact absurd a0 E
 replace E:=zeb E;refine J_ 44 [16,17,18,19,20,21,22] zk zs ?_;refine bu_ rfl rfl rfl (bR_ aT_ rfl rfl rfl bO_) rfl ?_;refine bu_ rfl rfl rfl (aE_ 1 lE_ rfl rfl rfl) rfl ?_;refine bu_ rfl rfl rfl (Q_ l_ E_ rfl rfl (fun v _ h=>as_ (n:=1) aq_ ze_ (by exact h.2.1.1) F) za_ zh_) rfl ?_;refine bu_ rfl rfl rfl (bl_ (ad:=(Mdl.noa d)) W_ rfl (fun v _ h=>by exact h.2.1.1) (o_ aq_ F 0 _ rfl)) rfl ?_;refine eh_ rfl rfl rfl (cT_ rfl rfl) rfl fun b8 k=>?_;refine N_ rfl (cf_ rfl rfl) rfl ?_;refine N_ rfl (al_ rfl) rfl ?_;refine bv_ ?_;cases b8
 ·replace k:=znb k
  exact absurd a6 k
 replace k:=zeb k;refine J_ 38 [23,24,25,26,27,28] zk zs ?_;refine bu_ rfl rfl rfl (bR_ aT_ rfl rfl rfl ci_) rfl ?_;refine bu_ rfl rfl rfl (aE_ 1 Tryz.isAgg26 rfl rfl rfl) rfl ?_;refine bu_ rfl rfl rfl (dy_ w_ rfl) rfl ?_;refine eh_ rfl rfl rfl (bJ_ rfl rfl) rfl fun b7 I=>?_;refine N_ rfl (cf_ rfl rfl) rfl ?_;refine N_ rfl (al_ rfl) rfl ?_;refine bv_ ?_;cases b7
 ·replace I:=znb I
  exact absurd (by rw[L];rfl) I
 replace I:=zeb I;refine J_ 34 [29,30,31,32] zk zs ?_;refine bu_ rfl rfl rfl (bR_ aT_ rfl rfl rfl ci_) rfl ?_;refine bu_ rfl rfl rfl (aE_ 1 Tryz.isAgg26 rfl rfl rfl) rfl ?_;refine bu_ rfl rfl rfl (Q_ w_ y_ rfl rfl (fun v _ h=>as_ (n:=6) Fc.cells_len ze_ (by exact h.2.1.2.2.2.1) B) za_ zh_) rfl ?_;refine bu_ rfl rfl rfl (aj_ (ad:=(Mdl.dia d)) (us:=Fc.cells M) bp_ y_ rfl (fun v _ h=>by exact h.2.1.2.2.2.1) (Fc.cells_len _) (o_ Fc.cells_len B)) rfl ?_;refine bv_ ?_;refine s_ 33 rfl zk ?_;refine aR_ rfl rfl ?_;refine g_ (wU_ [123,97,125] [114] [66]) rfl m_ zt rfl fun _=>?_;refine bq_ ?_;refine fI_ rfl ?_;refine O_ zs ?_;refine J_ 30 [34,35,36] zk zs ?_;refine eh_ rfl rfl rfl (ew_ (p:=M) (q:=(ab_ [123,97,125] [114] [66])) rfl rfl) rfl fun a7 e=>?_;refine N_ rfl (cf_ rfl rfl) rfl ?_;refine N_ rfl (al_ rfl) rfl ?_;refine bv_ ?_;cases a7
 ·replace e:=zdf e
  exact absurd Z e
 replace e:=zdt e;refine J_ 29 [37] zk zs ?_;refine bu_ rfl rfl rfl (bD_ 1 ge_ bG_ rfl rfl rfl) rfl ?_;refine bv_ ?_;refine s_ 38 rfl zk ?_;refine aR_ rfl rfl ?_;refine T_ (rU_ d J [123,97,125] [65]) rfl m_ zf rfl fun b5 C=>?_;refine bq_ ?_;refine fI_ rfl ?_;refine O_ zs ?_;refine J_ 26 [39,40] zk zs ?_;refine N_ rfl (cf_ rfl rfl) rfl ?_;refine N_ rfl (al_ rfl) rfl ?_;refine bv_ ?_;cases b5
 ·replace C:=zdf C
  exact absurd a3 C
 replace C:=zdt C;refine J_ 25 [41] zk zs ?_;refine bu_ rfl rfl rfl (bD_ 1 ge_ bG_ rfl rfl rfl) rfl ?_;refine bv_ ?_;refine s_ 42 rfl zk ?_;refine aR_ rfl rfl ?_;refine T_ (st_ d J [123,97,125] [114] [66]) rfl m_ zf rfl fun b0 N=>?_;refine bq_ ?_;refine fI_ rfl ?_;refine O_ zs ?_;refine J_ 22 [43,44] zk zs ?_;refine N_ rfl (cf_ rfl rfl) rfl ?_;refine N_ rfl (al_ rfl) rfl ?_;refine bv_ ?_;cases b0
 ·rw[V]at N;cases N
 refine J_ 21 [45] zk zs ?_;refine bu_ rfl rfl rfl (bD_ 1 ge_ bG_ rfl rfl rfl) rfl ?_;refine bv_ ?_;refine s_ 46 rfl zk ?_;refine aR_ rfl rfl ?_;refine g_ (wf_ d J) rfl m_ zf rfl fun⟨b1,a2⟩=>?_;dsimp only;obtain rfl:b1=0:=a2.2.2 a5;refine bq_ ?_;refine fI_ rfl ?_;refine O_ zs ?_;refine J_ 7 [47,48,49,50,51,52,53,54,55,56,57,58,59] zk zs ?_;refine bu_ rfl rfl rfl (ar_ (bJ_ rfl rfl) (show _=Value.bool true from congrArg Value.bool ze_)) rfl ?_;refine N_ rfl (cf_ rfl rfl) rfl ?_;refine N_ rfl (al_ rfl) rfl ?_;refine bu_ rfl rfl rfl (al_ rfl) rfl ?_;refine bu_ rfl rfl rfl (ar_ (bJ_ rfl rfl) (show _=Value.bool true from congrArg Value.bool ze_)) rfl ?_;refine N_ rfl (cf_ rfl rfl) rfl ?_;refine N_ rfl (al_ rfl) rfl ?_;refine bu_ rfl rfl rfl (bR_ aT_ rfl rfl rfl bO_) rfl ?_;refine bu_ rfl rfl rfl (aE_ 0 lE_ rfl rfl rfl) rfl ?_;refine bu_ rfl rfl rfl (dy_ l_ rfl) rfl ?_;refine eh_ rfl rfl rfl (bJ_ rfl rfl) rfl fun b2 m=>?_;refine N_ rfl (cf_ rfl rfl) rfl ?_;refine N_ rfl (al_ rfl) rfl ?_;refine bv_ ?_;cases b2
 ·replace m:=znb m
  exact absurd (by rw[W];rfl) m
 replace m:=zeb m;refine s_ 60 rfl zk ?_;refine aR_ rfl rfl ?_;refine T_ (bM_ [65]) rfl m_ zt rfl fun b9 Y=>?_;refine bq_ ?_;refine fI_ rfl ?_;refine O_ zs ?_;refine J_ 4 [61,62] zk zs ?_;refine N_ rfl (cf_ rfl rfl) rfl ?_;refine N_ rfl (al_ rfl) rfl ?_;refine bv_ ?_;cases b9
 ·exact absurd Y ze_
 refine s_ 63 rfl zk ?_;refine aR_ rfl rfl ?_;refine T_ (bM_ [123,97,125]) rfl m_ zt rfl fun r_10 Q=>?_;refine bq_ ?_;refine fI_ rfl ?_;refine O_ zs ?_;refine J_ 0 [64,65,66] zk zs ?_;refine bu_ rfl rfl rfl (ax_ rfl) rfl ?_;refine N_ rfl (cf_ rfl rfl) rfl ?_;refine N_ rfl (ay_ rfl) rfl ?_;refine bv_ ?_;refine qY_ zk ?_;refine aX_ rfl ?_;refine iC_ ?_;exact ae_ Tryz.results7 () (n_ rfl (by rw[← Q];decide)) m_ zt
end Go.Proofs.YtpbnmnfdgckaiaaGreatDoor
namespace Go.Proofs.YtpbnmnfdgckaiaaGreatDoor
open Go Go.Sx Go.Proofs
attribute [local irreducible] Code.wp wpList wpAnyH
open Go.Vs Go.Shelf Go.RowKit
def R1 (m:Mdl) (i:Nat) (K:List Str):Prop:=(∀ x∈K,x∈m.no)∧∀ x∈m.no.take i,nls x=false→x∈K
end Go.Proofs.YtpbnmnfdgckaiaaGreatDoor
namespace Go.Proofs.YtpbnmnfdgckaiaaGreatDoor
open Go Go.Sx Go.Proofs
attribute [local irreducible] Code.wp wpList wpAnyH
open Go.Vs Go.Shelf Go.RowKit
theorem yh_.at {d:List Ax} {r t:Str} {T:List Str} (h:yh_ d r T) (e:t∈T):RchS (lat (gc_ d)) [r] t:=(h.2 t).1 e
set_option maxHeartbeats 1000000 in
theorem canonRoles_c (E:List Ax) (lad:Option Addr) (lcap:Nat) (Y:E.length≤lcap∧lcap≤2199023255488) (S:∀ x∈E,x.ok):Tri Tryz.prog 5 #[.slice lad (List.length E) lcap] [] [eg_ lad E,cj_,ji_] (fun _:Unit=>.bool true) (fun _=>[]) (fun _=>[]):=by
 refine i_ Tryz.func5 rfl rfl Tryz.ntmps5 rfl fun v_1=>?_;refine Zz 8 ?_;refine g_ (uI_) rfl m_ zf rfl fun _=>e_ (ax_ rfl) rfl (Zz 9 ?_)
 refine g_ (xE_ E lad lcap Y S) rfl m_ zf rfl fun⟨fb,b0⟩=>?_;dsimp only;refine e_ (ax_ rfl) rfl (Zz 2 ?_);cases fb
 ·refine Zz 7 ?_
  exact ae_ Tryz.results5 () rfl (.refl _) zt
 obtain⟨h_1,hfw⟩:=b0 rfl;refine Zz 6 ?_;refine g_ (pp_ E lad lcap S za_) rfl m_ zf rfl fun⟨⟨m,e⟩,hb,Q⟩=>?_;dsimp only;dsimp only at hb Q;have hnl:=Q.no;have hdl:=Q.di;have hrol:=Q.ro;refine Zz 3 ?_;refine G_ je_ rfl fun K=>u_ 0 bG_ rfl rfl rfl rfl rfl rfl (Zi 7 (fun Z=>?_) fun Z=>?_)
 ·obtain⟨c,hB⟩:=hb.bok zi_
  refine Zz 15 ?_;refine L_ (ι:={y:Nat // y≤List.length (Mdl.di m)}) (fun y=>[(0,.slice lad (List.length E) lcap),(2,.bool false),(3,zp_ K 0),(28,.slice (Mdl.dia m) (List.length (Mdl.di m)) (Mdl.dic m)),(29,.int .i64 (List.length (Mdl.di m):Int)),(30,.int .i64 (y.1:Int))]) (fun y=>((K,.cells #[.slice (Mdl.noa m) (List.length (Mdl.no m)) (Mdl.noc m),.slice (Mdl.tya m) (List.length (Mdl.ty m)) (Mdl.tyc m),.slice (Mdl.lia m) (List.length (Mdl.li m)) (Mdl.lic m),.slice (Mdl.dia m) (List.length (Mdl.di m)) (Mdl.dic m),.slice (Mdl.raa m) (List.length (Mdl.ra m)) (Mdl.rac m),.slice (Mdl.roa m) (List.length (Mdl.ro m)) (Mdl.roc m)] 28 (0,0))::[])) (fun y=>[mU_ m,eg_ lad E,cj_,ji_]) (fun y=>List.length (Mdl.di m) - y.1) ⟨(0:Nat),by simp⟩ zl d_ zh ?_;rintro ⟨i,a6⟩;dsimp only at a6 ⊢;refine Zi 2 (fun a2=>?_) fun a2=>?_
  ·refine Zz 16 ?_
   refine L_ (ι:={y:Nat // y≤List.length (Mdl.ro m)}) (fun y=>[(0,.slice lad (List.length E) lcap),(2,.bool false),(3,zp_ K 0),(28,.slice (Mdl.dia m) (List.length (Mdl.di m)) (Mdl.dic m)),(29,.int .i64 (List.length (Mdl.di m):Int)),(30,.int .i64 (i:Int)),(60,.slice (Mdl.roa m) (List.length (Mdl.ro m)) (Mdl.roc m)),(61,.int .i64 (List.length (Mdl.ro m):Int)),(62,.int .i64 (y.1:Int))]) (fun y=>((K,.cells #[.slice (Mdl.noa m) (List.length (Mdl.no m)) (Mdl.noc m),.slice (Mdl.tya m) (List.length (Mdl.ty m)) (Mdl.tyc m),.slice (Mdl.lia m) (List.length (Mdl.li m)) (Mdl.lic m),.slice (Mdl.dia m) (List.length (Mdl.di m)) (Mdl.dic m),.slice (Mdl.raa m) (List.length (Mdl.ra m)) (Mdl.rac m),.slice (Mdl.roa m) (List.length (Mdl.ro m)) (Mdl.roc m)] 28 (0,0))::[])) (fun y=>[mU_ m,eg_ lad E,cj_,ji_]) (fun y=>List.length (Mdl.ro m) - y.1) ⟨(0:Nat),by simp⟩ zl d_ zh ?_;rintro ⟨k,a0⟩;dsimp only at a0 ⊢;refine Zi 2 (fun L=>?_) fun L=>?_
   ·refine Zz 12 ?_
    exact ae_ Tryz.results5 () rfl (.refl _) zt
   obtain⟨F,d,C,B⟩:=zge (show k<List.length (Mdl.ro m) by omega);obtain⟨a1,X,⟨P,O⟩,M,N⟩:=(hB.inc.2 d).1 B;have I:aM_ d.a=true:=by rw[N];exact hB.plain P O
   refine Zz 10 ?_;refine e_ (Q_ w_ y_ rfl rfl (fun v _ h=>as_ (n:=6) Fc.cells_len ze_ (by exact h.1.2.2.2.2.2) C) za_ zh_) rfl ?_;refine e_ (aj_ (ad:=(Mdl.roa m)) (us:=Fc.cells d) bp_ y_ rfl (fun v _ h=>by exact h.1.2.2.2.2.2) (Fc.cells_len _) (o_ Fc.cells_len C)) rfl (G_ X_ rfl fun W=>u_ 0 y_ rfl rfl rfl rfl rfl rfl (Zz 7 ?_));refine g_ (ps_ E lad lcap S hB.chk za_ d.a I (by have:=gO_ I;omega)) rfl m_ zf rfl fun⟨⟨A,tbd,b2⟩,H,a4⟩=>?_;dsimp only;dsimp only at H a4;have U:=fT_ (oE_ H.1) (fun t ht=>(H.2 t).1 ht);have T:=gX_ E;refine Zz 10 ?_;refine e_ (ar_ (bU_ rfl rfl) (show _=Value.bool false from congrArg Value.bool ze_)) rfl (Zz 8 ?_);refine T_ (vi_ A tbd b2 d.b za_) rfl m_ zf rfl fun a9 q=>aR_ rfl rfl (e_ (ax_ rfl) rfl (Zz 3 ?_))
   cases a9
   ·replace q:=zdf q
    exact absurd ((H.2 _).2 (by rw[N];exact M)) q
   replace q:=zdt q;refine Zz 8 ?_;exact x_ ⟨k+1,F⟩ zb_ zl (c_ d_) (fun _ _ h=>h.2)
  obtain⟨F,d,C,B⟩:=zge (show i<List.length (Mdl.di m) by omega);obtain⟨N,P,O,_⟩:=hB.di_r B;have J:=hB.plain P O;refine Zz 10 ?_;refine e_ (Q_ w_ y_ rfl rfl (fun v _ h=>as_ (n:=6) Fc.cells_len ze_ (by exact h.1.2.2.2.1) C) za_ zh_) rfl ?_;refine e_ (aj_ (ad:=(Mdl.dia m)) (us:=Fc.cells d) bp_ y_ rfl (fun v _ h=>by exact h.1.2.2.2.1) (Fc.cells_len _) (o_ Fc.cells_len C)) rfl (G_ X_ rfl fun W=>u_ 0 y_ rfl rfl rfl rfl rfl rfl (Zz 7 ?_));refine g_ (ps_ E lad lcap S hB.chk za_ d.r J (by have:=gO_ J;omega)) rfl m_ zf rfl fun⟨⟨A,a5,b1⟩,G,a3⟩=>?_;dsimp only;dsimp only at G a3;have U:=fT_ (oE_ G.1) (fun t ht=>(G.2 t).1 ht);have T:=gX_ E;refine Zz 11 ?_;refine e_ (ar_ (bU_ rfl rfl) (show _=Value.bool false from congrArg Value.bool ze_)) rfl (Zz 13 ?_);refine L_ (ι:={y:Nat // y≤List.length A}) (fun y=>[(0,.slice lad (List.length E) lcap),(2,.bool false),(3,zp_ K 0),(28,.slice (Mdl.dia m) (List.length (Mdl.di m)) (Mdl.dic m)),(29,.int .i64 (List.length (Mdl.di m):Int)),(30,.int .i64 (i:Int)),(6,zp_ W 0),(43,.slice a5 (List.length A) b1),(44,.int .i64 (List.length A:Int)),(45,.int .i64 (y.1:Int))]) (fun y=>((W,.cells #[.int .i64 d.kind,str d.a,str d.b,str d.r,.int .i64 d.lo,.int .i64 d.hi] 36 (0,0))::((K,.cells #[.slice (Mdl.noa m) (List.length (Mdl.no m)) (Mdl.noc m),.slice (Mdl.tya m) (List.length (Mdl.ty m)) (Mdl.tyc m),.slice (Mdl.lia m) (List.length (Mdl.li m)) (Mdl.lic m),.slice (Mdl.dia m) (List.length (Mdl.di m)) (Mdl.dic m),.slice (Mdl.raa m) (List.length (Mdl.ra m)) (Mdl.rac m),.slice (Mdl.roa m) (List.length (Mdl.ro m)) (Mdl.roc m)] 28 (0,0))::[]))) (fun y=>[ah_ a5 (List.flatMap af_ A),mU_ m,eg_ lad E,cj_,ji_]) (fun y=>List.length A - y.1) ⟨(0:Nat),by simp⟩ zl zp zh ?_;rintro ⟨j,a7⟩;dsimp only at a7 ⊢;refine Zi 2 (fun L=>?_) fun L=>?_
  ·refine Zz 11 ?_
   exact x_ ⟨i+1,F⟩ zb_ zl zp (fun _ _ h=>h.2)
  have R:j<List.length A:=by omega
  obtain⟨X,M⟩:∃ a8,A[j]? = some a8:=⟨_,List.getElem?_eq_getElem R⟩;have V:X∈A:=List.mem_of_getElem? M;refine Zz 23 ?_;refine T_ (st_ m Q d.a X d.b) rfl m_ zf rfl fun a1 q=>e_ (ax_ rfl) rfl (Zz 2 ?_)
  cases a1
  ·rw[hB.role B ((G.2 _).1 V)]at q;cases q
  refine Zz 8 ?_;exact x_ ⟨j+1,R⟩ zb_ zl zp zh
 refine Zz 9 ?_;exact ae_ Tryz.results5 () rfl (.refl _) zt
end Go.Proofs.YtpbnmnfdgckaiaaGreatDoor
namespace Go.Proofs.YtpbnmnfdgckaiaaGreatDoor
open Go Go.Sx Go.Proofs
attribute [local irreducible] Code.wp wpList wpAnyH
open Go.Vs Go.ChangeShapes Go.WideShapes Go.ChangeAt Go.RowKit
theorem own:ownKnob Tryz.prog.godebug=none:=by kernel_rfl
def gs_ : List (String × DataW Unit) := [("math/bits.deBruijn32tab", Rows.laid_math_bits_deBruijn32tab), ("math/bits.deBruijn64tab", Rows.laid_math_bits_deBruijn64tab), ("internal/strconv.uint64pow10", Rows.laid_internal_strconv_uint64pow10), ("unicode/utf8.acceptRanges", Rows.laid_unicode_utf8_acceptRanges), ("veilstone/terms.needs", Rows.laid_veilstone_terms_needs), ("veilstone/terms.uses", Rows.laid_veilstone_terms_uses), ("veilstone/normal.uses", Rows.laid_veilstone_normal_uses), ("unicode/utf8.first", Rows.laid_unicode_utf8_first)]
theorem vp_:Kids Tryz.prog (·<Tryz.prog.types.size):=kids_rows zd_ zd_
theorem full:∀ t e,t<Tryz.prog.types.size→Tryz.prog.underlying t=some (.slice e)→0<Tryz.prog.cellsOf e:=slices_full_of _ zd_
theorem mT_:Tryz.prog.types.size=322:=by kernel_rfl
theorem tysX:Tys Tryz.prog 3 4 9 25 40 38 42 22 174 63 where
  i:=p_
  b:=Tryz.underlying4
  s:=aF_
  ss:=ib_
  c:=⟨_,Tryz.underlying40,rfl⟩
  cs:=Tryz.underlying38
  a:=⟨_,Tryz.underlying42,rfl⟩
  axs:=Tryz.underlying22
  p:=⟨_,eW_,rfl⟩
  ps:=Tryz.underlying63
  ci:=by kernel_rfl
  cb:=by kernel_rfl
  cs1:=by kernel_rfl
  css:=by kernel_rfl
  cc:=by kernel_rfl
  ccs:=by kernel_rfl
  ca:=by kernel_rfl
  cp:=by kernel_rfl
  bs:=by kernel_rfl
  bc:=by kernel_rfl
  ba:=by kernel_rfl
  bp:=by kernel_rfl
theorem lz_ {W:World} (h:laidMetH Tryz.prog gs_ W):∃ T fz,W.heap[1]? = some (.cells (fa_ (H:=Unit) Rows.laid_veilstone_terms_needs).toArray T fz):=by
  rw[MakeChecks.laidMetH_plain _ _ _ zk]at h;exact jF_ vp_ (name := "veilstone/terms.needs") h (by simp [gs_]) (g := 1) (t := 201) zk zk (by rw [mT_]; decide) (m := 4) zk
theorem mn_ {W:World} (h:laidMetH Tryz.prog gs_ W):∃ T fz,W.heap[0]? = some (.cells (fa_ (H:=Unit) Rows.laid_veilstone_terms_uses).toArray T fz):=by
  rw[MakeChecks.laidMetH_plain _ _ _ zk]at h;exact jF_ vp_ (name := "veilstone/terms.uses") h (by simp [gs_]) (g := 0) (t := 96) zk zk (by rw [mT_]; decide) (m := 4) zk
theorem lA_ {W:World} (h:laidMetH Tryz.prog gs_ W):∃ T fz,W.heap[2]? = some (.cells (fa_ (H:=Unit) Rows.laid_veilstone_normal_uses).toArray T fz):=by
  rw[MakeChecks.laidMetH_plain _ _ _ zk]at h;exact jF_ vp_ (name := "veilstone/normal.uses") h (by simp [gs_]) (g := 2) (t := 205) zk zk (by rw [mT_]; decide) (m := 4) zk
theorem gH_ {W:World} (h:laidMetH Tryz.prog gs_ W):∃ T fz,W.heap[6]? = some (.cells (fa_ (H:=Unit) Rows.laid_internal_strconv_uint64pow10).toArray T fz):=by
  rw[MakeChecks.laidMetH_plain _ _ _ zk]at h;exact jF_ vp_ (name := "internal/strconv.uint64pow10") h (by simp [gs_]) (g := 6) (t := 305) zk zk (by rw [mT_]; decide) (m := 4) zk
theorem oI_ {W:World} {g:Nat} {l:List Value} {d:List Value} (h:∃ T fz,W.heap[g]? = some (.cells l.toArray T fz)) (e:l=d):bA_ (vw W) (some ⟨g,0,none⟩) d:=by
  obtain⟨T,fz,h⟩:=h;subst e;exact .inr ⟨g,0,_,T,fz,rfl,(Array.getElem?_eq_some_iff.1 h).1,h,fun j x k=>by rw[Nat.zero_add];simpa using k⟩
theorem wz_ {W:World} (h:laidMetH Tryz.prog gs_ W):cj_.p (vw W):=by
  refine⟨oI_ (lz_ h) zk,oI_ (mn_ h) zk,trivial,?_⟩;obtain⟨T,fz,d⟩:=gH_ h;refine⟨trivial,(Array.getElem?_eq_some_iff.1 d).1,T,fz,?_⟩;rw[show (Lib.pow10Tab.map fun z=>Value.int .u64 z)=fa_ (H:=Unit) Rows.laid_internal_strconv_uint64pow10 by kernel_rfl];exact d
theorem wA_ {W:World} (h:laidMetH Tryz.prog gs_ W):ji_.p (vw W):=oI_ (lA_ h) zd_
end Go.Proofs.YtpbnmnfdgckaiaaGreatDoor
