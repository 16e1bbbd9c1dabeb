/-
  Part of the proof of the law CanonReaches over this seat: the small logic, the data, the contracts of functions (no condition).
-/
import Derived.Test.YtpbnmnfdgckaiaaGreatDoorQCanonReaches13
import Derived.Test.YtpbnmnfdgckaiaaGreatDoorQCanonReaches8
import Derived.Test.YtpbnmnfdgckaiaaGreatDoorQCanonReaches10
import Derived.Test.YtpbnmnfdgckaiaaGreatDoorQCanonReaches6
import Derived.Test.YtpbnmnfdgckaiaaGreatDoorQCanonReaches12
import Derived.Test.YtpbnmnfdgckaiaaGreatDoorQCanonReaches11
set_option linter.unusedVariables false
set_option linter.unusedSimpArgs false
set_option linter.unusedSectionVars false
set_option maxHeartbeats 1000000
namespace Go.Proofs.YtpbnmnfdgckaiaaGreatDoor
open Go Go.Sx Go.Proofs
attribute [local irreducible] Code.wp wpList wpAnyH
open Go.Vs
structure SL where
  l:List Str
  ad:Option Addr
  cap:Nat
def SL.cells (x:SL):List Value:=[.slice x.ad x.l.length x.cap]
theorem SL.cells_len (x:SL):x.cells.length=1:=rfl
structure SL.ok (x:SL):Prop where
  le:x.l.length≤x.cap
  nz:x.ad=none→x.cap=0
  sh:x.l.length≤100000
def slF (xs:List SL):Fct where
  p v:=∀ x∈xs,bx_ v x.ad (List.flatMap ag_ x.l)
  mono:=fun v v' h hp x hx=>(ah_ x.ad (List.flatMap ag_ x.l)).mono v v' h (hp x hx)
def hQ_ (xs:List SL):List Str:=List.flatMap SL.l xs
theorem rY_ {d:List SL} {i:Nat} {x:SL} (h:d[i]? = some x):hQ_ (d.take (i+1))=hQ_ (d.take i)++x.l:=by unfold hQ_;rw[List.take_add_one,h];simp
theorem tX_ {d:List SL} (h:∀ x∈d,x.ok) (i:Nat):(hQ_ (d.take i)).length≤min i d.length*100000:=by
  have:=zm_ (g:=SL.l) (n:=100000) (d.take i) fun x e=>(h x (List.mem_of_mem_take e)).sh
  rwa [List.length_take]at this
theorem yv_ (n:Nat) (v:n≤1000000000):Tri Tryz.prog 176 #[.slice none 0 0,.int .i64 (n:Int)] [] [] (fun y:{y:Value×Hp // ay_ 9 1 y.1 0 [] y.2}=>y.1.1) (fun y=>y.1.2) (fun _=>[]):=by
 refine i_ Tryz.func176 rfl rfl Tryz.ntmps176 rfl fun q=>?_;refine Zi 9 (fun e=>?_) fun e=>?_
 ·refine Zz 10 ?_
  refine e_ (qe_ l_ rfl) rfl (Zz 3 ?_);refine e_ (ar_ (bc_ rfl rfl rfl (cm_ zs_ zs_)) (show Value.int .i64 ((n:Int) - (0 - 0))=Value.int .i64 (n:Int) from congrArg _ zs_)) rfl (Zi 6 (fun d=>?_) fun d=>?_)
  ·refine Zz 12 ?_
   exact ae_ Tryz.results176 ⟨(.slice none 0 0,[]),ay_.nil _ _⟩ rfl m_ zt
  refine Zz 6 ?_;refine e_ (qe_ l_ rfl) rfl (e_ (ar_ (dI_ (i:=0) (j:=0) (kl:=.i64) (kh:=.i64) l_ E_ rfl rfl rfl zs_ zs_) (show _=Value.slice none 0 0 from rfl)) rfl (Zz 1 ?_));refine qN_ (n:=n) cE_ p_ rfl rfl zs_ zs_ zE_ rfl fun h k m=>?_;refine Zz 2 ?_;refine e_ (ar_ (dI_ (i:=0) (j:=0) (kl:=.i64) (kh:=.i64) l_ E_ rfl rfl rfl zs_ zs_) (show _=Value.slice (some ⟨k,0,none⟩) 0 h.1 by simp[qs_])) rfl (Zz 10 ?_);exact ae_ Tryz.results176 ⟨(.slice (some ⟨k,0,none⟩) 0 h.1,[(k,.cells h.2 9 (0,0))]),tU_ m.2.1 m.2.2⟩ rfl d_ zt
 exfalso;omega
theorem uI_ (e:List SL) (q:Option Addr) (B:Nat) (A:∀ x∈e,x.ok) (hl:e.length≤100):Tri Tryz.prog 139 #[.slice q (List.length e) B] [] [ah_ q (List.flatMap SL.cells e),slF e] (fun y:{y:Option Addr×Nat // ((hQ_ e)).length≤y.2∧y.2≤maxLen∧(y.1=none→y.2=0)}=>.slice y.1.1 ((hQ_ e)).length y.1.2) (fun _=>[]) (fun y=>[ah_ y.1.1 (((hQ_ e)).flatMap ag_)]):=by
 refine i_ Tryz.func139 rfl rfl Tryz.ntmps139 rfl fun X=>?_;refine Zz 19 ?_;refine M_ (ι:={y:Nat×Nat // y.1≤List.length e∧y.2≤y.1*100000}) (fun y=>[(0,.slice q (List.length e) B),(3,.int .i64 (y.1.2:Int)),(9,.slice q (List.length e) B),(10,.int .i64 (List.length e:Int)),(11,.int .i64 (y.1.1:Int))]) (fun y=>([])) (fun y=>[ah_ q (List.flatMap SL.cells e),slF e]) (fun y=>List.length e - y.1.1) ⟨((0:Nat),(0:Nat)),by simp,by simp⟩ zl m_ zh ?_;rintro ⟨⟨i,w⟩,hi,Y⟩;dsimp only at hi Y ⊢;refine Zi 2 (fun G=>?_) fun G=>?_
 ·refine Zz 9 ?_
  refine g_ (yv_ w zs_) rfl m_ zt rfl fun⟨⟨F,K⟩,L⟩=>?_;dsimp only;dsimp only at L;refine y_ dS_ ?_;have S:ay_ 9 1 F (List.length (hQ_ (List.take 0 e))) (List.flatMap ag_ (hQ_ (List.take 0 e))) K:=by exact L
  refine Zz 12 ?_;refine M_ (ι:={y:Nat×Value×Hp // y.1≤List.length e∧zR 9 1 ag_ y.2.1 (hQ_ (List.take y.1 e)) y.2.2}) (fun y=>[(0,.slice q (List.length e) B),(6,y.1.2.1),(25,.slice q (List.length e) B),(26,.int .i64 (List.length e:Int)),(27,.int .i64 (y.1.1:Int))]) (fun y=>(y.1.2.2)) (fun y=>[ah_ q (List.flatMap SL.cells e),slF e]) (fun y=>List.length e - y.1.1) ⟨((0:Nat),F,K),by simp,S⟩ zl ac_ zh ?_;rintro ⟨⟨j,V,W⟩,hj,m⟩;dsimp only at hj m ⊢;have a0:=tX_ A j;refine Zi 2 (fun E=>?_) fun E=>?_
  ·rw[List.take_of_length_le zs_]at m
   refine Zz 13 ?_;refine bl_ m ac_ fun P U O H I J=>?_;exact ae_ Tryz.results139 ⟨(P,U),H,I,J⟩ (fM_ rfl O) m_ zf
  obtain⟨C,k,M,d⟩:=zge (show j<List.length e by omega);have N:=(A k d).sh;refine Zz 18 ?_;refine fx_ (news:=List.flatMap ag_ (SL.l k)) cE_ m rfl rfl (A k d).nz (A k d).le ac_ (by rw[dv_ ag_ 1 aq_]) (fun v _ h=>by exact (h.2.1 k d)) (fun u Z=>aA_ cj_ Z) (by simp only[maxLen];(have:=(A k d).sh;omega)) (by (have:=(A k d).sh;omega)) rfl fun T Q G=>?_;refine y_ List.perm_append_comm ?_;have R:=zsa G;refine Zz 8 ?_;exact w_ ⟨(j+1,T,Q),C,(by rw[rY_ M];exact R)⟩ zt_ zl ac_ zh
 obtain⟨C,k,M,d⟩:=zge (show i<List.length e by omega);have N:=(A k d).sh;refine Zi 27 (fun E=>?_) fun E=>?_
 ·refine Zz 10 ?_
  exact w_ ⟨(i+1,w+List.length (SL.l k)),C,by have:=(A k d).sh;dsimp only;omega⟩ zt_ ⟨rfl,(cf_ rfl (by push_cast;rfl)),rfl,rfl,rfl,trivial⟩ m_ zh
 exfalso;omega
theorem sl_two {a b:SL} (e:a.ok) (h:b.ok):∀ x∈[a,b],x.ok:=fun x d=>by
 simp only[List.mem_cons,List.not_mem_nil,or_false]at d;rcases d with rfl|rfl
 ·exact e
 exact h
theorem xE_ {a b:SL} {v:Vw} (e:bx_ v a.ad (List.flatMap ag_ a.l)) (h:bx_ v b.ad (List.flatMap ag_ b.l)):(slF [a,b]).p v:=fun x d=>by
 simp only[List.mem_cons,List.not_mem_nil,or_false]at d;rcases d with rfl|rfl
 ·exact e
 exact h
theorem xP_ (I:List Str) (e:Option Addr) (d:Nat) (a9:rkS (I,e,d)) (hIn:I.Nodup) (hIl:I.length≤40000) (sb:Nat) (D:List (Str×Fc)) (adr:Str→Option Addr×Nat) (hD:D.length≤1000000000) (T:List Str) (hT:∀ s,∀ t∈nxD D s,t∈T) (hTl:T.length≤20000):Tri Tryz.prog 84 #[.slice e (List.length I) d,.map (some sb)] [] [mlF Tryz.prog 9 str Fc.cells sb D adr,ah_ e (List.flatMap ag_ I)] (fun y:{y:List Str×Option Addr×Nat // oh_ D I y.1∧rkS y}=>.slice y.1.2.1 y.1.1.length y.1.2.2) (fun _=>[]) (fun y=>[ah_ y.1.2.1 (y.1.1.flatMap ag_)]):=by
 refine i_ Tryz.func84 rfl rfl Tryz.ntmps84 rfl fun v_1=>?_;refine Zz 5 ?_;refine kI_ (Zz 3 ?_);refine g_ (nR_ I e d a9.1 zs_) rfl m_ zf rfl fun⟨⟨svc,Hcl⟩,b0⟩=>?_;dsimp only;dsimp only at b0;simp only[List.append_nil];refine Zz 5 ?_;refine aY_ rfl fun L=>Zz 7 ?_
 refine e_ (dJ_ b0 l_ rfl) rfl (Zz 4 ?_);refine M_ (ι:={y:Nat×StM×Value×Hp // y.1≤List.length I∧(∀ n,n∈y.2.1.ks↔n∈List.take y.1 I)∧zR 9 1 ag_ y.2.2.1 I y.2.2.2}) (fun y=>[(0,.slice e (List.length I) d),(1,.map (some sb)),(4,.slice none 0 0),(5,y.1.2.2.1),(6,.map (some L)),(16,y.1.2.2.1),(17,.int .i64 (List.length I:Int)),(18,.int .i64 (y.1.1:Int))]) (fun y=>((L,.map y.1.2.1.es y.1.2.1.c)::y.1.2.2.2)) (fun y=>[mlF Tryz.prog 9 str Fc.cells sb D adr,ah_ e (List.flatMap ag_ I)]) (fun y=>List.length I - y.1.1) ⟨((0:Nat),StM.nil,svc,Hcl),by simp,(by intro n;simp[StM.nil]),b0⟩ zl zp zh ?_;rintro ⟨⟨i,s,X,a0⟩,hi_i,hs,G⟩;dsimp only at hi_i hs G ⊢;refine Zi 2 (fun Y=>?_) fun Y=>?_
 ·refine Zz 12 ?_
  refine kK_ (Zz 3 ?_);have hq_1:ORow 9 1 X (List.length I) (List.flatMap ag_ I) a0:=ORow.row G;have E:∀ n,n∈s.ks↔n∈I:=by rw[List.take_of_length_le zs_]at hs;exact hs
  refine y_ (H':=((L,.map s.es s.c)::(a0++([]:Hp)))) zB_ ?_;refine M_ (ι:={y:StM×List Str×Value×Hp×List Str×Value×Hp // CI (nxD D) I y.1.ks y.2.1∧ORow 9 1 y.2.2.1 (List.length y.2.1) (List.flatMap ag_ y.2.1) y.2.2.2.1∧List.length y.2.1≤List.length y.1.ks∧NmI I y.1.ks y.2.2.2.2.1∧zR 9 1 ag_ y.2.2.2.2.2.1 y.2.2.2.2.1 y.2.2.2.2.2.2}) (fun y=>[(0,.slice e (List.length I) d),(1,.map (some sb)),(4,.slice none 0 0),(5,y.1.2.2.1),(6,.map (some L)),(9,y.1.2.2.2.2.2.1)]) (fun y=>((L,.map y.1.1.es y.1.1.c)::(y.1.2.2.2.1++y.1.2.2.2.2.2.2))) (fun y=>[mlF Tryz.prog 9 str Fc.cells sb D adr,ah_ e (List.flatMap ag_ I)]) (fun y=>(List.length I+List.length T) - List.length y.1.1.ks+List.length y.1.2.1) ⟨(s,I,X,a0,([]:List Str),(.slice none 0 0),([]:Hp)),CI.init E,hq_1,by have:=cS_ hIn (m:=s.ks) fun x hx=>(E x).2 hx;exact this,NmI.init E,(ay_.nil 9 1)⟩ zl (j_ d_ (z_ t_ ac_)) zh ?_;rintro ⟨⟨s,W,svW,HW,N,K,a1⟩,hC,hW,b2,hN,B⟩;dsimp only at hC hW b2 hN B ⊢;have hsl:=kc_ hT s.hE.nd hC.rch;have hNl:=hN.len;refine Zz 5 ?_;refine e_ (qb_ hW l_ rfl) rfl ?_;refine Zi 0 (fun hr_2=>?_) fun hr_2=>?_
  ·obtain⟨k,W,rfl⟩:∃ k b3,W=k::b3:=by cases W with|nil=>simp at*| cons k b3=>exact⟨k,b3,rfl⟩
   refine Zz 8 ?_;refine e_ (sW_ hW l_ E_ rfl rfl zw_ zam_) rfl ?_;refine e_ (qc_ (k:=(0:Int).toNat*1) hW zp W_ rfl rfl) rfl (Zz 6 ?_);refine qM_ (i:=1) (kl:=.i64) hW l_ E_ rfl rfl zam_ rfl fun a4 ho_1=>?_;have hW_1:ORow 9 1 a4 (List.length W) (List.flatMap ag_ W) HW:=by simpa [ag_] using ho_1
   have hJ_1:=hC.pop;have hlk:=dB_ D k;refine Zz 7 ?_;refine e_ (bD_ (k:=k) (adr:=adr) bi_ jl_ dV_ rfl rfl zf) rfl (Zz 5 ?_);refine M_ (ι:={y:Nat×StM×List Str×Value×Hp×List Str×Value×Hp // y.1≤List.length (lat D k)∧CJ (nxD D) I k y.1 y.2.1.ks y.2.2.1∧ORow 9 1 y.2.2.2.1 (List.length y.2.2.1) (List.flatMap ag_ y.2.2.1) y.2.2.2.2.1∧List.length y.2.1.ks+List.length W=List.length s.ks+List.length y.2.2.1∧NmI I y.2.1.ks y.2.2.2.2.2.1∧zR 9 1 ag_ y.2.2.2.2.2.2.1 y.2.2.2.2.2.1 y.2.2.2.2.2.2.2}) (fun y=>[(0,.slice e (List.length I) d),(1,.map (some sb)),(4,.slice none 0 0),(5,y.1.2.2.2.1),(6,.map (some L)),(9,y.1.2.2.2.2.2.2.1),(35,.slice (Prod.fst (adr k)) (List.length (lat D k)) (Prod.snd (adr k))),(36,.int .i64 (List.length (lat D k):Int)),(37,.int .i64 (y.1.1:Int))]) (fun y=>((L,.map y.1.2.1.es y.1.2.1.c)::(y.1.2.2.2.2.1++y.1.2.2.2.2.2.2.2))) (fun y=>[mlF Tryz.prog 9 str Fc.cells sb D adr,ah_ e (List.flatMap ag_ I)]) (fun y=>List.length (lat D k) - y.1.1) ⟨((0:Nat),s,W,a4,HW,N,K,a1),by simp,hJ_1,hW_1,rfl,hN,B⟩ zl zp zh ?_;rintro ⟨⟨j,C,Q,V,a3,b1,K,a1⟩,hi_j,hJ,O,hcn,J,B⟩;dsimp only at hi_j hJ O hcn J B ⊢;have hsl_1:=kc_ hT C.hE.nd hJ.rch;have hwk_1:List.length W+1≤List.length s.ks:=by simpa using b2
   have hNl_1:=J.len;refine Zi 2 (fun hr_3=>?_) fun hr_3=>?_
   ·refine Zz 6 ?_
    exact w_ ⟨(C,Q,V,a3,b1,K,a1),hJ.done (by rw[nxD,List.length_map];omega),O,by dsimp only;simp only[List.length_cons]at b2;omega,J,B⟩ (by dsimp only;have:=kc_ hT C.hE.nd hJ.rch;simp only[List.length_cons]at *;omega) zl (j_ d_ (z_ t_ ac_)) zh
   have M:j<List.length (lat D k):=by omega
   obtain⟨A,H⟩:∃ a6,(lat D k)[j]? = some a6:=⟨_,List.getElem?_eq_getElem M⟩;have hmf_1:A∈(lat D k):=List.mem_of_getElem? H;refine Zz 10 ?_;refine e_ (S_ x_ A_ rfl rfl (fun v _ h=>au_ (n:=6) Fc.cells_len zw_ (by exact (aV_ h.1 k)) H) zs_ zz_) rfl ?_;refine e_ (aj_ (ad:=(Prod.fst (adr k))) (us:=Fc.cells A) bB_ A_ rfl (fun v _ h=>by exact (aV_ h.1 k)) (Fc.cells_len _) (o_ Fc.cells_len H)) rfl (G_ Y_ rfl fun b_2=>u_ 0 A_ rfl rfl rfl rfl rfl rfl (Zz 7 ?_));refine B_ (ar_ (bg_ (k:=A.b) (q:=C.ks) bi_ H_ as_ rfl rfl C.hE (fun v h _=>(h.own _ (List.mem_of_getElem? (i:=1) rfl)).1)) (show _=Value.bool (decide (A.b∈C.ks)) from congrArg Value.bool (decide_eq_decide.2 Iff.rfl))) rfl fun r_1 F=>e_ (aw_ rfl) rfl (Zz 2 ?_)
   cases r_1
   ·replace F:=zdf F
    have hfk:=F;refine Zz 6 ?_;refine di_ 1 C bi_ (.inr rfl) H_ rfl rfl rfl rfl (Zz 7 ?_);refine U_ l_ E_ ax_ rfl rfl rfl rfl rfl rfl fun b_3=>?_;refine cQ_ (List.flatMap ag_ [A.b]) d_ rfl ?_;refine lL_ (n:=List.length Q) (m:=List.length [A.b]) (news:=List.flatMap ag_ [A.b]) cE_ O rfl rfl zB_ zB_ (c_ (c_ t_)) rfl zf (fun u hu=>aA_ cj_ hu) zaN_ zP_ rfl fun R a2 U=>?_;have hr1q:ORow 9 1 R (List.length (Q++[A.b])) (List.flatMap ag_ (Q++[A.b])) a2:=by rw[List.length_append,List.flatMap_append];exact U
    refine Zz 3 ?_;refine y_ (R_ (f_ d_) (bb_ (f_ d_))) (Zz 4 ?_);refine U_ l_ E_ ax_ rfl rfl rfl rfl rfl rfl fun b_4=>?_;refine an_ (news:=List.flatMap ag_ [A.b]) cE_ B rfl rfl zp rfl (aO_ 0 rfl) (fun u hu=>aA_ cj_ hu) zu_ zx_ rfl fun sv_2 Hr_1 Y=>?_;have U:=zsa Y;refine Zz 3 ?_;refine y_ (R_ (f_ d_) (R_ (f_ d_) (bb_ (f_ d_)))) (Zz 5 ?_);exact w_ ⟨(j+1,(StM.add C A.b),(Q++[A.b]),R,a2,(b1++[A.b]),sv_2,Hr_1),M,hJ.take (vU_ H) fun n=>StM.mem,hr1q,(by rw[pk_ (by simpa using hfk),List.length_append,List.length_append];simp only[List.length_cons,List.length_nil];omega),J.take (by simpa using hfk) fun n=>StM.mem,U⟩ zt_ zl zp (fun _ _ h=>h.2)
   replace F:=zdt F;refine Zz 8 ?_;exact w_ ⟨(j+1,C,Q,V,a3,b1,K,a1),M,hJ.skip (vU_ H) (by simpa using F),O,hcn,J,B⟩ zt_ zl (j_ (c_ d_) (z_ (c_ t_) C_)) zh
  refine Zz 8 ?_;refine g_ (mo_ B zs_) rfl zp zt rfl fun⟨HsN,hsn⟩=>?_;dsimp only;have hsN:ay_ 9 1 K (List.length (aS_ N)) (List.flatMap ag_ (aS_ N)) HsN:=by rw[List.length_mergeSort];exact hsn
  refine Zz 2 ?_;refine y_ (bb_ (f_ d_)) (be_ ?_);obtain rfl:W=[]:=List.eq_nil_of_length_eq_zero zs_;refine bl_ hsN (c_ t_) fun Z P hnad a7 hmnad a8=>?_;subst hnad;have a5:∀ x∈[(SL.mk I e d),(SL.mk (aS_ N) Z P)],x.ok:=sl_two ⟨a9.1,a9.2.2,by dsimp only;omega⟩ ⟨a7,a8,by dsimp only;rw[List.length_mergeSort];omega⟩;refine Zz 3 ?_;refine U_ cu_ bP_ bk_ rfl rfl rfl rfl rfl rfl fun b_2=>?_;refine cQ_ (List.flatMap SL.cells [(SL.mk I e d),(SL.mk (aS_ N) Z P)]) d_ rfl ?_;refine g_ (uI_ [(SL.mk I e d),(SL.mk (aS_ N) Z P)] (some ⟨b_2,0,none⟩) 2 a5 zB_) rfl m_ (fun v _ h=>by exact⟨h.1,xE_ h.2.2.2.1 h.2.1,trivial⟩) rfl fun⟨⟨ad_1,cp_1⟩,hc_1,hc_2,hc_3⟩=>?_;dsimp only;refine Zz 4 ?_;exact ae_ Tryz.results84 ⟨((hQ_ [(SL.mk I e d),(SL.mk (aS_ N) Z P)]),ad_1,cp_1),⟨N,hN.nd,by simp[hQ_],hN.dj,fun t=>by rw[← hN.mem];exact hC.fine t⟩,hc_1,hc_2,hc_3⟩ rfl m_ zf
 have S:i<List.length I:=by omega
 obtain⟨C,E⟩:∃ a6,I[i]? = some a6:=⟨_,List.getElem?_eq_getElem S⟩;have hms_1:C∈I:=List.mem_of_getElem? E;refine Zz 10 ?_;refine e_ (bF_ G l_ E_ rfl rfl zs_ zs_) rfl (e_ (cF_ G C_ W_ rfl (o_ aq_ E 0 _ rfl)) rfl (Zz 6 ?_));refine di_ 0 s bi_ (.inr rfl) H_ rfl rfl rfl rfl (Zz 7 ?_);exact w_ ⟨(i+1,(StM.add s C),X,a0),S,(by intro n;rw[StM.mem,hs n,tk1 E];simp),G⟩ zt_ zl zp zh
end Go.Proofs.YtpbnmnfdgckaiaaGreatDoor
namespace Go.Proofs.YtpbnmnfdgckaiaaGreatDoor
open Go Go.Sx Go.Proofs
attribute [local irreducible] Code.wp wpList wpAnyH
open Go.Vs Go.Shelf Go.RowKit
theorem yC_ {l:List Fc}:∀ {x z:Fc},z∈x::cpG (fun x w=>decide (x=w)) x l↔z∈x::l:=by
 induction l with
 | nil=>intro x z;simp[cpG]
 | cons y l ih =>
   intro x z;unfold cpG
   split
   · rename_i h
     have h:=of_decide_eq_true h;subst h;rw[ih];simp
   · have d:=ih (x:=y) (z:=z)
     simp only[List.mem_cons]at d ⊢;rw[d]
theorem yB_ {l:List Fc}:∀ {x:Fc},(x::l).Pairwise (fun x y=>¬ y.lt x)→Srt (x::cpG (fun x w=>decide (x=w)) x l):=by
 induction l with
 | nil=>intro x _;unfold Srt;simp[cpG]
 | cons y l ih =>
   intro x h;have d:=List.pairwise_cons.1 h;unfold cpG
   split
   · rename_i e
     have e:=of_decide_eq_true e;subst e;exact ih d.2
   · rename_i e
     have e:y≠x:=fun q=>e (decide_eq_true q)
     have k:=ih d.2
     have m:x.lt y:=by
       rcases Fc.lt_tri x y with q|q|q
       · exact q
       · exact absurd q.symm e
       · exact absurd q (d.1 y zB_)
     refine List.pairwise_cons.2 ⟨fun z v=>?_,k⟩;rcases List.mem_cons.1 v with rfl|v
     · exact m
     · exact Fc.lt_trans m ((List.pairwise_cons.1 k).1 z v)
theorem io_ {d:List Fc} {z:Fc}:z∈hr_ d↔z∈d:=by
  rw[← qp_ d z];unfold hr_ cpL;cases eU_ d with
  | nil=>simp
  | cons x l=>exact yC_
theorem in_ (k:List Fc):Srt (hr_ k):=by
 have h:(eU_ k).Pairwise fun x y=>(!(ltOf hK_) y x)=true:=List.pairwise_mergeSort
   (fun a b c h d=>by simp only[Bool.not_eq_true']at *;exact xs_.ntrans c b a d h)
   (fun a b=>by
     simp only[Bool.or_eq_true,Bool.not_eq_true'];rw[ltF,ltF,decide_eq_false_iff_not,decide_eq_false_iff_not];rcases Fc.lt_tri a b with g|g|g
     · exact .inl fun q=>Fc.lt_irr a (Fc.lt_trans g q)
     · subst g;exact .inl a.lt_irr
     · exact .inr fun q=>Fc.lt_irr a (Fc.lt_trans q g)) k
 have d:(eU_ k).Pairwise fun x y=>¬ y.lt x:=h.imp fun {a b} q=>by rw[Bool.not_eq_true',ltF,decide_eq_false_iff_not]at q;exact q
 unfold hr_ cpL;cases e:eU_ k with
 | nil=>unfold Srt;simp
 | cons x l=>rw[e]at d;exact yB_ d
def rkF (r:List Fc×Option Addr×Nat):Prop:=r.1.length≤r.2.2∧r.2.2≤maxLen∧(r.2.1=none→r.2.2=0)
def zb_ (l:List Ax) (X:List Fc):Prop:=Srt X∧∀ z,z∈X↔∃ r t,(r∈vcL 6 l∧r≠[])∧RchS (lat (gm_ l)) [r] t∧z=X_ r t
theorem qh_ {k:Int}:∀ {l:List Ax},(∀ x∈l,x.left.sz≤64∧x.right.sz≤64∧x.roles.length≤4)→(vcL k l).length≤136*l.length
  | [],_=>by simp[vcL]
  | x::l,h=>by
    have e:=qh_ (k:=k) (l:=l) fun y d=>h y zaa_
    obtain⟨a,b,c⟩:=h x zB_
    have m:(x.vc k).length≤136:=by
      unfold Ax.vc;have:=Con.nms_len k x.left;have:=Con.nms_len k x.right;rw[List.length_append,List.length_append,List.length_append]
      split<;>split<;>simp<;>omega
    unfold vcL at e ⊢;rw[List.flatMap_cons,List.length_append,List.length_cons];omega
theorem oH_ {c:Con} (h:c.check=0) {r:Str} (k:r∈c.nms 6):bh_ r=true:=by
  unfold Con.nms at k;obtain⟨d,e,rfl⟩:=List.mem_map.1 k;rw[List.mem_filter]at e;have hk:d.kind=6:=by simpa using e.2
  exact (Con.names_of ((Con.check_iff d).1 (oJ_ _ c (Nat.le_refl _) h d e.1)).2.2).plain (.inr (.inl hk))
theorem oI_ {c:Con} (h:c.empty=true) {r:Str} (d:r∈c.nms 6):bh_ r=true:=by
  cases c with
  | mk k n l hi ad cp ps =>
    unfold Con.empty at h;simp only[Bool.and_eq_true,beq_iff_eq,Con.parts,Con.kind]at h;have:ps=[]:=List.eq_nil_of_length_eq_zero zs_;subst this;rw[Con.nms_eq]at d;simp[Con.kind,Con.parts,h.1.1.1.1]at d
theorem qg_ {l:List Ax} (B:∀ x∈l,x.check=0) {r:Str} (d:r∈vcL 6 l) (E:r≠[]):bh_ r=true:=by
 unfold vcL at d;obtain⟨x,C,d⟩:=List.mem_flatMap.1 d;have k:=B x C;have h:=Ax.good_of k;have m:=le_ k;unfold Ax.shaped at m;rw[if_neg (by have:=h.k1;have:=h.k9;omega)]at m;simp only[Bool.and_eq_true,Bool.or_eq_true]at m;obtain⟨⟨⟨⟨⟨⟨y,v⟩,A⟩,_⟩,_⟩,_⟩,_⟩:=m;unfold Ax.vc at d;rw[if_pos rfl,if_neg zw_,List.append_nil,List.mem_append,List.mem_append,List.mem_append,List.mem_singleton]at d;rcases d with (d|d)|d|rfl
 ·exact y.elim (fun q=>oH_ (pV_ k q) d) (fun q=>oI_ q d)
 ·exact v.elim (fun q=>oH_ (rD_ k q) d) (fun q=>oI_ q d)
 ·exact h.roles r d
 have hk:x.kind=1∨x.kind=2∨x.kind=3∨x.kind=4∨x.kind=5∨x.kind=6∨x.kind=7∨x.kind=8∨x.kind=9:=by have:=h.k1;have:=h.k9;omega
 rcases A with q|q
 ·refine h.role ?_
  rcases hk with e|e|e|e|e|e|e|e|e<;>rw[e]at q<;>first|omega|exact absurd q zw_
 exact absurd (by simpa using q) E
theorem vp_ {l:List Str} (h:SrS l):l.Nodup:=h.imp fun {a b} q e=>by subst e;exact List.lt_irrefl _ q
theorem ke_ {s:Str} (h:bh_ s=true):aK_ s=true:=by unfold aK_;rw[h];rfl
theorem inc_in {z:Fc} {X:Prop} {T:List Str} {r t:Str}:((X∨∃ t∈T,z=X_ r t)∨z=X_ r t)↔(X∨∃ u∈T++[t],z=X_ r u):=by
 constructor
 ·rintro ((h|⟨u,d,e⟩)|e)
  ·exact .inl h
  ·exact .inr ⟨u,by simp[d],e⟩
  exact .inr ⟨t,by simp,e⟩
 rintro (h|⟨u,d,e⟩)
 ·exact .inl (.inl h)
 rw[List.mem_append,List.mem_singleton]at d;rcases d with d|rfl
 ·exact .inl (.inr ⟨u,d,e⟩)
 exact .inr e
theorem wv_ {l:List Ax} {R T:List Str} {r:Str} (h:xk_ l r T) {z:Fc}:((∃ s∈R,∃ t,RchS (lat (gm_ l)) [s] t∧z=X_ s t)∨∃ t∈T,z=X_ r t)↔∃ s∈R++[r],∃ t,RchS (lat (gm_ l)) [s] t∧z=X_ s t:=by
 constructor
 ·rintro (⟨s,d,q⟩|⟨t,k,e⟩)
  ·exact⟨s,by simp[d],q⟩
  exact⟨r,by simp,t,(h.2 t).1 k,e⟩
 rintro ⟨s,d,t,k,e⟩;rw[List.mem_append,List.mem_singleton]at d;rcases d with d|rfl
 ·exact .inl ⟨s,d,t,k,e⟩
 exact .inr ⟨t,(h.2 t).2 k,e⟩
theorem yr_ {l:List Ax} {R:List Str} (h:jh_ 6 l R) {z:Fc}:(∃ s∈R,∃ t,RchS (lat (gm_ l)) [s] t∧z=X_ s t)↔∃ r t,(r∈vcL 6 l∧r≠[])∧RchS (lat (gm_ l)) [r] t∧z=X_ r t :=
  ⟨fun⟨s,k,t,d,e⟩=>⟨s,t,⟨((h.2 s).1 k).1,((h.2 s).1 k).2 (.inl rfl)⟩,d,e⟩,fun⟨s,t,⟨q,m⟩,d,e⟩=>⟨s,(h.2 s).2 ⟨q,fun _=>m⟩,t,d,e⟩⟩
theorem incl_c (v:List Ax) (lad:Option Addr) (lcap:Nat) (b3:∀ x∈v,x.ok) (R:∀ x∈v,x.check=0) (a0:v.length≤20):Tri Tryz.prog 33 #[.slice lad (List.length v) lcap] [] [ej_ lad v,ci_] (fun y:{y:List Fc×Option Addr×Nat // zb_ v y.1∧rkF y}=>.tuple #[.slice y.1.2.1 y.1.1.length y.1.2.2,.int .i64 0]) (fun _=>[]) (fun y=>[ah_ y.1.2.1 (y.1.1.flatMap Fc.cells)]):=by
 refine i_ Tryz.func33 rfl rfl Tryz.ntmps33 rfl fun v_1=>?_;have a4:∀ x∈v,x.left.sz≤64∧x.right.sz≤64∧x.roles.length≤4:=fun x hx=>⟨(tF_ (R x hx)).1,(tF_ (R x hx)).2,zo_ (R x hx)⟩
 refine Zz 9 ?_;refine g_ (voc_c v lad lcap b3 R a0) rfl m_ zf rfl fun⟨⟨⟨a8,a2,ccp⟩,⟨R1,rad,V⟩,⟨a6,a9,ecp⟩,⟨b7,b2,xcp⟩⟩,⟨a1,Y⟩,⟨q,a3⟩,⟨b8,a7⟩,W,c0⟩=>?_;dsimp only;dsimp only at a1 Y q a3 b8 a7 W c0;have hRn:List.length R1≤136*List.length v:=by have h_1:=cS_ (vp_ q.1) (m:=vcL 6 v) fun n hn=>((q.2 n).1 hn).1;have h_2:=qh_ (k:=6) (l:=v) a4;omega
 refine Zz 3 ?_;refine G_ Tryz.zeroValue133 rfl fun b_1=>u_ 0 Tryz.sizeOf133 rfl rfl rfl rfl rfl rfl (Zz 7 ?_)
 refine e_ (ar_ (ce_ rfl rfl) (show _=Value.bool false from congrArg Value.bool zw_)) rfl (Zz 15 ?_);refine M_ (ι:={y:Nat×List Fc×Value×Hp // y.1≤List.length R1∧(∀ z,z∈y.2.1↔∃ r∈List.take y.1 R1,∃ t,RchS (lat (gm_ v)) [r] t∧z=X_ r t)∧List.length y.2.1≤21*y.1∧zR 36 6 Fc.cells y.2.2.1 y.2.1 y.2.2.2}) (fun y=>[(0,.slice lad (List.length v) lcap),(2,y.1.2.2.1),(3,.int .i64 0),(20,.slice rad (List.length R1) V),(21,.int .i64 (List.length R1:Int)),(22,.int .i64 (y.1.1:Int))]) (fun y=>(y.1.2.2.2)) (fun y=>[ah_ a2 (List.flatMap ag_ a8),ah_ rad (List.flatMap ag_ R1),ah_ a9 (List.flatMap ag_ a6),ah_ b2 (List.flatMap ag_ b7),ej_ lad v,ci_]) (fun y=>List.length R1 - y.1.1) ⟨((0:Nat),([]:List Fc),(.slice none 0 0),[]),by simp,(by intro z;simp),zB_,(ay_.nil _ _)⟩ zl m_ zh ?_;rintro ⟨⟨i,X,H,K⟩,S,hX,hXl,e⟩;dsimp only at S hX hXl e ⊢;refine Zi 2 (fun A=>?_) fun A=>?_
 ·refine Zz 7 ?_
  refine bl_ e ac_ fun c2 c1 T M hmqad hzqad=>?_;subst T;refine Zz 2 ?_;refine g_ (gT_ X c2 c1 M zs_) rfl m_ zf rfl fun⟨⟨sad,scp⟩,O,N,Q⟩=>?_;dsimp only;refine Zz 5 ?_;have hIn:zb_ v (hr_ X):=⟨in_ X,fun z=>by rw[io_,hX z,List.take_of_length_le zs_];exact yr_ q⟩;exact kO_ Tryz.results33 ⟨(hr_ X,sad,scp),hIn,O,N,Q⟩ rfl rfl rfl m_ zf
 have G:i<List.length R1:=by omega
 obtain⟨B,A⟩:∃ L,R1[i]? = some L:=⟨_,List.getElem?_eq_getElem G⟩;have E:B∈R1:=List.mem_of_getElem? A;have b5:=qg_ R ((q.2 B).1 E).1 (((q.2 B).1 E).2 (.inl rfl));refine Zz 19 ?_;refine g_ (yX_ v lad lcap b3 R a0 B (ke_ b5) (by have:=dE_ b5;omega)) rfl m_ zf rfl fun⟨⟨d,a5,tcp⟩,I,hkt⟩=>?_;dsimp only;dsimp only at I hkt;have hTl:List.length d≤List.length v+1:=by have h_1:=iw_ (vp_ I.1) (fun t ht=>(I.2 t).1 ht);have h_2:=kC_ v;omega
 refine Zz 11 ?_;refine e_ (ar_ (ce_ rfl rfl) (show _=Value.bool false from congrArg Value.bool zw_)) rfl (Zz 13 ?_);refine M_ (ι:={y:Nat×List Fc×Value×Hp // y.1≤List.length d∧(∀ z,z∈y.2.1↔z∈X∨∃ t∈List.take y.1 d,z=X_ B t)∧List.length y.2.1=List.length X+y.1∧zR 36 6 Fc.cells y.2.2.1 y.2.1 y.2.2.2}) (fun y=>[(0,.slice lad (List.length v) lcap),(2,y.1.2.2.1),(3,.int .i64 0),(20,.slice rad (List.length R1) V),(21,.int .i64 (List.length R1:Int)),(22,.int .i64 (i:Int)),(6,str B),(35,.slice a5 (List.length d) tcp),(36,.int .i64 (List.length d:Int)),(37,.int .i64 (y.1.1:Int))]) (fun y=>(y.1.2.2.2)) (fun y=>[ah_ a5 (List.flatMap ag_ d),ah_ a2 (List.flatMap ag_ a8),ah_ rad (List.flatMap ag_ R1),ah_ a9 (List.flatMap ag_ a6),ah_ b2 (List.flatMap ag_ b7),ej_ lad v,ci_]) (fun y=>List.length d - y.1.1) ⟨((0:Nat),X,H,K),by simp,(by intro z;simp),zB_,e⟩ zl ac_ zh ?_;rintro ⟨⟨j,b0,H,K⟩,b4,C,b6,e⟩;dsimp only at b4 C b6 e ⊢;refine Zi 2 (fun Z=>?_) fun Z=>?_
 ·refine Zz 11 ?_
  exact w_ ⟨(i+1,b0,H,K),G,(by intro z;rw[C z,hX z,List.take_of_length_le (l:=d) zs_,tk1 A];exact wv_ I),zt_,e⟩ zt_ zl ac_ (fun _ _ h=>h.2)
 have F:j<List.length d:=by omega
 obtain⟨P,J⟩:∃ L,d[j]? = some L:=⟨_,List.getElem?_eq_getElem F⟩;have hmt_1:P∈d:=List.mem_of_getElem? J;refine Zz 19 ?_;refine e_ (I_ eI_ rfl rfl) rfl (U_ x_ A_ Y_ rfl rfl rfl rfl rfl rfl fun b_2=>?_);refine an_ (news:=List.flatMap Fc.cells [(Fc.mk 1 B P [] 0 0)]) eg_ e rfl rfl C_ rfl (aO_ 0 rfl) (fun u hu=>aA_ Fc.cells_one hu) zu_ zx_ rfl fun b9 U A=>?_;refine y_ List.perm_append_comm ?_;have b1:=zsa A;refine Zz 8 ?_;exact w_ ⟨(j+1,(b0++[(X_ B P)]),b9,U),F,(by intro z;rw[List.mem_append,C z,tk1 J,List.mem_singleton];exact inc_in),(by rw[List.length_append];simp only[List.length_cons,List.length_nil];omega),b1⟩ zt_ zl C_ zh
theorem uu_ {N:Nf} {y:Vw} {B:Hp} {fr:Fr} {F H:Hp} {Γ:List Fct} {P:Program} {K D:Type} [DecidableEq K] {k:Act→World→Prop} {q:K→Value} {cells:D→List Value} {x e:TypeId} {sz A:Nat} {l:List (K×D)} {d:Hp} (I:KeyT P x q) (hm:cW_ q cells e sz l A d) (J:H.Perm (d++F))
    (h:∀ adr:K→Option Addr×Nat,(∀ k,(lat l k).length≤(adr k).2∧((adr k).1=none→(adr k).2=0))→Ok N y B k fr F (mlF P x q cells A l adr::Γ)):Ok N y B k fr H Γ:=by
  obtain⟨adr,C,E⟩:=hm.lentC I;refine nn_ d J (no_ (fun v _ m=>?_) (h adr C));rw[eR_]at m;refine⟨E v fun p G=>?_,m.2⟩;have:=m.1;exact jK_ d.reverse (by rw[List.map_reverse]at *;exact this) p (List.mem_reverse.2 G)
def el_ (l:List Str):List Str:=l.filter fun s=>!nls s
def tyL (K:List Str) (l:List Fc):List Fc:=l.filter fun z=>decide (z.kind=1)&&decide (z.a∈K)
def liL (l:List Fc):List Fc:=l.filter fun z=>decide (z.kind=2)&&(!nls z.a&&!nls z.b)
def raL (K:List Str) (l:List Fc):List Fc:=l.filter fun z=>decide (z.kind=3)&&decide (z.a∈K)
structure AsmR (p:List Pc) (c:Cl) (X:List Str) (Ty Li Di Ra:List Fc):Prop where
  nd:oh_ (dz_ p c.facts) (el_ c.atoms) X
  ty:Srt Ty∧∀ z,z∈Ty↔z∈c.facts∧z.kind=1∧z.a∈X
  li:Srt Li∧∀ z,z∈Li↔z∈c.facts∧z.kind=2∧nls z.a=false∧nls z.b=false
  di:Srt Di∧∀ z,z∈Di↔∃ s∈X,(s,z)∈dz_ p c.facts
  ra:Srt Ra∧∀ z,z∈Ra↔z∈c.facts∧z.kind=3∧z.a∈X
theorem yq_ {l:List Str} (h:SrS l):Lib.compact (aS_ (el_ l))=el_ l:=by
  have d:SrS (el_ l):=h.sublist List.filter_sublist;exact gv_ (hJ_ (fY_ _)) d fun x=>by rw[iJ_,List.mem_mergeSort]
theorem vT_ {p:List Pc} {F:List Fc} (s t:Str) (h:t∈nxD (dz_ p F) s):t∈p.map Pc.c:=by
  unfold nxD at h;obtain⟨z,e,rfl⟩:=List.mem_map.1 h;obtain⟨f,_,y,d,_,_,_,_,rfl⟩:=rs_.1 (bM_.1 e);exact List.mem_map.2 ⟨y,d,rfl⟩
theorem jI_ {K D:Type} [DecidableEq K]:∀ (L:List (K×D)) {X:List K},X.Nodup→(X.flatMap (lat L)).length≤L.length
 | [],X,_=>by
   have:X.flatMap (lat ([]:List (K×D)))=[]:=List.flatMap_eq_nil_iff.2 fun x _=>rfl
   rw[this];simp
 | (k,d)::L,X,h=>by
   have m:∀ X:List K,(X.flatMap (lat ((k,d)::L))).length=(X.flatMap (lat L)).length+X.count k:=by
     intro X
     induction X with
     | nil=>rfl
     | cons x X ih =>
       rw[List.flatMap_cons,List.flatMap_cons,List.length_append,List.length_append,ih,List.count_cons]
       have e:(lat ((k,d)::L) x).length=(lat L x).length+if x==k then 1 else 0:=by
         unfold lat;rw[List.filter_cons]
         by_cases q:k=x
         · subst q;simp
         · rw[if_neg (by simpa using q),if_neg (by simpa using fun e=>q e.symm)];rfl
       rw[e];omega
   have y:=jI_ L h;have v:=List.nodup_iff_count.1 h k;rw[m,List.length_cons];omega
theorem tm_ {D:List (Str×Fc)} {I X:List Str} (h:oh_ D I X) (m:I.Nodup):X.Nodup:=by
  obtain⟨N,k,rfl,v,_⟩:=h;rw[List.nodup_append];exact⟨m,(List.mergeSort_perm _ _).nodup_iff.2 k,fun a q b d e=>by subst e;rw[List.mem_mergeSort]at d;exact v a d q⟩
theorem yd_ {D:List (Str×Fc)} {I X T:List Str} (h:oh_ D I X) (v:∀ s,∀ t∈nxD D s,t∈T) (B:T.length≤20000) (A:I.length≤40000):X.length≤60000:=by
  obtain⟨N,e,rfl,q,d⟩:=h;have y:=cS_ e (m:=I++T) fun s k=>((d s).1 (.inr k)).mem v
  have x:N.length≤T.length:=cS_ e fun s k=>by
    have:=((d s).1 (.inr k)).mem v;rw[List.mem_append]at this;exact this.resolve_left (q s k)
  rw[List.length_append,List.length_mergeSort];omega
theorem ex_ {G:Prop} (h:G:=by
 refine Zz 8 ?_;exact lC_):G:=h
theorem ey_ {G:Prop} (h:G:=by
 refine Zz 17 ?_;exact lC_):G:=h
theorem lB_ {G:Prop} (h:G:=by
 refine Zz 1 ?_;refine y_ (R_ (f_ d_) (R_ (f_ d_) (R_ (f_ d_) (R_ (f_ d_) (bb_ (f_ d_)))))) (dr_ 3 x ck_ rfl rfl rfl rfl (Zz 7 ?_));exact w_ ⟨(j+1,I,N,G,H,K,Q),A,zL_,(by have e:liL (List.take (j+1) c.facts)=((liL (List.take j c.facts))++[B]):=(by unfold liL;rw[tk1 d,List.filter_append];simp_all);rw[e];exact x),zM_⟩ zt_ zl (j_ (c_ (c_ d_)) (j_ (c_ (c_ d_)) (j_ (c_ (c_ d_)) (z_ (c_ (c_ (f_ t_))) (z_ (c_ (c_ t_)) (c_ C_)))))) zh):G:=h
theorem ez_ {G:Prop} (h:G:=by
 refine Zz 1 ?_;refine y_ (R_ (f_ d_) (R_ (f_ d_) (R_ (f_ d_) (R_ (f_ d_) (bb_ (f_ d_)))))) (dr_ 3 x ck_ rfl rfl rfl rfl (Zz 7 ?_));exact w_ ⟨(j+1,I,N,J,O,G,H),A,zL_,zO_,(by have e:raL s.ks (List.take (j+1) c.facts)=((raL s.ks (List.take j c.facts))++[B]):=(by unfold raL;rw[tk1 d,List.filter_append];simp_all);rw[e];exact x)⟩ zt_ zl (j_ (c_ (c_ d_)) (j_ (c_ (c_ d_)) (j_ (c_ (c_ d_)) (z_ (c_ (c_ (f_ t_))) (z_ (c_ (c_ aP_)) (c_ C_)))))) zh):G:=h
theorem lC_ {G:Prop} (h:G:=by
 exact w_ ⟨(j+1,I,N,J,O,K,Q),A,zL_,zO_,zM_⟩ zt_ zl (j_ (c_ d_) (j_ (c_ d_) (j_ (c_ d_) (z_ (c_ t_) (z_ (c_ t_) C_))))) zh):G:=h
set_option maxHeartbeats 1000000 in
theorem sQ_ (p:List Pc) (Y:Option Addr) (a0:Nat) (c:Cl) (hco:c.ok) (hp:p.length≤12000) (hF:c.facts.length≤65536) (hA:c.atoms.length≤40000) (hAs:SrS c.atoms):Tri Tryz.prog 34 #[.slice Y (List.length p) a0,Cl.val c] [] [ah_ Y (List.flatMap Pc.cells p),ah_ c.aad (List.flatMap ag_ c.atoms),ah_ c.fad (List.flatMap Fc.cells c.facts)] (fun y:{y:(List Str×Option Addr×Nat)×(List Fc×Option Addr×Nat)×(List Fc×Option Addr×Nat)×(List Fc×Option Addr×Nat)×(List Fc×Option Addr×Nat) // AsmR p c y.1.1 y.2.1.1 y.2.2.1.1 y.2.2.2.1.1 y.2.2.2.2.1∧rkS y.1∧rkF y.2.1∧rkF y.2.2.1∧rkF y.2.2.2.1∧rkF y.2.2.2.2}=>.agg #[.slice y.1.1.2.1 y.1.1.1.length y.1.1.2.2,.slice y.1.2.1.2.1 y.1.2.1.1.length y.1.2.1.2.2,.slice y.1.2.2.1.2.1 y.1.2.2.1.1.length y.1.2.2.1.2.2,.slice y.1.2.2.2.1.2.1 y.1.2.2.2.1.1.length y.1.2.2.2.1.2.2,.slice y.1.2.2.2.2.2.1 y.1.2.2.2.2.1.length y.1.2.2.2.2.2.2,.slice none 0 0]) (fun _=>[]) (fun y=>[ah_ y.1.1.2.1 (y.1.1.1.flatMap ag_),ah_ y.1.2.1.2.1 (y.1.2.1.1.flatMap Fc.cells),ah_ y.1.2.2.1.2.1 (y.1.2.2.1.1.flatMap Fc.cells),ah_ y.1.2.2.2.1.2.1 (y.1.2.2.2.1.1.flatMap Fc.cells),ah_ y.1.2.2.2.2.2.1 (y.1.2.2.2.2.1.flatMap Fc.cells)]):=by
 refine i_ Tryz.func34 rfl rfl Tryz.ntmps34 rfl fun v_1=>?_;refine Zz 2 ?_;refine aa_ rfl rfl fun b3=>G_ ju_ rfl fun b2=>Zz 17 ?_
 refine M_ (ι:={y:Nat×Value×Hp // y.1≤List.length c.atoms∧zR 9 1 ag_ y.2.1 (el_ (List.take y.1 c.atoms)) y.2.2}) (fun y=>[(0,.slice Y (List.length p) a0),(3,zp_ b3 0),(4,zp_ b2 0),(5,y.1.2.1),(15,.slice c.aad (List.length c.atoms) c.acap),(16,.int .i64 (List.length c.atoms:Int)),(17,.int .i64 (y.1.1:Int))]) (fun y=>((b2,.cells #[.slice none 0 0,.slice none 0 0,.slice none 0 0,.slice none 0 0,.slice none 0 0,.slice none 0 0] 28 (0,0))::((b3,.cells #[.slice c.aad (List.length c.atoms) c.acap,.slice c.fad (List.length c.facts) c.fcap] 67 (0,0))::y.1.2.2))) (fun y=>[ah_ Y (List.flatMap Pc.cells p),ah_ c.aad (List.flatMap ag_ c.atoms),ah_ c.fad (List.flatMap Fc.cells c.facts)]) (fun y=>List.length c.atoms - y.1.1) ⟨((0:Nat),(.slice none 0 0),[]),by simp,(ay_.nil _ _)⟩ zl zp zh ?_;rintro ⟨⟨i,sv_Q,H_Q⟩,hi_i,a2⟩;dsimp only at hi_i a2 ⊢;have hil:List.length (el_ (List.take i c.atoms))≤40000:=Nat.le_trans (List.length_filter_le _ _) (Nat.le_trans (List.length_take_le i _) zs_);refine Zi 2 (fun d0=>?_) fun d0=>?_
 ·refine Zz 11 ?_
  refine g_ (sE_ p Y a0 c.facts c.fad c.fcap hp hF) rfl m_ zf rfl fun⟨⟨db,Hd⟩,hd⟩=>?_;dsimp only;dsimp only at hd;refine Zz 3 ?_;refine y_ (R_ (f_ d_) (bb_ (f_ d_))) (be_ ?_);rw[List.take_of_length_le zs_]at a2;refine uu_ bi_ hd (c_ (c_ t_)) fun adr e9=>?_;refine bl_ a2 (c_ C_) fun d4 f1 g1 g0 hmqad hzqad=>?_;subst g1;have hil:List.length (el_ c.atoms)≤40000:=Nat.le_trans (List.length_filter_le _ _) hA;refine Zz 2 ?_;refine g_ (rW_ (el_ c.atoms) d4 f1 g0 zs_) rfl m_ zf rfl fun⟨⟨f5,icp⟩,g2,g3,hi_3⟩=>?_;dsimp only;have e6:List.length (Lib.compact (aS_ (el_ c.atoms)))≤40000:=by have:=gD_ (aS_ (el_ c.atoms));rw[List.length_mergeSort]at this;omega
  refine Zz 1 ?_;refine g_ (xP_ (Lib.compact (aS_ (el_ c.atoms))) f5 icp ⟨g2,g3,hi_3⟩ ((hJ_ (fY_ _)).imp fun q e=>by subst e;exact List.lt_irrefl _ q) e6 db (dz_ p c.facts) adr (by have:=iH_ (p:=p) c.facts;have:=Nat.mul_le_mul hF hp;omega) (p.map Pc.c) vT_ zaB_) rfl m_ zf rfl fun⟨⟨X,a1,b1⟩,e0,hnk⟩=>?_;dsimp only;dsimp only at e0 hnk;have hXn:X.Nodup:=tm_ e0 ((hJ_ (fY_ _)).imp fun q e=>by subst e;exact List.lt_irrefl _ q);have hXl:List.length X≤60000:=yd_ e0 vT_ zaB_ e6;refine Zz 1 ?_;refine u_ 0 bP_ rfl rfl rfl rfl rfl rfl (Zz 4 ?_);refine aY_ rfl fun d7=>Zz 13 ?_
  refine M_ (ι:={y:Nat×StM×Value×Hp // y.1≤List.length X∧(∀ n,n∈y.2.1.ks↔n∈List.take y.1 X)∧zR 36 6 Fc.cells y.2.2.1 (List.flatMap (lat (dz_ p c.facts)) (List.take y.1 X)) y.2.2.2}) (fun y=>[(0,.slice Y (List.length p) a0),(3,zp_ b3 0),(4,zp_ b2 0),(5,.slice d4 (List.length (el_ c.atoms)) f1),(15,.slice c.aad (List.length c.atoms) c.acap),(16,.int .i64 (List.length c.atoms:Int)),(17,.int .i64 (i:Int)),(8,.map (some db)),(9,.map (some d7)),(40,.slice a1 (List.length X) b1),(41,.int .i64 (List.length X:Int)),(42,.int .i64 (y.1.1:Int))]) (fun y=>((d7,.map y.1.2.1.es y.1.2.1.c)::((b2,.cells #[.slice a1 (List.length X) b1,.slice none 0 0,.slice none 0 0,y.1.2.2.1,.slice none 0 0,.slice none 0 0] 28 (0,0))::((b3,.cells #[.slice c.aad (List.length c.atoms) c.acap,.slice c.fad (List.length c.facts) c.fcap] 67 (0,0))::y.1.2.2.2)))) (fun y=>[ah_ a1 (List.flatMap ag_ X),ah_ f5 (List.flatMap ag_ (Lib.compact (aS_ (el_ c.atoms)))),ah_ d4 (List.flatMap ag_ (el_ c.atoms)),mlF Tryz.prog 9 str Fc.cells db (dz_ p c.facts) adr,ah_ Y (List.flatMap Pc.cells p),ah_ c.aad (List.flatMap ag_ c.atoms),ah_ c.fad (List.flatMap Fc.cells c.facts)]) (fun y=>List.length X - y.1.1) ⟨((0:Nat),StM.nil,(.slice none 0 0),[]),by simp,(by intro n;simp[StM.nil]),(ay_.nil 36 6)⟩ zl zp zh ?_;rintro ⟨⟨m,s,sv_Z,H_Z⟩,hi_m,hs,a9⟩;dsimp only at hi_m hs a9 ⊢;have hel:List.length (List.flatMap (lat (dz_ p c.facts)) (List.take m X))≤786432000:=by have a8:=jI_ (dz_ p c.facts) (hXn.sublist (List.take_sublist m X));have a5:=iH_ (p:=p) c.facts;have h_3:=Nat.mul_le_mul hF hp;omega
  refine Zi 2 (fun U=>?_) fun U=>?_
  ·refine Zz 7 ?_
   rw[List.take_of_length_le (l:=X) zs_]at hs a9;have hel_1:List.length (List.flatMap (lat (dz_ p c.facts)) X)≤786432000:=by have a8:=jI_ (dz_ p c.facts) hXn;have a5:=iH_ (p:=p) c.facts;have h_3:=Nat.mul_le_mul hF hp;omega
   refine bl_ a9 (c_ (c_ C_)) fun g4 ecp head f3 hmead hzead=>?_;subst head;refine Zz 3 ?_;refine g_ (gT_ (List.flatMap (lat (dz_ p c.facts)) X) g4 ecp f3 zs_) rfl m_ zf rfl fun⟨⟨b0,b7⟩,b9,b8,d3⟩=>?_;dsimp only;refine Zz 1 ?_;refine u_ 1 ck_ rfl rfl rfl rfl rfl rfl (Zz 12 ?_);refine M_ (ι:={y:Nat×Value×Hp×Value×Hp×Value×Hp // y.1≤List.length c.facts∧zR 36 6 Fc.cells y.2.1 (tyL s.ks (List.take y.1 c.facts)) y.2.2.1∧zR 36 6 Fc.cells y.2.2.2.1 (liL (List.take y.1 c.facts)) y.2.2.2.2.1∧zR 36 6 Fc.cells y.2.2.2.2.2.1 (raL s.ks (List.take y.1 c.facts)) y.2.2.2.2.2.2}) (fun y=>[(0,.slice Y (List.length p) a0),(3,zp_ b3 0),(4,zp_ b2 0),(5,.slice d4 (List.length (el_ c.atoms)) f1),(15,.slice c.aad (List.length c.atoms) c.acap),(16,.int .i64 (List.length c.atoms:Int)),(17,.int .i64 (i:Int)),(8,.map (some db)),(9,.map (some d7)),(40,.slice a1 (List.length X) b1),(41,.int .i64 (List.length X:Int)),(42,.int .i64 (m:Int)),(61,.slice c.fad (List.length c.facts) c.fcap),(62,.int .i64 (List.length c.facts:Int)),(63,.int .i64 (y.1.1:Int))]) (fun y=>((d7,.map s.es s.c)::((b2,.cells #[.slice a1 (List.length X) b1,y.1.2.1,y.1.2.2.2.1,.slice b0 (List.length (hr_ (List.flatMap (lat (dz_ p c.facts)) X))) b7,y.1.2.2.2.2.2.1,.slice none 0 0] 28 (0,0))::((b3,.cells #[.slice c.aad (List.length c.atoms) c.acap,.slice c.fad (List.length c.facts) c.fcap] 67 (0,0))::(y.1.2.2.1++(y.1.2.2.2.2.1++y.1.2.2.2.2.2.2)))))) (fun y=>[ah_ b0 (List.flatMap Fc.cells (hr_ (List.flatMap (lat (dz_ p c.facts)) X))),ah_ g4 (List.flatMap Fc.cells (List.flatMap (lat (dz_ p c.facts)) X)),ah_ a1 (List.flatMap ag_ X),ah_ f5 (List.flatMap ag_ (Lib.compact (aS_ (el_ c.atoms)))),ah_ d4 (List.flatMap ag_ (el_ c.atoms)),mlF Tryz.prog 9 str Fc.cells db (dz_ p c.facts) adr,ah_ Y (List.flatMap Pc.cells p),ah_ c.aad (List.flatMap ag_ c.atoms),ah_ c.fad (List.flatMap Fc.cells c.facts)]) (fun y=>List.length c.facts - y.1.1) ⟨((0:Nat),(.slice none 0 0),[],(.slice none 0 0),[],(.slice none 0 0),[]),by simp,(ay_.nil _ _),(ay_.nil _ _),(ay_.nil _ _)⟩ zl zp zh ?_;rintro ⟨⟨j,I,N,J,O,K,Q⟩,hi_j,C,E,F⟩;dsimp only at hi_j C E F ⊢;have hltyL:List.length (tyL s.ks (List.take j c.facts))≤65536:=Nat.le_trans (List.length_filter_le _ _) (Nat.le_trans (List.length_take_le j _) zs_);have hlliL:List.length (liL (List.take j c.facts))≤65536:=Nat.le_trans (List.length_filter_le _ _) (Nat.le_trans (List.length_take_le j _) zs_);have hlraL:List.length (raL s.ks (List.take j c.facts))≤65536:=Nat.le_trans (List.length_filter_le _ _) (Nat.le_trans (List.length_take_le j _) zs_);refine Zi 2 (fun S=>?_) fun S=>?_
   ·refine Zz 7 ?_
    rw[List.take_of_length_le zs_]at C E F;refine bl_ C (c_ (c_ (c_ t_))) fun tad tcp htad f9 hmtad hztad=>?_;subst htad;refine Zz 3 ?_;refine g_ (gT_ (tyL s.ks c.facts) tad tcp f9 (Nat.le_trans (List.length_filter_le _ _) zs_)) rfl m_ zf rfl fun⟨⟨e8,e7⟩,d6,d8,c1⟩=>?_;dsimp only;refine Zz 1 ?_;refine u_ 1 ck_ rfl rfl rfl rfl rfl rfl (Zz 3 ?_);refine bl_ E (c_ (c_ (c_ t_))) fun uad ucp g5 f4 hmuad hzuad=>?_;subst g5;refine Zz 3 ?_;refine g_ (gT_ (liL c.facts) uad ucp f4 (Nat.le_trans (List.length_filter_le _ _) zs_)) rfl m_ zf rfl fun⟨⟨e5,e2⟩,d1,b4,d2⟩=>?_;dsimp only;refine Zz 1 ?_;refine u_ 1 ck_ rfl rfl rfl rfl rfl rfl (Zz 3 ?_);refine bl_ F (c_ (c_ C_)) fun vad vcp hvad f6 hmvad hzvad=>?_;subst hvad;refine Zz 3 ?_;refine g_ (gT_ (raL s.ks c.facts) vad vcp f6 (Nat.le_trans (List.length_filter_le _ _) zs_)) rfl m_ zf rfl fun⟨⟨e4,f0⟩,b6,d9,d5⟩=>?_;dsimp only;refine Zz 1 ?_;refine u_ 1 ck_ rfl rfl rfl rfl rfl rfl (Zz 5 ?_);refine u_ 1 bH_ rfl rfl rfl rfl rfl rfl (Zz 3 ?_);exact gW_ ⟨((X,a1,b1),((hr_ (tyL s.ks c.facts)),e8,e7),((hr_ (liL c.facts)),e5,e2),((hr_ (List.flatMap (lat (dz_ p c.facts)) X)),b0,b7),((hr_ (raL s.ks c.facts)),e4,f0)),⟨⟨yq_ hAs▸e0,⟨in_ _,fun z=>by rw[io_,tyL,List.mem_filter,Bool.and_eq_true,decide_eq_true_eq,decide_eq_true_eq,hs]⟩,⟨in_ _,fun z=>by rw[io_,liL,List.mem_filter,Bool.and_eq_true,Bool.and_eq_true,decide_eq_true_eq,Bool.not_eq_true',Bool.not_eq_true']⟩,⟨in_ _,fun z=>by rw[io_,List.mem_flatMap];exact⟨fun⟨q,a8,a5⟩=>⟨q,a8,bM_.1 a5⟩,fun⟨q,a8,a5⟩=>⟨q,a8,bM_.2 a5⟩⟩⟩,⟨in_ _,fun z=>by rw[io_,raL,List.mem_filter,Bool.and_eq_true,decide_eq_true_eq,decide_eq_true_eq,hs]⟩⟩,hnk,⟨d6,d8,c1⟩,⟨d1,b4,d2⟩,⟨b9,b8,d3⟩,b6,d9,d5⟩⟩ (fun aa v a8 a5=>ei_ (us:=[.slice a1 (List.length X) b1,.slice e8 (List.length (hr_ (tyL s.ks c.facts))) e7,.slice e5 (List.length (hr_ (liL c.facts))) e2,.slice b0 (List.length (hr_ (List.flatMap (lat (dz_ p c.facts)) X))) b7,.slice e4 (List.length (hr_ (raL s.ks c.facts))) f0,.slice none 0 0]) 1 Tryz.results34 gl_ bH_ rfl rfl rfl aa v a8 a5) m_ zf
   have A:j<List.length c.facts:=by omega
   obtain⟨B,d⟩:∃ f7,c.facts[j]? = some f7:=⟨_,List.getElem?_eq_getElem A⟩;have hmf_1:B∈c.facts:=List.mem_of_getElem? d;refine Zz 12 ?_;refine G_ Y_ rfl fun b_4=>u_ 0 A_ rfl rfl rfl rfl rfl rfl (Zi 7 (fun c2=>?_) fun c2=>?_)
   ·refine Zi 14 (fun V=>?_) fun V=>?_
    ·refine Zi 20 (fun W=>?_) fun W=>?_
     ·exact ey_
     refine Zz 8 ?_;refine B_ (ar_ (bg_ (k:=B.a) (q:=s.ks) bi_ H_ as_ rfl rfl s.hE (fun v h _=>(h.own _ (List.mem_of_getElem? (i:=1) rfl)).1)) (show _=Value.bool (decide (B.a∈s.ks)) from congrArg Value.bool (decide_eq_decide.2 Iff.rfl))) rfl fun a3 P=>Zz 4 ?_
     cases a3
     ·replace P:=zdf P
      exact ex_
     replace P:=zdt P;refine Zz 5 ?_;refine U_ x_ A_ Y_ rfl rfl rfl rfl rfl rfl fun Z=>?_;refine an_ (news:=List.flatMap Fc.cells [B]) eg_ F rfl rfl (c_ (c_ (c_ (c_ (c_ (f_ aP_)))))) rfl (aO_ 0 rfl) (fun u T=>aA_ Fc.cells_one T) zu_ zx_ rfl fun G H d0=>?_;have x:=zsa d0;exact ez_
    refine Zz 6 ?_;refine T_ (bJ_ B.a) rfl m_ zt rfl fun a3 W=>aQ_ rfl rfl (e_ (aw_ rfl) rfl (Zz 2 ?_))
    cases a3
    ·refine Zz 5 ?_
     refine T_ (bJ_ B.b) rfl m_ zt rfl fun a7 P=>aQ_ rfl rfl (e_ (aw_ rfl) rfl (Zz 4 ?_))
     cases a7
     ·refine Zz 5 ?_
      refine U_ x_ A_ Y_ rfl rfl rfl rfl rfl rfl fun Z=>?_;refine an_ (news:=List.flatMap Fc.cells [B]) eg_ E rfl rfl (c_ (c_ (c_ (c_ (c_ (f_ t_)))))) rfl (aO_ 0 rfl) (fun u T=>aA_ Fc.cells_one T) zu_ zx_ rfl fun G H U=>?_;have x:=zsa U;exact lB_
     refine Zi 5 (fun M=>?_) fun M=>?_
     ·exact ey_
     refine Zz 8 ?_;refine B_ (ar_ (bg_ (k:=B.a) (q:=s.ks) bi_ H_ as_ rfl rfl s.hE (fun v h _=>(h.own _ (List.mem_of_getElem? (i:=1) rfl)).1)) (show _=Value.bool (decide (B.a∈s.ks)) from congrArg Value.bool (decide_eq_decide.2 Iff.rfl))) rfl fun c0 L=>Zz 4 ?_
     cases c0
     ·replace L:=zdf L
      exact ex_
     replace L:=zdt L;refine Zz 5 ?_;refine U_ x_ A_ Y_ rfl rfl rfl rfl rfl rfl fun Z=>?_;refine an_ (news:=List.flatMap Fc.cells [B]) eg_ F rfl rfl (c_ (c_ (c_ (c_ (c_ (f_ aP_)))))) rfl (aO_ 0 rfl) (fun u T=>aA_ Fc.cells_one T) zu_ zx_ rfl fun G H S=>?_;have x:=zsa S;exact ez_
    refine Zi 13 (fun P=>?_) fun P=>?_
    ·exact ey_
    refine Zz 8 ?_;refine B_ (ar_ (bg_ (k:=B.a) (q:=s.ks) bi_ H_ as_ rfl rfl s.hE (fun v h _=>(h.own _ (List.mem_of_getElem? (i:=1) rfl)).1)) (show _=Value.bool (decide (B.a∈s.ks)) from congrArg Value.bool (decide_eq_decide.2 Iff.rfl))) rfl fun a7 M=>Zz 4 ?_
    cases a7
    ·replace M:=zdf M
     exact ex_
    replace M:=zdt M;refine Zz 5 ?_;refine U_ x_ A_ Y_ rfl rfl rfl rfl rfl rfl fun Z=>?_;refine an_ (news:=List.flatMap Fc.cells [B]) eg_ F rfl rfl (c_ (c_ (c_ (c_ (c_ (f_ aP_)))))) rfl (aO_ 0 rfl) (fun u T=>aA_ Fc.cells_one T) zu_ zx_ rfl fun G H c2=>?_;have x:=zsa c2;exact ez_
   refine Zz 8 ?_;refine B_ (ar_ (bg_ (k:=B.a) (q:=s.ks) bi_ H_ as_ rfl rfl s.hE (fun v h _=>(h.own _ (List.mem_of_getElem? (i:=1) rfl)).1)) (show _=Value.bool (decide (B.a∈s.ks)) from congrArg Value.bool (decide_eq_decide.2 Iff.rfl))) rfl fun a3 V=>Zz 4 ?_
   cases a3
   ·replace V:=zdf V
    refine Zi 5 (fun W=>?_) fun W=>?_
    ·refine Zi 20 (fun P=>?_) fun P=>?_
     ·exact ey_
     refine Zz 8 ?_;refine B_ (ar_ (bg_ (k:=B.a) (q:=s.ks) bi_ H_ as_ rfl rfl s.hE (fun v h _=>(h.own _ (List.mem_of_getElem? (i:=1) rfl)).1)) (show _=Value.bool (decide (B.a∈s.ks)) from congrArg Value.bool (decide_eq_decide.2 Iff.rfl))) rfl fun a7 M=>Zz 4 ?_
     cases a7
     ·replace M:=zdf M
      exact ex_
     replace M:=zdt M;refine Zz 5 ?_;refine U_ x_ A_ Y_ rfl rfl rfl rfl rfl rfl fun Z=>?_;refine an_ (news:=List.flatMap Fc.cells [B]) eg_ F rfl rfl (c_ (c_ (c_ (c_ (c_ (f_ aP_)))))) rfl (aO_ 0 rfl) (fun u T=>aA_ Fc.cells_one T) zu_ zx_ rfl fun G H L=>?_;have x:=zsa L;exact ez_
    refine Zz 6 ?_;refine T_ (bJ_ B.a) rfl m_ zt rfl fun a7 P=>aQ_ rfl rfl (e_ (aw_ rfl) rfl (Zz 2 ?_))
    cases a7
    ·refine Zz 5 ?_
     refine T_ (bJ_ B.b) rfl m_ zt rfl fun c0 M=>aQ_ rfl rfl (e_ (aw_ rfl) rfl (Zz 4 ?_))
     cases c0
     ·refine Zz 5 ?_
      refine U_ x_ A_ Y_ rfl rfl rfl rfl rfl rfl fun Z=>?_;refine an_ (news:=List.flatMap Fc.cells [B]) eg_ E rfl rfl (c_ (c_ (c_ (c_ (c_ (f_ t_)))))) rfl (aO_ 0 rfl) (fun u T=>aA_ Fc.cells_one T) zu_ zx_ rfl fun G H L=>?_;have x:=zsa L;exact lB_
     refine Zi 5 (fun L=>?_) fun L=>?_
     ·exact ey_
     refine Zz 8 ?_;refine B_ (ar_ (bg_ (k:=B.a) (q:=s.ks) bi_ H_ as_ rfl rfl s.hE (fun v h _=>(h.own _ (List.mem_of_getElem? (i:=1) rfl)).1)) (show _=Value.bool (decide (B.a∈s.ks)) from congrArg Value.bool (decide_eq_decide.2 Iff.rfl))) rfl fun r_4 R=>Zz 4 ?_
     cases r_4
     ·replace R:=zdf R
      exact ex_
     replace R:=zdt R;refine Zz 5 ?_;refine U_ x_ A_ Y_ rfl rfl rfl rfl rfl rfl fun Z=>?_;refine an_ (news:=List.flatMap Fc.cells [B]) eg_ F rfl rfl (c_ (c_ (c_ (c_ (c_ (f_ aP_)))))) rfl (aO_ 0 rfl) (fun u T=>aA_ Fc.cells_one T) zu_ zx_ rfl fun G H f8=>?_;have x:=zsa f8;exact ez_
    refine Zi 13 (fun M=>?_) fun M=>?_
    ·exact ey_
    refine Zz 8 ?_;refine B_ (ar_ (bg_ (k:=B.a) (q:=s.ks) bi_ H_ as_ rfl rfl s.hE (fun v h _=>(h.own _ (List.mem_of_getElem? (i:=1) rfl)).1)) (show _=Value.bool (decide (B.a∈s.ks)) from congrArg Value.bool (decide_eq_decide.2 Iff.rfl))) rfl fun c0 L=>Zz 4 ?_
    cases c0
    ·replace L:=zdf L
     exact ex_
    replace L:=zdt L;refine Zz 5 ?_;refine U_ x_ A_ Y_ rfl rfl rfl rfl rfl rfl fun Z=>?_;refine an_ (news:=List.flatMap Fc.cells [B]) eg_ F rfl rfl (c_ (c_ (c_ (c_ (c_ (f_ aP_)))))) rfl (aO_ 0 rfl) (fun u T=>aA_ Fc.cells_one T) zu_ zx_ rfl fun G H R=>?_;have x:=zsa R;exact ez_
   replace V:=zdt V;refine Zz 5 ?_;refine U_ x_ A_ Y_ rfl rfl rfl rfl rfl rfl fun Z=>?_;refine an_ (news:=List.flatMap Fc.cells [B]) eg_ C rfl rfl (c_ (c_ (c_ (c_ (c_ t_))))) rfl (aO_ 0 rfl) (fun u T=>aA_ Fc.cells_one T) zu_ zx_ rfl fun G H W=>?_;have x:=zsa W;refine Zz 1 ?_;refine y_ (R_ (f_ d_) (R_ (f_ d_) (R_ (f_ d_) (R_ (f_ d_) (bb_ (f_ d_)))))) (dr_ 3 x ck_ rfl rfl rfl rfl (Zz 7 ?_));exact w_ ⟨(j+1,G,H,J,O,K,Q),A,(by have e:tyL s.ks (List.take (j+1) c.facts)=((tyL s.ks (List.take j c.facts))++[B]):=(by unfold tyL;rw[tk1 d,List.filter_append];simp_all);rw[e];exact x),zO_,zM_⟩ zt_ zl (j_ (c_ (c_ d_)) (j_ (c_ (c_ d_)) (j_ (c_ (c_ d_)) (z_ (c_ (c_ t_)) (z_ (c_ (c_ t_)) (c_ C_)))))) zh
  obtain⟨f2,a6,e3,hmx_1⟩:=zge (show m<List.length X by omega);have hlk:=dB_ (dz_ p c.facts) a6;have hdl:=iH_ (p:=p) c.facts;have hml:=Nat.mul_le_mul hF hp;refine Zz 19 ?_;refine di_ 0 s bi_ (.inr rfl) H_ rfl rfl rfl rfl (Zz 7 ?_);refine e_ (bD_ (k:=a6) (adr:=adr) bi_ jl_ dV_ rfl rfl zf) rfl (fx_ (news:=List.flatMap Fc.cells (lat (dz_ p c.facts) a6)) eg_ a9 rfl rfl (e9 a6).2 (e9 a6).1 (c_ (c_ C_)) (by rw[dv_ Fc.cells 6 Fc.cells_len]) (fun v _ h=>by exact (aV_ h.2.2.2.1 a6)) (fun u T=>aA_ Fc.cells_one T) zu_ zx_ rfl fun G H S=>?_);refine y_ List.perm_append_comm ?_;have x:=zsa S;refine Zz 1 ?_;refine dr_ 1 x ck_ rfl rfl rfl rfl (Zz 7 ?_);exact w_ ⟨(m+1,(StM.add s a6),G,H),f2,(by intro n;rw[StM.mem,hs n,tk1 e3];simp),(by rw[tk1 e3,List.flatMap_append];simpa using x)⟩ zt_ zl zp zh
 have a4:i<List.length c.atoms:=by omega
 obtain⟨e1,b5⟩:∃ f7,c.atoms[i]? = some f7:=⟨_,List.getElem?_eq_getElem a4⟩;have hms_1:e1∈c.atoms:=List.mem_of_getElem? b5;refine Zz 18 ?_;refine T_ (bJ_ e1) rfl m_ zt rfl fun a3 U=>e_ (aw_ rfl) rfl (Zz 2 ?_)
 cases a3
 ·refine Zz 4 ?_
  refine U_ l_ E_ ax_ rfl rfl rfl rfl rfl rfl fun d7=>?_;refine an_ (news:=List.flatMap ag_ [e1]) cE_ a2 rfl rfl zp rfl (aO_ 0 rfl) (fun u T=>aA_ cj_ T) zu_ zx_ rfl fun G H S=>?_;refine y_ List.perm_append_comm ?_;have x:=zsa S;refine Zz 8 ?_;exact w_ ⟨(i+1,G,H),a4,(by have e:el_ (List.take (i+1) c.atoms)=((el_ (List.take i c.atoms))++[e1]):=zaX_;rw[e];exact x)⟩ zt_ zl (j_ (c_ d_) (j_ (c_ d_) C_)) zh
 refine Zz 8 ?_;exact w_ ⟨(i+1,sv_Q,H_Q),a4,(by have e:el_ (List.take (i+1) c.atoms)=(el_ (List.take i c.atoms)):=zaX_;rw[e];exact a2)⟩ zt_ zl (j_ d_ (j_ d_ ac_)) zh
theorem xv_:hX_ Tryz.prog 144 [(0,1),(1,1),(2,1)] [.int .i64 0,.int .i64 0,.slice none 0 0]:=⟨_,Tryz.zeroValue144,cz_,fun w=>by simp[ak_,bP_]⟩
theorem ml_ (s:Str) (l:List Str) (b:Nat) (n r:Int) (sv:Value) (Hr:Hp) (H:zR 9 1 ag_ sv l Hr) (hl:l.length≤1000000):Tri Tryz.prog 91 #[zp_ b 0,str s] ((b,.cells #[.int .i64 n,.int .i64 r,sv] 144 (0,0))::Hr) [] (fun y:{y:List Str×Value×Hp // zR 9 1 ag_ y.2.1 y.1 y.2.2∧y.1.length≤l.length+1}=>.tuple #[]) (fun y=>(b,.cells #[.int .i64 n,.int .i64 r,y.1.2.1] 144 (0,0))::y.1.2.2) (fun _=>[]):=by
 refine i_ Tryz.func91 rfl rfl Tryz.ntmps91 rfl fun G=>?_;refine Zz 7 ?_;refine M_ (ι:={y:Nat×Value×Hp // y.1≤List.length l∧zR 9 1 ag_ y.2.1 l y.2.2}) (fun y=>[(0,zp_ b 0),(1,str s),(4,.int .i64 (y.1.1:Int))]) (fun y=>((b,.cells #[.int .i64 n,.int .i64 r,y.1.2.1] 144 (0,0))::y.1.2.2)) (fun y=>[]) (fun y=>List.length l - y.1.1) ⟨((0:Nat),sv,Hr),by simp,H⟩ zl zp zt ?_;rintro ⟨⟨i,k,q⟩,v,d⟩;dsimp only at v d ⊢;refine Zz 8 ?_;refine e_ (dJ_ d l_ rfl) rfl ?_;refine Zi 0 (fun e=>?_) fun e=>?_
 ·refine Zz 12 ?_
  refine U_ l_ E_ ax_ rfl rfl rfl rfl rfl rfl fun J=>?_;refine an_ (news:=List.flatMap ag_ [s]) cE_ d rfl rfl zp rfl (aO_ 0 rfl) (fun u I=>aA_ cj_ I) zE_ zs_ rfl fun A x e=>?_;refine y_ List.perm_append_comm ?_;have h:=zsa e;refine Zz 2 ?_;refine dr_ 1 h bP_ rfl rfl rfl rfl (Zz 2 ?_);exact co_ Tryz.results91 ⟨((l++[s]),A,x),h,by first|omega|(simp only[List.length_append,List.length_cons,List.length_nil];omega)⟩ rfl (j_ (c_ d_) C_) zt
 obtain⟨m,F,B,E⟩:=zge (show i<List.length l by omega);refine Zz 14 ?_;refine e_ (bF_ d l_ E_ rfl rfl zs_ zs_) rfl (e_ (cF_ d C_ W_ rfl (o_ aq_ B 0 _ rfl)) rfl (Zi 1 (fun C=>?_) fun C=>?_))
 ·refine Zz 11 ?_
  exact w_ ⟨(i+1,k,q),m,d⟩ zt_ zl zp zt
 refine Zz 4 ?_;exact ret0 Tryz.results91 ⟨(l,k,q),d,by first|omega|(simp only[List.length_append,List.length_cons,List.length_nil];omega)⟩ rfl zp zt
theorem szs_take_le:∀ (l:List Con) (i:Nat),Con.sz.szs (l.take i)≤Con.sz.szs l
  | [],i=>by simp
  | c::l,0=>by simp[Con.sz.szs]
  | c::l,i+1=>by
    have:=szs_take_le l i;simp only[List.take_succ_cons,Con.sz.szs];omega
theorem mI_:∀ (m:Nat) (c:Con),c.sz≤m→c.ok→∀ (b:Nat) (n r:Int) (l:List Str) (sv:Value) (Hr:Hp),zR 9 1 ag_ sv l Hr→(0≤n∧0≤r∧n+c.sz≤100000∧r+c.sz≤100000∧l.length+c.sz≤100000)→Tri Tryz.prog 90 #[zp_ b 0,Con.val c] ((b,.cells #[.int .i64 n,.int .i64 r,sv] 144 (0,0))::Hr) [Con.memF c] (fun y:{y:Int×Int×List Str×Value×Hp // zR 9 1 ag_ y.2.2.2.1 y.2.2.1 y.2.2.2.2∧(n≤y.1∧y.1≤n+c.sz)∧(r≤y.2.1∧y.2.1+n≤r+y.1)∧y.2.2.1.length≤l.length+c.sz}=>.tuple #[]) (fun y=>(b,.cells #[.int .i64 y.1.1,.int .i64 y.1.2.1,y.1.2.2.2.1] 144 (0,0))::y.1.2.2.2.2) (fun _=>[]):=by
 intro m
 induction m with
 | zero=>intro c h;have:=c.sz_pos;omega
 | succ m ih =>
   intro c hm S b n r l sv Hr hr hbd;have hnl:=Con.ok_name S;have hpl:=Con.ok_len S;have hsp:=c.sz_pos;have hse:=Con.sz_eq c;refine i_ Tryz.func90 rfl rfl Tryz.ntmps90 rfl fun v_1=>?_;refine Zz 2 ?_;refine aa_ rfl rfl fun B=>Zz 7 ?_
   refine B_ (bt_ rfl rfl) rfl fun a8 A=>Zz 1 ?_
   refine ai_ 5 (((Con.kind c)==0)&&((List.length (Con.parts c):Int)==0)) (fun r=>[(0,zp_ b 0),(3,zp_ B 0),(13,.bool r)]) ?_ fun I e=>?_
   · skip
     cases a8
     · skip
       have d:=A;replace A:=znb A;refine Zz 7 ?_;exact met ⟨rfl,rfl,(n_ rfl (jaf d)),trivial⟩
     · skip
       have d:=A;replace A:=zeb A;refine Zz 7 ?_;refine B_ (bt_ rfl rfl) rfl fun K E=>Zz 3 ?_
       exact met ⟨rfl,rfl,(n_ rfl (jat d E)),trivial⟩
   · skip
     refine Zz 1 ?_;refine ai_ 4 (((((Con.kind c)==0)&&((List.length (Con.parts c):Int)==0)))&&((Con.name c)==[])) (fun r=>[(0,zp_ b 0),(3,zp_ B 0),(18,.bool r)]) ?_ fun K E=>?_
     · skip
       cases I
       · skip
         have d:=e;simp at e
         refine Zz 6 ?_;exact met ⟨rfl,rfl,(n_ rfl (jaf d)),trivial⟩
       · skip
         have d:=e;simp at e
         refine Zz 5 ?_;refine B_ (cX_ rfl rfl) rfl fun a1 x=>Zz 3 ?_
         exact met ⟨rfl,rfl,(n_ rfl (jat d x)),trivial⟩
     · skip
       refine Zz 2 ?_;cases K
       · skip
         simp at E
         refine Zz 13 ?_;refine u_ 1 ak_ rfl rfl rfl rfl rfl rfl (Zz 7 ?_);refine B_ (bt_ rfl rfl) rfl fun a1 x=>Zz 2 ?_
         refine hu_ (ι:={y:Int // (r≤y∧y≤r+1)}) (fun y=>[(0,zp_ b 0),(3,zp_ B 0)]) (fun y=>((B,.cells (Con.cells c).toArray 40 (0,0))::((b,.cells #[.int .i64 (n+1),.int .i64 y.1,sv] 144 (0,0))::Hr))) (fun y=>[Con.memF c]) ?_ ?_
         · skip
           cases a1
           · skip
             replace x:=znb x;refine Zz 3 ?_;exact ds_ ⟨r,zN_⟩ zl zp zf
           · skip
             replace x:=zeb x;refine Zz 10 ?_;refine u_ 1 ak_ rfl rfl rfl rfl rfl rfl (Zz 2 ?_);exact ds_ ⟨(r+1),zN_⟩ zl zp zf
         · skip
           rintro ⟨I,e⟩;dsimp only at e ⊢;refine Zz 6 ?_;refine B_ (bt_ rfl rfl) rfl fun r_5 H=>Zz 2 ?_
           refine hu_ (ι:={y:List Str×Value×Hp // List.length y.1≤List.length l+1∧zR 9 1 ag_ y.2.1 y.1 y.2.2}) (fun y=>[(0,zp_ b 0),(3,zp_ B 0)]) (fun y=>((B,.cells (Con.cells c).toArray 40 (0,0))::((b,.cells #[.int .i64 (n+1),.int .i64 I,y.1.2.1] 144 (0,0))::y.1.2.2))) (fun y=>[Con.memF c]) ?_ ?_
           · skip
             cases r_5
             · skip
               replace H:=znb H;refine Zz 3 ?_;exact ds_ ⟨(l,sv,Hr),zN_,hr⟩ zl zp zf
             · skip
               replace H:=zeb H;refine Zz 5 ?_;refine g_ (ml_ (Con.name c) l b (n+1) I sv Hr hr zs_) rfl zp zt rfl fun⟨⟨a2,Q,J⟩,N,a6⟩=>?_;dsimp only;dsimp only at N a6;refine Zz 2 ?_;exact ds_ ⟨(a2,Q,J),zN_,N⟩ zl zp zf
           · skip
             rintro ⟨⟨b1,G,L⟩,V,k⟩;dsimp only at V k ⊢;refine Zz 7 ?_;refine M_ (ι:={y:Nat×Int×Int×List Str×Value×Hp // y.1≤List.length (Con.parts c)∧(n≤y.2.1∧y.2.1≤n+((1+Con.sz.szs (List.take y.1 (Con.parts c)):Nat):Int)∧r≤y.2.2.1∧y.2.2.1+n≤r+y.2.1∧List.length y.2.2.2.1≤List.length l+(1+Con.sz.szs (List.take y.1 (Con.parts c))))∧zR 9 1 ag_ y.2.2.2.2.1 y.2.2.2.1 y.2.2.2.2.2}) (fun y=>[(0,zp_ b 0),(3,zp_ B 0),(4,.int .i64 (y.1.1:Int))]) (fun y=>((B,.cells (Con.cells c).toArray 40 (0,0))::((b,.cells #[.int .i64 y.1.2.1,.int .i64 y.1.2.2.1,y.1.2.2.2.2.1] 144 (0,0))::y.1.2.2.2.2.2))) (fun y=>[Con.memF c]) (fun y=>List.length (Con.parts c) - y.1.1) ⟨((0:Nat),(n+1),I,b1,G,L),by simp,(by simp only[List.take_zero,Con.sz.szs];omega),k⟩ zl zp zh ?_;rintro ⟨⟨i,R,a3,a4,G,L⟩,T,Z,k⟩;dsimp only at T Z k ⊢;refine Zz 7 ?_;refine B_ (dc_ rfl rfl) rfl fun b0 q=>Zz 1 ?_
             refine ai_ 6 ((decide ((i:Int)<(List.length (Con.parts c):Int)))&&(decide (R≤1000))) (fun r=>[(0,zp_ b 0),(3,zp_ B 0),(4,.int .i64 (i:Int)),(56,.bool r)]) ?_ fun b3 M=>?_
             · skip
               cases b0
               · skip
                 have d:=q;replace q:=zdf q;refine Zz 8 ?_;exact met ⟨rfl,rfl,rfl,(n_ rfl (jaf d)),trivial⟩
               · skip
                 have d:=q;replace q:=zdt q;refine Zz 9 ?_;refine B_ (dj_ rfl rfl) rfl fun r_9 X=>Zz 3 ?_
                 exact met ⟨rfl,rfl,rfl,(n_ rfl (jat d X)),trivial⟩
             · skip
               refine Zz 2 ?_;cases b3
               · skip
                 simp at M
                 refine Zz 3 ?_;exact co_ Tryz.results90 ⟨(R,a3,a4,G,L),k,by dsimp only;have:=Con.sz_eq c;have a7:=szs_take_le (Con.parts c) i;omega⟩ rfl (j_ (c_ d_) C_) zt
               · skip
                 simp at M
                 obtain⟨P,W,F,C⟩:=zge (show i<List.length (Con.parts c) by omega);refine Zz 10 ?_;refine e_ (S_ ad_ J_ rfl rfl (fun v _ h=>au_ (n:=5) Con.cells_len zw_ (by exact ((Con.mem_iff c v).1 h.1).1) F) zs_ zz_) rfl ?_;refine e_ (aj_ (ad:=(Con.ad c)) (us:=Con.cells W) aH_ J_ rfl (fun v _ h=>by exact ((Con.mem_iff c v).1 h.1).1) (Con.cells_len _) (o_ Con.cells_len F)) rfl (g_ (ih W (by have:=Con.sz_part C;omega) (Con.ok_part S C) b R a3 a4 G L k (by have hst:=Con.szs_step F;have a7:=szs_take_le (Con.parts c) (i+1);omega)) rfl (j_ (c_ d_) C_) (fun v _ h=>by exact⟨(Con.mem_part (c:=c) h.1 C),trivial⟩) rfl fun⟨⟨a9,K,b2,a5,J⟩,O,Y,U,a0⟩=>?_);dsimp only;dsimp only at O Y U a0;refine Zz 2 ?_;refine y_ (R_ d_ (bb_ aP_)) (Zz 6 ?_);exact w_ ⟨(i+1,a9,K,b2,a5,J),P,(by have hst:=Con.szs_step F;dsimp only;omega),O⟩ zt_ zl (j_ (c_ d_) (j_ d_ ac_)) zh
       · skip
         simp at E
         refine Zz 2 ?_;exact ret0 Tryz.results90 ⟨(n,r,l,sv,Hr),hr,by dsimp only;have:=Con.sz_eq c;have a7:=szs_take_le (Con.parts c) 0;omega⟩ rfl (j_ (c_ d_) C_) zt
structure AL where
  l:List Ax
  ad:Option Addr
  cap:Nat
def AL.cells (x:AL):List Value:=[.slice x.ad x.l.length x.cap]
theorem AL.cells_len (x:AL):x.cells.length=1:=rfl
structure AL.ok (x:AL):Prop where
  len:x.l.length≤2199023255488
  ok:∀ a∈x.l,a.ok
def alF (xs:List AL):Fct where
  p v:=∀ x∈xs,(ej_ x.ad x.l).p v
  mono:=fun v v' h hp x hx=>(ej_ x.ad x.l).mono v v' h (hp x hx)
theorem ew_ {G:Prop} (h:G:=by
 exact ae_ Tryz.results44 false rfl m_ zt):G:=h
theorem lg_ {G:Prop} (h:G:=by
 rintro ⟨⟨a3,A,I⟩,T,d⟩;dsimp only at T d ⊢;refine Zz 7 ?_;exact w_ ⟨(j+1,a3,(bg++[46])++P,A,I),b0,zt_,(by have:=J.roles P S;simp only[List.length_append,List.length_cons,List.length_nil];omega),d⟩ zt_ zl (j_ d_ (j_ d_ ac_)) zh):G:=h
theorem vY_ (E:List AL) (B:Option Addr) (H:Nat) (hok:∀ x∈E,AL.ok x) (hl:E.length≤1000):Tri Tryz.prog 44 #[.slice B (List.length E) H,.int .i64 40] [] [ah_ B (List.flatMap AL.cells E),alF E] (fun b:Bool=>.bool b) (fun _=>[]) (fun _=>[]):=by
 refine i_ Tryz.func44 rfl rfl Tryz.ntmps44 rfl fun v_1=>?_;refine Zz 7 ?_;refine e_ (I_ xv_ rfl rfl) rfl (aa_ rfl rfl fun q=>Zz 10 ?_);refine M_ (ι:={y:Nat×Int×Int×List Str×Value×Hp // y.1≤List.length E∧(0≤y.2.1∧0≤y.2.2.1∧y.2.2.1≤y.2.1∧y.2.1≤1000∧List.length y.2.2.2.1≤1000)∧zR 9 1 ag_ y.2.2.2.2.1 y.2.2.2.1 y.2.2.2.2.2}) (fun y=>[(0,.slice B (List.length E) H),(1,.int .i64 40),(4,.bool false),(5,zp_ q 0),(6,.int .i64 (y.1.1:Int))]) (fun y=>((q,.cells #[.int .i64 y.1.2.1,.int .i64 y.1.2.2.1,y.1.2.2.2.2.1] 144 (0,0))::y.1.2.2.2.2.2)) (fun y=>[ah_ B (List.flatMap AL.cells E),alF E]) (fun y=>List.length E - y.1.1) ⟨((0:Nat),0,0,([]:List Str),(.slice none 0 0),[]),by simp,(by first|exact a6|simp),(ay_.nil _ _)⟩ zl d_ zh ?_;rintro ⟨⟨i,n_1,r_1,l_1,A,I⟩,d4,a6,d⟩;dsimp only at d4 a6 d ⊢;refine Zi 6 (fun hr_1=>?_) fun hr_1=>?_
 ·refine Zi 12 (fun a4=>?_) fun a4=>?_
  ·refine Zz 19 ?_
   exact ew_
  refine Zi 10 (fun a5=>?_) fun a5=>?_
  ·refine Zz 13 ?_
   exact ew_
  refine Zz 11 ?_;refine e_ (dJ_ d l_ rfl) rfl (aQ_ rfl rfl (B_ (dj_ rfl rfl) rfl fun b1 b7=>Zz 5 ?_));exact ae_ Tryz.results44 b1 rfl m_ zt
 obtain⟨b9,G,hx_1,m⟩:=zge (show i<List.length E by omega);have hal:=(hok G m).len;refine Zz 13 ?_;refine M_ (ι:={y:Nat×Int×Int×List Str×Value×Hp // y.1≤List.length (AL.l G)∧(0≤y.2.1∧0≤y.2.2.1∧y.2.2.1≤y.2.1∧y.2.1≤1000∧List.length y.2.2.2.1≤1000)∧zR 9 1 ag_ y.2.2.2.2.1 y.2.2.2.1 y.2.2.2.2.2}) (fun y=>[(0,.slice B (List.length E) H),(1,.int .i64 40),(4,.bool false),(5,zp_ q 0),(6,.int .i64 (i:Int)),(7,.int .i64 (y.1.1:Int))]) (fun y=>((q,.cells #[.int .i64 y.1.2.1,.int .i64 y.1.2.2.1,y.1.2.2.2.2.1] 144 (0,0))::y.1.2.2.2.2.2)) (fun y=>[ah_ B (List.flatMap AL.cells E),alF E]) (fun y=>List.length (AL.l G) - y.1.1) ⟨((0:Nat),n_1,r_1,l_1,A,I),by simp,(by first|exact a6|simp),d⟩ zl zp zh ?_;rintro ⟨⟨k,d5,b1,l_2,A,I⟩,hi_k,a9,d⟩;dsimp only at hi_k a9 d ⊢;refine Zi 9 (fun a4=>?_) fun a4=>?_
 ·refine Zz 11 ?_
  exact w_ ⟨(i+1,d5,b1,l_2,A,I),b9,(by first|exact a9|(dsimp only;omega)),d⟩ zt_ zl zp zh
 obtain⟨d0,e,b5,C⟩:=zge (show k<List.length (AL.l G) by omega);have J:=(hok G m).ok e C;have hrl_1:=J.len;have hrc_1:=J.cap;refine Zz 14 ?_;refine e_ (S_ aU_ br_ rfl rfl (fun v _ h=>au_ (n:=16) Ax.cells_len zw_ (by exact (h.2.1 G m).1) b5) zs_ zz_) rfl ?_;refine e_ (aj_ (ad:=(AL.ad G)) (us:=Ax.cells e) sx_ br_ rfl (fun v _ h=>by exact (h.2.1 G m).1) (Ax.cells_len _) (o_ Ax.cells_len b5)) rfl (G_ cI_ rfl fun L=>u_ 0 br_ rfl rfl rfl rfl rfl rfl (Zi 10 (fun a5=>?_) fun a5=>?_))
 ·refine Zz 10 ?_
  refine e_ (dJ_ d l_ rfl) rfl (aQ_ rfl rfl ?_);refine Zi 0 (fun b7=>?_) fun b7=>?_
  ·refine Zi 9 (fun hr_5=>?_) fun hr_5=>?_
   ·refine Zz 5 ?_
    refine g_ (lS_ e J) rfl m_ (fun v _ h=>by exact⟨((h.2.1 G m).2 e C),trivial⟩) rfl fun⟨bf,hbf⟩=>?_;dsimp only;refine aQ_ rfl rfl (e_ (aw_ rfl) rfl (Zz 3 ?_));cases bf
    ·refine Zz 7 ?_
     exact ew_
    have a2:=hbf rfl;have hfl:=a2.left;have hfr:=a2.right;refine Zz 8 ?_;refine g_ (mI_ _ (Ax.left e) (Nat.le_refl _) J.left q d5 b1 l_2 A I d (by have:=a2.left;have:=a2.right;omega)) rfl (j_ (c_ d_) C_) (fun v _ h=>by exact⟨((h.2.1 G m).2 e C).1,trivial⟩) rfl fun⟨⟨e0,rw_1,lw_1,c1,Hw_1⟩,b4,hy1b,d8,hy1d⟩=>?_;dsimp only;dsimp only at b4 hy1b d8 hy1d;refine Zz 2 ?_;refine y_ (R_ d_ (bb_ aP_)) (Zz 5 ?_);refine g_ (mI_ _ (Ax.right e) (Nat.le_refl _) J.right q e0 rw_1 lw_1 c1 Hw_1 b4 (by have:=a2.left;have:=a2.right;omega)) rfl (j_ d_ C_) (fun v _ h=>by exact⟨((h.2.1 G m).2 e C).2.1,trivial⟩) rfl fun⟨⟨X,F,a7,Q,U⟩,a8,d3,d6,hy2d⟩=>?_;dsimp only;dsimp only at a8 d3 d6 hy2d;refine Zz 3 ?_;refine y_ (R_ d_ (bb_ aP_)) (Zz 4 ?_);refine B_ (cJ_ rfl rfl) rfl fun r_3 Z=>Zz 2 ?_
    refine hu_ (ι:={y:Int // (X≤y∧y≤X+1)}) (fun y=>[(0,.slice B (List.length E) H),(1,.int .i64 40),(4,.bool false),(5,zp_ q 0),(6,.int .i64 (i:Int)),(7,.int .i64 (k:Int)),(8,zp_ L 0)]) (fun y=>((L,.cells (Ax.cells e).toArray 42 (0,0))::((q,.cells #[.int .i64 y.1,.int .i64 F,Q] 144 (0,0))::U))) (fun y=>[ah_ B (List.flatMap AL.cells E),alF E]) ?_ ?_
    ·cases r_3
     ·replace Z:=fn_ Z
      refine Zz 3 ?_;exact ds_ ⟨X,zN_⟩ zl zp zf
     replace Z:=fl_ Z;refine Zz 10 ?_;refine u_ 0 ak_ rfl rfl rfl rfl rfl rfl (Zz 2 ?_);exact ds_ ⟨(X+1),zN_⟩ zl (j_ (c_ d_) (j_ d_ ac_)) zf
    rintro ⟨a1,b8⟩;dsimp only at b8 ⊢;refine Zz 6 ?_;refine B_ (cJ_ rfl rfl) rfl fun r_4 V=>Zz 2 ?_
    refine hu_ (ι:={y:Int // (a1≤y∧y≤a1+1)}) (fun y=>[(0,.slice B (List.length E) H),(1,.int .i64 40),(4,.bool false),(5,zp_ q 0),(6,.int .i64 (i:Int)),(7,.int .i64 (k:Int)),(8,zp_ L 0)]) (fun y=>((L,.cells (Ax.cells e).toArray 42 (0,0))::((q,.cells #[.int .i64 y.1,.int .i64 F,Q] 144 (0,0))::U))) (fun y=>[ah_ B (List.flatMap AL.cells E),alF E]) ?_ ?_
    ·cases r_4
     ·replace V:=fn_ V
      refine Zz 3 ?_;exact ds_ ⟨a1,zN_⟩ zl zp zf
     replace V:=fl_ V;refine Zz 10 ?_;refine u_ 1 ak_ rfl rfl rfl rfl rfl rfl (Zz 2 ?_);exact ds_ ⟨(a1+1),zN_⟩ zl zp zf
    rintro ⟨K,c2⟩;dsimp only at c2 ⊢;refine Zz 6 ?_;refine B_ (cJ_ rfl rfl) rfl fun r_5 Y=>Zz 2 ?_
    refine hu_ (ι:={y:List Str×Value×Hp // List.length y.1≤List.length a7+1∧zR 9 1 ag_ y.2.1 y.1 y.2.2}) (fun y=>[(0,.slice B (List.length E) H),(1,.int .i64 40),(4,.bool false),(5,zp_ q 0),(6,.int .i64 (i:Int)),(7,.int .i64 (k:Int)),(8,zp_ L 0)]) (fun y=>((L,.cells (Ax.cells e).toArray 42 (0,0))::((q,.cells #[.int .i64 K,.int .i64 F,y.1.2.1] 144 (0,0))::y.1.2.2))) (fun y=>[ah_ B (List.flatMap AL.cells E),alF E]) ?_ ?_
    ·cases r_5
     ·replace Y:=fn_ Y
      refine Zz 3 ?_;exact ds_ ⟨(a7,Q,U),zN_,a8⟩ zl zp zf
     replace Y:=fl_ Y;refine Zz 5 ?_;refine g_ (ml_ (Ax.role e) a7 q K F Q U a8 zs_) rfl zp zt rfl fun⟨⟨M,N,R⟩,b3,hy3b⟩=>?_;dsimp only;dsimp only at b3 hy3b;refine Zz 2 ?_;exact ds_ ⟨(M,N,R),zN_,b3⟩ zl zp zf
    rintro ⟨⟨b2,A,I⟩,c0,d⟩;dsimp only at c0 d ⊢;refine Zz 12 ?_;refine M_ (ι:={y:Nat×List Str×Str×Value×Hp // y.1≤List.length (Ax.roles e)∧List.length y.2.1≤List.length b2+2*y.1∧List.length y.2.2.1≤140737488351300*y.1∧zR 9 1 ag_ y.2.2.2.1 y.2.1 y.2.2.2.2}) (fun y=>[(0,.slice B (List.length E) H),(1,.int .i64 40),(4,.bool false),(5,zp_ q 0),(6,.int .i64 (i:Int)),(7,.int .i64 (k:Int)),(8,zp_ L 0),(9,str y.1.2.2.1),(10,.int .i64 (y.1.1:Int))]) (fun y=>((L,.cells (Ax.cells e).toArray 42 (0,0))::((q,.cells #[.int .i64 K,.int .i64 F,y.1.2.2.2.1] 144 (0,0))::y.1.2.2.2.2))) (fun y=>[ah_ B (List.flatMap AL.cells E),alF E]) (fun y=>List.length (Ax.roles e) - y.1.1) ⟨((0:Nat),b2,([]:Str),A,I),by simp,zB_,zB_,d⟩ zl zp zh ?_;rintro ⟨⟨j,l_3,bg,A,I⟩,hi_j,d9,hbg,d⟩;dsimp only at hi_j d9 hbg d ⊢;refine Zi 7 (fun hr_9=>?_) fun hr_9=>?_
    ·refine Zz 11 ?_
     exact w_ ⟨(k+1,K,F,l_3,A,I),d0,(by first|exact a9|(dsimp only;omega)),d⟩ zt_ zl zp zh
    obtain⟨b0,P,a0,S⟩:=zge (show j<List.length (Ax.roles e) by omega);have hrl_2:=J.roles P S;refine Zz 13 ?_;refine e_ (S_ l_ E_ rfl rfl (fun v _ h=>au_ (n:=1) aq_ zw_ (by exact ((h.2.1 G m).2 e C).2.2) a0) zs_ zz_) rfl ?_;refine e_ (bn_ (ad:=(Ax.ad e)) W_ rfl (fun v _ h=>by exact ((h.2.1 G m).2 e C).2.2) (o_ aq_ a0 0 _ rfl)) rfl (g_ (ml_ P l_3 q K F A I d zs_) rfl zp zt rfl fun⟨⟨M,N,R⟩,W,hy4b⟩=>?_);dsimp only;dsimp only at W hy4b;refine Zz 2 ?_;refine y_ (R_ d_ (bb_ aP_)) (Zz 3 ?_);refine e_ (er_ rfl rfl zI_) rfl ?_;refine Zz 3 ?_;refine e_ (S_ l_ E_ rfl rfl (fun v _ h=>au_ (n:=1) aq_ zw_ (by exact ((h.2.1 G m).2 e C).2.2) a0) zs_ zz_) rfl ?_;refine e_ (bn_ (ad:=(Ax.ad e)) W_ rfl (fun v _ h=>by exact ((h.2.1 G m).2 e C).2.2) (o_ aq_ a0 0 _ rfl)) rfl (e_ (er_ rfl rfl zI_) rfl ?_);refine Zi 6 (fun d1=>?_) fun d1=>?_
    ·refine Zz 10 ?_
     refine hu_ (ι:={y:List Str×Value×Hp // List.length y.1≤List.length M+1∧zR 9 1 ag_ y.2.1 y.1 y.2.2}) (fun y=>[(0,.slice B (List.length E) H),(1,.int .i64 40),(4,.bool false),(5,zp_ q 0),(6,.int .i64 (i:Int)),(7,.int .i64 (k:Int)),(8,zp_ L 0),(9,str ((bg++[46])++P)),(10,.int .i64 (j:Int))]) (fun y=>((L,.cells (Ax.cells e).toArray 42 (0,0))::((q,.cells #[.int .i64 K,.int .i64 F,y.1.2.1] 144 (0,0))::y.1.2.2))) (fun y=>[ah_ B (List.flatMap AL.cells E),alF E]) ?_ ?_
     ·refine Zz 3 ?_
      exact ds_ ⟨(M,N,R),zN_,W⟩ zl zp zf
     exact lg_
    refine Zz 12 ?_;refine B_ (dc_ rfl rfl) rfl fun r_6 O=>Zz 3 ?_
    refine hu_ (ι:={y:List Str×Value×Hp // List.length y.1≤List.length M+1∧zR 9 1 ag_ y.2.1 y.1 y.2.2}) (fun y=>[(0,.slice B (List.length E) H),(1,.int .i64 40),(4,.bool false),(5,zp_ q 0),(6,.int .i64 (i:Int)),(7,.int .i64 (k:Int)),(8,zp_ L 0),(9,str ((bg++[46])++P)),(10,.int .i64 (j:Int))]) (fun y=>((L,.cells (Ax.cells e).toArray 42 (0,0))::((q,.cells #[.int .i64 K,.int .i64 F,y.1.2.1] 144 (0,0))::y.1.2.2))) (fun y=>[ah_ B (List.flatMap AL.cells E),alF E]) ?_ ?_
    ·cases r_6
     ·replace O:=zdf O
      refine Zz 3 ?_;exact ds_ ⟨(M,N,R),zN_,W⟩ zl zp zf
     replace O:=zdt O;refine Zz 4 ?_;refine g_ (ml_ ((bg++[46])++P) M q K F N R W zs_) rfl zp zt rfl fun⟨⟨lw_4,d2,Hw_4⟩,b6,d7⟩=>?_;dsimp only;dsimp only at b6 d7;refine Zz 2 ?_;exact ds_ ⟨(lw_4,d2,Hw_4),zN_,b6⟩ zl zp zf
    exact lg_
   refine Zz 15 ?_;exact ew_
  refine Zz 21 ?_;exact ew_
 refine Zz 28 ?_;exact ew_
theorem yZ_ (h:List AL) (e:Option Addr) (d:Nat) (k:∀ x∈h,AL.ok x) (hl:h.length≤1000):Tri Tryz.prog 13 #[.slice e (List.length h) d] [] [ah_ e (List.flatMap AL.cells h),alF h] (fun b:Bool=>.bool b) (fun _=>[]) (fun _=>[]):=by
  refine i_ Tryz.func13 rfl rfl Tryz.ntmps13 rfl fun q=>?_;refine Zz 8 ?_;refine g_ (vY_ h e d k hl) rfl m_ zf rfl fun m=>Zz 4 ?_
  exact ae_ Tryz.results13 m rfl m_ zt
theorem al_one {x:AL} {v:Vw} (h:(ej_ x.ad x.l).p v):(alF [x]).p v:=fun y d=>by rw[List.mem_singleton.1 d];exact h
theorem uP_ {x:AL} (h:x.ok):∀ y∈[x],AL.ok y:=fun y d=>by rw[List.mem_singleton.1 d];exact h
theorem yx_ (d:List Ax) (lad:Option Addr) (lcap:Nat) (m:d.length≤lcap∧lcap≤2199023255488) (e:∀ x∈d,x.ok):Tri Tryz.prog 8 #[.slice lad (List.length d) lcap] [] [ej_ lad d] (fun b:{b:Bool // b=true→d.length≤10∧∀ x∈d,Ax.Few x}=>.bool b.1) (fun _=>[]) (fun _=>[]):=by
 refine i_ Tryz.func8 rfl rfl Tryz.ntmps8 rfl fun y=>?_;refine Zz 8 ?_;refine g_ (pM_ d lad lcap 10 m e) rfl m_ zf rfl fun⟨A,k⟩=>?_;dsimp only;refine Zz 1 ?_;cases A
 ·refine Zz 8 ?_
  exact ae_ Tryz.results8 ⟨false,fun h=>by cases h⟩ rfl m_ zt
 refine Zz 3 ?_;refine U_ cL_ Tryz.sizeOf22 Tryz.zeroValue22 rfl rfl rfl rfl rfl rfl fun q=>?_;refine cQ_ (List.flatMap AL.cells [(AL.mk d lad lcap)]) d_ rfl ?_;refine aQ_ rfl rfl (g_ (yZ_ [(AL.mk d lad lcap)] (some ⟨q,0,none⟩) 1 (uP_ ⟨by dsimp only;omega,e⟩) zB_) rfl m_ (fun v _ h=>by exact⟨h.1,(al_one h.2.1),trivial⟩) rfl fun B=>?_);refine Zz 5 ?_;exact ae_ Tryz.results8 ⟨B,fun _=>⟨by have:=(k rfl).1;omega,(k rfl).2⟩⟩ rfl m_ zt
end Go.Proofs.YtpbnmnfdgckaiaaGreatDoor
namespace Go.Proofs.YtpbnmnfdgckaiaaGreatDoor
open Go Go.Sx Go.Proofs
attribute [local irreducible] Code.wp wpList wpAnyH
open Go.Vs Go.Shelf Go.RowKit
structure Mdl where
  no:List Str
  noa:Option Addr
  noc:Nat
  ty:List Fc
  tya:Option Addr
  tyc:Nat
  li:List Fc
  lia:Option Addr
  lic:Nat
  di:List Fc
  dia:Option Addr
  dic:Nat
  ra:List Fc
  raa:Option Addr
  rac:Nat
  ro:List Fc
  roa:Option Addr
  roc:Nat
def Mdl.cells (m:Mdl):List Value:=[.slice m.noa m.no.length m.noc,.slice m.tya m.ty.length m.tyc,.slice m.lia m.li.length m.lic,.slice m.dia m.di.length m.dic,.slice m.raa m.ra.length m.rac,.slice m.roa m.ro.length m.roc]
def Mdl.val (m:Mdl):Value:=.agg #[.slice m.noa m.no.length m.noc,.slice m.tya m.ty.length m.tyc,.slice m.lia m.li.length m.lic,.slice m.dia m.di.length m.dic,.slice m.raa m.ra.length m.rac,.slice m.roa m.ro.length m.roc]
theorem Mdl.cells_len (m:Mdl):m.cells.length=6:=rfl
def ma_ (m:Mdl):Fct where
  p v:=bx_ v m.noa (List.flatMap ag_ m.no)∧bx_ v m.tya (List.flatMap Fc.cells m.ty)∧bx_ v m.lia (List.flatMap Fc.cells m.li)∧bx_ v m.dia (List.flatMap Fc.cells m.di)∧bx_ v m.raa (List.flatMap Fc.cells m.ra)∧bx_ v m.roa (List.flatMap Fc.cells m.ro)
  mono:=fun v v' h hp=>⟨(ah_ m.noa (List.flatMap ag_ m.no)).mono v v' h hp.1,(ah_ m.tya (List.flatMap Fc.cells m.ty)).mono v v' h hp.2.1,(ah_ m.lia (List.flatMap Fc.cells m.li)).mono v v' h hp.2.2.1,(ah_ m.dia (List.flatMap Fc.cells m.di)).mono v v' h hp.2.2.2.1,(ah_ m.raa (List.flatMap Fc.cells m.ra)).mono v v' h hp.2.2.2.2.1,(ah_ m.roa (List.flatMap Fc.cells m.ro)).mono v v' h hp.2.2.2.2.2⟩
structure Mdl.ok (m:Mdl):Prop where
  no:m.no.length≤9223372036854775807
  ty:m.ty.length≤9223372036854775807
  li:m.li.length≤9223372036854775807
  di:m.di.length≤9223372036854775807
  ra:m.ra.length≤9223372036854775807
  ro:m.ro.length≤9223372036854775807
def Mdl.nil:Mdl:=⟨[],none,0,[],none,0,[],none,0,[],none,0,[],none,0,[],none,0⟩
theorem Mdl.nil_ok:Mdl.nil.ok:=⟨by decide,by decide,by decide,by decide,by decide,by decide⟩
def uR_ (ls:List Ax) (m:Mdl) (e:Int):Prop :=
  (e=0∧(∀ x∈ls,x.check=0)∧¬ mj_ (cD_ ls)∧∃ c,fB_ (cc_ 0 ls) 1073741824 c 0∧AsmR (cc_ 0 ls) c m.no m.ty m.li m.di m.ra∧zb_ ls m.ro) ∨
  (e≠0∧m=Mdl.nil∧((∃ x∈ls,x.check≠0)∨mj_ (cD_ ls)∨((∀ x∈ls,x.check=0)∧∃ c,fB_ (cc_ 0 ls) 1073741824 c e)))
theorem rlR_e {l:List Ax} {e:Int} (h:RlR l e) (d:e≠0):mj_ (cD_ l):=by
 rcases h with⟨h,_⟩|⟨_,h⟩
 ·exact absurd h d
 exact h
theorem rlR_0 {l:List Ax} {e:Int} (h:RlR l e) (d:e=0):¬ mj_ (cD_ l):=by
 rcases h with⟨_,h⟩|⟨h,_⟩
 ·exact h
 omega
theorem vN_ (l:List Ax) (ad:Option Addr) (cap:Nat) (e:l.length≤12) (d:∀ x∈l,x.ok) (k:∀ x∈l,x.check=0) :
    Tri Tryz.prog 31 #[.slice ad l.length cap] [] [ej_ ad l,ci_] (fun y:{y:Option Addr×Nat // (cc_ 0 l).length≤y.2∧y.2≤maxLen∧(y.1=none→y.2=0)}=>.tuple #[.slice y.1.1 (cc_ 0 l).length y.1.2,.int .i64 0]) (fun _=>[]) (fun y=>[ah_ y.1.1 ((cc_ 0 l).flatMap Pc.cells)]):=by
  have h:=uk_ l ad cap zs_ d;rw[si_ e k]at h;exact h
theorem yS_ (p:List Pc):SrS (atS p):=nV_ p
theorem rR_:hX_ Tryz.prog 28 [(0,1),(1,1),(2,1),(3,1),(4,1),(5,1)] [.slice none 0 0,.slice none 0 0,.slice none 0 0,.slice none 0 0,.slice none 0 0,.slice none 0 0]:=⟨_,ju_,aT_,fun w=>by simp[bP_,ck_]⟩
theorem pU_ (d:List Ax) (lad:Option Addr) (lcap:Nat) (G:∀ x∈d,x.ok) (h12:d.length≤12):Tri Tryz.prog 9 #[.slice lad (List.length d) lcap] [] [ej_ lad d,ci_,jf_] (fun y:{y:Mdl×Int // uR_ d y.1 y.2∧y.1.ok}=>.tuple #[y.1.1.val,.int .i64 y.1.2]) (fun _=>[]) (fun y=>[ma_ y.1.1]):=by
 refine i_ Tryz.func9 rfl rfl Tryz.ntmps9 rfl fun v_1=>?_;refine Zz 2 ?_;refine G_ ju_ rfl fun X=>Zz 12 ?_
 refine M_ (ι:={y:Nat // y≤List.length d∧(∀ z∈List.take y d,Ax.check z=0)}) (fun y=>[(0,.slice lad (List.length d) lcap),(2,zp_ X 0),(9,.slice lad (List.length d) lcap),(10,.int .i64 (List.length d:Int)),(11,.int .i64 (y.1:Int))]) (fun y=>((X,.cells #[.slice none 0 0,.slice none 0 0,.slice none 0 0,.slice none 0 0,.slice none 0 0,.slice none 0 0] 28 (0,0))::[])) (fun y=>[ej_ lad d,ci_,jf_]) (fun y=>List.length d - y.1) ⟨(0:Nat),by simp,zB_⟩ zl d_ zh ?_;rintro ⟨i,W,C⟩;dsimp only at W C ⊢;refine Zi 2 (fun a3=>?_) fun a3=>?_
 ·have M:∀ x∈d,Ax.check x=0:=fun x hx=>C x (by rw[List.take_of_length_le zs_];exact hx)
  refine Zz 10 ?_;refine g_ (uc_ d lad lcap G M zs_) rfl m_ zf rfl fun⟨⟨gv,V⟩,T⟩=>?_;dsimp only;dsimp only at T;refine Zi 9 (fun E=>?_) fun E=>?_
  ·have Z:V=0:=by assumption
   refine Zz 8 ?_;refine g_ (vN_ d lad lcap h12 G M) rfl m_ zf rfl fun⟨⟨U,I⟩,hpc⟩=>?_;dsimp only;dsimp only at hpc;have hfl:=rj_ 0 d M;refine Zz 11 ?_;refine e_ (ar_ (ce_ rfl rfl) (show _=Value.bool false from congrArg Value.bool zw_)) rfl (Zz 8 ?_);refine g_ (all_c (cc_ 0 d) U I 1073741824 (fun z hz=>(rk_ d 0 zs_ G M z hz).2.2.1) zs_) rfl m_ zf rfl fun⟨⟨B,P⟩,e⟩=>?_;dsimp only;have e:fB_ (cc_ 0 d) 1073741824 B P:=e;have hAl:=fB_.len e;refine Zz 3 ?_;refine G_ Tryz.zeroValue67 rfl fun b_2=>u_ 0 bV_ rfl rfl rfl rfl rfl rfl (Zi 7 (fun Y=>?_) fun Y=>?_)
   ·have H:fB_ (cc_ 0 d) 1073741824 B 0:=by have q:P=0:=zA_;subst q;exact e
    refine Zz 8 ?_;refine g_ (incl_c d lad lcap G M zs_) rfl m_ zf rfl fun⟨⟨ro,roa,roc⟩,a1,S⟩=>?_;dsimp only;dsimp only at a1 S;refine Zz 11 ?_;refine e_ (ar_ (ce_ rfl rfl) (show _=Value.bool false from congrArg Value.bool zw_)) rfl (Zz 9 ?_);refine g_ (sQ_ (cc_ 0 d) U I B e.ok zs_ zs_ zs_ (by rw[H.good.2.2.2.2.1];exact yS_ _)) rfl m_ zf rfl fun⟨⟨⟨no,noa,noc⟩,⟨ty,tya,tyc⟩,⟨li,lia,lic⟩,⟨di,dia,dic⟩,⟨ra,raa,rac⟩⟩,a2,J,Q,R,K,N⟩=>?_;dsimp only;dsimp only at a2 J Q R K N;refine u_ 1 bH_ rfl rfl rfl rfl rfl rfl (Zz 6 ?_);refine u_ 1 ck_ rfl rfl rfl rfl rfl rfl (Zz 5 ?_);refine u_ 1 bH_ rfl rfl rfl rfl rfl rfl (Zz 4 ?_);exact gW_ ⟨((Mdl.mk no noa noc ty tya tyc li lia lic di dia dic ra raa rac ro roa roc),0),.inl ⟨rfl,M,rlR_0 T Z,B,H,a2,a1⟩,⟨Nat.le_trans J.1 J.2.1,Nat.le_trans Q.1 Q.2.1,Nat.le_trans R.1 R.2.1,Nat.le_trans K.1 K.2.1,Nat.le_trans N.1 N.2.1,Nat.le_trans S.1 S.2.1⟩⟩ (fun L v A m=>fD_ (us:=Mdl.cells (Mdl.mk no noa noc ty tya tyc li lia lic di dia dic ra raa rac ro roa roc)) 1 Tryz.results9 gl_ bH_ rfl rfl rfl rfl L v A m) m_ (fun v _ h=>by exact⟨⟨h.1,h.2.1,h.2.2.1,h.2.2.2.1,h.2.2.2.2.1,h.2.2.2.2.2.1⟩,trivial⟩)
   refine Zz 5 ?_;refine e_ (I_ rR_ rfl rfl) rfl (Zz 1 ?_);refine u_ 1 bH_ rfl rfl rfl rfl rfl rfl (Zz 4 ?_);exact gW_ ⟨(Mdl.nil,P),.inr ⟨by assumption,rfl,.inr (.inr ⟨M,B,e⟩)⟩,Mdl.nil_ok⟩ (fun L v A m=>fD_ (us:=Mdl.cells Mdl.nil) 1 Tryz.results9 gl_ bH_ rfl rfl rfl rfl L v A m) m_ (fun v _ h=>by exact⟨⟨.inl rfl,.inl rfl,.inl rfl,.inl rfl,.inl rfl,.inl rfl⟩,trivial⟩)
  refine Zz 5 ?_;refine e_ (I_ rR_ rfl rfl) rfl (Zz 1 ?_);refine u_ 0 bH_ rfl rfl rfl rfl rfl rfl (Zz 4 ?_);exact gW_ ⟨(Mdl.nil,V),.inr ⟨by assumption,rfl,.inr (.inl (rlR_e T zA_))⟩,Mdl.nil_ok⟩ (fun L v A m=>fD_ (us:=Mdl.cells Mdl.nil) 0 Tryz.results9 gl_ bH_ rfl rfl rfl rfl L v A m) m_ (fun v _ h=>by exact⟨⟨.inl rfl,.inl rfl,.inl rfl,.inl rfl,.inl rfl,.inl rfl⟩,trivial⟩)
 obtain⟨O,F,a0,k⟩:=zge (show i<List.length d by omega);refine Zz 12 ?_;refine G_ cI_ rfl fun b_2=>u_ 0 br_ rfl rfl rfl rfl rfl rfl (Zz 5 ?_)
 refine g_ (hL_ F (G F k)) rfl m_ (fun v _ h=>by exact⟨(h.1.2 F k),h.2.1,trivial⟩) rfl fun _=>Zi 6 (fun E=>?_) fun E=>?_
 ·refine Zz 10 ?_
  exact w_ ⟨i+1,O,(fun z hz=>by rw[tk1 a0,List.mem_append,List.mem_singleton]at hz;exact hz.elim (C z) fun q=>by rw[q];assumption)⟩ zt_ zl (c_ d_) zh
 refine Zz 5 ?_;refine e_ (I_ rR_ rfl rfl) rfl (Zz 1 ?_);refine u_ 1 bH_ rfl rfl rfl rfl rfl rfl (Zz 4 ?_);exact gW_ ⟨(Mdl.nil,(Ax.check F)),.inr ⟨by assumption,rfl,.inl ⟨F,k,by assumption⟩⟩,Mdl.nil_ok⟩ (fun L v A m=>fD_ (us:=Mdl.cells Mdl.nil) 1 Tryz.results9 gl_ bH_ rfl rfl rfl rfl L v A m) m_ (fun v _ h=>by exact⟨⟨.inl rfl,.inl rfl,.inl rfl,.inl rfl,.inl rfl,.inl rfl⟩,trivial⟩)
end Go.Proofs.YtpbnmnfdgckaiaaGreatDoor
namespace Go.Proofs.YtpbnmnfdgckaiaaGreatDoor
open Go Go.Sx Go.Proofs
attribute [local irreducible] Code.wp wpList wpAnyH
open Go.Vs Go.Shelf Go.RowKit
theorem wu_ (l:List Fc) (ad:Option Addr) (cap:Nat) (f:Fc) (hl:l.length≤9223372036854775807):Tri Tryz.prog 89 #[.slice ad (List.length l) cap,Fc.val f] [] [ah_ ad (List.flatMap Fc.cells l)] (fun r:{r:Int // decide (0≤r)=decide (f∈l)}=>.int .i64 r.1) (fun _=>[]) (fun _=>[]):=by
 refine i_ Tryz.func89 rfl rfl Tryz.ntmps89 rfl fun E=>?_;refine Zz 2 ?_;refine aa_ rfl rfl fun v=>Zz 12 ?_
 refine M_ (ι:={y:Nat // y≤List.length l∧f ∉ List.take y l}) (fun y=>[(0,.slice ad (List.length l) cap),(3,zp_ v 0),(4,.int .i64 0),(7,.int .i64 (List.length l:Int)),(8,.int .i64 (y.1:Int))]) (fun y=>((v,.cells #[.int .i64 f.kind,str f.a,str f.b,str f.r,.int .i64 f.lo,.int .i64 f.hi] 36 (0,0))::[])) (fun y=>[ah_ ad (List.flatMap Fc.cells l)]) (fun y=>List.length l - y.1) ⟨(0:Nat),by simp,zB_⟩ zl d_ zh ?_;rintro ⟨i,k,A⟩;dsimp only at k A ⊢;refine Zi 2 (fun x=>?_) fun x=>?_
 ·refine Zz 12 ?_
  exact ae_ Tryz.results89 ⟨-1,by rw[List.take_of_length_le zs_]at A;rw[decide_eq_false A];rfl⟩ rfl m_ zt
 obtain⟨h,B,m,e⟩:=zge (show i<List.length l by omega);refine Zz 16 ?_;refine K_ 0 [0,1,2,3,4,5] zk zs (Zz 5 ?_);refine fr_ rfl (eB_ (p:=f) (q:=B) rfl rfl) rfl fun C d=>Zz 3 ?_
 cases C
 ·replace d:=zdf d
  refine Zz 8 ?_;exact w_ ⟨i+1,h,(by rw[tk1 m,List.mem_append,List.mem_singleton];exact fun q=>q.elim A d)⟩ zt_ zl d_ zh
 replace d:=zdt d;refine Zz 8 ?_;exact ae_ Tryz.results89 ⟨(i:Int),by rw[decide_eq_true (p:=f∈l) (by rw[d];exact e)];exact decide_eq_true zs_⟩ rfl m_ zt
theorem iI_ (l:List Fc) (ad:Option Addr) (cap:Nat) (f:Fc) (hl:l.length≤9223372036854775807):Tri Tryz.prog 43 #[.slice ad (List.length l) cap,Fc.val f] [] [ah_ ad (List.flatMap Fc.cells l)] (fun _:Unit=>.bool (decide (f∈l))) (fun _=>[]) (fun _=>[]):=by
  refine i_ Tryz.func43 rfl rfl Tryz.ntmps43 rfl fun h=>?_;refine Zz 2 ?_;refine aa_ rfl rfl fun k=>Zz 7 ?_
  refine g_ (wu_ l ad cap f hl) rfl m_ zf rfl fun⟨ix,d⟩=>?_;dsimp only;try dsimp only at d
  refine B_ (eH_ rfl rfl) rfl fun m e=>Zz 4 ?_
  exact ae_ Tryz.results43 () (n_ rfl (d.symm.trans e).symm) m_ zt
def rt_ (m:Mdl) (r t:Str):Bool:=(r==t)||decide (X_ r t∈m.ro)
def nZ_ (m:Mdl) (a r b:Str) (f:Fc):Bool:=decide (f=ab_ a f.r b)&&rt_ m f.r r
def vC_ (m:Mdl) (a r b:Str):Bool:=if nls a=false∧nls b=false then decide (ab_ a r b∈m.li) else m.di.any (nZ_ m a r b)
theorem po_ {m:Mdl} {a r b:Str} {f:Fc} (h:f=ab_ a f.r b) (d:rt_ m f.r r=true):nZ_ m a r b f=true:=by unfold nZ_;rw[decide_eq_true h,d];rfl
theorem vA_ {m:Mdl} {a r b:Str} {f:Fc} (h:¬ f=ab_ a f.r b):nZ_ m a r b f=false:=by unfold nZ_;rw[decide_eq_false h];rfl
theorem vz_ {m:Mdl} {a r b:Str} {f:Fc} (d:rt_ m f.r r=false):nZ_ m a r b f=false:=by unfold nZ_;rw[d,Bool.and_false]
theorem jc_ {α:Type} {l:List α} {p:α→Bool} {i:Nat} {x:α} (h:(l.take i).any p=false) (d:l[i]? = some x) (e:p x=false):(l.take (i+1)).any p=false:=by rw[tk1 d,List.any_append,h];simp[e]
theorem rG_ {α:Type} {l:List α} {p:α→Bool} {i:Nat} (h:(l.take i).any p=false) (hi:l.length≤i):l.any p=false:=by rwa [List.take_of_length_le hi]at h
theorem kA_ {α:Type} {l:List α} {p:α→Bool} {x:α} (d:x∈l) (e:p x=true):l.any p=true:=List.any_eq_true.2 ⟨x,d,e⟩
theorem vB_ {m:Mdl} {a r b:Str} (d:nls a=false) (e:nls b=false):vC_ m a r b=decide (ab_ a r b∈m.li):=if_pos ⟨d,e⟩
theorem kL_ {m:Mdl} {a r b:Str} (h:¬ (nls a=false∧nls b=false)):vC_ m a r b=m.di.any (nZ_ m a r b):=if_neg h
theorem jL_ (m:Mdl) (e:m.ok) (n t:Str):Tri Tryz.prog 12 #[Mdl.val m,str n,str t] [] [ma_ m] (fun _:Unit=>.bool (decide (X_ n t∈m.ty))) (fun _=>[]) (fun _=>[]):=by
  refine i_ Tryz.func12 rfl rfl Tryz.ntmps12 rfl fun k=>?_;refine Zz 2 ?_;refine aa_ rfl rfl fun x=>Zz 9 ?_
  refine e_ (I_ eI_ rfl rfl) rfl (T_ (iI_ (Mdl.ty m) (Mdl.tya m) (Mdl.tyc m) (Fc.mk 1 n t [] 0 0) e.ty) rfl m_ (fun v _ h=>by exact⟨h.1.2.1,trivial⟩) rfl fun q d=>Zz 4 ?_);exact ae_ Tryz.results12 () (n_ rfl d.symm) m_ zt
theorem lT_ (m:Mdl) (k:m.ok) (r t:Str):Tri Tryz.prog 52 #[Mdl.val m,str r,str t] [] [ma_ m] (fun _:Unit=>.bool (rt_ m r t)) (fun _=>[]) (fun _=>[]):=by
 refine i_ Tryz.func52 rfl rfl Tryz.ntmps52 rfl fun q=>?_;refine Zz 2 ?_;refine aa_ rfl rfl fun x=>Zi 7 (fun d=>?_) fun d=>?_
 ·refine Zz 10 ?_
  refine e_ (I_ eI_ rfl rfl) rfl (aQ_ rfl rfl (T_ (iI_ (Mdl.ro m) (Mdl.roa m) (Mdl.roc m) (Fc.mk 1 r t [] 0 0) k.ro) rfl m_ (fun v _ h=>by exact⟨h.1.2.2.2.2.2,trivial⟩) rfl fun y e=>Zz 5 ?_));exact ae_ Tryz.results52 () (n_ rfl (by unfold rt_;rw[beq_eq_false_iff_ne.2 d,Bool.false_or];exact e.symm)) m_ zt
 refine Zz 12 ?_;exact ae_ Tryz.results52 () (n_ rfl (by unfold rt_;rw[beq_iff_eq.2 d];rfl)) m_ zt
theorem xL_ (m:Mdl) (J:m.ok) (a r b:Str):Tri Tryz.prog 18 #[Mdl.val m,str a,str r,str b] [] [ma_ m] (fun _:Unit=>.bool (vC_ m a r b)) (fun _=>[]) (fun _=>[]):=by
 refine i_ Tryz.func18 rfl rfl Tryz.ntmps18 rfl fun P=>?_;have Q:=J.di;refine Zz 2 ?_;refine aa_ rfl rfl fun H=>Zz 7 ?_
 refine T_ (bJ_ a) rfl m_ zt rfl fun N C=>e_ (aw_ rfl) rfl (Zz 1 ?_)
 cases N
 ·refine Zz 3 ?_
  refine T_ (bJ_ b) rfl m_ zt rfl fun L A=>aQ_ rfl rfl (e_ (aw_ rfl) rfl (Zz 3 ?_))
  cases L
  ·refine Zz 8 ?_
   refine e_ (I_ eI_ rfl rfl) rfl (T_ (iI_ (Mdl.li m) (Mdl.lia m) (Mdl.lic m) (Fc.mk 2 a b r 0 0) J.li) rfl m_ (fun v _ h=>by exact⟨h.1.2.2.1,trivial⟩) rfl fun G d=>Zz 4 ?_);exact ae_ vG_ () (n_ rfl (by rw[vB_ C A];exact d.symm)) m_ zt
  refine Zz 13 ?_;refine M_ (ι:={y:Nat // y≤List.length (Mdl.di m)∧(List.any (List.take y (Mdl.di m)) (nZ_ m a r b))=false}) (fun y=>[(1,str a),(2,str r),(3,str b),(4,zp_ H 0),(8,.bool false),(27,.slice (Mdl.dia m) (List.length (Mdl.di m)) (Mdl.dic m)),(28,.int .i64 (List.length (Mdl.di m):Int)),(29,.int .i64 (y.1:Int))]) (fun y=>((H,.cells #[.slice (Mdl.noa m) (List.length (Mdl.no m)) (Mdl.noc m),.slice (Mdl.tya m) (List.length (Mdl.ty m)) (Mdl.tyc m),.slice (Mdl.lia m) (List.length (Mdl.li m)) (Mdl.lic m),.slice (Mdl.dia m) (List.length (Mdl.di m)) (Mdl.dic m),.slice (Mdl.raa m) (List.length (Mdl.ra m)) (Mdl.rac m),.slice (Mdl.roa m) (List.length (Mdl.ro m)) (Mdl.roc m)] 28 (0,0))::[])) (fun y=>[ma_ m]) (fun y=>List.length (Mdl.di m) - y.1) ⟨(0:Nat),by simp,zB_⟩ zl d_ zh ?_;rintro ⟨i,F,I⟩;dsimp only at F I ⊢;refine Zi 2 (fun d=>?_) fun d=>?_
  ·refine Zz 12 ?_
   exact ae_ vG_ () (n_ rfl (by rw[kL_ (fun q=>by rw[q.2]at A;cases A),rG_ I zs_])) m_ zt
  obtain⟨x,B,e,E⟩:=zge (show i<List.length (Mdl.di m) by omega);refine Zz 10 ?_;refine e_ (S_ x_ A_ rfl rfl (fun v _ h=>au_ (n:=6) Fc.cells_len zw_ (by exact h.1.2.2.2.1) e) zs_ zz_) rfl ?_;refine e_ (aj_ (ad:=(Mdl.dia m)) (us:=Fc.cells B) bB_ A_ rfl (fun v _ h=>by exact h.1.2.2.2.1) (Fc.cells_len _) (o_ Fc.cells_len e)) rfl (G_ Y_ rfl fun O=>u_ 0 A_ rfl rfl rfl rfl rfl rfl (Zz 9 ?_));refine e_ (I_ eI_ rfl rfl) rfl (B_ (eB_ (p:=B) (q:=(Fc.mk 2 a b B.r 0 0)) rfl rfl) rfl fun G k=>Zz 1 ?_);cases G
  ·replace k:=zdf k
   refine Zz 16 ?_;exact w_ ⟨i+1,x,(jc_ I e (vA_ k))⟩ zt_ zl (c_ d_) zh
  replace k:=zdt k;refine Zz 9 ?_;refine T_ (lT_ m J B.r r) rfl m_ zf rfl fun M K=>Zz 3 ?_
  cases M
  ·refine Zz 8 ?_
   exact w_ ⟨i+1,x,(jc_ I e (vz_ K))⟩ zt_ zl (c_ d_) zh
  refine Zz 7 ?_;exact ae_ vG_ () (n_ rfl (by rw[kL_ (fun q=>by rw[q.2]at A;cases A),kA_ E (po_ k K)])) m_ zt
 refine Zz 19 ?_;refine M_ (ι:={y:Nat // y≤List.length (Mdl.di m)∧(List.any (List.take y (Mdl.di m)) (nZ_ m a r b))=false}) (fun y=>[(1,str a),(2,str r),(3,str b),(4,zp_ H 0),(8,.bool false),(27,.slice (Mdl.dia m) (List.length (Mdl.di m)) (Mdl.dic m)),(28,.int .i64 (List.length (Mdl.di m):Int)),(29,.int .i64 (y.1:Int))]) (fun y=>((H,.cells #[.slice (Mdl.noa m) (List.length (Mdl.no m)) (Mdl.noc m),.slice (Mdl.tya m) (List.length (Mdl.ty m)) (Mdl.tyc m),.slice (Mdl.lia m) (List.length (Mdl.li m)) (Mdl.lic m),.slice (Mdl.dia m) (List.length (Mdl.di m)) (Mdl.dic m),.slice (Mdl.raa m) (List.length (Mdl.ra m)) (Mdl.rac m),.slice (Mdl.roa m) (List.length (Mdl.ro m)) (Mdl.roc m)] 28 (0,0))::[])) (fun y=>[ma_ m]) (fun y=>List.length (Mdl.di m) - y.1) ⟨(0:Nat),by simp,zB_⟩ zl d_ zh ?_;rintro ⟨i,F,I⟩;dsimp only at F I ⊢;refine Zi 2 (fun A=>?_) fun A=>?_
 ·refine Zz 12 ?_
  exact ae_ vG_ () (n_ rfl (by rw[kL_ (fun q=>by rw[q.1]at C;cases C),rG_ I zs_])) m_ zt
 obtain⟨x,B,e,E⟩:=zge (show i<List.length (Mdl.di m) by omega);refine Zz 10 ?_;refine e_ (S_ x_ A_ rfl rfl (fun v _ h=>au_ (n:=6) Fc.cells_len zw_ (by exact h.1.2.2.2.1) e) zs_ zz_) rfl ?_;refine e_ (aj_ (ad:=(Mdl.dia m)) (us:=Fc.cells B) bB_ A_ rfl (fun v _ h=>by exact h.1.2.2.2.1) (Fc.cells_len _) (o_ Fc.cells_len e)) rfl (G_ Y_ rfl fun O=>u_ 0 A_ rfl rfl rfl rfl rfl rfl (Zz 9 ?_));refine e_ (I_ eI_ rfl rfl) rfl (B_ (eB_ (p:=B) (q:=(Fc.mk 2 a b B.r 0 0)) rfl rfl) rfl fun L d=>Zz 1 ?_);cases L
 ·replace d:=zdf d
  refine Zz 16 ?_;exact w_ ⟨i+1,x,(jc_ I e (vA_ d))⟩ zt_ zl (c_ d_) zh
 replace d:=zdt d;refine Zz 9 ?_;refine T_ (lT_ m J B.r r) rfl m_ zf rfl fun G k=>Zz 3 ?_
 cases G
 ·refine Zz 8 ?_
  exact w_ ⟨i+1,x,(jc_ I e (vz_ k))⟩ zt_ zl (c_ d_) zh
 refine Zz 7 ?_;exact ae_ vG_ () (n_ rfl (by rw[kL_ (fun q=>by rw[q.1]at C;cases C),kA_ E (po_ d k)])) m_ zt
theorem ys_ (l:List Fc) (ad:Option Addr) (cap:Nat) (hl:l.length≤9223372036854775807):Tri Tryz.prog 87 #[.slice ad (List.length l) cap] [] [ah_ ad (List.flatMap Fc.cells l)] (fun b:{b:Bool // b=true↔Srt l}=>.bool b.1) (fun _=>[]) (fun _=>[]):=by
 refine i_ Tryz.func87 rfl rfl Tryz.ntmps87 rfl fun L=>?_;refine Zz 14 ?_;refine M_ (ι:={y:Nat // y≤List.length l∧(List.take y l).Pairwise Fc.lt}) (fun y=>[(0,.slice ad (List.length l) cap),(2,.bool false),(5,.slice ad (List.length l) cap),(6,.int .i64 (List.length l:Int)),(7,.int .i64 (y.1:Int))]) (fun y=>([])) (fun y=>[ah_ ad (List.flatMap Fc.cells l)]) (fun y=>List.length l - y.1) ⟨(0:Nat),by simp,zB_⟩ zl m_ zh ?_;rintro ⟨i,x,E⟩;dsimp only at x E ⊢;refine Zi 2 (fun C=>?_) fun C=>?_
 ·have hS:List.length l≤i→Srt l:=fun q=>by rw[List.take_of_length_le q]at E;exact E
  refine Zz 12 ?_;exact ae_ Tryz.results87 ⟨true,fun _=>hS zs_,fun _=>rfl⟩ rfl m_ zt
 obtain⟨d,F,h,G⟩:=zge (show i<List.length l by omega);refine Zz 13 ?_;refine G_ Y_ rfl fun M=>Zz 1 ?_
 refine u_ 0 A_ rfl rfl rfl rfl rfl rfl (Zz 4 ?_);refine K_ 9 [0,1,2] zk zs (Zi 1 (fun A=>?_) fun A=>?_)
 ·refine Zz 2 ?_
  refine K_ 0 [3,4,5,6,7,8,9,10,11] zk zs (Zz 20 ?_);exact w_ ⟨i+1,d,(by rw[show i=0 by omega];exact pw_one l)⟩ zt_ zl m_ zh
 obtain⟨K,m,v,I⟩:=zge (show (Int.toNat ((i:Int) - 1))<List.length l by omega);have e:l[i - 1]? = some m:=by rw[show i - 1=Int.toNat ((i:Int) - 1) by omega];exact v
 refine Zz 2 ?_;refine K_ 3 [3,4,5,6,7,8] zk zs (Zz 7 ?_);refine s_ 9 rfl zk (aQ_ rfl rfl (g_ (wP_ m F) rfl m_ zt rfl fun _=>Zz 3 ?_));refine K_ 0 [10,11] zk zs ?_;refine Zi 0 (fun B=>?_) fun B=>?_
 ·refine Zz 12 ?_
  exact w_ ⟨i+1,d,(by have q:=xQ_ (lt:=Fc.lt) (fun J H=>Fc.lt_trans J H) (k:=i - 1) (by rw[show i - 1+1=i by omega];exact E) e (by rw[show i - 1+1=i by omega];exact h) (yE_ zs_);rw[show i - 1+2=i+1 by omega]at q;exact q)⟩ zt_ zl m_ zh
 refine Zz 11 ?_;exact ae_ Tryz.results87 ⟨false,fun q=>zaS_,fun q=>absurd q (pw_not (k:=i - 1) e (by rw[show i - 1+1=i by omega];exact h) (tB_.1 zs_))⟩ rfl m_ zt
end Go.Proofs.YtpbnmnfdgckaiaaGreatDoor
