/-
  Part of the proof of the law CanonAsksSpec over this seat: the small logic, the data, the contracts of functions (no condition).
-/
import Derived.Test.YtpbnmnfdgckaiaaGreatDoorQCanonAsksSpec13
import Derived.Test.YtpbnmnfdgckaiaaGreatDoorQCanonAsksSpec8
import Derived.Test.YtpbnmnfdgckaiaaGreatDoorQCanonAsksSpec10
import Derived.Test.YtpbnmnfdgckaiaaGreatDoorQCanonAsksSpec12
import Derived.Test.YtpbnmnfdgckaiaaGreatDoorQCanonAsksSpec11
set_option linter.unusedVariables false
set_option linter.unusedSimpArgs false
set_option linter.unusedSectionVars false
set_option maxHeartbeats 1000000
namespace Go.Proofs.YtpbnmnfdgckaiaaGreatDoor
open Go Go.Sx Go.Proofs
attribute [local irreducible] Code.wp wpList wpAnyH
open Go.Vs
structure SL where
  l:List Str
  ad:Option Addr
  cap:Nat
def SL.cells (x:SL):List Value:=[.slice x.ad x.l.length x.cap]
theorem SL.cells_len (x:SL):x.cells.length=1:=rfl
structure SL.ok (x:SL):Prop where
  le:x.l.length≤x.cap
  nz:x.ad=none→x.cap=0
  sh:x.l.length≤100000
def slF (xs:List SL):Fct where
  p v:=∀ x∈xs,bu_ v x.ad (List.flatMap ak_ x.l)
  mono:=fun v v' h hp x hx=>(ai_ x.ad (List.flatMap ak_ x.l)).mono v v' h (hp x hx)
def hK_ (xs:List SL):List Str:=List.flatMap SL.l xs
theorem rJ_ {d:List SL} {i:Nat} {x:SL} (h:d[i]? = some x):hK_ (d.take (i+1))=hK_ (d.take i)++x.l:=by unfold hK_;rw[List.take_add_one,h];simp
theorem tI_ {d:List SL} (h:∀ x∈d,x.ok) (i:Nat):(hK_ (d.take i)).length≤min i d.length*100000:=by
  have:=yT_ (g:=SL.l) (n:=100000) (d.take i) fun x e=>(h x (List.mem_of_mem_take e)).sh
  rwa [List.length_take]at this
theorem yd_ (n:Nat) (B:n≤1000000000):Tri Tryz.prog 176 #[.slice none 0 0,.int .i64 (n:Int)] [] [] (fun y:{y:Value×Hp // ax_ 9 1 y.1 0 [] y.2}=>y.1.1) (fun y=>y.1.2) (fun _=>[]):=by
 refine i_ Tryz.func176 rfl rfl Tryz.ntmps176 rfl fun A=>?_;refine Zi 9 (fun e=>?_) fun e=>?_
 ·refine Zz 10 ?_
  refine e_ (pZ_ n_ rfl) rfl (Zz 3 ?_);refine e_ (ar_ (aZ_ rfl rfl rfl (ce_ za_ za_)) (show Value.int .i64 ((n:Int) - (0 - 0))=Value.int .i64 (n:Int) from congrArg _ za_)) rfl (Zi 6 (fun d=>?_) fun d=>?_)
  ·refine Zz 12 ?_
   exact Y_ Tryz.results176 ⟨(.slice none 0 0,[]),ax_.nil _ _⟩ rfl f_ zt
  refine Zz 6 ?_;refine e_ (pZ_ n_ rfl) rfl (e_ (ar_ (dJ_ (i:=0) (j:=0) (kl:=.i64) (kh:=.i64) n_ I_ rfl rfl rfl za_ za_) (show _=Value.slice none 0 0 from rfl)) rfl (Zz 1 ?_));refine qF_ (n:=n) cP_ u_ rfl rfl za_ za_ zm_ rfl fun h q x=>?_;refine Zz 2 ?_;refine e_ (ar_ (dJ_ (i:=0) (j:=0) (kl:=.i64) (kh:=.i64) n_ I_ rfl rfl rfl za_ za_) (show _=Value.slice (some ⟨q,0,none⟩) 0 h.1 by simp[qk_])) rfl (Zz 10 ?_);exact Y_ Tryz.results176 ⟨(.slice (some ⟨q,0,none⟩) 0 h.1,[(q,.cells h.2 9 (0,0))]),tG_ x.2.1 x.2.2⟩ rfl d_ zt
 exfalso;omega
theorem uu_ (e:List SL) (E:Option Addr) (B:Nat) (C:∀ x∈e,x.ok) (hl:e.length≤100):Tri Tryz.prog 139 #[.slice E (List.length e) B] [] [ai_ E (List.flatMap SL.cells e),slF e] (fun y:{y:Option Addr×Nat // ((hK_ e)).length≤y.2∧y.2≤maxLen∧(y.1=none→y.2=0)}=>.slice y.1.1 ((hK_ e)).length y.1.2) (fun _=>[]) (fun y=>[ai_ y.1.1 (((hK_ e)).flatMap ak_)]):=by
 refine i_ Tryz.func139 rfl rfl Tryz.ntmps139 rfl fun v_1=>?_;refine Zz 19 ?_;refine K_ (ι:={y:Nat×Nat // y.1≤List.length e∧y.2≤y.1*100000}) (fun y=>[(0,.slice E (List.length e) B),(3,.int .i64 (y.1.2:Int)),(9,.slice E (List.length e) B),(10,.int .i64 (List.length e:Int)),(11,.int .i64 (y.1.1:Int))]) (fun y=>([])) (fun y=>[ai_ E (List.flatMap SL.cells e),slF e]) (fun y=>List.length e - y.1.1) ⟨((0:Nat),(0:Nat)),by simp,by simp⟩ zl f_ zh ?_;rintro ⟨⟨i,w⟩,hi,Z⟩;dsimp only at hi Z ⊢;refine Zi 2 (fun I=>?_) fun I=>?_
 ·refine Zz 9 ?_
  refine j_ (yd_ w za_) rfl f_ zt rfl fun⟨⟨G,M⟩,N⟩=>?_;dsimp only;dsimp only at N;refine C_ dV_ ?_;have W:ax_ 9 1 G (List.length (hK_ (List.take 0 e))) (List.flatMap ak_ (hK_ (List.take 0 e))) M:=by exact N
  refine Zz 12 ?_;refine K_ (ι:={y:Nat×Value×Hp // y.1≤List.length e∧zR 9 1 ak_ y.2.1 (hK_ (List.take y.1 e)) y.2.2}) (fun y=>[(0,.slice E (List.length e) B),(6,y.1.2.1),(25,.slice E (List.length e) B),(26,.int .i64 (List.length e:Int)),(27,.int .i64 (y.1.1:Int))]) (fun y=>(y.1.2.2)) (fun y=>[ai_ E (List.flatMap SL.cells e),slF e]) (fun y=>List.length e - y.1.1) ⟨((0:Nat),G,M),by simp,W⟩ zl ad_ zh ?_;rintro ⟨⟨j,X,Y⟩,hj,A⟩;dsimp only at hj A ⊢;have hpl:=tI_ C j;refine Zi 2 (fun H=>?_) fun H=>?_
  ·rw[List.take_of_length_le za_]at A
   refine Zz 13 ?_;refine bn_ A ad_ fun S U Q K J L=>?_;exact Y_ Tryz.results139 ⟨(S,U),K,J,L⟩ (fG_ rfl Q) f_ zf
  obtain⟨F,q,O,d⟩:=zge (show j<List.length e by omega);have P:=(C q d).sh;refine Zz 18 ?_;refine fs_ (news:=List.flatMap ak_ (SL.l q)) cP_ A rfl rfl (C q d).nz (C q d).le ad_ (by rw[dv_ ak_ 1 at_]) (fun v _ h=>by exact (h.2.1 q d)) (fun u hu=>aE_ cm_ hu) (by simp only[maxLen];(have:=(C q d).sh;omega)) (by (have:=(C q d).sh;omega)) rfl fun V R I=>?_;refine C_ List.perm_append_comm ?_;have T:=zsa I;refine Zz 8 ?_;exact x_ ⟨(j+1,V,R),F,(by rw[rJ_ O];exact T)⟩ zb_ zl ad_ zh
 obtain⟨F,q,O,d⟩:=zge (show i<List.length e by omega);have P:=(C q d).sh;refine Zi 27 (fun H=>?_) fun H=>?_
 ·refine Zz 10 ?_
  exact x_ ⟨(i+1,w+List.length (SL.l q)),F,by have:=(C q d).sh;dsimp only;omega⟩ zb_ ⟨rfl,(cd_ rfl (by push_cast;rfl)),rfl,rfl,rfl,trivial⟩ f_ zh
 exfalso;omega
theorem sl_two {a b:SL} (h:a.ok) (e:b.ok):∀ x∈[a,b],x.ok:=fun x d=>by
 simp only[List.mem_cons,List.not_mem_nil,or_false]at d;rcases d with rfl|rfl
 ·exact h
 exact e
theorem xr_ {a b:SL} {v:Vw} (h:bu_ v a.ad (List.flatMap ak_ a.l)) (e:bu_ v b.ad (List.flatMap ak_ b.l)):(slF [a,b]).p v:=fun x d=>by
 simp only[List.mem_cons,List.not_mem_nil,or_false]at d;rcases d with rfl|rfl
 ·exact h
 exact e
theorem xB_ (I:List Str) (e:Option Addr) (d:Nat) (a5:rkS (I,e,d)) (hIn:I.Nodup) (hIl:I.length≤40000) (sb:Nat) (D:List (Str×Fc)) (adr:Str→Option Addr×Nat) (hD:D.length≤1000000000) (T:List Str) (hT:∀ s,∀ t∈nxD D s,t∈T) (hTl:T.length≤20000):Tri Tryz.prog 84 #[.slice e (List.length I) d,.map (some sb)] [] [mlF Tryz.prog 9 str Fc.cells sb D adr,ai_ e (List.flatMap ak_ I)] (fun y:{y:List Str×Option Addr×Nat // of_ D I y.1∧rkS y}=>.slice y.1.2.1 y.1.1.length y.1.2.2) (fun _=>[]) (fun y=>[ai_ y.1.2.1 (y.1.1.flatMap ak_)]):=by
 refine i_ Tryz.func84 rfl rfl Tryz.ntmps84 rfl fun v_1=>?_;refine Zz 5 ?_;refine kF_ (Zz 3 ?_);refine j_ (nO_ I e d a5.1 za_) rfl f_ zf rfl fun⟨⟨svc,Hcl⟩,b2⟩=>?_;dsimp only;dsimp only at b2;simp only[List.append_nil];refine Zz 5 ?_;refine ba_ rfl fun M=>Zz 7 ?_
 refine e_ (eU_ b2 n_ rfl) rfl (Zz 4 ?_);refine K_ (ι:={y:Nat×StM×Value×Hp // y.1≤List.length I∧(∀ n,n∈y.2.1.ks↔n∈List.take y.1 I)∧zR 9 1 ak_ y.2.2.1 I y.2.2.2}) (fun y=>[(0,.slice e (List.length I) d),(1,.map (some sb)),(4,.slice none 0 0),(5,y.1.2.2.1),(6,.map (some M)),(16,y.1.2.2.1),(17,.int .i64 (List.length I:Int)),(18,.int .i64 (y.1.1:Int))]) (fun y=>((M,.map y.1.2.1.es y.1.2.1.c)::y.1.2.2.2)) (fun y=>[mlF Tryz.prog 9 str Fc.cells sb D adr,ai_ e (List.flatMap ak_ I)]) (fun y=>List.length I - y.1.1) ⟨((0:Nat),StM.nil,svc,Hcl),by simp,(by intro n;simp[StM.nil]),b2⟩ zl zp zh ?_;rintro ⟨⟨i,s,Y,Z⟩,hi_i,hs,H⟩;dsimp only at hi_i hs H ⊢;refine Zi 2 (fun X=>?_) fun X=>?_
 ·refine Zz 12 ?_
  refine kH_ (Zz 3 ?_);have hq_1:ORow 9 1 Y (List.length I) (List.flatMap ak_ I) Z:=ORow.row H;have E:∀ n,n∈s.ks↔n∈I:=by rw[List.take_of_length_le za_]at hs;exact hs
  refine C_ (H':=((M,.map s.es s.c)::(Z++([]:Hp)))) zj_ ?_;refine K_ (ι:={y:StM×List Str×Value×Hp×List Str×Value×Hp // CI (nxD D) I y.1.ks y.2.1∧ORow 9 1 y.2.2.1 (List.length y.2.1) (List.flatMap ak_ y.2.1) y.2.2.2.1∧List.length y.2.1≤List.length y.1.ks∧NmI I y.1.ks y.2.2.2.2.1∧zR 9 1 ak_ y.2.2.2.2.2.1 y.2.2.2.2.1 y.2.2.2.2.2.2}) (fun y=>[(0,.slice e (List.length I) d),(1,.map (some sb)),(4,.slice none 0 0),(5,y.1.2.2.1),(6,.map (some M)),(9,y.1.2.2.2.2.2.1)]) (fun y=>((M,.map y.1.1.es y.1.1.c)::(y.1.2.2.2.1++y.1.2.2.2.2.2.2))) (fun y=>[mlF Tryz.prog 9 str Fc.cells sb D adr,ai_ e (List.flatMap ak_ I)]) (fun y=>(List.length I+List.length T) - List.length y.1.1.ks+List.length y.1.2.1) ⟨(s,I,Y,Z,([]:List Str),(.slice none 0 0),([]:Hp)),CI.init E,hq_1,by have:=cN_ hIn (m:=s.ks) fun x hx=>(E x).2 hx;exact this,NmI.init E,(ax_.nil 9 1)⟩ zl (l_ d_ (B_ y_ ad_)) zh ?_;rintro ⟨⟨s,W,svW,HW,N,G,a1⟩,hC,hW,b1,hN,B⟩;dsimp only at hC hW b1 hN B ⊢;have hsl:=jW_ hT s.hE.nd hC.rch;have hNl:=hN.len;refine Zz 5 ?_;refine e_ (pW_ hW n_ rfl) rfl ?_;refine Zi 0 (fun hr_2=>?_) fun hr_2=>?_
  ·obtain⟨k,W,rfl⟩:∃ k b0,W=k::b0:=by cases W with|nil=>simp at*| cons k b0=>exact⟨k,b0,rfl⟩
   refine Zz 8 ?_;refine e_ (sD_ hW n_ I_ rfl rfl ze_ zU_) rfl ?_;refine e_ (pX_ (k:=(0:Int).toNat*1) hW zp ab_ rfl rfl) rfl (Zz 6 ?_);refine qE_ (i:=1) (kl:=.i64) hW n_ I_ rfl rfl zU_ rfl fun a4 ho_1=>?_;have hW_1:ORow 9 1 a4 (List.length W) (List.flatMap ak_ W) HW:=by simpa [ak_] using ho_1
   have hJ_1:=hC.pop;have hlk:=dB_ D k;refine Zz 7 ?_;refine e_ (bA_ (k:=k) (adr:=adr) bq_ jf_ ds_ rfl rfl zf) rfl (Zz 5 ?_);refine K_ (ι:={y:Nat×StM×List Str×Value×Hp×List Str×Value×Hp // y.1≤List.length (lat D k)∧CJ (nxD D) I k y.1 y.2.1.ks y.2.2.1∧ORow 9 1 y.2.2.2.1 (List.length y.2.2.1) (List.flatMap ak_ y.2.2.1) y.2.2.2.2.1∧List.length y.2.1.ks+List.length W=List.length s.ks+List.length y.2.2.1∧NmI I y.2.1.ks y.2.2.2.2.2.1∧zR 9 1 ak_ y.2.2.2.2.2.2.1 y.2.2.2.2.2.1 y.2.2.2.2.2.2.2}) (fun y=>[(0,.slice e (List.length I) d),(1,.map (some sb)),(4,.slice none 0 0),(5,y.1.2.2.2.1),(6,.map (some M)),(9,y.1.2.2.2.2.2.2.1),(35,.slice (Prod.fst (adr k)) (List.length (lat D k)) (Prod.snd (adr k))),(36,.int .i64 (List.length (lat D k):Int)),(37,.int .i64 (y.1.1:Int))]) (fun y=>((M,.map y.1.2.1.es y.1.2.1.c)::(y.1.2.2.2.2.1++y.1.2.2.2.2.2.2.2))) (fun y=>[mlF Tryz.prog 9 str Fc.cells sb D adr,ai_ e (List.flatMap ak_ I)]) (fun y=>List.length (lat D k) - y.1.1) ⟨((0:Nat),s,W,a4,HW,N,G,a1),by simp,hJ_1,hW_1,rfl,hN,B⟩ zl zp zh ?_;rintro ⟨⟨j,C,Q,R,a2,a8,G,a1⟩,hi_j,hJ,P,hcn,J,B⟩;dsimp only at hi_j hJ P hcn J B ⊢;have hsl_1:=jW_ hT C.hE.nd hJ.rch;have hwk_1:List.length W+1≤List.length s.ks:=by simpa using b1
   have hNl_1:=J.len;refine Zi 2 (fun hr_3=>?_) fun hr_3=>?_
   ·refine Zz 6 ?_
    exact x_ ⟨(C,Q,R,a2,a8,G,a1),hJ.done (by rw[nxD,List.length_map];omega),P,by dsimp only;simp only[List.length_cons]at b1;omega,J,B⟩ (by dsimp only;have:=jW_ hT C.hE.nd hJ.rch;simp only[List.length_cons]at *;omega) zl (l_ d_ (B_ y_ ad_)) zh
   have L:j<List.length (lat D k):=by omega
   obtain⟨A,K⟩:∃ a7,(lat D k)[j]? = some a7:=⟨_,List.getElem?_eq_getElem L⟩;have hmf_1:A∈(lat D k):=List.mem_of_getElem? K;refine Zz 10 ?_;refine e_ (O_ w_ s_ rfl rfl (fun v _ h=>aq_ (n:=6) Fc.cells_len ze_ (by exact (aV_ h.1 k)) K) za_ zg_) rfl ?_;refine e_ (ae_ (ad:=(Prod.fst (adr k))) (us:=Fc.cells A) aB_ s_ rfl (fun v _ h=>by exact (aV_ h.1 k)) (Fc.cells_len _) (p_ Fc.cells_len K)) rfl (E_ Q_ rfl fun b_2=>z_ 0 s_ rfl rfl rfl rfl rfl rfl (Zz 7 ?_));refine G_ (ar_ (bt_ (k:=A.b) (q:=C.ks) bq_ P_ aA_ rfl rfl C.hE (fun v h _=>(h.own _ (List.mem_of_getElem? (i:=1) rfl)).1)) (show _=Value.bool (decide (A.b∈C.ks)) from congrArg Value.bool (decide_eq_decide.2 Iff.rfl))) rfl fun r_1 F=>e_ (as_ rfl) rfl (Zz 2 ?_)
   cases r_1
   ·replace F:=zdf F
    have hfk:=F;refine Zz 6 ?_;refine dT_ 1 C bq_ (.inr rfl) P_ rfl rfl rfl rfl (Zz 7 ?_);refine X_ n_ I_ az_ rfl rfl rfl rfl rfl rfl fun b_3=>?_;refine cL_ (List.flatMap ak_ [A.b]) d_ rfl ?_;refine lE_ (n:=List.length Q) (m:=List.length [A.b]) (news:=List.flatMap ak_ [A.b]) cP_ P rfl rfl zj_ zj_ (c_ (c_ y_)) rfl zf (fun u hu=>aE_ cm_ hu) zaE_ zw_ rfl fun V a3 U=>?_;have hr1q:ORow 9 1 V (List.length (Q++[A.b])) (List.flatMap ak_ (Q++[A.b])) a3:=by rw[List.length_append,List.flatMap_append];exact U
    refine Zz 3 ?_;refine C_ (W_ (g_ d_) (bj_ (g_ d_))) (Zz 4 ?_);refine X_ n_ I_ az_ rfl rfl rfl rfl rfl rfl fun b_4=>?_;refine am_ (news:=List.flatMap ak_ [A.b]) cP_ B rfl rfl zp rfl (aR_ 0 rfl) (fun u hu=>aE_ cm_ hu) zc_ zf_ rfl fun sv_2 Hr_1 X=>?_;have U:=zsa X;refine Zz 3 ?_;refine C_ (W_ (g_ d_) (W_ (g_ d_) (bj_ (g_ d_)))) (Zz 5 ?_);exact x_ ⟨(j+1,(StM.add C A.b),(Q++[A.b]),V,a3,(a8++[A.b]),sv_2,Hr_1),L,hJ.take (vM_ K) fun n=>StM.mem,hr1q,(by rw[pc_ (by simpa using hfk),List.length_append,List.length_append];simp only[List.length_cons,List.length_nil];omega),J.take (by simpa using hfk) fun n=>StM.mem,U⟩ zb_ zl zp (fun _ _ h=>h.2)
   replace F:=zdt F;refine Zz 8 ?_;exact x_ ⟨(j+1,C,Q,R,a2,a8,G,a1),L,hJ.skip (vM_ K) (by simpa using F),P,hcn,J,B⟩ zb_ zl (l_ (c_ d_) (B_ (c_ y_) H_)) zh
  refine Zz 8 ?_;refine j_ (mf_ B za_) rfl zp zt rfl fun⟨HsN,hsn⟩=>?_;dsimp only;have hsN:ax_ 9 1 G (List.length (aT_ N)) (List.flatMap ak_ (aT_ N)) HsN:=by rw[List.length_mergeSort];exact hsn
  refine Zz 2 ?_;refine C_ (bj_ (g_ d_)) (bf_ ?_);obtain rfl:W=[]:=List.eq_nil_of_length_eq_zero za_;refine bn_ hsN (c_ y_) fun a0 O hnad b3 hmnad a9=>?_;subst hnad;have a6:∀ x∈[(SL.mk I e d),(SL.mk (aT_ N) a0 O)],x.ok:=sl_two ⟨a5.1,a5.2.2,by dsimp only;omega⟩ ⟨b3,a9,by dsimp only;rw[List.length_mergeSort];omega⟩;refine Zz 3 ?_;refine X_ ct_ ck_ bm_ rfl rfl rfl rfl rfl rfl fun b_2=>?_;refine cL_ (List.flatMap SL.cells [(SL.mk I e d),(SL.mk (aT_ N) a0 O)]) d_ rfl ?_;refine j_ (uu_ [(SL.mk I e d),(SL.mk (aT_ N) a0 O)] (some ⟨b_2,0,none⟩) 2 a6 zj_) rfl f_ (fun v _ h=>by exact⟨h.1,xr_ h.2.2.2.1 h.2.1,trivial⟩) rfl fun⟨⟨ad_1,cp_1⟩,hc_1,hc_2,hc_3⟩=>?_;dsimp only;refine Zz 4 ?_;exact Y_ Tryz.results84 ⟨((hK_ [(SL.mk I e d),(SL.mk (aT_ N) a0 O)]),ad_1,cp_1),⟨N,hN.nd,by simp[hK_],hN.dj,fun t=>by rw[← hN.mem];exact hC.fine t⟩,hc_1,hc_2,hc_3⟩ rfl f_ zf
 have S:i<List.length I:=by omega
 obtain⟨C,E⟩:∃ a7,I[i]? = some a7:=⟨_,List.getElem?_eq_getElem S⟩;have hms_1:C∈I:=List.mem_of_getElem? E;refine Zz 10 ?_;refine e_ (bH_ H n_ I_ rfl rfl za_ za_) rfl (e_ (cU_ H H_ ab_ rfl (p_ at_ E 0 _ rfl)) rfl (Zz 6 ?_));refine dT_ 0 s bq_ (.inr rfl) P_ rfl rfl rfl rfl (Zz 7 ?_);exact x_ ⟨(i+1,(StM.add s C),Y,Z),S,(by intro n;rw[StM.mem,hs n,tk1 E];simp),H⟩ zb_ zl zp zh
end Go.Proofs.YtpbnmnfdgckaiaaGreatDoor
namespace Go.Proofs.YtpbnmnfdgckaiaaGreatDoor
open Go Go.Sx Go.Proofs
attribute [local irreducible] Code.wp wpList wpAnyH
open Go.Vs Go.Shelf Go.RowKit
theorem yl_ {l:List Fc}:∀ {x z:Fc},z∈x::cpG (fun x w=>decide (x=w)) x l↔z∈x::l:=by
 induction l with
 | nil=>intro x z;simp[cpG]
 | cons y l ih =>
   intro x z;unfold cpG
   split
   · rename_i h
     have h:=of_decide_eq_true h;subst h;rw[ih];simp
   · have d:=ih (x:=y) (z:=z)
     simp only[List.mem_cons]at d ⊢;rw[d]
theorem yk_ {l:List Fc}:∀ {x:Fc},(x::l).Pairwise (fun x y=>¬ y.lt x)→Srt (x::cpG (fun x w=>decide (x=w)) x l):=by
 induction l with
 | nil=>intro x _;unfold Srt;simp[cpG]
 | cons y l ih =>
   intro x h;have d:=List.pairwise_cons.1 h;unfold cpG
   split
   · rename_i e
     have e:=of_decide_eq_true e;subst e;exact ih d.2
   · rename_i e
     have e:y≠x:=fun q=>e (decide_eq_true q)
     have A:=ih d.2
     have B:x.lt y:=by
       rcases Fc.lt_tri x y with q|q|q
       · exact q
       · exact absurd q.symm e
       · exact absurd q (d.1 y zj_)
     refine List.pairwise_cons.2 ⟨fun z C=>?_,A⟩;rcases List.mem_cons.1 C with rfl|C
     · exact B
     · exact Fc.lt_trans B ((List.pairwise_cons.1 A).1 z C)
theorem ig_ {d:List Fc} {z:Fc}:z∈hl_ d↔z∈d:=by
  rw[← qh_ d z];unfold hl_ cpL;cases eP_ d with
  | nil=>simp
  | cons x l=>exact yl_
theorem if_ (A:List Fc):Srt (hl_ A):=by
 have h:(eP_ A).Pairwise fun x y=>(!(ltOf hE_) y x)=true:=List.pairwise_mergeSort
   (fun a b c h d=>by simp only[Bool.not_eq_true']at *;exact xg_.ntrans c b a d h)
   (fun a b=>by
     simp only[Bool.or_eq_true,Bool.not_eq_true'];rw[ltF,ltF,decide_eq_false_iff_not,decide_eq_false_iff_not];rcases Fc.lt_tri a b with g|g|g
     · exact .inl fun q=>Fc.lt_irr a (Fc.lt_trans g q)
     · subst g;exact .inl a.lt_irr
     · exact .inr fun q=>Fc.lt_irr a (Fc.lt_trans q g)) A
 have d:(eP_ A).Pairwise fun x y=>¬ y.lt x:=h.imp fun {a b} q=>by rw[Bool.not_eq_true',ltF,decide_eq_false_iff_not]at q;exact q
 unfold hl_ cpL;cases e:eP_ A with
 | nil=>unfold Srt;simp
 | cons x l=>rw[e]at d;exact yk_ d
def rkF (r:List Fc×Option Addr×Nat):Prop:=r.1.length≤r.2.2∧r.2.2≤maxLen∧(r.2.1=none→r.2.2=0)
def yH_ (l:List Ax) (X:List Fc):Prop:=Srt X∧∀ z,z∈X↔∃ r t,(r∈vcL 6 l∧r≠[])∧RchS (lat (hH_ l)) [r] t∧z=Z_ r t
theorem qb_ {k:Int}:∀ {l:List Ax},(∀ x∈l,x.left.sz≤64∧x.right.sz≤64∧x.roles.length≤4)→(vcL k l).length≤136*l.length
  | [],_=>by simp[vcL]
  | x::l,h=>by
    have d:=qb_ (k:=k) (l:=l) fun y e=>h y zaM_
    obtain⟨a,b,c⟩:=h x zj_
    have q:(x.vc k).length≤136:=by
      unfold Ax.vc;have:=Con.nms_len k x.left;have:=Con.nms_len k x.right;rw[List.length_append,List.length_append,List.length_append]
      split<;>split<;>simp<;>omega
    unfold vcL at d ⊢;rw[List.flatMap_cons,List.length_append,List.length_cons];omega
theorem oB_ {c:Con} (h:c.check=0) {r:Str} (q:r∈c.nms 6):bi_ r=true:=by
  unfold Con.nms at q;obtain⟨d,e,rfl⟩:=List.mem_map.1 q;rw[List.mem_filter]at e;have hk:d.kind=6:=by simpa using e.2
  exact (Con.names_of ((Con.check_iff d).1 (oD_ _ c (Nat.le_refl _) h d e.1)).2.2).plain (.inr (.inl hk))
theorem oC_ {c:Con} (h:c.empty=true) {r:Str} (d:r∈c.nms 6):bi_ r=true:=by
  cases c with
  | mk k n l hi ad cp ps =>
    unfold Con.empty at h;simp only[Bool.and_eq_true,beq_iff_eq,Con.parts,Con.kind]at h;have:ps=[]:=List.eq_nil_of_length_eq_zero za_;subst this;rw[Con.nms_eq]at d;simp[Con.kind,Con.parts,h.1.1.1.1]at d
theorem qa_ {l:List Ax} (F:∀ x∈l,x.check=0) {r:Str} (d:r∈vcL 6 l) (H:r≠[]):bi_ r=true:=by
 unfold vcL at d;obtain⟨x,G,d⟩:=List.mem_flatMap.1 d;have y:=F x G;have h:=Ax.good_of y;have A:=kX_ y;unfold Ax.shaped at A;rw[if_neg (by have:=h.k1;have:=h.k9;omega)]at A;simp only[Bool.and_eq_true,Bool.or_eq_true]at A;obtain⟨⟨⟨⟨⟨⟨B,E⟩,C⟩,_⟩,_⟩,_⟩,_⟩:=A;unfold Ax.vc at d;rw[if_pos rfl,if_neg ze_,List.append_nil,List.mem_append,List.mem_append,List.mem_append,List.mem_singleton]at d;rcases d with (d|d)|d|rfl
 ·exact B.elim (fun q=>oB_ (pN_ y q) d) (fun q=>oC_ q d)
 ·exact E.elim (fun q=>oB_ (rr_ y q) d) (fun q=>oC_ q d)
 ·exact h.roles r d
 have hk:x.kind=1∨x.kind=2∨x.kind=3∨x.kind=4∨x.kind=5∨x.kind=6∨x.kind=7∨x.kind=8∨x.kind=9:=by have:=h.k1;have:=h.k9;omega
 rcases C with q|q
 ·refine h.role ?_
  rcases hk with e|e|e|e|e|e|e|e|e<;>rw[e]at q<;>first|omega|exact absurd q ze_
 exact absurd zah_ H
theorem uZ_ {l:List Str} (h:SrS l):l.Nodup:=h.imp fun {a b} q e=>by subst e;exact List.lt_irrefl _ q
theorem jY_ {s:Str} (h:bi_ s=true):aO_ s=true:=by unfold aO_;rw[h];rfl
theorem inc_in {z:Fc} {X:Prop} {T:List Str} {r t:Str}:((X∨∃ t∈T,z=Z_ r t)∨z=Z_ r t)↔(X∨∃ u∈T++[t],z=Z_ r u):=by
 constructor
 ·rintro ((h|⟨u,d,e⟩)|e)
  ·exact .inl h
  ·exact .inr ⟨u,by simp[d],e⟩
  exact .inr ⟨t,by simp,e⟩
 rintro (h|⟨u,d,e⟩)
 ·exact .inl (.inl h)
 rw[List.mem_append,List.mem_singleton]at d;rcases d with d|rfl
 ·exact .inl (.inr ⟨u,d,e⟩)
 exact .inr e
theorem wn_ {l:List Ax} {R T:List Str} {r:Str} (h:yJ_ l r T) {z:Fc}:((∃ s∈R,∃ t,RchS (lat (hH_ l)) [s] t∧z=Z_ s t)∨∃ t∈T,z=Z_ r t)↔∃ s∈R++[r],∃ t,RchS (lat (hH_ l)) [s] t∧z=Z_ s t:=by
 constructor
 ·rintro (⟨s,d,q⟩|⟨t,x,e⟩)
  ·exact⟨s,by simp[d],q⟩
  exact⟨r,by simp,t,(h.2 t).1 x,e⟩
 rintro ⟨s,d,t,x,e⟩;rw[List.mem_append,List.mem_singleton]at d;rcases d with d|rfl
 ·exact .inl ⟨s,d,t,x,e⟩
 exact .inr ⟨t,(h.2 t).2 x,e⟩
theorem xZ_ {l:List Ax} {R:List Str} (h:kZ_ 6 l R) {z:Fc}:(∃ s∈R,∃ t,RchS (lat (hH_ l)) [s] t∧z=Z_ s t)↔∃ r t,(r∈vcL 6 l∧r≠[])∧RchS (lat (hH_ l)) [r] t∧z=Z_ r t :=
  ⟨fun⟨s,q,t,d,e⟩=>⟨s,t,⟨((h.2 s).1 q).1,((h.2 s).1 q).2 (.inl rfl)⟩,d,e⟩,fun⟨s,t,⟨x,y⟩,d,e⟩=>⟨s,(h.2 s).2 ⟨x,fun _=>y⟩,t,d,e⟩⟩
theorem incl_c (A:List Ax) (lad:Option Addr) (lcap:Nat) (a2:∀ x∈A,x.ok) (S:∀ x∈A,x.check=0) (b9:A.length≤20):Tri Tryz.prog 33 #[.slice lad (List.length A) lcap] [] [ge_ lad A,cn_] (fun y:{y:List Fc×Option Addr×Nat // yH_ A y.1∧rkF y}=>.tuple #[.slice y.1.2.1 y.1.1.length y.1.2.2,.int .i64 0]) (fun _=>[]) (fun y=>[ai_ y.1.2.1 (y.1.1.flatMap Fc.cells)]):=by
 refine i_ Tryz.func33 rfl rfl Tryz.ntmps33 rfl fun v_1=>?_;have b7:∀ x∈A,x.left.sz≤64∧x.right.sz≤64∧x.roles.length≤4:=fun x hx=>⟨(tr_ (S x hx)).1,(tr_ (S x hx)).2,yV_ (S x hx)⟩
 refine Zz 9 ?_;refine j_ (voc_c A lad lcap a2 S b9) rfl f_ zf rfl fun⟨⟨⟨a9,b0,ccp⟩,⟨R1,rad,a5⟩,⟨b1,b5,ecp⟩,⟨U,c1,xcp⟩⟩,⟨b2,W⟩,⟨q,a4⟩,⟨a7,c0⟩,a0,Z⟩=>?_;dsimp only;dsimp only at b2 W q a4 a7 c0 a0 Z;have hRn:List.length R1≤136*List.length A:=by have c2:=cN_ (uZ_ q.1) (m:=vcL 6 A) fun n hn=>((q.2 n).1 hn).1;have h_2:=qb_ (k:=6) (l:=A) b7;omega
 refine Zz 3 ?_;refine E_ Tryz.zeroValue133 rfl fun b_1=>z_ 0 Tryz.sizeOf133 rfl rfl rfl rfl rfl rfl (Zz 7 ?_)
 refine e_ (ar_ (cg_ rfl rfl) (show _=Value.bool false from congrArg Value.bool ze_)) rfl (Zz 15 ?_);refine K_ (ι:={y:Nat×List Fc×Value×Hp // y.1≤List.length R1∧(∀ z,z∈y.2.1↔∃ r∈List.take y.1 R1,∃ t,RchS (lat (hH_ A)) [r] t∧z=Z_ r t)∧List.length y.2.1≤21*y.1∧zR 36 6 Fc.cells y.2.2.1 y.2.1 y.2.2.2}) (fun y=>[(0,.slice lad (List.length A) lcap),(2,y.1.2.2.1),(3,.int .i64 0),(20,.slice rad (List.length R1) a5),(21,.int .i64 (List.length R1:Int)),(22,.int .i64 (y.1.1:Int))]) (fun y=>(y.1.2.2.2)) (fun y=>[ai_ b0 (List.flatMap ak_ a9),ai_ rad (List.flatMap ak_ R1),ai_ b5 (List.flatMap ak_ b1),ai_ c1 (List.flatMap ak_ U),ge_ lad A,cn_]) (fun y=>List.length R1 - y.1.1) ⟨((0:Nat),([]:List Fc),(.slice none 0 0),[]),by simp,(by intro z;simp),zj_,(ax_.nil _ _)⟩ zl f_ zh ?_;rintro ⟨⟨i,X,F,R⟩,b6,hX,hXl,d⟩;dsimp only at b6 hX hXl d ⊢;refine Zi 2 (fun B=>?_) fun B=>?_
 ·refine Zz 7 ?_
  refine bn_ d ad_ fun d0 qcp a6 P hmqad d1=>?_;subst a6;refine Zz 2 ?_;refine j_ (gO_ X d0 qcp P za_) rfl f_ zf rfl fun⟨⟨sad,scp⟩,O,N,L⟩=>?_;dsimp only;refine Zz 5 ?_;have hIn:yH_ A (hl_ X):=⟨if_ X,fun z=>by rw[ig_,hX z,List.take_of_length_le za_];exact xZ_ q⟩;exact kK_ Tryz.results33 ⟨(hl_ X,sad,scp),hIn,O,N,L⟩ rfl rfl rfl f_ zf
 have I:i<List.length R1:=by omega
 obtain⟨C,B⟩:∃ M,R1[i]? = some M:=⟨_,List.getElem?_eq_getElem I⟩;have G:C∈R1:=List.mem_of_getElem? B;have a1:=qa_ S ((q.2 C).1 G).1 (((q.2 C).1 G).2 (.inl rfl));refine Zz 19 ?_;refine j_ (yE_ A lad lcap a2 S b9 C (jY_ a1) (by have:=dF_ a1;omega)) rfl f_ zf rfl fun⟨⟨e,Y,tcp⟩,J,hkt⟩=>?_;dsimp only;dsimp only at J hkt;have hTl:List.length e≤List.length A+1:=by have c2:=io_ (uZ_ J.1) (fun t ht=>(J.2 t).1 ht);have h_2:=ky_ A;omega
 refine Zz 11 ?_;refine e_ (ar_ (cg_ rfl rfl) (show _=Value.bool false from congrArg Value.bool ze_)) rfl (Zz 13 ?_);refine K_ (ι:={y:Nat×List Fc×Value×Hp // y.1≤List.length e∧(∀ z,z∈y.2.1↔z∈X∨∃ t∈List.take y.1 e,z=Z_ C t)∧List.length y.2.1=List.length X+y.1∧zR 36 6 Fc.cells y.2.2.1 y.2.1 y.2.2.2}) (fun y=>[(0,.slice lad (List.length A) lcap),(2,y.1.2.2.1),(3,.int .i64 0),(20,.slice rad (List.length R1) a5),(21,.int .i64 (List.length R1:Int)),(22,.int .i64 (i:Int)),(6,str C),(35,.slice Y (List.length e) tcp),(36,.int .i64 (List.length e:Int)),(37,.int .i64 (y.1.1:Int))]) (fun y=>(y.1.2.2.2)) (fun y=>[ai_ Y (List.flatMap ak_ e),ai_ b0 (List.flatMap ak_ a9),ai_ rad (List.flatMap ak_ R1),ai_ b5 (List.flatMap ak_ b1),ai_ c1 (List.flatMap ak_ U),ge_ lad A,cn_]) (fun y=>List.length e - y.1.1) ⟨((0:Nat),X,F,R),by simp,(by intro z;simp),zj_,d⟩ zl ad_ zh ?_;rintro ⟨⟨j,b8,F,R⟩,b3,H,V,d⟩;dsimp only at b3 H V d ⊢;refine Zi 2 (fun a3=>?_) fun a3=>?_
 ·refine Zz 11 ?_
  exact x_ ⟨(i+1,b8,F,R),I,(by intro z;rw[H z,hX z,List.take_of_length_le (l:=e) za_,tk1 B];exact wn_ J),zb_,d⟩ zb_ zl ad_ (fun _ _ h=>h.2)
 have E:j<List.length e:=by omega
 obtain⟨Q,K⟩:∃ M,e[j]? = some M:=⟨_,List.getElem?_eq_getElem E⟩;have hmt_1:Q∈e:=List.mem_of_getElem? K;refine Zz 19 ?_;refine e_ (J_ eb_ rfl rfl) rfl (X_ w_ s_ Q_ rfl rfl rfl rfl rfl rfl fun b_2=>?_);refine am_ (news:=List.flatMap Fc.cells [(Fc.mk 1 C Q [] 0 0)]) eh_ d rfl rfl H_ rfl (aR_ 0 rfl) (fun u hu=>aE_ Fc.cells_one hu) zc_ zf_ rfl fun b4 T B=>?_;refine C_ List.perm_append_comm ?_;have a8:=zsa B;refine Zz 8 ?_;exact x_ ⟨(j+1,(b8++[(Z_ C Q)]),b4,T),E,(by intro z;rw[List.mem_append,H z,tk1 K,List.mem_singleton];exact inc_in),(by rw[List.length_append];simp only[List.length_cons,List.length_nil];omega),a8⟩ zb_ zl H_ zh
theorem ug_ {N:Nf} {y:Vw} {A:Hp} {fr:Fr} {F H:Hp} {Γ:List Fct} {P:Program} {K D:Type} [DecidableEq K] {k:Act→World→Prop} {x:K→Value} {cells:D→List Value} {C e:TypeId} {sz B:Nat} {l:List (K×D)} {d:Hp} (J:KeyT P C x) (hm:cS_ x cells e sz l B d) (E:H.Perm (d++F))
    (h:∀ adr:K→Option Addr×Nat,(∀ k,(lat l k).length≤(adr k).2∧((adr k).1=none→(adr k).2=0))→Ok N y A k fr F (mlF P C x cells B l adr::Γ)):Ok N y A k fr H Γ:=by
  obtain⟨adr,I,G⟩:=hm.lentC J;refine ni_ d E (nj_ (fun v _ q=>?_) (h adr I));rw[eM_]at q;refine⟨G v fun p L=>?_,q.2⟩;have:=q.1;exact jA_ d.reverse (by rw[List.map_reverse]at *;exact this) p (List.mem_reverse.2 L)
def el_ (l:List Str):List Str:=l.filter fun s=>!nls s
def tyL (K:List Str) (l:List Fc):List Fc:=l.filter fun z=>decide (z.kind=1)&&decide (z.a∈K)
def liL (l:List Fc):List Fc:=l.filter fun z=>decide (z.kind=2)&&(!nls z.a&&!nls z.b)
def raL (K:List Str) (l:List Fc):List Fc:=l.filter fun z=>decide (z.kind=3)&&decide (z.a∈K)
structure AsmR (p:List Pc) (c:Cl) (X:List Str) (Ty Li Di Ra:List Fc):Prop where
  nd:of_ (dz_ p c.facts) (el_ c.atoms) X
  ty:Srt Ty∧∀ z,z∈Ty↔z∈c.facts∧z.kind=1∧z.a∈X
  li:Srt Li∧∀ z,z∈Li↔z∈c.facts∧z.kind=2∧nls z.a=false∧nls z.b=false
  di:Srt Di∧∀ z,z∈Di↔∃ s∈X,(s,z)∈dz_ p c.facts
  ra:Srt Ra∧∀ z,z∈Ra↔z∈c.facts∧z.kind=3∧z.a∈X
theorem xY_ {l:List Str} (h:SrS l):Lib.compact (aT_ (el_ l))=el_ l:=by
  have d:SrS (el_ l):=h.sublist List.filter_sublist;exact me_ (hD_ (fQ_ _)) d fun x=>by rw[iA_,List.mem_mergeSort]
theorem vL_ {p:List Pc} {F:List Fc} (s t:Str) (h:t∈nxD (dz_ p F) s):t∈p.map Pc.c:=by
  unfold nxD at h;obtain⟨z,d,rfl⟩:=List.mem_map.1 h;obtain⟨f,_,y,e,_,_,_,_,rfl⟩:=rh_.1 (bN_.1 d);exact List.mem_map.2 ⟨y,e,rfl⟩
theorem jy_ {K D:Type} [DecidableEq K]:∀ (L:List (K×D)) {X:List K},X.Nodup→(X.flatMap (lat L)).length≤L.length
 | [],X,_=>by
   have:X.flatMap (lat ([]:List (K×D)))=[]:=List.flatMap_eq_nil_iff.2 fun x _=>rfl
   rw[this];simp
 | (k,d)::L,X,h=>by
   have y:∀ X:List K,(X.flatMap (lat ((k,d)::L))).length=(X.flatMap (lat L)).length+X.count k:=by
     intro X
     induction X with
     | nil=>rfl
     | cons x X ih =>
       rw[List.flatMap_cons,List.flatMap_cons,List.length_append,List.length_append,ih,List.count_cons]
       have e:(lat ((k,d)::L) x).length=(lat L x).length+if x==k then 1 else 0:=by
         unfold lat;rw[List.filter_cons]
         by_cases q:k=x
         · subst q;simp
         · rw[if_neg zah_,if_neg (by simpa using fun e=>q e.symm)];rfl
       rw[e];omega
   have A:=jy_ L h;have B:=List.nodup_iff_count.1 h k;rw[y,List.length_cons];omega
theorem sW_ {D:List (Str×Fc)} {I X:List Str} (h:of_ D I X) (q:I.Nodup):X.Nodup:=by
  obtain⟨N,y,rfl,x,_⟩:=h;rw[List.nodup_append];exact⟨q,(List.mergeSort_perm _ _).nodup_iff.2 y,fun a A b d e=>by subst e;rw[List.mem_mergeSort]at d;exact x a d A⟩
theorem xM_ {D:List (Str×Fc)} {I X T:List Str} (h:of_ D I X) (y:∀ s,∀ t∈nxD D s,t∈T) (E:T.length≤20000) (C:I.length≤40000):X.length≤60000:=by
  obtain⟨N,e,rfl,x,d⟩:=h;have A:=cN_ e (m:=I++T) fun s q=>((d s).1 (.inr q)).mem y
  have B:N.length≤T.length:=cN_ e fun s q=>by
    have:=((d s).1 (.inr q)).mem y;rw[List.mem_append]at this;exact this.resolve_left (x s q)
  rw[List.length_append,List.length_mergeSort];omega
theorem ev_ {G:Prop} (h:G:=by
 refine Zz 8 ?_;exact lv_):G:=h
theorem ew_ {G:Prop} (h:G:=by
 refine Zz 17 ?_;exact lv_):G:=h
theorem lu_ {G:Prop} (h:G:=by
 refine Zz 1 ?_;refine C_ (W_ (g_ d_) (W_ (g_ d_) (W_ (g_ d_) (W_ (g_ d_) (bj_ (g_ d_)))))) (dM_ 3 x bT_ rfl rfl rfl rfl (Zz 7 ?_));exact x_ ⟨(j+1,I,N,H,G,L,Q),A,zt_,(by have e:liL (List.take (j+1) c.facts)=((liL (List.take j c.facts))++[B]):=(by unfold liL;rw[tk1 d,List.filter_append];simp_all);rw[e];exact x),zu_⟩ zb_ zl (l_ (c_ (c_ d_)) (l_ (c_ (c_ d_)) (l_ (c_ (c_ d_)) (B_ (c_ (c_ (g_ y_))) (B_ (c_ (c_ y_)) (c_ H_)))))) zh):G:=h
theorem ex_ {G:Prop} (h:G:=by
 refine Zz 1 ?_;refine C_ (W_ (g_ d_) (W_ (g_ d_) (W_ (g_ d_) (W_ (g_ d_) (bj_ (g_ d_)))))) (dM_ 3 x bT_ rfl rfl rfl rfl (Zz 7 ?_));exact x_ ⟨(j+1,I,N,J,O,H,G),A,zt_,zv_,(by have e:raL s.ks (List.take (j+1) c.facts)=((raL s.ks (List.take j c.facts))++[B]):=(by unfold raL;rw[tk1 d,List.filter_append];simp_all);rw[e];exact x)⟩ zb_ zl (l_ (c_ (c_ d_)) (l_ (c_ (c_ d_)) (l_ (c_ (c_ d_)) (B_ (c_ (c_ (g_ y_))) (B_ (c_ (c_ aX_)) (c_ H_)))))) zh):G:=h
theorem lv_ {G:Prop} (h:G:=by
 exact x_ ⟨(j+1,I,N,J,O,L,Q),A,zt_,zv_,zu_⟩ zb_ zl (l_ (c_ d_) (l_ (c_ d_) (l_ (c_ d_) (B_ (c_ y_) (B_ (c_ y_) H_))))) zh):G:=h
set_option maxHeartbeats 1000000 in
theorem sz_ (p:List Pc) (Y:Option Addr) (a2:Nat) (c:Cl) (hco:c.ok) (hp:p.length≤12000) (hF:c.facts.length≤65536) (hA:c.atoms.length≤40000) (hAs:SrS c.atoms):Tri Tryz.prog 34 #[.slice Y (List.length p) a2,Cl.val c] [] [ai_ Y (List.flatMap Pc.cells p),ai_ c.aad (List.flatMap ak_ c.atoms),ai_ c.fad (List.flatMap Fc.cells c.facts)] (fun y:{y:(List Str×Option Addr×Nat)×(List Fc×Option Addr×Nat)×(List Fc×Option Addr×Nat)×(List Fc×Option Addr×Nat)×(List Fc×Option Addr×Nat) // AsmR p c y.1.1 y.2.1.1 y.2.2.1.1 y.2.2.2.1.1 y.2.2.2.2.1∧rkS y.1∧rkF y.2.1∧rkF y.2.2.1∧rkF y.2.2.2.1∧rkF y.2.2.2.2}=>.agg #[.slice y.1.1.2.1 y.1.1.1.length y.1.1.2.2,.slice y.1.2.1.2.1 y.1.2.1.1.length y.1.2.1.2.2,.slice y.1.2.2.1.2.1 y.1.2.2.1.1.length y.1.2.2.1.2.2,.slice y.1.2.2.2.1.2.1 y.1.2.2.2.1.1.length y.1.2.2.2.1.2.2,.slice y.1.2.2.2.2.2.1 y.1.2.2.2.2.1.length y.1.2.2.2.2.2.2,.slice none 0 0]) (fun _=>[]) (fun y=>[ai_ y.1.1.2.1 (y.1.1.1.flatMap ak_),ai_ y.1.2.1.2.1 (y.1.2.1.1.flatMap Fc.cells),ai_ y.1.2.2.1.2.1 (y.1.2.2.1.1.flatMap Fc.cells),ai_ y.1.2.2.2.1.2.1 (y.1.2.2.2.1.1.flatMap Fc.cells),ai_ y.1.2.2.2.2.2.1 (y.1.2.2.2.2.1.flatMap Fc.cells)]):=by
 refine i_ Tryz.func34 rfl rfl Tryz.ntmps34 rfl fun v_1=>?_;refine Zz 2 ?_;refine V_ rfl rfl fun b2=>E_ pT_ rfl fun b1=>Zz 17 ?_
 refine K_ (ι:={y:Nat×Value×Hp // y.1≤List.length c.atoms∧zR 9 1 ak_ y.2.1 (el_ (List.take y.1 c.atoms)) y.2.2}) (fun y=>[(0,.slice Y (List.length p) a2),(3,zp_ b2 0),(4,zp_ b1 0),(5,y.1.2.1),(15,.slice c.aad (List.length c.atoms) c.acap),(16,.int .i64 (List.length c.atoms:Int)),(17,.int .i64 (y.1.1:Int))]) (fun y=>((b1,.cells #[.slice none 0 0,.slice none 0 0,.slice none 0 0,.slice none 0 0,.slice none 0 0,.slice none 0 0] 28 (0,0))::((b2,.cells #[.slice c.aad (List.length c.atoms) c.acap,.slice c.fad (List.length c.facts) c.fcap] 67 (0,0))::y.1.2.2))) (fun y=>[ai_ Y (List.flatMap Pc.cells p),ai_ c.aad (List.flatMap ak_ c.atoms),ai_ c.fad (List.flatMap Fc.cells c.facts)]) (fun y=>List.length c.atoms - y.1.1) ⟨((0:Nat),(.slice none 0 0),[]),by simp,(ax_.nil _ _)⟩ zl zp zh ?_;rintro ⟨⟨i,sv_Q,H_Q⟩,hi_i,a0⟩;dsimp only at hi_i a0 ⊢;have hil:List.length (el_ (List.take i c.atoms))≤40000:=Nat.le_trans (List.length_filter_le _ _) (Nat.le_trans (List.length_take_le i _) za_);refine Zi 2 (fun c1=>?_) fun c1=>?_
 ·refine Zz 11 ?_
  refine j_ (sn_ p Y a2 c.facts c.fad c.fcap hp hF) rfl f_ zf rfl fun⟨⟨db,Hd⟩,hd⟩=>?_;dsimp only;dsimp only at hd;refine Zz 3 ?_;refine C_ (W_ (g_ d_) (bj_ (g_ d_))) (bf_ ?_);rw[List.take_of_length_le za_]at a0;refine ug_ bq_ hd (c_ (c_ y_)) fun adr e8=>?_;refine bn_ a0 (c_ H_) fun c2 f8 hqad f6 hmqad hzqad=>?_;subst hqad;have hil:List.length (el_ c.atoms)≤40000:=Nat.le_trans (List.length_filter_le _ _) hA;refine Zz 2 ?_;refine j_ (rH_ (el_ c.atoms) c2 f8 f6 za_) rfl f_ zf rfl fun⟨⟨f9,icp⟩,hi_1,hi_2,hi_3⟩=>?_;dsimp only;have e4:List.length (Lib.compact (aT_ (el_ c.atoms)))≤40000:=by have:=gy_ (aT_ (el_ c.atoms));rw[List.length_mergeSort]at this;omega
  refine Zz 1 ?_;refine j_ (xB_ (Lib.compact (aT_ (el_ c.atoms))) f9 icp ⟨hi_1,hi_2,hi_3⟩ ((hD_ (fQ_ _)).imp fun q e=>by subst e;exact List.lt_irrefl _ q) e4 db (dz_ p c.facts) adr (by have:=iy_ (p:=p) c.facts;have:=Nat.mul_le_mul hF hp;omega) (p.map Pc.c) vL_ zal_) rfl f_ zf rfl fun⟨⟨X,Z,b3⟩,e0,hnk⟩=>?_;dsimp only;dsimp only at e0 hnk;have hXn:X.Nodup:=sW_ e0 ((hD_ (fQ_ _)).imp fun q e=>by subst e;exact List.lt_irrefl _ q);have hXl:List.length X≤60000:=xM_ e0 vL_ zal_ e4;refine Zz 1 ?_;refine z_ 0 ck_ rfl rfl rfl rfl rfl rfl (Zz 4 ?_);refine ba_ rfl fun d7=>Zz 13 ?_
  refine K_ (ι:={y:Nat×StM×Value×Hp // y.1≤List.length X∧(∀ n,n∈y.2.1.ks↔n∈List.take y.1 X)∧zR 36 6 Fc.cells y.2.2.1 (List.flatMap (lat (dz_ p c.facts)) (List.take y.1 X)) y.2.2.2}) (fun y=>[(0,.slice Y (List.length p) a2),(3,zp_ b2 0),(4,zp_ b1 0),(5,.slice c2 (List.length (el_ c.atoms)) f8),(15,.slice c.aad (List.length c.atoms) c.acap),(16,.int .i64 (List.length c.atoms:Int)),(17,.int .i64 (i:Int)),(8,.map (some db)),(9,.map (some d7)),(40,.slice Z (List.length X) b3),(41,.int .i64 (List.length X:Int)),(42,.int .i64 (y.1.1:Int))]) (fun y=>((d7,.map y.1.2.1.es y.1.2.1.c)::((b1,.cells #[.slice Z (List.length X) b3,.slice none 0 0,.slice none 0 0,y.1.2.2.1,.slice none 0 0,.slice none 0 0] 28 (0,0))::((b2,.cells #[.slice c.aad (List.length c.atoms) c.acap,.slice c.fad (List.length c.facts) c.fcap] 67 (0,0))::y.1.2.2.2)))) (fun y=>[ai_ Z (List.flatMap ak_ X),ai_ f9 (List.flatMap ak_ (Lib.compact (aT_ (el_ c.atoms)))),ai_ c2 (List.flatMap ak_ (el_ c.atoms)),mlF Tryz.prog 9 str Fc.cells db (dz_ p c.facts) adr,ai_ Y (List.flatMap Pc.cells p),ai_ c.aad (List.flatMap ak_ c.atoms),ai_ c.fad (List.flatMap Fc.cells c.facts)]) (fun y=>List.length X - y.1.1) ⟨((0:Nat),StM.nil,(.slice none 0 0),[]),by simp,(by intro n;simp[StM.nil]),(ax_.nil 36 6)⟩ zl zp zh ?_;rintro ⟨⟨m,s,sv_Z,H_Z⟩,hi_m,hs,a9⟩;dsimp only at hi_m hs a9 ⊢;have hel:List.length (List.flatMap (lat (dz_ p c.facts)) (List.take m X))≤786432000:=by have a3:=jy_ (dz_ p c.facts) (hXn.sublist (List.take_sublist m X));have a6:=iy_ (p:=p) c.facts;have h_3:=Nat.mul_le_mul hF hp;omega
  refine Zi 2 (fun U=>?_) fun U=>?_
  ·refine Zz 7 ?_
   rw[List.take_of_length_le (l:=X) za_]at hs a9;have hel_1:List.length (List.flatMap (lat (dz_ p c.facts)) X)≤786432000:=by have a3:=jy_ (dz_ p c.facts) hXn;have a6:=iy_ (p:=p) c.facts;have h_3:=Nat.mul_le_mul hF hp;omega
   refine bn_ a9 (c_ (c_ H_)) fun ead ecp head g0 hmead hzead=>?_;subst head;refine Zz 3 ?_;refine j_ (gO_ (List.flatMap (lat (dz_ p c.facts)) X) ead ecp g0 za_) rfl f_ zf rfl fun⟨⟨b0,d4⟩,b4,d9,b6⟩=>?_;dsimp only;refine Zz 1 ?_;refine z_ 1 bT_ rfl rfl rfl rfl rfl rfl (Zz 12 ?_);refine K_ (ι:={y:Nat×Value×Hp×Value×Hp×Value×Hp // y.1≤List.length c.facts∧zR 36 6 Fc.cells y.2.1 (tyL s.ks (List.take y.1 c.facts)) y.2.2.1∧zR 36 6 Fc.cells y.2.2.2.1 (liL (List.take y.1 c.facts)) y.2.2.2.2.1∧zR 36 6 Fc.cells y.2.2.2.2.2.1 (raL s.ks (List.take y.1 c.facts)) y.2.2.2.2.2.2}) (fun y=>[(0,.slice Y (List.length p) a2),(3,zp_ b2 0),(4,zp_ b1 0),(5,.slice c2 (List.length (el_ c.atoms)) f8),(15,.slice c.aad (List.length c.atoms) c.acap),(16,.int .i64 (List.length c.atoms:Int)),(17,.int .i64 (i:Int)),(8,.map (some db)),(9,.map (some d7)),(40,.slice Z (List.length X) b3),(41,.int .i64 (List.length X:Int)),(42,.int .i64 (m:Int)),(61,.slice c.fad (List.length c.facts) c.fcap),(62,.int .i64 (List.length c.facts:Int)),(63,.int .i64 (y.1.1:Int))]) (fun y=>((d7,.map s.es s.c)::((b1,.cells #[.slice Z (List.length X) b3,y.1.2.1,y.1.2.2.2.1,.slice b0 (List.length (hl_ (List.flatMap (lat (dz_ p c.facts)) X))) d4,y.1.2.2.2.2.2.1,.slice none 0 0] 28 (0,0))::((b2,.cells #[.slice c.aad (List.length c.atoms) c.acap,.slice c.fad (List.length c.facts) c.fcap] 67 (0,0))::(y.1.2.2.1++(y.1.2.2.2.2.1++y.1.2.2.2.2.2.2)))))) (fun y=>[ai_ b0 (List.flatMap Fc.cells (hl_ (List.flatMap (lat (dz_ p c.facts)) X))),ai_ ead (List.flatMap Fc.cells (List.flatMap (lat (dz_ p c.facts)) X)),ai_ Z (List.flatMap ak_ X),ai_ f9 (List.flatMap ak_ (Lib.compact (aT_ (el_ c.atoms)))),ai_ c2 (List.flatMap ak_ (el_ c.atoms)),mlF Tryz.prog 9 str Fc.cells db (dz_ p c.facts) adr,ai_ Y (List.flatMap Pc.cells p),ai_ c.aad (List.flatMap ak_ c.atoms),ai_ c.fad (List.flatMap Fc.cells c.facts)]) (fun y=>List.length c.facts - y.1.1) ⟨((0:Nat),(.slice none 0 0),[],(.slice none 0 0),[],(.slice none 0 0),[]),by simp,(ax_.nil _ _),(ax_.nil _ _),(ax_.nil _ _)⟩ zl zp zh ?_;rintro ⟨⟨j,I,N,J,O,L,Q⟩,hi_j,C,F,E⟩;dsimp only at hi_j C F E ⊢;have hltyL:List.length (tyL s.ks (List.take j c.facts))≤65536:=Nat.le_trans (List.length_filter_le _ _) (Nat.le_trans (List.length_take_le j _) za_);have hlliL:List.length (liL (List.take j c.facts))≤65536:=Nat.le_trans (List.length_filter_le _ _) (Nat.le_trans (List.length_take_le j _) za_);have hlraL:List.length (raL s.ks (List.take j c.facts))≤65536:=Nat.le_trans (List.length_filter_le _ _) (Nat.le_trans (List.length_take_le j _) za_);refine Zi 2 (fun S=>?_) fun S=>?_
   ·refine Zz 7 ?_
    rw[List.take_of_length_le za_]at C F E;refine bn_ C (c_ (c_ (c_ y_))) fun tad tcp htad f7 hmtad hztad=>?_;subst htad;refine Zz 3 ?_;refine j_ (gO_ (tyL s.ks c.facts) tad tcp f7 (Nat.le_trans (List.length_filter_le _ _) za_)) rfl f_ zf rfl fun⟨⟨e5,e7⟩,d2,d6,b9⟩=>?_;dsimp only;refine Zz 1 ?_;refine z_ 1 bT_ rfl rfl rfl rfl rfl rfl (Zz 3 ?_);refine bn_ F (c_ (c_ (c_ y_))) fun uad ucp huad f4 hmuad hzuad=>?_;subst huad;refine Zz 3 ?_;refine j_ (gO_ (liL c.facts) uad ucp f4 (Nat.le_trans (List.length_filter_le _ _) za_)) rfl f_ zf rfl fun⟨⟨e3,e9⟩,d0,c0,d1⟩=>?_;dsimp only;refine Zz 1 ?_;refine z_ 1 bT_ rfl rfl rfl rfl rfl rfl (Zz 3 ?_);refine bn_ E (c_ (c_ H_)) fun vad vcp hvad f2 hmvad hzvad=>?_;subst hvad;refine Zz 3 ?_;refine j_ (gO_ (raL s.ks c.facts) vad vcp f2 (Nat.le_trans (List.length_filter_le _ _) za_)) rfl f_ zf rfl fun⟨⟨e2,e6⟩,d3,d5,b5⟩=>?_;dsimp only;refine Zz 1 ?_;refine z_ 1 bT_ rfl rfl rfl rfl rfl rfl (Zz 5 ?_);refine z_ 1 bL_ rfl rfl rfl rfl rfl rfl (Zz 3 ?_);exact gb_ ⟨((X,Z,b3),((hl_ (tyL s.ks c.facts)),e5,e7),((hl_ (liL c.facts)),e3,e9),((hl_ (List.flatMap (lat (dz_ p c.facts)) X)),b0,d4),((hl_ (raL s.ks c.facts)),e2,e6)),⟨⟨xY_ hAs▸e0,⟨if_ _,fun z=>by rw[ig_,tyL,List.mem_filter,Bool.and_eq_true,decide_eq_true_eq,decide_eq_true_eq,hs]⟩,⟨if_ _,fun z=>by rw[ig_,liL,List.mem_filter,Bool.and_eq_true,Bool.and_eq_true,decide_eq_true_eq,Bool.not_eq_true',Bool.not_eq_true']⟩,⟨if_ _,fun z=>by rw[ig_,List.mem_flatMap];exact⟨fun⟨q,a3,a6⟩=>⟨q,a3,bN_.1 a6⟩,fun⟨q,a3,a6⟩=>⟨q,a3,bN_.2 a6⟩⟩⟩,⟨if_ _,fun z=>by rw[ig_,raL,List.mem_filter,Bool.and_eq_true,decide_eq_true_eq,decide_eq_true_eq,hs]⟩⟩,hnk,⟨d2,d6,b9⟩,⟨d0,c0,d1⟩,⟨b4,d9,b6⟩,d3,d5,b5⟩⟩ (fun aa v a3 a6=>dE_ (us:=[.slice Z (List.length X) b3,.slice e5 (List.length (hl_ (tyL s.ks c.facts))) e7,.slice e3 (List.length (hl_ (liL c.facts))) e9,.slice b0 (List.length (hl_ (List.flatMap (lat (dz_ p c.facts)) X))) d4,.slice e2 (List.length (hl_ (raL s.ks c.facts))) e6,.slice none 0 0]) 1 Tryz.results34 gd_ bL_ rfl rfl rfl aa v a3 a6) f_ zf
   have A:j<List.length c.facts:=by omega
   obtain⟨B,d⟩:∃ f1,c.facts[j]? = some f1:=⟨_,List.getElem?_eq_getElem A⟩;have hmf_1:B∈c.facts:=List.mem_of_getElem? d;refine Zz 12 ?_;refine E_ Q_ rfl fun b_4=>z_ 0 s_ rfl rfl rfl rfl rfl rfl (Zi 7 (fun b7=>?_) fun b7=>?_)
   ·refine Zi 14 (fun W=>?_) fun W=>?_
    ·refine Zi 20 (fun V=>?_) fun V=>?_
     ·exact ew_
     refine Zz 8 ?_;refine G_ (ar_ (bt_ (k:=B.a) (q:=s.ks) bq_ P_ aA_ rfl rfl s.hE (fun v h _=>(h.own _ (List.mem_of_getElem? (i:=1) rfl)).1)) (show _=Value.bool (decide (B.a∈s.ks)) from congrArg Value.bool (decide_eq_decide.2 Iff.rfl))) rfl fun a7 P=>Zz 4 ?_
     cases a7
     ·replace P:=zdf P
      exact ev_
     replace P:=zdt P;refine Zz 5 ?_;refine X_ w_ s_ Q_ rfl rfl rfl rfl rfl rfl fun a1=>?_;refine am_ (news:=List.flatMap Fc.cells [B]) eh_ E rfl rfl (c_ (c_ (c_ (c_ (c_ (g_ aX_)))))) rfl (aR_ 0 rfl) (fun u T=>aE_ Fc.cells_one T) zc_ zf_ rfl fun H G c1=>?_;have x:=zsa c1;exact ex_
    refine Zz 6 ?_;refine A_ (bE_ B.a) rfl f_ zt rfl fun a7 V=>ap_ rfl rfl (e_ (as_ rfl) rfl (Zz 2 ?_))
    cases a7
    ·refine Zz 5 ?_
     refine A_ (bE_ B.b) rfl f_ zt rfl fun a8 P=>ap_ rfl rfl (e_ (as_ rfl) rfl (Zz 4 ?_))
     cases a8
     ·refine Zz 5 ?_
      refine X_ w_ s_ Q_ rfl rfl rfl rfl rfl rfl fun a1=>?_;refine am_ (news:=List.flatMap Fc.cells [B]) eh_ F rfl rfl (c_ (c_ (c_ (c_ (c_ (g_ y_)))))) rfl (aR_ 0 rfl) (fun u T=>aE_ Fc.cells_one T) zc_ zf_ rfl fun H G U=>?_;have x:=zsa U;exact lu_
     refine Zi 5 (fun M=>?_) fun M=>?_
     ·exact ew_
     refine Zz 8 ?_;refine G_ (ar_ (bt_ (k:=B.a) (q:=s.ks) bq_ P_ aA_ rfl rfl s.hE (fun v h _=>(h.own _ (List.mem_of_getElem? (i:=1) rfl)).1)) (show _=Value.bool (decide (B.a∈s.ks)) from congrArg Value.bool (decide_eq_decide.2 Iff.rfl))) rfl fun b8 K=>Zz 4 ?_
     cases b8
     ·replace K:=zdf K
      exact ev_
     replace K:=zdt K;refine Zz 5 ?_;refine X_ w_ s_ Q_ rfl rfl rfl rfl rfl rfl fun a1=>?_;refine am_ (news:=List.flatMap Fc.cells [B]) eh_ E rfl rfl (c_ (c_ (c_ (c_ (c_ (g_ aX_)))))) rfl (aR_ 0 rfl) (fun u T=>aE_ Fc.cells_one T) zc_ zf_ rfl fun H G S=>?_;have x:=zsa S;exact ex_
    refine Zi 13 (fun P=>?_) fun P=>?_
    ·exact ew_
    refine Zz 8 ?_;refine G_ (ar_ (bt_ (k:=B.a) (q:=s.ks) bq_ P_ aA_ rfl rfl s.hE (fun v h _=>(h.own _ (List.mem_of_getElem? (i:=1) rfl)).1)) (show _=Value.bool (decide (B.a∈s.ks)) from congrArg Value.bool (decide_eq_decide.2 Iff.rfl))) rfl fun a8 M=>Zz 4 ?_
    cases a8
    ·replace M:=zdf M
     exact ev_
    replace M:=zdt M;refine Zz 5 ?_;refine X_ w_ s_ Q_ rfl rfl rfl rfl rfl rfl fun a1=>?_;refine am_ (news:=List.flatMap Fc.cells [B]) eh_ E rfl rfl (c_ (c_ (c_ (c_ (c_ (g_ aX_)))))) rfl (aR_ 0 rfl) (fun u T=>aE_ Fc.cells_one T) zc_ zf_ rfl fun H G b7=>?_;have x:=zsa b7;exact ex_
   refine Zz 8 ?_;refine G_ (ar_ (bt_ (k:=B.a) (q:=s.ks) bq_ P_ aA_ rfl rfl s.hE (fun v h _=>(h.own _ (List.mem_of_getElem? (i:=1) rfl)).1)) (show _=Value.bool (decide (B.a∈s.ks)) from congrArg Value.bool (decide_eq_decide.2 Iff.rfl))) rfl fun a7 W=>Zz 4 ?_
   cases a7
   ·replace W:=zdf W
    refine Zi 5 (fun V=>?_) fun V=>?_
    ·refine Zi 20 (fun P=>?_) fun P=>?_
     ·exact ew_
     refine Zz 8 ?_;refine G_ (ar_ (bt_ (k:=B.a) (q:=s.ks) bq_ P_ aA_ rfl rfl s.hE (fun v h _=>(h.own _ (List.mem_of_getElem? (i:=1) rfl)).1)) (show _=Value.bool (decide (B.a∈s.ks)) from congrArg Value.bool (decide_eq_decide.2 Iff.rfl))) rfl fun a8 M=>Zz 4 ?_
     cases a8
     ·replace M:=zdf M
      exact ev_
     replace M:=zdt M;refine Zz 5 ?_;refine X_ w_ s_ Q_ rfl rfl rfl rfl rfl rfl fun a1=>?_;refine am_ (news:=List.flatMap Fc.cells [B]) eh_ E rfl rfl (c_ (c_ (c_ (c_ (c_ (g_ aX_)))))) rfl (aR_ 0 rfl) (fun u T=>aE_ Fc.cells_one T) zc_ zf_ rfl fun H G K=>?_;have x:=zsa K;exact ex_
    refine Zz 6 ?_;refine A_ (bE_ B.a) rfl f_ zt rfl fun a8 P=>ap_ rfl rfl (e_ (as_ rfl) rfl (Zz 2 ?_))
    cases a8
    ·refine Zz 5 ?_
     refine A_ (bE_ B.b) rfl f_ zt rfl fun b8 M=>ap_ rfl rfl (e_ (as_ rfl) rfl (Zz 4 ?_))
     cases b8
     ·refine Zz 5 ?_
      refine X_ w_ s_ Q_ rfl rfl rfl rfl rfl rfl fun a1=>?_;refine am_ (news:=List.flatMap Fc.cells [B]) eh_ F rfl rfl (c_ (c_ (c_ (c_ (c_ (g_ y_)))))) rfl (aR_ 0 rfl) (fun u T=>aE_ Fc.cells_one T) zc_ zf_ rfl fun H G K=>?_;have x:=zsa K;exact lu_
     refine Zi 5 (fun K=>?_) fun K=>?_
     ·exact ew_
     refine Zz 8 ?_;refine G_ (ar_ (bt_ (k:=B.a) (q:=s.ks) bq_ P_ aA_ rfl rfl s.hE (fun v h _=>(h.own _ (List.mem_of_getElem? (i:=1) rfl)).1)) (show _=Value.bool (decide (B.a∈s.ks)) from congrArg Value.bool (decide_eq_decide.2 Iff.rfl))) rfl fun r_4 R=>Zz 4 ?_
     cases r_4
     ·replace R:=zdf R
      exact ev_
     replace R:=zdt R;refine Zz 5 ?_;refine X_ w_ s_ Q_ rfl rfl rfl rfl rfl rfl fun a1=>?_;refine am_ (news:=List.flatMap Fc.cells [B]) eh_ E rfl rfl (c_ (c_ (c_ (c_ (c_ (g_ aX_)))))) rfl (aR_ 0 rfl) (fun u T=>aE_ Fc.cells_one T) zc_ zf_ rfl fun H G f3=>?_;have x:=zsa f3;exact ex_
    refine Zi 13 (fun M=>?_) fun M=>?_
    ·exact ew_
    refine Zz 8 ?_;refine G_ (ar_ (bt_ (k:=B.a) (q:=s.ks) bq_ P_ aA_ rfl rfl s.hE (fun v h _=>(h.own _ (List.mem_of_getElem? (i:=1) rfl)).1)) (show _=Value.bool (decide (B.a∈s.ks)) from congrArg Value.bool (decide_eq_decide.2 Iff.rfl))) rfl fun b8 K=>Zz 4 ?_
    cases b8
    ·replace K:=zdf K
     exact ev_
    replace K:=zdt K;refine Zz 5 ?_;refine X_ w_ s_ Q_ rfl rfl rfl rfl rfl rfl fun a1=>?_;refine am_ (news:=List.flatMap Fc.cells [B]) eh_ E rfl rfl (c_ (c_ (c_ (c_ (c_ (g_ aX_)))))) rfl (aR_ 0 rfl) (fun u T=>aE_ Fc.cells_one T) zc_ zf_ rfl fun H G R=>?_;have x:=zsa R;exact ex_
   replace W:=zdt W;refine Zz 5 ?_;refine X_ w_ s_ Q_ rfl rfl rfl rfl rfl rfl fun a1=>?_;refine am_ (news:=List.flatMap Fc.cells [B]) eh_ C rfl rfl (c_ (c_ (c_ (c_ (c_ y_))))) rfl (aR_ 0 rfl) (fun u T=>aE_ Fc.cells_one T) zc_ zf_ rfl fun H G V=>?_;have x:=zsa V;refine Zz 1 ?_;refine C_ (W_ (g_ d_) (W_ (g_ d_) (W_ (g_ d_) (W_ (g_ d_) (bj_ (g_ d_)))))) (dM_ 3 x bT_ rfl rfl rfl rfl (Zz 7 ?_));exact x_ ⟨(j+1,H,G,J,O,L,Q),A,(by have e:tyL s.ks (List.take (j+1) c.facts)=((tyL s.ks (List.take j c.facts))++[B]):=(by unfold tyL;rw[tk1 d,List.filter_append];simp_all);rw[e];exact x),zv_,zu_⟩ zb_ zl (l_ (c_ (c_ d_)) (l_ (c_ (c_ d_)) (l_ (c_ (c_ d_)) (B_ (c_ (c_ y_)) (B_ (c_ (c_ y_)) (c_ H_)))))) zh
  obtain⟨f5,a4,f0,hmx_1⟩:=zge (show m<List.length X by omega);have hlk:=dB_ (dz_ p c.facts) a4;have hdl:=iy_ (p:=p) c.facts;have hml:=Nat.mul_le_mul hF hp;refine Zz 19 ?_;refine dT_ 0 s bq_ (.inr rfl) P_ rfl rfl rfl rfl (Zz 7 ?_);refine e_ (bA_ (k:=a4) (adr:=adr) bq_ jf_ ds_ rfl rfl zf) rfl (fs_ (news:=List.flatMap Fc.cells (lat (dz_ p c.facts) a4)) eh_ a9 rfl rfl (e8 a4).2 (e8 a4).1 (c_ (c_ H_)) (by rw[dv_ Fc.cells 6 Fc.cells_len]) (fun v _ h=>by exact (aV_ h.2.2.2.1 a4)) (fun u T=>aE_ Fc.cells_one T) zc_ zf_ rfl fun H G S=>?_);refine C_ List.perm_append_comm ?_;have x:=zsa S;refine Zz 1 ?_;refine dM_ 1 x bT_ rfl rfl rfl rfl (Zz 7 ?_);exact x_ ⟨(m+1,(StM.add s a4),H,G),f5,(by intro n;rw[StM.mem,hs n,tk1 f0];simp),(by rw[tk1 f0,List.flatMap_append];simpa using x)⟩ zb_ zl zp zh
 have a5:i<List.length c.atoms:=by omega
 obtain⟨e1,d8⟩:∃ f1,c.atoms[i]? = some f1:=⟨_,List.getElem?_eq_getElem a5⟩;have hms_1:e1∈c.atoms:=List.mem_of_getElem? d8;refine Zz 18 ?_;refine A_ (bE_ e1) rfl f_ zt rfl fun a7 U=>e_ (as_ rfl) rfl (Zz 2 ?_)
 cases a7
 ·refine Zz 4 ?_
  refine X_ n_ I_ az_ rfl rfl rfl rfl rfl rfl fun d7=>?_;refine am_ (news:=List.flatMap ak_ [e1]) cP_ a0 rfl rfl zp rfl (aR_ 0 rfl) (fun u T=>aE_ cm_ T) zc_ zf_ rfl fun H G S=>?_;refine C_ List.perm_append_comm ?_;have x:=zsa S;refine Zz 8 ?_;exact x_ ⟨(i+1,H,G),a5,(by have e:el_ (List.take (i+1) c.atoms)=((el_ (List.take i c.atoms))++[e1]):=zaL_;rw[e];exact x)⟩ zb_ zl (l_ (c_ d_) (l_ (c_ d_) H_)) zh
 refine Zz 8 ?_;exact x_ ⟨(i+1,sv_Q,H_Q),a5,(by have e:el_ (List.take (i+1) c.atoms)=(el_ (List.take i c.atoms)):=zaL_;rw[e];exact a0)⟩ zb_ zl (l_ d_ (l_ d_ ad_)) zh
end Go.Proofs.YtpbnmnfdgckaiaaGreatDoor
namespace Go.Proofs.YtpbnmnfdgckaiaaGreatDoor
open Go Go.Sx Go.Proofs
attribute [local irreducible] Code.wp wpList wpAnyH
open Go.Vs Go.Shelf Go.RowKit
structure Mdl where
  no:List Str
  noa:Option Addr
  noc:Nat
  ty:List Fc
  tya:Option Addr
  tyc:Nat
  li:List Fc
  lia:Option Addr
  lic:Nat
  di:List Fc
  dia:Option Addr
  dic:Nat
  ra:List Fc
  raa:Option Addr
  rac:Nat
  ro:List Fc
  roa:Option Addr
  roc:Nat
def Mdl.cells (m:Mdl):List Value:=[.slice m.noa m.no.length m.noc,.slice m.tya m.ty.length m.tyc,.slice m.lia m.li.length m.lic,.slice m.dia m.di.length m.dic,.slice m.raa m.ra.length m.rac,.slice m.roa m.ro.length m.roc]
def Mdl.val (m:Mdl):Value:=.agg #[.slice m.noa m.no.length m.noc,.slice m.tya m.ty.length m.tyc,.slice m.lia m.li.length m.lic,.slice m.dia m.di.length m.dic,.slice m.raa m.ra.length m.rac,.slice m.roa m.ro.length m.roc]
def ek_ (m:Mdl):Fct where
  p v:=bu_ v m.noa (List.flatMap ak_ m.no)∧bu_ v m.tya (List.flatMap Fc.cells m.ty)∧bu_ v m.lia (List.flatMap Fc.cells m.li)∧bu_ v m.dia (List.flatMap Fc.cells m.di)∧bu_ v m.raa (List.flatMap Fc.cells m.ra)∧bu_ v m.roa (List.flatMap Fc.cells m.ro)
  mono:=fun v v' h hp=>⟨(ai_ m.noa (List.flatMap ak_ m.no)).mono v v' h hp.1,(ai_ m.tya (List.flatMap Fc.cells m.ty)).mono v v' h hp.2.1,(ai_ m.lia (List.flatMap Fc.cells m.li)).mono v v' h hp.2.2.1,(ai_ m.dia (List.flatMap Fc.cells m.di)).mono v v' h hp.2.2.2.1,(ai_ m.raa (List.flatMap Fc.cells m.ra)).mono v v' h hp.2.2.2.2.1,(ai_ m.roa (List.flatMap Fc.cells m.ro)).mono v v' h hp.2.2.2.2.2⟩
structure Mdl.ok (m:Mdl):Prop where
  no:m.no.length≤9223372036854775807
  ty:m.ty.length≤9223372036854775807
  li:m.li.length≤9223372036854775807
  di:m.di.length≤9223372036854775807
  ra:m.ra.length≤9223372036854775807
  ro:m.ro.length≤9223372036854775807
def Mdl.nil:Mdl:=⟨[],none,0,[],none,0,[],none,0,[],none,0,[],none,0,[],none,0⟩
theorem Mdl.nil_ok:Mdl.nil.ok:=⟨by decide,by decide,by decide,by decide,by decide,by decide⟩
def wW_ (ls:List Ax) (m:Mdl) (e:Int):Prop :=
  (e=0∧(∀ x∈ls,x.check=0)∧¬ pQ_ (cV_ ls)∧∃ c,fv_ (cF_ 0 ls) 1073741824 c 0∧AsmR (cF_ 0 ls) c m.no m.ty m.li m.di m.ra∧yH_ ls m.ro) ∨
  (e≠0∧m=Mdl.nil∧((∃ x∈ls,x.check≠0)∨pQ_ (cV_ ls)∨((∀ x∈ls,x.check=0)∧∃ c,fv_ (cF_ 0 ls) 1073741824 c e)))
theorem rlR_e {l:List Ax} {e:Int} (h:RlR l e) (d:e≠0):pQ_ (cV_ l):=by
 rcases h with⟨h,_⟩|⟨_,h⟩
 ·exact absurd h d
 exact h
theorem rlR_0 {l:List Ax} {e:Int} (h:RlR l e) (d:e=0):¬ pQ_ (cV_ l):=by
 rcases h with⟨_,h⟩|⟨h,_⟩
 ·exact h
 omega
theorem vF_ (l:List Ax) (ad:Option Addr) (cap:Nat) (e:l.length≤12) (d:∀ x∈l,x.ok) (q:∀ x∈l,x.check=0) :
    Tri Tryz.prog 31 #[.slice ad l.length cap] [] [ge_ ad l,cn_] (fun y:{y:Option Addr×Nat // (cF_ 0 l).length≤y.2∧y.2≤maxLen∧(y.1=none→y.2=0)}=>.tuple #[.slice y.1.1 (cF_ 0 l).length y.1.2,.int .i64 0]) (fun _=>[]) (fun y=>[ai_ y.1.1 ((cF_ 0 l).flatMap Pc.cells)]):=by
  have h:=tW_ l ad cap za_ d;rw[rU_ e q]at h;exact h
theorem yz_ (p:List Pc):SrS (atS p):=nR_ p
theorem rD_:iC_ Tryz.prog 28 [(0,1),(1,1),(2,1),(3,1),(4,1),(5,1)] [.slice none 0 0,.slice none 0 0,.slice none 0 0,.slice none 0 0,.slice none 0 0,.slice none 0 0]:=⟨_,pT_,aU_,fun w=>by simp[ck_,bT_]⟩
theorem tq_ (d:List Ax) (lad:Option Addr) (lcap:Nat) (G:∀ x∈d,x.ok) (h12:d.length≤12):Tri Tryz.prog 9 #[.slice lad (List.length d) lcap] [] [ge_ lad d,cn_,lQ_] (fun y:{y:Mdl×Int // wW_ d y.1 y.2∧y.1.ok}=>.tuple #[y.1.1.val,.int .i64 y.1.2]) (fun _=>[]) (fun y=>[ek_ y.1.1]):=by
 refine i_ Tryz.func9 rfl rfl Tryz.ntmps9 rfl fun v_1=>?_;refine Zz 2 ?_;refine E_ pT_ rfl fun a0=>Zz 12 ?_
 refine K_ (ι:={y:Nat // y≤List.length d∧(∀ z∈List.take y d,Ax.check z=0)}) (fun y=>[(0,.slice lad (List.length d) lcap),(2,zp_ a0 0),(9,.slice lad (List.length d) lcap),(10,.int .i64 (List.length d:Int)),(11,.int .i64 (y.1:Int))]) (fun y=>((a0,.cells #[.slice none 0 0,.slice none 0 0,.slice none 0 0,.slice none 0 0,.slice none 0 0,.slice none 0 0] 28 (0,0))::[])) (fun y=>[ge_ lad d,cn_,lQ_]) (fun y=>List.length d - y.1) ⟨(0:Nat),by simp,zj_⟩ zl d_ zh ?_;rintro ⟨i,a3,F⟩;dsimp only at a3 F ⊢;refine Zi 2 (fun a5=>?_) fun a5=>?_
 ·have T:∀ x∈d,Ax.check x=0:=fun x hx=>F x (by rw[List.take_of_length_le za_];exact hx)
  refine Zz 10 ?_;refine j_ (tN_ d lad lcap G T za_) rfl f_ zf rfl fun⟨⟨gv,W⟩,L⟩=>?_;dsimp only;dsimp only at L;refine Zi 9 (fun H=>?_) fun H=>?_
  ·have a2:W=0:=by assumption
   refine Zz 8 ?_;refine j_ (vF_ d lad lcap h12 G T) rfl f_ zf rfl fun⟨⟨Y,J⟩,hpc⟩=>?_;dsimp only;dsimp only at hpc;have hfl:=qZ_ 0 d T;refine Zz 11 ?_;refine e_ (ar_ (cg_ rfl rfl) (show _=Value.bool false from congrArg Value.bool ze_)) rfl (Zz 8 ?_);refine j_ (all_c (cF_ 0 d) Y J 1073741824 (fun z hz=>(ra_ d 0 za_ G T z hz).2.2.1) za_) rfl f_ zf rfl fun⟨⟨I,V⟩,e⟩=>?_;dsimp only;have e:fv_ (cF_ 0 d) 1073741824 I V:=e;have hAl:=fv_.len e;refine Zz 3 ?_;refine E_ Tryz.zeroValue67 rfl fun b_2=>z_ 0 bR_ rfl rfl rfl rfl rfl rfl (Zi 7 (fun Z=>?_) fun Z=>?_)
   ·have K:fv_ (cF_ 0 d) 1073741824 I 0:=by have q:V=0:=zi_;subst q;exact e
    refine Zz 8 ?_;refine j_ (incl_c d lad lcap G T za_) rfl f_ zf rfl fun⟨⟨ro,roa,roc⟩,a4,U⟩=>?_;dsimp only;dsimp only at a4 U;refine Zz 11 ?_;refine e_ (ar_ (cg_ rfl rfl) (show _=Value.bool false from congrArg Value.bool ze_)) rfl (Zz 9 ?_);refine j_ (sz_ (cF_ 0 d) Y J I e.ok za_ za_ za_ (by rw[K.good.2.2.2.2.1];exact yz_ _)) rfl f_ zf rfl fun⟨⟨⟨no,noa,noc⟩,⟨ty,tya,tyc⟩,⟨li,lia,lic⟩,⟨di,dia,dic⟩,⟨ra,raa,rac⟩⟩,X,P,N,S,M,R⟩=>?_;dsimp only;dsimp only at X P N S M R;refine z_ 1 bL_ rfl rfl rfl rfl rfl rfl (Zz 6 ?_);refine z_ 1 bT_ rfl rfl rfl rfl rfl rfl (Zz 5 ?_);refine z_ 1 bL_ rfl rfl rfl rfl rfl rfl (Zz 4 ?_);exact gb_ ⟨((Mdl.mk no noa noc ty tya tyc li lia lic di dia dic ra raa rac ro roa roc),0),.inl ⟨rfl,T,rlR_0 L a2,I,K,X,a4⟩,⟨Nat.le_trans P.1 P.2.1,Nat.le_trans N.1 N.2.1,Nat.le_trans S.1 S.2.1,Nat.le_trans M.1 M.2.1,Nat.le_trans R.1 R.2.1,Nat.le_trans U.1 U.2.1⟩⟩ (fun Q v A B=>fx_ (us:=Mdl.cells (Mdl.mk no noa noc ty tya tyc li lia lic di dia dic ra raa rac ro roa roc)) 1 Tryz.results9 gd_ bL_ rfl rfl rfl rfl Q v A B) f_ (fun v _ h=>by exact⟨⟨h.1,h.2.1,h.2.2.1,h.2.2.2.1,h.2.2.2.2.1,h.2.2.2.2.2.1⟩,trivial⟩)
   refine Zz 5 ?_;refine e_ (J_ rD_ rfl rfl) rfl (Zz 1 ?_);refine z_ 1 bL_ rfl rfl rfl rfl rfl rfl (Zz 4 ?_);exact gb_ ⟨(Mdl.nil,V),.inr ⟨by assumption,rfl,.inr (.inr ⟨T,I,e⟩)⟩,Mdl.nil_ok⟩ (fun Q v A B=>fx_ (us:=Mdl.cells Mdl.nil) 1 Tryz.results9 gd_ bL_ rfl rfl rfl rfl Q v A B) f_ (fun v _ h=>by exact⟨⟨.inl rfl,.inl rfl,.inl rfl,.inl rfl,.inl rfl,.inl rfl⟩,trivial⟩)
  refine Zz 5 ?_;refine e_ (J_ rD_ rfl rfl) rfl (Zz 1 ?_);refine z_ 0 bL_ rfl rfl rfl rfl rfl rfl (Zz 4 ?_);exact gb_ ⟨(Mdl.nil,W),.inr ⟨by assumption,rfl,.inr (.inl (rlR_e L zi_))⟩,Mdl.nil_ok⟩ (fun Q v A B=>fx_ (us:=Mdl.cells Mdl.nil) 0 Tryz.results9 gd_ bL_ rfl rfl rfl rfl Q v A B) f_ (fun v _ h=>by exact⟨⟨.inl rfl,.inl rfl,.inl rfl,.inl rfl,.inl rfl,.inl rfl⟩,trivial⟩)
 obtain⟨O,E,a1,C⟩:=zge (show i<List.length d by omega);refine Zz 12 ?_;refine E_ dr_ rfl fun b_2=>z_ 0 bS_ rfl rfl rfl rfl rfl rfl (Zz 5 ?_)
 refine j_ (hF_ E (G E C)) rfl f_ (fun v _ h=>by exact⟨(h.1.2 E C),h.2.1,trivial⟩) rfl fun _=>Zi 6 (fun H=>?_) fun H=>?_
 ·refine Zz 10 ?_
  exact x_ ⟨i+1,O,(fun z hz=>by rw[tk1 a1,List.mem_append,List.mem_singleton]at hz;exact hz.elim (F z) fun q=>by rw[q];assumption)⟩ zb_ zl (c_ d_) zh
 refine Zz 5 ?_;refine e_ (J_ rD_ rfl rfl) rfl (Zz 1 ?_);refine z_ 1 bL_ rfl rfl rfl rfl rfl rfl (Zz 4 ?_);exact gb_ ⟨(Mdl.nil,(Ax.check E)),.inr ⟨by assumption,rfl,.inl ⟨E,C,by assumption⟩⟩,Mdl.nil_ok⟩ (fun Q v A B=>fx_ (us:=Mdl.cells Mdl.nil) 1 Tryz.results9 gd_ bL_ rfl rfl rfl rfl Q v A B) f_ (fun v _ h=>by exact⟨⟨.inl rfl,.inl rfl,.inl rfl,.inl rfl,.inl rfl,.inl rfl⟩,trivial⟩)
end Go.Proofs.YtpbnmnfdgckaiaaGreatDoor
namespace Go.Proofs.YtpbnmnfdgckaiaaGreatDoor
open Go Go.Sx Go.Proofs
attribute [local irreducible] Code.wp wpList wpAnyH
open Go.Vs Go.Shelf Go.RowKit
theorem wm_ (l:List Fc) (ad:Option Addr) (cap:Nat) (f:Fc) (hl:l.length≤9223372036854775807):Tri Tryz.prog 89 #[.slice ad (List.length l) cap,Fc.val f] [] [ai_ ad (List.flatMap Fc.cells l)] (fun r:{r:Int // decide (0≤r)=decide (f∈l)}=>.int .i64 r.1) (fun _=>[]) (fun _=>[]):=by
 refine i_ Tryz.func89 rfl rfl Tryz.ntmps89 rfl fun H=>?_;refine Zz 2 ?_;refine V_ rfl rfl fun x=>Zz 12 ?_
 refine K_ (ι:={y:Nat // y≤List.length l∧f ∉ List.take y l}) (fun y=>[(0,.slice ad (List.length l) cap),(3,zp_ x 0),(4,.int .i64 0),(7,.int .i64 (List.length l:Int)),(8,.int .i64 (y.1:Int))]) (fun y=>((x,.cells #[.int .i64 f.kind,str f.a,str f.b,str f.r,.int .i64 f.lo,.int .i64 f.hi] 36 (0,0))::[])) (fun y=>[ai_ ad (List.flatMap Fc.cells l)]) (fun y=>List.length l - y.1) ⟨(0:Nat),by simp,zj_⟩ zl d_ zh ?_;rintro ⟨i,A,E⟩;dsimp only at A E ⊢;refine Zi 2 (fun C=>?_) fun C=>?_
 ·refine Zz 12 ?_
  exact Y_ Tryz.results89 ⟨-1,by rw[List.take_of_length_le za_]at E;rw[decide_eq_false E];rfl⟩ rfl f_ zt
 obtain⟨h,F,B,e⟩:=zge (show i<List.length l by omega);refine Zz 16 ?_;refine t_ 0 [0,1,2,3,4,5] zk zs (Zz 5 ?_);refine cZ_ rfl (ca_ (p:=f) (q:=F) rfl rfl) rfl fun G d=>Zz 3 ?_
 cases G
 ·replace d:=zdf d
  refine Zz 8 ?_;exact x_ ⟨i+1,h,(by rw[tk1 B,List.mem_append,List.mem_singleton];exact fun q=>q.elim E d)⟩ zb_ zl d_ zh
 replace d:=zdt d;refine Zz 8 ?_;exact Y_ Tryz.results89 ⟨(i:Int),by rw[decide_eq_true (p:=f∈l) (by rw[d];exact e)];exact decide_eq_true za_⟩ rfl f_ zt
theorem iz_ (l:List Fc) (ad:Option Addr) (cap:Nat) (f:Fc) (hl:l.length≤9223372036854775807):Tri Tryz.prog 43 #[.slice ad (List.length l) cap,Fc.val f] [] [ai_ ad (List.flatMap Fc.cells l)] (fun _:Unit=>.bool (decide (f∈l))) (fun _=>[]) (fun _=>[]):=by
  refine i_ Tryz.func43 rfl rfl Tryz.ntmps43 rfl fun h=>?_;refine Zz 2 ?_;refine V_ rfl rfl fun x=>Zz 7 ?_
  refine j_ (wm_ l ad cap f hl) rfl f_ zf rfl fun⟨ix,d⟩=>?_;dsimp only;try dsimp only at d
  refine G_ (eD_ rfl rfl) rfl fun q e=>Zz 4 ?_
  exact Y_ Tryz.results43 () (m_ rfl (d.symm.trans e).symm) f_ zt
def oc_ (m:Mdl) (r t:Str):Bool:=(r==t)||decide (Z_ r t∈m.ro)
def lR_ (m:Mdl) (a r b:Str) (f:Fc):Bool:=decide (f=aa_ a f.r b)&&oc_ m f.r r
def vl_ (m:Mdl) (a r b:Str):Bool:=if nls a=false∧nls b=false then decide (aa_ a r b∈m.li) else m.di.any (lR_ m a r b)
def mT_ (n t:Str) (lo hi:Int) (f:Fc):Bool:=decide (f=af_ n t f.lo f.hi)&&(decide (lo≤f.lo)&&decide (f.hi≤hi))
def rngB (m:Mdl) (n t:Str) (lo hi:Int):Bool:=m.ra.any (mT_ n t lo hi)
theorem mS_ {m:Mdl} {a r b:Str} {f:Fc} (h:f=aa_ a f.r b) (d:oc_ m f.r r=true):lR_ m a r b f=true:=by unfold lR_;rw[decide_eq_true h,d];rfl
theorem pi_ {m:Mdl} {a r b:Str} {f:Fc} (h:¬ f=aa_ a f.r b):lR_ m a r b f=false:=by unfold lR_;rw[decide_eq_false h];rfl
theorem ph_ {m:Mdl} {a r b:Str} {f:Fc} (d:oc_ m f.r r=false):lR_ m a r b f=false:=by unfold lR_;rw[d,Bool.and_false]
theorem cD_ {α:Type} {l:List α} {p:α→Bool} {i:Nat} {x:α} (h:(l.take i).any p=false) (d:l[i]? = some x) (e:p x=false):(l.take (i+1)).any p=false:=by rw[tk1 d,List.any_append,h];simp[e]
theorem gZ_ {α:Type} {l:List α} {p:α→Bool} {i:Nat} (h:(l.take i).any p=false) (hi:l.length≤i):l.any p=false:=by rwa [List.take_of_length_le hi]at h
theorem ga_ {α:Type} {l:List α} {p:α→Bool} {x:α} (e:x∈l) (d:p x=true):l.any p=true:=List.any_eq_true.2 ⟨x,e,d⟩
theorem vk_ {m:Mdl} {a r b:Str} (e:nls a=false) (d:nls b=false):vl_ m a r b=decide (aa_ a r b∈m.li):=if_pos ⟨e,d⟩
theorem ho_ {m:Mdl} {a r b:Str} (h:¬ (nls a=false∧nls b=false)):vl_ m a r b=m.di.any (lR_ m a r b):=if_neg h
theorem nL_ (m:Mdl) (d:m.ok) (n t:Str):Tri Tryz.prog 12 #[Mdl.val m,str n,str t] [] [ek_ m] (fun _:Unit=>.bool (decide (Z_ n t∈m.ty))) (fun _=>[]) (fun _=>[]):=by
  refine i_ Tryz.func12 rfl rfl Tryz.ntmps12 rfl fun q=>?_;refine Zz 2 ?_;refine V_ rfl rfl fun y=>Zz 9 ?_
  refine e_ (J_ eb_ rfl rfl) rfl (A_ (iz_ (Mdl.ty m) (Mdl.tya m) (Mdl.tyc m) (Fc.mk 1 n t [] 0 0) d.ty) rfl f_ (fun v _ h=>by exact⟨h.1.2.1,trivial⟩) rfl fun x e=>Zz 4 ?_);exact Y_ Tryz.results12 () (m_ rfl e.symm) f_ zt
theorem lL_ (m:Mdl) (q:m.ok) (r t:Str):Tri Tryz.prog 52 #[Mdl.val m,str r,str t] [] [ek_ m] (fun _:Unit=>.bool (oc_ m r t)) (fun _=>[]) (fun _=>[]):=by
 refine i_ Tryz.func52 rfl rfl Tryz.ntmps52 rfl fun x=>?_;refine Zz 2 ?_;refine V_ rfl rfl fun A=>Zi 7 (fun d=>?_) fun d=>?_
 ·refine Zz 10 ?_
  refine e_ (J_ eb_ rfl rfl) rfl (ap_ rfl rfl (A_ (iz_ (Mdl.ro m) (Mdl.roa m) (Mdl.roc m) (Fc.mk 1 r t [] 0 0) q.ro) rfl f_ (fun v _ h=>by exact⟨h.1.2.2.2.2.2,trivial⟩) rfl fun y e=>Zz 5 ?_));exact Y_ Tryz.results52 () (m_ rfl zav_) f_ zt
 refine Zz 12 ?_;exact Y_ Tryz.results52 () (m_ rfl (by unfold oc_;rw[beq_iff_eq.2 d];rfl)) f_ zt
theorem sP_ (m:Mdl) (K:m.ok) (a r b:Str):Tri Tryz.prog 18 #[Mdl.val m,str a,str r,str b] [] [ek_ m] (fun _:Unit=>.bool (vl_ m a r b)) (fun _=>[]) (fun _=>[]):=by
 refine i_ Tryz.func18 rfl rfl Tryz.ntmps18 rfl fun Q=>?_;have R:=K.di;refine Zz 2 ?_;refine V_ rfl rfl fun I=>Zz 7 ?_
 refine A_ (bE_ a) rfl f_ zt rfl fun O E=>e_ (as_ rfl) rfl (Zz 1 ?_)
 cases O
 ·refine Zz 3 ?_
  refine A_ (bE_ b) rfl f_ zt rfl fun M B=>ap_ rfl rfl (e_ (as_ rfl) rfl (Zz 3 ?_))
  cases M
  ·refine Zz 8 ?_
   refine e_ (J_ eb_ rfl rfl) rfl (A_ (iz_ (Mdl.li m) (Mdl.lia m) (Mdl.lic m) (Fc.mk 2 a b r 0 0) K.li) rfl f_ (fun v _ h=>by exact⟨h.1.2.2.1,trivial⟩) rfl fun H d=>Zz 4 ?_);exact Y_ vv_ () (m_ rfl (by rw[vk_ E B];exact d.symm)) f_ zt
  refine Zz 13 ?_;refine K_ (ι:={y:Nat // y≤List.length (Mdl.di m)∧(List.any (List.take y (Mdl.di m)) (lR_ m a r b))=false}) (fun y=>[(1,str a),(2,str r),(3,str b),(4,zp_ I 0),(8,.bool false),(27,.slice (Mdl.dia m) (List.length (Mdl.di m)) (Mdl.dic m)),(28,.int .i64 (List.length (Mdl.di m):Int)),(29,.int .i64 (y.1:Int))]) (fun y=>((I,.cells #[.slice (Mdl.noa m) (List.length (Mdl.no m)) (Mdl.noc m),.slice (Mdl.tya m) (List.length (Mdl.ty m)) (Mdl.tyc m),.slice (Mdl.lia m) (List.length (Mdl.li m)) (Mdl.lic m),.slice (Mdl.dia m) (List.length (Mdl.di m)) (Mdl.dic m),.slice (Mdl.raa m) (List.length (Mdl.ra m)) (Mdl.rac m),.slice (Mdl.roa m) (List.length (Mdl.ro m)) (Mdl.roc m)] 28 (0,0))::[])) (fun y=>[ek_ m]) (fun y=>List.length (Mdl.di m) - y.1) ⟨(0:Nat),by simp,zj_⟩ zl d_ zh ?_;rintro ⟨i,G,J⟩;dsimp only at G J ⊢;refine Zi 2 (fun d=>?_) fun d=>?_
  ·refine Zz 12 ?_
   exact Y_ vv_ () (m_ rfl (by rw[ho_ (fun q=>by rw[q.2]at B;cases B),gZ_ J za_])) f_ zt
  obtain⟨A,C,x,F⟩:=zge (show i<List.length (Mdl.di m) by omega);refine Zz 10 ?_;refine e_ (O_ w_ s_ rfl rfl (fun v _ h=>aq_ (n:=6) Fc.cells_len ze_ zaq_ x) za_ zg_) rfl ?_;refine e_ (ae_ (ad:=(Mdl.dia m)) (us:=Fc.cells C) aB_ s_ rfl (fun v _ h=>by exact h.1.2.2.2.1) (Fc.cells_len _) (p_ Fc.cells_len x)) rfl (E_ Q_ rfl fun N=>z_ 0 s_ rfl rfl rfl rfl rfl rfl (Zz 9 ?_));refine e_ (J_ eb_ rfl rfl) rfl (G_ (ca_ (p:=C) (q:=(Fc.mk 2 a b C.r 0 0)) rfl rfl) rfl fun H e=>Zz 1 ?_);cases H
  ·replace e:=zdf e
   refine Zz 16 ?_;exact x_ ⟨i+1,A,(cD_ J x (pi_ e))⟩ zb_ zl (c_ d_) zh
  replace e:=zdt e;refine Zz 9 ?_;refine A_ (lL_ m K C.r r) rfl f_ zf rfl fun P L=>Zz 3 ?_
  cases P
  ·refine Zz 8 ?_
   exact x_ ⟨i+1,A,(cD_ J x (ph_ L))⟩ zb_ zl (c_ d_) zh
  refine Zz 7 ?_;exact Y_ vv_ () (m_ rfl (by rw[ho_ (fun q=>by rw[q.2]at B;cases B),ga_ F (mS_ e L)])) f_ zt
 refine Zz 19 ?_;refine K_ (ι:={y:Nat // y≤List.length (Mdl.di m)∧(List.any (List.take y (Mdl.di m)) (lR_ m a r b))=false}) (fun y=>[(1,str a),(2,str r),(3,str b),(4,zp_ I 0),(8,.bool false),(27,.slice (Mdl.dia m) (List.length (Mdl.di m)) (Mdl.dic m)),(28,.int .i64 (List.length (Mdl.di m):Int)),(29,.int .i64 (y.1:Int))]) (fun y=>((I,.cells #[.slice (Mdl.noa m) (List.length (Mdl.no m)) (Mdl.noc m),.slice (Mdl.tya m) (List.length (Mdl.ty m)) (Mdl.tyc m),.slice (Mdl.lia m) (List.length (Mdl.li m)) (Mdl.lic m),.slice (Mdl.dia m) (List.length (Mdl.di m)) (Mdl.dic m),.slice (Mdl.raa m) (List.length (Mdl.ra m)) (Mdl.rac m),.slice (Mdl.roa m) (List.length (Mdl.ro m)) (Mdl.roc m)] 28 (0,0))::[])) (fun y=>[ek_ m]) (fun y=>List.length (Mdl.di m) - y.1) ⟨(0:Nat),by simp,zj_⟩ zl d_ zh ?_;rintro ⟨i,G,J⟩;dsimp only at G J ⊢;refine Zi 2 (fun B=>?_) fun B=>?_
 ·refine Zz 12 ?_
  exact Y_ vv_ () (m_ rfl (by rw[ho_ (fun q=>by rw[q.1]at E;cases E),gZ_ J za_])) f_ zt
 obtain⟨A,C,x,F⟩:=zge (show i<List.length (Mdl.di m) by omega);refine Zz 10 ?_;refine e_ (O_ w_ s_ rfl rfl (fun v _ h=>aq_ (n:=6) Fc.cells_len ze_ zaq_ x) za_ zg_) rfl ?_;refine e_ (ae_ (ad:=(Mdl.dia m)) (us:=Fc.cells C) aB_ s_ rfl (fun v _ h=>by exact h.1.2.2.2.1) (Fc.cells_len _) (p_ Fc.cells_len x)) rfl (E_ Q_ rfl fun N=>z_ 0 s_ rfl rfl rfl rfl rfl rfl (Zz 9 ?_));refine e_ (J_ eb_ rfl rfl) rfl (G_ (ca_ (p:=C) (q:=(Fc.mk 2 a b C.r 0 0)) rfl rfl) rfl fun M d=>Zz 1 ?_);cases M
 ·replace d:=zdf d
  refine Zz 16 ?_;exact x_ ⟨i+1,A,(cD_ J x (pi_ d))⟩ zb_ zl (c_ d_) zh
 replace d:=zdt d;refine Zz 9 ?_;refine A_ (lL_ m K C.r r) rfl f_ zf rfl fun H e=>Zz 3 ?_
 cases H
 ·refine Zz 8 ?_
  exact x_ ⟨i+1,A,(cD_ J x (ph_ e))⟩ zb_ zl (c_ d_) zh
 refine Zz 7 ?_;exact Y_ vv_ () (m_ rfl zaI_) f_ zt
theorem vx_ (m:Mdl) (K:m.ok) (n t:Str) (lo hi:Int):Tri Tryz.prog 22 #[Mdl.val m,str n,str t,.agg #[.int .i64 lo,.int .i64 hi]] [] [ek_ m] (fun _:Unit=>.bool (rngB m n t lo hi)) (fun _=>[]) (fun _=>[]):=by
 refine i_ Tryz.func22 rfl rfl Tryz.ntmps22 rfl fun M=>?_;have O:=K.ra;refine Zz 2 ?_;refine V_ rfl rfl fun J=>V_ rfl rfl fun F=>Zz 13 ?_
 refine K_ (ι:={y:Nat // y≤List.length (Mdl.ra m)∧(List.any (List.take y (Mdl.ra m)) (mT_ n t lo hi))=false}) (fun y=>[(1,str n),(2,str t),(7,zp_ F 0),(8,.bool false),(13,.slice (Mdl.raa m) (List.length (Mdl.ra m)) (Mdl.rac m)),(14,.int .i64 (List.length (Mdl.ra m):Int)),(15,.int .i64 (y.1:Int))]) (fun y=>((F,.cells #[.int .i64 lo,.int .i64 hi] 54 (0,0))::((J,.cells #[.slice (Mdl.noa m) (List.length (Mdl.no m)) (Mdl.noc m),.slice (Mdl.tya m) (List.length (Mdl.ty m)) (Mdl.tyc m),.slice (Mdl.lia m) (List.length (Mdl.li m)) (Mdl.lic m),.slice (Mdl.dia m) (List.length (Mdl.di m)) (Mdl.dic m),.slice (Mdl.raa m) (List.length (Mdl.ra m)) (Mdl.rac m),.slice (Mdl.roa m) (List.length (Mdl.ro m)) (Mdl.roc m)] 28 (0,0))::[]))) (fun y=>[ek_ m]) (fun y=>List.length (Mdl.ra m) - y.1) ⟨(0:Nat),by simp,zj_⟩ zl zp zh ?_;rintro ⟨i,G,H⟩;dsimp only at G H ⊢;refine Zi 2 (fun I=>?_) fun I=>?_
 ·refine Zz 12 ?_
  exact Y_ Tryz.results22 () (m_ rfl (gZ_ H za_).symm) f_ zt
 obtain⟨A,d,x,E⟩:=zge (show i<List.length (Mdl.ra m) by omega);refine Zz 10 ?_;refine e_ (O_ w_ s_ rfl rfl (fun v _ h=>aq_ (n:=6) Fc.cells_len ze_ (by exact h.1.2.2.2.2.1) x) za_ zg_) rfl ?_;refine e_ (ae_ (ad:=(Mdl.raa m)) (us:=Fc.cells d) aB_ s_ rfl (fun v _ h=>by exact h.1.2.2.2.2.1) (Fc.cells_len _) (p_ Fc.cells_len x)) rfl (E_ Q_ rfl fun N=>z_ 0 s_ rfl rfl rfl rfl rfl rfl (Zz 11 ?_));refine e_ (J_ eb_ rfl rfl) rfl (G_ (ca_ (p:=d) (q:=(Fc.mk 3 n [] t d.lo d.hi)) rfl rfl) rfl fun L e=>Zz 7 ?_);cases L
 ·replace e:=zdf e
  refine Zz 23 ?_;exact x_ ⟨i+1,A,(cD_ H x zay_)⟩ zb_ zl (l_ (c_ d_) (c_ d_)) zh
 replace e:=zdt e;refine Zi 9 (fun C=>?_) fun C=>?_
 ·refine Zz 18 ?_
  exact x_ ⟨i+1,A,(cD_ H x zam_)⟩ zb_ zl (l_ (c_ d_) (c_ d_)) zh
 refine Zi 11 (fun B=>?_) fun B=>?_
 ·refine Zz 11 ?_
  exact x_ ⟨i+1,A,(cD_ H x zan_)⟩ zb_ zl (l_ (c_ d_) (c_ d_)) zh
 refine Zz 10 ?_;exact Y_ Tryz.results22 () (m_ rfl (ga_ E zL_).symm) f_ zt
theorem ya_ (l:List Fc) (ad:Option Addr) (cap:Nat) (hl:l.length≤9223372036854775807):Tri Tryz.prog 87 #[.slice ad (List.length l) cap] [] [ai_ ad (List.flatMap Fc.cells l)] (fun b:{b:Bool // b=true↔Srt l}=>.bool b.1) (fun _=>[]) (fun _=>[]):=by
 refine i_ Tryz.func87 rfl rfl Tryz.ntmps87 rfl fun N=>?_;refine Zz 14 ?_;refine K_ (ι:={y:Nat // y≤List.length l∧(List.take y l).Pairwise Fc.lt}) (fun y=>[(0,.slice ad (List.length l) cap),(2,.bool false),(5,.slice ad (List.length l) cap),(6,.int .i64 (List.length l:Int)),(7,.int .i64 (y.1:Int))]) (fun y=>([])) (fun y=>[ai_ ad (List.flatMap Fc.cells l)]) (fun y=>List.length l - y.1) ⟨(0:Nat),by simp,zj_⟩ zl f_ zh ?_;rintro ⟨i,B,G⟩;dsimp only at B G ⊢;refine Zi 2 (fun F=>?_) fun F=>?_
 ·have hS:List.length l≤i→Srt l:=fun q=>by rw[List.take_of_length_le q]at G;exact G
  refine Zz 12 ?_;exact Y_ Tryz.results87 ⟨true,fun _=>hS za_,fun _=>rfl⟩ rfl f_ zt
 obtain⟨d,J,h,I⟩:=zge (show i<List.length l by omega);refine Zz 13 ?_;refine E_ Q_ rfl fun O=>Zz 1 ?_
 refine z_ 0 s_ rfl rfl rfl rfl rfl rfl (Zz 4 ?_);refine t_ 9 [0,1,2] zk zs (Zi 1 (fun A=>?_) fun A=>?_)
 ·refine Zz 2 ?_
  refine t_ 0 [3,4,5,6,7,8,9,10,11] zk zs (Zz 20 ?_);exact x_ ⟨i+1,d,(by rw[show i=0 by omega];exact vy_ l)⟩ zb_ zl f_ zh
 obtain⟨L,C,x,K⟩:=zge (show (Int.toNat ((i:Int) - 1))<List.length l by omega);have e:l[i - 1]? = some C:=by rw[show i - 1=Int.toNat ((i:Int) - 1) by omega];exact x
 refine Zz 2 ?_;refine t_ 3 [3,4,5,6,7,8] zk zs (Zz 7 ?_);refine o_ 9 rfl zk (ap_ rfl rfl (j_ (wE_ C J) rfl f_ zt rfl fun _=>Zz 3 ?_));refine t_ 0 [10,11] zk zs ?_;refine Zi 0 (fun E=>?_) fun E=>?_
 ·refine Zz 12 ?_
  exact x_ ⟨i+1,d,(by have q:=sS_ (lt:=Fc.lt) (fun H M=>Fc.lt_trans H M) (k:=i - 1) (by rw[show i - 1+1=i by omega];exact G) e (by rw[show i - 1+1=i by omega];exact h) (yn_ za_);rw[show i - 1+2=i+1 by omega]at q;exact q)⟩ zb_ zl f_ zh
 refine Zz 11 ?_;exact Y_ Tryz.results87 ⟨false,fun q=>zaH_,fun q=>absurd q (vz_ (k:=i - 1) e (by rw[show i - 1+1=i by omega];exact h) (tn_.1 za_))⟩ rfl f_ zt
end Go.Proofs.YtpbnmnfdgckaiaaGreatDoor
namespace Go.Proofs.YtpbnmnfdgckaiaaGreatDoor
open Go Go.Sx Go.Proofs
attribute [local irreducible] Code.wp wpList wpAnyH
open Go.Vs Go.Shelf Go.RowKit
def gamF (Γ:List Fct):Fct where
  p v:=ac_ Γ v
  mono:=fun v v' h hp=>an_ h hp
def pl_ (p s:Str):Prop:=¬ ((nls p=nls s∧s≤p)∨(nls p=true∧nls s=false))
def la_ (l:List Str):Prop:=(∀ s∈l,s≠[])∧∀ (i:Nat) p s,l[i]? = some p→l[i+1]? = some s→pl_ p s
def jQ_ (f:Fc):Bool:=(decide (f=Z_ f.a f.b)&&(f.a != []))&&(f.b != [])
def kd_ (K:List Str) (f:Fc):Bool:=((decide (f=aa_ f.a f.r f.b)&&decide (f.a∈K))&&decide (f.b∈K))&&(f.r != [])
def nV_ (K:List Str) (f:Fc):Bool:=((((decide (f=af_ f.a f.r f.lo f.hi)&&decide (f.a∈K))&&(f.r != []))&&decide (-1099511627776≤f.lo))&&decide (f.lo≤f.hi))&&decide (f.hi≤1099511627776)
def mC_ (K:List Str) (f:Fc):Bool:=jQ_ f&&decide (f.a∈K)
def nY_ (K:List Str) (f:Fc):Bool:=(kd_ K f&&!nls f.a)&&!nls f.b
structure MdV (m:Mdl):Prop where
  no:la_ m.no
  ty:(∀ f∈m.ty,mC_ m.no f=true)∧Srt m.ty
  li:(∀ f∈m.li,nY_ m.no f=true)∧Srt m.li
  di:(∀ f∈m.di,kd_ m.no f=true)∧Srt m.di
  ra:(∀ f∈m.ra,nV_ m.no f=true)∧Srt m.ra
  ro:(∀ f∈m.ro,jQ_ f=true)∧Srt m.ro
theorem pJ_ {K L:List Str} (h:∀ n,n∈K↔n∈L) (s:Str):decide (s∈K)=decide (s∈L):=decide_eq_decide.2 (h s)
theorem po_ {K L:List Str} (h:∀ n,n∈K↔n∈L) (f:Fc):kd_ K f=kd_ L f:=by unfold kd_;rw[pJ_ h,pJ_ h]
theorem sQ_ {K L:List Str} (h:∀ n,n∈K↔n∈L) (f:Fc):nV_ K f=nV_ L f:=by unfold nV_;rw[pJ_ h]
theorem sK_ {K L:List Str} (h:∀ n,n∈K↔n∈L) (f:Fc):mC_ K f=mC_ L f:=by unfold mC_;rw[pJ_ h]
theorem tc_ {K L:List Str} (h:∀ n,n∈K↔n∈L) (f:Fc):nY_ K f=nY_ L f:=by unfold nY_;rw[po_ h]
theorem xP_ {m:Mdl} {K:List Str} (h:∀ n,n∈K↔n∈m.no) {x A B E C y:Bool} (J:x=true↔la_ m.no) (F:A=true↔(∀ f∈m.ty,mC_ K f=true)∧Srt m.ty) (L:B=true↔(∀ f∈m.li,nY_ K f=true)∧Srt m.li) (I:E=true↔(∀ f∈m.di,kd_ K f=true)∧Srt m.di)
    (G:C=true↔(∀ f∈m.ra,nV_ K f=true)∧Srt m.ra) (H:y=true↔(∀ f∈m.ro,jQ_ f=true)∧Srt m.ro):MdV m↔x=true∧A=true∧B=true∧E=true∧C=true∧y=true:=by
  rw[J,F,L,I,G,H];simp only[sK_ h,tc_ h,po_ h,sQ_ h];exact⟨fun q=>⟨q.no,q.ty,q.li,q.di,q.ra,q.ro⟩,fun⟨a,b,c,d,e,f⟩=>⟨a,b,c,d,e,f⟩⟩
theorem iN_ {l:List Str} {i:Nat} {s:Str} (h:la_ (l.take i)) (y:l[i]? = some s) (C:s≠[]) (B:∀ p,0<i→l[i - 1]? = some p→pl_ p s):la_ (l.take (i+1)):=by
 refine⟨fun z d=>?_,fun j p z x d=>?_⟩
 ·rw[tk1 y,List.mem_append,List.mem_singleton]at d
  exact d.elim (h.1 z) fun q=>by rw[q];exact C
 have A:=(List.getElem?_eq_some_iff.1 d).1;rw[List.length_take]at A;rw[List.getElem?_take]at x d
 split at d
 ·rename_i q
  rw[if_pos za_]at x
  by_cases e:j+1=i
  ·subst e
   rw[y]at d;obtain rfl:=Option.some.inj d;exact B p za_ (by simpa using x)
  exact h.2 j p z (by rw[List.getElem?_take,if_pos za_];exact x) (by rw[List.getElem?_take,if_pos za_];exact d)
 simp at d
theorem vO_ {l:List Str} (h:la_ l) {i:Nat} {s:Str} (d:l[i]? = some s):s≠[]:=h.1 s (List.mem_of_getElem? d)
theorem vN_ {l:List Str} (h:la_ l) {i:Nat} {p s:Str} (e:l[i]? = some s) (hi:0<i) (d:l[i - 1]? = some p):pl_ p s:=h.2 (i - 1) p s d (by rw[show i - 1+1=i by omega];exact e)
theorem nK_ {g:FuncId} {cv:List Value} {Gc:List Fct} (V:Fc→Bool) (l:List Fc) (ad:Option Addr) (cap:Nat) (hl:l.length≤9223372036854775807) (L:∀ x∈l,Tri Tryz.prog g (Fc.val x::cv).toArray [] Gc (fun _:Unit=>.bool (V x)) (fun _=>[]) (fun _=>[])):Tri Tryz.prog 41 #[.slice ad (List.length l) cap,.func (.func g) #[] cv.toArray] [] [ai_ ad (List.flatMap Fc.cells l),gamF Gc] (fun b:{b:Bool // b=true↔(∀ x∈l,V x=true)∧Srt l}=>.bool b.1) (fun _=>[]) (fun _=>[]):=by
 refine i_ Tryz.func41 rfl rfl Tryz.ntmps41 rfl fun N=>?_;refine Zz 14 ?_;refine K_ (ι:={y:Nat // y≤List.length l∧(∀ x∈List.take y l,V x=true)}) (fun y=>[(0,.slice ad (List.length l) cap),(1,.func (.func g) #[] cv.toArray),(4,.bool false),(7,.slice ad (List.length l) cap),(8,.int .i64 (List.length l:Int)),(9,.int .i64 (y.1:Int))]) (fun y=>([])) (fun y=>[ai_ ad (List.flatMap Fc.cells l),gamF Gc]) (fun y=>List.length l - y.1) ⟨(0:Nat),by simp,zj_⟩ zl f_ zh ?_;rintro ⟨i,C,I⟩;dsimp only at C I ⊢;refine Zi 2 (fun F=>?_) fun F=>?_
 ·refine Zz 9 ?_
  refine j_ (ya_ l ad cap hl) rfl f_ zf rfl fun⟨ib,H⟩=>?_;dsimp only;refine Zz 4 ?_;exact Y_ Tryz.results41 ⟨ib,H.trans ⟨fun q=>⟨fun x M=>I x (by rw[List.take_of_length_le za_];exact M),q⟩,fun q=>q.2⟩⟩ rfl f_ zt
 obtain⟨h,A,B,d⟩:=zge (show i<List.length l by omega);refine Zz 12 ?_;refine E_ Q_ rfl fun K=>z_ 0 s_ rfl rfl rfl rfl rfl rfl (Zz 6 ?_)
 refine bD_ (first:=[]) (cap:=cv) (L A d) rfl rfl f_ zf rfl fun G e=>e_ (as_ rfl) rfl (Zz 2 ?_)
 cases G
 ·refine Zz 7 ?_
  exact Y_ Tryz.results41 ⟨false,fun q=>zaH_,fun q=>by have E:=q.1 A d;rw[e]at E;cases E⟩ rfl f_ zt
 refine Zz 8 ?_;exact x_ ⟨i+1,h,(fun z J=>by rw[tk1 B,List.mem_append,List.mem_singleton]at J;exact J.elim (I z) fun q=>by rw[q];exact e)⟩ zb_ zl f_ zh
theorem hX_ {G:Prop} (h:G:=by
 exact Y_ Tryz.results35 ⟨false,fun q=>zaH_,fun q=>absurd (vN_ q d za_ e) (by unfold pl_;simp_all)⟩ rfl f_ zt):G:=h
theorem gl_ {G:Prop} (h:G:=by
 exact x_ ⟨i+1,h,(iN_ E d x fun p _ B=>by rw[e]at B;obtain rfl:=Option.some.inj B;unfold pl_;simp_all)⟩ zb_ zl f_ zh):G:=h
theorem xL_ (l:List Str) (ad:Option Addr) (cap:Nat) (hl:l.length≤9223372036854775807):Tri Tryz.prog 35 #[.slice ad (List.length l) cap] [] [ai_ ad (List.flatMap ak_ l)] (fun b:{b:Bool // b=true↔la_ l}=>.bool b.1) (fun _=>[]) (fun _=>[]):=by
 refine i_ Tryz.func35 rfl rfl Tryz.ntmps35 rfl fun Y=>?_;refine Zz 14 ?_;refine K_ (ι:={y:Nat // y≤List.length l∧la_ (List.take y l)}) (fun y=>[(0,.slice ad (List.length l) cap),(2,.bool false),(6,.slice ad (List.length l) cap),(7,.int .i64 (List.length l:Int)),(8,.int .i64 (y.1:Int))]) (fun y=>([])) (fun y=>[ai_ ad (List.flatMap ak_ l)]) (fun y=>List.length l - y.1) ⟨(0:Nat),by simp,⟨by simp,by simp⟩⟩ zl f_ zh ?_;rintro ⟨i,K,E⟩;dsimp only at K E ⊢;refine Zi 2 (fun M=>?_) fun M=>?_
 ·refine Zz 12 ?_
  exact Y_ Tryz.results35 ⟨true,fun _=>by rw[List.take_of_length_le za_]at E;exact E,fun _=>rfl⟩ rfl f_ zt
 obtain⟨h,F,d,R⟩:=zge (show i<List.length l by omega);refine Zi 21 (fun x=>?_) fun x=>?_
 ·refine Zi 9 (fun L=>?_) fun L=>?_
  ·obtain⟨P,C,I,O⟩:=zge (show (Int.toNat ((i:Int) - 1))<List.length l by omega)
   have e:l[i - 1]? = some C:=by rw[show i - 1=Int.toNat ((i:Int) - 1) by omega];exact I
   refine Zz 18 ?_;refine A_ (bE_ C) rfl f_ zt rfl fun X T=>Zz 1 ?_
   refine A_ (bE_ F) rfl f_ zt rfl fun W V=>G_ (fp_ dt_ rfl rfl) rfl fun Q U=>Zz 1 ?_
   cases Q
   ·refine Zz 8 ?_
    refine A_ (bE_ C) rfl f_ zt rfl fun H A=>Zz 2 ?_
    cases H
    ·refine Zz 16 ?_
     exact gl_
    refine Zz 3 ?_;refine A_ (bE_ F) rfl f_ zt rfl fun G J=>ap_ rfl rfl (e_ (as_ rfl) rfl (Zz 5 ?_))
    cases G
    ·refine Zz 7 ?_
     exact hX_
    refine Zz 8 ?_;exact gl_
   refine Zz 5 ?_;refine G_ (jI_ rfl rfl) rfl fun H A=>Zz 2 ?_
   cases H
   ·replace A:=zdf A
    refine Zz 3 ?_;refine A_ (bE_ C) rfl f_ zt rfl fun G J=>Zz 2 ?_
    cases G
    ·refine Zz 16 ?_
     exact gl_
    refine Zz 3 ?_;refine A_ (bE_ F) rfl f_ zt rfl fun N S=>ap_ rfl rfl (e_ (as_ rfl) rfl (Zz 5 ?_))
    cases N
    ·refine Zz 7 ?_
     exact hX_
    refine Zz 8 ?_;exact gl_
   replace A:=zdt A;refine Zz 17 ?_;exact hX_
  refine Zz 10 ?_;exact x_ ⟨i+1,h,(iN_ E d x fun p q=>by omega)⟩ zb_ zl f_ zh
 refine Zz 9 ?_;exact Y_ Tryz.results35 ⟨false,fun q=>zaH_,fun q=>absurd x (vO_ q d)⟩ rfl f_ zt
theorem wK_ (f:Fc):Tri Tryz.prog 36 #[Fc.val f] [] [] (fun _:Unit=>.bool (jQ_ f)) (fun _=>[]) (fun _=>[]):=by
 refine i_ Tryz.func36 rfl rfl Tryz.ntmps36 rfl fun F=>?_;refine Zz 2 ?_;refine V_ rfl rfl fun E=>Zz 10 ?_
 refine e_ (J_ eb_ rfl rfl) rfl (G_ (ca_ (p:=f) (q:=(Fc.mk 1 f.a f.b [] 0 0)) rfl rfl) rfl fun C e=>Zz 1 ?_);refine aj_ 4 ((decide (f=(Fc.mk 1 f.a f.b [] 0 0)))&&(f.a != [])) (fun r=>[(1,zp_ E 0),(2,.bool false),(14,.bool r)]) ?_ fun B x=>?_
 ·cases C
  ·have d:=e
   replace e:=zdf e;refine Zz 6 ?_;exact met ⟨rfl,rfl,(m_ rfl (jaf d)),trivial⟩
  have d:=e;replace e:=zdt e;refine Zz 5 ?_;refine G_ (cT_ rfl rfl) rfl fun A h=>Zz 3 ?_
  exact met ⟨rfl,rfl,(m_ rfl (jat d h)),trivial⟩
 refine Zz 1 ?_;refine aj_ 4 ((((decide (f=(Fc.mk 1 f.a f.b [] 0 0)))&&(f.a != [])))&&(f.b != [])) (fun r=>[(2,.bool false),(19,.bool r)]) ?_ fun A h=>?_
 ·cases B
  ·have d:=x
   refine Zz 6 ?_;exact met ⟨rfl,(m_ rfl (jaf d)),trivial⟩
  have d:=x;refine Zz 5 ?_;refine G_ (cT_ rfl rfl) rfl fun G y=>Zz 3 ?_
  exact met ⟨rfl,(m_ rfl (jat d y)),trivial⟩
 refine Zz 4 ?_;exact Y_ Tryz.results36 () (m_ rfl (by rw[← h];rfl)) f_ zt
theorem wJ_ (f:Fc) (G:Nat) (F:Nat) (es:Array MapEntry) (c:Nat) (K:List Str) (hE:SetE str es K):Tri Tryz.prog 37 #[Fc.val f,zp_ G 0] [] [bU_ G (.cells #[.map (some F)] 33 (0,0)),bU_ F (.map es c)] (fun _:Unit=>.bool (kd_ K f)) (fun _=>[]) (fun _=>[]):=by
 refine i_ Tryz.func37 rfl rfl Tryz.ntmps37 rfl fun L=>?_;refine Zz 2 ?_;refine V_ rfl rfl fun C=>Zz 12 ?_
 refine e_ (J_ eb_ rfl rfl) rfl (G_ (ca_ (p:=f) (q:=(Fc.mk 2 f.a f.b f.r 0 0)) rfl rfl) rfl fun I e=>Zz 1 ?_);refine aj_ 5 ((decide (f=(Fc.mk 2 f.a f.b f.r 0 0)))&&(decide (f.a∈K))) (fun r=>[(1,zp_ G 0),(2,zp_ C 0),(3,.bool false),(18,.bool r)]) ?_ fun H A=>?_
 ·cases I
  ·have d:=e
   replace e:=zdf e;refine Zz 7 ?_;exact met ⟨rfl,rfl,rfl,(m_ rfl (jaf d)),trivial⟩
  have d:=e;replace e:=zdt e;refine Zz 7 ?_;refine G_ (ar_ (bt_ (k:=f.a) (q:=K) bq_ P_ aA_ rfl rfl hE (fun v _ h=>(by exact h.2.1:(bU_ F (.map es c)).p v).2)) (show _=Value.bool (decide (f.a∈K)) from congrArg Value.bool (decide_eq_decide.2 Iff.rfl))) rfl fun B x=>Zz 3 ?_
  exact met ⟨rfl,rfl,rfl,(m_ rfl (jat d x)),trivial⟩
 refine Zz 1 ?_;refine aj_ 5 ((((decide (f=(Fc.mk 2 f.a f.b f.r 0 0)))&&(decide (f.a∈K))))&&(decide (f.b∈K))) (fun r=>[(2,zp_ C 0),(3,.bool false),(24,.bool r)]) ?_ fun B x=>?_
 ·cases H
  ·have d:=A
   refine Zz 7 ?_;exact met ⟨rfl,rfl,(m_ rfl (jaf d)),trivial⟩
  have d:=A;refine Zz 7 ?_;refine G_ (ar_ (bt_ (k:=f.b) (q:=K) bq_ P_ aA_ rfl rfl hE (fun v _ h=>(by exact h.2.1:(bU_ F (.map es c)).p v).2)) (show _=Value.bool (decide (f.b∈K)) from congrArg Value.bool (decide_eq_decide.2 Iff.rfl))) rfl fun J y=>Zz 3 ?_
  exact met ⟨rfl,rfl,(m_ rfl (jat d y)),trivial⟩
 refine Zz 1 ?_;refine aj_ 4 ((((((decide (f=(Fc.mk 2 f.a f.b f.r 0 0)))&&(decide (f.a∈K))))&&(decide (f.b∈K))))&&(f.r != [])) (fun r=>[(3,.bool false),(29,.bool r)]) ?_ fun J y=>?_
 ·cases B
  ·have d:=x
   refine Zz 6 ?_;exact met ⟨rfl,(m_ rfl (jaf d)),trivial⟩
  have d:=x;refine Zz 5 ?_;refine G_ (cT_ rfl rfl) rfl fun M E=>Zz 3 ?_
  exact met ⟨rfl,(m_ rfl (jat d E)),trivial⟩
 refine Zz 4 ?_;exact Y_ Tryz.results37 () (m_ rfl (by rw[← y];rfl)) f_ zt
theorem chk3_c (f:Fc) (fb C:Nat) (B:Nat) (es:Array MapEntry) (c:Nat) (K:List Str) (hE:SetE str es K):Tri Tryz.prog 38 #[Fc.val f,zp_ fb 0,zp_ C 0] [] [bU_ fb (.cells #[.func (.func 36) #[] #[]] 74 (0,0)),bU_ C (.cells #[.map (some B)] 33 (0,0)),bU_ B (.map es c)] (fun _:Unit=>.bool (mC_ K f)) (fun _=>[]) (fun _=>[]):=by
 refine i_ Tryz.func38 rfl rfl Tryz.ntmps38 rfl fun F=>?_;refine Zz 2 ?_;refine V_ rfl rfl fun G=>Zz 7 ?_
 refine bD_ (wK_ f) rfl rfl f_ zt rfl fun A e=>Zz 1 ?_
 refine aj_ 5 ((jQ_ f)&&(decide (f.a∈K))) (fun r=>[(4,.bool false),(13,.bool r)]) ?_ fun H x=>?_
 ·cases A
  ·have d:=e
   refine Zz 7 ?_;exact met ⟨rfl,(m_ rfl (jaf d)),trivial⟩
  have d:=e;refine Zz 7 ?_;refine G_ (ar_ (bt_ (k:=f.a) (q:=K) bq_ P_ aA_ rfl rfl hE (fun v _ h=>(by exact h.2.2.1:(bU_ B (.map es c)).p v).2)) (show _=Value.bool (decide (f.a∈K)) from congrArg Value.bool (decide_eq_decide.2 Iff.rfl))) rfl fun E y=>Zz 3 ?_
  exact met ⟨rfl,(m_ rfl (jat d y)),trivial⟩
 refine Zz 4 ?_;exact Y_ Tryz.results38 () (m_ rfl (by rw[← x];rfl)) f_ zt
theorem chk4_c (f:Fc) (G B:Nat) (F:Nat) (es:Array MapEntry) (c:Nat) (K:List Str) (hE:SetE str es K):Tri Tryz.prog 39 #[Fc.val f,zp_ G 0] [] [bU_ G (.cells #[.func (.func 37) #[] #[zp_ B 0]] 74 (0,0)),bU_ B (.cells #[.map (some F)] 33 (0,0)),bU_ F (.map es c)] (fun _:Unit=>.bool (nY_ K f)) (fun _=>[]) (fun _=>[]):=by
 refine i_ Tryz.func39 rfl rfl Tryz.ntmps39 rfl fun H=>?_;refine Zz 2 ?_;refine V_ rfl rfl fun A=>Zz 7 ?_
 refine bD_ (wJ_ f B F es c K hE) rfl rfl f_ zf rfl fun E q=>Zz 1 ?_
 refine aj_ 5 ((kd_ K f)&&(!(nls f.a))) (fun r=>[(2,zp_ A 0),(3,.bool false),(12,.bool r)]) ?_ fun C h=>?_
 ·cases E
  ·have d:=q
   refine Zz 7 ?_;exact met ⟨rfl,rfl,(m_ rfl (jaf d)),trivial⟩
  have d:=q;refine Zz 5 ?_;refine A_ (bE_ f.a) rfl f_ zt rfl fun y e=>ap_ rfl rfl (e_ (as_ rfl) rfl (Zz 3 ?_))
  exact met ⟨rfl,rfl,(m_ rfl (jat d (jn e))),trivial⟩
 refine Zz 1 ?_;refine aj_ 5 ((((kd_ K f)&&(!(nls f.a))))&&(!(nls f.b))) (fun r=>[(3,.bool false),(18,.bool r)]) ?_ fun y e=>?_
 ·cases C
  ·have d:=h
   refine Zz 7 ?_;exact met ⟨rfl,(m_ rfl (jaf d)),trivial⟩
  have d:=h;refine Zz 5 ?_;refine A_ (bE_ f.b) rfl f_ zt rfl fun I x=>ap_ rfl rfl (e_ (as_ rfl) rfl (Zz 3 ?_))
  exact met ⟨rfl,(m_ rfl (jat d (jn x))),trivial⟩
 refine Zz 4 ?_;exact Y_ Tryz.results39 () (m_ rfl zaj_) f_ zt
theorem gk_ {G:Prop} (h:G:=by
 exact met ⟨rfl,rfl,(m_ rfl (jaf d)),trivial⟩):G:=h
theorem chk5_c (f:Fc) (O:Nat) (N:Nat) (es:Array MapEntry) (c:Nat) (K:List Str) (hE:SetE str es K):Tri Tryz.prog 40 #[Fc.val f,zp_ O 0] [] [bU_ O (.cells #[.map (some N)] 33 (0,0)),bU_ N (.map es c)] (fun _:Unit=>.bool (nV_ K f)) (fun _=>[]) (fun _=>[]):=by
 refine i_ Tryz.func40 rfl rfl Tryz.ntmps40 rfl fun P=>?_;refine Zz 2 ?_;refine V_ rfl rfl fun C=>Zz 14 ?_
 refine e_ (J_ eb_ rfl rfl) rfl (G_ (ca_ (p:=f) (q:=(Fc.mk 3 f.a [] f.r f.lo f.hi)) rfl rfl) rfl fun M e=>Zz 1 ?_);refine aj_ 5 ((decide (f=(Fc.mk 3 f.a [] f.r f.lo f.hi)))&&(decide (f.a∈K))) (fun r=>[(2,zp_ C 0),(3,.bool false),(20,.bool r)]) ?_ fun L E=>?_
 ·cases M
  ·have d:=e
   replace e:=zdf e;refine Zz 7 ?_;exact gk_
  have d:=e;replace e:=zdt e;refine Zz 7 ?_;refine G_ (ar_ (bt_ (k:=f.a) (q:=K) bq_ P_ aA_ rfl rfl hE (fun v _ h=>(by exact h.2.1:(bU_ N (.map es c)).p v).2)) (show _=Value.bool (decide (f.a∈K)) from congrArg Value.bool (decide_eq_decide.2 Iff.rfl))) rfl fun F A=>Zz 3 ?_
  exact met ⟨rfl,rfl,(m_ rfl (jat d A)),trivial⟩
 refine Zz 1 ?_;refine aj_ 4 ((((decide (f=(Fc.mk 3 f.a [] f.r f.lo f.hi)))&&(decide (f.a∈K))))&&(f.r != [])) (fun r=>[(2,zp_ C 0),(3,.bool false),(25,.bool r)]) ?_ fun F A=>?_
 ·cases L
  ·have d:=E
   refine Zz 6 ?_;exact gk_
  have d:=E;refine Zz 5 ?_;refine G_ (cT_ rfl rfl) rfl fun I x=>Zz 3 ?_
  exact met ⟨rfl,rfl,(m_ rfl (jat d x)),trivial⟩
 refine Zz 1 ?_;refine aj_ 4 ((((((decide (f=(Fc.mk 3 f.a [] f.r f.lo f.hi)))&&(decide (f.a∈K))))&&(f.r != [])))&&(decide ((-1099511627776)≤f.lo))) (fun r=>[(2,zp_ C 0),(3,.bool false),(30,.bool r)]) ?_ fun I x=>?_
 ·cases F
  ·have d:=A
   refine Zz 6 ?_;exact gk_
  have d:=A;refine Zz 5 ?_;refine G_ (dK_ rfl rfl) rfl fun G y=>Zz 3 ?_
  exact met ⟨rfl,rfl,(m_ rfl (jat d y)),trivial⟩
 refine Zz 1 ?_;refine aj_ 6 ((((((((decide (f=(Fc.mk 3 f.a [] f.r f.lo f.hi)))&&(decide (f.a∈K))))&&(f.r != [])))&&(decide ((-1099511627776)≤f.lo))))&&(decide (f.lo≤f.hi))) (fun r=>[(2,zp_ C 0),(3,.bool false),(37,.bool r)]) ?_ fun G y=>?_
 ·cases I
  ·have d:=x
   refine Zz 8 ?_;exact gk_
  have d:=x;refine Zz 9 ?_;refine G_ (dK_ rfl rfl) rfl fun J B=>Zz 3 ?_
  exact met ⟨rfl,rfl,(m_ rfl (jat d B)),trivial⟩
 refine Zz 1 ?_;refine aj_ 4 ((((((((((decide (f=(Fc.mk 3 f.a [] f.r f.lo f.hi)))&&(decide (f.a∈K))))&&(f.r != [])))&&(decide ((-1099511627776)≤f.lo))))&&(decide (f.lo≤f.hi))))&&(decide (f.hi≤1099511627776))) (fun r=>[(3,.bool false),(42,.bool r)]) ?_ fun J B=>?_
 ·cases G
  ·have d:=y
   refine Zz 6 ?_;exact met ⟨rfl,(m_ rfl (jaf d)),trivial⟩
  have d:=y;refine Zz 5 ?_;refine G_ (dK_ rfl rfl) rfl fun Q H=>Zz 3 ?_
  exact met ⟨rfl,(m_ rfl (jat d H)),trivial⟩
 refine Zz 4 ?_;exact Y_ Tryz.results40 () (m_ rfl (by rw[← B];rfl)) f_ zt
theorem rp_ (m:Mdl) (C:m.ok):Tri Tryz.prog 10 #[Mdl.val m] [] [ek_ m] (fun e:{e:Int // (e=0∨e=1)∧(e=0↔MdV m)}=>.int .i64 e.1) (fun _=>[]) (fun _=>[]):=by
 refine i_ Tryz.func10 rfl rfl Tryz.ntmps10 rfl fun v_1=>?_;have a1:=C.no;refine Zz 2 ?_;refine V_ rfl rfl fun R=>Zz 8 ?_
 refine j_ (xL_ (Mdl.no m) (Mdl.noa m) (Mdl.noc m) C.no) rfl f_ (fun v _ h=>by exact⟨h.1.1,trivial⟩) rfl fun⟨bn,P⟩=>?_;dsimp only;refine e_ (as_ rfl) rfl (Zz 2 ?_);cases bn
 ·refine Zz 7 ?_
  exact Y_ in_ ⟨1,.inr rfl,fun q=>absurd q ze_,fun q=>absurd q (fun q=>by have:=P.2 q.no;cases this)⟩ rfl f_ zt
 refine Zz 5 ?_;refine ba_ rfl fun A=>E_ dX_ rfl fun d=>z_ 0 Tryz.sizeOf33 rfl rfl rfl rfl rfl rfl (Zz 12 ?_)
 refine K_ (ι:={y:Nat×StM // y.1≤List.length (Mdl.no m)∧(∀ n,n∈y.2.ks↔n∈List.take y.1 (Mdl.no m))}) (fun y=>[(1,zp_ R 0),(2,.int .i64 0),(3,zp_ d 0),(18,.slice (Mdl.noa m) (List.length (Mdl.no m)) (Mdl.noc m)),(19,.int .i64 (List.length (Mdl.no m):Int)),(20,.int .i64 (y.1.1:Int))]) (fun y=>((d,.cells #[.map (some A)] 33 (0,0))::((A,.map y.1.2.es y.1.2.c)::((R,.cells #[.slice (Mdl.noa m) (List.length (Mdl.no m)) (Mdl.noc m),.slice (Mdl.tya m) (List.length (Mdl.ty m)) (Mdl.tyc m),.slice (Mdl.lia m) (List.length (Mdl.li m)) (Mdl.lic m),.slice (Mdl.dia m) (List.length (Mdl.di m)) (Mdl.dic m),.slice (Mdl.raa m) (List.length (Mdl.ra m)) (Mdl.rac m),.slice (Mdl.roa m) (List.length (Mdl.ro m)) (Mdl.roc m)] 28 (0,0))::[])))) (fun y=>[ek_ m]) (fun y=>List.length (Mdl.no m) - y.1.1) ⟨((0:Nat),StM.nil),by simp,(by intro n;simp[StM.nil])⟩ zl zp zh ?_;rintro ⟨⟨i,s⟩,V,N⟩;dsimp only at V N ⊢;refine Zi 2 (fun Y=>?_) fun Y=>?_
 ·refine Zz 7 ?_
  rw[List.take_of_length_le za_]at N;refine eJ_ (bU_ A (.map s.es s.c)) (bj_ (c_ d_)) (fun _ B E _=>⟨B,E⟩) ?_;refine eJ_ (bU_ d (.cells #[.map (some A)] 33 (0,0))) (bj_ d_) (fun _ B E _=>⟨B,E⟩) ?_;refine aI_ (E_ Tryz.zeroValue74 rfl fun K=>z_ 0 Tryz.sizeOf74 rfl rfl rfl rfl rfl rfl (Zz 4 ?_));refine e_ (bF_ rfl rfl) rfl (E_ Tryz.zeroValue74 rfl fun L=>z_ 0 Tryz.sizeOf74 rfl rfl rfl rfl rfl rfl (Zz 3 ?_));refine eJ_ (bU_ K (.cells #[.func (.func 36) #[] #[]] 74 (0,0))) (bj_ (c_ d_)) (fun _ B E _=>⟨B,E⟩) ?_;refine eJ_ (bU_ L (.cells #[.func (.func 37) #[] #[zp_ d 0]] 74 (0,0))) (bj_ d_) (fun _ B E _=>⟨B,E⟩) ?_;refine aI_ (e_ (bF_ rfl rfl) rfl (Zz 5 ?_));refine e_ (bF_ rfl rfl) rfl (Zz 5 ?_);refine e_ (bF_ rfl rfl) rfl (Zz 8 ?_);refine j_ (nK_ (cv:=[zp_ K 0,zp_ d 0]) (Gc:=[bU_ K (.cells #[.func (.func 36) #[] #[]] 74 (0,0)),bU_ d (.cells #[.map (some A)] 33 (0,0)),bU_ A (.map s.es s.c)]) (mC_ s.ks) (Mdl.ty m) (Mdl.tya m) (Mdl.tyc m) C.ty fun x _=>by exact chk3_c x K d A s.es s.c s.ks s.hE) rfl f_ (fun v _ h=>by exact⟨h.2.2.2.2.1.2.1,⟨h.2.1,h.2.2.1,h.2.2.2.1,trivial⟩,trivial⟩) rfl fun⟨W,H⟩=>?_;dsimp only;refine Zz 1 ?_;cases W
  ·refine Zz 30 ?_
   refine e_ (as_ rfl) rfl (Zz 9 ?_);exact Y_ in_ ⟨1,.inr rfl,fun q=>absurd q ze_,fun q=>absurd q (fun q=>by have:=H.2 ⟨fun f M=>(sK_ N f).trans (q.ty.1 f M),q.ty.2⟩;cases this)⟩ rfl f_ zt
  refine Zz 7 ?_;refine j_ (nK_ (cv:=[zp_ L 0]) (Gc:=[bU_ L (.cells #[.func (.func 37) #[] #[zp_ d 0]] 74 (0,0)),bU_ d (.cells #[.map (some A)] 33 (0,0)),bU_ A (.map s.es s.c)]) (nY_ s.ks) (Mdl.li m) (Mdl.lia m) (Mdl.lic m) C.li fun x _=>by exact chk4_c x L d A s.es s.c s.ks s.hE) rfl f_ (fun v _ h=>by exact⟨h.2.2.2.2.1.2.2.1,⟨h.1,h.2.2.1,h.2.2.2.1,trivial⟩,trivial⟩) rfl fun⟨Q,F⟩=>?_;dsimp only;refine Zz 2 ?_;cases Q
  ·refine Zz 24 ?_
   refine e_ (as_ rfl) rfl (Zz 9 ?_);exact Y_ in_ ⟨1,.inr rfl,fun q=>absurd q ze_,fun q=>absurd q (fun q=>by have:=F.2 ⟨fun f M=>(tc_ N f).trans (q.li.1 f M),q.li.2⟩;cases this)⟩ rfl f_ zt
  refine Zz 7 ?_;refine j_ (nK_ (cv:=[zp_ d 0]) (Gc:=[bU_ d (.cells #[.map (some A)] 33 (0,0)),bU_ A (.map s.es s.c)]) (kd_ s.ks) (Mdl.di m) (Mdl.dia m) (Mdl.dic m) C.di fun x _=>by exact wJ_ x d A s.es s.c s.ks s.hE) rfl f_ (fun v _ h=>by exact⟨h.2.2.2.2.1.2.2.2.1,⟨h.2.2.1,h.2.2.2.1,trivial⟩,trivial⟩) rfl fun⟨T,G⟩=>?_;dsimp only;refine Zz 2 ?_;cases T
  ·refine Zz 18 ?_
   refine e_ (as_ rfl) rfl (Zz 9 ?_);exact Y_ in_ ⟨1,.inr rfl,fun q=>absurd q ze_,fun q=>absurd q (fun q=>by have:=G.2 ⟨fun f M=>(po_ N f).trans (q.di.1 f M),q.di.2⟩;cases this)⟩ rfl f_ zt
  refine Zz 7 ?_;refine j_ (nK_ (cv:=[zp_ d 0]) (Gc:=[bU_ d (.cells #[.map (some A)] 33 (0,0)),bU_ A (.map s.es s.c)]) (nV_ s.ks) (Mdl.ra m) (Mdl.raa m) (Mdl.rac m) C.ra fun x _=>by exact chk5_c x d A s.es s.c s.ks s.hE) rfl f_ (fun v _ h=>by exact⟨h.2.2.2.2.1.2.2.2.2.1,⟨h.2.2.1,h.2.2.2.1,trivial⟩,trivial⟩) rfl fun⟨X,J⟩=>?_;dsimp only;refine Zz 2 ?_;cases X
  ·refine Zz 12 ?_
   refine e_ (as_ rfl) rfl (Zz 9 ?_);exact Y_ in_ ⟨1,.inr rfl,fun q=>absurd q ze_,fun q=>absurd q (fun q=>by have:=J.2 ⟨fun f M=>(sQ_ N f).trans (q.ra.1 f M),q.ra.2⟩;cases this)⟩ rfl f_ zt
  refine Zz 7 ?_;refine j_ (nK_ (cv:=[]) (Gc:=[]) (jQ_) (Mdl.ro m) (Mdl.roa m) (Mdl.roc m) C.ro fun x _=>by exact wK_ x) rfl f_ (fun v _ h=>by exact⟨h.2.2.2.2.1.2.2.2.2.2,trivial,trivial⟩) rfl fun⟨U,I⟩=>?_;dsimp only;refine Zz 8 ?_;refine e_ (as_ rfl) rfl (Zz 2 ?_);cases U
  ·refine Zz 7 ?_
   exact Y_ in_ ⟨1,.inr rfl,fun q=>absurd q ze_,fun q=>absurd q (fun q=>by have:=I.2 ⟨fun f M=>q.ro.1 f M,q.ro.2⟩;cases this)⟩ rfl f_ zt
  refine Zz 9 ?_;exact Y_ in_ ⟨0,.inl rfl,fun _=>(xP_ N P H F G J I).2 ⟨rfl,rfl,rfl,rfl,rfl,rfl⟩,fun _=>rfl⟩ rfl f_ zt
 obtain⟨O,Z,S,a0⟩:=zge (show i<List.length (Mdl.no m) by omega);refine Zz 18 ?_;refine dT_ 1 s bq_ (.inr rfl) P_ rfl rfl rfl rfl (Zz 7 ?_);exact x_ ⟨(i+1,(StM.add s Z)),O,(by intro n;rw[StM.mem,N n,tk1 S];simp)⟩ zb_ zl zp zh
end Go.Proofs.YtpbnmnfdgckaiaaGreatDoor
namespace Go.Proofs.YtpbnmnfdgckaiaaGreatDoor
open Go Go.Sx Go.Proofs
attribute [local irreducible] Code.wp wpList wpAnyH
open Go.Vs Go.Shelf Go.RowKit
structure Bok (ls:List Ax) (m:Mdl) (c:Cl):Prop where
  chk:∀ x∈ls,x.check=0
  nc:¬ pQ_ (cV_ ls)
  pc:db_ (cF_ 0 ls)=0
  at':c.atoms=atS (cF_ 0 ls)
  fs:gD_ (cF_ 0 ls) (atS (cF_ 0 ls)) 65536 (some c.facts)
  asm:AsmR (cF_ 0 ls) c m.no m.ty m.li m.di m.ra
  inc:yH_ ls m.ro
theorem wW_.bok {ls:List Ax} {m:Mdl} {e:Int} (h:wW_ ls m e) (x:e=0):∃ c,Bok ls m c:=by
 rcases h with⟨_,d,F,c,C,q,A⟩|⟨h,_⟩
 ·obtain⟨E,_,_,_,y,B⟩:=C.good
  exact⟨c,d,F,E,y,B,q,A⟩
 exact absurd x h
theorem iY_ {p:List Pc} (A:db_ p=0) {y:Fc} (h:Der p (atS p) y):(y.kind=1→y=Z_ y.a y.b∧y.a∈atS p∧y.b∈atS p)∧(y.kind=2→y=aa_ y.a y.r y.b∧y.a∈atS p∧y.b∈atS p∧y.r≠[])∧(y.kind=3→y=af_ y.a y.r y.lo y.hi∧y.a∈atS p∧y.r≠[]∧-1099511627776≤y.lo∧y.lo≤y.hi∧y.hi≤1099511627776):=by
 have d:=der_ok (gA_ A) h;have e:=h.form fun x B=>iG_ (gA_ A x B)
 rcases e with⟨a,b,rfl⟩|⟨a,r,b,rfl,_⟩|⟨a,r,lo,hi,rfl,_⟩
 ·have:=fo1.1 d
  exact⟨fun _=>⟨rfl,this.1,this.2⟩,fun q=>absurd q (by simp[Z_]),fun q=>absurd q (by simp[Z_])⟩
 ·have:=fo2.1 d
  exact⟨fun q=>absurd q (by simp[aa_]),fun _=>⟨rfl,this.1,this.2.1,this.2.2⟩,fun q=>absurd q (by simp[aa_])⟩
 have:=fo3.1 d;exact⟨fun q=>absurd q (by simp[af_]),fun q=>absurd q (by simp[af_]),fun _=>⟨rfl,this.1,this.2.1,this.2.2.1,this.2.2.2.1,this.2.2.2.2⟩⟩
theorem kq_ {p:List Pc} {F:List Fc} (C:∀ y,y∈F↔Der p (atS p) y) (E:db_ p=0) {s:Str} {z:Fc}:(s,z)∈dz_ p F↔∃ y∈p,y.kind=3∧Der p (atS p) (Z_ s y.a)∧z=aa_ s y.r y.c:=by
 rw[rh_];constructor
 ·rintro ⟨f,G,y,B,e,q,x,rfl,rfl⟩
  have d:=(C f).1 G;have A:=((iY_ E d).1 e).1;refine⟨y,B,q,?_,rfl⟩;rw[x,← A];exact d
 rintro ⟨y,B,e,d,rfl⟩;exact⟨Z_ s y.a,(C _).2 d,y,B,rfl,e,rfl,rfl,rfl⟩
theorem kb_ {D:List (Str×Fc)} {s t:Str}:t∈nxD D s↔∃ z,(s,z)∈D∧z.b=t:=by
  unfold nxD;rw[List.mem_map];exact⟨fun⟨z,h,e⟩=>⟨z,bN_.1 h,e⟩,fun⟨z,h,e⟩=>⟨z,bN_.2 h,e⟩⟩
theorem RchS.mono {nx d:Str→List Str} {I e:List Str} (x:∀ s t,t∈nx s→t∈d s) (q:∀ s∈I,s∈e) {t:Str} (h:RchS nx I t):RchS d e t:=by
  induction h with
  | zero h=>exact .zero (q _ h)
  | step _ ht ih=>exact .step ih (x _ _ ht)
theorem hv_ {l:List Str} {s:Str}:s∈el_ l↔s∈l∧nls s=false:=by unfold el_;rw[List.mem_filter,Bool.not_eq_true']
section
variable {ls:List Ax} {m:Mdl} {c:Cl} (h:Bok ls m c)
include h
theorem Bok.der (y:Fc):y∈c.facts↔Der (cF_ 0 ls) (atS (cF_ 0 ls)) y:=h.fs.2.1 y
theorem Bok.rch (s:Str):s∈m.no↔RchS (nxD (dz_ (cF_ 0 ls) c.facts)) (el_ (atS (cF_ 0 ls))) s:=by rw[← h.at'];exact h.asm.nd.mem s
theorem Bok.next {s:Str} {z:Fc} (e:s∈m.no) (d:(s,z)∈dz_ (cF_ 0 ls) c.facts):z.b∈m.no:=(h.rch _).2 (.step ((h.rch _).1 e) (kb_.2 ⟨z,d,rfl⟩))
theorem Bok.no_at {s:Str} (B:s∈m.no):s∈atS (cF_ 0 ls):=by
  have d:=(h.rch s).1 B;cases d with
  | zero q=>exact (hv_.1 q).1
  | step _ q =>
    obtain⟨z,A,rfl⟩:=kb_.1 q;obtain⟨y,x,e,_,rfl⟩:=(kq_ h.der h.pc).1 A;exact yW_ x (.inr (.inr rfl)) (sJ_ (gA_ h.pc y x) zaM_)
theorem Bok.ind {s:Str} (d:s∈atS (cF_ 0 ls)) (e:nls s=false):s∈m.no:=(h.rch s).2 (.zero (hv_.2 ⟨d,e⟩))
theorem Bok.ty (z:Fc):z∈m.ty↔Der (cF_ 0 ls) (atS (cF_ 0 ls)) z∧z.kind=1∧z.a∈m.no:=by rw[h.asm.ty.2,h.der]
theorem Bok.li (z:Fc):z∈m.li↔Der (cF_ 0 ls) (atS (cF_ 0 ls)) z∧z.kind=2∧nls z.a=false∧nls z.b=false:=by rw[h.asm.li.2,h.der]
theorem Bok.ra (z:Fc):z∈m.ra↔Der (cF_ 0 ls) (atS (cF_ 0 ls)) z∧z.kind=3∧z.a∈m.no:=by rw[h.asm.ra.2,h.der]
theorem Bok.di (z:Fc):z∈m.di↔∃ s∈m.no,∃ y∈cF_ 0 ls,y.kind=3∧Der (cF_ 0 ls) (atS (cF_ 0 ls)) (Z_ s y.a)∧z=aa_ s y.r y.c:=by
  rw[h.asm.di.2];exact⟨fun⟨s,d,q⟩=>⟨s,d,(kq_ h.der h.pc).1 q⟩,fun⟨s,d,q⟩=>⟨s,d,(kq_ h.der h.pc).2 q⟩⟩
theorem Bok.nls_N {N:List Str} (e:∀ s,(s∈el_ (atS (cF_ 0 ls))∨s∈N)↔RchS (nxD (dz_ (cF_ 0 ls) c.facts)) (el_ (atS (cF_ 0 ls))) s) (x:∀ s∈N,s ∉ el_ (atS (cF_ 0 ls))):∀ s∈N,nls s=true:=fun s d=>by
 have y:=h.no_at ((h.rch s).2 ((e s).1 (.inr d)))
 by_cases q:nls s=true
 ·exact q
 exact absurd (hv_.2 ⟨y,by simpa using q⟩) (x s d)
theorem Bok.nodup:m.no.Nodup:=sW_ h.asm.nd (by rw[h.at'];exact ((nR_ _).sublist List.filter_sublist).imp fun {a b} q e=>by subst e;exact List.lt_irrefl _ q)
end
theorem xN_ {l:List Str} (A:∀ s∈l,s≠[]) (h:l.Pairwise pl_):la_ l:=⟨A,fun i p s q B=>by
  obtain⟨x,y⟩:=List.getElem?_eq_some_iff.1 q;obtain⟨d,e⟩:=List.getElem?_eq_some_iff.1 B;have:=List.pairwise_iff_getElem.1 h i (i+1) x d za_;rwa [y,e]at this⟩
theorem sX_ {p s:Str} (h:nls p=nls s) (hl:p<s):pl_ p s:=fun q=>by
 rcases q with⟨_,q⟩|⟨d,e⟩
 ·exact absurd hl (List.not_lt.2 q)
 rw[h,e]at d;cases d
theorem Bok.nodV {ls:List Ax} {m:Mdl} {c:Cl} (h:Bok ls m c):la_ m.no:=by
 refine xN_ (fun s G=>sy_ (h.no_at G)) ?_;obtain⟨N,C,e,A,B⟩:=h.asm.nd;rw[h.at']at e A B;have F:=h.nls_N B A;rw[e,List.pairwise_append];refine⟨?_,?_,fun a x b d=>?_⟩
 ·refine List.Pairwise.imp_of_mem (fun {a b} x d q=>sX_ ?_ q) ((nR_ _).sublist List.filter_sublist)
  rw[(hv_.1 x).2,(hv_.1 d).2]
 ·refine List.Pairwise.imp_of_mem (fun {a b} x d q=>sX_ ?_ q) (gN_ C)
  rw[List.mem_mergeSort]at x d;rw[F a x,F b d]
 rw[List.mem_mergeSort]at d;have y:=(hv_.1 x).2;have E:=F b d;rintro (⟨q,_⟩|⟨q,_⟩)
 ·rw[y,E]at q;cases q
 rw[y]at q;cases q
theorem abv_ne {l:List Ax} (A:∀ x∈l,x.check=0) {r t:Str} (C:r≠[]) (h:RchS (lat (hH_ l)) [r] t):t≠[]:=by
 cases h with
 | zero h=>rw[List.mem_singleton.1 h];exact C
 | step _ ht =>
   have q:=bN_.1 ht;unfold hH_ at q;obtain⟨x,B,d⟩:=List.mem_flatMap.1 q
   split at d
   · rename_i y
     simp only[List.mem_singleton,Prod.mk.injEq]at d;rw[d.2];have:=(Ax.good_of (A x B)).role (.inr (.inl y));intro e;rw[e]at this;revert this;decide
   · simp at d
theorem Bok.mdV {ls:List Ax} {m:Mdl} {c:Cl} (h:Bok ls m c):MdV m where
  no:=h.nodV
  ty:=⟨fun f d=>by
    obtain⟨x,q,e⟩:=(h.ty f).1 d;obtain⟨B,C,A⟩:=(iY_ h.pc x).1 q;have F:=sy_ C;have G:=sy_ A;unfold mC_ jQ_;rw[decide_eq_true B,decide_eq_true e,bne_iff_ne.2 F,bne_iff_ne.2 G];rfl,h.asm.ty.1⟩
  li:=⟨fun f d=>by
    obtain⟨x,q,e,I⟩:=(h.li f).1 d;obtain⟨B,C,A,E⟩:=(iY_ h.pc x).2.1 q;unfold nY_ kd_;rw[decide_eq_true B,decide_eq_true (h.ind C e),decide_eq_true (h.ind A I),bne_iff_ne.2 E,e,I];rfl,h.asm.li.1⟩
  di:=⟨fun f d=>by
    obtain⟨s,K,y,J,H,M,rfl⟩:=(h.di f).1 d;have N:=h.next K ((kq_ h.der h.pc).2 ⟨y,J,H,M,rfl⟩);have L:(aa_ s y.r y.c).r≠[]:=(iG_ (gA_ h.pc y J)).rok.1 (by simp[H]);unfold kd_;rw[decide_eq_true (p:=aa_ s y.r y.c=aa_ (aa_ s y.r y.c).a (aa_ s y.r y.c).r (aa_ s y.r y.c).b) rfl,decide_eq_true (p:=(aa_ s y.r y.c).a∈m.no) K,decide_eq_true (p:=(aa_ s y.r y.c).b∈m.no) N,bne_iff_ne.2 L];rfl,h.asm.di.1⟩
  ra:=⟨fun f d=>by
    obtain⟨x,q,e⟩:=(h.ra f).1 d;obtain⟨B,C,A,E,O,P⟩:=(iY_ h.pc x).2.2 q;unfold nV_;rw[decide_eq_true B,decide_eq_true e,bne_iff_ne.2 A,decide_eq_true E,decide_eq_true O,decide_eq_true P];rfl,h.asm.ra.1⟩
  ro:=⟨fun f d=>by
    obtain⟨r,t,⟨x,q⟩,e,rfl⟩:=(h.inc.2 f).1 d;have G:(Z_ r t).b≠[]:=abv_ne h.chk q e;have F:(Z_ r t).a≠[]:=q;unfold jQ_;rw[decide_eq_true (p:=Z_ r t=Z_ (Z_ r t).a (Z_ r t).b) rfl,bne_iff_ne.2 F,bne_iff_ne.2 G];rfl,h.inc.1⟩
def Clsd (di:List Fc) (K:List Str):Prop:=∀ f∈di,f.a∈K→f.b∈K
theorem Bok.all {ls:List Ax} {m:Mdl} {c:Cl} (h:Bok ls m c) {K:List Str} (F:K.Nodup) (G:∀ x∈K,x∈m.no) (hi:∀ x∈m.no,nls x=false→x∈K) (E:Clsd m.di K∨m.no.length≤K.length):(∀ x∈m.no,x∈K)∧K.length=m.no.length:=by
 have B:∀ x∈m.no,x∈K:=by
   rcases E with E|E
   · intro x C
     have C:=(h.rch x).1 C
     induction C with
     | zero q=>exact hi _ ((h.rch _).2 (.zero q)) (hv_.1 q).2
     | @step s t hs' ht ih =>
       obtain⟨z,A,rfl⟩:=kb_.1 ht;have d:=(h.rch s).2 hs';have I:z∈m.di:=(h.asm.di.2 z).2 ⟨s,d,A⟩;have H:z.a=s:=by obtain⟨y,_,_,_,e⟩:=(kq_ h.der h.pc).1 A;rw[e];rfl
       exact E z I (by rw[H];exact ih d)
   · intro x C
     apply Classical.byContradiction
     intro q
     have:=cN_ (l:=x::K) (m:=m.no) (List.nodup_cons.2 ⟨q,F⟩) fun z A=>by
       rcases List.mem_cons.1 A with rfl|A
       · exact C
       · exact G z A
     simp only[List.length_cons]at this;omega
 exact⟨B,Nat.le_antisymm (cN_ F G) (cN_ h.nodup B)⟩
section
variable {R:List Str} {f:Int}
end
section
variable {ls:List Ax} {m:Mdl} {c:Cl} (h:Bok ls m c)
include h
theorem Bok.plain {r:Str} (e:r∈vcL 6 ls) (d:r≠[]):aO_ r=true:=jY_ (qa_ h.chk e d)
end
end Go.Proofs.YtpbnmnfdgckaiaaGreatDoor
