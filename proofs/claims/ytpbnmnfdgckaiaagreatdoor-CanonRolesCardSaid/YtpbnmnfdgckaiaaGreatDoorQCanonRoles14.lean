/-
  Part of the proof of the law CanonRoles over this seat: the small logic, the data, the contracts of functions (no condition).
-/
import Derived.Test.YtpbnmnfdgckaiaaGreatDoorQCanonRoles13
import Derived.Test.YtpbnmnfdgckaiaaGreatDoorQCanonRoles8
import Derived.Test.YtpbnmnfdgckaiaaGreatDoorQCanonRoles10
import Derived.Test.YtpbnmnfdgckaiaaGreatDoorQCanonRoles6
import Derived.Test.YtpbnmnfdgckaiaaGreatDoorQCanonRoles12
import Derived.Test.YtpbnmnfdgckaiaaGreatDoorQCanonRoles11
set_option linter.unusedVariables false
set_option linter.unusedSimpArgs false
set_option linter.unusedSectionVars false
set_option maxHeartbeats 1000000
namespace Go.Proofs.YtpbnmnfdgckaiaaGreatDoor
open Go Go.Sx Go.Proofs
attribute [local irreducible] Code.wp wpList wpAnyH
open Go.Vs
structure SL where
  l:List Str
  ad:Option Addr
  cap:Nat
def SL.cells (x:SL):List Value:=[.slice x.ad x.l.length x.cap]
theorem SL.cells_len (x:SL):x.cells.length=1:=rfl
structure SL.ok (x:SL):Prop where
  le:x.l.length≤x.cap
  nz:x.ad=none→x.cap=0
  sh:x.l.length≤100000
def slF (xs:List SL):Fct where
  p v:=∀ x∈xs,bA_ v x.ad (List.flatMap af_ x.l)
  mono:=fun v v' h hp x hx=>(ah_ x.ad (List.flatMap af_ x.l)).mono v v' h (hp x hx)
def hH_ (xs:List SL):List Str:=List.flatMap SL.l xs
theorem ro_ {d:List SL} {i:Nat} {x:SL} (h:d[i]? = some x):hH_ (d.take (i+1))=hH_ (d.take i)++x.l:=by unfold hH_;rw[List.take_add_one,h];simp
theorem tk_ {d:List SL} (h:∀ x∈d,x.ok) (i:Nat):(hH_ (d.take i)).length≤min i d.length*100000:=by
  have:=yq_ (g:=SL.l) (n:=100000) (d.take i) fun x e=>(h x (List.mem_of_mem_take e)).sh
  rwa [List.length_take]at this
theorem xC_ (n:Nat) (v:n≤1000000000):Tri Tryz.prog 176 #[.slice none 0 0,.int .i64 (n:Int)] [] [] (fun y:{y:Value×Hp // aw_ 9 1 y.1 0 [] y.2}=>y.1.1) (fun y=>y.1.2) (fun _=>[]):=by
 refine i_ Tryz.func176 rfl rfl Tryz.ntmps176 rfl fun q=>?_;refine Zi 9 (fun e=>?_) fun e=>?_
 ·refine Zz 10 ?_
  refine e_ (pB_ l_ rfl) rfl (Zz 3 ?_);refine e_ (ar_ (bc_ rfl rfl rfl (ck_ za_ za_)) (show Value.int .i64 ((n:Int) - (0 - 0))=Value.int .i64 (n:Int) from congrArg _ za_)) rfl (Zi 6 (fun d=>?_) fun d=>?_)
  ·refine Zz 12 ?_
   exact ae_ Tryz.results176 ⟨(.slice none 0 0,[]),aw_.nil _ _⟩ rfl m_ zt
  refine Zz 6 ?_;refine e_ (pB_ l_ rfl) rfl (e_ (ar_ (dE_ (i:=0) (j:=0) (kl:=.i64) (kh:=.i64) l_ E_ rfl rfl rfl za_ za_) (show _=Value.slice none 0 0 from rfl)) rfl (Zz 1 ?_));refine qj_ (n:=n) cB_ p_ rfl rfl za_ za_ zm_ rfl fun k h m=>?_;refine Zz 2 ?_;refine e_ (ar_ (dE_ (i:=0) (j:=0) (kl:=.i64) (kh:=.i64) l_ E_ rfl rfl rfl za_ za_) (show _=Value.slice (some ⟨h,0,none⟩) 0 k.1 by simp[pO_])) rfl (Zz 10 ?_);exact ae_ Tryz.results176 ⟨(.slice (some ⟨h,0,none⟩) 0 k.1,[(h,.cells k.2 9 (0,0))]),ti_ m.2.1 m.2.2⟩ rfl d_ zt
 exfalso;omega
theorem tV_ (e:List SL) (A:Option Addr) (q:Nat) (B:∀ x∈e,x.ok) (hl:e.length≤100):Tri Tryz.prog 139 #[.slice A (List.length e) q] [] [ah_ A (List.flatMap SL.cells e),slF e] (fun y:{y:Option Addr×Nat // ((hH_ e)).length≤y.2∧y.2≤maxLen∧(y.1=none→y.2=0)}=>.slice y.1.1 ((hH_ e)).length y.1.2) (fun _=>[]) (fun y=>[ah_ y.1.1 (((hH_ e)).flatMap af_)]):=by
 refine i_ Tryz.func139 rfl rfl Tryz.ntmps139 rfl fun X=>?_;refine Zz 19 ?_;refine L_ (ι:={y:Nat×Nat // y.1≤List.length e∧y.2≤y.1*100000}) (fun y=>[(0,.slice A (List.length e) q),(3,.int .i64 (y.1.2:Int)),(9,.slice A (List.length e) q),(10,.int .i64 (List.length e:Int)),(11,.int .i64 (y.1.1:Int))]) (fun y=>([])) (fun y=>[ah_ A (List.flatMap SL.cells e),slF e]) (fun y=>List.length e - y.1.1) ⟨((0:Nat),(0:Nat)),by simp,by simp⟩ zl m_ zh ?_;rintro ⟨⟨i,w⟩,hi,Y⟩;dsimp only at hi Y ⊢;refine Zi 2 (fun G=>?_) fun G=>?_
 ·refine Zz 9 ?_
  refine g_ (xC_ w za_) rfl m_ zt rfl fun⟨⟨E,M⟩,K⟩=>?_;dsimp only;dsimp only at K;refine z_ dO_ ?_;have U:aw_ 9 1 E (List.length (hH_ (List.take 0 e))) (List.flatMap af_ (hH_ (List.take 0 e))) M:=by exact K
  refine Zz 12 ?_;refine L_ (ι:={y:Nat×Value×Hp // y.1≤List.length e∧zR 9 1 af_ y.2.1 (hH_ (List.take y.1 e)) y.2.2}) (fun y=>[(0,.slice A (List.length e) q),(6,y.1.2.1),(25,.slice A (List.length e) q),(26,.int .i64 (List.length e:Int)),(27,.int .i64 (y.1.1:Int))]) (fun y=>(y.1.2.2)) (fun y=>[ah_ A (List.flatMap SL.cells e),slF e]) (fun y=>List.length e - y.1.1) ⟨((0:Nat),E,M),by simp,U⟩ zl ac_ zh ?_;rintro ⟨⟨j,V,W⟩,hj,m⟩;dsimp only at hj m ⊢;have Z:=tk_ B j;refine Zi 2 (fun F=>?_) fun F=>?_
  ·rw[List.take_of_length_le za_]at m
   refine Zz 13 ?_;refine bj_ m ac_ fun T S O I H J=>?_;exact ae_ Tryz.results139 ⟨(T,S),I,H,J⟩ (fG_ rfl O) m_ zf
  obtain⟨C,k,L,d⟩:=zge (show j<List.length e by omega);have N:=(B k d).sh;refine Zz 18 ?_;refine fr_ (news:=List.flatMap af_ (SL.l k)) cB_ m rfl rfl (B k d).nz (B k d).le ac_ (by rw[dr_ af_ 1 aq_]) (fun v _ h=>by exact (h.2.1 k d)) (fun u hu=>aA_ ch_ hu) (by simp only[maxLen];(have:=(B k d).sh;omega)) (by (have:=(B k d).sh;omega)) rfl fun P Q G=>?_;refine z_ List.perm_append_comm ?_;have R:=zsa G;refine Zz 8 ?_;exact x_ ⟨(j+1,P,Q),C,(by rw[ro_ L];exact R)⟩ zb_ zl ac_ zh
 obtain⟨C,k,L,d⟩:=zge (show i<List.length e by omega);have N:=(B k d).sh;refine Zi 27 (fun F=>?_) fun F=>?_
 ·refine Zz 10 ?_
  exact x_ ⟨(i+1,w+List.length (SL.l k)),C,by have:=(B k d).sh;dsimp only;omega⟩ zb_ ⟨rfl,(ce_ rfl (by push_cast;rfl)),rfl,rfl,rfl,trivial⟩ m_ zh
 exfalso;omega
theorem sl_two {a b:SL} (e:a.ok) (h:b.ok):∀ x∈[a,b],x.ok:=fun x d=>by
 simp only[List.mem_cons,List.not_mem_nil,or_false]at d;rcases d with rfl|rfl
 ·exact e
 exact h
theorem wN_ {a b:SL} {v:Vw} (e:bA_ v a.ad (List.flatMap af_ a.l)) (h:bA_ v b.ad (List.flatMap af_ b.l)):(slF [a,b]).p v:=fun x d=>by
 simp only[List.mem_cons,List.not_mem_nil,or_false]at d;rcases d with rfl|rfl
 ·exact e
 exact h
theorem wX_ (I:List Str) (e:Option Addr) (d:Nat) (b1:rkS (I,e,d)) (hIn:I.Nodup) (hIl:I.length≤40000) (sb:Nat) (D:List (Str×Fc)) (adr:Str→Option Addr×Nat) (hD:D.length≤1000000000) (T:List Str) (hT:∀ s,∀ t∈nxD D s,t∈T) (hTl:T.length≤20000):Tri Tryz.prog 84 #[.slice e (List.length I) d,.map (some sb)] [] [mlF Tryz.prog 9 str Fc.cells sb D adr,ah_ e (List.flatMap af_ I)] (fun y:{y:List Str×Option Addr×Nat // nH_ D I y.1∧rkS y}=>.slice y.1.2.1 y.1.1.length y.1.2.2) (fun _=>[]) (fun y=>[ah_ y.1.2.1 (y.1.1.flatMap af_)]):=by
 refine i_ Tryz.func84 rfl rfl Tryz.ntmps84 rfl fun v_1=>?_;refine Zz 5 ?_;refine kp_ (Zz 3 ?_);refine g_ (ns_ I e d b1.1 za_) rfl m_ zf rfl fun⟨⟨svc,Hcl⟩,b2⟩=>?_;dsimp only;dsimp only at b2;simp only[List.append_nil];refine Zz 5 ?_;refine aY_ rfl fun L=>Zz 7 ?_
 refine e_ (dF_ b2 l_ rfl) rfl (Zz 4 ?_);refine L_ (ι:={y:Nat×StM×Value×Hp // y.1≤List.length I∧(∀ n,n∈y.2.1.ks↔n∈List.take y.1 I)∧zR 9 1 af_ y.2.2.1 I y.2.2.2}) (fun y=>[(0,.slice e (List.length I) d),(1,.map (some sb)),(4,.slice none 0 0),(5,y.1.2.2.1),(6,.map (some L)),(16,y.1.2.2.1),(17,.int .i64 (List.length I:Int)),(18,.int .i64 (y.1.1:Int))]) (fun y=>((L,.map y.1.2.1.es y.1.2.1.c)::y.1.2.2.2)) (fun y=>[mlF Tryz.prog 9 str Fc.cells sb D adr,ah_ e (List.flatMap af_ I)]) (fun y=>List.length I - y.1.1) ⟨((0:Nat),StM.nil,svc,Hcl),by simp,(by intro n;simp[StM.nil]),b2⟩ zl zp zh ?_;rintro ⟨⟨i,s,U,a0⟩,hi_i,hs,G⟩;dsimp only at hi_i hs G ⊢;refine Zi 2 (fun R=>?_) fun R=>?_
 ·refine Zz 12 ?_
  refine kr_ (Zz 3 ?_);have hq_1:ORow 9 1 U (List.length I) (List.flatMap af_ I) a0:=ORow.row G;have E:∀ n,n∈s.ks↔n∈I:=by rw[List.take_of_length_le za_]at hs;exact hs
  refine z_ (H':=((L,.map s.es s.c)::(a0++([]:Hp)))) zj_ ?_;refine L_ (ι:={y:StM×List Str×Value×Hp×List Str×Value×Hp // CI (nxD D) I y.1.ks y.2.1∧ORow 9 1 y.2.2.1 (List.length y.2.1) (List.flatMap af_ y.2.1) y.2.2.2.1∧List.length y.2.1≤List.length y.1.ks∧NmI I y.1.ks y.2.2.2.2.1∧zR 9 1 af_ y.2.2.2.2.2.1 y.2.2.2.2.1 y.2.2.2.2.2.2}) (fun y=>[(0,.slice e (List.length I) d),(1,.map (some sb)),(4,.slice none 0 0),(5,y.1.2.2.1),(6,.map (some L)),(9,y.1.2.2.2.2.2.1)]) (fun y=>((L,.map y.1.1.es y.1.1.c)::(y.1.2.2.2.1++y.1.2.2.2.2.2.2))) (fun y=>[mlF Tryz.prog 9 str Fc.cells sb D adr,ah_ e (List.flatMap af_ I)]) (fun y=>(List.length I+List.length T) - List.length y.1.1.ks+List.length y.1.2.1) ⟨(s,I,U,a0,([]:List Str),(.slice none 0 0),([]:Hp)),CI.init E,hq_1,by have:=cO_ hIn (m:=s.ks) fun x hx=>(E x).2 hx;exact this,NmI.init E,(aw_.nil 9 1)⟩ zl (j_ d_ (A_ t_ ac_)) zh ?_;rintro ⟨⟨s,W,svW,HW,N,H,a1⟩,hC,hW,a9,hN,B⟩;dsimp only at hC hW a9 hN B ⊢;have hsl:=jJ_ hT s.hE.nd hC.rch;have hNl:=hN.len;refine Zz 5 ?_;refine e_ (py_ hW l_ rfl) rfl ?_;refine Zi 0 (fun hr_2=>?_) fun hr_2=>?_
  ·obtain⟨k,W,rfl⟩:∃ k a7,W=k::a7:=by cases W with|nil=>simp at*| cons k a7=>exact⟨k,a7,rfl⟩
   refine Zz 8 ?_;refine e_ (sj_ hW l_ E_ rfl rfl ze_ zU_) rfl ?_;refine e_ (pz_ (k:=(0:Int).toNat*1) hW zp W_ rfl rfl) rfl (Zz 6 ?_);refine qi_ (i:=1) (kl:=.i64) hW l_ E_ rfl rfl zU_ rfl fun a3 ho_1=>?_;have hW_1:ORow 9 1 a3 (List.length W) (List.flatMap af_ W) HW:=by simpa [af_] using ho_1
   have hJ_1:=hC.pop;have hlk:=dx_ D k;refine Zz 7 ?_;refine e_ (bC_ (k:=k) (adr:=adr) bo_ iW_ dR_ rfl rfl zf) rfl (Zz 5 ?_);refine L_ (ι:={y:Nat×StM×List Str×Value×Hp×List Str×Value×Hp // y.1≤List.length (lat D k)∧CJ (nxD D) I k y.1 y.2.1.ks y.2.2.1∧ORow 9 1 y.2.2.2.1 (List.length y.2.2.1) (List.flatMap af_ y.2.2.1) y.2.2.2.2.1∧List.length y.2.1.ks+List.length W=List.length s.ks+List.length y.2.2.1∧NmI I y.2.1.ks y.2.2.2.2.2.1∧zR 9 1 af_ y.2.2.2.2.2.2.1 y.2.2.2.2.2.1 y.2.2.2.2.2.2.2}) (fun y=>[(0,.slice e (List.length I) d),(1,.map (some sb)),(4,.slice none 0 0),(5,y.1.2.2.2.1),(6,.map (some L)),(9,y.1.2.2.2.2.2.2.1),(35,.slice (Prod.fst (adr k)) (List.length (lat D k)) (Prod.snd (adr k))),(36,.int .i64 (List.length (lat D k):Int)),(37,.int .i64 (y.1.1:Int))]) (fun y=>((L,.map y.1.2.1.es y.1.2.1.c)::(y.1.2.2.2.2.1++y.1.2.2.2.2.2.2.2))) (fun y=>[mlF Tryz.prog 9 str Fc.cells sb D adr,ah_ e (List.flatMap af_ I)]) (fun y=>List.length (lat D k) - y.1.1) ⟨((0:Nat),s,W,a3,HW,N,H,a1),by simp,hJ_1,hW_1,rfl,hN,B⟩ zl zp zh ?_;rintro ⟨⟨j,C,Q,Y,a2,b3,H,a1⟩,hi_j,hJ,O,hcn,J,B⟩;dsimp only at hi_j hJ O hcn J B ⊢;have hsl_1:=jJ_ hT C.hE.nd hJ.rch;have hwk_1:List.length W+1≤List.length s.ks:=by simpa using a9
   have hNl_1:=J.len;refine Zi 2 (fun hr_3=>?_) fun hr_3=>?_
   ·refine Zz 6 ?_
    exact x_ ⟨(C,Q,Y,a2,b3,H,a1),hJ.done (by rw[nxD,List.length_map];omega),O,by dsimp only;simp only[List.length_cons]at a9;omega,J,B⟩ (by dsimp only;have:=jJ_ hT C.hE.nd hJ.rch;simp only[List.length_cons]at *;omega) zl (j_ d_ (A_ t_ ac_)) zh
   have M:j<List.length (lat D k):=by omega
   obtain⟨A,K⟩:∃ a5,(lat D k)[j]? = some a5:=⟨_,List.getElem?_eq_getElem M⟩;have hmf_1:A∈(lat D k):=List.mem_of_getElem? K;refine Zz 10 ?_;refine e_ (Q_ w_ y_ rfl rfl (fun v _ h=>as_ (n:=6) Fc.cells_len ze_ (by exact (aV_ h.1 k)) K) za_ zh_) rfl ?_;refine e_ (aj_ (ad:=(Prod.fst (adr k))) (us:=Fc.cells A) bp_ y_ rfl (fun v _ h=>by exact (aV_ h.1 k)) (Fc.cells_len _) (o_ Fc.cells_len K)) rfl (G_ X_ rfl fun b_2=>u_ 0 y_ rfl rfl rfl rfl rfl rfl (Zz 7 ?_));refine B_ (ar_ (bs_ (k:=A.b) (q:=C.ks) bo_ M_ az_ rfl rfl C.hE (fun v h _=>(h.own _ (List.mem_of_getElem? (i:=1) rfl)).1)) (show _=Value.bool (decide (A.b∈C.ks)) from congrArg Value.bool (decide_eq_decide.2 Iff.rfl))) rfl fun r_1 F=>e_ (ax_ rfl) rfl (Zz 2 ?_)
   cases r_1
   ·replace F:=zdf F
    have hfk:=F;refine Zz 6 ?_;refine dM_ 1 C bo_ (.inr rfl) M_ rfl rfl rfl rfl (Zz 7 ?_);refine U_ l_ E_ av_ rfl rfl rfl rfl rfl rfl fun b_3=>?_;refine cM_ (List.flatMap af_ [A.b]) d_ rfl ?_;refine lo_ (n:=List.length Q) (m:=List.length [A.b]) (news:=List.flatMap af_ [A.b]) cB_ O rfl rfl zj_ zj_ (c_ (c_ t_)) rfl zf (fun u hu=>aA_ ch_ hu) zaw_ zy_ rfl fun V a4 S=>?_;have hr1q:ORow 9 1 V (List.length (Q++[A.b])) (List.flatMap af_ (Q++[A.b])) a4:=by rw[List.length_append,List.flatMap_append];exact S
    refine Zz 3 ?_;refine z_ (S_ (f_ d_) (bb_ (f_ d_))) (Zz 4 ?_);refine U_ l_ E_ av_ rfl rfl rfl rfl rfl rfl fun b_4=>?_;refine an_ (news:=List.flatMap af_ [A.b]) cB_ B rfl rfl zp rfl (aO_ 0 rfl) (fun u hu=>aA_ ch_ hu) zc_ zf_ rfl fun sv_2 Hr_1 R=>?_;have S:=zsa R;refine Zz 3 ?_;refine z_ (S_ (f_ d_) (S_ (f_ d_) (bb_ (f_ d_)))) (Zz 5 ?_);exact x_ ⟨(j+1,(StM.add C A.b),(Q++[A.b]),V,a4,(b3++[A.b]),sv_2,Hr_1),M,hJ.take (vf_ K) fun n=>StM.mem,hr1q,(by rw[oD_ (by simpa using hfk),List.length_append,List.length_append];simp only[List.length_cons,List.length_nil];omega),J.take (by simpa using hfk) fun n=>StM.mem,S⟩ zb_ zl zp (fun _ _ h=>h.2)
   replace F:=zdt F;refine Zz 8 ?_;exact x_ ⟨(j+1,C,Q,Y,a2,b3,H,a1),M,hJ.skip (vf_ K) (by simpa using F),O,hcn,J,B⟩ zb_ zl (j_ (c_ d_) (A_ (c_ t_) C_)) zh
  refine Zz 8 ?_;refine g_ (lO_ B za_) rfl zp zt rfl fun⟨HsN,hsn⟩=>?_;dsimp only;have hsN:aw_ 9 1 H (List.length (aS_ N)) (List.flatMap af_ (aS_ N)) HsN:=by rw[List.length_mergeSort];exact hsn
  refine Zz 2 ?_;refine z_ (bb_ (f_ d_)) (be_ ?_);obtain rfl:W=[]:=List.eq_nil_of_length_eq_zero za_;refine bj_ hsN (c_ t_) fun Z P hnad b0 hmnad a8=>?_;subst hnad;have a6:∀ x∈[(SL.mk I e d),(SL.mk (aS_ N) Z P)],x.ok:=sl_two ⟨b1.1,b1.2.2,by dsimp only;omega⟩ ⟨b0,a8,by dsimp only;rw[List.length_mergeSort];omega⟩;refine Zz 3 ?_;refine U_ cr_ bO_ bi_ rfl rfl rfl rfl rfl rfl fun b_2=>?_;refine cM_ (List.flatMap SL.cells [(SL.mk I e d),(SL.mk (aS_ N) Z P)]) d_ rfl ?_;refine g_ (tV_ [(SL.mk I e d),(SL.mk (aS_ N) Z P)] (some ⟨b_2,0,none⟩) 2 a6 zj_) rfl m_ (fun v _ h=>by exact⟨h.1,wN_ h.2.2.2.1 h.2.1,trivial⟩) rfl fun⟨⟨ad_1,cp_1⟩,hc_1,hc_2,hc_3⟩=>?_;dsimp only;refine Zz 4 ?_;exact ae_ Tryz.results84 ⟨((hH_ [(SL.mk I e d),(SL.mk (aS_ N) Z P)]),ad_1,cp_1),⟨N,hN.nd,by simp[hH_],hN.dj,fun t=>by rw[← hN.mem];exact hC.fine t⟩,hc_1,hc_2,hc_3⟩ rfl m_ zf
 have X:i<List.length I:=by omega
 obtain⟨C,E⟩:∃ a5,I[i]? = some a5:=⟨_,List.getElem?_eq_getElem X⟩;have hms_1:C∈I:=List.mem_of_getElem? E;refine Zz 10 ?_;refine e_ (bE_ G l_ E_ rfl rfl za_ za_) rfl (e_ (cC_ G C_ W_ rfl (o_ aq_ E 0 _ rfl)) rfl (Zz 6 ?_));refine dM_ 0 s bo_ (.inr rfl) M_ rfl rfl rfl rfl (Zz 7 ?_);exact x_ ⟨(i+1,(StM.add s C),U,a0),X,(by intro n;rw[StM.mem,hs n,tk1 E];simp),G⟩ zb_ zl zp zh
end Go.Proofs.YtpbnmnfdgckaiaaGreatDoor
namespace Go.Proofs.YtpbnmnfdgckaiaaGreatDoor
open Go Go.Sx Go.Proofs
attribute [local irreducible] Code.wp wpList wpAnyH
open Go.Vs Go.Shelf Go.RowKit
theorem xJ_ {l:List Fc}:∀ {x z:Fc},z∈x::cpG (fun x w=>decide (x=w)) x l↔z∈x::l:=by
 induction l with
 | nil=>intro x z;simp[cpG]
 | cons y l ih =>
   intro x z;unfold cpG
   split
   · rename_i h
     have h:=of_decide_eq_true h;subst h;rw[ih];simp
   · have d:=ih (x:=y) (z:=z)
     simp only[List.mem_cons]at d ⊢;rw[d]
theorem xI_ {l:List Fc}:∀ {x:Fc},(x::l).Pairwise (fun x y=>¬ y.lt x)→Srt (x::cpG (fun x w=>decide (x=w)) x l):=by
 induction l with
 | nil=>intro x _;unfold Srt;simp[cpG]
 | cons y l ih =>
   intro x h;have d:=List.pairwise_cons.1 h;unfold cpG
   split
   · rename_i e
     have e:=of_decide_eq_true e;subst e;exact ih d.2
   · rename_i e
     have e:y≠x:=fun q=>e (decide_eq_true q)
     have k:=ih d.2
     have m:x.lt y:=by
       rcases Fc.lt_tri x y with q|q|q
       · exact q
       · exact absurd q.symm e
       · exact absurd q (d.1 y zj_)
     refine List.pairwise_cons.2 ⟨fun z v=>?_,k⟩;rcases List.mem_cons.1 v with rfl|v
     · exact m
     · exact Fc.lt_trans m ((List.pairwise_cons.1 k).1 z v)
theorem id_ {d:List Fc} {z:Fc}:z∈hj_ d↔z∈d:=by
  rw[← pL_ d z];unfold hj_ cpL;cases eO_ d with
  | nil=>simp
  | cons x l=>exact xJ_
theorem ic_ (k:List Fc):Srt (hj_ k):=by
 have h:(eO_ k).Pairwise fun x y=>(!(ltOf hC_) y x)=true:=List.pairwise_mergeSort
   (fun a b c h d=>by simp only[Bool.not_eq_true']at *;exact wB_.ntrans c b a d h)
   (fun a b=>by
     simp only[Bool.or_eq_true,Bool.not_eq_true'];rw[ltF,ltF,decide_eq_false_iff_not,decide_eq_false_iff_not];rcases Fc.lt_tri a b with g|g|g
     · exact .inl fun q=>Fc.lt_irr a (Fc.lt_trans g q)
     · subst g;exact .inl a.lt_irr
     · exact .inr fun q=>Fc.lt_irr a (Fc.lt_trans q g)) k
 have d:(eO_ k).Pairwise fun x y=>¬ y.lt x:=h.imp fun {a b} q=>by rw[Bool.not_eq_true',ltF,decide_eq_false_iff_not]at q;exact q
 unfold hj_ cpL;cases e:eO_ k with
 | nil=>unfold Srt;simp
 | cons x l=>rw[e]at d;exact xI_ d
def rkF (r:List Fc×Option Addr×Nat):Prop:=r.1.length≤r.2.2∧r.2.2≤maxLen∧(r.2.1=none→r.2.2=0)
def yf_ (l:List Ax) (X:List Fc):Prop:=Srt X∧∀ z,z∈X↔∃ r t,(r∈vcL 6 l∧r≠[])∧RchS (lat (gc_ l)) [r] t∧z=Y_ r t
theorem pD_ {k:Int}:∀ {l:List Ax},(∀ x∈l,x.left.sz≤64∧x.right.sz≤64∧x.roles.length≤4)→(vcL k l).length≤136*l.length
  | [],_=>by simp[vcL]
  | x::l,h=>by
    have e:=pD_ (k:=k) (l:=l) fun y d=>h y zL_
    obtain⟨a,b,c⟩:=h x zj_
    have m:(x.vc k).length≤136:=by
      unfold Ax.vc;have:=Con.nms_len k x.left;have:=Con.nms_len k x.right;rw[List.length_append,List.length_append,List.length_append]
      split<;>split<;>simp<;>omega
    unfold vcL at e ⊢;rw[List.flatMap_cons,List.length_append,List.length_cons];omega
theorem od_ {c:Con} (h:c.check=0) {r:Str} (k:r∈c.nms 6):bg_ r=true:=by
  unfold Con.nms at k;obtain⟨d,e,rfl⟩:=List.mem_map.1 k;rw[List.mem_filter]at e;have hk:d.kind=6:=by simpa using e.2
  exact (Con.names_of ((Con.check_iff d).1 (of_ _ c (Nat.le_refl _) h d e.1)).2.2).plain (.inr (.inl hk))
theorem oe_ {c:Con} (h:c.empty=true) {r:Str} (d:r∈c.nms 6):bg_ r=true:=by
  cases c with
  | mk k n l hi ad cp ps =>
    unfold Con.empty at h;simp only[Bool.and_eq_true,beq_iff_eq,Con.parts,Con.kind]at h;have:ps=[]:=List.eq_nil_of_length_eq_zero za_;subst this;rw[Con.nms_eq]at d;simp[Con.kind,Con.parts,h.1.1.1.1]at d
theorem pC_ {l:List Ax} (C:∀ x∈l,x.check=0) {r:Str} (d:r∈vcL 6 l) (E:r≠[]):bg_ r=true:=by
 unfold vcL at d;obtain⟨x,B,d⟩:=List.mem_flatMap.1 d;have m:=C x B;have h:=Ax.good_of m;have k:=kG_ m;unfold Ax.shaped at k;rw[if_neg (by have:=h.k1;have:=h.k9;omega)]at k;simp only[Bool.and_eq_true,Bool.or_eq_true]at k;obtain⟨⟨⟨⟨⟨⟨A,v⟩,y⟩,_⟩,_⟩,_⟩,_⟩:=k;unfold Ax.vc at d;rw[if_pos rfl,if_neg ze_,List.append_nil,List.mem_append,List.mem_append,List.mem_append,List.mem_singleton]at d;rcases d with (d|d)|d|rfl
 ·exact A.elim (fun q=>od_ (pq_ m q) d) (fun q=>oe_ q d)
 ·exact v.elim (fun q=>od_ (qW_ m q) d) (fun q=>oe_ q d)
 ·exact h.roles r d
 have hk:x.kind=1∨x.kind=2∨x.kind=3∨x.kind=4∨x.kind=5∨x.kind=6∨x.kind=7∨x.kind=8∨x.kind=9:=by have:=h.k1;have:=h.k9;omega
 rcases y with q|q
 ·refine h.role ?_
  rcases hk with e|e|e|e|e|e|e|e|e<;>rw[e]at q<;>first|omega|exact absurd q ze_
 exact absurd (by simpa using q) E
theorem oE_ {l:List Str} (h:SrS l):l.Nodup:=h.imp fun {a b} q e=>by subst e;exact List.lt_irrefl _ q
theorem jL_ {s:Str} (h:bg_ s=true):aM_ s=true:=by unfold aM_;rw[h];rfl
theorem inc_in {z:Fc} {X:Prop} {T:List Str} {r t:Str}:((X∨∃ t∈T,z=Y_ r t)∨z=Y_ r t)↔(X∨∃ u∈T++[t],z=Y_ r u):=by
 constructor
 ·rintro ((h|⟨u,d,e⟩)|e)
  ·exact .inl h
  ·exact .inr ⟨u,by simp[d],e⟩
  exact .inr ⟨t,by simp,e⟩
 rintro (h|⟨u,d,e⟩)
 ·exact .inl (.inl h)
 rw[List.mem_append,List.mem_singleton]at d;rcases d with d|rfl
 ·exact .inl (.inr ⟨u,d,e⟩)
 exact .inr e
theorem vG_ {l:List Ax} {R T:List Str} {r:Str} (h:yh_ l r T) {z:Fc}:((∃ s∈R,∃ t,RchS (lat (gc_ l)) [s] t∧z=Y_ s t)∨∃ t∈T,z=Y_ r t)↔∃ s∈R++[r],∃ t,RchS (lat (gc_ l)) [s] t∧z=Y_ s t:=by
 constructor
 ·rintro (⟨s,d,q⟩|⟨t,k,e⟩)
  ·exact⟨s,by simp[d],q⟩
  exact⟨r,by simp,t,(h.2 t).1 k,e⟩
 rintro ⟨s,d,t,k,e⟩;rw[List.mem_append,List.mem_singleton]at d;rcases d with d|rfl
 ·exact .inl ⟨s,d,t,k,e⟩
 exact .inr ⟨t,(h.2 t).2 k,e⟩
theorem xy_ {l:List Ax} {R:List Str} (h:kI_ 6 l R) {z:Fc}:(∃ s∈R,∃ t,RchS (lat (gc_ l)) [s] t∧z=Y_ s t)↔∃ r t,(r∈vcL 6 l∧r≠[])∧RchS (lat (gc_ l)) [r] t∧z=Y_ r t :=
  ⟨fun⟨s,k,t,d,e⟩=>⟨s,t,⟨((h.2 s).1 k).1,((h.2 s).1 k).2 (.inl rfl)⟩,d,e⟩,fun⟨s,t,⟨m,q⟩,d,e⟩=>⟨s,(h.2 s).2 ⟨m,fun _=>q⟩,t,d,e⟩⟩
theorem incl_c (A:List Ax) (lad:Option Addr) (lcap:Nat) (a1:∀ x∈A,x.ok) (R:∀ x∈A,x.check=0) (c0:A.length≤20):Tri Tryz.prog 33 #[.slice lad (List.length A) lcap] [] [eg_ lad A,cj_] (fun y:{y:List Fc×Option Addr×Nat // yf_ A y.1∧rkF y}=>.tuple #[.slice y.1.2.1 y.1.1.length y.1.2.2,.int .i64 0]) (fun _=>[]) (fun y=>[ah_ y.1.2.1 (y.1.1.flatMap Fc.cells)]):=by
 refine i_ Tryz.func33 rfl rfl Tryz.ntmps33 rfl fun v_1=>?_;have a4:∀ x∈A,x.left.sz≤64∧x.right.sz≤64∧x.roles.length≤4:=fun x hx=>⟨(sT_ (R x hx)).1,(sT_ (R x hx)).2,ys_ (R x hx)⟩
 refine Zz 9 ?_;refine g_ (voc_c A lad lcap a1 R c0) rfl m_ zf rfl fun⟨⟨⟨b6,b2,ccp⟩,⟨R1,rad,S⟩,⟨Y,a7,ecp⟩,⟨b1,b0,xcp⟩⟩,⟨b7,a9⟩,⟨v,b3⟩,⟨T,Z⟩,a2,a5⟩=>?_;dsimp only;dsimp only at b7 a9 v b3 T Z a2 a5;have hRn:List.length R1≤136*List.length A:=by have h_1:=cO_ (oE_ v.1) (m:=vcL 6 A) fun n hn=>((v.2 n).1 hn).1;have h_2:=pD_ (k:=6) (l:=A) a4;omega
 refine Zz 3 ?_;refine G_ Tryz.zeroValue133 rfl fun b_1=>u_ 0 Tryz.sizeOf133 rfl rfl rfl rfl rfl rfl (Zz 7 ?_)
 refine e_ (ar_ (bU_ rfl rfl) (show _=Value.bool false from congrArg Value.bool ze_)) rfl (Zz 15 ?_);refine L_ (ι:={y:Nat×List Fc×Value×Hp // y.1≤List.length R1∧(∀ z,z∈y.2.1↔∃ r∈List.take y.1 R1,∃ t,RchS (lat (gc_ A)) [r] t∧z=Y_ r t)∧List.length y.2.1≤21*y.1∧zR 36 6 Fc.cells y.2.2.1 y.2.1 y.2.2.2}) (fun y=>[(0,.slice lad (List.length A) lcap),(2,y.1.2.2.1),(3,.int .i64 0),(20,.slice rad (List.length R1) S),(21,.int .i64 (List.length R1:Int)),(22,.int .i64 (y.1.1:Int))]) (fun y=>(y.1.2.2.2)) (fun y=>[ah_ b2 (List.flatMap af_ b6),ah_ rad (List.flatMap af_ R1),ah_ a7 (List.flatMap af_ Y),ah_ b0 (List.flatMap af_ b1),eg_ lad A,cj_]) (fun y=>List.length R1 - y.1.1) ⟨((0:Nat),([]:List Fc),(.slice none 0 0),[]),by simp,(by intro z;simp),zj_,(aw_.nil _ _)⟩ zl m_ zh ?_;rintro ⟨⟨i,X,C,O⟩,b5,hX,d5,e⟩;dsimp only at b5 hX d5 e ⊢;refine Zi 2 (fun q=>?_) fun q=>?_
 ·refine Zz 7 ?_
  refine bj_ e ac_ fun d6 d1 a3 L hmqad d0=>?_;subst a3;refine Zz 2 ?_;refine g_ (gK_ X d6 d1 L za_) rfl m_ zf rfl fun⟨⟨sad,c1⟩,M,N,Q⟩=>?_;dsimp only;refine Zz 5 ?_;have d2:yf_ A (hj_ X):=⟨ic_ X,fun z=>by rw[id_,hX z,List.take_of_length_le za_];exact xy_ v⟩;exact kv_ Tryz.results33 ⟨(hj_ X,sad,c1),d2,M,N,Q⟩ rfl rfl rfl m_ zf
 have H:i<List.length R1:=by omega
 obtain⟨B,q⟩:∃ K,R1[i]? = some K:=⟨_,List.getElem?_eq_getElem H⟩;have F:B∈R1:=List.mem_of_getElem? q;have a0:=pC_ R ((v.2 B).1 F).1 (((v.2 B).1 F).2 (.inl rfl));refine Zz 19 ?_;refine g_ (ps_ A lad lcap a1 R c0 B (jL_ a0) (by have:=dA_ a0;omega)) rfl m_ zf rfl fun⟨⟨d,b4,c2⟩,I,d4⟩=>?_;dsimp only;dsimp only at I d4;have hTl:List.length d≤List.length A+1:=by have h_1:=fT_ (oE_ I.1) (fun t ht=>(I.2 t).1 ht);have h_2:=gX_ A;omega
 refine Zz 11 ?_;refine e_ (ar_ (bU_ rfl rfl) (show _=Value.bool false from congrArg Value.bool ze_)) rfl (Zz 13 ?_);refine L_ (ι:={y:Nat×List Fc×Value×Hp // y.1≤List.length d∧(∀ z,z∈y.2.1↔z∈X∨∃ t∈List.take y.1 d,z=Y_ B t)∧List.length y.2.1=List.length X+y.1∧zR 36 6 Fc.cells y.2.2.1 y.2.1 y.2.2.2}) (fun y=>[(0,.slice lad (List.length A) lcap),(2,y.1.2.2.1),(3,.int .i64 0),(20,.slice rad (List.length R1) S),(21,.int .i64 (List.length R1:Int)),(22,.int .i64 (i:Int)),(6,str B),(35,.slice b4 (List.length d) c2),(36,.int .i64 (List.length d:Int)),(37,.int .i64 (y.1.1:Int))]) (fun y=>(y.1.2.2.2)) (fun y=>[ah_ b4 (List.flatMap af_ d),ah_ b2 (List.flatMap af_ b6),ah_ rad (List.flatMap af_ R1),ah_ a7 (List.flatMap af_ Y),ah_ b0 (List.flatMap af_ b1),eg_ lad A,cj_]) (fun y=>List.length d - y.1.1) ⟨((0:Nat),X,C,O),by simp,(by intro z;simp),zj_,e⟩ zl ac_ zh ?_;rintro ⟨⟨j,W,C,O⟩,b8,E,b9,e⟩;dsimp only at b8 E b9 e ⊢;refine Zi 2 (fun a8=>?_) fun a8=>?_
 ·refine Zz 11 ?_
  exact x_ ⟨(i+1,W,C,O),H,(by intro z;rw[E z,hX z,List.take_of_length_le (l:=d) za_,tk1 q];exact vG_ I),zb_,e⟩ zb_ zl ac_ (fun _ _ h=>h.2)
 have G:j<List.length d:=by omega
 obtain⟨P,J⟩:∃ K,d[j]? = some K:=⟨_,List.getElem?_eq_getElem G⟩;have d3:P∈d:=List.mem_of_getElem? J;refine Zz 19 ?_;refine e_ (H_ eC_ rfl rfl) rfl (U_ w_ y_ X_ rfl rfl rfl rfl rfl rfl fun b_2=>?_);refine an_ (news:=List.flatMap Fc.cells [(Fc.mk 1 B P [] 0 0)]) eb_ e rfl rfl C_ rfl (aO_ 0 rfl) (fun u hu=>aA_ Fc.cells_one hu) zc_ zf_ rfl fun a6 U q=>?_;refine z_ List.perm_append_comm ?_;have V:=zsa q;refine Zz 8 ?_;exact x_ ⟨(j+1,(W++[(Y_ B P)]),a6,U),G,(by intro z;rw[List.mem_append,E z,tk1 J,List.mem_singleton];exact inc_in),(by rw[List.length_append];simp only[List.length_cons,List.length_nil];omega),V⟩ zb_ zl C_ zh
theorem tH_ {N:Nf} {y:Vw} {B:Hp} {fr:Fr} {F H:Hp} {Γ:List Fct} {P:Program} {K D:Type} [DecidableEq K] {k:Act→World→Prop} {m:K→Value} {cells:D→List Value} {x e:TypeId} {sz A:Nat} {l:List (K×D)} {d:Hp} (J:KeyT P x m) (hm:cS_ m cells e sz l A d) (C:H.Perm (d++F))
    (h:∀ adr:K→Option Addr×Nat,(∀ k,(lat l k).length≤(adr k).2∧((adr k).1=none→(adr k).2=0))→Ok N y B k fr F (mlF P x m cells A l adr::Γ)):Ok N y B k fr H Γ:=by
  obtain⟨adr,I,G⟩:=hm.lentC J;refine mO_ d C (mP_ (fun v _ q=>?_) (h adr I));rw[eL_]at q;refine⟨G v fun p E=>?_,q.2⟩;have:=q.1;exact jt_ d.reverse (by rw[List.map_reverse]at *;exact this) p (List.mem_reverse.2 E)
def ef_ (l:List Str):List Str:=l.filter fun s=>!nls s
def tyL (K:List Str) (l:List Fc):List Fc:=l.filter fun z=>decide (z.kind=1)&&decide (z.a∈K)
def liL (l:List Fc):List Fc:=l.filter fun z=>decide (z.kind=2)&&(!nls z.a&&!nls z.b)
def raL (K:List Str) (l:List Fc):List Fc:=l.filter fun z=>decide (z.kind=3)&&decide (z.a∈K)
structure AsmR (p:List Pc) (c:Cl) (X:List Str) (Ty Li Di Ra:List Fc):Prop where
  nd:nH_ (dv_ p c.facts) (ef_ c.atoms) X
  ty:Srt Ty∧∀ z,z∈Ty↔z∈c.facts∧z.kind=1∧z.a∈X
  li:Srt Li∧∀ z,z∈Li↔z∈c.facts∧z.kind=2∧nls z.a=false∧nls z.b=false
  di:Srt Di∧∀ z,z∈Di↔∃ s∈X,(s,z)∈dv_ p c.facts
  ra:Srt Ra∧∀ z,z∈Ra↔z∈c.facts∧z.kind=3∧z.a∈X
theorem xx_ {l:List Str} (h:SrS l):Lib.compact (aS_ (ef_ l))=ef_ l:=by
  have d:SrS (ef_ l):=h.sublist List.filter_sublist;exact lN_ (hB_ (fR_ _)) d fun x=>by rw[iv_,List.mem_mergeSort]
theorem ve_ {p:List Pc} {F:List Fc} (s t:Str) (h:t∈nxD (dv_ p F) s):t∈p.map Pc.c:=by
  unfold nxD at h;obtain⟨z,d,rfl⟩:=List.mem_map.1 h;obtain⟨f,_,y,e,_,_,_,_,rfl⟩:=qM_.1 (bL_.1 d);exact List.mem_map.2 ⟨y,e,rfl⟩
theorem jr_ {K D:Type} [DecidableEq K]:∀ (L:List (K×D)) {X:List K},X.Nodup→(X.flatMap (lat L)).length≤L.length
 | [],X,_=>by
   have:X.flatMap (lat ([]:List (K×D)))=[]:=List.flatMap_eq_nil_iff.2 fun x _=>rfl
   rw[this];simp
 | (k,d)::L,X,h=>by
   have m:∀ X:List K,(X.flatMap (lat ((k,d)::L))).length=(X.flatMap (lat L)).length+X.count k:=by
     intro X
     induction X with
     | nil=>rfl
     | cons x X ih =>
       rw[List.flatMap_cons,List.flatMap_cons,List.length_append,List.length_append,ih,List.count_cons]
       have e:(lat ((k,d)::L) x).length=(lat L x).length+if x==k then 1 else 0:=by
         unfold lat;rw[List.filter_cons]
         by_cases q:k=x
         · subst q;simp
         · rw[if_neg (by simpa using q),if_neg (by simpa using fun e=>q e.symm)];rfl
       rw[e];omega
   have v:=jr_ L h;have y:=List.nodup_iff_count.1 h k;rw[m,List.length_cons];omega
theorem sz_ {D:List (Str×Fc)} {I X:List Str} (h:nH_ D I X) (m:I.Nodup):X.Nodup:=by
  obtain⟨N,k,rfl,q,_⟩:=h;rw[List.nodup_append];exact⟨m,(List.mergeSort_perm _ _).nodup_iff.2 k,fun a v b d e=>by subst e;rw[List.mem_mergeSort]at d;exact q a d v⟩
theorem xk_ {D:List (Str×Fc)} {I X T:List Str} (h:nH_ D I X) (v:∀ s,∀ t∈nxD D s,t∈T) (A:T.length≤20000) (B:I.length≤40000):X.length≤60000:=by
  obtain⟨N,e,rfl,q,d⟩:=h;have y:=cO_ e (m:=I++T) fun s k=>((d s).1 (.inr k)).mem v
  have x:N.length≤T.length:=cO_ e fun s k=>by
    have:=((d s).1 (.inr k)).mem v;rw[List.mem_append]at this;exact this.resolve_left (q s k)
  rw[List.length_append,List.length_mergeSort];omega
theorem es_ {G:Prop} (h:G:=by
 refine Zz 8 ?_;exact lf_):G:=h
theorem et_ {G:Prop} (h:G:=by
 refine Zz 17 ?_;exact lf_):G:=h
theorem le_ {G:Prop} (h:G:=by
 refine Zz 1 ?_;refine z_ (S_ (f_ d_) (S_ (f_ d_) (S_ (f_ d_) (S_ (f_ d_) (bb_ (f_ d_)))))) (dm_ 3 x ci_ rfl rfl rfl rfl (Zz 7 ?_));exact x_ ⟨(j+1,I,N,G,H,K,Q),A,zu_,(by have e:liL (List.take (j+1) c.facts)=((liL (List.take j c.facts))++[B]):=(by unfold liL;rw[tk1 d,List.filter_append];simp_all);rw[e];exact x),zv_⟩ zb_ zl (j_ (c_ (c_ d_)) (j_ (c_ (c_ d_)) (j_ (c_ (c_ d_)) (A_ (c_ (c_ (f_ t_))) (A_ (c_ (c_ t_)) (c_ C_)))))) zh):G:=h
theorem eu_ {G:Prop} (h:G:=by
 refine Zz 1 ?_;refine z_ (S_ (f_ d_) (S_ (f_ d_) (S_ (f_ d_) (S_ (f_ d_) (bb_ (f_ d_)))))) (dm_ 3 x ci_ rfl rfl rfl rfl (Zz 7 ?_));exact x_ ⟨(j+1,I,N,J,O,G,H),A,zu_,zx_,(by have e:raL s.ks (List.take (j+1) c.facts)=((raL s.ks (List.take j c.facts))++[B]):=(by unfold raL;rw[tk1 d,List.filter_append];simp_all);rw[e];exact x)⟩ zb_ zl (j_ (c_ (c_ d_)) (j_ (c_ (c_ d_)) (j_ (c_ (c_ d_)) (A_ (c_ (c_ (f_ t_))) (A_ (c_ (c_ aP_)) (c_ C_)))))) zh):G:=h
theorem lf_ {G:Prop} (h:G:=by
 exact x_ ⟨(j+1,I,N,J,O,K,Q),A,zu_,zx_,zv_⟩ zb_ zl (j_ (c_ d_) (j_ (c_ d_) (j_ (c_ d_) (A_ (c_ t_) (A_ (c_ t_) C_))))) zh):G:=h
set_option maxHeartbeats 1000000 in
theorem sf_ (p:List Pc) (Y:Option Addr) (a2:Nat) (c:Cl) (hco:c.ok) (hp:p.length≤12000) (hF:c.facts.length≤65536) (hA:c.atoms.length≤40000) (hAs:SrS c.atoms):Tri Tryz.prog 34 #[.slice Y (List.length p) a2,Cl.val c] [] [ah_ Y (List.flatMap Pc.cells p),ah_ c.aad (List.flatMap af_ c.atoms),ah_ c.fad (List.flatMap Fc.cells c.facts)] (fun y:{y:(List Str×Option Addr×Nat)×(List Fc×Option Addr×Nat)×(List Fc×Option Addr×Nat)×(List Fc×Option Addr×Nat)×(List Fc×Option Addr×Nat) // AsmR p c y.1.1 y.2.1.1 y.2.2.1.1 y.2.2.2.1.1 y.2.2.2.2.1∧rkS y.1∧rkF y.2.1∧rkF y.2.2.1∧rkF y.2.2.2.1∧rkF y.2.2.2.2}=>.agg #[.slice y.1.1.2.1 y.1.1.1.length y.1.1.2.2,.slice y.1.2.1.2.1 y.1.2.1.1.length y.1.2.1.2.2,.slice y.1.2.2.1.2.1 y.1.2.2.1.1.length y.1.2.2.1.2.2,.slice y.1.2.2.2.1.2.1 y.1.2.2.2.1.1.length y.1.2.2.2.1.2.2,.slice y.1.2.2.2.2.2.1 y.1.2.2.2.2.1.length y.1.2.2.2.2.2.2,.slice none 0 0]) (fun _=>[]) (fun y=>[ah_ y.1.1.2.1 (y.1.1.1.flatMap af_),ah_ y.1.2.1.2.1 (y.1.2.1.1.flatMap Fc.cells),ah_ y.1.2.2.1.2.1 (y.1.2.2.1.1.flatMap Fc.cells),ah_ y.1.2.2.2.1.2.1 (y.1.2.2.2.1.1.flatMap Fc.cells),ah_ y.1.2.2.2.2.2.1 (y.1.2.2.2.2.1.flatMap Fc.cells)]):=by
 refine i_ Tryz.func34 rfl rfl Tryz.ntmps34 rfl fun v_1=>?_;refine Zz 2 ?_;refine aa_ rfl rfl fun b3=>G_ je_ rfl fun b2=>Zz 17 ?_
 refine L_ (ι:={y:Nat×Value×Hp // y.1≤List.length c.atoms∧zR 9 1 af_ y.2.1 (ef_ (List.take y.1 c.atoms)) y.2.2}) (fun y=>[(0,.slice Y (List.length p) a2),(3,zp_ b3 0),(4,zp_ b2 0),(5,y.1.2.1),(15,.slice c.aad (List.length c.atoms) c.acap),(16,.int .i64 (List.length c.atoms:Int)),(17,.int .i64 (y.1.1:Int))]) (fun y=>((b2,.cells #[.slice none 0 0,.slice none 0 0,.slice none 0 0,.slice none 0 0,.slice none 0 0,.slice none 0 0] 28 (0,0))::((b3,.cells #[.slice c.aad (List.length c.atoms) c.acap,.slice c.fad (List.length c.facts) c.fcap] 67 (0,0))::y.1.2.2))) (fun y=>[ah_ Y (List.flatMap Pc.cells p),ah_ c.aad (List.flatMap af_ c.atoms),ah_ c.fad (List.flatMap Fc.cells c.facts)]) (fun y=>List.length c.atoms - y.1.1) ⟨((0:Nat),(.slice none 0 0),[]),by simp,(aw_.nil _ _)⟩ zl zp zh ?_;rintro ⟨⟨i,sv_Q,H_Q⟩,hi_i,Z⟩;dsimp only at hi_i Z ⊢;have hil:List.length (ef_ (List.take i c.atoms))≤40000:=Nat.le_trans (List.length_filter_le _ _) (Nat.le_trans (List.length_take_le i _) za_);refine Zi 2 (fun d3=>?_) fun d3=>?_
 ·refine Zz 11 ?_
  refine g_ (rS_ p Y a2 c.facts c.fad c.fcap hp hF) rfl m_ zf rfl fun⟨⟨db,Hd⟩,hd⟩=>?_;dsimp only;dsimp only at hd;refine Zz 3 ?_;refine z_ (S_ (f_ d_) (bb_ (f_ d_))) (be_ ?_);rw[List.take_of_length_le za_]at Z;refine tH_ bo_ hd (c_ (c_ t_)) fun adr e3=>?_;refine bj_ Z (c_ C_) fun d6 f3 g4 f5 hmqad hzqad=>?_;subst g4;have hil:List.length (ef_ c.atoms)≤40000:=Nat.le_trans (List.length_filter_le _ _) hA;refine Zz 2 ?_;refine g_ (rm_ (ef_ c.atoms) d6 f3 f5 za_) rfl m_ zf rfl fun⟨⟨f9,icp⟩,hi_1,hi_2,g2⟩=>?_;dsimp only;have e8:List.length (Lib.compact (aS_ (ef_ c.atoms)))≤40000:=by have:=gu_ (aS_ (ef_ c.atoms));rw[List.length_mergeSort]at this;omega
  refine Zz 1 ?_;refine g_ (wX_ (Lib.compact (aS_ (ef_ c.atoms))) f9 icp ⟨hi_1,hi_2,g2⟩ ((hB_ (fR_ _)).imp fun q e=>by subst e;exact List.lt_irrefl _ q) e8 db (dv_ p c.facts) adr (by have:=it_ (p:=p) c.facts;have:=Nat.mul_le_mul hF hp;omega) (p.map Pc.c) ve_ zaj_) rfl m_ zf rfl fun⟨⟨X,a1,b1⟩,e0,g1⟩=>?_;dsimp only;dsimp only at e0 g1;have hXn:X.Nodup:=sz_ e0 ((hB_ (fR_ _)).imp fun q e=>by subst e;exact List.lt_irrefl _ q);have hXl:List.length X≤60000:=xk_ e0 ve_ zaj_ e8;refine Zz 1 ?_;refine u_ 0 bO_ rfl rfl rfl rfl rfl rfl (Zz 4 ?_);refine aY_ rfl fun d5=>Zz 13 ?_
  refine L_ (ι:={y:Nat×StM×Value×Hp // y.1≤List.length X∧(∀ n,n∈y.2.1.ks↔n∈List.take y.1 X)∧zR 36 6 Fc.cells y.2.2.1 (List.flatMap (lat (dv_ p c.facts)) (List.take y.1 X)) y.2.2.2}) (fun y=>[(0,.slice Y (List.length p) a2),(3,zp_ b3 0),(4,zp_ b2 0),(5,.slice d6 (List.length (ef_ c.atoms)) f3),(15,.slice c.aad (List.length c.atoms) c.acap),(16,.int .i64 (List.length c.atoms:Int)),(17,.int .i64 (i:Int)),(8,.map (some db)),(9,.map (some d5)),(40,.slice a1 (List.length X) b1),(41,.int .i64 (List.length X:Int)),(42,.int .i64 (y.1.1:Int))]) (fun y=>((d5,.map y.1.2.1.es y.1.2.1.c)::((b2,.cells #[.slice a1 (List.length X) b1,.slice none 0 0,.slice none 0 0,y.1.2.2.1,.slice none 0 0,.slice none 0 0] 28 (0,0))::((b3,.cells #[.slice c.aad (List.length c.atoms) c.acap,.slice c.fad (List.length c.facts) c.fcap] 67 (0,0))::y.1.2.2.2)))) (fun y=>[ah_ a1 (List.flatMap af_ X),ah_ f9 (List.flatMap af_ (Lib.compact (aS_ (ef_ c.atoms)))),ah_ d6 (List.flatMap af_ (ef_ c.atoms)),mlF Tryz.prog 9 str Fc.cells db (dv_ p c.facts) adr,ah_ Y (List.flatMap Pc.cells p),ah_ c.aad (List.flatMap af_ c.atoms),ah_ c.fad (List.flatMap Fc.cells c.facts)]) (fun y=>List.length X - y.1.1) ⟨((0:Nat),StM.nil,(.slice none 0 0),[]),by simp,(by intro n;simp[StM.nil]),(aw_.nil 36 6)⟩ zl zp zh ?_;rintro ⟨⟨m,s,sv_Z,H_Z⟩,hi_m,hs,b0⟩;dsimp only at hi_m hs b0 ⊢;have hel:List.length (List.flatMap (lat (dv_ p c.facts)) (List.take m X))≤786432000:=by have a8:=jr_ (dv_ p c.facts) (hXn.sublist (List.take_sublist m X));have a7:=it_ (p:=p) c.facts;have h_3:=Nat.mul_le_mul hF hp;omega
  refine Zi 2 (fun V=>?_) fun V=>?_
  ·refine Zz 7 ?_
   rw[List.take_of_length_le (l:=X) za_]at hs b0;have hel_1:List.length (List.flatMap (lat (dv_ p c.facts)) X)≤786432000:=by have a8:=jr_ (dv_ p c.facts) hXn;have a7:=it_ (p:=p) c.facts;have h_3:=Nat.mul_le_mul hF hp;omega
   refine bj_ b0 (c_ (c_ C_)) fun ead ecp head f8 hmead hzead=>?_;subst head;refine Zz 3 ?_;refine g_ (gK_ (List.flatMap (lat (dv_ p c.facts)) X) ead ecp f8 za_) rfl m_ zf rfl fun⟨⟨a9,d4⟩,b6,b7,b5⟩=>?_;dsimp only;refine Zz 1 ?_;refine u_ 1 ci_ rfl rfl rfl rfl rfl rfl (Zz 12 ?_);refine L_ (ι:={y:Nat×Value×Hp×Value×Hp×Value×Hp // y.1≤List.length c.facts∧zR 36 6 Fc.cells y.2.1 (tyL s.ks (List.take y.1 c.facts)) y.2.2.1∧zR 36 6 Fc.cells y.2.2.2.1 (liL (List.take y.1 c.facts)) y.2.2.2.2.1∧zR 36 6 Fc.cells y.2.2.2.2.2.1 (raL s.ks (List.take y.1 c.facts)) y.2.2.2.2.2.2}) (fun y=>[(0,.slice Y (List.length p) a2),(3,zp_ b3 0),(4,zp_ b2 0),(5,.slice d6 (List.length (ef_ c.atoms)) f3),(15,.slice c.aad (List.length c.atoms) c.acap),(16,.int .i64 (List.length c.atoms:Int)),(17,.int .i64 (i:Int)),(8,.map (some db)),(9,.map (some d5)),(40,.slice a1 (List.length X) b1),(41,.int .i64 (List.length X:Int)),(42,.int .i64 (m:Int)),(61,.slice c.fad (List.length c.facts) c.fcap),(62,.int .i64 (List.length c.facts:Int)),(63,.int .i64 (y.1.1:Int))]) (fun y=>((d5,.map s.es s.c)::((b2,.cells #[.slice a1 (List.length X) b1,y.1.2.1,y.1.2.2.2.1,.slice a9 (List.length (hj_ (List.flatMap (lat (dv_ p c.facts)) X))) d4,y.1.2.2.2.2.2.1,.slice none 0 0] 28 (0,0))::((b3,.cells #[.slice c.aad (List.length c.atoms) c.acap,.slice c.fad (List.length c.facts) c.fcap] 67 (0,0))::(y.1.2.2.1++(y.1.2.2.2.2.1++y.1.2.2.2.2.2.2)))))) (fun y=>[ah_ a9 (List.flatMap Fc.cells (hj_ (List.flatMap (lat (dv_ p c.facts)) X))),ah_ ead (List.flatMap Fc.cells (List.flatMap (lat (dv_ p c.facts)) X)),ah_ a1 (List.flatMap af_ X),ah_ f9 (List.flatMap af_ (Lib.compact (aS_ (ef_ c.atoms)))),ah_ d6 (List.flatMap af_ (ef_ c.atoms)),mlF Tryz.prog 9 str Fc.cells db (dv_ p c.facts) adr,ah_ Y (List.flatMap Pc.cells p),ah_ c.aad (List.flatMap af_ c.atoms),ah_ c.fad (List.flatMap Fc.cells c.facts)]) (fun y=>List.length c.facts - y.1.1) ⟨((0:Nat),(.slice none 0 0),[],(.slice none 0 0),[],(.slice none 0 0),[]),by simp,(aw_.nil _ _),(aw_.nil _ _),(aw_.nil _ _)⟩ zl zp zh ?_;rintro ⟨⟨j,I,N,J,O,K,Q⟩,hi_j,F,C,E⟩;dsimp only at hi_j F C E ⊢;have hltyL:List.length (tyL s.ks (List.take j c.facts))≤65536:=Nat.le_trans (List.length_filter_le _ _) (Nat.le_trans (List.length_take_le j _) za_);have hlliL:List.length (liL (List.take j c.facts))≤65536:=Nat.le_trans (List.length_filter_le _ _) (Nat.le_trans (List.length_take_le j _) za_);have hlraL:List.length (raL s.ks (List.take j c.facts))≤65536:=Nat.le_trans (List.length_filter_le _ _) (Nat.le_trans (List.length_take_le j _) za_);refine Zi 2 (fun S=>?_) fun S=>?_
   ·refine Zz 7 ?_
    rw[List.take_of_length_le za_]at F C E;refine bj_ F (c_ (c_ (c_ t_))) fun tad tcp htad f4 hmtad hztad=>?_;subst htad;refine Zz 3 ?_;refine g_ (gK_ (tyL s.ks c.facts) tad tcp f4 (Nat.le_trans (List.length_filter_le _ _) za_)) rfl m_ zf rfl fun⟨⟨e2,e9⟩,b4,d2,c1⟩=>?_;dsimp only;refine Zz 1 ?_;refine u_ 1 ci_ rfl rfl rfl rfl rfl rfl (Zz 3 ?_);refine bj_ C (c_ (c_ (c_ t_))) fun uad ucp huad g0 hmuad hzuad=>?_;subst huad;refine Zz 3 ?_;refine g_ (gK_ (liL c.facts) uad ucp g0 (Nat.le_trans (List.length_filter_le _ _) za_)) rfl m_ zf rfl fun⟨⟨e7,e4⟩,b9,d7,d9⟩=>?_;dsimp only;refine Zz 1 ?_;refine u_ 1 ci_ rfl rfl rfl rfl rfl rfl (Zz 3 ?_);refine bj_ E (c_ (c_ C_)) fun vad vcp g3 f2 hmvad hzvad=>?_;subst g3;refine Zz 3 ?_;refine g_ (gK_ (raL s.ks c.facts) vad vcp f2 (Nat.le_trans (List.length_filter_le _ _) za_)) rfl m_ zf rfl fun⟨⟨f0,e6⟩,b8,d0,d1⟩=>?_;dsimp only;refine Zz 1 ?_;refine u_ 1 ci_ rfl rfl rfl rfl rfl rfl (Zz 5 ?_);refine u_ 1 bG_ rfl rfl rfl rfl rfl rfl (Zz 3 ?_);exact gN_ ⟨((X,a1,b1),((hj_ (tyL s.ks c.facts)),e2,e9),((hj_ (liL c.facts)),e7,e4),((hj_ (List.flatMap (lat (dv_ p c.facts)) X)),a9,d4),((hj_ (raL s.ks c.facts)),f0,e6)),⟨⟨xx_ hAs▸e0,⟨ic_ _,fun z=>by rw[id_,tyL,List.mem_filter,Bool.and_eq_true,decide_eq_true_eq,decide_eq_true_eq,hs]⟩,⟨ic_ _,fun z=>by rw[id_,liL,List.mem_filter,Bool.and_eq_true,Bool.and_eq_true,decide_eq_true_eq,Bool.not_eq_true',Bool.not_eq_true']⟩,⟨ic_ _,fun z=>by rw[id_,List.mem_flatMap];exact⟨fun⟨q,a8,a7⟩=>⟨q,a8,bL_.1 a7⟩,fun⟨q,a8,a7⟩=>⟨q,a8,bL_.2 a7⟩⟩⟩,⟨ic_ _,fun z=>by rw[id_,raL,List.mem_filter,Bool.and_eq_true,decide_eq_true_eq,decide_eq_true_eq,hs]⟩⟩,g1,⟨b4,d2,c1⟩,⟨b9,d7,d9⟩,⟨b6,b7,b5⟩,b8,d0,d1⟩⟩ (fun aa v a8 a7=>ed_ (us:=[.slice a1 (List.length X) b1,.slice e2 (List.length (hj_ (tyL s.ks c.facts))) e9,.slice e7 (List.length (hj_ (liL c.facts))) e4,.slice a9 (List.length (hj_ (List.flatMap (lat (dv_ p c.facts)) X))) d4,.slice f0 (List.length (hj_ (raL s.ks c.facts))) e6,.slice none 0 0]) 1 Tryz.results34 ge_ bG_ rfl rfl rfl aa v a8 a7) m_ zf
   have A:j<List.length c.facts:=by omega
   obtain⟨B,d⟩:∃ f1,c.facts[j]? = some f1:=⟨_,List.getElem?_eq_getElem A⟩;have hmf_1:B∈c.facts:=List.mem_of_getElem? d;refine Zz 12 ?_;refine G_ X_ rfl fun b_4=>u_ 0 y_ rfl rfl rfl rfl rfl rfl (Zi 7 (fun c0=>?_) fun c0=>?_)
   ·refine Zi 14 (fun U=>?_) fun U=>?_
    ·refine Zi 20 (fun W=>?_) fun W=>?_
     ·exact et_
     refine Zz 8 ?_;refine B_ (ar_ (bs_ (k:=B.a) (q:=s.ks) bo_ M_ az_ rfl rfl s.hE (fun v h _=>(h.own _ (List.mem_of_getElem? (i:=1) rfl)).1)) (show _=Value.bool (decide (B.a∈s.ks)) from congrArg Value.bool (decide_eq_decide.2 Iff.rfl))) rfl fun a5 P=>Zz 4 ?_
     cases a5
     ·replace P:=zdf P
      exact es_
     replace P:=zdt P;refine Zz 5 ?_;refine U_ w_ y_ X_ rfl rfl rfl rfl rfl rfl fun a0=>?_;refine an_ (news:=List.flatMap Fc.cells [B]) eb_ E rfl rfl (c_ (c_ (c_ (c_ (c_ (f_ aP_)))))) rfl (aO_ 0 rfl) (fun u T=>aA_ Fc.cells_one T) zc_ zf_ rfl fun G H d3=>?_;have x:=zsa d3;exact eu_
    refine Zz 6 ?_;refine T_ (bM_ B.a) rfl m_ zt rfl fun a5 W=>aR_ rfl rfl (e_ (ax_ rfl) rfl (Zz 2 ?_))
    cases a5
    ·refine Zz 5 ?_
     refine T_ (bM_ B.b) rfl m_ zt rfl fun a3 P=>aR_ rfl rfl (e_ (ax_ rfl) rfl (Zz 4 ?_))
     cases a3
     ·refine Zz 5 ?_
      refine U_ w_ y_ X_ rfl rfl rfl rfl rfl rfl fun a0=>?_;refine an_ (news:=List.flatMap Fc.cells [B]) eb_ C rfl rfl (c_ (c_ (c_ (c_ (c_ (f_ t_)))))) rfl (aO_ 0 rfl) (fun u T=>aA_ Fc.cells_one T) zc_ zf_ rfl fun G H V=>?_;have x:=zsa V;exact le_
     refine Zi 5 (fun M=>?_) fun M=>?_
     ·exact et_
     refine Zz 8 ?_;refine B_ (ar_ (bs_ (k:=B.a) (q:=s.ks) bo_ M_ az_ rfl rfl s.hE (fun v h _=>(h.own _ (List.mem_of_getElem? (i:=1) rfl)).1)) (show _=Value.bool (decide (B.a∈s.ks)) from congrArg Value.bool (decide_eq_decide.2 Iff.rfl))) rfl fun c2 L=>Zz 4 ?_
     cases c2
     ·replace L:=zdf L
      exact es_
     replace L:=zdt L;refine Zz 5 ?_;refine U_ w_ y_ X_ rfl rfl rfl rfl rfl rfl fun a0=>?_;refine an_ (news:=List.flatMap Fc.cells [B]) eb_ E rfl rfl (c_ (c_ (c_ (c_ (c_ (f_ aP_)))))) rfl (aO_ 0 rfl) (fun u T=>aA_ Fc.cells_one T) zc_ zf_ rfl fun G H S=>?_;have x:=zsa S;exact eu_
    refine Zi 13 (fun P=>?_) fun P=>?_
    ·exact et_
    refine Zz 8 ?_;refine B_ (ar_ (bs_ (k:=B.a) (q:=s.ks) bo_ M_ az_ rfl rfl s.hE (fun v h _=>(h.own _ (List.mem_of_getElem? (i:=1) rfl)).1)) (show _=Value.bool (decide (B.a∈s.ks)) from congrArg Value.bool (decide_eq_decide.2 Iff.rfl))) rfl fun a3 M=>Zz 4 ?_
    cases a3
    ·replace M:=zdf M
     exact es_
    replace M:=zdt M;refine Zz 5 ?_;refine U_ w_ y_ X_ rfl rfl rfl rfl rfl rfl fun a0=>?_;refine an_ (news:=List.flatMap Fc.cells [B]) eb_ E rfl rfl (c_ (c_ (c_ (c_ (c_ (f_ aP_)))))) rfl (aO_ 0 rfl) (fun u T=>aA_ Fc.cells_one T) zc_ zf_ rfl fun G H c0=>?_;have x:=zsa c0;exact eu_
   refine Zz 8 ?_;refine B_ (ar_ (bs_ (k:=B.a) (q:=s.ks) bo_ M_ az_ rfl rfl s.hE (fun v h _=>(h.own _ (List.mem_of_getElem? (i:=1) rfl)).1)) (show _=Value.bool (decide (B.a∈s.ks)) from congrArg Value.bool (decide_eq_decide.2 Iff.rfl))) rfl fun a5 U=>Zz 4 ?_
   cases a5
   ·replace U:=zdf U
    refine Zi 5 (fun W=>?_) fun W=>?_
    ·refine Zi 20 (fun P=>?_) fun P=>?_
     ·exact et_
     refine Zz 8 ?_;refine B_ (ar_ (bs_ (k:=B.a) (q:=s.ks) bo_ M_ az_ rfl rfl s.hE (fun v h _=>(h.own _ (List.mem_of_getElem? (i:=1) rfl)).1)) (show _=Value.bool (decide (B.a∈s.ks)) from congrArg Value.bool (decide_eq_decide.2 Iff.rfl))) rfl fun a3 M=>Zz 4 ?_
     cases a3
     ·replace M:=zdf M
      exact es_
     replace M:=zdt M;refine Zz 5 ?_;refine U_ w_ y_ X_ rfl rfl rfl rfl rfl rfl fun a0=>?_;refine an_ (news:=List.flatMap Fc.cells [B]) eb_ E rfl rfl (c_ (c_ (c_ (c_ (c_ (f_ aP_)))))) rfl (aO_ 0 rfl) (fun u T=>aA_ Fc.cells_one T) zc_ zf_ rfl fun G H L=>?_;have x:=zsa L;exact eu_
    refine Zz 6 ?_;refine T_ (bM_ B.a) rfl m_ zt rfl fun a3 P=>aR_ rfl rfl (e_ (ax_ rfl) rfl (Zz 2 ?_))
    cases a3
    ·refine Zz 5 ?_
     refine T_ (bM_ B.b) rfl m_ zt rfl fun c2 M=>aR_ rfl rfl (e_ (ax_ rfl) rfl (Zz 4 ?_))
     cases c2
     ·refine Zz 5 ?_
      refine U_ w_ y_ X_ rfl rfl rfl rfl rfl rfl fun a0=>?_;refine an_ (news:=List.flatMap Fc.cells [B]) eb_ C rfl rfl (c_ (c_ (c_ (c_ (c_ (f_ t_)))))) rfl (aO_ 0 rfl) (fun u T=>aA_ Fc.cells_one T) zc_ zf_ rfl fun G H L=>?_;have x:=zsa L;exact le_
     refine Zi 5 (fun L=>?_) fun L=>?_
     ·exact et_
     refine Zz 8 ?_;refine B_ (ar_ (bs_ (k:=B.a) (q:=s.ks) bo_ M_ az_ rfl rfl s.hE (fun v h _=>(h.own _ (List.mem_of_getElem? (i:=1) rfl)).1)) (show _=Value.bool (decide (B.a∈s.ks)) from congrArg Value.bool (decide_eq_decide.2 Iff.rfl))) rfl fun r_4 R=>Zz 4 ?_
     cases r_4
     ·replace R:=zdf R
      exact es_
     replace R:=zdt R;refine Zz 5 ?_;refine U_ w_ y_ X_ rfl rfl rfl rfl rfl rfl fun a0=>?_;refine an_ (news:=List.flatMap Fc.cells [B]) eb_ E rfl rfl (c_ (c_ (c_ (c_ (c_ (f_ aP_)))))) rfl (aO_ 0 rfl) (fun u T=>aA_ Fc.cells_one T) zc_ zf_ rfl fun G H f7=>?_;have x:=zsa f7;exact eu_
    refine Zi 13 (fun M=>?_) fun M=>?_
    ·exact et_
    refine Zz 8 ?_;refine B_ (ar_ (bs_ (k:=B.a) (q:=s.ks) bo_ M_ az_ rfl rfl s.hE (fun v h _=>(h.own _ (List.mem_of_getElem? (i:=1) rfl)).1)) (show _=Value.bool (decide (B.a∈s.ks)) from congrArg Value.bool (decide_eq_decide.2 Iff.rfl))) rfl fun c2 L=>Zz 4 ?_
    cases c2
    ·replace L:=zdf L
     exact es_
    replace L:=zdt L;refine Zz 5 ?_;refine U_ w_ y_ X_ rfl rfl rfl rfl rfl rfl fun a0=>?_;refine an_ (news:=List.flatMap Fc.cells [B]) eb_ E rfl rfl (c_ (c_ (c_ (c_ (c_ (f_ aP_)))))) rfl (aO_ 0 rfl) (fun u T=>aA_ Fc.cells_one T) zc_ zf_ rfl fun G H R=>?_;have x:=zsa R;exact eu_
   replace U:=zdt U;refine Zz 5 ?_;refine U_ w_ y_ X_ rfl rfl rfl rfl rfl rfl fun a0=>?_;refine an_ (news:=List.flatMap Fc.cells [B]) eb_ F rfl rfl (c_ (c_ (c_ (c_ (c_ t_))))) rfl (aO_ 0 rfl) (fun u T=>aA_ Fc.cells_one T) zc_ zf_ rfl fun G H W=>?_;have x:=zsa W;refine Zz 1 ?_;refine z_ (S_ (f_ d_) (S_ (f_ d_) (S_ (f_ d_) (S_ (f_ d_) (bb_ (f_ d_)))))) (dm_ 3 x ci_ rfl rfl rfl rfl (Zz 7 ?_));exact x_ ⟨(j+1,G,H,J,O,K,Q),A,(by have e:tyL s.ks (List.take (j+1) c.facts)=((tyL s.ks (List.take j c.facts))++[B]):=(by unfold tyL;rw[tk1 d,List.filter_append];simp_all);rw[e];exact x),zx_,zv_⟩ zb_ zl (j_ (c_ (c_ d_)) (j_ (c_ (c_ d_)) (j_ (c_ (c_ d_)) (A_ (c_ (c_ t_)) (A_ (c_ (c_ t_)) (c_ C_)))))) zh
  obtain⟨f6,a4,e5,hmx_1⟩:=zge (show m<List.length X by omega);have hlk:=dx_ (dv_ p c.facts) a4;have hdl:=it_ (p:=p) c.facts;have hml:=Nat.mul_le_mul hF hp;refine Zz 19 ?_;refine dM_ 0 s bo_ (.inr rfl) M_ rfl rfl rfl rfl (Zz 7 ?_);refine e_ (bC_ (k:=a4) (adr:=adr) bo_ iW_ dR_ rfl rfl zf) rfl (fr_ (news:=List.flatMap Fc.cells (lat (dv_ p c.facts) a4)) eb_ b0 rfl rfl (e3 a4).2 (e3 a4).1 (c_ (c_ C_)) (by rw[dr_ Fc.cells 6 Fc.cells_len]) (fun v _ h=>by exact (aV_ h.2.2.2.1 a4)) (fun u T=>aA_ Fc.cells_one T) zc_ zf_ rfl fun G H S=>?_);refine z_ List.perm_append_comm ?_;have x:=zsa S;refine Zz 1 ?_;refine dm_ 1 x ci_ rfl rfl rfl rfl (Zz 7 ?_);exact x_ ⟨(m+1,(StM.add s a4),G,H),f6,(by intro n;rw[StM.mem,hs n,tk1 e5];simp),(by rw[tk1 e5,List.flatMap_append];simpa using x)⟩ zb_ zl zp zh
 have a6:i<List.length c.atoms:=by omega
 obtain⟨e1,d8⟩:∃ f1,c.atoms[i]? = some f1:=⟨_,List.getElem?_eq_getElem a6⟩;have hms_1:e1∈c.atoms:=List.mem_of_getElem? d8;refine Zz 18 ?_;refine T_ (bM_ e1) rfl m_ zt rfl fun a5 V=>e_ (ax_ rfl) rfl (Zz 2 ?_)
 cases a5
 ·refine Zz 4 ?_
  refine U_ l_ E_ av_ rfl rfl rfl rfl rfl rfl fun d5=>?_;refine an_ (news:=List.flatMap af_ [e1]) cB_ Z rfl rfl zp rfl (aO_ 0 rfl) (fun u T=>aA_ ch_ T) zc_ zf_ rfl fun G H S=>?_;refine z_ List.perm_append_comm ?_;have x:=zsa S;refine Zz 8 ?_;exact x_ ⟨(i+1,G,H),a6,(by have e:ef_ (List.take (i+1) c.atoms)=((ef_ (List.take i c.atoms))++[e1]):=zaF_;rw[e];exact x)⟩ zb_ zl (j_ (c_ d_) (j_ (c_ d_) C_)) zh
 refine Zz 8 ?_;exact x_ ⟨(i+1,sv_Q,H_Q),a6,(by have e:ef_ (List.take (i+1) c.atoms)=(ef_ (List.take i c.atoms)):=zaF_;rw[e];exact Z)⟩ zb_ zl (j_ d_ (j_ d_ ac_)) zh
theorem wE_:hN_ Tryz.prog 144 [(0,1),(1,1),(2,1)] [.int .i64 0,.int .i64 0,.slice none 0 0]:=⟨_,Tryz.zeroValue144,cw_,fun w=>by simp[ak_,bO_]⟩
theorem lM_ (s:Str) (l:List Str) (b:Nat) (n r:Int) (sv:Value) (Hr:Hp) (F:zR 9 1 af_ sv l Hr) (hl:l.length≤1000000):Tri Tryz.prog 91 #[zp_ b 0,str s] ((b,.cells #[.int .i64 n,.int .i64 r,sv] 144 (0,0))::Hr) [] (fun y:{y:List Str×Value×Hp // zR 9 1 af_ y.2.1 y.1 y.2.2∧y.1.length≤l.length+1}=>.tuple #[]) (fun y=>(b,.cells #[.int .i64 n,.int .i64 r,y.1.2.1] 144 (0,0))::y.1.2.2) (fun _=>[]):=by
 refine i_ Tryz.func91 rfl rfl Tryz.ntmps91 rfl fun I=>?_;refine Zz 7 ?_;refine L_ (ι:={y:Nat×Value×Hp // y.1≤List.length l∧zR 9 1 af_ y.2.1 l y.2.2}) (fun y=>[(0,zp_ b 0),(1,str s),(4,.int .i64 (y.1.1:Int))]) (fun y=>((b,.cells #[.int .i64 n,.int .i64 r,y.1.2.1] 144 (0,0))::y.1.2.2)) (fun y=>[]) (fun y=>List.length l - y.1.1) ⟨((0:Nat),sv,Hr),by simp,F⟩ zl zp zt ?_;rintro ⟨⟨i,k,B⟩,A,d⟩;dsimp only at A d ⊢;refine Zz 8 ?_;refine e_ (dF_ d l_ rfl) rfl ?_;refine Zi 0 (fun e=>?_) fun e=>?_
 ·refine Zz 12 ?_
  refine U_ l_ E_ av_ rfl rfl rfl rfl rfl rfl fun J=>?_;refine an_ (news:=List.flatMap af_ [s]) cB_ d rfl rfl zp rfl (aO_ 0 rfl) (fun u G=>aA_ ch_ G) zm_ za_ rfl fun q x e=>?_;refine z_ List.perm_append_comm ?_;have h:=zsa e;refine Zz 2 ?_;refine dm_ 1 h bO_ rfl rfl rfl rfl (Zz 2 ?_);exact cl_ Tryz.results91 ⟨((l++[s]),q,x),h,by first|omega|(simp only[List.length_append,List.length_cons,List.length_nil];omega)⟩ rfl (j_ (c_ d_) C_) zt
 obtain⟨m,H,C,E⟩:=zge (show i<List.length l by omega);refine Zz 14 ?_;refine e_ (bE_ d l_ E_ rfl rfl za_ za_) rfl (e_ (cC_ d C_ W_ rfl (o_ aq_ C 0 _ rfl)) rfl (Zi 1 (fun v=>?_) fun v=>?_))
 ·refine Zz 11 ?_
  exact x_ ⟨(i+1,k,B),m,d⟩ zb_ zl zp zt
 refine Zz 4 ?_;exact ret0 Tryz.results91 ⟨(l,k,B),d,by first|omega|(simp only[List.length_append,List.length_cons,List.length_nil];omega)⟩ rfl zp zt
theorem szs_take_le:∀ (l:List Con) (i:Nat),Con.sz.szs (l.take i)≤Con.sz.szs l
  | [],i=>by simp
  | c::l,0=>by simp[Con.sz.szs]
  | c::l,i+1=>by
    have:=szs_take_le l i;simp only[List.take_succ_cons,Con.sz.szs];omega
theorem mg_:∀ (m:Nat) (c:Con),c.sz≤m→c.ok→∀ (b:Nat) (n r:Int) (l:List Str) (sv:Value) (Hr:Hp),zR 9 1 af_ sv l Hr→(0≤n∧0≤r∧n+c.sz≤100000∧r+c.sz≤100000∧l.length+c.sz≤100000)→Tri Tryz.prog 90 #[zp_ b 0,Con.val c] ((b,.cells #[.int .i64 n,.int .i64 r,sv] 144 (0,0))::Hr) [Con.memF c] (fun y:{y:Int×Int×List Str×Value×Hp // zR 9 1 af_ y.2.2.2.1 y.2.2.1 y.2.2.2.2∧(n≤y.1∧y.1≤n+c.sz)∧(r≤y.2.1∧y.2.1+n≤r+y.1)∧y.2.2.1.length≤l.length+c.sz}=>.tuple #[]) (fun y=>(b,.cells #[.int .i64 y.1.1,.int .i64 y.1.2.1,y.1.2.2.2.1] 144 (0,0))::y.1.2.2.2.2) (fun _=>[]):=by
 intro m
 induction m with
 | zero=>intro c h;have:=c.sz_pos;omega
 | succ m ih =>
   intro c hm P b n r l sv Hr hr hbd;have hnl:=Con.ok_name P;have hpl:=Con.ok_len P;have hsp:=c.sz_pos;have hse:=Con.sz_eq c;refine i_ Tryz.func90 rfl rfl Tryz.ntmps90 rfl fun v_1=>?_;refine Zz 2 ?_;refine aa_ rfl rfl fun B=>Zz 7 ?_
   refine B_ (bJ_ rfl rfl) rfl fun r_1 e=>Zz 1 ?_
   refine ai_ 5 (((Con.kind c)==0)&&((List.length (Con.parts c):Int)==0)) (fun r=>[(0,zp_ b 0),(3,zp_ B 0),(13,.bool r)]) ?_ fun I x=>?_
   · skip
     cases r_1
     · skip
       have d:=e;replace e:=znb e;refine Zz 7 ?_;exact met ⟨rfl,rfl,(n_ rfl (jaf d)),trivial⟩
     · skip
       have d:=e;replace e:=zeb e;refine Zz 7 ?_;refine B_ (bJ_ rfl rfl) rfl fun L F=>Zz 3 ?_
       exact met ⟨rfl,rfl,(n_ rfl (jat d F)),trivial⟩
   · skip
     refine Zz 1 ?_;refine ai_ 4 (((((Con.kind c)==0)&&((List.length (Con.parts c):Int)==0)))&&((Con.name c)==[])) (fun r=>[(0,zp_ b 0),(3,zp_ B 0),(18,.bool r)]) ?_ fun L F=>?_
     · skip
       cases I
       · skip
         have d:=x;simp at x
         refine Zz 6 ?_;exact met ⟨rfl,rfl,(n_ rfl (jaf d)),trivial⟩
       · skip
         have d:=x;simp at x
         refine Zz 5 ?_;refine B_ (cT_ rfl rfl) rfl fun a1 A=>Zz 3 ?_
         exact met ⟨rfl,rfl,(n_ rfl (jat d A)),trivial⟩
     · skip
       refine Zz 2 ?_;cases L
       · skip
         simp at F
         refine Zz 13 ?_;refine u_ 1 ak_ rfl rfl rfl rfl rfl rfl (Zz 7 ?_);refine B_ (bJ_ rfl rfl) rfl fun a1 A=>Zz 2 ?_
         refine hm_ (ι:={y:Int // (r≤y∧y≤r+1)}) (fun y=>[(0,zp_ b 0),(3,zp_ B 0)]) (fun y=>((B,.cells (Con.cells c).toArray 40 (0,0))::((b,.cells #[.int .i64 (n+1),.int .i64 y.1,sv] 144 (0,0))::Hr))) (fun y=>[Con.memF c]) ?_ ?_
         · skip
           cases a1
           · skip
             replace A:=znb A;refine Zz 3 ?_;exact dn_ ⟨r,zw_⟩ zl zp zf
           · skip
             replace A:=zeb A;refine Zz 10 ?_;refine u_ 1 ak_ rfl rfl rfl rfl rfl rfl (Zz 2 ?_);exact dn_ ⟨(r+1),zw_⟩ zl zp zf
         · skip
           rintro ⟨I,x⟩;dsimp only at x ⊢;refine Zz 6 ?_;refine B_ (bJ_ rfl rfl) rfl fun a8 E=>Zz 2 ?_
           refine hm_ (ι:={y:List Str×Value×Hp // List.length y.1≤List.length l+1∧zR 9 1 af_ y.2.1 y.1 y.2.2}) (fun y=>[(0,zp_ b 0),(3,zp_ B 0)]) (fun y=>((B,.cells (Con.cells c).toArray 40 (0,0))::((b,.cells #[.int .i64 (n+1),.int .i64 I,y.1.2.1] 144 (0,0))::y.1.2.2))) (fun y=>[Con.memF c]) ?_ ?_
           · skip
             cases a8
             · skip
               replace E:=znb E;refine Zz 3 ?_;exact dn_ ⟨(l,sv,Hr),zw_,hr⟩ zl zp zf
             · skip
               replace E:=zeb E;refine Zz 5 ?_;refine g_ (lM_ (Con.name c) l b (n+1) I sv Hr hr za_) rfl zp zt rfl fun⟨⟨a6,R,J⟩,O,X⟩=>?_;dsimp only;dsimp only at O X;refine Zz 2 ?_;exact dn_ ⟨(a6,R,J),zw_,O⟩ zl zp zf
           · skip
             rintro ⟨⟨l_1,G,K⟩,V,k⟩;dsimp only at V k ⊢;refine Zz 7 ?_;refine L_ (ι:={y:Nat×Int×Int×List Str×Value×Hp // y.1≤List.length (Con.parts c)∧(n≤y.2.1∧y.2.1≤n+((1+Con.sz.szs (List.take y.1 (Con.parts c)):Nat):Int)∧r≤y.2.2.1∧y.2.2.1+n≤r+y.2.1∧List.length y.2.2.2.1≤List.length l+(1+Con.sz.szs (List.take y.1 (Con.parts c))))∧zR 9 1 af_ y.2.2.2.2.1 y.2.2.2.1 y.2.2.2.2.2}) (fun y=>[(0,zp_ b 0),(3,zp_ B 0),(4,.int .i64 (y.1.1:Int))]) (fun y=>((B,.cells (Con.cells c).toArray 40 (0,0))::((b,.cells #[.int .i64 y.1.2.1,.int .i64 y.1.2.2.1,y.1.2.2.2.2.1] 144 (0,0))::y.1.2.2.2.2.2))) (fun y=>[Con.memF c]) (fun y=>List.length (Con.parts c) - y.1.1) ⟨((0:Nat),(n+1),I,l_1,G,K),by simp,(by simp only[List.take_zero,Con.sz.szs];omega),k⟩ zl zp zh ?_;rintro ⟨⟨i,S,Y,a2,G,K⟩,a4,W,k⟩;dsimp only at a4 W k ⊢;refine Zz 7 ?_;refine B_ (cY_ rfl rfl) rfl fun a9 q=>Zz 1 ?_
             refine ai_ 6 ((decide ((i:Int)<(List.length (Con.parts c):Int)))&&(decide (S≤1000))) (fun r=>[(0,zp_ b 0),(3,zp_ B 0),(4,.int .i64 (i:Int)),(56,.bool r)]) ?_ fun b0 M=>?_
             · skip
               cases a9
               · skip
                 have d:=q;replace q:=zdf q;refine Zz 8 ?_;exact met ⟨rfl,rfl,rfl,(n_ rfl (jaf d)),trivial⟩
               · skip
                 have d:=q;replace q:=zdt q;refine Zz 9 ?_;refine B_ (de_ rfl rfl) rfl fun r_9 T=>Zz 3 ?_
                 exact met ⟨rfl,rfl,rfl,(n_ rfl (jat d T)),trivial⟩
             · skip
               refine Zz 2 ?_;cases b0
               · skip
                 simp at M
                 refine Zz 3 ?_;exact cl_ Tryz.results90 ⟨(S,Y,a2,G,K),k,by dsimp only;have:=Con.sz_eq c;have a0:=szs_take_le (Con.parts c) i;omega⟩ rfl (j_ (c_ d_) C_) zt
               · skip
                 simp at M
                 obtain⟨Q,a3,H,C⟩:=zge (show i<List.length (Con.parts c) by omega);refine Zz 10 ?_;refine e_ (Q_ ad_ I_ rfl rfl (fun v _ h=>as_ (n:=5) Con.cells_len ze_ (by exact ((Con.mem_iff c v).1 h.1).1) H) za_ zh_) rfl ?_;refine e_ (aj_ (ad:=(Con.ad c)) (us:=Con.cells a3) aH_ I_ rfl (fun v _ h=>by exact ((Con.mem_iff c v).1 h.1).1) (Con.cells_len _) (o_ Con.cells_len H)) rfl (g_ (ih a3 (by have:=Con.sz_part C;omega) (Con.ok_part P C) b S Y a2 G K k (by have hst:=Con.szs_step H;have a0:=szs_take_le (Con.parts c) (i+1);omega)) rfl (j_ (c_ d_) C_) (fun v _ h=>by exact⟨(Con.mem_part (c:=c) h.1 C),trivial⟩) rfl fun⟨⟨n_2,L,l_3,Z,J⟩,N,a5,a7,U⟩=>?_);dsimp only;dsimp only at N a5 a7 U;refine Zz 2 ?_;refine z_ (S_ d_ (bb_ aP_)) (Zz 6 ?_);exact x_ ⟨(i+1,n_2,L,l_3,Z,J),Q,(by have hst:=Con.szs_step H;dsimp only;omega),N⟩ zb_ zl (j_ (c_ d_) (j_ d_ ac_)) zh
       · skip
         simp at F
         refine Zz 2 ?_;exact ret0 Tryz.results90 ⟨(n,r,l,sv,Hr),hr,by dsimp only;have:=Con.sz_eq c;have a0:=szs_take_le (Con.parts c) 0;omega⟩ rfl (j_ (c_ d_) C_) zt
structure AL where
  l:List Ax
  ad:Option Addr
  cap:Nat
def AL.cells (x:AL):List Value:=[.slice x.ad x.l.length x.cap]
theorem AL.cells_len (x:AL):x.cells.length=1:=rfl
structure AL.ok (x:AL):Prop where
  len:x.l.length≤2199023255488
  ok:∀ a∈x.l,a.ok
def alF (xs:List AL):Fct where
  p v:=∀ x∈xs,(eg_ x.ad x.l).p v
  mono:=fun v v' h hp x hx=>(eg_ x.ad x.l).mono v v' h (hp x hx)
theorem er_ {G:Prop} (h:G:=by
 exact ae_ Tryz.results44 false rfl m_ zt):G:=h
theorem kJ_ {G:Prop} (h:G:=by
 rintro ⟨⟨b0,A,I⟩,S,d⟩;dsimp only at S d ⊢;refine Zz 7 ?_;exact x_ ⟨(j+1,b0,(bg++[46])++O,A,I),a9,zb_,(by have:=K.roles O T;simp only[List.length_append,List.length_cons,List.length_nil];omega),d⟩ zb_ zl (j_ d_ (j_ d_ ac_)) zh):G:=h
theorem vk_ (F:List AL) (B:Option Addr) (H:Nat) (e3:∀ x∈F,AL.ok x) (hl:F.length≤1000):Tri Tryz.prog 44 #[.slice B (List.length F) H,.int .i64 40] [] [ah_ B (List.flatMap AL.cells F),alF F] (fun b:Bool=>.bool b) (fun _=>[]) (fun _=>[]):=by
 refine i_ Tryz.func44 rfl rfl Tryz.ntmps44 rfl fun v_1=>?_;refine Zz 7 ?_;refine e_ (H_ wE_ rfl rfl) rfl (aa_ rfl rfl fun q=>Zz 10 ?_);refine L_ (ι:={y:Nat×Int×Int×List Str×Value×Hp // y.1≤List.length F∧(0≤y.2.1∧0≤y.2.2.1∧y.2.2.1≤y.2.1∧y.2.1≤1000∧List.length y.2.2.2.1≤1000)∧zR 9 1 af_ y.2.2.2.2.1 y.2.2.2.1 y.2.2.2.2.2}) (fun y=>[(0,.slice B (List.length F) H),(1,.int .i64 40),(4,.bool false),(5,zp_ q 0),(6,.int .i64 (y.1.1:Int))]) (fun y=>((q,.cells #[.int .i64 y.1.2.1,.int .i64 y.1.2.2.1,y.1.2.2.2.2.1] 144 (0,0))::y.1.2.2.2.2.2)) (fun y=>[ah_ B (List.flatMap AL.cells F),alF F]) (fun y=>List.length F - y.1.1) ⟨((0:Nat),0,0,([]:List Str),(.slice none 0 0),[]),by simp,(by first|exact a6|simp),(aw_.nil _ _)⟩ zl d_ zh ?_;rintro ⟨⟨i,n_1,r_1,l_1,A,I⟩,hi_i,a6,d⟩;dsimp only at hi_i a6 d ⊢;refine Zi 6 (fun d8=>?_) fun d8=>?_
 ·refine Zi 12 (fun a7=>?_) fun a7=>?_
  ·refine Zz 19 ?_
   exact er_
  refine Zi 10 (fun a3=>?_) fun a3=>?_
  ·refine Zz 13 ?_
   exact er_
  refine Zz 11 ?_;refine e_ (dF_ d l_ rfl) rfl (aR_ rfl rfl (B_ (de_ rfl rfl) rfl fun b1 b6=>Zz 5 ?_));exact ae_ Tryz.results44 b1 rfl m_ zt
 obtain⟨c2,G,hx_1,m⟩:=zge (show i<List.length F by omega);have hal:=(e3 G m).len;refine Zz 13 ?_;refine L_ (ι:={y:Nat×Int×Int×List Str×Value×Hp // y.1≤List.length (AL.l G)∧(0≤y.2.1∧0≤y.2.2.1∧y.2.2.1≤y.2.1∧y.2.1≤1000∧List.length y.2.2.2.1≤1000)∧zR 9 1 af_ y.2.2.2.2.1 y.2.2.2.1 y.2.2.2.2.2}) (fun y=>[(0,.slice B (List.length F) H),(1,.int .i64 40),(4,.bool false),(5,zp_ q 0),(6,.int .i64 (i:Int)),(7,.int .i64 (y.1.1:Int))]) (fun y=>((q,.cells #[.int .i64 y.1.2.1,.int .i64 y.1.2.2.1,y.1.2.2.2.2.1] 144 (0,0))::y.1.2.2.2.2.2)) (fun y=>[ah_ B (List.flatMap AL.cells F),alF F]) (fun y=>List.length (AL.l G) - y.1.1) ⟨((0:Nat),n_1,r_1,l_1,A,I),by simp,(by first|exact a6|simp),d⟩ zl zp zh ?_;rintro ⟨⟨k,n_2,b1,l_2,A,I⟩,e0,a4,d⟩;dsimp only at e0 a4 d ⊢;refine Zi 9 (fun a7=>?_) fun a7=>?_
 ·refine Zz 11 ?_
  exact x_ ⟨(i+1,n_2,b1,l_2,A,I),c2,(by first|exact a4|(dsimp only;omega)),d⟩ zb_ zl zp zh
 obtain⟨c0,e,b4,C⟩:=zge (show k<List.length (AL.l G) by omega);have K:=(e3 G m).ok e C;have hrl_1:=K.len;have hrc_1:=K.cap;refine Zz 14 ?_;refine e_ (Q_ aU_ br_ rfl rfl (fun v _ h=>as_ (n:=16) Ax.cells_len ze_ (by exact (h.2.1 G m).1) b4) za_ zh_) rfl ?_;refine e_ (aj_ (ad:=(AL.ad G)) (us:=Ax.cells e) rL_ br_ rfl (fun v _ h=>by exact (h.2.1 G m).1) (Ax.cells_len _) (o_ Ax.cells_len b4)) rfl (G_ cE_ rfl fun L=>u_ 0 br_ rfl rfl rfl rfl rfl rfl (Zi 10 (fun a3=>?_) fun a3=>?_))
 ·refine Zz 10 ?_
  refine e_ (dF_ d l_ rfl) rfl (aR_ rfl rfl ?_);refine Zi 0 (fun b6=>?_) fun b6=>?_
  ·refine Zi 9 (fun d3=>?_) fun d3=>?_
   ·refine Zz 5 ?_
    refine g_ (lv_ e K) rfl m_ (fun v _ h=>by exact⟨((h.2.1 G m).2 e C),trivial⟩) rfl fun⟨bf,hbf⟩=>?_;dsimp only;refine aR_ rfl rfl (e_ (ax_ rfl) rfl (Zz 3 ?_));cases bf
    ·refine Zz 7 ?_
     exact er_
    have a2:=hbf rfl;have hfl:=a2.left;have hfr:=a2.right;refine Zz 8 ?_;refine g_ (mg_ _ (Ax.left e) (Nat.le_refl _) K.left q n_2 b1 l_2 A I d (by have:=a2.left;have:=a2.right;omega)) rfl (j_ (c_ d_) C_) (fun v _ h=>by exact⟨((h.2.1 G m).2 e C).1,trivial⟩) rfl fun⟨⟨nw_1,d5,lw_1,d2,d9⟩,b7,d4,hy1c,e6⟩=>?_;dsimp only;dsimp only at b7 d4 hy1c e6;refine Zz 2 ?_;refine z_ (S_ d_ (bb_ aP_)) (Zz 5 ?_);refine g_ (mg_ _ (Ax.right e) (Nat.le_refl _) K.right q nw_1 d5 lw_1 d2 d9 b7 (by have:=a2.left;have:=a2.right;omega)) rfl (j_ d_ C_) (fun v _ h=>by exact⟨((h.2.1 G m).2 e C).2.1,trivial⟩) rfl fun⟨⟨a0,E,a8,P,Z⟩,a5,hy2b,hy2c,hy2d⟩=>?_;dsimp only;dsimp only at a5 hy2b hy2c hy2d;refine Zz 3 ?_;refine z_ (S_ d_ (bb_ aP_)) (Zz 4 ?_);refine B_ (cF_ rfl rfl) rfl fun r_3 Y=>Zz 2 ?_
    refine hm_ (ι:={y:Int // (a0≤y∧y≤a0+1)}) (fun y=>[(0,.slice B (List.length F) H),(1,.int .i64 40),(4,.bool false),(5,zp_ q 0),(6,.int .i64 (i:Int)),(7,.int .i64 (k:Int)),(8,zp_ L 0)]) (fun y=>((L,.cells (Ax.cells e).toArray 42 (0,0))::((q,.cells #[.int .i64 y.1,.int .i64 E,P] 144 (0,0))::Z))) (fun y=>[ah_ B (List.flatMap AL.cells F),alF F]) ?_ ?_
    ·cases r_3
     ·replace Y:=fi_ Y
      refine Zz 3 ?_;exact dn_ ⟨a0,zw_⟩ zl zp zf
     replace Y:=fg_ Y;refine Zz 10 ?_;refine u_ 0 ak_ rfl rfl rfl rfl rfl rfl (Zz 2 ?_);exact dn_ ⟨(a0+1),zw_⟩ zl (j_ (c_ d_) (j_ d_ ac_)) zf
    rintro ⟨a1,b9⟩;dsimp only at b9 ⊢;refine Zz 6 ?_;refine B_ (cF_ rfl rfl) rfl fun r_4 W=>Zz 2 ?_
    refine hm_ (ι:={y:Int // (a1≤y∧y≤a1+1)}) (fun y=>[(0,.slice B (List.length F) H),(1,.int .i64 40),(4,.bool false),(5,zp_ q 0),(6,.int .i64 (i:Int)),(7,.int .i64 (k:Int)),(8,zp_ L 0)]) (fun y=>((L,.cells (Ax.cells e).toArray 42 (0,0))::((q,.cells #[.int .i64 y.1,.int .i64 E,P] 144 (0,0))::Z))) (fun y=>[ah_ B (List.flatMap AL.cells F),alF F]) ?_ ?_
    ·cases r_4
     ·replace W:=fi_ W
      refine Zz 3 ?_;exact dn_ ⟨a1,zw_⟩ zl zp zf
     replace W:=fg_ W;refine Zz 10 ?_;refine u_ 1 ak_ rfl rfl rfl rfl rfl rfl (Zz 2 ?_);exact dn_ ⟨(a1+1),zw_⟩ zl zp zf
    rintro ⟨J,d1⟩;dsimp only at d1 ⊢;refine Zz 6 ?_;refine B_ (cF_ rfl rfl) rfl fun r_5 U=>Zz 2 ?_
    refine hm_ (ι:={y:List Str×Value×Hp // List.length y.1≤List.length a8+1∧zR 9 1 af_ y.2.1 y.1 y.2.2}) (fun y=>[(0,.slice B (List.length F) H),(1,.int .i64 40),(4,.bool false),(5,zp_ q 0),(6,.int .i64 (i:Int)),(7,.int .i64 (k:Int)),(8,zp_ L 0)]) (fun y=>((L,.cells (Ax.cells e).toArray 42 (0,0))::((q,.cells #[.int .i64 J,.int .i64 E,y.1.2.1] 144 (0,0))::y.1.2.2))) (fun y=>[ah_ B (List.flatMap AL.cells F),alF F]) ?_ ?_
    ·cases r_5
     ·replace U:=fi_ U
      refine Zz 3 ?_;exact dn_ ⟨(a8,P,Z),zw_,a5⟩ zl zp zf
     replace U:=fg_ U;refine Zz 5 ?_;refine g_ (lM_ (Ax.role e) a8 q J E P Z a5 za_) rfl zp zt rfl fun⟨⟨N,M,R⟩,b3,d6⟩=>?_;dsimp only;dsimp only at b3 d6;refine Zz 2 ?_;exact dn_ ⟨(N,M,R),zw_,b3⟩ zl zp zf
    rintro ⟨⟨b2,A,I⟩,d0,d⟩;dsimp only at d0 d ⊢;refine Zz 12 ?_;refine L_ (ι:={y:Nat×List Str×Str×Value×Hp // y.1≤List.length (Ax.roles e)∧List.length y.2.1≤List.length b2+2*y.1∧List.length y.2.2.1≤140737488351300*y.1∧zR 9 1 af_ y.2.2.2.1 y.2.1 y.2.2.2.2}) (fun y=>[(0,.slice B (List.length F) H),(1,.int .i64 40),(4,.bool false),(5,zp_ q 0),(6,.int .i64 (i:Int)),(7,.int .i64 (k:Int)),(8,zp_ L 0),(9,str y.1.2.2.1),(10,.int .i64 (y.1.1:Int))]) (fun y=>((L,.cells (Ax.cells e).toArray 42 (0,0))::((q,.cells #[.int .i64 J,.int .i64 E,y.1.2.2.2.1] 144 (0,0))::y.1.2.2.2.2))) (fun y=>[ah_ B (List.flatMap AL.cells F),alF F]) (fun y=>List.length (Ax.roles e) - y.1.1) ⟨((0:Nat),b2,([]:Str),A,I),by simp,zj_,zj_,d⟩ zl zp zh ?_;rintro ⟨⟨j,l_3,bg,A,I⟩,hi_j,d7,hbg,d⟩;dsimp only at hi_j d7 hbg d ⊢;refine Zi 7 (fun hr_9=>?_) fun hr_9=>?_
    ·refine Zz 11 ?_
     exact x_ ⟨(k+1,J,E,l_3,A,I),c0,(by first|exact a4|(dsimp only;omega)),d⟩ zb_ zl zp zh
    obtain⟨a9,O,V,T⟩:=zge (show j<List.length (Ax.roles e) by omega);have hrl_2:=K.roles O T;refine Zz 13 ?_;refine e_ (Q_ l_ E_ rfl rfl (fun v _ h=>as_ (n:=1) aq_ ze_ (by exact ((h.2.1 G m).2 e C).2.2) V) za_ zh_) rfl ?_;refine e_ (bl_ (ad:=(Ax.ad e)) W_ rfl (fun v _ h=>by exact ((h.2.1 G m).2 e C).2.2) (o_ aq_ V 0 _ rfl)) rfl (g_ (lM_ O l_3 q J E A I d za_) rfl zp zt rfl fun⟨⟨N,M,R⟩,X,e2⟩=>?_);dsimp only;dsimp only at X e2;refine Zz 2 ?_;refine z_ (S_ d_ (bb_ aP_)) (Zz 3 ?_);refine e_ (em_ rfl rfl zr_) rfl ?_;refine Zz 3 ?_;refine e_ (Q_ l_ E_ rfl rfl (fun v _ h=>as_ (n:=1) aq_ ze_ (by exact ((h.2.1 G m).2 e C).2.2) V) za_ zh_) rfl ?_;refine e_ (bl_ (ad:=(Ax.ad e)) W_ rfl (fun v _ h=>by exact ((h.2.1 G m).2 e C).2.2) (o_ aq_ V 0 _ rfl)) rfl (e_ (em_ rfl rfl zr_) rfl ?_);refine Zi 6 (fun b8=>?_) fun b8=>?_
    ·refine Zz 10 ?_
     refine hm_ (ι:={y:List Str×Value×Hp // List.length y.1≤List.length N+1∧zR 9 1 af_ y.2.1 y.1 y.2.2}) (fun y=>[(0,.slice B (List.length F) H),(1,.int .i64 40),(4,.bool false),(5,zp_ q 0),(6,.int .i64 (i:Int)),(7,.int .i64 (k:Int)),(8,zp_ L 0),(9,str ((bg++[46])++O)),(10,.int .i64 (j:Int))]) (fun y=>((L,.cells (Ax.cells e).toArray 42 (0,0))::((q,.cells #[.int .i64 J,.int .i64 E,y.1.2.1] 144 (0,0))::y.1.2.2))) (fun y=>[ah_ B (List.flatMap AL.cells F),alF F]) ?_ ?_
     ·refine Zz 3 ?_
      exact dn_ ⟨(N,M,R),zw_,X⟩ zl zp zf
     exact kJ_
    refine Zz 12 ?_;refine B_ (cY_ rfl rfl) rfl fun r_6 Q=>Zz 3 ?_
    refine hm_ (ι:={y:List Str×Value×Hp // List.length y.1≤List.length N+1∧zR 9 1 af_ y.2.1 y.1 y.2.2}) (fun y=>[(0,.slice B (List.length F) H),(1,.int .i64 40),(4,.bool false),(5,zp_ q 0),(6,.int .i64 (i:Int)),(7,.int .i64 (k:Int)),(8,zp_ L 0),(9,str ((bg++[46])++O)),(10,.int .i64 (j:Int))]) (fun y=>((L,.cells (Ax.cells e).toArray 42 (0,0))::((q,.cells #[.int .i64 J,.int .i64 E,y.1.2.1] 144 (0,0))::y.1.2.2))) (fun y=>[ah_ B (List.flatMap AL.cells F),alF F]) ?_ ?_
    ·cases r_6
     ·replace Q:=zdf Q
      refine Zz 3 ?_;exact dn_ ⟨(N,M,R),zw_,X⟩ zl zp zf
     replace Q:=zdt Q;refine Zz 4 ?_;refine g_ (lM_ ((bg++[46])++O) N q J E M R X za_) rfl zp zt rfl fun⟨⟨e4,c1,e5⟩,b5,e1⟩=>?_;dsimp only;dsimp only at b5 e1;refine Zz 2 ?_;exact dn_ ⟨(e4,c1,e5),zw_,b5⟩ zl zp zf
    exact kJ_
   refine Zz 15 ?_;exact er_
  refine Zz 21 ?_;exact er_
 refine Zz 28 ?_;exact er_
theorem yd_ (h:List AL) (e:Option Addr) (d:Nat) (k:∀ x∈h,AL.ok x) (hl:h.length≤1000):Tri Tryz.prog 13 #[.slice e (List.length h) d] [] [ah_ e (List.flatMap AL.cells h),alF h] (fun b:Bool=>.bool b) (fun _=>[]) (fun _=>[]):=by
  refine i_ Tryz.func13 rfl rfl Tryz.ntmps13 rfl fun q=>?_;refine Zz 8 ?_;refine g_ (vk_ h e d k hl) rfl m_ zf rfl fun m=>Zz 4 ?_
  exact ae_ Tryz.results13 m rfl m_ zt
theorem al_one {x:AL} {v:Vw} (h:(eg_ x.ad x.l).p v):(alF [x]).p v:=fun y d=>by rw[List.mem_singleton.1 d];exact h
theorem uc_ {x:AL} (h:x.ok):∀ y∈[x],AL.ok y:=fun y d=>by rw[List.mem_singleton.1 d];exact h
theorem xE_ (d:List Ax) (lad:Option Addr) (lcap:Nat) (k:d.length≤lcap∧lcap≤2199023255488) (e:∀ x∈d,x.ok):Tri Tryz.prog 8 #[.slice lad (List.length d) lcap] [] [eg_ lad d] (fun b:{b:Bool // b=true→d.length≤10∧∀ x∈d,Ax.Few x}=>.bool b.1) (fun _=>[]) (fun _=>[]):=by
 refine i_ Tryz.func8 rfl rfl Tryz.ntmps8 rfl fun A=>?_;refine Zz 8 ?_;refine g_ (ph_ d lad lcap 10 k e) rfl m_ zf rfl fun⟨B,m⟩=>?_;dsimp only;refine Zz 1 ?_;cases B
 ·refine Zz 8 ?_
  exact ae_ Tryz.results8 ⟨false,fun h=>by cases h⟩ rfl m_ zt
 refine Zz 3 ?_;refine U_ cH_ Tryz.sizeOf22 Tryz.zeroValue22 rfl rfl rfl rfl rfl rfl fun q=>?_;refine cM_ (List.flatMap AL.cells [(AL.mk d lad lcap)]) d_ rfl ?_;refine aR_ rfl rfl (g_ (yd_ [(AL.mk d lad lcap)] (some ⟨q,0,none⟩) 1 (uc_ ⟨by dsimp only;omega,e⟩) zj_) rfl m_ (fun v _ h=>by exact⟨h.1,(al_one h.2.1),trivial⟩) rfl fun y=>?_);refine Zz 5 ?_;exact ae_ Tryz.results8 ⟨y,fun _=>⟨by have:=(m rfl).1;omega,(m rfl).2⟩⟩ rfl m_ zt
end Go.Proofs.YtpbnmnfdgckaiaaGreatDoor
namespace Go.Proofs.YtpbnmnfdgckaiaaGreatDoor
open Go Go.Sx Go.Proofs
attribute [local irreducible] Code.wp wpList wpAnyH
open Go.Vs Go.Shelf Go.RowKit
structure Mdl where
  no:List Str
  noa:Option Addr
  noc:Nat
  ty:List Fc
  tya:Option Addr
  tyc:Nat
  li:List Fc
  lia:Option Addr
  lic:Nat
  di:List Fc
  dia:Option Addr
  dic:Nat
  ra:List Fc
  raa:Option Addr
  rac:Nat
  ro:List Fc
  roa:Option Addr
  roc:Nat
def Mdl.cells (m:Mdl):List Value:=[.slice m.noa m.no.length m.noc,.slice m.tya m.ty.length m.tyc,.slice m.lia m.li.length m.lic,.slice m.dia m.di.length m.dic,.slice m.raa m.ra.length m.rac,.slice m.roa m.ro.length m.roc]
def Mdl.val (m:Mdl):Value:=.agg #[.slice m.noa m.no.length m.noc,.slice m.tya m.ty.length m.tyc,.slice m.lia m.li.length m.lic,.slice m.dia m.di.length m.dic,.slice m.raa m.ra.length m.rac,.slice m.roa m.ro.length m.roc]
def mU_ (m:Mdl):Fct where
  p v:=bA_ v m.noa (List.flatMap af_ m.no)∧bA_ v m.tya (List.flatMap Fc.cells m.ty)∧bA_ v m.lia (List.flatMap Fc.cells m.li)∧bA_ v m.dia (List.flatMap Fc.cells m.di)∧bA_ v m.raa (List.flatMap Fc.cells m.ra)∧bA_ v m.roa (List.flatMap Fc.cells m.ro)
  mono:=fun v v' h hp=>⟨(ah_ m.noa (List.flatMap af_ m.no)).mono v v' h hp.1,(ah_ m.tya (List.flatMap Fc.cells m.ty)).mono v v' h hp.2.1,(ah_ m.lia (List.flatMap Fc.cells m.li)).mono v v' h hp.2.2.1,(ah_ m.dia (List.flatMap Fc.cells m.di)).mono v v' h hp.2.2.2.1,(ah_ m.raa (List.flatMap Fc.cells m.ra)).mono v v' h hp.2.2.2.2.1,(ah_ m.roa (List.flatMap Fc.cells m.ro)).mono v v' h hp.2.2.2.2.2⟩
structure Mdl.ok (m:Mdl):Prop where
  no:m.no.length≤9223372036854775807
  ty:m.ty.length≤9223372036854775807
  li:m.li.length≤9223372036854775807
  di:m.di.length≤9223372036854775807
  ra:m.ra.length≤9223372036854775807
  ro:m.ro.length≤9223372036854775807
def Mdl.nil:Mdl:=⟨[],none,0,[],none,0,[],none,0,[],none,0,[],none,0,[],none,0⟩
theorem Mdl.nil_ok:Mdl.nil.ok:=⟨by decide,by decide,by decide,by decide,by decide,by decide⟩
def wr_ (ls:List Ax) (m:Mdl) (e:Int):Prop :=
  (e=0∧(∀ x∈ls,x.check=0)∧¬ pt_ (cU_ ls)∧∃ c,fv_ (cc_ 0 ls) 1073741824 c 0∧AsmR (cc_ 0 ls) c m.no m.ty m.li m.di m.ra∧yf_ ls m.ro) ∨
  (e≠0∧m=Mdl.nil∧((∃ x∈ls,x.check≠0)∨pt_ (cU_ ls)∨((∀ x∈ls,x.check=0)∧∃ c,fv_ (cc_ 0 ls) 1073741824 c e)))
theorem rlR_e {l:List Ax} {e:Int} (h:RlR l e) (d:e≠0):pt_ (cU_ l):=by
 rcases h with⟨h,_⟩|⟨_,h⟩
 ·exact absurd h d
 exact h
theorem rlR_0 {l:List Ax} {e:Int} (h:RlR l e) (d:e=0):¬ pt_ (cU_ l):=by
 rcases h with⟨_,h⟩|⟨h,_⟩
 ·exact h
 omega
theorem uY_ (l:List Ax) (ad:Option Addr) (cap:Nat) (d:l.length≤12) (e:∀ x∈l,x.ok) (k:∀ x∈l,x.check=0) :
    Tri Tryz.prog 31 #[.slice ad l.length cap] [] [eg_ ad l,cj_] (fun y:{y:Option Addr×Nat // (cc_ 0 l).length≤y.2∧y.2≤maxLen∧(y.1=none→y.2=0)}=>.tuple #[.slice y.1.1 (cc_ 0 l).length y.1.2,.int .i64 0]) (fun _=>[]) (fun y=>[ah_ y.1.1 ((cc_ 0 l).flatMap Pc.cells)]):=by
  have h:=tx_ l ad cap za_ e;rw[ry_ d k]at h;exact h
theorem xY_ (p:List Pc):SrS (atS p):=nv_ p
theorem ri_:hN_ Tryz.prog 28 [(0,1),(1,1),(2,1),(3,1),(4,1),(5,1)] [.slice none 0 0,.slice none 0 0,.slice none 0 0,.slice none 0 0,.slice none 0 0,.slice none 0 0]:=⟨_,je_,aT_,fun w=>by simp[bO_,ci_]⟩
theorem pp_ (d:List Ax) (lad:Option Addr) (lcap:Nat) (B:∀ x∈d,x.ok) (h12:d.length≤12):Tri Tryz.prog 9 #[.slice lad (List.length d) lcap] [] [eg_ lad d,cj_,ji_] (fun y:{y:Mdl×Int // wr_ d y.1 y.2∧y.1.ok}=>.tuple #[y.1.1.val,.int .i64 y.1.2]) (fun _=>[]) (fun y=>[mU_ y.1.1]):=by
 refine i_ Tryz.func9 rfl rfl Tryz.ntmps9 rfl fun v_1=>?_;refine Zz 2 ?_;refine G_ je_ rfl fun X=>Zz 12 ?_
 refine L_ (ι:={y:Nat // y≤List.length d∧(∀ z∈List.take y d,Ax.check z=0)}) (fun y=>[(0,.slice lad (List.length d) lcap),(2,zp_ X 0),(9,.slice lad (List.length d) lcap),(10,.int .i64 (List.length d:Int)),(11,.int .i64 (y.1:Int))]) (fun y=>((X,.cells #[.slice none 0 0,.slice none 0 0,.slice none 0 0,.slice none 0 0,.slice none 0 0,.slice none 0 0] 28 (0,0))::[])) (fun y=>[eg_ lad d,cj_,ji_]) (fun y=>List.length d - y.1) ⟨(0:Nat),by simp,zj_⟩ zl d_ zh ?_;rintro ⟨i,a3,E⟩;dsimp only at a3 E ⊢;refine Zi 2 (fun W=>?_) fun W=>?_
 ·have T:∀ x∈d,Ax.check x=0:=fun x hx=>E x (by rw[List.take_of_length_le za_];exact hx)
  refine Zz 10 ?_;refine g_ (tp_ d lad lcap B T za_) rfl m_ zf rfl fun⟨⟨gv,U⟩,N⟩=>?_;dsimp only;dsimp only at N;refine Zi 9 (fun C=>?_) fun C=>?_
  ·have a1:U=0:=by assumption
   refine Zz 8 ?_;refine g_ (uY_ d lad lcap h12 B T) rfl m_ zf rfl fun⟨⟨a0,I⟩,hpc⟩=>?_;dsimp only;dsimp only at hpc;have hfl:=qE_ 0 d T;refine Zz 11 ?_;refine e_ (ar_ (bU_ rfl rfl) (show _=Value.bool false from congrArg Value.bool ze_)) rfl (Zz 8 ?_);refine g_ (all_c (cc_ 0 d) a0 I 1073741824 (fun z hz=>(qF_ d 0 za_ B T z hz).2.2.1) za_) rfl m_ zf rfl fun⟨⟨G,J⟩,e⟩=>?_;dsimp only;have e:fv_ (cc_ 0 d) 1073741824 G J:=e;have hAl:=fv_.len e;refine Zz 3 ?_;refine G_ Tryz.zeroValue67 rfl fun b_2=>u_ 0 bV_ rfl rfl rfl rfl rfl rfl (Zi 7 (fun V=>?_) fun V=>?_)
   ·have H:fv_ (cc_ 0 d) 1073741824 G 0:=by have q:J=0:=zi_;subst q;exact e
    refine Zz 8 ?_;refine g_ (incl_c d lad lcap B T za_) rfl m_ zf rfl fun⟨⟨ro,roa,roc⟩,Y,P⟩=>?_;dsimp only;dsimp only at Y P;refine Zz 11 ?_;refine e_ (ar_ (bU_ rfl rfl) (show _=Value.bool false from congrArg Value.bool ze_)) rfl (Zz 9 ?_);refine g_ (sf_ (cc_ 0 d) a0 I G e.ok za_ za_ za_ (by rw[H.good.2.2.2.2.1];exact xY_ _)) rfl m_ zf rfl fun⟨⟨⟨no,noa,noc⟩,⟨ty,tya,tyc⟩,⟨li,lia,lic⟩,⟨di,dia,dic⟩,⟨ra,raa,rac⟩⟩,Z,S,R,Q,L,O⟩=>?_;dsimp only;dsimp only at Z S R Q L O;refine u_ 1 bG_ rfl rfl rfl rfl rfl rfl (Zz 6 ?_);refine u_ 1 ci_ rfl rfl rfl rfl rfl rfl (Zz 5 ?_);refine u_ 1 bG_ rfl rfl rfl rfl rfl rfl (Zz 4 ?_);exact gN_ ⟨((Mdl.mk no noa noc ty tya tyc li lia lic di dia dic ra raa rac ro roa roc),0),.inl ⟨rfl,T,rlR_0 N a1,G,H,Z,Y⟩,⟨Nat.le_trans S.1 S.2.1,Nat.le_trans R.1 R.2.1,Nat.le_trans Q.1 Q.2.1,Nat.le_trans L.1 L.2.1,Nat.le_trans O.1 O.2.1,Nat.le_trans P.1 P.2.1⟩⟩ (fun M v A m=>fx_ (us:=Mdl.cells (Mdl.mk no noa noc ty tya tyc li lia lic di dia dic ra raa rac ro roa roc)) 1 Tryz.results9 ge_ bG_ rfl rfl rfl rfl M v A m) m_ (fun v _ h=>by exact⟨⟨h.1,h.2.1,h.2.2.1,h.2.2.2.1,h.2.2.2.2.1,h.2.2.2.2.2.1⟩,trivial⟩)
   refine Zz 5 ?_;refine e_ (H_ ri_ rfl rfl) rfl (Zz 1 ?_);refine u_ 1 bG_ rfl rfl rfl rfl rfl rfl (Zz 4 ?_);exact gN_ ⟨(Mdl.nil,J),.inr ⟨by assumption,rfl,.inr (.inr ⟨T,G,e⟩)⟩,Mdl.nil_ok⟩ (fun M v A m=>fx_ (us:=Mdl.cells Mdl.nil) 1 Tryz.results9 ge_ bG_ rfl rfl rfl rfl M v A m) m_ (fun v _ h=>by exact⟨⟨.inl rfl,.inl rfl,.inl rfl,.inl rfl,.inl rfl,.inl rfl⟩,trivial⟩)
  refine Zz 5 ?_;refine e_ (H_ ri_ rfl rfl) rfl (Zz 1 ?_);refine u_ 0 bG_ rfl rfl rfl rfl rfl rfl (Zz 4 ?_);exact gN_ ⟨(Mdl.nil,U),.inr ⟨by assumption,rfl,.inr (.inl (rlR_e N zi_))⟩,Mdl.nil_ok⟩ (fun M v A m=>fx_ (us:=Mdl.cells Mdl.nil) 0 Tryz.results9 ge_ bG_ rfl rfl rfl rfl M v A m) m_ (fun v _ h=>by exact⟨⟨.inl rfl,.inl rfl,.inl rfl,.inl rfl,.inl rfl,.inl rfl⟩,trivial⟩)
 obtain⟨K,F,a2,k⟩:=zge (show i<List.length d by omega);refine Zz 12 ?_;refine G_ cE_ rfl fun b_2=>u_ 0 br_ rfl rfl rfl rfl rfl rfl (Zz 5 ?_)
 refine g_ (hD_ F (B F k)) rfl m_ (fun v _ h=>by exact⟨(h.1.2 F k),h.2.1,trivial⟩) rfl fun _=>Zi 6 (fun C=>?_) fun C=>?_
 ·refine Zz 10 ?_
  exact x_ ⟨i+1,K,(fun z hz=>by rw[tk1 a2,List.mem_append,List.mem_singleton]at hz;exact hz.elim (E z) fun q=>by rw[q];assumption)⟩ zb_ zl (c_ d_) zh
 refine Zz 5 ?_;refine e_ (H_ ri_ rfl rfl) rfl (Zz 1 ?_);refine u_ 1 bG_ rfl rfl rfl rfl rfl rfl (Zz 4 ?_);exact gN_ ⟨(Mdl.nil,(Ax.check F)),.inr ⟨by assumption,rfl,.inl ⟨F,k,by assumption⟩⟩,Mdl.nil_ok⟩ (fun M v A m=>fx_ (us:=Mdl.cells Mdl.nil) 1 Tryz.results9 ge_ bG_ rfl rfl rfl rfl M v A m) m_ (fun v _ h=>by exact⟨⟨.inl rfl,.inl rfl,.inl rfl,.inl rfl,.inl rfl,.inl rfl⟩,trivial⟩)
end Go.Proofs.YtpbnmnfdgckaiaaGreatDoor
namespace Go.Proofs.YtpbnmnfdgckaiaaGreatDoor
open Go Go.Sx Go.Proofs
attribute [local irreducible] Code.wp wpList wpAnyH
open Go.Vs Go.Shelf Go.RowKit
theorem vF_ (l:List Fc) (ad:Option Addr) (cap:Nat) (f:Fc) (hl:l.length≤9223372036854775807):Tri Tryz.prog 89 #[.slice ad (List.length l) cap,Fc.val f] [] [ah_ ad (List.flatMap Fc.cells l)] (fun r:{r:Int // decide (0≤r)=decide (f∈l)}=>.int .i64 r.1) (fun _=>[]) (fun _=>[]):=by
 refine i_ Tryz.func89 rfl rfl Tryz.ntmps89 rfl fun E=>?_;refine Zz 2 ?_;refine aa_ rfl rfl fun m=>Zz 12 ?_
 refine L_ (ι:={y:Nat // y≤List.length l∧f ∉ List.take y l}) (fun y=>[(0,.slice ad (List.length l) cap),(3,zp_ m 0),(4,.int .i64 0),(7,.int .i64 (List.length l:Int)),(8,.int .i64 (y.1:Int))]) (fun y=>((m,.cells #[.int .i64 f.kind,str f.a,str f.b,str f.r,.int .i64 f.lo,.int .i64 f.hi] 36 (0,0))::[])) (fun y=>[ah_ ad (List.flatMap Fc.cells l)]) (fun y=>List.length l - y.1) ⟨(0:Nat),by simp,zj_⟩ zl d_ zh ?_;rintro ⟨i,k,A⟩;dsimp only at k A ⊢;refine Zi 2 (fun v=>?_) fun v=>?_
 ·refine Zz 12 ?_
  exact ae_ Tryz.results89 ⟨-1,by rw[List.take_of_length_le za_]at A;rw[decide_eq_false A];rfl⟩ rfl m_ zt
 obtain⟨e,B,x,h⟩:=zge (show i<List.length l by omega);refine Zz 16 ?_;refine J_ 0 [0,1,2,3,4,5] zk zs (Zz 5 ?_);refine fl_ rfl (ew_ (p:=f) (q:=B) rfl rfl) rfl fun C d=>Zz 3 ?_
 cases C
 ·replace d:=zdf d
  refine Zz 8 ?_;exact x_ ⟨i+1,e,(by rw[tk1 x,List.mem_append,List.mem_singleton];exact fun q=>q.elim A d)⟩ zb_ zl d_ zh
 replace d:=zdt d;refine Zz 8 ?_;exact ae_ Tryz.results89 ⟨(i:Int),by rw[decide_eq_true (p:=f∈l) (by rw[d];exact h)];exact decide_eq_true za_⟩ rfl m_ zt
theorem iu_ (l:List Fc) (ad:Option Addr) (cap:Nat) (f:Fc) (hl:l.length≤9223372036854775807):Tri Tryz.prog 43 #[.slice ad (List.length l) cap,Fc.val f] [] [ah_ ad (List.flatMap Fc.cells l)] (fun _:Unit=>.bool (decide (f∈l))) (fun _=>[]) (fun _=>[]):=by
  refine i_ Tryz.func43 rfl rfl Tryz.ntmps43 rfl fun k=>?_;refine Zz 2 ?_;refine aa_ rfl rfl fun m=>Zz 7 ?_
  refine g_ (vF_ l ad cap f hl) rfl m_ zf rfl fun⟨ix,e⟩=>?_;dsimp only;try dsimp only at e
  refine B_ (eB_ rfl rfl) rfl fun h d=>Zz 4 ?_
  exact ae_ Tryz.results43 () (n_ rfl (e.symm.trans d).symm) m_ zt
def qN_ (m:Mdl) (r t:Str):Bool:=(r==t)||decide (Y_ r t∈m.ro)
def nz_ (m:Mdl) (a r b:Str) (f:Fc):Bool:=decide (f=ab_ a f.r b)&&qN_ m f.r r
def uN_ (m:Mdl) (a r b:Str):Bool:=if nls a=false∧nls b=false then decide (ab_ a r b∈m.li) else m.di.any (nz_ m a r b)
theorem oJ_ {m:Mdl} {a r b:Str} {f:Fc} (h:f=ab_ a f.r b) (d:qN_ m f.r r=true):nz_ m a r b f=true:=by unfold nz_;rw[decide_eq_true h,d];rfl
theorem uL_ {m:Mdl} {a r b:Str} {f:Fc} (h:¬ f=ab_ a f.r b):nz_ m a r b f=false:=by unfold nz_;rw[decide_eq_false h];rfl
theorem uK_ {m:Mdl} {a r b:Str} {f:Fc} (d:qN_ m f.r r=false):nz_ m a r b f=false:=by unfold nz_;rw[d,Bool.and_false]
theorem iQ_ {α:Type} {l:List α} {p:α→Bool} {i:Nat} {x:α} (h:(l.take i).any p=false) (d:l[i]? = some x) (e:p x=false):(l.take (i+1)).any p=false:=by rw[tk1 d,List.any_append,h];simp[e]
theorem qZ_ {α:Type} {l:List α} {p:α→Bool} {i:Nat} (h:(l.take i).any p=false) (hi:l.length≤i):l.any p=false:=by rwa [List.take_of_length_le hi]at h
theorem kh_ {α:Type} {l:List α} {p:α→Bool} {x:α} (d:x∈l) (e:p x=true):l.any p=true:=List.any_eq_true.2 ⟨x,d,e⟩
theorem uM_ {m:Mdl} {a r b:Str} (d:nls a=false) (e:nls b=false):uN_ m a r b=decide (ab_ a r b∈m.li):=if_pos ⟨d,e⟩
theorem ks_ {m:Mdl} {a r b:Str} (h:¬ (nls a=false∧nls b=false)):uN_ m a r b=m.di.any (nz_ m a r b):=if_neg h
theorem rU_ (m:Mdl) (d:m.ok) (n t:Str):Tri Tryz.prog 12 #[Mdl.val m,str n,str t] [] [mU_ m] (fun _:Unit=>.bool (decide (Y_ n t∈m.ty))) (fun _=>[]) (fun _=>[]):=by
  refine i_ Tryz.func12 rfl rfl Tryz.ntmps12 rfl fun k=>?_;refine Zz 2 ?_;refine aa_ rfl rfl fun x=>Zz 9 ?_
  refine e_ (H_ eC_ rfl rfl) rfl (T_ (iu_ (Mdl.ty m) (Mdl.tya m) (Mdl.tyc m) (Fc.mk 1 n t [] 0 0) d.ty) rfl m_ (fun v _ h=>by exact⟨h.1.2.1,trivial⟩) rfl fun q e=>Zz 4 ?_);exact ae_ Tryz.results12 () (n_ rfl e.symm) m_ zt
theorem lw_ (m:Mdl) (k:m.ok) (r t:Str):Tri Tryz.prog 52 #[Mdl.val m,str r,str t] [] [mU_ m] (fun _:Unit=>.bool (qN_ m r t)) (fun _=>[]) (fun _=>[]):=by
 refine i_ Tryz.func52 rfl rfl Tryz.ntmps52 rfl fun x=>?_;refine Zz 2 ?_;refine aa_ rfl rfl fun y=>Zi 7 (fun d=>?_) fun d=>?_
 ·refine Zz 10 ?_
  refine e_ (H_ eC_ rfl rfl) rfl (aR_ rfl rfl (T_ (iu_ (Mdl.ro m) (Mdl.roa m) (Mdl.roc m) (Fc.mk 1 r t [] 0 0) k.ro) rfl m_ (fun v _ h=>by exact⟨h.1.2.2.2.2.2,trivial⟩) rfl fun q e=>Zz 5 ?_));exact ae_ Tryz.results52 () (n_ rfl (by unfold qN_;rw[beq_eq_false_iff_ne.2 d,Bool.false_or];exact e.symm)) m_ zt
 refine Zz 12 ?_;exact ae_ Tryz.results52 () (n_ rfl (by unfold qN_;rw[beq_iff_eq.2 d];rfl)) m_ zt
theorem st_ (m:Mdl) (J:m.ok) (a r b:Str):Tri Tryz.prog 18 #[Mdl.val m,str a,str r,str b] [] [mU_ m] (fun _:Unit=>.bool (uN_ m a r b)) (fun _=>[]) (fun _=>[]):=by
 refine i_ Tryz.func18 rfl rfl Tryz.ntmps18 rfl fun Q=>?_;have P:=J.di;refine Zz 2 ?_;refine aa_ rfl rfl fun I=>Zz 7 ?_
 refine T_ (bM_ a) rfl m_ zt rfl fun M C=>e_ (ax_ rfl) rfl (Zz 1 ?_)
 cases M
 ·refine Zz 3 ?_
  refine T_ (bM_ b) rfl m_ zt rfl fun L x=>aR_ rfl rfl (e_ (ax_ rfl) rfl (Zz 3 ?_))
  cases L
  ·refine Zz 8 ?_
   refine e_ (H_ eC_ rfl rfl) rfl (T_ (iu_ (Mdl.li m) (Mdl.lia m) (Mdl.lic m) (Fc.mk 2 a b r 0 0) J.li) rfl m_ (fun v _ h=>by exact⟨h.1.2.2.1,trivial⟩) rfl fun G d=>Zz 4 ?_);exact ae_ uR_ () (n_ rfl (by rw[uM_ C x];exact d.symm)) m_ zt
  refine Zz 13 ?_;refine L_ (ι:={y:Nat // y≤List.length (Mdl.di m)∧(List.any (List.take y (Mdl.di m)) (nz_ m a r b))=false}) (fun y=>[(1,str a),(2,str r),(3,str b),(4,zp_ I 0),(8,.bool false),(27,.slice (Mdl.dia m) (List.length (Mdl.di m)) (Mdl.dic m)),(28,.int .i64 (List.length (Mdl.di m):Int)),(29,.int .i64 (y.1:Int))]) (fun y=>((I,.cells #[.slice (Mdl.noa m) (List.length (Mdl.no m)) (Mdl.noc m),.slice (Mdl.tya m) (List.length (Mdl.ty m)) (Mdl.tyc m),.slice (Mdl.lia m) (List.length (Mdl.li m)) (Mdl.lic m),.slice (Mdl.dia m) (List.length (Mdl.di m)) (Mdl.dic m),.slice (Mdl.raa m) (List.length (Mdl.ra m)) (Mdl.rac m),.slice (Mdl.roa m) (List.length (Mdl.ro m)) (Mdl.roc m)] 28 (0,0))::[])) (fun y=>[mU_ m]) (fun y=>List.length (Mdl.di m) - y.1) ⟨(0:Nat),by simp,zj_⟩ zl d_ zh ?_;rintro ⟨i,F,H⟩;dsimp only at F H ⊢;refine Zi 2 (fun d=>?_) fun d=>?_
  ·refine Zz 12 ?_
   exact ae_ uR_ () (n_ rfl (by rw[ks_ (fun q=>by rw[q.2]at x;cases x),qZ_ H za_])) m_ zt
  obtain⟨A,B,k,E⟩:=zge (show i<List.length (Mdl.di m) by omega);refine Zz 10 ?_;refine e_ (Q_ w_ y_ rfl rfl (fun v _ h=>as_ (n:=6) Fc.cells_len ze_ (by exact h.1.2.2.2.1) k) za_ zh_) rfl ?_;refine e_ (aj_ (ad:=(Mdl.dia m)) (us:=Fc.cells B) bp_ y_ rfl (fun v _ h=>by exact h.1.2.2.2.1) (Fc.cells_len _) (o_ Fc.cells_len k)) rfl (G_ X_ rfl fun O=>u_ 0 y_ rfl rfl rfl rfl rfl rfl (Zz 9 ?_));refine e_ (H_ eC_ rfl rfl) rfl (B_ (ew_ (p:=B) (q:=(Fc.mk 2 a b B.r 0 0)) rfl rfl) rfl fun G e=>Zz 1 ?_);cases G
  ·replace e:=zdf e
   refine Zz 16 ?_;exact x_ ⟨i+1,A,(iQ_ H k (uL_ e))⟩ zb_ zl (c_ d_) zh
  replace e:=zdt e;refine Zz 9 ?_;refine T_ (lw_ m J B.r r) rfl m_ zf rfl fun N K=>Zz 3 ?_
  cases N
  ·refine Zz 8 ?_
   exact x_ ⟨i+1,A,(iQ_ H k (uK_ K))⟩ zb_ zl (c_ d_) zh
  refine Zz 7 ?_;exact ae_ uR_ () (n_ rfl (by rw[ks_ (fun q=>by rw[q.2]at x;cases x),kh_ E (oJ_ e K)])) m_ zt
 refine Zz 19 ?_;refine L_ (ι:={y:Nat // y≤List.length (Mdl.di m)∧(List.any (List.take y (Mdl.di m)) (nz_ m a r b))=false}) (fun y=>[(1,str a),(2,str r),(3,str b),(4,zp_ I 0),(8,.bool false),(27,.slice (Mdl.dia m) (List.length (Mdl.di m)) (Mdl.dic m)),(28,.int .i64 (List.length (Mdl.di m):Int)),(29,.int .i64 (y.1:Int))]) (fun y=>((I,.cells #[.slice (Mdl.noa m) (List.length (Mdl.no m)) (Mdl.noc m),.slice (Mdl.tya m) (List.length (Mdl.ty m)) (Mdl.tyc m),.slice (Mdl.lia m) (List.length (Mdl.li m)) (Mdl.lic m),.slice (Mdl.dia m) (List.length (Mdl.di m)) (Mdl.dic m),.slice (Mdl.raa m) (List.length (Mdl.ra m)) (Mdl.rac m),.slice (Mdl.roa m) (List.length (Mdl.ro m)) (Mdl.roc m)] 28 (0,0))::[])) (fun y=>[mU_ m]) (fun y=>List.length (Mdl.di m) - y.1) ⟨(0:Nat),by simp,zj_⟩ zl d_ zh ?_;rintro ⟨i,F,H⟩;dsimp only at F H ⊢;refine Zi 2 (fun x=>?_) fun x=>?_
 ·refine Zz 12 ?_
  exact ae_ uR_ () (n_ rfl (by rw[ks_ (fun q=>by rw[q.1]at C;cases C),qZ_ H za_])) m_ zt
 obtain⟨A,B,k,E⟩:=zge (show i<List.length (Mdl.di m) by omega);refine Zz 10 ?_;refine e_ (Q_ w_ y_ rfl rfl (fun v _ h=>as_ (n:=6) Fc.cells_len ze_ (by exact h.1.2.2.2.1) k) za_ zh_) rfl ?_;refine e_ (aj_ (ad:=(Mdl.dia m)) (us:=Fc.cells B) bp_ y_ rfl (fun v _ h=>by exact h.1.2.2.2.1) (Fc.cells_len _) (o_ Fc.cells_len k)) rfl (G_ X_ rfl fun O=>u_ 0 y_ rfl rfl rfl rfl rfl rfl (Zz 9 ?_));refine e_ (H_ eC_ rfl rfl) rfl (B_ (ew_ (p:=B) (q:=(Fc.mk 2 a b B.r 0 0)) rfl rfl) rfl fun L d=>Zz 1 ?_);cases L
 ·replace d:=zdf d
  refine Zz 16 ?_;exact x_ ⟨i+1,A,(iQ_ H k (uL_ d))⟩ zb_ zl (c_ d_) zh
 replace d:=zdt d;refine Zz 9 ?_;refine T_ (lw_ m J B.r r) rfl m_ zf rfl fun G e=>Zz 3 ?_
 cases G
 ·refine Zz 8 ?_
  exact x_ ⟨i+1,A,(iQ_ H k (uK_ e))⟩ zb_ zl (c_ d_) zh
 refine Zz 7 ?_;exact ae_ uR_ () (n_ rfl (by rw[ks_ (fun q=>by rw[q.1]at C;cases C),kh_ E (oJ_ d e)])) m_ zt
theorem xz_ (l:List Fc) (ad:Option Addr) (cap:Nat) (hl:l.length≤9223372036854775807):Tri Tryz.prog 87 #[.slice ad (List.length l) cap] [] [ah_ ad (List.flatMap Fc.cells l)] (fun b:{b:Bool // b=true↔Srt l}=>.bool b.1) (fun _=>[]) (fun _=>[]):=by
 refine i_ Tryz.func87 rfl rfl Tryz.ntmps87 rfl fun L=>?_;refine Zz 14 ?_;refine L_ (ι:={y:Nat // y≤List.length l∧(List.take y l).Pairwise Fc.lt}) (fun y=>[(0,.slice ad (List.length l) cap),(2,.bool false),(5,.slice ad (List.length l) cap),(6,.int .i64 (List.length l:Int)),(7,.int .i64 (y.1:Int))]) (fun y=>([])) (fun y=>[ah_ ad (List.flatMap Fc.cells l)]) (fun y=>List.length l - y.1) ⟨(0:Nat),by simp,zj_⟩ zl m_ zh ?_;rintro ⟨i,x,E⟩;dsimp only at x E ⊢;refine Zi 2 (fun A=>?_) fun A=>?_
 ·have hS:List.length l≤i→Srt l:=fun q=>by rw[List.take_of_length_le q]at E;exact E
  refine Zz 12 ?_;exact ae_ Tryz.results87 ⟨true,fun _=>hS za_,fun _=>rfl⟩ rfl m_ zt
 obtain⟨d,G,h,H⟩:=zge (show i<List.length l by omega);refine Zz 13 ?_;refine G_ X_ rfl fun M=>Zz 1 ?_
 refine u_ 0 y_ rfl rfl rfl rfl rfl rfl (Zz 4 ?_);refine J_ 9 [0,1,2] zk zs (Zi 1 (fun v=>?_) fun v=>?_)
 ·refine Zz 2 ?_
  refine J_ 0 [3,4,5,6,7,8,9,10,11] zk zs (Zz 20 ?_);exact x_ ⟨i+1,d,(by rw[show i=0 by omega];exact pw_one l)⟩ zb_ zl m_ zh
 obtain⟨J,C,B,F⟩:=zge (show (Int.toNat ((i:Int) - 1))<List.length l by omega);have e:l[i - 1]? = some C:=by rw[show i - 1=Int.toNat ((i:Int) - 1) by omega];exact B
 refine Zz 2 ?_;refine J_ 3 [3,4,5,6,7,8] zk zs (Zz 7 ?_);refine s_ 9 rfl zk (aR_ rfl rfl (g_ (vZ_ C G) rfl m_ zt rfl fun _=>Zz 3 ?_));refine J_ 0 [10,11] zk zs ?_;refine Zi 0 (fun m=>?_) fun m=>?_
 ·refine Zz 12 ?_
  exact x_ ⟨i+1,d,(by have q:=wY_ (lt:=Fc.lt) (fun K I=>Fc.lt_trans K I) (k:=i - 1) (by rw[show i - 1+1=i by omega];exact E) e (by rw[show i - 1+1=i by omega];exact h) (xL_ za_);rw[show i - 1+2=i+1 by omega]at q;exact q)⟩ zb_ zl m_ zh
 refine Zz 11 ?_;exact ae_ Tryz.results87 ⟨false,fun q=>zaB_,fun q=>absurd q (pw_not (k:=i - 1) e (by rw[show i - 1+1=i by omega];exact h) (sP_.1 za_))⟩ rfl m_ zt
end Go.Proofs.YtpbnmnfdgckaiaaGreatDoor
