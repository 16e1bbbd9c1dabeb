/-
  Part of the proof of the law CanonGrows over this seat: the small logic, the data, the contracts of functions (no condition).
-/
import Derived.Test.YtpbnmnfdgckaiaaGreatDoorQCanonGrows13
import Derived.Test.YtpbnmnfdgckaiaaGreatDoorQCanonGrows8
import Derived.Test.YtpbnmnfdgckaiaaGreatDoorQCanonGrows10
import Derived.Test.YtpbnmnfdgckaiaaGreatDoorQCanonGrows6
import Derived.Test.YtpbnmnfdgckaiaaGreatDoorQCanonGrows12
import Derived.Test.YtpbnmnfdgckaiaaGreatDoorQCanonGrows11
set_option linter.unusedVariables false
set_option linter.unusedSimpArgs false
set_option linter.unusedSectionVars false
set_option maxHeartbeats 1000000
namespace Go.Proofs.YtpbnmnfdgckaiaaGreatDoor
open Go Go.Sx Go.Proofs
attribute [local irreducible] Code.wp wpList wpAnyH
open Go.Vs
structure SL where
  l:List Str
  ad:Option Addr
  cap:Nat
def SL.cells (x:SL):List Value:=[.slice x.ad x.l.length x.cap]
theorem SL.cells_len (x:SL):x.cells.length=1:=rfl
structure SL.ok (x:SL):Prop where
  le:x.l.length≤x.cap
  nz:x.ad=none→x.cap=0
  sh:x.l.length≤100000
def slF (xs:List SL):Fct where
  p v:=∀ x∈xs,bz_ v x.ad (List.flatMap ap_ x.l)
  mono:=fun v v' h hp x hx=>(V_ x.ad (List.flatMap ap_ x.l)).mono v v' h (hp x hx)
def ic_ (xs:List SL):List Str:=List.flatMap SL.l xs
theorem sb_ {d:List SL} {i:Nat} {x:SL} (h:d[i]? = some x):ic_ (d.take (i+1))=ic_ (d.take i)++x.l:=by unfold ic_;rw[List.take_add_one,h];simp
theorem tV_ {d:List SL} (h:∀ x∈d,x.ok) (i:Nat):(ic_ (d.take i)).length≤min i d.length*100000:=by
  have:=zm_ (g:=SL.l) (n:=100000) (d.take i) fun x e=>(h x (List.mem_of_mem_take e)).sh
  rwa [List.length_take]at this
theorem yy_ (n:Nat) (v:n≤1000000000):Tri Tryz.prog 176 #[.slice none 0 0,.int .i64 (n:Int)] [] [] (fun y:{y:Value×Hp // aB_ 9 1 y.1 0 [] y.2}=>y.1.1) (fun y=>y.1.2) (fun _=>[]):=by
 refine j_ Tryz.func176 rfl rfl Tryz.ntmps176 rfl fun q=>?_;refine Zi 9 (fun e=>?_) fun e=>?_
 ·refine Zz 10 ?_
  refine e_ (qt_ m_ rfl) rfl (Zz 3 ?_);refine e_ (aD_ (bj_ rfl rfl rfl (ce_ zr_ zr_)) (show Value.int .i64 ((n:Int) - (0 - 0))=Value.int .i64 (n:Int) from congrArg _ zr_)) rfl (Zi 6 (fun d=>?_) fun d=>?_)
  ·refine Zz 12 ?_
   exact af_ Tryz.results176 ⟨(.slice none 0 0,[]),aB_.nil _ _⟩ rfl l_ zt
  refine Zz 6 ?_;refine e_ (qt_ m_ rfl) rfl (e_ (aD_ (dm_ (i:=0) (j:=0) (kl:=.i64) (kh:=.i64) m_ H_ rfl rfl rfl zr_ zr_) (show _=Value.slice none 0 0 from rfl)) rfl (Zz 1 ?_));refine ra_ (n:=n) cW_ s_ rfl rfl zr_ zr_ zG_ rfl fun h k m=>?_;refine Zz 2 ?_;refine e_ (aD_ (dm_ (i:=0) (j:=0) (kl:=.i64) (kh:=.i64) m_ H_ rfl rfl rfl zr_ zr_) (show _=Value.slice (some ⟨k,0,none⟩) 0 h.1 by simp[qE_])) rfl (Zz 10 ?_);exact af_ Tryz.results176 ⟨(.slice (some ⟨k,0,none⟩) 0 h.1,[(k,.cells h.2 9 (0,0))]),tT_ m.2.1 m.2.2⟩ rfl d_ zt
 exfalso;omega
theorem uI_ (e:List SL) (B:Option Addr) (A:Nat) (q:∀ x∈e,x.ok) (hl:e.length≤100):Tri Tryz.prog 139 #[.slice B (List.length e) A] [] [V_ B (List.flatMap SL.cells e),slF e] (fun y:{y:Option Addr×Nat // ((ic_ e)).length≤y.2∧y.2≤maxLen∧(y.1=none→y.2=0)}=>.slice y.1.1 ((ic_ e)).length y.1.2) (fun _=>[]) (fun y=>[V_ y.1.1 (((ic_ e)).flatMap ap_)]):=by
 refine j_ Tryz.func139 rfl rfl Tryz.ntmps139 rfl fun a0=>?_;refine Zz 19 ?_;refine P_ (ι:={y:Nat×Nat // y.1≤List.length e∧y.2≤y.1*100000}) (fun y=>[(0,.slice B (List.length e) A),(3,.int .i64 (y.1.2:Int)),(9,.slice B (List.length e) A),(10,.int .i64 (List.length e:Int)),(11,.int .i64 (y.1.1:Int))]) (fun y=>([])) (fun y=>[V_ B (List.flatMap SL.cells e),slF e]) (fun y=>List.length e - y.1.1) ⟨((0:Nat),(0:Nat)),by simp,by simp⟩ zl l_ zh ?_;rintro ⟨⟨i,w⟩,hi,Y⟩;dsimp only at hi Y ⊢;refine Zi 2 (fun G=>?_) fun G=>?_
 ·refine Zz 9 ?_
  refine i_ (yy_ w zr_) rfl l_ zt rfl fun⟨⟨F,K⟩,M⟩=>?_;dsimp only;dsimp only at M;refine u_ eg_ ?_;have R:aB_ 9 1 F (List.length (ic_ (List.take 0 e))) (List.flatMap ap_ (ic_ (List.take 0 e))) K:=by exact M
  refine Zz 12 ?_;refine P_ (ι:={y:Nat×Value×Hp // y.1≤List.length e∧zR 9 1 ap_ y.2.1 (ic_ (List.take y.1 e)) y.2.2}) (fun y=>[(0,.slice B (List.length e) A),(6,y.1.2.1),(25,.slice B (List.length e) A),(26,.int .i64 (List.length e:Int)),(27,.int .i64 (y.1.1:Int))]) (fun y=>(y.1.2.2)) (fun y=>[V_ B (List.flatMap SL.cells e),slF e]) (fun y=>List.length e - y.1.1) ⟨((0:Nat),F,K),by simp,R⟩ zl ah_ zh ?_;rintro ⟨⟨j,V,W⟩,Z,m⟩;dsimp only at Z m ⊢;have a1:=tV_ q j;refine Zi 2 (fun E=>?_) fun E=>?_
  ·rw[List.take_of_length_le zr_]at m
   refine Zz 13 ?_;refine aN_ m ah_ fun U S O I H J=>?_;exact af_ Tryz.results139 ⟨(U,S),I,H,J⟩ (gh_ rfl O) l_ zf
  obtain⟨C,k,L,d⟩:=zge (show j<List.length e by omega);have N:=(q k d).sh;refine Zz 18 ?_;refine aL_ (news:=List.flatMap ap_ (SL.l k)) cW_ m rfl rfl (q k d).nz (q k d).le ah_ (by rw[br_ ap_ 1 aw_]) (fun v _ h=>by exact (h.2.1 k d)) (fun u X=>ak_ cx_ X) (by simp only[maxLen];(have:=(q k d).sh;omega)) (by (have:=(q k d).sh;omega)) rfl fun Q T G=>?_;refine u_ List.perm_append_comm ?_;have P:=zsa G;refine Zz 8 ?_;exact y_ ⟨(j+1,Q,T),C,(by rw[sb_ L];exact P)⟩ zu_ zl ah_ zh
 obtain⟨C,k,L,d⟩:=zge (show i<List.length e by omega);have N:=(q k d).sh;refine Zi 27 (fun E=>?_) fun E=>?_
 ·refine Zz 10 ?_
  exact y_ ⟨(i+1,w+List.length (SL.l k)),C,by have:=(q k d).sh;dsimp only;omega⟩ zu_ ⟨rfl,(cl_ rfl (by push_cast;rfl)),rfl,rfl,rfl,trivial⟩ l_ zh
 exfalso;omega
theorem sl_two {a b:SL} (e:a.ok) (h:b.ok):∀ x∈[a,b],x.ok:=fun x d=>by
 simp only[List.mem_cons,List.not_mem_nil,or_false]at d;rcases d with rfl|rfl
 ·exact e
 exact h
theorem xF_ {a b:SL} {v:Vw} (e:bz_ v a.ad (List.flatMap ap_ a.l)) (h:bz_ v b.ad (List.flatMap ap_ b.l)):(slF [a,b]).p v:=fun x d=>by
 simp only[List.mem_cons,List.not_mem_nil,or_false]at d;rcases d with rfl|rfl
 ·exact e
 exact h
theorem xT_ (I:List Str) (e:Option Addr) (d:Nat) (a8:rkS (I,e,d)) (hIn:I.Nodup) (hIl:I.length≤40000) (sb:Nat) (D:List (Str×Fc)) (adr:Str→Option Addr×Nat) (hD:D.length≤1000000000) (T:List Str) (hT:∀ s,∀ t∈nxD D s,t∈T) (hTl:T.length≤20000):Tri Tryz.prog 84 #[.slice e (List.length I) d,.map (some sb)] [] [mlF Tryz.prog 9 str Fc.cells sb D adr,V_ e (List.flatMap ap_ I)] (fun y:{y:List Str×Option Addr×Nat // oD_ D I y.1∧rkS y}=>.slice y.1.2.1 y.1.1.length y.1.2.2) (fun _=>[]) (fun y=>[V_ y.1.2.1 (y.1.1.flatMap ap_)]):=by
 refine j_ Tryz.func84 rfl rfl Tryz.ntmps84 rfl fun v_1=>?_;refine Zz 5 ?_;refine lb_ (Zz 3 ?_);refine i_ (om_ I e d a8.1 zr_) rfl l_ zf rfl fun⟨⟨svc,Hcl⟩,b3⟩=>?_;dsimp only;dsimp only at b3;simp only[List.append_nil];refine Zz 5 ?_;refine bn_ rfl fun L=>Zz 7 ?_
 refine e_ (dV_ b3 m_ rfl) rfl (Zz 4 ?_);refine P_ (ι:={y:Nat×StM×Value×Hp // y.1≤List.length I∧(∀ n,n∈y.2.1.ks↔n∈List.take y.1 I)∧zR 9 1 ap_ y.2.2.1 I y.2.2.2}) (fun y=>[(0,.slice e (List.length I) d),(1,.map (some sb)),(4,.slice none 0 0),(5,y.1.2.2.1),(6,.map (some L)),(16,y.1.2.2.1),(17,.int .i64 (List.length I:Int)),(18,.int .i64 (y.1.1:Int))]) (fun y=>((L,.map y.1.2.1.es y.1.2.1.c)::y.1.2.2.2)) (fun y=>[mlF Tryz.prog 9 str Fc.cells sb D adr,V_ e (List.flatMap ap_ I)]) (fun y=>List.length I - y.1.1) ⟨((0:Nat),StM.nil,svc,Hcl),by simp,(by intro n;simp[StM.nil]),b3⟩ zl zp zh ?_;rintro ⟨⟨i,s,Y,a1⟩,hi_i,hs,J⟩;dsimp only at hi_i hs J ⊢;refine Zi 2 (fun U=>?_) fun U=>?_
 ·refine Zz 12 ?_
  refine ld_ (Zz 3 ?_);have hq_1:ORow 9 1 Y (List.length I) (List.flatMap ap_ I) a1:=ORow.row J;have E:∀ n,n∈s.ks↔n∈I:=by rw[List.take_of_length_le zr_]at hs;exact hs
  refine u_ (H':=((L,.map s.es s.c)::(a1++([]:Hp)))) zC_ ?_;refine P_ (ι:={y:StM×List Str×Value×Hp×List Str×Value×Hp // CI (nxD D) I y.1.ks y.2.1∧ORow 9 1 y.2.2.1 (List.length y.2.1) (List.flatMap ap_ y.2.1) y.2.2.2.1∧List.length y.2.1≤List.length y.1.ks∧NmI I y.1.ks y.2.2.2.2.1∧zR 9 1 ap_ y.2.2.2.2.2.1 y.2.2.2.2.1 y.2.2.2.2.2.2}) (fun y=>[(0,.slice e (List.length I) d),(1,.map (some sb)),(4,.slice none 0 0),(5,y.1.2.2.1),(6,.map (some L)),(9,y.1.2.2.2.2.2.1)]) (fun y=>((L,.map y.1.1.es y.1.1.c)::(y.1.2.2.2.1++y.1.2.2.2.2.2.2))) (fun y=>[mlF Tryz.prog 9 str Fc.cells sb D adr,V_ e (List.flatMap ap_ I)]) (fun y=>(List.length I+List.length T) - List.length y.1.1.ks+List.length y.1.2.1) ⟨(s,I,Y,a1,([]:List Str),(.slice none 0 0),([]:Hp)),CI.init E,hq_1,by have:=cd_ hIn (m:=s.ks) fun x hx=>(E x).2 hx;exact this,NmI.init E,(aB_.nil 9 1)⟩ zl (f_ d_ (F_ t_ ah_)) zh ?_;rintro ⟨⟨s,W,svW,HW,N,H,Z⟩,hC,hW,a5,hN,B⟩;dsimp only at hC hW a5 hN B ⊢;have hsl:=kv_ hT s.hE.nd hC.rch;have hNl:=hN.len;refine Zz 5 ?_;refine e_ (qq_ hW m_ rfl) rfl ?_;refine Zi 0 (fun hr_2=>?_) fun hr_2=>?_
  ·obtain⟨k,W,rfl⟩:∃ k b1,W=k::b1:=by cases W with|nil=>simp at*| cons k b1=>exact⟨k,b1,rfl⟩
   refine Zz 8 ?_;refine e_ (sY_ hW m_ H_ rfl rfl zx_ zar_) rfl ?_;refine e_ (qr_ (k:=(0:Int).toNat*1) hW zp ab_ rfl rfl) rfl (Zz 6 ?_);refine qZ_ (i:=1) (kl:=.i64) hW m_ H_ rfl rfl zar_ rfl fun a2 ho_1=>?_;have hW_1:ORow 9 1 a2 (List.length W) (List.flatMap ap_ W) HW:=by simpa [ap_] using ho_1
   have hJ_1:=hC.pop;have hlk:=dO_ D k;refine Zz 7 ?_;refine e_ (bQ_ (k:=k) (adr:=adr) bG_ jz_ ci_ rfl rfl zf) rfl (Zz 5 ?_);refine P_ (ι:={y:Nat×StM×List Str×Value×Hp×List Str×Value×Hp // y.1≤List.length (lat D k)∧CJ (nxD D) I k y.1 y.2.1.ks y.2.2.1∧ORow 9 1 y.2.2.2.1 (List.length y.2.2.1) (List.flatMap ap_ y.2.2.1) y.2.2.2.2.1∧List.length y.2.1.ks+List.length W=List.length s.ks+List.length y.2.2.1∧NmI I y.2.1.ks y.2.2.2.2.2.1∧zR 9 1 ap_ y.2.2.2.2.2.2.1 y.2.2.2.2.2.1 y.2.2.2.2.2.2.2}) (fun y=>[(0,.slice e (List.length I) d),(1,.map (some sb)),(4,.slice none 0 0),(5,y.1.2.2.2.1),(6,.map (some L)),(9,y.1.2.2.2.2.2.2.1),(35,.slice (Prod.fst (adr k)) (List.length (lat D k)) (Prod.snd (adr k))),(36,.int .i64 (List.length (lat D k):Int)),(37,.int .i64 (y.1.1:Int))]) (fun y=>((L,.map y.1.2.1.es y.1.2.1.c)::(y.1.2.2.2.2.1++y.1.2.2.2.2.2.2.2))) (fun y=>[mlF Tryz.prog 9 str Fc.cells sb D adr,V_ e (List.flatMap ap_ I)]) (fun y=>List.length (lat D k) - y.1.1) ⟨((0:Nat),s,W,a2,HW,N,H,Z),by simp,hJ_1,hW_1,rfl,hN,B⟩ zl zp zh ?_;rintro ⟨⟨j,C,Q,V,a4,a7,H,Z⟩,hi_j,hJ,P,hcn,G,B⟩;dsimp only at hi_j hJ P hcn G B ⊢;have hsl_1:=kv_ hT C.hE.nd hJ.rch;have hwk_1:List.length W+1≤List.length s.ks:=by simpa using a5
   have hNl_1:=G.len;refine Zi 2 (fun hr_3=>?_) fun hr_3=>?_
   ·refine Zz 6 ?_
    exact y_ ⟨(C,Q,V,a4,a7,H,Z),hJ.done (by rw[nxD,List.length_map];omega),P,by dsimp only;simp only[List.length_cons]at a5;omega,G,B⟩ (by dsimp only;have:=kv_ hT C.hE.nd hJ.rch;simp only[List.length_cons]at *;omega) zl (f_ d_ (F_ t_ ah_)) zh
   have M:j<List.length (lat D k):=by omega
   obtain⟨A,K⟩:∃ b2,(lat D k)[j]? = some b2:=⟨_,List.getElem?_eq_getElem M⟩;have hmf_1:A∈(lat D k):=List.mem_of_getElem? K;refine Zz 10 ?_;refine e_ (U_ A_ E_ rfl rfl (fun v _ h=>aE_ (n:=6) Fc.cells_len zx_ (by exact (bl_ h.1 k)) K) zr_ zA_) rfl ?_;refine e_ (au_ (ad:=(Prod.fst (adr k))) (us:=Fc.cells A) bH_ E_ rfl (fun v _ h=>by exact (bl_ h.1 k)) (Fc.cells_len _) (p_ Fc.cells_len K)) rfl (D_ ae_ rfl fun b_2=>x_ 0 E_ rfl rfl rfl rfl rfl rfl (Zz 7 ?_));refine C_ (aD_ (bJ_ (k:=A.b) (q:=C.ks) bG_ S_ aM_ rfl rfl C.hE (fun v h _=>(h.own _ (List.mem_of_getElem? (i:=1) rfl)).1)) (show _=Value.bool (decide (A.b∈C.ks)) from congrArg Value.bool (decide_eq_decide.2 Iff.rfl))) rfl fun r_1 F=>e_ (aJ_ rfl) rfl (Zz 2 ?_)
   cases r_1
   ·replace F:=zdf F
    have hfk:=F;refine Zz 6 ?_;refine ec_ 1 C bG_ (.inr rfl) S_ rfl rfl rfl rfl (Zz 7 ?_);refine R_ m_ H_ aK_ rfl rfl rfl rfl rfl rfl fun b_3=>?_;refine bu_ (List.flatMap ap_ [A.b]) d_ rfl ?_;refine mj_ (n:=List.length Q) (m:=List.length [A.b]) (news:=List.flatMap ap_ [A.b]) cW_ P rfl rfl zC_ zC_ (c_ (c_ t_)) rfl zf (fun u hu=>ak_ cx_ hu) zaV_ zT_ rfl fun R a3 S=>?_;have hr1q:ORow 9 1 R (List.length (Q++[A.b])) (List.flatMap ap_ (Q++[A.b])) a3:=by rw[List.length_append,List.flatMap_append];exact S
    refine Zz 3 ?_;refine u_ (Y_ (g_ d_) (bq_ (g_ d_))) (Zz 4 ?_);refine R_ m_ H_ aK_ rfl rfl rfl rfl rfl rfl fun b_4=>?_;refine ay_ (news:=List.flatMap ap_ [A.b]) cW_ B rfl rfl zp rfl (be_ 0 rfl) (fun u hu=>ak_ cx_ hu) zv_ zy_ rfl fun sv_2 Hr_1 U=>?_;have S:=zsa U;refine Zz 3 ?_;refine u_ (Y_ (g_ d_) (Y_ (g_ d_) (bq_ (g_ d_)))) (Zz 5 ?_);exact y_ ⟨(j+1,(StM.add C A.b),(Q++[A.b]),R,a3,(a7++[A.b]),sv_2,Hr_1),M,hJ.take (vY_ K) fun n=>StM.mem,hr1q,(by rw[pA_ (by simpa using hfk),List.length_append,List.length_append];simp only[List.length_cons,List.length_nil];omega),G.take (by simpa using hfk) fun n=>StM.mem,S⟩ zu_ zl zp (fun _ _ h=>h.2)
   replace F:=zdt F;refine Zz 8 ?_;exact y_ ⟨(j+1,C,Q,V,a4,a7,H,Z),M,hJ.skip (vY_ K) (by simpa using F),P,hcn,G,B⟩ zu_ zl (f_ (c_ d_) (F_ (c_ t_) B_)) zh
  refine Zz 8 ?_;refine i_ (mH_ B zr_) rfl zp zt rfl fun⟨HsN,hsn⟩=>?_;dsimp only;have hsN:aB_ 9 1 H (List.length (bg_ N)) (List.flatMap ap_ (bg_ N)) HsN:=by rw[List.length_mergeSort];exact hsn
  refine Zz 2 ?_;refine u_ (bq_ (g_ d_)) (as_ ?_);obtain rfl:W=[]:=List.eq_nil_of_length_eq_zero zr_;refine aN_ hsN (c_ t_) fun a0 O hnad b0 hmnad a6=>?_;subst hnad;have a9:∀ x∈[(SL.mk I e d),(SL.mk (bg_ N) a0 O)],x.ok:=sl_two ⟨a8.1,a8.2.2,by dsimp only;omega⟩ ⟨b0,a6,by dsimp only;rw[List.length_mergeSort];omega⟩;refine Zz 3 ?_;refine R_ cI_ bI_ bB_ rfl rfl rfl rfl rfl rfl fun b_2=>?_;refine bu_ (List.flatMap SL.cells [(SL.mk I e d),(SL.mk (bg_ N) a0 O)]) d_ rfl ?_;refine i_ (uI_ [(SL.mk I e d),(SL.mk (bg_ N) a0 O)] (some ⟨b_2,0,none⟩) 2 a9 zC_) rfl l_ (fun v _ h=>by exact⟨h.1,xF_ h.2.2.2.1 h.2.1,trivial⟩) rfl fun⟨⟨ad_1,cp_1⟩,hc_1,hc_2,hc_3⟩=>?_;dsimp only;refine Zz 4 ?_;exact af_ Tryz.results84 ⟨((ic_ [(SL.mk I e d),(SL.mk (bg_ N) a0 O)]),ad_1,cp_1),⟨N,hN.nd,by simp[ic_],hN.dj,fun t=>by rw[← hN.mem];exact hC.fine t⟩,hc_1,hc_2,hc_3⟩ rfl l_ zf
 have X:i<List.length I:=by omega
 obtain⟨C,E⟩:∃ b2,I[i]? = some b2:=⟨_,List.getElem?_eq_getElem X⟩;have hms_1:C∈I:=List.mem_of_getElem? E;refine Zz 10 ?_;refine e_ (bR_ J m_ H_ rfl rfl zr_ zr_) rfl (e_ (cX_ J B_ ab_ rfl (p_ aw_ E 0 _ rfl)) rfl (Zz 6 ?_));refine ec_ 0 s bG_ (.inr rfl) S_ rfl rfl rfl rfl (Zz 7 ?_);exact y_ ⟨(i+1,(StM.add s C),Y,a1),X,(by intro n;rw[StM.mem,hs n,tk1 E];simp),J⟩ zu_ zl zp zh
end Go.Proofs.YtpbnmnfdgckaiaaGreatDoor
namespace Go.Proofs.YtpbnmnfdgckaiaaGreatDoor
open Go Go.Sx Go.Proofs
attribute [local irreducible] Code.wp wpList wpAnyH
open Go.Vs Go.Shelf Go.RowKit
theorem yE_ {l:List Fc}:∀ {x z:Fc},z∈x::cpG (fun x w=>decide (x=w)) x l↔z∈x::l:=by
 induction l with
 | nil=>intro x z;simp[cpG]
 | cons y l ih =>
   intro x z;unfold cpG
   split
   · rename_i h
     have h:=of_decide_eq_true h;subst h;rw[ih];simp
   · have d:=ih (x:=y) (z:=z)
     simp only[List.mem_cons]at d ⊢;rw[d]
theorem yD_ {l:List Fc}:∀ {x:Fc},(x::l).Pairwise (fun x y=>¬ y.lt x)→Srt (x::cpG (fun x w=>decide (x=w)) x l):=by
 induction l with
 | nil=>intro x _;unfold Srt;simp[cpG]
 | cons y l ih =>
   intro x h;have d:=List.pairwise_cons.1 h;unfold cpG
   split
   · rename_i e
     have e:=of_decide_eq_true e;subst e;exact ih d.2
   · rename_i e
     have e:y≠x:=fun q=>e (decide_eq_true q)
     have m:=ih d.2
     have k:x.lt y:=by
       rcases Fc.lt_tri x y with q|q|q
       · exact q
       · exact absurd q.symm e
       · exact absurd q (d.1 y zC_)
     refine List.pairwise_cons.2 ⟨fun z v=>?_,m⟩;rcases List.mem_cons.1 v with rfl|v
     · exact k
     · exact Fc.lt_trans k ((List.pairwise_cons.1 m).1 z v)
theorem iB_ {d:List Fc} {z:Fc}:z∈hE_ d↔z∈d:=by
  rw[← qC_ d z];unfold hE_ cpL;cases fp_ d with
  | nil=>simp
  | cons x l=>exact yE_
theorem iA_ (k:List Fc):Srt (hE_ k):=by
 have h:(fp_ k).Pairwise fun x y=>(!(ltOf hW_) y x)=true:=List.pairwise_mergeSort
   (fun a b c h d=>by simp only[Bool.not_eq_true']at *;exact xt_.ntrans c b a d h)
   (fun a b=>by
     simp only[Bool.or_eq_true,Bool.not_eq_true'];rw[ltF,ltF,decide_eq_false_iff_not,decide_eq_false_iff_not];rcases Fc.lt_tri a b with g|g|g
     · exact .inl fun q=>Fc.lt_irr a (Fc.lt_trans g q)
     · subst g;exact .inl a.lt_irr
     · exact .inr fun q=>Fc.lt_irr a (Fc.lt_trans q g)) k
 have d:(fp_ k).Pairwise fun x y=>¬ y.lt x:=h.imp fun {a b} q=>by rw[Bool.not_eq_true',ltF,decide_eq_false_iff_not]at q;exact q
 unfold hE_ cpL;cases e:fp_ k with
 | nil=>unfold Srt;simp
 | cons x l=>rw[e]at d;exact yD_ d
def rkF (r:List Fc×Option Addr×Nat):Prop:=r.1.length≤r.2.2∧r.2.2≤maxLen∧(r.2.1=none→r.2.2=0)
def uT_ (l:List Ax) (X:List Fc):Prop:=Srt X∧∀ z,z∈X↔∃ r t,(r∈vcL 6 l∧r≠[])∧RchS (lat (fU_ l)) [r] t∧z=ac_ r t
theorem na_ {k:Int}:∀ {l:List Ax},(∀ x∈l,x.left.sz≤64∧x.right.sz≤64∧x.roles.length≤4)→(vcL k l).length≤136*l.length
  | [],_=>by simp[vcL]
  | x::l,h=>by
    have e:=na_ (k:=k) (l:=l) fun y d=>h y zah_
    obtain⟨a,b,c⟩:=h x zC_
    have m:(x.vc k).length≤136:=by
      unfold Ax.vc;have:=Con.nms_len k x.left;have:=Con.nms_len k x.right;rw[List.length_append,List.length_append,List.length_append]
      split<;>split<;>simp<;>omega
    unfold vcL at e ⊢;rw[List.flatMap_cons,List.length_append,List.length_cons];omega
theorem oZ_ {c:Con} (h:c.check=0) {r:Str} (k:r∈c.nms 6):bx_ r=true:=by
  unfold Con.nms at k;obtain⟨d,e,rfl⟩:=List.mem_map.1 k;rw[List.mem_filter]at e;have hk:d.kind=6:=by simpa using e.2
  exact (Con.names_of ((Con.check_iff d).1 (pb_ _ c (Nat.le_refl _) h d e.1)).2.2).plain (.inr (.inl hk))
theorem pa_ {c:Con} (h:c.empty=true) {r:Str} (d:r∈c.nms 6):bx_ r=true:=by
  cases c with
  | mk k n l hi ad cp ps =>
    unfold Con.empty at h;simp only[Bool.and_eq_true,beq_iff_eq,Con.parts,Con.kind]at h;have:ps=[]:=List.eq_nil_of_length_eq_zero zr_;subst this;rw[Con.nms_eq]at d;simp[Con.kind,Con.parts,h.1.1.1.1]at d
theorem qu_ {l:List Ax} (B:∀ x∈l,x.check=0) {r:Str} (d:r∈vcL 6 l) (E:r≠[]):bx_ r=true:=by
 unfold vcL at d;obtain⟨x,C,d⟩:=List.mem_flatMap.1 d;have m:=B x C;have h:=Ax.good_of m;have k:=ls_ m;unfold Ax.shaped at k;rw[if_neg (by have:=h.k1;have:=h.k9;omega)]at k;simp only[Bool.and_eq_true,Bool.or_eq_true]at k;obtain⟨⟨⟨⟨⟨⟨y,A⟩,v⟩,_⟩,_⟩,_⟩,_⟩:=k;unfold Ax.vc at d;rw[if_pos rfl,if_neg zx_,List.append_nil,List.mem_append,List.mem_append,List.mem_append,List.mem_singleton]at d;rcases d with (d|d)|d|rfl
 ·exact y.elim (fun q=>oZ_ (qj_ m q) d) (fun q=>pa_ q d)
 ·exact A.elim (fun q=>oZ_ (rK_ m q) d) (fun q=>pa_ q d)
 ·exact h.roles r d
 have hk:x.kind=1∨x.kind=2∨x.kind=3∨x.kind=4∨x.kind=5∨x.kind=6∨x.kind=7∨x.kind=8∨x.kind=9:=by have:=h.k1;have:=h.k9;omega
 rcases v with q|q
 ·refine h.role ?_
  rcases hk with e|e|e|e|e|e|e|e|e<;>rw[e]at q<;>first|omega|exact absurd q zx_
 exact absurd (by simpa using q) E
theorem vt_ {l:List Str} (h:SrS l):l.Nodup:=h.imp fun {a b} q e=>by subst e;exact List.lt_irrefl _ q
theorem kx_ {s:Str} (h:bx_ s=true):ba_ s=true:=by unfold ba_;rw[h];rfl
theorem inc_in {z:Fc} {X:Prop} {T:List Str} {r t:Str}:((X∨∃ t∈T,z=ac_ r t)∨z=ac_ r t)↔(X∨∃ u∈T++[t],z=ac_ r u):=by
 constructor
 ·rintro ((h|⟨u,d,e⟩)|e)
  ·exact .inl h
  ·exact .inr ⟨u,by simp[d],e⟩
  exact .inr ⟨t,by simp,e⟩
 rintro (h|⟨u,d,e⟩)
 ·exact .inl (.inl h)
 rw[List.mem_append,List.mem_singleton]at d;rcases d with d|rfl
 ·exact .inl (.inr ⟨u,d,e⟩)
 exact .inr e
theorem wy_ {l:List Ax} {R T:List Str} {r:Str} (h:zd_ l r T) {z:Fc}:((∃ s∈R,∃ t,RchS (lat (fU_ l)) [s] t∧z=ac_ s t)∨∃ t∈T,z=ac_ r t)↔∃ s∈R++[r],∃ t,RchS (lat (fU_ l)) [s] t∧z=ac_ s t:=by
 constructor
 ·rintro (⟨s,d,q⟩|⟨t,k,e⟩)
  ·exact⟨s,by simp[d],q⟩
  exact⟨r,by simp,t,(h.2 t).1 k,e⟩
 rintro ⟨s,d,t,k,e⟩;rw[List.mem_append,List.mem_singleton]at d;rcases d with d|rfl
 ·exact .inl ⟨s,d,t,k,e⟩
 exact .inr ⟨t,(h.2 t).2 k,e⟩
theorem yu_ {l:List Ax} {R:List Str} (h:lu_ 6 l R) {z:Fc}:(∃ s∈R,∃ t,RchS (lat (fU_ l)) [s] t∧z=ac_ s t)↔∃ r t,(r∈vcL 6 l∧r≠[])∧RchS (lat (fU_ l)) [r] t∧z=ac_ r t :=
  ⟨fun⟨s,k,t,d,e⟩=>⟨s,t,⟨((h.2 s).1 k).1,((h.2 s).1 k).2 (.inl rfl)⟩,d,e⟩,fun⟨s,t,⟨m,q⟩,d,e⟩=>⟨s,(h.2 s).2 ⟨m,fun _=>q⟩,t,d,e⟩⟩
theorem incl_c (q:List Ax) (lad:Option Addr) (lcap:Nat) (V:∀ x∈q,x.ok) (R:∀ x∈q,x.check=0) (c0:q.length≤20):Tri Tryz.prog 33 #[.slice lad (List.length q) lcap] [] [cu_ lad q,bV_] (fun y:{y:List Fc×Option Addr×Nat // uT_ q y.1∧rkF y}=>.tuple #[.slice y.1.2.1 y.1.1.length y.1.2.2,.int .i64 0]) (fun _=>[]) (fun y=>[V_ y.1.2.1 (y.1.1.flatMap Fc.cells)]):=by
 refine j_ Tryz.func33 rfl rfl Tryz.ntmps33 rfl fun v_1=>?_;have a3:∀ x∈q,x.left.sz≤64∧x.right.sz≤64∧x.roles.length≤4:=fun x hx=>⟨(pt_ (R x hx)).1,(pt_ (R x hx)).2,xb_ (R x hx)⟩
 refine Zz 9 ?_;refine i_ (voc_c q lad lcap V R c0) rfl l_ zf rfl fun⟨⟨⟨a8,Y,ccp⟩,⟨R1,rad,b2⟩,⟨a4,a6,ecp⟩,⟨b4,a9,xcp⟩⟩,⟨a2,a0⟩,⟨A,b8⟩,⟨S,b5⟩,b3,W⟩=>?_;dsimp only;dsimp only at a2 a0 A b8 S b5 b3 W;have hRn:List.length R1≤136*List.length q:=by have d2:=cd_ (vt_ A.1) (m:=vcL 6 q) fun n hn=>((A.2 n).1 hn).1;have d5:=na_ (k:=6) (l:=q) a3;omega
 refine Zz 3 ?_;refine D_ Tryz.zeroValue133 rfl fun b_1=>x_ 0 Tryz.sizeOf133 rfl rfl rfl rfl rfl rfl (Zz 7 ?_)
 refine e_ (aD_ (cf_ rfl rfl) (show _=Value.bool false from congrArg Value.bool zx_)) rfl (Zz 15 ?_);refine P_ (ι:={y:Nat×List Fc×Value×Hp // y.1≤List.length R1∧(∀ z,z∈y.2.1↔∃ r∈List.take y.1 R1,∃ t,RchS (lat (fU_ q)) [r] t∧z=ac_ r t)∧List.length y.2.1≤21*y.1∧zR 36 6 Fc.cells y.2.2.1 y.2.1 y.2.2.2}) (fun y=>[(0,.slice lad (List.length q) lcap),(2,y.1.2.2.1),(3,.int .i64 0),(20,.slice rad (List.length R1) b2),(21,.int .i64 (List.length R1:Int)),(22,.int .i64 (y.1.1:Int))]) (fun y=>(y.1.2.2.2)) (fun y=>[V_ Y (List.flatMap ap_ a8),V_ rad (List.flatMap ap_ R1),V_ a6 (List.flatMap ap_ a4),V_ a9 (List.flatMap ap_ b4),cu_ lad q,bV_]) (fun y=>List.length R1 - y.1.1) ⟨((0:Nat),([]:List Fc),(.slice none 0 0),[]),by simp,(by intro z;simp),zC_,(aB_.nil _ _)⟩ zl l_ zh ?_;rintro ⟨⟨i,X,C,Q⟩,T,hX,c1,d⟩;dsimp only at T hX c1 d ⊢;refine Zi 2 (fun v=>?_) fun v=>?_
 ·refine Zz 7 ?_
  refine aN_ d ah_ fun c2 d7 b6 L d4 hzqad=>?_;subst b6;refine Zz 2 ?_;refine i_ (hg_ X c2 d7 L zr_) rfl l_ zf rfl fun⟨⟨sad,scp⟩,O,K,N⟩=>?_;dsimp only;refine Zz 5 ?_;have d3:uT_ q (hE_ X):=⟨iA_ X,fun z=>by rw[iB_,hX z,List.take_of_length_le zr_];exact yu_ A⟩;exact lg_ Tryz.results33 ⟨(hE_ X,sad,scp),d3,O,K,N⟩ rfl rfl rfl l_ zf
 have G:i<List.length R1:=by omega
 obtain⟨B,v⟩:∃ P,R1[i]? = some P:=⟨_,List.getElem?_eq_getElem G⟩;have E:B∈R1:=List.mem_of_getElem? v;have Z:=qu_ R ((A.2 B).1 E).1 (((A.2 B).1 E).2 (.inl rfl));refine Zz 19 ?_;refine i_ (yZ_ q lad lcap V R c0 B (kx_ Z) (by have:=dR_ Z;omega)) rfl l_ zf rfl fun⟨⟨e,b0,d6⟩,I,d1⟩=>?_;dsimp only;dsimp only at I d1;have hTl:List.length e≤List.length q+1:=by have d2:=iJ_ (vt_ I.1) (fun t ht=>(I.2 t).1 ht);have d5:=iZ_ q;omega
 refine Zz 11 ?_;refine e_ (aD_ (cf_ rfl rfl) (show _=Value.bool false from congrArg Value.bool zx_)) rfl (Zz 13 ?_);refine P_ (ι:={y:Nat×List Fc×Value×Hp // y.1≤List.length e∧(∀ z,z∈y.2.1↔z∈X∨∃ t∈List.take y.1 e,z=ac_ B t)∧List.length y.2.1=List.length X+y.1∧zR 36 6 Fc.cells y.2.2.1 y.2.1 y.2.2.2}) (fun y=>[(0,.slice lad (List.length q) lcap),(2,y.1.2.2.1),(3,.int .i64 0),(20,.slice rad (List.length R1) b2),(21,.int .i64 (List.length R1:Int)),(22,.int .i64 (i:Int)),(6,str B),(35,.slice b0 (List.length e) d6),(36,.int .i64 (List.length e:Int)),(37,.int .i64 (y.1.1:Int))]) (fun y=>(y.1.2.2.2)) (fun y=>[V_ b0 (List.flatMap ap_ e),V_ Y (List.flatMap ap_ a8),V_ rad (List.flatMap ap_ R1),V_ a6 (List.flatMap ap_ a4),V_ a9 (List.flatMap ap_ b4),cu_ lad q,bV_]) (fun y=>List.length e - y.1.1) ⟨((0:Nat),X,C,Q),by simp,(by intro z;simp),zC_,d⟩ zl ah_ zh ?_;rintro ⟨⟨j,a5,C,Q⟩,b1,H,b7,d⟩;dsimp only at b1 H b7 d ⊢;refine Zi 2 (fun a7=>?_) fun a7=>?_
 ·refine Zz 11 ?_
  exact y_ ⟨(i+1,a5,C,Q),G,(by intro z;rw[H z,hX z,List.take_of_length_le (l:=e) zr_,tk1 v];exact wy_ I),zu_,d⟩ zu_ zl ah_ (fun _ _ h=>h.2)
 have F:j<List.length e:=by omega
 obtain⟨M,J⟩:∃ P,e[j]? = some P:=⟨_,List.getElem?_eq_getElem F⟩;have d0:M∈e:=List.mem_of_getElem? J;refine Zz 19 ?_;refine e_ (K_ fb_ rfl rfl) rfl (R_ A_ E_ ae_ rfl rfl rfl rfl rfl rfl fun b_2=>?_);refine ay_ (news:=List.flatMap Fc.cells [(Fc.mk 1 B M [] 0 0)]) eu_ d rfl rfl B_ rfl (be_ 0 rfl) (fun u hu=>ak_ Fc.cells_one hu) zv_ zy_ rfl fun U b9 v=>?_;refine u_ List.perm_append_comm ?_;have a1:=zsa v;refine Zz 8 ?_;exact y_ ⟨(j+1,(a5++[(ac_ B M)]),U,b9),F,(by intro z;rw[List.mem_append,H z,tk1 J,List.mem_singleton];exact inc_in),zK_,a1⟩ zu_ zl B_ zh
theorem uu_ {N:Nf} {x:Vw} {A:Hp} {fr:Fr} {F H:Hp} {Γ:List Fct} {P:Program} {K D:Type} [DecidableEq K] {k:Act→World→Prop} {q:K→Value} {cells:D→List Value} {y e:TypeId} {sz B:Nat} {l:List (K×D)} {d:Hp} (G:KeyT P y q) (hm:dl_ q cells e sz l B d) (C:H.Perm (d++F))
    (h:∀ adr:K→Option Addr×Nat,(∀ k,(lat l k).length≤(adr k).2∧((adr k).1=none→(adr k).2=0))→Ok N x A k fr F (mlF P y q cells B l adr::Γ)):Ok N x A k fr H Γ:=by
  obtain⟨adr,E,J⟩:=hm.lentC G;refine nJ_ d C (dG_ (fun v _ m=>?_) (h adr E));rw[fm_]at m;refine⟨J v fun p I=>?_,m.2⟩;have:=m.1;exact jU_ d.reverse (by rw[List.map_reverse]at *;exact this) p (List.mem_reverse.2 I)
def eA_ (l:List Str):List Str:=l.filter fun s=>!nls s
def tyL (K:List Str) (l:List Fc):List Fc:=l.filter fun z=>decide (z.kind=1)&&decide (z.a∈K)
def liL (l:List Fc):List Fc:=l.filter fun z=>decide (z.kind=2)&&(!nls z.a&&!nls z.b)
def raL (K:List Str) (l:List Fc):List Fc:=l.filter fun z=>decide (z.kind=3)&&decide (z.a∈K)
structure AsmR (p:List Pc) (c:Cl) (X:List Str) (Ty Li Di Ra:List Fc):Prop where
  nd:oD_ (ds_ p c.facts) (eA_ c.atoms) X
  ty:Srt Ty∧∀ z,z∈Ty↔z∈c.facts∧z.kind=1∧z.a∈X
  li:Srt Li∧∀ z,z∈Li↔z∈c.facts∧z.kind=2∧nls z.a=false∧nls z.b=false
  di:Srt Di∧∀ z,z∈Di↔∃ s∈X,(s,z)∈ds_ p c.facts
  ra:Srt Ra∧∀ z,z∈Ra↔z∈c.facts∧z.kind=3∧z.a∈X
theorem ys_ {l:List Str} (h:SrS l):Lib.compact (bg_ (eA_ l))=eA_ l:=by
  have d:SrS (eA_ l):=h.sublist List.filter_sublist;exact kr_ (hV_ (gs_ _)) d fun x=>by rw[iX_,List.mem_mergeSort]
theorem vX_ {p:List Pc} {F:List Fc} (s t:Str) (h:t∈nxD (ds_ p F) s):t∈p.map Pc.c:=by
  unfold nxD at h;obtain⟨z,e,rfl⟩:=List.mem_map.1 h;obtain⟨f,_,y,d,_,_,_,_,rfl⟩:=kN_.1 (bP_.1 e);exact List.mem_map.2 ⟨y,d,rfl⟩
theorem jS_ {K D:Type} [DecidableEq K]:∀ (L:List (K×D)) {X:List K},X.Nodup→(X.flatMap (lat L)).length≤L.length
 | [],X,_=>by
   have:X.flatMap (lat ([]:List (K×D)))=[]:=List.flatMap_eq_nil_iff.2 fun x _=>rfl
   rw[this];simp
 | (k,d)::L,X,h=>by
   have m:∀ X:List K,(X.flatMap (lat ((k,d)::L))).length=(X.flatMap (lat L)).length+X.count k:=by
     intro X
     induction X with
     | nil=>rfl
     | cons x X ih =>
       rw[List.flatMap_cons,List.flatMap_cons,List.length_append,List.length_append,ih,List.count_cons]
       have e:(lat ((k,d)::L) x).length=(lat L x).length+if x==k then 1 else 0:=by
         unfold lat;rw[List.filter_cons]
         by_cases q:k=x
         · subst q;simp
         · rw[if_neg (by simpa using q),if_neg (by simpa using fun e=>q e.symm)];rfl
       rw[e];omega
   have v:=jS_ L h;have y:=List.nodup_iff_count.1 h k;rw[m,List.length_cons];omega
theorem tm_ {D:List (Str×Fc)} {I X:List Str} (h:oD_ D I X) (m:I.Nodup):X.Nodup:=by
  obtain⟨N,q,rfl,k,_⟩:=h;rw[List.nodup_append];exact⟨m,(List.mergeSort_perm _ _).nodup_iff.2 q,fun a v b d e=>by subst e;rw[List.mem_mergeSort]at d;exact k a d v⟩
theorem yg_ {D:List (Str×Fc)} {I X T:List Str} (h:oD_ D I X) (v:∀ s,∀ t∈nxD D s,t∈T) (A:T.length≤20000) (B:I.length≤40000):X.length≤60000:=by
  obtain⟨N,d,rfl,q,e⟩:=h;have y:=cd_ d (m:=I++T) fun s k=>((e s).1 (.inr k)).mem v
  have x:N.length≤T.length:=cd_ d fun s k=>by
    have:=((e s).1 (.inr k)).mem v;rw[List.mem_append]at this;exact this.resolve_left (q s k)
  rw[List.length_append,List.length_mergeSort];omega
theorem eQ_ {G:Prop} (h:G:=by
 refine Zz 8 ?_;exact mb_):G:=h
theorem eR_ {G:Prop} (h:G:=by
 refine Zz 17 ?_;exact mb_):G:=h
theorem ma_ {G:Prop} (h:G:=by
 refine Zz 1 ?_;refine u_ (Y_ (g_ d_) (Y_ (g_ d_) (Y_ (g_ d_) (Y_ (g_ d_) (bq_ (g_ d_)))))) (dF_ 3 x aH_ rfl rfl rfl rfl (Zz 7 ?_));exact y_ ⟨(j+1,I,N,H,G,L,Q),A,zO_,(by have e:liL (List.take (j+1) c.facts)=((liL (List.take j c.facts))++[B]):=(by unfold liL;rw[tk1 d,List.filter_append];simp_all);rw[e];exact x),zP_⟩ zu_ zl (f_ (c_ (c_ d_)) (f_ (c_ (c_ d_)) (f_ (c_ (c_ d_)) (F_ (c_ (c_ (g_ t_))) (F_ (c_ (c_ t_)) (c_ B_)))))) zh):G:=h
theorem eS_ {G:Prop} (h:G:=by
 refine Zz 1 ?_;refine u_ (Y_ (g_ d_) (Y_ (g_ d_) (Y_ (g_ d_) (Y_ (g_ d_) (bq_ (g_ d_)))))) (dF_ 3 x aH_ rfl rfl rfl rfl (Zz 7 ?_));exact y_ ⟨(j+1,I,N,J,O,H,G),A,zO_,zR_,(by have e:raL s.ks (List.take (j+1) c.facts)=((raL s.ks (List.take j c.facts))++[B]):=(by unfold raL;rw[tk1 d,List.filter_append];simp_all);rw[e];exact x)⟩ zu_ zl (f_ (c_ (c_ d_)) (f_ (c_ (c_ d_)) (f_ (c_ (c_ d_)) (F_ (c_ (c_ (g_ t_))) (F_ (c_ (c_ bf_)) (c_ B_)))))) zh):G:=h
theorem mb_ {G:Prop} (h:G:=by
 exact y_ ⟨(j+1,I,N,J,O,L,Q),A,zO_,zR_,zP_⟩ zu_ zl (f_ (c_ d_) (f_ (c_ d_) (f_ (c_ d_) (F_ (c_ t_) (F_ (c_ t_) B_))))) zh):G:=h
set_option maxHeartbeats 1000000 in
theorem sT_ (p:List Pc) (Y:Option Addr) (a1:Nat) (c:Cl) (hco:c.ok) (hp:p.length≤12000) (hF:c.facts.length≤65536) (hA:c.atoms.length≤40000) (hAs:SrS c.atoms):Tri Tryz.prog 34 #[.slice Y (List.length p) a1,Cl.val c] [] [V_ Y (List.flatMap Pc.cells p),V_ c.aad (List.flatMap ap_ c.atoms),V_ c.fad (List.flatMap Fc.cells c.facts)] (fun y:{y:(List Str×Option Addr×Nat)×(List Fc×Option Addr×Nat)×(List Fc×Option Addr×Nat)×(List Fc×Option Addr×Nat)×(List Fc×Option Addr×Nat) // AsmR p c y.1.1 y.2.1.1 y.2.2.1.1 y.2.2.2.1.1 y.2.2.2.2.1∧rkS y.1∧rkF y.2.1∧rkF y.2.2.1∧rkF y.2.2.2.1∧rkF y.2.2.2.2}=>.agg #[.slice y.1.1.2.1 y.1.1.1.length y.1.1.2.2,.slice y.1.2.1.2.1 y.1.2.1.1.length y.1.2.1.2.2,.slice y.1.2.2.1.2.1 y.1.2.2.1.1.length y.1.2.2.1.2.2,.slice y.1.2.2.2.1.2.1 y.1.2.2.2.1.1.length y.1.2.2.2.1.2.2,.slice y.1.2.2.2.2.2.1 y.1.2.2.2.2.1.length y.1.2.2.2.2.2.2,.slice none 0 0]) (fun _=>[]) (fun y=>[V_ y.1.1.2.1 (y.1.1.1.flatMap ap_),V_ y.1.2.1.2.1 (y.1.2.1.1.flatMap Fc.cells),V_ y.1.2.2.1.2.1 (y.1.2.2.1.1.flatMap Fc.cells),V_ y.1.2.2.2.1.2.1 (y.1.2.2.2.1.1.flatMap Fc.cells),V_ y.1.2.2.2.2.2.1 (y.1.2.2.2.2.1.flatMap Fc.cells)]):=by
 refine j_ Tryz.func34 rfl rfl Tryz.ntmps34 rfl fun v_1=>?_;refine Zz 2 ?_;refine aa_ rfl rfl fun b1=>D_ aS_ rfl fun b2=>Zz 17 ?_
 refine P_ (ι:={y:Nat×Value×Hp // y.1≤List.length c.atoms∧zR 9 1 ap_ y.2.1 (eA_ (List.take y.1 c.atoms)) y.2.2}) (fun y=>[(0,.slice Y (List.length p) a1),(3,zp_ b1 0),(4,zp_ b2 0),(5,y.1.2.1),(15,.slice c.aad (List.length c.atoms) c.acap),(16,.int .i64 (List.length c.atoms:Int)),(17,.int .i64 (y.1.1:Int))]) (fun y=>((b2,.cells #[.slice none 0 0,.slice none 0 0,.slice none 0 0,.slice none 0 0,.slice none 0 0,.slice none 0 0] 28 (0,0))::((b1,.cells #[.slice c.aad (List.length c.atoms) c.acap,.slice c.fad (List.length c.facts) c.fcap] 67 (0,0))::y.1.2.2))) (fun y=>[V_ Y (List.flatMap Pc.cells p),V_ c.aad (List.flatMap ap_ c.atoms),V_ c.fad (List.flatMap Fc.cells c.facts)]) (fun y=>List.length c.atoms - y.1.1) ⟨((0:Nat),(.slice none 0 0),[]),by simp,(aB_.nil _ _)⟩ zl zp zh ?_;rintro ⟨⟨i,sv_Q,H_Q⟩,hi_i,Z⟩;dsimp only at hi_i Z ⊢;have hil:List.length (eA_ (List.take i c.atoms))≤40000:=Nat.le_trans (List.length_filter_le _ _) (Nat.le_trans (List.length_take_le i _) zr_);refine Zi 2 (fun d5=>?_) fun d5=>?_
 ·refine Zz 11 ?_
  refine i_ (sF_ p Y a1 c.facts c.fad c.fcap hp hF) rfl l_ zf rfl fun⟨⟨db,Hd⟩,hd⟩=>?_;dsimp only;dsimp only at hd;refine Zz 3 ?_;refine u_ (Y_ (g_ d_) (bq_ (g_ d_))) (as_ ?_);rw[List.take_of_length_le zr_]at Z;refine uu_ bG_ hd (c_ (c_ t_)) fun adr e5=>?_;refine aN_ Z (c_ B_) fun d4 f6 hqad f4 hmqad hzqad=>?_;subst hqad;have hil:List.length (eA_ c.atoms)≤40000:=Nat.le_trans (List.length_filter_le _ _) hA;refine Zz 2 ?_;refine i_ (rZ_ (eA_ c.atoms) d4 f6 f4 zr_) rfl l_ zf rfl fun⟨⟨g0,icp⟩,g1,hi_2,hi_3⟩=>?_;dsimp only;have e8:List.length (Lib.compact (bg_ (eA_ c.atoms)))≤40000:=by have:=gU_ (bg_ (eA_ c.atoms));rw[List.length_mergeSort]at this;omega
  refine Zz 1 ?_;refine i_ (xT_ (Lib.compact (bg_ (eA_ c.atoms))) g0 icp ⟨g1,hi_2,hi_3⟩ ((hV_ (gs_ _)).imp fun q e=>by subst e;exact List.lt_irrefl _ q) e8 db (ds_ p c.facts) adr (by have:=ho_ (p:=p) c.facts;have:=Nat.mul_le_mul hF hp;omega) (p.map Pc.c) vX_ zaH_) rfl l_ zf rfl fun⟨⟨X,a0,b3⟩,e0,hnk⟩=>?_;dsimp only;dsimp only at e0 hnk;have hXn:X.Nodup:=tm_ e0 ((hV_ (gs_ _)).imp fun q e=>by subst e;exact List.lt_irrefl _ q);have hXl:List.length X≤60000:=yg_ e0 vX_ zaH_ e8;refine Zz 1 ?_;refine x_ 0 bI_ rfl rfl rfl rfl rfl rfl (Zz 4 ?_);refine bn_ rfl fun b7=>Zz 13 ?_
  refine P_ (ι:={y:Nat×StM×Value×Hp // y.1≤List.length X∧(∀ n,n∈y.2.1.ks↔n∈List.take y.1 X)∧zR 36 6 Fc.cells y.2.2.1 (List.flatMap (lat (ds_ p c.facts)) (List.take y.1 X)) y.2.2.2}) (fun y=>[(0,.slice Y (List.length p) a1),(3,zp_ b1 0),(4,zp_ b2 0),(5,.slice d4 (List.length (eA_ c.atoms)) f6),(15,.slice c.aad (List.length c.atoms) c.acap),(16,.int .i64 (List.length c.atoms:Int)),(17,.int .i64 (i:Int)),(8,.map (some db)),(9,.map (some b7)),(40,.slice a0 (List.length X) b3),(41,.int .i64 (List.length X:Int)),(42,.int .i64 (y.1.1:Int))]) (fun y=>((b7,.map y.1.2.1.es y.1.2.1.c)::((b2,.cells #[.slice a0 (List.length X) b3,.slice none 0 0,.slice none 0 0,y.1.2.2.1,.slice none 0 0,.slice none 0 0] 28 (0,0))::((b1,.cells #[.slice c.aad (List.length c.atoms) c.acap,.slice c.fad (List.length c.facts) c.fcap] 67 (0,0))::y.1.2.2.2)))) (fun y=>[V_ a0 (List.flatMap ap_ X),V_ g0 (List.flatMap ap_ (Lib.compact (bg_ (eA_ c.atoms)))),V_ d4 (List.flatMap ap_ (eA_ c.atoms)),mlF Tryz.prog 9 str Fc.cells db (ds_ p c.facts) adr,V_ Y (List.flatMap Pc.cells p),V_ c.aad (List.flatMap ap_ c.atoms),V_ c.fad (List.flatMap Fc.cells c.facts)]) (fun y=>List.length X - y.1.1) ⟨((0:Nat),StM.nil,(.slice none 0 0),[]),by simp,(by intro n;simp[StM.nil]),(aB_.nil 36 6)⟩ zl zp zh ?_;rintro ⟨⟨m,s,sv_Z,H_Z⟩,hi_m,hs,b0⟩;dsimp only at hi_m hs b0 ⊢;have hel:List.length (List.flatMap (lat (ds_ p c.facts)) (List.take m X))≤786432000:=by have a5:=jS_ (ds_ p c.facts) (hXn.sublist (List.take_sublist m X));have a6:=ho_ (p:=p) c.facts;have h_3:=Nat.mul_le_mul hF hp;omega
  refine Zi 2 (fun V=>?_) fun V=>?_
  ·refine Zz 7 ?_
   rw[List.take_of_length_le (l:=X) zr_]at hs b0;have hel_1:List.length (List.flatMap (lat (ds_ p c.facts)) X)≤786432000:=by have a5:=jS_ (ds_ p c.facts) hXn;have a6:=ho_ (p:=p) c.facts;have h_3:=Nat.mul_le_mul hF hp;omega
   refine aN_ b0 (c_ (c_ B_)) fun ead ecp head f3 hmead hzead=>?_;subst head;refine Zz 3 ?_;refine i_ (hg_ (List.flatMap (lat (ds_ p c.facts)) X) ead ecp f3 zr_) rfl l_ zf rfl fun⟨⟨a9,b4⟩,d6,d3,c1⟩=>?_;dsimp only;refine Zz 1 ?_;refine x_ 1 aH_ rfl rfl rfl rfl rfl rfl (Zz 12 ?_);refine P_ (ι:={y:Nat×Value×Hp×Value×Hp×Value×Hp // y.1≤List.length c.facts∧zR 36 6 Fc.cells y.2.1 (tyL s.ks (List.take y.1 c.facts)) y.2.2.1∧zR 36 6 Fc.cells y.2.2.2.1 (liL (List.take y.1 c.facts)) y.2.2.2.2.1∧zR 36 6 Fc.cells y.2.2.2.2.2.1 (raL s.ks (List.take y.1 c.facts)) y.2.2.2.2.2.2}) (fun y=>[(0,.slice Y (List.length p) a1),(3,zp_ b1 0),(4,zp_ b2 0),(5,.slice d4 (List.length (eA_ c.atoms)) f6),(15,.slice c.aad (List.length c.atoms) c.acap),(16,.int .i64 (List.length c.atoms:Int)),(17,.int .i64 (i:Int)),(8,.map (some db)),(9,.map (some b7)),(40,.slice a0 (List.length X) b3),(41,.int .i64 (List.length X:Int)),(42,.int .i64 (m:Int)),(61,.slice c.fad (List.length c.facts) c.fcap),(62,.int .i64 (List.length c.facts:Int)),(63,.int .i64 (y.1.1:Int))]) (fun y=>((b7,.map s.es s.c)::((b2,.cells #[.slice a0 (List.length X) b3,y.1.2.1,y.1.2.2.2.1,.slice a9 (List.length (hE_ (List.flatMap (lat (ds_ p c.facts)) X))) b4,y.1.2.2.2.2.2.1,.slice none 0 0] 28 (0,0))::((b1,.cells #[.slice c.aad (List.length c.atoms) c.acap,.slice c.fad (List.length c.facts) c.fcap] 67 (0,0))::(y.1.2.2.1++(y.1.2.2.2.2.1++y.1.2.2.2.2.2.2)))))) (fun y=>[V_ a9 (List.flatMap Fc.cells (hE_ (List.flatMap (lat (ds_ p c.facts)) X))),V_ ead (List.flatMap Fc.cells (List.flatMap (lat (ds_ p c.facts)) X)),V_ a0 (List.flatMap ap_ X),V_ g0 (List.flatMap ap_ (Lib.compact (bg_ (eA_ c.atoms)))),V_ d4 (List.flatMap ap_ (eA_ c.atoms)),mlF Tryz.prog 9 str Fc.cells db (ds_ p c.facts) adr,V_ Y (List.flatMap Pc.cells p),V_ c.aad (List.flatMap ap_ c.atoms),V_ c.fad (List.flatMap Fc.cells c.facts)]) (fun y=>List.length c.facts - y.1.1) ⟨((0:Nat),(.slice none 0 0),[],(.slice none 0 0),[],(.slice none 0 0),[]),by simp,(aB_.nil _ _),(aB_.nil _ _),(aB_.nil _ _)⟩ zl zp zh ?_;rintro ⟨⟨j,I,N,J,O,L,Q⟩,hi_j,E,C,F⟩;dsimp only at hi_j E C F ⊢;have hltyL:List.length (tyL s.ks (List.take j c.facts))≤65536:=Nat.le_trans (List.length_filter_le _ _) (Nat.le_trans (List.length_take_le j _) zr_);have hlliL:List.length (liL (List.take j c.facts))≤65536:=Nat.le_trans (List.length_filter_le _ _) (Nat.le_trans (List.length_take_le j _) zr_);have hlraL:List.length (raL s.ks (List.take j c.facts))≤65536:=Nat.le_trans (List.length_filter_le _ _) (Nat.le_trans (List.length_take_le j _) zr_);refine Zi 2 (fun S=>?_) fun S=>?_
   ·refine Zz 7 ?_
    rw[List.take_of_length_le zr_]at E C F;refine aN_ E (c_ (c_ (c_ t_))) fun tad tcp htad f2 hmtad hztad=>?_;subst htad;refine Zz 3 ?_;refine i_ (hg_ (tyL s.ks c.facts) tad tcp f2 (Nat.le_trans (List.length_filter_le _ _) zr_)) rfl l_ zf rfl fun⟨⟨e9,e7⟩,b6,c0,d8⟩=>?_;dsimp only;refine Zz 1 ?_;refine x_ 1 aH_ rfl rfl rfl rfl rfl rfl (Zz 3 ?_);refine aN_ C (c_ (c_ (c_ t_))) fun uad ucp huad f5 hmuad hzuad=>?_;subst huad;refine Zz 3 ?_;refine i_ (hg_ (liL c.facts) uad ucp f5 (Nat.le_trans (List.length_filter_le _ _) zr_)) rfl l_ zf rfl fun⟨⟨e2,e3⟩,d7,d2,b9⟩=>?_;dsimp only;refine Zz 1 ?_;refine x_ 1 aH_ rfl rfl rfl rfl rfl rfl (Zz 3 ?_);refine aN_ F (c_ (c_ B_)) fun vad vcp hvad f8 hmvad hzvad=>?_;subst hvad;refine Zz 3 ?_;refine i_ (hg_ (raL s.ks c.facts) vad vcp f8 (Nat.le_trans (List.length_filter_le _ _) zr_)) rfl l_ zf rfl fun⟨⟨f0,e4⟩,c2,d0,d9⟩=>?_;dsimp only;refine Zz 1 ?_;refine x_ 1 aH_ rfl rfl rfl rfl rfl rfl (Zz 5 ?_);refine x_ 1 bb_ rfl rfl rfl rfl rfl rfl (Zz 3 ?_);exact hi_ ⟨((X,a0,b3),((hE_ (tyL s.ks c.facts)),e9,e7),((hE_ (liL c.facts)),e2,e3),((hE_ (List.flatMap (lat (ds_ p c.facts)) X)),a9,b4),((hE_ (raL s.ks c.facts)),f0,e4)),⟨⟨ys_ hAs▸e0,⟨iA_ _,fun z=>by rw[iB_,tyL,List.mem_filter,Bool.and_eq_true,decide_eq_true_eq,decide_eq_true_eq,hs]⟩,⟨iA_ _,fun z=>by rw[iB_,liL,List.mem_filter,Bool.and_eq_true,Bool.and_eq_true,decide_eq_true_eq,Bool.not_eq_true',Bool.not_eq_true']⟩,⟨iA_ _,fun z=>by rw[iB_,List.mem_flatMap];exact⟨fun⟨q,a5,a6⟩=>⟨q,a5,bP_.1 a6⟩,fun⟨q,a5,a6⟩=>⟨q,a5,bP_.2 a6⟩⟩⟩,⟨iA_ _,fun z=>by rw[iB_,raL,List.mem_filter,Bool.and_eq_true,decide_eq_true_eq,decide_eq_true_eq,hs]⟩⟩,hnk,⟨b6,c0,d8⟩,⟨d7,d2,b9⟩,⟨d6,d3,c1⟩,c2,d0,d9⟩⟩ (fun aa v a5 a6=>ex_ (us:=[.slice a0 (List.length X) b3,.slice e9 (List.length (hE_ (tyL s.ks c.facts))) e7,.slice e2 (List.length (hE_ (liL c.facts))) e3,.slice a9 (List.length (hE_ (List.flatMap (lat (ds_ p c.facts)) X))) b4,.slice f0 (List.length (hE_ (raL s.ks c.facts))) e4,.slice none 0 0]) 1 Tryz.results34 eF_ bb_ rfl rfl rfl aa v a5 a6) l_ zf
   have A:j<List.length c.facts:=by omega
   obtain⟨B,d⟩:∃ f7,c.facts[j]? = some f7:=⟨_,List.getElem?_eq_getElem A⟩;have hmf_1:B∈c.facts:=List.mem_of_getElem? d;refine Zz 12 ?_;refine D_ ae_ rfl fun b_4=>x_ 0 E_ rfl rfl rfl rfl rfl rfl (Zi 7 (fun d1=>?_) fun d1=>?_)
   ·refine Zi 14 (fun U=>?_) fun U=>?_
    ·refine Zi 20 (fun W=>?_) fun W=>?_
     ·exact eR_
     refine Zz 8 ?_;refine C_ (aD_ (bJ_ (k:=B.a) (q:=s.ks) bG_ S_ aM_ rfl rfl s.hE (fun v h _=>(h.own _ (List.mem_of_getElem? (i:=1) rfl)).1)) (show _=Value.bool (decide (B.a∈s.ks)) from congrArg Value.bool (decide_eq_decide.2 Iff.rfl))) rfl fun a7 P=>Zz 4 ?_
     cases a7
     ·replace P:=zdf P
      exact eQ_
     replace P:=zdt P;refine Zz 5 ?_;refine R_ A_ E_ ae_ rfl rfl rfl rfl rfl rfl fun a2=>?_;refine ay_ (news:=List.flatMap Fc.cells [B]) eu_ F rfl rfl (c_ (c_ (c_ (c_ (c_ (g_ bf_)))))) rfl (be_ 0 rfl) (fun u T=>ak_ Fc.cells_one T) zv_ zy_ rfl fun H G d5=>?_;have x:=zsa d5;exact eS_
    refine Zz 6 ?_;refine T_ (bY_ B.a) rfl l_ zt rfl fun a7 W=>aQ_ rfl rfl (e_ (aJ_ rfl) rfl (Zz 2 ?_))
    cases a7
    ·refine Zz 5 ?_
     refine T_ (bY_ B.b) rfl l_ zt rfl fun a4 P=>aQ_ rfl rfl (e_ (aJ_ rfl) rfl (Zz 4 ?_))
     cases a4
     ·refine Zz 5 ?_
      refine R_ A_ E_ ae_ rfl rfl rfl rfl rfl rfl fun a2=>?_;refine ay_ (news:=List.flatMap Fc.cells [B]) eu_ C rfl rfl (c_ (c_ (c_ (c_ (c_ (g_ t_)))))) rfl (be_ 0 rfl) (fun u T=>ak_ Fc.cells_one T) zv_ zy_ rfl fun H G V=>?_;have x:=zsa V;exact ma_
     refine Zi 5 (fun M=>?_) fun M=>?_
     ·exact eR_
     refine Zz 8 ?_;refine C_ (aD_ (bJ_ (k:=B.a) (q:=s.ks) bG_ S_ aM_ rfl rfl s.hE (fun v h _=>(h.own _ (List.mem_of_getElem? (i:=1) rfl)).1)) (show _=Value.bool (decide (B.a∈s.ks)) from congrArg Value.bool (decide_eq_decide.2 Iff.rfl))) rfl fun b5 K=>Zz 4 ?_
     cases b5
     ·replace K:=zdf K
      exact eQ_
     replace K:=zdt K;refine Zz 5 ?_;refine R_ A_ E_ ae_ rfl rfl rfl rfl rfl rfl fun a2=>?_;refine ay_ (news:=List.flatMap Fc.cells [B]) eu_ F rfl rfl (c_ (c_ (c_ (c_ (c_ (g_ bf_)))))) rfl (be_ 0 rfl) (fun u T=>ak_ Fc.cells_one T) zv_ zy_ rfl fun H G S=>?_;have x:=zsa S;exact eS_
    refine Zi 13 (fun P=>?_) fun P=>?_
    ·exact eR_
    refine Zz 8 ?_;refine C_ (aD_ (bJ_ (k:=B.a) (q:=s.ks) bG_ S_ aM_ rfl rfl s.hE (fun v h _=>(h.own _ (List.mem_of_getElem? (i:=1) rfl)).1)) (show _=Value.bool (decide (B.a∈s.ks)) from congrArg Value.bool (decide_eq_decide.2 Iff.rfl))) rfl fun a4 M=>Zz 4 ?_
    cases a4
    ·replace M:=zdf M
     exact eQ_
    replace M:=zdt M;refine Zz 5 ?_;refine R_ A_ E_ ae_ rfl rfl rfl rfl rfl rfl fun a2=>?_;refine ay_ (news:=List.flatMap Fc.cells [B]) eu_ F rfl rfl (c_ (c_ (c_ (c_ (c_ (g_ bf_)))))) rfl (be_ 0 rfl) (fun u T=>ak_ Fc.cells_one T) zv_ zy_ rfl fun H G d1=>?_;have x:=zsa d1;exact eS_
   refine Zz 8 ?_;refine C_ (aD_ (bJ_ (k:=B.a) (q:=s.ks) bG_ S_ aM_ rfl rfl s.hE (fun v h _=>(h.own _ (List.mem_of_getElem? (i:=1) rfl)).1)) (show _=Value.bool (decide (B.a∈s.ks)) from congrArg Value.bool (decide_eq_decide.2 Iff.rfl))) rfl fun a7 U=>Zz 4 ?_
   cases a7
   ·replace U:=zdf U
    refine Zi 5 (fun W=>?_) fun W=>?_
    ·refine Zi 20 (fun P=>?_) fun P=>?_
     ·exact eR_
     refine Zz 8 ?_;refine C_ (aD_ (bJ_ (k:=B.a) (q:=s.ks) bG_ S_ aM_ rfl rfl s.hE (fun v h _=>(h.own _ (List.mem_of_getElem? (i:=1) rfl)).1)) (show _=Value.bool (decide (B.a∈s.ks)) from congrArg Value.bool (decide_eq_decide.2 Iff.rfl))) rfl fun a4 M=>Zz 4 ?_
     cases a4
     ·replace M:=zdf M
      exact eQ_
     replace M:=zdt M;refine Zz 5 ?_;refine R_ A_ E_ ae_ rfl rfl rfl rfl rfl rfl fun a2=>?_;refine ay_ (news:=List.flatMap Fc.cells [B]) eu_ F rfl rfl (c_ (c_ (c_ (c_ (c_ (g_ bf_)))))) rfl (be_ 0 rfl) (fun u T=>ak_ Fc.cells_one T) zv_ zy_ rfl fun H G K=>?_;have x:=zsa K;exact eS_
    refine Zz 6 ?_;refine T_ (bY_ B.a) rfl l_ zt rfl fun a4 P=>aQ_ rfl rfl (e_ (aJ_ rfl) rfl (Zz 2 ?_))
    cases a4
    ·refine Zz 5 ?_
     refine T_ (bY_ B.b) rfl l_ zt rfl fun b5 M=>aQ_ rfl rfl (e_ (aJ_ rfl) rfl (Zz 4 ?_))
     cases b5
     ·refine Zz 5 ?_
      refine R_ A_ E_ ae_ rfl rfl rfl rfl rfl rfl fun a2=>?_;refine ay_ (news:=List.flatMap Fc.cells [B]) eu_ C rfl rfl (c_ (c_ (c_ (c_ (c_ (g_ t_)))))) rfl (be_ 0 rfl) (fun u T=>ak_ Fc.cells_one T) zv_ zy_ rfl fun H G K=>?_;have x:=zsa K;exact ma_
     refine Zi 5 (fun K=>?_) fun K=>?_
     ·exact eR_
     refine Zz 8 ?_;refine C_ (aD_ (bJ_ (k:=B.a) (q:=s.ks) bG_ S_ aM_ rfl rfl s.hE (fun v h _=>(h.own _ (List.mem_of_getElem? (i:=1) rfl)).1)) (show _=Value.bool (decide (B.a∈s.ks)) from congrArg Value.bool (decide_eq_decide.2 Iff.rfl))) rfl fun r_4 R=>Zz 4 ?_
     cases r_4
     ·replace R:=zdf R
      exact eQ_
     replace R:=zdt R;refine Zz 5 ?_;refine R_ A_ E_ ae_ rfl rfl rfl rfl rfl rfl fun a2=>?_;refine ay_ (news:=List.flatMap Fc.cells [B]) eu_ F rfl rfl (c_ (c_ (c_ (c_ (c_ (g_ bf_)))))) rfl (be_ 0 rfl) (fun u T=>ak_ Fc.cells_one T) zv_ zy_ rfl fun H G f9=>?_;have x:=zsa f9;exact eS_
    refine Zi 13 (fun M=>?_) fun M=>?_
    ·exact eR_
    refine Zz 8 ?_;refine C_ (aD_ (bJ_ (k:=B.a) (q:=s.ks) bG_ S_ aM_ rfl rfl s.hE (fun v h _=>(h.own _ (List.mem_of_getElem? (i:=1) rfl)).1)) (show _=Value.bool (decide (B.a∈s.ks)) from congrArg Value.bool (decide_eq_decide.2 Iff.rfl))) rfl fun b5 K=>Zz 4 ?_
    cases b5
    ·replace K:=zdf K
     exact eQ_
    replace K:=zdt K;refine Zz 5 ?_;refine R_ A_ E_ ae_ rfl rfl rfl rfl rfl rfl fun a2=>?_;refine ay_ (news:=List.flatMap Fc.cells [B]) eu_ F rfl rfl (c_ (c_ (c_ (c_ (c_ (g_ bf_)))))) rfl (be_ 0 rfl) (fun u T=>ak_ Fc.cells_one T) zv_ zy_ rfl fun H G R=>?_;have x:=zsa R;exact eS_
   replace U:=zdt U;refine Zz 5 ?_;refine R_ A_ E_ ae_ rfl rfl rfl rfl rfl rfl fun a2=>?_;refine ay_ (news:=List.flatMap Fc.cells [B]) eu_ E rfl rfl (c_ (c_ (c_ (c_ (c_ t_))))) rfl (be_ 0 rfl) (fun u T=>ak_ Fc.cells_one T) zv_ zy_ rfl fun H G W=>?_;have x:=zsa W;refine Zz 1 ?_;refine u_ (Y_ (g_ d_) (Y_ (g_ d_) (Y_ (g_ d_) (Y_ (g_ d_) (bq_ (g_ d_)))))) (dF_ 3 x aH_ rfl rfl rfl rfl (Zz 7 ?_));exact y_ ⟨(j+1,H,G,J,O,L,Q),A,(by have e:tyL s.ks (List.take (j+1) c.facts)=((tyL s.ks (List.take j c.facts))++[B]):=(by unfold tyL;rw[tk1 d,List.filter_append];simp_all);rw[e];exact x),zR_,zP_⟩ zu_ zl (f_ (c_ (c_ d_)) (f_ (c_ (c_ d_)) (f_ (c_ (c_ d_)) (F_ (c_ (c_ t_)) (F_ (c_ (c_ t_)) (c_ B_)))))) zh
  obtain⟨f1,a8,e6,hmx_1⟩:=zge (show m<List.length X by omega);have hlk:=dO_ (ds_ p c.facts) a8;have hdl:=ho_ (p:=p) c.facts;have hml:=Nat.mul_le_mul hF hp;refine Zz 19 ?_;refine ec_ 0 s bG_ (.inr rfl) S_ rfl rfl rfl rfl (Zz 7 ?_);refine e_ (bQ_ (k:=a8) (adr:=adr) bG_ jz_ ci_ rfl rfl zf) rfl (aL_ (news:=List.flatMap Fc.cells (lat (ds_ p c.facts) a8)) eu_ b0 rfl rfl (e5 a8).2 (e5 a8).1 (c_ (c_ B_)) (by rw[br_ Fc.cells 6 Fc.cells_len]) (fun v _ h=>by exact (bl_ h.2.2.2.1 a8)) (fun u T=>ak_ Fc.cells_one T) zv_ zy_ rfl fun H G S=>?_);refine u_ List.perm_append_comm ?_;have x:=zsa S;refine Zz 1 ?_;refine dF_ 1 x aH_ rfl rfl rfl rfl (Zz 7 ?_);exact y_ ⟨(m+1,(StM.add s a8),H,G),f1,(by intro n;rw[StM.mem,hs n,tk1 e6];simp),(by rw[tk1 e6,List.flatMap_append];simpa using x)⟩ zu_ zl zp zh
 have a3:i<List.length c.atoms:=by omega
 obtain⟨e1,b8⟩:∃ f7,c.atoms[i]? = some f7:=⟨_,List.getElem?_eq_getElem a3⟩;have hms_1:e1∈c.atoms:=List.mem_of_getElem? b8;refine Zz 18 ?_;refine T_ (bY_ e1) rfl l_ zt rfl fun a7 V=>e_ (aJ_ rfl) rfl (Zz 2 ?_)
 cases a7
 ·refine Zz 4 ?_
  refine R_ m_ H_ aK_ rfl rfl rfl rfl rfl rfl fun b7=>?_;refine ay_ (news:=List.flatMap ap_ [e1]) cW_ Z rfl rfl zp rfl (be_ 0 rfl) (fun u T=>ak_ cx_ T) zv_ zy_ rfl fun H G S=>?_;refine u_ List.perm_append_comm ?_;have x:=zsa S;refine Zz 8 ?_;exact y_ ⟨(i+1,H,G),a3,(by have e:eA_ (List.take (i+1) c.atoms)=((eA_ (List.take i c.atoms))++[e1]):=zbg_;rw[e];exact x)⟩ zu_ zl (f_ (c_ d_) (f_ (c_ d_) B_)) zh
 refine Zz 8 ?_;exact y_ ⟨(i+1,sv_Q,H_Q),a3,(by have e:eA_ (List.take (i+1) c.atoms)=(eA_ (List.take i c.atoms)):=zbg_;rw[e];exact Z)⟩ zu_ zl (f_ d_ (f_ d_ ah_)) zh
theorem xw_:ij_ Tryz.prog 144 [(0,1),(1,1),(2,1)] [.int .i64 0,.int .i64 0,.slice none 0 0]:=⟨_,Tryz.zeroValue144,cN_,fun w=>by simp[av_,bI_]⟩
theorem mG_ (s:Str) (l:List Str) (b:Nat) (n r:Int) (sv:Value) (Hr:Hp) (H:zR 9 1 ap_ sv l Hr) (hl:l.length≤1000000):Tri Tryz.prog 91 #[zp_ b 0,str s] ((b,.cells #[.int .i64 n,.int .i64 r,sv] 144 (0,0))::Hr) [] (fun y:{y:List Str×Value×Hp // zR 9 1 ap_ y.2.1 y.1 y.2.2∧y.1.length≤l.length+1}=>.tuple #[]) (fun y=>(b,.cells #[.int .i64 n,.int .i64 r,y.1.2.1] 144 (0,0))::y.1.2.2) (fun _=>[]):=by
 refine j_ Tryz.func91 rfl rfl Tryz.ntmps91 rfl fun G=>?_;refine Zz 7 ?_;refine P_ (ι:={y:Nat×Value×Hp // y.1≤List.length l∧zR 9 1 ap_ y.2.1 l y.2.2}) (fun y=>[(0,zp_ b 0),(1,str s),(4,.int .i64 (y.1.1:Int))]) (fun y=>((b,.cells #[.int .i64 n,.int .i64 r,y.1.2.1] 144 (0,0))::y.1.2.2)) (fun y=>[]) (fun y=>List.length l - y.1.1) ⟨((0:Nat),sv,Hr),by simp,H⟩ zl zp zt ?_;rintro ⟨⟨i,k,v⟩,x,d⟩;dsimp only at x d ⊢;refine Zz 8 ?_;refine e_ (dV_ d m_ rfl) rfl ?_;refine Zi 0 (fun e=>?_) fun e=>?_
 ·refine Zz 12 ?_
  refine R_ m_ H_ aK_ rfl rfl rfl rfl rfl rfl fun I=>?_;refine ay_ (news:=List.flatMap ap_ [s]) cW_ d rfl rfl zp rfl (be_ 0 rfl) (fun u F=>ak_ cx_ F) zG_ zr_ rfl fun A C e=>?_;refine u_ List.perm_append_comm ?_;have h:=zsa e;refine Zz 2 ?_;refine dF_ 1 h bI_ rfl rfl rfl rfl (Zz 2 ?_);exact cB_ Tryz.results91 ⟨((l++[s]),A,C),h,by first|omega|(simp only[List.length_append,List.length_cons,List.length_nil];omega)⟩ rfl (f_ (c_ d_) B_) zt
 obtain⟨m,J,q,E⟩:=zge (show i<List.length l by omega);refine Zz 14 ?_;refine e_ (bR_ d m_ H_ rfl rfl zr_ zr_) rfl (e_ (cX_ d B_ ab_ rfl (p_ aw_ q 0 _ rfl)) rfl (Zi 1 (fun B=>?_) fun B=>?_))
 ·refine Zz 11 ?_
  exact y_ ⟨(i+1,k,v),m,d⟩ zu_ zl zp zt
 refine Zz 4 ?_;exact ret0 Tryz.results91 ⟨(l,k,v),d,by first|omega|(simp only[List.length_append,List.length_cons,List.length_nil];omega)⟩ rfl zp zt
theorem szs_take_le:∀ (l:List Con) (i:Nat),Con.sz.szs (l.take i)≤Con.sz.szs l
  | [],i=>by simp
  | c::l,0=>by simp[Con.sz.szs]
  | c::l,i+1=>by
    have:=szs_take_le l i;simp only[List.take_succ_cons,Con.sz.szs];omega
theorem mZ_:∀ (m:Nat) (c:Con),c.sz≤m→c.ok→∀ (b:Nat) (n r:Int) (l:List Str) (sv:Value) (Hr:Hp),zR 9 1 ap_ sv l Hr→(0≤n∧0≤r∧n+c.sz≤100000∧r+c.sz≤100000∧l.length+c.sz≤100000)→Tri Tryz.prog 90 #[zp_ b 0,Con.val c] ((b,.cells #[.int .i64 n,.int .i64 r,sv] 144 (0,0))::Hr) [Con.memF c] (fun y:{y:Int×Int×List Str×Value×Hp // zR 9 1 ap_ y.2.2.2.1 y.2.2.1 y.2.2.2.2∧(n≤y.1∧y.1≤n+c.sz)∧(r≤y.2.1∧y.2.1+n≤r+y.1)∧y.2.2.1.length≤l.length+c.sz}=>.tuple #[]) (fun y=>(b,.cells #[.int .i64 y.1.1,.int .i64 y.1.2.1,y.1.2.2.2.1] 144 (0,0))::y.1.2.2.2.2) (fun _=>[]):=by
 intro m
 induction m with
 | zero=>intro c h;have:=c.sz_pos;omega
 | succ m ih =>
   intro c hm P b n r l sv Hr hr hbd;have hnl:=Con.ok_name P;have hpl:=Con.ok_len P;have hsp:=c.sz_pos;have hse:=Con.sz_eq c;refine j_ Tryz.func90 rfl rfl Tryz.ntmps90 rfl fun v_1=>?_;refine Zz 2 ?_;refine aa_ rfl rfl fun B=>Zz 7 ?_
   refine C_ (bU_ rfl rfl) rfl fun r_1 k=>Zz 1 ?_
   refine at_ 5 (((Con.kind c)==0)&&((List.length (Con.parts c):Int)==0)) (fun r=>[(0,zp_ b 0),(3,zp_ B 0),(13,.bool r)]) ?_ fun J q=>?_
   · skip
     cases r_1
     · skip
       have d:=k;replace k:=znb k;refine Zz 7 ?_;exact met ⟨rfl,rfl,(o_ rfl (jaf d)),trivial⟩
     · skip
       have d:=k;replace k:=zeb k;refine Zz 7 ?_;refine C_ (bU_ rfl rfl) rfl fun K H=>Zz 3 ?_
       exact met ⟨rfl,rfl,(o_ rfl (jat d H)),trivial⟩
   · skip
     refine Zz 1 ?_;refine at_ 4 (((((Con.kind c)==0)&&((List.length (Con.parts c):Int)==0)))&&((Con.name c)==[])) (fun r=>[(0,zp_ b 0),(3,zp_ B 0),(18,.bool r)]) ?_ fun K H=>?_
     · skip
       cases J
       · skip
         have d:=q;simp at q
         refine Zz 6 ?_;exact met ⟨rfl,rfl,(o_ rfl (jaf d)),trivial⟩
       · skip
         have d:=q;simp at q
         refine Zz 5 ?_;refine C_ (dn_ rfl rfl) rfl fun a0 A=>Zz 3 ?_
         exact met ⟨rfl,rfl,(o_ rfl (jat d A)),trivial⟩
     · skip
       refine Zz 2 ?_;cases K
       · skip
         simp at H
         refine Zz 13 ?_;refine x_ 1 av_ rfl rfl rfl rfl rfl rfl (Zz 7 ?_);refine C_ (bU_ rfl rfl) rfl fun a0 A=>Zz 2 ?_
         refine fh_ (ι:={y:Int // (r≤y∧y≤r+1)}) (fun y=>[(0,zp_ b 0),(3,zp_ B 0)]) (fun y=>((B,.cells (Con.cells c).toArray 40 (0,0))::((b,.cells #[.int .i64 (n+1),.int .i64 y.1,sv] 144 (0,0))::Hr))) (fun y=>[Con.memF c]) ?_ ?_
         · skip
           cases a0
           · skip
             replace A:=znb A;refine Zz 3 ?_;exact bZ_ ⟨r,zQ_⟩ zl zp zf
           · skip
             replace A:=zeb A;refine Zz 10 ?_;refine x_ 1 av_ rfl rfl rfl rfl rfl rfl (Zz 2 ?_);exact bZ_ ⟨(r+1),zQ_⟩ zl zp zf
         · skip
           rintro ⟨J,q⟩;dsimp only at q ⊢;refine Zz 6 ?_;refine C_ (bU_ rfl rfl) rfl fun r_5 F=>Zz 2 ?_
           refine fh_ (ι:={y:List Str×Value×Hp // List.length y.1≤List.length l+1∧zR 9 1 ap_ y.2.1 y.1 y.2.2}) (fun y=>[(0,zp_ b 0),(3,zp_ B 0)]) (fun y=>((B,.cells (Con.cells c).toArray 40 (0,0))::((b,.cells #[.int .i64 (n+1),.int .i64 J,y.1.2.1] 144 (0,0))::y.1.2.2))) (fun y=>[Con.memF c]) ?_ ?_
           · skip
             cases r_5
             · skip
               replace F:=znb F;refine Zz 3 ?_;exact bZ_ ⟨(l,sv,Hr),zQ_,hr⟩ zl zp zf
             · skip
               replace F:=zeb F;refine Zz 5 ?_;refine i_ (mG_ (Con.name c) l b (n+1) J sv Hr hr zr_) rfl zp zt rfl fun⟨⟨a3,S,I⟩,O,a6⟩=>?_;dsimp only;dsimp only at O a6;refine Zz 2 ?_;exact bZ_ ⟨(a3,S,I),zQ_,O⟩ zl zp zf
           · skip
             rintro ⟨⟨l_1,G,L⟩,a4,x⟩;dsimp only at a4 x ⊢;refine Zz 7 ?_;refine P_ (ι:={y:Nat×Int×Int×List Str×Value×Hp // y.1≤List.length (Con.parts c)∧(n≤y.2.1∧y.2.1≤n+((1+Con.sz.szs (List.take y.1 (Con.parts c)):Nat):Int)∧r≤y.2.2.1∧y.2.2.1+n≤r+y.2.1∧List.length y.2.2.2.1≤List.length l+(1+Con.sz.szs (List.take y.1 (Con.parts c))))∧zR 9 1 ap_ y.2.2.2.2.1 y.2.2.2.1 y.2.2.2.2.2}) (fun y=>[(0,zp_ b 0),(3,zp_ B 0),(4,.int .i64 (y.1.1:Int))]) (fun y=>((B,.cells (Con.cells c).toArray 40 (0,0))::((b,.cells #[.int .i64 y.1.2.1,.int .i64 y.1.2.2.1,y.1.2.2.2.2.1] 144 (0,0))::y.1.2.2.2.2.2))) (fun y=>[Con.memF c]) (fun y=>List.length (Con.parts c) - y.1.1) ⟨((0:Nat),(n+1),J,l_1,G,L),by simp,(by simp only[List.take_zero,Con.sz.szs];omega),x⟩ zl zp zh ?_;rintro ⟨⟨i,R,Y,V,G,L⟩,U,a1,x⟩;dsimp only at U a1 x ⊢;refine Zz 7 ?_;refine C_ (cv_ rfl rfl) rfl fun r_7 e=>Zz 1 ?_
             refine at_ 6 ((decide ((i:Int)<(List.length (Con.parts c):Int)))&&(decide (R≤1000))) (fun r=>[(0,zp_ b 0),(3,zp_ B 0),(4,.int .i64 (i:Int)),(56,.bool r)]) ?_ fun r_8 N=>?_
             · skip
               cases r_7
               · skip
                 have d:=e;replace e:=zdf e;refine Zz 8 ?_;exact met ⟨rfl,rfl,rfl,(o_ rfl (jaf d)),trivial⟩
               · skip
                 have d:=e;replace e:=zdt e;refine Zz 9 ?_;refine C_ (dw_ rfl rfl) rfl fun r_9 T=>Zz 3 ?_
                 exact met ⟨rfl,rfl,rfl,(o_ rfl (jat d T)),trivial⟩
             · skip
               refine Zz 2 ?_;cases r_8
               · skip
                 simp at N
                 refine Zz 3 ?_;exact cB_ Tryz.results90 ⟨(R,Y,V,G,L),x,by dsimp only;have:=Con.sz_eq c;have a2:=szs_take_le (Con.parts c) i;omega⟩ rfl (f_ (c_ d_) B_) zt
               · skip
                 simp at N
                 obtain⟨Q,a7,E,C⟩:=zge (show i<List.length (Con.parts c) by omega);refine Zz 10 ?_;refine e_ (U_ ai_ L_ rfl rfl (fun v _ h=>aE_ (n:=5) Con.cells_len zx_ (by exact ((Con.mem_iff c v).1 h.1).1) E) zr_ zA_) rfl ?_;refine e_ (au_ (ad:=(Con.ad c)) (us:=Con.cells a7) aU_ L_ rfl (fun v _ h=>by exact ((Con.mem_iff c v).1 h.1).1) (Con.cells_len _) (p_ Con.cells_len E)) rfl (i_ (ih a7 (by have:=Con.sz_part C;omega) (Con.ok_part P C) b R Y V G L x (by have hst:=Con.szs_step E;have a2:=szs_take_le (Con.parts c) (i+1);omega)) rfl (f_ (c_ d_) B_) (fun v _ h=>by exact⟨(Con.mem_part (c:=c) h.1 C),trivial⟩) rfl fun⟨⟨n_2,K,l_3,W,I⟩,M,X,Z,a5⟩=>?_);dsimp only;dsimp only at M X Z a5;refine Zz 2 ?_;refine u_ (Y_ d_ (bq_ bf_)) (Zz 6 ?_);exact y_ ⟨(i+1,n_2,K,l_3,W,I),Q,(by have hst:=Con.szs_step E;dsimp only;omega),M⟩ zu_ zl (f_ (c_ d_) (f_ d_ ah_)) zh
       · skip
         simp at H
         refine Zz 2 ?_;exact ret0 Tryz.results90 ⟨(n,r,l,sv,Hr),hr,by dsimp only;have:=Con.sz_eq c;have a2:=szs_take_le (Con.parts c) 0;omega⟩ rfl (f_ (c_ d_) B_) zt
structure AL where
  l:List Ax
  ad:Option Addr
  cap:Nat
def AL.cells (x:AL):List Value:=[.slice x.ad x.l.length x.cap]
theorem AL.cells_len (x:AL):x.cells.length=1:=rfl
structure AL.ok (x:AL):Prop where
  len:x.l.length≤2199023255488
  ok:∀ a∈x.l,a.ok
def alF (xs:List AL):Fct where
  p v:=∀ x∈xs,(cu_ x.ad x.l).p v
  mono:=fun v v' h hp x hx=>(cu_ x.ad x.l).mono v v' h (hp x hx)
theorem eP_ {G:Prop} (h:G:=by
 exact af_ Tryz.results44 false rfl l_ zt):G:=h
theorem lw_ {G:Prop} (h:G:=by
 rintro ⟨⟨a9,A,I⟩,S,d⟩;dsimp only at S d ⊢;refine Zz 7 ?_;exact y_ ⟨(j+1,a9,(bg++[46])++P,A,I),a5,zu_,(by have:=K.roles P T;simp only[List.length_append,List.length_cons,List.length_nil];omega),d⟩ zu_ zl (f_ d_ (f_ d_ ah_)) zh):G:=h
theorem wd_ (E:List AL) (B:Option Addr) (H:Nat) (d8:∀ x∈E,AL.ok x) (hl:E.length≤1000):Tri Tryz.prog 44 #[.slice B (List.length E) H,.int .i64 40] [] [V_ B (List.flatMap AL.cells E),alF E] (fun b:Bool=>.bool b) (fun _=>[]) (fun _=>[]):=by
 refine j_ Tryz.func44 rfl rfl Tryz.ntmps44 rfl fun v_1=>?_;refine Zz 7 ?_;refine e_ (K_ xw_ rfl rfl) rfl (aa_ rfl rfl fun q=>Zz 10 ?_);refine P_ (ι:={y:Nat×Int×Int×List Str×Value×Hp // y.1≤List.length E∧(0≤y.2.1∧0≤y.2.2.1∧y.2.2.1≤y.2.1∧y.2.1≤1000∧List.length y.2.2.2.1≤1000)∧zR 9 1 ap_ y.2.2.2.2.1 y.2.2.2.1 y.2.2.2.2.2}) (fun y=>[(0,.slice B (List.length E) H),(1,.int .i64 40),(4,.bool false),(5,zp_ q 0),(6,.int .i64 (y.1.1:Int))]) (fun y=>((q,.cells #[.int .i64 y.1.2.1,.int .i64 y.1.2.2.1,y.1.2.2.2.2.1] 144 (0,0))::y.1.2.2.2.2.2)) (fun y=>[V_ B (List.flatMap AL.cells E),alF E]) (fun y=>List.length E - y.1.1) ⟨((0:Nat),0,0,([]:List Str),(.slice none 0 0),[]),by simp,(by first|exact a7|simp),(aB_.nil _ _)⟩ zl d_ zh ?_;rintro ⟨⟨i,n_1,r_1,l_1,A,I⟩,d6,a7,d⟩;dsimp only at d6 a7 d ⊢;refine Zi 6 (fun d9=>?_) fun d9=>?_
 ·refine Zi 12 (fun a6=>?_) fun a6=>?_
  ·refine Zz 19 ?_
   exact eP_
  refine Zi 10 (fun b0=>?_) fun b0=>?_
  ·refine Zz 13 ?_
   exact eP_
  refine Zz 11 ?_;refine e_ (dV_ d m_ rfl) rfl (aQ_ rfl rfl (C_ (dw_ rfl rfl) rfl fun b1 b7=>Zz 5 ?_));exact af_ Tryz.results44 b1 rfl l_ zt
 obtain⟨b9,G,hx_1,m⟩:=zge (show i<List.length E by omega);have hal:=(d8 G m).len;refine Zz 13 ?_;refine P_ (ι:={y:Nat×Int×Int×List Str×Value×Hp // y.1≤List.length (AL.l G)∧(0≤y.2.1∧0≤y.2.2.1∧y.2.2.1≤y.2.1∧y.2.1≤1000∧List.length y.2.2.2.1≤1000)∧zR 9 1 ap_ y.2.2.2.2.1 y.2.2.2.1 y.2.2.2.2.2}) (fun y=>[(0,.slice B (List.length E) H),(1,.int .i64 40),(4,.bool false),(5,zp_ q 0),(6,.int .i64 (i:Int)),(7,.int .i64 (y.1.1:Int))]) (fun y=>((q,.cells #[.int .i64 y.1.2.1,.int .i64 y.1.2.2.1,y.1.2.2.2.2.1] 144 (0,0))::y.1.2.2.2.2.2)) (fun y=>[V_ B (List.flatMap AL.cells E),alF E]) (fun y=>List.length (AL.l G) - y.1.1) ⟨((0:Nat),n_1,r_1,l_1,A,I),by simp,(by first|exact a7|simp),d⟩ zl zp zh ?_;rintro ⟨⟨k,n_2,b1,d7,A,I⟩,e0,a8,d⟩;dsimp only at e0 a8 d ⊢;refine Zi 9 (fun a6=>?_) fun a6=>?_
 ·refine Zz 11 ?_
  exact y_ ⟨(i+1,n_2,b1,d7,A,I),b9,(by first|exact a8|(dsimp only;omega)),d⟩ zu_ zl zp zh
 obtain⟨c0,e,b2,C⟩:=zge (show k<List.length (AL.l G) by omega);have K:=(d8 G m).ok e C;have hrl_1:=K.len;have hrc_1:=K.cap;refine Zz 14 ?_;refine e_ (U_ Q_ ar_ rfl rfl (fun v _ h=>aE_ (n:=16) Ax.cells_len zx_ (by exact (h.2.1 G m).1) b2) zr_ zA_) rfl ?_;refine e_ (au_ (ad:=(AL.ad G)) (us:=Ax.cells e) iQ_ ar_ rfl (fun v _ h=>by exact (h.2.1 G m).1) (Ax.cells_len _) (p_ Ax.cells_len b2)) rfl (D_ bc_ rfl fun L=>x_ 0 ar_ rfl rfl rfl rfl rfl rfl (Zi 10 (fun b0=>?_) fun b0=>?_))
 ·refine Zz 10 ?_
  refine e_ (dV_ d m_ rfl) rfl (aQ_ rfl rfl ?_);refine Zi 0 (fun b7=>?_) fun b7=>?_
  ·refine Zi 9 (fun e3=>?_) fun e3=>?_
   ·refine Zz 5 ?_
    refine i_ (mq_ e K) rfl l_ (fun v _ h=>by exact⟨((h.2.1 G m).2 e C),trivial⟩) rfl fun⟨bf,hbf⟩=>?_;dsimp only;refine aQ_ rfl rfl (e_ (aJ_ rfl) rfl (Zz 3 ?_));cases bf
    ·refine Zz 7 ?_
     exact eP_
    have a2:=hbf rfl;have hfl:=a2.left;have hfr:=a2.right;refine Zz 8 ?_;refine i_ (mZ_ _ (Ax.left e) (Nat.le_refl _) K.left q n_2 b1 d7 A I d (by have:=a2.left;have:=a2.right;omega)) rfl (f_ (c_ d_) B_) (fun v _ h=>by exact⟨((h.2.1 G m).2 e C).1,trivial⟩) rfl fun⟨⟨e4,rw_1,lw_1,d1,Hw_1⟩,b3,hy1b,hy1c,hy1d⟩=>?_;dsimp only;dsimp only at b3 hy1b hy1c hy1d;refine Zz 2 ?_;refine u_ (Y_ d_ (bq_ bf_)) (Zz 5 ?_);refine i_ (mZ_ _ (Ax.right e) (Nat.le_refl _) K.right q e4 rw_1 lw_1 d1 Hw_1 b3 (by have:=a2.left;have:=a2.right;omega)) rfl (f_ d_ B_) (fun v _ h=>by exact⟨((h.2.1 G m).2 e C).2.1,trivial⟩) rfl fun⟨⟨Z,F,a3,O,X⟩,a4,e1,hy2c,e5⟩=>?_;dsimp only;dsimp only at a4 e1 hy2c e5;refine Zz 3 ?_;refine u_ (Y_ d_ (bq_ bf_)) (Zz 4 ?_);refine C_ (cZ_ rfl rfl) rfl fun r_3 Y=>Zz 2 ?_
    refine fh_ (ι:={y:Int // (Z≤y∧y≤Z+1)}) (fun y=>[(0,.slice B (List.length E) H),(1,.int .i64 40),(4,.bool false),(5,zp_ q 0),(6,.int .i64 (i:Int)),(7,.int .i64 (k:Int)),(8,zp_ L 0)]) (fun y=>((L,.cells (Ax.cells e).toArray 42 (0,0))::((q,.cells #[.int .i64 y.1,.int .i64 F,O] 144 (0,0))::X))) (fun y=>[V_ B (List.flatMap AL.cells E),alF E]) ?_ ?_
    ·cases r_3
     ·replace Y:=ee_ Y
      refine Zz 3 ?_;exact bZ_ ⟨Z,zQ_⟩ zl zp zf
     replace Y:=ed_ Y;refine Zz 10 ?_;refine x_ 0 av_ rfl rfl rfl rfl rfl rfl (Zz 2 ?_);exact bZ_ ⟨(Z+1),zQ_⟩ zl (f_ (c_ d_) (f_ d_ ah_)) zf
    rintro ⟨a1,c2⟩;dsimp only at c2 ⊢;refine Zz 6 ?_;refine C_ (cZ_ rfl rfl) rfl fun r_4 a0=>Zz 2 ?_
    refine fh_ (ι:={y:Int // (a1≤y∧y≤a1+1)}) (fun y=>[(0,.slice B (List.length E) H),(1,.int .i64 40),(4,.bool false),(5,zp_ q 0),(6,.int .i64 (i:Int)),(7,.int .i64 (k:Int)),(8,zp_ L 0)]) (fun y=>((L,.cells (Ax.cells e).toArray 42 (0,0))::((q,.cells #[.int .i64 y.1,.int .i64 F,O] 144 (0,0))::X))) (fun y=>[V_ B (List.flatMap AL.cells E),alF E]) ?_ ?_
    ·cases r_4
     ·replace a0:=ee_ a0
      refine Zz 3 ?_;exact bZ_ ⟨a1,zQ_⟩ zl zp zf
     replace a0:=ed_ a0;refine Zz 10 ?_;refine x_ 1 av_ rfl rfl rfl rfl rfl rfl (Zz 2 ?_);exact bZ_ ⟨(a1+1),zQ_⟩ zl zp zf
    rintro ⟨J,b8⟩;dsimp only at b8 ⊢;refine Zz 6 ?_;refine C_ (cZ_ rfl rfl) rfl fun r_5 U=>Zz 2 ?_
    refine fh_ (ι:={y:List Str×Value×Hp // List.length y.1≤List.length a3+1∧zR 9 1 ap_ y.2.1 y.1 y.2.2}) (fun y=>[(0,.slice B (List.length E) H),(1,.int .i64 40),(4,.bool false),(5,zp_ q 0),(6,.int .i64 (i:Int)),(7,.int .i64 (k:Int)),(8,zp_ L 0)]) (fun y=>((L,.cells (Ax.cells e).toArray 42 (0,0))::((q,.cells #[.int .i64 J,.int .i64 F,y.1.2.1] 144 (0,0))::y.1.2.2))) (fun y=>[V_ B (List.flatMap AL.cells E),alF E]) ?_ ?_
    ·cases r_5
     ·replace U:=ee_ U
      refine Zz 3 ?_;exact bZ_ ⟨(a3,O,X),zQ_,a4⟩ zl zp zf
     replace U:=ed_ U;refine Zz 5 ?_;refine i_ (mG_ (Ax.role e) a3 q J F O X a4 zr_) rfl zp zt rfl fun⟨⟨N,M,R⟩,b5,d5⟩=>?_;dsimp only;dsimp only at b5 d5;refine Zz 2 ?_;exact bZ_ ⟨(N,M,R),zQ_,b5⟩ zl zp zf
    rintro ⟨⟨b6,A,I⟩,d2,d⟩;dsimp only at d2 d ⊢;refine Zz 12 ?_;refine P_ (ι:={y:Nat×List Str×Str×Value×Hp // y.1≤List.length (Ax.roles e)∧List.length y.2.1≤List.length b6+2*y.1∧List.length y.2.2.1≤140737488351300*y.1∧zR 9 1 ap_ y.2.2.2.1 y.2.1 y.2.2.2.2}) (fun y=>[(0,.slice B (List.length E) H),(1,.int .i64 40),(4,.bool false),(5,zp_ q 0),(6,.int .i64 (i:Int)),(7,.int .i64 (k:Int)),(8,zp_ L 0),(9,str y.1.2.2.1),(10,.int .i64 (y.1.1:Int))]) (fun y=>((L,.cells (Ax.cells e).toArray 42 (0,0))::((q,.cells #[.int .i64 J,.int .i64 F,y.1.2.2.2.1] 144 (0,0))::y.1.2.2.2.2))) (fun y=>[V_ B (List.flatMap AL.cells E),alF E]) (fun y=>List.length (Ax.roles e) - y.1.1) ⟨((0:Nat),b6,([]:Str),A,I),by simp,zC_,zC_,d⟩ zl zp zh ?_;rintro ⟨⟨j,l_3,bg,A,I⟩,hi_j,hl_1,hbg,d⟩;dsimp only at hi_j hl_1 hbg d ⊢;refine Zi 7 (fun d4=>?_) fun d4=>?_
    ·refine Zz 11 ?_
     exact y_ ⟨(k+1,J,F,l_3,A,I),c0,(by first|exact a8|(dsimp only;omega)),d⟩ zu_ zl zp zh
    obtain⟨a5,P,W,T⟩:=zge (show j<List.length (Ax.roles e) by omega);have hrl_2:=K.roles P T;refine Zz 13 ?_;refine e_ (U_ m_ H_ rfl rfl (fun v _ h=>aE_ (n:=1) aw_ zx_ (by exact ((h.2.1 G m).2 e C).2.2) W) zr_ zA_) rfl ?_;refine e_ (bt_ (ad:=(Ax.ad e)) ab_ rfl (fun v _ h=>by exact ((h.2.1 G m).2 e C).2.2) (p_ aw_ W 0 _ rfl)) rfl (i_ (mG_ P l_3 q J F A I d zr_) rfl zp zt rfl fun⟨⟨N,M,R⟩,V,d3⟩=>?_);dsimp only;dsimp only at V d3;refine Zz 2 ?_;refine u_ (Y_ d_ (bq_ bf_)) (Zz 3 ?_);refine e_ (eK_ rfl rfl zL_) rfl ?_;refine Zz 3 ?_;refine e_ (U_ m_ H_ rfl rfl (fun v _ h=>aE_ (n:=1) aw_ zx_ (by exact ((h.2.1 G m).2 e C).2.2) W) zr_ zA_) rfl ?_;refine e_ (bt_ (ad:=(Ax.ad e)) ab_ rfl (fun v _ h=>by exact ((h.2.1 G m).2 e C).2.2) (p_ aw_ W 0 _ rfl)) rfl (e_ (eK_ rfl rfl zL_) rfl ?_);refine Zi 6 (fun d0=>?_) fun d0=>?_
    ·refine Zz 10 ?_
     refine fh_ (ι:={y:List Str×Value×Hp // List.length y.1≤List.length N+1∧zR 9 1 ap_ y.2.1 y.1 y.2.2}) (fun y=>[(0,.slice B (List.length E) H),(1,.int .i64 40),(4,.bool false),(5,zp_ q 0),(6,.int .i64 (i:Int)),(7,.int .i64 (k:Int)),(8,zp_ L 0),(9,str ((bg++[46])++P)),(10,.int .i64 (j:Int))]) (fun y=>((L,.cells (Ax.cells e).toArray 42 (0,0))::((q,.cells #[.int .i64 J,.int .i64 F,y.1.2.1] 144 (0,0))::y.1.2.2))) (fun y=>[V_ B (List.flatMap AL.cells E),alF E]) ?_ ?_
     ·refine Zz 3 ?_
      exact bZ_ ⟨(N,M,R),zQ_,V⟩ zl zp zf
     exact lw_
    refine Zz 12 ?_;refine C_ (cv_ rfl rfl) rfl fun r_6 Q=>Zz 3 ?_
    refine fh_ (ι:={y:List Str×Value×Hp // List.length y.1≤List.length N+1∧zR 9 1 ap_ y.2.1 y.1 y.2.2}) (fun y=>[(0,.slice B (List.length E) H),(1,.int .i64 40),(4,.bool false),(5,zp_ q 0),(6,.int .i64 (i:Int)),(7,.int .i64 (k:Int)),(8,zp_ L 0),(9,str ((bg++[46])++P)),(10,.int .i64 (j:Int))]) (fun y=>((L,.cells (Ax.cells e).toArray 42 (0,0))::((q,.cells #[.int .i64 J,.int .i64 F,y.1.2.1] 144 (0,0))::y.1.2.2))) (fun y=>[V_ B (List.flatMap AL.cells E),alF E]) ?_ ?_
    ·cases r_6
     ·replace Q:=zdf Q
      refine Zz 3 ?_;exact bZ_ ⟨(N,M,R),zQ_,V⟩ zl zp zf
     replace Q:=zdt Q;refine Zz 4 ?_;refine i_ (mG_ ((bg++[46])++P) N q J F M R V zr_) rfl zp zt rfl fun⟨⟨e2,c1,Hw_4⟩,b4,hy5b⟩=>?_;dsimp only;dsimp only at b4 hy5b;refine Zz 2 ?_;exact bZ_ ⟨(e2,c1,Hw_4),zQ_,b4⟩ zl zp zf
    exact lw_
   refine Zz 15 ?_;exact eP_
  refine Zz 21 ?_;exact eP_
 refine Zz 28 ?_;exact eP_
theorem tK_ (h:List AL) (e:Option Addr) (d:Nat) (k:∀ x∈h,AL.ok x) (hl:h.length≤1000):Tri Tryz.prog 13 #[.slice e (List.length h) d] [] [V_ e (List.flatMap AL.cells h),alF h] (fun b:Bool=>.bool b) (fun _=>[]) (fun _=>[]):=by
  refine j_ Tryz.func13 rfl rfl Tryz.ntmps13 rfl fun q=>?_;refine Zz 8 ?_;refine i_ (wd_ h e d k hl) rfl l_ zf rfl fun m=>Zz 4 ?_
  exact af_ Tryz.results13 m rfl l_ zt
theorem al_one {x:AL} {v:Vw} (h:(cu_ x.ad x.l).p v):(alF [x]).p v:=fun y d=>by rw[List.mem_singleton.1 d];exact h
theorem uR_ {x:AL} (h:x.ok):∀ y∈[x],AL.ok y:=fun y d=>by rw[List.mem_singleton.1 d];exact h
theorem al_two {x y:AL} {v:Vw} (h:(cu_ x.ad x.l).p v) (e:(cu_ y.ad y.l).p v):(alF [x,y]).p v:=fun z d=>by
 rcases List.mem_cons.1 d with rfl|d
 ·exact h
 rw[List.mem_singleton.1 d];exact e
theorem yz_ (d:List Ax) (lad:Option Addr) (lcap:Nat) (k:d.length≤lcap∧lcap≤2199023255488) (m:∀ x∈d,x.ok):Tri Tryz.prog 8 #[.slice lad (List.length d) lcap] [] [cu_ lad d] (fun b:{b:Bool // b=true→d.length≤10∧∀ x∈d,Ax.Few x}=>.bool b.1) (fun _=>[]) (fun _=>[]):=by
 refine j_ Tryz.func8 rfl rfl Tryz.ntmps8 rfl fun y=>?_;refine Zz 8 ?_;refine i_ (qb_ d lad lcap 10 k m) rfl l_ zf rfl fun⟨B,e⟩=>?_;dsimp only;refine Zz 1 ?_;cases B
 ·refine Zz 8 ?_
  exact af_ Tryz.results8 ⟨false,fun h=>by cases h⟩ rfl l_ zt
 refine Zz 3 ?_;refine R_ cy_ Tryz.sizeOf22 Tryz.zeroValue22 rfl rfl rfl rfl rfl rfl fun q=>?_;refine bu_ (List.flatMap AL.cells [(AL.mk d lad lcap)]) d_ rfl ?_;refine aQ_ rfl rfl (i_ (tK_ [(AL.mk d lad lcap)] (some ⟨q,0,none⟩) 1 (uR_ ⟨by dsimp only;omega,m⟩) zC_) rfl l_ (fun v _ h=>by exact⟨h.1,(al_one h.2.1),trivial⟩) rfl fun A=>?_);refine Zz 5 ?_;exact af_ Tryz.results8 ⟨A,fun _=>⟨by have:=(e rfl).1;omega,(e rfl).2⟩⟩ rfl l_ zt
end Go.Proofs.YtpbnmnfdgckaiaaGreatDoor
namespace Go.Proofs.YtpbnmnfdgckaiaaGreatDoor
open Go Go.Sx Go.Proofs
attribute [local irreducible] Code.wp wpList wpAnyH
open Go.Vs Go.Shelf Go.RowKit
structure Mdl where
  no:List Str
  noa:Option Addr
  noc:Nat
  ty:List Fc
  tya:Option Addr
  tyc:Nat
  li:List Fc
  lia:Option Addr
  lic:Nat
  di:List Fc
  dia:Option Addr
  dic:Nat
  ra:List Fc
  raa:Option Addr
  rac:Nat
  ro:List Fc
  roa:Option Addr
  roc:Nat
def Mdl.cells (m:Mdl):List Value:=[.slice m.noa m.no.length m.noc,.slice m.tya m.ty.length m.tyc,.slice m.lia m.li.length m.lic,.slice m.dia m.di.length m.dic,.slice m.raa m.ra.length m.rac,.slice m.roa m.ro.length m.roc]
def Mdl.val (m:Mdl):Value:=.agg #[.slice m.noa m.no.length m.noc,.slice m.tya m.ty.length m.tyc,.slice m.lia m.li.length m.lic,.slice m.dia m.di.length m.dic,.slice m.raa m.ra.length m.rac,.slice m.roa m.ro.length m.roc]
def er_ (m:Mdl):Fct where
  p v:=bz_ v m.noa (List.flatMap ap_ m.no)∧bz_ v m.tya (List.flatMap Fc.cells m.ty)∧bz_ v m.lia (List.flatMap Fc.cells m.li)∧bz_ v m.dia (List.flatMap Fc.cells m.di)∧bz_ v m.raa (List.flatMap Fc.cells m.ra)∧bz_ v m.roa (List.flatMap Fc.cells m.ro)
  mono:=fun v v' h hp=>⟨(V_ m.noa (List.flatMap ap_ m.no)).mono v v' h hp.1,(V_ m.tya (List.flatMap Fc.cells m.ty)).mono v v' h hp.2.1,(V_ m.lia (List.flatMap Fc.cells m.li)).mono v v' h hp.2.2.1,(V_ m.dia (List.flatMap Fc.cells m.di)).mono v v' h hp.2.2.2.1,(V_ m.raa (List.flatMap Fc.cells m.ra)).mono v v' h hp.2.2.2.2.1,(V_ m.roa (List.flatMap Fc.cells m.ro)).mono v v' h hp.2.2.2.2.2⟩
structure Mdl.ok (m:Mdl):Prop where
  no:m.no.length≤9223372036854775807
  ty:m.ty.length≤9223372036854775807
  li:m.li.length≤9223372036854775807
  di:m.di.length≤9223372036854775807
  ra:m.ra.length≤9223372036854775807
  ro:m.ro.length≤9223372036854775807
def Mdl.nil:Mdl:=⟨[],none,0,[],none,0,[],none,0,[],none,0,[],none,0,[],none,0⟩
theorem Mdl.nil_ok:Mdl.nil.ok:=⟨by decide,by decide,by decide,by decide,by decide,by decide⟩
def oE_ (ls:List Ax) (m:Mdl) (e:Int):Prop :=
  (e=0∧(∀ x∈ls,x.check=0)∧¬ lv_ (di_ ls)∧∃ c,eY_ (cr_ 0 ls) 1073741824 c 0∧AsmR (cr_ 0 ls) c m.no m.ty m.li m.di m.ra∧uT_ ls m.ro) ∨
  (e≠0∧m=Mdl.nil∧((∃ x∈ls,x.check≠0)∨lv_ (di_ ls)∨((∀ x∈ls,x.check=0)∧∃ c,eY_ (cr_ 0 ls) 1073741824 c e)))
theorem rlR_e {l:List Ax} {e:Int} (h:RlR l e) (d:e≠0):lv_ (di_ l):=by
 rcases h with⟨h,_⟩|⟨_,h⟩
 ·exact absurd h d
 exact h
theorem rlR_0 {l:List Ax} {e:Int} (h:RlR l e) (d:e=0):¬ lv_ (di_ l):=by
 rcases h with⟨_,h⟩|⟨h,_⟩
 ·exact h
 omega
theorem vR_ (l:List Ax) (ad:Option Addr) (cap:Nat) (d:l.length≤12) (e:∀ x∈l,x.ok) (k:∀ x∈l,x.check=0) :
    Tri Tryz.prog 31 #[.slice ad l.length cap] [] [cu_ ad l,bV_] (fun y:{y:Option Addr×Nat // (cr_ 0 l).length≤y.2∧y.2≤maxLen∧(y.1=none→y.2=0)}=>.tuple #[.slice y.1.1 (cr_ 0 l).length y.1.2,.int .i64 0]) (fun _=>[]) (fun y=>[V_ y.1.1 ((cr_ 0 l).flatMap Pc.cells)]):=by
  have h:=uk_ l ad cap zr_ e;rw[sm_ d k]at h;exact h
theorem yT_ (p:List Pc):SrS (atS p):=jX_ p
theorem rV_:ij_ Tryz.prog 28 [(0,1),(1,1),(2,1),(3,1),(4,1),(5,1)] [.slice none 0 0,.slice none 0 0,.slice none 0 0,.slice none 0 0,.slice none 0 0,.slice none 0 0]:=⟨_,aS_,aj_,fun w=>by simp[bI_,aH_]⟩
theorem fM_ (d:List Ax) (lad:Option Addr) (lcap:Nat) (B:∀ x∈d,x.ok) (h12:d.length≤12):Tri Tryz.prog 9 #[.slice lad (List.length d) lcap] [] [cu_ lad d,bV_,eX_] (fun y:{y:Mdl×Int // oE_ d y.1 y.2∧y.1.ok}=>.tuple #[y.1.1.val,.int .i64 y.1.2]) (fun _=>[]) (fun y=>[er_ y.1.1]):=by
 refine j_ Tryz.func9 rfl rfl Tryz.ntmps9 rfl fun v_1=>?_;refine Zz 2 ?_;refine D_ aS_ rfl fun W=>Zz 12 ?_
 refine P_ (ι:={y:Nat // y≤List.length d∧(∀ z∈List.take y d,Ax.check z=0)}) (fun y=>[(0,.slice lad (List.length d) lcap),(2,zp_ W 0),(9,.slice lad (List.length d) lcap),(10,.int .i64 (List.length d:Int)),(11,.int .i64 (y.1:Int))]) (fun y=>((W,.cells #[.slice none 0 0,.slice none 0 0,.slice none 0 0,.slice none 0 0,.slice none 0 0,.slice none 0 0] 28 (0,0))::[])) (fun y=>[cu_ lad d,bV_,eX_]) (fun y=>List.length d - y.1) ⟨(0:Nat),by simp,zC_⟩ zl d_ zh ?_;rintro ⟨i,V,C⟩;dsimp only at V C ⊢;refine Zi 2 (fun Y=>?_) fun Y=>?_
 ·have Q:∀ x∈d,Ax.check x=0:=fun x hx=>C x (by rw[List.take_of_length_le zr_];exact hx)
  refine Zz 10 ?_;refine i_ (ub_ d lad lcap B Q zr_) rfl l_ zf rfl fun⟨⟨gv,a0⟩,J⟩=>?_;dsimp only;dsimp only at J;refine Zi 9 (fun F=>?_) fun F=>?_
  ·have U:a0=0:=by assumption
   refine Zz 8 ?_;refine i_ (vR_ d lad lcap h12 B Q) rfl l_ zf rfl fun⟨⟨a2,I⟩,hpc⟩=>?_;dsimp only;dsimp only at hpc;have hfl:=kG_ 0 d Q;refine Zz 11 ?_;refine e_ (aD_ (cf_ rfl rfl) (show _=Value.bool false from congrArg Value.bool zx_)) rfl (Zz 8 ?_);refine i_ (all_c (cr_ 0 d) a2 I 1073741824 (fun z hz=>(of_ d 0 zr_ B Q z hz).2.2.1) zr_) rfl l_ zf rfl fun⟨⟨E,P⟩,e⟩=>?_;dsimp only;have e:eY_ (cr_ 0 d) 1073741824 E P:=e;have hAl:=eY_.len e;refine Zz 3 ?_;refine D_ Tryz.zeroValue67 rfl fun b_2=>x_ 0 cj_ rfl rfl rfl rfl rfl rfl (Zi 7 (fun a3=>?_) fun a3=>?_)
   ·have H:eY_ (cr_ 0 d) 1073741824 E 0:=by have q:P=0:=zB_;subst q;exact e
    refine Zz 8 ?_;refine i_ (incl_c d lad lcap B Q zr_) rfl l_ zf rfl fun⟨⟨ro,roa,roc⟩,Z,R⟩=>?_;dsimp only;dsimp only at Z R;refine Zz 11 ?_;refine e_ (aD_ (cf_ rfl rfl) (show _=Value.bool false from congrArg Value.bool zx_)) rfl (Zz 9 ?_);refine i_ (sT_ (cr_ 0 d) a2 I E e.ok zr_ zr_ zr_ (by rw[H.good.2.2.2.2.1];exact yT_ _)) rfl l_ zf rfl fun⟨⟨⟨no,noa,noc⟩,⟨ty,tya,tyc⟩,⟨li,lia,lic⟩,⟨di,dia,dic⟩,⟨ra,raa,rac⟩⟩,a1,S,N,T,K,O⟩=>?_;dsimp only;dsimp only at a1 S N T K O;refine x_ 1 bb_ rfl rfl rfl rfl rfl rfl (Zz 6 ?_);refine x_ 1 aH_ rfl rfl rfl rfl rfl rfl (Zz 5 ?_);refine x_ 1 bb_ rfl rfl rfl rfl rfl rfl (Zz 4 ?_);exact hi_ ⟨((Mdl.mk no noa noc ty tya tyc li lia lic di dia dic ra raa rac ro roa roc),0),.inl ⟨rfl,Q,rlR_0 J U,E,H,a1,Z⟩,⟨Nat.le_trans S.1 S.2.1,Nat.le_trans N.1 N.2.1,Nat.le_trans T.1 T.2.1,Nat.le_trans K.1 K.2.1,Nat.le_trans O.1 O.2.1,Nat.le_trans R.1 R.2.1⟩⟩ (fun M v k m=>fW_ (us:=Mdl.cells (Mdl.mk no noa noc ty tya tyc li lia lic di dia dic ra raa rac ro roa roc)) 1 Tryz.results9 eF_ bb_ rfl rfl rfl rfl M v k m) l_ (fun v _ h=>by exact⟨⟨h.1,h.2.1,h.2.2.1,h.2.2.2.1,h.2.2.2.2.1,h.2.2.2.2.2.1⟩,trivial⟩)
   refine Zz 5 ?_;refine e_ (K_ rV_ rfl rfl) rfl (Zz 1 ?_);refine x_ 1 bb_ rfl rfl rfl rfl rfl rfl (Zz 4 ?_);exact hi_ ⟨(Mdl.nil,P),.inr ⟨by assumption,rfl,.inr (.inr ⟨Q,E,e⟩)⟩,Mdl.nil_ok⟩ (fun M v k m=>fW_ (us:=Mdl.cells Mdl.nil) 1 Tryz.results9 eF_ bb_ rfl rfl rfl rfl M v k m) l_ (fun v _ h=>by exact⟨⟨.inl rfl,.inl rfl,.inl rfl,.inl rfl,.inl rfl,.inl rfl⟩,trivial⟩)
  refine Zz 5 ?_;refine e_ (K_ rV_ rfl rfl) rfl (Zz 1 ?_);refine x_ 0 bb_ rfl rfl rfl rfl rfl rfl (Zz 4 ?_);exact hi_ ⟨(Mdl.nil,a0),.inr ⟨by assumption,rfl,.inr (.inl (rlR_e J zB_))⟩,Mdl.nil_ok⟩ (fun M v k m=>fW_ (us:=Mdl.cells Mdl.nil) 0 Tryz.results9 eF_ bb_ rfl rfl rfl rfl M v k m) l_ (fun v _ h=>by exact⟨⟨.inl rfl,.inl rfl,.inl rfl,.inl rfl,.inl rfl,.inl rfl⟩,trivial⟩)
 obtain⟨L,G,X,A⟩:=zge (show i<List.length d by omega);refine Zz 12 ?_;refine D_ bc_ rfl fun b_2=>x_ 0 ar_ rfl rfl rfl rfl rfl rfl (Zz 5 ?_)
 refine i_ (hX_ G (B G A)) rfl l_ (fun v _ h=>by exact⟨(h.1.2 G A),h.2.1,trivial⟩) rfl fun _=>Zi 6 (fun F=>?_) fun F=>?_
 ·refine Zz 10 ?_
  exact y_ ⟨i+1,L,(fun z hz=>by rw[tk1 X,List.mem_append,List.mem_singleton]at hz;exact hz.elim (C z) fun q=>by rw[q];assumption)⟩ zu_ zl (c_ d_) zh
 refine Zz 5 ?_;refine e_ (K_ rV_ rfl rfl) rfl (Zz 1 ?_);refine x_ 1 bb_ rfl rfl rfl rfl rfl rfl (Zz 4 ?_);exact hi_ ⟨(Mdl.nil,(Ax.check G)),.inr ⟨by assumption,rfl,.inl ⟨G,A,by assumption⟩⟩,Mdl.nil_ok⟩ (fun M v k m=>fW_ (us:=Mdl.cells Mdl.nil) 1 Tryz.results9 eF_ bb_ rfl rfl rfl rfl M v k m) l_ (fun v _ h=>by exact⟨⟨.inl rfl,.inl rfl,.inl rfl,.inl rfl,.inl rfl,.inl rfl⟩,trivial⟩)
end Go.Proofs.YtpbnmnfdgckaiaaGreatDoor
namespace Go.Proofs.YtpbnmnfdgckaiaaGreatDoor
open Go Go.Sx Go.Proofs
attribute [local irreducible] Code.wp wpList wpAnyH
open Go.Vs Go.Shelf Go.RowKit
theorem wx_ (l:List Fc) (ad:Option Addr) (cap:Nat) (f:Fc) (hl:l.length≤9223372036854775807):Tri Tryz.prog 89 #[.slice ad (List.length l) cap,Fc.val f] [] [V_ ad (List.flatMap Fc.cells l)] (fun r:{r:Int // decide (0≤r)=decide (f∈l)}=>.int .i64 r.1) (fun _=>[]) (fun _=>[]):=by
 refine j_ Tryz.func89 rfl rfl Tryz.ntmps89 rfl fun E=>?_;refine Zz 2 ?_;refine aa_ rfl rfl fun x=>Zz 12 ?_
 refine P_ (ι:={y:Nat // y≤List.length l∧f ∉ List.take y l}) (fun y=>[(0,.slice ad (List.length l) cap),(3,zp_ x 0),(4,.int .i64 0),(7,.int .i64 (List.length l:Int)),(8,.int .i64 (y.1:Int))]) (fun y=>((x,.cells #[.int .i64 f.kind,str f.a,str f.b,str f.r,.int .i64 f.lo,.int .i64 f.hi] 36 (0,0))::[])) (fun y=>[V_ ad (List.flatMap Fc.cells l)]) (fun y=>List.length l - y.1) ⟨(0:Nat),by simp,zC_⟩ zl d_ zh ?_;rintro ⟨i,v,A⟩;dsimp only at v A ⊢;refine Zi 2 (fun m=>?_) fun m=>?_
 ·refine Zz 12 ?_
  exact af_ Tryz.results89 ⟨-1,by rw[List.take_of_length_le zr_]at A;rw[decide_eq_false A];rfl⟩ rfl l_ zt
 obtain⟨e,C,k,h⟩:=zge (show i<List.length l by omega);refine Zz 16 ?_;refine G_ 0 [0,1,2,3,4,5] zk zs (Zz 5 ?_);refine fd_ rfl (ew_ (p:=f) (q:=C) rfl rfl) rfl fun B d=>Zz 3 ?_
 cases B
 ·replace d:=zdf d
  refine Zz 8 ?_;exact y_ ⟨i+1,e,(by rw[tk1 k,List.mem_append,List.mem_singleton];exact fun q=>q.elim A d)⟩ zu_ zl d_ zh
 replace d:=zdt d;refine Zz 8 ?_;exact af_ Tryz.results89 ⟨(i:Int),by rw[decide_eq_true (p:=f∈l) (by rw[d];exact h)];exact decide_eq_true zr_⟩ rfl l_ zt
theorem iW_ (l:List Fc) (ad:Option Addr) (cap:Nat) (f:Fc) (hl:l.length≤9223372036854775807):Tri Tryz.prog 43 #[.slice ad (List.length l) cap,Fc.val f] [] [V_ ad (List.flatMap Fc.cells l)] (fun _:Unit=>.bool (decide (f∈l))) (fun _=>[]) (fun _=>[]):=by
  refine j_ Tryz.func43 rfl rfl Tryz.ntmps43 rfl fun k=>?_;refine Zz 2 ?_;refine aa_ rfl rfl fun m=>Zz 7 ?_
  refine i_ (wx_ l ad cap f hl) rfl l_ zf rfl fun⟨ix,e⟩=>?_;dsimp only;try dsimp only at e
  refine C_ (fa_ rfl rfl) rfl fun h d=>Zz 4 ?_
  exact af_ Tryz.results43 () (o_ rfl (e.symm.trans d).symm) l_ zt
def sH_ (m:Mdl) (r t:Str):Bool:=(r==t)||decide (ac_ r t∈m.ro)
def ov_ (m:Mdl) (a r b:Str) (f:Fc):Bool:=decide (f=am_ a f.r b)&&sH_ m f.r r
def xP_ (m:Mdl) (a r b:Str):Bool:=if nls a=false∧nls b=false then decide (am_ a r b∈m.li) else m.di.any (ov_ m a r b)
theorem sf_ {m:Mdl} {a r b:Str} {f:Fc} (h:f=am_ a f.r b) (d:sH_ m f.r r=true):ov_ m a r b f=true:=by unfold ov_;rw[decide_eq_true h,d];rfl
theorem vF_ {m:Mdl} {a r b:Str} {f:Fc} (h:¬ f=am_ a f.r b):ov_ m a r b f=false:=by unfold ov_;rw[decide_eq_false h];rfl
theorem vE_ {m:Mdl} {a r b:Str} {f:Fc} (d:sH_ m f.r r=false):ov_ m a r b f=false:=by unfold ov_;rw[d,Bool.and_false]
theorem jt_ {α:Type} {l:List α} {p:α→Bool} {i:Nat} {x:α} (h:(l.take i).any p=false) (e:l[i]? = some x) (d:p x=false):(l.take (i+1)).any p=false:=by rw[tk1 e,List.any_append,h];simp[d]
theorem rM_ {α:Type} {l:List α} {p:α→Bool} {i:Nat} (h:(l.take i).any p=false) (hi:l.length≤i):l.any p=false:=by rwa [List.take_of_length_le hi]at h
theorem or_ {α:Type} {l:List α} {p:α→Bool} {x:α} (e:x∈l) (d:p x=true):l.any p=true:=List.any_eq_true.2 ⟨x,e,d⟩
theorem rolB_i {m:Mdl} {a r b:Str} (d:nls a=false) (e:nls b=false):xP_ m a r b=decide (am_ a r b∈m.li):=if_pos ⟨d,e⟩
theorem nt_ {m:Mdl} {a r b:Str} (h:¬ (nls a=false∧nls b=false)):xP_ m a r b=m.di.any (ov_ m a r b):=if_neg h
theorem sI_ (m:Mdl) (d:m.ok) (n t:Str):Tri Tryz.prog 12 #[Mdl.val m,str n,str t] [] [er_ m] (fun _:Unit=>.bool (decide (ac_ n t∈m.ty))) (fun _=>[]) (fun _=>[]):=by
  refine j_ Tryz.func12 rfl rfl Tryz.ntmps12 rfl fun k=>?_;refine Zz 2 ?_;refine aa_ rfl rfl fun x=>Zz 9 ?_
  refine e_ (K_ fb_ rfl rfl) rfl (T_ (iW_ (Mdl.ty m) (Mdl.tya m) (Mdl.tyc m) (Fc.mk 1 n t [] 0 0) d.ty) rfl l_ (fun v _ h=>by exact⟨h.1.2.1,trivial⟩) rfl fun q e=>Zz 4 ?_);exact af_ Tryz.results12 () (o_ rfl e.symm) l_ zt
theorem mr_ (m:Mdl) (k:m.ok) (r t:Str):Tri Tryz.prog 52 #[Mdl.val m,str r,str t] [] [er_ m] (fun _:Unit=>.bool (sH_ m r t)) (fun _=>[]) (fun _=>[]):=by
 refine j_ Tryz.func52 rfl rfl Tryz.ntmps52 rfl fun x=>?_;refine Zz 2 ?_;refine aa_ rfl rfl fun y=>Zi 7 (fun d=>?_) fun d=>?_
 ·refine Zz 10 ?_
  refine e_ (K_ fb_ rfl rfl) rfl (aQ_ rfl rfl (T_ (iW_ (Mdl.ro m) (Mdl.roa m) (Mdl.roc m) (Fc.mk 1 r t [] 0 0) k.ro) rfl l_ (fun v _ h=>by exact⟨h.1.2.2.2.2.2,trivial⟩) rfl fun q e=>Zz 5 ?_));exact af_ Tryz.results52 () (o_ rfl (by unfold sH_;rw[beq_eq_false_iff_ne.2 d,Bool.false_or];exact e.symm)) l_ zt
 refine Zz 12 ?_;exact af_ Tryz.results52 () (o_ rfl (by unfold sH_;rw[beq_iff_eq.2 d];rfl)) l_ zt
theorem xO_ (m:Mdl) (H:m.ok) (a r b:Str):Tri Tryz.prog 18 #[Mdl.val m,str a,str r,str b] [] [er_ m] (fun _:Unit=>.bool (xP_ m a r b)) (fun _=>[]) (fun _=>[]):=by
 refine j_ Tryz.func18 rfl rfl Tryz.ntmps18 rfl fun P=>?_;have Q:=H.di;refine Zz 2 ?_;refine aa_ rfl rfl fun J=>Zz 7 ?_
 refine T_ (bY_ a) rfl l_ zt rfl fun M C=>e_ (aJ_ rfl) rfl (Zz 1 ?_)
 cases M
 ·refine Zz 3 ?_
  refine T_ (bY_ b) rfl l_ zt rfl fun L A=>aQ_ rfl rfl (e_ (aJ_ rfl) rfl (Zz 3 ?_))
  cases L
  ·refine Zz 8 ?_
   refine e_ (K_ fb_ rfl rfl) rfl (T_ (iW_ (Mdl.li m) (Mdl.lia m) (Mdl.lic m) (Fc.mk 2 a b r 0 0) H.li) rfl l_ (fun v _ h=>by exact⟨h.1.2.2.1,trivial⟩) rfl fun I d=>Zz 4 ?_);exact af_ vK_ () (o_ rfl (by rw[rolB_i C A];exact d.symm)) l_ zt
  refine Zz 13 ?_;refine P_ (ι:={y:Nat // y≤List.length (Mdl.di m)∧(List.any (List.take y (Mdl.di m)) (ov_ m a r b))=false}) (fun y=>[(1,str a),(2,str r),(3,str b),(4,zp_ J 0),(8,.bool false),(27,.slice (Mdl.dia m) (List.length (Mdl.di m)) (Mdl.dic m)),(28,.int .i64 (List.length (Mdl.di m):Int)),(29,.int .i64 (y.1:Int))]) (fun y=>((J,.cells #[.slice (Mdl.noa m) (List.length (Mdl.no m)) (Mdl.noc m),.slice (Mdl.tya m) (List.length (Mdl.ty m)) (Mdl.tyc m),.slice (Mdl.lia m) (List.length (Mdl.li m)) (Mdl.lic m),.slice (Mdl.dia m) (List.length (Mdl.di m)) (Mdl.dic m),.slice (Mdl.raa m) (List.length (Mdl.ra m)) (Mdl.rac m),.slice (Mdl.roa m) (List.length (Mdl.ro m)) (Mdl.roc m)] 28 (0,0))::[])) (fun y=>[er_ m]) (fun y=>List.length (Mdl.di m) - y.1) ⟨(0:Nat),by simp,zC_⟩ zl d_ zh ?_;rintro ⟨i,F,G⟩;dsimp only at F G ⊢;refine Zi 2 (fun d=>?_) fun d=>?_
  ·refine Zz 12 ?_
   exact af_ vK_ () (o_ rfl (by rw[nt_ (fun q=>by rw[q.2]at A;cases A),rM_ G zr_])) l_ zt
  obtain⟨x,B,e,E⟩:=zge (show i<List.length (Mdl.di m) by omega);refine Zz 10 ?_;refine e_ (U_ A_ E_ rfl rfl (fun v _ h=>aE_ (n:=6) Fc.cells_len zx_ (by exact h.1.2.2.2.1) e) zr_ zA_) rfl ?_;refine e_ (au_ (ad:=(Mdl.dia m)) (us:=Fc.cells B) bH_ E_ rfl (fun v _ h=>by exact h.1.2.2.2.1) (Fc.cells_len _) (p_ Fc.cells_len e)) rfl (D_ ae_ rfl fun N=>x_ 0 E_ rfl rfl rfl rfl rfl rfl (Zz 9 ?_));refine e_ (K_ fb_ rfl rfl) rfl (C_ (ew_ (p:=B) (q:=(Fc.mk 2 a b B.r 0 0)) rfl rfl) rfl fun I k=>Zz 1 ?_);cases I
  ·replace k:=zdf k
   refine Zz 16 ?_;exact y_ ⟨i+1,x,(jt_ G e (vF_ k))⟩ zu_ zl (c_ d_) zh
  replace k:=zdt k;refine Zz 9 ?_;refine T_ (mr_ m H B.r r) rfl l_ zf rfl fun O K=>Zz 3 ?_
  cases O
  ·refine Zz 8 ?_
   exact y_ ⟨i+1,x,(jt_ G e (vE_ K))⟩ zu_ zl (c_ d_) zh
  refine Zz 7 ?_;exact af_ vK_ () (o_ rfl (by rw[nt_ (fun q=>by rw[q.2]at A;cases A),or_ E (sf_ k K)])) l_ zt
 refine Zz 19 ?_;refine P_ (ι:={y:Nat // y≤List.length (Mdl.di m)∧(List.any (List.take y (Mdl.di m)) (ov_ m a r b))=false}) (fun y=>[(1,str a),(2,str r),(3,str b),(4,zp_ J 0),(8,.bool false),(27,.slice (Mdl.dia m) (List.length (Mdl.di m)) (Mdl.dic m)),(28,.int .i64 (List.length (Mdl.di m):Int)),(29,.int .i64 (y.1:Int))]) (fun y=>((J,.cells #[.slice (Mdl.noa m) (List.length (Mdl.no m)) (Mdl.noc m),.slice (Mdl.tya m) (List.length (Mdl.ty m)) (Mdl.tyc m),.slice (Mdl.lia m) (List.length (Mdl.li m)) (Mdl.lic m),.slice (Mdl.dia m) (List.length (Mdl.di m)) (Mdl.dic m),.slice (Mdl.raa m) (List.length (Mdl.ra m)) (Mdl.rac m),.slice (Mdl.roa m) (List.length (Mdl.ro m)) (Mdl.roc m)] 28 (0,0))::[])) (fun y=>[er_ m]) (fun y=>List.length (Mdl.di m) - y.1) ⟨(0:Nat),by simp,zC_⟩ zl d_ zh ?_;rintro ⟨i,F,G⟩;dsimp only at F G ⊢;refine Zi 2 (fun A=>?_) fun A=>?_
 ·refine Zz 12 ?_
  exact af_ vK_ () (o_ rfl (by rw[nt_ (fun q=>by rw[q.1]at C;cases C),rM_ G zr_])) l_ zt
 obtain⟨x,B,e,E⟩:=zge (show i<List.length (Mdl.di m) by omega);refine Zz 10 ?_;refine e_ (U_ A_ E_ rfl rfl (fun v _ h=>aE_ (n:=6) Fc.cells_len zx_ (by exact h.1.2.2.2.1) e) zr_ zA_) rfl ?_;refine e_ (au_ (ad:=(Mdl.dia m)) (us:=Fc.cells B) bH_ E_ rfl (fun v _ h=>by exact h.1.2.2.2.1) (Fc.cells_len _) (p_ Fc.cells_len e)) rfl (D_ ae_ rfl fun N=>x_ 0 E_ rfl rfl rfl rfl rfl rfl (Zz 9 ?_));refine e_ (K_ fb_ rfl rfl) rfl (C_ (ew_ (p:=B) (q:=(Fc.mk 2 a b B.r 0 0)) rfl rfl) rfl fun L d=>Zz 1 ?_);cases L
 ·replace d:=zdf d
  refine Zz 16 ?_;exact y_ ⟨i+1,x,(jt_ G e (vF_ d))⟩ zu_ zl (c_ d_) zh
 replace d:=zdt d;refine Zz 9 ?_;refine T_ (mr_ m H B.r r) rfl l_ zf rfl fun I k=>Zz 3 ?_
 cases I
 ·refine Zz 8 ?_
  exact y_ ⟨i+1,x,(jt_ G e (vE_ k))⟩ zu_ zl (c_ d_) zh
 refine Zz 7 ?_;exact af_ vK_ () (o_ rfl (by rw[nt_ (fun q=>by rw[q.1]at C;cases C),or_ E (sf_ d k)])) l_ zt
theorem yv_ (l:List Fc) (ad:Option Addr) (cap:Nat) (hl:l.length≤9223372036854775807):Tri Tryz.prog 87 #[.slice ad (List.length l) cap] [] [V_ ad (List.flatMap Fc.cells l)] (fun b:{b:Bool // b=true↔Srt l}=>.bool b.1) (fun _=>[]) (fun _=>[]):=by
 refine j_ Tryz.func87 rfl rfl Tryz.ntmps87 rfl fun L=>?_;refine Zz 14 ?_;refine P_ (ι:={y:Nat // y≤List.length l∧(List.take y l).Pairwise Fc.lt}) (fun y=>[(0,.slice ad (List.length l) cap),(2,.bool false),(5,.slice ad (List.length l) cap),(6,.int .i64 (List.length l:Int)),(7,.int .i64 (y.1:Int))]) (fun y=>([])) (fun y=>[V_ ad (List.flatMap Fc.cells l)]) (fun y=>List.length l - y.1) ⟨(0:Nat),by simp,zC_⟩ zl l_ zh ?_;rintro ⟨i,x,E⟩;dsimp only at x E ⊢;refine Zi 2 (fun v=>?_) fun v=>?_
 ·have hS:List.length l≤i→Srt l:=fun q=>by rw[List.take_of_length_le q]at E;exact E
  refine Zz 12 ?_;exact af_ Tryz.results87 ⟨true,fun _=>hS zr_,fun _=>rfl⟩ rfl l_ zt
 obtain⟨d,K,e,I⟩:=zge (show i<List.length l by omega);refine Zz 13 ?_;refine D_ ae_ rfl fun M=>Zz 1 ?_
 refine x_ 0 E_ rfl rfl rfl rfl rfl rfl (Zz 4 ?_);refine G_ 9 [0,1,2] zk zs (Zi 1 (fun A=>?_) fun A=>?_)
 ·refine Zz 2 ?_
  refine G_ 0 [3,4,5,6,7,8,9,10,11] zk zs (Zz 20 ?_);exact y_ ⟨i+1,d,(by rw[show i=0 by omega];exact pw_one l)⟩ zu_ zl l_ zh
 obtain⟨H,m,B,F⟩:=zge (show (Int.toNat ((i:Int) - 1))<List.length l by omega);have h:l[i - 1]? = some m:=by rw[show i - 1=Int.toNat ((i:Int) - 1) by omega];exact B
 refine Zz 2 ?_;refine G_ 3 [3,4,5,6,7,8] zk zs (Zz 7 ?_);refine n_ 9 rfl zk (aQ_ rfl rfl (i_ (wR_ m K) rfl l_ zt rfl fun _=>Zz 3 ?_));refine G_ 0 [10,11] zk zs ?_;refine Zi 0 (fun C=>?_) fun C=>?_
 ·refine Zz 12 ?_
  exact y_ ⟨i+1,d,(by have q:=xU_ (lt:=Fc.lt) (fun G J=>Fc.lt_trans G J) (k:=i - 1) (by rw[show i - 1+1=i by omega];exact E) h zaL_ (yG_ zr_);rw[show i - 1+2=i+1 by omega]at q;exact q)⟩ zu_ zl l_ zh
 refine Zz 11 ?_;exact af_ Tryz.results87 ⟨false,fun q=>zba_,fun q=>absurd q (pw_not (k:=i - 1) h zaL_ (tD_.1 zr_))⟩ rfl l_ zt
end Go.Proofs.YtpbnmnfdgckaiaaGreatDoor
