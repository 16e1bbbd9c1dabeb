/-
  Lemmas for the law CanonTells (no condition).
-/
import Derived.Test.YtbffkokbdeppaaaGreatDoorQCanonTells10
set_option linter.unusedVariables false
set_option linter.unusedSimpArgs false
set_option linter.unusedSectionVars false
set_option maxHeartbeats 1000000
namespace Go.Proofs.YtbffkokbdeppaaaGreatDoor
open Go Go.Sx Go.Proofs Tryz
attribute [local irreducible] Code.wp wpList wpAnyH
open Go.Vs
section
variable {P:Program} {N:Nf} {v0:Vw} {H0:Hp} {fr:Fr} {H F:Hp} {Γ:List Fct} {K D:Type} [DecidableEq K]
theorem kp_:∀ (B:Hp) {v:Vw},af_ (B.map λp=>ch_ p.1 p.2) v->∀ p∈B,v.im p.1/\v.w.heap[p.1]? = some p.2
 | [],_,_,_,h=>by simp at h
 | q::B,v,h,p,d=>by
   rcases yan_.1 d with rfl|d
   . exact h.1
   . exact kp_ B h.2 p d
theorem os_ {k:Act->World->Prop} {m:K->Value} {cells:D->List Value} {x e:TypeId} {sz y:Nat} {l:List (K×D)} {d:Hp} (E:KeyT P x m) (hm:cU_ m cells e sz l y d) (B:H.Perm (d++F))
    (h:∀ adr,Ok N v0 H0 k fr F (mlF P x m cells y l adr::Γ)):Ok N v0 H0 k fr H Γ:=by
  obtain⟨adr,C⟩:=hm.lent E;refine ot_ d B (iN_ (λv _ q=>?_) (h adr));rw[eQ_]at q;refine⟨C v λp A=>?_,q.2⟩;have:=q.1;exact kp_ d.reverse (by rw[List.map_reverse]at *;exact this) p (ydF_.2 A)
theorem nB_ {e:TypeId} {E:Emt P e} {nw fm:List Fc} {Hs:Hp} {ty t B C:TypeId} {x:Operand} (hS:E.St nw fm Hs) (q:∀ w,(underlying t).run P w=.ok (.map B C) w) (y:Fr.ev fr x=some (.map (some E.kb))) (d:H.Perm (Hs++F)) :
    Yld P N fr H Γ (.call ⟨.builtin .len,#[x],#[t]⟩) ty (iv_ ((E.kof nw).length:Int)):=by
  obtain⟨es,c,m,A⟩:=E.known hS;exact nA_ A q y λv h _=>oj_ d m h
end
def um_ (x:Ix) (n:Nat):Prop:=x.above.length<=n/\x.under.length<=n/\x.frm.length<=n/\x.into.length<=n/\x.ranges.length<=n/\x.firms.length<=n
theorem yY_:um_ Ix.nil 0:=by simp[um_,Ix.nil]
theorem kV_ {x:Ix} {n:Nat} (h:um_ x n) (b:Bool) (f:Fc):um_ (x.add b f) (n+1):=by
 obtain⟨e,m,q,d,v,y⟩:=h;unfold Ix.add um_
 split
 .simp;omega
 split
 .simp;omega
 split
 .cases b<;>simp<;>omega
 omega
theorem sR_ {x:Ix} {n:Nat} (h:um_ x n) (A:n<=1000000000):(∀ k,(lat x.above k).length<=1000000000/\(lat x.under k).length<=1000000000)/\(∀ k,(lat x.frm k).length<=1000000000/\(lat x.into k).length<=1000000000/\(lat x.ranges k).length<=1000000000/\(lat x.firms k).length<=1000000000):=by
 obtain⟨e,m,q,d,v,y⟩:=h;refine⟨λk=>⟨?_,?_⟩,λk=>⟨?_,?_,?_,?_⟩⟩
 .have:=dv_ x.above k;omega
 .have:=dv_ x.under k;omega
 .have:=dv_ x.frm k;omega
 .have:=dv_ x.into k;omega
 .have:=dv_ x.ranges k;omega
 have:=dv_ x.firms k;omega
theorem AM_ (B:EngB) (E:Emt prog 104) (J:EngA) (q:List (Ky×Pc)) (x:Ix) (f:Fc) (nw fm:List Fc) (Hs:Hp) (hS:E.St nw fm Hs) (A I v C Hr G:Hp) (M:IxO 9 104 B x ⟨A,I,v,C,Hr,G⟩) (e:∀ k,(lat q k).length<=1000000000) (d:∀ k,(lat x.above k).length<=1000000000/\(lat x.under k).length<=1000000000) (m:∀ k,(lat x.frm k).length<=1000000000/\(lat x.into k).length<=1000000000/\(lat x.ranges k).length<=1000000000/\(lat x.firms k).length<=1000000000) (L:f.kind=3->-1099511627776<=f.lo/\f.lo<=f.hi/\f.hi<=1099511627776) (O:f.kind=3->∀ y∈lat q (Ky.mk 9 f.r []),-1099511627776<=y.lo/\y.lo<=y.hi/\y.hi<=1099511627776) (hk:f.kind=1):∀ (j:Nat) {fv:Value},(rlV B.g 1)[j]? = some fv->∃ n:Nat,fv=.func (.func n) #[zp_ B.g 0] #[]/\Tri prog n #[zp_ B.g 0,f.val] ((A++(I++(v++(C++(Hr++G)))))++Hs) [gF B E,pF B q J,E.ef] (λ_:{H':Hp // E.St (rl E.stp E.kof q x f j (nw,fm)).1 (rl E.stp E.kof q x f j (nw,fm)).2 H'}=>.tuple #[]) (λy=>(A++(I++(v++(C++(Hr++G)))))++y.1) (λ_=>[])
  | 0,_,h=>⟨224,(ybl_ h).symm,rl10_c B E J q x f nw fm Hs hS A I v C Hr G M e d m L O hk⟩
  | 1,_,h=>⟨225,(ybl_ h).symm,rl11_c B E J q x f nw fm Hs hS A I v C Hr G M e d m L O hk⟩
  | 2,_,h=>⟨226,(ybl_ h).symm,rl12_c B E J q x f nw fm Hs hS A I v C Hr G M e d m L O hk⟩
  | 3,_,h=>⟨227,(ybl_ h).symm,rl13_c B E J q x f nw fm Hs hS A I v C Hr G M e d m L O hk⟩
  | 4,_,h=>⟨228,(ybl_ h).symm,rl14_c B E J q x f nw fm Hs hS A I v C Hr G M e d m L O hk⟩
  | 5,_,h=>⟨229,(ybl_ h).symm,rl15_c B E J q x f nw fm Hs hS A I v C Hr G M e d m L O hk⟩
  | j+6,_,h=>by simp[rlV]at h
theorem AL_ (B:EngB) (E:Emt prog 104) (J:EngA) (e:List (Ky×Pc)) (x:Ix) (f:Fc) (nw fm:List Fc) (Hs:Hp) (hS:E.St nw fm Hs) (A I v C Hr G:Hp) (M:IxO 9 104 B x ⟨A,I,v,C,Hr,G⟩) (m:∀ k,(lat e k).length<=1000000000) (d:∀ k,(lat x.above k).length<=1000000000/\(lat x.under k).length<=1000000000) (q:∀ k,(lat x.frm k).length<=1000000000/\(lat x.into k).length<=1000000000/\(lat x.ranges k).length<=1000000000/\(lat x.firms k).length<=1000000000) (L:f.kind=3->-1099511627776<=f.lo/\f.lo<=f.hi/\f.hi<=1099511627776) (O:f.kind=3->∀ y∈lat e (Ky.mk 9 f.r []),-1099511627776<=y.lo/\y.lo<=y.hi/\y.hi<=1099511627776) (hk:f.kind=2):∀ (j:Nat) {fv:Value},(rlV B.g 2)[j]? = some fv->∃ n:Nat,fv=.func (.func n) #[zp_ B.g 0] #[]/\Tri prog n #[zp_ B.g 0,f.val] ((A++(I++(v++(C++(Hr++G)))))++Hs) [gF B E,pF B e J,E.ef] (λ_:{H':Hp // E.St (rl E.stp E.kof e x f j (nw,fm)).1 (rl E.stp E.kof e x f j (nw,fm)).2 H'}=>.tuple #[]) (λy=>(A++(I++(v++(C++(Hr++G)))))++y.1) (λ_=>[])
  | 0,_,h=>⟨230,(ybl_ h).symm,rl20_c B E J e x f nw fm Hs hS A I v C Hr G M m d q L O hk⟩
  | 1,_,h=>⟨231,(ybl_ h).symm,rl21_c B E J e x f nw fm Hs hS A I v C Hr G M m d q L O hk⟩
  | 2,_,h=>⟨232,(ybl_ h).symm,rl22_c B E J e x f nw fm Hs hS A I v C Hr G M m d q L O hk⟩
  | 3,_,h=>⟨233,(ybl_ h).symm,rl23_c B E J e x f nw fm Hs hS A I v C Hr G M m d q L O hk⟩
  | j+4,_,h=>by simp[rlV]at h
theorem AK_ (B:EngB) (E:Emt prog 104) (J:EngA) (d:List (Ky×Pc)) (x:Ix) (f:Fc) (nw fm:List Fc) (Hs:Hp) (hS:E.St nw fm Hs) (q I e A Hr G:Hp) (M:IxO 9 104 B x ⟨q,I,e,A,Hr,G⟩) (v:∀ k,(lat d k).length<=1000000000) (m:∀ k,(lat x.above k).length<=1000000000/\(lat x.under k).length<=1000000000) (C:∀ k,(lat x.frm k).length<=1000000000/\(lat x.into k).length<=1000000000/\(lat x.ranges k).length<=1000000000/\(lat x.firms k).length<=1000000000) (L:f.kind=3->-1099511627776<=f.lo/\f.lo<=f.hi/\f.hi<=1099511627776) (O:f.kind=3->∀ y∈lat d (Ky.mk 9 f.r []),-1099511627776<=y.lo/\y.lo<=y.hi/\y.hi<=1099511627776) (hk:f.kind=3):∀ (j:Nat) {fv:Value},(rlV B.g 3)[j]? = some fv->∃ n:Nat,fv=.func (.func n) #[zp_ B.g 0] #[]/\Tri prog n #[zp_ B.g 0,f.val] ((q++(I++(e++(A++(Hr++G)))))++Hs) [gF B E,pF B d J,E.ef] (λ_:{H':Hp // E.St (rl E.stp E.kof d x f j (nw,fm)).1 (rl E.stp E.kof d x f j (nw,fm)).2 H'}=>.tuple #[]) (λy=>(q++(I++(e++(A++(Hr++G)))))++y.1) (λ_=>[])
  | 0,_,h=>⟨234,(ybl_ h).symm,rl30_c B E J d x f nw fm Hs hS q I e A Hr G M v m C L O hk⟩
  | 1,_,h=>⟨235,(ybl_ h).symm,rl31_c B E J d x f nw fm Hs hS q I e A Hr G M v m C L O hk⟩
  | j+2,_,h=>by simp[rlV]at h
def dF_ (p:List Pc) (bu:Int) (c:Cl) (e:Int):Prop :=
  if cs_ p≠0 then c=Cl.no/\e=cs_ p
  else if bu<0\/1073741824<bu then c=Cl.no/\e=1
  else (e=0/\c.ok/\c.atoms=atS p/\gM_ p (atS p) (min bu 65536).toNat (some c.facts))\/(c=Cl.no/\e=(if bu<65536 then 3 else 2)/\gM_ p (atS p) (min bu 65536).toNat none)
theorem zY_ {p:List Pc} {d:Int} (h:cs_ p≠0):dF_ p d Cl.no (cs_ p):=by unfold dF_;rw[yao_ h];exact⟨rfl,rfl⟩
theorem zZ_ {p:List Pc} {d:Int} (h:cs_ p=0) (e:d<0\/1073741824<d):dF_ p d Cl.no 1:=by unfold dF_;rw[yag_ (by simp[h]),yao_ e];exact⟨rfl,rfl⟩
theorem Cg_ {p:List Pc} {d:Int} {m n:Nat} {c:Cl} {q fm:List Fc} {x:Ix} (C:cs_ p=0) (G:¬ d<0) (E:¬ 1073741824<d) (hm:min d 65536=(m:Int)) (hk:c.ok) (B:c.atoms=atS p) (h:LoopA (uniq [] p) (atS p) m n q fm x) (A:q.length<=n) (hl:q.length<=m) (v:c.facts=eU_ q):dF_ p d c 0:=by
  unfold dF_;rw[yag_ (by simp[C]),yag_ zaa_];have e:n=q.length:=Nat.le_antisymm h.le A;subst e;refine .inl ⟨rfl,hk,B,?_⟩;rw[hm,v];exact⟨xT_ h.nd,λy=>by rw[sh_,<-uj_ h hl,rY_],by rw[dH_];simpa using hl⟩
theorem jH_ {p:List Pc} {d:Int} {m:Nat} {e:Int} {M:List Fc} (x:cs_ p=0) (B:¬ d<0) (A:¬ 1073741824<d) (hm:min d 65536=(m:Int)) (q:e=if d<65536 then 3 else 2) (nd:M.Nodup) (h:∀ y∈M,Der (uniq [] p) (atS p) y) (hl:m<M.length):dF_ p d Cl.no e:=by
  unfold dF_;rw[yag_ (by simp[x]),yag_ zaa_];exact .inr ⟨rfl,q,M,nd,λy v=>rY_.1 (h y v),by rw[hm];simpa using hl⟩
end Go.Proofs.YtbffkokbdeppaaaGreatDoor
namespace Go.Proofs.YtbffkokbdeppaaaGreatDoor
open Go Go.Sx Go.Proofs Tryz
attribute [local irreducible] Code.wp wpList wpAnyH
open Go.Vs
theorem kv_ {G:Prop} (h:G:=by
 refine e_ (C_ hz_ rfl rfl) rfl (n_ 0 bn_ rfl rfl rfl rfl rfl rfl (Zz 4 ?_));exact de_ ⟨((Cl.mk [] none 0 [] none 0),1),zZ_ zal_ zaa_⟩ (λaa v C B=>bI_ (us:=Cl.cells (Cl.mk [] none 0 [] none 0)) 0 iI_ fD_ bn_ rfl rfl rfl rfl aa v C B) g_ (λv _ h=>by exact⟨.inl rfl,.inl rfl,trivial⟩)):G:=h
theorem ht_ {G:Prop} (h:G:=by
 refine ap_ (first:=[zp_ g 0]) (vs:=[Fc.val f]) (cap:=[]) hT rfl rfl (pf_six (F_ (c_ (c_ (c_ z_))) (F_ (c_ (c_ (c_ z_))) (F_ (c_ (c_ (c_ z_))) (F_ (c_ (c_ (c_ z_))) (F_ (c_ (c_ (c_ z_))) (F_ (c_ (c_ (c_ z_))) (c_ (c_ B_))))))))) (λv _ h=>by exact⟨h.2.2.2.2.2.1,h.2.2.2.2.1,⟨h.2.2.2.2.2.2.2.1,h.2.2.2.2.2.2.1,h.2.2.2.2.2.1⟩,trivial⟩) rfl λ⟨V,W⟩=>A_ AW_ (Zz 2 ?_)
 refine A_ (Y_ (j_ (j_ (j_ (j_ (j_ (j_ (j_ d_))))))) (Y_ (j_ (j_ (j_ (j_ (j_ (j_ (j_ d_))))))) (bc_ (j_ (j_ (j_ (j_ (j_ (j_ aU_))))))))) (Zz 2 ?_);refine D_ 0 [0,1,2,3,4,5,6] zk zs (Zz 4 ?_);refine M_ rfl (ao_ (nB_ (E:=(EA m hm (EngB.mk g pb ab ub ob ib rb sb lad lcap (aB_ (uniq [] p))) A F d kb fb)) (nw:=(rls (bB_ m) idk (aT_ (uniq [] p)) (Ix.add x (decide (f∈fm)) f) f (j+1) (q,fm)).1) (Hs:=V) W bo_ rfl zp) (show _=iv_ (List.length (rls (bB_ m) idk (aT_ (uniq [] p)) (Ix.add x (decide (f∈fm)) f) f (j+1) (q,fm)).1:Int) from rfl)) rfl (Zi 1 (λhr_6=>?_) λhr_6=>?_)
 .refine Zz 11 ?_
  exact u_ ⟨(j+1,V),a8,by exact W,.inr zab_⟩ zab_ zl zp zh
 refine Zz 9 ?_;refine D_ 0 [0,1,2,3,4,5,6] zk zs (Zz 4 ?_);refine M_ rfl (ao_ (nB_ (E:=(EA m hm (EngB.mk g pb ab ub ob ib rb sb lad lcap (aB_ (uniq [] p))) A F d kb fb)) (nw:=(rls (bB_ m) idk (aT_ (uniq [] p)) (Ix.add x (decide (f∈fm)) f) f (j+1) (q,fm)).1) (Hs:=V) W bo_ rfl zp) (show _=iv_ (List.length (rls (bB_ m) idk (aT_ (uniq [] p)) (Ix.add x (decide (f∈fm)) f) f (j+1) (q,fm)).1:Int) from rfl)) rfl (Zi 1 (λhr_7=>?_) λhr_7=>?_)
 .omega
 refine Zi 8 (λhr_8=>?_) λhr_8=>?_
 .refine Zz 7 ?_
  refine e_ (C_ hz_ rfl rfl) rfl (n_ 0 bn_ rfl rfl rfl rfl rfl rfl (Zz 4 ?_));exact de_ ⟨((Cl.mk [] none 0 [] none 0),2),jH_ X Z a1 Y (by rw[yag_ zal_]) (gn_ L hL hf (j+1) rfl).1 (gn_ L hL hf (j+1) rfl).2.2.1 zaa_⟩ (λaa v C B=>bI_ (us:=Cl.cells (Cl.mk [] none 0 [] none 0)) 0 iI_ fD_ bn_ rfl rfl rfl rfl aa v C B) g_ (λv _ h=>by exact⟨.inl rfl,.inl rfl,trivial⟩)
 refine Zz 5 ?_;refine e_ (C_ hz_ rfl rfl) rfl (n_ 0 bn_ rfl rfl rfl rfl rfl rfl (Zz 4 ?_));exact de_ ⟨((Cl.mk [] none 0 [] none 0),3),jH_ X Z a1 Y (by rw[yao_ zal_]) (gn_ L hL hf (j+1) rfl).1 (gn_ L hL hf (j+1) rfl).2.2.1 zaa_⟩ (λaa v C B=>bI_ (us:=Cl.cells (Cl.mk [] none 0 [] none 0)) 0 iI_ fD_ bn_ rfl rfl rfl rfl aa v C B) g_ (λv _ h=>by exact⟨.inl rfl,.inl rfl,trivial⟩)):G:=h
set_option maxHeartbeats 4000000 in
theorem CC_ (p:List Pc) (a3:Ao) (a7:Nat) (bu:Int) (hsm:∀ x∈p,x.sm) (hp:p.length<=100000000):Tri prog 67 #[.slice a3 p.length a7,iv_ bu] [] [ac_ a3 (p.flatMap Pc.cells),hx_] (λy:{y:Cl×Int // dF_ p bu y.1 y.2}=>.tuple #[y.1.1.val,iv_ y.1.2]) (λ_=>[]) (λy=>y.1.1.row):=by
 refine i_ func67 rfl rfl ntmps67 rfl λv_1=>?_;refine Zz 2 ?_;refine x_ iy_ rfl λb_1=>Zz 3 ?_
 refine lr_ (Zz 4 ?_);refine f_ (BW_ p a3 a7 zaa_ hsm) rfl g_ zf rfl λ_=>Zi 6 (λhr_1=>?_) λhr_1=>?_
 .have X:=hr_1
  refine Zi 9 (λhr_2=>?_) λhr_2=>?_
  .have Z:=hr_2
   refine Zi 4 (λhr_3=>?_) λhr_3=>?_
   .have a1:=hr_3
    refine Zz 7 ?_;obtain⟨m,Y⟩:∃ m:Nat,min bu 65536=(m:Int):=⟨(min bu 65536).toNat,by omega⟩;have hm:m<=65536:=by omega
    have L:=xG_ (qv_ X);have hpl:∀ k,(lat (aT_ (uniq [] p)) k).length<=1000000000:=λk=>by have C:=dv_ (aT_ (uniq [] p)) k;have B:=oh_ (uniq [] p);have h_3:=kC_ p [];simp only[yaL_]at h_3;omega
    refine Zz 2 ?_;refine f_ (sH_ p a3 a7 zaa_) rfl g_ zf rfl λ⟨⟨g,pb,kb,ab,ub,ob,ib,rb,sb,fb,lv,hm_1,hl_1⟩,hy⟩=>?_;dsimp only;dsimp only[NewE.own,NewE.ok]at hy ⊢;obtain⟨hym,hyl⟩:=hy;simp only[yaJ_,yar_];refine aW_ hyl (c_ (c_ (c_ (c_ (c_ (c_ (c_ (c_ (c_ (j_ z_)))))))))) λlad lcap hlad hclad hmlad hzlad=>?_;subst hlad;refine x_ zeroValue195 rfl λA=>A_ (Y_ d_ (Y_ d_ (Y_ d_ (Y_ d_ (Y_ d_ (Y_ d_ (Y_ d_ (Y_ d_ (Y_ d_ (Y_ d_ (bc_ aU_))))))))))) (n_ 0 sizeOf195 rfl rfl rfl rfl rfl rfl (Zz 5 ?_))
    refine e_ (ao_ (kx_ rfl rfl) (yae_ (iv_) Y)) rfl (x_ dD_ rfl λF=>n_ 0 ag_ rfl rfl rfl rfl rfl rfl (Zz 4 ?_));refine x_ dS_ rfl λd=>Zz 5 ?_
    refine e_ (aY_ rfl rfl) rfl (Zz 2 ?_);refine n_ 3 eL_ rfl rfl rfl rfl rfl rfl (Zz 3 ?_);refine eO_ (ch_ A (.cells #[zp_ g 0] 195 (0,0))) (bc_ (c_ (c_ d_))) (λ_ C B _=>⟨C,B⟩) ?_;refine eO_ (ch_ F (.cells #[iv_ m] 3 (0,0))) (bc_ (c_ d_)) (λ_ C B _=>⟨C,B⟩) ?_;let Pu:Array Value:=#[.map (some pb),.slice lad (aB_ (uniq [] p)).length lcap,.map (some kb),.func (.func 145) #[] #[zp_ A 0,zp_ F 0,zp_ d 0],.map (some ab),.map (some ub),.map (some ob),.map (some ib),.map (some rb),.map (some sb),.map (some fb)];refine eO_ (ch_ g (.cells Pu 204 (0,0))) (bc_ (c_ d_)) (λ_ C B _=>⟨C,B⟩) ?_;refine os_ ic_ hym (c_ (c_ (c_ (c_ (c_ (c_ (c_ (c_ (c_ B_))))))))) λadr=>?_;refine Zz 2 ?_;refine f_ (atS_c p a3 a7 zaa_) rfl g_ zf rfl λ⟨⟨aad,acap⟩,hac,ham,haz⟩=>?_;dsimp only;refine Zz 7 ?_;let Qu:=(EngB.mk g pb ab ub ob ib rb sb lad lcap (aB_ (uniq [] p)));refine f_ (Ca_ Qu (EA m hm Qu A F d kb fb) [] [] [(d,.cells #[.slice none 0 0] 50 (0,0)),(kb,.map #[] 0),(fb,.map #[] 0)] ⟨.slice none 0 0,#[],0,#[],0,[],[],rfl,at_.nil _ _,SetE.nil,SetE.nil,by simp⟩ (atS p) aad acap (by have:=vO_ p;omega) (by have:=mL_ (uniq [] p);have h_3:=kC_ p [];simp only[yaL_]at h_3;show (aB_ (uniq [] p)).length<=_;omega)) rfl (l_ d_ (l_ d_ (c_ (c_ (c_ (c_ (c_ (c_ d_)))))))) (λv _ h=>by exact⟨h.2.2.1,h.2.2.2.2.2.1,h.1,⟨h.2.2.2.2.1,h.2.2.2.1,h.2.2.1⟩,trivial⟩) rfl λ⟨Hs_1,hS_1⟩=>?_;dsimp only;refine Zz 2 ?_;refine A_ (Y_ (j_ d_) (Y_ (j_ d_) (Y_ (j_ d_) (Y_ (j_ d_) (Y_ (j_ d_) (Y_ (j_ d_) (bc_ aU_))))))) (Zz 3 ?_);refine f_ (AJ_ g) rfl g_ zt rfl λ⟨a6,a4,a5⟩=>?_;dsimp only;refine x_ zeroValue206 rfl λa0=>n_ 0 sizeOf206 rfl rfl rfl rfl rfl rfl (Zz 3 ?_)
    refine lt_ (Zz 8 ?_);let Ru:Nat×Obj:=(a0,.cells #[.slice none 0 0,.slice (some ⟨a6,0,none⟩) 6 6,.slice (some ⟨a4,0,none⟩) 4 4,.slice (some ⟨a5,0,none⟩) 2 2] 206 (0,0));let Su:Nat×Obj:=(b_1,.cells #[.slice none 0 0,.slice none 0 0] 110 (0,0));refine H_ (ι:={y:Nat×List Fc×List Fc×Ix×Hp×Hp×Hp×Hp×Hp×Hp×Hp // LoopA (uniq [] p) (atS p) m y.1 y.2.1 y.2.2.1 y.2.2.2.1/\((EA m hm Qu A F d kb fb)).St y.2.1 y.2.2.1 y.2.2.2.2.2.2.2.2.2.2/\IxO 9 104 Qu y.2.2.2.1 ⟨y.2.2.2.2.1,y.2.2.2.2.2.1,y.2.2.2.2.2.2.1,y.2.2.2.2.2.2.2.1,y.2.2.2.2.2.2.2.2.1,y.2.2.2.2.2.2.2.2.2.1⟩/\um_ y.2.2.2.1 y.1}) (λy=>[(0,.slice a3 p.length a7),(1,iv_ bu),(4,zp_ b_1 0),(7,zp_ A 0),(8,zp_ F 0),(9,zp_ d 0),(10,.slice aad (atS p).length acap),(11,zp_ a0 0),(12,iv_ y.1.1)]) (λy=>(Su::(Ru::(y.1.2.2.2.2.1++(y.1.2.2.2.2.2.1++(y.1.2.2.2.2.2.2.1++(y.1.2.2.2.2.2.2.2.1++(y.1.2.2.2.2.2.2.2.2.1++(y.1.2.2.2.2.2.2.2.2.2.1++y.1.2.2.2.2.2.2.2.2.2.2))))))))) (λy=>[ac_ (some ⟨a6,0,none⟩) (List.flatMap fvC (rlV g 1)),ac_ (some ⟨a4,0,none⟩) (List.flatMap fvC (rlV g 2)),ac_ (some ⟨a5,0,none⟩) (List.flatMap fvC (rlV g 3)),ac_ aad (List.flatMap al_ (atS p)),mlF prog 329 Ky.val Pc.cells pb (aT_ (uniq [] p)) adr,ch_ g (.cells Pu 204 (0,0)),ch_ F (.cells #[iv_ m] 3 (0,0)),ch_ A (.cells #[zp_ g 0] 195 (0,0)),ac_ lad (List.flatMap al_ (aB_ (uniq [] p))),ac_ a3 (p.flatMap Pc.cells),hx_]) (λy=>m+1 - y.1.1) ⟨((0:Nat),(emits (bB_ m) (fp_ (aB_ (uniq [] p)) (atS p)) []),([]:List Fc),Ix.nil,[(ab,.map #[] 0)],[(ub,.map #[] 0)],[(ob,.map #[] 0)],[(ib,.map #[] 0)],[(rb,.map #[] 0)],[(sb,.map #[] 0)],Hs_1),sM_ L rfl,by exact hS_1,⟨cU_.nil _ _,cU_.nil _ _,cU_.nil _ _,cU_.nil _ _,cU_.nil _ _,cU_.nil _ _⟩,yY_⟩ zl (l_ (c_ (c_ (c_ (c_ (c_ (c_ (c_ d_))))))) (l_ d_ (l_ d_ (l_ d_ (l_ d_ (l_ d_ (l_ d_ (l_ d_ T_)))))))) zh ?_;rintro ⟨⟨n,q,fm,x,Ha,Hu,Ho,Hi,Hr,Hm,Hs⟩,hL,hS,hI,hz⟩;dsimp only at hL hS hI hz ⊢;obtain⟨M,K,I,J,N,qf_1,H,hHs_1,O,hEk_1,hEf_1,hqf_1⟩:=hS;subst hHs_1;have hqm:=hL.len;have hnq:=hL.le;obtain⟨hxl,hyl⟩:=sR_ hz zaa_;refine bk_ (A_ (Y_ d_ (Y_ d_ (Y_ (j_ (j_ (j_ (j_ (j_ (j_ d_)))))) (bc_ (j_ (j_ (j_ (j_ (j_ (j_ d_)))))))))) (Zz 4 ?_));refine e_ (cv_ O I_ rfl) rfl ?_;refine Zi 0 (λhr_4=>?_) λhr_4=>?_
    .refine Zz 8 ?_
     refine D_ 0 [0,1,2,3,4,5,6] zk zs (Zz 4 ?_);refine M_ rfl (ao_ (nB_ (E:=(EA m hm Qu A F d kb fb)) (nw:=q) (Hs:=((d,.cells #[M] 50 (0,0))::(kb,.map K I)::([(fb,.map J N)]++H))) ⟨M,K,I,J,N,qf_1,H,rfl,O,hEk_1,hEf_1,hqf_1⟩ bo_ rfl zp) (show _=iv_ (List.length q:Int) from rfl)) rfl (Zi 1 (λhr_5=>?_) λhr_5=>?_)
     .refine Zz 9 ?_
      refine f_ (AG_ O zaa_) rfl zp zt rfl λ⟨Hq_2,hq_1⟩=>?_;dsimp only;refine Zz 2 ?_;refine A_ (Y_ (j_ d_) (Y_ (j_ d_) (Y_ (j_ d_) (bc_ (j_ d_))))) (bk_ (aW_ hq_1 (c_ (c_ (c_ (c_ z_)))) λfad fcap hfad hcfad hmfad hzfad=>?_));subst hfad;refine Zz 3 ?_;refine e_ (C_ hz_ rfl rfl) rfl (n_ 0 bn_ rfl rfl rfl rfl rfl rfl (Zz 4 ?_));exact de_ ⟨((Cl.mk (atS p) aad acap (eU_ q) fad fcap),0),Cg_ X Z a1 Y ⟨hac,ham,haz,hcfad,hmfad,hzfad⟩ rfl hL zaa_ zaa_ rfl⟩ (λaa v C B=>bI_ (us:=Cl.cells (Cl.mk (atS p) aad acap (eU_ q) fad fcap)) 0 iI_ fD_ bn_ rfl rfl rfl rfl aa v C B) g_ zf
     refine Zi 8 (λhr_6=>?_) λhr_6=>?_
     .refine Zz 7 ?_
      refine e_ (C_ hz_ rfl rfl) rfl (n_ 0 bn_ rfl rfl rfl rfl rfl rfl (Zz 4 ?_));exact de_ ⟨((Cl.mk [] none 0 [] none 0),2),jH_ X Z a1 Y (by rw[yag_ zal_]) hL.nd hL.der zaa_⟩ (λaa v C B=>bI_ (us:=Cl.cells (Cl.mk [] none 0 [] none 0)) 0 iI_ fD_ bn_ rfl rfl rfl rfl aa v C B) g_ (λv _ h=>by exact⟨.inl rfl,.inl rfl,trivial⟩)
     refine Zz 5 ?_;refine e_ (C_ hz_ rfl rfl) rfl (n_ 0 bn_ rfl rfl rfl rfl rfl rfl (Zz 4 ?_));exact de_ ⟨((Cl.mk [] none 0 [] none 0),3),jH_ X Z a1 Y (by rw[yao_ zal_]) hL.nd hL.der zaa_⟩ (λaa v C B=>bI_ (us:=Cl.cells (Cl.mk [] none 0 [] none 0)) 0 iI_ fD_ bn_ rfl rfl rfl rfl aa v C B) g_ (λv _ h=>by exact⟨.inl rfl,.inl rfl,trivial⟩)
    have hlf:n<q.length:=by omega
    obtain⟨f,hf⟩:∃ e_1,q[n]? = some e_1:=⟨_,yaa_ hlf⟩;have hmf:f∈q:=yad_ hf;have hfd:=hL.der f hmf;have hform:=hfd.form L;obtain⟨hxl_1,hyl_1⟩:=sR_ (kV_ hz (decide (f∈fm)) f) zaa_;refine Zz 11 ?_;refine e_ (be_ O I_ y_ rfl rfl zaa_ zaa_) rfl (e_ (cS_ O zp bv_ y_ rfl (Fc.cells_len _) zae_ (w_ Fc.cells_len hf)) rfl (x_ R_ rfl λb_6=>n_ 0 y_ rfl rfl rfl rfl rfl rfl (Zz 6 ?_)));refine f_ (Bq_ Qu (EA m hm Qu A F d kb fb) x f q fm ((d,.cells #[M] 50 (0,0))::(kb,.map K I)::([(fb,.map J N)]++H)) ⟨M,K,I,J,N,qf_1,H,rfl,O,hEk_1,hEf_1,hqf_1⟩ Ha Hu Ho Hi Hr Hm hI hxl hyl) rfl (F_ (c_ (c_ (c_ (c_ (c_ z_))))) (F_ (c_ (c_ (c_ (c_ (c_ z_))))) (F_ (c_ (c_ (c_ (c_ (c_ z_))))) (F_ (c_ (c_ (c_ (c_ (c_ z_))))) (F_ (c_ (c_ (c_ (c_ (c_ z_))))) (F_ (c_ (c_ (c_ (c_ (c_ z_))))) (l_ (c_ (c_ (c_ d_))) (l_ (c_ (c_ (c_ d_))) (F_ (c_ (c_ (c_ z_))) (c_ (c_ B_))))))))))) zf rfl λ⟨⟨T,R,P,Q,U,S⟩,hI_1⟩=>?_;dsimp only;refine A_ AX_ (Zz 2 ?_);refine A_ (Y_ (j_ (j_ (j_ (j_ (j_ (j_ d_)))))) (Y_ (j_ (j_ (j_ (j_ (j_ (j_ d_)))))) (Y_ (j_ (j_ (j_ (j_ (j_ (j_ (j_ (j_ d_)))))))) (Y_ (j_ (j_ (j_ (j_ (j_ (j_ (j_ (j_ d_)))))))) (bc_ (j_ (j_ (j_ (j_ (j_ (j_ (j_ aU_)))))))))))) (Zz 4 ?_);rcases ju_ hform with hk|hk|hk
    .refine e_ (ao_ (dE_ wg_ sizeOf205 rfl rfl zaa_ zaa_) (show _=zp_ a0 1 from by rw[hk];rfl)) rfl ?_
     refine Zz 6 ?_;let Tu:Nat×Obj:=(b_6,.cells #[iv_ f.kind,str f.a,str f.b,str f.r,iv_ f.lo,iv_ f.hi] 104 (0,0));refine du_ (H':=(Su::(Ru::(Tu::(T++(R++(P++(Q++(U++(S++((d,.cells #[M] 50 (0,0))::(kb,.map K I)::([(fb,.map J N)]++H)))))))))))) (l_ (c_ (c_ (c_ d_))) (l_ (c_ (c_ (c_ d_))) (l_ (c_ (c_ d_)) (F_ (c_ (c_ z_)) (F_ (c_ (c_ z_)) (F_ (c_ (c_ z_)) (F_ (c_ (c_ z_)) (F_ (c_ (c_ z_)) (F_ (c_ (c_ z_)) (l_ d_ (l_ d_ (F_ z_ T_)))))))))))) (λv _ h=>h) ?_;refine H_ (ι:={y:Nat×Hp // y.1<=6/\((EA m hm Qu A F d kb fb)).St (rls (bB_ m) idk (aT_ (uniq [] p)) (Ix.add x (decide (f∈fm)) f) f y.1 (q,fm)).1 (rls (bB_ m) idk (aT_ (uniq [] p)) (Ix.add x (decide (f∈fm)) f) f y.1 (q,fm)).2 y.2/\(y.1=0\/((rls (bB_ m) idk (aT_ (uniq [] p)) (Ix.add x (decide (f∈fm)) f) f y.1 (q,fm)).1).length<=m)}) (λy=>[(0,.slice a3 p.length a7),(1,iv_ bu),(4,zp_ b_1 0),(7,zp_ A 0),(8,zp_ F 0),(9,zp_ d 0),(10,.slice aad (atS p).length acap),(11,zp_ a0 0),(12,iv_ n),(13,zp_ b_6 0),(60,.slice (some ⟨a6,0,none⟩) 6 6),(61,iv_ 6),(62,iv_ y.1.1)]) (λy=>(Su::(Ru::(Tu::(T++(R++(P++(Q++(U++(S++y.1.2)))))))))) (λy=>[ac_ (some ⟨a6,0,none⟩) (List.flatMap fvC (rlV g 1)),ac_ (some ⟨a4,0,none⟩) (List.flatMap fvC (rlV g 2)),ac_ (some ⟨a5,0,none⟩) (List.flatMap fvC (rlV g 3)),ac_ aad (List.flatMap al_ (atS p)),mlF prog 329 Ky.val Pc.cells pb (aT_ (uniq [] p)) adr,ch_ g (.cells Pu 204 (0,0)),ch_ F (.cells #[iv_ m] 3 (0,0)),ch_ A (.cells #[zp_ g 0] 195 (0,0)),ac_ lad (List.flatMap al_ (aB_ (uniq [] p))),ac_ a3 (p.flatMap Pc.cells),hx_]) (λy=>6 - y.1.1) ⟨((0:Nat),((d,.cells #[M] 50 (0,0))::(kb,.map K I)::([(fb,.map J N)]++H))),by omega,by exact⟨M,K,I,J,N,qf_1,H,rfl,O,hEk_1,hEf_1,hqf_1⟩,.inl rfl⟩ zl zp zh ?_;rintro ⟨⟨j,Hs⟩,hj,G,hjm⟩;dsimp only at hj G hjm ⊢;refine Zi 2 (λhr_5=>?_) λhr_5=>?_
     .have ej:j=6:=by omega
      have hjl:((rls (bB_ m) idk (aT_ (uniq [] p)) (Ix.add x (decide (f∈fm)) f) f j (q,fm)).1).length<=m:=hjm.resolve_left zaa_;rw[ej]at hjl G;refine Zz 12 ?_;exact u_ ⟨(n+1,(rls (bB_ m) idk (aT_ (uniq [] p)) (Ix.add x (decide (f∈fm)) f) f 6 (q,fm)).1,(rls (bB_ m) idk (aT_ (uniq [] p)) (Ix.add x (decide (f∈fm)) f) f 6 (q,fm)).2,(Ix.add x (decide (f∈fm)) f),T,R,P,Q,U,S,Hs),(km_ L hL hf (by have e:nrl f=6:=(by unfold nrl;simp[hk]);rw[e]) zaa_),(by exact G),hI_1,(kV_ hz _ f)⟩ zab_ zl (l_ d_ (l_ d_ (F_ (c_ z_) (F_ (c_ z_) (F_ (c_ z_) (F_ (c_ z_) (F_ (c_ z_) (F_ (c_ z_) B_)))))))) zh
     have a8:j<List.length (rlV g 1):=by show j<6;omega
     obtain⟨fv,a2⟩:∃ e_1,(rlV g 1)[j]? = some e_1:=⟨_,yaa_ a8⟩;have hmfv:fv∈(rlV g 1):=yad_ a2;refine Zz 10 ?_;refine e_ (Z_ ee_ eL_ rfl rfl (λv _ h=>aA_ (n:=1) jt_ zae_ (by exact h.1) a2) zaa_ zaa_) rfl (e_ (bA_ (ad:=(some ⟨a6,0,none⟩)) isAgg199 rfl zf (w_ jt_ a2 0 _ rfl)) rfl (Zz 7 ?_));obtain⟨nr,rfl,hT⟩:=AM_ Qu (EA m hm Qu A F d kb fb) (EngA.mk adr (λ_=>(none,0)) (λ_=>(none,0)) (λ_=>(none,0)) (λ_=>(none,0)) (λ_=>(none,0)) (λ_=>(none,0))) (aT_ (uniq [] p)) (Ix.add x (decide (f∈fm)) f) f (rls (bB_ m) idk (aT_ (uniq [] p)) (Ix.add x (decide (f∈fm)) f) f j (q,fm)).1 (rls (bB_ m) idk (aT_ (uniq [] p)) (Ix.add x (decide (f∈fm)) f) f j (q,fm)).2 Hs G T R P Q U S hI_1 hpl hxl_1 hyl_1 (λhk=>(ie_ hform hk).2.2) (λ_ y hy=>(L y (pm9.1 hy).1).num (.inr (pm9.1 hy).2.1)) hk j a2;exact ht_
    .refine e_ (ao_ (dE_ wg_ sizeOf205 rfl rfl zaa_ zaa_) (show _=zp_ a0 2 from by rw[hk];rfl)) rfl ?_
     refine Zz 6 ?_;refine du_ (H':=(Su::(Ru::((b_6,.cells #[iv_ f.kind,str f.a,str f.b,str f.r,iv_ f.lo,iv_ f.hi] 104 (0,0))::(T++(R++(P++(Q++(U++(S++((d,.cells #[M] 50 (0,0))::(kb,.map K I)::([(fb,.map J N)]++H)))))))))))) (l_ (c_ (c_ (c_ d_))) (l_ (c_ (c_ (c_ d_))) (l_ (c_ (c_ d_)) (F_ (c_ (c_ z_)) (F_ (c_ (c_ z_)) (F_ (c_ (c_ z_)) (F_ (c_ (c_ z_)) (F_ (c_ (c_ z_)) (F_ (c_ (c_ z_)) (l_ d_ (l_ d_ (F_ z_ T_)))))))))))) (λv _ h=>h) ?_;refine H_ (ι:={y:Nat×Hp // y.1<=4/\((EA m hm Qu A F d kb fb)).St (rls (bB_ m) idk (aT_ (uniq [] p)) (Ix.add x (decide (f∈fm)) f) f y.1 (q,fm)).1 (rls (bB_ m) idk (aT_ (uniq [] p)) (Ix.add x (decide (f∈fm)) f) f y.1 (q,fm)).2 y.2/\(y.1=0\/((rls (bB_ m) idk (aT_ (uniq [] p)) (Ix.add x (decide (f∈fm)) f) f y.1 (q,fm)).1).length<=m)}) (λy=>[(0,.slice a3 p.length a7),(1,iv_ bu),(4,zp_ b_1 0),(7,zp_ A 0),(8,zp_ F 0),(9,zp_ d 0),(10,.slice aad (atS p).length acap),(11,zp_ a0 0),(12,iv_ n),(13,zp_ b_6 0),(60,.slice (some ⟨a4,0,none⟩) 4 4),(61,iv_ 4),(62,iv_ y.1.1)]) (λy=>(Su::(Ru::((b_6,.cells #[iv_ f.kind,str f.a,str f.b,str f.r,iv_ f.lo,iv_ f.hi] 104 (0,0))::(T++(R++(P++(Q++(U++(S++y.1.2)))))))))) (λy=>[ac_ (some ⟨a6,0,none⟩) (List.flatMap fvC (rlV g 1)),ac_ (some ⟨a4,0,none⟩) (List.flatMap fvC (rlV g 2)),ac_ (some ⟨a5,0,none⟩) (List.flatMap fvC (rlV g 3)),ac_ aad (List.flatMap al_ (atS p)),mlF prog 329 Ky.val Pc.cells pb (aT_ (uniq [] p)) adr,ch_ g (.cells Pu 204 (0,0)),ch_ F (.cells #[iv_ m] 3 (0,0)),ch_ A (.cells #[zp_ g 0] 195 (0,0)),ac_ lad (List.flatMap al_ (aB_ (uniq [] p))),ac_ a3 (p.flatMap Pc.cells),hx_]) (λy=>4 - y.1.1) ⟨((0:Nat),((d,.cells #[M] 50 (0,0))::(kb,.map K I)::([(fb,.map J N)]++H))),by omega,by exact⟨M,K,I,J,N,qf_1,H,rfl,O,hEk_1,hEf_1,hqf_1⟩,.inl rfl⟩ zl zp zh ?_;rintro ⟨⟨j,Hs⟩,hj,G,hjm⟩;dsimp only at hj G hjm ⊢;refine Zi 2 (λhr_5=>?_) λhr_5=>?_
     .have ej:j=4:=by omega
      have hjl:((rls (bB_ m) idk (aT_ (uniq [] p)) (Ix.add x (decide (f∈fm)) f) f j (q,fm)).1).length<=m:=hjm.resolve_left zaa_;rw[ej]at hjl G;refine Zz 12 ?_;exact u_ ⟨(n+1,(rls (bB_ m) idk (aT_ (uniq [] p)) (Ix.add x (decide (f∈fm)) f) f 4 (q,fm)).1,(rls (bB_ m) idk (aT_ (uniq [] p)) (Ix.add x (decide (f∈fm)) f) f 4 (q,fm)).2,(Ix.add x (decide (f∈fm)) f),T,R,P,Q,U,S,Hs),(km_ L hL hf (by have e:nrl f=4:=(by unfold nrl;simp[hk]);rw[e]) zaa_),(by exact G),hI_1,(kV_ hz _ f)⟩ zab_ zl (l_ d_ (l_ d_ (F_ (c_ z_) (F_ (c_ z_) (F_ (c_ z_) (F_ (c_ z_) (F_ (c_ z_) (F_ (c_ z_) B_)))))))) zh
     have a8:j<List.length (rlV g 2):=by show j<4;omega
     obtain⟨fv,a2⟩:∃ e_1,(rlV g 2)[j]? = some e_1:=⟨_,yaa_ a8⟩;have hmfv:fv∈(rlV g 2):=yad_ a2;refine Zz 10 ?_;refine e_ (Z_ ee_ eL_ rfl rfl (λv _ h=>aA_ (n:=1) jt_ zae_ (by exact h.2.1) a2) zaa_ zaa_) rfl (e_ (bA_ (ad:=(some ⟨a4,0,none⟩)) isAgg199 rfl zf (w_ jt_ a2 0 _ rfl)) rfl (Zz 7 ?_));obtain⟨nr,rfl,hT⟩:=AL_ Qu (EA m hm Qu A F d kb fb) (EngA.mk adr (λ_=>(none,0)) (λ_=>(none,0)) (λ_=>(none,0)) (λ_=>(none,0)) (λ_=>(none,0)) (λ_=>(none,0))) (aT_ (uniq [] p)) (Ix.add x (decide (f∈fm)) f) f (rls (bB_ m) idk (aT_ (uniq [] p)) (Ix.add x (decide (f∈fm)) f) f j (q,fm)).1 (rls (bB_ m) idk (aT_ (uniq [] p)) (Ix.add x (decide (f∈fm)) f) f j (q,fm)).2 Hs G T R P Q U S hI_1 hpl hxl_1 hyl_1 (λhk=>(ie_ hform hk).2.2) (λ_ y hy=>(L y (pm9.1 hy).1).num (.inr (pm9.1 hy).2.1)) hk j a2;exact ht_
    refine e_ (ao_ (dE_ wg_ sizeOf205 rfl rfl zaa_ zaa_) (show _=zp_ a0 3 from by rw[hk];rfl)) rfl ?_;refine Zz 6 ?_;refine du_ (H':=(Su::(Ru::((b_6,.cells #[iv_ f.kind,str f.a,str f.b,str f.r,iv_ f.lo,iv_ f.hi] 104 (0,0))::(T++(R++(P++(Q++(U++(S++((d,.cells #[M] 50 (0,0))::(kb,.map K I)::([(fb,.map J N)]++H)))))))))))) (l_ (c_ (c_ (c_ d_))) (l_ (c_ (c_ (c_ d_))) (l_ (c_ (c_ d_)) (F_ (c_ (c_ z_)) (F_ (c_ (c_ z_)) (F_ (c_ (c_ z_)) (F_ (c_ (c_ z_)) (F_ (c_ (c_ z_)) (F_ (c_ (c_ z_)) (l_ d_ (l_ d_ (F_ z_ T_)))))))))))) (λv _ h=>h) ?_;refine H_ (ι:={y:Nat×Hp // y.1<=2/\((EA m hm Qu A F d kb fb)).St (rls (bB_ m) idk (aT_ (uniq [] p)) (Ix.add x (decide (f∈fm)) f) f y.1 (q,fm)).1 (rls (bB_ m) idk (aT_ (uniq [] p)) (Ix.add x (decide (f∈fm)) f) f y.1 (q,fm)).2 y.2/\(y.1=0\/((rls (bB_ m) idk (aT_ (uniq [] p)) (Ix.add x (decide (f∈fm)) f) f y.1 (q,fm)).1).length<=m)}) (λy=>[(0,.slice a3 p.length a7),(1,iv_ bu),(4,zp_ b_1 0),(7,zp_ A 0),(8,zp_ F 0),(9,zp_ d 0),(10,.slice aad (atS p).length acap),(11,zp_ a0 0),(12,iv_ n),(13,zp_ b_6 0),(60,.slice (some ⟨a5,0,none⟩) 2 2),(61,iv_ 2),(62,iv_ y.1.1)]) (λy=>(Su::(Ru::((b_6,.cells #[iv_ f.kind,str f.a,str f.b,str f.r,iv_ f.lo,iv_ f.hi] 104 (0,0))::(T++(R++(P++(Q++(U++(S++y.1.2)))))))))) (λy=>[ac_ (some ⟨a6,0,none⟩) (List.flatMap fvC (rlV g 1)),ac_ (some ⟨a4,0,none⟩) (List.flatMap fvC (rlV g 2)),ac_ (some ⟨a5,0,none⟩) (List.flatMap fvC (rlV g 3)),ac_ aad (List.flatMap al_ (atS p)),mlF prog 329 Ky.val Pc.cells pb (aT_ (uniq [] p)) adr,ch_ g (.cells Pu 204 (0,0)),ch_ F (.cells #[iv_ m] 3 (0,0)),ch_ A (.cells #[zp_ g 0] 195 (0,0)),ac_ lad (List.flatMap al_ (aB_ (uniq [] p))),ac_ a3 (p.flatMap Pc.cells),hx_]) (λy=>2 - y.1.1) ⟨((0:Nat),((d,.cells #[M] 50 (0,0))::(kb,.map K I)::([(fb,.map J N)]++H))),by omega,by exact⟨M,K,I,J,N,qf_1,H,rfl,O,hEk_1,hEf_1,hqf_1⟩,.inl rfl⟩ zl zp zh ?_;rintro ⟨⟨j,Hs⟩,hj,G,hjm⟩;dsimp only at hj G hjm ⊢;refine Zi 2 (λhr_5=>?_) λhr_5=>?_
    .have ej:j=2:=by omega
     have hjl:((rls (bB_ m) idk (aT_ (uniq [] p)) (Ix.add x (decide (f∈fm)) f) f j (q,fm)).1).length<=m:=hjm.resolve_left zaa_;rw[ej]at hjl G;refine Zz 12 ?_;exact u_ ⟨(n+1,(rls (bB_ m) idk (aT_ (uniq [] p)) (Ix.add x (decide (f∈fm)) f) f 2 (q,fm)).1,(rls (bB_ m) idk (aT_ (uniq [] p)) (Ix.add x (decide (f∈fm)) f) f 2 (q,fm)).2,(Ix.add x (decide (f∈fm)) f),T,R,P,Q,U,S,Hs),(km_ L hL hf (by have e:nrl f=2:=(by unfold nrl;simp[hk]);rw[e]) zaa_),(by exact G),hI_1,(kV_ hz _ f)⟩ zab_ zl (l_ d_ (l_ d_ (F_ (c_ z_) (F_ (c_ z_) (F_ (c_ z_) (F_ (c_ z_) (F_ (c_ z_) (F_ (c_ z_) B_)))))))) zh
    have a8:j<List.length (rlV g 3):=by show j<2;omega
    obtain⟨fv,a2⟩:∃ e_1,(rlV g 3)[j]? = some e_1:=⟨_,yaa_ a8⟩;have hmfv:fv∈(rlV g 3):=yad_ a2;refine Zz 10 ?_;refine e_ (Z_ ee_ eL_ rfl rfl (λv _ h=>aA_ (n:=1) jt_ zae_ (by exact h.2.2.1) a2) zaa_ zaa_) rfl (e_ (bA_ (ad:=(some ⟨a5,0,none⟩)) isAgg199 rfl zf (w_ jt_ a2 0 _ rfl)) rfl (Zz 7 ?_));obtain⟨nr,rfl,hT⟩:=AK_ Qu (EA m hm Qu A F d kb fb) (EngA.mk adr (λ_=>(none,0)) (λ_=>(none,0)) (λ_=>(none,0)) (λ_=>(none,0)) (λ_=>(none,0)) (λ_=>(none,0))) (aT_ (uniq [] p)) (Ix.add x (decide (f∈fm)) f) f (rls (bB_ m) idk (aT_ (uniq [] p)) (Ix.add x (decide (f∈fm)) f) f j (q,fm)).1 (rls (bB_ m) idk (aT_ (uniq [] p)) (Ix.add x (decide (f∈fm)) f) f j (q,fm)).2 Hs G T R P Q U S hI_1 hpl hxl_1 hyl_1 (λhk=>(ie_ hform hk).2.2) (λ_ y hy=>(L y (pm9.1 hy).1).num (.inr (pm9.1 hy).2.1)) hk j a2;exact ht_
   refine Zz 6 ?_;exact kv_
  refine Zz 9 ?_;exact kv_
 refine Zz 5 ?_;refine e_ (C_ hz_ rfl rfl) rfl (Zz 1 ?_);refine n_ 0 bn_ rfl rfl rfl rfl rfl rfl (Zz 4 ?_);exact de_ ⟨((Cl.mk [] none 0 [] none 0),(cs_ p)),zY_ zal_⟩ (λaa v C B=>bI_ (us:=Cl.cells (Cl.mk [] none 0 [] none 0)) 0 iI_ fD_ bn_ rfl rfl rfl rfl aa v C B) g_ (λv _ h=>by exact⟨.inl rfl,.inl rfl,trivial⟩)
def lE_ (f:Fc):Bool:=decide (f=X_ f.a f.b)
def hR_ (A:List Str) (f:Fc):Bool :=
  decide (f.a∈A)&&(if f.kind=1 then decide (f.b∈A)&&lE_ f
    else if f.kind=2 then decide (f.b∈A)&&(decide (f.r≠[])&&decide (f=ae_ f.a f.r f.b))
    else if f.kind=3 then decide (f.r≠[])&&(decide (f=an_ f.a f.r f.lo f.hi)&&(decide (-1099511627776<=f.lo)&&(decide (f.lo<=f.hi)&&decide (f.hi<=1099511627776))))
    else false)
theorem AS_ {α:Type} {lt:α->α->Prop} (v:∀ {x y z},lt x y->lt y z->lt x z) {l:List α} {k:Nat} {a b:α} (h:(l.take (k+1)).Pairwise lt) (q:l[k]? = some a) (A:l[k+1]? = some b) (e:lt a b):(l.take (k+2)).Pairwise lt:=by
 rw[yaz_,A,ybd_,ycN_];refine⟨h,by simp,λx d y m=>?_⟩;rw[yai_]at m;subst m;rw[yaz_,q,ybd_]at h d;rcases yah_.1 d with d|d
 .exact v ((ycN_.1 h).2.2 x d a zaj_) e
 rw[yai_]at d;subst d;exact e
theorem pw_not {α:Type} {lt:α->α->Prop} {l:List α} {k:Nat} {a b:α} (e:l[k]? = some a) (y:l[k+1]? = some b) (d:¬ lt a b):¬ l.Pairwise lt:=λh=>by
  obtain⟨v,m⟩:=yac_.1 e;obtain⟨x,q⟩:=yac_.1 y;have:=yaP_.1 h k (k+1) v x zaa_;rw[m,q]at this;exact d this
theorem pw_one {α:Type} {lt:α->α->Prop} (l:List α):(l.take 1).Pairwise lt:=by
  cases l<;>simp
theorem vK_ {x y:Fc}:0<=hU_ x y↔¬ x.lt y:=by rw[<-tn_];omega
theorem BS_ {x y:Fc} (h:¬ 0<=hU_ x y):x.lt y:=Decidable.byContradiction λq=>h (vK_.2 q)
theorem Bp_ (f:Fc):Fn0 prog 158 #[Fc.val f] (.bool (lE_ f)):=by
  refine i_ func158 rfl rfl ntmps158 rfl λe=>?_;refine Zz 2 ?_;refine P_ rfl rfl λh=>Zz 5 ?_
  refine D_ 3 [0,1,2,3,4] zk zs (Zz 6 ?_);refine p_ 5 rfl zk (f_ (fM_ f.a f.b) rfl g_ zt rfl λ_=>Zz 3 ?_);refine D_ 0 [6,7] zk zs (es_ rfl (cx_ (p:=f) (q:=(X_ f.a f.b)) rfl rfl) rfl λm d=>Zz 5 ?_);exact ab_ results158 () (s_ rfl (by unfold lE_;exact d.symm)) g_ zt
def pq_ (fs:List Fc) (f:Fc):Bool:=fs.any λx=>(decide (x=f)||decide (x=X_ f.a [33]))||((decide (f=an_ f.a f.r f.lo f.hi)&&decide (x=an_ f.a f.r x.lo x.hi))&&(decide (f.lo<=x.lo)&&decide (x.hi<=f.hi)))
def oS_ (f x:Fc):Bool:=(decide (x=f)||decide (x=X_ f.a [33]))||((decide (f=an_ f.a f.r f.lo f.hi)&&decide (x=an_ f.a f.r x.lo x.hi))&&(decide (f.lo<=x.lo)&&decide (x.hi<=f.hi)))
theorem any_no {α:Type} {p:α->Bool} {l:List α} {j:Nat} {x:α} (h:∀ y∈l.take j,p y=false) (m:l[j]? = some x) (e:p x=false):∀ y∈l.take (j+1),p y=false:=λy d=>by
 rw[yaz_,m]at d;simp only[ybd_,yah_,yai_]at d;rcases d with d|rfl
 .exact h y d
 exact e
theorem vQ_ {α:Type} {p:α->Bool} {l:List α} {j:Nat} (h:∀ y∈l.take j,p y=false) (d:l.length<=j):false=l.any p:=by
  rw[yab_ d]at h
  symm;rw[ycL_];exact λy e=>by simp[h y e]
theorem ja_ {α:Type} {p:α->Bool} {l:List α} {x:α} (e:x∈l) (d:p x=true):true=l.any p:=(ybT_.2 ⟨x,e,d⟩).symm
theorem der_c (c:Cl) (f:Fc) (Y:c.facts.length<=1000000000000):Tri prog 203 #[Cl.val c,Fc.val f] [] [ac_ c.fad (c.facts.flatMap Fc.cells)] (λ_:Unit=>.bool (pq_ c.facts f)) (λ_=>[]) (λ_=>[]):=by
 refine i_ func203 rfl rfl ntmps203 rfl λX=>?_;refine Zz 2 ?_;refine P_ rfl rfl λO=>P_ rfl rfl λN=>Zz 7 ?_
 refine f_ (fM_ f.a [33]) rfl g_ zt rfl λ_=>x_ R_ rfl λP=>n_ 0 y_ rfl rfl rfl rfl rfl rfl (Zz 4 ?_)
 refine D_ 3 [0,1,2,3,4,5,6,7,8] zk zs (Zz 10 ?_);refine p_ 9 rfl zk (f_ (nU_ f.a f.r f.lo f.hi) rfl g_ zt rfl λ_=>Zz 3 ?_);refine D_ 0 [10,11] zk zs (es_ rfl (cx_ (p:=f) (q:=(an_ f.a f.r f.lo f.hi)) rfl rfl) rfl λU h=>Zz 14 ?_);cases U
 .replace h:=zdf h
  refine H_ (ι:={y:Nat // y<=List.length c.facts/\∀ z∈List.take y c.facts,oS_ f z=false}) (λy=>[(2,zp_ O 0),(3,zp_ N 0),(5,zp_ P 0),(6,.bool false),(24,.slice c.fad c.facts.length c.fcap),(25,iv_ (List.length c.facts:Int)),(26,iv_ y.1)]) (λy=>((P,.cells #[iv_ (Fc.kind (X_ f.a [33])),str (Fc.a (X_ f.a [33])),str (Fc.b (X_ f.a [33])),str (Fc.r (X_ f.a [33])),iv_ (Fc.lo (X_ f.a [33])),iv_ (Fc.hi (X_ f.a [33]))] 104 (0,0))::((N,.cells #[iv_ f.kind,str f.a,str f.b,str f.r,iv_ f.lo,iv_ f.hi] 104 (0,0))::((O,.cells #[.slice c.aad c.atoms.length c.acap,.slice c.fad c.facts.length c.fcap] 110 (0,0))::[])))) (λy=>[ac_ c.fad (c.facts.flatMap Fc.cells)]) (λy=>c.facts.length - y.1) ⟨(0:Nat),by simp,by simp⟩ zl zp zh ?_;rintro ⟨j,W,B⟩;dsimp only at W B ⊢;refine Zi 2 (λm=>?_) λm=>?_
  .refine Zz 12 ?_
   exact ab_ hq_ () (s_ rfl (vQ_ B zaa_)) g_ zt
  obtain⟨G,H,I,E⟩:=zge (show j<c.facts.length by omega);refine Zz 12 ?_;refine x_ R_ rfl λT=>n_ 0 y_ rfl rfl rfl rfl rfl rfl (Zz 7 ?_)
  refine E_ (cx_ (p:=H) (q:=f) rfl rfl) rfl λR d=>Zz 1 ?_
  cases R
  .replace d:=zdf d
   refine Zz 5 ?_;refine E_ (cx_ (p:=H) (q:=(X_ f.a [33])) rfl rfl) rfl λS e=>Zz 3 ?_
   cases S
   .replace e:=zdf e
    refine Zz 5 ?_;refine D_ 0 [0,1,2,3,4,5,6,7,8,9,10,11,12,13,14,15,16,17,18,19,20,21,22,23,24,25,26,27] zk zs (Zz 39 ?_);exact u_ ⟨j+1,G,any_no B I (by have x:=ycy_ h;have A:=ycs_ m;have v:=ycy_ d;have C:=ycy_ e;simp[oS_,x,A,v,C])⟩ zab_ zl (l_ (c_ d_) (l_ (c_ d_) (c_ d_))) zh
   replace e:=zdt e;refine Zz 7 ?_;exact ab_ hq_ () (s_ rfl (ja_ E (by have x:=ycy_ h;have A:=ycs_ m;have v:=ycy_ d;have C:=ycs_ e;simp[oS_,x,A,v,C]))) g_ zt
  replace d:=zdt d;refine Zz 13 ?_;exact ab_ hq_ () (s_ rfl (ja_ E (by have x:=ycy_ h;have A:=ycs_ m;have v:=ycs_ d;simp[oS_,x,A,v]))) g_ zt
 replace h:=zdt h;refine H_ (ι:={y:Nat // y<=List.length c.facts/\∀ z∈List.take y c.facts,oS_ f z=false}) (λy=>[(2,zp_ O 0),(3,zp_ N 0),(5,zp_ P 0),(6,.bool true),(24,.slice c.fad c.facts.length c.fcap),(25,iv_ (List.length c.facts:Int)),(26,iv_ y.1)]) (λy=>((P,.cells #[iv_ (Fc.kind (X_ f.a [33])),str (Fc.a (X_ f.a [33])),str (Fc.b (X_ f.a [33])),str (Fc.r (X_ f.a [33])),iv_ (Fc.lo (X_ f.a [33])),iv_ (Fc.hi (X_ f.a [33]))] 104 (0,0))::((N,.cells #[iv_ f.kind,str f.a,str f.b,str f.r,iv_ f.lo,iv_ f.hi] 104 (0,0))::((O,.cells #[.slice c.aad c.atoms.length c.acap,.slice c.fad c.facts.length c.fcap] 110 (0,0))::[])))) (λy=>[ac_ c.fad (c.facts.flatMap Fc.cells)]) (λy=>c.facts.length - y.1) ⟨(0:Nat),by simp,by simp⟩ zl zp zh ?_;rintro ⟨j,W,B⟩;dsimp only at W B ⊢;refine Zi 2 (λm=>?_) λm=>?_
 .refine Zz 12 ?_
  exact ab_ hq_ () (s_ rfl (vQ_ B zaa_)) g_ zt
 obtain⟨G,H,I,E⟩:=zge (show j<c.facts.length by omega);refine Zz 12 ?_;refine x_ R_ rfl λT=>n_ 0 y_ rfl rfl rfl rfl rfl rfl (Zz 7 ?_)
 refine E_ (cx_ (p:=H) (q:=f) rfl rfl) rfl λR d=>Zz 1 ?_
 cases R
 .replace d:=zdf d
  refine Zz 5 ?_;refine E_ (cx_ (p:=H) (q:=(X_ f.a [33])) rfl rfl) rfl λS e=>Zz 3 ?_
  cases S
  .replace e:=zdf e
   refine Zz 5 ?_;refine D_ 17 [0,1,2,3,4,5,6,7,8,9,10] zk zs (Zz 12 ?_);refine p_ 11 rfl zk (ay_ rfl rfl (f_ (nU_ f.a f.r H.lo H.hi) rfl g_ zt rfl λ_=>Zz 3 ?_));refine D_ 13 [12,13,14] zk zs (dV_ rfl rfl rfl (cx_ (p:=H) (q:=(an_ f.a f.r H.lo H.hi)) rfl rfl) rfl λV F=>Zz 3 ?_);cases V
   .replace F:=zdf F
    refine D_ 0 [15,16,17,18,19,20,21,22,23,24,25,26,27] zk zs (Zz 24 ?_);exact u_ ⟨j+1,G,any_no B I (by have x:=ycs_ h;have A:=ycs_ m;have v:=ycy_ d;have C:=ycy_ e;have J:=ycy_ F;simp[oS_,x,A,v,C,J])⟩ zab_ zl (l_ (c_ d_) (l_ (c_ d_) (c_ d_))) zh
   replace F:=zdt F;refine D_ 6 [15,16,17,18,19,20,21] zk zs (Zi 4 (λK=>?_) λK=>?_)
   .refine Zz 3 ?_
    refine D_ 0 [22,23,24,25,26,27] zk zs (Zz 17 ?_);exact u_ ⟨j+1,G,any_no B I (by have x:=ycs_ h;have A:=ycs_ m;have v:=ycy_ d;have C:=ycy_ e;have J:=ycs_ F;have L:=ycy_ K;simp[oS_,x,A,v,C,J,L])⟩ zab_ zl (l_ (c_ d_) (l_ (c_ d_) (c_ d_))) zh
   refine Zz 3 ?_;refine D_ 0 [22,23,24,25,26,27] zk zs (Zi 4 (λM=>?_) λM=>?_)
   .refine Zz 12 ?_
    exact u_ ⟨j+1,G,any_no B I (by have x:=ycs_ h;have A:=ycs_ m;have v:=ycy_ d;have C:=ycy_ e;have J:=ycs_ F;have L:=ycs_ K;have Q:=ycy_ M;simp[oS_,x,A,v,C,J,L,Q])⟩ zab_ zl (l_ (c_ d_) (l_ (c_ d_) (c_ d_))) zh
   refine Zz 11 ?_;exact ab_ hq_ () (s_ rfl (ja_ E (by have x:=ycs_ h;have A:=ycs_ m;have v:=ycy_ d;have C:=ycy_ e;have J:=ycs_ F;have L:=ycs_ K;have Q:=ycs_ M;simp[oS_,x,A,v,C,J,L,Q]))) g_ zt
  replace e:=zdt e;refine Zz 7 ?_;exact ab_ hq_ () (s_ rfl (ja_ E (by have x:=ycs_ h;have A:=ycs_ m;have v:=ycy_ d;have C:=ycs_ e;simp[oS_,x,A,v,C]))) g_ zt
 replace d:=zdt d;refine Zz 13 ?_;exact ab_ hq_ () (s_ rfl (ja_ E (by have x:=ycs_ h;have A:=ycs_ m;have v:=ycs_ d;simp[oS_,x,A,v]))) g_ zt
theorem xu_ {P:Program} {N:Nf} {fr:Fr} {H:Hp} {Γ:List Fct} {t q ty:TypeId} {x y:Operand} {m n:List UInt8} (A:Fr.ev fr x=some (str m)) (h:Fr.ev fr y=some (str n)):Yld P N fr H Γ (.binOp .geq t x y q) ty (.bool (decide (n<=m))) :=
  λa v d _ _ _ _ _=>by
    have e:decide (n<=m)=!decide (m<n):=by rw[ybx_];simp[ycc_]
    rw[e,<-lg_];simp[execOp,d.ev A,d.ev h,str,eqGuard,binOp,Op.stringOp]
theorem AO_ (a r b:Str):Fn0 prog 61 #[str a,str r,str b] (Fc.val (ae_ a r b)):=by
  refine i_ func61 rfl rfl ntmps61 rfl λq=>?_;refine Zz 2 ?_;refine x_ R_ rfl λm=>Zz 7 ?_
  refine e_ (C_ dt_ rfl rfl) rfl (n_ 0 y_ rfl rfl rfl rfl rfl rfl (Zz 3 ?_));exact de_ () (λh v e d=>dy_ (us:=Fc.cells (ae_ a r b)) 0 results61 bv_ y_ rfl rfl rfl h v e d) g_ zt
theorem dE {p:Prop} {i:Decidable p}:(@decide p i=true)↔p:=⟨λh=>yaZ_ h,λh=>yaC_ h⟩
theorem rH_ (p:List Pc):[42]∈atS p:=(hW_ p _).2 (.inr (.inl rfl))
theorem jF_ (p:List Pc):[33]∈atS p:=(hW_ p _).2 (.inr (.inr rfl))
theorem vN_ {p:List Pc} {x:Pc} (e:x∈p) {s:Str} (d:s=x.a\/s=x.b\/s=x.c) (h:s≠[]):s∈atS p:=by
  refine (hW_ p s).2 (.inl ((fq_ p s).2 ?_));refine yas_.2 ⟨x,e,yaX_.2 ⟨?_,by simpa using h⟩⟩;rcases d with rfl|rfl|rfl<;>simp
theorem rG_ {s:Str} (h:bd_ s=true):s≠[]:=λe=>by subst e;revert h;decide
theorem kL_ {p:Pc} (h:p.valid=true) (hk:p.kind=1\/p.kind=2\/p.kind=3\/p.kind=4\/p.kind=9):p.c≠[]:=by
 unfold Pc.valid at h
 split at h
 .simp at h
 split at h
 .simp at h
 split at h
 .simp at h
 simp only[yaq_]at h;obtain⟨⟨⟨⟨_,v⟩,_⟩,_⟩,_⟩:=h
 have e:∀ {b:Bool},bY_ b p.c bd_=true->b=true->p.c≠[]:=λd m=>by
   subst m;simp[bY_]at d;exact rG_ d
 rcases hk with q|q|q|q|q<;>rw[q]at v<;>exact e v zae_
theorem fo1 {A:List Str} {a b:Str}:hR_ A (X_ a b)=true↔a∈A/\b∈A:=by
  unfold hR_ X_ lE_;dsimp only;rw[yao_ rfl,yaq_,yaq_,dE,dE,dE];simp[X_]
theorem fo2 {A:List Str} {a r b:Str}:hR_ A (ae_ a r b)=true↔a∈A/\b∈A/\r≠[]:=by
  unfold hR_ ae_;dsimp only;rw[yag_ zae_,yao_ rfl,yaq_,yaq_,yaq_,dE,dE,dE,dE];simp[ae_]
theorem fo3 {A:List Str} {a r:Str} {lo hi:Int}:hR_ A (an_ a r lo hi)=true↔a∈A/\r≠[]/\-1099511627776<=lo/\lo<=hi/\hi<=1099511627776:=by
  unfold hR_ an_;dsimp only;rw[yag_ zae_,yag_ zae_,yao_ rfl,yaq_,yaq_,yaq_,yaq_,yaq_,dE,dE,dE,dE,dE,dE];simp[an_]
theorem one_ok {p:List Pc} {S:Fc->Prop} (A:∀ x∈p,x.valid=true) (hS:∀ y,S y->hR_ (atS p) y=true) {y:Fc} (h:hX_ p (atS p) S y):hR_ (atS p) y=true:=by
  have q:∀ {x:Pc},x∈p->(x.kind=1\/x.kind=2\/x.kind=3\/x.kind=4\/x.kind=9)->x.c∈atS p:=λd hk=>vN_ d (.inr (.inr rfl)) (kL_ (A _ d) hk)
  have m:∀ {x:Pc},x∈p->x.vok:=λd=>jf_ (A _ d)
  cases h with
  | r1 h=>exact fo1.2 ⟨h,h⟩
  | r2 h=>exact fo1.2 ⟨h,rH_ p⟩
  | r10 d hk h=>exact fo2.2 ⟨h,h,(m d).rok.1 zaX_⟩
  | r3 d hk h=>exact fo1.2 ⟨(fo1.1 (hS _ h)).1,q d zaX_⟩
  | r4 d hk h h'=>exact fo1.2 ⟨(fo1.1 (hS _ h)).1,q d zaX_⟩
  | r5 d hk h=>exact fo2.2 ⟨(fo1.1 (hS _ h)).1,q d zaX_,(m d).rok.1 zaX_⟩
  | r6 d hk h=>exact fo2.2 ⟨(fo2.1 (hS _ h)).1,(fo2.1 (hS _ h)).2.1,(m d).rok.2.2 hk⟩
  | r7 d hk h h'=>exact fo2.2 ⟨(fo2.1 (hS _ h)).1,(fo2.1 (hS _ h')).2.1,((m d).rok.2.1 hk).2⟩
  | r8 d hk h h'=>exact fo1.2 ⟨(fo2.1 (hS _ h)).1,q d zaX_⟩
  | r9 h h'=>exact fo1.2 ⟨(fo2.1 (hS _ h)).1,jF_ p⟩
  | r11 d hk h=>exact fo3.2 ⟨(fo1.1 (hS _ h)).1,(m d).rok.1 zaX_,(m d).num (.inl hk)⟩
  | r12 h h' hm hl =>
    have e:=fo3.1 (hS _ h);have v:=fo3.1 (hS _ h');exact fo3.2 ⟨e.1,e.2.1,by omega,hl,by omega⟩
  | r13 h h' hm hl=>exact fo1.2 ⟨(fo3.1 (hS _ h)).1,jF_ p⟩
  | r14 d hk h e v=>exact fo1.2 ⟨(fo3.1 (hS _ h)).1,q d zaX_⟩
theorem der_ok {p:List Pc} (d:∀ x∈p,x.valid=true) {y:Fc} (h:Der p (atS p) y):hR_ (atS p) y=true:=h _ λ_ e=>one_ok d (λ_ h=>h) e
theorem eH_ {p:List Pc} (h:cs_ p=0):∀ x∈p,x.valid=true:=λx d=>yaW_.1 (tr_ h).2 x d
theorem dF_.good {p:List Pc} {e:Int} {c:Cl} (h:dF_ p e c 0):cs_ p=0/\0<=e/\e<=1073741824/\c.ok/\c.atoms=atS p/\gM_ p (atS p) (min e 65536).toNat (some c.facts):=by
 unfold dF_ at h
 split at h
 .rename_i d;exact absurd h.2.symm d
 rename_i d
 split at h
 .exact absurd h.2 zae_
 rename_i m
 rcases h with h|h
 .exact⟨by simpa using d,by omega,by omega,h.2⟩
 have:=h.2.1;split at this<;>exact absurd this zae_
theorem dF_.bad {p:List Pc} {d:Int} {c:Cl} {e:Int} (h:dF_ p d c e) (m:e≠0):c=Cl.no:=by
 unfold dF_ at h
 split at h
 .exact h.1
 split at h
 .exact h.1
 rcases h with h|h
 .exact absurd h.1 m
 exact h.1
theorem dF_.ok {p:List Pc} {m:Int} {c:Cl} {e:Int} (h:dF_ p m c e):c.ok:=by
 by_cases d:e=0
 .subst d;exact h.good.2.2.2.1
 rw[h.bad d];exact Cl.no_ok
theorem dF_.len {p:List Pc} {v:Int} {c:Cl} {e:Int} (h:dF_ p v c e):c.atoms.length<=3*p.length+2/\c.facts.length<=65536:=by
 by_cases q:e=0
 .subst q
  obtain⟨_,_,_,_,d,m⟩:=h.good;refine⟨by rw[d];exact vO_ p,?_⟩;have:=m.2.2;omega
 rw[h.bad q];simp[Cl.no]
theorem vR_ {p:List Pc} {v:Int} {c:Cl} {e:Int} {r:Option (List Fc)} (h:dF_ p v c e) (C:cs_ p=0) (E:0<=v) (B:v<=1073741824) (A:gM_ p (atS p) (min v 65536).toNat r):(∀ L,r=some L->e=0/\c.facts=L/\c.atoms=atS p)/\(r=none->c=Cl.no/\e=if v<65536 then 3 else 2):=by
 unfold dF_ at h;rw[yag_ (by simp[C]),yag_ zaa_]at h;rcases h with⟨m,q,d,x⟩|⟨m,q,d⟩
 .have e:=gM_.uniq x A
  subst e;exact⟨λL y=>⟨m,ybl_ y,d⟩,λh=>(by cases h)⟩
 have e:=gM_.uniq d A;subst e;exact⟨λL y=>(by cases y),λ_=>⟨m,q⟩⟩
def Ck_ (p q:List Pc):Prop:=∀ x∈p,∃ y∈q,∃ n,{ y with frm:=n }=x
theorem Ck_.trans {p q r:List Pc} (h:Ck_ p q) (k:Ck_ q r):Ck_ p r:=λx e=>by
  obtain⟨y,d,n,rfl⟩:=h x e;obtain⟨z,v,m,rfl⟩:=k y d;exact⟨z,v,n,rfl⟩
theorem sub_at {p q:List Pc} (h:∀ x∈p,∃ y∈q,∃ n,{ y with frm:=n }=x):∀ s∈atS p,s∈atS q:=λs m=>by
 rw[hW_,fq_]at m ⊢;rcases m with d|d
 .obtain⟨x,B,v⟩:=yas_.1 d
  obtain⟨y,A,n,e⟩:=h x B;subst e;exact .inl (yas_.2 ⟨y,A,v⟩)
 exact .inr d
theorem wG_ {s:Str} (h:bd_ s=true):Pc.valid ⟨1,s,[],[42],[],[],[],0,0,-1⟩=true:=by
  have z:bd_ [42]=true:=by decide
  simp[Pc.valid,nus,gm_,bY_,h,z]
theorem pf_as3 {H A B C G:Hp} {b:Nat×Obj} (h:H.Perm ((b::(A++(B++C)))++G)):H.Perm ((b::A)++B++(C++G)):=by simpa [yar_] using h
def nF_ (S:List Str):Bool:=decide (S.length<=16384)&&S.all bd_
end Go.Proofs.YtbffkokbdeppaaaGreatDoor
namespace Go.Vs
open Go Go.Sx Go.Proofs.YtbffkokbdeppaaaGreatDoor
theorem nj_:∀ {l m:List Str},SrS l->SrS m->(∀ x,x∈l↔x∈m)->l=m
 | [],[],_,_,_=>rfl
 | [],y::m,_,_,h=>absurd ((h y).2 yav_) zaj_
 | x::l,[],_,_,h=>absurd ((h x).1 yav_) zaj_
 | x::l,y::m,h1,h2,h=>by
   unfold SrS at h1 h2;rw[ybj_]at h1 h2
   have e:x=y:=by
     rcases yan_.1 ((h x).1 yav_) with e|e
     . exact e
     . rcases yan_.1 ((h y).2 yav_) with q|q
       . exact q.symm
       . exact absurd (ybU_ (h2.1 x e) (h1.1 y q)) (nN_ _)
   subst e;rw[nj_ h1.2 h2.2 λz=>?_];constructor
   . intro d
     rcases yan_.1 ((h z).1 (yaE_ _ d)) with e|e
     . subst e;exact absurd (h1.1 _ d) (nN_ _)
     . exact e
   . intro d
     rcases yan_.1 ((h z).2 (yaE_ _ d)) with e|e
     . subst e;exact absurd (h2.1 _ d) (nN_ _)
     . exact e
abbrev bb_ (l:List Str):List Str:=l.mergeSort λx y=>decide (x<=y)
inductive Tre where
  | mk (con:Con) (size:Int) (ad:Ao) (cap:Nat) (parts:List Tre)
namespace Tre
def con:Tre->Con|mk c _ _ _ _=>c
def size:Tre->Int|mk _ n _ _ _=>n
def ad:Tre->Ao|mk _ _ a _ _=>a
def cap:Tre->Nat|mk _ _ _ c _=>c
def parts:Tre->List Tre|mk _ _ _ _ p=>p
def cells (t:Tre):List Value:=t.con.cells++[.int .i64 t.size,.slice t.ad t.parts.length t.cap]
def val (t:Tre):Value:=.agg t.cells.toArray
theorem cells_len (t:Tre):t.cells.length=7:=rfl
theorem cells_one (t:Tre):t.cells.all Value.oneCell'=true:=by simp[cells,Con.cells,Value.oneCell',str]
def tz:Tre->Nat
  | mk _ _ _ _ ps=>1+tzs ps
where tzs:List Tre->Nat
  | []=>0
  | p::ps=>tz p+tzs ps
theorem tz_pos (t:Tre):0<t.tz:=by cases t;simp[tz];omega
theorem xH_ {p:Tre}:∀ {ps:List Tre},p∈ps->p.tz<=tz.tzs ps
 | q::ps,h=>by
   rcases yan_.1 h with rfl|h
   . simp[tz.tzs]
   . have:=xH_ h;simp[tz.tzs];omega
theorem tz_part {t p:Tre} (h:p∈t.parts):p.tz<t.tz:=by
  cases t with
  | mk c n a cp ps=>have:=xH_ (ps:=ps) h;simp only[tz];omega
def mem:Tre->Vw->Prop
  | mk c _ a _ ps,v=>c.mem v/\bG_ v a (ps.flatMap cells)/\mems ps v
where mems:List Tre->Vw->Prop
  | [],_=>True
  | p::ps,v=>mem p v/\mems ps v
theorem mems_iff {v:Vw}:∀ {ps:List Tre},mem.mems ps v↔∀ p∈ps,p.mem v
  | []=>by simp[mem.mems]
  | p::ps=>by simp[mem.mems,mems_iff (ps:=ps)]
theorem mem_iff (t:Tre) (v:Vw):t.mem v↔t.con.mem v/\bG_ v t.ad (t.parts.flatMap cells)/\∀ p∈t.parts,p.mem v:=by
  cases t with
  | mk c n a cp ps=>simp only[mem,mems_iff,con,ad,parts]
theorem mem_mono:∀ (n:Nat) (t:Tre),t.tz<=n->∀ v d,v.le d->t.mem v->t.mem d
  | 0,t,h=>by have:=t.tz_pos;omega
  | n+1,t,h=>λv d hl hm=>by
    rw[mem_iff]at hm ⊢;exact⟨t.con.memF.mono v d hl hm.1,(ac_ t.ad (t.parts.flatMap cells)).mono v d hl hm.2.1,λp e=>mem_mono n p (by have:=tz_part e;omega) v d hl (hm.2.2 p e)⟩
def memF (t:Tre):Fct:=⟨t.mem,mem_mono t.tz t (yaj_ _)⟩
def wf:Tre->Prop
  | mk c n _ _ ps=>n=(c.sz:Int)/\c.parts=cons ps/\wfs ps
where
  wfs:List Tre->Prop
  | []=>True
  | p::ps=>wf p/\wfs ps
  cons:List Tre->List Con
  | []=>[]
  | p::ps=>p.con::cons ps
theorem tm_:∀ ps:List Tre,wf.cons ps=ps.map con
  | []=>rfl
  | p::ps=>by rw[wf.cons,tm_ ps];rfl
theorem uY_:∀ {ps:List Tre},wf.wfs ps↔∀ p∈ps,p.wf
  | []=>by simp[wf.wfs]
  | p::ps=>by simp[wf.wfs,uY_ (ps:=ps)]
theorem wf_iff (t:Tre):t.wf↔t.size=(t.con.sz:Int)/\t.con.parts=t.parts.map con/\∀ p∈t.parts,p.wf:=by
  cases t with
  | mk c n a cp ps=>simp only[wf,uY_,tm_,con,size,parts]
theorem wf_part {t p:Tre} (h:t.wf) (d:p∈t.parts):p.wf/\p.con.sz<t.con.sz:=by
  obtain⟨_,m,e⟩:=(wf_iff t).1 h;exact⟨e p d,Con.sz_part (by rw[m];exact yaU_ d)⟩
end Tre
def cP_ (l:List Tre):Fct:=⟨λv=>∀ t∈l,t.mem v,λv v' hl h t ht=>t.memF.mono v v' hl (h t ht)⟩
theorem kc_ {l:List Tre} {t:Tre} {v:Vw} (h:(cP_ l).p v) (e:t.memF.p v):(cP_ (l++[t])).p v:=λx d=>by
 rcases yah_.1 d with d|d
 .exact h x d
 rw[yai_]at d;subst d;exact e
theorem szs_step {l:List Con} {i:Nat} {x:Con} (h:l[i]? = some x):Con.sz.szs (l.take (i+1))=Con.sz.szs (l.take i)+x.sz:=by
  have d:∀ (a b:List Con),Con.sz.szs (a++b)=Con.sz.szs a+Con.sz.szs b:=λa b=>by
    induction a with
    | nil=>simp[Con.sz.szs]
    | cons c a ih=>simp[Con.sz.szs,ih];omega
  rw[yaz_,h,ybd_,d];simp[Con.sz.szs]
theorem szs_take_le {l:List Con} (i:Nat):Con.sz.szs (l.take i)<=Con.sz.szs l:=by
  induction l generalizing i with
  | nil=>simp
  | cons c l ih =>
    cases i with
    | zero=>simp[Con.sz.szs]
    | succ i=>have:=ih i;simp[Con.sz.szs];omega
theorem szs_len:∀ l:List Con,l.length<=Con.sz.szs l
  | []=>yaj_ _
  | c::l=>by have:=szs_len l;have:=c.sz_pos;simp only[yal_,Con.sz.szs];omega
theorem Con.parts_lt (c:Con):c.parts.length<c.sz:=by have:=szs_len c.parts;rw[Con.sz_eq];omega
theorem vI_ {a b:List Con} {i:Nat} {x y:Con} (v:a[i]? = some x) (e:b[i]? = some y):Con.cmp.cmps (a.drop i) (b.drop i)=if Con.cmp x y=0 then Con.cmp.cmps (a.drop (i+1)) (b.drop (i+1)) else Con.cmp x y:=by
  obtain⟨m,d⟩:=yac_.1 v;obtain⟨h,q⟩:=yac_.1 e;rw[ybi_ m,ybi_ h,Con.cmp.cmps,d,q]
theorem xg_ {a b:List Con} {i:Nat} (d:i<a.length) (e:b.length<=i):Con.cmp.cmps (a.drop i) (b.drop i)=1:=by
  rw[ybi_ d,yaT_ e,Con.cmp.cmps]
theorem uE_ {a b:List Con} {i:Nat} (d:a.length<=i) (e:i<b.length):Con.cmp.cmps (a.drop i) (b.drop i)=-1:=by
  rw[ybi_ e,yaT_ d,Con.cmp.cmps]
theorem zG_ {a b:List Con} {i:Nat} (d:a.length<=i) (e:b.length<=i):Con.cmp.cmps (a.drop i) (b.drop i)=0:=by
  rw[yaT_ d,yaT_ e,Con.cmp.cmps]
theorem vJ_ {a b:List Str} {i:Nat} {x y:Str} (v:a[i]? = some x) (e:b[i]? = some y):dL_ (a.drop i) (b.drop i)=if Lib.compareBytes x y=0 then dL_ (a.drop (i+1)) (b.drop (i+1)) else Lib.compareBytes x y:=by
  obtain⟨m,d⟩:=yac_.1 v;obtain⟨h,q⟩:=yac_.1 e;rw[ybi_ m,ybi_ h,dL_,d,q]
theorem xi_ {a b:List Str} {i:Nat} (d:i<a.length) (e:b.length<=i):dL_ (a.drop i) (b.drop i)=1:=by
  rw[ybi_ d,yaT_ e,dL_]
theorem uF_ {a b:List Str} {i:Nat} (d:a.length<=i) (e:i<b.length):dL_ (a.drop i) (b.drop i)=-1:=by
  rw[ybi_ e,yaT_ d,dL_]
theorem zK_ {a b:List Str} {i:Nat} (d:a.length<=i) (e:b.length<=i):dL_ (a.drop i) (b.drop i)=0:=by
  rw[yaT_ d,yaT_ e,dL_]
def wgL:List Con->Int
  | []=>0
  | c::l=>(if c.kind=0 then 0 else (c.sz:Int))+wgL l
def wgS:List Str->Int
  | []=>0
  | s::l=>(if s=[] then 0 else 1)+wgS l
theorem Ak_ (a b:List Con):wgL (a++b)=wgL a+wgL b:=by
  induction a with
  | nil=>simp[wgL]
  | cons c a ih=>simp only[yaJ_,wgL,ih];omega
theorem Aj_ (a b:List Str):wgS (a++b)=wgS a+wgS b:=by
  induction a with
  | nil=>simp[wgS]
  | cons c a ih=>simp only[yaJ_,wgS,ih];omega
theorem rS_ {l:List Con} {i:Nat} {x:Con} (h:l[i]? = some x):wgL (l.take (i+1))=wgL (l.take i)+(if x.kind=0 then 0 else (x.sz:Int)):=by
  rw[yaz_,h,Ak_];simp[wgL]
theorem rR_ {l:List Str} {i:Nat} {x:Str} (h:l[i]? = some x):wgS (l.take (i+1))=wgS (l.take i)+(if x=[] then 0 else 1):=by
  rw[yaz_,h,Aj_];simp[wgS]
theorem wgL_bd {l:List Con} (h:∀ c∈l,c.sz<=1000000):0<=wgL l/\wgL l<=1000000*l.length:=by
  induction l with
  | nil=>simp[wgL]
  | cons c l ih =>
    have m:=h c zaj_;have q:=ih λd e=>h d zbJ_
    simp only[wgL,yal_]
    split<;>omega
theorem wgS_bd (l:List Str):0<=wgS l/\wgS l<=l.length:=by
  induction l with
  | nil=>simp[wgS]
  | cons c l ih=>simp only[wgS,yal_];split<;>omega
theorem Ax.wgt_eq (x:Ax):x.wgt=wgL [x.left,x.right]+(x.roles.length:Int)+wgS [x.role,x.a,x.b]:=by
  unfold Ax.wgt;simp only[wgL,wgS];omega
theorem tu_ {x:Ax} {v:Vw} (h:x.memF.p v) {c:Con} (d:c∈[x.left,x.right]):c.memF.p v:=by
 simp only[yan_,yaM_,ybW_]at d;rcases d with rfl|rfl
 .exact h.1
 exact h.2.1
theorem iZ_ {x:Ax} (d:x.ok) (h:x.left.sz<=1000000) (m:x.right.sz<=1000000) {c:Con} (e:c∈[x.left,x.right]):c.ok/\c.sz<=1000000:=by
 simp only[yan_,yaM_,ybW_]at e;rcases e with rfl|rfl
 .exact⟨d.left,h⟩
 exact⟨d.right,m⟩
theorem qs_ (c d:Con):Con.cmp c d=if orF [Lib.compareInt (c.sz:Int) (d.sz:Int),Lib.compareInt c.kind d.kind,Lib.compareBytes c.name d.name,Lib.compareInt c.lo d.lo,Lib.compareInt c.hi d.hi]=0 then Con.cmp.cmps c.parts d.parts else orF [Lib.compareInt (c.sz:Int) (d.sz:Int),Lib.compareInt c.kind d.kind,Lib.compareBytes c.name d.name,Lib.compareInt c.lo d.lo,Lib.compareInt c.hi d.hi]:=by
  rw[Con.cmp_eq];simp only[orF]
  (repeat' split)<;>first|rfl|omega|(simp_all;done)
namespace Con
theorem core_parts (c:Con):c.core.parts=c.parts.map core:=by rw[core_eq];rfl
mutual
theorem qn_:∀ c:Con,c.core.core=c.core
  | mk k n l h a cp ps=>by rw[core,core,oU_ ps]
theorem oU_:∀ ps:List Con,core.cores (core.cores ps)=core.cores ps
  | []=>rfl
  | p::ps=>by rw[core.cores,core.cores,qn_ p,oU_ ps]
end
theorem sd_ (c:Con):c.core.sz=c.sz:=sz_core _ _ (qn_ c)
mutual
theorem oW_:∀ a b:Con,cmp a.core b.core=cmp a b
  | mk k n l h a cp ps,mk k' n' l' h' a' cp' ps'=>by
    rw[cmp_eq,cmp_eq,sd_,sd_];simp only[core,kind,name,lo,hi,parts];rw[qq_ ps ps']
theorem qq_:∀ a b:List Con,cmp.cmps (core.cores a) (core.cores b)=cmp.cmps a b
  | [],[]=>rfl
  | [],_::_=>rfl
  | _::_,[]=>rfl
  | x::xs,y::ys=>by rw[core.cores,core.cores,cmp.cmps,cmp.cmps,oW_ x y,qq_ xs ys]
end
theorem cmp_of {a a' b b':Con} (d:a.core=a'.core) (e:b.core=b'.core):cmp a b=cmp a' b':=by rw[<-oW_ a b,<-oW_ a' b',d,e]
theorem cmp_lt {x y z:Con} (h:cmp x y<0) (d:cmp y z<0):cmp x z<0:=by
  have:=cmp_tr x y z;unfold Tr3 at this;omega
def SrC (l:List Con):Prop:=l.Pairwise λa b=>cmp a b<0
theorem SrC.ext:∀ {l m:List Con},SrC l->SrC m->(∀ z,z∈l.map Con.core↔z∈m.map Con.core)->l.map Con.core=m.map Con.core
 | [],[],_,_,_=>rfl
 | [],y::m,_,_,h=>by have:=(h y.core).2 zaj_;simp at this
 | x::l,[],_,_,h=>by have:=(h x.core).1 zaj_;simp at this
 | x::l,y::m,h1,h2,h=>by
   unfold SrC at h1 h2;rw[ybj_]at h1 h2;have F:∀ z∈l,cmp x z<0:=h1.1;have E:∀ z∈m,cmp y z<0:=h2.1
   have e:x.core=y.core:=by
     have v:=(h x.core).1 zaj_;have A:=(h y.core).2 zaj_;rw[yay_,yan_]at v A;rcases v with v|v
     . exact v
     . rcases A with A|A
       . exact A.symm
       . obtain⟨z,d,C⟩:=yap_.1 v
         obtain⟨t,B,H⟩:=yap_.1 A;have I:cmp y x<0:=by rw[cmp_of (a':=y) (b':=z) rfl C.symm];exact E z d
         have J:cmp x y<0:=by rw[cmp_of (a':=x) (b':=t) rfl H.symm];exact F t B
         have:=cmp_anti x y;omega
   have G:=SrC.ext (l:=l) (m:=m) h1.2 h2.2 (λz=>by
     constructor
     . intro d
       have:=(h z).1 zca_;rw[yay_,yan_]at this;rcases this with g|g
       . obtain⟨t,B,C⟩:=yap_.1 d
         have q:=F t B;rw[(cmp_zero x t).2 (by rw[C,g,e])]at q;omega
       . exact g
     . intro d
       have:=(h z).2 zca_;rw[yay_,yan_]at this;rcases this with g|g
       . obtain⟨t,B,C⟩:=yap_.1 d
         have q:=E t B;rw[(cmp_zero y t).2 (by rw[C,g,e])]at q;omega
       . exact g)
   rw[yay_,yay_,e,G]
def gt_ (c:Con):List Con->List Con
  | []=>[c]
  | d::l=>if cmp c d<0 then c::d::l else if cmp c d=0 then d::l else d::gt_ c l
def srtC (l:List Con):List Con:=l.foldl (λs c=>gt_ c s) []
theorem oG_ {c:Con}:∀ {l:List Con} {z:Con},z∈gt_ c l->z=c\/z∈l
 | [],z,h=>by simp[gt_]at h;exact .inl h
 | d::l,z,h=>by
   simp only[gt_]at h
   split at h
   . simpa using h
   . split at h
     . exact .inr h
     . rcases yan_.1 h with rfl|h
       . simp
       . exact (oG_ h).imp id (yaE_ _)
theorem sW_ {c:Con}:∀ {l:List Con} {z:Con},z∈l->z∈gt_ c l
 | d::l,z,h=>by
   simp only[gt_]
   split
   . exact yaE_ _ h
   . split
     . exact h
     . rcases yan_.1 h with rfl|h
       . simp
       . exact yaE_ _ (sW_ h)
theorem sX_ {c:Con}:∀ {l:List Con},∃ z∈gt_ c l,z.core=c.core
 | []=>⟨c,by simp[gt_],rfl⟩
 | d::l=>by
   simp only[gt_]
   split
   . exact⟨c,by simp,rfl⟩
   . split
     . rename_i h;exact⟨d,by simp,((cmp_zero c d).1 h).symm⟩
     . obtain⟨z,m,e⟩:=sX_ (c:=c) (l:=l)
       exact⟨z,yaE_ _ m,e⟩
theorem sV_ {c:Con}:∀ {l:List Con},SrC l->SrC (gt_ c l)
 | [],_=>by simp[SrC,gt_]
 | d::l,h=>by
   unfold SrC at h;rw[ybj_]at h;simp only[gt_]
   split
   . rename_i m
     unfold SrC;rw[ybj_,ybj_];refine⟨λz e=>?_,h⟩;rcases yan_.1 e with rfl|e
     . exact m
     . exact cmp_lt m (h.1 z e)
   . split
     . unfold SrC;rw[ybj_];exact h
     . rename_i m q
       unfold SrC;rw[ybj_];refine⟨λz e=>?_,sV_ (l:=l) h.2⟩;rcases oG_ e with rfl|e
       . have:=cmp_anti d z;omega
       . exact h.1 z e
theorem kG_:∀ (l s:List Con),SrC s->SrC (l.foldl (λs c=>gt_ c s) s)/\(∀ z∈l.foldl (λs c=>gt_ c s) s,z∈s\/z∈l)/\(∀ z,z∈s\/z∈l->∃ t∈l.foldl (λs c=>gt_ c s) s,t.core=z.core)
 | [],s,h=>⟨h,λz d=>.inl d,λz d=>⟨z,d.elim id (λq=>by simp at q),rfl⟩⟩
 | x::l,s,h=>by
   obtain⟨y,v,m⟩:=kG_ l (gt_ x s) (sV_ h);refine⟨y,λz d=>?_,λz d=>?_⟩
   . rcases v z d with q|q
     . exact (oG_ q).elim (λe=>.inr zbJ_) .inl
     . exact .inr (yaE_ _ q)
   . rcases d with d|d
     . exact m z (.inl (sW_ d))
     . rcases yan_.1 d with rfl|d
       . obtain⟨t,B,e⟩:=sX_ (c:=z) (l:=s)
         obtain⟨u,A,C⟩:=m t (.inl B);exact⟨u,A,C.trans e⟩
       . exact m z (.inr d)
theorem xV_ (l:List Con):SrC (srtC l):=(kG_ l [] List.Pairwise.nil).1
theorem xU_ {l:List Con} {z:Con} (h:z∈srtC l):z∈l:=((kG_ l [] List.Pairwise.nil).2.1 z h).elim (λq=>by simp at q) id
theorem xW_ (l:List Con) (z:Con):z∈(srtC l).map core↔z∈l.map core:=by
 constructor
 .intro h
  obtain⟨t,d,rfl⟩:=yap_.1 h;exact yaU_ (xU_ d)
 intro h;obtain⟨t,d,rfl⟩:=yap_.1 h;obtain⟨u,m,e⟩:=(kG_ l [] List.Pairwise.nil).2.2 t (.inr d);exact yap_.2 ⟨u,m,e⟩
theorem srtC_uniq {l m:List Con} (h:SrC m) (hm:∀ z,z∈m.map core↔z∈l.map core):m.map core=(srtC l).map core:=SrC.ext h (xV_ l) λz=>(hm z).trans (xW_ l z).symm
def flat1 (c:Con):List Con:=if c.kind=1 then [] else if c.kind=5 then c.parts else [c]
def zeroC:Con:=mk 0 [] 0 0 none 0 []
def meetF (s:List Con):Con×Int :=
  match s.find? λc=>decide (c.kind=2) with
  | some b=>(b,0)
  | none =>
    match s with
    | []=>(mk 1 [] 0 0 none 0 [],0)
    | [x]=>(x,0)
    | _=>if 8<s.length then (zeroC,2) else (mk 5 [] 0 0 none 0 s,0)
def erF:List (Con×Int)->Int
  | []=>0
  | z::l=>if z.2≠0 then z.2 else erF l
def tdy:Con->Con×Int
  | mk k n lo hi a cp ps =>
    if k=6 then (match tdys ps with
      | z::_=>if z.2≠0\/z.1.kind=2 then z else (mk 6 n 0 0 none 0 [z.1],0)
      | []=>(zeroC,0))
    else if k=5 then (if erF (tdys ps)≠0 then (zeroC,erF (tdys ps)) else meetF (srtC ((tdys ps).flatMap λz=>flat1 z.1)))
    else (mk k n lo hi a cp ps,0)
where tdys:List Con->List (Con×Int)
  | []=>[]
  | p::ps=>tdy p::tdys ps
theorem tdys_map:∀ ps:List Con,tdy.tdys ps=ps.map tdy
  | []=>rfl
  | p::ps=>by rw[tdy.tdys,tdys_map ps];rfl
theorem tL_ (c : Con) : c.tdy = if c.kind = 6 then (match c.parts.map tdy with
      | z::_=>if z.2≠0\/z.1.kind=2 then z else (mk 6 c.name 0 0 none 0 [z.1],0)
      | []=>(zeroC,0))
    else if c.kind=5 then (if erF (c.parts.map tdy)≠0 then (zeroC,erF (c.parts.map tdy)) else meetF (srtC ((c.parts.map tdy).flatMap λz=>flat1 z.1)))
    else (c,0):=by
  cases c;rw[tdy,tdys_map];rfl
theorem tdy_some {c p:Con} (hk:c.kind=6) (d:c.parts=[p]):c.tdy=if p.tdy.2≠0\/p.tdy.1.kind=2 then p.tdy else (mk 6 c.name 0 0 none 0 [p.tdy.1],0):=by
  rw[tL_,yao_ hk,d];rfl
theorem tdy_and {c:Con} (hk:c.kind=5):c.tdy=if erF (c.parts.map tdy)≠0 then (zeroC,erF (c.parts.map tdy)) else meetF (srtC ((c.parts.map tdy).flatMap λz=>flat1 z.1)):=by
  rw[tL_,yag_ zaa_,yao_ hk]
theorem tdy_self {c:Con} (d:c.kind≠5) (e:c.kind≠6):c.tdy=(c,0):=by rw[tL_,yag_ e,yag_ d]
theorem vy_ (c:Con):∀ l:List Con,sz.szs (gt_ c l)<=c.sz+sz.szs l
 | []=>by simp[gt_,sz.szs]
 | d::l=>by
   simp only[gt_]
   split
   . simp[sz.szs]
   . split
     . simp only[sz.szs];omega
     . have:=vy_ c l;simp only[sz.szs];omega
theorem vb_:∀ xs ys:List Con,sz.szs (xs++ys)=sz.szs xs+sz.szs ys
  | [],ys=>by simp[sz.szs]
  | x::xs,ys=>by rw[yaJ_,sz.szs,sz.szs,vb_ xs ys];omega
theorem AD_ (l:List Con):sz.szs (srtC l)<=sz.szs l:=by
  have d:∀ (l s:List Con),sz.szs (l.foldl (λs c=>gt_ c s) s)<=sz.szs s+sz.szs l:=by
    intro l
    induction l with
    | nil=>intro s;simp[sz.szs]
    | cons x l ih =>
      intro s;have e:=ih (gt_ x s);have h:=vy_ x s;rw[yck_,sz.szs];omega
  have:=d l [];simp only[sz.szs]at this;unfold srtC;omega
theorem zm_ (c:Con):sz.szs (flat1 c)<=c.sz:=by
 unfold flat1
 split
 .simp[sz.szs]
 split
 .rw[sz_eq];omega
 simp[sz.szs]
theorem yK_ {s:List Con} (h:(meetF s).2=0):(meetF s).1.sz<=1+sz.szs s:=by
 unfold meetF at h ⊢
 split
 .rename_i b d
  have:=sz_mem (List.mem_of_find?_eq_some d);dsimp only;omega
 rename_i d
 rw[d]at h;dsimp only at h
 split
 .simp[sz,sz.szs]
 .simp[sz.szs]
 split
 .rename_i e;simp[sz,sz.szs,zeroC]
 simp only[sz];omega
theorem nx_:zeroC.sz=1:=rfl
mutual
theorem tdy_sz:∀ c:Con,c.tdy.1.sz<=c.sz
  | mk k n lo hi a cp ps=>by
    have v:=tdys_sz ps;rw[tdy]
    split
    . cases ps with
      | nil=>rw[tdy.tdys];dsimp only;rw[nx_];simp[sz]
      | cons p ps =>
        rw[tdy.tdys];dsimp only;have m:=tdy_sz p
        split
        . simp only[sz,sz.szs];omega
        . simp only[sz,sz.szs];omega
    . split
      . split
        . dsimp only;rw[nx_];simp[sz]
        . have m:=AD_ ((tdy.tdys ps).flatMap λz=>flat1 z.1)
          by_cases d:(meetF (srtC ((tdy.tdys ps).flatMap λz=>flat1 z.1))).2=0
          . have:=yK_ d
            simp only[sz];omega
          . have:(meetF (srtC ((tdy.tdys ps).flatMap λz=>flat1 z.1))).1=zeroC:=by
              unfold meetF at d ⊢
              split
              . rename_i b h;rw[h]at d;simp at d
              . rename_i h
                rw[h]at d;dsimp only at d ⊢
                split
                . rename_i e;rw[e]at d;simp at d
                . rename_i e;rw[e]at d;simp at d
                . split
                  . rfl
                  . rename_i q;rw[yag_ q]at d;simp at d
            rw[this,nx_];simp[sz]
      . exact yaj_ _
theorem tdys_sz:∀ ps:List Con,sz.szs ((tdy.tdys ps).flatMap λz=>flat1 z.1)<=sz.szs ps
  | []=>by simp[tdy.tdys,sz.szs]
  | p::ps=>by
    rw[tdy.tdys,yaG_,vb_];have m:=tdy_sz p;have d:=tdys_sz ps;have q:=zm_ (tdy p).1;simp only[sz.szs];omega
end
end Con
def Ax.tdyE (x:Ax):Int :=
  if x.check≠0 then x.check
  else if (us x.kind).left=true/\x.left.tdy.2≠0 then x.left.tdy.2
  else if (us x.kind).right=true/\x.right.tdy.2≠0 then x.right.tdy.2
  else 0
def Ax.tdyL (x:Ax):Con:=if (us x.kind).left=true then x.left.tdy.1 else x.left
def Ax.tdyR (x:Ax):Con:=if (us x.kind).right=true then x.right.tdy.1 else x.right
def Ax.swp (x:Ax):Prop:=(x.kind=2\/x.kind=3)/\0<Con.cmp x.tdyL x.tdyR
instance (x:Ax):Decidable x.swp:=by unfold Ax.swp;infer_instance
structure TdyOf (x y:Ax):Prop where
  kind:y.kind=x.kind
  opn:y.opn=x.opn
  roles:y.roles=x.roles
  role:y.role=x.role
  a:y.a=x.a
  b:y.b=x.b
  left:y.left.core=if x.swp then x.tdyR.core else x.tdyL.core
  right:y.right.core=if x.swp then x.tdyL.core else x.tdyR.core
end Go.Vs
namespace Go.Proofs.YtbffkokbdeppaaaGreatDoor
open Go Go.Sx Go.Proofs Tryz
attribute [local irreducible] Code.wp wpList wpAnyH
open Go.Vs
theorem xQ_:gp_ prog 24 [(0,1)] [.slice none 0 0]:=⟨_,zeroValue24,runUnderlying24,λw=>by simp[Cr_]⟩
theorem uy_:Elt prog 22 30 16 216:=hj_ underlying22 (z:=.agg #[iv_ 0,.bool false,iv_ 0,str [],iv_ 0,iv_ 0,.slice none 0 0,iv_ 0,str [],iv_ 0,iv_ 0,.slice none 0 0,.slice none 0 0,str [],str [],str []]) zac_ rfl zae_
theorem Ax.cells_one (x:Ax):x.cells.all Value.oneCell'=true:=by simp[Ax.cells,Con.cells,Value.oneCell',str]
theorem Ay_:gp_ prog 171 [(0,5),(5,1),(6,1)] [iv_ 0,str [],iv_ 0,iv_ 0,.slice none 0 0,iv_ 0,.slice none 0 0]:=⟨_,cz_,runUnderlying171,λw=>by simp[ag_,t_,sizeOf169]⟩
theorem rs_:Elt prog 169 171 7 96:=hj_ underlying169 (z:=.agg #[iv_ 0,str [],iv_ 0,iv_ 0,.slice none 0 0,iv_ 0,.slice none 0 0]) zac_ rfl zae_
theorem Tre.cells_one (t:Tre):t.cells.all Value.oneCell'=true:=Go.Vs.Tre.cells_one t
theorem rj_:∀ (m:Nat) (c:Con),c.sz<=m->c.sz<=1000000->Tri prog 118 #[Con.val c] [] [Con.memF c] (λy:{t:Tre // t.con=c/\t.wf}=>y.1.val) (λ_=>[]) (λy=>[y.1.memF]):=by
 intro m
 induction m with
 | zero=>intro c h;have:=Con.sz_pos c;omega
 | succ m ih =>
   intro c h hz;refine i_ func118 rfl rfl ntmps118 rfl λa6=>?_;refine Zz 2 ?_;refine P_ rfl rfl λb_1=>x_ cz_ rfl λK=>Zz 5 ?_
   refine e_ (C_ Ay_ rfl rfl) rfl (n_ 0 aD_ rfl rfl rfl rfl rfl rfl (Zz 12 ?_));refine H_ (ι:={y:Nat×List Tre×Int×Value×Hp // y.1<=List.length c.parts/\List.map Tre.con y.2.1=List.take y.1 c.parts/\y.2.2.1=((1+Con.sz.szs (c.parts.take y.1):Nat):Int)/\(∀ t∈y.2.1,t.wf)/\zR 171 7 Tre.cells y.2.2.2.1 y.2.1 y.2.2.2.2}) (λy=>[(2,zp_ K 0),(9,.slice c.ad c.parts.length c.cap),(10,iv_ (List.length c.parts:Int)),(11,iv_ y.1.1)]) (λy=>((K,.cells #[iv_ c.kind,str c.name,iv_ c.lo,iv_ c.hi,.slice c.ad c.parts.length c.cap,iv_ y.1.2.2.1,y.1.2.2.2.1] 171 (0,0))::y.1.2.2.2.2)) (λy=>[cP_ y.1.2.1,Con.memF c]) (λy=>c.parts.length - y.1.1) ⟨((0:Nat),([]:List Tre),1,(.slice none 0 0),[]),by simp,by simp,(by simp[Con.sz.szs]),by simp,(at_.nil _ _)⟩ zl d_ (λv _ h=>by exact⟨(show (cP_ ([]:List Tre)).p v from λt E=>by simp at E),h.1,trivial⟩) ?_;rintro ⟨⟨i,Z,S,a1,a5⟩,P,A,C,H,x⟩;dsimp only at P A C H x ⊢;have hzb:=szs_take_le (l:=Con.parts c) i;have a8:=Con.sz_eq c;have a2:=Con.parts_lt c;refine Zi 2 (λB=>?_) λB=>?_
   . refine Zz 9 ?_;refine n_ 0 aD_ rfl rfl rfl rfl rfl (by have q:=(ek_ x).2;simp only[Value.cells,List.all_cons,List.all_nil,q,Bool.and_true];rfl) ?_;refine Zz 3 ?_;refine aW_ x B_ λN G L Y a0 X=>?_;subst L;have U:List.take i c.parts=Con.parts c:=yab_ zaa_;rw[U]at A C;exact de_ ⟨Tre.mk c S N G Z,rfl,(Tre.wf_iff _).2 ⟨by dsimp only[Tre.size,Tre.con];rw[C,Con.sz_eq],A.symm,H⟩⟩ (λaa v W T=>dy_ (us:=Tre.cells (Tre.mk c S N G Z)) 0 results118 hg_ aD_ rfl rfl rfl aa v W T) g_ (λv _ h=>by exact⟨(Tre.mem_iff _ v).2 ⟨h.2.2.1,h.1,h.2.1⟩,trivial⟩)
   . obtain⟨I,J,e,d⟩:=zge (show i<c.parts.length by omega);refine Zz 10 ?_;refine e_ (Z_ ai_ t_ rfl rfl (λv _ h=>aA_ (n:=5) Con.cells_len zae_ (by exact ((Con.mem_iff c v).1 h.2.1).1) e) zaa_ zai_) rfl ?_;refine e_ (am_ (ad:=c.ad) (us:=Con.cells J) ah_ t_ rfl (λv _ h=>by exact ((Con.mem_iff c v).1 h.2.1).1) (Con.cells_len _) (w_ Con.cells_len e)) rfl (x_ aF_ rfl λb_3=>n_ 0 t_ rfl rfl rfl rfl rfl rfl (Zz 5 ?_));refine f_ (ih J zbt_ zbt_) rfl g_ (λv _ h=>by exact⟨(Con.mem_part (c:=c) h.2.1 d),trivial⟩) rfl λ⟨q,O,Q⟩=>?_;dsimp only;have V:Tre.size q=(Con.sz J:Int):=by rw[((Tre.wf_iff q).1 Q).1,O]
     have a3:=Con.sz_part d;refine x_ cz_ rfl λa4=>n_ 0 aD_ rfl rfl rfl rfl rfl rfl (Zz 10 ?_)
     refine n_ 2 ag_ rfl rfl rfl rfl rfl rfl (Zz 6 ?_);refine O_ aM_ aD_ cz_ rfl rfl rfl rfl rfl rfl λa7=>?_;refine aj_ (news:=List.flatMap Tre.cells [q]) rs_ x rfl rfl (c_ (c_ (c_ B_))) rfl (aL_ 0 rfl) (λu hu=>az_ Tre.cells_one hu) (by simp only[maxLen];((try simp only[yaf_,yal_,yaL_]);have:=yae_ List.length A;rw[yaF_,yaD_]at this;have:=Con.parts_lt c;omega)) (by ((try simp only[yaf_,yal_,yaL_]);have:=yae_ List.length A;rw[yaF_,yaD_]at this;have:=Con.parts_lt c;omega)) rfl λM R B=>?_;refine A_ yaB_ ?_;have F:=zsa B;refine Zz 1 ?_;refine cn_ 3 F sizeOf169 rfl rfl rfl rfl (Zz 7 ?_);exact u_ ⟨(i+1,(Z++[q]),(S+Tre.size q),M,R),I,(by rw[take_snoc e,yat_,A];simp[O]),(by show S+Tre.size q=_;rw[szs_step e,C,V];omega),(λt E=>by rcases yah_.1 E with E|E;exact H t E;rw[yai_]at E;subst E;exact Q),F⟩ zab_ zl (l_ (c_ (c_ (c_ d_))) (c_ (c_ B_))) (λv _ h=>by exact⟨kc_ h.2.1 h.1,h.2.2.1,trivial⟩)
theorem xj_ (d us:List Tre) (ad L:Ao) (cap H:Nat) (Q:d.length<=1000000) (S:us.length<=1000000) (O:(∀ t∈d,∀ u∈us,Tri prog 119 #[t.val,u.val] [] [t.memF,u.memF] (λ_:Unit=>iv_ (Con.cmp t.con u.con)) (λ_=>[]) (λ_=>[]))):Tri prog 202 #[.slice ad d.length cap,.slice L us.length H,.func (.func 119) #[] #[]] [] [ac_ ad (d.flatMap Tre.cells),ac_ L (us.flatMap Tre.cells),cP_ d,cP_ us] (λ_:Unit=>iv_ (Con.cmp.cmps (d.map Tre.con) (us.map Tre.con))) (λ_=>[]) (λ_=>[]):=by
 refine i_ func202 rfl rfl ntmps202 rfl λN=>?_;refine Zz 14 ?_;refine H_ (ι:={y:Nat // y<=List.length d/\Con.cmp.cmps (d.map Tre.con) (us.map Tre.con)=Con.cmp.cmps (List.drop y (d.map Tre.con)) (List.drop y (us.map Tre.con))}) (λy=>[(0,.slice ad d.length cap),(1,.slice L us.length H),(2,.func (.func 119) #[] #[]),(6,iv_ 0),(11,.slice ad d.length cap),(12,iv_ (List.length d:Int)),(13,iv_ y.1)]) (λy=>([])) (λy=>[ac_ ad (d.flatMap Tre.cells),ac_ L (us.flatMap Tre.cells),cP_ d,cP_ us]) (λy=>d.length - y.1) ⟨(0:Nat),by simp,rfl⟩ zl g_ zh ?_;rintro ⟨i,K,e⟩;dsimp only at K e ⊢;refine Zi 2 (λJ=>?_) λJ=>?_
 .refine Zi 13 (λB=>?_) λB=>?_
  .refine Zz 11 ?_
   exact ab_ results202 () (bl_ rfl (by rw[e];symm;exact zG_ zar_ zar_)) g_ zt
  refine Zz 9 ?_;exact ab_ results202 () (bl_ rfl (by rw[e];symm;exact uE_ zar_ zar_)) g_ zt
 obtain⟨F,I,C,x⟩:=zge (show i<d.length by omega);refine Zz 13 ?_;refine x_ cz_ rfl λR=>Zz 1 ?_
 refine n_ 0 aD_ rfl rfl rfl rfl rfl rfl (Zi 8 (λB=>?_) λB=>?_)
 .have E:i<us.length:=by omega
  obtain⟨G,q⟩:∃ M,us[i]? = some M:=⟨_,yaa_ E⟩;have m:G∈us:=yad_ q;refine Zz 11 ?_;refine x_ cz_ rfl λP=>n_ 0 aD_ rfl rfl rfl rfl rfl rfl (Zz 7 ?_)
  refine ap_ (O I x G m) rfl rfl g_ (λv _ h=>by exact⟨(h.2.2.1 I x),(h.2.2.2.1 G m),trivial⟩) rfl λ_=>Zi 6 (λA=>?_) λA=>?_
  .refine Zz 10 ?_
   exact u_ ⟨i+1,F,(by rw[e,vI_ (by rw[yaH_,C];rfl) (by rw[yaH_,q];rfl),yao_ A])⟩ zab_ zl g_ zh
  refine Zz 10 ?_;exact ab_ results202 () (bl_ rfl (by rw[e,vI_ (by rw[yaH_,C];rfl) (by rw[yaH_,q];rfl),yag_ A])) g_ zt
 refine Zz 9 ?_;exact ab_ results202 () (bl_ rfl (by rw[e];symm;exact xg_ zar_ zar_)) g_ zt
theorem lK_:∀ (m:Nat) (t u:Tre),t.con.sz<=m->t.wf->u.wf->t.con.sz<=1000000->u.con.sz<=1000000->Tri prog 119 #[Tre.val t,Tre.val u] [] [Tre.memF t,Tre.memF u] (λ_:Unit=>iv_ (Con.cmp t.con u.con)) (λ_=>[]) (λ_=>[]):=by
 intro m
 induction m with
 | zero=>intro t u h;have:=Con.sz_pos t.con;omega
 | succ m ih =>
   intro t u h e F K O;obtain⟨E,B,N⟩:=(Tre.wf_iff t).1 e;obtain⟨C,A,M⟩:=(Tre.wf_iff u).1 F;have G:(Tre.parts t).length<=1000000:=by have q:=yae_ List.length B;rw[yaF_]at q;have:=Con.parts_lt t.con;omega
   have H:(Tre.parts u).length<=1000000:=by have q:=yae_ List.length A;rw[yaF_]at q;have:=Con.parts_lt u.con;omega
   refine i_ func119 rfl rfl ntmps119 rfl λP=>?_;refine Zz 2 ?_;refine P_ rfl rfl λR=>P_ rfl rfl λQ=>Zz 5 ?_
   refine D_ 8 [0,1,2,3,5,6,7,8,9,10,12,13,14,15,16,17,19,20,21,22,23,24,26,27,28,29,30,31] zk zs (Zz 29 ?_);refine p_ 4 rfl zk (f_ (dM_ (Tre.size t) (Tre.size u)) rfl g_ zt rfl λ_=>Zz 3 ?_);refine p_ 11 rfl zk (f_ (dM_ (Con.kind (Tre.con t)) (Con.kind (Tre.con u))) rfl g_ zt rfl λ_=>Zz 3 ?_);refine p_ 18 rfl zk (f_ (fB_ (Con.name (Tre.con t)) (Con.name (Tre.con u))) rfl g_ zt rfl λ_=>Zz 3 ?_);refine p_ 25 rfl zk (f_ (dM_ (Con.lo (Tre.con t)) (Con.lo (Tre.con u))) rfl g_ zt rfl λ_=>Zz 3 ?_);refine p_ 32 rfl zk (f_ (dM_ (Con.hi (Tre.con t)) (Con.hi (Tre.con u))) rfl g_ zt rfl λ_=>Zz 3 ?_);refine p_ 33 rfl zk (O_ aZ_ ag_ dD_ rfl rfl rfl rfl rfl rfl λJ=>?_);refine bC_ (List.flatMap fn_ [(Lib.compareInt (Tre.size t) (Tre.size u)),(Lib.compareInt (Con.kind (Tre.con t)) (Con.kind (Tre.con u))),(Lib.compareBytes (Con.name (Tre.con t)) (Con.name (Tre.con u))),(Lib.compareInt (Con.lo (Tre.con t)) (Con.lo (Tre.con u))),(Lib.compareInt (Con.hi (Tre.con t)) (Con.hi (Tre.con u)))]) d_ rfl ?_;refine Zz 3 ?_;refine p_ 34 rfl zk (f_ (sy_ [(Lib.compareInt (Tre.size t) (Tre.size u)),(Lib.compareInt (Con.kind (Tre.con t)) (Con.kind (Tre.con u))),(Lib.compareBytes (Con.name (Tre.con t)) (Con.name (Tre.con u))),(Lib.compareInt (Con.lo (Tre.con t)) (Con.lo (Tre.con u))),(Lib.compareInt (Con.hi (Tre.con t)) (Con.hi (Tre.con u)))] (some ⟨J,0,none⟩) 5 zaj_) rfl g_ zf rfl λ_=>Zz 3 ?_);refine D_ 0 [35] zk zs (Zi 8 (λd=>?_) λd=>?_)
   . refine Zz 11 ?_;refine f_ (xj_ (Tre.parts t) (Tre.parts u) (Tre.ad t) (Tre.ad u) (Tre.cap t) (Tre.cap u) G H (λx I y L=>ih x y (by have:=(Tre.wf_part e I).2;omega) (Tre.wf_part e I).1 (Tre.wf_part F L).1 (by have:=(Tre.wf_part e I).2;omega) (by have:=(Tre.wf_part F L).2;omega))) rfl g_ (λv _ h=>by exact⟨((Tre.mem_iff t v).1 h.2.1).2.1,((Tre.mem_iff u v).1 h.2.2.1).2.1,((Tre.mem_iff t v).1 h.2.1).2.2,((Tre.mem_iff u v).1 h.2.2.1).2.2,trivial⟩) rfl λ_=>?_;refine Zz 4 ?_;exact ab_ results119 () (bl_ rfl (by rw[qs_,<-E,<-C,yao_ d,B,A])) g_ zt
   . refine Zz 10 ?_;exact ab_ results119 () (bl_ rfl (by rw[qs_,<-E,<-C,yag_ d])) g_ zt
theorem eq_ (c d:Con) (x:c.sz<=1000000) (m:d.sz<=1000000):Tri prog 55 #[Con.val c,Con.val d] [] [Con.memF c,Con.memF d] (λ_:Unit=>iv_ (Con.cmp c d)) (λ_=>[]) (λ_=>[]):=by
  refine i_ func55 rfl rfl ntmps55 rfl λB=>?_;refine Zz 2 ?_;refine P_ rfl rfl λC=>P_ rfl rfl λE=>Zz 5 ?_
  refine D_ 4 [0,2] zk zs (Zz 3 ?_);refine p_ 1 rfl zk (f_ (rj_ _ c (yaj_ _) x) rfl g_ zf rfl λ⟨A,h,v⟩=>?_);dsimp only;refine Zz 3 ?_;refine p_ 3 rfl zk (f_ (rj_ _ d (yaj_ _) m) rfl g_ zf rfl λ⟨y,e,q⟩=>?_);dsimp only;refine Zz 3 ?_;refine p_ 4 rfl zk (f_ (lK_ _ A y (yaj_ _) v q (by rw[h];exact x) (by rw[e];exact m)) rfl g_ zf rfl λ_=>?_);refine Zz 3 ?_;refine D_ 0 [5] zk zs (Zz 5 ?_);exact ab_ results55 () (bl_ rfl (by rw[h,e])) g_ zt
theorem xt_ {P:Program} {N:Nf} {fr:Fr} {H:Hp} {Γ:List Fct} {t q ty:TypeId} {x y:Operand} {m n:List UInt8} (A:Fr.ev fr x=some (str m)) (h:Fr.ev fr y=some (str n)):Yld P N fr H Γ (.binOp .gtr t x y q) ty (.bool (decide (n<m))) :=
  λa v d _ _ _ _ _=>by
    have e:decide (n<m)=!decide (m<=n):=by rw[ybx_];simp[List.not_le]
    rw[e,<-BZ_];simp[execOp,d.ev A,d.ev h,str,eqGuard,binOp,Op.stringOp]
theorem qZ_ (s:Str):Fn0 prog 282 #[str s] (.bool false):=by
  refine i_ func282 rfl rfl ntmps282 rfl λd=>?_;refine Zz 9 ?_;refine e_ (ao_ (cJ_ rfl rfl) (show _=Value.bool false from yae_ Value.bool zaj_)) rfl (Zz 4 ?_);exact ab_ results282 () rfl g_ zt
theorem jB_ (x y:Str):Fn0 prog 208 #[str x,str y] (iv_ (Lib.compareBytes x y)):=by
 refine i_ func208 rfl rfl ntmps208 rfl λm=>?_;refine Zz 8 ?_;refine f_ (qZ_ x) rfl g_ zt rfl λ_=>Zz 6 ?_
 refine f_ (qZ_ y) rfl g_ zt rfl λ_=>Zi 26 (λe=>?_) λe=>?_
 .refine Zz 10 ?_
  refine E_ (xt_ rfl rfl) rfl λh d=>Zz 2 ?_
  cases h
  .replace d:=zdf d
   refine Zz 9 ?_;exact ab_ results208 () (bl_ rfl (by rw[rD_,yag_ e,yag_ d])) g_ zt
  replace d:=zdt d;refine Zz 7 ?_;exact ab_ results208 () (bl_ rfl (by rw[rD_,yag_ e,yao_ d])) g_ zt
 refine Zz 9 ?_;exact ab_ results208 () (bl_ rfl (by rw[rD_,yao_ e])) g_ zt
theorem BQ_ (d v:List Str) (ad H:Ao) (cap E:Nat) (hl:d.length<=140737488351232) (hm:v.length<=140737488351232):Tri prog 127 #[.slice ad d.length cap,.slice H v.length E] [] [ac_ ad (d.flatMap al_),ac_ H (v.flatMap al_)] (λ_:Unit=>iv_ (dL_ d v)) (λ_=>[]) (λ_=>[]):=by
 refine i_ func127 rfl rfl ntmps127 rfl λK=>?_;refine Zz 14 ?_;refine H_ (ι:={y:Nat // y<=List.length d/\dL_ d v=dL_ (d.drop y) (v.drop y)}) (λy=>[(0,.slice ad d.length cap),(1,.slice H v.length E),(4,iv_ 0),(9,.slice ad d.length cap),(10,iv_ (List.length d:Int)),(11,iv_ y.1)]) (λy=>([])) (λy=>[ac_ ad (d.flatMap al_),ac_ H (v.flatMap al_)]) (λy=>d.length - y.1) ⟨(0:Nat),by simp,rfl⟩ zl g_ zh ?_;rintro ⟨i,G,e⟩;dsimp only at G e ⊢;refine Zi 2 (λF=>?_) λF=>?_
 .refine Zi 13 (λq=>?_) λq=>?_
  .refine Zz 11 ?_
   exact ab_ results127 () (bl_ rfl (by rw[e];symm;exact zK_ zaa_ zaa_)) g_ zt
  refine Zz 9 ?_;exact ab_ results127 () (bl_ rfl (by rw[e];symm;exact uF_ zaa_ zaa_)) g_ zt
 have m:i<d.length:=by omega
 obtain⟨I,x⟩:∃ B,d[i]? = some B:=⟨_,yaa_ m⟩;refine Zi 23 (λq=>?_) λq=>?_
 .have C:i<v.length:=by omega
  obtain⟨J,A⟩:∃ B,v[i]? = some B:=⟨_,yaa_ C⟩;refine Zz 18 ?_;refine f_ (jB_ I J) rfl g_ zt rfl λ_=>Zi 6 (λh=>?_) λh=>?_
  .refine Zz 10 ?_
   exact u_ ⟨i+1,m,(by rw[e,vJ_ x A,yao_ h])⟩ zab_ zl g_ zh
  refine Zz 10 ?_;exact ab_ results127 () (bl_ rfl (by rw[e,vJ_ x A,yag_ h])) g_ zt
 refine Zz 9 ?_;exact ab_ results127 () (bl_ rfl (by rw[e];symm;exact xi_ zaa_ zaa_)) g_ zt
theorem rT_ (x:Ax) (F:x.ok) (H:x.left.sz<=1000000) (I:x.right.sz<=1000000):Tri prog 126 #[Ax.val x] [] [Ax.memF x] (λ_:Unit=>iv_ x.wgt) (λ_=>[]) (λ_=>[]):=by
 refine i_ func126 rfl rfl ntmps126 rfl λX=>?_;have U:=F.cap;refine Zz 2 ?_;refine P_ rfl rfl λJ=>Zz 10 ?_
 refine O_ ai_ t_ aF_ rfl rfl rfl rfl rfl rfl λB=>?_;refine bC_ (List.flatMap Con.cells [x.left,x.right]) d_ rfl ?_;refine Zz 5 ?_;let Pu:Hp:=((J,.cells (Ax.cells x).toArray 30 (0,0))::[]);refine H_ (ι:={y:Nat×Int // y.1<=List.length [x.left,x.right]/\y.2=wgL (List.take y.1 [x.left,x.right])}) (λy=>[(1,zp_ J 0),(2,iv_ y.1.2),(11,.slice (some ⟨B,0,none⟩) (List.length [x.left,x.right]) 2),(12,iv_ 2),(13,iv_ y.1.1)]) (λy=>Pu) (λy=>[ac_ (some ⟨B,0,none⟩) (List.flatMap Con.cells [x.left,x.right]),Ax.memF x]) (λy=>List.length [x.left,x.right] - y.1.1) ⟨((0:Nat),0),by simp,(by simp[wgL])⟩ zl d_ zh ?_;rintro ⟨⟨i,M⟩,O,Q⟩;dsimp only at O Q ⊢;have Z:=wgL_bd (l:=List.take i [x.left,x.right]) (λc hc=>(iZ_ F H I (ybO_ hc)).2);have W:(List.take i [x.left,x.right]).length<=2:=by rw[yaD_];exact Nat.min_le_right _ _
 refine Zi 2 (λR=>?_) λR=>?_
 .refine Zz 12 ?_
  refine e_ (aC_ rfl rfl rfl (bq_ zak_ zak_)) rfl ?_;refine Zz 12 ?_;refine O_ o_ G_ ax_ rfl rfl rfl rfl rfl rfl λK=>?_;refine bC_ (List.flatMap al_ [x.role,x.a,x.b]) d_ rfl ?_;refine Zz 5 ?_;have hB:M=wgL [x.left,x.right]:=by rw[Q,yab_ zaY_]
  refine H_ (ι:={y:Nat×Int // y.1<=List.length [x.role,x.a,x.b]/\y.2=wgL [x.left,x.right]+(List.length x.roles:Int)+wgS (List.take y.1 [x.role,x.a,x.b])}) (λy=>[(1,zp_ J 0),(2,iv_ y.1.2),(11,.slice (some ⟨B,0,none⟩) (List.length [x.left,x.right]) 2),(12,iv_ 2),(13,iv_ i),(36,.slice (some ⟨K,0,none⟩) (List.length [x.role,x.a,x.b]) 3),(37,iv_ 3),(38,iv_ y.1.1)]) (λy=>Pu) (λy=>[ac_ (some ⟨K,0,none⟩) (List.flatMap al_ [x.role,x.a,x.b]),ac_ (some ⟨B,0,none⟩) (List.flatMap Con.cells [x.left,x.right]),Ax.memF x]) (λy=>List.length [x.role,x.a,x.b] - y.1.1) ⟨((0:Nat),(M+(List.length x.roles:Int))),by simp,(by show (M+(List.length x.roles:Int))=_;rw[hB];simp[wgS])⟩ zl d_ zh ?_;rintro ⟨⟨j,S⟩,P,N⟩;dsimp only at P N ⊢;have T:=wgS_bd (List.take j [x.role,x.a,x.b]);have Y:(List.take j [x.role,x.a,x.b]).length<=3:=by rw[yaD_];exact Nat.min_le_right _ _
  refine Zi 2 (λe=>?_) λe=>?_
  .refine Zz 13 ?_
   exact ab_ results126 () (bl_ rfl (by rw[N,Ax.wgt_eq,yab_ zaY_])) g_ zt
  have q:j<List.length [x.role,x.a,x.b]:=by simp only[yal_,yaL_]at *;omega
  obtain⟨V,C⟩:∃ L,[x.role,x.a,x.b][j]? = some L:=⟨_,yaa_ q⟩;refine Zz 11 ?_;refine e_ (bA_ (ad:=(some ⟨K,0,none⟩)) ad_ rfl zf (w_ au_ C 0 _ rfl)) rfl (Zi 6 (λG=>?_) λG=>?_)
  .refine Zz 6 ?_
   refine e_ (aC_ rfl rfl rfl (bq_ zak_ zak_)) rfl ?_;refine Zz 3 ?_;exact u_ ⟨(j+1,S),q,(by show S=_;rw[rR_ C,yao_ G];omega)⟩ zab_ zl d_ zh
  refine Zz 5 ?_;refine e_ (aC_ rfl rfl rfl (bq_ zak_ zak_)) rfl ?_;refine Zz 4 ?_;refine e_ (aC_ rfl rfl rfl (bq_ zak_ zak_)) rfl ?_;refine Zz 3 ?_;exact u_ ⟨(j+1,(S+1)),q,(by show (S+1)=_;rw[rR_ C,yag_ G];omega)⟩ zab_ zl d_ zh
 have m:i<List.length [x.left,x.right]:=by simp only[yal_,yaL_]at *;omega
 obtain⟨E,A⟩:∃ L,[x.left,x.right][i]? = some L:=⟨_,yaa_ m⟩;have d:E∈[x.left,x.right]:=yad_ A;have hcz:=(iZ_ F H I d).2;refine Zz 11 ?_;refine e_ (am_ (ad:=(some ⟨B,0,none⟩)) (us:=Con.cells E) ah_ t_ rfl zf (Con.cells_len _) (w_ Con.cells_len A)) rfl (x_ aF_ rfl λK=>n_ 0 t_ rfl rfl rfl rfl rfl rfl (Zi 6 (λe=>?_) λe=>?_))
 .refine Zz 6 ?_
  refine e_ (aC_ rfl rfl rfl (bq_ zak_ zak_)) rfl ?_;refine Zz 3 ?_;exact u_ ⟨(i+1,M),m,(by show M=_;rw[rS_ A,yao_ e];omega)⟩ zab_ zl (c_ d_) zh
 refine Zz 6 ?_;refine f_ (size_c E (iZ_ F H I d).1 (iZ_ F H I d).2) rfl g_ (λv _ h=>by exact⟨(tu_ h.2.1 d),trivial⟩) rfl λ_=>?_;refine e_ (aC_ rfl rfl rfl (bq_ zak_ zak_)) rfl ?_;refine Zz 4 ?_;refine e_ (aC_ rfl rfl rfl (bq_ zak_ zak_)) rfl ?_;refine Zz 3 ?_;exact u_ ⟨(i+1,(M+(Con.sz E:Int))),m,(by show (M+(Con.sz E:Int))=_;rw[rS_ A,yag_ e];omega)⟩ zab_ zl (c_ d_) zh
theorem mu_ {G:Prop} (h:G:=by
 refine Zz 8 ?_;refine f_ (eq_ x.right y.right C A) rfl g_ (λv _ h=>by exact⟨h.2.1.2.1,h.2.2.1.2.1,trivial⟩) rfl λ_=>Zi 7 (λm=>?_) λm=>?_
 .exact iu_
 refine Zz 10 ?_;exact gz_):G:=h
theorem gz_ {G:Prop} (h:G:=by
 exact ab_ results58 () (bl_ rfl (by unfold Ax.cmp;simp only[orF]at *;(repeat' split)<;>simp_all)) g_ zt):G:=h
theorem iu_ {G:Prop} (h:G:=by
 refine Zz 7 ?_;refine D_ 7 [0,1,2,3,5,6,7,8,10,11,12,13,15,16,17,18] zk zs (Zz 17 ?_);refine p_ 4 rfl zk (f_ (BQ_ x.roles y.roles x.ad y.ad x.cap y.cap (by have:=e.len;have:=e.cap;omega) (by have:=d.len;have:=d.cap;omega)) rfl g_ (λv _ h=>by exact⟨h.2.1.2.2,h.2.2.1.2.2,trivial⟩) rfl λ_=>?_);refine Zz 3 ?_;refine p_ 9 rfl zk (f_ (fB_ x.role y.role) rfl g_ zt rfl λ_=>Zz 3 ?_);refine p_ 14 rfl zk (f_ (fB_ x.a y.a) rfl g_ zt rfl λ_=>Zz 3 ?_);refine p_ 19 rfl zk (f_ (fB_ x.b y.b) rfl g_ zt rfl λ_=>Zz 3 ?_);refine p_ 20 rfl zk (O_ aZ_ ag_ dD_ rfl rfl rfl rfl rfl rfl λq=>?_);refine bC_ (List.flatMap fn_ [(dL_ x.roles y.roles),(Lib.compareBytes x.role y.role),(Lib.compareBytes x.a y.a),(Lib.compareBytes x.b y.b)]) d_ rfl ?_;refine Zz 3 ?_;refine p_ 21 rfl zk (f_ (sy_ [(dL_ x.roles y.roles),(Lib.compareBytes x.role y.role),(Lib.compareBytes x.a y.a),(Lib.compareBytes x.b y.b)] (some ⟨q,0,none⟩) 4 zaj_) rfl g_ zf rfl λ_=>Zz 3 ?_);refine D_ 0 [22] zk zs (Zz 5 ?_);exact gz_):G:=h
theorem rB_ (x y:Ax) (e:x.ok) (d:y.ok) (E:x.left.sz<=1000000) (C:x.right.sz<=1000000) (F:y.left.sz<=1000000) (A:y.right.sz<=1000000):Tri prog 58 #[Ax.val x,Ax.val y] [] [Ax.memF x,Ax.memF y] (λ_:Unit=>iv_ (Ax.cmp x y)) (λ_=>[]) (λ_=>[]):=by
 refine i_ func58 rfl rfl ntmps58 rfl λI=>?_;refine Zz 2 ?_;refine P_ rfl rfl λK=>P_ rfl rfl λJ=>Zz 5 ?_
 refine D_ 7 [0,2,5,6,7,8] zk zs (Zz 7 ?_);refine p_ 1 rfl zk (f_ (rT_ x e E C) rfl g_ zf rfl λ_=>Zz 3 ?_);refine p_ 3 rfl zk (f_ (rT_ y d F A) rfl g_ zf rfl λ_=>Zz 3 ?_);refine p_ 4 rfl zk (f_ (dM_ (Ax.wgt x) (Ax.wgt y)) rfl g_ zt rfl λ_=>Zz 3 ?_);refine p_ 9 rfl zk (f_ (dM_ x.kind y.kind) rfl g_ zt rfl λ_=>Zz 3 ?_);refine p_ 10 rfl zk (O_ aZ_ ag_ dD_ rfl rfl rfl rfl rfl rfl λH=>?_);refine bC_ (List.flatMap fn_ [(Lib.compareInt (Ax.wgt x) (Ax.wgt y)),(Lib.compareInt x.kind y.kind)]) d_ rfl ?_;refine Zz 3 ?_;refine p_ 11 rfl zk (f_ (sy_ [(Lib.compareInt (Ax.wgt x) (Ax.wgt y)),(Lib.compareInt x.kind y.kind)] (some ⟨H,0,none⟩) 2 zaj_) rfl g_ zf rfl λ_=>Zz 3 ?_);refine D_ 0 [12] zk zs (Zi 8 (λG=>?_) λG=>?_)
 .refine Zi 9 (λB=>?_) λB=>?_
  .refine Zi 9 (λm=>?_) λm=>?_
   .exact iu_
   refine Zz 10 ?_;exact gz_
  exact mu_
 refine Zz 8 ?_;refine f_ (eq_ x.left y.left E F) rfl g_ (λv _ h=>by exact⟨h.2.1.1,h.2.2.1.1,trivial⟩) rfl λ_=>Zi 7 (λB=>?_) λB=>?_
 .refine Zi 9 (λm=>?_) λm=>?_
  .exact iu_
  refine Zz 10 ?_;exact gz_
 exact mu_
end Go.Proofs.YtbffkokbdeppaaaGreatDoor
