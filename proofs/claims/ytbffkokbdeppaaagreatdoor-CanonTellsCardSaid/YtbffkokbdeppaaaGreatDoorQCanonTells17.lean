/-
  Lemmas for the law CanonTells (no condition).
-/
import Derived.Test.YtbffkokbdeppaaaGreatDoorQCanonTells16
set_option linter.unusedVariables false
set_option linter.unusedSimpArgs false
set_option linter.unusedSectionVars false
set_option maxHeartbeats 1000000
namespace Go.Proofs.YtbffkokbdeppaaaGreatDoor
open Go Go.Sx Go.Proofs Tryz
attribute [local irreducible] Code.wp wpList wpAnyH
open Go.Vs Go.Shelf Go.RowKit
theorem kp8 {s n:Str} {a:Ax} (h:TyG s n a) (v:s.length<=100) (x:n.length<=100):∀ y e,TyR a (y,e)->e=(0:Int)->∃ q F,y.goalP=(q,F,0)/\q.length<=100000/\(∀ z∈q,z.sm)/\F.length<=100000/\y.check=0/\(y.kind=8\/y.kind=9):=λy e w q=>by
  have m:a.check=0:=ke_ (w.1.symm.trans q);have g:=h.tdy (w.2 q).1;have d:y.check=0:=by rw[<-h.chk g];exact m
  refine⟨_,_,g.goal d,?_,sI_ (by simp[bp_];omega) (by first|omega|(simp[bp_];omega)),by simp,d,.inl g.k⟩;have:=fV_ (-1) [bp_ s,n] [];simp only[yal_,yaL_]at this;omega
theorem kp9 {s t n:Str} {a:Ax} (h:LnG s n t a) (v:s.length<=100) (x:t.length<=100):∀ y e,TyR a (y,e)->e=(0:Int)->∃ q F,y.goalP=(q,F,0)/\q.length<=100000/\(∀ z∈q,z.sm)/\F.length<=100000/\y.check=0/\(y.kind=8\/y.kind=9):=λy e w q=>by
  have m:a.check=0:=ke_ (w.1.symm.trans q);have g:=h.tdy (w.2 q).1;have d:y.check=0:=by rw[<-h.chk g];exact m
  refine⟨_,_,g.goal d,?_,sI_ (by simp[bp_];omega) (by first|omega|(simp[bp_];omega)),by simp,d,.inr g.k⟩;have:=fV_ (-1) [bp_ s,bp_ t] [];simp only[yal_,yaL_]at this;omega
theorem bld_er {X:List Ax} {m:Mdl} {e:Int} (E:BCk X 0) (hl:X.length<=12) (q:∀ x∈X,x.ok) (C:tC_ X m e) (A:e≠0):e=2:=by
 obtain⟨d,_,_,_,v⟩:=pb_ E;have B:=jE_ d;rcases C with⟨h,_⟩|⟨_,_,h⟩
 .exact absurd h A
 rcases h with⟨x,F,h⟩|h|⟨_,c,y⟩
 .exact absurd (B x F) h
 .exact absurd h (Cs_ v rfl)
 unfold dF_ at y;rw[yag_ (by rw[uG_ hl q B];simp),yag_ zaa_]at y;rcases y with⟨h,_⟩|⟨_,h,_⟩
 .exact absurd h A
 rw[h];rfl
theorem hd_ (k lo hi:Int) (n:Str) (v:Vw):(Con.mk k n lo hi none 0 []).mem v:=⟨.inl rfl,trivial⟩
theorem ri_ (m:Mdl) (F:m.ok) (n:Str) (I:n.length<=1000) (b:Nat):Tri prog 26 #[str n,zp_ b 0] [(b,.cells #[.slice (Mdl.noa m) (Mdl.no m).length (Mdl.noc m),.slice (Mdl.tya m) (Mdl.ty m).length (Mdl.tyc m),.slice (Mdl.lia m) (Mdl.li m).length (Mdl.lic m),.slice (Mdl.dia m) (Mdl.di m).length (Mdl.dic m),.slice (Mdl.raa m) (Mdl.ra m).length (Mdl.rac m),.slice (Mdl.roa m) (Mdl.ro m).length (Mdl.roc m)] 52 (0,0))] [pm_ m] (λ_:Unit=>.bool (decide (bp_ n∈Mdl.no m))) (λ_=>[(b,.cells #[.slice (Mdl.noa m) (Mdl.no m).length (Mdl.noc m),.slice (Mdl.tya m) (Mdl.ty m).length (Mdl.tyc m),.slice (Mdl.lia m) (Mdl.li m).length (Mdl.lic m),.slice (Mdl.dia m) (Mdl.di m).length (Mdl.dic m),.slice (Mdl.raa m) (Mdl.ra m).length (Mdl.rac m),.slice (Mdl.roa m) (Mdl.ro m).length (Mdl.roc m)] 52 (0,0))]) (λ_=>[]):=by
 refine i_ func26 rfl rfl ntmps26 rfl λG=>?_;have H:=F.no;refine Zz 15 ?_;refine H_ (ι:={y:Nat // y<=List.length (Mdl.no m)/\bp_ n ∉ List.take y (Mdl.no m)}) (λy=>[(0,str n),(3,.bool false),(7,.slice (Mdl.noa m) (Mdl.no m).length (Mdl.noc m)),(8,iv_ (List.length (Mdl.no m):Int)),(9,iv_ y.1)]) (λy=>((b,.cells #[.slice (Mdl.noa m) (Mdl.no m).length (Mdl.noc m),.slice (Mdl.tya m) (Mdl.ty m).length (Mdl.tyc m),.slice (Mdl.lia m) (Mdl.li m).length (Mdl.lic m),.slice (Mdl.dia m) (Mdl.di m).length (Mdl.dic m),.slice (Mdl.raa m) (Mdl.ra m).length (Mdl.rac m),.slice (Mdl.roa m) (Mdl.ro m).length (Mdl.roc m)] 52 (0,0))::[])) (λy=>[pm_ m]) (λy=>List.length (Mdl.no m) - y.1) ⟨(0:Nat),by simp,zaj_⟩ zl d_ zh ?_;rintro ⟨i,B,C⟩;dsimp only at B C ⊢;refine Zi 2 (λA=>?_) λA=>?_
 .refine Zz 12 ?_
  exact ab_ results26 () (s_ rfl (yaS_ (by rw[yab_ zaa_]at C;exact C)).symm) d_ zt
 obtain⟨v,E,x,h⟩:=zge (show i<List.length (Mdl.no m) by omega);refine Zz 19 ?_;refine e_ (bS_ rfl rfl zan_) rfl ?_;refine e_ (bS_ rfl rfl zan_) rfl ?_;refine Zi 0 (λd=>?_) λd=>?_
 .refine Zz 10 ?_
  exact u_ ⟨i+1,v,(by rw[tk1 x,yah_,yai_];exact λq=>q.elim C λe=>d e.symm)⟩ zab_ zl d_ zh
 refine Zz 9 ?_;exact ab_ results26 () (s_ rfl (yaC_ (by rw[show bp_ n=E from (d).symm];exact h)).symm) d_ zt
theorem cD_ {G:Prop} (h:G:=by
 exact ab_ results5 () rfl g_ zt):G:=h
set_option maxHeartbeats 1000000 in
theorem canonTells_c (ls:List Ax) (lad:Ao) (lcap:Nat) (hcap:ls.length<=lcap/\lcap<=2199023255488) (hok:∀ x∈ls,x.ok) (B K C:Str) (hs1:B.length<=140737488351232) (hs2:K.length<=140737488351232) (hs3:C.length<=140737488351232):Tri prog 5 #[.slice lad ls.length lcap,str B,str K,str C] [] [cG_ lad ls,bN_,hx_] (λ_:Unit=>.bool true) (λ_=>[]) (λ_=>[]):=by
 refine i_ func5 rfl rfl ntmps5 rfl λv_1=>?_;refine Zz 8 ?_;refine f_ (yh_) rfl g_ zf rfl λ_=>e_ (as_ rfl) rfl (Zz 9 ?_)
 refine f_ (BD_ ls lad lcap hcap hok) rfl g_ zf rfl λ⟨fb,hfb⟩=>?_;dsimp only;refine e_ (as_ rfl) rfl (Zz 1 ?_);cases fb
 .refine Zz 19 ?_
  exact cD_
 obtain⟨h_1,hfw⟩:=hfb rfl;refine Zz 3 ?_;refine e_ (ck_ W_ rfl) rfl (Zz 3 ?_);refine e_ (ck_ W_ rfl) rfl (Zz 5 ?_);refine e_ (ck_ W_ rfl) rfl (Zi 3 (λhr_1=>?_) λhr_1=>?_)
 .refine Zz 9 ?_
  refine f_ (wE_ ls lad lcap hok h_1) rfl g_ zf rfl λ⟨⟨X,N,H,e_1⟩,I,hXl,hXb⟩=>?_;dsimp only;try dsimp only at I hXl hXb
  refine Zz 3 ?_;refine x_ zeroValue24 rfl λb_1=>n_ 0 gZ_ rfl rfl rfl rfl rfl rfl (Zi 7 (λS=>?_) λS=>?_)
  .have P:BCk X 0:=hXb (by simpa using S)
   refine Zz 9 ?_;refine f_ (rF_ X N H I zaa_) rfl g_ zf rfl λ⟨⟨m,e_2⟩,Z,E⟩=>?_;dsimp only;dsimp only at Z E;refine Zz 3 ?_;refine x_ jX_ rfl λQ=>n_ 0 bO_ rfl rfl rfl rfl rfl rfl (Zi 7 (λO=>?_) λO=>?_)
   .obtain rfl:e_2=0:=by simpa using O
    refine Zz 9 ?_;refine f_ (rz_ X N H I zaa_) rfl g_ zf rfl λ⟨⟨ok_1,V⟩,T⟩=>?_;dsimp only;try dsimp only at T
    refine Zi 10 (λG=>?_) λG=>?_
    .refine Zz 4 ?_
     refine e_ (as_ rfl) rfl (Zz 3 ?_);cases ok_1
     .refine Zz 7 ?_
      exact cD_
     refine Zz 5 ?_;refine e_ (aY_ rfl rfl) rfl (Zz 8 ?_);refine bh_ (ri_ m E B zaa_ Q) rfl rfl d_ zf rfl λr_1 e=>e_ (as_ rfl) rfl (Zz 1 ?_)
     cases r_1
     .replace e:=zdf e
      refine Zz 12 ?_;refine e_ (bS_ rfl rfl zan_) rfl ?_;refine e_ (bS_ rfl rfl zan_) rfl ?_;refine Zz 1 ?_;refine S_ (hS_ m E (bp_ B) C) rfl g_ zf rfl λU d=>e_ (as_ rfl) rfl (Zz 1 ?_)
      cases U
      .replace d:=zdf d
       refine Zz 8 ?_;exact cD_
      replace d:=zdt d;refine Zz 5 ?_;refine bh_ (ri_ m E B zaa_ Q) rfl rfl d_ zf rfl λR q=>Zz 5 ?_
      exact ab_ results5 () (s_ rfl (absurd d (ycf_ (ct_not Z e)))) g_ zt
     replace e:=zdt e;refine Zz 5 ?_;refine bh_ (ri_ m E K zaa_ Q) rfl rfl d_ zf rfl λU d=>ay_ rfl rfl (e_ (as_ rfl) rfl (Zz 3 ?_))
     cases U
     .replace d:=zdf d
      refine Zz 5 ?_;refine e_ (bS_ rfl rfl zan_) rfl ?_;refine e_ (bS_ rfl rfl zan_) rfl ?_;refine Zz 1 ?_;refine S_ (hS_ m E (bp_ B) C) rfl g_ zf rfl λR q=>e_ (as_ rfl) rfl (Zz 1 ?_)
      cases R
      .replace q:=zdf q
       refine Zz 8 ?_;exact cD_
      replace q:=zdt q;refine Zz 5 ?_;refine bh_ (ri_ m E B zaa_ Q) rfl rfl d_ zf rfl λr_4 F=>Zz 5 ?_
      exact ab_ results5 () (s_ rfl (by rw[<-F];exact yaC_ e)) g_ zt
     replace d:=zdt d;refine Zz 5 ?_;refine D_ 8 [0,1,2] zk zs (Zz 4 ?_);refine p_ 3 rfl zk (f_ (jo_ C) rfl g_ zt rfl λ_=>Zz 3 ?_);refine D_ 6 [4] zk zs (M_ rfl (C_ strt30 rfl rfl) rfl (bs_ (p_ 5 rfl zk (f_ (lJ_ X N H I zaa_ (Ax.mk 8 false (Con.mk 0 [] 0 0 none 0 []) (Con.mk 3 C 0 0 none 0 []) none 0 [] [] B []) zbm_ (kp8 (s:=B) (n:=C) ⟨rfl,rfl,rfl,rfl,rfl,rfl,rfl⟩ zaa_ zaa_)) rfl g_ (λv _ h=>by exact⟨h.2.1,(show Ax.mem (Ax.mk 8 false (Con.mk 0 [] 0 0 none 0 []) (Con.mk 3 C 0 0 none 0 []) none 0 [] [] B []) v from ⟨hd_ ..,hd_ ..,.inl rfl⟩),h.2.2.2.1,h.2.2.2.2.1,trivial⟩) rfl λ⟨⟨bx,e_4⟩,L⟩=>?_))));dsimp only;try dsimp only at L
     refine Zz 3 ?_;refine D_ 0 [6,7,8,9,10] zk zs (Zi 12 (λq=>?_) λq=>?_)
     .refine Zz 21 ?_
      refine e_ (C_ strt30 rfl rfl) rfl (f_ (lJ_ X N H I zaa_ (Ax.mk 9 false (Con.mk 0 [] 0 0 none 0 []) (Con.mk 0 [] 0 0 none 0 []) none 0 [] C B K) zbm_ (kp9 (s:=B) (t:=K) (n:=C) ⟨rfl,rfl,rfl,rfl,rfl,rfl,rfl⟩ zaa_ zaa_)) rfl g_ (λv _ h=>by exact⟨h.2.1,(show Ax.mem (Ax.mk 9 false (Con.mk 0 [] 0 0 none 0 []) (Con.mk 0 [] 0 0 none 0 []) none 0 [] C B K) v from ⟨hd_ ..,hd_ ..,.inl rfl⟩),h.2.2.2.1,h.2.2.2.2.1,trivial⟩) rfl λ⟨⟨M,W⟩,y⟩=>?_);dsimp only;try dsimp only at y
      refine Zi 10 (λF=>?_) λF=>?_
      .refine Zz 8 ?_
       refine e_ (bS_ rfl rfl zan_) rfl ?_;refine ay_ rfl rfl (e_ (bS_ rfl rfl zan_) rfl ?_);refine Zz 5 ?_;refine e_ (bS_ rfl rfl zan_) rfl ?_;refine ay_ rfl rfl (e_ (bS_ rfl rfl zan_) rfl ?_);refine ay_ rfl rfl (S_ (qQ_ m E (bp_ B) C (bp_ K)) rfl g_ zf rfl λR J=>ay_ rfl rfl ?_);refine e_ (ao_ (kz_ gq_ rfl rfl) (show _=Value.bool true from yae_ Value.bool (by rw[(vF_ (x:=M) (r:=C) (a:=(Ax.mk 9 false (Con.mk 0 [] 0 0 none 0 []) (Con.mk 0 [] 0 0 none 0 []) none 0 [] C B K)) P Z zbh_ e d ⟨rfl,rfl,rfl,rfl,rfl,rfl,rfl⟩ (by have A:W=0:=zbg_;rw[A]at y;exact y)),J];simp))) rfl ?_;refine Zz 5 ?_;exact cD_
      refine Zz 17 ?_;exact cD_
     refine Zz 8 ?_;refine e_ (bS_ rfl rfl zan_) rfl ?_;refine ay_ rfl rfl (e_ (bS_ rfl rfl zan_) rfl ?_);refine Zz 3 ?_;refine S_ (hS_ m E (bp_ B) C) rfl g_ zf rfl λR F=>ay_ rfl rfl ?_
     refine e_ (ao_ (xx_ gq_ rfl rfl) (show _=Value.bool false from yae_ Value.bool (by rw[(BL_ (x:=bx) (a:=(Ax.mk 8 false (Con.mk 0 [] 0 0 none 0 []) (Con.mk 3 C 0 0 none 0 []) none 0 [] [] B [])) P Z zbh_ e ⟨rfl,rfl,rfl,rfl,rfl,rfl,rfl⟩ (by have A:e_4=0:=(by simpa using q);rw[A]at L;exact L)),F];simp))) rfl ?_;refine Zz 12 ?_;refine e_ (C_ strt30 rfl rfl) rfl (f_ (lJ_ X N H I zaa_ (Ax.mk 9 false (Con.mk 0 [] 0 0 none 0 []) (Con.mk 0 [] 0 0 none 0 []) none 0 [] C B K) zbm_ (kp9 (s:=B) (t:=K) (n:=C) ⟨rfl,rfl,rfl,rfl,rfl,rfl,rfl⟩ zaa_ zaa_)) rfl g_ (λv _ h=>by exact⟨h.2.1,(show Ax.mem (Ax.mk 9 false (Con.mk 0 [] 0 0 none 0 []) (Con.mk 0 [] 0 0 none 0 []) none 0 [] C B K) v from ⟨hd_ ..,hd_ ..,.inl rfl⟩),h.2.2.2.1,h.2.2.2.2.1,trivial⟩) rfl λ⟨⟨M,W⟩,y⟩=>?_);dsimp only;try dsimp only at y
     refine Zi 10 (λJ=>?_) λJ=>?_
     .refine Zz 8 ?_
      refine e_ (bS_ rfl rfl zan_) rfl ?_;refine ay_ rfl rfl (e_ (bS_ rfl rfl zan_) rfl ?_);refine Zz 5 ?_;refine e_ (bS_ rfl rfl zan_) rfl ?_;refine ay_ rfl rfl (e_ (bS_ rfl rfl zan_) rfl ?_);refine ay_ rfl rfl (S_ (qQ_ m E (bp_ B) C (bp_ K)) rfl g_ zf rfl λr_4 Y=>ay_ rfl rfl ?_);refine e_ (ao_ (kz_ gq_ rfl rfl) (show _=Value.bool true from yae_ Value.bool (by rw[(vF_ (x:=M) (r:=C) (a:=(Ax.mk 9 false (Con.mk 0 [] 0 0 none 0 []) (Con.mk 0 [] 0 0 none 0 []) none 0 [] C B K)) P Z zbh_ e d ⟨rfl,rfl,rfl,rfl,rfl,rfl,rfl⟩ (by have A:W=0:=(by simpa using J);rw[A]at y;exact y)),Y];simp))) rfl ?_;refine Zz 5 ?_;exact cD_
     refine Zz 17 ?_;exact cD_
    refine Zz 13 ?_;exact cD_
   refine Zz 6 ?_;refine E_ (bz_ rfl rfl) rfl λr_1 G=>Zz 4 ?_
   exact ab_ results5 () (s_ rfl (by rw[<-G];exact ycB_.2 (bld_er P zaa_ I Z (by simpa using O)))) g_ zt
  refine Zz 9 ?_;exact cD_
 refine Zz 10 ?_;exact cD_
end Go.Proofs.YtbffkokbdeppaaaGreatDoor
