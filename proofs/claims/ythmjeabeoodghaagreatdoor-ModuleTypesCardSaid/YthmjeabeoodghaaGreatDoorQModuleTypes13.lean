/-
  Lemmas for the law ModuleTypes (no condition).
-/
import Derived.Test.YthmjeabeoodghaaGreatDoorQModuleTypes12
set_option linter.unusedVariables false
set_option linter.unusedSimpArgs false
set_option linter.unusedSectionVars false
set_option maxHeartbeats 1000000
namespace Go.Proofs.YthmjeabeoodghaaGreatDoor
open Go Go.Sx Go.Proofs Tryz
attribute [local irreducible] Code.wp wpList wpAnyH
open Go.Vs
theorem yl_ (d us:List Tre) (ad M:Ao) (cap J:Nat) (S:d.length≤1000000) (R:us.length≤1000000) (T:(∀ t∈d,∀ u∈us,Tri prog 101 #[t.val,u.val] [] [t.memF,u.memF] (fun _:Unit=>.int .i64 (Con.cmp t.con u.con)) (fun _=>[]) (fun _=>[]))):Tri prog 162 #[.slice ad d.length cap,.slice M us.length J,.func (.func 101) #[] #[]] [] [X_ ad (d.flatMap Tre.cells),X_ M (us.flatMap Tre.cells),cN_ d,cN_ us] (fun _:Unit=>.int .i64 (Con.cmp.cmps (d.map Tre.con) (us.map Tre.con))) (fun _=>[]) (fun _=>[]):=by
 refine j_ func162 rfl rfl ntmps162 rfl fun O=>?_;refine Zz 14 ?_;refine O_ (ι:={y:Nat // y≤List.length d∧Con.cmp.cmps (d.map Tre.con) (us.map Tre.con)=Con.cmp.cmps (List.drop y (d.map Tre.con)) (List.drop y (us.map Tre.con))}) (fun y=>[(0,.slice ad d.length cap),(1,.slice M us.length J),(2,.func (.func 101) #[] #[]),(6,.int .i64 0),(11,.slice ad d.length cap),(12,.int .i64 (List.length d:Int)),(13,.int .i64 (y.1:Int))]) (fun y=>([])) (fun y=>[X_ ad (d.flatMap Tre.cells),X_ M (us.flatMap Tre.cells),cN_ d,cN_ us]) (fun y=>d.length - y.1) ⟨(0:Nat),by simp,rfl⟩ zl g_ zh ?_;rintro ⟨i,K,e⟩;dsimp only at K e ⊢;refine Zi 2 (fun I=>?_) fun I=>?_
 ·refine Zi 13 (fun C=>?_) fun C=>?_
  ·refine Zz 11 ?_
   exact aa_ results162 () (be_ rfl (by rw[e];symm;exact Ax_ zar_ zar_)) g_ zt
  refine Zz 9 ?_;exact aa_ results162 () (be_ rfl (by rw[e];symm;exact vr_ zar_ zar_)) g_ zt
 obtain⟨H,L,E,A⟩:=zge (show i<d.length by omega);refine Zz 13 ?_;refine y_ cy_ rfl fun P=>Zz 1 ?_
 refine o_ 0 aJ_ rfl rfl rfl rfl rfl rfl (Zi 8 (fun C=>?_) fun C=>?_)
 ·have F:i<us.length:=by omega
  obtain⟨G,x⟩:∃ N,us[i]? = some N:=⟨_,List.getElem?_eq_getElem F⟩;have m:G∈us:=List.mem_of_getElem? x;refine Zz 11 ?_;refine y_ cy_ rfl fun Q=>o_ 0 aJ_ rfl rfl rfl rfl rfl rfl (Zz 7 ?_)
  refine Z_ (T L A G m) rfl rfl g_ (fun v _ h=>by exact⟨(h.2.2.1 L A),(h.2.2.2.1 G m),trivial⟩) rfl fun _=>Zi 6 (fun B=>?_) fun B=>?_
  ·refine Zz 10 ?_
   exact x_ ⟨i+1,H,(by rw[e,wt_ (by rw[List.getElem?_map,E];rfl) (by rw[List.getElem?_map,x];rfl),if_pos B])⟩ zab_ zl g_ zh
  refine Zz 10 ?_;exact aa_ results162 () (be_ rfl (by rw[e,wt_ (by rw[List.getElem?_map,E];rfl) (by rw[List.getElem?_map,x];rfl),if_neg B])) g_ zt
 refine Zz 9 ?_;exact aa_ results162 () (be_ rfl (by rw[e];symm;exact yh_ zar_ zar_)) g_ zt
theorem lX_:∀ (m:Nat) (t u:Tre),t.con.sz≤m→t.wf→u.wf→t.con.sz≤1000000→u.con.sz≤1000000→Tri prog 101 #[Tre.val t,Tre.val u] [] [Tre.memF t,Tre.memF u] (fun _:Unit=>.int .i64 (Con.cmp t.con u.con)) (fun _=>[]) (fun _=>[]):=by
 intro m
 induction m with
 | zero=>intro t u h;have:=Con.sz_pos t.con;omega
 | succ m ih =>
   intro t u h e F O L;obtain⟨E,A,M⟩:=(Tre.wf_iff t).1 e;obtain⟨B,C,N⟩:=(Tre.wf_iff u).1 F;have H:(Tre.parts t).length≤1000000:=by have q:=congrArg List.length A;rw[List.length_map]at q;have:=Con.parts_lt t.con;omega
   have G:(Tre.parts u).length≤1000000:=by have q:=congrArg List.length C;rw[List.length_map]at q;have:=Con.parts_lt u.con;omega
   refine j_ func101 rfl rfl ntmps101 rfl fun P=>?_;refine Zz 2 ?_;refine K_ rfl rfl fun Q=>K_ rfl rfl fun R=>Zz 5 ?_
   refine D_ 8 [0,1,2,3,5,6,7,8,9,10,12,13,14,15,16,17,19,20,21,22,23,24,26,27,28,29,30,31] zk zs (Zz 29 ?_);refine p_ 4 rfl zk (f_ (ff_ (Tre.size t) (Tre.size u)) rfl g_ zt rfl fun _=>Zz 3 ?_);refine p_ 11 rfl zk (f_ (ff_ (Con.kind (Tre.con t)) (Con.kind (Tre.con u))) rfl g_ zt rfl fun _=>Zz 3 ?_);refine p_ 18 rfl zk (f_ (gM_ (Con.name (Tre.con t)) (Con.name (Tre.con u))) rfl g_ zt rfl fun _=>Zz 3 ?_);refine p_ 25 rfl zk (f_ (ff_ (Con.lo (Tre.con t)) (Con.lo (Tre.con u))) rfl g_ zt rfl fun _=>Zz 3 ?_);refine p_ 32 rfl zk (f_ (ff_ (Con.hi (Tre.con t)) (Con.hi (Tre.con u))) rfl g_ zt rfl fun _=>Zz 3 ?_);refine p_ 33 rfl zk (G_ ap_ P_ bA_ rfl rfl rfl rfl rfl rfl fun I=>?_);refine aq_ (List.flatMap cY_ [(Lib.compareInt (Tre.size t) (Tre.size u)),(Lib.compareInt (Con.kind (Tre.con t)) (Con.kind (Tre.con u))),(Lib.compareBytes (Con.name (Tre.con t)) (Con.name (Tre.con u))),(Lib.compareInt (Con.lo (Tre.con t)) (Con.lo (Tre.con u))),(Lib.compareInt (Con.hi (Tre.con t)) (Con.hi (Tre.con u)))]) d_ rfl ?_;refine Zz 3 ?_;refine p_ 34 rfl zk (f_ (vX_ [(Lib.compareInt (Tre.size t) (Tre.size u)),(Lib.compareInt (Con.kind (Tre.con t)) (Con.kind (Tre.con u))),(Lib.compareBytes (Con.name (Tre.con t)) (Con.name (Tre.con u))),(Lib.compareInt (Con.lo (Tre.con t)) (Con.lo (Tre.con u))),(Lib.compareInt (Con.hi (Tre.con t)) (Con.hi (Tre.con u)))] (some ⟨I,0,none⟩) 5 zaf_) rfl g_ zf rfl fun _=>Zz 3 ?_);refine D_ 0 [35] zk zs (Zi 8 (fun d=>?_) fun d=>?_)
   · refine Zz 11 ?_;refine f_ (yl_ (Tre.parts t) (Tre.parts u) (Tre.ad t) (Tre.ad u) (Tre.cap t) (Tre.cap u) H G (fun x J y K=>ih x y (by have:=(Tre.wf_part e J).2;omega) (Tre.wf_part e J).1 (Tre.wf_part F K).1 (by have:=(Tre.wf_part e J).2;omega) (by have:=(Tre.wf_part F K).2;omega))) rfl g_ (fun v _ h=>by exact⟨((Tre.mem_iff t v).1 h.2.1).2.1,((Tre.mem_iff u v).1 h.2.2.1).2.1,((Tre.mem_iff t v).1 h.2.1).2.2,((Tre.mem_iff u v).1 h.2.2.1).2.2,trivial⟩) rfl fun _=>?_;refine Zz 4 ?_;exact aa_ results101 () (be_ rfl (by rw[qT_,← E,← B,if_pos d,A,C])) g_ zt
   · refine Zz 10 ?_;exact aa_ results101 () (be_ rfl (by rw[qT_,← E,← B,if_neg d])) g_ zt
theorem eE_ (c d:Con) (y:c.sz≤1000000) (x:d.sz≤1000000):Tri prog 47 #[Con.val c,Con.val d] [] [Con.memF c,Con.memF d] (fun _:Unit=>.int .i64 (Con.cmp c d)) (fun _=>[]) (fun _=>[]):=by
  refine j_ func47 rfl rfl ntmps47 rfl fun F=>?_;refine Zz 2 ?_;refine K_ rfl rfl fun C=>K_ rfl rfl fun E=>Zz 5 ?_
  refine D_ 4 [0,2] zk zs (Zz 3 ?_);refine p_ 1 rfl zk (f_ (rI_ _ c (Nat.le_refl _) y) rfl g_ zf rfl fun⟨B,h,m⟩=>?_);dsimp only;refine Zz 3 ?_;refine p_ 3 rfl zk (f_ (rI_ _ d (Nat.le_refl _) x) rfl g_ zf rfl fun⟨A,e,v⟩=>?_);dsimp only;refine Zz 3 ?_;refine p_ 4 rfl zk (f_ (lX_ _ B A (Nat.le_refl _) m v (by rw[h];exact y) (by rw[e];exact x)) rfl g_ zf rfl fun _=>?_);refine Zz 3 ?_;refine D_ 0 [5] zk zs (Zz 5 ?_);exact aa_ results47 () (be_ rfl (by rw[h,e])) g_ zt
theorem sj_ {P:Program} {N:Nf} {fr:Fr} {H:Hp} {Γ:List Fct} {t A ty:TypeId} {x y:Operand} {m n:List UInt8} (h:Fr.ev fr x=some (str m)) (B:Fr.ev fr y=some (str n)):Yld P N fr H Γ (.binOp .gtr t x y A) ty (.bool (decide (n<m))) :=
  fun a v d _ _ _ _ _=>by
    have e:decide (n<m)=!decide (m≤n):=by rw[Bool.eq_iff_iff];simp[List.not_le]
    rw[e,← CA_];simp[execOp,d.ev h,d.ev B,str,eqGuard,binOp,Op.stringOp]
theorem rA_ (s:Str):Fn0 prog 228 #[str s] (.bool false):=by
  refine j_ func228 rfl rfl ntmps228 rfl fun d=>?_;refine Zz 9 ?_;refine e_ (ao_ (dK_ rfl rfl) (show _=Value.bool false from congrArg Value.bool zaf_)) rfl (Zz 4 ?_);exact aa_ results228 () rfl g_ zt
theorem yi_ (x y:Str):Fn0 prog 169 #[str x,str y] (.int .i64 (Lib.compareBytes x y)):=by
 refine j_ func169 rfl rfl ntmps169 rfl fun m=>?_;refine Zz 8 ?_;refine f_ (rA_ x) rfl g_ zt rfl fun _=>Zz 6 ?_
 refine f_ (rA_ y) rfl g_ zt rfl fun _=>Zi 26 (fun e=>?_) fun e=>?_
 ·refine Zz 10 ?_
  refine E_ (sj_ rfl rfl) rfl fun h d=>Zz 2 ?_
  cases h
  ·replace d:=zdf d
   refine Zz 9 ?_;exact aa_ results169 () (be_ rfl (by rw[ji_,if_neg e,if_neg d])) g_ zt
  replace d:=zdt d;refine Zz 7 ?_;exact aa_ results169 () (be_ rfl (by rw[ji_,if_neg e,if_pos d])) g_ zt
 refine Zz 9 ?_;exact aa_ results169 () (be_ rfl (by rw[ji_,if_pos e])) g_ zt
theorem Cu_ (d x:List Str) (ad I:Ao) (cap G:Nat) (hl:d.length≤140737488351232) (hm:x.length≤140737488351232):Tri prog 110 #[.slice ad d.length cap,.slice I x.length G] [] [X_ ad (d.flatMap au_),X_ I (x.flatMap au_)] (fun _:Unit=>.int .i64 (dJ_ d x)) (fun _=>[]) (fun _=>[]):=by
 refine j_ func110 rfl rfl ntmps110 rfl fun L=>?_;refine Zz 14 ?_;refine O_ (ι:={y:Nat // y≤List.length d∧dJ_ d x=dJ_ (d.drop y) (x.drop y)}) (fun y=>[(0,.slice ad d.length cap),(1,.slice I x.length G),(4,.int .i64 0),(9,.slice ad d.length cap),(10,.int .i64 (List.length d:Int)),(11,.int .i64 (y.1:Int))]) (fun y=>([])) (fun y=>[X_ ad (d.flatMap au_),X_ I (x.flatMap au_)]) (fun y=>d.length - y.1) ⟨(0:Nat),by simp,rfl⟩ zl g_ zh ?_;rintro ⟨i,H,e⟩;dsimp only at H e ⊢;refine Zi 2 (fun F=>?_) fun F=>?_
 ·refine Zi 13 (fun v=>?_) fun v=>?_
  ·refine Zz 11 ?_
   exact aa_ results110 () (be_ rfl (by rw[e];symm;exact Ay_ zaa_ zaa_)) g_ zt
  refine Zz 9 ?_;exact aa_ results110 () (be_ rfl (by rw[e];symm;exact vs_ zaa_ zaa_)) g_ zt
 have m:i<d.length:=by omega
 obtain⟨K,B⟩:∃ E,d[i]? = some E:=⟨_,List.getElem?_eq_getElem m⟩;refine Zi 23 (fun v=>?_) fun v=>?_
 ·have C:i<x.length:=by omega
  obtain⟨J,A⟩:∃ E,x[i]? = some E:=⟨_,List.getElem?_eq_getElem C⟩;refine Zz 18 ?_;refine f_ (yi_ K J) rfl g_ zt rfl fun _=>Zi 6 (fun h=>?_) fun h=>?_
  ·refine Zz 10 ?_
   exact x_ ⟨i+1,m,(by rw[e,wu_ B A,if_pos h])⟩ zab_ zl g_ zh
  refine Zz 10 ?_;exact aa_ results110 () (be_ rfl (by rw[e,wu_ B A,if_neg h])) g_ zt
 refine Zz 9 ?_;exact aa_ results110 () (be_ rfl (by rw[e];symm;exact yk_ zaa_ zaa_)) g_ zt
theorem sq_ (x:Ax) (C:x.ok) (J:x.left.sz≤1000000) (I:x.right.sz≤1000000):Tri prog 109 #[Ax.val x] [] [Ax.memF x] (fun _:Unit=>.int .i64 x.wgt) (fun _=>[]) (fun _=>[]):=by
 refine j_ func109 rfl rfl ntmps109 rfl fun V=>?_;have W:=C.cap;refine Zz 2 ?_;refine K_ rfl rfl fun K=>Zz 10 ?_
 refine G_ ab_ n_ aH_ rfl rfl rfl rfl rfl rfl fun E=>?_;refine aq_ (List.flatMap Con.cells [x.left,x.right]) d_ rfl ?_;refine Zz 5 ?_;refine O_ (ι:={y:Nat×Int // y.1≤List.length [x.left,x.right]∧y.2=wgL (List.take y.1 [x.left,x.right])}) (fun y=>[(1,zp_ K 0),(2,.int .i64 y.1.2),(11,.slice (some ⟨E,0,none⟩) (List.length [x.left,x.right]) 2),(12,.int .i64 2),(13,.int .i64 (y.1.1:Int))]) (fun y=>((K,.cells (Ax.cells x).toArray 30 (0,0))::[])) (fun y=>[X_ (some ⟨E,0,none⟩) (List.flatMap Con.cells [x.left,x.right]),Ax.memF x]) (fun y=>List.length [x.left,x.right] - y.1.1) ⟨((0:Nat),0),by simp,(by simp[wgL])⟩ zl d_ zh ?_;rintro ⟨⟨i,M⟩,R,S⟩;dsimp only at R S ⊢;have U:=wgL_bd (l:=List.take i [x.left,x.right]) (fun c Z=>(jl_ C J I (List.mem_of_mem_take Z)).2);have a2:(List.take i [x.left,x.right]).length≤2:=by rw[List.length_take];exact Nat.min_le_right _ _
 refine Zi 2 (fun O=>?_) fun O=>?_
 ·refine Zz 12 ?_
  refine e_ (aI_ rfl rfl rfl (bv_ zag_ zag_)) rfl ?_;refine Zz 12 ?_;refine G_ t_ M_ aw_ rfl rfl rfl rfl rfl rfl fun L=>?_;refine aq_ (List.flatMap au_ [x.role,x.a,x.b]) d_ rfl ?_;refine Zz 5 ?_;have hB:M=wgL [x.left,x.right]:=by rw[S,List.take_of_length_le zaY_]
  refine O_ (ι:={y:Nat×Int // y.1≤List.length [x.role,x.a,x.b]∧y.2=wgL [x.left,x.right]+(List.length x.roles:Int)+wgS (List.take y.1 [x.role,x.a,x.b])}) (fun y=>[(1,zp_ K 0),(2,.int .i64 y.1.2),(11,.slice (some ⟨E,0,none⟩) (List.length [x.left,x.right]) 2),(12,.int .i64 2),(13,.int .i64 (i:Int)),(36,.slice (some ⟨L,0,none⟩) (List.length [x.role,x.a,x.b]) 3),(37,.int .i64 3),(38,.int .i64 (y.1.1:Int))]) (fun y=>((K,.cells (Ax.cells x).toArray 30 (0,0))::[])) (fun y=>[X_ (some ⟨L,0,none⟩) (List.flatMap au_ [x.role,x.a,x.b]),X_ (some ⟨E,0,none⟩) (List.flatMap Con.cells [x.left,x.right]),Ax.memF x]) (fun y=>List.length [x.role,x.a,x.b] - y.1.1) ⟨((0:Nat),(M+(List.length x.roles:Int))),by simp,(by show (M+(List.length x.roles:Int))=_;rw[hB];simp[wgS])⟩ zl d_ zh ?_;rintro ⟨⟨j,T⟩,P,Q⟩;dsimp only at P Q ⊢;have a1:=wgS_bd (List.take j [x.role,x.a,x.b]);have a0:(List.take j [x.role,x.a,x.b]).length≤3:=by rw[List.length_take];exact Nat.min_le_right _ _
  refine Zi 2 (fun e=>?_) fun e=>?_
  ·refine Zz 13 ?_
   exact aa_ results109 () (be_ rfl (by rw[Q,Ax.wgt_eq,List.take_of_length_le zaY_])) g_ zt
  have A:j<List.length [x.role,x.a,x.b]:=by simp only[List.length_cons,List.length_nil]at *;omega
  obtain⟨Y,F⟩:∃ N,[x.role,x.a,x.b][j]? = some N:=⟨_,List.getElem?_eq_getElem A⟩;refine Zz 11 ?_;refine e_ (bP_ (ad:=(some ⟨L,0,none⟩)) ai_ rfl zf (z_ aY_ F 0 _ rfl)) rfl (Zi 6 (fun G=>?_) fun G=>?_)
  ·refine Zz 6 ?_
   refine e_ (aI_ rfl rfl rfl (bv_ zag_ zag_)) rfl ?_;refine Zz 3 ?_;exact x_ ⟨(j+1,T),A,(by show T=_;rw[so_ F,if_pos G];omega)⟩ zab_ zl d_ zh
  refine Zz 5 ?_;refine e_ (aI_ rfl rfl rfl (bv_ zag_ zag_)) rfl ?_;refine Zz 4 ?_;refine e_ (aI_ rfl rfl rfl (bv_ zag_ zag_)) rfl ?_;refine Zz 3 ?_;exact x_ ⟨(j+1,(T+1)),A,(by show (T+1)=_;rw[so_ F,if_neg G];omega)⟩ zab_ zl d_ zh
 have m:i<List.length [x.left,x.right]:=by simp only[List.length_cons,List.length_nil]at *;omega
 obtain⟨H,B⟩:∃ N,[x.left,x.right][i]? = some N:=⟨_,List.getElem?_eq_getElem m⟩;have d:H∈[x.left,x.right]:=List.mem_of_getElem? B;have X:=(jl_ C J I d).2;refine Zz 11 ?_;refine e_ (al_ (ad:=(some ⟨E,0,none⟩)) (us:=Con.cells H) ac_ n_ rfl zf (Con.cells_len _) (z_ Con.cells_len B)) rfl (y_ aH_ rfl fun L=>o_ 0 n_ rfl rfl rfl rfl rfl rfl (Zi 6 (fun e=>?_) fun e=>?_))
 ·refine Zz 6 ?_
  refine e_ (aI_ rfl rfl rfl (bv_ zag_ zag_)) rfl ?_;refine Zz 3 ?_;exact x_ ⟨(i+1,M),m,(by show M=_;rw[sp_ B,if_pos e];omega)⟩ zab_ zl (c_ d_) zh
 refine Zz 6 ?_;refine f_ (size_c H (jl_ C J I d).1 (jl_ C J I d).2) rfl g_ (fun v _ h=>by exact⟨(tZ_ h.2.1 d),trivial⟩) rfl fun _=>?_;refine e_ (aI_ rfl rfl rfl (bv_ zag_ zag_)) rfl ?_;refine Zz 4 ?_;refine e_ (aI_ rfl rfl rfl (bv_ zag_ zag_)) rfl ?_;refine Zz 3 ?_;exact x_ ⟨(i+1,(M+(Con.sz H:Int))),m,(by show (M+(Con.sz H:Int))=_;rw[sp_ B,if_neg e];omega)⟩ zab_ zl (c_ d_) zh
theorem mO_ {G:Prop} (h:G:=by
 refine Zz 8 ?_;refine f_ (eE_ x.right y.right C B) rfl g_ (fun v _ h=>by exact⟨h.2.1.2.1,h.2.2.1.2.1,trivial⟩) rfl fun _=>Zi 7 (fun m=>?_) fun m=>?_
 ·exact iI_
 refine Zz 10 ?_;exact gW_):G:=h
theorem gW_ {G:Prop} (h:G:=by
 exact aa_ results50 () (be_ rfl (by unfold Ax.cmp;simp only[orF]at *;(repeat' split)<;>simp_all)) g_ zt):G:=h
theorem iI_ {G:Prop} (h:G:=by
 refine Zz 7 ?_;refine D_ 7 [0,1,2,3,5,6,7,8,10,11,12,13,15,16,17,18] zk zs (Zz 17 ?_);refine p_ 4 rfl zk (f_ (Cu_ x.roles y.roles x.ad y.ad x.cap y.cap (by have:=d.len;have:=d.cap;omega) (by have:=e.len;have:=e.cap;omega)) rfl g_ (fun v _ h=>by exact⟨h.2.1.2.2,h.2.2.1.2.2,trivial⟩) rfl fun _=>?_);refine Zz 3 ?_;refine p_ 9 rfl zk (f_ (gM_ x.role y.role) rfl g_ zt rfl fun _=>Zz 3 ?_);refine p_ 14 rfl zk (f_ (gM_ x.a y.a) rfl g_ zt rfl fun _=>Zz 3 ?_);refine p_ 19 rfl zk (f_ (gM_ x.b y.b) rfl g_ zt rfl fun _=>Zz 3 ?_);refine p_ 20 rfl zk (G_ ap_ P_ bA_ rfl rfl rfl rfl rfl rfl fun A=>?_);refine aq_ (List.flatMap cY_ [(dJ_ x.roles y.roles),(Lib.compareBytes x.role y.role),(Lib.compareBytes x.a y.a),(Lib.compareBytes x.b y.b)]) d_ rfl ?_;refine Zz 3 ?_;refine p_ 21 rfl zk (f_ (vX_ [(dJ_ x.roles y.roles),(Lib.compareBytes x.role y.role),(Lib.compareBytes x.a y.a),(Lib.compareBytes x.b y.b)] (some ⟨A,0,none⟩) 4 zaf_) rfl g_ zf rfl fun _=>Zz 3 ?_);refine D_ 0 [22] zk zs (Zz 5 ?_);exact gW_):G:=h
theorem wv_ (x y:Ax) (d:x.ok) (e:y.ok) (G:x.left.sz≤1000000) (C:x.right.sz≤1000000) (F:y.left.sz≤1000000) (B:y.right.sz≤1000000):Tri prog 50 #[Ax.val x,Ax.val y] [] [Ax.memF x,Ax.memF y] (fun _:Unit=>.int .i64 (Ax.cmp x y)) (fun _=>[]) (fun _=>[]):=by
 refine j_ func50 rfl rfl ntmps50 rfl fun J=>?_;refine Zz 2 ?_;refine K_ rfl rfl fun K=>K_ rfl rfl fun L=>Zz 5 ?_
 refine D_ 7 [0,2,5,6,7,8] zk zs (Zz 7 ?_);refine p_ 1 rfl zk (f_ (sq_ x d G C) rfl g_ zf rfl fun _=>Zz 3 ?_);refine p_ 3 rfl zk (f_ (sq_ y e F B) rfl g_ zf rfl fun _=>Zz 3 ?_);refine p_ 4 rfl zk (f_ (ff_ (Ax.wgt x) (Ax.wgt y)) rfl g_ zt rfl fun _=>Zz 3 ?_);refine p_ 9 rfl zk (f_ (ff_ x.kind y.kind) rfl g_ zt rfl fun _=>Zz 3 ?_);refine p_ 10 rfl zk (G_ ap_ P_ bA_ rfl rfl rfl rfl rfl rfl fun I=>?_);refine aq_ (List.flatMap cY_ [(Lib.compareInt (Ax.wgt x) (Ax.wgt y)),(Lib.compareInt x.kind y.kind)]) d_ rfl ?_;refine Zz 3 ?_;refine p_ 11 rfl zk (f_ (vX_ [(Lib.compareInt (Ax.wgt x) (Ax.wgt y)),(Lib.compareInt x.kind y.kind)] (some ⟨I,0,none⟩) 2 zaf_) rfl g_ zf rfl fun _=>Zz 3 ?_);refine D_ 0 [12] zk zs (Zi 8 (fun H=>?_) fun H=>?_)
 ·refine Zi 9 (fun E=>?_) fun E=>?_
  ·refine Zi 9 (fun m=>?_) fun m=>?_
   ·exact iI_
   refine Zz 10 ?_;exact gW_
  exact mO_
 refine Zz 8 ?_;refine f_ (eE_ x.left y.left G F) rfl g_ (fun v _ h=>by exact⟨h.2.1.1,h.2.2.1.1,trivial⟩) rfl fun _=>Zi 7 (fun E=>?_) fun E=>?_
 ·refine Zi 9 (fun m=>?_) fun m=>?_
  ·exact iI_
  refine Zz 10 ?_;exact gW_
 exact mO_
theorem kR_ {a b:Str} (h:str a=str b):a=b:=by
  have d:=congrArg (fun z:ByteArray=>z.data.toList) (Value.string.inj h);simpa using d
def ug_ (P:Program) (gf:FuncId) (caps:List Value) (Hc:Hp) (Rc:List Str→Prop):Prop:=∀ {σ:Type} (l:Nat) (Gj:σ→Hp) (lst:σ→List Str),(∀ s x,(lst s).length<100000000→jr_ P l (str x) (Gj s) [] (fun _:{s':σ // lst s'=lst s++[x]}=>.bool true) (fun s'=>Gj s'.1) (fun _=>[]))→∀ s0,lst s0=[] →
  Tri P gf (.func (.yield l) #[] #[]::caps).toArray (Hc++Gj s0) [] (fun _:{s':σ // Rc (lst s')}=>.tuple #[]) (fun s'=>Hc++Gj s'.1) (fun _=>[])
theorem BL_ {C Q:Hp} {c d e:Nat×Obj}:(C++(c::Q)++[d,e]).Perm (e::(C++(c::(Q++[d])))):=by
  have h:C++(c::Q)++[d,e]=(C++(c::(Q++[d])))++[e]:=by simp
  rw[h];exact List.perm_append_comm
theorem pf_D10 {C Q:Hp} {c d:Nat×Obj}:(C++(c::(Q++[d]))).Perm ((C++Q)++[c,d]):=by
  have e:(C++Q)++[c,d]=C++((Q++[c])++[d]):=by simp
  rw[e];exact List.Perm.append_left C (List.Perm.append_right [d] (show ([c]++Q).Perm _ from List.perm_append_comm))
theorem wU_ {L q:List Str} (h:L.Perm q) (m:q.Nodup):bJ_ L=bJ_ q:=by
 have strict:∀ l:List Str,l.Nodup→SrS (bJ_ l):=fun l hl=>by
   have e:=kT_ l;have d:(bJ_ l).Nodup:=(List.mergeSort_perm _ _).nodup_iff.2 hl;unfold List.Nodup at d;refine List.Pairwise.imp (fun {a b} hab=>?_) (e.and d)
   by_cases g:a<b
   · exact g
   · exact absurd (List.le_antisymm hab.1 (List.not_lt.1 g)) hab.2
 exact vL_ (strict L (h.nodup_iff.2 m)) (strict q m) fun x=>by rw[List.mem_mergeSort,List.mem_mergeSort,h.mem_iff]
theorem zS_ {σ:Type} {l:Nat} {H:σ→Hp} {lst:σ→List Str} (S:∀ s x,(lst s).length<100000000→jr_ prog l (str x) (H s) [] (fun _:{A:σ // lst A=lst s++[x]}=>.bool true) (fun A=>H A.1) (fun _=>[])) (L:σ) (O:lst L=[]) (B G c:Nat) (es:Array MapEntry) (q:List Str) (hE:KeyE str es q) (hB:Born es c) (W:q.length≤100000000):Tri prog 122 #[.func (.yield l) #[] #[],zp_ G 0] ((G,.cells #[.map (some B)] 101 (0,0))::(B,.map es c)::H L) [] (fun _:{A:σ // (lst A).Perm q}=>.tuple #[]) (fun A=>(G,.cells #[.map (some B)] 101 (0,0))::(B,.map es c)::H A.1) (fun _=>[]):=by
 refine j_ func122 rfl rfl ntmps122 rfl fun R=>?_;refine Zz 3 ?_;refine qp_ 1 underlying101 rfl rfl rfl fun J=>Zz 3 ?_
 refine O_ (ι:={y:List Str×Array Nat×Nat×σ // ItS str es y.2.1 y.1∧c≤y.2.2.1∧lst y.2.2.2=y.1∧(∀ z∈y.1,z∈q)}) (fun y=>[(0,.func (.yield l) #[] #[]),(1,zp_ G 0),(5,zp_ J 0)]) (fun y=>((J,.mapIter (some B) c y.1.2.1 y.1.2.2.1)::((G,.cells #[.map (some B)] 101 (0,0))::((B,.map es c)::(H y.1.2.2.2))))) (fun y=>[]) (fun y=>q.length - y.1.1.length) ⟨([],#[],c,L),ItS.nil,Nat.le_refl _,O,by simp⟩ zl zp zt ?_;rintro ⟨⟨done,E,T,s⟩,M,I,C,h⟩;dsimp only at M I C h ⊢;refine Zz 2 ?_;refine tb_ 0 2 rfl rfl rfl hB.lt I rfl (fun N=>?_) (fun e U=>?_)
 ·refine Zz 7 ?_
  exact ck_ results122 ⟨s,by rw[C];exact M.endK (fun _ _=>kR_) hE N⟩ rfl zp zt
 obtain⟨k,F,V,P,Q,v⟩:=M.stepK (fun _ _=>kR_) hE hB U;refine Zz 10 ?_;refine e_ (ao_ (pS_ 0 2 rfl rfl rfl Q hB) (show _=Value.tuple #[str k,e.val] by rw[P])) rfl (Zz 5 ?_);refine hu_ (ι:={A:σ // lst A=lst s++[k]}) (fun _=>[(0,.func (.yield l) #[] #[]),(1,zp_ G 0),(5,zp_ J 0),(13,.bool false)]) (fun z=>((J,.mapIter (some B) c (E.push e.born) c)::((G,.cells #[.map (some B)] 101 (0,0))::((B,.map es c)::(H z.1))))) (fun _=>[]) ?_ ?_
 ·refine av_ ?_
  refine I_ aM_ (S_ rfl) rfl rfl ?_;refine I_ aM_ (S_ rfl) rfl rfl ?_;refine gC_ (S s k zaD_) rfl rfl (c_ (c_ C_)) zt rfl fun z=>?_;refine I_ aM_ (aR_ rfl) rfl rfl ?_;refine bh_ ?_;refine cg_ rfl ?_;exact dB_ z zl zp zh
 rintro ⟨A,K⟩;dsimp only;refine Zz 4 ?_;exact x_ ⟨(done++[k],E.push e.born,c,A),v,Nat.le_refl _,by rw[K,C],fun z d=>by rcases List.mem_append.1 d with d|d;exact h z d;rw[List.mem_singleton]at d;exact d▸F⟩ zay_ zl (i_ d_ (i_ d_ (i_ d_ aj_))) zt
theorem li_ (d h c:Nat) (es:Array MapEntry) (q:List Str) (hE:KeyE str es q) (hB:Born es c) (m:q.length≤100000000):ug_ prog 122 [zp_ h 0] [(h,.cells #[.map (some d)] 101 (0,0)),(d,.map es c)] (fun L=>L.Perm q) :=
  fun l y lst v x e=>zS_ v x e d h c es q hE hB m
theorem ld_ (e:Nat):Tri prog 57 #[.map (some e)] [] [] (fun d:Nat=>.func (.func 122) #[] #[zp_ d 0]) (fun d=>[(d,.cells #[.map (some e)] 101 (0,0))]) (fun _=>[]):=by
  refine j_ func57 rfl rfl ntmps57 rfl fun m=>?_;refine Zz 2 ?_;refine K_ rfl rfl fun h=>Zz 5 ?_
  refine e_ (bm_ rfl rfl) rfl (Zz 4 ?_);exact aa_ results57 h rfl (F:=[]) (.refl _) zt
theorem zR_ {σ:Type} {l:Nat} {H:σ→Hp} {lst:σ→List Str} (S:∀ s x,(lst s).length<100000000→jr_ prog l (str x) (H s) [] (fun _:{A:σ // lst A=lst s++[x]}=>.bool true) (fun A=>H A.1) (fun _=>[])) (L:σ) (O:lst L=[]) (B G c:Nat) (es:Array MapEntry) (q:List Str) (hE:KeyE str es q) (hB:Born es c) (W:q.length≤100000000):Tri prog 230 #[.func (.yield l) #[] #[],zp_ G 0] ((G,.cells #[.map (some B)] 171 (0,0))::(B,.map es c)::H L) [] (fun _:{A:σ // (lst A).Perm q}=>.tuple #[]) (fun A=>(G,.cells #[.map (some B)] 171 (0,0))::(B,.map es c)::H A.1) (fun _=>[]):=by
 refine j_ func230 rfl rfl ntmps230 rfl fun R=>?_;refine Zz 3 ?_;refine qp_ 1 underlying171 rfl rfl rfl fun J=>Zz 3 ?_
 refine O_ (ι:={y:List Str×Array Nat×Nat×σ // ItS str es y.2.1 y.1∧c≤y.2.2.1∧lst y.2.2.2=y.1∧(∀ z∈y.1,z∈q)}) (fun y=>[(0,.func (.yield l) #[] #[]),(1,zp_ G 0),(5,zp_ J 0)]) (fun y=>((J,.mapIter (some B) c y.1.2.1 y.1.2.2.1)::((G,.cells #[.map (some B)] 171 (0,0))::((B,.map es c)::(H y.1.2.2.2))))) (fun y=>[]) (fun y=>q.length - y.1.1.length) ⟨([],#[],c,L),ItS.nil,Nat.le_refl _,O,by simp⟩ zl zp zt ?_;rintro ⟨⟨done,E,T,s⟩,M,I,C,h⟩;dsimp only at M I C h ⊢;refine Zz 2 ?_;refine tb_ 0 2 rfl rfl rfl hB.lt I rfl (fun N=>?_) (fun e U=>?_)
 ·refine Zz 7 ?_
  exact ck_ results230 ⟨s,by rw[C];exact M.endK (fun _ _=>kR_) hE N⟩ rfl zp zt
 obtain⟨k,F,V,P,Q,v⟩:=M.stepK (fun _ _=>kR_) hE hB U;refine Zz 10 ?_;refine e_ (ao_ (pS_ 0 2 rfl rfl rfl Q hB) (show _=Value.tuple #[str k,e.val] by rw[P])) rfl (Zz 5 ?_);refine hu_ (ι:={A:σ // lst A=lst s++[k]}) (fun _=>[(0,.func (.yield l) #[] #[]),(1,zp_ G 0),(5,zp_ J 0),(13,.bool false)]) (fun z=>((J,.mapIter (some B) c (E.push e.born) c)::((G,.cells #[.map (some B)] 171 (0,0))::((B,.map es c)::(H z.1))))) (fun _=>[]) ?_ ?_
 ·refine av_ ?_
  refine I_ aM_ (S_ rfl) rfl rfl ?_;refine I_ aM_ (S_ rfl) rfl rfl ?_;refine gC_ (S s k zaD_) rfl rfl (c_ (c_ C_)) zt rfl fun z=>?_;refine I_ aM_ (aR_ rfl) rfl rfl ?_;refine bh_ ?_;refine cg_ rfl ?_;exact dB_ z zl zp zh
 rintro ⟨A,K⟩;dsimp only;refine Zz 4 ?_;exact x_ ⟨(done++[k],E.push e.born,c,A),v,Nat.le_refl _,by rw[K,C],fun z d=>by rcases List.mem_append.1 d with d|d;exact h z d;rw[List.mem_singleton]at d;exact d▸F⟩ zay_ zl (i_ d_ (i_ d_ (i_ d_ aj_))) zt
theorem Ca_ (d h c:Nat) (es:Array MapEntry) (q:List Str) (hE:KeyE str es q) (hB:Born es c) (m:q.length≤100000000):ug_ prog 230 [zp_ h 0] [(h,.cells #[.map (some d)] 171 (0,0)),(d,.map es c)] (fun L=>L.Perm q) :=
  fun l y lst v x e=>zR_ v x e d h c es q hE hB m
theorem BV_ (e:Nat):Tri prog 171 #[.map (some e)] [] [] (fun d:Nat=>.func (.func 230) #[] #[zp_ d 0]) (fun d=>[(d,.cells #[.map (some e)] 171 (0,0))]) (fun _=>[]):=by
  refine j_ func171 rfl rfl ntmps171 rfl fun m=>?_;refine Zz 2 ?_;refine K_ rfl rfl fun h=>Zz 5 ?_
  refine e_ (bm_ rfl rfl) rfl (Zz 4 ?_);exact aa_ results171 h rfl (F:=[]) (.refl _) zt
theorem zv_ {C Q G:Hp} {c:Nat×Obj}:(C++(c::Q)++G).Perm (c::(C++(Q++G))):=by
  have d:C++(c::Q)++G=C++([c]++(Q++G)):=by simp
  rw[d,← List.append_assoc];exact List.Perm.append_right (Q++G) (List.perm_append_comm (l₁:=C) (l₂:=[c])) |>.trans zaf_
theorem yr_ (V:FuncId) (caps:List Value) (Hc:Hp) (Rc:List Str→Prop) (P:ug_ prog V caps Hc Rc):Tri prog 187 #[.slice none 0 0,.func (.func V) #[] caps.toArray] Hc [] (fun y:{y:Value×Hp×List Str // az_ 9 1 y.1 y.2.2.length (y.2.2.flatMap au_) y.2.1∧Rc y.2.2}=>y.1.1) (fun y=>Hc++y.1.2.1) (fun _=>[]):=by
 refine em_ func187 rfl rfl ntmps187 rfl fun I=>?_;refine Zz 2 ?_;refine K_ rfl rfl fun d=>Zz 10 ?_
 refine bt_ [(2,zp_ d 0),(6,.func (.func V) #[] caps.toArray)] zl ?_;refine uw_ (σ:={y:Value×Hp×List Str // az_ 9 1 y.1 y.2.2.length (y.2.2.flatMap au_) y.2.1}) (α:=Str) (xv:=fun x=>str x) (good:=fun s _=>s.1.2.2.length<100000000) (nx:=fun x s U=>U.1.2.2=s.1.2.2++[x]) (Rc:=fun s=>Rc s.1.2.2) (Γi:=[]) (Hj:=fun y=>(d,.cells #[y.1.1] 25 (0,0))::y.1.2.1) (Hc:=Hc) (caps:=caps) ⟨(.slice none 0 0,[],[]),az_.nil _ _⟩ rfl (@List.perm_append_comm _ [_] _) zt ?_ ?_ ?_
 ·rintro l D rec R T N ht K B ⟨⟨sv,m,L⟩,C⟩ x M
  dsimp only at C M ⊢;refine iL_ (ι:=Unit) (Hj:=fun y:{y:Value×Hp×List Str // az_ 9 1 y.1 y.2.2.length (y.2.2.flatMap au_) y.2.1}=>(d,.cells #[y.1.1] 25 (0,0))::y.1.2.1) (s:=⟨(sv,m,L),C⟩) (ok:=fun U=>U.1.2.2=L++[x]) (Γ:=[]) (fun _=>[(2,zp_ d 0),(5,str x)]) (fun _=>(d,.cells #[sv] 25 (0,0))::m) R T N ht rfl ?_ ?_
  ·intro n I O Q
   rw[K];dsimp only;refine dA_.2 (A_ (H':=(d,.cells #[sv] 25 (0,0))::(m++Q)) zaf_ (dA_.1 ?_));refine av_ ?_;refine I_ (J_ _) (af_ rfl) rfl rfl ?_;refine bh_ ?_;refine cg_ rfl ?_;exact dB_ () zl (F:=[]) zaA_ zh
  intro n I O Q _;rw[B];refine dA_.2 (A_ (H':=(d,.cells #[sv] 25 (0,0))::(m++Q)) zaf_ (dA_.1 ?_));refine dp_ ?_;refine av_ ?_;refine I_ (J_ _) (bd_ 0 isAgg25 rfl rfl rfl) rfl rfl ?_;refine I_ (J_ _) (S_ rfl) rfl rfl ?_;refine qs_ (J_ _) t_ M_ aw_ rfl rfl rfl rfl rfl rfl fun b_2=>?_;refine na_ (J_ _) (news:=List.flatMap au_ [x]) es_ C rfl rfl zp rfl (bz_ 0 rfl) (fun u Y=>bn_ dx_ Y) zan_ zaa_ rfl fun E J H=>?_;have A:=zsa H;refine fP_ (R_ (l_ d_) (bg_ (l_ d_))) ?_;refine jV_ (J_ _) 1 A dX_ rfl rfl rfl rfl ?_;refine bh_ ?_;refine cg_ rfl ?_;exact ko_ ⟨(E,J,(L++[x])),A⟩ rfl (uH_ (i_ (c_ d_) (B_ (c_ w_) (B_ C_ d_))))
 ·intro l X Z
  exact P l X (fun y=>y.1.2.2) (fun s x h=>Z s x h) ⟨(.slice none 0 0,[],[]),az_.nil _ _⟩ rfl
 rintro ⟨⟨sv,m,L⟩,C⟩ W D l r;dsimp only at W C ⊢;refine cI_ (H':=(d,.cells #[sv] 25 (0,0))::(Hc++(m++HLp l D r))) (F:=[]) (by rw[List.append_nil];exact zv_) zh ?_;refine bF_ rfl ?_;refine cw_ ?_;refine av_ ?_;refine I_ aM_ (bd_ 0 isAgg25 rfl rfl rfl) rfl rfl ?_;refine I_ aM_ (af_ rfl) rfl rfl ?_;refine bh_ ?_;refine bF_ rfl ?_;refine hv_ ?_;exact sL_ (G:=Hc++((d,.cells #[sv] 25 (0,0))::(m++[(l,.loop r)]))) ⟨(sv,m,L),C,W⟩ (fun a v S h_2=>by have e:=S.val 4 sv rfl;simp[results,results187,e]) (zv_.symm.trans (by unfold HLp;exact BL_)) ⟨_,pf_D10⟩ rfl
theorem vp_ (x:FuncId) (caps:List Value) (Hc:Hp) (Rc:List Str→Prop) (A:ug_ prog x caps Hc Rc):Tri prog 121 #[.func (.func x) #[] caps.toArray] Hc [] (fun y:{y:Value×Hp×List Str // az_ 9 1 y.1 y.2.2.length (y.2.2.flatMap au_) y.2.1∧Rc y.2.2}=>y.1.1) (fun y=>Hc++y.1.2.1) (fun _=>[]):=by
  refine j_ func121 rfl rfl ntmps121 rfl fun B=>?_;refine Zz 8 ?_;refine f_ (yr_ x caps Hc Rc A) rfl aj_ zt rfl fun⟨⟨h,m,v⟩,e,d⟩=>?_;dsimp only;dsimp only at e d ⊢;simp only[List.append_assoc,List.append_nil];refine Zz 4 ?_;exact aa_ results121 ⟨(h,m,v),e,d⟩ rfl zp zt
theorem gm_ (J:FuncId) (caps:List Value) (Hc:Hp) (q:List Str) (I:q.Nodup) (O:q.length≤100000000) (K:ug_ prog J caps Hc (fun L=>L.Perm q)):Tri prog 56 #[.func (.func J) #[] caps.toArray] Hc [] (fun y:{y:Ao×Nat // (bJ_ q).length≤y.2∧y.2≤maxLen∧(y.1=none→y.2=0)}=>.slice y.1.1 (bJ_ q).length y.1.2) (fun _=>Hc) (fun y=>[X_ y.1.1 ((bJ_ q).flatMap au_)]):=by
  refine j_ func56 rfl rfl ntmps56 rfl fun N=>?_;refine Zz 8 ?_;refine f_ (vp_ J caps Hc (fun L=>L.Perm q) K) rfl aj_ zt rfl fun⟨⟨A,M,G⟩,v,d⟩=>?_;dsimp only;dsimp only at v d ⊢;simp only[List.append_assoc,List.append_nil];refine Zz 6 ?_;refine f_ (rm_ v (by have:=d.length_eq;omega)) rfl bi_ zt rfl fun⟨F,B⟩=>?_;dsimp only;have H:az_ 9 1 A (List.length (bJ_ q)) (List.flatMap au_ (bJ_ q)) F:=by rw[← wU_ d I,show (bJ_ G).length=G.length from List.length_mergeSort _];exact B
  refine Zz 9 ?_;refine bL_ H w_ fun C E x h m e=>?_;exact aa_ results56 ⟨(C,E),h,m,e⟩ (ea_ rfl x) aj_ zf
theorem strt91:gQ_ prog 91 [(0,16)] [.int .i64 0,.bool false,.int .i64 0,str [],.int .i64 0,.int .i64 0,.slice none 0 0,.int .i64 0,str [],.int .i64 0,.int .i64 0,.slice none 0 0,.slice none 0 0,str [],str [],str []]:=⟨_,zeroValue91,runUnderlying91,fun w=>by simp[H_]⟩
def pln (x:Ax):Prop:=x.kind=1∧x.left.kind=3∧x.right.kind=3
theorem qW_ {x:Ax} (d:x.ok) (e:x.check=0):Tri prog 45 #[x.val] [] [x.memF,bN_] (fun _:Unit=>.int .i64 0) (fun _=>[]) (fun _=>[]):=by
  have h:=gh_ x d;rw[e]at h;exact h
theorem CH_ (x y:Ax) (m:x.ok) (A:y.ok) (e:x.left.sz≤1000000) (d:x.right.sz≤1000000) (h:y.left.sz≤1000000) (v:y.right.sz≤1000000):Tri prog 106 #[.agg #[.int .i64 x.kind,.bool x.opn,.int .i64 x.left.kind,str x.left.name,.int .i64 x.left.lo,.int .i64 x.left.hi,.slice x.left.ad x.left.parts.length x.left.cap,.int .i64 x.right.kind,str x.right.name,.int .i64 x.right.lo,.int .i64 x.right.hi,.slice x.right.ad x.right.parts.length x.right.cap,.slice x.ad x.roles.length x.cap,str x.role,str x.a,str x.b],Ax.val y] [] [Ax.memF x,Ax.memF y] (fun _:Unit=>.bool (Ax.cmp x y==0)) (fun _=>[]) (fun _=>[]):=by
  refine j_ func106 rfl rfl ntmps106 rfl fun G=>?_;refine Zz 2 ?_;refine K_ rfl rfl fun C=>K_ rfl rfl fun E=>Zz 8 ?_
  refine f_ (wv_ x y m A e d h v) rfl g_ zf rfl fun _=>E_ (aT_ rfl rfl) rfl fun F B=>Zz 4 ?_
  exact aa_ results106 () (s_ rfl (by rw[← B])) g_ zt
theorem Ck_ (x y:Ax) (v:x.ok) (B:y.ok) (h:x.left.sz≤1000000) (e:x.right.sz≤1000000) (m:y.left.sz≤1000000) (A:y.right.sz≤1000000):Tri prog 49 #[.agg #[.int .i64 x.kind,.bool x.opn,.int .i64 x.left.kind,str x.left.name,.int .i64 x.left.lo,.int .i64 x.left.hi,.slice x.left.ad x.left.parts.length x.left.cap,.int .i64 x.right.kind,str x.right.name,.int .i64 x.right.lo,.int .i64 x.right.hi,.slice x.right.ad x.right.parts.length x.right.cap,.slice x.ad x.roles.length x.cap,str x.role,str x.a,str x.b],Ax.val y] [] [Ax.memF x,Ax.memF y] (fun _:Unit=>.bool ((x.opn==y.opn)&&(Ax.cmp x y==0))) (fun _=>[]) (fun _=>[]):=by
 refine j_ func49 rfl rfl ntmps49 rfl fun I=>?_;refine Zz 2 ?_;refine K_ rfl rfl fun G=>K_ rfl rfl fun H=>Zz 10 ?_
 refine E_ (sn_ kj_ rfl rfl) rfl fun E d=>Zz 1 ?_
 cases E
 ·refine Zz 8 ?_
  exact aa_ results49 () (s_ rfl zaT_) g_ zt
 refine Zz 5 ?_;refine an_ (CH_ x y v B h e m A) rfl g_ zf rfl fun F C=>Zz 5 ?_
 exact aa_ results49 () (s_ rfl (by rw[← C];simp[d])) g_ zt
def vN_ (x:Ax):Bool:=(x.kind==5)||(x.kind==6)||(x.kind==7)
theorem iJ_ {G:Prop} (h:G:=by
 exact aa_ results51 () (s_ rfl (by unfold vN_;simp_all)) g_ zt):G:=h
theorem vy_ (x:Ax):Fn0 prog 51 #[Ax.val x] (.bool (vN_ x)):=by
 refine j_ func51 rfl rfl ntmps51 rfl fun v=>?_;refine Zz 2 ?_;refine K_ rfl rfl fun m=>Zi 7 (fun e=>?_) fun e=>?_
 ·refine Zi 6 (fun d=>?_) fun d=>?_
  ·refine Zz 7 ?_
   refine E_ (aT_ rfl rfl) rfl fun y h=>Zz 5 ?_
   exact iJ_
  refine Zz 10 ?_;exact iJ_
 refine Zz 14 ?_;exact iJ_
structure PL where
  l:List Pc
  ad:Ao
  cap:Nat
def PL.cells (x:PL):List Value:=[.slice x.ad x.l.length x.cap]
theorem PL.cells_len (x:PL):x.cells.length=1:=rfl
structure PL.ok (x:PL):Prop where
  le:x.l.length≤x.cap
  nz:x.ad=none→x.cap=0
  sh:x.l.length≤100000
def plF (xs:List PL):Fct where
  p v:=∀ x∈xs,bY_ v x.ad (x.l.flatMap Pc.cells)
  mono:=fun v v' h hp x hx=>(X_ x.ad (x.l.flatMap Pc.cells)).mono v v' h (hp x hx)
def ha_ (xs:List PL):List Pc:=List.flatMap PL.l xs
theorem uG_ {xs:List PL} {i:Nat} {x:PL} (h:xs[i]? = some x):ha_ (xs.take (i+1))=ha_ (xs.take i)++x.l:=by unfold ha_;rw[List.take_add_one,h];simp
theorem xr_ {xs:List PL} (h:∀ x∈xs,x.ok) (i:Nat):(ha_ (xs.take i)).length≤min i xs.length*100000:=by
  have:=CT_ (g:=PL.l) (n:=100000) (xs.take i) fun x d=>(h x (List.mem_of_mem_take d)).sh
  rwa [List.length_take]at this
theorem Cf_ (n:Nat) (A:n≤1000000000):Tri prog 78 #[.slice none 0 0,.int .i64 (n:Int)] [] [] (fun y:{y:Value×Hp // az_ 76 10 y.1 0 [] y.2}=>y.1.1) (fun y=>y.1.2) (fun _=>[]):=by
 refine j_ func78 rfl rfl ntmps78 rfl fun x=>?_;refine Zi 9 (fun d=>?_) fun d=>?_
 ·refine Zz 10 ?_
  refine e_ (sl_ F_ rfl) rfl (Zz 3 ?_);refine e_ (ao_ (aI_ rfl rfl rfl (bv_ zaa_ zaa_)) (show Value.int .i64 ((n:Int) - (0 - 0))=Value.int .i64 (n:Int) from congrArg _ zaa_)) rfl (Zi 6 (fun e=>?_) fun e=>?_)
  ·refine Zz 12 ?_
   exact aa_ results78 ⟨(.slice none 0 0,[]),az_.nil _ _⟩ rfl g_ zt
  refine Zz 6 ?_;refine e_ (sl_ F_ rfl) rfl (e_ (ao_ (dH_ (i:=0) (j:=0) (kl:=.i64) (kh:=.i64) F_ L_ rfl rfl rfl zaa_ zaa_) (show _=Value.slice none 0 0 from rfl)) rfl (Zz 1 ?_));refine td_ (n:=n) vm_ m_ rfl rfl zaa_ zaa_ zan_ rfl fun m h v=>?_;refine Zz 2 ?_;refine e_ (ao_ (dH_ (i:=0) (j:=0) (kl:=.i64) (kh:=.i64) F_ L_ rfl rfl rfl zaa_ zaa_) (show _=Value.slice (some ⟨h,0,none⟩) 0 m.1 by simp[sF_])) rfl (Zz 10 ?_);exact aa_ results78 ⟨(.slice (some ⟨h,0,none⟩) 0 m.1,[(h,.cells m.2 76 (0,0))]),wV_ v.2.1 v.2.2⟩ rfl d_ zt
 exfalso;omega
theorem tS_ (xs:List PL) (C:Ao) (A:Nat) (B:∀ x∈xs,x.ok) (hl:xs.length≤100):Tri prog 39 #[.slice C xs.length A] [] [X_ C (xs.flatMap PL.cells),plF xs] (fun y:{y:Ao×Nat // ((ha_ xs)).length≤y.2∧y.2≤maxLen∧(y.1=none→y.2=0)}=>.slice y.1.1 ((ha_ xs)).length y.1.2) (fun _=>[]) (fun y=>[X_ y.1.1 (((ha_ xs)).flatMap Pc.cells)]):=by
 refine j_ func39 rfl rfl ntmps39 rfl fun Y=>?_;refine Zz 19 ?_;refine O_ (ι:={y:Nat×Nat // y.1≤List.length xs∧y.2≤y.1*100000}) (fun y=>[(0,.slice C xs.length A),(3,.int .i64 (y.1.2:Int)),(9,.slice C xs.length A),(10,.int .i64 (List.length xs:Int)),(11,.int .i64 (y.1.1:Int))]) (fun y=>([])) (fun y=>[X_ C (xs.flatMap PL.cells),plF xs]) (fun y=>xs.length - y.1.1) ⟨((0:Nat),(0:Nat)),by simp,by simp⟩ zl g_ zh ?_;rintro ⟨⟨i,w⟩,hi,hw⟩;dsimp only at hi hw ⊢;refine Zi 2 (fun F=>?_) fun F=>?_
 ·refine Zz 9 ?_
  refine f_ (Cf_ w zaa_) rfl g_ zt rfl fun⟨⟨G,N⟩,M⟩=>?_;dsimp only;dsimp only at M;refine A_ dY_ ?_;have S:az_ 76 10 G (List.length (ha_ (xs.take 0))) (List.flatMap Pc.cells (ha_ (xs.take 0))) N:=by exact M
  refine Zz 12 ?_;refine O_ (ι:={y:Nat×Value×Hp // y.1≤List.length xs∧zR 76 10 Pc.cells y.2.1 (ha_ (xs.take y.1)) y.2.2}) (fun y=>[(0,.slice C xs.length A),(6,y.1.2.1),(25,.slice C xs.length A),(26,.int .i64 (List.length xs:Int)),(27,.int .i64 (y.1.1:Int))]) (fun y=>(y.1.2.2)) (fun y=>[X_ C (xs.flatMap PL.cells),plF xs]) (fun y=>xs.length - y.1.1) ⟨((0:Nat),G,N),by simp,S⟩ zl aj_ zh ?_;rintro ⟨⟨j,W,X⟩,hj,m⟩;dsimp only at hj m ⊢;have a0:=xr_ B j;refine Zi 2 (fun H=>?_) fun H=>?_
  ·rw[List.take_of_length_le zaa_]at m
   refine Zz 13 ?_;refine bL_ m aj_ fun V R P J K I=>?_;exact aa_ results39 ⟨(V,R),J,K,I⟩ (ea_ rfl P) g_ zf
  obtain⟨E,e,L,d⟩:=zge (show j<xs.length by omega);have O:=(B e d).sh;refine Zz 18 ?_;refine mZ_ (news:=List.flatMap Pc.cells (PL.l e)) vm_ m rfl rfl (B e d).nz (B e d).le aj_ (by rw[dU_ Pc.cells 10 Pc.cells_len]) (fun v _ h=>by exact (h.2.1 e d)) (fun u Z=>bn_ Pc.cells_one Z) (by simp only[maxLen];(have:=(B e d).sh;omega)) (by (have:=(B e d).sh;omega)) rfl fun Q T F=>?_;refine A_ List.perm_append_comm ?_;have U:=zsa F;refine Zz 8 ?_;exact x_ ⟨(j+1,Q,T),E,(by rw[uG_ L];exact U)⟩ zab_ zl aj_ zh
 obtain⟨E,e,L,d⟩:=zge (show i<xs.length by omega);have O:=(B e d).sh;refine Zi 27 (fun H=>?_) fun H=>?_
 ·refine Zz 10 ?_
  exact x_ ⟨(i+1,w+List.length (PL.l e)),E,by have:=(B e d).sh;dsimp only;omega⟩ zab_ ⟨rfl,(be_ rfl (by push_cast;rfl)),rfl,rfl,rfl,trivial⟩ g_ zh
 exfalso;omega
theorem zl_ (x y:Int):Fn0 prog 127 #[.int .i64 x,.int .i64 y] (.int .i64 (Lib.compareInt x y)):=by
 refine j_ func127 rfl rfl ntmps127 rfl fun h=>?_;refine Zi 10 (fun d=>?_) fun d=>?_
 ·refine Zi 10 (fun e=>?_) fun e=>?_
  ·refine Zz 11 ?_
   exact aa_ results127 () (be_ rfl (by unfold Lib.compareInt;rw[if_neg d,if_neg e])) g_ zt
  refine Zz 9 ?_;exact aa_ results127 () (be_ rfl (by unfold Lib.compareInt;rw[if_neg d,if_pos e])) g_ zt
 refine Zz 9 ?_;exact aa_ results127 () (be_ rfl (by unfold Lib.compareInt;rw[if_pos d])) g_ zt
theorem uB_ (x y:Str):Fn0 prog 130 #[str x,str y] (.int .i64 (Lib.compareBytes x y)):=by
 refine j_ func130 rfl rfl ntmps130 rfl fun m=>?_;refine Zi 10 (fun e=>?_) fun e=>?_
 ·refine Zz 10 ?_
  refine E_ (sj_ rfl rfl) rfl fun h d=>Zz 2 ?_
  cases h
  ·replace d:=zdf d
   refine Zz 9 ?_;exact aa_ results130 () (be_ rfl (by rw[ji_,if_neg e,if_neg d])) g_ zt
  replace d:=zdt d;refine Zz 7 ?_;exact aa_ results130 () (be_ rfl (by rw[ji_,if_neg e,if_pos d])) g_ zt
 refine Zz 9 ?_;exact aa_ results130 () (be_ rfl (by rw[ji_,if_pos e])) g_ zt
def plf (x:Ax):Prop:=(x.left.kind=3∧x.left.parts=[])∧(x.right.kind=3∧x.right.parts=[])∧x.roles=[]∧x.role=[]∧x.a=[]∧x.b=[]
theorem gZ_ (x:Int):Fn0 prog 127 #[.int .i64 x,.int .i64 x] (.int .i64 0):=by
  have h:=zl_ x x;rw[show Lib.compareInt x x=0 from by unfold Lib.compareInt;rw[if_neg (Int.lt_irrefl _),if_neg (Int.lt_irrefl _)]]at h;exact h
theorem nC_ (x:Str):Fn0 prog 130 #[str x,str x] (.int .i64 0):=by
  have h:=uB_ x x;rw[show Lib.compareBytes x x=0 from by rw[ji_,if_neg (List.lt_irrefl _),if_neg (List.lt_irrefl _)]]at h;exact h
theorem vS_ (c:Con) (h:c.ok) (v:c.sz≤1000) (x:c.parts=[]):Tri prog 129 #[Con.val c,Con.val c] [] [Con.memF c] (fun _:Unit=>.int .i64 0) (fun _=>[]) (fun _=>[]):=by
 refine j_ func129 rfl rfl ntmps129 rfl fun A=>?_;refine Zz 2 ?_;refine K_ rfl rfl fun e=>K_ rfl rfl fun m=>Zz 5 ?_
 refine D_ 4 [0,2] zk zs (Zz 3 ?_);refine p_ 1 rfl zk (f_ (nD_ _ c (Nat.le_refl _) h v) rfl g_ zf rfl fun _=>Zz 3 ?_);refine p_ 3 rfl zk (f_ (nD_ _ c (Nat.le_refl _) h v) rfl g_ zf rfl fun _=>Zz 3 ?_);refine p_ 4 rfl zk (f_ (gZ_ (Con.sz c:Int)) rfl g_ zt rfl fun _=>Zz 3 ?_);refine D_ 0 [5] zk zs (Zz 8 ?_);refine e_ (ao_ (aT_ rfl rfl) (show _=Value.bool true from congrArg Value.bool zad_)) rfl (Zz 8 ?_);refine f_ (gZ_ c.kind) rfl g_ zt rfl fun _=>Zz 7 ?_
 refine e_ (ao_ (aT_ rfl rfl) (show _=Value.bool true from congrArg Value.bool zad_)) rfl (Zz 8 ?_);refine f_ (nC_ c.name) rfl g_ zt rfl fun _=>Zz 7 ?_
 refine e_ (ao_ (aT_ rfl rfl) (show _=Value.bool true from congrArg Value.bool zad_)) rfl (Zz 8 ?_);refine f_ (gZ_ c.lo) rfl g_ zt rfl fun _=>Zz 7 ?_
 refine e_ (ao_ (aT_ rfl rfl) (show _=Value.bool true from congrArg Value.bool zad_)) rfl (Zz 8 ?_);refine f_ (gZ_ c.hi) rfl g_ zt rfl fun _=>Zz 10 ?_
 refine O_ (ι:={y:Nat // y=0}) (fun y=>[(2,zp_ e 0),(3,zp_ m 0),(4,.int .i64 0),(5,.int .i64 0),(6,.int .i64 (y.1:Int))]) (fun y=>((m,.cells (Con.cells c).toArray 28 (0,0))::((e,.cells (Con.cells c).toArray 28 (0,0))::[]))) (fun y=>[Con.memF c]) (fun y=>0) ⟨(0:Nat),rfl⟩ zl zp zh ?_;rintro ⟨i,hi⟩;dsimp only at hi ⊢;refine Zz 4 ?_;refine e_ (ao_ (aT_ rfl rfl) (show _=Value.bool true from congrArg Value.bool zad_)) rfl (Zi 10 (fun d=>?_) fun d=>?_)
 ·refine Zz 17 ?_
  refine e_ (ao_ (aT_ rfl rfl) (show _=Value.bool true from congrArg Value.bool zad_)) rfl (Zz 10 ?_);refine f_ (gZ_ (List.length c.parts:Int)) rfl g_ zt rfl fun _=>Zz 10 ?_
  exact aa_ results129 () rfl g_ zt
 exfalso;rw[x]at d;simp only[List.length_nil]at d;omega
theorem vR_ (x:Ax) (A:x.ok) (H:x.left.sz≤1000) (G:x.right.sz≤1000) (y:plf x):Tri prog 128 #[Ax.val x] [] [Ax.memF x] (fun _:Unit=>.int .i64 (((List.length x.roles:Int)+(Con.sz x.left:Int))+(Con.sz x.right:Int))) (fun _=>[]) (fun _=>[]):=by
 refine j_ func128 rfl rfl ntmps128 rfl fun I=>?_;have J:=A.cap;refine Zz 2 ?_;refine K_ rfl rfl fun K=>Zi 17 (fun B=>?_) fun B=>?_
 ·exfalso;have C:=y.1.1;have E:=y.2.1.1;omega
 refine Zz 7 ?_;refine f_ (nD_ _ x.left (Nat.le_refl _) A.left H) rfl g_ (fun v _ h=>by exact⟨h.1.1,trivial⟩) rfl fun _=>Zi 10 (fun F=>?_) fun F=>?_
 ·exfalso;have C:=y.1.1;have E:=y.2.1.1;omega
 refine Zz 7 ?_;refine f_ (nD_ _ x.right (Nat.le_refl _) A.right G) rfl g_ (fun v _ h=>by exact⟨h.1.2.1,trivial⟩) rfl fun _=>Zi 9 (fun m=>?_) fun m=>?_
 ·refine Zi 10 (fun d=>?_) fun d=>?_
  ·refine Zi 10 (fun e=>?_) fun e=>?_
   ·refine Zz 12 ?_
    exact aa_ results128 () (be_ rfl zaa_) g_ zt
   exact absurd y.2.2.2.2.2 e
  exact absurd y.2.2.2.2.1 d
 exact absurd y.2.2.2.1 m
theorem xl_ (x:Ax) (e:x.ok) (A:x.left.sz≤1000) (m:x.right.sz≤1000) (C:plf x):Tri prog 61 #[Ax.val x,Ax.val x] [] [Ax.memF x] (fun _:Unit=>.int .i64 0) (fun _=>[]) (fun _=>[]):=by
 refine j_ func61 rfl rfl ntmps61 rfl fun F=>?_;refine Zz 2 ?_;refine K_ rfl rfl fun B=>K_ rfl rfl fun E=>Zz 5 ?_
 refine D_ 4 [0,2] zk zs (Zz 3 ?_);refine p_ 1 rfl zk (f_ (vR_ x e A m C) rfl g_ zf rfl fun _=>Zz 3 ?_);refine p_ 3 rfl zk (f_ (vR_ x e A m C) rfl g_ zf rfl fun _=>Zz 3 ?_);refine p_ 4 rfl zk (f_ (gZ_ (((List.length x.roles:Int)+(Con.sz x.left:Int))+(Con.sz x.right:Int))) rfl g_ zt rfl fun _=>Zz 3 ?_);refine D_ 0 [5] zk zs (Zz 8 ?_);refine e_ (ao_ (aT_ rfl rfl) (show _=Value.bool true from congrArg Value.bool zad_)) rfl (Zz 8 ?_);refine f_ (gZ_ x.kind) rfl g_ zt rfl fun _=>Zz 7 ?_
 refine e_ (ao_ (aT_ rfl rfl) (show _=Value.bool true from congrArg Value.bool zad_)) rfl (Zz 8 ?_);refine f_ (vS_ x.left e.left A C.1.2) rfl g_ (fun v _ h=>by exact⟨h.1.1,trivial⟩) rfl fun _=>Zz 7 ?_
 refine e_ (ao_ (aT_ rfl rfl) (show _=Value.bool true from congrArg Value.bool zad_)) rfl (Zz 8 ?_);refine f_ (vS_ x.right e.right m C.2.1.2) rfl g_ (fun v _ h=>by exact⟨h.1.2.1,trivial⟩) rfl fun _=>Zz 10 ?_
 refine O_ (ι:={y:Nat // y=0}) (fun y=>[(2,zp_ B 0),(3,zp_ E 0),(4,.int .i64 0),(5,.int .i64 0),(6,.int .i64 (y.1:Int))]) (fun y=>((E,.cells (Ax.cells x).toArray 30 (0,0))::((B,.cells (Ax.cells x).toArray 30 (0,0))::[]))) (fun y=>[Ax.memF x]) (fun y=>0) ⟨(0:Nat),rfl⟩ zl zp zh ?_;rintro ⟨i,hi⟩;dsimp only at hi ⊢;refine Zz 4 ?_;refine e_ (ao_ (aT_ rfl rfl) (show _=Value.bool true from congrArg Value.bool zad_)) rfl (Zi 10 (fun d=>?_) fun d=>?_)
 ·refine Zz 17 ?_
  refine e_ (ao_ (aT_ rfl rfl) (show _=Value.bool true from congrArg Value.bool zad_)) rfl (Zz 10 ?_);refine f_ (gZ_ (List.length x.roles:Int)) rfl g_ zt rfl fun _=>Zz 7 ?_
  refine e_ (ao_ (aT_ rfl rfl) (show _=Value.bool true from congrArg Value.bool zad_)) rfl (Zz 8 ?_);refine f_ (nC_ x.role) rfl g_ zt rfl fun _=>Zz 7 ?_
  refine e_ (ao_ (aT_ rfl rfl) (show _=Value.bool true from congrArg Value.bool zad_)) rfl (Zz 8 ?_);refine f_ (nC_ x.a) rfl g_ zt rfl fun _=>Zz 7 ?_
  refine e_ (ao_ (aT_ rfl rfl) (show _=Value.bool true from congrArg Value.bool zad_)) rfl (Zz 8 ?_);refine f_ (nC_ x.b) rfl g_ zt rfl fun _=>Zz 10 ?_
  exact aa_ results61 () rfl g_ zt
 exfalso;rw[C.2.2.1]at d;simp only[List.length_nil]at d;omega
theorem wY_ (x:Ax) (h:x.ok) (v:x.left.sz≤1000) (m:x.right.sz≤1000) (A:plf x):Tri prog 27 #[Ax.val x,Ax.val x] [] [Ax.memF x] (fun _:Unit=>.bool true) (fun _=>[]) (fun _=>[]):=by
 refine j_ func27 rfl rfl ntmps27 rfl fun C=>?_;refine Zz 2 ?_;refine K_ rfl rfl fun y=>K_ rfl rfl fun B=>Zz 9 ?_
 refine E_ (sn_ kj_ rfl rfl) rfl fun e d=>Zz 1 ?_
 cases e
 ·exfalso;simp at d
 refine Zz 5 ?_;refine f_ (xl_ x h v m A) rfl g_ zf rfl fun _=>ar_ rfl rfl (e_ (ao_ (aT_ rfl rfl) (show _=Value.bool true from congrArg Value.bool zad_)) rfl (Zz 5 ?_))
 exact aa_ results27 () rfl g_ zt
theorem fG_ {s:Str} {q:Str→Bool} (h:bU_ true s q=true) (d:q []=false):s≠[]:=by
  intro e;subst e;simp[bU_,d]at h
theorem pcN_of {x:Pc} (h:x.valid=true):PcN x:=by
 unfold Pc.valid at h
 by_cases y:x.kind<1∨9<x.kind∨x.frm < -1∨1024≤x.frm
 ·rw[if_pos y]at h;cases h
 rw[if_neg y]at h
 by_cases C:(nus x.kind).numbers=true∧(x.lo < -1099511627776∨x.hi<x.lo∨1099511627776<x.hi)
 ·rw[if_pos C]at h;cases h
 rw[if_neg C]at h
 by_cases B:(nus x.kind).numbers=false∧(x.lo≠0∨x.hi≠0)
 ·rw[if_pos B]at h;cases h
 rw[if_neg B]at h;simp only[Bool.and_eq_true]at h;obtain⟨⟨⟨⟨⟨K,J⟩,v⟩,E⟩,I⟩,F⟩:=h;have G:1≤x.kind∧x.kind≤9:=by omega
 have m:bj_ []=false:=by decide
 have A:cx_ []=false:=by decide
 have H:aN_ []=false:=by decide
 refine⟨G,fun t d=>?_⟩;have e:(if (nus x.kind).numbers then aN_ else cx_) []=false:=by split<;>assumption
 rcases kinds9 G with k|k|k|k|k|k|k|k|k<;>rw[k]at v E F e<;>simp[aE_,k]at d
 ·subst d;exact fG_ v m
 ·subst d;exact fG_ v m
 ·rcases d with rfl|rfl
  ·exact fG_ E e
  exact fG_ v m
 ·subst d;exact fG_ v m
 ·subst d;exact fG_ F A
 ·subst d;exact fG_ F A
 ·subst d;exact fG_ E e
 ·subst d;exact fG_ E e
 subst d;exact fG_ v m
end Go.Proofs.YthmjeabeoodghaaGreatDoor
namespace Go.Vs
open Go Go.Sx Go.Proofs.YthmjeabeoodghaaGreatDoor
structure Rcd.ok (x:Rcd):Prop where
  a:x.a.length≤x.acap∧x.acap≤maxLen∧(x.aad=none→x.acap=0)
  r:x.r.length≤x.rcap∧x.rcap≤maxLen∧(x.rad=none→x.rcap=0)
  f:x.f.length≤x.fcap∧x.fcap≤maxLen∧(x.fad=none→x.fcap=0)
end Go.Vs
namespace Go.Proofs.YthmjeabeoodghaaGreatDoor
open Go Go.Sx Go.Proofs Tryz
attribute [local irreducible] Code.wp wpList wpAnyH
open Go.Vs
theorem ei_:KeyT prog 9 str:=tq_ aZ_
theorem xe_ (l:List Ax) (ad:Ao) (cap:Nat) (C:∀ x∈l,x.ok) (H:∀ x∈l,x.check=0) (I:l.length≤100000):Tri prog 112 #[.slice ad l.length cap] [] [ch_ ad l,bN_] (fun _:Unit=>.int .i64 0) (fun _=>[]) (fun _=>[]):=by
 refine j_ func112 rfl rfl ntmps112 rfl fun F=>?_;refine Zz 14 ?_;refine O_ (ι:={y:Nat // y≤List.length l}) (fun y=>[(2,.int .i64 0),(6,.slice ad l.length cap),(7,.int .i64 (List.length l:Int)),(8,.int .i64 (y.1:Int))]) (fun y=>([])) (fun y=>[ch_ ad l,bN_]) (fun y=>l.length - y.1) ⟨(0:Nat),by simp⟩ zl g_ zh ?_;rintro ⟨i,B⟩;dsimp only at B ⊢;refine Zi 2 (fun A=>?_) fun A=>?_
 ·refine Zz 12 ?_
  exact aa_ results112 () rfl g_ zt
 obtain⟨m,e,E,d⟩:=zge (show i<l.length by omega);refine Zz 12 ?_;refine y_ aG_ rfl fun G=>o_ 0 H_ rfl rfl rfl rfl rfl rfl (Zz 5 ?_)
 refine f_ (qW_ (C e d) (H e d)) rfl g_ (fun v _ h=>by exact⟨(h.1.2 e d),h.2.1,trivial⟩) rfl fun _=>Zz 6 ?_
 refine e_ (ao_ (cl_ rfl rfl) (show _=Value.bool false from congrArg Value.bool zad_)) rfl (Zz 10 ?_);exact x_ ⟨i+1,m⟩ zab_ zl g_ zh
theorem gT_ {G:Prop} (h:G:=by
 have d:Ax.selfs x=m:=by rw[hm,List.take_of_length_le zaa_];rfl
 exact aa_ results174 () (s_ rfl (by unfold Ax.exm;rw[h,d];rw[Bool.eq_iff_iff];simp only[Bool.and_eq_true,Bool.or_eq_true,Bool.not_eq_true',decide_eq_true_eq,decide_eq_false_iff_not,Option.some.injEq,beq_iff_eq,A,true_and,false_and,true_iff,Bool.false_eq_true,false_iff,reduceCtorEq];omega)) g_ zt):G:=h
theorem Ak_ (x:Ax) (i:Nat) (N:x.ok) (hi:i<x.roles.length):Tri prog 174 #[Ax.val x,.int .i64 (i:Int)] [] [Ax.memF x] (fun _:Unit=>.bool (x.exm i)) (fun _=>[]) (fun _=>[]):=by
 refine j_ func174 rfl rfl ntmps174 rfl fun O=>?_;have R:=N.cap;obtain⟨Q,h⟩:∃ r,x.roles[i]? = some r:=⟨_,List.getElem?_eq_getElem hi⟩;refine Zz 2 ?_;refine K_ rfl rfl fun H=>Zz 6 ?_
 refine D_ 0 [0,1,2,3,4,5,6,7] zk zs (Zi 7 (fun E=>?_) fun E=>?_)
 ·have A:Q=Ax.role x:=by simpa using E
  refine Zz 29 ?_;refine O_ (ι:={y:Nat×Nat // y.1≤List.length x.roles∧y.2=List.countP (fun r=>decide (r=x.role)) (x.roles.take y.1)}) (fun y=>[(1,.int .i64 (i:Int)),(2,zp_ H 0),(4,.bool false),(5,.int .i64 (List.length x.roles:Int)),(6,.int .i64 (y.1.2:Int)),(21,.slice x.ad x.roles.length x.cap),(22,.int .i64 (List.length x.roles:Int)),(23,.int .i64 (y.1.1:Int))]) (fun y=>((H,.cells (Ax.cells x).toArray 30 (0,0))::[])) (fun y=>[Ax.memF x]) (fun y=>x.roles.length - y.1.1) ⟨((0:Nat),(0:Nat)),by simp,zaf_⟩ zl d_ zh ?_;rintro ⟨⟨j,m⟩,G,hm⟩;dsimp only at G hm ⊢;refine Zi 2 (fun K=>?_) fun K=>?_
  ·refine Zi 9 (fun e=>?_) fun e=>?_
   ·refine Zi 14 (fun B=>?_) fun B=>?_
    ·refine Zz 11 ?_
     exact gT_
    refine Zz 5 ?_;refine E_ (aT_ rfl rfl) rfl fun M C=>Zz 7 ?_
    have d:Ax.selfs x=m:=by rw[hm,List.take_of_length_le zaa_];rfl
    exact aa_ results174 () (s_ rfl (by rw[← C];unfold Ax.exm;rw[h,d];rw[Bool.eq_iff_iff];simp only[Bool.and_eq_true,Bool.or_eq_true,Bool.not_eq_true',decide_eq_true_eq,decide_eq_false_iff_not,Option.some.injEq,beq_iff_eq,A,true_and,false_and,true_iff,Bool.false_eq_true,false_iff,reduceCtorEq];omega)) g_ zt
   refine Zi 4 (fun B=>?_) fun B=>?_
   ·refine Zz 7 ?_
    refine e_ (ao_ (aI_ rfl rfl rfl (bv_ zaa_ zaa_)) (show _=Value.int .i64 ((List.length x.roles:Int) - 1) from rfl)) rfl (ar_ rfl rfl ?_);refine Zi 0 (fun C=>?_) fun C=>?_
    ·refine Zi 7 (fun J=>?_) fun J=>?_
     ·refine Zz 11 ?_
      exact gT_
     refine Zz 5 ?_;refine E_ (aT_ rfl rfl) rfl fun M I=>Zz 7 ?_
     have d:Ax.selfs x=m:=by rw[hm,List.take_of_length_le zaa_];rfl
     exact aa_ results174 () (s_ rfl (by rw[← I];unfold Ax.exm;rw[h,d];rw[Bool.eq_iff_iff];simp only[Bool.and_eq_true,Bool.or_eq_true,Bool.not_eq_true',decide_eq_true_eq,decide_eq_false_iff_not,Option.some.injEq,beq_iff_eq,A,true_and,false_and,true_iff,Bool.false_eq_true,false_iff,reduceCtorEq];omega)) g_ zt
    refine Zz 15 ?_;exact gT_
   refine Zz 21 ?_;exact gT_
  have v:j<x.roles.length:=by omega
  obtain⟨P,F⟩:∃ L,x.roles[j]? = some L:=⟨_,List.getElem?_eq_getElem v⟩;refine Zi 20 (fun e=>?_) fun e=>?_
  ·refine Zz 10 ?_
   exact x_ ⟨(j+1,m),v,zce_⟩ zab_ zl d_ zh
  refine Zz 5 ?_;refine e_ (ao_ (aI_ rfl rfl rfl (bv_ zaM_ zaM_)) (show _=Value.int .i64 ((m+1:Nat):Int) from congrArg _ zaa_)) rfl ?_;refine Zz 8 ?_;exact x_ ⟨(j+1,(m+1)),v,zce_⟩ zab_ zl d_ zh
 refine Zz 10 ?_;exact aa_ results174 () (s_ rfl (by unfold Ax.exm;rw[h];simp[E])) g_ zt
theorem mq_ {G:Prop} (h:G:=by
 refine ta_ (k:=r) (s:=s) (e:=e) ei_ (.inr rfl) bf_ H m (by rw[x];simp) rfl rfl rfl aj_ fun A d=>?_;refine A_ dY_ (Zz 2 ?_);exact ck_ results173 ⟨(ks,A),d,fun k E=>.inl E⟩ rfl aj_ zt):G:=h
theorem mr_ {G:Prop} (h:G:=by
 refine ta_ (k:=r) (s:=s) (e:=e) ei_ (.inr rfl) bf_ d v (by rw[x];simp) rfl rfl rfl aj_ fun C B=>?_;refine A_ dY_ (Zz 2 ?_);exact ck_ results173 ⟨((ks++[(r,F)]),C),B,fun k E=>by rw[List.map_append,List.mem_append]at E;exact E.imp id zaf_⟩ rfl aj_ zt):G:=h
theorem wH_ (r s:Str) (e:Bool) (cb I:Nat) (ks:List (Str×Nat)) (S:List RSt) (Hx:Hp) (H:MmO I ks S Hx):Tri prog 173 #[str r,str s,.bool e,zp_ cb 0] Hx [bl_ cb (.cells #[.map (some I)] 171 (0,0))] (fun _:{y:List (Str×Nat)×Hp // MmO I y.1 (S++[(r,s,e)]) y.2∧∀ k∈y.1.map (·.1),k∈ks.map (·.1)∨k=r}=>.tuple #[]) (fun y=>y.1.2) (fun _=>[]):=by
 refine j_ func173 rfl rfl ntmps173 rfl fun L=>?_;refine Zz 5 ?_;refine e_ (fn_ (k:=r) ei_ di_ ex_ H rfl rfl aj_) rfl (E_ (yx_ underlying101 rfl rfl) rfl fun J h=>Zz 2 ?_);cases J
 ·replace h:=zdf h
  obtain⟨K,m⟩:=Option.ne_none_iff_exists'.1 h;refine Zz 6 ?_;refine e_ (ao_ (fn_ (k:=r) ei_ di_ ex_ H rfl rfl aj_) (congrArg nn_ m)) rfl (Zz 3 ?_);refine e_ (ao_ (fn_ (k:=r) ei_ di_ ex_ H rfl rfl aj_) (congrArg nn_ m)) rfl (Zz 1 ?_);refine E_ (kg_ (k:=r) (s:=s) ei_ bf_ bR_ H m rfl rfl aj_) rfl fun G x=>Zz 1 ?_
  cases G
  ·refine Zz 3 ?_
   exact mq_
  refine Zz 2 ?_;exact mq_
 replace h:=zdt h;refine Zz 4 ?_;refine bu_ rfl fun F=>zA_ (k:=r) ei_ (.inr rfl) di_ H h rfl rfl rfl (i_ d_ aj_) fun A d=>A_ dY_ ?_
 have v:hq_ (ks++[(r,F)]) r=some F:=yP_ h;refine Zz 5 ?_;refine e_ (ao_ (fn_ (k:=r) ei_ di_ ex_ d rfl rfl aj_) (congrArg nn_ v)) rfl (Zz 3 ?_);refine e_ (ao_ (fn_ (k:=r) ei_ di_ ex_ d rfl rfl aj_) (congrArg nn_ v)) rfl (Zz 1 ?_);refine E_ (kg_ (k:=r) (s:=s) ei_ bf_ bR_ d v rfl rfl aj_) rfl fun G x=>Zz 1 ?_
 cases G
 ·refine Zz 3 ?_
  exact mr_
 refine Zz 2 ?_;exact mr_
theorem Br_ (l:List Ax) (ad:Ao) (cap:Nat) (a3:∀ x∈l,x.ok) (hC:∀ x∈l,x.check=0) (hll:l.length≤100000):Tri prog 114 #[.slice ad l.length cap] [] [ch_ ad l] (fun y:{y:Nat×List (Str×Nat)×Hp // MmO y.1 y.2.1 (do_ l) y.2.2∧Frm y.2.1 (do_ l)}=>.map (some y.1.1)) (fun y=>y.1.2.2) (fun _=>[]):=by
 refine j_ func114 rfl rfl ntmps114 rfl fun a8=>?_;refine Zz 7 ?_;refine bu_ rfl fun I=>y_ zeroValue171 rfl fun M=>o_ 0 sizeOf171 rfl rfl rfl rfl rfl rfl (Zz 4 ?_)
 refine e_ (bm_ rfl rfl) rfl (Zz 12 ?_);refine ja_ 0 rfl ?_;refine O_ (ι:={y:Nat×List (Str×Nat)×Hp // y.1≤List.length l∧MmO I y.2.1 (do_ (l.take y.1)) y.2.2∧Frm y.2.1 (do_ (l.take y.1))}) (fun y=>[(2,.map none),(3,zp_ M 0),(4,.func (.func 173) #[] #[zp_ M 0]),(11,.slice ad l.length cap),(12,.int .i64 (List.length l:Int)),(13,.int .i64 (y.1.1:Int))]) (fun y=>(y.1.2.2)) (fun y=>[bl_ M (.cells #[.map (some I)] 171 (0,0)),ch_ ad l]) (fun y=>l.length - y.1.1) ⟨((0:Nat),[],[(I,.map #[] 0)]),by simp,(by rw[List.take_zero];exact MmO.nil I 0),Frm.nil⟩ zl d_ zh ?_;rintro ⟨⟨i,N,L⟩,a0,G,F⟩;dsimp only at a0 G F ⊢;refine Zi 2 (fun Y=>?_) fun Y=>?_
 ·refine Zz 13 ?_
  have a4:List.take i l=l:=List.take_of_length_le zaa_;rw[a4]at G F;exact aa_ results114 ⟨(I,N,L),G,F⟩ rfl aj_ zt
 obtain⟨J,d,C,m⟩:=zge (show i<l.length by omega);have a2:=Ax.good_of (hC d m);refine Zz 12 ?_;refine y_ aG_ rfl fun X=>o_ 0 H_ rfl rfl rfl rfl rfl rfl (Zi 11 (fun E=>?_) fun E=>?_)
 ·refine Zi 6 (fun A=>?_) fun A=>?_
  ·refine Zz 11 ?_
   exact x_ ⟨(i+1,N,L),J,(by rw[dE_ C,Ax.steps_no E A,List.append_nil];exact G),(by rw[dE_ C,Ax.steps_no E A,List.append_nil];exact F)⟩ zab_ zl C_ zh
  have a7:=a2.chain A;refine Zz 13 ?_;refine O_ (ι:={y:Nat×List (Str×Nat)×Hp // y.1≤List.length d.roles∧MmO I y.2.1 ((do_ (l.take i))++Ax.chs d y.1) y.2.2∧Frm y.2.1 ((do_ (l.take i))++Ax.chs d y.1)}) (fun y=>[(2,.map none),(3,zp_ M 0),(4,.func (.func 173) #[] #[zp_ M 0]),(11,.slice ad l.length cap),(12,.int .i64 (List.length l:Int)),(13,.int .i64 (i:Int)),(6,zp_ X 0),(39,.slice d.ad d.roles.length d.cap),(40,.int .i64 (List.length d.roles:Int)),(41,.int .i64 (y.1.1:Int))]) (fun y=>((X,.cells (Ax.cells d).toArray 30 (0,0))::y.1.2.2)) (fun y=>[bl_ M (.cells #[.map (some I)] 171 (0,0)),ch_ ad l]) (fun y=>d.roles.length - y.1.1) ⟨((0:Nat),N,L),by simp,(by rw[Ax.chs,List.append_nil];exact G),F.more⟩ zl zp zh ?_;rintro ⟨⟨j,R,U⟩,Z,P,Q⟩;dsimp only at Z P Q ⊢;refine Zi 2 (fun a1=>?_) fun a1=>?_
  ·refine Zz 11 ?_
   exact x_ ⟨(i+1,R,U),J,(by rw[dE_ C,Ax.steps_six A,show d.roles.length=j from zaa_];exact P),(by rw[dE_ C,Ax.steps_six A,show d.roles.length=j from zaa_];exact Q)⟩ zab_ zl C_ zh
  have B:j<d.roles.length:=by omega
  obtain⟨V,e⟩:∃ W,d.roles[j]? = some W:=⟨_,List.getElem?_eq_getElem B⟩;refine Zz 11 ?_;refine e_ (U_ t_ M_ rfl rfl (fun v _ h=>aK_ (n:=1) aY_ zad_ zca_ e) zaa_ zah_) rfl ?_;refine e_ (bP_ (ad:=d.ad) ai_ rfl (fun v _ h=>by exact (h.2.1.2 d m).2.2) (z_ aY_ e 0 _ rfl)) rfl (Zz 8 ?_);refine an_ (Ak_ d j (a3 d m) B) rfl g_ (fun v _ h=>by exact⟨(h.2.1.2 d m),trivial⟩) rfl fun a5 O=>e_ (aR_ rfl) rfl (Zz 2 ?_)
  cases a5
  ·refine Zz 6 ?_
   refine Z_ (wH_ V d.role true M I R ((do_ (l.take i))++Ax.chs d j) U P) rfl rfl C_ zf rfl fun⟨⟨T,S⟩,K,H⟩=>?_;dsimp only;dsimp only at K H;refine Zz 2 ?_;refine A_ (bg_ bi_) (Zz 5 ?_);exact x_ ⟨(j+1,T,S),B,(by rw[Ax.chs_no e O,← List.append_assoc];exact K),(by rw[Ax.chs_no e O,← List.append_assoc];exact Q.add H)⟩ zab_ zl zp zh
  refine Zz 8 ?_;exact x_ ⟨(j+1,R,U),B,(by rw[Ax.chs_yes e O];exact P),(by rw[Ax.chs_yes e O];exact Q)⟩ zab_ zl zp zh
 have a6:=a2.one E;have B:0<d.roles.length:=by omega
 obtain⟨V,e⟩:∃ W,d.roles[0]? = some W:=⟨_,List.getElem?_eq_getElem B⟩;refine Zz 6 ?_;refine D_ 0 [0,1,2,3,4,5,6] zk zs (Zz 2 ?_);refine T_ rfl (U_ t_ M_ rfl rfl (fun v _ h=>aK_ (n:=1) aY_ zad_ zca_ e) zaa_ zah_) rfl ?_;refine T_ rfl (bP_ (ad:=d.ad) ai_ rfl (fun v _ h=>by exact (h.2.1.2 d m).2.2) (z_ aY_ e 0 _ rfl)) rfl (Zi 2 (fun A=>?_) fun A=>?_)
 ·refine Zz 11 ?_
  exact x_ ⟨(i+1,N,L),J,(by rw[dE_ C,Ax.steps_same E e A,List.append_nil];exact G),(by rw[dE_ C,Ax.steps_same E e A,List.append_nil];exact F)⟩ zab_ zl C_ zh
 refine Zz 4 ?_;refine ak_ ((X,.cells (Ax.cells d).toArray 30 (0,0))::[]) zk ?_;refine D_ 1 [0,1,2,3,4,5,6] zk zs (Zz 3 ?_);refine T_ rfl (U_ t_ M_ rfl rfl (fun v _ h=>aK_ (n:=1) aY_ zad_ zca_ e) zaa_ zah_) rfl ?_;refine T_ rfl (bP_ (ad:=d.ad) ai_ rfl (fun v _ h=>by exact (h.2.1.2 d m).2.2) (z_ aY_ e 0 _ rfl)) rfl (Zz 3 ?_);refine p_ 7 rfl zk (Z_ (wH_ V d.role false M I N (do_ (l.take i)) L G) rfl rfl C_ zf rfl fun⟨⟨T,S⟩,K,H⟩=>?_);dsimp only;dsimp only at K H;refine Zz 5 ?_;refine A_ (bg_ bi_) (Zz 5 ?_);exact x_ ⟨(i+1,T,S),J,(by rw[dE_ C,Ax.steps_five E e A];exact K),(by rw[dE_ C,Ax.steps_five E e A];exact F.add H)⟩ zab_ zl C_ zh
def tI_ (e:Nat×Bool):List Value:=[.int .i64 (e.1:Int),.bool e.2]
theorem pl_ (e:Nat×Bool):(tI_ e).length=2:=rfl
theorem Al_ (e:Nat×Bool):(tI_ e).all Value.oneCell'=true:=rfl
structure Grw where
  st:List (Nat×Bool)
  ad:Ao
  cap:Nat
def Grw.cells (x:Grw):List Value:=[.slice x.ad x.st.length x.cap]
theorem Grw.cells_len (x:Grw):x.cells.length=1:=rfl
theorem Grw.cells_one (x:Grw):x.cells.all Value.oneCell'=true:=rfl
def iq_ (X:List Grw):Fct where
  p v:=∀ y∈X,bY_ v y.ad (y.st.flatMap tI_)
  mono v v' h hp y hy:=(X_ y.ad (y.st.flatMap tI_)).mono v v' h (hp y hy)
theorem vh_ {X:List Grw} {y:Grw} {v:Vw} (h:(iq_ X).p v) (e:(X_ y.ad (y.st.flatMap tI_)).p v):(iq_ (X++[y])).p v:=fun z d=>by
 rcases List.mem_append.1 d with d|d
 ·exact h z d
 rw[List.mem_singleton]at d;subst d;exact e
def wyC (w:Wy):List Value:=[.int .i64 (w.role:Int),.bool w.strict,.int .i64 (w.before:Int),.int .i64 (w.many:Int)]
theorem ny_ (w:Wy):(wyC w).length=4:=rfl
theorem vE_ (w:Wy):(wyC w).all Value.oneCell'=true:=rfl
theorem iR_ {l:List Str} (hl:l.Nodup):SrS (bJ_ l):=by
 have e:=kT_ l;have d:(bJ_ l).Nodup:=(List.mergeSort_perm _ _).nodup_iff.2 hl;unfold List.Nodup at d;refine List.Pairwise.imp (fun {a b} hab=>?_) (e.and d)
 by_cases g:a<b
 ·exact g
 exact absurd (List.le_antisymm hab.1 (List.not_lt.1 g)) hab.2
theorem SrS.nd {l:List Str} (h:SrS l):l.Nodup:=h.imp fun d e=>by subst e;exact List.lt_irrefl _ d
theorem bs_lo {R:List Str} (h:SrS R) {m:Nat} {x t:Str} (e:R[m]? = some x) (hl:x<t):∀ (a:Nat) y,a<m+1→R[a]? = some y→y<t:=fun a y v d=>by
 rcases Nat.lt_or_ge a m with g|g
 ·exact List.lt_trans (uC_ h d e g) hl
 obtain rfl:a=m:=by omega
 rw[e]at d;simp only[Option.some.injEq]at d;subst d;exact hl
theorem bs_hi {R:List Str} (h:SrS R) {m:Nat} {x t:Str} (v:R[m]? = some x) (hl:¬ x<t):∀ (a:Nat) y,m≤a→R[a]? = some y→¬ y<t:=fun a y A e d=>by
 rcases Nat.lt_or_ge m a with g|g
 ·exact hl (List.lt_trans (uC_ h v e g) d)
 obtain rfl:a=m:=by omega
 rw[v]at e;simp only[Option.some.injEq]at e;subst e;exact hl d
theorem CW_ {R:List Str} (h:SrS R) {m:Nat} {t:Str} (e:∀ (a:Nat) y,a<m→R[a]? = some y→y<t) (x:∀ (a:Nat) y,m≤a→R[a]? = some y→¬ y<t) (A:R[m]? ≠ some t):t ∉ R:=fun v=>by
 obtain⟨a,d⟩:=List.getElem?_of_mem v;rcases Nat.lt_trichotomy a m with g|g|g
 ·exact List.lt_irrefl t (e a t g d)
 ·subst g;exact A d
 have hl:=(List.getElem?_eq_some_iff.1 d).1;have hm:=List.getElem?_eq_getElem (show m<R.length by omega);exact x m _ (Nat.le_refl _) hm (uC_ h hm d g)
section
variable {P:Program} {N:Nf} {fr:Fr} {H:Hp} {Γ:List Fct} {ty:TypeId}
theorem yw_ {t E:TypeId} {x y:Operand} {h:IntKind} {m:Nat} (C:Fr.ev fr x=some (.int .u64 (m:Int))) (A:Fr.ev fr y=some (.int h 1)):Yld P N fr H Γ (.binOp .shr t x y E) ty (.int .u64 ((m / 2:Nat):Int)) :=
  fun a v d _ _ _ _ _=>by
    have e:¬ ((1:Int)<0):=by omega
    have B:(m:Int).fdiv 2=(m:Int) / 2:=Int.fdiv_eq_ediv_of_nonneg _ zad_;simp[execOp,d.ev C,d.ev A,eqGuard,binOp,Op.shift,e,IntKind.bits,B]
end
def GrR (S:List RSt) (R:List Str) (r:Str) (ss:List Str) (L:List (Nat×Bool)):Prop:=∀ j c,(j,c)∈L↔∃ s,s∈ss∧R[j]? = some s∧c=flg S r s
theorem GrR.nil {S:List RSt} {R:List Str} {r:Str}:GrR S R r [] []:=fun j c=>by simp
theorem GrR.yes {S:List RSt} {R:List Str} {r s:Str} {ss:List Str} {L:List (Nat×Bool)} {n:Nat} (h:GrR S R r ss L) (x:R.Nodup) (v:R[n]? = some s):GrR S R r (ss++[s]) (L++[(n,flg S r s)]):=fun j c=>by
 rw[List.mem_append,h,List.mem_singleton,Prod.mk.injEq];constructor
 ·rintro (⟨t,d,e,m⟩|⟨rfl,rfl⟩)
  ·exact⟨t,List.mem_append_left _ d,e,m⟩
  exact⟨s,by simp,v,rfl⟩
 rintro ⟨t,d,e,m⟩;rcases List.mem_append.1 d with d|d
 ·exact .inl ⟨t,d,e,m⟩
 rw[List.mem_singleton]at d;subst d;exact .inr ⟨zC_ x e v,m⟩
theorem GrR.no {S:List RSt} {R:List Str} {r s:Str} {ss:List Str} {L:List (Nat×Bool)} (h:GrR S R r ss L) (v:s ∉ R):GrR S R r (ss++[s]) L:=fun j c=>by
 rw[h];constructor
 ·rintro ⟨t,d,e,m⟩;exact⟨t,List.mem_append_left _ d,e,m⟩
 rintro ⟨t,d,e,m⟩;rcases List.mem_append.1 d with d|d
 ·exact⟨t,d,e,m⟩
 rw[List.mem_singleton]at d;subst d;exact absurd (List.mem_of_getElem? e) v
structure GrI (S:List RSt) (R:List Str) (X:List Grw) (i:Nat):Prop where
  len:X.length=i
  row:∀ (k:Nat) (r:Str) (y:Grw),R[k]? = some r→X[k]? = some y→GrR S R r (bJ_ (ik S r)) y.st
  short:∀ y∈X,y.st.length≤S.length
theorem GrI.nil {S:List RSt} {R:List Str}:GrI S R [] 0:=⟨rfl,fun k r y _ h=>by simp at h,by simp⟩
theorem GrI.snoc {S:List RSt} {R:List Str} {X:List Grw} {i:Nat} {r:Str} {y:Grw} (h:GrI S R X i) (B:R[i]? = some r) (x:GrR S R r (bJ_ (ik S r)) y.st) (v:y.st.length≤S.length):GrI S R (X++[y]) (i+1):=by
 refine⟨by simp[h.len],fun k q z e d=>?_,fun z d=>by rcases List.mem_append.1 d with d|d;exact h.short z d;rw[List.mem_singleton]at d;subst d;exact v⟩;rcases Nat.lt_or_ge k X.length with g|g
 ·rw[List.getElem?_append_left g]at d;exact h.row k q z e d
 rw[List.getElem?_append_right g]at d
 have A:k - X.length=0:=by
   have:=(List.getElem?_eq_some_iff.1 d).1;simp only[List.length_singleton]at this;omega
 rw[A]at d;simp only[List.getElem?_cons_zero,Option.some.injEq]at d;subst d;have m:k=i:=by have:=h.len;omega
 subst m;rw[B]at e;simp only[Option.some.injEq]at e;subst e;exact x
theorem GrI.done {S:List RSt} {ks:List (Str×Nat)} {X:List Grw} (B:Frm ks S) (x:∀ z∈S,z.1∈ks.map (·.1)) (C:(ks.map (·.1)).Nodup) (h:GrI S (bJ_ (ks.map (·.1))) X (bJ_ (ks.map (·.1))).length):GrO S (bJ_ (ks.map (·.1))) (X.map Grw.st):=by
 refine⟨by rw[List.length_map,h.len],SrS.nd (iR_ C),fun r=>?_,fun i r l A hl j c=>?_⟩
 ·rw[List.mem_mergeSort]
  constructor
  ·exact B r
  rintro ⟨s,c,E⟩;exact x _ E
 rw[List.getElem?_map,Option.map_eq_some_iff]at hl;obtain⟨y,v,rfl⟩:=hl;rw[h.row i r y A v j c];constructor
 ·rintro ⟨s,d,m,e⟩;rw[List.mem_mergeSort,pa_]at d;exact⟨s,m,d,e⟩
 rintro ⟨s,d,m,e⟩;exact⟨s,by rw[List.mem_mergeSort,pa_];exact m,d,e⟩
theorem Bl_:gQ_ prog 214 [(0,1),(1,1)] [.int .i64 0,.bool false]:=⟨_,zeroValue214,runUnderlying214,fun w=>by simp[P_,cv_]⟩
theorem ri_:gQ_ prog 218 [(0,1),(1,1),(2,1),(3,1)] [.int .i64 0,.bool false,.int .i64 0,.int .i64 0]:=⟨_,pO_,runUnderlying218,fun w=>by simp[P_,cv_]⟩
theorem Co_:Elt prog 210 214 2 16:=hh_ underlying210 (z:=.agg #[.int .i64 0,.bool false]) zac_ rfl zad_
theorem Cn_:Elt prog 167 210 1 24:=hh_ underlying167 (z:=.slice none 0 0) zac_ rfl zad_
theorem Ao_:Elt prog 219 218 4 32:=hh_ underlying219 (z:=.agg #[.int .i64 0,.bool false,.int .i64 0,.int .i64 0]) zac_ rfl zad_
theorem zY_ (s:Str):Fn0 prog 231 #[str s] (.bool false):=by
  refine j_ func231 rfl rfl ntmps231 rfl fun d=>?_;refine Zz 9 ?_;refine e_ (ao_ (dK_ rfl rfl) (show _=Value.bool false from congrArg Value.bool zaf_)) rfl (Zz 4 ?_);exact aa_ results231 () rfl g_ zt
theorem yj_ (x y:Str):Fn0 prog 209 #[str x,str y] (.bool (decide (x<y))):=by
  refine j_ func209 rfl rfl ntmps209 rfl fun h=>?_;refine Zz 8 ?_;refine f_ (rA_ x) rfl g_ zt rfl fun _=>Zz 11 ?_
  refine E_ (gv_ rfl rfl) rfl fun e d=>Zz 5 ?_
  exact aa_ results209 () (s_ rfl (by rw[← d])) g_ zt
theorem binS_c (R:List Str) (ad:Ao) (cap:Nat) (t:Str) (hS:SrS R) (hl:R.length≤100000000):Tri prog 172 #[.slice ad R.length cap,str t] [] [X_ ad (R.flatMap au_)] (fun y:{y:Nat×Bool // (y.2=true→R[y.1]? = some t)∧(y.2=false→t ∉ R)}=>.tuple #[.int .i64 (y.1.1:Int),.bool y.1.2]) (fun _=>[]) (fun _=>[]):=by
 refine j_ func172 rfl rfl ntmps172 rfl fun M=>?_;refine Zz 22 ?_;refine O_ (ι:={y:Nat×Nat // y.1≤y.2∧y.2≤List.length R∧(∀ (a:Nat) (z:Str),a<y.1→R[a]? = some z→z<t)∧(∀ (a:Nat) (z:Str),y.2≤a→R[a]? = some z→¬ z<t)}) (fun y=>[(0,.slice ad R.length cap),(1,str t),(6,.int .i64 (List.length R:Int)),(7,.int .i64 (y.1.1:Int)),(8,.int .i64 (y.1.2:Int))]) (fun y=>([])) (fun y=>[X_ ad (R.flatMap au_)]) (fun y=>y.1.2 - y.1.1) ⟨((0:Nat),R.length),zaa_,zaa_,(fun a y h=>absurd h zab_),(fun a y h e=>by have:=(List.getElem?_eq_some_iff.1 e).1;dsimp only at h;omega)⟩ zl g_ zh ?_;rintro ⟨⟨lo,hi⟩,I,K,F,hB⟩;dsimp only at I K F hB ⊢;refine Zi 5 (fun A=>?_) fun A=>?_
 ·obtain rfl:lo=hi:=by omega
  refine Zi 10 (fun d=>?_) fun d=>?_
  ·refine Zz 24 ?_
   exact fO_ results172 ⟨(lo,false),fun q=>(by cases q),fun _=>CW_ hS F hB (fun q=>by have:=(List.getElem?_eq_some_iff.1 q).1;omega)⟩ rfl rfl rfl g_ zt
  have B:lo<R.length:=by omega
  obtain⟨L,E⟩:∃ v,R[lo]? = some v:=⟨_,List.getElem?_eq_getElem B⟩;refine Zi 12 (fun m=>?_) fun m=>?_
  ·refine Zz 11 ?_
   refine f_ (zY_ L) rfl g_ zt rfl fun _=>Zz 14 ?_
   exact fO_ results172 ⟨(lo,false),fun q=>(by cases q),fun _=>CW_ hS F hB (fun q=>by rw[E]at q;exact m (Option.some.inj q))⟩ rfl rfl rfl g_ zt
  refine Zz 19 ?_;exact fO_ results172 ⟨(lo,true),fun _=>by rw[E,m],fun q=>by cases q⟩ rfl rfl rfl g_ zt
 have G:(lo+hi) / 2<R.length:=by omega
 have C:((lo+hi) / 2)<R.length:=G;obtain⟨O,x⟩:∃ v,R[((lo+hi) / 2)]? = some v:=⟨_,List.getElem?_eq_getElem C⟩;refine Zz 10 ?_;refine e_ (ao_ (aI_ rfl rfl rfl (bv_ zaa_ zaa_)) (show _=Value.int .i64 ((lo+hi:Nat):Int) from congrArg _ zaa_)) rfl (e_ (vD_ m_ underlying193 rfl (wrapU zaa_ zaa_)) rfl (e_ (yw_ rfl rfl) rfl (e_ (vD_ underlying193 m_ rfl (bv_ zaa_ zaa_)) rfl (Zz 10 ?_))));refine an_ (yj_ O t) rfl g_ zt rfl fun J d=>Zz 2 ?_
 cases J
 ·replace d:=zdf d
  refine Zz 6 ?_;exact x_ ⟨(lo,((lo+hi) / 2)),zaa_,zaa_,F,bs_hi hS x d⟩ zab_ zl g_ zh
 replace d:=zdt d;refine Zz 3 ?_;refine e_ (ao_ (aI_ rfl rfl rfl (bv_ zaa_ zaa_)) (show _=Value.int .i64 (((lo+hi) / 2+1:Nat):Int) from congrArg _ zaa_)) rfl (Zz 3 ?_);exact x_ ⟨(((lo+hi) / 2+1),hi),zaa_,K,bs_lo hS x d,hB⟩ zab_ zl g_ zh
end Go.Proofs.YthmjeabeoodghaaGreatDoor
namespace Go.Proofs.YthmjeabeoodghaaGreatDoor
open Go Go.Sx Go.Proofs Tryz
attribute [local irreducible] Code.wp wpList wpAnyH
open Go.Vs
theorem yQ_ {ks:List (Str×Nat)} {k:Str} (h:k∈ks.map (·.1)):∃ b,hq_ ks k=some b:=by
  cases e:hq_ ks k with
  | none=>exact absurd h (jy_ e)
  | some b=>exact⟨b,rfl⟩
theorem vg_ {S:List RSt} {r:Str}:(ik S r).length≤S.length:=by
  have h:(ik S r) ⊆ S.map (·.2.1):=fun s e=>by
    obtain⟨c,d⟩:=pa_.1 e;exact List.mem_map.2 ⟨_,d,rfl⟩
  have:=(CS_ S r).length_le_of_subset h;rwa [List.length_map]at this
theorem uM_ (x:Nat) (ks:List (Str×Nat)) (S:List RSt) (Hx:Hp) (hT0:MmO x ks S Hx) (hF:Frm ks S) (hkl:ks.length≤100000) (hSl:S.length≤100000):Tri prog 113 #[.map (some x)] Hx [] (fun y:{y:List Grw×Ao×Nat×Ao×Nat // GrO S (bJ_ (List.map (fun p:Str×Nat=>p.1) ks)) (y.1.map Grw.st)∧(∀ z∈y.1,z.st.length≤S.length)∧y.1.length=List.length ks∧(List.length (bJ_ (List.map (fun p:Str×Nat=>p.1) ks))≤y.2.2.1∧y.2.2.1≤maxLen∧(y.2.1=none→y.2.2.1=0))∧(List.length y.1≤y.2.2.2.2∧y.2.2.2.2≤maxLen∧(y.2.2.2.1=none→y.2.2.2.2=0))}=>.agg #[.slice y.1.2.1 (List.length (bJ_ (List.map (fun p:Str×Nat=>p.1) ks))) y.1.2.2.1,.slice y.1.2.2.2.1 y.1.1.length y.1.2.2.2.2]) (fun _=>[]) (fun y=>[X_ y.1.2.1 (List.flatMap au_ (bJ_ (List.map (fun p:Str×Nat=>p.1) ks))),X_ y.1.2.2.2.1 (y.1.1.flatMap Grw.cells),iq_ y.1.1]):=by
 obtain⟨es,U,E,rfl,hE⟩:=hT0;refine j_ func113 rfl rfl ntmps113 rfl fun v_1=>?_;refine Zz 2 ?_;refine y_ zeroValue169 rfl fun B=>Zz 5 ?_
 refine f_ (BV_ x) rfl g_ zt rfl fun bx=>?_;refine f_ (gm_ 230 [zp_ bx 0] [(bx,.cells #[.map (some x)] 171 (0,0)),(x,.map es U)] (List.map (fun p:Str×Nat=>p.1) ks) hE.nd zar_ (Ca_ x bx U es (List.map (fun p:Str×Nat=>p.1) ks) ⟨hE.keys,hE.nd⟩ hE.born zar_)) rfl zp zt rfl fun⟨⟨rad,rcap⟩,a2,a4,a1⟩=>?_;dsimp only;have hrl:List.length (bJ_ (List.map (fun p:Str×Nat=>p.1) ks))=ks.length:=by rw[List.length_mergeSort,List.length_map]
 refine Zz 1 ?_;refine o_ 2 dX_ rfl rfl rfl rfl rfl rfl (Zz 12 ?_);refine A_ (i_ d_ (i_ (c_ d_) (i_ d_ aj_))) ?_;try simp only[List.append_nil]
 have hT:MmO x ks S ((x,.map es U)::List.map (gN_ E) ks):=⟨es,U,E,rfl,hE⟩;refine A_ (H':=((bx,.cells #[.map (some x)] 171 (0,0))::((B,.cells #[.slice rad (List.length (bJ_ (List.map (fun p:Str×Nat=>p.1) ks))) rcap,.slice none 0 0] 169 (0,0))::(((x,.map es U)::List.map (gN_ E) ks)++([]:Hp))))) (List.Perm.cons _ (List.Perm.cons _ (List.Perm.of_eq (List.append_nil _).symm))) ?_;refine O_ (ι:={y:Nat×List Grw×Value×Hp // y.1≤List.length (bJ_ (List.map (fun p:Str×Nat=>p.1) ks))∧GrI S (bJ_ (List.map (fun p:Str×Nat=>p.1) ks)) y.2.1 y.1∧zR 210 1 Grw.cells y.2.2.1 y.2.1 y.2.2.2}) (fun y=>[(0,.map (some x)),(2,zp_ B 0),(15,.slice rad (List.length (bJ_ (List.map (fun p:Str×Nat=>p.1) ks))) rcap),(16,.int .i64 (List.length (bJ_ (List.map (fun p:Str×Nat=>p.1) ks)):Int)),(17,.int .i64 (y.1.1:Int))]) (fun y=>((B,.cells #[.slice rad (List.length (bJ_ (List.map (fun p:Str×Nat=>p.1) ks))) rcap,y.1.2.2.1] 169 (0,0))::(((x,.map es U)::List.map (gN_ E) ks)++y.1.2.2.2))) (fun y=>[X_ rad (List.flatMap au_ (bJ_ (List.map (fun p:Str×Nat=>p.1) ks))),iq_ y.1.2.1]) (fun y=>List.length (bJ_ (List.map (fun p:Str×Nat=>p.1) ks)) - y.1.1) ⟨((0:Nat),([]:List Grw),(.slice none 0 0),([]:Hp)),by simp,GrI.nil,(az_.nil _ _)⟩ zl zp (fun v _ h=>by exact⟨h.1,(show (iq_ ([]:List Grw)).p v from fun z hz=>by simp at hz),trivial⟩) ?_;rintro ⟨⟨i,X,Q,K⟩,b1,M,J⟩;dsimp only at b1 M J ⊢;refine Zi 2 (fun F=>?_) fun F=>?_
 ·refine Zz 7 ?_
  refine bL_ J (c_ bi_) fun b5 P c2 a0 Z a6=>?_;subst c2;refine Zz 2 ?_;refine o_ 0 sizeOf169 rfl rfl rfl rfl rfl rfl (Zz 3 ?_);exact cS_ ⟨(X,rad,rcap,b5,P),(by rw[show i=List.length (bJ_ (List.map (fun p:Str×Nat=>p.1) ks)) from by omega]at M;exact GrI.done hF hE.all hE.nd M),M.short,M.len.trans zaa_,⟨a2,a4,a1⟩,⟨a0,Z,a6⟩⟩ (fun aa v h_1 h_2=>dz_ (us:=[.slice rad (List.length (bJ_ (List.map (fun p:Str×Nat=>p.1) ks))) rcap,.slice b5 X.length P]) 0 results113 isAgg169 sizeOf169 rfl rfl rfl aa v h_1 h_2) g_ zf
 have I:i<List.length (bJ_ (List.map (fun p:Str×Nat=>p.1) ks)):=by omega
 obtain⟨d,Y⟩:∃ a5,(bJ_ (List.map (fun p:Str×Nat=>p.1) ks))[i]? = some a5:=⟨_,List.getElem?_eq_getElem I⟩;have a8:d∈(bJ_ (List.map (fun p:Str×Nat=>p.1) ks)):=List.mem_of_getElem? Y;refine Zz 22 ?_;have hkm:d∈(List.map (fun p:Str×Nat=>p.1) ks):=List.mem_mergeSort.1 a8;obtain⟨bk,N⟩:=yQ_ hkm;refine Zz 3 ?_;refine e_ (ao_ (fn_ (k:=d) ei_ di_ ex_ hT rfl rfl zp) (congrArg nn_ N)) rfl (f_ (ld_ bk) rfl g_ zt rfl fun by_=>?_);obtain⟨b8,cb,Hr,R,V,b9,_⟩:=hT.at N;refine A_ (i_ d_ (i_ d_ (B_ bi_ aj_))) ?_;try simp only[List.append_nil]
 refine A_ (List.Perm.cons _ (List.Perm.cons _ (List.Perm.append_left K R))) (f_ (gm_ 122 [zp_ by_ 0] [(by_,.cells #[.map (some bk)] 101 (0,0)),(bk,.map b8 cb)] (ik S d) (CS_ S d) (by have:=vg_ (S:=S) (r:=d);omega) (li_ bk by_ cb b8 (ik S d) ⟨V.keys,V.nd⟩ b9 (by have:=vg_ (S:=S) (r:=d);omega))) rfl (i_ d_ (c_ (l_ d_))) zt rfl fun⟨⟨sad,c0⟩,hss_1,hss_2,hss_3⟩=>?_);dsimp only;have hsl:List.length (bJ_ (ik S d))=List.length (ik S d):=List.length_mergeSort _;have hil:=vg_ (S:=S) (r:=d);refine Zz 5 ?_;refine A_ (i_ d_ (i_ (c_ d_) (B_ (c_ w_) (i_ d_ aj_)))) ?_;try simp only[List.append_nil]
 refine A_ (List.Perm.cons _ (List.Perm.cons _ (List.Perm.append_left K R.symm))) (A_ (H':=((by_,.cells #[.map (some bk)] 101 (0,0))::((B,.cells #[.slice rad (List.length (bJ_ (List.map (fun p:Str×Nat=>p.1) ks))) rcap,Q] 169 (0,0))::(K++(((x,.map es U)::List.map (gN_ E) ks)++([]:Hp)))))) (List.Perm.cons _ (List.Perm.cons _ (List.Perm.append_left K (List.Perm.of_eq (List.append_nil _).symm)))) ?_);refine O_ (ι:={y:Nat×List (Nat×Bool)×Value×Hp // y.1≤List.length (bJ_ (ik S d))∧GrR S (bJ_ (List.map (fun p:Str×Nat=>p.1) ks)) d (List.take y.1 (bJ_ (ik S d))) y.2.1∧y.2.1.length≤y.1∧zR 214 2 tI_ y.2.2.1 y.2.1 y.2.2.2}) (fun y=>[(0,.map (some x)),(2,zp_ B 0),(15,.slice rad (List.length (bJ_ (List.map (fun p:Str×Nat=>p.1) ks))) rcap),(16,.int .i64 (List.length (bJ_ (List.map (fun p:Str×Nat=>p.1) ks)):Int)),(17,.int .i64 (i:Int)),(4,str d),(5,y.1.2.2.1),(25,.slice sad (List.length (bJ_ (ik S d))) c0),(26,.int .i64 (List.length (bJ_ (ik S d)):Int)),(27,.int .i64 (y.1.1:Int))]) (fun y=>((B,.cells #[.slice rad (List.length (bJ_ (List.map (fun p:Str×Nat=>p.1) ks))) rcap,Q] 169 (0,0))::(K++(((x,.map es U)::List.map (gN_ E) ks)++y.1.2.2.2)))) (fun y=>[X_ sad (List.flatMap au_ (bJ_ (ik S d))),X_ rad (List.flatMap au_ (bJ_ (List.map (fun p:Str×Nat=>p.1) ks))),iq_ X]) (fun y=>List.length (bJ_ (ik S d)) - y.1.1) ⟨((0:Nat),([]:List (Nat×Bool)),(.slice none 0 0),([]:Hp)),by simp,(by rw[List.take_zero];exact GrR.nil),zaf_,(az_.nil _ _)⟩ zl zp zh ?_;rintro ⟨⟨j,L,a7,a9⟩,b0,hL,hLl,e⟩;dsimp only at b0 hL hLl e ⊢;refine Zi 2 (fun G=>?_) fun G=>?_
 ·refine Zz 6 ?_
  refine bL_ e (c_ (l_ bi_)) fun lad lcap c1 hclad hmlad hzlad=>?_;subst c1;refine Zz 4 ?_;refine G_ runUnderlying167 sizeOf210 zeroValue210 rfl rfl rfl rfl rfl rfl fun b_2=>?_;refine aO_ (news:=List.flatMap Grw.cells [(Grw.mk L lad lcap)]) Cn_ J rfl rfl (c_ (c_ w_)) rfl (bz_ 0 rfl) (fun u hu=>bn_ Grw.cells_one hu) zaV_ zbg_ rfl fun C H F=>?_;have A:=zsa F;refine Zz 1 ?_;refine A_ (R_ (l_ d_) (bg_ (l_ d_))) (cq_ 1 A sizeOf167 rfl rfl rfl rfl (Zz 7 ?_));exact x_ ⟨(i+1,(X++[(Grw.mk L lad lcap)]),C,H),I,M.snoc Y (by have q:=hL;rw[List.take_of_length_le zaa_]at q;exact q) zab_,A⟩ zab_ zl (i_ (c_ d_) (B_ (c_ bi_) C_)) (fun v _ h=>by exact⟨h.2.2.1,vh_ h.2.2.2.1 h.1,trivial⟩)
 have m:j<List.length (bJ_ (ik S d)):=by omega
 obtain⟨b2,T⟩:∃ a5,(bJ_ (ik S d))[j]? = some a5:=⟨_,List.getElem?_eq_getElem m⟩;refine Zz 20 ?_;refine f_ (binS_c (bJ_ (List.map (fun p:Str×Nat=>p.1) ks)) rad rcap b2 (iR_ hE.nd) zaa_) rfl g_ zf rfl fun⟨⟨b3,b6⟩,O,W⟩=>?_;dsimp only;dsimp only at O W;refine Zz 12 ?_;cases b6
 ·refine Zz 8 ?_
  exact x_ ⟨(j+1,L,a7,a9),m,(by rw[take_snoc T];exact hL.no (W rfl)),zab_,e⟩ zab_ zl zp zh
 refine Zz 6 ?_;refine e_ (ao_ (fn_ (k:=d) ei_ di_ ex_ hT rfl rfl zp) (congrArg nn_ N)) rfl (Zz 1 ?_);refine E_ (kg_ (k:=d) (s:=b2) ei_ bf_ bR_ hT N rfl rfl zp) rfl fun b4 b7=>e_ (u_ Bl_ rfl rfl) rfl (G_ runUnderlying210 sizeOf214 zeroValue214 rfl rfl rfl rfl rfl rfl fun b_2=>?_)
 refine aO_ (news:=List.flatMap tI_ [(Prod.mk b3 b4)]) Co_ e rfl rfl (c_ (c_ (l_ bi_))) rfl (bz_ 0 rfl) (fun u hu=>bn_ Al_ hu) zaV_ zbg_ rfl fun C H G=>?_;have A:=zsa G;refine Zz 3 ?_;refine A_ (R_ (l_ d_) (bg_ (l_ d_))) (Zz 5 ?_);exact x_ ⟨(j+1,(L++[(Prod.mk b3 b4)]),C,H),m,(by rw[take_snoc T,← b7];exact hL.yes (SrS.nd (iR_ hE.nd)) (O rfl)),zbx_,A⟩ zab_ zl zp zh
end Go.Proofs.YthmjeabeoodghaaGreatDoor
