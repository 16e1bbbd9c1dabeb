/-
  Part of the proof of the law ModuleShrinks over this seat: the small logic, the data, the contracts of functions (no condition).
-/
import Derived.Test.YtamklbgaipakfaaGreatDoorQModuleShrinks12
import Derived.Test.YtamklbgaipakfaaGreatDoorQModuleShrinks11
import Derived.Test.YtamklbgaipakfaaGreatDoorQModuleShrinks3
import Derived.Test.YtamklbgaipakfaaGreatDoorQModuleShrinks7
import Derived.Test.YtamklbgaipakfaaGreatDoorQModuleShrinks10
import Derived.Test.YtamklbgaipakfaaGreatDoorQModuleShrinks9
set_option linter.unusedVariables false
set_option linter.unusedSimpArgs false
set_option linter.unusedSectionVars false
set_option maxHeartbeats 1000000
namespace Go.Proofs.YtamklbgaipakfaaGreatDoor
open Go Go.Sx Go.Proofs
attribute [local irreducible] Code.wp wpList wpAnyH
open Go.Vs
theorem sk_ {ks:List (Str×Nat)} {k:Str} (h:k∈ks.map (·.1)):∃ b,eQ_ ks k=some b:=by
  cases e:eQ_ ks k with
  | none=>exact absurd h (eu_ e)
  | some b=>exact⟨b,rfl⟩
theorem pq_ {S:List RSt} {r:Str}:(ik S r).length≤S.length:=by
  have h:(ik S r) ⊆ S.map (·.2.1):=fun s hs=>by
    obtain⟨c,hc⟩:=ks_.1 hs
    exact List.mem_map.2 ⟨_,hc,rfl⟩
  have:=(vg_ S r).length_le_of_subset h
  rwa [List.length_map]at this
theorem pc_ (mb:Nat) (ks:List (Str×Nat)) (S:List RSt) (Hx:Hp) (hT0:MmO mb ks S Hx) (hF:Frm ks S) (hkl:ks.length≤100000) (hSl:S.length≤100000):Tri Tryz.prog 102 #[.map (some mb)] Hx [] (fun y:{y:List Grw×Option Addr×Nat×Option Addr×Nat // GrO S (bb_ (List.map (fun p:Str×Nat=>p.1) ks)) (List.map Grw.st y.1)∧(∀ z∈y.1,z.st.length≤S.length)∧List.length y.1=List.length ks∧(List.length (bb_ (List.map (fun p:Str×Nat=>p.1) ks))≤y.2.2.1∧y.2.2.1≤maxLen∧(y.2.1=none→y.2.2.1=0))∧(List.length y.1≤y.2.2.2.2∧y.2.2.2.2≤maxLen∧(y.2.2.2.1=none→y.2.2.2.2=0))}=>.agg #[.slice y.1.2.1 (List.length (bb_ (List.map (fun p:Str×Nat=>p.1) ks))) y.1.2.2.1,.slice y.1.2.2.2.1 (List.length y.1.1) y.1.2.2.2.2]) (fun _=>[]) (fun y=>[ac_ y.1.2.1 (List.flatMap aJ_ (bb_ (List.map (fun p:Str×Nat=>p.1) ks))),ac_ y.1.2.2.2.1 (List.flatMap Grw.cells y.1.1),gh_ y.1.1]):=by
 obtain⟨es,cm,E,rfl,hE⟩:=hT0
 refine j_ Tryz.func102 rfl rfl Tryz.ntmps102 rfl fun v0=>?_
 refine Zz 2 ?_
 refine G_ Tryz.zeroValue163 rfl fun b1=>Zz 5 ?_
 refine d_ (qg_ mb) rfl e_ zt rfl fun bx=>?_
 refine d_ (ix_ 239 [zp_ bx 0] [(bx,.cells #[.map (some mb)] 165 (0,0)),(mb,.map es cm)] (List.map (fun p:Str×Nat=>p.1) ks) hE.nd (by rw[List.length_map];omega) (qh_ mb bx cm es (List.map (fun p:Str×Nat=>p.1) ks) ⟨hE.keys,hE.nd⟩ hE.born (by rw[List.length_map];omega))) rfl zp zt rfl fun⟨⟨rad,rcap⟩,hrs1,hrs2,hrs3⟩=>?_
 dsimp only
 have hrl:List.length (bb_ (List.map (fun p:Str×Nat=>p.1) ks))=List.length ks:=by rw[List.length_mergeSort,List.length_map]
 refine Zz 1 ?_
 refine n_ 2 vb_ rfl rfl rfl rfl rfl rfl (Zz 12 ?_)
 refine u_ (V_ i_ (V_ (l_ i_) (V_ i_ am_))) ?_
 try simp only[List.append_nil]
 have hT:MmO mb ks S ((mb,.map es cm)::List.map (fk_ E) ks):=⟨es,cm,E,rfl,hE⟩
 refine u_ (H':=((bx,.cells #[.map (some mb)] 165 (0,0))::((b1,.cells #[.slice rad (List.length (bb_ (List.map (fun p:Str×Nat=>p.1) ks))) rcap,.slice none 0 0] 163 (0,0))::(((mb,.map es cm)::List.map (fk_ E) ks)++([]:Hp))))) (List.Perm.cons _ (List.Perm.cons _ (List.Perm.of_eq (List.append_nil _).symm))) ?_
 refine Y_ (ι:={y:Nat×List Grw×Value×Hp // y.1≤List.length (bb_ (List.map (fun p:Str×Nat=>p.1) ks))∧GrI S (bb_ (List.map (fun p:Str×Nat=>p.1) ks)) y.2.1 y.1∧zR 228 1 Grw.cells y.2.2.1 y.2.1 y.2.2.2}) (fun y=>[(0,.map (some mb)),(2,zp_ b1 0),(15,.slice rad (List.length (bb_ (List.map (fun p:Str×Nat=>p.1) ks))) rcap),(16,.int .i64 (List.length (bb_ (List.map (fun p:Str×Nat=>p.1) ks)):Int)),(17,.int .i64 (y.1.1:Int))]) (fun y=>((b1,.cells #[.slice rad (List.length (bb_ (List.map (fun p:Str×Nat=>p.1) ks))) rcap,y.1.2.2.1] 163 (0,0))::(((mb,.map es cm)::List.map (fk_ E) ks)++y.1.2.2.2))) (fun y=>[ac_ rad (List.flatMap aJ_ (bb_ (List.map (fun p:Str×Nat=>p.1) ks))),gh_ y.1.2.1]) (fun y=>List.length (bb_ (List.map (fun p:Str×Nat=>p.1) ks)) - y.1.1) ⟨((0:Nat),([]:List Grw),(.slice none 0 0),([]:Hp)),by simp,GrI.nil,(ar_.nil _ _)⟩ zl zp (fun v _ h=>by exact⟨h.1,(show (gh_ ([]:List Grw)).p v from fun z hz=>by simp at hz),trivial⟩) ?_
 rintro ⟨⟨i,X,sv_G,H_G⟩,hi_i,hI,hr_G⟩
 dsimp only at hi_i hI hr_G ⊢
 refine Zi 2 (fun hr1=>?_) fun hr1=>?_
 ·refine Zz 7 ?_
  refine bu_ hr_G (l_ br_) fun gad gcap hgad hcgad hmgad hzgad=>?_
  subst hgad
  refine Zz 2 ?_
  refine n_ 0 gv_ rfl rfl rfl rfl rfl rfl (Zz 3 ?_)
  exact cr_ ⟨(X,rad,rcap,gad,gcap),(by rw[show i=List.length (bb_ (List.map (fun p:Str×Nat=>p.1) ks)) from by omega]at hI;exact GrI.done hF hE.all hE.nd hI),hI.short,hI.len.trans (by omega),⟨hrs1,hrs2,hrs3⟩,⟨hcgad,hmgad,hzgad⟩⟩ (fun aa v h1 h2=>dT_ (us:=[.slice rad (List.length (bb_ (List.map (fun p:Str×Nat=>p.1) ks))) rcap,.slice gad (List.length X) gcap]) 0 Tryz.results102 Tryz.isAgg163 gv_ rfl rfl rfl aa v h1 h2) e_ zf
 have hlr0:i<List.length (bb_ (List.map (fun p:Str×Nat=>p.1) ks)):=by omega
 obtain⟨r0,hr0⟩:∃ e0,(bb_ (List.map (fun p:Str×Nat=>p.1) ks))[i]? = some e0:=⟨_,List.getElem?_eq_getElem hlr0⟩
 have hmr0:r0∈(bb_ (List.map (fun p:Str×Nat=>p.1) ks)):=List.mem_of_getElem? hr0
 refine Zz 22 ?_
 have hkm:r0∈(List.map (fun p:Str×Nat=>p.1) ks):=List.mem_mergeSort.1 hmr0
 obtain⟨bk,hbk⟩:=sk_ hkm
 refine Zz 3 ?_
 refine c_ (aA_ (ep_ (k:=r0) fh_ cK_ eO_ hT rfl rfl zp) (congrArg jm_ hbk)) rfl (d_ (uD_ bk) rfl e_ zt rfl fun by_=>?_)
 obtain⟨esb,cb,Hr,hp1,hB1,hB2,_⟩:=hT.at hbk
 refine u_ (V_ i_ (V_ i_ (bi_ br_ am_))) ?_
 try simp only[List.append_nil]
 refine u_ (List.Perm.cons _ (List.Perm.cons _ (List.Perm.append_left H_G hp1))) (d_ (ix_ 201 [zp_ by_ 0] [(by_,.cells #[.map (some bk)] 184 (0,0)),(bk,.map esb cb)] (ik S r0) (vg_ S r0) (by have:=pq_ (S:=S) (r:=r0);omega) (uE_ bk by_ cb esb (ik S r0) ⟨hB1.keys,hB1.nd⟩ hB2 (by have:=pq_ (S:=S) (r:=r0);omega))) rfl (V_ i_ (l_ (an_ i_))) zt rfl fun⟨⟨sad,scap⟩,hss1,hss2,hss3⟩=>?_)
 dsimp only
 have hsl:List.length (bb_ (ik S r0))=List.length (ik S r0):=List.length_mergeSort _
 have hil:=pq_ (S:=S) (r:=r0)
 refine Zz 5 ?_
 refine u_ (V_ i_ (V_ (l_ i_) (bi_ (l_ aI_) (V_ i_ am_)))) ?_
 try simp only[List.append_nil]
 refine u_ (List.Perm.cons _ (List.Perm.cons _ (List.Perm.append_left H_G hp1.symm))) (u_ (H':=((by_,.cells #[.map (some bk)] 184 (0,0))::((b1,.cells #[.slice rad (List.length (bb_ (List.map (fun p:Str×Nat=>p.1) ks))) rcap,sv_G] 163 (0,0))::(H_G++(((mb,.map es cm)::List.map (fk_ E) ks)++([]:Hp)))))) (List.Perm.cons _ (List.Perm.cons _ (List.Perm.append_left H_G (List.Perm.of_eq (List.append_nil _).symm)))) ?_)
 refine Y_ (ι:={y:Nat×List (Nat×Bool)×Value×Hp // y.1≤List.length (bb_ (ik S r0))∧GrR S (bb_ (List.map (fun p:Str×Nat=>p.1) ks)) r0 (List.take y.1 (bb_ (ik S r0))) y.2.1∧List.length y.2.1≤y.1∧zR 231 2 ok_ y.2.2.1 y.2.1 y.2.2.2}) (fun y=>[(0,.map (some mb)),(2,zp_ b1 0),(15,.slice rad (List.length (bb_ (List.map (fun p:Str×Nat=>p.1) ks))) rcap),(16,.int .i64 (List.length (bb_ (List.map (fun p:Str×Nat=>p.1) ks)):Int)),(17,.int .i64 (i:Int)),(4,str r0),(5,y.1.2.2.1),(25,.slice sad (List.length (bb_ (ik S r0))) scap),(26,.int .i64 (List.length (bb_ (ik S r0)):Int)),(27,.int .i64 (y.1.1:Int))]) (fun y=>((b1,.cells #[.slice rad (List.length (bb_ (List.map (fun p:Str×Nat=>p.1) ks))) rcap,sv_G] 163 (0,0))::(H_G++(((mb,.map es cm)::List.map (fk_ E) ks)++y.1.2.2.2)))) (fun y=>[ac_ sad (List.flatMap aJ_ (bb_ (ik S r0))),ac_ rad (List.flatMap aJ_ (bb_ (List.map (fun p:Str×Nat=>p.1) ks))),gh_ X]) (fun y=>List.length (bb_ (ik S r0)) - y.1.1) ⟨((0:Nat),([]:List (Nat×Bool)),(.slice none 0 0),([]:Hp)),by simp,(by rw[List.take_zero];exact GrR.nil),(by simp),(ar_.nil _ _)⟩ zl zp zh ?_
 rintro ⟨⟨j,L,sv_RL,H_RL⟩,hi_j,hL,hLl,hr_RL⟩
 dsimp only at hi_j hL hLl hr_RL ⊢
 refine Zi 2 (fun hr2=>?_) fun hr2=>?_
 ·refine Zz 6 ?_
  refine bu_ hr_RL (l_ (an_ br_)) fun lad lcap hlad hclad hmlad hzlad=>?_
  subst hlad
  refine Zz 4 ?_
  refine B_ Tryz.runUnderlying161 Tryz.sizeOf228 Tryz.zeroValue228 rfl rfl rfl rfl rfl rfl fun b2=>?_
  refine aX_ (news:=List.flatMap Grw.cells [(Grw.mk L lad lcap)]) uM_ hr_G rfl rfl (l_ (l_ aI_)) rfl (bC_ 0 rfl) (fun u hu=>bY_ Grw.cells_one hu) (by simp only[maxLen];((try simp only[List.length_append,List.length_cons,List.length_nil]);have q0:=hI.len;omega)) (by ((try simp only[List.length_append,List.length_cons,List.length_nil]);have q0:=hI.len;omega)) rfl fun sv1 Hr1 hr1=>?_
  have hq1:=zsa hr1
  refine Zz 1 ?_
  refine u_ (bm_ (an_ i_) (bO_ (an_ i_))) (cs_ 1 hq1 Tryz.sizeOf161 rfl rfl rfl rfl (Zz 7 ?_))
  exact z_ ⟨(i+1,(X++[(Grw.mk L lad lcap)]),sv1,Hr1),hlr0,hI.snoc hr0 (by have q:=hL;rw[List.take_of_length_le (by omega)]at q;exact q) (by dsimp only;omega),hq1⟩ (by dsimp only;omega) zl (V_ (l_ i_) (bi_ (l_ br_) au_)) (fun v _ h=>by exact⟨h.2.2.1,pr_ h.2.2.2.1 h.1,trivial⟩)
 have hls0:j<List.length (bb_ (ik S r0)):=by omega
 obtain⟨s0,hs0⟩:∃ e0,(bb_ (ik S r0))[j]? = some e0:=⟨_,List.getElem?_eq_getElem hls0⟩
 have hms0:s0∈(bb_ (ik S r0)):=List.mem_of_getElem? hs0
 refine Zz 20 ?_
 refine d_ (binS_c (bb_ (List.map (fun p:Str×Nat=>p.1) ks)) rad rcap s0 (gt_ hE.nd) (by omega)) rfl e_ zf rfl fun⟨⟨n1,ok1⟩,hy1,hy2⟩=>?_
 dsimp only
 dsimp only at hy1 hy2
 refine Zz 12 ?_
 cases ok1
 ·refine Zz 8 ?_
  exact z_ ⟨(j+1,L,sv_RL,H_RL),hls0,(by rw[take_snoc hs0];exact hL.no (hy2 rfl)),(by dsimp only;omega),hr_RL⟩ (by dsimp only;omega) zl zp zh
 refine Zz 6 ?_
 refine c_ (aA_ (ep_ (k:=r0) fh_ cK_ eO_ hT rfl rfl zp) (congrArg jm_ hbk)) rfl (Zz 1 ?_)
 refine y_ (hl_ (k:=r0) (s:=s0) fh_ dC_ fL_ hT hbk rfl rfl zp) rfl fun r3 hr3=>c_ (A_ ue_ rfl rfl) rfl (B_ bK_ Tryz.sizeOf231 Tryz.zeroValue231 rfl rfl rfl rfl rfl rfl fun b3=>?_)
 refine aX_ (news:=List.flatMap ok_ [(Prod.mk n1 r3)]) uN_ hr_RL rfl rfl (l_ (l_ (an_ br_))) rfl (bC_ 0 rfl) (fun u hu=>bY_ tq_ hu) (by simp only[maxLen];((try simp only[List.length_append,List.length_cons,List.length_nil]);have q0:=hI.len;omega)) (by ((try simp only[List.length_append,List.length_cons,List.length_nil]);have q0:=hI.len;omega)) rfl fun sv2 Hr2 hr2=>?_
 have hq2:=zsa hr2
 refine Zz 3 ?_
 refine u_ (bm_ (an_ i_) (bO_ (an_ i_))) (Zz 5 ?_)
 exact z_ ⟨(j+1,(L++[(Prod.mk n1 r3)]),sv2,Hr2),hls0,(by rw[take_snoc hs0,← hr3];exact hL.yes (SrS.nd (gt_ hE.nd)) (hy1 rfl)),(by dsimp only;simp only[List.length_append,List.length_singleton];omega),hq2⟩ (by dsimp only;omega) zl zp zh
end Go.Proofs.YtamklbgaipakfaaGreatDoor
namespace Go.Proofs.YtamklbgaipakfaaGreatDoor
open Go Go.Sx Go.Proofs
attribute [local irreducible] Code.wp wpList wpAnyH
open Go.Vs
theorem rc_ (L:List Int) (sv:Value) (Hr:Hp) (hr:zR 3 1 ct_ sv L Hr) (hl:L.length≤1000000000):Tri Tryz.prog 189 #[sv] Hr [] (fun _:{H:Hp // zR 3 1 ct_ sv L.reverse H}=>.tuple #[]) (fun y=>y.1) (fun _=>[]):=by
 refine j_ Tryz.func189 rfl rfl Tryz.ntmps189 rfl fun v0=>?_
 refine Zz 3 ?_
 refine c_ (du_ hr I_ rfl) rfl (Zz 6 ?_)
 refine bp_ [(0,sv),(2,.int .i64 0),(3,.int .i64 ((List.length L:Int) - 1 - ((0:Nat):Int)))] ⟨rfl,rfl,(O_ rfl (by omega)),trivial⟩ ?_
 refine Y_ (ι:={y:Nat×List Int×Value×Hp // RevI L y.2.1 y.1∧y.2.2.1=sv∧zR 3 1 ct_ y.2.2.1 y.2.1 y.2.2.2}) (fun y=>[(0,y.1.2.2.1),(2,.int .i64 (y.1.1:Int)),(3,.int .i64 ((List.length L:Int) - 1 - (y.1.1:Int)))]) (fun y=>(y.1.2.2.2)) (fun y=>[]) (fun y=>List.length L - y.1.1) ⟨((0:Nat),L,sv,Hr),RevI.zero L,rfl,hr⟩ zl am_ zt ?_
 rintro ⟨⟨k,M,sv_W,H_W⟩,hR,hsv,hr_W⟩
 dsimp only at hR hsv hr_W ⊢
 refine Zi 5 (fun hr1=>?_) fun hr1=>?_
 ·refine Zz 5 ?_
  have eM:=hR.done hr1
  subst eM
  rw[hsv]at hr_W
  exact dS_ Tryz.results189 ⟨H_W,hr_W⟩ rfl am_ zt
 have htest:=hr1
 have hML:=hR.len
 have hla1:(Int.toNat ((List.length L:Int) - 1 - (k:Int)))<List.length M:=by omega
 obtain⟨a1,ha1⟩:∃ e0,M[(Int.toNat ((List.length L:Int) - 1 - (k:Int)))]? = some e0:=⟨_,List.getElem?_eq_getElem hla1⟩
 have hma1:a1∈M:=List.mem_of_getElem? ha1
 have hlb1:k<List.length M:=by omega
 obtain⟨b1,hb1⟩:∃ e0,M[k]? = some e0:=⟨_,List.getElem?_eq_getElem hlb1⟩
 have hmb1:b1∈M:=List.mem_of_getElem? hb1
 refine Zz 7 ?_
 refine bf_ ([]) zk ?_
 refine Q_ 6 [0,1,2,3,4,5,6,8,9,10] zk zs (Zz 6 ?_)
 refine P_ rfl (bv_ hr_W I_ U_ rfl rfl (by omega) (by omega)) rfl (Zz 2 ?_)
 refine P_ rfl (bv_ hr_W I_ U_ rfl rfl (by omega) (by omega)) rfl (ba_ ?_)
 refine jD_ 7 11 rfl rfl zk ?_ ?_
 ·refine c_ (dg_ hr_W am_ aZ_ rfl (o_ aS_ ha1 0 _ rfl)) rfl (Zz 3 ?_)
  refine p_ 11 rfl zk (c_ (dg_ hr_W am_ aZ_ rfl (o_ aS_ hb1 0 _ rfl)) rfl (Zz 3 ?_))
  refine Q_ 3 [12] zk zs (P_ rfl (bv_ hr_W I_ U_ rfl rfl (by omega) (by omega)) rfl (ba_ (p_ 13 rfl zk (dU_ (k:=(k:Int).toNat*1+0) hr_W am_ U_ rfl rfl (by omega) rfl rfl fun Hr1 hr1=>?_))))
  have hs1:=(fZ_ ct_ 1 aS_ M k 0 b1 a1 (.int .i64 a1) hb1 (by decide) rfl).trans (congrArg _ (rfl))
  have hq1:ar_ 3 1 sv_W (List.length (List.set M k a1)) (List.flatMap ct_ (List.set M k a1)) Hr1:=by rw[← hs1,show List.length (List.set M k a1)=List.length M from (List.length_set ..)];exact hr1
  refine u_ dO_ (Zz 3 ?_)
  refine p_ 14 rfl zk ?_
  have hb2:(List.set M k a1)[(Int.toNat ((List.length L:Int) - 1 - (k:Int)))]? = some a1:=by rw[List.getElem?_set_ne (by omega)];exact ha1
  have hlb2:(Int.toNat ((List.length L:Int) - 1 - (k:Int)))<List.length (List.set M k a1):=by rw[List.length_set];omega
  refine c_ (bv_ hq1 I_ U_ rfl rfl (by omega) (by omega)) rfl (Zz 3 ?_)
  refine p_ 15 rfl zk (dU_ (k:=((Int.toNat ((List.length L:Int) - 1 - (k:Int))):Int).toNat*1+0) hq1 am_ U_ rfl rfl (by omega) rfl rfl fun Hr2 hr2=>?_)
  have hs2:=(fZ_ ct_ 1 aS_ (List.set M k a1) (Int.toNat ((List.length L:Int) - 1 - (k:Int))) 0 a1 b1 (.int .i64 b1) hb2 (by decide) rfl).trans (congrArg _ (rfl))
  have hq2:ar_ 3 1 sv_W (List.length (List.set (List.set M k a1) (Int.toNat ((List.length L:Int) - 1 - (k:Int))) b1)) (List.flatMap ct_ (List.set (List.set M k a1) (Int.toNat ((List.length L:Int) - 1 - (k:Int))) b1)) Hr2:=by rw[← hs2,show List.length (List.set (List.set M k a1) (Int.toNat ((List.length L:Int) - 1 - (k:Int))) b1)=List.length (List.set M k a1) from (List.length_set ..)];exact hr2
  refine u_ dO_ (Zz 14 ?_)
  exact z_ ⟨(k+1,(List.set (List.set M k a1) (Int.toNat ((List.length L:Int) - 1 - (k:Int))) b1),sv_W,Hr2),(by have q:=hR.step htest (show M[List.length L - 1 - k]? = some a1 from by rw[show List.length L - 1 - k=(Int.toNat ((List.length L:Int) - 1 - (k:Int))) by omega];exact ha1) hb1;rw[show List.length L - 1 - k=(Int.toNat ((List.length L:Int) - 1 - (k:Int))) by omega]at q;exact q),hsv,hq2⟩ (by dsimp only;omega) ⟨rfl,rfl,(O_ rfl (by dsimp only;omega)),trivial⟩ am_ zt
 refine c_ (dg_ hr_W am_ aZ_ rfl (o_ aS_ hb1 0 _ rfl)) rfl (Zz 3 ?_)
 refine p_ 7 rfl zk (c_ (dg_ hr_W am_ aZ_ rfl (o_ aS_ ha1 0 _ rfl)) rfl (Zz 3 ?_))
 refine Q_ 3 [12] zk zs (P_ rfl (bv_ hr_W I_ U_ rfl rfl (by omega) (by omega)) rfl (ba_ (p_ 13 rfl zk (dU_ (k:=(k:Int).toNat*1+0) hr_W am_ U_ rfl rfl (by omega) rfl rfl fun Hr3 hr3=>?_))))
 have hs3:=(fZ_ ct_ 1 aS_ M k 0 b1 a1 (.int .i64 a1) hb1 (by decide) rfl).trans (congrArg _ (rfl))
 have hq3:ar_ 3 1 sv_W (List.length (List.set M k a1)) (List.flatMap ct_ (List.set M k a1)) Hr3:=by rw[← hs3,show List.length (List.set M k a1)=List.length M from (List.length_set ..)];exact hr3
 refine u_ dO_ (Zz 3 ?_)
 refine p_ 14 rfl zk ?_
 have hb2:(List.set M k a1)[(Int.toNat ((List.length L:Int) - 1 - (k:Int)))]? = some a1:=by rw[List.getElem?_set_ne (by omega)];exact ha1
 have hlb2:(Int.toNat ((List.length L:Int) - 1 - (k:Int)))<List.length (List.set M k a1):=by rw[List.length_set];omega
 refine c_ (bv_ hq3 I_ U_ rfl rfl (by omega) (by omega)) rfl (Zz 3 ?_)
 refine p_ 15 rfl zk (dU_ (k:=((Int.toNat ((List.length L:Int) - 1 - (k:Int))):Int).toNat*1+0) hq3 am_ U_ rfl rfl (by omega) rfl rfl fun Hr4 hr4=>?_)
 have hs4:=(fZ_ ct_ 1 aS_ (List.set M k a1) (Int.toNat ((List.length L:Int) - 1 - (k:Int))) 0 a1 b1 (.int .i64 b1) hb2 (by decide) rfl).trans (congrArg _ (rfl))
 have hq4:ar_ 3 1 sv_W (List.length (List.set (List.set M k a1) (Int.toNat ((List.length L:Int) - 1 - (k:Int))) b1)) (List.flatMap ct_ (List.set (List.set M k a1) (Int.toNat ((List.length L:Int) - 1 - (k:Int))) b1)) Hr4:=by rw[← hs4,show List.length (List.set (List.set M k a1) (Int.toNat ((List.length L:Int) - 1 - (k:Int))) b1)=List.length (List.set M k a1) from (List.length_set ..)];exact hr4
 refine u_ dO_ (Zz 14 ?_)
 exact z_ ⟨(k+1,(List.set (List.set M k a1) (Int.toNat ((List.length L:Int) - 1 - (k:Int))) b1),sv_W,Hr4),(by have q:=hR.step htest (show M[List.length L - 1 - k]? = some a1 from by rw[show List.length L - 1 - k=(Int.toNat ((List.length L:Int) - 1 - (k:Int))) by omega];exact ha1) hb1;rw[show List.length L - 1 - k=(Int.toNat ((List.length L:Int) - 1 - (k:Int))) by omega]at q;exact q),hsv,hq4⟩ (by dsimp only;omega) ⟨rfl,rfl,(O_ rfl (by dsimp only;omega)),trivial⟩ am_ zt
def b2C (e:Bool×Bool):List Value:=[.bool e.1,.bool e.2]
theorem io_ (e:Bool×Bool):(b2C e).length=2:=rfl
structure SeenI (W:List Wy) (B:List (Bool×Bool)) (n:Nat):Prop where
  len:B.length=n
  at':∀ r,r<n→B[r]? = some (jo_ W r false,jo_ W r true)
theorem lF_ (W:List Wy) (w:Wy) (r:Nat) (b:Bool):jo_ (W++[w]) r b=(jo_ W r b||(w.role==r&&w.strict==b)):=by simp[jo_]
theorem SeenI.push {W:List Wy} {B:List (Bool×Bool)} {n r:Nat} {b:Bool} {bf m:Nat} {u:Bool×Bool} (h:SeenI W B n) (hr:B[r]? = some u):SeenI (W++[⟨r,b,bf,m⟩]) (B.set r (if b then (u.1,true) else (true,u.2))) n:=by
 have hrl:=(List.getElem?_eq_some_iff.1 hr).1
 have hl:=h.len
 refine⟨by rw[List.length_set,h.len],fun q hq=>?_⟩
 have hq0:=h.at' q hq
 rw[lF_,lF_,List.getElem?_set]
 by_cases e:r=q
 ·subst e
  rw[if_pos rfl,if_pos hrl]
  rw[hr]at hq0
  simp only[Option.some.injEq]at hq0
  subst hq0
  cases b<;>simp
 rw[if_neg e,hq0]
 have:(r==q)=false:=by simp[e]
 simp[this]
theorem SeenI.init {n s:Nat} (hs:s<n):SeenI [⟨s,false,0,0⟩] (List.set (List.replicate n (false,false)) s (true,false)) n:=by
  have h0:SeenI [] (List.replicate n (false,false)) n:=⟨List.length_replicate,fun r hr=>by rw[List.getElem?_replicate,if_pos hr];rfl⟩
  have h1:(List.replicate n (false,false))[s]? = some (false,false):=by rw[List.getElem?_replicate,if_pos hs]
  have:=h0.push (b:=false) (bf:=0) (m:=0) h1
  simpa using this
def CirR (G:List (List (Nat×Bool))) (start most:Nat) (L:List Int) (ad:Option Addr) (cap:Nat):Prop :=
  (L=[]∧ad=none∧cap=0∧∀ (n:Nat) (f:Nat→Nat) (c:Nat→Bool),Clw (gE G) n f c→f 0=start→most≤n) ∨
  (ad≠none∧(∃ n,Clo (gE G) n)∧(∀ x∈L,0≤x∧x<(G.length:Int))∧L.length≤2*G.length+1)
theorem go_ {P:Program} {N:Nf} {fr:Fr} {H:Hp} {Γ:List Fct} {t e ty:TypeId} {x y:Operand} {b k i:Nat} (hu:∀ w,(underlying t).run P w=.ok (.array 2 e) w) (hs:∀ w,(sizeOf e).run P w=.ok 1 w) (hx:Fr.ev fr x=some (zp_ b k)) (hy:Fr.ev fr y=some (.int .i64 (i:Int))) (hi:i<2) :
    Yld P N fr H Γ (.indexAddr t x y) ty (.pointer (some ⟨b,k+i,none⟩)):=by
  have:=er_ (P:=P) (N:=N) (fr:=fr) (H:=H) (Γ:=Γ) (ty:=ty) hu hs hx hy (by omega) (by omega)
  rwa [Nat.mul_one,Int.toNat_natCast]at this
theorem ar_.lit {e:TypeId} {sz b:Nat} {xs:List Value} {n:Nat} (hl:xs.length=n*sz) (hn:n≤maxLen):ar_ e sz (.slice (some ⟨b,0,none⟩) n n) n xs [(b,.cells xs.toArray e (0,0))] :=
  ⟨hl,.inr ⟨b,n,xs.toArray,rfl,rfl,Nat.le_refl _,hn,by simpa using hl,by rw[← hl];simp⟩⟩
theorem tF_ (R:List Str) (rad:Option Addr) (rcap:Nat) (X:List Grw) (gad:Option Addr) (gcap start most:Nat) (hlen:X.length=R.length) (hs:start<X.length) (hto:∀ (i:Nat) (l:List (Nat×Bool)),(List.map Grw.st X)[i]? = some l→∀ s∈l,s.1<((List.map Grw.st X)).length) (hXl:X.length≤100000) (hrows:∀ y∈X,y.st.length≤100000000) (hmost:most≤200000):Tri Tryz.prog 104 #[.agg #[.slice rad (List.length R) rcap,.slice gad (List.length X) gcap],.int .i64 (start:Int),.int .i64 (most:Int)] [] [ac_ rad (List.flatMap aJ_ R),ac_ gad (List.flatMap Grw.cells X),gh_ X] (fun y:{y:List Int×Option Addr×Nat // CirR (List.map Grw.st X) start most y.1 y.2.1 y.2.2∧List.length y.1≤y.2.2∧y.2.2≤maxLen∧(y.2.1=none→y.2.2=0)}=>.slice y.1.2.1 (List.length y.1.1) y.1.2.2) (fun _=>[]) (fun y=>[ac_ y.1.2.1 (List.flatMap ct_ y.1.1)]):=by
 refine j_ Tryz.func104 rfl rfl Tryz.ntmps104 rfl fun v0=>?_
 refine Zz 2 ?_
 refine N_ rfl rfl fun b1=>Zz 3 ?_
 refine qU_ (Zz 3 ?_)
 refine c_ (A_ mf_ rfl rfl) rfl (B_ dB_ fa_ kU_ rfl rfl rfl rfl rfl rfl fun b2=>Zz 4 ?_)
 have hqW:ar_ 235 4 (.slice (some ⟨b2,0,none⟩) 1 1) (List.length [(Wy.mk start false 0 0)]) (List.flatMap wyC [(Wy.mk start false 0 0)]) [(b2,.cells #[.int .i64 (start:Int),.bool false,.int .i64 (0:Int),.int .i64 (0:Int)] 235 (0,0))]:=ar_.lit rfl (by decide)
 refine u_ (H':=([(b2,.cells #[.int .i64 (start:Int),.bool false,.int .i64 (0:Int),.int .i64 (0:Int)] 235 (0,0))]++((b1,.cells #[.slice rad (List.length R) rcap,.slice gad (List.length X) gcap] 163 (0,0))::[]))) (List.Perm.refl _) (Zz 4 ?_)
 refine iZ_ (n:=List.length R) (by':=2) Tryz.underlying237 (z:=.agg #[.bool false,.bool false]) zk rfl (by decide) rfl rfl (by omega) (by simp only[maxLen];omega) rfl fun svB HrB hrB=>?_
 have hqB:ar_ 238 2 svB (List.length (List.replicate (List.length R) (false,false))) (List.flatMap b2C (List.replicate (List.length R) (false,false))) HrB:=by rw[List.length_replicate,← jE_ b2C];exact hrB
 have hzl:List.length (List.replicate (List.length R) (false,false))=List.length R:=List.length_replicate
 have hz0:(List.replicate (List.length R) (false,false))[start]? = some (false,false):=by rw[List.getElem?_replicate,if_pos (by omega)]
 refine Zz 3 ?_
 refine u_ (bO_ (an_ br_)) (Zz 4 ?_)
 refine c_ (bv_ hqB hd_ su_ rfl rfl (by omega) (by omega)) rfl (c_ (go_ (i:=0) hc_ cj_ rfl rfl (by decide)) rfl (dU_ (k:=(start:Int).toNat*2+0) hqB zp cj_ rfl rfl (by omega) rfl rfl fun Hr1 hr1=>?_))
 have hs1:=(fZ_ b2C 2 io_ (List.replicate (List.length R) (false,false)) start 0 (false,false) (true,false) (.bool true) hz0 (by decide) rfl).trans (congrArg _ (rfl))
 have hq1:ar_ 238 2 svB (List.length (List.set (List.replicate (List.length R) (false,false)) start (true,false))) (List.flatMap b2C (List.set (List.replicate (List.length R) (false,false)) start (true,false))) Hr1:=by rw[← hs1,show List.length (List.set (List.replicate (List.length R) (false,false)) start (true,false))=List.length (List.replicate (List.length R) (false,false)) from (List.length_set ..)];exact hr1
 refine Zz 3 ?_
 refine qV_ (Zz 2 ?_)
 refine u_ (bO_ (an_ i_)) (Zz 6 ?_)
 refine Y_ (ι:={y:Nat×List Wy×List (Bool×Bool)×Value×Hp×Value×Hp // BI (List.map Grw.st X) start y.2.1 y.1 0∧SeenI y.2.1 y.2.2.1 (List.length X)∧y.1≤List.length y.2.1∧zR 235 4 wyC y.2.2.2.1 y.2.1 y.2.2.2.2.1∧zR 238 2 b2C y.2.2.2.2.2.1 y.2.2.1 y.2.2.2.2.2.2}) (fun y=>[(1,.int .i64 (start:Int)),(2,.int .i64 (most:Int)),(3,zp_ b1 0),(6,.slice none 0 0),(7,y.1.2.2.2.1),(8,y.1.2.2.2.2.2.1),(9,.int .i64 (y.1.1:Int))]) (fun y=>((b1,.cells #[.slice rad (List.length R) rcap,.slice gad (List.length X) gcap] 163 (0,0))::(y.1.2.2.2.2.1++y.1.2.2.2.2.2.2))) (fun y=>[ac_ rad (List.flatMap aJ_ R),ac_ gad (List.flatMap Grw.cells X),gh_ X]) (fun y=>2*List.length X - y.1.1) ⟨((0:Nat),[(Wy.mk start false 0 0)],(List.set (List.replicate (List.length R) (false,false)) start (true,false)),(.slice (some ⟨b2,0,none⟩) 1 1),[(b2,.cells #[.int .i64 (start:Int),.bool false,.int .i64 (0:Int),.int .i64 (0:Int)] 235 (0,0))],svB,Hr1),BI.init (by rw[List.length_map];exact hs),(by rw[hlen];exact SeenI.init (by omega)),(by simp),hqW,hq1⟩ zl zp zh ?_
 rintro ⟨⟨a,W,Bl,sv_RW,H_RW,sv_RB,H_RB⟩,hI,hSn,ha,hr_RW,hr_RB⟩
 dsimp only at hI hSn ha hr_RW hr_RB ⊢
 refine Zz 5 ?_
 refine c_ (du_ hr_RW dB_ rfl) rfl ?_
 refine Zi 0 (fun hr1=>?_) fun hr1=>?_
 ·refine Zz 12 ?_
  exact E_ Tryz.results104 ⟨([],none,0),.inl ⟨rfl,rfl,rfl,fun n f c hc hf=>hI.none (fun w hw=>by have:=(List.getElem?_eq_some_iff.1 hw).1;omega) hto hc hf⟩,by simp[maxLen]⟩ rfl e_ (fun v _ h=>⟨.inl rfl,trivial⟩)
 have hlw0:a<List.length W:=by omega
 obtain⟨w0,hw0⟩:∃ e0,W[a]? = some e0:=⟨_,List.getElem?_eq_getElem hlw0⟩
 have hmw0:w0∈W:=List.mem_of_getElem? hw0
 have hrole:=hI.role a w0 hw0
 rw[List.length_map]at hrole
 have hmny:=hI.many a w0 hw0
 have hWl:=hI.len
 rw[List.length_map]at hWl
 have hly0:(Wy.role w0)<List.length X:=hrole
 obtain⟨y0,hy0⟩:∃ e0,X[(Wy.role w0)]? = some e0:=⟨_,List.getElem?_eq_getElem hly0⟩
 have hmy0:y0∈X:=List.mem_of_getElem? hy0
 have hGw:(List.map Grw.st X)[Wy.role w0]? = some (Grw.st y0):=by rw[List.getElem?_map,hy0];rfl
 have hyl:=hrows y0 hmy0
 refine Zz 11 ?_
 refine c_ (bv_ hr_RW dB_ fa_ rfl rfl (by omega) (by omega)) rfl (c_ (eq_ hr_RW zp Tryz.isAgg235 fa_ rfl (ju_ _) (by decide) (o_ ju_ hw0)) rfl (G_ kU_ rfl fun b3=>n_ 0 fa_ rfl rfl rfl rfl rfl rfl (Zz 7 ?_)))
 refine c_ (aA_ (as_ rfl rfl rfl (aV_ (by omega) (by omega))) (show _=Value.int .i64 ((Wy.many w0+1:Nat):Int) from congrArg _ (by omega))) rfl (Zi 1 (fun hr2=>?_) fun hr2=>?_)
 ·refine Zz 11 ?_
  refine c_ (C_ Tryz.runUnderlying161 Tryz.sizeOf228 rfl rfl (fun v _ h=>q_ (n:=1) Grw.cells_len (by decide) (by exact h.2.1) hy0) (by omega) (by first|omega|(simp;done))) rfl ?_
  refine c_ (bt_ (ad:=gad) Tryz.isAgg228 rfl zf (o_ Grw.cells_len hy0 0 _ rfl)) rfl (Zz 5 ?_)
  refine Y_ (ι:={y:Nat×List Wy×List (Bool×Bool)×Value×Hp×Value×Hp // BI (List.map Grw.st X) start y.2.1 a y.1∧SeenI y.2.1 y.2.2.1 (List.length X)∧y.2.1[a]? = some w0∧y.1≤List.length (Grw.st y0)∧zR 235 4 wyC y.2.2.2.1 y.2.1 y.2.2.2.2.1∧zR 238 2 b2C y.2.2.2.2.2.1 y.2.2.1 y.2.2.2.2.2.2}) (fun y=>[(1,.int .i64 (start:Int)),(2,.int .i64 (most:Int)),(3,zp_ b1 0),(6,.slice none 0 0),(7,y.1.2.2.2.1),(8,y.1.2.2.2.2.2.1),(9,.int .i64 (a:Int)),(10,zp_ b3 0),(46,.slice (Grw.ad y0) (List.length (Grw.st y0)) (Grw.cap y0)),(47,.int .i64 (List.length (Grw.st y0):Int)),(48,.int .i64 (y.1.1:Int))]) (fun y=>((b3,.cells #[.int .i64 (Wy.role w0:Int),.bool (Wy.strict w0),.int .i64 (Wy.before w0:Int),.int .i64 (Wy.many w0:Int)] 235 (0,0))::((b1,.cells #[.slice rad (List.length R) rcap,.slice gad (List.length X) gcap] 163 (0,0))::(y.1.2.2.2.2.1++y.1.2.2.2.2.2.2)))) (fun y=>[ac_ rad (List.flatMap aJ_ R),ac_ gad (List.flatMap Grw.cells X),gh_ X]) (fun y=>List.length (Grw.st y0) - y.1.1) ⟨((0:Nat),W,Bl,sv_RW,H_RW,sv_RB,H_RB),hI,hSn,hw0,(by omega),hr_RW,hr_RB⟩ zl zp zh ?_
  rintro ⟨⟨k,W1,B1,sv_RW,H_RW,sv_RB,H_RB⟩,hI1,hSn1,hpre,hk,hr_RW,hr_RB⟩
  dsimp only at hI1 hSn1 hpre hk hr_RW hr_RB ⊢
  refine Zi 2 (fun hr3=>?_) fun hr3=>?_
  ·refine Zz 8 ?_
   refine c_ (aA_ (as_ rfl rfl rfl (aV_ (by omega) (by omega))) (show _=Value.int .i64 ((a+1:Nat):Int) from congrArg _ (by omega))) rfl (Zz 3 ?_)
   exact z_ ⟨(a+1,W1,B1,sv_RW,H_RW,sv_RB,H_RB),hI1.next hpre hGw (by omega),hSn1,(by have:=(List.getElem?_eq_some_iff.1 hpre).1;dsimp only;omega),hr_RW,hr_RB⟩ (by have q1:=hI1.len;have q2:=(List.getElem?_eq_some_iff.1 hpre).1;rw[List.length_map]at q1;dsimp only;omega) zl (V_ (l_ i_) (bi_ (l_ aI_) au_)) zh
  have hle0:k<List.length (Grw.st y0):=by omega
  obtain⟨e0,he0⟩:∃ e0,(Grw.st y0)[k]? = some e0:=⟨_,List.getElem?_eq_getElem hle0⟩
  have hme0:e0∈(Grw.st y0):=List.mem_of_getElem? he0
  have hto0:=hto _ _ hGw e0 hme0
  have hto1:Prod.fst e0<List.length X:=by have q:=hto0;rw[List.length_map]at q;exact q
  have hWl1:=hI1.len
  rw[List.length_map]at hWl1
  have hbl:=hSn1.len
  have hal:=(List.getElem?_eq_some_iff.1 hpre).1
  have hbv0:=hSn1.at' (Prod.fst e0) hto1
  obtain⟨bv,hbv,hbe⟩:∃ bv,B1[Prod.fst e0]? = some bv∧bv=(jo_ W1 (Prod.fst e0) false,jo_ W1 (Prod.fst e0) true):=⟨_,hbv0,rfl⟩
  refine Zz 10 ?_
  refine c_ (C_ bK_ Tryz.sizeOf231 rfl rfl (fun v _ h=>q_ (n:=2) kx_ (by decide) (by exact (h.2.2.1 y0 hmy0)) he0) (by omega) (by first|omega|(simp;done))) rfl ?_
  refine c_ (L_ (ad:=(Grw.ad y0)) (us:=ok_ e0) Tryz.isAgg231 Tryz.sizeOf231 rfl (fun v _ h=>by exact (h.2.2.1 y0 hmy0)) (kx_ _) (o_ kx_ he0)) rfl (G_ Tryz.zeroValue231 rfl fun b4=>n_ 0 Tryz.sizeOf231 rfl rfl rfl rfl rfl rfl (Zz 5 ?_))
  refine y_ (aO_ 1 tj_ rfl rfl rfl) rfl fun r4 hr4=>Zz 1 ?_
  refine aN_ 3 (((Wy.strict w0))||((Prod.snd e0))) (fun r=>[(1,.int .i64 (start:Int)),(2,.int .i64 (most:Int)),(3,zp_ b1 0),(6,.slice none 0 0),(7,sv_RW),(8,sv_RB),(9,.int .i64 (a:Int)),(10,zp_ b3 0),(46,.slice (Grw.ad y0) (List.length (Grw.st y0)) (Grw.cap y0)),(47,.int .i64 (List.length (Grw.st y0):Int)),(48,.int .i64 (k:Int)),(12,zp_ b4 0),(57,.bool r)]) ?_ fun r5 hr5=>?_
  ·cases r4
   ·have qr5:=hr4
    refine Zz 3 ?_
    refine y_ (aO_ 0 tj_ rfl rfl rfl) rfl fun r6 hr6=>Zz 3 ?_
    exact met ⟨rfl,rfl,rfl,rfl,rfl,rfl,rfl,rfl,rfl,rfl,rfl,rfl,(m_ rfl (jof qr5 hr6)),trivial⟩
   have qr5:=hr4
   refine Zz 5 ?_
   exact met ⟨rfl,rfl,rfl,rfl,rfl,rfl,rfl,rfl,rfl,rfl,rfl,rfl,(m_ rfl (jot qr5)),trivial⟩
  refine Zz 9 ?_
  refine y_ (ay_ rfl rfl) rfl fun r7 hr7=>Zz 1 ?_
  refine aN_ 2 ((((Prod.fst e0:Nat):Int)==(start:Int))&&((((Wy.strict w0))||((Prod.snd e0))))) (fun r=>[(1,.int .i64 (start:Int)),(2,.int .i64 (most:Int)),(3,zp_ b1 0),(6,.slice none 0 0),(7,sv_RW),(8,sv_RB),(9,.int .i64 (a:Int)),(10,zp_ b3 0),(46,.slice (Grw.ad y0) (List.length (Grw.st y0)) (Grw.cap y0)),(47,.int .i64 (List.length (Grw.st y0):Int)),(48,.int .i64 (k:Int)),(12,zp_ b4 0),(13,.bool r5),(64,.bool r)]) ?_ fun r8 hr8=>?_
  ·cases r7
   ·have qr8:=hr7
    replace hr7:=znb hr7
    refine Zz 4 ?_
    exact met ⟨rfl,rfl,rfl,rfl,rfl,rfl,rfl,rfl,rfl,rfl,rfl,rfl,rfl,(m_ rfl (jaf qr8)),trivial⟩
   have qr8:=hr7
   replace hr7:=zeb hr7
   refine Zz 5 ?_
   exact met ⟨rfl,rfl,rfl,rfl,rfl,rfl,rfl,rfl,rfl,rfl,rfl,rfl,rfl,(m_ rfl (jat qr8 hr5)),trivial⟩
  refine Zz 2 ?_
  cases r8
  ·have hcll:=hr8
   refine Zz 14 ?_
   cases r5
   ·have hstr:=hr5
    refine Zz 10 ?_
    refine c_ (bv_ hr_RB hd_ su_ rfl rfl (by omega) (by omega)) rfl (c_ (go_ (i:=0) hc_ cj_ rfl rfl (by decide)) rfl (y_ (dg_ hr_RB (l_ (l_ (l_ br_))) tj_ rfl (o_ io_ hbv 0 _ rfl)) rfl fun r9 hr9=>Zz 2 ?_))
    cases r9
    ·have hldd:=hr9
     refine Zz 9 ?_
     refine c_ (bv_ hr_RB hd_ su_ rfl rfl (by omega) (by omega)) rfl (c_ (go_ (i:=0) hc_ cj_ rfl rfl (by decide)) rfl (dU_ (k:=((Prod.fst e0:Nat):Int).toNat*2+0) hr_RB (l_ (l_ (l_ br_))) cj_ rfl rfl (by omega) rfl rfl fun Hr2 hr2=>?_))
     have hs2:=(fZ_ b2C 2 io_ B1 (Prod.fst e0:Nat) 0 bv (true,Prod.snd bv) (.bool true) hbv (by decide) rfl).trans (congrArg _ (rfl))
     have hq2:ar_ 238 2 sv_RB (List.length (List.set B1 (Prod.fst e0:Nat) (true,Prod.snd bv))) (List.flatMap b2C (List.set B1 (Prod.fst e0:Nat) (true,Prod.snd bv))) Hr2:=by rw[← hs2,show List.length (List.set B1 (Prod.fst e0:Nat) (true,Prod.snd bv))=List.length B1 from (List.length_set ..)];exact hr2
     refine Zz 2 ?_
     refine u_ (bm_ (an_ i_) (bm_ (an_ i_) (bO_ (an_ i_)))) (Zz 8 ?_)
     refine c_ (aA_ (as_ rfl rfl rfl (aV_ (by omega) (by omega))) (show _=Value.int .i64 ((Wy.many w0+1:Nat):Int) from congrArg _ (by omega))) rfl (c_ (A_ mf_ rfl rfl) rfl (B_ dB_ fa_ kU_ rfl rfl rfl rfl rfl rfl fun b5=>?_))
     refine aX_ (news:=List.flatMap wyC [(Wy.mk (Prod.fst e0:Nat) false a (Wy.many w0+1:Nat))]) tt_ hr_RW rfl rfl zp rfl (bC_ 0 rfl) (fun u hu=>bY_ pF_ hu) (by simp only[maxLen];((try simp only[List.length_append,List.length_cons,List.length_nil]);omega)) (by ((try simp only[List.length_append,List.length_cons,List.length_nil]);omega)) rfl fun sv3 Hr3 hr3=>?_
     have hq3:=zsa hr3
     refine Zz 3 ?_
     refine u_ (bm_ (an_ i_) (bm_ (an_ i_) (bm_ (an_ i_) (bO_ (an_ i_))))) (Zz 5 ?_)
     exact z_ ⟨(k+1,(W1++[(Wy.mk (Prod.fst e0:Nat) false a (Wy.many w0+1:Nat))]),(List.set B1 (Prod.fst e0:Nat) (true,Prod.snd bv)),sv3,Hr3,sv_RB,Hr2),(by have q:=hI1.push hpre hGw he0 hto0 (fun q=>by have h9:=hcll;rw[q.2]at h9;simp[q.1]at h9) (by rw[hstr];have h9:=hldd;rw[hbe]at h9;exact h9);rw[hstr]at q;exact q),(hSn1.push (b:=false) (bf:=a) (m:=Wy.many w0+1) hbv),(by rw[List.getElem?_append_left (List.getElem?_eq_some_iff.1 hpre).1];exact hpre),hle0,hq3,hq2⟩ (by dsimp only;omega) zl (V_ (l_ (l_ i_)) (V_ (l_ (l_ i_)) (bi_ (l_ (l_ aI_)) (l_ au_)))) zh
    have hldd:=hr9
    refine Zz 8 ?_
    exact z_ ⟨(k+1,W1,B1,sv_RW,H_RW,sv_RB,H_RB),(hI1.skip hpre hGw he0 (fun q=>by have h9:=hcll;rw[q.2]at h9;simp[q.1]at h9) (by rw[hstr];have h9:=hldd;rw[hbe]at h9;exact h9)),hSn1,hpre,hle0,hr_RW,hr_RB⟩ (by dsimp only;omega) zl (V_ (l_ i_) (V_ (l_ i_) (bi_ (l_ aI_) au_))) zh
   have hstr:=hr5
   refine Zz 12 ?_
   refine c_ (bv_ hr_RB hd_ su_ rfl rfl (by omega) (by omega)) rfl (c_ (go_ (i:=1) hc_ cj_ rfl rfl (by decide)) rfl (y_ (dg_ hr_RB (l_ (l_ (l_ br_))) tj_ rfl (o_ io_ hbv 1 _ rfl)) rfl fun r10 hr10=>Zz 2 ?_))
   cases r10
   ·have hldd:=hr10
    refine Zz 9 ?_
    refine c_ (bv_ hr_RB hd_ su_ rfl rfl (by omega) (by omega)) rfl (c_ (go_ (i:=1) hc_ cj_ rfl rfl (by decide)) rfl (dU_ (k:=((Prod.fst e0:Nat):Int).toNat*2+1) hr_RB (l_ (l_ (l_ br_))) cj_ rfl rfl (by omega) rfl rfl fun Hr4 hr4=>?_))
    have hs4:=(fZ_ b2C 2 io_ B1 (Prod.fst e0:Nat) 1 bv (Prod.fst bv,true) (.bool true) hbv (by decide) rfl).trans (congrArg _ (rfl))
    have hq4:ar_ 238 2 sv_RB (List.length (List.set B1 (Prod.fst e0:Nat) (Prod.fst bv,true))) (List.flatMap b2C (List.set B1 (Prod.fst e0:Nat) (Prod.fst bv,true))) Hr4:=by rw[← hs4,show List.length (List.set B1 (Prod.fst e0:Nat) (Prod.fst bv,true))=List.length B1 from (List.length_set ..)];exact hr4
    refine Zz 2 ?_
    refine u_ (bm_ (an_ i_) (bm_ (an_ i_) (bO_ (an_ i_)))) (Zz 8 ?_)
    refine c_ (aA_ (as_ rfl rfl rfl (aV_ (by omega) (by omega))) (show _=Value.int .i64 ((Wy.many w0+1:Nat):Int) from congrArg _ (by omega))) rfl (c_ (A_ mf_ rfl rfl) rfl (B_ dB_ fa_ kU_ rfl rfl rfl rfl rfl rfl fun b6=>?_))
    refine aX_ (news:=List.flatMap wyC [(Wy.mk (Prod.fst e0:Nat) true a (Wy.many w0+1:Nat))]) tt_ hr_RW rfl rfl zp rfl (bC_ 0 rfl) (fun u hu=>bY_ pF_ hu) (by simp only[maxLen];((try simp only[List.length_append,List.length_cons,List.length_nil]);omega)) (by ((try simp only[List.length_append,List.length_cons,List.length_nil]);omega)) rfl fun sv5 Hr5 hr5=>?_
    have hq5:=zsa hr5
    refine Zz 3 ?_
    refine u_ (bm_ (an_ i_) (bm_ (an_ i_) (bm_ (an_ i_) (bO_ (an_ i_))))) (Zz 5 ?_)
    exact z_ ⟨(k+1,(W1++[(Wy.mk (Prod.fst e0:Nat) true a (Wy.many w0+1:Nat))]),(List.set B1 (Prod.fst e0:Nat) (Prod.fst bv,true)),sv5,Hr5,sv_RB,Hr4),(by have q:=hI1.push hpre hGw he0 hto0 (fun q=>by have h9:=hcll;rw[q.2]at h9;simp[q.1]at h9) (by rw[hstr];have h9:=hldd;rw[hbe]at h9;exact h9);rw[hstr]at q;exact q),(hSn1.push (b:=true) (bf:=a) (m:=Wy.many w0+1) hbv),(by rw[List.getElem?_append_left (List.getElem?_eq_some_iff.1 hpre).1];exact hpre),hle0,hq5,hq4⟩ (by dsimp only;omega) zl (V_ (l_ (l_ i_)) (V_ (l_ (l_ i_)) (bi_ (l_ (l_ aI_)) (l_ au_)))) zh
   have hldd:=hr10
   refine Zz 8 ?_
   exact z_ ⟨(k+1,W1,B1,sv_RW,H_RW,sv_RB,H_RB),(hI1.skip hpre hGw he0 (fun q=>by have h9:=hcll;rw[q.2]at h9;simp[q.1]at h9) (by rw[hstr];have h9:=hldd;rw[hbe]at h9;exact h9)),hSn1,hpre,hle0,hr_RW,hr_RB⟩ (by dsimp only;omega) zl (V_ (l_ i_) (V_ (l_ i_) (bi_ (l_ aI_) au_))) zh
  have hclT:=hr8
  refine Zz 3 ?_
  refine u_ (H':=((b4,.cells #[.int .i64 ((Prod.fst e0:Nat):Int),.bool (Prod.snd e0)] 231 (0,0))::((b3,.cells #[.int .i64 (Wy.role w0:Int),.bool (Wy.strict w0),.int .i64 (Wy.before w0:Int),.int .i64 (Wy.many w0:Int)] 235 (0,0))::((b1,.cells #[.slice rad (List.length R) rcap,.slice gad (List.length X) gcap] 163 (0,0))::(H_RW++(H_RB++([]:Hp))))))) (List.Perm.cons _ (List.Perm.cons _ (List.Perm.cons _ (List.Perm.append_left H_RW (List.Perm.of_eq (List.append_nil _).symm))))) ?_
  refine Y_ (ι:={y:Nat×List Int×Value×Hp×Value×Hp // y.1≤a∧(∀ x∈y.2.1,0≤x∧x<(List.length X:Int))∧List.length y.2.1+y.1≤a∧zR 235 4 wyC y.2.2.1 W1 y.2.2.2.1∧zR 3 1 ct_ y.2.2.2.2.1 y.2.1 y.2.2.2.2.2}) (fun y=>[(1,.int .i64 (start:Int)),(2,.int .i64 (most:Int)),(3,zp_ b1 0),(6,y.1.2.2.2.2.1),(7,y.1.2.2.1),(8,sv_RB),(9,.int .i64 (y.1.1:Int)),(10,zp_ b3 0),(46,.slice (Grw.ad y0) (List.length (Grw.st y0)) (Grw.cap y0)),(47,.int .i64 (List.length (Grw.st y0):Int)),(48,.int .i64 (k:Int)),(12,zp_ b4 0)]) (fun y=>((b4,.cells #[.int .i64 ((Prod.fst e0:Nat):Int),.bool (Prod.snd e0)] 231 (0,0))::((b3,.cells #[.int .i64 (Wy.role w0:Int),.bool (Wy.strict w0),.int .i64 (Wy.before w0:Int),.int .i64 (Wy.many w0:Int)] 235 (0,0))::((b1,.cells #[.slice rad (List.length R) rcap,.slice gad (List.length X) gcap] 163 (0,0))::(y.1.2.2.2.1++y.1.2.2.2.2.2))))) (fun y=>[ac_ rad (List.flatMap aJ_ R),ac_ gad (List.flatMap Grw.cells X),gh_ X]) (fun y=>y.1.1) ⟨(a,([]:List Int),sv_RW,H_RW,(.slice none 0 0),([]:Hp)),(Nat.le_refl _),(by simp),(by simp),hr_RW,(ar_.nil _ _)⟩ zl zp zh ?_
  rintro ⟨⟨a1,L,sv_RW,H_RW,sv_RL,H_RL⟩,ha1,hLx,hLl,hr_RW,hr_RL⟩
  dsimp only at ha1 hLx hLl hr_RW hr_RL ⊢
  refine Zi 4 (fun hr11=>?_) fun hr11=>?_
  ·refine Zz 9 ?_
   refine B_ I_ U_ aU_ rfl rfl rfl rfl rfl rfl fun b7=>?_
   refine aX_ (news:=List.flatMap ct_ [(start:Int)]) jA_ hr_RL rfl rfl zp rfl (bC_ 0 rfl) (fun u hu=>bY_ if_ hu) (by simp only[maxLen];((try simp only[List.length_append,List.length_cons,List.length_nil]);omega)) (by ((try simp only[List.length_append,List.length_cons,List.length_nil]);omega)) rfl fun sv6 Hr6 hr6=>?_
   have hq6:=zsa hr6
   refine Zz 3 ?_
   refine u_ (bm_ (an_ i_) (bm_ (an_ i_) (bm_ (an_ i_) (bO_ (an_ i_))))) (Zz 3 ?_)
   refine d_ (rc_ (L++[(start:Int)]) sv6 Hr6 hq6 (by have:=(List.getElem?_eq_some_iff.1 hpre).1;simp only[List.length_append,List.length_singleton];omega)) rfl (l_ (l_ (l_ (l_ aI_)))) zt rfl fun⟨Hv9,hv9⟩=>?_
   dsimp only
   have hqL9:ar_ 3 1 sv6 (List.length (List.reverse (L++[(start:Int)]))) (List.flatMap ct_ (List.reverse (L++[(start:Int)]))) Hv9:=hv9
   refine Zz 4 ?_
   refine u_ (bm_ (an_ i_) (bm_ (an_ i_) (bm_ (an_ i_) (bO_ (an_ i_))))) (Zz 7 ?_)
   have hnz:ar_ 3 1 sv6 (List.length (List.reverse (L++[(start:Int)]))) (List.flatMap ct_ (List.reverse (L++[(start:Int)]))) Hv9:=hqL9
   refine bu_ hqL9 (l_ (l_ (l_ (l_ aI_)))) fun lad lcap hlad hclad hmlad hzlad=>?_
   have hln:lad≠none:=fun e=>by have q:=hzlad e;have q2:=hclad;rw[q]at q2;simp only[List.length_reverse,List.length_append,List.length_singleton]at q2;omega
   exact E_ Tryz.results104 ⟨((List.reverse (L++[(start:Int)])),lad,lcap),.inr ⟨hln,⟨_,hI1.found hpre hGw he0 (by have h9:=hclT;simp only[Bool.and_eq_true,beq_iff_eq]at h9;omega) (by have h9:=hclT;simp only[Bool.and_eq_true]at h9;exact h9.2)⟩,(fun x hx=>by rw[List.mem_reverse]at hx;rw[List.length_map];rcases List.mem_append.1 hx with hx|hx;exact hLx x hx;rw[List.mem_singleton]at hx;subst hx;omega),(by have:=hI1.len;rw[List.length_map]at this;simp only[List.length_reverse,List.length_append,List.length_singleton,List.length_map];omega)⟩,hclad,hmlad,hzlad⟩ (bI_ rfl hlad) e_ zf
  have hlw1:a1<List.length W1:=by have:=(List.getElem?_eq_some_iff.1 hpre).1;omega
  obtain⟨w1,hw1⟩:∃ e0,W1[a1]? = some e0:=⟨_,List.getElem?_eq_getElem hlw1⟩
  have hmw1:w1∈W1:=List.mem_of_getElem? hw1
  refine Zz 11 ?_
  refine c_ (bv_ hr_RW dB_ fa_ rfl rfl (by omega) (by omega)) rfl (Zz 1 ?_)
  refine c_ (dg_ hr_RW zp aZ_ rfl (o_ ju_ hw1 0 _ rfl)) rfl (B_ I_ U_ aU_ rfl rfl rfl rfl rfl rfl fun b8=>?_)
  refine aX_ (news:=List.flatMap ct_ [(Wy.role w1:Int)]) jA_ hr_RL rfl rfl zp rfl (bC_ 0 rfl) (fun u hu=>bY_ if_ hu) (by simp only[maxLen];((try simp only[List.length_append,List.length_cons,List.length_nil]);omega)) (by ((try simp only[List.length_append,List.length_cons,List.length_nil]);omega)) rfl fun sv7 Hr7 hr7=>?_
  have hq7:=zsa hr7
  refine Zz 3 ?_
  refine u_ (bm_ (an_ i_) (bm_ (an_ i_) (bm_ (an_ i_) (bO_ (an_ i_))))) (Zz 3 ?_)
  refine c_ (bv_ hr_RW dB_ fa_ rfl rfl (by omega) (by omega)) rfl (Zz 1 ?_)
  refine c_ (dg_ hr_RW zp aZ_ rfl (o_ ju_ hw1 2 _ rfl)) rfl (Zz 3 ?_)
  exact z_ ⟨((Wy.before w1),(L++[(Wy.role w1:Int)]),sv_RW,H_RW,sv7,Hr7),(by have:=hI1.bef a1 w1 hw1 (by omega);omega),(fun x hx=>by rcases List.mem_append.1 hx with hx|hx;exact hLx x hx;rw[List.mem_singleton]at hx;subst hx;have:=hI1.role a1 w1 hw1;rw[List.length_map]at this;omega),(by have:=hI1.bef a1 w1 hw1 (by omega);simp only[List.length_append,List.length_singleton];omega),hr_RW,hq7⟩ (by have:=hI1.bef a1 w1 hw1 (by omega);dsimp only;omega) zl (V_ (l_ i_) (V_ (l_ i_) (V_ (l_ i_) (bi_ (l_ br_) au_)))) zh
 refine Zz 12 ?_
 exact E_ Tryz.results104 ⟨([],none,0),.inl ⟨rfl,rfl,rfl,fun n f c hc hf=>hI.none (fun w hw=>by rw[hw0]at hw;simp only[Option.some.injEq]at hw;subst hw;omega) hto hc hf⟩,by simp[maxLen]⟩ rfl e_ (fun v _ h=>⟨.inl rfl,trivial⟩)
end Go.Proofs.YtamklbgaipakfaaGreatDoor
namespace Go.Proofs.YtamklbgaipakfaaGreatDoor
open Go Go.Sx Go.Proofs
attribute [local irreducible] Code.wp wpList wpAnyH
open Go.Vs
theorem qw_ (x:Ax):∀ i,(x.chs i).length≤i
 | 0=>by simp[Ax.chs]
 | i+1=>by
   have:=qw_ x i
   rw[Ax.chs,List.length_append]
   split
   · split<;>simp<;>omega
   · simp;omega
theorem oJ_ {x:Ax} (h:x.check=0):x.steps.length≤4:=by
 unfold Ax.steps
 split
 ·split
  ·split<;>simp
  simp
 split
 ·rename_i h6
  have:=(Ax.good_of h).chain h6
  have:=qw_ x x.roles.length
  omega
 simp
theorem jT_:∀ (l:List Ax),(∀ x∈l,x.check=0)→(da_ l).length≤4*l.length
  | [],_=>by simp[da_]
  | x::l,h=>by
    have h1:=jT_ l fun y hy=>h y (List.mem_cons_of_mem _ hy)
    have h2:=oJ_ (h x (by simp))
    unfold da_ at *
    rw[List.flatMap_cons,List.length_append,List.length_cons]
    omega
theorem MmO.ksl {mb:Nat} {ks:List (Str×Nat)} {S:List RSt} {H:Hp} (h:MmO mb ks S H) (hF:Frm ks S):ks.length≤S.length:=by
  obtain⟨es,c,E,_,hE⟩:=h
  have h1:ks.map (·.1) ⊆ S.map (·.1):=fun k hk=>by
    obtain⟨s,d,hs⟩:=hF k hk
    exact List.mem_map.2 ⟨_,hs,rfl⟩
  have:=hE.nd.length_le_of_subset h1
  rwa [List.length_map,List.length_map]at this
def gM_ (G:List (List (Nat×Bool))) (i most:Nat) (L:List Int) (ad:Option Addr) (cap:Nat):Prop :=
  (L=[]∧ad=none∧cap=0∧most=G.length+1∧∀ (n:Nat) (f:Nat→Nat) (c:Nat→Bool),Clw (gE G) n f c→f 0<i→most≤n) ∨
  (ad≠none∧most≤2*G.length+1∧(∃ n,Clo (gE G) n)∧(∀ x∈L,0≤x∧x<(G.length:Int))∧L.length≤2*G.length+1)
theorem gM_.init {G:List (List (Nat×Bool))}:gM_ G 0 (G.length+1) [] none 0:=.inl ⟨rfl,rfl,rfl,rfl,fun _ _ _ _ h=>by omega⟩
theorem gM_.skip {G:List (List (Nat×Bool))} {i most:Nat} {L M:List Int} {ad:Option Addr} {cap cp:Nat} (h:gM_ G i most L ad cap) (hc:CirR G i most M none cp):gM_ G (i+1) most L ad cap:=by
 rcases h with⟨h1,h2,h3,h4,h5⟩|h
 ·rcases hc with⟨_,_,_,hc⟩|⟨hc,_⟩
  ·refine .inl ⟨h1,h2,h3,h4,fun n f c hcl hf=>?_⟩
   by_cases e:f 0=i
   ·exact hc n f c hcl e
   exact h5 n f c hcl (by omega)
  exact absurd rfl hc
 exact .inr h
theorem gM_.take {G:List (List (Nat×Bool))} {i most:Nat} {L M:List Int} {ad ae:Option Addr} {cap cp:Nat} (h:gM_ G i most L ad cap) (hc:CirR G i most M ae cp) (hn:ae≠none):gM_ G (i+1) M.length M ae cp:=by
 rcases hc with⟨_,hc,_⟩|⟨h1,h2,h3,h4⟩
 ·exact absurd hc hn
 exact .inr ⟨h1,h4,h2,h3,h4⟩
theorem gM_.none {G:List (List (Nat×Bool))} {most:Nat} {L:List Int} {cap:Nat} (h:gM_ G G.length most L none cap):∀ n,¬ Clo (gE G) n:=by
 rcases h with⟨_,_,_,h4,h5⟩|⟨h,_⟩
 ·exact tE_ fun n f c hc hf=>by have:=h5 n f c hc hf;omega
 exact absurd rfl h
theorem gM_.some {G:List (List (Nat×Bool))} {i most:Nat} {L:List Int} {ad:Option Addr} {cap:Nat} (h:gM_ G i most L ad cap) (hn:ad≠Option.none):(∃ n,Clo (gE G) n)∧(∀ x∈L,0≤x∧x<(G.length:Int))∧L.length≤2*G.length+1:=by
 rcases h with⟨_,h,_⟩|⟨_,_,h1,h2,h3⟩
 ·exact absurd h hn
 exact⟨h1,h2,h3⟩
theorem gM_.most {G:List (List (Nat×Bool))} {i most:Nat} {L:List Int} {ad:Option Addr} {cap:Nat} (h:gM_ G i most L ad cap):most≤2*G.length+1:=by
  rcases h with⟨_,_,_,h,_⟩|⟨_,h,_⟩<;>omega
def RlR (l:List Ax) (e:Int):Prop:=(e=0∧¬ rV_ (da_ l))∨(e=60∧rV_ (da_ l))
theorem RlR.uniq {l:List Ax} {a b:Int} (h:RlR l a) (k:RlR l b):a=b:=by
 rcases h with⟨rfl,h⟩|⟨rfl,h⟩<;>rcases k with⟨rfl,k⟩|⟨rfl,k⟩
 ·rfl
 ·exact absurd k h
 ·exact absurd h k
 rfl
theorem RlR.sub {l m:List Ax} (h:RlR m 0) (hs:∀ x∈l,x∈m):RlR l 0:=by
 rcases h with⟨_,h⟩|⟨h,_⟩
 ·exact .inl ⟨rfl,fun q=>h (q.sub (oK_ hs))⟩
 omega
theorem qC_ {P:Program} {N:Nf} {fr:Fr} {H:Hp} {Γ:List Fct} {ty t t' e:TypeId} {x y:Operand} {ad:Option Addr} {m c:Nat} (hu:P.underlying t=some (.slice e)) (hx:Fr.ev fr x=some (.slice ad m c)) (hy:Fr.ev fr y=some (.slice none 0 0)):Yld P N fr H Γ (.binOp .neq t x y t') ty (.bool (!decide (ad=none))) :=
  fun a v h1 _ _ _ _ _=>by
    have he:decide (ad=none)=ad.isNone:=by cases ad<;>simp
    rw[he]
    simp[execOp,h1.ev hx,h1.ev hy,eqGuard,binOp,qq_ v.w t e ad m c hu]
theorem rb_ (l:List Ax) (ad:Option Addr) (cap:Nat) (hok:∀ x∈l,x.ok) (hC:∀ x∈l,x.check=0) (hll:l.length≤20000):Tri Tryz.prog 52 #[.slice ad (List.length l) cap] [] [aR_ ad l,bn_] (fun y:{y:Value×Int // RlR l y.2}=>.tuple #[y.1.1,.int .i64 y.1.2]) (fun _=>[]) (fun _=>[]):=by
 refine j_ Tryz.func52 rfl rfl Tryz.ntmps52 rfl fun v0=>?_
 refine Zz 10 ?_
 refine d_ (ra_ l ad cap hok hC (by omega)) rfl e_ zf rfl fun _=>Zz 6 ?_
 refine c_ (aA_ (bR_ rfl rfl) (show _=Value.bool false from congrArg Value.bool (by decide))) rfl (Zz 8 ?_)
 refine d_ (ui_ l ad cap hok hC (by omega)) rfl e_ zf rfl fun⟨⟨mb,ks,Hm⟩,hM,hFm⟩=>?_
 dsimp only
 simp only[List.append_nil]
 dsimp only at hM hFm
 have hSl:=jT_ l hC
 have hkl:=MmO.ksl hM hFm
 refine d_ (pc_ mb ks (da_ l) Hm hM hFm (by omega) (by omega)) rfl am_ zt rfl fun⟨⟨X,rad,rcap,gad,gcap⟩,hG,hsh,hXk,⟨hrs1,hrs2,hrs3⟩,⟨hgs1,hgs2,hgs3⟩⟩=>?_
 dsimp only
 dsimp only at hG hsh hXk
 have hrl:List.length (bb_ (List.map (fun p:Str×Nat=>p.1) ks))=List.length ks:=by rw[List.length_mergeSort,List.length_map]
 have hgl:List.length (List.map Grw.st X)=List.length X:=List.length_map ..
 refine G_ Tryz.zeroValue163 rfl fun b1=>n_ 0 gv_ rfl rfl rfl rfl rfl rfl (Zz 7 ?_)
 refine c_ (aA_ (as_ rfl rfl rfl (aV_ (by omega) (by omega))) (show _=Value.int .i64 ((List.length X+1:Nat):Int) from congrArg _ (by omega))) rfl (Zz 18 ?_)
 refine Y_ (ι:={y:Nat×Nat×List Int×Option Addr×Nat // y.1≤List.length (bb_ (List.map (fun p:Str×Nat=>p.1) ks))∧gM_ (List.map Grw.st X) y.1 y.2.1 y.2.2.1 y.2.2.2.1 y.2.2.2.2}) (fun y=>[(2,.slice none 0 0),(3,.int .i64 0),(5,zp_ b1 0),(6,.int .i64 (y.1.2.1:Int)),(7,.slice y.1.2.2.2.1 (List.length y.1.2.2.1) y.1.2.2.2.2),(26,.int .i64 (List.length (bb_ (List.map (fun p:Str×Nat=>p.1) ks)):Int)),(27,.int .i64 (y.1.1:Int))]) (fun y=>((b1,.cells #[.slice rad (List.length (bb_ (List.map (fun p:Str×Nat=>p.1) ks))) rcap,.slice gad (List.length X) gcap] 163 (0,0))::[])) (fun y=>[ac_ y.1.2.2.2.1 (List.flatMap ct_ y.1.2.2.1),ac_ rad (List.flatMap aJ_ (bb_ (List.map (fun p:Str×Nat=>p.1) ks))),ac_ gad (List.flatMap Grw.cells X),gh_ X]) (fun y=>List.length (bb_ (List.map (fun p:Str×Nat=>p.1) ks)) - y.1.1) ⟨((0:Nat),(List.length X+1),([]:List Int),none,0),(by simp),(by have q:=gM_.init (G:=(List.map Grw.st X));rw[hgl]at q;exact q)⟩ zl i_ (fun v _ h=>by exact⟨(.inl rfl),h.1,h.2.1,h.2.2.1,trivial⟩) ?_
 rintro ⟨⟨i,mo,L,lad,lcap⟩,hi_i,hI⟩
 dsimp only at hi_i hI ⊢
 refine Zi 2 (fun hr1=>?_) fun hr1=>?_
 ·refine Zz 10 ?_
  refine y_ (na_ (ad:=lad) Tryz.underlying27 rfl rfl) rfl fun r2 hr2=>Zz 2 ?_
  cases r2
  ·replace hr2:=zdf hr2
   have hcs:=hI.some hr2
   refine Zz 12 ?_
   refine Y_ (ι:={y:Nat×List Str×Value×Hp // y.1≤List.length L∧List.length y.2.1≤y.1∧zR 9 1 aJ_ y.2.2.1 y.2.1 y.2.2.2}) (fun y=>[(2,y.1.2.2.1),(3,.int .i64 0),(5,zp_ b1 0),(6,.int .i64 (mo:Int)),(7,.slice lad (List.length L) lcap),(26,.int .i64 (List.length (bb_ (List.map (fun p:Str×Nat=>p.1) ks)):Int)),(27,.int .i64 (i:Int)),(42,.slice lad (List.length L) lcap),(43,.int .i64 (List.length L:Int)),(44,.int .i64 (y.1.1:Int))]) (fun y=>((b1,.cells #[.slice rad (List.length (bb_ (List.map (fun p:Str×Nat=>p.1) ks))) rcap,.slice gad (List.length X) gcap] 163 (0,0))::y.1.2.2.2)) (fun y=>[ac_ lad (List.flatMap ct_ L),ac_ rad (List.flatMap aJ_ (bb_ (List.map (fun p:Str×Nat=>p.1) ks))),ac_ gad (List.flatMap Grw.cells X),gh_ X]) (fun y=>List.length L - y.1.1) ⟨((0:Nat),([]:List Str),(.slice none 0 0),[]),by simp,(by simp),(ar_.nil _ _)⟩ zl i_ zh ?_
   rintro ⟨⟨k,C,sv_RC,H_RC⟩,hi_k,hCl,hr_RC⟩
   dsimp only at hi_k hCl hr_RC ⊢
   refine Zi 2 (fun hr3=>?_) fun hr3=>?_
   ·refine Zz 14 ?_
    refine bu_ hr_RC au_ fun cad ccap hcad hccad hmcad hzcad=>?_
    exact fr_ Tryz.results52 ⟨(_,60),.inr ⟨rfl,hG.circ.2 hcs.1⟩⟩ (bI_ rfl hcad) rfl rfl e_ zt
   have hlz0:k<List.length L:=by omega
   obtain⟨z0,hz0⟩:∃ e0,L[k]? = some e0:=⟨_,List.getElem?_eq_getElem hlz0⟩
   have hmz0:z0∈L:=List.mem_of_getElem? hz0
   have hzb:=hcs.2.1 z0 hmz0
   rw[hgl]at hzb
   have hcs3:=hcs.2.2
   have hlrz:(Int.toNat z0)<List.length (bb_ (List.map (fun p:Str×Nat=>p.1) ks)):=by omega
   obtain⟨rz,hrz⟩:∃ e0,(bb_ (List.map (fun p:Str×Nat=>p.1) ks))[(Int.toNat z0)]? = some e0:=⟨_,List.getElem?_eq_getElem hlrz⟩
   have hmrz:rz∈(bb_ (List.map (fun p:Str×Nat=>p.1) ks)):=List.mem_of_getElem? hrz
   refine Zz 22 ?_
   refine B_ t_ ah_ aK_ rfl rfl rfl rfl rfl rfl fun b2=>?_
   refine aX_ (news:=List.flatMap aJ_ [rz]) qs_ hr_RC rfl rfl zp rfl (bC_ 0 rfl) (fun u hu=>bY_ nq_ hu) (by simp only[maxLen];((try simp only[List.length_append,List.length_cons,List.length_nil]);omega)) (by ((try simp only[List.length_append,List.length_cons,List.length_nil]);omega)) rfl fun sv1 Hr1 hr1=>?_
   refine u_ List.perm_append_comm ?_
   have hq1:=zsa hr1
   refine Zz 8 ?_
   exact z_ ⟨(k+1,(C++[rz]),sv1,Hr1),hlz0,(by dsimp only;simp only[List.length_append,List.length_singleton];omega),hq1⟩ (by dsimp only;omega) zl (V_ (l_ i_) au_) zh
  replace hr2:=zdt hr2
  refine Zz 8 ?_
  exact fr_ Tryz.results52 ⟨(.slice none 0 0,0),.inl ⟨rfl,fun q=>by obtain⟨n,hn⟩:=hG.circ.1 q;exact gM_.none (by have q2:=hI;rw[hr2,show i=List.length (List.map Grw.st X) from (by omega)]at q2;exact q2) n hn⟩⟩ rfl rfl rfl e_ zt
 have hlr0:i<List.length (bb_ (List.map (fun p:Str×Nat=>p.1) ks)):=by omega
 obtain⟨r0,hr0⟩:∃ e0,(bb_ (List.map (fun p:Str×Nat=>p.1) ks))[i]? = some e0:=⟨_,List.getElem?_eq_getElem hlr0⟩
 have hmr0:r0∈(bb_ (List.map (fun p:Str×Nat=>p.1) ks)):=List.mem_of_getElem? hr0
 refine Zz 19 ?_
 refine d_ (tF_ (bb_ (List.map (fun p:Str×Nat=>p.1) ks)) rad rcap X gad gcap i mo (by omega) (by omega) hG.to (by omega) (fun z hz=>by have:=hsh z hz;omega) (by have:=hI.most;omega)) rfl e_ zf rfl fun⟨⟨M,mad,mcap⟩,hCir,hxc1,hxc2,hxc3⟩=>?_
 dsimp only
 dsimp only at hCir hxc1 hxc2 hxc3
 refine Zz 6 ?_
 refine y_ (qC_ (ad:=mad) Tryz.underlying27 rfl rfl) rfl fun r4 hr4=>Zz 2 ?_
 cases r4
 ·refine Zz 8 ?_
  exact z_ ⟨(i+1,mo,L,lad,lcap),hlr0,(hI.skip (by have q:=hCir;rw[show mad=none from by simpa using hr4]at q;exact q))⟩ (by dsimp only;omega) zl i_ (fun _ _ h=>h.2)
 refine Zz 14 ?_
 exact z_ ⟨(i+1,(List.length M),M,mad,mcap),hlr0,(hI.take hCir (by simpa using hr4))⟩ (by dsimp only;omega) zl i_ zf
end Go.Proofs.YtamklbgaipakfaaGreatDoor
namespace Go.Proofs.YtamklbgaipakfaaGreatDoor
open Go Go.Sx Go.Proofs
attribute [local irreducible] Code.wp wpList wpAnyH
open Go.Vs
def qT (x w:Tre):Bool:=Con.cmp x.con w.con==0
def hj_ (t:Tre):Prop:=t.wf∧t.con.sz≤1000000
theorem vj_ (x w:Tre) (hg1:hj_ x) (hg2:hj_ w):Tri Tryz.prog 236 #[Tre.val x,Tre.val w] [] [Tre.memF x,Tre.memF w] (fun _:Unit=>.bool (qT x w)) (fun _=>[]) (fun _=>[]):=by
  refine j_ Tryz.func236 rfl rfl Tryz.ntmps236 rfl fun v0=>?_
  refine Zz 2 ?_
  refine N_ rfl rfl fun b1=>N_ rfl rfl fun b2=>Zz 7 ?_
  refine d_ (iM_ _ x w (Nat.le_refl _) hg1.1 hg2.1 hg1.2 hg2.2) rfl e_ zf rfl fun _=>y_ (ay_ rfl rfl) rfl fun r1 hr1=>Zz 4 ?_
  exact E_ Tryz.results236 () (m_ rfl (by rw[← hr1];rfl)) e_ zt
theorem rL_ (ts:List Tre) (sv:Value) (Hr:Hp) (hr:zR 223 7 Tre.cells sv ts Hr) (hgm:∀ t∈ts,hj_ t) (hl:ts.length≤1000000):Tri Tryz.prog 235 #[sv,.func (.func 236) #[] #[]] Hr [cu_ ts] (fun y:{y:Value×Hp // zR 223 7 Tre.cells y.1 (cpL qT ts) y.2}=>y.1.1) (fun y=>y.1.2) (fun _=>[]):=by
 refine j_ Tryz.func235 rfl rfl Tryz.ntmps235 rfl fun v0=>?_
 refine Zz 9 ?_
 refine c_ (du_ hr M_ rfl) rfl ?_
 refine Zi 0 (fun hr1=>?_) fun hr1=>?_
 ·refine Zz 12 ?_
  refine Y_ (ι:={y:Nat×Value×Hp // y.1+1≤List.length ts∧cpL qT (List.take (y.1+1) ts)=List.take (y.1+1) ts∧zR 223 7 Tre.cells y.2.1 ts y.2.2}) (fun y=>[(0,y.1.2.1),(1,.func (.func 236) #[] #[]),(5,.int .i64 ((y.1.1+1:Nat):Int))]) (fun y=>(y.1.2.2)) (fun y=>[cu_ ts]) (fun y=>List.length ts - y.1.1) ⟨((0:Nat),sv,Hr),(by omega),(by obtain⟨t0,tl,rfl⟩:=List.exists_cons_of_length_pos (show 0<List.length ts by omega);rfl),hr⟩ zl am_ zh ?_
  rintro ⟨⟨k,sv_S,H_S⟩,hk,h0,hr_S⟩
  dsimp only at hk h0 hr_S ⊢
  refine Zz 5 ?_
  refine c_ (du_ hr_S M_ rfl) rfl ?_
  refine Zi 0 (fun hr2=>?_) fun hr2=>?_
  ·refine Zz 12 ?_
   have e9:cpL qT ts=ts:=(by first|exact lL_ (by omega)|(have q:=h0;rw[List.take_of_length_le (by omega)]at q;exact q))
   exact E_ Tryz.results235 ⟨(sv_S,H_S),by rw[e9];exact hr_S⟩ rfl am_ zt
  refine Zz 8 ?_
  have hlz1:(k+1:Nat)<List.length ts:=by omega
  obtain⟨z1,hz1⟩:∃ e0,ts[(k+1:Nat)]? = some e0:=⟨_,List.getElem?_eq_getElem hlz1⟩
  have hmz1:z1∈ts:=List.mem_of_getElem? hz1
  have hlw1:k<List.length ts:=by omega
  obtain⟨w1,hw1⟩:∃ e0,ts[k]? = some e0:=⟨_,List.getElem?_eq_getElem hlw1⟩
  have hmw1:w1∈ts:=List.mem_of_getElem? hw1
  refine Zz 1 ?_
  refine Q_ 1 [0,1,2,3,4,5,6,7,8,9] zk zs (Zz 3 ?_)
  refine P_ rfl (bv_ hr_S M_ aa_ rfl rfl (by omega) (by omega)) rfl (P_ rfl (eq_ hr_S am_ cX_ aa_ rfl (Tre.cells_len _) (by decide) (o_ Tre.cells_len hz1)) rfl (Zz 2 ?_))
  refine P_ rfl (aA_ (as_ rfl rfl rfl (aV_ (by omega) (by omega))) (show _=Value.int .i64 (k:Int) from congrArg _ (by omega))) rfl (P_ rfl (bv_ hr_S M_ aa_ rfl rfl (by omega) (by omega)) rfl (P_ rfl (eq_ hr_S am_ cX_ aa_ rfl (Tre.cells_len _) (by decide) (o_ Tre.cells_len hw1)) rfl (ba_ (p_ 10 rfl zk (fV_ (vj_ z1 w1 (hgm z1 hmz1) (hgm w1 hmw1)) rfl rfl e_ (fun v _ h=>by exact⟨(h.1 z1 hmz1),(h.1 w1 hmw1),trivial⟩) rfl fun r3 hr3=>Zz 5 ?_)))))
  cases r3
  ·refine Zz 5 ?_
   refine c_ (aA_ (as_ rfl rfl rfl (aV_ (by omega) (by omega))) (show _=Value.int .i64 ((k+1+1:Nat):Int) from congrArg _ (by omega))) rfl (Zz 3 ?_)
   exact z_ ⟨(k+1,sv_S,H_S),(by have:=hlz1;omega),(tz_ h0 hw1 hz1 hr3),hr_S⟩ (by dsimp only;omega) zl am_ zh
  refine Zz 5 ?_
  refine c_ (mZ_ (k:=(k+1:Nat)) hr_S M_ aa_ rfl rfl (by omega)) rfl (Zz 10 ?_)
  refine Y_ (ι:={y:List Tre×Nat×Nat×Value×Hp // CmI qT ts y.1 y.2.1 (k+1+y.2.2.1+1)∧zR 223 7 Tre.cells y.2.2.2.1 y.1 y.2.2.2.2}) (fun y=>[(0,y.1.2.2.2.1),(1,.func (.func 236) #[] #[]),(5,.int .i64 (y.1.2.1:Int)),(6,svT y.1.2.2.2.1 (List.length ts) (k+1) 7),(7,.int .i64 ((y.1.2.2.1+1:Nat):Int))]) (fun y=>(y.1.2.2.2.2)) (fun y=>[cu_ ts]) (fun y=>List.length ts - y.1.2.2.1) ⟨(ts,(k+1),(0:Nat),sv_S,H_S),(CmI.none h0 hw1 hz1 hr3),hr_S⟩ zl am_ zh ?_
  rintro ⟨⟨M,kk,p3,sv_S,H_S⟩,hC,hr_S⟩
  dsimp only at hC hr_S ⊢
  have hMl:=hC.len
  have hpl:=hC.pl
  have hkp:=hC.kp
  refine Zz 5 ?_
  refine c_ (qE_ M_ rfl) rfl ?_
  refine Zi 0 (fun hr4=>?_) fun hr4=>?_
  ·refine Zz 9 ?_
   refine c_ (mZ_ (k:=kk) hr_S M_ aa_ rfl rfl (by omega)) rfl (pa_ (k:=kk) hr_S am_ M_ bZ_ rfl rfl (by decide) rfl (by omega) fun Hc9 zs9 hz9 hclr=>u_ dO_ (Zz 6 ?_))
   obtain⟨sv9,hr9,hy9⟩:=cutRow (P:=Tryz.prog) (k:=kk) hclr (by omega) (by omega)
   refine c_ (hy9 M_ aa_ rfl rfl) rfl (Zz 4 ?_)
   have hend:CmI qT ts M kk (List.length ts):=by have q:=hC;rw[show k+1+p3+1=List.length ts by omega]at q;exact q
   have e9:=hend.done
   have hkl9:(List.take kk M).length=kk:=by rw[List.length_take];omega
   exact E_ Tryz.results235 ⟨(sv9,Hc9),by show ar_ 223 7 _ _ _ _;rw[← e9,hkl9,← jy_ Tre.cells 7 Tre.cells_len];have q:=hr9;rw[List.take_append_of_le_length (by rw[List.length_take,ey_ Tre.cells 7 Tre.cells_len];omega),List.take_take,Nat.min_self]at q;exact q⟩ rfl am_ zt
  refine Zz 8 ?_
  obtain⟨hlx2,x2,hx2,hmx2⟩:=zge (show (k+1+p3:Nat)<List.length M by omega)
  have hly2:(k+1+(p3+1):Nat)<List.length M:=by omega
  obtain⟨y2,hy2⟩:∃ e0,M[(k+1+(p3+1):Nat)]? = some e0:=⟨_,List.getElem?_eq_getElem hly2⟩
  have hmy2:y2∈M:=List.mem_of_getElem? hy2
  have hsx:x2∈ts:=by have q:=hC.rest (k+1+p3) (by omega);rw[hx2]at q;exact List.mem_of_getElem? q.symm
  have hsy:y2∈ts:=by have q:=hC.rest (k+1+(p3+1)) (by omega);rw[hy2]at q;exact List.mem_of_getElem? q.symm
  refine Zz 1 ?_
  refine Q_ 2 [0,1,2,3,4,5,6,7,8,9] zk zs (Zz 3 ?_)
  refine P_ rfl (lY_ (j:=(p3+1:Nat)) M_ aa_ rfl rfl (by omega)) rfl (P_ rfl (eq_ hr_S am_ cX_ aa_ rfl (Tre.cells_len _) (by decide) (o_ Tre.cells_len hy2)) rfl (Zz 2 ?_))
  refine P_ rfl (aA_ (as_ rfl rfl rfl (aV_ (by omega) (by omega))) (show _=Value.int .i64 (p3:Int) from congrArg _ (by omega))) rfl (P_ rfl (lY_ (j:=p3) M_ aa_ rfl rfl (by omega)) rfl (P_ rfl (eq_ hr_S am_ cX_ aa_ rfl (Tre.cells_len _) (by decide) (o_ Tre.cells_len hx2)) rfl (ba_ (p_ 10 rfl zk (fV_ (vj_ y2 x2 (hgm y2 hsy) (hgm x2 hsx)) rfl rfl e_ (fun v _ h=>by exact⟨(h.1 y2 hsy),(h.1 x2 hsx),trivial⟩) rfl fun r5 hr5=>Zz 3 ?_)))))
  refine Q_ 0 [11] zk zs (P_ rfl (aG_ rfl) rfl (Zz 3 ?_))
  cases r5
  ·refine Zz 2 ?_
   have hlo2:kk<List.length M:=by omega
   obtain⟨o2,ho2⟩:∃ e0,M[kk]? = some e0:=⟨_,List.getElem?_eq_getElem hlo2⟩
   have hmo2:o2∈M:=List.mem_of_getElem? ho2
   refine Zz 5 ?_
   refine c_ (lY_ (j:=(p3+1:Nat)) M_ aa_ rfl rfl (by omega)) rfl (c_ (eq_ hr_S am_ cX_ aa_ rfl (Tre.cells_len _) (by decide) (o_ Tre.cells_len hy2)) rfl (c_ (bv_ hr_S M_ aa_ rfl rfl (by omega) (by omega)) rfl (oX_ (k:=kk*7) (us:=Tre.cells y2) hr_S am_ aa_ rfl rfl (by omega) (Tre.cells_len _) (by decide) (Tre.cells_one _) fun Hr1 hr1=>?_)))
   have hs1:=qk_ Tre.cells 7 Tre.cells_len M kk y2 (by omega)
   have hq1:ar_ 223 7 sv_S (List.length (List.set M kk y2)) (List.flatMap Tre.cells (List.set M kk y2)) Hr1:=by rw[List.length_set,← hs1];exact hr1
   refine u_ dO_ (Zz 4 ?_)
   refine c_ (aA_ (as_ rfl rfl rfl (aV_ (by omega) (by omega))) (show _=Value.int .i64 ((kk+1:Nat):Int) from congrArg _ (by omega))) rfl (Zz 5 ?_)
   refine c_ (aA_ (as_ rfl rfl rfl (aV_ (by omega) (by omega))) (show _=Value.int .i64 ((p3+1+1:Nat):Int) from congrArg _ (by omega))) rfl (Zz 3 ?_)
   exact z_ ⟨((List.set M kk y2),kk+1,p3+1,sv_S,Hr1),(hC.keep hx2 hy2 (by simpa using hr5)),hq1⟩ (by have:=hC.pl;have:=hC.kp;dsimp only;omega) zl am_ zh
  refine Zz 5 ?_
  refine c_ (aA_ (as_ rfl rfl rfl (aV_ (by omega) (by omega))) (show _=Value.int .i64 ((p3+1+1:Nat):Int) from congrArg _ (by omega))) rfl (Zz 3 ?_)
  exact z_ ⟨(M,kk,p3+1,sv_S,H_S),(hC.skip hx2 hy2 (by simpa using hr5)),hr_S⟩ (by have:=hC.pl;have:=hC.kp;dsimp only;omega) zl am_ zh
 refine Zz 10 ?_
 have e9:cpL qT ts=ts:=(by first|exact lL_ (by omega)|(have q:=h0;rw[List.take_of_length_le (by omega)]at q;exact q))
 exact E_ Tryz.results235 ⟨(sv,Hr),by rw[e9];exact hr⟩ rfl am_ zt
end Go.Proofs.YtamklbgaipakfaaGreatDoor
namespace Go.Proofs.YtamklbgaipakfaaGreatDoor
open Go Go.Sx Go.Proofs
attribute [local irreducible] Code.wp wpList wpAnyH
open Go.Vs Go.Shelf Go.RowKit
theorem Con.mem_sl:∀ (n:Nat) (c:Con),c.sz≤n→∀ (v:Vw) (q:Prop),c.mem v→c.mem ⟨v.im,v.w,q⟩
  | 0,c,h=>by have:=c.sz_pos;omega
  | n+1,c,h=>fun v q hm=>by
    rw[Con.mem_iff]at hm ⊢
    exact⟨hm.1,fun p hp=>Con.mem_sl n p (by have:=Con.sz_part hp;omega) v q (hm.2 p hp)⟩
theorem Tre.mem_sl:∀ (n:Nat) (t:Tre),t.tz≤n→∀ (v:Vw) (q:Prop),t.mem v→t.mem ⟨v.im,v.w,q⟩
  | 0,t,h=>by have:=t.tz_pos;omega
  | n+1,t,h=>fun v q hm=>by
    rw[Tre.mem_iff]at hm ⊢
    exact⟨Con.mem_sl _ _ (Nat.le_refl _) v q hm.1,hm.2.1,fun p hp=>Tre.mem_sl n p (by have:=Tre.tz_part hp;omega) v q (hm.2.2 p hp)⟩
def iN_ (x w:Tre):Int:=Con.cmp x.con w.con
theorem wkoT:Wko iN_ where
  irr x:=by unfold iN_;rw[Con.cmp_self];omega
  tr x y z h1 h2:=Con.cmp_lt h1 h2
  ntr x y z h1 h2 h:=by
    unfold iN_ at *
    have e1:=Con.cmp_anti x.con y.con
    have e2:=Con.cmp_anti y.con z.con
    have e3:=Con.cmp_anti x.con z.con
    have:=Con.cmp_tr z.con y.con x.con
    unfold Tr3 at this
    omega
theorem ul_ {sv:Value} {ts:List Tre} {Hr:Hp} (h:ar_ 223 7 sv ts.length (ts.flatMap Tre.cells) Hr) (hl:ts.length≤1000000) (hg:∀ t∈ts,hj_ t) :
    Tri Tryz.prog 234 #[sv,.func (.func 180) #[] #[]] Hr [cu_ ts] (fun _:{y:Hp×List Tre // ar_ 223 7 sv y.2.length (y.2.flatMap Tre.cells) y.1∧y.2.Perm ts∧y.2.Pairwise fun a b=>¬ iN_ b a<0}=>.tuple #[]) (fun y=>y.1.1) (fun _=>[]) :=
  sortG (Γ:=[cu_ ts]) Tryz.sortTr Tre.cells_len (by decide) Tre.cells_one cX_ aa_ wkoT (callable Tryz.func180 rfl rfl) (callable Tryz.func234 rfl rfl)
    (fun v q hv=>⟨fun t ht=>Tre.mem_sl _ t (Nat.le_refl _) v q (hv.1 t ht),trivial⟩) h (by omega)
    (fun x hx y hy=>by
      have T:=iM_ _ x y (Nat.le_refl _) (hg x hx).1 (hg y hy).1 (hg x hx).2 (hg y hy).2
      exact⟨T.callable,fun v a b=>T.run v a ⟨b.1 x hx,b.1 y hy,trivial⟩⟩)
theorem qt_:∀ (l:List Tre) (x:Tre),(x::l).Pairwise (fun a b=>¬ iN_ b a<0)→((cpG qT x l).Pairwise fun a b=>iN_ a b<0)∧(∀ z∈cpG qT x l,iN_ x z<0)∧(∀ z∈l,z.con.core=x.con.core∨∃ w∈cpG qT x l,w.con.core=z.con.core)
 | [],x,_=>by simp[cpG]
 | y::l,x,h=>by
   rw[List.pairwise_cons]at h
   have hxy:¬ iN_ y x<0:=h.1 y (by simp)
   obtain⟨h1,h2,h3⟩:=qt_ l y h.2
   simp only[cpG]
   by_cases e:qT y x=true
   · rw[if_pos e]
     have e0:Con.cmp y.con x.con=0:=by simpa [qT] using e
     have ec:=(Con.cmp_zero _ _).1 e0
     refine⟨h1,fun z hz=>?_,fun z hz=>?_⟩
     · have:=h2 z hz
       unfold iN_ at *
       rwa [Con.cmp_of ec.symm (rfl:z.con.core=z.con.core)]
     · rcases List.mem_cons.1 hz with rfl|hz
       · exact .inl ec
       · rcases h3 z hz with q|q
         · exact .inl (q.trans ec)
         · exact .inr q
   · rw[if_neg e]
     have e0:Con.cmp y.con x.con≠0:=by simpa [qT] using e
     have hlt:iN_ x y<0:=by
       have:=Con.cmp_anti x.con y.con
       unfold iN_ at *
       omega
     refine⟨by rw[List.pairwise_cons];exact⟨h2,h1⟩,fun z hz=>?_,fun z hz=>?_⟩
     · rcases List.mem_cons.1 hz with rfl|hz
       · exact hlt
       · exact Con.cmp_lt hlt (h2 z hz)
     · rcases List.mem_cons.1 hz with rfl|hz
       · exact .inr ⟨z,by simp,rfl⟩
       · rcases h3 z hz with q|⟨w,hw,q⟩
         · exact .inr ⟨y,by simp,q.symm⟩
         · exact .inr ⟨w,List.mem_cons_of_mem _ hw,q⟩
theorem uP_ {S:List Tre} (h:S.Pairwise fun a b=>¬ iN_ b a<0):Con.SrC ((cpL qT S).map Tre.con)∧∀ z,z∈((cpL qT S).map Tre.con).map Con.core↔z∈(S.map Tre.con).map Con.core:=by
 cases S with
 | nil=>exact⟨List.Pairwise.nil,fun z=>Iff.rfl⟩
 | cons x l =>
   obtain⟨h1,h2,h3⟩:=qt_ l x h
   refine⟨?_,fun z=>⟨fun hz=>?_,fun hz=>?_⟩⟩
   · unfold Con.SrC
     rw[List.pairwise_map]
     simp only[cpL]
     rw[List.pairwise_cons]
     exact⟨h2,h1⟩
   · rw[List.map_map]at hz ⊢
     obtain⟨t,ht,rfl⟩:=List.mem_map.1 hz
     exact List.mem_map_of_mem (f:=Con.core ∘ Tre.con) (mM_ ht)
   · rw[List.map_map]at hz ⊢
     obtain⟨t,ht,rfl⟩:=List.mem_map.1 hz
     rcases List.mem_cons.1 ht with rfl|ht
     · exact List.mem_map_of_mem (f:=Con.core ∘ Tre.con) (by simp[cpL])
     · rcases h3 t ht with q|⟨w,hw,q⟩
       · exact List.mem_map.2 ⟨x,by simp[cpL],q.symm⟩
       · exact List.mem_map.2 ⟨w,by simp[cpL,hw],q⟩
theorem lK_:∀ {a b:List Con},a.map Con.core=b.map Con.core→(a.find? fun c=>decide (c.kind=2)).map Con.core=(b.find? fun c=>decide (c.kind=2)).map Con.core
 | [],[],_=>rfl
 | [],y::b,h=>by simp at h
 | x::a,[],h=>by simp at h
 | x::a,y::b,h=>by
   rw[List.map_cons,List.map_cons,List.cons.injEq]at h
   have hk:x.kind=y.kind:=Con.core_kind h.1
   rw[List.find?_cons,List.find?_cons,hk]
   split
   · simp[h.1]
   · exact lK_ h.2
theorem pg_ {a b:List Con} (h:a.map Con.core=b.map Con.core):(Con.meetF a).2=(Con.meetF b).2∧(Con.meetF a).1.core=(Con.meetF b).1.core:=by
 have hf:=lK_ h
 have hl:a.length=b.length:=by have:=congrArg List.length h;simpa using this
 unfold Con.meetF
 cases e:a.find? fun c=>decide (c.kind=2) with
 | some x =>
   rw[e]at hf
   cases e2:b.find? fun c=>decide (c.kind=2) with
   | none=>rw[e2]at hf;simp at hf
   | some y=>rw[e2]at hf;simp only[Option.map_some,Option.some.injEq]at hf;exact⟨rfl,hf⟩
 | none =>
   rw[e]at hf
   cases e2:b.find? fun c=>decide (c.kind=2) with
   | some y=>rw[e2]at hf;simp at hf
   | none =>
     dsimp only
     match a,b,h,hl with
     | [],[],_,_=>exact⟨rfl,rfl⟩
     | [x],[y],h,_=>simp at h;exact⟨rfl,h⟩
     | x::x2::a,y::y2::b,h,hl =>
       dsimp only
       rw[hl]
       split
       · exact⟨rfl,rfl⟩
       · refine⟨rfl,?_⟩
         rw[Con.core_eq,Con.core_eq]
         simp only[Con.kind,Con.name,Con.lo,Con.hi,Con.parts]
         rw[h]
theorem uJ_ {l:List Con} {k:Nat} {x:Con} (h0:∀ c∈l.take k,c.kind≠2) (hx:l[k]? = some x) (hk:x.kind=2):(l.find? fun c=>decide (c.kind=2))=some x:=by
  induction l generalizing k with
  | nil=>simp at hx
  | cons y l ih =>
    cases k with
    | zero=>simp at hx;subst hx;simp[hk]
    | succ k =>
      have hy:y.kind≠2:=h0 y (by simp)
      rw[List.find?_cons,decide_eq_false hy]
      exact ih (k:=k) (fun c hc=>h0 c (by rw[List.take_succ_cons];exact List.mem_cons_of_mem _ hc)) (by simpa using hx)
theorem gX_ {l:List Con} (h0:∀ c∈l,c.kind≠2):(l.find? fun c=>decide (c.kind=2))=none:=by
  rw[List.find?_eq_none]
  intro c hc
  simp[h0 c hc]
def TdR (c:Con) (y:Con×Int):Prop:=y.2=c.tdy.2∧(y.2=0→y.1.core=c.tdy.1.core∧y.1.ok)
def MtE (ps:List Con):Con×Int:=if Con.erF (ps.map Con.tdy)≠0 then (Con.zeroC,Con.erF (ps.map Con.tdy)) else Con.meetF (Con.srtC ((ps.map Con.tdy).flatMap fun z=>Con.flat1 z.1))
def MtR (ps:List Con) (y:Con×Int):Prop:=y.2=(MtE ps).2∧(y.2=0→y.1.core=(MtE ps).1.core∧y.1.ok)
theorem ts_:∀ {l:List (Con×Int)} {i:Nat} {z:Con×Int},Con.erF (l.take i)=0→l[i]? = some z→z.2≠0→Con.erF l=z.2
 | [],_,_,_,h,_=>by simp at h
 | y::l,0,z,_,h,hz=>by simp at h;subst h;simp[Con.erF,hz]
 | y::l,i+1,z,h0,h,hz=>by
   rw[List.take_succ_cons]at h0
   simp only[Con.erF]at h0 ⊢
   by_cases e:y.2≠0
   · rw[if_pos e]at h0;exact absurd h0 e
   · rw[if_neg e]at h0 ⊢
     exact ts_ h0 (by simpa using h) hz
theorem tr_ {l:List (Con×Int)} {i:Nat} {z:Con×Int} (h0:Con.erF (l.take i)=0) (h:l[i]? = some z) (hz:z.2=0):Con.erF (l.take (i+1))=0:=by
 induction l generalizing i with
 | nil=>simp at h
 | cons y l ih =>
   cases i with
   | zero=>simp at h;subst h;simp[Con.erF,hz]
   | succ i =>
     rw[List.take_succ_cons]at h0 ⊢
     simp only[Con.erF]at h0 ⊢
     by_cases e:y.2≠0
     · rw[if_pos e]at h0;exact absurd h0 e
     · rw[if_neg e]at h0 ⊢;exact ih h0 (by simpa using h)
theorem ps_ {a b:Con} (h:a.core=b.core):(Con.flat1 a).map Con.core=(Con.flat1 b).map Con.core:=by
 have hk:=Con.core_kind h
 unfold Con.flat1
 rw[hk]
 split
 ·rfl
 split
 ·have:=congrArg Con.parts h
  rwa [Con.core_parts,Con.core_parts]at this
 simp[h]
structure McI (ps:List Con) (i:Nat) (ts:List Tre):Prop where
  core:(ts.map Tre.con).map Con.core=(((ps.map Con.tdy).take i).flatMap fun z=>Con.flat1 z.1).map Con.core
  er:Con.erF ((ps.map Con.tdy).take i)=0
  good:∀ t∈ts,hj_ t∧t.con.ok
theorem qK_ {a b:List Con} (h:a.map Con.core=b.map Con.core):Con.sz.szs a=Con.sz.szs b:=Con.szs_core a b (by rw[Con.cores_map,Con.cores_map];exact h)
theorem sg_:∀ ps:List Con,Con.sz.szs ((ps.map Con.tdy).flatMap fun z=>Con.flat1 z.1)≤Con.sz.szs ps:=fun ps=>by
  have:=Con.tdys_sz ps
  rwa [Con.tdys_map]at this
theorem McI.size {ps:List Con} {i:Nat} {ts:List Tre} (h:McI ps i ts):Con.sz.szs (ts.map Tre.con)≤Con.sz.szs (ps.take i):=by
  rw[qK_ h.core,← List.map_take]
  exact sg_ (ps.take i)
theorem McI.len {ps:List Con} {i:Nat} {ts:List Tre} (h:McI ps i ts):ts.length≤Con.sz.szs (ps.take i):=by
  have h1:=szs_len (ts.map Tre.con)
  rw[List.length_map]at h1
  have:=h.size
  omega
theorem McI.nil {ps:List Con}:McI ps 0 []:=⟨by simp,rfl,by simp⟩
theorem McI.add {ps:List Con} {i:Nat} {ts us:List Tre} {p q:Con} {e:Int} (h:McI ps i ts) (hp:ps[i]? = some p) (hq:TdR p (q,e)) (he:e=0) (hu:(us.map Tre.con).map Con.core=(Con.flat1 q).map Con.core) (hg:∀ t∈us,hj_ t∧t.con.ok):McI ps (i+1) (ts++us):=by
 subst he
 obtain⟨h1,h2⟩:=hq
 obtain⟨h3,_⟩:=h2 rfl
 have hpm:(ps.map Con.tdy)[i]? = some p.tdy:=by rw[List.getElem?_map,hp];rfl
 have et:(ps.map Con.tdy).take (i+1)=(ps.map Con.tdy).take i++[p.tdy]:=by rw[List.take_add_one,hpm];rfl
 refine⟨?_,tr_ h.er hpm h1.symm,fun t ht=>?_⟩
 ·rw[List.map_append,List.map_append,h.core,hu,et,List.flatMap_append,List.map_append]
  congr 1
  simp only[List.flatMap_cons,List.flatMap_nil,List.append_nil]
  exact ps_ h3
 rcases List.mem_append.1 ht with ht|ht
 ·exact h.good t ht
 exact hg t ht
theorem McI.done {ps:List Con} {ts S:List Tre} (h:McI ps ps.length ts) (hp:S.Perm ts) (hs:S.Pairwise fun a b=>¬ iN_ b a<0):(Con.meetF ((cpL qT S).map Tre.con)).2=(MtE ps).2∧(Con.meetF ((cpL qT S).map Tre.con)).1.core=(MtE ps).1.core:=by
  obtain⟨h1,h2⟩:=uP_ hs
  have he:Con.erF (ps.map Con.tdy)=0:=by have:=h.er;rwa [List.take_of_length_le (by simp)]at this
  have hc:=h.core
  rw[List.take_of_length_le (by simp)]at hc
  have e:=Con.srtC_uniq (l:=(ps.map Con.tdy).flatMap fun z=>Con.flat1 z.1) h1 (fun z=>by
    rw[h2 z,← hc]
    exact ((hp.map Tre.con).map Con.core).mem_iff)
  have:=pg_ e
  unfold MtE
  rw[if_neg (by rw[he];simp)]
  exact this
theorem MtE_er {ps:List Con} {i:Nat} {p q:Con} {e:Int} {ts:List Tre} (h:McI ps i ts) (hp:ps[i]? = some p) (hq:TdR p (q,e)) (he:e≠0):e=(MtE ps).2:=by
  have hpm:(ps.map Con.tdy)[i]? = some p.tdy:=by rw[List.getElem?_map,hp];rfl
  have e1:e=p.tdy.2:=hq.1
  have:=ts_ h.er hpm (by rw[← e1];exact he)
  unfold MtE
  rw[if_pos (by rw[this,← e1];exact he)]
  dsimp only
  rw[this,e1]
theorem Tre.con_cells (t:Tre):∀ j y,(Con.cells t.con)[j]? = some y→(Tre.cells t)[0+j]? = some y:=fun j y hj=>by
  rw[Nat.zero_add]
  have hl:=(List.getElem?_eq_some_iff.1 hj).1
  unfold Tre.cells
  rw[List.getElem?_append_left hl];exact hj
theorem rx_ {l:List Con} {b:Con} (h:(l.find? fun c=>decide (c.kind=2))=some b):Con.meetF l=(b,0):=by unfold Con.meetF;rw[h]
theorem rw_ {l:List Con} (h:(l.find? fun c=>decide (c.kind=2))=none) (h0:l.length=0):Con.meetF l=(.mk 1 [] 0 0 none 0 [],0):=by
  unfold Con.meetF;rw[h,List.eq_nil_of_length_eq_zero h0]
theorem rv_ {l:List Con} {x:Con} (h:(l.find? fun c=>decide (c.kind=2))=none) (h1:l.length=1) (hx:l[0]? = some x):Con.meetF l=(x,0):=by
  unfold Con.meetF;rw[h]
  match l,h1,hx with
  | [y],_,hx=>simp at hx;subst hx;rfl
theorem ry_ {l:List Con} (h:(l.find? fun c=>decide (c.kind=2))=none) (h0:l.length≠0) (h1:l.length≠1) (h8:8<l.length):Con.meetF l=(Con.zeroC,2):=by
  unfold Con.meetF;rw[h]
  match l,h0,h1,h8 with
  | y::z::l,_,_,h8=>dsimp only;rw[if_pos h8]
theorem rz_ {l:List Con} (h:(l.find? fun c=>decide (c.kind=2))=none) (h0:l.length≠0) (h1:l.length≠1) (h8:¬ 8<l.length):Con.meetF l=(.mk 5 [] 0 0 none 0 l,0):=by
  unfold Con.meetF;rw[h]
  match l,h0,h1,h8 with
  | y::z::l,_,_,h8=>dsimp only;rw[if_neg h8]
end Go.Proofs.YtamklbgaipakfaaGreatDoor
namespace Go.Proofs.YtamklbgaipakfaaGreatDoor
open Go Go.Sx Go.Proofs
attribute [local irreducible] Code.wp wpList wpAnyH
open Go.Vs
theorem uO_:Elt Tryz.prog 44 46 5 64:=fo_ Tryz.underlying44 (z:=.agg #[.int .i64 0,str [],.int .i64 0,.int .i64 0,.slice none 0 0]) (by kernel_rfl) rfl (by decide)
theorem Con.cells_one (c:Con):c.cells.all Value.oneCell'=true:=rfl
def kz_ (l:List Con):Fct:=⟨fun v=>∀ c∈l,c.mem v,fun v v' hl h c hc=>c.memF.mono v v' hl (h c hc)⟩
theorem fO_ {S ts:List Tre} {v:Vw} (h:(cu_ ts).p v) (hp:S.Perm ts):(cu_ S).p v:=fun t ht=>h t (hp.mem_iff.1 ht)
theorem jN_ {S:List Tre} {v:Vw} (h:(cu_ S).p v):(cu_ (cpL qT S)).p v:=fun t ht=>h t (mM_ ht)
theorem qH_ {a b:List Tre} {v:Vw} (h:(cu_ a).p v) (k:(cu_ b).p v):(cu_ (a++b)).p v:=fun t ht=>(List.mem_append.1 ht).elim (h t) (k t)
theorem rK_ {l:List Tre} {v:Vw} (h:(cu_ l).p v):(kz_ (l.map Tre.con)).p v:=fun c hc=>by
  obtain⟨t,ht,rfl⟩:=List.mem_map.1 hc
  exact ((Tre.mem_iff t v).1 (h t ht)).1
theorem tdR_sz {p q:Con} {e:Int} (h:TdR p (q,e)) (he:e=0):q.sz≤p.sz∧q.ok:=by
  obtain⟨h1,h2⟩:=h.2 he
  rw[Con.sz_core _ _ h1]
  exact⟨Con.tdy_sz p,h2⟩
theorem rE_ {q:Con} (h:q.kind=1):(([]:List Tre).map Tre.con).map Con.core=(Con.flat1 q).map Con.core:=by unfold Con.flat1;rw[if_pos h];rfl
theorem rG_ {q:Con} {us:List Tre} (h:q.kind=5) (hu:us.map Tre.con=q.parts):(us.map Tre.con).map Con.core=(Con.flat1 q).map Con.core:=by unfold Con.flat1;rw[if_neg (by omega),if_pos h,hu]
theorem rF_ {q:Con} {t:Tre} (h1:¬ q.kind=1) (h5:¬ q.kind=5) (ht:t.con=q):([t].map Tre.con).map Con.core=(Con.flat1 q).map Con.core:=by unfold Con.flat1;rw[if_neg h1,if_neg h5];simp[ht]
theorem tR_ {c p q:Con} {e:Int} {ad:Option Addr} (hok:c.ok) (htd:c.tdy=if p.tdy.2≠0∨p.tdy.1.kind=2 then p.tdy else (Con.mk 6 c.name 0 0 none 0 [p.tdy.1],0)) (hq:TdR p (q,e)) (hz:e=0) (hk:q.kind≠2):TdR c (.mk 6 c.name 0 0 ad 1 [q],0):=by
 obtain⟨h1,h2⟩:=hq
 dsimp only at h1 h2
 obtain⟨h3,h4⟩:=h2 hz
 have h5:=Con.core_kind h3
 rw[if_neg (by rw[← h1,← h5];simp[hz,hk])]at htd
 unfold TdR
 rw[htd]
 refine⟨rfl,fun _=>⟨?_,?_⟩⟩
 ·rw[Con.core_eq,Con.core_eq]
  simp only[Con.kind,Con.name,Con.lo,Con.hi,Con.parts,List.map_cons,List.map_nil,h3]
 exact⟨by decide,by decide,Con.ok_name hok,by decide,by decide,by decide,by decide,by simp,by simp,Con.oks_iff.2 fun p hp=>by rw[List.mem_singleton]at hp;subst hp;exact h4⟩
theorem st_ {c:Con} (h:c.check=0) (hk:c.kind=6):c.parts.length=1:=by
  have f:=Con.fields (Con.check_zero h).1
  have h1:=f.le
  have h2:=f.mo
  rw[hk]at h1 h2
  simp[Go.Vs.nd,dL_]at h1 h2
  omega
theorem uz_ (ps:List Con) (pad:Option Addr) (pcap:Nat) (hsz:Con.sz.szs ps≤64) (hT:(∀ p∈ps,Tri Tryz.prog 94 #[Con.val p] [] [Con.memF p] (fun y:{y:Con×Int // TdR p y}=>.tuple #[Con.val y.1.1,.int .i64 y.1.2]) (fun _=>[]) (fun y=>[Con.memF y.1.1]))):Tri Tryz.prog 178 #[.slice pad (List.length ps) pcap] [] [ac_ pad (List.flatMap Con.cells ps),kz_ ps] (fun y:{y:Con×Int // MtR ps y}=>.tuple #[Con.val y.1.1,.int .i64 y.1.2]) (fun _=>[]) (fun y=>[Con.memF y.1.1]):=by
 refine j_ Tryz.func178 rfl rfl Tryz.ntmps178 rfl fun v0=>?_
 have hpl:=szs_len ps
 refine Zz 2 ?_
 refine G_ aC_ rfl fun b1=>Zz 17 ?_
 refine Y_ (ι:={y:Nat×List Tre×Value×Hp // y.1≤List.length ps∧McI ps y.1 y.2.1∧zR 223 7 Tre.cells y.2.2.1 y.2.1 y.2.2.2}) (fun y=>[(2,zp_ b1 0),(3,.int .i64 0),(4,y.1.2.2.1),(15,.slice pad (List.length ps) pcap),(16,.int .i64 (List.length ps:Int)),(17,.int .i64 (y.1.1:Int))]) (fun y=>((b1,.cells #[.int .i64 0,str [],.int .i64 0,.int .i64 0,.slice none 0 0] 46 (0,0))::y.1.2.2.2)) (fun y=>[cu_ y.1.2.1,ac_ pad (List.flatMap Con.cells ps),kz_ ps]) (fun y=>List.length ps - y.1.1) ⟨((0:Nat),([]:List Tre),(.slice none 0 0),[]),(by simp),McI.nil,(ar_.nil _ _)⟩ zl i_ (fun v _ h=>by exact⟨(show (cu_ ([]:List Tre)).p v from fun t ht=>by simp at ht),h.1,h.2.1,trivial⟩) ?_
 rintro ⟨⟨i,ts,sv_T,H_T⟩,hi_i,hM,hr_T⟩
 dsimp only at hi_i hM hr_T ⊢
 have hMl:=hM.len
 have hMs:=szs_take_le (l:=ps) i
 refine Zi 2 (fun hr1=>?_) fun hr1=>?_
 ·refine Zz 9 ?_
  refine d_ (ul_ hr_T (by omega) (fun t ht=>(hM.good t ht).1)) rfl au_ zf rfl fun⟨⟨Hs9,S⟩,hs1,hs2,hs3⟩=>?_
  dsimp only
  dsimp only at hs1 hs2 hs3
  refine Zz 2 ?_
  refine u_ (bO_ br_) (Zz 3 ?_)
  refine d_ (rL_ S sv_T Hs9 hs1 (fun t ht=>(hM.good t (hs2.mem_iff.1 ht)).1) (by have:=hs2.length_eq;omega)) rfl au_ (fun v _ h=>by exact⟨(fO_ h.1 hs2),trivial⟩) rfl fun⟨⟨sv8,Hc8⟩,hc8⟩=>?_
  dsimp only
  dsimp only at hc8
  obtain⟨Dl,hDl⟩:∃ Dl,Dl=cpL qT S:=⟨_,rfl⟩
  rw[← hDl]at hc8
  have hfin:=McI.done (by have q9:=hM;rw[show i=List.length ps from (by omega)]at q9;exact q9) hs2 hs3
  rw[← hDl]at hfin
  have hDg:∀ t∈Dl,hj_ t∧t.con.ok:=fun t ht=>by rw[hDl]at ht;exact hM.good t (hs2.mem_iff.1 (mM_ ht))
  have hDn:List.length Dl≤64:=by have q9:=uQ_ (q:=qT) S;rw[← hDl]at q9;have q8:=hs2.length_eq;omega
  refine Zz 4 ?_
  refine u_ (bO_ br_) (at_ (bu_ hc8 au_ fun dad dcap hdad hcdad hmdad hzdad=>?_))
  subst hdad
  refine Zz 7 ?_
  refine Y_ (ι:={y:Nat // y≤List.length Dl∧(∀ t∈List.take y Dl,t.con.kind≠2)}) (fun y=>[(2,zp_ b1 0),(3,.int .i64 0),(4,.slice dad (List.length Dl) dcap),(15,.slice pad (List.length ps) pcap),(16,.int .i64 (List.length ps:Int)),(17,.int .i64 (i:Int)),(59,.slice dad (List.length Dl) dcap),(60,.int .i64 (List.length Dl:Int)),(61,.int .i64 (y.1:Int))]) (fun y=>((b1,.cells #[.int .i64 0,str [],.int .i64 0,.int .i64 0,.slice none 0 0] 46 (0,0))::[])) (fun y=>[ac_ dad (List.flatMap Tre.cells Dl),cu_ ts,ac_ pad (List.flatMap Con.cells ps),kz_ ps]) (fun y=>List.length Dl - y.1) ⟨(0:Nat),by simp,(by simp)⟩ zl i_ zh ?_
  rintro ⟨k,hi_k,h2⟩
  dsimp only at hi_k h2 ⊢
  refine Zi 2 (fun hr2=>?_) fun hr2=>?_
  ·refine Zi 12 (fun hr3=>?_) fun hr3=>?_
   ·refine Zi 8 (fun hr4=>?_) fun hr4=>?_
    ·refine Zi 8 (fun hr5=>?_) fun hr5=>?_
     ·refine Zz 9 ?_
      refine n_ 0 U_ rfl rfl rfl rfl rfl rfl (Zz 11 ?_)
      refine Y_ (ι:={y:Nat×Value×Hp // y.1≤List.length Dl∧zR 46 5 Con.cells y.2.1 (List.map Tre.con (List.take y.1 Dl)) y.2.2}) (fun y=>[(2,zp_ b1 0),(3,.int .i64 0),(4,.slice dad (List.length Dl) dcap),(15,.slice pad (List.length ps) pcap),(16,.int .i64 (List.length ps:Int)),(17,.int .i64 (i:Int)),(59,.slice dad (List.length Dl) dcap),(60,.int .i64 (List.length Dl:Int)),(61,.int .i64 (k:Int)),(91,.slice dad (List.length Dl) dcap),(92,.int .i64 (List.length Dl:Int)),(93,.int .i64 (y.1.1:Int))]) (fun y=>((b1,.cells #[.int .i64 5,str [],.int .i64 0,.int .i64 0,y.1.2.1] 46 (0,0))::y.1.2.2)) (fun y=>[ac_ dad (List.flatMap Tre.cells Dl),cu_ ts,ac_ pad (List.flatMap Con.cells ps),kz_ ps]) (fun y=>List.length Dl - y.1.1) ⟨((0:Nat),(.slice none 0 0),[]),by simp,(ar_.nil _ _)⟩ zl i_ zh ?_
      rintro ⟨⟨m,sv_P,H_P⟩,hi_m,hr_P⟩
      dsimp only at hi_m hr_P ⊢
      refine Zi 2 (fun hr6=>?_) fun hr6=>?_
      ·refine Zz 9 ?_
       refine n_ 0 g_ rfl rfl rfl rfl rfl (by have q:=(db_ hr_P).2;simp only[Value.cells,List.all_cons,List.all_nil,q,Bool.and_true];rfl) ?_
       refine Zz 4 ?_
       have hml:List.take m Dl=Dl:=List.take_of_length_le (by omega)
       rw[hml]at hr_P
       refine bu_ hr_P au_ fun qad qcap hqad hcqad hmqad hzqad=>?_
       subst hqad
       have hme:=rz_ (gX_ fun c hc=>by obtain⟨t,ht,rfl⟩:=List.mem_map.1 hc;exact h2 t (by rw[List.take_of_length_le (by omega)];exact ht)) (by rw[List.length_map];omega) (by rw[List.length_map];omega) (by rw[List.length_map];omega);rw[hme]at hfin
       exact cr_ ⟨((Con.mk 5 [] 0 0 qad qcap (List.map Tre.con Dl)),0),⟨hfin.1,fun _=>⟨by rw[← hfin.2,Con.core_eq,Con.core_eq];rfl,(by refine⟨by decide,by decide,by simp,by decide,by decide,by decide,by decide,hcqad,by rw[List.length_map];omega,Con.oks_iff.2 fun p hp=>?_⟩;obtain⟨t,ht,rfl⟩:=List.mem_map.1 hp;exact (hDg t ht).2)⟩⟩⟩ (fun aa v h1 h2=>bg_ (us:=Con.cells (Con.mk 5 [] 0 0 qad qcap (List.map Tre.con Dl))) 0 iA_ R_ g_ rfl rfl rfl rfl aa v h1 h2) e_ (fun v _ h=>by exact⟨(Con.mem_iff (Con.mk 5 [] 0 0 qad qcap (List.map Tre.con Dl)) v).2 ⟨h.1,rK_ (show (cu_ Dl).p v from hDl▸jN_ (fO_ h.2.2.1 hs2))⟩,trivial⟩)
      have hlt2:m<List.length Dl:=by omega
      obtain⟨t2,ht2⟩:∃ e0,Dl[m]? = some e0:=⟨_,List.getElem?_eq_getElem hlt2⟩
      have hmt2:t2∈Dl:=List.mem_of_getElem? ht2
      refine Zz 10 ?_
      refine c_ (C_ M_ aa_ rfl rfl (fun v _ h=>q_ (n:=7) Tre.cells_len (by decide) (by exact h.1) ht2) (by omega) (by first|omega|(simp;done))) rfl ?_
      refine c_ (L_ (ad:=dad) (us:=Tre.cells t2) cX_ aa_ rfl zf (Tre.cells_len _) (o_ Tre.cells_len ht2)) rfl (G_ bZ_ rfl fun b2=>n_ 0 aa_ rfl rfl rfl rfl rfl rfl (Zz 7 ?_))
      refine B_ D_ g_ aC_ rfl rfl rfl rfl rfl rfl fun b3=>?_
      refine aX_ (news:=List.flatMap Con.cells [(Tre.con t2)]) uO_ hr_P rfl rfl (l_ (l_ au_)) rfl (bC_ 0 rfl) (fun u hu=>bY_ Con.cells_one hu) (by simp only[maxLen];((try simp only[List.length_append,List.length_map,List.length_take,List.length_cons,List.length_nil]);omega)) (by ((try simp only[List.length_append,List.length_map,List.length_take,List.length_cons,List.length_nil]);omega)) rfl fun sv1 Hr1 hr1=>?_
      refine u_ List.perm_append_comm ?_
      have hq1:=zsa hr1
      refine Zz 1 ?_
      refine cs_ 2 hq1 Tryz.sizeOf44 rfl rfl rfl rfl (Zz 7 ?_)
      exact z_ ⟨(m+1,sv1,Hr1),hlt2,(by rw[take_snoc ht2,List.map_append];exact hq1)⟩ (by dsimp only;omega) zl (V_ (l_ (l_ i_)) (l_ au_)) zh
     refine Zz 6 ?_
     refine c_ (A_ gs_ rfl rfl) rfl (n_ 0 g_ rfl rfl rfl rfl rfl rfl (Zz 4 ?_))
     have hme:=ry_ (gX_ fun c hc=>by obtain⟨t,ht,rfl⟩:=List.mem_map.1 hc;exact h2 t (by rw[List.take_of_length_le (by omega)];exact ht)) (by rw[List.length_map];omega) (by rw[List.length_map];omega) (by rw[List.length_map];omega);rw[hme]at hfin
     exact cr_ ⟨(Con.zeroC,2),⟨hfin.1,fun q=>by cases q⟩⟩ (fun aa v h1 h2=>bg_ (us:=Con.cells Con.zeroC) 0 iA_ R_ g_ rfl rfl rfl rfl aa v h1 h2) e_ (fun v _ h=>by exact⟨(show Con.mem Con.zeroC v from ⟨.inl rfl,trivial⟩),trivial⟩)
    refine Zz 5 ?_
    have hlt0:0<List.length Dl:=by omega
    obtain⟨t0,ht0⟩:∃ e0,Dl[0]? = some e0:=⟨_,List.getElem?_eq_getElem hlt0⟩
    have hmt0:t0∈Dl:=List.mem_of_getElem? ht0
    refine Zz 2 ?_
    refine c_ (C_ M_ aa_ rfl rfl (fun v _ h=>q_ (n:=7) Tre.cells_len (by decide) (by exact h.1) ht0) (by omega) (by first|omega|(simp;done))) rfl ?_
    refine Zz 1 ?_
    refine c_ (L_ (ad:=dad) (us:=Con.cells (Tre.con t0)) R_ g_ rfl zf rfl (qM_ 0 (o_ Tre.cells_len ht0) (Tre.con_cells t0))) rfl (n_ 0 g_ rfl rfl rfl rfl rfl rfl (Zz 4 ?_))
    have hme:=rv_ (gX_ fun c hc=>by obtain⟨t,ht,rfl⟩:=List.mem_map.1 hc;exact h2 t (by rw[List.take_of_length_le (by omega)];exact ht)) (by rw[List.length_map];omega) (x:=Tre.con t0) (by rw[List.getElem?_map,ht0];rfl);rw[hme]at hfin
    exact cr_ ⟨((Tre.con t0),0),⟨hfin.1,fun _=>⟨hfin.2,(hDg t0 hmt0).2⟩⟩⟩ (fun aa v h1 h2=>bg_ (us:=Con.cells (Tre.con t0)) 0 iA_ R_ g_ rfl rfl rfl rfl aa v h1 h2) e_ (fun v _ h=>by exact⟨((Tre.mem_iff t0 v).1 ((show (cu_ Dl).p v from hDl▸jN_ (fO_ h.2.1 hs2)) t0 hmt0)).1,trivial⟩)
   refine Zz 6 ?_
   refine c_ (A_ gs_ rfl rfl) rfl (n_ 0 g_ rfl rfl rfl rfl rfl rfl (Zz 4 ?_))
   have hme:=rw_ (gX_ fun c hc=>by obtain⟨t,ht,rfl⟩:=List.mem_map.1 hc;exact h2 t (by rw[List.take_of_length_le (by omega)];exact ht)) (by rw[List.length_map];omega);rw[hme]at hfin
   exact cr_ ⟨((Con.mk 1 [] 0 0 none 0 []),0),⟨hfin.1,fun _=>⟨hfin.2,by simp[Con.ok,Con.ok.oks]⟩⟩⟩ (fun aa v h1 h2=>bg_ (us:=Con.cells (Con.mk 1 [] 0 0 none 0 [])) 0 iA_ R_ g_ rfl rfl rfl rfl aa v h1 h2) e_ (fun v _ h=>by exact⟨(show Con.mem (Con.mk 1 [] 0 0 none 0 []) v from ⟨.inl rfl,trivial⟩),trivial⟩)
  have hlt1:k<List.length Dl:=by omega
  obtain⟨t1,ht1⟩:∃ e0,Dl[k]? = some e0:=⟨_,List.getElem?_eq_getElem hlt1⟩
  have hmt1:t1∈Dl:=List.mem_of_getElem? ht1
  refine Zz 10 ?_
  refine c_ (C_ M_ aa_ rfl rfl (fun v _ h=>q_ (n:=7) Tre.cells_len (by decide) (by exact h.1) ht1) (by omega) (by first|omega|(simp;done))) rfl ?_
  refine c_ (L_ (ad:=dad) (us:=Tre.cells t1) cX_ aa_ rfl zf (Tre.cells_len _) (o_ Tre.cells_len ht1)) rfl (G_ bZ_ rfl fun b4=>n_ 0 aa_ rfl rfl rfl rfl rfl rfl (Zi 7 (fun hr7=>?_) fun hr7=>?_))
  ·refine Zz 10 ?_
   exact z_ ⟨k+1,hlt1,(fun t ht=>by rw[take_snoc ht1,List.mem_append,List.mem_singleton]at ht;rcases ht with ht|rfl;exact h2 t ht;exact hr7)⟩ (by dsimp only;omega) zl (l_ i_) zh
  refine Zz 7 ?_
  refine n_ 1 g_ rfl rfl rfl rfl rfl rfl (Zz 4 ?_)
  have hme:=rx_ (uJ_ (k:=k) (fun c hc=>by rw[← List.map_take]at hc;obtain⟨t,ht,rfl⟩:=List.mem_map.1 hc;exact h2 t ht) (by rw[List.getElem?_map,ht1];rfl) hr7);rw[hme]at hfin
  exact cr_ ⟨((Tre.con t1),0),⟨hfin.1,fun _=>⟨hfin.2,(hDg t1 hmt1).2⟩⟩⟩ (fun aa v h1 h2=>bg_ (us:=Con.cells (Tre.con t1)) 1 iA_ R_ g_ rfl rfl rfl rfl aa v h1 h2) e_ (fun v _ h=>by exact⟨((Tre.mem_iff t1 v).1 ((show (cu_ Dl).p v from hDl▸jN_ (fO_ h.2.1 hs2)) t1 hmt1)).1,trivial⟩)
 have hlp1:i<List.length ps:=by omega
 obtain⟨p1,hp1⟩:∃ e0,ps[i]? = some e0:=⟨_,List.getElem?_eq_getElem hlp1⟩
 have hmp1:p1∈ps:=List.mem_of_getElem? hp1
 have hps1:=Con.sz_mem hmp1
 refine Zz 10 ?_
 refine c_ (C_ D_ g_ rfl rfl (fun v _ h=>q_ (n:=5) Con.cells_len (by decide) (by exact h.2.1) hp1) (by omega) (by first|omega|(simp;done))) rfl ?_
 refine c_ (L_ (ad:=pad) (us:=Con.cells p1) R_ g_ rfl zf (Con.cells_len _) (o_ Con.cells_len hp1)) rfl (G_ aC_ rfl fun b5=>n_ 0 g_ rfl rfl rfl rfl rfl rfl (Zz 5 ?_))
 refine d_ (hT p1 hmp1) rfl e_ (fun v _ h=>by exact⟨(h.2.2.1 p1 hmp1),trivial⟩) rfl fun⟨⟨q1,e1⟩,hq1⟩=>?_
 dsimp only
 try dsimp only at hq1
 refine Zz 3 ?_
 refine G_ aC_ rfl fun b6=>n_ 0 g_ rfl rfl rfl rfl rfl rfl (Zi 7 (fun hr8=>?_) fun hr8=>?_)
 ·have he1:e1=0:=by simpa using hr8
  have hqz:=tdR_sz hq1 he1
  refine Zi 14 (fun hr9=>?_) fun hr9=>?_
  ·refine Zi 6 (fun hr10=>?_) fun hr10=>?_
   ·refine Zz 7 ?_
    refine d_ (mC_ _ q1 (Nat.le_refl _) (by omega)) rfl e_ zf rfl fun⟨g1,hgc,hgw⟩=>?_
    dsimp only
    refine B_ M_ aa_ bZ_ rfl rfl rfl rfl rfl rfl fun b7=>?_
    refine aX_ (news:=List.flatMap Tre.cells [g1]) mJ_ hr_T rfl rfl (l_ (l_ (l_ au_))) rfl (bC_ 0 rfl) (fun u hu=>bY_ Tre.cells_one hu) (by simp only[maxLen];((try simp only[List.length_append,List.length_map,List.length_take,List.length_cons,List.length_nil]);omega)) (by ((try simp only[List.length_append,List.length_map,List.length_take,List.length_cons,List.length_nil]);omega)) rfl fun sv2 Hr2 hr2=>?_
    refine u_ List.perm_append_comm ?_
    have hq2:=zsa hr2
    refine Zz 8 ?_
    exact z_ ⟨(i+1,(ts++[g1]),sv2,Hr2),hlp1,(hM.add hp1 hq1 he1 (rF_ hr9 hr10 hgc) (fun t ht=>by rw[List.mem_singleton]at ht;subst ht;rw[hj_,hgc];exact⟨⟨hgw,by omega⟩,hqz.2⟩)),hq2⟩ (by dsimp only;omega) zl (V_ (l_ (l_ (l_ i_))) (l_ (l_ au_))) (fun v _ h=>by exact⟨hq_ h.2.2.1 h.1,h.2.2.2.1,h.2.2.2.2.1,trivial⟩)
   refine Zz 13 ?_
   have hw3:ar_ 223 7 sv_T (List.length (ts++([]:List Tre))) (List.flatMap Tre.cells (ts++([]:List Tre))) H_T:=by have q:=hr_T;rw[List.append_nil];exact q
   refine Y_ (ι:={y:Nat×List Tre×Value×Hp // y.1≤List.length (Con.parts q1)∧List.map Tre.con y.2.1=List.take y.1 (Con.parts q1)∧(∀ t∈y.2.1,hj_ t∧t.con.ok)∧zR 223 7 Tre.cells y.2.2.1 (ts++y.2.1) y.2.2.2}) (fun y=>[(2,zp_ b1 0),(3,.int .i64 0),(4,y.1.2.2.1),(15,.slice pad (List.length ps) pcap),(16,.int .i64 (List.length ps:Int)),(17,.int .i64 (i:Int)),(42,.slice (Con.ad q1) (List.length (Con.parts q1)) (Con.cap q1)),(43,.int .i64 (List.length (Con.parts q1):Int)),(44,.int .i64 (y.1.1:Int))]) (fun y=>((b6,.cells #[.int .i64 (Con.kind q1),str (Con.name q1),.int .i64 (Con.lo q1),.int .i64 (Con.hi q1),.slice (Con.ad q1) (List.length (Con.parts q1)) (Con.cap q1)] 46 (0,0))::((b5,.cells #[.int .i64 (Con.kind p1),str (Con.name p1),.int .i64 (Con.lo p1),.int .i64 (Con.hi p1),.slice (Con.ad p1) (List.length (Con.parts p1)) (Con.cap p1)] 46 (0,0))::((b1,.cells #[.int .i64 0,str [],.int .i64 0,.int .i64 0,.slice none 0 0] 46 (0,0))::y.1.2.2.2)))) (fun y=>[cu_ y.1.2.1,cu_ ts,ac_ pad (List.flatMap Con.cells ps),kz_ ps,Con.memF q1]) (fun y=>List.length (Con.parts q1) - y.1.1) ⟨((0:Nat),([]:List Tre),sv_T,H_T),(by simp),(by simp),(by simp),hw3⟩ zl zp (fun v _ h=>by exact⟨(show (cu_ ([]:List Tre)).p v from fun t ht=>by simp at ht),h.2.1,h.2.2.1,h.2.2.2.1,h.1,trivial⟩) ?_
   rintro ⟨⟨j,us,sv_T,H_T⟩,hj,hus,hug,hr_T⟩
   dsimp only at hj hus hug hr_T ⊢
   have hql:=Con.parts_lt q1
   have hul:=congrArg List.length hus
   rw[List.length_map,List.length_take]at hul
   refine Zi 2 (fun hr11=>?_) fun hr11=>?_
   ·refine Zz 11 ?_
    exact z_ ⟨(i+1,(ts++us),sv_T,H_T),hlp1,(hM.add hp1 hq1 he1 (rG_ hr10 (by rw[hus,List.take_of_length_le (by omega)])) hug),hr_T⟩ (by dsimp only;omega) zl zp (fun v _ h=>by exact⟨qH_ h.2.1 h.1,h.2.2.1,h.2.2.2.1,trivial⟩)
   have hlc1:j<List.length (Con.parts q1):=by omega
   obtain⟨c1,hc1⟩:∃ e0,(Con.parts q1)[j]? = some e0:=⟨_,List.getElem?_eq_getElem hlc1⟩
   have hmc1:c1∈(Con.parts q1):=List.mem_of_getElem? hc1
   refine Zz 10 ?_
   refine c_ (C_ D_ g_ rfl rfl (fun v _ h=>q_ (n:=5) Con.cells_len (by decide) (by exact ((Con.mem_iff q1 v).1 h.2.2.2.2.1).1) hc1) (by omega) (by first|omega|(simp;done))) rfl ?_
   refine c_ (L_ (ad:=(Con.ad q1)) (us:=Con.cells c1) R_ g_ rfl (fun v _ h=>by exact ((Con.mem_iff q1 v).1 h.2.2.2.2.1).1) (Con.cells_len _) (o_ Con.cells_len hc1)) rfl (G_ aC_ rfl fun b8=>n_ 0 g_ rfl rfl rfl rfl rfl rfl (Zz 5 ?_))
   refine d_ (mC_ _ c1 (Nat.le_refl _) (by have:=Con.sz_part hmc1;omega)) rfl e_ (fun v _ h=>by exact⟨(Con.mem_part (c:=q1) h.2.2.2.2.1 hmc1),trivial⟩) rfl fun⟨g1,hgc,hgw⟩=>?_
   dsimp only
   refine B_ M_ aa_ bZ_ rfl rfl rfl rfl rfl rfl fun b9=>?_
   refine aX_ (news:=List.flatMap Tre.cells [g1]) mJ_ hr_T rfl rfl (l_ (l_ (l_ (l_ au_)))) rfl (bC_ 0 rfl) (fun u hu=>bY_ Tre.cells_one hu) (by simp only[maxLen];((try simp only[List.length_append,List.length_map,List.length_take,List.length_cons,List.length_nil]);omega)) (by ((try simp only[List.length_append,List.length_map,List.length_take,List.length_cons,List.length_nil]);omega)) rfl fun sv4 Hr4 hr4=>?_
   refine u_ List.perm_append_comm ?_
   have hq4:=zsa hr4
   refine Zz 8 ?_
   exact z_ ⟨(j+1,(us++[g1]),sv4,Hr4),hlc1,(by rw[take_snoc hc1,List.map_append,hus];simp[hgc]),(fun t ht=>by rcases List.mem_append.1 ht with ht|ht;exact hug t ht;rw[List.mem_singleton]at ht;subst ht;rw[hj_,hgc];exact⟨⟨hgw,by have:=Con.sz_part hmc1;omega⟩,Con.ok_part hqz.2 hmc1⟩),(by rw[← List.append_assoc];exact hq4)⟩ (by dsimp only;omega) zl (V_ (l_ (l_ i_)) (V_ (l_ (l_ i_)) (V_ (l_ (l_ i_)) (l_ au_)))) (fun v _ h=>by exact⟨hq_ h.2.1 h.1,h.2.2.1,h.2.2.2.1,h.2.2.2.2.1,h.2.2.2.2.2.1,trivial⟩)
  refine Zz 11 ?_
  exact z_ ⟨(i+1,(ts++[]),sv_T,H_T),hlp1,(hM.add hp1 hq1 he1 (rE_ hr9) (by simp)),(by rw[List.append_nil];exact hr_T)⟩ (by dsimp only;omega) zl (V_ (l_ (l_ i_)) (l_ au_)) (fun v _ h=>by exact⟨(show (cu_ (ts++[])).p v from by rw[List.append_nil];exact h.2.1),h.2.2.1,h.2.2.2.1,trivial⟩)
 refine Zz 5 ?_
 refine c_ (A_ gs_ rfl rfl) rfl (Zz 1 ?_)
 refine n_ 2 g_ rfl rfl rfl rfl rfl rfl (Zz 4 ?_)
 exact cr_ ⟨(Con.zeroC,e1),⟨MtE_er hM hp1 hq1 hr8,fun q=>absurd q hr8⟩⟩ (fun aa v h1 h2=>bg_ (us:=Con.cells Con.zeroC) 2 iA_ R_ g_ rfl rfl rfl rfl aa v h1 h2) e_ (fun v _ h=>by exact⟨(show Con.mem Con.zeroC v from ⟨.inl rfl,trivial⟩),trivial⟩)
theorem ua_ (c:Con) (hok:c.ok) (hC:c.check=0) (hT:(∀ p∈c.parts,Tri Tryz.prog 94 #[Con.val p] [] [Con.memF p] (fun y:{y:Con×Int // TdR p y}=>.tuple #[Con.val y.1.1,.int .i64 y.1.2]) (fun _=>[]) (fun y=>[Con.memF y.1.1]))) (hMt:c.kind=5→Tri Tryz.prog 178 #[.slice c.ad c.parts.length c.cap] [] [ac_ c.ad (c.parts.flatMap Con.cells),kz_ c.parts] (fun y:{y:Con×Int // MtR c.parts y}=>.tuple #[Con.val y.1.1,.int .i64 y.1.2]) (fun _=>[]) (fun y=>[Con.memF y.1.1])):Tri Tryz.prog 94 #[Con.val c] [] [Con.memF c] (fun y:{y:Con×Int // TdR c y}=>.tuple #[Con.val y.1.1,.int .i64 y.1.2]) (fun _=>[]) (fun y=>[Con.memF y.1.1]):=by
 refine j_ Tryz.func94 rfl rfl Tryz.ntmps94 rfl fun v0=>?_
 refine Zz 2 ?_
 refine N_ rfl rfl fun b1=>G_ aC_ rfl fun b2=>Zi 13 (fun hr1=>?_) fun hr1=>?_
 ·refine Zi 6 (fun hr2=>?_) fun hr2=>?_
  ·refine Zz 9 ?_
   refine n_ 0 g_ rfl rfl rfl rfl rfl rfl (Zz 4 ?_)
   exact cr_ ⟨(c,0),(by unfold TdR;rw[Con.tdy_self hr2 hr1];exact⟨rfl,fun _=>⟨rfl,hok⟩⟩)⟩ (fun aa v h1 h2=>bg_ (us:=Con.cells c) 0 jZ_ R_ g_ rfl rfl rfl rfl aa v h1 h2) e_ zf
  refine Zz 8 ?_
  refine d_ (hMt hr2) rfl e_ (fun v _ h=>by exact⟨((Con.mem_iff c v).1 h.1).1,((Con.mem_iff c v).1 h.1).2,trivial⟩) rfl fun⟨⟨q0,e0⟩,hq0⟩=>?_
  dsimp only
  try dsimp only at hq0
  refine Zz 2 ?_
  refine n_ 0 g_ rfl rfl rfl rfl rfl rfl (Zz 4 ?_)
  exact cr_ ⟨(q0,e0),(by unfold TdR;rw[Con.tdy_and hr2];exact hq0)⟩ (fun aa v h1 h2=>bg_ (us:=Con.cells q0) 0 jZ_ R_ g_ rfl rfl rfl rfl aa v h1 h2) e_ zf
 have hone:=st_ hC hr1
 have hlp0:0<List.length (Con.parts c):=by omega
 obtain⟨p0,hp0⟩:∃ e0,(Con.parts c)[0]? = some e0:=⟨_,List.getElem?_eq_getElem hlp0⟩
 have hmp0:p0∈(Con.parts c):=List.mem_of_getElem? hp0
 have hpe:Con.parts c=[p0]:=by have q9:=List.length_eq_one_iff.1 hone;obtain⟨z,hz⟩:=q9;rw[hz]at hp0;simp at hp0;rw[hz,hp0]
 have htd:=Con.tdy_some hr1 hpe
 refine Zz 8 ?_
 refine c_ (C_ D_ g_ rfl rfl (fun v _ h=>q_ (n:=5) Con.cells_len (by decide) (by exact ((Con.mem_iff c v).1 h.1).1) hp0) (by omega) (by first|omega|(simp;done))) rfl ?_
 refine c_ (L_ (ad:=(Con.ad c)) (us:=Con.cells p0) R_ g_ rfl (fun v _ h=>by exact ((Con.mem_iff c v).1 h.1).1) (Con.cells_len _) (o_ Con.cells_len hp0)) rfl (d_ (hT p0 hmp0) rfl e_ (fun v _ h=>by exact⟨(Con.mem_part (c:=c) h.1 hmp0),trivial⟩) rfl fun⟨⟨q0,e0⟩,hq0⟩=>?_)
 dsimp only
 try dsimp only at hq0
 refine Zz 3 ?_
 refine G_ aC_ rfl fun b3=>n_ 0 g_ rfl rfl rfl rfl rfl rfl (Zi 7 (fun hr3=>?_) fun hr3=>?_)
 ·refine Zi 6 (fun hr4=>?_) fun hr4=>?_
  ·refine Zz 11 ?_
   refine B_ D_ g_ aC_ rfl rfl rfl rfl rfl rfl fun b4=>?_
   refine ai_ (List.flatMap Con.cells [q0]) i_ rfl ?_
   refine c_ (A_ gs_ rfl rfl) rfl (n_ 1 g_ rfl rfl rfl rfl rfl rfl (Zz 4 ?_))
   exact cr_ ⟨((Con.mk 6 (Con.name c) 0 0 (some ⟨b4,0,none⟩) 1 [q0]),0),(tR_ hok htd hq0 (by first|assumption|simp_all) (by first|assumption|simp_all))⟩ (fun aa v h1 h2=>bg_ (us:=Con.cells (Con.mk 6 (Con.name c) 0 0 (some ⟨b4,0,none⟩) 1 [q0])) 1 jZ_ R_ g_ rfl rfl rfl rfl aa v h1 h2) e_ (fun v _ h=>by exact⟨⟨h.1,⟨h.2.1,trivial⟩⟩,trivial⟩)
  refine Zz 8 ?_
  refine n_ 1 g_ rfl rfl rfl rfl rfl rfl (Zz 4 ?_)
  exact cr_ ⟨(q0,e0),(by rw[if_pos (by first|exact .inl (by rw[← hq0.1];assumption)|(by_cases hz:e0=0<;>first|exact .inl (by rw[← hq0.1];exact hz)|exact .inr (by rw[← Con.core_kind (hq0.2 hz).1];assumption)))]at htd;unfold TdR;rw[htd];exact hq0)⟩ (fun aa v h1 h2=>bg_ (us:=Con.cells q0) 1 jZ_ R_ g_ rfl rfl rfl rfl aa v h1 h2) e_ zf
 refine Zz 12 ?_
 refine n_ 1 g_ rfl rfl rfl rfl rfl rfl (Zz 4 ?_)
 exact cr_ ⟨(q0,e0),(by rw[if_pos (by first|exact .inl (by rw[← hq0.1];assumption)|(by_cases hz:e0=0<;>first|exact .inl (by rw[← hq0.1];exact hz)|exact .inr (by rw[← Con.core_kind (hq0.2 hz).1];assumption)))]at htd;unfold TdR;rw[htd];exact hq0)⟩ (fun aa v h1 h2=>bg_ (us:=Con.cells q0) 1 jZ_ R_ g_ rfl rfl rfl rfl aa v h1 h2) e_ zf
theorem oF_ (c:Con) (hok:c.ok) (hC:c.check=0):Tri Tryz.prog 94 #[c.val] [] [c.memF] (fun y:{y:Con×Int // TdR c y}=>.tuple #[Con.val y.1.1,.int .i64 y.1.2]) (fun _=>[]) (fun y=>[Con.memF y.1.1]):=by
  have key:∀ n (c:Con),c.sz≤n→c.ok→c.check=0→Tri Tryz.prog 94 #[c.val] [] [c.memF] (fun y:{y:Con×Int // TdR c y}=>.tuple #[Con.val y.1.1,.int .i64 y.1.2]) (fun _=>[]) (fun y=>[Con.memF y.1.1]):=by
    intro n
    induction n with
    | zero=>intro c h;have:=Con.sz_pos c;omega
    | succ n ih =>
      intro c h hok hC
      have hp:∀ p∈c.parts,Tri Tryz.prog 94 #[Con.val p] [] [Con.memF p] (fun y:{y:Con×Int // TdR p y}=>.tuple #[Con.val y.1.1,.int .i64 y.1.2]) (fun _=>[]) (fun y=>[Con.memF y.1.1]):=fun p hp=>ih p (by have:=Con.sz_part hp;omega) (Con.ok_part hok hp) (Con.check_part hC hp)
      refine ua_ c hok hC hp fun _=>uz_ c.parts c.ad c.cap ?_ hp
      have:=(Con.check_zero hC).2
      rw[Con.sz_eq]at this
      omega
  exact key c.sz c (Nat.le_refl _) hok hC
end Go.Proofs.YtamklbgaipakfaaGreatDoor
