/-
  Part of the proof of the law CheckerTrusts over this seat: the small logic, the data, the contracts of functions (no condition).
-/
import Derived.Test.YtaffcjgphlhppaaGreatDoorQCheckerTrusts3
import Derived.Test.YtaffcjgphlhppaaGreatDoorQCheckerTrusts6
import Derived.Test.YtaffcjgphlhppaaGreatDoorQCheckerTrusts7
set_option linter.unusedVariables false
set_option linter.unusedSimpArgs false
set_option linter.unusedSectionVars false
set_option maxHeartbeats 1000000
namespace Go.Proofs.YtaffcjgphlhppaaGreatDoor
open Go Go.Sx Go.Proofs
attribute [local irreducible] Code.wp wpList wpAnyH
open Go.Vs
theorem gw_ (xs:List Str) (ad:Option Addr) (cap:Nat) {kb:Nat} (frm:Int) (l:List Pc) (q:CS) (hq:CInv l q) (hxs:xs.length≤1000) (hlen:l.length+xs.length≤100000) :
    Tri Tryz.prog 63 #[zp_ kb 0,.slice ad (List.length xs) cap] (fY_ kb frm q) [aC_ ad (List.flatMap by_ xs)] (fun _:{q':CS // CInv (aU_ frm xs l) q'}=>.tuple #[]) (fun q'=>fY_ kb frm q'.1) (fun _=>[]):=by
  refine w_ Tryz.func63 rfl rfl Tryz.ntmps63 rfl fun v0=>?_;refine Zz 8 ?_;refine bR_ [(0,zp_ kb 0),(6,.slice ad (List.length xs) cap),(7,.int .i64 (List.length xs:Int)),(8,.int .i64 ((0:Nat):Int))] zl ?_;refine cb_ (ι:={y:Nat×CS // y.1≤xs.length∧CInv (aU_ frm (xs.take y.1) l) y.2}) (fun y=>[(0,zp_ kb 0),(6,.slice ad (List.length xs) cap),(7,.int .i64 (List.length xs:Int)),(8,.int .i64 (y.1.1:Int))]) (fun y=>fY_ kb frm y.1.2) (fun _=>_) (fun y=>xs.length - y.1.1) ⟨(0,q),by simp,hq⟩ ?_;rintro ⟨⟨i,q0⟩,hk⟩;dsimp only at hk;dsimp only;have hml:=eN_ frm (xs.take i) l;have hti:(xs.take i).length≤i:=by simp;omega
  refine bR_ [(0,zp_ kb 0),(6,.slice ad (List.length xs) cap),(7,.int .i64 (List.length xs:Int)),(8,.int .i64 (i:Int))] zl ?_;refine Zi 2 (fun hr1=>?_) fun hr1=>?_
  · skip
    refine Zz 6 ?_;exact ci_ Tryz.results63 ⟨q0,by have:=hk.2;rwa [List.take_of_length_le (by omega)]at this⟩ rfl (F:=[]) bx_ zt
  · skip
    obtain⟨hlx1,x1,hx1,hmx1⟩:=zge (show i<List.length xs by omega);refine Zz 18 ?_;refine d_ (F_ dT_ rfl rfl) rfl (af_ P_ U_ am_ rfl rfl rfl rfl rfl rfl fun b1=>n_ (dW_ (Pc.mk 1 x1 [] [42] [] [] [] 0 0 0) frm (aU_ frm (xs.take i) l) q0 hk.2 (by omega)) rfl zp zt rfl fun⟨q1,hq1⟩=>?_);dsimp only;have hb1:=bu_ frm (aU_ frm (xs.take i) l) (Pc.mk 1 x1 [] [42] [] [] [] 0 0 0);refine S_ (List.Perm.symm bx_) (Zz 7 ?_);exact aa_ ⟨(i+1,q1),hlx1,by dsimp only;rw[qL_ frm hx1];exact hq1⟩ (by dsimp only;omega) zl (F:=[]) bx_ zh
theorem jf_ (a b:Str):Fn0 Tryz.prog 61 #[str a,str b] (Fc.val ⟨1,a,b,[],0,0⟩):=by
  refine w_ Tryz.func61 rfl rfl Tryz.ntmps61 rfl fun v0=>?_;refine Zz 2 ?_;refine E_ ag_ rfl fun b1=>Zz 6 ?_
  refine d_ (F_ gd_ rfl rfl) rfl (z_ 0 y_ rfl rfl rfl rfl rfl rfl (Zz 3 ?_));exact eQ_ () (fun a v h1 h2=>cf_ (us:=Fc.cells ⟨1,_,_,[],0,0⟩) 0 Tryz.results61 aS_ y_ rfl rfl rfl a v h1 h2) (@List.perm_append_comm _ [_] _) (fun v _ h=>trivial)
theorem eltF:Elt Tryz.prog 47 24 6 72:=jq_ Tryz.underlying47 (z:=.agg (Fc.mk 0 [] [] [] 0 0).cells.toArray) (by kernel_rfl) rfl (by decide)
theorem goal_c (x:Ax) (hok:x.ok):Tri Tryz.prog 26 #[Ax.val x] [] [Ax.memF x,dK_] (fun y:{y:Option Addr×Nat×Option Addr×Nat // x.goalP.1.length≤y.2.1∧y.2.1≤maxLen∧x.goalP.2.1.length≤y.2.2.2∧y.2.2.2≤maxLen∧(y.1=none→y.2.1=0)}=>.tuple #[.slice y.1.1 x.goalP.1.length y.1.2.1,.slice y.1.2.2.1 x.goalP.2.1.length y.1.2.2.2,.int .i64 x.goalP.2.2])
    (fun _=>[]) (fun y=>[aC_ y.1.1 (x.goalP.1.flatMap Pc.cells),aC_ y.1.2.2.1 (x.goalP.2.1.flatMap Fc.cells)]):=by
  refine w_ Tryz.func26 rfl rfl Tryz.ntmps26 rfl fun v0=>?_;have h1:=hok.role;have h2:=hok.a;have h3:=hok.b;have h4:=Con.operandN_len hok.left;have h5:=Con.operandN_len hok.right;have h0:([]:List Pc).length=0:=rfl;refine Zz 2 ?_;refine ah_ rfl rfl fun b1=>Zz 9 ?_
  refine n_ (gq_ x hok) rfl j_ zf rfl fun _=>Zi 6 (fun hr1=>?_) fun hr1=>?_
  · skip
    have G:=Ax.good_of hr1;refine Zz 7 ?_;refine n_ (gO_ (-1)) rfl j_ zt rfl fun⟨kb,bm0⟩=>?_;dsimp only;refine S_ (@List.perm_append_comm _ _ [_]) (Zz 6 ?_);refine n_ (oi_ kb) rfl j_ zt rfl fun⟨bk,bl,br⟩=>?_;dsimp only;refine Zi 23 (fun hr2=>?_) fun hr2=>?_
    · skip
      refine Zi 5 (fun hr3=>?_) fun hr3=>?_
      · skip
        refine Zi 6 (fun hr4=>?_) fun hr4=>?_
        · skip
          refine Zi 6 (fun hr5=>?_) fun hr5=>?_
          · skip
            refine Zi 6 (fun hr6=>?_) fun hr6=>?_
            · skip
              refine Zi 6 (fun hr7=>?_) fun hr7=>?_
              · skip
                refine Zz 12 ?_;have e:x.goalP=([],[],22):=by unfold Ax.goalP;rw[if_neg (by omega)];repeat rw[if_neg (by omega)]
                have hy:x.goalP.1.length≤0∧0≤maxLen∧x.goalP.2.1.length≤0∧0≤maxLen∧((none:Option Addr)=none→0=0):=by rw[e];simp
                have hz:Value.tuple #[.slice none 0 0,.slice none 0 0,.int .i64 22]=.tuple #[.slice none x.goalP.1.length 0,.slice none x.goalP.2.1.length 0,.int .i64 x.goalP.2.2]:=by rw[e]<;>rfl
                have hw1:x.goalP.1.flatMap Pc.cells=[]:=by rw[e];rfl
                have hw2:x.goalP.2.1.flatMap Fc.cells=[]:=by rw[e];rfl
                exact ka_ eI_ ⟨(none,0,none,0),hy⟩ rfl rfl rfl hz j_ (fun v _ h=>⟨.inl hw1,.inl hw2,trivial⟩)
              · skip
                refine Zz 5 ?_;refine ap_ ((b1,.cells #[.int .i64 (Ax.kind x),.bool (Ax.opn x),.int .i64 (Con.kind (Ax.left x)),str (Con.name (Ax.left x)),.int .i64 (Con.lo (Ax.left x)),.int .i64 (Con.hi (Ax.left x)),.slice (Con.ad (Ax.left x)) (List.length (Con.parts (Ax.left x))) (Con.cap (Ax.left x)),.int .i64 (Con.kind (Ax.right x)),str (Con.name (Ax.right x)),.int .i64 (Con.lo (Ax.right x)),.int .i64 (Con.hi (Ax.right x)),.slice (Con.ad (Ax.right x)) (List.length (Con.parts (Ax.right x))) (Con.cap (Ax.right x)),.slice (Ax.ad x) (List.length (Ax.roles x)) (Ax.cap x),str (Ax.role x),str (Ax.a x),str (Ax.b x)] 58 (0,0))::[]) zk ?_;refine o_ 4 [0,1,2,4,5] zk zs (Zz 6 ?_);refine i_ 3 rfl zk (n_ (cT_ (Ax.a x) hok.a) rfl j_ zt rfl fun _=>Zz 3 ?_);refine i_ 6 rfl zk (n_ (cT_ (Ax.b x) hok.b) rfl j_ zt rfl fun _=>Zz 3 ?_);refine i_ 7 rfl zk (af_ D_ X_ aP_ rfl rfl rfl rfl rfl rfl fun b2=>?_);refine bh_ (List.flatMap by_ [(db_ (Ax.a x)),(db_ (Ax.b x))]) e_ rfl ?_;refine Zz 3 ?_;refine i_ 8 rfl zk (n_ (gw_ [(db_ (Ax.a x)),(db_ (Ax.b x))] (some ⟨b2,0,none⟩) 2 (-1) ([]:List Pc) ⟨.slice none 0 0,bm0,#[],0,[]⟩ ⟨bk_.nil _ _,rfl,by simp⟩ (by simp) (by simp only[List.length_cons,List.length_nil];omega)) rfl zp zf rfl fun⟨q1,hq1⟩=>?_);dsimp only;have hb1:=eN_ (-1) [(db_ (Ax.a x)),(db_ (Ax.b x))] ([]:List Pc);refine S_ (@List.perm_append_comm _ _ [_]) ?_;simp only[List.length_cons,List.length_nil]at hb1;refine Zz 6 ?_;refine o_ 5 [0,1,3,4,6,7] zk zs (Zz 7 ?_);refine i_ 2 rfl zk (n_ (cT_ (Ax.a x) hok.a) rfl j_ zt rfl fun _=>Zz 3 ?_);refine i_ 5 rfl zk (n_ (cT_ (Ax.b x) hok.b) rfl j_ zt rfl fun _=>Zz 3 ?_);refine o_ 2 [8] zk zs (B_ rfl (F_ gd_ rfl rfl) rfl (bi_ (i_ 9 rfl zk (af_ G_ y_ ag_ rfl rfl rfl rfl rfl rfl fun b3=>Zz 3 ?_))));refine o_ 0 [10] zk zs (Zz 17 ?_);refine bh_ (List.flatMap Fc.cells [(Fc.mk 2 (db_ (Ax.a x)) (db_ (Ax.b x)) (Ax.role x) 0 0)]) e_ rfl ?_;refine dE_ hq1.row (c_ (c_ (c_ bx_))) fun adP cpP hsvP hcP1 hcP2=>?_
                have e:x.goalP=((aU_ (-1) [(db_ (Ax.a x)),(db_ (Ax.b x))] ([]:List Pc)),[(Fc.mk 2 (db_ (Ax.a x)) (db_ (Ax.b x)) (Ax.role x) 0 0)],0):=by
                  unfold Ax.goalP;rw[if_neg (by omega)];repeat (first|rfl|(rw[if_pos (by omega)])|(rw[if_neg (by omega)]))
                have hy:x.goalP.1.length≤cpP∧cpP≤maxLen∧x.goalP.2.1.length≤1∧1≤maxLen∧(adP=none→cpP=0):=by rw[e];exact⟨hcP1,hcP2,by simp,by decide,bk_.nilcap hq1.row hsvP⟩
                have hz:Value.tuple #[q1.sv,.slice (some ⟨b3,0,none⟩) 1 1,.int .i64 0]=.tuple #[.slice adP x.goalP.1.length cpP,.slice (some ⟨b3,0,none⟩) x.goalP.2.1.length 1,.int .i64 x.goalP.2.2]:=by
                  rw[e,hsvP]<;>rfl
                have hw1:List.flatMap Pc.cells (aU_ (-1) [(db_ (Ax.a x)),(db_ (Ax.b x))] ([]:List Pc))=x.goalP.1.flatMap Pc.cells:=by rw[e]
                have hw2:List.flatMap Fc.cells [(Fc.mk 2 (db_ (Ax.a x)) (db_ (Ax.b x)) (Ax.role x) 0 0)]=x.goalP.2.1.flatMap Fc.cells:=by rw[e]
                exact ka_ eI_ ⟨(adP,cpP,(some ⟨b3,0,none⟩),1),hy⟩ rfl rfl rfl hz j_ (fun v _ h=>⟨hw1▸h.1,hw2▸h.2.1,trivial⟩)
            · skip
              obtain⟨fr,zr⟩:=Con.check_zero (G.right (by omega));refine Zz 5 ?_;refine ap_ ((b1,.cells #[.int .i64 (Ax.kind x),.bool (Ax.opn x),.int .i64 (Con.kind (Ax.left x)),str (Con.name (Ax.left x)),.int .i64 (Con.lo (Ax.left x)),.int .i64 (Con.hi (Ax.left x)),.slice (Con.ad (Ax.left x)) (List.length (Con.parts (Ax.left x))) (Con.cap (Ax.left x)),.int .i64 (Con.kind (Ax.right x)),str (Con.name (Ax.right x)),.int .i64 (Con.lo (Ax.right x)),.int .i64 (Con.hi (Ax.right x)),.slice (Con.ad (Ax.right x)) (List.length (Con.parts (Ax.right x))) (Con.cap (Ax.right x)),.slice (Ax.ad x) (List.length (Ax.roles x)) (Ax.cap x),str (Ax.role x),str (Ax.a x),str (Ax.b x)] 58 (0,0))::[]) zk ?_;refine o_ 4 [0,1,2,4,5] zk zs (Zz 6 ?_);refine i_ 3 rfl zk (n_ (cT_ (Ax.a x) hok.a) rfl j_ zt rfl fun _=>Zz 3 ?_);refine i_ 6 rfl zk (n_ (ct_ (Ax.right x) hok.right) rfl j_ (fun v _ h=>by exact⟨h.2.2.2.1.2.1,h.2.2.2.2.1,trivial⟩) rfl fun _=>Zz 3 ?_);refine i_ 7 rfl zk (af_ D_ X_ aP_ rfl rfl rfl rfl rfl rfl fun b4=>?_);refine bh_ (List.flatMap by_ [(db_ (Ax.a x)),(Con.atom (Ax.right x))]) e_ rfl ?_;refine Zz 3 ?_;refine i_ 8 rfl zk (n_ (gw_ [(db_ (Ax.a x)),(Con.atom (Ax.right x))] (some ⟨b4,0,none⟩) 2 (-1) ([]:List Pc) ⟨.slice none 0 0,bm0,#[],0,[]⟩ ⟨bk_.nil _ _,rfl,by simp⟩ (by simp) (by simp only[List.length_cons,List.length_nil];omega)) rfl zp zf rfl fun⟨q2,hq2⟩=>?_);dsimp only;have hb2:=eN_ (-1) [(db_ (Ax.a x)),(Con.atom (Ax.right x))] ([]:List Pc);refine S_ (@List.perm_append_comm _ _ [_]) ?_;simp only[List.length_cons,List.length_nil]at hb2;refine Zz 10 ?_;refine aq_ (hh_ (kb:=kb) (bk:=bk) (bs:=bl) (frm:=(-1)) _ (Ax.right x) (Nat.le_refl _) hok.right fr (aU_ (-1) [(db_ (Ax.a x)),(Con.atom (Ax.right x))] ([]:List Pc)) q2 hq2 (by omega)) rfl rfl zp (fun v _ h=>by exact⟨h.2.2.2.2.1.2.1,h.2.2.2.2.2.1,h.2.1,h.2.2.1,trivial⟩) rfl fun⟨q3,hq3⟩=>?_;dsimp only;have hb3:=Con.leftP_len (-1) _ (Ax.right x) (Nat.le_refl _) (aU_ (-1) [(db_ (Ax.a x)),(Con.atom (Ax.right x))] ([]:List Pc));refine S_ (@List.perm_append_comm _ _ [_]) (Zz 3 ?_);refine o_ 5 [0,1,2,4,5] zk zs (Zz 6 ?_);refine i_ 3 rfl zk (n_ (cT_ (Ax.a x) hok.a) rfl j_ zt rfl fun _=>Zz 3 ?_);refine i_ 6 rfl zk (n_ (ct_ (Ax.right x) hok.right) rfl j_ (fun v _ h=>by exact⟨h.2.2.2.2.1.2.1,h.2.2.2.2.2.1,trivial⟩) rfl fun _=>Zz 3 ?_);refine i_ 7 rfl zk (aq_ (jf_ (db_ (Ax.a x)) (Con.atom (Ax.right x))) rfl rfl j_ zt rfl fun _=>Zz 3 ?_);refine i_ 8 rfl zk (af_ G_ y_ ag_ rfl rfl rfl rfl rfl rfl fun b5=>Zz 3 ?_);refine o_ 0 [9] zk zs (Zz 17 ?_);refine bh_ (List.flatMap Fc.cells [(Fc.mk 1 (db_ (Ax.a x)) (Con.atom (Ax.right x)) [] 0 0)]) e_ rfl ?_;refine dE_ hq3.row (c_ (c_ (c_ bx_))) fun adP cpP hsvP hcP1 hcP2=>?_
              have e:x.goalP=((Con.leftP (-1) (Ax.right x) (aU_ (-1) [(db_ (Ax.a x)),(Con.atom (Ax.right x))] ([]:List Pc))),[(Fc.mk 1 (db_ (Ax.a x)) (Con.atom (Ax.right x)) [] 0 0)],0):=by
                unfold Ax.goalP;rw[if_neg (by omega)];repeat (first|rfl|(rw[if_pos (by omega)])|(rw[if_neg (by omega)]))
              have hy:x.goalP.1.length≤cpP∧cpP≤maxLen∧x.goalP.2.1.length≤1∧1≤maxLen∧(adP=none→cpP=0):=by rw[e];exact⟨hcP1,hcP2,by simp,by decide,bk_.nilcap hq3.row hsvP⟩
              have hz:Value.tuple #[q3.sv,.slice (some ⟨b5,0,none⟩) 1 1,.int .i64 0]=.tuple #[.slice adP x.goalP.1.length cpP,.slice (some ⟨b5,0,none⟩) x.goalP.2.1.length 1,.int .i64 x.goalP.2.2]:=by
                rw[e,hsvP]<;>rfl
              have hw1:List.flatMap Pc.cells (Con.leftP (-1) (Ax.right x) (aU_ (-1) [(db_ (Ax.a x)),(Con.atom (Ax.right x))] ([]:List Pc)))=x.goalP.1.flatMap Pc.cells:=by rw[e]
              have hw2:List.flatMap Fc.cells [(Fc.mk 1 (db_ (Ax.a x)) (Con.atom (Ax.right x)) [] 0 0)]=x.goalP.2.1.flatMap Fc.cells:=by rw[e]
              exact ka_ eI_ ⟨(adP,cpP,(some ⟨b5,0,none⟩),1),hy⟩ rfl rfl rfl hz j_ (fun v _ h=>⟨hw1▸h.1,hw2▸h.2.1,trivial⟩)
          · skip
            obtain⟨fr,zr⟩:=Con.check_zero (G.right (by omega));refine Zz 8 ?_;refine d_ (dJ_ rfl rfl (by simp only[List.length_append,List.length_cons,List.length_nil];omega)) rfl ?_;refine d_ (bG_ (dJ_ rfl rfl (by simp only[List.length_append,List.length_cons,List.length_nil];omega)) (show _=str (Ax.doms x) from rfl)) rfl ?_;refine Zz 9 ?_;refine n_ (ct_ (Ax.right x) hok.right) rfl j_ (fun v _ h=>by exact⟨h.2.2.2.1.2.1,h.2.2.2.2.1,trivial⟩) rfl fun _=>af_ D_ X_ aP_ rfl rfl rfl rfl rfl rfl fun b6=>?_;refine bh_ (List.flatMap by_ [(Ax.doms x),(Con.atom (Ax.right x))]) e_ rfl ?_;refine n_ (gw_ [(Ax.doms x),(Con.atom (Ax.right x))] (some ⟨b6,0,none⟩) 2 (-1) ([]:List Pc) ⟨.slice none 0 0,bm0,#[],0,[]⟩ ⟨bk_.nil _ _,rfl,by simp⟩ (by simp) (by simp only[List.length_cons,List.length_nil];omega)) rfl zp zf rfl fun⟨q4,hq4⟩=>?_;dsimp only;have hb4:=eN_ (-1) [(Ax.doms x),(Con.atom (Ax.right x))] ([]:List Pc);refine S_ (@List.perm_append_comm _ _ [_]) ?_;simp only[List.length_cons,List.length_nil]at hb4;refine Zz 8 ?_;refine d_ (F_ dT_ rfl rfl) rfl (af_ P_ U_ am_ rfl rfl rfl rfl rfl rfl fun b7=>n_ (dW_ (Pc.mk 3 (Ax.doms x) [] [42] (Ax.role x) [] [] 0 0 0) (-1) (aU_ (-1) [(Ax.doms x),(Con.atom (Ax.right x))] ([]:List Pc)) q4 hq4 (by omega)) rfl zp zt rfl fun⟨q5,hq5⟩=>?_);dsimp only;have hb5:=bu_ (-1) (aU_ (-1) [(Ax.doms x),(Con.atom (Ax.right x))] ([]:List Pc)) (Pc.mk 3 (Ax.doms x) [] [42] (Ax.role x) [] [] 0 0 0);refine S_ (@List.perm_append_comm _ _ [_]) (Zz 7 ?_);refine aq_ (hh_ (kb:=kb) (bk:=bk) (bs:=bl) (frm:=(-1)) _ (Ax.right x) (Nat.le_refl _) hok.right fr (ins (-1) (aU_ (-1) [(Ax.doms x),(Con.atom (Ax.right x))] ([]:List Pc)) (Pc.mk 3 (Ax.doms x) [] [42] (Ax.role x) [] [] 0 0 0)) q5 hq5 (by omega)) rfl rfl zp (fun v _ h=>by exact⟨h.2.2.2.2.1.2.1,h.2.2.2.2.2.1,h.2.1,h.2.2.1,trivial⟩) rfl fun⟨q6,hq6⟩=>?_;dsimp only;have hb6:=Con.leftP_len (-1) _ (Ax.right x) (Nat.le_refl _) (ins (-1) (aU_ (-1) [(Ax.doms x),(Con.atom (Ax.right x))] ([]:List Pc)) (Pc.mk 3 (Ax.doms x) [] [42] (Ax.role x) [] [] 0 0 0));refine S_ (@List.perm_append_comm _ _ [_]) (Zz 7 ?_);refine n_ (ct_ (Ax.right x) hok.right) rfl j_ (fun v _ h=>by exact⟨h.2.2.2.2.1.2.1,h.2.2.2.2.2.1,trivial⟩) rfl fun _=>aq_ (jf_ (Ax.doms x) (Con.atom (Ax.right x))) rfl rfl j_ zt rfl fun _=>af_ G_ y_ ag_ rfl rfl rfl rfl rfl rfl fun b8=>Zz 16 ?_
            refine bh_ (List.flatMap Fc.cells [(Fc.mk 1 (Ax.doms x) (Con.atom (Ax.right x)) [] 0 0)]) e_ rfl ?_;refine dE_ hq6.row (c_ (c_ (c_ bx_))) fun adP cpP hsvP hcP1 hcP2=>?_
            have e:x.goalP=((Con.leftP (-1) (Ax.right x) (ins (-1) (aU_ (-1) [(Ax.doms x),(Con.atom (Ax.right x))] ([]:List Pc)) (Pc.mk 3 (Ax.doms x) [] [42] (Ax.role x) [] [] 0 0 0))),[(Fc.mk 1 (Ax.doms x) (Con.atom (Ax.right x)) [] 0 0)],0):=by
              unfold Ax.goalP;rw[if_neg (by omega)];repeat (first|rfl|(rw[if_pos (by omega)])|(rw[if_neg (by omega)]))
            have hy:x.goalP.1.length≤cpP∧cpP≤maxLen∧x.goalP.2.1.length≤1∧1≤maxLen∧(adP=none→cpP=0):=by rw[e];exact⟨hcP1,hcP2,by simp,by decide,bk_.nilcap hq6.row hsvP⟩
            have hz:Value.tuple #[q6.sv,.slice (some ⟨b8,0,none⟩) 1 1,.int .i64 0]=.tuple #[.slice adP x.goalP.1.length cpP,.slice (some ⟨b8,0,none⟩) x.goalP.2.1.length 1,.int .i64 x.goalP.2.2]:=by
              rw[e,hsvP]<;>rfl
            have hw1:List.flatMap Pc.cells (Con.leftP (-1) (Ax.right x) (ins (-1) (aU_ (-1) [(Ax.doms x),(Con.atom (Ax.right x))] ([]:List Pc)) (Pc.mk 3 (Ax.doms x) [] [42] (Ax.role x) [] [] 0 0 0)))=x.goalP.1.flatMap Pc.cells:=by rw[e]
            have hw2:List.flatMap Fc.cells [(Fc.mk 1 (Ax.doms x) (Con.atom (Ax.right x)) [] 0 0)]=x.goalP.2.1.flatMap Fc.cells:=by rw[e]
            exact ka_ eI_ ⟨(adP,cpP,(some ⟨b8,0,none⟩),1),hy⟩ rfl rfl rfl hz j_ (fun v _ h=>⟨hw1▸h.1,hw2▸h.2.1,trivial⟩)
        · skip
          obtain⟨fl,zl⟩:=Con.check_zero (G.left (by omega));obtain⟨fr,zr⟩:=Con.check_zero (G.right (by omega));refine Zz 6 ?_;refine o_ 7 [0,1,5,6] zk zs (Zz 5 ?_);refine i_ 2 rfl zk (n_ (ms_ (Ax.left x) hok.left) rfl j_ (fun v _ h=>by exact⟨h.2.2.2.1.1,h.2.2.2.2.1,trivial⟩) rfl fun _=>Zz 3 ?_);refine o_ 4 [3,4] zk zs ?_;refine B_ rfl (dJ_ rfl rfl (by simp only[List.length_append,List.length_cons,List.length_nil];omega)) rfl ?_;refine B_ rfl (dJ_ rfl rfl (by simp only[List.length_append,List.length_cons,List.length_nil];omega)) rfl ?_;refine bi_ (i_ 7 rfl zk (n_ (ms_ (Ax.right x) hok.right) rfl j_ (fun v _ h=>by exact⟨h.2.2.2.1.2.1,h.2.2.2.2.1,trivial⟩) rfl fun _=>Zz 3 ?_));refine o_ 0 [8,9,10] zk zs ?_;refine B_ rfl (dJ_ rfl rfl (by simp only[List.length_append,List.length_cons,List.length_nil];omega)) rfl ?_;refine B_ rfl (bG_ (dJ_ rfl rfl (by simp only[List.length_append,List.length_cons,List.length_nil];omega)) (show _=str (Ax.disj x) from rfl)) rfl ?_;refine Zz 8 ?_;refine af_ D_ X_ aP_ rfl rfl rfl rfl rfl rfl fun b9=>?_;refine bh_ (List.flatMap by_ [(Ax.disj x),[33]]) e_ rfl ?_;refine n_ (gw_ [(Ax.disj x),[33]] (some ⟨b9,0,none⟩) 2 (-1) ([]:List Pc) ⟨.slice none 0 0,bm0,#[],0,[]⟩ ⟨bk_.nil _ _,rfl,by simp⟩ (by simp) (by simp only[List.length_cons,List.length_nil];omega)) rfl zp zf rfl fun⟨q7,hq7⟩=>?_;dsimp only;have hb7:=eN_ (-1) [(Ax.disj x),[33]] ([]:List Pc);refine S_ (@List.perm_append_comm _ _ [_]) ?_;simp only[List.length_cons,List.length_nil]at hb7;refine Zz 8 ?_;refine n_ (ct_ (Ax.left x) hok.left) rfl j_ (fun v _ h=>by exact⟨h.2.2.2.2.1.1,h.2.2.2.2.2.1,trivial⟩) rfl fun _=>d_ (F_ dT_ rfl rfl) rfl (af_ P_ U_ am_ rfl rfl rfl rfl rfl rfl fun b10=>n_ (dW_ (Pc.mk 1 (Ax.disj x) [] (Con.atom (Ax.left x)) [] [] [] 0 0 0) (-1) (aU_ (-1) [(Ax.disj x),[33]] ([]:List Pc)) q7 hq7 (by omega)) rfl zp zt rfl fun⟨q8,hq8⟩=>?_)
          dsimp only;have hb8:=bu_ (-1) (aU_ (-1) [(Ax.disj x),[33]] ([]:List Pc)) (Pc.mk 1 (Ax.disj x) [] (Con.atom (Ax.left x)) [] [] [] 0 0 0);refine S_ (@List.perm_append_comm _ _ [_]) (Zz 7 ?_);refine aq_ (fP_ (kb:=kb) (bk:=bk) (bs:=br) (frm:=(-1)) _ (Ax.left x) (Nat.le_refl _) hok.left fl (ins (-1) (aU_ (-1) [(Ax.disj x),[33]] ([]:List Pc)) (Pc.mk 1 (Ax.disj x) [] (Con.atom (Ax.left x)) [] [] [] 0 0 0)) q8 hq8 (by omega)) rfl rfl zp (fun v _ h=>by exact⟨h.2.2.2.2.1.1,h.2.2.2.2.2.1,h.2.1,h.2.2.2.1,trivial⟩) rfl fun⟨q9,hq9⟩=>?_;dsimp only;have hb9:=Con.rightP_len (-1) _ (Ax.left x) (Nat.le_refl _) (ins (-1) (aU_ (-1) [(Ax.disj x),[33]] ([]:List Pc)) (Pc.mk 1 (Ax.disj x) [] (Con.atom (Ax.left x)) [] [] [] 0 0 0));refine S_ (@List.perm_append_comm _ _ [_]) (Zz 8 ?_);refine n_ (ct_ (Ax.right x) hok.right) rfl j_ (fun v _ h=>by exact⟨h.2.2.2.2.1.2.1,h.2.2.2.2.2.1,trivial⟩) rfl fun _=>d_ (F_ dT_ rfl rfl) rfl (af_ P_ U_ am_ rfl rfl rfl rfl rfl rfl fun b11=>n_ (dW_ (Pc.mk 1 (Ax.disj x) [] (Con.atom (Ax.right x)) [] [] [] 0 0 0) (-1) (Con.rightP (-1) (Ax.left x) (ins (-1) (aU_ (-1) [(Ax.disj x),[33]] ([]:List Pc)) (Pc.mk 1 (Ax.disj x) [] (Con.atom (Ax.left x)) [] [] [] 0 0 0))) q9 hq9 (by omega)) rfl zp zt rfl fun⟨q10,hq10⟩=>?_)
          dsimp only;have hb10:=bu_ (-1) (Con.rightP (-1) (Ax.left x) (ins (-1) (aU_ (-1) [(Ax.disj x),[33]] ([]:List Pc)) (Pc.mk 1 (Ax.disj x) [] (Con.atom (Ax.left x)) [] [] [] 0 0 0))) (Pc.mk 1 (Ax.disj x) [] (Con.atom (Ax.right x)) [] [] [] 0 0 0);refine S_ (@List.perm_append_comm _ _ [_]) (Zz 7 ?_);refine aq_ (fP_ (kb:=kb) (bk:=bk) (bs:=br) (frm:=(-1)) _ (Ax.right x) (Nat.le_refl _) hok.right fr (ins (-1) (Con.rightP (-1) (Ax.left x) (ins (-1) (aU_ (-1) [(Ax.disj x),[33]] ([]:List Pc)) (Pc.mk 1 (Ax.disj x) [] (Con.atom (Ax.left x)) [] [] [] 0 0 0))) (Pc.mk 1 (Ax.disj x) [] (Con.atom (Ax.right x)) [] [] [] 0 0 0)) q10 hq10 (by omega)) rfl rfl zp (fun v _ h=>by exact⟨h.2.2.2.2.1.2.1,h.2.2.2.2.2.1,h.2.1,h.2.2.2.1,trivial⟩) rfl fun⟨q11,hq11⟩=>?_;dsimp only;have hb11:=Con.rightP_len (-1) _ (Ax.right x) (Nat.le_refl _) (ins (-1) (Con.rightP (-1) (Ax.left x) (ins (-1) (aU_ (-1) [(Ax.disj x),[33]] ([]:List Pc)) (Pc.mk 1 (Ax.disj x) [] (Con.atom (Ax.left x)) [] [] [] 0 0 0))) (Pc.mk 1 (Ax.disj x) [] (Con.atom (Ax.right x)) [] [] [] 0 0 0));refine S_ (@List.perm_append_comm _ _ [_]) (Zz 5 ?_);refine aq_ (jf_ (Ax.disj x) [33]) rfl rfl j_ zt rfl fun _=>af_ G_ y_ ag_ rfl rfl rfl rfl rfl rfl fun b12=>Zz 16 ?_
          refine bh_ (List.flatMap Fc.cells [(Fc.mk 1 (Ax.disj x) [33] [] 0 0)]) e_ rfl ?_;refine dE_ hq11.row (c_ (c_ (c_ bx_))) fun adP cpP hsvP hcP1 hcP2=>?_
          have e:x.goalP=((Con.rightP (-1) (Ax.right x) (ins (-1) (Con.rightP (-1) (Ax.left x) (ins (-1) (aU_ (-1) [(Ax.disj x),[33]] ([]:List Pc)) (Pc.mk 1 (Ax.disj x) [] (Con.atom (Ax.left x)) [] [] [] 0 0 0))) (Pc.mk 1 (Ax.disj x) [] (Con.atom (Ax.right x)) [] [] [] 0 0 0))),[(Fc.mk 1 (Ax.disj x) [33] [] 0 0)],0):=by
            unfold Ax.goalP;rw[if_neg (by omega)];repeat (first|rfl|(rw[if_pos (by omega)])|(rw[if_neg (by omega)]))
          have hy:x.goalP.1.length≤cpP∧cpP≤maxLen∧x.goalP.2.1.length≤1∧1≤maxLen∧(adP=none→cpP=0):=by rw[e];exact⟨hcP1,hcP2,by simp,by decide,bk_.nilcap hq11.row hsvP⟩
          have hz:Value.tuple #[q11.sv,.slice (some ⟨b12,0,none⟩) 1 1,.int .i64 0]=.tuple #[.slice adP x.goalP.1.length cpP,.slice (some ⟨b12,0,none⟩) x.goalP.2.1.length 1,.int .i64 x.goalP.2.2]:=by
            rw[e,hsvP]<;>rfl
          have hw1:List.flatMap Pc.cells (Con.rightP (-1) (Ax.right x) (ins (-1) (Con.rightP (-1) (Ax.left x) (ins (-1) (aU_ (-1) [(Ax.disj x),[33]] ([]:List Pc)) (Pc.mk 1 (Ax.disj x) [] (Con.atom (Ax.left x)) [] [] [] 0 0 0))) (Pc.mk 1 (Ax.disj x) [] (Con.atom (Ax.right x)) [] [] [] 0 0 0)))=x.goalP.1.flatMap Pc.cells:=by rw[e]
          have hw2:List.flatMap Fc.cells [(Fc.mk 1 (Ax.disj x) [33] [] 0 0)]=x.goalP.2.1.flatMap Fc.cells:=by rw[e]
          exact ka_ eI_ ⟨(adP,cpP,(some ⟨b12,0,none⟩),1),hy⟩ rfl rfl rfl hz j_ (fun v _ h=>⟨hw1▸h.1,hw2▸h.2.1,trivial⟩)
      · skip
        obtain⟨fl,zl⟩:=Con.check_zero (G.left (by omega));obtain⟨fr,zr⟩:=Con.check_zero (G.right (by omega));refine Zz 6 ?_;refine o_ 4 [0,1,3,4] zk zs (Zz 5 ?_);refine i_ 2 rfl zk (n_ (ct_ (Ax.left x) hok.left) rfl j_ (fun v _ h=>by exact⟨h.2.2.2.1.1,h.2.2.2.2.1,trivial⟩) rfl fun _=>Zz 3 ?_);refine i_ 5 rfl zk (n_ (ct_ (Ax.right x) hok.right) rfl j_ (fun v _ h=>by exact⟨h.2.2.2.1.2.1,h.2.2.2.2.1,trivial⟩) rfl fun _=>Zz 3 ?_);refine o_ 0 [6,7] zk zs (Zz 10 ?_);refine af_ D_ X_ aP_ rfl rfl rfl rfl rfl rfl fun b13=>?_;refine bh_ (List.flatMap by_ [(Con.atom (Ax.left x)),(Con.atom (Ax.right x))]) e_ rfl ?_;refine n_ (gw_ [(Con.atom (Ax.left x)),(Con.atom (Ax.right x))] (some ⟨b13,0,none⟩) 2 (-1) ([]:List Pc) ⟨.slice none 0 0,bm0,#[],0,[]⟩ ⟨bk_.nil _ _,rfl,by simp⟩ (by simp) (by simp only[List.length_cons,List.length_nil];omega)) rfl zp zf rfl fun⟨q12,hq12⟩=>?_;dsimp only;have hb12:=eN_ (-1) [(Con.atom (Ax.left x)),(Con.atom (Ax.right x))] ([]:List Pc);refine S_ (@List.perm_append_comm _ _ [_]) ?_;simp only[List.length_cons,List.length_nil]at hb12;refine Zz 7 ?_;refine aq_ (fP_ (kb:=kb) (bk:=bk) (bs:=br) (frm:=(-1)) _ (Ax.left x) (Nat.le_refl _) hok.left fl (aU_ (-1) [(Con.atom (Ax.left x)),(Con.atom (Ax.right x))] ([]:List Pc)) q12 hq12 (by omega)) rfl rfl zp (fun v _ h=>by exact⟨h.2.2.2.2.1.1,h.2.2.2.2.2.1,h.2.1,h.2.2.2.1,trivial⟩) rfl fun⟨q13,hq13⟩=>?_;dsimp only;have hb13:=Con.rightP_len (-1) _ (Ax.left x) (Nat.le_refl _) (aU_ (-1) [(Con.atom (Ax.left x)),(Con.atom (Ax.right x))] ([]:List Pc));refine S_ (@List.perm_append_comm _ _ [_]) (Zz 7 ?_);refine aq_ (hh_ (kb:=kb) (bk:=bk) (bs:=bl) (frm:=(-1)) _ (Ax.right x) (Nat.le_refl _) hok.right fr (Con.rightP (-1) (Ax.left x) (aU_ (-1) [(Con.atom (Ax.left x)),(Con.atom (Ax.right x))] ([]:List Pc))) q13 hq13 (by omega)) rfl rfl zp (fun v _ h=>by exact⟨h.2.2.2.2.1.2.1,h.2.2.2.2.2.1,h.2.1,h.2.2.1,trivial⟩) rfl fun⟨q14,hq14⟩=>?_;dsimp only;have hb14:=Con.leftP_len (-1) _ (Ax.right x) (Nat.le_refl _) (Con.rightP (-1) (Ax.left x) (aU_ (-1) [(Con.atom (Ax.left x)),(Con.atom (Ax.right x))] ([]:List Pc)));refine S_ (@List.perm_append_comm _ _ [_]) (Zz 7 ?_);refine aq_ (jf_ (Con.atom (Ax.left x)) (Con.atom (Ax.right x))) rfl rfl j_ zt rfl fun _=>af_ G_ y_ ag_ rfl rfl rfl rfl rfl rfl fun b14=>Zi 7 (fun hr8=>?_) fun hr8=>?_
        · skip
          refine Zz 18 ?_;refine bh_ (List.flatMap Fc.cells [(Fc.mk 1 (Con.atom (Ax.left x)) (Con.atom (Ax.right x)) [] 0 0)]) e_ rfl ?_;refine dE_ hq14.row (c_ (c_ (c_ bx_))) fun adP cpP hsvP hcP1 hcP2=>?_
          have e:x.goalP=((Con.leftP (-1) (Ax.right x) (Con.rightP (-1) (Ax.left x) (aU_ (-1) [(Con.atom (Ax.left x)),(Con.atom (Ax.right x))] ([]:List Pc)))),[(Fc.mk 1 (Con.atom (Ax.left x)) (Con.atom (Ax.right x)) [] 0 0)],0):=by
            unfold Ax.goalP;rw[if_neg (by omega)];repeat (first|rfl|(rw[if_pos (by omega)])|(rw[if_neg (by omega)]))
          have hy:x.goalP.1.length≤cpP∧cpP≤maxLen∧x.goalP.2.1.length≤1∧1≤maxLen∧(adP=none→cpP=0):=by rw[e];exact⟨hcP1,hcP2,by simp,by decide,bk_.nilcap hq14.row hsvP⟩
          have hz:Value.tuple #[q14.sv,.slice (some ⟨b14,0,none⟩) 1 1,.int .i64 0]=.tuple #[.slice adP x.goalP.1.length cpP,.slice (some ⟨b14,0,none⟩) x.goalP.2.1.length 1,.int .i64 x.goalP.2.2]:=by
            rw[e,hsvP]<;>rfl
          have hw1:List.flatMap Pc.cells (Con.leftP (-1) (Ax.right x) (Con.rightP (-1) (Ax.left x) (aU_ (-1) [(Con.atom (Ax.left x)),(Con.atom (Ax.right x))] ([]:List Pc))))=x.goalP.1.flatMap Pc.cells:=by rw[e]
          have hw2:List.flatMap Fc.cells [(Fc.mk 1 (Con.atom (Ax.left x)) (Con.atom (Ax.right x)) [] 0 0)]=x.goalP.2.1.flatMap Fc.cells:=by rw[e]
          exact ka_ eI_ ⟨(adP,cpP,(some ⟨b14,0,none⟩),1),hy⟩ rfl rfl rfl hz j_ (fun v _ h=>⟨hw1▸h.1,hw2▸h.2.1,trivial⟩)
        · skip
          obtain⟨fl,zl⟩:=Con.check_zero (G.left (by omega));obtain⟨fr,zr⟩:=Con.check_zero (G.right (by omega));refine Zz 8 ?_;refine aq_ (fP_ (kb:=kb) (bk:=bk) (bs:=br) (frm:=(-1)) _ (Ax.right x) (Nat.le_refl _) hok.right fr (Con.leftP (-1) (Ax.right x) (Con.rightP (-1) (Ax.left x) (aU_ (-1) [(Con.atom (Ax.left x)),(Con.atom (Ax.right x))] ([]:List Pc)))) q14 hq14 (by omega)) rfl rfl zp (fun v _ h=>by exact⟨h.2.2.2.2.1.2.1,h.2.2.2.2.2.1,h.2.1,h.2.2.2.1,trivial⟩) rfl fun⟨q15,hq15⟩=>?_;dsimp only;have hb15:=Con.rightP_len (-1) _ (Ax.right x) (Nat.le_refl _) (Con.leftP (-1) (Ax.right x) (Con.rightP (-1) (Ax.left x) (aU_ (-1) [(Con.atom (Ax.left x)),(Con.atom (Ax.right x))] ([]:List Pc))));refine S_ (@List.perm_append_comm _ _ [_,_]) (Zz 7 ?_);refine aq_ (hh_ (kb:=kb) (bk:=bk) (bs:=bl) (frm:=(-1)) _ (Ax.left x) (Nat.le_refl _) hok.left fl (Con.rightP (-1) (Ax.right x) (Con.leftP (-1) (Ax.right x) (Con.rightP (-1) (Ax.left x) (aU_ (-1) [(Con.atom (Ax.left x)),(Con.atom (Ax.right x))] ([]:List Pc))))) q15 hq15 (by omega)) rfl rfl zp (fun v _ h=>by exact⟨h.2.2.2.2.1.1,h.2.2.2.2.2.1,h.2.1,h.2.2.1,trivial⟩) rfl fun⟨q16,hq16⟩=>?_;dsimp only;have hb16:=Con.leftP_len (-1) _ (Ax.left x) (Nat.le_refl _) (Con.rightP (-1) (Ax.right x) (Con.leftP (-1) (Ax.right x) (Con.rightP (-1) (Ax.left x) (aU_ (-1) [(Con.atom (Ax.left x)),(Con.atom (Ax.right x))] ([]:List Pc)))));refine S_ (@List.perm_append_comm _ _ [_,_]) (Zz 7 ?_);refine aq_ (jf_ (Con.atom (Ax.right x)) (Con.atom (Ax.left x))) rfl rfl j_ zt rfl fun _=>af_ G_ y_ ag_ rfl rfl rfl rfl rfl rfl fun b15=>?_;have hrow0:bk_ 24 6 (.slice (some ⟨b14,0,none⟩) 1 1) 1 (Fc.cells (Fc.mk 1 (Con.atom (Ax.left x)) (Con.atom (Ax.right x)) [] 0 0)) [(b14,.cells (Fc.cells (Fc.mk 1 (Con.atom (Ax.left x)) (Con.atom (Ax.right x)) [] 0 0)).toArray 24 (0,0))]:=⟨rfl,.inr ⟨b14,1,_,rfl,rfl,by decide,by decide,rfl,rfl⟩⟩;refine aJ_ (news:=Fc.cells (Fc.mk 1 (Con.atom (Ax.right x)) (Con.atom (Ax.left x)) [] 0 0)) eltF hrow0 rfl rfl zp rfl (bF_ 0 rfl) (jc_ rfl) (by decide) (by decide) rfl fun svF HrF hrowF=>?_;obtain⟨gF,cpF,curF,rfl,rfl,hrF⟩:=hrowF.some (by decide);refine Zz 16 ?_;refine dE_ hrowF e_ fun adF cpG hsvF hcF1 hcF2=>?_;refine dE_ hq16.row (c_ (c_ (c_ (c_ bx_)))) fun adP cpP hsvP hcP1 hcP2=>?_
          have e:x.goalP=((Con.leftP (-1) (Ax.left x) (Con.rightP (-1) (Ax.right x) (Con.leftP (-1) (Ax.right x) (Con.rightP (-1) (Ax.left x) (aU_ (-1) [(Con.atom (Ax.left x)),(Con.atom (Ax.right x))] ([]:List Pc)))))),[⟨1,x.left.atom,x.right.atom,[],0,0⟩,⟨1,x.right.atom,x.left.atom,[],0,0⟩],0):=by
            unfold Ax.goalP;rw[if_neg (by omega)];repeat (first|rfl|(rw[if_pos (by omega)])|(rw[if_neg (by omega)]))
          have hy:x.goalP.1.length≤cpP∧cpP≤maxLen∧x.goalP.2.1.length≤cpG∧cpG≤maxLen∧(adP=none→cpP=0):=by rw[e];exact⟨hcP1,hcP2,hcF1,hcF2,bk_.nilcap hq16.row hsvP⟩
          have hz:Value.tuple #[q16.sv,.slice (some ⟨gF,0,none⟩) 2 cpF,.int .i64 0]=.tuple #[.slice adP x.goalP.1.length cpP,.slice adF x.goalP.2.1.length cpG,.int .i64 x.goalP.2.2]:=by
            rw[e,hsvP];exact congrArg (fun z=>Value.tuple #[_,z,_]) hsvF
          have hw1:List.flatMap Pc.cells (Con.leftP (-1) (Ax.left x) (Con.rightP (-1) (Ax.right x) (Con.leftP (-1) (Ax.right x) (Con.rightP (-1) (Ax.left x) (aU_ (-1) [(Con.atom (Ax.left x)),(Con.atom (Ax.right x))] ([]:List Pc))))))=x.goalP.1.flatMap Pc.cells:=by rw[e]
          have hw2:List.flatMap Fc.cells [⟨1,x.left.atom,x.right.atom,[],0,0⟩,⟨1,x.right.atom,x.left.atom,[],0,0⟩]=x.goalP.2.1.flatMap Fc.cells:=by rw[e]
          exact ka_ eI_ ⟨(adP,cpP,adF,cpG),hy⟩ rfl rfl rfl hz j_ (fun v _ h=>⟨hw1▸h.1,hw2▸h.2.1,trivial⟩)
    · skip
      obtain⟨fl,zl⟩:=Con.check_zero (G.left (by omega));obtain⟨fr,zr⟩:=Con.check_zero (G.right (by omega));refine Zz 9 ?_;refine o_ 4 [0,1,3,4] zk zs (Zz 5 ?_);refine i_ 2 rfl zk (n_ (ct_ (Ax.left x) hok.left) rfl j_ (fun v _ h=>by exact⟨h.2.2.2.1.1,h.2.2.2.2.1,trivial⟩) rfl fun _=>Zz 3 ?_);refine i_ 5 rfl zk (n_ (ct_ (Ax.right x) hok.right) rfl j_ (fun v _ h=>by exact⟨h.2.2.2.1.2.1,h.2.2.2.2.1,trivial⟩) rfl fun _=>Zz 3 ?_);refine o_ 0 [6,7] zk zs (Zz 10 ?_);refine af_ D_ X_ aP_ rfl rfl rfl rfl rfl rfl fun b16=>?_;refine bh_ (List.flatMap by_ [(Con.atom (Ax.left x)),(Con.atom (Ax.right x))]) e_ rfl ?_;refine n_ (gw_ [(Con.atom (Ax.left x)),(Con.atom (Ax.right x))] (some ⟨b16,0,none⟩) 2 (-1) ([]:List Pc) ⟨.slice none 0 0,bm0,#[],0,[]⟩ ⟨bk_.nil _ _,rfl,by simp⟩ (by simp) (by simp only[List.length_cons,List.length_nil];omega)) rfl zp zf rfl fun⟨q17,hq17⟩=>?_;dsimp only;have hb17:=eN_ (-1) [(Con.atom (Ax.left x)),(Con.atom (Ax.right x))] ([]:List Pc);refine S_ (@List.perm_append_comm _ _ [_]) ?_;simp only[List.length_cons,List.length_nil]at hb17;refine Zz 7 ?_;refine aq_ (fP_ (kb:=kb) (bk:=bk) (bs:=br) (frm:=(-1)) _ (Ax.left x) (Nat.le_refl _) hok.left fl (aU_ (-1) [(Con.atom (Ax.left x)),(Con.atom (Ax.right x))] ([]:List Pc)) q17 hq17 (by omega)) rfl rfl zp (fun v _ h=>by exact⟨h.2.2.2.2.1.1,h.2.2.2.2.2.1,h.2.1,h.2.2.2.1,trivial⟩) rfl fun⟨q18,hq18⟩=>?_;dsimp only;have hb18:=Con.rightP_len (-1) _ (Ax.left x) (Nat.le_refl _) (aU_ (-1) [(Con.atom (Ax.left x)),(Con.atom (Ax.right x))] ([]:List Pc));refine S_ (@List.perm_append_comm _ _ [_]) (Zz 7 ?_);refine aq_ (hh_ (kb:=kb) (bk:=bk) (bs:=bl) (frm:=(-1)) _ (Ax.right x) (Nat.le_refl _) hok.right fr (Con.rightP (-1) (Ax.left x) (aU_ (-1) [(Con.atom (Ax.left x)),(Con.atom (Ax.right x))] ([]:List Pc))) q18 hq18 (by omega)) rfl rfl zp (fun v _ h=>by exact⟨h.2.2.2.2.1.2.1,h.2.2.2.2.2.1,h.2.1,h.2.2.1,trivial⟩) rfl fun⟨q19,hq19⟩=>?_;dsimp only;have hb19:=Con.leftP_len (-1) _ (Ax.right x) (Nat.le_refl _) (Con.rightP (-1) (Ax.left x) (aU_ (-1) [(Con.atom (Ax.left x)),(Con.atom (Ax.right x))] ([]:List Pc)));refine S_ (@List.perm_append_comm _ _ [_]) (Zz 7 ?_);refine aq_ (jf_ (Con.atom (Ax.left x)) (Con.atom (Ax.right x))) rfl rfl j_ zt rfl fun _=>af_ G_ y_ ag_ rfl rfl rfl rfl rfl rfl fun b17=>Zi 7 (fun hr9=>?_) fun hr9=>?_
      · skip
        refine Zz 18 ?_;refine bh_ (List.flatMap Fc.cells [(Fc.mk 1 (Con.atom (Ax.left x)) (Con.atom (Ax.right x)) [] 0 0)]) e_ rfl ?_;refine dE_ hq19.row (c_ (c_ (c_ bx_))) fun adP cpP hsvP hcP1 hcP2=>?_
        have e:x.goalP=((Con.leftP (-1) (Ax.right x) (Con.rightP (-1) (Ax.left x) (aU_ (-1) [(Con.atom (Ax.left x)),(Con.atom (Ax.right x))] ([]:List Pc)))),[(Fc.mk 1 (Con.atom (Ax.left x)) (Con.atom (Ax.right x)) [] 0 0)],0):=by
          unfold Ax.goalP;rw[if_neg (by omega)];repeat (first|rfl|(rw[if_pos (by omega)])|(rw[if_neg (by omega)]))
        have hy:x.goalP.1.length≤cpP∧cpP≤maxLen∧x.goalP.2.1.length≤1∧1≤maxLen∧(adP=none→cpP=0):=by rw[e];exact⟨hcP1,hcP2,by simp,by decide,bk_.nilcap hq19.row hsvP⟩
        have hz:Value.tuple #[q19.sv,.slice (some ⟨b17,0,none⟩) 1 1,.int .i64 0]=.tuple #[.slice adP x.goalP.1.length cpP,.slice (some ⟨b17,0,none⟩) x.goalP.2.1.length 1,.int .i64 x.goalP.2.2]:=by
          rw[e,hsvP]<;>rfl
        have hw1:List.flatMap Pc.cells (Con.leftP (-1) (Ax.right x) (Con.rightP (-1) (Ax.left x) (aU_ (-1) [(Con.atom (Ax.left x)),(Con.atom (Ax.right x))] ([]:List Pc))))=x.goalP.1.flatMap Pc.cells:=by rw[e]
        have hw2:List.flatMap Fc.cells [(Fc.mk 1 (Con.atom (Ax.left x)) (Con.atom (Ax.right x)) [] 0 0)]=x.goalP.2.1.flatMap Fc.cells:=by rw[e]
        exact ka_ eI_ ⟨(adP,cpP,(some ⟨b17,0,none⟩),1),hy⟩ rfl rfl rfl hz j_ (fun v _ h=>⟨hw1▸h.1,hw2▸h.2.1,trivial⟩)
      · skip
        exfalso;omega
  · skip
    refine Zz 12 ?_;have e:x.goalP=([],[],(Ax.check x)):=by unfold Ax.goalP;rw[if_pos (by assumption)]
    have hy:x.goalP.1.length≤0∧0≤maxLen∧x.goalP.2.1.length≤0∧0≤maxLen∧((none:Option Addr)=none→0=0):=by rw[e];simp
    have hz:Value.tuple #[.slice none 0 0,.slice none 0 0,.int .i64 (Ax.check x)]=.tuple #[.slice none x.goalP.1.length 0,.slice none x.goalP.2.1.length 0,.int .i64 x.goalP.2.2]:=by rw[e]<;>rfl
    have hw1:x.goalP.1.flatMap Pc.cells=[]:=by rw[e];rfl
    have hw2:x.goalP.2.1.flatMap Fc.cells=[]:=by rw[e];rfl
    exact ka_ eI_ ⟨(none,0,none,0),hy⟩ rfl rfl rfl hz j_ (fun v _ h=>⟨.inl hw1,.inl hw2,trivial⟩)
end Go.Proofs.YtaffcjgphlhppaaGreatDoor
namespace Go.Vs
open Go Go.Sx
structure PQ (f:Int) (q:Pc):Prop where
  frm:q.frm=f
  sm:q.sm
  ok:q.valid=true
section
variable {f:Int} (h0:-1≤f) (h1:f<1024) {a b c r s t:Str} {lo hi:Int}
include h0 h1
theorem qy_ (ha:aR_ a=true) (hc:aR_ c=true):Pc.valid ⟨1,a,[],c,[],[],[],0,0,f⟩=true:=by
  unfold Pc.valid;rw[if_neg (by simp;omega)];simp[nus,gN_,cs_,ha,hc]
theorem val2 (ha:aR_ a=true) (hb:aR_ b=true) (hc:aR_ c=true):Pc.valid ⟨2,a,b,c,[],[],[],0,0,f⟩=true:=by
  unfold Pc.valid;rw[if_neg (by simp;omega)];simp[nus,gN_,cs_,ha,hb,hc]
theorem val3 (ha:aR_ a=true) (hr:cp_ r=true) (hc:aR_ c=true):Pc.valid ⟨3,a,[],c,r,[],[],0,0,f⟩=true:=by
  unfold Pc.valid;rw[if_neg (by simp;omega)];simp[nus,gN_,cs_,ha,hr,hc]
theorem val4 (ha:aR_ a=true) (hr:cp_ r=true) (hc:aR_ c=true):Pc.valid ⟨4,a,[],c,r,[],[],0,0,f⟩=true:=by
  unfold Pc.valid;rw[if_neg (by simp;omega)];simp[nus,gN_,cs_,ha,hr,hc]
theorem val5 (hr:cp_ r=true) (ht:cp_ t=true):Pc.valid ⟨5,[],[],[],r,[],t,0,0,f⟩=true:=by
  unfold Pc.valid;rw[if_neg (by simp;omega)];simp[nus,gN_,cs_,hr,ht]
theorem val6 (hr:cp_ r=true) (hs:cp_ s=true) (ht:cp_ t=true):Pc.valid ⟨6,[],[],[],r,s,t,0,0,f⟩=true:=by
  unfold Pc.valid;rw[if_neg (by simp;omega)];simp[nus,gN_,cs_,hr,hs,ht]
theorem val7 (hr:cp_ r=true):Pc.valid ⟨7,[],[],[],r,[],[],0,0,f⟩=true:=by
  unfold Pc.valid;rw[if_neg (by simp;omega)];simp[nus,gN_,cs_,hr]
theorem val8 (ha:aR_ a=true) (hr:bb_ r=true) (hn:-1099511627776≤lo∧lo≤hi∧hi≤1099511627776):Pc.valid ⟨8,a,[],[],r,[],[],lo,hi,f⟩=true:=by
  unfold Pc.valid;rw[if_neg (by simp;omega),if_neg (by simp[nus,gN_];omega)];simp[nus,gN_,cs_,ha,hr]
theorem val9 (hc:aR_ c=true) (hr:bb_ r=true) (hn:-1099511627776≤lo∧lo≤hi∧hi≤1099511627776):Pc.valid ⟨9,[],[],c,r,[],[],lo,hi,f⟩=true:=by
  unfold Pc.valid;rw[if_neg (by simp;omega),if_neg (by simp[nus,gN_];omega)];simp[nus,gN_,cs_,hc,hr]
end
theorem di_ {Q:Pc→Prop} {f:Int} {l:List Pc} {p:Pc} (hl:∀ q∈l,Q q) (hp:Q { p with frm:=f }):∀ q∈ins f l p,Q q:=by
 unfold ins
 split
 ·exact hl
 intro q hq;rcases List.mem_append.1 hq with hq|hq
 ·exact hl q hq
 simp only[List.mem_singleton]at hq;subst hq;exact hp
theorem ef_ {s:Str} (h:bM_ s=true):s.length≤24:=Con.plain_len h
theorem gv_ {s:Str} (h:bb_ s=true):s.length≤24:=by
 simp only[bb_,Bool.or_eq_true]at h;rcases h with h|h
 ·exact Con.plain_len h
 exact Con.reserved_len h
namespace Con
section
variable {f:Int} (h0:-1≤f) (h1:f<1024)
include h0 h1
theorem qs_ (c:Con) (hok:c.ok) (hc:c.check=0) (hk:c.kind=5):∀ (r:List Con) (j:Nat) (a:Str) (l:List Pc),1≤j→j+r.length≤c.parts.length→(∀ p∈r,p∈c.parts)→aR_ a=true→a.length≤7000→(∀ q∈l,PQ f q)→∀ q∈andP f c r j a l,PQ f q
  | [],_,_,l,_,_,_,_,_,hl=>hl
  | p::r,j,a,l,hj,hlen,hm,ha,hal,hl=>by
    simp only[List.length_cons]at hlen;have hp:=hm p (by simp);have hpre:=sm_ hc hk (j:=j+1) (by omega) (by omega);have x1:=atom_ok hpre;have x2:=atom_len (pre_ok hok (j+1)) hpre;have x3:=atom_ok (cQ_ hc hp);have x4:=atom_len (ok_part hok hp) (cQ_ hc hp);simp only[andP]
    exact qs_ c hok hc hk r (j+1) _ _ (by omega) (by omega) (fun q hq=>hm q (by simp[hq])) x1 x2
      (di_ hl ⟨rfl,⟨by dsimp only;omega,by dsimp only;omega,by dsimp only;omega,by simp,by simp,by simp⟩,val2 h0 h1 ha x3 x1⟩)
theorem leftP_all:∀ (m:Nat) (c:Con),c.sz≤m→c.ok→c.check=0→∀ l,(∀ q∈l,PQ f q)→∀ q∈c.leftP f l,PQ f q
 | 0,c,h=>by have:=c.sz_pos;omega
 | m+1,c,h=>fun hok hc l hl=>by
   have key:∀ ps:List Con,(∀ p∈ps,p∈c.parts)→∀ l,(∀ q∈l,PQ f q)→∀ q∈leftP.lefts f ps l,PQ f q:=by
     intro ps
     induction ps with
     | nil=>intro _ l hl;exact hl
     | cons p ps ih =>
       intro hp l hl;have hpm:=hp p (by simp);exact ih (fun q hq=>hp q (by simp[hq])) _ (leftP_all m p (by have:=sz_part hpm;omega) (ok_part hok hpm) (cQ_ hc hpm) l hl)
   have hk:=key c.parts (fun _ h=>h) l hl;have F:=fields (check_zero hc).1;have N:=mq_ (check_zero hc).1;have ca:=atom_ok hc;have cl:=atom_len hok hc;rw[leftP_eq]
   split
   · rename_i h5
     have hle:=F.le;rw[h5]at hle;simp[nd,fg_]at hle
     match hp:c.parts,hle with
     | [],hle=>simp at hle
     | p::r,_ =>
       have hpm:p∈c.parts:=by rw[hp];simp
       have x3:=atom_ok (cQ_ hc hpm);have x4:=atom_len (ok_part hok hpm) (cQ_ hc hpm);refine qs_ h0 h1 c hok hc h5 _ 1 _ _ (by omega) (by rw[hp];simp;omega) (fun q hq=>by rw[hp];exact List.mem_of_mem_drop hq) (by simpa using x3) (by simpa using x4) (by rw[hp]at hk;exact hk)
   · split
     · rename_i h6
       have hle:=F.le;rw[h6]at hle;simp[nd,fg_]at hle
       have hpl:=N.plain (.inr (.inl h6))
       match hp:c.parts,hle with
       | [],hle=>simp at hle
       | p::r,_ =>
         have hpm:p∈c.parts:=by rw[hp];simp
         have x3:=atom_ok (cQ_ hc hpm);have x4:=atom_len (ok_part hok hpm) (cQ_ hc hpm);have x5:=ef_ hpl;rw[hp]at hk;exact di_ hk ⟨rfl,⟨by simp;omega,by simp,by dsimp only;omega,by dsimp only;omega,by simp,by simp⟩,val4 h0 h1 (by simpa using x3) (dy_ hpl) ca⟩
     · split
       · rename_i h7
         have hpl:=N.plain (.inr (.inr h7));have x5:=ef_ hpl;exact di_ hl ⟨rfl,⟨by simp,by simp,by dsimp only;omega,by dsimp only;omega,by simp,by simp⟩,val9 h0 h1 ca (dN_ hpl) (N.nums h7)⟩
       · exact hl
theorem rightP_all:∀ (m:Nat) (c:Con),c.sz≤m→c.ok→c.check=0→∀ l,(∀ q∈l,PQ f q)→∀ q∈c.rightP f l,PQ f q
 | 0,c,h=>by have:=c.sz_pos;omega
 | m+1,c,h=>fun hok hc l hl=>by
   have ca:=atom_ok hc;have cl:=atom_len hok hc
   have key:∀ ps:List Con,(∀ p∈ps,p∈c.parts)→∀ l,(∀ q∈l,PQ f q)→∀ q∈rightP.rights f c.atom ps l,PQ f q:=by
     intro ps
     induction ps with
     | nil=>intro _ l hl;exact hl
     | cons p ps ih =>
       intro hp l hl;have hpm:=hp p (by simp);have x3:=atom_ok (cQ_ hc hpm);have x4:=atom_len (ok_part hok hpm) (cQ_ hc hpm)
       exact ih (fun q hq=>hp q (by simp[hq])) _ (rightP_all m p (by have:=sz_part hpm;omega) (ok_part hok hpm) (cQ_ hc hpm) _
         (di_ hl ⟨rfl,⟨by dsimp only;omega,by simp,by dsimp only;omega,by simp,by simp,by simp⟩,qy_ h0 h1 ca x3⟩))
   have key2:∀ ps:List Con,(∀ p∈ps,p∈c.parts)→∀ l,(∀ q∈l,PQ f q)→∀ q∈rightP.righty f ps l,PQ f q:=by
     intro ps
     induction ps with
     | nil=>intro _ l hl;exact hl
     | cons p ps ih =>
       intro hp l hl;have hpm:=hp p (by simp);exact ih (fun q hq=>hp q (by simp[hq])) _ (rightP_all m p (by have:=sz_part hpm;omega) (ok_part hok hpm) (cQ_ hc hpm) l hl)
   have F:=fields (check_zero hc).1;have N:=mq_ (check_zero hc).1;rw[rightP_eq]
   split
   · exact key c.parts (fun _ h=>h) l hl
   · split
     · rename_i h6
       have hle:=F.le;rw[h6]at hle;simp[nd,fg_]at hle
       have hpl:=N.plain (.inr (.inl h6));have x5:=ef_ hpl;refine key2 c.parts (fun _ h=>h) _ (di_ hl ?_)
       match hp:c.parts,hle with
       | [],hle=>simp at hle
       | p::r,_ =>
         have hpm:p∈c.parts:=by rw[hp];simp
         have x3:=atom_ok (cQ_ hc hpm);have x4:=atom_len (ok_part hok hpm) (cQ_ hc hpm);exact⟨rfl,⟨by dsimp only;omega,by simp,by simp;omega,by dsimp only;omega,by simp,by simp⟩,val3 h0 h1 ca (dy_ hpl) (by simpa using x3)⟩
     · split
       · rename_i h7
         have hpl:=N.plain (.inr (.inr h7));have x5:=ef_ hpl;exact di_ hl ⟨rfl,⟨by dsimp only;omega,by simp,by simp,by dsimp only;omega,by simp,by simp⟩,val8 h0 h1 ca (dN_ hpl) (N.nums h7)⟩
       · exact hl
end
end Con
namespace Ax
section
variable {f:Int} (h0:-1≤f) (h1:f<1024)
include h0 h1
theorem mQ_ (role:Str) (hr:bM_ role=true):∀ (rs:List Str) (g:Str) (l:List Pc),(∀ r∈rs,bM_ r=true)→(bd_ 46 g).length+rs.length≤4→((bd_ 46 g).all bb_=true)→g.length≤100*(bd_ 46 g).length→(∀ q∈l,PQ f q)→∀ q∈chainP f role rs g l,PQ f q
 | [],_,_,_,_,_,_,hl=>hl
 | r::t,g,l,hp,hn,hg,hgl,hl=>by
   have hpr:=hp r (by simp);have hrl:=ef_ hpr;have hrol:=ef_ hr;simp only[List.length_cons]at hn
   have hgr:cp_ g=true:=by
     unfold cp_;rw[decide_eq_true (by omega)];simp only[Bool.true_and,Bool.not_eq_true'];rw[List.any_eq_false];intro y hy;simp[List.all_eq_true.1 hg y hy]
   simp only[chainP]
   by_cases ht:t=[]
   · subst ht
     simp only[if_true,chainP];exact di_ hl ⟨rfl,⟨by simp,by simp,by simp,by dsimp only;omega,by dsimp only;omega,by dsimp only;omega⟩,val6 h0 h1 hgr (dy_ hpr) (dy_ hr)⟩
   · simp only[ht,if_false]
     have htl:0<t.length:=List.length_pos_iff.2 ht;have e:=lR_ 46 g r;rw[iE_ hpr]at e;have hall:(bd_ 46 (g++[46]++r)).all bb_=true:=by rw[e,List.all_append,hg];simp[dN_ hpr]
     have hlen:(bd_ 46 (g++[46]++r)).length=(bd_ 46 g).length+1:=by rw[e];simp
     have hgl2:(g++[46]++r).length≤100*(bd_ 46 (g++[46]++r)).length:=by rw[hlen];simp;omega
     have hgr2:cp_ (g++[46]++r)=true:=by
       unfold cp_;rw[decide_eq_true (by omega)];simp only[Bool.true_and,Bool.not_eq_true'];rw[List.any_eq_false];intro y hy;simp[List.all_eq_true.1 hall y hy]
     exact mQ_ role hr t _ _ (fun q hq=>hp q (by simp[hq])) (by omega) hall hgl2
       (di_ hl ⟨rfl,⟨by simp,by simp,by simp,by dsimp only;omega,by dsimp only;omega,by dsimp only;omega⟩,val6 h0 h1 hgr (dy_ hpr) hgr2⟩)
theorem pieces_all {x:Ax} (hok:x.ok) (hc:x.check=0):∀ q∈x.pieces f,PQ f q:=by
 have G:=good_of hc;have L:=fun (c:Con) (hok:c.ok) (hc:c.check=0)=>Con.leftP_all h0 h1 _ c (Nat.le_refl _) hok hc
 have Rr:=fun (c:Con) (hok:c.ok) (hc:c.check=0)=>Con.rightP_all h0 h1 _ c (Nat.le_refl _) hok hc
 have n:∀ q∈([]:List Pc),PQ f q:=fun q hq=>by cases hq
 have h1':=G.k1;have h9:=G.k9;have A:=fun (c:Con) (hok:c.ok) (hc:c.check=0)=>(⟨Con.atom_ok hc,Con.atom_len hok hc⟩:aR_ c.atom=true∧c.atom.length≤7000)
 unfold pieces
 split
 ·have l:=G.left (by omega);have r:=G.right (by omega)
  have a1:=A _ hok.left l;have a2:=A _ hok.right r;exact di_ (Rr _ hok.right r _ (L _ hok.left l _ n)) ⟨rfl,⟨by dsimp only;omega,by simp,by dsimp only;omega,by simp,by simp,by simp⟩,qy_ h0 h1 a1.1 a2.1⟩
 split
 ·have l:=G.left (by omega);have r:=G.right (by omega)
  have a1:=A _ hok.left l;have a2:=A _ hok.right r;exact di_ (Rr _ hok.left l _ (L _ hok.right r _ (di_ (Rr _ hok.right r _ (L _ hok.left l _ n)) ⟨rfl,⟨by dsimp only;omega,by simp,by dsimp only;omega,by simp,by simp,by simp⟩,qy_ h0 h1 a1.1 a2.1⟩))) ⟨rfl,⟨by dsimp only;omega,by simp,by dsimp only;omega,by simp,by simp,by simp⟩,qy_ h0 h1 a2.1 a1.1⟩
 split
 ·have l:=G.left (by omega);have r:=G.right (by omega)
  have a1:=A _ hok.left l;have a2:=A _ hok.right r;exact di_ (L _ hok.right r _ (L _ hok.left l _ n)) ⟨rfl,⟨by dsimp only;omega,by dsimp only;omega,by simp,by simp,by simp,by simp⟩,val2 h0 h1 a1.1 a2.1 rfl⟩
 split
 ·have r:=G.right (by omega);have a2:=A _ hok.right r;have p:=G.role (by omega);have pl:=ef_ p
  exact di_ (Rr _ hok.right r _ n) ⟨rfl,⟨by simp,by simp,by dsimp only;omega,by dsimp only;omega,by simp,by simp⟩,val4 h0 h1 rfl (dy_ p) a2.1⟩
 split
 ·rename_i h5
  have p:=G.role (by omega);have pl:=ef_ p;have ho:=G.one h5
  match hr:x.roles,ho with
  | [r],_ =>
    have p2:=G.roles r (by rw[hr];simp);have pl2:=ef_ p2;exact di_ n ⟨rfl,⟨by simp,by simp,by simp,by simp;omega,by simp,by dsimp only;omega⟩,val5 h0 h1 (by simpa using dy_ p2) (dy_ p)⟩
 split
 ·rename_i h6
  have p:=G.role (by omega);have hch:=G.chain h6
  match hr:x.roles,hch with
  | [],hch=>simp at hch
  | r::t,hch =>
    have p2:=G.roles r (by rw[hr];simp);have pl2:=ef_ p2;have e:=iE_ p2;simp only[List.length_cons]at hch;simp only[List.drop_succ_cons,List.drop_zero,List.headD_cons];exact mQ_ h0 h1 x.role p t r [] (fun q hq=>G.roles q (by rw[hr];simp[hq])) (by rw[e];simp;omega) (by rw[e];simp[dN_ p2]) (by rw[e];simp;omega) n
 split
 ·have p:=G.role (by omega);have pl:=ef_ p
  exact di_ n ⟨rfl,⟨by simp,by simp,by simp,by dsimp only;omega,by simp,by simp⟩,val7 h0 h1 (dy_ p)⟩
 split
 ·have r:=G.right (by omega);have a2:=A _ hok.right r;have p:=G.a (by omega);have pl:=gv_ p
  exact di_ (Rr _ hok.right r _ n) ⟨rfl,⟨by simp;omega,by simp,by dsimp only;omega,by simp,by simp,by simp⟩,qy_ h0 h1 (gS_ p) a2.1⟩
 have p:=G.role (by omega);have pl:=ef_ p;have pa:=G.a (by omega);have pb:=G.b (by omega);have l1:=gv_ pa;have l2:=gv_ pb;exact di_ n ⟨rfl,⟨by simp;omega,by simp,by simp;omega,by dsimp only;omega,by simp,by simp⟩,val3 h0 h1 (gS_ pa) (dy_ p) (gS_ pb)⟩
end
end Ax
def shift (k:Int) (p:Pc):Pc:={ p with frm:=p.frm+k }
theorem sa_ {k:Int} {p q:Pc} (h:shift k p=shift k q):p=q:=by
  cases p;cases q;simp only[shift,Pc.mk.injEq]at h ⊢;refine⟨h.1,h.2.1,h.2.2.1,h.2.2.2.1,h.2.2.2.2.1,h.2.2.2.2.2.1,h.2.2.2.2.2.2.1,h.2.2.2.2.2.2.2.1,h.2.2.2.2.2.2.2.2.1,by omega⟩
theorem cJ_ (f k:Int) (l:List Pc) (p:Pc):ins (f+k) (l.map (shift k)) p=(ins f l p).map (shift k):=by
 have hm:({ p with frm:=f+k }:Pc)∈l.map (shift k)↔({ p with frm:=f }:Pc)∈l:=by
   rw[List.mem_map];constructor
   · rintro ⟨q,hq,e⟩
     have:q={ p with frm:=f }:=sa_ (k:=k) e;exact this▸hq
   · exact fun h=>⟨_,h,rfl⟩
 unfold ins
 by_cases h:({ p with frm:=f }:Pc)∈l
 ·rw[if_pos (hm.2 h),if_pos h]
 rw[if_neg (fun q=>h (hm.1 q)),if_neg h,List.map_append];rfl
namespace Con
theorem mT_ (f k:Int) (c:Con):∀ (r:List Con) (j:Nat) (a:Str) (l:List Pc),andP (f+k) c r j a (l.map (shift k))=(andP f c r j a l).map (shift k)
  | [],_,_,_=>rfl
  | p::r,j,a,l=>by simp only[andP,cJ_];exact mT_ f k c r (j+1) _ _
theorem leftP_shift (f k:Int):∀ (m:Nat) (c:Con),c.sz≤m→∀ l,c.leftP (f+k) (l.map (shift k))=(c.leftP f l).map (shift k)
 | 0,c,h=>by have:=c.sz_pos;omega
 | m+1,c,h=>fun l=>by
   have key:∀ ps:List Con,(∀ p∈ps,p.sz≤m)→∀ l,leftP.lefts (f+k) ps (l.map (shift k))=(leftP.lefts f ps l).map (shift k):=by
     intro ps
     induction ps with
     | nil=>intro _ l;rfl
     | cons p ps ih =>
       intro hp l;simp only[leftP.lefts];rw[leftP_shift f k m p (hp p (by simp)) l];exact ih (fun q hq=>hp q (by simp[hq])) _
   have hk:=key c.parts (fun p hp=>by have:=sz_part hp;omega) l;rw[leftP_eq,leftP_eq,hk]
   split
   · exact mT_ _ _ _ _ _ _ _
   · split
     · exact cJ_ _ _ _ _
     · split
       · exact cJ_ _ _ _ _
       · rfl
theorem rightP_shift (f k:Int):∀ (m:Nat) (c:Con),c.sz≤m→∀ l,c.rightP (f+k) (l.map (shift k))=(c.rightP f l).map (shift k)
 | 0,c,h=>by have:=c.sz_pos;omega
 | m+1,c,h=>fun l=>by
   have key:∀ ps:List Con,(∀ p∈ps,p.sz≤m)→∀ a l,rightP.rights (f+k) a ps (l.map (shift k))=(rightP.rights f a ps l).map (shift k):=by
     intro ps
     induction ps with
     | nil=>intro _ a l;rfl
     | cons p ps ih =>
       intro hp a l;simp only[rightP.rights];rw[cJ_,rightP_shift f k m p (hp p (by simp))];exact ih (fun q hq=>hp q (by simp[hq])) _ _
   have key2:∀ ps:List Con,(∀ p∈ps,p.sz≤m)→∀ l,rightP.righty (f+k) ps (l.map (shift k))=(rightP.righty f ps l).map (shift k):=by
     intro ps
     induction ps with
     | nil=>intro _ l;rfl
     | cons p ps ih =>
       intro hp l;simp only[rightP.righty];rw[rightP_shift f k m p (hp p (by simp))];exact ih (fun q hq=>hp q (by simp[hq])) _
   have hps:∀ p∈c.parts,p.sz≤m:=fun p hp=>by have:=sz_part hp;omega
   rw[rightP_eq,rightP_eq]
   split
   · exact key c.parts hps _ l
   · split
     · rw[cJ_];exact key2 c.parts hps _
     · split
       · exact cJ_ _ _ _ _
       · rfl
end Con
theorem Ax.chainP_shift (f k:Int) (ro:Str):∀ (rs:List Str) (g:Str) (l:List Pc),Ax.chainP (f+k) ro rs g (l.map (shift k))=(Ax.chainP f ro rs g l).map (shift k)
  | [],_,_=>rfl
  | r::t,g,l=>by simp only[Ax.chainP,cJ_];exact Ax.chainP_shift f k ro t _ _
theorem Ax.pieces_shift (f k:Int) (x:Ax):x.pieces (f+k)=(x.pieces f).map (shift k):=by
 have L:=fun (c:Con) l=>Con.leftP_shift f k _ c (Nat.le_refl _) l
 have Rr:=fun (c:Con) l=>Con.rightP_shift f k _ c (Nat.le_refl _) l
 have n:([]:List Pc)=([]:List Pc).map (shift k):=rfl;unfold Ax.pieces
 repeat' split
 ·rw[n,L,Rr,cJ_];rfl
 ·rw[n,L,Rr,cJ_,L,Rr,cJ_];rfl
 ·rw[n,L,L,cJ_];rfl
 ·rw[n,Rr,cJ_];rfl
 ·rw[n,cJ_];rfl
 ·rw[n,Ax.chainP_shift];rfl
 ·rw[n,cJ_];rfl
 ·rw[n,Rr,cJ_];rfl
 rw[n,cJ_];rfl
def gU_:Nat→List Ax→List Pc
  | _,[]=>[]
  | i,x::l=>x.pieces (i:Int)++gU_ (i+1) l
theorem flat_len:∀ (i:Nat) (l:List Ax),(∀ x∈l,x.check=0)→(gU_ i l).length≤1000*l.length
  | _,[],_=>by simp[gU_]
  | i,x::l,h=>by
    have h1:=jz_ (i:Int) (Ax.good_of (h x (by simp)));have h2:=flat_len (i+1) l fun y hy=>h y (by simp[hy])
    simp only[gU_,List.length_append,List.length_cons];omega
theorem nP_:∀ (l:List Ax) (i:Nat) (p:List Pc),(∀ x∈l,x.check=0)→p.length+1000*l.length≤16384→ig_ i l p=some (p++gU_ i l)
  | [],i,p,_,_=>by simp[ig_,gU_]
  | x::l,i,p,h,hl=>by
    have h1:=jz_ (i:Int) (Ax.good_of (h x (by simp)));simp only[List.length_cons]at hl;simp only[ig_,gU_];rw[if_neg (by simp;omega),nP_ l (i+1) _ (fun y hy=>h y (by simp[hy])) (by simp;omega),List.append_assoc]
theorem lg_:∀ (xs ys:List Ax) (i:Nat),gU_ i (xs++ys)=gU_ i xs++gU_ (i+xs.length) ys
  | [],ys,i=>by simp[gU_]
  | x::xs,ys,i=>by
    simp only[List.cons_append,gU_,List.length_cons,List.append_assoc];rw[lg_ xs ys (i+1),show i+1+xs.length=i+(xs.length+1) by omega]
theorem mF_ (k:Nat):∀ (l:List Ax) (i:Nat),gU_ (i+k) l=(gU_ i l).map (shift (k:Int))
  | [],_=>rfl
  | x::l,i=>by
    simp only[gU_,List.map_append];rw[show ((i+k:Nat):Int)=(i:Int)+(k:Int) by omega,Ax.pieces_shift,show i+k+1=i+1+k by omega,mF_ k l (i+1)]
theorem kq_:∀ (l:List Ax) (i:Nat),i+l.length≤1024→(∀ x∈l,x.ok)→(∀ x∈l,x.check=0)→∀ q∈gU_ i l,(i:Int)≤q.frm∧q.frm<((i+l.length:Nat):Int)∧q.sm∧q.valid=true
 | [],_,_,_,_=>by simp[gU_]
 | x::l,i,hi,hok,hc=>by
   simp only[List.length_cons]at hi ⊢;intro q hq;simp only[gU_]at hq;rcases List.mem_append.1 hq with hq|hq
   · have h:=Ax.pieces_all (f:=(i:Int)) (by omega) (by omega) (hok x (by simp)) (hc x (by simp)) q hq
     exact⟨by rw[h.frm];omega,by rw[h.frm];omega,h.sm,h.ok⟩
   · have h:=kq_ l (i+1) (by omega) (fun y hy=>hok y (by simp[hy])) (fun y hy=>hc y (by simp[hy])) q hq
     exact⟨by omega,by omega,h.2.2⟩
def Mono (l:List Pc):Prop:=l.Pairwise fun p q=>p.frm≤q.frm
theorem nT_:∀ (l:List Ax) (i:Nat),i+l.length≤1024→(∀ x∈l,x.ok)→(∀ x∈l,x.check=0)→Mono (gU_ i l)
 | [],_,_,_,_=>List.Pairwise.nil
 | x::l,i,hi,hok,hc=>by
   simp only[List.length_cons]at hi;have h:=Ax.pieces_all (f:=(i:Int)) (by omega) (by omega) (hok x (by simp)) (hc x (by simp));have h2:=kq_ l (i+1) (by omega) (fun y hy=>hok y (by simp[hy])) (fun y hy=>hc y (by simp[hy]));simp only[gU_,Mono];rw[List.pairwise_append];refine⟨?_,nT_ l (i+1) (by omega) (fun y hy=>hok y (by simp[hy])) (fun y hy=>hc y (by simp[hy])),fun p hp q hq=>?_⟩
   · rw[List.pairwise_iff_getElem]
     intro a b ha hb _;rw[(h _ (List.getElem_mem ha)).frm,(h _ (List.getElem_mem hb)).frm];omega
   · rw[(h p hp).frm]
     have:=(h2 q hq).1;omega
theorem li_:∀ {l:List Ax},dc_ l=0→∀ x∈l,x.check=0
 | [],_,_,h=>by cases h
 | y::l,hb,x,hx=>by
   simp only[dc_]at hb
   split at hb
   · rename_i hy
     rcases List.mem_cons.1 hx with rfl|hx
     · exact hy
     · exact li_ hb x hx
   · rename_i hy;exact absurd hb hy
theorem qH_ {l:List Ax} (hl:l.length≤12) (h:∀ x∈l,x.check=0):bq_ l=(gU_ 0 l,0):=by
  unfold bq_;rw[if_neg (by omega),if_neg (by simp[dX_ h]),nP_ l 0 [] h (by simp;omega)];simp
theorem pw_ {l:List Ax} (hl:l.length≤12) (h:dc_ l≠0):bq_ l=([],dc_ l):=by
  unfold bq_;rw[if_neg (by omega),if_pos h]
structure PartsLaw (l:List Ax) (k:Nat) (p a b:List Pc) (er ef eg:Int):Prop where
  bad:er≠0→p=[]∧(ef≠0∨eg≠0)
  ef:er=0→ef=0
  eg:er=0→eg=0
  eq:er=0→p=a++b.map (shift (k:Int))
  chk:er=0→bT_ p=0
  sm:∀ q∈p,q.sm
  rng:er=0→∀ q∈p,0≤q.frm∧q.frm<(l.length:Int)
  mono:er=0→Mono p
  len:p.length≤12000∧a.length≤12000∧b.length≤12000
  fb:er=0→∀ q∈b,0≤q.frm∧q.frm≤12
theorem ny_ {l:List Ax} {k:Nat} (hl:l.length≤12) (hk:k≤l.length) (hok:∀ x∈l,x.ok) {p a b:List Pc} {er ef eg:Int} (hP:bq_ l=(p,er)) (hA:bq_ (l.take k)=(a,ef)) (hB:bq_ (l.drop k)=(b,eg)):PartsLaw l k p a b er ef eg:=by
 have hlt:(l.take k).length≤12:=by simp;omega
 have hld:(l.drop k).length≤12:=by simp;omega
 have lens:∀ (m:List Ax) (q:List Pc) (e:Int),m.length≤12→bq_ m=(q,e)→q.length≤12000∧((dc_ m=0∧e=0∧q=gU_ 0 m∧∀ x∈m,x.check=0)∨(dc_ m≠0∧e≠0∧q=[])):=by
   intro m q e hm he
   by_cases hb:dc_ m=0
   · have hc:=li_ hb
     rw[qH_ hm hc]at he;simp only[Prod.mk.injEq]at he;obtain⟨rfl,rfl⟩:=he;have:=flat_len 0 m hc;exact⟨by omega,.inl ⟨hb,rfl,rfl,hc⟩⟩
   · rw[pw_ hm hb]at he
     simp only[Prod.mk.injEq]at he;obtain⟨rfl,rfl⟩:=he;exact⟨by simp,.inr ⟨hb,hb,rfl⟩⟩
 obtain⟨lp,cp⟩:=lens l p er hl hP;obtain⟨la,ca⟩:=lens _ a ef hlt hA;obtain⟨lb,cb⟩:=lens _ b eg hld hB;rcases cp with⟨p0,rfl,rfl,pc⟩|⟨p0,p1,rfl⟩
 ·have ct:∀ x∈l.take k,x.check=0:=fun x hx=>pc x (List.mem_of_mem_take hx)
  have cd:∀ x∈l.drop k,x.check=0:=fun x hx=>pc x (List.mem_of_mem_drop hx)
  have hall:=kq_ l 0 (by omega) hok pc;rcases ca with⟨_,rfl,rfl,_⟩|⟨a0,_,_⟩
  ·rcases cb with⟨_,rfl,rfl,_⟩|⟨b0,_,_⟩
   ·have halld:=kq_ (l.drop k) 0 (by omega) (fun x hx=>hok x (List.mem_of_mem_drop hx)) cd
    refine⟨fun h=>absurd rfl h,fun _=>rfl,fun _=>rfl,fun _=>?_,fun _=>?_,fun q hq=>(hall q hq).2.2.1,fun _ q hq=>?_,fun _=>nT_ l 0 (by omega) hok pc,⟨lp,la,lb⟩,fun _ q hq=>?_⟩
    ·rw[← mF_ k (l.drop k) 0]
     have e:l=l.take k++l.drop k:=(List.take_append_drop k l).symm;have h2:=lg_ (l.take k) (l.drop k) 0;rw[List.take_append_drop,List.length_take,Nat.min_eq_left hk]at h2;exact h2
    ·unfold bT_
     rw[if_neg (by omega),if_pos (List.all_eq_true.2 fun q hq=>(hall q hq).2.2.2)]
    ·have:=hall q hq;exact⟨by omega,by omega⟩
    have:=halld q hq;exact⟨by omega,by omega⟩
   exact absurd (dX_ cd) b0
  exact absurd (dX_ ct) a0
 refine⟨fun _=>⟨rfl,?_⟩,fun h=>absurd h p1,fun h=>absurd h p1,fun h=>absurd h p1,fun h=>absurd h p1,fun q hq=>by (cases hq),fun h=>absurd h p1,fun h=>absurd h p1,⟨by simp,la,lb⟩,fun h=>absurd h p1⟩;rcases ca with⟨a0,_,_,ac⟩|⟨_,a1,_⟩
 ·rcases cb with⟨b0,_,_,bc⟩|⟨_,b1,_⟩
  ·exfalso
   apply p0
   apply dX_
   intro x hx;rw[← List.take_append_drop k l]at hx;rcases List.mem_append.1 hx with hx|hx
   ·exact ac x hx
   exact bc x hx
  exact .inr b1
 exact .inl a1
end Go.Vs
namespace Go.Vs
open Go Go.Sx
section
variable {f:Int} {R:List Pc→List Pc→Prop} (hr:∀ l,R l l) (ht:∀ {a b c},R a b→R b c→R a c) (hi:∀ l p,R l (ins f l p))
include hr ht hi
theorem qq_ (c:Con):∀ (r:List Con) (j:Nat) (a:Str) (l:List Pc),R l (c.andP f r j a l)
  | [],_,_,l=>hr l
  | p::r,j,a,l=>ht (hi l _) (qq_ c r (j+1) _ _)
theorem kM_:∀ (m:Nat) (c:Con),c.sz≤m→∀ l,R l (c.leftP f l)
 | 0,c,h=>by have:=c.sz_pos;omega
 | m+1,c,h=>fun l=>by
   have key:∀ ps:List Con,(∀ p∈ps,p.sz≤m)→∀ l,R l (Con.leftP.lefts f ps l):=by
     intro ps
     induction ps with
     | nil=>intro _ l;exact hr l
     | cons p ps ih=>intro hp l;exact ht (kM_ m p (hp p (by simp)) l) (ih (fun q hq=>hp q (by simp[hq])) _)
   have hk:=key c.parts (fun p hp=>by have:=Con.sz_part hp;omega) l;rw[Con.leftP_eq]
   split
   · exact ht hk (qq_ hr ht hi c _ _ _ _)
   · split
     · exact ht hk (hi _ _)
     · split
       · exact hi _ _
       · exact hr l
theorem hV_:∀ (m:Nat) (c:Con),c.sz≤m→∀ l,R l (c.rightP f l)
 | 0,c,h=>by have:=c.sz_pos;omega
 | m+1,c,h=>fun l=>by
   have key:∀ ps:List Con,(∀ p∈ps,p.sz≤m)→∀ a l,R l (Con.rightP.rights f a ps l):=by
     intro ps
     induction ps with
     | nil=>intro _ a l;exact hr l
     | cons p ps ih=>intro hp a l;exact ht (hi _ _) (ht (hV_ m p (hp p (by simp)) _) (ih (fun q hq=>hp q (by simp[hq])) _ _))
   have key2:∀ ps:List Con,(∀ p∈ps,p.sz≤m)→∀ l,R l (Con.rightP.righty f ps l):=by
     intro ps
     induction ps with
     | nil=>intro _ l;exact hr l
     | cons p ps ih=>intro hp l;exact ht (hV_ m p (hp p (by simp)) l) (ih (fun q hq=>hp q (by simp[hq])) _)
   have hps:∀ p∈c.parts,p.sz≤m:=fun p hp=>by have:=Con.sz_part hp;omega
   rw[Con.rightP_eq]
   split
   · exact key c.parts hps _ l
   · split
     · exact ht (hi _ _) (key2 c.parts hps _)
     · split
       · exact hi _ _
       · exact hr l
theorem mP_ (ro:Str):∀ (rs:List Str) (g:Str) (l:List Pc),R l (Ax.chainP f ro rs g l)
  | [],_,l=>hr l
  | r::t,g,l=>ht (hi l _) (mP_ ro t _ _)
theorem kJ_:∀ (xs:List Str) (l:List Pc),R l (aU_ f xs l)
  | [],l=>hr l
  | a::r,l=>ht (hi l _) (kJ_ r _)
theorem md_ (x:Ax):R [] (x.pieces f):=by
 have L:=fun (c:Con) l=>kM_ hr ht hi _ c (Nat.le_refl _) l
 have Q:=fun (c:Con) l=>hV_ hr ht hi _ c (Nat.le_refl _) l
 unfold Ax.pieces
 repeat' split
 ·exact ht (L _ _) (ht (Q _ _) (hi _ _))
 ·exact ht (L _ _) (ht (Q _ _) (ht (hi _ _) (ht (L _ _) (ht (Q _ _) (hi _ _)))))
 ·exact ht (L _ _) (ht (L _ _) (hi _ _))
 ·exact ht (Q _ _) (hi _ _)
 ·exact hi _ _
 ·exact mP_ hr ht hi _ _ _ _
 ·exact hi _ _
 ·exact ht (Q _ _) (hi _ _)
 exact hi _ _
end
structure Gr (a b:List Pc):Prop where
  nodup:a.Nodup→b.Nodup
  sub:∀ q∈a,q∈b
theorem Gr.refl (l:List Pc):Gr l l:=⟨id,fun _ h=>h⟩
theorem Gr.trans {a b c:List Pc} (h:Gr a b) (k:Gr b c):Gr a c:=⟨fun q=>k.nodup (h.nodup q),fun q hq=>k.sub q (h.sub q hq)⟩
theorem Gr.ins (f:Int) (l:List Pc) (p:Pc):Gr l (ins f l p):=by
 unfold Vs.ins
 split
 ·exact Gr.refl l
 rename_i h
 refine⟨fun hn=>?_,fun q hq=>List.mem_append_left _ hq⟩;rw[List.nodup_append];exact⟨hn,by simp,fun a ha b hb=>by simp only[List.mem_singleton]at hb;subst hb;rintro rfl;exact h ha⟩
theorem wh_ (f:Int) (l:List Pc) (p:Pc):{ p with frm:=f }∈ins f l p:=by
 unfold ins
 split
 ·assumption
 simp
theorem nC_ (f:Int):∀ (xs:List Str) (l:List Pc),∀ a∈xs,{ eT_ a [42] with frm:=f }∈aU_ f xs l
 | [],_,_,h=>by cases h
 | x::xs,l,a,h=>by
   rcases List.mem_cons.1 h with rfl|h
   · exact (kJ_ (f:=f) Gr.refl Gr.trans (Gr.ins f) xs _).sub _ (wh_ f l _)
   · exact nC_ f xs _ a h
theorem nD_ {f:Int} (h0:-1≤f) (h1:f<1024):∀ (xs:List Str) (l:List Pc),(∀ a∈xs,aR_ a=true∧a.length≤1000000000000)→(∀ q∈l,PQ f q)→∀ q∈aU_ f xs l,PQ f q
  | [],_,_,hl=>hl
  | a::r,l,ha,hl=>by
    have h:=ha a (by simp);exact nD_ h0 h1 r _ (fun b hb=>ha b (by simp[hb])) (di_ hl ⟨rfl,⟨by simp[eT_];omega,by simp[eT_],by simp[eT_],by simp[eT_],by simp[eT_],by simp[eT_]⟩,qy_ h0 h1 h.1 rfl⟩)
def wgt (c:Con):Nat:=if c.kind=0 then 0 else c.sz
structure SmallLaw (x:Ax):Prop where
  few:1≤(x.pieces 0).length∧(x.pieces 0).length≤4*(wgt x.left+wgt x.right)+3
  nodup:(x.pieces 0).Nodup
  gnodup:x.goalP.1.Nodup
  gfrm:∀ q∈x.goalP.1,q.frm=-1
  role:x.kind=5∨x.kind=6∨x.kind=7→x.goalP=([],[],22)
  rest:¬ (x.kind=5∨x.kind=6∨x.kind=7)→x.goalP.2.2=0∧bT_ x.goalP.1=0∧1≤x.goalP.2.1.length∧x.goalP.2.1.length≤2∧∀ g∈x.goalP.2.1,(⟨1,g.a,[],[42],[],[],[],0,0,-1⟩:Pc)∈x.goalP.1∧(⟨1,g.b,[],[42],[],[],[],0,0,-1⟩:Pc)∈x.goalP.1
  sm:∀ q∈x.goalP.1,q.sm
  len:x.goalP.1.length≤2000
theorem uE_ {x:Ax} (h:x.check≠0):x.goalP=([],[],x.check):=by unfold Ax.goalP;rw[if_pos h]
theorem pQ_ {c:Con} (h:c.check=0):wgt c=c.sz:=by
  have F:=Con.fields (Con.check_zero h).1;unfold wgt;rw[if_neg (by have:=F.k1;omega)]
theorem me_ {x:Ax} (hc:x.check=0):(x.pieces 0).length≤4*(wgt x.left+wgt x.right)+3:=by
 have G:=Ax.good_of hc;have L:=fun (c:Con) l=>Con.leftP_len 0 _ c (Nat.le_refl _) l
 have Q:=fun (c:Con) l=>Con.rightP_len 0 _ c (Nat.le_refl _) l
 have wl:x.kind≤3→wgt x.left=x.left.sz:=fun h=>pQ_ (G.left h)
 have wr:x.kind≤4∨x.kind=8→wgt x.right=x.right.sz:=fun h=>pQ_ (G.right h)
 have pl:=x.left.sz_pos;have pr:=x.right.sz_pos;have n0:([]:List Pc).length=0:=rfl;have I:=fun l p=>bu_ 0 l p
 have hch:∀ (ro:Str) (rs:List Str) (f:Str) (l:List Pc),(Ax.chainP 0 ro rs f l).length≤l.length+rs.length:=by
   intro ro rs
   induction rs with
   | nil=>intro f l;simp[Ax.chainP]
   | cons r t ih =>
     intro f l;simp only[Ax.chainP];have a1:=ih (if t=[] then ro else f++[46]++r) (ins 0 l ⟨6,[],[],[],f,r,if t=[] then ro else f++[46]++r,0,0,0⟩);have a2:=I l ⟨6,[],[],[],f,r,if t=[] then ro else f++[46]++r,0,0,0⟩;simp only[List.length_cons];omega
 unfold Ax.pieces
 split
 ·have:=wl (by omega);have:=wr (by omega)
  have a1:=L x.left [];have a2:=Q x.right (x.left.leftP 0 []);have a3:=I (x.right.rightP 0 (x.left.leftP 0 [])) ⟨1,x.left.atom,[],x.right.atom,[],[],[],0,0,0⟩;omega
 split
 ·have:=wl (by omega);have:=wr (by omega)
  have a1:=L x.left [];have a2:=Q x.right (x.left.leftP 0 []);have a3:=I (x.right.rightP 0 (x.left.leftP 0 [])) ⟨1,x.left.atom,[],x.right.atom,[],[],[],0,0,0⟩;have a4:=L x.right (ins 0 (x.right.rightP 0 (x.left.leftP 0 [])) ⟨1,x.left.atom,[],x.right.atom,[],[],[],0,0,0⟩);have a5:=Q x.left (x.right.leftP 0 (ins 0 (x.right.rightP 0 (x.left.leftP 0 [])) ⟨1,x.left.atom,[],x.right.atom,[],[],[],0,0,0⟩));have a6:=I (x.left.rightP 0 (x.right.leftP 0 (ins 0 (x.right.rightP 0 (x.left.leftP 0 [])) ⟨1,x.left.atom,[],x.right.atom,[],[],[],0,0,0⟩))) ⟨1,x.right.atom,[],x.left.atom,[],[],[],0,0,0⟩;omega
 split
 ·have:=wl (by omega);have:=wr (by omega)
  have a1:=L x.left [];have a2:=L x.right (x.left.leftP 0 []);have a3:=I (x.right.leftP 0 (x.left.leftP 0 [])) ⟨2,x.left.atom,x.right.atom,[33],[],[],[],0,0,0⟩;omega
 split
 ·have:=wr (by omega)
  have a1:=Q x.right [];have a3:=I (x.right.rightP 0 []) ⟨4,[42],[],x.right.atom,x.role,[],[],0,0,0⟩;omega
 split
 ·have:=I [] ⟨5,[],[],[],x.roles.headD [],[],x.role,0,0,0⟩;omega
 split
 ·rename_i h6
  have:=G.chain h6;have:=hch x.role (x.roles.drop 1) (x.roles.headD []) [];simp only[List.length_drop]at this;omega
 split
 ·have:=I [] ⟨7,[],[],[],x.role,[],[],0,0,0⟩;omega
 split
 ·have:=wr (by omega)
  have a1:=Q x.right [];have a3:=I (x.right.rightP 0 []) ⟨1,[123]++x.a++[125],[],x.right.atom,[],[],[],0,0,0⟩;omega
 have:=I [] ⟨3,[123]++x.a++[125],[],[123]++x.b++[125],x.role,[],[],0,0,0⟩;omega
structure GoalOk (p:List Pc) (l:List Fc):Prop where
  gr:p.Nodup
  pq:∀ q∈p,PQ (-1) q
  len:p.length≤2000
  one:1≤l.length∧l.length≤2
  ment:∀ g∈l,(⟨1,g.a,[],[42],[],[],[],0,0,-1⟩:Pc)∈p∧(⟨1,g.b,[],[42],[],[],[],0,0,-1⟩:Pc)∈p
theorem wk_ {x:Ax} (hok:x.ok) (hc:x.check=0) (hk:¬ (x.kind=5∨x.kind=6∨x.kind=7)):GoalOk x.goalP.1 x.goalP.2.1∧x.goalP.2.2=0:=by
 have G:=Ax.good_of hc;have k1:=G.k1;have k9:=G.k9;have gr:=fun l p=>Gr.ins (-1) l p
 have L:=fun (c:Con) l=>kM_ (f:=-1) Gr.refl Gr.trans gr _ c (Nat.le_refl _) l
 have Q:=fun (c:Con) l=>hV_ (f:=-1) Gr.refl Gr.trans gr _ c (Nat.le_refl _) l
 have M:=fun xs l=>kJ_ (f:=-1) Gr.refl Gr.trans gr xs l
 have mm:=fun xs l a h=>nC_ (-1) xs l a h
 have LA:=fun (c:Con) (hok:c.ok) (hc:c.check=0) l hl=>Con.leftP_all (f:=-1) (by decide) (by decide) _ c (Nat.le_refl _) hok hc l hl
 have QA:=fun (c:Con) (hok:c.ok) (hc:c.check=0) l hl=>Con.rightP_all (f:=-1) (by decide) (by decide) _ c (Nat.le_refl _) hok hc l hl
 have MA:=fun xs l hx hl=>nD_ (f:=-1) (by decide) (by decide) xs l hx hl
 have n:∀ q∈([]:List Pc),PQ (-1) q:=fun q hq=>by cases hq
 have A:=fun (c:Con) (hok:c.ok) (hc:c.check=0)=>(⟨Con.atom_ok hc,by have:=Con.atom_len hok hc;omega⟩:aR_ c.atom=true∧c.atom.length≤1000000000000)
 have Ll:=fun (c:Con) l=>Con.leftP_len (-1) _ c (Nat.le_refl _) l
 have Ql:=fun (c:Con) l=>Con.rightP_len (-1) _ c (Nat.le_refl _) l
 have Ml:=fun xs l=>eN_ (-1) xs l
 have Il:=fun l p=>bu_ (-1) l p
 have sl:x.kind≤3→x.left.sz≤64:=fun h=>(Con.check_zero (G.left h)).2
 have sr:x.kind≤4∨x.kind=8→x.right.sz≤64:=fun h=>(Con.check_zero (G.right h)).2
 have nd:([]:List Pc).Nodup:=List.nodup_nil
 have two:∀ (a b:Str),aR_ a=true∧a.length≤1000000000000→aR_ b=true∧b.length≤1000000000000→∀ c∈[a,b],aR_ c=true∧c.length≤1000000000000:=by
   intro a b ha hb c hc;simp only[List.mem_cons,List.not_mem_nil,or_false]at hc;rcases hc with rfl|rfl
   · exact ha
   · exact hb
 have m2:∀ (a b:Str) (p:List Pc) (r:Str),Gr (aU_ (-1) [a,b] []) p→∀ g∈[(⟨1,a,b,r,0,0⟩:Fc)],(⟨1,g.a,[],[42],[],[],[],0,0,-1⟩:Pc)∈p∧(⟨1,g.b,[],[42],[],[],[],0,0,-1⟩:Pc)∈p:=by
   intro a b p r hg g hm;simp only[List.mem_singleton]at hm;subst hm;exact⟨hg.sub _ (mm [a,b] [] a (by simp)),hg.sub _ (mm [a,b] [] b (by simp))⟩
 unfold Ax.goalP;rw[if_neg (by omega)]
 split
 ·have l:=G.left (by omega);have r:=G.right (by omega);have a1:=A _ hok.left l;have a2:=A _ hok.right r;have:=sl (by omega);have:=sr (by omega)
  have g1:=Q x.left (aU_ (-1) [x.left.atom,x.right.atom] []);have g2:=L x.right (x.left.rightP (-1) (aU_ (-1) [x.left.atom,x.right.atom] []));refine⟨⟨(Gr.trans (M _ _) (Gr.trans g1 g2)).nodup nd,LA _ hok.right r _ (QA _ hok.left l _ (MA _ _ (two _ _ a1 a2) n)),?_,by simp,m2 _ _ _ _ (Gr.trans g1 g2)⟩,rfl⟩;have:=Ml [x.left.atom,x.right.atom] [];have:=Ql x.left (aU_ (-1) [x.left.atom,x.right.atom] []);have:=Ll x.right (x.left.rightP (-1) (aU_ (-1) [x.left.atom,x.right.atom] []));simp only[List.length_cons,List.length_nil]at *;omega
 split
 ·have l:=G.left (by omega);have r:=G.right (by omega);have a1:=A _ hok.left l;have a2:=A _ hok.right r;have:=sl (by omega);have:=sr (by omega)
  have g1:=Q x.left (aU_ (-1) [x.left.atom,x.right.atom] []);have g2:=L x.right (x.left.rightP (-1) (aU_ (-1) [x.left.atom,x.right.atom] []));have g3:=Q x.right (x.right.leftP (-1) (x.left.rightP (-1) (aU_ (-1) [x.left.atom,x.right.atom] [])));have g4:=L x.left (x.right.rightP (-1) (x.right.leftP (-1) (x.left.rightP (-1) (aU_ (-1) [x.left.atom,x.right.atom] []))));have gg:=Gr.trans g1 (Gr.trans g2 (Gr.trans g3 g4));refine⟨⟨(Gr.trans (M _ _) gg).nodup nd,LA _ hok.left l _ (QA _ hok.right r _ (LA _ hok.right r _ (QA _ hok.left l _ (MA _ _ (two _ _ a1 a2) n)))),?_,by simp,?_⟩,rfl⟩
  ·have:=Ml [x.left.atom,x.right.atom] [];have:=Ql x.left (aU_ (-1) [x.left.atom,x.right.atom] []);have:=Ll x.right (x.left.rightP (-1) (aU_ (-1) [x.left.atom,x.right.atom] []))
   have:=Ql x.right (x.right.leftP (-1) (x.left.rightP (-1) (aU_ (-1) [x.left.atom,x.right.atom] [])));have:=Ll x.left (x.right.rightP (-1) (x.right.leftP (-1) (x.left.rightP (-1) (aU_ (-1) [x.left.atom,x.right.atom] []))));simp only[List.length_cons,List.length_nil]at *;omega
  intro g hg;simp only[List.mem_cons,List.not_mem_nil,or_false]at hg;have e1:=mm [x.left.atom,x.right.atom] [] x.left.atom (by simp);have e2:=mm [x.left.atom,x.right.atom] [] x.right.atom (by simp);rcases hg with rfl|rfl
  ·exact⟨gg.sub _ e1,gg.sub _ e2⟩
  exact⟨gg.sub _ e2,gg.sub _ e1⟩
 split
 ·have l:=G.left (by omega);have r:=G.right (by omega);have a1:=A _ hok.left l;have a2:=A _ hok.right r;have:=sl (by omega);have:=sr (by omega)
  have o1:=Con.operandN_len hok.left;have o2:=Con.operandN_len hok.right
  have ax:aR_ x.disj=true∧x.disj.length≤1000000000000:=by
    refine⟨?_,by simp[Ax.disj];omega⟩;have e:x.disj=[60]++(x.left.operandN++[32,97,110,100,32]++x.right.operandN)++[62]:=by simp[Ax.disj]
    rw[e];exact jH_ (by simp)
  have b1:∀ (l:List Pc),(∀ q∈l,PQ (-1) q)→∀ (c:Str),aR_ c=true→c.length≤1000000000000→∀ q∈ins (-1) l (eT_ x.disj c),PQ (-1) q:=fun l hl c hc hcl=>di_ hl ⟨rfl,⟨by simp[eT_];omega,by simp[eT_],by simp[eT_];omega,by simp[eT_],by simp[eT_],by simp[eT_]⟩,qy_ (by decide) (by decide) ax.1 hc⟩
  have g0:=gr (aU_ (-1) [x.disj,[33]] []) (eT_ x.disj x.left.atom);have g1:=Q x.left (ins (-1) (aU_ (-1) [x.disj,[33]] []) (eT_ x.disj x.left.atom));have g2:=gr (x.left.rightP (-1) (ins (-1) (aU_ (-1) [x.disj,[33]] []) (eT_ x.disj x.left.atom))) (eT_ x.disj x.right.atom);have g3:=Q x.right (ins (-1) (x.left.rightP (-1) (ins (-1) (aU_ (-1) [x.disj,[33]] []) (eT_ x.disj x.left.atom))) (eT_ x.disj x.right.atom));have gg:=Gr.trans g0 (Gr.trans g1 (Gr.trans g2 g3));refine⟨⟨(Gr.trans (M _ _) gg).nodup nd,QA _ hok.right r _ (b1 _ (QA _ hok.left l _ (b1 _ (MA _ _ (two _ _ ax ⟨rfl,by simp⟩) n) _ a1.1 a1.2)) _ a2.1 a2.2),?_,by simp,m2 _ _ _ _ gg⟩,rfl⟩;have:=Ml [x.disj,[33]] [];have:=Il (aU_ (-1) [x.disj,[33]] []) (eT_ x.disj x.left.atom);have:=Ql x.left (ins (-1) (aU_ (-1) [x.disj,[33]] []) (eT_ x.disj x.left.atom));have:=Il (x.left.rightP (-1) (ins (-1) (aU_ (-1) [x.disj,[33]] []) (eT_ x.disj x.left.atom))) (eT_ x.disj x.right.atom);have:=Ql x.right (ins (-1) (x.left.rightP (-1) (ins (-1) (aU_ (-1) [x.disj,[33]] []) (eT_ x.disj x.left.atom))) (eT_ x.disj x.right.atom));simp only[List.length_cons,List.length_nil]at *;omega
 split
 ·have r:=G.right (by omega);have a2:=A _ hok.right r;have:=sr (by omega);have p:=G.role (by omega);have pl:=ef_ p
  have ay:aR_ x.doms=true∧x.doms.length≤1000000000000:=by
    refine⟨?_,by simp[Ax.doms];omega⟩;have e:x.doms=[60]++([115,111,109,101,32]++x.role++[32,101,118,101,114,121,116,104,105,110,103])++[62]:=by simp[Ax.doms]
    rw[e];exact jH_ (by simp)
  have g0:=gr (aU_ (-1) [x.doms,x.right.atom] []) ⟨3,x.doms,[],[42],x.role,[],[],0,0,0⟩;have g1:=L x.right (ins (-1) (aU_ (-1) [x.doms,x.right.atom] []) ⟨3,x.doms,[],[42],x.role,[],[],0,0,0⟩);have gg:=Gr.trans g0 g1;refine⟨⟨(Gr.trans (M _ _) gg).nodup nd,LA _ hok.right r _ (di_ (MA _ _ (two _ _ ay a2) n) ⟨rfl,⟨by dsimp only;omega,by simp,by simp,by dsimp only;omega,by simp,by simp⟩,val3 (by decide) (by decide) ay.1 (dy_ p) rfl⟩),?_,by simp,m2 _ _ _ _ gg⟩,rfl⟩;have:=Ml [x.doms,x.right.atom] [];have:=Il (aU_ (-1) [x.doms,x.right.atom] []) ⟨3,x.doms,[],[42],x.role,[],[],0,0,0⟩;have:=Ll x.right (ins (-1) (aU_ (-1) [x.doms,x.right.atom] []) ⟨3,x.doms,[],[42],x.role,[],[],0,0,0⟩);simp only[List.length_cons,List.length_nil]at *;omega
 split
 ·have r:=G.right (by omega);have a2:=A _ hok.right r;have:=sr (by omega);have p:=G.a (by omega);have pl:=gv_ p
  have ai:aR_ (db_ x.a)=true∧(db_ x.a).length≤1000000000000:=⟨gS_ p,by simp[db_];omega⟩;have g1:=L x.right (aU_ (-1) [db_ x.a,x.right.atom] []);refine⟨⟨(Gr.trans (M _ _) g1).nodup nd,LA _ hok.right r _ (MA _ _ (two _ _ ai a2) n),?_,by simp,m2 _ _ _ _ g1⟩,rfl⟩;have:=Ml [db_ x.a,x.right.atom] [];have:=Ll x.right (aU_ (-1) [db_ x.a,x.right.atom] []);simp only[List.length_cons,List.length_nil]at *;omega
 split
 ·have p:=G.a (by omega);have pl:=gv_ p;have p2:=G.b (by omega);have pl2:=gv_ p2
  have ai:aR_ (db_ x.a)=true∧(db_ x.a).length≤1000000000000:=⟨gS_ p,by simp[db_];omega⟩;have bi:aR_ (db_ x.b)=true∧(db_ x.b).length≤1000000000000:=⟨gS_ p2,by simp[db_];omega⟩;refine⟨⟨(M _ _).nodup nd,MA _ _ (two _ _ ai bi) n,?_,by simp,?_⟩,rfl⟩
  ·have:=Ml [db_ x.a,db_ x.b] []
   simp only[List.length_cons,List.length_nil]at *;omega
  intro g hm;simp only[List.mem_singleton]at hm;subst hm;exact⟨mm [db_ x.a,db_ x.b] [] (db_ x.a) (by simp),mm [db_ x.a,db_ x.b] [] (db_ x.b) (by simp)⟩
 exfalso;omega
theorem rZ_ {x:Ax} (hok:x.ok) (hc:x.check=0):SmallLaw x:=by
 have G:=Ax.good_of hc;have hne:=Ax.pieces_ne 0 G;have hp1:1≤(x.pieces 0).length:=List.length_pos_iff.2 hne
 have hrole:x.kind=5∨x.kind=6∨x.kind=7→x.goalP=([],[],22):=fun h=>by
   unfold Ax.goalP;rw[if_neg (by omega)]
   repeat rw[if_neg (by omega)]
 by_cases hk:x.kind=5∨x.kind=6∨x.kind=7
 ·have e:=hrole hk
  refine⟨⟨hp1,me_ hc⟩,(md_ (f:=0) Gr.refl Gr.trans (Gr.ins 0) x).nodup List.nodup_nil,by rw[e];simp,by rw[e];simp,hrole,fun h=>absurd hk h,by rw[e];simp,by rw[e];simp⟩
 obtain⟨g,e⟩:=wk_ hok hc hk;refine⟨⟨hp1,me_ hc⟩,(md_ (f:=0) Gr.refl Gr.trans (Gr.ins 0) x).nodup List.nodup_nil,g.gr,fun q hq=>(g.pq q hq).frm,hrole,fun _=>⟨e,?_,g.one.1,g.one.2,g.ment⟩,fun q hq=>(g.pq q hq).sm,g.len⟩;unfold bT_;rw[if_neg (by have:=g.len;omega),if_pos (List.all_eq_true.2 fun q hq=>(g.pq q hq).ok)]
end Go.Vs
