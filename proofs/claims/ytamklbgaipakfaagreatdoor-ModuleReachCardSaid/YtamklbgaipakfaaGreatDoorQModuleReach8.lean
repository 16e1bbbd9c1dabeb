/-
  Part of the proof of the law ModuleReach over this seat: the small logic, the data, the contracts of functions (no condition).
-/
import Derived.Test.YtamklbgaipakfaaGreatDoorQModuleReach3
import Derived.Test.YtamklbgaipakfaaGreatDoorQModuleReach6
import Derived.Test.YtamklbgaipakfaaGreatDoorQModuleReach7
import Derived.Test.YtamklbgaipakfaaGreatDoorQModuleReach2
import Derived.ProofKit
import Derived.OpenShut
import Derived.ReadAgain
import Derived.Deep.Slices
import Derived.SevenTiedAt
import Derived.Stop.Joined
import Derived.Lay
import Derived.LaidMore
set_option linter.unusedVariables false
set_option linter.unusedSimpArgs false
set_option linter.unusedSectionVars false
set_option maxHeartbeats 1000000
namespace Go.Proofs.YtamklbgaipakfaaGreatDoor
open Go Go.Sx Go.Proofs
attribute [local irreducible] Code.wp wpList wpAnyH
open Go.Vs
theorem fi_ (xs:List Str) (ad:Option Addr) (cap:Nat) {kb:Nat} (frm:Int) (l:List Pc) (q:CS) (hq:CInv l q) (hxs:xs.length≤1000) (hlen:l.length+xs.length≤100000) :
    Tri Tryz.prog 111 #[zp_ kb 0,.slice ad (List.length xs) cap] (eW_ kb frm q) [aw_ ad (List.flatMap aH_ xs)] (fun _:{q':CS // CInv (by_ frm xs l) q'}=>.tuple #[]) (fun q'=>eW_ kb frm q'.1) (fun _=>[]):=by
  refine o_ Tryz.func111 rfl rfl Tryz.ntmps111 rfl fun v0=>?_
  refine Zz 8 ?_
  refine aN_ [(0,zp_ kb 0),(6,.slice ad (List.length xs) cap),(7,.int .i64 (List.length xs:Int)),(8,.int .i64 ((0:Nat):Int))] zl ?_
  refine aT_ (ι:={y:Nat×CS // y.1≤xs.length∧CInv (by_ frm (xs.take y.1) l) y.2}) (fun y=>[(0,zp_ kb 0),(6,.slice ad (List.length xs) cap),(7,.int .i64 (List.length xs:Int)),(8,.int .i64 (y.1.1:Int))]) (fun y=>eW_ kb frm y.1.2) (fun _=>_) (fun y=>xs.length - y.1.1) ⟨(0,q),by simp,hq⟩ ?_
  rintro ⟨⟨i,q0⟩,hk⟩
  dsimp only at hk
  dsimp only
  have hml:=em_ frm (xs.take i) l
  have hti:(xs.take i).length≤i:=by simp;omega
  refine aN_ [(0,zp_ kb 0),(6,.slice ad (List.length xs) cap),(7,.int .i64 (List.length xs:Int)),(8,.int .i64 (i:Int))] zl ?_
  refine Zi 2 (fun hr1=>?_) fun hr1=>?_
  · skip
    refine Zz 6 ?_
    exact fd_ Tryz.results111 ⟨q0,by have:=hk.2;rwa [List.take_of_length_le (by omega)]at this⟩ rfl (F:=[]) bh_ zt
  · skip
    obtain⟨hlx1,x1,hx1,hmx1⟩:=zge (show i<List.length xs by omega)
    refine Zz 18 ?_
    refine c_ (S_ bT_ rfl rfl) rfl (I_ x_ Z_ ac_ rfl rfl rfl rfl rfl rfl fun b1=>i_ (dl_ (Pc.mk 1 x1 [] [42] [] [] [] 0 0 0) frm (by_ frm (xs.take i) l) q0 hk.2 (by omega)) rfl zp zt rfl fun⟨q1,hq1⟩=>?_)
    dsimp only
    have hb1:=bt_ frm (by_ frm (xs.take i) l) (Pc.mk 1 x1 [] [42] [] [] [] 0 0 0)
    refine W_ (List.Perm.symm bh_) (Zz 7 ?_)
    exact R_ ⟨(i+1,q1),hlx1,by dsimp only;rw[nR_ frm hx1];exact hq1⟩ (by dsimp only;omega) zl (F:=[]) bh_ zh
theorem hi_ (a b:Str):Fn0 Tryz.prog 109 #[str a,str b] (Fc.val ⟨1,a,b,[],0,0⟩):=by
  refine o_ Tryz.func109 rfl rfl Tryz.ntmps109 rfl fun v0=>?_
  refine Zz 2 ?_
  refine au_ dG_ rfl fun b1=>Zz 6 ?_
  refine c_ (S_ qm_ rfl rfl) rfl (aa_ 0 eX_ rfl rfl rfl rfl rfl rfl (Zz 3 ?_))
  exact fB_ () (fun a v h1 h2=>bZ_ (us:=Fc.cells ⟨1,_,_,[],0,0⟩) 0 Tryz.results109 Tryz.isAgg67 eX_ rfl rfl rfl a v h1 h2) (@List.perm_append_comm _ [_] _) (fun v _ h=>trivial)
theorem eltF:Elt Tryz.prog 59 67 6 72:=gU_ Tryz.underlying59 (z:=.agg (Fc.mk 0 [] [] [] 0 0).cells.toArray) (by kernel_rfl) rfl (by decide)
theorem goal_c (x:Ax) (hok:x.ok):Tri Tryz.prog 58 #[Ax.val x] [] [Ax.memF x,ck_] (fun y:{y:Option Addr×Nat×Option Addr×Nat // x.goalP.1.length≤y.2.1∧y.2.1≤maxLen∧x.goalP.2.1.length≤y.2.2.2∧y.2.2.2≤maxLen∧(y.1=none→y.2.1=0)}=>.tuple #[.slice y.1.1 x.goalP.1.length y.1.2.1,.slice y.1.2.2.1 x.goalP.2.1.length y.1.2.2.2,.int .i64 x.goalP.2.2])
    (fun _=>[]) (fun y=>[aw_ y.1.1 (x.goalP.1.flatMap Pc.cells),aw_ y.1.2.2.1 (x.goalP.2.1.flatMap Fc.cells)]):=by
  refine o_ Tryz.func58 rfl rfl Tryz.ntmps58 rfl fun v0=>?_
  have h1:=hok.role
  have h2:=hok.a
  have h3:=hok.b
  have h4:=Con.operandN_len hok.left
  have h5:=Con.operandN_len hok.right
  have h0:([]:List Pc).length=0:=rfl
  refine Zz 2 ?_
  refine ah_ rfl rfl fun b1=>Zz 9 ?_
  refine i_ (gt_ x hok) rfl f_ zf rfl fun _=>Zi 6 (fun hr1=>?_) fun hr1=>?_
  · skip
    have G:=Ax.good_of hr1
    refine Zz 7 ?_
    refine i_ (gM_ (-1)) rfl f_ zt rfl fun⟨kb,bm0⟩=>?_
    dsimp only
    refine W_ (@List.perm_append_comm _ _ [_]) (Zz 6 ?_)
    refine i_ (ou_ kb) rfl f_ zt rfl fun⟨bk,bl,br⟩=>?_
    dsimp only
    refine Zi 23 (fun hr2=>?_) fun hr2=>?_
    · skip
      refine Zi 5 (fun hr3=>?_) fun hr3=>?_
      · skip
        refine Zi 6 (fun hr4=>?_) fun hr4=>?_
        · skip
          refine Zi 6 (fun hr5=>?_) fun hr5=>?_
          · skip
            refine Zi 6 (fun hr6=>?_) fun hr6=>?_
            · skip
              refine Zi 6 (fun hr7=>?_) fun hr7=>?_
              · skip
                refine Zz 12 ?_
                have e:x.goalP=([],[],22):=by unfold Ax.goalP;rw[if_neg (by omega)];repeat rw[if_neg (by omega)]
                have hy:x.goalP.1.length≤0∧0≤maxLen∧x.goalP.2.1.length≤0∧0≤maxLen∧((none:Option Addr)=none→0=0):=by rw[e];simp
                have hz:Value.tuple #[.slice none 0 0,.slice none 0 0,.int .i64 22]=.tuple #[.slice none x.goalP.1.length 0,.slice none x.goalP.2.1.length 0,.int .i64 x.goalP.2.2]:=by rw[e]<;>rfl
                have hw1:x.goalP.1.flatMap Pc.cells=[]:=by rw[e];rfl
                have hw2:x.goalP.2.1.flatMap Fc.cells=[]:=by rw[e];rfl
                exact ir_ et_ ⟨(none,0,none,0),hy⟩ rfl rfl rfl hz f_ (fun v _ h=>⟨.inl hw1,.inl hw2,trivial⟩)
              · skip
                refine Zz 5 ?_
                refine bi_ ((b1,.cells #[.int .i64 (Ax.kind x),.bool (Ax.opn x),.int .i64 (Con.kind (Ax.left x)),str (Con.name (Ax.left x)),.int .i64 (Con.lo (Ax.left x)),.int .i64 (Con.hi (Ax.left x)),.slice (Con.ad (Ax.left x)) (List.length (Con.parts (Ax.left x))) (Con.cap (Ax.left x)),.int .i64 (Con.kind (Ax.right x)),str (Con.name (Ax.right x)),.int .i64 (Con.lo (Ax.right x)),.int .i64 (Con.hi (Ax.right x)),.slice (Con.ad (Ax.right x)) (List.length (Con.parts (Ax.right x))) (Con.cap (Ax.right x)),.slice (Ax.ad x) (List.length (Ax.roles x)) (Ax.cap x),str (Ax.role x),str (Ax.a x),str (Ax.b x)] 48 (0,0))::[]) zk ?_
                refine U_ 4 [0,1,2,4,5] zk zs (Zz 6 ?_)
                refine u_ 3 rfl zk (i_ (cr_ (Ax.a x) hok.a) rfl f_ zt rfl fun _=>Zz 3 ?_)
                refine u_ 6 rfl zk (i_ (cr_ (Ax.b x) hok.b) rfl f_ zt rfl fun _=>Zz 3 ?_)
                refine u_ 7 rfl zk (I_ D_ O_ aR_ rfl rfl rfl rfl rfl rfl fun b2=>?_)
                refine ak_ (List.flatMap aH_ [(dW_ (Ax.a x)),(dW_ (Ax.b x))]) t_ rfl ?_
                refine Zz 3 ?_
                refine u_ 8 rfl zk (i_ (fi_ [(dW_ (Ax.a x)),(dW_ (Ax.b x))] (some ⟨b2,0,none⟩) 2 (-1) ([]:List Pc) ⟨.slice none 0 0,bm0,#[],0,[]⟩ ⟨aG_.nil _ _,rfl,by simp⟩ (by simp) (by simp only[List.length_cons,List.length_nil];omega)) rfl zp zf rfl fun⟨q1,hq1⟩=>?_)
                dsimp only
                have hb1:=em_ (-1) [(dW_ (Ax.a x)),(dW_ (Ax.b x))] ([]:List Pc)
                refine W_ (@List.perm_append_comm _ _ [_]) ?_
                simp only[List.length_cons,List.length_nil]at hb1
                refine Zz 6 ?_
                refine U_ 5 [0,1,3,4,6,7] zk zs (Zz 7 ?_)
                refine u_ 2 rfl zk (i_ (cr_ (Ax.a x) hok.a) rfl f_ zt rfl fun _=>Zz 3 ?_)
                refine u_ 5 rfl zk (i_ (cr_ (Ax.b x) hok.b) rfl f_ zt rfl fun _=>Zz 3 ?_)
                refine U_ 2 [8] zk zs (y_ rfl (S_ qm_ rfl rfl) rfl (aJ_ (u_ 9 rfl zk (I_ ea_ eX_ dG_ rfl rfl rfl rfl rfl rfl fun b3=>Zz 3 ?_))))
                refine U_ 0 [10] zk zs (Zz 17 ?_)
                refine ak_ (List.flatMap Fc.cells [(Fc.mk 2 (dW_ (Ax.a x)) (dW_ (Ax.b x)) (Ax.role x) 0 0)]) t_ rfl ?_
                refine cV_ hq1.row (C_ (C_ (C_ bh_))) fun adP cpP hsvP hcP1 hcP2=>?_
                have e:x.goalP=((by_ (-1) [(dW_ (Ax.a x)),(dW_ (Ax.b x))] ([]:List Pc)),[(Fc.mk 2 (dW_ (Ax.a x)) (dW_ (Ax.b x)) (Ax.role x) 0 0)],0):=by
                  unfold Ax.goalP;rw[if_neg (by omega)];repeat (first|rfl|(rw[if_pos (by omega)])|(rw[if_neg (by omega)]))
                have hy:x.goalP.1.length≤cpP∧cpP≤maxLen∧x.goalP.2.1.length≤1∧1≤maxLen∧(adP=none→cpP=0):=by rw[e];exact⟨hcP1,hcP2,by simp,by decide,aG_.nilcap hq1.row hsvP⟩
                have hz:Value.tuple #[q1.sv,.slice (some ⟨b3,0,none⟩) 1 1,.int .i64 0]=.tuple #[.slice adP x.goalP.1.length cpP,.slice (some ⟨b3,0,none⟩) x.goalP.2.1.length 1,.int .i64 x.goalP.2.2]:=by
                  rw[e,hsvP]<;>rfl
                have hw1:List.flatMap Pc.cells (by_ (-1) [(dW_ (Ax.a x)),(dW_ (Ax.b x))] ([]:List Pc))=x.goalP.1.flatMap Pc.cells:=by rw[e]
                have hw2:List.flatMap Fc.cells [(Fc.mk 2 (dW_ (Ax.a x)) (dW_ (Ax.b x)) (Ax.role x) 0 0)]=x.goalP.2.1.flatMap Fc.cells:=by rw[e]
                exact ir_ et_ ⟨(adP,cpP,(some ⟨b3,0,none⟩),1),hy⟩ rfl rfl rfl hz f_ (fun v _ h=>⟨hw1▸h.1,hw2▸h.2.1,trivial⟩)
            · skip
              obtain⟨fr,zr⟩:=Con.check_zero (G.right (by omega))
              refine Zz 5 ?_
              refine bi_ ((b1,.cells #[.int .i64 (Ax.kind x),.bool (Ax.opn x),.int .i64 (Con.kind (Ax.left x)),str (Con.name (Ax.left x)),.int .i64 (Con.lo (Ax.left x)),.int .i64 (Con.hi (Ax.left x)),.slice (Con.ad (Ax.left x)) (List.length (Con.parts (Ax.left x))) (Con.cap (Ax.left x)),.int .i64 (Con.kind (Ax.right x)),str (Con.name (Ax.right x)),.int .i64 (Con.lo (Ax.right x)),.int .i64 (Con.hi (Ax.right x)),.slice (Con.ad (Ax.right x)) (List.length (Con.parts (Ax.right x))) (Con.cap (Ax.right x)),.slice (Ax.ad x) (List.length (Ax.roles x)) (Ax.cap x),str (Ax.role x),str (Ax.a x),str (Ax.b x)] 48 (0,0))::[]) zk ?_
              refine U_ 4 [0,1,2,4,5] zk zs (Zz 6 ?_)
              refine u_ 3 rfl zk (i_ (cr_ (Ax.a x) hok.a) rfl f_ zt rfl fun _=>Zz 3 ?_)
              refine u_ 6 rfl zk (i_ (cg_ (Ax.right x) hok.right) rfl f_ (fun v _ h=>by exact⟨h.2.2.2.1.2.1,h.2.2.2.2.1,trivial⟩) rfl fun _=>Zz 3 ?_)
              refine u_ 7 rfl zk (I_ D_ O_ aR_ rfl rfl rfl rfl rfl rfl fun b4=>?_)
              refine ak_ (List.flatMap aH_ [(dW_ (Ax.a x)),(Con.atom (Ax.right x))]) t_ rfl ?_
              refine Zz 3 ?_
              refine u_ 8 rfl zk (i_ (fi_ [(dW_ (Ax.a x)),(Con.atom (Ax.right x))] (some ⟨b4,0,none⟩) 2 (-1) ([]:List Pc) ⟨.slice none 0 0,bm0,#[],0,[]⟩ ⟨aG_.nil _ _,rfl,by simp⟩ (by simp) (by simp only[List.length_cons,List.length_nil];omega)) rfl zp zf rfl fun⟨q2,hq2⟩=>?_)
              dsimp only
              have hb2:=em_ (-1) [(dW_ (Ax.a x)),(Con.atom (Ax.right x))] ([]:List Pc)
              refine W_ (@List.perm_append_comm _ _ [_]) ?_
              simp only[List.length_cons,List.length_nil]at hb2
              refine Zz 10 ?_
              refine aM_ (fC_ (kb:=kb) (bk:=bk) (bs:=bl) (frm:=(-1)) _ (Ax.right x) (Nat.le_refl _) hok.right fr (by_ (-1) [(dW_ (Ax.a x)),(Con.atom (Ax.right x))] ([]:List Pc)) q2 hq2 (by omega)) rfl rfl zp (fun v _ h=>by exact⟨h.2.2.2.2.1.2.1,h.2.2.2.2.2.1,h.2.1,h.2.2.1,trivial⟩) rfl fun⟨q3,hq3⟩=>?_
              dsimp only
              have hb3:=Con.leftP_len (-1) _ (Ax.right x) (Nat.le_refl _) (by_ (-1) [(dW_ (Ax.a x)),(Con.atom (Ax.right x))] ([]:List Pc))
              refine W_ (@List.perm_append_comm _ _ [_]) (Zz 3 ?_)
              refine U_ 5 [0,1,2,4,5] zk zs (Zz 6 ?_)
              refine u_ 3 rfl zk (i_ (cr_ (Ax.a x) hok.a) rfl f_ zt rfl fun _=>Zz 3 ?_)
              refine u_ 6 rfl zk (i_ (cg_ (Ax.right x) hok.right) rfl f_ (fun v _ h=>by exact⟨h.2.2.2.2.1.2.1,h.2.2.2.2.2.1,trivial⟩) rfl fun _=>Zz 3 ?_)
              refine u_ 7 rfl zk (aM_ (hi_ (dW_ (Ax.a x)) (Con.atom (Ax.right x))) rfl rfl f_ zt rfl fun _=>Zz 3 ?_)
              refine u_ 8 rfl zk (I_ ea_ eX_ dG_ rfl rfl rfl rfl rfl rfl fun b5=>Zz 3 ?_)
              refine U_ 0 [9] zk zs (Zz 17 ?_)
              refine ak_ (List.flatMap Fc.cells [(Fc.mk 1 (dW_ (Ax.a x)) (Con.atom (Ax.right x)) [] 0 0)]) t_ rfl ?_
              refine cV_ hq3.row (C_ (C_ (C_ bh_))) fun adP cpP hsvP hcP1 hcP2=>?_
              have e:x.goalP=((Con.leftP (-1) (Ax.right x) (by_ (-1) [(dW_ (Ax.a x)),(Con.atom (Ax.right x))] ([]:List Pc))),[(Fc.mk 1 (dW_ (Ax.a x)) (Con.atom (Ax.right x)) [] 0 0)],0):=by
                unfold Ax.goalP;rw[if_neg (by omega)];repeat (first|rfl|(rw[if_pos (by omega)])|(rw[if_neg (by omega)]))
              have hy:x.goalP.1.length≤cpP∧cpP≤maxLen∧x.goalP.2.1.length≤1∧1≤maxLen∧(adP=none→cpP=0):=by rw[e];exact⟨hcP1,hcP2,by simp,by decide,aG_.nilcap hq3.row hsvP⟩
              have hz:Value.tuple #[q3.sv,.slice (some ⟨b5,0,none⟩) 1 1,.int .i64 0]=.tuple #[.slice adP x.goalP.1.length cpP,.slice (some ⟨b5,0,none⟩) x.goalP.2.1.length 1,.int .i64 x.goalP.2.2]:=by
                rw[e,hsvP]<;>rfl
              have hw1:List.flatMap Pc.cells (Con.leftP (-1) (Ax.right x) (by_ (-1) [(dW_ (Ax.a x)),(Con.atom (Ax.right x))] ([]:List Pc)))=x.goalP.1.flatMap Pc.cells:=by rw[e]
              have hw2:List.flatMap Fc.cells [(Fc.mk 1 (dW_ (Ax.a x)) (Con.atom (Ax.right x)) [] 0 0)]=x.goalP.2.1.flatMap Fc.cells:=by rw[e]
              exact ir_ et_ ⟨(adP,cpP,(some ⟨b5,0,none⟩),1),hy⟩ rfl rfl rfl hz f_ (fun v _ h=>⟨hw1▸h.1,hw2▸h.2.1,trivial⟩)
          · skip
            obtain⟨fr,zr⟩:=Con.check_zero (G.right (by omega))
            refine Zz 8 ?_
            refine c_ (bg_ rfl rfl (by simp only[List.length_append,List.length_cons,List.length_nil];omega)) rfl ?_
            refine c_ (br_ (bg_ rfl rfl (by simp only[List.length_append,List.length_cons,List.length_nil];omega)) (show _=str (Ax.doms x) from rfl)) rfl ?_
            refine Zz 9 ?_
            refine i_ (cg_ (Ax.right x) hok.right) rfl f_ (fun v _ h=>by exact⟨h.2.2.2.1.2.1,h.2.2.2.2.1,trivial⟩) rfl fun _=>I_ D_ O_ aR_ rfl rfl rfl rfl rfl rfl fun b6=>?_
            refine ak_ (List.flatMap aH_ [(Ax.doms x),(Con.atom (Ax.right x))]) t_ rfl ?_
            refine i_ (fi_ [(Ax.doms x),(Con.atom (Ax.right x))] (some ⟨b6,0,none⟩) 2 (-1) ([]:List Pc) ⟨.slice none 0 0,bm0,#[],0,[]⟩ ⟨aG_.nil _ _,rfl,by simp⟩ (by simp) (by simp only[List.length_cons,List.length_nil];omega)) rfl zp zf rfl fun⟨q4,hq4⟩=>?_
            dsimp only
            have hb4:=em_ (-1) [(Ax.doms x),(Con.atom (Ax.right x))] ([]:List Pc)
            refine W_ (@List.perm_append_comm _ _ [_]) ?_
            simp only[List.length_cons,List.length_nil]at hb4
            refine Zz 8 ?_
            refine c_ (S_ bT_ rfl rfl) rfl (I_ x_ Z_ ac_ rfl rfl rfl rfl rfl rfl fun b7=>i_ (dl_ (Pc.mk 3 (Ax.doms x) [] [42] (Ax.role x) [] [] 0 0 0) (-1) (by_ (-1) [(Ax.doms x),(Con.atom (Ax.right x))] ([]:List Pc)) q4 hq4 (by omega)) rfl zp zt rfl fun⟨q5,hq5⟩=>?_)
            dsimp only
            have hb5:=bt_ (-1) (by_ (-1) [(Ax.doms x),(Con.atom (Ax.right x))] ([]:List Pc)) (Pc.mk 3 (Ax.doms x) [] [42] (Ax.role x) [] [] 0 0 0)
            refine W_ (@List.perm_append_comm _ _ [_]) (Zz 7 ?_)
            refine aM_ (fC_ (kb:=kb) (bk:=bk) (bs:=bl) (frm:=(-1)) _ (Ax.right x) (Nat.le_refl _) hok.right fr (ins (-1) (by_ (-1) [(Ax.doms x),(Con.atom (Ax.right x))] ([]:List Pc)) (Pc.mk 3 (Ax.doms x) [] [42] (Ax.role x) [] [] 0 0 0)) q5 hq5 (by omega)) rfl rfl zp (fun v _ h=>by exact⟨h.2.2.2.2.1.2.1,h.2.2.2.2.2.1,h.2.1,h.2.2.1,trivial⟩) rfl fun⟨q6,hq6⟩=>?_
            dsimp only
            have hb6:=Con.leftP_len (-1) _ (Ax.right x) (Nat.le_refl _) (ins (-1) (by_ (-1) [(Ax.doms x),(Con.atom (Ax.right x))] ([]:List Pc)) (Pc.mk 3 (Ax.doms x) [] [42] (Ax.role x) [] [] 0 0 0))
            refine W_ (@List.perm_append_comm _ _ [_]) (Zz 7 ?_)
            refine i_ (cg_ (Ax.right x) hok.right) rfl f_ (fun v _ h=>by exact⟨h.2.2.2.2.1.2.1,h.2.2.2.2.2.1,trivial⟩) rfl fun _=>aM_ (hi_ (Ax.doms x) (Con.atom (Ax.right x))) rfl rfl f_ zt rfl fun _=>I_ ea_ eX_ dG_ rfl rfl rfl rfl rfl rfl fun b8=>Zz 16 ?_
            refine ak_ (List.flatMap Fc.cells [(Fc.mk 1 (Ax.doms x) (Con.atom (Ax.right x)) [] 0 0)]) t_ rfl ?_
            refine cV_ hq6.row (C_ (C_ (C_ bh_))) fun adP cpP hsvP hcP1 hcP2=>?_
            have e:x.goalP=((Con.leftP (-1) (Ax.right x) (ins (-1) (by_ (-1) [(Ax.doms x),(Con.atom (Ax.right x))] ([]:List Pc)) (Pc.mk 3 (Ax.doms x) [] [42] (Ax.role x) [] [] 0 0 0))),[(Fc.mk 1 (Ax.doms x) (Con.atom (Ax.right x)) [] 0 0)],0):=by
              unfold Ax.goalP;rw[if_neg (by omega)];repeat (first|rfl|(rw[if_pos (by omega)])|(rw[if_neg (by omega)]))
            have hy:x.goalP.1.length≤cpP∧cpP≤maxLen∧x.goalP.2.1.length≤1∧1≤maxLen∧(adP=none→cpP=0):=by rw[e];exact⟨hcP1,hcP2,by simp,by decide,aG_.nilcap hq6.row hsvP⟩
            have hz:Value.tuple #[q6.sv,.slice (some ⟨b8,0,none⟩) 1 1,.int .i64 0]=.tuple #[.slice adP x.goalP.1.length cpP,.slice (some ⟨b8,0,none⟩) x.goalP.2.1.length 1,.int .i64 x.goalP.2.2]:=by
              rw[e,hsvP]<;>rfl
            have hw1:List.flatMap Pc.cells (Con.leftP (-1) (Ax.right x) (ins (-1) (by_ (-1) [(Ax.doms x),(Con.atom (Ax.right x))] ([]:List Pc)) (Pc.mk 3 (Ax.doms x) [] [42] (Ax.role x) [] [] 0 0 0)))=x.goalP.1.flatMap Pc.cells:=by rw[e]
            have hw2:List.flatMap Fc.cells [(Fc.mk 1 (Ax.doms x) (Con.atom (Ax.right x)) [] 0 0)]=x.goalP.2.1.flatMap Fc.cells:=by rw[e]
            exact ir_ et_ ⟨(adP,cpP,(some ⟨b8,0,none⟩),1),hy⟩ rfl rfl rfl hz f_ (fun v _ h=>⟨hw1▸h.1,hw2▸h.2.1,trivial⟩)
        · skip
          obtain⟨fl,zl⟩:=Con.check_zero (G.left (by omega))
          obtain⟨fr,zr⟩:=Con.check_zero (G.right (by omega))
          refine Zz 6 ?_
          refine U_ 7 [0,1,5,6] zk zs (Zz 5 ?_)
          refine u_ 2 rfl zk (i_ (jI_ (Ax.left x) hok.left) rfl f_ (fun v _ h=>by exact⟨h.2.2.2.1.1,h.2.2.2.2.1,trivial⟩) rfl fun _=>Zz 3 ?_)
          refine U_ 4 [3,4] zk zs ?_
          refine y_ rfl (bg_ rfl rfl (by simp only[List.length_append,List.length_cons,List.length_nil];omega)) rfl ?_
          refine y_ rfl (bg_ rfl rfl (by simp only[List.length_append,List.length_cons,List.length_nil];omega)) rfl ?_
          refine aJ_ (u_ 7 rfl zk (i_ (jI_ (Ax.right x) hok.right) rfl f_ (fun v _ h=>by exact⟨h.2.2.2.1.2.1,h.2.2.2.2.1,trivial⟩) rfl fun _=>Zz 3 ?_))
          refine U_ 0 [8,9,10] zk zs ?_
          refine y_ rfl (bg_ rfl rfl (by simp only[List.length_append,List.length_cons,List.length_nil];omega)) rfl ?_
          refine y_ rfl (br_ (bg_ rfl rfl (by simp only[List.length_append,List.length_cons,List.length_nil];omega)) (show _=str (Ax.disj x) from rfl)) rfl ?_
          refine Zz 8 ?_
          refine I_ D_ O_ aR_ rfl rfl rfl rfl rfl rfl fun b9=>?_
          refine ak_ (List.flatMap aH_ [(Ax.disj x),[33]]) t_ rfl ?_
          refine i_ (fi_ [(Ax.disj x),[33]] (some ⟨b9,0,none⟩) 2 (-1) ([]:List Pc) ⟨.slice none 0 0,bm0,#[],0,[]⟩ ⟨aG_.nil _ _,rfl,by simp⟩ (by simp) (by simp only[List.length_cons,List.length_nil];omega)) rfl zp zf rfl fun⟨q7,hq7⟩=>?_
          dsimp only
          have hb7:=em_ (-1) [(Ax.disj x),[33]] ([]:List Pc)
          refine W_ (@List.perm_append_comm _ _ [_]) ?_
          simp only[List.length_cons,List.length_nil]at hb7
          refine Zz 8 ?_
          refine i_ (cg_ (Ax.left x) hok.left) rfl f_ (fun v _ h=>by exact⟨h.2.2.2.2.1.1,h.2.2.2.2.2.1,trivial⟩) rfl fun _=>c_ (S_ bT_ rfl rfl) rfl (I_ x_ Z_ ac_ rfl rfl rfl rfl rfl rfl fun b10=>i_ (dl_ (Pc.mk 1 (Ax.disj x) [] (Con.atom (Ax.left x)) [] [] [] 0 0 0) (-1) (by_ (-1) [(Ax.disj x),[33]] ([]:List Pc)) q7 hq7 (by omega)) rfl zp zt rfl fun⟨q8,hq8⟩=>?_)
          dsimp only
          have hb8:=bt_ (-1) (by_ (-1) [(Ax.disj x),[33]] ([]:List Pc)) (Pc.mk 1 (Ax.disj x) [] (Con.atom (Ax.left x)) [] [] [] 0 0 0)
          refine W_ (@List.perm_append_comm _ _ [_]) (Zz 7 ?_)
          refine aM_ (eJ_ (kb:=kb) (bk:=bk) (bs:=br) (frm:=(-1)) _ (Ax.left x) (Nat.le_refl _) hok.left fl (ins (-1) (by_ (-1) [(Ax.disj x),[33]] ([]:List Pc)) (Pc.mk 1 (Ax.disj x) [] (Con.atom (Ax.left x)) [] [] [] 0 0 0)) q8 hq8 (by omega)) rfl rfl zp (fun v _ h=>by exact⟨h.2.2.2.2.1.1,h.2.2.2.2.2.1,h.2.1,h.2.2.2.1,trivial⟩) rfl fun⟨q9,hq9⟩=>?_
          dsimp only
          have hb9:=Con.rightP_len (-1) _ (Ax.left x) (Nat.le_refl _) (ins (-1) (by_ (-1) [(Ax.disj x),[33]] ([]:List Pc)) (Pc.mk 1 (Ax.disj x) [] (Con.atom (Ax.left x)) [] [] [] 0 0 0))
          refine W_ (@List.perm_append_comm _ _ [_]) (Zz 8 ?_)
          refine i_ (cg_ (Ax.right x) hok.right) rfl f_ (fun v _ h=>by exact⟨h.2.2.2.2.1.2.1,h.2.2.2.2.2.1,trivial⟩) rfl fun _=>c_ (S_ bT_ rfl rfl) rfl (I_ x_ Z_ ac_ rfl rfl rfl rfl rfl rfl fun b11=>i_ (dl_ (Pc.mk 1 (Ax.disj x) [] (Con.atom (Ax.right x)) [] [] [] 0 0 0) (-1) (Con.rightP (-1) (Ax.left x) (ins (-1) (by_ (-1) [(Ax.disj x),[33]] ([]:List Pc)) (Pc.mk 1 (Ax.disj x) [] (Con.atom (Ax.left x)) [] [] [] 0 0 0))) q9 hq9 (by omega)) rfl zp zt rfl fun⟨q10,hq10⟩=>?_)
          dsimp only
          have hb10:=bt_ (-1) (Con.rightP (-1) (Ax.left x) (ins (-1) (by_ (-1) [(Ax.disj x),[33]] ([]:List Pc)) (Pc.mk 1 (Ax.disj x) [] (Con.atom (Ax.left x)) [] [] [] 0 0 0))) (Pc.mk 1 (Ax.disj x) [] (Con.atom (Ax.right x)) [] [] [] 0 0 0)
          refine W_ (@List.perm_append_comm _ _ [_]) (Zz 7 ?_)
          refine aM_ (eJ_ (kb:=kb) (bk:=bk) (bs:=br) (frm:=(-1)) _ (Ax.right x) (Nat.le_refl _) hok.right fr (ins (-1) (Con.rightP (-1) (Ax.left x) (ins (-1) (by_ (-1) [(Ax.disj x),[33]] ([]:List Pc)) (Pc.mk 1 (Ax.disj x) [] (Con.atom (Ax.left x)) [] [] [] 0 0 0))) (Pc.mk 1 (Ax.disj x) [] (Con.atom (Ax.right x)) [] [] [] 0 0 0)) q10 hq10 (by omega)) rfl rfl zp (fun v _ h=>by exact⟨h.2.2.2.2.1.2.1,h.2.2.2.2.2.1,h.2.1,h.2.2.2.1,trivial⟩) rfl fun⟨q11,hq11⟩=>?_
          dsimp only
          have hb11:=Con.rightP_len (-1) _ (Ax.right x) (Nat.le_refl _) (ins (-1) (Con.rightP (-1) (Ax.left x) (ins (-1) (by_ (-1) [(Ax.disj x),[33]] ([]:List Pc)) (Pc.mk 1 (Ax.disj x) [] (Con.atom (Ax.left x)) [] [] [] 0 0 0))) (Pc.mk 1 (Ax.disj x) [] (Con.atom (Ax.right x)) [] [] [] 0 0 0))
          refine W_ (@List.perm_append_comm _ _ [_]) (Zz 5 ?_)
          refine aM_ (hi_ (Ax.disj x) [33]) rfl rfl f_ zt rfl fun _=>I_ ea_ eX_ dG_ rfl rfl rfl rfl rfl rfl fun b12=>Zz 16 ?_
          refine ak_ (List.flatMap Fc.cells [(Fc.mk 1 (Ax.disj x) [33] [] 0 0)]) t_ rfl ?_
          refine cV_ hq11.row (C_ (C_ (C_ bh_))) fun adP cpP hsvP hcP1 hcP2=>?_
          have e:x.goalP=((Con.rightP (-1) (Ax.right x) (ins (-1) (Con.rightP (-1) (Ax.left x) (ins (-1) (by_ (-1) [(Ax.disj x),[33]] ([]:List Pc)) (Pc.mk 1 (Ax.disj x) [] (Con.atom (Ax.left x)) [] [] [] 0 0 0))) (Pc.mk 1 (Ax.disj x) [] (Con.atom (Ax.right x)) [] [] [] 0 0 0))),[(Fc.mk 1 (Ax.disj x) [33] [] 0 0)],0):=by
            unfold Ax.goalP;rw[if_neg (by omega)];repeat (first|rfl|(rw[if_pos (by omega)])|(rw[if_neg (by omega)]))
          have hy:x.goalP.1.length≤cpP∧cpP≤maxLen∧x.goalP.2.1.length≤1∧1≤maxLen∧(adP=none→cpP=0):=by rw[e];exact⟨hcP1,hcP2,by simp,by decide,aG_.nilcap hq11.row hsvP⟩
          have hz:Value.tuple #[q11.sv,.slice (some ⟨b12,0,none⟩) 1 1,.int .i64 0]=.tuple #[.slice adP x.goalP.1.length cpP,.slice (some ⟨b12,0,none⟩) x.goalP.2.1.length 1,.int .i64 x.goalP.2.2]:=by
            rw[e,hsvP]<;>rfl
          have hw1:List.flatMap Pc.cells (Con.rightP (-1) (Ax.right x) (ins (-1) (Con.rightP (-1) (Ax.left x) (ins (-1) (by_ (-1) [(Ax.disj x),[33]] ([]:List Pc)) (Pc.mk 1 (Ax.disj x) [] (Con.atom (Ax.left x)) [] [] [] 0 0 0))) (Pc.mk 1 (Ax.disj x) [] (Con.atom (Ax.right x)) [] [] [] 0 0 0)))=x.goalP.1.flatMap Pc.cells:=by rw[e]
          have hw2:List.flatMap Fc.cells [(Fc.mk 1 (Ax.disj x) [33] [] 0 0)]=x.goalP.2.1.flatMap Fc.cells:=by rw[e]
          exact ir_ et_ ⟨(adP,cpP,(some ⟨b12,0,none⟩),1),hy⟩ rfl rfl rfl hz f_ (fun v _ h=>⟨hw1▸h.1,hw2▸h.2.1,trivial⟩)
      · skip
        obtain⟨fl,zl⟩:=Con.check_zero (G.left (by omega))
        obtain⟨fr,zr⟩:=Con.check_zero (G.right (by omega))
        refine Zz 6 ?_
        refine U_ 4 [0,1,3,4] zk zs (Zz 5 ?_)
        refine u_ 2 rfl zk (i_ (cg_ (Ax.left x) hok.left) rfl f_ (fun v _ h=>by exact⟨h.2.2.2.1.1,h.2.2.2.2.1,trivial⟩) rfl fun _=>Zz 3 ?_)
        refine u_ 5 rfl zk (i_ (cg_ (Ax.right x) hok.right) rfl f_ (fun v _ h=>by exact⟨h.2.2.2.1.2.1,h.2.2.2.2.1,trivial⟩) rfl fun _=>Zz 3 ?_)
        refine U_ 0 [6,7] zk zs (Zz 10 ?_)
        refine I_ D_ O_ aR_ rfl rfl rfl rfl rfl rfl fun b13=>?_
        refine ak_ (List.flatMap aH_ [(Con.atom (Ax.left x)),(Con.atom (Ax.right x))]) t_ rfl ?_
        refine i_ (fi_ [(Con.atom (Ax.left x)),(Con.atom (Ax.right x))] (some ⟨b13,0,none⟩) 2 (-1) ([]:List Pc) ⟨.slice none 0 0,bm0,#[],0,[]⟩ ⟨aG_.nil _ _,rfl,by simp⟩ (by simp) (by simp only[List.length_cons,List.length_nil];omega)) rfl zp zf rfl fun⟨q12,hq12⟩=>?_
        dsimp only
        have hb12:=em_ (-1) [(Con.atom (Ax.left x)),(Con.atom (Ax.right x))] ([]:List Pc)
        refine W_ (@List.perm_append_comm _ _ [_]) ?_
        simp only[List.length_cons,List.length_nil]at hb12
        refine Zz 7 ?_
        refine aM_ (eJ_ (kb:=kb) (bk:=bk) (bs:=br) (frm:=(-1)) _ (Ax.left x) (Nat.le_refl _) hok.left fl (by_ (-1) [(Con.atom (Ax.left x)),(Con.atom (Ax.right x))] ([]:List Pc)) q12 hq12 (by omega)) rfl rfl zp (fun v _ h=>by exact⟨h.2.2.2.2.1.1,h.2.2.2.2.2.1,h.2.1,h.2.2.2.1,trivial⟩) rfl fun⟨q13,hq13⟩=>?_
        dsimp only
        have hb13:=Con.rightP_len (-1) _ (Ax.left x) (Nat.le_refl _) (by_ (-1) [(Con.atom (Ax.left x)),(Con.atom (Ax.right x))] ([]:List Pc))
        refine W_ (@List.perm_append_comm _ _ [_]) (Zz 7 ?_)
        refine aM_ (fC_ (kb:=kb) (bk:=bk) (bs:=bl) (frm:=(-1)) _ (Ax.right x) (Nat.le_refl _) hok.right fr (Con.rightP (-1) (Ax.left x) (by_ (-1) [(Con.atom (Ax.left x)),(Con.atom (Ax.right x))] ([]:List Pc))) q13 hq13 (by omega)) rfl rfl zp (fun v _ h=>by exact⟨h.2.2.2.2.1.2.1,h.2.2.2.2.2.1,h.2.1,h.2.2.1,trivial⟩) rfl fun⟨q14,hq14⟩=>?_
        dsimp only
        have hb14:=Con.leftP_len (-1) _ (Ax.right x) (Nat.le_refl _) (Con.rightP (-1) (Ax.left x) (by_ (-1) [(Con.atom (Ax.left x)),(Con.atom (Ax.right x))] ([]:List Pc)))
        refine W_ (@List.perm_append_comm _ _ [_]) (Zz 7 ?_)
        refine aM_ (hi_ (Con.atom (Ax.left x)) (Con.atom (Ax.right x))) rfl rfl f_ zt rfl fun _=>I_ ea_ eX_ dG_ rfl rfl rfl rfl rfl rfl fun b14=>Zi 7 (fun hr8=>?_) fun hr8=>?_
        · skip
          refine Zz 18 ?_
          refine ak_ (List.flatMap Fc.cells [(Fc.mk 1 (Con.atom (Ax.left x)) (Con.atom (Ax.right x)) [] 0 0)]) t_ rfl ?_
          refine cV_ hq14.row (C_ (C_ (C_ bh_))) fun adP cpP hsvP hcP1 hcP2=>?_
          have e:x.goalP=((Con.leftP (-1) (Ax.right x) (Con.rightP (-1) (Ax.left x) (by_ (-1) [(Con.atom (Ax.left x)),(Con.atom (Ax.right x))] ([]:List Pc)))),[(Fc.mk 1 (Con.atom (Ax.left x)) (Con.atom (Ax.right x)) [] 0 0)],0):=by
            unfold Ax.goalP;rw[if_neg (by omega)];repeat (first|rfl|(rw[if_pos (by omega)])|(rw[if_neg (by omega)]))
          have hy:x.goalP.1.length≤cpP∧cpP≤maxLen∧x.goalP.2.1.length≤1∧1≤maxLen∧(adP=none→cpP=0):=by rw[e];exact⟨hcP1,hcP2,by simp,by decide,aG_.nilcap hq14.row hsvP⟩
          have hz:Value.tuple #[q14.sv,.slice (some ⟨b14,0,none⟩) 1 1,.int .i64 0]=.tuple #[.slice adP x.goalP.1.length cpP,.slice (some ⟨b14,0,none⟩) x.goalP.2.1.length 1,.int .i64 x.goalP.2.2]:=by
            rw[e,hsvP]<;>rfl
          have hw1:List.flatMap Pc.cells (Con.leftP (-1) (Ax.right x) (Con.rightP (-1) (Ax.left x) (by_ (-1) [(Con.atom (Ax.left x)),(Con.atom (Ax.right x))] ([]:List Pc))))=x.goalP.1.flatMap Pc.cells:=by rw[e]
          have hw2:List.flatMap Fc.cells [(Fc.mk 1 (Con.atom (Ax.left x)) (Con.atom (Ax.right x)) [] 0 0)]=x.goalP.2.1.flatMap Fc.cells:=by rw[e]
          exact ir_ et_ ⟨(adP,cpP,(some ⟨b14,0,none⟩),1),hy⟩ rfl rfl rfl hz f_ (fun v _ h=>⟨hw1▸h.1,hw2▸h.2.1,trivial⟩)
        · skip
          obtain⟨fl,zl⟩:=Con.check_zero (G.left (by omega))
          obtain⟨fr,zr⟩:=Con.check_zero (G.right (by omega))
          refine Zz 8 ?_
          refine aM_ (eJ_ (kb:=kb) (bk:=bk) (bs:=br) (frm:=(-1)) _ (Ax.right x) (Nat.le_refl _) hok.right fr (Con.leftP (-1) (Ax.right x) (Con.rightP (-1) (Ax.left x) (by_ (-1) [(Con.atom (Ax.left x)),(Con.atom (Ax.right x))] ([]:List Pc)))) q14 hq14 (by omega)) rfl rfl zp (fun v _ h=>by exact⟨h.2.2.2.2.1.2.1,h.2.2.2.2.2.1,h.2.1,h.2.2.2.1,trivial⟩) rfl fun⟨q15,hq15⟩=>?_
          dsimp only
          have hb15:=Con.rightP_len (-1) _ (Ax.right x) (Nat.le_refl _) (Con.leftP (-1) (Ax.right x) (Con.rightP (-1) (Ax.left x) (by_ (-1) [(Con.atom (Ax.left x)),(Con.atom (Ax.right x))] ([]:List Pc))))
          refine W_ (@List.perm_append_comm _ _ [_,_]) (Zz 7 ?_)
          refine aM_ (fC_ (kb:=kb) (bk:=bk) (bs:=bl) (frm:=(-1)) _ (Ax.left x) (Nat.le_refl _) hok.left fl (Con.rightP (-1) (Ax.right x) (Con.leftP (-1) (Ax.right x) (Con.rightP (-1) (Ax.left x) (by_ (-1) [(Con.atom (Ax.left x)),(Con.atom (Ax.right x))] ([]:List Pc))))) q15 hq15 (by omega)) rfl rfl zp (fun v _ h=>by exact⟨h.2.2.2.2.1.1,h.2.2.2.2.2.1,h.2.1,h.2.2.1,trivial⟩) rfl fun⟨q16,hq16⟩=>?_
          dsimp only
          have hb16:=Con.leftP_len (-1) _ (Ax.left x) (Nat.le_refl _) (Con.rightP (-1) (Ax.right x) (Con.leftP (-1) (Ax.right x) (Con.rightP (-1) (Ax.left x) (by_ (-1) [(Con.atom (Ax.left x)),(Con.atom (Ax.right x))] ([]:List Pc)))))
          refine W_ (@List.perm_append_comm _ _ [_,_]) (Zz 7 ?_)
          refine aM_ (hi_ (Con.atom (Ax.right x)) (Con.atom (Ax.left x))) rfl rfl f_ zt rfl fun _=>I_ ea_ eX_ dG_ rfl rfl rfl rfl rfl rfl fun b15=>?_
          have hrow0:aG_ 67 6 (.slice (some ⟨b14,0,none⟩) 1 1) 1 (Fc.cells (Fc.mk 1 (Con.atom (Ax.left x)) (Con.atom (Ax.right x)) [] 0 0)) [(b14,.cells (Fc.cells (Fc.mk 1 (Con.atom (Ax.left x)) (Con.atom (Ax.right x)) [] 0 0)).toArray 67 (0,0))]:=⟨rfl,.inr ⟨b14,1,_,rfl,rfl,by decide,by decide,rfl,rfl⟩⟩
          refine aW_ (news:=Fc.cells (Fc.mk 1 (Con.atom (Ax.right x)) (Con.atom (Ax.left x)) [] 0 0)) eltF hrow0 rfl rfl zp rfl (bv_ 0 rfl) (cY_ rfl) (by decide) (by decide) rfl fun svF HrF hrowF=>?_
          obtain⟨gF,cpF,curF,rfl,rfl,hrF⟩:=hrowF.some (by decide)
          refine Zz 16 ?_
          refine cV_ hrowF t_ fun adF cpG hsvF hcF1 hcF2=>?_
          refine cV_ hq16.row (C_ (C_ (C_ (C_ bh_)))) fun adP cpP hsvP hcP1 hcP2=>?_
          have e:x.goalP=((Con.leftP (-1) (Ax.left x) (Con.rightP (-1) (Ax.right x) (Con.leftP (-1) (Ax.right x) (Con.rightP (-1) (Ax.left x) (by_ (-1) [(Con.atom (Ax.left x)),(Con.atom (Ax.right x))] ([]:List Pc)))))),[⟨1,x.left.atom,x.right.atom,[],0,0⟩,⟨1,x.right.atom,x.left.atom,[],0,0⟩],0):=by
            unfold Ax.goalP;rw[if_neg (by omega)];repeat (first|rfl|(rw[if_pos (by omega)])|(rw[if_neg (by omega)]))
          have hy:x.goalP.1.length≤cpP∧cpP≤maxLen∧x.goalP.2.1.length≤cpG∧cpG≤maxLen∧(adP=none→cpP=0):=by rw[e];exact⟨hcP1,hcP2,hcF1,hcF2,aG_.nilcap hq16.row hsvP⟩
          have hz:Value.tuple #[q16.sv,.slice (some ⟨gF,0,none⟩) 2 cpF,.int .i64 0]=.tuple #[.slice adP x.goalP.1.length cpP,.slice adF x.goalP.2.1.length cpG,.int .i64 x.goalP.2.2]:=by
            rw[e,hsvP];exact congrArg (fun z=>Value.tuple #[_,z,_]) hsvF
          have hw1:List.flatMap Pc.cells (Con.leftP (-1) (Ax.left x) (Con.rightP (-1) (Ax.right x) (Con.leftP (-1) (Ax.right x) (Con.rightP (-1) (Ax.left x) (by_ (-1) [(Con.atom (Ax.left x)),(Con.atom (Ax.right x))] ([]:List Pc))))))=x.goalP.1.flatMap Pc.cells:=by rw[e]
          have hw2:List.flatMap Fc.cells [⟨1,x.left.atom,x.right.atom,[],0,0⟩,⟨1,x.right.atom,x.left.atom,[],0,0⟩]=x.goalP.2.1.flatMap Fc.cells:=by rw[e]
          exact ir_ et_ ⟨(adP,cpP,adF,cpG),hy⟩ rfl rfl rfl hz f_ (fun v _ h=>⟨hw1▸h.1,hw2▸h.2.1,trivial⟩)
    · skip
      obtain⟨fl,zl⟩:=Con.check_zero (G.left (by omega))
      obtain⟨fr,zr⟩:=Con.check_zero (G.right (by omega))
      refine Zz 9 ?_
      refine U_ 4 [0,1,3,4] zk zs (Zz 5 ?_)
      refine u_ 2 rfl zk (i_ (cg_ (Ax.left x) hok.left) rfl f_ (fun v _ h=>by exact⟨h.2.2.2.1.1,h.2.2.2.2.1,trivial⟩) rfl fun _=>Zz 3 ?_)
      refine u_ 5 rfl zk (i_ (cg_ (Ax.right x) hok.right) rfl f_ (fun v _ h=>by exact⟨h.2.2.2.1.2.1,h.2.2.2.2.1,trivial⟩) rfl fun _=>Zz 3 ?_)
      refine U_ 0 [6,7] zk zs (Zz 10 ?_)
      refine I_ D_ O_ aR_ rfl rfl rfl rfl rfl rfl fun b16=>?_
      refine ak_ (List.flatMap aH_ [(Con.atom (Ax.left x)),(Con.atom (Ax.right x))]) t_ rfl ?_
      refine i_ (fi_ [(Con.atom (Ax.left x)),(Con.atom (Ax.right x))] (some ⟨b16,0,none⟩) 2 (-1) ([]:List Pc) ⟨.slice none 0 0,bm0,#[],0,[]⟩ ⟨aG_.nil _ _,rfl,by simp⟩ (by simp) (by simp only[List.length_cons,List.length_nil];omega)) rfl zp zf rfl fun⟨q17,hq17⟩=>?_
      dsimp only
      have hb17:=em_ (-1) [(Con.atom (Ax.left x)),(Con.atom (Ax.right x))] ([]:List Pc)
      refine W_ (@List.perm_append_comm _ _ [_]) ?_
      simp only[List.length_cons,List.length_nil]at hb17
      refine Zz 7 ?_
      refine aM_ (eJ_ (kb:=kb) (bk:=bk) (bs:=br) (frm:=(-1)) _ (Ax.left x) (Nat.le_refl _) hok.left fl (by_ (-1) [(Con.atom (Ax.left x)),(Con.atom (Ax.right x))] ([]:List Pc)) q17 hq17 (by omega)) rfl rfl zp (fun v _ h=>by exact⟨h.2.2.2.2.1.1,h.2.2.2.2.2.1,h.2.1,h.2.2.2.1,trivial⟩) rfl fun⟨q18,hq18⟩=>?_
      dsimp only
      have hb18:=Con.rightP_len (-1) _ (Ax.left x) (Nat.le_refl _) (by_ (-1) [(Con.atom (Ax.left x)),(Con.atom (Ax.right x))] ([]:List Pc))
      refine W_ (@List.perm_append_comm _ _ [_]) (Zz 7 ?_)
      refine aM_ (fC_ (kb:=kb) (bk:=bk) (bs:=bl) (frm:=(-1)) _ (Ax.right x) (Nat.le_refl _) hok.right fr (Con.rightP (-1) (Ax.left x) (by_ (-1) [(Con.atom (Ax.left x)),(Con.atom (Ax.right x))] ([]:List Pc))) q18 hq18 (by omega)) rfl rfl zp (fun v _ h=>by exact⟨h.2.2.2.2.1.2.1,h.2.2.2.2.2.1,h.2.1,h.2.2.1,trivial⟩) rfl fun⟨q19,hq19⟩=>?_
      dsimp only
      have hb19:=Con.leftP_len (-1) _ (Ax.right x) (Nat.le_refl _) (Con.rightP (-1) (Ax.left x) (by_ (-1) [(Con.atom (Ax.left x)),(Con.atom (Ax.right x))] ([]:List Pc)))
      refine W_ (@List.perm_append_comm _ _ [_]) (Zz 7 ?_)
      refine aM_ (hi_ (Con.atom (Ax.left x)) (Con.atom (Ax.right x))) rfl rfl f_ zt rfl fun _=>I_ ea_ eX_ dG_ rfl rfl rfl rfl rfl rfl fun b17=>Zi 7 (fun hr9=>?_) fun hr9=>?_
      · skip
        refine Zz 18 ?_
        refine ak_ (List.flatMap Fc.cells [(Fc.mk 1 (Con.atom (Ax.left x)) (Con.atom (Ax.right x)) [] 0 0)]) t_ rfl ?_
        refine cV_ hq19.row (C_ (C_ (C_ bh_))) fun adP cpP hsvP hcP1 hcP2=>?_
        have e:x.goalP=((Con.leftP (-1) (Ax.right x) (Con.rightP (-1) (Ax.left x) (by_ (-1) [(Con.atom (Ax.left x)),(Con.atom (Ax.right x))] ([]:List Pc)))),[(Fc.mk 1 (Con.atom (Ax.left x)) (Con.atom (Ax.right x)) [] 0 0)],0):=by
          unfold Ax.goalP;rw[if_neg (by omega)];repeat (first|rfl|(rw[if_pos (by omega)])|(rw[if_neg (by omega)]))
        have hy:x.goalP.1.length≤cpP∧cpP≤maxLen∧x.goalP.2.1.length≤1∧1≤maxLen∧(adP=none→cpP=0):=by rw[e];exact⟨hcP1,hcP2,by simp,by decide,aG_.nilcap hq19.row hsvP⟩
        have hz:Value.tuple #[q19.sv,.slice (some ⟨b17,0,none⟩) 1 1,.int .i64 0]=.tuple #[.slice adP x.goalP.1.length cpP,.slice (some ⟨b17,0,none⟩) x.goalP.2.1.length 1,.int .i64 x.goalP.2.2]:=by
          rw[e,hsvP]<;>rfl
        have hw1:List.flatMap Pc.cells (Con.leftP (-1) (Ax.right x) (Con.rightP (-1) (Ax.left x) (by_ (-1) [(Con.atom (Ax.left x)),(Con.atom (Ax.right x))] ([]:List Pc))))=x.goalP.1.flatMap Pc.cells:=by rw[e]
        have hw2:List.flatMap Fc.cells [(Fc.mk 1 (Con.atom (Ax.left x)) (Con.atom (Ax.right x)) [] 0 0)]=x.goalP.2.1.flatMap Fc.cells:=by rw[e]
        exact ir_ et_ ⟨(adP,cpP,(some ⟨b17,0,none⟩),1),hy⟩ rfl rfl rfl hz f_ (fun v _ h=>⟨hw1▸h.1,hw2▸h.2.1,trivial⟩)
      · skip
        exfalso;omega
  · skip
    refine Zz 12 ?_
    have e:x.goalP=([],[],(Ax.check x)):=by unfold Ax.goalP;rw[if_pos (by assumption)]
    have hy:x.goalP.1.length≤0∧0≤maxLen∧x.goalP.2.1.length≤0∧0≤maxLen∧((none:Option Addr)=none→0=0):=by rw[e];simp
    have hz:Value.tuple #[.slice none 0 0,.slice none 0 0,.int .i64 (Ax.check x)]=.tuple #[.slice none x.goalP.1.length 0,.slice none x.goalP.2.1.length 0,.int .i64 x.goalP.2.2]:=by rw[e]<;>rfl
    have hw1:x.goalP.1.flatMap Pc.cells=[]:=by rw[e];rfl
    have hw2:x.goalP.2.1.flatMap Fc.cells=[]:=by rw[e];rfl
    exact ir_ et_ ⟨(none,0,none,0),hy⟩ rfl rfl rfl hz f_ (fun v _ h=>⟨.inl hw1,.inl hw2,trivial⟩)
end Go.Proofs.YtamklbgaipakfaaGreatDoor
namespace Go.Vs
open Go Go.Sx
def vw (W:World):Vw:=⟨fun b=>b<W.heap.size,W,True⟩
theorem vw_sat (W:World):(vw W).sat []:=⟨(fun _ h=>by cases h),(by simp),fun _ h=>h⟩
section
variable {H:Type} {enc:TypeId×Value→H} {P:Program} {W:World}
abbrev wok (l:List Nat):Prop:=l.all (·≤reachBytes)=true
theorem fj_ {a b:List Nat}:wok (a++b)↔wok a∧wok b:=by simp[wok,List.all_append]
theorem qd_ {n:Nat} {b:List Nat}:wok (n::b)↔n≤reachBytes∧wok b:=by simp[wok]
theorem qe_ {e:TypeId}:∀ {ds:List (DataW H)},wok (DataW.weightsAll P e ds)→∀ d∈ds,wok (d.weights P e)
 | [],_,_,h=>by cases h
 | x::ds,hw,d,hd=>by
   rw[DataW.weightsAll,fj_]at hw
   rcases List.mem_cons.1 hd with rfl|hd
   · exact hw.1
   · exact qe_ hw.2 d hd
theorem lj_ {α:Type} [Inhabited α] (f:α→List Value) (k:Nat) (hk:∀ x,(f x).length=k) (hk0:0<k) (Q:α→Prop) {ts te:TypeId} (hs:P.underlying ts=some (.slice te)) (hc:P.cellsOf te=k) {n:Nat} {cs:List Value} {x:DataW H×List MemPlace}
    (hread:∀ m,m<n→∀ cs' y,DataW.trod enc P W 0 (fun _=>true) true m te cs'=some y→wok (y.1.weights P te)→∃ c,cs'=f c∧Q c)
    (h:DataW.trod enc P W 0 (fun _=>true) true n ts cs=some x) (hw:wok (x.1.weights P ts)) :
    ∃ (l:List α) (ad:Option Addr) (cap:Nat),cs=[.slice ad l.length cap]∧bN_ (vw W) ad (l.flatMap f)∧(∀ c∈l,Q c)∧l.length≤cap∧cap*P.bytesOf te≤reachBytes:=by
  rcases DataW.trod_slice hs h with⟨h0,_⟩|⟨a,len,cap,elems,rest,m,hn,rfl,rfl,_,hl,_,hlen,hel,hsp,_⟩
  · exact⟨[],none,0,h0,.inl rfl,(fun _ h=>by cases h),Nat.le_refl _,by simp⟩
  · obtain⟨hr,_⟩:=hsp rfl
    simp only[DataW.weights,hs,qd_,fj_,List.length_map]at hw
    have hcap:cap*P.bytesOf te≤reachBytes:=by
      have e:elems.length+rest.length=cap:=by omega
      rw[← e];exact hw.1
    have hone:∀ i,i<len→∃ c:α,W.cells? 0 (a.add (i*k)) k=some (f c)∧Q c:=fun i hi=>by
      have he:=hel i hi
      rw[hc,List.getElem?_eq_getElem (by omega)]at he
      obtain⟨cs',h1,h2⟩:=Option.bind_eq_some_iff.1 he
      obtain⟨c,rfl,hq⟩:=hread m (by omega) cs' _ h2 (qe_ hw.2.1 _ (List.mem_map_of_mem (List.getElem_mem (by omega))))
      exact⟨c,h1,hq⟩
    obtain⟨C,hC⟩:=Deep.choose_lt hone
    refine⟨(List.range len).map C,some a,cap,by simp,?_,?_,by simpa using hl,hcap⟩
    · by_cases h0:len=0
      · left;simp[h0]
      · have h1:=(hC 0 (by omega)).1
        obtain⟨_,_,hcell⟩:=World.cells?_some h1
        have hc0:=hcell 0 hk0
        have hlt:0<(f (C 0)).length:=by rw[hk];exact hk0
        rw[List.getElem?_eq_getElem hlt]at hc0
        cases hb:W.heap[a.block]? with
        | none=>simp[World.cell?,Addr.add,hb]at hc0
        | some o =>
          cases o with
          | cells arr T fz =>
            have hspot:a.spot=none:=by
              cases hsp2:a.spot with
              | none=>rfl
              | some s=>simp[World.cell?,Addr.add,hb,hsp2]at hc0
            obtain⟨b,off,sp⟩:=a
            simp only at hspot hb
            subst hspot
            right
            refine⟨b,off,arr,T,fz,rfl,(Array.getElem?_eq_some_iff.1 hb).1,hb,fun j y hj=>?_⟩
            have hjlt:j<len*k:=by
              have:=(List.getElem?_eq_some_iff.1 hj).1
              rw[dR_ f k hk]at this
              simpa using this
            have hi:j / k<len:=Nat.div_lt_of_lt_mul (by rw[Nat.mul_comm];exact hjlt)
            have hr':j%k<k:=Nat.mod_lt _ hk0
            have e:j=(j / k)*k+j%k:=by rw[Nat.mul_comm];exact (Nat.div_add_mod j k).symm
            have hget:((List.range len).map C)[j / k]? = some (C (j / k)):=by simp[hi]
            rw[e,jO_ f k hk _ (j / k) (j%k) _ hget hr']at hj
            obtain⟨_,_,hcell⟩:=World.cells?_some (hC (j / k) hi).1
            have:=hcell (j%k) hr'
            rw[hj,cX_,cX_]at this
            rw[e]
            simpa [World.cell?,hb,Nat.add_assoc] using this
          | _=>simp[World.cell?,Addr.add,hb]at hc0
    · intro c hc'
      obtain⟨i,hi,rfl⟩:=List.mem_map.1 hc'
      exact (hC i (by simpa using hi)).2
end
instance:Inhabited Con:=⟨.mk 0 [] 0 0 none 0 []⟩
instance:Inhabited Ax:=⟨⟨0,false,default,default,none,0,[],[],[],[]⟩⟩
instance:Inhabited Pc:=⟨⟨0,[],[],[],[],[],[],0,0,0⟩⟩
structure Tys (P:Program) (tI tB tS tSs tC tCs tA tAs tP tPs:TypeId):Prop where
  i:P.underlying tI=some (.int .i64)
  b:P.underlying tB=some .bool
  s:P.underlying tS=some .string
  ss:P.underlying tSs=some (.slice tS)
  c:∃ fs,P.underlying tC=some (.struct fs)∧fs.toList.map (fun f=>(f.type,f.offset))=[(tI,0),(tS,1),(tI,2),(tI,3),(tCs,4)]
  cs:P.underlying tCs=some (.slice tC)
  a:∃ fs,P.underlying tA=some (.struct fs)∧fs.toList.map (fun f=>(f.type,f.offset))=[(tI,0),(tB,1),(tC,2),(tC,7),(tSs,12),(tS,13),(tS,14),(tS,15)]
  axs:P.underlying tAs=some (.slice tA)
  p:∃ fs,P.underlying tP=some (.struct fs)∧fs.toList.map (fun f=>(f.type,f.offset))=[(tI,0),(tS,1),(tS,2),(tS,3),(tS,4),(tS,5),(tS,6),(tI,7),(tI,8),(tI,9)]
  ps:P.underlying tPs=some (.slice tP)
  ci:P.cellsOf tI=1
  cb:P.cellsOf tB=1
  cs1:P.cellsOf tS=1
  css:P.cellsOf tSs=1
  cc:P.cellsOf tC=5
  ccs:P.cellsOf tCs=1
  ca:P.cellsOf tA=16
  cp:P.cellsOf tP=10
  bs:P.bytesOf tS=16
  bc:P.bytesOf tC=64
  ba:P.bytesOf tA=216
  bp:P.bytesOf tP=128
section
variable {H:Type} {enc:TypeId×Value→H} {P:Program} {W:World} {tI tB tS tSs tC tCs tA tAs tP tPs:TypeId} (X:Tys P tI tB tS tSs tC tCs tA tAs tP tPs)
theorem fields_of {t:TypeId} {fs:Array Field} {L:List (TypeId×Nat)} {cs:List Value} {n:Nat} {x:DataW H×List MemPlace} (ht:P.underlying t=some (.struct fs)) (hL:fs.toList.map (fun f=>(f.type,f.offset))=L) (h:DataW.trod enc P W 0 (fun _=>true) true n t cs=some x) :
    ∃ (xs:List (DataW H×List MemPlace)) (m:Nat),n=m+1∧x.1=.agg (xs.map (·.1))∧cs.length=P.cellsOf t∧xs.length=L.length∧(∀ (i:Nat) q,L[i]? = some q→DataW.trod enc P W 0 (fun _=>true) true m q.1 ((cs.drop q.2).take (P.cellsOf q.1))=xs[i]?) ∧
      (x.1.weights P t=DataW.weightsEach P (L.map (·.1)) (xs.map (·.1))):=by
  obtain⟨xs,m,hn,hx,hl,hlen,hf⟩:=DataW.trod_struct ht h
  refine⟨xs,m,hn,by rw[hx],hl,by rw[hlen,← hL];simp,fun i q hq=>?_,?_⟩
  · rw[← hL,List.getElem?_map,Option.map_eq_some_iff]at hq
    obtain⟨f,hf',rfl⟩:=hq
    exact hf i f (by simpa using hf')
  · rw[hx];simp only[DataW.weights,ht]
    congr 1
    rw[← hL,List.map_map];rfl
include X
theorem lB_ {n:Nat} {cs:List Value} {x:DataW H×List MemPlace} (h:DataW.trod enc P W 0 (fun _=>true) true n tI cs=some x):∃ k:Int,cs=[.int .i64 k]∧-9223372036854775808≤k∧k≤9223372036854775807:=by
  obtain⟨k,h1,_,h3⟩:=DataW.trod_int X.i h
  have:=bounds_i64 h3
  exact⟨k,h1,this.1,this.2⟩
theorem sy_ {n:Nat} {cs:List Value} {x:DataW H×List MemPlace} (h:DataW.trod enc P W 0 (fun _=>true) true n tB cs=some x):∃ b:Bool,cs=[.bool b]:=by
  obtain⟨b,h1,_⟩:=DataW.trod_bool X.b h
  exact⟨b,h1⟩
theorem str_of {n:Nat} {cs:List Value} {x:DataW H×List MemPlace} (h:DataW.trod enc P W 0 (fun _=>true) true n tS cs=some x) (hw:wok (x.1.weights P tS)):∃ s:Str,cs=[str s]∧s.length≤140737488351232:=by
  obtain⟨s,h1,h2,_⟩:=DataW.trod_string X.s h
  rw[h2]at hw
  simp[wok,DataW.weights,reachBytes]at hw
  refine⟨s.data.toList,by rw[h1];rfl,by have:=of_decide_eq_true hw;simpa using this⟩
theorem rq_:∀ (n:Nat) (cs:List Value) (x:DataW H×List MemPlace),DataW.trod enc P W 0 (fun _=>true) true n tC cs=some x→wok (x.1.weights P tC)→∃ c:Con,cs=c.cells∧c.mem (vw W)∧c.ok:=by
 intro n
 induction n using Nat.strongRecOn with
 | ind n ih =>
   intro cs x h hw
   obtain⟨fs,hu,hL⟩:=X.c
   obtain⟨xs,m,hn,hx,hl,hlen,hf,hwe⟩:=fields_of hu hL h
   rw[hwe]at hw
   match xs,hlen with
   | [x0,x1,x2,x3,x4],_ =>
   simp only[List.map_cons,List.map_nil,DataW.weightsEach,fj_]at hw
   have f0:=hf 0 _ rfl;have f1:=hf 1 _ rfl;have f2:=hf 2 _ rfl;have f3:=hf 3 _ rfl;have f4:=hf 4 _ rfl
   simp only[List.getElem?_cons_zero,List.getElem?_cons_succ,X.ci,X.cs1,X.ccs]at f0 f1 f2 f3 f4
   obtain⟨k,e0,k1,k2⟩:=lB_ X f0
   obtain⟨nm,e1,n1⟩:=str_of X f1 hw.2.1
   obtain⟨lo,e2,l1,l2⟩:=lB_ X f2
   obtain⟨hi,e3,h1,h2⟩:=lB_ X f3
   obtain⟨l,ad,cap,e4,hrow,hq,hlc,hcap⟩:=lj_ Con.cells 5 Con.cells_len (by decide) (fun c=>c.mem (vw W)∧c.ok) X.cs X.cc (fun m' hm' cs' y hy hwy=>by
     obtain⟨c,g1,g2,g3⟩:=ih m' (by omega) cs' y hy hwy
     exact⟨c,g1,g2,g3⟩) f4 hw.2.2.2.2.1
   rw[X.cc]at hl
   match cs,hl with
   | [c0,c1,c2,c3,c4],_ =>
   simp only[List.drop_succ_cons,List.drop_zero,List.take_succ_cons,List.take_zero,List.cons.injEq,and_true]at e0 e1 e2 e3 e4
   subst e0 e1 e2 e3 e4
   refine⟨.mk k nm lo hi ad cap l,rfl,?_,k1,k2,n1,l1,l2,h1,h2,hlc,?_,Con.oks_iff.2 fun p hp=>(hq p hp).2⟩
   · rw[Con.mem_iff];exact⟨hrow,fun p hp=>(hq p hp).1⟩
   · rw[X.bc]at hcap;simp only[reachBytes]at hcap;omega
theorem or_ {n:Nat} {cs:List Value} {x:DataW H×List MemPlace} (h:DataW.trod enc P W 0 (fun _=>true) true n tSs cs=some x) (hw:wok (x.1.weights P tSs)) :
    ∃ (l:List Str) (ad:Option Addr) (cap:Nat),cs=[.slice ad l.length cap]∧bN_ (vw W) ad (l.flatMap aH_)∧(∀ s∈l,s.length≤140737488351232)∧l.length≤cap∧cap≤8796093021952:=by
  obtain⟨l,ad,cap,e,hrow,hq,hlc,hcap⟩:=lj_ aH_ 1 av_ (by decide) (fun s=>s.length≤140737488351232) X.ss X.cs1 (fun m' _ cs' y hy hwy=>by
    obtain⟨s,g1,g2⟩:=str_of X hy hwy
    exact⟨s,g1,g2⟩) h hw
  rw[X.bs]at hcap;simp only[reachBytes]at hcap
  exact⟨l,ad,cap,e,hrow,hq,hlc,by omega⟩
theorem ax_of {n:Nat} {cs:List Value} {x:DataW H×List MemPlace} (h:DataW.trod enc P W 0 (fun _=>true) true n tA cs=some x) (hw:wok (x.1.weights P tA)):∃ a:Ax,cs=a.cells∧a.mem (vw W)∧a.ok:=by
  obtain⟨fs,hu,hL⟩:=X.a
  obtain⟨xs,m,hn,hx,hl,hlen,hf,hwe⟩:=fields_of hu hL h
  rw[hwe]at hw
  match xs,hlen with
  | [x0,x1,x2,x3,x4,x5,x6,x7],_ =>
  simp only[List.map_cons,List.map_nil,DataW.weightsEach,fj_]at hw
  have f0:=hf 0 _ rfl;have f1:=hf 1 _ rfl;have f2:=hf 2 _ rfl;have f3:=hf 3 _ rfl;have f4:=hf 4 _ rfl;have f5:=hf 5 _ rfl;have f6:=hf 6 _ rfl;have f7:=hf 7 _ rfl
  simp only[List.getElem?_cons_zero,List.getElem?_cons_succ,X.ci,X.cb,X.cs1,X.cc,X.css]at f0 f1 f2 f3 f4 f5 f6 f7
  obtain⟨k,e0,k1,k2⟩:=lB_ X f0
  obtain⟨op,e1⟩:=sy_ X f1
  obtain⟨le,e2,m2,o2⟩:=rq_ X _ _ _ f2 hw.2.2.1
  obtain⟨ri,e3,m3,o3⟩:=rq_ X _ _ _ f3 hw.2.2.2.1
  obtain⟨rs,ad,cap,e4,hrow,hq,hlc,hcap⟩:=or_ X f4 hw.2.2.2.2.1
  obtain⟨ro,e5,n5⟩:=str_of X f5 hw.2.2.2.2.2.1
  obtain⟨a,e6,n6⟩:=str_of X f6 hw.2.2.2.2.2.2.1
  obtain⟨b,e7,n7⟩:=str_of X f7 hw.2.2.2.2.2.2.2.1
  rw[X.ca]at hl
  match cs,hl with
  | [c0,c1,c2,c3,c4,c5,c6,c7,c8,c9,c10,c11,c12,c13,c14,c15],_ =>
  simp only[List.drop_succ_cons,List.drop_zero,List.take_succ_cons,List.take_zero,List.cons.injEq,and_true,Con.cells]at e0 e1 e2 e3 e4 e5 e6 e7
  obtain⟨rfl,rfl,rfl,rfl,rfl⟩:=e2
  obtain⟨rfl,rfl,rfl,rfl,rfl⟩:=e3
  subst e0 e1 e4 e5 e6 e7
  exact⟨⟨k,op,le,ri,ad,cap,rs,ro,a,b⟩,rfl,⟨m2,m3,hrow⟩,⟨k1,k2,o2,o3,hlc,Nat.le_trans hlc hcap,hq,n5,n6,n7⟩⟩
theorem axs_of {n:Nat} {cs:List Value} {x:DataW H×List MemPlace} (h:DataW.trod enc P W 0 (fun _=>true) true n tAs cs=some x) (hw:wok (x.1.weights P tAs)) :
    ∃ (l:List Ax) (ad:Option Addr) (cap:Nat),cs=[.slice ad l.length cap]∧(cH_ ad l).p (vw W)∧(∀ y∈l,y.ok)∧l.length≤cap∧cap≤2199023255488:=by
  obtain⟨l,ad,cap,e,hrow,hq,hlc,hcap⟩:=lj_ Ax.cells 16 Ax.cells_len (by decide) (fun a=>a.mem (vw W)∧a.ok) X.axs X.ca (fun m' _ cs' y hy hwy=>by
    obtain⟨a,g1,g2,g3⟩:=ax_of X hy hwy
    exact⟨a,g1,g2,g3⟩) h hw
  rw[X.ba]at hcap;simp only[reachBytes]at hcap
  exact⟨l,ad,cap,e,⟨hrow,fun y hy=>(hq y hy).1⟩,fun y hy=>(hq y hy).2,hlc,by omega⟩
end
end Go.Vs
namespace Go.Vs
open Go Go.Sx Go.ChangeShapes Go.WideShapes Go.ChangeAt Go.RowKit
section
variable {H:Type} {enc:TypeId×Value→H} {P:Program} {w:World}
mutual
def eZ_ {H:Type}:DataW H→List Value
  | .lit (.int k n)=>[.int k n]
  | .lit (.bool b)=>[.bool b]
  | .agg ps=>hU_ ps
  | _=>[]
def hU_ {H:Type}:List (DataW H)→List Value
  | []=>[]
  | d::r=>eZ_ d++hU_ r
end
def gi_ (P:Program):Nat→TypeId→Bool
  | 0,_=>false
  | n+1,t=>match P.underlying t with
    | some .bool=>true
    | some (.int _)=>true
    | some (.struct fs)=>fs.toList.all fun f=>gi_ P n f.type
    | some (.array _ e)=>gi_ P n e
    | _=>false
theorem hy_:∀ l:List (DataW H),hU_ l=l.flatMap eZ_
  | []=>by simp[hU_]
  | d::r=>by simp only[hU_,hy_ r,List.flatMap_cons]
theorem tile:∀ (ls:List Nat) (cs:List Value) (g:List (List Value)),cs.length=ls.sum→g.length=ls.length→(∀ j n,ls[j]? = some n→some ((cs.drop (ls.take j).sum).take n)=g[j]?)→cs=g.flatten
  | [],cs,g,h,hg,_=>by
    simp only[List.sum_nil]at h
    have h1:=List.eq_nil_of_length_eq_zero h
    have h2:g=[]:=List.eq_nil_of_length_eq_zero hg
    simp[h1,h2]
  | n::ls,cs,[],h,hg,hp=>by simp at hg
  | n::ls,cs,x::g,h,hg,hp=>by
    have h0:=hp 0 n rfl
    simp only[List.take_zero,List.sum_nil,List.drop_zero,List.getElem?_cons_zero,Option.some.injEq]at h0
    have ih:=tile ls (cs.drop n) g (by rw[List.length_drop,h];simp) (by simpa using hg) (fun j m hj=>by
      have:=hp (j+1) m hj
      simp only[List.take_succ_cons,List.sum_cons,List.getElem?_cons_succ]at this
      rw[← this,List.drop_drop])
    rw[List.flatten_cons,← ih,← h0,List.take_append_drop]
theorem qC_ {T:TypeId→Prop} {held:Bool} (K:Kids P T):∀ (n m:Nat) (t:TypeId) (cs:List Value) (x:DataW H×List MemPlace),T t→gi_ P m t=true→DataW.trod enc P w 0 (fun _=>true) held n t cs=some x→cs=eZ_ x.1:=by
 intro n
 induction n with
 | zero=>intro m t cs x _ _ h;simp[DataW.trod]at h
 | succ n ih =>
   intro m t cs x hT hb h
   cases m with
   | zero=>simp[gi_]at hb
   | succ m =>
   cases hu:P.underlying t with
   | none=>simp[gi_,hu]at hb
   | some d =>
     cases d with
     | bool=>obtain⟨b,rfl,rfl⟩:=DataW.trod_bool hu h;simp[eZ_]
     | int k=>obtain⟨b,rfl,rfl,_⟩:=DataW.trod_int hu h;simp[eZ_]
     | struct fs =>
       obtain⟨xs,m',hn,rfl,hl,hlen,hf⟩:=DataW.trod_struct hu h
       obtain rfl:m'=n:=by omega
       obtain⟨k1,k2,k3⟩:=K.struct hT hu
       simp only[gi_,hu]at hb
       simp only[eZ_]
       rw[hy_,List.flatMap_def,List.map_map]
       refine tile (fs.toList.map fun f=>P.cellsOf f.type) cs _ (by rw[hl,k2]) (by simp[hlen]) fun j q hq=>?_
       rw[List.getElem?_map,Option.map_eq_some_iff]at hq
       obtain⟨f,hf',rfl⟩:=hq
       have h1:=hf j f (by simpa using hf')
       have h2:=k3 j f hf'
       have hj:j<xs.length:=by rw[hlen];have:=(List.getElem?_eq_some_iff.1 hf').1;simpa using this
       rw[List.getElem?_eq_getElem hj]at h1
       have h3:=ih m f.type _ _ (k1 f (List.mem_of_getElem? hf')) (List.all_eq_true.1 hb f (List.mem_of_getElem? hf')) h1
       rw[List.getElem?_map,List.getElem?_eq_getElem hj,← List.map_take,← h2,h3]
       rfl
     | array len e =>
       obtain⟨xs,m',hn,rfl,hl,hlen,hf⟩:=DataW.trod_array hu h
       obtain rfl:m'=n:=by omega
       obtain⟨k1,k2⟩:=K.array hT hu
       simp only[gi_,hu]at hb
       simp only[eZ_]
       rw[hy_,List.flatMap_def,List.map_map]
       refine tile (List.replicate len (P.cellsOf e)) cs _ (by rw[hl,k2];simp) (by simp[hlen]) fun j q hq=>?_
       rw[List.getElem?_replicate]at hq
       split at hq
       · rename_i hj
         simp only[Option.some.injEq]at hq
         subst hq
         have h1:=hf j hj
         have hjx:j<xs.length:=by omega
         rw[List.getElem?_eq_getElem hjx]at h1
         have h3:=ih m e _ _ k1 hb h1
         rw[List.getElem?_map,List.getElem?_eq_getElem hjx,List.take_replicate,List.sum_replicate_nat,Nat.min_eq_left (by omega),h3]
         rfl
       · cases hq
     | _=>simp[gi_,hu]at hb
end
section
variable {H:Type} {enc:TypeId×Value→H} {P:Program} {W W':World}
theorem hq_:∀ {ts:List TypeId} {vs:List Value} {ds:List (DataW H)} {ps:List MemPlace} {sp:Nat→Bool},DataW.TrodAll enc P W 0 sp true ts vs ds ps→(∀ p∈ps,W.sameAt W' p)→DataW.TrodAll enc P W' 0 sp true ts vs ds ps
  | [],[],[],_,_,h,_=>h
  | _::_,_::_,_::_,_,_,⟨p,q,⟨n,h1⟩,h2,e⟩,hs=>⟨p,q,⟨n,DataW.trod_carry n _ _ _ h1 (fun x hx=>hs x (by rw[e];exact List.mem_append_left _ hx))⟩,hq_ h2 (fun x hx=>hs x (by rw[e];exact List.mem_append_right _ hx)),e⟩
theorem qQ_ {T:TypeId→Prop} (K:Kids P T) (hz:∀ t e,T t→P.underlying t=some (.slice e)→0<P.cellsOf e) {f:Func} {s:ChangeSpec} {args:Array Value} {ds:List (DataW H)} {before:List MemPlace} {tb:TypeId} (hts:∀ t∈f.params.toList,T t) (hvars:s.vars=[])
    (hW:DataW.Whole enc P f.params.toList s.vars false W args.toList ds [] before) (hs:s.fn H (ds++[])={ results:=[.lit (.bool true)],args:=ds }) (hres:f.resultTypes=#[tb]) (hb:P.underlying tb=some .bool) {v':Vw} (hto:(vw W).to [] v' []) :
    s.post enc P f false true false false W args (.bool true) v'.w:=by
  have hW':=hW
  obtain⟨p,q,hA,hV,hp,_,_⟩:=hW
  have hq:q=[]:=by rw[hvars]at hV;exact hV
  subst hq
  simp only[List.append_nil]at hp
  subst hp
  have hblk:∀ b,b<W.heap.size→v'.w.heap[b]? = W.heap[b]? := fun b hb=>hto.block b hb (by simp)
  have hsame:∀ x∈before,W.sameAt v'.w x:=fun x hx=>by
    have hlt:=DataW.TrodAll.lt hA x hx
    cases x with
    | cell b off=>exact World.cell?_of_block (hblk b hlt)
    | map b=>exact hblk b hlt
  have hA':=hq_ hA hsame
  have hA'':=DataW.TrodAll.respare K hz (spare':=fun b=>decide (b<W.heap.size)) hts hA' (fun x hx=>by simpa using DataW.TrodAll.lt hA x hx)
  refine⟨ds,[],before,[],before,[],hW',?_,?_,?_,⟨hto.os,hto.output,fun i hi=>?_⟩,fun h=>by cases h⟩
  · rw[hs,hres];exact trodAll_mk1 (shut_bool hb true)
  · rw[hs];exact hA''
  · rw[hs,hvars];rfl
  · rw[hblk i hi]
    have hsome:∃ o,W.heap[i]? = some o:=⟨_,Array.getElem?_eq_getElem hi⟩
    obtain⟨o,ho⟩:=hsome
    rw[ho]
    cases o<;>simp
section
variable {tI tB tS tSs tC tCs tA tAs tP tPs:TypeId} (X:Tys P tI tB tS tSs tC tCs tA tAs tP tPs) {base:Nat} {v:Value} {d:DataW H} {ps:List MemPlace}
include X
theorem sC_ (hval:Value.okWide P W .any base tAs v) (h:DataW.Trod enc P W 0 (fun _=>true) true tAs v d ps) (hw:wok (d.weights P tAs)) :
    ∃ (l:List Ax) (ad:Option Addr) (cap:Nat),v=.slice ad l.length cap∧(cH_ ad l).p (vw W)∧(∀ y∈l,y.ok)∧l.length≤cap∧cap≤2199023255488:=by
  obtain⟨a,len,cap,rfl⟩:=okWide_slice X.axs hval
  obtain⟨n,hn⟩:=h
  obtain⟨l,ad,cap',e,h1⟩:=axs_of X hn hw
  simp only[Value.cells,List.cons.injEq,and_true]at e
  exact⟨l,ad,cap',e,h1⟩
theorem ru_ (hval:Value.okWide P W .any base tSs v) (h:DataW.Trod enc P W 0 (fun _=>true) true tSs v d ps) (hw:wok (d.weights P tSs)) :
    ∃ (l:List Str) (ad:Option Addr) (cap:Nat),v=.slice ad l.length cap∧bN_ (vw W) ad (l.flatMap aH_)∧(∀ s∈l,s.length≤140737488351232)∧l.length≤cap∧cap≤8796093021952:=by
  obtain⟨a,len,cap,rfl⟩:=okWide_slice X.ss hval
  obtain⟨n,hn⟩:=h
  obtain⟨l,ad,cap',e,h1⟩:=or_ X hn hw
  simp only[Value.cells,List.cons.injEq,and_true]at e
  exact⟨l,ad,cap',e,h1⟩
end
theorem ji_ {T:TypeId→Prop} (K:Kids P T) {name:String} {d:DataW Unit} {laid:List (String×DataW Unit)} {W:World} (h:laidMet P laid W) (hm:(name,d)∈laid) {g:Nat} {t:TypeId} (hg:P.globalNamed name=some g) (ht':(P.globals[g]?).map (·.type)=some t) (hT:T t) {m:Nat} (hb:gi_ P m t=true) :
    ∃ T' fz,W.heap[g]? = some (.cells (eZ_ d).toArray T' fz):=by
  obtain⟨ps,hl,_,_⟩:=h
  have key:∀ (l:List (String×DataW Unit)) (ps:List MemPlace),DataW.LaidVars P W l ps→(name,d)∈l→∃ g t cs n p,P.globalNamed name=some g∧(P.globals[g]?).map (·.type)=some t∧W.var? P name=some cs∧DataW.trod (fun _=>()) P W 0 (fun _=>true) false n t cs.toList=some (d,p):=by
    intro l
    induction l with
    | nil=>intro ps _ h;cases h
    | cons x r ih =>
      intro ps h hm
      obtain⟨n',d'⟩:=x
      obtain⟨g,t,cs,fuel,p,q,h1,h2,h3,h4,h5,_⟩:=h
      rcases List.mem_cons.1 hm with e|hm
      · cases e;exact⟨g,t,cs,fuel,p,h1,h2,h3,h4⟩
      · exact ih q h5 hm
  obtain⟨g',t',cs,n,p,h1,h2,h3,h4⟩:=key laid ps hl hm
  obtain rfl:g'=g:=Option.some.inj (h1.symm.trans hg)
  obtain rfl:t'=t:=Option.some.inj (h2.symm.trans ht')
  have e:=qC_ K n m t' cs.toList _ hT hb h4
  simp only[World.var?,hg,Option.bind_some]at h3
  split at h3
  · rename_i c T' fz hc
    simp only[Option.some.injEq]at h3
    subst h3
    exact⟨T',fz,by rw[hc,← e]⟩
  · cases h3
end
end Go.Vs
namespace Go.Proofs.YtamklbgaipakfaaGreatDoor
open Go Go.Sx Go.Proofs
attribute [local irreducible] Code.wp wpList wpAnyH
open Go.Vs
theorem kx_ (c:UInt8) :
    Fn0 Tryz.prog 262 #[.int .u8 (c.toNat:Int)] (.bool (cx_ c)):=by
  refine o_ Tryz.func262 rfl rfl Tryz.ntmps262 rfl fun v0=>?_
  refine Zi 8 (fun hr1=>?_) fun hr1=>?_
  · skip
    refine Zi 8 (fun hr2=>?_) fun hr2=>?_
    · skip
      refine Zz 11 ?_
      exact G_ oz_ () (l_ rfl (by subst_vars;rw[Bool.eq_iff_iff];simp[cx_]<;>omega)) (.refl _) zt
    · skip
      refine Zz 5 ?_
      refine s_ (du_ rfl rfl) rfl fun r3 hr3=>Zz 7 ?_
      exact G_ oz_ () (l_ rfl (by subst_vars;rw[Bool.eq_iff_iff];simp[cx_]<;>omega)) (.refl _) zt
  · skip
    refine Zi 4 (fun hr4=>?_) fun hr4=>?_
    · skip
      refine Zi 5 (fun hr5=>?_) fun hr5=>?_
      · skip
        refine Zz 11 ?_
        exact G_ oz_ () (l_ rfl (by subst_vars;rw[Bool.eq_iff_iff];simp[cx_]<;>omega)) (.refl _) zt
      · skip
        refine Zz 5 ?_
        refine s_ (du_ rfl rfl) rfl fun r6 hr6=>Zz 7 ?_
        exact G_ oz_ () (l_ rfl (by subst_vars;rw[Bool.eq_iff_iff];simp[cx_]<;>omega)) (.refl _) zt
    · skip
      refine Zz 13 ?_
      exact G_ oz_ () (l_ rfl (by subst_vars;rw[Bool.eq_iff_iff];simp[cx_]<;>omega)) (.refl _) zt
theorem mp_ (c:UInt8) :
    Fn0 Tryz.prog 264 #[.int .u8 (c.toNat:Int)] (.bool (cG_ c)):=by
  refine o_ Tryz.func264 rfl rfl Tryz.ntmps264 rfl fun v0=>?_
  refine Zz 8 ?_
  refine N_ (kx_ _) rfl (.refl _) zt rfl fun r1 hr1=>Zz 1 ?_
  cases r1
  · skip
    refine Zi 3 (fun hr2=>?_) fun hr2=>?_
    · skip
      refine Zz 11 ?_
      refine s_ (V_ rfl rfl) rfl fun r3 hr3=>Zz 5 ?_
      exact G_ Tryz.results264 () (l_ rfl (by subst_vars;rw[Bool.eq_iff_iff];simp[cG_, *]<;>omega)) (.refl _) zt
    · skip
      refine Zi 5 (fun hr4=>?_) fun hr4=>?_
      · skip
        refine Zz 7 ?_
        refine s_ (V_ rfl rfl) rfl fun r5 hr5=>Zz 5 ?_
        exact G_ Tryz.results264 () (l_ rfl (by subst_vars;rw[Bool.eq_iff_iff];simp[cG_, *]<;>omega)) (.refl _) zt
      · skip
        refine Zz 11 ?_
        exact G_ Tryz.results264 () (l_ rfl (by subst_vars;rw[Bool.eq_iff_iff];simp[cG_, *]<;>omega)) (.refl _) zt
  · skip
    refine Zz 15 ?_
    exact G_ Tryz.results264 () (l_ rfl (by subst_vars;rw[Bool.eq_iff_iff];simp[cG_, *]<;>omega)) (.refl _) zt
theorem nx_ (s:Str) :
    Fn0 Tryz.prog 263 #[str s] (.bool (aI_ s)):=by
  refine o_ Tryz.func263 rfl rfl Tryz.ntmps263 rfl fun v0=>?_
  refine Zi 15 (fun hr1=>?_) fun hr1=>?_
  · skip
    refine Zi 6 (fun hr2=>?_) fun hr2=>?_
    · skip
      refine Zi 6 (fun hr3=>?_) fun hr3=>?_
      · skip
        refine Zi 6 (fun hr4=>?_) fun hr4=>?_
        · skip
          refine Zi 6 (fun hr5=>?_) fun hr5=>?_
          · skip
            refine Zi 6 (fun hr6=>?_) fun hr6=>?_
            · skip
              refine Zi 6 (fun hr7=>?_) fun hr7=>?_
              · skip
                refine Zi 6 (fun hr8=>?_) fun hr8=>?_
                · skip
                  refine Zi 6 (fun hr9=>?_) fun hr9=>?_
                  · skip
                    refine Zi 6 (fun hr10=>?_) fun hr10=>?_
                    · skip
                      refine Zi 6 (fun hr11=>?_) fun hr11=>?_
                      · skip
                        refine Zi 6 (fun hr12=>?_) fun hr12=>?_
                        · skip
                          refine Zi 6 (fun hr13=>?_) fun hr13=>?_
                          · skip
                            refine Zi 6 (fun hr14=>?_) fun hr14=>?_
                            · skip
                              refine Zi 6 (fun hr15=>?_) fun hr15=>?_
                              · skip
                                refine Zi 6 (fun hr16=>?_) fun hr16=>?_
                                · skip
                                  refine Zi 6 (fun hr17=>?_) fun hr17=>?_
                                  · skip
                                    refine Zi 6 (fun hr18=>?_) fun hr18=>?_
                                    · skip
                                      refine Zi 6 (fun hr19=>?_) fun hr19=>?_
                                      · skip
                                        refine Zi 6 (fun hr20=>?_) fun hr20=>?_
                                        · skip
                                          refine Zi 6 (fun hr21=>?_) fun hr21=>?_
                                          · skip
                                            refine Zi 5 (fun hr22=>?_) fun hr22=>?_
                                            · skip
                                              refine Zz 12 ?_
                                              exact G_ aV_ () (l_ rfl (by simp[aI_,kws, *])) (.refl _) zt
                                            · skip
                                              refine Zz 10 ?_
                                              exact G_ aV_ () (l_ rfl (by simp[aI_,kws, *])) (.refl _) zt
                                          · skip
                                            refine Zz 13 ?_
                                            exact G_ aV_ () (l_ rfl (by simp[aI_,kws, *])) (.refl _) zt
                                        · skip
                                          refine Zz 13 ?_
                                          exact G_ aV_ () (l_ rfl (by simp[aI_,kws, *])) (.refl _) zt
                                      · skip
                                        refine Zz 13 ?_
                                        exact G_ aV_ () (l_ rfl (by simp[aI_,kws, *])) (.refl _) zt
                                    · skip
                                      refine Zz 13 ?_
                                      exact G_ aV_ () (l_ rfl (by simp[aI_,kws, *])) (.refl _) zt
                                  · skip
                                    refine Zz 13 ?_
                                    exact G_ aV_ () (l_ rfl (by simp[aI_,kws, *])) (.refl _) zt
                                · skip
                                  refine Zz 13 ?_
                                  exact G_ aV_ () (l_ rfl (by simp[aI_,kws, *])) (.refl _) zt
                              · skip
                                refine Zz 13 ?_
                                exact G_ aV_ () (l_ rfl (by simp[aI_,kws, *])) (.refl _) zt
                            · skip
                              refine Zz 13 ?_
                              exact G_ aV_ () (l_ rfl (by simp[aI_,kws, *])) (.refl _) zt
                          · skip
                            refine Zz 13 ?_
                            exact G_ aV_ () (l_ rfl (by simp[aI_,kws, *])) (.refl _) zt
                        · skip
                          refine Zz 13 ?_
                          exact G_ aV_ () (l_ rfl (by simp[aI_,kws, *])) (.refl _) zt
                      · skip
                        refine Zz 13 ?_
                        exact G_ aV_ () (l_ rfl (by simp[aI_,kws, *])) (.refl _) zt
                    · skip
                      refine Zz 13 ?_
                      exact G_ aV_ () (l_ rfl (by simp[aI_,kws, *])) (.refl _) zt
                  · skip
                    refine Zz 13 ?_
                    exact G_ aV_ () (l_ rfl (by simp[aI_,kws, *])) (.refl _) zt
                · skip
                  refine Zz 13 ?_
                  exact G_ aV_ () (l_ rfl (by simp[aI_,kws, *])) (.refl _) zt
              · skip
                refine Zz 13 ?_
                exact G_ aV_ () (l_ rfl (by simp[aI_,kws, *])) (.refl _) zt
            · skip
              refine Zz 13 ?_
              exact G_ aV_ () (l_ rfl (by simp[aI_,kws, *])) (.refl _) zt
          · skip
            refine Zz 13 ?_
            exact G_ aV_ () (l_ rfl (by simp[aI_,kws, *])) (.refl _) zt
        · skip
          refine Zz 13 ?_
          exact G_ aV_ () (l_ rfl (by simp[aI_,kws, *])) (.refl _) zt
      · skip
        refine Zz 13 ?_
        exact G_ aV_ () (l_ rfl (by simp[aI_,kws, *])) (.refl _) zt
    · skip
      refine Zz 13 ?_
      exact G_ aV_ () (l_ rfl (by simp[aI_,kws, *])) (.refl _) zt
  · skip
    refine Zz 13 ?_
    exact G_ aV_ () (l_ rfl (by simp[aI_,kws, *])) (.refl _) zt
theorem ll_ (s:Str) (hs:s.length≤140737488351232) :
    Fn0 Tryz.prog 224 #[str s] (.bool (eP_ s)):=by
  refine o_ Tryz.func224 rfl rfl Tryz.ntmps224 rfl fun v0=>?_
  refine Zz 9 ?_
  refine c_ (ci_ K_ rfl) rfl ?_
  refine Zi 0 (fun hr1=>?_) fun hr1=>?_
  · skip
    obtain⟨c,t,es⟩:=List.exists_cons_of_length_pos (l:=s) (by omega)
    refine Zz 4 ?_
    refine c_ (bA_ K_ rfl rfl (by decide) (show s[(0:Int).toNat]? = some c by rw[es];rfl)) rfl ?_
    refine ag_ rfl rfl (N_ (kx_ _) rfl (.refl _) zt rfl fun r2 hr2=>ag_ rfl rfl (c_ (aE_ rfl) rfl (Zz 2 ?_)))
    cases r2
    · skip
      refine Zz 12 ?_
      exact G_ oB_ () (l_ rfl (by simp_all [eP_])) (.refl _) zt
    · skip
      refine Zz 3 ?_
      refine N_ (nx_ _) rfl (.refl _) zt rfl fun r3 hr3=>Zz 3 ?_
      cases r3
      · skip
        have hw:s≠[]∧cx_ (s.headD 0)=true:=by subst es;simp_all
        refine Zz 10 ?_
        refine aN_ [(0,str s),(3,.int .i64 ((0:Nat):Int))] zl ?_
        refine aT_ (ι:={k:Nat // k≤s.length∧(s.take k).all cG_=true}) (fun i=>[(0,str s),(3,.int .i64 (i.1:Int))]) (fun _=>_) (fun _=>_) (fun i=>s.length - i.1) ⟨0,by simp⟩ ?_
        rintro ⟨k,hk⟩
        refine aN_ [(0,str s),(3,.int .i64 (k:Int))] zl ?_
        refine Zz 5 ?_
        refine c_ (ci_ K_ rfl) rfl ?_
        refine Zi 0 (fun hr4=>?_) fun hr4=>?_
        · skip
          refine Zz 11 ?_
          exact G_ oB_ () (l_ rfl (by have:=ge_ cG_ s k (by omega) hk.2;simp_all [eP_,gv_])) (.refl _) zt
        · skip
          have hlt:k<s.length:=by omega
          obtain⟨c,hc⟩:∃ c,s[k]? = some c:=⟨_,List.getElem?_eq_getElem hlt⟩
          refine Zz 11 ?_
          refine c_ (bA_ K_ rfl rfl (by omega) hc) rfl (N_ (mp_ _) rfl (.refl _) zt rfl fun r5 hr5=>c_ (aE_ rfl) rfl (Zz 2 ?_))
          cases r5
          · skip
            refine Zz 7 ?_
            exact G_ oB_ () (l_ rfl (by have:=fe_ cG_ s k c hc (by simp[*]);simp_all [eP_,gv_])) (.refl _) zt
          · skip
            refine Zz 9 ?_
            exact R_ ⟨k+1,hlt,dY_ _ s k c hc hk.2 (by simp[*])⟩ (by simp;omega) zl (.refl _) zh
      · skip
        refine Zz 7 ?_
        exact G_ oB_ () (l_ rfl (by simp_all [eP_])) (.refl _) zt
  · skip
    have he:s=[]:=List.eq_nil_of_length_eq_zero (by omega)
    refine Zz 19 ?_
    exact G_ oB_ () (l_ rfl (by simp_all [eP_])) (.refl _) zt
theorem fO_ (s:Str) :
    Fn0 Tryz.prog 160 #[str s] (.bool (bn_ s)):=by
  refine o_ Tryz.func160 rfl rfl Tryz.ntmps160 rfl fun v0=>?_
  refine Zz 9 ?_
  refine c_ (ci_ K_ rfl) rfl ?_
  refine Zi 0 (fun hr1=>?_) fun hr1=>?_
  · skip
    refine Zz 12 ?_
    refine aN_ [(0,str s),(3,.int .i64 ((0:Nat):Int))] zl ?_
    refine aT_ (ι:={k:Nat // k≤s.length∧ixS 58 (s.take k)=none}) (fun i=>[(0,str s),(3,.int .i64 (i.1:Int))]) (fun _=>_) (fun _=>_) (fun i=>s.length - i.1) ⟨0,by simp[ixS]⟩ ?_
    rintro ⟨k,hk⟩
    refine aN_ [(0,str s),(3,.int .i64 (k:Int))] zl ?_
    refine Zz 5 ?_
    refine c_ (ci_ K_ rfl) rfl ?_
    refine Zi 0 (fun hr2=>?_) fun hr2=>?_
    · skip
      refine Zz 8 ?_
      refine N_ (ll_ _ (by first|omega|(simp;omega))) rfl (.refl _) zt rfl fun r3 hr3=>?_
      refine Zz 4 ?_
      exact G_ Tryz.results160 () (l_ rfl (by rw[bn_,qX_ s k (by omega) hk.2];simp_all<;>omega)) (.refl _) zt
    · skip
      have hlt:k<s.length:=by omega
      obtain⟨c,hc⟩:∃ c,s[k]? = some c:=⟨_,List.getElem?_eq_getElem hlt⟩
      refine Zz 11 ?_
      refine c_ (bA_ K_ rfl rfl (by omega) hc) rfl ?_
      refine Zi 0 (fun hr4=>?_) fun hr4=>?_
      · skip
        refine Zz 11 ?_
        exact R_ ⟨k+1,hlt,mU_ s k c hc hk.2 (by intro e;subst e;simp_all)⟩ (by simp;omega) zl (.refl _) zh
      · skip
        obtain rfl:c=58:=UInt8.toNat_inj.1 (by show c.toNat=58;omega)
        refine Zz 7 ?_
        refine c_ (eB_ (i:=0) (j:=k) (kl:=.i64) K_ rfl rfl rfl (by omega) (by omega)) rfl (N_ (ll_ _ (by first|omega|(simp;omega))) rfl (.refl _) zt rfl fun r5 hr5=>?_)
        refine Zz 1 ?_
        cases r5
        · skip
          refine Zz 10 ?_
          exact G_ Tryz.results160 () (l_ rfl (by rw[bn_,qZ_ s k hc hk.2];simp_all [List.take_of_length_le]<;>omega)) (.refl _) zt
        · skip
          refine Zz 7 ?_
          refine c_ (eB_ (i:=k+1) (j:=s.length) (kh:=.i64) K_ rfl rfl rfl (by omega) (by omega)) rfl (ag_ rfl rfl (N_ (ll_ _ (by first|omega|(simp;omega))) rfl (.refl _) zt rfl fun r6 hr6=>?_))
          refine Zz 5 ?_
          exact G_ Tryz.results160 () (l_ rfl (by rw[bn_,qZ_ s k hc hk.2];simp_all [List.take_of_length_le]<;>omega)) (.refl _) zt
  · skip
    refine Zz 9 ?_
    exact G_ Tryz.results160 () (l_ rfl (by simp[bn_]<;>omega)) (.refl _) zt
theorem mv_ (s:Str) :
    Fn0 Tryz.prog 225 #[str s] (.bool (bG_ s)):=by
  refine o_ Tryz.func225 rfl rfl Tryz.ntmps225 rfl fun v0=>?_
  refine Zz 9 ?_
  refine c_ (ci_ K_ rfl) rfl ?_
  refine Zi 0 (fun hr1=>?_) fun hr1=>?_
  · skip
    refine Zz 4 ?_
    refine c_ (ci_ K_ rfl) rfl (ag_ rfl rfl ?_)
    refine Zi 0 (fun hr2=>?_) fun hr2=>?_
    · skip
      obtain⟨c,t,es⟩:=List.exists_cons_of_length_pos (l:=s) (by omega)
      refine Zz 5 ?_
      refine c_ (bA_ K_ rfl rfl (by decide) (show s[(0:Int).toNat]? = some c by rw[es];rfl)) rfl ?_
      refine ag_ rfl rfl ?_
      refine Zi 0 (fun hr3=>?_) fun hr3=>?_
      · skip
        have hq:c.toNat=95:=by omega
        refine Zz 13 ?_
        refine aN_ [(0,str s),(3,.int .i64 ((1:Nat):Int))] zl ?_
        refine aT_ (ι:={k:Nat // k≤s.length∧(s.take k).all cG_=true}) (fun i=>[(0,str s),(3,.int .i64 (i.1:Int))]) (fun _=>_) (fun _=>_) (fun i=>s.length - i.1) ⟨1,by omega,by subst es;simp[cG_,hq]⟩ ?_
        rintro ⟨k,hk⟩
        refine aN_ [(0,str s),(3,.int .i64 (k:Int))] zl ?_
        refine Zz 5 ?_
        refine c_ (ci_ K_ rfl) rfl ?_
        refine Zi 0 (fun hr4=>?_) fun hr4=>?_
        · skip
          refine Zz 11 ?_
          exact G_ oA_ () (l_ rfl (by have:=ge_ cG_ s k (by omega) hk.2;subst es;simp[bG_,gv_,this,hq]<;>simp at*<;> omega)) (.refl _) zt
        · skip
          have hlt:k<s.length:=by omega
          obtain⟨c,hc⟩:∃ c,s[k]? = some c:=⟨_,List.getElem?_eq_getElem hlt⟩
          refine Zz 11 ?_
          refine c_ (bA_ K_ rfl rfl (by omega) hc) rfl (N_ (mp_ _) rfl (.refl _) zt rfl fun r5 hr5=>c_ (aE_ rfl) rfl (Zz 2 ?_))
          cases r5
          · skip
            refine Zz 7 ?_
            exact G_ oA_ () (l_ rfl (by have:=fe_ cG_ s k c hc (by simp[*]);simp[bG_,gv_,this])) (.refl _) zt
          · skip
            refine Zz 9 ?_
            exact R_ ⟨k+1,hlt,dY_ _ s k c hc hk.2 (by simp[*])⟩ (by simp;omega) zl (.refl _) zh
      · skip
        refine Zz 10 ?_
        exact G_ oA_ () (l_ rfl (by first|(simp[bG_]<;>omega)|(subst es;simp[bG_]<;>omega))) (.refl _) zt
    · skip
      refine Zz 15 ?_
      exact G_ oA_ () (l_ rfl (by first|(simp[bG_]<;>omega)|(subst es;simp[bG_]<;>omega))) (.refl _) zt
  · skip
    refine Zz 19 ?_
    exact G_ oA_ () (l_ rfl (by first|(simp[bG_]<;>omega)|(subst es;simp[bG_]<;>omega))) (.refl _) zt
theorem he_ (s:Str) :
    Fn0 Tryz.prog 161 #[str s] (.bool (aK_ s)):=by
  refine o_ Tryz.func161 rfl rfl Tryz.ntmps161 rfl fun v0=>?_
  refine Zz 8 ?_
  refine N_ (fO_ _) rfl (.refl _) zt rfl fun r1 hr1=>Zz 1 ?_
  cases r1
  · skip
    refine Zz 3 ?_
    refine N_ (mv_ _) rfl (.refl _) zt rfl fun r2 hr2=>Zz 5 ?_
    exact G_ Tryz.results161 () (l_ rfl (by simp[aK_, *])) (.refl _) zt
  · skip
    refine Zz 7 ?_
    exact G_ Tryz.results161 () (l_ rfl (by simp[aK_, *])) (.refl _) zt
theorem hS_ (s:Str) :
    Fn0 Tryz.prog 165 #[str s] (.int .i64 (if aK_ s then 0 else 20)):=by
  refine o_ Tryz.func165 rfl rfl Tryz.ntmps165 rfl fun v0=>?_
  refine Zz 9 ?_
  refine N_ (he_ _) rfl (.refl _) zt rfl fun r1 hr1=>c_ (aE_ rfl) rfl (Zz 2 ?_)
  cases r1
  · skip
    refine Zz 7 ?_
    exact G_ Tryz.results165 () (Y_ rfl (by simp[*])) (.refl _) zt
  · skip
    refine Zz 9 ?_
    exact G_ Tryz.results165 () (Y_ rfl (by simp[*])) (.refl _) zt
end Go.Proofs.YtamklbgaipakfaaGreatDoor
namespace Go.Vs
open Go Go.Sx
theorem hJ_ {s:Str} (h:eP_ s=true):∃ c t,s=c::t∧cx_ c=true∧gv_ s=true:=by
  cases s with
  | nil=>simp[eP_]at h
  | cons c t =>
    simp only[eP_,Bool.and_eq_true]at h
    exact⟨c,t,rfl,h.1.1.2,h.1.2⟩
theorem jA_ {s:Str} (h:bn_ s=true):∃ c t,s=c::t∧cx_ c=true:=by
  unfold bn_ at h
  simp only[Bool.and_eq_true]at h
  cases hx:ixS 58 s with
  | none=>rw[hx]at h;obtain⟨c,t,h1,h2,_⟩:=hJ_ h.2;exact⟨c,t,h1,h2⟩
  | some k =>
    rw[hx]at h
    simp only[Bool.and_eq_true]at h
    obtain⟨c,t,h1,h2,_⟩:=hJ_ h.2.1
    cases s with
    | nil=>simp at h1
    | cons d u =>
      cases k with
      | zero=>simp at h1
      | succ k=>simp only[List.take_succ_cons,List.cons.injEq]at h1;exact⟨d,u,rfl,h1.1▸h2⟩
theorem jh_ {s:Str} (h:gv_ s=true):∀ c∈s,cG_ c=true:=fun c hc=>List.all_eq_true.1 h c hc
theorem pI_ {c:UInt8} {s:Str} {k:Nat} (h:ixS c s=some k):s=s.take k++c::s.drop (k+1):=by
 induction s generalizing k with
 | nil=>simp[ixS]at h
 | cons b s ih =>
   simp only[ixS]at h
   split at h
   · rename_i hb
     simp only[Option.some.injEq]at h
     subst h;subst hb;simp
   · cases hx:ixS c s with
     | none=>rw[hx]at h;simp at h
     | some j =>
       rw[hx]at h
       simp only[Option.map_some,Option.some.injEq]at h
       subst h
       simp only[List.take_succ_cons,List.drop_succ_cons,List.cons_append]
       rw[← ih hx]
theorem pr_ {s:Str} (h:bn_ s=true):∀ c∈s,cG_ c=true∨c=58:=by
 unfold bn_ at h
 simp only[Bool.and_eq_true]at h
 cases hx:ixS 58 s with
 | none=>rw[hx]at h;obtain⟨_,_,_,_,h3⟩:=hJ_ h.2;exact fun c hc=>.inl (jh_ h3 c hc)
 | some k =>
   rw[hx]at h
   simp only[Bool.and_eq_true]at h
   obtain⟨_,_,_,_,h3⟩:=hJ_ h.2.1
   obtain⟨_,_,_,_,h4⟩:=hJ_ h.2.2
   intro c hc
   rw[pI_ hx]at hc
   rcases List.mem_append.1 hc with hc|hc
   · exact .inl (jh_ h3 c hc)
   · rcases List.mem_cons.1 hc with rfl|hc
     · exact .inr rfl
     · exact .inl (jh_ h4 c hc)
theorem iI_ {c:UInt8}:∀ {s:Str},c ∉ s→ixS c s=none
  | [],_=>rfl
  | b::s,h=>by
    simp only[List.mem_cons,not_or]at h
    simp only[ixS]
    rw[if_neg (fun e=>h.1 e.symm),iI_ h.2];rfl
theorem gK_ {s:Str} (h:bn_ s=true):cb_ 46 s=[s] :=
  gH_ (iI_ fun hm=>by rcases pr_ h 46 hm with h|h<;>revert h<;>decide)
theorem dc_ {s:Str} (h:bn_ s=true):aK_ s=true:=by simp[aK_,h]
theorem dj_ {s:Str} (h:bn_ s=true):eb_ s=true:=by
  unfold eb_
  rw[gK_ h]
  simp[dc_ h]
theorem jo_ (c:UInt8):∀ (f r:Str),cb_ c (f++[c]++r)=cb_ c f++cb_ c r
 | [],r=>by simp[cb_]
 | b::f,r=>by
   have ih:=jo_ c f r
   simp only[List.append_assoc,List.cons_append,List.nil_append]at ih ⊢
   by_cases hb:b=c
   · subst hb;simp only[cb_,if_true,ih,List.cons_append]
   · simp only[cb_,hb,if_false,ih]
     cases hs:cb_ c f with
     | nil=>exact absurd hs (ks_ c f)
     | cons x t=>simp
theorem nT_ {c:UInt8} (h:cx_ c=true):c≠42∧c≠33∧c≠123∧c≠60∧c≠95:=by
  refine⟨?_,?_,?_,?_,?_⟩<;>rintro rfl<;>revert h<;>decide
theorem oh_ {s:Str} (h:bn_ s=true):cd_ s=true:=by
  obtain⟨c,t,rfl,hc⟩:=jA_ h
  obtain⟨h1,h2,h3,h4,_⟩:=nT_ hc
  unfold cd_
  rw[if_neg (by simp[h1,h2]),if_neg (by simp[h3]),if_neg (by simp[h4])]
  exact dc_ h
theorem ij_ {s:Str} (h:aK_ s=true):cd_ ([123]++s++[125])=true:=by
  unfold cd_
  have e:([123]++s++[125]).length=s.length+2:=by simp
  rw[if_neg (by simp),if_pos (by
    refine⟨by omega,by simp,?_⟩
    rw[List.getElem?_append_right (by simp)];simp)]
  rw[e]
  have:(List.drop 1 ([123]++s++[125])).take (s.length+2 - 1 - 1)=s:=by simp
  rw[this];exact h
theorem oi_ {t:Str} (h:t≠[]):cd_ ([60]++t++[62])=true:=by
  unfold cd_
  have hl:0<t.length:=List.length_pos_iff.2 h
  have e:([60]++t++[62]).length=t.length+2:=by simp
  rw[if_neg (by simp),if_neg (by simp),if_pos (by
    refine⟨by omega,by simp,?_⟩
    rw[List.getElem?_append_right (by simp)];simp)]
namespace Con
def dep:Con→Nat
  | mk _ _ _ _ _ _ ps=>deps ps
where deps:List Con→Nat
  | []=>0
  | p::ps=>max (1+dep p) (deps ps)
theorem lL_ {p:Con}:∀ {ps:List Con},p∈ps→1+p.dep≤dep.deps ps
 | q::ps,h=>by
   rcases List.mem_cons.1 h with rfl|h
   · simp only[dep.deps];omega
   · have:=lL_ h;simp only[dep.deps];omega
theorem dep_eq (c:Con):c.dep=dep.deps c.parts:=by cases c;rfl
theorem sz_eq (c:Con):c.sz=1+sz.szs c.parts:=by cases c;rfl
theorem jP_:∀ (m:Nat) (c:Con),c.sz≤m→∀ d n,(c.fits d n).1=true↔d+c.dep≤8∧n+c.sz≤64
 | 0,c,h=>by have:=c.sz_pos;omega
 | m+1,c,h=>fun d n=>by
   have key:∀ ps:List Con,(∀ p∈ps,p.sz≤m)→∀ n,n≤64→((fits.fitss ps (d+1) n).1=true↔(∀ p∈ps,d+1+p.dep≤8)∧n+sz.szs ps≤64):=by
     intro ps
     induction ps with
     | nil=>intro _ n hn;simp[fits.fitss,sz.szs,hn]
     | cons p ps ih =>
       intro hp n hn
       have h1:=jP_ m p (hp p (by simp)) (d+1) n
       simp only[fits.fitss,sz.szs,List.mem_cons,forall_eq_or_imp]
       rcases hq:p.fits (d+1) n with⟨b,q⟩
       rw[hq]at h1
       cases b with
       | true =>
         have hs:=lH_ _ p (Nat.le_refl _) (d+1) n (by rw[hq])
         rw[hq]at hs
         simp only at hs h1 ⊢
         have h2:=h1.1 trivial
         rw[ih (fun r hr=>hp r (by simp[hr])) q (by omega)]
         constructor
         · rintro ⟨a,b⟩;exact⟨⟨h2.1,a⟩,by omega⟩
         · rintro ⟨⟨_,a⟩,b⟩;exact⟨a,by omega⟩
       | false =>
         simp only[Bool.false_eq_true,false_iff]at h1 ⊢
         rintro ⟨⟨a,_⟩,b⟩
         exact h1 ⟨a,by omega⟩
   have hd:=dep_eq c
   have hz:=sz_eq c
   rw[fits_eq]
   split
   · rename_i hc
     simp only[Bool.or_eq_true,decide_eq_true_eq]at hc
     simp only[Bool.false_eq_true,false_iff]
     rintro ⟨a,b⟩
     omega
   · rename_i hc
     simp only[Bool.or_eq_true,decide_eq_true_eq,not_or]at hc
     rw[key c.parts (fun p hp=>by have:=sz_part hp;omega) (n+1) (by omega),hd,hz]
     constructor
     · rintro ⟨a,b⟩
       refine⟨?_,by omega⟩
       have:∀ ps:List Con,(∀ p∈ps,d+1+p.dep≤8)→d+dep.deps ps≤8:=by
         intro ps
         induction ps with
         | nil=>intro _;simp[dep.deps];omega
         | cons p ps ih =>
           intro hp
           have h1:=hp p (by simp)
           have h2:=ih fun q hq=>hp q (by simp[hq])
           simp only[dep.deps];omega
       exact this _ a
     · rintro ⟨a,b⟩
       exact⟨fun p hp=>by have:=lL_ hp;omega,by omega⟩
theorem lb_ (c:Con):c.check=0↔c.dep≤8∧c.sz≤64∧c.fine:=by
 unfold check fine
 have h:=jP_ _ c (Nat.le_refl _) 0 0
 by_cases hf:(c.fits 0 0).1=true
 ·rw[if_pos hf]
  have:=h.1 hf
  constructor
  ·intro e;exact⟨by omega,by omega,e⟩
  exact fun e=>e.2.2
 rw[if_neg hf]
 constructor
 ·intro e;cases e
 intro e;exact absurd (h.2 ⟨by omega,by omega⟩) hf
theorem check_part {c p:Con} (h:c.check=0) (hp:p∈c.parts):p.check=0:=by
  rw[lb_]at h ⊢
  have h1:=lL_ hp
  rw[← dep_eq]at h1
  have h2:=sz_part hp
  exact⟨by omega,by omega,fine_part h.2.2 hp⟩
structure Names (c:Con):Prop where
  plain:c.kind=3∨c.kind=6∨c.kind=7→bn_ c.name=true
  person:c.kind=4→aK_ c.name=true
  nums:c.kind=7→-1099511627776≤c.lo∧c.lo≤c.hi∧c.hi≤1099511627776
theorem jH_ {c:Con} (h:c.fine):Names c:=by
 have F:=fields h
 have hk:c.kind=1∨c.kind=2∨c.kind=3∨c.kind=4∨c.kind=5∨c.kind=6∨c.kind=7:=by have:=F.k1;have:=F.k7;omega
 have h0:=((fine_iff c).1 h).1
 unfold fieldErr at h0
 rw[if_neg (by have:=F.k1;have:=F.k7;omega)]at h0
 split at h0
 ·cases h0
 split at h0
 ·cases h0
 rename_i h3
 split at h0
 ·cases h0
 split at h0
 ·rename_i h5
  refine⟨fun e=>?_,fun e=>?_,fun e=>?_⟩
  ·rcases e with e|e|e<;>rw[e]at h5<;>simpa [nd,cW_] using h5
  ·rw[e]at h5
   simp[nd,cW_]at h5
   simp[aK_,h5]
  rw[e]at h3
  simp[nd,cW_]at h3
  omega
 cases h0
theorem jK_ (x y:Str) (r:List Str) (sep:Str):Lib.join (x::y::r) sep=x++sep++Lib.join (y::r) sep:=by simp[Lib.join,List.intercalate]
theorem rI_ {c:Con} (h:c.fine) (hk:5≤c.kind):c.text≠[]:=by
 have F:=fields h
 have h7:=F.k7
 rw[text_eq,if_neg (by omega),if_neg (by omega),if_neg (by omega),if_neg (by omega)]
 split
 ·rename_i h5
  have hl:=F.le
  rw[h5]at hl
  simp[nd,cW_]at hl
  match hp:c.parts,hl with
  | [],hl=>simp at hl
  | [_],hl=>simp at hl
  | p::q::r,_=>simp only[List.map_cons,jK_];simp
 split
 ·simp only[jK_];simp
 simp only[jK_];simp
theorem atom_ok {c:Con} (h:c.check=0):cd_ c.atom=true:=by
 have hf:=(check_zero h).1
 have F:=fields hf
 have N:=jH_ hf
 have h1:=F.k1
 have h7:=F.k7
 unfold atom
 split
 ·rfl
 split
 ·rfl
 split
 ·exact oh_ (N.plain (by omega))
 split
 ·exact ij_ (N.person (by omega))
 unfold textN
 rw[if_pos h]
 exact oi_ (rI_ hf (by omega))
theorem atom_len {c:Con} (hok:c.ok) (h:c.check=0):c.atom.length≤7000:=by
  have F:=fields (check_zero h).1
  have hn:=F.nm
  have ht:=textN_len hok
  unfold atom
  repeat' split
  all_goals simp<;>omega
theorem pre_check {c:Con} (h:c.check=0) (hk:c.kind=5) {j:Nat} (h2:2≤j) (hj:j≤c.parts.length):(c.pre j).check=0:=by
 have hf:=(check_zero h).1
 have F:=fields hf
 have hmo:=F.mo
 rw[hk]at hmo
 simp[nd,cW_]at hmo
 rw[lb_]at h ⊢
 have key:∀ (ps:List Con) (j:Nat),sz.szs (ps.take j)≤sz.szs ps∧dep.deps (ps.take j)≤dep.deps ps:=by
   intro ps
   induction ps with
   | nil=>intro j;simp
   | cons p ps ih =>
     intro j
     cases j with
     | zero=>simp[sz.szs,dep.deps]
     | succ j=>have:=ih j;simp only[List.take_succ_cons,sz.szs,dep.deps];omega
 have h1:=key c.parts j
 have e1:=dep_eq c
 have e2:=sz_eq c
 refine⟨?_,?_,?_⟩
 ·rw[dep_eq];show dep.deps (c.parts.take j)≤8;omega
 ·rw[sz_eq];show 1+sz.szs (c.parts.take j)≤64;omega
 rw[fine_iff]
 refine⟨?_,fun p hp=>fine_part hf (List.mem_of_mem_take hp)⟩
 unfold fieldErr
 have hlen:(c.pre j).parts.length=j:=by show (c.parts.take j).length=j;simp;omega
 rw[if_neg (by show ¬ ((5:Int)<1∨7<(5:Int));omega)]
 simp only[hlen]
 have hk5:(c.pre j).kind=5:=rfl
 rw[hk5]
 simp[nd,cW_,pre,name,lo,hi]
 omega
end Con
end Go.Vs
namespace Go.Vs
open Go Go.Sx
structure PQ (f:Int) (q:Pc):Prop where
  frm:q.frm=f
  sm:q.sm
  ok:q.valid=true
section
variable {f:Int} (h0:-1≤f) (h1:f<1024) {a b c r s t:Str} {lo hi:Int}
include h0 h1
theorem qh_ (ha:cd_ a=true) (hc:cd_ c=true):Pc.valid ⟨1,a,[],c,[],[],[],0,0,f⟩=true:=by
  unfold Pc.valid;rw[if_neg (by simp;omega)];simp[nus,gx_,gQ_,ha,hc]
theorem val2 (ha:cd_ a=true) (hb:cd_ b=true) (hc:cd_ c=true):Pc.valid ⟨2,a,b,c,[],[],[],0,0,f⟩=true:=by
  unfold Pc.valid;rw[if_neg (by simp;omega)];simp[nus,gx_,gQ_,ha,hb,hc]
theorem val3 (ha:cd_ a=true) (hr:eb_ r=true) (hc:cd_ c=true):Pc.valid ⟨3,a,[],c,r,[],[],0,0,f⟩=true:=by
  unfold Pc.valid;rw[if_neg (by simp;omega)];simp[nus,gx_,gQ_,ha,hr,hc]
theorem val4 (ha:cd_ a=true) (hr:eb_ r=true) (hc:cd_ c=true):Pc.valid ⟨4,a,[],c,r,[],[],0,0,f⟩=true:=by
  unfold Pc.valid;rw[if_neg (by simp;omega)];simp[nus,gx_,gQ_,ha,hr,hc]
theorem val5 (hr:eb_ r=true) (ht:eb_ t=true):Pc.valid ⟨5,[],[],[],r,[],t,0,0,f⟩=true:=by
  unfold Pc.valid;rw[if_neg (by simp;omega)];simp[nus,gx_,gQ_,hr,ht]
theorem val6 (hr:eb_ r=true) (hs:eb_ s=true) (ht:eb_ t=true):Pc.valid ⟨6,[],[],[],r,s,t,0,0,f⟩=true:=by
  unfold Pc.valid;rw[if_neg (by simp;omega)];simp[nus,gx_,gQ_,hr,hs,ht]
theorem val7 (hr:eb_ r=true):Pc.valid ⟨7,[],[],[],r,[],[],0,0,f⟩=true:=by
  unfold Pc.valid;rw[if_neg (by simp;omega)];simp[nus,gx_,gQ_,hr]
theorem val8 (ha:cd_ a=true) (hr:aK_ r=true) (hn:-1099511627776≤lo∧lo≤hi∧hi≤1099511627776):Pc.valid ⟨8,a,[],[],r,[],[],lo,hi,f⟩=true:=by
  unfold Pc.valid;rw[if_neg (by simp;omega),if_neg (by simp[nus,gx_];omega)];simp[nus,gx_,gQ_,ha,hr]
theorem val9 (hc:cd_ c=true) (hr:aK_ r=true) (hn:-1099511627776≤lo∧lo≤hi∧hi≤1099511627776):Pc.valid ⟨9,[],[],c,r,[],[],lo,hi,f⟩=true:=by
  unfold Pc.valid;rw[if_neg (by simp;omega),if_neg (by simp[nus,gx_];omega)];simp[nus,gx_,gQ_,hc,hr]
end
theorem di_ {Q:Pc→Prop} {f:Int} {l:List Pc} {p:Pc} (hl:∀ q∈l,Q q) (hp:Q { p with frm:=f }):∀ q∈ins f l p,Q q:=by
 unfold ins
 split
 ·exact hl
 intro q hq
 rcases List.mem_append.1 hq with hq|hq
 ·exact hl q hq
 simp only[List.mem_singleton]at hq;subst hq;exact hp
theorem cS_ {s:Str} (h:bn_ s=true):s.length≤24:=Con.plain_len h
theorem iu_ {s:Str} (h:aK_ s=true):s.length≤24:=by
 simp only[aK_,Bool.or_eq_true]at h
 rcases h with h|h
 ·exact Con.plain_len h
 exact Con.reserved_len h
namespace Con
section
variable {f:Int} (h0:-1≤f) (h1:f<1024)
include h0 h1
theorem nk_ (c:Con) (hok:c.ok) (hc:c.check=0) (hk:c.kind=5):∀ (r:List Con) (j:Nat) (a:Str) (l:List Pc),1≤j→j+r.length≤c.parts.length→(∀ p∈r,p∈c.parts)→cd_ a=true→a.length≤7000→(∀ q∈l,PQ f q)→∀ q∈andP f c r j a l,PQ f q
  | [],_,_,l,_,_,_,_,_,hl=>hl
  | p::r,j,a,l,hj,hlen,hm,ha,hal,hl=>by
    simp only[List.length_cons]at hlen
    have hp:=hm p (by simp)
    have hpre:=pre_check hc hk (j:=j+1) (by omega) (by omega)
    have x1:=atom_ok hpre
    have x2:=atom_len (pre_ok hok (j+1)) hpre
    have x3:=atom_ok (check_part hc hp)
    have x4:=atom_len (ok_part hok hp) (check_part hc hp)
    simp only[andP]
    exact nk_ c hok hc hk r (j+1) _ _ (by omega) (by omega) (fun q hq=>hm q (by simp[hq])) x1 x2
      (di_ hl ⟨rfl,⟨by dsimp only;omega,by dsimp only;omega,by dsimp only;omega,by simp,by simp,by simp⟩,val2 h0 h1 ha x3 x1⟩)
theorem leftP_all:∀ (m:Nat) (c:Con),c.sz≤m→c.ok→c.check=0→∀ l,(∀ q∈l,PQ f q)→∀ q∈c.leftP f l,PQ f q
 | 0,c,h=>by have:=c.sz_pos;omega
 | m+1,c,h=>fun hok hc l hl=>by
   have key:∀ ps:List Con,(∀ p∈ps,p∈c.parts)→∀ l,(∀ q∈l,PQ f q)→∀ q∈leftP.lefts f ps l,PQ f q:=by
     intro ps
     induction ps with
     | nil=>intro _ l hl;exact hl
     | cons p ps ih =>
       intro hp l hl
       have hpm:=hp p (by simp)
       exact ih (fun q hq=>hp q (by simp[hq])) _ (leftP_all m p (by have:=sz_part hpm;omega) (ok_part hok hpm) (check_part hc hpm) l hl)
   have hk:=key c.parts (fun _ h=>h) l hl
   have F:=fields (check_zero hc).1
   have N:=jH_ (check_zero hc).1
   have ca:=atom_ok hc
   have cl:=atom_len hok hc
   rw[leftP_eq]
   split
   · rename_i h5
     have hle:=F.le
     rw[h5]at hle
     simp[nd,cW_]at hle
     match hp:c.parts,hle with
     | [],hle=>simp at hle
     | p::r,_ =>
       have hpm:p∈c.parts:=by rw[hp];simp
       have x3:=atom_ok (check_part hc hpm)
       have x4:=atom_len (ok_part hok hpm) (check_part hc hpm)
       refine nk_ h0 h1 c hok hc h5 _ 1 _ _ (by omega) (by rw[hp];simp;omega) (fun q hq=>by rw[hp];exact List.mem_of_mem_drop hq) (by simpa using x3) (by simpa using x4) (by rw[hp]at hk;exact hk)
   · split
     · rename_i h6
       have hle:=F.le
       rw[h6]at hle
       simp[nd,cW_]at hle
       have hpl:=N.plain (.inr (.inl h6))
       match hp:c.parts,hle with
       | [],hle=>simp at hle
       | p::r,_ =>
         have hpm:p∈c.parts:=by rw[hp];simp
         have x3:=atom_ok (check_part hc hpm)
         have x4:=atom_len (ok_part hok hpm) (check_part hc hpm)
         have x5:=cS_ hpl
         rw[hp]at hk
         exact di_ hk ⟨rfl,⟨by simp;omega,by simp,by dsimp only;omega,by dsimp only;omega,by simp,by simp⟩,val4 h0 h1 (by simpa using x3) (dj_ hpl) ca⟩
     · split
       · rename_i h7
         have hpl:=N.plain (.inr (.inr h7))
         have x5:=cS_ hpl
         exact di_ hl ⟨rfl,⟨by simp,by simp,by dsimp only;omega,by dsimp only;omega,by simp,by simp⟩,val9 h0 h1 ca (dc_ hpl) (N.nums h7)⟩
       · exact hl
theorem rightP_all:∀ (m:Nat) (c:Con),c.sz≤m→c.ok→c.check=0→∀ l,(∀ q∈l,PQ f q)→∀ q∈c.rightP f l,PQ f q
 | 0,c,h=>by have:=c.sz_pos;omega
 | m+1,c,h=>fun hok hc l hl=>by
   have ca:=atom_ok hc
   have cl:=atom_len hok hc
   have key:∀ ps:List Con,(∀ p∈ps,p∈c.parts)→∀ l,(∀ q∈l,PQ f q)→∀ q∈rightP.rights f c.atom ps l,PQ f q:=by
     intro ps
     induction ps with
     | nil=>intro _ l hl;exact hl
     | cons p ps ih =>
       intro hp l hl
       have hpm:=hp p (by simp)
       have x3:=atom_ok (check_part hc hpm)
       have x4:=atom_len (ok_part hok hpm) (check_part hc hpm)
       exact ih (fun q hq=>hp q (by simp[hq])) _ (rightP_all m p (by have:=sz_part hpm;omega) (ok_part hok hpm) (check_part hc hpm) _
         (di_ hl ⟨rfl,⟨by dsimp only;omega,by simp,by dsimp only;omega,by simp,by simp,by simp⟩,qh_ h0 h1 ca x3⟩))
   have key2:∀ ps:List Con,(∀ p∈ps,p∈c.parts)→∀ l,(∀ q∈l,PQ f q)→∀ q∈rightP.righty f ps l,PQ f q:=by
     intro ps
     induction ps with
     | nil=>intro _ l hl;exact hl
     | cons p ps ih =>
       intro hp l hl
       have hpm:=hp p (by simp)
       exact ih (fun q hq=>hp q (by simp[hq])) _ (rightP_all m p (by have:=sz_part hpm;omega) (ok_part hok hpm) (check_part hc hpm) l hl)
   have F:=fields (check_zero hc).1
   have N:=jH_ (check_zero hc).1
   rw[rightP_eq]
   split
   · exact key c.parts (fun _ h=>h) l hl
   · split
     · rename_i h6
       have hle:=F.le
       rw[h6]at hle
       simp[nd,cW_]at hle
       have hpl:=N.plain (.inr (.inl h6))
       have x5:=cS_ hpl
       refine key2 c.parts (fun _ h=>h) _ (di_ hl ?_)
       match hp:c.parts,hle with
       | [],hle=>simp at hle
       | p::r,_ =>
         have hpm:p∈c.parts:=by rw[hp];simp
         have x3:=atom_ok (check_part hc hpm)
         have x4:=atom_len (ok_part hok hpm) (check_part hc hpm)
         exact⟨rfl,⟨by dsimp only;omega,by simp,by simp;omega,by dsimp only;omega,by simp,by simp⟩,val3 h0 h1 ca (dj_ hpl) (by simpa using x3)⟩
     · split
       · rename_i h7
         have hpl:=N.plain (.inr (.inr h7))
         have x5:=cS_ hpl
         exact di_ hl ⟨rfl,⟨by dsimp only;omega,by simp,by simp,by dsimp only;omega,by simp,by simp⟩,val8 h0 h1 ca (dc_ hpl) (N.nums h7)⟩
       · exact hl
end
end Con
namespace Ax
section
variable {f:Int} (h0:-1≤f) (h1:f<1024)
include h0 h1
theorem jX_ (role:Str) (hr:bn_ role=true):∀ (rs:List Str) (g:Str) (l:List Pc),(∀ r∈rs,bn_ r=true)→(cb_ 46 g).length+rs.length≤4→((cb_ 46 g).all aK_=true)→g.length≤100*(cb_ 46 g).length→(∀ q∈l,PQ f q)→∀ q∈chainP f role rs g l,PQ f q
 | [],_,_,_,_,_,_,hl=>hl
 | r::t,g,l,hp,hn,hg,hgl,hl=>by
   have hpr:=hp r (by simp)
   have hrl:=cS_ hpr
   have hrol:=cS_ hr
   simp only[List.length_cons]at hn
   have hgr:eb_ g=true:=by
     unfold eb_
     rw[decide_eq_true (by omega)]
     simp only[Bool.true_and,Bool.not_eq_true']
     rw[List.any_eq_false]
     intro y hy
     simp[List.all_eq_true.1 hg y hy]
   simp only[chainP]
   by_cases ht:t=[]
   · subst ht
     simp only[if_true,chainP]
     exact di_ hl ⟨rfl,⟨by simp,by simp,by simp,by dsimp only;omega,by dsimp only;omega,by dsimp only;omega⟩,val6 h0 h1 hgr (dj_ hpr) (dj_ hr)⟩
   · simp only[ht,if_false]
     have htl:0<t.length:=List.length_pos_iff.2 ht
     have e:=jo_ 46 g r
     rw[gK_ hpr]at e
     have hall:(cb_ 46 (g++[46]++r)).all aK_=true:=by rw[e,List.all_append,hg];simp[dc_ hpr]
     have hlen:(cb_ 46 (g++[46]++r)).length=(cb_ 46 g).length+1:=by rw[e];simp
     have hgl2:(g++[46]++r).length≤100*(cb_ 46 (g++[46]++r)).length:=by rw[hlen];simp;omega
     have hgr2:eb_ (g++[46]++r)=true:=by
       unfold eb_
       rw[decide_eq_true (by omega)]
       simp only[Bool.true_and,Bool.not_eq_true']
       rw[List.any_eq_false]
       intro y hy
       simp[List.all_eq_true.1 hall y hy]
     exact jX_ role hr t _ _ (fun q hq=>hp q (by simp[hq])) (by omega) hall hgl2
       (di_ hl ⟨rfl,⟨by simp,by simp,by simp,by dsimp only;omega,by dsimp only;omega,by dsimp only;omega⟩,val6 h0 h1 hgr (dj_ hpr) hgr2⟩)
theorem pieces_all {x:Ax} (hok:x.ok) (hc:x.check=0):∀ q∈x.pieces f,PQ f q:=by
 have G:=good_of hc
 have L:=fun (c:Con) (hok:c.ok) (hc:c.check=0)=>Con.leftP_all h0 h1 _ c (Nat.le_refl _) hok hc
 have Rr:=fun (c:Con) (hok:c.ok) (hc:c.check=0)=>Con.rightP_all h0 h1 _ c (Nat.le_refl _) hok hc
 have n:∀ q∈([]:List Pc),PQ f q:=fun q hq=>by cases hq
 have h1':=G.k1
 have h9:=G.k9
 have A:=fun (c:Con) (hok:c.ok) (hc:c.check=0)=>(⟨Con.atom_ok hc,Con.atom_len hok hc⟩:cd_ c.atom=true∧c.atom.length≤7000)
 unfold pieces
 split
 ·have l:=G.left (by omega);have r:=G.right (by omega)
  have a1:=A _ hok.left l;have a2:=A _ hok.right r
  exact di_ (Rr _ hok.right r _ (L _ hok.left l _ n)) ⟨rfl,⟨by dsimp only;omega,by simp,by dsimp only;omega,by simp,by simp,by simp⟩,qh_ h0 h1 a1.1 a2.1⟩
 split
 ·have l:=G.left (by omega);have r:=G.right (by omega)
  have a1:=A _ hok.left l;have a2:=A _ hok.right r
  exact di_ (Rr _ hok.left l _ (L _ hok.right r _ (di_ (Rr _ hok.right r _ (L _ hok.left l _ n)) ⟨rfl,⟨by dsimp only;omega,by simp,by dsimp only;omega,by simp,by simp,by simp⟩,qh_ h0 h1 a1.1 a2.1⟩))) ⟨rfl,⟨by dsimp only;omega,by simp,by dsimp only;omega,by simp,by simp,by simp⟩,qh_ h0 h1 a2.1 a1.1⟩
 split
 ·have l:=G.left (by omega);have r:=G.right (by omega)
  have a1:=A _ hok.left l;have a2:=A _ hok.right r
  exact di_ (L _ hok.right r _ (L _ hok.left l _ n)) ⟨rfl,⟨by dsimp only;omega,by dsimp only;omega,by simp,by simp,by simp,by simp⟩,val2 h0 h1 a1.1 a2.1 rfl⟩
 split
 ·have r:=G.right (by omega);have a2:=A _ hok.right r;have p:=G.role (by omega);have pl:=cS_ p
  exact di_ (Rr _ hok.right r _ n) ⟨rfl,⟨by simp,by simp,by dsimp only;omega,by dsimp only;omega,by simp,by simp⟩,val4 h0 h1 rfl (dj_ p) a2.1⟩
 split
 ·rename_i h5
  have p:=G.role (by omega);have pl:=cS_ p
  have ho:=G.one h5
  match hr:x.roles,ho with
  | [r],_ =>
    have p2:=G.roles r (by rw[hr];simp);have pl2:=cS_ p2
    exact di_ n ⟨rfl,⟨by simp,by simp,by simp,by simp;omega,by simp,by dsimp only;omega⟩,val5 h0 h1 (by simpa using dj_ p2) (dj_ p)⟩
 split
 ·rename_i h6
  have p:=G.role (by omega)
  have hch:=G.chain h6
  match hr:x.roles,hch with
  | [],hch=>simp at hch
  | r::t,hch =>
    have p2:=G.roles r (by rw[hr];simp);have pl2:=cS_ p2
    have e:=gK_ p2
    simp only[List.length_cons]at hch
    simp only[List.drop_succ_cons,List.drop_zero,List.headD_cons]
    exact jX_ h0 h1 x.role p t r [] (fun q hq=>G.roles q (by rw[hr];simp[hq])) (by rw[e];simp;omega) (by rw[e];simp[dc_ p2]) (by rw[e];simp;omega) n
 split
 ·have p:=G.role (by omega);have pl:=cS_ p
  exact di_ n ⟨rfl,⟨by simp,by simp,by simp,by dsimp only;omega,by simp,by simp⟩,val7 h0 h1 (dj_ p)⟩
 split
 ·have r:=G.right (by omega);have a2:=A _ hok.right r;have p:=G.a (by omega);have pl:=iu_ p
  exact di_ (Rr _ hok.right r _ n) ⟨rfl,⟨by simp;omega,by simp,by dsimp only;omega,by simp,by simp,by simp⟩,qh_ h0 h1 (ij_ p) a2.1⟩
 have p:=G.role (by omega);have pl:=cS_ p;have pa:=G.a (by omega);have pb:=G.b (by omega);have l1:=iu_ pa;have l2:=iu_ pb
 exact di_ n ⟨rfl,⟨by simp;omega,by simp,by simp;omega,by dsimp only;omega,by simp,by simp⟩,val3 h0 h1 (ij_ pa) (dj_ p) (ij_ pb)⟩
end
end Ax
namespace Con
end Con
def fs_:Nat→List Ax→List Pc
  | _,[]=>[]
  | i,x::l=>x.pieces (i:Int)++fs_ (i+1) l
theorem gR_:∀ (i:Nat) (l:List Ax),(∀ x∈l,x.check=0)→(fs_ i l).length≤1000*l.length
  | _,[],_=>by simp[fs_]
  | i,x::l,h=>by
    have h1:=gj_ (i:Int) (Ax.good_of (h x (by simp)))
    have h2:=gR_ (i+1) l fun y hy=>h y (by simp[hy])
    simp only[fs_,List.length_append,List.length_cons]
    omega
theorem kT_:∀ (l:List Ax) (i:Nat) (p:List Pc),(∀ x∈l,x.check=0)→p.length+1000*l.length≤16384→go_ i l p=some (p++fs_ i l)
  | [],i,p,_,_=>by simp[go_,fs_]
  | x::l,i,p,h,hl=>by
    have h1:=gj_ (i:Int) (Ax.good_of (h x (by simp)))
    simp only[List.length_cons]at hl
    simp only[go_,fs_]
    rw[if_neg (by simp;omega),kT_ l (i+1) _ (fun y hy=>h y (by simp[hy])) (by simp;omega),List.append_assoc]
theorem iL_:∀ (xs ys:List Ax) (i:Nat),fs_ i (xs++ys)=fs_ i xs++fs_ (i+xs.length) ys
  | [],ys,i=>by simp[fs_]
  | x::xs,ys,i=>by
    simp only[List.cons_append,fs_,List.length_cons,List.append_assoc]
    rw[iL_ xs ys (i+1),show i+1+xs.length=i+(xs.length+1) by omega]
theorem mZ_:∀ (l:List Ax) (i:Nat),i+l.length≤1024→(∀ x∈l,x.ok)→(∀ x∈l,x.check=0)→∀ q∈fs_ i l,(i:Int)≤q.frm∧q.frm<((i+l.length:Nat):Int)∧q.sm∧q.valid=true
 | [],_,_,_,_=>by simp[fs_]
 | x::l,i,hi,hok,hc=>by
   simp only[List.length_cons]at hi ⊢
   intro q hq
   simp only[fs_]at hq
   rcases List.mem_append.1 hq with hq|hq
   · have h:=Ax.pieces_all (f:=(i:Int)) (by omega) (by omega) (hok x (by simp)) (hc x (by simp)) q hq
     exact⟨by rw[h.frm];omega,by rw[h.frm];omega,h.sm,h.ok⟩
   · have h:=mZ_ l (i+1) (by omega) (fun y hy=>hok y (by simp[hy])) (fun y hy=>hc y (by simp[hy])) q hq
     exact⟨by omega,by omega,h.2.2⟩
theorem gS_:∀ {l:List Ax},cD_ l=0→∀ x∈l,x.check=0
 | [],_,_,h=>by cases h
 | y::l,hb,x,hx=>by
   simp only[cD_]at hb
   split at hb
   · rename_i hy
     rcases List.mem_cons.1 hx with rfl|hx
     · exact hy
     · exact gS_ hb x hx
   · rename_i hy;exact absurd hb hy
theorem hz_ {l:List Ax} (hl:l.length≤12) (h:∀ x∈l,x.check=0):aD_ l=(fs_ 0 l,0):=by
  unfold aD_
  rw[if_neg (by omega),if_neg (by simp[eN_ h]),kT_ l 0 [] h (by simp;omega)]
  simp
theorem gL_ {l:List Ax} (hl:l.length≤12) (h:cD_ l≠0):aD_ l=([],cD_ l):=by
  unfold aD_
  rw[if_neg (by omega),if_pos h]
end Go.Vs
namespace Go.Vs
open Go Go.Sx
section
variable {f:Int} {R:List Pc→List Pc→Prop} (hr:∀ l,R l l) (ht:∀ {a b c},R a b→R b c→R a c) (hi:∀ l p,R l (ins f l p))
include hr ht hi
end
structure Gr (a b:List Pc):Prop where
  nodup:a.Nodup→b.Nodup
  sub:∀ q∈a,q∈b
theorem Gr.refl (l:List Pc):Gr l l:=⟨id,fun _ h=>h⟩
theorem Gr.trans {a b c:List Pc} (h:Gr a b) (k:Gr b c):Gr a c:=⟨fun q=>k.nodup (h.nodup q),fun q hq=>k.sub q (h.sub q hq)⟩
theorem Gr.ins (f:Int) (l:List Pc) (p:Pc):Gr l (ins f l p):=by
 unfold Vs.ins
 split
 ·exact Gr.refl l
 rename_i h
 refine⟨fun hn=>?_,fun q hq=>List.mem_append_left _ hq⟩
 rw[List.nodup_append]
 exact⟨hn,by simp,fun a ha b hb=>by simp only[List.mem_singleton]at hb;subst hb;rintro rfl;exact h ha⟩
def wgt (c:Con):Nat:=if c.kind=0 then 0 else c.sz
end Go.Vs
