/-
  Lemmas for the law ModuleExtracts (no condition).
-/
import Derived.Test.YtbffkokbdeppaaaGreatDoorQModuleExtracts4
import Derived.ProofKit
import Derived.OpenShut
import Derived.ReadAgain
import Derived.Deep.Slices
import Derived.SevenTiedAt
import Derived.Stop.Joined
import Derived.Lay
import Derived.LaidMore
set_option linter.unusedVariables false
set_option linter.unusedSimpArgs false
set_option linter.unusedSectionVars false
set_option maxHeartbeats 1000000
namespace Go.Proofs.YtbffkokbdeppaaaGreatDoor
open Go Go.Sx Go.Proofs Tryz
attribute [local irreducible] Code.wp wpList wpAnyH
open Go.Vs
theorem CQ_ (x:Ax) (I:x.ok) (hc:x.check=0) {kb:Nat} (frm:Int) (q:CS) (hq:CInv [] q) :
    Tri prog 142 #[zp_ kb 0,x.val] (go_ kb frm q) [x.memF,cy_] (λ_:{q':CS // CInv (x.pieces frm) q'}=>.tuple #[]) (λq'=>go_ kb frm q'.1) (λ_=>[]):=by
  have G:=Ax.good_of hc;obtain⟨k,T,⟨kl,C,E,hl,al,cl,pl⟩,⟨B,y,lr,A,d,u,o⟩,ad,cap,J,L,a,b⟩:=x;have hlen:=I.len;have hcap:=I.cap;have h_1:=G.k1;have h_2:=G.k9;have h_3:([]:List Pc).length=0:=rfl;dsimp only at hlen hcap h_1 h_2;show Tri prog 142 #[zp_ kb 0,.agg (Ax.cells (Ax.mk k T (Con.mk kl C E hl al cl pl) (Con.mk B y lr A d u o) ad cap J L a b)).toArray] _ _ _ _ _
  refine l_ func142 rfl rfl ntmps142 rfl λv_1=>?_;refine Zz 2 ?_;refine Q_ rfl rfl λQ=>Zz 5 ?_
  refine d_ (wf_ kb) rfl (.refl _) zt rfl λx=>?_;obtain⟨bk,bl,br⟩:=x;refine Zj 16 (λhr_1=>?_) λhr_1=>?_
  . refine Zj 6 (λhr_2=>?_) λhr_2=>?_
    . refine Zj 6 (λhr_3=>?_) λhr_3=>?_
      . refine Zj 6 (λhr_4=>?_) λhr_4=>?_
        . refine Zj 6 (λhr_5=>?_) λhr_5=>?_
          . refine Zj 6 (λV=>?_) λV=>?_
            . refine Zj 6 (λU=>?_) λU=>?_
              . refine Zj 6 (λhr_8=>?_) λhr_8=>?_
                . refine Zj 6 (λY=>?_) λY=>?_
                  . exfalso;omega
                  . refine Zz 4 ?_;refine aW_ [(Q,.cells (Ax.cells (Ax.mk k T (Con.mk kl C E hl al cl pl) (Con.mk B y lr A d u o) ad cap J L a b)).toArray 30 (0,0))] zk ?_;refine C_ 5 [0,1,2,4,5,6,7] zk (λ_ a b=>⟨Vw.sat.sub a,b⟩) (Zz 8 ?_);refine j_ 3 rfl zk (d_ (dg_ a I.a) rfl (.refl _) zt rfl λ_=>Zz 2 ?_);refine y_ (λ_ a b=>⟨Vw.sat.sub a,b⟩) (j_ 8 rfl zk (d_ (dg_ b I.b) rfl (.refl _) zt rfl λ_=>Zz 2 ?_));refine y_ (λ_ a b=>⟨Vw.sat.sub a,b⟩) (C_ 2 [9] zk (λ_ a b=>⟨Vw.sat.sub a,b⟩) (G_ rfl (x_ ct_ rfl rfl) rfl (bd_ (j_ 10 rfl zk (p_ u_ ab_ N_ rfl rfl rfl rfl rfl rfl λS=>Zz 2 ?_)))));refine y_ (λ_ a b=>⟨Vw.sat.sub a.tail,b⟩) (j_ 11 rfl zk (d_ (ea_ ⟨3,([123]++a++[125]),[],([123]++b++[125]),L,[],[],0,0,0⟩ frm [] q hq zaa_) rfl (.cons _ (@List.perm_append_comm _ [_] _)) zt rfl λx=>?_));obtain⟨K,H⟩:=x;refine s_ (@List.perm_append_comm _ _ [_]) (Zz 2 ?_);refine y_ (λ_ a b=>⟨Vw.sat.sub a,b⟩) (Zz 2 ?_)
                    have e:Ax.pieces frm ⟨k,T,(.mk kl C E hl al cl pl),(.mk B y lr A d u o),ad,cap,J,L,a,b⟩=(ins frm [] ⟨3,([123]++a++[125]),[],([123]++b++[125]),L,[],[],0,0,0⟩):=by
                      unfold Ax.pieces;dsimp only
                      repeat (first|rfl|(rw[yax_ zaa_])|(rw[yam_ zaa_]))
                    exact end0 eS_ ⟨K,by rw[e];exact H⟩ rfl (F:=[_]) (@List.perm_append_comm _ [_] _) zt
                . obtain⟨fr,zr⟩:=Con.check_zero (G.right zbx_);dsimp only at fr zr;refine Zz 9 ?_;refine bb_ (fV_ (kb:=kb) (bk:=bk) (bs:=br) _ (.mk B y lr A d u o) (yab_ _) I.right fr [] q hq zaa_) rfl rfl (@List.perm_append_comm _ [_] _) (λv _ h=>by exact⟨h.2.2.2.1.2.1,h.2.2.2.2.1,h.1,h.2.2.1,trivial⟩) rfl λx=>?_;obtain⟨K,H⟩:=x;have R:=Con.rightP_len frm _ (.mk B y lr A d u o) (yab_ _) [];refine s_ (@List.perm_append_comm _ _ [_]) (Zz 2 ?_);refine aW_ [(Q,.cells (Ax.cells (Ax.mk k T (Con.mk kl C E hl al cl pl) (Con.mk B y lr A d u o) ad cap J L a b)).toArray 30 (0,0))] zk ?_;refine C_ 5 [0,1,2,4,5] zk (λ_ a b=>⟨Vw.sat.sub a,b⟩) (Zz 6 ?_);refine j_ 3 rfl zk (d_ (dg_ a I.a) rfl (.refl _) zt rfl λ_=>Zz 2 ?_);refine y_ (λ_ a b=>⟨Vw.sat.sub a,b⟩) (j_ 6 rfl zk (d_ (cJ_ (.mk B y lr A d u o) I.right) rfl (.refl _) (λv _ h=>⟨h.2.2.2.1.2.1,h.2.2.2.2.1,trivial⟩) rfl λ_=>Zz 2 ?_));refine y_ (λ_ a b=>⟨Vw.sat.sub a,b⟩) (C_ 2 [7] zk (λ_ a b=>⟨Vw.sat.sub a,b⟩) (G_ rfl (x_ ct_ rfl rfl) rfl (bd_ (j_ 8 rfl zk (p_ u_ ab_ N_ rfl rfl rfl rfl rfl rfl λS=>Zz 2 ?_)))));refine y_ (λ_ a b=>⟨Vw.sat.sub a.tail,b⟩) (j_ 9 rfl zk (d_ (ea_ ⟨1,([123]++a++[125]),[],(Con.atom (.mk B y lr A d u o)),[],[],[],0,0,0⟩ frm (Con.rightP frm (.mk B y lr A d u o) []) K H zaa_) rfl (.cons _ (@List.perm_append_comm _ [_] _)) zt rfl λx=>?_));obtain⟨O,M⟩:=x;refine s_ (@List.perm_append_comm _ _ [_]) (Zz 2 ?_);refine y_ (λ_ a b=>⟨Vw.sat.sub a,b⟩) (Zz 2 ?_)
                  have e:Ax.pieces frm ⟨k,T,(.mk kl C E hl al cl pl),(.mk B y lr A d u o),ad,cap,J,L,a,b⟩=(ins frm (Con.rightP frm (.mk B y lr A d u o) []) ⟨1,([123]++a++[125]),[],(Con.atom (.mk B y lr A d u o)),[],[],[],0,0,0⟩):=by
                    unfold Ax.pieces;dsimp only
                    repeat (first|rfl|(rw[yax_ zaa_])|(rw[yam_ zaa_]))
                  exact end0 eS_ ⟨O,by rw[e];exact M⟩ rfl (F:=[_]) (@List.perm_append_comm _ [_] _) zt
              . refine Zz 8 ?_;refine c_ (x_ ct_ rfl rfl) rfl (p_ u_ ab_ N_ rfl rfl rfl rfl rfl rfl λS=>d_ (ea_ ⟨7,[],[],[],L,[],[],0,0,0⟩ frm [] q hq zaa_) rfl (.cons _ (@List.perm_append_comm _ [_] _)) zt rfl λx=>?_);obtain⟨K,H⟩:=x;refine s_ (@List.perm_append_comm _ _ [_]) (Zz 2 ?_)
                have e:Ax.pieces frm ⟨k,T,(.mk kl C E hl al cl pl),(.mk B y lr A d u o),ad,cap,J,L,a,b⟩=(ins frm [] ⟨7,[],[],[],L,[],[],0,0,0⟩):=by
                  unfold Ax.pieces;dsimp only
                  repeat (first|rfl|(rw[yax_ zaa_])|(rw[yam_ zaa_]))
                exact end0 eS_ ⟨K,by rw[e];exact H⟩ rfl (F:=[_]) (@List.perm_append_comm _ [_] _) zt
            . have hch:=G.chain V;dsimp only at hch;have a2:0<J.length:=by omega
              obtain⟨P,U⟩:∃ P,J[0]? = some P:=⟨_,yaa_ a2⟩;refine Zz 8 ?_;refine c_ (J_ m_ B_ rfl rfl (λv _ h=>az_ (n:=1) au_ zaj_ (h.2.2.2.1.2.2) U) zaa_ zan_) rfl ?_;refine Zz 8 ?_;refine c_ (cq_ (i:=1) (j:=J.length) (kl:=.i64) (kh:=.i64) m_ B_ rfl rfl rfl zaa_ zaa_) rfl (Zz 5 ?_);refine bc_ [(0,zp_ kb 0),(3,zp_ Q 0),(6,str P),(130,.slice (sad ad cap 1 1) (J.length - 1) (cap - 1)),(131,i4_ ((J.length - 1:Nat):Int)),(132,i4_ ((0:Nat):Int))] zl ?_;have hr_8:=Con.plain_len (G.roles P (yad_ U));refine bs_ (ι:={x:Nat×Str×List Pc×CS // x.1<=J.length - 1/\CInv x.2.2.1 x.2.2.2/\x.2.2.1.length<=x.1/\x.2.1.length<=30*(x.1+1)/\Ax.chainP frm L (J.drop 1) P []=Ax.chainP frm L (J.drop (1+x.1)) x.2.1 x.2.2.1}) (λx=>[(0,zp_ kb 0),(3,zp_ Q 0),(6,str x.1.2.1),(130,.slice (sad ad cap 1 1) (J.length - 1) (cap - 1)),(131,i4_ ((J.length - 1:Nat):Int)),(132,i4_ x.1.1)]) (λx=>_::go_ kb frm x.1.2.2.2) (λ_=>_) (λx=>J.length - 1 - x.1.1) ⟨(0,P,[],q),by simp,hq,by simp,by simp;omega,rfl⟩ ?_;rintro ⟨⟨i,f,X,K⟩,hj⟩;dsimp only at hj;refine bc_ [(0,zp_ kb 0),(3,zp_ Q 0),(6,str f),(130,.slice (sad ad cap 1 1) (J.length - 1) (cap - 1)),(131,i4_ ((J.length - 1:Nat):Int)),(132,i4_ i)] zl ?_;refine Zj 2 (λY=>?_) λY=>?_
              . refine Zz 6 ?_
                have e:Ax.pieces frm ⟨k,T,(.mk kl C E hl al cl pl),(.mk B y lr A d u o),ad,cap,J,L,a,b⟩=Ax.chainP frm L (J.drop 1) P []:=by
                  unfold Ax.pieces;dsimp only;rw[hQ_ U]
                  repeat (first|rfl|(rw[yax_ zaa_])|(rw[yam_ zaa_]))
                have e_1:=hj.2.2.2.2;rw[yaO_ (show J.length<=1+i by omega)]at e_1;rw[e_1]at e;exact end0 eS_ ⟨K,by rw[e];exact hj.2.1⟩ rfl (F:=[_]) (@List.perm_append_comm _ [_] _) zt
              . have hlt:i<J.length - 1:=by omega
                obtain⟨g,hp⟩:∃ g,(J.drop 1)[i]? = some g:=⟨_,yaa_ zaC_⟩;have Z:J[1+i]? = some g:=by rw[<-List.getElem?_drop];exact hp
                have hg:=Con.plain_len (G.roles g (yad_ Z));have hro:=Con.plain_len (G.role (by show k=4\/k=5\/k=6\/k=7\/k=9;omega));dsimp only at hro;refine Zz 11 ?_;refine c_ (J_ m_ B_ rfl rfl (λv _ h=>az_ (n:=1) au_ zaj_ (bW_.rest au_ h.2.2.2.1.2.2 I.len 1) hp) zaa_ zan_) rfl ?_;refine c_ (aS_ (ad:=(sad ad cap 1 1)) aJ_ rfl (λv _ h=>bW_.rest au_ h.2.2.2.1.2.2 I.len 1) (t_ au_ hp 0 _ rfl)) rfl (Zj 19 (λhr_10=>?_) λhr_10=>?_)
                . refine Zz 11 ?_;refine c_ (x_ ct_ rfl rfl) rfl (p_ u_ ab_ N_ rfl rfl rfl rfl rfl rfl λS=>d_ (ea_ ⟨6,[],[],[],f,g,L,0,0,0⟩ frm X K hj.2.1 zaa_) rfl (.cons _ (@List.perm_append_comm _ [_] _)) zt rfl λx=>?_);obtain⟨O,H⟩:=x;have R:=cX_ frm X ⟨6,[],[],[],f,g,L,0,0,0⟩;refine s_ (@List.perm_append_comm _ _ [_]) (Zz 12 ?_);have a3:=fd_ Z;have a1:(J.drop (1+i+1)=[])↔¬ (i+2<J.length):=by rw[ycM_];omega
                  exact w_ ⟨(i+1,L,(ins frm X ⟨6,[],[],[],f,g,L,0,0,0⟩),O),by dsimp only;omega,H,by dsimp only;omega,by dsimp only;omega,by rw[hj.2.2.2.2,a3];simp only[Ax.chainP];rw[yax_ (by rw[a1];omega),show 1+(i+1)=1+i+1 by omega]⟩ zaC_ zl (F:=[]) zaS_ zh
                . refine Zz 5 ?_;refine c_ (bn_ rfl rfl zal_) rfl ?_;refine Zz 1 ?_;refine c_ (bn_ rfl rfl zal_) rfl ?_;refine Zz 9 ?_;refine c_ (x_ ct_ rfl rfl) rfl (p_ u_ ab_ N_ rfl rfl rfl rfl rfl rfl λS=>d_ (ea_ ⟨6,[],[],[],f,g,(f++[46])++g,0,0,0⟩ frm X K hj.2.1 zaa_) rfl (.cons _ (@List.perm_append_comm _ [_] _)) zt rfl λx=>?_);obtain⟨O,H⟩:=x;have R:=cX_ frm X ⟨6,[],[],[],f,g,(f++[46])++g,0,0,0⟩;refine s_ (@List.perm_append_comm _ _ [_]) (Zz 12 ?_);have a3:=fd_ Z;have a1:(J.drop (1+i+1)=[])↔¬ (i+2<J.length):=by rw[ycM_];omega
                  exact w_ ⟨(i+1,(f++[46])++g,(ins frm X ⟨6,[],[],[],f,g,(f++[46])++g,0,0,0⟩),O),by dsimp only;omega,H,by dsimp only;omega,by simp only[yae_,yap_,yaw_];omega,by rw[hj.2.2.2.2,a3];simp only[Ax.chainP];rw[yam_ (by rw[a1];omega),show 1+(i+1)=1+i+1 by omega]⟩ zaC_ zl (F:=[]) zaS_ zh
          . have a2:0<J.length:=by have:=G.one hr_5;dsimp only at this;omega
            obtain⟨P,V⟩:∃ P,J[0]? = some P:=⟨_,yaa_ a2⟩;refine Zz 4 ?_;refine aW_ [(Q,.cells (Ax.cells (Ax.mk k T (Con.mk kl C E hl al cl pl) (Con.mk B y lr A d u o) ad cap J L a b)).toArray 30 (0,0))] zk ?_;refine C_ 2 [0,1,2,3,4,5,6,7] zk (λ_ a b=>⟨Vw.sat.sub a,b⟩) (Zz 3 ?_);refine G_ rfl (J_ m_ B_ rfl rfl (λv _ h=>az_ (n:=1) au_ zaj_ (h.2.2.2.1.2.2) V) zaa_ zan_) rfl ?_;refine Zz 3 ?_;refine G_ rfl (x_ ct_ rfl rfl) rfl (bd_ (j_ 8 rfl zk (p_ u_ ab_ N_ rfl rfl rfl rfl rfl rfl λS=>Zz 2 ?_)));refine y_ (λ_ a b=>⟨Vw.sat.sub a.tail,b⟩) (j_ 9 rfl zk (d_ (ea_ ⟨5,[],[],[],P,[],L,0,0,0⟩ frm [] q hq zaa_) rfl (.cons _ (@List.perm_append_comm _ [_] _)) zt rfl λx=>?_));obtain⟨K,H⟩:=x;refine s_ (@List.perm_append_comm _ _ [_]) (Zz 2 ?_);refine y_ (λ_ a b=>⟨Vw.sat.sub a,b⟩) (Zz 2 ?_)
            have e:Ax.pieces frm ⟨k,T,(.mk kl C E hl al cl pl),(.mk B y lr A d u o),ad,cap,J,L,a,b⟩=(ins frm [] ⟨5,[],[],[],P,[],L,0,0,0⟩):=by
              unfold Ax.pieces;dsimp only;rw[hQ_ V]
              repeat (first|rfl|(rw[yax_ zaa_])|(rw[yam_ zaa_]))
            exact end0 eS_ ⟨K,by rw[e];exact H⟩ rfl (F:=[_]) (@List.perm_append_comm _ [_] _) zt
        . obtain⟨fr,zr⟩:=Con.check_zero (G.right zbx_);dsimp only at fr zr;refine Zz 9 ?_;refine bb_ (fV_ (kb:=kb) (bk:=bk) (bs:=br) _ (.mk B y lr A d u o) (yab_ _) I.right fr [] q hq zaa_) rfl rfl (@List.perm_append_comm _ [_] _) (λv _ h=>by exact⟨h.2.2.2.1.2.1,h.2.2.2.2.1,h.1,h.2.2.1,trivial⟩) rfl λx=>?_;obtain⟨K,H⟩:=x;have R:=Con.rightP_len frm _ (.mk B y lr A d u o) (yab_ _) [];refine s_ (@List.perm_append_comm _ _ [_]) (Zz 2 ?_);refine aW_ [(Q,.cells (Ax.cells (Ax.mk k T (Con.mk kl C E hl al cl pl) (Con.mk B y lr A d u o) ad cap J L a b)).toArray 30 (0,0))] zk ?_;refine C_ 4 [0,1,2,3,4] zk (λ_ a b=>⟨Vw.sat.sub a,b⟩) (Zz 6 ?_);refine j_ 5 rfl zk (d_ (cJ_ (.mk B y lr A d u o) I.right) rfl (.refl _) (λv _ h=>⟨h.2.2.2.1.2.1,h.2.2.2.2.1,trivial⟩) rfl λ_=>Zz 2 ?_);refine y_ (λ_ a b=>⟨Vw.sat.sub a,b⟩) (C_ 2 [6] zk (λ_ a b=>⟨Vw.sat.sub a,b⟩) (G_ rfl (x_ ct_ rfl rfl) rfl (bd_ (j_ 7 rfl zk (p_ u_ ab_ N_ rfl rfl rfl rfl rfl rfl λS=>Zz 2 ?_)))));refine y_ (λ_ a b=>⟨Vw.sat.sub a.tail,b⟩) (j_ 8 rfl zk (d_ (ea_ ⟨4,[42],[],(Con.atom (.mk B y lr A d u o)),L,[],[],0,0,0⟩ frm (Con.rightP frm (.mk B y lr A d u o) []) K H zaa_) rfl (.cons _ (@List.perm_append_comm _ [_] _)) zt rfl λx=>?_));obtain⟨O,M⟩:=x;refine s_ (@List.perm_append_comm _ _ [_]) (Zz 2 ?_);refine y_ (λ_ a b=>⟨Vw.sat.sub a,b⟩) (Zz 2 ?_)
          have e:Ax.pieces frm ⟨k,T,(.mk kl C E hl al cl pl),(.mk B y lr A d u o),ad,cap,J,L,a,b⟩=(ins frm (Con.rightP frm (.mk B y lr A d u o) []) ⟨4,[42],[],(Con.atom (.mk B y lr A d u o)),L,[],[],0,0,0⟩):=by
            unfold Ax.pieces;dsimp only
            repeat (first|rfl|(rw[yax_ zaa_])|(rw[yam_ zaa_]))
          exact end0 eS_ ⟨O,by rw[e];exact M⟩ rfl (F:=[_]) (@List.perm_append_comm _ [_] _) zt
      . obtain⟨fl,zl⟩:=Con.check_zero (G.left (by show k<=3;omega));dsimp only at fl zl;obtain⟨fr,zr⟩:=Con.check_zero (G.right zbx_);dsimp only at fr zr;refine Zz 9 ?_;refine bb_ (hy_ (kb:=kb) (bk:=bk) (bs:=bl) _ (.mk kl C E hl al cl pl) (yab_ _) I.left fl [] q hq zaa_) rfl rfl (@List.perm_append_comm _ [_] _) (λv _ h=>by exact⟨h.2.2.2.1.1,h.2.2.2.2.1,h.1,h.2.1,trivial⟩) rfl λx=>?_;obtain⟨K,H⟩:=x;have R:=Con.leftP_len frm _ (.mk kl C E hl al cl pl) (yab_ _) [];refine s_ (@List.perm_append_comm _ _ [_]) (Zz 7 ?_);refine bb_ (hy_ (kb:=kb) (bk:=bk) (bs:=bl) _ (.mk B y lr A d u o) (yab_ _) I.right fr (Con.leftP frm (.mk kl C E hl al cl pl) []) K H zaa_) rfl rfl (@List.perm_append_comm _ [_] _) (λv _ h=>by exact⟨h.2.2.2.1.2.1,h.2.2.2.2.1,h.1,h.2.1,trivial⟩) rfl λx=>?_;obtain⟨O,M⟩:=x;have hb_2:=Con.leftP_len frm _ (.mk B y lr A d u o) (yab_ _) (Con.leftP frm (.mk kl C E hl al cl pl) []);refine s_ (@List.perm_append_comm _ _ [_]) (Zz 2 ?_);refine aW_ [(Q,.cells (Ax.cells (Ax.mk k T (Con.mk kl C E hl al cl pl) (Con.mk B y lr A d u o) ad cap J L a b)).toArray 30 (0,0))] zk ?_;refine C_ 5 [0,1,2,4,5] zk (λ_ a b=>⟨Vw.sat.sub a,b⟩) (Zz 6 ?_);refine j_ 3 rfl zk (d_ (cJ_ (.mk kl C E hl al cl pl) I.left) rfl (.refl _) (λv _ h=>⟨h.2.2.2.1.1,h.2.2.2.2.1,trivial⟩) rfl λ_=>Zz 2 ?_);refine y_ (λ_ a b=>⟨Vw.sat.sub a,b⟩) (j_ 6 rfl zk (d_ (cJ_ (.mk B y lr A d u o) I.right) rfl (.refl _) (λv _ h=>⟨h.2.2.2.1.2.1,h.2.2.2.2.1,trivial⟩) rfl λ_=>Zz 2 ?_));refine y_ (λ_ a b=>⟨Vw.sat.sub a,b⟩) (C_ 2 [7] zk (λ_ a b=>⟨Vw.sat.sub a,b⟩) (G_ rfl (x_ ct_ rfl rfl) rfl (bd_ (j_ 8 rfl zk (p_ u_ ab_ N_ rfl rfl rfl rfl rfl rfl λS=>Zz 2 ?_)))));refine y_ (λ_ a b=>⟨Vw.sat.sub a.tail,b⟩) (j_ 9 rfl zk (d_ (ea_ ⟨2,(Con.atom (.mk kl C E hl al cl pl)),(Con.atom (.mk B y lr A d u o)),[33],[],[],[],0,0,0⟩ frm (Con.leftP frm (.mk B y lr A d u o) (Con.leftP frm (.mk kl C E hl al cl pl) [])) O M zaa_) rfl (.cons _ (@List.perm_append_comm _ [_] _)) zt rfl λx=>?_));obtain⟨a0,W⟩:=x;refine s_ (@List.perm_append_comm _ _ [_]) (Zz 2 ?_);refine y_ (λ_ a b=>⟨Vw.sat.sub a,b⟩) (Zz 2 ?_)
        have e:Ax.pieces frm ⟨k,T,(.mk kl C E hl al cl pl),(.mk B y lr A d u o),ad,cap,J,L,a,b⟩=(ins frm (Con.leftP frm (.mk B y lr A d u o) (Con.leftP frm (.mk kl C E hl al cl pl) [])) ⟨2,(Con.atom (.mk kl C E hl al cl pl)),(Con.atom (.mk B y lr A d u o)),[33],[],[],[],0,0,0⟩):=by
          unfold Ax.pieces;dsimp only
          repeat (first|rfl|(rw[yax_ zaa_])|(rw[yam_ zaa_]))
        exact end0 eS_ ⟨a0,by rw[e];exact W⟩ rfl (F:=[_]) (@List.perm_append_comm _ [_] _) zt
    . obtain⟨fl,zl⟩:=Con.check_zero (G.left (by show k<=3;omega));dsimp only at fl zl;obtain⟨fr,zr⟩:=Con.check_zero (G.right zbx_);dsimp only at fr zr;refine Zz 9 ?_;refine bb_ (hy_ (kb:=kb) (bk:=bk) (bs:=bl) _ (.mk kl C E hl al cl pl) (yab_ _) I.left fl [] q hq zaa_) rfl rfl (@List.perm_append_comm _ [_] _) (λv _ h=>by exact⟨h.2.2.2.1.1,h.2.2.2.2.1,h.1,h.2.1,trivial⟩) rfl λx=>?_;obtain⟨K,H⟩:=x;have R:=Con.leftP_len frm _ (.mk kl C E hl al cl pl) (yab_ _) [];refine s_ (@List.perm_append_comm _ _ [_]) (Zz 7 ?_);refine bb_ (fV_ (kb:=kb) (bk:=bk) (bs:=br) _ (.mk B y lr A d u o) (yab_ _) I.right fr (Con.leftP frm (.mk kl C E hl al cl pl) []) K H zaa_) rfl rfl (@List.perm_append_comm _ [_] _) (λv _ h=>by exact⟨h.2.2.2.1.2.1,h.2.2.2.2.1,h.1,h.2.2.1,trivial⟩) rfl λx=>?_;obtain⟨O,M⟩:=x;have hb_2:=Con.rightP_len frm _ (.mk B y lr A d u o) (yab_ _) (Con.leftP frm (.mk kl C E hl al cl pl) []);refine s_ (@List.perm_append_comm _ _ [_]) (Zz 3 ?_);refine aW_ [(Q,.cells (Ax.cells (Ax.mk k T (Con.mk kl C E hl al cl pl) (Con.mk B y lr A d u o) ad cap J L a b)).toArray 30 (0,0))] zk ?_;refine C_ 5 [0,1,2,4,5] zk (λ_ a b=>⟨Vw.sat.sub a,b⟩) (Zz 6 ?_);refine j_ 3 rfl zk (d_ (cJ_ (.mk kl C E hl al cl pl) I.left) rfl (.refl _) (λv _ h=>⟨h.2.2.2.1.1,h.2.2.2.2.1,trivial⟩) rfl λ_=>Zz 2 ?_);refine y_ (λ_ a b=>⟨Vw.sat.sub a,b⟩) (j_ 6 rfl zk (d_ (cJ_ (.mk B y lr A d u o) I.right) rfl (.refl _) (λv _ h=>⟨h.2.2.2.1.2.1,h.2.2.2.2.1,trivial⟩) rfl λ_=>Zz 2 ?_));refine y_ (λ_ a b=>⟨Vw.sat.sub a,b⟩) (C_ 2 [7] zk (λ_ a b=>⟨Vw.sat.sub a,b⟩) (G_ rfl (x_ ct_ rfl rfl) rfl (bd_ (j_ 8 rfl zk (p_ u_ ab_ N_ rfl rfl rfl rfl rfl rfl λS=>Zz 2 ?_)))));refine y_ (λ_ a b=>⟨Vw.sat.sub a.tail,b⟩) (j_ 9 rfl zk (d_ (ea_ ⟨1,(Con.atom (.mk kl C E hl al cl pl)),[],(Con.atom (.mk B y lr A d u o)),[],[],[],0,0,0⟩ frm (Con.rightP frm (.mk B y lr A d u o) (Con.leftP frm (.mk kl C E hl al cl pl) [])) O M zaa_) rfl (.cons _ (@List.perm_append_comm _ [_] _)) zt rfl λx=>?_));obtain⟨a0,W⟩:=x;have hb_3:=cX_ frm (Con.rightP frm (.mk B y lr A d u o) (Con.leftP frm (.mk kl C E hl al cl pl) [])) ⟨1,(Con.atom (.mk kl C E hl al cl pl)),[],(Con.atom (.mk B y lr A d u o)),[],[],[],0,0,0⟩;refine s_ (@List.perm_append_comm _ _ [_]) (Zz 2 ?_);refine y_ (λ_ a b=>⟨Vw.sat.sub a,b⟩) (Zz 7 ?_);refine bb_ (hy_ (kb:=kb) (bk:=bk) (bs:=bl) _ (.mk B y lr A d u o) (yab_ _) I.right fr (ins frm (Con.rightP frm (.mk B y lr A d u o) (Con.leftP frm (.mk kl C E hl al cl pl) [])) ⟨1,(Con.atom (.mk kl C E hl al cl pl)),[],(Con.atom (.mk B y lr A d u o)),[],[],[],0,0,0⟩) a0 W zaa_) rfl rfl (@List.perm_append_comm _ [_] _) (λv _ h=>by exact⟨h.2.2.2.1.2.1,h.2.2.2.2.1,h.1,h.2.1,trivial⟩) rfl λx=>?_;obtain⟨q_4,hq_4⟩:=x;have hb_4:=Con.leftP_len frm _ (.mk B y lr A d u o) (yab_ _) (ins frm (Con.rightP frm (.mk B y lr A d u o) (Con.leftP frm (.mk kl C E hl al cl pl) [])) ⟨1,(Con.atom (.mk kl C E hl al cl pl)),[],(Con.atom (.mk B y lr A d u o)),[],[],[],0,0,0⟩);refine s_ (@List.perm_append_comm _ _ [_]) (Zz 7 ?_);refine bb_ (fV_ (kb:=kb) (bk:=bk) (bs:=br) _ (.mk kl C E hl al cl pl) (yab_ _) I.left fl (Con.leftP frm (.mk B y lr A d u o) (ins frm (Con.rightP frm (.mk B y lr A d u o) (Con.leftP frm (.mk kl C E hl al cl pl) [])) ⟨1,(Con.atom (.mk kl C E hl al cl pl)),[],(Con.atom (.mk B y lr A d u o)),[],[],[],0,0,0⟩)) q_4 hq_4 zaa_) rfl rfl (@List.perm_append_comm _ [_] _) (λv _ h=>by exact⟨h.2.2.2.1.1,h.2.2.2.2.1,h.1,h.2.2.1,trivial⟩) rfl λx=>?_;obtain⟨q_5,hq_5⟩:=x;have hb_5:=Con.rightP_len frm _ (.mk kl C E hl al cl pl) (yab_ _) (Con.leftP frm (.mk B y lr A d u o) (ins frm (Con.rightP frm (.mk B y lr A d u o) (Con.leftP frm (.mk kl C E hl al cl pl) [])) ⟨1,(Con.atom (.mk kl C E hl al cl pl)),[],(Con.atom (.mk B y lr A d u o)),[],[],[],0,0,0⟩));refine s_ (@List.perm_append_comm _ _ [_]) (Zz 2 ?_);refine aW_ [(Q,.cells (Ax.cells (Ax.mk k T (Con.mk kl C E hl al cl pl) (Con.mk B y lr A d u o) ad cap J L a b)).toArray 30 (0,0))] zk ?_;refine C_ 5 [0,1,2,4,5] zk (λ_ a b=>⟨Vw.sat.sub a,b⟩) (Zz 6 ?_);refine j_ 3 rfl zk (d_ (cJ_ (.mk B y lr A d u o) I.right) rfl (.refl _) (λv _ h=>⟨h.2.2.2.1.2.1,h.2.2.2.2.1,trivial⟩) rfl λ_=>Zz 2 ?_);refine y_ (λ_ a b=>⟨Vw.sat.sub a,b⟩) (j_ 6 rfl zk (d_ (cJ_ (.mk kl C E hl al cl pl) I.left) rfl (.refl _) (λv _ h=>⟨h.2.2.2.1.1,h.2.2.2.2.1,trivial⟩) rfl λ_=>Zz 2 ?_));refine y_ (λ_ a b=>⟨Vw.sat.sub a,b⟩) (C_ 2 [7] zk (λ_ a b=>⟨Vw.sat.sub a,b⟩) (G_ rfl (x_ ct_ rfl rfl) rfl (bd_ (j_ 8 rfl zk (p_ u_ ab_ N_ rfl rfl rfl rfl rfl rfl λb_3=>Zz 2 ?_)))));refine y_ (λ_ a b=>⟨Vw.sat.sub a.tail,b⟩) (j_ 9 rfl zk (d_ (ea_ ⟨1,(Con.atom (.mk B y lr A d u o)),[],(Con.atom (.mk kl C E hl al cl pl)),[],[],[],0,0,0⟩ frm (Con.rightP frm (.mk kl C E hl al cl pl) (Con.leftP frm (.mk B y lr A d u o) (ins frm (Con.rightP frm (.mk B y lr A d u o) (Con.leftP frm (.mk kl C E hl al cl pl) [])) ⟨1,(Con.atom (.mk kl C E hl al cl pl)),[],(Con.atom (.mk B y lr A d u o)),[],[],[],0,0,0⟩))) q_5 hq_5 zaa_) rfl (.cons _ (@List.perm_append_comm _ [_] _)) zt rfl λx=>?_));obtain⟨q_6,hq_6⟩:=x;refine s_ (@List.perm_append_comm _ _ [_]) (Zz 2 ?_);refine y_ (λ_ a b=>⟨Vw.sat.sub a,b⟩) (Zz 2 ?_)
      have e:Ax.pieces frm ⟨k,T,(.mk kl C E hl al cl pl),(.mk B y lr A d u o),ad,cap,J,L,a,b⟩=(ins frm (Con.rightP frm (.mk kl C E hl al cl pl) (Con.leftP frm (.mk B y lr A d u o) (ins frm (Con.rightP frm (.mk B y lr A d u o) (Con.leftP frm (.mk kl C E hl al cl pl) [])) ⟨1,(Con.atom (.mk kl C E hl al cl pl)),[],(Con.atom (.mk B y lr A d u o)),[],[],[],0,0,0⟩))) ⟨1,(Con.atom (.mk B y lr A d u o)),[],(Con.atom (.mk kl C E hl al cl pl)),[],[],[],0,0,0⟩):=by
        unfold Ax.pieces;dsimp only
        repeat (first|rfl|(rw[yax_ zaa_])|(rw[yam_ zaa_]))
      exact end0 eS_ ⟨q_6,by rw[e];exact hq_6⟩ rfl (F:=[_]) (@List.perm_append_comm _ [_] _) zt
  . obtain⟨fl,zl⟩:=Con.check_zero (G.left (by show k<=3;omega));dsimp only at fl zl;obtain⟨fr,zr⟩:=Con.check_zero (G.right zbx_);dsimp only at fr zr;refine Zz 9 ?_;refine bb_ (hy_ (kb:=kb) (bk:=bk) (bs:=bl) _ (.mk kl C E hl al cl pl) (yab_ _) I.left fl [] q hq zaa_) rfl rfl (@List.perm_append_comm _ [_] _) (λv _ h=>by exact⟨h.2.2.2.1.1,h.2.2.2.2.1,h.1,h.2.1,trivial⟩) rfl λx=>?_;obtain⟨K,H⟩:=x;have R:=Con.leftP_len frm _ (.mk kl C E hl al cl pl) (yab_ _) [];refine s_ (@List.perm_append_comm _ _ [_]) (Zz 7 ?_);refine bb_ (fV_ (kb:=kb) (bk:=bk) (bs:=br) _ (.mk B y lr A d u o) (yab_ _) I.right fr (Con.leftP frm (.mk kl C E hl al cl pl) []) K H zaa_) rfl rfl (@List.perm_append_comm _ [_] _) (λv _ h=>by exact⟨h.2.2.2.1.2.1,h.2.2.2.2.1,h.1,h.2.2.1,trivial⟩) rfl λx=>?_;obtain⟨O,M⟩:=x;have hb_2:=Con.rightP_len frm _ (.mk B y lr A d u o) (yab_ _) (Con.leftP frm (.mk kl C E hl al cl pl) []);refine s_ (@List.perm_append_comm _ _ [_]) (Zz 2 ?_);refine aW_ [(Q,.cells (Ax.cells (Ax.mk k T (Con.mk kl C E hl al cl pl) (Con.mk B y lr A d u o) ad cap J L a b)).toArray 30 (0,0))] zk ?_;refine C_ 5 [0,1,2,4,5] zk (λ_ a b=>⟨Vw.sat.sub a,b⟩) (Zz 6 ?_);refine j_ 3 rfl zk (d_ (cJ_ (.mk kl C E hl al cl pl) I.left) rfl (.refl _) (λv _ h=>⟨h.2.2.2.1.1,h.2.2.2.2.1,trivial⟩) rfl λ_=>Zz 2 ?_);refine y_ (λ_ a b=>⟨Vw.sat.sub a,b⟩) (j_ 6 rfl zk (d_ (cJ_ (.mk B y lr A d u o) I.right) rfl (.refl _) (λv _ h=>⟨h.2.2.2.1.2.1,h.2.2.2.2.1,trivial⟩) rfl λ_=>Zz 2 ?_));refine y_ (λ_ a b=>⟨Vw.sat.sub a,b⟩) (C_ 2 [7] zk (λ_ a b=>⟨Vw.sat.sub a,b⟩) (G_ rfl (x_ ct_ rfl rfl) rfl (bd_ (j_ 8 rfl zk (p_ u_ ab_ N_ rfl rfl rfl rfl rfl rfl λS=>Zz 2 ?_)))));refine y_ (λ_ a b=>⟨Vw.sat.sub a.tail,b⟩) (j_ 9 rfl zk (d_ (ea_ ⟨1,(Con.atom (.mk kl C E hl al cl pl)),[],(Con.atom (.mk B y lr A d u o)),[],[],[],0,0,0⟩ frm (Con.rightP frm (.mk B y lr A d u o) (Con.leftP frm (.mk kl C E hl al cl pl) [])) O M zaa_) rfl (.cons _ (@List.perm_append_comm _ [_] _)) zt rfl λx=>?_));obtain⟨a0,W⟩:=x;refine s_ (@List.perm_append_comm _ _ [_]) (Zz 2 ?_);refine y_ (λ_ a b=>⟨Vw.sat.sub a,b⟩) (Zz 2 ?_)
    have e:Ax.pieces frm ⟨k,T,(.mk kl C E hl al cl pl),(.mk B y lr A d u o),ad,cap,J,L,a,b⟩=(ins frm (Con.rightP frm (.mk B y lr A d u o) (Con.leftP frm (.mk kl C E hl al cl pl) [])) ⟨1,(Con.atom (.mk kl C E hl al cl pl)),[],(Con.atom (.mk B y lr A d u o)),[],[],[],0,0,0⟩):=by
      unfold Ax.pieces;dsimp only
      repeat (first|rfl|(rw[yax_ zaa_])|(rw[yam_ zaa_]))
    exact end0 eS_ ⟨a0,by rw[e];exact W⟩ rfl (F:=[_]) (@List.perm_append_comm _ [_] _) zt
theorem av_.form {e:TypeId} {sz n:Nat} {sv:Value} {xs:List Value} {Hr:Hp} (h:av_ e sz sv n xs Hr):∃ ad cap,sv=.slice ad n cap:=by
  rcases h.2 with⟨d,k,_⟩|⟨g,cap,cur,d,_⟩
  all_goals grind
theorem av_.nilcap {e:TypeId} {sz n m cap:Nat} {sv:Value} {xs:List Value} {Hr:Hp} {ad:Ao} (h:av_ e sz sv n xs Hr) (o:sv=.slice ad m cap):ad=none->cap=0:=λk=>by
  rcases h.2 with⟨d,_,_⟩|⟨g,c,cur,d,_⟩
  all_goals grind
theorem qR_ (l:List Ax) (ad:Ao) (cap:Nat) (a8:l.length<=2199023255488) (V:∀ x∈l,x.ok) :
    Tri prog 66 #[.slice ad l.length cap] [] [bA_ ad l,cy_] (λy:{y:Ao×Nat // (aX_ l).1.length<=y.2/\y.2<=maxLen/\(y.1=none->y.2=0)}=>.tuple #[.slice y.1.1 (aX_ l).1.length y.1.2,i4_ (aX_ l).2]) (λ_=>[]) (λy=>[O_ y.1.1 ((aX_ l).1.flatMap Pc.cells)]):=by
  refine l_ func66 rfl rfl ntmps66 rfl λv_1=>?_;refine aq_ ?_;refine S_ ?_;refine c_ (X_ rfl) rfl ?_;refine c_ (X_ rfl) rfl ?_;refine ai_ ?_;refine ac_ rfl ?_;refine aq_ ?_;refine aq_ ?_;refine S_ ?_;refine c_ (P_ rfl) rfl ?_;refine c_ (dS_ aw_ rfl) rfl ?_;refine A_ (ec_ rfl rfl) rfl λa3 C=>?_;refine ai_ ?_;refine ac_ rfl ?_;cases a3
  . replace C:=zdf C;refine bU_ rfl ?_;refine cQ_ ?_;refine ac_ rfl ?_;refine aq_ ?_;refine aq_ ?_;refine S_ ?_;refine c_ (P_ rfl) rfl ?_;refine c_ (dS_ aw_ rfl) rfl ?_;refine c_ (P_ rfl) rfl ?_;refine ai_ ?_;refine ac_ rfl ?_;refine cC_ ?_;refine bc_ [(0,.slice ad l.length cap),(2,.slice none 0 0),(13,.slice ad l.length cap),(14,i4_ l.length),(15,i4_ ((0:Nat):Int))] zl ?_;refine bs_ (ι:={q:Nat // q<=l.length/\∀ y∈l.take q,y.check=0}) (λi=>[(0,.slice ad l.length cap),(2,.slice none 0 0),(13,.slice ad l.length cap),(14,i4_ l.length),(15,i4_ i.1)]) (λ_=>_) (λ_=>_) (λi=>l.length - i.1) ⟨0,by simp⟩ ?_;rintro ⟨i,H⟩;refine bc_ [(0,.slice ad l.length cap),(2,.slice none 0 0),(13,.slice ad l.length cap),(14,i4_ l.length),(15,i4_ i)] zl ?_;refine aq_ ?_;refine S_ ?_;refine A_ (dw_ rfl rfl) rfl λa2 J=>?_;refine ai_ ?_;refine ac_ rfl ?_;refine aq_ ?_;cases a2
    . replace J:=zdf J;obtain rfl:i=l.length:=by omega
      try rw[ybE_]at H
      refine bU_ rfl ?_;refine ge_ rfl ?_;refine ac_ rfl ?_;refine aq_ ?_;refine aq_ ?_;refine S_ ?_;refine c_ (P_ rfl) rfl ?_;refine c_ (dS_ aw_ rfl) rfl ?_;refine c_ (P_ rfl) rfl ?_;refine ai_ ?_;refine ac_ rfl ?_;refine cC_ ?_;have I:=H.2;refine bc_ [(2,.slice none 0 0),(25,.slice ad l.length cap),(26,i4_ l.length),(27,i4_ ((0:Nat):Int))] zl ?_;refine bs_ (ι:={x:Nat×List Pc×Value×Hp // x.1<=l.length/\av_ 80 10 x.2.2.1 x.2.1.length (x.2.1.flatMap Pc.cells) x.2.2.2/\x.2.1.length<=16384/\gX_ 0 l []=gX_ x.1 (l.drop x.1) x.2.1}) (λx=>[(2,x.1.2.2.1),(25,.slice ad l.length cap),(26,i4_ l.length),(27,i4_ x.1.1)]) (λx=>x.1.2.2.2) (λ_=>_) (λx=>l.length - x.1.1) ⟨(0,[],.slice none 0 0,[]),by simp,av_.nil _ _,by simp,rfl⟩ ?_;clear H;rintro ⟨⟨i,p,sv,Hr⟩,H⟩;dsimp only at H;refine bc_ [(2,sv),(25,.slice ad l.length cap),(26,i4_ l.length),(27,i4_ i)] zl ?_;refine aq_ ?_;refine S_ ?_;refine A_ (dw_ rfl rfl) rfl λS d=>?_;refine ai_ ?_;refine ac_ rfl ?_;refine aq_ ?_;cases S
      . replace d:=zdf d;obtain rfl:i=l.length:=by omega
        try rw[ybE_]at H
        refine bU_ rfl ?_;refine ge_ rfl ?_;refine ac_ rfl ?_;refine aq_ ?_;refine S_ ?_;refine c_ (P_ rfl) rfl ?_;refine c_ (X_ rfl) rfl ?_;refine c_ (X_ rfl) rfl ?_;refine ai_ ?_;refine ac_ rfl ?_;refine dU_ ?_;refine dI_ H.2.1 (F:=[]) (by rw[yas_]) λo k M U Y=>?_
        have e:aX_ l=(p,0):=by
          unfold aX_;rw[yam_ zaa_,yam_ (by simp[ev_ I]),H.2.2.2,List.drop_length];first|done|rfl
        have A:(aX_ l).1.length<=k/\k<=maxLen/\(o=none->k=0):=by rw[e];exact⟨U,Y,av_.nilcap H.2.1 M⟩
        have Q:Value.tuple #[sv,i4_ 0]=.tuple #[.slice o (aX_ l).1.length k,i4_ (aX_ l).2]:=by rw[e,M]
        have R:(p.flatMap Pc.cells)=((aX_ l).1.flatMap Pc.cells):=by rw[e]
        exact gN_ results66 ⟨(o,k),A⟩ rfl rfl Q (.refl _) (λv _ h=>⟨R▸h.1,trivial⟩)
      . replace d:=zdt d;have L:i<l.length:=by omega
        obtain⟨x,K⟩:∃ x,l[i]? = some x:=⟨_,yaa_ L⟩;have B:x∈l:=yad_ K;refine bT_ rfl ?_;refine cQ_ ?_;refine ac_ rfl ?_;refine aq_ ?_;refine cC_ ?_;refine aq_ ?_;have G:=Ax.good_of (I x B);have b1:=im_ (i:Int) G;refine S_ ?_;refine c_ (P_ rfl) rfl ?_;refine c_ (J_ aw_ D_ rfl rfl (λv _ h=>az_ (n:=16) Ax.cells_len zaj_ (h.1.1) K) zaa_ zan_) rfl ?_;refine c_ (ax_ (ad:=ad) (us:=x.cells) bg_ D_ rfl (λv _ h=>h.1.1) (Ax.cells_len _) (t_ Ax.cells_len K)) rfl ?_;refine K_ aQ_ rfl λa1=>?_;refine c_ (X_ rfl) rfl ?_;refine pr_ (us:=x.cells) 0 D_ x.cells_len x.one_cells rfl rfl rfl rfl ?_;refine ai_ ?_;refine ac_ rfl ?_;refine aq_ ?_;refine S_ ?_;refine c_ (P_ rfl) rfl ?_;refine d_ (jH_ (i:Int)) rfl (.refl _) zt rfl λ⟨kb,bm⟩=>?_;refine c_ (X_ rfl) rfl ?_;refine ai_ ?_;refine ac_ rfl ?_;refine aq_ ?_;refine S_ ?_;refine c_ (P_ rfl) rfl ?_;refine c_ (qv_ (us:=x.cells) 2 bg_ D_ x.cells_len rfl rfl) rfl ?_;refine d_ (CQ_ x (V x B) (I x B) (i:Int) ⟨.slice none 0 0,bm,#[],0,[]⟩ ⟨av_.nil _ _,rfl,by simp⟩) rfl (.refl _) (λv _ h=>⟨h.1.2 x B,h.2.1,trivial⟩) rfl λy=>?_;obtain⟨⟨a6,b0,a5,a7,a9⟩,hq⟩:=y;have T:=hq.row;dsimp only at T;have W:(x.pieces (i:Int)).length≠0:=λe=>Ax.pieces_ne _ G (yau_ e)
        obtain⟨g,cp,cur,rfl,rfl,h_1,b2,h_3,a0⟩:=T.some W;refine ai_ ?_;refine ac_ rfl ?_;refine aq_ ?_;refine S_ ?_;refine c_ (P_ rfl) rfl ?_;refine c_ (P_ rfl) rfl ?_;refine c_ (qt_ rfl) rfl ?_;refine c_ (bl_ runUnderlying142 rfl rfl rfl aN_) rfl ?_;refine c_ (aK_ 0 isAgg69 rfl rfl rfl) rfl ?_;refine am_ AG_ H.2.1 rfl rfl (@List.perm_append_comm _ [_,_,_,_] _) zaQ_ (yc_ 2 rfl a0) (λu hu=>by obtain⟨y,_,A⟩:=ybe_.1 hu;exact dn_ y.cells_one u A) zay_ zaa_ rfl λO X P=>?_;refine s_ (@List.perm_append_comm _ _ [_,_,_,_]) ?_;have Z:∃ o k,O=.slice o (p.length+(x.pieces (i:Int)).length) k:=av_.form P;obtain⟨o,k,M⟩:=Z;refine c_ (X_ rfl) rfl ?_;refine ai_ ?_;refine ac_ rfl ?_;refine aq_ ?_;refine S_ ?_;refine c_ (P_ rfl) rfl ?_;refine c_ (dS_ (ad:=o) (len:=p.length+(x.pieces (i:Int)).length) (cap:=k) u_ (yag_ some M)) rfl ?_;refine A_ (ec_ rfl rfl) rfl λa4 E=>?_;refine ai_ ?_;refine ac_ rfl ?_;cases a4
        . replace E:=zdf E;refine bU_ rfl ?_;refine cQ_ ?_;refine ac_ rfl ?_;refine S_ ?_;refine c_ (aT_ rfl rfl rfl (bB_ zaa_ zaa_)) rfl ?_;refine c_ (P_ rfl) rfl ?_;refine ai_ ?_;refine bE_ rfl ?_;exact w_ ⟨(i+1,p++x.pieces (i:Int),O,X),L,by simpa [yan_] using P,by simp only[yae_];omega,by rw[H.2.2.2,fd_ K];simp only[gX_];rw[yam_ zbs_]⟩ zaC_ zl (F:=[_,_,_,_]) (@List.perm_append_comm _ [_,_,_,_] _) zh
        . replace E:=zdt E;refine bT_ rfl ?_;refine aq_ ?_;refine S_ ?_;refine c_ (X_ rfl) rfl ?_;refine c_ (X_ rfl) rfl ?_;refine ai_ ?_;refine ac_ rfl ?_;refine dU_ ?_;have e:aX_ l=([],2):=by unfold aX_;rw[yam_ zaa_,yam_ (by simp[ev_ I]),H.2.2.2,fd_ K];simp only[gX_];rw[yax_ zbs_]
          have A:(aX_ l).1.length<=0/\0<=maxLen/\((none:Ao)=none->0=0):=by rw[e];simp
          have Q:Value.tuple #[.slice none 0 0,i4_ 2]=.tuple #[.slice none (aX_ l).1.length 0,i4_ (aX_ l).2]:=by rw[e]<;>rfl
          have R:(aX_ l).1.flatMap Pc.cells=[]:=by rw[e]<;>rfl
          exact gN_ results66 ⟨(none,0),A⟩ rfl rfl Q (.refl _) (λv _ h=>⟨.inl R,trivial⟩)
    . replace J:=zdt J;have L:i<l.length:=by omega
      obtain⟨x,K⟩:∃ x,l[i]? = some x:=⟨_,yaa_ L⟩;have B:x∈l:=yad_ K;refine bT_ rfl ?_;refine cQ_ ?_;refine ac_ rfl ?_;refine aq_ ?_;refine cC_ ?_;refine aq_ ?_;refine S_ ?_;refine c_ (J_ aw_ D_ rfl rfl (λv _ h=>az_ (n:=16) Ax.cells_len zaj_ (h.1.1) K) zaa_ zan_) rfl ?_;refine c_ (ax_ (ad:=ad) (us:=x.cells) bg_ D_ rfl (λv _ h=>h.1.1) (Ax.cells_len _) (t_ Ax.cells_len K)) rfl ?_;refine K_ aQ_ rfl λa1=>?_;refine pr_ (us:=x.cells) 0 D_ x.cells_len x.one_cells rfl rfl rfl rfl ?_;refine ai_ ?_;refine ac_ rfl ?_;refine aq_ ?_;refine S_ ?_;refine c_ (qv_ (us:=x.cells) 0 bg_ D_ x.cells_len rfl rfl) rfl ?_;refine d_ (gE_ x (V x B)) rfl (.refl _) (λv _ h=>⟨h.1.2 x B,h.2.1,trivial⟩) rfl λ_=>?_;refine c_ (X_ rfl) rfl ?_;refine ai_ ?_;refine ac_ rfl ?_;refine aq_ ?_;refine S_ ?_;refine c_ (P_ rfl) rfl ?_;refine A_ (cP_ rfl rfl) rfl λS d=>?_;refine ai_ ?_;refine ac_ rfl ?_;cases S
      . replace d:=de_ d;refine bU_ rfl ?_;refine cQ_ ?_;refine ac_ rfl ?_;refine S_ ?_;refine c_ (aT_ rfl rfl rfl (bB_ zaa_ zaa_)) rfl ?_;refine c_ (P_ rfl) rfl ?_;refine ai_ ?_;refine bE_ rfl ?_;exact w_ ⟨i+1,L,λy A=>by rw[yao_,K]at A;simp only[ybf_,yaj_,yal_]at A;rcases A with A|rfl;exact H.2 y A;assumption⟩ zaC_ zl (@List.perm_append_comm _ [_] _) zh
      . replace d:=dd_ d;refine bT_ rfl ?_;refine aq_ ?_;refine S_ ?_;refine c_ (P_ rfl) rfl ?_;refine c_ (X_ rfl) rfl ?_;refine c_ (X_ rfl) rfl ?_;refine ai_ ?_;refine ac_ rfl ?_;refine dU_ ?_;have e:aX_ l=([],x.check):=by unfold aX_;rw[yam_ zaa_,hu_ K H.2 zar_,yax_ zar_]
        have A:(aX_ l).1.length<=0/\0<=maxLen/\((none:Ao)=none->0=0):=by rw[e];simp
        have Q:Value.tuple #[.slice none 0 0,i4_ x.check]=.tuple #[.slice none (aX_ l).1.length 0,i4_ (aX_ l).2]:=by rw[e]<;>rfl
        have R:(aX_ l).1.flatMap Pc.cells=[]:=by rw[e]<;>rfl
        exact gN_ results66 ⟨(none,0),A⟩ rfl rfl Q (.refl _) (λv _ h=>⟨.inl R,trivial⟩)
  . replace C:=zdt C;refine bT_ rfl ?_;refine aq_ ?_;refine S_ ?_;refine c_ (X_ rfl) rfl ?_;refine c_ (X_ rfl) rfl ?_;refine ai_ ?_;refine ac_ rfl ?_;refine dU_ ?_;have e:aX_ l=([],2):=by unfold aX_;rw[yax_ zaa_]
    have A:(aX_ l).1.length<=0/\0<=maxLen/\((none:Ao)=none->0=0):=by rw[e];simp
    have Q:Value.tuple #[.slice none 0 0,i4_ 2]=.tuple #[.slice none (aX_ l).1.length 0,i4_ (aX_ l).2]:=by rw[e]<;>rfl
    have R:(aX_ l).1.flatMap Pc.cells=[]:=by rw[e]<;>rfl
    exact gN_ results66 ⟨(none,0),A⟩ rfl rfl Q (.refl _) (λv _ h=>⟨.inl R,trivial⟩)
theorem zI_ (l:List Ax) (ad:Ao) (cap:Nat) (d:l.length<=cap/\cap<=2199023255488) (e:∀ x∈l,x.ok) :
    Tri prog 66 #[.slice ad l.length cap] [] [bA_ ad l,cy_] (λy:{y:Ao×Nat // (aX_ l).1.length<=y.2/\y.2<=maxLen/\(y.1=none->y.2=0)}=>.tuple #[.slice y.1.1 (aX_ l).1.length y.1.2,i4_ (aX_ l).2]) (λ_=>[]) (λy=>[O_ y.1.1 ((aX_ l).1.flatMap Pc.cells)]):=by grind[qR_]
theorem xj_ {N:Nf} {fr:Fr} {H:Hp} {Γ:List Fct} {ty k:TypeId} {x y:Operand} {p q:Pc} (u:Fr.ev fr x=some p.val) (h:Fr.ev fr y=some q.val):Yld prog N fr H Γ (.binOp .eql 80 x y k) ty (.bool (decide (p=q))) :=
  λa v e _ _ _ _ _=>by
    have o:(Program.eqGuardType prog Tryz.prog.depth 80)=false:=by kernel_rfl
    have d:=eqPc p q v.w;simp only[execOp,e.ev u,e.ev h,eqGuard,Pc.val,binOp,Op.equal,Sem.run_bind,Result.andThen_ok];simp only[run_program,Result.andThen_ok,o,Bool.not_false,ycu_,Sem.run_pure];simp only[Pc.val]at d;simp[Op.maxDepth,d]
theorem yO_ {N:Nf} {fr:Fr} {H:Hp} {Γ:List Fct} {P:Program} {ty t h:TypeId} {x y:Operand} {m n:Int} (k:Fr.ev fr x=some (i4_ m)) (e:Fr.ev fr y=some (i4_ n)):Yld P N fr H Γ (.binOp .add t x y h) ty (i4_ (IntKind.wrap .i64 (m+n))) :=
  λa v d _ _ _ _ _=>by simp[execOp,d.ev k,d.ev e,eqGuard,binOp,Op.intArith]
def wz (n:Nat):Int:=IntKind.wrap .i64 (n:Int)
theorem Bm_ (n:Nat):IntKind.wrap .i64 (wz n+1)=wz (n+1):=by
  grind[wz,IntKind.wrap_i64]
theorem yP_ {n:Nat} (h:n<=1000000):wz n=(n:Int):=bB_ zaa_ zaa_
theorem Con.fold_cnt:∀ (m:Nat) (c:Con),c.sz<=m->∀ n,Con.fold Con.cnt c n=.inl (n+c.sz)
  | 0,c,h=>by grind[Con.sz_pos]
  | m+1,c,h=>λn=>by
    have key:∀ ps:List Con,(∀ p∈ps,p.sz<=m)->∀ n,Con.fold.folds Con.cnt ps n=.inl (n+Con.sz.szs ps):=by
      intro ps
      induction ps with
      | nil=>grind[Con.fold.folds,Con.sz.szs]
      | cons p ps ih =>
        intro d n;simp only[Con.fold.folds,Con.fold_cnt m p (d p zak_) n,Con.sz.szs]
        grind
    rw[Con.fold_eq];simp only[Con.cnt];rw[key c.parts (λp d=>by have:=Con.sz_part d;omega)]
    congr 1
    cases c;grind[Con.sz,Con.parts]
theorem size_c (c:Con) (J:c.ok) (u:c.sz<=1000000):Tri prog 207 #[c.val] [] [c.memF] (λ_:Unit=>i4_ c.sz) (λ_=>[]) (λ_=>[]):=by
 refine eJ_ func207 rfl rfl ntmps207 rfl λk=>?_;refine Zz 2 ?_;refine Q_ rfl rfl λR=>K_ bQ_ rfl λd=>Zz 5 ?_
 refine c_ (dD_ 1 H_ i_ rfl rfl) rfl (d_ (uO_ c) rfl (.refl _) zt rfl λb=>Zz 3 ?_);refine bc_ [(2,zp_ d 0),(4,.func (.func 190) #[] #[zp_ b 0])] zl ?_;refine em_ (H':=[_,_]) (F:=[_]) (.refl _) zh ?_;refine qJ_ (α:={c:Con // c.ok}) (xv:=λx=>x.1.val) (good:=λ_=>True) (stp:=λx=>Con.cnt x.1) (Γx:=λx=>[x.1.memF]) (Γi:=[Con.memF c]) (Hj:=λn:Nat=>[(d,.cells #[i4_ (wz n)] 3 (0,0))]) (Hx:=λ_:Empty=>[]) (Hc:=[(b,.cells c.cells.toArray 28 (0,0))]) (caps:=[zp_ b 0]) 0 (Con.fold Con.cnt c 0) rfl (.refl _) (λv _ h=>h) ?_ ?_ ?_ ?_
 .rintro l D S P A y L o e s ⟨x,K⟩ -
  refine kM_ (ι:=Unit) (Hj:=λn:Nat=>[(d,.cells #[i4_ (wz n)] 3 (0,0))]) (Hx:=λ_:Empty=>[]) (s:=s) (res:=Con.cnt x s) (Γ:=[x.memF]) (λ_=>[(2,zp_ d 0)]) (λ_=>[(d,.cells #[i4_ (wz s)] 3 (0,0))]) P A y L rfl ?_ ?_
  .intro n k B Q
   rw[o];refine mB_ ?_;refine cL_ rfl ?_;exact eg_ () ⟨rfl,trivial⟩ (F:=[]) (by rw[yas_]) zh
  intro n k B Q _;rw[e];refine dZ_ ?_;refine aR_ ?_;refine Z_ (aa_ _) (aK_ 0 aU_ rfl rfl rfl) rfl rfl ?_;refine Z_ (aa_ _) (aD_ (yO_ rfl rfl) (show _=i4_ (wz (s+1)) from yag_ (i4_) (Bm_ s))) rfl rfl ?_;refine eD_ (aa_ _) 0 af_ rfl rfl rfl rfl rfl rfl ?_;refine bK_ ?_;refine cL_ rfl ?_;exact fP_ (s+1) rfl (G:=[]) zaS_
 .intro l U T O
  exact rO_ (E:=[]) (good:=λ_=>True) (λ_ _ _ _=>trivial) (λs x K _=>O s ⟨x,K⟩ trivial) _ J trivial 0
 .intro s H D l r
  rw[Con.fold_cnt _ _ (yab_ _)]at H;obtain rfl:0+c.sz=s:=Sum.inl.inj H;have M:wz (0+c.sz)=(c.sz:Int):=by rw[ybP_];exact yP_ u
  refine cm_ rfl ?_;refine cZ_ ?_;refine aR_ ?_;refine Z_ bh_ (aK_ 1 aU_ rfl rfl rfl) rfl rfl ?_;refine eD_ bh_ 1 af_ rfl rfl rfl rfl rfl rfl ?_;refine bK_ ?_;refine cm_ rfl ?_;refine hH_ ?_;exact tq_ (G:=[_,_,_]) () (λa v I C=>by rw[<-M];exact pi_ 1 results207 aU_ rfl rfl a v I C) (gC_ (i:=3) rfl) ⟨_,.refl _⟩ rfl
 intro t H D l r;cases t
theorem gG_ (xs:List Str) (ad:Ao) (cap:Nat) {kb:Nat} (frm:Int) (l:List Pc) (q:CS) (J:CInv l q) (I:xs.length<=1000) (C:l.length+xs.length<=100000) :
    Tri prog 89 #[zp_ kb 0,.slice ad xs.length cap] (go_ kb frm q) [O_ ad (xs.flatMap V_)] (λ_:{B:CS // CInv (bI_ frm xs l) B}=>.tuple #[]) (λB=>go_ kb frm B.1) (λ_=>[]):=by
  refine l_ func89 rfl rfl ntmps89 rfl λE=>?_;refine Zz 8 ?_;refine bc_ [(0,zp_ kb 0),(6,.slice ad xs.length cap),(7,i4_ (List.length xs:Int)),(8,i4_ ((0:Nat):Int))] zl ?_;refine bs_ (ι:={y:Nat×CS // y.1<=xs.length/\CInv (bI_ frm (xs.take y.1) l) y.2}) (λy=>[(0,zp_ kb 0),(6,.slice ad xs.length cap),(7,i4_ (List.length xs:Int)),(8,i4_ y.1.1)]) (λy=>go_ kb frm y.1.2) (λ_=>_) (λy=>xs.length - y.1.1) ⟨(0,q),by simp,J⟩ ?_;rintro ⟨⟨i,k⟩,A⟩;dsimp only at A;dsimp only;have H:=eL_ frm (xs.take i) l;have G:(xs.take i).length<=i:=by simp;omega
  refine bc_ [(0,zp_ kb 0),(6,.slice ad xs.length cap),(7,i4_ (List.length xs:Int)),(8,i4_ i)] zl ?_;refine Zi 2 (λh=>?_) λh=>?_
  . refine Zz 6 ?_;exact end0 results89 ⟨k,by have:=A.2;rwa [yac_ zaa_]at this⟩ rfl (F:=[]) an_ zt
  . have d:i<xs.length:=by omega
    obtain⟨v,e⟩:∃ u,xs[i]? = some u:=⟨_,yaa_ d⟩;refine Zz 18 ?_;refine c_ (x_ ct_ rfl rfl) rfl (p_ u_ ab_ N_ rfl rfl rfl rfl rfl rfl λK=>d_ (ea_ (Pc.mk 1 v [] [42] [] [] [] 0 0 0) frm (bI_ frm (xs.take i) l) k A.2 zaa_) rfl zp zt rfl λ⟨x,o⟩=>?_);dsimp only;refine s_ (List.Perm.symm an_) (Zz 7 ?_);exact w_ ⟨(i+1,x),d,by dsimp only;rw[vs_ frm e];exact o⟩ zae_ zl (F:=[]) an_ zh
theorem km_ (a b:Str):Fn0 prog 87 #[str a,str b] (Fc.val ⟨1,a,b,[],0,0⟩):=by
  refine l_ func87 rfl rfl ntmps87 rfl λo=>?_;refine Zz 2 ?_;refine K_ ad_ rfl λk=>Zz 6 ?_
  refine c_ (x_ gz_ rfl rfl) rfl (o_ 0 ar_ rfl rfl rfl rfl rfl rfl (Zz 3 ?_));exact cs_ () (λa v e d=>db_ (us:=Fc.cells ⟨1,_,_,[],0,0⟩) 0 results87 isAgg104 ar_ rfl rfl rfl a v e d) (@List.perm_append_comm _ [_] _) (λv _ h=>trivial)
theorem eltF:Elt prog 50 104 6 72:=gn_ underlying50 (z:=.agg (Fc.mk 0 [] [] [] 0 0).cells.toArray) zam_ rfl zaj_
theorem goal_c (x:Ax) (k:x.ok):Tri prog 45 #[Ax.val x] [] [Ax.memF x,cy_] (λy:{y:Ao×Nat×Ao×Nat // x.goalP.1.length<=y.2.1/\y.2.1<=maxLen/\x.goalP.2.1.length<=y.2.2.2/\y.2.2.2<=maxLen/\(y.1=none->y.2.1=0)}=>.tuple #[.slice y.1.1 x.goalP.1.length y.1.2.1,.slice y.1.2.2.1 x.goalP.2.1.length y.1.2.2.2,i4_ x.goalP.2.2])
    (λ_=>[]) (λy=>[O_ y.1.1 (x.goalP.1.flatMap Pc.cells),O_ y.1.2.2.1 (x.goalP.2.1.flatMap Fc.cells)]):=by
  refine l_ func45 rfl rfl ntmps45 rfl λv_1=>?_;have h_1:=k.role;have h_2:=Con.operandN_len k.left;have h_3:=Con.operandN_len k.right;refine Zz 2 ?_;refine Q_ rfl rfl λb_1=>Zz 9 ?_
  refine d_ (gE_ x k) rfl e_ zf rfl λ_=>Zi 6 (λa1=>?_) λa1=>?_
  . have G:=Ax.good_of a1;refine Zz 7 ?_;refine d_ (jH_ (-1)) rfl e_ zt rfl λ⟨kb,O⟩=>?_;dsimp only;refine s_ (@List.perm_append_comm _ _ [_]) (Zz 6 ?_);refine d_ (wf_ kb) rfl e_ zt rfl λ⟨bk,bl,br⟩=>?_;dsimp only;refine Zi 23 (λhr_2=>?_) λhr_2=>?_
    . refine Zi 5 (λW=>?_) λW=>?_
      . refine Zi 6 (λY=>?_) λY=>?_
        . refine Zi 6 (λhr_5=>?_) λhr_5=>?_
          . refine Zi 6 (λhr_6=>?_) λhr_6=>?_
            . refine Zi 6 (λhr_7=>?_) λhr_7=>?_
              . refine Zz 12 ?_;have e:x.goalP=([],[],22):=by unfold Ax.goalP;rw[yam_ zaa_];repeat rw[yam_ zaa_]
                have T:x.goalP.1.length<=0/\0<=maxLen/\x.goalP.2.1.length<=0/\0<=maxLen/\((none:Ao)=none->0=0):=by rw[e];simp
                have R:Value.tuple #[.slice none 0 0,.slice none 0 0,i4_ 22]=.tuple #[.slice none x.goalP.1.length 0,.slice none x.goalP.2.1.length 0,i4_ x.goalP.2.2]:=by rw[e]<;>rfl
                have C:x.goalP.1.flatMap Pc.cells=[]:=by rw[e];rfl
                have E:x.goalP.2.1.flatMap Fc.cells=[]:=by rw[e];rfl
                exact hJ_ fA_ ⟨(none,0,none,0),T⟩ rfl rfl rfl R e_ (λv _ h=>⟨.inl C,.inl E,trivial⟩)
              . refine Zz 5 ?_;refine aW_ ((b_1,.cells (Ax.cells x).toArray 30 (0,0))::[]) zk ?_;refine C_ 4 [0,1,2,4,5] zk zs (Zz 6 ?_);refine j_ 3 rfl zk (d_ (dg_ x.a k.a) rfl e_ zt rfl λ_=>Zz 3 ?_);refine j_ 6 rfl zk (d_ (dg_ x.b k.b) rfl e_ zt rfl λ_=>Zz 3 ?_);refine j_ 7 rfl zk (p_ m_ B_ ak_ rfl rfl rfl rfl rfl rfl λL=>?_);refine R_ (List.flatMap V_ [(bY_ x.a),(bY_ x.b)]) f_ rfl ?_;refine Zz 3 ?_;refine j_ 8 rfl zk (d_ (gG_ [(bY_ x.a),(bY_ x.b)] (some ⟨L,0,none⟩) 2 (-1) ([]:List Pc) ⟨.slice none 0 0,O,#[],0,[]⟩ ⟨av_.nil _ _,rfl,by simp⟩ zak_ zaN_) rfl zp zf rfl λ⟨M,H⟩=>?_);dsimp only;have I:=eL_ (-1) [(bY_ x.a),(bY_ x.b)] ([]:List Pc);refine s_ (@List.perm_append_comm _ _ [_]) ?_;simp only[yap_,yaw_]at I;refine Zz 6 ?_;refine C_ 5 [0,1,3,4,6,7] zk zs (Zz 7 ?_);refine j_ 2 rfl zk (d_ (dg_ x.a k.a) rfl e_ zt rfl λ_=>Zz 3 ?_);refine j_ 5 rfl zk (d_ (dg_ x.b k.b) rfl e_ zt rfl λ_=>Zz 3 ?_);refine C_ 2 [8] zk zs (G_ rfl (x_ gz_ rfl rfl) rfl (bd_ (j_ 9 rfl zk (p_ M_ ar_ ad_ rfl rfl rfl rfl rfl rfl λF=>Zz 3 ?_))));refine C_ 0 [10] zk zs (Zz 17 ?_);refine R_ (List.flatMap Fc.cells [(Fc.mk 2 (bY_ x.a) (bY_ x.b) x.role 0 0)]) f_ rfl ?_;refine dI_ H.row (g_ (g_ (g_ an_))) λB d o A u=>?_
                have e:x.goalP=((bI_ (-1) [(bY_ x.a),(bY_ x.b)] ([]:List Pc)),[(Fc.mk 2 (bY_ x.a) (bY_ x.b) x.role 0 0)],0):=by
                  unfold Ax.goalP;rw[yam_ zaa_];repeat (first|rfl|(rw[yax_ zaa_])|(rw[yam_ zaa_]))
                have T:x.goalP.1.length<=d/\d<=maxLen/\x.goalP.2.1.length<=1/\1<=maxLen/\(B=none->d=0):=by rw[e];exact⟨A,u,by simp,by decide,av_.nilcap H.row o⟩
                have R:Value.tuple #[M.sv,.slice (some ⟨F,0,none⟩) 1 1,i4_ 0]=.tuple #[.slice B x.goalP.1.length d,.slice (some ⟨F,0,none⟩) x.goalP.2.1.length 1,i4_ x.goalP.2.2]:=by
                  rw[e,o]<;>rfl
                have C:List.flatMap Pc.cells (bI_ (-1) [(bY_ x.a),(bY_ x.b)] ([]:List Pc))=x.goalP.1.flatMap Pc.cells:=by rw[e]
                have E:List.flatMap Fc.cells [(Fc.mk 2 (bY_ x.a) (bY_ x.b) x.role 0 0)]=x.goalP.2.1.flatMap Fc.cells:=by rw[e]
                exact hJ_ fA_ ⟨(B,d,(some ⟨F,0,none⟩),1),T⟩ rfl rfl rfl R e_ (λv _ h=>⟨C▸h.1,E▸h.2.1,trivial⟩)
            . obtain⟨fr,zr⟩:=Con.check_zero (G.right zaa_);refine Zz 5 ?_;refine aW_ ((b_1,.cells (Ax.cells x).toArray 30 (0,0))::[]) zk ?_;refine C_ 4 [0,1,2,4,5] zk zs (Zz 6 ?_);refine j_ 3 rfl zk (d_ (dg_ x.a k.a) rfl e_ zt rfl λ_=>Zz 3 ?_);refine j_ 6 rfl zk (d_ (cJ_ x.right k.right) rfl e_ (λv _ h=>by exact⟨h.2.2.2.1.2.1,h.2.2.2.2.1,trivial⟩) rfl λ_=>Zz 3 ?_);refine j_ 7 rfl zk (p_ m_ B_ ak_ rfl rfl rfl rfl rfl rfl λL=>?_);refine R_ (List.flatMap V_ [(bY_ x.a),(Con.atom x.right)]) f_ rfl ?_;refine Zz 3 ?_;refine j_ 8 rfl zk (d_ (gG_ [(bY_ x.a),(Con.atom x.right)] (some ⟨L,0,none⟩) 2 (-1) ([]:List Pc) ⟨.slice none 0 0,O,#[],0,[]⟩ ⟨av_.nil _ _,rfl,by simp⟩ zak_ zaN_) rfl zp zf rfl λ⟨M,H⟩=>?_);dsimp only;have I:=eL_ (-1) [(bY_ x.a),(Con.atom x.right)] ([]:List Pc);refine s_ (@List.perm_append_comm _ _ [_]) ?_;simp only[yap_,yaw_]at I;refine Zz 10 ?_;refine bb_ (hy_ (kb:=kb) (bk:=bk) (bs:=bl) (frm:=(-1)) _ x.right (yab_ _) k.right fr (bI_ (-1) [(bY_ x.a),(Con.atom x.right)] ([]:List Pc)) M H zaa_) rfl rfl zp (λv _ h=>by exact⟨h.2.2.2.2.1.2.1,h.2.2.2.2.2.1,h.2.1,h.2.2.1,trivial⟩) rfl λ⟨P,K⟩=>?_;dsimp only;refine s_ (@List.perm_append_comm _ _ [_]) (Zz 3 ?_);refine C_ 5 [0,1,2,4,5] zk zs (Zz 6 ?_);refine j_ 3 rfl zk (d_ (dg_ x.a k.a) rfl e_ zt rfl λ_=>Zz 3 ?_);refine j_ 6 rfl zk (d_ (cJ_ x.right k.right) rfl e_ (λv _ h=>by exact⟨h.2.2.2.2.1.2.1,h.2.2.2.2.2.1,trivial⟩) rfl λ_=>Zz 3 ?_);refine j_ 7 rfl zk (bb_ (km_ (bY_ x.a) (Con.atom x.right)) rfl rfl e_ zt rfl λ_=>Zz 3 ?_);refine j_ 8 rfl zk (p_ M_ ar_ ad_ rfl rfl rfl rfl rfl rfl λF=>Zz 3 ?_);refine C_ 0 [9] zk zs (Zz 17 ?_);refine R_ (List.flatMap Fc.cells [(Fc.mk 1 (bY_ x.a) (Con.atom x.right) [] 0 0)]) f_ rfl ?_;refine dI_ K.row (g_ (g_ (g_ an_))) λB d o A u=>?_
              have e:x.goalP=((Con.leftP (-1) x.right (bI_ (-1) [(bY_ x.a),(Con.atom x.right)] ([]:List Pc))),[(Fc.mk 1 (bY_ x.a) (Con.atom x.right) [] 0 0)],0):=by
                unfold Ax.goalP;rw[yam_ zaa_];repeat (first|rfl|(rw[yax_ zaa_])|(rw[yam_ zaa_]))
              have T:x.goalP.1.length<=d/\d<=maxLen/\x.goalP.2.1.length<=1/\1<=maxLen/\(B=none->d=0):=by rw[e];exact⟨A,u,by simp,by decide,av_.nilcap K.row o⟩
              have R:Value.tuple #[P.sv,.slice (some ⟨F,0,none⟩) 1 1,i4_ 0]=.tuple #[.slice B x.goalP.1.length d,.slice (some ⟨F,0,none⟩) x.goalP.2.1.length 1,i4_ x.goalP.2.2]:=by
                rw[e,o]<;>rfl
              have C:List.flatMap Pc.cells (Con.leftP (-1) x.right (bI_ (-1) [(bY_ x.a),(Con.atom x.right)] ([]:List Pc)))=x.goalP.1.flatMap Pc.cells:=by rw[e]
              have E:List.flatMap Fc.cells [(Fc.mk 1 (bY_ x.a) (Con.atom x.right) [] 0 0)]=x.goalP.2.1.flatMap Fc.cells:=by rw[e]
              exact hJ_ fA_ ⟨(B,d,(some ⟨F,0,none⟩),1),T⟩ rfl rfl rfl R e_ (λv _ h=>⟨C▸h.1,E▸h.2.1,trivial⟩)
          . obtain⟨fr,zr⟩:=Con.check_zero (G.right zaa_);refine Zz 8 ?_;refine c_ (bn_ rfl rfl zal_) rfl ?_;refine c_ (aD_ (bn_ rfl rfl zal_) (show _=str (Ax.doms x) from rfl)) rfl ?_;refine Zz 9 ?_;refine d_ (cJ_ x.right k.right) rfl e_ (λv _ h=>by exact⟨h.2.2.2.1.2.1,h.2.2.2.2.1,trivial⟩) rfl λ_=>p_ m_ B_ ak_ rfl rfl rfl rfl rfl rfl λL=>?_;refine R_ (List.flatMap V_ [(Ax.doms x),(Con.atom x.right)]) f_ rfl ?_;refine d_ (gG_ [(Ax.doms x),(Con.atom x.right)] (some ⟨L,0,none⟩) 2 (-1) ([]:List Pc) ⟨.slice none 0 0,O,#[],0,[]⟩ ⟨av_.nil _ _,rfl,by simp⟩ zak_ zaN_) rfl zp zf rfl λ⟨M,H⟩=>?_;dsimp only;have I:=eL_ (-1) [(Ax.doms x),(Con.atom x.right)] ([]:List Pc);refine s_ (@List.perm_append_comm _ _ [_]) ?_;simp only[yap_,yaw_]at I;refine Zz 8 ?_;refine c_ (x_ ct_ rfl rfl) rfl (p_ u_ ab_ N_ rfl rfl rfl rfl rfl rfl λF=>d_ (ea_ (Pc.mk 3 (Ax.doms x) [] [42] x.role [] [] 0 0 0) (-1) (bI_ (-1) [(Ax.doms x),(Con.atom x.right)] ([]:List Pc)) M H zaa_) rfl zp zt rfl λ⟨P,K⟩=>?_);dsimp only;have Z:=cX_ (-1) (bI_ (-1) [(Ax.doms x),(Con.atom x.right)] ([]:List Pc)) (Pc.mk 3 (Ax.doms x) [] [42] x.role [] [] 0 0 0);refine s_ (@List.perm_append_comm _ _ [_]) (Zz 7 ?_);refine bb_ (hy_ (kb:=kb) (bk:=bk) (bs:=bl) (frm:=(-1)) _ x.right (yab_ _) k.right fr (ins (-1) (bI_ (-1) [(Ax.doms x),(Con.atom x.right)] ([]:List Pc)) (Pc.mk 3 (Ax.doms x) [] [42] x.role [] [] 0 0 0)) P K zaa_) rfl rfl zp (λv _ h=>by exact⟨h.2.2.2.2.1.2.1,h.2.2.2.2.2.1,h.2.1,h.2.2.1,trivial⟩) rfl λ⟨Q,J⟩=>?_;dsimp only;refine s_ (@List.perm_append_comm _ _ [_]) (Zz 7 ?_);refine d_ (cJ_ x.right k.right) rfl e_ (λv _ h=>by exact⟨h.2.2.2.2.1.2.1,h.2.2.2.2.2.1,trivial⟩) rfl λ_=>bb_ (km_ (Ax.doms x) (Con.atom x.right)) rfl rfl e_ zt rfl λ_=>p_ M_ ar_ ad_ rfl rfl rfl rfl rfl rfl λU=>Zz 16 ?_
            refine R_ (List.flatMap Fc.cells [(Fc.mk 1 (Ax.doms x) (Con.atom x.right) [] 0 0)]) f_ rfl ?_;refine dI_ J.row (g_ (g_ (g_ an_))) λB d o A u=>?_
            have e:x.goalP=((Con.leftP (-1) x.right (ins (-1) (bI_ (-1) [(Ax.doms x),(Con.atom x.right)] ([]:List Pc)) (Pc.mk 3 (Ax.doms x) [] [42] x.role [] [] 0 0 0))),[(Fc.mk 1 (Ax.doms x) (Con.atom x.right) [] 0 0)],0):=by
              unfold Ax.goalP;rw[yam_ zaa_];repeat (first|rfl|(rw[yax_ zaa_])|(rw[yam_ zaa_]))
            have T:x.goalP.1.length<=d/\d<=maxLen/\x.goalP.2.1.length<=1/\1<=maxLen/\(B=none->d=0):=by rw[e];exact⟨A,u,by simp,by decide,av_.nilcap J.row o⟩
            have R:Value.tuple #[Q.sv,.slice (some ⟨U,0,none⟩) 1 1,i4_ 0]=.tuple #[.slice B x.goalP.1.length d,.slice (some ⟨U,0,none⟩) x.goalP.2.1.length 1,i4_ x.goalP.2.2]:=by
              rw[e,o]<;>rfl
            have C:List.flatMap Pc.cells (Con.leftP (-1) x.right (ins (-1) (bI_ (-1) [(Ax.doms x),(Con.atom x.right)] ([]:List Pc)) (Pc.mk 3 (Ax.doms x) [] [42] x.role [] [] 0 0 0)))=x.goalP.1.flatMap Pc.cells:=by rw[e]
            have E:List.flatMap Fc.cells [(Fc.mk 1 (Ax.doms x) (Con.atom x.right) [] 0 0)]=x.goalP.2.1.flatMap Fc.cells:=by rw[e]
            exact hJ_ fA_ ⟨(B,d,(some ⟨U,0,none⟩),1),T⟩ rfl rfl rfl R e_ (λv _ h=>⟨C▸h.1,E▸h.2.1,trivial⟩)
        . obtain⟨fl,zl⟩:=Con.check_zero (G.left zaa_);obtain⟨fr,zr⟩:=Con.check_zero (G.right zaa_);refine Zz 6 ?_;refine C_ 7 [0,1,5,6] zk zs (Zz 5 ?_);refine j_ 2 rfl zk (d_ (pz_ x.left k.left) rfl e_ (λv _ h=>by exact⟨h.2.2.2.1.1,h.2.2.2.2.1,trivial⟩) rfl λ_=>Zz 3 ?_);refine C_ 4 [3,4] zk zs ?_;refine G_ rfl (bn_ rfl rfl zal_) rfl ?_;refine G_ rfl (bn_ rfl rfl zal_) rfl ?_;refine bd_ (j_ 7 rfl zk (d_ (pz_ x.right k.right) rfl e_ (λv _ h=>by exact⟨h.2.2.2.1.2.1,h.2.2.2.2.1,trivial⟩) rfl λ_=>Zz 3 ?_));refine C_ 0 [8,9,10] zk zs ?_;refine G_ rfl (bn_ rfl rfl zal_) rfl ?_;refine G_ rfl (aD_ (bn_ rfl rfl zal_) (show _=str (Ax.disj x) from rfl)) rfl ?_;refine Zz 8 ?_;refine p_ m_ B_ ak_ rfl rfl rfl rfl rfl rfl λL=>?_;refine R_ (List.flatMap V_ [(Ax.disj x),[33]]) f_ rfl ?_;refine d_ (gG_ [(Ax.disj x),[33]] (some ⟨L,0,none⟩) 2 (-1) ([]:List Pc) ⟨.slice none 0 0,O,#[],0,[]⟩ ⟨av_.nil _ _,rfl,by simp⟩ zak_ zaN_) rfl zp zf rfl λ⟨M,H⟩=>?_;dsimp only;have I:=eL_ (-1) [(Ax.disj x),[33]] ([]:List Pc);refine s_ (@List.perm_append_comm _ _ [_]) ?_;simp only[yap_,yaw_]at I;refine Zz 8 ?_;refine d_ (cJ_ x.left k.left) rfl e_ (λv _ h=>by exact⟨h.2.2.2.2.1.1,h.2.2.2.2.2.1,trivial⟩) rfl λ_=>c_ (x_ ct_ rfl rfl) rfl (p_ u_ ab_ N_ rfl rfl rfl rfl rfl rfl λF=>d_ (ea_ (Pc.mk 1 (Ax.disj x) [] (Con.atom x.left) [] [] [] 0 0 0) (-1) (bI_ (-1) [(Ax.disj x),[33]] ([]:List Pc)) M H zaa_) rfl zp zt rfl λ⟨P,K⟩=>?_)
          dsimp only;have Z:=cX_ (-1) (bI_ (-1) [(Ax.disj x),[33]] ([]:List Pc)) (Pc.mk 1 (Ax.disj x) [] (Con.atom x.left) [] [] [] 0 0 0);refine s_ (@List.perm_append_comm _ _ [_]) (Zz 7 ?_);refine bb_ (fV_ (kb:=kb) (bk:=bk) (bs:=br) (frm:=(-1)) _ x.left (yab_ _) k.left fl (ins (-1) (bI_ (-1) [(Ax.disj x),[33]] ([]:List Pc)) (Pc.mk 1 (Ax.disj x) [] (Con.atom x.left) [] [] [] 0 0 0)) P K zaa_) rfl rfl zp (λv _ h=>by exact⟨h.2.2.2.2.1.1,h.2.2.2.2.2.1,h.2.1,h.2.2.2.1,trivial⟩) rfl λ⟨Q,J⟩=>?_;dsimp only;have a7:=Con.rightP_len (-1) _ x.left (yab_ _) (ins (-1) (bI_ (-1) [(Ax.disj x),[33]] ([]:List Pc)) (Pc.mk 1 (Ax.disj x) [] (Con.atom x.left) [] [] [] 0 0 0));refine s_ (@List.perm_append_comm _ _ [_]) (Zz 8 ?_);refine d_ (cJ_ x.right k.right) rfl e_ (λv _ h=>by exact⟨h.2.2.2.2.1.2.1,h.2.2.2.2.2.1,trivial⟩) rfl λ_=>c_ (x_ ct_ rfl rfl) rfl (p_ u_ ab_ N_ rfl rfl rfl rfl rfl rfl λU=>d_ (ea_ (Pc.mk 1 (Ax.disj x) [] (Con.atom x.right) [] [] [] 0 0 0) (-1) (Con.rightP (-1) x.left (ins (-1) (bI_ (-1) [(Ax.disj x),[33]] ([]:List Pc)) (Pc.mk 1 (Ax.disj x) [] (Con.atom x.left) [] [] [] 0 0 0))) Q J zaa_) rfl zp zt rfl λ⟨a2,V⟩=>?_)
          dsimp only;have hb_4:=cX_ (-1) (Con.rightP (-1) x.left (ins (-1) (bI_ (-1) [(Ax.disj x),[33]] ([]:List Pc)) (Pc.mk 1 (Ax.disj x) [] (Con.atom x.left) [] [] [] 0 0 0))) (Pc.mk 1 (Ax.disj x) [] (Con.atom x.right) [] [] [] 0 0 0);refine s_ (@List.perm_append_comm _ _ [_]) (Zz 7 ?_);refine bb_ (fV_ (kb:=kb) (bk:=bk) (bs:=br) (frm:=(-1)) _ x.right (yab_ _) k.right fr (ins (-1) (Con.rightP (-1) x.left (ins (-1) (bI_ (-1) [(Ax.disj x),[33]] ([]:List Pc)) (Pc.mk 1 (Ax.disj x) [] (Con.atom x.left) [] [] [] 0 0 0))) (Pc.mk 1 (Ax.disj x) [] (Con.atom x.right) [] [] [] 0 0 0)) a2 V zaa_) rfl rfl zp (λv _ h=>by exact⟨h.2.2.2.2.1.2.1,h.2.2.2.2.2.1,h.2.1,h.2.2.2.1,trivial⟩) rfl λ⟨a3,S⟩=>?_;dsimp only;refine s_ (@List.perm_append_comm _ _ [_]) (Zz 5 ?_);refine bb_ (km_ (Ax.disj x) [33]) rfl rfl e_ zt rfl λ_=>p_ M_ ar_ ad_ rfl rfl rfl rfl rfl rfl λa5=>Zz 16 ?_
          refine R_ (List.flatMap Fc.cells [(Fc.mk 1 (Ax.disj x) [33] [] 0 0)]) f_ rfl ?_;refine dI_ S.row (g_ (g_ (g_ an_))) λB d o A u=>?_
          have e:x.goalP=((Con.rightP (-1) x.right (ins (-1) (Con.rightP (-1) x.left (ins (-1) (bI_ (-1) [(Ax.disj x),[33]] ([]:List Pc)) (Pc.mk 1 (Ax.disj x) [] (Con.atom x.left) [] [] [] 0 0 0))) (Pc.mk 1 (Ax.disj x) [] (Con.atom x.right) [] [] [] 0 0 0))),[(Fc.mk 1 (Ax.disj x) [33] [] 0 0)],0):=by
            unfold Ax.goalP;rw[yam_ zaa_];repeat (first|rfl|(rw[yax_ zaa_])|(rw[yam_ zaa_]))
          have T:x.goalP.1.length<=d/\d<=maxLen/\x.goalP.2.1.length<=1/\1<=maxLen/\(B=none->d=0):=by rw[e];exact⟨A,u,by simp,by decide,av_.nilcap S.row o⟩
          have R:Value.tuple #[a3.sv,.slice (some ⟨a5,0,none⟩) 1 1,i4_ 0]=.tuple #[.slice B x.goalP.1.length d,.slice (some ⟨a5,0,none⟩) x.goalP.2.1.length 1,i4_ x.goalP.2.2]:=by
            rw[e,o]<;>rfl
          have C:List.flatMap Pc.cells (Con.rightP (-1) x.right (ins (-1) (Con.rightP (-1) x.left (ins (-1) (bI_ (-1) [(Ax.disj x),[33]] ([]:List Pc)) (Pc.mk 1 (Ax.disj x) [] (Con.atom x.left) [] [] [] 0 0 0))) (Pc.mk 1 (Ax.disj x) [] (Con.atom x.right) [] [] [] 0 0 0)))=x.goalP.1.flatMap Pc.cells:=by rw[e]
          have E:List.flatMap Fc.cells [(Fc.mk 1 (Ax.disj x) [33] [] 0 0)]=x.goalP.2.1.flatMap Fc.cells:=by rw[e]
          exact hJ_ fA_ ⟨(B,d,(some ⟨a5,0,none⟩),1),T⟩ rfl rfl rfl R e_ (λv _ h=>⟨C▸h.1,E▸h.2.1,trivial⟩)
      . obtain⟨fl,zl⟩:=Con.check_zero (G.left zaa_);obtain⟨fr,zr⟩:=Con.check_zero (G.right zaa_);refine Zz 6 ?_;refine C_ 4 [0,1,3,4] zk zs (Zz 5 ?_);refine j_ 2 rfl zk (d_ (cJ_ x.left k.left) rfl e_ (λv _ h=>by exact⟨h.2.2.2.1.1,h.2.2.2.2.1,trivial⟩) rfl λ_=>Zz 3 ?_);refine j_ 5 rfl zk (d_ (cJ_ x.right k.right) rfl e_ (λv _ h=>by exact⟨h.2.2.2.1.2.1,h.2.2.2.2.1,trivial⟩) rfl λ_=>Zz 3 ?_);refine C_ 0 [6,7] zk zs (Zz 10 ?_);refine p_ m_ B_ ak_ rfl rfl rfl rfl rfl rfl λL=>?_;refine R_ (List.flatMap V_ [(Con.atom x.left),(Con.atom x.right)]) f_ rfl ?_;refine d_ (gG_ [(Con.atom x.left),(Con.atom x.right)] (some ⟨L,0,none⟩) 2 (-1) ([]:List Pc) ⟨.slice none 0 0,O,#[],0,[]⟩ ⟨av_.nil _ _,rfl,by simp⟩ zak_ zaN_) rfl zp zf rfl λ⟨M,H⟩=>?_;dsimp only;have I:=eL_ (-1) [(Con.atom x.left),(Con.atom x.right)] ([]:List Pc);refine s_ (@List.perm_append_comm _ _ [_]) ?_;simp only[yap_,yaw_]at I;refine Zz 7 ?_;refine bb_ (fV_ (kb:=kb) (bk:=bk) (bs:=br) (frm:=(-1)) _ x.left (yab_ _) k.left fl (bI_ (-1) [(Con.atom x.left),(Con.atom x.right)] ([]:List Pc)) M H zaa_) rfl rfl zp (λv _ h=>by exact⟨h.2.2.2.2.1.1,h.2.2.2.2.2.1,h.2.1,h.2.2.2.1,trivial⟩) rfl λ⟨P,K⟩=>?_;dsimp only;have Z:=Con.rightP_len (-1) _ x.left (yab_ _) (bI_ (-1) [(Con.atom x.left),(Con.atom x.right)] ([]:List Pc));refine s_ (@List.perm_append_comm _ _ [_]) (Zz 7 ?_);refine bb_ (hy_ (kb:=kb) (bk:=bk) (bs:=bl) (frm:=(-1)) _ x.right (yab_ _) k.right fr (Con.rightP (-1) x.left (bI_ (-1) [(Con.atom x.left),(Con.atom x.right)] ([]:List Pc))) P K zaa_) rfl rfl zp (λv _ h=>by exact⟨h.2.2.2.2.1.2.1,h.2.2.2.2.2.1,h.2.1,h.2.2.1,trivial⟩) rfl λ⟨Q,J⟩=>?_;dsimp only;have a7:=Con.leftP_len (-1) _ x.right (yab_ _) (Con.rightP (-1) x.left (bI_ (-1) [(Con.atom x.left),(Con.atom x.right)] ([]:List Pc)));refine s_ (@List.perm_append_comm _ _ [_]) (Zz 7 ?_);refine bb_ (km_ (Con.atom x.left) (Con.atom x.right)) rfl rfl e_ zt rfl λ_=>p_ M_ ar_ ad_ rfl rfl rfl rfl rfl rfl λF=>Zi 7 (λY=>?_) λY=>?_
        . refine Zz 18 ?_;refine R_ (List.flatMap Fc.cells [(Fc.mk 1 (Con.atom x.left) (Con.atom x.right) [] 0 0)]) f_ rfl ?_;refine dI_ J.row (g_ (g_ (g_ an_))) λB d o A u=>?_
          have e:x.goalP=((Con.leftP (-1) x.right (Con.rightP (-1) x.left (bI_ (-1) [(Con.atom x.left),(Con.atom x.right)] ([]:List Pc)))),[(Fc.mk 1 (Con.atom x.left) (Con.atom x.right) [] 0 0)],0):=by
            unfold Ax.goalP;rw[yam_ zaa_];repeat (first|rfl|(rw[yax_ zaa_])|(rw[yam_ zaa_]))
          have T:x.goalP.1.length<=d/\d<=maxLen/\x.goalP.2.1.length<=1/\1<=maxLen/\(B=none->d=0):=by rw[e];exact⟨A,u,by simp,by decide,av_.nilcap J.row o⟩
          have R:Value.tuple #[Q.sv,.slice (some ⟨F,0,none⟩) 1 1,i4_ 0]=.tuple #[.slice B x.goalP.1.length d,.slice (some ⟨F,0,none⟩) x.goalP.2.1.length 1,i4_ x.goalP.2.2]:=by
            rw[e,o]<;>rfl
          have C:List.flatMap Pc.cells (Con.leftP (-1) x.right (Con.rightP (-1) x.left (bI_ (-1) [(Con.atom x.left),(Con.atom x.right)] ([]:List Pc))))=x.goalP.1.flatMap Pc.cells:=by rw[e]
          have E:List.flatMap Fc.cells [(Fc.mk 1 (Con.atom x.left) (Con.atom x.right) [] 0 0)]=x.goalP.2.1.flatMap Fc.cells:=by rw[e]
          exact hJ_ fA_ ⟨(B,d,(some ⟨F,0,none⟩),1),T⟩ rfl rfl rfl R e_ (λv _ h=>⟨C▸h.1,E▸h.2.1,trivial⟩)
        . obtain⟨fl,zl⟩:=Con.check_zero (G.left zaa_);obtain⟨fr,zr⟩:=Con.check_zero (G.right zaa_);refine Zz 8 ?_;refine bb_ (fV_ (kb:=kb) (bk:=bk) (bs:=br) (frm:=(-1)) _ x.right (yab_ _) k.right fr (Con.leftP (-1) x.right (Con.rightP (-1) x.left (bI_ (-1) [(Con.atom x.left),(Con.atom x.right)] ([]:List Pc)))) Q J zaa_) rfl rfl zp (λv _ h=>by exact⟨h.2.2.2.2.1.2.1,h.2.2.2.2.2.1,h.2.1,h.2.2.2.1,trivial⟩) rfl λ⟨a2,V⟩=>?_;dsimp only;have hb_4:=Con.rightP_len (-1) _ x.right (yab_ _) (Con.leftP (-1) x.right (Con.rightP (-1) x.left (bI_ (-1) [(Con.atom x.left),(Con.atom x.right)] ([]:List Pc))));refine s_ (@List.perm_append_comm _ _ [_,_]) (Zz 7 ?_);refine bb_ (hy_ (kb:=kb) (bk:=bk) (bs:=bl) (frm:=(-1)) _ x.left (yab_ _) k.left fl (Con.rightP (-1) x.right (Con.leftP (-1) x.right (Con.rightP (-1) x.left (bI_ (-1) [(Con.atom x.left),(Con.atom x.right)] ([]:List Pc))))) a2 V zaa_) rfl rfl zp (λv _ h=>by exact⟨h.2.2.2.2.1.1,h.2.2.2.2.2.1,h.2.1,h.2.2.1,trivial⟩) rfl λ⟨a3,S⟩=>?_;dsimp only;refine s_ (@List.perm_append_comm _ _ [_,_]) (Zz 7 ?_);refine bb_ (km_ (Con.atom x.right) (Con.atom x.left)) rfl rfl e_ zt rfl λ_=>p_ M_ ar_ ad_ rfl rfl rfl rfl rfl rfl λU=>?_;have a0:av_ 104 6 (.slice (some ⟨F,0,none⟩) 1 1) 1 (Fc.cells (Fc.mk 1 (Con.atom x.left) (Con.atom x.right) [] 0 0)) [(F,.cells (Fc.cells (Fc.mk 1 (Con.atom x.left) (Con.atom x.right) [] 0 0)).toArray 104 (0,0))]:=⟨rfl,.inr ⟨F,1,_,rfl,rfl,by decide,by decide,rfl,rfl⟩⟩;refine am_ (news:=Fc.cells (Fc.mk 1 (Con.atom x.right) (Con.atom x.left) [] 0 0)) eltF a0 rfl rfl zp rfl (aO_ 0 rfl) (dn_ rfl) zaj_ zaj_ rfl λsvF HrF X=>?_;obtain⟨gF,cpF,curF,rfl,rfl,hrF⟩:=X.some zaj_;refine Zz 16 ?_;refine dI_ X f_ λadF cpG hsvF a6 a4=>?_;refine dI_ S.row (g_ (g_ (g_ (g_ an_)))) λB d o A u=>?_
          have e:x.goalP=((Con.leftP (-1) x.left (Con.rightP (-1) x.right (Con.leftP (-1) x.right (Con.rightP (-1) x.left (bI_ (-1) [(Con.atom x.left),(Con.atom x.right)] ([]:List Pc)))))),[⟨1,x.left.atom,x.right.atom,[],0,0⟩,⟨1,x.right.atom,x.left.atom,[],0,0⟩],0):=by
            unfold Ax.goalP;rw[yam_ zaa_];repeat (first|rfl|(rw[yax_ zaa_])|(rw[yam_ zaa_]))
          have T:x.goalP.1.length<=d/\d<=maxLen/\x.goalP.2.1.length<=cpG/\cpG<=maxLen/\(B=none->d=0):=by rw[e];exact⟨A,u,a6,a4,av_.nilcap S.row o⟩
          have R:Value.tuple #[a3.sv,.slice (some ⟨gF,0,none⟩) 2 cpF,i4_ 0]=.tuple #[.slice B x.goalP.1.length d,.slice adF x.goalP.2.1.length cpG,i4_ x.goalP.2.2]:=by
            rw[e,o];exact yag_ (λz=>Value.tuple #[_,z,_]) hsvF
          have C:List.flatMap Pc.cells (Con.leftP (-1) x.left (Con.rightP (-1) x.right (Con.leftP (-1) x.right (Con.rightP (-1) x.left (bI_ (-1) [(Con.atom x.left),(Con.atom x.right)] ([]:List Pc))))))=x.goalP.1.flatMap Pc.cells:=by rw[e]
          have E:List.flatMap Fc.cells [⟨1,x.left.atom,x.right.atom,[],0,0⟩,⟨1,x.right.atom,x.left.atom,[],0,0⟩]=x.goalP.2.1.flatMap Fc.cells:=by rw[e]
          exact hJ_ fA_ ⟨(B,d,adF,cpG),T⟩ rfl rfl rfl R e_ (λv _ h=>⟨C▸h.1,E▸h.2.1,trivial⟩)
    . obtain⟨fl,zl⟩:=Con.check_zero (G.left zaa_);obtain⟨fr,zr⟩:=Con.check_zero (G.right zaa_);refine Zz 9 ?_;refine C_ 4 [0,1,3,4] zk zs (Zz 5 ?_);refine j_ 2 rfl zk (d_ (cJ_ x.left k.left) rfl e_ (λv _ h=>by exact⟨h.2.2.2.1.1,h.2.2.2.2.1,trivial⟩) rfl λ_=>Zz 3 ?_);refine j_ 5 rfl zk (d_ (cJ_ x.right k.right) rfl e_ (λv _ h=>by exact⟨h.2.2.2.1.2.1,h.2.2.2.2.1,trivial⟩) rfl λ_=>Zz 3 ?_);refine C_ 0 [6,7] zk zs (Zz 10 ?_);refine p_ m_ B_ ak_ rfl rfl rfl rfl rfl rfl λL=>?_;refine R_ (List.flatMap V_ [(Con.atom x.left),(Con.atom x.right)]) f_ rfl ?_;refine d_ (gG_ [(Con.atom x.left),(Con.atom x.right)] (some ⟨L,0,none⟩) 2 (-1) ([]:List Pc) ⟨.slice none 0 0,O,#[],0,[]⟩ ⟨av_.nil _ _,rfl,by simp⟩ zak_ zaN_) rfl zp zf rfl λ⟨M,H⟩=>?_;dsimp only;have I:=eL_ (-1) [(Con.atom x.left),(Con.atom x.right)] ([]:List Pc);refine s_ (@List.perm_append_comm _ _ [_]) ?_;simp only[yap_,yaw_]at I;refine Zz 7 ?_;refine bb_ (fV_ (kb:=kb) (bk:=bk) (bs:=br) (frm:=(-1)) _ x.left (yab_ _) k.left fl (bI_ (-1) [(Con.atom x.left),(Con.atom x.right)] ([]:List Pc)) M H zaa_) rfl rfl zp (λv _ h=>by exact⟨h.2.2.2.2.1.1,h.2.2.2.2.2.1,h.2.1,h.2.2.2.1,trivial⟩) rfl λ⟨P,K⟩=>?_;dsimp only;have Z:=Con.rightP_len (-1) _ x.left (yab_ _) (bI_ (-1) [(Con.atom x.left),(Con.atom x.right)] ([]:List Pc));refine s_ (@List.perm_append_comm _ _ [_]) (Zz 7 ?_);refine bb_ (hy_ (kb:=kb) (bk:=bk) (bs:=bl) (frm:=(-1)) _ x.right (yab_ _) k.right fr (Con.rightP (-1) x.left (bI_ (-1) [(Con.atom x.left),(Con.atom x.right)] ([]:List Pc))) P K zaa_) rfl rfl zp (λv _ h=>by exact⟨h.2.2.2.2.1.2.1,h.2.2.2.2.2.1,h.2.1,h.2.2.1,trivial⟩) rfl λ⟨Q,J⟩=>?_;dsimp only;refine s_ (@List.perm_append_comm _ _ [_]) (Zz 7 ?_);refine bb_ (km_ (Con.atom x.left) (Con.atom x.right)) rfl rfl e_ zt rfl λ_=>p_ M_ ar_ ad_ rfl rfl rfl rfl rfl rfl λF=>Zi 7 (λW=>?_) λW=>?_
      . refine Zz 18 ?_;refine R_ (List.flatMap Fc.cells [(Fc.mk 1 (Con.atom x.left) (Con.atom x.right) [] 0 0)]) f_ rfl ?_;refine dI_ J.row (g_ (g_ (g_ an_))) λB d o A u=>?_
        have e:x.goalP=((Con.leftP (-1) x.right (Con.rightP (-1) x.left (bI_ (-1) [(Con.atom x.left),(Con.atom x.right)] ([]:List Pc)))),[(Fc.mk 1 (Con.atom x.left) (Con.atom x.right) [] 0 0)],0):=by
          unfold Ax.goalP;rw[yam_ zaa_];repeat (first|rfl|(rw[yax_ zaa_])|(rw[yam_ zaa_]))
        have T:x.goalP.1.length<=d/\d<=maxLen/\x.goalP.2.1.length<=1/\1<=maxLen/\(B=none->d=0):=by rw[e];exact⟨A,u,by simp,by decide,av_.nilcap J.row o⟩
        have R:Value.tuple #[Q.sv,.slice (some ⟨F,0,none⟩) 1 1,i4_ 0]=.tuple #[.slice B x.goalP.1.length d,.slice (some ⟨F,0,none⟩) x.goalP.2.1.length 1,i4_ x.goalP.2.2]:=by
          rw[e,o]<;>rfl
        have C:List.flatMap Pc.cells (Con.leftP (-1) x.right (Con.rightP (-1) x.left (bI_ (-1) [(Con.atom x.left),(Con.atom x.right)] ([]:List Pc))))=x.goalP.1.flatMap Pc.cells:=by rw[e]
        have E:List.flatMap Fc.cells [(Fc.mk 1 (Con.atom x.left) (Con.atom x.right) [] 0 0)]=x.goalP.2.1.flatMap Fc.cells:=by rw[e]
        exact hJ_ fA_ ⟨(B,d,(some ⟨F,0,none⟩),1),T⟩ rfl rfl rfl R e_ (λv _ h=>⟨C▸h.1,E▸h.2.1,trivial⟩)
      . exfalso;omega
  . refine Zz 12 ?_;have e:x.goalP=([],[],(Ax.check x)):=by unfold Ax.goalP;rw[yax_ zar_]
    have T:x.goalP.1.length<=0/\0<=maxLen/\x.goalP.2.1.length<=0/\0<=maxLen/\((none:Ao)=none->0=0):=by rw[e];simp
    have R:Value.tuple #[.slice none 0 0,.slice none 0 0,i4_ (Ax.check x)]=.tuple #[.slice none x.goalP.1.length 0,.slice none x.goalP.2.1.length 0,i4_ x.goalP.2.2]:=by rw[e]<;>rfl
    have C:x.goalP.1.flatMap Pc.cells=[]:=by rw[e];rfl
    have E:x.goalP.2.1.flatMap Fc.cells=[]:=by rw[e];rfl
    exact hJ_ fA_ ⟨(none,0,none,0),T⟩ rfl rfl rfl R e_ (λv _ h=>⟨.inl C,.inl E,trivial⟩)
abbrev GlT (x:Ax) (p:List Pc) (fs:List Fc) (er:Int):Prop:=Tri prog 45 #[x.val] [] [x.memF,cy_] (λy:{y:Ao×Nat×Ao×Nat // p.length<=y.2.1/\y.2.1<=maxLen/\fs.length<=y.2.2.2/\y.2.2.2<=maxLen/\(y.1=none->y.2.1=0)}=>.tuple #[.slice y.1.1 p.length y.1.2.1,.slice y.1.2.2.1 fs.length y.1.2.2.2,.int .i64 er]) (λ_=>[]) (λy=>[O_ y.1.1 (p.flatMap Pc.cells),O_ y.1.2.2.1 (fs.flatMap Fc.cells)])
theorem Av_ {x:Ax} (d:x.ok) {p:List Pc} {k:List Fc} {er:Int} (e:x.goalP=(p,k,er)):GlT x p k er:=by
  have h:=goal_c x d;unfold GlT;generalize x.goalP=g at h e
  subst e;exact h
end Go.Proofs.YtbffkokbdeppaaaGreatDoor
namespace Go.Vs
open Go Go.Sx
def vw (W:World):Vw:=⟨λb=>b<W.heap.size,W,True⟩
theorem vw_sat (W:World):(vw W).sat []:=⟨(λ_ h=>by cases h),zak_,λ_ h=>h⟩
section
variable {H:Type} {enc:TypeId×Value->H} {P:Program} {W:World}
abbrev wok (l:List Nat):Prop:=l.all (·<=reachBytes)=true
theorem fO_ {a b:List Nat}:wok (a++b)↔wok a/\wok b:=by grind
theorem yQ_ {n:Nat} {b:List Nat}:wok (n::b)↔n<=reachBytes/\wok b:=by simp[wok]
theorem yR_ {e:TypeId}:∀ {ds:List (DataW H)},wok (DataW.weightsAll P e ds)->∀ d∈ds,wok (d.weights P e)
 | [],_,_,h=>by cases h
 | x::ds,hw,d,k=>by
   rw[DataW.weightsAll,fO_]at hw;rcases yar_.1 k with rfl|k
   . exact hw.1
   . exact yR_ hw.2 d k
theorem rX_ {α:Type} [Inhabited α] (f:α->List Value) (k:Nat) (V:∀ x,(f x).length=k) (B:0<k) (Q:α->Prop) {R v:TypeId} (Z:P.underlying R=some (.slice v)) (hc:P.cellsOf v=k) {n:Nat} {cs:List Value} {x:DataW H×List MemPlace}
    (M:∀ m,m<n->∀ cs' y,DataW.trod enc P W 0 (λ_=>true) true m v cs'=some y->wok (y.1.weights P v)->∃ c,cs'=f c/\Q c)
    (h:DataW.trod enc P W 0 (λ_=>true) true n R cs=some x) (hw:wok (x.1.weights P R)) :
    ∃ (l:List α) (ad:Ao) (cap:Nat),cs=[.slice ad l.length cap]/\bW_ (vw W) ad (l.flatMap f)/\(∀ c∈l,Q c)/\l.length<=cap/\cap*P.bytesOf v<=reachBytes:=by
  rcases DataW.trod_slice Z h with⟨L,_⟩|⟨a,len,cap,K,rest,m,hn,rfl,rfl,_,hl,_,Y,a1,O,_⟩
  . exact⟨[],none,0,L,.inl rfl,(λ_ h=>by cases h),yab_ _,by simp⟩
  . obtain⟨hr,_⟩:=O rfl
    simp only[DataW.weights,Z,yQ_,fO_,yaB_]at hw
    have E:cap*P.bytesOf v<=reachBytes:=by
      grind
    have F:∀ i,i<len->∃ c:α,W.cells? 0 (a.add (i*k)) k=some (f c)/\Q c:=λi hi=>by
      grind[Option.bind_eq_some_iff,yR_,List.mem_map_of_mem]
    obtain⟨C,U⟩:=Deep.choose_lt F;refine⟨(List.range len).map C,some a,cap,by simp,?_,?_,by grind,E⟩
    . by_cases L:len=0
      . left;simp[L]
      . have h1:=(U 0 zaa_).1
        obtain⟨_,_,d⟩:=World.cells?_some h1;have J:=d 0 B;have I:0<(f (C 0)).length:=by grind
        rw[yaa_ I]at J;cases hb:W.heap[a.block]? with
        | none=>grind[World.cell?,Addr.add]
        | some o =>
          cases o with
          | cells arr T fz =>
            have u:a.spot=none:=by
              cases hsp2:a.spot<;>grind[World.cell?,Addr.add]
            obtain⟨b,off,sp⟩:=a;simp only at u hb;subst u;right
            refine⟨b,off,arr,T,fz,rfl,(yaC_.1 hb).1,hb,λj y S=>?_⟩
            have a0:j<len*k:=by
              have:=(yaf_.1 S).1;rw[bV_ f k V]at this
              grind
            have hi:j / k<len:=Nat.div_lt_of_lt_mul zap_;have A:j%k<k:=Nat.mod_lt _ B;have e:j=(j / k)*k+j%k:=by grind[Nat.div_add_mod]
            have G:((List.range len).map C)[j / k]? = some (C (j / k)):=by simp[hi]
            rw[e,mN_ f k V _ (j / k) (j%k) _ G A]at S;obtain⟨_,_,d⟩:=World.cells?_some (U (j / k) hi).1;have:=d (j%k) A;rw[S,da_,da_]at this;rw[e]
            grind[World.cell?]
          | _=>grind[World.cell?,Addr.add]
    grind
end
instance:Inhabited Con:=⟨.mk 0 [] 0 0 none 0 []⟩
instance:Inhabited Ax:=⟨⟨0,false,default,default,none,0,[],[],[],[]⟩⟩
instance:Inhabited Pc:=⟨⟨0,[],[],[],[],[],[],0,0,0⟩⟩
structure Tys (P:Program) (tI tB tS tSs tC tCs tA tAs tP tPs:TypeId):Prop where
  i:P.underlying tI=some (.int .i64)
  b:P.underlying tB=some .bool
  s:P.underlying tS=some .string
  ss:P.underlying tSs=some (.slice tS)
  c:∃ fs,P.underlying tC=some (.struct fs)/\fs.toList.map (λf=>(f.type,f.offset))=[(tI,0),(tS,1),(tI,2),(tI,3),(tCs,4)]
  cs:P.underlying tCs=some (.slice tC)
  a:∃ fs,P.underlying tA=some (.struct fs)/\fs.toList.map (λf=>(f.type,f.offset))=[(tI,0),(tB,1),(tC,2),(tC,7),(tSs,12),(tS,13),(tS,14),(tS,15)]
  axs:P.underlying tAs=some (.slice tA)
  p:∃ fs,P.underlying tP=some (.struct fs)/\fs.toList.map (λf=>(f.type,f.offset))=[(tI,0),(tS,1),(tS,2),(tS,3),(tS,4),(tS,5),(tS,6),(tI,7),(tI,8),(tI,9)]
  ps:P.underlying tPs=some (.slice tP)
  ci:P.cellsOf tI=1
  cb:P.cellsOf tB=1
  cs1:P.cellsOf tS=1
  css:P.cellsOf tSs=1
  cc:P.cellsOf tC=5
  ccs:P.cellsOf tCs=1
  ca:P.cellsOf tA=16
  cp:P.cellsOf tP=10
  bs:P.bytesOf tS=16
  bc:P.bytesOf tC=64
  ba:P.bytesOf tA=216
  bp:P.bytesOf tP=128
section
variable {H:Type} {enc:TypeId×Value->H} {P:Program} {W:World} {tI tB tS tSs tC tCs tA tAs tP tPs:TypeId} (X:Tys P tI tB tS tSs tC tCs tA tAs tP tPs)
theorem fields_of {t:TypeId} {d:Array Field} {L:List (TypeId×Nat)} {cs:List Value} {n:Nat} {x:DataW H×List MemPlace} (e:P.underlying t=some (.struct d)) (v:d.toList.map (λf=>(f.type,f.offset))=L) (h:DataW.trod enc P W 0 (λ_=>true) true n t cs=some x) :
    ∃ (xs:List (DataW H×List MemPlace)) (m:Nat),n=m+1/\x.1=.agg (xs.map (·.1))/\cs.length=P.cellsOf t/\xs.length=L.length/\(∀ (i:Nat) q,L[i]? = some q->DataW.trod enc P W 0 (λ_=>true) true m q.1 ((cs.drop q.2).take (P.cellsOf q.1))=xs[i]?)/\
      (x.1.weights P t=DataW.weightsEach P (L.map (·.1)) (xs.map (·.1))):=by
  obtain⟨xs,m,u,o,hl,k,y⟩:=DataW.trod_struct e h;refine⟨xs,m,u,by rw[o],hl,by grind,λi q A=>?_,?_⟩
  . grind
  . rw[o];simp only[DataW.weights,e]
    congr 1
    rw[<-v,ydg_];rfl
include X
theorem so_ {n:Nat} {cs:List Value} {x:DataW H×List MemPlace} (h:DataW.trod enc P W 0 (λ_=>true) true n tI cs=some x):∃ k:Int,cs=[.int .i64 k]/\-9223372036854775808<=k/\k<=9223372036854775807:=by
  obtain⟨k,e,_,d⟩:=DataW.trod_int X.i h;have:=bounds_i64 d
  grind
theorem CN_ {n:Nat} {cs:List Value} {x:DataW H×List MemPlace} (h:DataW.trod enc P W 0 (λ_=>true) true n tB cs=some x):∃ b:Bool,cs=[.bool b]:=by
  obtain⟨b,d,_⟩:=DataW.trod_bool X.b h
  grind
theorem str_of {n:Nat} {cs:List Value} {x:DataW H×List MemPlace} (h:DataW.trod enc P W 0 (λ_=>true) true n tS cs=some x) (d:wok (x.1.weights P tS)):∃ s:Str,cs=[str s]/\s.length<=140737488351232:=by
  obtain⟨s,k,e,_⟩:=DataW.trod_string X.s h;rw[e]at d;simp[wok,DataW.weights,reachBytes]at d
  refine⟨s.data.toList,by rw[k];rfl,by have:=ybB_ d;simpa using this⟩
theorem AP_:∀ (n:Nat) (cs:List Value) (x:DataW H×List MemPlace),DataW.trod enc P W 0 (λ_=>true) true n tC cs=some x->wok (x.1.weights P tC)->∃ c:Con,cs=c.cells/\c.mem (vw W)/\c.ok:=by
 intro n
 induction n using Nat.strongRecOn with
 | ind n ih =>
   intro cs x h u;obtain⟨fs,Z,V⟩:=X.c;obtain⟨xs,m,hn,hx,hl,d,e,v⟩:=fields_of Z V h;rw[v]at u
   match xs,d with
   | [x0,x1,x2,x3,x4],_ =>
   simp only[yaE_,ybz_,DataW.weightsEach,fO_]at u;have E:=e 0 _ rfl;have G:=e 1 _ rfl;have K:=e 2 _ rfl;have R:=e 3 _ rfl;have O:=e 4 _ rfl;simp only[ybq_,ybp_,X.ci,X.cs1,X.ccs]at E G K R O;obtain⟨k,C,k1,k2⟩:=so_ X E;obtain⟨nm,L,n1⟩:=str_of X G u.2.1;obtain⟨lo,J,l1,l2⟩:=so_ X K;obtain⟨hi,M,U,T⟩:=so_ X R
   obtain⟨l,ad,cap,Q,o,F,B,I⟩:=rX_ Con.cells 5 Con.cells_len zaj_ (λc=>c.mem (vw W)/\c.ok) X.cs X.cc (λm' S Y y hy hwy=>by
     grind) O u.2.2.2.2.1
   rw[X.cc]at hl
   match cs,hl with
   | [c0,c1,c2,c3,c4],_ =>
   simp only[ycs_,ycF_,ycb_,ybI_,ybv_,and_true]at C L J M Q;subst C L J M Q;refine⟨.mk k nm lo hi ad cap l,rfl,?_,k1,k2,n1,l1,l2,U,T,B,?_,Con.oks_iff.2 λp A=>(F p A).2⟩
   . rw[Con.mem_iff];exact⟨o,λp A=>(F p A).1⟩
   grind[Tys.bc,reachBytes]
theorem wb_ {n:Nat} {cs:List Value} {x:DataW H×List MemPlace} (h:DataW.trod enc P W 0 (λ_=>true) true n tSs cs=some x) (u:wok (x.1.weights P tSs)) :
    ∃ (l:List Str) (ad:Ao) (cap:Nat),cs=[.slice ad l.length cap]/\bW_ (vw W) ad (l.flatMap V_)/\(∀ s∈l,s.length<=140737488351232)/\l.length<=cap/\cap<=8796093021952:=by
  obtain⟨l,ad,cap,e,k,G,C,o⟩:=rX_ V_ 1 au_ zaj_ (λs=>s.length<=140737488351232) X.ss X.cs1 (λF _ A y B d=>by
    obtain⟨s,v,E⟩:=str_of X B d;exact⟨s,v,E⟩) h u
  grind[Tys.bs,reachBytes]
theorem Dm_ {n:Nat} {cs:List Value} {x:DataW H×List MemPlace} (h:DataW.trod enc P W 0 (λ_=>true) true n tA cs=some x) (d:wok (x.1.weights P tA)):∃ a:Ax,cs=a.cells/\a.mem (vw W)/\a.ok:=by
  obtain⟨fs,hu,hL⟩:=X.a;obtain⟨xs,m,hn,hx,hl,u,e,A⟩:=fields_of hu hL h;rw[A]at d
  match xs,u with
  | [x0,x1,x2,x3,x4,x5,x6,x7],_ =>
  simp only[yaE_,ybz_,DataW.weightsEach,fO_]at d;have F:=e 0 _ rfl;have J:=e 1 _ rfl;have O:=e 2 _ rfl;have T:=e 3 _ rfl;have S:=e 4 _ rfl;have L:=e 5 _ rfl;have M:=e 6 _ rfl;have G:=e 7 _ rfl;simp only[ybq_,ybp_,X.ci,X.cb,X.cs1,X.cc,X.css]at F J O T S L M G;obtain⟨k,B,k1,k2⟩:=so_ X F;obtain⟨op,Q⟩:=CN_ X J;obtain⟨le,K,V,o2⟩:=AP_ X _ _ _ O d.2.2.1;obtain⟨ri,R,Z,o3⟩:=AP_ X _ _ _ T d.2.2.2.1;obtain⟨rs,ad,cap,U,y,hq,v,o⟩:=wb_ X S d.2.2.2.2.1;obtain⟨ro,C,Y⟩:=str_of X L d.2.2.2.2.2.1;obtain⟨a,I,n6⟩:=str_of X M d.2.2.2.2.2.2.1;obtain⟨b,E,n7⟩:=str_of X G d.2.2.2.2.2.2.2.1;rw[X.ca]at hl
  match cs,hl with
  | [c0,c1,c2,c3,c4,c5,c6,c7,c8,c9,c10,c11,c12,c13,c14,c15],_ =>
  simp only[ycs_,ycF_,ycb_,ybI_,ybv_,and_true,Con.cells]at B Q K R U C I E;obtain⟨rfl,rfl,rfl,rfl,rfl⟩:=K;obtain⟨rfl,rfl,rfl,rfl,rfl⟩:=R;subst B Q U C I E;exact⟨⟨k,op,le,ri,ad,cap,rs,ro,a,b⟩,rfl,⟨V,Z,y⟩,⟨k1,k2,o2,o3,v,yaI_ v o,hq,Y,n6,n7⟩⟩
theorem axs_of {n:Nat} {cs:List Value} {x:DataW H×List MemPlace} (h:DataW.trod enc P W 0 (λ_=>true) true n tAs cs=some x) (A:wok (x.1.weights P tAs)) :
    ∃ (l:List Ax) (ad:Ao) (cap:Nat),cs=[.slice ad l.length cap]/\(bA_ ad l).p (vw W)/\(∀ y∈l,y.ok)/\l.length<=cap/\cap<=2199023255488:=by
  obtain⟨l,ad,cap,e,k,v,u,d⟩:=rX_ Ax.cells 16 Ax.cells_len zaj_ (λa=>a.mem (vw W)/\a.ok) X.axs X.ca (λE _ B y o C=>by
    grind[Dm_]) h A
  rw[X.ba]at d;simp only[reachBytes]at d;exact⟨l,ad,cap,e,⟨k,λy o=>(v y o).1⟩,λy o=>(v y o).2,u,by omega⟩
end
end Go.Vs
namespace Go.Vs
open Go Go.Sx Go.ChangeShapes Go.WideShapes Go.ChangeAt Go.RowKit
section
variable {H:Type} {enc:TypeId×Value->H} {P:Program} {w:World}
mutual
def gs_ {H:Type}:DataW H->List Value
  | .lit (.int k n)=>[.int k n]
  | .lit (.bool b)=>[.bool b]
  | .agg ps=>lZ_ ps
  | _=>[]
def lZ_ {H:Type}:List (DataW H)->List Value
  | []=>[]
  | d::r=>gs_ d++lZ_ r
end
def il_ (P:Program):Nat->TypeId->Bool
  | 0,_=>false
  | n+1,t=>match P.underlying t with
    | some .bool=>true
    | some (.int _)=>true
    | some (.struct fs)=>fs.toList.all λf=>il_ P n f.type
    | some (.array _ e)=>il_ P n e
    | _=>false
theorem lb_:∀ l:List (DataW H),lZ_ l=l.flatMap gs_
  | []=>by simp[lZ_]
  | d::r=>by simp only[lZ_,lb_ r,yaR_]
theorem tile:∀ (e:List Nat) (cs:List Value) (g:List (List Value)),cs.length=e.sum->g.length=e.length->(∀ j n,e[j]? = some n->some ((cs.drop (e.take j).sum).take n)=g[j]?)->cs=g.flatten
  | [],cs,g,h,hg,_=>by
    grind
  | n::e,cs,[],h,hg,hp=>by simp at hg
  | n::e,cs,x::g,h,hg,hp=>by
    have o:=hp 0 n rfl;simp only[ybI_,List.sum_nil,ycF_,ybq_,yai_]at o
    have u:=tile e (cs.drop n) g zap_ zap_ (λj m k=>by
      have:=hp (j+1) m k
      grind[List.drop_drop])
    grind[List.take_append_drop]
theorem zG_ {T:TypeId->Prop} {u:Bool} (K:Kids P T):∀ (n m:Nat) (t:TypeId) (cs:List Value) (x:DataW H×List MemPlace),T t->il_ P m t=true->DataW.trod enc P w 0 (λ_=>true) u n t cs=some x->cs=gs_ x.1:=by
  intro n
  induction n with
  | zero=>intro m t cs x _ _ h;simp[DataW.trod]at h
  | succ n ih =>
    intro m t cs x A C h;cases m with
    | zero=>grind[il_]
    | succ m =>
    cases hu:P.underlying t with
    | none=>grind[il_]
    | some d =>
      cases d with
      | bool=>grind[DataW.trod_bool,gs_]
      | int k=>grind[DataW.trod_int,gs_]
      | struct fs =>
        obtain⟨xs,y,E,rfl,hl,o,B⟩:=DataW.trod_struct hu h;obtain rfl:y=n:=by omega
        obtain⟨k1,k2,G⟩:=K.struct A hu
        grind[il_,gs_,lb_,tile,List.map_take]
      | array len e =>
        obtain⟨xs,y,E,rfl,hl,o,B⟩:=DataW.trod_array hu h;obtain rfl:y=n:=by omega
        obtain⟨k1,k2⟩:=K.array A hu;simp only[il_,hu]at C;simp only[gs_];rw[lb_,List.flatMap_def,ydg_];refine tile (List.replicate len (P.cellsOf e)) cs _ (by rw[hl,k2];simp) (by simp[o]) λj q F=>?_
        grind[List.sum_replicate_nat]
      | _=>grind[il_]
end
section
variable {H:Type} {enc:TypeId×Value->H} {P:Program} {W W':World}
theorem kF_:∀ {ts:List TypeId} {vs:List Value} {ds:List (DataW H)} {ps:List MemPlace} {sp:Nat->Bool},DataW.TrodAll enc P W 0 sp true ts vs ds ps->(∀ p∈ps,W.sameAt W' p)->DataW.TrodAll enc P W' 0 sp true ts vs ds ps
  | [],[],[],_,_,h,_=>h
  | _::_,_::_,_::_,_,_,⟨p,q,⟨n,h1⟩,h2,e⟩,hs=>⟨p,q,⟨n,DataW.trod_carry n _ _ _ h1 (λx k=>hs x zap_)⟩,kF_ h2 (λx k=>hs x zap_),e⟩
theorem Ad_ {T:TypeId->Prop} (K:Kids P T) (Z:∀ t e,T t->P.underlying t=some (.slice e)->0<P.cellsOf e) {f:Func} {s:ChangeSpec} {args:Array Value} {E:List (DataW H)} {before:List MemPlace} {L:TypeId} (J:∀ t∈f.params.toList,T t) (k:s.vars=[])
    (S:DataW.Whole enc P f.params.toList s.vars false W args.toList E [] before) (Q:s.fn H (E++[])={ results:=[.lit (.bool true)],args:=E }) (B:f.resultTypes=#[L]) (G:P.underlying L=some .bool) {C:Vw} (y:(vw W).to [] C []) :
    s.post enc P f false true false false W args (.bool true) C.w:=by
  have F:=S;obtain⟨p,q,V,U,M,_,_⟩:=S;have Y:q=[]:=by rw[k]at U;exact U
  subst Y;simp only[yas_]at M;subst M;have o:∀ b,b<W.heap.size->C.w.heap[b]? = W.heap[b]? := λb G=>y.block b G zak_
  have u:∀ x∈before,W.sameAt C.w x:=λx R=>by
    have A:=DataW.TrodAll.lt V x R;cases x with
    | cell b off=>exact World.cell?_of_block (o b A)
    | map b=>exact o b A
  have I:=kF_ V u;have O:=DataW.TrodAll.respare K Z (spare':=λb=>decide (b<W.heap.size)) J I (λx R=>by grind[DataW.TrodAll.lt]);refine⟨E,[],before,[],before,[],F,?_,?_,?_,⟨y.os,y.output,λi hi=>?_⟩,λh=>by cases h⟩
  . rw[Q,B];exact trodAll_mk1 (shut_bool G true)
  . grind
  . rw[Q,k];rfl
  grind
section
variable {tI tB tS tSs tC tCs tA tAs tP tPs:TypeId} (X:Tys P tI tB tS tSs tC tCs tA tAs tP tPs) {base:Nat} {v:Value} {d:DataW H} {ps:List MemPlace}
include X
theorem AY_ (e:Value.okWide P W .any base tSs v) (h:DataW.Trod enc P W 0 (λ_=>true) true tSs v d ps) (k:wok (d.weights P tSs)) :
    ∃ (l:List Str) (ad:Ao) (cap:Nat),v=.slice ad l.length cap/\bW_ (vw W) ad (l.flatMap V_)/\(∀ s∈l,s.length<=140737488351232)/\l.length<=cap/\cap<=8796093021952:=by
  obtain⟨a,len,cap,rfl⟩:=okWide_slice X.ss e;obtain⟨n,o⟩:=h
  grind[wb_,Value.cells]
theorem arg_ax (k:Value.okWide P W .any base tA v) (h:DataW.Trod enc P W 0 (λ_=>true) true tA v d ps) (o:wok (d.weights P tA)):∃ a:Ax,v=a.val/\a.mem (vw W)/\a.ok:=by
  obtain⟨A,x,_⟩:=X.a;unfold Value.okWide at k;rw[x]at k;obtain⟨cs,rfl,_⟩:=k;obtain⟨n,y⟩:=h;obtain⟨a,e,u⟩:=Dm_ X y o;refine⟨a,?_,u⟩;simp only[Value.cells]at e;rw[Ax.val,<-e]
end
theorem pa_ {T:TypeId->Prop} (K:Kids P T) {name:String} {d:DataW Unit} {k:List (String×DataW Unit)} {W:World} (h:laidMet P k W) (hm:(name,d)∈k) {g:Nat} {t:TypeId} (C:P.globalNamed name=some g) (u:(P.globals[g]?).map (·.type)=some t) (J:T t) {m:Nat} (I:il_ P m t=true) :
    ∃ y fz,W.heap[g]? = some (.cells (gs_ d).toArray y fz):=by
  obtain⟨ps,hl,_,_⟩:=h
  have key:∀ (l:List (String×DataW Unit)) (ps:List MemPlace),DataW.LaidVars P W l ps->(name,d)∈l->∃ g t cs n p,P.globalNamed name=some g/\(P.globals[g]?).map (·.type)=some t/\W.var? P name=some cs/\DataW.trod (λ_=>()) P W 0 (λ_=>true) false n t cs.toList=some (d,p):=by
    intro l
    induction l with
    | nil=>grind
    | cons x r ih =>
      intro ps h hm;obtain⟨O,R⟩:=x;obtain⟨g,t,cs,G,p,q,F,A,o,E,Q,_⟩:=h
      grind
  obtain⟨L,B,cs,n,p,F,A,o,E⟩:=key k ps hl hm;obtain rfl:L=g:=ycf_ (F.symm.trans C);obtain rfl:B=t:=ycf_ (A.symm.trans u);have e:=zG_ K n m B cs.toList _ J I E;simp only[World.var?,C,Option.bind_some]at o
  split at o
  . rename_i c y fz M
    simp only[yai_]at o;subst o;exact⟨y,fz,by rw[M,<-e]⟩
  . cases o
end
end Go.Vs
