/-
  Lemmas for the law CanonTells (no condition).
-/
import Derived.Test.YtbffkokbdeppaaaGreatDoorQCanonTells4
import Derived.ProofKit
import Derived.OpenShut
import Derived.ReadAgain
import Derived.Deep.Slices
import Derived.SevenTiedAt
import Derived.Stop.Joined
import Derived.Lay
import Derived.LaidMore
set_option linter.unusedVariables false
set_option linter.unusedSimpArgs false
set_option linter.unusedSectionVars false
set_option maxHeartbeats 1000000
namespace Go.Proofs.YtbffkokbdeppaaaGreatDoor
open Go Go.Sx Go.Proofs Tryz
attribute [local irreducible] Code.wp wpList wpAnyH
open Go.Vs
theorem Cb_ (x:Ax) (K:x.ok) (hc:x.check=0) {kb:Nat} (frm:Int) (q:CS) (hq:CInv [] q) :
    Tri prog 142 #[zp_ kb 0,x.val] (fA_ kb frm q) [x.memF,bN_] (λ_:{q':CS // CInv (x.pieces frm) q'}=>.tuple #[]) (λq'=>fA_ kb frm q'.1) (λ_=>[]):=by
  have G:=Ax.good_of hc;obtain⟨k,S,⟨kl,H,I,hl,al,cl,pl⟩,⟨C,A,E,B,d,y,m⟩,ad,cap,rs,ro,a,b⟩:=x;have hlen:=K.len;have hcap:=K.cap;have h_1:=G.k1;have h_2:=G.k9;have h_3:([]:List Pc).length=0:=rfl;dsimp only at hlen hcap h_1 h_2;show Tri prog 142 #[zp_ kb 0,.agg (Ax.cells (Ax.mk k S (Con.mk kl H I hl al cl pl) (Con.mk C A E B d y m) ad cap rs ro a b)).toArray] _ _ _ _ _
  refine i_ func142 rfl rfl ntmps142 rfl λv_1=>?_;refine Zz 2 ?_;refine P_ rfl rfl λP=>Zz 5 ?_
  refine f_ (vf_ kb) rfl (.refl _) zt rfl λx=>?_;obtain⟨bk,bl,br⟩:=x;refine Zj 16 (λhr_1=>?_) λhr_1=>?_
  . refine Zj 6 (λhr_2=>?_) λhr_2=>?_
    . refine Zj 6 (λhr_3=>?_) λhr_3=>?_
      . refine Zj 6 (λhr_4=>?_) λhr_4=>?_
        . refine Zj 6 (λhr_5=>?_) λhr_5=>?_
          . refine Zj 6 (λU=>?_) λU=>?_
            . refine Zj 6 (λT=>?_) λT=>?_
              . refine Zj 6 (λhr_8=>?_) λhr_8=>?_
                . refine Zj 6 (λX=>?_) λX=>?_
                  . exfalso;omega
                  . refine Zz 4 ?_;refine ak_ [(P,.cells (Ax.cells (Ax.mk k S (Con.mk kl H I hl al cl pl) (Con.mk C A E B d y m) ad cap rs ro a b)).toArray 30 (0,0))] zk ?_;refine D_ 5 [0,1,2,4,5,6,7] zk (λ_ a b=>⟨Vw.sat.sub a,b⟩) (Zz 8 ?_);refine p_ 3 rfl zk (f_ (cA_ a K.a) rfl (.refl _) zt rfl λ_=>Zz 2 ?_);refine V_ (λ_ a b=>⟨Vw.sat.sub a,b⟩) (p_ 8 rfl zk (f_ (cA_ b K.b) rfl (.refl _) zt rfl λ_=>Zz 2 ?_));refine V_ (λ_ a b=>⟨Vw.sat.sub a,b⟩) (D_ 2 [9] zk (λ_ a b=>⟨Vw.sat.sub a,b⟩) (M_ rfl (C_ dO_ rfl rfl) rfl (bs_ (p_ 10 rfl zk (O_ J_ K_ aa_ rfl rfl rfl rfl rfl rfl λR=>Zz 2 ?_)))));refine V_ (λ_ a b=>⟨Vw.sat.sub a.tail,b⟩) (p_ 11 rfl zk (f_ (dP_ ⟨3,([123]++a++[125]),[],([123]++b++[125]),ro,[],[],0,0,0⟩ frm [] q hq zaa_) rfl (.cons _ (@List.perm_append_comm _ [_] _)) zt rfl λx=>?_));obtain⟨L,J⟩:=x;refine A_ (@List.perm_append_comm _ _ [_]) (Zz 2 ?_);refine V_ (λ_ a b=>⟨Vw.sat.sub a,b⟩) (Zz 2 ?_)
                    have e:Ax.pieces frm ⟨k,S,(.mk kl H I hl al cl pl),(.mk C A E B d y m),ad,cap,rs,ro,a,b⟩=(ins frm [] ⟨3,([123]++a++[125]),[],([123]++b++[125]),ro,[],[],0,0,0⟩):=by
                      unfold Ax.pieces;dsimp only
                      repeat (first|rfl|(rw[yao_ zaa_])|(rw[yag_ zaa_]))
                    exact co_ ej_ ⟨L,by rw[e];exact J⟩ rfl (F:=[_]) (@List.perm_append_comm _ [_] _) zt
                . obtain⟨fr,zr⟩:=Con.check_zero (G.right zbk_);dsimp only at fr zr;refine Zz 9 ?_;refine ap_ (kJ_ (kb:=kb) (bk:=bk) (bs:=br) _ (.mk C A E B d y m) (yaj_ _) K.right fr [] q hq zaa_) rfl rfl (@List.perm_append_comm _ [_] _) (λv _ h=>by exact⟨h.2.2.2.1.2.1,h.2.2.2.2.1,h.1,h.2.2.1,trivial⟩) rfl λx=>?_;obtain⟨L,J⟩:=x;have Q:=Con.rightP_len frm _ (.mk C A E B d y m) (yaj_ _) [];refine A_ (@List.perm_append_comm _ _ [_]) (Zz 2 ?_);refine ak_ [(P,.cells (Ax.cells (Ax.mk k S (Con.mk kl H I hl al cl pl) (Con.mk C A E B d y m) ad cap rs ro a b)).toArray 30 (0,0))] zk ?_;refine D_ 5 [0,1,2,4,5] zk (λ_ a b=>⟨Vw.sat.sub a,b⟩) (Zz 6 ?_);refine p_ 3 rfl zk (f_ (cA_ a K.a) rfl (.refl _) zt rfl λ_=>Zz 2 ?_);refine V_ (λ_ a b=>⟨Vw.sat.sub a,b⟩) (p_ 6 rfl zk (f_ (db_ (.mk C A E B d y m) K.right) rfl (.refl _) (λv _ h=>⟨h.2.2.2.1.2.1,h.2.2.2.2.1,trivial⟩) rfl λ_=>Zz 2 ?_));refine V_ (λ_ a b=>⟨Vw.sat.sub a,b⟩) (D_ 2 [7] zk (λ_ a b=>⟨Vw.sat.sub a,b⟩) (M_ rfl (C_ dO_ rfl rfl) rfl (bs_ (p_ 8 rfl zk (O_ J_ K_ aa_ rfl rfl rfl rfl rfl rfl λR=>Zz 2 ?_)))));refine V_ (λ_ a b=>⟨Vw.sat.sub a.tail,b⟩) (p_ 9 rfl zk (f_ (dP_ ⟨1,([123]++a++[125]),[],(Con.atom (.mk C A E B d y m)),[],[],[],0,0,0⟩ frm (Con.rightP frm (.mk C A E B d y m) []) L J zaa_) rfl (.cons _ (@List.perm_append_comm _ [_] _)) zt rfl λx=>?_));obtain⟨N,M⟩:=x;refine A_ (@List.perm_append_comm _ _ [_]) (Zz 2 ?_);refine V_ (λ_ a b=>⟨Vw.sat.sub a,b⟩) (Zz 2 ?_)
                  have e:Ax.pieces frm ⟨k,S,(.mk kl H I hl al cl pl),(.mk C A E B d y m),ad,cap,rs,ro,a,b⟩=(ins frm (Con.rightP frm (.mk C A E B d y m) []) ⟨1,([123]++a++[125]),[],(Con.atom (.mk C A E B d y m)),[],[],[],0,0,0⟩):=by
                    unfold Ax.pieces;dsimp only
                    repeat (first|rfl|(rw[yao_ zaa_])|(rw[yag_ zaa_]))
                  exact co_ ej_ ⟨N,by rw[e];exact M⟩ rfl (F:=[_]) (@List.perm_append_comm _ [_] _) zt
              . refine Zz 8 ?_;refine e_ (C_ dO_ rfl rfl) rfl (O_ J_ K_ aa_ rfl rfl rfl rfl rfl rfl λR=>f_ (dP_ ⟨7,[],[],[],ro,[],[],0,0,0⟩ frm [] q hq zaa_) rfl (.cons _ (@List.perm_append_comm _ [_] _)) zt rfl λx=>?_);obtain⟨L,J⟩:=x;refine A_ (@List.perm_append_comm _ _ [_]) (Zz 2 ?_)
                have e:Ax.pieces frm ⟨k,S,(.mk kl H I hl al cl pl),(.mk C A E B d y m),ad,cap,rs,ro,a,b⟩=(ins frm [] ⟨7,[],[],[],ro,[],[],0,0,0⟩):=by
                  unfold Ax.pieces;dsimp only
                  repeat (first|rfl|(rw[yao_ zaa_])|(rw[yag_ zaa_]))
                exact co_ ej_ ⟨L,by rw[e];exact J⟩ rfl (F:=[_]) (@List.perm_append_comm _ [_] _) zt
            . have hch:=G.chain U;dsimp only at hch;have a1:0<rs.length:=by omega
              obtain⟨O,T⟩:∃ O,rs[0]? = some O:=⟨_,yaa_ a1⟩;refine Zz 8 ?_;refine e_ (Z_ o_ G_ rfl rfl (λv _ h=>aA_ (n:=1) au_ zae_ (h.2.2.2.1.2.2) T) zaa_ zah_) rfl ?_;refine Zz 8 ?_;refine e_ (cV_ (i:=1) (j:=rs.length) (kl:=.i64) (kh:=.i64) o_ G_ rfl rfl rfl zaa_ zaa_) rfl (Zz 5 ?_);refine bx_ [(0,zp_ kb 0),(3,zp_ P 0),(6,str O),(130,.slice (sad ad cap 1 1) (rs.length - 1) (cap - 1)),(131,iv_ ((rs.length - 1:Nat):Int)),(132,iv_ ((0:Nat):Int))] zl ?_;have hr_8:=Con.plain_len (G.roles O (yad_ T));refine bV_ (ι:={x:Nat×Str×List Pc×CS // x.1<=rs.length - 1/\CInv x.2.2.1 x.2.2.2/\x.2.2.1.length<=x.1/\x.2.1.length<=30*(x.1+1)/\Ax.chainP frm ro (rs.drop 1) O []=Ax.chainP frm ro (rs.drop (1+x.1)) x.2.1 x.2.2.1}) (λx=>[(0,zp_ kb 0),(3,zp_ P 0),(6,str x.1.2.1),(130,.slice (sad ad cap 1 1) (rs.length - 1) (cap - 1)),(131,iv_ ((rs.length - 1:Nat):Int)),(132,iv_ x.1.1)]) (λx=>_::fA_ kb frm x.1.2.2.2) (λ_=>_) (λx=>rs.length - 1 - x.1.1) ⟨(0,O,[],q),by simp,hq,by simp,by simp;omega,rfl⟩ ?_;rintro ⟨⟨i,f,W,L⟩,hj⟩;dsimp only at hj;refine bx_ [(0,zp_ kb 0),(3,zp_ P 0),(6,str f),(130,.slice (sad ad cap 1 1) (rs.length - 1) (cap - 1)),(131,iv_ ((rs.length - 1:Nat):Int)),(132,iv_ i)] zl ?_;refine Zj 2 (λX=>?_) λX=>?_
              . refine Zz 6 ?_
                have e:Ax.pieces frm ⟨k,S,(.mk kl H I hl al cl pl),(.mk C A E B d y m),ad,cap,rs,ro,a,b⟩=Ax.chainP frm ro (rs.drop 1) O []:=by
                  unfold Ax.pieces;dsimp only;rw[sZ_ T]
                  repeat (first|rfl|(rw[yao_ zaa_])|(rw[yag_ zaa_]))
                have e_1:=hj.2.2.2.2;rw[yaT_ (show rs.length<=1+i by omega)]at e_1;rw[e_1]at e;exact co_ ej_ ⟨L,by rw[e];exact hj.2.1⟩ rfl (F:=[_]) (@List.perm_append_comm _ [_] _) zt
              . have hlt:i<rs.length - 1:=by omega
                obtain⟨g,hp⟩:∃ g,(rs.drop 1)[i]? = some g:=⟨_,yaa_ zan_⟩;have Y:rs[1+i]? = some g:=by rw[<-ycW_];exact hp
                have hg:=Con.plain_len (G.roles g (yad_ Y));have hro:=Con.plain_len (G.role (by show k=4\/k=5\/k=6\/k=7\/k=9;omega));dsimp only at hro;refine Zz 11 ?_;refine e_ (Z_ o_ G_ rfl rfl (λv _ h=>aA_ (n:=1) au_ zae_ (bG_.rest au_ h.2.2.2.1.2.2 K.len 1) hp) zaa_ zah_) rfl ?_;refine e_ (bA_ (ad:=(sad ad cap 1 1)) ad_ rfl (λv _ h=>bG_.rest au_ h.2.2.2.1.2.2 K.len 1) (w_ au_ hp 0 _ rfl)) rfl (Zj 19 (λhr_10=>?_) λhr_10=>?_)
                . refine Zz 11 ?_;refine e_ (C_ dO_ rfl rfl) rfl (O_ J_ K_ aa_ rfl rfl rfl rfl rfl rfl λR=>f_ (dP_ ⟨6,[],[],[],f,g,ro,0,0,0⟩ frm W L hj.2.1 zaa_) rfl (.cons _ (@List.perm_append_comm _ [_] _)) zt rfl λx=>?_);obtain⟨N,J⟩:=x;have Q:=cj_ frm W ⟨6,[],[],[],f,g,ro,0,0,0⟩;refine A_ (@List.perm_append_comm _ _ [_]) (Zz 12 ?_);have a2:=ld_ Y;have a0:(rs.drop (1+i+1)=[])↔¬ (i+2<rs.length):=by rw[ydo_];omega
                  exact u_ ⟨(i+1,ro,(ins frm W ⟨6,[],[],[],f,g,ro,0,0,0⟩),N),by dsimp only;omega,J,by dsimp only;omega,by dsimp only;omega,by rw[hj.2.2.2.2,a2];simp only[Ax.chainP];rw[yao_ (by rw[a0];omega),show 1+(i+1)=1+i+1 by omega]⟩ zan_ zl (F:=[]) zaN_ zh
                . refine Zz 5 ?_;refine e_ (bS_ rfl rfl zau_) rfl ?_;refine Zz 1 ?_;refine e_ (bS_ rfl rfl zau_) rfl ?_;refine Zz 9 ?_;refine e_ (C_ dO_ rfl rfl) rfl (O_ J_ K_ aa_ rfl rfl rfl rfl rfl rfl λR=>f_ (dP_ ⟨6,[],[],[],f,g,(f++[46])++g,0,0,0⟩ frm W L hj.2.1 zaa_) rfl (.cons _ (@List.perm_append_comm _ [_] _)) zt rfl λx=>?_);obtain⟨N,J⟩:=x;have Q:=cj_ frm W ⟨6,[],[],[],f,g,(f++[46])++g,0,0,0⟩;refine A_ (@List.perm_append_comm _ _ [_]) (Zz 12 ?_);have a2:=ld_ Y;have a0:(rs.drop (1+i+1)=[])↔¬ (i+2<rs.length):=by rw[ydo_];omega
                  exact u_ ⟨(i+1,(f++[46])++g,(ins frm W ⟨6,[],[],[],f,g,(f++[46])++g,0,0,0⟩),N),by dsimp only;omega,J,by dsimp only;omega,by simp only[yaf_,yal_,yaL_];omega,by rw[hj.2.2.2.2,a2];simp only[Ax.chainP];rw[yag_ (by rw[a0];omega),show 1+(i+1)=1+i+1 by omega]⟩ zan_ zl (F:=[]) zaN_ zh
          . have a1:0<rs.length:=by have:=G.one hr_5;dsimp only at this;omega
            obtain⟨O,U⟩:∃ O,rs[0]? = some O:=⟨_,yaa_ a1⟩;refine Zz 4 ?_;refine ak_ [(P,.cells (Ax.cells (Ax.mk k S (Con.mk kl H I hl al cl pl) (Con.mk C A E B d y m) ad cap rs ro a b)).toArray 30 (0,0))] zk ?_;refine D_ 2 [0,1,2,3,4,5,6,7] zk (λ_ a b=>⟨Vw.sat.sub a,b⟩) (Zz 3 ?_);refine M_ rfl (Z_ o_ G_ rfl rfl (λv _ h=>aA_ (n:=1) au_ zae_ (h.2.2.2.1.2.2) U) zaa_ zah_) rfl ?_;refine Zz 3 ?_;refine M_ rfl (C_ dO_ rfl rfl) rfl (bs_ (p_ 8 rfl zk (O_ J_ K_ aa_ rfl rfl rfl rfl rfl rfl λR=>Zz 2 ?_)));refine V_ (λ_ a b=>⟨Vw.sat.sub a.tail,b⟩) (p_ 9 rfl zk (f_ (dP_ ⟨5,[],[],[],O,[],ro,0,0,0⟩ frm [] q hq zaa_) rfl (.cons _ (@List.perm_append_comm _ [_] _)) zt rfl λx=>?_));obtain⟨L,J⟩:=x;refine A_ (@List.perm_append_comm _ _ [_]) (Zz 2 ?_);refine V_ (λ_ a b=>⟨Vw.sat.sub a,b⟩) (Zz 2 ?_)
            have e:Ax.pieces frm ⟨k,S,(.mk kl H I hl al cl pl),(.mk C A E B d y m),ad,cap,rs,ro,a,b⟩=(ins frm [] ⟨5,[],[],[],O,[],ro,0,0,0⟩):=by
              unfold Ax.pieces;dsimp only;rw[sZ_ U]
              repeat (first|rfl|(rw[yao_ zaa_])|(rw[yag_ zaa_]))
            exact co_ ej_ ⟨L,by rw[e];exact J⟩ rfl (F:=[_]) (@List.perm_append_comm _ [_] _) zt
        . obtain⟨fr,zr⟩:=Con.check_zero (G.right zbk_);dsimp only at fr zr;refine Zz 9 ?_;refine ap_ (kJ_ (kb:=kb) (bk:=bk) (bs:=br) _ (.mk C A E B d y m) (yaj_ _) K.right fr [] q hq zaa_) rfl rfl (@List.perm_append_comm _ [_] _) (λv _ h=>by exact⟨h.2.2.2.1.2.1,h.2.2.2.2.1,h.1,h.2.2.1,trivial⟩) rfl λx=>?_;obtain⟨L,J⟩:=x;have Q:=Con.rightP_len frm _ (.mk C A E B d y m) (yaj_ _) [];refine A_ (@List.perm_append_comm _ _ [_]) (Zz 2 ?_);refine ak_ [(P,.cells (Ax.cells (Ax.mk k S (Con.mk kl H I hl al cl pl) (Con.mk C A E B d y m) ad cap rs ro a b)).toArray 30 (0,0))] zk ?_;refine D_ 4 [0,1,2,3,4] zk (λ_ a b=>⟨Vw.sat.sub a,b⟩) (Zz 6 ?_);refine p_ 5 rfl zk (f_ (db_ (.mk C A E B d y m) K.right) rfl (.refl _) (λv _ h=>⟨h.2.2.2.1.2.1,h.2.2.2.2.1,trivial⟩) rfl λ_=>Zz 2 ?_);refine V_ (λ_ a b=>⟨Vw.sat.sub a,b⟩) (D_ 2 [6] zk (λ_ a b=>⟨Vw.sat.sub a,b⟩) (M_ rfl (C_ dO_ rfl rfl) rfl (bs_ (p_ 7 rfl zk (O_ J_ K_ aa_ rfl rfl rfl rfl rfl rfl λR=>Zz 2 ?_)))));refine V_ (λ_ a b=>⟨Vw.sat.sub a.tail,b⟩) (p_ 8 rfl zk (f_ (dP_ ⟨4,[42],[],(Con.atom (.mk C A E B d y m)),ro,[],[],0,0,0⟩ frm (Con.rightP frm (.mk C A E B d y m) []) L J zaa_) rfl (.cons _ (@List.perm_append_comm _ [_] _)) zt rfl λx=>?_));obtain⟨N,M⟩:=x;refine A_ (@List.perm_append_comm _ _ [_]) (Zz 2 ?_);refine V_ (λ_ a b=>⟨Vw.sat.sub a,b⟩) (Zz 2 ?_)
          have e:Ax.pieces frm ⟨k,S,(.mk kl H I hl al cl pl),(.mk C A E B d y m),ad,cap,rs,ro,a,b⟩=(ins frm (Con.rightP frm (.mk C A E B d y m) []) ⟨4,[42],[],(Con.atom (.mk C A E B d y m)),ro,[],[],0,0,0⟩):=by
            unfold Ax.pieces;dsimp only
            repeat (first|rfl|(rw[yao_ zaa_])|(rw[yag_ zaa_]))
          exact co_ ej_ ⟨N,by rw[e];exact M⟩ rfl (F:=[_]) (@List.perm_append_comm _ [_] _) zt
      . obtain⟨fl,zl⟩:=Con.check_zero (G.left (by show k<=3;omega));dsimp only at fl zl;obtain⟨fr,zr⟩:=Con.check_zero (G.right zbk_);dsimp only at fr zr;refine Zz 9 ?_;refine ap_ (lD_ (kb:=kb) (bk:=bk) (bs:=bl) _ (.mk kl H I hl al cl pl) (yaj_ _) K.left fl [] q hq zaa_) rfl rfl (@List.perm_append_comm _ [_] _) (λv _ h=>by exact⟨h.2.2.2.1.1,h.2.2.2.2.1,h.1,h.2.1,trivial⟩) rfl λx=>?_;obtain⟨L,J⟩:=x;have Q:=Con.leftP_len frm _ (.mk kl H I hl al cl pl) (yaj_ _) [];refine A_ (@List.perm_append_comm _ _ [_]) (Zz 7 ?_);refine ap_ (lD_ (kb:=kb) (bk:=bk) (bs:=bl) _ (.mk C A E B d y m) (yaj_ _) K.right fr (Con.leftP frm (.mk kl H I hl al cl pl) []) L J zaa_) rfl rfl (@List.perm_append_comm _ [_] _) (λv _ h=>by exact⟨h.2.2.2.1.2.1,h.2.2.2.2.1,h.1,h.2.1,trivial⟩) rfl λx=>?_;obtain⟨N,M⟩:=x;have hb_2:=Con.leftP_len frm _ (.mk C A E B d y m) (yaj_ _) (Con.leftP frm (.mk kl H I hl al cl pl) []);refine A_ (@List.perm_append_comm _ _ [_]) (Zz 2 ?_);refine ak_ [(P,.cells (Ax.cells (Ax.mk k S (Con.mk kl H I hl al cl pl) (Con.mk C A E B d y m) ad cap rs ro a b)).toArray 30 (0,0))] zk ?_;refine D_ 5 [0,1,2,4,5] zk (λ_ a b=>⟨Vw.sat.sub a,b⟩) (Zz 6 ?_);refine p_ 3 rfl zk (f_ (db_ (.mk kl H I hl al cl pl) K.left) rfl (.refl _) (λv _ h=>⟨h.2.2.2.1.1,h.2.2.2.2.1,trivial⟩) rfl λ_=>Zz 2 ?_);refine V_ (λ_ a b=>⟨Vw.sat.sub a,b⟩) (p_ 6 rfl zk (f_ (db_ (.mk C A E B d y m) K.right) rfl (.refl _) (λv _ h=>⟨h.2.2.2.1.2.1,h.2.2.2.2.1,trivial⟩) rfl λ_=>Zz 2 ?_));refine V_ (λ_ a b=>⟨Vw.sat.sub a,b⟩) (D_ 2 [7] zk (λ_ a b=>⟨Vw.sat.sub a,b⟩) (M_ rfl (C_ dO_ rfl rfl) rfl (bs_ (p_ 8 rfl zk (O_ J_ K_ aa_ rfl rfl rfl rfl rfl rfl λR=>Zz 2 ?_)))));refine V_ (λ_ a b=>⟨Vw.sat.sub a.tail,b⟩) (p_ 9 rfl zk (f_ (dP_ ⟨2,(Con.atom (.mk kl H I hl al cl pl)),(Con.atom (.mk C A E B d y m)),[33],[],[],[],0,0,0⟩ frm (Con.leftP frm (.mk C A E B d y m) (Con.leftP frm (.mk kl H I hl al cl pl) [])) N M zaa_) rfl (.cons _ (@List.perm_append_comm _ [_] _)) zt rfl λx=>?_));obtain⟨Z,V⟩:=x;refine A_ (@List.perm_append_comm _ _ [_]) (Zz 2 ?_);refine V_ (λ_ a b=>⟨Vw.sat.sub a,b⟩) (Zz 2 ?_)
        have e:Ax.pieces frm ⟨k,S,(.mk kl H I hl al cl pl),(.mk C A E B d y m),ad,cap,rs,ro,a,b⟩=(ins frm (Con.leftP frm (.mk C A E B d y m) (Con.leftP frm (.mk kl H I hl al cl pl) [])) ⟨2,(Con.atom (.mk kl H I hl al cl pl)),(Con.atom (.mk C A E B d y m)),[33],[],[],[],0,0,0⟩):=by
          unfold Ax.pieces;dsimp only
          repeat (first|rfl|(rw[yao_ zaa_])|(rw[yag_ zaa_]))
        exact co_ ej_ ⟨Z,by rw[e];exact V⟩ rfl (F:=[_]) (@List.perm_append_comm _ [_] _) zt
    . obtain⟨fl,zl⟩:=Con.check_zero (G.left (by show k<=3;omega));dsimp only at fl zl;obtain⟨fr,zr⟩:=Con.check_zero (G.right zbk_);dsimp only at fr zr;refine Zz 9 ?_;refine ap_ (lD_ (kb:=kb) (bk:=bk) (bs:=bl) _ (.mk kl H I hl al cl pl) (yaj_ _) K.left fl [] q hq zaa_) rfl rfl (@List.perm_append_comm _ [_] _) (λv _ h=>by exact⟨h.2.2.2.1.1,h.2.2.2.2.1,h.1,h.2.1,trivial⟩) rfl λx=>?_;obtain⟨L,J⟩:=x;have Q:=Con.leftP_len frm _ (.mk kl H I hl al cl pl) (yaj_ _) [];refine A_ (@List.perm_append_comm _ _ [_]) (Zz 7 ?_);refine ap_ (kJ_ (kb:=kb) (bk:=bk) (bs:=br) _ (.mk C A E B d y m) (yaj_ _) K.right fr (Con.leftP frm (.mk kl H I hl al cl pl) []) L J zaa_) rfl rfl (@List.perm_append_comm _ [_] _) (λv _ h=>by exact⟨h.2.2.2.1.2.1,h.2.2.2.2.1,h.1,h.2.2.1,trivial⟩) rfl λx=>?_;obtain⟨N,M⟩:=x;have hb_2:=Con.rightP_len frm _ (.mk C A E B d y m) (yaj_ _) (Con.leftP frm (.mk kl H I hl al cl pl) []);refine A_ (@List.perm_append_comm _ _ [_]) (Zz 3 ?_);refine ak_ [(P,.cells (Ax.cells (Ax.mk k S (Con.mk kl H I hl al cl pl) (Con.mk C A E B d y m) ad cap rs ro a b)).toArray 30 (0,0))] zk ?_;refine D_ 5 [0,1,2,4,5] zk (λ_ a b=>⟨Vw.sat.sub a,b⟩) (Zz 6 ?_);refine p_ 3 rfl zk (f_ (db_ (.mk kl H I hl al cl pl) K.left) rfl (.refl _) (λv _ h=>⟨h.2.2.2.1.1,h.2.2.2.2.1,trivial⟩) rfl λ_=>Zz 2 ?_);refine V_ (λ_ a b=>⟨Vw.sat.sub a,b⟩) (p_ 6 rfl zk (f_ (db_ (.mk C A E B d y m) K.right) rfl (.refl _) (λv _ h=>⟨h.2.2.2.1.2.1,h.2.2.2.2.1,trivial⟩) rfl λ_=>Zz 2 ?_));refine V_ (λ_ a b=>⟨Vw.sat.sub a,b⟩) (D_ 2 [7] zk (λ_ a b=>⟨Vw.sat.sub a,b⟩) (M_ rfl (C_ dO_ rfl rfl) rfl (bs_ (p_ 8 rfl zk (O_ J_ K_ aa_ rfl rfl rfl rfl rfl rfl λR=>Zz 2 ?_)))));refine V_ (λ_ a b=>⟨Vw.sat.sub a.tail,b⟩) (p_ 9 rfl zk (f_ (dP_ ⟨1,(Con.atom (.mk kl H I hl al cl pl)),[],(Con.atom (.mk C A E B d y m)),[],[],[],0,0,0⟩ frm (Con.rightP frm (.mk C A E B d y m) (Con.leftP frm (.mk kl H I hl al cl pl) [])) N M zaa_) rfl (.cons _ (@List.perm_append_comm _ [_] _)) zt rfl λx=>?_));obtain⟨Z,V⟩:=x;have hb_3:=cj_ frm (Con.rightP frm (.mk C A E B d y m) (Con.leftP frm (.mk kl H I hl al cl pl) [])) ⟨1,(Con.atom (.mk kl H I hl al cl pl)),[],(Con.atom (.mk C A E B d y m)),[],[],[],0,0,0⟩;refine A_ (@List.perm_append_comm _ _ [_]) (Zz 2 ?_);refine V_ (λ_ a b=>⟨Vw.sat.sub a,b⟩) (Zz 7 ?_);refine ap_ (lD_ (kb:=kb) (bk:=bk) (bs:=bl) _ (.mk C A E B d y m) (yaj_ _) K.right fr (ins frm (Con.rightP frm (.mk C A E B d y m) (Con.leftP frm (.mk kl H I hl al cl pl) [])) ⟨1,(Con.atom (.mk kl H I hl al cl pl)),[],(Con.atom (.mk C A E B d y m)),[],[],[],0,0,0⟩) Z V zaa_) rfl rfl (@List.perm_append_comm _ [_] _) (λv _ h=>by exact⟨h.2.2.2.1.2.1,h.2.2.2.2.1,h.1,h.2.1,trivial⟩) rfl λx=>?_;obtain⟨q_4,hq_4⟩:=x;have hb_4:=Con.leftP_len frm _ (.mk C A E B d y m) (yaj_ _) (ins frm (Con.rightP frm (.mk C A E B d y m) (Con.leftP frm (.mk kl H I hl al cl pl) [])) ⟨1,(Con.atom (.mk kl H I hl al cl pl)),[],(Con.atom (.mk C A E B d y m)),[],[],[],0,0,0⟩);refine A_ (@List.perm_append_comm _ _ [_]) (Zz 7 ?_);refine ap_ (kJ_ (kb:=kb) (bk:=bk) (bs:=br) _ (.mk kl H I hl al cl pl) (yaj_ _) K.left fl (Con.leftP frm (.mk C A E B d y m) (ins frm (Con.rightP frm (.mk C A E B d y m) (Con.leftP frm (.mk kl H I hl al cl pl) [])) ⟨1,(Con.atom (.mk kl H I hl al cl pl)),[],(Con.atom (.mk C A E B d y m)),[],[],[],0,0,0⟩)) q_4 hq_4 zaa_) rfl rfl (@List.perm_append_comm _ [_] _) (λv _ h=>by exact⟨h.2.2.2.1.1,h.2.2.2.2.1,h.1,h.2.2.1,trivial⟩) rfl λx=>?_;obtain⟨q_5,hq_5⟩:=x;have hb_5:=Con.rightP_len frm _ (.mk kl H I hl al cl pl) (yaj_ _) (Con.leftP frm (.mk C A E B d y m) (ins frm (Con.rightP frm (.mk C A E B d y m) (Con.leftP frm (.mk kl H I hl al cl pl) [])) ⟨1,(Con.atom (.mk kl H I hl al cl pl)),[],(Con.atom (.mk C A E B d y m)),[],[],[],0,0,0⟩));refine A_ (@List.perm_append_comm _ _ [_]) (Zz 2 ?_);refine ak_ [(P,.cells (Ax.cells (Ax.mk k S (Con.mk kl H I hl al cl pl) (Con.mk C A E B d y m) ad cap rs ro a b)).toArray 30 (0,0))] zk ?_;refine D_ 5 [0,1,2,4,5] zk (λ_ a b=>⟨Vw.sat.sub a,b⟩) (Zz 6 ?_);refine p_ 3 rfl zk (f_ (db_ (.mk C A E B d y m) K.right) rfl (.refl _) (λv _ h=>⟨h.2.2.2.1.2.1,h.2.2.2.2.1,trivial⟩) rfl λ_=>Zz 2 ?_);refine V_ (λ_ a b=>⟨Vw.sat.sub a,b⟩) (p_ 6 rfl zk (f_ (db_ (.mk kl H I hl al cl pl) K.left) rfl (.refl _) (λv _ h=>⟨h.2.2.2.1.1,h.2.2.2.2.1,trivial⟩) rfl λ_=>Zz 2 ?_));refine V_ (λ_ a b=>⟨Vw.sat.sub a,b⟩) (D_ 2 [7] zk (λ_ a b=>⟨Vw.sat.sub a,b⟩) (M_ rfl (C_ dO_ rfl rfl) rfl (bs_ (p_ 8 rfl zk (O_ J_ K_ aa_ rfl rfl rfl rfl rfl rfl λb_3=>Zz 2 ?_)))));refine V_ (λ_ a b=>⟨Vw.sat.sub a.tail,b⟩) (p_ 9 rfl zk (f_ (dP_ ⟨1,(Con.atom (.mk C A E B d y m)),[],(Con.atom (.mk kl H I hl al cl pl)),[],[],[],0,0,0⟩ frm (Con.rightP frm (.mk kl H I hl al cl pl) (Con.leftP frm (.mk C A E B d y m) (ins frm (Con.rightP frm (.mk C A E B d y m) (Con.leftP frm (.mk kl H I hl al cl pl) [])) ⟨1,(Con.atom (.mk kl H I hl al cl pl)),[],(Con.atom (.mk C A E B d y m)),[],[],[],0,0,0⟩))) q_5 hq_5 zaa_) rfl (.cons _ (@List.perm_append_comm _ [_] _)) zt rfl λx=>?_));obtain⟨q_6,hq_6⟩:=x;refine A_ (@List.perm_append_comm _ _ [_]) (Zz 2 ?_);refine V_ (λ_ a b=>⟨Vw.sat.sub a,b⟩) (Zz 2 ?_)
      have e:Ax.pieces frm ⟨k,S,(.mk kl H I hl al cl pl),(.mk C A E B d y m),ad,cap,rs,ro,a,b⟩=(ins frm (Con.rightP frm (.mk kl H I hl al cl pl) (Con.leftP frm (.mk C A E B d y m) (ins frm (Con.rightP frm (.mk C A E B d y m) (Con.leftP frm (.mk kl H I hl al cl pl) [])) ⟨1,(Con.atom (.mk kl H I hl al cl pl)),[],(Con.atom (.mk C A E B d y m)),[],[],[],0,0,0⟩))) ⟨1,(Con.atom (.mk C A E B d y m)),[],(Con.atom (.mk kl H I hl al cl pl)),[],[],[],0,0,0⟩):=by
        unfold Ax.pieces;dsimp only
        repeat (first|rfl|(rw[yao_ zaa_])|(rw[yag_ zaa_]))
      exact co_ ej_ ⟨q_6,by rw[e];exact hq_6⟩ rfl (F:=[_]) (@List.perm_append_comm _ [_] _) zt
  . obtain⟨fl,zl⟩:=Con.check_zero (G.left (by show k<=3;omega));dsimp only at fl zl;obtain⟨fr,zr⟩:=Con.check_zero (G.right zbk_);dsimp only at fr zr;refine Zz 9 ?_;refine ap_ (lD_ (kb:=kb) (bk:=bk) (bs:=bl) _ (.mk kl H I hl al cl pl) (yaj_ _) K.left fl [] q hq zaa_) rfl rfl (@List.perm_append_comm _ [_] _) (λv _ h=>by exact⟨h.2.2.2.1.1,h.2.2.2.2.1,h.1,h.2.1,trivial⟩) rfl λx=>?_;obtain⟨L,J⟩:=x;have Q:=Con.leftP_len frm _ (.mk kl H I hl al cl pl) (yaj_ _) [];refine A_ (@List.perm_append_comm _ _ [_]) (Zz 7 ?_);refine ap_ (kJ_ (kb:=kb) (bk:=bk) (bs:=br) _ (.mk C A E B d y m) (yaj_ _) K.right fr (Con.leftP frm (.mk kl H I hl al cl pl) []) L J zaa_) rfl rfl (@List.perm_append_comm _ [_] _) (λv _ h=>by exact⟨h.2.2.2.1.2.1,h.2.2.2.2.1,h.1,h.2.2.1,trivial⟩) rfl λx=>?_;obtain⟨N,M⟩:=x;have hb_2:=Con.rightP_len frm _ (.mk C A E B d y m) (yaj_ _) (Con.leftP frm (.mk kl H I hl al cl pl) []);refine A_ (@List.perm_append_comm _ _ [_]) (Zz 2 ?_);refine ak_ [(P,.cells (Ax.cells (Ax.mk k S (Con.mk kl H I hl al cl pl) (Con.mk C A E B d y m) ad cap rs ro a b)).toArray 30 (0,0))] zk ?_;refine D_ 5 [0,1,2,4,5] zk (λ_ a b=>⟨Vw.sat.sub a,b⟩) (Zz 6 ?_);refine p_ 3 rfl zk (f_ (db_ (.mk kl H I hl al cl pl) K.left) rfl (.refl _) (λv _ h=>⟨h.2.2.2.1.1,h.2.2.2.2.1,trivial⟩) rfl λ_=>Zz 2 ?_);refine V_ (λ_ a b=>⟨Vw.sat.sub a,b⟩) (p_ 6 rfl zk (f_ (db_ (.mk C A E B d y m) K.right) rfl (.refl _) (λv _ h=>⟨h.2.2.2.1.2.1,h.2.2.2.2.1,trivial⟩) rfl λ_=>Zz 2 ?_));refine V_ (λ_ a b=>⟨Vw.sat.sub a,b⟩) (D_ 2 [7] zk (λ_ a b=>⟨Vw.sat.sub a,b⟩) (M_ rfl (C_ dO_ rfl rfl) rfl (bs_ (p_ 8 rfl zk (O_ J_ K_ aa_ rfl rfl rfl rfl rfl rfl λR=>Zz 2 ?_)))));refine V_ (λ_ a b=>⟨Vw.sat.sub a.tail,b⟩) (p_ 9 rfl zk (f_ (dP_ ⟨1,(Con.atom (.mk kl H I hl al cl pl)),[],(Con.atom (.mk C A E B d y m)),[],[],[],0,0,0⟩ frm (Con.rightP frm (.mk C A E B d y m) (Con.leftP frm (.mk kl H I hl al cl pl) [])) N M zaa_) rfl (.cons _ (@List.perm_append_comm _ [_] _)) zt rfl λx=>?_));obtain⟨Z,V⟩:=x;refine A_ (@List.perm_append_comm _ _ [_]) (Zz 2 ?_);refine V_ (λ_ a b=>⟨Vw.sat.sub a,b⟩) (Zz 2 ?_)
    have e:Ax.pieces frm ⟨k,S,(.mk kl H I hl al cl pl),(.mk C A E B d y m),ad,cap,rs,ro,a,b⟩=(ins frm (Con.rightP frm (.mk C A E B d y m) (Con.leftP frm (.mk kl H I hl al cl pl) [])) ⟨1,(Con.atom (.mk kl H I hl al cl pl)),[],(Con.atom (.mk C A E B d y m)),[],[],[],0,0,0⟩):=by
      unfold Ax.pieces;dsimp only
      repeat (first|rfl|(rw[yao_ zaa_])|(rw[yag_ zaa_]))
    exact co_ ej_ ⟨Z,by rw[e];exact V⟩ rfl (F:=[_]) (@List.perm_append_comm _ [_] _) zt
theorem at_.form {e:TypeId} {sz n:Nat} {sv:Value} {xs:List Value} {Hr:Hp} (h:at_ e sz sv n xs Hr):∃ ad cap,sv=.slice ad n cap:=by
 rcases h.2 with⟨d,m,_⟩|⟨g,cap,cur,d,_⟩
 .exact⟨none,0,by rw[d,m]⟩
 exact⟨_,cap,d⟩
theorem at_.nilcap {e:TypeId} {sz n m cap:Nat} {sv:Value} {xs:List Value} {Hr:Hp} {ad:Ao} (h:at_ e sz sv n xs Hr) (d:sv=.slice ad m cap):ad=none->cap=0:=λv=>by
 rcases h.2 with⟨q,_,_⟩|⟨g,c,cur,q,_⟩
 .rw[q]at d;simp only[Value.slice.injEq]at d;exact d.2.2.symm
 rw[q,v]at d;simp at d
theorem pQ_ (l:List Ax) (ad:Ao) (cap:Nat) (a7:l.length<=2199023255488) (U:∀ x∈l,x.ok) :
    Tri prog 66 #[.slice ad l.length cap] [] [cG_ ad l,bN_] (λy:{y:Ao×Nat // (bg_ l).1.length<=y.2/\y.2<=maxLen/\(y.1=none->y.2=0)}=>.tuple #[.slice y.1.1 (bg_ l).1.length y.1.2,iv_ (bg_ l).2]) (λ_=>[]) (λy=>[ac_ y.1.1 ((bg_ l).1.flatMap Pc.cells)]):=by
  refine i_ func66 rfl rfl ntmps66 rfl λv_1=>?_;refine bk_ ?_;refine aP_ ?_;refine e_ (aI_ rfl) rfl ?_;refine e_ (aI_ rfl) rfl ?_;refine bF_ ?_;refine bi_ rfl ?_;refine bk_ ?_;refine bk_ ?_;refine aP_ ?_;refine e_ (ar_ rfl) rfl ?_;refine e_ (dG_ aS_ rfl) rfl ?_;refine E_ (ds_ rfl rfl) rfl λa2 E=>?_;refine bF_ ?_;refine bi_ rfl ?_;cases a2
  . replace E:=zdf E;refine ff_ rfl ?_;refine ha_ ?_;refine bi_ rfl ?_;refine bk_ ?_;refine bk_ ?_;refine aP_ ?_;refine e_ (ar_ rfl) rfl ?_;refine e_ (dG_ aS_ rfl) rfl ?_;refine e_ (ar_ rfl) rfl ?_;refine bF_ ?_;refine bi_ rfl ?_;refine hb_ ?_;refine bx_ [(0,.slice ad l.length cap),(2,.slice none 0 0),(13,.slice ad l.length cap),(14,iv_ l.length),(15,iv_ ((0:Nat):Int))] zl ?_;refine bV_ (ι:={q:Nat // q<=l.length/\∀ y∈l.take q,y.check=0}) (λi=>[(0,.slice ad l.length cap),(2,.slice none 0 0),(13,.slice ad l.length cap),(14,iv_ l.length),(15,iv_ i.1)]) (λ_=>_) (λ_=>_) (λi=>l.length - i.1) ⟨0,by simp⟩ ?_;rintro ⟨i,hk⟩;refine bx_ [(0,.slice ad l.length cap),(2,.slice none 0 0),(13,.slice ad l.length cap),(14,iv_ l.length),(15,iv_ i)] zl ?_;refine bk_ ?_;refine aP_ ?_;refine E_ (dc_ rfl rfl) rfl λa1 J=>?_;refine bF_ ?_;refine bi_ rfl ?_;refine bk_ ?_;cases a1
    . replace J:=zdf J;obtain rfl:i=l.length:=by omega
      try rw[ycr_]at hk
      refine ff_ rfl ?_;refine nX_ rfl ?_;refine bi_ rfl ?_;refine bk_ ?_;refine bk_ ?_;refine aP_ ?_;refine e_ (ar_ rfl) rfl ?_;refine e_ (dG_ aS_ rfl) rfl ?_;refine e_ (ar_ rfl) rfl ?_;refine bF_ ?_;refine bi_ rfl ?_;refine hb_ ?_;have I:=hk.2;refine bx_ [(2,.slice none 0 0),(25,.slice ad l.length cap),(26,iv_ l.length),(27,iv_ ((0:Nat):Int))] zl ?_;refine bV_ (ι:={x:Nat×List Pc×Value×Hp // x.1<=l.length/\at_ 80 10 x.2.2.1 x.2.1.length (x.2.1.flatMap Pc.cells) x.2.2.2/\x.2.1.length<=16384/\hL_ 0 l []=hL_ x.1 (l.drop x.1) x.2.1}) (λx=>[(2,x.1.2.2.1),(25,.slice ad l.length cap),(26,iv_ l.length),(27,iv_ x.1.1)]) (λx=>x.1.2.2.2) (λ_=>_) (λx=>l.length - x.1.1) ⟨(0,[],.slice none 0 0,[]),by simp,at_.nil _ _,by simp,rfl⟩ ?_;clear hk;rintro ⟨⟨i,p,sv,Hr⟩,hk⟩;dsimp only at hk;refine bx_ [(2,sv),(25,.slice ad l.length cap),(26,iv_ l.length),(27,iv_ i)] zl ?_;refine bk_ ?_;refine aP_ ?_;refine E_ (dc_ rfl rfl) rfl λR d=>?_;refine bF_ ?_;refine bi_ rfl ?_;refine bk_ ?_;cases R
      . replace d:=zdf d;obtain rfl:i=l.length:=by omega
        try rw[ycr_]at hk
        refine ff_ rfl ?_;refine nX_ rfl ?_;refine bi_ rfl ?_;refine bk_ ?_;refine aP_ ?_;refine e_ (ar_ rfl) rfl ?_;refine e_ (aI_ rfl) rfl ?_;refine e_ (aI_ rfl) rfl ?_;refine bF_ ?_;refine bi_ rfl ?_;refine ji_ ?_;refine gj_ hk.2.1 (F:=[]) (by rw[yaw_]) λA m M T X=>?_
        have e:bg_ l=(p,0):=by
          unfold bg_;rw[yag_ zaa_,yag_ (by simp[fu_ I]),hk.2.2.2,List.drop_length];first|done|rfl
        have B:(bg_ l).1.length<=m/\m<=maxLen/\(A=none->m=0):=by rw[e];exact⟨T,X,at_.nilcap hk.2.1 M⟩
        have P:Value.tuple #[sv,iv_ 0]=.tuple #[.slice A (bg_ l).1.length m,iv_ (bg_ l).2]:=by rw[e,M]
        have Q:(p.flatMap Pc.cells)=((bg_ l).1.flatMap Pc.cells):=by rw[e]
        exact fP_ results66 ⟨(A,m),B⟩ rfl rfl P (.refl _) (λv _ h=>⟨Q▸h.1,trivial⟩)
      . replace d:=zdt d;have L:i<l.length:=by omega
        obtain⟨x,K⟩:∃ x,l[i]? = some x:=⟨_,yaa_ L⟩;have C:x∈l:=yad_ K;refine ce_ rfl ?_;refine ha_ ?_;refine bi_ rfl ?_;refine bk_ ?_;refine hb_ ?_;refine bk_ ?_;have G:=Ax.good_of (I x C);have b0:=ki_ (i:Int) G;refine aP_ ?_;refine e_ (ar_ rfl) rfl ?_;refine e_ (Z_ aS_ L_ rfl rfl (λv _ h=>aA_ (n:=16) Ax.cells_len zae_ (h.1.1) K) zaa_ zah_) rfl ?_;refine e_ (am_ (ad:=ad) (us:=x.cells) bK_ L_ rfl (λv _ h=>h.1.1) (Ax.cells_len _) (w_ Ax.cells_len K)) rfl ?_;refine x_ aJ_ rfl λa0=>?_;refine e_ (aI_ rfl) rfl ?_;refine ok_ (us:=x.cells) 0 L_ x.cells_len x.one_cells rfl rfl rfl rfl ?_;refine bF_ ?_;refine bi_ rfl ?_;refine bk_ ?_;refine aP_ ?_;refine e_ (ar_ rfl) rfl ?_;refine f_ (iO_ (i:Int)) rfl (.refl _) zt rfl λ⟨kb,bm⟩=>?_;refine e_ (aI_ rfl) rfl ?_;refine bF_ ?_;refine bi_ rfl ?_;refine bk_ ?_;refine aP_ ?_;refine e_ (ar_ rfl) rfl ?_;refine e_ (px_ (us:=x.cells) 2 bK_ L_ x.cells_len rfl rfl) rfl ?_;refine f_ (Cb_ x (U x C) (I x C) (i:Int) ⟨.slice none 0 0,bm,#[],0,[]⟩ ⟨at_.nil _ _,rfl,by simp⟩) rfl (.refl _) (λv _ h=>⟨h.1.2 x C,h.2.1,trivial⟩) rfl λy=>?_;obtain⟨⟨a5,a9,a4,a6,a8⟩,hq⟩:=y;have S:=hq.row;dsimp only at S;have V:(x.pieces (i:Int)).length≠0:=λe=>Ax.pieces_ne _ G (yau_ e)
        obtain⟨g,cp,cur,rfl,rfl,h_1,b1,h_3,Z⟩:=S.some V;refine bF_ ?_;refine bi_ rfl ?_;refine bk_ ?_;refine aP_ ?_;refine e_ (ar_ rfl) rfl ?_;refine e_ (ar_ rfl) rfl ?_;refine e_ (pw_ rfl) rfl ?_;refine e_ (ci_ runUnderlying142 rfl rfl rfl qL_) rfl ?_;refine e_ (aX_ 0 isAgg69 rfl rfl rfl) rfl ?_;refine aj_ zu_ hk.2.1 rfl rfl (@List.perm_append_comm _ [_,_,_,_] _) (by rw[cr_ Pc.cells 10 Pc.cells_len]) (wv_ 2 rfl Z) (λu hu=>by obtain⟨y,_,B⟩:=yas_.1 hu;exact kP_ y.cells_one u B) zaq_ zaa_ rfl λN W O=>?_;refine A_ (@List.perm_append_comm _ _ [_,_,_,_]) ?_;have Y:∃ A m,N=.slice A (p.length+(x.pieces (i:Int)).length) m:=at_.form O;obtain⟨A,m,M⟩:=Y;refine e_ (aI_ rfl) rfl ?_;refine bF_ ?_;refine bi_ rfl ?_;refine bk_ ?_;refine aP_ ?_;refine e_ (ar_ rfl) rfl ?_;refine e_ (dG_ (ad:=A) (len:=p.length+(x.pieces (i:Int)).length) (cap:=m) J_ (yae_ some M)) rfl ?_;refine E_ (ds_ rfl rfl) rfl λa3 H=>?_;refine bF_ ?_;refine bi_ rfl ?_;cases a3
        . replace H:=zdf H;refine ff_ rfl ?_;refine ha_ ?_;refine bi_ rfl ?_;refine aP_ ?_;refine e_ (aC_ rfl rfl rfl (bq_ zaa_ zaa_)) rfl ?_;refine e_ (ar_ rfl) rfl ?_;refine bF_ ?_;refine fS_ rfl ?_;exact u_ ⟨(i+1,p++x.pieces (i:Int),N,W),L,by simpa [yaY_] using O,by simp only[yaf_];omega,by rw[hk.2.2.2,ld_ K];simp only[hL_];rw[yag_ (by simp only[yaf_];omega)]⟩ zan_ zl (F:=[_,_,_,_]) (@List.perm_append_comm _ [_,_,_,_] _) zh
        . replace H:=zdt H;refine ce_ rfl ?_;refine bk_ ?_;refine aP_ ?_;refine e_ (aI_ rfl) rfl ?_;refine e_ (aI_ rfl) rfl ?_;refine bF_ ?_;refine bi_ rfl ?_;refine ji_ ?_;have e:bg_ l=([],2):=by unfold bg_;rw[yag_ zaa_,yag_ (by simp[fu_ I]),hk.2.2.2,ld_ K];simp only[hL_];rw[yao_ (by simp only[yaf_];omega)]
          have B:(bg_ l).1.length<=0/\0<=maxLen/\((none:Ao)=none->0=0):=by rw[e];simp
          have P:Value.tuple #[.slice none 0 0,iv_ 2]=.tuple #[.slice none (bg_ l).1.length 0,iv_ (bg_ l).2]:=by rw[e]<;>rfl
          have Q:(bg_ l).1.flatMap Pc.cells=[]:=by rw[e]<;>rfl
          exact fP_ results66 ⟨(none,0),B⟩ rfl rfl P (.refl _) (λv _ h=>⟨.inl Q,trivial⟩)
    . replace J:=zdt J;have L:i<l.length:=by omega
      obtain⟨x,K⟩:∃ x,l[i]? = some x:=⟨_,yaa_ L⟩;have C:x∈l:=yad_ K;refine ce_ rfl ?_;refine ha_ ?_;refine bi_ rfl ?_;refine bk_ ?_;refine hb_ ?_;refine bk_ ?_;refine aP_ ?_;refine e_ (Z_ aS_ L_ rfl rfl (λv _ h=>aA_ (n:=16) Ax.cells_len zae_ (h.1.1) K) zaa_ zah_) rfl ?_;refine e_ (am_ (ad:=ad) (us:=x.cells) bK_ L_ rfl (λv _ h=>h.1.1) (Ax.cells_len _) (w_ Ax.cells_len K)) rfl ?_;refine x_ aJ_ rfl λa0=>?_;refine ok_ (us:=x.cells) 0 L_ x.cells_len x.one_cells rfl rfl rfl rfl ?_;refine bF_ ?_;refine bi_ rfl ?_;refine bk_ ?_;refine aP_ ?_;refine e_ (px_ (us:=x.cells) 0 bK_ L_ x.cells_len rfl rfl) rfl ?_;refine f_ (eS_ x (U x C)) rfl (.refl _) (λv _ h=>⟨h.1.2 x C,h.2.1,trivial⟩) rfl λ_=>?_;refine e_ (aI_ rfl) rfl ?_;refine bF_ ?_;refine bi_ rfl ?_;refine bk_ ?_;refine aP_ ?_;refine e_ (ar_ rfl) rfl ?_;refine E_ (cg_ rfl rfl) rfl λR d=>?_;refine bF_ ?_;refine bi_ rfl ?_;cases R
      . replace d:=fo_ d;refine ff_ rfl ?_;refine ha_ ?_;refine bi_ rfl ?_;refine aP_ ?_;refine e_ (aC_ rfl rfl rfl (bq_ zaa_ zaa_)) rfl ?_;refine e_ (ar_ rfl) rfl ?_;refine bF_ ?_;refine fS_ rfl ?_;exact u_ ⟨i+1,L,λy B=>by rw[yaz_,K]at B;simp only[ybd_,yah_,yai_]at B;rcases B with B|rfl;exact hk.2 y B;assumption⟩ zan_ zl (@List.perm_append_comm _ [_] _) zh
      . replace d:=fm_ d;refine ce_ rfl ?_;refine bk_ ?_;refine aP_ ?_;refine e_ (ar_ rfl) rfl ?_;refine e_ (aI_ rfl) rfl ?_;refine e_ (aI_ rfl) rfl ?_;refine bF_ ?_;refine bi_ rfl ?_;refine ji_ ?_;have e:bg_ l=([],x.check):=by unfold bg_;rw[yag_ zaa_,td_ K hk.2 zal_,yao_ zal_]
        have B:(bg_ l).1.length<=0/\0<=maxLen/\((none:Ao)=none->0=0):=by rw[e];simp
        have P:Value.tuple #[.slice none 0 0,iv_ x.check]=.tuple #[.slice none (bg_ l).1.length 0,iv_ (bg_ l).2]:=by rw[e]<;>rfl
        have Q:(bg_ l).1.flatMap Pc.cells=[]:=by rw[e]<;>rfl
        exact fP_ results66 ⟨(none,0),B⟩ rfl rfl P (.refl _) (λv _ h=>⟨.inl Q,trivial⟩)
  . replace E:=zdt E;refine ce_ rfl ?_;refine bk_ ?_;refine aP_ ?_;refine e_ (aI_ rfl) rfl ?_;refine e_ (aI_ rfl) rfl ?_;refine bF_ ?_;refine bi_ rfl ?_;refine ji_ ?_;have e:bg_ l=([],2):=by unfold bg_;rw[yao_ zaa_]
    have B:(bg_ l).1.length<=0/\0<=maxLen/\((none:Ao)=none->0=0):=by rw[e];simp
    have P:Value.tuple #[.slice none 0 0,iv_ 2]=.tuple #[.slice none (bg_ l).1.length 0,iv_ (bg_ l).2]:=by rw[e]<;>rfl
    have Q:(bg_ l).1.flatMap Pc.cells=[]:=by rw[e]<;>rfl
    exact fP_ results66 ⟨(none,0),B⟩ rfl rfl P (.refl _) (λv _ h=>⟨.inl Q,trivial⟩)
theorem cx_ {N:Nf} {fr:Fr} {H:Hp} {Γ:List Fct} {ty m:TypeId} {x y:Operand} {p q:Fc} (B:Fr.ev fr x=some p.val) (h:Fr.ev fr y=some q.val):Yld prog N fr H Γ (.binOp .eql 104 x y m) ty (.bool (decide (p=q))) :=
  λa v e _ _ _ _ _=>by
    have A:(Program.eqGuardType prog Tryz.prog.depth 104)=false:=by kernel_rfl
    have d:=eqFc p q v.w;simp only[execOp,e.ev B,e.ev h,eqGuard,Fc.val,binOp,Op.equal,Sem.run_bind,Result.andThen_ok];simp only[run_program,Result.andThen_ok,A,Bool.not_false,ycn_,Sem.run_pure];simp only[Fc.val]at d;simp[Op.maxDepth,d]
theorem gS_ {N:Nf} {fr:Fr} {H:Hp} {Γ:List Fct} {ty m:TypeId} {x y:Operand} {p q:Fc} (B:Fr.ev fr x=some p.val) (h:Fr.ev fr y=some q.val):Yld prog N fr H Γ (.binOp .neq 104 x y m) ty (.bool (decide (p≠q))) :=
  λa v e _ _ _ _ _=>by
    have A:(Program.eqGuardType prog Tryz.prog.depth 104)=false:=by kernel_rfl
    have d:=eqFc p q v.w;simp only[execOp,e.ev B,e.ev h,eqGuard,Fc.val,binOp,Op.equal,Sem.run_bind,Result.andThen_ok];simp only[run_program,Result.andThen_ok,A,Bool.not_false,ycn_,Sem.run_pure];simp only[Fc.val]at d;simp[Op.maxDepth,d]
theorem qN_ (s:Str) (c:UInt8):Fn0 prog 392 #[str s,str [c]] (iv_ (Lib.indexByte s c)) :=
  hN_ (callable func392 rfl rfl) λw=>(Tryz.strings_Index_one ⟨s.toArray⟩ c w).mono zaM_
theorem pj_ (s:Str) (c:UInt8) (k:Nat) (hk:ixS c s=some k):Fn0 prog 392 #[str s,str [c]] (iv_ k):=by
  have h:=qN_ s c;rw[no_,hk]at h;exact h
theorem yi_ (s:Str) (c:UInt8):Fn0 prog 391 #[str s,str [c]] (iv_ (dK_ c s:Int)) :=
  hN_ (callable func391 rfl rfl) λw=>(Tryz.strings_Count_one ⟨s.toArray⟩ c w).mono zaM_
theorem ok_H {N:Nf} {m:Vw} {d:Hp} {k:Act->World->Prop} {fr:Fr} {H H':Hp} {Γ:List Fct} (e:H=H') (h:Ok N m d k fr H' Γ):Ok N m d k fr H Γ:=e▸h
theorem uu_ (s:Str) (c:UInt8) (L:s.length<=17592186044414):Tri prog 370 #[str s,str [c],iv_ 0,iv_ (-1)] [] [] (λb:Nat=>.slice (some ⟨b,0,none⟩) (bm_ c s).length (bm_ c s).length) (λ_=>[]) (λb=>[ac_ (some ⟨b,0,none⟩) ((bm_ c s).flatMap al_)]):=by
 have K:=BP_ c s;refine i_ func370 rfl rfl ntmps370 rfl λH=>?_;refine Zi 9 (λy=>?_) λy=>?_
 .refine Zi 9 (λA=>?_) λA=>?_
  .refine Zi 9 (λv=>?_) λv=>?_
   .exact absurd zae_ v
   refine Zz 6 ?_;refine f_ (yi_ s c) rfl (.refl _) zt rfl λ_=>Zz 8 ?_
   refine e_ (ck_ W_ rfl) rfl (Zz 1 ?_);refine e_ (ao_ (uT_ rfl rfl) (show _=iv_ ((dK_ c s+1:Nat):Int) by rw[yag_ zaa_];rfl)) rfl ?_;refine Zz 6 ?_;refine wy_ (n:=dK_ c s+1) (by':=16) iA_ (z:=.string ⟨#[]⟩) zk rfl rfl rfl zaa_ zaa_ rfl λd=>Zz 6 ?_
   refine e_ (ao_ (aC_ rfl rfl rfl (bq_ zaa_ zaa_)) (show _=iv_ (dK_ c s:Int) by first|rfl|(congr 1;omega))) rfl ?_;refine Zz 10 ?_;refine bx_ [(0,str s),(1,str [c]),(2,iv_ 0),(3,iv_ (dK_ c s:Int)),(9,.slice (some ⟨d,0,none⟩) (dK_ c s+1) (dK_ c s+1)),(10,iv_ ((0:Nat):Int))] zl ?_;refine bV_ (ι:={x:Nat×List Str×Str // x.2.1.length=x.1/\bm_ c s=x.2.1++bm_ c x.2.2/\x.1+dK_ c x.2.2=dK_ c s/\x.2.2.length<=s.length}) (λx=>[(0,str x.1.2.2),(1,str [c]),(2,iv_ 0),(3,iv_ (dK_ c s:Int)),(9,.slice (some ⟨d,0,none⟩) (dK_ c s+1) (dK_ c s+1)),(10,iv_ x.1.1)]) (λx=>[(d,.cells (x.1.2.1.map str++List.replicate (dK_ c s+1 - x.1.1) (Value.string ⟨#[]⟩)).toArray 9 (0,0))]) (λ_=>_) (λx=>dK_ c s - x.1.1) ⟨(0,[],s),rfl,rfl,by simp,by simp⟩ ?_;rintro ⟨⟨i,dn,r⟩,hk⟩;dsimp only at hk;obtain⟨m,h,E,G⟩:=hk;refine bx_ [(0,str r),(1,str [c]),(2,iv_ 0),(3,iv_ (dK_ c s:Int)),(9,.slice (some ⟨d,0,none⟩) (dK_ c s+1) (dK_ c s+1)),(10,iv_ i)] zl ?_;have C:∀ k,k<dK_ c s+1->List.replicate (dK_ c s+1 - k) (Value.string ⟨#[]⟩)=Value.string ⟨#[]⟩::List.replicate (dK_ c s - k) (Value.string ⟨#[]⟩):=λk hk=>by rw[show dK_ c s+1 - k=(dK_ c s - k)+1 by omega];rfl
   refine ok_H (H':=[(d,.cells (dn.map str++Value.string ⟨#[]⟩::List.replicate (dK_ c s - i) (Value.string ⟨#[]⟩)).toArray 9 (0,0))]) (by dsimp only;rw[C i zaa_]) ?_;refine Zi 5 (λB=>?_) λB=>?_
   .obtain rfl:i=dK_ c s:=by omega
    have e : bm_ c r = [r] := by
                  cases hx:ixS c r with
                  | none=>exact gD_ hx
                  | some k=>have:=qo_ hx;omega
    rw[e]at h;refine Zz 10 ?_;refine e_ (fb_ o_ G_ rfl rfl zaa_ zaa_) rfl (ol_ 0 G_ rfl rfl rfl (by simp[m]) rfl rfl (Zz 6 ?_));refine e_ (ao_ (aC_ rfl rfl rfl (bq_ zaa_ zaa_)) (show _=iv_ ((dK_ c s+1:Nat):Int) by first|rfl|(congr 1;omega))) rfl ?_;refine e_ (ao_ (cV_ (i:=0) (j:=dK_ c s+1) (kl:=.i64) (kh:=.i64) o_ G_ rfl rfl rfl zaa_ zaa_) (show _=Value.slice (some ⟨d,0,none⟩) (dK_ c s+1) (dK_ c s+1) by rw[nW_];rfl)) rfl ?_;refine Zz 4 ?_;refine bC_ ((bm_ c s).flatMap al_) d_ (by rw[h,nO_];simp) ?_;have hl:=fd_ c s;exact ab_ results370 d (fs_ rfl (by rw[hl])) (.refl _) zf
   obtain ⟨k, q⟩ : ∃ k, ixS c r = some k := by
                 cases hx:ixS c r with
                 | none=>have:=xf_ hx;omega
                 | some k=>exact⟨k,rfl⟩
   have J:=qo_ q;have I:=un_ q;refine Zz 10 ?_;refine f_ (pj_ r c k q) rfl (.refl _) zt rfl λ_=>Zi 7 (λe=>?_) λe=>?_
   .refine Zz 12 ?_
    refine e_ (ao_ (aC_ rfl rfl rfl (bq_ zaa_ zaa_)) (show _=iv_ k by first|rfl|(congr 1;omega))) rfl ?_;refine e_ (ao_ (eX_ (i:=0) (j:=k) (kl:=.i64) (kh:=.i64) W_ rfl rfl rfl zaa_ zaa_) (show _=str (r.take k) by simp)) rfl (e_ (fb_ o_ G_ rfl rfl zaa_ zaa_) rfl (ol_ 0 G_ rfl rfl rfl (by simp[m]) rfl rfl (Zz 7 ?_)));refine e_ (ck_ W_ rfl) rfl (e_ (ao_ (aC_ rfl rfl rfl (bq_ zat_ zat_)) (show _=iv_ ((k+1:Nat):Int) by first|rfl|(congr 1;omega))) rfl ?_);refine e_ (ao_ (eX_ (i:=k+1) (j:=r.length) (kl:=.i64) (kh:=.i64) W_ rfl rfl rfl zaa_ zaa_) (show _=str (r.drop (k+1)) by rw[yab_ zaj_])) rfl (Zz 5 ?_);refine e_ (ao_ (aC_ rfl rfl rfl (bq_ zaa_ zaa_)) (show _=iv_ ((i+1:Nat):Int) by first|rfl|(congr 1;omega))) rfl ?_;refine Zz 3 ?_;exact u_ ⟨(i+1,dn++[r.take k],r.drop (k+1)),by simp[m],by rw[h,iF_ q,yar_];rfl,by dsimp only;omega,by simp;omega⟩ zab_ zl (F:=[]) (yds_ (by simp[show dK_ c s+1 - (i+1)=dK_ c s - i by omega])) zh
   exfalso;omega
  cases A
 exact absurd y zae_
theorem AE_ (s:Str) (c:UInt8) (d:s.length<=17592186044414):Tri prog 332 #[str s,str [c]] [] [] (λb:Nat=>.slice (some ⟨b,0,none⟩) (bm_ c s).length (bm_ c s).length) (λ_=>[]) (λb=>[ac_ (some ⟨b,0,none⟩) ((bm_ c s).flatMap al_)]):=by
  refine i_ func332 rfl rfl ntmps332 rfl λe=>?_;refine Zz 9 ?_;refine f_ (uu_ s c d) rfl (.refl _) zt rfl λb=>Zz 4 ?_
  exact ab_ results332 b rfl (.refl _) zf
theorem re_ {g:FuncId} {pred:Str->Bool} (xs:List Str) (ad:Ao) (cap:Nat) (B:xs.length<=17592186044415) (E:∀ x∈xs,Fn0 prog g #[str x] (.bool (pred x))) :
    Tri prog 371 #[.slice ad xs.length cap,.func (.func g) #[] #[]] [] [ac_ ad (xs.flatMap al_)] (λr:{r:Int // decide (0<=r)=xs.any pred}=>iv_ r.1) (λ_=>[]) (λ_=>[]):=by
  refine i_ func371 rfl rfl ntmps371 rfl λC=>?_;refine Zz 14 ?_;refine bx_ [(0,.slice ad xs.length cap),(1,.func (.func g) #[] #[]),(7,iv_ (List.length xs:Int)),(8,iv_ ((0:Nat):Int))] zl ?_;refine bV_ (ι:={q:Nat // q<=xs.length/\(xs.take q).any pred=false}) (λi=>[(0,.slice ad xs.length cap),(1,.func (.func g) #[] #[]),(7,iv_ (List.length xs:Int)),(8,iv_ i.1)]) (λ_=>_) (λ_=>_) (λi=>xs.length - i.1) ⟨0,by simp⟩ ?_;rintro ⟨i,hk⟩;refine bx_ [(0,.slice ad xs.length cap),(1,.func (.func g) #[] #[]),(7,iv_ (List.length xs:Int)),(8,iv_ i)] zl ?_;refine Zi 2 (λv=>?_) λv=>?_
  . refine Zz 12 ?_;exact ab_ results371 ⟨-1,by have:=hk.2;rw[yab_ zaa_]at this;show _=xs.any pred;rw[this];rfl⟩ rfl (.refl _) zt
  . obtain⟨e,m,h,d⟩:=zge (show i<xs.length by omega);refine Zz 21 ?_;refine bh_ (E m d) rfl rfl g_ zt rfl λy A=>Zz 2 ?_
    cases y
    . refine Zz 8 ?_;exact u_ ⟨i+1,e,by rw[yaz_,h];simp only[ybd_,yci_,hk.2];simp[*]⟩ zan_ zl (.refl _) zh
    . refine Zz 8 ?_;exact ab_ results371 ⟨(i:Int),by show _=xs.any pred;rw[show xs.any pred=true from ybT_.2 ⟨m,d,by assumption⟩];exact yaC_ zaa_⟩ rfl (.refl _) zt
theorem ne_ {g:FuncId} {pred:Str->Bool} (xs:List Str) (ad:Ao) (cap:Nat) (d:xs.length<=17592186044415) (h:∀ x∈xs,Fn0 prog g #[str x] (.bool (pred x))) :
    Tri prog 333 #[.slice ad xs.length cap,.func (.func g) #[] #[]] [] [ac_ ad (xs.flatMap al_)] (λ_:Unit=>.bool (xs.any pred)) (λ_=>[]) (λ_=>[]):=by
  refine i_ func333 rfl rfl ntmps333 rfl λq=>?_;refine Zz 9 ?_;refine f_ (re_ xs ad cap d h) rfl g_ zf rfl λx=>E_ (eJ_ rfl rfl) rfl λm e=>Zz 4 ?_
  exact ab_ results333 () (s_ rfl (e.symm.trans x.2)) (.refl _) zt
theorem wQ_ (s:Str) (d:s.length<=140737488351232):Fn0 prog 334 #[str s] (.bool (!aV_ s)):=by
  refine i_ func334 rfl rfl ntmps334 rfl λh=>?_;refine Zz 8 ?_;refine S_ (go_ s d) rfl g_ zt rfl λm e=>e_ (as_ rfl) rfl (Zz 4 ?_)
  exact ab_ results334 () (s_ rfl (by simp[*])) (.refl _) zt
theorem hB_ {c:UInt8}:∀ {s x:Str},x∈bm_ c s->x.length<=s.length
 | [],x,h=>by simp[bm_]at h;simp[h]
 | b::s,x,h=>by
   simp only[bm_]at h
   split at h
   . rcases yan_.1 h with rfl|h
     . simp
     . have:=hB_ h;simp only[yal_];omega
   . cases hs:bm_ c s with
     | nil=>exact absurd hs (lq_ c s)
     | cons y t =>
       rw[hs]at h;rcases yan_.1 h with rfl|h
       . have:=hB_ (c:=c) (s:=s) (x:=y) (by rw[hs];simp);simp only[yal_];omega
       . have:=hB_ (c:=c) (s:=s) (x:=x) (by rw[hs];simp[h]);simp only[yal_];omega
theorem lW_ {G:Prop} (h:G:=by
 exact ab_ results288 () (s_ rfl (by unfold ct_;subst_vars;rw[ybx_];simp_all<;>omega)) (.refl _) zt):G:=h
theorem iQ_ (s:Str) (v:s.length<=17592186044414):Fn0 prog 288 #[str s] (.bool (ct_ s)):=by
 refine i_ func288 rfl rfl ntmps288 rfl λh=>?_;have m:=fd_ 46 s;refine Zz 8 ?_;refine f_ (AE_ s 46 v) rfl g_ zt rfl λb=>Zi 7 (λd=>?_) λd=>?_
 .refine Zz 9 ?_
  exact lW_
 refine Zz 4 ?_;refine S_ (ne_ (pred:=λr=>!aV_ r) (bm_ 46 s) _ _ zaa_ (λx y=>wQ_ x (by have:=hB_ y;omega))) rfl g_ zf rfl λq e=>?_;refine ay_ rfl rfl (e_ (as_ rfl) rfl (Zz 5 ?_));exact lW_
theorem lT_ {G:Prop} (h:G:=by
 refine S_ (go_ _ zaW_) rfl g_ zt rfl λm x=>?_;exact fv_):G:=h
theorem lU_ {G:Prop} (h:G:=by
 refine S_ (go_ _ zaW_) rfl g_ zt rfl λm d=>?_;exact fv_):G:=h
theorem lV_ {G:Prop} (h:G:=by
 refine S_ (go_ _ zaW_) rfl g_ zt rfl λm h=>?_;exact fv_):G:=h
theorem fv_ {G:Prop} (h:G:=by
 refine Zz 4 ?_;exact fw_):G:=h
theorem fw_ {G:Prop} (h:G:=by
 exact ab_ results290 () (s_ rfl (by unfold bd_;(repeat (any_goals split))<;>first|rfl|(simp_all;done)|(exfalso;simp_all;omega)|(exfalso;simp_all;done))) (.refl _) zt):G:=h
theorem hf_ (s:Str) (A:s.length<=140737488351232):Fn0 prog 290 #[str s] (.bool (bd_ s)):=by
 refine i_ func290 rfl rfl ntmps290 rfl λM=>?_;refine Zz 8 ?_;refine e_ (ck_ W_ rfl) rfl (Zi 8 (λE=>?_) λE=>?_)
 .refine Zi 4 (λF=>?_) λF=>?_
  .refine Zi 8 (λC=>?_) λC=>?_
   .refine Zi 19 (λy=>?_) λy=>?_
    .refine Zz 21 ?_
     refine S_ (go_ _ zaW_) rfl g_ zt rfl λm v=>?_;exact fv_
    exfalso;omega
   obtain⟨c,G⟩:∃ c,s[0]? = some c:=⟨_,yaa_ zaa_⟩;obtain⟨e,B⟩:∃ e,s[s.length - 1]? = some e:=⟨_,yaa_ zaa_⟩
   have J:(s[0]? = some 123)↔((c.toNat:Int)=123):=by
     rw[G];simp only[yak_];exact⟨λq=>by subst q;rfl,λq=>UInt8.toNat_inj.1 (by show c.toNat=123;omega)⟩
   have I:(s[s.length - 1]? = some 125)↔((e.toNat:Int)=125):=by
     rw[B];simp only[yak_];exact⟨λq=>by subst q;rfl,λq=>UInt8.toNat_inj.1 (by show e.toNat=125;omega)⟩
   have L:(s[0]? = some 60)↔((c.toNat:Int)=60):=by
     rw[G];simp only[yak_];exact⟨λq=>by subst q;rfl,λq=>UInt8.toNat_inj.1 (by show c.toNat=60;omega)⟩
   have K:(s[s.length - 1]? = some 62)↔((e.toNat:Int)=62):=by
     rw[B];simp only[yak_];exact⟨λq=>by subst q;rfl,λq=>UInt8.toNat_inj.1 (by show e.toNat=62;omega)⟩
   refine Zz 4 ?_;refine e_ (dU_ W_ rfl rfl zae_ G) rfl (ay_ rfl rfl ?_);refine Zi 0 (λy=>?_) λy=>?_
   .refine Zi 15 (λv=>?_) λv=>?_
    .refine Zz 21 ?_
     exact lV_
    refine Zz 4 ?_;refine e_ (dU_ W_ rfl rfl zae_ G) rfl (ay_ rfl rfl ?_);refine Zi 0 (λh=>?_) λh=>?_
    .refine Zz 17 ?_
     exact lU_
    refine Zz 9 ?_;refine e_ (dU_ W_ rfl rfl zaa_ (show s[((s.length:Int) - 1).toNat]? = some e by rw[show ((s.length:Int) - 1).toNat=s.length - 1 by omega];exact B)) rfl ?_;refine ay_ rfl rfl ?_;refine Zi 0 (λd=>?_) λd=>?_
    .refine Zz 10 ?_
     exact lT_
    refine Zz 11 ?_;exact fw_
   refine Zz 9 ?_;refine e_ (dU_ W_ rfl rfl zaa_ (show s[((s.length:Int) - 1).toNat]? = some e by rw[show ((s.length:Int) - 1).toNat=s.length - 1 by omega];exact B)) rfl ?_;refine ay_ rfl rfl ?_;refine Zi 0 (λv=>?_) λv=>?_
   .refine Zi 8 (λh=>?_) λh=>?_
    .refine Zz 21 ?_
     exact lU_
    refine Zz 4 ?_;refine e_ (dU_ W_ rfl rfl zae_ G) rfl (ay_ rfl rfl ?_);refine Zi 0 (λd=>?_) λd=>?_
    .refine Zz 17 ?_
     exact lT_
    refine Zz 9 ?_;refine e_ (dU_ W_ rfl rfl zaa_ (show s[((s.length:Int) - 1).toNat]? = some e by rw[show ((s.length:Int) - 1).toNat=s.length - 1 by omega];exact B)) rfl ?_;refine ay_ rfl rfl ?_;refine Zi 0 (λx=>?_) λx=>?_
    .refine Zz 10 ?_
     refine S_ (go_ _ zaW_) rfl g_ zt rfl λm H=>?_;exact fv_
    refine Zz 11 ?_;exact fw_
   refine Zz 10 ?_;refine e_ (eX_ (i:=1) (j:=s.length - 1) (kl:=.i64) (kh:=.i64) W_ rfl rfl (show _=some (iv_ ((s.length - 1:Nat):Int)) by rw[show ((s.length - 1:Nat):Int)=(s.length:Int) - 1 by omega];rfl) zaa_ zaa_) rfl ?_;exact lV_
  refine Zz 11 ?_;exact fw_
 refine Zz 14 ?_;exact fw_
theorem ik_ {G:Prop} (h:G:=by
 exact ab_ results287 () (s_ rfl (by unfold bY_;subst_vars;rw[ybx_];simp_all)) (.refl _) zt):G:=h
theorem eu_ {g:FuncId} (d:Bool) (s:Str) (q:Str->Bool) (v:Fn0 prog g #[str s] (.bool (q s))):Fn0 prog 287 #[.bool d,str s,.func (.func g) #[] #[]] (.bool (bY_ d s q)):=by
 refine i_ func287 rfl rfl ntmps287 rfl λm=>?_;refine Zz 9 ?_;cases d
 .refine Zz 8 ?_
  refine e_ (as_ rfl) rfl (Zz 5 ?_);refine E_ (cW_ rfl rfl) rfl λh e=>Zz 7 ?_
  exact ik_
 refine Zz 5 ?_;refine bh_ (v) rfl rfl g_ zt rfl λh e=>Zz 2 ?_
 cases h
 .refine Zz 3 ?_
  refine e_ (as_ rfl) rfl (Zz 11 ?_);exact ik_
 refine Zz 11 ?_;exact ik_
theorem ii_ {G:Prop} (h:G:=by
 exact met ⟨rfl,rfl,rfl,rfl,rfl,(s_ rfl (jot d)),trivial⟩):G:=h
theorem ij_ {G:Prop} (h:G:=by
 refine Zz 6 ?_;exact met ⟨rfl,rfl,(s_ rfl (jot d)),trivial⟩):G:=h
theorem gu_ {G:Prop} (h:G:=by
 exact met ⟨rfl,rfl,rfl,rfl,(s_ rfl (jaf d)),trivial⟩):G:=h
theorem lS_ {G:Prop} (h:G:=by
 refine Zz 7 ?_;exact ab_ results219 () (s_ rfl (by unfold Pc.valid;rw[yag_ zaa_];simp only[S];first|(rw[yao_ (by first|(simp;omega)|omega)])|(rw[yag_ zaj_,yao_ zan_]))) (.refl _) zt):G:=h
theorem gv_ {G:Prop} (h:G:=by
 refine Zz 9 ?_;exact met ⟨rfl,rfl,rfl,rfl,rfl,(s_ rfl (jaf d)),trivial⟩):G:=h
theorem wP_ (p:Pc) (hp:p.sm):Tri prog 219 #[Pc.val p] [] [hx_] (λ_:Unit=>.bool p.valid) (λ_=>[]) (λ_=>[]):=by
 refine i_ func219 rfl rfl ntmps219 rfl λv_1=>?_;obtain⟨ha,hb,hc,hr,hs,ht⟩:=hp;refine Zz 2 ?_;refine P_ rfl rfl λC=>Zz 8 ?_
 refine E_ (dc_ rfl rfl) rfl λr_1 I=>Zz 1 ?_
 refine aq_ 4 ((decide (p.kind<1))||(decide (9<p.kind))) (λr=>[(1,zp_ C 0),(2,.bool false),(13,.bool r)]) ?_ λr_2 N=>?_
 .cases r_1
  .have d:=I
   replace I:=zdf I;refine Zz 5 ?_;refine E_ (ds_ rfl rfl) rfl λZ H=>Zz 3 ?_
   exact met (zm (jof d H))
  have d:=I;replace I:=zdt I;exact ij_
 refine Zz 1 ?_;refine aq_ 4 ((((decide (p.kind<1))||(decide (9<p.kind))))||(decide (p.frm<(-1)))) (λr=>[(1,zp_ C 0),(2,.bool false),(18,.bool r)]) ?_ λZ H=>?_
 .cases r_2
  .have d:=N
   simp at N
   refine Zz 5 ?_;refine E_ (dc_ rfl rfl) rfl λa0 L=>Zz 3 ?_
   exact met (zm (jof d L))
  have d:=N;simp at N
  exact ij_
 refine Zz 1 ?_;refine aq_ 4 ((((((decide (p.kind<1))||(decide (9<p.kind))))||(decide (p.frm<(-1)))))||(decide (1024<=p.frm))) (λr=>[(1,zp_ C 0),(2,.bool false),(23,.bool r)]) ?_ λa0 L=>?_
 .cases Z
  .have d:=H
   simp at H
   refine Zz 5 ?_;refine E_ (eJ_ rfl rfl) rfl λR q=>Zz 3 ?_
   exact met (zm (jof d q))
  have d:=H;simp at H
  exact ij_
 refine Zz 2 ?_;cases a0
 .simp at L
  obtain⟨u,hx⟩:∃ u,gm_[p.kind.toNat]? = some u:=⟨_,yaa_ (show p.kind.toNat<10 by omega)⟩;have S:nus p.kind=u:=by simp[nus,hx]
  obtain⟨O,ub,P,T,us,ut,un⟩:=u;refine Zz 7 ?_;refine e_ (dE_ runUnderlying326 sizeOf325 rfl rfl (by show (0:Int)<=p.kind;omega) (by show p.kind<(10:Int);omega)) rfl ?_;refine e_ (am_ (ad:=some ⟨3,0,none⟩) (us:=NUse.cells ⟨O,ub,P,T,us,ut,un⟩) isAgg325 sizeOf325 rfl (λv _ h=>h.1) (NUse.cells_len _) (w_ NUse.cells_len hx)) rfl (x_ zeroValue325 rfl λE=>n_ 0 sizeOf325 rfl rfl rfl rfl rfl rfl (Zz 19 ?_));cases un
  .refine Zz 5 ?_
   refine E_ (cg_ rfl rfl) rfl λR q=>Zz 1 ?_
   refine aq_ 4 ((p.lo != 0)||(p.hi != 0)) (λr=>[(1,zp_ C 0),(2,.bool false),(3,zp_ E 0),(4,.func (.func 287) #[] #[]),(5,.func (.func 288) #[] #[]),(52,.bool r)]) ?_ λX G=>?_
   .cases R
    .have d:=q
     replace q:=fo_ q;refine Zz 5 ?_;refine E_ (cg_ rfl rfl) rfl λQ B=>Zz 3 ?_
     exact met (zm (jof d B))
    have d:=q;replace q:=fm_ q;refine Zz 6 ?_;exact ii_
   refine Zz 2 ?_;cases X
   .simp at G
    refine Zz 10 ?_;refine bh_ (eu_ O p.a bd_ (hf_ _ zaa_)) rfl rfl g_ zt rfl λQ B=>Zz 1 ?_
    refine aq_ 7 ((bY_ O p.a bd_)&&(bY_ ub p.b bd_)) (λr=>[(1,zp_ C 0),(2,.bool false),(3,zp_ E 0),(4,.func (.func 287) #[] #[]),(5,.func (.func 288) #[] #[]),(66,.bool r)]) ?_ λV A=>?_
    .cases Q
     .have d:=B
      exact gv_
     have d:=B;refine Zz 11 ?_;refine bh_ (eu_ ub p.b bd_ (hf_ _ zaa_)) rfl rfl g_ zt rfl λU y=>Zz 3 ?_
     exact met ⟨rfl,rfl,rfl,rfl,rfl,(s_ rfl (jat d y)),trivial⟩
    refine Zz 1 ?_;refine aq_ 7 ((((bY_ O p.a bd_)&&(bY_ ub p.b bd_)))&&(bY_ P p.c bd_)) (λr=>[(1,zp_ C 0),(2,.bool false),(3,zp_ E 0),(4,.func (.func 287) #[] #[]),(5,.func (.func 288) #[] #[]),(74,.bool r)]) ?_ λU y=>?_
    .cases V
     .have d:=A
      simp at A
      exact gv_
     have d:=A;simp at A
     refine Zz 11 ?_;refine bh_ (eu_ P p.c bd_ (hf_ _ zaa_)) rfl rfl g_ zt rfl λK e=>Zz 3 ?_
     exact met ⟨rfl,rfl,rfl,rfl,rfl,(s_ rfl (jat d e)),trivial⟩
    refine Zz 1 ?_;refine aq_ 8 ((((((bY_ O p.a bd_)&&(bY_ ub p.b bd_)))&&(bY_ P p.c bd_)))&&(bY_ T p.r ct_)) (λr=>[(1,zp_ C 0),(2,.bool false),(3,zp_ E 0),(4,.func (.func 287) #[] #[]),(83,.bool r)]) ?_ λK e=>?_
    .cases U
     .have d:=y
      simp at y
      refine Zz 10 ?_;exact gu_
     have d:=y;simp at y
     refine Zz 13 ?_;refine bh_ (eu_ T p.r ct_ (iQ_ _ zaa_)) rfl rfl g_ zt rfl λJ m=>Zz 3 ?_
     exact met ⟨rfl,rfl,rfl,rfl,(s_ rfl (jat d m)),trivial⟩
    refine Zz 1 ?_;refine aq_ 7 ((((((((bY_ O p.a bd_)&&(bY_ ub p.b bd_)))&&(bY_ P p.c bd_)))&&(bY_ T p.r ct_)))&&(bY_ us p.s ct_)) (λr=>[(1,zp_ C 0),(2,.bool false),(3,zp_ E 0),(4,.func (.func 287) #[] #[]),(91,.bool r)]) ?_ λJ m=>?_
    .cases K
     .have d:=e
      simp at e
      refine Zz 9 ?_;exact gu_
     have d:=e;simp at e
     refine Zz 11 ?_;refine bh_ (eu_ us p.s ct_ (iQ_ _ zaa_)) rfl rfl g_ zt rfl λM x=>Zz 3 ?_
     exact met ⟨rfl,rfl,rfl,rfl,(s_ rfl (jat d x)),trivial⟩
    refine Zz 1 ?_;refine aq_ 7 ((((((((((bY_ O p.a bd_)&&(bY_ ub p.b bd_)))&&(bY_ P p.c bd_)))&&(bY_ T p.r ct_)))&&(bY_ us p.s ct_)))&&(bY_ ut p.t ct_)) (λr=>[(2,.bool false),(99,.bool r)]) ?_ λM x=>?_
    .cases J
     .have d:=m
      simp at m
      refine Zz 9 ?_;exact met ⟨rfl,(s_ rfl (jaf d)),trivial⟩
     have d:=m;simp at m
     refine Zz 11 ?_;refine bh_ (eu_ ut p.t ct_ (iQ_ _ zaa_)) rfl rfl g_ zt rfl λW F=>Zz 3 ?_
     exact met ⟨rfl,(s_ rfl (jat d F)),trivial⟩
    refine Zz 4 ?_;exact ab_ results219 () (s_ rfl (by unfold Pc.valid;rw[yag_ zaa_];simp only[S];rw[yag_ (by simp<;>omega),yag_ (by simp<;>omega)];exact x.symm)) (.refl _) zt
   simp at G
   exact lS_
  refine Zz 10 ?_;refine E_ (dc_ rfl rfl) rfl λR q=>Zz 1 ?_
  refine aq_ 6 ((decide (p.lo<(-1099511627776)))||(decide (p.hi<p.lo))) (λr=>[(1,zp_ C 0),(2,.bool false),(3,zp_ E 0),(4,.func (.func 287) #[] #[]),(5,.func (.func 289) #[] #[]),(39,.bool r)]) ?_ λX G=>?_
  .cases R
   .have d:=q
    replace q:=zdf q;refine Zz 9 ?_;refine E_ (ds_ rfl rfl) rfl λQ B=>Zz 3 ?_
    exact met (zm (jof d B))
   have d:=q;replace q:=zdt q;refine Zz 8 ?_;exact ii_
  refine Zz 1 ?_;refine aq_ 4 ((((decide (p.lo<(-1099511627776)))||(decide (p.hi<p.lo))))||(decide (1099511627776<p.hi))) (λr=>[(1,zp_ C 0),(2,.bool false),(3,zp_ E 0),(4,.func (.func 287) #[] #[]),(5,.func (.func 289) #[] #[]),(44,.bool r)]) ?_ λQ B=>?_
  .cases X
   .have d:=G
    simp at G
    refine Zz 5 ?_;refine E_ (ds_ rfl rfl) rfl λV A=>Zz 3 ?_
    exact met (zm (jof d A))
   have d:=G;simp at G
   refine Zz 6 ?_;exact ii_
  refine Zz 2 ?_;cases Q
  .simp at B
   refine Zz 10 ?_;refine bh_ (eu_ O p.a bd_ (hf_ _ zaa_)) rfl rfl g_ zt rfl λV A=>Zz 1 ?_
   refine aq_ 7 ((bY_ O p.a bd_)&&(bY_ ub p.b bd_)) (λr=>[(1,zp_ C 0),(2,.bool false),(3,zp_ E 0),(4,.func (.func 287) #[] #[]),(5,.func (.func 289) #[] #[]),(66,.bool r)]) ?_ λU y=>?_
   .cases V
    .have d:=A
     exact gv_
    have d:=A;refine Zz 11 ?_;refine bh_ (eu_ ub p.b bd_ (hf_ _ zaa_)) rfl rfl g_ zt rfl λK e=>Zz 3 ?_
    exact met ⟨rfl,rfl,rfl,rfl,rfl,(s_ rfl (jat d e)),trivial⟩
   refine Zz 1 ?_;refine aq_ 7 ((((bY_ O p.a bd_)&&(bY_ ub p.b bd_)))&&(bY_ P p.c bd_)) (λr=>[(1,zp_ C 0),(2,.bool false),(3,zp_ E 0),(4,.func (.func 287) #[] #[]),(5,.func (.func 289) #[] #[]),(74,.bool r)]) ?_ λK e=>?_
   .cases U
    .have d:=y
     simp at y
     exact gv_
    have d:=y;simp at y
    refine Zz 11 ?_;refine bh_ (eu_ P p.c bd_ (hf_ _ zaa_)) rfl rfl g_ zt rfl λJ m=>Zz 3 ?_
    exact met ⟨rfl,rfl,rfl,rfl,rfl,(s_ rfl (jat d m)),trivial⟩
   refine Zz 1 ?_;refine aq_ 8 ((((((bY_ O p.a bd_)&&(bY_ ub p.b bd_)))&&(bY_ P p.c bd_)))&&(bY_ T p.r aV_)) (λr=>[(1,zp_ C 0),(2,.bool false),(3,zp_ E 0),(4,.func (.func 287) #[] #[]),(83,.bool r)]) ?_ λJ m=>?_
   .cases K
    .have d:=e
     simp at e
     refine Zz 10 ?_;exact gu_
    have d:=e;simp at e
    refine Zz 13 ?_;refine bh_ (eu_ T p.r aV_ (go_ _ zaa_)) rfl rfl g_ zt rfl λM x=>Zz 3 ?_
    exact met ⟨rfl,rfl,rfl,rfl,(s_ rfl (jat d x)),trivial⟩
   refine Zz 1 ?_;refine aq_ 7 ((((((((bY_ O p.a bd_)&&(bY_ ub p.b bd_)))&&(bY_ P p.c bd_)))&&(bY_ T p.r aV_)))&&(bY_ us p.s ct_)) (λr=>[(1,zp_ C 0),(2,.bool false),(3,zp_ E 0),(4,.func (.func 287) #[] #[]),(91,.bool r)]) ?_ λM x=>?_
   .cases J
    .have d:=m
     simp at m
     refine Zz 9 ?_;exact gu_
    have d:=m;simp at m
    refine Zz 11 ?_;refine bh_ (eu_ us p.s ct_ (iQ_ _ zaa_)) rfl rfl g_ zt rfl λW F=>Zz 3 ?_
    exact met ⟨rfl,rfl,rfl,rfl,(s_ rfl (jat d F)),trivial⟩
   refine Zz 1 ?_;refine aq_ 7 ((((((((((bY_ O p.a bd_)&&(bY_ ub p.b bd_)))&&(bY_ P p.c bd_)))&&(bY_ T p.r aV_)))&&(bY_ us p.s ct_)))&&(bY_ ut p.t ct_)) (λr=>[(2,.bool false),(99,.bool r)]) ?_ λW F=>?_
   .cases M
    .have d:=x
     simp at x
     refine Zz 9 ?_;exact met ⟨rfl,(s_ rfl (jaf d)),trivial⟩
    have d:=x;simp at x
    refine Zz 11 ?_;refine bh_ (eu_ ut p.t ct_ (iQ_ _ zaa_)) rfl rfl g_ zt rfl λr_14 Y=>Zz 3 ?_
    exact met ⟨rfl,(s_ rfl (jat d Y)),trivial⟩
   refine Zz 4 ?_;exact ab_ results219 () (s_ rfl (by unfold Pc.valid;rw[yag_ zaa_];simp only[S];rw[yag_ (by simp<;>omega),yag_ (by simp<;>omega)];exact F.symm)) (.refl _) zt
  simp at B
  exact lS_
 simp at L
 refine Zz 7 ?_;exact ab_ results219 () (s_ rfl (by unfold Pc.valid;rw[yao_ zaa_])) (.refl _) zt
theorem BW_ (l:List Pc) (ad:Ao) (cap:Nat) (hl:l.length<=17592186044414) (y:∀ p∈l,p.sm):Tri prog 143 #[.slice ad l.length cap] [] [ac_ ad (l.flatMap Pc.cells),hx_] (λ_:Unit=>iv_ (cs_ l)) (λ_=>[]) (λ_=>[]):=by
 refine i_ func143 rfl rfl ntmps143 rfl λC=>?_;refine Zi 10 (λv=>?_) λv=>?_
 .refine Zz 14 ?_
  refine bx_ [(8,.slice ad l.length cap),(9,iv_ (List.length l:Int)),(10,iv_ ((0:Nat):Int))] zl ?_;refine bV_ (ι:={q:Nat // q<=l.length/\(l.take q).all Pc.valid=true}) (λi=>[(8,.slice ad l.length cap),(9,iv_ (List.length l:Int)),(10,iv_ i.1)]) (λ_=>_) (λ_=>_) (λi=>l.length - i.1) ⟨0,by simp⟩ ?_;rintro ⟨i,hk⟩;refine bx_ [(8,.slice ad l.length cap),(9,iv_ (List.length l:Int)),(10,iv_ i)] zl ?_;refine Zi 2 (λx=>?_) λx=>?_
  .refine Zz 12 ?_
   exact ab_ results143 () (bl_ rfl (by unfold cs_;rw[yag_ zaa_,yao_ (by have:=hk.2;rwa [yab_ zaa_]at this)])) (.refl _) zt
  obtain⟨h,e,m,d⟩:=zge (show i<l.length by omega);refine Zz 12 ?_;refine x_ aa_ rfl λE=>n_ 0 K_ rfl rfl rfl rfl rfl rfl (Zz 5 ?_)
  refine S_ (wP_ e (y e d)) rfl g_ zf rfl λA B=>e_ (as_ rfl) rfl (Zz 2 ?_)
  cases A
  .refine Zz 7 ?_
   exact ab_ results143 () (bl_ rfl (by unfold cs_;rw[yag_ zaa_,yag_ (by rw[show l.all Pc.valid=false from ydd_.2 ⟨e,d,by simp[*]⟩];simp)])) (.refl _) zt
  refine Zz 8 ?_;exact u_ ⟨i+1,h,by rw[yaz_,m];simp only[ybd_,ycV_,hk.2];simp[*]⟩ zan_ zl (@List.perm_append_comm _ [_] _) zh
 refine Zz 9 ?_;exact ab_ results143 () (bl_ rfl (by unfold cs_;rw[yao_ zaa_])) (.refl _) zt
theorem xy_ {N:Nf} {fr:Fr} {H:Hp} {Γ:List Fct} {P:Program} {ty t h:TypeId} {x y:Operand} {m n:Int} (q:Fr.ev fr x=some (iv_ m)) (e:Fr.ev fr y=some (iv_ n)):Yld P N fr H Γ (.binOp .add t x y h) ty (iv_ (IntKind.wrap .i64 (m+n))) :=
  λa v d _ _ _ _ _=>by simp[execOp,d.ev q,d.ev e,eqGuard,binOp,Op.intArith]
def wz (n:Nat):Int:=IntKind.wrap .i64 (n:Int)
theorem Ai_ (n:Nat):IntKind.wrap .i64 (wz n+1)=wz (n+1):=by
  unfold wz;rw[IntKind.wrap_i64,IntKind.wrap_i64,IntKind.wrap_i64];omega
theorem xz_ {n:Nat} (h:n<=1000000):wz n=(n:Int):=bq_ zaa_ zaa_
theorem Con.fold_cnt:∀ (m:Nat) (c:Con),c.sz<=m->∀ n,Con.fold Con.cnt c n=.inl (n+c.sz)
  | 0,c,h=>by have:=c.sz_pos;omega
  | m+1,c,h=>λn=>by
    have e:∀ ps:List Con,(∀ p∈ps,p.sz<=m)->∀ n,Con.fold.folds Con.cnt ps n=.inl (n+Con.sz.szs ps):=by
      intro ps
      induction ps with
      | nil=>intro _ n;simp[Con.fold.folds,Con.sz.szs]
      | cons p ps ih =>
        intro d n;simp only[Con.fold.folds,Con.fold_cnt m p (d p zaj_) n,Con.sz.szs];rw[ih (λq v=>d q (by simp[v]))]
        congr 1;omega
    rw[Con.fold_eq];simp only[Con.cnt];rw[e c.parts (λp d=>by have:=Con.sz_part d;omega)]
    congr 1
    cases c;simp only[Con.sz,Con.parts];omega
theorem size_c (c:Con) (K:c.ok) (y:c.sz<=1000000):Tri prog 207 #[c.val] [] [c.memF] (λ_:Unit=>iv_ c.sz) (λ_=>[]) (λ_=>[]):=by
 refine fN_ func207 rfl rfl ntmps207 rfl λm=>?_;refine Zz 2 ?_;refine P_ rfl rfl λR=>x_ dD_ rfl λd=>Zz 5 ?_
 refine e_ (cR_ 1 ah_ t_ rfl rfl) rfl (f_ (tI_ c) rfl (.refl _) zt rfl λb=>Zz 3 ?_);refine bx_ [(2,zp_ d 0),(4,.func (.func 190) #[] #[zp_ b 0])] zl ?_;refine du_ (H':=[_,_]) (F:=[_]) (.refl _) zh ?_;refine pI_ (α:={c:Con // c.ok}) (xv:=λx=>x.1.val) (good:=λ_=>True) (stp:=λx=>Con.cnt x.1) (Γx:=λx=>[x.1.memF]) (Γi:=[Con.memF c]) (Hj:=λn:Nat=>[(d,.cells #[iv_ (wz n)] 3 (0,0))]) (Hx:=λ_:Empty=>[]) (Hc:=[(b,.cells c.cells.toArray 28 (0,0))]) (caps:=[zp_ b 0]) 0 (Con.fold Con.cnt c 0) rfl (.refl _) (λv _ h=>h) ?_ ?_ ?_ ?_
 .rintro l D S P B A M q e s ⟨x,L⟩ -
  refine jY_ (ι:=Unit) (Hj:=λn:Nat=>[(d,.cells #[iv_ (wz n)] 3 (0,0))]) (Hx:=λ_:Empty=>[]) (s:=s) (res:=Con.cnt x s) (Γ:=[x.memF]) (λ_=>[(2,zp_ d 0)]) (λ_=>[(d,.cells #[iv_ (wz s)] 3 (0,0))]) P B A M rfl ?_ ?_
  .intro n m C Q
   rw[q];refine lu_ ?_;refine cN_ rfl ?_;exact eE_ () ⟨rfl,trivial⟩ (F:=[]) (by rw[yaw_]) zh
  intro n m C Q _;rw[e];refine dW_ ?_;refine aK_ ?_;refine U_ (N_ _) (aX_ 0 aQ_ rfl rfl rfl) rfl rfl ?_;refine U_ (N_ _) (ao_ (xy_ rfl rfl) (show _=iv_ (wz (s+1)) from yae_ (iv_) (Ai_ s))) rfl rfl ?_;refine ew_ (N_ _) 0 ag_ rfl rfl rfl rfl rfl rfl ?_;refine br_ ?_;refine cN_ rfl ?_;exact fg_ (s+1) rfl (G:=[]) zaN_
 .intro l U T O
  exact qC_ (E:=[]) (good:=λ_=>True) (λ_ _ _ _=>trivial) (λs x L _=>O s ⟨x,L⟩ trivial) _ K trivial 0
 .intro s I D l r
  rw[Con.fold_cnt _ _ (yaj_ _)]at I;obtain rfl:0+c.sz=s:=Sum.inl.inj I;have N:wz (0+c.sz)=(c.sz:Int):=by rw[ybw_];exact xz_ y
  refine cc_ rfl ?_;refine cK_ ?_;refine aK_ ?_;refine U_ cE_ (aX_ 1 aQ_ rfl rfl rfl) rfl rfl ?_;refine ew_ cE_ 1 ag_ rfl rfl rfl rfl rfl rfl ?_;refine br_ ?_;refine cc_ rfl ?_;refine kI_ ?_;exact yq_ (G:=[_,_,_]) () (λa v J H=>by rw[<-N];exact od_ 1 results207 aQ_ rfl rfl a v J H) (fQ_ (i:=3) rfl) ⟨_,.refl _⟩ rfl
 intro t I D l r;cases t
theorem pZ_ (xs:List Str) (ad:Ao) (cap:Nat) {kb:Nat} (frm:Int) (l:List Pc) (q:CS) (K:CInv l q) (J:xs.length<=1000) (E:l.length+xs.length<=100000) :
    Tri prog 89 #[zp_ kb 0,.slice ad xs.length cap] (fA_ kb frm q) [ac_ ad (xs.flatMap al_)] (λ_:{C:CS // CInv (cM_ frm xs l) C}=>.tuple #[]) (λC=>fA_ kb frm C.1) (λ_=>[]):=by
  refine i_ func89 rfl rfl ntmps89 rfl λG=>?_;refine Zz 8 ?_;refine bx_ [(0,zp_ kb 0),(6,.slice ad xs.length cap),(7,iv_ (List.length xs:Int)),(8,iv_ ((0:Nat):Int))] zl ?_;refine bV_ (ι:={y:Nat×CS // y.1<=xs.length/\CInv (cM_ frm (xs.take y.1) l) y.2}) (λy=>[(0,zp_ kb 0),(6,.slice ad xs.length cap),(7,iv_ (List.length xs:Int)),(8,iv_ y.1.1)]) (λy=>fA_ kb frm y.1.2) (λ_=>_) (λy=>xs.length - y.1.1) ⟨(0,q),by simp,K⟩ ?_;rintro ⟨⟨i,m⟩,hk⟩;dsimp only at hk;dsimp only;have I:=fV_ frm (xs.take i) l;have H:(xs.take i).length<=i:=by simp;omega
  refine bx_ [(0,zp_ kb 0),(6,.slice ad xs.length cap),(7,iv_ (List.length xs:Int)),(8,iv_ i)] zl ?_;refine Zi 2 (λh=>?_) λh=>?_
  . refine Zz 6 ?_;exact co_ results89 ⟨m,by have:=hk.2;rwa [yab_ zaa_]at this⟩ rfl (F:=[]) T_ zt
  . have d:i<xs.length:=by omega
    obtain⟨A,e⟩:∃ x,xs[i]? = some x:=⟨_,yaa_ d⟩;refine Zz 18 ?_;refine e_ (C_ dO_ rfl rfl) rfl (O_ J_ K_ aa_ rfl rfl rfl rfl rfl rfl λL=>f_ (dP_ (Pc.mk 1 A [] [42] [] [] [] 0 0 0) frm (cM_ frm (xs.take i) l) m hk.2 zaa_) rfl zp zt rfl λ⟨B,v⟩=>?_);dsimp only;refine A_ (List.Perm.symm T_) (Zz 7 ?_);exact u_ ⟨(i+1,B),d,by dsimp only;rw[ug_ frm e];exact v⟩ zab_ zl (F:=[]) T_ zh
theorem BA_ (a b:Str):Fn0 prog 87 #[str a,str b] (Fc.val ⟨1,a,b,[],0,0⟩):=by
  refine i_ func87 rfl rfl ntmps87 rfl λq=>?_;refine Zz 2 ?_;refine x_ R_ rfl λm=>Zz 6 ?_
  refine e_ (C_ dt_ rfl rfl) rfl (n_ 0 y_ rfl rfl rfl rfl rfl rfl (Zz 3 ?_));exact de_ () (λa v e d=>dy_ (us:=Fc.cells ⟨1,_,_,[],0,0⟩) 0 results87 bv_ y_ rfl rfl rfl a v e d) (@List.perm_append_comm _ [_] _) (λv _ h=>trivial)
abbrev GlT (x:Ax) (p:List Pc) (fs:List Fc) (er:Int):Prop:=Tri prog 45 #[x.val] [] [x.memF,bN_] (λy:{y:Ao×Nat×Ao×Nat // p.length<=y.2.1/\y.2.1<=maxLen/\fs.length<=y.2.2.2/\y.2.2.2<=maxLen/\(y.1=none->y.2.1=0)}=>.tuple #[.slice y.1.1 p.length y.1.2.1,.slice y.1.2.2.1 fs.length y.1.2.2.2,.int .i64 er]) (λ_=>[]) (λy=>[ac_ y.1.1 (p.flatMap Pc.cells),ac_ y.1.2.2.1 (fs.flatMap Fc.cells)])
theorem Bz_ (x:Ax) (m:x.ok) (hc:x.check=0) (hk:(x.kind=8\/x.kind=9)):Tri prog 45 #[Ax.val x] [] [Ax.memF x,bN_] (λy:{y:Ao×Nat×Ao×Nat // x.goalP.1.length<=y.2.1/\y.2.1<=maxLen/\x.goalP.2.1.length<=y.2.2.2/\y.2.2.2<=maxLen/\(y.1=none->y.2.1=0)}=>.tuple #[.slice y.1.1 x.goalP.1.length y.1.2.1,.slice y.1.2.2.1 x.goalP.2.1.length y.1.2.2.2,iv_ x.goalP.2.2])
    (λ_=>[]) (λy=>[ac_ y.1.1 (x.goalP.1.flatMap Pc.cells),ac_ y.1.2.2.1 (x.goalP.2.1.flatMap Fc.cells)]):=by
  refine i_ func45 rfl rfl ntmps45 rfl λa0=>?_;refine Zz 2 ?_;refine P_ rfl rfl λS=>Zz 9 ?_
  refine f_ (eS_ x m) rfl g_ zf rfl λ_=>Zi 6 (λK=>?_) λK=>?_
  . have G:=Ax.good_of K;refine Zz 7 ?_;refine f_ (iO_ (-1)) rfl g_ zt rfl λ⟨kb,M⟩=>?_;dsimp only;refine A_ (@List.perm_append_comm _ _ [_]) (Zz 6 ?_);refine f_ (vf_ kb) rfl g_ zt rfl λ⟨bk,Z,br⟩=>?_;dsimp only;refine Zi 23 (λU=>?_) λU=>?_
    . refine Zi 5 (λT=>?_) λT=>?_
      . refine Zi 6 (λQ=>?_) λQ=>?_
        . refine Zi 6 (λP=>?_) λP=>?_
          . refine Zi 6 (λV=>?_) λV=>?_
            . refine Zi 6 (λR=>?_) λR=>?_
              . exfalso;omega
              . refine Zz 5 ?_;refine ak_ ((S,.cells (Ax.cells x).toArray 30 (0,0))::[]) zk ?_;refine D_ 4 [0,1,2,4,5] zk zs (Zz 6 ?_);refine p_ 3 rfl zk (f_ (cA_ x.a m.a) rfl g_ zt rfl λ_=>Zz 3 ?_);refine p_ 6 rfl zk (f_ (cA_ x.b m.b) rfl g_ zt rfl λ_=>Zz 3 ?_);refine p_ 7 rfl zk (O_ o_ G_ ax_ rfl rfl rfl rfl rfl rfl λN=>?_);refine bC_ (List.flatMap al_ [(bp_ x.a),(bp_ x.b)]) d_ rfl ?_;refine Zz 3 ?_;refine p_ 8 rfl zk (f_ (pZ_ [(bp_ x.a),(bp_ x.b)] (some ⟨N,0,none⟩) 2 (-1) ([]:List Pc) ⟨.slice none 0 0,M,#[],0,[]⟩ ⟨at_.nil _ _,rfl,by simp⟩ zaj_ zat_) rfl zp zf rfl λ⟨O,F⟩=>?_);dsimp only;have I:=fV_ (-1) [(bp_ x.a),(bp_ x.b)] ([]:List Pc);refine A_ (@List.perm_append_comm _ _ [_]) ?_;simp only[yal_,yaL_]at I;refine Zz 6 ?_;refine D_ 5 [0,1,3,4,6,7] zk zs (Zz 7 ?_);refine p_ 2 rfl zk (f_ (cA_ x.a m.a) rfl g_ zt rfl λ_=>Zz 3 ?_);refine p_ 5 rfl zk (f_ (cA_ x.b m.b) rfl g_ zt rfl λ_=>Zz 3 ?_);refine D_ 2 [8] zk zs (M_ rfl (C_ dt_ rfl rfl) rfl (bs_ (p_ 9 rfl zk (O_ I_ y_ R_ rfl rfl rfl rfl rfl rfl λE=>Zz 3 ?_))));refine D_ 0 [10] zk zs (Zz 17 ?_);refine bC_ (List.flatMap Fc.cells [(Fc.mk 2 (bp_ x.a) (bp_ x.b) x.role 0 0)]) d_ rfl ?_;refine gj_ F.row (c_ (c_ (c_ T_))) λC d q B A=>?_
                have e:x.goalP=((cM_ (-1) [(bp_ x.a),(bp_ x.b)] ([]:List Pc)),[(Fc.mk 2 (bp_ x.a) (bp_ x.b) x.role 0 0)],0):=by
                  unfold Ax.goalP;rw[yag_ zaa_];repeat (first|rfl|(rw[yao_ zaa_])|(rw[yag_ zaa_]))
                have X:x.goalP.1.length<=d/\d<=maxLen/\x.goalP.2.1.length<=1/\1<=maxLen/\(C=none->d=0):=by rw[e];exact⟨B,A,by simp,by decide,at_.nilcap F.row q⟩
                have W:Value.tuple #[O.sv,.slice (some ⟨E,0,none⟩) 1 1,iv_ 0]=.tuple #[.slice C x.goalP.1.length d,.slice (some ⟨E,0,none⟩) x.goalP.2.1.length 1,iv_ x.goalP.2.2]:=by
                  rw[e,q]<;>rfl
                have H:List.flatMap Pc.cells (cM_ (-1) [(bp_ x.a),(bp_ x.b)] ([]:List Pc))=x.goalP.1.flatMap Pc.cells:=by rw[e]
                have J:List.flatMap Fc.cells [(Fc.mk 2 (bp_ x.a) (bp_ x.b) x.role 0 0)]=x.goalP.2.1.flatMap Fc.cells:=by rw[e]
                exact wm_ results45 ⟨(C,d,(some ⟨E,0,none⟩),1),X⟩ rfl rfl rfl W g_ (λv _ h=>⟨H▸h.1,J▸h.2.1,trivial⟩)
            . obtain⟨fr,zr⟩:=Con.check_zero (G.right zaa_);refine Zz 5 ?_;refine ak_ ((S,.cells (Ax.cells x).toArray 30 (0,0))::[]) zk ?_;refine D_ 4 [0,1,2,4,5] zk zs (Zz 6 ?_);refine p_ 3 rfl zk (f_ (cA_ x.a m.a) rfl g_ zt rfl λ_=>Zz 3 ?_);refine p_ 6 rfl zk (f_ (db_ x.right m.right) rfl g_ (λv _ h=>by exact⟨h.2.2.2.1.2.1,h.2.2.2.2.1,trivial⟩) rfl λ_=>Zz 3 ?_);refine p_ 7 rfl zk (O_ o_ G_ ax_ rfl rfl rfl rfl rfl rfl λN=>?_);refine bC_ (List.flatMap al_ [(bp_ x.a),(Con.atom x.right)]) d_ rfl ?_;refine Zz 3 ?_;refine p_ 8 rfl zk (f_ (pZ_ [(bp_ x.a),(Con.atom x.right)] (some ⟨N,0,none⟩) 2 (-1) ([]:List Pc) ⟨.slice none 0 0,M,#[],0,[]⟩ ⟨at_.nil _ _,rfl,by simp⟩ zaj_ zat_) rfl zp zf rfl λ⟨O,F⟩=>?_);dsimp only;have I:=fV_ (-1) [(bp_ x.a),(Con.atom x.right)] ([]:List Pc);refine A_ (@List.perm_append_comm _ _ [_]) ?_;simp only[yal_,yaL_]at I;refine Zz 10 ?_;refine ap_ (lD_ (kb:=kb) (bk:=bk) (bs:=Z) (frm:=(-1)) _ x.right (yaj_ _) m.right fr (cM_ (-1) [(bp_ x.a),(Con.atom x.right)] ([]:List Pc)) O F zaa_) rfl rfl zp (λv _ h=>by exact⟨h.2.2.2.2.1.2.1,h.2.2.2.2.2.1,h.2.1,h.2.2.1,trivial⟩) rfl λ⟨Y,L⟩=>?_;dsimp only;refine A_ (@List.perm_append_comm _ _ [_]) (Zz 3 ?_);refine D_ 5 [0,1,2,4,5] zk zs (Zz 6 ?_);refine p_ 3 rfl zk (f_ (cA_ x.a m.a) rfl g_ zt rfl λ_=>Zz 3 ?_);refine p_ 6 rfl zk (f_ (db_ x.right m.right) rfl g_ (λv _ h=>by exact⟨h.2.2.2.2.1.2.1,h.2.2.2.2.2.1,trivial⟩) rfl λ_=>Zz 3 ?_);refine p_ 7 rfl zk (ap_ (BA_ (bp_ x.a) (Con.atom x.right)) rfl rfl g_ zt rfl λ_=>Zz 3 ?_);refine p_ 8 rfl zk (O_ I_ y_ R_ rfl rfl rfl rfl rfl rfl λE=>Zz 3 ?_);refine D_ 0 [9] zk zs (Zz 17 ?_);refine bC_ (List.flatMap Fc.cells [(Fc.mk 1 (bp_ x.a) (Con.atom x.right) [] 0 0)]) d_ rfl ?_;refine gj_ L.row (c_ (c_ (c_ T_))) λC d q B A=>?_
              have e:x.goalP=((Con.leftP (-1) x.right (cM_ (-1) [(bp_ x.a),(Con.atom x.right)] ([]:List Pc))),[(Fc.mk 1 (bp_ x.a) (Con.atom x.right) [] 0 0)],0):=by
                unfold Ax.goalP;rw[yag_ zaa_];repeat (first|rfl|(rw[yao_ zaa_])|(rw[yag_ zaa_]))
              have X:x.goalP.1.length<=d/\d<=maxLen/\x.goalP.2.1.length<=1/\1<=maxLen/\(C=none->d=0):=by rw[e];exact⟨B,A,by simp,by decide,at_.nilcap L.row q⟩
              have W:Value.tuple #[Y.sv,.slice (some ⟨E,0,none⟩) 1 1,iv_ 0]=.tuple #[.slice C x.goalP.1.length d,.slice (some ⟨E,0,none⟩) x.goalP.2.1.length 1,iv_ x.goalP.2.2]:=by
                rw[e,q]<;>rfl
              have H:List.flatMap Pc.cells (Con.leftP (-1) x.right (cM_ (-1) [(bp_ x.a),(Con.atom x.right)] ([]:List Pc)))=x.goalP.1.flatMap Pc.cells:=by rw[e]
              have J:List.flatMap Fc.cells [(Fc.mk 1 (bp_ x.a) (Con.atom x.right) [] 0 0)]=x.goalP.2.1.flatMap Fc.cells:=by rw[e]
              exact wm_ results45 ⟨(C,d,(some ⟨E,0,none⟩),1),X⟩ rfl rfl rfl W g_ (λv _ h=>⟨H▸h.1,J▸h.2.1,trivial⟩)
          . exfalso;omega
        . exfalso;omega
      . exfalso;omega
    . exfalso;omega
  . exact absurd hc K
theorem By_ {x:Ax} (d:x.ok) (m:x.check=0) (hk:(x.kind=8\/x.kind=9)) {p:List Pc} {fs:List Fc} {er:Int} (e:x.goalP=(p,fs,er)):GlT x p fs er:=by
  have h:=Bz_ x d m hk;unfold GlT;generalize x.goalP=g at h e
  subst e;exact h
end Go.Proofs.YtbffkokbdeppaaaGreatDoor
namespace Go.Vs
open Go Go.Sx
def vw (W:World):Vw:=⟨λb=>b<W.heap.size,W,True⟩
theorem vw_sat (W:World):(vw W).sat []:=⟨(λ_ h=>by cases h),zaj_,λ_ h=>h⟩
section
variable {H:Type} {enc:TypeId×Value->H} {P:Program} {W:World}
abbrev wok (l:List Nat):Prop:=l.all (·<=reachBytes)=true
theorem ge_ {a b:List Nat}:wok (a++b)↔wok a/\wok b:=by simp[wok,ycV_]
theorem xA_ {n:Nat} {b:List Nat}:wok (n::b)↔n<=reachBytes/\wok b:=by simp[wok]
theorem xB_ {e:TypeId}:∀ {ds:List (DataW H)},wok (DataW.weightsAll P e ds)->∀ d∈ds,wok (d.weights P e)
 | [],_,_,h=>by cases h
 | x::ds,hw,d,m=>by
   rw[DataW.weightsAll,ge_]at hw;rcases yan_.1 m with rfl|m
   . exact hw.1
   . exact xB_ hw.2 d m
theorem qO_ {α:Type} [Inhabited α] (f:α->List Value) (k:Nat) (hk:∀ x,(f x).length=k) (E:0<k) (Q:α->Prop) {ts G:TypeId} (hs:P.underlying ts=some (.slice G)) (hc:P.cellsOf G=k) {n:Nat} {cs:List Value} {x:DataW H×List MemPlace}
    (F:∀ m,m<n->∀ A y,DataW.trod enc P W 0 (λ_=>true) true m G A=some y->wok (y.1.weights P G)->∃ c,A=f c/\Q c)
    (h:DataW.trod enc P W 0 (λ_=>true) true n ts cs=some x) (Y:wok (x.1.weights P ts)) :
    ∃ (l:List α) (ad:Ao) (cap:Nat),cs=[.slice ad l.length cap]/\bG_ (vw W) ad (l.flatMap f)/\(∀ c∈l,Q c)/\l.length<=cap/\cap*P.bytesOf G<=reachBytes:=by
  rcases DataW.trod_slice hs h with⟨R,_⟩|⟨a,len,cap,B,rest,m,hn,rfl,rfl,_,hl,_,hlen,U,Z,_⟩
  . exact⟨[],none,0,R,.inl rfl,(λ_ h=>by cases h),yaj_ _,by simp⟩
  . obtain⟨hr,_⟩:=Z rfl
    simp only[DataW.weights,hs,xA_,ge_,yaF_]at Y
    have J:cap*P.bytesOf G<=reachBytes:=by
      have e:B.length+rest.length=cap:=by omega
      rw[<-e];exact Y.1
    have K:∀ i,i<len->∃ c:α,W.cells? 0 (a.add (i*k)) k=some (f c)/\Q c:=λi hi=>by
      have he:=U i hi;rw[hc,yaa_ zaa_]at he;obtain⟨A,V,h2⟩:=Option.bind_eq_some_iff.1 he;obtain⟨c,rfl,hq⟩:=F m zaa_ A _ h2 (xB_ Y.2.1 _ (yaU_ (ycP_ zaa_)));exact⟨c,V,hq⟩
    obtain⟨C,O⟩:=Deep.choose_lt K;refine⟨(List.range len).map C,some a,cap,by simp,?_,?_,by simpa using hl,J⟩
    . by_cases R:len=0
      . left;simp[R]
      . have V:=(O 0 zaa_).1
        obtain⟨_,_,d⟩:=World.cells?_some V;have v:=d 0 E;have N:0<(f (C 0)).length:=by rw[hk];exact E
        rw[yaa_ N]at v;cases hb:W.heap[a.block]? with
        | none=>simp[World.cell?,Addr.add,hb]at v
        | some o =>
          cases o with
          | cells arr T fz =>
            have q:a.spot=none:=by
              cases hsp2:a.spot with
              | none=>rfl
              | some s=>simp[World.cell?,Addr.add,hb,hsp2]at v
            obtain⟨b,off,sp⟩:=a;simp only at q hb;subst q;right
            refine⟨b,off,arr,T,fz,rfl,(yax_.1 hb).1,hb,λj y hj=>?_⟩
            have M:j<len*k:=by
              have:=(yac_.1 hj).1;rw[cr_ f k hk]at this;simpa using this
            have hi:j / k<len:=Nat.div_lt_of_lt_mul (by rw[Nat.mul_comm];exact M);have I:j%k<k:=ydA_ _ E;have e:j=(j / k)*k+j%k:=by rw[Nat.mul_comm];exact (Nat.div_add_mod j k).symm
            have L:((List.range len).map C)[j / k]? = some (C (j / k)):=by simp[hi]
            rw[e,kq_ f k hk _ (j / k) (j%k) _ L I]at hj;obtain⟨_,_,d⟩:=World.cells?_some (O (j / k) hi).1;have:=d (j%k) I;rw[hj,cp_,cp_]at this;rw[e];simpa [World.cell?,hb,ycG_] using this
          | _=>simp[World.cell?,Addr.add,hb]at v
    . intro c S
      obtain⟨i,hi,rfl⟩:=yap_.1 S;exact (O i (by simpa using hi)).2
end
instance:Inhabited Con:=⟨.mk 0 [] 0 0 none 0 []⟩
instance:Inhabited Ax:=⟨⟨0,false,default,default,none,0,[],[],[],[]⟩⟩
instance:Inhabited Pc:=⟨⟨0,[],[],[],[],[],[],0,0,0⟩⟩
structure Tys (P:Program) (tI tB tS tSs tC tCs tA tAs tP tPs:TypeId):Prop where
  i:P.underlying tI=some (.int .i64)
  b:P.underlying tB=some .bool
  s:P.underlying tS=some .string
  ss:P.underlying tSs=some (.slice tS)
  c:∃ fs,P.underlying tC=some (.struct fs)/\fs.toList.map (λf=>(f.type,f.offset))=[(tI,0),(tS,1),(tI,2),(tI,3),(tCs,4)]
  cs:P.underlying tCs=some (.slice tC)
  a:∃ fs,P.underlying tA=some (.struct fs)/\fs.toList.map (λf=>(f.type,f.offset))=[(tI,0),(tB,1),(tC,2),(tC,7),(tSs,12),(tS,13),(tS,14),(tS,15)]
  axs:P.underlying tAs=some (.slice tA)
  p:∃ fs,P.underlying tP=some (.struct fs)/\fs.toList.map (λf=>(f.type,f.offset))=[(tI,0),(tS,1),(tS,2),(tS,3),(tS,4),(tS,5),(tS,6),(tI,7),(tI,8),(tI,9)]
  ps:P.underlying tPs=some (.slice tP)
  ci:P.cellsOf tI=1
  cb:P.cellsOf tB=1
  cs1:P.cellsOf tS=1
  css:P.cellsOf tSs=1
  cc:P.cellsOf tC=5
  ccs:P.cellsOf tCs=1
  ca:P.cellsOf tA=16
  cp:P.cellsOf tP=10
  bs:P.bytesOf tS=16
  bc:P.bytesOf tC=64
  ba:P.bytesOf tA=216
  bp:P.bytesOf tP=128
section
variable {H:Type} {enc:TypeId×Value->H} {P:Program} {W:World} {tI tB tS tSs tC tCs tA tAs tP tPs:TypeId} (X:Tys P tI tB tS tSs tC tCs tA tAs tP tPs)
theorem fields_of {t:TypeId} {fs:Array Field} {L:List (TypeId×Nat)} {cs:List Value} {n:Nat} {x:DataW H×List MemPlace} (y:P.underlying t=some (.struct fs)) (v:fs.toList.map (λf=>(f.type,f.offset))=L) (h:DataW.trod enc P W 0 (λ_=>true) true n t cs=some x) :
    ∃ (xs:List (DataW H×List MemPlace)) (m:Nat),n=m+1/\x.1=.agg (xs.map (·.1))/\cs.length=P.cellsOf t/\xs.length=L.length/\(∀ (i:Nat) q,L[i]? = some q->DataW.trod enc P W 0 (λ_=>true) true m q.1 ((cs.drop q.2).take (P.cellsOf q.1))=xs[i]?)/\
      (x.1.weights P t=DataW.weightsEach P (L.map (·.1)) (xs.map (·.1))):=by
  obtain⟨xs,m,E,A,hl,d,C⟩:=DataW.trod_struct y h;refine⟨xs,m,E,by rw[A],hl,by rw[d,<-v];simp,λi q B=>?_,?_⟩
  . rw[<-v,yaH_,ycv_]at B
    obtain⟨f,e,rfl⟩:=B;exact C i f zbc_
  . rw[A];simp only[DataW.weights,y]
    congr 1
    rw[<-v,ycJ_];rfl
include X
theorem rb_ {n:Nat} {cs:List Value} {x:DataW H×List MemPlace} (h:DataW.trod enc P W 0 (λ_=>true) true n tI cs=some x):∃ k:Int,cs=[.int .i64 k]/\-9223372036854775808<=k/\k<=9223372036854775807:=by
  obtain⟨k,d,_,e⟩:=DataW.trod_int X.i h;have:=bounds_i64 e;exact⟨k,d,this.1,this.2⟩
theorem BY_ {n:Nat} {cs:List Value} {x:DataW H×List MemPlace} (h:DataW.trod enc P W 0 (λ_=>true) true n tB cs=some x):∃ b:Bool,cs=[.bool b]:=by
  obtain⟨b,d,_⟩:=DataW.trod_bool X.b h;exact⟨b,d⟩
theorem str_of {n:Nat} {cs:List Value} {x:DataW H×List MemPlace} (h:DataW.trod enc P W 0 (λ_=>true) true n tS cs=some x) (d:wok (x.1.weights P tS)):∃ s:Str,cs=[str s]/\s.length<=140737488351232:=by
  obtain⟨s,m,e,_⟩:=DataW.trod_string X.s h;rw[e]at d;simp[wok,DataW.weights,reachBytes]at d
  refine⟨s.data.toList,by rw[m];rfl,by have:=yaZ_ d;simpa using this⟩
theorem zF_:∀ (n:Nat) (cs:List Value) (x:DataW H×List MemPlace),DataW.trod enc P W 0 (λ_=>true) true n tC cs=some x->wok (x.1.weights P tC)->∃ c:Con,cs=c.cells/\c.mem (vw W)/\c.ok:=by
 intro n
 induction n using Nat.strongRecOn with
 | ind n ih =>
   intro cs x h A;obtain⟨fs,hu,hL⟩:=X.c;obtain⟨xs,m,hn,hx,hl,e,q,B⟩:=fields_of hu hL h;rw[B]at A
   match xs,e with
   | [x0,x1,x2,x3,x4],_ =>
   simp only[yay_,ybz_,DataW.weightsEach,ge_]at A;have J:=q 0 _ rfl;have L:=q 1 _ rfl;have N:=q 2 _ rfl;have T:=q 3 _ rfl;have R:=q 4 _ rfl;simp only[ybe_,ybu_,X.ci,X.cs1,X.ccs]at J L N T R;obtain⟨k,I,k1,k2⟩:=rb_ X J;obtain⟨nm,O,n1⟩:=str_of X L A.2.1;obtain⟨lo,M,l1,l2⟩:=rb_ X N;obtain⟨hi,Q,Z,V⟩:=rb_ X T
   obtain⟨l,ad,cap,S,v,K,F,d⟩:=qO_ Con.cells 5 Con.cells_len zae_ (λc=>c.mem (vw W)/\c.ok) X.cs X.cc (λm' U E y hy G=>by
     obtain⟨c,g1,Y,g3⟩:=ih m' zaa_ E y hy G;exact⟨c,g1,Y,g3⟩) R A.2.2.2.2.1
   rw[X.cc]at hl
   match cs,hl with
   | [c0,c1,c2,c3,c4],_ =>
   simp only[ycg_,ydf_,ybo_,ych_,ybE_,and_true]at I O M Q S;subst I O M Q S;refine⟨.mk k nm lo hi ad cap l,rfl,?_,k1,k2,n1,l1,l2,Z,V,F,?_,Con.oks_iff.2 λp C=>(K p C).2⟩
   . rw[Con.mem_iff];exact⟨v,λp C=>(K p C).1⟩
   . rw[X.bc]at d;simp only[reachBytes]at d;omega
theorem AB_ {n:Nat} {cs:List Value} {x:DataW H×List MemPlace} (h:DataW.trod enc P W 0 (λ_=>true) true n tSs cs=some x) (A:wok (x.1.weights P tSs)) :
    ∃ (l:List Str) (ad:Ao) (cap:Nat),cs=[.slice ad l.length cap]/\bG_ (vw W) ad (l.flatMap al_)/\(∀ s∈l,s.length<=140737488351232)/\l.length<=cap/\cap<=8796093021952:=by
  obtain⟨l,ad,cap,e,m,G,q,d⟩:=qO_ al_ 1 au_ zae_ (λs=>s.length<=140737488351232) X.ss X.cs1 (λI _ C y E v=>by
    obtain⟨s,B,F⟩:=str_of X E v;exact⟨s,B,F⟩) h A
  rw[X.bs]at d;simp only[reachBytes]at d;exact⟨l,ad,cap,e,m,G,q,by omega⟩
theorem ax_of {n:Nat} {cs:List Value} {x:DataW H×List MemPlace} (h:DataW.trod enc P W 0 (λ_=>true) true n tA cs=some x) (d:wok (x.1.weights P tA)):∃ a:Ax,cs=a.cells/\a.mem (vw W)/\a.ok:=by
  obtain⟨fs,hu,hL⟩:=X.a;obtain⟨xs,m,hn,hx,hl,v,e,B⟩:=fields_of hu hL h;rw[B]at d
  match xs,v with
  | [x0,x1,x2,x3,x4,x5,x6,x7],_ =>
  simp only[yay_,ybz_,DataW.weightsEach,ge_]at d;have G:=e 0 _ rfl;have K:=e 1 _ rfl;have O:=e 2 _ rfl;have T:=e 3 _ rfl;have S:=e 4 _ rfl;have M:=e 5 _ rfl;have N:=e 6 _ rfl;have I:=e 7 _ rfl;simp only[ybe_,ybu_,X.ci,X.cb,X.cs1,X.cc,X.css]at G K O T S M N I;obtain⟨k,C,k1,k2⟩:=rb_ X G;obtain⟨op,Q⟩:=BY_ X K;obtain⟨le,L,V,o2⟩:=zF_ X _ _ _ O d.2.2.1;obtain⟨ri,R,Z,o3⟩:=zF_ X _ _ _ T d.2.2.2.1;obtain⟨rs,ad,cap,U,A,hq,y,q⟩:=AB_ X S d.2.2.2.2.1;obtain⟨ro,E,Y⟩:=str_of X M d.2.2.2.2.2.1;obtain⟨a,J,n6⟩:=str_of X N d.2.2.2.2.2.2.1;obtain⟨b,F,n7⟩:=str_of X I d.2.2.2.2.2.2.2.1;rw[X.ca]at hl
  match cs,hl with
  | [c0,c1,c2,c3,c4,c5,c6,c7,c8,c9,c10,c11,c12,c13,c14,c15],_ =>
  simp only[ycg_,ydf_,ybo_,ych_,ybE_,and_true,Con.cells]at C Q L R U E J F;obtain⟨rfl,rfl,rfl,rfl,rfl⟩:=L;obtain⟨rfl,rfl,rfl,rfl,rfl⟩:=R;subst C Q U E J F;exact⟨⟨k,op,le,ri,ad,cap,rs,ro,a,b⟩,rfl,⟨V,Z,A⟩,⟨k1,k2,o2,o3,y,ybg_ y q,hq,Y,n6,n7⟩⟩
theorem axs_of {n:Nat} {cs:List Value} {x:DataW H×List MemPlace} (h:DataW.trod enc P W 0 (λ_=>true) true n tAs cs=some x) (C:wok (x.1.weights P tAs)) :
    ∃ (l:List Ax) (ad:Ao) (cap:Nat),cs=[.slice ad l.length cap]/\(cG_ ad l).p (vw W)/\(∀ y∈l,y.ok)/\l.length<=cap/\cap<=2199023255488:=by
  obtain⟨l,ad,cap,e,q,B,v,d⟩:=qO_ Ax.cells 16 Ax.cells_len zae_ (λa=>a.mem (vw W)/\a.ok) X.axs X.ca (λJ _ F y m A=>by
    obtain⟨a,E,G,I⟩:=ax_of X m A;exact⟨a,E,G,I⟩) h C
  rw[X.ba]at d;simp only[reachBytes]at d;exact⟨l,ad,cap,e,⟨q,λy m=>(B y m).1⟩,λy m=>(B y m).2,v,by omega⟩
end
end Go.Vs
namespace Go.Vs
open Go Go.Sx Go.ChangeShapes Go.WideShapes Go.ChangeAt Go.RowKit
section
variable {H:Type} {enc:TypeId×Value->H} {P:Program} {w:World}
mutual
def fh_ {H:Type}:DataW H->List Value
  | .lit (.int k n)=>[.int k n]
  | .lit (.bool b)=>[.bool b]
  | .agg ps=>kO_ ps
  | _=>[]
def kO_ {H:Type}:List (DataW H)->List Value
  | []=>[]
  | d::r=>fh_ d++kO_ r
end
def hE_ (P:Program):Nat->TypeId->Bool
  | 0,_=>false
  | n+1,t=>match P.underlying t with
    | some .bool=>true
    | some (.int _)=>true
    | some (.struct fs)=>fs.toList.all λf=>hE_ P n f.type
    | some (.array _ e)=>hE_ P n e
    | _=>false
theorem kh_:∀ l:List (DataW H),kO_ l=l.flatMap fh_
  | []=>by simp[kO_]
  | d::r=>by simp only[kO_,kh_ r,yaG_]
theorem tile:∀ (e:List Nat) (cs:List Value) (g:List (List Value)),cs.length=e.sum->g.length=e.length->(∀ j n,e[j]? = some n->some ((cs.drop (e.take j).sum).take n)=g[j]?)->cs=g.flatten
  | [],cs,g,h,hg,_=>by
    simp only[ydJ_]at h;have C:=yau_ h;have B:g=[]:=yau_ hg;simp[C,B]
  | n::e,cs,[],h,hg,hp=>by simp at hg
  | n::e,cs,x::g,h,hg,hp=>by
    have q:=hp 0 n rfl;simp only[ych_,ydJ_,ydf_,ybe_,yak_]at q
    have y:=tile e (cs.drop n) g (by rw[ycp_,h];simp) (by simpa using hg) (λj m A=>by
      have:=hp (j+1) m A;simp only[ybo_,ydq_,ybu_]at this;rw[<-this,List.drop_drop])
    rw[List.flatten_cons,<-y,<-q,ybK_]
theorem yx_ {T:TypeId->Prop} {E:Bool} (K:Kids P T):∀ (n m:Nat) (t:TypeId) (cs:List Value) (x:DataW H×List MemPlace),T t->hE_ P m t=true->DataW.trod enc P w 0 (λ_=>true) E n t cs=some x->cs=fh_ x.1:=by
 intro n
 induction n with
 | zero=>intro m t cs x _ _ h;simp[DataW.trod]at h
 | succ n ih =>
   intro m t cs x N C h;cases m with
   | zero=>simp[hE_]at C
   | succ m =>
   cases hu:P.underlying t with
   | none=>simp[hE_,hu]at C
   | some d =>
     cases d with
     | bool=>obtain⟨b,rfl,rfl⟩:=DataW.trod_bool hu h;simp[fh_]
     | int k=>obtain⟨b,rfl,rfl,_⟩:=DataW.trod_int hu h;simp[fh_]
     | struct fs =>
       obtain⟨xs,M,R,rfl,hl,y,J⟩:=DataW.trod_struct hu h;obtain rfl:M=n:=by omega
       obtain⟨k1,k2,Q⟩:=K.struct N hu;simp only[hE_,hu]at C;simp only[fh_];rw[kh_,List.flatMap_def,ycJ_];refine tile (fs.toList.map λf=>P.cellsOf f.type) cs _ (by rw[hl,k2]) (by simp[y]) λj q B=>?_;rw[yaH_,ycv_]at B;obtain⟨f,A,rfl⟩:=B;have F:=J j f zbd_;have O:=Q j f A;have I:j<xs.length:=by rw[y];have:=(yac_.1 A).1;simpa using this
       rw[yaa_ I]at F;have L:=ih m f.type _ _ (k1 f (yad_ A)) (yaW_.1 C f (yad_ A)) F;rw[yaH_,yaa_ I,<-List.map_take,<-O,L];rfl
     | array len e =>
       obtain⟨xs,M,R,rfl,hl,y,J⟩:=DataW.trod_array hu h;obtain rfl:M=n:=by omega
       obtain⟨k1,k2⟩:=K.array N hu;simp only[hE_,hu]at C;simp only[fh_];rw[kh_,List.flatMap_def,ycJ_];refine tile (List.replicate len (P.cellsOf e)) cs _ (by rw[hl,k2];simp) (by simp[y]) λj q B=>?_;rw[ycD_]at B
       split at B
       . rename_i I
         simp only[yak_]at B;subst B;have F:=J j I;have G:j<xs.length:=by omega
         rw[yaa_ G]at F;have L:=ih m e _ _ k1 C F;rw[yaH_,yaa_ G,List.take_replicate,List.sum_replicate_nat,ybL_ zaa_,L];rfl
       . cases B
     | _=>simp[hE_,hu]at C
end
section
variable {H:Type} {enc:TypeId×Value->H} {P:Program} {W W':World}
theorem jR_:∀ {ts:List TypeId} {vs:List Value} {ds:List (DataW H)} {ps:List MemPlace} {sp:Nat->Bool},DataW.TrodAll enc P W 0 sp true ts vs ds ps->(∀ p∈ps,W.sameAt W' p)->DataW.TrodAll enc P W' 0 sp true ts vs ds ps
  | [],[],[],_,_,h,_=>h
  | _::_,_::_,_::_,_,_,⟨p,q,⟨n,h1⟩,h2,e⟩,hs=>⟨p,q,⟨n,DataW.trod_carry n _ _ _ h1 (λx m=>hs x (by rw[e];exact yam_ _ m))⟩,jR_ h2 (λx m=>hs x (by rw[e];exact yaA_ _ m)),e⟩
theorem yP_ {T:TypeId->Prop} (K:Kids P T) (hz:∀ t e,T t->P.underlying t=some (.slice e)->0<P.cellsOf e) {f:Func} {s:ChangeSpec} {args:Array Value} {J:List (DataW H)} {before:List MemPlace} {V:TypeId} (S:∀ t∈f.params.toList,T t) (m:s.vars=[])
    (U:DataW.Whole enc P f.params.toList s.vars false W args.toList J [] before) (Q:s.fn H (J++[])={ results:=[.lit (.bool true)],args:=J }) (G:f.resultTypes=#[V]) (L:P.underlying V=some .bool) {I:Vw} (B:(vw W).to [] I []) :
    s.post enc P f false true false false W args (.bool true) I.w:=by
  have N:=U;obtain⟨p,q,M,Z,Y,_,_⟩:=U;have hq:q=[]:=by rw[m]at Z;exact Z
  subst hq;simp only[yaw_]at Y;subst Y;have y:∀ b,b<W.heap.size->I.w.heap[b]? = W.heap[b]? := λb L=>B.block b L zaj_
  have C:∀ x∈before,W.sameAt I.w x:=λx R=>by
    have E:=DataW.TrodAll.lt M x R;cases x with
    | cell b off=>exact World.cell?_of_block (y b E)
    | map b=>exact y b E
  have O:=jR_ M C;have F:=DataW.TrodAll.respare K hz (spare':=λb=>decide (b<W.heap.size)) S O (λx R=>by simpa using DataW.TrodAll.lt M x R);refine⟨J,[],before,[],before,[],N,?_,?_,?_,⟨B.os,B.output,λi hi=>?_⟩,λh=>by cases h⟩
  . rw[Q,G];exact trodAll_mk1 (shut_bool L true)
  . rw[Q];exact F
  . rw[Q,m];rfl
  . rw[y i hi]
    have A:∃ o,W.heap[i]? = some o:=⟨_,ybR_ hi⟩;obtain⟨o,ho⟩:=A;rw[ho];cases o<;>simp
section
variable {tI tB tS tSs tC tCs tA tAs tP tPs:TypeId} (X:Tys P tI tB tS tSs tC tCs tA tAs tP tPs) {base:Nat} {v:Value} {d:DataW H} {ps:List MemPlace}
include X
theorem Ce_ (m:Value.okWide P W .any base tAs v) (h:DataW.Trod enc P W 0 (λ_=>true) true tAs v d ps) (x:wok (d.weights P tAs)) :
    ∃ (l:List Ax) (ad:Ao) (cap:Nat),v=.slice ad l.length cap/\(cG_ ad l).p (vw W)/\(∀ y∈l,y.ok)/\l.length<=cap/\cap<=2199023255488:=by
  obtain⟨a,len,cap,rfl⟩:=okWide_slice X.axs m;obtain⟨n,B⟩:=h;obtain⟨l,ad,q,e,A⟩:=axs_of X B x;simp only[Value.cells,ybE_,and_true]at e;exact⟨l,ad,q,e,A⟩
theorem rI_ (m:Value.okWide P W .any base tS v) (h:DataW.Trod enc P W 0 (λ_=>true) true tS v d ps) (q:wok (d.weights P tS)):∃ s:Str,v=str s/\s.length<=140737488351232:=by
  obtain⟨A,rfl⟩:=okWide_string X.s m;obtain⟨n,y⟩:=h;obtain⟨s,e,x⟩:=str_of X y q;simp only[Value.cells,ybE_,and_true]at e;exact⟨s,e,x⟩
end
theorem kE_ {T:TypeId->Prop} (K:Kids P T) {name:String} {d:DataW Unit} {y:List (String×DataW Unit)} {W:World} (h:laidMet P y W) (hm:(name,d)∈y) {g:Nat} {t:TypeId} (M:P.globalNamed name=some g) (G:(P.globals[g]?).map (·.type)=some t) (O:T t) {m:Nat} (N:hE_ P m t=true) :
    ∃ J fz,W.heap[g]? = some (.cells (fh_ d).toArray J fz):=by
  obtain⟨ps,hl,_,_⟩:=h
  have I:∀ (l:List (String×DataW Unit)) (ps:List MemPlace),DataW.LaidVars P W l ps->(name,d)∈l->∃ g t cs n p,P.globalNamed name=some g/\(P.globals[g]?).map (·.type)=some t/\W.var? P name=some cs/\DataW.trod (λ_=>()) P W 0 (λ_=>true) false n t cs.toList=some (d,p):=by
    intro l
    induction l with
    | nil=>intro ps _ h;cases h
    | cons x r ih =>
      intro ps h hm;obtain⟨n',U⟩:=x;obtain⟨g,t,cs,B,p,q,F,C,A,E,Q,_⟩:=h;rcases yan_.1 hm with e|hm
      . cases e;exact⟨g,t,cs,B,p,F,C,A,E⟩
      . exact ih q Q hm
  obtain⟨R,L,cs,n,p,F,C,A,E⟩:=I y ps hl hm;obtain rfl:R=g:=ybl_ (F.symm.trans M);obtain rfl:L=t:=ybl_ (C.symm.trans G);have e:=yx_ K n m L cs.toList _ O N E;simp only[World.var?,M,Option.bind_some]at A
  split at A
  . rename_i c J fz S
    simp only[yak_]at A;subst A;exact⟨J,fz,by rw[S,<-e]⟩
  . cases A
end
end Go.Vs
