/-
  Lemmas for the law TopChanges (no condition).
-/
import Derived.Test.YtfjcabalehamcaaGreatDoorQTopChanges4
set_option linter.unusedVariables false
set_option linter.unusedSimpArgs false
set_option linter.unusedSectionVars false
set_option maxHeartbeats 1000000
namespace Go.Proofs.YtfjcabalehamcaaGreatDoor
open Go Go.Sx Go.Proofs Tryz
attribute [local irreducible] Code.wp wpList wpAnyH
open Go.Vs
theorem AA_ (x:Ax) (K:x.ok) (hc:x.check=0) {kb:Nat} (frm:Int) (q:CS) (hq:CInv [] q) :
    Tri prog 20 #[zp_ kb 0,x.val] (fp_ kb frm q) [x.memF,bB_] (λ_:{q':CS // CInv (x.pieces frm) q'}=>.tuple #[]) (λq'=>fp_ kb frm q'.1) (λ_=>[]):=by
  have G:=Ax.good_of hc;obtain⟨k,U,⟨kl,H,I,hl,al,cl,pl⟩,⟨C,A,E,B,d,y,m⟩,ad,cap,L,N,a,b⟩:=x;have hlen:=K.len;have hcap:=K.cap;have h_1:=G.k1;have h_2:=G.k9;have h_3:([]:List Pc).length=0:=rfl;dsimp only at hlen hcap h_1 h_2;show Tri prog 20 #[zp_ kb 0,.agg (Ax.cells (Ax.mk k U (Con.mk kl H I hl al cl pl) (Con.mk C A E B d y m) ad cap L N a b)).toArray] _ _ _ _ _
  refine g_ func20 rfl rfl ntmps20 rfl λv_1=>?_;refine Zz 2 ?_;refine F_ rfl rfl λR=>Zz 5 ?_
  refine f_ (po_ kb) rfl (.refl _) zt rfl λx=>?_;obtain⟨bk,bl,br⟩:=x;refine Zj 16 (λhr_1=>?_) λhr_1=>?_
  . refine Zj 6 (λhr_2=>?_) λhr_2=>?_
    . refine Zj 6 (λhr_3=>?_) λhr_3=>?_
      . refine Zj 6 (λhr_4=>?_) λhr_4=>?_
        . refine Zj 6 (λhr_5=>?_) λhr_5=>?_
          . refine Zj 6 (λW=>?_) λW=>?_
            . refine Zj 6 (λV=>?_) λV=>?_
              . refine Zj 6 (λhr_8=>?_) λhr_8=>?_
                . refine Zj 6 (λZ=>?_) λZ=>?_
                  . exfalso;omega
                  . refine Zz 4 ?_;refine V_ [(R,.cells (Ax.cells (Ax.mk k U (Con.mk kl H I hl al cl pl) (Con.mk C A E B d y m) ad cap L N a b)).toArray 51 (0,0))] zk ?_;refine s_ 5 [0,1,2,4,5,6,7] zk (λ_ a b=>⟨Vw.sat.sub a,b⟩) (Zz 8 ?_);refine l_ 3 rfl zk (f_ (ch_ a K.a) rfl (.refl _) zt rfl λ_=>Zz 2 ?_);refine H_ (λ_ a b=>⟨Vw.sat.sub a,b⟩) (l_ 8 rfl zk (f_ (ch_ b K.b) rfl (.refl _) zt rfl λ_=>Zz 2 ?_));refine H_ (λ_ a b=>⟨Vw.sat.sub a,b⟩) (s_ 2 [9] zk (λ_ a b=>⟨Vw.sat.sub a,b⟩) (S_ rfl (w_ cU_ rfl rfl) rfl (bt_ (l_ 10 rfl zk (M_ z_ A_ O_ rfl rfl rfl rfl rfl rfl λT=>Zz 2 ?_)))));refine H_ (λ_ a b=>⟨Vw.sat.sub a.tail,b⟩) (l_ 11 rfl zk (f_ (cV_ ⟨3,([123]++a++[125]),[],([123]++b++[125]),N,[],[],0,0,0⟩ frm [] q hq zaa_) rfl (.cons _ (@List.perm_append_comm _ [_] _)) zt rfl λx=>?_));obtain⟨M,J⟩:=x;refine t_ (@List.perm_append_comm _ _ [_]) (Zz 2 ?_);refine H_ (λ_ a b=>⟨Vw.sat.sub a,b⟩) (Zz 2 ?_)
                    have e:Ax.pieces frm ⟨k,U,(.mk kl H I hl al cl pl),(.mk C A E B d y m),ad,cap,L,N,a,b⟩=(ins frm [] ⟨3,([123]++a++[125]),[],([123]++b++[125]),N,[],[],0,0,0⟩):=by
                      unfold Ax.pieces;dsimp only
                      repeat (first|rfl|(rw[yaq_ zaa_])|(rw[yaf_ zaa_]))
                    exact bK_ ew_ ⟨M,by rw[e];exact J⟩ rfl (F:=[_]) (@List.perm_append_comm _ [_] _) zt
                . obtain⟨fr,zr⟩:=Con.check_zero (G.right zaU_);dsimp only at fr zr;refine Zz 9 ?_;refine T_ (ev_ (kb:=kb) (bk:=bk) (bs:=br) _ (.mk C A E B d y m) (yae_ _) K.right fr [] q hq zaa_) rfl rfl (@List.perm_append_comm _ [_] _) (λv _ h=>by exact⟨h.2.2.2.1.2.1,h.2.2.2.2.1,h.1,h.2.2.1,trivial⟩) rfl λx=>?_;obtain⟨M,J⟩:=x;have S:=Con.rightP_len frm _ (.mk C A E B d y m) (yae_ _) [];refine t_ (@List.perm_append_comm _ _ [_]) (Zz 2 ?_);refine V_ [(R,.cells (Ax.cells (Ax.mk k U (Con.mk kl H I hl al cl pl) (Con.mk C A E B d y m) ad cap L N a b)).toArray 51 (0,0))] zk ?_;refine s_ 5 [0,1,2,4,5] zk (λ_ a b=>⟨Vw.sat.sub a,b⟩) (Zz 6 ?_);refine l_ 3 rfl zk (f_ (ch_ a K.a) rfl (.refl _) zt rfl λ_=>Zz 2 ?_);refine H_ (λ_ a b=>⟨Vw.sat.sub a,b⟩) (l_ 6 rfl zk (f_ (bL_ (.mk C A E B d y m) K.right) rfl (.refl _) (λv _ h=>⟨h.2.2.2.1.2.1,h.2.2.2.2.1,trivial⟩) rfl λ_=>Zz 2 ?_));refine H_ (λ_ a b=>⟨Vw.sat.sub a,b⟩) (s_ 2 [7] zk (λ_ a b=>⟨Vw.sat.sub a,b⟩) (S_ rfl (w_ cU_ rfl rfl) rfl (bt_ (l_ 8 rfl zk (M_ z_ A_ O_ rfl rfl rfl rfl rfl rfl λT=>Zz 2 ?_)))));refine H_ (λ_ a b=>⟨Vw.sat.sub a.tail,b⟩) (l_ 9 rfl zk (f_ (cV_ ⟨1,([123]++a++[125]),[],(Con.atom (.mk C A E B d y m)),[],[],[],0,0,0⟩ frm (Con.rightP frm (.mk C A E B d y m) []) M J zaa_) rfl (.cons _ (@List.perm_append_comm _ [_] _)) zt rfl λx=>?_));obtain⟨P,O⟩:=x;refine t_ (@List.perm_append_comm _ _ [_]) (Zz 2 ?_);refine H_ (λ_ a b=>⟨Vw.sat.sub a,b⟩) (Zz 2 ?_)
                  have e:Ax.pieces frm ⟨k,U,(.mk kl H I hl al cl pl),(.mk C A E B d y m),ad,cap,L,N,a,b⟩=(ins frm (Con.rightP frm (.mk C A E B d y m) []) ⟨1,([123]++a++[125]),[],(Con.atom (.mk C A E B d y m)),[],[],[],0,0,0⟩):=by
                    unfold Ax.pieces;dsimp only
                    repeat (first|rfl|(rw[yaq_ zaa_])|(rw[yaf_ zaa_]))
                  exact bK_ ew_ ⟨P,by rw[e];exact O⟩ rfl (F:=[_]) (@List.perm_append_comm _ [_] _) zt
              . refine Zz 8 ?_;refine e_ (w_ cU_ rfl rfl) rfl (M_ z_ A_ O_ rfl rfl rfl rfl rfl rfl λT=>f_ (cV_ ⟨7,[],[],[],N,[],[],0,0,0⟩ frm [] q hq zaa_) rfl (.cons _ (@List.perm_append_comm _ [_] _)) zt rfl λx=>?_);obtain⟨M,J⟩:=x;refine t_ (@List.perm_append_comm _ _ [_]) (Zz 2 ?_)
                have e:Ax.pieces frm ⟨k,U,(.mk kl H I hl al cl pl),(.mk C A E B d y m),ad,cap,L,N,a,b⟩=(ins frm [] ⟨7,[],[],[],N,[],[],0,0,0⟩):=by
                  unfold Ax.pieces;dsimp only
                  repeat (first|rfl|(rw[yaq_ zaa_])|(rw[yaf_ zaa_]))
                exact bK_ ew_ ⟨M,by rw[e];exact J⟩ rfl (F:=[_]) (@List.perm_append_comm _ [_] _) zt
            . have hch:=G.chain W;dsimp only at hch;have a3:0<L.length:=by omega
              obtain⟨Q,V⟩:∃ Q,L[0]? = some Q:=⟨_,yaa_ a3⟩;refine Zz 8 ?_;refine e_ (Y_ B_ U_ rfl rfl (λv _ h=>az_ (n:=1) aO_ zac_ (h.2.2.2.1.2.2) V) zaa_ zaf_) rfl ?_;refine Zz 8 ?_;refine e_ (di_ (i:=1) (j:=L.length) (kl:=.i64) (kh:=.i64) B_ U_ rfl rfl rfl zaa_ zaa_) rfl (Zz 5 ?_);refine bh_ [(0,zp_ kb 0),(3,zp_ R 0),(6,str Q),(130,.slice (sad ad cap 1 1) (L.length - 1) (cap - 1)),(131,i4_ ((L.length - 1:Nat):Int)),(132,i4_ ((0:Nat):Int))] zl ?_;have hr_8:=Con.plain_len (G.roles Q (yac_ V));refine bF_ (ι:={x:Nat×Str×List Pc×CS // x.1<=L.length - 1/\CInv x.2.2.1 x.2.2.2/\x.2.2.1.length<=x.1/\x.2.1.length<=30*(x.1+1)/\Ax.chainP frm N (L.drop 1) Q []=Ax.chainP frm N (L.drop (1+x.1)) x.2.1 x.2.2.1}) (λx=>[(0,zp_ kb 0),(3,zp_ R 0),(6,str x.1.2.1),(130,.slice (sad ad cap 1 1) (L.length - 1) (cap - 1)),(131,i4_ ((L.length - 1:Nat):Int)),(132,i4_ x.1.1)]) (λx=>_::fp_ kb frm x.1.2.2.2) (λ_=>_) (λx=>L.length - 1 - x.1.1) ⟨(0,Q,[],q),by simp,hq,by simp,by simp;omega,rfl⟩ ?_;rintro ⟨⟨i,f,Y,M⟩,hj⟩;dsimp only at hj;refine bh_ [(0,zp_ kb 0),(3,zp_ R 0),(6,str f),(130,.slice (sad ad cap 1 1) (L.length - 1) (cap - 1)),(131,i4_ ((L.length - 1:Nat):Int)),(132,i4_ i)] zl ?_;refine Zj 2 (λZ=>?_) λZ=>?_
              . refine Zz 6 ?_
                have e:Ax.pieces frm ⟨k,U,(.mk kl H I hl al cl pl),(.mk C A E B d y m),ad,cap,L,N,a,b⟩=Ax.chainP frm N (L.drop 1) Q []:=by
                  unfold Ax.pieces;dsimp only;rw[rE_ V]
                  repeat (first|rfl|(rw[yaq_ zaa_])|(rw[yaf_ zaa_]))
                have e_1:=hj.2.2.2.2;rw[yaP_ (show L.length<=1+i by omega)]at e_1;rw[e_1]at e;exact bK_ ew_ ⟨M,by rw[e];exact hj.2.1⟩ rfl (F:=[_]) (@List.perm_append_comm _ [_] _) zt
              . have hlt:i<L.length - 1:=by omega
                obtain⟨g,hp⟩:∃ g,(L.drop 1)[i]? = some g:=⟨_,yaa_ zal_⟩;have a0:L[1+i]? = some g:=by rw[<-ybP_];exact hp
                have hg:=Con.plain_len (G.roles g (yac_ a0));have hro:=Con.plain_len (G.role (by show k=4\/k=5\/k=6\/k=7\/k=9;omega));dsimp only at hro;refine Zz 11 ?_;refine e_ (Y_ B_ U_ rfl rfl (λv _ h=>az_ (n:=1) aO_ zac_ (bl_.rest aO_ h.2.2.2.1.2.2 K.len 1) hp) zaa_ zaf_) rfl ?_;refine e_ (bN_ (ad:=(sad ad cap 1 1)) ae_ rfl (λv _ h=>bl_.rest aO_ h.2.2.2.1.2.2 K.len 1) (y_ aO_ hp 0 _ rfl)) rfl (Zj 19 (λhr_10=>?_) λhr_10=>?_)
                . refine Zz 11 ?_;refine e_ (w_ cU_ rfl rfl) rfl (M_ z_ A_ O_ rfl rfl rfl rfl rfl rfl λT=>f_ (cV_ ⟨6,[],[],[],f,g,N,0,0,0⟩ frm Y M hj.2.1 zaa_) rfl (.cons _ (@List.perm_append_comm _ [_] _)) zt rfl λx=>?_);obtain⟨P,J⟩:=x;have S:=bC_ frm Y ⟨6,[],[],[],f,g,N,0,0,0⟩;refine t_ (@List.perm_append_comm _ _ [_]) (Zz 12 ?_);have a4:=hI_ a0;have a2:(L.drop (1+i+1)=[])↔¬ (i+2<L.length):=by rw[ydd_];omega
                  exact C_ ⟨(i+1,N,(ins frm Y ⟨6,[],[],[],f,g,N,0,0,0⟩),P),by dsimp only;omega,J,by dsimp only;omega,by dsimp only;omega,by rw[hj.2.2.2.2,a4];simp only[Ax.chainP];rw[yaq_ (by rw[a2];omega),show 1+(i+1)=1+i+1 by omega]⟩ zal_ zl (F:=[]) zaC_ zh
                . refine Zz 5 ?_;refine e_ (ct_ rfl rfl zah_) rfl ?_;refine Zz 1 ?_;refine e_ (ct_ rfl rfl zah_) rfl ?_;refine Zz 9 ?_;refine e_ (w_ cU_ rfl rfl) rfl (M_ z_ A_ O_ rfl rfl rfl rfl rfl rfl λT=>f_ (cV_ ⟨6,[],[],[],f,g,(f++[46])++g,0,0,0⟩ frm Y M hj.2.1 zaa_) rfl (.cons _ (@List.perm_append_comm _ [_] _)) zt rfl λx=>?_);obtain⟨P,J⟩:=x;have S:=bC_ frm Y ⟨6,[],[],[],f,g,(f++[46])++g,0,0,0⟩;refine t_ (@List.perm_append_comm _ _ [_]) (Zz 12 ?_);have a4:=hI_ a0;have a2:(L.drop (1+i+1)=[])↔¬ (i+2<L.length):=by rw[ydd_];omega
                  exact C_ ⟨(i+1,(f++[46])++g,(ins frm Y ⟨6,[],[],[],f,g,(f++[46])++g,0,0,0⟩),P),by dsimp only;omega,J,by dsimp only;omega,by simp only[yaj_,yai_,yaB_];omega,by rw[hj.2.2.2.2,a4];simp only[Ax.chainP];rw[yaf_ (by rw[a2];omega),show 1+(i+1)=1+i+1 by omega]⟩ zal_ zl (F:=[]) zaC_ zh
          . have a3:0<L.length:=by have:=G.one hr_5;dsimp only at this;omega
            obtain⟨Q,W⟩:∃ Q,L[0]? = some Q:=⟨_,yaa_ a3⟩;refine Zz 4 ?_;refine V_ [(R,.cells (Ax.cells (Ax.mk k U (Con.mk kl H I hl al cl pl) (Con.mk C A E B d y m) ad cap L N a b)).toArray 51 (0,0))] zk ?_;refine s_ 2 [0,1,2,3,4,5,6,7] zk (λ_ a b=>⟨Vw.sat.sub a,b⟩) (Zz 3 ?_);refine S_ rfl (Y_ B_ U_ rfl rfl (λv _ h=>az_ (n:=1) aO_ zac_ (h.2.2.2.1.2.2) W) zaa_ zaf_) rfl ?_;refine Zz 3 ?_;refine S_ rfl (w_ cU_ rfl rfl) rfl (bt_ (l_ 8 rfl zk (M_ z_ A_ O_ rfl rfl rfl rfl rfl rfl λT=>Zz 2 ?_)));refine H_ (λ_ a b=>⟨Vw.sat.sub a.tail,b⟩) (l_ 9 rfl zk (f_ (cV_ ⟨5,[],[],[],Q,[],N,0,0,0⟩ frm [] q hq zaa_) rfl (.cons _ (@List.perm_append_comm _ [_] _)) zt rfl λx=>?_));obtain⟨M,J⟩:=x;refine t_ (@List.perm_append_comm _ _ [_]) (Zz 2 ?_);refine H_ (λ_ a b=>⟨Vw.sat.sub a,b⟩) (Zz 2 ?_)
            have e:Ax.pieces frm ⟨k,U,(.mk kl H I hl al cl pl),(.mk C A E B d y m),ad,cap,L,N,a,b⟩=(ins frm [] ⟨5,[],[],[],Q,[],N,0,0,0⟩):=by
              unfold Ax.pieces;dsimp only;rw[rE_ W]
              repeat (first|rfl|(rw[yaq_ zaa_])|(rw[yaf_ zaa_]))
            exact bK_ ew_ ⟨M,by rw[e];exact J⟩ rfl (F:=[_]) (@List.perm_append_comm _ [_] _) zt
        . obtain⟨fr,zr⟩:=Con.check_zero (G.right zaU_);dsimp only at fr zr;refine Zz 9 ?_;refine T_ (ev_ (kb:=kb) (bk:=bk) (bs:=br) _ (.mk C A E B d y m) (yae_ _) K.right fr [] q hq zaa_) rfl rfl (@List.perm_append_comm _ [_] _) (λv _ h=>by exact⟨h.2.2.2.1.2.1,h.2.2.2.2.1,h.1,h.2.2.1,trivial⟩) rfl λx=>?_;obtain⟨M,J⟩:=x;have S:=Con.rightP_len frm _ (.mk C A E B d y m) (yae_ _) [];refine t_ (@List.perm_append_comm _ _ [_]) (Zz 2 ?_);refine V_ [(R,.cells (Ax.cells (Ax.mk k U (Con.mk kl H I hl al cl pl) (Con.mk C A E B d y m) ad cap L N a b)).toArray 51 (0,0))] zk ?_;refine s_ 4 [0,1,2,3,4] zk (λ_ a b=>⟨Vw.sat.sub a,b⟩) (Zz 6 ?_);refine l_ 5 rfl zk (f_ (bL_ (.mk C A E B d y m) K.right) rfl (.refl _) (λv _ h=>⟨h.2.2.2.1.2.1,h.2.2.2.2.1,trivial⟩) rfl λ_=>Zz 2 ?_);refine H_ (λ_ a b=>⟨Vw.sat.sub a,b⟩) (s_ 2 [6] zk (λ_ a b=>⟨Vw.sat.sub a,b⟩) (S_ rfl (w_ cU_ rfl rfl) rfl (bt_ (l_ 7 rfl zk (M_ z_ A_ O_ rfl rfl rfl rfl rfl rfl λT=>Zz 2 ?_)))));refine H_ (λ_ a b=>⟨Vw.sat.sub a.tail,b⟩) (l_ 8 rfl zk (f_ (cV_ ⟨4,[42],[],(Con.atom (.mk C A E B d y m)),N,[],[],0,0,0⟩ frm (Con.rightP frm (.mk C A E B d y m) []) M J zaa_) rfl (.cons _ (@List.perm_append_comm _ [_] _)) zt rfl λx=>?_));obtain⟨P,O⟩:=x;refine t_ (@List.perm_append_comm _ _ [_]) (Zz 2 ?_);refine H_ (λ_ a b=>⟨Vw.sat.sub a,b⟩) (Zz 2 ?_)
          have e:Ax.pieces frm ⟨k,U,(.mk kl H I hl al cl pl),(.mk C A E B d y m),ad,cap,L,N,a,b⟩=(ins frm (Con.rightP frm (.mk C A E B d y m) []) ⟨4,[42],[],(Con.atom (.mk C A E B d y m)),N,[],[],0,0,0⟩):=by
            unfold Ax.pieces;dsimp only
            repeat (first|rfl|(rw[yaq_ zaa_])|(rw[yaf_ zaa_]))
          exact bK_ ew_ ⟨P,by rw[e];exact O⟩ rfl (F:=[_]) (@List.perm_append_comm _ [_] _) zt
      . obtain⟨fl,zl⟩:=Con.check_zero (G.left (by show k<=3;omega));dsimp only at fl zl;obtain⟨fr,zr⟩:=Con.check_zero (G.right zaU_);dsimp only at fr zr;refine Zz 9 ?_;refine T_ (gd_ (kb:=kb) (bk:=bk) (bs:=bl) _ (.mk kl H I hl al cl pl) (yae_ _) K.left fl [] q hq zaa_) rfl rfl (@List.perm_append_comm _ [_] _) (λv _ h=>by exact⟨h.2.2.2.1.1,h.2.2.2.2.1,h.1,h.2.1,trivial⟩) rfl λx=>?_;obtain⟨M,J⟩:=x;have S:=Con.leftP_len frm _ (.mk kl H I hl al cl pl) (yae_ _) [];refine t_ (@List.perm_append_comm _ _ [_]) (Zz 7 ?_);refine T_ (gd_ (kb:=kb) (bk:=bk) (bs:=bl) _ (.mk C A E B d y m) (yae_ _) K.right fr (Con.leftP frm (.mk kl H I hl al cl pl) []) M J zaa_) rfl rfl (@List.perm_append_comm _ [_] _) (λv _ h=>by exact⟨h.2.2.2.1.2.1,h.2.2.2.2.1,h.1,h.2.1,trivial⟩) rfl λx=>?_;obtain⟨P,O⟩:=x;have hb_2:=Con.leftP_len frm _ (.mk C A E B d y m) (yae_ _) (Con.leftP frm (.mk kl H I hl al cl pl) []);refine t_ (@List.perm_append_comm _ _ [_]) (Zz 2 ?_);refine V_ [(R,.cells (Ax.cells (Ax.mk k U (Con.mk kl H I hl al cl pl) (Con.mk C A E B d y m) ad cap L N a b)).toArray 51 (0,0))] zk ?_;refine s_ 5 [0,1,2,4,5] zk (λ_ a b=>⟨Vw.sat.sub a,b⟩) (Zz 6 ?_);refine l_ 3 rfl zk (f_ (bL_ (.mk kl H I hl al cl pl) K.left) rfl (.refl _) (λv _ h=>⟨h.2.2.2.1.1,h.2.2.2.2.1,trivial⟩) rfl λ_=>Zz 2 ?_);refine H_ (λ_ a b=>⟨Vw.sat.sub a,b⟩) (l_ 6 rfl zk (f_ (bL_ (.mk C A E B d y m) K.right) rfl (.refl _) (λv _ h=>⟨h.2.2.2.1.2.1,h.2.2.2.2.1,trivial⟩) rfl λ_=>Zz 2 ?_));refine H_ (λ_ a b=>⟨Vw.sat.sub a,b⟩) (s_ 2 [7] zk (λ_ a b=>⟨Vw.sat.sub a,b⟩) (S_ rfl (w_ cU_ rfl rfl) rfl (bt_ (l_ 8 rfl zk (M_ z_ A_ O_ rfl rfl rfl rfl rfl rfl λT=>Zz 2 ?_)))));refine H_ (λ_ a b=>⟨Vw.sat.sub a.tail,b⟩) (l_ 9 rfl zk (f_ (cV_ ⟨2,(Con.atom (.mk kl H I hl al cl pl)),(Con.atom (.mk C A E B d y m)),[33],[],[],[],0,0,0⟩ frm (Con.leftP frm (.mk C A E B d y m) (Con.leftP frm (.mk kl H I hl al cl pl) [])) P O zaa_) rfl (.cons _ (@List.perm_append_comm _ [_] _)) zt rfl λx=>?_));obtain⟨a1,X⟩:=x;refine t_ (@List.perm_append_comm _ _ [_]) (Zz 2 ?_);refine H_ (λ_ a b=>⟨Vw.sat.sub a,b⟩) (Zz 2 ?_)
        have e:Ax.pieces frm ⟨k,U,(.mk kl H I hl al cl pl),(.mk C A E B d y m),ad,cap,L,N,a,b⟩=(ins frm (Con.leftP frm (.mk C A E B d y m) (Con.leftP frm (.mk kl H I hl al cl pl) [])) ⟨2,(Con.atom (.mk kl H I hl al cl pl)),(Con.atom (.mk C A E B d y m)),[33],[],[],[],0,0,0⟩):=by
          unfold Ax.pieces;dsimp only
          repeat (first|rfl|(rw[yaq_ zaa_])|(rw[yaf_ zaa_]))
        exact bK_ ew_ ⟨a1,by rw[e];exact X⟩ rfl (F:=[_]) (@List.perm_append_comm _ [_] _) zt
    . obtain⟨fl,zl⟩:=Con.check_zero (G.left (by show k<=3;omega));dsimp only at fl zl;obtain⟨fr,zr⟩:=Con.check_zero (G.right zaU_);dsimp only at fr zr;refine Zz 9 ?_;refine T_ (gd_ (kb:=kb) (bk:=bk) (bs:=bl) _ (.mk kl H I hl al cl pl) (yae_ _) K.left fl [] q hq zaa_) rfl rfl (@List.perm_append_comm _ [_] _) (λv _ h=>by exact⟨h.2.2.2.1.1,h.2.2.2.2.1,h.1,h.2.1,trivial⟩) rfl λx=>?_;obtain⟨M,J⟩:=x;have S:=Con.leftP_len frm _ (.mk kl H I hl al cl pl) (yae_ _) [];refine t_ (@List.perm_append_comm _ _ [_]) (Zz 7 ?_);refine T_ (ev_ (kb:=kb) (bk:=bk) (bs:=br) _ (.mk C A E B d y m) (yae_ _) K.right fr (Con.leftP frm (.mk kl H I hl al cl pl) []) M J zaa_) rfl rfl (@List.perm_append_comm _ [_] _) (λv _ h=>by exact⟨h.2.2.2.1.2.1,h.2.2.2.2.1,h.1,h.2.2.1,trivial⟩) rfl λx=>?_;obtain⟨P,O⟩:=x;have hb_2:=Con.rightP_len frm _ (.mk C A E B d y m) (yae_ _) (Con.leftP frm (.mk kl H I hl al cl pl) []);refine t_ (@List.perm_append_comm _ _ [_]) (Zz 3 ?_);refine V_ [(R,.cells (Ax.cells (Ax.mk k U (Con.mk kl H I hl al cl pl) (Con.mk C A E B d y m) ad cap L N a b)).toArray 51 (0,0))] zk ?_;refine s_ 5 [0,1,2,4,5] zk (λ_ a b=>⟨Vw.sat.sub a,b⟩) (Zz 6 ?_);refine l_ 3 rfl zk (f_ (bL_ (.mk kl H I hl al cl pl) K.left) rfl (.refl _) (λv _ h=>⟨h.2.2.2.1.1,h.2.2.2.2.1,trivial⟩) rfl λ_=>Zz 2 ?_);refine H_ (λ_ a b=>⟨Vw.sat.sub a,b⟩) (l_ 6 rfl zk (f_ (bL_ (.mk C A E B d y m) K.right) rfl (.refl _) (λv _ h=>⟨h.2.2.2.1.2.1,h.2.2.2.2.1,trivial⟩) rfl λ_=>Zz 2 ?_));refine H_ (λ_ a b=>⟨Vw.sat.sub a,b⟩) (s_ 2 [7] zk (λ_ a b=>⟨Vw.sat.sub a,b⟩) (S_ rfl (w_ cU_ rfl rfl) rfl (bt_ (l_ 8 rfl zk (M_ z_ A_ O_ rfl rfl rfl rfl rfl rfl λT=>Zz 2 ?_)))));refine H_ (λ_ a b=>⟨Vw.sat.sub a.tail,b⟩) (l_ 9 rfl zk (f_ (cV_ ⟨1,(Con.atom (.mk kl H I hl al cl pl)),[],(Con.atom (.mk C A E B d y m)),[],[],[],0,0,0⟩ frm (Con.rightP frm (.mk C A E B d y m) (Con.leftP frm (.mk kl H I hl al cl pl) [])) P O zaa_) rfl (.cons _ (@List.perm_append_comm _ [_] _)) zt rfl λx=>?_));obtain⟨a1,X⟩:=x;have hb_3:=bC_ frm (Con.rightP frm (.mk C A E B d y m) (Con.leftP frm (.mk kl H I hl al cl pl) [])) ⟨1,(Con.atom (.mk kl H I hl al cl pl)),[],(Con.atom (.mk C A E B d y m)),[],[],[],0,0,0⟩;refine t_ (@List.perm_append_comm _ _ [_]) (Zz 2 ?_);refine H_ (λ_ a b=>⟨Vw.sat.sub a,b⟩) (Zz 7 ?_);refine T_ (gd_ (kb:=kb) (bk:=bk) (bs:=bl) _ (.mk C A E B d y m) (yae_ _) K.right fr (ins frm (Con.rightP frm (.mk C A E B d y m) (Con.leftP frm (.mk kl H I hl al cl pl) [])) ⟨1,(Con.atom (.mk kl H I hl al cl pl)),[],(Con.atom (.mk C A E B d y m)),[],[],[],0,0,0⟩) a1 X zaa_) rfl rfl (@List.perm_append_comm _ [_] _) (λv _ h=>by exact⟨h.2.2.2.1.2.1,h.2.2.2.2.1,h.1,h.2.1,trivial⟩) rfl λx=>?_;obtain⟨q_4,hq_4⟩:=x;have hb_4:=Con.leftP_len frm _ (.mk C A E B d y m) (yae_ _) (ins frm (Con.rightP frm (.mk C A E B d y m) (Con.leftP frm (.mk kl H I hl al cl pl) [])) ⟨1,(Con.atom (.mk kl H I hl al cl pl)),[],(Con.atom (.mk C A E B d y m)),[],[],[],0,0,0⟩);refine t_ (@List.perm_append_comm _ _ [_]) (Zz 7 ?_);refine T_ (ev_ (kb:=kb) (bk:=bk) (bs:=br) _ (.mk kl H I hl al cl pl) (yae_ _) K.left fl (Con.leftP frm (.mk C A E B d y m) (ins frm (Con.rightP frm (.mk C A E B d y m) (Con.leftP frm (.mk kl H I hl al cl pl) [])) ⟨1,(Con.atom (.mk kl H I hl al cl pl)),[],(Con.atom (.mk C A E B d y m)),[],[],[],0,0,0⟩)) q_4 hq_4 zaa_) rfl rfl (@List.perm_append_comm _ [_] _) (λv _ h=>by exact⟨h.2.2.2.1.1,h.2.2.2.2.1,h.1,h.2.2.1,trivial⟩) rfl λx=>?_;obtain⟨q_5,hq_5⟩:=x;have hb_5:=Con.rightP_len frm _ (.mk kl H I hl al cl pl) (yae_ _) (Con.leftP frm (.mk C A E B d y m) (ins frm (Con.rightP frm (.mk C A E B d y m) (Con.leftP frm (.mk kl H I hl al cl pl) [])) ⟨1,(Con.atom (.mk kl H I hl al cl pl)),[],(Con.atom (.mk C A E B d y m)),[],[],[],0,0,0⟩));refine t_ (@List.perm_append_comm _ _ [_]) (Zz 2 ?_);refine V_ [(R,.cells (Ax.cells (Ax.mk k U (Con.mk kl H I hl al cl pl) (Con.mk C A E B d y m) ad cap L N a b)).toArray 51 (0,0))] zk ?_;refine s_ 5 [0,1,2,4,5] zk (λ_ a b=>⟨Vw.sat.sub a,b⟩) (Zz 6 ?_);refine l_ 3 rfl zk (f_ (bL_ (.mk C A E B d y m) K.right) rfl (.refl _) (λv _ h=>⟨h.2.2.2.1.2.1,h.2.2.2.2.1,trivial⟩) rfl λ_=>Zz 2 ?_);refine H_ (λ_ a b=>⟨Vw.sat.sub a,b⟩) (l_ 6 rfl zk (f_ (bL_ (.mk kl H I hl al cl pl) K.left) rfl (.refl _) (λv _ h=>⟨h.2.2.2.1.1,h.2.2.2.2.1,trivial⟩) rfl λ_=>Zz 2 ?_));refine H_ (λ_ a b=>⟨Vw.sat.sub a,b⟩) (s_ 2 [7] zk (λ_ a b=>⟨Vw.sat.sub a,b⟩) (S_ rfl (w_ cU_ rfl rfl) rfl (bt_ (l_ 8 rfl zk (M_ z_ A_ O_ rfl rfl rfl rfl rfl rfl λb_3=>Zz 2 ?_)))));refine H_ (λ_ a b=>⟨Vw.sat.sub a.tail,b⟩) (l_ 9 rfl zk (f_ (cV_ ⟨1,(Con.atom (.mk C A E B d y m)),[],(Con.atom (.mk kl H I hl al cl pl)),[],[],[],0,0,0⟩ frm (Con.rightP frm (.mk kl H I hl al cl pl) (Con.leftP frm (.mk C A E B d y m) (ins frm (Con.rightP frm (.mk C A E B d y m) (Con.leftP frm (.mk kl H I hl al cl pl) [])) ⟨1,(Con.atom (.mk kl H I hl al cl pl)),[],(Con.atom (.mk C A E B d y m)),[],[],[],0,0,0⟩))) q_5 hq_5 zaa_) rfl (.cons _ (@List.perm_append_comm _ [_] _)) zt rfl λx=>?_));obtain⟨q_6,hq_6⟩:=x;refine t_ (@List.perm_append_comm _ _ [_]) (Zz 2 ?_);refine H_ (λ_ a b=>⟨Vw.sat.sub a,b⟩) (Zz 2 ?_)
      have e:Ax.pieces frm ⟨k,U,(.mk kl H I hl al cl pl),(.mk C A E B d y m),ad,cap,L,N,a,b⟩=(ins frm (Con.rightP frm (.mk kl H I hl al cl pl) (Con.leftP frm (.mk C A E B d y m) (ins frm (Con.rightP frm (.mk C A E B d y m) (Con.leftP frm (.mk kl H I hl al cl pl) [])) ⟨1,(Con.atom (.mk kl H I hl al cl pl)),[],(Con.atom (.mk C A E B d y m)),[],[],[],0,0,0⟩))) ⟨1,(Con.atom (.mk C A E B d y m)),[],(Con.atom (.mk kl H I hl al cl pl)),[],[],[],0,0,0⟩):=by
        unfold Ax.pieces;dsimp only
        repeat (first|rfl|(rw[yaq_ zaa_])|(rw[yaf_ zaa_]))
      exact bK_ ew_ ⟨q_6,by rw[e];exact hq_6⟩ rfl (F:=[_]) (@List.perm_append_comm _ [_] _) zt
  . obtain⟨fl,zl⟩:=Con.check_zero (G.left (by show k<=3;omega));dsimp only at fl zl;obtain⟨fr,zr⟩:=Con.check_zero (G.right zaU_);dsimp only at fr zr;refine Zz 9 ?_;refine T_ (gd_ (kb:=kb) (bk:=bk) (bs:=bl) _ (.mk kl H I hl al cl pl) (yae_ _) K.left fl [] q hq zaa_) rfl rfl (@List.perm_append_comm _ [_] _) (λv _ h=>by exact⟨h.2.2.2.1.1,h.2.2.2.2.1,h.1,h.2.1,trivial⟩) rfl λx=>?_;obtain⟨M,J⟩:=x;have S:=Con.leftP_len frm _ (.mk kl H I hl al cl pl) (yae_ _) [];refine t_ (@List.perm_append_comm _ _ [_]) (Zz 7 ?_);refine T_ (ev_ (kb:=kb) (bk:=bk) (bs:=br) _ (.mk C A E B d y m) (yae_ _) K.right fr (Con.leftP frm (.mk kl H I hl al cl pl) []) M J zaa_) rfl rfl (@List.perm_append_comm _ [_] _) (λv _ h=>by exact⟨h.2.2.2.1.2.1,h.2.2.2.2.1,h.1,h.2.2.1,trivial⟩) rfl λx=>?_;obtain⟨P,O⟩:=x;have hb_2:=Con.rightP_len frm _ (.mk C A E B d y m) (yae_ _) (Con.leftP frm (.mk kl H I hl al cl pl) []);refine t_ (@List.perm_append_comm _ _ [_]) (Zz 2 ?_);refine V_ [(R,.cells (Ax.cells (Ax.mk k U (Con.mk kl H I hl al cl pl) (Con.mk C A E B d y m) ad cap L N a b)).toArray 51 (0,0))] zk ?_;refine s_ 5 [0,1,2,4,5] zk (λ_ a b=>⟨Vw.sat.sub a,b⟩) (Zz 6 ?_);refine l_ 3 rfl zk (f_ (bL_ (.mk kl H I hl al cl pl) K.left) rfl (.refl _) (λv _ h=>⟨h.2.2.2.1.1,h.2.2.2.2.1,trivial⟩) rfl λ_=>Zz 2 ?_);refine H_ (λ_ a b=>⟨Vw.sat.sub a,b⟩) (l_ 6 rfl zk (f_ (bL_ (.mk C A E B d y m) K.right) rfl (.refl _) (λv _ h=>⟨h.2.2.2.1.2.1,h.2.2.2.2.1,trivial⟩) rfl λ_=>Zz 2 ?_));refine H_ (λ_ a b=>⟨Vw.sat.sub a,b⟩) (s_ 2 [7] zk (λ_ a b=>⟨Vw.sat.sub a,b⟩) (S_ rfl (w_ cU_ rfl rfl) rfl (bt_ (l_ 8 rfl zk (M_ z_ A_ O_ rfl rfl rfl rfl rfl rfl λT=>Zz 2 ?_)))));refine H_ (λ_ a b=>⟨Vw.sat.sub a.tail,b⟩) (l_ 9 rfl zk (f_ (cV_ ⟨1,(Con.atom (.mk kl H I hl al cl pl)),[],(Con.atom (.mk C A E B d y m)),[],[],[],0,0,0⟩ frm (Con.rightP frm (.mk C A E B d y m) (Con.leftP frm (.mk kl H I hl al cl pl) [])) P O zaa_) rfl (.cons _ (@List.perm_append_comm _ [_] _)) zt rfl λx=>?_));obtain⟨a1,X⟩:=x;refine t_ (@List.perm_append_comm _ _ [_]) (Zz 2 ?_);refine H_ (λ_ a b=>⟨Vw.sat.sub a,b⟩) (Zz 2 ?_)
    have e:Ax.pieces frm ⟨k,U,(.mk kl H I hl al cl pl),(.mk C A E B d y m),ad,cap,L,N,a,b⟩=(ins frm (Con.rightP frm (.mk C A E B d y m) (Con.leftP frm (.mk kl H I hl al cl pl) [])) ⟨1,(Con.atom (.mk kl H I hl al cl pl)),[],(Con.atom (.mk C A E B d y m)),[],[],[],0,0,0⟩):=by
      unfold Ax.pieces;dsimp only
      repeat (first|rfl|(rw[yaq_ zaa_])|(rw[yaf_ zaa_]))
    exact bK_ ew_ ⟨a1,by rw[e];exact X⟩ rfl (F:=[_]) (@List.perm_append_comm _ [_] _) zt
theorem ad_.form {e:TypeId} {sz n:Nat} {sv:Value} {xs:List Value} {Hr:Hp} (h:ad_ e sz sv n xs Hr):∃ ad cap,sv=.slice ad n cap:=by
 rcases h.2 with⟨d,m,_⟩|⟨g,cap,cur,d,_⟩
 .exact⟨none,0,by rw[d,m]⟩
 exact⟨_,cap,d⟩
theorem ad_.nilcap {e:TypeId} {sz n m cap:Nat} {sv:Value} {xs:List Value} {Hr:Hp} {ad:Ao} (h:ad_ e sz sv n xs Hr) (d:sv=.slice ad m cap):ad=none->cap=0:=λx=>by
 rcases h.2 with⟨v,_,_⟩|⟨g,c,cur,v,_⟩
 .rw[v]at d;simp only[Value.slice.injEq]at d;exact d.2.2.symm
 rw[v,x]at d;simp at d
theorem kO_ (l:List Ax) (ad:Ao) (cap:Nat) (a8:l.length<=2199023255488) (V:∀ x∈l,x.ok) :
    Tri prog 6 #[.slice ad l.length cap] [] [cI_ ad l,bB_] (λy:{y:Ao×Nat // (aI_ l).1.length<=y.2/\y.2<=maxLen/\(y.1=none->y.2=0)}=>.tuple #[.slice y.1.1 (aI_ l).1.length y.1.2,i4_ (aI_ l).2]) (λ_=>[]) (λy=>[L_ y.1.1 ((aI_ l).1.flatMap Pc.cells)]):=by
  refine g_ func6 rfl rfl ntmps6 rfl λv_1=>?_;refine bb_ ?_;refine aQ_ ?_;refine e_ (bs_ rfl) rfl ?_;refine e_ (bs_ rfl) rfl ?_;refine cb_ ?_;refine bp_ rfl ?_;refine bb_ ?_;refine bb_ ?_;refine aQ_ ?_;refine e_ (aV_ rfl) rfl ?_;refine e_ (fS_ as_ rfl) rfl ?_;refine P_ (cP_ rfl rfl) rfl λa3 E=>?_;refine cb_ ?_;refine bp_ rfl ?_;cases a3
  . replace E:=zdf E;refine ei_ rfl ?_;refine gO_ ?_;refine bp_ rfl ?_;refine bb_ ?_;refine bb_ ?_;refine aQ_ ?_;refine e_ (aV_ rfl) rfl ?_;refine e_ (fS_ as_ rfl) rfl ?_;refine e_ (aV_ rfl) rfl ?_;refine cb_ ?_;refine bp_ rfl ?_;refine gP_ ?_;refine bh_ [(0,.slice ad l.length cap),(2,.slice none 0 0),(13,.slice ad l.length cap),(14,i4_ l.length),(15,i4_ ((0:Nat):Int))] zl ?_;refine bF_ (ι:={q:Nat // q<=l.length/\∀ y∈l.take q,y.check=0}) (λi=>[(0,.slice ad l.length cap),(2,.slice none 0 0),(13,.slice ad l.length cap),(14,i4_ l.length),(15,i4_ i.1)]) (λ_=>_) (λ_=>_) (λi=>l.length - i.1) ⟨0,by simp⟩ ?_;rintro ⟨i,I⟩;refine bh_ [(0,.slice ad l.length cap),(2,.slice none 0 0),(13,.slice ad l.length cap),(14,i4_ l.length),(15,i4_ i)] zl ?_;refine bb_ ?_;refine aQ_ ?_;refine P_ (cB_ rfl rfl) rfl λa2 K=>?_;refine cb_ ?_;refine bp_ rfl ?_;refine bb_ ?_;cases a2
    . replace K:=zdf K;obtain rfl:i=l.length:=by omega
      try rw[ybS_]at I
      refine ei_ rfl ?_;refine mV_ rfl ?_;refine bp_ rfl ?_;refine bb_ ?_;refine bb_ ?_;refine aQ_ ?_;refine e_ (aV_ rfl) rfl ?_;refine e_ (fS_ as_ rfl) rfl ?_;refine e_ (aV_ rfl) rfl ?_;refine cb_ ?_;refine bp_ rfl ?_;refine gP_ ?_;have J:=I.2;refine bh_ [(2,.slice none 0 0),(25,.slice ad l.length cap),(26,i4_ l.length),(27,i4_ ((0:Nat):Int))] zl ?_;refine bF_ (ι:={x:Nat×List Pc×Value×Hp // x.1<=l.length/\ad_ 32 10 x.2.2.1 x.2.1.length (x.2.1.flatMap Pc.cells) x.2.2.2/\x.2.1.length<=16384/\hC_ 0 l []=hC_ x.1 (l.drop x.1) x.2.1}) (λx=>[(2,x.1.2.2.1),(25,.slice ad l.length cap),(26,i4_ l.length),(27,i4_ x.1.1)]) (λx=>x.1.2.2.2) (λ_=>_) (λx=>l.length - x.1.1) ⟨(0,[],.slice none 0 0,[]),by simp,ad_.nil _ _,by simp,rfl⟩ ?_;clear I;rintro ⟨⟨i,p,sv,Hr⟩,I⟩;dsimp only at I;refine bh_ [(2,sv),(25,.slice ad l.length cap),(26,i4_ l.length),(27,i4_ i)] zl ?_;refine bb_ ?_;refine aQ_ ?_;refine P_ (cB_ rfl rfl) rfl λS d=>?_;refine cb_ ?_;refine bp_ rfl ?_;refine bb_ ?_;cases S
      . replace d:=zdf d;obtain rfl:i=l.length:=by omega
        try rw[ybS_]at I
        refine ei_ rfl ?_;refine mV_ rfl ?_;refine bp_ rfl ?_;refine bb_ ?_;refine aQ_ ?_;refine e_ (aV_ rfl) rfl ?_;refine e_ (bs_ rfl) rfl ?_;refine e_ (bs_ rfl) rfl ?_;refine cb_ ?_;refine bp_ rfl ?_;refine jU_ ?_;refine cd_ I.2.1 (F:=[]) (by rw[yaL_]) λA m N U Y=>?_
        have e:aI_ l=(p,0):=by
          unfold aI_;rw[yaf_ zaa_,yaf_ (by simp[ff_ J]),I.2.2.2,List.drop_length];first|done|rfl
        have B:(aI_ l).1.length<=m/\m<=maxLen/\(A=none->m=0):=by rw[e];exact⟨U,Y,ad_.nilcap I.2.1 N⟩
        have Q:Value.tuple #[sv,i4_ 0]=.tuple #[.slice A (aI_ l).1.length m,i4_ (aI_ l).2]:=by rw[e,N]
        have R:(p.flatMap Pc.cells)=((aI_ l).1.flatMap Pc.cells):=by rw[e]
        exact hQ_ results6 ⟨(A,m),B⟩ rfl rfl Q (.refl _) (λv _ h=>⟨R▸h.1,trivial⟩)
      . replace d:=zdt d;have M:i<l.length:=by omega
        obtain⟨x,L⟩:∃ x,l[i]? = some x:=⟨_,yaa_ M⟩;have C:x∈l:=yac_ L;refine bG_ rfl ?_;refine gO_ ?_;refine bp_ rfl ?_;refine bb_ ?_;refine gP_ ?_;refine bb_ ?_;have G:=Ax.good_of (J x C);have b1:=fZ_ (i:Int) G;refine aQ_ ?_;refine e_ (aV_ rfl) rfl ?_;refine e_ (Y_ as_ ab_ rfl rfl (λv _ h=>az_ (n:=16) Ax.cells_len zac_ (h.1.1) L) zaa_ zaf_) rfl ?_;refine e_ (ah_ (ad:=ad) (us:=x.cells) ed_ ab_ rfl (λv _ h=>h.1.1) (Ax.cells_len _) (y_ Ax.cells_len L)) rfl ?_;refine u_ aK_ rfl λa1=>?_;refine e_ (bs_ rfl) rfl ?_;refine ng_ (us:=x.cells) 0 ab_ x.cells_len x.one_cells rfl rfl rfl rfl ?_;refine cb_ ?_;refine bp_ rfl ?_;refine bb_ ?_;refine aQ_ ?_;refine e_ (aV_ rfl) rfl ?_;refine f_ (gb_ (i:Int)) rfl (.refl _) zt rfl λ⟨kb,bm⟩=>?_;refine e_ (bs_ rfl) rfl ?_;refine cb_ ?_;refine bp_ rfl ?_;refine bb_ ?_;refine aQ_ ?_;refine e_ (aV_ rfl) rfl ?_;refine e_ (oh_ (us:=x.cells) 2 ed_ ab_ x.cells_len rfl rfl) rfl ?_;refine f_ (AA_ x (V x C) (J x C) (i:Int) ⟨.slice none 0 0,bm,#[],0,[]⟩ ⟨ad_.nil _ _,rfl,by simp⟩) rfl (.refl _) (λv _ h=>⟨h.1.2 x C,h.2.1,trivial⟩) rfl λy=>?_;obtain⟨⟨a6,b0,a5,a7,a9⟩,hq⟩:=y;have T:=hq.row;dsimp only at T;have W:(x.pieces (i:Int)).length≠0:=λe=>Ax.pieces_ne _ G (yaz_ e)
        obtain⟨g,cp,cur,rfl,rfl,h_1,b2,h_3,a0⟩:=T.some W;refine cb_ ?_;refine bp_ rfl ?_;refine bb_ ?_;refine aQ_ ?_;refine e_ (aV_ rfl) rfl ?_;refine e_ (aV_ rfl) rfl ?_;refine e_ (kD_ rfl) rfl ?_;refine e_ (iJ_ runUnderlying73 rfl rfl rfl cj_) rfl ?_;refine e_ (cc_ 0 isAgg27 rfl rfl rfl) rfl ?_;refine am_ xY_ I.2.1 rfl rfl (@List.perm_append_comm _ [_,_,_,_] _) zaD_ (vg_ 2 rfl a0) (λu hu=>by obtain⟨y,_,B⟩:=yar_.1 hu;exact hx_ y.cells_one u B) zaj_ zaa_ rfl λO X P=>?_;refine t_ (@List.perm_append_comm _ _ [_,_,_,_]) ?_;have Z:∃ A m,O=.slice A (p.length+(x.pieces (i:Int)).length) m:=ad_.form P;obtain⟨A,m,N⟩:=Z;refine e_ (bs_ rfl) rfl ?_;refine cb_ ?_;refine bp_ rfl ?_;refine bb_ ?_;refine aQ_ ?_;refine e_ (aV_ rfl) rfl ?_;refine e_ (fS_ (ad:=A) (len:=p.length+(x.pieces (i:Int)).length) (cap:=m) z_ (yah_ some N)) rfl ?_;refine P_ (cP_ rfl rfl) rfl λa4 H=>?_;refine cb_ ?_;refine bp_ rfl ?_;cases a4
        . replace H:=zdf H;refine ei_ rfl ?_;refine gO_ ?_;refine bp_ rfl ?_;refine aQ_ ?_;refine e_ (bf_ rfl rfl rfl (bW_ zaa_ zaa_)) rfl ?_;refine e_ (aV_ rfl) rfl ?_;refine cb_ ?_;refine pR_ rfl ?_;exact C_ ⟨(i+1,p++x.pieces (i:Int),O,X),M,by simpa [yaW_] using P,by simp only[yaj_];omega,by rw[I.2.2.2,hI_ L];simp only[hC_];rw[yaf_ (by simp only[yaj_];omega)]⟩ zal_ zl (F:=[_,_,_,_]) (@List.perm_append_comm _ [_,_,_,_] _) zh
        . replace H:=zdt H;refine bG_ rfl ?_;refine bb_ ?_;refine aQ_ ?_;refine e_ (bs_ rfl) rfl ?_;refine e_ (bs_ rfl) rfl ?_;refine cb_ ?_;refine bp_ rfl ?_;refine jU_ ?_;have e:aI_ l=([],2):=by unfold aI_;rw[yaf_ zaa_,yaf_ (by simp[ff_ J]),I.2.2.2,hI_ L];simp only[hC_];rw[yaq_ (by simp only[yaj_];omega)]
          have B:(aI_ l).1.length<=0/\0<=maxLen/\((none:Ao)=none->0=0):=by rw[e];simp
          have Q:Value.tuple #[.slice none 0 0,i4_ 2]=.tuple #[.slice none (aI_ l).1.length 0,i4_ (aI_ l).2]:=by rw[e]<;>rfl
          have R:(aI_ l).1.flatMap Pc.cells=[]:=by rw[e]<;>rfl
          exact hQ_ results6 ⟨(none,0),B⟩ rfl rfl Q (.refl _) (λv _ h=>⟨.inl R,trivial⟩)
    . replace K:=zdt K;have M:i<l.length:=by omega
      obtain⟨x,L⟩:∃ x,l[i]? = some x:=⟨_,yaa_ M⟩;have C:x∈l:=yac_ L;refine bG_ rfl ?_;refine gO_ ?_;refine bp_ rfl ?_;refine bb_ ?_;refine gP_ ?_;refine bb_ ?_;refine aQ_ ?_;refine e_ (Y_ as_ ab_ rfl rfl (λv _ h=>az_ (n:=16) Ax.cells_len zac_ (h.1.1) L) zaa_ zaf_) rfl ?_;refine e_ (ah_ (ad:=ad) (us:=x.cells) ed_ ab_ rfl (λv _ h=>h.1.1) (Ax.cells_len _) (y_ Ax.cells_len L)) rfl ?_;refine u_ aK_ rfl λa1=>?_;refine ng_ (us:=x.cells) 0 ab_ x.cells_len x.one_cells rfl rfl rfl rfl ?_;refine cb_ ?_;refine bp_ rfl ?_;refine bb_ ?_;refine aQ_ ?_;refine e_ (oh_ (us:=x.cells) 0 ed_ ab_ x.cells_len rfl rfl) rfl ?_;refine f_ (fF_ x (V x C)) rfl (.refl _) (λv _ h=>⟨h.1.2 x C,h.2.1,trivial⟩) rfl λ_=>?_;refine e_ (bs_ rfl) rfl ?_;refine cb_ ?_;refine bp_ rfl ?_;refine bb_ ?_;refine aQ_ ?_;refine e_ (aV_ rfl) rfl ?_;refine P_ (aM_ rfl rfl) rfl λS d=>?_;refine cb_ ?_;refine bp_ rfl ?_;cases S
      . replace d:=eY_ d;refine ei_ rfl ?_;refine gO_ ?_;refine bp_ rfl ?_;refine aQ_ ?_;refine e_ (bf_ rfl rfl rfl (bW_ zaa_ zaa_)) rfl ?_;refine e_ (aV_ rfl) rfl ?_;refine cb_ ?_;refine pR_ rfl ?_;exact C_ ⟨i+1,M,λy B=>by rw[yao_,L]at B;simp only[yaC_,yag_,yak_]at B;rcases B with B|rfl;exact I.2 y B;assumption⟩ zal_ zl (@List.perm_append_comm _ [_] _) zh
      . replace d:=eV_ d;refine bG_ rfl ?_;refine bb_ ?_;refine aQ_ ?_;refine e_ (aV_ rfl) rfl ?_;refine e_ (bs_ rfl) rfl ?_;refine e_ (bs_ rfl) rfl ?_;refine cb_ ?_;refine bp_ rfl ?_;refine jU_ ?_;have e:aI_ l=([],x.check):=by unfold aI_;rw[yaf_ zaa_,rI_ L I.2 zae_,yaq_ zae_]
        have B:(aI_ l).1.length<=0/\0<=maxLen/\((none:Ao)=none->0=0):=by rw[e];simp
        have Q:Value.tuple #[.slice none 0 0,i4_ x.check]=.tuple #[.slice none (aI_ l).1.length 0,i4_ (aI_ l).2]:=by rw[e]<;>rfl
        have R:(aI_ l).1.flatMap Pc.cells=[]:=by rw[e]<;>rfl
        exact hQ_ results6 ⟨(none,0),B⟩ rfl rfl Q (.refl _) (λv _ h=>⟨.inl R,trivial⟩)
  . replace E:=zdt E;refine bG_ rfl ?_;refine bb_ ?_;refine aQ_ ?_;refine e_ (bs_ rfl) rfl ?_;refine e_ (bs_ rfl) rfl ?_;refine cb_ ?_;refine bp_ rfl ?_;refine jU_ ?_;have e:aI_ l=([],2):=by unfold aI_;rw[yaq_ zaa_]
    have B:(aI_ l).1.length<=0/\0<=maxLen/\((none:Ao)=none->0=0):=by rw[e];simp
    have Q:Value.tuple #[.slice none 0 0,i4_ 2]=.tuple #[.slice none (aI_ l).1.length 0,i4_ (aI_ l).2]:=by rw[e]<;>rfl
    have R:(aI_ l).1.flatMap Pc.cells=[]:=by rw[e]<;>rfl
    exact hQ_ results6 ⟨(none,0),B⟩ rfl rfl Q (.refl _) (λv _ h=>⟨.inl R,trivial⟩)
theorem cL_ {N:Nf} {fr:Fr} {H:Hp} {Γ:List Fct} {ty B:TypeId} {x y:Operand} {p q:Fc} (E:Fr.ev fr x=some p.val) (A:Fr.ev fr y=some q.val):Yld prog N fr H Γ (.binOp .eql 87 x y B) ty (.bool (decide (p=q))) :=
  λa v m _ _ _ _ _=>by
    have C:(Program.eqGuardType prog Tryz.prog.depth 87)=false:=by kernel_rfl
    have d:=eqFc p q v.w;simp only[execOp,m.ev E,m.ev A,eqGuard,Fc.val,binOp,Op.equal,Sem.run_bind,Result.andThen_ok];simp only[run_program,Result.andThen_ok,C,Bool.not_false,yck_,Sem.run_pure];simp only[Fc.val]at d;simp[Op.maxDepth,d]
theorem fI_ {N:Nf} {fr:Fr} {H:Hp} {Γ:List Fct} {ty B:TypeId} {x y:Operand} {p q:Fc} (E:Fr.ev fr x=some p.val) (A:Fr.ev fr y=some q.val):Yld prog N fr H Γ (.binOp .neq 87 x y B) ty (.bool (decide (p≠q))) :=
  λa v m _ _ _ _ _=>by
    have C:(Program.eqGuardType prog Tryz.prog.depth 87)=false:=by kernel_rfl
    have d:=eqFc p q v.w;simp only[execOp,m.ev E,m.ev A,eqGuard,Fc.val,binOp,Op.equal,Sem.run_bind,Result.andThen_ok];simp only[run_program,Result.andThen_ok,C,Bool.not_false,yck_,Sem.run_pure];simp only[Fc.val]at d;simp[Op.maxDepth,d]
theorem pp_ (s:Str) (c:UInt8):Fn0 prog 287 #[str s,str [c]] (i4_ (Lib.indexByte s c)) :=
  hF_ (callable func287 rfl rfl) λw=>(Tryz.strings_Index_one ⟨s.toArray⟩ c w).mono zaG_
theorem nY_ (s:Str) (c:UInt8) (k:Nat) (d:ixS c s=some k):Fn0 prog 287 #[str s,str [c]] (i4_ k):=by
  have h:=pp_ s c;rw[ml_,d]at h;exact h
theorem wC_ (s:Str) (c:UInt8):Fn0 prog 286 #[str s,str [c]] (i4_ (dv_ c s:Int)) :=
  hF_ (callable func286 rfl rfl) λw=>(Tryz.strings_Count_one ⟨s.toArray⟩ c w).mono zaG_
theorem ok_H {N:Nf} {m:Vw} {d:Hp} {k:Act->World->Prop} {fr:Fr} {H H':Hp} {Γ:List Fct} (e:H=H') (h:Ok N m d k fr H' Γ):Ok N m d k fr H Γ:=e▸h
theorem tc_ (s:Str) (c:UInt8) (Q:s.length<=17592186044414):Tri prog 247 #[str s,str [c],i4_ 0,i4_ (-1)] [] [] (λb:Nat=>.slice (some ⟨b,0,none⟩) (aS_ c s).length (aS_ c s).length) (λ_=>[]) (λb=>[L_ (some ⟨b,0,none⟩) ((aS_ c s).flatMap ar_)]):=by
 have P:=pZ_ c s;refine g_ func247 rfl rfl ntmps247 rfl λM=>?_;refine Zi 9 (λC=>?_) λC=>?_
 .refine Zi 9 (λE=>?_) λE=>?_
  .refine Zi 9 (λB=>?_) λB=>?_
   .exact absurd zac_ B
   refine Zz 6 ?_;refine f_ (wC_ s c) rfl (.refl _) zt rfl λ_=>Zz 8 ?_
   refine e_ (cO_ R_ rfl) rfl (Zz 1 ?_);refine e_ (aj_ (tC_ rfl rfl) (show _=i4_ ((dv_ c s+1:Nat):Int) by rw[yaf_ zaa_];rfl)) rfl ?_;refine Zz 6 ?_;refine vk_ (n:=dv_ c s+1) (by':=16) ig_ (z:=.string ⟨#[]⟩) zk rfl rfl rfl zaa_ zaa_ rfl λd=>Zz 6 ?_
   refine e_ (aj_ (bf_ rfl rfl rfl (bW_ zaa_ zaa_)) (show _=i4_ (dv_ c s:Int) by first|rfl|(congr 1;omega))) rfl ?_;refine Zz 10 ?_;refine bh_ [(0,str s),(1,str [c]),(2,i4_ 0),(3,i4_ (dv_ c s:Int)),(9,.slice (some ⟨d,0,none⟩) (dv_ c s+1) (dv_ c s+1)),(10,i4_ ((0:Nat):Int))] zl ?_;refine bF_ (ι:={x:Nat×List Str×Str // x.2.1.length=x.1/\aS_ c s=x.2.1++aS_ c x.2.2/\x.1+dv_ c x.2.2=dv_ c s/\x.2.2.length<=s.length}) (λx=>[(0,str x.1.2.2),(1,str [c]),(2,i4_ 0),(3,i4_ (dv_ c s:Int)),(9,.slice (some ⟨d,0,none⟩) (dv_ c s+1) (dv_ c s+1)),(10,i4_ x.1.1)]) (λx=>[(d,.cells (x.1.2.1.map str++List.replicate (dv_ c s+1 - x.1.1) (Value.string ⟨#[]⟩)).toArray 9 (0,0))]) (λ_=>_) (λx=>dv_ c s - x.1.1) ⟨(0,[],s),rfl,rfl,by simp,by simp⟩ ?_;rintro ⟨⟨i,K,r⟩,I⟩;dsimp only at I;obtain⟨y,v,J,L⟩:=I;refine bh_ [(0,str r),(1,str [c]),(2,i4_ 0),(3,i4_ (dv_ c s:Int)),(9,.slice (some ⟨d,0,none⟩) (dv_ c s+1) (dv_ c s+1)),(10,i4_ i)] zl ?_;have H:∀ k,k<dv_ c s+1->List.replicate (dv_ c s+1 - k) (Value.string ⟨#[]⟩)=Value.string ⟨#[]⟩::List.replicate (dv_ c s - k) (Value.string ⟨#[]⟩):=λk I=>by rw[show dv_ c s+1 - k=(dv_ c s - k)+1 by omega];rfl
   refine ok_H (H':=[(d,.cells (K.map str++Value.string ⟨#[]⟩::List.replicate (dv_ c s - i) (Value.string ⟨#[]⟩)).toArray 9 (0,0))]) (by dsimp only;rw[H i zaa_]) ?_;refine Zi 5 (λG=>?_) λG=>?_
   .obtain rfl:i=dv_ c s:=by omega
    have m : aS_ c r = [r] := by
                  cases hx:ixS c r with
                  | none=>exact gs_ hx
                  | some k=>have:=oV_ hx;omega
    rw[m]at v;refine Zz 10 ?_;refine e_ (gL_ B_ U_ rfl rfl zaa_ zaa_) rfl (nh_ 0 U_ rfl rfl rfl zbo_ rfl rfl (Zz 6 ?_));refine e_ (aj_ (bf_ rfl rfl rfl (bW_ zaa_ zaa_)) (show _=i4_ ((dv_ c s+1:Nat):Int) by first|rfl|(congr 1;omega))) rfl ?_;refine e_ (aj_ (di_ (i:=0) (j:=dv_ c s+1) (kl:=.i64) (kh:=.i64) B_ U_ rfl rfl rfl zaa_ zaa_) (show _=Value.slice (some ⟨d,0,none⟩) (dv_ c s+1) (dv_ c s+1) by rw[qH_];rfl)) rfl ?_;refine Zz 4 ?_;refine aL_ ((aS_ c s).flatMap ar_) d_ (by rw[v,mO_];simp) ?_;have hl:=dF_ c s;exact ac_ results247 d (fE_ rfl (by rw[hl])) (.refl _) zf
   obtain ⟨k, A⟩ : ∃ k, ixS c r = some k := by
                 cases hx:ixS c r with
                 | none=>have:=vF_ hx;omega
                 | some k=>exact⟨k,rfl⟩
   have O:=oV_ A;have N:=sS_ A;refine Zz 10 ?_;refine f_ (nY_ r c k A) rfl (.refl _) zt rfl λ_=>Zi 7 (λm=>?_) λm=>?_
   .refine Zz 12 ?_
    refine e_ (aj_ (bf_ rfl rfl rfl (bW_ zaa_ zaa_)) (show _=i4_ k by first|rfl|(congr 1;omega))) rfl ?_;refine e_ (aj_ (eM_ (i:=0) (j:=k) (kl:=.i64) (kh:=.i64) R_ rfl rfl rfl zaa_ zaa_) (show _=str (r.take k) by simp)) rfl (e_ (gL_ B_ U_ rfl rfl zaa_ zaa_) rfl (nh_ 0 U_ rfl rfl rfl zbo_ rfl rfl (Zz 7 ?_)));refine e_ (cO_ R_ rfl) rfl (e_ (aj_ (bf_ rfl rfl rfl (bW_ zam_ zam_)) (show _=i4_ ((k+1:Nat):Int) by first|rfl|(congr 1;omega))) rfl ?_);refine e_ (aj_ (eM_ (i:=k+1) (j:=r.length) (kl:=.i64) (kh:=.i64) R_ rfl rfl rfl zaa_ zaa_) (show _=str (r.drop (k+1)) by rw[yad_ zai_])) rfl (Zz 5 ?_);refine e_ (aj_ (bf_ rfl rfl rfl (bW_ zaa_ zaa_)) (show _=i4_ ((i+1:Nat):Int) by first|rfl|(congr 1;omega))) rfl ?_;refine Zz 3 ?_;exact C_ ⟨(i+1,K++[r.take k],r.drop (k+1)),by simp[y],by rw[v,ik_ A,yap_];rfl,by dsimp only;omega,by simp;omega⟩ zab_ zl (F:=[]) (ydz_ (by simp[show dv_ c s+1 - (i+1)=dv_ c s - i by omega])) zh
   exfalso;omega
  cases E
 exact absurd C zac_
theorem zf_ (s:Str) (c:UInt8) (d:s.length<=17592186044414):Tri prog 182 #[str s,str [c]] [] [] (λb:Nat=>.slice (some ⟨b,0,none⟩) (aS_ c s).length (aS_ c s).length) (λ_=>[]) (λb=>[L_ (some ⟨b,0,none⟩) ((aS_ c s).flatMap ar_)]):=by
  refine g_ func182 rfl rfl ntmps182 rfl λm=>?_;refine Zz 9 ?_;refine f_ (tc_ s c d) rfl (.refl _) zt rfl λb=>Zz 4 ?_
  exact ac_ results182 b rfl (.refl _) zf
theorem pK_ {g:FuncId} {pred:Str->Bool} (xs:List Str) (ad:Ao) (cap:Nat) (F:xs.length<=17592186044415) (H:∀ x∈xs,Fn0 prog g #[str x] (.bool (pred x))) :
    Tri prog 248 #[.slice ad xs.length cap,.func (.func g) #[] #[]] [] [L_ ad (xs.flatMap ar_)] (λr:{r:Int // decide (0<=r)=xs.any pred}=>i4_ r.1) (λ_=>[]) (λ_=>[]):=by
  refine g_ func248 rfl rfl ntmps248 rfl λG=>?_;refine Zz 14 ?_;refine bh_ [(0,.slice ad xs.length cap),(1,.func (.func g) #[] #[]),(7,i4_ (List.length xs:Int)),(8,i4_ ((0:Nat):Int))] zl ?_;refine bF_ (ι:={q:Nat // q<=xs.length/\(xs.take q).any pred=false}) (λi=>[(0,.slice ad xs.length cap),(1,.func (.func g) #[] #[]),(7,i4_ (List.length xs:Int)),(8,i4_ i.1)]) (λ_=>_) (λ_=>_) (λi=>xs.length - i.1) ⟨0,by simp⟩ ?_;rintro ⟨i,C⟩;refine bh_ [(0,.slice ad xs.length cap),(1,.func (.func g) #[] #[]),(7,i4_ (List.length xs:Int)),(8,i4_ i)] zl ?_;refine Zi 2 (λA=>?_) λA=>?_
  . refine Zz 12 ?_;exact ac_ results248 ⟨-1,by have:=C.2;rw[yad_ zaa_]at this;show _=xs.any pred;rw[this];rfl⟩ rfl (.refl _) zt
  . obtain⟨m,y,v,d⟩:=zge (show i<xs.length by omega);refine Zz 21 ?_;refine bJ_ (H y d) rfl rfl i_ zt rfl λB E=>Zz 2 ?_
    cases B
    . refine Zz 8 ?_;exact C_ ⟨i+1,m,by rw[yao_,v];simp only[yaC_,ydf_,C.2];simp[*]⟩ zal_ zl (.refl _) zh
    . refine Zz 8 ?_;exact ac_ results248 ⟨(i:Int),by show _=xs.any pred;rw[show xs.any pred=true from ycl_.2 ⟨y,d,by assumption⟩];exact yaE_ zaa_⟩ rfl (.refl _) zt
theorem mb_ {g:FuncId} {pred:Str->Bool} (xs:List Str) (ad:Ao) (cap:Nat) (d:xs.length<=17592186044415) (v:∀ x∈xs,Fn0 prog g #[str x] (.bool (pred x))) :
    Tri prog 183 #[.slice ad xs.length cap,.func (.func g) #[] #[]] [] [L_ ad (xs.flatMap ar_)] (λ_:Unit=>.bool (xs.any pred)) (λ_=>[]) (λ_=>[]):=by
  refine g_ func183 rfl rfl ntmps183 rfl λA=>?_;refine Zz 9 ?_;refine f_ (pK_ xs ad cap d v) rfl i_ zf rfl λx=>P_ (fa_ rfl rfl) rfl λy m=>Zz 4 ?_
  exact ac_ results183 () (p_ rfl (m.symm.trans x.2)) (.refl _) zt
theorem vv_ (s:Str) (d:s.length<=140737488351232):Fn0 prog 184 #[str s] (.bool (!aJ_ s)):=by
  refine g_ func184 rfl rfl ntmps184 rfl λv=>?_;refine Zz 8 ?_;refine aa_ (ge_ s d) rfl i_ zt rfl λx m=>e_ (aH_ rfl) rfl (Zz 4 ?_)
  exact ac_ results184 () (p_ rfl (by simp[*])) (.refl _) zt
theorem hq_ {c:UInt8}:∀ {s x:Str},x∈aS_ c s->x.length<=s.length
 | [],x,h=>by simp[aS_]at h;simp[h]
 | b::s,x,h=>by
   simp only[aS_]at h
   split at h
   . rcases yan_.1 h with rfl|h
     . simp
     . have:=hq_ h;simp only[yai_];omega
   . cases hs:aS_ c s with
     | nil=>exact absurd hs (kI_ c s)
     | cons y t =>
       rw[hs]at h;rcases yan_.1 h with rfl|h
       . have:=hq_ (c:=c) (s:=s) (x:=y) (by rw[hs];simp);simp only[yai_];omega
       . have:=hq_ (c:=c) (s:=s) (x:=x) (by rw[hs];simp[h]);simp only[yai_];omega
theorem le_ {G:Prop} (h:G:=by
 exact ac_ results118 () (p_ rfl (by unfold ck_;subst_vars;rw[ybJ_];simp_all<;>omega)) (.refl _) zt):G:=h
theorem it_ (s:Str) (B:s.length<=17592186044414):Fn0 prog 118 #[str s] (.bool (ck_ s)):=by
 refine g_ func118 rfl rfl ntmps118 rfl λv=>?_;have y:=dF_ 46 s;refine Zz 8 ?_;refine f_ (zf_ s 46 B) rfl i_ zt rfl λb=>Zi 7 (λd=>?_) λd=>?_
 .refine Zz 9 ?_
  exact le_
 refine Zz 4 ?_;refine aa_ (mb_ (pred:=λr=>!aJ_ r) (aS_ 46 s) _ _ zaa_ (λx C=>vv_ x (by have:=hq_ C;omega))) rfl i_ zf rfl λA m=>?_;refine aP_ rfl rfl (e_ (aH_ rfl) rfl (Zz 5 ?_));exact le_
theorem lb_ {G:Prop} (h:G:=by
 refine aa_ (ge_ _ zav_) rfl i_ zt rfl λv y=>?_;exact fh_):G:=h
theorem lc_ {G:Prop} (h:G:=by
 refine aa_ (ge_ _ zav_) rfl i_ zt rfl λv d=>?_;exact fh_):G:=h
theorem ld_ {G:Prop} (h:G:=by
 refine aa_ (ge_ _ zav_) rfl i_ zt rfl λv m=>?_;exact fh_):G:=h
theorem fh_ {G:Prop} (h:G:=by
 refine Zz 4 ?_;exact fi_):G:=h
theorem fi_ {G:Prop} (h:G:=by
 exact ac_ results120 () (p_ rfl zaO_) (.refl _) zt):G:=h
theorem gX_ (s:Str) (B:s.length<=140737488351232):Fn0 prog 120 #[str s] (.bool (aD_ s)):=by
 refine g_ func120 rfl rfl ntmps120 rfl λN=>?_;refine Zz 8 ?_;refine e_ (cO_ R_ rfl) rfl (Zi 8 (λF=>?_) λF=>?_)
 .refine Zi 4 (λG=>?_) λG=>?_
  .refine Zi 8 (λE=>?_) λE=>?_
   .refine Zi 19 (λA=>?_) λA=>?_
    .refine Zz 21 ?_
     refine aa_ (ge_ _ zav_) rfl i_ zt rfl λv x=>?_;exact fh_
    exfalso;omega
   obtain⟨c,H⟩:∃ c,s[0]? = some c:=⟨_,yaa_ zaa_⟩;obtain⟨e,C⟩:∃ e,s[s.length - 1]? = some e:=⟨_,yaa_ zaa_⟩
   have K:(s[0]? = some 123)↔((c.toNat:Int)=123):=by
     rw[H];simp only[yam_];exact⟨λq=>by subst q;rfl,λq=>UInt8.toNat_inj.1 (by show c.toNat=123;omega)⟩
   have J:(s[s.length - 1]? = some 125)↔((e.toNat:Int)=125):=by
     rw[C];simp only[yam_];exact⟨λq=>by subst q;rfl,λq=>UInt8.toNat_inj.1 (by show e.toNat=125;omega)⟩
   have M:(s[0]? = some 60)↔((c.toNat:Int)=60):=by
     rw[H];simp only[yam_];exact⟨λq=>by subst q;rfl,λq=>UInt8.toNat_inj.1 (by show c.toNat=60;omega)⟩
   have L:(s[s.length - 1]? = some 62)↔((e.toNat:Int)=62):=by
     rw[C];simp only[yam_];exact⟨λq=>by subst q;rfl,λq=>UInt8.toNat_inj.1 (by show e.toNat=62;omega)⟩
   refine Zz 4 ?_;refine e_ (bV_ R_ rfl rfl zac_ H) rfl (aP_ rfl rfl ?_);refine Zi 0 (λA=>?_) λA=>?_
   .refine Zi 15 (λx=>?_) λx=>?_
    .refine Zz 21 ?_
     exact ld_
    refine Zz 4 ?_;refine e_ (bV_ R_ rfl rfl zac_ H) rfl (aP_ rfl rfl ?_);refine Zi 0 (λm=>?_) λm=>?_
    .refine Zz 17 ?_
     exact lc_
    refine Zz 9 ?_;refine e_ (bV_ R_ rfl rfl zaa_ (show s[((s.length:Int) - 1).toNat]? = some e by rw[show ((s.length:Int) - 1).toNat=s.length - 1 by omega];exact C)) rfl ?_;refine aP_ rfl rfl ?_;refine Zi 0 (λd=>?_) λd=>?_
    .refine Zz 10 ?_
     exact lb_
    refine Zz 11 ?_;exact fi_
   refine Zz 9 ?_;refine e_ (bV_ R_ rfl rfl zaa_ (show s[((s.length:Int) - 1).toNat]? = some e by rw[show ((s.length:Int) - 1).toNat=s.length - 1 by omega];exact C)) rfl ?_;refine aP_ rfl rfl ?_;refine Zi 0 (λx=>?_) λx=>?_
   .refine Zi 8 (λm=>?_) λm=>?_
    .refine Zz 21 ?_
     exact lc_
    refine Zz 4 ?_;refine e_ (bV_ R_ rfl rfl zac_ H) rfl (aP_ rfl rfl ?_);refine Zi 0 (λd=>?_) λd=>?_
    .refine Zz 17 ?_
     exact lb_
    refine Zz 9 ?_;refine e_ (bV_ R_ rfl rfl zaa_ (show s[((s.length:Int) - 1).toNat]? = some e by rw[show ((s.length:Int) - 1).toNat=s.length - 1 by omega];exact C)) rfl ?_;refine aP_ rfl rfl ?_;refine Zi 0 (λy=>?_) λy=>?_
    .refine Zz 10 ?_
     refine aa_ (ge_ _ zav_) rfl i_ zt rfl λv I=>?_;exact fh_
    refine Zz 11 ?_;exact fi_
   refine Zz 10 ?_;refine e_ (eM_ (i:=1) (j:=s.length - 1) (kl:=.i64) (kh:=.i64) R_ rfl rfl (show _=some (i4_ ((s.length - 1:Nat):Int)) by rw[show ((s.length - 1:Nat):Int)=(s.length:Int) - 1 by omega];rfl) zaa_ zaa_) rfl ?_;exact ld_
  refine Zz 11 ?_;exact fi_
 refine Zz 14 ?_;exact fi_
theorem hV_ {G:Prop} (h:G:=by
 exact ac_ results117 () (p_ rfl (by unfold bT_;subst_vars;rw[ybJ_];simp_all)) (.refl _) zt):G:=h
theorem eh_ {g:FuncId} (d:Bool) (s:Str) (q:Str->Bool) (y:Fn0 prog g #[str s] (.bool (q s))):Fn0 prog 117 #[.bool d,str s,.func (.func g) #[] #[]] (.bool (bT_ d s q)):=by
 refine g_ func117 rfl rfl ntmps117 rfl λx=>?_;refine Zz 9 ?_;cases d
 .refine Zz 8 ?_
  refine e_ (aH_ rfl) rfl (Zz 5 ?_);refine P_ (dp_ rfl rfl) rfl λv m=>Zz 7 ?_
  exact hV_
 refine Zz 5 ?_;refine bJ_ (y) rfl rfl i_ zt rfl λv m=>Zz 2 ?_
 cases v
 .refine Zz 3 ?_
  refine e_ (aH_ rfl) rfl (Zz 11 ?_);exact hV_
 refine Zz 11 ?_;exact hV_
theorem hT_ {G:Prop} (h:G:=by
 exact met ⟨rfl,rfl,rfl,rfl,rfl,(p_ rfl (jot d)),trivial⟩):G:=h
theorem hU_ {G:Prop} (h:G:=by
 refine Zz 6 ?_;exact met ⟨rfl,rfl,(p_ rfl (jot d)),trivial⟩):G:=h
theorem gm_ {G:Prop} (h:G:=by
 exact met ⟨rfl,rfl,rfl,rfl,(p_ rfl (jaf d)),trivial⟩):G:=h
theorem la_ {G:Prop} (h:G:=by
 refine Zz 7 ?_;exact ac_ results60 () (p_ rfl (by unfold Pc.valid;rw[yaf_ zaa_];simp only[U];first|(rw[yaq_ (by first|(simp;omega)|omega)])|(rw[yaf_ zai_,yaq_ zal_]))) (.refl _) zt):G:=h
theorem gn_ {G:Prop} (h:G:=by
 refine Zz 9 ?_;exact met ⟨rfl,rfl,rfl,rfl,rfl,(p_ rfl (jaf d)),trivial⟩):G:=h
theorem vu_ (p:Pc) (hp:p.sm):Tri prog 60 #[Pc.val p] [] [dA_] (λ_:Unit=>.bool p.valid) (λ_=>[]) (λ_=>[]):=by
 refine g_ func60 rfl rfl ntmps60 rfl λv_1=>?_;obtain⟨ha,hb,hc,hr,hs,ht⟩:=hp;refine Zz 2 ?_;refine F_ rfl rfl λF=>Zz 8 ?_
 refine P_ (cB_ rfl rfl) rfl λr_1 K=>Zz 1 ?_
 refine ao_ 4 ((decide (p.kind<1))||(decide (9<p.kind))) (λr=>[(1,zp_ F 0),(2,.bool false),(13,.bool r)]) ?_ λr_2 P=>?_
 .cases r_1
  .have d:=K
   replace K:=zdf K;refine Zz 5 ?_;refine P_ (cP_ rfl rfl) rfl λa1 J=>Zz 3 ?_
   exact met (zm (jof d J))
  have d:=K;replace K:=zdt K;exact hU_
 refine Zz 1 ?_;refine ao_ 4 ((((decide (p.kind<1))||(decide (9<p.kind))))||(decide (p.frm<(-1)))) (λr=>[(1,zp_ F 0),(2,.bool false),(18,.bool r)]) ?_ λa1 J=>?_
 .cases r_2
  .have d:=P
   simp at P
   refine Zz 5 ?_;refine P_ (cB_ rfl rfl) rfl λa2 N=>Zz 3 ?_
   exact met (zm (jof d N))
  have d:=P;simp at P
  exact hU_
 refine Zz 1 ?_;refine ao_ 4 ((((((decide (p.kind<1))||(decide (9<p.kind))))||(decide (p.frm<(-1)))))||(decide (1024<=p.frm))) (λr=>[(1,zp_ F 0),(2,.bool false),(23,.bool r)]) ?_ λa2 N=>?_
 .cases a1
  .have d:=J
   simp at J
   refine Zz 5 ?_;refine P_ (fa_ rfl rfl) rfl λT y=>Zz 3 ?_
   exact met (zm (jof d y))
  have d:=J;simp at J
  exact hU_
 refine Zz 2 ?_;cases a2
 .simp at N
  obtain⟨u,hx⟩:∃ u,gv_[p.kind.toNat]? = some u:=⟨_,yaa_ (show p.kind.toNat<10 by omega)⟩;have U:nus p.kind=u:=by simp[nus,hx]
  obtain⟨Q,ub,R,V,us,ut,un⟩:=u;refine Zz 7 ?_;refine e_ (dk_ runUnderlying192 sizeOf191 rfl rfl (by show (0:Int)<=p.kind;omega) (by show p.kind<(10:Int);omega)) rfl ?_;refine e_ (ah_ (ad:=some ⟨1,0,none⟩) (us:=NUse.cells ⟨Q,ub,R,V,us,ut,un⟩) isAgg191 sizeOf191 rfl (λv _ h=>h.1) (NUse.cells_len _) (y_ NUse.cells_len hx)) rfl (u_ zeroValue191 rfl λG=>n_ 0 sizeOf191 rfl rfl rfl rfl rfl rfl (Zz 19 ?_));cases un
  .refine Zz 5 ?_
   refine P_ (aM_ rfl rfl) rfl λT y=>Zz 1 ?_
   refine ao_ 4 ((p.lo != 0)||(p.hi != 0)) (λr=>[(1,zp_ F 0),(2,.bool false),(3,zp_ G 0),(4,.func (.func 117) #[] #[]),(5,.func (.func 118) #[] #[]),(52,.bool r)]) ?_ λZ I=>?_
   .cases T
    .have d:=y
     replace y:=eY_ y;refine Zz 5 ?_;refine P_ (aM_ rfl rfl) rfl λS E=>Zz 3 ?_
     exact met (zm (jof d E))
    have d:=y;replace y:=eV_ y;refine Zz 6 ?_;exact hT_
   refine Zz 2 ?_;cases Z
   .simp at I
    refine Zz 10 ?_;refine bJ_ (eh_ Q p.a aD_ (gX_ _ zaa_)) rfl rfl i_ zt rfl λS E=>Zz 1 ?_
    refine ao_ 7 ((bT_ Q p.a aD_)&&(bT_ ub p.b aD_)) (λr=>[(1,zp_ F 0),(2,.bool false),(3,zp_ G 0),(4,.func (.func 117) #[] #[]),(5,.func (.func 118) #[] #[]),(66,.bool r)]) ?_ λX C=>?_
    .cases S
     .have d:=E
      exact gn_
     have d:=E;refine Zz 11 ?_;refine bJ_ (eh_ ub p.b aD_ (gX_ _ zaa_)) rfl rfl i_ zt rfl λW B=>Zz 3 ?_
     exact met ⟨rfl,rfl,rfl,rfl,rfl,(p_ rfl (jat d B)),trivial⟩
    refine Zz 1 ?_;refine ao_ 7 ((((bT_ Q p.a aD_)&&(bT_ ub p.b aD_)))&&(bT_ R p.c aD_)) (λr=>[(1,zp_ F 0),(2,.bool false),(3,zp_ G 0),(4,.func (.func 117) #[] #[]),(5,.func (.func 118) #[] #[]),(74,.bool r)]) ?_ λW B=>?_
    .cases X
     .have d:=C
      simp at C
      exact gn_
     have d:=C;simp at C
     refine Zz 11 ?_;refine bJ_ (eh_ R p.c aD_ (gX_ _ zaa_)) rfl rfl i_ zt rfl λM m=>Zz 3 ?_
     exact met ⟨rfl,rfl,rfl,rfl,rfl,(p_ rfl (jat d m)),trivial⟩
    refine Zz 1 ?_;refine ao_ 8 ((((((bT_ Q p.a aD_)&&(bT_ ub p.b aD_)))&&(bT_ R p.c aD_)))&&(bT_ V p.r ck_)) (λr=>[(1,zp_ F 0),(2,.bool false),(3,zp_ G 0),(4,.func (.func 117) #[] #[]),(83,.bool r)]) ?_ λM m=>?_
    .cases W
     .have d:=B
      simp at B
      refine Zz 10 ?_;exact gm_
     have d:=B;simp at B
     refine Zz 13 ?_;refine bJ_ (eh_ V p.r ck_ (it_ _ zaa_)) rfl rfl i_ zt rfl λL x=>Zz 3 ?_
     exact met ⟨rfl,rfl,rfl,rfl,(p_ rfl (jat d x)),trivial⟩
    refine Zz 1 ?_;refine ao_ 7 ((((((((bT_ Q p.a aD_)&&(bT_ ub p.b aD_)))&&(bT_ R p.c aD_)))&&(bT_ V p.r ck_)))&&(bT_ us p.s ck_)) (λr=>[(1,zp_ F 0),(2,.bool false),(3,zp_ G 0),(4,.func (.func 117) #[] #[]),(91,.bool r)]) ?_ λL x=>?_
    .cases M
     .have d:=m
      simp at m
      refine Zz 9 ?_;exact gm_
     have d:=m;simp at m
     refine Zz 11 ?_;refine bJ_ (eh_ us p.s ck_ (it_ _ zaa_)) rfl rfl i_ zt rfl λO A=>Zz 3 ?_
     exact met ⟨rfl,rfl,rfl,rfl,(p_ rfl (jat d A)),trivial⟩
    refine Zz 1 ?_;refine ao_ 7 ((((((((((bT_ Q p.a aD_)&&(bT_ ub p.b aD_)))&&(bT_ R p.c aD_)))&&(bT_ V p.r ck_)))&&(bT_ us p.s ck_)))&&(bT_ ut p.t ck_)) (λr=>[(2,.bool false),(99,.bool r)]) ?_ λO A=>?_
    .cases L
     .have d:=x
      simp at x
      refine Zz 9 ?_;exact met ⟨rfl,(p_ rfl (jaf d)),trivial⟩
     have d:=x;simp at x
     refine Zz 11 ?_;refine bJ_ (eh_ ut p.t ck_ (it_ _ zaa_)) rfl rfl i_ zt rfl λY H=>Zz 3 ?_
     exact met ⟨rfl,(p_ rfl (jat d H)),trivial⟩
    refine Zz 4 ?_;exact ac_ results60 () (p_ rfl (by unfold Pc.valid;rw[yaf_ zaa_];simp only[U];rw[yaf_ (by simp<;>omega),yaf_ (by simp<;>omega)];exact A.symm)) (.refl _) zt
   simp at I
   exact la_
  refine Zz 10 ?_;refine P_ (cB_ rfl rfl) rfl λT y=>Zz 1 ?_
  refine ao_ 6 ((decide (p.lo<(-1099511627776)))||(decide (p.hi<p.lo))) (λr=>[(1,zp_ F 0),(2,.bool false),(3,zp_ G 0),(4,.func (.func 117) #[] #[]),(5,.func (.func 119) #[] #[]),(39,.bool r)]) ?_ λZ I=>?_
  .cases T
   .have d:=y
    replace y:=zdf y;refine Zz 9 ?_;refine P_ (cP_ rfl rfl) rfl λS E=>Zz 3 ?_
    exact met (zm (jof d E))
   have d:=y;replace y:=zdt y;refine Zz 8 ?_;exact hT_
  refine Zz 1 ?_;refine ao_ 4 ((((decide (p.lo<(-1099511627776)))||(decide (p.hi<p.lo))))||(decide (1099511627776<p.hi))) (λr=>[(1,zp_ F 0),(2,.bool false),(3,zp_ G 0),(4,.func (.func 117) #[] #[]),(5,.func (.func 119) #[] #[]),(44,.bool r)]) ?_ λS E=>?_
  .cases Z
   .have d:=I
    simp at I
    refine Zz 5 ?_;refine P_ (cP_ rfl rfl) rfl λX C=>Zz 3 ?_
    exact met (zm (jof d C))
   have d:=I;simp at I
   refine Zz 6 ?_;exact hT_
  refine Zz 2 ?_;cases S
  .simp at E
   refine Zz 10 ?_;refine bJ_ (eh_ Q p.a aD_ (gX_ _ zaa_)) rfl rfl i_ zt rfl λX C=>Zz 1 ?_
   refine ao_ 7 ((bT_ Q p.a aD_)&&(bT_ ub p.b aD_)) (λr=>[(1,zp_ F 0),(2,.bool false),(3,zp_ G 0),(4,.func (.func 117) #[] #[]),(5,.func (.func 119) #[] #[]),(66,.bool r)]) ?_ λW B=>?_
   .cases X
    .have d:=C
     exact gn_
    have d:=C;refine Zz 11 ?_;refine bJ_ (eh_ ub p.b aD_ (gX_ _ zaa_)) rfl rfl i_ zt rfl λM m=>Zz 3 ?_
    exact met ⟨rfl,rfl,rfl,rfl,rfl,(p_ rfl (jat d m)),trivial⟩
   refine Zz 1 ?_;refine ao_ 7 ((((bT_ Q p.a aD_)&&(bT_ ub p.b aD_)))&&(bT_ R p.c aD_)) (λr=>[(1,zp_ F 0),(2,.bool false),(3,zp_ G 0),(4,.func (.func 117) #[] #[]),(5,.func (.func 119) #[] #[]),(74,.bool r)]) ?_ λM m=>?_
   .cases W
    .have d:=B
     simp at B
     exact gn_
    have d:=B;simp at B
    refine Zz 11 ?_;refine bJ_ (eh_ R p.c aD_ (gX_ _ zaa_)) rfl rfl i_ zt rfl λL x=>Zz 3 ?_
    exact met ⟨rfl,rfl,rfl,rfl,rfl,(p_ rfl (jat d x)),trivial⟩
   refine Zz 1 ?_;refine ao_ 8 ((((((bT_ Q p.a aD_)&&(bT_ ub p.b aD_)))&&(bT_ R p.c aD_)))&&(bT_ V p.r aJ_)) (λr=>[(1,zp_ F 0),(2,.bool false),(3,zp_ G 0),(4,.func (.func 117) #[] #[]),(83,.bool r)]) ?_ λL x=>?_
   .cases M
    .have d:=m
     simp at m
     refine Zz 10 ?_;exact gm_
    have d:=m;simp at m
    refine Zz 13 ?_;refine bJ_ (eh_ V p.r aJ_ (ge_ _ zaa_)) rfl rfl i_ zt rfl λO A=>Zz 3 ?_
    exact met ⟨rfl,rfl,rfl,rfl,(p_ rfl (jat d A)),trivial⟩
   refine Zz 1 ?_;refine ao_ 7 ((((((((bT_ Q p.a aD_)&&(bT_ ub p.b aD_)))&&(bT_ R p.c aD_)))&&(bT_ V p.r aJ_)))&&(bT_ us p.s ck_)) (λr=>[(1,zp_ F 0),(2,.bool false),(3,zp_ G 0),(4,.func (.func 117) #[] #[]),(91,.bool r)]) ?_ λO A=>?_
   .cases L
    .have d:=x
     simp at x
     refine Zz 9 ?_;exact gm_
    have d:=x;simp at x
    refine Zz 11 ?_;refine bJ_ (eh_ us p.s ck_ (it_ _ zaa_)) rfl rfl i_ zt rfl λY H=>Zz 3 ?_
    exact met ⟨rfl,rfl,rfl,rfl,(p_ rfl (jat d H)),trivial⟩
   refine Zz 1 ?_;refine ao_ 7 ((((((((((bT_ Q p.a aD_)&&(bT_ ub p.b aD_)))&&(bT_ R p.c aD_)))&&(bT_ V p.r aJ_)))&&(bT_ us p.s ck_)))&&(bT_ ut p.t ck_)) (λr=>[(2,.bool false),(99,.bool r)]) ?_ λY H=>?_
   .cases O
    .have d:=A
     simp at A
     refine Zz 9 ?_;exact met ⟨rfl,(p_ rfl (jaf d)),trivial⟩
    have d:=A;simp at A
    refine Zz 11 ?_;refine bJ_ (eh_ ut p.t ck_ (it_ _ zaa_)) rfl rfl i_ zt rfl λr_14 a0=>Zz 3 ?_
    exact met ⟨rfl,(p_ rfl (jat d a0)),trivial⟩
   refine Zz 4 ?_;exact ac_ results60 () (p_ rfl (by unfold Pc.valid;rw[yaf_ zaa_];simp only[U];rw[yaf_ (by simp<;>omega),yaf_ (by simp<;>omega)];exact H.symm)) (.refl _) zt
  simp at E
  exact la_
 simp at N
 refine Zz 7 ?_;exact ac_ results60 () (p_ rfl (by unfold Pc.valid;rw[yaq_ zaa_])) (.refl _) zt
theorem qb_ (l:List Pc) (ad:Ao) (cap:Nat) (hl:l.length<=17592186044414) (B:∀ p∈l,p.sm):Tri prog 26 #[.slice ad l.length cap] [] [L_ ad (l.flatMap Pc.cells),dA_] (λ_:Unit=>i4_ (bq_ l)) (λ_=>[]) (λ_=>[]):=by
 refine g_ func26 rfl rfl ntmps26 rfl λG=>?_;refine Zi 10 (λy=>?_) λy=>?_
 .refine Zz 14 ?_
  refine bh_ [(8,.slice ad l.length cap),(9,i4_ (List.length l:Int)),(10,i4_ ((0:Nat):Int))] zl ?_;refine bF_ (ι:={q:Nat // q<=l.length/\(l.take q).all Pc.valid=true}) (λi=>[(8,.slice ad l.length cap),(9,i4_ (List.length l:Int)),(10,i4_ i.1)]) (λ_=>_) (λ_=>_) (λi=>l.length - i.1) ⟨0,by simp⟩ ?_;rintro ⟨i,E⟩;refine bh_ [(8,.slice ad l.length cap),(9,i4_ (List.length l:Int)),(10,i4_ i)] zl ?_;refine Zi 2 (λA=>?_) λA=>?_
  .refine Zz 12 ?_
   exact ac_ results26 () (bd_ rfl (by unfold bq_;rw[yaf_ zaa_,yaq_ (by have:=E.2;rwa [yad_ zaa_]at this)])) (.refl _) zt
  obtain⟨v,m,x,d⟩:=zge (show i<l.length by omega);refine Zz 12 ?_;refine u_ O_ rfl λH=>n_ 0 A_ rfl rfl rfl rfl rfl rfl (Zz 5 ?_)
  refine aa_ (vu_ m (B m d)) rfl i_ zf rfl λC F=>e_ (aH_ rfl) rfl (Zz 2 ?_)
  cases C
  .refine Zz 7 ?_
   exact ac_ results26 () (bd_ rfl (by unfold bq_;rw[yaf_ zaa_,yaf_ (by rw[show l.all Pc.valid=false from ycX_.2 ⟨m,d,by simp[*]⟩];simp)])) (.refl _) zt
  refine Zz 8 ?_;exact C_ ⟨i+1,v,by rw[yao_,x];simp only[yaC_,ycQ_,E.2];simp[*]⟩ zal_ zl (@List.perm_append_comm _ [_] _) zh
 refine Zz 9 ?_;exact ac_ results26 () (bd_ rfl (by unfold bq_;rw[yaq_ zaa_])) (.refl _) zt
theorem vZ_ {N:Nf} {fr:Fr} {H:Hp} {Γ:List Fct} {P:Program} {ty t B:TypeId} {x y:Operand} {m n:Int} (C:Fr.ev fr x=some (i4_ m)) (A:Fr.ev fr y=some (i4_ n)):Yld P N fr H Γ (.binOp .add t x y B) ty (i4_ (IntKind.wrap .i64 (m+n))) :=
  λa v d _ _ _ _ _=>by simp[execOp,d.ev C,d.ev A,eqGuard,binOp,Op.intArith]
def wz (n:Nat):Int:=IntKind.wrap .i64 (n:Int)
theorem yJ_ (n:Nat):IntKind.wrap .i64 (wz n+1)=wz (n+1):=by
  unfold wz;rw[IntKind.wrap_i64,IntKind.wrap_i64,IntKind.wrap_i64];omega
theorem wa_ {n:Nat} (h:n<=1000000):wz n=(n:Int):=bW_ zaa_ zaa_
theorem Con.fold_cnt:∀ (m:Nat) (c:Con),c.sz<=m->∀ n,Con.fold Con.cnt c n=.inl (n+c.sz)
  | 0,c,h=>by have:=c.sz_pos;omega
  | m+1,c,h=>λn=>by
    have v:∀ ps:List Con,(∀ p∈ps,p.sz<=m)->∀ n,Con.fold.folds Con.cnt ps n=.inl (n+Con.sz.szs ps):=by
      intro ps
      induction ps with
      | nil=>intro _ n;simp[Con.fold.folds,Con.sz.szs]
      | cons p ps ih =>
        intro d n;simp only[Con.fold.folds,Con.fold_cnt m p (d p zai_) n,Con.sz.szs];rw[ih (λq x=>d q zbD_)]
        congr 1;omega
    rw[Con.fold_eq];simp only[Con.cnt];rw[v c.parts (λp d=>by have:=Con.sz_part d;omega)]
    congr 1
    cases c;simp only[Con.sz,Con.parts];omega
theorem size_c (c:Con) (M:c.ok) (B:c.sz<=1000000):Tri prog 142 #[c.val] [] [c.memF] (λ_:Unit=>i4_ c.sz) (λ_=>[]) (λ_=>[]):=by
 refine fA_ func142 rfl rfl ntmps142 rfl λy=>?_;refine Zz 2 ?_;refine F_ rfl rfl λT=>u_ aN_ rfl λd=>Zz 5 ?_
 refine e_ (cD_ 1 aq_ D_ rfl rfl) rfl (f_ (wf_ c) rfl (.refl _) zt rfl λb=>Zz 3 ?_);refine bh_ [(2,zp_ d 0),(4,.func (.func 178) #[] #[zp_ b 0])] zl ?_;refine dO_ (H':=[_,_]) (F:=[_]) (.refl _) zh ?_;refine ot_ (α:={c:Con // c.ok}) (xv:=λx=>x.1.val) (good:=λ_=>True) (stp:=λx=>Con.cnt x.1) (Γx:=λx=>[x.1.memF]) (Γi:=[Con.memF c]) (Hj:=λn:Nat=>[(d,.cells #[i4_ (wz n)] 3 (0,0))]) (Hx:=λ_:Empty=>[]) (Hc:=[(b,.cells c.cells.toArray 49 (0,0))]) (caps:=[zp_ b 0]) 0 (Con.fold Con.cnt c 0) rfl (.refl _) (λv _ h=>h) ?_ ?_ ?_ ?_
 .rintro l D U R H C O A m s ⟨x,N⟩ -
  refine mz_ (ι:=Unit) (Hj:=λn:Nat=>[(d,.cells #[i4_ (wz n)] 3 (0,0))]) (Hx:=λ_:Empty=>[]) (s:=s) (res:=Con.cnt x s) (Γ:=[x.memF]) (λ_=>[(2,zp_ d 0)]) (λ_=>[(d,.cells #[i4_ (wz s)] 3 (0,0))]) R H C O rfl ?_ ?_
  .intro n y I S
   rw[A];refine ov_ ?_;refine du_ rfl ?_;exact eo_ () ⟨rfl,trivial⟩ (F:=[]) (by rw[yaL_]) zh
  intro n y I S _;rw[m];refine ht_ ?_;refine bz_ ?_;refine bk_ (bo_ _) (cc_ 0 au_ rfl rfl rfl) rfl rfl ?_;refine bk_ (bo_ _) (aj_ (vZ_ rfl rfl) (show _=i4_ (wz (s+1)) from yah_ (i4_) (yJ_ s))) rfl rfl ?_;refine eU_ (bo_ _) 0 K_ rfl rfl rfl rfl rfl rfl ?_;refine cA_ ?_;refine du_ rfl ?_;exact ow_ (s+1) rfl (G:=[]) zaC_
 .intro l W V Q
  exact tF_ (E:=[]) (good:=λ_=>True) (λ_ _ _ _=>trivial) (λs x N _=>Q s ⟨x,N⟩ trivial) _ M trivial 0
 .intro s K D l r
  rw[Con.fold_cnt _ _ (yae_ _)]at K;obtain rfl:0+c.sz=s:=Sum.inl.inj K;have P:wz (0+c.sz)=(c.sz:Int):=by rw[yba_];exact wa_ B
  refine dQ_ rfl ?_;refine gQ_ ?_;refine bz_ ?_;refine bk_ cl_ (cc_ 1 au_ rfl rfl rfl) rfl rfl ?_;refine eU_ cl_ 1 K_ rfl rfl rfl rfl rfl rfl ?_;refine cA_ ?_;refine dQ_ rfl ?_;refine jW_ ?_;exact wI_ (G:=[_,_,_]) () (λa v L J=>by rw[<-P];exact mZ_ 1 results142 au_ rfl rfl a v L J) (fD_ (i:=3) rfl) ⟨_,.refl _⟩ rfl
 intro t K D l r;cases t
theorem eX_ (xs:List Str) (ad:Ao) (cap:Nat) {kb:Nat} (frm:Int) (l:List Pc) (q:CS) (N:CInv l q) (M:xs.length<=1000) (I:l.length+xs.length<=100000) :
    Tri prog 96 #[zp_ kb 0,.slice ad xs.length cap] (fp_ kb frm q) [L_ ad (xs.flatMap ar_)] (λ_:{H:CS // CInv (aw_ frm xs l) H}=>.tuple #[]) (λH=>fp_ kb frm H.1) (λ_=>[]):=by
  refine g_ func96 rfl rfl ntmps96 rfl λJ=>?_;refine Zz 8 ?_;refine bh_ [(0,zp_ kb 0),(6,.slice ad xs.length cap),(7,i4_ (List.length xs:Int)),(8,i4_ ((0:Nat):Int))] zl ?_;refine bF_ (ι:={y:Nat×CS // y.1<=xs.length/\CInv (aw_ frm (xs.take y.1) l) y.2}) (λy=>[(0,zp_ kb 0),(6,.slice ad xs.length cap),(7,i4_ (List.length xs:Int)),(8,i4_ y.1.1)]) (λy=>fp_ kb frm y.1.2) (λ_=>_) (λy=>xs.length - y.1.1) ⟨(0,q),by simp,N⟩ ?_;rintro ⟨⟨i,x⟩,G⟩;dsimp only at G;dsimp only;have L:=dw_ frm (xs.take i) l;have K:(xs.take i).length<=i:=by simp;omega
  refine bh_ [(0,zp_ kb 0),(6,.slice ad xs.length cap),(7,i4_ (List.length xs:Int)),(8,i4_ i)] zl ?_;refine Zi 2 (λv=>?_) λv=>?_
  . refine Zz 6 ?_;exact bK_ results96 ⟨x,by have:=G.2;rwa [yad_ zaa_]at this⟩ rfl (F:=[]) af_ zt
  . have d:i<xs.length:=by omega
    obtain⟨C,m⟩:∃ B,xs[i]? = some B:=⟨_,yaa_ d⟩;refine Zz 18 ?_;refine e_ (w_ cU_ rfl rfl) rfl (M_ z_ A_ O_ rfl rfl rfl rfl rfl rfl λO=>f_ (cV_ (Pc.mk 1 C [] [42] [] [] [] 0 0 0) frm (aw_ frm (xs.take i) l) x G.2 zaa_) rfl zp zt rfl λ⟨E,A⟩=>?_);dsimp only;refine t_ (List.Perm.symm af_) (Zz 7 ?_);exact C_ ⟨(i+1,E),d,by dsimp only;rw[sJ_ frm m];exact A⟩ zab_ zl (F:=[]) af_ zh
theorem hB_ (a b:Str):Fn0 prog 95 #[str a,str b] (Fc.val ⟨1,a,b,[],0,0⟩):=by
  refine g_ func95 rfl rfl ntmps95 rfl λy=>?_;refine Zz 2 ?_;refine u_ W_ rfl λx=>Zz 6 ?_
  refine e_ (w_ jo_ rfl rfl) rfl (n_ 0 N_ rfl rfl rfl rfl rfl rfl (Zz 3 ?_));exact dI_ () (λa v m d=>cu_ (us:=Fc.cells ⟨1,_,_,[],0,0⟩) 0 results95 cp_ N_ rfl rfl rfl a v m d) (@List.perm_append_comm _ [_] _) (λv _ h=>trivial)
theorem eltF:Elt prog 35 87 6 72:=gA_ underlying35 (z:=.agg (Fc.mk 0 [] [] [] 0 0).cells.toArray) zad_ rfl zac_
theorem goal_c (x:Ax) (m:x.ok):Tri prog 46 #[Ax.val x] [] [Ax.memF x,bB_] (λy:{y:Ao×Nat×Ao×Nat // x.goalP.1.length<=y.2.1/\y.2.1<=maxLen/\x.goalP.2.1.length<=y.2.2.2/\y.2.2.2<=maxLen/\(y.1=none->y.2.1=0)}=>.tuple #[.slice y.1.1 x.goalP.1.length y.1.2.1,.slice y.1.2.2.1 x.goalP.2.1.length y.1.2.2.2,i4_ x.goalP.2.2])
    (λ_=>[]) (λy=>[L_ y.1.1 (x.goalP.1.flatMap Pc.cells),L_ y.1.2.2.1 (x.goalP.2.1.flatMap Fc.cells)]):=by
  refine g_ func46 rfl rfl ntmps46 rfl λv_1=>?_;have h_1:=m.role;have h_2:=Con.operandN_len m.left;have h_3:=Con.operandN_len m.right;refine Zz 2 ?_;refine F_ rfl rfl λb_1=>Zz 9 ?_
  refine f_ (fF_ x m) rfl i_ zf rfl λ_=>Zi 6 (λa2=>?_) λa2=>?_
  . have G:=Ax.good_of a2;refine Zz 7 ?_;refine f_ (gb_ (-1)) rfl i_ zt rfl λ⟨kb,P⟩=>?_;dsimp only;refine t_ (@List.perm_append_comm _ _ [_]) (Zz 6 ?_);refine f_ (po_ kb) rfl i_ zt rfl λ⟨bk,bl,br⟩=>?_;dsimp only;refine Zi 23 (λhr_2=>?_) λhr_2=>?_
    . refine Zi 5 (λX=>?_) λX=>?_
      . refine Zi 6 (λZ=>?_) λZ=>?_
        . refine Zi 6 (λhr_5=>?_) λhr_5=>?_
          . refine Zi 6 (λhr_6=>?_) λhr_6=>?_
            . refine Zi 6 (λhr_7=>?_) λhr_7=>?_
              . refine Zz 12 ?_;have e:x.goalP=([],[],22):=by unfold Ax.goalP;rw[yaf_ zaa_];repeat rw[yaf_ zaa_]
                have U:x.goalP.1.length<=0/\0<=maxLen/\x.goalP.2.1.length<=0/\0<=maxLen/\((none:Ao)=none->0=0):=by rw[e];simp
                have S:Value.tuple #[.slice none 0 0,.slice none 0 0,i4_ 22]=.tuple #[.slice none x.goalP.1.length 0,.slice none x.goalP.2.1.length 0,i4_ x.goalP.2.2]:=by rw[e]<;>rfl
                have F:x.goalP.1.flatMap Pc.cells=[]:=by rw[e];rfl
                have H:x.goalP.2.1.flatMap Fc.cells=[]:=by rw[e];rfl
                exact jZ_ dJ_ ⟨(none,0,none,0),U⟩ rfl rfl rfl S i_ (λv _ h=>⟨.inl F,.inl H,trivial⟩)
              . refine Zz 5 ?_;refine V_ ((b_1,.cells (Ax.cells x).toArray 51 (0,0))::[]) zk ?_;refine s_ 4 [0,1,2,4,5] zk zs (Zz 6 ?_);refine l_ 3 rfl zk (f_ (ch_ x.a m.a) rfl i_ zt rfl λ_=>Zz 3 ?_);refine l_ 6 rfl zk (f_ (ch_ x.b m.b) rfl i_ zt rfl λ_=>Zz 3 ?_);refine l_ 7 rfl zk (M_ B_ U_ at_ rfl rfl rfl rfl rfl rfl λN=>?_);refine aL_ (List.flatMap ar_ [(cq_ x.a),(cq_ x.b)]) d_ rfl ?_;refine Zz 3 ?_;refine l_ 8 rfl zk (f_ (eX_ [(cq_ x.a),(cq_ x.b)] (some ⟨N,0,none⟩) 2 (-1) ([]:List Pc) ⟨.slice none 0 0,P,#[],0,[]⟩ ⟨ad_.nil _ _,rfl,by simp⟩ zai_ zam_) rfl zp zf rfl λ⟨O,J⟩=>?_);dsimp only;have K:=dw_ (-1) [(cq_ x.a),(cq_ x.b)] ([]:List Pc);refine t_ (@List.perm_append_comm _ _ [_]) ?_;simp only[yai_,yaB_]at K;refine Zz 6 ?_;refine s_ 5 [0,1,3,4,6,7] zk zs (Zz 7 ?_);refine l_ 2 rfl zk (f_ (ch_ x.a m.a) rfl i_ zt rfl λ_=>Zz 3 ?_);refine l_ 5 rfl zk (f_ (ch_ x.b m.b) rfl i_ zt rfl λ_=>Zz 3 ?_);refine s_ 2 [8] zk zs (S_ rfl (w_ jo_ rfl rfl) rfl (bt_ (l_ 9 rfl zk (M_ ai_ N_ W_ rfl rfl rfl rfl rfl rfl λI=>Zz 3 ?_))));refine s_ 0 [10] zk zs (Zz 17 ?_);refine aL_ (List.flatMap Fc.cells [(Fc.mk 2 (cq_ x.a) (cq_ x.b) x.role 0 0)]) d_ rfl ?_;refine cd_ J.row (c_ (c_ (c_ af_))) λE d A C B=>?_
                have e:x.goalP=((aw_ (-1) [(cq_ x.a),(cq_ x.b)] ([]:List Pc)),[(Fc.mk 2 (cq_ x.a) (cq_ x.b) x.role 0 0)],0):=by
                  unfold Ax.goalP;rw[yaf_ zaa_];repeat (first|rfl|(rw[yaq_ zaa_])|(rw[yaf_ zaa_]))
                have U:x.goalP.1.length<=d/\d<=maxLen/\x.goalP.2.1.length<=1/\1<=maxLen/\(E=none->d=0):=by rw[e];exact⟨C,B,by simp,by decide,ad_.nilcap J.row A⟩
                have S:Value.tuple #[O.sv,.slice (some ⟨I,0,none⟩) 1 1,i4_ 0]=.tuple #[.slice E x.goalP.1.length d,.slice (some ⟨I,0,none⟩) x.goalP.2.1.length 1,i4_ x.goalP.2.2]:=by
                  rw[e,A]<;>rfl
                have F:List.flatMap Pc.cells (aw_ (-1) [(cq_ x.a),(cq_ x.b)] ([]:List Pc))=x.goalP.1.flatMap Pc.cells:=by rw[e]
                have H:List.flatMap Fc.cells [(Fc.mk 2 (cq_ x.a) (cq_ x.b) x.role 0 0)]=x.goalP.2.1.flatMap Fc.cells:=by rw[e]
                exact jZ_ dJ_ ⟨(E,d,(some ⟨I,0,none⟩),1),U⟩ rfl rfl rfl S i_ (λv _ h=>⟨F▸h.1,H▸h.2.1,trivial⟩)
            . obtain⟨fr,zr⟩:=Con.check_zero (G.right zaa_);refine Zz 5 ?_;refine V_ ((b_1,.cells (Ax.cells x).toArray 51 (0,0))::[]) zk ?_;refine s_ 4 [0,1,2,4,5] zk zs (Zz 6 ?_);refine l_ 3 rfl zk (f_ (ch_ x.a m.a) rfl i_ zt rfl λ_=>Zz 3 ?_);refine l_ 6 rfl zk (f_ (bL_ x.right m.right) rfl i_ (λv _ h=>by exact⟨h.2.2.2.1.2.1,h.2.2.2.2.1,trivial⟩) rfl λ_=>Zz 3 ?_);refine l_ 7 rfl zk (M_ B_ U_ at_ rfl rfl rfl rfl rfl rfl λN=>?_);refine aL_ (List.flatMap ar_ [(cq_ x.a),(Con.atom x.right)]) d_ rfl ?_;refine Zz 3 ?_;refine l_ 8 rfl zk (f_ (eX_ [(cq_ x.a),(Con.atom x.right)] (some ⟨N,0,none⟩) 2 (-1) ([]:List Pc) ⟨.slice none 0 0,P,#[],0,[]⟩ ⟨ad_.nil _ _,rfl,by simp⟩ zai_ zam_) rfl zp zf rfl λ⟨O,J⟩=>?_);dsimp only;have K:=dw_ (-1) [(cq_ x.a),(Con.atom x.right)] ([]:List Pc);refine t_ (@List.perm_append_comm _ _ [_]) ?_;simp only[yai_,yaB_]at K;refine Zz 10 ?_;refine T_ (gd_ (kb:=kb) (bk:=bk) (bs:=bl) (frm:=(-1)) _ x.right (yae_ _) m.right fr (aw_ (-1) [(cq_ x.a),(Con.atom x.right)] ([]:List Pc)) O J zaa_) rfl rfl zp (λv _ h=>by exact⟨h.2.2.2.2.1.2.1,h.2.2.2.2.2.1,h.2.1,h.2.2.1,trivial⟩) rfl λ⟨Q,M⟩=>?_;dsimp only;refine t_ (@List.perm_append_comm _ _ [_]) (Zz 3 ?_);refine s_ 5 [0,1,2,4,5] zk zs (Zz 6 ?_);refine l_ 3 rfl zk (f_ (ch_ x.a m.a) rfl i_ zt rfl λ_=>Zz 3 ?_);refine l_ 6 rfl zk (f_ (bL_ x.right m.right) rfl i_ (λv _ h=>by exact⟨h.2.2.2.2.1.2.1,h.2.2.2.2.2.1,trivial⟩) rfl λ_=>Zz 3 ?_);refine l_ 7 rfl zk (T_ (hB_ (cq_ x.a) (Con.atom x.right)) rfl rfl i_ zt rfl λ_=>Zz 3 ?_);refine l_ 8 rfl zk (M_ ai_ N_ W_ rfl rfl rfl rfl rfl rfl λI=>Zz 3 ?_);refine s_ 0 [9] zk zs (Zz 17 ?_);refine aL_ (List.flatMap Fc.cells [(Fc.mk 1 (cq_ x.a) (Con.atom x.right) [] 0 0)]) d_ rfl ?_;refine cd_ M.row (c_ (c_ (c_ af_))) λE d A C B=>?_
              have e:x.goalP=((Con.leftP (-1) x.right (aw_ (-1) [(cq_ x.a),(Con.atom x.right)] ([]:List Pc))),[(Fc.mk 1 (cq_ x.a) (Con.atom x.right) [] 0 0)],0):=by
                unfold Ax.goalP;rw[yaf_ zaa_];repeat (first|rfl|(rw[yaq_ zaa_])|(rw[yaf_ zaa_]))
              have U:x.goalP.1.length<=d/\d<=maxLen/\x.goalP.2.1.length<=1/\1<=maxLen/\(E=none->d=0):=by rw[e];exact⟨C,B,by simp,by decide,ad_.nilcap M.row A⟩
              have S:Value.tuple #[Q.sv,.slice (some ⟨I,0,none⟩) 1 1,i4_ 0]=.tuple #[.slice E x.goalP.1.length d,.slice (some ⟨I,0,none⟩) x.goalP.2.1.length 1,i4_ x.goalP.2.2]:=by
                rw[e,A]<;>rfl
              have F:List.flatMap Pc.cells (Con.leftP (-1) x.right (aw_ (-1) [(cq_ x.a),(Con.atom x.right)] ([]:List Pc)))=x.goalP.1.flatMap Pc.cells:=by rw[e]
              have H:List.flatMap Fc.cells [(Fc.mk 1 (cq_ x.a) (Con.atom x.right) [] 0 0)]=x.goalP.2.1.flatMap Fc.cells:=by rw[e]
              exact jZ_ dJ_ ⟨(E,d,(some ⟨I,0,none⟩),1),U⟩ rfl rfl rfl S i_ (λv _ h=>⟨F▸h.1,H▸h.2.1,trivial⟩)
          . obtain⟨fr,zr⟩:=Con.check_zero (G.right zaa_);refine Zz 8 ?_;refine e_ (ct_ rfl rfl zah_) rfl ?_;refine e_ (aj_ (ct_ rfl rfl zah_) (show _=str (Ax.doms x) from rfl)) rfl ?_;refine Zz 9 ?_;refine f_ (bL_ x.right m.right) rfl i_ (λv _ h=>by exact⟨h.2.2.2.1.2.1,h.2.2.2.2.1,trivial⟩) rfl λ_=>M_ B_ U_ at_ rfl rfl rfl rfl rfl rfl λN=>?_;refine aL_ (List.flatMap ar_ [(Ax.doms x),(Con.atom x.right)]) d_ rfl ?_;refine f_ (eX_ [(Ax.doms x),(Con.atom x.right)] (some ⟨N,0,none⟩) 2 (-1) ([]:List Pc) ⟨.slice none 0 0,P,#[],0,[]⟩ ⟨ad_.nil _ _,rfl,by simp⟩ zai_ zam_) rfl zp zf rfl λ⟨O,J⟩=>?_;dsimp only;have K:=dw_ (-1) [(Ax.doms x),(Con.atom x.right)] ([]:List Pc);refine t_ (@List.perm_append_comm _ _ [_]) ?_;simp only[yai_,yaB_]at K;refine Zz 8 ?_;refine e_ (w_ cU_ rfl rfl) rfl (M_ z_ A_ O_ rfl rfl rfl rfl rfl rfl λI=>f_ (cV_ (Pc.mk 3 (Ax.doms x) [] [42] x.role [] [] 0 0 0) (-1) (aw_ (-1) [(Ax.doms x),(Con.atom x.right)] ([]:List Pc)) O J zaa_) rfl zp zt rfl λ⟨Q,M⟩=>?_);dsimp only;have a0:=bC_ (-1) (aw_ (-1) [(Ax.doms x),(Con.atom x.right)] ([]:List Pc)) (Pc.mk 3 (Ax.doms x) [] [42] x.role [] [] 0 0 0);refine t_ (@List.perm_append_comm _ _ [_]) (Zz 7 ?_);refine T_ (gd_ (kb:=kb) (bk:=bk) (bs:=bl) (frm:=(-1)) _ x.right (yae_ _) m.right fr (ins (-1) (aw_ (-1) [(Ax.doms x),(Con.atom x.right)] ([]:List Pc)) (Pc.mk 3 (Ax.doms x) [] [42] x.role [] [] 0 0 0)) Q M zaa_) rfl rfl zp (λv _ h=>by exact⟨h.2.2.2.2.1.2.1,h.2.2.2.2.2.1,h.2.1,h.2.2.1,trivial⟩) rfl λ⟨R,L⟩=>?_;dsimp only;refine t_ (@List.perm_append_comm _ _ [_]) (Zz 7 ?_);refine f_ (bL_ x.right m.right) rfl i_ (λv _ h=>by exact⟨h.2.2.2.2.1.2.1,h.2.2.2.2.2.1,trivial⟩) rfl λ_=>T_ (hB_ (Ax.doms x) (Con.atom x.right)) rfl rfl i_ zt rfl λ_=>M_ ai_ N_ W_ rfl rfl rfl rfl rfl rfl λV=>Zz 16 ?_
            refine aL_ (List.flatMap Fc.cells [(Fc.mk 1 (Ax.doms x) (Con.atom x.right) [] 0 0)]) d_ rfl ?_;refine cd_ L.row (c_ (c_ (c_ af_))) λE d A C B=>?_
            have e:x.goalP=((Con.leftP (-1) x.right (ins (-1) (aw_ (-1) [(Ax.doms x),(Con.atom x.right)] ([]:List Pc)) (Pc.mk 3 (Ax.doms x) [] [42] x.role [] [] 0 0 0))),[(Fc.mk 1 (Ax.doms x) (Con.atom x.right) [] 0 0)],0):=by
              unfold Ax.goalP;rw[yaf_ zaa_];repeat (first|rfl|(rw[yaq_ zaa_])|(rw[yaf_ zaa_]))
            have U:x.goalP.1.length<=d/\d<=maxLen/\x.goalP.2.1.length<=1/\1<=maxLen/\(E=none->d=0):=by rw[e];exact⟨C,B,by simp,by decide,ad_.nilcap L.row A⟩
            have S:Value.tuple #[R.sv,.slice (some ⟨V,0,none⟩) 1 1,i4_ 0]=.tuple #[.slice E x.goalP.1.length d,.slice (some ⟨V,0,none⟩) x.goalP.2.1.length 1,i4_ x.goalP.2.2]:=by
              rw[e,A]<;>rfl
            have F:List.flatMap Pc.cells (Con.leftP (-1) x.right (ins (-1) (aw_ (-1) [(Ax.doms x),(Con.atom x.right)] ([]:List Pc)) (Pc.mk 3 (Ax.doms x) [] [42] x.role [] [] 0 0 0)))=x.goalP.1.flatMap Pc.cells:=by rw[e]
            have H:List.flatMap Fc.cells [(Fc.mk 1 (Ax.doms x) (Con.atom x.right) [] 0 0)]=x.goalP.2.1.flatMap Fc.cells:=by rw[e]
            exact jZ_ dJ_ ⟨(E,d,(some ⟨V,0,none⟩),1),U⟩ rfl rfl rfl S i_ (λv _ h=>⟨F▸h.1,H▸h.2.1,trivial⟩)
        . obtain⟨fl,zl⟩:=Con.check_zero (G.left zaa_);obtain⟨fr,zr⟩:=Con.check_zero (G.right zaa_);refine Zz 6 ?_;refine s_ 7 [0,1,5,6] zk zs (Zz 5 ?_);refine l_ 2 rfl zk (f_ (nq_ x.left m.left) rfl i_ (λv _ h=>by exact⟨h.2.2.2.1.1,h.2.2.2.2.1,trivial⟩) rfl λ_=>Zz 3 ?_);refine s_ 4 [3,4] zk zs ?_;refine S_ rfl (ct_ rfl rfl zah_) rfl ?_;refine S_ rfl (ct_ rfl rfl zah_) rfl ?_;refine bt_ (l_ 7 rfl zk (f_ (nq_ x.right m.right) rfl i_ (λv _ h=>by exact⟨h.2.2.2.1.2.1,h.2.2.2.2.1,trivial⟩) rfl λ_=>Zz 3 ?_));refine s_ 0 [8,9,10] zk zs ?_;refine S_ rfl (ct_ rfl rfl zah_) rfl ?_;refine S_ rfl (aj_ (ct_ rfl rfl zah_) (show _=str (Ax.disj x) from rfl)) rfl ?_;refine Zz 8 ?_;refine M_ B_ U_ at_ rfl rfl rfl rfl rfl rfl λN=>?_;refine aL_ (List.flatMap ar_ [(Ax.disj x),[33]]) d_ rfl ?_;refine f_ (eX_ [(Ax.disj x),[33]] (some ⟨N,0,none⟩) 2 (-1) ([]:List Pc) ⟨.slice none 0 0,P,#[],0,[]⟩ ⟨ad_.nil _ _,rfl,by simp⟩ zai_ zam_) rfl zp zf rfl λ⟨O,J⟩=>?_;dsimp only;have K:=dw_ (-1) [(Ax.disj x),[33]] ([]:List Pc);refine t_ (@List.perm_append_comm _ _ [_]) ?_;simp only[yai_,yaB_]at K;refine Zz 8 ?_;refine f_ (bL_ x.left m.left) rfl i_ (λv _ h=>by exact⟨h.2.2.2.2.1.1,h.2.2.2.2.2.1,trivial⟩) rfl λ_=>e_ (w_ cU_ rfl rfl) rfl (M_ z_ A_ O_ rfl rfl rfl rfl rfl rfl λI=>f_ (cV_ (Pc.mk 1 (Ax.disj x) [] (Con.atom x.left) [] [] [] 0 0 0) (-1) (aw_ (-1) [(Ax.disj x),[33]] ([]:List Pc)) O J zaa_) rfl zp zt rfl λ⟨Q,M⟩=>?_)
          dsimp only;have a0:=bC_ (-1) (aw_ (-1) [(Ax.disj x),[33]] ([]:List Pc)) (Pc.mk 1 (Ax.disj x) [] (Con.atom x.left) [] [] [] 0 0 0);refine t_ (@List.perm_append_comm _ _ [_]) (Zz 7 ?_);refine T_ (ev_ (kb:=kb) (bk:=bk) (bs:=br) (frm:=(-1)) _ x.left (yae_ _) m.left fl (ins (-1) (aw_ (-1) [(Ax.disj x),[33]] ([]:List Pc)) (Pc.mk 1 (Ax.disj x) [] (Con.atom x.left) [] [] [] 0 0 0)) Q M zaa_) rfl rfl zp (λv _ h=>by exact⟨h.2.2.2.2.1.1,h.2.2.2.2.2.1,h.2.1,h.2.2.2.1,trivial⟩) rfl λ⟨R,L⟩=>?_;dsimp only;have a8:=Con.rightP_len (-1) _ x.left (yae_ _) (ins (-1) (aw_ (-1) [(Ax.disj x),[33]] ([]:List Pc)) (Pc.mk 1 (Ax.disj x) [] (Con.atom x.left) [] [] [] 0 0 0));refine t_ (@List.perm_append_comm _ _ [_]) (Zz 8 ?_);refine f_ (bL_ x.right m.right) rfl i_ (λv _ h=>by exact⟨h.2.2.2.2.1.2.1,h.2.2.2.2.2.1,trivial⟩) rfl λ_=>e_ (w_ cU_ rfl rfl) rfl (M_ z_ A_ O_ rfl rfl rfl rfl rfl rfl λV=>f_ (cV_ (Pc.mk 1 (Ax.disj x) [] (Con.atom x.right) [] [] [] 0 0 0) (-1) (Con.rightP (-1) x.left (ins (-1) (aw_ (-1) [(Ax.disj x),[33]] ([]:List Pc)) (Pc.mk 1 (Ax.disj x) [] (Con.atom x.left) [] [] [] 0 0 0))) R L zaa_) rfl zp zt rfl λ⟨a3,W⟩=>?_)
          dsimp only;have hb_4:=bC_ (-1) (Con.rightP (-1) x.left (ins (-1) (aw_ (-1) [(Ax.disj x),[33]] ([]:List Pc)) (Pc.mk 1 (Ax.disj x) [] (Con.atom x.left) [] [] [] 0 0 0))) (Pc.mk 1 (Ax.disj x) [] (Con.atom x.right) [] [] [] 0 0 0);refine t_ (@List.perm_append_comm _ _ [_]) (Zz 7 ?_);refine T_ (ev_ (kb:=kb) (bk:=bk) (bs:=br) (frm:=(-1)) _ x.right (yae_ _) m.right fr (ins (-1) (Con.rightP (-1) x.left (ins (-1) (aw_ (-1) [(Ax.disj x),[33]] ([]:List Pc)) (Pc.mk 1 (Ax.disj x) [] (Con.atom x.left) [] [] [] 0 0 0))) (Pc.mk 1 (Ax.disj x) [] (Con.atom x.right) [] [] [] 0 0 0)) a3 W zaa_) rfl rfl zp (λv _ h=>by exact⟨h.2.2.2.2.1.2.1,h.2.2.2.2.2.1,h.2.1,h.2.2.2.1,trivial⟩) rfl λ⟨a4,T⟩=>?_;dsimp only;refine t_ (@List.perm_append_comm _ _ [_]) (Zz 5 ?_);refine T_ (hB_ (Ax.disj x) [33]) rfl rfl i_ zt rfl λ_=>M_ ai_ N_ W_ rfl rfl rfl rfl rfl rfl λa6=>Zz 16 ?_
          refine aL_ (List.flatMap Fc.cells [(Fc.mk 1 (Ax.disj x) [33] [] 0 0)]) d_ rfl ?_;refine cd_ T.row (c_ (c_ (c_ af_))) λE d A C B=>?_
          have e:x.goalP=((Con.rightP (-1) x.right (ins (-1) (Con.rightP (-1) x.left (ins (-1) (aw_ (-1) [(Ax.disj x),[33]] ([]:List Pc)) (Pc.mk 1 (Ax.disj x) [] (Con.atom x.left) [] [] [] 0 0 0))) (Pc.mk 1 (Ax.disj x) [] (Con.atom x.right) [] [] [] 0 0 0))),[(Fc.mk 1 (Ax.disj x) [33] [] 0 0)],0):=by
            unfold Ax.goalP;rw[yaf_ zaa_];repeat (first|rfl|(rw[yaq_ zaa_])|(rw[yaf_ zaa_]))
          have U:x.goalP.1.length<=d/\d<=maxLen/\x.goalP.2.1.length<=1/\1<=maxLen/\(E=none->d=0):=by rw[e];exact⟨C,B,by simp,by decide,ad_.nilcap T.row A⟩
          have S:Value.tuple #[a4.sv,.slice (some ⟨a6,0,none⟩) 1 1,i4_ 0]=.tuple #[.slice E x.goalP.1.length d,.slice (some ⟨a6,0,none⟩) x.goalP.2.1.length 1,i4_ x.goalP.2.2]:=by
            rw[e,A]<;>rfl
          have F:List.flatMap Pc.cells (Con.rightP (-1) x.right (ins (-1) (Con.rightP (-1) x.left (ins (-1) (aw_ (-1) [(Ax.disj x),[33]] ([]:List Pc)) (Pc.mk 1 (Ax.disj x) [] (Con.atom x.left) [] [] [] 0 0 0))) (Pc.mk 1 (Ax.disj x) [] (Con.atom x.right) [] [] [] 0 0 0)))=x.goalP.1.flatMap Pc.cells:=by rw[e]
          have H:List.flatMap Fc.cells [(Fc.mk 1 (Ax.disj x) [33] [] 0 0)]=x.goalP.2.1.flatMap Fc.cells:=by rw[e]
          exact jZ_ dJ_ ⟨(E,d,(some ⟨a6,0,none⟩),1),U⟩ rfl rfl rfl S i_ (λv _ h=>⟨F▸h.1,H▸h.2.1,trivial⟩)
      . obtain⟨fl,zl⟩:=Con.check_zero (G.left zaa_);obtain⟨fr,zr⟩:=Con.check_zero (G.right zaa_);refine Zz 6 ?_;refine s_ 4 [0,1,3,4] zk zs (Zz 5 ?_);refine l_ 2 rfl zk (f_ (bL_ x.left m.left) rfl i_ (λv _ h=>by exact⟨h.2.2.2.1.1,h.2.2.2.2.1,trivial⟩) rfl λ_=>Zz 3 ?_);refine l_ 5 rfl zk (f_ (bL_ x.right m.right) rfl i_ (λv _ h=>by exact⟨h.2.2.2.1.2.1,h.2.2.2.2.1,trivial⟩) rfl λ_=>Zz 3 ?_);refine s_ 0 [6,7] zk zs (Zz 10 ?_);refine M_ B_ U_ at_ rfl rfl rfl rfl rfl rfl λN=>?_;refine aL_ (List.flatMap ar_ [(Con.atom x.left),(Con.atom x.right)]) d_ rfl ?_;refine f_ (eX_ [(Con.atom x.left),(Con.atom x.right)] (some ⟨N,0,none⟩) 2 (-1) ([]:List Pc) ⟨.slice none 0 0,P,#[],0,[]⟩ ⟨ad_.nil _ _,rfl,by simp⟩ zai_ zam_) rfl zp zf rfl λ⟨O,J⟩=>?_;dsimp only;have K:=dw_ (-1) [(Con.atom x.left),(Con.atom x.right)] ([]:List Pc);refine t_ (@List.perm_append_comm _ _ [_]) ?_;simp only[yai_,yaB_]at K;refine Zz 7 ?_;refine T_ (ev_ (kb:=kb) (bk:=bk) (bs:=br) (frm:=(-1)) _ x.left (yae_ _) m.left fl (aw_ (-1) [(Con.atom x.left),(Con.atom x.right)] ([]:List Pc)) O J zaa_) rfl rfl zp (λv _ h=>by exact⟨h.2.2.2.2.1.1,h.2.2.2.2.2.1,h.2.1,h.2.2.2.1,trivial⟩) rfl λ⟨Q,M⟩=>?_;dsimp only;have a0:=Con.rightP_len (-1) _ x.left (yae_ _) (aw_ (-1) [(Con.atom x.left),(Con.atom x.right)] ([]:List Pc));refine t_ (@List.perm_append_comm _ _ [_]) (Zz 7 ?_);refine T_ (gd_ (kb:=kb) (bk:=bk) (bs:=bl) (frm:=(-1)) _ x.right (yae_ _) m.right fr (Con.rightP (-1) x.left (aw_ (-1) [(Con.atom x.left),(Con.atom x.right)] ([]:List Pc))) Q M zaa_) rfl rfl zp (λv _ h=>by exact⟨h.2.2.2.2.1.2.1,h.2.2.2.2.2.1,h.2.1,h.2.2.1,trivial⟩) rfl λ⟨R,L⟩=>?_;dsimp only;have a8:=Con.leftP_len (-1) _ x.right (yae_ _) (Con.rightP (-1) x.left (aw_ (-1) [(Con.atom x.left),(Con.atom x.right)] ([]:List Pc)));refine t_ (@List.perm_append_comm _ _ [_]) (Zz 7 ?_);refine T_ (hB_ (Con.atom x.left) (Con.atom x.right)) rfl rfl i_ zt rfl λ_=>M_ ai_ N_ W_ rfl rfl rfl rfl rfl rfl λI=>Zi 7 (λZ=>?_) λZ=>?_
        . refine Zz 18 ?_;refine aL_ (List.flatMap Fc.cells [(Fc.mk 1 (Con.atom x.left) (Con.atom x.right) [] 0 0)]) d_ rfl ?_;refine cd_ L.row (c_ (c_ (c_ af_))) λE d A C B=>?_
          have e:x.goalP=((Con.leftP (-1) x.right (Con.rightP (-1) x.left (aw_ (-1) [(Con.atom x.left),(Con.atom x.right)] ([]:List Pc)))),[(Fc.mk 1 (Con.atom x.left) (Con.atom x.right) [] 0 0)],0):=by
            unfold Ax.goalP;rw[yaf_ zaa_];repeat (first|rfl|(rw[yaq_ zaa_])|(rw[yaf_ zaa_]))
          have U:x.goalP.1.length<=d/\d<=maxLen/\x.goalP.2.1.length<=1/\1<=maxLen/\(E=none->d=0):=by rw[e];exact⟨C,B,by simp,by decide,ad_.nilcap L.row A⟩
          have S:Value.tuple #[R.sv,.slice (some ⟨I,0,none⟩) 1 1,i4_ 0]=.tuple #[.slice E x.goalP.1.length d,.slice (some ⟨I,0,none⟩) x.goalP.2.1.length 1,i4_ x.goalP.2.2]:=by
            rw[e,A]<;>rfl
          have F:List.flatMap Pc.cells (Con.leftP (-1) x.right (Con.rightP (-1) x.left (aw_ (-1) [(Con.atom x.left),(Con.atom x.right)] ([]:List Pc))))=x.goalP.1.flatMap Pc.cells:=by rw[e]
          have H:List.flatMap Fc.cells [(Fc.mk 1 (Con.atom x.left) (Con.atom x.right) [] 0 0)]=x.goalP.2.1.flatMap Fc.cells:=by rw[e]
          exact jZ_ dJ_ ⟨(E,d,(some ⟨I,0,none⟩),1),U⟩ rfl rfl rfl S i_ (λv _ h=>⟨F▸h.1,H▸h.2.1,trivial⟩)
        . obtain⟨fl,zl⟩:=Con.check_zero (G.left zaa_);obtain⟨fr,zr⟩:=Con.check_zero (G.right zaa_);refine Zz 8 ?_;refine T_ (ev_ (kb:=kb) (bk:=bk) (bs:=br) (frm:=(-1)) _ x.right (yae_ _) m.right fr (Con.leftP (-1) x.right (Con.rightP (-1) x.left (aw_ (-1) [(Con.atom x.left),(Con.atom x.right)] ([]:List Pc)))) R L zaa_) rfl rfl zp (λv _ h=>by exact⟨h.2.2.2.2.1.2.1,h.2.2.2.2.2.1,h.2.1,h.2.2.2.1,trivial⟩) rfl λ⟨a3,W⟩=>?_;dsimp only;have hb_4:=Con.rightP_len (-1) _ x.right (yae_ _) (Con.leftP (-1) x.right (Con.rightP (-1) x.left (aw_ (-1) [(Con.atom x.left),(Con.atom x.right)] ([]:List Pc))));refine t_ (@List.perm_append_comm _ _ [_,_]) (Zz 7 ?_);refine T_ (gd_ (kb:=kb) (bk:=bk) (bs:=bl) (frm:=(-1)) _ x.left (yae_ _) m.left fl (Con.rightP (-1) x.right (Con.leftP (-1) x.right (Con.rightP (-1) x.left (aw_ (-1) [(Con.atom x.left),(Con.atom x.right)] ([]:List Pc))))) a3 W zaa_) rfl rfl zp (λv _ h=>by exact⟨h.2.2.2.2.1.1,h.2.2.2.2.2.1,h.2.1,h.2.2.1,trivial⟩) rfl λ⟨a4,T⟩=>?_;dsimp only;refine t_ (@List.perm_append_comm _ _ [_,_]) (Zz 7 ?_);refine T_ (hB_ (Con.atom x.right) (Con.atom x.left)) rfl rfl i_ zt rfl λ_=>M_ ai_ N_ W_ rfl rfl rfl rfl rfl rfl λV=>?_;have a1:ad_ 87 6 (.slice (some ⟨I,0,none⟩) 1 1) 1 (Fc.cells (Fc.mk 1 (Con.atom x.left) (Con.atom x.right) [] 0 0)) [(I,.cells (Fc.cells (Fc.mk 1 (Con.atom x.left) (Con.atom x.right) [] 0 0)).toArray 87 (0,0))]:=⟨rfl,.inr ⟨I,1,_,rfl,rfl,by decide,by decide,rfl,rfl⟩⟩;refine am_ (news:=Fc.cells (Fc.mk 1 (Con.atom x.right) (Con.atom x.left) [] 0 0)) eltF a1 rfl rfl zp rfl (ba_ 0 rfl) (hx_ rfl) zac_ zac_ rfl λsvF HrF Y=>?_;obtain⟨gF,cpF,curF,rfl,rfl,hrF⟩:=Y.some zac_;refine Zz 16 ?_;refine cd_ Y d_ λadF cpG hsvF a7 a5=>?_;refine cd_ T.row (c_ (c_ (c_ (c_ af_)))) λE d A C B=>?_
          have e:x.goalP=((Con.leftP (-1) x.left (Con.rightP (-1) x.right (Con.leftP (-1) x.right (Con.rightP (-1) x.left (aw_ (-1) [(Con.atom x.left),(Con.atom x.right)] ([]:List Pc)))))),[⟨1,x.left.atom,x.right.atom,[],0,0⟩,⟨1,x.right.atom,x.left.atom,[],0,0⟩],0):=by
            unfold Ax.goalP;rw[yaf_ zaa_];repeat (first|rfl|(rw[yaq_ zaa_])|(rw[yaf_ zaa_]))
          have U:x.goalP.1.length<=d/\d<=maxLen/\x.goalP.2.1.length<=cpG/\cpG<=maxLen/\(E=none->d=0):=by rw[e];exact⟨C,B,a7,a5,ad_.nilcap T.row A⟩
          have S:Value.tuple #[a4.sv,.slice (some ⟨gF,0,none⟩) 2 cpF,i4_ 0]=.tuple #[.slice E x.goalP.1.length d,.slice adF x.goalP.2.1.length cpG,i4_ x.goalP.2.2]:=by
            rw[e,A];exact yah_ (λz=>Value.tuple #[_,z,_]) hsvF
          have F:List.flatMap Pc.cells (Con.leftP (-1) x.left (Con.rightP (-1) x.right (Con.leftP (-1) x.right (Con.rightP (-1) x.left (aw_ (-1) [(Con.atom x.left),(Con.atom x.right)] ([]:List Pc))))))=x.goalP.1.flatMap Pc.cells:=by rw[e]
          have H:List.flatMap Fc.cells [⟨1,x.left.atom,x.right.atom,[],0,0⟩,⟨1,x.right.atom,x.left.atom,[],0,0⟩]=x.goalP.2.1.flatMap Fc.cells:=by rw[e]
          exact jZ_ dJ_ ⟨(E,d,adF,cpG),U⟩ rfl rfl rfl S i_ (λv _ h=>⟨F▸h.1,H▸h.2.1,trivial⟩)
    . obtain⟨fl,zl⟩:=Con.check_zero (G.left zaa_);obtain⟨fr,zr⟩:=Con.check_zero (G.right zaa_);refine Zz 9 ?_;refine s_ 4 [0,1,3,4] zk zs (Zz 5 ?_);refine l_ 2 rfl zk (f_ (bL_ x.left m.left) rfl i_ (λv _ h=>by exact⟨h.2.2.2.1.1,h.2.2.2.2.1,trivial⟩) rfl λ_=>Zz 3 ?_);refine l_ 5 rfl zk (f_ (bL_ x.right m.right) rfl i_ (λv _ h=>by exact⟨h.2.2.2.1.2.1,h.2.2.2.2.1,trivial⟩) rfl λ_=>Zz 3 ?_);refine s_ 0 [6,7] zk zs (Zz 10 ?_);refine M_ B_ U_ at_ rfl rfl rfl rfl rfl rfl λN=>?_;refine aL_ (List.flatMap ar_ [(Con.atom x.left),(Con.atom x.right)]) d_ rfl ?_;refine f_ (eX_ [(Con.atom x.left),(Con.atom x.right)] (some ⟨N,0,none⟩) 2 (-1) ([]:List Pc) ⟨.slice none 0 0,P,#[],0,[]⟩ ⟨ad_.nil _ _,rfl,by simp⟩ zai_ zam_) rfl zp zf rfl λ⟨O,J⟩=>?_;dsimp only;have K:=dw_ (-1) [(Con.atom x.left),(Con.atom x.right)] ([]:List Pc);refine t_ (@List.perm_append_comm _ _ [_]) ?_;simp only[yai_,yaB_]at K;refine Zz 7 ?_;refine T_ (ev_ (kb:=kb) (bk:=bk) (bs:=br) (frm:=(-1)) _ x.left (yae_ _) m.left fl (aw_ (-1) [(Con.atom x.left),(Con.atom x.right)] ([]:List Pc)) O J zaa_) rfl rfl zp (λv _ h=>by exact⟨h.2.2.2.2.1.1,h.2.2.2.2.2.1,h.2.1,h.2.2.2.1,trivial⟩) rfl λ⟨Q,M⟩=>?_;dsimp only;have a0:=Con.rightP_len (-1) _ x.left (yae_ _) (aw_ (-1) [(Con.atom x.left),(Con.atom x.right)] ([]:List Pc));refine t_ (@List.perm_append_comm _ _ [_]) (Zz 7 ?_);refine T_ (gd_ (kb:=kb) (bk:=bk) (bs:=bl) (frm:=(-1)) _ x.right (yae_ _) m.right fr (Con.rightP (-1) x.left (aw_ (-1) [(Con.atom x.left),(Con.atom x.right)] ([]:List Pc))) Q M zaa_) rfl rfl zp (λv _ h=>by exact⟨h.2.2.2.2.1.2.1,h.2.2.2.2.2.1,h.2.1,h.2.2.1,trivial⟩) rfl λ⟨R,L⟩=>?_;dsimp only;refine t_ (@List.perm_append_comm _ _ [_]) (Zz 7 ?_);refine T_ (hB_ (Con.atom x.left) (Con.atom x.right)) rfl rfl i_ zt rfl λ_=>M_ ai_ N_ W_ rfl rfl rfl rfl rfl rfl λI=>Zi 7 (λX=>?_) λX=>?_
      . refine Zz 18 ?_;refine aL_ (List.flatMap Fc.cells [(Fc.mk 1 (Con.atom x.left) (Con.atom x.right) [] 0 0)]) d_ rfl ?_;refine cd_ L.row (c_ (c_ (c_ af_))) λE d A C B=>?_
        have e:x.goalP=((Con.leftP (-1) x.right (Con.rightP (-1) x.left (aw_ (-1) [(Con.atom x.left),(Con.atom x.right)] ([]:List Pc)))),[(Fc.mk 1 (Con.atom x.left) (Con.atom x.right) [] 0 0)],0):=by
          unfold Ax.goalP;rw[yaf_ zaa_];repeat (first|rfl|(rw[yaq_ zaa_])|(rw[yaf_ zaa_]))
        have U:x.goalP.1.length<=d/\d<=maxLen/\x.goalP.2.1.length<=1/\1<=maxLen/\(E=none->d=0):=by rw[e];exact⟨C,B,by simp,by decide,ad_.nilcap L.row A⟩
        have S:Value.tuple #[R.sv,.slice (some ⟨I,0,none⟩) 1 1,i4_ 0]=.tuple #[.slice E x.goalP.1.length d,.slice (some ⟨I,0,none⟩) x.goalP.2.1.length 1,i4_ x.goalP.2.2]:=by
          rw[e,A]<;>rfl
        have F:List.flatMap Pc.cells (Con.leftP (-1) x.right (Con.rightP (-1) x.left (aw_ (-1) [(Con.atom x.left),(Con.atom x.right)] ([]:List Pc))))=x.goalP.1.flatMap Pc.cells:=by rw[e]
        have H:List.flatMap Fc.cells [(Fc.mk 1 (Con.atom x.left) (Con.atom x.right) [] 0 0)]=x.goalP.2.1.flatMap Fc.cells:=by rw[e]
        exact jZ_ dJ_ ⟨(E,d,(some ⟨I,0,none⟩),1),U⟩ rfl rfl rfl S i_ (λv _ h=>⟨F▸h.1,H▸h.2.1,trivial⟩)
      . exfalso;omega
  . refine Zz 12 ?_;have e:x.goalP=([],[],(Ax.check x)):=by unfold Ax.goalP;rw[yaq_ zae_]
    have U:x.goalP.1.length<=0/\0<=maxLen/\x.goalP.2.1.length<=0/\0<=maxLen/\((none:Ao)=none->0=0):=by rw[e];simp
    have S:Value.tuple #[.slice none 0 0,.slice none 0 0,i4_ (Ax.check x)]=.tuple #[.slice none x.goalP.1.length 0,.slice none x.goalP.2.1.length 0,i4_ x.goalP.2.2]:=by rw[e]<;>rfl
    have F:x.goalP.1.flatMap Pc.cells=[]:=by rw[e];rfl
    have H:x.goalP.2.1.flatMap Fc.cells=[]:=by rw[e];rfl
    exact jZ_ dJ_ ⟨(none,0,none,0),U⟩ rfl rfl rfl S i_ (λv _ h=>⟨.inl F,.inl H,trivial⟩)
end Go.Proofs.YtfjcabalehamcaaGreatDoor
