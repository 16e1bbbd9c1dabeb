/-
  Lemmas for the law ModuleGoal (no condition).
-/
import Derived.Test.YtbffkokbdeppaaaGreatDoorQModuleGoal4
set_option linter.unusedVariables false
set_option linter.unusedSimpArgs false
set_option linter.unusedSectionVars false
set_option maxHeartbeats 1000000
namespace Go.Proofs.YtbffkokbdeppaaaGreatDoor
open Go Go.Sx Go.Proofs Tryz
attribute [local irreducible] Code.wp wpList wpAnyH
open Go.Vs
theorem Dp_ (x:Ax) (K:x.ok) (hc:x.check=0) {kb:Nat} (frm:Int) (q:CS) (hq:CInv [] q) :
    Tri prog 142 #[zp_ kb 0,x.val] (fU_ kb frm q) [x.memF,bE_] (λ_:{q':CS // CInv (x.pieces frm) q'}=>.tuple #[]) (λq'=>fU_ kb frm q'.1) (λ_=>[]):=by
  have G:=Ax.good_of hc;obtain⟨k,V,⟨kl,H,I,hl,al,cl,pl⟩,⟨C,A,E,B,d,y,m⟩,ad,cap,L,N,a,b⟩:=x;have hlen:=K.len;have hcap:=K.cap;have h_1:=G.k1;have h_2:=G.k9;have h_3:([]:List Pc).length=0:=rfl;dsimp only at hlen hcap h_1 h_2;show Tri prog 142 #[zp_ kb 0,.agg (Ax.cells (Ax.mk k V (Con.mk kl H I hl al cl pl) (Con.mk C A E B d y m) ad cap L N a b)).toArray] _ _ _ _ _
  refine j_ func142 rfl rfl ntmps142 rfl λv_1=>?_;refine Zz 2 ?_;refine L_ rfl rfl λS=>Zz 5 ?_
  refine f_ (wj_ kb) rfl (.refl _) zt rfl λx=>?_;obtain⟨bk,bl,br⟩:=x;refine Zj 16 (λhr_1=>?_) λhr_1=>?_
  . refine Zj 6 (λhr_2=>?_) λhr_2=>?_
    . refine Zj 6 (λhr_3=>?_) λhr_3=>?_
      . refine Zj 6 (λhr_4=>?_) λhr_4=>?_
        . refine Zj 6 (λhr_5=>?_) λhr_5=>?_
          . refine Zj 6 (λX=>?_) λX=>?_
            . refine Zj 6 (λW=>?_) λW=>?_
              . refine Zj 6 (λhr_8=>?_) λhr_8=>?_
                . refine Zj 6 (λa0=>?_) λa0=>?_
                  . exfalso;omega
                  . refine Zz 4 ?_;refine Y_ [(S,.cells (Ax.cells (Ax.mk k V (Con.mk kl H I hl al cl pl) (Con.mk C A E B d y m) ad cap L N a b)).toArray 30 (0,0))] zk ?_;refine G_ 5 [0,1,2,4,5,6,7] zk (λ_ a b=>⟨Vw.sat.sub a,b⟩) (Zz 8 ?_);refine m_ 3 rfl zk (f_ (cI_ a K.a) rfl (.refl _) zt rfl λ_=>Zz 2 ?_);refine M_ (λ_ a b=>⟨Vw.sat.sub a,b⟩) (m_ 8 rfl zk (f_ (cI_ b K.b) rfl (.refl _) zt rfl λ_=>Zz 2 ?_));refine M_ (λ_ a b=>⟨Vw.sat.sub a,b⟩) (G_ 2 [9] zk (λ_ a b=>⟨Vw.sat.sub a,b⟩) (N_ rfl (y_ dA_ rfl rfl) rfl (bX_ (m_ 10 rfl zk (B_ H_ K_ T_ rfl rfl rfl rfl rfl rfl λU=>Zz 2 ?_)))));refine M_ (λ_ a b=>⟨Vw.sat.sub a.tail,b⟩) (m_ 11 rfl zk (f_ (dD_ ⟨3,([123]++a++[125]),[],([123]++b++[125]),N,[],[],0,0,0⟩ frm [] q hq zaa_) rfl (.cons _ (@List.perm_append_comm _ [_] _)) zt rfl λx=>?_));obtain⟨M,J⟩:=x;refine u_ (@List.perm_append_comm _ _ [_]) (Zz 2 ?_);refine M_ (λ_ a b=>⟨Vw.sat.sub a,b⟩) (Zz 2 ?_)
                    have e:Ax.pieces frm ⟨k,V,(.mk kl H I hl al cl pl),(.mk C A E B d y m),ad,cap,L,N,a,b⟩=(ins frm [] ⟨3,([123]++a++[125]),[],([123]++b++[125]),N,[],[],0,0,0⟩):=by
                      unfold Ax.pieces;dsimp only
                      repeat (first|rfl|(rw[yaq_ zaa_])|(rw[yag_ zaa_]))
                    exact cj_ ey_ ⟨M,by rw[e];exact J⟩ rfl (F:=[_]) (@List.perm_append_comm _ [_] _) zt
                . obtain⟨fr,zr⟩:=Con.check_zero (G.right zaW_);dsimp only at fr zr;refine Zz 9 ?_;refine O_ (fH_ (kb:=kb) (bk:=bk) (bs:=br) _ (.mk C A E B d y m) (yad_ _) K.right fr [] q hq zaa_) rfl rfl (@List.perm_append_comm _ [_] _) (λv _ h=>by exact⟨h.2.2.2.1.2.1,h.2.2.2.2.1,h.1,h.2.2.1,trivial⟩) rfl λx=>?_;obtain⟨M,J⟩:=x;have T:=Con.rightP_len frm _ (.mk C A E B d y m) (yad_ _) [];refine u_ (@List.perm_append_comm _ _ [_]) (Zz 2 ?_);refine Y_ [(S,.cells (Ax.cells (Ax.mk k V (Con.mk kl H I hl al cl pl) (Con.mk C A E B d y m) ad cap L N a b)).toArray 30 (0,0))] zk ?_;refine G_ 5 [0,1,2,4,5] zk (λ_ a b=>⟨Vw.sat.sub a,b⟩) (Zz 6 ?_);refine m_ 3 rfl zk (f_ (cI_ a K.a) rfl (.refl _) zt rfl λ_=>Zz 2 ?_);refine M_ (λ_ a b=>⟨Vw.sat.sub a,b⟩) (m_ 6 rfl zk (f_ (co_ (.mk C A E B d y m) K.right) rfl (.refl _) (λv _ h=>⟨h.2.2.2.1.2.1,h.2.2.2.2.1,trivial⟩) rfl λ_=>Zz 2 ?_));refine M_ (λ_ a b=>⟨Vw.sat.sub a,b⟩) (G_ 2 [7] zk (λ_ a b=>⟨Vw.sat.sub a,b⟩) (N_ rfl (y_ dA_ rfl rfl) rfl (bX_ (m_ 8 rfl zk (B_ H_ K_ T_ rfl rfl rfl rfl rfl rfl λU=>Zz 2 ?_)))));refine M_ (λ_ a b=>⟨Vw.sat.sub a.tail,b⟩) (m_ 9 rfl zk (f_ (dD_ ⟨1,([123]++a++[125]),[],(Con.atom (.mk C A E B d y m)),[],[],[],0,0,0⟩ frm (Con.rightP frm (.mk C A E B d y m) []) M J zaa_) rfl (.cons _ (@List.perm_append_comm _ [_] _)) zt rfl λx=>?_));obtain⟨P,O⟩:=x;refine u_ (@List.perm_append_comm _ _ [_]) (Zz 2 ?_);refine M_ (λ_ a b=>⟨Vw.sat.sub a,b⟩) (Zz 2 ?_)
                  have e:Ax.pieces frm ⟨k,V,(.mk kl H I hl al cl pl),(.mk C A E B d y m),ad,cap,L,N,a,b⟩=(ins frm (Con.rightP frm (.mk C A E B d y m) []) ⟨1,([123]++a++[125]),[],(Con.atom (.mk C A E B d y m)),[],[],[],0,0,0⟩):=by
                    unfold Ax.pieces;dsimp only
                    repeat (first|rfl|(rw[yaq_ zaa_])|(rw[yag_ zaa_]))
                  exact cj_ ey_ ⟨P,by rw[e];exact O⟩ rfl (F:=[_]) (@List.perm_append_comm _ [_] _) zt
              . refine Zz 8 ?_;refine d_ (y_ dA_ rfl rfl) rfl (B_ H_ K_ T_ rfl rfl rfl rfl rfl rfl λU=>f_ (dD_ ⟨7,[],[],[],N,[],[],0,0,0⟩ frm [] q hq zaa_) rfl (.cons _ (@List.perm_append_comm _ [_] _)) zt rfl λx=>?_);obtain⟨M,J⟩:=x;refine u_ (@List.perm_append_comm _ _ [_]) (Zz 2 ?_)
                have e:Ax.pieces frm ⟨k,V,(.mk kl H I hl al cl pl),(.mk C A E B d y m),ad,cap,L,N,a,b⟩=(ins frm [] ⟨7,[],[],[],N,[],[],0,0,0⟩):=by
                  unfold Ax.pieces;dsimp only
                  repeat (first|rfl|(rw[yaq_ zaa_])|(rw[yag_ zaa_]))
                exact cj_ ey_ ⟨M,by rw[e];exact J⟩ rfl (F:=[_]) (@List.perm_append_comm _ [_] _) zt
            . have hch:=G.chain X;dsimp only at hch;have a4:0<L.length:=by omega
              obtain⟨Q,W⟩:∃ Q,L[0]? = some Q:=⟨_,yaa_ a4⟩;refine Zz 8 ?_;refine d_ (P_ n_ D_ rfl rfl (λv _ h=>av_ (n:=1) an_ zae_ (h.2.2.2.1.2.2) W) zaa_ zah_) rfl ?_;refine Zz 8 ?_;refine d_ (cD_ (i:=1) (j:=L.length) (kl:=.i64) (kh:=.i64) n_ D_ rfl rfl rfl zaa_ zaa_) rfl (Zz 5 ?_);refine bF_ [(0,zp_ kb 0),(3,zp_ S 0),(6,str Q),(130,.slice (sad ad cap 1 1) (L.length - 1) (cap - 1)),(131,i4_ ((L.length - 1:Nat):Int)),(132,i4_ ((0:Nat):Int))] zl ?_;have hr_8:=Con.plain_len (G.roles Q (yab_ W));refine bY_ (ι:={x:Nat×Str×List Pc×CS // x.1<=L.length - 1/\CInv x.2.2.1 x.2.2.2/\x.2.2.1.length<=x.1/\x.2.1.length<=30*(x.1+1)/\Ax.chainP frm N (L.drop 1) Q []=Ax.chainP frm N (L.drop (1+x.1)) x.2.1 x.2.2.1}) (λx=>[(0,zp_ kb 0),(3,zp_ S 0),(6,str x.1.2.1),(130,.slice (sad ad cap 1 1) (L.length - 1) (cap - 1)),(131,i4_ ((L.length - 1:Nat):Int)),(132,i4_ x.1.1)]) (λx=>_::fU_ kb frm x.1.2.2.2) (λ_=>_) (λx=>L.length - 1 - x.1.1) ⟨(0,Q,[],q),by simp,hq,by simp,by simp;omega,rfl⟩ ?_;rintro ⟨⟨i,f,Z,M⟩,hj⟩;dsimp only at hj;refine bF_ [(0,zp_ kb 0),(3,zp_ S 0),(6,str f),(130,.slice (sad ad cap 1 1) (L.length - 1) (cap - 1)),(131,i4_ ((L.length - 1:Nat):Int)),(132,i4_ i)] zl ?_;refine Zj 2 (λa0=>?_) λa0=>?_
              . refine Zz 6 ?_
                have e:Ax.pieces frm ⟨k,V,(.mk kl H I hl al cl pl),(.mk C A E B d y m),ad,cap,L,N,a,b⟩=Ax.chainP frm N (L.drop 1) Q []:=by
                  unfold Ax.pieces;dsimp only;rw[tV_ W]
                  repeat (first|rfl|(rw[yaq_ zaa_])|(rw[yag_ zaa_]))
                have e_1:=hj.2.2.2.2;rw[yaO_ (show L.length<=1+i by omega)]at e_1;rw[e_1]at e;exact cj_ ey_ ⟨M,by rw[e];exact hj.2.1⟩ rfl (F:=[_]) (@List.perm_append_comm _ [_] _) zt
              . have hlt:i<L.length - 1:=by omega
                obtain⟨g,hp⟩:∃ g,(L.drop 1)[i]? = some g:=⟨_,yaa_ zar_⟩;have a1:L[1+i]? = some g:=by rw[<-List.getElem?_drop];exact hp
                have hg:=Con.plain_len (G.roles g (yab_ a1));have hro:=Con.plain_len (G.role (by show k=4\/k=5\/k=6\/k=7\/k=9;omega));dsimp only at hro;refine Zz 11 ?_;refine d_ (P_ n_ D_ rfl rfl (λv _ h=>av_ (n:=1) an_ zae_ (bW_.rest an_ h.2.2.2.1.2.2 K.len 1) hp) zaa_ zah_) rfl ?_;refine d_ (bw_ (ad:=(sad ad cap 1 1)) W_ rfl (λv _ h=>bW_.rest an_ h.2.2.2.1.2.2 K.len 1) (A_ an_ hp 0 _ rfl)) rfl (Zj 19 (λhr_10=>?_) λhr_10=>?_)
                . refine Zz 11 ?_;refine d_ (y_ dA_ rfl rfl) rfl (B_ H_ K_ T_ rfl rfl rfl rfl rfl rfl λU=>f_ (dD_ ⟨6,[],[],[],f,g,N,0,0,0⟩ frm Z M hj.2.1 zaa_) rfl (.cons _ (@List.perm_append_comm _ [_] _)) zt rfl λx=>?_);obtain⟨P,J⟩:=x;have T:=cH_ frm Z ⟨6,[],[],[],f,g,N,0,0,0⟩;refine u_ (@List.perm_append_comm _ _ [_]) (Zz 12 ?_);have a5:=lt_ a1;have a3:(L.drop (1+i+1)=[])↔¬ (i+2<L.length):=by rw[ycC_];omega
                  exact w_ ⟨(i+1,N,(ins frm Z ⟨6,[],[],[],f,g,N,0,0,0⟩),P),by dsimp only;omega,J,by dsimp only;omega,by dsimp only;omega,by rw[hj.2.2.2.2,a5];simp only[Ax.chainP];rw[yaq_ (by rw[a3];omega),show 1+(i+1)=1+i+1 by omega]⟩ zar_ zl (F:=[]) zaD_ zh
                . refine Zz 5 ?_;refine d_ (cP_ rfl rfl zac_) rfl ?_;refine Zz 1 ?_;refine d_ (cP_ rfl rfl zac_) rfl ?_;refine Zz 9 ?_;refine d_ (y_ dA_ rfl rfl) rfl (B_ H_ K_ T_ rfl rfl rfl rfl rfl rfl λU=>f_ (dD_ ⟨6,[],[],[],f,g,(f++[46])++g,0,0,0⟩ frm Z M hj.2.1 zaa_) rfl (.cons _ (@List.perm_append_comm _ [_] _)) zt rfl λx=>?_);obtain⟨P,J⟩:=x;have T:=cH_ frm Z ⟨6,[],[],[],f,g,(f++[46])++g,0,0,0⟩;refine u_ (@List.perm_append_comm _ _ [_]) (Zz 12 ?_);have a5:=lt_ a1;have a3:(L.drop (1+i+1)=[])↔¬ (i+2<L.length):=by rw[ycC_];omega
                  exact w_ ⟨(i+1,(f++[46])++g,(ins frm Z ⟨6,[],[],[],f,g,(f++[46])++g,0,0,0⟩),P),by dsimp only;omega,J,by dsimp only;omega,by simp only[yaj_,yak_,yay_];omega,by rw[hj.2.2.2.2,a5];simp only[Ax.chainP];rw[yag_ (by rw[a3];omega),show 1+(i+1)=1+i+1 by omega]⟩ zar_ zl (F:=[]) zaD_ zh
          . have a4:0<L.length:=by have:=G.one hr_5;dsimp only at this;omega
            obtain⟨Q,X⟩:∃ Q,L[0]? = some Q:=⟨_,yaa_ a4⟩;refine Zz 4 ?_;refine Y_ [(S,.cells (Ax.cells (Ax.mk k V (Con.mk kl H I hl al cl pl) (Con.mk C A E B d y m) ad cap L N a b)).toArray 30 (0,0))] zk ?_;refine G_ 2 [0,1,2,3,4,5,6,7] zk (λ_ a b=>⟨Vw.sat.sub a,b⟩) (Zz 3 ?_);refine N_ rfl (P_ n_ D_ rfl rfl (λv _ h=>av_ (n:=1) an_ zae_ (h.2.2.2.1.2.2) X) zaa_ zah_) rfl ?_;refine Zz 3 ?_;refine N_ rfl (y_ dA_ rfl rfl) rfl (bX_ (m_ 8 rfl zk (B_ H_ K_ T_ rfl rfl rfl rfl rfl rfl λU=>Zz 2 ?_)));refine M_ (λ_ a b=>⟨Vw.sat.sub a.tail,b⟩) (m_ 9 rfl zk (f_ (dD_ ⟨5,[],[],[],Q,[],N,0,0,0⟩ frm [] q hq zaa_) rfl (.cons _ (@List.perm_append_comm _ [_] _)) zt rfl λx=>?_));obtain⟨M,J⟩:=x;refine u_ (@List.perm_append_comm _ _ [_]) (Zz 2 ?_);refine M_ (λ_ a b=>⟨Vw.sat.sub a,b⟩) (Zz 2 ?_)
            have e:Ax.pieces frm ⟨k,V,(.mk kl H I hl al cl pl),(.mk C A E B d y m),ad,cap,L,N,a,b⟩=(ins frm [] ⟨5,[],[],[],Q,[],N,0,0,0⟩):=by
              unfold Ax.pieces;dsimp only;rw[tV_ X]
              repeat (first|rfl|(rw[yaq_ zaa_])|(rw[yag_ zaa_]))
            exact cj_ ey_ ⟨M,by rw[e];exact J⟩ rfl (F:=[_]) (@List.perm_append_comm _ [_] _) zt
        . obtain⟨fr,zr⟩:=Con.check_zero (G.right zaW_);dsimp only at fr zr;refine Zz 9 ?_;refine O_ (fH_ (kb:=kb) (bk:=bk) (bs:=br) _ (.mk C A E B d y m) (yad_ _) K.right fr [] q hq zaa_) rfl rfl (@List.perm_append_comm _ [_] _) (λv _ h=>by exact⟨h.2.2.2.1.2.1,h.2.2.2.2.1,h.1,h.2.2.1,trivial⟩) rfl λx=>?_;obtain⟨M,J⟩:=x;have T:=Con.rightP_len frm _ (.mk C A E B d y m) (yad_ _) [];refine u_ (@List.perm_append_comm _ _ [_]) (Zz 2 ?_);refine Y_ [(S,.cells (Ax.cells (Ax.mk k V (Con.mk kl H I hl al cl pl) (Con.mk C A E B d y m) ad cap L N a b)).toArray 30 (0,0))] zk ?_;refine G_ 4 [0,1,2,3,4] zk (λ_ a b=>⟨Vw.sat.sub a,b⟩) (Zz 6 ?_);refine m_ 5 rfl zk (f_ (co_ (.mk C A E B d y m) K.right) rfl (.refl _) (λv _ h=>⟨h.2.2.2.1.2.1,h.2.2.2.2.1,trivial⟩) rfl λ_=>Zz 2 ?_);refine M_ (λ_ a b=>⟨Vw.sat.sub a,b⟩) (G_ 2 [6] zk (λ_ a b=>⟨Vw.sat.sub a,b⟩) (N_ rfl (y_ dA_ rfl rfl) rfl (bX_ (m_ 7 rfl zk (B_ H_ K_ T_ rfl rfl rfl rfl rfl rfl λU=>Zz 2 ?_)))));refine M_ (λ_ a b=>⟨Vw.sat.sub a.tail,b⟩) (m_ 8 rfl zk (f_ (dD_ ⟨4,[42],[],(Con.atom (.mk C A E B d y m)),N,[],[],0,0,0⟩ frm (Con.rightP frm (.mk C A E B d y m) []) M J zaa_) rfl (.cons _ (@List.perm_append_comm _ [_] _)) zt rfl λx=>?_));obtain⟨P,O⟩:=x;refine u_ (@List.perm_append_comm _ _ [_]) (Zz 2 ?_);refine M_ (λ_ a b=>⟨Vw.sat.sub a,b⟩) (Zz 2 ?_)
          have e:Ax.pieces frm ⟨k,V,(.mk kl H I hl al cl pl),(.mk C A E B d y m),ad,cap,L,N,a,b⟩=(ins frm (Con.rightP frm (.mk C A E B d y m) []) ⟨4,[42],[],(Con.atom (.mk C A E B d y m)),N,[],[],0,0,0⟩):=by
            unfold Ax.pieces;dsimp only
            repeat (first|rfl|(rw[yaq_ zaa_])|(rw[yag_ zaa_]))
          exact cj_ ey_ ⟨P,by rw[e];exact O⟩ rfl (F:=[_]) (@List.perm_append_comm _ [_] _) zt
      . obtain⟨fl,zl⟩:=Con.check_zero (G.left (by show k<=3;omega));dsimp only at fl zl;obtain⟨fr,zr⟩:=Con.check_zero (G.right zaW_);dsimp only at fr zr;refine Zz 9 ?_;refine O_ (hw_ (kb:=kb) (bk:=bk) (bs:=bl) _ (.mk kl H I hl al cl pl) (yad_ _) K.left fl [] q hq zaa_) rfl rfl (@List.perm_append_comm _ [_] _) (λv _ h=>by exact⟨h.2.2.2.1.1,h.2.2.2.2.1,h.1,h.2.1,trivial⟩) rfl λx=>?_;obtain⟨M,J⟩:=x;have T:=Con.leftP_len frm _ (.mk kl H I hl al cl pl) (yad_ _) [];refine u_ (@List.perm_append_comm _ _ [_]) (Zz 7 ?_);refine O_ (hw_ (kb:=kb) (bk:=bk) (bs:=bl) _ (.mk C A E B d y m) (yad_ _) K.right fr (Con.leftP frm (.mk kl H I hl al cl pl) []) M J zaa_) rfl rfl (@List.perm_append_comm _ [_] _) (λv _ h=>by exact⟨h.2.2.2.1.2.1,h.2.2.2.2.1,h.1,h.2.1,trivial⟩) rfl λx=>?_;obtain⟨P,O⟩:=x;have hb_2:=Con.leftP_len frm _ (.mk C A E B d y m) (yad_ _) (Con.leftP frm (.mk kl H I hl al cl pl) []);refine u_ (@List.perm_append_comm _ _ [_]) (Zz 2 ?_);refine Y_ [(S,.cells (Ax.cells (Ax.mk k V (Con.mk kl H I hl al cl pl) (Con.mk C A E B d y m) ad cap L N a b)).toArray 30 (0,0))] zk ?_;refine G_ 5 [0,1,2,4,5] zk (λ_ a b=>⟨Vw.sat.sub a,b⟩) (Zz 6 ?_);refine m_ 3 rfl zk (f_ (co_ (.mk kl H I hl al cl pl) K.left) rfl (.refl _) (λv _ h=>⟨h.2.2.2.1.1,h.2.2.2.2.1,trivial⟩) rfl λ_=>Zz 2 ?_);refine M_ (λ_ a b=>⟨Vw.sat.sub a,b⟩) (m_ 6 rfl zk (f_ (co_ (.mk C A E B d y m) K.right) rfl (.refl _) (λv _ h=>⟨h.2.2.2.1.2.1,h.2.2.2.2.1,trivial⟩) rfl λ_=>Zz 2 ?_));refine M_ (λ_ a b=>⟨Vw.sat.sub a,b⟩) (G_ 2 [7] zk (λ_ a b=>⟨Vw.sat.sub a,b⟩) (N_ rfl (y_ dA_ rfl rfl) rfl (bX_ (m_ 8 rfl zk (B_ H_ K_ T_ rfl rfl rfl rfl rfl rfl λU=>Zz 2 ?_)))));refine M_ (λ_ a b=>⟨Vw.sat.sub a.tail,b⟩) (m_ 9 rfl zk (f_ (dD_ ⟨2,(Con.atom (.mk kl H I hl al cl pl)),(Con.atom (.mk C A E B d y m)),[33],[],[],[],0,0,0⟩ frm (Con.leftP frm (.mk C A E B d y m) (Con.leftP frm (.mk kl H I hl al cl pl) [])) P O zaa_) rfl (.cons _ (@List.perm_append_comm _ [_] _)) zt rfl λx=>?_));obtain⟨a2,Y⟩:=x;refine u_ (@List.perm_append_comm _ _ [_]) (Zz 2 ?_);refine M_ (λ_ a b=>⟨Vw.sat.sub a,b⟩) (Zz 2 ?_)
        have e:Ax.pieces frm ⟨k,V,(.mk kl H I hl al cl pl),(.mk C A E B d y m),ad,cap,L,N,a,b⟩=(ins frm (Con.leftP frm (.mk C A E B d y m) (Con.leftP frm (.mk kl H I hl al cl pl) [])) ⟨2,(Con.atom (.mk kl H I hl al cl pl)),(Con.atom (.mk C A E B d y m)),[33],[],[],[],0,0,0⟩):=by
          unfold Ax.pieces;dsimp only
          repeat (first|rfl|(rw[yaq_ zaa_])|(rw[yag_ zaa_]))
        exact cj_ ey_ ⟨a2,by rw[e];exact Y⟩ rfl (F:=[_]) (@List.perm_append_comm _ [_] _) zt
    . obtain⟨fl,zl⟩:=Con.check_zero (G.left (by show k<=3;omega));dsimp only at fl zl;obtain⟨fr,zr⟩:=Con.check_zero (G.right zaW_);dsimp only at fr zr;refine Zz 9 ?_;refine O_ (hw_ (kb:=kb) (bk:=bk) (bs:=bl) _ (.mk kl H I hl al cl pl) (yad_ _) K.left fl [] q hq zaa_) rfl rfl (@List.perm_append_comm _ [_] _) (λv _ h=>by exact⟨h.2.2.2.1.1,h.2.2.2.2.1,h.1,h.2.1,trivial⟩) rfl λx=>?_;obtain⟨M,J⟩:=x;have T:=Con.leftP_len frm _ (.mk kl H I hl al cl pl) (yad_ _) [];refine u_ (@List.perm_append_comm _ _ [_]) (Zz 7 ?_);refine O_ (fH_ (kb:=kb) (bk:=bk) (bs:=br) _ (.mk C A E B d y m) (yad_ _) K.right fr (Con.leftP frm (.mk kl H I hl al cl pl) []) M J zaa_) rfl rfl (@List.perm_append_comm _ [_] _) (λv _ h=>by exact⟨h.2.2.2.1.2.1,h.2.2.2.2.1,h.1,h.2.2.1,trivial⟩) rfl λx=>?_;obtain⟨P,O⟩:=x;have hb_2:=Con.rightP_len frm _ (.mk C A E B d y m) (yad_ _) (Con.leftP frm (.mk kl H I hl al cl pl) []);refine u_ (@List.perm_append_comm _ _ [_]) (Zz 3 ?_);refine Y_ [(S,.cells (Ax.cells (Ax.mk k V (Con.mk kl H I hl al cl pl) (Con.mk C A E B d y m) ad cap L N a b)).toArray 30 (0,0))] zk ?_;refine G_ 5 [0,1,2,4,5] zk (λ_ a b=>⟨Vw.sat.sub a,b⟩) (Zz 6 ?_);refine m_ 3 rfl zk (f_ (co_ (.mk kl H I hl al cl pl) K.left) rfl (.refl _) (λv _ h=>⟨h.2.2.2.1.1,h.2.2.2.2.1,trivial⟩) rfl λ_=>Zz 2 ?_);refine M_ (λ_ a b=>⟨Vw.sat.sub a,b⟩) (m_ 6 rfl zk (f_ (co_ (.mk C A E B d y m) K.right) rfl (.refl _) (λv _ h=>⟨h.2.2.2.1.2.1,h.2.2.2.2.1,trivial⟩) rfl λ_=>Zz 2 ?_));refine M_ (λ_ a b=>⟨Vw.sat.sub a,b⟩) (G_ 2 [7] zk (λ_ a b=>⟨Vw.sat.sub a,b⟩) (N_ rfl (y_ dA_ rfl rfl) rfl (bX_ (m_ 8 rfl zk (B_ H_ K_ T_ rfl rfl rfl rfl rfl rfl λU=>Zz 2 ?_)))));refine M_ (λ_ a b=>⟨Vw.sat.sub a.tail,b⟩) (m_ 9 rfl zk (f_ (dD_ ⟨1,(Con.atom (.mk kl H I hl al cl pl)),[],(Con.atom (.mk C A E B d y m)),[],[],[],0,0,0⟩ frm (Con.rightP frm (.mk C A E B d y m) (Con.leftP frm (.mk kl H I hl al cl pl) [])) P O zaa_) rfl (.cons _ (@List.perm_append_comm _ [_] _)) zt rfl λx=>?_));obtain⟨a2,Y⟩:=x;have hb_3:=cH_ frm (Con.rightP frm (.mk C A E B d y m) (Con.leftP frm (.mk kl H I hl al cl pl) [])) ⟨1,(Con.atom (.mk kl H I hl al cl pl)),[],(Con.atom (.mk C A E B d y m)),[],[],[],0,0,0⟩;refine u_ (@List.perm_append_comm _ _ [_]) (Zz 2 ?_);refine M_ (λ_ a b=>⟨Vw.sat.sub a,b⟩) (Zz 7 ?_);refine O_ (hw_ (kb:=kb) (bk:=bk) (bs:=bl) _ (.mk C A E B d y m) (yad_ _) K.right fr (ins frm (Con.rightP frm (.mk C A E B d y m) (Con.leftP frm (.mk kl H I hl al cl pl) [])) ⟨1,(Con.atom (.mk kl H I hl al cl pl)),[],(Con.atom (.mk C A E B d y m)),[],[],[],0,0,0⟩) a2 Y zaa_) rfl rfl (@List.perm_append_comm _ [_] _) (λv _ h=>by exact⟨h.2.2.2.1.2.1,h.2.2.2.2.1,h.1,h.2.1,trivial⟩) rfl λx=>?_;obtain⟨q_4,hq_4⟩:=x;have hb_4:=Con.leftP_len frm _ (.mk C A E B d y m) (yad_ _) (ins frm (Con.rightP frm (.mk C A E B d y m) (Con.leftP frm (.mk kl H I hl al cl pl) [])) ⟨1,(Con.atom (.mk kl H I hl al cl pl)),[],(Con.atom (.mk C A E B d y m)),[],[],[],0,0,0⟩);refine u_ (@List.perm_append_comm _ _ [_]) (Zz 7 ?_);refine O_ (fH_ (kb:=kb) (bk:=bk) (bs:=br) _ (.mk kl H I hl al cl pl) (yad_ _) K.left fl (Con.leftP frm (.mk C A E B d y m) (ins frm (Con.rightP frm (.mk C A E B d y m) (Con.leftP frm (.mk kl H I hl al cl pl) [])) ⟨1,(Con.atom (.mk kl H I hl al cl pl)),[],(Con.atom (.mk C A E B d y m)),[],[],[],0,0,0⟩)) q_4 hq_4 zaa_) rfl rfl (@List.perm_append_comm _ [_] _) (λv _ h=>by exact⟨h.2.2.2.1.1,h.2.2.2.2.1,h.1,h.2.2.1,trivial⟩) rfl λx=>?_;obtain⟨q_5,hq_5⟩:=x;have hb_5:=Con.rightP_len frm _ (.mk kl H I hl al cl pl) (yad_ _) (Con.leftP frm (.mk C A E B d y m) (ins frm (Con.rightP frm (.mk C A E B d y m) (Con.leftP frm (.mk kl H I hl al cl pl) [])) ⟨1,(Con.atom (.mk kl H I hl al cl pl)),[],(Con.atom (.mk C A E B d y m)),[],[],[],0,0,0⟩));refine u_ (@List.perm_append_comm _ _ [_]) (Zz 2 ?_);refine Y_ [(S,.cells (Ax.cells (Ax.mk k V (Con.mk kl H I hl al cl pl) (Con.mk C A E B d y m) ad cap L N a b)).toArray 30 (0,0))] zk ?_;refine G_ 5 [0,1,2,4,5] zk (λ_ a b=>⟨Vw.sat.sub a,b⟩) (Zz 6 ?_);refine m_ 3 rfl zk (f_ (co_ (.mk C A E B d y m) K.right) rfl (.refl _) (λv _ h=>⟨h.2.2.2.1.2.1,h.2.2.2.2.1,trivial⟩) rfl λ_=>Zz 2 ?_);refine M_ (λ_ a b=>⟨Vw.sat.sub a,b⟩) (m_ 6 rfl zk (f_ (co_ (.mk kl H I hl al cl pl) K.left) rfl (.refl _) (λv _ h=>⟨h.2.2.2.1.1,h.2.2.2.2.1,trivial⟩) rfl λ_=>Zz 2 ?_));refine M_ (λ_ a b=>⟨Vw.sat.sub a,b⟩) (G_ 2 [7] zk (λ_ a b=>⟨Vw.sat.sub a,b⟩) (N_ rfl (y_ dA_ rfl rfl) rfl (bX_ (m_ 8 rfl zk (B_ H_ K_ T_ rfl rfl rfl rfl rfl rfl λb_3=>Zz 2 ?_)))));refine M_ (λ_ a b=>⟨Vw.sat.sub a.tail,b⟩) (m_ 9 rfl zk (f_ (dD_ ⟨1,(Con.atom (.mk C A E B d y m)),[],(Con.atom (.mk kl H I hl al cl pl)),[],[],[],0,0,0⟩ frm (Con.rightP frm (.mk kl H I hl al cl pl) (Con.leftP frm (.mk C A E B d y m) (ins frm (Con.rightP frm (.mk C A E B d y m) (Con.leftP frm (.mk kl H I hl al cl pl) [])) ⟨1,(Con.atom (.mk kl H I hl al cl pl)),[],(Con.atom (.mk C A E B d y m)),[],[],[],0,0,0⟩))) q_5 hq_5 zaa_) rfl (.cons _ (@List.perm_append_comm _ [_] _)) zt rfl λx=>?_));obtain⟨q_6,hq_6⟩:=x;refine u_ (@List.perm_append_comm _ _ [_]) (Zz 2 ?_);refine M_ (λ_ a b=>⟨Vw.sat.sub a,b⟩) (Zz 2 ?_)
      have e:Ax.pieces frm ⟨k,V,(.mk kl H I hl al cl pl),(.mk C A E B d y m),ad,cap,L,N,a,b⟩=(ins frm (Con.rightP frm (.mk kl H I hl al cl pl) (Con.leftP frm (.mk C A E B d y m) (ins frm (Con.rightP frm (.mk C A E B d y m) (Con.leftP frm (.mk kl H I hl al cl pl) [])) ⟨1,(Con.atom (.mk kl H I hl al cl pl)),[],(Con.atom (.mk C A E B d y m)),[],[],[],0,0,0⟩))) ⟨1,(Con.atom (.mk C A E B d y m)),[],(Con.atom (.mk kl H I hl al cl pl)),[],[],[],0,0,0⟩):=by
        unfold Ax.pieces;dsimp only
        repeat (first|rfl|(rw[yaq_ zaa_])|(rw[yag_ zaa_]))
      exact cj_ ey_ ⟨q_6,by rw[e];exact hq_6⟩ rfl (F:=[_]) (@List.perm_append_comm _ [_] _) zt
  . obtain⟨fl,zl⟩:=Con.check_zero (G.left (by show k<=3;omega));dsimp only at fl zl;obtain⟨fr,zr⟩:=Con.check_zero (G.right zaW_);dsimp only at fr zr;refine Zz 9 ?_;refine O_ (hw_ (kb:=kb) (bk:=bk) (bs:=bl) _ (.mk kl H I hl al cl pl) (yad_ _) K.left fl [] q hq zaa_) rfl rfl (@List.perm_append_comm _ [_] _) (λv _ h=>by exact⟨h.2.2.2.1.1,h.2.2.2.2.1,h.1,h.2.1,trivial⟩) rfl λx=>?_;obtain⟨M,J⟩:=x;have T:=Con.leftP_len frm _ (.mk kl H I hl al cl pl) (yad_ _) [];refine u_ (@List.perm_append_comm _ _ [_]) (Zz 7 ?_);refine O_ (fH_ (kb:=kb) (bk:=bk) (bs:=br) _ (.mk C A E B d y m) (yad_ _) K.right fr (Con.leftP frm (.mk kl H I hl al cl pl) []) M J zaa_) rfl rfl (@List.perm_append_comm _ [_] _) (λv _ h=>by exact⟨h.2.2.2.1.2.1,h.2.2.2.2.1,h.1,h.2.2.1,trivial⟩) rfl λx=>?_;obtain⟨P,O⟩:=x;have hb_2:=Con.rightP_len frm _ (.mk C A E B d y m) (yad_ _) (Con.leftP frm (.mk kl H I hl al cl pl) []);refine u_ (@List.perm_append_comm _ _ [_]) (Zz 2 ?_);refine Y_ [(S,.cells (Ax.cells (Ax.mk k V (Con.mk kl H I hl al cl pl) (Con.mk C A E B d y m) ad cap L N a b)).toArray 30 (0,0))] zk ?_;refine G_ 5 [0,1,2,4,5] zk (λ_ a b=>⟨Vw.sat.sub a,b⟩) (Zz 6 ?_);refine m_ 3 rfl zk (f_ (co_ (.mk kl H I hl al cl pl) K.left) rfl (.refl _) (λv _ h=>⟨h.2.2.2.1.1,h.2.2.2.2.1,trivial⟩) rfl λ_=>Zz 2 ?_);refine M_ (λ_ a b=>⟨Vw.sat.sub a,b⟩) (m_ 6 rfl zk (f_ (co_ (.mk C A E B d y m) K.right) rfl (.refl _) (λv _ h=>⟨h.2.2.2.1.2.1,h.2.2.2.2.1,trivial⟩) rfl λ_=>Zz 2 ?_));refine M_ (λ_ a b=>⟨Vw.sat.sub a,b⟩) (G_ 2 [7] zk (λ_ a b=>⟨Vw.sat.sub a,b⟩) (N_ rfl (y_ dA_ rfl rfl) rfl (bX_ (m_ 8 rfl zk (B_ H_ K_ T_ rfl rfl rfl rfl rfl rfl λU=>Zz 2 ?_)))));refine M_ (λ_ a b=>⟨Vw.sat.sub a.tail,b⟩) (m_ 9 rfl zk (f_ (dD_ ⟨1,(Con.atom (.mk kl H I hl al cl pl)),[],(Con.atom (.mk C A E B d y m)),[],[],[],0,0,0⟩ frm (Con.rightP frm (.mk C A E B d y m) (Con.leftP frm (.mk kl H I hl al cl pl) [])) P O zaa_) rfl (.cons _ (@List.perm_append_comm _ [_] _)) zt rfl λx=>?_));obtain⟨a2,Y⟩:=x;refine u_ (@List.perm_append_comm _ _ [_]) (Zz 2 ?_);refine M_ (λ_ a b=>⟨Vw.sat.sub a,b⟩) (Zz 2 ?_)
    have e:Ax.pieces frm ⟨k,V,(.mk kl H I hl al cl pl),(.mk C A E B d y m),ad,cap,L,N,a,b⟩=(ins frm (Con.rightP frm (.mk C A E B d y m) (Con.leftP frm (.mk kl H I hl al cl pl) [])) ⟨1,(Con.atom (.mk kl H I hl al cl pl)),[],(Con.atom (.mk C A E B d y m)),[],[],[],0,0,0⟩):=by
      unfold Ax.pieces;dsimp only
      repeat (first|rfl|(rw[yaq_ zaa_])|(rw[yag_ zaa_]))
    exact cj_ ey_ ⟨a2,by rw[e];exact Y⟩ rfl (F:=[_]) (@List.perm_append_comm _ [_] _) zt
theorem at_.form {e:TypeId} {sz n:Nat} {sv:Value} {xs:List Value} {Hr:Hp} (h:at_ e sz sv n xs Hr):∃ ad cap,sv=.slice ad n cap:=by
  rcases h.2 with⟨d,k,_⟩|⟨g,cap,cur,d,_⟩
  all_goals grind
theorem at_.nilcap {e:TypeId} {sz n m cap:Nat} {sv:Value} {xs:List Value} {Hr:Hp} {ad:Ao} (h:at_ e sz sv n xs Hr) (v:sv=.slice ad m cap):ad=none->cap=0:=λk=>by
  rcases h.2 with⟨d,_,_⟩|⟨g,c,cur,d,_⟩
  all_goals grind
theorem lP_ (l:List Ax) (ad:Ao) (cap:Nat) (a7:l.length<=2199023255488) (U:∀ x∈l,x.ok) :
    Tri prog 66 #[.slice ad l.length cap] [] [bZ_ ad l,bE_] (λy:{y:Ao×Nat // (aM_ l).1.length<=y.2/\y.2<=maxLen/\(y.1=none->y.2=0)}=>.tuple #[.slice y.1.1 (aM_ l).1.length y.1.2,i4_ (aM_ l).2]) (λ_=>[]) (λy=>[X_ y.1.1 ((aM_ l).1.flatMap Pc.cells)]):=by
  refine j_ func66 rfl rfl ntmps66 rfl λv_1=>?_;refine au_ ?_;refine ad_ ?_;refine d_ (ay_ rfl) rfl ?_;refine d_ (ay_ rfl) rfl ?_;refine aD_ ?_;refine ap_ rfl ?_;refine au_ ?_;refine au_ ?_;refine ad_ ?_;refine d_ (ab_ rfl) rfl ?_;refine d_ (dS_ aN_ rfl) rfl ?_;refine F_ (dq_ rfl rfl) rfl λa2 C=>?_;refine aD_ ?_;refine ap_ rfl ?_;cases a2
  . replace C:=zdf C;refine cu_ rfl ?_;refine dr_ ?_;refine ap_ rfl ?_;refine au_ ?_;refine au_ ?_;refine ad_ ?_;refine d_ (ab_ rfl) rfl ?_;refine d_ (dS_ aN_ rfl) rfl ?_;refine d_ (ab_ rfl) rfl ?_;refine aD_ ?_;refine ap_ rfl ?_;refine dX_ ?_;refine bF_ [(0,.slice ad l.length cap),(2,.slice none 0 0),(13,.slice ad l.length cap),(14,i4_ l.length),(15,i4_ ((0:Nat):Int))] zl ?_;refine bY_ (ι:={q:Nat // q<=l.length/\∀ y∈l.take q,y.check=0}) (λi=>[(0,.slice ad l.length cap),(2,.slice none 0 0),(13,.slice ad l.length cap),(14,i4_ l.length),(15,i4_ i.1)]) (λ_=>_) (λ_=>_) (λi=>l.length - i.1) ⟨0,by simp⟩ ?_;rintro ⟨i,hk⟩;refine bF_ [(0,.slice ad l.length cap),(2,.slice none 0 0),(13,.slice ad l.length cap),(14,i4_ l.length),(15,i4_ i)] zl ?_;refine au_ ?_;refine ad_ ?_;refine F_ (cO_ rfl rfl) rfl λa1 I=>?_;refine aD_ ?_;refine ap_ rfl ?_;refine au_ ?_;cases a1
    . replace I:=zdf I;obtain rfl:i=l.length:=by omega
      try rw[ybB_]at hk
      refine cu_ rfl ?_;refine jh_ rfl ?_;refine ap_ rfl ?_;refine au_ ?_;refine au_ ?_;refine ad_ ?_;refine d_ (ab_ rfl) rfl ?_;refine d_ (dS_ aN_ rfl) rfl ?_;refine d_ (ab_ rfl) rfl ?_;refine aD_ ?_;refine ap_ rfl ?_;refine dX_ ?_;have H:=hk.2;refine bF_ [(2,.slice none 0 0),(25,.slice ad l.length cap),(26,i4_ l.length),(27,i4_ ((0:Nat):Int))] zl ?_;refine bY_ (ι:={x:Nat×List Pc×Value×Hp // x.1<=l.length/\at_ 80 10 x.2.2.1 x.2.1.length (x.2.1.flatMap Pc.cells) x.2.2.2/\x.2.1.length<=16384/\gU_ 0 l []=gU_ x.1 (l.drop x.1) x.2.1}) (λx=>[(2,x.1.2.2.1),(25,.slice ad l.length cap),(26,i4_ l.length),(27,i4_ x.1.1)]) (λx=>x.1.2.2.2) (λ_=>_) (λx=>l.length - x.1.1) ⟨(0,[],.slice none 0 0,[]),by simp,at_.nil _ _,by simp,rfl⟩ ?_;clear hk;rintro ⟨⟨i,p,sv,Hr⟩,hk⟩;dsimp only at hk;refine bF_ [(2,sv),(25,.slice ad l.length cap),(26,i4_ l.length),(27,i4_ i)] zl ?_;refine au_ ?_;refine ad_ ?_;refine F_ (cO_ rfl rfl) rfl λQ d=>?_;refine aD_ ?_;refine ap_ rfl ?_;refine au_ ?_;cases Q
      . replace d:=zdf d;obtain rfl:i=l.length:=by omega
        try rw[ybB_]at hk
        refine cu_ rfl ?_;refine jh_ rfl ?_;refine ap_ rfl ?_;refine au_ ?_;refine ad_ ?_;refine d_ (ab_ rfl) rfl ?_;refine d_ (ay_ rfl) rfl ?_;refine d_ (ay_ rfl) rfl ?_;refine aD_ ?_;refine ap_ rfl ?_;refine gl_ ?_;refine dg_ hk.2.1 (F:=[]) (by rw[yas_]) λm k L T X=>?_
        have e:aM_ l=(p,0):=by
          unfold aM_;rw[yag_ zaa_,yag_ (by simp[fL_ H]),hk.2.2.2,List.drop_length];first|done|rfl
        have A:(aM_ l).1.length<=k/\k<=maxLen/\(m=none->k=0):=by rw[e];exact⟨T,X,at_.nilcap hk.2.1 L⟩
        have O:Value.tuple #[sv,i4_ 0]=.tuple #[.slice m (aM_ l).1.length k,i4_ (aM_ l).2]:=by rw[e,L]
        have P:(p.flatMap Pc.cells)=((aM_ l).1.flatMap Pc.cells):=by rw[e]
        exact eI_ results66 ⟨(m,k),A⟩ rfl rfl O (.refl _) (λv _ h=>⟨P▸h.1,trivial⟩)
      . replace d:=zdt d;have K:i<l.length:=by omega
        obtain⟨x,J⟩:∃ x,l[i]? = some x:=⟨_,yaa_ K⟩;have B:x∈l:=yab_ J;refine bG_ rfl ?_;refine dr_ ?_;refine ap_ rfl ?_;refine au_ ?_;refine dX_ ?_;refine au_ ?_;have G:=Ax.good_of (H x B);have b0:=kw_ (i:Int) G;refine ad_ ?_;refine d_ (ab_ rfl) rfl ?_;refine d_ (P_ aN_ I_ rfl rfl (λv _ h=>av_ (n:=16) Ax.cells_len zae_ (h.1.1) J) zaa_ zah_) rfl ?_;refine d_ (ak_ (ad:=ad) (us:=x.cells) bA_ I_ rfl (λv _ h=>h.1.1) (Ax.cells_len _) (A_ Ax.cells_len J)) rfl ?_;refine C_ aA_ rfl λa0=>?_;refine d_ (ay_ rfl) rfl ?_;refine oX_ (us:=x.cells) 0 I_ x.cells_len x.one_cells rfl rfl rfl rfl ?_;refine aD_ ?_;refine ap_ rfl ?_;refine au_ ?_;refine ad_ ?_;refine d_ (ab_ rfl) rfl ?_;refine f_ (jl_ (i:Int)) rfl (.refl _) zt rfl λ⟨kb,bm⟩=>?_;refine d_ (ay_ rfl) rfl ?_;refine aD_ ?_;refine ap_ rfl ?_;refine au_ ?_;refine ad_ ?_;refine d_ (ab_ rfl) rfl ?_;refine d_ (qh_ (us:=x.cells) 2 bA_ I_ x.cells_len rfl rfl) rfl ?_;refine f_ (Dp_ x (U x B) (H x B) (i:Int) ⟨.slice none 0 0,bm,#[],0,[]⟩ ⟨at_.nil _ _,rfl,by simp⟩) rfl (.refl _) (λv _ h=>⟨h.1.2 x B,h.2.1,trivial⟩) rfl λy=>?_;obtain⟨⟨a5,a9,a4,a6,a8⟩,hq⟩:=y;have S:=hq.row;dsimp only at S;have V:(x.pieces (i:Int)).length≠0:=λe=>Ax.pieces_ne _ G (yaw_ e)
        obtain⟨g,cp,cur,rfl,rfl,h_1,b3,h_3,Z⟩:=S.some V;refine aD_ ?_;refine ap_ rfl ?_;refine au_ ?_;refine ad_ ?_;refine d_ (ab_ rfl) rfl ?_;refine d_ (ab_ rfl) rfl ?_;refine d_ (lH_ rfl) rfl ?_;refine d_ (eQ_ runUnderlying142 rfl rfl rfl kJ_) rfl ?_;refine d_ (bU_ 0 isAgg69 rfl rfl rfl) rfl ?_;refine aH_ AU_ hk.2.1 rfl rfl (@List.perm_append_comm _ [_,_,_,_] _) (by rw[ch_ Pc.cells 10 Pc.cells_len]) (xU_ 2 rfl Z) (λu hu=>by obtain⟨y,_,A⟩:=yaB_.1 hu;exact jK_ y.cells_one u A) zal_ zaa_ rfl λM W N=>?_;refine u_ (@List.perm_append_comm _ _ [_,_,_,_]) ?_;have Y:∃ m k,M=.slice m (p.length+(x.pieces (i:Int)).length) k:=at_.form N;obtain⟨m,k,L⟩:=Y;refine d_ (ay_ rfl) rfl ?_;refine aD_ ?_;refine ap_ rfl ?_;refine au_ ?_;refine ad_ ?_;refine d_ (ab_ rfl) rfl ?_;refine d_ (dS_ (ad:=m) (len:=p.length+(x.pieces (i:Int)).length) (cap:=k) H_ (yae_ some L)) rfl ?_;refine F_ (dq_ rfl rfl) rfl λa3 E=>?_;refine aD_ ?_;refine ap_ rfl ?_;cases a3
        . replace E:=zdf E;refine cu_ rfl ?_;refine dr_ ?_;refine ap_ rfl ?_;refine ad_ ?_;refine d_ (aC_ rfl rfl rfl (bx_ zaa_ zaa_)) rfl ?_;refine d_ (ab_ rfl) rfl ?_;refine aD_ ?_;refine dw_ rfl ?_;exact w_ ⟨(i+1,p++x.pieces (i:Int),M,W),K,by simpa [ybu_] using N,by simp only[yaj_];omega,by rw[hk.2.2.2,lt_ J];simp only[gU_];rw[yag_ zaS_]⟩ zar_ zl (F:=[_,_,_,_]) (@List.perm_append_comm _ [_,_,_,_] _) zh
        . replace E:=zdt E;refine bG_ rfl ?_;refine au_ ?_;refine ad_ ?_;refine d_ (ay_ rfl) rfl ?_;refine d_ (ay_ rfl) rfl ?_;refine aD_ ?_;refine ap_ rfl ?_;refine gl_ ?_;have e:aM_ l=([],2):=by unfold aM_;rw[yag_ zaa_,yag_ (by simp[fL_ H]),hk.2.2.2,lt_ J];simp only[gU_];rw[yaq_ zaS_]
          have A:(aM_ l).1.length<=0/\0<=maxLen/\((none:Ao)=none->0=0):=by rw[e];simp
          have O:Value.tuple #[.slice none 0 0,i4_ 2]=.tuple #[.slice none (aM_ l).1.length 0,i4_ (aM_ l).2]:=by rw[e]<;>rfl
          have P:(aM_ l).1.flatMap Pc.cells=[]:=by rw[e]<;>rfl
          exact eI_ results66 ⟨(none,0),A⟩ rfl rfl O (.refl _) (λv _ h=>⟨.inl P,trivial⟩)
    . replace I:=zdt I;have K:i<l.length:=by omega
      obtain⟨x,J⟩:∃ x,l[i]? = some x:=⟨_,yaa_ K⟩;have B:x∈l:=yab_ J;refine bG_ rfl ?_;refine dr_ ?_;refine ap_ rfl ?_;refine au_ ?_;refine dX_ ?_;refine au_ ?_;refine ad_ ?_;refine d_ (P_ aN_ I_ rfl rfl (λv _ h=>av_ (n:=16) Ax.cells_len zae_ (h.1.1) J) zaa_ zah_) rfl ?_;refine d_ (ak_ (ad:=ad) (us:=x.cells) bA_ I_ rfl (λv _ h=>h.1.1) (Ax.cells_len _) (A_ Ax.cells_len J)) rfl ?_;refine C_ aA_ rfl λa0=>?_;refine oX_ (us:=x.cells) 0 I_ x.cells_len x.one_cells rfl rfl rfl rfl ?_;refine aD_ ?_;refine ap_ rfl ?_;refine au_ ?_;refine ad_ ?_;refine d_ (qh_ (us:=x.cells) 0 bA_ I_ x.cells_len rfl rfl) rfl ?_;refine f_ (go_ x (U x B)) rfl (.refl _) (λv _ h=>⟨h.1.2 x B,h.2.1,trivial⟩) rfl λ_=>?_;refine d_ (ay_ rfl) rfl ?_;refine aD_ ?_;refine ap_ rfl ?_;refine au_ ?_;refine ad_ ?_;refine d_ (ab_ rfl) rfl ?_;refine F_ (cq_ rfl rfl) rfl λQ d=>?_;refine aD_ ?_;refine ap_ rfl ?_;cases Q
      . replace d:=ew_ d;refine cu_ rfl ?_;refine dr_ ?_;refine ap_ rfl ?_;refine ad_ ?_;refine d_ (aC_ rfl rfl rfl (bx_ zaa_ zaa_)) rfl ?_;refine d_ (ab_ rfl) rfl ?_;refine aD_ ?_;refine dw_ rfl ?_;exact w_ ⟨i+1,K,λy A=>by rw[yau_,J]at A;simp only[ybL_,yai_,yam_]at A;rcases A with A|rfl;exact hk.2 y A;assumption⟩ zar_ zl (@List.perm_append_comm _ [_] _) zh
      . replace d:=eu_ d;refine bG_ rfl ?_;refine au_ ?_;refine ad_ ?_;refine d_ (ab_ rfl) rfl ?_;refine d_ (ay_ rfl) rfl ?_;refine d_ (ay_ rfl) rfl ?_;refine aD_ ?_;refine ap_ rfl ?_;refine gl_ ?_;have e:aM_ l=([],x.check):=by unfold aM_;rw[yag_ zaa_,ub_ J hk.2 zaf_,yaq_ zaf_]
        have A:(aM_ l).1.length<=0/\0<=maxLen/\((none:Ao)=none->0=0):=by rw[e];simp
        have O:Value.tuple #[.slice none 0 0,i4_ x.check]=.tuple #[.slice none (aM_ l).1.length 0,i4_ (aM_ l).2]:=by rw[e]<;>rfl
        have P:(aM_ l).1.flatMap Pc.cells=[]:=by rw[e]<;>rfl
        exact eI_ results66 ⟨(none,0),A⟩ rfl rfl O (.refl _) (λv _ h=>⟨.inl P,trivial⟩)
  . replace C:=zdt C;refine bG_ rfl ?_;refine au_ ?_;refine ad_ ?_;refine d_ (ay_ rfl) rfl ?_;refine d_ (ay_ rfl) rfl ?_;refine aD_ ?_;refine ap_ rfl ?_;refine gl_ ?_;have e:aM_ l=([],2):=by unfold aM_;rw[yaq_ zaa_]
    have A:(aM_ l).1.length<=0/\0<=maxLen/\((none:Ao)=none->0=0):=by rw[e];simp
    have O:Value.tuple #[.slice none 0 0,i4_ 2]=.tuple #[.slice none (aM_ l).1.length 0,i4_ (aM_ l).2]:=by rw[e]<;>rfl
    have P:(aM_ l).1.flatMap Pc.cells=[]:=by rw[e]<;>rfl
    exact eI_ results66 ⟨(none,0),A⟩ rfl rfl O (.refl _) (λv _ h=>⟨.inl P,trivial⟩)
theorem zV_ (l:List Ax) (ad:Ao) (cap:Nat) (d:l.length<=cap/\cap<=2199023255488) (e:∀ x∈l,x.ok) :
    Tri prog 66 #[.slice ad l.length cap] [] [bZ_ ad l,bE_] (λy:{y:Ao×Nat // (aM_ l).1.length<=y.2/\y.2<=maxLen/\(y.1=none->y.2=0)}=>.tuple #[.slice y.1.1 (aM_ l).1.length y.1.2,i4_ (aM_ l).2]) (λ_=>[]) (λy=>[X_ y.1.1 ((aM_ l).1.flatMap Pc.cells)]):=by grind[lP_]
theorem gt_ {N:Nf} {fr:Fr} {H:Hp} {Γ:List Fct} {ty k:TypeId} {x y:Operand} {p q:Fc} (A:Fr.ev fr x=some p.val) (h:Fr.ev fr y=some q.val):Yld prog N fr H Γ (.binOp .eql 104 x y k) ty (.bool (decide (p=q))) :=
  λa v e _ _ _ _ _=>by
    have m:(Program.eqGuardType prog Tryz.prog.depth 104)=false:=by kernel_rfl
    have d:=eqFc p q v.w;simp only[execOp,e.ev A,e.ev h,eqGuard,Fc.val,binOp,Op.equal,Sem.run_bind,Result.andThen_ok];simp only[run_program,Result.andThen_ok,m,Bool.not_false,ycq_,Sem.run_pure];simp only[Fc.val]at d;simp[Op.maxDepth,d]
theorem jD_ {N:Nf} {fr:Fr} {H:Hp} {Γ:List Fct} {ty k:TypeId} {x y:Operand} {p q:Fc} (A:Fr.ev fr x=some p.val) (h:Fr.ev fr y=some q.val):Yld prog N fr H Γ (.binOp .neq 104 x y k) ty (.bool (decide (p≠q))) :=
  λa v e _ _ _ _ _=>by
    have m:(Program.eqGuardType prog Tryz.prog.depth 104)=false:=by kernel_rfl
    have d:=eqFc p q v.w;simp only[execOp,e.ev A,e.ev h,eqGuard,Fc.val,binOp,Op.equal,Sem.run_bind,Result.andThen_ok];simp only[run_program,Result.andThen_ok,m,Bool.not_false,ycq_,Sem.run_pure];simp only[Fc.val]at d;simp[Op.maxDepth,d]
theorem rx_ (s:Str) (c:UInt8):Fn0 prog 392 #[str s,str [c]] (i4_ (Lib.indexByte s c)) :=
  ip_ (callable func392 rfl rfl) λw=>(Tryz.strings_Index_one ⟨s.toArray⟩ c w).mono zak_
theorem pV_ (s:Str) (c:UInt8) (k:Nat) (hk:ixS c s=some k):Fn0 prog 392 #[str s,str [c]] (i4_ k):=by
  grind[rx_,nP_]
theorem zG_ (s:Str) (c:UInt8):Fn0 prog 391 #[str s,str [c]] (i4_ (dZ_ c s:Int)) :=
  ip_ (callable func391 rfl rfl) λw=>(Tryz.strings_Count_one ⟨s.toArray⟩ c w).mono (by rintro e w' ⟨rfl,rfl⟩;exact⟨rfl,rfl,rfl,rfl,rfl,yad_ _⟩)
theorem ok_H {N:Nf} {m:Vw} {d:Hp} {k:Act->World->Prop} {fr:Fr} {H H':Hp} {Γ:List Fct} (e:H=H') (h:Ok N m d k fr H' Γ):Ok N m d k fr H Γ:=e▸h
theorem vA_ (s:Str) (c:UInt8) (M:s.length<=17592186044414):Tri prog 370 #[str s,str [c],i4_ 0,i4_ (-1)] [] [] (λb:Nat=>.slice (some ⟨b,0,none⟩) (bD_ c s).length (bD_ c s).length) (λ_=>[]) (λb=>[X_ (some ⟨b,0,none⟩) ((bD_ c s).flatMap aa_)]):=by
 have L:=De_ c s;refine j_ func370 rfl rfl ntmps370 rfl λI=>?_;refine Zi 9 (λA=>?_) λA=>?_
 .refine Zi 9 (λB=>?_) λB=>?_
  .refine Zi 9 (λy=>?_) λy=>?_
   .exact absurd zae_ y
   refine Zz 6 ?_;refine f_ (zG_ s c) rfl (.refl _) zt rfl λ_=>Zz 8 ?_
   refine d_ (dp_ Q_ rfl) rfl (Zz 1 ?_);refine d_ (ai_ (vU_ rfl rfl) (show _=i4_ ((dZ_ c s+1:Nat):Int) by rw[yag_ zaa_];rfl)) rfl ?_;refine Zz 6 ?_;refine xY_ (n:=dZ_ c s+1) (by':=16) iV_ (z:=.string ⟨#[]⟩) zk rfl rfl rfl zaa_ zaa_ rfl λd=>Zz 6 ?_
   refine d_ (ai_ (aC_ rfl rfl rfl (bx_ zaa_ zaa_)) (show _=i4_ (dZ_ c s:Int) by first|rfl|(congr 1;omega))) rfl ?_;refine Zz 10 ?_;refine bF_ [(0,str s),(1,str [c]),(2,i4_ 0),(3,i4_ (dZ_ c s:Int)),(9,.slice (some ⟨d,0,none⟩) (dZ_ c s+1) (dZ_ c s+1)),(10,i4_ ((0:Nat):Int))] zl ?_;refine bY_ (ι:={x:Nat×List Str×Str // x.2.1.length=x.1/\bD_ c s=x.2.1++bD_ c x.2.2/\x.1+dZ_ c x.2.2=dZ_ c s/\x.2.2.length<=s.length}) (λx=>[(0,str x.1.2.2),(1,str [c]),(2,i4_ 0),(3,i4_ (dZ_ c s:Int)),(9,.slice (some ⟨d,0,none⟩) (dZ_ c s+1) (dZ_ c s+1)),(10,i4_ x.1.1)]) (λx=>[(d,.cells (x.1.2.1.map str++List.replicate (dZ_ c s+1 - x.1.1) (Value.string ⟨#[]⟩)).toArray 9 (0,0))]) (λ_=>_) (λx=>dZ_ c s - x.1.1) ⟨(0,[],s),rfl,rfl,by simp,by simp⟩ ?_;rintro ⟨⟨i,dn,r⟩,hk⟩;dsimp only at hk;obtain⟨m,h,G,H⟩:=hk;refine bF_ [(0,str r),(1,str [c]),(2,i4_ 0),(3,i4_ (dZ_ c s:Int)),(9,.slice (some ⟨d,0,none⟩) (dZ_ c s+1) (dZ_ c s+1)),(10,i4_ i)] zl ?_;have E:∀ k,k<dZ_ c s+1->List.replicate (dZ_ c s+1 - k) (Value.string ⟨#[]⟩)=Value.string ⟨#[]⟩::List.replicate (dZ_ c s - k) (Value.string ⟨#[]⟩):=λk hk=>by rw[show dZ_ c s+1 - k=(dZ_ c s - k)+1 by omega];rfl
   refine ok_H (H':=[(d,.cells (dn.map str++Value.string ⟨#[]⟩::List.replicate (dZ_ c s - i) (Value.string ⟨#[]⟩)).toArray 9 (0,0))]) (by dsimp only;rw[E i zaa_]) ?_;refine Zi 5 (λC=>?_) λC=>?_
   .obtain rfl:i=dZ_ c s:=by omega
    have e : bD_ c r = [r] := by
                  cases hx:ixS c r with
                  | none=>exact hi_ hx
                  | some k=>have:=re_ hx;omega
    rw[e]at h;refine Zz 10 ?_;refine d_ (ft_ n_ D_ rfl rfl zaa_ zaa_) rfl (oY_ 0 D_ rfl rfl rfl (by simp[m]) rfl rfl (Zz 6 ?_));refine d_ (ai_ (aC_ rfl rfl rfl (bx_ zaa_ zaa_)) (show _=i4_ ((dZ_ c s+1:Nat):Int) by first|rfl|(congr 1;omega))) rfl ?_;refine d_ (ai_ (cD_ (i:=0) (j:=dZ_ c s+1) (kl:=.i64) (kh:=.i64) n_ D_ rfl rfl rfl zaa_ zaa_) (show _=Value.slice (some ⟨d,0,none⟩) (dZ_ c s+1) (dZ_ c s+1) by rw[sU_];rfl)) rfl ?_;refine Zz 4 ?_;refine U_ ((bD_ c s).flatMap aa_) e_ (by rw[h,oE_];simp) ?_;have hl:=fx_ c s;exact ac_ results370 d (ec_ rfl (by rw[hl])) (.refl _) zf
   obtain ⟨k, v⟩ : ∃ k, ixS c r = some k := by
                 cases hx:ixS c r with
                 | none=>have:=yE_ hx;omega
                 | some k=>exact⟨k,rfl⟩
   have K:=re_ v;have J:=vt_ v;refine Zz 10 ?_;refine f_ (pV_ r c k v) rfl (.refl _) zt rfl λ_=>Zi 7 (λe=>?_) λe=>?_
   .refine Zz 12 ?_
    refine d_ (ai_ (aC_ rfl rfl rfl (bx_ zaa_ zaa_)) (show _=i4_ k by first|rfl|(congr 1;omega))) rfl ?_;refine d_ (ai_ (fq_ (i:=0) (j:=k) (kl:=.i64) (kh:=.i64) Q_ rfl rfl rfl zaa_ zaa_) (show _=str (r.take k) by simp)) rfl (d_ (ft_ n_ D_ rfl rfl zaa_ zaa_) rfl (oY_ 0 D_ rfl rfl rfl (by simp[m]) rfl rfl (Zz 7 ?_)));refine d_ (dp_ Q_ rfl) rfl (d_ (ai_ (aC_ rfl rfl rfl (bx_ zao_ zao_)) (show _=i4_ ((k+1:Nat):Int) by first|rfl|(congr 1;omega))) rfl ?_);refine d_ (ai_ (fq_ (i:=k+1) (j:=r.length) (kl:=.i64) (kh:=.i64) Q_ rfl rfl rfl zaa_ zaa_) (show _=str (r.drop (k+1)) by rw[yac_ zai_])) rfl (Zz 5 ?_);refine d_ (ai_ (aC_ rfl rfl rfl (bx_ zaa_ zaa_)) (show _=i4_ ((i+1:Nat):Int) by first|rfl|(congr 1;omega))) rfl ?_;refine Zz 3 ?_;exact w_ ⟨(i+1,dn++[r.take k],r.drop (k+1)),by simp[m],by rw[h,jc_ v,yap_];rfl,by dsimp only;omega,by simp;omega⟩ zab_ zl (F:=[]) (ycG_ (by simp[show dZ_ c s+1 - (i+1)=dZ_ c s - i by omega])) zh
   exfalso;omega
  cases B
 exact absurd A zae_
theorem BZ_ (s:Str) (c:UInt8) (d:s.length<=17592186044414):Tri prog 332 #[str s,str [c]] [] [] (λb:Nat=>.slice (some ⟨b,0,none⟩) (bD_ c s).length (bD_ c s).length) (λ_=>[]) (λb=>[X_ (some ⟨b,0,none⟩) ((bD_ c s).flatMap aa_)]):=by
  refine j_ func332 rfl rfl ntmps332 rfl λe=>?_;refine Zz 9 ?_;refine f_ (vA_ s c d) rfl (.refl _) zt rfl λb=>Zz 4 ?_
  exact ac_ results332 b rfl (.refl _) zf
theorem rR_ {g:FuncId} {pred:Str->Bool} (xs:List Str) (ad:Ao) (cap:Nat) (A:xs.length<=17592186044415) (C:∀ x∈xs,Fn0 prog g #[str x] (.bool (pred x))) :
    Tri prog 371 #[.slice ad xs.length cap,.func (.func g) #[] #[]] [] [X_ ad (xs.flatMap aa_)] (λr:{r:Int // decide (0<=r)=xs.any pred}=>i4_ r.1) (λ_=>[]) (λ_=>[]):=by
  refine j_ func371 rfl rfl ntmps371 rfl λB=>?_;refine Zz 14 ?_;refine bF_ [(0,.slice ad xs.length cap),(1,.func (.func g) #[] #[]),(7,i4_ (List.length xs:Int)),(8,i4_ ((0:Nat):Int))] zl ?_;refine bY_ (ι:={q:Nat // q<=xs.length/\(xs.take q).any pred=false}) (λi=>[(0,.slice ad xs.length cap),(1,.func (.func g) #[] #[]),(7,i4_ (List.length xs:Int)),(8,i4_ i.1)]) (λ_=>_) (λ_=>_) (λi=>xs.length - i.1) ⟨0,by simp⟩ ?_;rintro ⟨i,hk⟩;refine bF_ [(0,.slice ad xs.length cap),(1,.func (.func g) #[] #[]),(7,i4_ (List.length xs:Int)),(8,i4_ i)] zl ?_;refine Zi 2 (λm=>?_) λm=>?_
  . refine Zz 12 ?_;exact ac_ results371 ⟨-1,by have:=hk.2;rw[yac_ zaa_]at this;show _=xs.any pred;rw[this];rfl⟩ rfl (.refl _) zt
  . obtain⟨e,k,h,d⟩:=zge (show i<xs.length by omega);refine Zz 21 ?_;refine cb_ (C k d) rfl rfl i_ zt rfl λv y=>Zz 2 ?_
    cases v
    . refine Zz 8 ?_;exact w_ ⟨i+1,e,by rw[yau_,h];simp only[ybL_,List.any_append,hk.2];simp[*]⟩ zar_ zl (.refl _) zh
    . refine Zz 8 ?_;exact ac_ results371 ⟨(i:Int),by show _=xs.any pred;rw[show xs.any pred=true from yco_.2 ⟨k,d,by assumption⟩];exact yaW_ zaa_⟩ rfl (.refl _) zt
theorem nB_ {g:FuncId} {pred:Str->Bool} (xs:List Str) (ad:Ao) (cap:Nat) (d:xs.length<=17592186044415) (h:∀ x∈xs,Fn0 prog g #[str x] (.bool (pred x))) :
    Tri prog 333 #[.slice ad xs.length cap,.func (.func g) #[] #[]] [] [X_ ad (xs.flatMap aa_)] (λ_:Unit=>.bool (xs.any pred)) (λ_=>[]) (λ_=>[]):=by
  refine j_ func333 rfl rfl ntmps333 rfl λm=>?_;refine Zz 9 ?_;refine f_ (rR_ xs ad cap d h) rfl i_ zf rfl λx=>F_ (er_ rfl rfl) rfl λk e=>Zz 4 ?_
  exact ac_ results333 () (z_ rfl (e.symm.trans x.2)) (.refl _) zt
theorem yo_ (s:Str) (d:s.length<=140737488351232):Fn0 prog 334 #[str s] (.bool (!bg_ s)):=by
  refine j_ func334 rfl rfl ntmps334 rfl λh=>?_;refine Zz 8 ?_;refine aq_ (gT_ s d) rfl i_ zt rfl λk e=>d_ (aK_ rfl) rfl (Zz 4 ?_)
  exact ac_ results334 () (z_ rfl (by simp[*])) (.refl _) zt
theorem ii_ {c:UInt8}:∀ {s x:Str},x∈bD_ c s->x.length<=s.length
 | [],x,h=>by grind[bD_]
 | b::s,x,h=>by
   simp only[bD_]at h
   split at h
   . rcases yal_.1 h with rfl|h
     . simp
     . have:=ii_ h;grind
   . cases hs:bD_ c s with
     | nil=>grind
     | cons y t =>
       rw[hs]at h;rcases yal_.1 h with rfl|h
       . have:=ii_ (c:=c) (s:=s) (x:=y) zak_;grind
       . have:=ii_ (c:=c) (s:=s) (x:=x) zak_;grind
theorem mo_ {G:Prop} (h:G:=by
 exact ac_ results288 () (z_ rfl (by unfold cL_;subst_vars;rw[ybh_];simp_all<;>omega)) (.refl _) zt):G:=h
theorem jo_ (s:Str) (v:s.length<=17592186044414):Fn0 prog 288 #[str s] (.bool (cL_ s)):=by
 refine j_ func288 rfl rfl ntmps288 rfl λh=>?_;have k:=fx_ 46 s;refine Zz 8 ?_;refine f_ (BZ_ s 46 v) rfl i_ zt rfl λb=>Zi 7 (λd=>?_) λd=>?_
 .refine Zz 9 ?_
  exact mo_
 refine Zz 4 ?_;refine aq_ (nB_ (pred:=λr=>!bg_ r) (bD_ 46 s) _ _ zaa_ (λx y=>yo_ x (by have:=ii_ y;omega))) rfl i_ zf rfl λm e=>?_;refine ar_ rfl rfl (d_ (aK_ rfl) rfl (Zz 5 ?_));exact mo_
theorem ml_ {G:Prop} (h:G:=by
 refine aq_ (gT_ _ zaT_) rfl i_ zt rfl λk v=>?_;exact fN_):G:=h
theorem mm_ {G:Prop} (h:G:=by
 refine aq_ (gT_ _ zaT_) rfl i_ zt rfl λk d=>?_;exact fN_):G:=h
theorem mn_ {G:Prop} (h:G:=by
 refine aq_ (gT_ _ zaT_) rfl i_ zt rfl λk h=>?_;exact fN_):G:=h
theorem fN_ {G:Prop} (h:G:=by
 refine Zz 4 ?_;exact fO_):G:=h
theorem fO_ {G:Prop} (h:G:=by
 exact ac_ results290 () (z_ rfl zaP_) (.refl _) zt):G:=h
theorem hN_ (s:Str) (y:s.length<=140737488351232):Fn0 prog 290 #[str s] (.bool (bh_ s)):=by
 refine j_ func290 rfl rfl ntmps290 rfl λL=>?_;refine Zz 8 ?_;refine d_ (dp_ Q_ rfl) rfl (Zi 8 (λC=>?_) λC=>?_)
 .refine Zi 4 (λE=>?_) λE=>?_
  .refine Zi 8 (λB=>?_) λB=>?_
   .refine Zi 19 (λx=>?_) λx=>?_
    .refine Zz 21 ?_
     refine aq_ (gT_ _ zaT_) rfl i_ zt rfl λk m=>?_;exact fN_
    exfalso;omega
   obtain⟨c,F⟩:∃ c,s[0]? = some c:=⟨_,yaa_ zaa_⟩;obtain⟨e,A⟩:∃ e,s[s.length - 1]? = some e:=⟨_,yaa_ zaa_⟩
   have I:(s[0]? = some 123)↔((c.toNat:Int)=123):=by
     rw[F];simp only[yah_];exact⟨λq=>by subst q;rfl,λq=>UInt8.toNat_inj.1 (by show c.toNat=123;omega)⟩
   have H:(s[s.length - 1]? = some 125)↔((e.toNat:Int)=125):=by
     rw[A];simp only[yah_];exact⟨λq=>by subst q;rfl,λq=>UInt8.toNat_inj.1 (by show e.toNat=125;omega)⟩
   have K:(s[0]? = some 60)↔((c.toNat:Int)=60):=by
     rw[F];simp only[yah_];exact⟨λq=>by subst q;rfl,λq=>UInt8.toNat_inj.1 (by show c.toNat=60;omega)⟩
   have J:(s[s.length - 1]? = some 62)↔((e.toNat:Int)=62):=by
     rw[A];simp only[yah_];exact⟨λq=>by subst q;rfl,λq=>UInt8.toNat_inj.1 (by show e.toNat=62;omega)⟩
   refine Zz 4 ?_;refine d_ (cs_ Q_ rfl rfl zae_ F) rfl (ar_ rfl rfl ?_);refine Zi 0 (λx=>?_) λx=>?_
   .refine Zi 15 (λm=>?_) λm=>?_
    .refine Zz 21 ?_
     exact mn_
    refine Zz 4 ?_;refine d_ (cs_ Q_ rfl rfl zae_ F) rfl (ar_ rfl rfl ?_);refine Zi 0 (λh=>?_) λh=>?_
    .refine Zz 17 ?_
     exact mm_
    refine Zz 9 ?_;refine d_ (cs_ Q_ rfl rfl zaa_ (show s[((s.length:Int) - 1).toNat]? = some e by rw[show ((s.length:Int) - 1).toNat=s.length - 1 by omega];exact A)) rfl ?_;refine ar_ rfl rfl ?_;refine Zi 0 (λd=>?_) λd=>?_
    .refine Zz 10 ?_
     exact ml_
    refine Zz 11 ?_;exact fO_
   refine Zz 9 ?_;refine d_ (cs_ Q_ rfl rfl zaa_ (show s[((s.length:Int) - 1).toNat]? = some e by rw[show ((s.length:Int) - 1).toNat=s.length - 1 by omega];exact A)) rfl ?_;refine ar_ rfl rfl ?_;refine Zi 0 (λm=>?_) λm=>?_
   .refine Zi 8 (λh=>?_) λh=>?_
    .refine Zz 21 ?_
     exact mm_
    refine Zz 4 ?_;refine d_ (cs_ Q_ rfl rfl zae_ F) rfl (ar_ rfl rfl ?_);refine Zi 0 (λd=>?_) λd=>?_
    .refine Zz 17 ?_
     exact ml_
    refine Zz 9 ?_;refine d_ (cs_ Q_ rfl rfl zaa_ (show s[((s.length:Int) - 1).toNat]? = some e by rw[show ((s.length:Int) - 1).toNat=s.length - 1 by omega];exact A)) rfl ?_;refine ar_ rfl rfl ?_;refine Zi 0 (λv=>?_) λv=>?_
    .refine Zz 10 ?_
     refine aq_ (gT_ _ zaT_) rfl i_ zt rfl λk G=>?_;exact fN_
    refine Zz 11 ?_;exact fO_
   refine Zz 10 ?_;refine d_ (fq_ (i:=1) (j:=s.length - 1) (kl:=.i64) (kh:=.i64) Q_ rfl rfl (show _=some (i4_ ((s.length - 1:Nat):Int)) by rw[show ((s.length - 1:Nat):Int)=(s.length:Int) - 1 by omega];rfl) zaa_ zaa_) rfl ?_;exact mn_
  refine Zz 11 ?_;exact fO_
 refine Zz 14 ?_;exact fO_
theorem iE_ {G:Prop} (h:G:=by
 exact ac_ results287 () (z_ rfl (by unfold cn_;subst_vars;rw[ybh_];simp_all)) (.refl _) zt):G:=h
theorem eG_ {g:FuncId} (d:Bool) (s:Str) (q:Str->Bool) (m:Fn0 prog g #[str s] (.bool (q s))):Fn0 prog 287 #[.bool d,str s,.func (.func g) #[] #[]] (.bool (cn_ d s q)):=by
 refine j_ func287 rfl rfl ntmps287 rfl λk=>?_;refine Zz 9 ?_;cases d
 .refine Zz 8 ?_
  refine d_ (aK_ rfl) rfl (Zz 5 ?_);refine F_ (dR_ rfl rfl) rfl λh e=>Zz 7 ?_
  exact iE_
 refine Zz 5 ?_;refine cb_ (m) rfl rfl i_ zt rfl λh e=>Zz 2 ?_
 cases h
 .refine Zz 3 ?_
  refine d_ (aK_ rfl) rfl (Zz 11 ?_);exact iE_
 refine Zz 11 ?_;exact iE_
theorem iC_ {G:Prop} (h:G:=by
 exact met ⟨rfl,rfl,rfl,rfl,rfl,(z_ rfl (jot d)),trivial⟩):G:=h
theorem iD_ {G:Prop} (h:G:=by
 refine Zz 6 ?_;exact met ⟨rfl,rfl,(z_ rfl (jot d)),trivial⟩):G:=h
theorem hc_ {G:Prop} (h:G:=by
 exact met ⟨rfl,rfl,rfl,rfl,(z_ rfl (jaf d)),trivial⟩):G:=h
theorem mk_ {G:Prop} (h:G:=by
 refine Zz 7 ?_;exact ac_ results219 () (z_ rfl (by unfold Pc.valid;rw[yag_ zaa_];simp only[T];first|(rw[yaq_ (by first|(simp;omega)|omega)])|(rw[yag_ zai_,yaq_ zar_]))) (.refl _) zt):G:=h
theorem hd_ {G:Prop} (h:G:=by
 refine Zz 9 ?_;exact met ⟨rfl,rfl,rfl,rfl,rfl,(z_ rfl (jaf d)),trivial⟩):G:=h
theorem yn_ (p:Pc) (hp:p.sm):Tri prog 219 #[Pc.val p] [] [kp_] (λ_:Unit=>.bool p.valid) (λ_=>[]) (λ_=>[]):=by
 refine j_ func219 rfl rfl ntmps219 rfl λv_1=>?_;obtain⟨ha,hb,hc,hr,hs,ht⟩:=hp;refine Zz 2 ?_;refine L_ rfl rfl λC=>Zz 8 ?_
 refine F_ (cO_ rfl rfl) rfl λr_1 I=>Zz 1 ?_
 refine aE_ 4 ((decide (p.kind<1))||(decide (9<p.kind))) (λr=>[(1,zp_ C 0),(2,.bool false),(13,.bool r)]) ?_ λr_2 N=>?_
 .cases r_1
  .have d:=I
   replace I:=zdf I;refine Zz 5 ?_;refine F_ (dq_ rfl rfl) rfl λa0 H=>Zz 3 ?_
   exact met (zm (jof d H))
  have d:=I;replace I:=zdt I;exact iD_
 refine Zz 1 ?_;refine aE_ 4 ((((decide (p.kind<1))||(decide (9<p.kind))))||(decide (p.frm<(-1)))) (λr=>[(1,zp_ C 0),(2,.bool false),(18,.bool r)]) ?_ λa0 H=>?_
 .cases r_2
  .have d:=N
   simp at N
   refine Zz 5 ?_;refine F_ (cO_ rfl rfl) rfl λa1 L=>Zz 3 ?_
   exact met (zm (jof d L))
  have d:=N;simp at N
  exact iD_
 refine Zz 1 ?_;refine aE_ 4 ((((((decide (p.kind<1))||(decide (9<p.kind))))||(decide (p.frm<(-1)))))||(decide (1024<=p.frm))) (λr=>[(1,zp_ C 0),(2,.bool false),(23,.bool r)]) ?_ λa1 L=>?_
 .cases a0
  .have d:=H
   simp at H
   refine Zz 5 ?_;refine F_ (er_ rfl rfl) rfl λS m=>Zz 3 ?_
   exact met (zm (jof d m))
  have d:=H;simp at H
  exact iD_
 refine Zz 2 ?_;cases a1
 .simp at L
  obtain⟨u,hx⟩:∃ u,iv_[p.kind.toNat]? = some u:=⟨_,yaa_ (show p.kind.toNat<10 by omega)⟩;have T:nus p.kind=u:=by simp[nus,hx]
  obtain⟨O,ub,P,U,us,ut,un⟩:=u;refine Zz 7 ?_;refine d_ (db_ runUnderlying326 sizeOf325 rfl rfl (by show (0:Int)<=p.kind;omega) (by show p.kind<(10:Int);omega)) rfl ?_;refine d_ (ak_ (ad:=some ⟨3,0,none⟩) (us:=NUse.cells ⟨O,ub,P,U,us,ut,un⟩) isAgg325 sizeOf325 rfl (λv _ h=>h.1) (NUse.cells_len _) (A_ NUse.cells_len hx)) rfl (C_ zeroValue325 rfl λE=>p_ 0 sizeOf325 rfl rfl rfl rfl rfl rfl (Zz 19 ?_));cases un
  .refine Zz 5 ?_
   refine F_ (cq_ rfl rfl) rfl λS m=>Zz 1 ?_
   refine aE_ 4 ((p.lo != 0)||(p.hi != 0)) (λr=>[(1,zp_ C 0),(2,.bool false),(3,zp_ E 0),(4,.func (.func 287) #[] #[]),(5,.func (.func 288) #[] #[]),(52,.bool r)]) ?_ λY G=>?_
   .cases S
    .have d:=m
     replace m:=ew_ m;refine Zz 5 ?_;refine F_ (cq_ rfl rfl) rfl λQ B=>Zz 3 ?_
     exact met (zm (jof d B))
    have d:=m;replace m:=eu_ m;refine Zz 6 ?_;exact iC_
   refine Zz 2 ?_;cases Y
   .simp at G
    refine Zz 10 ?_;refine cb_ (eG_ O p.a bh_ (hN_ _ zaa_)) rfl rfl i_ zt rfl λQ B=>Zz 1 ?_
    refine aE_ 7 ((cn_ O p.a bh_)&&(cn_ ub p.b bh_)) (λr=>[(1,zp_ C 0),(2,.bool false),(3,zp_ E 0),(4,.func (.func 287) #[] #[]),(5,.func (.func 288) #[] #[]),(66,.bool r)]) ?_ λW A=>?_
    .cases Q
     .have d:=B
      exact hd_
     have d:=B;refine Zz 11 ?_;refine cb_ (eG_ ub p.b bh_ (hN_ _ zaa_)) rfl rfl i_ zt rfl λV y=>Zz 3 ?_
     exact met ⟨rfl,rfl,rfl,rfl,rfl,(z_ rfl (jat d y)),trivial⟩
    refine Zz 1 ?_;refine aE_ 7 ((((cn_ O p.a bh_)&&(cn_ ub p.b bh_)))&&(cn_ P p.c bh_)) (λr=>[(1,zp_ C 0),(2,.bool false),(3,zp_ E 0),(4,.func (.func 287) #[] #[]),(5,.func (.func 288) #[] #[]),(74,.bool r)]) ?_ λV y=>?_
    .cases W
     .have d:=A
      simp at A
      exact hd_
     have d:=A;simp at A
     refine Zz 11 ?_;refine cb_ (eG_ P p.c bh_ (hN_ _ zaa_)) rfl rfl i_ zt rfl λK e=>Zz 3 ?_
     exact met ⟨rfl,rfl,rfl,rfl,rfl,(z_ rfl (jat d e)),trivial⟩
    refine Zz 1 ?_;refine aE_ 8 ((((((cn_ O p.a bh_)&&(cn_ ub p.b bh_)))&&(cn_ P p.c bh_)))&&(cn_ U p.r cL_)) (λr=>[(1,zp_ C 0),(2,.bool false),(3,zp_ E 0),(4,.func (.func 287) #[] #[]),(83,.bool r)]) ?_ λK e=>?_
    .cases V
     .have d:=y
      simp at y
      refine Zz 10 ?_;exact hc_
     have d:=y;simp at y
     refine Zz 13 ?_;refine cb_ (eG_ U p.r cL_ (jo_ _ zaa_)) rfl rfl i_ zt rfl λJ k=>Zz 3 ?_
     exact met ⟨rfl,rfl,rfl,rfl,(z_ rfl (jat d k)),trivial⟩
    refine Zz 1 ?_;refine aE_ 7 ((((((((cn_ O p.a bh_)&&(cn_ ub p.b bh_)))&&(cn_ P p.c bh_)))&&(cn_ U p.r cL_)))&&(cn_ us p.s cL_)) (λr=>[(1,zp_ C 0),(2,.bool false),(3,zp_ E 0),(4,.func (.func 287) #[] #[]),(91,.bool r)]) ?_ λJ k=>?_
    .cases K
     .have d:=e
      simp at e
      refine Zz 9 ?_;exact hc_
     have d:=e;simp at e
     refine Zz 11 ?_;refine cb_ (eG_ us p.s cL_ (jo_ _ zaa_)) rfl rfl i_ zt rfl λM x=>Zz 3 ?_
     exact met ⟨rfl,rfl,rfl,rfl,(z_ rfl (jat d x)),trivial⟩
    refine Zz 1 ?_;refine aE_ 7 ((((((((((cn_ O p.a bh_)&&(cn_ ub p.b bh_)))&&(cn_ P p.c bh_)))&&(cn_ U p.r cL_)))&&(cn_ us p.s cL_)))&&(cn_ ut p.t cL_)) (λr=>[(2,.bool false),(99,.bool r)]) ?_ λM x=>?_
    .cases J
     .have d:=k
      simp at k
      refine Zz 9 ?_;exact met ⟨rfl,(z_ rfl (jaf d)),trivial⟩
     have d:=k;simp at k
     refine Zz 11 ?_;refine cb_ (eG_ ut p.t cL_ (jo_ _ zaa_)) rfl rfl i_ zt rfl λX F=>Zz 3 ?_
     exact met ⟨rfl,(z_ rfl (jat d F)),trivial⟩
    refine Zz 4 ?_;exact ac_ results219 () (z_ rfl (by unfold Pc.valid;rw[yag_ zaa_];simp only[T];rw[yag_ (by simp<;>omega),yag_ (by simp<;>omega)];exact x.symm)) (.refl _) zt
   simp at G
   exact mk_
  refine Zz 10 ?_;refine F_ (cO_ rfl rfl) rfl λS m=>Zz 1 ?_
  refine aE_ 6 ((decide (p.lo<(-1099511627776)))||(decide (p.hi<p.lo))) (λr=>[(1,zp_ C 0),(2,.bool false),(3,zp_ E 0),(4,.func (.func 287) #[] #[]),(5,.func (.func 289) #[] #[]),(39,.bool r)]) ?_ λY G=>?_
  .cases S
   .have d:=m
    replace m:=zdf m;refine Zz 9 ?_;refine F_ (dq_ rfl rfl) rfl λQ B=>Zz 3 ?_
    exact met (zm (jof d B))
   have d:=m;replace m:=zdt m;refine Zz 8 ?_;exact iC_
  refine Zz 1 ?_;refine aE_ 4 ((((decide (p.lo<(-1099511627776)))||(decide (p.hi<p.lo))))||(decide (1099511627776<p.hi))) (λr=>[(1,zp_ C 0),(2,.bool false),(3,zp_ E 0),(4,.func (.func 287) #[] #[]),(5,.func (.func 289) #[] #[]),(44,.bool r)]) ?_ λQ B=>?_
  .cases Y
   .have d:=G
    simp at G
    refine Zz 5 ?_;refine F_ (dq_ rfl rfl) rfl λW A=>Zz 3 ?_
    exact met (zm (jof d A))
   have d:=G;simp at G
   refine Zz 6 ?_;exact iC_
  refine Zz 2 ?_;cases Q
  .simp at B
   refine Zz 10 ?_;refine cb_ (eG_ O p.a bh_ (hN_ _ zaa_)) rfl rfl i_ zt rfl λW A=>Zz 1 ?_
   refine aE_ 7 ((cn_ O p.a bh_)&&(cn_ ub p.b bh_)) (λr=>[(1,zp_ C 0),(2,.bool false),(3,zp_ E 0),(4,.func (.func 287) #[] #[]),(5,.func (.func 289) #[] #[]),(66,.bool r)]) ?_ λV y=>?_
   .cases W
    .have d:=A
     exact hd_
    have d:=A;refine Zz 11 ?_;refine cb_ (eG_ ub p.b bh_ (hN_ _ zaa_)) rfl rfl i_ zt rfl λK e=>Zz 3 ?_
    exact met ⟨rfl,rfl,rfl,rfl,rfl,(z_ rfl (jat d e)),trivial⟩
   refine Zz 1 ?_;refine aE_ 7 ((((cn_ O p.a bh_)&&(cn_ ub p.b bh_)))&&(cn_ P p.c bh_)) (λr=>[(1,zp_ C 0),(2,.bool false),(3,zp_ E 0),(4,.func (.func 287) #[] #[]),(5,.func (.func 289) #[] #[]),(74,.bool r)]) ?_ λK e=>?_
   .cases V
    .have d:=y
     simp at y
     exact hd_
    have d:=y;simp at y
    refine Zz 11 ?_;refine cb_ (eG_ P p.c bh_ (hN_ _ zaa_)) rfl rfl i_ zt rfl λJ k=>Zz 3 ?_
    exact met ⟨rfl,rfl,rfl,rfl,rfl,(z_ rfl (jat d k)),trivial⟩
   refine Zz 1 ?_;refine aE_ 8 ((((((cn_ O p.a bh_)&&(cn_ ub p.b bh_)))&&(cn_ P p.c bh_)))&&(cn_ U p.r bg_)) (λr=>[(1,zp_ C 0),(2,.bool false),(3,zp_ E 0),(4,.func (.func 287) #[] #[]),(83,.bool r)]) ?_ λJ k=>?_
   .cases K
    .have d:=e
     simp at e
     refine Zz 10 ?_;exact hc_
    have d:=e;simp at e
    refine Zz 13 ?_;refine cb_ (eG_ U p.r bg_ (gT_ _ zaa_)) rfl rfl i_ zt rfl λM x=>Zz 3 ?_
    exact met ⟨rfl,rfl,rfl,rfl,(z_ rfl (jat d x)),trivial⟩
   refine Zz 1 ?_;refine aE_ 7 ((((((((cn_ O p.a bh_)&&(cn_ ub p.b bh_)))&&(cn_ P p.c bh_)))&&(cn_ U p.r bg_)))&&(cn_ us p.s cL_)) (λr=>[(1,zp_ C 0),(2,.bool false),(3,zp_ E 0),(4,.func (.func 287) #[] #[]),(91,.bool r)]) ?_ λM x=>?_
   .cases J
    .have d:=k
     simp at k
     refine Zz 9 ?_;exact hc_
    have d:=k;simp at k
    refine Zz 11 ?_;refine cb_ (eG_ us p.s cL_ (jo_ _ zaa_)) rfl rfl i_ zt rfl λX F=>Zz 3 ?_
    exact met ⟨rfl,rfl,rfl,rfl,(z_ rfl (jat d F)),trivial⟩
   refine Zz 1 ?_;refine aE_ 7 ((((((((((cn_ O p.a bh_)&&(cn_ ub p.b bh_)))&&(cn_ P p.c bh_)))&&(cn_ U p.r bg_)))&&(cn_ us p.s cL_)))&&(cn_ ut p.t cL_)) (λr=>[(2,.bool false),(99,.bool r)]) ?_ λX F=>?_
   .cases M
    .have d:=x
     simp at x
     refine Zz 9 ?_;exact met ⟨rfl,(z_ rfl (jaf d)),trivial⟩
    have d:=x;simp at x
    refine Zz 11 ?_;refine cb_ (eG_ ut p.t cL_ (jo_ _ zaa_)) rfl rfl i_ zt rfl λr_14 Z=>Zz 3 ?_
    exact met ⟨rfl,(z_ rfl (jat d Z)),trivial⟩
   refine Zz 4 ?_;exact ac_ results219 () (z_ rfl (by unfold Pc.valid;rw[yag_ zaa_];simp only[T];rw[yag_ (by simp<;>omega),yag_ (by simp<;>omega)];exact F.symm)) (.refl _) zt
  simp at B
  exact mk_
 simp at L
 refine Zz 7 ?_;exact ac_ results219 () (z_ rfl (by unfold Pc.valid;rw[yaq_ zaa_])) (.refl _) zt
theorem Di_ (l:List Pc) (ad:Ao) (cap:Nat) (hl:l.length<=17592186044414) (x:∀ p∈l,p.sm):Tri prog 143 #[.slice ad l.length cap] [] [X_ ad (l.flatMap Pc.cells),kp_] (λ_:Unit=>i4_ (dO_ l)) (λ_=>[]) (λ_=>[]):=by
 refine j_ func143 rfl rfl ntmps143 rfl λB=>?_;refine Zi 10 (λm=>?_) λm=>?_
 .refine Zz 14 ?_
  refine bF_ [(8,.slice ad l.length cap),(9,i4_ (List.length l:Int)),(10,i4_ ((0:Nat):Int))] zl ?_;refine bY_ (ι:={q:Nat // q<=l.length/\(l.take q).all Pc.valid=true}) (λi=>[(8,.slice ad l.length cap),(9,i4_ (List.length l:Int)),(10,i4_ i.1)]) (λ_=>_) (λ_=>_) (λi=>l.length - i.1) ⟨0,by simp⟩ ?_;rintro ⟨i,hk⟩;refine bF_ [(8,.slice ad l.length cap),(9,i4_ (List.length l:Int)),(10,i4_ i)] zl ?_;refine Zi 2 (λv=>?_) λv=>?_
  .refine Zz 12 ?_
   exact ac_ results143 () (bi_ rfl (by unfold dO_;rw[yag_ zaa_,yaq_ (by have:=hk.2;rwa [yac_ zaa_]at this)])) (.refl _) zt
  obtain⟨h,e,k,d⟩:=zge (show i<l.length by omega);refine Zz 12 ?_;refine C_ T_ rfl λC=>p_ 0 K_ rfl rfl rfl rfl rfl rfl (Zz 5 ?_)
  refine aq_ (yn_ e (x e d)) rfl i_ zf rfl λy A=>d_ (aK_ rfl) rfl (Zz 2 ?_)
  cases y
  .refine Zz 7 ?_
   exact ac_ results143 () (bi_ rfl (by unfold dO_;rw[yag_ zaa_,yag_ (by rw[show l.all Pc.valid=false from ycv_.2 ⟨e,d,by simp[*]⟩];simp)])) (.refl _) zt
  refine Zz 8 ?_;exact w_ ⟨i+1,h,by rw[yau_,k];simp only[ybL_,ycU_,hk.2];simp[*]⟩ zar_ zl (@List.perm_append_comm _ [_] _) zh
 refine Zz 9 ?_;exact ac_ results143 () (bi_ rfl (by unfold dO_;rw[yaq_ zaa_])) (.refl _) zt
theorem zc_ {N:Nf} {fr:Fr} {H:Hp} {Γ:List Fct} {P:Program} {ty t h:TypeId} {x y:Operand} {m n:Int} (k:Fr.ev fr x=some (i4_ m)) (e:Fr.ev fr y=some (i4_ n)):Yld P N fr H Γ (.binOp .add t x y h) ty (i4_ (IntKind.wrap .i64 (m+n))) :=
  λa v d _ _ _ _ _=>by simp[execOp,d.ev k,d.ev e,eqGuard,binOp,Op.intArith]
def wz (n:Nat):Int:=IntKind.wrap .i64 (n:Int)
theorem BA_ (n:Nat):IntKind.wrap .i64 (wz n+1)=wz (n+1):=by
  grind[wz,IntKind.wrap_i64]
theorem zd_ {n:Nat} (h:n<=1000000):wz n=(n:Int):=bx_ zaa_ zaa_
theorem Con.fold_cnt:∀ (m:Nat) (c:Con),c.sz<=m->∀ n,Con.fold Con.cnt c n=.inl (n+c.sz)
  | 0,c,h=>by grind[Con.sz_pos]
  | m+1,c,h=>λn=>by
    have d:∀ ps:List Con,(∀ p∈ps,p.sz<=m)->∀ n,Con.fold.folds Con.cnt ps n=.inl (n+Con.sz.szs ps):=by
      intro ps
      induction ps with
      | nil=>grind[Con.fold.folds,Con.sz.szs]
      | cons p ps ih =>
        intro e n;simp only[Con.fold.folds,Con.fold_cnt m p (e p zai_) n,Con.sz.szs]
        grind
    rw[Con.fold_eq];simp only[Con.cnt];rw[d c.parts (λp e=>by have:=Con.sz_part e;omega)]
    congr 1
    cases c;grind[Con.sz,Con.parts]
theorem size_c (c:Con) (K:c.ok) (y:c.sz<=1000000):Tri prog 207 #[c.val] [] [c.memF] (λ_:Unit=>i4_ c.sz) (λ_=>[]) (λ_=>[]):=by
 refine eX_ func207 rfl rfl ntmps207 rfl λk=>?_;refine Zz 2 ?_;refine L_ rfl rfl λS=>C_ bJ_ rfl λd=>Zz 5 ?_
 refine d_ (cX_ 1 ae_ t_ rfl rfl) rfl (f_ (zh_ c) rfl (.refl _) zt rfl λb=>Zz 3 ?_);refine bF_ [(2,zp_ d 0),(4,.func (.func 190) #[] #[zp_ b 0])] zl ?_;refine es_ (H':=[_,_]) (F:=[_]) (.refl _) zh ?_;refine qu_ (α:={c:Con // c.ok}) (xv:=λx=>x.1.val) (good:=λ_=>True) (stp:=λx=>Con.cnt x.1) (Γx:=λx=>[x.1.memF]) (Γi:=[Con.memF c]) (Hj:=λn:Nat=>[(d,.cells #[i4_ (wz n)] 3 (0,0))]) (Hx:=λ_:Empty=>[]) (Hc:=[(b,.cells c.cells.toArray 28 (0,0))]) (caps:=[zp_ b 0]) 0 (Con.fold Con.cnt c 0) rfl (.refl _) (λv _ h=>h) ?_ ?_ ?_ ?_
 .rintro l D T P B A M m e s ⟨x,L⟩ -
  refine oh_ (ι:=Unit) (Hj:=λn:Nat=>[(d,.cells #[i4_ (wz n)] 3 (0,0))]) (Hx:=λ_:Empty=>[]) (s:=s) (res:=Con.cnt x s) (Γ:=[x.memF]) (λ_=>[(2,zp_ d 0)]) (λ_=>[(d,.cells #[i4_ (wz s)] 3 (0,0))]) P B A M rfl ?_ ?_
  .intro n k C Q
   rw[m];refine qw_ ?_;refine dx_ rfl ?_;exact dY_ () ⟨rfl,trivial⟩ (F:=[]) (by rw[yas_]) zh
  intro n k C Q _;rw[e];refine gL_ ?_;refine bs_ ?_;refine aO_ (bI_ _) (bU_ 0 bb_ rfl rfl rfl) rfl rfl ?_;refine aO_ (bI_ _) (ai_ (zc_ rfl rfl) (show _=i4_ (wz (s+1)) from yae_ (i4_) (BA_ s))) rfl rfl ?_;refine eJ_ (bI_ _) 0 R_ rfl rfl rfl rfl rfl rfl ?_;refine cp_ ?_;refine dx_ rfl ?_;exact qx_ (s+1) rfl (G:=[]) zaD_
 .intro l V U O
  exact vZ_ (E:=[]) (good:=λ_=>True) (λ_ _ _ _=>trivial) (λs x L _=>O s ⟨x,L⟩ trivial) _ K trivial 0
 .intro s I D l r
  rw[Con.fold_cnt _ _ (yad_ _)]at I;obtain rfl:0+c.sz=s:=Sum.inl.inj I;have N:wz (0+c.sz)=(c.sz:Int):=by rw[ybP_];exact zd_ y
  refine da_ rfl ?_;refine fS_ ?_;refine bs_ ?_;refine aO_ aP_ (bU_ 1 bb_ rfl rfl rfl) rfl rfl ?_;refine eJ_ aP_ 1 R_ rfl rfl rfl rfl rfl rfl ?_;refine cp_ ?_;refine da_ rfl ?_;refine hG_ ?_;exact tc_ (G:=[_,_,_]) () (λa v J H=>by rw[<-N];exact oS_ 1 results207 bb_ rfl rfl a v J H) (gn_ (i:=3) rfl) ⟨_,.refl _⟩ rfl
 intro t I D l r;cases t
theorem gw_ (xs:List Str) (ad:Ao) (cap:Nat) {kb:Nat} (frm:Int) (l:List Pc) (q:CS) (J:CInv l q) (I:xs.length<=1000) (C:l.length+xs.length<=100000) :
    Tri prog 89 #[zp_ kb 0,.slice ad xs.length cap] (fU_ kb frm q) [X_ ad (xs.flatMap aa_)] (λ_:{B:CS // CInv (bl_ frm xs l) B}=>.tuple #[]) (λB=>fU_ kb frm B.1) (λ_=>[]):=by
  refine j_ func89 rfl rfl ntmps89 rfl λE=>?_;refine Zz 8 ?_;refine bF_ [(0,zp_ kb 0),(6,.slice ad xs.length cap),(7,i4_ (List.length xs:Int)),(8,i4_ ((0:Nat):Int))] zl ?_;refine bY_ (ι:={y:Nat×CS // y.1<=xs.length/\CInv (bl_ frm (xs.take y.1) l) y.2}) (λy=>[(0,zp_ kb 0),(6,.slice ad xs.length cap),(7,i4_ (List.length xs:Int)),(8,i4_ y.1.1)]) (λy=>fU_ kb frm y.1.2) (λ_=>_) (λy=>xs.length - y.1.1) ⟨(0,q),by simp,J⟩ ?_;rintro ⟨⟨i,k⟩,hk⟩;dsimp only at hk;dsimp only;have H:=ev_ frm (xs.take i) l;have G:(xs.take i).length<=i:=by simp;omega
  refine bF_ [(0,zp_ kb 0),(6,.slice ad xs.length cap),(7,i4_ (List.length xs:Int)),(8,i4_ i)] zl ?_;refine Zi 2 (λh=>?_) λh=>?_
  . refine Zz 6 ?_;exact cj_ results89 ⟨k,by have:=hk.2;rwa [yac_ zaa_]at this⟩ rfl (F:=[]) Z_ zt
  . have d:i<xs.length:=by omega
    obtain⟨x,e⟩:∃ v,xs[i]? = some v:=⟨_,yaa_ d⟩;refine Zz 18 ?_;refine d_ (y_ dA_ rfl rfl) rfl (B_ H_ K_ T_ rfl rfl rfl rfl rfl rfl λK=>f_ (dD_ (Pc.mk 1 x [] [42] [] [] [] 0 0 0) frm (bl_ frm (xs.take i) l) k hk.2 zaa_) rfl zp zt rfl λ⟨A,m⟩=>?_);dsimp only;refine u_ (List.Perm.symm Z_) (Zz 7 ?_);exact w_ ⟨(i+1,A),d,by dsimp only;rw[vj_ frm e];exact m⟩ zab_ zl (F:=[]) Z_ zh
theorem jN_ (a b:Str):Fn0 prog 87 #[str a,str b] (Fc.val ⟨1,a,b,[],0,0⟩):=by
  refine j_ func87 rfl rfl ntmps87 rfl λk=>?_;refine Zz 2 ?_;refine C_ ax_ rfl λb1=>Zz 6 ?_
  refine d_ (y_ kT_ rfl rfl) rfl (p_ 0 ao_ rfl rfl rfl rfl rfl rfl (Zz 3 ?_));exact dk_ () (λa v e d=>dm_ (us:=Fc.cells ⟨1,_,_,[],0,0⟩) 0 results87 fX_ ao_ rfl rfl rfl a v e d) (@List.perm_append_comm _ [_] _) (λv _ h=>trivial)
theorem eltF:Elt prog 50 104 6 72:=fT_ underlying50 (z:=.agg (Fc.mk 0 [] [] [] 0 0).cells.toArray) zad_ rfl zae_
theorem goal_c (x:Ax) (k:x.ok):Tri prog 45 #[Ax.val x] [] [Ax.memF x,bE_] (λy:{y:Ao×Nat×Ao×Nat // x.goalP.1.length<=y.2.1/\y.2.1<=maxLen/\x.goalP.2.1.length<=y.2.2.2/\y.2.2.2<=maxLen/\(y.1=none->y.2.1=0)}=>.tuple #[.slice y.1.1 x.goalP.1.length y.1.2.1,.slice y.1.2.2.1 x.goalP.2.1.length y.1.2.2.2,i4_ x.goalP.2.2])
    (λ_=>[]) (λy=>[X_ y.1.1 (x.goalP.1.flatMap Pc.cells),X_ y.1.2.2.1 (x.goalP.2.1.flatMap Fc.cells)]):=by
  refine j_ func45 rfl rfl ntmps45 rfl λv_1=>?_;have h_1:=k.role;have h_2:=Con.operandN_len k.left;have h_3:=Con.operandN_len k.right;refine Zz 2 ?_;refine L_ rfl rfl λb_1=>Zz 9 ?_
  refine f_ (go_ x k) rfl i_ zf rfl λ_=>Zi 6 (λa2=>?_) λa2=>?_
  . have G:=Ax.good_of a2;refine Zz 7 ?_;refine f_ (jl_ (-1)) rfl i_ zt rfl λ⟨kb,O⟩=>?_;dsimp only;refine u_ (@List.perm_append_comm _ _ [_]) (Zz 6 ?_);refine f_ (wj_ kb) rfl i_ zt rfl λ⟨bk,bl,br⟩=>?_;dsimp only;refine Zi 23 (λhr_2=>?_) λhr_2=>?_
    . refine Zi 5 (λX=>?_) λX=>?_
      . refine Zi 6 (λZ=>?_) λZ=>?_
        . refine Zi 6 (λhr_5=>?_) λhr_5=>?_
          . refine Zi 6 (λhr_6=>?_) λhr_6=>?_
            . refine Zi 6 (λhr_7=>?_) λhr_7=>?_
              . refine Zz 12 ?_;have e:x.goalP=([],[],22):=by unfold Ax.goalP;rw[yag_ zaa_];repeat rw[yag_ zaa_]
                have U:x.goalP.1.length<=0/\0<=maxLen/\x.goalP.2.1.length<=0/\0<=maxLen/\((none:Ao)=none->0=0):=by rw[e];simp
                have S:Value.tuple #[.slice none 0 0,.slice none 0 0,i4_ 22]=.tuple #[.slice none x.goalP.1.length 0,.slice none x.goalP.2.1.length 0,i4_ x.goalP.2.2]:=by rw[e]<;>rfl
                have E:x.goalP.1.flatMap Pc.cells=[]:=by rw[e];rfl
                have F:x.goalP.2.1.flatMap Fc.cells=[]:=by rw[e];rfl
                exact lL_ fa_ ⟨(none,0,none,0),U⟩ rfl rfl rfl S i_ (λv _ h=>⟨.inl E,.inl F,trivial⟩)
              . refine Zz 5 ?_;refine Y_ ((b_1,.cells (Ax.cells x).toArray 30 (0,0))::[]) zk ?_;refine G_ 4 [0,1,2,4,5] zk zs (Zz 6 ?_);refine m_ 3 rfl zk (f_ (cI_ x.a k.a) rfl i_ zt rfl λ_=>Zz 3 ?_);refine m_ 6 rfl zk (f_ (cI_ x.b k.b) rfl i_ zt rfl λ_=>Zz 3 ?_);refine m_ 7 rfl zk (B_ n_ D_ V_ rfl rfl rfl rfl rfl rfl λM=>?_);refine U_ (List.flatMap aa_ [(cZ_ x.a),(cZ_ x.b)]) e_ rfl ?_;refine Zz 3 ?_;refine m_ 8 rfl zk (f_ (gw_ [(cZ_ x.a),(cZ_ x.b)] (some ⟨M,0,none⟩) 2 (-1) ([]:List Pc) ⟨.slice none 0 0,O,#[],0,[]⟩ ⟨at_.nil _ _,rfl,by simp⟩ zai_ zao_) rfl zp zf rfl λ⟨N,I⟩=>?_);dsimp only;have J:=ev_ (-1) [(cZ_ x.a),(cZ_ x.b)] ([]:List Pc);refine u_ (@List.perm_append_comm _ _ [_]) ?_;simp only[yak_,yay_]at J;refine Zz 6 ?_;refine G_ 5 [0,1,3,4,6,7] zk zs (Zz 7 ?_);refine m_ 2 rfl zk (f_ (cI_ x.a k.a) rfl i_ zt rfl λ_=>Zz 3 ?_);refine m_ 5 rfl zk (f_ (cI_ x.b k.b) rfl i_ zt rfl λ_=>Zz 3 ?_);refine G_ 2 [8] zk zs (N_ rfl (y_ kT_ rfl rfl) rfl (bX_ (m_ 9 rfl zk (B_ bm_ ao_ ax_ rfl rfl rfl rfl rfl rfl λH=>Zz 3 ?_))));refine G_ 0 [10] zk zs (Zz 17 ?_);refine U_ (List.flatMap Fc.cells [(Fc.mk 2 (cZ_ x.a) (cZ_ x.b) x.role 0 0)]) e_ rfl ?_;refine dg_ I.row (c_ (c_ (c_ Z_))) λC d m B A=>?_
                have e:x.goalP=((bl_ (-1) [(cZ_ x.a),(cZ_ x.b)] ([]:List Pc)),[(Fc.mk 2 (cZ_ x.a) (cZ_ x.b) x.role 0 0)],0):=by
                  unfold Ax.goalP;rw[yag_ zaa_];repeat (first|rfl|(rw[yaq_ zaa_])|(rw[yag_ zaa_]))
                have U:x.goalP.1.length<=d/\d<=maxLen/\x.goalP.2.1.length<=1/\1<=maxLen/\(C=none->d=0):=by rw[e];exact⟨B,A,by simp,by decide,at_.nilcap I.row m⟩
                have S:Value.tuple #[N.sv,.slice (some ⟨H,0,none⟩) 1 1,i4_ 0]=.tuple #[.slice C x.goalP.1.length d,.slice (some ⟨H,0,none⟩) x.goalP.2.1.length 1,i4_ x.goalP.2.2]:=by
                  rw[e,m]<;>rfl
                have E:List.flatMap Pc.cells (bl_ (-1) [(cZ_ x.a),(cZ_ x.b)] ([]:List Pc))=x.goalP.1.flatMap Pc.cells:=by rw[e]
                have F:List.flatMap Fc.cells [(Fc.mk 2 (cZ_ x.a) (cZ_ x.b) x.role 0 0)]=x.goalP.2.1.flatMap Fc.cells:=by rw[e]
                exact lL_ fa_ ⟨(C,d,(some ⟨H,0,none⟩),1),U⟩ rfl rfl rfl S i_ (λv _ h=>⟨E▸h.1,F▸h.2.1,trivial⟩)
            . obtain⟨fr,zr⟩:=Con.check_zero (G.right zaa_);refine Zz 5 ?_;refine Y_ ((b_1,.cells (Ax.cells x).toArray 30 (0,0))::[]) zk ?_;refine G_ 4 [0,1,2,4,5] zk zs (Zz 6 ?_);refine m_ 3 rfl zk (f_ (cI_ x.a k.a) rfl i_ zt rfl λ_=>Zz 3 ?_);refine m_ 6 rfl zk (f_ (co_ x.right k.right) rfl i_ (λv _ h=>by exact⟨h.2.2.2.1.2.1,h.2.2.2.2.1,trivial⟩) rfl λ_=>Zz 3 ?_);refine m_ 7 rfl zk (B_ n_ D_ V_ rfl rfl rfl rfl rfl rfl λM=>?_);refine U_ (List.flatMap aa_ [(cZ_ x.a),(Con.atom x.right)]) e_ rfl ?_;refine Zz 3 ?_;refine m_ 8 rfl zk (f_ (gw_ [(cZ_ x.a),(Con.atom x.right)] (some ⟨M,0,none⟩) 2 (-1) ([]:List Pc) ⟨.slice none 0 0,O,#[],0,[]⟩ ⟨at_.nil _ _,rfl,by simp⟩ zai_ zao_) rfl zp zf rfl λ⟨N,I⟩=>?_);dsimp only;have J:=ev_ (-1) [(cZ_ x.a),(Con.atom x.right)] ([]:List Pc);refine u_ (@List.perm_append_comm _ _ [_]) ?_;simp only[yak_,yay_]at J;refine Zz 10 ?_;refine O_ (hw_ (kb:=kb) (bk:=bk) (bs:=bl) (frm:=(-1)) _ x.right (yad_ _) k.right fr (bl_ (-1) [(cZ_ x.a),(Con.atom x.right)] ([]:List Pc)) N I zaa_) rfl rfl zp (λv _ h=>by exact⟨h.2.2.2.2.1.2.1,h.2.2.2.2.2.1,h.2.1,h.2.2.1,trivial⟩) rfl λ⟨P,L⟩=>?_;dsimp only;refine u_ (@List.perm_append_comm _ _ [_]) (Zz 3 ?_);refine G_ 5 [0,1,2,4,5] zk zs (Zz 6 ?_);refine m_ 3 rfl zk (f_ (cI_ x.a k.a) rfl i_ zt rfl λ_=>Zz 3 ?_);refine m_ 6 rfl zk (f_ (co_ x.right k.right) rfl i_ (λv _ h=>by exact⟨h.2.2.2.2.1.2.1,h.2.2.2.2.2.1,trivial⟩) rfl λ_=>Zz 3 ?_);refine m_ 7 rfl zk (O_ (jN_ (cZ_ x.a) (Con.atom x.right)) rfl rfl i_ zt rfl λ_=>Zz 3 ?_);refine m_ 8 rfl zk (B_ bm_ ao_ ax_ rfl rfl rfl rfl rfl rfl λH=>Zz 3 ?_);refine G_ 0 [9] zk zs (Zz 17 ?_);refine U_ (List.flatMap Fc.cells [(Fc.mk 1 (cZ_ x.a) (Con.atom x.right) [] 0 0)]) e_ rfl ?_;refine dg_ L.row (c_ (c_ (c_ Z_))) λC d m B A=>?_
              have e:x.goalP=((Con.leftP (-1) x.right (bl_ (-1) [(cZ_ x.a),(Con.atom x.right)] ([]:List Pc))),[(Fc.mk 1 (cZ_ x.a) (Con.atom x.right) [] 0 0)],0):=by
                unfold Ax.goalP;rw[yag_ zaa_];repeat (first|rfl|(rw[yaq_ zaa_])|(rw[yag_ zaa_]))
              have U:x.goalP.1.length<=d/\d<=maxLen/\x.goalP.2.1.length<=1/\1<=maxLen/\(C=none->d=0):=by rw[e];exact⟨B,A,by simp,by decide,at_.nilcap L.row m⟩
              have S:Value.tuple #[P.sv,.slice (some ⟨H,0,none⟩) 1 1,i4_ 0]=.tuple #[.slice C x.goalP.1.length d,.slice (some ⟨H,0,none⟩) x.goalP.2.1.length 1,i4_ x.goalP.2.2]:=by
                rw[e,m]<;>rfl
              have E:List.flatMap Pc.cells (Con.leftP (-1) x.right (bl_ (-1) [(cZ_ x.a),(Con.atom x.right)] ([]:List Pc)))=x.goalP.1.flatMap Pc.cells:=by rw[e]
              have F:List.flatMap Fc.cells [(Fc.mk 1 (cZ_ x.a) (Con.atom x.right) [] 0 0)]=x.goalP.2.1.flatMap Fc.cells:=by rw[e]
              exact lL_ fa_ ⟨(C,d,(some ⟨H,0,none⟩),1),U⟩ rfl rfl rfl S i_ (λv _ h=>⟨E▸h.1,F▸h.2.1,trivial⟩)
          . obtain⟨fr,zr⟩:=Con.check_zero (G.right zaa_);refine Zz 8 ?_;refine d_ (cP_ rfl rfl zac_) rfl ?_;refine d_ (ai_ (cP_ rfl rfl zac_) (show _=str (Ax.doms x) from rfl)) rfl ?_;refine Zz 9 ?_;refine f_ (co_ x.right k.right) rfl i_ (λv _ h=>by exact⟨h.2.2.2.1.2.1,h.2.2.2.2.1,trivial⟩) rfl λ_=>B_ n_ D_ V_ rfl rfl rfl rfl rfl rfl λM=>?_;refine U_ (List.flatMap aa_ [(Ax.doms x),(Con.atom x.right)]) e_ rfl ?_;refine f_ (gw_ [(Ax.doms x),(Con.atom x.right)] (some ⟨M,0,none⟩) 2 (-1) ([]:List Pc) ⟨.slice none 0 0,O,#[],0,[]⟩ ⟨at_.nil _ _,rfl,by simp⟩ zai_ zao_) rfl zp zf rfl λ⟨N,I⟩=>?_;dsimp only;have J:=ev_ (-1) [(Ax.doms x),(Con.atom x.right)] ([]:List Pc);refine u_ (@List.perm_append_comm _ _ [_]) ?_;simp only[yak_,yay_]at J;refine Zz 8 ?_;refine d_ (y_ dA_ rfl rfl) rfl (B_ H_ K_ T_ rfl rfl rfl rfl rfl rfl λH=>f_ (dD_ (Pc.mk 3 (Ax.doms x) [] [42] x.role [] [] 0 0 0) (-1) (bl_ (-1) [(Ax.doms x),(Con.atom x.right)] ([]:List Pc)) N I zaa_) rfl zp zt rfl λ⟨P,L⟩=>?_);dsimp only;have a0:=cH_ (-1) (bl_ (-1) [(Ax.doms x),(Con.atom x.right)] ([]:List Pc)) (Pc.mk 3 (Ax.doms x) [] [42] x.role [] [] 0 0 0);refine u_ (@List.perm_append_comm _ _ [_]) (Zz 7 ?_);refine O_ (hw_ (kb:=kb) (bk:=bk) (bs:=bl) (frm:=(-1)) _ x.right (yad_ _) k.right fr (ins (-1) (bl_ (-1) [(Ax.doms x),(Con.atom x.right)] ([]:List Pc)) (Pc.mk 3 (Ax.doms x) [] [42] x.role [] [] 0 0 0)) P L zaa_) rfl rfl zp (λv _ h=>by exact⟨h.2.2.2.2.1.2.1,h.2.2.2.2.2.1,h.2.1,h.2.2.1,trivial⟩) rfl λ⟨Q,K⟩=>?_;dsimp only;refine u_ (@List.perm_append_comm _ _ [_]) (Zz 7 ?_);refine f_ (co_ x.right k.right) rfl i_ (λv _ h=>by exact⟨h.2.2.2.2.1.2.1,h.2.2.2.2.2.1,trivial⟩) rfl λ_=>O_ (jN_ (Ax.doms x) (Con.atom x.right)) rfl rfl i_ zt rfl λ_=>B_ bm_ ao_ ax_ rfl rfl rfl rfl rfl rfl λV=>Zz 16 ?_
            refine U_ (List.flatMap Fc.cells [(Fc.mk 1 (Ax.doms x) (Con.atom x.right) [] 0 0)]) e_ rfl ?_;refine dg_ K.row (c_ (c_ (c_ Z_))) λC d m B A=>?_
            have e:x.goalP=((Con.leftP (-1) x.right (ins (-1) (bl_ (-1) [(Ax.doms x),(Con.atom x.right)] ([]:List Pc)) (Pc.mk 3 (Ax.doms x) [] [42] x.role [] [] 0 0 0))),[(Fc.mk 1 (Ax.doms x) (Con.atom x.right) [] 0 0)],0):=by
              unfold Ax.goalP;rw[yag_ zaa_];repeat (first|rfl|(rw[yaq_ zaa_])|(rw[yag_ zaa_]))
            have U:x.goalP.1.length<=d/\d<=maxLen/\x.goalP.2.1.length<=1/\1<=maxLen/\(C=none->d=0):=by rw[e];exact⟨B,A,by simp,by decide,at_.nilcap K.row m⟩
            have S:Value.tuple #[Q.sv,.slice (some ⟨V,0,none⟩) 1 1,i4_ 0]=.tuple #[.slice C x.goalP.1.length d,.slice (some ⟨V,0,none⟩) x.goalP.2.1.length 1,i4_ x.goalP.2.2]:=by
              rw[e,m]<;>rfl
            have E:List.flatMap Pc.cells (Con.leftP (-1) x.right (ins (-1) (bl_ (-1) [(Ax.doms x),(Con.atom x.right)] ([]:List Pc)) (Pc.mk 3 (Ax.doms x) [] [42] x.role [] [] 0 0 0)))=x.goalP.1.flatMap Pc.cells:=by rw[e]
            have F:List.flatMap Fc.cells [(Fc.mk 1 (Ax.doms x) (Con.atom x.right) [] 0 0)]=x.goalP.2.1.flatMap Fc.cells:=by rw[e]
            exact lL_ fa_ ⟨(C,d,(some ⟨V,0,none⟩),1),U⟩ rfl rfl rfl S i_ (λv _ h=>⟨E▸h.1,F▸h.2.1,trivial⟩)
        . obtain⟨fl,zl⟩:=Con.check_zero (G.left zaa_);obtain⟨fr,zr⟩:=Con.check_zero (G.right zaa_);refine Zz 6 ?_;refine G_ 7 [0,1,5,6] zk zs (Zz 5 ?_);refine m_ 2 rfl zk (f_ (pd_ x.left k.left) rfl i_ (λv _ h=>by exact⟨h.2.2.2.1.1,h.2.2.2.2.1,trivial⟩) rfl λ_=>Zz 3 ?_);refine G_ 4 [3,4] zk zs ?_;refine N_ rfl (cP_ rfl rfl zac_) rfl ?_;refine N_ rfl (cP_ rfl rfl zac_) rfl ?_;refine bX_ (m_ 7 rfl zk (f_ (pd_ x.right k.right) rfl i_ (λv _ h=>by exact⟨h.2.2.2.1.2.1,h.2.2.2.2.1,trivial⟩) rfl λ_=>Zz 3 ?_));refine G_ 0 [8,9,10] zk zs ?_;refine N_ rfl (cP_ rfl rfl zac_) rfl ?_;refine N_ rfl (ai_ (cP_ rfl rfl zac_) (show _=str (Ax.disj x) from rfl)) rfl ?_;refine Zz 8 ?_;refine B_ n_ D_ V_ rfl rfl rfl rfl rfl rfl λM=>?_;refine U_ (List.flatMap aa_ [(Ax.disj x),[33]]) e_ rfl ?_;refine f_ (gw_ [(Ax.disj x),[33]] (some ⟨M,0,none⟩) 2 (-1) ([]:List Pc) ⟨.slice none 0 0,O,#[],0,[]⟩ ⟨at_.nil _ _,rfl,by simp⟩ zai_ zao_) rfl zp zf rfl λ⟨N,I⟩=>?_;dsimp only;have J:=ev_ (-1) [(Ax.disj x),[33]] ([]:List Pc);refine u_ (@List.perm_append_comm _ _ [_]) ?_;simp only[yak_,yay_]at J;refine Zz 8 ?_;refine f_ (co_ x.left k.left) rfl i_ (λv _ h=>by exact⟨h.2.2.2.2.1.1,h.2.2.2.2.2.1,trivial⟩) rfl λ_=>d_ (y_ dA_ rfl rfl) rfl (B_ H_ K_ T_ rfl rfl rfl rfl rfl rfl λH=>f_ (dD_ (Pc.mk 1 (Ax.disj x) [] (Con.atom x.left) [] [] [] 0 0 0) (-1) (bl_ (-1) [(Ax.disj x),[33]] ([]:List Pc)) N I zaa_) rfl zp zt rfl λ⟨P,L⟩=>?_)
          dsimp only;have a0:=cH_ (-1) (bl_ (-1) [(Ax.disj x),[33]] ([]:List Pc)) (Pc.mk 1 (Ax.disj x) [] (Con.atom x.left) [] [] [] 0 0 0);refine u_ (@List.perm_append_comm _ _ [_]) (Zz 7 ?_);refine O_ (fH_ (kb:=kb) (bk:=bk) (bs:=br) (frm:=(-1)) _ x.left (yad_ _) k.left fl (ins (-1) (bl_ (-1) [(Ax.disj x),[33]] ([]:List Pc)) (Pc.mk 1 (Ax.disj x) [] (Con.atom x.left) [] [] [] 0 0 0)) P L zaa_) rfl rfl zp (λv _ h=>by exact⟨h.2.2.2.2.1.1,h.2.2.2.2.2.1,h.2.1,h.2.2.2.1,trivial⟩) rfl λ⟨Q,K⟩=>?_;dsimp only;have a8:=Con.rightP_len (-1) _ x.left (yad_ _) (ins (-1) (bl_ (-1) [(Ax.disj x),[33]] ([]:List Pc)) (Pc.mk 1 (Ax.disj x) [] (Con.atom x.left) [] [] [] 0 0 0));refine u_ (@List.perm_append_comm _ _ [_]) (Zz 8 ?_);refine f_ (co_ x.right k.right) rfl i_ (λv _ h=>by exact⟨h.2.2.2.2.1.2.1,h.2.2.2.2.2.1,trivial⟩) rfl λ_=>d_ (y_ dA_ rfl rfl) rfl (B_ H_ K_ T_ rfl rfl rfl rfl rfl rfl λV=>f_ (dD_ (Pc.mk 1 (Ax.disj x) [] (Con.atom x.right) [] [] [] 0 0 0) (-1) (Con.rightP (-1) x.left (ins (-1) (bl_ (-1) [(Ax.disj x),[33]] ([]:List Pc)) (Pc.mk 1 (Ax.disj x) [] (Con.atom x.left) [] [] [] 0 0 0))) Q K zaa_) rfl zp zt rfl λ⟨a3,W⟩=>?_)
          dsimp only;have hb_4:=cH_ (-1) (Con.rightP (-1) x.left (ins (-1) (bl_ (-1) [(Ax.disj x),[33]] ([]:List Pc)) (Pc.mk 1 (Ax.disj x) [] (Con.atom x.left) [] [] [] 0 0 0))) (Pc.mk 1 (Ax.disj x) [] (Con.atom x.right) [] [] [] 0 0 0);refine u_ (@List.perm_append_comm _ _ [_]) (Zz 7 ?_);refine O_ (fH_ (kb:=kb) (bk:=bk) (bs:=br) (frm:=(-1)) _ x.right (yad_ _) k.right fr (ins (-1) (Con.rightP (-1) x.left (ins (-1) (bl_ (-1) [(Ax.disj x),[33]] ([]:List Pc)) (Pc.mk 1 (Ax.disj x) [] (Con.atom x.left) [] [] [] 0 0 0))) (Pc.mk 1 (Ax.disj x) [] (Con.atom x.right) [] [] [] 0 0 0)) a3 W zaa_) rfl rfl zp (λv _ h=>by exact⟨h.2.2.2.2.1.2.1,h.2.2.2.2.2.1,h.2.1,h.2.2.2.1,trivial⟩) rfl λ⟨a4,T⟩=>?_;dsimp only;refine u_ (@List.perm_append_comm _ _ [_]) (Zz 5 ?_);refine O_ (jN_ (Ax.disj x) [33]) rfl rfl i_ zt rfl λ_=>B_ bm_ ao_ ax_ rfl rfl rfl rfl rfl rfl λa6=>Zz 16 ?_
          refine U_ (List.flatMap Fc.cells [(Fc.mk 1 (Ax.disj x) [33] [] 0 0)]) e_ rfl ?_;refine dg_ T.row (c_ (c_ (c_ Z_))) λC d m B A=>?_
          have e:x.goalP=((Con.rightP (-1) x.right (ins (-1) (Con.rightP (-1) x.left (ins (-1) (bl_ (-1) [(Ax.disj x),[33]] ([]:List Pc)) (Pc.mk 1 (Ax.disj x) [] (Con.atom x.left) [] [] [] 0 0 0))) (Pc.mk 1 (Ax.disj x) [] (Con.atom x.right) [] [] [] 0 0 0))),[(Fc.mk 1 (Ax.disj x) [33] [] 0 0)],0):=by
            unfold Ax.goalP;rw[yag_ zaa_];repeat (first|rfl|(rw[yaq_ zaa_])|(rw[yag_ zaa_]))
          have U:x.goalP.1.length<=d/\d<=maxLen/\x.goalP.2.1.length<=1/\1<=maxLen/\(C=none->d=0):=by rw[e];exact⟨B,A,by simp,by decide,at_.nilcap T.row m⟩
          have S:Value.tuple #[a4.sv,.slice (some ⟨a6,0,none⟩) 1 1,i4_ 0]=.tuple #[.slice C x.goalP.1.length d,.slice (some ⟨a6,0,none⟩) x.goalP.2.1.length 1,i4_ x.goalP.2.2]:=by
            rw[e,m]<;>rfl
          have E:List.flatMap Pc.cells (Con.rightP (-1) x.right (ins (-1) (Con.rightP (-1) x.left (ins (-1) (bl_ (-1) [(Ax.disj x),[33]] ([]:List Pc)) (Pc.mk 1 (Ax.disj x) [] (Con.atom x.left) [] [] [] 0 0 0))) (Pc.mk 1 (Ax.disj x) [] (Con.atom x.right) [] [] [] 0 0 0)))=x.goalP.1.flatMap Pc.cells:=by rw[e]
          have F:List.flatMap Fc.cells [(Fc.mk 1 (Ax.disj x) [33] [] 0 0)]=x.goalP.2.1.flatMap Fc.cells:=by rw[e]
          exact lL_ fa_ ⟨(C,d,(some ⟨a6,0,none⟩),1),U⟩ rfl rfl rfl S i_ (λv _ h=>⟨E▸h.1,F▸h.2.1,trivial⟩)
      . obtain⟨fl,zl⟩:=Con.check_zero (G.left zaa_);obtain⟨fr,zr⟩:=Con.check_zero (G.right zaa_);refine Zz 6 ?_;refine G_ 4 [0,1,3,4] zk zs (Zz 5 ?_);refine m_ 2 rfl zk (f_ (co_ x.left k.left) rfl i_ (λv _ h=>by exact⟨h.2.2.2.1.1,h.2.2.2.2.1,trivial⟩) rfl λ_=>Zz 3 ?_);refine m_ 5 rfl zk (f_ (co_ x.right k.right) rfl i_ (λv _ h=>by exact⟨h.2.2.2.1.2.1,h.2.2.2.2.1,trivial⟩) rfl λ_=>Zz 3 ?_);refine G_ 0 [6,7] zk zs (Zz 10 ?_);refine B_ n_ D_ V_ rfl rfl rfl rfl rfl rfl λM=>?_;refine U_ (List.flatMap aa_ [(Con.atom x.left),(Con.atom x.right)]) e_ rfl ?_;refine f_ (gw_ [(Con.atom x.left),(Con.atom x.right)] (some ⟨M,0,none⟩) 2 (-1) ([]:List Pc) ⟨.slice none 0 0,O,#[],0,[]⟩ ⟨at_.nil _ _,rfl,by simp⟩ zai_ zao_) rfl zp zf rfl λ⟨N,I⟩=>?_;dsimp only;have J:=ev_ (-1) [(Con.atom x.left),(Con.atom x.right)] ([]:List Pc);refine u_ (@List.perm_append_comm _ _ [_]) ?_;simp only[yak_,yay_]at J;refine Zz 7 ?_;refine O_ (fH_ (kb:=kb) (bk:=bk) (bs:=br) (frm:=(-1)) _ x.left (yad_ _) k.left fl (bl_ (-1) [(Con.atom x.left),(Con.atom x.right)] ([]:List Pc)) N I zaa_) rfl rfl zp (λv _ h=>by exact⟨h.2.2.2.2.1.1,h.2.2.2.2.2.1,h.2.1,h.2.2.2.1,trivial⟩) rfl λ⟨P,L⟩=>?_;dsimp only;have a0:=Con.rightP_len (-1) _ x.left (yad_ _) (bl_ (-1) [(Con.atom x.left),(Con.atom x.right)] ([]:List Pc));refine u_ (@List.perm_append_comm _ _ [_]) (Zz 7 ?_);refine O_ (hw_ (kb:=kb) (bk:=bk) (bs:=bl) (frm:=(-1)) _ x.right (yad_ _) k.right fr (Con.rightP (-1) x.left (bl_ (-1) [(Con.atom x.left),(Con.atom x.right)] ([]:List Pc))) P L zaa_) rfl rfl zp (λv _ h=>by exact⟨h.2.2.2.2.1.2.1,h.2.2.2.2.2.1,h.2.1,h.2.2.1,trivial⟩) rfl λ⟨Q,K⟩=>?_;dsimp only;have a8:=Con.leftP_len (-1) _ x.right (yad_ _) (Con.rightP (-1) x.left (bl_ (-1) [(Con.atom x.left),(Con.atom x.right)] ([]:List Pc)));refine u_ (@List.perm_append_comm _ _ [_]) (Zz 7 ?_);refine O_ (jN_ (Con.atom x.left) (Con.atom x.right)) rfl rfl i_ zt rfl λ_=>B_ bm_ ao_ ax_ rfl rfl rfl rfl rfl rfl λH=>Zi 7 (λZ=>?_) λZ=>?_
        . refine Zz 18 ?_;refine U_ (List.flatMap Fc.cells [(Fc.mk 1 (Con.atom x.left) (Con.atom x.right) [] 0 0)]) e_ rfl ?_;refine dg_ K.row (c_ (c_ (c_ Z_))) λC d m B A=>?_
          have e:x.goalP=((Con.leftP (-1) x.right (Con.rightP (-1) x.left (bl_ (-1) [(Con.atom x.left),(Con.atom x.right)] ([]:List Pc)))),[(Fc.mk 1 (Con.atom x.left) (Con.atom x.right) [] 0 0)],0):=by
            unfold Ax.goalP;rw[yag_ zaa_];repeat (first|rfl|(rw[yaq_ zaa_])|(rw[yag_ zaa_]))
          have U:x.goalP.1.length<=d/\d<=maxLen/\x.goalP.2.1.length<=1/\1<=maxLen/\(C=none->d=0):=by rw[e];exact⟨B,A,by simp,by decide,at_.nilcap K.row m⟩
          have S:Value.tuple #[Q.sv,.slice (some ⟨H,0,none⟩) 1 1,i4_ 0]=.tuple #[.slice C x.goalP.1.length d,.slice (some ⟨H,0,none⟩) x.goalP.2.1.length 1,i4_ x.goalP.2.2]:=by
            rw[e,m]<;>rfl
          have E:List.flatMap Pc.cells (Con.leftP (-1) x.right (Con.rightP (-1) x.left (bl_ (-1) [(Con.atom x.left),(Con.atom x.right)] ([]:List Pc))))=x.goalP.1.flatMap Pc.cells:=by rw[e]
          have F:List.flatMap Fc.cells [(Fc.mk 1 (Con.atom x.left) (Con.atom x.right) [] 0 0)]=x.goalP.2.1.flatMap Fc.cells:=by rw[e]
          exact lL_ fa_ ⟨(C,d,(some ⟨H,0,none⟩),1),U⟩ rfl rfl rfl S i_ (λv _ h=>⟨E▸h.1,F▸h.2.1,trivial⟩)
        . obtain⟨fl,zl⟩:=Con.check_zero (G.left zaa_);obtain⟨fr,zr⟩:=Con.check_zero (G.right zaa_);refine Zz 8 ?_;refine O_ (fH_ (kb:=kb) (bk:=bk) (bs:=br) (frm:=(-1)) _ x.right (yad_ _) k.right fr (Con.leftP (-1) x.right (Con.rightP (-1) x.left (bl_ (-1) [(Con.atom x.left),(Con.atom x.right)] ([]:List Pc)))) Q K zaa_) rfl rfl zp (λv _ h=>by exact⟨h.2.2.2.2.1.2.1,h.2.2.2.2.2.1,h.2.1,h.2.2.2.1,trivial⟩) rfl λ⟨a3,W⟩=>?_;dsimp only;have hb_4:=Con.rightP_len (-1) _ x.right (yad_ _) (Con.leftP (-1) x.right (Con.rightP (-1) x.left (bl_ (-1) [(Con.atom x.left),(Con.atom x.right)] ([]:List Pc))));refine u_ (@List.perm_append_comm _ _ [_,_]) (Zz 7 ?_);refine O_ (hw_ (kb:=kb) (bk:=bk) (bs:=bl) (frm:=(-1)) _ x.left (yad_ _) k.left fl (Con.rightP (-1) x.right (Con.leftP (-1) x.right (Con.rightP (-1) x.left (bl_ (-1) [(Con.atom x.left),(Con.atom x.right)] ([]:List Pc))))) a3 W zaa_) rfl rfl zp (λv _ h=>by exact⟨h.2.2.2.2.1.1,h.2.2.2.2.2.1,h.2.1,h.2.2.1,trivial⟩) rfl λ⟨a4,T⟩=>?_;dsimp only;refine u_ (@List.perm_append_comm _ _ [_,_]) (Zz 7 ?_);refine O_ (jN_ (Con.atom x.right) (Con.atom x.left)) rfl rfl i_ zt rfl λ_=>B_ bm_ ao_ ax_ rfl rfl rfl rfl rfl rfl λV=>?_;have a1:at_ 104 6 (.slice (some ⟨H,0,none⟩) 1 1) 1 (Fc.cells (Fc.mk 1 (Con.atom x.left) (Con.atom x.right) [] 0 0)) [(H,.cells (Fc.cells (Fc.mk 1 (Con.atom x.left) (Con.atom x.right) [] 0 0)).toArray 104 (0,0))]:=⟨rfl,.inr ⟨H,1,_,rfl,rfl,by decide,by decide,rfl,rfl⟩⟩;refine aH_ (news:=Fc.cells (Fc.mk 1 (Con.atom x.right) (Con.atom x.left) [] 0 0)) eltF a1 rfl rfl zp rfl (bz_ 0 rfl) (jK_ rfl) zae_ zae_ rfl λsvF HrF Y=>?_;obtain⟨gF,cpF,curF,rfl,rfl,hrF⟩:=Y.some zae_;refine Zz 16 ?_;refine dg_ Y e_ λadF cpG hsvF a7 a5=>?_;refine dg_ T.row (c_ (c_ (c_ (c_ Z_)))) λC d m B A=>?_
          have e:x.goalP=((Con.leftP (-1) x.left (Con.rightP (-1) x.right (Con.leftP (-1) x.right (Con.rightP (-1) x.left (bl_ (-1) [(Con.atom x.left),(Con.atom x.right)] ([]:List Pc)))))),[⟨1,x.left.atom,x.right.atom,[],0,0⟩,⟨1,x.right.atom,x.left.atom,[],0,0⟩],0):=by
            unfold Ax.goalP;rw[yag_ zaa_];repeat (first|rfl|(rw[yaq_ zaa_])|(rw[yag_ zaa_]))
          have U:x.goalP.1.length<=d/\d<=maxLen/\x.goalP.2.1.length<=cpG/\cpG<=maxLen/\(C=none->d=0):=by rw[e];exact⟨B,A,a7,a5,at_.nilcap T.row m⟩
          have S:Value.tuple #[a4.sv,.slice (some ⟨gF,0,none⟩) 2 cpF,i4_ 0]=.tuple #[.slice C x.goalP.1.length d,.slice adF x.goalP.2.1.length cpG,i4_ x.goalP.2.2]:=by
            rw[e,m];exact yae_ (λz=>Value.tuple #[_,z,_]) hsvF
          have E:List.flatMap Pc.cells (Con.leftP (-1) x.left (Con.rightP (-1) x.right (Con.leftP (-1) x.right (Con.rightP (-1) x.left (bl_ (-1) [(Con.atom x.left),(Con.atom x.right)] ([]:List Pc))))))=x.goalP.1.flatMap Pc.cells:=by rw[e]
          have F:List.flatMap Fc.cells [⟨1,x.left.atom,x.right.atom,[],0,0⟩,⟨1,x.right.atom,x.left.atom,[],0,0⟩]=x.goalP.2.1.flatMap Fc.cells:=by rw[e]
          exact lL_ fa_ ⟨(C,d,adF,cpG),U⟩ rfl rfl rfl S i_ (λv _ h=>⟨E▸h.1,F▸h.2.1,trivial⟩)
    . obtain⟨fl,zl⟩:=Con.check_zero (G.left zaa_);obtain⟨fr,zr⟩:=Con.check_zero (G.right zaa_);refine Zz 9 ?_;refine G_ 4 [0,1,3,4] zk zs (Zz 5 ?_);refine m_ 2 rfl zk (f_ (co_ x.left k.left) rfl i_ (λv _ h=>by exact⟨h.2.2.2.1.1,h.2.2.2.2.1,trivial⟩) rfl λ_=>Zz 3 ?_);refine m_ 5 rfl zk (f_ (co_ x.right k.right) rfl i_ (λv _ h=>by exact⟨h.2.2.2.1.2.1,h.2.2.2.2.1,trivial⟩) rfl λ_=>Zz 3 ?_);refine G_ 0 [6,7] zk zs (Zz 10 ?_);refine B_ n_ D_ V_ rfl rfl rfl rfl rfl rfl λM=>?_;refine U_ (List.flatMap aa_ [(Con.atom x.left),(Con.atom x.right)]) e_ rfl ?_;refine f_ (gw_ [(Con.atom x.left),(Con.atom x.right)] (some ⟨M,0,none⟩) 2 (-1) ([]:List Pc) ⟨.slice none 0 0,O,#[],0,[]⟩ ⟨at_.nil _ _,rfl,by simp⟩ zai_ zao_) rfl zp zf rfl λ⟨N,I⟩=>?_;dsimp only;have J:=ev_ (-1) [(Con.atom x.left),(Con.atom x.right)] ([]:List Pc);refine u_ (@List.perm_append_comm _ _ [_]) ?_;simp only[yak_,yay_]at J;refine Zz 7 ?_;refine O_ (fH_ (kb:=kb) (bk:=bk) (bs:=br) (frm:=(-1)) _ x.left (yad_ _) k.left fl (bl_ (-1) [(Con.atom x.left),(Con.atom x.right)] ([]:List Pc)) N I zaa_) rfl rfl zp (λv _ h=>by exact⟨h.2.2.2.2.1.1,h.2.2.2.2.2.1,h.2.1,h.2.2.2.1,trivial⟩) rfl λ⟨P,L⟩=>?_;dsimp only;have a0:=Con.rightP_len (-1) _ x.left (yad_ _) (bl_ (-1) [(Con.atom x.left),(Con.atom x.right)] ([]:List Pc));refine u_ (@List.perm_append_comm _ _ [_]) (Zz 7 ?_);refine O_ (hw_ (kb:=kb) (bk:=bk) (bs:=bl) (frm:=(-1)) _ x.right (yad_ _) k.right fr (Con.rightP (-1) x.left (bl_ (-1) [(Con.atom x.left),(Con.atom x.right)] ([]:List Pc))) P L zaa_) rfl rfl zp (λv _ h=>by exact⟨h.2.2.2.2.1.2.1,h.2.2.2.2.2.1,h.2.1,h.2.2.1,trivial⟩) rfl λ⟨Q,K⟩=>?_;dsimp only;refine u_ (@List.perm_append_comm _ _ [_]) (Zz 7 ?_);refine O_ (jN_ (Con.atom x.left) (Con.atom x.right)) rfl rfl i_ zt rfl λ_=>B_ bm_ ao_ ax_ rfl rfl rfl rfl rfl rfl λH=>Zi 7 (λX=>?_) λX=>?_
      . refine Zz 18 ?_;refine U_ (List.flatMap Fc.cells [(Fc.mk 1 (Con.atom x.left) (Con.atom x.right) [] 0 0)]) e_ rfl ?_;refine dg_ K.row (c_ (c_ (c_ Z_))) λC d m B A=>?_
        have e:x.goalP=((Con.leftP (-1) x.right (Con.rightP (-1) x.left (bl_ (-1) [(Con.atom x.left),(Con.atom x.right)] ([]:List Pc)))),[(Fc.mk 1 (Con.atom x.left) (Con.atom x.right) [] 0 0)],0):=by
          unfold Ax.goalP;rw[yag_ zaa_];repeat (first|rfl|(rw[yaq_ zaa_])|(rw[yag_ zaa_]))
        have U:x.goalP.1.length<=d/\d<=maxLen/\x.goalP.2.1.length<=1/\1<=maxLen/\(C=none->d=0):=by rw[e];exact⟨B,A,by simp,by decide,at_.nilcap K.row m⟩
        have S:Value.tuple #[Q.sv,.slice (some ⟨H,0,none⟩) 1 1,i4_ 0]=.tuple #[.slice C x.goalP.1.length d,.slice (some ⟨H,0,none⟩) x.goalP.2.1.length 1,i4_ x.goalP.2.2]:=by
          rw[e,m]<;>rfl
        have E:List.flatMap Pc.cells (Con.leftP (-1) x.right (Con.rightP (-1) x.left (bl_ (-1) [(Con.atom x.left),(Con.atom x.right)] ([]:List Pc))))=x.goalP.1.flatMap Pc.cells:=by rw[e]
        have F:List.flatMap Fc.cells [(Fc.mk 1 (Con.atom x.left) (Con.atom x.right) [] 0 0)]=x.goalP.2.1.flatMap Fc.cells:=by rw[e]
        exact lL_ fa_ ⟨(C,d,(some ⟨H,0,none⟩),1),U⟩ rfl rfl rfl S i_ (λv _ h=>⟨E▸h.1,F▸h.2.1,trivial⟩)
      . exfalso;omega
  . refine Zz 12 ?_;have e:x.goalP=([],[],(Ax.check x)):=by unfold Ax.goalP;rw[yaq_ zaf_]
    have U:x.goalP.1.length<=0/\0<=maxLen/\x.goalP.2.1.length<=0/\0<=maxLen/\((none:Ao)=none->0=0):=by rw[e];simp
    have S:Value.tuple #[.slice none 0 0,.slice none 0 0,i4_ (Ax.check x)]=.tuple #[.slice none x.goalP.1.length 0,.slice none x.goalP.2.1.length 0,i4_ x.goalP.2.2]:=by rw[e]<;>rfl
    have E:x.goalP.1.flatMap Pc.cells=[]:=by rw[e];rfl
    have F:x.goalP.2.1.flatMap Fc.cells=[]:=by rw[e];rfl
    exact lL_ fa_ ⟨(none,0,none,0),U⟩ rfl rfl rfl S i_ (λv _ h=>⟨.inl E,.inl F,trivial⟩)
abbrev GlT (x:Ax) (p:List Pc) (fs:List Fc) (er:Int):Prop:=Tri prog 45 #[x.val] [] [x.memF,bE_] (λy:{y:Ao×Nat×Ao×Nat // p.length<=y.2.1/\y.2.1<=maxLen/\fs.length<=y.2.2.2/\y.2.2.2<=maxLen/\(y.1=none->y.2.1=0)}=>.tuple #[.slice y.1.1 p.length y.1.2.1,.slice y.1.2.2.1 fs.length y.1.2.2.2,.int .i64 er]) (λ_=>[]) (λy=>[X_ y.1.1 (p.flatMap Pc.cells),X_ y.1.2.2.1 (fs.flatMap Fc.cells)])
theorem vz_ {x:Ax} (d:x.ok) {p:List Pc} {k:List Fc} {er:Int} (e:x.goalP=(p,k,er)):GlT x p k er:=by
  have h:=goal_c x d;unfold GlT;generalize x.goalP=g at h e
  subst e;exact h
end Go.Proofs.YtbffkokbdeppaaaGreatDoor
