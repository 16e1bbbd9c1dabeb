/-
  Lemmas for the law ModuleTypes (no condition).
-/
import Derived.Test.YthmjeabeoodghaaGreatDoorQModuleTypes4
import Derived.ProofKit
import Derived.OpenShut
import Derived.ReadAgain
import Derived.Deep.Slices
import Derived.SevenTiedAt
import Derived.Stop.Joined
import Derived.Lay
import Derived.LaidMore
set_option linter.unusedVariables false
set_option linter.unusedSimpArgs false
set_option linter.unusedSectionVars false
set_option maxHeartbeats 1000000
namespace Go.Proofs.YthmjeabeoodghaaGreatDoor
open Go Go.Sx Go.Proofs Tryz
attribute [local irreducible] Code.wp wpList wpAnyH
open Go.Vs
theorem CE_ (x:Ax) (K:x.ok) (hc:x.check=0) {kb:Nat} (frm:Int) (q:CS) (hq:CInv [] q) :
    Tri prog 123 #[zp_ kb 0,x.val] (fR_ kb frm q) [x.memF,bN_] (fun _:{q':CS // CInv (x.pieces frm) q'}=>.tuple #[]) (fun q'=>fR_ kb frm q'.1) (fun _=>[]):=by
  have G:=Ax.good_of hc;obtain⟨k,S,⟨kl,I,H,hl,al,cl,pl⟩,⟨d,m,A,y,C,B,E⟩,ad,cap,rs,ro,a,b⟩:=x;have hlen:=K.len;have hcap:=K.cap;have h_1:=G.k1;have h_2:=G.k9;have h_3:([]:List Pc).length=0:=rfl;dsimp only at hlen hcap h_1 h_2;show Tri prog 123 #[zp_ kb 0,.agg (Ax.cells (Ax.mk k S (Con.mk kl I H hl al cl pl) (Con.mk d m A y C B E) ad cap rs ro a b)).toArray] _ _ _ _ _
  refine j_ func123 rfl rfl ntmps123 rfl fun v_1=>?_;refine Zz 2 ?_;refine K_ rfl rfl fun P=>Zz 5 ?_
  refine f_ (vM_ kb) rfl (.refl _) zt rfl fun x=>?_;obtain⟨bk,bl,br⟩:=x;refine Zj 16 (fun hr_1=>?_) fun hr_1=>?_
  · refine Zj 6 (fun hr_2=>?_) fun hr_2=>?_
    · refine Zj 6 (fun hr_3=>?_) fun hr_3=>?_
      · refine Zj 6 (fun hr_4=>?_) fun hr_4=>?_
        · refine Zj 6 (fun hr_5=>?_) fun hr_5=>?_
          · refine Zj 6 (fun U=>?_) fun U=>?_
            · refine Zj 6 (fun T=>?_) fun T=>?_
              · refine Zj 6 (fun hr_8=>?_) fun hr_8=>?_
                · refine Zj 6 (fun a1=>?_) fun a1=>?_
                  · exfalso;omega
                  · refine Zz 4 ?_;refine ak_ [(P,.cells (Ax.cells (Ax.mk k S (Con.mk kl I H hl al cl pl) (Con.mk d m A y C B E) ad cap rs ro a b)).toArray 30 (0,0))] zk ?_;refine D_ 5 [0,1,2,4,5,6,7] zk (fun _ a b=>⟨Vw.sat.sub a,b⟩) (Zz 8 ?_);refine p_ 3 rfl zk (f_ (eq_ a K.a) rfl (.refl _) zt rfl fun _=>Zz 2 ?_);refine Q_ (fun _ a b=>⟨Vw.sat.sub a,b⟩) (p_ 8 rfl zk (f_ (eq_ b K.b) rfl (.refl _) zt rfl fun _=>Zz 2 ?_));refine Q_ (fun _ a b=>⟨Vw.sat.sub a,b⟩) (D_ 2 [9] zk (fun _ a b=>⟨Vw.sat.sub a,b⟩) (T_ rfl (u_ dS_ rfl rfl) rfl (bV_ (p_ 10 rfl zk (G_ F_ L_ V_ rfl rfl rfl rfl rfl rfl fun R=>Zz 2 ?_)))));refine Q_ (fun _ a b=>⟨Vw.sat.sub a.tail,b⟩) (p_ 11 rfl zk (f_ (dT_ ⟨3,([123]++a++[125]),[],([123]++b++[125]),ro,[],[],0,0,0⟩ frm [] q hq zaa_) rfl (.cons _ (@List.perm_append_comm _ [_] _)) zt rfl fun x=>?_));obtain⟨L,J⟩:=x;refine A_ (@List.perm_append_comm _ _ [_]) (Zz 2 ?_);refine Q_ (fun _ a b=>⟨Vw.sat.sub a,b⟩) (Zz 2 ?_)
                    have e:Ax.pieces frm ⟨k,S,(.mk kl I H hl al cl pl),(.mk d m A y C B E),ad,cap,rs,ro,a,b⟩=(ins frm [] ⟨3,([123]++a++[125]),[],([123]++b++[125]),ro,[],[],0,0,0⟩):=by
                      unfold Ax.pieces;dsimp only
                      repeat (first|rfl|(rw[if_pos zaa_])|(rw[if_neg zaa_]))
                    exact ck_ ew_ ⟨L,by rw[e];exact J⟩ rfl (F:=[_]) (@List.perm_append_comm _ [_] _) zt
                · obtain⟨fr,zr⟩:=Con.check_zero (G.right zbf_);dsimp only at fr zr;refine Zz 9 ?_;refine Z_ (jA_ (kb:=kb) (bk:=bk) (bs:=br) _ (.mk d m A y C B E) (Nat.le_refl _) K.right fr [] q hq zaa_) rfl rfl (@List.perm_append_comm _ [_] _) (fun v _ h=>by exact⟨h.2.2.2.1.2.1,h.2.2.2.2.1,h.1,h.2.2.1,trivial⟩) rfl fun x=>?_;obtain⟨L,J⟩:=x;have Q:=Con.rightP_len frm _ (.mk d m A y C B E) (Nat.le_refl _) [];refine A_ (@List.perm_append_comm _ _ [_]) (Zz 2 ?_);refine ak_ [(P,.cells (Ax.cells (Ax.mk k S (Con.mk kl I H hl al cl pl) (Con.mk d m A y C B E) ad cap rs ro a b)).toArray 30 (0,0))] zk ?_;refine D_ 5 [0,1,2,4,5] zk (fun _ a b=>⟨Vw.sat.sub a,b⟩) (Zz 6 ?_);refine p_ 3 rfl zk (f_ (eq_ a K.a) rfl (.refl _) zt rfl fun _=>Zz 2 ?_);refine Q_ (fun _ a b=>⟨Vw.sat.sub a,b⟩) (p_ 6 rfl zk (f_ (cH_ (.mk d m A y C B E) K.right) rfl (.refl _) (fun v _ h=>⟨h.2.2.2.1.2.1,h.2.2.2.2.1,trivial⟩) rfl fun _=>Zz 2 ?_));refine Q_ (fun _ a b=>⟨Vw.sat.sub a,b⟩) (D_ 2 [7] zk (fun _ a b=>⟨Vw.sat.sub a,b⟩) (T_ rfl (u_ dS_ rfl rfl) rfl (bV_ (p_ 8 rfl zk (G_ F_ L_ V_ rfl rfl rfl rfl rfl rfl fun R=>Zz 2 ?_)))));refine Q_ (fun _ a b=>⟨Vw.sat.sub a.tail,b⟩) (p_ 9 rfl zk (f_ (dT_ ⟨1,([123]++a++[125]),[],(Con.atom (.mk d m A y C B E)),[],[],[],0,0,0⟩ frm (Con.rightP frm (.mk d m A y C B E) []) L J zaa_) rfl (.cons _ (@List.perm_append_comm _ [_] _)) zt rfl fun x=>?_));obtain⟨N,M⟩:=x;refine A_ (@List.perm_append_comm _ _ [_]) (Zz 2 ?_);refine Q_ (fun _ a b=>⟨Vw.sat.sub a,b⟩) (Zz 2 ?_)
                  have e:Ax.pieces frm ⟨k,S,(.mk kl I H hl al cl pl),(.mk d m A y C B E),ad,cap,rs,ro,a,b⟩=(ins frm (Con.rightP frm (.mk d m A y C B E) []) ⟨1,([123]++a++[125]),[],(Con.atom (.mk d m A y C B E)),[],[],[],0,0,0⟩):=by
                    unfold Ax.pieces;dsimp only
                    repeat (first|rfl|(rw[if_pos zaa_])|(rw[if_neg zaa_]))
                  exact ck_ ew_ ⟨N,by rw[e];exact M⟩ rfl (F:=[_]) (@List.perm_append_comm _ [_] _) zt
              · refine Zz 8 ?_;refine e_ (u_ dS_ rfl rfl) rfl (G_ F_ L_ V_ rfl rfl rfl rfl rfl rfl fun R=>f_ (dT_ ⟨7,[],[],[],ro,[],[],0,0,0⟩ frm [] q hq zaa_) rfl (.cons _ (@List.perm_append_comm _ [_] _)) zt rfl fun x=>?_);obtain⟨L,J⟩:=x;refine A_ (@List.perm_append_comm _ _ [_]) (Zz 2 ?_)
                have e:Ax.pieces frm ⟨k,S,(.mk kl I H hl al cl pl),(.mk d m A y C B E),ad,cap,rs,ro,a,b⟩=(ins frm [] ⟨7,[],[],[],ro,[],[],0,0,0⟩):=by
                  unfold Ax.pieces;dsimp only
                  repeat (first|rfl|(rw[if_pos zaa_])|(rw[if_neg zaa_]))
                exact ck_ ew_ ⟨L,by rw[e];exact J⟩ rfl (F:=[_]) (@List.perm_append_comm _ [_] _) zt
            · have hch:=G.chain U;dsimp only at hch;have Z:0<rs.length:=by omega
              obtain⟨O,T⟩:∃ O,rs[0]? = some O:=⟨_,List.getElem?_eq_getElem Z⟩;refine Zz 8 ?_;refine e_ (U_ t_ M_ rfl rfl (fun v _ h=>aK_ (n:=1) aY_ zad_ (h.2.2.2.1.2.2) T) zaa_ zae_) rfl ?_;refine Zz 8 ?_;refine e_ (dH_ (i:=1) (j:=rs.length) (kl:=.i64) (kh:=.i64) t_ M_ rfl rfl rfl zaa_ zaa_) rfl (Zz 5 ?_);refine bt_ [(0,zp_ kb 0),(3,zp_ P 0),(6,str O),(130,.slice (sad ad cap 1 1) (rs.length - 1) (cap - 1)),(131,.int .i64 ((rs.length - 1:Nat):Int)),(132,.int .i64 ((0:Nat):Int))] zl ?_;have hr_8:=Con.plain_len (G.roles O (List.mem_of_getElem? T));refine bO_ (ι:={x:Nat×Str×List Pc×CS // x.1≤rs.length - 1∧CInv x.2.2.1 x.2.2.2∧x.2.2.1.length≤x.1∧x.2.1.length≤30*(x.1+1)∧Ax.chainP frm ro (rs.drop 1) O []=Ax.chainP frm ro (rs.drop (1+x.1)) x.2.1 x.2.2.1}) (fun x=>[(0,zp_ kb 0),(3,zp_ P 0),(6,str x.1.2.1),(130,.slice (sad ad cap 1 1) (rs.length - 1) (cap - 1)),(131,.int .i64 ((rs.length - 1:Nat):Int)),(132,.int .i64 (x.1.1:Int))]) (fun x=>_::fR_ kb frm x.1.2.2.2) (fun _=>_) (fun x=>rs.length - 1 - x.1.1) ⟨(0,O,[],q),by simp,hq,by simp,by simp;omega,rfl⟩ ?_;rintro ⟨⟨i,f,W,L⟩,hj⟩;dsimp only at hj;refine bt_ [(0,zp_ kb 0),(3,zp_ P 0),(6,str f),(130,.slice (sad ad cap 1 1) (rs.length - 1) (cap - 1)),(131,.int .i64 ((rs.length - 1:Nat):Int)),(132,.int .i64 (i:Int))] zl ?_;refine Zj 2 (fun a1=>?_) fun a1=>?_
              · refine Zz 6 ?_
                have e:Ax.pieces frm ⟨k,S,(.mk kl I H hl al cl pl),(.mk d m A y C B E),ad,cap,rs,ro,a,b⟩=Ax.chainP frm ro (rs.drop 1) O []:=by
                  unfold Ax.pieces;dsimp only;rw[tA_ T]
                  repeat (first|rfl|(rw[if_pos zaa_])|(rw[if_neg zaa_]))
                have e_1:=hj.2.2.2.2;rw[List.drop_of_length_le (show rs.length≤1+i by omega)]at e_1;rw[e_1]at e;exact ck_ ew_ ⟨L,by rw[e];exact hj.2.1⟩ rfl (F:=[_]) (@List.perm_append_comm _ [_] _) zt
              · have hlt:i<rs.length - 1:=by omega
                obtain⟨g,hp⟩:∃ g,(rs.drop 1)[i]? = some g:=⟨_,List.getElem?_eq_getElem zap_⟩;have a0:rs[1+i]? = some g:=by rw[← List.getElem?_drop];exact hp
                have hg:=Con.plain_len (G.roles g (List.mem_of_getElem? a0));have hro:=Con.plain_len (G.role (by show k=4∨k=5∨k=6∨k=7∨k=9;omega));dsimp only at hro;refine Zz 11 ?_;refine e_ (U_ t_ M_ rfl rfl (fun v _ h=>aK_ (n:=1) aY_ zad_ (bY_.rest aY_ h.2.2.2.1.2.2 K.len 1) hp) zaa_ zae_) rfl ?_;refine e_ (bP_ (ad:=(sad ad cap 1 1)) ai_ rfl (fun v _ h=>bY_.rest aY_ h.2.2.2.1.2.2 K.len 1) (z_ aY_ hp 0 _ rfl)) rfl (Zj 19 (fun hr_10=>?_) fun hr_10=>?_)
                · refine Zz 11 ?_;refine e_ (u_ dS_ rfl rfl) rfl (G_ F_ L_ V_ rfl rfl rfl rfl rfl rfl fun R=>f_ (dT_ ⟨6,[],[],[],f,g,ro,0,0,0⟩ frm W L hj.2.1 zaa_) rfl (.cons _ (@List.perm_append_comm _ [_] _)) zt rfl fun x=>?_);obtain⟨N,J⟩:=x;have Q:=cj_ frm W ⟨6,[],[],[],f,g,ro,0,0,0⟩;refine A_ (@List.perm_append_comm _ _ [_]) (Zz 12 ?_);have a2:=lq_ a0;have Y:(rs.drop (1+i+1)=[])↔¬ (i+2<rs.length):=by rw[List.drop_eq_nil_iff];omega
                  exact x_ ⟨(i+1,ro,(ins frm W ⟨6,[],[],[],f,g,ro,0,0,0⟩),N),by dsimp only;omega,J,by dsimp only;omega,by dsimp only;omega,by rw[hj.2.2.2.2,a2];simp only[Ax.chainP];rw[if_pos (by rw[Y];omega),show 1+(i+1)=1+i+1 by omega]⟩ zap_ zl (F:=[]) zaA_ zh
                · refine Zz 5 ?_;refine e_ (dW_ rfl rfl zaj_) rfl ?_;refine Zz 1 ?_;refine e_ (dW_ rfl rfl zaj_) rfl ?_;refine Zz 9 ?_;refine e_ (u_ dS_ rfl rfl) rfl (G_ F_ L_ V_ rfl rfl rfl rfl rfl rfl fun R=>f_ (dT_ ⟨6,[],[],[],f,g,(f++[46])++g,0,0,0⟩ frm W L hj.2.1 zaa_) rfl (.cons _ (@List.perm_append_comm _ [_] _)) zt rfl fun x=>?_);obtain⟨N,J⟩:=x;have Q:=cj_ frm W ⟨6,[],[],[],f,g,(f++[46])++g,0,0,0⟩;refine A_ (@List.perm_append_comm _ _ [_]) (Zz 12 ?_);have a2:=lq_ a0;have Y:(rs.drop (1+i+1)=[])↔¬ (i+2<rs.length):=by rw[List.drop_eq_nil_iff];omega
                  exact x_ ⟨(i+1,(f++[46])++g,(ins frm W ⟨6,[],[],[],f,g,(f++[46])++g,0,0,0⟩),N),by dsimp only;omega,J,by dsimp only;omega,by simp only[List.length_append,List.length_cons,List.length_nil];omega,by rw[hj.2.2.2.2,a2];simp only[Ax.chainP];rw[if_neg (by rw[Y];omega),show 1+(i+1)=1+i+1 by omega]⟩ zap_ zl (F:=[]) zaA_ zh
          · have Z:0<rs.length:=by have:=G.one hr_5;dsimp only at this;omega
            obtain⟨O,U⟩:∃ O,rs[0]? = some O:=⟨_,List.getElem?_eq_getElem Z⟩;refine Zz 4 ?_;refine ak_ [(P,.cells (Ax.cells (Ax.mk k S (Con.mk kl I H hl al cl pl) (Con.mk d m A y C B E) ad cap rs ro a b)).toArray 30 (0,0))] zk ?_;refine D_ 2 [0,1,2,3,4,5,6,7] zk (fun _ a b=>⟨Vw.sat.sub a,b⟩) (Zz 3 ?_);refine T_ rfl (U_ t_ M_ rfl rfl (fun v _ h=>aK_ (n:=1) aY_ zad_ (h.2.2.2.1.2.2) U) zaa_ zae_) rfl ?_;refine Zz 3 ?_;refine T_ rfl (u_ dS_ rfl rfl) rfl (bV_ (p_ 8 rfl zk (G_ F_ L_ V_ rfl rfl rfl rfl rfl rfl fun R=>Zz 2 ?_)));refine Q_ (fun _ a b=>⟨Vw.sat.sub a.tail,b⟩) (p_ 9 rfl zk (f_ (dT_ ⟨5,[],[],[],O,[],ro,0,0,0⟩ frm [] q hq zaa_) rfl (.cons _ (@List.perm_append_comm _ [_] _)) zt rfl fun x=>?_));obtain⟨L,J⟩:=x;refine A_ (@List.perm_append_comm _ _ [_]) (Zz 2 ?_);refine Q_ (fun _ a b=>⟨Vw.sat.sub a,b⟩) (Zz 2 ?_)
            have e:Ax.pieces frm ⟨k,S,(.mk kl I H hl al cl pl),(.mk d m A y C B E),ad,cap,rs,ro,a,b⟩=(ins frm [] ⟨5,[],[],[],O,[],ro,0,0,0⟩):=by
              unfold Ax.pieces;dsimp only;rw[tA_ U]
              repeat (first|rfl|(rw[if_pos zaa_])|(rw[if_neg zaa_]))
            exact ck_ ew_ ⟨L,by rw[e];exact J⟩ rfl (F:=[_]) (@List.perm_append_comm _ [_] _) zt
        · obtain⟨fr,zr⟩:=Con.check_zero (G.right zbf_);dsimp only at fr zr;refine Zz 9 ?_;refine Z_ (jA_ (kb:=kb) (bk:=bk) (bs:=br) _ (.mk d m A y C B E) (Nat.le_refl _) K.right fr [] q hq zaa_) rfl rfl (@List.perm_append_comm _ [_] _) (fun v _ h=>by exact⟨h.2.2.2.1.2.1,h.2.2.2.2.1,h.1,h.2.2.1,trivial⟩) rfl fun x=>?_;obtain⟨L,J⟩:=x;have Q:=Con.rightP_len frm _ (.mk d m A y C B E) (Nat.le_refl _) [];refine A_ (@List.perm_append_comm _ _ [_]) (Zz 2 ?_);refine ak_ [(P,.cells (Ax.cells (Ax.mk k S (Con.mk kl I H hl al cl pl) (Con.mk d m A y C B E) ad cap rs ro a b)).toArray 30 (0,0))] zk ?_;refine D_ 4 [0,1,2,3,4] zk (fun _ a b=>⟨Vw.sat.sub a,b⟩) (Zz 6 ?_);refine p_ 5 rfl zk (f_ (cH_ (.mk d m A y C B E) K.right) rfl (.refl _) (fun v _ h=>⟨h.2.2.2.1.2.1,h.2.2.2.2.1,trivial⟩) rfl fun _=>Zz 2 ?_);refine Q_ (fun _ a b=>⟨Vw.sat.sub a,b⟩) (D_ 2 [6] zk (fun _ a b=>⟨Vw.sat.sub a,b⟩) (T_ rfl (u_ dS_ rfl rfl) rfl (bV_ (p_ 7 rfl zk (G_ F_ L_ V_ rfl rfl rfl rfl rfl rfl fun R=>Zz 2 ?_)))));refine Q_ (fun _ a b=>⟨Vw.sat.sub a.tail,b⟩) (p_ 8 rfl zk (f_ (dT_ ⟨4,[42],[],(Con.atom (.mk d m A y C B E)),ro,[],[],0,0,0⟩ frm (Con.rightP frm (.mk d m A y C B E) []) L J zaa_) rfl (.cons _ (@List.perm_append_comm _ [_] _)) zt rfl fun x=>?_));obtain⟨N,M⟩:=x;refine A_ (@List.perm_append_comm _ _ [_]) (Zz 2 ?_);refine Q_ (fun _ a b=>⟨Vw.sat.sub a,b⟩) (Zz 2 ?_)
          have e:Ax.pieces frm ⟨k,S,(.mk kl I H hl al cl pl),(.mk d m A y C B E),ad,cap,rs,ro,a,b⟩=(ins frm (Con.rightP frm (.mk d m A y C B E) []) ⟨4,[42],[],(Con.atom (.mk d m A y C B E)),ro,[],[],0,0,0⟩):=by
            unfold Ax.pieces;dsimp only
            repeat (first|rfl|(rw[if_pos zaa_])|(rw[if_neg zaa_]))
          exact ck_ ew_ ⟨N,by rw[e];exact M⟩ rfl (F:=[_]) (@List.perm_append_comm _ [_] _) zt
      · obtain⟨fl,zl⟩:=Con.check_zero (G.left (by show k≤3;omega));dsimp only at fl zl;obtain⟨fr,zr⟩:=Con.check_zero (G.right zbf_);dsimp only at fr zr;refine Zz 9 ?_;refine Z_ (kA_ (kb:=kb) (bk:=bk) (bs:=bl) _ (.mk kl I H hl al cl pl) (Nat.le_refl _) K.left fl [] q hq zaa_) rfl rfl (@List.perm_append_comm _ [_] _) (fun v _ h=>by exact⟨h.2.2.2.1.1,h.2.2.2.2.1,h.1,h.2.1,trivial⟩) rfl fun x=>?_;obtain⟨L,J⟩:=x;have Q:=Con.leftP_len frm _ (.mk kl I H hl al cl pl) (Nat.le_refl _) [];refine A_ (@List.perm_append_comm _ _ [_]) (Zz 7 ?_);refine Z_ (kA_ (kb:=kb) (bk:=bk) (bs:=bl) _ (.mk d m A y C B E) (Nat.le_refl _) K.right fr (Con.leftP frm (.mk kl I H hl al cl pl) []) L J zaa_) rfl rfl (@List.perm_append_comm _ [_] _) (fun v _ h=>by exact⟨h.2.2.2.1.2.1,h.2.2.2.2.1,h.1,h.2.1,trivial⟩) rfl fun x=>?_;obtain⟨N,M⟩:=x;have hb_2:=Con.leftP_len frm _ (.mk d m A y C B E) (Nat.le_refl _) (Con.leftP frm (.mk kl I H hl al cl pl) []);refine A_ (@List.perm_append_comm _ _ [_]) (Zz 2 ?_);refine ak_ [(P,.cells (Ax.cells (Ax.mk k S (Con.mk kl I H hl al cl pl) (Con.mk d m A y C B E) ad cap rs ro a b)).toArray 30 (0,0))] zk ?_;refine D_ 5 [0,1,2,4,5] zk (fun _ a b=>⟨Vw.sat.sub a,b⟩) (Zz 6 ?_);refine p_ 3 rfl zk (f_ (cH_ (.mk kl I H hl al cl pl) K.left) rfl (.refl _) (fun v _ h=>⟨h.2.2.2.1.1,h.2.2.2.2.1,trivial⟩) rfl fun _=>Zz 2 ?_);refine Q_ (fun _ a b=>⟨Vw.sat.sub a,b⟩) (p_ 6 rfl zk (f_ (cH_ (.mk d m A y C B E) K.right) rfl (.refl _) (fun v _ h=>⟨h.2.2.2.1.2.1,h.2.2.2.2.1,trivial⟩) rfl fun _=>Zz 2 ?_));refine Q_ (fun _ a b=>⟨Vw.sat.sub a,b⟩) (D_ 2 [7] zk (fun _ a b=>⟨Vw.sat.sub a,b⟩) (T_ rfl (u_ dS_ rfl rfl) rfl (bV_ (p_ 8 rfl zk (G_ F_ L_ V_ rfl rfl rfl rfl rfl rfl fun R=>Zz 2 ?_)))));refine Q_ (fun _ a b=>⟨Vw.sat.sub a.tail,b⟩) (p_ 9 rfl zk (f_ (dT_ ⟨2,(Con.atom (.mk kl I H hl al cl pl)),(Con.atom (.mk d m A y C B E)),[33],[],[],[],0,0,0⟩ frm (Con.leftP frm (.mk d m A y C B E) (Con.leftP frm (.mk kl I H hl al cl pl) [])) N M zaa_) rfl (.cons _ (@List.perm_append_comm _ [_] _)) zt rfl fun x=>?_));obtain⟨X,V⟩:=x;refine A_ (@List.perm_append_comm _ _ [_]) (Zz 2 ?_);refine Q_ (fun _ a b=>⟨Vw.sat.sub a,b⟩) (Zz 2 ?_)
        have e:Ax.pieces frm ⟨k,S,(.mk kl I H hl al cl pl),(.mk d m A y C B E),ad,cap,rs,ro,a,b⟩=(ins frm (Con.leftP frm (.mk d m A y C B E) (Con.leftP frm (.mk kl I H hl al cl pl) [])) ⟨2,(Con.atom (.mk kl I H hl al cl pl)),(Con.atom (.mk d m A y C B E)),[33],[],[],[],0,0,0⟩):=by
          unfold Ax.pieces;dsimp only
          repeat (first|rfl|(rw[if_pos zaa_])|(rw[if_neg zaa_]))
        exact ck_ ew_ ⟨X,by rw[e];exact V⟩ rfl (F:=[_]) (@List.perm_append_comm _ [_] _) zt
    · obtain⟨fl,zl⟩:=Con.check_zero (G.left (by show k≤3;omega));dsimp only at fl zl;obtain⟨fr,zr⟩:=Con.check_zero (G.right zbf_);dsimp only at fr zr;refine Zz 9 ?_;refine Z_ (kA_ (kb:=kb) (bk:=bk) (bs:=bl) _ (.mk kl I H hl al cl pl) (Nat.le_refl _) K.left fl [] q hq zaa_) rfl rfl (@List.perm_append_comm _ [_] _) (fun v _ h=>by exact⟨h.2.2.2.1.1,h.2.2.2.2.1,h.1,h.2.1,trivial⟩) rfl fun x=>?_;obtain⟨L,J⟩:=x;have Q:=Con.leftP_len frm _ (.mk kl I H hl al cl pl) (Nat.le_refl _) [];refine A_ (@List.perm_append_comm _ _ [_]) (Zz 7 ?_);refine Z_ (jA_ (kb:=kb) (bk:=bk) (bs:=br) _ (.mk d m A y C B E) (Nat.le_refl _) K.right fr (Con.leftP frm (.mk kl I H hl al cl pl) []) L J zaa_) rfl rfl (@List.perm_append_comm _ [_] _) (fun v _ h=>by exact⟨h.2.2.2.1.2.1,h.2.2.2.2.1,h.1,h.2.2.1,trivial⟩) rfl fun x=>?_;obtain⟨N,M⟩:=x;have hb_2:=Con.rightP_len frm _ (.mk d m A y C B E) (Nat.le_refl _) (Con.leftP frm (.mk kl I H hl al cl pl) []);refine A_ (@List.perm_append_comm _ _ [_]) (Zz 3 ?_);refine ak_ [(P,.cells (Ax.cells (Ax.mk k S (Con.mk kl I H hl al cl pl) (Con.mk d m A y C B E) ad cap rs ro a b)).toArray 30 (0,0))] zk ?_;refine D_ 5 [0,1,2,4,5] zk (fun _ a b=>⟨Vw.sat.sub a,b⟩) (Zz 6 ?_);refine p_ 3 rfl zk (f_ (cH_ (.mk kl I H hl al cl pl) K.left) rfl (.refl _) (fun v _ h=>⟨h.2.2.2.1.1,h.2.2.2.2.1,trivial⟩) rfl fun _=>Zz 2 ?_);refine Q_ (fun _ a b=>⟨Vw.sat.sub a,b⟩) (p_ 6 rfl zk (f_ (cH_ (.mk d m A y C B E) K.right) rfl (.refl _) (fun v _ h=>⟨h.2.2.2.1.2.1,h.2.2.2.2.1,trivial⟩) rfl fun _=>Zz 2 ?_));refine Q_ (fun _ a b=>⟨Vw.sat.sub a,b⟩) (D_ 2 [7] zk (fun _ a b=>⟨Vw.sat.sub a,b⟩) (T_ rfl (u_ dS_ rfl rfl) rfl (bV_ (p_ 8 rfl zk (G_ F_ L_ V_ rfl rfl rfl rfl rfl rfl fun R=>Zz 2 ?_)))));refine Q_ (fun _ a b=>⟨Vw.sat.sub a.tail,b⟩) (p_ 9 rfl zk (f_ (dT_ ⟨1,(Con.atom (.mk kl I H hl al cl pl)),[],(Con.atom (.mk d m A y C B E)),[],[],[],0,0,0⟩ frm (Con.rightP frm (.mk d m A y C B E) (Con.leftP frm (.mk kl I H hl al cl pl) [])) N M zaa_) rfl (.cons _ (@List.perm_append_comm _ [_] _)) zt rfl fun x=>?_));obtain⟨X,V⟩:=x;have hb_3:=cj_ frm (Con.rightP frm (.mk d m A y C B E) (Con.leftP frm (.mk kl I H hl al cl pl) [])) ⟨1,(Con.atom (.mk kl I H hl al cl pl)),[],(Con.atom (.mk d m A y C B E)),[],[],[],0,0,0⟩;refine A_ (@List.perm_append_comm _ _ [_]) (Zz 2 ?_);refine Q_ (fun _ a b=>⟨Vw.sat.sub a,b⟩) (Zz 7 ?_);refine Z_ (kA_ (kb:=kb) (bk:=bk) (bs:=bl) _ (.mk d m A y C B E) (Nat.le_refl _) K.right fr (ins frm (Con.rightP frm (.mk d m A y C B E) (Con.leftP frm (.mk kl I H hl al cl pl) [])) ⟨1,(Con.atom (.mk kl I H hl al cl pl)),[],(Con.atom (.mk d m A y C B E)),[],[],[],0,0,0⟩) X V zaa_) rfl rfl (@List.perm_append_comm _ [_] _) (fun v _ h=>by exact⟨h.2.2.2.1.2.1,h.2.2.2.2.1,h.1,h.2.1,trivial⟩) rfl fun x=>?_;obtain⟨q_4,hq_4⟩:=x;have hb_4:=Con.leftP_len frm _ (.mk d m A y C B E) (Nat.le_refl _) (ins frm (Con.rightP frm (.mk d m A y C B E) (Con.leftP frm (.mk kl I H hl al cl pl) [])) ⟨1,(Con.atom (.mk kl I H hl al cl pl)),[],(Con.atom (.mk d m A y C B E)),[],[],[],0,0,0⟩);refine A_ (@List.perm_append_comm _ _ [_]) (Zz 7 ?_);refine Z_ (jA_ (kb:=kb) (bk:=bk) (bs:=br) _ (.mk kl I H hl al cl pl) (Nat.le_refl _) K.left fl (Con.leftP frm (.mk d m A y C B E) (ins frm (Con.rightP frm (.mk d m A y C B E) (Con.leftP frm (.mk kl I H hl al cl pl) [])) ⟨1,(Con.atom (.mk kl I H hl al cl pl)),[],(Con.atom (.mk d m A y C B E)),[],[],[],0,0,0⟩)) q_4 hq_4 zaa_) rfl rfl (@List.perm_append_comm _ [_] _) (fun v _ h=>by exact⟨h.2.2.2.1.1,h.2.2.2.2.1,h.1,h.2.2.1,trivial⟩) rfl fun x=>?_;obtain⟨q_5,hq_5⟩:=x;have hb_5:=Con.rightP_len frm _ (.mk kl I H hl al cl pl) (Nat.le_refl _) (Con.leftP frm (.mk d m A y C B E) (ins frm (Con.rightP frm (.mk d m A y C B E) (Con.leftP frm (.mk kl I H hl al cl pl) [])) ⟨1,(Con.atom (.mk kl I H hl al cl pl)),[],(Con.atom (.mk d m A y C B E)),[],[],[],0,0,0⟩));refine A_ (@List.perm_append_comm _ _ [_]) (Zz 2 ?_);refine ak_ [(P,.cells (Ax.cells (Ax.mk k S (Con.mk kl I H hl al cl pl) (Con.mk d m A y C B E) ad cap rs ro a b)).toArray 30 (0,0))] zk ?_;refine D_ 5 [0,1,2,4,5] zk (fun _ a b=>⟨Vw.sat.sub a,b⟩) (Zz 6 ?_);refine p_ 3 rfl zk (f_ (cH_ (.mk d m A y C B E) K.right) rfl (.refl _) (fun v _ h=>⟨h.2.2.2.1.2.1,h.2.2.2.2.1,trivial⟩) rfl fun _=>Zz 2 ?_);refine Q_ (fun _ a b=>⟨Vw.sat.sub a,b⟩) (p_ 6 rfl zk (f_ (cH_ (.mk kl I H hl al cl pl) K.left) rfl (.refl _) (fun v _ h=>⟨h.2.2.2.1.1,h.2.2.2.2.1,trivial⟩) rfl fun _=>Zz 2 ?_));refine Q_ (fun _ a b=>⟨Vw.sat.sub a,b⟩) (D_ 2 [7] zk (fun _ a b=>⟨Vw.sat.sub a,b⟩) (T_ rfl (u_ dS_ rfl rfl) rfl (bV_ (p_ 8 rfl zk (G_ F_ L_ V_ rfl rfl rfl rfl rfl rfl fun b_3=>Zz 2 ?_)))));refine Q_ (fun _ a b=>⟨Vw.sat.sub a.tail,b⟩) (p_ 9 rfl zk (f_ (dT_ ⟨1,(Con.atom (.mk d m A y C B E)),[],(Con.atom (.mk kl I H hl al cl pl)),[],[],[],0,0,0⟩ frm (Con.rightP frm (.mk kl I H hl al cl pl) (Con.leftP frm (.mk d m A y C B E) (ins frm (Con.rightP frm (.mk d m A y C B E) (Con.leftP frm (.mk kl I H hl al cl pl) [])) ⟨1,(Con.atom (.mk kl I H hl al cl pl)),[],(Con.atom (.mk d m A y C B E)),[],[],[],0,0,0⟩))) q_5 hq_5 zaa_) rfl (.cons _ (@List.perm_append_comm _ [_] _)) zt rfl fun x=>?_));obtain⟨q_6,hq_6⟩:=x;refine A_ (@List.perm_append_comm _ _ [_]) (Zz 2 ?_);refine Q_ (fun _ a b=>⟨Vw.sat.sub a,b⟩) (Zz 2 ?_)
      have e:Ax.pieces frm ⟨k,S,(.mk kl I H hl al cl pl),(.mk d m A y C B E),ad,cap,rs,ro,a,b⟩=(ins frm (Con.rightP frm (.mk kl I H hl al cl pl) (Con.leftP frm (.mk d m A y C B E) (ins frm (Con.rightP frm (.mk d m A y C B E) (Con.leftP frm (.mk kl I H hl al cl pl) [])) ⟨1,(Con.atom (.mk kl I H hl al cl pl)),[],(Con.atom (.mk d m A y C B E)),[],[],[],0,0,0⟩))) ⟨1,(Con.atom (.mk d m A y C B E)),[],(Con.atom (.mk kl I H hl al cl pl)),[],[],[],0,0,0⟩):=by
        unfold Ax.pieces;dsimp only
        repeat (first|rfl|(rw[if_pos zaa_])|(rw[if_neg zaa_]))
      exact ck_ ew_ ⟨q_6,by rw[e];exact hq_6⟩ rfl (F:=[_]) (@List.perm_append_comm _ [_] _) zt
  · obtain⟨fl,zl⟩:=Con.check_zero (G.left (by show k≤3;omega));dsimp only at fl zl;obtain⟨fr,zr⟩:=Con.check_zero (G.right zbf_);dsimp only at fr zr;refine Zz 9 ?_;refine Z_ (kA_ (kb:=kb) (bk:=bk) (bs:=bl) _ (.mk kl I H hl al cl pl) (Nat.le_refl _) K.left fl [] q hq zaa_) rfl rfl (@List.perm_append_comm _ [_] _) (fun v _ h=>by exact⟨h.2.2.2.1.1,h.2.2.2.2.1,h.1,h.2.1,trivial⟩) rfl fun x=>?_;obtain⟨L,J⟩:=x;have Q:=Con.leftP_len frm _ (.mk kl I H hl al cl pl) (Nat.le_refl _) [];refine A_ (@List.perm_append_comm _ _ [_]) (Zz 7 ?_);refine Z_ (jA_ (kb:=kb) (bk:=bk) (bs:=br) _ (.mk d m A y C B E) (Nat.le_refl _) K.right fr (Con.leftP frm (.mk kl I H hl al cl pl) []) L J zaa_) rfl rfl (@List.perm_append_comm _ [_] _) (fun v _ h=>by exact⟨h.2.2.2.1.2.1,h.2.2.2.2.1,h.1,h.2.2.1,trivial⟩) rfl fun x=>?_;obtain⟨N,M⟩:=x;have hb_2:=Con.rightP_len frm _ (.mk d m A y C B E) (Nat.le_refl _) (Con.leftP frm (.mk kl I H hl al cl pl) []);refine A_ (@List.perm_append_comm _ _ [_]) (Zz 2 ?_);refine ak_ [(P,.cells (Ax.cells (Ax.mk k S (Con.mk kl I H hl al cl pl) (Con.mk d m A y C B E) ad cap rs ro a b)).toArray 30 (0,0))] zk ?_;refine D_ 5 [0,1,2,4,5] zk (fun _ a b=>⟨Vw.sat.sub a,b⟩) (Zz 6 ?_);refine p_ 3 rfl zk (f_ (cH_ (.mk kl I H hl al cl pl) K.left) rfl (.refl _) (fun v _ h=>⟨h.2.2.2.1.1,h.2.2.2.2.1,trivial⟩) rfl fun _=>Zz 2 ?_);refine Q_ (fun _ a b=>⟨Vw.sat.sub a,b⟩) (p_ 6 rfl zk (f_ (cH_ (.mk d m A y C B E) K.right) rfl (.refl _) (fun v _ h=>⟨h.2.2.2.1.2.1,h.2.2.2.2.1,trivial⟩) rfl fun _=>Zz 2 ?_));refine Q_ (fun _ a b=>⟨Vw.sat.sub a,b⟩) (D_ 2 [7] zk (fun _ a b=>⟨Vw.sat.sub a,b⟩) (T_ rfl (u_ dS_ rfl rfl) rfl (bV_ (p_ 8 rfl zk (G_ F_ L_ V_ rfl rfl rfl rfl rfl rfl fun R=>Zz 2 ?_)))));refine Q_ (fun _ a b=>⟨Vw.sat.sub a.tail,b⟩) (p_ 9 rfl zk (f_ (dT_ ⟨1,(Con.atom (.mk kl I H hl al cl pl)),[],(Con.atom (.mk d m A y C B E)),[],[],[],0,0,0⟩ frm (Con.rightP frm (.mk d m A y C B E) (Con.leftP frm (.mk kl I H hl al cl pl) [])) N M zaa_) rfl (.cons _ (@List.perm_append_comm _ [_] _)) zt rfl fun x=>?_));obtain⟨X,V⟩:=x;refine A_ (@List.perm_append_comm _ _ [_]) (Zz 2 ?_);refine Q_ (fun _ a b=>⟨Vw.sat.sub a,b⟩) (Zz 2 ?_)
    have e:Ax.pieces frm ⟨k,S,(.mk kl I H hl al cl pl),(.mk d m A y C B E),ad,cap,rs,ro,a,b⟩=(ins frm (Con.rightP frm (.mk d m A y C B E) (Con.leftP frm (.mk kl I H hl al cl pl) [])) ⟨1,(Con.atom (.mk kl I H hl al cl pl)),[],(Con.atom (.mk d m A y C B E)),[],[],[],0,0,0⟩):=by
      unfold Ax.pieces;dsimp only
      repeat (first|rfl|(rw[if_pos zaa_])|(rw[if_neg zaa_]))
    exact ck_ ew_ ⟨X,by rw[e];exact V⟩ rfl (F:=[_]) (@List.perm_append_comm _ [_] _) zt
theorem az_.form {e:TypeId} {sz n:Nat} {sv:Value} {xs:List Value} {Hr:Hp} (h:az_ e sz sv n xs Hr):∃ ad cap,sv=.slice ad n cap:=by
 rcases h.2 with⟨d,m,_⟩|⟨g,cap,cur,d,_⟩
 ·exact⟨none,0,by rw[d,m]⟩
 exact⟨_,cap,d⟩
theorem az_.nilcap {e:TypeId} {sz n m cap:Nat} {sv:Value} {xs:List Value} {Hr:Hp} {ad:Ao} (h:az_ e sz sv n xs Hr) (d:sv=.slice ad m cap):ad=none→cap=0:=fun x=>by
 rcases h.2 with⟨v,_,_⟩|⟨g,c,cur,v,_⟩
 ·rw[v]at d;simp only[Value.slice.injEq]at d;exact d.2.2.symm
 rw[v,x]at d;simp at d
theorem lK_ (l:List Ax) (ad:Ao) (cap:Nat) (a9:l.length≤2199023255488) (U:∀ x∈l,x.ok) :
    Tri prog 58 #[.slice ad l.length cap] [] [ch_ ad l,bN_] (fun y:{y:Ao×Nat // (aL_ l).1.length≤y.2∧y.2≤maxLen∧(y.1=none→y.2=0)}=>.tuple #[.slice y.1.1 (aL_ l).1.length y.1.2,.int .i64 (aL_ l).2]) (fun _=>[]) (fun y=>[X_ y.1.1 ((aL_ l).1.flatMap Pc.cells)]):=by
  refine j_ func58 rfl rfl ntmps58 rfl fun b1=>?_;refine ax_ ?_;refine ae_ ?_;refine e_ (af_ rfl) rfl ?_;refine e_ (af_ rfl) rfl ?_;refine aA_ ?_;refine am_ rfl ?_;refine ax_ ?_;refine ax_ ?_;refine ae_ ?_;refine e_ (S_ rfl) rfl ?_;refine e_ (ed_ aU_ rfl) rfl ?_;refine E_ (dd_ rfl rfl) rfl fun a3 E=>?_;refine aA_ ?_;refine am_ rfl ?_;cases a3
  · replace E:=zdf E;refine co_ rfl ?_;refine df_ ?_;refine am_ rfl ?_;refine ax_ ?_;refine ax_ ?_;refine ae_ ?_;refine e_ (S_ rfl) rfl ?_;refine e_ (ed_ aU_ rfl) rfl ?_;refine e_ (S_ rfl) rfl ?_;refine aA_ ?_;refine am_ rfl ?_;refine dQ_ ?_;refine bt_ [(0,.slice ad l.length cap),(2,.slice none 0 0),(13,.slice ad l.length cap),(14,.int .i64 (l.length:Int)),(15,.int .i64 ((0:Nat):Int))] zl ?_;refine bO_ (ι:={q:Nat // q≤l.length∧∀ y∈l.take q,y.check=0}) (fun i=>[(0,.slice ad l.length cap),(2,.slice none 0 0),(13,.slice ad l.length cap),(14,.int .i64 (l.length:Int)),(15,.int .i64 (i.1:Int))]) (fun _=>_) (fun _=>_) (fun i=>l.length - i.1) ⟨0,by simp⟩ ?_;rintro ⟨i,I⟩;refine bt_ [(0,.slice ad l.length cap),(2,.slice none 0 0),(13,.slice ad l.length cap),(14,.int .i64 (l.length:Int)),(15,.int .i64 (i:Int))] zl ?_;refine ax_ ?_;refine ae_ ?_;refine E_ (cD_ rfl rfl) rfl fun a1 K=>?_;refine aA_ ?_;refine am_ rfl ?_;refine ax_ ?_;cases a1
    · replace K:=zdf K;obtain rfl:i=l.length:=by omega
      try rw[List.take_length]at I
      refine co_ rfl ?_;refine iX_ rfl ?_;refine am_ rfl ?_;refine ax_ ?_;refine ax_ ?_;refine ae_ ?_;refine e_ (S_ rfl) rfl ?_;refine e_ (ed_ aU_ rfl) rfl ?_;refine e_ (S_ rfl) rfl ?_;refine aA_ ?_;refine am_ rfl ?_;refine dQ_ ?_;have H:=I.2;refine bt_ [(2,.slice none 0 0),(25,.slice ad l.length cap),(26,.int .i64 (l.length:Int)),(27,.int .i64 ((0:Nat):Int))] zl ?_;refine bO_ (ι:={x:Nat×List Pc×Value×Hp // x.1≤l.length∧az_ 76 10 x.2.2.1 x.2.1.length (x.2.1.flatMap Pc.cells) x.2.2.2∧x.2.1.length≤16384∧fD_ 0 l []=fD_ x.1 (l.drop x.1) x.2.1}) (fun x=>[(2,x.1.2.2.1),(25,.slice ad l.length cap),(26,.int .i64 (l.length:Int)),(27,.int .i64 (x.1.1:Int))]) (fun x=>x.1.2.2.2) (fun _=>_) (fun x=>l.length - x.1.1) ⟨(0,[],.slice none 0 0,[]),by simp,az_.nil _ _,by simp,rfl⟩ ?_;clear I;rintro ⟨⟨i,p,sv,Hr⟩,I⟩;dsimp only at I;refine bt_ [(2,sv),(25,.slice ad l.length cap),(26,.int .i64 (l.length:Int)),(27,.int .i64 (i:Int))] zl ?_;refine ax_ ?_;refine ae_ ?_;refine E_ (cD_ rfl rfl) rfl fun S m=>?_;refine aA_ ?_;refine am_ rfl ?_;refine ax_ ?_;cases S
      · replace m:=zdf m;obtain rfl:i=l.length:=by omega
        try rw[List.take_length]at I
        refine co_ rfl ?_;refine iX_ rfl ?_;refine am_ rfl ?_;refine ax_ ?_;refine ae_ ?_;refine e_ (S_ rfl) rfl ?_;refine e_ (af_ rfl) rfl ?_;refine e_ (af_ rfl) rfl ?_;refine aA_ ?_;refine am_ rfl ?_;refine ge_ ?_;refine gE_ I.2.1 (F:=[]) (by rw[List.append_nil]) fun A d N Y V=>?_
        have e:aL_ l=(p,0):=by
          unfold aL_;rw[if_neg zaa_,if_neg (by simp[fH_ H]),I.2.2.2,List.drop_length];first|done|rfl
        have B:(aL_ l).1.length≤d∧d≤maxLen∧(A=none→d=0):=by rw[e];exact⟨Y,V,az_.nilcap I.2.1 N⟩
        have Q:Value.tuple #[sv,.int .i64 0]=.tuple #[.slice A (aL_ l).1.length d,.int .i64 (aL_ l).2]:=by rw[e,N]
        have R:(p.flatMap Pc.cells)=((aL_ l).1.flatMap Pc.cells):=by rw[e]
        exact fO_ results58 ⟨(A,d),B⟩ rfl rfl Q (.refl _) (fun v _ h=>⟨R▸h.1,trivial⟩)
      · replace m:=zdt m;have L:i<l.length:=by omega
        obtain⟨x,M⟩:∃ x,l[i]? = some x:=⟨_,List.getElem?_eq_getElem L⟩;have C:x∈l:=List.mem_of_getElem? M;refine bw_ rfl ?_;refine df_ ?_;refine am_ rfl ?_;refine ax_ ?_;refine dQ_ ?_;refine ax_ ?_;have G:=Ax.good_of (H x C);have hpl:=kv_ (i:Int) G;refine ae_ ?_;refine e_ (S_ rfl) rfl ?_;refine e_ (U_ aU_ H_ rfl rfl (fun v _ h=>aK_ (n:=16) Ax.cells_len zad_ (h.1.1) M) zaa_ zae_) rfl ?_;refine e_ (al_ (ad:=ad) (us:=x.cells) bq_ H_ rfl (fun v _ h=>h.1.1) (Ax.cells_len _) (z_ Ax.cells_len M)) rfl ?_;refine y_ aG_ rfl fun Z=>?_;refine e_ (af_ rfl) rfl ?_;refine oF_ (us:=x.cells) 0 H_ x.cells_len x.one_cells rfl rfl rfl rfl ?_;refine aA_ ?_;refine am_ rfl ?_;refine ax_ ?_;refine ae_ ?_;refine e_ (S_ rfl) rfl ?_;refine f_ (jb_ (i:Int)) rfl (.refl _) zt rfl fun⟨kb,bm⟩=>?_;refine e_ (af_ rfl) rfl ?_;refine aA_ ?_;refine am_ rfl ?_;refine ax_ ?_;refine ae_ ?_;refine e_ (S_ rfl) rfl ?_;refine e_ (pR_ (us:=x.cells) 2 bq_ H_ x.cells_len rfl rfl) rfl ?_;refine f_ (CE_ x (U x C) (H x C) (i:Int) ⟨.slice none 0 0,bm,#[],0,[]⟩ ⟨az_.nil _ _,rfl,by simp⟩) rfl (.refl _) (fun v _ h=>⟨h.1.2 x C,h.2.1,trivial⟩) rfl fun y=>?_;obtain⟨⟨a5,a6,a8,b0,a7⟩,hq⟩:=y;have W:=hq.row;dsimp only at W;have X:(x.pieces (i:Int)).length≠0:=fun e=>Ax.pieces_ne _ G (List.eq_nil_of_length_eq_zero e)
        obtain⟨g,cp,cur,rfl,rfl,h_1,h_2,h_3,a0⟩:=W.some X;refine aA_ ?_;refine am_ rfl ?_;refine ax_ ?_;refine ae_ ?_;refine e_ (S_ rfl) rfl ?_;refine e_ (S_ rfl) rfl ?_;refine e_ (pP_ rfl) rfl ?_;refine e_ (cf_ runUnderlying137 rfl rfl rfl kH_) rfl ?_;refine e_ (bd_ 0 isAgg64 rfl rfl rfl) rfl ?_;refine aO_ Ap_ I.2.1 rfl rfl (@List.perm_append_comm _ [_,_,_,_] _) (by rw[dU_ Pc.cells 10 Pc.cells_len]) (xw_ 2 rfl a0) (fun u hu=>by obtain⟨y,_,B⟩:=List.mem_flatMap.1 hu;exact kY_ y.cells_one u B) zan_ zaa_ rfl fun O T P=>?_;refine A_ (@List.perm_append_comm _ _ [_,_,_,_]) ?_;have a4:∃ A d,O=.slice A (p.length+(x.pieces (i:Int)).length) d:=az_.form P;obtain⟨A,d,N⟩:=a4;refine e_ (af_ rfl) rfl ?_;refine aA_ ?_;refine am_ rfl ?_;refine ax_ ?_;refine ae_ ?_;refine e_ (S_ rfl) rfl ?_;refine e_ (ed_ (ad:=A) (len:=p.length+(x.pieces (i:Int)).length) (cap:=d) F_ (congrArg some N)) rfl ?_;refine E_ (dd_ rfl rfl) rfl fun a2 J=>?_;refine aA_ ?_;refine am_ rfl ?_;cases a2
        · replace J:=zdf J;refine co_ rfl ?_;refine df_ ?_;refine am_ rfl ?_;refine ae_ ?_;refine e_ (aI_ rfl rfl rfl (bv_ zaa_ zaa_)) rfl ?_;refine e_ (S_ rfl) rfl ?_;refine aA_ ?_;refine dm_ rfl ?_;exact x_ ⟨(i+1,p++x.pieces (i:Int),O,T),L,by simpa [List.flatMap_append] using P,by simp only[List.length_append];omega,by rw[I.2.2.2,lq_ M];simp only[fD_];rw[if_neg zaW_]⟩ zap_ zl (F:=[_,_,_,_]) (@List.perm_append_comm _ [_,_,_,_] _) zh
        · replace J:=zdt J;refine bw_ rfl ?_;refine ax_ ?_;refine ae_ ?_;refine e_ (af_ rfl) rfl ?_;refine e_ (af_ rfl) rfl ?_;refine aA_ ?_;refine am_ rfl ?_;refine ge_ ?_;have e:aL_ l=([],2):=by unfold aL_;rw[if_neg zaa_,if_neg (by simp[fH_ H]),I.2.2.2,lq_ M];simp only[fD_];rw[if_pos zaW_]
          have B:(aL_ l).1.length≤0∧0≤maxLen∧((none:Ao)=none→0=0):=by rw[e];simp
          have Q:Value.tuple #[.slice none 0 0,.int .i64 2]=.tuple #[.slice none (aL_ l).1.length 0,.int .i64 (aL_ l).2]:=by rw[e]<;>rfl
          have R:(aL_ l).1.flatMap Pc.cells=[]:=by rw[e]<;>rfl
          exact fO_ results58 ⟨(none,0),B⟩ rfl rfl Q (.refl _) (fun v _ h=>⟨.inl R,trivial⟩)
    · replace K:=zdt K;have L:i<l.length:=by omega
      obtain⟨x,M⟩:∃ x,l[i]? = some x:=⟨_,List.getElem?_eq_getElem L⟩;have C:x∈l:=List.mem_of_getElem? M;refine bw_ rfl ?_;refine df_ ?_;refine am_ rfl ?_;refine ax_ ?_;refine dQ_ ?_;refine ax_ ?_;refine ae_ ?_;refine e_ (U_ aU_ H_ rfl rfl (fun v _ h=>aK_ (n:=16) Ax.cells_len zad_ (h.1.1) M) zaa_ zae_) rfl ?_;refine e_ (al_ (ad:=ad) (us:=x.cells) bq_ H_ rfl (fun v _ h=>h.1.1) (Ax.cells_len _) (z_ Ax.cells_len M)) rfl ?_;refine y_ aG_ rfl fun Z=>?_;refine oF_ (us:=x.cells) 0 H_ x.cells_len x.one_cells rfl rfl rfl rfl ?_;refine aA_ ?_;refine am_ rfl ?_;refine ax_ ?_;refine ae_ ?_;refine e_ (pR_ (us:=x.cells) 0 bq_ H_ x.cells_len rfl rfl) rfl ?_;refine f_ (gh_ x (U x C)) rfl (.refl _) (fun v _ h=>⟨h.1.2 x C,h.2.1,trivial⟩) rfl fun _=>?_;refine e_ (af_ rfl) rfl ?_;refine aA_ ?_;refine am_ rfl ?_;refine ax_ ?_;refine ae_ ?_;refine e_ (S_ rfl) rfl ?_;refine E_ (cl_ rfl rfl) rfl fun S m=>?_;refine aA_ ?_;refine am_ rfl ?_;cases S
      · replace m:=er_ m;refine co_ rfl ?_;refine df_ ?_;refine am_ rfl ?_;refine ae_ ?_;refine e_ (aI_ rfl rfl rfl (bv_ zaa_ zaa_)) rfl ?_;refine e_ (S_ rfl) rfl ?_;refine aA_ ?_;refine dm_ rfl ?_;exact x_ ⟨i+1,L,fun y B=>by rw[List.take_add_one,M]at B;simp only[Option.toList_some,List.mem_append,List.mem_singleton]at B;rcases B with B|rfl;exact I.2 y B;assumption⟩ zap_ zl (@List.perm_append_comm _ [_] _) zh
      · replace m:=eo_ m;refine bw_ rfl ?_;refine ax_ ?_;refine ae_ ?_;refine e_ (S_ rfl) rfl ?_;refine e_ (af_ rfl) rfl ?_;refine e_ (af_ rfl) rfl ?_;refine aA_ ?_;refine am_ rfl ?_;refine ge_ ?_;have e:aL_ l=([],x.check):=by unfold aL_;rw[if_neg zaa_,tF_ M I.2 zai_,if_pos zai_]
        have B:(aL_ l).1.length≤0∧0≤maxLen∧((none:Ao)=none→0=0):=by rw[e];simp
        have Q:Value.tuple #[.slice none 0 0,.int .i64 x.check]=.tuple #[.slice none (aL_ l).1.length 0,.int .i64 (aL_ l).2]:=by rw[e]<;>rfl
        have R:(aL_ l).1.flatMap Pc.cells=[]:=by rw[e]<;>rfl
        exact fO_ results58 ⟨(none,0),B⟩ rfl rfl Q (.refl _) (fun v _ h=>⟨.inl R,trivial⟩)
  · replace E:=zdt E;refine bw_ rfl ?_;refine ax_ ?_;refine ae_ ?_;refine e_ (af_ rfl) rfl ?_;refine e_ (af_ rfl) rfl ?_;refine aA_ ?_;refine am_ rfl ?_;refine ge_ ?_;have e:aL_ l=([],2):=by unfold aL_;rw[if_pos zaa_]
    have B:(aL_ l).1.length≤0∧0≤maxLen∧((none:Ao)=none→0=0):=by rw[e];simp
    have Q:Value.tuple #[.slice none 0 0,.int .i64 2]=.tuple #[.slice none (aL_ l).1.length 0,.int .i64 (aL_ l).2]:=by rw[e]<;>rfl
    have R:(aL_ l).1.flatMap Pc.cells=[]:=by rw[e]<;>rfl
    exact fO_ results58 ⟨(none,0),B⟩ rfl rfl Q (.refl _) (fun v _ h=>⟨.inl R,trivial⟩)
theorem zu_ (l:List Ax) (ad:Ao) (cap:Nat) (d:l.length≤cap∧cap≤2199023255488) (e:∀ x∈l,x.ok) :
    Tri prog 58 #[.slice ad l.length cap] [] [ch_ ad l,bN_] (fun y:{y:Ao×Nat // (aL_ l).1.length≤y.2∧y.2≤maxLen∧(y.1=none→y.2=0)}=>.tuple #[.slice y.1.1 (aL_ l).1.length y.1.2,.int .i64 (aL_ l).2]) (fun _=>[]) (fun y=>[X_ y.1.1 ((aL_ l).1.flatMap Pc.cells)]):=lK_ l ad cap (Nat.le_trans d.1 d.2) e
theorem fo_ {N:Nf} {fr:Fr} {H:Hp} {Γ:List Fct} {ty B:TypeId} {x y:Operand} {p q:Fc} (A:Fr.ev fr x=some p.val) (h:Fr.ev fr y=some q.val):Yld prog N fr H Γ (.binOp .eql 129 x y B) ty (.bool (decide (p=q))) :=
  fun a v d _ _ _ _ _=>by
    have m:(Program.eqGuardType prog Tryz.prog.depth 129)=false:=by kernel_rfl
    have e:=eqFc p q v.w;simp only[execOp,d.ev A,d.ev h,eqGuard,Fc.val,binOp,Op.equal,Sem.run_bind,Result.andThen_ok];simp only[run_program,Result.andThen_ok,m,Bool.not_false,if_true,Sem.run_pure];simp only[Fc.val]at e;simp[Op.maxDepth,e]
theorem ju_ {N:Nf} {fr:Fr} {H:Hp} {Γ:List Fct} {ty B:TypeId} {x y:Operand} {p q:Fc} (A:Fr.ev fr x=some p.val) (h:Fr.ev fr y=some q.val):Yld prog N fr H Γ (.binOp .neq 129 x y B) ty (.bool (decide (p≠q))) :=
  fun a v d _ _ _ _ _=>by
    have m:(Program.eqGuardType prog Tryz.prog.depth 129)=false:=by kernel_rfl
    have e:=eqFc p q v.w;simp only[execOp,d.ev A,d.ev h,eqGuard,Fc.val,binOp,Op.equal,Sem.run_bind,Result.andThen_ok];simp only[run_program,Result.andThen_ok,m,Bool.not_false,if_true,Sem.run_pure];simp only[Fc.val]at e;simp[Op.maxDepth,e]
theorem rn_ (s:Str) (c:UInt8):Fn0 prog 345 #[str s,str [c]] (.int .i64 (Lib.indexByte s c)) :=
  ii_ (callable func345 rfl rfl) fun w=>(Tryz.strings_Index_one ⟨s.toArray⟩ c w).mono zaI_
theorem pF_ (s:Str) (c:UInt8) (k:Nat) (d:ixS c s=some k):Fn0 prog 345 #[str s,str [c]] (.int .i64 (k:Int)):=by
  have h:=rn_ s c;rw[nF_,d]at h;exact h
theorem zg_ (s:Str) (c:UInt8):Fn0 prog 344 #[str s,str [c]] (.int .i64 (dP_ c s:Int)) :=
  ii_ (callable func344 rfl rfl) fun w=>(Tryz.strings_Count_one ⟨s.toArray⟩ c w).mono zaI_
theorem ok_H {N:Nf} {m:Vw} {d:Hp} {k:Act→World→Prop} {fr:Fr} {H H':Hp} {Γ:List Fct} (e:H=H') (h:Ok N m d k fr H' Γ):Ok N m d k fr H Γ:=e▸h
theorem vi_ (s:Str) (c:UInt8) (O:s.length≤17592186044414):Tri prog 332 #[str s,str [c],.int .i64 0,.int .i64 (-1)] [] [] (fun b:Nat=>.slice (some ⟨b,0,none⟩) (bp_ c s).length (bp_ c s).length) (fun _=>[]) (fun b=>[X_ (some ⟨b,0,none⟩) ((bp_ c s).flatMap au_)]):=by
 have K:=Ct_ c s;refine j_ func332 rfl rfl ntmps332 rfl fun L=>?_;refine Zi 9 (fun y=>?_) fun y=>?_
 ·refine Zi 9 (fun B=>?_) fun B=>?_
  ·refine Zi 9 (fun A=>?_) fun A=>?_
   ·exact absurd zad_ A
   refine Zz 6 ?_;refine f_ (zg_ s c) rfl (.refl _) zt rfl fun _=>Zz 8 ?_
   refine e_ (cB_ N_ rfl) rfl (Zz 1 ?_);refine e_ (ao_ (vC_ rfl rfl) (show _=Value.int .i64 ((dP_ c s+1:Nat):Int) by rw[if_neg zaa_];rfl)) rfl ?_;refine Zz 6 ?_;refine xA_ (n:=dP_ c s+1) (by':=16) iO_ (z:=.string ⟨#[]⟩) zk rfl rfl rfl zaa_ zaa_ rfl fun d=>Zz 6 ?_
   refine e_ (ao_ (aI_ rfl rfl rfl (bv_ zaa_ zaa_)) (show _=Value.int .i64 (dP_ c s:Int) by first|rfl|(congr 1;omega))) rfl ?_;refine Zz 10 ?_;refine bt_ [(0,str s),(1,str [c]),(2,.int .i64 0),(3,.int .i64 (dP_ c s:Int)),(9,.slice (some ⟨d,0,none⟩) (dP_ c s+1) (dP_ c s+1)),(10,.int .i64 ((0:Nat):Int))] zl ?_;refine bO_ (ι:={x:Nat×List Str×Str // x.2.1.length=x.1∧bp_ c s=x.2.1++bp_ c x.2.2∧x.1+dP_ c x.2.2=dP_ c s∧x.2.2.length≤s.length}) (fun x=>[(0,str x.1.2.2),(1,str [c]),(2,.int .i64 0),(3,.int .i64 (dP_ c s:Int)),(9,.slice (some ⟨d,0,none⟩) (dP_ c s+1) (dP_ c s+1)),(10,.int .i64 (x.1.1:Int))]) (fun x=>[(d,.cells (x.1.2.1.map str++List.replicate (dP_ c s+1 - x.1.1) (Value.string ⟨#[]⟩)).toArray 9 (0,0))]) (fun _=>_) (fun x=>dP_ c s - x.1.1) ⟨(0,[],s),rfl,rfl,by simp,by simp⟩ ?_;rintro ⟨⟨i,H,r⟩,G⟩;dsimp only at G;obtain⟨h,m,I,J⟩:=G;refine bt_ [(0,str r),(1,str [c]),(2,.int .i64 0),(3,.int .i64 (dP_ c s:Int)),(9,.slice (some ⟨d,0,none⟩) (dP_ c s+1) (dP_ c s+1)),(10,.int .i64 (i:Int))] zl ?_;have E:∀ k,k<dP_ c s+1→List.replicate (dP_ c s+1 - k) (Value.string ⟨#[]⟩)=Value.string ⟨#[]⟩::List.replicate (dP_ c s - k) (Value.string ⟨#[]⟩):=fun k G=>by rw[show dP_ c s+1 - k=(dP_ c s - k)+1 by omega];rfl
   refine ok_H (H':=[(d,.cells (H.map str++Value.string ⟨#[]⟩::List.replicate (dP_ c s - i) (Value.string ⟨#[]⟩)).toArray 9 (0,0))]) (by dsimp only;rw[E i zaa_]) ?_;refine Zi 5 (fun C=>?_) fun C=>?_
   ·obtain rfl:i=dP_ c s:=by omega
    have e : bp_ c r = [r] := by
                  cases hx:ixS c r with
                  | none=>exact gY_ hx
                  | some k=>have:=qP_ hx;omega
    rw[e]at m;refine Zz 10 ?_;refine e_ (gk_ t_ M_ rfl rfl zaa_ zaa_) rfl (oG_ 0 M_ rfl rfl rfl (by simp[h]) rfl rfl (Zz 6 ?_));refine e_ (ao_ (aI_ rfl rfl rfl (bv_ zaa_ zaa_)) (show _=Value.int .i64 ((dP_ c s+1:Nat):Int) by first|rfl|(congr 1;omega))) rfl ?_;refine e_ (ao_ (dH_ (i:=0) (j:=dP_ c s+1) (kl:=.i64) (kh:=.i64) t_ M_ rfl rfl rfl zaa_ zaa_) (show _=Value.slice (some ⟨d,0,none⟩) (dP_ c s+1) (dP_ c s+1) by rw[sF_];rfl)) rfl ?_;refine Zz 4 ?_;refine aq_ ((bp_ c s).flatMap au_) d_ (by rw[m,oo_];simp) ?_;have hl:=ft_ c s;exact aa_ results332 d (ea_ rfl (by rw[hl])) (.refl _) zf
   obtain ⟨k, v⟩ : ∃ k, ixS c r = some k := by
                 cases hx:ixS c r with
                 | none=>have:=yg_ hx;omega
                 | some k=>exact⟨k,rfl⟩
   have M:=qP_ v;have N:=vb_ v;refine Zz 10 ?_;refine f_ (pF_ r c k v) rfl (.refl _) zt rfl fun _=>Zi 7 (fun e=>?_) fun e=>?_
   ·refine Zz 12 ?_
    refine e_ (ao_ (aI_ rfl rfl rfl (bv_ zaa_ zaa_)) (show _=Value.int .i64 (k:Int) by first|rfl|(congr 1;omega))) rfl ?_;refine e_ (ao_ (eI_ (i:=0) (j:=k) (kl:=.i64) (kh:=.i64) N_ rfl rfl rfl zaa_ zaa_) (show _=str (r.take k) by simp)) rfl (e_ (gk_ t_ M_ rfl rfl zaa_ zaa_) rfl (oG_ 0 M_ rfl rfl rfl (by simp[h]) rfl rfl (Zz 7 ?_)));refine e_ (cB_ N_ rfl) rfl (e_ (ao_ (aI_ rfl rfl rfl (bv_ zax_ zax_)) (show _=Value.int .i64 ((k+1:Nat):Int) by first|rfl|(congr 1;omega))) rfl ?_);refine e_ (ao_ (eI_ (i:=k+1) (j:=r.length) (kl:=.i64) (kh:=.i64) N_ rfl rfl rfl zaa_ zaa_) (show _=str (r.drop (k+1)) by rw[List.take_of_length_le zaf_])) rfl (Zz 5 ?_);refine e_ (ao_ (aI_ rfl rfl rfl (bv_ zaa_ zaa_)) (show _=Value.int .i64 ((i+1:Nat):Int) by first|rfl|(congr 1;omega))) rfl ?_;refine Zz 3 ?_;exact x_ ⟨(i+1,H++[r.take k],r.drop (k+1)),by simp[h],by rw[m,iT_ v,List.append_assoc];rfl,by dsimp only;omega,by simp;omega⟩ zab_ zl (F:=[]) (List.Perm.of_eq (by simp[show dP_ c s+1 - (i+1)=dP_ c s - i by omega])) zh
   exfalso;omega
  cases B
 exact absurd y zad_
theorem Bt_ (s:Str) (c:UInt8) (d:s.length≤17592186044414):Tri prog 314 #[str s,str [c]] [] [] (fun b:Nat=>.slice (some ⟨b,0,none⟩) (bp_ c s).length (bp_ c s).length) (fun _=>[]) (fun b=>[X_ (some ⟨b,0,none⟩) ((bp_ c s).flatMap au_)]):=by
  refine j_ func314 rfl rfl ntmps314 rfl fun e=>?_;refine Zz 9 ?_;refine f_ (vi_ s c d) rfl (.refl _) zt rfl fun b=>Zz 4 ?_
  exact aa_ results314 b rfl (.refl _) zf
theorem rF_ {g:FuncId} {pred:Str→Bool} (xs:List Str) (ad:Ao) (cap:Nat) (A:xs.length≤17592186044415) (F:∀ x∈xs,Fn0 prog g #[str x] (.bool (pred x))) :
    Tri prog 333 #[.slice ad xs.length cap,.func (.func g) #[] #[]] [] [X_ ad (xs.flatMap au_)] (fun r:{r:Int // decide (0≤r)=xs.any pred}=>.int .i64 r.1) (fun _=>[]) (fun _=>[]):=by
  refine j_ func333 rfl rfl ntmps333 rfl fun E=>?_;refine Zz 14 ?_;refine bt_ [(0,.slice ad xs.length cap),(1,.func (.func g) #[] #[]),(7,.int .i64 (List.length xs:Int)),(8,.int .i64 ((0:Nat):Int))] zl ?_;refine bO_ (ι:={q:Nat // q≤xs.length∧(xs.take q).any pred=false}) (fun i=>[(0,.slice ad xs.length cap),(1,.func (.func g) #[] #[]),(7,.int .i64 (List.length xs:Int)),(8,.int .i64 (i.1:Int))]) (fun _=>_) (fun _=>_) (fun i=>xs.length - i.1) ⟨0,by simp⟩ ?_;rintro ⟨i,B⟩;refine bt_ [(0,.slice ad xs.length cap),(1,.func (.func g) #[] #[]),(7,.int .i64 (List.length xs:Int)),(8,.int .i64 (i:Int))] zl ?_;refine Zi 2 (fun h=>?_) fun h=>?_
  · refine Zz 12 ?_;exact aa_ results333 ⟨-1,by have:=B.2;rw[List.take_of_length_le zaa_]at this;show _=xs.any pred;rw[this];rfl⟩ rfl (.refl _) zt
  · obtain⟨e,m,v,d⟩:=zge (show i<xs.length by omega);refine Zz 21 ?_;refine bS_ (F m d) rfl rfl g_ zt rfl fun y C=>Zz 2 ?_
    cases y
    · refine Zz 8 ?_;exact x_ ⟨i+1,e,by rw[List.take_add_one,v];simp only[Option.toList_some,List.any_append,B.2];simp[*]⟩ zap_ zl (.refl _) zh
    · refine Zz 8 ?_;exact aa_ results333 ⟨(i:Int),by show _=xs.any pred;rw[show xs.any pred=true from List.any_eq_true.2 ⟨m,d,by assumption⟩];exact decide_eq_true zaa_⟩ rfl (.refl _) zt
theorem nt_ {g:FuncId} {pred:Str→Bool} (xs:List Str) (ad:Ao) (cap:Nat) (d:xs.length≤17592186044415) (h:∀ x∈xs,Fn0 prog g #[str x] (.bool (pred x))) :
    Tri prog 315 #[.slice ad xs.length cap,.func (.func g) #[] #[]] [] [X_ ad (xs.flatMap au_)] (fun _:Unit=>.bool (xs.any pred)) (fun _=>[]) (fun _=>[]):=by
  refine j_ func315 rfl rfl ntmps315 rfl fun v=>?_;refine Zz 9 ?_;refine f_ (rF_ xs ad cap d h) rfl g_ zf rfl fun x=>E_ (fE_ rfl rfl) rfl fun m e=>Zz 4 ?_
  exact aa_ results315 () (s_ rfl (e.symm.trans x.2)) (.refl _) zt
theorem xR_ (s:Str) (e:s.length≤140737488351232):Fn0 prog 316 #[str s] (.bool (!aN_ s)):=by
  refine j_ func316 rfl rfl ntmps316 rfl fun m=>?_;refine Zz 8 ?_;refine an_ (gI_ s e) rfl g_ zt rfl fun h d=>e_ (aR_ rfl) rfl (Zz 4 ?_)
  exact aa_ results316 () (s_ rfl (by simp[*])) (.refl _) zt
theorem ia_ {c:UInt8}:∀ {s x:Str},x∈bp_ c s→x.length≤s.length
 | [],x,h=>by simp[bp_]at h;simp[h]
 | b::s,x,h=>by
   simp only[bp_]at h
   split at h
   · rcases List.mem_cons.1 h with rfl|h
     · simp
     · have:=ia_ h;simp only[List.length_cons];omega
   · cases hs:bp_ c s with
     | nil=>exact absurd hs (lD_ c s)
     | cons y t =>
       rw[hs]at h;rcases List.mem_cons.1 h with rfl|h
       · have:=ia_ (c:=c) (s:=s) (x:=y) (by rw[hs];simp);simp only[List.length_cons];omega
       · have:=ia_ (c:=c) (s:=s) (x:=x) (by rw[hs];simp[h]);simp only[List.length_cons];omega
theorem mi_ {G:Prop} (h:G:=by
 exact aa_ results278 () (s_ rfl (by unfold cx_;subst_vars;rw[Bool.eq_iff_iff];simp_all<;>omega)) (.refl _) zt):G:=h
theorem jc_ (s:Str) (y:s.length≤17592186044414):Fn0 prog 278 #[str s] (.bool (cx_ s)):=by
 refine j_ func278 rfl rfl ntmps278 rfl fun m=>?_;have A:=ft_ 46 s;refine Zz 8 ?_;refine f_ (Bt_ s 46 y) rfl g_ zt rfl fun b=>Zi 7 (fun d=>?_) fun d=>?_
 ·refine Zz 9 ?_
  exact mi_
 refine Zz 4 ?_;refine an_ (nt_ (pred:=fun r=>!aN_ r) (bp_ 46 s) _ _ zaa_ (fun x v=>xR_ x (by have:=ia_ v;omega))) rfl g_ zf rfl fun h e=>?_;refine ar_ rfl rfl (e_ (aR_ rfl) rfl (Zz 5 ?_));exact mi_
theorem mf_ {G:Prop} (h:G:=by
 refine an_ (gI_ _ zaX_) rfl g_ zt rfl fun m y=>?_;exact fJ_):G:=h
theorem mg_ {G:Prop} (h:G:=by
 refine an_ (gI_ _ zaX_) rfl g_ zt rfl fun m d=>?_;exact fJ_):G:=h
theorem mh_ {G:Prop} (h:G:=by
 refine an_ (gI_ _ zaX_) rfl g_ zt rfl fun m h=>?_;exact fJ_):G:=h
theorem fJ_ {G:Prop} (h:G:=by
 refine Zz 4 ?_;exact fK_):G:=h
theorem fK_ {G:Prop} (h:G:=by
 exact aa_ results280 () (s_ rfl zaQ_) (.refl _) zt):G:=h
theorem hC_ (s:Str) (A:s.length≤140737488351232):Fn0 prog 280 #[str s] (.bool (bj_ s)):=by
 refine j_ func280 rfl rfl ntmps280 rfl fun M=>?_;refine Zz 8 ?_;refine e_ (cB_ N_ rfl) rfl (Zi 8 (fun E=>?_) fun E=>?_)
 ·refine Zi 4 (fun G=>?_) fun G=>?_
  ·refine Zi 8 (fun F=>?_) fun F=>?_
   ·refine Zi 19 (fun x=>?_) fun x=>?_
    ·refine Zz 21 ?_
     refine an_ (gI_ _ zaX_) rfl g_ zt rfl fun m v=>?_;exact fJ_
    exfalso;omega
   obtain⟨c,B⟩:∃ c,s[0]? = some c:=⟨_,List.getElem?_eq_getElem zaa_⟩;obtain⟨e,C⟩:∃ e,s[s.length - 1]? = some e:=⟨_,List.getElem?_eq_getElem zaa_⟩
   have H:(s[0]? = some 123)↔((c.toNat:Int)=123):=by
     rw[B];simp only[Option.some.injEq];exact⟨fun q=>by subst q;rfl,fun q=>UInt8.toNat_inj.1 (by show c.toNat=123;omega)⟩
   have K:(s[s.length - 1]? = some 125)↔((e.toNat:Int)=125):=by
     rw[C];simp only[Option.some.injEq];exact⟨fun q=>by subst q;rfl,fun q=>UInt8.toNat_inj.1 (by show e.toNat=125;omega)⟩
   have L:(s[0]? = some 60)↔((c.toNat:Int)=60):=by
     rw[B];simp only[Option.some.injEq];exact⟨fun q=>by subst q;rfl,fun q=>UInt8.toNat_inj.1 (by show c.toNat=60;omega)⟩
   have I:(s[s.length - 1]? = some 62)↔((e.toNat:Int)=62):=by
     rw[C];simp only[Option.some.injEq];exact⟨fun q=>by subst q;rfl,fun q=>UInt8.toNat_inj.1 (by show e.toNat=62;omega)⟩
   refine Zz 4 ?_;refine e_ (cm_ N_ rfl rfl zad_ B) rfl (ar_ rfl rfl ?_);refine Zi 0 (fun x=>?_) fun x=>?_
   ·refine Zi 15 (fun v=>?_) fun v=>?_
    ·refine Zz 21 ?_
     exact mh_
    refine Zz 4 ?_;refine e_ (cm_ N_ rfl rfl zad_ B) rfl (ar_ rfl rfl ?_);refine Zi 0 (fun h=>?_) fun h=>?_
    ·refine Zz 17 ?_
     exact mg_
    refine Zz 9 ?_;refine e_ (cm_ N_ rfl rfl zaa_ (show s[((s.length:Int) - 1).toNat]? = some e by rw[show ((s.length:Int) - 1).toNat=s.length - 1 by omega];exact C)) rfl ?_;refine ar_ rfl rfl ?_;refine Zi 0 (fun d=>?_) fun d=>?_
    ·refine Zz 10 ?_
     exact mf_
    refine Zz 11 ?_;exact fK_
   refine Zz 9 ?_;refine e_ (cm_ N_ rfl rfl zaa_ (show s[((s.length:Int) - 1).toNat]? = some e by rw[show ((s.length:Int) - 1).toNat=s.length - 1 by omega];exact C)) rfl ?_;refine ar_ rfl rfl ?_;refine Zi 0 (fun v=>?_) fun v=>?_
   ·refine Zi 8 (fun h=>?_) fun h=>?_
    ·refine Zz 21 ?_
     exact mg_
    refine Zz 4 ?_;refine e_ (cm_ N_ rfl rfl zad_ B) rfl (ar_ rfl rfl ?_);refine Zi 0 (fun d=>?_) fun d=>?_
    ·refine Zz 17 ?_
     exact mf_
    refine Zz 9 ?_;refine e_ (cm_ N_ rfl rfl zaa_ (show s[((s.length:Int) - 1).toNat]? = some e by rw[show ((s.length:Int) - 1).toNat=s.length - 1 by omega];exact C)) rfl ?_;refine ar_ rfl rfl ?_;refine Zi 0 (fun y=>?_) fun y=>?_
    ·refine Zz 10 ?_
     refine an_ (gI_ _ zaX_) rfl g_ zt rfl fun m J=>?_;exact fJ_
    refine Zz 11 ?_;exact fK_
   refine Zz 10 ?_;refine e_ (eI_ (i:=1) (j:=s.length - 1) (kl:=.i64) (kh:=.i64) N_ rfl rfl (show _=some (Value.int .i64 ((s.length - 1:Nat):Int)) by rw[show ((s.length - 1:Nat):Int)=(s.length:Int) - 1 by omega];rfl) zaa_ zaa_) rfl ?_;exact mh_
  refine Zz 11 ?_;exact fK_
 refine Zz 14 ?_;exact fK_
theorem ix_ {G:Prop} (h:G:=by
 exact aa_ results277 () (s_ rfl (by unfold bU_;subst_vars;rw[Bool.eq_iff_iff];simp_all)) (.refl _) zt):G:=h
theorem eH_ {g:FuncId} (d:Bool) (s:Str) (q:Str→Bool) (m:Fn0 prog g #[str s] (.bool (q s))):Fn0 prog 277 #[.bool d,str s,.func (.func g) #[] #[]] (.bool (bU_ d s q)):=by
 refine j_ func277 rfl rfl ntmps277 rfl fun v=>?_;refine Zz 9 ?_;cases d
 ·refine Zz 8 ?_
  refine e_ (aR_ rfl) rfl (Zz 5 ?_);refine E_ (dv_ rfl rfl) rfl fun e h=>Zz 7 ?_
  exact ix_
 refine Zz 5 ?_;refine bS_ (m) rfl rfl g_ zt rfl fun e h=>Zz 2 ?_
 cases e
 ·refine Zz 3 ?_
  refine e_ (aR_ rfl) rfl (Zz 11 ?_);exact ix_
 refine Zz 11 ?_;exact ix_
theorem iv_ {G:Prop} (h:G:=by
 exact met ⟨rfl,rfl,rfl,rfl,rfl,(s_ rfl (jot d)),trivial⟩):G:=h
theorem iw_ {G:Prop} (h:G:=by
 refine Zz 6 ?_;exact met ⟨rfl,rfl,(s_ rfl (jot d)),trivial⟩):G:=h
theorem gR_ {G:Prop} (h:G:=by
 exact met ⟨rfl,rfl,rfl,rfl,(s_ rfl (jaf d)),trivial⟩):G:=h
theorem me_ {G:Prop} (h:G:=by
 refine Zz 7 ?_;exact aa_ results232 () (s_ rfl (by unfold Pc.valid;rw[if_neg zaa_];simp only[U];first|(rw[if_pos (by first|(simp;omega)|omega)])|(rw[if_neg zaf_,if_pos zap_]))) (.refl _) zt):G:=h
theorem gS_ {G:Prop} (h:G:=by
 refine Zz 9 ?_;exact met ⟨rfl,rfl,rfl,rfl,rfl,(s_ rfl (jaf d)),trivial⟩):G:=h
theorem xQ_ (p:Pc) (hp:p.sm):Tri prog 232 #[Pc.val p] [] [hW_] (fun _:Unit=>.bool p.valid) (fun _=>[]) (fun _=>[]):=by
 refine j_ func232 rfl rfl ntmps232 rfl fun v_1=>?_;obtain⟨ha,hb,hc,hr,hs,ht⟩:=hp;refine Zz 2 ?_;refine K_ rfl rfl fun B=>Zz 8 ?_
 refine E_ (cD_ rfl rfl) rfl fun r_1 I=>Zz 1 ?_
 refine aB_ 4 ((decide (p.kind<1))||(decide (9<p.kind))) (fun r=>[(1,zp_ B 0),(2,.bool false),(13,.bool r)]) ?_ fun r_2 O=>?_
 ·cases r_1
  ·have d:=I
   replace I:=zdf I;refine Zz 5 ?_;refine E_ (dd_ rfl rfl) rfl fun r_3 J=>Zz 3 ?_
   exact met (zm (jof d J))
  have d:=I;replace I:=zdt I;exact iw_
 refine Zz 1 ?_;refine aB_ 4 ((((decide (p.kind<1))||(decide (9<p.kind))))||(decide (p.frm<(-1)))) (fun r=>[(1,zp_ B 0),(2,.bool false),(18,.bool r)]) ?_ fun r_3 J=>?_
 ·cases r_2
  ·have d:=O
   simp at O
   refine Zz 5 ?_;refine E_ (cD_ rfl rfl) rfl fun r_4 N=>Zz 3 ?_
   exact met (zm (jof d N))
  have d:=O;simp at O
  exact iw_
 refine Zz 1 ?_;refine aB_ 4 ((((((decide (p.kind<1))||(decide (9<p.kind))))||(decide (p.frm<(-1)))))||(decide (1024≤p.frm))) (fun r=>[(1,zp_ B 0),(2,.bool false),(23,.bool r)]) ?_ fun r_4 N=>?_
 ·cases r_3
  ·have d:=J
   simp at J
   refine Zz 5 ?_;refine E_ (fE_ rfl rfl) rfl fun S x=>Zz 3 ?_
   exact met (zm (jof d x))
  have d:=J;simp at J
  exact iw_
 refine Zz 2 ?_;cases r_4
 ·simp at N
  obtain⟨u,hx⟩:∃ u,gF_[p.kind.toNat]? = some u:=⟨_,List.getElem?_eq_getElem (show p.kind.toNat<10 by omega)⟩;have U:nus p.kind=u:=by simp[nus,hx]
  obtain⟨P,ub,Q,V,us,ut,un⟩:=u;refine Zz 7 ?_;refine e_ (dI_ runUnderlying328 sizeOf327 rfl rfl (by show (0:Int)≤p.kind;omega) (by show p.kind<(10:Int);omega)) rfl ?_;refine e_ (al_ (ad:=some ⟨3,0,none⟩) (us:=NUse.cells ⟨P,ub,Q,V,us,ut,un⟩) isAgg327 sizeOf327 rfl (fun v _ h=>h.1) (NUse.cells_len _) (z_ NUse.cells_len hx)) rfl (y_ zeroValue327 rfl fun G=>o_ 0 sizeOf327 rfl rfl rfl rfl rfl rfl (Zz 19 ?_));cases un
  ·refine Zz 5 ?_
   refine E_ (cl_ rfl rfl) rfl fun S x=>Zz 1 ?_
   refine aB_ 4 ((p.lo != 0)||(p.hi != 0)) (fun r=>[(1,zp_ B 0),(2,.bool false),(3,zp_ G 0),(4,.func (.func 277) #[] #[]),(5,.func (.func 278) #[] #[]),(52,.bool r)]) ?_ fun Y H=>?_
   ·cases S
    ·have d:=x
     replace x:=er_ x;refine Zz 5 ?_;refine E_ (cl_ rfl rfl) rfl fun R C=>Zz 3 ?_
     exact met (zm (jof d C))
    have d:=x;replace x:=eo_ x;refine Zz 6 ?_;exact iv_
   refine Zz 2 ?_;cases Y
   ·simp at H
    refine Zz 10 ?_;refine bS_ (eH_ P p.a bj_ (hC_ _ zaa_)) rfl rfl g_ zt rfl fun R C=>Zz 1 ?_
    refine aB_ 7 ((bU_ P p.a bj_)&&(bU_ ub p.b bj_)) (fun r=>[(1,zp_ B 0),(2,.bool false),(3,zp_ G 0),(4,.func (.func 277) #[] #[]),(5,.func (.func 278) #[] #[]),(66,.bool r)]) ?_ fun W E=>?_
    ·cases R
     ·have d:=C
      exact gS_
     have d:=C;refine Zz 11 ?_;refine bS_ (eH_ ub p.b bj_ (hC_ _ zaa_)) rfl rfl g_ zt rfl fun T A=>Zz 3 ?_
     exact met ⟨rfl,rfl,rfl,rfl,rfl,(s_ rfl (jat d A)),trivial⟩
    refine Zz 1 ?_;refine aB_ 7 ((((bU_ P p.a bj_)&&(bU_ ub p.b bj_)))&&(bU_ Q p.c bj_)) (fun r=>[(1,zp_ B 0),(2,.bool false),(3,zp_ G 0),(4,.func (.func 277) #[] #[]),(5,.func (.func 278) #[] #[]),(74,.bool r)]) ?_ fun T A=>?_
    ·cases W
     ·have d:=E
      simp at E
      exact gS_
     have d:=E;simp at E
     refine Zz 11 ?_;refine bS_ (eH_ Q p.c bj_ (hC_ _ zaa_)) rfl rfl g_ zt rfl fun K e=>Zz 3 ?_
     exact met ⟨rfl,rfl,rfl,rfl,rfl,(s_ rfl (jat d e)),trivial⟩
    refine Zz 1 ?_;refine aB_ 8 ((((((bU_ P p.a bj_)&&(bU_ ub p.b bj_)))&&(bU_ Q p.c bj_)))&&(bU_ V p.r cx_)) (fun r=>[(1,zp_ B 0),(2,.bool false),(3,zp_ G 0),(4,.func (.func 277) #[] #[]),(83,.bool r)]) ?_ fun K e=>?_
    ·cases T
     ·have d:=A
      simp at A
      refine Zz 10 ?_;exact gR_
     have d:=A;simp at A
     refine Zz 13 ?_;refine bS_ (eH_ V p.r cx_ (jc_ _ zaa_)) rfl rfl g_ zt rfl fun L m=>Zz 3 ?_
     exact met ⟨rfl,rfl,rfl,rfl,(s_ rfl (jat d m)),trivial⟩
    refine Zz 1 ?_;refine aB_ 7 ((((((((bU_ P p.a bj_)&&(bU_ ub p.b bj_)))&&(bU_ Q p.c bj_)))&&(bU_ V p.r cx_)))&&(bU_ us p.s cx_)) (fun r=>[(1,zp_ B 0),(2,.bool false),(3,zp_ G 0),(4,.func (.func 277) #[] #[]),(91,.bool r)]) ?_ fun L m=>?_
    ·cases K
     ·have d:=e
      simp at e
      refine Zz 9 ?_;exact gR_
     have d:=e;simp at e
     refine Zz 11 ?_;refine bS_ (eH_ us p.s cx_ (jc_ _ zaa_)) rfl rfl g_ zt rfl fun M y=>Zz 3 ?_
     exact met ⟨rfl,rfl,rfl,rfl,(s_ rfl (jat d y)),trivial⟩
    refine Zz 1 ?_;refine aB_ 7 ((((((((((bU_ P p.a bj_)&&(bU_ ub p.b bj_)))&&(bU_ Q p.c bj_)))&&(bU_ V p.r cx_)))&&(bU_ us p.s cx_)))&&(bU_ ut p.t cx_)) (fun r=>[(2,.bool false),(99,.bool r)]) ?_ fun M y=>?_
    ·cases L
     ·have d:=m
      simp at m
      refine Zz 9 ?_;exact met ⟨rfl,(s_ rfl (jaf d)),trivial⟩
     have d:=m;simp at m
     refine Zz 11 ?_;refine bS_ (eH_ ut p.t cx_ (jc_ _ zaa_)) rfl rfl g_ zt rfl fun X F=>Zz 3 ?_
     exact met ⟨rfl,(s_ rfl (jat d F)),trivial⟩
    refine Zz 4 ?_;exact aa_ results232 () (s_ rfl (by unfold Pc.valid;rw[if_neg zaa_];simp only[U];rw[if_neg (by simp<;>omega),if_neg (by simp<;>omega)];exact y.symm)) (.refl _) zt
   simp at H
   exact me_
  refine Zz 10 ?_;refine E_ (cD_ rfl rfl) rfl fun S x=>Zz 1 ?_
  refine aB_ 6 ((decide (p.lo<(-1099511627776)))||(decide (p.hi<p.lo))) (fun r=>[(1,zp_ B 0),(2,.bool false),(3,zp_ G 0),(4,.func (.func 277) #[] #[]),(5,.func (.func 279) #[] #[]),(39,.bool r)]) ?_ fun Y H=>?_
  ·cases S
   ·have d:=x
    replace x:=zdf x;refine Zz 9 ?_;refine E_ (dd_ rfl rfl) rfl fun R C=>Zz 3 ?_
    exact met (zm (jof d C))
   have d:=x;replace x:=zdt x;refine Zz 8 ?_;exact iv_
  refine Zz 1 ?_;refine aB_ 4 ((((decide (p.lo<(-1099511627776)))||(decide (p.hi<p.lo))))||(decide (1099511627776<p.hi))) (fun r=>[(1,zp_ B 0),(2,.bool false),(3,zp_ G 0),(4,.func (.func 277) #[] #[]),(5,.func (.func 279) #[] #[]),(44,.bool r)]) ?_ fun R C=>?_
  ·cases Y
   ·have d:=H
    simp at H
    refine Zz 5 ?_;refine E_ (dd_ rfl rfl) rfl fun W E=>Zz 3 ?_
    exact met (zm (jof d E))
   have d:=H;simp at H
   refine Zz 6 ?_;exact iv_
  refine Zz 2 ?_;cases R
  ·simp at C
   refine Zz 10 ?_;refine bS_ (eH_ P p.a bj_ (hC_ _ zaa_)) rfl rfl g_ zt rfl fun W E=>Zz 1 ?_
   refine aB_ 7 ((bU_ P p.a bj_)&&(bU_ ub p.b bj_)) (fun r=>[(1,zp_ B 0),(2,.bool false),(3,zp_ G 0),(4,.func (.func 277) #[] #[]),(5,.func (.func 279) #[] #[]),(66,.bool r)]) ?_ fun T A=>?_
   ·cases W
    ·have d:=E
     exact gS_
    have d:=E;refine Zz 11 ?_;refine bS_ (eH_ ub p.b bj_ (hC_ _ zaa_)) rfl rfl g_ zt rfl fun K e=>Zz 3 ?_
    exact met ⟨rfl,rfl,rfl,rfl,rfl,(s_ rfl (jat d e)),trivial⟩
   refine Zz 1 ?_;refine aB_ 7 ((((bU_ P p.a bj_)&&(bU_ ub p.b bj_)))&&(bU_ Q p.c bj_)) (fun r=>[(1,zp_ B 0),(2,.bool false),(3,zp_ G 0),(4,.func (.func 277) #[] #[]),(5,.func (.func 279) #[] #[]),(74,.bool r)]) ?_ fun K e=>?_
   ·cases T
    ·have d:=A
     simp at A
     exact gS_
    have d:=A;simp at A
    refine Zz 11 ?_;refine bS_ (eH_ Q p.c bj_ (hC_ _ zaa_)) rfl rfl g_ zt rfl fun L m=>Zz 3 ?_
    exact met ⟨rfl,rfl,rfl,rfl,rfl,(s_ rfl (jat d m)),trivial⟩
   refine Zz 1 ?_;refine aB_ 8 ((((((bU_ P p.a bj_)&&(bU_ ub p.b bj_)))&&(bU_ Q p.c bj_)))&&(bU_ V p.r aN_)) (fun r=>[(1,zp_ B 0),(2,.bool false),(3,zp_ G 0),(4,.func (.func 277) #[] #[]),(83,.bool r)]) ?_ fun L m=>?_
   ·cases K
    ·have d:=e
     simp at e
     refine Zz 10 ?_;exact gR_
    have d:=e;simp at e
    refine Zz 13 ?_;refine bS_ (eH_ V p.r aN_ (gI_ _ zaa_)) rfl rfl g_ zt rfl fun M y=>Zz 3 ?_
    exact met ⟨rfl,rfl,rfl,rfl,(s_ rfl (jat d y)),trivial⟩
   refine Zz 1 ?_;refine aB_ 7 ((((((((bU_ P p.a bj_)&&(bU_ ub p.b bj_)))&&(bU_ Q p.c bj_)))&&(bU_ V p.r aN_)))&&(bU_ us p.s cx_)) (fun r=>[(1,zp_ B 0),(2,.bool false),(3,zp_ G 0),(4,.func (.func 277) #[] #[]),(91,.bool r)]) ?_ fun M y=>?_
   ·cases L
    ·have d:=m
     simp at m
     refine Zz 9 ?_;exact gR_
    have d:=m;simp at m
    refine Zz 11 ?_;refine bS_ (eH_ us p.s cx_ (jc_ _ zaa_)) rfl rfl g_ zt rfl fun X F=>Zz 3 ?_
    exact met ⟨rfl,rfl,rfl,rfl,(s_ rfl (jat d F)),trivial⟩
   refine Zz 1 ?_;refine aB_ 7 ((((((((((bU_ P p.a bj_)&&(bU_ ub p.b bj_)))&&(bU_ Q p.c bj_)))&&(bU_ V p.r aN_)))&&(bU_ us p.s cx_)))&&(bU_ ut p.t cx_)) (fun r=>[(2,.bool false),(99,.bool r)]) ?_ fun X F=>?_
   ·cases M
    ·have d:=y
     simp at y
     refine Zz 9 ?_;exact met ⟨rfl,(s_ rfl (jaf d)),trivial⟩
    have d:=y;simp at y
    refine Zz 11 ?_;refine bS_ (eH_ ut p.t cx_ (jc_ _ zaa_)) rfl rfl g_ zt rfl fun r_14 Z=>Zz 3 ?_
    exact met ⟨rfl,(s_ rfl (jat d Z)),trivial⟩
   refine Zz 4 ?_;exact aa_ results232 () (s_ rfl (by unfold Pc.valid;rw[if_neg zaa_];simp only[U];rw[if_neg (by simp<;>omega),if_neg (by simp<;>omega)];exact F.symm)) (.refl _) zt
  simp at C
  exact me_
 simp at N
 refine Zz 7 ?_;exact aa_ results232 () (s_ rfl (by unfold Pc.valid;rw[if_pos zaa_])) (.refl _) zt
theorem Cx_ (l:List Pc) (ad:Ao) (cap:Nat) (hl:l.length≤17592186044414) (y:∀ p∈l,p.sm):Tri prog 176 #[.slice ad l.length cap] [] [X_ ad (l.flatMap Pc.cells),hW_] (fun _:Unit=>.int .i64 (cC_ l)) (fun _=>[]) (fun _=>[]):=by
 refine j_ func176 rfl rfl ntmps176 rfl fun E=>?_;refine Zi 10 (fun m=>?_) fun m=>?_
 ·refine Zz 14 ?_
  refine bt_ [(8,.slice ad l.length cap),(9,.int .i64 (List.length l:Int)),(10,.int .i64 ((0:Nat):Int))] zl ?_;refine bO_ (ι:={q:Nat // q≤l.length∧(l.take q).all Pc.valid=true}) (fun i=>[(8,.slice ad l.length cap),(9,.int .i64 (List.length l:Int)),(10,.int .i64 (i.1:Int))]) (fun _=>_) (fun _=>_) (fun i=>l.length - i.1) ⟨0,by simp⟩ ?_;rintro ⟨i,B⟩;refine bt_ [(8,.slice ad l.length cap),(9,.int .i64 (List.length l:Int)),(10,.int .i64 (i:Int))] zl ?_;refine Zi 2 (fun x=>?_) fun x=>?_
  ·refine Zz 12 ?_
   exact aa_ results176 () (be_ rfl (by unfold cC_;rw[if_neg zaa_,if_pos (by have:=B.2;rwa [List.take_of_length_le zaa_]at this)])) (.refl _) zt
  obtain⟨h,e,v,d⟩:=zge (show i<l.length by omega);refine Zz 12 ?_;refine y_ V_ rfl fun F=>o_ 0 L_ rfl rfl rfl rfl rfl rfl (Zz 5 ?_)
  refine an_ (xQ_ e (y e d)) rfl g_ zf rfl fun A C=>e_ (aR_ rfl) rfl (Zz 2 ?_)
  cases A
  ·refine Zz 7 ?_
   exact aa_ results176 () (be_ rfl (by unfold cC_;rw[if_neg zaa_,if_neg (by rw[show l.all Pc.valid=false from List.all_eq_false.2 ⟨e,d,by simp[*]⟩];simp)])) (.refl _) zt
  refine Zz 8 ?_;exact x_ ⟨i+1,h,by rw[List.take_add_one,v];simp only[Option.toList_some,List.all_append,B.2];simp[*]⟩ zap_ zl (@List.perm_append_comm _ [_] _) zh
 refine Zz 9 ?_;exact aa_ results176 () (be_ rfl (by unfold cC_;rw[if_pos zaa_])) (.refl _) zt
theorem yz_ {N:Nf} {fr:Fr} {H:Hp} {Γ:List Fct} {P:Program} {ty t e:TypeId} {x y:Operand} {m n:Int} (A:Fr.ev fr x=some (.int .i64 m)) (h:Fr.ev fr y=some (.int .i64 n)):Yld P N fr H Γ (.binOp .add t x y e) ty (.int .i64 (IntKind.wrap .i64 (m+n))) :=
  fun a v d _ _ _ _ _=>by simp[execOp,d.ev A,d.ev h,eqGuard,binOp,Op.intArith]
def wz (n:Nat):Int:=IntKind.wrap .i64 (n:Int)
theorem AW_ (n:Nat):IntKind.wrap .i64 (wz n+1)=wz (n+1):=by
  unfold wz;rw[IntKind.wrap_i64,IntKind.wrap_i64,IntKind.wrap_i64];omega
theorem yA_ {n:Nat} (h:n≤1000000):wz n=(n:Int):=bv_ zaa_ zaa_
theorem Con.fold_cnt:∀ (m:Nat) (c:Con),c.sz≤m→∀ n,Con.fold Con.cnt c n=.inl (n+c.sz)
  | 0,c,h=>by have:=c.sz_pos;omega
  | m+1,c,h=>fun n=>by
    have e:∀ ps:List Con,(∀ p∈ps,p.sz≤m)→∀ n,Con.fold.folds Con.cnt ps n=.inl (n+Con.sz.szs ps):=by
      intro ps
      induction ps with
      | nil=>intro _ n;simp[Con.fold.folds,Con.sz.szs]
      | cons p ps ih =>
        intro d n;simp only[Con.fold.folds,Con.fold_cnt m p (d p zaf_) n,Con.sz.szs];rw[ih (fun q v=>d q (by simp[v]))]
        congr 1;omega
    rw[Con.fold_eq];simp only[Con.cnt];rw[e c.parts (fun p d=>by have:=Con.sz_part d;omega)]
    congr 1
    cases c;simp only[Con.sz,Con.parts];omega
theorem size_c (c:Con) (H:c.ok) (L:c.sz≤1000000):Tri prog 168 #[c.val] [] [c.memF] (fun _:Unit=>.int .i64 (c.sz:Int)) (fun _=>[]) (fun _=>[]):=by
 refine em_ func168 rfl rfl ntmps168 rfl fun m=>?_;refine Zz 2 ?_;refine K_ rfl rfl fun O=>y_ bA_ rfl fun d=>Zz 5 ?_
 refine e_ (cP_ 1 ac_ n_ rfl rfl) rfl (f_ (um_ c) rfl (.refl _) zt rfl fun b=>Zz 3 ?_);refine bt_ [(2,zp_ d 0),(4,.func (.func 119) #[] #[zp_ b 0])] zl ?_;refine dk_ (H':=[_,_]) (F:=[_]) (.refl _) zh ?_;refine qd_ (α:={c:Con // c.ok}) (xv:=fun x=>x.1.val) (good:=fun _=>True) (stp:=fun x=>Con.cnt x.1) (Γx:=fun x=>[x.1.memF]) (Γi:=[Con.memF c]) (Hj:=fun n:Nat=>[(d,.cells #[.int .i64 (wz n)] 3 (0,0))]) (Hx:=fun _:Empty=>[]) (Hc:=[(b,.cells c.cells.toArray 28 (0,0))]) (caps:=[zp_ b 0]) 0 (Con.fold Con.cnt c 0) rfl (.refl _) (fun v _ h=>h) ?_ ?_ ?_ ?_
 ·rintro l D T S K A P y e s ⟨x,M⟩ -
  refine kf_ (ι:=Unit) (Hj:=fun n:Nat=>[(d,.cells #[.int .i64 (wz n)] 3 (0,0))]) (Hx:=fun _:Empty=>[]) (s:=s) (res:=Con.cnt x s) (Γ:=[x.memF]) (fun _=>[(2,zp_ d 0)]) (fun _=>[(d,.cells #[.int .i64 (wz s)] 3 (0,0))]) S K A P rfl ?_ ?_
  ·intro n m B R
   rw[y];refine lF_ ?_;refine cg_ rfl ?_;exact dB_ () ⟨rfl,trivial⟩ (F:=[]) (by rw[List.append_nil]) zh
  intro n m B R _;rw[e];refine dp_ ?_;refine av_ ?_;refine I_ (J_ _) (bd_ 0 aF_ rfl rfl rfl) rfl rfl ?_;refine I_ (J_ _) (ao_ (yz_ rfl rfl) (show _=Value.int .i64 (wz (s+1)) from congrArg (Value.int .i64) (AW_ s))) rfl rfl ?_;refine ef_ (J_ _) 0 P_ rfl rfl rfl rfl rfl rfl ?_;refine bh_ ?_;refine cg_ rfl ?_;exact fu_ (s+1) rfl (G:=[]) zaA_
 ·intro l U V N
  exact rd_ (E:=[]) (good:=fun _=>True) (fun _ _ _ _=>trivial) (fun s x M _=>N s ⟨x,M⟩ trivial) _ H trivial 0
 ·intro s C D l r
  rw[Con.fold_cnt _ _ (Nat.le_refl _)]at C;obtain rfl:0+c.sz=s:=Sum.inl.inj C;have Q:wz (0+c.sz)=(c.sz:Int):=by rw[Nat.zero_add];exact yA_ L
  refine bF_ rfl ?_;refine cw_ ?_;refine av_ ?_;refine I_ aM_ (bd_ 1 aF_ rfl rfl rfl) rfl rfl ?_;refine ef_ aM_ 1 P_ rfl rfl rfl rfl rfl rfl ?_;refine bh_ ?_;refine bF_ rfl ?_;refine hv_ ?_;exact sL_ (G:=[_,_,_]) () (fun a v J I=>by rw[← Q];exact oz_ 1 results168 aF_ rfl rfl a v J I) (gf_ (i:=3) rfl) ⟨_,.refl _⟩ rfl
 intro t C D l r;cases t
theorem qt_ (xs:List Str) (ad:Ao) (cap:Nat) {kb:Nat} (frm:Int) (l:List Pc) (q:CS) (K:CInv l q) (J:xs.length≤1000) (G:l.length+xs.length≤100000) :
    Tri prog 74 #[zp_ kb 0,.slice ad xs.length cap] (fR_ kb frm q) [X_ ad (xs.flatMap au_)] (fun _:{x:CS // CInv (cJ_ frm xs l) x}=>.tuple #[]) (fun x=>fR_ kb frm x.1) (fun _=>[]):=by
  refine j_ func74 rfl rfl ntmps74 rfl fun I=>?_;refine Zz 8 ?_;refine bt_ [(0,zp_ kb 0),(6,.slice ad xs.length cap),(7,.int .i64 (List.length xs:Int)),(8,.int .i64 ((0:Nat):Int))] zl ?_;refine bO_ (ι:={y:Nat×CS // y.1≤xs.length∧CInv (cJ_ frm (xs.take y.1) l) y.2}) (fun y=>[(0,zp_ kb 0),(6,.slice ad xs.length cap),(7,.int .i64 (List.length xs:Int)),(8,.int .i64 (y.1.1:Int))]) (fun y=>fR_ kb frm y.1.2) (fun _=>_) (fun y=>xs.length - y.1.1) ⟨(0,q),by simp,K⟩ ?_;rintro ⟨⟨i,m⟩,B⟩;dsimp only at B;dsimp only;have M:=hy_ frm (xs.take i) l;have H:(xs.take i).length≤i:=by simp;omega
  refine bt_ [(0,zp_ kb 0),(6,.slice ad xs.length cap),(7,.int .i64 (List.length xs:Int)),(8,.int .i64 (i:Int))] zl ?_;refine Zi 2 (fun h=>?_) fun h=>?_
  · refine Zz 6 ?_;exact ck_ results74 ⟨m,by have:=B.2;rwa [List.take_of_length_le zaa_]at this⟩ rfl (F:=[]) aj_ zt
  · have d:i<xs.length:=by omega
    obtain⟨C,v⟩:∃ A,xs[i]? = some A:=⟨_,List.getElem?_eq_getElem d⟩;refine Zz 18 ?_;refine e_ (u_ dS_ rfl rfl) rfl (G_ F_ L_ V_ rfl rfl rfl rfl rfl rfl fun L=>f_ (dT_ (Pc.mk 1 C [] [42] [] [] [] 0 0 0) frm (cJ_ frm (xs.take i) l) m B.2 zaa_) rfl zp zt rfl fun⟨E,e⟩=>?_);dsimp only;refine A_ (List.Perm.symm aj_) (Zz 7 ?_);exact x_ ⟨(i+1,E),d,by dsimp only;rw[uR_ frm v];exact e⟩ zab_ zl (F:=[]) aj_ zh
theorem wk_ (a b:Str):Fn0 prog 72 #[str a,str b] (Fc.val ⟨1,a,b,[],0,0⟩):=by
  refine j_ func72 rfl rfl ntmps72 rfl fun x=>?_;refine Zz 2 ?_;refine y_ aV_ rfl fun m=>Zz 6 ?_
  refine e_ (u_ nA_ rfl rfl) rfl (o_ 0 at_ rfl rfl rfl rfl rfl rfl (Zz 3 ?_));exact cS_ () (fun a v d e=>dz_ (us:=Fc.cells ⟨1,_,_,[],0,0⟩) 0 results72 fT_ at_ rfl rfl rfl a v d e) (@List.perm_append_comm _ [_] _) (fun v _ h=>trivial)
abbrev GlT (x:Ax) (p:List Pc) (fs:List Fc) (er:Int):Prop:=Tri prog 38 #[x.val] [] [x.memF,bN_] (fun y:{y:Ao×Nat×Ao×Nat // p.length≤y.2.1∧y.2.1≤maxLen∧fs.length≤y.2.2.2∧y.2.2.2≤maxLen∧(y.1=none→y.2.1=0)}=>.tuple #[.slice y.1.1 p.length y.1.2.1,.slice y.1.2.2.1 fs.length y.1.2.2.2,.int .i64 er]) (fun _=>[]) (fun y=>[X_ y.1.1 (p.flatMap Pc.cells),X_ y.1.2.2.1 (fs.flatMap Fc.cells)])
theorem Cg_ (x:Ax) (m:x.ok) (hc:x.check=0) (hk:(x.kind=1∨x.kind=8)):Tri prog 38 #[Ax.val x] [] [Ax.memF x,bN_] (fun y:{y:Ao×Nat×Ao×Nat // x.goalP.1.length≤y.2.1∧y.2.1≤maxLen∧x.goalP.2.1.length≤y.2.2.2∧y.2.2.2≤maxLen∧(y.1=none→y.2.1=0)}=>.tuple #[.slice y.1.1 x.goalP.1.length y.1.2.1,.slice y.1.2.2.1 x.goalP.2.1.length y.1.2.2.2,.int .i64 x.goalP.2.2])
    (fun _=>[]) (fun y=>[X_ y.1.1 (x.goalP.1.flatMap Pc.cells),X_ y.1.2.2.1 (x.goalP.2.1.flatMap Fc.cells)]):=by
  refine j_ func38 rfl rfl ntmps38 rfl fun v_1=>?_;refine Zz 2 ?_;refine K_ rfl rfl fun X=>Zz 9 ?_
  refine f_ (gh_ x m) rfl g_ zf rfl fun _=>Zi 6 (fun I=>?_) fun I=>?_
  · have G:=Ax.good_of I;refine Zz 7 ?_;refine f_ (jb_ (-1)) rfl g_ zt rfl fun⟨kb,O⟩=>?_;dsimp only;refine A_ (@List.perm_append_comm _ _ [_]) (Zz 6 ?_);refine f_ (vM_ kb) rfl g_ zt rfl fun⟨bk,bl,br⟩=>?_;dsimp only;refine Zi 23 (fun W=>?_) fun W=>?_
    · refine Zi 5 (fun K=>?_) fun K=>?_
      · refine Zi 6 (fun V=>?_) fun V=>?_
        · refine Zi 6 (fun T=>?_) fun T=>?_
          · refine Zi 6 (fun U=>?_) fun U=>?_
            · exfalso;omega
            · obtain⟨fr,zr⟩:=Con.check_zero (G.right zaa_);refine Zz 5 ?_;refine ak_ ((X,.cells (Ax.cells x).toArray 30 (0,0))::[]) zk ?_;refine D_ 4 [0,1,2,4,5] zk zs (Zz 6 ?_);refine p_ 3 rfl zk (f_ (eq_ x.a m.a) rfl g_ zt rfl fun _=>Zz 3 ?_);refine p_ 6 rfl zk (f_ (cH_ x.right m.right) rfl g_ (fun v _ h=>by exact⟨h.2.2.2.1.2.1,h.2.2.2.2.1,trivial⟩) rfl fun _=>Zz 3 ?_);refine p_ 7 rfl zk (G_ t_ M_ aw_ rfl rfl rfl rfl rfl rfl fun R=>?_);refine aq_ (List.flatMap au_ [(ca_ x.a),(Con.atom x.right)]) d_ rfl ?_;refine Zz 3 ?_;refine p_ 8 rfl zk (f_ (qt_ [(ca_ x.a),(Con.atom x.right)] (some ⟨R,0,none⟩) 2 (-1) ([]:List Pc) ⟨.slice none 0 0,O,#[],0,[]⟩ ⟨az_.nil _ _,rfl,by simp⟩ zaf_ zax_) rfl zp zf rfl fun⟨Q,L⟩=>?_);dsimp only;have M:=hy_ (-1) [(ca_ x.a),(Con.atom x.right)] ([]:List Pc);refine A_ (@List.perm_append_comm _ _ [_]) ?_;simp only[List.length_cons,List.length_nil]at M;refine Zz 10 ?_;refine Z_ (kA_ (kb:=kb) (bk:=bk) (bs:=bl) (frm:=(-1)) _ x.right (Nat.le_refl _) m.right fr (cJ_ (-1) [(ca_ x.a),(Con.atom x.right)] ([]:List Pc)) Q L zaa_) rfl rfl zp (fun v _ h=>by exact⟨h.2.2.2.2.1.2.1,h.2.2.2.2.2.1,h.2.1,h.2.2.1,trivial⟩) rfl fun⟨S,H⟩=>?_;dsimp only;refine A_ (@List.perm_append_comm _ _ [_]) (Zz 3 ?_);refine D_ 5 [0,1,2,4,5] zk zs (Zz 6 ?_);refine p_ 3 rfl zk (f_ (eq_ x.a m.a) rfl g_ zt rfl fun _=>Zz 3 ?_);refine p_ 6 rfl zk (f_ (cH_ x.right m.right) rfl g_ (fun v _ h=>by exact⟨h.2.2.2.2.1.2.1,h.2.2.2.2.2.1,trivial⟩) rfl fun _=>Zz 3 ?_);refine p_ 7 rfl zk (Z_ (wk_ (ca_ x.a) (Con.atom x.right)) rfl rfl g_ zt rfl fun _=>Zz 3 ?_);refine p_ 8 rfl zk (G_ cp_ at_ aV_ rfl rfl rfl rfl rfl rfl fun C=>Zz 3 ?_);refine D_ 0 [9] zk zs (Zz 17 ?_);refine aq_ (List.flatMap Fc.cells [(Fc.mk 1 (ca_ x.a) (Con.atom x.right) [] 0 0)]) d_ rfl ?_;refine gE_ H.row (c_ (c_ (c_ aj_))) fun E d A F B=>?_
              have e:x.goalP=((Con.leftP (-1) x.right (cJ_ (-1) [(ca_ x.a),(Con.atom x.right)] ([]:List Pc))),[(Fc.mk 1 (ca_ x.a) (Con.atom x.right) [] 0 0)],0):=by
                unfold Ax.goalP;rw[if_neg zaa_];repeat (first|rfl|(rw[if_pos zaa_])|(rw[if_neg zaa_]))
              have hy:x.goalP.1.length≤d∧d≤maxLen∧x.goalP.2.1.length≤1∧1≤maxLen∧(E=none→d=0):=by rw[e];exact⟨F,B,by simp,by decide,az_.nilcap H.row A⟩
              have Z:Value.tuple #[S.sv,.slice (some ⟨C,0,none⟩) 1 1,.int .i64 0]=.tuple #[.slice E x.goalP.1.length d,.slice (some ⟨C,0,none⟩) x.goalP.2.1.length 1,.int .i64 x.goalP.2.2]:=by
                rw[e,A]<;>rfl
              have N:List.flatMap Pc.cells (Con.leftP (-1) x.right (cJ_ (-1) [(ca_ x.a),(Con.atom x.right)] ([]:List Pc)))=x.goalP.1.flatMap Pc.cells:=by rw[e]
              have J:List.flatMap Fc.cells [(Fc.mk 1 (ca_ x.a) (Con.atom x.right) [] 0 0)]=x.goalP.2.1.flatMap Fc.cells:=by rw[e]
              exact xi_ results38 ⟨(E,d,(some ⟨C,0,none⟩),1),hy⟩ rfl rfl rfl Z g_ (fun v _ h=>⟨N▸h.1,J▸h.2.1,trivial⟩)
          · exfalso;omega
        · exfalso;omega
      · exfalso;omega
    · obtain⟨fl,zl⟩:=Con.check_zero (G.left zaa_);obtain⟨fr,zr⟩:=Con.check_zero (G.right zaa_);refine Zz 9 ?_;refine D_ 4 [0,1,3,4] zk zs (Zz 5 ?_);refine p_ 2 rfl zk (f_ (cH_ x.left m.left) rfl g_ (fun v _ h=>by exact⟨h.2.2.2.1.1,h.2.2.2.2.1,trivial⟩) rfl fun _=>Zz 3 ?_);refine p_ 5 rfl zk (f_ (cH_ x.right m.right) rfl g_ (fun v _ h=>by exact⟨h.2.2.2.1.2.1,h.2.2.2.2.1,trivial⟩) rfl fun _=>Zz 3 ?_);refine D_ 0 [6,7] zk zs (Zz 10 ?_);refine G_ t_ M_ aw_ rfl rfl rfl rfl rfl rfl fun R=>?_;refine aq_ (List.flatMap au_ [(Con.atom x.left),(Con.atom x.right)]) d_ rfl ?_;refine f_ (qt_ [(Con.atom x.left),(Con.atom x.right)] (some ⟨R,0,none⟩) 2 (-1) ([]:List Pc) ⟨.slice none 0 0,O,#[],0,[]⟩ ⟨az_.nil _ _,rfl,by simp⟩ zaf_ zax_) rfl zp zf rfl fun⟨Q,L⟩=>?_;dsimp only;have M:=hy_ (-1) [(Con.atom x.left),(Con.atom x.right)] ([]:List Pc);refine A_ (@List.perm_append_comm _ _ [_]) ?_;simp only[List.length_cons,List.length_nil]at M;refine Zz 7 ?_;refine Z_ (jA_ (kb:=kb) (bk:=bk) (bs:=br) (frm:=(-1)) _ x.left (Nat.le_refl _) m.left fl (cJ_ (-1) [(Con.atom x.left),(Con.atom x.right)] ([]:List Pc)) Q L zaa_) rfl rfl zp (fun v _ h=>by exact⟨h.2.2.2.2.1.1,h.2.2.2.2.2.1,h.2.1,h.2.2.2.1,trivial⟩) rfl fun⟨S,H⟩=>?_;dsimp only;have hb_2:=Con.rightP_len (-1) _ x.left (Nat.le_refl _) (cJ_ (-1) [(Con.atom x.left),(Con.atom x.right)] ([]:List Pc));refine A_ (@List.perm_append_comm _ _ [_]) (Zz 7 ?_);refine Z_ (kA_ (kb:=kb) (bk:=bk) (bs:=bl) (frm:=(-1)) _ x.right (Nat.le_refl _) m.right fr (Con.rightP (-1) x.left (cJ_ (-1) [(Con.atom x.left),(Con.atom x.right)] ([]:List Pc))) S H zaa_) rfl rfl zp (fun v _ h=>by exact⟨h.2.2.2.2.1.2.1,h.2.2.2.2.2.1,h.2.1,h.2.2.1,trivial⟩) rfl fun⟨Y,P⟩=>?_;dsimp only;refine A_ (@List.perm_append_comm _ _ [_]) (Zz 7 ?_);refine Z_ (wk_ (Con.atom x.left) (Con.atom x.right)) rfl rfl g_ zt rfl fun _=>G_ cp_ at_ aV_ rfl rfl rfl rfl rfl rfl fun C=>Zi 7 (fun K=>?_) fun K=>?_
      · refine Zz 18 ?_;refine aq_ (List.flatMap Fc.cells [(Fc.mk 1 (Con.atom x.left) (Con.atom x.right) [] 0 0)]) d_ rfl ?_;refine gE_ P.row (c_ (c_ (c_ aj_))) fun E d A F B=>?_
        have e:x.goalP=((Con.leftP (-1) x.right (Con.rightP (-1) x.left (cJ_ (-1) [(Con.atom x.left),(Con.atom x.right)] ([]:List Pc)))),[(Fc.mk 1 (Con.atom x.left) (Con.atom x.right) [] 0 0)],0):=by
          unfold Ax.goalP;rw[if_neg zaa_];repeat (first|rfl|(rw[if_pos zaa_])|(rw[if_neg zaa_]))
        have hy:x.goalP.1.length≤d∧d≤maxLen∧x.goalP.2.1.length≤1∧1≤maxLen∧(E=none→d=0):=by rw[e];exact⟨F,B,by simp,by decide,az_.nilcap P.row A⟩
        have Z:Value.tuple #[Y.sv,.slice (some ⟨C,0,none⟩) 1 1,.int .i64 0]=.tuple #[.slice E x.goalP.1.length d,.slice (some ⟨C,0,none⟩) x.goalP.2.1.length 1,.int .i64 x.goalP.2.2]:=by
          rw[e,A]<;>rfl
        have N:List.flatMap Pc.cells (Con.leftP (-1) x.right (Con.rightP (-1) x.left (cJ_ (-1) [(Con.atom x.left),(Con.atom x.right)] ([]:List Pc))))=x.goalP.1.flatMap Pc.cells:=by rw[e]
        have J:List.flatMap Fc.cells [(Fc.mk 1 (Con.atom x.left) (Con.atom x.right) [] 0 0)]=x.goalP.2.1.flatMap Fc.cells:=by rw[e]
        exact xi_ results38 ⟨(E,d,(some ⟨C,0,none⟩),1),hy⟩ rfl rfl rfl Z g_ (fun v _ h=>⟨N▸h.1,J▸h.2.1,trivial⟩)
      · exfalso;omega
  · exact absurd hc I
theorem wj_ {x:Ax} (d:x.ok) (y:x.check=0) (v:(x.kind=1∨x.kind=8)) {p:List Pc} {m:List Fc} {er:Int} (e:x.goalP=(p,m,er)):GlT x p m er:=by
  have h:=Cg_ x d y v;unfold GlT;generalize x.goalP=g at h e
  subst e;exact h
end Go.Proofs.YthmjeabeoodghaaGreatDoor
namespace Go.Vs
open Go Go.Sx
def vw (W:World):Vw:=⟨fun b=>b<W.heap.size,W,True⟩
theorem vw_sat (W:World):(vw W).sat []:=⟨(fun _ h=>by cases h),zaf_,fun _ h=>h⟩
section
variable {H:Type} {enc:TypeId×Value→H} {P:Program} {W:World}
abbrev wok (l:List Nat):Prop:=l.all (·≤reachBytes)=true
theorem fq_ {a b:List Nat}:wok (a++b)↔wok a∧wok b:=by simp[wok,List.all_append]
theorem yB_ {n:Nat} {b:List Nat}:wok (n::b)↔n≤reachBytes∧wok b:=by simp[wok]
theorem yC_ {e:TypeId}:∀ {ds:List (DataW H)},wok (DataW.weightsAll P e ds)→∀ d∈ds,wok (d.weights P e)
 | [],_,_,h=>by cases h
 | x::ds,hw,d,m=>by
   rw[DataW.weightsAll,fq_]at hw;rcases List.mem_cons.1 m with rfl|m
   · exact hw.1
   · exact yC_ hw.2 d m
theorem ro_ {α:Type} [Inhabited α] (f:α→List Value) (k:Nat) (R:∀ x,(f x).length=k) (F:0<k) (Q:α→Prop) {O I:TypeId} (hs:P.underlying O=some (.slice I)) (hc:P.cellsOf I=k) {n:Nat} {cs:List Value} {x:DataW H×List MemPlace}
    (G:∀ m,m<n→∀ A y,DataW.trod enc P W 0 (fun _=>true) true m I A=some y→wok (y.1.weights P I)→∃ c,A=f c∧Q c)
    (h:DataW.trod enc P W 0 (fun _=>true) true n O cs=some x) (S:wok (x.1.weights P O)) :
    ∃ (l:List α) (ad:Ao) (cap:Nat),cs=[.slice ad l.length cap]∧bY_ (vw W) ad (l.flatMap f)∧(∀ c∈l,Q c)∧l.length≤cap∧cap*P.bytesOf I≤reachBytes:=by
  rcases DataW.trod_slice hs h with⟨Y,_⟩|⟨a,len,cap,E,rest,m,hn,rfl,rfl,_,hl,_,hlen,Z,hsp,_⟩
  · exact⟨[],none,0,Y,.inl rfl,(fun _ h=>by cases h),Nat.le_refl _,by simp⟩
  · obtain⟨hr,_⟩:=hsp rfl
    simp only[DataW.weights,hs,yB_,fq_,List.length_map]at S
    have M:cap*P.bytesOf I≤reachBytes:=by
      have e:E.length+rest.length=cap:=by omega
      rw[← e];exact S.1
    have J:∀ i,i<len→∃ c:α,W.cells? 0 (a.add (i*k)) k=some (f c)∧Q c:=fun i hi=>by
      have he:=Z i hi;rw[hc,List.getElem?_eq_getElem zaa_]at he;obtain⟨A,h1,h2⟩:=Option.bind_eq_some_iff.1 he;obtain⟨c,rfl,hq⟩:=G m zaa_ A _ h2 (yC_ S.2.1 _ (List.mem_map_of_mem (List.getElem_mem zaa_)));exact⟨c,h1,hq⟩
    obtain⟨C,hC⟩:=Deep.choose_lt J;refine⟨(List.range len).map C,some a,cap,by simp,?_,?_,by simpa using hl,M⟩
    · by_cases Y:len=0
      · left;simp[Y]
      · have h1:=(hC 0 zaa_).1
        obtain⟨_,_,d⟩:=World.cells?_some h1;have B:=d 0 F;have V:0<(f (C 0)).length:=by rw[R];exact F
        rw[List.getElem?_eq_getElem V]at B;cases hb:W.heap[a.block]? with
        | none=>simp[World.cell?,Addr.add,hb]at B
        | some o =>
          cases o with
          | cells arr T fz =>
            have v:a.spot=none:=by
              cases hsp2:a.spot with
              | none=>rfl
              | some s=>simp[World.cell?,Addr.add,hb,hsp2]at B
            obtain⟨b,off,sp⟩:=a;simp only at v hb;subst v;right
            refine⟨b,off,arr,T,fz,rfl,(Array.getElem?_eq_some_iff.1 hb).1,hb,fun j y hj=>?_⟩
            have N:j<len*k:=by
              have:=(List.getElem?_eq_some_iff.1 hj).1;rw[dU_ f k R]at this;simpa using this
            have hi:j / k<len:=Nat.div_lt_of_lt_mul (by rw[Nat.mul_comm];exact N);have K:j%k<k:=Nat.mod_lt _ F;have e:j=(j / k)*k+j%k:=by rw[Nat.mul_comm];exact (Nat.div_add_mod j k).symm
            have L:((List.range len).map C)[j / k]? = some (C (j / k)):=by simp[hi]
            rw[e,kD_ f k R _ (j / k) (j%k) _ L K]at hj;obtain⟨_,_,d⟩:=World.cells?_some (hC (j / k) hi).1;have:=d (j%k) K;rw[hj,cK_,cK_]at this;rw[e];simpa [World.cell?,hb,Nat.add_assoc] using this
          | _=>simp[World.cell?,Addr.add,hb]at B
    · intro c U
      obtain⟨i,hi,rfl⟩:=List.mem_map.1 U;exact (hC i (by simpa using hi)).2
end
instance:Inhabited Con:=⟨.mk 0 [] 0 0 none 0 []⟩
instance:Inhabited Ax:=⟨⟨0,false,default,default,none,0,[],[],[],[]⟩⟩
instance:Inhabited Pc:=⟨⟨0,[],[],[],[],[],[],0,0,0⟩⟩
structure Tys (P:Program) (tI tB tS tSs tC tCs tA tAs tP tPs:TypeId):Prop where
  i:P.underlying tI=some (.int .i64)
  b:P.underlying tB=some .bool
  s:P.underlying tS=some .string
  ss:P.underlying tSs=some (.slice tS)
  c:∃ fs,P.underlying tC=some (.struct fs)∧fs.toList.map (fun f=>(f.type,f.offset))=[(tI,0),(tS,1),(tI,2),(tI,3),(tCs,4)]
  cs:P.underlying tCs=some (.slice tC)
  a:∃ fs,P.underlying tA=some (.struct fs)∧fs.toList.map (fun f=>(f.type,f.offset))=[(tI,0),(tB,1),(tC,2),(tC,7),(tSs,12),(tS,13),(tS,14),(tS,15)]
  axs:P.underlying tAs=some (.slice tA)
  p:∃ fs,P.underlying tP=some (.struct fs)∧fs.toList.map (fun f=>(f.type,f.offset))=[(tI,0),(tS,1),(tS,2),(tS,3),(tS,4),(tS,5),(tS,6),(tI,7),(tI,8),(tI,9)]
  ps:P.underlying tPs=some (.slice tP)
  ci:P.cellsOf tI=1
  cb:P.cellsOf tB=1
  cs1:P.cellsOf tS=1
  css:P.cellsOf tSs=1
  cc:P.cellsOf tC=5
  ccs:P.cellsOf tCs=1
  ca:P.cellsOf tA=16
  cp:P.cellsOf tP=10
  bs:P.bytesOf tS=16
  bc:P.bytesOf tC=64
  ba:P.bytesOf tA=216
  bp:P.bytesOf tP=128
section
variable {H:Type} {enc:TypeId×Value→H} {P:Program} {W:World} {tI tB tS tSs tC tCs tA tAs tP tPs:TypeId} (X:Tys P tI tB tS tSs tC tCs tA tAs tP tPs)
theorem fields_of {t:TypeId} {y:Array Field} {L:List (TypeId×Nat)} {cs:List Value} {n:Nat} {x:DataW H×List MemPlace} (C:P.underlying t=some (.struct y)) (v:y.toList.map (fun f=>(f.type,f.offset))=L) (h:DataW.trod enc P W 0 (fun _=>true) true n t cs=some x) :
    ∃ (xs:List (DataW H×List MemPlace)) (m:Nat),n=m+1∧x.1=.agg (xs.map (·.1))∧cs.length=P.cellsOf t∧xs.length=L.length∧(∀ (i:Nat) q,L[i]? = some q→DataW.trod enc P W 0 (fun _=>true) true m q.1 ((cs.drop q.2).take (P.cellsOf q.1))=xs[i]?) ∧
      (x.1.weights P t=DataW.weightsEach P (L.map (·.1)) (xs.map (·.1))):=by
  obtain⟨xs,m,F,A,hl,d,E⟩:=DataW.trod_struct C h;refine⟨xs,m,F,by rw[A],hl,by rw[d,← v];simp,fun i q B=>?_,?_⟩
  · rw[← v,List.getElem?_map,Option.map_eq_some_iff]at B
    obtain⟨f,e,rfl⟩:=B;exact E i f zbc_
  · rw[A];simp only[DataW.weights,C]
    congr 1
    rw[← v,List.map_map];rfl
include X
theorem rC_ {n:Nat} {cs:List Value} {x:DataW H×List MemPlace} (h:DataW.trod enc P W 0 (fun _=>true) true n tI cs=some x):∃ k:Int,cs=[.int .i64 k]∧-9223372036854775808≤k∧k≤9223372036854775807:=by
  obtain⟨k,d,_,e⟩:=DataW.trod_int X.i h;have:=bounds_i64 e;exact⟨k,d,this.1,this.2⟩
theorem Cz_ {n:Nat} {cs:List Value} {x:DataW H×List MemPlace} (h:DataW.trod enc P W 0 (fun _=>true) true n tB cs=some x):∃ b:Bool,cs=[.bool b]:=by
  obtain⟨b,d,_⟩:=DataW.trod_bool X.b h;exact⟨b,d⟩
theorem str_of {n:Nat} {cs:List Value} {x:DataW H×List MemPlace} (h:DataW.trod enc P W 0 (fun _=>true) true n tS cs=some x) (d:wok (x.1.weights P tS)):∃ s:Str,cs=[str s]∧s.length≤140737488351232:=by
  obtain⟨s,e,m,_⟩:=DataW.trod_string X.s h;rw[m]at d;simp[wok,DataW.weights,reachBytes]at d
  refine⟨s.data.toList,by rw[e];rfl,by have:=of_decide_eq_true d;simpa using this⟩
theorem Av_:∀ (n:Nat) (cs:List Value) (x:DataW H×List MemPlace),DataW.trod enc P W 0 (fun _=>true) true n tC cs=some x→wok (x.1.weights P tC)→∃ c:Con,cs=c.cells∧c.mem (vw W)∧c.ok:=by
 intro n
 induction n using Nat.strongRecOn with
 | ind n ih =>
   intro cs x h B;obtain⟨fs,Z,hL⟩:=X.c;obtain⟨xs,m,hn,hx,hl,e,A,G⟩:=fields_of Z hL h;rw[G]at B
   match xs,e with
   | [x0,x1,x2,x3,x4],_ =>
   simp only[List.map_cons,List.map_nil,DataW.weightsEach,fq_]at B;have S:=A 0 _ rfl;have Q:=A 1 _ rfl;have L:=A 2 _ rfl;have K:=A 3 _ rfl;have T:=A 4 _ rfl;simp only[List.getElem?_cons_zero,List.getElem?_cons_succ,X.ci,X.cs1,X.ccs]at S Q L K T;obtain⟨k,M,k1,k2⟩:=rC_ X S;obtain⟨nm,J,n1⟩:=str_of X Q B.2.1;obtain⟨lo,R,Y,l2⟩:=rC_ X L;obtain⟨hi,U,h1,h2⟩:=rC_ X K
   obtain⟨l,ad,cap,O,v,N,F,d⟩:=ro_ Con.cells 5 Con.cells_len zad_ (fun c=>c.mem (vw W)∧c.ok) X.cs X.cc (fun m' hm' C y hy E=>by
     obtain⟨c,g1,V,g3⟩:=ih m' zaa_ C y hy E;exact⟨c,g1,V,g3⟩) T B.2.2.2.2.1
   rw[X.cc]at hl
   match cs,hl with
   | [c0,c1,c2,c3,c4],_ =>
   simp only[List.drop_succ_cons,List.drop_zero,List.take_succ_cons,List.take_zero,List.cons.injEq,and_true]at M J R U O;subst M J R U O;refine⟨.mk k nm lo hi ad cap l,rfl,?_,k1,k2,n1,Y,l2,h1,h2,F,?_,Con.oks_iff.2 fun p I=>(N p I).2⟩
   · rw[Con.mem_iff];exact⟨v,fun p I=>(N p I).1⟩
   · rw[X.bc]at d;simp only[reachBytes]at d;omega
theorem Bp_ {n:Nat} {cs:List Value} {x:DataW H×List MemPlace} (h:DataW.trod enc P W 0 (fun _=>true) true n tSs cs=some x) (G:wok (x.1.weights P tSs)) :
    ∃ (l:List Str) (ad:Ao) (cap:Nat),cs=[.slice ad l.length cap]∧bY_ (vw W) ad (l.flatMap au_)∧(∀ s∈l,s.length≤140737488351232)∧l.length≤cap∧cap≤8796093021952:=by
  obtain⟨l,ad,cap,e,m,E,v,d⟩:=ro_ au_ 1 aY_ zad_ (fun s=>s.length≤140737488351232) X.ss X.cs1 (fun J _ B y F A=>by
    obtain⟨s,I,C⟩:=str_of X F A;exact⟨s,I,C⟩) h G
  rw[X.bs]at d;simp only[reachBytes]at d;exact⟨l,ad,cap,e,m,E,v,by omega⟩
theorem ax_of {n:Nat} {cs:List Value} {x:DataW H×List MemPlace} (h:DataW.trod enc P W 0 (fun _=>true) true n tA cs=some x) (d:wok (x.1.weights P tA)):∃ a:Ax,cs=a.cells∧a.mem (vw W)∧a.ok:=by
  obtain⟨fs,Z,hL⟩:=X.a;obtain⟨xs,m,hn,hx,hl,v,e,C⟩:=fields_of Z hL h;rw[C]at d
  match xs,v with
  | [x0,x1,x2,x3,x4,x5,x6,x7],_ =>
  simp only[List.map_cons,List.map_nil,DataW.weightsEach,fq_]at d;have O:=e 0 _ rfl;have K:=e 1 _ rfl;have G:=e 2 _ rfl;have F:=e 3 _ rfl;have U:=e 4 _ rfl;have M:=e 5 _ rfl;have S:=e 6 _ rfl;have Q:=e 7 _ rfl;simp only[List.getElem?_cons_zero,List.getElem?_cons_succ,X.ci,X.cb,X.cs1,X.cc,X.css]at O K G F U M S Q;obtain⟨k,I,k1,k2⟩:=rC_ X O;obtain⟨Y,E⟩:=Cz_ X K;obtain⟨le,N,m2,o2⟩:=Av_ X _ _ _ G d.2.2.1;obtain⟨ri,V,m3,o3⟩:=Av_ X _ _ _ F d.2.2.2.1;obtain⟨rs,ad,cap,J,y,hq,A,B⟩:=Bp_ X U d.2.2.2.2.1;obtain⟨ro,T,n5⟩:=str_of X M d.2.2.2.2.2.1;obtain⟨a,L,n6⟩:=str_of X S d.2.2.2.2.2.2.1;obtain⟨b,R,n7⟩:=str_of X Q d.2.2.2.2.2.2.2.1;rw[X.ca]at hl
  match cs,hl with
  | [c0,c1,c2,c3,c4,c5,c6,c7,c8,c9,c10,c11,c12,c13,c14,c15],_ =>
  simp only[List.drop_succ_cons,List.drop_zero,List.take_succ_cons,List.take_zero,List.cons.injEq,and_true,Con.cells]at I E N V J T L R;obtain⟨rfl,rfl,rfl,rfl,rfl⟩:=N;obtain⟨rfl,rfl,rfl,rfl,rfl⟩:=V;subst I E J T L R;exact⟨⟨k,Y,le,ri,ad,cap,rs,ro,a,b⟩,rfl,⟨m2,m3,y⟩,⟨k1,k2,o2,o3,A,Nat.le_trans A B,hq,n5,n6,n7⟩⟩
theorem axs_of {n:Nat} {cs:List Value} {x:DataW H×List MemPlace} (h:DataW.trod enc P W 0 (fun _=>true) true n tAs cs=some x) (I:wok (x.1.weights P tAs)) :
    ∃ (l:List Ax) (ad:Ao) (cap:Nat),cs=[.slice ad l.length cap]∧(ch_ ad l).p (vw W)∧(∀ y∈l,y.ok)∧l.length≤cap∧cap≤2199023255488:=by
  obtain⟨l,ad,cap,e,m,C,A,d⟩:=ro_ Ax.cells 16 Ax.cells_len zad_ (fun a=>a.mem (vw W)∧a.ok) X.axs X.ca (fun K _ E y v B=>by
    obtain⟨a,J,F,G⟩:=ax_of X v B;exact⟨a,J,F,G⟩) h I
  rw[X.ba]at d;simp only[reachBytes]at d;exact⟨l,ad,cap,e,⟨m,fun y v=>(C y v).1⟩,fun y v=>(C y v).2,A,by omega⟩
end
end Go.Vs
namespace Go.Vs
open Go Go.Sx Go.ChangeShapes Go.WideShapes Go.ChangeAt Go.RowKit
section
variable {H:Type} {enc:TypeId×Value→H} {P:Program} {w:World}
mutual
def fw_ {H:Type}:DataW H→List Value
  | .lit (.int k n)=>[.int k n]
  | .lit (.bool b)=>[.bool b]
  | .agg ps=>kW_ ps
  | _=>[]
def kW_ {H:Type}:List (DataW H)→List Value
  | []=>[]
  | d::r=>fw_ d++kW_ r
end
def id_ (P:Program):Nat→TypeId→Bool
  | 0,_=>false
  | n+1,t=>match P.underlying t with
    | some .bool=>true
    | some (.int _)=>true
    | some (.struct fs)=>fs.toList.all fun f=>id_ P n f.type
    | some (.array _ e)=>id_ P n e
    | _=>false
theorem ku_:∀ l:List (DataW H),kW_ l=l.flatMap fw_
  | []=>by simp[kW_]
  | d::r=>by simp only[kW_,ku_ r,List.flatMap_cons]
theorem tile:∀ (e:List Nat) (cs:List Value) (g:List (List Value)),cs.length=e.sum→g.length=e.length→(∀ j n,e[j]? = some n→some ((cs.drop (e.take j).sum).take n)=g[j]?)→cs=g.flatten
  | [],cs,g,h,hg,_=>by
    simp only[List.sum_nil]at h;have A:=List.eq_nil_of_length_eq_zero h;have B:g=[]:=List.eq_nil_of_length_eq_zero hg;simp[A,B]
  | n::e,cs,[],h,hg,hp=>by simp at hg
  | n::e,cs,x::g,h,hg,hp=>by
    have y:=hp 0 n rfl;simp only[List.take_zero,List.sum_nil,List.drop_zero,List.getElem?_cons_zero,Option.some.injEq]at y
    have E:=tile e (cs.drop n) g (by rw[List.length_drop,h];simp) (by simpa using hg) (fun j m C=>by
      have:=hp (j+1) m C;simp only[List.take_succ_cons,List.sum_cons,List.getElem?_cons_succ]at this;rw[← this,List.drop_drop])
    rw[List.flatten_cons,← E,← y,List.take_append_drop]
theorem zs_ {T:TypeId→Prop} {E:Bool} (K:Kids P T):∀ (n m:Nat) (t:TypeId) (cs:List Value) (x:DataW H×List MemPlace),T t→id_ P m t=true→DataW.trod enc P w 0 (fun _=>true) E n t cs=some x→cs=fw_ x.1:=by
 intro n
 induction n with
 | zero=>intro m t cs x _ _ h;simp[DataW.trod]at h
 | succ n ih =>
   intro m t cs x N C h;cases m with
   | zero=>simp[id_]at C
   | succ m =>
   cases hu:P.underlying t with
   | none=>simp[id_,hu]at C
   | some d =>
     cases d with
     | bool=>obtain⟨b,rfl,rfl⟩:=DataW.trod_bool hu h;simp[fw_]
     | int k=>obtain⟨b,rfl,rfl,_⟩:=DataW.trod_int hu h;simp[fw_]
     | struct fs =>
       obtain⟨xs,L,R,rfl,hl,y,J⟩:=DataW.trod_struct hu h;obtain rfl:L=n:=by omega
       obtain⟨k1,k2,O⟩:=K.struct N hu;simp only[id_,hu]at C;simp only[fw_];rw[ku_,List.flatMap_def,List.map_map];refine tile (fs.toList.map fun f=>P.cellsOf f.type) cs _ (by rw[hl,k2]) zbD_ fun j q B=>?_;rw[List.getElem?_map,Option.map_eq_some_iff]at B;obtain⟨f,A,rfl⟩:=B;have F:=J j f zaS_;have Q:=O j f A;have I:j<xs.length:=by rw[y];have:=(List.getElem?_eq_some_iff.1 A).1;simpa using this
       rw[List.getElem?_eq_getElem I]at F;have M:=ih m f.type _ _ (k1 f (List.mem_of_getElem? A)) (List.all_eq_true.1 C f (List.mem_of_getElem? A)) F;rw[List.getElem?_map,List.getElem?_eq_getElem I,← List.map_take,← Q,M];rfl
     | array len e =>
       obtain⟨xs,L,R,rfl,hl,y,J⟩:=DataW.trod_array hu h;obtain rfl:L=n:=by omega
       obtain⟨k1,k2⟩:=K.array N hu;simp only[id_,hu]at C;simp only[fw_];rw[ku_,List.flatMap_def,List.map_map];refine tile (List.replicate len (P.cellsOf e)) cs _ (by rw[hl,k2];simp) zbD_ fun j q B=>?_;rw[List.getElem?_replicate]at B
       split at B
       · rename_i I
         simp only[Option.some.injEq]at B;subst B;have F:=J j I;have G:j<xs.length:=by omega
         rw[List.getElem?_eq_getElem G]at F;have M:=ih m e _ _ k1 C F;rw[List.getElem?_map,List.getElem?_eq_getElem G,List.take_replicate,List.sum_replicate_nat,Nat.min_eq_left zaa_,M];rfl
       · cases B
     | _=>simp[id_,hu]at C
end
section
variable {H:Type} {enc:TypeId×Value→H} {P:Program} {W W':World}
theorem jY_:∀ {ts:List TypeId} {vs:List Value} {ds:List (DataW H)} {ps:List MemPlace} {sp:Nat→Bool},DataW.TrodAll enc P W 0 sp true ts vs ds ps→(∀ p∈ps,W.sameAt W' p)→DataW.TrodAll enc P W' 0 sp true ts vs ds ps
  | [],[],[],_,_,h,_=>h
  | _::_,_::_,_::_,_,_,⟨p,q,⟨n,h1⟩,h2,e⟩,hs=>⟨p,q,⟨n,DataW.trod_carry n _ _ _ h1 (fun x m=>hs x (by rw[e];exact List.mem_append_left _ m))⟩,jY_ h2 (fun x m=>hs x (by rw[e];exact List.mem_append_right _ m)),e⟩
theorem zP_ {T:TypeId→Prop} (K:Kids P T) (hz:∀ t e,T t→P.underlying t=some (.slice e)→0<P.cellsOf e) {f:Func} {s:ChangeSpec} {args:Array Value} {J:List (DataW H)} {before:List MemPlace} {Z:TypeId} (N:∀ t∈f.params.toList,T t) (m:s.vars=[])
    (U:DataW.Whole enc P f.params.toList s.vars false W args.toList J [] before) (L:s.fn H (J++[])={ results:=[.lit (.bool true)],args:=J }) (G:f.resultTypes=#[Z]) (R:P.underlying Z=some .bool) {I:Vw} (B:(vw W).to [] I []) :
    s.post enc P f false true false false W args (.bool true) I.w:=by
  have S:=U;obtain⟨p,q,M,V,Y,_,_⟩:=U;have hq:q=[]:=by rw[m]at V;exact V
  subst hq;simp only[List.append_nil]at Y;subst Y;have y:∀ b,b<W.heap.size→I.w.heap[b]? = W.heap[b]? := fun b R=>B.block b R zaf_
  have C:∀ x∈before,W.sameAt I.w x:=fun x Q=>by
    have F:=DataW.TrodAll.lt M x Q;cases x with
    | cell b off=>exact World.cell?_of_block (y b F)
    | map b=>exact y b F
  have O:=jY_ M C;have E:=DataW.TrodAll.respare K hz (spare':=fun b=>decide (b<W.heap.size)) N O (fun x Q=>by simpa using DataW.TrodAll.lt M x Q);refine⟨J,[],before,[],before,[],S,?_,?_,?_,⟨B.os,B.output,fun i hi=>?_⟩,fun h=>by cases h⟩
  · rw[L,G];exact trodAll_mk1 (shut_bool R true)
  · rw[L];exact E
  · rw[L,m];rfl
  · rw[y i hi]
    have A:∃ o,W.heap[i]? = some o:=⟨_,Array.getElem?_eq_getElem hi⟩;obtain⟨o,ho⟩:=A;rw[ho];cases o<;>simp
section
variable {tI tB tS tSs tC tCs tA tAs tP tPs:TypeId} (X:Tys P tI tB tS tSs tC tCs tA tAs tP tPs) {base:Nat} {v:Value} {d:DataW H} {ps:List MemPlace}
include X
end
theorem kQ_ {T:TypeId→Prop} (K:Kids P T) {name:String} {d:DataW Unit} {y:List (String×DataW Unit)} {W:World} (h:laidMet P y W) (hm:(name,d)∈y) {g:Nat} {t:TypeId} (M:P.globalNamed name=some g) (F:(P.globals[g]?).map (·.type)=some t) (N:T t) {m:Nat} (R:id_ P m t=true) :
    ∃ E fz,W.heap[g]? = some (.cells (fw_ d).toArray E fz):=by
  obtain⟨ps,hl,_,_⟩:=h
  have G:∀ (l:List (String×DataW Unit)) (ps:List MemPlace),DataW.LaidVars P W l ps→(name,d)∈l→∃ g t cs n p,P.globalNamed name=some g∧(P.globals[g]?).map (·.type)=some t∧W.var? P name=some cs∧DataW.trod (fun _=>()) P W 0 (fun _=>true) false n t cs.toList=some (d,p):=by
    intro l
    induction l with
    | nil=>intro ps _ h;cases h
    | cons x r ih =>
      intro ps h hm;obtain⟨V,U⟩:=x;obtain⟨g,t,cs,B,p,q,I,J,A,C,Q,_⟩:=h;rcases List.mem_cons.1 hm with e|hm
      · cases e;exact⟨g,t,cs,B,p,I,J,A,C⟩
      · exact ih q Q hm
  obtain⟨S,L,cs,n,p,I,J,A,C⟩:=G y ps hl hm;obtain rfl:S=g:=Option.some.inj (I.symm.trans M);obtain rfl:L=t:=Option.some.inj (J.symm.trans F);have e:=zs_ K n m L cs.toList _ N R C;simp only[World.var?,M,Option.bind_some]at A
  split at A
  · rename_i c E fz O
    simp only[Option.some.injEq]at A;subst A;exact⟨E,fz,by rw[O,← e]⟩
  · cases A
end
end Go.Vs
