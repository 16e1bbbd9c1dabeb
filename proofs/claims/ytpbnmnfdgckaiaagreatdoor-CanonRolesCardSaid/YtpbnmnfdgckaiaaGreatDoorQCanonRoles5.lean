/-
  Part of the proof of the law CanonRoles over this seat: the small logic, the data, the contracts of functions (no condition).
-/
import Derived.Test.YtpbnmnfdgckaiaaGreatDoorQCanonRoles4
import Derived.Test.YtpbnmnfdgckaiaaGreatDoorQCanonRoles2
import Derived.Test.YtpbnmnfdgckaiaaGreatDoorQCanonRoles3
import Derived.ProofKit
import Derived.OpenShut
import Derived.ReadAgain
import Derived.Deep.Slices
set_option linter.unusedVariables false
set_option linter.unusedSimpArgs false
set_option linter.unusedSectionVars false
set_option maxHeartbeats 1000000
namespace Go.Proofs.YtpbnmnfdgckaiaaGreatDoor
open Go Go.Sx Go.Proofs
attribute [local irreducible] Code.wp wpList wpAnyH
open Go.Vs
theorem rh_:hN_ Tryz.prog 40 [(0,1),(1,1),(2,1),(3,1),(4,1)] [.int .i64 0,str [],.int .i64 0,.int .i64 0,.slice none 0 0]:=⟨_,bT_,aC_,fun w=>by simp[ak_,E_,Tryz.sizeOf38]⟩
theorem mY_ {kb bk bs:Nat} {frm:Int}:∀ (d:Nat) (c:Con),c.sz≤d→c.ok→c.fine→∀ (l:List Pc) (q:CS),CInv l q→l.length+2*c.sz≤100000 →
    Tri Tryz.prog 154 #[c.val,zp_ bs 0,zp_ bk 0] (gv_ kb frm q) [c.memF,cj_,kF bk kb,lF bs bk] (fun _:{W:CS // CInv (c.leftP frm l) W}=>.tuple #[]) (fun W=>gv_ kb frm W.1) (fun _=>[]):=by
  intro d
  induction d with
  | zero=>intro c h;have:=c.sz_pos;omega
  | succ d ih =>
    intro c hd y Y l q V hl;have F:=Con.fields Y;have K:=F.le;have J:=F.mo;obtain⟨k,nm,lo,hi,ad,cap,ps⟩:=c;have R:=Con.ok_len y;have a3:(Con.mk k nm lo hi ad cap ps).sz=1+Con.sz.szs ps:=by simp only[Con.sz]
    have a0:=Con.szs_len ps;simp only[Con.parts,Con.cap,Con.kind]at R K J;refine i_ Tryz.func154 rfl rfl Tryz.ntmps154 rfl fun a2=>?_;refine Zz 2 ?_;refine aa_ rfl rfl fun C=>Zj 11 (fun M=>?_) fun M=>?_
    · skip
      refine Zj 6 (fun E=>?_) fun E=>?_
      · skip
        refine Zj 6 (fun I=>?_) fun I=>?_
        · skip
          refine Zz 6 ?_;exact cl_ Tryz.results154 ⟨q,(by rw[Con.leftP0 (c:=(.mk k nm lo hi ad cap ps)) zi_ zi_ zi_];exact V)⟩ rfl (F:=[_]) (@List.perm_append_comm _ [_] _) zt
        · skip
          refine Zz 4 ?_;refine ag_ [(C,.cells (Con.cells (Con.mk k nm lo hi ad cap ps)).toArray 40 (0,0))] zk ?_;refine J_ 4 [0,1,2,3,4,5,6,7] zk (fun _ a b=>⟨Vw.sat.sub a,b⟩) (N_ rfl (db_ (cs:=[zp_ kb 0]) oU_ rfl (fun v _ h=>h.2.2.1) rfl) rfl (Zz 8 ?_));refine s_ 8 rfl zk (g_ (dt_ (.mk k nm lo hi ad cap ps) y) rfl (.refl _) zf rfl fun _=>Zz 2 ?_);refine O_ (fun _ a b=>⟨Vw.sat.sub a,b⟩) (J_ 2 [9] zk (fun _ a b=>⟨Vw.sat.sub a,b⟩) (N_ rfl (H_ df_ rfl rfl) rfl (bv_ (s_ 10 rfl zk (U_ D_ F_ P_ rfl rfl rfl rfl rfl rfl fun L=>Zz 2 ?_)))));refine O_ (fun _ a b=>⟨Vw.sat.sub a.tail,b⟩) (s_ 11 rfl zk (g_ (ea_ ⟨9,[],[],Con.atom (.mk k nm lo hi ad cap ps),nm,[],[],lo,hi,0⟩ frm l q V za_) rfl (.cons _ (@List.perm_append_comm _ [_] _)) zt rfl fun x=>?_));obtain⟨G,A⟩:=x;refine z_ (@List.perm_append_comm _ _ [_]) (Zz 2 ?_);refine O_ (fun _ a b=>⟨Vw.sat.sub a,b⟩) (Zz 2 ?_);exact cl_ Tryz.results154 ⟨G,(by rw[Con.leftP7 (c:=(.mk k nm lo hi ad cap ps)) zi_];exact A)⟩ rfl (F:=[_]) (@List.perm_append_comm _ [_] _) zt
      · skip
        rw[E]at K J;simp[nd,ex_]at K J
        obtain⟨p,Q⟩:=List.length_eq_one_iff.1 (show ps.length=1 by omega);have B:ps[0]? = some p:=by rw[Q];rfl
        have m:p∈ps:=List.mem_of_getElem? B;refine Zz 5 ?_;refine ag_ [(C,.cells (Con.cells (Con.mk k nm lo hi ad cap ps)).toArray 40 (0,0))] zk ?_;refine J_ 1 [0,1,2,3,4] zk (fun _ a b=>⟨Vw.sat.sub a,b⟩) (N_ rfl (db_ (cs:=[lFn bs bk]) jy_ rfl (fun v _ h=>h.2.2.2.1) rfl) rfl (Zz 2 ?_));refine N_ rfl (Q_ ad_ I_ rfl rfl (fun v _ h=>as_ (n:=5) Con.cells_len ze_ (((Con.mem_iff (.mk k nm lo hi ad cap ps) v).1 h.1).1) B) za_ zg_) rfl ?_;refine N_ rfl (aj_ (ad:=ad) (us:=p.cells) aH_ I_ rfl (fun v _ h=>((Con.mem_iff (.mk k nm lo hi ad cap ps) v).1 h.1).1) (Con.cells_len _) (o_ Con.cells_len B)) rfl (bv_ (s_ 5 rfl zk (ap_ (ih p zat_ (Con.ok_part (c:=(.mk k nm lo hi ad cap ps)) y m) (Con.fine_part (c:=(.mk k nm lo hi ad cap ps)) Y m) l q V (by have:=Con.sz_at B;omega)) rfl rfl (@List.perm_append_comm _ [_] _) (fun v _ h=>by exact⟨Con.mem_part (c:=(.mk k nm lo hi ad cap ps)) h.1 m,h.2⟩) rfl fun x=>?_)));obtain⟨G,A⟩:=x;refine z_ (@List.perm_append_comm _ _ [_]) (Zz 2 ?_);refine O_ (fun _ a b=>⟨Vw.sat.sub a,b⟩) (Zz 2 ?_);refine ag_ [(C,.cells (Con.cells (Con.mk k nm lo hi ad cap ps)).toArray 40 (0,0))] zk ?_;refine J_ 5 [0,1,2,3,4,5,6,8] zk (fun _ a b=>⟨Vw.sat.sub a,b⟩) (N_ rfl (db_ (cs:=[zp_ kb 0]) oU_ rfl (fun v _ h=>h.2.2.1) rfl) rfl (Zz 4 ?_));refine N_ rfl (Q_ ad_ I_ rfl rfl (fun v _ h=>as_ (n:=5) Con.cells_len ze_ (((Con.mem_iff (.mk k nm lo hi ad cap ps) v).1 h.1).1) B) za_ zg_) rfl ?_;refine N_ rfl (aj_ (ad:=ad) (us:=p.cells) aH_ I_ rfl (fun v _ h=>((Con.mem_iff (.mk k nm lo hi ad cap ps) v).1 h.1).1) (Con.cells_len _) (o_ Con.cells_len B)) rfl (Zz 2 ?_);refine s_ 7 rfl zk (g_ (dt_ p (Con.ok_part (c:=(.mk k nm lo hi ad cap ps)) y m)) rfl (.refl _) (fun v _ h=>⟨Con.mem_part (c:=(.mk k nm lo hi ad cap ps)) h.1 m,h.2.1,trivial⟩) rfl fun _=>Zz 2 ?_);refine O_ (fun _ a b=>⟨Vw.sat.sub a,b⟩) (s_ 9 rfl zk (g_ (dt_ (.mk k nm lo hi ad cap ps) y) rfl (.refl _) zf rfl fun _=>Zz 2 ?_));refine O_ (fun _ a b=>⟨Vw.sat.sub a,b⟩) (J_ 2 [10] zk (fun _ a b=>⟨Vw.sat.sub a,b⟩) (N_ rfl (H_ df_ rfl rfl) rfl (bv_ (s_ 11 rfl zk (U_ D_ F_ P_ rfl rfl rfl rfl rfl rfl fun L=>Zz 2 ?_)))));refine O_ (fun _ a b=>⟨Vw.sat.sub a.tail,b⟩) (s_ 12 rfl zk (g_ (ea_ ⟨4,p.atom,[],Con.atom (.mk k nm lo hi ad cap ps),nm,[],[],0,0,0⟩ frm (p.leftP frm l) G A (by have:=Con.leftP_len frm _ p (Nat.le_refl _) l;have:=Con.sz_at B;omega)) rfl (.cons _ (@List.perm_append_comm _ [_] _)) zt rfl fun x=>?_));obtain⟨H,T⟩:=x;refine z_ (@List.perm_append_comm _ _ [_]) (Zz 2 ?_);refine O_ (fun _ a b=>⟨Vw.sat.sub a,b⟩) (Zz 2 ?_);exact cl_ Tryz.results154 ⟨H,(by rw[Con.leftP6 (c:=(.mk k nm lo hi ad cap ps)) (p:=p) zi_ Q];exact T)⟩ rfl (F:=[_]) (@List.perm_append_comm _ [_] _) zt
    · skip
      rw[M]at K J;simp[nd,ex_]at K J
      refine Zz 14 ?_;refine bt_ [(1,zp_ bs 0),(2,zp_ bk 0),(3,zp_ C 0),(15,.slice ad ps.length cap),(16,.int .i64 (ps.length:Int)),(17,.int .i64 ((0:Nat):Int))] zl ?_;refine bQ_ (ι:={x:Nat×CS // x.1≤ps.length∧CInv (Con.leftP.lefts frm (ps.take x.1) l) x.2}) (fun x=>[(1,zp_ bs 0),(2,zp_ bk 0),(3,zp_ C 0),(15,.slice ad ps.length cap),(16,.int .i64 (ps.length:Int)),(17,.int .i64 (x.1.1:Int))]) (fun x=>_::gv_ kb frm x.1.2) (fun _=>_) (fun x=>ps.length - x.1.1) ⟨(0,q),by simp,by simpa [Con.leftP.lefts] using V⟩ ?_;rintro ⟨⟨i,G⟩,hk⟩;dsimp only at hk;refine bt_ [(1,zp_ bs 0),(2,zp_ bk 0),(3,zp_ C 0),(15,.slice ad ps.length cap),(16,.int .i64 (ps.length:Int)),(17,.int .i64 (i:Int))] zl ?_;refine Zj 2 (fun E=>?_) fun E=>?_
      · skip
        obtain rfl:i=ps.length:=by omega
        rw[List.take_length]at hk;obtain⟨p,B⟩:∃ p,ps[0]? = some p:=⟨_,List.getElem?_eq_getElem (show 0<ps.length by omega)⟩;have m:p∈ps:=List.mem_of_getElem? B;refine Zz 10 ?_;refine e_ (Q_ ad_ I_ rfl rfl (fun v _ h=>as_ (n:=5) Con.cells_len ze_ (((Con.mem_iff (.mk k nm lo hi ad cap ps) v).1 h.1).1) B) za_ zg_) rfl ?_;refine e_ (aj_ (ad:=ad) (us:=p.cells) aH_ I_ rfl (fun v _ h=>((Con.mem_iff (.mk k nm lo hi ad cap ps) v).1 h.1).1) (Con.cells_len _) (o_ Con.cells_len B)) rfl (g_ (dt_ p (Con.ok_part (c:=(.mk k nm lo hi ad cap ps)) y m)) rfl (.refl _) (fun v _ h=>⟨Con.mem_part (c:=(.mk k nm lo hi ad cap ps)) h.1 m,h.2.1,trivial⟩) rfl fun _=>Zz 7 ?_);refine e_ (dE_ (i:=1) (j:=ps.length) (kl:=.i64) (kh:=.i64) ad_ I_ rfl rfl rfl za_ (by first|omega|(simp only[Con.cap];omega))) rfl ?_;refine Zz 5 ?_;refine bt_ [(1,zp_ bs 0),(2,zp_ bk 0),(3,zp_ C 0),(6,str p.atom),(32,.slice (sad ad cap 1 5) (ps.length - 1) (cap - 1)),(33,.int .i64 ((ps.length - 1:Nat):Int)),(34,.int .i64 ((0:Nat):Int))] zl ?_;have Z:=Con.headD_atom B;have U:=Con.lefts_len frm ps ps.length l;rw[List.take_length]at U;generalize p.atom=f0 at Z ⊢
        refine bQ_ (ι:={x:Nat×Str×List Pc×CS // x.1≤ps.length - 1∧CInv x.2.2.1 x.2.2.2∧x.2.2.1.length≤(Con.leftP.lefts frm ps l).length+x.1∧Con.andP frm (.mk k nm lo hi ad cap ps) (ps.drop 1) 1 f0 (Con.leftP.lefts frm ps l)=Con.andP frm (.mk k nm lo hi ad cap ps) (ps.drop (1+x.1)) (1+x.1) x.2.1 x.2.2.1}) (fun x=>[(1,zp_ bs 0),(2,zp_ bk 0),(3,zp_ C 0),(6,str x.1.2.1),(32,.slice (sad ad cap 1 5) (ps.length - 1) (cap - 1)),(33,.int .i64 ((ps.length - 1:Nat):Int)),(34,.int .i64 (x.1.1:Int))]) (fun x=>_::gv_ kb frm x.1.2.2.2) (fun _=>_) (fun x=>ps.length - 1 - x.1.1) ⟨(0,f0,(Con.leftP.lefts frm ps l),G),by simp,hk.2,by simp,rfl⟩ ?_;rintro ⟨⟨i,f,P,H⟩,S⟩;dsimp only at S;refine bt_ [(1,zp_ bs 0),(2,zp_ bk 0),(3,zp_ C 0),(6,str f),(32,.slice (sad ad cap 1 5) (ps.length - 1) (cap - 1)),(33,.int .i64 ((ps.length - 1:Nat):Int)),(34,.int .i64 (i:Int))] zl ?_;refine Zj 2 (fun I=>?_) fun I=>?_
        · skip
          refine Zz 6 ?_;exact cl_ Tryz.results154 ⟨H,(by have e:=S.2.2.2;rw[List.drop_of_length_le (show ps.length≤1+i by omega)]at e;rw[Con.leftP5 (c:=(.mk k nm lo hi ad cap ps)) zi_];simp only[Con.parts,Z];rw[e];exact S.2.1)⟩ rfl (F:=[_]) (@List.perm_append_comm _ [_] _) zt
        · skip
          have O:i<ps.length - 1:=by omega
          obtain⟨p,B⟩:∃ p,(ps.drop 1)[i]? = some p:=⟨_,List.getElem?_eq_getElem zn_⟩;have N:ps[1+i]? = some p:=by rw[← List.getElem?_drop];exact B
          have m:p∈ps:=List.mem_of_getElem? N;refine Zz 11 ?_;refine e_ (Q_ ad_ I_ rfl rfl (fun v _ h=>as_ (n:=5) Con.cells_len ze_ ((Con.mem_tail (c:=(.mk k nm lo hi ad cap ps)) y h.1)) B) za_ zg_) rfl ?_;refine e_ (aj_ (ad:=(sad ad cap 1 5)) (us:=p.cells) aH_ I_ rfl (fun v _ h=>(Con.mem_tail (c:=(.mk k nm lo hi ad cap ps)) y h.1)) (Con.cells_len _) (o_ Con.cells_len B)) rfl (G_ bT_ rfl fun L=>Zz 1 ?_);refine fd_ 0 I_ rfl rfl rfl rfl (Zz 8 ?_);refine e_ (ar_ (dE_ (i:=0) (j:=i+2) (kl:=.i64) (kh:=.i64) ad_ I_ rfl rfl rfl za_ (by first|omega|(simp only[Con.cap];omega))) (show _=Value.slice (sad ad cap 0 5) (ps.take (i+2)).length (cap - 0) by rw[List.length_take,Nat.min_eq_left za_];rfl)) rfl ?_;refine e_ (H_ rh_ rfl rfl) rfl (g_ (dt_ (Con.pre (.mk k nm lo hi ad cap ps) (i+2)) (Con.pre_ok y _)) rfl (.refl _) (fun v _ h=>⟨Con.pre_mem y h.1 _,h.2.1,trivial⟩) rfl fun _=>Zz 4 ?_);refine ag_ [(L,.cells p.cells.toArray 40 (0,0)),(C,.cells (Con.cells (Con.mk k nm lo hi ad cap ps)).toArray 40 (0,0))] zk ?_;refine J_ 4 [0,1,2,4] zk (fun _ a b=>⟨Vw.sat.sub a,b⟩) (N_ rfl (db_ (cs:=[zp_ kb 0]) oU_ rfl (fun v _ h=>h.2.2.1) rfl) rfl (Zz 1 ?_));refine N_ rfl (dc_ 0 aH_ I_ rfl rfl) rfl (Zz 2 ?_);refine s_ 3 rfl zk (g_ (dt_ p (Con.ok_part (c:=(.mk k nm lo hi ad cap ps)) y m)) rfl (.refl _) (fun v _ h=>⟨Con.mem_part (c:=(.mk k nm lo hi ad cap ps)) h.1 m,h.2.1,trivial⟩) rfl fun _=>Zz 2 ?_);refine O_ (fun _ a b=>⟨Vw.sat.sub a,b⟩) (J_ 2 [5] zk (fun _ a b=>⟨Vw.sat.sub a,b⟩) (N_ rfl (H_ df_ rfl rfl) rfl (bv_ (s_ 6 rfl zk (U_ D_ F_ P_ rfl rfl rfl rfl rfl rfl fun a1=>Zz 2 ?_)))));refine O_ (fun _ a b=>⟨Vw.sat.sub a.tail,b⟩) (s_ 7 rfl zk (g_ (ea_ ⟨2,f,p.atom,(Con.pre (.mk k nm lo hi ad cap ps) (i+2)).atom,[],[],[],0,0,0⟩ frm P H S.2.1 za_) rfl (.cons _ (@List.perm_append_comm _ [_,_] _)) zt rfl fun x=>?_));obtain⟨X,A⟩:=x;refine z_ (@List.perm_append_comm _ _ [_,_]) (Zz 2 ?_);refine O_ (fun _ a b=>⟨Vw.sat.sub a,b⟩) (Zz 12 ?_);exact x_ ⟨(i+1,(Con.pre (.mk k nm lo hi ad cap ps) (i+2)).atom,(ins frm P ⟨2,f,p.atom,(Con.pre (.mk k nm lo hi ad cap ps) (i+2)).atom,[],[],[],0,0,0⟩),X),by omega,A,by have:=bw_ frm P ⟨2,f,p.atom,(Con.pre (.mk k nm lo hi ad cap ps) (i+2)).atom,[],[],[],0,0,0⟩;dsimp only;omega,by rw[S.2.2.2,Con.drop_at N];simp only[Con.andP];rw[show 1+i+1=i+2 by omega,show 1+(i+1)=i+2 by omega]⟩ zn_ zl (F:=[_]) (@List.perm_append_comm _ [_] _) zh
      · skip
        have O:i<ps.length:=by omega
        obtain⟨p,B⟩:∃ p,ps[i]? = some p:=⟨_,List.getElem?_eq_getElem O⟩;have m:p∈ps:=List.mem_of_getElem? B;refine Zz 10 ?_;refine e_ (Q_ ad_ I_ rfl rfl (fun v _ h=>as_ (n:=5) Con.cells_len ze_ (((Con.mem_iff (.mk k nm lo hi ad cap ps) v).1 h.1).1) B) za_ zg_) rfl ?_;refine e_ (aj_ (ad:=ad) (us:=p.cells) aH_ I_ rfl (fun v _ h=>((Con.mem_iff (.mk k nm lo hi ad cap ps) v).1 h.1).1) (Con.cells_len _) (o_ Con.cells_len B)) rfl (G_ bT_ rfl fun L=>fd_ 0 I_ rfl rfl rfl rfl (Zz 3 ?_));refine e_ (db_ (cs:=[lFn bs bk]) jy_ rfl (fun v _ h=>h.2.2.2.1) rfl) rfl (e_ (dc_ 0 aH_ I_ rfl rfl) rfl (ap_ (ih p zat_ (Con.ok_part (c:=(.mk k nm lo hi ad cap ps)) y m) (Con.fine_part (c:=(.mk k nm lo hi ad cap ps)) Y m) (Con.leftP.lefts frm (ps.take i) l) G hk.2 (by have:=Con.lefts_len frm ps i l;have:=Con.sz_at B;omega)) rfl rfl (@List.perm_append_comm _ [_,_] _) (fun v _ h=>by exact⟨Con.mem_part (c:=(.mk k nm lo hi ad cap ps)) h.1 m,h.2⟩) rfl fun x=>?_));obtain⟨H,A⟩:=x;refine z_ (@List.perm_append_comm _ _ [_,_]) (Zz 7 ?_);exact x_ ⟨(i+1,H),O,by rw[Con.lefts_step frm B];exact A⟩ zn_ zl (F:=[_]) (@List.perm_append_comm _ [_] _) zh
theorem jI_ {kb bk bs:Nat} {frm:Int}:∀ (d:Nat) (c:Con),c.sz≤d→c.ok→c.fine→∀ (l:List Pc) (q:CS),CInv l q→l.length+2*c.sz≤100000 →
    Tri Tryz.prog 155 #[c.val,zp_ bk 0,zp_ bs 0] (gv_ kb frm q) [c.memF,cj_,kF bk kb,rcF bs bk] (fun _:{R:CS // CInv (c.rightP frm l) R}=>.tuple #[]) (fun R=>gv_ kb frm R.1) (fun _=>[]):=by
  intro d
  induction d with
  | zero=>intro c h;have:=c.sz_pos;omega
  | succ d ih =>
    intro c Y y T l q Q hl;have F:=Con.fields T;have I:=F.le;have H:=F.mo;obtain⟨k,nm,lo,hi,ad,cap,ps⟩:=c;have P:=Con.ok_len y;have X:(Con.mk k nm lo hi ad cap ps).sz=1+Con.sz.szs ps:=by simp only[Con.sz]
    have U:=Con.szs_len ps;simp only[Con.parts,Con.cap,Con.kind]at P I H;refine i_ Tryz.func155 rfl rfl Tryz.ntmps155 rfl fun W=>?_;refine Zz 2 ?_;refine aa_ rfl rfl fun A=>Zj 11 (fun J=>?_) fun J=>?_
    · skip
      refine Zj 6 (fun B=>?_) fun B=>?_
      · skip
        refine Zj 6 (fun N=>?_) fun N=>?_
        · skip
          refine Zz 6 ?_;exact cl_ Tryz.results155 ⟨q,(by rw[Con.rightP0 (c:=(.mk k nm lo hi ad cap ps)) zi_ zi_ zi_];exact Q)⟩ rfl (F:=[_]) (@List.perm_append_comm _ [_] _) zt
        · skip
          refine Zz 4 ?_;refine ag_ [(A,.cells (Con.cells (Con.mk k nm lo hi ad cap ps)).toArray 40 (0,0))] zk ?_;refine J_ 4 [0,1,3,4,5,6,7,8] zk (fun _ a b=>⟨Vw.sat.sub a,b⟩) (N_ rfl (db_ (cs:=[zp_ kb 0]) oU_ rfl (fun v _ h=>h.2.2.1) rfl) rfl (Zz 8 ?_));refine s_ 2 rfl zk (g_ (dt_ (.mk k nm lo hi ad cap ps) y) rfl (.refl _) zf rfl fun _=>Zz 2 ?_);refine O_ (fun _ a b=>⟨Vw.sat.sub a,b⟩) (J_ 2 [9] zk (fun _ a b=>⟨Vw.sat.sub a,b⟩) (N_ rfl (H_ df_ rfl rfl) rfl (bv_ (s_ 10 rfl zk (U_ D_ F_ P_ rfl rfl rfl rfl rfl rfl fun L=>Zz 2 ?_)))));refine O_ (fun _ a b=>⟨Vw.sat.sub a.tail,b⟩) (s_ 11 rfl zk (g_ (ea_ ⟨8,Con.atom (.mk k nm lo hi ad cap ps),[],[],nm,[],[],lo,hi,0⟩ frm l q Q za_) rfl (.cons _ (@List.perm_append_comm _ [_] _)) zt rfl fun x=>?_));obtain⟨C,m⟩:=x;refine z_ (@List.perm_append_comm _ _ [_]) (Zz 2 ?_);refine O_ (fun _ a b=>⟨Vw.sat.sub a,b⟩) (Zz 2 ?_);exact cl_ Tryz.results155 ⟨C,(by rw[Con.rightP7 (c:=(.mk k nm lo hi ad cap ps)) zi_];exact m)⟩ rfl (F:=[_]) (@List.perm_append_comm _ [_] _) zt
      · skip
        rw[B]at I H;simp[nd,ex_]at I H
        obtain⟨p,M⟩:=List.length_eq_one_iff.1 (show ps.length=1 by omega);have E:ps[0]? = some p:=by rw[M];rfl
        have e:p∈ps:=List.mem_of_getElem? E;refine Zz 5 ?_;refine ag_ [(A,.cells (Con.cells (Con.mk k nm lo hi ad cap ps)).toArray 40 (0,0))] zk ?_;refine J_ 5 [0,1,3,4,5,6,7,8] zk (fun _ a b=>⟨Vw.sat.sub a,b⟩) (N_ rfl (db_ (cs:=[zp_ kb 0]) oU_ rfl (fun v _ h=>h.2.2.1) rfl) rfl (Zz 5 ?_));refine N_ rfl (Q_ ad_ I_ rfl rfl (fun v _ h=>as_ (n:=5) Con.cells_len ze_ (((Con.mem_iff (.mk k nm lo hi ad cap ps) v).1 h.1).1) E) za_ zg_) rfl ?_;refine N_ rfl (aj_ (ad:=ad) (us:=p.cells) aH_ I_ rfl (fun v _ h=>((Con.mem_iff (.mk k nm lo hi ad cap ps) v).1 h.1).1) (Con.cells_len _) (o_ Con.cells_len E)) rfl (bv_ (s_ 2 rfl zk (g_ (dt_ (.mk k nm lo hi ad cap ps) y) rfl (.refl _) zf rfl fun _=>Zz 2 ?_)));refine O_ (fun _ a b=>⟨Vw.sat.sub a,b⟩) (s_ 9 rfl zk (g_ (dt_ p (Con.ok_part (c:=(.mk k nm lo hi ad cap ps)) y e)) rfl (.refl _) (fun v _ h=>⟨Con.mem_part (c:=(.mk k nm lo hi ad cap ps)) h.1 e,h.2.1,trivial⟩) rfl fun _=>Zz 2 ?_));refine O_ (fun _ a b=>⟨Vw.sat.sub a,b⟩) (J_ 2 [10] zk (fun _ a b=>⟨Vw.sat.sub a,b⟩) (N_ rfl (H_ df_ rfl rfl) rfl (bv_ (s_ 11 rfl zk (U_ D_ F_ P_ rfl rfl rfl rfl rfl rfl fun L=>Zz 2 ?_)))));refine O_ (fun _ a b=>⟨Vw.sat.sub a.tail,b⟩) (s_ 12 rfl zk (g_ (ea_ ⟨3,Con.atom (.mk k nm lo hi ad cap ps),[],p.atom,nm,[],[],0,0,0⟩ frm l q Q za_) rfl (.cons _ (@List.perm_append_comm _ [_] _)) zt rfl fun x=>?_));obtain⟨C,m⟩:=x;refine z_ (@List.perm_append_comm _ _ [_]) (Zz 2 ?_);refine O_ (fun _ a b=>⟨Vw.sat.sub a,b⟩) (Zz 2 ?_);refine ag_ [(A,.cells (Con.cells (Con.mk k nm lo hi ad cap ps)).toArray 40 (0,0))] zk ?_;refine J_ 1 [0,1,2,3,4] zk (fun _ a b=>⟨Vw.sat.sub a,b⟩) (N_ rfl (db_ (cs:=[rFn bs bk]) jy_ rfl (fun v _ h=>h.2.2.2.1) rfl) rfl (Zz 2 ?_));refine N_ rfl (Q_ ad_ I_ rfl rfl (fun v _ h=>as_ (n:=5) Con.cells_len ze_ (((Con.mem_iff (.mk k nm lo hi ad cap ps) v).1 h.1).1) E) za_ zg_) rfl ?_;refine N_ rfl (aj_ (ad:=ad) (us:=p.cells) aH_ I_ rfl (fun v _ h=>((Con.mem_iff (.mk k nm lo hi ad cap ps) v).1 h.1).1) (Con.cells_len _) (o_ Con.cells_len E)) rfl (bv_ (s_ 5 rfl zk (ap_ (ih p zau_ (Con.ok_part (c:=(.mk k nm lo hi ad cap ps)) y e) (Con.fine_part (c:=(.mk k nm lo hi ad cap ps)) T e) (ins frm l ⟨3,Con.atom (.mk k nm lo hi ad cap ps),[],p.atom,nm,[],[],0,0,0⟩) C m (by have:=bw_ frm l ⟨3,Con.atom (.mk k nm lo hi ad cap ps),[],p.atom,nm,[],[],0,0,0⟩;have:=Con.sz_at E;omega)) rfl rfl (@List.perm_append_comm _ [_] _) (fun v _ h=>by exact⟨Con.mem_part (c:=(.mk k nm lo hi ad cap ps)) h.1 e,h.2⟩) rfl fun x=>?_)));obtain⟨K,G⟩:=x;refine z_ (@List.perm_append_comm _ _ [_]) (Zz 2 ?_);refine O_ (fun _ a b=>⟨Vw.sat.sub a,b⟩) (Zz 2 ?_);exact cl_ Tryz.results155 ⟨K,(by rw[Con.rightP6 (c:=(.mk k nm lo hi ad cap ps)) (p:=p) zi_ M];exact G)⟩ rfl (F:=[_]) (@List.perm_append_comm _ [_] _) zt
    · skip
      rw[J]at I H;simp[nd,ex_]at I H
      refine Zz 13 ?_;refine bt_ [(1,zp_ bk 0),(2,zp_ bs 0),(3,zp_ A 0),(11,.slice ad ps.length cap),(12,.int .i64 (ps.length:Int)),(13,.int .i64 ((0:Nat):Int))] zl ?_;refine bQ_ (ι:={x:Nat×CS // x.1≤ps.length∧CInv (Con.rightP.rights frm (Con.atom (.mk k nm lo hi ad cap ps)) (ps.take x.1) l) x.2}) (fun x=>[(1,zp_ bk 0),(2,zp_ bs 0),(3,zp_ A 0),(11,.slice ad ps.length cap),(12,.int .i64 (ps.length:Int)),(13,.int .i64 (x.1.1:Int))]) (fun x=>_::gv_ kb frm x.1.2) (fun _=>_) (fun x=>ps.length - x.1.1) ⟨(0,q),by simp,by simpa [Con.rightP.rights] using Q⟩ ?_;rintro ⟨⟨i,C⟩,hk⟩;dsimp only at hk;refine bt_ [(1,zp_ bk 0),(2,zp_ bs 0),(3,zp_ A 0),(11,.slice ad ps.length cap),(12,.int .i64 (ps.length:Int)),(13,.int .i64 (i:Int))] zl ?_;refine Zj 2 (fun B=>?_) fun B=>?_
      · skip
        obtain rfl:i=ps.length:=by omega
        rw[List.take_length]at hk;refine Zz 6 ?_;exact cl_ Tryz.results155 ⟨C,(by rw[Con.rightP5 (c:=(.mk k nm lo hi ad cap ps)) zi_];exact hk.2)⟩ rfl (F:=[_]) (@List.perm_append_comm _ [_] _) zt
      · skip
        have O:i<ps.length:=by omega
        obtain⟨p,E⟩:∃ p,ps[i]? = some p:=⟨_,List.getElem?_eq_getElem O⟩;have e:p∈ps:=List.mem_of_getElem? E;refine Zz 10 ?_;refine e_ (Q_ ad_ I_ rfl rfl (fun v _ h=>as_ (n:=5) Con.cells_len ze_ (((Con.mem_iff (.mk k nm lo hi ad cap ps) v).1 h.1).1) E) za_ zg_) rfl ?_;refine e_ (aj_ (ad:=ad) (us:=p.cells) aH_ I_ rfl (fun v _ h=>((Con.mem_iff (.mk k nm lo hi ad cap ps) v).1 h.1).1) (Con.cells_len _) (o_ Con.cells_len E)) rfl (G_ bT_ rfl fun L=>fd_ 0 I_ rfl rfl rfl rfl (Zz 3 ?_));refine ag_ [(L,.cells p.cells.toArray 40 (0,0)),(A,.cells (Con.cells (Con.mk k nm lo hi ad cap ps)).toArray 40 (0,0))] zk ?_;refine J_ 5 [0,1,3] zk (fun _ a b=>⟨Vw.sat.sub a,b⟩) (N_ rfl (db_ (cs:=[zp_ kb 0]) oU_ rfl (fun v _ h=>h.2.2.1) rfl) rfl (Zz 1 ?_));refine N_ rfl (dc_ 0 aH_ I_ rfl rfl) rfl (bv_ (s_ 2 rfl zk (g_ (dt_ (.mk k nm lo hi ad cap ps) y) rfl (.refl _) zf rfl fun _=>Zz 2 ?_)));refine O_ (fun _ a b=>⟨Vw.sat.sub a,b⟩) (s_ 4 rfl zk (g_ (dt_ p (Con.ok_part (c:=(.mk k nm lo hi ad cap ps)) y e)) rfl (.refl _) (fun v _ h=>⟨Con.mem_part (c:=(.mk k nm lo hi ad cap ps)) h.1 e,h.2.1,trivial⟩) rfl fun _=>Zz 2 ?_));refine O_ (fun _ a b=>⟨Vw.sat.sub a,b⟩) (J_ 2 [5] zk (fun _ a b=>⟨Vw.sat.sub a,b⟩) (N_ rfl (H_ df_ rfl rfl) rfl (bv_ (s_ 6 rfl zk (U_ D_ F_ P_ rfl rfl rfl rfl rfl rfl fun V=>Zz 2 ?_)))));refine O_ (fun _ a b=>⟨Vw.sat.sub a.tail,b⟩) (s_ 7 rfl zk (g_ (ea_ ⟨1,Con.atom (.mk k nm lo hi ad cap ps),[],p.atom,[],[],[],0,0,0⟩ frm (Con.rightP.rights frm (Con.atom (.mk k nm lo hi ad cap ps)) (ps.take i) l) C hk.2 (by have:=Con.rights_len frm (Con.atom (.mk k nm lo hi ad cap ps)) ps i l;have:=Con.sz_at E;have:=p.sz_pos;omega)) rfl (.cons _ (@List.perm_append_comm _ [_,_] _)) zt rfl fun x=>?_));obtain⟨K,m⟩:=x;refine z_ (@List.perm_append_comm _ _ [_,_]) (Zz 2 ?_);refine O_ (fun _ a b=>⟨Vw.sat.sub a,b⟩) (Zz 3 ?_);refine e_ (db_ (cs:=[rFn bs bk]) jy_ rfl (fun v _ h=>h.2.2.2.1) rfl) rfl (e_ (dc_ 0 aH_ I_ rfl rfl) rfl (ap_ (ih p zau_ (Con.ok_part (c:=(.mk k nm lo hi ad cap ps)) y e) (Con.fine_part (c:=(.mk k nm lo hi ad cap ps)) T e) (ins frm (Con.rightP.rights frm (Con.atom (.mk k nm lo hi ad cap ps)) (ps.take i) l) ⟨1,Con.atom (.mk k nm lo hi ad cap ps),[],p.atom,[],[],[],0,0,0⟩) K m (by have:=Con.rights_len frm (Con.atom (.mk k nm lo hi ad cap ps)) ps i l;have:=Con.sz_at E;have:=bw_ frm (Con.rightP.rights frm (Con.atom (.mk k nm lo hi ad cap ps)) (ps.take i) l) ⟨1,(Con.atom (.mk k nm lo hi ad cap ps)),[],p.atom,[],[],[],0,0,0⟩;omega)) rfl rfl (@List.perm_append_comm _ [_,_] _) (fun v _ h=>by exact⟨Con.mem_part (c:=(.mk k nm lo hi ad cap ps)) h.1 e,h.2⟩) rfl fun x=>?_));obtain⟨S,G⟩:=x;refine z_ (@List.perm_append_comm _ _ [_,_]) (Zz 7 ?_);exact x_ ⟨(i+1,S),O,by rw[Con.rights_step frm _ E];exact G⟩ zn_ zl (F:=[_]) (@List.perm_append_comm _ [_] _) zh
theorem xT_ (x:Ax) (K:x.ok) (hc:x.check=0) {kb:Nat} (frm:Int) (q:CS) (hq:CInv [] q) :
    Tri Tryz.prog 70 #[zp_ kb 0,x.val] (gv_ kb frm q) [x.memF,cj_] (fun _:{q':CS // CInv (x.pieces frm) q'}=>.tuple #[]) (fun q'=>gv_ kb frm q'.1) (fun _=>[]):=by
  have G:=Ax.good_of hc;obtain⟨k,T,⟨kl,I,H,hl,al,cl,pl⟩,⟨E,B,d,y,A,m,C⟩,ad,cap,L,ro,a,b⟩:=x;have hlen:=K.len;have hcap:=K.cap;have h_1:=G.k1;have h_2:=G.k9;have h_3:([]:List Pc).length=0:=rfl;dsimp only at hlen hcap h_1 h_2;show Tri Tryz.prog 70 #[zp_ kb 0,.agg (Ax.cells (Ax.mk k T (Con.mk kl I H hl al cl pl) (Con.mk E B d y A m C) ad cap L ro a b)).toArray] _ _ _ _ _
  refine i_ Tryz.func70 rfl rfl Tryz.ntmps70 rfl fun v_1=>?_;refine Zz 2 ?_;refine aa_ rfl rfl fun R=>Zz 5 ?_
  refine g_ (wO_ kb) rfl (.refl _) zt rfl fun x=>?_;obtain⟨bk,bl,br⟩:=x;refine Zj 16 (fun hr_1=>?_) fun hr_1=>?_
  · skip
    refine Zj 6 (fun hr_2=>?_) fun hr_2=>?_
    · skip
      refine Zj 6 (fun hr_3=>?_) fun hr_3=>?_
      · skip
        refine Zj 6 (fun hr_4=>?_) fun hr_4=>?_
        · skip
          refine Zj 6 (fun hr_5=>?_) fun hr_5=>?_
          · skip
            refine Zj 6 (fun V=>?_) fun V=>?_
            · skip
              refine Zj 6 (fun U=>?_) fun U=>?_
              · skip
                refine Zj 6 (fun hr_8=>?_) fun hr_8=>?_
                · skip
                  refine Zj 6 (fun a0=>?_) fun a0=>?_
                  · skip
                    exfalso;omega
                  · skip
                    refine Zz 4 ?_;refine ag_ [(R,.cells (Ax.cells (Ax.mk k T (Con.mk kl I H hl al cl pl) (Con.mk E B d y A m C) ad cap L ro a b)).toArray 42 (0,0))] zk ?_;refine J_ 5 [0,1,2,4,5,6,7] zk (fun _ a b=>⟨Vw.sat.sub a,b⟩) (Zz 8 ?_);refine s_ 3 rfl zk (g_ (fF_ a K.a) rfl (.refl _) zt rfl fun _=>Zz 2 ?_);refine O_ (fun _ a b=>⟨Vw.sat.sub a,b⟩) (s_ 8 rfl zk (g_ (fF_ b K.b) rfl (.refl _) zt rfl fun _=>Zz 2 ?_));refine O_ (fun _ a b=>⟨Vw.sat.sub a,b⟩) (J_ 2 [9] zk (fun _ a b=>⟨Vw.sat.sub a,b⟩) (N_ rfl (H_ df_ rfl rfl) rfl (bv_ (s_ 10 rfl zk (U_ D_ F_ P_ rfl rfl rfl rfl rfl rfl fun S=>Zz 2 ?_)))));refine O_ (fun _ a b=>⟨Vw.sat.sub a.tail,b⟩) (s_ 11 rfl zk (g_ (ea_ ⟨3,([123]++a++[125]),[],([123]++b++[125]),ro,[],[],0,0,0⟩ frm [] q hq za_) rfl (.cons _ (@List.perm_append_comm _ [_] _)) zt rfl fun x=>?_));obtain⟨M,J⟩:=x;have N:=bw_ frm [] ⟨3,([123]++a++[125]),[],([123]++b++[125]),ro,[],[],0,0,0⟩;refine z_ (@List.perm_append_comm _ _ [_]) (Zz 2 ?_);refine O_ (fun _ a b=>⟨Vw.sat.sub a,b⟩) (Zz 2 ?_)
                    have e:Ax.pieces frm ⟨k,T,(.mk kl I H hl al cl pl),(.mk E B d y A m C),ad,cap,L,ro,a,b⟩=(ins frm [] ⟨3,([123]++a++[125]),[],([123]++b++[125]),ro,[],[],0,0,0⟩):=by
                      unfold Ax.pieces;dsimp only
                      repeat (first|rfl|(rw[if_pos za_])|(rw[if_neg za_]))
                    exact cl_ eH_ ⟨M,by rw[e];exact J⟩ rfl (F:=[_]) (@List.perm_append_comm _ [_] _) zt
                · skip
                  obtain⟨fr,zr⟩:=Con.check_zero (G.right zZ_);dsimp only at fr zr;refine Zz 9 ?_;refine ap_ (jI_ (kb:=kb) (bk:=bk) (bs:=br) _ (.mk E B d y A m C) (Nat.le_refl _) K.right fr [] q hq za_) rfl rfl (@List.perm_append_comm _ [_] _) (fun v _ h=>by exact⟨h.2.2.2.1.2.1,h.2.2.2.2.1,h.1,h.2.2.1,trivial⟩) rfl fun x=>?_;obtain⟨M,J⟩:=x;have N:=Con.rightP_len frm _ (.mk E B d y A m C) (Nat.le_refl _) [];refine z_ (@List.perm_append_comm _ _ [_]) (Zz 2 ?_);refine ag_ [(R,.cells (Ax.cells (Ax.mk k T (Con.mk kl I H hl al cl pl) (Con.mk E B d y A m C) ad cap L ro a b)).toArray 42 (0,0))] zk ?_;refine J_ 5 [0,1,2,4,5] zk (fun _ a b=>⟨Vw.sat.sub a,b⟩) (Zz 6 ?_);refine s_ 3 rfl zk (g_ (fF_ a K.a) rfl (.refl _) zt rfl fun _=>Zz 2 ?_);refine O_ (fun _ a b=>⟨Vw.sat.sub a,b⟩) (s_ 6 rfl zk (g_ (dt_ (.mk E B d y A m C) K.right) rfl (.refl _) (fun v _ h=>⟨h.2.2.2.1.2.1,h.2.2.2.2.1,trivial⟩) rfl fun _=>Zz 2 ?_));refine O_ (fun _ a b=>⟨Vw.sat.sub a,b⟩) (J_ 2 [7] zk (fun _ a b=>⟨Vw.sat.sub a,b⟩) (N_ rfl (H_ df_ rfl rfl) rfl (bv_ (s_ 8 rfl zk (U_ D_ F_ P_ rfl rfl rfl rfl rfl rfl fun S=>Zz 2 ?_)))));refine O_ (fun _ a b=>⟨Vw.sat.sub a.tail,b⟩) (s_ 9 rfl zk (g_ (ea_ ⟨1,([123]++a++[125]),[],(Con.atom (.mk E B d y A m C)),[],[],[],0,0,0⟩ frm (Con.rightP frm (.mk E B d y A m C) []) M J za_) rfl (.cons _ (@List.perm_append_comm _ [_] _)) zt rfl fun x=>?_));obtain⟨P,O⟩:=x;have X:=bw_ frm (Con.rightP frm (.mk E B d y A m C) []) ⟨1,([123]++a++[125]),[],(Con.atom (.mk E B d y A m C)),[],[],[],0,0,0⟩;refine z_ (@List.perm_append_comm _ _ [_]) (Zz 2 ?_);refine O_ (fun _ a b=>⟨Vw.sat.sub a,b⟩) (Zz 2 ?_)
                  have e:Ax.pieces frm ⟨k,T,(.mk kl I H hl al cl pl),(.mk E B d y A m C),ad,cap,L,ro,a,b⟩=(ins frm (Con.rightP frm (.mk E B d y A m C) []) ⟨1,([123]++a++[125]),[],(Con.atom (.mk E B d y A m C)),[],[],[],0,0,0⟩):=by
                    unfold Ax.pieces;dsimp only
                    repeat (first|rfl|(rw[if_pos za_])|(rw[if_neg za_]))
                  exact cl_ eH_ ⟨P,by rw[e];exact O⟩ rfl (F:=[_]) (@List.perm_append_comm _ [_] _) zt
              · skip
                refine Zz 8 ?_;refine e_ (H_ df_ rfl rfl) rfl (U_ D_ F_ P_ rfl rfl rfl rfl rfl rfl fun S=>g_ (ea_ ⟨7,[],[],[],ro,[],[],0,0,0⟩ frm [] q hq za_) rfl (.cons _ (@List.perm_append_comm _ [_] _)) zt rfl fun x=>?_);obtain⟨M,J⟩:=x;have N:=bw_ frm [] ⟨7,[],[],[],ro,[],[],0,0,0⟩;refine z_ (@List.perm_append_comm _ _ [_]) (Zz 2 ?_)
                have e:Ax.pieces frm ⟨k,T,(.mk kl I H hl al cl pl),(.mk E B d y A m C),ad,cap,L,ro,a,b⟩=(ins frm [] ⟨7,[],[],[],ro,[],[],0,0,0⟩):=by
                  unfold Ax.pieces;dsimp only
                  repeat (first|rfl|(rw[if_pos za_])|(rw[if_neg za_]))
                exact cl_ eH_ ⟨M,by rw[e];exact J⟩ rfl (F:=[_]) (@List.perm_append_comm _ [_] _) zt
            · skip
              have hch:=G.chain V;dsimp only at hch;have a4:0<L.length:=by omega
              obtain⟨Q,U⟩:∃ Q,L[0]? = some Q:=⟨_,List.getElem?_eq_getElem a4⟩;refine Zz 8 ?_;refine e_ (Q_ l_ E_ rfl rfl (fun v _ h=>as_ (n:=1) aq_ ze_ (h.2.2.2.1.2.2) U) za_ zg_) rfl ?_;refine Zz 8 ?_;refine e_ (dE_ (i:=1) (j:=L.length) (kl:=.i64) (kh:=.i64) l_ E_ rfl rfl rfl za_ za_) rfl (Zz 5 ?_);refine bt_ [(0,zp_ kb 0),(3,zp_ R 0),(6,str Q),(130,.slice (sad ad cap 1 1) (L.length - 1) (cap - 1)),(131,.int .i64 ((L.length - 1:Nat):Int)),(132,.int .i64 ((0:Nat):Int))] zl ?_;have hr_8:=Con.plain_len (G.roles Q (List.mem_of_getElem? U));refine bQ_ (ι:={x:Nat×Str×List Pc×CS // x.1≤L.length - 1∧CInv x.2.2.1 x.2.2.2∧x.2.2.1.length≤x.1∧x.2.1.length≤30*(x.1+1)∧Ax.chainP frm ro (L.drop 1) Q []=Ax.chainP frm ro (L.drop (1+x.1)) x.2.1 x.2.2.1}) (fun x=>[(0,zp_ kb 0),(3,zp_ R 0),(6,str x.1.2.1),(130,.slice (sad ad cap 1 1) (L.length - 1) (cap - 1)),(131,.int .i64 ((L.length - 1:Nat):Int)),(132,.int .i64 (x.1.1:Int))]) (fun x=>_::gv_ kb frm x.1.2.2.2) (fun _=>_) (fun x=>L.length - 1 - x.1.1) ⟨(0,Q,[],q),by simp,hq,by simp,by simp;omega,rfl⟩ ?_;rintro ⟨⟨i,f,Y,M⟩,hj⟩;dsimp only at hj;refine bt_ [(0,zp_ kb 0),(3,zp_ R 0),(6,str f),(130,.slice (sad ad cap 1 1) (L.length - 1) (cap - 1)),(131,.int .i64 ((L.length - 1:Nat):Int)),(132,.int .i64 (i:Int))] zl ?_;refine Zj 2 (fun a0=>?_) fun a0=>?_
              · skip
                refine Zz 6 ?_
                have e:Ax.pieces frm ⟨k,T,(.mk kl I H hl al cl pl),(.mk E B d y A m C),ad,cap,L,ro,a,b⟩=Ax.chainP frm ro (L.drop 1) Q []:=by
                  unfold Ax.pieces;dsimp only;rw[qB_ U]
                  repeat (first|rfl|(rw[if_pos za_])|(rw[if_neg za_]))
                have e_1:=hj.2.2.2.2;rw[List.drop_of_length_le (show L.length≤1+i by omega)]at e_1;rw[e_1]at e;exact cl_ eH_ ⟨M,by rw[e];exact hj.2.1⟩ rfl (F:=[_]) (@List.perm_append_comm _ [_] _) zt
              · skip
                have hlt:i<L.length - 1:=by omega
                obtain⟨g,hp⟩:∃ g,(L.drop 1)[i]? = some g:=⟨_,List.getElem?_eq_getElem zn_⟩;have a3:L[1+i]? = some g:=by rw[← List.getElem?_drop];exact hp
                have hg:=Con.plain_len (G.roles g (List.mem_of_getElem? a3));have hro:=Con.plain_len (G.role (by show k=4∨k=5∨k=6∨k=7∨k=9;omega));dsimp only at hro;refine Zz 11 ?_;refine e_ (Q_ l_ E_ rfl rfl (fun v _ h=>as_ (n:=1) aq_ ze_ (bA_.rest aq_ h.2.2.2.1.2.2 K.len 1) hp) za_ zg_) rfl ?_;refine e_ (bl_ (ad:=(sad ad cap 1 1)) W_ rfl (fun v _ h=>bA_.rest aq_ h.2.2.2.1.2.2 K.len 1) (o_ aq_ hp 0 _ rfl)) rfl (Zj 19 (fun hr_10=>?_) fun hr_10=>?_)
                · skip
                  refine Zz 11 ?_;refine e_ (H_ df_ rfl rfl) rfl (U_ D_ F_ P_ rfl rfl rfl rfl rfl rfl fun S=>g_ (ea_ ⟨6,[],[],[],f,g,ro,0,0,0⟩ frm Y M hj.2.1 za_) rfl (.cons _ (@List.perm_append_comm _ [_] _)) zt rfl fun x=>?_);obtain⟨P,J⟩:=x;have N:=bw_ frm Y ⟨6,[],[],[],f,g,ro,0,0,0⟩;refine z_ (@List.perm_append_comm _ _ [_]) (Zz 12 ?_);have a2:=jZ_ a3;have a1:(L.drop (1+i+1)=[])↔¬ (i+2<L.length):=by rw[List.drop_eq_nil_iff];omega
                  exact x_ ⟨(i+1,ro,(ins frm Y ⟨6,[],[],[],f,g,ro,0,0,0⟩),P),by dsimp only;omega,J,by dsimp only;omega,by dsimp only;omega,by rw[hj.2.2.2.2,a2];simp only[Ax.chainP];rw[if_pos (by rw[a1];omega),show 1+(i+1)=1+i+1 by omega]⟩ zn_ zl (F:=[]) zT_ zh
                · skip
                  refine Zz 5 ?_;refine e_ (em_ rfl rfl zr_) rfl ?_;refine Zz 1 ?_;refine e_ (em_ rfl rfl zr_) rfl ?_;refine Zz 9 ?_;refine e_ (H_ df_ rfl rfl) rfl (U_ D_ F_ P_ rfl rfl rfl rfl rfl rfl fun S=>g_ (ea_ ⟨6,[],[],[],f,g,(f++[46])++g,0,0,0⟩ frm Y M hj.2.1 za_) rfl (.cons _ (@List.perm_append_comm _ [_] _)) zt rfl fun x=>?_);obtain⟨P,J⟩:=x;have N:=bw_ frm Y ⟨6,[],[],[],f,g,(f++[46])++g,0,0,0⟩;refine z_ (@List.perm_append_comm _ _ [_]) (Zz 12 ?_);have a2:=jZ_ a3;have a1:(L.drop (1+i+1)=[])↔¬ (i+2<L.length):=by rw[List.drop_eq_nil_iff];omega
                  exact x_ ⟨(i+1,(f++[46])++g,(ins frm Y ⟨6,[],[],[],f,g,(f++[46])++g,0,0,0⟩),P),by dsimp only;omega,J,by dsimp only;omega,by simp only[List.length_append,List.length_cons,List.length_nil];omega,by rw[hj.2.2.2.2,a2];simp only[Ax.chainP];rw[if_neg (by rw[a1];omega),show 1+(i+1)=1+i+1 by omega]⟩ zn_ zl (F:=[]) zT_ zh
          · skip
            have a4:0<L.length:=by have:=G.one hr_5;dsimp only at this;omega
            obtain⟨Q,V⟩:∃ Q,L[0]? = some Q:=⟨_,List.getElem?_eq_getElem a4⟩;refine Zz 4 ?_;refine ag_ [(R,.cells (Ax.cells (Ax.mk k T (Con.mk kl I H hl al cl pl) (Con.mk E B d y A m C) ad cap L ro a b)).toArray 42 (0,0))] zk ?_;refine J_ 2 [0,1,2,3,4,5,6,7] zk (fun _ a b=>⟨Vw.sat.sub a,b⟩) (Zz 3 ?_);refine N_ rfl (Q_ l_ E_ rfl rfl (fun v _ h=>as_ (n:=1) aq_ ze_ (h.2.2.2.1.2.2) V) za_ zg_) rfl ?_;refine Zz 3 ?_;refine N_ rfl (H_ df_ rfl rfl) rfl (bv_ (s_ 8 rfl zk (U_ D_ F_ P_ rfl rfl rfl rfl rfl rfl fun S=>Zz 2 ?_)));refine O_ (fun _ a b=>⟨Vw.sat.sub a.tail,b⟩) (s_ 9 rfl zk (g_ (ea_ ⟨5,[],[],[],Q,[],ro,0,0,0⟩ frm [] q hq za_) rfl (.cons _ (@List.perm_append_comm _ [_] _)) zt rfl fun x=>?_));obtain⟨M,J⟩:=x;have N:=bw_ frm [] ⟨5,[],[],[],Q,[],ro,0,0,0⟩;refine z_ (@List.perm_append_comm _ _ [_]) (Zz 2 ?_);refine O_ (fun _ a b=>⟨Vw.sat.sub a,b⟩) (Zz 2 ?_)
            have e:Ax.pieces frm ⟨k,T,(.mk kl I H hl al cl pl),(.mk E B d y A m C),ad,cap,L,ro,a,b⟩=(ins frm [] ⟨5,[],[],[],Q,[],ro,0,0,0⟩):=by
              unfold Ax.pieces;dsimp only;rw[qB_ V]
              repeat (first|rfl|(rw[if_pos za_])|(rw[if_neg za_]))
            exact cl_ eH_ ⟨M,by rw[e];exact J⟩ rfl (F:=[_]) (@List.perm_append_comm _ [_] _) zt
        · skip
          obtain⟨fr,zr⟩:=Con.check_zero (G.right zZ_);dsimp only at fr zr;refine Zz 9 ?_;refine ap_ (jI_ (kb:=kb) (bk:=bk) (bs:=br) _ (.mk E B d y A m C) (Nat.le_refl _) K.right fr [] q hq za_) rfl rfl (@List.perm_append_comm _ [_] _) (fun v _ h=>by exact⟨h.2.2.2.1.2.1,h.2.2.2.2.1,h.1,h.2.2.1,trivial⟩) rfl fun x=>?_;obtain⟨M,J⟩:=x;have N:=Con.rightP_len frm _ (.mk E B d y A m C) (Nat.le_refl _) [];refine z_ (@List.perm_append_comm _ _ [_]) (Zz 2 ?_);refine ag_ [(R,.cells (Ax.cells (Ax.mk k T (Con.mk kl I H hl al cl pl) (Con.mk E B d y A m C) ad cap L ro a b)).toArray 42 (0,0))] zk ?_;refine J_ 4 [0,1,2,3,4] zk (fun _ a b=>⟨Vw.sat.sub a,b⟩) (Zz 6 ?_);refine s_ 5 rfl zk (g_ (dt_ (.mk E B d y A m C) K.right) rfl (.refl _) (fun v _ h=>⟨h.2.2.2.1.2.1,h.2.2.2.2.1,trivial⟩) rfl fun _=>Zz 2 ?_);refine O_ (fun _ a b=>⟨Vw.sat.sub a,b⟩) (J_ 2 [6] zk (fun _ a b=>⟨Vw.sat.sub a,b⟩) (N_ rfl (H_ df_ rfl rfl) rfl (bv_ (s_ 7 rfl zk (U_ D_ F_ P_ rfl rfl rfl rfl rfl rfl fun S=>Zz 2 ?_)))));refine O_ (fun _ a b=>⟨Vw.sat.sub a.tail,b⟩) (s_ 8 rfl zk (g_ (ea_ ⟨4,[42],[],(Con.atom (.mk E B d y A m C)),ro,[],[],0,0,0⟩ frm (Con.rightP frm (.mk E B d y A m C) []) M J za_) rfl (.cons _ (@List.perm_append_comm _ [_] _)) zt rfl fun x=>?_));obtain⟨P,O⟩:=x;have X:=bw_ frm (Con.rightP frm (.mk E B d y A m C) []) ⟨4,[42],[],(Con.atom (.mk E B d y A m C)),ro,[],[],0,0,0⟩;refine z_ (@List.perm_append_comm _ _ [_]) (Zz 2 ?_);refine O_ (fun _ a b=>⟨Vw.sat.sub a,b⟩) (Zz 2 ?_)
          have e:Ax.pieces frm ⟨k,T,(.mk kl I H hl al cl pl),(.mk E B d y A m C),ad,cap,L,ro,a,b⟩=(ins frm (Con.rightP frm (.mk E B d y A m C) []) ⟨4,[42],[],(Con.atom (.mk E B d y A m C)),ro,[],[],0,0,0⟩):=by
            unfold Ax.pieces;dsimp only
            repeat (first|rfl|(rw[if_pos za_])|(rw[if_neg za_]))
          exact cl_ eH_ ⟨P,by rw[e];exact O⟩ rfl (F:=[_]) (@List.perm_append_comm _ [_] _) zt
      · skip
        obtain⟨fl,zl⟩:=Con.check_zero (G.left (by show k≤3;omega));dsimp only at fl zl;obtain⟨fr,zr⟩:=Con.check_zero (G.right zZ_);dsimp only at fr zr;refine Zz 9 ?_;refine ap_ (mY_ (kb:=kb) (bk:=bk) (bs:=bl) _ (.mk kl I H hl al cl pl) (Nat.le_refl _) K.left fl [] q hq za_) rfl rfl (@List.perm_append_comm _ [_] _) (fun v _ h=>by exact⟨h.2.2.2.1.1,h.2.2.2.2.1,h.1,h.2.1,trivial⟩) rfl fun x=>?_;obtain⟨M,J⟩:=x;have N:=Con.leftP_len frm _ (.mk kl I H hl al cl pl) (Nat.le_refl _) [];refine z_ (@List.perm_append_comm _ _ [_]) (Zz 7 ?_);refine ap_ (mY_ (kb:=kb) (bk:=bk) (bs:=bl) _ (.mk E B d y A m C) (Nat.le_refl _) K.right fr (Con.leftP frm (.mk kl I H hl al cl pl) []) M J za_) rfl rfl (@List.perm_append_comm _ [_] _) (fun v _ h=>by exact⟨h.2.2.2.1.2.1,h.2.2.2.2.1,h.1,h.2.1,trivial⟩) rfl fun x=>?_;obtain⟨P,O⟩:=x;have X:=Con.leftP_len frm _ (.mk E B d y A m C) (Nat.le_refl _) (Con.leftP frm (.mk kl I H hl al cl pl) []);refine z_ (@List.perm_append_comm _ _ [_]) (Zz 2 ?_);refine ag_ [(R,.cells (Ax.cells (Ax.mk k T (Con.mk kl I H hl al cl pl) (Con.mk E B d y A m C) ad cap L ro a b)).toArray 42 (0,0))] zk ?_;refine J_ 5 [0,1,2,4,5] zk (fun _ a b=>⟨Vw.sat.sub a,b⟩) (Zz 6 ?_);refine s_ 3 rfl zk (g_ (dt_ (.mk kl I H hl al cl pl) K.left) rfl (.refl _) (fun v _ h=>⟨h.2.2.2.1.1,h.2.2.2.2.1,trivial⟩) rfl fun _=>Zz 2 ?_);refine O_ (fun _ a b=>⟨Vw.sat.sub a,b⟩) (s_ 6 rfl zk (g_ (dt_ (.mk E B d y A m C) K.right) rfl (.refl _) (fun v _ h=>⟨h.2.2.2.1.2.1,h.2.2.2.2.1,trivial⟩) rfl fun _=>Zz 2 ?_));refine O_ (fun _ a b=>⟨Vw.sat.sub a,b⟩) (J_ 2 [7] zk (fun _ a b=>⟨Vw.sat.sub a,b⟩) (N_ rfl (H_ df_ rfl rfl) rfl (bv_ (s_ 8 rfl zk (U_ D_ F_ P_ rfl rfl rfl rfl rfl rfl fun S=>Zz 2 ?_)))));refine O_ (fun _ a b=>⟨Vw.sat.sub a.tail,b⟩) (s_ 9 rfl zk (g_ (ea_ ⟨2,(Con.atom (.mk kl I H hl al cl pl)),(Con.atom (.mk E B d y A m C)),[33],[],[],[],0,0,0⟩ frm (Con.leftP frm (.mk E B d y A m C) (Con.leftP frm (.mk kl I H hl al cl pl) [])) P O za_) rfl (.cons _ (@List.perm_append_comm _ [_] _)) zt rfl fun x=>?_));obtain⟨Z,W⟩:=x;have hb_3:=bw_ frm (Con.leftP frm (.mk E B d y A m C) (Con.leftP frm (.mk kl I H hl al cl pl) [])) ⟨2,(Con.atom (.mk kl I H hl al cl pl)),(Con.atom (.mk E B d y A m C)),[33],[],[],[],0,0,0⟩;refine z_ (@List.perm_append_comm _ _ [_]) (Zz 2 ?_);refine O_ (fun _ a b=>⟨Vw.sat.sub a,b⟩) (Zz 2 ?_)
        have e:Ax.pieces frm ⟨k,T,(.mk kl I H hl al cl pl),(.mk E B d y A m C),ad,cap,L,ro,a,b⟩=(ins frm (Con.leftP frm (.mk E B d y A m C) (Con.leftP frm (.mk kl I H hl al cl pl) [])) ⟨2,(Con.atom (.mk kl I H hl al cl pl)),(Con.atom (.mk E B d y A m C)),[33],[],[],[],0,0,0⟩):=by
          unfold Ax.pieces;dsimp only
          repeat (first|rfl|(rw[if_pos za_])|(rw[if_neg za_]))
        exact cl_ eH_ ⟨Z,by rw[e];exact W⟩ rfl (F:=[_]) (@List.perm_append_comm _ [_] _) zt
    · skip
      obtain⟨fl,zl⟩:=Con.check_zero (G.left (by show k≤3;omega));dsimp only at fl zl;obtain⟨fr,zr⟩:=Con.check_zero (G.right zZ_);dsimp only at fr zr;refine Zz 9 ?_;refine ap_ (mY_ (kb:=kb) (bk:=bk) (bs:=bl) _ (.mk kl I H hl al cl pl) (Nat.le_refl _) K.left fl [] q hq za_) rfl rfl (@List.perm_append_comm _ [_] _) (fun v _ h=>by exact⟨h.2.2.2.1.1,h.2.2.2.2.1,h.1,h.2.1,trivial⟩) rfl fun x=>?_;obtain⟨M,J⟩:=x;have N:=Con.leftP_len frm _ (.mk kl I H hl al cl pl) (Nat.le_refl _) [];refine z_ (@List.perm_append_comm _ _ [_]) (Zz 7 ?_);refine ap_ (jI_ (kb:=kb) (bk:=bk) (bs:=br) _ (.mk E B d y A m C) (Nat.le_refl _) K.right fr (Con.leftP frm (.mk kl I H hl al cl pl) []) M J za_) rfl rfl (@List.perm_append_comm _ [_] _) (fun v _ h=>by exact⟨h.2.2.2.1.2.1,h.2.2.2.2.1,h.1,h.2.2.1,trivial⟩) rfl fun x=>?_;obtain⟨P,O⟩:=x;have X:=Con.rightP_len frm _ (.mk E B d y A m C) (Nat.le_refl _) (Con.leftP frm (.mk kl I H hl al cl pl) []);refine z_ (@List.perm_append_comm _ _ [_]) (Zz 3 ?_);refine ag_ [(R,.cells (Ax.cells (Ax.mk k T (Con.mk kl I H hl al cl pl) (Con.mk E B d y A m C) ad cap L ro a b)).toArray 42 (0,0))] zk ?_;refine J_ 5 [0,1,2,4,5] zk (fun _ a b=>⟨Vw.sat.sub a,b⟩) (Zz 6 ?_);refine s_ 3 rfl zk (g_ (dt_ (.mk kl I H hl al cl pl) K.left) rfl (.refl _) (fun v _ h=>⟨h.2.2.2.1.1,h.2.2.2.2.1,trivial⟩) rfl fun _=>Zz 2 ?_);refine O_ (fun _ a b=>⟨Vw.sat.sub a,b⟩) (s_ 6 rfl zk (g_ (dt_ (.mk E B d y A m C) K.right) rfl (.refl _) (fun v _ h=>⟨h.2.2.2.1.2.1,h.2.2.2.2.1,trivial⟩) rfl fun _=>Zz 2 ?_));refine O_ (fun _ a b=>⟨Vw.sat.sub a,b⟩) (J_ 2 [7] zk (fun _ a b=>⟨Vw.sat.sub a,b⟩) (N_ rfl (H_ df_ rfl rfl) rfl (bv_ (s_ 8 rfl zk (U_ D_ F_ P_ rfl rfl rfl rfl rfl rfl fun S=>Zz 2 ?_)))));refine O_ (fun _ a b=>⟨Vw.sat.sub a.tail,b⟩) (s_ 9 rfl zk (g_ (ea_ ⟨1,(Con.atom (.mk kl I H hl al cl pl)),[],(Con.atom (.mk E B d y A m C)),[],[],[],0,0,0⟩ frm (Con.rightP frm (.mk E B d y A m C) (Con.leftP frm (.mk kl I H hl al cl pl) [])) P O za_) rfl (.cons _ (@List.perm_append_comm _ [_] _)) zt rfl fun x=>?_));obtain⟨Z,W⟩:=x;have hb_3:=bw_ frm (Con.rightP frm (.mk E B d y A m C) (Con.leftP frm (.mk kl I H hl al cl pl) [])) ⟨1,(Con.atom (.mk kl I H hl al cl pl)),[],(Con.atom (.mk E B d y A m C)),[],[],[],0,0,0⟩;refine z_ (@List.perm_append_comm _ _ [_]) (Zz 2 ?_);refine O_ (fun _ a b=>⟨Vw.sat.sub a,b⟩) (Zz 7 ?_);refine ap_ (mY_ (kb:=kb) (bk:=bk) (bs:=bl) _ (.mk E B d y A m C) (Nat.le_refl _) K.right fr (ins frm (Con.rightP frm (.mk E B d y A m C) (Con.leftP frm (.mk kl I H hl al cl pl) [])) ⟨1,(Con.atom (.mk kl I H hl al cl pl)),[],(Con.atom (.mk E B d y A m C)),[],[],[],0,0,0⟩) Z W za_) rfl rfl (@List.perm_append_comm _ [_] _) (fun v _ h=>by exact⟨h.2.2.2.1.2.1,h.2.2.2.2.1,h.1,h.2.1,trivial⟩) rfl fun x=>?_;obtain⟨q_4,hq_4⟩:=x;have hb_4:=Con.leftP_len frm _ (.mk E B d y A m C) (Nat.le_refl _) (ins frm (Con.rightP frm (.mk E B d y A m C) (Con.leftP frm (.mk kl I H hl al cl pl) [])) ⟨1,(Con.atom (.mk kl I H hl al cl pl)),[],(Con.atom (.mk E B d y A m C)),[],[],[],0,0,0⟩);refine z_ (@List.perm_append_comm _ _ [_]) (Zz 7 ?_);refine ap_ (jI_ (kb:=kb) (bk:=bk) (bs:=br) _ (.mk kl I H hl al cl pl) (Nat.le_refl _) K.left fl (Con.leftP frm (.mk E B d y A m C) (ins frm (Con.rightP frm (.mk E B d y A m C) (Con.leftP frm (.mk kl I H hl al cl pl) [])) ⟨1,(Con.atom (.mk kl I H hl al cl pl)),[],(Con.atom (.mk E B d y A m C)),[],[],[],0,0,0⟩)) q_4 hq_4 za_) rfl rfl (@List.perm_append_comm _ [_] _) (fun v _ h=>by exact⟨h.2.2.2.1.1,h.2.2.2.2.1,h.1,h.2.2.1,trivial⟩) rfl fun x=>?_;obtain⟨q_5,hq_5⟩:=x;have hb_5:=Con.rightP_len frm _ (.mk kl I H hl al cl pl) (Nat.le_refl _) (Con.leftP frm (.mk E B d y A m C) (ins frm (Con.rightP frm (.mk E B d y A m C) (Con.leftP frm (.mk kl I H hl al cl pl) [])) ⟨1,(Con.atom (.mk kl I H hl al cl pl)),[],(Con.atom (.mk E B d y A m C)),[],[],[],0,0,0⟩));refine z_ (@List.perm_append_comm _ _ [_]) (Zz 2 ?_);refine ag_ [(R,.cells (Ax.cells (Ax.mk k T (Con.mk kl I H hl al cl pl) (Con.mk E B d y A m C) ad cap L ro a b)).toArray 42 (0,0))] zk ?_;refine J_ 5 [0,1,2,4,5] zk (fun _ a b=>⟨Vw.sat.sub a,b⟩) (Zz 6 ?_);refine s_ 3 rfl zk (g_ (dt_ (.mk E B d y A m C) K.right) rfl (.refl _) (fun v _ h=>⟨h.2.2.2.1.2.1,h.2.2.2.2.1,trivial⟩) rfl fun _=>Zz 2 ?_);refine O_ (fun _ a b=>⟨Vw.sat.sub a,b⟩) (s_ 6 rfl zk (g_ (dt_ (.mk kl I H hl al cl pl) K.left) rfl (.refl _) (fun v _ h=>⟨h.2.2.2.1.1,h.2.2.2.2.1,trivial⟩) rfl fun _=>Zz 2 ?_));refine O_ (fun _ a b=>⟨Vw.sat.sub a,b⟩) (J_ 2 [7] zk (fun _ a b=>⟨Vw.sat.sub a,b⟩) (N_ rfl (H_ df_ rfl rfl) rfl (bv_ (s_ 8 rfl zk (U_ D_ F_ P_ rfl rfl rfl rfl rfl rfl fun b_3=>Zz 2 ?_)))));refine O_ (fun _ a b=>⟨Vw.sat.sub a.tail,b⟩) (s_ 9 rfl zk (g_ (ea_ ⟨1,(Con.atom (.mk E B d y A m C)),[],(Con.atom (.mk kl I H hl al cl pl)),[],[],[],0,0,0⟩ frm (Con.rightP frm (.mk kl I H hl al cl pl) (Con.leftP frm (.mk E B d y A m C) (ins frm (Con.rightP frm (.mk E B d y A m C) (Con.leftP frm (.mk kl I H hl al cl pl) [])) ⟨1,(Con.atom (.mk kl I H hl al cl pl)),[],(Con.atom (.mk E B d y A m C)),[],[],[],0,0,0⟩))) q_5 hq_5 za_) rfl (.cons _ (@List.perm_append_comm _ [_] _)) zt rfl fun x=>?_));obtain⟨q_6,hq_6⟩:=x;have hb_6:=bw_ frm (Con.rightP frm (.mk kl I H hl al cl pl) (Con.leftP frm (.mk E B d y A m C) (ins frm (Con.rightP frm (.mk E B d y A m C) (Con.leftP frm (.mk kl I H hl al cl pl) [])) ⟨1,(Con.atom (.mk kl I H hl al cl pl)),[],(Con.atom (.mk E B d y A m C)),[],[],[],0,0,0⟩))) ⟨1,(Con.atom (.mk E B d y A m C)),[],(Con.atom (.mk kl I H hl al cl pl)),[],[],[],0,0,0⟩;refine z_ (@List.perm_append_comm _ _ [_]) (Zz 2 ?_);refine O_ (fun _ a b=>⟨Vw.sat.sub a,b⟩) (Zz 2 ?_)
      have e:Ax.pieces frm ⟨k,T,(.mk kl I H hl al cl pl),(.mk E B d y A m C),ad,cap,L,ro,a,b⟩=(ins frm (Con.rightP frm (.mk kl I H hl al cl pl) (Con.leftP frm (.mk E B d y A m C) (ins frm (Con.rightP frm (.mk E B d y A m C) (Con.leftP frm (.mk kl I H hl al cl pl) [])) ⟨1,(Con.atom (.mk kl I H hl al cl pl)),[],(Con.atom (.mk E B d y A m C)),[],[],[],0,0,0⟩))) ⟨1,(Con.atom (.mk E B d y A m C)),[],(Con.atom (.mk kl I H hl al cl pl)),[],[],[],0,0,0⟩):=by
        unfold Ax.pieces;dsimp only
        repeat (first|rfl|(rw[if_pos za_])|(rw[if_neg za_]))
      exact cl_ eH_ ⟨q_6,by rw[e];exact hq_6⟩ rfl (F:=[_]) (@List.perm_append_comm _ [_] _) zt
  · skip
    obtain⟨fl,zl⟩:=Con.check_zero (G.left (by show k≤3;omega));dsimp only at fl zl;obtain⟨fr,zr⟩:=Con.check_zero (G.right zZ_);dsimp only at fr zr;refine Zz 9 ?_;refine ap_ (mY_ (kb:=kb) (bk:=bk) (bs:=bl) _ (.mk kl I H hl al cl pl) (Nat.le_refl _) K.left fl [] q hq za_) rfl rfl (@List.perm_append_comm _ [_] _) (fun v _ h=>by exact⟨h.2.2.2.1.1,h.2.2.2.2.1,h.1,h.2.1,trivial⟩) rfl fun x=>?_;obtain⟨M,J⟩:=x;have N:=Con.leftP_len frm _ (.mk kl I H hl al cl pl) (Nat.le_refl _) [];refine z_ (@List.perm_append_comm _ _ [_]) (Zz 7 ?_);refine ap_ (jI_ (kb:=kb) (bk:=bk) (bs:=br) _ (.mk E B d y A m C) (Nat.le_refl _) K.right fr (Con.leftP frm (.mk kl I H hl al cl pl) []) M J za_) rfl rfl (@List.perm_append_comm _ [_] _) (fun v _ h=>by exact⟨h.2.2.2.1.2.1,h.2.2.2.2.1,h.1,h.2.2.1,trivial⟩) rfl fun x=>?_;obtain⟨P,O⟩:=x;have X:=Con.rightP_len frm _ (.mk E B d y A m C) (Nat.le_refl _) (Con.leftP frm (.mk kl I H hl al cl pl) []);refine z_ (@List.perm_append_comm _ _ [_]) (Zz 2 ?_);refine ag_ [(R,.cells (Ax.cells (Ax.mk k T (Con.mk kl I H hl al cl pl) (Con.mk E B d y A m C) ad cap L ro a b)).toArray 42 (0,0))] zk ?_;refine J_ 5 [0,1,2,4,5] zk (fun _ a b=>⟨Vw.sat.sub a,b⟩) (Zz 6 ?_);refine s_ 3 rfl zk (g_ (dt_ (.mk kl I H hl al cl pl) K.left) rfl (.refl _) (fun v _ h=>⟨h.2.2.2.1.1,h.2.2.2.2.1,trivial⟩) rfl fun _=>Zz 2 ?_);refine O_ (fun _ a b=>⟨Vw.sat.sub a,b⟩) (s_ 6 rfl zk (g_ (dt_ (.mk E B d y A m C) K.right) rfl (.refl _) (fun v _ h=>⟨h.2.2.2.1.2.1,h.2.2.2.2.1,trivial⟩) rfl fun _=>Zz 2 ?_));refine O_ (fun _ a b=>⟨Vw.sat.sub a,b⟩) (J_ 2 [7] zk (fun _ a b=>⟨Vw.sat.sub a,b⟩) (N_ rfl (H_ df_ rfl rfl) rfl (bv_ (s_ 8 rfl zk (U_ D_ F_ P_ rfl rfl rfl rfl rfl rfl fun S=>Zz 2 ?_)))));refine O_ (fun _ a b=>⟨Vw.sat.sub a.tail,b⟩) (s_ 9 rfl zk (g_ (ea_ ⟨1,(Con.atom (.mk kl I H hl al cl pl)),[],(Con.atom (.mk E B d y A m C)),[],[],[],0,0,0⟩ frm (Con.rightP frm (.mk E B d y A m C) (Con.leftP frm (.mk kl I H hl al cl pl) [])) P O za_) rfl (.cons _ (@List.perm_append_comm _ [_] _)) zt rfl fun x=>?_));obtain⟨Z,W⟩:=x;have hb_3:=bw_ frm (Con.rightP frm (.mk E B d y A m C) (Con.leftP frm (.mk kl I H hl al cl pl) [])) ⟨1,(Con.atom (.mk kl I H hl al cl pl)),[],(Con.atom (.mk E B d y A m C)),[],[],[],0,0,0⟩;refine z_ (@List.perm_append_comm _ _ [_]) (Zz 2 ?_);refine O_ (fun _ a b=>⟨Vw.sat.sub a,b⟩) (Zz 2 ?_)
    have e:Ax.pieces frm ⟨k,T,(.mk kl I H hl al cl pl),(.mk E B d y A m C),ad,cap,L,ro,a,b⟩=(ins frm (Con.rightP frm (.mk E B d y A m C) (Con.leftP frm (.mk kl I H hl al cl pl) [])) ⟨1,(Con.atom (.mk kl I H hl al cl pl)),[],(Con.atom (.mk E B d y A m C)),[],[],[],0,0,0⟩):=by
      unfold Ax.pieces;dsimp only
      repeat (first|rfl|(rw[if_pos za_])|(rw[if_neg za_]))
    exact cl_ eH_ ⟨Z,by rw[e];exact W⟩ rfl (F:=[_]) (@List.perm_append_comm _ [_] _) zt
theorem aw_.form {e:TypeId} {sz n:Nat} {sv:Value} {m:List Value} {Hr:Hp} (h:aw_ e sz sv n m Hr):∃ ad cap,sv=.slice ad n cap:=by
 rcases h.2 with⟨d,k,_⟩|⟨g,cap,cur,d,_⟩
 ·exact⟨none,0,by rw[d,k]⟩
 exact⟨_,cap,d⟩
theorem aw_.nilcap {e:TypeId} {sz n m cap:Nat} {sv:Value} {v:List Value} {Hr:Hp} {ad:Option Addr} (h:aw_ e sz sv n v Hr) (d:sv=.slice ad m cap):ad=none→cap=0:=fun q=>by
 rcases h.2 with⟨k,_,_⟩|⟨g,c,cur,k,_⟩
 ·rw[k]at d;simp only[Value.slice.injEq]at d;exact d.2.2.symm
 rw[k,q]at d;simp at d
theorem tx_ (l:List Ax) (ad:Option Addr) (cap:Nat) (a4:l.length≤2199023255488) (R:∀ x∈l,x.ok) :
    Tri Tryz.prog 31 #[.slice ad l.length cap] [] [eg_ ad l,cj_] (fun y:{y:Option Addr×Nat // (bB_ l).1.length≤y.2∧y.2≤maxLen∧(y.1=none→y.2=0)}=>.tuple #[.slice y.1.1 (bB_ l).1.length y.1.2,.int .i64 (bB_ l).2]) (fun _=>[]) (fun y=>[ah_ y.1.1 ((bB_ l).1.flatMap Pc.cells)]):=by
  refine i_ Tryz.func31 rfl rfl Tryz.ntmps31 rfl fun a9=>?_;refine be_ ?_;refine aG_ ?_;refine e_ (ay_ rfl) rfl ?_;refine e_ (ay_ rfl) rfl ?_;refine bq_ ?_;refine aX_ rfl ?_;refine be_ ?_;refine be_ ?_;refine aG_ ?_;refine e_ (al_ rfl) rfl ?_;refine e_ (dy_ aU_ rfl) rfl ?_;refine B_ (dw_ rfl rfl) rfl fun Z A=>?_;refine bq_ ?_;refine aX_ rfl ?_;cases Z
  · skip
    replace A:=zdf A;try dsimp only[Con.kind,Con.parts,Con.name,Con.lo,Con.hi,Con.cap,Con.ad]at A
    refine eZ_ rfl ?_;refine gL_ ?_;refine aX_ rfl ?_;refine be_ ?_;refine be_ ?_;refine aG_ ?_;refine e_ (al_ rfl) rfl ?_;refine e_ (dy_ aU_ rfl) rfl ?_;refine e_ (al_ rfl) rfl ?_;refine bq_ ?_;refine aX_ rfl ?_;refine gM_ ?_;refine bt_ [(0,.slice ad l.length cap),(2,.slice none 0 0),(13,.slice ad l.length cap),(14,.int .i64 (l.length:Int)),(15,.int .i64 ((0:Nat):Int))] zl ?_;refine bQ_ (ι:={q:Nat // q≤l.length∧∀ y∈l.take q,y.check=0}) (fun i=>[(0,.slice ad l.length cap),(2,.slice none 0 0),(13,.slice ad l.length cap),(14,.int .i64 (l.length:Int)),(15,.int .i64 (i.1:Int))]) (fun _=>_) (fun _=>_) (fun i=>l.length - i.1) ⟨0,by simp⟩ ?_;rintro ⟨i,hk⟩;refine bt_ [(0,.slice ad l.length cap),(2,.slice none 0 0),(13,.slice ad l.length cap),(14,.int .i64 (l.length:Int)),(15,.int .i64 (i:Int))] zl ?_;refine be_ ?_;refine aG_ ?_;refine B_ (cY_ rfl rfl) rfl fun X B=>?_;refine bq_ ?_;refine aX_ rfl ?_;refine be_ ?_;cases X
    · skip
      replace B:=zdf B;try dsimp only[Con.kind,Con.parts,Con.name,Con.lo,Con.hi,Con.cap,Con.ad]at B
      obtain rfl:i=l.length:=by omega
      try rw[List.take_length]at hk
      refine eZ_ rfl ?_;refine mw_ rfl ?_;refine aX_ rfl ?_;refine be_ ?_;refine be_ ?_;refine aG_ ?_;refine e_ (al_ rfl) rfl ?_;refine e_ (dy_ aU_ rfl) rfl ?_;refine e_ (al_ rfl) rfl ?_;refine bq_ ?_;refine aX_ rfl ?_;refine gM_ ?_;have I:=hk.2;refine bt_ [(2,.slice none 0 0),(25,.slice ad l.length cap),(26,.int .i64 (l.length:Int)),(27,.int .i64 ((0:Nat):Int))] zl ?_;refine bQ_ (ι:={x:Nat×List Pc×Value×Hp // x.1≤l.length∧aw_ 174 10 x.2.2.1 x.2.1.length (x.2.1.flatMap Pc.cells) x.2.2.2∧x.2.1.length≤16384∧hu_ 0 l []=hu_ x.1 (l.drop x.1) x.2.1}) (fun x=>[(2,x.1.2.2.1),(25,.slice ad l.length cap),(26,.int .i64 (l.length:Int)),(27,.int .i64 (x.1.1:Int))]) (fun x=>x.1.2.2.2) (fun _=>_) (fun x=>l.length - x.1.1) ⟨(0,[],.slice none 0 0,[]),by simp,aw_.nil _ _,by simp,rfl⟩ ?_;clear hk;rintro ⟨⟨i,p,sv,Hr⟩,hk⟩;dsimp only at hk;refine bt_ [(2,sv),(25,.slice ad l.length cap),(26,.int .i64 (l.length:Int)),(27,.int .i64 (i:Int))] zl ?_;refine be_ ?_;refine aG_ ?_;refine B_ (cY_ rfl rfl) rfl fun Q d=>?_;refine bq_ ?_;refine aX_ rfl ?_;refine be_ ?_;cases Q
      · skip
        replace d:=zdf d;try dsimp only[Con.kind,Con.parts,Con.name,Con.lo,Con.hi,Con.cap,Con.ad]at d
        obtain rfl:i=l.length:=by omega
        try rw[List.take_length]at hk
        refine eZ_ rfl ?_;refine mw_ rfl ?_;refine aX_ rfl ?_;refine be_ ?_;refine aG_ ?_;refine e_ (al_ rfl) rfl ?_;refine e_ (ay_ rfl) rfl ?_;refine e_ (ay_ rfl) rfl ?_;refine bq_ ?_;refine aX_ rfl ?_;refine iC_ ?_;refine jn_ hk.2.1 (F:=[]) (by rw[List.append_nil]) fun m k L U T=>?_
        have e:bB_ l=(p,0):=by
          unfold bB_;rw[if_neg za_,if_neg (by simp[fm_ I]),hk.2.2.2,List.drop_length];first|done|rfl
        have E:(bB_ l).1.length≤k∧k≤maxLen∧(m=none→k=0):=by rw[e];exact⟨U,T,aw_.nilcap hk.2.1 L⟩
        have P:Value.tuple #[sv,.int .i64 0]=.tuple #[.slice m (bB_ l).1.length k,.int .i64 (bB_ l).2]:=by rw[e,L]
        have O:(p.flatMap Pc.cells)=((bB_ l).1.flatMap Pc.cells):=by rw[e]
        exact kv_ Tryz.results31 ⟨(m,k),E⟩ rfl rfl P (.refl _) (fun v _ h=>⟨O▸h.1,trivial⟩)
      · skip
        replace d:=zdt d;try dsimp only[Con.kind,Con.parts,Con.name,Con.lo,Con.hi,Con.cap,Con.ad]at d
        have J:i<l.length:=by omega
        obtain⟨x,K⟩:∃ x,l[i]? = some x:=⟨_,List.getElem?_eq_getElem J⟩;have H:x∈l:=List.mem_of_getElem? K;refine bX_ rfl ?_;refine gL_ ?_;refine aX_ rfl ?_;refine be_ ?_;refine gM_ ?_;refine be_ ?_;have G:=Ax.good_of (I x H);have b0:=jm_ (i:Int) G;refine aG_ ?_;refine e_ (al_ rfl) rfl ?_;refine e_ (Q_ aU_ br_ rfl rfl (fun v _ h=>as_ (n:=16) Ax.cells_len ze_ (h.1.1) K) za_ zg_) rfl ?_;refine e_ (aj_ (ad:=ad) (us:=x.cells) rL_ br_ rfl (fun v _ h=>h.1.1) (Ax.cells_len _) (o_ Ax.cells_len K)) rfl ?_;refine G_ cE_ rfl fun Y=>?_;refine e_ (ay_ rfl) rfl ?_;refine mH_ (us:=x.cells) 0 br_ x.cells_len x.one_cells rfl rfl rfl rfl ?_;refine bq_ ?_;refine aX_ rfl ?_;refine be_ ?_;refine aG_ ?_;refine e_ (al_ rfl) rfl ?_;refine g_ (mS_ (i:Int)) rfl (.refl _) zt rfl fun⟨kb,bm⟩=>?_;refine e_ (ay_ rfl) rfl ?_;refine bq_ ?_;refine aX_ rfl ?_;refine be_ ?_;refine aG_ ?_;refine e_ (al_ rfl) rfl ?_;refine e_ (nJ_ (us:=x.cells) 2 rL_ br_ x.cells_len rfl rfl) rfl ?_;refine g_ (xT_ x (R x H) (I x H) (i:Int) ⟨.slice none 0 0,bm,#[],0,[]⟩ ⟨aw_.nil _ _,rfl,by simp⟩) rfl (.refl _) (fun v _ h=>⟨h.1.2 x H,h.2.1,trivial⟩) rfl fun y=>?_;obtain⟨⟨a6,a8,a5,a7,a3⟩,hq⟩:=y;have S:=hq.row;dsimp only at S;have V:(x.pieces (i:Int)).length≠0:=fun e=>Ax.pieces_ne _ G (List.eq_nil_of_length_eq_zero e)
        obtain⟨g,cp,cur,rfl,rfl,h_1,h_2,h_3,a2⟩:=S.some V;refine bq_ ?_;refine aX_ rfl ?_;refine be_ ?_;refine aG_ ?_;refine e_ (al_ rfl) rfl ?_;refine e_ (al_ rfl) rfl ?_;refine e_ (kl_ rfl) rfl ?_;refine e_ (bR_ ca_ rfl rfl rfl yj_) rfl ?_;refine e_ (aE_ 0 Tryz.isAgg63 rfl rfl rfl) rfl ?_;refine an_ vP_ hk.2.1 rfl rfl (@List.perm_append_comm _ [_,_,_,_] _) (by rw[dr_ Pc.cells 10 Pc.cells_len]) (tz_ 2 rfl a2) (fun u hu=>by obtain⟨y,_,E⟩:=List.mem_flatMap.1 hu;exact jN_ y.cells_one u E) zm_ za_ rfl fun N W M=>?_;refine z_ (@List.perm_append_comm _ _ [_,_,_,_]) ?_;have a1:∃ m k,N=.slice m (p.length+(x.pieces (i:Int)).length) k:=aw_.form M;obtain⟨m,k,L⟩:=a1;refine e_ (ay_ rfl) rfl ?_;refine bq_ ?_;refine aX_ rfl ?_;refine be_ ?_;refine aG_ ?_;refine e_ (al_ rfl) rfl ?_;refine e_ (dy_ (ad:=m) (len:=p.length+(x.pieces (i:Int)).length) (cap:=k) D_ (congrArg some L)) rfl ?_;refine B_ (dw_ rfl rfl) rfl fun a0 C=>?_;refine bq_ ?_;refine aX_ rfl ?_;cases a0
        · skip
          replace C:=zdf C;try dsimp only[Con.kind,Con.parts,Con.name,Con.lo,Con.hi,Con.cap,Con.ad]at C
          refine eZ_ rfl ?_;refine gL_ ?_;refine aX_ rfl ?_;refine aG_ ?_;refine e_ (bc_ rfl rfl rfl (ck_ za_ za_)) rfl ?_;refine e_ (al_ rfl) rfl ?_;refine bq_ ?_;refine fI_ rfl ?_;exact x_ ⟨(i+1,p++x.pieces (i:Int),N,W),J,by simpa [List.flatMap_append] using M,by simp only[List.length_append];omega,by rw[hk.2.2.2,jZ_ K];simp only[hu_];rw[if_neg (by simp only[List.length_append];omega)]⟩ zn_ zl (F:=[_,_,_,_]) (@List.perm_append_comm _ [_,_,_,_] _) zh
        · skip
          replace C:=zdt C;try dsimp only[Con.kind,Con.parts,Con.name,Con.lo,Con.hi,Con.cap,Con.ad]at C
          refine bX_ rfl ?_;refine be_ ?_;refine aG_ ?_;refine e_ (ay_ rfl) rfl ?_;refine e_ (ay_ rfl) rfl ?_;refine bq_ ?_;refine aX_ rfl ?_;refine iC_ ?_;have e:bB_ l=([],2):=by unfold bB_;rw[if_neg za_,if_neg (by simp[fm_ I]),hk.2.2.2,jZ_ K];simp only[hu_];rw[if_pos (by simp only[List.length_append];omega)]
          have E:(bB_ l).1.length≤0∧0≤maxLen∧((none:Option Addr)=none→0=0):=by rw[e];simp
          have P:Value.tuple #[.slice none 0 0,.int .i64 2]=.tuple #[.slice none (bB_ l).1.length 0,.int .i64 (bB_ l).2]:=by rw[e]<;>rfl
          have O:(bB_ l).1.flatMap Pc.cells=[]:=by rw[e]<;>rfl
          exact kv_ Tryz.results31 ⟨(none,0),E⟩ rfl rfl P (.refl _) (fun v _ h=>⟨.inl O,trivial⟩)
    · skip
      replace B:=zdt B;try dsimp only[Con.kind,Con.parts,Con.name,Con.lo,Con.hi,Con.cap,Con.ad]at B
      have J:i<l.length:=by omega
      obtain⟨x,K⟩:∃ x,l[i]? = some x:=⟨_,List.getElem?_eq_getElem J⟩;have H:x∈l:=List.mem_of_getElem? K;refine bX_ rfl ?_;refine gL_ ?_;refine aX_ rfl ?_;refine be_ ?_;refine gM_ ?_;refine be_ ?_;refine aG_ ?_;refine e_ (Q_ aU_ br_ rfl rfl (fun v _ h=>as_ (n:=16) Ax.cells_len ze_ (h.1.1) K) za_ zg_) rfl ?_;refine e_ (aj_ (ad:=ad) (us:=x.cells) rL_ br_ rfl (fun v _ h=>h.1.1) (Ax.cells_len _) (o_ Ax.cells_len K)) rfl ?_;refine G_ cE_ rfl fun Y=>?_;refine mH_ (us:=x.cells) 0 br_ x.cells_len x.one_cells rfl rfl rfl rfl ?_;refine bq_ ?_;refine aX_ rfl ?_;refine be_ ?_;refine aG_ ?_;refine e_ (nJ_ (us:=x.cells) 0 rL_ br_ x.cells_len rfl rfl) rfl ?_;refine g_ (hD_ x (R x H)) rfl (.refl _) (fun v _ h=>⟨h.1.2 x H,h.2.1,trivial⟩) rfl fun _=>?_;refine e_ (ay_ rfl) rfl ?_;refine bq_ ?_;refine aX_ rfl ?_;refine be_ ?_;refine aG_ ?_;refine e_ (al_ rfl) rfl ?_;refine B_ (bU_ rfl rfl) rfl fun Q d=>?_;refine bq_ ?_;refine aX_ rfl ?_;cases Q
      · skip
        replace d:=fi_ d;try dsimp only[Con.kind,Con.parts,Con.name,Con.lo,Con.hi,Con.cap,Con.ad]at d
        refine eZ_ rfl ?_;refine gL_ ?_;refine aX_ rfl ?_;refine aG_ ?_;refine e_ (bc_ rfl rfl rfl (ck_ za_ za_)) rfl ?_;refine e_ (al_ rfl) rfl ?_;refine bq_ ?_;refine fI_ rfl ?_;exact x_ ⟨i+1,J,fun y E=>by rw[List.take_add_one,K]at E;simp only[Option.toList_some,List.mem_append,List.mem_singleton]at E;rcases E with E|rfl;exact hk.2 y E;assumption⟩ zn_ zl (@List.perm_append_comm _ [_] _) zh
      · skip
        replace d:=fg_ d;try dsimp only[Con.kind,Con.parts,Con.name,Con.lo,Con.hi,Con.cap,Con.ad]at d
        refine bX_ rfl ?_;refine be_ ?_;refine aG_ ?_;refine e_ (al_ rfl) rfl ?_;refine e_ (ay_ rfl) rfl ?_;refine e_ (ay_ rfl) rfl ?_;refine bq_ ?_;refine aX_ rfl ?_;refine iC_ ?_;have e:bB_ l=([],x.check):=by unfold bB_;rw[if_neg za_,qH_ K hk.2 zi_,if_pos zi_]
        have E:(bB_ l).1.length≤0∧0≤maxLen∧((none:Option Addr)=none→0=0):=by rw[e];simp
        have P:Value.tuple #[.slice none 0 0,.int .i64 x.check]=.tuple #[.slice none (bB_ l).1.length 0,.int .i64 (bB_ l).2]:=by rw[e]<;>rfl
        have O:(bB_ l).1.flatMap Pc.cells=[]:=by rw[e]<;>rfl
        exact kv_ Tryz.results31 ⟨(none,0),E⟩ rfl rfl P (.refl _) (fun v _ h=>⟨.inl O,trivial⟩)
  · skip
    replace A:=zdt A;try dsimp only[Con.kind,Con.parts,Con.name,Con.lo,Con.hi,Con.cap,Con.ad]at A
    refine bX_ rfl ?_;refine be_ ?_;refine aG_ ?_;refine e_ (ay_ rfl) rfl ?_;refine e_ (ay_ rfl) rfl ?_;refine bq_ ?_;refine aX_ rfl ?_;refine iC_ ?_;have e:bB_ l=([],2):=by unfold bB_;rw[if_pos za_]
    have E:(bB_ l).1.length≤0∧0≤maxLen∧((none:Option Addr)=none→0=0):=by rw[e];simp
    have P:Value.tuple #[.slice none 0 0,.int .i64 2]=.tuple #[.slice none (bB_ l).1.length 0,.int .i64 (bB_ l).2]:=by rw[e]<;>rfl
    have O:(bB_ l).1.flatMap Pc.cells=[]:=by rw[e]<;>rfl
    exact kv_ Tryz.results31 ⟨(none,0),E⟩ rfl rfl P (.refl _) (fun v _ h=>⟨.inl O,trivial⟩)
theorem ew_ {N:Nf} {fr:Fr} {H:Hp} {Γ:List Fct} {ty m:TypeId} {x y:Operand} {p q:Fc} (h:Fr.ev fr x=some p.val) (k:Fr.ev fr y=some q.val):Yld Tryz.prog N fr H Γ (.binOp .eql 36 x y m) ty (.bool (decide (p=q))) :=
  fun a v e _ _ _ _ _=>by
    have A:(Program.eqGuardType Tryz.prog Tryz.prog.depth 36)=false:=by kernel_rfl
    have d:=eqFc p q v.w;simp only[execOp,e.ev h,e.ev k,eqGuard,Fc.val,binOp,Op.equal,Sem.run_bind,Result.andThen_ok];simp only[run_program,Result.andThen_ok,A,Bool.not_false,if_true,Sem.run_pure];simp only[Fc.val]at d;simp[Op.maxDepth,d]
theorem gD_ {N:Nf} {fr:Fr} {H:Hp} {Γ:List Fct} {ty m:TypeId} {x y:Operand} {p q:Fc} (h:Fr.ev fr x=some p.val) (k:Fr.ev fr y=some q.val):Yld Tryz.prog N fr H Γ (.binOp .neq 36 x y m) ty (.bool (decide (p≠q))) :=
  fun a v e _ _ _ _ _=>by
    have A:(Program.eqGuardType Tryz.prog Tryz.prog.depth 36)=false:=by kernel_rfl
    have d:=eqFc p q v.w;simp only[execOp,e.ev h,e.ev k,eqGuard,Fc.val,binOp,Op.equal,Sem.run_bind,Result.andThen_ok];simp only[run_program,Result.andThen_ok,A,Bool.not_false,if_true,Sem.run_pure];simp only[Fc.val]at d;simp[Op.maxDepth,d]
theorem oG_ (s:Str) (c:UInt8):Fn0 Tryz.prog 247 #[str s,str [c]] (.int .i64 (Lib.indexByte s c)) :=
  hw_ (callable Tryz.func247 rfl rfl) fun w=>(Tryz.strings_Index_one ⟨s.toArray⟩ c w).mono zG_
theorem ny_ (s:Str) (c:UInt8) (k:Nat) (hk:ixS c s=some k):Fn0 Tryz.prog 247 #[str s,str [c]] (.int .i64 (k:Int)):=by
  have h:=oG_ s c;rw[lR_,hk]at h;exact h
theorem uJ_ (s:Str) (c:UInt8):Fn0 Tryz.prog 246 #[str s,str [c]] (.int .i64 (dL_ c s:Int)) :=
  hw_ (callable Tryz.func246 rfl rfl) fun w=>(Tryz.strings_Count_one ⟨s.toArray⟩ c w).mono zG_
theorem ok_H {N:Nf} {d:Vw} {m:Hp} {k:Act→World→Prop} {fr:Fr} {H H':Hp} {Γ:List Fct} (e:H=H') (h:Ok N d m k fr H' Γ):Ok N d m k fr H Γ:=e▸h
theorem rP_ (s:Str) (c:UInt8) (L:s.length≤17592186044414):Tri Tryz.prog 215 #[str s,str [c],.int .i64 0,.int .i64 (-1)] [] [] (fun b:Nat=>.slice (some ⟨b,0,none⟩) (ba_ c s).length (ba_ c s).length) (fun _=>[]) (fun b=>[ah_ (some ⟨b,0,none⟩) ((ba_ c s).flatMap af_)]):=by
 have I:=sO_ c s;refine i_ Tryz.func215 rfl rfl Tryz.ntmps215 rfl fun J=>?_;refine Zi 9 (fun A=>?_) fun A=>?_
 ·refine Zi 9 (fun y=>?_) fun y=>?_
  ·refine Zi 9 (fun v=>?_) fun v=>?_
   ·exact absurd ze_ v
   refine Zz 6 ?_;refine g_ (uJ_ s c) rfl (.refl _) zt rfl fun _=>Zz 8 ?_
   refine e_ (cG_ V_ rfl) rfl (Zz 1 ?_);refine e_ (ar_ (si_ rfl rfl) (show _=Value.int .i64 ((dL_ c s+1:Nat):Int) by rw[if_neg za_];rfl)) rfl ?_;refine Zz 6 ?_;refine tC_ (n:=dL_ c s+1) (by':=16) ib_ (z:=.string ⟨#[]⟩) zk rfl rfl rfl za_ za_ rfl fun d=>Zz 6 ?_
   refine e_ (ar_ (bc_ rfl rfl rfl (ck_ za_ za_)) (show _=Value.int .i64 (dL_ c s:Int) by first|rfl|(congr 1;omega))) rfl ?_;refine Zz 10 ?_;refine bt_ [(0,str s),(1,str [c]),(2,.int .i64 0),(3,.int .i64 (dL_ c s:Int)),(9,.slice (some ⟨d,0,none⟩) (dL_ c s+1) (dL_ c s+1)),(10,.int .i64 ((0:Nat):Int))] zl ?_;refine bQ_ (ι:={x:Nat×List Str×Str // x.2.1.length=x.1∧ba_ c s=x.2.1++ba_ c x.2.2∧x.1+dL_ c x.2.2=dL_ c s∧x.2.2.length≤s.length}) (fun x=>[(0,str x.1.2.2),(1,str [c]),(2,.int .i64 0),(3,.int .i64 (dL_ c s:Int)),(9,.slice (some ⟨d,0,none⟩) (dL_ c s+1) (dL_ c s+1)),(10,.int .i64 (x.1.1:Int))]) (fun x=>[(d,.cells (x.1.2.1.map str++List.replicate (dL_ c s+1 - x.1.1) (Value.string ⟨#[]⟩)).toArray 9 (0,0))]) (fun _=>_) (fun x=>dL_ c s - x.1.1) ⟨(0,[],s),rfl,rfl,by simp,by simp⟩ ?_;rintro ⟨⟨i,dn,r⟩,hk⟩;dsimp only at hk;obtain⟨m,h,G,E⟩:=hk;refine bt_ [(0,str r),(1,str [c]),(2,.int .i64 0),(3,.int .i64 (dL_ c s:Int)),(9,.slice (some ⟨d,0,none⟩) (dL_ c s+1) (dL_ c s+1)),(10,.int .i64 (i:Int))] zl ?_;have C:∀ k,k<dL_ c s+1→List.replicate (dL_ c s+1 - k) (Value.string ⟨#[]⟩)=Value.string ⟨#[]⟩::List.replicate (dL_ c s - k) (Value.string ⟨#[]⟩):=fun k hk=>by rw[show dL_ c s+1 - k=(dL_ c s - k)+1 by omega];rfl
   refine ok_H (H':=[(d,.cells (dn.map str++Value.string ⟨#[]⟩::List.replicate (dL_ c s - i) (Value.string ⟨#[]⟩)).toArray 9 (0,0))]) (by dsimp only;rw[C i za_]) ?_;refine Zi 5 (fun B=>?_) fun B=>?_
   ·obtain rfl:i=dL_ c s:=by omega
    have e : ba_ c r = [r] := by
                  cases hx:ixS c r with
                  | none=>exact gn_ hx
                  | some k=>have:=os_ hx;omega
    rw[e]at h;refine Zz 10 ?_;refine e_ (eU_ l_ E_ rfl rfl za_ za_) rfl (mI_ 0 E_ rfl rfl rfl (by simp[m]) rfl rfl (Zz 6 ?_));refine e_ (ar_ (bc_ rfl rfl rfl (ck_ za_ za_)) (show _=Value.int .i64 ((dL_ c s+1:Nat):Int) by first|rfl|(congr 1;omega))) rfl ?_;refine e_ (ar_ (dE_ (i:=0) (j:=dL_ c s+1) (kl:=.i64) (kh:=.i64) l_ E_ rfl rfl rfl za_ za_) (show _=Value.slice (some ⟨d,0,none⟩) (dL_ c s+1) (dL_ c s+1) by rw[pO_];rfl)) rfl ?_;refine Zz 4 ?_;refine cM_ ((ba_ c s).flatMap af_) d_ (by rw[h,mp_];simp) ?_;have hl:=eX_ c s;exact ae_ Tryz.results215 d (fG_ rfl (by rw[hl])) (.refl _) zf
   obtain ⟨k, q⟩ : ∃ k, ixS c r = some k := by
                 cases hx:ixS c r with
                 | none=>have:=tW_ hx;omega
                 | some k=>exact⟨k,rfl⟩
   have H:=os_ q;have K:=rI_ q;refine Zz 10 ?_;refine g_ (ny_ r c k q) rfl (.refl _) zt rfl fun _=>Zi 7 (fun e=>?_) fun e=>?_
   ·refine Zz 12 ?_
    refine e_ (ar_ (bc_ rfl rfl rfl (ck_ za_ za_)) (show _=Value.int .i64 (k:Int) by first|rfl|(congr 1;omega))) rfl ?_;refine e_ (ar_ (eQ_ (i:=0) (j:=k) (kl:=.i64) (kh:=.i64) V_ rfl rfl rfl za_ za_) (show _=str (r.take k) by simp)) rfl (e_ (eU_ l_ E_ rfl rfl za_ za_) rfl (mI_ 0 E_ rfl rfl rfl (by simp[m]) rfl rfl (Zz 7 ?_)));refine e_ (cG_ V_ rfl) rfl (e_ (ar_ (bc_ rfl rfl rfl (ck_ zy_ zy_)) (show _=Value.int .i64 ((k+1:Nat):Int) by first|rfl|(congr 1;omega))) rfl ?_);refine e_ (ar_ (eQ_ (i:=k+1) (j:=r.length) (kl:=.i64) (kh:=.i64) V_ rfl rfl rfl za_ za_) (show _=str (r.drop (k+1)) by rw[List.take_of_length_le zj_])) rfl (Zz 5 ?_);refine e_ (ar_ (bc_ rfl rfl rfl (ck_ za_ za_)) (show _=Value.int .i64 ((i+1:Nat):Int) by first|rfl|(congr 1;omega))) rfl ?_;refine Zz 3 ?_;exact x_ ⟨(i+1,dn++[r.take k],r.drop (k+1)),by simp[m],by rw[h,if_ q,List.append_assoc];rfl,by dsimp only;omega,by simp;omega⟩ zb_ zl (F:=[]) (List.Perm.of_eq (by simp[show dL_ c s+1 - (i+1)=dL_ c s - i by omega])) zh
   exfalso;omega
  cases y
 exact absurd A ze_
theorem wK_ (s:Str) (c:UInt8) (d:s.length≤17592186044414):Tri Tryz.prog 192 #[str s,str [c]] [] [] (fun b:Nat=>.slice (some ⟨b,0,none⟩) (ba_ c s).length (ba_ c s).length) (fun _=>[]) (fun b=>[ah_ (some ⟨b,0,none⟩) ((ba_ c s).flatMap af_)]):=by
  refine i_ Tryz.func192 rfl rfl Tryz.ntmps192 rfl fun e=>?_;refine Zz 9 ?_;refine g_ (rP_ s c d) rfl (.refl _) zt rfl fun b=>Zz 4 ?_
  exact ae_ Tryz.results192 b rfl (.refl _) zf
theorem oY_ {g:FuncId} {pred:Str→Bool} (d:List Str) (ad:Option Addr) (cap:Nat) (B:d.length≤17592186044415) (E:∀ x∈d,Fn0 Tryz.prog g #[str x] (.bool (pred x))) :
    Tri Tryz.prog 216 #[.slice ad (List.length d) cap,.func (.func g) #[] #[]] [] [ah_ ad (List.flatMap af_ d)] (fun r:{r:Int // decide (0≤r)=d.any pred}=>.int .i64 r.1) (fun _=>[]) (fun _=>[]):=by
  refine i_ Tryz.func216 rfl rfl Tryz.ntmps216 rfl fun C=>?_;refine Zz 14 ?_;refine bt_ [(0,.slice ad (List.length d) cap),(1,.func (.func g) #[] #[]),(7,.int .i64 (List.length d:Int)),(8,.int .i64 ((0:Nat):Int))] zl ?_;refine bQ_ (ι:={q:Nat // q≤d.length∧(d.take q).any pred=false}) (fun i=>[(0,.slice ad (List.length d) cap),(1,.func (.func g) #[] #[]),(7,.int .i64 (List.length d:Int)),(8,.int .i64 (i.1:Int))]) (fun _=>_) (fun _=>_) (fun i=>d.length - i.1) ⟨0,by simp⟩ ?_;rintro ⟨i,hk⟩;refine bt_ [(0,.slice ad (List.length d) cap),(1,.func (.func g) #[] #[]),(7,.int .i64 (List.length d:Int)),(8,.int .i64 (i:Int))] zl ?_;refine Zi 2 (fun m=>?_) fun m=>?_
  · skip
    refine Zz 12 ?_;exact ae_ Tryz.results216 ⟨-1,by have:=hk.2;rw[List.take_of_length_le za_]at this;show _=d.any pred;rw[this];rfl⟩ rfl (.refl _) zt
  · skip
    obtain⟨h,k,v,e⟩:=zge (show i<List.length d by omega);refine Zz 21 ?_;refine bH_ (E k e) rfl rfl m_ zt rfl fun y A=>Zz 2 ?_
    cases y
    · skip
      refine Zz 8 ?_;exact x_ ⟨i+1,h,by rw[List.take_add_one,v];simp only[Option.toList_some,List.any_append,hk.2];simp[*]⟩ zn_ zl (.refl _) zh
    · skip
      refine Zz 8 ?_;exact ae_ Tryz.results216 ⟨(i:Int),by show _=d.any pred;rw[show d.any pred=true from List.any_eq_true.2 ⟨k,e,by assumption⟩];exact decide_eq_true za_⟩ rfl (.refl _) zt
theorem lI_ {g:FuncId} {pred:Str→Bool} (d:List Str) (ad:Option Addr) (cap:Nat) (e:d.length≤17592186044415) (k:∀ x∈d,Fn0 Tryz.prog g #[str x] (.bool (pred x))) :
    Tri Tryz.prog 193 #[.slice ad (List.length d) cap,.func (.func g) #[] #[]] [] [ah_ ad (List.flatMap af_ d)] (fun _:Unit=>.bool (d.any pred)) (fun _=>[]) (fun _=>[]):=by
  refine i_ Tryz.func193 rfl rfl Tryz.ntmps193 rfl fun m=>?_;refine Zz 9 ?_;refine g_ (oY_ d ad cap e k) rfl m_ zf rfl fun x=>B_ (eB_ rfl rfl) rfl fun q h=>Zz 4 ?_
  exact ae_ Tryz.results193 () (n_ rfl (h.symm.trans x.2)) (.refl _) zt
theorem tM_ (s:Str) (d:s.length≤140737488351232):Fn0 Tryz.prog 194 #[str s] (.bool (!aM_ s)):=by
  refine i_ Tryz.func194 rfl rfl Tryz.ntmps194 rfl fun h=>?_;refine Zz 8 ?_;refine T_ (ga_ s d) rfl m_ zt rfl fun k e=>e_ (ax_ rfl) rfl (Zz 4 ?_)
  exact ae_ Tryz.results194 () (n_ rfl (by simp[*])) (.refl _) zt
theorem hk_ {c:UInt8}:∀ {s x:Str},x∈ba_ c s→x.length≤s.length
 | [],x,h=>by simp[ba_]at h;simp[h]
 | b::s,x,h=>by
   simp only[ba_]at h
   split at h
   · rcases List.mem_cons.1 h with rfl|h
     · simp
     · have:=hk_ h;simp only[List.length_cons];omega
   · cases hs:ba_ c s with
     | nil=>exact absurd hs (ko_ c s)
     | cons y t =>
       rw[hs]at h;rcases List.mem_cons.1 h with rfl|h
       · have:=hk_ (c:=c) (s:=s) (x:=y) (by rw[hs];simp);simp only[List.length_cons];omega
       · have:=hk_ (c:=c) (s:=s) (x:=x) (by rw[hs];simp[h]);simp only[List.length_cons];omega
theorem kO_ {G:Prop} (h:G:=by
 exact ae_ Tryz.results158 () (n_ rfl (by unfold cA_;subst_vars;rw[Bool.eq_iff_iff];simp_all<;>omega)) (.refl _) zt):G:=h
theorem in_ (s:Str) (q:s.length≤17592186044414):Fn0 Tryz.prog 158 #[str s] (.bool (cA_ s)):=by
 refine i_ Tryz.func158 rfl rfl Tryz.ntmps158 rfl fun y=>?_;have m:=eX_ 46 s;have v:=sO_ 46 s;refine Zz 8 ?_;refine g_ (wK_ s 46 q) rfl m_ zt rfl fun b=>Zi 7 (fun d=>?_) fun d=>?_
 ·refine Zz 9 ?_
  exact kO_
 refine Zz 4 ?_;refine T_ (lI_ (pred:=fun r=>!aM_ r) (ba_ 46 s) _ _ za_ (fun x k=>tM_ x (by have:=hk_ k;omega))) rfl m_ zf rfl fun h e=>?_;refine aR_ rfl rfl (e_ (ax_ rfl) rfl (Zz 5 ?_));exact kO_
theorem kL_ {G:Prop} (h:G:=by
 refine T_ (ga_ _ zQ_) rfl m_ zt rfl fun k v=>?_;exact fn_):G:=h
theorem kM_ {G:Prop} (h:G:=by
 refine T_ (ga_ _ zQ_) rfl m_ zt rfl fun k h=>?_;exact fn_):G:=h
theorem kN_ {G:Prop} (h:G:=by
 refine T_ (ga_ _ zQ_) rfl m_ zt rfl fun k d=>?_;exact fn_):G:=h
theorem fn_ {G:Prop} (h:G:=by
 refine Zz 4 ?_;exact fo_):G:=h
theorem fo_ {G:Prop} (h:G:=by
 exact ae_ Tryz.results160 () (n_ rfl (by unfold bd_;(repeat (any_goals split))<;>first|rfl|(simp_all;done)|(exfalso;simp_all;omega)|(exfalso;simp_all;done))) (.refl _) zt):G:=h
theorem gR_ (s:Str) (y:s.length≤140737488351232):Fn0 Tryz.prog 160 #[str s] (.bool (bd_ s)):=by
 refine i_ Tryz.func160 rfl rfl Tryz.ntmps160 rfl fun L=>?_;refine Zz 8 ?_;refine e_ (cG_ V_ rfl) rfl (Zi 8 (fun C=>?_) fun C=>?_)
 ·refine Zi 4 (fun B=>?_) fun B=>?_
  ·refine Zi 8 (fun A=>?_) fun A=>?_
   ·refine Zi 19 (fun x=>?_) fun x=>?_
    ·refine Zz 21 ?_
     refine T_ (ga_ _ zQ_) rfl m_ zt rfl fun k m=>?_;exact fn_
    exfalso;omega
   obtain⟨c,E⟩:∃ c,s[0]? = some c:=⟨_,List.getElem?_eq_getElem za_⟩;obtain⟨e,F⟩:∃ e,s[s.length - 1]? = some e:=⟨_,List.getElem?_eq_getElem za_⟩
   have H:(s[0]? = some 123)↔((c.toNat:Int)=123):=by
     rw[E];simp only[Option.some.injEq];exact⟨fun q=>by subst q;rfl,fun q=>UInt8.toNat_inj.1 (by show c.toNat=123;omega)⟩
   have K:(s[s.length - 1]? = some 125)↔((e.toNat:Int)=125):=by
     rw[F];simp only[Option.some.injEq];exact⟨fun q=>by subst q;rfl,fun q=>UInt8.toNat_inj.1 (by show e.toNat=125;omega)⟩
   have G:(s[0]? = some 60)↔((c.toNat:Int)=60):=by
     rw[E];simp only[Option.some.injEq];exact⟨fun q=>by subst q;rfl,fun q=>UInt8.toNat_inj.1 (by show c.toNat=60;omega)⟩
   have J:(s[s.length - 1]? = some 62)↔((e.toNat:Int)=62):=by
     rw[F];simp only[Option.some.injEq];exact⟨fun q=>by subst q;rfl,fun q=>UInt8.toNat_inj.1 (by show e.toNat=62;omega)⟩
   refine Zz 4 ?_;refine e_ (dU_ V_ rfl rfl ze_ E) rfl (aR_ rfl rfl ?_);refine Zi 0 (fun x=>?_) fun x=>?_
   ·refine Zi 15 (fun m=>?_) fun m=>?_
    ·refine Zz 21 ?_
     exact kN_
    refine Zz 4 ?_;refine e_ (dU_ V_ rfl rfl ze_ E) rfl (aR_ rfl rfl ?_);refine Zi 0 (fun d=>?_) fun d=>?_
    ·refine Zz 17 ?_
     exact kM_
    refine Zz 9 ?_;refine e_ (dU_ V_ rfl rfl za_ (show s[((s.length:Int) - 1).toNat]? = some e by rw[show ((s.length:Int) - 1).toNat=s.length - 1 by omega];exact F)) rfl ?_;refine aR_ rfl rfl ?_;refine Zi 0 (fun h=>?_) fun h=>?_
    ·refine Zz 10 ?_
     exact kL_
    refine Zz 11 ?_;exact fo_
   refine Zz 9 ?_;refine e_ (dU_ V_ rfl rfl za_ (show s[((s.length:Int) - 1).toNat]? = some e by rw[show ((s.length:Int) - 1).toNat=s.length - 1 by omega];exact F)) rfl ?_;refine aR_ rfl rfl ?_;refine Zi 0 (fun m=>?_) fun m=>?_
   ·refine Zi 8 (fun d=>?_) fun d=>?_
    ·refine Zz 21 ?_
     exact kM_
    refine Zz 4 ?_;refine e_ (dU_ V_ rfl rfl ze_ E) rfl (aR_ rfl rfl ?_);refine Zi 0 (fun h=>?_) fun h=>?_
    ·refine Zz 17 ?_
     exact kL_
    refine Zz 9 ?_;refine e_ (dU_ V_ rfl rfl za_ (show s[((s.length:Int) - 1).toNat]? = some e by rw[show ((s.length:Int) - 1).toNat=s.length - 1 by omega];exact F)) rfl ?_;refine aR_ rfl rfl ?_;refine Zi 0 (fun v=>?_) fun v=>?_
    ·refine Zz 10 ?_
     refine T_ (ga_ _ zQ_) rfl m_ zt rfl fun k I=>?_;exact fn_
    refine Zz 11 ?_;exact fo_
   refine Zz 10 ?_;refine e_ (eQ_ (i:=1) (j:=s.length - 1) (kl:=.i64) (kh:=.i64) V_ rfl rfl (show _=some (Value.int .i64 ((s.length - 1:Nat):Int)) by rw[show ((s.length - 1:Nat):Int)=(s.length:Int) - 1 by omega];rfl) za_ za_) rfl ?_;exact kN_
  refine Zz 11 ?_;exact fo_
 refine Zz 14 ?_;exact fo_
theorem hQ_ {G:Prop} (h:G:=by
 exact ae_ Tryz.results157 () (n_ rfl (by unfold cb_;subst_vars;rw[Bool.eq_iff_iff];simp_all)) (.refl _) zt):G:=h
theorem en_ {g:FuncId} (d:Bool) (s:Str) (q:Str→Bool) (k:Fn0 Tryz.prog g #[str s] (.bool (q s))):Fn0 Tryz.prog 157 #[.bool d,str s,.func (.func g) #[] #[]] (.bool (cb_ d s q)):=by
 refine i_ Tryz.func157 rfl rfl Tryz.ntmps157 rfl fun m=>?_;refine Zz 9 ?_;cases d
 ·refine Zz 8 ?_
  refine e_ (ax_ rfl) rfl (Zz 5 ?_);refine B_ (cT_ rfl rfl) rfl fun e h=>Zz 7 ?_
  exact hQ_
 refine Zz 5 ?_;refine bH_ (k) rfl rfl m_ zt rfl fun e h=>Zz 2 ?_
 cases e
 ·refine Zz 3 ?_
  refine e_ (ax_ rfl) rfl (Zz 11 ?_);exact hQ_
 refine Zz 11 ?_;exact hQ_
theorem hO_ {G:Prop} (h:G:=by
 exact met ⟨rfl,rfl,rfl,rfl,rfl,(n_ rfl (jot d)),trivial⟩):G:=h
theorem hP_ {G:Prop} (h:G:=by
 refine Zz 6 ?_;exact met ⟨rfl,rfl,(n_ rfl (jot d)),trivial⟩):G:=h
theorem gf_ {G:Prop} (h:G:=by
 exact met ⟨rfl,rfl,rfl,rfl,(n_ rfl (jaf d)),trivial⟩):G:=h
theorem kK_ {G:Prop} (h:G:=by
 refine Zz 7 ?_;exact ae_ Tryz.results113 () (n_ rfl (by unfold Pc.valid;rw[if_neg za_];simp only[T];first|(rw[if_pos (by first|(simp;omega)|omega)])|(rw[if_neg zj_,if_pos zn_]))) (.refl _) zt):G:=h
theorem gg_ {G:Prop} (h:G:=by
 refine Zz 9 ?_;exact met ⟨rfl,rfl,rfl,rfl,rfl,(n_ rfl (jaf d)),trivial⟩):G:=h
theorem tL_ (p:Pc) (hp:p.sm):Tri Tryz.prog 113 #[Pc.val p] [] [ji_] (fun _:Unit=>.bool p.valid) (fun _=>[]) (fun _=>[]):=by
 refine i_ Tryz.func113 rfl rfl Tryz.ntmps113 rfl fun v_1=>?_;obtain⟨ha,hb,hc,hr,hs,ht⟩:=hp;refine Zz 2 ?_;refine aa_ rfl rfl fun B=>Zz 8 ?_
 refine B_ (cY_ rfl rfl) rfl fun a2 H=>Zz 1 ?_
 refine ai_ 4 ((decide (p.kind<1))||(decide (9<p.kind))) (fun r=>[(1,zp_ B 0),(2,.bool false),(13,.bool r)]) ?_ fun a1 K=>?_
 ·cases a2
  ·have d:=H
   replace H:=zdf H;refine Zz 5 ?_;refine B_ (dw_ rfl rfl) rfl fun a0 G=>Zz 3 ?_
   exact met (zm (jof d G))
  have d:=H;replace H:=zdt H;exact hP_
 refine Zz 1 ?_;refine ai_ 4 ((((decide (p.kind<1))||(decide (9<p.kind))))||(decide (p.frm<(-1)))) (fun r=>[(1,zp_ B 0),(2,.bool false),(18,.bool r)]) ?_ fun a0 G=>?_
 ·cases a1
  ·have d:=K
   simp at K
   refine Zz 5 ?_;refine B_ (cY_ rfl rfl) rfl fun Z L=>Zz 3 ?_
   exact met (zm (jof d L))
  have d:=K;simp at K
  exact hP_
 refine Zz 1 ?_;refine ai_ 4 ((((((decide (p.kind<1))||(decide (9<p.kind))))||(decide (p.frm<(-1)))))||(decide (1024≤p.frm))) (fun r=>[(1,zp_ B 0),(2,.bool false),(23,.bool r)]) ?_ fun Z L=>?_
 ·cases a0
  ·have d:=G
   simp at G
   refine Zz 5 ?_;refine B_ (eB_ rfl rfl) rfl fun Q m=>Zz 3 ?_
   exact met (zm (jof d m))
  have d:=G;simp at G
  exact hP_
 refine Zz 2 ?_;cases Z
 ·simp at L
  obtain⟨u,hx⟩:∃ u,gq_[p.kind.toNat]? = some u:=⟨_,List.getElem?_eq_getElem (show p.kind.toNat<10 by omega)⟩;have T:nus p.kind=u:=by simp[nus,hx]
  obtain⟨N,ub,P,R,us,Y,un⟩:=u;refine Zz 7 ?_;refine e_ (dV_ Tryz.runUnderlying205 Tryz.sizeOf204 rfl rfl (by show (0:Int)≤p.kind;omega) (by show p.kind<(10:Int);omega)) rfl ?_;refine e_ (aj_ (ad:=some ⟨2,0,none⟩) (us:=NUse.cells ⟨N,ub,P,R,us,Y,un⟩) Tryz.isAgg204 Tryz.sizeOf204 rfl (fun v _ h=>h.1) (NUse.cells_len _) (o_ NUse.cells_len hx)) rfl (G_ Tryz.zeroValue204 rfl fun F=>u_ 0 Tryz.sizeOf204 rfl rfl rfl rfl rfl rfl (Zz 19 ?_));cases un
  ·refine Zz 5 ?_
   refine B_ (bU_ rfl rfl) rfl fun Q m=>Zz 1 ?_
   refine ai_ 4 ((p.lo != 0)||(p.hi != 0)) (fun r=>[(1,zp_ B 0),(2,.bool false),(3,zp_ F 0),(4,.func (.func 157) #[] #[]),(5,.func (.func 158) #[] #[]),(52,.bool r)]) ?_ fun X C=>?_
   ·cases Q
    ·have d:=m
     replace m:=fi_ m;refine Zz 5 ?_;refine B_ (bU_ rfl rfl) rfl fun O A=>Zz 3 ?_
     exact met (zm (jof d A))
    have d:=m;replace m:=fg_ m;refine Zz 6 ?_;exact hO_
   refine Zz 2 ?_;cases X
   ·simp at C
    refine Zz 10 ?_;refine bH_ (en_ N p.a bd_ (gR_ _ za_)) rfl rfl m_ zt rfl fun O A=>Zz 1 ?_
    refine ai_ 7 ((cb_ N p.a bd_)&&(cb_ ub p.b bd_)) (fun r=>[(1,zp_ B 0),(2,.bool false),(3,zp_ F 0),(4,.func (.func 157) #[] #[]),(5,.func (.func 158) #[] #[]),(66,.bool r)]) ?_ fun S y=>?_
    ·cases O
     ·have d:=A
      exact gg_
     have d:=A;refine Zz 11 ?_;refine bH_ (en_ ub p.b bd_ (gR_ _ za_)) rfl rfl m_ zt rfl fun U x=>Zz 3 ?_
     exact met ⟨rfl,rfl,rfl,rfl,rfl,(n_ rfl (jat d x)),trivial⟩
    refine Zz 1 ?_;refine ai_ 7 ((((cb_ N p.a bd_)&&(cb_ ub p.b bd_)))&&(cb_ P p.c bd_)) (fun r=>[(1,zp_ B 0),(2,.bool false),(3,zp_ F 0),(4,.func (.func 157) #[] #[]),(5,.func (.func 158) #[] #[]),(74,.bool r)]) ?_ fun U x=>?_
    ·cases S
     ·have d:=y
      simp at y
      exact gg_
     have d:=y;simp at y
     refine Zz 11 ?_;refine bH_ (en_ P p.c bd_ (gR_ _ za_)) rfl rfl m_ zt rfl fun I e=>Zz 3 ?_
     exact met ⟨rfl,rfl,rfl,rfl,rfl,(n_ rfl (jat d e)),trivial⟩
    refine Zz 1 ?_;refine ai_ 8 ((((((cb_ N p.a bd_)&&(cb_ ub p.b bd_)))&&(cb_ P p.c bd_)))&&(cb_ R p.r cA_)) (fun r=>[(1,zp_ B 0),(2,.bool false),(3,zp_ F 0),(4,.func (.func 157) #[] #[]),(83,.bool r)]) ?_ fun I e=>?_
    ·cases U
     ·have d:=x
      simp at x
      refine Zz 10 ?_;exact gf_
     have d:=x;simp at x
     refine Zz 13 ?_;refine bH_ (en_ R p.r cA_ (in_ _ za_)) rfl rfl m_ zt rfl fun J k=>Zz 3 ?_
     exact met ⟨rfl,rfl,rfl,rfl,(n_ rfl (jat d k)),trivial⟩
    refine Zz 1 ?_;refine ai_ 7 ((((((((cb_ N p.a bd_)&&(cb_ ub p.b bd_)))&&(cb_ P p.c bd_)))&&(cb_ R p.r cA_)))&&(cb_ us p.s cA_)) (fun r=>[(1,zp_ B 0),(2,.bool false),(3,zp_ F 0),(4,.func (.func 157) #[] #[]),(91,.bool r)]) ?_ fun J k=>?_
    ·cases I
     ·have d:=e
      simp at e
      refine Zz 9 ?_;exact gf_
     have d:=e;simp at e
     refine Zz 11 ?_;refine bH_ (en_ us p.s cA_ (in_ _ za_)) rfl rfl m_ zt rfl fun M q=>Zz 3 ?_
     exact met ⟨rfl,rfl,rfl,rfl,(n_ rfl (jat d q)),trivial⟩
    refine Zz 1 ?_;refine ai_ 7 ((((((((((cb_ N p.a bd_)&&(cb_ ub p.b bd_)))&&(cb_ P p.c bd_)))&&(cb_ R p.r cA_)))&&(cb_ us p.s cA_)))&&(cb_ Y p.t cA_)) (fun r=>[(2,.bool false),(99,.bool r)]) ?_ fun M q=>?_
    ·cases J
     ·have d:=k
      simp at k
      refine Zz 9 ?_;exact met ⟨rfl,(n_ rfl (jaf d)),trivial⟩
     have d:=k;simp at k
     refine Zz 11 ?_;refine bH_ (en_ Y p.t cA_ (in_ _ za_)) rfl rfl m_ zt rfl fun V E=>Zz 3 ?_
     exact met ⟨rfl,(n_ rfl (jat d E)),trivial⟩
    refine Zz 4 ?_;exact ae_ Tryz.results113 () (n_ rfl (by unfold Pc.valid;rw[if_neg za_];simp only[T];rw[if_neg (by simp<;>omega),if_neg (by simp<;>omega)];exact q.symm)) (.refl _) zt
   simp at C
   exact kK_
  refine Zz 10 ?_;refine B_ (cY_ rfl rfl) rfl fun Q m=>Zz 1 ?_
  refine ai_ 6 ((decide (p.lo<(-1099511627776)))||(decide (p.hi<p.lo))) (fun r=>[(1,zp_ B 0),(2,.bool false),(3,zp_ F 0),(4,.func (.func 157) #[] #[]),(5,.func (.func 159) #[] #[]),(39,.bool r)]) ?_ fun X C=>?_
  ·cases Q
   ·have d:=m
    replace m:=zdf m;refine Zz 9 ?_;refine B_ (dw_ rfl rfl) rfl fun O A=>Zz 3 ?_
    exact met (zm (jof d A))
   have d:=m;replace m:=zdt m;refine Zz 8 ?_;exact hO_
  refine Zz 1 ?_;refine ai_ 4 ((((decide (p.lo<(-1099511627776)))||(decide (p.hi<p.lo))))||(decide (1099511627776<p.hi))) (fun r=>[(1,zp_ B 0),(2,.bool false),(3,zp_ F 0),(4,.func (.func 157) #[] #[]),(5,.func (.func 159) #[] #[]),(44,.bool r)]) ?_ fun O A=>?_
  ·cases X
   ·have d:=C
    simp at C
    refine Zz 5 ?_;refine B_ (dw_ rfl rfl) rfl fun S y=>Zz 3 ?_
    exact met (zm (jof d y))
   have d:=C;simp at C
   refine Zz 6 ?_;exact hO_
  refine Zz 2 ?_;cases O
  ·simp at A
   refine Zz 10 ?_;refine bH_ (en_ N p.a bd_ (gR_ _ za_)) rfl rfl m_ zt rfl fun S y=>Zz 1 ?_
   refine ai_ 7 ((cb_ N p.a bd_)&&(cb_ ub p.b bd_)) (fun r=>[(1,zp_ B 0),(2,.bool false),(3,zp_ F 0),(4,.func (.func 157) #[] #[]),(5,.func (.func 159) #[] #[]),(66,.bool r)]) ?_ fun U x=>?_
   ·cases S
    ·have d:=y
     exact gg_
    have d:=y;refine Zz 11 ?_;refine bH_ (en_ ub p.b bd_ (gR_ _ za_)) rfl rfl m_ zt rfl fun I e=>Zz 3 ?_
    exact met ⟨rfl,rfl,rfl,rfl,rfl,(n_ rfl (jat d e)),trivial⟩
   refine Zz 1 ?_;refine ai_ 7 ((((cb_ N p.a bd_)&&(cb_ ub p.b bd_)))&&(cb_ P p.c bd_)) (fun r=>[(1,zp_ B 0),(2,.bool false),(3,zp_ F 0),(4,.func (.func 157) #[] #[]),(5,.func (.func 159) #[] #[]),(74,.bool r)]) ?_ fun I e=>?_
   ·cases U
    ·have d:=x
     simp at x
     exact gg_
    have d:=x;simp at x
    refine Zz 11 ?_;refine bH_ (en_ P p.c bd_ (gR_ _ za_)) rfl rfl m_ zt rfl fun J k=>Zz 3 ?_
    exact met ⟨rfl,rfl,rfl,rfl,rfl,(n_ rfl (jat d k)),trivial⟩
   refine Zz 1 ?_;refine ai_ 8 ((((((cb_ N p.a bd_)&&(cb_ ub p.b bd_)))&&(cb_ P p.c bd_)))&&(cb_ R p.r aM_)) (fun r=>[(1,zp_ B 0),(2,.bool false),(3,zp_ F 0),(4,.func (.func 157) #[] #[]),(83,.bool r)]) ?_ fun J k=>?_
   ·cases I
    ·have d:=e
     simp at e
     refine Zz 10 ?_;exact gf_
    have d:=e;simp at e
    refine Zz 13 ?_;refine bH_ (en_ R p.r aM_ (ga_ _ za_)) rfl rfl m_ zt rfl fun M q=>Zz 3 ?_
    exact met ⟨rfl,rfl,rfl,rfl,(n_ rfl (jat d q)),trivial⟩
   refine Zz 1 ?_;refine ai_ 7 ((((((((cb_ N p.a bd_)&&(cb_ ub p.b bd_)))&&(cb_ P p.c bd_)))&&(cb_ R p.r aM_)))&&(cb_ us p.s cA_)) (fun r=>[(1,zp_ B 0),(2,.bool false),(3,zp_ F 0),(4,.func (.func 157) #[] #[]),(91,.bool r)]) ?_ fun M q=>?_
   ·cases J
    ·have d:=k
     simp at k
     refine Zz 9 ?_;exact gf_
    have d:=k;simp at k
    refine Zz 11 ?_;refine bH_ (en_ us p.s cA_ (in_ _ za_)) rfl rfl m_ zt rfl fun V E=>Zz 3 ?_
    exact met ⟨rfl,rfl,rfl,rfl,(n_ rfl (jat d E)),trivial⟩
   refine Zz 1 ?_;refine ai_ 7 ((((((((((cb_ N p.a bd_)&&(cb_ ub p.b bd_)))&&(cb_ P p.c bd_)))&&(cb_ R p.r aM_)))&&(cb_ us p.s cA_)))&&(cb_ Y p.t cA_)) (fun r=>[(2,.bool false),(99,.bool r)]) ?_ fun V E=>?_
   ·cases M
    ·have d:=q
     simp at q
     refine Zz 9 ?_;exact met ⟨rfl,(n_ rfl (jaf d)),trivial⟩
    have d:=q;simp at q
    refine Zz 11 ?_;refine bH_ (en_ Y p.t cA_ (in_ _ za_)) rfl rfl m_ zt rfl fun a3 W=>Zz 3 ?_
    exact met ⟨rfl,(n_ rfl (jat d W)),trivial⟩
   refine Zz 4 ?_;exact ae_ Tryz.results113 () (n_ rfl (by unfold Pc.valid;rw[if_neg za_];simp only[T];rw[if_neg (by simp<;>omega),if_neg (by simp<;>omega)];exact E.symm)) (.refl _) zt
  simp at A
  exact kK_
 simp at L
 refine Zz 7 ?_;exact ae_ Tryz.results113 () (n_ rfl (by unfold Pc.valid;rw[if_pos za_])) (.refl _) zt
theorem xN_ (l:List Pc) (ad:Option Addr) (cap:Nat) (hl:l.length≤17592186044414) (y:∀ p∈l,p.sm):Tri Tryz.prog 71 #[.slice ad (List.length l) cap] [] [ah_ ad (List.flatMap Pc.cells l),ji_] (fun _:Unit=>.int .i64 (da_ l)) (fun _=>[]) (fun _=>[]):=by
 refine i_ Tryz.func71 rfl rfl Tryz.ntmps71 rfl fun C=>?_;refine Zi 10 (fun m=>?_) fun m=>?_
 ·refine Zz 14 ?_
  refine bt_ [(8,.slice ad (List.length l) cap),(9,.int .i64 (List.length l:Int)),(10,.int .i64 ((0:Nat):Int))] zl ?_;refine bQ_ (ι:={q:Nat // q≤l.length∧(l.take q).all Pc.valid=true}) (fun i=>[(8,.slice ad (List.length l) cap),(9,.int .i64 (List.length l:Int)),(10,.int .i64 (i.1:Int))]) (fun _=>_) (fun _=>_) (fun i=>l.length - i.1) ⟨0,by simp⟩ ?_;rintro ⟨i,hk⟩;refine bt_ [(8,.slice ad (List.length l) cap),(9,.int .i64 (List.length l:Int)),(10,.int .i64 (i:Int))] zl ?_;refine Zi 2 (fun k=>?_) fun k=>?_
  ·refine Zz 12 ?_
   exact ae_ Tryz.results71 () (ce_ rfl (by unfold da_;rw[if_neg za_,if_pos (by have:=hk.2;rwa [List.take_of_length_le za_]at this)])) (.refl _) zt
  obtain⟨e,h,v,d⟩:=zge (show i<List.length l by omega);refine Zz 12 ?_;refine G_ P_ rfl fun B=>u_ 0 F_ rfl rfl rfl rfl rfl rfl (Zz 5 ?_)
  refine T_ (tL_ h (y h d)) rfl m_ zf rfl fun x A=>e_ (ax_ rfl) rfl (Zz 2 ?_)
  cases x
  ·refine Zz 7 ?_
   exact ae_ Tryz.results71 () (ce_ rfl (by unfold da_;rw[if_neg za_,if_neg (by rw[show l.all Pc.valid=false from List.all_eq_false.2 ⟨h,d,by simp[*]⟩];simp)])) (.refl _) zt
  refine Zz 8 ?_;exact x_ ⟨i+1,e,by rw[List.take_add_one,v];simp only[Option.toList_some,List.all_append,hk.2];simp[*]⟩ zn_ zl (@List.perm_append_comm _ [_] _) zh
 refine Zz 9 ?_;exact ae_ Tryz.results71 () (ce_ rfl (by unfold da_;rw[if_pos za_])) (.refl _) zt
end Go.Proofs.YtpbnmnfdgckaiaaGreatDoor
namespace Go.Vs
open Go Go.Sx
def vw (W:World):Vw:=⟨fun b=>b<W.heap.size,W,True⟩
theorem vw_sat (W:World):(vw W).sat []:=⟨(fun _ h=>by cases h),zj_,fun _ h=>h⟩
section
variable {H:Type} {enc:TypeId×Value→H} {P:Program} {W:World}
abbrev wok (l:List Nat):Prop:=l.all (·≤reachBytes)=true
theorem fQ_ {a b:List Nat}:wok (a++b)↔wok a∧wok b:=by simp[wok,List.all_append]
theorem uk_ {n:Nat} {b:List Nat}:wok (n::b)↔n≤reachBytes∧wok b:=by simp[wok]
theorem ul_ {e:TypeId}:∀ {ds:List (DataW H)},wok (DataW.weightsAll P e ds)→∀ d∈ds,wok (d.weights P e)
 | [],_,_,h=>by cases h
 | x::ds,hw,d,k=>by
   rw[DataW.weightsAll,fQ_]at hw;rcases List.mem_cons.1 k with rfl|k
   · exact hw.1
   · exact ul_ hw.2 d k
theorem oH_ {α:Type} [Inhabited α] (f:α→List Value) (k:Nat) (hk:∀ x,(f x).length=k) (F:0<k) (Q:α→Prop) {O G:TypeId} (hs:P.underlying O=some (.slice G)) (hc:P.cellsOf G=k) {n:Nat} {cs:List Value} {x:DataW H×List MemPlace}
    (B:∀ m,m<n→∀ A y,DataW.trod enc P W 0 (fun _=>true) true m G A=some y→wok (y.1.weights P G)→∃ c,A=f c∧Q c)
    (h:DataW.trod enc P W 0 (fun _=>true) true n O cs=some x) (S:wok (x.1.weights P O)) :
    ∃ (l:List α) (ad:Option Addr) (cap:Nat),cs=[.slice ad l.length cap]∧bA_ (vw W) ad (l.flatMap f)∧(∀ c∈l,Q c)∧l.length≤cap∧cap*P.bytesOf G≤reachBytes:=by
  rcases DataW.trod_slice hs h with⟨U,_⟩|⟨a,len,cap,E,rest,m,hn,rfl,rfl,_,hl,_,hlen,N,V,_⟩
  · exact⟨[],none,0,U,.inl rfl,(fun _ h=>by cases h),Nat.le_refl _,by simp⟩
  · obtain⟨hr,_⟩:=V rfl
    simp only[DataW.weights,hs,uk_,fQ_,List.length_map]at S
    have I:cap*P.bytesOf G≤reachBytes:=by
      have e:E.length+rest.length=cap:=by omega
      rw[← e];exact S.1
    have K:∀ i,i<len→∃ c:α,W.cells? 0 (a.add (i*k)) k=some (f c)∧Q c:=fun i hi=>by
      have he:=N i hi;rw[hc,List.getElem?_eq_getElem za_]at he;obtain⟨A,h1,h2⟩:=Option.bind_eq_some_iff.1 he;obtain⟨c,rfl,hq⟩:=B m za_ A _ h2 (ul_ S.2.1 _ (List.mem_map_of_mem (List.getElem_mem za_)));exact⟨c,h1,hq⟩
    obtain⟨C,hC⟩:=Deep.choose_lt K;refine⟨(List.range len).map C,some a,cap,by simp,?_,?_,by simpa using hl,I⟩
    · by_cases U:len=0
      · left;simp[U]
      · have h1:=(hC 0 za_).1
        obtain⟨_,_,d⟩:=World.cells?_some h1;have v:=d 0 F;have R:0<(f (C 0)).length:=by rw[hk];exact F
        rw[List.getElem?_eq_getElem R]at v;cases hb:W.heap[a.block]? with
        | none=>simp[World.cell?,Addr.add,hb]at v
        | some o =>
          cases o with
          | cells arr T fz =>
            have q:a.spot=none:=by
              cases hsp2:a.spot with
              | none=>rfl
              | some s=>simp[World.cell?,Addr.add,hb,hsp2]at v
            obtain⟨b,off,sp⟩:=a;simp only at q hb;subst q;right
            refine⟨b,off,arr,T,fz,rfl,(Array.getElem?_eq_some_iff.1 hb).1,hb,fun j y Y=>?_⟩
            have J:j<len*k:=by
              have:=(List.getElem?_eq_some_iff.1 Y).1;rw[dr_ f k hk]at this;simpa using this
            have hi:j / k<len:=Nat.div_lt_of_lt_mul (by rw[Nat.mul_comm];exact J);have L:j%k<k:=Nat.mod_lt _ F;have e:j=(j / k)*k+j%k:=by rw[Nat.mul_comm];exact (Nat.div_add_mod j k).symm
            have M:((List.range len).map C)[j / k]? = some (C (j / k)):=by simp[hi]
            rw[e,kC_ f k hk _ (j / k) (j%k) _ M L]at Y;obtain⟨_,_,d⟩:=World.cells?_some (hC (j / k) hi).1;have:=d (j%k) L;rw[Y,cm_,cm_]at this;rw[e];simpa [World.cell?,hb,Nat.add_assoc] using this
          | _=>simp[World.cell?,Addr.add,hb]at v
    · intro c Z
      obtain⟨i,hi,rfl⟩:=List.mem_map.1 Z;exact (hC i (by simpa using hi)).2
end
instance:Inhabited Con:=⟨.mk 0 [] 0 0 none 0 []⟩
instance:Inhabited Ax:=⟨⟨0,false,default,default,none,0,[],[],[],[]⟩⟩
instance:Inhabited Pc:=⟨⟨0,[],[],[],[],[],[],0,0,0⟩⟩
structure Tys (P:Program) (tI tB tS tSs tC tCs tA tAs tP tPs:TypeId):Prop where
  i:P.underlying tI=some (.int .i64)
  b:P.underlying tB=some .bool
  s:P.underlying tS=some .string
  ss:P.underlying tSs=some (.slice tS)
  c:∃ fs,P.underlying tC=some (.struct fs)∧fs.toList.map (fun f=>(f.type,f.offset))=[(tI,0),(tS,1),(tI,2),(tI,3),(tCs,4)]
  cs:P.underlying tCs=some (.slice tC)
  a:∃ fs,P.underlying tA=some (.struct fs)∧fs.toList.map (fun f=>(f.type,f.offset))=[(tI,0),(tB,1),(tC,2),(tC,7),(tSs,12),(tS,13),(tS,14),(tS,15)]
  axs:P.underlying tAs=some (.slice tA)
  p:∃ fs,P.underlying tP=some (.struct fs)∧fs.toList.map (fun f=>(f.type,f.offset))=[(tI,0),(tS,1),(tS,2),(tS,3),(tS,4),(tS,5),(tS,6),(tI,7),(tI,8),(tI,9)]
  ps:P.underlying tPs=some (.slice tP)
  ci:P.cellsOf tI=1
  cb:P.cellsOf tB=1
  cs1:P.cellsOf tS=1
  css:P.cellsOf tSs=1
  cc:P.cellsOf tC=5
  ccs:P.cellsOf tCs=1
  ca:P.cellsOf tA=16
  cp:P.cellsOf tP=10
  bs:P.bytesOf tS=16
  bc:P.bytesOf tC=64
  ba:P.bytesOf tA=216
  bp:P.bytesOf tP=128
section
variable {H:Type} {enc:TypeId×Value→H} {P:Program} {W:World} {tI tB tS tSs tC tCs tA tAs tP tPs:TypeId} (X:Tys P tI tB tS tSs tC tCs tA tAs tP tPs)
theorem fields_of {t:TypeId} {fs:Array Field} {L:List (TypeId×Nat)} {cs:List Value} {n:Nat} {x:DataW H×List MemPlace} (B:P.underlying t=some (.struct fs)) (k:fs.toList.map (fun f=>(f.type,f.offset))=L) (h:DataW.trod enc P W 0 (fun _=>true) true n t cs=some x) :
    ∃ (d:List (DataW H×List MemPlace)) (m:Nat),n=m+1∧x.1=.agg (d.map (·.1))∧cs.length=P.cellsOf t∧d.length=L.length∧(∀ (i:Nat) q,L[i]? = some q→DataW.trod enc P W 0 (fun _=>true) true m q.1 ((cs.drop q.2).take (P.cellsOf q.1))=d[i]?) ∧
      (x.1.weights P t=DataW.weightsEach P (L.map (·.1)) (d.map (·.1))):=by
  obtain⟨d,m,E,A,hl,e,C⟩:=DataW.trod_struct B h;refine⟨d,m,E,by rw[A],hl,by rw[e,← k];simp,fun i q y=>?_,?_⟩
  · rw[← k,List.getElem?_map,Option.map_eq_some_iff]at y
    obtain⟨f,v,rfl⟩:=y;exact C i f (by simpa using v)
  · rw[A];simp only[DataW.weights,B]
    congr 1
    rw[← k,List.map_map];rfl
include X
theorem oV_ {n:Nat} {cs:List Value} {x:DataW H×List MemPlace} (h:DataW.trod enc P W 0 (fun _=>true) true n tI cs=some x):∃ k:Int,cs=[.int .i64 k]∧-9223372036854775808≤k∧k≤9223372036854775807:=by
  obtain⟨k,e,_,d⟩:=DataW.trod_int X.i h;have:=bounds_i64 d;exact⟨k,e,this.1,this.2⟩
theorem xQ_ {n:Nat} {cs:List Value} {x:DataW H×List MemPlace} (h:DataW.trod enc P W 0 (fun _=>true) true n tB cs=some x):∃ b:Bool,cs=[.bool b]:=by
  obtain⟨b,d,_⟩:=DataW.trod_bool X.b h;exact⟨b,d⟩
theorem str_of {n:Nat} {cs:List Value} {x:DataW H×List MemPlace} (h:DataW.trod enc P W 0 (fun _=>true) true n tS cs=some x) (d:wok (x.1.weights P tS)):∃ s:Str,cs=[str s]∧s.length≤140737488351232:=by
  obtain⟨s,e,k,_⟩:=DataW.trod_string X.s h;rw[k]at d;simp[wok,DataW.weights,reachBytes]at d
  refine⟨s.data.toList,by rw[e];rfl,by have:=of_decide_eq_true d;simpa using this⟩
theorem vV_:∀ (n:Nat) (cs:List Value) (x:DataW H×List MemPlace),DataW.trod enc P W 0 (fun _=>true) true n tC cs=some x→wok (x.1.weights P tC)→∃ c:Con,cs=c.cells∧c.mem (vw W)∧c.ok:=by
 intro n
 induction n using Nat.strongRecOn with
 | ind n ih =>
   intro cs x h A;obtain⟨fs,hu,V⟩:=X.c;obtain⟨Z,m,hn,hx,hl,q,v,B⟩:=fields_of hu V h;rw[B]at A
   match Z,q with
   | [x0,x1,x2,x3,x4],_ =>
   simp only[List.map_cons,List.map_nil,DataW.weightsEach,fQ_]at A;have K:=v 0 _ rfl;have R:=v 1 _ rfl;have O:=v 2 _ rfl;have L:=v 3 _ rfl;have T:=v 4 _ rfl;simp only[List.getElem?_cons_zero,List.getElem?_cons_succ,X.ci,X.cs1,X.ccs]at K R O L T;obtain⟨k,S,k1,k2⟩:=oV_ X K;obtain⟨nm,I,n1⟩:=str_of X R A.2.1;obtain⟨lo,M,l1,l2⟩:=oV_ X O;obtain⟨hi,J,h1,h2⟩:=oV_ X L
   obtain⟨l,ad,cap,N,e,Q,G,d⟩:=oH_ Con.cells 5 Con.cells_len ze_ (fun c=>c.mem (vw W)∧c.ok) X.cs X.cc (fun Y hm' E y U F=>by
     obtain⟨c,g1,g2,g3⟩:=ih Y za_ E y U F;exact⟨c,g1,g2,g3⟩) T A.2.2.2.2.1
   rw[X.cc]at hl
   match cs,hl with
   | [c0,c1,c2,c3,c4],_ =>
   simp only[List.drop_succ_cons,List.drop_zero,List.take_succ_cons,List.take_zero,List.cons.injEq,and_true]at S I M J N;subst S I M J N;refine⟨.mk k nm lo hi ad cap l,rfl,?_,k1,k2,n1,l1,l2,h1,h2,G,?_,Con.oks_iff.2 fun p C=>(Q p C).2⟩
   · rw[Con.mem_iff];exact⟨e,fun p C=>(Q p C).1⟩
   · rw[X.bc]at d;simp only[reachBytes]at d;omega
theorem wI_ {n:Nat} {cs:List Value} {x:DataW H×List MemPlace} (h:DataW.trod enc P W 0 (fun _=>true) true n tSs cs=some x) (F:wok (x.1.weights P tSs)) :
    ∃ (l:List Str) (ad:Option Addr) (cap:Nat),cs=[.slice ad l.length cap]∧bA_ (vw W) ad (l.flatMap af_)∧(∀ s∈l,s.length≤140737488351232)∧l.length≤cap∧cap≤8796093021952:=by
  obtain⟨l,ad,cap,e,k,B,q,d⟩:=oH_ af_ 1 aq_ ze_ (fun s=>s.length≤140737488351232) X.ss X.cs1 (fun G _ A y v m=>by
    obtain⟨s,C,E⟩:=str_of X v m;exact⟨s,C,E⟩) h F
  rw[X.bs]at d;simp only[reachBytes]at d;exact⟨l,ad,cap,e,k,B,q,by omega⟩
theorem ax_of {n:Nat} {cs:List Value} {x:DataW H×List MemPlace} (h:DataW.trod enc P W 0 (fun _=>true) true n tA cs=some x) (d:wok (x.1.weights P tA)):∃ a:Ax,cs=a.cells∧a.mem (vw W)∧a.ok:=by
  obtain⟨fs,hu,hL⟩:=X.a;obtain⟨xs,m,hn,hx,hl,y,e,B⟩:=fields_of hu hL h;rw[B]at d
  match xs,y with
  | [x0,x1,x2,x3,x4,x5,x6,x7],_ =>
  simp only[List.map_cons,List.map_nil,DataW.weightsEach,fQ_]at d;have I:=e 0 _ rfl;have R:=e 1 _ rfl;have O:=e 2 _ rfl;have J:=e 3 _ rfl;have U:=e 4 _ rfl;have C:=e 5 _ rfl;have L:=e 6 _ rfl;have F:=e 7 _ rfl;simp only[List.getElem?_cons_zero,List.getElem?_cons_succ,X.ci,X.cb,X.cs1,X.cc,X.css]at I R O J U C L F;obtain⟨k,S,k1,k2⟩:=oV_ X I;obtain⟨Z,E⟩:=xQ_ X R;obtain⟨le,M,m2,o2⟩:=vV_ X _ _ _ O d.2.2.1;obtain⟨ri,G,V,o3⟩:=vV_ X _ _ _ J d.2.2.2.1;obtain⟨Y,ad,cap,N,v,hq,A,q⟩:=wI_ X U d.2.2.2.2.1;obtain⟨ro,T,n5⟩:=str_of X C d.2.2.2.2.2.1;obtain⟨a,Q,n6⟩:=str_of X L d.2.2.2.2.2.2.1;obtain⟨b,K,n7⟩:=str_of X F d.2.2.2.2.2.2.2.1;rw[X.ca]at hl
  match cs,hl with
  | [c0,c1,c2,c3,c4,c5,c6,c7,c8,c9,c10,c11,c12,c13,c14,c15],_ =>
  simp only[List.drop_succ_cons,List.drop_zero,List.take_succ_cons,List.take_zero,List.cons.injEq,and_true,Con.cells]at S E M G N T Q K;obtain⟨rfl,rfl,rfl,rfl,rfl⟩:=M;obtain⟨rfl,rfl,rfl,rfl,rfl⟩:=G;subst S E N T Q K;exact⟨⟨k,Z,le,ri,ad,cap,Y,ro,a,b⟩,rfl,⟨m2,V,v⟩,⟨k1,k2,o2,o3,A,Nat.le_trans A q,hq,n5,n6,n7⟩⟩
theorem axs_of {n:Nat} {cs:List Value} {x:DataW H×List MemPlace} (h:DataW.trod enc P W 0 (fun _=>true) true n tAs cs=some x) (F:wok (x.1.weights P tAs)) :
    ∃ (l:List Ax) (ad:Option Addr) (cap:Nat),cs=[.slice ad l.length cap]∧(eg_ ad l).p (vw W)∧(∀ y∈l,y.ok)∧l.length≤cap∧cap≤2199023255488:=by
  obtain⟨l,ad,cap,e,m,A,v,d⟩:=oH_ Ax.cells 16 Ax.cells_len ze_ (fun a=>a.mem (vw W)∧a.ok) X.axs X.ca (fun I _ B y k q=>by
    obtain⟨a,C,E,G⟩:=ax_of X k q;exact⟨a,C,E,G⟩) h F
  rw[X.ba]at d;simp only[reachBytes]at d;exact⟨l,ad,cap,e,⟨m,fun y k=>(A y k).1⟩,fun y k=>(A y k).2,v,by omega⟩
end
end Go.Vs
