/-
  Part of the proof of the law CanonReaches over this seat: the small logic, the data, the contracts of functions (no condition).
-/
import Derived.Test.YtpbnmnfdgckaiaaGreatDoorQCanonReaches4
import Derived.Test.YtpbnmnfdgckaiaaGreatDoorQCanonReaches2
import Derived.Test.YtpbnmnfdgckaiaaGreatDoorQCanonReaches3
import Derived.ProofKit
import Derived.OpenShut
import Derived.ReadAgain
import Derived.Deep.Slices
set_option linter.unusedVariables false
set_option linter.unusedSimpArgs false
set_option linter.unusedSectionVars false
set_option maxHeartbeats 1000000
namespace Go.Proofs.YtpbnmnfdgckaiaaGreatDoor
open Go Go.Sx Go.Proofs
attribute [local irreducible] Code.wp wpList wpAnyH
open Go.Vs
theorem rQ_:hX_ Tryz.prog 40 [(0,1),(1,1),(2,1),(3,1),(4,1)] [.int .i64 0,str [],.int .i64 0,.int .i64 0,.slice none 0 0]:=⟨_,bU_,aC_,fun w=>by simp[ak_,E_,Tryz.sizeOf38]⟩
theorem nw_ {kb bk bs:Nat} {frm:Int}:∀ (d:Nat) (c:Con),c.sz≤d→c.ok→c.fine→∀ (l:List Pc) (q:CS),CInv l q→l.length+2*c.sz≤100000 →
    Tri Tryz.prog 154 #[c.val,zp_ bs 0,zp_ bk 0] (gE_ kb frm q) [c.memF,ci_,kF bk kb,lF bs bk] (fun _:{Y:CS // CInv (c.leftP frm l) Y}=>.tuple #[]) (fun Y=>gE_ kb frm Y.1) (fun _=>[]):=by
  intro d
  induction d with
  | zero=>intro c h;have:=c.sz_pos;omega
  | succ d ih =>
    intro c hd y X l q V hl;have F:=Con.fields X;have J:=F.le;have K:=F.mo;obtain⟨k,nm,lo,hi,ad,cap,ps⟩:=c;have R:=Con.ok_len y;have a3:(Con.mk k nm lo hi ad cap ps).sz=1+Con.sz.szs ps:=by simp only[Con.sz]
    have a1:=Con.szs_len ps;simp only[Con.parts,Con.cap,Con.kind]at R J K;refine i_ Tryz.func154 rfl rfl Tryz.ntmps154 rfl fun a0=>?_;refine Zz 2 ?_;refine aa_ rfl rfl fun C=>Zj 11 (fun N=>?_) fun N=>?_
    · skip
      refine Zj 6 (fun E=>?_) fun E=>?_
      · skip
        refine Zj 6 (fun I=>?_) fun I=>?_
        · skip
          refine Zz 6 ?_;exact co_ Tryz.results154 ⟨q,(by rw[Con.leftP0 (c:=(.mk k nm lo hi ad cap ps)) zA_ zA_ zA_];exact V)⟩ rfl (F:=[_]) (@List.perm_append_comm _ [_] _) zt
        · skip
          refine Zz 4 ?_;refine af_ [(C,.cells (Con.cells (Con.mk k nm lo hi ad cap ps)).toArray 40 (0,0))] zk ?_;refine K_ 4 [0,1,2,3,4,5,6,7] zk (fun _ a b=>⟨Vw.sat.sub a,b⟩) (N_ rfl (df_ (cs:=[zp_ kb 0]) pz_ rfl (fun v _ h=>h.2.2.1) rfl) rfl (Zz 8 ?_));refine s_ 8 rfl zk (g_ (dx_ (.mk k nm lo hi ad cap ps) y) rfl (.refl _) zf rfl fun _=>Zz 2 ?_);refine O_ (fun _ a b=>⟨Vw.sat.sub a,b⟩) (K_ 2 [9] zk (fun _ a b=>⟨Vw.sat.sub a,b⟩) (N_ rfl (I_ dk_ rfl rfl) rfl (bv_ (s_ 10 rfl zk (U_ D_ F_ P_ rfl rfl rfl rfl rfl rfl fun L=>Zz 2 ?_)))));refine O_ (fun _ a b=>⟨Vw.sat.sub a.tail,b⟩) (s_ 11 rfl zk (g_ (ef_ ⟨9,[],[],Con.atom (.mk k nm lo hi ad cap ps),nm,[],[],lo,hi,0⟩ frm l q V zs_) rfl (.cons _ (@List.perm_append_comm _ [_] _)) zt rfl fun x=>?_));obtain⟨H,A⟩:=x;refine y_ (@List.perm_append_comm _ _ [_]) (Zz 2 ?_);refine O_ (fun _ a b=>⟨Vw.sat.sub a,b⟩) (Zz 2 ?_);exact co_ Tryz.results154 ⟨H,(by rw[Con.leftP7 (c:=(.mk k nm lo hi ad cap ps)) zA_];exact A)⟩ rfl (F:=[_]) (@List.perm_append_comm _ [_] _) zt
      · skip
        rw[E]at J K;simp[nd,eC_]at J K
        obtain⟨p,Q⟩:=List.length_eq_one_iff.1 (show ps.length=1 by omega);have B:ps[0]? = some p:=by rw[Q];rfl
        have m:p∈ps:=List.mem_of_getElem? B;refine Zz 5 ?_;refine af_ [(C,.cells (Con.cells (Con.mk k nm lo hi ad cap ps)).toArray 40 (0,0))] zk ?_;refine K_ 1 [0,1,2,3,4] zk (fun _ a b=>⟨Vw.sat.sub a,b⟩) (N_ rfl (df_ (cs:=[lFn bs bk]) jQ_ rfl (fun v _ h=>h.2.2.2.1) rfl) rfl (Zz 2 ?_));refine N_ rfl (S_ ad_ J_ rfl rfl (fun v _ h=>au_ (n:=5) Con.cells_len zw_ (((Con.mem_iff (.mk k nm lo hi ad cap ps) v).1 h.1).1) B) zs_ zy_) rfl ?_;refine N_ rfl (aj_ (ad:=ad) (us:=p.cells) aH_ J_ rfl (fun v _ h=>((Con.mem_iff (.mk k nm lo hi ad cap ps) v).1 h.1).1) (Con.cells_len _) (o_ Con.cells_len B)) rfl (bv_ (s_ 5 rfl zk (ap_ (ih p zaK_ (Con.ok_part (c:=(.mk k nm lo hi ad cap ps)) y m) (Con.fine_part (c:=(.mk k nm lo hi ad cap ps)) X m) l q V (by have:=Con.sz_at B;omega)) rfl rfl (@List.perm_append_comm _ [_] _) (fun v _ h=>by exact⟨Con.mem_part (c:=(.mk k nm lo hi ad cap ps)) h.1 m,h.2⟩) rfl fun x=>?_)));obtain⟨H,A⟩:=x;refine y_ (@List.perm_append_comm _ _ [_]) (Zz 2 ?_);refine O_ (fun _ a b=>⟨Vw.sat.sub a,b⟩) (Zz 2 ?_);refine af_ [(C,.cells (Con.cells (Con.mk k nm lo hi ad cap ps)).toArray 40 (0,0))] zk ?_;refine K_ 5 [0,1,2,3,4,5,6,8] zk (fun _ a b=>⟨Vw.sat.sub a,b⟩) (N_ rfl (df_ (cs:=[zp_ kb 0]) pz_ rfl (fun v _ h=>h.2.2.1) rfl) rfl (Zz 4 ?_));refine N_ rfl (S_ ad_ J_ rfl rfl (fun v _ h=>au_ (n:=5) Con.cells_len zw_ (((Con.mem_iff (.mk k nm lo hi ad cap ps) v).1 h.1).1) B) zs_ zy_) rfl ?_;refine N_ rfl (aj_ (ad:=ad) (us:=p.cells) aH_ J_ rfl (fun v _ h=>((Con.mem_iff (.mk k nm lo hi ad cap ps) v).1 h.1).1) (Con.cells_len _) (o_ Con.cells_len B)) rfl (Zz 2 ?_);refine s_ 7 rfl zk (g_ (dx_ p (Con.ok_part (c:=(.mk k nm lo hi ad cap ps)) y m)) rfl (.refl _) (fun v _ h=>⟨Con.mem_part (c:=(.mk k nm lo hi ad cap ps)) h.1 m,h.2.1,trivial⟩) rfl fun _=>Zz 2 ?_);refine O_ (fun _ a b=>⟨Vw.sat.sub a,b⟩) (s_ 9 rfl zk (g_ (dx_ (.mk k nm lo hi ad cap ps) y) rfl (.refl _) zf rfl fun _=>Zz 2 ?_));refine O_ (fun _ a b=>⟨Vw.sat.sub a,b⟩) (K_ 2 [10] zk (fun _ a b=>⟨Vw.sat.sub a,b⟩) (N_ rfl (I_ dk_ rfl rfl) rfl (bv_ (s_ 11 rfl zk (U_ D_ F_ P_ rfl rfl rfl rfl rfl rfl fun L=>Zz 2 ?_)))));refine O_ (fun _ a b=>⟨Vw.sat.sub a.tail,b⟩) (s_ 12 rfl zk (g_ (ef_ ⟨4,p.atom,[],Con.atom (.mk k nm lo hi ad cap ps),nm,[],[],0,0,0⟩ frm (p.leftP frm l) H A (by have:=Con.leftP_len frm _ p (Nat.le_refl _) l;have:=Con.sz_at B;omega)) rfl (.cons _ (@List.perm_append_comm _ [_] _)) zt rfl fun x=>?_));obtain⟨G,U⟩:=x;refine y_ (@List.perm_append_comm _ _ [_]) (Zz 2 ?_);refine O_ (fun _ a b=>⟨Vw.sat.sub a,b⟩) (Zz 2 ?_);exact co_ Tryz.results154 ⟨G,(by rw[Con.leftP6 (c:=(.mk k nm lo hi ad cap ps)) (p:=p) zA_ Q];exact U)⟩ rfl (F:=[_]) (@List.perm_append_comm _ [_] _) zt
    · skip
      rw[N]at J K;simp[nd,eC_]at J K
      refine Zz 14 ?_;refine bs_ [(1,zp_ bs 0),(2,zp_ bk 0),(3,zp_ C 0),(15,.slice ad ps.length cap),(16,.int .i64 (ps.length:Int)),(17,.int .i64 ((0:Nat):Int))] zl ?_;refine bR_ (ι:={x:Nat×CS // x.1≤ps.length∧CInv (Con.leftP.lefts frm (ps.take x.1) l) x.2}) (fun x=>[(1,zp_ bs 0),(2,zp_ bk 0),(3,zp_ C 0),(15,.slice ad ps.length cap),(16,.int .i64 (ps.length:Int)),(17,.int .i64 (x.1.1:Int))]) (fun x=>_::gE_ kb frm x.1.2) (fun _=>_) (fun x=>ps.length - x.1.1) ⟨(0,q),by simp,by simpa [Con.leftP.lefts] using V⟩ ?_;rintro ⟨⟨i,H⟩,hk⟩;dsimp only at hk;refine bs_ [(1,zp_ bs 0),(2,zp_ bk 0),(3,zp_ C 0),(15,.slice ad ps.length cap),(16,.int .i64 (ps.length:Int)),(17,.int .i64 (i:Int))] zl ?_;refine Zj 2 (fun E=>?_) fun E=>?_
      · skip
        obtain rfl:i=ps.length:=by omega
        rw[List.take_length]at hk;obtain⟨p,B⟩:∃ p,ps[0]? = some p:=⟨_,List.getElem?_eq_getElem (show 0<ps.length by omega)⟩;have m:p∈ps:=List.mem_of_getElem? B;refine Zz 10 ?_;refine e_ (S_ ad_ J_ rfl rfl (fun v _ h=>au_ (n:=5) Con.cells_len zw_ (((Con.mem_iff (.mk k nm lo hi ad cap ps) v).1 h.1).1) B) zs_ zy_) rfl ?_;refine e_ (aj_ (ad:=ad) (us:=p.cells) aH_ J_ rfl (fun v _ h=>((Con.mem_iff (.mk k nm lo hi ad cap ps) v).1 h.1).1) (Con.cells_len _) (o_ Con.cells_len B)) rfl (g_ (dx_ p (Con.ok_part (c:=(.mk k nm lo hi ad cap ps)) y m)) rfl (.refl _) (fun v _ h=>⟨Con.mem_part (c:=(.mk k nm lo hi ad cap ps)) h.1 m,h.2.1,trivial⟩) rfl fun _=>Zz 7 ?_);refine e_ (dI_ (i:=1) (j:=ps.length) (kl:=.i64) (kh:=.i64) ad_ J_ rfl rfl rfl zs_ (by first|omega|(simp only[Con.cap];omega))) rfl ?_;refine Zz 5 ?_;refine bs_ [(1,zp_ bs 0),(2,zp_ bk 0),(3,zp_ C 0),(6,str p.atom),(32,.slice (sad ad cap 1 5) (ps.length - 1) (cap - 1)),(33,.int .i64 ((ps.length - 1:Nat):Int)),(34,.int .i64 ((0:Nat):Int))] zl ?_;have Z:=Con.headD_atom B;have T:=Con.lefts_len frm ps ps.length l;rw[List.take_length]at T;generalize p.atom=f0 at Z ⊢
        refine bR_ (ι:={x:Nat×Str×List Pc×CS // x.1≤ps.length - 1∧CInv x.2.2.1 x.2.2.2∧x.2.2.1.length≤(Con.leftP.lefts frm ps l).length+x.1∧Con.andP frm (.mk k nm lo hi ad cap ps) (ps.drop 1) 1 f0 (Con.leftP.lefts frm ps l)=Con.andP frm (.mk k nm lo hi ad cap ps) (ps.drop (1+x.1)) (1+x.1) x.2.1 x.2.2.1}) (fun x=>[(1,zp_ bs 0),(2,zp_ bk 0),(3,zp_ C 0),(6,str x.1.2.1),(32,.slice (sad ad cap 1 5) (ps.length - 1) (cap - 1)),(33,.int .i64 ((ps.length - 1:Nat):Int)),(34,.int .i64 (x.1.1:Int))]) (fun x=>_::gE_ kb frm x.1.2.2.2) (fun _=>_) (fun x=>ps.length - 1 - x.1.1) ⟨(0,f0,(Con.leftP.lefts frm ps l),H),by simp,hk.2,by simp,rfl⟩ ?_;rintro ⟨⟨i,f,P,G⟩,S⟩;dsimp only at S;refine bs_ [(1,zp_ bs 0),(2,zp_ bk 0),(3,zp_ C 0),(6,str f),(32,.slice (sad ad cap 1 5) (ps.length - 1) (cap - 1)),(33,.int .i64 ((ps.length - 1:Nat):Int)),(34,.int .i64 (i:Int))] zl ?_;refine Zj 2 (fun I=>?_) fun I=>?_
        · skip
          refine Zz 6 ?_;exact co_ Tryz.results154 ⟨G,(by have e:=S.2.2.2;rw[List.drop_of_length_le (show ps.length≤1+i by omega)]at e;rw[Con.leftP5 (c:=(.mk k nm lo hi ad cap ps)) zA_];simp only[Con.parts,Z];rw[e];exact S.2.1)⟩ rfl (F:=[_]) (@List.perm_append_comm _ [_] _) zt
        · skip
          have O:i<ps.length - 1:=by omega
          obtain⟨p,B⟩:∃ p,(ps.drop 1)[i]? = some p:=⟨_,List.getElem?_eq_getElem zF_⟩;have M:ps[1+i]? = some p:=by rw[← List.getElem?_drop];exact B
          have m:p∈ps:=List.mem_of_getElem? M;refine Zz 11 ?_;refine e_ (S_ ad_ J_ rfl rfl (fun v _ h=>au_ (n:=5) Con.cells_len zw_ ((Con.mem_tail (c:=(.mk k nm lo hi ad cap ps)) y h.1)) B) zs_ zy_) rfl ?_;refine e_ (aj_ (ad:=(sad ad cap 1 5)) (us:=p.cells) aH_ J_ rfl (fun v _ h=>(Con.mem_tail (c:=(.mk k nm lo hi ad cap ps)) y h.1)) (Con.cells_len _) (o_ Con.cells_len B)) rfl (G_ bU_ rfl fun L=>Zz 1 ?_);refine fi_ 0 J_ rfl rfl rfl rfl (Zz 8 ?_);refine e_ (ar_ (dI_ (i:=0) (j:=i+2) (kl:=.i64) (kh:=.i64) ad_ J_ rfl rfl rfl zs_ (by first|omega|(simp only[Con.cap];omega))) (show _=Value.slice (sad ad cap 0 5) (ps.take (i+2)).length (cap - 0) by rw[List.length_take,Nat.min_eq_left zs_];rfl)) rfl ?_;refine e_ (I_ rQ_ rfl rfl) rfl (g_ (dx_ (Con.pre (.mk k nm lo hi ad cap ps) (i+2)) (Con.pre_ok y _)) rfl (.refl _) (fun v _ h=>⟨Con.pre_mem y h.1 _,h.2.1,trivial⟩) rfl fun _=>Zz 4 ?_);refine af_ [(L,.cells p.cells.toArray 40 (0,0)),(C,.cells (Con.cells (Con.mk k nm lo hi ad cap ps)).toArray 40 (0,0))] zk ?_;refine K_ 4 [0,1,2,4] zk (fun _ a b=>⟨Vw.sat.sub a,b⟩) (N_ rfl (df_ (cs:=[zp_ kb 0]) pz_ rfl (fun v _ h=>h.2.2.1) rfl) rfl (Zz 1 ?_));refine N_ rfl (dg_ 0 aH_ J_ rfl rfl) rfl (Zz 2 ?_);refine s_ 3 rfl zk (g_ (dx_ p (Con.ok_part (c:=(.mk k nm lo hi ad cap ps)) y m)) rfl (.refl _) (fun v _ h=>⟨Con.mem_part (c:=(.mk k nm lo hi ad cap ps)) h.1 m,h.2.1,trivial⟩) rfl fun _=>Zz 2 ?_);refine O_ (fun _ a b=>⟨Vw.sat.sub a,b⟩) (K_ 2 [5] zk (fun _ a b=>⟨Vw.sat.sub a,b⟩) (N_ rfl (I_ dk_ rfl rfl) rfl (bv_ (s_ 6 rfl zk (U_ D_ F_ P_ rfl rfl rfl rfl rfl rfl fun a2=>Zz 2 ?_)))));refine O_ (fun _ a b=>⟨Vw.sat.sub a.tail,b⟩) (s_ 7 rfl zk (g_ (ef_ ⟨2,f,p.atom,(Con.pre (.mk k nm lo hi ad cap ps) (i+2)).atom,[],[],[],0,0,0⟩ frm P G S.2.1 zs_) rfl (.cons _ (@List.perm_append_comm _ [_,_] _)) zt rfl fun x=>?_));obtain⟨W,A⟩:=x;refine y_ (@List.perm_append_comm _ _ [_,_]) (Zz 2 ?_);refine O_ (fun _ a b=>⟨Vw.sat.sub a,b⟩) (Zz 12 ?_);exact w_ ⟨(i+1,(Con.pre (.mk k nm lo hi ad cap ps) (i+2)).atom,(ins frm P ⟨2,f,p.atom,(Con.pre (.mk k nm lo hi ad cap ps) (i+2)).atom,[],[],[],0,0,0⟩),W),by omega,A,by have:=bw_ frm P ⟨2,f,p.atom,(Con.pre (.mk k nm lo hi ad cap ps) (i+2)).atom,[],[],[],0,0,0⟩;dsimp only;omega,by rw[S.2.2.2,Con.drop_at M];simp only[Con.andP];rw[show 1+i+1=i+2 by omega,show 1+(i+1)=i+2 by omega]⟩ zF_ zl (F:=[_]) (@List.perm_append_comm _ [_] _) zh
      · skip
        have O:i<ps.length:=by omega
        obtain⟨p,B⟩:∃ p,ps[i]? = some p:=⟨_,List.getElem?_eq_getElem O⟩;have m:p∈ps:=List.mem_of_getElem? B;refine Zz 10 ?_;refine e_ (S_ ad_ J_ rfl rfl (fun v _ h=>au_ (n:=5) Con.cells_len zw_ (((Con.mem_iff (.mk k nm lo hi ad cap ps) v).1 h.1).1) B) zs_ zy_) rfl ?_;refine e_ (aj_ (ad:=ad) (us:=p.cells) aH_ J_ rfl (fun v _ h=>((Con.mem_iff (.mk k nm lo hi ad cap ps) v).1 h.1).1) (Con.cells_len _) (o_ Con.cells_len B)) rfl (G_ bU_ rfl fun L=>fi_ 0 J_ rfl rfl rfl rfl (Zz 3 ?_));refine e_ (df_ (cs:=[lFn bs bk]) jQ_ rfl (fun v _ h=>h.2.2.2.1) rfl) rfl (e_ (dg_ 0 aH_ J_ rfl rfl) rfl (ap_ (ih p zaK_ (Con.ok_part (c:=(.mk k nm lo hi ad cap ps)) y m) (Con.fine_part (c:=(.mk k nm lo hi ad cap ps)) X m) (Con.leftP.lefts frm (ps.take i) l) H hk.2 (by have:=Con.lefts_len frm ps i l;have:=Con.sz_at B;omega)) rfl rfl (@List.perm_append_comm _ [_,_] _) (fun v _ h=>by exact⟨Con.mem_part (c:=(.mk k nm lo hi ad cap ps)) h.1 m,h.2⟩) rfl fun x=>?_));obtain⟨G,A⟩:=x;refine y_ (@List.perm_append_comm _ _ [_,_]) (Zz 7 ?_);exact w_ ⟨(i+1,G),O,by rw[Con.lefts_step frm B];exact A⟩ zF_ zl (F:=[_]) (@List.perm_append_comm _ [_] _) zh
theorem kb_ {kb bk bs:Nat} {frm:Int}:∀ (d:Nat) (c:Con),c.sz≤d→c.ok→c.fine→∀ (l:List Pc) (q:CS),CInv l q→l.length+2*c.sz≤100000 →
    Tri Tryz.prog 155 #[c.val,zp_ bk 0,zp_ bs 0] (gE_ kb frm q) [c.memF,ci_,kF bk kb,rcF bs bk] (fun _:{T:CS // CInv (c.rightP frm l) T}=>.tuple #[]) (fun T=>gE_ kb frm T.1) (fun _=>[]):=by
  intro d
  induction d with
  | zero=>intro c h;have:=c.sz_pos;omega
  | succ d ih =>
    intro c Y y S l q Q hl;have F:=Con.fields S;have H:=F.le;have I:=F.mo;obtain⟨k,nm,lo,hi,ad,cap,ps⟩:=c;have P:=Con.ok_len y;have X:(Con.mk k nm lo hi ad cap ps).sz=1+Con.sz.szs ps:=by simp only[Con.sz]
    have V:=Con.szs_len ps;simp only[Con.parts,Con.cap,Con.kind]at P H I;refine i_ Tryz.func155 rfl rfl Tryz.ntmps155 rfl fun U=>?_;refine Zz 2 ?_;refine aa_ rfl rfl fun A=>Zj 11 (fun J=>?_) fun J=>?_
    · skip
      refine Zj 6 (fun B=>?_) fun B=>?_
      · skip
        refine Zj 6 (fun O=>?_) fun O=>?_
        · skip
          refine Zz 6 ?_;exact co_ Tryz.results155 ⟨q,(by rw[Con.rightP0 (c:=(.mk k nm lo hi ad cap ps)) zA_ zA_ zA_];exact Q)⟩ rfl (F:=[_]) (@List.perm_append_comm _ [_] _) zt
        · skip
          refine Zz 4 ?_;refine af_ [(A,.cells (Con.cells (Con.mk k nm lo hi ad cap ps)).toArray 40 (0,0))] zk ?_;refine K_ 4 [0,1,3,4,5,6,7,8] zk (fun _ a b=>⟨Vw.sat.sub a,b⟩) (N_ rfl (df_ (cs:=[zp_ kb 0]) pz_ rfl (fun v _ h=>h.2.2.1) rfl) rfl (Zz 8 ?_));refine s_ 2 rfl zk (g_ (dx_ (.mk k nm lo hi ad cap ps) y) rfl (.refl _) zf rfl fun _=>Zz 2 ?_);refine O_ (fun _ a b=>⟨Vw.sat.sub a,b⟩) (K_ 2 [9] zk (fun _ a b=>⟨Vw.sat.sub a,b⟩) (N_ rfl (I_ dk_ rfl rfl) rfl (bv_ (s_ 10 rfl zk (U_ D_ F_ P_ rfl rfl rfl rfl rfl rfl fun L=>Zz 2 ?_)))));refine O_ (fun _ a b=>⟨Vw.sat.sub a.tail,b⟩) (s_ 11 rfl zk (g_ (ef_ ⟨8,Con.atom (.mk k nm lo hi ad cap ps),[],[],nm,[],[],lo,hi,0⟩ frm l q Q zs_) rfl (.cons _ (@List.perm_append_comm _ [_] _)) zt rfl fun x=>?_));obtain⟨E,m⟩:=x;refine y_ (@List.perm_append_comm _ _ [_]) (Zz 2 ?_);refine O_ (fun _ a b=>⟨Vw.sat.sub a,b⟩) (Zz 2 ?_);exact co_ Tryz.results155 ⟨E,(by rw[Con.rightP7 (c:=(.mk k nm lo hi ad cap ps)) zA_];exact m)⟩ rfl (F:=[_]) (@List.perm_append_comm _ [_] _) zt
      · skip
        rw[B]at H I;simp[nd,eC_]at H I
        obtain⟨p,N⟩:=List.length_eq_one_iff.1 (show ps.length=1 by omega);have C:ps[0]? = some p:=by rw[N];rfl
        have e:p∈ps:=List.mem_of_getElem? C;refine Zz 5 ?_;refine af_ [(A,.cells (Con.cells (Con.mk k nm lo hi ad cap ps)).toArray 40 (0,0))] zk ?_;refine K_ 5 [0,1,3,4,5,6,7,8] zk (fun _ a b=>⟨Vw.sat.sub a,b⟩) (N_ rfl (df_ (cs:=[zp_ kb 0]) pz_ rfl (fun v _ h=>h.2.2.1) rfl) rfl (Zz 5 ?_));refine N_ rfl (S_ ad_ J_ rfl rfl (fun v _ h=>au_ (n:=5) Con.cells_len zw_ (((Con.mem_iff (.mk k nm lo hi ad cap ps) v).1 h.1).1) C) zs_ zy_) rfl ?_;refine N_ rfl (aj_ (ad:=ad) (us:=p.cells) aH_ J_ rfl (fun v _ h=>((Con.mem_iff (.mk k nm lo hi ad cap ps) v).1 h.1).1) (Con.cells_len _) (o_ Con.cells_len C)) rfl (bv_ (s_ 2 rfl zk (g_ (dx_ (.mk k nm lo hi ad cap ps) y) rfl (.refl _) zf rfl fun _=>Zz 2 ?_)));refine O_ (fun _ a b=>⟨Vw.sat.sub a,b⟩) (s_ 9 rfl zk (g_ (dx_ p (Con.ok_part (c:=(.mk k nm lo hi ad cap ps)) y e)) rfl (.refl _) (fun v _ h=>⟨Con.mem_part (c:=(.mk k nm lo hi ad cap ps)) h.1 e,h.2.1,trivial⟩) rfl fun _=>Zz 2 ?_));refine O_ (fun _ a b=>⟨Vw.sat.sub a,b⟩) (K_ 2 [10] zk (fun _ a b=>⟨Vw.sat.sub a,b⟩) (N_ rfl (I_ dk_ rfl rfl) rfl (bv_ (s_ 11 rfl zk (U_ D_ F_ P_ rfl rfl rfl rfl rfl rfl fun L=>Zz 2 ?_)))));refine O_ (fun _ a b=>⟨Vw.sat.sub a.tail,b⟩) (s_ 12 rfl zk (g_ (ef_ ⟨3,Con.atom (.mk k nm lo hi ad cap ps),[],p.atom,nm,[],[],0,0,0⟩ frm l q Q zs_) rfl (.cons _ (@List.perm_append_comm _ [_] _)) zt rfl fun x=>?_));obtain⟨E,m⟩:=x;refine y_ (@List.perm_append_comm _ _ [_]) (Zz 2 ?_);refine O_ (fun _ a b=>⟨Vw.sat.sub a,b⟩) (Zz 2 ?_);refine af_ [(A,.cells (Con.cells (Con.mk k nm lo hi ad cap ps)).toArray 40 (0,0))] zk ?_;refine K_ 1 [0,1,2,3,4] zk (fun _ a b=>⟨Vw.sat.sub a,b⟩) (N_ rfl (df_ (cs:=[rFn bs bk]) jQ_ rfl (fun v _ h=>h.2.2.2.1) rfl) rfl (Zz 2 ?_));refine N_ rfl (S_ ad_ J_ rfl rfl (fun v _ h=>au_ (n:=5) Con.cells_len zw_ (((Con.mem_iff (.mk k nm lo hi ad cap ps) v).1 h.1).1) C) zs_ zy_) rfl ?_;refine N_ rfl (aj_ (ad:=ad) (us:=p.cells) aH_ J_ rfl (fun v _ h=>((Con.mem_iff (.mk k nm lo hi ad cap ps) v).1 h.1).1) (Con.cells_len _) (o_ Con.cells_len C)) rfl (bv_ (s_ 5 rfl zk (ap_ (ih p zaL_ (Con.ok_part (c:=(.mk k nm lo hi ad cap ps)) y e) (Con.fine_part (c:=(.mk k nm lo hi ad cap ps)) S e) (ins frm l ⟨3,Con.atom (.mk k nm lo hi ad cap ps),[],p.atom,nm,[],[],0,0,0⟩) E m (by have:=bw_ frm l ⟨3,Con.atom (.mk k nm lo hi ad cap ps),[],p.atom,nm,[],[],0,0,0⟩;have:=Con.sz_at C;omega)) rfl rfl (@List.perm_append_comm _ [_] _) (fun v _ h=>by exact⟨Con.mem_part (c:=(.mk k nm lo hi ad cap ps)) h.1 e,h.2⟩) rfl fun x=>?_)));obtain⟨K,G⟩:=x;refine y_ (@List.perm_append_comm _ _ [_]) (Zz 2 ?_);refine O_ (fun _ a b=>⟨Vw.sat.sub a,b⟩) (Zz 2 ?_);exact co_ Tryz.results155 ⟨K,(by rw[Con.rightP6 (c:=(.mk k nm lo hi ad cap ps)) (p:=p) zA_ N];exact G)⟩ rfl (F:=[_]) (@List.perm_append_comm _ [_] _) zt
    · skip
      rw[J]at H I;simp[nd,eC_]at H I
      refine Zz 13 ?_;refine bs_ [(1,zp_ bk 0),(2,zp_ bs 0),(3,zp_ A 0),(11,.slice ad ps.length cap),(12,.int .i64 (ps.length:Int)),(13,.int .i64 ((0:Nat):Int))] zl ?_;refine bR_ (ι:={x:Nat×CS // x.1≤ps.length∧CInv (Con.rightP.rights frm (Con.atom (.mk k nm lo hi ad cap ps)) (ps.take x.1) l) x.2}) (fun x=>[(1,zp_ bk 0),(2,zp_ bs 0),(3,zp_ A 0),(11,.slice ad ps.length cap),(12,.int .i64 (ps.length:Int)),(13,.int .i64 (x.1.1:Int))]) (fun x=>_::gE_ kb frm x.1.2) (fun _=>_) (fun x=>ps.length - x.1.1) ⟨(0,q),by simp,by simpa [Con.rightP.rights] using Q⟩ ?_;rintro ⟨⟨i,E⟩,hk⟩;dsimp only at hk;refine bs_ [(1,zp_ bk 0),(2,zp_ bs 0),(3,zp_ A 0),(11,.slice ad ps.length cap),(12,.int .i64 (ps.length:Int)),(13,.int .i64 (i:Int))] zl ?_;refine Zj 2 (fun B=>?_) fun B=>?_
      · skip
        obtain rfl:i=ps.length:=by omega
        rw[List.take_length]at hk;refine Zz 6 ?_;exact co_ Tryz.results155 ⟨E,(by rw[Con.rightP5 (c:=(.mk k nm lo hi ad cap ps)) zA_];exact hk.2)⟩ rfl (F:=[_]) (@List.perm_append_comm _ [_] _) zt
      · skip
        have M:i<ps.length:=by omega
        obtain⟨p,C⟩:∃ p,ps[i]? = some p:=⟨_,List.getElem?_eq_getElem M⟩;have e:p∈ps:=List.mem_of_getElem? C;refine Zz 10 ?_;refine e_ (S_ ad_ J_ rfl rfl (fun v _ h=>au_ (n:=5) Con.cells_len zw_ (((Con.mem_iff (.mk k nm lo hi ad cap ps) v).1 h.1).1) C) zs_ zy_) rfl ?_;refine e_ (aj_ (ad:=ad) (us:=p.cells) aH_ J_ rfl (fun v _ h=>((Con.mem_iff (.mk k nm lo hi ad cap ps) v).1 h.1).1) (Con.cells_len _) (o_ Con.cells_len C)) rfl (G_ bU_ rfl fun L=>fi_ 0 J_ rfl rfl rfl rfl (Zz 3 ?_));refine af_ [(L,.cells p.cells.toArray 40 (0,0)),(A,.cells (Con.cells (Con.mk k nm lo hi ad cap ps)).toArray 40 (0,0))] zk ?_;refine K_ 5 [0,1,3] zk (fun _ a b=>⟨Vw.sat.sub a,b⟩) (N_ rfl (df_ (cs:=[zp_ kb 0]) pz_ rfl (fun v _ h=>h.2.2.1) rfl) rfl (Zz 1 ?_));refine N_ rfl (dg_ 0 aH_ J_ rfl rfl) rfl (bv_ (s_ 2 rfl zk (g_ (dx_ (.mk k nm lo hi ad cap ps) y) rfl (.refl _) zf rfl fun _=>Zz 2 ?_)));refine O_ (fun _ a b=>⟨Vw.sat.sub a,b⟩) (s_ 4 rfl zk (g_ (dx_ p (Con.ok_part (c:=(.mk k nm lo hi ad cap ps)) y e)) rfl (.refl _) (fun v _ h=>⟨Con.mem_part (c:=(.mk k nm lo hi ad cap ps)) h.1 e,h.2.1,trivial⟩) rfl fun _=>Zz 2 ?_));refine O_ (fun _ a b=>⟨Vw.sat.sub a,b⟩) (K_ 2 [5] zk (fun _ a b=>⟨Vw.sat.sub a,b⟩) (N_ rfl (I_ dk_ rfl rfl) rfl (bv_ (s_ 6 rfl zk (U_ D_ F_ P_ rfl rfl rfl rfl rfl rfl fun W=>Zz 2 ?_)))));refine O_ (fun _ a b=>⟨Vw.sat.sub a.tail,b⟩) (s_ 7 rfl zk (g_ (ef_ ⟨1,Con.atom (.mk k nm lo hi ad cap ps),[],p.atom,[],[],[],0,0,0⟩ frm (Con.rightP.rights frm (Con.atom (.mk k nm lo hi ad cap ps)) (ps.take i) l) E hk.2 (by have:=Con.rights_len frm (Con.atom (.mk k nm lo hi ad cap ps)) ps i l;have:=Con.sz_at C;have:=p.sz_pos;omega)) rfl (.cons _ (@List.perm_append_comm _ [_,_] _)) zt rfl fun x=>?_));obtain⟨K,m⟩:=x;refine y_ (@List.perm_append_comm _ _ [_,_]) (Zz 2 ?_);refine O_ (fun _ a b=>⟨Vw.sat.sub a,b⟩) (Zz 3 ?_);refine e_ (df_ (cs:=[rFn bs bk]) jQ_ rfl (fun v _ h=>h.2.2.2.1) rfl) rfl (e_ (dg_ 0 aH_ J_ rfl rfl) rfl (ap_ (ih p zaL_ (Con.ok_part (c:=(.mk k nm lo hi ad cap ps)) y e) (Con.fine_part (c:=(.mk k nm lo hi ad cap ps)) S e) (ins frm (Con.rightP.rights frm (Con.atom (.mk k nm lo hi ad cap ps)) (ps.take i) l) ⟨1,Con.atom (.mk k nm lo hi ad cap ps),[],p.atom,[],[],[],0,0,0⟩) K m (by have:=Con.rights_len frm (Con.atom (.mk k nm lo hi ad cap ps)) ps i l;have:=Con.sz_at C;have:=bw_ frm (Con.rightP.rights frm (Con.atom (.mk k nm lo hi ad cap ps)) (ps.take i) l) ⟨1,(Con.atom (.mk k nm lo hi ad cap ps)),[],p.atom,[],[],[],0,0,0⟩;omega)) rfl rfl (@List.perm_append_comm _ [_,_] _) (fun v _ h=>by exact⟨Con.mem_part (c:=(.mk k nm lo hi ad cap ps)) h.1 e,h.2⟩) rfl fun x=>?_));obtain⟨R,G⟩:=x;refine y_ (@List.perm_append_comm _ _ [_,_]) (Zz 7 ?_);exact w_ ⟨(i+1,R),M,by rw[Con.rights_step frm _ C];exact G⟩ zF_ zl (F:=[_]) (@List.perm_append_comm _ [_] _) zh
theorem yN_ (x:Ax) (K:x.ok) (hc:x.check=0) {kb:Nat} (frm:Int) (q:CS) (hq:CInv [] q) :
    Tri Tryz.prog 70 #[zp_ kb 0,x.val] (gE_ kb frm q) [x.memF,ci_] (fun _:{q':CS // CInv (x.pieces frm) q'}=>.tuple #[]) (fun q'=>gE_ kb frm q'.1) (fun _=>[]):=by
  have G:=Ax.good_of hc;obtain⟨k,T,⟨kl,H,I,hl,al,cl,pl⟩,⟨y,d,B,A,m,C,E⟩,ad,cap,L,ro,a,b⟩:=x;have hlen:=K.len;have hcap:=K.cap;have h_1:=G.k1;have h_2:=G.k9;have h_3:([]:List Pc).length=0:=rfl;dsimp only at hlen hcap h_1 h_2;show Tri Tryz.prog 70 #[zp_ kb 0,.agg (Ax.cells (Ax.mk k T (Con.mk kl H I hl al cl pl) (Con.mk y d B A m C E) ad cap L ro a b)).toArray] _ _ _ _ _
  refine i_ Tryz.func70 rfl rfl Tryz.ntmps70 rfl fun v_1=>?_;refine Zz 2 ?_;refine aa_ rfl rfl fun R=>Zz 5 ?_
  refine g_ (xF_ kb) rfl (.refl _) zt rfl fun x=>?_;obtain⟨bk,bl,br⟩:=x;refine Zj 16 (fun hr_1=>?_) fun hr_1=>?_
  · skip
    refine Zj 6 (fun hr_2=>?_) fun hr_2=>?_
    · skip
      refine Zj 6 (fun hr_3=>?_) fun hr_3=>?_
      · skip
        refine Zj 6 (fun hr_4=>?_) fun hr_4=>?_
        · skip
          refine Zj 6 (fun hr_5=>?_) fun hr_5=>?_
          · skip
            refine Zj 6 (fun V=>?_) fun V=>?_
            · skip
              refine Zj 6 (fun U=>?_) fun U=>?_
              · skip
                refine Zj 6 (fun hr_8=>?_) fun hr_8=>?_
                · skip
                  refine Zj 6 (fun a4=>?_) fun a4=>?_
                  · skip
                    exfalso;omega
                  · skip
                    refine Zz 4 ?_;refine af_ [(R,.cells (Ax.cells (Ax.mk k T (Con.mk kl H I hl al cl pl) (Con.mk y d B A m C E) ad cap L ro a b)).toArray 42 (0,0))] zk ?_;refine K_ 5 [0,1,2,4,5,6,7] zk (fun _ a b=>⟨Vw.sat.sub a,b⟩) (Zz 8 ?_);refine s_ 3 rfl zk (g_ (fL_ a K.a) rfl (.refl _) zt rfl fun _=>Zz 2 ?_);refine O_ (fun _ a b=>⟨Vw.sat.sub a,b⟩) (s_ 8 rfl zk (g_ (fL_ b K.b) rfl (.refl _) zt rfl fun _=>Zz 2 ?_));refine O_ (fun _ a b=>⟨Vw.sat.sub a,b⟩) (K_ 2 [9] zk (fun _ a b=>⟨Vw.sat.sub a,b⟩) (N_ rfl (I_ dk_ rfl rfl) rfl (bv_ (s_ 10 rfl zk (U_ D_ F_ P_ rfl rfl rfl rfl rfl rfl fun S=>Zz 2 ?_)))));refine O_ (fun _ a b=>⟨Vw.sat.sub a.tail,b⟩) (s_ 11 rfl zk (g_ (ef_ ⟨3,([123]++a++[125]),[],([123]++b++[125]),ro,[],[],0,0,0⟩ frm [] q hq zs_) rfl (.cons _ (@List.perm_append_comm _ [_] _)) zt rfl fun x=>?_));obtain⟨M,J⟩:=x;have O:=bw_ frm [] ⟨3,([123]++a++[125]),[],([123]++b++[125]),ro,[],[],0,0,0⟩;refine y_ (@List.perm_append_comm _ _ [_]) (Zz 2 ?_);refine O_ (fun _ a b=>⟨Vw.sat.sub a,b⟩) (Zz 2 ?_)
                    have e:Ax.pieces frm ⟨k,T,(.mk kl H I hl al cl pl),(.mk y d B A m C E),ad,cap,L,ro,a,b⟩=(ins frm [] ⟨3,([123]++a++[125]),[],([123]++b++[125]),ro,[],[],0,0,0⟩):=by
                      unfold Ax.pieces;dsimp only
                      repeat (first|rfl|(rw[if_pos zs_])|(rw[if_neg zs_]))
                    exact co_ eN_ ⟨M,by rw[e];exact J⟩ rfl (F:=[_]) (@List.perm_append_comm _ [_] _) zt
                · skip
                  obtain⟨fr,zr⟩:=Con.check_zero (G.right zar_);dsimp only at fr zr;refine Zz 9 ?_;refine ap_ (kb_ (kb:=kb) (bk:=bk) (bs:=br) _ (.mk y d B A m C E) (Nat.le_refl _) K.right fr [] q hq zs_) rfl rfl (@List.perm_append_comm _ [_] _) (fun v _ h=>by exact⟨h.2.2.2.1.2.1,h.2.2.2.2.1,h.1,h.2.2.1,trivial⟩) rfl fun x=>?_;obtain⟨M,J⟩:=x;have O:=Con.rightP_len frm _ (.mk y d B A m C E) (Nat.le_refl _) [];refine y_ (@List.perm_append_comm _ _ [_]) (Zz 2 ?_);refine af_ [(R,.cells (Ax.cells (Ax.mk k T (Con.mk kl H I hl al cl pl) (Con.mk y d B A m C E) ad cap L ro a b)).toArray 42 (0,0))] zk ?_;refine K_ 5 [0,1,2,4,5] zk (fun _ a b=>⟨Vw.sat.sub a,b⟩) (Zz 6 ?_);refine s_ 3 rfl zk (g_ (fL_ a K.a) rfl (.refl _) zt rfl fun _=>Zz 2 ?_);refine O_ (fun _ a b=>⟨Vw.sat.sub a,b⟩) (s_ 6 rfl zk (g_ (dx_ (.mk y d B A m C E) K.right) rfl (.refl _) (fun v _ h=>⟨h.2.2.2.1.2.1,h.2.2.2.2.1,trivial⟩) rfl fun _=>Zz 2 ?_));refine O_ (fun _ a b=>⟨Vw.sat.sub a,b⟩) (K_ 2 [7] zk (fun _ a b=>⟨Vw.sat.sub a,b⟩) (N_ rfl (I_ dk_ rfl rfl) rfl (bv_ (s_ 8 rfl zk (U_ D_ F_ P_ rfl rfl rfl rfl rfl rfl fun S=>Zz 2 ?_)))));refine O_ (fun _ a b=>⟨Vw.sat.sub a.tail,b⟩) (s_ 9 rfl zk (g_ (ef_ ⟨1,([123]++a++[125]),[],(Con.atom (.mk y d B A m C E)),[],[],[],0,0,0⟩ frm (Con.rightP frm (.mk y d B A m C E) []) M J zs_) rfl (.cons _ (@List.perm_append_comm _ [_] _)) zt rfl fun x=>?_));obtain⟨Q,N⟩:=x;have X:=bw_ frm (Con.rightP frm (.mk y d B A m C E) []) ⟨1,([123]++a++[125]),[],(Con.atom (.mk y d B A m C E)),[],[],[],0,0,0⟩;refine y_ (@List.perm_append_comm _ _ [_]) (Zz 2 ?_);refine O_ (fun _ a b=>⟨Vw.sat.sub a,b⟩) (Zz 2 ?_)
                  have e:Ax.pieces frm ⟨k,T,(.mk kl H I hl al cl pl),(.mk y d B A m C E),ad,cap,L,ro,a,b⟩=(ins frm (Con.rightP frm (.mk y d B A m C E) []) ⟨1,([123]++a++[125]),[],(Con.atom (.mk y d B A m C E)),[],[],[],0,0,0⟩):=by
                    unfold Ax.pieces;dsimp only
                    repeat (first|rfl|(rw[if_pos zs_])|(rw[if_neg zs_]))
                  exact co_ eN_ ⟨Q,by rw[e];exact N⟩ rfl (F:=[_]) (@List.perm_append_comm _ [_] _) zt
              · skip
                refine Zz 8 ?_;refine e_ (I_ dk_ rfl rfl) rfl (U_ D_ F_ P_ rfl rfl rfl rfl rfl rfl fun S=>g_ (ef_ ⟨7,[],[],[],ro,[],[],0,0,0⟩ frm [] q hq zs_) rfl (.cons _ (@List.perm_append_comm _ [_] _)) zt rfl fun x=>?_);obtain⟨M,J⟩:=x;have O:=bw_ frm [] ⟨7,[],[],[],ro,[],[],0,0,0⟩;refine y_ (@List.perm_append_comm _ _ [_]) (Zz 2 ?_)
                have e:Ax.pieces frm ⟨k,T,(.mk kl H I hl al cl pl),(.mk y d B A m C E),ad,cap,L,ro,a,b⟩=(ins frm [] ⟨7,[],[],[],ro,[],[],0,0,0⟩):=by
                  unfold Ax.pieces;dsimp only
                  repeat (first|rfl|(rw[if_pos zs_])|(rw[if_neg zs_]))
                exact co_ eN_ ⟨M,by rw[e];exact J⟩ rfl (F:=[_]) (@List.perm_append_comm _ [_] _) zt
            · skip
              have hch:=G.chain V;dsimp only at hch;have a0:0<L.length:=by omega
              obtain⟨P,U⟩:∃ P,L[0]? = some P:=⟨_,List.getElem?_eq_getElem a0⟩;refine Zz 8 ?_;refine e_ (S_ l_ E_ rfl rfl (fun v _ h=>au_ (n:=1) aq_ zw_ (h.2.2.2.1.2.2) U) zs_ zy_) rfl ?_;refine Zz 8 ?_;refine e_ (dI_ (i:=1) (j:=L.length) (kl:=.i64) (kh:=.i64) l_ E_ rfl rfl rfl zs_ zs_) rfl (Zz 5 ?_);refine bs_ [(0,zp_ kb 0),(3,zp_ R 0),(6,str P),(130,.slice (sad ad cap 1 1) (L.length - 1) (cap - 1)),(131,.int .i64 ((L.length - 1:Nat):Int)),(132,.int .i64 ((0:Nat):Int))] zl ?_;have hr_8:=Con.plain_len (G.roles P (List.mem_of_getElem? U));refine bR_ (ι:={x:Nat×Str×List Pc×CS // x.1≤L.length - 1∧CInv x.2.2.1 x.2.2.2∧x.2.2.1.length≤x.1∧x.2.1.length≤30*(x.1+1)∧Ax.chainP frm ro (L.drop 1) P []=Ax.chainP frm ro (L.drop (1+x.1)) x.2.1 x.2.2.1}) (fun x=>[(0,zp_ kb 0),(3,zp_ R 0),(6,str x.1.2.1),(130,.slice (sad ad cap 1 1) (L.length - 1) (cap - 1)),(131,.int .i64 ((L.length - 1:Nat):Int)),(132,.int .i64 (x.1.1:Int))]) (fun x=>_::gE_ kb frm x.1.2.2.2) (fun _=>_) (fun x=>L.length - 1 - x.1.1) ⟨(0,P,[],q),by simp,hq,by simp,by simp;omega,rfl⟩ ?_;rintro ⟨⟨i,f,Y,M⟩,hj⟩;dsimp only at hj;refine bs_ [(0,zp_ kb 0),(3,zp_ R 0),(6,str f),(130,.slice (sad ad cap 1 1) (L.length - 1) (cap - 1)),(131,.int .i64 ((L.length - 1:Nat):Int)),(132,.int .i64 (i:Int))] zl ?_;refine Zj 2 (fun a4=>?_) fun a4=>?_
              · skip
                refine Zz 6 ?_
                have e:Ax.pieces frm ⟨k,T,(.mk kl H I hl al cl pl),(.mk y d B A m C E),ad,cap,L,ro,a,b⟩=Ax.chainP frm ro (L.drop 1) P []:=by
                  unfold Ax.pieces;dsimp only;rw[rf_ U]
                  repeat (first|rfl|(rw[if_pos zs_])|(rw[if_neg zs_]))
                have e_1:=hj.2.2.2.2;rw[List.drop_of_length_le (show L.length≤1+i by omega)]at e_1;rw[e_1]at e;exact co_ eN_ ⟨M,by rw[e];exact hj.2.1⟩ rfl (F:=[_]) (@List.perm_append_comm _ [_] _) zt
              · skip
                have hlt:i<L.length - 1:=by omega
                obtain⟨g,hp⟩:∃ g,(L.drop 1)[i]? = some g:=⟨_,List.getElem?_eq_getElem zF_⟩;have a2:L[1+i]? = some g:=by rw[← List.getElem?_drop];exact hp
                have hg:=Con.plain_len (G.roles g (List.mem_of_getElem? a2));have hro:=Con.plain_len (G.role (by show k=4∨k=5∨k=6∨k=7∨k=9;omega));dsimp only at hro;refine Zz 11 ?_;refine e_ (S_ l_ E_ rfl rfl (fun v _ h=>au_ (n:=1) aq_ zw_ (bx_.rest aq_ h.2.2.2.1.2.2 K.len 1) hp) zs_ zy_) rfl ?_;refine e_ (bn_ (ad:=(sad ad cap 1 1)) W_ rfl (fun v _ h=>bx_.rest aq_ h.2.2.2.1.2.2 K.len 1) (o_ aq_ hp 0 _ rfl)) rfl (Zj 19 (fun hr_10=>?_) fun hr_10=>?_)
                · skip
                  refine Zz 11 ?_;refine e_ (I_ dk_ rfl rfl) rfl (U_ D_ F_ P_ rfl rfl rfl rfl rfl rfl fun S=>g_ (ef_ ⟨6,[],[],[],f,g,ro,0,0,0⟩ frm Y M hj.2.1 zs_) rfl (.cons _ (@List.perm_append_comm _ [_] _)) zt rfl fun x=>?_);obtain⟨Q,J⟩:=x;have O:=bw_ frm Y ⟨6,[],[],[],f,g,ro,0,0,0⟩;refine y_ (@List.perm_append_comm _ _ [_]) (Zz 12 ?_);have a3:=ks_ a2;have a1:(L.drop (1+i+1)=[])↔¬ (i+2<L.length):=by rw[List.drop_eq_nil_iff];omega
                  exact w_ ⟨(i+1,ro,(ins frm Y ⟨6,[],[],[],f,g,ro,0,0,0⟩),Q),by dsimp only;omega,J,by dsimp only;omega,by dsimp only;omega,by rw[hj.2.2.2.2,a3];simp only[Ax.chainP];rw[if_pos (by rw[a1];omega),show 1+(i+1)=1+i+1 by omega]⟩ zF_ zl (F:=[]) zal_ zh
                · skip
                  refine Zz 5 ?_;refine e_ (er_ rfl rfl zI_) rfl ?_;refine Zz 1 ?_;refine e_ (er_ rfl rfl zI_) rfl ?_;refine Zz 9 ?_;refine e_ (I_ dk_ rfl rfl) rfl (U_ D_ F_ P_ rfl rfl rfl rfl rfl rfl fun S=>g_ (ef_ ⟨6,[],[],[],f,g,(f++[46])++g,0,0,0⟩ frm Y M hj.2.1 zs_) rfl (.cons _ (@List.perm_append_comm _ [_] _)) zt rfl fun x=>?_);obtain⟨Q,J⟩:=x;have O:=bw_ frm Y ⟨6,[],[],[],f,g,(f++[46])++g,0,0,0⟩;refine y_ (@List.perm_append_comm _ _ [_]) (Zz 12 ?_);have a3:=ks_ a2;have a1:(L.drop (1+i+1)=[])↔¬ (i+2<L.length):=by rw[List.drop_eq_nil_iff];omega
                  exact w_ ⟨(i+1,(f++[46])++g,(ins frm Y ⟨6,[],[],[],f,g,(f++[46])++g,0,0,0⟩),Q),by dsimp only;omega,J,by dsimp only;omega,by simp only[List.length_append,List.length_cons,List.length_nil];omega,by rw[hj.2.2.2.2,a3];simp only[Ax.chainP];rw[if_neg (by rw[a1];omega),show 1+(i+1)=1+i+1 by omega]⟩ zF_ zl (F:=[]) zal_ zh
          · skip
            have a0:0<L.length:=by have:=G.one hr_5;dsimp only at this;omega
            obtain⟨P,V⟩:∃ P,L[0]? = some P:=⟨_,List.getElem?_eq_getElem a0⟩;refine Zz 4 ?_;refine af_ [(R,.cells (Ax.cells (Ax.mk k T (Con.mk kl H I hl al cl pl) (Con.mk y d B A m C E) ad cap L ro a b)).toArray 42 (0,0))] zk ?_;refine K_ 2 [0,1,2,3,4,5,6,7] zk (fun _ a b=>⟨Vw.sat.sub a,b⟩) (Zz 3 ?_);refine N_ rfl (S_ l_ E_ rfl rfl (fun v _ h=>au_ (n:=1) aq_ zw_ (h.2.2.2.1.2.2) V) zs_ zy_) rfl ?_;refine Zz 3 ?_;refine N_ rfl (I_ dk_ rfl rfl) rfl (bv_ (s_ 8 rfl zk (U_ D_ F_ P_ rfl rfl rfl rfl rfl rfl fun S=>Zz 2 ?_)));refine O_ (fun _ a b=>⟨Vw.sat.sub a.tail,b⟩) (s_ 9 rfl zk (g_ (ef_ ⟨5,[],[],[],P,[],ro,0,0,0⟩ frm [] q hq zs_) rfl (.cons _ (@List.perm_append_comm _ [_] _)) zt rfl fun x=>?_));obtain⟨M,J⟩:=x;have O:=bw_ frm [] ⟨5,[],[],[],P,[],ro,0,0,0⟩;refine y_ (@List.perm_append_comm _ _ [_]) (Zz 2 ?_);refine O_ (fun _ a b=>⟨Vw.sat.sub a,b⟩) (Zz 2 ?_)
            have e:Ax.pieces frm ⟨k,T,(.mk kl H I hl al cl pl),(.mk y d B A m C E),ad,cap,L,ro,a,b⟩=(ins frm [] ⟨5,[],[],[],P,[],ro,0,0,0⟩):=by
              unfold Ax.pieces;dsimp only;rw[rf_ V]
              repeat (first|rfl|(rw[if_pos zs_])|(rw[if_neg zs_]))
            exact co_ eN_ ⟨M,by rw[e];exact J⟩ rfl (F:=[_]) (@List.perm_append_comm _ [_] _) zt
        · skip
          obtain⟨fr,zr⟩:=Con.check_zero (G.right zar_);dsimp only at fr zr;refine Zz 9 ?_;refine ap_ (kb_ (kb:=kb) (bk:=bk) (bs:=br) _ (.mk y d B A m C E) (Nat.le_refl _) K.right fr [] q hq zs_) rfl rfl (@List.perm_append_comm _ [_] _) (fun v _ h=>by exact⟨h.2.2.2.1.2.1,h.2.2.2.2.1,h.1,h.2.2.1,trivial⟩) rfl fun x=>?_;obtain⟨M,J⟩:=x;have O:=Con.rightP_len frm _ (.mk y d B A m C E) (Nat.le_refl _) [];refine y_ (@List.perm_append_comm _ _ [_]) (Zz 2 ?_);refine af_ [(R,.cells (Ax.cells (Ax.mk k T (Con.mk kl H I hl al cl pl) (Con.mk y d B A m C E) ad cap L ro a b)).toArray 42 (0,0))] zk ?_;refine K_ 4 [0,1,2,3,4] zk (fun _ a b=>⟨Vw.sat.sub a,b⟩) (Zz 6 ?_);refine s_ 5 rfl zk (g_ (dx_ (.mk y d B A m C E) K.right) rfl (.refl _) (fun v _ h=>⟨h.2.2.2.1.2.1,h.2.2.2.2.1,trivial⟩) rfl fun _=>Zz 2 ?_);refine O_ (fun _ a b=>⟨Vw.sat.sub a,b⟩) (K_ 2 [6] zk (fun _ a b=>⟨Vw.sat.sub a,b⟩) (N_ rfl (I_ dk_ rfl rfl) rfl (bv_ (s_ 7 rfl zk (U_ D_ F_ P_ rfl rfl rfl rfl rfl rfl fun S=>Zz 2 ?_)))));refine O_ (fun _ a b=>⟨Vw.sat.sub a.tail,b⟩) (s_ 8 rfl zk (g_ (ef_ ⟨4,[42],[],(Con.atom (.mk y d B A m C E)),ro,[],[],0,0,0⟩ frm (Con.rightP frm (.mk y d B A m C E) []) M J zs_) rfl (.cons _ (@List.perm_append_comm _ [_] _)) zt rfl fun x=>?_));obtain⟨Q,N⟩:=x;have X:=bw_ frm (Con.rightP frm (.mk y d B A m C E) []) ⟨4,[42],[],(Con.atom (.mk y d B A m C E)),ro,[],[],0,0,0⟩;refine y_ (@List.perm_append_comm _ _ [_]) (Zz 2 ?_);refine O_ (fun _ a b=>⟨Vw.sat.sub a,b⟩) (Zz 2 ?_)
          have e:Ax.pieces frm ⟨k,T,(.mk kl H I hl al cl pl),(.mk y d B A m C E),ad,cap,L,ro,a,b⟩=(ins frm (Con.rightP frm (.mk y d B A m C E) []) ⟨4,[42],[],(Con.atom (.mk y d B A m C E)),ro,[],[],0,0,0⟩):=by
            unfold Ax.pieces;dsimp only
            repeat (first|rfl|(rw[if_pos zs_])|(rw[if_neg zs_]))
          exact co_ eN_ ⟨Q,by rw[e];exact N⟩ rfl (F:=[_]) (@List.perm_append_comm _ [_] _) zt
      · skip
        obtain⟨fl,zl⟩:=Con.check_zero (G.left (by show k≤3;omega));dsimp only at fl zl;obtain⟨fr,zr⟩:=Con.check_zero (G.right zar_);dsimp only at fr zr;refine Zz 9 ?_;refine ap_ (nw_ (kb:=kb) (bk:=bk) (bs:=bl) _ (.mk kl H I hl al cl pl) (Nat.le_refl _) K.left fl [] q hq zs_) rfl rfl (@List.perm_append_comm _ [_] _) (fun v _ h=>by exact⟨h.2.2.2.1.1,h.2.2.2.2.1,h.1,h.2.1,trivial⟩) rfl fun x=>?_;obtain⟨M,J⟩:=x;have O:=Con.leftP_len frm _ (.mk kl H I hl al cl pl) (Nat.le_refl _) [];refine y_ (@List.perm_append_comm _ _ [_]) (Zz 7 ?_);refine ap_ (nw_ (kb:=kb) (bk:=bk) (bs:=bl) _ (.mk y d B A m C E) (Nat.le_refl _) K.right fr (Con.leftP frm (.mk kl H I hl al cl pl) []) M J zs_) rfl rfl (@List.perm_append_comm _ [_] _) (fun v _ h=>by exact⟨h.2.2.2.1.2.1,h.2.2.2.2.1,h.1,h.2.1,trivial⟩) rfl fun x=>?_;obtain⟨Q,N⟩:=x;have X:=Con.leftP_len frm _ (.mk y d B A m C E) (Nat.le_refl _) (Con.leftP frm (.mk kl H I hl al cl pl) []);refine y_ (@List.perm_append_comm _ _ [_]) (Zz 2 ?_);refine af_ [(R,.cells (Ax.cells (Ax.mk k T (Con.mk kl H I hl al cl pl) (Con.mk y d B A m C E) ad cap L ro a b)).toArray 42 (0,0))] zk ?_;refine K_ 5 [0,1,2,4,5] zk (fun _ a b=>⟨Vw.sat.sub a,b⟩) (Zz 6 ?_);refine s_ 3 rfl zk (g_ (dx_ (.mk kl H I hl al cl pl) K.left) rfl (.refl _) (fun v _ h=>⟨h.2.2.2.1.1,h.2.2.2.2.1,trivial⟩) rfl fun _=>Zz 2 ?_);refine O_ (fun _ a b=>⟨Vw.sat.sub a,b⟩) (s_ 6 rfl zk (g_ (dx_ (.mk y d B A m C E) K.right) rfl (.refl _) (fun v _ h=>⟨h.2.2.2.1.2.1,h.2.2.2.2.1,trivial⟩) rfl fun _=>Zz 2 ?_));refine O_ (fun _ a b=>⟨Vw.sat.sub a,b⟩) (K_ 2 [7] zk (fun _ a b=>⟨Vw.sat.sub a,b⟩) (N_ rfl (I_ dk_ rfl rfl) rfl (bv_ (s_ 8 rfl zk (U_ D_ F_ P_ rfl rfl rfl rfl rfl rfl fun S=>Zz 2 ?_)))));refine O_ (fun _ a b=>⟨Vw.sat.sub a.tail,b⟩) (s_ 9 rfl zk (g_ (ef_ ⟨2,(Con.atom (.mk kl H I hl al cl pl)),(Con.atom (.mk y d B A m C E)),[33],[],[],[],0,0,0⟩ frm (Con.leftP frm (.mk y d B A m C E) (Con.leftP frm (.mk kl H I hl al cl pl) [])) Q N zs_) rfl (.cons _ (@List.perm_append_comm _ [_] _)) zt rfl fun x=>?_));obtain⟨Z,W⟩:=x;have hb_3:=bw_ frm (Con.leftP frm (.mk y d B A m C E) (Con.leftP frm (.mk kl H I hl al cl pl) [])) ⟨2,(Con.atom (.mk kl H I hl al cl pl)),(Con.atom (.mk y d B A m C E)),[33],[],[],[],0,0,0⟩;refine y_ (@List.perm_append_comm _ _ [_]) (Zz 2 ?_);refine O_ (fun _ a b=>⟨Vw.sat.sub a,b⟩) (Zz 2 ?_)
        have e:Ax.pieces frm ⟨k,T,(.mk kl H I hl al cl pl),(.mk y d B A m C E),ad,cap,L,ro,a,b⟩=(ins frm (Con.leftP frm (.mk y d B A m C E) (Con.leftP frm (.mk kl H I hl al cl pl) [])) ⟨2,(Con.atom (.mk kl H I hl al cl pl)),(Con.atom (.mk y d B A m C E)),[33],[],[],[],0,0,0⟩):=by
          unfold Ax.pieces;dsimp only
          repeat (first|rfl|(rw[if_pos zs_])|(rw[if_neg zs_]))
        exact co_ eN_ ⟨Z,by rw[e];exact W⟩ rfl (F:=[_]) (@List.perm_append_comm _ [_] _) zt
    · skip
      obtain⟨fl,zl⟩:=Con.check_zero (G.left (by show k≤3;omega));dsimp only at fl zl;obtain⟨fr,zr⟩:=Con.check_zero (G.right zar_);dsimp only at fr zr;refine Zz 9 ?_;refine ap_ (nw_ (kb:=kb) (bk:=bk) (bs:=bl) _ (.mk kl H I hl al cl pl) (Nat.le_refl _) K.left fl [] q hq zs_) rfl rfl (@List.perm_append_comm _ [_] _) (fun v _ h=>by exact⟨h.2.2.2.1.1,h.2.2.2.2.1,h.1,h.2.1,trivial⟩) rfl fun x=>?_;obtain⟨M,J⟩:=x;have O:=Con.leftP_len frm _ (.mk kl H I hl al cl pl) (Nat.le_refl _) [];refine y_ (@List.perm_append_comm _ _ [_]) (Zz 7 ?_);refine ap_ (kb_ (kb:=kb) (bk:=bk) (bs:=br) _ (.mk y d B A m C E) (Nat.le_refl _) K.right fr (Con.leftP frm (.mk kl H I hl al cl pl) []) M J zs_) rfl rfl (@List.perm_append_comm _ [_] _) (fun v _ h=>by exact⟨h.2.2.2.1.2.1,h.2.2.2.2.1,h.1,h.2.2.1,trivial⟩) rfl fun x=>?_;obtain⟨Q,N⟩:=x;have X:=Con.rightP_len frm _ (.mk y d B A m C E) (Nat.le_refl _) (Con.leftP frm (.mk kl H I hl al cl pl) []);refine y_ (@List.perm_append_comm _ _ [_]) (Zz 3 ?_);refine af_ [(R,.cells (Ax.cells (Ax.mk k T (Con.mk kl H I hl al cl pl) (Con.mk y d B A m C E) ad cap L ro a b)).toArray 42 (0,0))] zk ?_;refine K_ 5 [0,1,2,4,5] zk (fun _ a b=>⟨Vw.sat.sub a,b⟩) (Zz 6 ?_);refine s_ 3 rfl zk (g_ (dx_ (.mk kl H I hl al cl pl) K.left) rfl (.refl _) (fun v _ h=>⟨h.2.2.2.1.1,h.2.2.2.2.1,trivial⟩) rfl fun _=>Zz 2 ?_);refine O_ (fun _ a b=>⟨Vw.sat.sub a,b⟩) (s_ 6 rfl zk (g_ (dx_ (.mk y d B A m C E) K.right) rfl (.refl _) (fun v _ h=>⟨h.2.2.2.1.2.1,h.2.2.2.2.1,trivial⟩) rfl fun _=>Zz 2 ?_));refine O_ (fun _ a b=>⟨Vw.sat.sub a,b⟩) (K_ 2 [7] zk (fun _ a b=>⟨Vw.sat.sub a,b⟩) (N_ rfl (I_ dk_ rfl rfl) rfl (bv_ (s_ 8 rfl zk (U_ D_ F_ P_ rfl rfl rfl rfl rfl rfl fun S=>Zz 2 ?_)))));refine O_ (fun _ a b=>⟨Vw.sat.sub a.tail,b⟩) (s_ 9 rfl zk (g_ (ef_ ⟨1,(Con.atom (.mk kl H I hl al cl pl)),[],(Con.atom (.mk y d B A m C E)),[],[],[],0,0,0⟩ frm (Con.rightP frm (.mk y d B A m C E) (Con.leftP frm (.mk kl H I hl al cl pl) [])) Q N zs_) rfl (.cons _ (@List.perm_append_comm _ [_] _)) zt rfl fun x=>?_));obtain⟨Z,W⟩:=x;have hb_3:=bw_ frm (Con.rightP frm (.mk y d B A m C E) (Con.leftP frm (.mk kl H I hl al cl pl) [])) ⟨1,(Con.atom (.mk kl H I hl al cl pl)),[],(Con.atom (.mk y d B A m C E)),[],[],[],0,0,0⟩;refine y_ (@List.perm_append_comm _ _ [_]) (Zz 2 ?_);refine O_ (fun _ a b=>⟨Vw.sat.sub a,b⟩) (Zz 7 ?_);refine ap_ (nw_ (kb:=kb) (bk:=bk) (bs:=bl) _ (.mk y d B A m C E) (Nat.le_refl _) K.right fr (ins frm (Con.rightP frm (.mk y d B A m C E) (Con.leftP frm (.mk kl H I hl al cl pl) [])) ⟨1,(Con.atom (.mk kl H I hl al cl pl)),[],(Con.atom (.mk y d B A m C E)),[],[],[],0,0,0⟩) Z W zs_) rfl rfl (@List.perm_append_comm _ [_] _) (fun v _ h=>by exact⟨h.2.2.2.1.2.1,h.2.2.2.2.1,h.1,h.2.1,trivial⟩) rfl fun x=>?_;obtain⟨q_4,hq_4⟩:=x;have hb_4:=Con.leftP_len frm _ (.mk y d B A m C E) (Nat.le_refl _) (ins frm (Con.rightP frm (.mk y d B A m C E) (Con.leftP frm (.mk kl H I hl al cl pl) [])) ⟨1,(Con.atom (.mk kl H I hl al cl pl)),[],(Con.atom (.mk y d B A m C E)),[],[],[],0,0,0⟩);refine y_ (@List.perm_append_comm _ _ [_]) (Zz 7 ?_);refine ap_ (kb_ (kb:=kb) (bk:=bk) (bs:=br) _ (.mk kl H I hl al cl pl) (Nat.le_refl _) K.left fl (Con.leftP frm (.mk y d B A m C E) (ins frm (Con.rightP frm (.mk y d B A m C E) (Con.leftP frm (.mk kl H I hl al cl pl) [])) ⟨1,(Con.atom (.mk kl H I hl al cl pl)),[],(Con.atom (.mk y d B A m C E)),[],[],[],0,0,0⟩)) q_4 hq_4 zs_) rfl rfl (@List.perm_append_comm _ [_] _) (fun v _ h=>by exact⟨h.2.2.2.1.1,h.2.2.2.2.1,h.1,h.2.2.1,trivial⟩) rfl fun x=>?_;obtain⟨q_5,hq_5⟩:=x;have hb_5:=Con.rightP_len frm _ (.mk kl H I hl al cl pl) (Nat.le_refl _) (Con.leftP frm (.mk y d B A m C E) (ins frm (Con.rightP frm (.mk y d B A m C E) (Con.leftP frm (.mk kl H I hl al cl pl) [])) ⟨1,(Con.atom (.mk kl H I hl al cl pl)),[],(Con.atom (.mk y d B A m C E)),[],[],[],0,0,0⟩));refine y_ (@List.perm_append_comm _ _ [_]) (Zz 2 ?_);refine af_ [(R,.cells (Ax.cells (Ax.mk k T (Con.mk kl H I hl al cl pl) (Con.mk y d B A m C E) ad cap L ro a b)).toArray 42 (0,0))] zk ?_;refine K_ 5 [0,1,2,4,5] zk (fun _ a b=>⟨Vw.sat.sub a,b⟩) (Zz 6 ?_);refine s_ 3 rfl zk (g_ (dx_ (.mk y d B A m C E) K.right) rfl (.refl _) (fun v _ h=>⟨h.2.2.2.1.2.1,h.2.2.2.2.1,trivial⟩) rfl fun _=>Zz 2 ?_);refine O_ (fun _ a b=>⟨Vw.sat.sub a,b⟩) (s_ 6 rfl zk (g_ (dx_ (.mk kl H I hl al cl pl) K.left) rfl (.refl _) (fun v _ h=>⟨h.2.2.2.1.1,h.2.2.2.2.1,trivial⟩) rfl fun _=>Zz 2 ?_));refine O_ (fun _ a b=>⟨Vw.sat.sub a,b⟩) (K_ 2 [7] zk (fun _ a b=>⟨Vw.sat.sub a,b⟩) (N_ rfl (I_ dk_ rfl rfl) rfl (bv_ (s_ 8 rfl zk (U_ D_ F_ P_ rfl rfl rfl rfl rfl rfl fun b_3=>Zz 2 ?_)))));refine O_ (fun _ a b=>⟨Vw.sat.sub a.tail,b⟩) (s_ 9 rfl zk (g_ (ef_ ⟨1,(Con.atom (.mk y d B A m C E)),[],(Con.atom (.mk kl H I hl al cl pl)),[],[],[],0,0,0⟩ frm (Con.rightP frm (.mk kl H I hl al cl pl) (Con.leftP frm (.mk y d B A m C E) (ins frm (Con.rightP frm (.mk y d B A m C E) (Con.leftP frm (.mk kl H I hl al cl pl) [])) ⟨1,(Con.atom (.mk kl H I hl al cl pl)),[],(Con.atom (.mk y d B A m C E)),[],[],[],0,0,0⟩))) q_5 hq_5 zs_) rfl (.cons _ (@List.perm_append_comm _ [_] _)) zt rfl fun x=>?_));obtain⟨q_6,hq_6⟩:=x;have hb_6:=bw_ frm (Con.rightP frm (.mk kl H I hl al cl pl) (Con.leftP frm (.mk y d B A m C E) (ins frm (Con.rightP frm (.mk y d B A m C E) (Con.leftP frm (.mk kl H I hl al cl pl) [])) ⟨1,(Con.atom (.mk kl H I hl al cl pl)),[],(Con.atom (.mk y d B A m C E)),[],[],[],0,0,0⟩))) ⟨1,(Con.atom (.mk y d B A m C E)),[],(Con.atom (.mk kl H I hl al cl pl)),[],[],[],0,0,0⟩;refine y_ (@List.perm_append_comm _ _ [_]) (Zz 2 ?_);refine O_ (fun _ a b=>⟨Vw.sat.sub a,b⟩) (Zz 2 ?_)
      have e:Ax.pieces frm ⟨k,T,(.mk kl H I hl al cl pl),(.mk y d B A m C E),ad,cap,L,ro,a,b⟩=(ins frm (Con.rightP frm (.mk kl H I hl al cl pl) (Con.leftP frm (.mk y d B A m C E) (ins frm (Con.rightP frm (.mk y d B A m C E) (Con.leftP frm (.mk kl H I hl al cl pl) [])) ⟨1,(Con.atom (.mk kl H I hl al cl pl)),[],(Con.atom (.mk y d B A m C E)),[],[],[],0,0,0⟩))) ⟨1,(Con.atom (.mk y d B A m C E)),[],(Con.atom (.mk kl H I hl al cl pl)),[],[],[],0,0,0⟩):=by
        unfold Ax.pieces;dsimp only
        repeat (first|rfl|(rw[if_pos zs_])|(rw[if_neg zs_]))
      exact co_ eN_ ⟨q_6,by rw[e];exact hq_6⟩ rfl (F:=[_]) (@List.perm_append_comm _ [_] _) zt
  · skip
    obtain⟨fl,zl⟩:=Con.check_zero (G.left (by show k≤3;omega));dsimp only at fl zl;obtain⟨fr,zr⟩:=Con.check_zero (G.right zar_);dsimp only at fr zr;refine Zz 9 ?_;refine ap_ (nw_ (kb:=kb) (bk:=bk) (bs:=bl) _ (.mk kl H I hl al cl pl) (Nat.le_refl _) K.left fl [] q hq zs_) rfl rfl (@List.perm_append_comm _ [_] _) (fun v _ h=>by exact⟨h.2.2.2.1.1,h.2.2.2.2.1,h.1,h.2.1,trivial⟩) rfl fun x=>?_;obtain⟨M,J⟩:=x;have O:=Con.leftP_len frm _ (.mk kl H I hl al cl pl) (Nat.le_refl _) [];refine y_ (@List.perm_append_comm _ _ [_]) (Zz 7 ?_);refine ap_ (kb_ (kb:=kb) (bk:=bk) (bs:=br) _ (.mk y d B A m C E) (Nat.le_refl _) K.right fr (Con.leftP frm (.mk kl H I hl al cl pl) []) M J zs_) rfl rfl (@List.perm_append_comm _ [_] _) (fun v _ h=>by exact⟨h.2.2.2.1.2.1,h.2.2.2.2.1,h.1,h.2.2.1,trivial⟩) rfl fun x=>?_;obtain⟨Q,N⟩:=x;have X:=Con.rightP_len frm _ (.mk y d B A m C E) (Nat.le_refl _) (Con.leftP frm (.mk kl H I hl al cl pl) []);refine y_ (@List.perm_append_comm _ _ [_]) (Zz 2 ?_);refine af_ [(R,.cells (Ax.cells (Ax.mk k T (Con.mk kl H I hl al cl pl) (Con.mk y d B A m C E) ad cap L ro a b)).toArray 42 (0,0))] zk ?_;refine K_ 5 [0,1,2,4,5] zk (fun _ a b=>⟨Vw.sat.sub a,b⟩) (Zz 6 ?_);refine s_ 3 rfl zk (g_ (dx_ (.mk kl H I hl al cl pl) K.left) rfl (.refl _) (fun v _ h=>⟨h.2.2.2.1.1,h.2.2.2.2.1,trivial⟩) rfl fun _=>Zz 2 ?_);refine O_ (fun _ a b=>⟨Vw.sat.sub a,b⟩) (s_ 6 rfl zk (g_ (dx_ (.mk y d B A m C E) K.right) rfl (.refl _) (fun v _ h=>⟨h.2.2.2.1.2.1,h.2.2.2.2.1,trivial⟩) rfl fun _=>Zz 2 ?_));refine O_ (fun _ a b=>⟨Vw.sat.sub a,b⟩) (K_ 2 [7] zk (fun _ a b=>⟨Vw.sat.sub a,b⟩) (N_ rfl (I_ dk_ rfl rfl) rfl (bv_ (s_ 8 rfl zk (U_ D_ F_ P_ rfl rfl rfl rfl rfl rfl fun S=>Zz 2 ?_)))));refine O_ (fun _ a b=>⟨Vw.sat.sub a.tail,b⟩) (s_ 9 rfl zk (g_ (ef_ ⟨1,(Con.atom (.mk kl H I hl al cl pl)),[],(Con.atom (.mk y d B A m C E)),[],[],[],0,0,0⟩ frm (Con.rightP frm (.mk y d B A m C E) (Con.leftP frm (.mk kl H I hl al cl pl) [])) Q N zs_) rfl (.cons _ (@List.perm_append_comm _ [_] _)) zt rfl fun x=>?_));obtain⟨Z,W⟩:=x;have hb_3:=bw_ frm (Con.rightP frm (.mk y d B A m C E) (Con.leftP frm (.mk kl H I hl al cl pl) [])) ⟨1,(Con.atom (.mk kl H I hl al cl pl)),[],(Con.atom (.mk y d B A m C E)),[],[],[],0,0,0⟩;refine y_ (@List.perm_append_comm _ _ [_]) (Zz 2 ?_);refine O_ (fun _ a b=>⟨Vw.sat.sub a,b⟩) (Zz 2 ?_)
    have e:Ax.pieces frm ⟨k,T,(.mk kl H I hl al cl pl),(.mk y d B A m C E),ad,cap,L,ro,a,b⟩=(ins frm (Con.rightP frm (.mk y d B A m C E) (Con.leftP frm (.mk kl H I hl al cl pl) [])) ⟨1,(Con.atom (.mk kl H I hl al cl pl)),[],(Con.atom (.mk y d B A m C E)),[],[],[],0,0,0⟩):=by
      unfold Ax.pieces;dsimp only
      repeat (first|rfl|(rw[if_pos zs_])|(rw[if_neg zs_]))
    exact co_ eN_ ⟨Z,by rw[e];exact W⟩ rfl (F:=[_]) (@List.perm_append_comm _ [_] _) zt
theorem ay_.form {e:TypeId} {sz n:Nat} {sv:Value} {m:List Value} {Hr:Hp} (h:ay_ e sz sv n m Hr):∃ ad cap,sv=.slice ad n cap:=by
 rcases h.2 with⟨d,k,_⟩|⟨g,cap,cur,d,_⟩
 ·exact⟨none,0,by rw[d,k]⟩
 exact⟨_,cap,d⟩
theorem ay_.nilcap {e:TypeId} {sz n m cap:Nat} {sv:Value} {v:List Value} {Hr:Hp} {ad:Option Addr} (h:ay_ e sz sv n v Hr) (d:sv=.slice ad m cap):ad=none→cap=0:=fun q=>by
 rcases h.2 with⟨k,_,_⟩|⟨g,c,cur,k,_⟩
 ·rw[k]at d;simp only[Value.slice.injEq]at d;exact d.2.2.symm
 rw[k,q]at d;simp at d
theorem uk_ (l:List Ax) (ad:Option Addr) (cap:Nat) (a7:l.length≤2199023255488) (W:∀ x∈l,x.ok) :
    Tri Tryz.prog 31 #[.slice ad l.length cap] [] [ej_ ad l,ci_] (fun y:{y:Option Addr×Nat // (bC_ l).1.length≤y.2∧y.2≤maxLen∧(y.1=none→y.2=0)}=>.tuple #[.slice y.1.1 (bC_ l).1.length y.1.2,.int .i64 (bC_ l).2]) (fun _=>[]) (fun y=>[ah_ y.1.1 ((bC_ l).1.flatMap Pc.cells)]):=by
  refine i_ Tryz.func31 rfl rfl Tryz.ntmps31 rfl fun v_1=>?_;refine be_ ?_;refine aG_ ?_;refine e_ (az_ rfl) rfl ?_;refine e_ (az_ rfl) rfl ?_;refine bq_ ?_;refine aZ_ rfl ?_;refine be_ ?_;refine be_ ?_;refine aG_ ?_;refine e_ (al_ rfl) rfl ?_;refine e_ (dC_ aU_ rfl) rfl ?_;refine B_ (dA_ rfl rfl) rfl fun X C=>?_;refine bq_ ?_;refine aZ_ rfl ?_;cases X
  · skip
    replace C:=zdf C;try dsimp only[Con.kind,Con.parts,Con.name,Con.lo,Con.hi,Con.cap,Con.ad]at C
    refine fe_ rfl ?_;refine gU_ ?_;refine aZ_ rfl ?_;refine be_ ?_;refine be_ ?_;refine aG_ ?_;refine e_ (al_ rfl) rfl ?_;refine e_ (dC_ aU_ rfl) rfl ?_;refine e_ (al_ rfl) rfl ?_;refine bq_ ?_;refine aZ_ rfl ?_;refine gV_ ?_;refine bs_ [(0,.slice ad l.length cap),(2,.slice none 0 0),(13,.slice ad l.length cap),(14,.int .i64 (l.length:Int)),(15,.int .i64 ((0:Nat):Int))] zl ?_;refine bR_ (ι:={q:Nat // q≤l.length∧∀ y∈l.take q,y.check=0}) (fun i=>[(0,.slice ad l.length cap),(2,.slice none 0 0),(13,.slice ad l.length cap),(14,.int .i64 (l.length:Int)),(15,.int .i64 (i.1:Int))]) (fun _=>_) (fun _=>_) (fun i=>l.length - i.1) ⟨0,by simp⟩ ?_;rintro ⟨i,hk⟩;refine bs_ [(0,.slice ad l.length cap),(2,.slice none 0 0),(13,.slice ad l.length cap),(14,.int .i64 (l.length:Int)),(15,.int .i64 (i:Int))] zl ?_;refine be_ ?_;refine aG_ ?_;refine B_ (dc_ rfl rfl) rfl fun a1 A=>?_;refine bq_ ?_;refine aZ_ rfl ?_;refine be_ ?_;cases a1
    · skip
      replace A:=zdf A;try dsimp only[Con.kind,Con.parts,Con.name,Con.lo,Con.hi,Con.cap,Con.ad]at A
      obtain rfl:i=l.length:=by omega
      try rw[List.take_length]at hk
      refine fe_ rfl ?_;refine mV_ rfl ?_;refine aZ_ rfl ?_;refine be_ ?_;refine be_ ?_;refine aG_ ?_;refine e_ (al_ rfl) rfl ?_;refine e_ (dC_ aU_ rfl) rfl ?_;refine e_ (al_ rfl) rfl ?_;refine bq_ ?_;refine aZ_ rfl ?_;refine gV_ ?_;have I:=hk.2;refine bs_ [(2,.slice none 0 0),(25,.slice ad l.length cap),(26,.int .i64 (l.length:Int)),(27,.int .i64 ((0:Nat):Int))] zl ?_;refine bR_ (ι:={x:Nat×List Pc×Value×Hp // x.1≤l.length∧ay_ 174 10 x.2.2.1 x.2.1.length (x.2.1.flatMap Pc.cells) x.2.2.2∧x.2.1.length≤16384∧hC_ 0 l []=hC_ x.1 (l.drop x.1) x.2.1}) (fun x=>[(2,x.1.2.2.1),(25,.slice ad l.length cap),(26,.int .i64 (l.length:Int)),(27,.int .i64 (x.1.1:Int))]) (fun x=>x.1.2.2.2) (fun _=>_) (fun x=>l.length - x.1.1) ⟨(0,[],.slice none 0 0,[]),by simp,ay_.nil _ _,by simp,rfl⟩ ?_;clear hk;rintro ⟨⟨i,p,sv,Hr⟩,hk⟩;dsimp only at hk;refine bs_ [(2,sv),(25,.slice ad l.length cap),(26,.int .i64 (l.length:Int)),(27,.int .i64 (i:Int))] zl ?_;refine be_ ?_;refine aG_ ?_;refine B_ (dc_ rfl rfl) rfl fun Q d=>?_;refine bq_ ?_;refine aZ_ rfl ?_;refine be_ ?_;cases Q
      · skip
        replace d:=zdf d;try dsimp only[Con.kind,Con.parts,Con.name,Con.lo,Con.hi,Con.cap,Con.ad]at d
        obtain rfl:i=l.length:=by omega
        try rw[List.take_length]at hk
        refine fe_ rfl ?_;refine mV_ rfl ?_;refine aZ_ rfl ?_;refine be_ ?_;refine aG_ ?_;refine e_ (al_ rfl) rfl ?_;refine e_ (az_ rfl) rfl ?_;refine e_ (az_ rfl) rfl ?_;refine bq_ ?_;refine aZ_ rfl ?_;refine iP_ ?_;refine jE_ hk.2.1 (F:=[]) (by rw[List.append_nil]) fun m k L V T=>?_
        have e:bC_ l=(p,0):=by
          unfold bC_;rw[if_neg zs_,if_neg (by simp[fs_ I]),hk.2.2.2,List.drop_length];first|done|rfl
        have E:(bC_ l).1.length≤k∧k≤maxLen∧(m=none→k=0):=by rw[e];exact⟨V,T,ay_.nilcap hk.2.1 L⟩
        have P:Value.tuple #[sv,.int .i64 0]=.tuple #[.slice m (bC_ l).1.length k,.int .i64 (bC_ l).2]:=by rw[e,L]
        have O:(p.flatMap Pc.cells)=((bC_ l).1.flatMap Pc.cells):=by rw[e]
        exact kO_ Tryz.results31 ⟨(m,k),E⟩ rfl rfl P (.refl _) (fun v _ h=>⟨O▸h.1,trivial⟩)
      · skip
        replace d:=zdt d;try dsimp only[Con.kind,Con.parts,Con.name,Con.lo,Con.hi,Con.cap,Con.ad]at d
        have J:i<l.length:=by omega
        obtain⟨x,K⟩:∃ x,l[i]? = some x:=⟨_,List.getElem?_eq_getElem J⟩;have H:x∈l:=List.mem_of_getElem? K;refine bX_ rfl ?_;refine gU_ ?_;refine aZ_ rfl ?_;refine be_ ?_;refine gV_ ?_;refine be_ ?_;have G:=Ax.good_of (I x H);have hpl:=jD_ (i:Int) G;refine aG_ ?_;refine e_ (al_ rfl) rfl ?_;refine e_ (S_ aU_ br_ rfl rfl (fun v _ h=>au_ (n:=16) Ax.cells_len zw_ (h.1.1) K) zs_ zy_) rfl ?_;refine e_ (aj_ (ad:=ad) (us:=x.cells) sx_ br_ rfl (fun v _ h=>h.1.1) (Ax.cells_len _) (o_ Ax.cells_len K)) rfl ?_;refine G_ cI_ rfl fun Y=>?_;refine e_ (az_ rfl) rfl ?_;refine ng_ (us:=x.cells) 0 br_ x.cells_len x.one_cells rfl rfl rfl rfl ?_;refine bq_ ?_;refine aZ_ rfl ?_;refine be_ ?_;refine aG_ ?_;refine e_ (al_ rfl) rfl ?_;refine g_ (nr_ (i:Int)) rfl (.refl _) zt rfl fun⟨kb,bm⟩=>?_;refine e_ (az_ rfl) rfl ?_;refine bq_ ?_;refine aZ_ rfl ?_;refine be_ ?_;refine aG_ ?_;refine e_ (al_ rfl) rfl ?_;refine e_ (oj_ (us:=x.cells) 2 sx_ br_ x.cells_len rfl rfl) rfl ?_;refine g_ (yN_ x (W x H) (I x H) (i:Int) ⟨.slice none 0 0,bm,#[],0,[]⟩ ⟨ay_.nil _ _,rfl,by simp⟩) rfl (.refl _) (fun v _ h=>⟨h.1.2 x H,h.2.1,trivial⟩) rfl fun y=>?_;obtain⟨⟨a8,a4,a6,a5,a3⟩,hq⟩:=y;have U:=hq.row;dsimp only at U;have R:(x.pieces (i:Int)).length≠0:=fun e=>Ax.pieces_ne _ G (List.eq_nil_of_length_eq_zero e)
        obtain⟨g,cp,cur,rfl,rfl,h_1,h_2,h_3,a0⟩:=U.some R;refine bq_ ?_;refine aZ_ rfl ?_;refine be_ ?_;refine aG_ ?_;refine e_ (al_ rfl) rfl ?_;refine e_ (al_ rfl) rfl ?_;refine e_ (kF_ rfl) rfl ?_;refine e_ (bS_ ca_ rfl rfl rfl zf_) rfl ?_;refine e_ (aE_ 0 Tryz.isAgg63 rfl rfl rfl) rfl ?_;refine an_ wF_ hk.2.1 rfl rfl (@List.perm_append_comm _ [_,_,_,_] _) (by rw[dv_ Pc.cells 10 Pc.cells_len]) (um_ 2 rfl a0) (fun u hu=>by obtain⟨y,_,E⟩:=List.mem_flatMap.1 hu;exact kg_ y.cells_one u E) zE_ zs_ rfl fun M S N=>?_;refine y_ (@List.perm_append_comm _ _ [_,_,_,_]) ?_;have Z:∃ m k,M=.slice m (p.length+(x.pieces (i:Int)).length) k:=ay_.form N;obtain⟨m,k,L⟩:=Z;refine e_ (az_ rfl) rfl ?_;refine bq_ ?_;refine aZ_ rfl ?_;refine be_ ?_;refine aG_ ?_;refine e_ (al_ rfl) rfl ?_;refine e_ (dC_ (ad:=m) (len:=p.length+(x.pieces (i:Int)).length) (cap:=k) D_ (congrArg some L)) rfl ?_;refine B_ (dA_ rfl rfl) rfl fun a2 B=>?_;refine bq_ ?_;refine aZ_ rfl ?_;cases a2
        · skip
          replace B:=zdf B;try dsimp only[Con.kind,Con.parts,Con.name,Con.lo,Con.hi,Con.cap,Con.ad]at B
          refine fe_ rfl ?_;refine gU_ ?_;refine aZ_ rfl ?_;refine aG_ ?_;refine e_ (bc_ rfl rfl rfl (cm_ zs_ zs_)) rfl ?_;refine e_ (al_ rfl) rfl ?_;refine bq_ ?_;refine fO_ rfl ?_;exact w_ ⟨(i+1,p++x.pieces (i:Int),M,S),J,by simpa [List.flatMap_append] using N,by simp only[List.length_append];omega,by rw[hk.2.2.2,ks_ K];simp only[hC_];rw[if_neg (by simp only[List.length_append];omega)]⟩ zF_ zl (F:=[_,_,_,_]) (@List.perm_append_comm _ [_,_,_,_] _) zh
        · skip
          replace B:=zdt B;try dsimp only[Con.kind,Con.parts,Con.name,Con.lo,Con.hi,Con.cap,Con.ad]at B
          refine bX_ rfl ?_;refine be_ ?_;refine aG_ ?_;refine e_ (az_ rfl) rfl ?_;refine e_ (az_ rfl) rfl ?_;refine bq_ ?_;refine aZ_ rfl ?_;refine iP_ ?_;have e:bC_ l=([],2):=by unfold bC_;rw[if_neg zs_,if_neg (by simp[fs_ I]),hk.2.2.2,ks_ K];simp only[hC_];rw[if_pos (by simp only[List.length_append];omega)]
          have E:(bC_ l).1.length≤0∧0≤maxLen∧((none:Option Addr)=none→0=0):=by rw[e];simp
          have P:Value.tuple #[.slice none 0 0,.int .i64 2]=.tuple #[.slice none (bC_ l).1.length 0,.int .i64 (bC_ l).2]:=by rw[e]<;>rfl
          have O:(bC_ l).1.flatMap Pc.cells=[]:=by rw[e]<;>rfl
          exact kO_ Tryz.results31 ⟨(none,0),E⟩ rfl rfl P (.refl _) (fun v _ h=>⟨.inl O,trivial⟩)
    · skip
      replace A:=zdt A;try dsimp only[Con.kind,Con.parts,Con.name,Con.lo,Con.hi,Con.cap,Con.ad]at A
      have J:i<l.length:=by omega
      obtain⟨x,K⟩:∃ x,l[i]? = some x:=⟨_,List.getElem?_eq_getElem J⟩;have H:x∈l:=List.mem_of_getElem? K;refine bX_ rfl ?_;refine gU_ ?_;refine aZ_ rfl ?_;refine be_ ?_;refine gV_ ?_;refine be_ ?_;refine aG_ ?_;refine e_ (S_ aU_ br_ rfl rfl (fun v _ h=>au_ (n:=16) Ax.cells_len zw_ (h.1.1) K) zs_ zy_) rfl ?_;refine e_ (aj_ (ad:=ad) (us:=x.cells) sx_ br_ rfl (fun v _ h=>h.1.1) (Ax.cells_len _) (o_ Ax.cells_len K)) rfl ?_;refine G_ cI_ rfl fun Y=>?_;refine ng_ (us:=x.cells) 0 br_ x.cells_len x.one_cells rfl rfl rfl rfl ?_;refine bq_ ?_;refine aZ_ rfl ?_;refine be_ ?_;refine aG_ ?_;refine e_ (oj_ (us:=x.cells) 0 sx_ br_ x.cells_len rfl rfl) rfl ?_;refine g_ (hL_ x (W x H)) rfl (.refl _) (fun v _ h=>⟨h.1.2 x H,h.2.1,trivial⟩) rfl fun _=>?_;refine e_ (az_ rfl) rfl ?_;refine bq_ ?_;refine aZ_ rfl ?_;refine be_ ?_;refine aG_ ?_;refine e_ (al_ rfl) rfl ?_;refine B_ (ce_ rfl rfl) rfl fun Q d=>?_;refine bq_ ?_;refine aZ_ rfl ?_;cases Q
      · skip
        replace d:=fn_ d;try dsimp only[Con.kind,Con.parts,Con.name,Con.lo,Con.hi,Con.cap,Con.ad]at d
        refine fe_ rfl ?_;refine gU_ ?_;refine aZ_ rfl ?_;refine aG_ ?_;refine e_ (bc_ rfl rfl rfl (cm_ zs_ zs_)) rfl ?_;refine e_ (al_ rfl) rfl ?_;refine bq_ ?_;refine fO_ rfl ?_;exact w_ ⟨i+1,J,fun y E=>by rw[List.take_add_one,K]at E;simp only[Option.toList_some,List.mem_append,List.mem_singleton]at E;rcases E with E|rfl;exact hk.2 y E;assumption⟩ zF_ zl (@List.perm_append_comm _ [_] _) zh
      · skip
        replace d:=fl_ d;try dsimp only[Con.kind,Con.parts,Con.name,Con.lo,Con.hi,Con.cap,Con.ad]at d
        refine bX_ rfl ?_;refine be_ ?_;refine aG_ ?_;refine e_ (al_ rfl) rfl ?_;refine e_ (az_ rfl) rfl ?_;refine e_ (az_ rfl) rfl ?_;refine bq_ ?_;refine aZ_ rfl ?_;refine iP_ ?_;have e:bC_ l=([],x.check):=by unfold bC_;rw[if_neg zs_,rm_ K hk.2 zA_,if_pos zA_]
        have E:(bC_ l).1.length≤0∧0≤maxLen∧((none:Option Addr)=none→0=0):=by rw[e];simp
        have P:Value.tuple #[.slice none 0 0,.int .i64 x.check]=.tuple #[.slice none (bC_ l).1.length 0,.int .i64 (bC_ l).2]:=by rw[e]<;>rfl
        have O:(bC_ l).1.flatMap Pc.cells=[]:=by rw[e]<;>rfl
        exact kO_ Tryz.results31 ⟨(none,0),E⟩ rfl rfl P (.refl _) (fun v _ h=>⟨.inl O,trivial⟩)
  · skip
    replace C:=zdt C;try dsimp only[Con.kind,Con.parts,Con.name,Con.lo,Con.hi,Con.cap,Con.ad]at C
    refine bX_ rfl ?_;refine be_ ?_;refine aG_ ?_;refine e_ (az_ rfl) rfl ?_;refine e_ (az_ rfl) rfl ?_;refine bq_ ?_;refine aZ_ rfl ?_;refine iP_ ?_;have e:bC_ l=([],2):=by unfold bC_;rw[if_pos zs_]
    have E:(bC_ l).1.length≤0∧0≤maxLen∧((none:Option Addr)=none→0=0):=by rw[e];simp
    have P:Value.tuple #[.slice none 0 0,.int .i64 2]=.tuple #[.slice none (bC_ l).1.length 0,.int .i64 (bC_ l).2]:=by rw[e]<;>rfl
    have O:(bC_ l).1.flatMap Pc.cells=[]:=by rw[e]<;>rfl
    exact kO_ Tryz.results31 ⟨(none,0),E⟩ rfl rfl P (.refl _) (fun v _ h=>⟨.inl O,trivial⟩)
theorem eB_ {N:Nf} {fr:Fr} {H:Hp} {Γ:List Fct} {ty k:TypeId} {x y:Operand} {p q:Fc} (h:Fr.ev fr x=some p.val) (m:Fr.ev fr y=some q.val):Yld Tryz.prog N fr H Γ (.binOp .eql 36 x y k) ty (.bool (decide (p=q))) :=
  fun a v e _ _ _ _ _=>by
    have A:(Program.eqGuardType Tryz.prog Tryz.prog.depth 36)=false:=by kernel_rfl
    have d:=eqFc p q v.w;simp only[execOp,e.ev h,e.ev m,eqGuard,Fc.val,binOp,Op.equal,Sem.run_bind,Result.andThen_ok];simp only[run_program,Result.andThen_ok,A,Bool.not_false,if_true,Sem.run_pure];simp only[Fc.val]at d;simp[Op.maxDepth,d]
theorem gN_ {N:Nf} {fr:Fr} {H:Hp} {Γ:List Fct} {ty k:TypeId} {x y:Operand} {p q:Fc} (h:Fr.ev fr x=some p.val) (m:Fr.ev fr y=some q.val):Yld Tryz.prog N fr H Γ (.binOp .neq 36 x y k) ty (.bool (decide (p≠q))) :=
  fun a v e _ _ _ _ _=>by
    have A:(Program.eqGuardType Tryz.prog Tryz.prog.depth 36)=false:=by kernel_rfl
    have d:=eqFc p q v.w;simp only[execOp,e.ev h,e.ev m,eqGuard,Fc.val,binOp,Op.equal,Sem.run_bind,Result.andThen_ok];simp only[run_program,Result.andThen_ok,A,Bool.not_false,if_true,Sem.run_pure];simp only[Fc.val]at d;simp[Op.maxDepth,d]
theorem pl_ (s:Str) (c:UInt8):Fn0 Tryz.prog 247 #[str s,str [c]] (.int .i64 (Lib.indexByte s c)) :=
  hE_ (callable Tryz.func247 rfl rfl) fun w=>(Tryz.strings_Index_one ⟨s.toArray⟩ c w).mono zY_
theorem nY_ (s:Str) (c:UInt8) (k:Nat) (hk:ixS c s=some k):Fn0 Tryz.prog 247 #[str s,str [c]] (.int .i64 (k:Int)):=by
  have h:=pl_ s c;rw[ms_,hk]at h;exact h
theorem vy_ (s:Str) (c:UInt8):Fn0 Tryz.prog 246 #[str s,str [c]] (.int .i64 (dP_ c s:Int)) :=
  hE_ (callable Tryz.func246 rfl rfl) fun w=>(Tryz.strings_Count_one ⟨s.toArray⟩ c w).mono zY_
theorem ok_H {N:Nf} {m:Vw} {d:Hp} {k:Act→World→Prop} {fr:Fr} {H H':Hp} {Γ:List Fct} (e:H=H') (h:Ok N m d k fr H' Γ):Ok N m d k fr H Γ:=e▸h
theorem sB_ (s:Str) (c:UInt8) (L:s.length≤17592186044414):Tri Tryz.prog 215 #[str s,str [c],.int .i64 0,.int .i64 (-1)] [] [] (fun b:Nat=>.slice (some ⟨b,0,none⟩) (aW_ c s).length (aW_ c s).length) (fun _=>[]) (fun b=>[ah_ (some ⟨b,0,none⟩) ((aW_ c s).flatMap ag_)]):=by
 have K:=mt_ c s;refine i_ Tryz.func215 rfl rfl Tryz.ntmps215 rfl fun H=>?_;refine Zi 9 (fun A=>?_) fun A=>?_
 ·refine Zi 9 (fun v=>?_) fun v=>?_
  ·refine Zi 9 (fun y=>?_) fun y=>?_
   ·exact absurd zw_ y
   refine Zz 6 ?_;refine g_ (vy_ s c) rfl (.refl _) zt rfl fun _=>Zz 8 ?_
   refine e_ (cK_ V_ rfl) rfl (Zz 1 ?_);refine e_ (ar_ (sV_ rfl rfl) (show _=Value.int .i64 ((dP_ c s+1:Nat):Int) by rw[if_neg zs_];rfl)) rfl ?_;refine Zz 6 ?_;refine up_ (n:=dP_ c s+1) (by':=16) il_ (z:=.string ⟨#[]⟩) zk rfl rfl rfl zs_ zs_ rfl fun d=>Zz 6 ?_
   refine e_ (ar_ (bc_ rfl rfl rfl (cm_ zs_ zs_)) (show _=Value.int .i64 (dP_ c s:Int) by first|rfl|(congr 1;omega))) rfl ?_;refine Zz 10 ?_;refine bs_ [(0,str s),(1,str [c]),(2,.int .i64 0),(3,.int .i64 (dP_ c s:Int)),(9,.slice (some ⟨d,0,none⟩) (dP_ c s+1) (dP_ c s+1)),(10,.int .i64 ((0:Nat):Int))] zl ?_;refine bR_ (ι:={x:Nat×List Str×Str // x.2.1.length=x.1∧aW_ c s=x.2.1++aW_ c x.2.2∧x.1+dP_ c x.2.2=dP_ c s∧x.2.2.length≤s.length}) (fun x=>[(0,str x.1.2.2),(1,str [c]),(2,.int .i64 0),(3,.int .i64 (dP_ c s:Int)),(9,.slice (some ⟨d,0,none⟩) (dP_ c s+1) (dP_ c s+1)),(10,.int .i64 (x.1.1:Int))]) (fun x=>[(d,.cells (x.1.2.1.map str++List.replicate (dP_ c s+1 - x.1.1) (Value.string ⟨#[]⟩)).toArray 9 (0,0))]) (fun _=>_) (fun x=>dP_ c s - x.1.1) ⟨(0,[],s),rfl,rfl,by simp,by simp⟩ ?_;rintro ⟨⟨i,dn,r⟩,hk⟩;dsimp only at hk;obtain⟨h,e,E,G⟩:=hk;refine bs_ [(0,str r),(1,str [c]),(2,.int .i64 0),(3,.int .i64 (dP_ c s:Int)),(9,.slice (some ⟨d,0,none⟩) (dP_ c s+1) (dP_ c s+1)),(10,.int .i64 (i:Int))] zl ?_;have B:∀ k,k<dP_ c s+1→List.replicate (dP_ c s+1 - k) (Value.string ⟨#[]⟩)=Value.string ⟨#[]⟩::List.replicate (dP_ c s - k) (Value.string ⟨#[]⟩):=fun k hk=>by rw[show dP_ c s+1 - k=(dP_ c s - k)+1 by omega];rfl
   refine ok_H (H':=[(d,.cells (dn.map str++Value.string ⟨#[]⟩::List.replicate (dP_ c s - i) (Value.string ⟨#[]⟩)).toArray 9 (0,0))]) (by dsimp only;rw[B i zs_]) ?_;refine Zi 5 (fun C=>?_) fun C=>?_
   ·obtain rfl:i=dP_ c s:=by omega
    have m : aW_ c r = [r] := by
                  cases hx:ixS c r with
                  | none=>exact gw_ hx
                  | some k=>have:=oW_ hx;omega
    rw[m]at e;refine Zz 10 ?_;refine e_ (fa_ l_ E_ rfl rfl zs_ zs_) rfl (nh_ 0 E_ rfl rfl rfl zaY_ rfl rfl (Zz 6 ?_));refine e_ (ar_ (bc_ rfl rfl rfl (cm_ zs_ zs_)) (show _=Value.int .i64 ((dP_ c s+1:Nat):Int) by first|rfl|(congr 1;omega))) rfl ?_;refine e_ (ar_ (dI_ (i:=0) (j:=dP_ c s+1) (kl:=.i64) (kh:=.i64) l_ E_ rfl rfl rfl zs_ zs_) (show _=Value.slice (some ⟨d,0,none⟩) (dP_ c s+1) (dP_ c s+1) by rw[qs_];rfl)) rfl ?_;refine Zz 4 ?_;refine cQ_ ((aW_ c s).flatMap ag_) d_ (by rw[e,mQ_];simp) ?_;have hl:=ea_ c s;exact ae_ Tryz.results215 d (fM_ rfl (by rw[hl])) (.refl _) zf
   obtain ⟨k, q⟩ : ∃ k, ixS c r = some k := by
                 cases hx:ixS c r with
                 | none=>have:=uJ_ hx;omega
                 | some k=>exact⟨k,rfl⟩
   have J:=oW_ q;have I:=su_ q;refine Zz 10 ?_;refine g_ (nY_ r c k q) rfl (.refl _) zt rfl fun _=>Zi 7 (fun m=>?_) fun m=>?_
   ·refine Zz 12 ?_
    refine e_ (ar_ (bc_ rfl rfl rfl (cm_ zs_ zs_)) (show _=Value.int .i64 (k:Int) by first|rfl|(congr 1;omega))) rfl ?_;refine e_ (ar_ (eW_ (i:=0) (j:=k) (kl:=.i64) (kh:=.i64) V_ rfl rfl rfl zs_ zs_) (show _=str (r.take k) by simp)) rfl (e_ (fa_ l_ E_ rfl rfl zs_ zs_) rfl (nh_ 0 E_ rfl rfl rfl zaY_ rfl rfl (Zz 7 ?_)));refine e_ (cK_ V_ rfl) rfl (e_ (ar_ (bc_ rfl rfl rfl (cm_ zP_ zP_)) (show _=Value.int .i64 ((k+1:Nat):Int) by first|rfl|(congr 1;omega))) rfl ?_);refine e_ (ar_ (eW_ (i:=k+1) (j:=r.length) (kl:=.i64) (kh:=.i64) V_ rfl rfl rfl zs_ zs_) (show _=str (r.drop (k+1)) by rw[List.take_of_length_le zB_])) rfl (Zz 5 ?_);refine e_ (ar_ (bc_ rfl rfl rfl (cm_ zs_ zs_)) (show _=Value.int .i64 ((i+1:Nat):Int) by first|rfl|(congr 1;omega))) rfl ?_;refine Zz 3 ?_;exact w_ ⟨(i+1,dn++[r.take k],r.drop (k+1)),by simp[h],by rw[e,iq_ q,List.append_assoc];rfl,by dsimp only;omega,by simp;omega⟩ zt_ zl (F:=[]) (List.Perm.of_eq (by simp[show dP_ c s+1 - (i+1)=dP_ c s - i by omega])) zh
   exfalso;omega
  cases v
 exact absurd A zw_
theorem xB_ (s:Str) (c:UInt8) (d:s.length≤17592186044414):Tri Tryz.prog 192 #[str s,str [c]] [] [] (fun b:Nat=>.slice (some ⟨b,0,none⟩) (aW_ c s).length (aW_ c s).length) (fun _=>[]) (fun b=>[ah_ (some ⟨b,0,none⟩) ((aW_ c s).flatMap ag_)]):=by
  refine i_ Tryz.func192 rfl rfl Tryz.ntmps192 rfl fun e=>?_;refine Zz 9 ?_;refine g_ (sB_ s c d) rfl (.refl _) zt rfl fun b=>Zz 4 ?_
  exact ae_ Tryz.results192 b rfl (.refl _) zf
theorem pD_ {g:FuncId} {pred:Str→Bool} (d:List Str) (ad:Option Addr) (cap:Nat) (A:d.length≤17592186044415) (E:∀ x∈d,Fn0 Tryz.prog g #[str x] (.bool (pred x))) :
    Tri Tryz.prog 216 #[.slice ad (List.length d) cap,.func (.func g) #[] #[]] [] [ah_ ad (List.flatMap ag_ d)] (fun r:{r:Int // decide (0≤r)=d.any pred}=>.int .i64 r.1) (fun _=>[]) (fun _=>[]):=by
  refine i_ Tryz.func216 rfl rfl Tryz.ntmps216 rfl fun C=>?_;refine Zz 14 ?_;refine bs_ [(0,.slice ad (List.length d) cap),(1,.func (.func g) #[] #[]),(7,.int .i64 (List.length d:Int)),(8,.int .i64 ((0:Nat):Int))] zl ?_;refine bR_ (ι:={q:Nat // q≤d.length∧(d.take q).any pred=false}) (fun i=>[(0,.slice ad (List.length d) cap),(1,.func (.func g) #[] #[]),(7,.int .i64 (List.length d:Int)),(8,.int .i64 (i.1:Int))]) (fun _=>_) (fun _=>_) (fun i=>d.length - i.1) ⟨0,by simp⟩ ?_;rintro ⟨i,hk⟩;refine bs_ [(0,.slice ad (List.length d) cap),(1,.func (.func g) #[] #[]),(7,.int .i64 (List.length d:Int)),(8,.int .i64 (i:Int))] zl ?_;refine Zi 2 (fun v=>?_) fun v=>?_
  · skip
    refine Zz 12 ?_;exact ae_ Tryz.results216 ⟨-1,by have:=hk.2;rw[List.take_of_length_le zs_]at this;show _=d.any pred;rw[this];rfl⟩ rfl (.refl _) zt
  · skip
    obtain⟨h,k,m,e⟩:=zge (show i<List.length d by omega);refine Zz 21 ?_;refine bI_ (E k e) rfl rfl m_ zt rfl fun y B=>Zz 2 ?_
    cases y
    · skip
      refine Zz 8 ?_;exact w_ ⟨i+1,h,by rw[List.take_add_one,m];simp only[Option.toList_some,List.any_append,hk.2];simp[*]⟩ zF_ zl (.refl _) zh
    · skip
      refine Zz 8 ?_;exact ae_ Tryz.results216 ⟨(i:Int),by show _=d.any pred;rw[show d.any pred=true from List.any_eq_true.2 ⟨k,e,by assumption⟩];exact decide_eq_true zs_⟩ rfl (.refl _) zt
theorem mg_ {g:FuncId} {pred:Str→Bool} (d:List Str) (ad:Option Addr) (cap:Nat) (e:d.length≤17592186044415) (k:∀ x∈d,Fn0 Tryz.prog g #[str x] (.bool (pred x))) :
    Tri Tryz.prog 193 #[.slice ad (List.length d) cap,.func (.func g) #[] #[]] [] [ah_ ad (List.flatMap ag_ d)] (fun _:Unit=>.bool (d.any pred)) (fun _=>[]) (fun _=>[]):=by
  refine i_ Tryz.func193 rfl rfl Tryz.ntmps193 rfl fun q=>?_;refine Zz 9 ?_;refine g_ (pD_ d ad cap e k) rfl m_ zf rfl fun x=>B_ (eH_ rfl rfl) rfl fun m h=>Zz 4 ?_
  exact ae_ Tryz.results193 () (n_ rfl (h.symm.trans x.2)) (.refl _) zt
theorem uz_ (s:Str) (e:s.length≤140737488351232):Fn0 Tryz.prog 194 #[str s] (.bool (!aK_ s)):=by
  refine i_ Tryz.func194 rfl rfl Tryz.ntmps194 rfl fun k=>?_;refine Zz 8 ?_;refine T_ (gg_ s e) rfl m_ zt rfl fun h d=>e_ (aw_ rfl) rfl (Zz 4 ?_)
  exact ae_ Tryz.results194 () (n_ rfl (by simp[*])) (.refl _) zt
theorem hs_ {c:UInt8}:∀ {s x:Str},x∈aW_ c s→x.length≤s.length
 | [],x,h=>by simp[aW_]at h;simp[h]
 | b::s,x,h=>by
   simp only[aW_]at h
   split at h
   · rcases List.mem_cons.1 h with rfl|h
     · simp
     · have:=hs_ h;simp only[List.length_cons];omega
   · cases hs:aW_ c s with
     | nil=>exact absurd hs (kH_ c s)
     | cons y t =>
       rw[hs]at h;rcases List.mem_cons.1 h with rfl|h
       · have:=hs_ (c:=c) (s:=s) (x:=y) (by rw[hs];simp);simp only[List.length_cons];omega
       · have:=hs_ (c:=c) (s:=s) (x:=x) (by rw[hs];simp[h]);simp only[List.length_cons];omega
theorem ll_ {G:Prop} (h:G:=by
 exact ae_ Tryz.results158 () (n_ rfl (by unfold cn_;subst_vars;rw[Bool.eq_iff_iff];simp_all<;>omega)) (.refl _) zt):G:=h
theorem iA_ (s:Str) (m:s.length≤17592186044414):Fn0 Tryz.prog 158 #[str s] (.bool (cn_ s)):=by
 refine i_ Tryz.func158 rfl rfl Tryz.ntmps158 rfl fun k=>?_;have y:=ea_ 46 s;have q:=mt_ 46 s;refine Zz 8 ?_;refine g_ (xB_ s 46 m) rfl m_ zt rfl fun b=>Zi 7 (fun d=>?_) fun d=>?_
 ·refine Zz 9 ?_
  exact ll_
 refine Zz 4 ?_;refine T_ (mg_ (pred:=fun r=>!aK_ r) (aW_ 46 s) _ _ zs_ (fun x h=>uz_ x (by have:=hs_ h;omega))) rfl m_ zf rfl fun v e=>?_;refine aQ_ rfl rfl (e_ (aw_ rfl) rfl (Zz 5 ?_));exact ll_
theorem li_ {G:Prop} (h:G:=by
 refine T_ (gg_ _ zai_) rfl m_ zt rfl fun k v=>?_;exact ft_):G:=h
theorem lj_ {G:Prop} (h:G:=by
 refine T_ (gg_ _ zai_) rfl m_ zt rfl fun k d=>?_;exact ft_):G:=h
theorem lk_ {G:Prop} (h:G:=by
 refine T_ (gg_ _ zai_) rfl m_ zt rfl fun k h=>?_;exact ft_):G:=h
theorem ft_ {G:Prop} (h:G:=by
 refine Zz 4 ?_;exact fu_):G:=h
theorem fu_ {G:Prop} (h:G:=by
 exact ae_ Tryz.results160 () (n_ rfl (by unfold bd_;(repeat (any_goals split))<;>first|rfl|(simp_all;done)|(exfalso;simp_all;omega)|(exfalso;simp_all;done))) (.refl _) zt):G:=h
theorem gZ_ (s:Str) (y:s.length≤140737488351232):Fn0 Tryz.prog 160 #[str s] (.bool (bd_ s)):=by
 refine i_ Tryz.func160 rfl rfl Tryz.ntmps160 rfl fun L=>?_;refine Zz 8 ?_;refine e_ (cK_ V_ rfl) rfl (Zi 8 (fun F=>?_) fun F=>?_)
 ·refine Zi 4 (fun C=>?_) fun C=>?_
  ·refine Zi 8 (fun E=>?_) fun E=>?_
   ·refine Zi 19 (fun x=>?_) fun x=>?_
    ·refine Zz 21 ?_
     refine T_ (gg_ _ zai_) rfl m_ zt rfl fun k m=>?_;exact ft_
    exfalso;omega
   obtain⟨c,A⟩:∃ c,s[0]? = some c:=⟨_,List.getElem?_eq_getElem zs_⟩;obtain⟨e,B⟩:∃ e,s[s.length - 1]? = some e:=⟨_,List.getElem?_eq_getElem zs_⟩
   have J:(s[0]? = some 123)↔((c.toNat:Int)=123):=by
     rw[A];simp only[Option.some.injEq];exact⟨fun q=>by subst q;rfl,fun q=>UInt8.toNat_inj.1 (by show c.toNat=123;omega)⟩
   have K:(s[s.length - 1]? = some 125)↔((e.toNat:Int)=125):=by
     rw[B];simp only[Option.some.injEq];exact⟨fun q=>by subst q;rfl,fun q=>UInt8.toNat_inj.1 (by show e.toNat=125;omega)⟩
   have G:(s[0]? = some 60)↔((c.toNat:Int)=60):=by
     rw[A];simp only[Option.some.injEq];exact⟨fun q=>by subst q;rfl,fun q=>UInt8.toNat_inj.1 (by show c.toNat=60;omega)⟩
   have I:(s[s.length - 1]? = some 62)↔((e.toNat:Int)=62):=by
     rw[B];simp only[Option.some.injEq];exact⟨fun q=>by subst q;rfl,fun q=>UInt8.toNat_inj.1 (by show e.toNat=62;omega)⟩
   refine Zz 4 ?_;refine e_ (dY_ V_ rfl rfl zw_ A) rfl (aQ_ rfl rfl ?_);refine Zi 0 (fun x=>?_) fun x=>?_
   ·refine Zi 15 (fun m=>?_) fun m=>?_
    ·refine Zz 21 ?_
     exact lk_
    refine Zz 4 ?_;refine e_ (dY_ V_ rfl rfl zw_ A) rfl (aQ_ rfl rfl ?_);refine Zi 0 (fun h=>?_) fun h=>?_
    ·refine Zz 17 ?_
     exact lj_
    refine Zz 9 ?_;refine e_ (dY_ V_ rfl rfl zs_ (show s[((s.length:Int) - 1).toNat]? = some e by rw[show ((s.length:Int) - 1).toNat=s.length - 1 by omega];exact B)) rfl ?_;refine aQ_ rfl rfl ?_;refine Zi 0 (fun d=>?_) fun d=>?_
    ·refine Zz 10 ?_
     exact li_
    refine Zz 11 ?_;exact fu_
   refine Zz 9 ?_;refine e_ (dY_ V_ rfl rfl zs_ (show s[((s.length:Int) - 1).toNat]? = some e by rw[show ((s.length:Int) - 1).toNat=s.length - 1 by omega];exact B)) rfl ?_;refine aQ_ rfl rfl ?_;refine Zi 0 (fun m=>?_) fun m=>?_
   ·refine Zi 8 (fun h=>?_) fun h=>?_
    ·refine Zz 21 ?_
     exact lj_
    refine Zz 4 ?_;refine e_ (dY_ V_ rfl rfl zw_ A) rfl (aQ_ rfl rfl ?_);refine Zi 0 (fun d=>?_) fun d=>?_
    ·refine Zz 17 ?_
     exact li_
    refine Zz 9 ?_;refine e_ (dY_ V_ rfl rfl zs_ (show s[((s.length:Int) - 1).toNat]? = some e by rw[show ((s.length:Int) - 1).toNat=s.length - 1 by omega];exact B)) rfl ?_;refine aQ_ rfl rfl ?_;refine Zi 0 (fun v=>?_) fun v=>?_
    ·refine Zz 10 ?_
     refine T_ (gg_ _ zai_) rfl m_ zt rfl fun k H=>?_;exact ft_
    refine Zz 11 ?_;exact fu_
   refine Zz 10 ?_;refine e_ (eW_ (i:=1) (j:=s.length - 1) (kl:=.i64) (kh:=.i64) V_ rfl rfl (show _=some (Value.int .i64 ((s.length - 1:Nat):Int)) by rw[show ((s.length - 1:Nat):Int)=(s.length:Int) - 1 by omega];rfl) zs_ zs_) rfl ?_;exact lk_
  refine Zz 11 ?_;exact fu_
 refine Zz 14 ?_;exact fu_
theorem ia_ {G:Prop} (h:G:=by
 exact ae_ Tryz.results157 () (n_ rfl (by unfold cb_;subst_vars;rw[Bool.eq_iff_iff];simp_all)) (.refl _) zt):G:=h
theorem es_ {g:FuncId} (d:Bool) (s:Str) (q:Str→Bool) (m:Fn0 Tryz.prog g #[str s] (.bool (q s))):Fn0 Tryz.prog 157 #[.bool d,str s,.func (.func g) #[] #[]] (.bool (cb_ d s q)):=by
 refine i_ Tryz.func157 rfl rfl Tryz.ntmps157 rfl fun k=>?_;refine Zz 9 ?_;cases d
 ·refine Zz 8 ?_
  refine e_ (aw_ rfl) rfl (Zz 5 ?_);refine B_ (cX_ rfl rfl) rfl fun h e=>Zz 7 ?_
  exact ia_
 refine Zz 5 ?_;refine bI_ (m) rfl rfl m_ zt rfl fun h e=>Zz 2 ?_
 cases h
 ·refine Zz 3 ?_
  refine e_ (aw_ rfl) rfl (Zz 11 ?_);exact ia_
 refine Zz 11 ?_;exact ia_
theorem hY_ {G:Prop} (h:G:=by
 exact met ⟨rfl,rfl,rfl,rfl,rfl,(n_ rfl (jot d)),trivial⟩):G:=h
theorem hZ_ {G:Prop} (h:G:=by
 refine Zz 6 ?_;exact met ⟨rfl,rfl,(n_ rfl (jot d)),trivial⟩):G:=h
theorem gn_ {G:Prop} (h:G:=by
 exact met ⟨rfl,rfl,rfl,rfl,(n_ rfl (jaf d)),trivial⟩):G:=h
theorem lh_ {G:Prop} (h:G:=by
 refine Zz 7 ?_;exact ae_ Tryz.results113 () (n_ rfl (by unfold Pc.valid;rw[if_neg zs_];simp only[R];first|(rw[if_pos (by first|(simp;omega)|omega)])|(rw[if_neg zB_,if_pos zF_]))) (.refl _) zt):G:=h
theorem go_ {G:Prop} (h:G:=by
 refine Zz 9 ?_;exact met ⟨rfl,rfl,rfl,rfl,rfl,(n_ rfl (jaf d)),trivial⟩):G:=h
theorem uy_ (p:Pc) (hp:p.sm):Tri Tryz.prog 113 #[Pc.val p] [] [jf_] (fun _:Unit=>.bool p.valid) (fun _=>[]) (fun _=>[]):=by
 refine i_ Tryz.func113 rfl rfl Tryz.ntmps113 rfl fun v_1=>?_;obtain⟨ha,hb,hc,hr,hs,ht⟩:=hp;refine Zz 2 ?_;refine aa_ rfl rfl fun A=>Zz 8 ?_
 refine B_ (dc_ rfl rfl) rfl fun r_1 H=>Zz 1 ?_
 refine ai_ 4 ((decide (p.kind<1))||(decide (9<p.kind))) (fun r=>[(1,zp_ A 0),(2,.bool false),(13,.bool r)]) ?_ fun r_2 L=>?_
 ·cases r_1
  ·have d:=H
   replace H:=zdf H;refine Zz 5 ?_;refine B_ (dA_ rfl rfl) rfl fun Z G=>Zz 3 ?_
   exact met (zm (jof d G))
  have d:=H;replace H:=zdt H;exact hZ_
 refine Zz 1 ?_;refine ai_ 4 ((((decide (p.kind<1))||(decide (9<p.kind))))||(decide (p.frm<(-1)))) (fun r=>[(1,zp_ A 0),(2,.bool false),(18,.bool r)]) ?_ fun Z G=>?_
 ·cases r_2
  ·have d:=L
   simp at L
   refine Zz 5 ?_;refine B_ (dc_ rfl rfl) rfl fun Y M=>Zz 3 ?_
   exact met (zm (jof d M))
  have d:=L;simp at L
  exact hZ_
 refine Zz 1 ?_;refine ai_ 4 ((((((decide (p.kind<1))||(decide (9<p.kind))))||(decide (p.frm<(-1)))))||(decide (1024≤p.frm))) (fun r=>[(1,zp_ A 0),(2,.bool false),(23,.bool r)]) ?_ fun Y M=>?_
 ·cases Z
  ·have d:=G
   simp at G
   refine Zz 5 ?_;refine B_ (eH_ rfl rfl) rfl fun U m=>Zz 3 ?_
   exact met (zm (jof d m))
  have d:=G;simp at G
  exact hZ_
 refine Zz 2 ?_;cases Y
 ·simp at M
  obtain⟨u,hx⟩:∃ u,gz_[p.kind.toNat]? = some u:=⟨_,List.getElem?_eq_getElem (show p.kind.toNat<10 by omega)⟩;have R:nus p.kind=u:=by simp[nus,hx]
  obtain⟨N,ub,O,S,us,ut,un⟩:=u;refine Zz 7 ?_;refine e_ (dZ_ Tryz.runUnderlying205 Tryz.sizeOf204 rfl rfl (by show (0:Int)≤p.kind;omega) (by show p.kind<(10:Int);omega)) rfl ?_;refine e_ (aj_ (ad:=some ⟨2,0,none⟩) (us:=NUse.cells ⟨N,ub,O,S,us,ut,un⟩) Tryz.isAgg204 Tryz.sizeOf204 rfl (fun v _ h=>h.1) (NUse.cells_len _) (o_ NUse.cells_len hx)) rfl (G_ Tryz.zeroValue204 rfl fun F=>u_ 0 Tryz.sizeOf204 rfl rfl rfl rfl rfl rfl (Zz 19 ?_));cases un
  ·refine Zz 5 ?_
   refine B_ (ce_ rfl rfl) rfl fun U m=>Zz 1 ?_
   refine ai_ 4 ((p.lo != 0)||(p.hi != 0)) (fun r=>[(1,zp_ A 0),(2,.bool false),(3,zp_ F 0),(4,.func (.func 157) #[] #[]),(5,.func (.func 158) #[] #[]),(52,.bool r)]) ?_ fun W E=>?_
   ·cases U
    ·have d:=m
     replace m:=fn_ m;refine Zz 5 ?_;refine B_ (ce_ rfl rfl) rfl fun P y=>Zz 3 ?_
     exact met (zm (jof d y))
    have d:=m;replace m:=fl_ m;refine Zz 6 ?_;exact hY_
   refine Zz 2 ?_;cases W
   ·simp at E
    refine Zz 10 ?_;refine bI_ (es_ N p.a bd_ (gZ_ _ zs_)) rfl rfl m_ zt rfl fun P y=>Zz 1 ?_
    refine ai_ 7 ((cb_ N p.a bd_)&&(cb_ ub p.b bd_)) (fun r=>[(1,zp_ A 0),(2,.bool false),(3,zp_ F 0),(4,.func (.func 157) #[] #[]),(5,.func (.func 158) #[] #[]),(66,.bool r)]) ?_ fun T B=>?_
    ·cases P
     ·have d:=y
      exact go_
     have d:=y;refine Zz 11 ?_;refine bI_ (es_ ub p.b bd_ (gZ_ _ zs_)) rfl rfl m_ zt rfl fun Q x=>Zz 3 ?_
     exact met ⟨rfl,rfl,rfl,rfl,rfl,(n_ rfl (jat d x)),trivial⟩
    refine Zz 1 ?_;refine ai_ 7 ((((cb_ N p.a bd_)&&(cb_ ub p.b bd_)))&&(cb_ O p.c bd_)) (fun r=>[(1,zp_ A 0),(2,.bool false),(3,zp_ F 0),(4,.func (.func 157) #[] #[]),(5,.func (.func 158) #[] #[]),(74,.bool r)]) ?_ fun Q x=>?_
    ·cases T
     ·have d:=B
      simp at B
      exact go_
     have d:=B;simp at B
     refine Zz 11 ?_;refine bI_ (es_ O p.c bd_ (gZ_ _ zs_)) rfl rfl m_ zt rfl fun I k=>Zz 3 ?_
     exact met ⟨rfl,rfl,rfl,rfl,rfl,(n_ rfl (jat d k)),trivial⟩
    refine Zz 1 ?_;refine ai_ 8 ((((((cb_ N p.a bd_)&&(cb_ ub p.b bd_)))&&(cb_ O p.c bd_)))&&(cb_ S p.r cn_)) (fun r=>[(1,zp_ A 0),(2,.bool false),(3,zp_ F 0),(4,.func (.func 157) #[] #[]),(83,.bool r)]) ?_ fun I k=>?_
    ·cases Q
     ·have d:=x
      simp at x
      refine Zz 10 ?_;exact gn_
     have d:=x;simp at x
     refine Zz 13 ?_;refine bI_ (es_ S p.r cn_ (iA_ _ zs_)) rfl rfl m_ zt rfl fun J e=>Zz 3 ?_
     exact met ⟨rfl,rfl,rfl,rfl,(n_ rfl (jat d e)),trivial⟩
    refine Zz 1 ?_;refine ai_ 7 ((((((((cb_ N p.a bd_)&&(cb_ ub p.b bd_)))&&(cb_ O p.c bd_)))&&(cb_ S p.r cn_)))&&(cb_ us p.s cn_)) (fun r=>[(1,zp_ A 0),(2,.bool false),(3,zp_ F 0),(4,.func (.func 157) #[] #[]),(91,.bool r)]) ?_ fun J e=>?_
    ·cases I
     ·have d:=k
      simp at k
      refine Zz 9 ?_;exact gn_
     have d:=k;simp at k
     refine Zz 11 ?_;refine bI_ (es_ us p.s cn_ (iA_ _ zs_)) rfl rfl m_ zt rfl fun K q=>Zz 3 ?_
     exact met ⟨rfl,rfl,rfl,rfl,(n_ rfl (jat d q)),trivial⟩
    refine Zz 1 ?_;refine ai_ 7 ((((((((((cb_ N p.a bd_)&&(cb_ ub p.b bd_)))&&(cb_ O p.c bd_)))&&(cb_ S p.r cn_)))&&(cb_ us p.s cn_)))&&(cb_ ut p.t cn_)) (fun r=>[(2,.bool false),(99,.bool r)]) ?_ fun K q=>?_
    ·cases J
     ·have d:=e
      simp at e
      refine Zz 9 ?_;exact met ⟨rfl,(n_ rfl (jaf d)),trivial⟩
     have d:=e;simp at e
     refine Zz 11 ?_;refine bI_ (es_ ut p.t cn_ (iA_ _ zs_)) rfl rfl m_ zt rfl fun V C=>Zz 3 ?_
     exact met ⟨rfl,(n_ rfl (jat d C)),trivial⟩
    refine Zz 4 ?_;exact ae_ Tryz.results113 () (n_ rfl (by unfold Pc.valid;rw[if_neg zs_];simp only[R];rw[if_neg (by simp<;>omega),if_neg (by simp<;>omega)];exact q.symm)) (.refl _) zt
   simp at E
   exact lh_
  refine Zz 10 ?_;refine B_ (dc_ rfl rfl) rfl fun U m=>Zz 1 ?_
  refine ai_ 6 ((decide (p.lo<(-1099511627776)))||(decide (p.hi<p.lo))) (fun r=>[(1,zp_ A 0),(2,.bool false),(3,zp_ F 0),(4,.func (.func 157) #[] #[]),(5,.func (.func 159) #[] #[]),(39,.bool r)]) ?_ fun W E=>?_
  ·cases U
   ·have d:=m
    replace m:=zdf m;refine Zz 9 ?_;refine B_ (dA_ rfl rfl) rfl fun P y=>Zz 3 ?_
    exact met (zm (jof d y))
   have d:=m;replace m:=zdt m;refine Zz 8 ?_;exact hY_
  refine Zz 1 ?_;refine ai_ 4 ((((decide (p.lo<(-1099511627776)))||(decide (p.hi<p.lo))))||(decide (1099511627776<p.hi))) (fun r=>[(1,zp_ A 0),(2,.bool false),(3,zp_ F 0),(4,.func (.func 157) #[] #[]),(5,.func (.func 159) #[] #[]),(44,.bool r)]) ?_ fun P y=>?_
  ·cases W
   ·have d:=E
    simp at E
    refine Zz 5 ?_;refine B_ (dA_ rfl rfl) rfl fun T B=>Zz 3 ?_
    exact met (zm (jof d B))
   have d:=E;simp at E
   refine Zz 6 ?_;exact hY_
  refine Zz 2 ?_;cases P
  ·simp at y
   refine Zz 10 ?_;refine bI_ (es_ N p.a bd_ (gZ_ _ zs_)) rfl rfl m_ zt rfl fun T B=>Zz 1 ?_
   refine ai_ 7 ((cb_ N p.a bd_)&&(cb_ ub p.b bd_)) (fun r=>[(1,zp_ A 0),(2,.bool false),(3,zp_ F 0),(4,.func (.func 157) #[] #[]),(5,.func (.func 159) #[] #[]),(66,.bool r)]) ?_ fun Q x=>?_
   ·cases T
    ·have d:=B
     exact go_
    have d:=B;refine Zz 11 ?_;refine bI_ (es_ ub p.b bd_ (gZ_ _ zs_)) rfl rfl m_ zt rfl fun I k=>Zz 3 ?_
    exact met ⟨rfl,rfl,rfl,rfl,rfl,(n_ rfl (jat d k)),trivial⟩
   refine Zz 1 ?_;refine ai_ 7 ((((cb_ N p.a bd_)&&(cb_ ub p.b bd_)))&&(cb_ O p.c bd_)) (fun r=>[(1,zp_ A 0),(2,.bool false),(3,zp_ F 0),(4,.func (.func 157) #[] #[]),(5,.func (.func 159) #[] #[]),(74,.bool r)]) ?_ fun I k=>?_
   ·cases Q
    ·have d:=x
     simp at x
     exact go_
    have d:=x;simp at x
    refine Zz 11 ?_;refine bI_ (es_ O p.c bd_ (gZ_ _ zs_)) rfl rfl m_ zt rfl fun J e=>Zz 3 ?_
    exact met ⟨rfl,rfl,rfl,rfl,rfl,(n_ rfl (jat d e)),trivial⟩
   refine Zz 1 ?_;refine ai_ 8 ((((((cb_ N p.a bd_)&&(cb_ ub p.b bd_)))&&(cb_ O p.c bd_)))&&(cb_ S p.r aK_)) (fun r=>[(1,zp_ A 0),(2,.bool false),(3,zp_ F 0),(4,.func (.func 157) #[] #[]),(83,.bool r)]) ?_ fun J e=>?_
   ·cases I
    ·have d:=k
     simp at k
     refine Zz 10 ?_;exact gn_
    have d:=k;simp at k
    refine Zz 13 ?_;refine bI_ (es_ S p.r aK_ (gg_ _ zs_)) rfl rfl m_ zt rfl fun K q=>Zz 3 ?_
    exact met ⟨rfl,rfl,rfl,rfl,(n_ rfl (jat d q)),trivial⟩
   refine Zz 1 ?_;refine ai_ 7 ((((((((cb_ N p.a bd_)&&(cb_ ub p.b bd_)))&&(cb_ O p.c bd_)))&&(cb_ S p.r aK_)))&&(cb_ us p.s cn_)) (fun r=>[(1,zp_ A 0),(2,.bool false),(3,zp_ F 0),(4,.func (.func 157) #[] #[]),(91,.bool r)]) ?_ fun K q=>?_
   ·cases J
    ·have d:=e
     simp at e
     refine Zz 9 ?_;exact gn_
    have d:=e;simp at e
    refine Zz 11 ?_;refine bI_ (es_ us p.s cn_ (iA_ _ zs_)) rfl rfl m_ zt rfl fun V C=>Zz 3 ?_
    exact met ⟨rfl,rfl,rfl,rfl,(n_ rfl (jat d C)),trivial⟩
   refine Zz 1 ?_;refine ai_ 7 ((((((((((cb_ N p.a bd_)&&(cb_ ub p.b bd_)))&&(cb_ O p.c bd_)))&&(cb_ S p.r aK_)))&&(cb_ us p.s cn_)))&&(cb_ ut p.t cn_)) (fun r=>[(2,.bool false),(99,.bool r)]) ?_ fun V C=>?_
   ·cases K
    ·have d:=q
     simp at q
     refine Zz 9 ?_;exact met ⟨rfl,(n_ rfl (jaf d)),trivial⟩
    have d:=q;simp at q
    refine Zz 11 ?_;refine bI_ (es_ ut p.t cn_ (iA_ _ zs_)) rfl rfl m_ zt rfl fun r_14 X=>Zz 3 ?_
    exact met ⟨rfl,(n_ rfl (jat d X)),trivial⟩
   refine Zz 4 ?_;exact ae_ Tryz.results113 () (n_ rfl (by unfold Pc.valid;rw[if_neg zs_];simp only[R];rw[if_neg (by simp<;>omega),if_neg (by simp<;>omega)];exact C.symm)) (.refl _) zt
  simp at y
  exact lh_
 simp at M
 refine Zz 7 ?_;exact ae_ Tryz.results113 () (n_ rfl (by unfold Pc.valid;rw[if_pos zs_])) (.refl _) zt
theorem yG_ (l:List Pc) (ad:Option Addr) (cap:Nat) (hl:l.length≤17592186044414) (x:∀ p∈l,p.sm):Tri Tryz.prog 71 #[.slice ad (List.length l) cap] [] [ah_ ad (List.flatMap Pc.cells l),jf_] (fun _:Unit=>.int .i64 (de_ l)) (fun _=>[]) (fun _=>[]):=by
 refine i_ Tryz.func71 rfl rfl Tryz.ntmps71 rfl fun B=>?_;refine Zi 10 (fun v=>?_) fun v=>?_
 ·refine Zz 14 ?_
  refine bs_ [(8,.slice ad (List.length l) cap),(9,.int .i64 (List.length l:Int)),(10,.int .i64 ((0:Nat):Int))] zl ?_;refine bR_ (ι:={q:Nat // q≤l.length∧(l.take q).all Pc.valid=true}) (fun i=>[(8,.slice ad (List.length l) cap),(9,.int .i64 (List.length l:Int)),(10,.int .i64 (i.1:Int))]) (fun _=>_) (fun _=>_) (fun i=>l.length - i.1) ⟨0,by simp⟩ ?_;rintro ⟨i,hk⟩;refine bs_ [(8,.slice ad (List.length l) cap),(9,.int .i64 (List.length l:Int)),(10,.int .i64 (i:Int))] zl ?_;refine Zi 2 (fun m=>?_) fun m=>?_
  ·refine Zz 12 ?_
   exact ae_ Tryz.results71 () (cf_ rfl (by unfold de_;rw[if_neg zs_,if_pos (by have:=hk.2;rwa [List.take_of_length_le zs_]at this)])) (.refl _) zt
  obtain⟨h,e,k,d⟩:=zge (show i<List.length l by omega);refine Zz 12 ?_;refine G_ P_ rfl fun C=>u_ 0 F_ rfl rfl rfl rfl rfl rfl (Zz 5 ?_)
  refine T_ (uy_ e (x e d)) rfl m_ zf rfl fun y A=>e_ (aw_ rfl) rfl (Zz 2 ?_)
  cases y
  ·refine Zz 7 ?_
   exact ae_ Tryz.results71 () (cf_ rfl (by unfold de_;rw[if_neg zs_,if_neg (by rw[show l.all Pc.valid=false from List.all_eq_false.2 ⟨e,d,by simp[*]⟩];simp)])) (.refl _) zt
  refine Zz 8 ?_;exact w_ ⟨i+1,h,by rw[List.take_add_one,k];simp only[Option.toList_some,List.all_append,hk.2];simp[*]⟩ zF_ zl (@List.perm_append_comm _ [_] _) zh
 refine Zz 9 ?_;exact ae_ Tryz.results71 () (cf_ rfl (by unfold de_;rw[if_pos zs_])) (.refl _) zt
end Go.Proofs.YtpbnmnfdgckaiaaGreatDoor
namespace Go.Vs
open Go Go.Sx
def vw (W:World):Vw:=⟨fun b=>b<W.heap.size,W,True⟩
theorem vw_sat (W:World):(vw W).sat []:=⟨(fun _ h=>by cases h),zB_,fun _ h=>h⟩
section
variable {H:Type} {enc:TypeId×Value→H} {P:Program} {W:World}
abbrev wok (l:List Nat):Prop:=l.all (·≤reachBytes)=true
theorem fX_ {a b:List Nat}:wok (a++b)↔wok a∧wok b:=by simp[wok,List.all_append]
theorem uY_ {n:Nat} {b:List Nat}:wok (n::b)↔n≤reachBytes∧wok b:=by simp[wok]
theorem uZ_ {e:TypeId}:∀ {ds:List (DataW H)},wok (DataW.weightsAll P e ds)→∀ d∈ds,wok (d.weights P e)
 | [],_,_,h=>by cases h
 | x::ds,hw,d,k=>by
   rw[DataW.weightsAll,fX_]at hw;rcases List.mem_cons.1 k with rfl|k
   · exact hw.1
   · exact uZ_ hw.2 d k
theorem pm_ {α:Type} [Inhabited α] (f:α→List Value) (k:Nat) (hk:∀ x,(f x).length=k) (B:0<k) (Q:α→Prop) {Z G:TypeId} (hs:P.underlying Z=some (.slice G)) (hc:P.cellsOf G=k) {n:Nat} {cs:List Value} {x:DataW H×List MemPlace}
    (E:∀ m,m<n→∀ A y,DataW.trod enc P W 0 (fun _=>true) true m G A=some y→wok (y.1.weights P G)→∃ c,A=f c∧Q c)
    (h:DataW.trod enc P W 0 (fun _=>true) true n Z cs=some x) (O:wok (x.1.weights P Z)) :
    ∃ (l:List α) (ad:Option Addr) (cap:Nat),cs=[.slice ad l.length cap]∧bx_ (vw W) ad (l.flatMap f)∧(∀ c∈l,Q c)∧l.length≤cap∧cap*P.bytesOf G≤reachBytes:=by
  rcases DataW.trod_slice hs h with⟨U,_⟩|⟨a,len,cap,F,rest,m,hn,rfl,rfl,_,hl,_,hlen,S,hsp,_⟩
  · exact⟨[],none,0,U,.inl rfl,(fun _ h=>by cases h),Nat.le_refl _,by simp⟩
  · obtain⟨hr,_⟩:=hsp rfl
    simp only[DataW.weights,hs,uY_,fX_,List.length_map]at O
    have K:cap*P.bytesOf G≤reachBytes:=by
      have e:F.length+rest.length=cap:=by omega
      rw[← e];exact O.1
    have J:∀ i,i<len→∃ c:α,W.cells? 0 (a.add (i*k)) k=some (f c)∧Q c:=fun i hi=>by
      have he:=S i hi;rw[hc,List.getElem?_eq_getElem zs_]at he;obtain⟨A,V,h2⟩:=Option.bind_eq_some_iff.1 he;obtain⟨c,rfl,hq⟩:=E m zs_ A _ h2 (uZ_ O.2.1 _ (List.mem_map_of_mem (List.getElem_mem zs_)));exact⟨c,V,hq⟩
    obtain⟨C,R⟩:=Deep.choose_lt J;refine⟨(List.range len).map C,some a,cap,by simp,?_,?_,by simpa using hl,K⟩
    · by_cases U:len=0
      · left;simp[U]
      · have V:=(R 0 zs_).1
        obtain⟨_,_,d⟩:=World.cells?_some V;have v:=d 0 B;have N:0<(f (C 0)).length:=by rw[hk];exact B
        rw[List.getElem?_eq_getElem N]at v;cases hb:W.heap[a.block]? with
        | none=>simp[World.cell?,Addr.add,hb]at v
        | some o =>
          cases o with
          | cells arr T fz =>
            have q:a.spot=none:=by
              cases hsp2:a.spot with
              | none=>rfl
              | some s=>simp[World.cell?,Addr.add,hb,hsp2]at v
            obtain⟨b,off,sp⟩:=a;simp only at q hb;subst q;right
            refine⟨b,off,arr,T,fz,rfl,(Array.getElem?_eq_some_iff.1 hb).1,hb,fun j y hj=>?_⟩
            have I:j<len*k:=by
              have:=(List.getElem?_eq_some_iff.1 hj).1;rw[dv_ f k hk]at this;simpa using this
            have hi:j / k<len:=Nat.div_lt_of_lt_mul (by rw[Nat.mul_comm];exact I);have M:j%k<k:=Nat.mod_lt _ B;have e:j=(j / k)*k+j%k:=by rw[Nat.mul_comm];exact (Nat.div_add_mod j k).symm
            have L:((List.range len).map C)[j / k]? = some (C (j / k)):=by simp[hi]
            rw[e,la_ f k hk _ (j / k) (j%k) _ L M]at hj;obtain⟨_,_,d⟩:=World.cells?_some (R (j / k) hi).1;have:=d (j%k) M;rw[hj,cp_,cp_]at this;rw[e];simpa [World.cell?,hb,Nat.add_assoc] using this
          | _=>simp[World.cell?,Addr.add,hb]at v
    · intro c Y
      obtain⟨i,hi,rfl⟩:=List.mem_map.1 Y;exact (R i (by simpa using hi)).2
end
instance:Inhabited Con:=⟨.mk 0 [] 0 0 none 0 []⟩
instance:Inhabited Ax:=⟨⟨0,false,default,default,none,0,[],[],[],[]⟩⟩
instance:Inhabited Pc:=⟨⟨0,[],[],[],[],[],[],0,0,0⟩⟩
structure Tys (P:Program) (tI tB tS tSs tC tCs tA tAs tP tPs:TypeId):Prop where
  i:P.underlying tI=some (.int .i64)
  b:P.underlying tB=some .bool
  s:P.underlying tS=some .string
  ss:P.underlying tSs=some (.slice tS)
  c:∃ fs,P.underlying tC=some (.struct fs)∧fs.toList.map (fun f=>(f.type,f.offset))=[(tI,0),(tS,1),(tI,2),(tI,3),(tCs,4)]
  cs:P.underlying tCs=some (.slice tC)
  a:∃ fs,P.underlying tA=some (.struct fs)∧fs.toList.map (fun f=>(f.type,f.offset))=[(tI,0),(tB,1),(tC,2),(tC,7),(tSs,12),(tS,13),(tS,14),(tS,15)]
  axs:P.underlying tAs=some (.slice tA)
  p:∃ fs,P.underlying tP=some (.struct fs)∧fs.toList.map (fun f=>(f.type,f.offset))=[(tI,0),(tS,1),(tS,2),(tS,3),(tS,4),(tS,5),(tS,6),(tI,7),(tI,8),(tI,9)]
  ps:P.underlying tPs=some (.slice tP)
  ci:P.cellsOf tI=1
  cb:P.cellsOf tB=1
  cs1:P.cellsOf tS=1
  css:P.cellsOf tSs=1
  cc:P.cellsOf tC=5
  ccs:P.cellsOf tCs=1
  ca:P.cellsOf tA=16
  cp:P.cellsOf tP=10
  bs:P.bytesOf tS=16
  bc:P.bytesOf tC=64
  ba:P.bytesOf tA=216
  bp:P.bytesOf tP=128
section
variable {H:Type} {enc:TypeId×Value→H} {P:Program} {W:World} {tI tB tS tSs tC tCs tA tAs tP tPs:TypeId} (X:Tys P tI tB tS tSs tC tCs tA tAs tP tPs)
theorem fields_of {t:TypeId} {fs:Array Field} {L:List (TypeId×Nat)} {cs:List Value} {n:Nat} {x:DataW H×List MemPlace} (A:P.underlying t=some (.struct fs)) (v:fs.toList.map (fun f=>(f.type,f.offset))=L) (h:DataW.trod enc P W 0 (fun _=>true) true n t cs=some x) :
    ∃ (d:List (DataW H×List MemPlace)) (m:Nat),n=m+1∧x.1=.agg (d.map (·.1))∧cs.length=P.cellsOf t∧d.length=L.length∧(∀ (i:Nat) q,L[i]? = some q→DataW.trod enc P W 0 (fun _=>true) true m q.1 ((cs.drop q.2).take (P.cellsOf q.1))=d[i]?) ∧
      (x.1.weights P t=DataW.weightsEach P (L.map (·.1)) (d.map (·.1))):=by
  obtain⟨d,m,E,B,hl,e,C⟩:=DataW.trod_struct A h;refine⟨d,m,E,by rw[B],hl,by rw[e,← v];simp,fun i q y=>?_,?_⟩
  · rw[← v,List.getElem?_map,Option.map_eq_some_iff]at y
    obtain⟨f,k,rfl⟩:=y;exact C i f zax_
  · rw[B];simp only[DataW.weights,A]
    congr 1
    rw[← v,List.map_map];rfl
include X
theorem pA_ {n:Nat} {cs:List Value} {x:DataW H×List MemPlace} (h:DataW.trod enc P W 0 (fun _=>true) true n tI cs=some x):∃ k:Int,cs=[.int .i64 k]∧-9223372036854775808≤k∧k≤9223372036854775807:=by
  obtain⟨k,e,_,d⟩:=DataW.trod_int X.i h;have:=bounds_i64 d;exact⟨k,e,this.1,this.2⟩
theorem yJ_ {n:Nat} {cs:List Value} {x:DataW H×List MemPlace} (h:DataW.trod enc P W 0 (fun _=>true) true n tB cs=some x):∃ b:Bool,cs=[.bool b]:=by
  obtain⟨b,d,_⟩:=DataW.trod_bool X.b h;exact⟨b,d⟩
theorem str_of {n:Nat} {cs:List Value} {x:DataW H×List MemPlace} (h:DataW.trod enc P W 0 (fun _=>true) true n tS cs=some x) (d:wok (x.1.weights P tS)):∃ s:Str,cs=[str s]∧s.length≤140737488351232:=by
  obtain⟨s,e,k,_⟩:=DataW.trod_string X.s h;rw[k]at d;simp[wok,DataW.weights,reachBytes]at d
  refine⟨s.data.toList,by rw[e];rfl,by have:=of_decide_eq_true d;simpa using this⟩
theorem wL_:∀ (n:Nat) (cs:List Value) (x:DataW H×List MemPlace),DataW.trod enc P W 0 (fun _=>true) true n tC cs=some x→wok (x.1.weights P tC)→∃ c:Con,cs=c.cells∧c.mem (vw W)∧c.ok:=by
 intro n
 induction n using Nat.strongRecOn with
 | ind n ih =>
   intro cs x h A;obtain⟨fs,V,hL⟩:=X.c;obtain⟨xs,m,hn,hx,hl,q,e,F⟩:=fields_of V hL h;rw[F]at A
   match xs,q with
   | [x0,x1,x2,x3,x4],_ =>
   simp only[List.map_cons,List.map_nil,DataW.weightsEach,fX_]at A;have R:=e 0 _ rfl;have N:=e 1 _ rfl;have I:=e 2 _ rfl;have K:=e 3 _ rfl;have S:=e 4 _ rfl;simp only[List.getElem?_cons_zero,List.getElem?_cons_succ,X.ci,X.cs1,X.ccs]at R N I K S;obtain⟨k,Q,k1,k2⟩:=pA_ X R;obtain⟨nm,L,n1⟩:=str_of X N A.2.1;obtain⟨lo,M,U,Z⟩:=pA_ X I;obtain⟨hi,T,h1,h2⟩:=pA_ X K
   obtain⟨l,ad,cap,O,v,J,B,d⟩:=pm_ Con.cells 5 Con.cells_len zw_ (fun c=>c.mem (vw W)∧c.ok) X.cs X.cc (fun m' Y G y hy E=>by
     obtain⟨c,g1,g2,g3⟩:=ih m' zs_ G y hy E;exact⟨c,g1,g2,g3⟩) S A.2.2.2.2.1
   rw[X.cc]at hl
   match cs,hl with
   | [c0,c1,c2,c3,c4],_ =>
   simp only[List.drop_succ_cons,List.drop_zero,List.take_succ_cons,List.take_zero,List.cons.injEq,and_true]at Q L M T O;subst Q L M T O;refine⟨.mk k nm lo hi ad cap l,rfl,?_,k1,k2,n1,U,Z,h1,h2,B,?_,Con.oks_iff.2 fun p C=>(J p C).2⟩
   · rw[Con.mem_iff];exact⟨v,fun p C=>(J p C).1⟩
   · rw[X.bc]at d;simp only[reachBytes]at d;omega
theorem xz_ {n:Nat} {cs:List Value} {x:DataW H×List MemPlace} (h:DataW.trod enc P W 0 (fun _=>true) true n tSs cs=some x) (B:wok (x.1.weights P tSs)) :
    ∃ (l:List Str) (ad:Option Addr) (cap:Nat),cs=[.slice ad l.length cap]∧bx_ (vw W) ad (l.flatMap ag_)∧(∀ s∈l,s.length≤140737488351232)∧l.length≤cap∧cap≤8796093021952:=by
  obtain⟨l,ad,cap,e,k,A,m,d⟩:=pm_ ag_ 1 aq_ zw_ (fun s=>s.length≤140737488351232) X.ss X.cs1 (fun G _ E y C q=>by
    obtain⟨s,F,v⟩:=str_of X C q;exact⟨s,F,v⟩) h B
  rw[X.bs]at d;simp only[reachBytes]at d;exact⟨l,ad,cap,e,k,A,m,by omega⟩
theorem ax_of {n:Nat} {cs:List Value} {x:DataW H×List MemPlace} (h:DataW.trod enc P W 0 (fun _=>true) true n tA cs=some x) (d:wok (x.1.weights P tA)):∃ a:Ax,cs=a.cells∧a.mem (vw W)∧a.ok:=by
  obtain⟨fs,hu,hL⟩:=X.a;obtain⟨xs,m,hn,hx,hl,v,e,B⟩:=fields_of hu hL h;rw[B]at d
  match xs,v with
  | [x0,x1,x2,x3,x4,x5,x6,x7],_ =>
  simp only[List.map_cons,List.map_nil,DataW.weightsEach,fX_]at d;have R:=e 0 _ rfl;have J:=e 1 _ rfl;have C:=e 2 _ rfl;have E:=e 3 _ rfl;have S:=e 4 _ rfl;have F:=e 5 _ rfl;have O:=e 6 _ rfl;have L:=e 7 _ rfl;simp only[List.getElem?_cons_zero,List.getElem?_cons_succ,X.ci,X.cb,X.cs1,X.cc,X.css]at R J C E S F O L;obtain⟨k,Q,k1,k2⟩:=pA_ X R;obtain⟨V,G⟩:=yJ_ X J;obtain⟨le,I,Z,o2⟩:=wL_ X _ _ _ C d.2.2.1;obtain⟨ri,U,m3,o3⟩:=wL_ X _ _ _ E d.2.2.2.1;obtain⟨rs,ad,cap,K,A,Y,q,y⟩:=xz_ X S d.2.2.2.2.1;obtain⟨ro,M,n5⟩:=str_of X F d.2.2.2.2.2.1;obtain⟨a,T,n6⟩:=str_of X O d.2.2.2.2.2.2.1;obtain⟨b,N,n7⟩:=str_of X L d.2.2.2.2.2.2.2.1;rw[X.ca]at hl
  match cs,hl with
  | [c0,c1,c2,c3,c4,c5,c6,c7,c8,c9,c10,c11,c12,c13,c14,c15],_ =>
  simp only[List.drop_succ_cons,List.drop_zero,List.take_succ_cons,List.take_zero,List.cons.injEq,and_true,Con.cells]at Q G I U K M T N;obtain⟨rfl,rfl,rfl,rfl,rfl⟩:=I;obtain⟨rfl,rfl,rfl,rfl,rfl⟩:=U;subst Q G K M T N;exact⟨⟨k,V,le,ri,ad,cap,rs,ro,a,b⟩,rfl,⟨Z,m3,A⟩,⟨k1,k2,o2,o3,q,Nat.le_trans q y,Y,n5,n6,n7⟩⟩
theorem axs_of {n:Nat} {cs:List Value} {x:DataW H×List MemPlace} (h:DataW.trod enc P W 0 (fun _=>true) true n tAs cs=some x) (E:wok (x.1.weights P tAs)) :
    ∃ (l:List Ax) (ad:Option Addr) (cap:Nat),cs=[.slice ad l.length cap]∧(ej_ ad l).p (vw W)∧(∀ y∈l,y.ok)∧l.length≤cap∧cap≤2199023255488:=by
  obtain⟨l,ad,cap,e,k,A,q,d⟩:=pm_ Ax.cells 16 Ax.cells_len zw_ (fun a=>a.mem (vw W)∧a.ok) X.axs X.ca (fun I _ F y m v=>by
    obtain⟨a,G,B,C⟩:=ax_of X m v;exact⟨a,G,B,C⟩) h E
  rw[X.ba]at d;simp only[reachBytes]at d;exact⟨l,ad,cap,e,⟨k,fun y m=>(A y m).1⟩,fun y m=>(A y m).2,q,by omega⟩
end
end Go.Vs
