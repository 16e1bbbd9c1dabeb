/-
  Part of the proof of the law CanonGrows over this seat: the small logic, the data, the contracts of functions (no condition).
-/
import Derived.Test.YtpbnmnfdgckaiaaGreatDoorQCanonGrows4
import Derived.Test.YtpbnmnfdgckaiaaGreatDoorQCanonGrows2
import Derived.Test.YtpbnmnfdgckaiaaGreatDoorQCanonGrows3
import Derived.ProofKit
import Derived.OpenShut
import Derived.ReadAgain
import Derived.Deep.Slices
set_option linter.unusedVariables false
set_option linter.unusedSimpArgs false
set_option linter.unusedSectionVars false
set_option maxHeartbeats 1000000
namespace Go.Proofs.YtpbnmnfdgckaiaaGreatDoor
open Go Go.Sx Go.Proofs
attribute [local irreducible] Code.wp wpList wpAnyH
open Go.Vs
theorem rU_:ij_ Tryz.prog 40 [(0,1),(1,1),(2,1),(3,1),(4,1)] [.int .i64 0,str [],.int .i64 0,.int .i64 0,.slice none 0 0]:=⟨_,ch_,aP_,fun w=>by simp[av_,H_,Tryz.sizeOf38]⟩
theorem nR_ {kb bk bs:Nat} {frm:Int}:∀ (d:Nat) (c:Con),c.sz≤d→c.ok→c.fine→∀ (l:List Pc) (q:CS),CInv l q→l.length+2*c.sz≤100000 →
    Tri Tryz.prog 154 #[c.val,zp_ bs 0,zp_ bk 0] (gV_ kb frm q) [c.memF,bV_,kF bk kb,lF bs bk] (fun _:{W:CS // CInv (c.leftP frm l) W}=>.tuple #[]) (fun W=>gV_ kb frm W.1) (fun _=>[]):=by
  intro d
  induction d with
  | zero=>intro c h;have:=c.sz_pos;omega
  | succ d ih =>
    intro c hd y X l q V hl;have F:=Con.fields X;have J:=F.le;have I:=F.mo;obtain⟨k,nm,lo,hi,ad,cap,ps⟩:=c;have Q:=Con.ok_len y;have a0:(Con.mk k nm lo hi ad cap ps).sz=1+Con.sz.szs ps:=by simp only[Con.sz]
    have a1:=Con.szs_len ps;simp only[Con.parts,Con.cap,Con.kind]at Q J I;refine j_ Tryz.func154 rfl rfl Tryz.ntmps154 rfl fun a2=>?_;refine Zz 2 ?_;refine aa_ rfl rfl fun C=>Zj 11 (fun M=>?_) fun M=>?_
    · skip
      refine Zj 6 (fun E=>?_) fun E=>?_
      · skip
        refine Zj 6 (fun K=>?_) fun K=>?_
        · skip
          refine Zz 6 ?_;exact cB_ Tryz.results154 ⟨q,(by rw[Con.leftP0 (c:=(.mk k nm lo hi ad cap ps)) zB_ zB_ zB_];exact V)⟩ rfl (F:=[_]) (@List.perm_append_comm _ [_] _) zt
        · skip
          refine Zz 4 ?_;refine ao_ [(C,.cells (Con.cells (Con.mk k nm lo hi ad cap ps)).toArray 40 (0,0))] zk ?_;refine G_ 4 [0,1,2,3,4,5,6,7] zk (fun _ a b=>⟨Vw.sat.sub a,b⟩) (z_ rfl (dt_ (cs:=[zp_ kb 0]) pO_ rfl (fun v _ h=>h.2.2.1) rfl) rfl (Zz 8 ?_));refine n_ 8 rfl zk (i_ (dM_ (.mk k nm lo hi ad cap ps) y) rfl (.refl _) zf rfl fun _=>Zz 2 ?_);refine w_ (fun _ a b=>⟨Vw.sat.sub a,b⟩) (G_ 2 [9] zk (fun _ a b=>⟨Vw.sat.sub a,b⟩) (z_ rfl (K_ dy_ rfl rfl) rfl (aZ_ (n_ 10 rfl zk (R_ I_ J_ W_ rfl rfl rfl rfl rfl rfl fun L=>Zz 2 ?_)))));refine w_ (fun _ a b=>⟨Vw.sat.sub a.tail,b⟩) (n_ 11 rfl zk (i_ (et_ ⟨9,[],[],Con.atom (.mk k nm lo hi ad cap ps),nm,[],[],lo,hi,0⟩ frm l q V zr_) rfl (.cons _ (@List.perm_append_comm _ [_] _)) zt rfl fun x=>?_));obtain⟨H,A⟩:=x;refine u_ (@List.perm_append_comm _ _ [_]) (Zz 2 ?_);refine w_ (fun _ a b=>⟨Vw.sat.sub a,b⟩) (Zz 2 ?_);exact cB_ Tryz.results154 ⟨H,(by rw[Con.leftP7 (c:=(.mk k nm lo hi ad cap ps)) zB_];exact A)⟩ rfl (F:=[_]) (@List.perm_append_comm _ [_] _) zt
      · skip
        rw[E]at J I;simp[nd,eU_]at J I
        obtain⟨p,U⟩:=List.length_eq_one_iff.1 (show ps.length=1 by omega);have B:ps[0]? = some p:=by rw[U];rfl
        have m:p∈ps:=List.mem_of_getElem? B;refine Zz 5 ?_;refine ao_ [(C,.cells (Con.cells (Con.mk k nm lo hi ad cap ps)).toArray 40 (0,0))] zk ?_;refine G_ 1 [0,1,2,3,4] zk (fun _ a b=>⟨Vw.sat.sub a,b⟩) (z_ rfl (dt_ (cs:=[lFn bs bk]) ka_ rfl (fun v _ h=>h.2.2.2.1) rfl) rfl (Zz 2 ?_));refine z_ rfl (U_ ai_ L_ rfl rfl (fun v _ h=>aE_ (n:=5) Con.cells_len zx_ (((Con.mem_iff (.mk k nm lo hi ad cap ps) v).1 h.1).1) B) zr_ zz_) rfl ?_;refine z_ rfl (au_ (ad:=ad) (us:=p.cells) aU_ L_ rfl (fun v _ h=>((Con.mem_iff (.mk k nm lo hi ad cap ps) v).1 h.1).1) (Con.cells_len _) (p_ Con.cells_len B)) rfl (aZ_ (n_ 5 rfl zk (aA_ (ih p zaS_ (Con.ok_part (c:=(.mk k nm lo hi ad cap ps)) y m) (Con.fine_part (c:=(.mk k nm lo hi ad cap ps)) X m) l q V (by have:=Con.sz_at B;omega)) rfl rfl (@List.perm_append_comm _ [_] _) (fun v _ h=>by exact⟨Con.mem_part (c:=(.mk k nm lo hi ad cap ps)) h.1 m,h.2⟩) rfl fun x=>?_)));obtain⟨H,A⟩:=x;refine u_ (@List.perm_append_comm _ _ [_]) (Zz 2 ?_);refine w_ (fun _ a b=>⟨Vw.sat.sub a,b⟩) (Zz 2 ?_);refine ao_ [(C,.cells (Con.cells (Con.mk k nm lo hi ad cap ps)).toArray 40 (0,0))] zk ?_;refine G_ 5 [0,1,2,3,4,5,6,8] zk (fun _ a b=>⟨Vw.sat.sub a,b⟩) (z_ rfl (dt_ (cs:=[zp_ kb 0]) pO_ rfl (fun v _ h=>h.2.2.1) rfl) rfl (Zz 4 ?_));refine z_ rfl (U_ ai_ L_ rfl rfl (fun v _ h=>aE_ (n:=5) Con.cells_len zx_ (((Con.mem_iff (.mk k nm lo hi ad cap ps) v).1 h.1).1) B) zr_ zz_) rfl ?_;refine z_ rfl (au_ (ad:=ad) (us:=p.cells) aU_ L_ rfl (fun v _ h=>((Con.mem_iff (.mk k nm lo hi ad cap ps) v).1 h.1).1) (Con.cells_len _) (p_ Con.cells_len B)) rfl (Zz 2 ?_);refine n_ 7 rfl zk (i_ (dM_ p (Con.ok_part (c:=(.mk k nm lo hi ad cap ps)) y m)) rfl (.refl _) (fun v _ h=>⟨Con.mem_part (c:=(.mk k nm lo hi ad cap ps)) h.1 m,h.2.1,trivial⟩) rfl fun _=>Zz 2 ?_);refine w_ (fun _ a b=>⟨Vw.sat.sub a,b⟩) (n_ 9 rfl zk (i_ (dM_ (.mk k nm lo hi ad cap ps) y) rfl (.refl _) zf rfl fun _=>Zz 2 ?_));refine w_ (fun _ a b=>⟨Vw.sat.sub a,b⟩) (G_ 2 [10] zk (fun _ a b=>⟨Vw.sat.sub a,b⟩) (z_ rfl (K_ dy_ rfl rfl) rfl (aZ_ (n_ 11 rfl zk (R_ I_ J_ W_ rfl rfl rfl rfl rfl rfl fun L=>Zz 2 ?_)))));refine w_ (fun _ a b=>⟨Vw.sat.sub a.tail,b⟩) (n_ 12 rfl zk (i_ (et_ ⟨4,p.atom,[],Con.atom (.mk k nm lo hi ad cap ps),nm,[],[],0,0,0⟩ frm (p.leftP frm l) H A (by have:=Con.leftP_len frm _ p (Nat.le_refl _) l;have:=Con.sz_at B;omega)) rfl (.cons _ (@List.perm_append_comm _ [_] _)) zt rfl fun x=>?_));obtain⟨G,S⟩:=x;refine u_ (@List.perm_append_comm _ _ [_]) (Zz 2 ?_);refine w_ (fun _ a b=>⟨Vw.sat.sub a,b⟩) (Zz 2 ?_);exact cB_ Tryz.results154 ⟨G,(by rw[Con.leftP6 (c:=(.mk k nm lo hi ad cap ps)) (p:=p) zB_ U];exact S)⟩ rfl (F:=[_]) (@List.perm_append_comm _ [_] _) zt
    · skip
      rw[M]at J I;simp[nd,eU_]at J I
      refine Zz 14 ?_;refine bC_ [(1,zp_ bs 0),(2,zp_ bk 0),(3,zp_ C 0),(15,.slice ad ps.length cap),(16,.int .i64 (ps.length:Int)),(17,.int .i64 ((0:Nat):Int))] zl ?_;refine cc_ (ι:={x:Nat×CS // x.1≤ps.length∧CInv (Con.leftP.lefts frm (ps.take x.1) l) x.2}) (fun x=>[(1,zp_ bs 0),(2,zp_ bk 0),(3,zp_ C 0),(15,.slice ad ps.length cap),(16,.int .i64 (ps.length:Int)),(17,.int .i64 (x.1.1:Int))]) (fun x=>_::gV_ kb frm x.1.2) (fun _=>_) (fun x=>ps.length - x.1.1) ⟨(0,q),by simp,by simpa [Con.leftP.lefts] using V⟩ ?_;rintro ⟨⟨i,H⟩,hk⟩;dsimp only at hk;refine bC_ [(1,zp_ bs 0),(2,zp_ bk 0),(3,zp_ C 0),(15,.slice ad ps.length cap),(16,.int .i64 (ps.length:Int)),(17,.int .i64 (i:Int))] zl ?_;refine Zj 2 (fun E=>?_) fun E=>?_
      · skip
        obtain rfl:i=ps.length:=by omega
        rw[List.take_length]at hk;obtain⟨p,B⟩:∃ p,ps[0]? = some p:=⟨_,List.getElem?_eq_getElem (show 0<ps.length by omega)⟩;have m:p∈ps:=List.mem_of_getElem? B;refine Zz 10 ?_;refine e_ (U_ ai_ L_ rfl rfl (fun v _ h=>aE_ (n:=5) Con.cells_len zx_ (((Con.mem_iff (.mk k nm lo hi ad cap ps) v).1 h.1).1) B) zr_ zz_) rfl ?_;refine e_ (au_ (ad:=ad) (us:=p.cells) aU_ L_ rfl (fun v _ h=>((Con.mem_iff (.mk k nm lo hi ad cap ps) v).1 h.1).1) (Con.cells_len _) (p_ Con.cells_len B)) rfl (i_ (dM_ p (Con.ok_part (c:=(.mk k nm lo hi ad cap ps)) y m)) rfl (.refl _) (fun v _ h=>⟨Con.mem_part (c:=(.mk k nm lo hi ad cap ps)) h.1 m,h.2.1,trivial⟩) rfl fun _=>Zz 7 ?_);refine e_ (dm_ (i:=1) (j:=ps.length) (kl:=.i64) (kh:=.i64) ai_ L_ rfl rfl rfl zr_ (by first|omega|(simp only[Con.cap];omega))) rfl ?_;refine Zz 5 ?_;refine bC_ [(1,zp_ bs 0),(2,zp_ bk 0),(3,zp_ C 0),(6,str p.atom),(32,.slice (sad ad cap 1 5) (ps.length - 1) (cap - 1)),(33,.int .i64 ((ps.length - 1:Nat):Int)),(34,.int .i64 ((0:Nat):Int))] zl ?_;have Z:=Con.headD_atom B;have T:=Con.lefts_len frm ps ps.length l;rw[List.take_length]at T;generalize p.atom=f0 at Z ⊢
        refine cc_ (ι:={x:Nat×Str×List Pc×CS // x.1≤ps.length - 1∧CInv x.2.2.1 x.2.2.2∧x.2.2.1.length≤(Con.leftP.lefts frm ps l).length+x.1∧Con.andP frm (.mk k nm lo hi ad cap ps) (ps.drop 1) 1 f0 (Con.leftP.lefts frm ps l)=Con.andP frm (.mk k nm lo hi ad cap ps) (ps.drop (1+x.1)) (1+x.1) x.2.1 x.2.2.1}) (fun x=>[(1,zp_ bs 0),(2,zp_ bk 0),(3,zp_ C 0),(6,str x.1.2.1),(32,.slice (sad ad cap 1 5) (ps.length - 1) (cap - 1)),(33,.int .i64 ((ps.length - 1:Nat):Int)),(34,.int .i64 (x.1.1:Int))]) (fun x=>_::gV_ kb frm x.1.2.2.2) (fun _=>_) (fun x=>ps.length - 1 - x.1.1) ⟨(0,f0,(Con.leftP.lefts frm ps l),H),by simp,hk.2,by simp,rfl⟩ ?_;rintro ⟨⟨i,f,P,G⟩,R⟩;dsimp only at R;refine bC_ [(1,zp_ bs 0),(2,zp_ bk 0),(3,zp_ C 0),(6,str f),(32,.slice (sad ad cap 1 5) (ps.length - 1) (cap - 1)),(33,.int .i64 ((ps.length - 1:Nat):Int)),(34,.int .i64 (i:Int))] zl ?_;refine Zj 2 (fun K=>?_) fun K=>?_
        · skip
          refine Zz 6 ?_;exact cB_ Tryz.results154 ⟨G,(by have e:=R.2.2.2;rw[List.drop_of_length_le (show ps.length≤1+i by omega)]at e;rw[Con.leftP5 (c:=(.mk k nm lo hi ad cap ps)) zB_];simp only[Con.parts,Z];rw[e];exact R.2.1)⟩ rfl (F:=[_]) (@List.perm_append_comm _ [_] _) zt
        · skip
          have O:i<ps.length - 1:=by omega
          obtain⟨p,B⟩:∃ p,(ps.drop 1)[i]? = some p:=⟨_,List.getElem?_eq_getElem zH_⟩;have N:ps[1+i]? = some p:=by rw[← List.getElem?_drop];exact B
          have m:p∈ps:=List.mem_of_getElem? N;refine Zz 11 ?_;refine e_ (U_ ai_ L_ rfl rfl (fun v _ h=>aE_ (n:=5) Con.cells_len zx_ ((Con.mem_tail (c:=(.mk k nm lo hi ad cap ps)) y h.1)) B) zr_ zz_) rfl ?_;refine e_ (au_ (ad:=(sad ad cap 1 5)) (us:=p.cells) aU_ L_ rfl (fun v _ h=>(Con.mem_tail (c:=(.mk k nm lo hi ad cap ps)) y h.1)) (Con.cells_len _) (p_ Con.cells_len B)) rfl (D_ ch_ rfl fun L=>Zz 1 ?_);refine fC_ 0 L_ rfl rfl rfl rfl (Zz 8 ?_);refine e_ (aD_ (dm_ (i:=0) (j:=i+2) (kl:=.i64) (kh:=.i64) ai_ L_ rfl rfl rfl zr_ (by first|omega|(simp only[Con.cap];omega))) (show _=Value.slice (sad ad cap 0 5) (ps.take (i+2)).length (cap - 0) by rw[List.length_take,Nat.min_eq_left zr_];rfl)) rfl ?_;refine e_ (K_ rU_ rfl rfl) rfl (i_ (dM_ (Con.pre (.mk k nm lo hi ad cap ps) (i+2)) (Con.pre_ok y _)) rfl (.refl _) (fun v _ h=>⟨Con.pre_mem y h.1 _,h.2.1,trivial⟩) rfl fun _=>Zz 4 ?_);refine ao_ [(L,.cells p.cells.toArray 40 (0,0)),(C,.cells (Con.cells (Con.mk k nm lo hi ad cap ps)).toArray 40 (0,0))] zk ?_;refine G_ 4 [0,1,2,4] zk (fun _ a b=>⟨Vw.sat.sub a,b⟩) (z_ rfl (dt_ (cs:=[zp_ kb 0]) pO_ rfl (fun v _ h=>h.2.2.1) rfl) rfl (Zz 1 ?_));refine z_ rfl (du_ 0 aU_ L_ rfl rfl) rfl (Zz 2 ?_);refine n_ 3 rfl zk (i_ (dM_ p (Con.ok_part (c:=(.mk k nm lo hi ad cap ps)) y m)) rfl (.refl _) (fun v _ h=>⟨Con.mem_part (c:=(.mk k nm lo hi ad cap ps)) h.1 m,h.2.1,trivial⟩) rfl fun _=>Zz 2 ?_);refine w_ (fun _ a b=>⟨Vw.sat.sub a,b⟩) (G_ 2 [5] zk (fun _ a b=>⟨Vw.sat.sub a,b⟩) (z_ rfl (K_ dy_ rfl rfl) rfl (aZ_ (n_ 6 rfl zk (R_ I_ J_ W_ rfl rfl rfl rfl rfl rfl fun a3=>Zz 2 ?_)))));refine w_ (fun _ a b=>⟨Vw.sat.sub a.tail,b⟩) (n_ 7 rfl zk (i_ (et_ ⟨2,f,p.atom,(Con.pre (.mk k nm lo hi ad cap ps) (i+2)).atom,[],[],[],0,0,0⟩ frm P G R.2.1 zr_) rfl (.cons _ (@List.perm_append_comm _ [_,_] _)) zt rfl fun x=>?_));obtain⟨Y,A⟩:=x;refine u_ (@List.perm_append_comm _ _ [_,_]) (Zz 2 ?_);refine w_ (fun _ a b=>⟨Vw.sat.sub a,b⟩) (Zz 12 ?_);exact y_ ⟨(i+1,(Con.pre (.mk k nm lo hi ad cap ps) (i+2)).atom,(ins frm P ⟨2,f,p.atom,(Con.pre (.mk k nm lo hi ad cap ps) (i+2)).atom,[],[],[],0,0,0⟩),Y),by omega,A,by have:=bL_ frm P ⟨2,f,p.atom,(Con.pre (.mk k nm lo hi ad cap ps) (i+2)).atom,[],[],[],0,0,0⟩;dsimp only;omega,by rw[R.2.2.2,Con.drop_at N];simp only[Con.andP];rw[show 1+i+1=i+2 by omega,show 1+(i+1)=i+2 by omega]⟩ zH_ zl (F:=[_]) (@List.perm_append_comm _ [_] _) zh
      · skip
        have O:i<ps.length:=by omega
        obtain⟨p,B⟩:∃ p,ps[i]? = some p:=⟨_,List.getElem?_eq_getElem O⟩;have m:p∈ps:=List.mem_of_getElem? B;refine Zz 10 ?_;refine e_ (U_ ai_ L_ rfl rfl (fun v _ h=>aE_ (n:=5) Con.cells_len zx_ (((Con.mem_iff (.mk k nm lo hi ad cap ps) v).1 h.1).1) B) zr_ zz_) rfl ?_;refine e_ (au_ (ad:=ad) (us:=p.cells) aU_ L_ rfl (fun v _ h=>((Con.mem_iff (.mk k nm lo hi ad cap ps) v).1 h.1).1) (Con.cells_len _) (p_ Con.cells_len B)) rfl (D_ ch_ rfl fun L=>fC_ 0 L_ rfl rfl rfl rfl (Zz 3 ?_));refine e_ (dt_ (cs:=[lFn bs bk]) ka_ rfl (fun v _ h=>h.2.2.2.1) rfl) rfl (e_ (du_ 0 aU_ L_ rfl rfl) rfl (aA_ (ih p zaS_ (Con.ok_part (c:=(.mk k nm lo hi ad cap ps)) y m) (Con.fine_part (c:=(.mk k nm lo hi ad cap ps)) X m) (Con.leftP.lefts frm (ps.take i) l) H hk.2 (by have:=Con.lefts_len frm ps i l;have:=Con.sz_at B;omega)) rfl rfl (@List.perm_append_comm _ [_,_] _) (fun v _ h=>by exact⟨Con.mem_part (c:=(.mk k nm lo hi ad cap ps)) h.1 m,h.2⟩) rfl fun x=>?_));obtain⟨G,A⟩:=x;refine u_ (@List.perm_append_comm _ _ [_,_]) (Zz 7 ?_);exact y_ ⟨(i+1,G),O,by rw[Con.lefts_step frm B];exact A⟩ zH_ zl (F:=[_]) (@List.perm_append_comm _ [_] _) zh
theorem ku_ {kb bk bs:Nat} {frm:Int}:∀ (d:Nat) (c:Con),c.sz≤d→c.ok→c.fine→∀ (l:List Pc) (q:CS),CInv l q→l.length+2*c.sz≤100000 →
    Tri Tryz.prog 155 #[c.val,zp_ bk 0,zp_ bs 0] (gV_ kb frm q) [c.memF,bV_,kF bk kb,rcF bs bk] (fun _:{R:CS // CInv (c.rightP frm l) R}=>.tuple #[]) (fun R=>gV_ kb frm R.1) (fun _=>[]):=by
  intro d
  induction d with
  | zero=>intro c h;have:=c.sz_pos;omega
  | succ d ih =>
    intro c Y y S l q Q hl;have F:=Con.fields S;have I:=F.le;have G:=F.mo;obtain⟨k,nm,lo,hi,ad,cap,ps⟩:=c;have M:=Con.ok_len y;have U:(Con.mk k nm lo hi ad cap ps).sz=1+Con.sz.szs ps:=by simp only[Con.sz]
    have V:=Con.szs_len ps;simp only[Con.parts,Con.cap,Con.kind]at M I G;refine j_ Tryz.func155 rfl rfl Tryz.ntmps155 rfl fun W=>?_;refine Zz 2 ?_;refine aa_ rfl rfl fun A=>Zj 11 (fun J=>?_) fun J=>?_
    · skip
      refine Zj 6 (fun B=>?_) fun B=>?_
      · skip
        refine Zj 6 (fun O=>?_) fun O=>?_
        · skip
          refine Zz 6 ?_;exact cB_ Tryz.results155 ⟨q,(by rw[Con.rightP0 (c:=(.mk k nm lo hi ad cap ps)) zB_ zB_ zB_];exact Q)⟩ rfl (F:=[_]) (@List.perm_append_comm _ [_] _) zt
        · skip
          refine Zz 4 ?_;refine ao_ [(A,.cells (Con.cells (Con.mk k nm lo hi ad cap ps)).toArray 40 (0,0))] zk ?_;refine G_ 4 [0,1,3,4,5,6,7,8] zk (fun _ a b=>⟨Vw.sat.sub a,b⟩) (z_ rfl (dt_ (cs:=[zp_ kb 0]) pO_ rfl (fun v _ h=>h.2.2.1) rfl) rfl (Zz 8 ?_));refine n_ 2 rfl zk (i_ (dM_ (.mk k nm lo hi ad cap ps) y) rfl (.refl _) zf rfl fun _=>Zz 2 ?_);refine w_ (fun _ a b=>⟨Vw.sat.sub a,b⟩) (G_ 2 [9] zk (fun _ a b=>⟨Vw.sat.sub a,b⟩) (z_ rfl (K_ dy_ rfl rfl) rfl (aZ_ (n_ 10 rfl zk (R_ I_ J_ W_ rfl rfl rfl rfl rfl rfl fun L=>Zz 2 ?_)))));refine w_ (fun _ a b=>⟨Vw.sat.sub a.tail,b⟩) (n_ 11 rfl zk (i_ (et_ ⟨8,Con.atom (.mk k nm lo hi ad cap ps),[],[],nm,[],[],lo,hi,0⟩ frm l q Q zr_) rfl (.cons _ (@List.perm_append_comm _ [_] _)) zt rfl fun x=>?_));obtain⟨C,m⟩:=x;refine u_ (@List.perm_append_comm _ _ [_]) (Zz 2 ?_);refine w_ (fun _ a b=>⟨Vw.sat.sub a,b⟩) (Zz 2 ?_);exact cB_ Tryz.results155 ⟨C,(by rw[Con.rightP7 (c:=(.mk k nm lo hi ad cap ps)) zB_];exact m)⟩ rfl (F:=[_]) (@List.perm_append_comm _ [_] _) zt
      · skip
        rw[B]at I G;simp[nd,eU_]at I G
        obtain⟨p,P⟩:=List.length_eq_one_iff.1 (show ps.length=1 by omega);have E:ps[0]? = some p:=by rw[P];rfl
        have e:p∈ps:=List.mem_of_getElem? E;refine Zz 5 ?_;refine ao_ [(A,.cells (Con.cells (Con.mk k nm lo hi ad cap ps)).toArray 40 (0,0))] zk ?_;refine G_ 5 [0,1,3,4,5,6,7,8] zk (fun _ a b=>⟨Vw.sat.sub a,b⟩) (z_ rfl (dt_ (cs:=[zp_ kb 0]) pO_ rfl (fun v _ h=>h.2.2.1) rfl) rfl (Zz 5 ?_));refine z_ rfl (U_ ai_ L_ rfl rfl (fun v _ h=>aE_ (n:=5) Con.cells_len zx_ (((Con.mem_iff (.mk k nm lo hi ad cap ps) v).1 h.1).1) E) zr_ zz_) rfl ?_;refine z_ rfl (au_ (ad:=ad) (us:=p.cells) aU_ L_ rfl (fun v _ h=>((Con.mem_iff (.mk k nm lo hi ad cap ps) v).1 h.1).1) (Con.cells_len _) (p_ Con.cells_len E)) rfl (aZ_ (n_ 2 rfl zk (i_ (dM_ (.mk k nm lo hi ad cap ps) y) rfl (.refl _) zf rfl fun _=>Zz 2 ?_)));refine w_ (fun _ a b=>⟨Vw.sat.sub a,b⟩) (n_ 9 rfl zk (i_ (dM_ p (Con.ok_part (c:=(.mk k nm lo hi ad cap ps)) y e)) rfl (.refl _) (fun v _ h=>⟨Con.mem_part (c:=(.mk k nm lo hi ad cap ps)) h.1 e,h.2.1,trivial⟩) rfl fun _=>Zz 2 ?_));refine w_ (fun _ a b=>⟨Vw.sat.sub a,b⟩) (G_ 2 [10] zk (fun _ a b=>⟨Vw.sat.sub a,b⟩) (z_ rfl (K_ dy_ rfl rfl) rfl (aZ_ (n_ 11 rfl zk (R_ I_ J_ W_ rfl rfl rfl rfl rfl rfl fun L=>Zz 2 ?_)))));refine w_ (fun _ a b=>⟨Vw.sat.sub a.tail,b⟩) (n_ 12 rfl zk (i_ (et_ ⟨3,Con.atom (.mk k nm lo hi ad cap ps),[],p.atom,nm,[],[],0,0,0⟩ frm l q Q zr_) rfl (.cons _ (@List.perm_append_comm _ [_] _)) zt rfl fun x=>?_));obtain⟨C,m⟩:=x;refine u_ (@List.perm_append_comm _ _ [_]) (Zz 2 ?_);refine w_ (fun _ a b=>⟨Vw.sat.sub a,b⟩) (Zz 2 ?_);refine ao_ [(A,.cells (Con.cells (Con.mk k nm lo hi ad cap ps)).toArray 40 (0,0))] zk ?_;refine G_ 1 [0,1,2,3,4] zk (fun _ a b=>⟨Vw.sat.sub a,b⟩) (z_ rfl (dt_ (cs:=[rFn bs bk]) ka_ rfl (fun v _ h=>h.2.2.2.1) rfl) rfl (Zz 2 ?_));refine z_ rfl (U_ ai_ L_ rfl rfl (fun v _ h=>aE_ (n:=5) Con.cells_len zx_ (((Con.mem_iff (.mk k nm lo hi ad cap ps) v).1 h.1).1) E) zr_ zz_) rfl ?_;refine z_ rfl (au_ (ad:=ad) (us:=p.cells) aU_ L_ rfl (fun v _ h=>((Con.mem_iff (.mk k nm lo hi ad cap ps) v).1 h.1).1) (Con.cells_len _) (p_ Con.cells_len E)) rfl (aZ_ (n_ 5 rfl zk (aA_ (ih p zaT_ (Con.ok_part (c:=(.mk k nm lo hi ad cap ps)) y e) (Con.fine_part (c:=(.mk k nm lo hi ad cap ps)) S e) (ins frm l ⟨3,Con.atom (.mk k nm lo hi ad cap ps),[],p.atom,nm,[],[],0,0,0⟩) C m (by have:=bL_ frm l ⟨3,Con.atom (.mk k nm lo hi ad cap ps),[],p.atom,nm,[],[],0,0,0⟩;have:=Con.sz_at E;omega)) rfl rfl (@List.perm_append_comm _ [_] _) (fun v _ h=>by exact⟨Con.mem_part (c:=(.mk k nm lo hi ad cap ps)) h.1 e,h.2⟩) rfl fun x=>?_)));obtain⟨K,H⟩:=x;refine u_ (@List.perm_append_comm _ _ [_]) (Zz 2 ?_);refine w_ (fun _ a b=>⟨Vw.sat.sub a,b⟩) (Zz 2 ?_);exact cB_ Tryz.results155 ⟨K,(by rw[Con.rightP6 (c:=(.mk k nm lo hi ad cap ps)) (p:=p) zB_ P];exact H)⟩ rfl (F:=[_]) (@List.perm_append_comm _ [_] _) zt
    · skip
      rw[J]at I G;simp[nd,eU_]at I G
      refine Zz 13 ?_;refine bC_ [(1,zp_ bk 0),(2,zp_ bs 0),(3,zp_ A 0),(11,.slice ad ps.length cap),(12,.int .i64 (ps.length:Int)),(13,.int .i64 ((0:Nat):Int))] zl ?_;refine cc_ (ι:={x:Nat×CS // x.1≤ps.length∧CInv (Con.rightP.rights frm (Con.atom (.mk k nm lo hi ad cap ps)) (ps.take x.1) l) x.2}) (fun x=>[(1,zp_ bk 0),(2,zp_ bs 0),(3,zp_ A 0),(11,.slice ad ps.length cap),(12,.int .i64 (ps.length:Int)),(13,.int .i64 (x.1.1:Int))]) (fun x=>_::gV_ kb frm x.1.2) (fun _=>_) (fun x=>ps.length - x.1.1) ⟨(0,q),by simp,by simpa [Con.rightP.rights] using Q⟩ ?_;rintro ⟨⟨i,C⟩,hk⟩;dsimp only at hk;refine bC_ [(1,zp_ bk 0),(2,zp_ bs 0),(3,zp_ A 0),(11,.slice ad ps.length cap),(12,.int .i64 (ps.length:Int)),(13,.int .i64 (i:Int))] zl ?_;refine Zj 2 (fun B=>?_) fun B=>?_
      · skip
        obtain rfl:i=ps.length:=by omega
        rw[List.take_length]at hk;refine Zz 6 ?_;exact cB_ Tryz.results155 ⟨C,(by rw[Con.rightP5 (c:=(.mk k nm lo hi ad cap ps)) zB_];exact hk.2)⟩ rfl (F:=[_]) (@List.perm_append_comm _ [_] _) zt
      · skip
        have N:i<ps.length:=by omega
        obtain⟨p,E⟩:∃ p,ps[i]? = some p:=⟨_,List.getElem?_eq_getElem N⟩;have e:p∈ps:=List.mem_of_getElem? E;refine Zz 10 ?_;refine e_ (U_ ai_ L_ rfl rfl (fun v _ h=>aE_ (n:=5) Con.cells_len zx_ (((Con.mem_iff (.mk k nm lo hi ad cap ps) v).1 h.1).1) E) zr_ zz_) rfl ?_;refine e_ (au_ (ad:=ad) (us:=p.cells) aU_ L_ rfl (fun v _ h=>((Con.mem_iff (.mk k nm lo hi ad cap ps) v).1 h.1).1) (Con.cells_len _) (p_ Con.cells_len E)) rfl (D_ ch_ rfl fun L=>fC_ 0 L_ rfl rfl rfl rfl (Zz 3 ?_));refine ao_ [(L,.cells p.cells.toArray 40 (0,0)),(A,.cells (Con.cells (Con.mk k nm lo hi ad cap ps)).toArray 40 (0,0))] zk ?_;refine G_ 5 [0,1,3] zk (fun _ a b=>⟨Vw.sat.sub a,b⟩) (z_ rfl (dt_ (cs:=[zp_ kb 0]) pO_ rfl (fun v _ h=>h.2.2.1) rfl) rfl (Zz 1 ?_));refine z_ rfl (du_ 0 aU_ L_ rfl rfl) rfl (aZ_ (n_ 2 rfl zk (i_ (dM_ (.mk k nm lo hi ad cap ps) y) rfl (.refl _) zf rfl fun _=>Zz 2 ?_)));refine w_ (fun _ a b=>⟨Vw.sat.sub a,b⟩) (n_ 4 rfl zk (i_ (dM_ p (Con.ok_part (c:=(.mk k nm lo hi ad cap ps)) y e)) rfl (.refl _) (fun v _ h=>⟨Con.mem_part (c:=(.mk k nm lo hi ad cap ps)) h.1 e,h.2.1,trivial⟩) rfl fun _=>Zz 2 ?_));refine w_ (fun _ a b=>⟨Vw.sat.sub a,b⟩) (G_ 2 [5] zk (fun _ a b=>⟨Vw.sat.sub a,b⟩) (z_ rfl (K_ dy_ rfl rfl) rfl (aZ_ (n_ 6 rfl zk (R_ I_ J_ W_ rfl rfl rfl rfl rfl rfl fun X=>Zz 2 ?_)))));refine w_ (fun _ a b=>⟨Vw.sat.sub a.tail,b⟩) (n_ 7 rfl zk (i_ (et_ ⟨1,Con.atom (.mk k nm lo hi ad cap ps),[],p.atom,[],[],[],0,0,0⟩ frm (Con.rightP.rights frm (Con.atom (.mk k nm lo hi ad cap ps)) (ps.take i) l) C hk.2 (by have:=Con.rights_len frm (Con.atom (.mk k nm lo hi ad cap ps)) ps i l;have:=Con.sz_at E;have:=p.sz_pos;omega)) rfl (.cons _ (@List.perm_append_comm _ [_,_] _)) zt rfl fun x=>?_));obtain⟨K,m⟩:=x;refine u_ (@List.perm_append_comm _ _ [_,_]) (Zz 2 ?_);refine w_ (fun _ a b=>⟨Vw.sat.sub a,b⟩) (Zz 3 ?_);refine e_ (dt_ (cs:=[rFn bs bk]) ka_ rfl (fun v _ h=>h.2.2.2.1) rfl) rfl (e_ (du_ 0 aU_ L_ rfl rfl) rfl (aA_ (ih p zaT_ (Con.ok_part (c:=(.mk k nm lo hi ad cap ps)) y e) (Con.fine_part (c:=(.mk k nm lo hi ad cap ps)) S e) (ins frm (Con.rightP.rights frm (Con.atom (.mk k nm lo hi ad cap ps)) (ps.take i) l) ⟨1,Con.atom (.mk k nm lo hi ad cap ps),[],p.atom,[],[],[],0,0,0⟩) K m (by have:=Con.rights_len frm (Con.atom (.mk k nm lo hi ad cap ps)) ps i l;have:=Con.sz_at E;have:=bL_ frm (Con.rightP.rights frm (Con.atom (.mk k nm lo hi ad cap ps)) (ps.take i) l) ⟨1,(Con.atom (.mk k nm lo hi ad cap ps)),[],p.atom,[],[],[],0,0,0⟩;omega)) rfl rfl (@List.perm_append_comm _ [_,_] _) (fun v _ h=>by exact⟨Con.mem_part (c:=(.mk k nm lo hi ad cap ps)) h.1 e,h.2⟩) rfl fun x=>?_));obtain⟨T,H⟩:=x;refine u_ (@List.perm_append_comm _ _ [_,_]) (Zz 7 ?_);exact y_ ⟨(i+1,T),N,by rw[Con.rights_step frm _ E];exact H⟩ zH_ zl (F:=[_]) (@List.perm_append_comm _ [_] _) zh
theorem yO_ (x:Ax) (K:x.ok) (hc:x.check=0) {kb:Nat} (frm:Int) (q:CS) (hq:CInv [] q) :
    Tri Tryz.prog 70 #[zp_ kb 0,x.val] (gV_ kb frm q) [x.memF,bV_] (fun _:{q':CS // CInv (x.pieces frm) q'}=>.tuple #[]) (fun q'=>gV_ kb frm q'.1) (fun _=>[]):=by
  have G:=Ax.good_of hc;obtain⟨k,T,⟨kl,H,I,hl,al,cl,pl⟩,⟨d,E,m,y,B,C,A⟩,ad,cap,L,ro,a,b⟩:=x;have hlen:=K.len;have hcap:=K.cap;have h_1:=G.k1;have h_2:=G.k9;have h_3:([]:List Pc).length=0:=rfl;dsimp only at hlen hcap h_1 h_2;show Tri Tryz.prog 70 #[zp_ kb 0,.agg (Ax.cells (Ax.mk k T (Con.mk kl H I hl al cl pl) (Con.mk d E m y B C A) ad cap L ro a b)).toArray] _ _ _ _ _
  refine j_ Tryz.func70 rfl rfl Tryz.ntmps70 rfl fun v_1=>?_;refine Zz 2 ?_;refine aa_ rfl rfl fun R=>Zz 5 ?_
  refine i_ (xG_ kb) rfl (.refl _) zt rfl fun x=>?_;obtain⟨bk,bl,br⟩:=x;refine Zj 16 (fun hr_1=>?_) fun hr_1=>?_
  · skip
    refine Zj 6 (fun hr_2=>?_) fun hr_2=>?_
    · skip
      refine Zj 6 (fun hr_3=>?_) fun hr_3=>?_
      · skip
        refine Zj 6 (fun hr_4=>?_) fun hr_4=>?_
        · skip
          refine Zj 6 (fun hr_5=>?_) fun hr_5=>?_
          · skip
            refine Zj 6 (fun U=>?_) fun U=>?_
            · skip
              refine Zj 6 (fun W=>?_) fun W=>?_
              · skip
                refine Zj 6 (fun hr_8=>?_) fun hr_8=>?_
                · skip
                  refine Zj 6 (fun Z=>?_) fun Z=>?_
                  · skip
                    exfalso;omega
                  · skip
                    refine Zz 4 ?_;refine ao_ [(R,.cells (Ax.cells (Ax.mk k T (Con.mk kl H I hl al cl pl) (Con.mk d E m y B C A) ad cap L ro a b)).toArray 42 (0,0))] zk ?_;refine G_ 5 [0,1,2,4,5,6,7] zk (fun _ a b=>⟨Vw.sat.sub a,b⟩) (Zz 8 ?_);refine n_ 3 rfl zk (i_ (gg_ a K.a) rfl (.refl _) zt rfl fun _=>Zz 2 ?_);refine w_ (fun _ a b=>⟨Vw.sat.sub a,b⟩) (n_ 8 rfl zk (i_ (gg_ b K.b) rfl (.refl _) zt rfl fun _=>Zz 2 ?_));refine w_ (fun _ a b=>⟨Vw.sat.sub a,b⟩) (G_ 2 [9] zk (fun _ a b=>⟨Vw.sat.sub a,b⟩) (z_ rfl (K_ dy_ rfl rfl) rfl (aZ_ (n_ 10 rfl zk (R_ I_ J_ W_ rfl rfl rfl rfl rfl rfl fun S=>Zz 2 ?_)))));refine w_ (fun _ a b=>⟨Vw.sat.sub a.tail,b⟩) (n_ 11 rfl zk (i_ (et_ ⟨3,([123]++a++[125]),[],([123]++b++[125]),ro,[],[],0,0,0⟩ frm [] q hq zr_) rfl (.cons _ (@List.perm_append_comm _ [_] _)) zt rfl fun x=>?_));obtain⟨M,J⟩:=x;have O:=bL_ frm [] ⟨3,([123]++a++[125]),[],([123]++b++[125]),ro,[],[],0,0,0⟩;refine u_ (@List.perm_append_comm _ _ [_]) (Zz 2 ?_);refine w_ (fun _ a b=>⟨Vw.sat.sub a,b⟩) (Zz 2 ?_)
                    have e:Ax.pieces frm ⟨k,T,(.mk kl H I hl al cl pl),(.mk d E m y B C A),ad,cap,L,ro,a,b⟩=(ins frm [] ⟨3,([123]++a++[125]),[],([123]++b++[125]),ro,[],[],0,0,0⟩):=by
                      unfold Ax.pieces;dsimp only
                      repeat (first|rfl|(rw[if_pos zr_])|(rw[if_neg zr_]))
                    exact cB_ fi_ ⟨M,by rw[e];exact J⟩ rfl (F:=[_]) (@List.perm_append_comm _ [_] _) zt
                · skip
                  obtain⟨fr,zr⟩:=Con.check_zero (G.right zaw_);dsimp only at fr zr;refine Zz 9 ?_;refine aA_ (ku_ (kb:=kb) (bk:=bk) (bs:=br) _ (.mk d E m y B C A) (Nat.le_refl _) K.right fr [] q hq zr_) rfl rfl (@List.perm_append_comm _ [_] _) (fun v _ h=>by exact⟨h.2.2.2.1.2.1,h.2.2.2.2.1,h.1,h.2.2.1,trivial⟩) rfl fun x=>?_;obtain⟨M,J⟩:=x;have O:=Con.rightP_len frm _ (.mk d E m y B C A) (Nat.le_refl _) [];refine u_ (@List.perm_append_comm _ _ [_]) (Zz 2 ?_);refine ao_ [(R,.cells (Ax.cells (Ax.mk k T (Con.mk kl H I hl al cl pl) (Con.mk d E m y B C A) ad cap L ro a b)).toArray 42 (0,0))] zk ?_;refine G_ 5 [0,1,2,4,5] zk (fun _ a b=>⟨Vw.sat.sub a,b⟩) (Zz 6 ?_);refine n_ 3 rfl zk (i_ (gg_ a K.a) rfl (.refl _) zt rfl fun _=>Zz 2 ?_);refine w_ (fun _ a b=>⟨Vw.sat.sub a,b⟩) (n_ 6 rfl zk (i_ (dM_ (.mk d E m y B C A) K.right) rfl (.refl _) (fun v _ h=>⟨h.2.2.2.1.2.1,h.2.2.2.2.1,trivial⟩) rfl fun _=>Zz 2 ?_));refine w_ (fun _ a b=>⟨Vw.sat.sub a,b⟩) (G_ 2 [7] zk (fun _ a b=>⟨Vw.sat.sub a,b⟩) (z_ rfl (K_ dy_ rfl rfl) rfl (aZ_ (n_ 8 rfl zk (R_ I_ J_ W_ rfl rfl rfl rfl rfl rfl fun S=>Zz 2 ?_)))));refine w_ (fun _ a b=>⟨Vw.sat.sub a.tail,b⟩) (n_ 9 rfl zk (i_ (et_ ⟨1,([123]++a++[125]),[],(Con.atom (.mk d E m y B C A)),[],[],[],0,0,0⟩ frm (Con.rightP frm (.mk d E m y B C A) []) M J zr_) rfl (.cons _ (@List.perm_append_comm _ [_] _)) zt rfl fun x=>?_));obtain⟨P,N⟩:=x;have X:=bL_ frm (Con.rightP frm (.mk d E m y B C A) []) ⟨1,([123]++a++[125]),[],(Con.atom (.mk d E m y B C A)),[],[],[],0,0,0⟩;refine u_ (@List.perm_append_comm _ _ [_]) (Zz 2 ?_);refine w_ (fun _ a b=>⟨Vw.sat.sub a,b⟩) (Zz 2 ?_)
                  have e:Ax.pieces frm ⟨k,T,(.mk kl H I hl al cl pl),(.mk d E m y B C A),ad,cap,L,ro,a,b⟩=(ins frm (Con.rightP frm (.mk d E m y B C A) []) ⟨1,([123]++a++[125]),[],(Con.atom (.mk d E m y B C A)),[],[],[],0,0,0⟩):=by
                    unfold Ax.pieces;dsimp only
                    repeat (first|rfl|(rw[if_pos zr_])|(rw[if_neg zr_]))
                  exact cB_ fi_ ⟨P,by rw[e];exact N⟩ rfl (F:=[_]) (@List.perm_append_comm _ [_] _) zt
              · skip
                refine Zz 8 ?_;refine e_ (K_ dy_ rfl rfl) rfl (R_ I_ J_ W_ rfl rfl rfl rfl rfl rfl fun S=>i_ (et_ ⟨7,[],[],[],ro,[],[],0,0,0⟩ frm [] q hq zr_) rfl (.cons _ (@List.perm_append_comm _ [_] _)) zt rfl fun x=>?_);obtain⟨M,J⟩:=x;have O:=bL_ frm [] ⟨7,[],[],[],ro,[],[],0,0,0⟩;refine u_ (@List.perm_append_comm _ _ [_]) (Zz 2 ?_)
                have e:Ax.pieces frm ⟨k,T,(.mk kl H I hl al cl pl),(.mk d E m y B C A),ad,cap,L,ro,a,b⟩=(ins frm [] ⟨7,[],[],[],ro,[],[],0,0,0⟩):=by
                  unfold Ax.pieces;dsimp only
                  repeat (first|rfl|(rw[if_pos zr_])|(rw[if_neg zr_]))
                exact cB_ fi_ ⟨M,by rw[e];exact J⟩ rfl (F:=[_]) (@List.perm_append_comm _ [_] _) zt
            · skip
              have hch:=G.chain U;dsimp only at hch;have a0:0<L.length:=by omega
              obtain⟨Q,W⟩:∃ Q,L[0]? = some Q:=⟨_,List.getElem?_eq_getElem a0⟩;refine Zz 8 ?_;refine e_ (U_ m_ H_ rfl rfl (fun v _ h=>aE_ (n:=1) aw_ zx_ (h.2.2.2.1.2.2) W) zr_ zz_) rfl ?_;refine Zz 8 ?_;refine e_ (dm_ (i:=1) (j:=L.length) (kl:=.i64) (kh:=.i64) m_ H_ rfl rfl rfl zr_ zr_) rfl (Zz 5 ?_);refine bC_ [(0,zp_ kb 0),(3,zp_ R 0),(6,str Q),(130,.slice (sad ad cap 1 1) (L.length - 1) (cap - 1)),(131,.int .i64 ((L.length - 1:Nat):Int)),(132,.int .i64 ((0:Nat):Int))] zl ?_;have hr_8:=Con.plain_len (G.roles Q (List.mem_of_getElem? W));refine cc_ (ι:={x:Nat×Str×List Pc×CS // x.1≤L.length - 1∧CInv x.2.2.1 x.2.2.2∧x.2.2.1.length≤x.1∧x.2.1.length≤30*(x.1+1)∧Ax.chainP frm ro (L.drop 1) Q []=Ax.chainP frm ro (L.drop (1+x.1)) x.2.1 x.2.2.1}) (fun x=>[(0,zp_ kb 0),(3,zp_ R 0),(6,str x.1.2.1),(130,.slice (sad ad cap 1 1) (L.length - 1) (cap - 1)),(131,.int .i64 ((L.length - 1:Nat):Int)),(132,.int .i64 (x.1.1:Int))]) (fun x=>_::gV_ kb frm x.1.2.2.2) (fun _=>_) (fun x=>L.length - 1 - x.1.1) ⟨(0,Q,[],q),by simp,hq,by simp,by simp;omega,rfl⟩ ?_;rintro ⟨⟨i,f,Y,M⟩,hj⟩;dsimp only at hj;refine bC_ [(0,zp_ kb 0),(3,zp_ R 0),(6,str f),(130,.slice (sad ad cap 1 1) (L.length - 1) (cap - 1)),(131,.int .i64 ((L.length - 1:Nat):Int)),(132,.int .i64 (i:Int))] zl ?_;refine Zj 2 (fun Z=>?_) fun Z=>?_
              · skip
                refine Zz 6 ?_
                have e:Ax.pieces frm ⟨k,T,(.mk kl H I hl al cl pl),(.mk d E m y B C A),ad,cap,L,ro,a,b⟩=Ax.chainP frm ro (L.drop 1) Q []:=by
                  unfold Ax.pieces;dsimp only;rw[rs_ W]
                  repeat (first|rfl|(rw[if_pos zr_])|(rw[if_neg zr_]))
                have e_1:=hj.2.2.2.2;rw[List.drop_of_length_le (show L.length≤1+i by omega)]at e_1;rw[e_1]at e;exact cB_ fi_ ⟨M,by rw[e];exact hj.2.1⟩ rfl (F:=[_]) (@List.perm_append_comm _ [_] _) zt
              · skip
                have hlt:i<L.length - 1:=by omega
                obtain⟨g,hp⟩:∃ g,(L.drop 1)[i]? = some g:=⟨_,List.getElem?_eq_getElem zH_⟩;have a2:L[1+i]? = some g:=by rw[← List.getElem?_drop];exact hp
                have hg:=Con.plain_len (G.roles g (List.mem_of_getElem? a2));have hro:=Con.plain_len (G.role (by show k=4∨k=5∨k=6∨k=7∨k=9;omega));dsimp only at hro;refine Zz 11 ?_;refine e_ (U_ m_ H_ rfl rfl (fun v _ h=>aE_ (n:=1) aw_ zx_ (bz_.rest aw_ h.2.2.2.1.2.2 K.len 1) hp) zr_ zz_) rfl ?_;refine e_ (bt_ (ad:=(sad ad cap 1 1)) ab_ rfl (fun v _ h=>bz_.rest aw_ h.2.2.2.1.2.2 K.len 1) (p_ aw_ hp 0 _ rfl)) rfl (Zj 19 (fun hr_10=>?_) fun hr_10=>?_)
                · skip
                  refine Zz 11 ?_;refine e_ (K_ dy_ rfl rfl) rfl (R_ I_ J_ W_ rfl rfl rfl rfl rfl rfl fun S=>i_ (et_ ⟨6,[],[],[],f,g,ro,0,0,0⟩ frm Y M hj.2.1 zr_) rfl (.cons _ (@List.perm_append_comm _ [_] _)) zt rfl fun x=>?_);obtain⟨P,J⟩:=x;have O:=bL_ frm Y ⟨6,[],[],[],f,g,ro,0,0,0⟩;refine u_ (@List.perm_append_comm _ _ [_]) (Zz 12 ?_);have a4:=kL_ a2;have a1:(L.drop (1+i+1)=[])↔¬ (i+2<L.length):=by rw[List.drop_eq_nil_iff];omega
                  exact y_ ⟨(i+1,ro,(ins frm Y ⟨6,[],[],[],f,g,ro,0,0,0⟩),P),by dsimp only;omega,J,by dsimp only;omega,by dsimp only;omega,by rw[hj.2.2.2.2,a4];simp only[Ax.chainP];rw[if_pos (by rw[a1];omega),show 1+(i+1)=1+i+1 by omega]⟩ zH_ zl (F:=[]) zaq_ zh
                · skip
                  refine Zz 5 ?_;refine e_ (eK_ rfl rfl zL_) rfl ?_;refine Zz 1 ?_;refine e_ (eK_ rfl rfl zL_) rfl ?_;refine Zz 9 ?_;refine e_ (K_ dy_ rfl rfl) rfl (R_ I_ J_ W_ rfl rfl rfl rfl rfl rfl fun S=>i_ (et_ ⟨6,[],[],[],f,g,(f++[46])++g,0,0,0⟩ frm Y M hj.2.1 zr_) rfl (.cons _ (@List.perm_append_comm _ [_] _)) zt rfl fun x=>?_);obtain⟨P,J⟩:=x;have O:=bL_ frm Y ⟨6,[],[],[],f,g,(f++[46])++g,0,0,0⟩;refine u_ (@List.perm_append_comm _ _ [_]) (Zz 12 ?_);have a4:=kL_ a2;have a1:(L.drop (1+i+1)=[])↔¬ (i+2<L.length):=by rw[List.drop_eq_nil_iff];omega
                  exact y_ ⟨(i+1,(f++[46])++g,(ins frm Y ⟨6,[],[],[],f,g,(f++[46])++g,0,0,0⟩),P),by dsimp only;omega,J,by dsimp only;omega,by simp only[List.length_append,List.length_cons,List.length_nil];omega,by rw[hj.2.2.2.2,a4];simp only[Ax.chainP];rw[if_neg (by rw[a1];omega),show 1+(i+1)=1+i+1 by omega]⟩ zH_ zl (F:=[]) zaq_ zh
          · skip
            have a0:0<L.length:=by have:=G.one hr_5;dsimp only at this;omega
            obtain⟨Q,U⟩:∃ Q,L[0]? = some Q:=⟨_,List.getElem?_eq_getElem a0⟩;refine Zz 4 ?_;refine ao_ [(R,.cells (Ax.cells (Ax.mk k T (Con.mk kl H I hl al cl pl) (Con.mk d E m y B C A) ad cap L ro a b)).toArray 42 (0,0))] zk ?_;refine G_ 2 [0,1,2,3,4,5,6,7] zk (fun _ a b=>⟨Vw.sat.sub a,b⟩) (Zz 3 ?_);refine z_ rfl (U_ m_ H_ rfl rfl (fun v _ h=>aE_ (n:=1) aw_ zx_ (h.2.2.2.1.2.2) U) zr_ zz_) rfl ?_;refine Zz 3 ?_;refine z_ rfl (K_ dy_ rfl rfl) rfl (aZ_ (n_ 8 rfl zk (R_ I_ J_ W_ rfl rfl rfl rfl rfl rfl fun S=>Zz 2 ?_)));refine w_ (fun _ a b=>⟨Vw.sat.sub a.tail,b⟩) (n_ 9 rfl zk (i_ (et_ ⟨5,[],[],[],Q,[],ro,0,0,0⟩ frm [] q hq zr_) rfl (.cons _ (@List.perm_append_comm _ [_] _)) zt rfl fun x=>?_));obtain⟨M,J⟩:=x;have O:=bL_ frm [] ⟨5,[],[],[],Q,[],ro,0,0,0⟩;refine u_ (@List.perm_append_comm _ _ [_]) (Zz 2 ?_);refine w_ (fun _ a b=>⟨Vw.sat.sub a,b⟩) (Zz 2 ?_)
            have e:Ax.pieces frm ⟨k,T,(.mk kl H I hl al cl pl),(.mk d E m y B C A),ad,cap,L,ro,a,b⟩=(ins frm [] ⟨5,[],[],[],Q,[],ro,0,0,0⟩):=by
              unfold Ax.pieces;dsimp only;rw[rs_ U]
              repeat (first|rfl|(rw[if_pos zr_])|(rw[if_neg zr_]))
            exact cB_ fi_ ⟨M,by rw[e];exact J⟩ rfl (F:=[_]) (@List.perm_append_comm _ [_] _) zt
        · skip
          obtain⟨fr,zr⟩:=Con.check_zero (G.right zaw_);dsimp only at fr zr;refine Zz 9 ?_;refine aA_ (ku_ (kb:=kb) (bk:=bk) (bs:=br) _ (.mk d E m y B C A) (Nat.le_refl _) K.right fr [] q hq zr_) rfl rfl (@List.perm_append_comm _ [_] _) (fun v _ h=>by exact⟨h.2.2.2.1.2.1,h.2.2.2.2.1,h.1,h.2.2.1,trivial⟩) rfl fun x=>?_;obtain⟨M,J⟩:=x;have O:=Con.rightP_len frm _ (.mk d E m y B C A) (Nat.le_refl _) [];refine u_ (@List.perm_append_comm _ _ [_]) (Zz 2 ?_);refine ao_ [(R,.cells (Ax.cells (Ax.mk k T (Con.mk kl H I hl al cl pl) (Con.mk d E m y B C A) ad cap L ro a b)).toArray 42 (0,0))] zk ?_;refine G_ 4 [0,1,2,3,4] zk (fun _ a b=>⟨Vw.sat.sub a,b⟩) (Zz 6 ?_);refine n_ 5 rfl zk (i_ (dM_ (.mk d E m y B C A) K.right) rfl (.refl _) (fun v _ h=>⟨h.2.2.2.1.2.1,h.2.2.2.2.1,trivial⟩) rfl fun _=>Zz 2 ?_);refine w_ (fun _ a b=>⟨Vw.sat.sub a,b⟩) (G_ 2 [6] zk (fun _ a b=>⟨Vw.sat.sub a,b⟩) (z_ rfl (K_ dy_ rfl rfl) rfl (aZ_ (n_ 7 rfl zk (R_ I_ J_ W_ rfl rfl rfl rfl rfl rfl fun S=>Zz 2 ?_)))));refine w_ (fun _ a b=>⟨Vw.sat.sub a.tail,b⟩) (n_ 8 rfl zk (i_ (et_ ⟨4,[42],[],(Con.atom (.mk d E m y B C A)),ro,[],[],0,0,0⟩ frm (Con.rightP frm (.mk d E m y B C A) []) M J zr_) rfl (.cons _ (@List.perm_append_comm _ [_] _)) zt rfl fun x=>?_));obtain⟨P,N⟩:=x;have X:=bL_ frm (Con.rightP frm (.mk d E m y B C A) []) ⟨4,[42],[],(Con.atom (.mk d E m y B C A)),ro,[],[],0,0,0⟩;refine u_ (@List.perm_append_comm _ _ [_]) (Zz 2 ?_);refine w_ (fun _ a b=>⟨Vw.sat.sub a,b⟩) (Zz 2 ?_)
          have e:Ax.pieces frm ⟨k,T,(.mk kl H I hl al cl pl),(.mk d E m y B C A),ad,cap,L,ro,a,b⟩=(ins frm (Con.rightP frm (.mk d E m y B C A) []) ⟨4,[42],[],(Con.atom (.mk d E m y B C A)),ro,[],[],0,0,0⟩):=by
            unfold Ax.pieces;dsimp only
            repeat (first|rfl|(rw[if_pos zr_])|(rw[if_neg zr_]))
          exact cB_ fi_ ⟨P,by rw[e];exact N⟩ rfl (F:=[_]) (@List.perm_append_comm _ [_] _) zt
      · skip
        obtain⟨fl,zl⟩:=Con.check_zero (G.left (by show k≤3;omega));dsimp only at fl zl;obtain⟨fr,zr⟩:=Con.check_zero (G.right zaw_);dsimp only at fr zr;refine Zz 9 ?_;refine aA_ (nR_ (kb:=kb) (bk:=bk) (bs:=bl) _ (.mk kl H I hl al cl pl) (Nat.le_refl _) K.left fl [] q hq zr_) rfl rfl (@List.perm_append_comm _ [_] _) (fun v _ h=>by exact⟨h.2.2.2.1.1,h.2.2.2.2.1,h.1,h.2.1,trivial⟩) rfl fun x=>?_;obtain⟨M,J⟩:=x;have O:=Con.leftP_len frm _ (.mk kl H I hl al cl pl) (Nat.le_refl _) [];refine u_ (@List.perm_append_comm _ _ [_]) (Zz 7 ?_);refine aA_ (nR_ (kb:=kb) (bk:=bk) (bs:=bl) _ (.mk d E m y B C A) (Nat.le_refl _) K.right fr (Con.leftP frm (.mk kl H I hl al cl pl) []) M J zr_) rfl rfl (@List.perm_append_comm _ [_] _) (fun v _ h=>by exact⟨h.2.2.2.1.2.1,h.2.2.2.2.1,h.1,h.2.1,trivial⟩) rfl fun x=>?_;obtain⟨P,N⟩:=x;have X:=Con.leftP_len frm _ (.mk d E m y B C A) (Nat.le_refl _) (Con.leftP frm (.mk kl H I hl al cl pl) []);refine u_ (@List.perm_append_comm _ _ [_]) (Zz 2 ?_);refine ao_ [(R,.cells (Ax.cells (Ax.mk k T (Con.mk kl H I hl al cl pl) (Con.mk d E m y B C A) ad cap L ro a b)).toArray 42 (0,0))] zk ?_;refine G_ 5 [0,1,2,4,5] zk (fun _ a b=>⟨Vw.sat.sub a,b⟩) (Zz 6 ?_);refine n_ 3 rfl zk (i_ (dM_ (.mk kl H I hl al cl pl) K.left) rfl (.refl _) (fun v _ h=>⟨h.2.2.2.1.1,h.2.2.2.2.1,trivial⟩) rfl fun _=>Zz 2 ?_);refine w_ (fun _ a b=>⟨Vw.sat.sub a,b⟩) (n_ 6 rfl zk (i_ (dM_ (.mk d E m y B C A) K.right) rfl (.refl _) (fun v _ h=>⟨h.2.2.2.1.2.1,h.2.2.2.2.1,trivial⟩) rfl fun _=>Zz 2 ?_));refine w_ (fun _ a b=>⟨Vw.sat.sub a,b⟩) (G_ 2 [7] zk (fun _ a b=>⟨Vw.sat.sub a,b⟩) (z_ rfl (K_ dy_ rfl rfl) rfl (aZ_ (n_ 8 rfl zk (R_ I_ J_ W_ rfl rfl rfl rfl rfl rfl fun S=>Zz 2 ?_)))));refine w_ (fun _ a b=>⟨Vw.sat.sub a.tail,b⟩) (n_ 9 rfl zk (i_ (et_ ⟨2,(Con.atom (.mk kl H I hl al cl pl)),(Con.atom (.mk d E m y B C A)),[33],[],[],[],0,0,0⟩ frm (Con.leftP frm (.mk d E m y B C A) (Con.leftP frm (.mk kl H I hl al cl pl) [])) P N zr_) rfl (.cons _ (@List.perm_append_comm _ [_] _)) zt rfl fun x=>?_));obtain⟨a3,V⟩:=x;have hb_3:=bL_ frm (Con.leftP frm (.mk d E m y B C A) (Con.leftP frm (.mk kl H I hl al cl pl) [])) ⟨2,(Con.atom (.mk kl H I hl al cl pl)),(Con.atom (.mk d E m y B C A)),[33],[],[],[],0,0,0⟩;refine u_ (@List.perm_append_comm _ _ [_]) (Zz 2 ?_);refine w_ (fun _ a b=>⟨Vw.sat.sub a,b⟩) (Zz 2 ?_)
        have e:Ax.pieces frm ⟨k,T,(.mk kl H I hl al cl pl),(.mk d E m y B C A),ad,cap,L,ro,a,b⟩=(ins frm (Con.leftP frm (.mk d E m y B C A) (Con.leftP frm (.mk kl H I hl al cl pl) [])) ⟨2,(Con.atom (.mk kl H I hl al cl pl)),(Con.atom (.mk d E m y B C A)),[33],[],[],[],0,0,0⟩):=by
          unfold Ax.pieces;dsimp only
          repeat (first|rfl|(rw[if_pos zr_])|(rw[if_neg zr_]))
        exact cB_ fi_ ⟨a3,by rw[e];exact V⟩ rfl (F:=[_]) (@List.perm_append_comm _ [_] _) zt
    · skip
      obtain⟨fl,zl⟩:=Con.check_zero (G.left (by show k≤3;omega));dsimp only at fl zl;obtain⟨fr,zr⟩:=Con.check_zero (G.right zaw_);dsimp only at fr zr;refine Zz 9 ?_;refine aA_ (nR_ (kb:=kb) (bk:=bk) (bs:=bl) _ (.mk kl H I hl al cl pl) (Nat.le_refl _) K.left fl [] q hq zr_) rfl rfl (@List.perm_append_comm _ [_] _) (fun v _ h=>by exact⟨h.2.2.2.1.1,h.2.2.2.2.1,h.1,h.2.1,trivial⟩) rfl fun x=>?_;obtain⟨M,J⟩:=x;have O:=Con.leftP_len frm _ (.mk kl H I hl al cl pl) (Nat.le_refl _) [];refine u_ (@List.perm_append_comm _ _ [_]) (Zz 7 ?_);refine aA_ (ku_ (kb:=kb) (bk:=bk) (bs:=br) _ (.mk d E m y B C A) (Nat.le_refl _) K.right fr (Con.leftP frm (.mk kl H I hl al cl pl) []) M J zr_) rfl rfl (@List.perm_append_comm _ [_] _) (fun v _ h=>by exact⟨h.2.2.2.1.2.1,h.2.2.2.2.1,h.1,h.2.2.1,trivial⟩) rfl fun x=>?_;obtain⟨P,N⟩:=x;have X:=Con.rightP_len frm _ (.mk d E m y B C A) (Nat.le_refl _) (Con.leftP frm (.mk kl H I hl al cl pl) []);refine u_ (@List.perm_append_comm _ _ [_]) (Zz 3 ?_);refine ao_ [(R,.cells (Ax.cells (Ax.mk k T (Con.mk kl H I hl al cl pl) (Con.mk d E m y B C A) ad cap L ro a b)).toArray 42 (0,0))] zk ?_;refine G_ 5 [0,1,2,4,5] zk (fun _ a b=>⟨Vw.sat.sub a,b⟩) (Zz 6 ?_);refine n_ 3 rfl zk (i_ (dM_ (.mk kl H I hl al cl pl) K.left) rfl (.refl _) (fun v _ h=>⟨h.2.2.2.1.1,h.2.2.2.2.1,trivial⟩) rfl fun _=>Zz 2 ?_);refine w_ (fun _ a b=>⟨Vw.sat.sub a,b⟩) (n_ 6 rfl zk (i_ (dM_ (.mk d E m y B C A) K.right) rfl (.refl _) (fun v _ h=>⟨h.2.2.2.1.2.1,h.2.2.2.2.1,trivial⟩) rfl fun _=>Zz 2 ?_));refine w_ (fun _ a b=>⟨Vw.sat.sub a,b⟩) (G_ 2 [7] zk (fun _ a b=>⟨Vw.sat.sub a,b⟩) (z_ rfl (K_ dy_ rfl rfl) rfl (aZ_ (n_ 8 rfl zk (R_ I_ J_ W_ rfl rfl rfl rfl rfl rfl fun S=>Zz 2 ?_)))));refine w_ (fun _ a b=>⟨Vw.sat.sub a.tail,b⟩) (n_ 9 rfl zk (i_ (et_ ⟨1,(Con.atom (.mk kl H I hl al cl pl)),[],(Con.atom (.mk d E m y B C A)),[],[],[],0,0,0⟩ frm (Con.rightP frm (.mk d E m y B C A) (Con.leftP frm (.mk kl H I hl al cl pl) [])) P N zr_) rfl (.cons _ (@List.perm_append_comm _ [_] _)) zt rfl fun x=>?_));obtain⟨a3,V⟩:=x;have hb_3:=bL_ frm (Con.rightP frm (.mk d E m y B C A) (Con.leftP frm (.mk kl H I hl al cl pl) [])) ⟨1,(Con.atom (.mk kl H I hl al cl pl)),[],(Con.atom (.mk d E m y B C A)),[],[],[],0,0,0⟩;refine u_ (@List.perm_append_comm _ _ [_]) (Zz 2 ?_);refine w_ (fun _ a b=>⟨Vw.sat.sub a,b⟩) (Zz 7 ?_);refine aA_ (nR_ (kb:=kb) (bk:=bk) (bs:=bl) _ (.mk d E m y B C A) (Nat.le_refl _) K.right fr (ins frm (Con.rightP frm (.mk d E m y B C A) (Con.leftP frm (.mk kl H I hl al cl pl) [])) ⟨1,(Con.atom (.mk kl H I hl al cl pl)),[],(Con.atom (.mk d E m y B C A)),[],[],[],0,0,0⟩) a3 V zr_) rfl rfl (@List.perm_append_comm _ [_] _) (fun v _ h=>by exact⟨h.2.2.2.1.2.1,h.2.2.2.2.1,h.1,h.2.1,trivial⟩) rfl fun x=>?_;obtain⟨q_4,hq_4⟩:=x;have hb_4:=Con.leftP_len frm _ (.mk d E m y B C A) (Nat.le_refl _) (ins frm (Con.rightP frm (.mk d E m y B C A) (Con.leftP frm (.mk kl H I hl al cl pl) [])) ⟨1,(Con.atom (.mk kl H I hl al cl pl)),[],(Con.atom (.mk d E m y B C A)),[],[],[],0,0,0⟩);refine u_ (@List.perm_append_comm _ _ [_]) (Zz 7 ?_);refine aA_ (ku_ (kb:=kb) (bk:=bk) (bs:=br) _ (.mk kl H I hl al cl pl) (Nat.le_refl _) K.left fl (Con.leftP frm (.mk d E m y B C A) (ins frm (Con.rightP frm (.mk d E m y B C A) (Con.leftP frm (.mk kl H I hl al cl pl) [])) ⟨1,(Con.atom (.mk kl H I hl al cl pl)),[],(Con.atom (.mk d E m y B C A)),[],[],[],0,0,0⟩)) q_4 hq_4 zr_) rfl rfl (@List.perm_append_comm _ [_] _) (fun v _ h=>by exact⟨h.2.2.2.1.1,h.2.2.2.2.1,h.1,h.2.2.1,trivial⟩) rfl fun x=>?_;obtain⟨q_5,hq_5⟩:=x;have hb_5:=Con.rightP_len frm _ (.mk kl H I hl al cl pl) (Nat.le_refl _) (Con.leftP frm (.mk d E m y B C A) (ins frm (Con.rightP frm (.mk d E m y B C A) (Con.leftP frm (.mk kl H I hl al cl pl) [])) ⟨1,(Con.atom (.mk kl H I hl al cl pl)),[],(Con.atom (.mk d E m y B C A)),[],[],[],0,0,0⟩));refine u_ (@List.perm_append_comm _ _ [_]) (Zz 2 ?_);refine ao_ [(R,.cells (Ax.cells (Ax.mk k T (Con.mk kl H I hl al cl pl) (Con.mk d E m y B C A) ad cap L ro a b)).toArray 42 (0,0))] zk ?_;refine G_ 5 [0,1,2,4,5] zk (fun _ a b=>⟨Vw.sat.sub a,b⟩) (Zz 6 ?_);refine n_ 3 rfl zk (i_ (dM_ (.mk d E m y B C A) K.right) rfl (.refl _) (fun v _ h=>⟨h.2.2.2.1.2.1,h.2.2.2.2.1,trivial⟩) rfl fun _=>Zz 2 ?_);refine w_ (fun _ a b=>⟨Vw.sat.sub a,b⟩) (n_ 6 rfl zk (i_ (dM_ (.mk kl H I hl al cl pl) K.left) rfl (.refl _) (fun v _ h=>⟨h.2.2.2.1.1,h.2.2.2.2.1,trivial⟩) rfl fun _=>Zz 2 ?_));refine w_ (fun _ a b=>⟨Vw.sat.sub a,b⟩) (G_ 2 [7] zk (fun _ a b=>⟨Vw.sat.sub a,b⟩) (z_ rfl (K_ dy_ rfl rfl) rfl (aZ_ (n_ 8 rfl zk (R_ I_ J_ W_ rfl rfl rfl rfl rfl rfl fun b_3=>Zz 2 ?_)))));refine w_ (fun _ a b=>⟨Vw.sat.sub a.tail,b⟩) (n_ 9 rfl zk (i_ (et_ ⟨1,(Con.atom (.mk d E m y B C A)),[],(Con.atom (.mk kl H I hl al cl pl)),[],[],[],0,0,0⟩ frm (Con.rightP frm (.mk kl H I hl al cl pl) (Con.leftP frm (.mk d E m y B C A) (ins frm (Con.rightP frm (.mk d E m y B C A) (Con.leftP frm (.mk kl H I hl al cl pl) [])) ⟨1,(Con.atom (.mk kl H I hl al cl pl)),[],(Con.atom (.mk d E m y B C A)),[],[],[],0,0,0⟩))) q_5 hq_5 zr_) rfl (.cons _ (@List.perm_append_comm _ [_] _)) zt rfl fun x=>?_));obtain⟨q_6,hq_6⟩:=x;have hb_6:=bL_ frm (Con.rightP frm (.mk kl H I hl al cl pl) (Con.leftP frm (.mk d E m y B C A) (ins frm (Con.rightP frm (.mk d E m y B C A) (Con.leftP frm (.mk kl H I hl al cl pl) [])) ⟨1,(Con.atom (.mk kl H I hl al cl pl)),[],(Con.atom (.mk d E m y B C A)),[],[],[],0,0,0⟩))) ⟨1,(Con.atom (.mk d E m y B C A)),[],(Con.atom (.mk kl H I hl al cl pl)),[],[],[],0,0,0⟩;refine u_ (@List.perm_append_comm _ _ [_]) (Zz 2 ?_);refine w_ (fun _ a b=>⟨Vw.sat.sub a,b⟩) (Zz 2 ?_)
      have e:Ax.pieces frm ⟨k,T,(.mk kl H I hl al cl pl),(.mk d E m y B C A),ad,cap,L,ro,a,b⟩=(ins frm (Con.rightP frm (.mk kl H I hl al cl pl) (Con.leftP frm (.mk d E m y B C A) (ins frm (Con.rightP frm (.mk d E m y B C A) (Con.leftP frm (.mk kl H I hl al cl pl) [])) ⟨1,(Con.atom (.mk kl H I hl al cl pl)),[],(Con.atom (.mk d E m y B C A)),[],[],[],0,0,0⟩))) ⟨1,(Con.atom (.mk d E m y B C A)),[],(Con.atom (.mk kl H I hl al cl pl)),[],[],[],0,0,0⟩):=by
        unfold Ax.pieces;dsimp only
        repeat (first|rfl|(rw[if_pos zr_])|(rw[if_neg zr_]))
      exact cB_ fi_ ⟨q_6,by rw[e];exact hq_6⟩ rfl (F:=[_]) (@List.perm_append_comm _ [_] _) zt
  · skip
    obtain⟨fl,zl⟩:=Con.check_zero (G.left (by show k≤3;omega));dsimp only at fl zl;obtain⟨fr,zr⟩:=Con.check_zero (G.right zaw_);dsimp only at fr zr;refine Zz 9 ?_;refine aA_ (nR_ (kb:=kb) (bk:=bk) (bs:=bl) _ (.mk kl H I hl al cl pl) (Nat.le_refl _) K.left fl [] q hq zr_) rfl rfl (@List.perm_append_comm _ [_] _) (fun v _ h=>by exact⟨h.2.2.2.1.1,h.2.2.2.2.1,h.1,h.2.1,trivial⟩) rfl fun x=>?_;obtain⟨M,J⟩:=x;have O:=Con.leftP_len frm _ (.mk kl H I hl al cl pl) (Nat.le_refl _) [];refine u_ (@List.perm_append_comm _ _ [_]) (Zz 7 ?_);refine aA_ (ku_ (kb:=kb) (bk:=bk) (bs:=br) _ (.mk d E m y B C A) (Nat.le_refl _) K.right fr (Con.leftP frm (.mk kl H I hl al cl pl) []) M J zr_) rfl rfl (@List.perm_append_comm _ [_] _) (fun v _ h=>by exact⟨h.2.2.2.1.2.1,h.2.2.2.2.1,h.1,h.2.2.1,trivial⟩) rfl fun x=>?_;obtain⟨P,N⟩:=x;have X:=Con.rightP_len frm _ (.mk d E m y B C A) (Nat.le_refl _) (Con.leftP frm (.mk kl H I hl al cl pl) []);refine u_ (@List.perm_append_comm _ _ [_]) (Zz 2 ?_);refine ao_ [(R,.cells (Ax.cells (Ax.mk k T (Con.mk kl H I hl al cl pl) (Con.mk d E m y B C A) ad cap L ro a b)).toArray 42 (0,0))] zk ?_;refine G_ 5 [0,1,2,4,5] zk (fun _ a b=>⟨Vw.sat.sub a,b⟩) (Zz 6 ?_);refine n_ 3 rfl zk (i_ (dM_ (.mk kl H I hl al cl pl) K.left) rfl (.refl _) (fun v _ h=>⟨h.2.2.2.1.1,h.2.2.2.2.1,trivial⟩) rfl fun _=>Zz 2 ?_);refine w_ (fun _ a b=>⟨Vw.sat.sub a,b⟩) (n_ 6 rfl zk (i_ (dM_ (.mk d E m y B C A) K.right) rfl (.refl _) (fun v _ h=>⟨h.2.2.2.1.2.1,h.2.2.2.2.1,trivial⟩) rfl fun _=>Zz 2 ?_));refine w_ (fun _ a b=>⟨Vw.sat.sub a,b⟩) (G_ 2 [7] zk (fun _ a b=>⟨Vw.sat.sub a,b⟩) (z_ rfl (K_ dy_ rfl rfl) rfl (aZ_ (n_ 8 rfl zk (R_ I_ J_ W_ rfl rfl rfl rfl rfl rfl fun S=>Zz 2 ?_)))));refine w_ (fun _ a b=>⟨Vw.sat.sub a.tail,b⟩) (n_ 9 rfl zk (i_ (et_ ⟨1,(Con.atom (.mk kl H I hl al cl pl)),[],(Con.atom (.mk d E m y B C A)),[],[],[],0,0,0⟩ frm (Con.rightP frm (.mk d E m y B C A) (Con.leftP frm (.mk kl H I hl al cl pl) [])) P N zr_) rfl (.cons _ (@List.perm_append_comm _ [_] _)) zt rfl fun x=>?_));obtain⟨a3,V⟩:=x;have hb_3:=bL_ frm (Con.rightP frm (.mk d E m y B C A) (Con.leftP frm (.mk kl H I hl al cl pl) [])) ⟨1,(Con.atom (.mk kl H I hl al cl pl)),[],(Con.atom (.mk d E m y B C A)),[],[],[],0,0,0⟩;refine u_ (@List.perm_append_comm _ _ [_]) (Zz 2 ?_);refine w_ (fun _ a b=>⟨Vw.sat.sub a,b⟩) (Zz 2 ?_)
    have e:Ax.pieces frm ⟨k,T,(.mk kl H I hl al cl pl),(.mk d E m y B C A),ad,cap,L,ro,a,b⟩=(ins frm (Con.rightP frm (.mk d E m y B C A) (Con.leftP frm (.mk kl H I hl al cl pl) [])) ⟨1,(Con.atom (.mk kl H I hl al cl pl)),[],(Con.atom (.mk d E m y B C A)),[],[],[],0,0,0⟩):=by
      unfold Ax.pieces;dsimp only
      repeat (first|rfl|(rw[if_pos zr_])|(rw[if_neg zr_]))
    exact cB_ fi_ ⟨a3,by rw[e];exact V⟩ rfl (F:=[_]) (@List.perm_append_comm _ [_] _) zt
theorem aB_.form {e:TypeId} {sz n:Nat} {sv:Value} {m:List Value} {Hr:Hp} (h:aB_ e sz sv n m Hr):∃ ad cap,sv=.slice ad n cap:=by
 rcases h.2 with⟨d,k,_⟩|⟨g,cap,cur,d,_⟩
 ·exact⟨none,0,by rw[d,k]⟩
 exact⟨_,cap,d⟩
theorem aB_.nilcap {e:TypeId} {sz n m cap:Nat} {sv:Value} {q:List Value} {Hr:Hp} {ad:Option Addr} (h:aB_ e sz sv n q Hr) (d:sv=.slice ad m cap):ad=none→cap=0:=fun v=>by
 rcases h.2 with⟨k,_,_⟩|⟨g,c,cur,k,_⟩
 ·rw[k]at d;simp only[Value.slice.injEq]at d;exact d.2.2.symm
 rw[k,v]at d;simp at d
theorem uk_ (l:List Ax) (ad:Option Addr) (cap:Nat) (a5:l.length≤2199023255488) (S:∀ x∈l,x.ok) :
    Tri Tryz.prog 31 #[.slice ad l.length cap] [] [cu_ ad l,bV_] (fun y:{y:Option Addr×Nat // (bO_ l).1.length≤y.2∧y.2≤maxLen∧(y.1=none→y.2=0)}=>.tuple #[.slice y.1.1 (bO_ l).1.length y.1.2,.int .i64 (bO_ l).2]) (fun _=>[]) (fun y=>[V_ y.1.1 ((bO_ l).1.flatMap Pc.cells)]):=by
  refine j_ Tryz.func31 rfl rfl Tryz.ntmps31 rfl fun v_1=>?_;refine as_ ?_;refine ad_ ?_;refine e_ (an_ rfl) rfl ?_;refine e_ (an_ rfl) rfl ?_;refine M_ ?_;refine al_ rfl ?_;refine as_ ?_;refine as_ ?_;refine ad_ ?_;refine e_ (O_ rfl) rfl ?_;refine e_ (cA_ Q_ rfl) rfl ?_;refine C_ (dx_ rfl rfl) rfl fun a0 A=>?_;refine M_ ?_;refine al_ rfl ?_;cases a0
  · skip
    replace A:=zdf A;try dsimp only[Con.kind,Con.parts,Con.name,Con.lo,Con.hi,Con.cap,Con.ad]at A
    refine bX_ rfl ?_;refine cR_ ?_;refine al_ rfl ?_;refine as_ ?_;refine as_ ?_;refine ad_ ?_;refine e_ (O_ rfl) rfl ?_;refine e_ (cA_ Q_ rfl) rfl ?_;refine e_ (O_ rfl) rfl ?_;refine M_ ?_;refine al_ rfl ?_;refine dP_ ?_;refine bC_ [(0,.slice ad l.length cap),(2,.slice none 0 0),(13,.slice ad l.length cap),(14,.int .i64 (l.length:Int)),(15,.int .i64 ((0:Nat):Int))] zl ?_;refine cc_ (ι:={q:Nat // q≤l.length∧∀ y∈l.take q,y.check=0}) (fun i=>[(0,.slice ad l.length cap),(2,.slice none 0 0),(13,.slice ad l.length cap),(14,.int .i64 (l.length:Int)),(15,.int .i64 (i.1:Int))]) (fun _=>_) (fun _=>_) (fun i=>l.length - i.1) ⟨0,by simp⟩ ?_;rintro ⟨i,hk⟩;refine bC_ [(0,.slice ad l.length cap),(2,.slice none 0 0),(13,.slice ad l.length cap),(14,.int .i64 (l.length:Int)),(15,.int .i64 (i:Int))] zl ?_;refine as_ ?_;refine ad_ ?_;refine C_ (cv_ rfl rfl) rfl fun a2 B=>?_;refine M_ ?_;refine al_ rfl ?_;refine as_ ?_;cases a2
    · skip
      replace B:=zdf B;try dsimp only[Con.kind,Con.parts,Con.name,Con.lo,Con.hi,Con.cap,Con.ad]at B
      obtain rfl:i=l.length:=by omega
      try rw[List.take_length]at hk
      refine bX_ rfl ?_;refine hh_ rfl ?_;refine al_ rfl ?_;refine as_ ?_;refine as_ ?_;refine ad_ ?_;refine e_ (O_ rfl) rfl ?_;refine e_ (cA_ Q_ rfl) rfl ?_;refine e_ (O_ rfl) rfl ?_;refine M_ ?_;refine al_ rfl ?_;refine dP_ ?_;have I:=hk.2;refine bC_ [(2,.slice none 0 0),(25,.slice ad l.length cap),(26,.int .i64 (l.length:Int)),(27,.int .i64 ((0:Nat):Int))] zl ?_;refine cc_ (ι:={x:Nat×List Pc×Value×Hp // x.1≤l.length∧aB_ 174 10 x.2.2.1 x.2.1.length (x.2.1.flatMap Pc.cells) x.2.2.2∧x.2.1.length≤16384∧hO_ 0 l []=hO_ x.1 (l.drop x.1) x.2.1}) (fun x=>[(2,x.1.2.2.1),(25,.slice ad l.length cap),(26,.int .i64 (l.length:Int)),(27,.int .i64 (x.1.1:Int))]) (fun x=>x.1.2.2.2) (fun _=>_) (fun x=>l.length - x.1.1) ⟨(0,[],.slice none 0 0,[]),by simp,aB_.nil _ _,by simp,rfl⟩ ?_;clear hk;rintro ⟨⟨i,p,sv,Hr⟩,hk⟩;dsimp only at hk;refine bC_ [(2,sv),(25,.slice ad l.length cap),(26,.int .i64 (l.length:Int)),(27,.int .i64 (i:Int))] zl ?_;refine as_ ?_;refine ad_ ?_;refine C_ (cv_ rfl rfl) rfl fun P d=>?_;refine M_ ?_;refine al_ rfl ?_;refine as_ ?_;cases P
      · skip
        replace d:=zdf d;try dsimp only[Con.kind,Con.parts,Con.name,Con.lo,Con.hi,Con.cap,Con.ad]at d
        obtain rfl:i=l.length:=by omega
        try rw[List.take_length]at hk
        refine bX_ rfl ?_;refine hh_ rfl ?_;refine al_ rfl ?_;refine as_ ?_;refine ad_ ?_;refine e_ (O_ rfl) rfl ?_;refine e_ (an_ rfl) rfl ?_;refine e_ (an_ rfl) rfl ?_;refine M_ ?_;refine al_ rfl ?_;refine hG_ ?_;refine jO_ hk.2.1 (F:=[]) (by rw[List.append_nil]) fun m k L V U=>?_
        have e:bO_ l=(p,0):=by
          unfold bO_;rw[if_neg zr_,if_neg (by simp[fK_ I]),hk.2.2.2,List.drop_length];first|done|rfl
        have E:(bO_ l).1.length≤k∧k≤maxLen∧(m=none→k=0):=by rw[e];exact⟨V,U,aB_.nilcap hk.2.1 L⟩
        have Q:Value.tuple #[sv,.int .i64 0]=.tuple #[.slice m (bO_ l).1.length k,.int .i64 (bO_ l).2]:=by rw[e,L]
        have O:(p.flatMap Pc.cells)=((bO_ l).1.flatMap Pc.cells):=by rw[e]
        exact lg_ Tryz.results31 ⟨(m,k),E⟩ rfl rfl Q (.refl _) (fun v _ h=>⟨O▸h.1,trivial⟩)
      · skip
        replace d:=zdt d;try dsimp only[Con.kind,Con.parts,Con.name,Con.lo,Con.hi,Con.cap,Con.ad]at d
        have J:i<l.length:=by omega
        obtain⟨x,K⟩:∃ x,l[i]? = some x:=⟨_,List.getElem?_eq_getElem J⟩;have H:x∈l:=List.mem_of_getElem? K;refine bE_ rfl ?_;refine cR_ ?_;refine al_ rfl ?_;refine as_ ?_;refine dP_ ?_;refine as_ ?_;have G:=Ax.good_of (I x H);have hpl:=jM_ (i:Int) G;refine ad_ ?_;refine e_ (O_ rfl) rfl ?_;refine e_ (U_ Q_ ar_ rfl rfl (fun v _ h=>aE_ (n:=16) Ax.cells_len zx_ (h.1.1) K) zr_ zz_) rfl ?_;refine e_ (au_ (ad:=ad) (us:=x.cells) iQ_ ar_ rfl (fun v _ h=>h.1.1) (Ax.cells_len _) (p_ Ax.cells_len K)) rfl ?_;refine D_ bc_ rfl fun X=>?_;refine e_ (an_ rfl) rfl ?_;refine nC_ (us:=x.cells) 0 ar_ x.cells_len x.one_cells rfl rfl rfl rfl ?_;refine M_ ?_;refine al_ rfl ?_;refine as_ ?_;refine ad_ ?_;refine e_ (O_ rfl) rfl ?_;refine i_ (nM_ (i:Int)) rfl (.refl _) zt rfl fun⟨kb,bm⟩=>?_;refine e_ (an_ rfl) rfl ?_;refine M_ ?_;refine al_ rfl ?_;refine as_ ?_;refine ad_ ?_;refine e_ (O_ rfl) rfl ?_;refine e_ (oG_ (us:=x.cells) 2 iQ_ ar_ x.cells_len rfl rfl) rfl ?_;refine i_ (yO_ x (S x H) (I x H) (i:Int) ⟨.slice none 0 0,bm,#[],0,[]⟩ ⟨aB_.nil _ _,rfl,by simp⟩) rfl (.refl _) (fun v _ h=>⟨h.1.2 x H,h.2.1,trivial⟩) rfl fun y=>?_;obtain⟨⟨a4,a3,a7,a6,a8⟩,hq⟩:=y;have W:=hq.row;dsimp only at W;have R:(x.pieces (i:Int)).length≠0:=fun e=>Ax.pieces_ne _ G (List.eq_nil_of_length_eq_zero e)
        obtain⟨g,cp,cur,rfl,rfl,h_1,h_2,h_3,a1⟩:=W.some R;refine M_ ?_;refine al_ rfl ?_;refine as_ ?_;refine ad_ ?_;refine e_ (O_ rfl) rfl ?_;refine e_ (O_ rfl) rfl ?_;refine e_ (kX_ rfl) rfl ?_;refine e_ (bh_ cp_ rfl rfl rfl zf_) rfl ?_;refine e_ (aC_ 0 Tryz.isAgg63 rfl rfl rfl) rfl ?_;refine ay_ wH_ hk.2.1 rfl rfl (@List.perm_append_comm _ [_,_,_,_] _) (by rw[br_ Pc.cells 10 Pc.cells_len]) (um_ 2 rfl a1) (fun u hu=>by obtain⟨y,_,E⟩:=List.mem_flatMap.1 hu;exact kz_ y.cells_one u E) zG_ zr_ rfl fun M T N=>?_;refine u_ (@List.perm_append_comm _ _ [_,_,_,_]) ?_;have Z:∃ m k,M=.slice m (p.length+(x.pieces (i:Int)).length) k:=aB_.form N;obtain⟨m,k,L⟩:=Z;refine e_ (an_ rfl) rfl ?_;refine M_ ?_;refine al_ rfl ?_;refine as_ ?_;refine ad_ ?_;refine e_ (O_ rfl) rfl ?_;refine e_ (cA_ (ad:=m) (len:=p.length+(x.pieces (i:Int)).length) (cap:=k) I_ (congrArg some L)) rfl ?_;refine C_ (dx_ rfl rfl) rfl fun Y C=>?_;refine M_ ?_;refine al_ rfl ?_;cases Y
        · skip
          replace C:=zdf C;try dsimp only[Con.kind,Con.parts,Con.name,Con.lo,Con.hi,Con.cap,Con.ad]at C
          refine bX_ rfl ?_;refine cR_ ?_;refine al_ rfl ?_;refine ad_ ?_;refine e_ (bj_ rfl rfl rfl (ce_ zr_ zr_)) rfl ?_;refine e_ (O_ rfl) rfl ?_;refine M_ ?_;refine aq_ rfl ?_;exact y_ ⟨(i+1,p++x.pieces (i:Int),M,T),J,by simpa [List.flatMap_append] using N,by simp only[List.length_append];omega,by rw[hk.2.2.2,kL_ K];simp only[hO_];rw[if_neg (by simp only[List.length_append];omega)]⟩ zH_ zl (F:=[_,_,_,_]) (@List.perm_append_comm _ [_,_,_,_] _) zh
        · skip
          replace C:=zdt C;try dsimp only[Con.kind,Con.parts,Con.name,Con.lo,Con.hi,Con.cap,Con.ad]at C
          refine bE_ rfl ?_;refine as_ ?_;refine ad_ ?_;refine e_ (an_ rfl) rfl ?_;refine e_ (an_ rfl) rfl ?_;refine M_ ?_;refine al_ rfl ?_;refine hG_ ?_;have e:bO_ l=([],2):=by unfold bO_;rw[if_neg zr_,if_neg (by simp[fK_ I]),hk.2.2.2,kL_ K];simp only[hO_];rw[if_pos (by simp only[List.length_append];omega)]
          have E:(bO_ l).1.length≤0∧0≤maxLen∧((none:Option Addr)=none→0=0):=by rw[e];simp
          have Q:Value.tuple #[.slice none 0 0,.int .i64 2]=.tuple #[.slice none (bO_ l).1.length 0,.int .i64 (bO_ l).2]:=by rw[e]<;>rfl
          have O:(bO_ l).1.flatMap Pc.cells=[]:=by rw[e]<;>rfl
          exact lg_ Tryz.results31 ⟨(none,0),E⟩ rfl rfl Q (.refl _) (fun v _ h=>⟨.inl O,trivial⟩)
    · skip
      replace B:=zdt B;try dsimp only[Con.kind,Con.parts,Con.name,Con.lo,Con.hi,Con.cap,Con.ad]at B
      have J:i<l.length:=by omega
      obtain⟨x,K⟩:∃ x,l[i]? = some x:=⟨_,List.getElem?_eq_getElem J⟩;have H:x∈l:=List.mem_of_getElem? K;refine bE_ rfl ?_;refine cR_ ?_;refine al_ rfl ?_;refine as_ ?_;refine dP_ ?_;refine as_ ?_;refine ad_ ?_;refine e_ (U_ Q_ ar_ rfl rfl (fun v _ h=>aE_ (n:=16) Ax.cells_len zx_ (h.1.1) K) zr_ zz_) rfl ?_;refine e_ (au_ (ad:=ad) (us:=x.cells) iQ_ ar_ rfl (fun v _ h=>h.1.1) (Ax.cells_len _) (p_ Ax.cells_len K)) rfl ?_;refine D_ bc_ rfl fun X=>?_;refine nC_ (us:=x.cells) 0 ar_ x.cells_len x.one_cells rfl rfl rfl rfl ?_;refine M_ ?_;refine al_ rfl ?_;refine as_ ?_;refine ad_ ?_;refine e_ (oG_ (us:=x.cells) 0 iQ_ ar_ x.cells_len rfl rfl) rfl ?_;refine i_ (hX_ x (S x H)) rfl (.refl _) (fun v _ h=>⟨h.1.2 x H,h.2.1,trivial⟩) rfl fun _=>?_;refine e_ (an_ rfl) rfl ?_;refine M_ ?_;refine al_ rfl ?_;refine as_ ?_;refine ad_ ?_;refine e_ (O_ rfl) rfl ?_;refine C_ (cf_ rfl rfl) rfl fun P d=>?_;refine M_ ?_;refine al_ rfl ?_;cases P
      · skip
        replace d:=ee_ d;try dsimp only[Con.kind,Con.parts,Con.name,Con.lo,Con.hi,Con.cap,Con.ad]at d
        refine bX_ rfl ?_;refine cR_ ?_;refine al_ rfl ?_;refine ad_ ?_;refine e_ (bj_ rfl rfl rfl (ce_ zr_ zr_)) rfl ?_;refine e_ (O_ rfl) rfl ?_;refine M_ ?_;refine aq_ rfl ?_;exact y_ ⟨i+1,J,fun y E=>by rw[List.take_add_one,K]at E;simp only[Option.toList_some,List.mem_append,List.mem_singleton]at E;rcases E with E|rfl;exact hk.2 y E;assumption⟩ zH_ zl (@List.perm_append_comm _ [_] _) zh
      · skip
        replace d:=ed_ d;try dsimp only[Con.kind,Con.parts,Con.name,Con.lo,Con.hi,Con.cap,Con.ad]at d
        refine bE_ rfl ?_;refine as_ ?_;refine ad_ ?_;refine e_ (O_ rfl) rfl ?_;refine e_ (an_ rfl) rfl ?_;refine e_ (an_ rfl) rfl ?_;refine M_ ?_;refine al_ rfl ?_;refine hG_ ?_;have e:bO_ l=([],x.check):=by unfold bO_;rw[if_neg zr_,rw_ K hk.2 zB_,if_pos zB_]
        have E:(bO_ l).1.length≤0∧0≤maxLen∧((none:Option Addr)=none→0=0):=by rw[e];simp
        have Q:Value.tuple #[.slice none 0 0,.int .i64 x.check]=.tuple #[.slice none (bO_ l).1.length 0,.int .i64 (bO_ l).2]:=by rw[e]<;>rfl
        have O:(bO_ l).1.flatMap Pc.cells=[]:=by rw[e]<;>rfl
        exact lg_ Tryz.results31 ⟨(none,0),E⟩ rfl rfl Q (.refl _) (fun v _ h=>⟨.inl O,trivial⟩)
  · skip
    replace A:=zdt A;try dsimp only[Con.kind,Con.parts,Con.name,Con.lo,Con.hi,Con.cap,Con.ad]at A
    refine bE_ rfl ?_;refine as_ ?_;refine ad_ ?_;refine e_ (an_ rfl) rfl ?_;refine e_ (an_ rfl) rfl ?_;refine M_ ?_;refine al_ rfl ?_;refine hG_ ?_;have e:bO_ l=([],2):=by unfold bO_;rw[if_pos zr_]
    have E:(bO_ l).1.length≤0∧0≤maxLen∧((none:Option Addr)=none→0=0):=by rw[e];simp
    have Q:Value.tuple #[.slice none 0 0,.int .i64 2]=.tuple #[.slice none (bO_ l).1.length 0,.int .i64 (bO_ l).2]:=by rw[e]<;>rfl
    have O:(bO_ l).1.flatMap Pc.cells=[]:=by rw[e]<;>rfl
    exact lg_ Tryz.results31 ⟨(none,0),E⟩ rfl rfl Q (.refl _) (fun v _ h=>⟨.inl O,trivial⟩)
theorem ew_ {N:Nf} {fr:Fr} {H:Hp} {Γ:List Fct} {ty m:TypeId} {x y:Operand} {p q:Fc} (A:Fr.ev fr x=some p.val) (h:Fr.ev fr y=some q.val):Yld Tryz.prog N fr H Γ (.binOp .eql 36 x y m) ty (.bool (decide (p=q))) :=
  fun a v d _ _ _ _ _=>by
    have k:(Program.eqGuardType Tryz.prog Tryz.prog.depth 36)=false:=by kernel_rfl
    have e:=eqFc p q v.w;simp only[execOp,d.ev A,d.ev h,eqGuard,Fc.val,binOp,Op.equal,Sem.run_bind,Result.andThen_ok];simp only[run_program,Result.andThen_ok,k,Bool.not_false,if_true,Sem.run_pure];simp only[Fc.val]at e;simp[Op.maxDepth,e]
theorem gk_ {N:Nf} {fr:Fr} {H:Hp} {Γ:List Fct} {ty m:TypeId} {x y:Operand} {p q:Fc} (A:Fr.ev fr x=some p.val) (h:Fr.ev fr y=some q.val):Yld Tryz.prog N fr H Γ (.binOp .neq 36 x y m) ty (.bool (decide (p≠q))) :=
  fun a v d _ _ _ _ _=>by
    have k:(Program.eqGuardType Tryz.prog Tryz.prog.depth 36)=false:=by kernel_rfl
    have e:=eqFc p q v.w;simp only[execOp,d.ev A,d.ev h,eqGuard,Fc.val,binOp,Op.equal,Sem.run_bind,Result.andThen_ok];simp only[run_program,Result.andThen_ok,k,Bool.not_false,if_true,Sem.run_pure];simp only[Fc.val]at e;simp[Op.maxDepth,e]
theorem pC_ (s:Str) (c:UInt8):Fn0 Tryz.prog 247 #[str s,str [c]] (.int .i64 (Lib.indexByte s c)) :=
  hQ_ (callable Tryz.func247 rfl rfl) fun w=>(Tryz.strings_Index_one ⟨s.toArray⟩ c w).mono zab_
theorem ou_ (s:Str) (c:UInt8) (k:Nat) (hk:ixS c s=some k):Fn0 Tryz.prog 247 #[str s,str [c]] (.int .i64 (k:Int)):=by
  have h:=pC_ s c;rw[mK_,hk]at h;exact h
theorem vD_ (s:Str) (c:UInt8):Fn0 Tryz.prog 246 #[str s,str [c]] (.int .i64 (eb_ c s:Int)) :=
  hQ_ (callable Tryz.func246 rfl rfl) fun w=>(Tryz.strings_Count_one ⟨s.toArray⟩ c w).mono zab_
theorem ok_H {N:Nf} {d:Vw} {m:Hp} {k:Act→World→Prop} {fr:Fr} {H H':Hp} {Γ:List Fct} (e:H=H') (h:Ok N d m k fr H' Γ):Ok N d m k fr H Γ:=e▸h
theorem sC_ (s:Str) (c:UInt8) (L:s.length≤17592186044414):Tri Tryz.prog 215 #[str s,str [c],.int .i64 0,.int .i64 (-1)] [] [] (fun b:Nat=>.slice (some ⟨b,0,none⟩) (bp_ c s).length (bp_ c s).length) (fun _=>[]) (fun b=>[V_ (some ⟨b,0,none⟩) ((bp_ c s).flatMap ap_)]):=by
 have K:=tC_ c s;refine j_ Tryz.func215 rfl rfl Tryz.ntmps215 rfl fun I=>?_;refine Zi 9 (fun v=>?_) fun v=>?_
 ·refine Zi 9 (fun y=>?_) fun y=>?_
  ·refine Zi 9 (fun A=>?_) fun A=>?_
   ·exact absurd zx_ A
   refine Zz 6 ?_;refine i_ (vD_ s c) rfl (.refl _) zt rfl fun _=>Zz 8 ?_
   refine e_ (da_ Z_ rfl) rfl (Zz 1 ?_);refine e_ (aD_ (sX_ rfl rfl) (show _=Value.int .i64 ((eb_ c s+1:Nat):Int) by rw[if_neg zr_];rfl)) rfl ?_;refine Zz 6 ?_;refine up_ (n:=eb_ c s+1) (by':=16) iy_ (z:=.string ⟨#[]⟩) zk rfl rfl rfl zr_ zr_ rfl fun d=>Zz 6 ?_
   refine e_ (aD_ (bj_ rfl rfl rfl (ce_ zr_ zr_)) (show _=Value.int .i64 (eb_ c s:Int) by first|rfl|(congr 1;omega))) rfl ?_;refine Zz 10 ?_;refine bC_ [(0,str s),(1,str [c]),(2,.int .i64 0),(3,.int .i64 (eb_ c s:Int)),(9,.slice (some ⟨d,0,none⟩) (eb_ c s+1) (eb_ c s+1)),(10,.int .i64 ((0:Nat):Int))] zl ?_;refine cc_ (ι:={x:Nat×List Str×Str // x.2.1.length=x.1∧bp_ c s=x.2.1++bp_ c x.2.2∧x.1+eb_ c x.2.2=eb_ c s∧x.2.2.length≤s.length}) (fun x=>[(0,str x.1.2.2),(1,str [c]),(2,.int .i64 0),(3,.int .i64 (eb_ c s:Int)),(9,.slice (some ⟨d,0,none⟩) (eb_ c s+1) (eb_ c s+1)),(10,.int .i64 (x.1.1:Int))]) (fun x=>[(d,.cells (x.1.2.1.map str++List.replicate (eb_ c s+1 - x.1.1) (Value.string ⟨#[]⟩)).toArray 9 (0,0))]) (fun _=>_) (fun x=>eb_ c s - x.1.1) ⟨(0,[],s),rfl,rfl,by simp,by simp⟩ ?_;rintro ⟨⟨i,dn,r⟩,hk⟩;dsimp only at hk;obtain⟨e,m,G,E⟩:=hk;refine bC_ [(0,str r),(1,str [c]),(2,.int .i64 0),(3,.int .i64 (eb_ c s:Int)),(9,.slice (some ⟨d,0,none⟩) (eb_ c s+1) (eb_ c s+1)),(10,.int .i64 (i:Int))] zl ?_;have B:∀ k,k<eb_ c s+1→List.replicate (eb_ c s+1 - k) (Value.string ⟨#[]⟩)=Value.string ⟨#[]⟩::List.replicate (eb_ c s - k) (Value.string ⟨#[]⟩):=fun k hk=>by rw[show eb_ c s+1 - k=(eb_ c s - k)+1 by omega];rfl
   refine ok_H (H':=[(d,.cells (dn.map str++Value.string ⟨#[]⟩::List.replicate (eb_ c s - i) (Value.string ⟨#[]⟩)).toArray 9 (0,0))]) (by dsimp only;rw[B i zr_]) ?_;refine Zi 5 (fun C=>?_) fun C=>?_
   ·obtain rfl:i=eb_ c s:=by omega
    have h : bp_ c r = [r] := by
                  cases hx:ixS c r with
                  | none=>exact gN_ hx
                  | some k=>have:=pp_ hx;omega
    rw[h]at m;refine Zz 10 ?_;refine e_ (fv_ m_ H_ rfl rfl zr_ zr_) rfl (nD_ 0 H_ rfl rfl rfl (by simp[e]) rfl rfl (Zz 6 ?_));refine e_ (aD_ (bj_ rfl rfl rfl (ce_ zr_ zr_)) (show _=Value.int .i64 ((eb_ c s+1:Nat):Int) by first|rfl|(congr 1;omega))) rfl ?_;refine e_ (aD_ (dm_ (i:=0) (j:=eb_ c s+1) (kl:=.i64) (kh:=.i64) m_ H_ rfl rfl rfl zr_ zr_) (show _=Value.slice (some ⟨d,0,none⟩) (eb_ c s+1) (eb_ c s+1) by rw[qE_];rfl)) rfl ?_;refine Zz 4 ?_;refine bu_ ((bp_ c s).flatMap ap_) d_ (by rw[m,nj_];simp) ?_;have hl:=fy_ c s;exact af_ Tryz.results215 d (gh_ rfl (by rw[hl])) (.refl _) zf
   obtain ⟨k, q⟩ : ∃ k, ixS c r = some k := by
                 cases hx:ixS c r with
                 | none=>have:=uJ_ hx;omega
                 | some k=>exact⟨k,rfl⟩
   have J:=pp_ q;have H:=sw_ q;refine Zz 10 ?_;refine i_ (ou_ r c k q) rfl (.refl _) zt rfl fun _=>Zi 7 (fun h=>?_) fun h=>?_
   ·refine Zz 12 ?_
    refine e_ (aD_ (bj_ rfl rfl rfl (ce_ zr_ zr_)) (show _=Value.int .i64 (k:Int) by first|rfl|(congr 1;omega))) rfl ?_;refine e_ (aD_ (fr_ (i:=0) (j:=k) (kl:=.i64) (kh:=.i64) Z_ rfl rfl rfl zr_ zr_) (show _=str (r.take k) by simp)) rfl (e_ (fv_ m_ H_ rfl rfl zr_ zr_) rfl (nD_ 0 H_ rfl rfl rfl (by simp[e]) rfl rfl (Zz 7 ?_)));refine e_ (da_ Z_ rfl) rfl (e_ (aD_ (bj_ rfl rfl rfl (ce_ zT_ zT_)) (show _=Value.int .i64 ((k+1:Nat):Int) by first|rfl|(congr 1;omega))) rfl ?_);refine e_ (aD_ (fr_ (i:=k+1) (j:=r.length) (kl:=.i64) (kh:=.i64) Z_ rfl rfl rfl zr_ zr_) (show _=str (r.drop (k+1)) by rw[List.take_of_length_le zC_])) rfl (Zz 5 ?_);refine e_ (aD_ (bj_ rfl rfl rfl (ce_ zr_ zr_)) (show _=Value.int .i64 ((i+1:Nat):Int) by first|rfl|(congr 1;omega))) rfl ?_;refine Zz 3 ?_;exact y_ ⟨(i+1,dn++[r.take k],r.drop (k+1)),by simp[e],by rw[m,iD_ q,List.append_assoc];rfl,by dsimp only;omega,by simp;omega⟩ zu_ zl (F:=[]) (List.Perm.of_eq (by simp[show eb_ c s+1 - (i+1)=eb_ c s - i by omega])) zh
   exfalso;omega
  cases y
 exact absurd v zx_
theorem xC_ (s:Str) (c:UInt8) (d:s.length≤17592186044414):Tri Tryz.prog 192 #[str s,str [c]] [] [] (fun b:Nat=>.slice (some ⟨b,0,none⟩) (bp_ c s).length (bp_ c s).length) (fun _=>[]) (fun b=>[V_ (some ⟨b,0,none⟩) ((bp_ c s).flatMap ap_)]):=by
  refine j_ Tryz.func192 rfl rfl Tryz.ntmps192 rfl fun e=>?_;refine Zz 9 ?_;refine i_ (sC_ s c d) rfl (.refl _) zt rfl fun b=>Zz 4 ?_
  exact af_ Tryz.results192 b rfl (.refl _) zf
theorem pS_ {g:FuncId} {pred:Str→Bool} (d:List Str) (ad:Option Addr) (cap:Nat) (A:d.length≤17592186044415) (C:∀ x∈d,Fn0 Tryz.prog g #[str x] (.bool (pred x))) :
    Tri Tryz.prog 216 #[.slice ad (List.length d) cap,.func (.func g) #[] #[]] [] [V_ ad (List.flatMap ap_ d)] (fun r:{r:Int // decide (0≤r)=d.any pred}=>.int .i64 r.1) (fun _=>[]) (fun _=>[]):=by
  refine j_ Tryz.func216 rfl rfl Tryz.ntmps216 rfl fun E=>?_;refine Zz 14 ?_;refine bC_ [(0,.slice ad (List.length d) cap),(1,.func (.func g) #[] #[]),(7,.int .i64 (List.length d:Int)),(8,.int .i64 ((0:Nat):Int))] zl ?_;refine cc_ (ι:={q:Nat // q≤d.length∧(d.take q).any pred=false}) (fun i=>[(0,.slice ad (List.length d) cap),(1,.func (.func g) #[] #[]),(7,.int .i64 (List.length d:Int)),(8,.int .i64 (i.1:Int))]) (fun _=>_) (fun _=>_) (fun i=>d.length - i.1) ⟨0,by simp⟩ ?_;rintro ⟨i,hk⟩;refine bC_ [(0,.slice ad (List.length d) cap),(1,.func (.func g) #[] #[]),(7,.int .i64 (List.length d:Int)),(8,.int .i64 (i:Int))] zl ?_;refine Zi 2 (fun m=>?_) fun m=>?_
  · skip
    refine Zz 12 ?_;exact af_ Tryz.results216 ⟨-1,by have:=hk.2;rw[List.take_of_length_le zr_]at this;show _=d.any pred;rw[this];rfl⟩ rfl (.refl _) zt
  · skip
    obtain⟨h,v,k,e⟩:=zge (show i<List.length d by omega);refine Zz 21 ?_;refine bS_ (C v e) rfl rfl l_ zt rfl fun y B=>Zz 2 ?_
    cases y
    · skip
      refine Zz 8 ?_;exact y_ ⟨i+1,h,by rw[List.take_add_one,k];simp only[Option.toList_some,List.any_append,hk.2];simp[*]⟩ zH_ zl (.refl _) zh
    · skip
      refine Zz 8 ?_;exact af_ Tryz.results216 ⟨(i:Int),by show _=d.any pred;rw[show d.any pred=true from List.any_eq_true.2 ⟨v,e,by assumption⟩];exact decide_eq_true zr_⟩ rfl (.refl _) zt
theorem mC_ {g:FuncId} {pred:Str→Bool} (d:List Str) (ad:Option Addr) (cap:Nat) (e:d.length≤17592186044415) (k:∀ x∈d,Fn0 Tryz.prog g #[str x] (.bool (pred x))) :
    Tri Tryz.prog 193 #[.slice ad (List.length d) cap,.func (.func g) #[] #[]] [] [V_ ad (List.flatMap ap_ d)] (fun _:Unit=>.bool (d.any pred)) (fun _=>[]) (fun _=>[]):=by
  refine j_ Tryz.func193 rfl rfl Tryz.ntmps193 rfl fun m=>?_;refine Zz 9 ?_;refine i_ (pS_ d ad cap e k) rfl l_ zf rfl fun x=>C_ (fa_ rfl rfl) rfl fun q h=>Zz 4 ?_
  exact af_ Tryz.results193 () (o_ rfl (h.symm.trans x.2)) (.refl _) zt
theorem uz_ (s:Str) (e:s.length≤140737488351232):Fn0 Tryz.prog 194 #[str s] (.bool (!ba_ s)):=by
  refine j_ Tryz.func194 rfl rfl Tryz.ntmps194 rfl fun h=>?_;refine Zz 8 ?_;refine T_ (gC_ s e) rfl l_ zt rfl fun k d=>e_ (aJ_ rfl) rfl (Zz 4 ?_)
  exact af_ Tryz.results194 () (o_ rfl (by simp[*])) (.refl _) zt
theorem hF_ {c:UInt8}:∀ {s x:Str},x∈bp_ c s→x.length≤s.length
 | [],x,h=>by simp[bp_]at h;simp[h]
 | b::s,x,h=>by
   simp only[bp_]at h
   split at h
   · rcases List.mem_cons.1 h with rfl|h
     · simp
     · have:=hF_ h;simp only[List.length_cons];omega
   · cases hs:bp_ c s with
     | nil=>exact absurd hs (la_ c s)
     | cons y t =>
       rw[hs]at h;rcases List.mem_cons.1 h with rfl|h
       · have:=hF_ (c:=c) (s:=s) (x:=y) (by rw[hs];simp);simp only[List.length_cons];omega
       · have:=hF_ (c:=c) (s:=s) (x:=x) (by rw[hs];simp[h]);simp only[List.length_cons];omega
theorem lB_ {G:Prop} (h:G:=by
 exact af_ Tryz.results158 () (o_ rfl (by unfold cS_;subst_vars;rw[Bool.eq_iff_iff];simp_all<;>omega)) (.refl _) zt):G:=h
theorem iO_ (s:Str) (q:s.length≤17592186044414):Fn0 Tryz.prog 158 #[str s] (.bool (cS_ s)):=by
 refine j_ Tryz.func158 rfl rfl Tryz.ntmps158 rfl fun v=>?_;have h:=fy_ 46 s;have m:=tC_ 46 s;refine Zz 8 ?_;refine i_ (xC_ s 46 q) rfl l_ zt rfl fun b=>Zi 7 (fun d=>?_) fun d=>?_
 ·refine Zz 9 ?_
  exact lB_
 refine Zz 4 ?_;refine T_ (mC_ (pred:=fun r=>!ba_ r) (bp_ 46 s) _ _ zr_ (fun x y=>uz_ x (by have:=hF_ y;omega))) rfl l_ zf rfl fun k e=>?_;refine aQ_ rfl rfl (e_ (aJ_ rfl) rfl (Zz 5 ?_));exact lB_
theorem ly_ {G:Prop} (h:G:=by
 refine T_ (gC_ _ zan_) rfl l_ zt rfl fun k v=>?_;exact fN_):G:=h
theorem lz_ {G:Prop} (h:G:=by
 refine T_ (gC_ _ zan_) rfl l_ zt rfl fun k h=>?_;exact fN_):G:=h
theorem lA_ {G:Prop} (h:G:=by
 refine T_ (gC_ _ zan_) rfl l_ zt rfl fun k d=>?_;exact fN_):G:=h
theorem fN_ {G:Prop} (h:G:=by
 refine Zz 4 ?_;exact fO_):G:=h
theorem fO_ {G:Prop} (h:G:=by
 exact af_ Tryz.results160 () (o_ rfl (by unfold bv_;(repeat (any_goals split))<;>first|rfl|(simp_all;done)|(exfalso;simp_all;omega)|(exfalso;simp_all;done))) (.refl _) zt):G:=h
theorem hl_ (s:Str) (y:s.length≤140737488351232):Fn0 Tryz.prog 160 #[str s] (.bool (bv_ s)):=by
 refine j_ Tryz.func160 rfl rfl Tryz.ntmps160 rfl fun L=>?_;refine Zz 8 ?_;refine e_ (da_ Z_ rfl) rfl (Zi 8 (fun B=>?_) fun B=>?_)
 ·refine Zi 4 (fun E=>?_) fun E=>?_
  ·refine Zi 8 (fun F=>?_) fun F=>?_
   ·refine Zi 19 (fun x=>?_) fun x=>?_
    ·refine Zz 21 ?_
     refine T_ (gC_ _ zan_) rfl l_ zt rfl fun k m=>?_;exact fN_
    exfalso;omega
   obtain⟨c,C⟩:∃ c,s[0]? = some c:=⟨_,List.getElem?_eq_getElem zr_⟩;obtain⟨e,A⟩:∃ e,s[s.length - 1]? = some e:=⟨_,List.getElem?_eq_getElem zr_⟩
   have H:(s[0]? = some 123)↔((c.toNat:Int)=123):=by
     rw[C];simp only[Option.some.injEq];exact⟨fun q=>by subst q;rfl,fun q=>UInt8.toNat_inj.1 (by show c.toNat=123;omega)⟩
   have G:(s[s.length - 1]? = some 125)↔((e.toNat:Int)=125):=by
     rw[A];simp only[Option.some.injEq];exact⟨fun q=>by subst q;rfl,fun q=>UInt8.toNat_inj.1 (by show e.toNat=125;omega)⟩
   have J:(s[0]? = some 60)↔((c.toNat:Int)=60):=by
     rw[C];simp only[Option.some.injEq];exact⟨fun q=>by subst q;rfl,fun q=>UInt8.toNat_inj.1 (by show c.toNat=60;omega)⟩
   have K:(s[s.length - 1]? = some 62)↔((e.toNat:Int)=62):=by
     rw[A];simp only[Option.some.injEq];exact⟨fun q=>by subst q;rfl,fun q=>UInt8.toNat_inj.1 (by show e.toNat=62;omega)⟩
   refine Zz 4 ?_;refine e_ (el_ Z_ rfl rfl zx_ C) rfl (aQ_ rfl rfl ?_);refine Zi 0 (fun x=>?_) fun x=>?_
   ·refine Zi 15 (fun m=>?_) fun m=>?_
    ·refine Zz 21 ?_
     exact lA_
    refine Zz 4 ?_;refine e_ (el_ Z_ rfl rfl zx_ C) rfl (aQ_ rfl rfl ?_);refine Zi 0 (fun d=>?_) fun d=>?_
    ·refine Zz 17 ?_
     exact lz_
    refine Zz 9 ?_;refine e_ (el_ Z_ rfl rfl zr_ (show s[((s.length:Int) - 1).toNat]? = some e by rw[show ((s.length:Int) - 1).toNat=s.length - 1 by omega];exact A)) rfl ?_;refine aQ_ rfl rfl ?_;refine Zi 0 (fun h=>?_) fun h=>?_
    ·refine Zz 10 ?_
     exact ly_
    refine Zz 11 ?_;exact fO_
   refine Zz 9 ?_;refine e_ (el_ Z_ rfl rfl zr_ (show s[((s.length:Int) - 1).toNat]? = some e by rw[show ((s.length:Int) - 1).toNat=s.length - 1 by omega];exact A)) rfl ?_;refine aQ_ rfl rfl ?_;refine Zi 0 (fun m=>?_) fun m=>?_
   ·refine Zi 8 (fun d=>?_) fun d=>?_
    ·refine Zz 21 ?_
     exact lz_
    refine Zz 4 ?_;refine e_ (el_ Z_ rfl rfl zx_ C) rfl (aQ_ rfl rfl ?_);refine Zi 0 (fun h=>?_) fun h=>?_
    ·refine Zz 17 ?_
     exact ly_
    refine Zz 9 ?_;refine e_ (el_ Z_ rfl rfl zr_ (show s[((s.length:Int) - 1).toNat]? = some e by rw[show ((s.length:Int) - 1).toNat=s.length - 1 by omega];exact A)) rfl ?_;refine aQ_ rfl rfl ?_;refine Zi 0 (fun v=>?_) fun v=>?_
    ·refine Zz 10 ?_
     refine T_ (gC_ _ zan_) rfl l_ zt rfl fun k I=>?_;exact fN_
    refine Zz 11 ?_;exact fO_
   refine Zz 10 ?_;refine e_ (fr_ (i:=1) (j:=s.length - 1) (kl:=.i64) (kh:=.i64) Z_ rfl rfl (show _=some (Value.int .i64 ((s.length - 1:Nat):Int)) by rw[show ((s.length - 1:Nat):Int)=(s.length:Int) - 1 by omega];rfl) zr_ zr_) rfl ?_;exact lA_
  refine Zz 11 ?_;exact fO_
 refine Zz 14 ?_;exact fO_
theorem im_ {G:Prop} (h:G:=by
 exact af_ Tryz.results157 () (o_ rfl (by unfold cq_;subst_vars;rw[Bool.eq_iff_iff];simp_all)) (.refl _) zt):G:=h
theorem eL_ {g:FuncId} (d:Bool) (s:Str) (q:Str→Bool) (m:Fn0 Tryz.prog g #[str s] (.bool (q s))):Fn0 Tryz.prog 157 #[.bool d,str s,.func (.func g) #[] #[]] (.bool (cq_ d s q)):=by
 refine j_ Tryz.func157 rfl rfl Tryz.ntmps157 rfl fun k=>?_;refine Zz 9 ?_;cases d
 ·refine Zz 8 ?_
  refine e_ (aJ_ rfl) rfl (Zz 5 ?_);refine C_ (dn_ rfl rfl) rfl fun h e=>Zz 7 ?_
  exact im_
 refine Zz 5 ?_;refine bS_ (m) rfl rfl l_ zt rfl fun h e=>Zz 2 ?_
 cases h
 ·refine Zz 3 ?_
  refine e_ (aJ_ rfl) rfl (Zz 11 ?_);exact im_
 refine Zz 11 ?_;exact im_
theorem ik_ {G:Prop} (h:G:=by
 exact met ⟨rfl,rfl,rfl,rfl,rfl,(o_ rfl (jot d)),trivial⟩):G:=h
theorem il_ {G:Prop} (h:G:=by
 refine Zz 6 ?_;exact met ⟨rfl,rfl,(o_ rfl (jot d)),trivial⟩):G:=h
theorem gF_ {G:Prop} (h:G:=by
 exact met ⟨rfl,rfl,rfl,rfl,(o_ rfl (jaf d)),trivial⟩):G:=h
theorem lx_ {G:Prop} (h:G:=by
 refine Zz 7 ?_;exact af_ Tryz.results113 () (o_ rfl (by unfold Pc.valid;rw[if_neg zr_];simp only[T];first|(rw[if_pos (by first|(simp;omega)|omega)])|(rw[if_neg zC_,if_pos zH_]))) (.refl _) zt):G:=h
theorem gG_ {G:Prop} (h:G:=by
 refine Zz 9 ?_;exact met ⟨rfl,rfl,rfl,rfl,rfl,(o_ rfl (jaf d)),trivial⟩):G:=h
theorem uy_ (p:Pc) (hp:p.sm):Tri Tryz.prog 113 #[Pc.val p] [] [eX_] (fun _:Unit=>.bool p.valid) (fun _=>[]) (fun _=>[]):=by
 refine j_ Tryz.func113 rfl rfl Tryz.ntmps113 rfl fun v_1=>?_;obtain⟨ha,hb,hc,hr,hs,ht⟩:=hp;refine Zz 2 ?_;refine aa_ rfl rfl fun A=>Zz 8 ?_
 refine C_ (cv_ rfl rfl) rfl fun a1 G=>Zz 1 ?_
 refine at_ 4 ((decide (p.kind<1))||(decide (9<p.kind))) (fun r=>[(1,zp_ A 0),(2,.bool false),(13,.bool r)]) ?_ fun a2 K=>?_
 ·cases a1
  ·have d:=G
   replace G:=zdf G;refine Zz 5 ?_;refine C_ (dx_ rfl rfl) rfl fun Z H=>Zz 3 ?_
   exact met (zm (jof d H))
  have d:=G;replace G:=zdt G;exact il_
 refine Zz 1 ?_;refine at_ 4 ((((decide (p.kind<1))||(decide (9<p.kind))))||(decide (p.frm<(-1)))) (fun r=>[(1,zp_ A 0),(2,.bool false),(18,.bool r)]) ?_ fun Z H=>?_
 ·cases a2
  ·have d:=K
   simp at K
   refine Zz 5 ?_;refine C_ (cv_ rfl rfl) rfl fun a0 L=>Zz 3 ?_
   exact met (zm (jof d L))
  have d:=K;simp at K
  exact il_
 refine Zz 1 ?_;refine at_ 4 ((((((decide (p.kind<1))||(decide (9<p.kind))))||(decide (p.frm<(-1)))))||(decide (1024≤p.frm))) (fun r=>[(1,zp_ A 0),(2,.bool false),(23,.bool r)]) ?_ fun a0 L=>?_
 ·cases Z
  ·have d:=H
   simp at H
   refine Zz 5 ?_;refine C_ (fa_ rfl rfl) rfl fun Q m=>Zz 3 ?_
   exact met (zm (jof d m))
  have d:=H;simp at H
  exact il_
 refine Zz 2 ?_;cases a0
 ·simp at L
  obtain⟨u,hx⟩:∃ u,gQ_[p.kind.toNat]? = some u:=⟨_,List.getElem?_eq_getElem (show p.kind.toNat<10 by omega)⟩;have T:nus p.kind=u:=by simp[nus,hx]
  obtain⟨N,ub,P,S,us,Y,un⟩:=u;refine Zz 7 ?_;refine e_ (em_ Tryz.runUnderlying205 Tryz.sizeOf204 rfl rfl (by show (0:Int)≤p.kind;omega) (by show p.kind<(10:Int);omega)) rfl ?_;refine e_ (au_ (ad:=some ⟨2,0,none⟩) (us:=NUse.cells ⟨N,ub,P,S,us,Y,un⟩) Tryz.isAgg204 Tryz.sizeOf204 rfl (fun v _ h=>h.1) (NUse.cells_len _) (p_ NUse.cells_len hx)) rfl (D_ Tryz.zeroValue204 rfl fun F=>x_ 0 Tryz.sizeOf204 rfl rfl rfl rfl rfl rfl (Zz 19 ?_));cases un
  ·refine Zz 5 ?_
   refine C_ (cf_ rfl rfl) rfl fun Q m=>Zz 1 ?_
   refine at_ 4 ((p.lo != 0)||(p.hi != 0)) (fun r=>[(1,zp_ A 0),(2,.bool false),(3,zp_ F 0),(4,.func (.func 157) #[] #[]),(5,.func (.func 158) #[] #[]),(52,.bool r)]) ?_ fun X E=>?_
   ·cases Q
    ·have d:=m
     replace m:=ee_ m;refine Zz 5 ?_;refine C_ (cf_ rfl rfl) rfl fun O B=>Zz 3 ?_
     exact met (zm (jof d B))
    have d:=m;replace m:=ed_ m;refine Zz 6 ?_;exact ik_
   refine Zz 2 ?_;cases X
   ·simp at E
    refine Zz 10 ?_;refine bS_ (eL_ N p.a bv_ (hl_ _ zr_)) rfl rfl l_ zt rfl fun O B=>Zz 1 ?_
    refine at_ 7 ((cq_ N p.a bv_)&&(cq_ ub p.b bv_)) (fun r=>[(1,zp_ A 0),(2,.bool false),(3,zp_ F 0),(4,.func (.func 157) #[] #[]),(5,.func (.func 158) #[] #[]),(66,.bool r)]) ?_ fun U y=>?_
    ·cases O
     ·have d:=B
      exact gG_
     have d:=B;refine Zz 11 ?_;refine bS_ (eL_ ub p.b bv_ (hl_ _ zr_)) rfl rfl l_ zt rfl fun R x=>Zz 3 ?_
     exact met ⟨rfl,rfl,rfl,rfl,rfl,(o_ rfl (jat d x)),trivial⟩
    refine Zz 1 ?_;refine at_ 7 ((((cq_ N p.a bv_)&&(cq_ ub p.b bv_)))&&(cq_ P p.c bv_)) (fun r=>[(1,zp_ A 0),(2,.bool false),(3,zp_ F 0),(4,.func (.func 157) #[] #[]),(5,.func (.func 158) #[] #[]),(74,.bool r)]) ?_ fun R x=>?_
    ·cases U
     ·have d:=y
      simp at y
      exact gG_
     have d:=y;simp at y
     refine Zz 11 ?_;refine bS_ (eL_ P p.c bv_ (hl_ _ zr_)) rfl rfl l_ zt rfl fun I e=>Zz 3 ?_
     exact met ⟨rfl,rfl,rfl,rfl,rfl,(o_ rfl (jat d e)),trivial⟩
    refine Zz 1 ?_;refine at_ 8 ((((((cq_ N p.a bv_)&&(cq_ ub p.b bv_)))&&(cq_ P p.c bv_)))&&(cq_ S p.r cS_)) (fun r=>[(1,zp_ A 0),(2,.bool false),(3,zp_ F 0),(4,.func (.func 157) #[] #[]),(83,.bool r)]) ?_ fun I e=>?_
    ·cases R
     ·have d:=x
      simp at x
      refine Zz 10 ?_;exact gF_
     have d:=x;simp at x
     refine Zz 13 ?_;refine bS_ (eL_ S p.r cS_ (iO_ _ zr_)) rfl rfl l_ zt rfl fun J k=>Zz 3 ?_
     exact met ⟨rfl,rfl,rfl,rfl,(o_ rfl (jat d k)),trivial⟩
    refine Zz 1 ?_;refine at_ 7 ((((((((cq_ N p.a bv_)&&(cq_ ub p.b bv_)))&&(cq_ P p.c bv_)))&&(cq_ S p.r cS_)))&&(cq_ us p.s cS_)) (fun r=>[(1,zp_ A 0),(2,.bool false),(3,zp_ F 0),(4,.func (.func 157) #[] #[]),(91,.bool r)]) ?_ fun J k=>?_
    ·cases I
     ·have d:=e
      simp at e
      refine Zz 9 ?_;exact gF_
     have d:=e;simp at e
     refine Zz 11 ?_;refine bS_ (eL_ us p.s cS_ (iO_ _ zr_)) rfl rfl l_ zt rfl fun M q=>Zz 3 ?_
     exact met ⟨rfl,rfl,rfl,rfl,(o_ rfl (jat d q)),trivial⟩
    refine Zz 1 ?_;refine at_ 7 ((((((((((cq_ N p.a bv_)&&(cq_ ub p.b bv_)))&&(cq_ P p.c bv_)))&&(cq_ S p.r cS_)))&&(cq_ us p.s cS_)))&&(cq_ Y p.t cS_)) (fun r=>[(2,.bool false),(99,.bool r)]) ?_ fun M q=>?_
    ·cases J
     ·have d:=k
      simp at k
      refine Zz 9 ?_;exact met ⟨rfl,(o_ rfl (jaf d)),trivial⟩
     have d:=k;simp at k
     refine Zz 11 ?_;refine bS_ (eL_ Y p.t cS_ (iO_ _ zr_)) rfl rfl l_ zt rfl fun V C=>Zz 3 ?_
     exact met ⟨rfl,(o_ rfl (jat d C)),trivial⟩
    refine Zz 4 ?_;exact af_ Tryz.results113 () (o_ rfl (by unfold Pc.valid;rw[if_neg zr_];simp only[T];rw[if_neg (by simp<;>omega),if_neg (by simp<;>omega)];exact q.symm)) (.refl _) zt
   simp at E
   exact lx_
  refine Zz 10 ?_;refine C_ (cv_ rfl rfl) rfl fun Q m=>Zz 1 ?_
  refine at_ 6 ((decide (p.lo<(-1099511627776)))||(decide (p.hi<p.lo))) (fun r=>[(1,zp_ A 0),(2,.bool false),(3,zp_ F 0),(4,.func (.func 157) #[] #[]),(5,.func (.func 159) #[] #[]),(39,.bool r)]) ?_ fun X E=>?_
  ·cases Q
   ·have d:=m
    replace m:=zdf m;refine Zz 9 ?_;refine C_ (dx_ rfl rfl) rfl fun O B=>Zz 3 ?_
    exact met (zm (jof d B))
   have d:=m;replace m:=zdt m;refine Zz 8 ?_;exact ik_
  refine Zz 1 ?_;refine at_ 4 ((((decide (p.lo<(-1099511627776)))||(decide (p.hi<p.lo))))||(decide (1099511627776<p.hi))) (fun r=>[(1,zp_ A 0),(2,.bool false),(3,zp_ F 0),(4,.func (.func 157) #[] #[]),(5,.func (.func 159) #[] #[]),(44,.bool r)]) ?_ fun O B=>?_
  ·cases X
   ·have d:=E
    simp at E
    refine Zz 5 ?_;refine C_ (dx_ rfl rfl) rfl fun U y=>Zz 3 ?_
    exact met (zm (jof d y))
   have d:=E;simp at E
   refine Zz 6 ?_;exact ik_
  refine Zz 2 ?_;cases O
  ·simp at B
   refine Zz 10 ?_;refine bS_ (eL_ N p.a bv_ (hl_ _ zr_)) rfl rfl l_ zt rfl fun U y=>Zz 1 ?_
   refine at_ 7 ((cq_ N p.a bv_)&&(cq_ ub p.b bv_)) (fun r=>[(1,zp_ A 0),(2,.bool false),(3,zp_ F 0),(4,.func (.func 157) #[] #[]),(5,.func (.func 159) #[] #[]),(66,.bool r)]) ?_ fun R x=>?_
   ·cases U
    ·have d:=y
     exact gG_
    have d:=y;refine Zz 11 ?_;refine bS_ (eL_ ub p.b bv_ (hl_ _ zr_)) rfl rfl l_ zt rfl fun I e=>Zz 3 ?_
    exact met ⟨rfl,rfl,rfl,rfl,rfl,(o_ rfl (jat d e)),trivial⟩
   refine Zz 1 ?_;refine at_ 7 ((((cq_ N p.a bv_)&&(cq_ ub p.b bv_)))&&(cq_ P p.c bv_)) (fun r=>[(1,zp_ A 0),(2,.bool false),(3,zp_ F 0),(4,.func (.func 157) #[] #[]),(5,.func (.func 159) #[] #[]),(74,.bool r)]) ?_ fun I e=>?_
   ·cases R
    ·have d:=x
     simp at x
     exact gG_
    have d:=x;simp at x
    refine Zz 11 ?_;refine bS_ (eL_ P p.c bv_ (hl_ _ zr_)) rfl rfl l_ zt rfl fun J k=>Zz 3 ?_
    exact met ⟨rfl,rfl,rfl,rfl,rfl,(o_ rfl (jat d k)),trivial⟩
   refine Zz 1 ?_;refine at_ 8 ((((((cq_ N p.a bv_)&&(cq_ ub p.b bv_)))&&(cq_ P p.c bv_)))&&(cq_ S p.r ba_)) (fun r=>[(1,zp_ A 0),(2,.bool false),(3,zp_ F 0),(4,.func (.func 157) #[] #[]),(83,.bool r)]) ?_ fun J k=>?_
   ·cases I
    ·have d:=e
     simp at e
     refine Zz 10 ?_;exact gF_
    have d:=e;simp at e
    refine Zz 13 ?_;refine bS_ (eL_ S p.r ba_ (gC_ _ zr_)) rfl rfl l_ zt rfl fun M q=>Zz 3 ?_
    exact met ⟨rfl,rfl,rfl,rfl,(o_ rfl (jat d q)),trivial⟩
   refine Zz 1 ?_;refine at_ 7 ((((((((cq_ N p.a bv_)&&(cq_ ub p.b bv_)))&&(cq_ P p.c bv_)))&&(cq_ S p.r ba_)))&&(cq_ us p.s cS_)) (fun r=>[(1,zp_ A 0),(2,.bool false),(3,zp_ F 0),(4,.func (.func 157) #[] #[]),(91,.bool r)]) ?_ fun M q=>?_
   ·cases J
    ·have d:=k
     simp at k
     refine Zz 9 ?_;exact gF_
    have d:=k;simp at k
    refine Zz 11 ?_;refine bS_ (eL_ us p.s cS_ (iO_ _ zr_)) rfl rfl l_ zt rfl fun V C=>Zz 3 ?_
    exact met ⟨rfl,rfl,rfl,rfl,(o_ rfl (jat d C)),trivial⟩
   refine Zz 1 ?_;refine at_ 7 ((((((((((cq_ N p.a bv_)&&(cq_ ub p.b bv_)))&&(cq_ P p.c bv_)))&&(cq_ S p.r ba_)))&&(cq_ us p.s cS_)))&&(cq_ Y p.t cS_)) (fun r=>[(2,.bool false),(99,.bool r)]) ?_ fun V C=>?_
   ·cases M
    ·have d:=q
     simp at q
     refine Zz 9 ?_;exact met ⟨rfl,(o_ rfl (jaf d)),trivial⟩
    have d:=q;simp at q
    refine Zz 11 ?_;refine bS_ (eL_ Y p.t cS_ (iO_ _ zr_)) rfl rfl l_ zt rfl fun r_14 W=>Zz 3 ?_
    exact met ⟨rfl,(o_ rfl (jat d W)),trivial⟩
   refine Zz 4 ?_;exact af_ Tryz.results113 () (o_ rfl (by unfold Pc.valid;rw[if_neg zr_];simp only[T];rw[if_neg (by simp<;>omega),if_neg (by simp<;>omega)];exact C.symm)) (.refl _) zt
  simp at B
  exact lx_
 simp at L
 refine Zz 7 ?_;exact af_ Tryz.results113 () (o_ rfl (by unfold Pc.valid;rw[if_pos zr_])) (.refl _) zt
theorem yI_ (l:List Pc) (ad:Option Addr) (cap:Nat) (hl:l.length≤17592186044414) (y:∀ p∈l,p.sm):Tri Tryz.prog 71 #[.slice ad (List.length l) cap] [] [V_ ad (List.flatMap Pc.cells l),eX_] (fun _:Unit=>.int .i64 (cE_ l)) (fun _=>[]) (fun _=>[]):=by
 refine j_ Tryz.func71 rfl rfl Tryz.ntmps71 rfl fun B=>?_;refine Zi 10 (fun m=>?_) fun m=>?_
 ·refine Zz 14 ?_
  refine bC_ [(8,.slice ad (List.length l) cap),(9,.int .i64 (List.length l:Int)),(10,.int .i64 ((0:Nat):Int))] zl ?_;refine cc_ (ι:={q:Nat // q≤l.length∧(l.take q).all Pc.valid=true}) (fun i=>[(8,.slice ad (List.length l) cap),(9,.int .i64 (List.length l:Int)),(10,.int .i64 (i.1:Int))]) (fun _=>_) (fun _=>_) (fun i=>l.length - i.1) ⟨0,by simp⟩ ?_;rintro ⟨i,hk⟩;refine bC_ [(8,.slice ad (List.length l) cap),(9,.int .i64 (List.length l:Int)),(10,.int .i64 (i:Int))] zl ?_;refine Zi 2 (fun v=>?_) fun v=>?_
  ·refine Zz 12 ?_
   exact af_ Tryz.results71 () (cl_ rfl (by unfold cE_;rw[if_neg zr_,if_pos (by have:=hk.2;rwa [List.take_of_length_le zr_]at this)])) (.refl _) zt
  obtain⟨e,h,k,d⟩:=zge (show i<List.length l by omega);refine Zz 12 ?_;refine D_ W_ rfl fun C=>x_ 0 J_ rfl rfl rfl rfl rfl rfl (Zz 5 ?_)
  refine T_ (uy_ h (y h d)) rfl l_ zf rfl fun x A=>e_ (aJ_ rfl) rfl (Zz 2 ?_)
  cases x
  ·refine Zz 7 ?_
   exact af_ Tryz.results71 () (cl_ rfl (by unfold cE_;rw[if_neg zr_,if_neg (by rw[show l.all Pc.valid=false from List.all_eq_false.2 ⟨h,d,by simp[*]⟩];simp)])) (.refl _) zt
  refine Zz 8 ?_;exact y_ ⟨i+1,e,by rw[List.take_add_one,k];simp only[Option.toList_some,List.all_append,hk.2];simp[*]⟩ zH_ zl (@List.perm_append_comm _ [_] _) zh
 refine Zz 9 ?_;exact af_ Tryz.results71 () (cl_ rfl (by unfold cE_;rw[if_pos zr_])) (.refl _) zt
end Go.Proofs.YtpbnmnfdgckaiaaGreatDoor
namespace Go.Vs
open Go Go.Sx
def vw (W:World):Vw:=⟨fun b=>b<W.heap.size,W,True⟩
theorem vw_sat (W:World):(vw W).sat []:=⟨(fun _ h=>by cases h),zC_,fun _ h=>h⟩
section
variable {H:Type} {enc:TypeId×Value→H} {P:Program} {W:World}
abbrev wok (l:List Nat):Prop:=l.all (·≤reachBytes)=true
theorem gq_ {a b:List Nat}:wok (a++b)↔wok a∧wok b:=by simp[wok,List.all_append]
theorem vc_ {n:Nat} {b:List Nat}:wok (n::b)↔n≤reachBytes∧wok b:=by simp[wok]
theorem vd_ {e:TypeId}:∀ {ds:List (DataW H)},wok (DataW.weightsAll P e ds)→∀ d∈ds,wok (d.weights P e)
 | [],_,_,h=>by cases h
 | x::ds,hw,d,k=>by
   rw[DataW.weightsAll,gq_]at hw;rcases List.mem_cons.1 k with rfl|k
   · exact hw.1
   · exact vd_ hw.2 d k
theorem pD_ {α:Type} [Inhabited α] (f:α→List Value) (k:Nat) (hk:∀ x,(f x).length=k) (B:0<k) (Q:α→Prop) {O G:TypeId} (hs:P.underlying O=some (.slice G)) (hc:P.cellsOf G=k) {n:Nat} {cs:List Value} {x:DataW H×List MemPlace}
    (F:∀ m,m<n→∀ A y,DataW.trod enc P W 0 (fun _=>true) true m G A=some y→wok (y.1.weights P G)→∃ c,A=f c∧Q c)
    (h:DataW.trod enc P W 0 (fun _=>true) true n O cs=some x) (R:wok (x.1.weights P O)) :
    ∃ (l:List α) (ad:Option Addr) (cap:Nat),cs=[.slice ad l.length cap]∧bz_ (vw W) ad (l.flatMap f)∧(∀ c∈l,Q c)∧l.length≤cap∧cap*P.bytesOf G≤reachBytes:=by
  rcases DataW.trod_slice hs h with⟨S,_⟩|⟨a,len,cap,E,rest,m,hn,rfl,rfl,_,hl,_,hlen,hel,V,_⟩
  · exact⟨[],none,0,S,.inl rfl,(fun _ h=>by cases h),Nat.le_refl _,by simp⟩
  · obtain⟨hr,_⟩:=V rfl
    simp only[DataW.weights,hs,vc_,gq_,List.length_map]at R
    have K:cap*P.bytesOf G≤reachBytes:=by
      have e:E.length+rest.length=cap:=by omega
      rw[← e];exact R.1
    have M:∀ i,i<len→∃ c:α,W.cells? 0 (a.add (i*k)) k=some (f c)∧Q c:=fun i hi=>by
      have he:=hel i hi;rw[hc,List.getElem?_eq_getElem zr_]at he;obtain⟨A,Z,h2⟩:=Option.bind_eq_some_iff.1 he;obtain⟨c,rfl,hq⟩:=F m zr_ A _ h2 (vd_ R.2.1 _ (List.mem_map_of_mem (List.getElem_mem zr_)));exact⟨c,Z,hq⟩
    obtain⟨C,hC⟩:=Deep.choose_lt M;refine⟨(List.range len).map C,some a,cap,by simp,?_,?_,by simpa using hl,K⟩
    · by_cases S:len=0
      · left;simp[S]
      · have Z:=(hC 0 zr_).1
        obtain⟨_,_,d⟩:=World.cells?_some Z;have v:=d 0 B;have N:0<(f (C 0)).length:=by rw[hk];exact B
        rw[List.getElem?_eq_getElem N]at v;cases hb:W.heap[a.block]? with
        | none=>simp[World.cell?,Addr.add,hb]at v
        | some o =>
          cases o with
          | cells arr T fz =>
            have q:a.spot=none:=by
              cases hsp2:a.spot with
              | none=>rfl
              | some s=>simp[World.cell?,Addr.add,hb,hsp2]at v
            obtain⟨b,off,sp⟩:=a;simp only at q hb;subst q;right
            refine⟨b,off,arr,T,fz,rfl,(Array.getElem?_eq_some_iff.1 hb).1,hb,fun j y U=>?_⟩
            have I:j<len*k:=by
              have:=(List.getElem?_eq_some_iff.1 U).1;rw[br_ f k hk]at this;simpa using this
            have hi:j / k<len:=Nat.div_lt_of_lt_mul (by rw[Nat.mul_comm];exact I);have L:j%k<k:=Nat.mod_lt _ B;have e:j=(j / k)*k+j%k:=by rw[Nat.mul_comm];exact (Nat.div_add_mod j k).symm
            have J:((List.range len).map C)[j / k]? = some (C (j / k)):=by simp[hi]
            rw[e,lo_ f k hk _ (j / k) (j%k) _ J L]at U;obtain⟨_,_,d⟩:=World.cells?_some (hC (j / k) hi).1;have:=d (j%k) L;rw[U,cC_,cC_]at this;rw[e];simpa [World.cell?,hb,Nat.add_assoc] using this
          | _=>simp[World.cell?,Addr.add,hb]at v
    · intro c Y
      obtain⟨i,hi,rfl⟩:=List.mem_map.1 Y;exact (hC i (by simpa using hi)).2
end
instance:Inhabited Con:=⟨.mk 0 [] 0 0 none 0 []⟩
instance:Inhabited Ax:=⟨⟨0,false,default,default,none,0,[],[],[],[]⟩⟩
instance:Inhabited Pc:=⟨⟨0,[],[],[],[],[],[],0,0,0⟩⟩
structure Tys (P:Program) (tI tB tS tSs tC tCs tA tAs tP tPs:TypeId):Prop where
  i:P.underlying tI=some (.int .i64)
  b:P.underlying tB=some .bool
  s:P.underlying tS=some .string
  ss:P.underlying tSs=some (.slice tS)
  c:∃ fs,P.underlying tC=some (.struct fs)∧fs.toList.map (fun f=>(f.type,f.offset))=[(tI,0),(tS,1),(tI,2),(tI,3),(tCs,4)]
  cs:P.underlying tCs=some (.slice tC)
  a:∃ fs,P.underlying tA=some (.struct fs)∧fs.toList.map (fun f=>(f.type,f.offset))=[(tI,0),(tB,1),(tC,2),(tC,7),(tSs,12),(tS,13),(tS,14),(tS,15)]
  axs:P.underlying tAs=some (.slice tA)
  p:∃ fs,P.underlying tP=some (.struct fs)∧fs.toList.map (fun f=>(f.type,f.offset))=[(tI,0),(tS,1),(tS,2),(tS,3),(tS,4),(tS,5),(tS,6),(tI,7),(tI,8),(tI,9)]
  ps:P.underlying tPs=some (.slice tP)
  ci:P.cellsOf tI=1
  cb:P.cellsOf tB=1
  cs1:P.cellsOf tS=1
  css:P.cellsOf tSs=1
  cc:P.cellsOf tC=5
  ccs:P.cellsOf tCs=1
  ca:P.cellsOf tA=16
  cp:P.cellsOf tP=10
  bs:P.bytesOf tS=16
  bc:P.bytesOf tC=64
  ba:P.bytesOf tA=216
  bp:P.bytesOf tP=128
section
variable {H:Type} {enc:TypeId×Value→H} {P:Program} {W:World} {tI tB tS tSs tC tCs tA tAs tP tPs:TypeId} (X:Tys P tI tB tS tSs tC tCs tA tAs tP tPs)
theorem fields_of {t:TypeId} {fs:Array Field} {L:List (TypeId×Nat)} {cs:List Value} {n:Nat} {x:DataW H×List MemPlace} (B:P.underlying t=some (.struct fs)) (v:fs.toList.map (fun f=>(f.type,f.offset))=L) (h:DataW.trod enc P W 0 (fun _=>true) true n t cs=some x) :
    ∃ (d:List (DataW H×List MemPlace)) (m:Nat),n=m+1∧x.1=.agg (d.map (·.1))∧cs.length=P.cellsOf t∧d.length=L.length∧(∀ (i:Nat) q,L[i]? = some q→DataW.trod enc P W 0 (fun _=>true) true m q.1 ((cs.drop q.2).take (P.cellsOf q.1))=d[i]?) ∧
      (x.1.weights P t=DataW.weightsEach P (L.map (·.1)) (d.map (·.1))):=by
  obtain⟨d,m,C,A,hl,e,E⟩:=DataW.trod_struct B h;refine⟨d,m,C,by rw[A],hl,by rw[e,← v];simp,fun i q y=>?_,?_⟩
  · rw[← v,List.getElem?_map,Option.map_eq_some_iff]at y
    obtain⟨f,k,rfl⟩:=y;exact E i f zaC_
  · rw[A];simp only[DataW.weights,B]
    congr 1
    rw[← v,List.map_map];rfl
include X
theorem pP_ {n:Nat} {cs:List Value} {x:DataW H×List MemPlace} (h:DataW.trod enc P W 0 (fun _=>true) true n tI cs=some x):∃ k:Int,cs=[.int .i64 k]∧-9223372036854775808≤k∧k≤9223372036854775807:=by
  obtain⟨k,d,_,e⟩:=DataW.trod_int X.i h;have:=bounds_i64 e;exact⟨k,d,this.1,this.2⟩
theorem yL_ {n:Nat} {cs:List Value} {x:DataW H×List MemPlace} (h:DataW.trod enc P W 0 (fun _=>true) true n tB cs=some x):∃ b:Bool,cs=[.bool b]:=by
  obtain⟨b,d,_⟩:=DataW.trod_bool X.b h;exact⟨b,d⟩
theorem str_of {n:Nat} {cs:List Value} {x:DataW H×List MemPlace} (h:DataW.trod enc P W 0 (fun _=>true) true n tS cs=some x) (d:wok (x.1.weights P tS)):∃ s:Str,cs=[str s]∧s.length≤140737488351232:=by
  obtain⟨s,e,k,_⟩:=DataW.trod_string X.s h;rw[k]at d;simp[wok,DataW.weights,reachBytes]at d
  refine⟨s.data.toList,by rw[e];rfl,by have:=of_decide_eq_true d;simpa using this⟩
theorem wN_:∀ (n:Nat) (cs:List Value) (x:DataW H×List MemPlace),DataW.trod enc P W 0 (fun _=>true) true n tC cs=some x→wok (x.1.weights P tC)→∃ c:Con,cs=c.cells∧c.mem (vw W)∧c.ok:=by
 intro n
 induction n using Nat.strongRecOn with
 | ind n ih =>
   intro cs x h A;obtain⟨fs,U,hL⟩:=X.c;obtain⟨xs,m,hn,hx,hl,e,v,B⟩:=fields_of U hL h;rw[B]at A
   match xs,e with
   | [x0,x1,x2,x3,x4],_ =>
   simp only[List.map_cons,List.map_nil,DataW.weightsEach,gq_]at A;have N:=v 0 _ rfl;have O:=v 1 _ rfl;have J:=v 2 _ rfl;have T:=v 3 _ rfl;have I:=v 4 _ rfl;simp only[List.getElem?_cons_zero,List.getElem?_cons_succ,X.ci,X.cs1,X.ccs]at N O J T I;obtain⟨k,M,k1,k2⟩:=pP_ X N;obtain⟨nm,R,n1⟩:=str_of X O A.2.1;obtain⟨lo,S,V,l2⟩:=pP_ X J;obtain⟨hi,Q,h1,h2⟩:=pP_ X T
   obtain⟨l,ad,cap,L,q,K,E,d⟩:=pD_ Con.cells 5 Con.cells_len zx_ (fun c=>c.mem (vw W)∧c.ok) X.cs X.cc (fun m' hm' G y Y C=>by
     obtain⟨c,Z,g2,g3⟩:=ih m' zr_ G y Y C;exact⟨c,Z,g2,g3⟩) I A.2.2.2.2.1
   rw[X.cc]at hl
   match cs,hl with
   | [c0,c1,c2,c3,c4],_ =>
   simp only[List.drop_succ_cons,List.drop_zero,List.take_succ_cons,List.take_zero,List.cons.injEq,and_true]at M R S Q L;subst M R S Q L;refine⟨.mk k nm lo hi ad cap l,rfl,?_,k1,k2,n1,V,l2,h1,h2,E,?_,Con.oks_iff.2 fun p F=>(K p F).2⟩
   · rw[Con.mem_iff];exact⟨q,fun p F=>(K p F).1⟩
   · rw[X.bc]at d;simp only[reachBytes]at d;omega
theorem xA_ {n:Nat} {cs:List Value} {x:DataW H×List MemPlace} (h:DataW.trod enc P W 0 (fun _=>true) true n tSs cs=some x) (A:wok (x.1.weights P tSs)) :
    ∃ (l:List Str) (ad:Option Addr) (cap:Nat),cs=[.slice ad l.length cap]∧bz_ (vw W) ad (l.flatMap ap_)∧(∀ s∈l,s.length≤140737488351232)∧l.length≤cap∧cap≤8796093021952:=by
  obtain⟨l,ad,cap,e,k,B,q,d⟩:=pD_ ap_ 1 aw_ zx_ (fun s=>s.length≤140737488351232) X.ss X.cs1 (fun G _ F y C m=>by
    obtain⟨s,E,v⟩:=str_of X C m;exact⟨s,E,v⟩) h A
  rw[X.bs]at d;simp only[reachBytes]at d;exact⟨l,ad,cap,e,k,B,q,by omega⟩
theorem zo_ {n:Nat} {cs:List Value} {x:DataW H×List MemPlace} (h:DataW.trod enc P W 0 (fun _=>true) true n tA cs=some x) (d:wok (x.1.weights P tA)):∃ a:Ax,cs=a.cells∧a.mem (vw W)∧a.ok:=by
  obtain⟨fs,V,hL⟩:=X.a;obtain⟨xs,m,hn,hx,hl,q,e,B⟩:=fields_of V hL h;rw[B]at d
  match xs,q with
  | [x0,x1,x2,x3,x4,x5,x6,x7],_ =>
  simp only[List.map_cons,List.map_nil,DataW.weightsEach,gq_]at d;have I:=e 0 _ rfl;have L:=e 1 _ rfl;have F:=e 2 _ rfl;have T:=e 3 _ rfl;have E:=e 4 _ rfl;have C:=e 5 _ rfl;have Q:=e 6 _ rfl;have U:=e 7 _ rfl;simp only[List.getElem?_cons_zero,List.getElem?_cons_succ,X.ci,X.cb,X.cs1,X.cc,X.css]at I L F T E C Q U;obtain⟨k,J,k1,k2⟩:=pP_ X I;obtain⟨op,N⟩:=yL_ X L;obtain⟨le,R,m2,o2⟩:=wN_ X _ _ _ F d.2.2.1;obtain⟨ri,M,m3,o3⟩:=wN_ X _ _ _ T d.2.2.2.1;obtain⟨rs,ad,cap,G,v,Y,y,A⟩:=xA_ X E d.2.2.2.2.1;obtain⟨ro,S,Z⟩:=str_of X C d.2.2.2.2.2.1;obtain⟨a,O,n6⟩:=str_of X Q d.2.2.2.2.2.2.1;obtain⟨b,K,n7⟩:=str_of X U d.2.2.2.2.2.2.2.1;rw[X.ca]at hl
  match cs,hl with
  | [c0,c1,c2,c3,c4,c5,c6,c7,c8,c9,c10,c11,c12,c13,c14,c15],_ =>
  simp only[List.drop_succ_cons,List.drop_zero,List.take_succ_cons,List.take_zero,List.cons.injEq,and_true,Con.cells]at J N R M G S O K;obtain⟨rfl,rfl,rfl,rfl,rfl⟩:=R;obtain⟨rfl,rfl,rfl,rfl,rfl⟩:=M;subst J N G S O K;exact⟨⟨k,op,le,ri,ad,cap,rs,ro,a,b⟩,rfl,⟨m2,m3,v⟩,⟨k1,k2,o2,o3,y,Nat.le_trans y A,Y,Z,n6,n7⟩⟩
theorem axs_of {n:Nat} {cs:List Value} {x:DataW H×List MemPlace} (h:DataW.trod enc P W 0 (fun _=>true) true n tAs cs=some x) (E:wok (x.1.weights P tAs)) :
    ∃ (l:List Ax) (ad:Option Addr) (cap:Nat),cs=[.slice ad l.length cap]∧(cu_ ad l).p (vw W)∧(∀ y∈l,y.ok)∧l.length≤cap∧cap≤2199023255488:=by
  obtain⟨l,ad,cap,e,k,A,v,d⟩:=pD_ Ax.cells 16 Ax.cells_len zx_ (fun a=>a.mem (vw W)∧a.ok) X.axs X.ca (fun I _ G y m q=>by
    obtain⟨a,F,B,C⟩:=zo_ X m q;exact⟨a,F,B,C⟩) h E
  rw[X.ba]at d;simp only[reachBytes]at d;exact⟨l,ad,cap,e,⟨k,fun y m=>(A y m).1⟩,fun y m=>(A y m).2,v,by omega⟩
end
end Go.Vs
