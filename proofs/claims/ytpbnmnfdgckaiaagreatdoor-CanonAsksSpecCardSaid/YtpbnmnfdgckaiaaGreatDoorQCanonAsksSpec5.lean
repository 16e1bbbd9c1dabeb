/-
  Part of the proof of the law CanonAsksSpec over this seat: the small logic, the data, the contracts of functions (no condition).
-/
import Derived.Test.YtpbnmnfdgckaiaaGreatDoorQCanonAsksSpec4
import Derived.Test.YtpbnmnfdgckaiaaGreatDoorQCanonAsksSpec2
import Derived.Test.YtpbnmnfdgckaiaaGreatDoorQCanonAsksSpec3
import Derived.ProofKit
import Derived.OpenShut
import Derived.ReadAgain
import Derived.Deep.Slices
set_option linter.unusedVariables false
set_option linter.unusedSimpArgs false
set_option linter.unusedSectionVars false
set_option maxHeartbeats 1000000
namespace Go.Proofs.YtpbnmnfdgckaiaaGreatDoor
open Go Go.Sx Go.Proofs
attribute [local irreducible] Code.wp wpList wpAnyH
open Go.Vs
theorem rC_:iC_ Tryz.prog 40 [(0,1),(1,1),(2,1),(3,1),(4,1)] [.int .i64 0,str [],.int .i64 0,.int .i64 0,.slice none 0 0]:=⟨_,bQ_,aD_,fun w=>by simp[au_,I_,Tryz.sizeOf38]⟩
theorem nr_ {kb bk bs:Nat} {frm:Int}:∀ (d:Nat) (c:Con),c.sz≤d→c.ok→c.fine→∀ (l:List Pc) (q:CS),CInv l q→l.length+2*c.sz≤100000 →
    Tri Tryz.prog 154 #[c.val,zp_ bs 0,zp_ bk 0] (gz_ kb frm q) [c.memF,cn_,kF bk kb,lF bs bk] (fun _:{Z:CS // CInv (c.leftP frm l) Z}=>.tuple #[]) (fun Z=>gz_ kb frm Z.1) (fun _=>[]):=by
  intro d
  induction d with
  | zero=>intro c h;have:=c.sz_pos;omega
  | succ d ih =>
    intro c hd A Y l q W hl;have F:=Con.fields Y;have K:=F.le;have J:=F.mo;obtain⟨k,nm,lo,hi,ad,cap,ps⟩:=c;have S:=Con.ok_len A;have hsz:(Con.mk k nm lo hi ad cap ps).sz=1+Con.sz.szs ps:=by simp only[Con.sz]
    have hsl:=Con.szs_len ps;simp only[Con.parts,Con.cap,Con.kind]at S K J;refine i_ Tryz.func154 rfl rfl Tryz.ntmps154 rfl fun v_1=>?_;refine Zz 2 ?_;refine V_ rfl rfl fun E=>Zj 11 (fun O=>?_) fun O=>?_
    · skip
      refine Zj 6 (fun G=>?_) fun G=>?_
      · skip
        refine Zj 6 (fun L=>?_) fun L=>?_
        · skip
          refine Zz 6 ?_;exact cp_ Tryz.results154 ⟨q,(by rw[Con.leftP0 (c:=(.mk k nm lo hi ad cap ps)) zi_ zi_ zi_];exact W)⟩ rfl (F:=[_]) (@List.perm_append_comm _ [_] _) zt
        · skip
          refine Zz 4 ?_;refine ah_ [(E,.cells (Con.cells (Con.mk k nm lo hi ad cap ps)).toArray 40 (0,0))] zk ?_;refine t_ 4 [0,1,2,3,4,5,6,7] zk (fun _ a b=>⟨Vw.sat.sub a,b⟩) (N_ rfl (dc_ (cs:=[zp_ kb 0]) pu_ rfl (fun v _ h=>h.2.2.1) rfl) rfl (Zz 8 ?_));refine o_ 8 rfl zk (j_ (dx_ (.mk k nm lo hi ad cap ps) A) rfl (.refl _) zf rfl fun _=>Zz 2 ?_);refine R_ (fun _ a b=>⟨Vw.sat.sub a,b⟩) (t_ 2 [9] zk (fun _ a b=>⟨Vw.sat.sub a,b⟩) (N_ rfl (J_ dh_ rfl rfl) rfl (bh_ (o_ 10 rfl zk (X_ D_ F_ T_ rfl rfl rfl rfl rfl rfl fun M=>Zz 2 ?_)))));refine R_ (fun _ a b=>⟨Vw.sat.sub a.tail,b⟩) (o_ 11 rfl zk (j_ (eg_ ⟨9,[],[],Con.atom (.mk k nm lo hi ad cap ps),nm,[],[],lo,hi,0⟩ frm l q W za_) rfl (.cons _ (@List.perm_append_comm _ [_] _)) zt rfl fun x=>?_));obtain⟨I,B⟩:=x;refine C_ (@List.perm_append_comm _ _ [_]) (Zz 2 ?_);refine R_ (fun _ a b=>⟨Vw.sat.sub a,b⟩) (Zz 2 ?_);exact cp_ Tryz.results154 ⟨I,(by rw[Con.leftP7 (c:=(.mk k nm lo hi ad cap ps)) zi_];exact B)⟩ rfl (F:=[_]) (@List.perm_append_comm _ [_] _) zt
      · skip
        rw[G]at K J;simp[nd,ez_]at K J
        obtain⟨p,U⟩:=List.length_eq_one_iff.1 (show ps.length=1 by omega);have C:ps[0]? = some p:=by rw[U];rfl
        have y:p∈ps:=List.mem_of_getElem? C;refine Zz 5 ?_;refine ah_ [(E,.cells (Con.cells (Con.mk k nm lo hi ad cap ps)).toArray 40 (0,0))] zk ?_;refine t_ 1 [0,1,2,3,4] zk (fun _ a b=>⟨Vw.sat.sub a,b⟩) (N_ rfl (dc_ (cs:=[lFn bs bk]) jF_ rfl (fun v _ h=>h.2.2.2.1) rfl) rfl (Zz 2 ?_));refine N_ rfl (O_ ag_ M_ rfl rfl (fun v _ h=>aq_ (n:=5) Con.cells_len ze_ (((Con.mem_iff (.mk k nm lo hi ad cap ps) v).1 h.1).1) C) za_ zh_) rfl ?_;refine N_ rfl (ae_ (ad:=ad) (us:=p.cells) aN_ M_ rfl (fun v _ h=>((Con.mem_iff (.mk k nm lo hi ad cap ps) v).1 h.1).1) (Con.cells_len _) (p_ Con.cells_len C)) rfl (bh_ (o_ 5 rfl zk (ao_ (ih p zaB_ (Con.ok_part (c:=(.mk k nm lo hi ad cap ps)) A y) (Con.fine_part (c:=(.mk k nm lo hi ad cap ps)) Y y) l q W (by have:=Con.sz_at C;omega)) rfl rfl (@List.perm_append_comm _ [_] _) (fun v _ h=>by exact⟨Con.mem_part (c:=(.mk k nm lo hi ad cap ps)) h.1 y,h.2⟩) rfl fun x=>?_)));obtain⟨I,B⟩:=x;refine C_ (@List.perm_append_comm _ _ [_]) (Zz 2 ?_);refine R_ (fun _ a b=>⟨Vw.sat.sub a,b⟩) (Zz 2 ?_);refine ah_ [(E,.cells (Con.cells (Con.mk k nm lo hi ad cap ps)).toArray 40 (0,0))] zk ?_;refine t_ 5 [0,1,2,3,4,5,6,8] zk (fun _ a b=>⟨Vw.sat.sub a,b⟩) (N_ rfl (dc_ (cs:=[zp_ kb 0]) pu_ rfl (fun v _ h=>h.2.2.1) rfl) rfl (Zz 4 ?_));refine N_ rfl (O_ ag_ M_ rfl rfl (fun v _ h=>aq_ (n:=5) Con.cells_len ze_ (((Con.mem_iff (.mk k nm lo hi ad cap ps) v).1 h.1).1) C) za_ zh_) rfl ?_;refine N_ rfl (ae_ (ad:=ad) (us:=p.cells) aN_ M_ rfl (fun v _ h=>((Con.mem_iff (.mk k nm lo hi ad cap ps) v).1 h.1).1) (Con.cells_len _) (p_ Con.cells_len C)) rfl (Zz 2 ?_);refine o_ 7 rfl zk (j_ (dx_ p (Con.ok_part (c:=(.mk k nm lo hi ad cap ps)) A y)) rfl (.refl _) (fun v _ h=>⟨Con.mem_part (c:=(.mk k nm lo hi ad cap ps)) h.1 y,h.2.1,trivial⟩) rfl fun _=>Zz 2 ?_);refine R_ (fun _ a b=>⟨Vw.sat.sub a,b⟩) (o_ 9 rfl zk (j_ (dx_ (.mk k nm lo hi ad cap ps) A) rfl (.refl _) zf rfl fun _=>Zz 2 ?_));refine R_ (fun _ a b=>⟨Vw.sat.sub a,b⟩) (t_ 2 [10] zk (fun _ a b=>⟨Vw.sat.sub a,b⟩) (N_ rfl (J_ dh_ rfl rfl) rfl (bh_ (o_ 11 rfl zk (X_ D_ F_ T_ rfl rfl rfl rfl rfl rfl fun M=>Zz 2 ?_)))));refine R_ (fun _ a b=>⟨Vw.sat.sub a.tail,b⟩) (o_ 12 rfl zk (j_ (eg_ ⟨4,p.atom,[],Con.atom (.mk k nm lo hi ad cap ps),nm,[],[],0,0,0⟩ frm (p.leftP frm l) I B (by have:=Con.leftP_len frm _ p (Nat.le_refl _) l;have:=Con.sz_at C;omega)) rfl (.cons _ (@List.perm_append_comm _ [_] _)) zt rfl fun x=>?_));obtain⟨H,R⟩:=x;refine C_ (@List.perm_append_comm _ _ [_]) (Zz 2 ?_);refine R_ (fun _ a b=>⟨Vw.sat.sub a,b⟩) (Zz 2 ?_);exact cp_ Tryz.results154 ⟨H,(by rw[Con.leftP6 (c:=(.mk k nm lo hi ad cap ps)) (p:=p) zi_ U];exact R)⟩ rfl (F:=[_]) (@List.perm_append_comm _ [_] _) zt
    · skip
      rw[O]at K J;simp[nd,ez_]at K J
      refine Zz 14 ?_;refine bJ_ [(1,zp_ bs 0),(2,zp_ bk 0),(3,zp_ E 0),(15,.slice ad ps.length cap),(16,.int .i64 (ps.length:Int)),(17,.int .i64 ((0:Nat):Int))] zl ?_;refine ci_ (ι:={x:Nat×CS // x.1≤ps.length∧CInv (Con.leftP.lefts frm (ps.take x.1) l) x.2}) (fun x=>[(1,zp_ bs 0),(2,zp_ bk 0),(3,zp_ E 0),(15,.slice ad ps.length cap),(16,.int .i64 (ps.length:Int)),(17,.int .i64 (x.1.1:Int))]) (fun x=>_::gz_ kb frm x.1.2) (fun _=>_) (fun x=>ps.length - x.1.1) ⟨(0,q),by simp,by simpa [Con.leftP.lefts] using W⟩ ?_;rintro ⟨⟨i,I⟩,hk⟩;dsimp only at hk;refine bJ_ [(1,zp_ bs 0),(2,zp_ bk 0),(3,zp_ E 0),(15,.slice ad ps.length cap),(16,.int .i64 (ps.length:Int)),(17,.int .i64 (i:Int))] zl ?_;refine Zj 2 (fun G=>?_) fun G=>?_
      · skip
        obtain rfl:i=ps.length:=by omega
        rw[List.take_length]at hk;obtain⟨p,C⟩:∃ p,ps[0]? = some p:=⟨_,List.getElem?_eq_getElem (show 0<ps.length by omega)⟩;have y:p∈ps:=List.mem_of_getElem? C;refine Zz 10 ?_;refine e_ (O_ ag_ M_ rfl rfl (fun v _ h=>aq_ (n:=5) Con.cells_len ze_ (((Con.mem_iff (.mk k nm lo hi ad cap ps) v).1 h.1).1) C) za_ zh_) rfl ?_;refine e_ (ae_ (ad:=ad) (us:=p.cells) aN_ M_ rfl (fun v _ h=>((Con.mem_iff (.mk k nm lo hi ad cap ps) v).1 h.1).1) (Con.cells_len _) (p_ Con.cells_len C)) rfl (j_ (dx_ p (Con.ok_part (c:=(.mk k nm lo hi ad cap ps)) A y)) rfl (.refl _) (fun v _ h=>⟨Con.mem_part (c:=(.mk k nm lo hi ad cap ps)) h.1 y,h.2.1,trivial⟩) rfl fun _=>Zz 7 ?_);refine e_ (dJ_ (i:=1) (j:=ps.length) (kl:=.i64) (kh:=.i64) ag_ M_ rfl rfl rfl za_ (by first|omega|(simp only[Con.cap];omega))) rfl ?_;refine Zz 5 ?_;refine bJ_ [(1,zp_ bs 0),(2,zp_ bk 0),(3,zp_ E 0),(6,str p.atom),(32,.slice (sad ad cap 1 5) (ps.length - 1) (cap - 1)),(33,.int .i64 ((ps.length - 1:Nat):Int)),(34,.int .i64 ((0:Nat):Int))] zl ?_;have hh:=Con.headD_atom C;have V:=Con.lefts_len frm ps ps.length l;rw[List.take_length]at V;generalize p.atom=f0 at hh ⊢
        refine ci_ (ι:={x:Nat×Str×List Pc×CS // x.1≤ps.length - 1∧CInv x.2.2.1 x.2.2.2∧x.2.2.1.length≤(Con.leftP.lefts frm ps l).length+x.1∧Con.andP frm (.mk k nm lo hi ad cap ps) (ps.drop 1) 1 f0 (Con.leftP.lefts frm ps l)=Con.andP frm (.mk k nm lo hi ad cap ps) (ps.drop (1+x.1)) (1+x.1) x.2.1 x.2.2.1}) (fun x=>[(1,zp_ bs 0),(2,zp_ bk 0),(3,zp_ E 0),(6,str x.1.2.1),(32,.slice (sad ad cap 1 5) (ps.length - 1) (cap - 1)),(33,.int .i64 ((ps.length - 1:Nat):Int)),(34,.int .i64 (x.1.1:Int))]) (fun x=>_::gz_ kb frm x.1.2.2.2) (fun _=>_) (fun x=>ps.length - 1 - x.1.1) ⟨(0,f0,(Con.leftP.lefts frm ps l),I),by simp,hk.2,by simp,rfl⟩ ?_;rintro ⟨⟨i,f,P,H⟩,T⟩;dsimp only at T;refine bJ_ [(1,zp_ bs 0),(2,zp_ bk 0),(3,zp_ E 0),(6,str f),(32,.slice (sad ad cap 1 5) (ps.length - 1) (cap - 1)),(33,.int .i64 ((ps.length - 1:Nat):Int)),(34,.int .i64 (i:Int))] zl ?_;refine Zj 2 (fun L=>?_) fun L=>?_
        · skip
          refine Zz 6 ?_;exact cp_ Tryz.results154 ⟨H,(by have e:=T.2.2.2;rw[List.drop_of_length_le (show ps.length≤1+i by omega)]at e;rw[Con.leftP5 (c:=(.mk k nm lo hi ad cap ps)) zi_];simp only[Con.parts,hh];rw[e];exact T.2.1)⟩ rfl (F:=[_]) (@List.perm_append_comm _ [_] _) zt
        · skip
          have Q:i<ps.length - 1:=by omega
          obtain⟨p,C⟩:∃ p,(ps.drop 1)[i]? = some p:=⟨_,List.getElem?_eq_getElem zn_⟩;have N:ps[1+i]? = some p:=by rw[← List.getElem?_drop];exact C
          have y:p∈ps:=List.mem_of_getElem? N;refine Zz 11 ?_;refine e_ (O_ ag_ M_ rfl rfl (fun v _ h=>aq_ (n:=5) Con.cells_len ze_ ((Con.mem_tail (c:=(.mk k nm lo hi ad cap ps)) A h.1)) C) za_ zh_) rfl ?_;refine e_ (ae_ (ad:=(sad ad cap 1 5)) (us:=p.cells) aN_ M_ rfl (fun v _ h=>(Con.mem_tail (c:=(.mk k nm lo hi ad cap ps)) A h.1)) (Con.cells_len _) (p_ Con.cells_len C)) rfl (E_ bQ_ rfl fun M=>Zz 1 ?_);refine ff_ 0 M_ rfl rfl rfl rfl (Zz 8 ?_);refine e_ (ar_ (dJ_ (i:=0) (j:=i+2) (kl:=.i64) (kh:=.i64) ag_ M_ rfl rfl rfl za_ (by first|omega|(simp only[Con.cap];omega))) (show _=Value.slice (sad ad cap 0 5) (ps.take (i+2)).length (cap - 0) by rw[List.length_take,Nat.min_eq_left za_];rfl)) rfl ?_;refine e_ (J_ rC_ rfl rfl) rfl (j_ (dx_ (Con.pre (.mk k nm lo hi ad cap ps) (i+2)) (Con.pre_ok A _)) rfl (.refl _) (fun v _ h=>⟨Con.pre_mem A h.1 _,h.2.1,trivial⟩) rfl fun _=>Zz 4 ?_);refine ah_ [(M,.cells p.cells.toArray 40 (0,0)),(E,.cells (Con.cells (Con.mk k nm lo hi ad cap ps)).toArray 40 (0,0))] zk ?_;refine t_ 4 [0,1,2,4] zk (fun _ a b=>⟨Vw.sat.sub a,b⟩) (N_ rfl (dc_ (cs:=[zp_ kb 0]) pu_ rfl (fun v _ h=>h.2.2.1) rfl) rfl (Zz 1 ?_));refine N_ rfl (dd_ 0 aN_ M_ rfl rfl) rfl (Zz 2 ?_);refine o_ 3 rfl zk (j_ (dx_ p (Con.ok_part (c:=(.mk k nm lo hi ad cap ps)) A y)) rfl (.refl _) (fun v _ h=>⟨Con.mem_part (c:=(.mk k nm lo hi ad cap ps)) h.1 y,h.2.1,trivial⟩) rfl fun _=>Zz 2 ?_);refine R_ (fun _ a b=>⟨Vw.sat.sub a,b⟩) (t_ 2 [5] zk (fun _ a b=>⟨Vw.sat.sub a,b⟩) (N_ rfl (J_ dh_ rfl rfl) rfl (bh_ (o_ 6 rfl zk (X_ D_ F_ T_ rfl rfl rfl rfl rfl rfl fun b_3=>Zz 2 ?_)))));refine R_ (fun _ a b=>⟨Vw.sat.sub a.tail,b⟩) (o_ 7 rfl zk (j_ (eg_ ⟨2,f,p.atom,(Con.pre (.mk k nm lo hi ad cap ps) (i+2)).atom,[],[],[],0,0,0⟩ frm P H T.2.1 za_) rfl (.cons _ (@List.perm_append_comm _ [_,_] _)) zt rfl fun x=>?_));obtain⟨X,B⟩:=x;refine C_ (@List.perm_append_comm _ _ [_,_]) (Zz 2 ?_);refine R_ (fun _ a b=>⟨Vw.sat.sub a,b⟩) (Zz 12 ?_);exact x_ ⟨(i+1,(Con.pre (.mk k nm lo hi ad cap ps) (i+2)).atom,(ins frm P ⟨2,f,p.atom,(Con.pre (.mk k nm lo hi ad cap ps) (i+2)).atom,[],[],[],0,0,0⟩),X),by omega,B,by have:=bv_ frm P ⟨2,f,p.atom,(Con.pre (.mk k nm lo hi ad cap ps) (i+2)).atom,[],[],[],0,0,0⟩;dsimp only;omega,by rw[T.2.2.2,Con.drop_at N];simp only[Con.andP];rw[show 1+i+1=i+2 by omega,show 1+(i+1)=i+2 by omega]⟩ zn_ zl (F:=[_]) (@List.perm_append_comm _ [_] _) zh
      · skip
        have Q:i<ps.length:=by omega
        obtain⟨p,C⟩:∃ p,ps[i]? = some p:=⟨_,List.getElem?_eq_getElem Q⟩;have y:p∈ps:=List.mem_of_getElem? C;refine Zz 10 ?_;refine e_ (O_ ag_ M_ rfl rfl (fun v _ h=>aq_ (n:=5) Con.cells_len ze_ (((Con.mem_iff (.mk k nm lo hi ad cap ps) v).1 h.1).1) C) za_ zh_) rfl ?_;refine e_ (ae_ (ad:=ad) (us:=p.cells) aN_ M_ rfl (fun v _ h=>((Con.mem_iff (.mk k nm lo hi ad cap ps) v).1 h.1).1) (Con.cells_len _) (p_ Con.cells_len C)) rfl (E_ bQ_ rfl fun M=>ff_ 0 M_ rfl rfl rfl rfl (Zz 3 ?_));refine e_ (dc_ (cs:=[lFn bs bk]) jF_ rfl (fun v _ h=>h.2.2.2.1) rfl) rfl (e_ (dd_ 0 aN_ M_ rfl rfl) rfl (ao_ (ih p zaB_ (Con.ok_part (c:=(.mk k nm lo hi ad cap ps)) A y) (Con.fine_part (c:=(.mk k nm lo hi ad cap ps)) Y y) (Con.leftP.lefts frm (ps.take i) l) I hk.2 (by have:=Con.lefts_len frm ps i l;have:=Con.sz_at C;omega)) rfl rfl (@List.perm_append_comm _ [_,_] _) (fun v _ h=>by exact⟨Con.mem_part (c:=(.mk k nm lo hi ad cap ps)) h.1 y,h.2⟩) rfl fun x=>?_));obtain⟨H,B⟩:=x;refine C_ (@List.perm_append_comm _ _ [_,_]) (Zz 7 ?_);exact x_ ⟨(i+1,H),Q,by rw[Con.lefts_step frm C];exact B⟩ zn_ zl (F:=[_]) (@List.perm_append_comm _ [_] _) zh
theorem jU_ {kb bk bs:Nat} {frm:Int}:∀ (d:Nat) (c:Con),c.sz≤d→c.ok→c.fine→∀ (l:List Pc) (q:CS),CInv l q→l.length+2*c.sz≤100000 →
    Tri Tryz.prog 155 #[c.val,zp_ bk 0,zp_ bs 0] (gz_ kb frm q) [c.memF,cn_,kF bk kb,rcF bs bk] (fun _:{U:CS // CInv (c.rightP frm l) U}=>.tuple #[]) (fun U=>gz_ kb frm U.1) (fun _=>[]):=by
  intro d
  induction d with
  | zero=>intro c h;have:=c.sz_pos;omega
  | succ d ih =>
    intro c Z A T l q R hl;have F:=Con.fields T;have J:=F.le;have I:=F.mo;obtain⟨k,nm,lo,hi,ad,cap,ps⟩:=c;have O:=Con.ok_len A;have W:(Con.mk k nm lo hi ad cap ps).sz=1+Con.sz.szs ps:=by simp only[Con.sz]
    have Y:=Con.szs_len ps;simp only[Con.parts,Con.cap,Con.kind]at O J I;refine i_ Tryz.func155 rfl rfl Tryz.ntmps155 rfl fun X=>?_;refine Zz 2 ?_;refine V_ rfl rfl fun B=>Zj 11 (fun K=>?_) fun K=>?_
    · skip
      refine Zj 6 (fun C=>?_) fun C=>?_
      · skip
        refine Zj 6 (fun Q=>?_) fun Q=>?_
        · skip
          refine Zz 6 ?_;exact cp_ Tryz.results155 ⟨q,(by rw[Con.rightP0 (c:=(.mk k nm lo hi ad cap ps)) zi_ zi_ zi_];exact R)⟩ rfl (F:=[_]) (@List.perm_append_comm _ [_] _) zt
        · skip
          refine Zz 4 ?_;refine ah_ [(B,.cells (Con.cells (Con.mk k nm lo hi ad cap ps)).toArray 40 (0,0))] zk ?_;refine t_ 4 [0,1,3,4,5,6,7,8] zk (fun _ a b=>⟨Vw.sat.sub a,b⟩) (N_ rfl (dc_ (cs:=[zp_ kb 0]) pu_ rfl (fun v _ h=>h.2.2.1) rfl) rfl (Zz 8 ?_));refine o_ 2 rfl zk (j_ (dx_ (.mk k nm lo hi ad cap ps) A) rfl (.refl _) zf rfl fun _=>Zz 2 ?_);refine R_ (fun _ a b=>⟨Vw.sat.sub a,b⟩) (t_ 2 [9] zk (fun _ a b=>⟨Vw.sat.sub a,b⟩) (N_ rfl (J_ dh_ rfl rfl) rfl (bh_ (o_ 10 rfl zk (X_ D_ F_ T_ rfl rfl rfl rfl rfl rfl fun M=>Zz 2 ?_)))));refine R_ (fun _ a b=>⟨Vw.sat.sub a.tail,b⟩) (o_ 11 rfl zk (j_ (eg_ ⟨8,Con.atom (.mk k nm lo hi ad cap ps),[],[],nm,[],[],lo,hi,0⟩ frm l q R za_) rfl (.cons _ (@List.perm_append_comm _ [_] _)) zt rfl fun x=>?_));obtain⟨E,y⟩:=x;refine C_ (@List.perm_append_comm _ _ [_]) (Zz 2 ?_);refine R_ (fun _ a b=>⟨Vw.sat.sub a,b⟩) (Zz 2 ?_);exact cp_ Tryz.results155 ⟨E,(by rw[Con.rightP7 (c:=(.mk k nm lo hi ad cap ps)) zi_];exact y)⟩ rfl (F:=[_]) (@List.perm_append_comm _ [_] _) zt
      · skip
        rw[C]at J I;simp[nd,ez_]at J I
        obtain⟨p,P⟩:=List.length_eq_one_iff.1 (show ps.length=1 by omega);have G:ps[0]? = some p:=by rw[P];rfl
        have e:p∈ps:=List.mem_of_getElem? G;refine Zz 5 ?_;refine ah_ [(B,.cells (Con.cells (Con.mk k nm lo hi ad cap ps)).toArray 40 (0,0))] zk ?_;refine t_ 5 [0,1,3,4,5,6,7,8] zk (fun _ a b=>⟨Vw.sat.sub a,b⟩) (N_ rfl (dc_ (cs:=[zp_ kb 0]) pu_ rfl (fun v _ h=>h.2.2.1) rfl) rfl (Zz 5 ?_));refine N_ rfl (O_ ag_ M_ rfl rfl (fun v _ h=>aq_ (n:=5) Con.cells_len ze_ (((Con.mem_iff (.mk k nm lo hi ad cap ps) v).1 h.1).1) G) za_ zh_) rfl ?_;refine N_ rfl (ae_ (ad:=ad) (us:=p.cells) aN_ M_ rfl (fun v _ h=>((Con.mem_iff (.mk k nm lo hi ad cap ps) v).1 h.1).1) (Con.cells_len _) (p_ Con.cells_len G)) rfl (bh_ (o_ 2 rfl zk (j_ (dx_ (.mk k nm lo hi ad cap ps) A) rfl (.refl _) zf rfl fun _=>Zz 2 ?_)));refine R_ (fun _ a b=>⟨Vw.sat.sub a,b⟩) (o_ 9 rfl zk (j_ (dx_ p (Con.ok_part (c:=(.mk k nm lo hi ad cap ps)) A e)) rfl (.refl _) (fun v _ h=>⟨Con.mem_part (c:=(.mk k nm lo hi ad cap ps)) h.1 e,h.2.1,trivial⟩) rfl fun _=>Zz 2 ?_));refine R_ (fun _ a b=>⟨Vw.sat.sub a,b⟩) (t_ 2 [10] zk (fun _ a b=>⟨Vw.sat.sub a,b⟩) (N_ rfl (J_ dh_ rfl rfl) rfl (bh_ (o_ 11 rfl zk (X_ D_ F_ T_ rfl rfl rfl rfl rfl rfl fun M=>Zz 2 ?_)))));refine R_ (fun _ a b=>⟨Vw.sat.sub a.tail,b⟩) (o_ 12 rfl zk (j_ (eg_ ⟨3,Con.atom (.mk k nm lo hi ad cap ps),[],p.atom,nm,[],[],0,0,0⟩ frm l q R za_) rfl (.cons _ (@List.perm_append_comm _ [_] _)) zt rfl fun x=>?_));obtain⟨E,y⟩:=x;refine C_ (@List.perm_append_comm _ _ [_]) (Zz 2 ?_);refine R_ (fun _ a b=>⟨Vw.sat.sub a,b⟩) (Zz 2 ?_);refine ah_ [(B,.cells (Con.cells (Con.mk k nm lo hi ad cap ps)).toArray 40 (0,0))] zk ?_;refine t_ 1 [0,1,2,3,4] zk (fun _ a b=>⟨Vw.sat.sub a,b⟩) (N_ rfl (dc_ (cs:=[rFn bs bk]) jF_ rfl (fun v _ h=>h.2.2.2.1) rfl) rfl (Zz 2 ?_));refine N_ rfl (O_ ag_ M_ rfl rfl (fun v _ h=>aq_ (n:=5) Con.cells_len ze_ (((Con.mem_iff (.mk k nm lo hi ad cap ps) v).1 h.1).1) G) za_ zh_) rfl ?_;refine N_ rfl (ae_ (ad:=ad) (us:=p.cells) aN_ M_ rfl (fun v _ h=>((Con.mem_iff (.mk k nm lo hi ad cap ps) v).1 h.1).1) (Con.cells_len _) (p_ Con.cells_len G)) rfl (bh_ (o_ 5 rfl zk (ao_ (ih p zaC_ (Con.ok_part (c:=(.mk k nm lo hi ad cap ps)) A e) (Con.fine_part (c:=(.mk k nm lo hi ad cap ps)) T e) (ins frm l ⟨3,Con.atom (.mk k nm lo hi ad cap ps),[],p.atom,nm,[],[],0,0,0⟩) E y (by have:=bv_ frm l ⟨3,Con.atom (.mk k nm lo hi ad cap ps),[],p.atom,nm,[],[],0,0,0⟩;have:=Con.sz_at G;omega)) rfl rfl (@List.perm_append_comm _ [_] _) (fun v _ h=>by exact⟨Con.mem_part (c:=(.mk k nm lo hi ad cap ps)) h.1 e,h.2⟩) rfl fun x=>?_)));obtain⟨L,H⟩:=x;refine C_ (@List.perm_append_comm _ _ [_]) (Zz 2 ?_);refine R_ (fun _ a b=>⟨Vw.sat.sub a,b⟩) (Zz 2 ?_);exact cp_ Tryz.results155 ⟨L,(by rw[Con.rightP6 (c:=(.mk k nm lo hi ad cap ps)) (p:=p) zi_ P];exact H)⟩ rfl (F:=[_]) (@List.perm_append_comm _ [_] _) zt
    · skip
      rw[K]at J I;simp[nd,ez_]at J I
      refine Zz 13 ?_;refine bJ_ [(1,zp_ bk 0),(2,zp_ bs 0),(3,zp_ B 0),(11,.slice ad ps.length cap),(12,.int .i64 (ps.length:Int)),(13,.int .i64 ((0:Nat):Int))] zl ?_;refine ci_ (ι:={x:Nat×CS // x.1≤ps.length∧CInv (Con.rightP.rights frm (Con.atom (.mk k nm lo hi ad cap ps)) (ps.take x.1) l) x.2}) (fun x=>[(1,zp_ bk 0),(2,zp_ bs 0),(3,zp_ B 0),(11,.slice ad ps.length cap),(12,.int .i64 (ps.length:Int)),(13,.int .i64 (x.1.1:Int))]) (fun x=>_::gz_ kb frm x.1.2) (fun _=>_) (fun x=>ps.length - x.1.1) ⟨(0,q),by simp,by simpa [Con.rightP.rights] using R⟩ ?_;rintro ⟨⟨i,E⟩,hk⟩;dsimp only at hk;refine bJ_ [(1,zp_ bk 0),(2,zp_ bs 0),(3,zp_ B 0),(11,.slice ad ps.length cap),(12,.int .i64 (ps.length:Int)),(13,.int .i64 (i:Int))] zl ?_;refine Zj 2 (fun C=>?_) fun C=>?_
      · skip
        obtain rfl:i=ps.length:=by omega
        rw[List.take_length]at hk;refine Zz 6 ?_;exact cp_ Tryz.results155 ⟨E,(by rw[Con.rightP5 (c:=(.mk k nm lo hi ad cap ps)) zi_];exact hk.2)⟩ rfl (F:=[_]) (@List.perm_append_comm _ [_] _) zt
      · skip
        have N:i<ps.length:=by omega
        obtain⟨p,G⟩:∃ p,ps[i]? = some p:=⟨_,List.getElem?_eq_getElem N⟩;have e:p∈ps:=List.mem_of_getElem? G;refine Zz 10 ?_;refine e_ (O_ ag_ M_ rfl rfl (fun v _ h=>aq_ (n:=5) Con.cells_len ze_ (((Con.mem_iff (.mk k nm lo hi ad cap ps) v).1 h.1).1) G) za_ zh_) rfl ?_;refine e_ (ae_ (ad:=ad) (us:=p.cells) aN_ M_ rfl (fun v _ h=>((Con.mem_iff (.mk k nm lo hi ad cap ps) v).1 h.1).1) (Con.cells_len _) (p_ Con.cells_len G)) rfl (E_ bQ_ rfl fun M=>ff_ 0 M_ rfl rfl rfl rfl (Zz 3 ?_));refine ah_ [(M,.cells p.cells.toArray 40 (0,0)),(B,.cells (Con.cells (Con.mk k nm lo hi ad cap ps)).toArray 40 (0,0))] zk ?_;refine t_ 5 [0,1,3] zk (fun _ a b=>⟨Vw.sat.sub a,b⟩) (N_ rfl (dc_ (cs:=[zp_ kb 0]) pu_ rfl (fun v _ h=>h.2.2.1) rfl) rfl (Zz 1 ?_));refine N_ rfl (dd_ 0 aN_ M_ rfl rfl) rfl (bh_ (o_ 2 rfl zk (j_ (dx_ (.mk k nm lo hi ad cap ps) A) rfl (.refl _) zf rfl fun _=>Zz 2 ?_)));refine R_ (fun _ a b=>⟨Vw.sat.sub a,b⟩) (o_ 4 rfl zk (j_ (dx_ p (Con.ok_part (c:=(.mk k nm lo hi ad cap ps)) A e)) rfl (.refl _) (fun v _ h=>⟨Con.mem_part (c:=(.mk k nm lo hi ad cap ps)) h.1 e,h.2.1,trivial⟩) rfl fun _=>Zz 2 ?_));refine R_ (fun _ a b=>⟨Vw.sat.sub a,b⟩) (t_ 2 [5] zk (fun _ a b=>⟨Vw.sat.sub a,b⟩) (N_ rfl (J_ dh_ rfl rfl) rfl (bh_ (o_ 6 rfl zk (X_ D_ F_ T_ rfl rfl rfl rfl rfl rfl fun V=>Zz 2 ?_)))));refine R_ (fun _ a b=>⟨Vw.sat.sub a.tail,b⟩) (o_ 7 rfl zk (j_ (eg_ ⟨1,Con.atom (.mk k nm lo hi ad cap ps),[],p.atom,[],[],[],0,0,0⟩ frm (Con.rightP.rights frm (Con.atom (.mk k nm lo hi ad cap ps)) (ps.take i) l) E hk.2 (by have:=Con.rights_len frm (Con.atom (.mk k nm lo hi ad cap ps)) ps i l;have:=Con.sz_at G;have:=p.sz_pos;omega)) rfl (.cons _ (@List.perm_append_comm _ [_,_] _)) zt rfl fun x=>?_));obtain⟨L,y⟩:=x;refine C_ (@List.perm_append_comm _ _ [_,_]) (Zz 2 ?_);refine R_ (fun _ a b=>⟨Vw.sat.sub a,b⟩) (Zz 3 ?_);refine e_ (dc_ (cs:=[rFn bs bk]) jF_ rfl (fun v _ h=>h.2.2.2.1) rfl) rfl (e_ (dd_ 0 aN_ M_ rfl rfl) rfl (ao_ (ih p zaC_ (Con.ok_part (c:=(.mk k nm lo hi ad cap ps)) A e) (Con.fine_part (c:=(.mk k nm lo hi ad cap ps)) T e) (ins frm (Con.rightP.rights frm (Con.atom (.mk k nm lo hi ad cap ps)) (ps.take i) l) ⟨1,Con.atom (.mk k nm lo hi ad cap ps),[],p.atom,[],[],[],0,0,0⟩) L y (by have:=Con.rights_len frm (Con.atom (.mk k nm lo hi ad cap ps)) ps i l;have:=Con.sz_at G;have:=bv_ frm (Con.rightP.rights frm (Con.atom (.mk k nm lo hi ad cap ps)) (ps.take i) l) ⟨1,(Con.atom (.mk k nm lo hi ad cap ps)),[],p.atom,[],[],[],0,0,0⟩;omega)) rfl rfl (@List.perm_append_comm _ [_,_] _) (fun v _ h=>by exact⟨Con.mem_part (c:=(.mk k nm lo hi ad cap ps)) h.1 e,h.2⟩) rfl fun x=>?_));obtain⟨S,H⟩:=x;refine C_ (@List.perm_append_comm _ _ [_,_]) (Zz 7 ?_);exact x_ ⟨(i+1,S),N,by rw[Con.rights_step frm _ G];exact H⟩ zn_ zl (F:=[_]) (@List.perm_append_comm _ [_] _) zh
theorem yu_ (x:Ax) (L:x.ok) (hc:x.check=0) {kb:Nat} (frm:Int) (q:CS) (hq:CInv [] q) :
    Tri Tryz.prog 70 #[zp_ kb 0,x.val] (gz_ kb frm q) [x.memF,cn_] (fun _:{q':CS // CInv (x.pieces frm) q'}=>.tuple #[]) (fun q'=>gz_ kb frm q'.1) (fun _=>[]):=by
  have G:=Ax.good_of hc;obtain⟨k,U,⟨kl,I,J,hl,al,cl,pl⟩,⟨y,d,C,E,A,B,H⟩,ad,cap,M,ro,a,b⟩:=x;have hlen:=L.len;have hcap:=L.cap;have h_1:=G.k1;have h_2:=G.k9;have h_3:([]:List Pc).length=0:=rfl;dsimp only at hlen hcap h_1 h_2;show Tri Tryz.prog 70 #[zp_ kb 0,.agg (Ax.cells (Ax.mk k U (Con.mk kl I J hl al cl pl) (Con.mk y d C E A B H) ad cap M ro a b)).toArray] _ _ _ _ _
  refine i_ Tryz.func70 rfl rfl Tryz.ntmps70 rfl fun v_1=>?_;refine Zz 2 ?_;refine V_ rfl rfl fun S=>Zz 5 ?_
  refine j_ (xs_ kb) rfl (.refl _) zt rfl fun x=>?_;obtain⟨bk,bl,br⟩:=x;refine Zj 16 (fun hr_1=>?_) fun hr_1=>?_
  · skip
    refine Zj 6 (fun hr_2=>?_) fun hr_2=>?_
    · skip
      refine Zj 6 (fun hr_3=>?_) fun hr_3=>?_
      · skip
        refine Zj 6 (fun hr_4=>?_) fun hr_4=>?_
        · skip
          refine Zj 6 (fun hr_5=>?_) fun hr_5=>?_
          · skip
            refine Zj 6 (fun V=>?_) fun V=>?_
            · skip
              refine Zj 6 (fun X=>?_) fun X=>?_
              · skip
                refine Zj 6 (fun hr_8=>?_) fun hr_8=>?_
                · skip
                  refine Zj 6 (fun a5=>?_) fun a5=>?_
                  · skip
                    exfalso;omega
                  · skip
                    refine Zz 4 ?_;refine ah_ [(S,.cells (Ax.cells (Ax.mk k U (Con.mk kl I J hl al cl pl) (Con.mk y d C E A B H) ad cap M ro a b)).toArray 42 (0,0))] zk ?_;refine t_ 5 [0,1,2,4,5,6,7] zk (fun _ a b=>⟨Vw.sat.sub a,b⟩) (Zz 8 ?_);refine o_ 3 rfl zk (j_ (fF_ a L.a) rfl (.refl _) zt rfl fun _=>Zz 2 ?_);refine R_ (fun _ a b=>⟨Vw.sat.sub a,b⟩) (o_ 8 rfl zk (j_ (fF_ b L.b) rfl (.refl _) zt rfl fun _=>Zz 2 ?_));refine R_ (fun _ a b=>⟨Vw.sat.sub a,b⟩) (t_ 2 [9] zk (fun _ a b=>⟨Vw.sat.sub a,b⟩) (N_ rfl (J_ dh_ rfl rfl) rfl (bh_ (o_ 10 rfl zk (X_ D_ F_ T_ rfl rfl rfl rfl rfl rfl fun T=>Zz 2 ?_)))));refine R_ (fun _ a b=>⟨Vw.sat.sub a.tail,b⟩) (o_ 11 rfl zk (j_ (eg_ ⟨3,([123]++a++[125]),[],([123]++b++[125]),ro,[],[],0,0,0⟩ frm [] q hq za_) rfl (.cons _ (@List.perm_append_comm _ [_] _)) zt rfl fun x=>?_));obtain⟨N,K⟩:=x;have O:=bv_ frm [] ⟨3,([123]++a++[125]),[],([123]++b++[125]),ro,[],[],0,0,0⟩;refine C_ (@List.perm_append_comm _ _ [_]) (Zz 2 ?_);refine R_ (fun _ a b=>⟨Vw.sat.sub a,b⟩) (Zz 2 ?_)
                    have e:Ax.pieces frm ⟨k,U,(.mk kl I J hl al cl pl),(.mk y d C E A B H),ad,cap,M,ro,a,b⟩=(ins frm [] ⟨3,([123]++a++[125]),[],([123]++b++[125]),ro,[],[],0,0,0⟩):=by
                      unfold Ax.pieces;dsimp only
                      repeat (first|rfl|(rw[if_pos za_])|(rw[if_neg za_]))
                    exact cp_ eI_ ⟨N,by rw[e];exact K⟩ rfl (F:=[_]) (@List.perm_append_comm _ [_] _) zt
                · skip
                  obtain⟨fr,zr⟩:=Con.check_zero (G.right zaa_);dsimp only at fr zr;refine Zz 9 ?_;refine ao_ (jU_ (kb:=kb) (bk:=bk) (bs:=br) _ (.mk y d C E A B H) (Nat.le_refl _) L.right fr [] q hq za_) rfl rfl (@List.perm_append_comm _ [_] _) (fun v _ h=>by exact⟨h.2.2.2.1.2.1,h.2.2.2.2.1,h.1,h.2.2.1,trivial⟩) rfl fun x=>?_;obtain⟨N,K⟩:=x;have O:=Con.rightP_len frm _ (.mk y d C E A B H) (Nat.le_refl _) [];refine C_ (@List.perm_append_comm _ _ [_]) (Zz 2 ?_);refine ah_ [(S,.cells (Ax.cells (Ax.mk k U (Con.mk kl I J hl al cl pl) (Con.mk y d C E A B H) ad cap M ro a b)).toArray 42 (0,0))] zk ?_;refine t_ 5 [0,1,2,4,5] zk (fun _ a b=>⟨Vw.sat.sub a,b⟩) (Zz 6 ?_);refine o_ 3 rfl zk (j_ (fF_ a L.a) rfl (.refl _) zt rfl fun _=>Zz 2 ?_);refine R_ (fun _ a b=>⟨Vw.sat.sub a,b⟩) (o_ 6 rfl zk (j_ (dx_ (.mk y d C E A B H) L.right) rfl (.refl _) (fun v _ h=>⟨h.2.2.2.1.2.1,h.2.2.2.2.1,trivial⟩) rfl fun _=>Zz 2 ?_));refine R_ (fun _ a b=>⟨Vw.sat.sub a,b⟩) (t_ 2 [7] zk (fun _ a b=>⟨Vw.sat.sub a,b⟩) (N_ rfl (J_ dh_ rfl rfl) rfl (bh_ (o_ 8 rfl zk (X_ D_ F_ T_ rfl rfl rfl rfl rfl rfl fun T=>Zz 2 ?_)))));refine R_ (fun _ a b=>⟨Vw.sat.sub a.tail,b⟩) (o_ 9 rfl zk (j_ (eg_ ⟨1,([123]++a++[125]),[],(Con.atom (.mk y d C E A B H)),[],[],[],0,0,0⟩ frm (Con.rightP frm (.mk y d C E A B H) []) N K za_) rfl (.cons _ (@List.perm_append_comm _ [_] _)) zt rfl fun x=>?_));obtain⟨R,P⟩:=x;have Y:=bv_ frm (Con.rightP frm (.mk y d C E A B H) []) ⟨1,([123]++a++[125]),[],(Con.atom (.mk y d C E A B H)),[],[],[],0,0,0⟩;refine C_ (@List.perm_append_comm _ _ [_]) (Zz 2 ?_);refine R_ (fun _ a b=>⟨Vw.sat.sub a,b⟩) (Zz 2 ?_)
                  have e:Ax.pieces frm ⟨k,U,(.mk kl I J hl al cl pl),(.mk y d C E A B H),ad,cap,M,ro,a,b⟩=(ins frm (Con.rightP frm (.mk y d C E A B H) []) ⟨1,([123]++a++[125]),[],(Con.atom (.mk y d C E A B H)),[],[],[],0,0,0⟩):=by
                    unfold Ax.pieces;dsimp only
                    repeat (first|rfl|(rw[if_pos za_])|(rw[if_neg za_]))
                  exact cp_ eI_ ⟨R,by rw[e];exact P⟩ rfl (F:=[_]) (@List.perm_append_comm _ [_] _) zt
              · skip
                refine Zz 8 ?_;refine e_ (J_ dh_ rfl rfl) rfl (X_ D_ F_ T_ rfl rfl rfl rfl rfl rfl fun T=>j_ (eg_ ⟨7,[],[],[],ro,[],[],0,0,0⟩ frm [] q hq za_) rfl (.cons _ (@List.perm_append_comm _ [_] _)) zt rfl fun x=>?_);obtain⟨N,K⟩:=x;have O:=bv_ frm [] ⟨7,[],[],[],ro,[],[],0,0,0⟩;refine C_ (@List.perm_append_comm _ _ [_]) (Zz 2 ?_)
                have e:Ax.pieces frm ⟨k,U,(.mk kl I J hl al cl pl),(.mk y d C E A B H),ad,cap,M,ro,a,b⟩=(ins frm [] ⟨7,[],[],[],ro,[],[],0,0,0⟩):=by
                  unfold Ax.pieces;dsimp only
                  repeat (first|rfl|(rw[if_pos za_])|(rw[if_neg za_]))
                exact cp_ eI_ ⟨N,by rw[e];exact K⟩ rfl (F:=[_]) (@List.perm_append_comm _ [_] _) zt
            · skip
              have hch:=G.chain V;dsimp only at hch;have a2:0<M.length:=by omega
              obtain⟨Q,X⟩:∃ Q,M[0]? = some Q:=⟨_,List.getElem?_eq_getElem a2⟩;refine Zz 8 ?_;refine e_ (O_ n_ I_ rfl rfl (fun v _ h=>aq_ (n:=1) at_ ze_ (h.2.2.2.1.2.2) X) za_ zh_) rfl ?_;refine Zz 8 ?_;refine e_ (dJ_ (i:=1) (j:=M.length) (kl:=.i64) (kh:=.i64) n_ I_ rfl rfl rfl za_ za_) rfl (Zz 5 ?_);refine bJ_ [(0,zp_ kb 0),(3,zp_ S 0),(6,str Q),(130,.slice (sad ad cap 1 1) (M.length - 1) (cap - 1)),(131,.int .i64 ((M.length - 1:Nat):Int)),(132,.int .i64 ((0:Nat):Int))] zl ?_;have hr_8:=Con.plain_len (G.roles Q (List.mem_of_getElem? X));refine ci_ (ι:={x:Nat×Str×List Pc×CS // x.1≤M.length - 1∧CInv x.2.2.1 x.2.2.2∧x.2.2.1.length≤x.1∧x.2.1.length≤30*(x.1+1)∧Ax.chainP frm ro (M.drop 1) Q []=Ax.chainP frm ro (M.drop (1+x.1)) x.2.1 x.2.2.1}) (fun x=>[(0,zp_ kb 0),(3,zp_ S 0),(6,str x.1.2.1),(130,.slice (sad ad cap 1 1) (M.length - 1) (cap - 1)),(131,.int .i64 ((M.length - 1:Nat):Int)),(132,.int .i64 (x.1.1:Int))]) (fun x=>_::gz_ kb frm x.1.2.2.2) (fun _=>_) (fun x=>M.length - 1 - x.1.1) ⟨(0,Q,[],q),by simp,hq,by simp,by simp;omega,rfl⟩ ?_;rintro ⟨⟨i,f,Z,N⟩,hj⟩;dsimp only at hj;refine bJ_ [(0,zp_ kb 0),(3,zp_ S 0),(6,str f),(130,.slice (sad ad cap 1 1) (M.length - 1) (cap - 1)),(131,.int .i64 ((M.length - 1:Nat):Int)),(132,.int .i64 (i:Int))] zl ?_;refine Zj 2 (fun a5=>?_) fun a5=>?_
              · skip
                refine Zz 6 ?_
                have e:Ax.pieces frm ⟨k,U,(.mk kl I J hl al cl pl),(.mk y d C E A B H),ad,cap,M,ro,a,b⟩=Ax.chainP frm ro (M.drop 1) Q []:=by
                  unfold Ax.pieces;dsimp only;rw[qW_ X]
                  repeat (first|rfl|(rw[if_pos za_])|(rw[if_neg za_]))
                have e_1:=hj.2.2.2.2;rw[List.drop_of_length_le (show M.length≤1+i by omega)]at e_1;rw[e_1]at e;exact cp_ eI_ ⟨N,by rw[e];exact hj.2.1⟩ rfl (F:=[_]) (@List.perm_append_comm _ [_] _) zt
              · skip
                have hlt:i<M.length - 1:=by omega
                obtain⟨g,hp⟩:∃ g,(M.drop 1)[i]? = some g:=⟨_,List.getElem?_eq_getElem zn_⟩;have a1:M[1+i]? = some g:=by rw[← List.getElem?_drop];exact hp
                have hg:=Con.plain_len (G.roles g (List.mem_of_getElem? a1));have hro:=Con.plain_len (G.role (by show k=4∨k=5∨k=6∨k=7∨k=9;omega));dsimp only at hro;refine Zz 11 ?_;refine e_ (O_ n_ I_ rfl rfl (fun v _ h=>aq_ (n:=1) at_ ze_ (bu_.rest at_ h.2.2.2.1.2.2 L.len 1) hp) za_ zh_) rfl ?_;refine e_ (bl_ (ad:=(sad ad cap 1 1)) ab_ rfl (fun v _ h=>bu_.rest at_ h.2.2.2.1.2.2 L.len 1) (p_ at_ hp 0 _ rfl)) rfl (Zj 19 (fun hr_10=>?_) fun hr_10=>?_)
                · skip
                  refine Zz 11 ?_;refine e_ (J_ dh_ rfl rfl) rfl (X_ D_ F_ T_ rfl rfl rfl rfl rfl rfl fun T=>j_ (eg_ ⟨6,[],[],[],f,g,ro,0,0,0⟩ frm Z N hj.2.1 za_) rfl (.cons _ (@List.perm_append_comm _ [_] _)) zt rfl fun x=>?_);obtain⟨R,K⟩:=x;have O:=bv_ frm Z ⟨6,[],[],[],f,g,ro,0,0,0⟩;refine C_ (@List.perm_append_comm _ _ [_]) (Zz 12 ?_);have a0:=kp_ a1;have a3:(M.drop (1+i+1)=[])↔¬ (i+2<M.length):=by rw[List.drop_eq_nil_iff];omega
                  exact x_ ⟨(i+1,ro,(ins frm Z ⟨6,[],[],[],f,g,ro,0,0,0⟩),R),by dsimp only;omega,K,by dsimp only;omega,by dsimp only;omega,by rw[hj.2.2.2.2,a0];simp only[Ax.chainP];rw[if_pos (by rw[a3];omega),show 1+(i+1)=1+i+1 by omega]⟩ zn_ zl (F:=[]) zT_ zh
                · skip
                  refine Zz 5 ?_;refine e_ (fl_ rfl rfl zy_) rfl ?_;refine Zz 1 ?_;refine e_ (fl_ rfl rfl zy_) rfl ?_;refine Zz 9 ?_;refine e_ (J_ dh_ rfl rfl) rfl (X_ D_ F_ T_ rfl rfl rfl rfl rfl rfl fun T=>j_ (eg_ ⟨6,[],[],[],f,g,(f++[46])++g,0,0,0⟩ frm Z N hj.2.1 za_) rfl (.cons _ (@List.perm_append_comm _ [_] _)) zt rfl fun x=>?_);obtain⟨R,K⟩:=x;have O:=bv_ frm Z ⟨6,[],[],[],f,g,(f++[46])++g,0,0,0⟩;refine C_ (@List.perm_append_comm _ _ [_]) (Zz 12 ?_);have a0:=kp_ a1;have a3:(M.drop (1+i+1)=[])↔¬ (i+2<M.length):=by rw[List.drop_eq_nil_iff];omega
                  exact x_ ⟨(i+1,(f++[46])++g,(ins frm Z ⟨6,[],[],[],f,g,(f++[46])++g,0,0,0⟩),R),by dsimp only;omega,K,by dsimp only;omega,by simp only[List.length_append,List.length_cons,List.length_nil];omega,by rw[hj.2.2.2.2,a0];simp only[Ax.chainP];rw[if_neg (by rw[a3];omega),show 1+(i+1)=1+i+1 by omega]⟩ zn_ zl (F:=[]) zT_ zh
          · skip
            have a2:0<M.length:=by have:=G.one hr_5;dsimp only at this;omega
            obtain⟨Q,V⟩:∃ Q,M[0]? = some Q:=⟨_,List.getElem?_eq_getElem a2⟩;refine Zz 4 ?_;refine ah_ [(S,.cells (Ax.cells (Ax.mk k U (Con.mk kl I J hl al cl pl) (Con.mk y d C E A B H) ad cap M ro a b)).toArray 42 (0,0))] zk ?_;refine t_ 2 [0,1,2,3,4,5,6,7] zk (fun _ a b=>⟨Vw.sat.sub a,b⟩) (Zz 3 ?_);refine N_ rfl (O_ n_ I_ rfl rfl (fun v _ h=>aq_ (n:=1) at_ ze_ (h.2.2.2.1.2.2) V) za_ zh_) rfl ?_;refine Zz 3 ?_;refine N_ rfl (J_ dh_ rfl rfl) rfl (bh_ (o_ 8 rfl zk (X_ D_ F_ T_ rfl rfl rfl rfl rfl rfl fun T=>Zz 2 ?_)));refine R_ (fun _ a b=>⟨Vw.sat.sub a.tail,b⟩) (o_ 9 rfl zk (j_ (eg_ ⟨5,[],[],[],Q,[],ro,0,0,0⟩ frm [] q hq za_) rfl (.cons _ (@List.perm_append_comm _ [_] _)) zt rfl fun x=>?_));obtain⟨N,K⟩:=x;have O:=bv_ frm [] ⟨5,[],[],[],Q,[],ro,0,0,0⟩;refine C_ (@List.perm_append_comm _ _ [_]) (Zz 2 ?_);refine R_ (fun _ a b=>⟨Vw.sat.sub a,b⟩) (Zz 2 ?_)
            have e:Ax.pieces frm ⟨k,U,(.mk kl I J hl al cl pl),(.mk y d C E A B H),ad,cap,M,ro,a,b⟩=(ins frm [] ⟨5,[],[],[],Q,[],ro,0,0,0⟩):=by
              unfold Ax.pieces;dsimp only;rw[qW_ V]
              repeat (first|rfl|(rw[if_pos za_])|(rw[if_neg za_]))
            exact cp_ eI_ ⟨N,by rw[e];exact K⟩ rfl (F:=[_]) (@List.perm_append_comm _ [_] _) zt
        · skip
          obtain⟨fr,zr⟩:=Con.check_zero (G.right zaa_);dsimp only at fr zr;refine Zz 9 ?_;refine ao_ (jU_ (kb:=kb) (bk:=bk) (bs:=br) _ (.mk y d C E A B H) (Nat.le_refl _) L.right fr [] q hq za_) rfl rfl (@List.perm_append_comm _ [_] _) (fun v _ h=>by exact⟨h.2.2.2.1.2.1,h.2.2.2.2.1,h.1,h.2.2.1,trivial⟩) rfl fun x=>?_;obtain⟨N,K⟩:=x;have O:=Con.rightP_len frm _ (.mk y d C E A B H) (Nat.le_refl _) [];refine C_ (@List.perm_append_comm _ _ [_]) (Zz 2 ?_);refine ah_ [(S,.cells (Ax.cells (Ax.mk k U (Con.mk kl I J hl al cl pl) (Con.mk y d C E A B H) ad cap M ro a b)).toArray 42 (0,0))] zk ?_;refine t_ 4 [0,1,2,3,4] zk (fun _ a b=>⟨Vw.sat.sub a,b⟩) (Zz 6 ?_);refine o_ 5 rfl zk (j_ (dx_ (.mk y d C E A B H) L.right) rfl (.refl _) (fun v _ h=>⟨h.2.2.2.1.2.1,h.2.2.2.2.1,trivial⟩) rfl fun _=>Zz 2 ?_);refine R_ (fun _ a b=>⟨Vw.sat.sub a,b⟩) (t_ 2 [6] zk (fun _ a b=>⟨Vw.sat.sub a,b⟩) (N_ rfl (J_ dh_ rfl rfl) rfl (bh_ (o_ 7 rfl zk (X_ D_ F_ T_ rfl rfl rfl rfl rfl rfl fun T=>Zz 2 ?_)))));refine R_ (fun _ a b=>⟨Vw.sat.sub a.tail,b⟩) (o_ 8 rfl zk (j_ (eg_ ⟨4,[42],[],(Con.atom (.mk y d C E A B H)),ro,[],[],0,0,0⟩ frm (Con.rightP frm (.mk y d C E A B H) []) N K za_) rfl (.cons _ (@List.perm_append_comm _ [_] _)) zt rfl fun x=>?_));obtain⟨R,P⟩:=x;have Y:=bv_ frm (Con.rightP frm (.mk y d C E A B H) []) ⟨4,[42],[],(Con.atom (.mk y d C E A B H)),ro,[],[],0,0,0⟩;refine C_ (@List.perm_append_comm _ _ [_]) (Zz 2 ?_);refine R_ (fun _ a b=>⟨Vw.sat.sub a,b⟩) (Zz 2 ?_)
          have e:Ax.pieces frm ⟨k,U,(.mk kl I J hl al cl pl),(.mk y d C E A B H),ad,cap,M,ro,a,b⟩=(ins frm (Con.rightP frm (.mk y d C E A B H) []) ⟨4,[42],[],(Con.atom (.mk y d C E A B H)),ro,[],[],0,0,0⟩):=by
            unfold Ax.pieces;dsimp only
            repeat (first|rfl|(rw[if_pos za_])|(rw[if_neg za_]))
          exact cp_ eI_ ⟨R,by rw[e];exact P⟩ rfl (F:=[_]) (@List.perm_append_comm _ [_] _) zt
      · skip
        obtain⟨fl,zl⟩:=Con.check_zero (G.left (by show k≤3;omega));dsimp only at fl zl;obtain⟨fr,zr⟩:=Con.check_zero (G.right zaa_);dsimp only at fr zr;refine Zz 9 ?_;refine ao_ (nr_ (kb:=kb) (bk:=bk) (bs:=bl) _ (.mk kl I J hl al cl pl) (Nat.le_refl _) L.left fl [] q hq za_) rfl rfl (@List.perm_append_comm _ [_] _) (fun v _ h=>by exact⟨h.2.2.2.1.1,h.2.2.2.2.1,h.1,h.2.1,trivial⟩) rfl fun x=>?_;obtain⟨N,K⟩:=x;have O:=Con.leftP_len frm _ (.mk kl I J hl al cl pl) (Nat.le_refl _) [];refine C_ (@List.perm_append_comm _ _ [_]) (Zz 7 ?_);refine ao_ (nr_ (kb:=kb) (bk:=bk) (bs:=bl) _ (.mk y d C E A B H) (Nat.le_refl _) L.right fr (Con.leftP frm (.mk kl I J hl al cl pl) []) N K za_) rfl rfl (@List.perm_append_comm _ [_] _) (fun v _ h=>by exact⟨h.2.2.2.1.2.1,h.2.2.2.2.1,h.1,h.2.1,trivial⟩) rfl fun x=>?_;obtain⟨R,P⟩:=x;have Y:=Con.leftP_len frm _ (.mk y d C E A B H) (Nat.le_refl _) (Con.leftP frm (.mk kl I J hl al cl pl) []);refine C_ (@List.perm_append_comm _ _ [_]) (Zz 2 ?_);refine ah_ [(S,.cells (Ax.cells (Ax.mk k U (Con.mk kl I J hl al cl pl) (Con.mk y d C E A B H) ad cap M ro a b)).toArray 42 (0,0))] zk ?_;refine t_ 5 [0,1,2,4,5] zk (fun _ a b=>⟨Vw.sat.sub a,b⟩) (Zz 6 ?_);refine o_ 3 rfl zk (j_ (dx_ (.mk kl I J hl al cl pl) L.left) rfl (.refl _) (fun v _ h=>⟨h.2.2.2.1.1,h.2.2.2.2.1,trivial⟩) rfl fun _=>Zz 2 ?_);refine R_ (fun _ a b=>⟨Vw.sat.sub a,b⟩) (o_ 6 rfl zk (j_ (dx_ (.mk y d C E A B H) L.right) rfl (.refl _) (fun v _ h=>⟨h.2.2.2.1.2.1,h.2.2.2.2.1,trivial⟩) rfl fun _=>Zz 2 ?_));refine R_ (fun _ a b=>⟨Vw.sat.sub a,b⟩) (t_ 2 [7] zk (fun _ a b=>⟨Vw.sat.sub a,b⟩) (N_ rfl (J_ dh_ rfl rfl) rfl (bh_ (o_ 8 rfl zk (X_ D_ F_ T_ rfl rfl rfl rfl rfl rfl fun T=>Zz 2 ?_)))));refine R_ (fun _ a b=>⟨Vw.sat.sub a.tail,b⟩) (o_ 9 rfl zk (j_ (eg_ ⟨2,(Con.atom (.mk kl I J hl al cl pl)),(Con.atom (.mk y d C E A B H)),[33],[],[],[],0,0,0⟩ frm (Con.leftP frm (.mk y d C E A B H) (Con.leftP frm (.mk kl I J hl al cl pl) [])) R P za_) rfl (.cons _ (@List.perm_append_comm _ [_] _)) zt rfl fun x=>?_));obtain⟨a4,W⟩:=x;have hb_3:=bv_ frm (Con.leftP frm (.mk y d C E A B H) (Con.leftP frm (.mk kl I J hl al cl pl) [])) ⟨2,(Con.atom (.mk kl I J hl al cl pl)),(Con.atom (.mk y d C E A B H)),[33],[],[],[],0,0,0⟩;refine C_ (@List.perm_append_comm _ _ [_]) (Zz 2 ?_);refine R_ (fun _ a b=>⟨Vw.sat.sub a,b⟩) (Zz 2 ?_)
        have e:Ax.pieces frm ⟨k,U,(.mk kl I J hl al cl pl),(.mk y d C E A B H),ad,cap,M,ro,a,b⟩=(ins frm (Con.leftP frm (.mk y d C E A B H) (Con.leftP frm (.mk kl I J hl al cl pl) [])) ⟨2,(Con.atom (.mk kl I J hl al cl pl)),(Con.atom (.mk y d C E A B H)),[33],[],[],[],0,0,0⟩):=by
          unfold Ax.pieces;dsimp only
          repeat (first|rfl|(rw[if_pos za_])|(rw[if_neg za_]))
        exact cp_ eI_ ⟨a4,by rw[e];exact W⟩ rfl (F:=[_]) (@List.perm_append_comm _ [_] _) zt
    · skip
      obtain⟨fl,zl⟩:=Con.check_zero (G.left (by show k≤3;omega));dsimp only at fl zl;obtain⟨fr,zr⟩:=Con.check_zero (G.right zaa_);dsimp only at fr zr;refine Zz 9 ?_;refine ao_ (nr_ (kb:=kb) (bk:=bk) (bs:=bl) _ (.mk kl I J hl al cl pl) (Nat.le_refl _) L.left fl [] q hq za_) rfl rfl (@List.perm_append_comm _ [_] _) (fun v _ h=>by exact⟨h.2.2.2.1.1,h.2.2.2.2.1,h.1,h.2.1,trivial⟩) rfl fun x=>?_;obtain⟨N,K⟩:=x;have O:=Con.leftP_len frm _ (.mk kl I J hl al cl pl) (Nat.le_refl _) [];refine C_ (@List.perm_append_comm _ _ [_]) (Zz 7 ?_);refine ao_ (jU_ (kb:=kb) (bk:=bk) (bs:=br) _ (.mk y d C E A B H) (Nat.le_refl _) L.right fr (Con.leftP frm (.mk kl I J hl al cl pl) []) N K za_) rfl rfl (@List.perm_append_comm _ [_] _) (fun v _ h=>by exact⟨h.2.2.2.1.2.1,h.2.2.2.2.1,h.1,h.2.2.1,trivial⟩) rfl fun x=>?_;obtain⟨R,P⟩:=x;have Y:=Con.rightP_len frm _ (.mk y d C E A B H) (Nat.le_refl _) (Con.leftP frm (.mk kl I J hl al cl pl) []);refine C_ (@List.perm_append_comm _ _ [_]) (Zz 3 ?_);refine ah_ [(S,.cells (Ax.cells (Ax.mk k U (Con.mk kl I J hl al cl pl) (Con.mk y d C E A B H) ad cap M ro a b)).toArray 42 (0,0))] zk ?_;refine t_ 5 [0,1,2,4,5] zk (fun _ a b=>⟨Vw.sat.sub a,b⟩) (Zz 6 ?_);refine o_ 3 rfl zk (j_ (dx_ (.mk kl I J hl al cl pl) L.left) rfl (.refl _) (fun v _ h=>⟨h.2.2.2.1.1,h.2.2.2.2.1,trivial⟩) rfl fun _=>Zz 2 ?_);refine R_ (fun _ a b=>⟨Vw.sat.sub a,b⟩) (o_ 6 rfl zk (j_ (dx_ (.mk y d C E A B H) L.right) rfl (.refl _) (fun v _ h=>⟨h.2.2.2.1.2.1,h.2.2.2.2.1,trivial⟩) rfl fun _=>Zz 2 ?_));refine R_ (fun _ a b=>⟨Vw.sat.sub a,b⟩) (t_ 2 [7] zk (fun _ a b=>⟨Vw.sat.sub a,b⟩) (N_ rfl (J_ dh_ rfl rfl) rfl (bh_ (o_ 8 rfl zk (X_ D_ F_ T_ rfl rfl rfl rfl rfl rfl fun T=>Zz 2 ?_)))));refine R_ (fun _ a b=>⟨Vw.sat.sub a.tail,b⟩) (o_ 9 rfl zk (j_ (eg_ ⟨1,(Con.atom (.mk kl I J hl al cl pl)),[],(Con.atom (.mk y d C E A B H)),[],[],[],0,0,0⟩ frm (Con.rightP frm (.mk y d C E A B H) (Con.leftP frm (.mk kl I J hl al cl pl) [])) R P za_) rfl (.cons _ (@List.perm_append_comm _ [_] _)) zt rfl fun x=>?_));obtain⟨a4,W⟩:=x;have hb_3:=bv_ frm (Con.rightP frm (.mk y d C E A B H) (Con.leftP frm (.mk kl I J hl al cl pl) [])) ⟨1,(Con.atom (.mk kl I J hl al cl pl)),[],(Con.atom (.mk y d C E A B H)),[],[],[],0,0,0⟩;refine C_ (@List.perm_append_comm _ _ [_]) (Zz 2 ?_);refine R_ (fun _ a b=>⟨Vw.sat.sub a,b⟩) (Zz 7 ?_);refine ao_ (nr_ (kb:=kb) (bk:=bk) (bs:=bl) _ (.mk y d C E A B H) (Nat.le_refl _) L.right fr (ins frm (Con.rightP frm (.mk y d C E A B H) (Con.leftP frm (.mk kl I J hl al cl pl) [])) ⟨1,(Con.atom (.mk kl I J hl al cl pl)),[],(Con.atom (.mk y d C E A B H)),[],[],[],0,0,0⟩) a4 W za_) rfl rfl (@List.perm_append_comm _ [_] _) (fun v _ h=>by exact⟨h.2.2.2.1.2.1,h.2.2.2.2.1,h.1,h.2.1,trivial⟩) rfl fun x=>?_;obtain⟨q_4,hq_4⟩:=x;have hb_4:=Con.leftP_len frm _ (.mk y d C E A B H) (Nat.le_refl _) (ins frm (Con.rightP frm (.mk y d C E A B H) (Con.leftP frm (.mk kl I J hl al cl pl) [])) ⟨1,(Con.atom (.mk kl I J hl al cl pl)),[],(Con.atom (.mk y d C E A B H)),[],[],[],0,0,0⟩);refine C_ (@List.perm_append_comm _ _ [_]) (Zz 7 ?_);refine ao_ (jU_ (kb:=kb) (bk:=bk) (bs:=br) _ (.mk kl I J hl al cl pl) (Nat.le_refl _) L.left fl (Con.leftP frm (.mk y d C E A B H) (ins frm (Con.rightP frm (.mk y d C E A B H) (Con.leftP frm (.mk kl I J hl al cl pl) [])) ⟨1,(Con.atom (.mk kl I J hl al cl pl)),[],(Con.atom (.mk y d C E A B H)),[],[],[],0,0,0⟩)) q_4 hq_4 za_) rfl rfl (@List.perm_append_comm _ [_] _) (fun v _ h=>by exact⟨h.2.2.2.1.1,h.2.2.2.2.1,h.1,h.2.2.1,trivial⟩) rfl fun x=>?_;obtain⟨q_5,hq_5⟩:=x;have hb_5:=Con.rightP_len frm _ (.mk kl I J hl al cl pl) (Nat.le_refl _) (Con.leftP frm (.mk y d C E A B H) (ins frm (Con.rightP frm (.mk y d C E A B H) (Con.leftP frm (.mk kl I J hl al cl pl) [])) ⟨1,(Con.atom (.mk kl I J hl al cl pl)),[],(Con.atom (.mk y d C E A B H)),[],[],[],0,0,0⟩));refine C_ (@List.perm_append_comm _ _ [_]) (Zz 2 ?_);refine ah_ [(S,.cells (Ax.cells (Ax.mk k U (Con.mk kl I J hl al cl pl) (Con.mk y d C E A B H) ad cap M ro a b)).toArray 42 (0,0))] zk ?_;refine t_ 5 [0,1,2,4,5] zk (fun _ a b=>⟨Vw.sat.sub a,b⟩) (Zz 6 ?_);refine o_ 3 rfl zk (j_ (dx_ (.mk y d C E A B H) L.right) rfl (.refl _) (fun v _ h=>⟨h.2.2.2.1.2.1,h.2.2.2.2.1,trivial⟩) rfl fun _=>Zz 2 ?_);refine R_ (fun _ a b=>⟨Vw.sat.sub a,b⟩) (o_ 6 rfl zk (j_ (dx_ (.mk kl I J hl al cl pl) L.left) rfl (.refl _) (fun v _ h=>⟨h.2.2.2.1.1,h.2.2.2.2.1,trivial⟩) rfl fun _=>Zz 2 ?_));refine R_ (fun _ a b=>⟨Vw.sat.sub a,b⟩) (t_ 2 [7] zk (fun _ a b=>⟨Vw.sat.sub a,b⟩) (N_ rfl (J_ dh_ rfl rfl) rfl (bh_ (o_ 8 rfl zk (X_ D_ F_ T_ rfl rfl rfl rfl rfl rfl fun b_3=>Zz 2 ?_)))));refine R_ (fun _ a b=>⟨Vw.sat.sub a.tail,b⟩) (o_ 9 rfl zk (j_ (eg_ ⟨1,(Con.atom (.mk y d C E A B H)),[],(Con.atom (.mk kl I J hl al cl pl)),[],[],[],0,0,0⟩ frm (Con.rightP frm (.mk kl I J hl al cl pl) (Con.leftP frm (.mk y d C E A B H) (ins frm (Con.rightP frm (.mk y d C E A B H) (Con.leftP frm (.mk kl I J hl al cl pl) [])) ⟨1,(Con.atom (.mk kl I J hl al cl pl)),[],(Con.atom (.mk y d C E A B H)),[],[],[],0,0,0⟩))) q_5 hq_5 za_) rfl (.cons _ (@List.perm_append_comm _ [_] _)) zt rfl fun x=>?_));obtain⟨q_6,hq_6⟩:=x;have hb_6:=bv_ frm (Con.rightP frm (.mk kl I J hl al cl pl) (Con.leftP frm (.mk y d C E A B H) (ins frm (Con.rightP frm (.mk y d C E A B H) (Con.leftP frm (.mk kl I J hl al cl pl) [])) ⟨1,(Con.atom (.mk kl I J hl al cl pl)),[],(Con.atom (.mk y d C E A B H)),[],[],[],0,0,0⟩))) ⟨1,(Con.atom (.mk y d C E A B H)),[],(Con.atom (.mk kl I J hl al cl pl)),[],[],[],0,0,0⟩;refine C_ (@List.perm_append_comm _ _ [_]) (Zz 2 ?_);refine R_ (fun _ a b=>⟨Vw.sat.sub a,b⟩) (Zz 2 ?_)
      have e:Ax.pieces frm ⟨k,U,(.mk kl I J hl al cl pl),(.mk y d C E A B H),ad,cap,M,ro,a,b⟩=(ins frm (Con.rightP frm (.mk kl I J hl al cl pl) (Con.leftP frm (.mk y d C E A B H) (ins frm (Con.rightP frm (.mk y d C E A B H) (Con.leftP frm (.mk kl I J hl al cl pl) [])) ⟨1,(Con.atom (.mk kl I J hl al cl pl)),[],(Con.atom (.mk y d C E A B H)),[],[],[],0,0,0⟩))) ⟨1,(Con.atom (.mk y d C E A B H)),[],(Con.atom (.mk kl I J hl al cl pl)),[],[],[],0,0,0⟩):=by
        unfold Ax.pieces;dsimp only
        repeat (first|rfl|(rw[if_pos za_])|(rw[if_neg za_]))
      exact cp_ eI_ ⟨q_6,by rw[e];exact hq_6⟩ rfl (F:=[_]) (@List.perm_append_comm _ [_] _) zt
  · skip
    obtain⟨fl,zl⟩:=Con.check_zero (G.left (by show k≤3;omega));dsimp only at fl zl;obtain⟨fr,zr⟩:=Con.check_zero (G.right zaa_);dsimp only at fr zr;refine Zz 9 ?_;refine ao_ (nr_ (kb:=kb) (bk:=bk) (bs:=bl) _ (.mk kl I J hl al cl pl) (Nat.le_refl _) L.left fl [] q hq za_) rfl rfl (@List.perm_append_comm _ [_] _) (fun v _ h=>by exact⟨h.2.2.2.1.1,h.2.2.2.2.1,h.1,h.2.1,trivial⟩) rfl fun x=>?_;obtain⟨N,K⟩:=x;have O:=Con.leftP_len frm _ (.mk kl I J hl al cl pl) (Nat.le_refl _) [];refine C_ (@List.perm_append_comm _ _ [_]) (Zz 7 ?_);refine ao_ (jU_ (kb:=kb) (bk:=bk) (bs:=br) _ (.mk y d C E A B H) (Nat.le_refl _) L.right fr (Con.leftP frm (.mk kl I J hl al cl pl) []) N K za_) rfl rfl (@List.perm_append_comm _ [_] _) (fun v _ h=>by exact⟨h.2.2.2.1.2.1,h.2.2.2.2.1,h.1,h.2.2.1,trivial⟩) rfl fun x=>?_;obtain⟨R,P⟩:=x;have Y:=Con.rightP_len frm _ (.mk y d C E A B H) (Nat.le_refl _) (Con.leftP frm (.mk kl I J hl al cl pl) []);refine C_ (@List.perm_append_comm _ _ [_]) (Zz 2 ?_);refine ah_ [(S,.cells (Ax.cells (Ax.mk k U (Con.mk kl I J hl al cl pl) (Con.mk y d C E A B H) ad cap M ro a b)).toArray 42 (0,0))] zk ?_;refine t_ 5 [0,1,2,4,5] zk (fun _ a b=>⟨Vw.sat.sub a,b⟩) (Zz 6 ?_);refine o_ 3 rfl zk (j_ (dx_ (.mk kl I J hl al cl pl) L.left) rfl (.refl _) (fun v _ h=>⟨h.2.2.2.1.1,h.2.2.2.2.1,trivial⟩) rfl fun _=>Zz 2 ?_);refine R_ (fun _ a b=>⟨Vw.sat.sub a,b⟩) (o_ 6 rfl zk (j_ (dx_ (.mk y d C E A B H) L.right) rfl (.refl _) (fun v _ h=>⟨h.2.2.2.1.2.1,h.2.2.2.2.1,trivial⟩) rfl fun _=>Zz 2 ?_));refine R_ (fun _ a b=>⟨Vw.sat.sub a,b⟩) (t_ 2 [7] zk (fun _ a b=>⟨Vw.sat.sub a,b⟩) (N_ rfl (J_ dh_ rfl rfl) rfl (bh_ (o_ 8 rfl zk (X_ D_ F_ T_ rfl rfl rfl rfl rfl rfl fun T=>Zz 2 ?_)))));refine R_ (fun _ a b=>⟨Vw.sat.sub a.tail,b⟩) (o_ 9 rfl zk (j_ (eg_ ⟨1,(Con.atom (.mk kl I J hl al cl pl)),[],(Con.atom (.mk y d C E A B H)),[],[],[],0,0,0⟩ frm (Con.rightP frm (.mk y d C E A B H) (Con.leftP frm (.mk kl I J hl al cl pl) [])) R P za_) rfl (.cons _ (@List.perm_append_comm _ [_] _)) zt rfl fun x=>?_));obtain⟨a4,W⟩:=x;have hb_3:=bv_ frm (Con.rightP frm (.mk y d C E A B H) (Con.leftP frm (.mk kl I J hl al cl pl) [])) ⟨1,(Con.atom (.mk kl I J hl al cl pl)),[],(Con.atom (.mk y d C E A B H)),[],[],[],0,0,0⟩;refine C_ (@List.perm_append_comm _ _ [_]) (Zz 2 ?_);refine R_ (fun _ a b=>⟨Vw.sat.sub a,b⟩) (Zz 2 ?_)
    have e:Ax.pieces frm ⟨k,U,(.mk kl I J hl al cl pl),(.mk y d C E A B H),ad,cap,M,ro,a,b⟩=(ins frm (Con.rightP frm (.mk y d C E A B H) (Con.leftP frm (.mk kl I J hl al cl pl) [])) ⟨1,(Con.atom (.mk kl I J hl al cl pl)),[],(Con.atom (.mk y d C E A B H)),[],[],[],0,0,0⟩):=by
      unfold Ax.pieces;dsimp only
      repeat (first|rfl|(rw[if_pos za_])|(rw[if_neg za_]))
    exact cp_ eI_ ⟨a4,by rw[e];exact W⟩ rfl (F:=[_]) (@List.perm_append_comm _ [_] _) zt
theorem ax_.form {e:TypeId} {sz n:Nat} {sv:Value} {x:List Value} {Hr:Hp} (h:ax_ e sz sv n x Hr):∃ ad cap,sv=.slice ad n cap:=by
 rcases h.2 with⟨d,q,_⟩|⟨g,cap,cur,d,_⟩
 ·exact⟨none,0,by rw[d,q]⟩
 exact⟨_,cap,d⟩
theorem ax_.nilcap {e:TypeId} {sz n m cap:Nat} {sv:Value} {x:List Value} {Hr:Hp} {ad:Option Addr} (h:ax_ e sz sv n x Hr) (d:sv=.slice ad m cap):ad=none→cap=0:=fun y=>by
 rcases h.2 with⟨q,_,_⟩|⟨g,c,cur,q,_⟩
 ·rw[q]at d;simp only[Value.slice.injEq]at d;exact d.2.2.symm
 rw[q,y]at d;simp at d
theorem tW_ (l:List Ax) (ad:Option Addr) (cap:Nat) (a6:l.length≤2199023255488) (V:∀ x∈l,x.ok) :
    Tri Tryz.prog 31 #[.slice ad l.length cap] [] [ge_ ad l,cn_] (fun y:{y:Option Addr×Nat // (bz_ l).1.length≤y.2∧y.2≤maxLen∧(y.1=none→y.2=0)}=>.tuple #[.slice y.1.1 (bz_ l).1.length y.1.2,.int .i64 (bz_ l).2]) (fun _=>[]) (fun y=>[ai_ y.1.1 ((bz_ l).1.flatMap Pc.cells)]):=by
  refine i_ Tryz.func31 rfl rfl Tryz.ntmps31 rfl fun v_1=>?_;refine bf_ ?_;refine aI_ ?_;refine e_ (ay_ rfl) rfl ?_;refine e_ (ay_ rfl) rfl ?_;refine bs_ ?_;refine aY_ rfl ?_;refine bf_ ?_;refine bf_ ?_;refine aI_ ?_;refine e_ (al_ rfl) rfl ?_;refine e_ (dC_ bd_ rfl) rfl ?_;refine G_ (dA_ rfl rfl) rfl fun a0 H=>?_;refine bs_ ?_;refine aY_ rfl ?_;cases a0
  · skip
    replace H:=zdf H;try dsimp only[Con.kind,Con.parts,Con.name,Con.lo,Con.hi,Con.cap,Con.ad]at H
    refine fb_ rfl ?_;refine gP_ ?_;refine aY_ rfl ?_;refine bf_ ?_;refine bf_ ?_;refine aI_ ?_;refine e_ (al_ rfl) rfl ?_;refine e_ (dC_ bd_ rfl) rfl ?_;refine e_ (al_ rfl) rfl ?_;refine bs_ ?_;refine aY_ rfl ?_;refine gQ_ ?_;refine bJ_ [(0,.slice ad l.length cap),(2,.slice none 0 0),(13,.slice ad l.length cap),(14,.int .i64 (l.length:Int)),(15,.int .i64 ((0:Nat):Int))] zl ?_;refine ci_ (ι:={q:Nat // q≤l.length∧∀ y∈l.take q,y.check=0}) (fun i=>[(0,.slice ad l.length cap),(2,.slice none 0 0),(13,.slice ad l.length cap),(14,.int .i64 (l.length:Int)),(15,.int .i64 (i.1:Int))]) (fun _=>_) (fun _=>_) (fun i=>l.length - i.1) ⟨0,by simp⟩ ?_;rintro ⟨i,hk⟩;refine bJ_ [(0,.slice ad l.length cap),(2,.slice none 0 0),(13,.slice ad l.length cap),(14,.int .i64 (l.length:Int)),(15,.int .i64 (i:Int))] zl ?_;refine bf_ ?_;refine aI_ ?_;refine G_ (dg_ rfl rfl) rfl fun a2 C=>?_;refine bs_ ?_;refine aY_ rfl ?_;refine bf_ ?_;cases a2
    · skip
      replace C:=zdf C;try dsimp only[Con.kind,Con.parts,Con.name,Con.lo,Con.hi,Con.cap,Con.ad]at C
      obtain rfl:i=l.length:=by omega
      try rw[List.take_length]at hk
      refine fb_ rfl ?_;refine mO_ rfl ?_;refine aY_ rfl ?_;refine bf_ ?_;refine bf_ ?_;refine aI_ ?_;refine e_ (al_ rfl) rfl ?_;refine e_ (dC_ bd_ rfl) rfl ?_;refine e_ (al_ rfl) rfl ?_;refine bs_ ?_;refine aY_ rfl ?_;refine gQ_ ?_;have K:=hk.2;refine bJ_ [(2,.slice none 0 0),(25,.slice ad l.length cap),(26,.int .i64 (l.length:Int)),(27,.int .i64 ((0:Nat):Int))] zl ?_;refine ci_ (ι:={x:Nat×List Pc×Value×Hp // x.1≤l.length∧ax_ 174 10 x.2.2.1 x.2.1.length (x.2.1.flatMap Pc.cells) x.2.2.2∧x.2.1.length≤16384∧hw_ 0 l []=hw_ x.1 (l.drop x.1) x.2.1}) (fun x=>[(2,x.1.2.2.1),(25,.slice ad l.length cap),(26,.int .i64 (l.length:Int)),(27,.int .i64 (x.1.1:Int))]) (fun x=>x.1.2.2.2) (fun _=>_) (fun x=>l.length - x.1.1) ⟨(0,[],.slice none 0 0,[]),by simp,ax_.nil _ _,by simp,rfl⟩ ?_;clear hk;rintro ⟨⟨i,p,sv,Hr⟩,hk⟩;dsimp only at hk;refine bJ_ [(2,sv),(25,.slice ad l.length cap),(26,.int .i64 (l.length:Int)),(27,.int .i64 (i:Int))] zl ?_;refine bf_ ?_;refine aI_ ?_;refine G_ (dg_ rfl rfl) rfl fun S d=>?_;refine bs_ ?_;refine aY_ rfl ?_;refine bf_ ?_;cases S
      · skip
        replace d:=zdf d;try dsimp only[Con.kind,Con.parts,Con.name,Con.lo,Con.hi,Con.cap,Con.ad]at d
        obtain rfl:i=l.length:=by omega
        try rw[List.take_length]at hk
        refine fb_ rfl ?_;refine mO_ rfl ?_;refine aY_ rfl ?_;refine bf_ ?_;refine aI_ ?_;refine e_ (al_ rfl) rfl ?_;refine e_ (ay_ rfl) rfl ?_;refine e_ (ay_ rfl) rfl ?_;refine bs_ ?_;refine aY_ rfl ?_;refine iJ_ ?_;refine ju_ hk.2.1 (F:=[]) (by rw[List.append_nil]) fun B A N Y X=>?_
        have e:bz_ l=(p,0):=by
          unfold bz_;rw[if_neg za_,if_neg (by simp[fm_ K]),hk.2.2.2,List.drop_length];first|done|rfl
        have I:(bz_ l).1.length≤A∧A≤maxLen∧(B=none→A=0):=by rw[e];exact⟨Y,X,ax_.nilcap hk.2.1 N⟩
        have R:Value.tuple #[sv,.int .i64 0]=.tuple #[.slice B (bz_ l).1.length A,.int .i64 (bz_ l).2]:=by rw[e,N]
        have Q:(p.flatMap Pc.cells)=((bz_ l).1.flatMap Pc.cells):=by rw[e]
        exact kK_ Tryz.results31 ⟨(B,A),I⟩ rfl rfl R (.refl _) (fun v _ h=>⟨Q▸h.1,trivial⟩)
      · skip
        replace d:=zdt d;try dsimp only[Con.kind,Con.parts,Con.name,Con.lo,Con.hi,Con.cap,Con.ad]at d
        have L:i<l.length:=by omega
        obtain⟨x,M⟩:∃ x,l[i]? = some x:=⟨_,List.getElem?_eq_getElem L⟩;have J:x∈l:=List.mem_of_getElem? M;refine bV_ rfl ?_;refine gP_ ?_;refine aY_ rfl ?_;refine bf_ ?_;refine gQ_ ?_;refine bf_ ?_;have G:=Ax.good_of (K x J);have hpl:=jt_ (i:Int) G;refine aI_ ?_;refine e_ (al_ rfl) rfl ?_;refine e_ (O_ bd_ bS_ rfl rfl (fun v _ h=>aq_ (n:=16) Ax.cells_len ze_ (h.1.1) M) za_ zh_) rfl ?_;refine e_ (ae_ (ad:=ad) (us:=x.cells) Tryz.isAgg42 bS_ rfl (fun v _ h=>h.1.1) (Ax.cells_len _) (p_ Ax.cells_len M)) rfl ?_;refine E_ dr_ rfl fun a1=>?_;refine e_ (ay_ rfl) rfl ?_;refine nb_ (us:=x.cells) 0 bS_ x.cells_len x.one_cells rfl rfl rfl rfl ?_;refine bs_ ?_;refine aY_ rfl ?_;refine bf_ ?_;refine aI_ ?_;refine e_ (al_ rfl) rfl ?_;refine j_ (nm_ (i:Int)) rfl (.refl _) zt rfl fun⟨kb,bm⟩=>?_;refine e_ (ay_ rfl) rfl ?_;refine bs_ ?_;refine aY_ rfl ?_;refine bf_ ?_;refine aI_ ?_;refine e_ (al_ rfl) rfl ?_;refine e_ (oh_ (us:=x.cells) 2 Tryz.isAgg42 bS_ x.cells_len rfl rfl) rfl ?_;refine j_ (yu_ x (V x J) (K x J) (i:Int) ⟨.slice none 0 0,bm,#[],0,[]⟩ ⟨ax_.nil _ _,rfl,by simp⟩) rfl (.refl _) (fun v _ h=>⟨h.1.2 x J,h.2.1,trivial⟩) rfl fun y=>?_;obtain⟨⟨a9,a7,b0,a8,a5⟩,hq⟩:=y;have U:=hq.row;dsimp only at U;have W:(x.pieces (i:Int)).length≠0:=fun e=>Ax.pieces_ne _ G (List.eq_nil_of_length_eq_zero e)
        obtain⟨g,cp,cur,rfl,rfl,b1,h_2,h_3,a3⟩:=U.some W;refine bs_ ?_;refine aY_ rfl ?_;refine bf_ ?_;refine aI_ ?_;refine e_ (al_ rfl) rfl ?_;refine e_ (al_ rfl) rfl ?_;refine e_ (kB_ rfl) rfl ?_;refine e_ (bO_ bY_ rfl rfl rfl yL_) rfl ?_;refine e_ (aG_ 0 Tryz.isAgg63 rfl rfl rfl) rfl ?_;refine am_ ww_ hk.2.1 rfl rfl (@List.perm_append_comm _ [_,_,_,_] _) (by rw[dv_ Pc.cells 10 Pc.cells_len]) (tY_ 2 rfl a3) (fun u hu=>by obtain⟨y,_,I⟩:=List.mem_flatMap.1 hu;exact ka_ y.cells_one u I) zm_ za_ rfl fun P T O=>?_;refine C_ (@List.perm_append_comm _ _ [_,_,_,_]) ?_;have Z:∃ B A,P=.slice B (p.length+(x.pieces (i:Int)).length) A:=ax_.form O;obtain⟨B,A,N⟩:=Z;refine e_ (ay_ rfl) rfl ?_;refine bs_ ?_;refine aY_ rfl ?_;refine bf_ ?_;refine aI_ ?_;refine e_ (al_ rfl) rfl ?_;refine e_ (dC_ (ad:=B) (len:=p.length+(x.pieces (i:Int)).length) (cap:=A) D_ (congrArg some N)) rfl ?_;refine G_ (dA_ rfl rfl) rfl fun a4 E=>?_;refine bs_ ?_;refine aY_ rfl ?_;cases a4
        · skip
          replace E:=zdf E;try dsimp only[Con.kind,Con.parts,Con.name,Con.lo,Con.hi,Con.cap,Con.ad]at E
          refine fb_ rfl ?_;refine gP_ ?_;refine aY_ rfl ?_;refine aI_ ?_;refine e_ (aZ_ rfl rfl rfl (ce_ za_ za_)) rfl ?_;refine e_ (al_ rfl) rfl ?_;refine bs_ ?_;refine fI_ rfl ?_;exact x_ ⟨(i+1,p++x.pieces (i:Int),P,T),L,by simpa [List.flatMap_append] using O,by simp only[List.length_append];omega,by rw[hk.2.2.2,kp_ M];simp only[hw_];rw[if_neg (by simp only[List.length_append];omega)]⟩ zn_ zl (F:=[_,_,_,_]) (@List.perm_append_comm _ [_,_,_,_] _) zh
        · skip
          replace E:=zdt E;try dsimp only[Con.kind,Con.parts,Con.name,Con.lo,Con.hi,Con.cap,Con.ad]at E
          refine bV_ rfl ?_;refine bf_ ?_;refine aI_ ?_;refine e_ (ay_ rfl) rfl ?_;refine e_ (ay_ rfl) rfl ?_;refine bs_ ?_;refine aY_ rfl ?_;refine iJ_ ?_;have e:bz_ l=([],2):=by unfold bz_;rw[if_neg za_,if_neg (by simp[fm_ K]),hk.2.2.2,kp_ M];simp only[hw_];rw[if_pos (by simp only[List.length_append];omega)]
          have I:(bz_ l).1.length≤0∧0≤maxLen∧((none:Option Addr)=none→0=0):=by rw[e];simp
          have R:Value.tuple #[.slice none 0 0,.int .i64 2]=.tuple #[.slice none (bz_ l).1.length 0,.int .i64 (bz_ l).2]:=by rw[e]<;>rfl
          have Q:(bz_ l).1.flatMap Pc.cells=[]:=by rw[e]<;>rfl
          exact kK_ Tryz.results31 ⟨(none,0),I⟩ rfl rfl R (.refl _) (fun v _ h=>⟨.inl Q,trivial⟩)
    · skip
      replace C:=zdt C;try dsimp only[Con.kind,Con.parts,Con.name,Con.lo,Con.hi,Con.cap,Con.ad]at C
      have L:i<l.length:=by omega
      obtain⟨x,M⟩:∃ x,l[i]? = some x:=⟨_,List.getElem?_eq_getElem L⟩;have J:x∈l:=List.mem_of_getElem? M;refine bV_ rfl ?_;refine gP_ ?_;refine aY_ rfl ?_;refine bf_ ?_;refine gQ_ ?_;refine bf_ ?_;refine aI_ ?_;refine e_ (O_ bd_ bS_ rfl rfl (fun v _ h=>aq_ (n:=16) Ax.cells_len ze_ (h.1.1) M) za_ zh_) rfl ?_;refine e_ (ae_ (ad:=ad) (us:=x.cells) Tryz.isAgg42 bS_ rfl (fun v _ h=>h.1.1) (Ax.cells_len _) (p_ Ax.cells_len M)) rfl ?_;refine E_ dr_ rfl fun a1=>?_;refine nb_ (us:=x.cells) 0 bS_ x.cells_len x.one_cells rfl rfl rfl rfl ?_;refine bs_ ?_;refine aY_ rfl ?_;refine bf_ ?_;refine aI_ ?_;refine e_ (oh_ (us:=x.cells) 0 Tryz.isAgg42 bS_ x.cells_len rfl rfl) rfl ?_;refine j_ (hF_ x (V x J)) rfl (.refl _) (fun v _ h=>⟨h.1.2 x J,h.2.1,trivial⟩) rfl fun _=>?_;refine e_ (ay_ rfl) rfl ?_;refine bs_ ?_;refine aY_ rfl ?_;refine bf_ ?_;refine aI_ ?_;refine e_ (al_ rfl) rfl ?_;refine G_ (cg_ rfl rfl) rfl fun S d=>?_;refine bs_ ?_;refine aY_ rfl ?_;cases S
      · skip
        replace d:=iV_ d;try dsimp only[Con.kind,Con.parts,Con.name,Con.lo,Con.hi,Con.cap,Con.ad]at d
        refine fb_ rfl ?_;refine gP_ ?_;refine aY_ rfl ?_;refine aI_ ?_;refine e_ (aZ_ rfl rfl rfl (ce_ za_ za_)) rfl ?_;refine e_ (al_ rfl) rfl ?_;refine bs_ ?_;refine fI_ rfl ?_;exact x_ ⟨i+1,L,fun y I=>by rw[List.take_add_one,M]at I;simp only[Option.toList_some,List.mem_append,List.mem_singleton]at I;rcases I with I|rfl;exact hk.2 y I;assumption⟩ zn_ zl (@List.perm_append_comm _ [_] _) zh
      · skip
        replace d:=iO_ d;try dsimp only[Con.kind,Con.parts,Con.name,Con.lo,Con.hi,Con.cap,Con.ad]at d
        refine bV_ rfl ?_;refine bf_ ?_;refine aI_ ?_;refine e_ (al_ rfl) rfl ?_;refine e_ (ay_ rfl) rfl ?_;refine e_ (ay_ rfl) rfl ?_;refine bs_ ?_;refine aY_ rfl ?_;refine iJ_ ?_;have e:bz_ l=([],x.check):=by unfold bz_;rw[if_neg za_,rc_ M hk.2 zi_,if_pos zi_]
        have I:(bz_ l).1.length≤0∧0≤maxLen∧((none:Option Addr)=none→0=0):=by rw[e];simp
        have R:Value.tuple #[.slice none 0 0,.int .i64 x.check]=.tuple #[.slice none (bz_ l).1.length 0,.int .i64 (bz_ l).2]:=by rw[e]<;>rfl
        have Q:(bz_ l).1.flatMap Pc.cells=[]:=by rw[e]<;>rfl
        exact kK_ Tryz.results31 ⟨(none,0),I⟩ rfl rfl R (.refl _) (fun v _ h=>⟨.inl Q,trivial⟩)
  · skip
    replace H:=zdt H;try dsimp only[Con.kind,Con.parts,Con.name,Con.lo,Con.hi,Con.cap,Con.ad]at H
    refine bV_ rfl ?_;refine bf_ ?_;refine aI_ ?_;refine e_ (ay_ rfl) rfl ?_;refine e_ (ay_ rfl) rfl ?_;refine bs_ ?_;refine aY_ rfl ?_;refine iJ_ ?_;have e:bz_ l=([],2):=by unfold bz_;rw[if_pos za_]
    have I:(bz_ l).1.length≤0∧0≤maxLen∧((none:Option Addr)=none→0=0):=by rw[e];simp
    have R:Value.tuple #[.slice none 0 0,.int .i64 2]=.tuple #[.slice none (bz_ l).1.length 0,.int .i64 (bz_ l).2]:=by rw[e]<;>rfl
    have Q:(bz_ l).1.flatMap Pc.cells=[]:=by rw[e]<;>rfl
    exact kK_ Tryz.results31 ⟨(none,0),I⟩ rfl rfl R (.refl _) (fun v _ h=>⟨.inl Q,trivial⟩)
theorem ca_ {N:Nf} {fr:Fr} {H:Hp} {Γ:List Fct} {ty B:TypeId} {x y:Operand} {p q:Fc} (h:Fr.ev fr x=some p.val) (C:Fr.ev fr y=some q.val):Yld Tryz.prog N fr H Γ (.binOp .eql 36 x y B) ty (.bool (decide (p=q))) :=
  fun a v e _ _ _ _ _=>by
    have A:(Program.eqGuardType Tryz.prog Tryz.prog.depth 36)=false:=by kernel_rfl
    have d:=eqFc p q v.w;simp only[execOp,e.ev h,e.ev C,eqGuard,Fc.val,binOp,Op.equal,Sem.run_bind,Result.andThen_ok];simp only[run_program,Result.andThen_ok,A,Bool.not_false,if_true,Sem.run_pure];simp only[Fc.val]at d;simp[Op.maxDepth,d]
theorem gI_ {N:Nf} {fr:Fr} {H:Hp} {Γ:List Fct} {ty B:TypeId} {x y:Operand} {p q:Fc} (h:Fr.ev fr x=some p.val) (C:Fr.ev fr y=some q.val):Yld Tryz.prog N fr H Γ (.binOp .neq 36 x y B) ty (.bool (decide (p≠q))) :=
  fun a v e _ _ _ _ _=>by
    have A:(Program.eqGuardType Tryz.prog Tryz.prog.depth 36)=false:=by kernel_rfl
    have d:=eqFc p q v.w;simp only[execOp,e.ev h,e.ev C,eqGuard,Fc.val,binOp,Op.equal,Sem.run_bind,Result.andThen_ok];simp only[run_program,Result.andThen_ok,A,Bool.not_false,if_true,Sem.run_pure];simp only[Fc.val]at d;simp[Op.maxDepth,d]
theorem pe_ (s:Str) (c:UInt8):Fn0 Tryz.prog 247 #[str s,str [c]] (.int .i64 (Lib.indexByte s c)) :=
  hy_ (callable Tryz.func247 rfl rfl) fun w=>(Tryz.strings_Index_one ⟨s.toArray⟩ c w).mono zF_
theorem nU_ (s:Str) (c:UInt8) (k:Nat) (hk:ixS c s=some k):Fn0 Tryz.prog 247 #[str s,str [c]] (.int .i64 (k:Int)):=by
  have h:=pe_ s c;rw[mi_,hk]at h;exact h
theorem vi_ (s:Str) (c:UInt8):Fn0 Tryz.prog 246 #[str s,str [c]] (.int .i64 (dS_ c s:Int)) :=
  hy_ (callable Tryz.func246 rfl rfl) fun w=>(Tryz.strings_Count_one ⟨s.toArray⟩ c w).mono zF_
theorem ok_H {N:Nf} {d:Vw} {q:Hp} {k:Act→World→Prop} {fr:Fr} {H H':Hp} {Γ:List Fct} (e:H=H') (h:Ok N d q k fr H' Γ):Ok N d q k fr H Γ:=e▸h
theorem sj_ (s:Str) (c:UInt8) (N:s.length≤17592186044414):Tri Tryz.prog 215 #[str s,str [c],.int .i64 0,.int .i64 (-1)] [] [] (fun b:Nat=>.slice (some ⟨b,0,none⟩) (bc_ c s).length (bc_ c s).length) (fun _=>[]) (fun b=>[ai_ (some ⟨b,0,none⟩) ((bc_ c s).flatMap ak_)]):=by
 have M:=tm_ c s;refine i_ Tryz.func215 rfl rfl Tryz.ntmps215 rfl fun J=>?_;refine Zi 9 (fun C=>?_) fun C=>?_
 ·refine Zi 9 (fun A=>?_) fun A=>?_
  ·refine Zi 9 (fun B=>?_) fun B=>?_
   ·exact absurd ze_ B
   refine Zz 6 ?_;refine j_ (vi_ s c) rfl (.refl _) zt rfl fun _=>Zz 8 ?_
   refine e_ (cl_ S_ rfl) rfl (Zz 1 ?_);refine e_ (ar_ (sC_ rfl rfl) (show _=Value.int .i64 ((dS_ c s+1:Nat):Int) by rw[if_neg za_];rfl)) rfl ?_;refine Zz 6 ?_;refine ub_ (n:=dS_ c s+1) (by':=16) ie_ (z:=.string ⟨#[]⟩) zk rfl rfl rfl za_ za_ rfl fun d=>Zz 6 ?_
   refine e_ (ar_ (aZ_ rfl rfl rfl (ce_ za_ za_)) (show _=Value.int .i64 (dS_ c s:Int) by first|rfl|(congr 1;omega))) rfl ?_;refine Zz 10 ?_;refine bJ_ [(0,str s),(1,str [c]),(2,.int .i64 0),(3,.int .i64 (dS_ c s:Int)),(9,.slice (some ⟨d,0,none⟩) (dS_ c s+1) (dS_ c s+1)),(10,.int .i64 ((0:Nat):Int))] zl ?_;refine ci_ (ι:={x:Nat×List Str×Str // x.2.1.length=x.1∧bc_ c s=x.2.1++bc_ c x.2.2∧x.1+dS_ c x.2.2=dS_ c s∧x.2.2.length≤s.length}) (fun x=>[(0,str x.1.2.2),(1,str [c]),(2,.int .i64 0),(3,.int .i64 (dS_ c s:Int)),(9,.slice (some ⟨d,0,none⟩) (dS_ c s+1) (dS_ c s+1)),(10,.int .i64 (x.1.1:Int))]) (fun x=>[(d,.cells (x.1.2.1.map str++List.replicate (dS_ c s+1 - x.1.1) (Value.string ⟨#[]⟩)).toArray 9 (0,0))]) (fun _=>_) (fun x=>dS_ c s - x.1.1) ⟨(0,[],s),rfl,rfl,by simp,by simp⟩ ?_;rintro ⟨⟨i,dn,r⟩,hk⟩;dsimp only at hk;obtain⟨q,h,I,H⟩:=hk;refine bJ_ [(0,str r),(1,str [c]),(2,.int .i64 0),(3,.int .i64 (dS_ c s:Int)),(9,.slice (some ⟨d,0,none⟩) (dS_ c s+1) (dS_ c s+1)),(10,.int .i64 (i:Int))] zl ?_;have G:∀ k,k<dS_ c s+1→List.replicate (dS_ c s+1 - k) (Value.string ⟨#[]⟩)=Value.string ⟨#[]⟩::List.replicate (dS_ c s - k) (Value.string ⟨#[]⟩):=fun k hk=>by rw[show dS_ c s+1 - k=(dS_ c s - k)+1 by omega];rfl
   refine ok_H (H':=[(d,.cells (dn.map str++Value.string ⟨#[]⟩::List.replicate (dS_ c s - i) (Value.string ⟨#[]⟩)).toArray 9 (0,0))]) (by dsimp only;rw[G i za_]) ?_;refine Zi 5 (fun E=>?_) fun E=>?_
   ·obtain rfl:i=dS_ c s:=by omega
    have e : bc_ c r = [r] := by
                  cases hx:ixS c r with
                  | none=>exact gr_ hx
                  | some k=>have:=oR_ hx;omega
    rw[e]at h;refine Zz 10 ?_;refine e_ (eW_ n_ I_ rfl rfl za_ za_) rfl (nc_ 0 I_ rfl rfl rfl (by simp[q]) rfl rfl (Zz 6 ?_));refine e_ (ar_ (aZ_ rfl rfl rfl (ce_ za_ za_)) (show _=Value.int .i64 ((dS_ c s+1:Nat):Int) by first|rfl|(congr 1;omega))) rfl ?_;refine e_ (ar_ (dJ_ (i:=0) (j:=dS_ c s+1) (kl:=.i64) (kh:=.i64) n_ I_ rfl rfl rfl za_ za_) (show _=Value.slice (some ⟨d,0,none⟩) (dS_ c s+1) (dS_ c s+1) by rw[qk_];rfl)) rfl ?_;refine Zz 4 ?_;refine cL_ ((bc_ c s).flatMap ak_) d_ (by rw[h,mH_];simp) ?_;have hl:=eZ_ c s;exact Y_ Tryz.results215 d (fG_ rfl (by rw[hl])) (.refl _) zf
   obtain ⟨k, y⟩ : ∃ k, ixS c r = some k := by
                 cases hx:ixS c r with
                 | none=>have:=uv_ hx;omega
                 | some k=>exact⟨k,rfl⟩
   have K:=oR_ y;have L:=sd_ y;refine Zz 10 ?_;refine j_ (nU_ r c k y) rfl (.refl _) zt rfl fun _=>Zi 7 (fun e=>?_) fun e=>?_
   ·refine Zz 12 ?_
    refine e_ (ar_ (aZ_ rfl rfl rfl (ce_ za_ za_)) (show _=Value.int .i64 (k:Int) by first|rfl|(congr 1;omega))) rfl ?_;refine e_ (ar_ (eR_ (i:=0) (j:=k) (kl:=.i64) (kh:=.i64) S_ rfl rfl rfl za_ za_) (show _=str (r.take k) by simp)) rfl (e_ (eW_ n_ I_ rfl rfl za_ za_) rfl (nc_ 0 I_ rfl rfl rfl (by simp[q]) rfl rfl (Zz 7 ?_)));refine e_ (cl_ S_ rfl) rfl (e_ (ar_ (aZ_ rfl rfl rfl (ce_ zw_ zw_)) (show _=Value.int .i64 ((k+1:Nat):Int) by first|rfl|(congr 1;omega))) rfl ?_);refine e_ (ar_ (eR_ (i:=k+1) (j:=r.length) (kl:=.i64) (kh:=.i64) S_ rfl rfl rfl za_ za_) (show _=str (r.drop (k+1)) by rw[List.take_of_length_le zj_])) rfl (Zz 5 ?_);refine e_ (ar_ (aZ_ rfl rfl rfl (ce_ za_ za_)) (show _=Value.int .i64 ((i+1:Nat):Int) by first|rfl|(congr 1;omega))) rfl ?_;refine Zz 3 ?_;exact x_ ⟨(i+1,dn++[r.take k],r.drop (k+1)),by simp[q],by rw[h,ii_ y,List.append_assoc];rfl,by dsimp only;omega,by simp;omega⟩ zb_ zl (F:=[]) (List.Perm.of_eq (by simp[show dS_ c s+1 - (i+1)=dS_ c s - i by omega])) zh
   exfalso;omega
  cases A
 exact absurd C ze_
theorem xo_ (s:Str) (c:UInt8) (d:s.length≤17592186044414):Tri Tryz.prog 192 #[str s,str [c]] [] [] (fun b:Nat=>.slice (some ⟨b,0,none⟩) (bc_ c s).length (bc_ c s).length) (fun _=>[]) (fun b=>[ai_ (some ⟨b,0,none⟩) ((bc_ c s).flatMap ak_)]):=by
  refine i_ Tryz.func192 rfl rfl Tryz.ntmps192 rfl fun e=>?_;refine Zz 9 ?_;refine j_ (sj_ s c d) rfl (.refl _) zt rfl fun b=>Zz 4 ?_
  exact Y_ Tryz.results192 b rfl (.refl _) zf
theorem px_ {g:FuncId} {pred:Str→Bool} (d:List Str) (ad:Option Addr) (cap:Nat) (F:d.length≤17592186044415) (H:∀ x∈d,Fn0 Tryz.prog g #[str x] (.bool (pred x))) :
    Tri Tryz.prog 216 #[.slice ad (List.length d) cap,.func (.func g) #[] #[]] [] [ai_ ad (List.flatMap ak_ d)] (fun r:{r:Int // decide (0≤r)=d.any pred}=>.int .i64 r.1) (fun _=>[]) (fun _=>[]):=by
  refine i_ Tryz.func216 rfl rfl Tryz.ntmps216 rfl fun G=>?_;refine Zz 14 ?_;refine bJ_ [(0,.slice ad (List.length d) cap),(1,.func (.func g) #[] #[]),(7,.int .i64 (List.length d:Int)),(8,.int .i64 ((0:Nat):Int))] zl ?_;refine ci_ (ι:={q:Nat // q≤d.length∧(d.take q).any pred=false}) (fun i=>[(0,.slice ad (List.length d) cap),(1,.func (.func g) #[] #[]),(7,.int .i64 (List.length d:Int)),(8,.int .i64 (i.1:Int))]) (fun _=>_) (fun _=>_) (fun i=>d.length - i.1) ⟨0,by simp⟩ ?_;rintro ⟨i,hk⟩;refine bJ_ [(0,.slice ad (List.length d) cap),(1,.func (.func g) #[] #[]),(7,.int .i64 (List.length d:Int)),(8,.int .i64 (i:Int))] zl ?_;refine Zi 2 (fun B=>?_) fun B=>?_
  · skip
    refine Zz 12 ?_;exact Y_ Tryz.results216 ⟨-1,by have:=hk.2;rw[List.take_of_length_le za_]at this;show _=d.any pred;rw[this];rfl⟩ rfl (.refl _) zt
  · skip
    obtain⟨h,y,A,e⟩:=zge (show i<List.length d by omega);refine Zz 21 ?_;refine bD_ (H y e) rfl rfl f_ zt rfl fun C E=>Zz 2 ?_
    cases C
    · skip
      refine Zz 8 ?_;exact x_ ⟨i+1,h,by rw[List.take_add_one,A];simp only[Option.toList_some,List.any_append,hk.2];simp[*]⟩ zn_ zl (.refl _) zh
    · skip
      refine Zz 8 ?_;exact Y_ Tryz.results216 ⟨(i:Int),by show _=d.any pred;rw[show d.any pred=true from List.any_eq_true.2 ⟨y,e,by assumption⟩];exact decide_eq_true za_⟩ rfl (.refl _) zt
theorem ma_ {g:FuncId} {pred:Str→Bool} (d:List Str) (ad:Option Addr) (cap:Nat) (e:d.length≤17592186044415) (q:∀ x∈d,Fn0 Tryz.prog g #[str x] (.bool (pred x))) :
    Tri Tryz.prog 193 #[.slice ad (List.length d) cap,.func (.func g) #[] #[]] [] [ai_ ad (List.flatMap ak_ d)] (fun _:Unit=>.bool (d.any pred)) (fun _=>[]) (fun _=>[]):=by
  refine i_ Tryz.func193 rfl rfl Tryz.ntmps193 rfl fun y=>?_;refine Zz 9 ?_;refine j_ (px_ d ad cap e q) rfl f_ zf rfl fun x=>G_ (eD_ rfl rfl) rfl fun A h=>Zz 4 ?_
  exact Y_ Tryz.results193 () (m_ rfl (h.symm.trans x.2)) (.refl _) zt
theorem ul_ (s:Str) (e:s.length≤140737488351232):Fn0 Tryz.prog 194 #[str s] (.bool (!aO_ s)):=by
  refine i_ Tryz.func194 rfl rfl Tryz.ntmps194 rfl fun h=>?_;refine Zz 8 ?_;refine A_ (fY_ s e) rfl f_ zt rfl fun q d=>e_ (as_ rfl) rfl (Zz 4 ?_)
  exact Y_ Tryz.results194 () (m_ rfl (by simp[*])) (.refl _) zt
theorem hm_ {c:UInt8}:∀ {s x:Str},x∈bc_ c s→x.length≤s.length
 | [],x,h=>by simp[bc_]at h;simp[h]
 | b::s,x,h=>by
   simp only[bc_]at h
   split at h
   · rcases List.mem_cons.1 h with rfl|h
     · simp
     · have:=hm_ h;simp only[List.length_cons];omega
   · cases hs:bc_ c s with
     | nil=>exact absurd hs (kE_ c s)
     | cons y t =>
       rw[hs]at h;rcases List.mem_cons.1 h with rfl|h
       · have:=hm_ (c:=c) (s:=s) (x:=y) (by rw[hs];simp);simp only[List.length_cons];omega
       · have:=hm_ (c:=c) (s:=s) (x:=x) (by rw[hs];simp[h]);simp only[List.length_cons];omega
theorem lf_ {G:Prop} (h:G:=by
 exact Y_ Tryz.results158 () (m_ rfl (by unfold cB_;subst_vars;rw[Bool.eq_iff_iff];simp_all<;>omega)) (.refl _) zt):G:=h
theorem is_ (s:Str) (B:s.length≤17592186044414):Fn0 Tryz.prog 158 #[str s] (.bool (cB_ s)):=by
 refine i_ Tryz.func158 rfl rfl Tryz.ntmps158 rfl fun h=>?_;have A:=eZ_ 46 s;have C:=tm_ 46 s;refine Zz 8 ?_;refine j_ (xo_ s 46 B) rfl f_ zt rfl fun b=>Zi 7 (fun d=>?_) fun d=>?_
 ·refine Zz 9 ?_
  exact lf_
 refine Zz 4 ?_;refine A_ (ma_ (pred:=fun r=>!aO_ r) (bc_ 46 s) _ _ za_ (fun x y=>ul_ x (by have:=hm_ y;omega))) rfl f_ zf rfl fun q e=>?_;refine ap_ rfl rfl (e_ (as_ rfl) rfl (Zz 5 ?_));exact lf_
theorem lc_ {G:Prop} (h:G:=by
 refine A_ (fY_ _ zP_) rfl f_ zt rfl fun x B=>?_;exact fn_):G:=h
theorem ld_ {G:Prop} (h:G:=by
 refine A_ (fY_ _ zP_) rfl f_ zt rfl fun x h=>?_;exact fn_):G:=h
theorem le_ {G:Prop} (h:G:=by
 refine A_ (fY_ _ zP_) rfl f_ zt rfl fun x d=>?_;exact fn_):G:=h
theorem fn_ {G:Prop} (h:G:=by
 refine Zz 4 ?_;exact fo_):G:=h
theorem fo_ {G:Prop} (h:G:=by
 exact Y_ Tryz.results160 () (m_ rfl (by unfold be_;(repeat (any_goals split))<;>first|rfl|(simp_all;done)|(exfalso;simp_all;omega)|(exfalso;simp_all;done))) (.refl _) zt):G:=h
theorem gT_ (s:Str) (C:s.length≤140737488351232):Fn0 Tryz.prog 160 #[str s] (.bool (be_ s)):=by
 refine i_ Tryz.func160 rfl rfl Tryz.ntmps160 rfl fun O=>?_;refine Zz 8 ?_;refine e_ (cl_ S_ rfl) rfl (Zi 8 (fun I=>?_) fun I=>?_)
 ·refine Zi 4 (fun E=>?_) fun E=>?_
  ·refine Zi 8 (fun H=>?_) fun H=>?_
   ·refine Zi 19 (fun A=>?_) fun A=>?_
    ·refine Zz 21 ?_
     refine A_ (fY_ _ zP_) rfl f_ zt rfl fun x y=>?_;exact fn_
    exfalso;omega
   obtain⟨c,F⟩:∃ c,s[0]? = some c:=⟨_,List.getElem?_eq_getElem za_⟩;obtain⟨e,G⟩:∃ e,s[s.length - 1]? = some e:=⟨_,List.getElem?_eq_getElem za_⟩
   have J:(s[0]? = some 123)↔((c.toNat:Int)=123):=by
     rw[F];simp only[Option.some.injEq];exact⟨fun q=>by subst q;rfl,fun q=>UInt8.toNat_inj.1 (by show c.toNat=123;omega)⟩
   have N:(s[s.length - 1]? = some 125)↔((e.toNat:Int)=125):=by
     rw[G];simp only[Option.some.injEq];exact⟨fun q=>by subst q;rfl,fun q=>UInt8.toNat_inj.1 (by show e.toNat=125;omega)⟩
   have K:(s[0]? = some 60)↔((c.toNat:Int)=60):=by
     rw[F];simp only[Option.some.injEq];exact⟨fun q=>by subst q;rfl,fun q=>UInt8.toNat_inj.1 (by show c.toNat=60;omega)⟩
   have M:(s[s.length - 1]? = some 62)↔((e.toNat:Int)=62):=by
     rw[G];simp only[Option.some.injEq];exact⟨fun q=>by subst q;rfl,fun q=>UInt8.toNat_inj.1 (by show e.toNat=62;omega)⟩
   refine Zz 4 ?_;refine e_ (dL_ S_ rfl rfl ze_ F) rfl (ap_ rfl rfl ?_);refine Zi 0 (fun A=>?_) fun A=>?_
   ·refine Zi 15 (fun y=>?_) fun y=>?_
    ·refine Zz 21 ?_
     exact le_
    refine Zz 4 ?_;refine e_ (dL_ S_ rfl rfl ze_ F) rfl (ap_ rfl rfl ?_);refine Zi 0 (fun d=>?_) fun d=>?_
    ·refine Zz 17 ?_
     exact ld_
    refine Zz 9 ?_;refine e_ (dL_ S_ rfl rfl za_ (show s[((s.length:Int) - 1).toNat]? = some e by rw[show ((s.length:Int) - 1).toNat=s.length - 1 by omega];exact G)) rfl ?_;refine ap_ rfl rfl ?_;refine Zi 0 (fun h=>?_) fun h=>?_
    ·refine Zz 10 ?_
     exact lc_
    refine Zz 11 ?_;exact fo_
   refine Zz 9 ?_;refine e_ (dL_ S_ rfl rfl za_ (show s[((s.length:Int) - 1).toNat]? = some e by rw[show ((s.length:Int) - 1).toNat=s.length - 1 by omega];exact G)) rfl ?_;refine ap_ rfl rfl ?_;refine Zi 0 (fun y=>?_) fun y=>?_
   ·refine Zi 8 (fun d=>?_) fun d=>?_
    ·refine Zz 21 ?_
     exact ld_
    refine Zz 4 ?_;refine e_ (dL_ S_ rfl rfl ze_ F) rfl (ap_ rfl rfl ?_);refine Zi 0 (fun h=>?_) fun h=>?_
    ·refine Zz 17 ?_
     exact lc_
    refine Zz 9 ?_;refine e_ (dL_ S_ rfl rfl za_ (show s[((s.length:Int) - 1).toNat]? = some e by rw[show ((s.length:Int) - 1).toNat=s.length - 1 by omega];exact G)) rfl ?_;refine ap_ rfl rfl ?_;refine Zi 0 (fun B=>?_) fun B=>?_
    ·refine Zz 10 ?_
     refine A_ (fY_ _ zP_) rfl f_ zt rfl fun x L=>?_;exact fn_
    refine Zz 11 ?_;exact fo_
   refine Zz 10 ?_;refine e_ (eR_ (i:=1) (j:=s.length - 1) (kl:=.i64) (kh:=.i64) S_ rfl rfl (show _=some (Value.int .i64 ((s.length - 1:Nat):Int)) by rw[show ((s.length - 1:Nat):Int)=(s.length:Int) - 1 by omega];rfl) za_ za_) rfl ?_;exact le_
  refine Zz 11 ?_;exact fo_
 refine Zz 14 ?_;exact fo_
theorem hS_ {G:Prop} (h:G:=by
 exact Y_ Tryz.results157 () (m_ rfl (by unfold bZ_;subst_vars;rw[Bool.eq_iff_iff];simp_all)) (.refl _) zt):G:=h
theorem er_ {g:FuncId} (d:Bool) (s:Str) (q:Str→Bool) (y:Fn0 Tryz.prog g #[str s] (.bool (q s))):Fn0 Tryz.prog 157 #[.bool d,str s,.func (.func g) #[] #[]] (.bool (bZ_ d s q)):=by
 refine i_ Tryz.func157 rfl rfl Tryz.ntmps157 rfl fun x=>?_;refine Zz 9 ?_;cases d
 ·refine Zz 8 ?_
  refine e_ (as_ rfl) rfl (Zz 5 ?_);refine G_ (df_ rfl rfl) rfl fun h e=>Zz 7 ?_
  exact hS_
 refine Zz 5 ?_;refine bD_ (y) rfl rfl f_ zt rfl fun h e=>Zz 2 ?_
 cases h
 ·refine Zz 3 ?_
  refine e_ (as_ rfl) rfl (Zz 11 ?_);exact hS_
 refine Zz 11 ?_;exact hS_
theorem hQ_ {G:Prop} (h:G:=by
 exact met ⟨rfl,rfl,rfl,rfl,rfl,(m_ rfl (jot d)),trivial⟩):G:=h
theorem hR_ {G:Prop} (h:G:=by
 refine Zz 6 ?_;exact met ⟨rfl,rfl,(m_ rfl (jot d)),trivial⟩):G:=h
theorem gf_ {G:Prop} (h:G:=by
 exact met ⟨rfl,rfl,rfl,rfl,(m_ rfl (jaf d)),trivial⟩):G:=h
theorem lb_ {G:Prop} (h:G:=by
 refine Zz 7 ?_;exact Y_ Tryz.results113 () (m_ rfl (by unfold Pc.valid;rw[if_neg za_];simp only[U];first|(rw[if_pos (by first|(simp;omega)|omega)])|(rw[if_neg zj_,if_pos zn_]))) (.refl _) zt):G:=h
theorem gg_ {G:Prop} (h:G:=by
 refine Zz 9 ?_;exact met ⟨rfl,rfl,rfl,rfl,rfl,(m_ rfl (jaf d)),trivial⟩):G:=h
theorem uk_ (p:Pc) (hp:p.sm):Tri Tryz.prog 113 #[Pc.val p] [] [lQ_] (fun _:Unit=>.bool p.valid) (fun _=>[]) (fun _=>[]):=by
 refine i_ Tryz.func113 rfl rfl Tryz.ntmps113 rfl fun v_1=>?_;obtain⟨ha,hb,hc,hr,hs,ht⟩:=hp;refine Zz 2 ?_;refine V_ rfl rfl fun B=>Zz 8 ?_
 refine G_ (dg_ rfl rfl) rfl fun r_1 J=>Zz 1 ?_
 refine aj_ 4 ((decide (p.kind<1))||(decide (9<p.kind))) (fun r=>[(1,zp_ B 0),(2,.bool false),(13,.bool r)]) ?_ fun r_2 O=>?_
 ·cases r_1
  ·have d:=J
   replace J:=zdf J;refine Zz 5 ?_;refine G_ (dA_ rfl rfl) rfl fun a0 I=>Zz 3 ?_
   exact met (zm (jof d I))
  have d:=J;replace J:=zdt J;exact hR_
 refine Zz 1 ?_;refine aj_ 4 ((((decide (p.kind<1))||(decide (9<p.kind))))||(decide (p.frm<(-1)))) (fun r=>[(1,zp_ B 0),(2,.bool false),(18,.bool r)]) ?_ fun a0 I=>?_
 ·cases r_2
  ·have d:=O
   simp at O
   refine Zz 5 ?_;refine G_ (dg_ rfl rfl) rfl fun a1 N=>Zz 3 ?_
   exact met (zm (jof d N))
  have d:=O;simp at O
  exact hR_
 refine Zz 1 ?_;refine aj_ 4 ((((((decide (p.kind<1))||(decide (9<p.kind))))||(decide (p.frm<(-1)))))||(decide (1024≤p.frm))) (fun r=>[(1,zp_ B 0),(2,.bool false),(23,.bool r)]) ?_ fun a1 N=>?_
 ·cases a0
  ·have d:=I
   simp at I
   refine Zz 5 ?_;refine G_ (eD_ rfl rfl) rfl fun T x=>Zz 3 ?_
   exact met (zm (jof d x))
  have d:=I;simp at I
  exact hR_
 refine Zz 2 ?_;cases a1
 ·simp at N
  obtain⟨u,hx⟩:∃ u,gu_[p.kind.toNat]? = some u:=⟨_,List.getElem?_eq_getElem (show p.kind.toNat<10 by omega)⟩;have U:nus p.kind=u:=by simp[nus,hx]
  obtain⟨P,ub,R,S,us,ut,un⟩:=u;refine Zz 7 ?_;refine e_ (ea_ Tryz.runUnderlying205 Tryz.sizeOf204 rfl rfl (by show (0:Int)≤p.kind;omega) (by show p.kind<(10:Int);omega)) rfl ?_;refine e_ (ae_ (ad:=some ⟨2,0,none⟩) (us:=NUse.cells ⟨P,ub,R,S,us,ut,un⟩) Tryz.isAgg204 Tryz.sizeOf204 rfl (fun v _ h=>h.1) (NUse.cells_len _) (p_ NUse.cells_len hx)) rfl (E_ Tryz.zeroValue204 rfl fun G=>z_ 0 Tryz.sizeOf204 rfl rfl rfl rfl rfl rfl (Zz 19 ?_));cases un
  ·refine Zz 5 ?_
   refine G_ (cg_ rfl rfl) rfl fun T x=>Zz 1 ?_
   refine aj_ 4 ((p.lo != 0)||(p.hi != 0)) (fun r=>[(1,zp_ B 0),(2,.bool false),(3,zp_ G 0),(4,.func (.func 157) #[] #[]),(5,.func (.func 158) #[] #[]),(52,.bool r)]) ?_ fun Y H=>?_
   ·cases T
    ·have d:=x
     replace x:=iV_ x;refine Zz 5 ?_;refine G_ (cg_ rfl rfl) rfl fun Q E=>Zz 3 ?_
     exact met (zm (jof d E))
    have d:=x;replace x:=iO_ x;refine Zz 6 ?_;exact hQ_
   refine Zz 2 ?_;cases Y
   ·simp at H
    refine Zz 10 ?_;refine bD_ (er_ P p.a be_ (gT_ _ za_)) rfl rfl f_ zt rfl fun Q E=>Zz 1 ?_
    refine aj_ 7 ((bZ_ P p.a be_)&&(bZ_ ub p.b be_)) (fun r=>[(1,zp_ B 0),(2,.bool false),(3,zp_ G 0),(4,.func (.func 157) #[] #[]),(5,.func (.func 158) #[] #[]),(66,.bool r)]) ?_ fun V C=>?_
    ·cases Q
     ·have d:=E
      exact gg_
     have d:=E;refine Zz 11 ?_;refine bD_ (er_ ub p.b be_ (gT_ _ za_)) rfl rfl f_ zt rfl fun W A=>Zz 3 ?_
     exact met ⟨rfl,rfl,rfl,rfl,rfl,(m_ rfl (jat d A)),trivial⟩
    refine Zz 1 ?_;refine aj_ 7 ((((bZ_ P p.a be_)&&(bZ_ ub p.b be_)))&&(bZ_ R p.c be_)) (fun r=>[(1,zp_ B 0),(2,.bool false),(3,zp_ G 0),(4,.func (.func 157) #[] #[]),(5,.func (.func 158) #[] #[]),(74,.bool r)]) ?_ fun W A=>?_
    ·cases V
     ·have d:=C
      simp at C
      exact gg_
     have d:=C;simp at C
     refine Zz 11 ?_;refine bD_ (er_ R p.c be_ (gT_ _ za_)) rfl rfl f_ zt rfl fun K q=>Zz 3 ?_
     exact met ⟨rfl,rfl,rfl,rfl,rfl,(m_ rfl (jat d q)),trivial⟩
    refine Zz 1 ?_;refine aj_ 8 ((((((bZ_ P p.a be_)&&(bZ_ ub p.b be_)))&&(bZ_ R p.c be_)))&&(bZ_ S p.r cB_)) (fun r=>[(1,zp_ B 0),(2,.bool false),(3,zp_ G 0),(4,.func (.func 157) #[] #[]),(83,.bool r)]) ?_ fun K q=>?_
    ·cases W
     ·have d:=A
      simp at A
      refine Zz 10 ?_;exact gf_
     have d:=A;simp at A
     refine Zz 13 ?_;refine bD_ (er_ S p.r cB_ (is_ _ za_)) rfl rfl f_ zt rfl fun L e=>Zz 3 ?_
     exact met ⟨rfl,rfl,rfl,rfl,(m_ rfl (jat d e)),trivial⟩
    refine Zz 1 ?_;refine aj_ 7 ((((((((bZ_ P p.a be_)&&(bZ_ ub p.b be_)))&&(bZ_ R p.c be_)))&&(bZ_ S p.r cB_)))&&(bZ_ us p.s cB_)) (fun r=>[(1,zp_ B 0),(2,.bool false),(3,zp_ G 0),(4,.func (.func 157) #[] #[]),(91,.bool r)]) ?_ fun L e=>?_
    ·cases K
     ·have d:=q
      simp at q
      refine Zz 9 ?_;exact gf_
     have d:=q;simp at q
     refine Zz 11 ?_;refine bD_ (er_ us p.s cB_ (is_ _ za_)) rfl rfl f_ zt rfl fun M y=>Zz 3 ?_
     exact met ⟨rfl,rfl,rfl,rfl,(m_ rfl (jat d y)),trivial⟩
    refine Zz 1 ?_;refine aj_ 7 ((((((((((bZ_ P p.a be_)&&(bZ_ ub p.b be_)))&&(bZ_ R p.c be_)))&&(bZ_ S p.r cB_)))&&(bZ_ us p.s cB_)))&&(bZ_ ut p.t cB_)) (fun r=>[(2,.bool false),(99,.bool r)]) ?_ fun M y=>?_
    ·cases L
     ·have d:=e
      simp at e
      refine Zz 9 ?_;exact met ⟨rfl,(m_ rfl (jaf d)),trivial⟩
     have d:=e;simp at e
     refine Zz 11 ?_;refine bD_ (er_ ut p.t cB_ (is_ _ za_)) rfl rfl f_ zt rfl fun X F=>Zz 3 ?_
     exact met ⟨rfl,(m_ rfl (jat d F)),trivial⟩
    refine Zz 4 ?_;exact Y_ Tryz.results113 () (m_ rfl (by unfold Pc.valid;rw[if_neg za_];simp only[U];rw[if_neg (by simp<;>omega),if_neg (by simp<;>omega)];exact y.symm)) (.refl _) zt
   simp at H
   exact lb_
  refine Zz 10 ?_;refine G_ (dg_ rfl rfl) rfl fun T x=>Zz 1 ?_
  refine aj_ 6 ((decide (p.lo<(-1099511627776)))||(decide (p.hi<p.lo))) (fun r=>[(1,zp_ B 0),(2,.bool false),(3,zp_ G 0),(4,.func (.func 157) #[] #[]),(5,.func (.func 159) #[] #[]),(39,.bool r)]) ?_ fun Y H=>?_
  ·cases T
   ·have d:=x
    replace x:=zdf x;refine Zz 9 ?_;refine G_ (dA_ rfl rfl) rfl fun Q E=>Zz 3 ?_
    exact met (zm (jof d E))
   have d:=x;replace x:=zdt x;refine Zz 8 ?_;exact hQ_
  refine Zz 1 ?_;refine aj_ 4 ((((decide (p.lo<(-1099511627776)))||(decide (p.hi<p.lo))))||(decide (1099511627776<p.hi))) (fun r=>[(1,zp_ B 0),(2,.bool false),(3,zp_ G 0),(4,.func (.func 157) #[] #[]),(5,.func (.func 159) #[] #[]),(44,.bool r)]) ?_ fun Q E=>?_
  ·cases Y
   ·have d:=H
    simp at H
    refine Zz 5 ?_;refine G_ (dA_ rfl rfl) rfl fun V C=>Zz 3 ?_
    exact met (zm (jof d C))
   have d:=H;simp at H
   refine Zz 6 ?_;exact hQ_
  refine Zz 2 ?_;cases Q
  ·simp at E
   refine Zz 10 ?_;refine bD_ (er_ P p.a be_ (gT_ _ za_)) rfl rfl f_ zt rfl fun V C=>Zz 1 ?_
   refine aj_ 7 ((bZ_ P p.a be_)&&(bZ_ ub p.b be_)) (fun r=>[(1,zp_ B 0),(2,.bool false),(3,zp_ G 0),(4,.func (.func 157) #[] #[]),(5,.func (.func 159) #[] #[]),(66,.bool r)]) ?_ fun W A=>?_
   ·cases V
    ·have d:=C
     exact gg_
    have d:=C;refine Zz 11 ?_;refine bD_ (er_ ub p.b be_ (gT_ _ za_)) rfl rfl f_ zt rfl fun K q=>Zz 3 ?_
    exact met ⟨rfl,rfl,rfl,rfl,rfl,(m_ rfl (jat d q)),trivial⟩
   refine Zz 1 ?_;refine aj_ 7 ((((bZ_ P p.a be_)&&(bZ_ ub p.b be_)))&&(bZ_ R p.c be_)) (fun r=>[(1,zp_ B 0),(2,.bool false),(3,zp_ G 0),(4,.func (.func 157) #[] #[]),(5,.func (.func 159) #[] #[]),(74,.bool r)]) ?_ fun K q=>?_
   ·cases W
    ·have d:=A
     simp at A
     exact gg_
    have d:=A;simp at A
    refine Zz 11 ?_;refine bD_ (er_ R p.c be_ (gT_ _ za_)) rfl rfl f_ zt rfl fun L e=>Zz 3 ?_
    exact met ⟨rfl,rfl,rfl,rfl,rfl,(m_ rfl (jat d e)),trivial⟩
   refine Zz 1 ?_;refine aj_ 8 ((((((bZ_ P p.a be_)&&(bZ_ ub p.b be_)))&&(bZ_ R p.c be_)))&&(bZ_ S p.r aO_)) (fun r=>[(1,zp_ B 0),(2,.bool false),(3,zp_ G 0),(4,.func (.func 157) #[] #[]),(83,.bool r)]) ?_ fun L e=>?_
   ·cases K
    ·have d:=q
     simp at q
     refine Zz 10 ?_;exact gf_
    have d:=q;simp at q
    refine Zz 13 ?_;refine bD_ (er_ S p.r aO_ (fY_ _ za_)) rfl rfl f_ zt rfl fun M y=>Zz 3 ?_
    exact met ⟨rfl,rfl,rfl,rfl,(m_ rfl (jat d y)),trivial⟩
   refine Zz 1 ?_;refine aj_ 7 ((((((((bZ_ P p.a be_)&&(bZ_ ub p.b be_)))&&(bZ_ R p.c be_)))&&(bZ_ S p.r aO_)))&&(bZ_ us p.s cB_)) (fun r=>[(1,zp_ B 0),(2,.bool false),(3,zp_ G 0),(4,.func (.func 157) #[] #[]),(91,.bool r)]) ?_ fun M y=>?_
   ·cases L
    ·have d:=e
     simp at e
     refine Zz 9 ?_;exact gf_
    have d:=e;simp at e
    refine Zz 11 ?_;refine bD_ (er_ us p.s cB_ (is_ _ za_)) rfl rfl f_ zt rfl fun X F=>Zz 3 ?_
    exact met ⟨rfl,rfl,rfl,rfl,(m_ rfl (jat d F)),trivial⟩
   refine Zz 1 ?_;refine aj_ 7 ((((((((((bZ_ P p.a be_)&&(bZ_ ub p.b be_)))&&(bZ_ R p.c be_)))&&(bZ_ S p.r aO_)))&&(bZ_ us p.s cB_)))&&(bZ_ ut p.t cB_)) (fun r=>[(2,.bool false),(99,.bool r)]) ?_ fun X F=>?_
   ·cases M
    ·have d:=y
     simp at y
     refine Zz 9 ?_;exact met ⟨rfl,(m_ rfl (jaf d)),trivial⟩
    have d:=y;simp at y
    refine Zz 11 ?_;refine bD_ (er_ ut p.t cB_ (is_ _ za_)) rfl rfl f_ zt rfl fun r_14 Z=>Zz 3 ?_
    exact met ⟨rfl,(m_ rfl (jat d Z)),trivial⟩
   refine Zz 4 ?_;exact Y_ Tryz.results113 () (m_ rfl (by unfold Pc.valid;rw[if_neg za_];simp only[U];rw[if_neg (by simp<;>omega),if_neg (by simp<;>omega)];exact F.symm)) (.refl _) zt
  simp at E
  exact lb_
 simp at N
 refine Zz 7 ?_;exact Y_ Tryz.results113 () (m_ rfl (by unfold Pc.valid;rw[if_pos za_])) (.refl _) zt
theorem yp_ (l:List Pc) (ad:Option Addr) (cap:Nat) (hl:l.length≤17592186044414) (C:∀ p∈l,p.sm):Tri Tryz.prog 71 #[.slice ad (List.length l) cap] [] [ai_ ad (List.flatMap Pc.cells l),lQ_] (fun _:Unit=>.int .i64 (db_ l)) (fun _=>[]) (fun _=>[]):=by
 refine i_ Tryz.func71 rfl rfl Tryz.ntmps71 rfl fun F=>?_;refine Zi 10 (fun A=>?_) fun A=>?_
 ·refine Zz 14 ?_
  refine bJ_ [(8,.slice ad (List.length l) cap),(9,.int .i64 (List.length l:Int)),(10,.int .i64 ((0:Nat):Int))] zl ?_;refine ci_ (ι:={q:Nat // q≤l.length∧(l.take q).all Pc.valid=true}) (fun i=>[(8,.slice ad (List.length l) cap),(9,.int .i64 (List.length l:Int)),(10,.int .i64 (i.1:Int))]) (fun _=>_) (fun _=>_) (fun i=>l.length - i.1) ⟨0,by simp⟩ ?_;rintro ⟨i,hk⟩;refine bJ_ [(8,.slice ad (List.length l) cap),(9,.int .i64 (List.length l:Int)),(10,.int .i64 (i:Int))] zl ?_;refine Zi 2 (fun x=>?_) fun x=>?_
  ·refine Zz 12 ?_
   exact Y_ Tryz.results71 () (cd_ rfl (by unfold db_;rw[if_neg za_,if_pos (by have:=hk.2;rwa [List.take_of_length_le za_]at this)])) (.refl _) zt
  obtain⟨e,h,y,d⟩:=zge (show i<List.length l by omega);refine Zz 12 ?_;refine E_ T_ rfl fun G=>z_ 0 F_ rfl rfl rfl rfl rfl rfl (Zz 5 ?_)
  refine A_ (uk_ h (C h d)) rfl f_ zf rfl fun B E=>e_ (as_ rfl) rfl (Zz 2 ?_)
  cases B
  ·refine Zz 7 ?_
   exact Y_ Tryz.results71 () (cd_ rfl (by unfold db_;rw[if_neg za_,if_neg (by rw[show l.all Pc.valid=false from List.all_eq_false.2 ⟨h,d,by simp[*]⟩];simp)])) (.refl _) zt
  refine Zz 8 ?_;exact x_ ⟨i+1,e,by rw[List.take_add_one,y];simp only[Option.toList_some,List.all_append,hk.2];simp[*]⟩ zn_ zl (@List.perm_append_comm _ [_] _) zh
 refine Zz 9 ?_;exact Y_ Tryz.results71 () (cd_ rfl (by unfold db_;rw[if_pos za_])) (.refl _) zt
end Go.Proofs.YtpbnmnfdgckaiaaGreatDoor
namespace Go.Vs
open Go Go.Sx
def vw (W:World):Vw:=⟨fun b=>b<W.heap.size,W,True⟩
theorem vw_sat (W:World):(vw W).sat []:=⟨(fun _ h=>by cases h),zj_,fun _ h=>h⟩
section
variable {H:Type} {enc:TypeId×Value→H} {P:Program} {W:World}
abbrev wok (l:List Nat):Prop:=l.all (·≤reachBytes)=true
theorem fP_ {a b:List Nat}:wok (a++b)↔wok a∧wok b:=by simp[wok,List.all_append]
theorem uH_ {n:Nat} {b:List Nat}:wok (n::b)↔n≤reachBytes∧wok b:=by simp[wok]
theorem uI_ {e:TypeId}:∀ {ds:List (DataW H)},wok (DataW.weightsAll P e ds)→∀ d∈ds,wok (d.weights P e)
 | [],_,_,h=>by cases h
 | x::ds,hw,d,q=>by
   rw[DataW.weightsAll,fP_]at hw;rcases List.mem_cons.1 q with rfl|q
   · exact hw.1
   · exact uI_ hw.2 d q
theorem sO_ {α:Type} [Inhabited α] (f:α→List Value) (k:Nat) (hk:∀ x,(f x).length=k) (G:0<k) (Q:α→Prop) {ts I:TypeId} (hs:P.underlying ts=some (.slice I)) (hc:P.cellsOf I=k) {n:Nat} {cs:List Value} {x:DataW H×List MemPlace}
    (F:∀ m,m<n→∀ B y,DataW.trod enc P W 0 (fun _=>true) true m I B=some y→wok (y.1.weights P I)→∃ c,B=f c∧Q c)
    (h:DataW.trod enc P W 0 (fun _=>true) true n ts cs=some x) (Y:wok (x.1.weights P ts)) :
    ∃ (l:List α) (ad:Option Addr) (cap:Nat),cs=[.slice ad l.length cap]∧bu_ (vw W) ad (l.flatMap f)∧(∀ c∈l,Q c)∧l.length≤cap∧cap*P.bytesOf I≤reachBytes:=by
  rcases DataW.trod_slice hs h with⟨V,_⟩|⟨a,len,cap,E,rest,m,hn,rfl,rfl,_,hl,_,hlen,U,R,_⟩
  · exact⟨[],none,0,V,.inl rfl,(fun _ h=>by cases h),Nat.le_refl _,by simp⟩
  · obtain⟨hr,_⟩:=R rfl
    simp only[DataW.weights,hs,uH_,fP_,List.length_map]at Y
    have J:cap*P.bytesOf I≤reachBytes:=by
      have e:E.length+rest.length=cap:=by omega
      rw[← e];exact Y.1
    have N:∀ i,i<len→∃ c:α,W.cells? 0 (a.add (i*k)) k=some (f c)∧Q c:=fun i hi=>by
      have he:=U i hi;rw[hc,List.getElem?_eq_getElem za_]at he;obtain⟨B,h1,h2⟩:=Option.bind_eq_some_iff.1 he;obtain⟨c,rfl,hq⟩:=F m za_ B _ h2 (uI_ Y.2.1 _ (List.mem_map_of_mem (List.getElem_mem za_)));exact⟨c,h1,hq⟩
    obtain⟨C,hC⟩:=Deep.choose_lt N;refine⟨(List.range len).map C,some a,cap,by simp,?_,?_,by simpa using hl,J⟩
    · by_cases V:len=0
      · left;simp[V]
      · have h1:=(hC 0 za_).1
        obtain⟨_,_,d⟩:=World.cells?_some h1;have A:=d 0 G;have S:0<(f (C 0)).length:=by rw[hk];exact G
        rw[List.getElem?_eq_getElem S]at A;cases hb:W.heap[a.block]? with
        | none=>simp[World.cell?,Addr.add,hb]at A
        | some o =>
          cases o with
          | cells arr T fz =>
            have q:a.spot=none:=by
              cases hsp2:a.spot with
              | none=>rfl
              | some s=>simp[World.cell?,Addr.add,hb,hsp2]at A
            obtain⟨b,off,sp⟩:=a;simp only at q hb;subst q;right
            refine⟨b,off,arr,T,fz,rfl,(Array.getElem?_eq_some_iff.1 hb).1,hb,fun j y Z=>?_⟩
            have L:j<len*k:=by
              have:=(List.getElem?_eq_some_iff.1 Z).1;rw[dv_ f k hk]at this;simpa using this
            have hi:j / k<len:=Nat.div_lt_of_lt_mul (by rw[Nat.mul_comm];exact L);have K:j%k<k:=Nat.mod_lt _ G;have e:j=(j / k)*k+j%k:=by rw[Nat.mul_comm];exact (Nat.div_add_mod j k).symm
            have M:((List.range len).map C)[j / k]? = some (C (j / k)):=by simp[hi]
            rw[e,kT_ f k hk _ (j / k) (j%k) _ M K]at Z;obtain⟨_,_,d⟩:=World.cells?_some (hC (j / k) hi).1;have:=d (j%k) K;rw[Z,cj_,cj_]at this;rw[e];simpa [World.cell?,hb,Nat.add_assoc] using this
          | _=>simp[World.cell?,Addr.add,hb]at A
    · intro c O
      obtain⟨i,hi,rfl⟩:=List.mem_map.1 O;exact (hC i (by simpa using hi)).2
end
instance:Inhabited Con:=⟨.mk 0 [] 0 0 none 0 []⟩
instance:Inhabited Ax:=⟨⟨0,false,default,default,none,0,[],[],[],[]⟩⟩
instance:Inhabited Pc:=⟨⟨0,[],[],[],[],[],[],0,0,0⟩⟩
structure Tys (P:Program) (tI tB tS tSs tC tCs tA tAs tP tPs:TypeId):Prop where
  i:P.underlying tI=some (.int .i64)
  b:P.underlying tB=some .bool
  s:P.underlying tS=some .string
  ss:P.underlying tSs=some (.slice tS)
  c:∃ fs,P.underlying tC=some (.struct fs)∧fs.toList.map (fun f=>(f.type,f.offset))=[(tI,0),(tS,1),(tI,2),(tI,3),(tCs,4)]
  cs:P.underlying tCs=some (.slice tC)
  a:∃ fs,P.underlying tA=some (.struct fs)∧fs.toList.map (fun f=>(f.type,f.offset))=[(tI,0),(tB,1),(tC,2),(tC,7),(tSs,12),(tS,13),(tS,14),(tS,15)]
  axs:P.underlying tAs=some (.slice tA)
  p:∃ fs,P.underlying tP=some (.struct fs)∧fs.toList.map (fun f=>(f.type,f.offset))=[(tI,0),(tS,1),(tS,2),(tS,3),(tS,4),(tS,5),(tS,6),(tI,7),(tI,8),(tI,9)]
  ps:P.underlying tPs=some (.slice tP)
  ci:P.cellsOf tI=1
  cb:P.cellsOf tB=1
  cs1:P.cellsOf tS=1
  css:P.cellsOf tSs=1
  cc:P.cellsOf tC=5
  ccs:P.cellsOf tCs=1
  ca:P.cellsOf tA=16
  cp:P.cellsOf tP=10
  bs:P.bytesOf tS=16
  bc:P.bytesOf tC=64
  ba:P.bytesOf tA=216
  bp:P.bytesOf tP=128
section
variable {H:Type} {enc:TypeId×Value→H} {P:Program} {W:World} {tI tB tS tSs tC tCs tA tAs tP tPs:TypeId} (X:Tys P tI tB tS tSs tC tCs tA tAs tP tPs)
theorem fields_of {t:TypeId} {fs:Array Field} {L:List (TypeId×Nat)} {cs:List Value} {n:Nat} {x:DataW H×List MemPlace} (C:P.underlying t=some (.struct fs)) (A:fs.toList.map (fun f=>(f.type,f.offset))=L) (h:DataW.trod enc P W 0 (fun _=>true) true n t cs=some x) :
    ∃ (d:List (DataW H×List MemPlace)) (m:Nat),n=m+1∧x.1=.agg (d.map (·.1))∧cs.length=P.cellsOf t∧d.length=L.length∧(∀ (i:Nat) q,L[i]? = some q→DataW.trod enc P W 0 (fun _=>true) true m q.1 ((cs.drop q.2).take (P.cellsOf q.1))=d[i]?) ∧
      (x.1.weights P t=DataW.weightsEach P (L.map (·.1)) (d.map (·.1))):=by
  obtain⟨d,m,G,E,hl,e,F⟩:=DataW.trod_struct C h;refine⟨d,m,G,by rw[E],hl,by rw[e,← A];simp,fun i q B=>?_,?_⟩
  · rw[← A,List.getElem?_map,Option.map_eq_some_iff]at B
    obtain⟨f,y,rfl⟩:=B;exact F i f (by simpa using y)
  · rw[E];simp only[DataW.weights,C]
    congr 1
    rw[← A,List.map_map];rfl
include X
theorem nx_ {n:Nat} {cs:List Value} {x:DataW H×List MemPlace} (h:DataW.trod enc P W 0 (fun _=>true) true n tI cs=some x):∃ k:Int,cs=[.int .i64 k]∧-9223372036854775808≤k∧k≤9223372036854775807:=by
  obtain⟨k,e,_,d⟩:=DataW.trod_int X.i h;have:=bounds_i64 d;exact⟨k,e,this.1,this.2⟩
theorem str_of {n:Nat} {cs:List Value} {x:DataW H×List MemPlace} (h:DataW.trod enc P W 0 (fun _=>true) true n tS cs=some x) (d:wok (x.1.weights P tS)):∃ s:Str,cs=[str s]∧s.length≤140737488351232:=by
  obtain⟨s,e,q,_⟩:=DataW.trod_string X.s h;rw[q]at d;simp[wok,DataW.weights,reachBytes]at d
  refine⟨s.data.toList,by rw[e];rfl,by have:=of_decide_eq_true d;simpa using this⟩
theorem xm_ {n:Nat} {cs:List Value} {x:DataW H×List MemPlace} (h:DataW.trod enc P W 0 (fun _=>true) true n tSs cs=some x) (J:wok (x.1.weights P tSs)) :
    ∃ (l:List Str) (ad:Option Addr) (cap:Nat),cs=[.slice ad l.length cap]∧bu_ (vw W) ad (l.flatMap ak_)∧(∀ s∈l,s.length≤140737488351232)∧l.length≤cap∧cap≤8796093021952:=by
  obtain⟨l,ad,cap,e,q,C,A,d⟩:=sO_ ak_ 1 at_ ze_ (fun s=>s.length≤140737488351232) X.ss X.cs1 (fun K _ E y F B=>by
    obtain⟨s,I,G⟩:=str_of X F B;exact⟨s,I,G⟩) h J
  rw[X.bs]at d;simp only[reachBytes]at d;exact⟨l,ad,cap,e,q,C,A,by omega⟩
end
end Go.Vs
