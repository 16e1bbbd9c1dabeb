/-
  Part of the proof of the law ModuleShrinks over this seat: the small logic, the data, the contracts of functions (no condition).
-/
import Derived.Test.YtamklbgaipakfaaGreatDoorQModuleShrinks3
import Derived.Test.YtamklbgaipakfaaGreatDoorQModuleShrinks5
import Derived.Test.YtamklbgaipakfaaGreatDoorQModuleShrinks4
import Derived.Test.YtamklbgaipakfaaGreatDoorQModuleShrinks2
import Derived.ProofKit
import Derived.OpenShut
import Derived.ReadAgain
import Derived.Deep.Slices
import Derived.SevenTiedAt
import Derived.Stop.Joined
import Derived.Lay
import Derived.LaidMore
set_option linter.unusedVariables false
set_option linter.unusedSimpArgs false
set_option linter.unusedSectionVars false
set_option maxHeartbeats 1000000
namespace Go.Proofs.YtamklbgaipakfaaGreatDoor
open Go Go.Sx Go.Proofs
attribute [local irreducible] Code.wp wpList wpAnyH
open Go.Vs
theorem ar_.form {e:TypeId} {sz n:Nat} {sv:Value} {xs:List Value} {Hr:Hp} (h:ar_ e sz sv n xs Hr):∃ ad cap,sv=.slice ad n cap:=by
 rcases h.2 with⟨h1,h2,_⟩|⟨g,cap,cur,h1,_⟩
 ·exact⟨none,0,by rw[h1,h2]⟩
 exact⟨_,cap,h1⟩
theorem ar_.nilcap {e:TypeId} {sz n m cap:Nat} {sv:Value} {xs:List Value} {Hr:Hp} {ad:Option Addr} (h:ar_ e sz sv n xs Hr) (hs:sv=.slice ad m cap):ad=none→cap=0:=fun h0=>by
 rcases h.2 with⟨h1,_,_⟩|⟨g,c,cur,h1,_⟩
 ·rw[h1]at hs;simp only[Value.slice.injEq]at hs;exact hs.2.2.symm
 rw[h1,h0]at hs;simp at hs
theorem lr_ (l:List Ax) (ad:Option Addr) (cap:Nat) (hcap:l.length≤2199023255488) (hok:∀ x∈l,x.ok) :
    Tri Tryz.prog 27 #[.slice ad l.length cap] [] [aR_ ad l,bn_] (fun y:{y:Option Addr×Nat // (ad_ l).1.length≤y.2∧y.2≤maxLen∧(y.1=none→y.2=0)}=>.tuple #[.slice y.1.1 (ad_ l).1.length y.1.2,.int .i64 (ad_ l).2]) (fun _=>[]) (fun y=>[ac_ y.1.1 ((ad_ l).1.flatMap Pc.cells)]):=by
  refine j_ Tryz.func27 rfl rfl Tryz.ntmps27 rfl fun v0=>?_
  refine at_ ?_
  refine X_ ?_
  refine c_ (aq_ rfl) rfl ?_
  refine c_ (aq_ rfl) rfl ?_
  refine ap_ ?_
  refine ab_ rfl ?_
  refine at_ ?_
  refine at_ ?_
  refine X_ ?_
  refine c_ (H_ rfl) rfl ?_
  refine c_ (dl_ s_ rfl) rfl ?_
  refine y_ (eb_ rfl rfl) rfl fun r1 hr1=>?_
  refine ap_ ?_
  refine ab_ rfl ?_
  cases r1
  · skip
    replace hr1:=zdf hr1
    try dsimp only[Con.kind,Con.parts,Con.name,Con.lo,Con.hi,Con.cap,Con.ad]at hr1
    refine bx_ rfl ?_
    refine ch_ ?_
    refine ab_ rfl ?_
    refine at_ ?_
    refine at_ ?_
    refine X_ ?_
    refine c_ (H_ rfl) rfl ?_
    refine c_ (dl_ s_ rfl) rfl ?_
    refine c_ (H_ rfl) rfl ?_
    refine ap_ ?_
    refine ab_ rfl ?_
    refine dr_ ?_
    refine bp_ [(0,.slice ad l.length cap),(2,.slice none 0 0),(13,.slice ad l.length cap),(14,.int .i64 (l.length:Int)),(15,.int .i64 ((0:Nat):Int))] zl ?_
    refine bG_ (ι:={q:Nat // q≤l.length∧∀ y∈l.take q,y.check=0}) (fun i=>[(0,.slice ad l.length cap),(2,.slice none 0 0),(13,.slice ad l.length cap),(14,.int .i64 (l.length:Int)),(15,.int .i64 (i.1:Int))]) (fun _=>_) (fun _=>_) (fun i=>l.length - i.1) ⟨0,by simp⟩ ?_
    rintro ⟨i,hk⟩
    refine bp_ [(0,.slice ad l.length cap),(2,.slice none 0 0),(13,.slice ad l.length cap),(14,.int .i64 (l.length:Int)),(15,.int .i64 (i:Int))] zl ?_
    refine at_ ?_
    refine X_ ?_
    refine y_ (dN_ rfl rfl) rfl fun r2 hr2=>?_
    refine ap_ ?_
    refine ab_ rfl ?_
    refine at_ ?_
    cases r2
    · skip
      replace hr2:=zdf hr2
      try dsimp only[Con.kind,Con.parts,Con.name,Con.lo,Con.hi,Con.cap,Con.ad]at hr2
      obtain rfl:i=l.length:=by omega
      try rw[List.take_length]at hk
      refine bx_ rfl ?_
      refine gy_ rfl ?_
      refine ab_ rfl ?_
      refine at_ ?_
      refine at_ ?_
      refine X_ ?_
      refine c_ (H_ rfl) rfl ?_
      refine c_ (dl_ s_ rfl) rfl ?_
      refine c_ (H_ rfl) rfl ?_
      refine ap_ ?_
      refine ab_ rfl ?_
      refine dr_ ?_
      have hall:=hk.2
      refine bp_ [(2,.slice none 0 0),(25,.slice ad l.length cap),(26,.int .i64 (l.length:Int)),(27,.int .i64 ((0:Nat):Int))] zl ?_
      refine bG_ (ι:={x:Nat×List Pc×Value×Hp // x.1≤l.length∧ar_ 58 10 x.2.2.1 x.2.1.length (x.2.1.flatMap Pc.cells) x.2.2.2∧x.2.1.length≤16384∧ex_ 0 l []=ex_ x.1 (l.drop x.1) x.2.1}) (fun x=>[(2,x.1.2.2.1),(25,.slice ad l.length cap),(26,.int .i64 (l.length:Int)),(27,.int .i64 (x.1.1:Int))]) (fun x=>x.1.2.2.2) (fun _=>_) (fun x=>l.length - x.1.1) ⟨(0,[],.slice none 0 0,[]),by simp,ar_.nil _ _,by simp,rfl⟩ ?_
      clear hk
      rintro ⟨⟨i,p,sv,Hr⟩,hk⟩
      dsimp only at hk
      refine bp_ [(2,sv),(25,.slice ad l.length cap),(26,.int .i64 (l.length:Int)),(27,.int .i64 (i:Int))] zl ?_
      refine at_ ?_
      refine X_ ?_
      refine y_ (dN_ rfl rfl) rfl fun r3 hr3=>?_
      refine ap_ ?_
      refine ab_ rfl ?_
      refine at_ ?_
      cases r3
      · skip
        replace hr3:=zdf hr3
        try dsimp only[Con.kind,Con.parts,Con.name,Con.lo,Con.hi,Con.cap,Con.ad]at hr3
        obtain rfl:i=l.length:=by omega
        try rw[List.take_length]at hk
        refine bx_ rfl ?_
        refine gy_ rfl ?_
        refine ab_ rfl ?_
        refine at_ ?_
        refine X_ ?_
        refine c_ (H_ rfl) rfl ?_
        refine c_ (aq_ rfl) rfl ?_
        refine c_ (aq_ rfl) rfl ?_
        refine ap_ ?_
        refine ab_ rfl ?_
        refine gR_ ?_
        refine cC_ hk.2.1 (F:=[]) (by rw[List.append_nil]) fun ad2 cp2 hsv hc1 hc2=>?_
        have e:ad_ l=(p,0):=by
          unfold ad_;rw[if_neg (by omega),if_neg (by simp[eE_ hall]),hk.2.2.2,List.drop_length];first|done|rfl
        have hy:(ad_ l).1.length≤cp2∧cp2≤maxLen∧(ad2=none→cp2=0):=by rw[e];exact⟨hc1,hc2,ar_.nilcap hk.2.1 hsv⟩
        have hz:Value.tuple #[sv,.int .i64 0]=.tuple #[.slice ad2 (ad_ l).1.length cp2,.int .i64 (ad_ l).2]:=by rw[e,hsv]
        have hw:(p.flatMap Pc.cells)=((ad_ l).1.flatMap Pc.cells):=by rw[e]
        exact fr_ Tryz.results27 ⟨(ad2,cp2),hy⟩ rfl rfl hz (.refl _) (fun v _ h=>⟨hw▸h.1,trivial⟩)
      · skip
        replace hr3:=zdt hr3
        try dsimp only[Con.kind,Con.parts,Con.name,Con.lo,Con.hi,Con.cap,Con.ad]at hr3
        have hlt:i<l.length:=by omega
        obtain⟨x,hx⟩:∃ x,l[i]? = some x:=⟨_,List.getElem?_eq_getElem hlt⟩
        have hxm:x∈l:=List.mem_of_getElem? hx
        refine dh_ rfl ?_
        refine ch_ ?_
        refine ab_ rfl ?_
        refine at_ ?_
        refine dr_ ?_
        refine at_ ?_
        have G:=Ax.good_of (hall x hxm)
        have hpl:=kc_ (i:Int) G
        refine X_ ?_
        refine c_ (H_ rfl) rfl ?_
        refine c_ (C_ s_ f_ rfl rfl (fun v _ h=>q_ (n:=16) Ax.cells_len (by decide) (h.1.1) hx) (by omega) (by first|omega|(simp only[Con.parts];omega)|(simp[Con.parts];done))) rfl ?_
        refine c_ (L_ (ad:=ad) (us:=x.cells) K_ f_ rfl (fun v _ h=>h.1.1) (Ax.cells_len _) (o_ Ax.cells_len hx)) rfl ?_
        refine G_ av_ rfl fun b1=>?_
        refine c_ (aq_ rfl) rfl ?_
        refine kf_ (us:=x.cells) 0 f_ x.cells_len x.one_cells rfl rfl rfl rfl ?_
        refine ap_ ?_
        refine ab_ rfl ?_
        refine at_ ?_
        refine X_ ?_
        refine c_ (H_ rfl) rfl ?_
        refine d_ (gC_ (i:Int)) rfl (.refl _) zt rfl fun⟨kb,bm⟩=>?_
        refine c_ (aq_ rfl) rfl ?_
        refine ap_ ?_
        refine ab_ rfl ?_
        refine at_ ?_
        refine X_ ?_
        refine c_ (H_ rfl) rfl ?_
        refine c_ (kW_ (us:=x.cells) 2 K_ f_ x.cells_len rfl rfl) rfl ?_
        refine d_ (uU_ x (hok x hxm) (hall x hxm) (i:Int) ⟨.slice none 0 0,bm,#[],0,[]⟩ ⟨ar_.nil _ _,rfl,by simp⟩) rfl (.refl _) (fun v _ h=>⟨h.1.2 x hxm,h.2.1,trivial⟩) rfl fun y=>?_
        obtain⟨⟨sv1,bm1,es1,ck1,Hr1⟩,hq⟩:=y
        have hne:=hq.row
        dsimp only at hne
        have hn0:(x.pieces (i:Int)).length≠0:=fun e=>Ax.pieces_ne _ G (List.eq_nil_of_length_eq_zero e)
        obtain⟨g,cp,cur,rfl,rfl,h3,h4,h5,h6⟩:=hne.some hn0
        refine ap_ ?_
        refine ab_ rfl ?_
        refine at_ ?_
        refine X_ ?_
        refine c_ (H_ rfl) rfl ?_
        refine c_ (H_ rfl) rfl ?_
        refine c_ (iu_ rfl) rfl ?_
        refine c_ (dq_ bL_ rfl rfl rfl fx_) rfl ?_
        refine c_ (aO_ 0 po_ rfl rfl rfl) rfl ?_
        refine aX_ tw_ hk.2.1 rfl rfl (@List.perm_append_comm _ [_,_,_,_] _) (by rw[ey_ Pc.cells 10 Pc.cells_len]) (ro_ 2 rfl h6) (fun u hu=>by obtain⟨y,_,hy⟩:=List.mem_flatMap.1 hu;exact gU_ y.cells_one u hy) (by simp only[maxLen];omega) (by omega) rfl fun sv2 Hr2 hrow=>?_
        refine u_ (@List.perm_append_comm _ _ [_,_,_,_]) ?_
        have hln:∃ ad2 cp2,sv2=.slice ad2 (p.length+(x.pieces (i:Int)).length) cp2:=ar_.form hrow
        obtain⟨ad2,cp2,hsv⟩:=hln
        refine c_ (aq_ rfl) rfl ?_
        refine ap_ ?_
        refine ab_ rfl ?_
        refine at_ ?_
        refine X_ ?_
        refine c_ (H_ rfl) rfl ?_
        refine c_ (dl_ (ad:=ad2) (len:=p.length+(x.pieces (i:Int)).length) (cap:=cp2) x_ (congrArg some hsv)) rfl ?_
        refine y_ (eb_ rfl rfl) rfl fun r4 hr4=>?_
        refine ap_ ?_
        refine ab_ rfl ?_
        cases r4
        · skip
          replace hr4:=zdf hr4
          try dsimp only[Con.kind,Con.parts,Con.name,Con.lo,Con.hi,Con.cap,Con.ad]at hr4
          refine bx_ rfl ?_
          refine ch_ ?_
          refine ab_ rfl ?_
          refine X_ ?_
          refine c_ (as_ rfl rfl rfl (aV_ (by omega) (by omega))) rfl ?_
          refine c_ (H_ rfl) rfl ?_
          refine ap_ ?_
          refine bU_ rfl ?_
          exact z_ ⟨(i+1,p++x.pieces (i:Int),sv2,Hr2),hlt,by simpa [List.flatMap_append] using hrow,by simp only[List.length_append];omega,by rw[hk.2.2.2,ik_ hx];simp only[ex_];rw[if_neg (by simp only[List.length_append];omega)]⟩ (by simp;omega) zl (F:=[_,_,_,_]) (@List.perm_append_comm _ [_,_,_,_] _) zh
        · skip
          replace hr4:=zdt hr4
          try dsimp only[Con.kind,Con.parts,Con.name,Con.lo,Con.hi,Con.cap,Con.ad]at hr4
          refine dh_ rfl ?_
          refine at_ ?_
          refine X_ ?_
          refine c_ (aq_ rfl) rfl ?_
          refine c_ (aq_ rfl) rfl ?_
          refine ap_ ?_
          refine ab_ rfl ?_
          refine gR_ ?_
          have e:ad_ l=([],2):=by unfold ad_;rw[if_neg (by omega),if_neg (by simp[eE_ hall]),hk.2.2.2,ik_ hx];simp only[ex_];rw[if_pos (by simp only[List.length_append];omega)]
          have hy:(ad_ l).1.length≤0∧0≤maxLen∧((none:Option Addr)=none→0=0):=by rw[e];simp
          have hz:Value.tuple #[.slice none 0 0,.int .i64 2]=.tuple #[.slice none (ad_ l).1.length 0,.int .i64 (ad_ l).2]:=by rw[e]<;>rfl
          have hw:(ad_ l).1.flatMap Pc.cells=[]:=by rw[e]<;>rfl
          exact fr_ Tryz.results27 ⟨(none,0),hy⟩ rfl rfl hz (.refl _) (fun v _ h=>⟨.inl hw,trivial⟩)
    · skip
      replace hr2:=zdt hr2
      try dsimp only[Con.kind,Con.parts,Con.name,Con.lo,Con.hi,Con.cap,Con.ad]at hr2
      have hlt:i<l.length:=by omega
      obtain⟨x,hx⟩:∃ x,l[i]? = some x:=⟨_,List.getElem?_eq_getElem hlt⟩
      have hxm:x∈l:=List.mem_of_getElem? hx
      refine dh_ rfl ?_
      refine ch_ ?_
      refine ab_ rfl ?_
      refine at_ ?_
      refine dr_ ?_
      refine at_ ?_
      refine X_ ?_
      refine c_ (C_ s_ f_ rfl rfl (fun v _ h=>q_ (n:=16) Ax.cells_len (by decide) (h.1.1) hx) (by omega) (by first|omega|(simp only[Con.parts];omega)|(simp[Con.parts];done))) rfl ?_
      refine c_ (L_ (ad:=ad) (us:=x.cells) K_ f_ rfl (fun v _ h=>h.1.1) (Ax.cells_len _) (o_ Ax.cells_len hx)) rfl ?_
      refine G_ av_ rfl fun b2=>?_
      refine kf_ (us:=x.cells) 0 f_ x.cells_len x.one_cells rfl rfl rfl rfl ?_
      refine ap_ ?_
      refine ab_ rfl ?_
      refine at_ ?_
      refine X_ ?_
      refine c_ (kW_ (us:=x.cells) 0 K_ f_ x.cells_len rfl rfl) rfl ?_
      refine d_ (eV_ x (hok x hxm)) rfl (.refl _) (fun v _ h=>⟨h.1.2 x hxm,h.2.1,trivial⟩) rfl fun _=>?_
      refine c_ (aq_ rfl) rfl ?_
      refine ap_ ?_
      refine ab_ rfl ?_
      refine at_ ?_
      refine X_ ?_
      refine c_ (H_ rfl) rfl ?_
      refine y_ (bR_ rfl rfl) rfl fun r5 hr5=>?_
      refine ap_ ?_
      refine ab_ rfl ?_
      cases r5
      · skip
        replace hr5:=dZ_ hr5
        try dsimp only[Con.kind,Con.parts,Con.name,Con.lo,Con.hi,Con.cap,Con.ad]at hr5
        refine bx_ rfl ?_
        refine ch_ ?_
        refine ab_ rfl ?_
        refine X_ ?_
        refine c_ (as_ rfl rfl rfl (aV_ (by omega) (by omega))) rfl ?_
        refine c_ (H_ rfl) rfl ?_
        refine ap_ ?_
        refine bU_ rfl ?_
        exact z_ ⟨i+1,hlt,fun y hy=>by rw[List.take_add_one,hx]at hy;simp only[Option.toList_some,List.mem_append,List.mem_singleton]at hy;rcases hy with hy|rfl;exact hk.2 y hy;assumption⟩ (by simp;omega) zl (@List.perm_append_comm _ [_] _) zh
      · skip
        replace hr5:=dV_ hr5
        try dsimp only[Con.kind,Con.parts,Con.name,Con.lo,Con.hi,Con.cap,Con.ad]at hr5
        refine dh_ rfl ?_
        refine at_ ?_
        refine X_ ?_
        refine c_ (H_ rfl) rfl ?_
        refine c_ (aq_ rfl) rfl ?_
        refine c_ (aq_ rfl) rfl ?_
        refine ap_ ?_
        refine ab_ rfl ?_
        refine gR_ ?_
        have e:ad_ l=([],x.check):=by unfold ad_;rw[if_neg (by omega),og_ hx hk.2 (by assumption),if_pos (by assumption)]
        have hy:(ad_ l).1.length≤0∧0≤maxLen∧((none:Option Addr)=none→0=0):=by rw[e];simp
        have hz:Value.tuple #[.slice none 0 0,.int .i64 x.check]=.tuple #[.slice none (ad_ l).1.length 0,.int .i64 (ad_ l).2]:=by rw[e]<;>rfl
        have hw:(ad_ l).1.flatMap Pc.cells=[]:=by rw[e]<;>rfl
        exact fr_ Tryz.results27 ⟨(none,0),hy⟩ rfl rfl hz (.refl _) (fun v _ h=>⟨.inl hw,trivial⟩)
  · skip
    replace hr1:=zdt hr1
    try dsimp only[Con.kind,Con.parts,Con.name,Con.lo,Con.hi,Con.cap,Con.ad]at hr1
    refine dh_ rfl ?_
    refine at_ ?_
    refine X_ ?_
    refine c_ (aq_ rfl) rfl ?_
    refine c_ (aq_ rfl) rfl ?_
    refine ap_ ?_
    refine ab_ rfl ?_
    refine gR_ ?_
    have e:ad_ l=([],2):=by unfold ad_;rw[if_pos (by omega)]
    have hy:(ad_ l).1.length≤0∧0≤maxLen∧((none:Option Addr)=none→0=0):=by rw[e];simp
    have hz:Value.tuple #[.slice none 0 0,.int .i64 2]=.tuple #[.slice none (ad_ l).1.length 0,.int .i64 (ad_ l).2]:=by rw[e]<;>rfl
    have hw:(ad_ l).1.flatMap Pc.cells=[]:=by rw[e]<;>rfl
    exact fr_ Tryz.results27 ⟨(none,0),hy⟩ rfl rfl hz (.refl _) (fun v _ h=>⟨.inl hw,trivial⟩)
theorem sG_ (l:List Ax) (ad:Option Addr) (cap:Nat) (hcap:l.length≤cap∧cap≤2199023255488) (hok:∀ x∈l,x.ok) :
    Tri Tryz.prog 27 #[.slice ad l.length cap] [] [aR_ ad l,bn_] (fun y:{y:Option Addr×Nat // (ad_ l).1.length≤y.2∧y.2≤maxLen∧(y.1=none→y.2=0)}=>.tuple #[.slice y.1.1 (ad_ l).1.length y.1.2,.int .i64 (ad_ l).2]) (fun _=>[]) (fun y=>[ac_ y.1.1 ((ad_ l).1.flatMap Pc.cells)]):=lr_ l ad cap (Nat.le_trans hcap.1 hcap.2) hok
end Go.Proofs.YtamklbgaipakfaaGreatDoor
namespace Go.Proofs.YtamklbgaipakfaaGreatDoor
open Go Go.Sx Go.Proofs
attribute [local irreducible] Code.wp wpList wpAnyH
open Go.Vs
theorem rY_ {N:Nf} {fr:Fr} {H:Hp} {Γ:List Fct} {P:Program} {ty t t':TypeId} {x y:Operand} {m n:Int} (hx:Fr.ev fr x=some (.int .i64 m)) (hy:Fr.ev fr y=some (.int .i64 n)):Yld P N fr H Γ (.binOp .add t x y t') ty (.int .i64 (IntKind.wrap .i64 (m+n))) :=
  fun a v h1 _ _ _ _ _=>by simp[execOp,h1.ev hx,h1.ev hy,eqGuard,binOp,Op.intArith]
def wz (n:Nat):Int:=IntKind.wrap .i64 (n:Int)
theorem tW_ (n:Nat):IntKind.wrap .i64 (wz n+1)=wz (n+1):=by
  unfold wz
  rw[IntKind.wrap_i64,IntKind.wrap_i64,IntKind.wrap_i64]
  omega
theorem rZ_ {n:Nat} (h:n≤1000000):wz n=(n:Int):=aV_ (by omega) (by omega)
theorem Con.fold_cnt:∀ (m:Nat) (c:Con),c.sz≤m→∀ n,Con.fold Con.cnt c n=.inl (n+c.sz)
  | 0,c,h=>by have:=c.sz_pos;omega
  | m+1,c,h=>fun n=>by
    have key:∀ ps:List Con,(∀ p∈ps,p.sz≤m)→∀ n,Con.fold.folds Con.cnt ps n=.inl (n+Con.sz.szs ps):=by
      intro ps
      induction ps with
      | nil=>intro _ n;simp[Con.fold.folds,Con.sz.szs]
      | cons p ps ih =>
        intro hp n
        simp only[Con.fold.folds,Con.fold_cnt m p (hp p (by simp)) n,Con.sz.szs]
        rw[ih (fun q hq=>hp q (by simp[hq]))]
        congr 1;omega
    rw[Con.fold_eq]
    simp only[Con.cnt]
    rw[key c.parts (fun p hp=>by have:=Con.sz_part hp;omega)]
    congr 1
    cases c;simp only[Con.sz,Con.parts];omega
theorem size_c (c:Con) (hok:c.ok) (hz0:c.sz≤1000000):Tri Tryz.prog 182 #[c.val] [] [c.memF] (fun _:Unit=>.int .i64 (c.sz:Int)) (fun _=>[]) (fun _=>[]):=by
 refine ec_ Tryz.func182 rfl rfl Tryz.ntmps182 rfl fun v0=>?_
 refine Zz 2 ?_
 refine N_ rfl rfl fun b1=>G_ aU_ rfl fun b2=>Zz 5 ?_
 refine c_ (cw_ 1 R_ g_ rfl rfl) rfl (d_ (sd_ c) rfl (.refl _) zt rfl fun b=>Zz 3 ?_)
 refine bp_ [(2,zp_ b2 0),(4,.func (.func 198) #[] #[zp_ b 0])] zl ?_
 refine eC_ (H':=[_,_]) (F:=[_]) (.refl _) zh ?_
 refine lj_ (α:={c:Con // c.ok}) (xv:=fun x=>x.1.val) (good:=fun _=>True) (stp:=fun x=>Con.cnt x.1) (Γx:=fun x=>[x.1.memF]) (Γi:=[Con.memF c]) (Hj:=fun n:Nat=>[(b2,.cells #[.int .i64 (wz n)] 3 (0,0))]) (Hx:=fun _:Empty=>[]) (Hc:=[(b,.cells c.cells.toArray 46 (0,0))]) (caps:=[zp_ b 0]) 0 (Con.fold Con.cnt c 0) rfl (.refl _) (fun v _ h=>h) ?_ ?_ ?_ ?_
 ·rintro l D rec hp hst hpe ht hasg hbody s ⟨x,hx⟩ -
  refine jG_ (ι:=Unit) (Hj:=fun n:Nat=>[(b2,.cells #[.int .i64 (wz n)] 3 (0,0))]) (Hx:=fun _:Empty=>[]) (s:=s) (res:=Con.cnt x s) (Γ:=[x.memF]) (fun _=>[(2,zp_ b2 0)]) (fun _=>[(b2,.cells #[.int .i64 (wz s)] 3 (0,0))]) hp hst hpe ht rfl ?_ ?_
  ·intro n v0 H0 HL
   rw[hasg]
   refine lk_ ?_
   refine ci_ rfl ?_
   exact cy_ () ⟨rfl,trivial⟩ (F:=[]) (by rw[List.append_nil]) zh
  intro n v0 H0 HL _
  rw[hbody]
  refine fb_ ?_
  refine aM_ ?_
  refine Z_ (bc_ _) (aO_ 0 aZ_ rfl rfl rfl) rfl rfl ?_
  refine Z_ (bc_ _) (aA_ (rY_ rfl rfl) (show _=Value.int .i64 (wz (s+1)) from congrArg (Value.int .i64) (tW_ s))) rfl rfl ?_
  refine dQ_ (bc_ _) 0 U_ rfl rfl rfl rfl rfl rfl ?_
  refine bz_ ?_
  refine ci_ rfl ?_
  exact ll_ (s+1) rfl (G:=[]) (by rw[List.append_nil];exact .refl _)
 ·intro l Gj Gx hY
  exact pI_ (E:=[]) (good:=fun _=>True) (fun _ _ _ _=>trivial) (fun s x hx _=>hY s ⟨x,hx⟩ trivial) _ hok trivial 0
 ·intro s hs D l r
  rw[Con.fold_cnt _ _ (Nat.le_refl _)]at hs
  obtain rfl:0+c.sz=s:=Sum.inl.inj hs
  have hz:wz (0+c.sz)=(c.sz:Int):=by rw[Nat.zero_add];exact rZ_ hz0
  refine cz_ rfl ?_
  refine eG_ ?_
  refine aM_ ?_
  refine Z_ J_ (aO_ 1 aZ_ rfl rfl rfl) rfl rfl ?_
  refine dQ_ J_ 1 U_ rfl rfl rfl rfl rfl rfl ?_
  refine bz_ ?_
  refine cz_ rfl ?_
  refine fz_ ?_
  exact ln_ (G:=[_,_,_]) () (fun a v h1 h2=>by rw[← hz];exact hS_ 1 Tryz.results182 aZ_ rfl rfl a v h1 h2) (eB_ (i:=3) rfl) ⟨_,.refl _⟩ rfl
 intro t hs D l r
 cases t
end Go.Proofs.YtamklbgaipakfaaGreatDoor
namespace Go.Proofs.YtamklbgaipakfaaGreatDoor
open Go Go.Sx Go.Proofs
attribute [local irreducible] Code.wp wpList wpAnyH
open Go.Vs
theorem eX_ (xs:List Str) (ad:Option Addr) (cap:Nat) {kb:Nat} (frm:Int) (l:List Pc) (q:CS) (hq:CInv l q) (hxs:xs.length≤1000) (hlen:l.length+xs.length≤100000) :
    Tri Tryz.prog 111 #[zp_ kb 0,.slice ad (List.length xs) cap] (eI_ kb frm q) [ac_ ad (List.flatMap aJ_ xs)] (fun _:{q':CS // CInv (aY_ frm xs l) q'}=>.tuple #[]) (fun q'=>eI_ kb frm q'.1) (fun _=>[]):=by
  refine j_ Tryz.func111 rfl rfl Tryz.ntmps111 rfl fun v0=>?_
  refine Zz 8 ?_
  refine bp_ [(0,zp_ kb 0),(6,.slice ad (List.length xs) cap),(7,.int .i64 (List.length xs:Int)),(8,.int .i64 ((0:Nat):Int))] zl ?_
  refine bG_ (ι:={y:Nat×CS // y.1≤xs.length∧CInv (aY_ frm (xs.take y.1) l) y.2}) (fun y=>[(0,zp_ kb 0),(6,.slice ad (List.length xs) cap),(7,.int .i64 (List.length xs:Int)),(8,.int .i64 (y.1.1:Int))]) (fun y=>eI_ kb frm y.1.2) (fun _=>_) (fun y=>xs.length - y.1.1) ⟨(0,q),by simp,hq⟩ ?_
  rintro ⟨⟨i,q0⟩,hk⟩
  dsimp only at hk
  dsimp only
  have hml:=dX_ frm (xs.take i) l
  have hti:(xs.take i).length≤i:=by simp;omega
  refine bp_ [(0,zp_ kb 0),(6,.slice ad (List.length xs) cap),(7,.int .i64 (List.length xs:Int)),(8,.int .i64 (i:Int))] zl ?_
  refine Zi 2 (fun hr1=>?_) fun hr1=>?_
  · skip
    refine Zz 6 ?_
    exact dS_ Tryz.results111 ⟨q0,by have:=hk.2;rwa [List.take_of_length_le (by omega)]at this⟩ rfl (F:=[]) am_ zt
  · skip
    obtain⟨hlx1,x1,hx1,hmx1⟩:=zge (show i<List.length xs by omega)
    refine Zz 18 ?_
    refine c_ (A_ cR_ rfl rfl) rfl (B_ x_ aw_ ao_ rfl rfl rfl rfl rfl rfl fun b1=>d_ (cU_ (Pc.mk 1 x1 [] [42] [] [] [] 0 0 0) frm (aY_ frm (xs.take i) l) q0 hk.2 (by omega)) rfl zp zt rfl fun⟨q1,hq1⟩=>?_)
    dsimp only
    have hb1:=aT_ frm (aY_ frm (xs.take i) l) (Pc.mk 1 x1 [] [42] [] [] [] 0 0 0)
    refine u_ (List.Perm.symm am_) (Zz 7 ?_)
    exact z_ ⟨(i+1,q1),hlx1,by dsimp only;rw[pf_ frm hx1];exact hq1⟩ (by dsimp only;omega) zl (F:=[]) am_ zh
theorem gW_ (a b:Str):Fn0 Tryz.prog 109 #[str a,str b] (Fc.val ⟨1,a,b,[],0,0⟩):=by
  refine j_ Tryz.func109 rfl rfl Tryz.ntmps109 rfl fun v0=>?_
  refine Zz 2 ?_
  refine G_ dt_ rfl fun b1=>Zz 6 ?_
  refine c_ (A_ sl_ rfl rfl) rfl (n_ 0 eK_ rfl rfl rfl rfl rfl rfl (Zz 3 ?_))
  exact cr_ () (fun a v h1 h2=>dT_ (us:=Fc.cells ⟨1,_,_,[],0,0⟩) 0 Tryz.results109 Tryz.isAgg67 eK_ rfl rfl rfl a v h1 h2) (@List.perm_append_comm _ [_] _) (fun v _ h=>trivial)
theorem eltF:Elt Tryz.prog 59 67 6 72:=fo_ Tryz.underlying59 (z:=.agg (Fc.mk 0 [] [] [] 0 0).cells.toArray) (by kernel_rfl) rfl (by decide)
theorem goal_c (x:Ax) (hok:x.ok):Tri Tryz.prog 58 #[Ax.val x] [] [Ax.memF x,bn_] (fun y:{y:Option Addr×Nat×Option Addr×Nat // x.goalP.1.length≤y.2.1∧y.2.1≤maxLen∧x.goalP.2.1.length≤y.2.2.2∧y.2.2.2≤maxLen∧(y.1=none→y.2.1=0)}=>.tuple #[.slice y.1.1 x.goalP.1.length y.1.2.1,.slice y.1.2.2.1 x.goalP.2.1.length y.1.2.2.2,.int .i64 x.goalP.2.2])
    (fun _=>[]) (fun y=>[ac_ y.1.1 (x.goalP.1.flatMap Pc.cells),ac_ y.1.2.2.1 (x.goalP.2.1.flatMap Fc.cells)]):=by
  refine j_ Tryz.func58 rfl rfl Tryz.ntmps58 rfl fun v0=>?_
  have h1:=hok.role
  have h2:=hok.a
  have h3:=hok.b
  have h4:=Con.operandN_len hok.left
  have h5:=Con.operandN_len hok.right
  have h0:([]:List Pc).length=0:=rfl
  refine Zz 2 ?_
  refine N_ rfl rfl fun b1=>Zz 9 ?_
  refine d_ (eV_ x hok) rfl e_ zf rfl fun _=>Zi 6 (fun hr1=>?_) fun hr1=>?_
  · skip
    have G:=Ax.good_of hr1
    refine Zz 7 ?_
    refine d_ (gC_ (-1)) rfl e_ zt rfl fun⟨kb,bm0⟩=>?_
    dsimp only
    refine u_ (@List.perm_append_comm _ _ [_]) (Zz 6 ?_)
    refine d_ (pP_ kb) rfl e_ zt rfl fun⟨bk,bl,br⟩=>?_
    dsimp only
    refine Zi 23 (fun hr2=>?_) fun hr2=>?_
    · skip
      refine Zi 5 (fun hr3=>?_) fun hr3=>?_
      · skip
        refine Zi 6 (fun hr4=>?_) fun hr4=>?_
        · skip
          refine Zi 6 (fun hr5=>?_) fun hr5=>?_
          · skip
            refine Zi 6 (fun hr6=>?_) fun hr6=>?_
            · skip
              refine Zi 6 (fun hr7=>?_) fun hr7=>?_
              · skip
                refine Zz 12 ?_
                have e:x.goalP=([],[],22):=by unfold Ax.goalP;rw[if_neg (by omega)];repeat rw[if_neg (by omega)]
                have hy:x.goalP.1.length≤0∧0≤maxLen∧x.goalP.2.1.length≤0∧0≤maxLen∧((none:Option Addr)=none→0=0):=by rw[e];simp
                have hz:Value.tuple #[.slice none 0 0,.slice none 0 0,.int .i64 22]=.tuple #[.slice none x.goalP.1.length 0,.slice none x.goalP.2.1.length 0,.int .i64 x.goalP.2.2]:=by rw[e]<;>rfl
                have hw1:x.goalP.1.flatMap Pc.cells=[]:=by rw[e];rfl
                have hw2:x.goalP.2.1.flatMap Fc.cells=[]:=by rw[e];rfl
                exact iy_ eg_ ⟨(none,0,none,0),hy⟩ rfl rfl rfl hz e_ (fun v _ h=>⟨.inl hw1,.inl hw2,trivial⟩)
              · skip
                refine Zz 5 ?_
                refine bf_ ((b1,.cells #[.int .i64 (Ax.kind x),.bool (Ax.opn x),.int .i64 (Con.kind (Ax.left x)),str (Con.name (Ax.left x)),.int .i64 (Con.lo (Ax.left x)),.int .i64 (Con.hi (Ax.left x)),.slice (Con.ad (Ax.left x)) (List.length (Con.parts (Ax.left x))) (Con.cap (Ax.left x)),.int .i64 (Con.kind (Ax.right x)),str (Con.name (Ax.right x)),.int .i64 (Con.lo (Ax.right x)),.int .i64 (Con.hi (Ax.right x)),.slice (Con.ad (Ax.right x)) (List.length (Con.parts (Ax.right x))) (Con.cap (Ax.right x)),.slice (Ax.ad x) (List.length (Ax.roles x)) (Ax.cap x),str (Ax.role x),str (Ax.a x),str (Ax.b x)] 48 (0,0))::[]) zk ?_
                refine Q_ 4 [0,1,2,4,5] zk zs (Zz 6 ?_)
                refine p_ 3 rfl zk (d_ (ca_ (Ax.a x) hok.a) rfl e_ zt rfl fun _=>Zz 3 ?_)
                refine p_ 6 rfl zk (d_ (ca_ (Ax.b x) hok.b) rfl e_ zt rfl fun _=>Zz 3 ?_)
                refine p_ 7 rfl zk (B_ t_ ah_ aK_ rfl rfl rfl rfl rfl rfl fun b2=>?_)
                refine ai_ (List.flatMap aJ_ [(dH_ (Ax.a x)),(dH_ (Ax.b x))]) i_ rfl ?_
                refine Zz 3 ?_
                refine p_ 8 rfl zk (d_ (eX_ [(dH_ (Ax.a x)),(dH_ (Ax.b x))] (some ⟨b2,0,none⟩) 2 (-1) ([]:List Pc) ⟨.slice none 0 0,bm0,#[],0,[]⟩ ⟨ar_.nil _ _,rfl,by simp⟩ (by simp) (by simp only[List.length_cons,List.length_nil];omega)) rfl zp zf rfl fun⟨q1,hq1⟩=>?_)
                dsimp only
                have hb1:=dX_ (-1) [(dH_ (Ax.a x)),(dH_ (Ax.b x))] ([]:List Pc)
                refine u_ (@List.perm_append_comm _ _ [_]) ?_
                simp only[List.length_cons,List.length_nil]at hb1
                refine Zz 6 ?_
                refine Q_ 5 [0,1,3,4,6,7] zk zs (Zz 7 ?_)
                refine p_ 2 rfl zk (d_ (ca_ (Ax.a x) hok.a) rfl e_ zt rfl fun _=>Zz 3 ?_)
                refine p_ 5 rfl zk (d_ (ca_ (Ax.b x) hok.b) rfl e_ zt rfl fun _=>Zz 3 ?_)
                refine Q_ 2 [8] zk zs (P_ rfl (A_ sl_ rfl rfl) rfl (ba_ (p_ 9 rfl zk (B_ dJ_ eK_ dt_ rfl rfl rfl rfl rfl rfl fun b3=>Zz 3 ?_))))
                refine Q_ 0 [10] zk zs (Zz 17 ?_)
                refine ai_ (List.flatMap Fc.cells [(Fc.mk 2 (dH_ (Ax.a x)) (dH_ (Ax.b x)) (Ax.role x) 0 0)]) i_ rfl ?_
                refine cC_ hq1.row (l_ (l_ (l_ am_))) fun adP cpP hsvP hcP1 hcP2=>?_
                have e:x.goalP=((aY_ (-1) [(dH_ (Ax.a x)),(dH_ (Ax.b x))] ([]:List Pc)),[(Fc.mk 2 (dH_ (Ax.a x)) (dH_ (Ax.b x)) (Ax.role x) 0 0)],0):=by
                  unfold Ax.goalP;rw[if_neg (by omega)];repeat (first|rfl|(rw[if_pos (by omega)])|(rw[if_neg (by omega)]))
                have hy:x.goalP.1.length≤cpP∧cpP≤maxLen∧x.goalP.2.1.length≤1∧1≤maxLen∧(adP=none→cpP=0):=by rw[e];exact⟨hcP1,hcP2,by simp,by decide,ar_.nilcap hq1.row hsvP⟩
                have hz:Value.tuple #[q1.sv,.slice (some ⟨b3,0,none⟩) 1 1,.int .i64 0]=.tuple #[.slice adP x.goalP.1.length cpP,.slice (some ⟨b3,0,none⟩) x.goalP.2.1.length 1,.int .i64 x.goalP.2.2]:=by
                  rw[e,hsvP]<;>rfl
                have hw1:List.flatMap Pc.cells (aY_ (-1) [(dH_ (Ax.a x)),(dH_ (Ax.b x))] ([]:List Pc))=x.goalP.1.flatMap Pc.cells:=by rw[e]
                have hw2:List.flatMap Fc.cells [(Fc.mk 2 (dH_ (Ax.a x)) (dH_ (Ax.b x)) (Ax.role x) 0 0)]=x.goalP.2.1.flatMap Fc.cells:=by rw[e]
                exact iy_ eg_ ⟨(adP,cpP,(some ⟨b3,0,none⟩),1),hy⟩ rfl rfl rfl hz e_ (fun v _ h=>⟨hw1▸h.1,hw2▸h.2.1,trivial⟩)
            · skip
              obtain⟨fr,zr⟩:=Con.check_zero (G.right (by omega))
              refine Zz 5 ?_
              refine bf_ ((b1,.cells #[.int .i64 (Ax.kind x),.bool (Ax.opn x),.int .i64 (Con.kind (Ax.left x)),str (Con.name (Ax.left x)),.int .i64 (Con.lo (Ax.left x)),.int .i64 (Con.hi (Ax.left x)),.slice (Con.ad (Ax.left x)) (List.length (Con.parts (Ax.left x))) (Con.cap (Ax.left x)),.int .i64 (Con.kind (Ax.right x)),str (Con.name (Ax.right x)),.int .i64 (Con.lo (Ax.right x)),.int .i64 (Con.hi (Ax.right x)),.slice (Con.ad (Ax.right x)) (List.length (Con.parts (Ax.right x))) (Con.cap (Ax.right x)),.slice (Ax.ad x) (List.length (Ax.roles x)) (Ax.cap x),str (Ax.role x),str (Ax.a x),str (Ax.b x)] 48 (0,0))::[]) zk ?_
              refine Q_ 4 [0,1,2,4,5] zk zs (Zz 6 ?_)
              refine p_ 3 rfl zk (d_ (ca_ (Ax.a x) hok.a) rfl e_ zt rfl fun _=>Zz 3 ?_)
              refine p_ 6 rfl zk (d_ (bM_ (Ax.right x) hok.right) rfl e_ (fun v _ h=>by exact⟨h.2.2.2.1.2.1,h.2.2.2.2.1,trivial⟩) rfl fun _=>Zz 3 ?_)
              refine p_ 7 rfl zk (B_ t_ ah_ aK_ rfl rfl rfl rfl rfl rfl fun b4=>?_)
              refine ai_ (List.flatMap aJ_ [(dH_ (Ax.a x)),(Con.atom (Ax.right x))]) i_ rfl ?_
              refine Zz 3 ?_
              refine p_ 8 rfl zk (d_ (eX_ [(dH_ (Ax.a x)),(Con.atom (Ax.right x))] (some ⟨b4,0,none⟩) 2 (-1) ([]:List Pc) ⟨.slice none 0 0,bm0,#[],0,[]⟩ ⟨ar_.nil _ _,rfl,by simp⟩ (by simp) (by simp only[List.length_cons,List.length_nil];omega)) rfl zp zf rfl fun⟨q2,hq2⟩=>?_)
              dsimp only
              have hb2:=dX_ (-1) [(dH_ (Ax.a x)),(Con.atom (Ax.right x))] ([]:List Pc)
              refine u_ (@List.perm_append_comm _ _ [_]) ?_
              simp only[List.length_cons,List.length_nil]at hb2
              refine Zz 10 ?_
              refine ax_ (fs_ (kb:=kb) (bk:=bk) (bs:=bl) (frm:=(-1)) _ (Ax.right x) (Nat.le_refl _) hok.right fr (aY_ (-1) [(dH_ (Ax.a x)),(Con.atom (Ax.right x))] ([]:List Pc)) q2 hq2 (by omega)) rfl rfl zp (fun v _ h=>by exact⟨h.2.2.2.2.1.2.1,h.2.2.2.2.2.1,h.2.1,h.2.2.1,trivial⟩) rfl fun⟨q3,hq3⟩=>?_
              dsimp only
              have hb3:=Con.leftP_len (-1) _ (Ax.right x) (Nat.le_refl _) (aY_ (-1) [(dH_ (Ax.a x)),(Con.atom (Ax.right x))] ([]:List Pc))
              refine u_ (@List.perm_append_comm _ _ [_]) (Zz 3 ?_)
              refine Q_ 5 [0,1,2,4,5] zk zs (Zz 6 ?_)
              refine p_ 3 rfl zk (d_ (ca_ (Ax.a x) hok.a) rfl e_ zt rfl fun _=>Zz 3 ?_)
              refine p_ 6 rfl zk (d_ (bM_ (Ax.right x) hok.right) rfl e_ (fun v _ h=>by exact⟨h.2.2.2.2.1.2.1,h.2.2.2.2.2.1,trivial⟩) rfl fun _=>Zz 3 ?_)
              refine p_ 7 rfl zk (ax_ (gW_ (dH_ (Ax.a x)) (Con.atom (Ax.right x))) rfl rfl e_ zt rfl fun _=>Zz 3 ?_)
              refine p_ 8 rfl zk (B_ dJ_ eK_ dt_ rfl rfl rfl rfl rfl rfl fun b5=>Zz 3 ?_)
              refine Q_ 0 [9] zk zs (Zz 17 ?_)
              refine ai_ (List.flatMap Fc.cells [(Fc.mk 1 (dH_ (Ax.a x)) (Con.atom (Ax.right x)) [] 0 0)]) i_ rfl ?_
              refine cC_ hq3.row (l_ (l_ (l_ am_))) fun adP cpP hsvP hcP1 hcP2=>?_
              have e:x.goalP=((Con.leftP (-1) (Ax.right x) (aY_ (-1) [(dH_ (Ax.a x)),(Con.atom (Ax.right x))] ([]:List Pc))),[(Fc.mk 1 (dH_ (Ax.a x)) (Con.atom (Ax.right x)) [] 0 0)],0):=by
                unfold Ax.goalP;rw[if_neg (by omega)];repeat (first|rfl|(rw[if_pos (by omega)])|(rw[if_neg (by omega)]))
              have hy:x.goalP.1.length≤cpP∧cpP≤maxLen∧x.goalP.2.1.length≤1∧1≤maxLen∧(adP=none→cpP=0):=by rw[e];exact⟨hcP1,hcP2,by simp,by decide,ar_.nilcap hq3.row hsvP⟩
              have hz:Value.tuple #[q3.sv,.slice (some ⟨b5,0,none⟩) 1 1,.int .i64 0]=.tuple #[.slice adP x.goalP.1.length cpP,.slice (some ⟨b5,0,none⟩) x.goalP.2.1.length 1,.int .i64 x.goalP.2.2]:=by
                rw[e,hsvP]<;>rfl
              have hw1:List.flatMap Pc.cells (Con.leftP (-1) (Ax.right x) (aY_ (-1) [(dH_ (Ax.a x)),(Con.atom (Ax.right x))] ([]:List Pc)))=x.goalP.1.flatMap Pc.cells:=by rw[e]
              have hw2:List.flatMap Fc.cells [(Fc.mk 1 (dH_ (Ax.a x)) (Con.atom (Ax.right x)) [] 0 0)]=x.goalP.2.1.flatMap Fc.cells:=by rw[e]
              exact iy_ eg_ ⟨(adP,cpP,(some ⟨b5,0,none⟩),1),hy⟩ rfl rfl rfl hz e_ (fun v _ h=>⟨hw1▸h.1,hw2▸h.2.1,trivial⟩)
          · skip
            obtain⟨fr,zr⟩:=Con.check_zero (G.right (by omega))
            refine Zz 8 ?_
            refine c_ (cD_ rfl rfl (by simp only[List.length_append,List.length_cons,List.length_nil];omega)) rfl ?_
            refine c_ (aA_ (cD_ rfl rfl (by simp only[List.length_append,List.length_cons,List.length_nil];omega)) (show _=str (Ax.doms x) from rfl)) rfl ?_
            refine Zz 9 ?_
            refine d_ (bM_ (Ax.right x) hok.right) rfl e_ (fun v _ h=>by exact⟨h.2.2.2.1.2.1,h.2.2.2.2.1,trivial⟩) rfl fun _=>B_ t_ ah_ aK_ rfl rfl rfl rfl rfl rfl fun b6=>?_
            refine ai_ (List.flatMap aJ_ [(Ax.doms x),(Con.atom (Ax.right x))]) i_ rfl ?_
            refine d_ (eX_ [(Ax.doms x),(Con.atom (Ax.right x))] (some ⟨b6,0,none⟩) 2 (-1) ([]:List Pc) ⟨.slice none 0 0,bm0,#[],0,[]⟩ ⟨ar_.nil _ _,rfl,by simp⟩ (by simp) (by simp only[List.length_cons,List.length_nil];omega)) rfl zp zf rfl fun⟨q4,hq4⟩=>?_
            dsimp only
            have hb4:=dX_ (-1) [(Ax.doms x),(Con.atom (Ax.right x))] ([]:List Pc)
            refine u_ (@List.perm_append_comm _ _ [_]) ?_
            simp only[List.length_cons,List.length_nil]at hb4
            refine Zz 8 ?_
            refine c_ (A_ cR_ rfl rfl) rfl (B_ x_ aw_ ao_ rfl rfl rfl rfl rfl rfl fun b7=>d_ (cU_ (Pc.mk 3 (Ax.doms x) [] [42] (Ax.role x) [] [] 0 0 0) (-1) (aY_ (-1) [(Ax.doms x),(Con.atom (Ax.right x))] ([]:List Pc)) q4 hq4 (by omega)) rfl zp zt rfl fun⟨q5,hq5⟩=>?_)
            dsimp only
            have hb5:=aT_ (-1) (aY_ (-1) [(Ax.doms x),(Con.atom (Ax.right x))] ([]:List Pc)) (Pc.mk 3 (Ax.doms x) [] [42] (Ax.role x) [] [] 0 0 0)
            refine u_ (@List.perm_append_comm _ _ [_]) (Zz 7 ?_)
            refine ax_ (fs_ (kb:=kb) (bk:=bk) (bs:=bl) (frm:=(-1)) _ (Ax.right x) (Nat.le_refl _) hok.right fr (ins (-1) (aY_ (-1) [(Ax.doms x),(Con.atom (Ax.right x))] ([]:List Pc)) (Pc.mk 3 (Ax.doms x) [] [42] (Ax.role x) [] [] 0 0 0)) q5 hq5 (by omega)) rfl rfl zp (fun v _ h=>by exact⟨h.2.2.2.2.1.2.1,h.2.2.2.2.2.1,h.2.1,h.2.2.1,trivial⟩) rfl fun⟨q6,hq6⟩=>?_
            dsimp only
            have hb6:=Con.leftP_len (-1) _ (Ax.right x) (Nat.le_refl _) (ins (-1) (aY_ (-1) [(Ax.doms x),(Con.atom (Ax.right x))] ([]:List Pc)) (Pc.mk 3 (Ax.doms x) [] [42] (Ax.role x) [] [] 0 0 0))
            refine u_ (@List.perm_append_comm _ _ [_]) (Zz 7 ?_)
            refine d_ (bM_ (Ax.right x) hok.right) rfl e_ (fun v _ h=>by exact⟨h.2.2.2.2.1.2.1,h.2.2.2.2.2.1,trivial⟩) rfl fun _=>ax_ (gW_ (Ax.doms x) (Con.atom (Ax.right x))) rfl rfl e_ zt rfl fun _=>B_ dJ_ eK_ dt_ rfl rfl rfl rfl rfl rfl fun b8=>Zz 16 ?_
            refine ai_ (List.flatMap Fc.cells [(Fc.mk 1 (Ax.doms x) (Con.atom (Ax.right x)) [] 0 0)]) i_ rfl ?_
            refine cC_ hq6.row (l_ (l_ (l_ am_))) fun adP cpP hsvP hcP1 hcP2=>?_
            have e:x.goalP=((Con.leftP (-1) (Ax.right x) (ins (-1) (aY_ (-1) [(Ax.doms x),(Con.atom (Ax.right x))] ([]:List Pc)) (Pc.mk 3 (Ax.doms x) [] [42] (Ax.role x) [] [] 0 0 0))),[(Fc.mk 1 (Ax.doms x) (Con.atom (Ax.right x)) [] 0 0)],0):=by
              unfold Ax.goalP;rw[if_neg (by omega)];repeat (first|rfl|(rw[if_pos (by omega)])|(rw[if_neg (by omega)]))
            have hy:x.goalP.1.length≤cpP∧cpP≤maxLen∧x.goalP.2.1.length≤1∧1≤maxLen∧(adP=none→cpP=0):=by rw[e];exact⟨hcP1,hcP2,by simp,by decide,ar_.nilcap hq6.row hsvP⟩
            have hz:Value.tuple #[q6.sv,.slice (some ⟨b8,0,none⟩) 1 1,.int .i64 0]=.tuple #[.slice adP x.goalP.1.length cpP,.slice (some ⟨b8,0,none⟩) x.goalP.2.1.length 1,.int .i64 x.goalP.2.2]:=by
              rw[e,hsvP]<;>rfl
            have hw1:List.flatMap Pc.cells (Con.leftP (-1) (Ax.right x) (ins (-1) (aY_ (-1) [(Ax.doms x),(Con.atom (Ax.right x))] ([]:List Pc)) (Pc.mk 3 (Ax.doms x) [] [42] (Ax.role x) [] [] 0 0 0)))=x.goalP.1.flatMap Pc.cells:=by rw[e]
            have hw2:List.flatMap Fc.cells [(Fc.mk 1 (Ax.doms x) (Con.atom (Ax.right x)) [] 0 0)]=x.goalP.2.1.flatMap Fc.cells:=by rw[e]
            exact iy_ eg_ ⟨(adP,cpP,(some ⟨b8,0,none⟩),1),hy⟩ rfl rfl rfl hz e_ (fun v _ h=>⟨hw1▸h.1,hw2▸h.2.1,trivial⟩)
        · skip
          obtain⟨fl,zl⟩:=Con.check_zero (G.left (by omega))
          obtain⟨fr,zr⟩:=Con.check_zero (G.right (by omega))
          refine Zz 6 ?_
          refine Q_ 7 [0,1,5,6] zk zs (Zz 5 ?_)
          refine p_ 2 rfl zk (d_ (kl_ (Ax.left x) hok.left) rfl e_ (fun v _ h=>by exact⟨h.2.2.2.1.1,h.2.2.2.2.1,trivial⟩) rfl fun _=>Zz 3 ?_)
          refine Q_ 4 [3,4] zk zs ?_
          refine P_ rfl (cD_ rfl rfl (by simp only[List.length_append,List.length_cons,List.length_nil];omega)) rfl ?_
          refine P_ rfl (cD_ rfl rfl (by simp only[List.length_append,List.length_cons,List.length_nil];omega)) rfl ?_
          refine ba_ (p_ 7 rfl zk (d_ (kl_ (Ax.right x) hok.right) rfl e_ (fun v _ h=>by exact⟨h.2.2.2.1.2.1,h.2.2.2.2.1,trivial⟩) rfl fun _=>Zz 3 ?_))
          refine Q_ 0 [8,9,10] zk zs ?_
          refine P_ rfl (cD_ rfl rfl (by simp only[List.length_append,List.length_cons,List.length_nil];omega)) rfl ?_
          refine P_ rfl (aA_ (cD_ rfl rfl (by simp only[List.length_append,List.length_cons,List.length_nil];omega)) (show _=str (Ax.disj x) from rfl)) rfl ?_
          refine Zz 8 ?_
          refine B_ t_ ah_ aK_ rfl rfl rfl rfl rfl rfl fun b9=>?_
          refine ai_ (List.flatMap aJ_ [(Ax.disj x),[33]]) i_ rfl ?_
          refine d_ (eX_ [(Ax.disj x),[33]] (some ⟨b9,0,none⟩) 2 (-1) ([]:List Pc) ⟨.slice none 0 0,bm0,#[],0,[]⟩ ⟨ar_.nil _ _,rfl,by simp⟩ (by simp) (by simp only[List.length_cons,List.length_nil];omega)) rfl zp zf rfl fun⟨q7,hq7⟩=>?_
          dsimp only
          have hb7:=dX_ (-1) [(Ax.disj x),[33]] ([]:List Pc)
          refine u_ (@List.perm_append_comm _ _ [_]) ?_
          simp only[List.length_cons,List.length_nil]at hb7
          refine Zz 8 ?_
          refine d_ (bM_ (Ax.left x) hok.left) rfl e_ (fun v _ h=>by exact⟨h.2.2.2.2.1.1,h.2.2.2.2.2.1,trivial⟩) rfl fun _=>c_ (A_ cR_ rfl rfl) rfl (B_ x_ aw_ ao_ rfl rfl rfl rfl rfl rfl fun b10=>d_ (cU_ (Pc.mk 1 (Ax.disj x) [] (Con.atom (Ax.left x)) [] [] [] 0 0 0) (-1) (aY_ (-1) [(Ax.disj x),[33]] ([]:List Pc)) q7 hq7 (by omega)) rfl zp zt rfl fun⟨q8,hq8⟩=>?_)
          dsimp only
          have hb8:=aT_ (-1) (aY_ (-1) [(Ax.disj x),[33]] ([]:List Pc)) (Pc.mk 1 (Ax.disj x) [] (Con.atom (Ax.left x)) [] [] [] 0 0 0)
          refine u_ (@List.perm_append_comm _ _ [_]) (Zz 7 ?_)
          refine ax_ (eA_ (kb:=kb) (bk:=bk) (bs:=br) (frm:=(-1)) _ (Ax.left x) (Nat.le_refl _) hok.left fl (ins (-1) (aY_ (-1) [(Ax.disj x),[33]] ([]:List Pc)) (Pc.mk 1 (Ax.disj x) [] (Con.atom (Ax.left x)) [] [] [] 0 0 0)) q8 hq8 (by omega)) rfl rfl zp (fun v _ h=>by exact⟨h.2.2.2.2.1.1,h.2.2.2.2.2.1,h.2.1,h.2.2.2.1,trivial⟩) rfl fun⟨q9,hq9⟩=>?_
          dsimp only
          have hb9:=Con.rightP_len (-1) _ (Ax.left x) (Nat.le_refl _) (ins (-1) (aY_ (-1) [(Ax.disj x),[33]] ([]:List Pc)) (Pc.mk 1 (Ax.disj x) [] (Con.atom (Ax.left x)) [] [] [] 0 0 0))
          refine u_ (@List.perm_append_comm _ _ [_]) (Zz 8 ?_)
          refine d_ (bM_ (Ax.right x) hok.right) rfl e_ (fun v _ h=>by exact⟨h.2.2.2.2.1.2.1,h.2.2.2.2.2.1,trivial⟩) rfl fun _=>c_ (A_ cR_ rfl rfl) rfl (B_ x_ aw_ ao_ rfl rfl rfl rfl rfl rfl fun b11=>d_ (cU_ (Pc.mk 1 (Ax.disj x) [] (Con.atom (Ax.right x)) [] [] [] 0 0 0) (-1) (Con.rightP (-1) (Ax.left x) (ins (-1) (aY_ (-1) [(Ax.disj x),[33]] ([]:List Pc)) (Pc.mk 1 (Ax.disj x) [] (Con.atom (Ax.left x)) [] [] [] 0 0 0))) q9 hq9 (by omega)) rfl zp zt rfl fun⟨q10,hq10⟩=>?_)
          dsimp only
          have hb10:=aT_ (-1) (Con.rightP (-1) (Ax.left x) (ins (-1) (aY_ (-1) [(Ax.disj x),[33]] ([]:List Pc)) (Pc.mk 1 (Ax.disj x) [] (Con.atom (Ax.left x)) [] [] [] 0 0 0))) (Pc.mk 1 (Ax.disj x) [] (Con.atom (Ax.right x)) [] [] [] 0 0 0)
          refine u_ (@List.perm_append_comm _ _ [_]) (Zz 7 ?_)
          refine ax_ (eA_ (kb:=kb) (bk:=bk) (bs:=br) (frm:=(-1)) _ (Ax.right x) (Nat.le_refl _) hok.right fr (ins (-1) (Con.rightP (-1) (Ax.left x) (ins (-1) (aY_ (-1) [(Ax.disj x),[33]] ([]:List Pc)) (Pc.mk 1 (Ax.disj x) [] (Con.atom (Ax.left x)) [] [] [] 0 0 0))) (Pc.mk 1 (Ax.disj x) [] (Con.atom (Ax.right x)) [] [] [] 0 0 0)) q10 hq10 (by omega)) rfl rfl zp (fun v _ h=>by exact⟨h.2.2.2.2.1.2.1,h.2.2.2.2.2.1,h.2.1,h.2.2.2.1,trivial⟩) rfl fun⟨q11,hq11⟩=>?_
          dsimp only
          have hb11:=Con.rightP_len (-1) _ (Ax.right x) (Nat.le_refl _) (ins (-1) (Con.rightP (-1) (Ax.left x) (ins (-1) (aY_ (-1) [(Ax.disj x),[33]] ([]:List Pc)) (Pc.mk 1 (Ax.disj x) [] (Con.atom (Ax.left x)) [] [] [] 0 0 0))) (Pc.mk 1 (Ax.disj x) [] (Con.atom (Ax.right x)) [] [] [] 0 0 0))
          refine u_ (@List.perm_append_comm _ _ [_]) (Zz 5 ?_)
          refine ax_ (gW_ (Ax.disj x) [33]) rfl rfl e_ zt rfl fun _=>B_ dJ_ eK_ dt_ rfl rfl rfl rfl rfl rfl fun b12=>Zz 16 ?_
          refine ai_ (List.flatMap Fc.cells [(Fc.mk 1 (Ax.disj x) [33] [] 0 0)]) i_ rfl ?_
          refine cC_ hq11.row (l_ (l_ (l_ am_))) fun adP cpP hsvP hcP1 hcP2=>?_
          have e:x.goalP=((Con.rightP (-1) (Ax.right x) (ins (-1) (Con.rightP (-1) (Ax.left x) (ins (-1) (aY_ (-1) [(Ax.disj x),[33]] ([]:List Pc)) (Pc.mk 1 (Ax.disj x) [] (Con.atom (Ax.left x)) [] [] [] 0 0 0))) (Pc.mk 1 (Ax.disj x) [] (Con.atom (Ax.right x)) [] [] [] 0 0 0))),[(Fc.mk 1 (Ax.disj x) [33] [] 0 0)],0):=by
            unfold Ax.goalP;rw[if_neg (by omega)];repeat (first|rfl|(rw[if_pos (by omega)])|(rw[if_neg (by omega)]))
          have hy:x.goalP.1.length≤cpP∧cpP≤maxLen∧x.goalP.2.1.length≤1∧1≤maxLen∧(adP=none→cpP=0):=by rw[e];exact⟨hcP1,hcP2,by simp,by decide,ar_.nilcap hq11.row hsvP⟩
          have hz:Value.tuple #[q11.sv,.slice (some ⟨b12,0,none⟩) 1 1,.int .i64 0]=.tuple #[.slice adP x.goalP.1.length cpP,.slice (some ⟨b12,0,none⟩) x.goalP.2.1.length 1,.int .i64 x.goalP.2.2]:=by
            rw[e,hsvP]<;>rfl
          have hw1:List.flatMap Pc.cells (Con.rightP (-1) (Ax.right x) (ins (-1) (Con.rightP (-1) (Ax.left x) (ins (-1) (aY_ (-1) [(Ax.disj x),[33]] ([]:List Pc)) (Pc.mk 1 (Ax.disj x) [] (Con.atom (Ax.left x)) [] [] [] 0 0 0))) (Pc.mk 1 (Ax.disj x) [] (Con.atom (Ax.right x)) [] [] [] 0 0 0)))=x.goalP.1.flatMap Pc.cells:=by rw[e]
          have hw2:List.flatMap Fc.cells [(Fc.mk 1 (Ax.disj x) [33] [] 0 0)]=x.goalP.2.1.flatMap Fc.cells:=by rw[e]
          exact iy_ eg_ ⟨(adP,cpP,(some ⟨b12,0,none⟩),1),hy⟩ rfl rfl rfl hz e_ (fun v _ h=>⟨hw1▸h.1,hw2▸h.2.1,trivial⟩)
      · skip
        obtain⟨fl,zl⟩:=Con.check_zero (G.left (by omega))
        obtain⟨fr,zr⟩:=Con.check_zero (G.right (by omega))
        refine Zz 6 ?_
        refine Q_ 4 [0,1,3,4] zk zs (Zz 5 ?_)
        refine p_ 2 rfl zk (d_ (bM_ (Ax.left x) hok.left) rfl e_ (fun v _ h=>by exact⟨h.2.2.2.1.1,h.2.2.2.2.1,trivial⟩) rfl fun _=>Zz 3 ?_)
        refine p_ 5 rfl zk (d_ (bM_ (Ax.right x) hok.right) rfl e_ (fun v _ h=>by exact⟨h.2.2.2.1.2.1,h.2.2.2.2.1,trivial⟩) rfl fun _=>Zz 3 ?_)
        refine Q_ 0 [6,7] zk zs (Zz 10 ?_)
        refine B_ t_ ah_ aK_ rfl rfl rfl rfl rfl rfl fun b13=>?_
        refine ai_ (List.flatMap aJ_ [(Con.atom (Ax.left x)),(Con.atom (Ax.right x))]) i_ rfl ?_
        refine d_ (eX_ [(Con.atom (Ax.left x)),(Con.atom (Ax.right x))] (some ⟨b13,0,none⟩) 2 (-1) ([]:List Pc) ⟨.slice none 0 0,bm0,#[],0,[]⟩ ⟨ar_.nil _ _,rfl,by simp⟩ (by simp) (by simp only[List.length_cons,List.length_nil];omega)) rfl zp zf rfl fun⟨q12,hq12⟩=>?_
        dsimp only
        have hb12:=dX_ (-1) [(Con.atom (Ax.left x)),(Con.atom (Ax.right x))] ([]:List Pc)
        refine u_ (@List.perm_append_comm _ _ [_]) ?_
        simp only[List.length_cons,List.length_nil]at hb12
        refine Zz 7 ?_
        refine ax_ (eA_ (kb:=kb) (bk:=bk) (bs:=br) (frm:=(-1)) _ (Ax.left x) (Nat.le_refl _) hok.left fl (aY_ (-1) [(Con.atom (Ax.left x)),(Con.atom (Ax.right x))] ([]:List Pc)) q12 hq12 (by omega)) rfl rfl zp (fun v _ h=>by exact⟨h.2.2.2.2.1.1,h.2.2.2.2.2.1,h.2.1,h.2.2.2.1,trivial⟩) rfl fun⟨q13,hq13⟩=>?_
        dsimp only
        have hb13:=Con.rightP_len (-1) _ (Ax.left x) (Nat.le_refl _) (aY_ (-1) [(Con.atom (Ax.left x)),(Con.atom (Ax.right x))] ([]:List Pc))
        refine u_ (@List.perm_append_comm _ _ [_]) (Zz 7 ?_)
        refine ax_ (fs_ (kb:=kb) (bk:=bk) (bs:=bl) (frm:=(-1)) _ (Ax.right x) (Nat.le_refl _) hok.right fr (Con.rightP (-1) (Ax.left x) (aY_ (-1) [(Con.atom (Ax.left x)),(Con.atom (Ax.right x))] ([]:List Pc))) q13 hq13 (by omega)) rfl rfl zp (fun v _ h=>by exact⟨h.2.2.2.2.1.2.1,h.2.2.2.2.2.1,h.2.1,h.2.2.1,trivial⟩) rfl fun⟨q14,hq14⟩=>?_
        dsimp only
        have hb14:=Con.leftP_len (-1) _ (Ax.right x) (Nat.le_refl _) (Con.rightP (-1) (Ax.left x) (aY_ (-1) [(Con.atom (Ax.left x)),(Con.atom (Ax.right x))] ([]:List Pc)))
        refine u_ (@List.perm_append_comm _ _ [_]) (Zz 7 ?_)
        refine ax_ (gW_ (Con.atom (Ax.left x)) (Con.atom (Ax.right x))) rfl rfl e_ zt rfl fun _=>B_ dJ_ eK_ dt_ rfl rfl rfl rfl rfl rfl fun b14=>Zi 7 (fun hr8=>?_) fun hr8=>?_
        · skip
          refine Zz 18 ?_
          refine ai_ (List.flatMap Fc.cells [(Fc.mk 1 (Con.atom (Ax.left x)) (Con.atom (Ax.right x)) [] 0 0)]) i_ rfl ?_
          refine cC_ hq14.row (l_ (l_ (l_ am_))) fun adP cpP hsvP hcP1 hcP2=>?_
          have e:x.goalP=((Con.leftP (-1) (Ax.right x) (Con.rightP (-1) (Ax.left x) (aY_ (-1) [(Con.atom (Ax.left x)),(Con.atom (Ax.right x))] ([]:List Pc)))),[(Fc.mk 1 (Con.atom (Ax.left x)) (Con.atom (Ax.right x)) [] 0 0)],0):=by
            unfold Ax.goalP;rw[if_neg (by omega)];repeat (first|rfl|(rw[if_pos (by omega)])|(rw[if_neg (by omega)]))
          have hy:x.goalP.1.length≤cpP∧cpP≤maxLen∧x.goalP.2.1.length≤1∧1≤maxLen∧(adP=none→cpP=0):=by rw[e];exact⟨hcP1,hcP2,by simp,by decide,ar_.nilcap hq14.row hsvP⟩
          have hz:Value.tuple #[q14.sv,.slice (some ⟨b14,0,none⟩) 1 1,.int .i64 0]=.tuple #[.slice adP x.goalP.1.length cpP,.slice (some ⟨b14,0,none⟩) x.goalP.2.1.length 1,.int .i64 x.goalP.2.2]:=by
            rw[e,hsvP]<;>rfl
          have hw1:List.flatMap Pc.cells (Con.leftP (-1) (Ax.right x) (Con.rightP (-1) (Ax.left x) (aY_ (-1) [(Con.atom (Ax.left x)),(Con.atom (Ax.right x))] ([]:List Pc))))=x.goalP.1.flatMap Pc.cells:=by rw[e]
          have hw2:List.flatMap Fc.cells [(Fc.mk 1 (Con.atom (Ax.left x)) (Con.atom (Ax.right x)) [] 0 0)]=x.goalP.2.1.flatMap Fc.cells:=by rw[e]
          exact iy_ eg_ ⟨(adP,cpP,(some ⟨b14,0,none⟩),1),hy⟩ rfl rfl rfl hz e_ (fun v _ h=>⟨hw1▸h.1,hw2▸h.2.1,trivial⟩)
        · skip
          obtain⟨fl,zl⟩:=Con.check_zero (G.left (by omega))
          obtain⟨fr,zr⟩:=Con.check_zero (G.right (by omega))
          refine Zz 8 ?_
          refine ax_ (eA_ (kb:=kb) (bk:=bk) (bs:=br) (frm:=(-1)) _ (Ax.right x) (Nat.le_refl _) hok.right fr (Con.leftP (-1) (Ax.right x) (Con.rightP (-1) (Ax.left x) (aY_ (-1) [(Con.atom (Ax.left x)),(Con.atom (Ax.right x))] ([]:List Pc)))) q14 hq14 (by omega)) rfl rfl zp (fun v _ h=>by exact⟨h.2.2.2.2.1.2.1,h.2.2.2.2.2.1,h.2.1,h.2.2.2.1,trivial⟩) rfl fun⟨q15,hq15⟩=>?_
          dsimp only
          have hb15:=Con.rightP_len (-1) _ (Ax.right x) (Nat.le_refl _) (Con.leftP (-1) (Ax.right x) (Con.rightP (-1) (Ax.left x) (aY_ (-1) [(Con.atom (Ax.left x)),(Con.atom (Ax.right x))] ([]:List Pc))))
          refine u_ (@List.perm_append_comm _ _ [_,_]) (Zz 7 ?_)
          refine ax_ (fs_ (kb:=kb) (bk:=bk) (bs:=bl) (frm:=(-1)) _ (Ax.left x) (Nat.le_refl _) hok.left fl (Con.rightP (-1) (Ax.right x) (Con.leftP (-1) (Ax.right x) (Con.rightP (-1) (Ax.left x) (aY_ (-1) [(Con.atom (Ax.left x)),(Con.atom (Ax.right x))] ([]:List Pc))))) q15 hq15 (by omega)) rfl rfl zp (fun v _ h=>by exact⟨h.2.2.2.2.1.1,h.2.2.2.2.2.1,h.2.1,h.2.2.1,trivial⟩) rfl fun⟨q16,hq16⟩=>?_
          dsimp only
          have hb16:=Con.leftP_len (-1) _ (Ax.left x) (Nat.le_refl _) (Con.rightP (-1) (Ax.right x) (Con.leftP (-1) (Ax.right x) (Con.rightP (-1) (Ax.left x) (aY_ (-1) [(Con.atom (Ax.left x)),(Con.atom (Ax.right x))] ([]:List Pc)))))
          refine u_ (@List.perm_append_comm _ _ [_,_]) (Zz 7 ?_)
          refine ax_ (gW_ (Con.atom (Ax.right x)) (Con.atom (Ax.left x))) rfl rfl e_ zt rfl fun _=>B_ dJ_ eK_ dt_ rfl rfl rfl rfl rfl rfl fun b15=>?_
          have hrow0:ar_ 67 6 (.slice (some ⟨b14,0,none⟩) 1 1) 1 (Fc.cells (Fc.mk 1 (Con.atom (Ax.left x)) (Con.atom (Ax.right x)) [] 0 0)) [(b14,.cells (Fc.cells (Fc.mk 1 (Con.atom (Ax.left x)) (Con.atom (Ax.right x)) [] 0 0)).toArray 67 (0,0))]:=⟨rfl,.inr ⟨b14,1,_,rfl,rfl,by decide,by decide,rfl,rfl⟩⟩
          refine aX_ (news:=Fc.cells (Fc.mk 1 (Con.atom (Ax.right x)) (Con.atom (Ax.left x)) [] 0 0)) eltF hrow0 rfl rfl zp rfl (bC_ 0 rfl) (gU_ rfl) (by decide) (by decide) rfl fun svF HrF hrowF=>?_
          obtain⟨gF,cpF,curF,rfl,rfl,hrF⟩:=hrowF.some (by decide)
          refine Zz 16 ?_
          refine cC_ hrowF i_ fun adF cpG hsvF hcF1 hcF2=>?_
          refine cC_ hq16.row (l_ (l_ (l_ (l_ am_)))) fun adP cpP hsvP hcP1 hcP2=>?_
          have e:x.goalP=((Con.leftP (-1) (Ax.left x) (Con.rightP (-1) (Ax.right x) (Con.leftP (-1) (Ax.right x) (Con.rightP (-1) (Ax.left x) (aY_ (-1) [(Con.atom (Ax.left x)),(Con.atom (Ax.right x))] ([]:List Pc)))))),[⟨1,x.left.atom,x.right.atom,[],0,0⟩,⟨1,x.right.atom,x.left.atom,[],0,0⟩],0):=by
            unfold Ax.goalP;rw[if_neg (by omega)];repeat (first|rfl|(rw[if_pos (by omega)])|(rw[if_neg (by omega)]))
          have hy:x.goalP.1.length≤cpP∧cpP≤maxLen∧x.goalP.2.1.length≤cpG∧cpG≤maxLen∧(adP=none→cpP=0):=by rw[e];exact⟨hcP1,hcP2,hcF1,hcF2,ar_.nilcap hq16.row hsvP⟩
          have hz:Value.tuple #[q16.sv,.slice (some ⟨gF,0,none⟩) 2 cpF,.int .i64 0]=.tuple #[.slice adP x.goalP.1.length cpP,.slice adF x.goalP.2.1.length cpG,.int .i64 x.goalP.2.2]:=by
            rw[e,hsvP];exact congrArg (fun z=>Value.tuple #[_,z,_]) hsvF
          have hw1:List.flatMap Pc.cells (Con.leftP (-1) (Ax.left x) (Con.rightP (-1) (Ax.right x) (Con.leftP (-1) (Ax.right x) (Con.rightP (-1) (Ax.left x) (aY_ (-1) [(Con.atom (Ax.left x)),(Con.atom (Ax.right x))] ([]:List Pc))))))=x.goalP.1.flatMap Pc.cells:=by rw[e]
          have hw2:List.flatMap Fc.cells [⟨1,x.left.atom,x.right.atom,[],0,0⟩,⟨1,x.right.atom,x.left.atom,[],0,0⟩]=x.goalP.2.1.flatMap Fc.cells:=by rw[e]
          exact iy_ eg_ ⟨(adP,cpP,adF,cpG),hy⟩ rfl rfl rfl hz e_ (fun v _ h=>⟨hw1▸h.1,hw2▸h.2.1,trivial⟩)
    · skip
      obtain⟨fl,zl⟩:=Con.check_zero (G.left (by omega))
      obtain⟨fr,zr⟩:=Con.check_zero (G.right (by omega))
      refine Zz 9 ?_
      refine Q_ 4 [0,1,3,4] zk zs (Zz 5 ?_)
      refine p_ 2 rfl zk (d_ (bM_ (Ax.left x) hok.left) rfl e_ (fun v _ h=>by exact⟨h.2.2.2.1.1,h.2.2.2.2.1,trivial⟩) rfl fun _=>Zz 3 ?_)
      refine p_ 5 rfl zk (d_ (bM_ (Ax.right x) hok.right) rfl e_ (fun v _ h=>by exact⟨h.2.2.2.1.2.1,h.2.2.2.2.1,trivial⟩) rfl fun _=>Zz 3 ?_)
      refine Q_ 0 [6,7] zk zs (Zz 10 ?_)
      refine B_ t_ ah_ aK_ rfl rfl rfl rfl rfl rfl fun b16=>?_
      refine ai_ (List.flatMap aJ_ [(Con.atom (Ax.left x)),(Con.atom (Ax.right x))]) i_ rfl ?_
      refine d_ (eX_ [(Con.atom (Ax.left x)),(Con.atom (Ax.right x))] (some ⟨b16,0,none⟩) 2 (-1) ([]:List Pc) ⟨.slice none 0 0,bm0,#[],0,[]⟩ ⟨ar_.nil _ _,rfl,by simp⟩ (by simp) (by simp only[List.length_cons,List.length_nil];omega)) rfl zp zf rfl fun⟨q17,hq17⟩=>?_
      dsimp only
      have hb17:=dX_ (-1) [(Con.atom (Ax.left x)),(Con.atom (Ax.right x))] ([]:List Pc)
      refine u_ (@List.perm_append_comm _ _ [_]) ?_
      simp only[List.length_cons,List.length_nil]at hb17
      refine Zz 7 ?_
      refine ax_ (eA_ (kb:=kb) (bk:=bk) (bs:=br) (frm:=(-1)) _ (Ax.left x) (Nat.le_refl _) hok.left fl (aY_ (-1) [(Con.atom (Ax.left x)),(Con.atom (Ax.right x))] ([]:List Pc)) q17 hq17 (by omega)) rfl rfl zp (fun v _ h=>by exact⟨h.2.2.2.2.1.1,h.2.2.2.2.2.1,h.2.1,h.2.2.2.1,trivial⟩) rfl fun⟨q18,hq18⟩=>?_
      dsimp only
      have hb18:=Con.rightP_len (-1) _ (Ax.left x) (Nat.le_refl _) (aY_ (-1) [(Con.atom (Ax.left x)),(Con.atom (Ax.right x))] ([]:List Pc))
      refine u_ (@List.perm_append_comm _ _ [_]) (Zz 7 ?_)
      refine ax_ (fs_ (kb:=kb) (bk:=bk) (bs:=bl) (frm:=(-1)) _ (Ax.right x) (Nat.le_refl _) hok.right fr (Con.rightP (-1) (Ax.left x) (aY_ (-1) [(Con.atom (Ax.left x)),(Con.atom (Ax.right x))] ([]:List Pc))) q18 hq18 (by omega)) rfl rfl zp (fun v _ h=>by exact⟨h.2.2.2.2.1.2.1,h.2.2.2.2.2.1,h.2.1,h.2.2.1,trivial⟩) rfl fun⟨q19,hq19⟩=>?_
      dsimp only
      have hb19:=Con.leftP_len (-1) _ (Ax.right x) (Nat.le_refl _) (Con.rightP (-1) (Ax.left x) (aY_ (-1) [(Con.atom (Ax.left x)),(Con.atom (Ax.right x))] ([]:List Pc)))
      refine u_ (@List.perm_append_comm _ _ [_]) (Zz 7 ?_)
      refine ax_ (gW_ (Con.atom (Ax.left x)) (Con.atom (Ax.right x))) rfl rfl e_ zt rfl fun _=>B_ dJ_ eK_ dt_ rfl rfl rfl rfl rfl rfl fun b17=>Zi 7 (fun hr9=>?_) fun hr9=>?_
      · skip
        refine Zz 18 ?_
        refine ai_ (List.flatMap Fc.cells [(Fc.mk 1 (Con.atom (Ax.left x)) (Con.atom (Ax.right x)) [] 0 0)]) i_ rfl ?_
        refine cC_ hq19.row (l_ (l_ (l_ am_))) fun adP cpP hsvP hcP1 hcP2=>?_
        have e:x.goalP=((Con.leftP (-1) (Ax.right x) (Con.rightP (-1) (Ax.left x) (aY_ (-1) [(Con.atom (Ax.left x)),(Con.atom (Ax.right x))] ([]:List Pc)))),[(Fc.mk 1 (Con.atom (Ax.left x)) (Con.atom (Ax.right x)) [] 0 0)],0):=by
          unfold Ax.goalP;rw[if_neg (by omega)];repeat (first|rfl|(rw[if_pos (by omega)])|(rw[if_neg (by omega)]))
        have hy:x.goalP.1.length≤cpP∧cpP≤maxLen∧x.goalP.2.1.length≤1∧1≤maxLen∧(adP=none→cpP=0):=by rw[e];exact⟨hcP1,hcP2,by simp,by decide,ar_.nilcap hq19.row hsvP⟩
        have hz:Value.tuple #[q19.sv,.slice (some ⟨b17,0,none⟩) 1 1,.int .i64 0]=.tuple #[.slice adP x.goalP.1.length cpP,.slice (some ⟨b17,0,none⟩) x.goalP.2.1.length 1,.int .i64 x.goalP.2.2]:=by
          rw[e,hsvP]<;>rfl
        have hw1:List.flatMap Pc.cells (Con.leftP (-1) (Ax.right x) (Con.rightP (-1) (Ax.left x) (aY_ (-1) [(Con.atom (Ax.left x)),(Con.atom (Ax.right x))] ([]:List Pc))))=x.goalP.1.flatMap Pc.cells:=by rw[e]
        have hw2:List.flatMap Fc.cells [(Fc.mk 1 (Con.atom (Ax.left x)) (Con.atom (Ax.right x)) [] 0 0)]=x.goalP.2.1.flatMap Fc.cells:=by rw[e]
        exact iy_ eg_ ⟨(adP,cpP,(some ⟨b17,0,none⟩),1),hy⟩ rfl rfl rfl hz e_ (fun v _ h=>⟨hw1▸h.1,hw2▸h.2.1,trivial⟩)
      · skip
        exfalso;omega
  · skip
    refine Zz 12 ?_
    have e:x.goalP=([],[],(Ax.check x)):=by unfold Ax.goalP;rw[if_pos (by assumption)]
    have hy:x.goalP.1.length≤0∧0≤maxLen∧x.goalP.2.1.length≤0∧0≤maxLen∧((none:Option Addr)=none→0=0):=by rw[e];simp
    have hz:Value.tuple #[.slice none 0 0,.slice none 0 0,.int .i64 (Ax.check x)]=.tuple #[.slice none x.goalP.1.length 0,.slice none x.goalP.2.1.length 0,.int .i64 x.goalP.2.2]:=by rw[e]<;>rfl
    have hw1:x.goalP.1.flatMap Pc.cells=[]:=by rw[e];rfl
    have hw2:x.goalP.2.1.flatMap Fc.cells=[]:=by rw[e];rfl
    exact iy_ eg_ ⟨(none,0,none,0),hy⟩ rfl rfl rfl hz e_ (fun v _ h=>⟨.inl hw1,.inl hw2,trivial⟩)
end Go.Proofs.YtamklbgaipakfaaGreatDoor
namespace Go.Vs
open Go Go.Sx
def vw (W:World):Vw:=⟨fun b=>b<W.heap.size,W,True⟩
theorem vw_sat (W:World):(vw W).sat []:=⟨(fun _ h=>by cases h),(by simp),fun _ h=>h⟩
section
variable {H:Type} {enc:TypeId×Value→H} {P:Program} {W:World}
abbrev wok (l:List Nat):Prop:=l.all (·≤reachBytes)=true
theorem et_ {a b:List Nat}:wok (a++b)↔wok a∧wok b:=by simp[wok,List.all_append]
theorem sa_ {n:Nat} {b:List Nat}:wok (n::b)↔n≤reachBytes∧wok b:=by simp[wok]
theorem sb_ {e:TypeId}:∀ {ds:List (DataW H)},wok (DataW.weightsAll P e ds)→∀ d∈ds,wok (d.weights P e)
 | [],_,_,h=>by cases h
 | x::ds,hw,d,hd=>by
   rw[DataW.weightsAll,et_]at hw
   rcases List.mem_cons.1 hd with rfl|hd
   · exact hw.1
   · exact sb_ hw.2 d hd
theorem mh_ {α:Type} [Inhabited α] (f:α→List Value) (k:Nat) (hk:∀ x,(f x).length=k) (hk0:0<k) (Q:α→Prop) {ts te:TypeId} (hs:P.underlying ts=some (.slice te)) (hc:P.cellsOf te=k) {n:Nat} {cs:List Value} {x:DataW H×List MemPlace}
    (hread:∀ m,m<n→∀ cs' y,DataW.trod enc P W 0 (fun _=>true) true m te cs'=some y→wok (y.1.weights P te)→∃ c,cs'=f c∧Q c)
    (h:DataW.trod enc P W 0 (fun _=>true) true n ts cs=some x) (hw:wok (x.1.weights P ts)) :
    ∃ (l:List α) (ad:Option Addr) (cap:Nat),cs=[.slice ad l.length cap]∧bA_ (vw W) ad (l.flatMap f)∧(∀ c∈l,Q c)∧l.length≤cap∧cap*P.bytesOf te≤reachBytes:=by
  rcases DataW.trod_slice hs h with⟨h0,_⟩|⟨a,len,cap,elems,rest,m,hn,rfl,rfl,_,hl,_,hlen,hel,hsp,_⟩
  · exact⟨[],none,0,h0,.inl rfl,(fun _ h=>by cases h),Nat.le_refl _,by simp⟩
  · obtain⟨hr,_⟩:=hsp rfl
    simp only[DataW.weights,hs,sa_,et_,List.length_map]at hw
    have hcap:cap*P.bytesOf te≤reachBytes:=by
      have e:elems.length+rest.length=cap:=by omega
      rw[← e];exact hw.1
    have hone:∀ i,i<len→∃ c:α,W.cells? 0 (a.add (i*k)) k=some (f c)∧Q c:=fun i hi=>by
      have he:=hel i hi
      rw[hc,List.getElem?_eq_getElem (by omega)]at he
      obtain⟨cs',h1,h2⟩:=Option.bind_eq_some_iff.1 he
      obtain⟨c,rfl,hq⟩:=hread m (by omega) cs' _ h2 (sb_ hw.2.1 _ (List.mem_map_of_mem (List.getElem_mem (by omega))))
      exact⟨c,h1,hq⟩
    obtain⟨C,hC⟩:=Deep.choose_lt hone
    refine⟨(List.range len).map C,some a,cap,by simp,?_,?_,by simpa using hl,hcap⟩
    · by_cases h0:len=0
      · left;simp[h0]
      · have h1:=(hC 0 (by omega)).1
        obtain⟨_,_,hcell⟩:=World.cells?_some h1
        have hc0:=hcell 0 hk0
        have hlt:0<(f (C 0)).length:=by rw[hk];exact hk0
        rw[List.getElem?_eq_getElem hlt]at hc0
        cases hb:W.heap[a.block]? with
        | none=>simp[World.cell?,Addr.add,hb]at hc0
        | some o =>
          cases o with
          | cells arr T fz =>
            have hspot:a.spot=none:=by
              cases hsp2:a.spot with
              | none=>rfl
              | some s=>simp[World.cell?,Addr.add,hb,hsp2]at hc0
            obtain⟨b,off,sp⟩:=a
            simp only at hspot hb
            subst hspot
            right
            refine⟨b,off,arr,T,fz,rfl,(Array.getElem?_eq_some_iff.1 hb).1,hb,fun j y hj=>?_⟩
            have hjlt:j<len*k:=by
              have:=(List.getElem?_eq_some_iff.1 hj).1
              rw[ey_ f k hk]at this
              simpa using this
            have hi:j / k<len:=Nat.div_lt_of_lt_mul (by rw[Nat.mul_comm];exact hjlt)
            have hr':j%k<k:=Nat.mod_lt _ hk0
            have e:j=(j / k)*k+j%k:=by rw[Nat.mul_comm];exact (Nat.div_add_mod j k).symm
            have hget:((List.range len).map C)[j / k]? = some (C (j / k)):=by simp[hi]
            rw[e,iL_ f k hk _ (j / k) (j%k) _ hget hr']at hj
            obtain⟨_,_,hcell⟩:=World.cells?_some (hC (j / k) hi).1
            have:=hcell (j%k) hr'
            rw[hj,cp_,cp_]at this
            rw[e]
            simpa [World.cell?,hb,Nat.add_assoc] using this
          | _=>simp[World.cell?,Addr.add,hb]at hc0
    · intro c hc'
      obtain⟨i,hi,rfl⟩:=List.mem_map.1 hc'
      exact (hC i (by simpa using hi)).2
end
instance:Inhabited Con:=⟨.mk 0 [] 0 0 none 0 []⟩
instance:Inhabited Ax:=⟨⟨0,false,default,default,none,0,[],[],[],[]⟩⟩
instance:Inhabited Pc:=⟨⟨0,[],[],[],[],[],[],0,0,0⟩⟩
structure Tys (P:Program) (tI tB tS tSs tC tCs tA tAs tP tPs:TypeId):Prop where
  i:P.underlying tI=some (.int .i64)
  b:P.underlying tB=some .bool
  s:P.underlying tS=some .string
  ss:P.underlying tSs=some (.slice tS)
  c:∃ fs,P.underlying tC=some (.struct fs)∧fs.toList.map (fun f=>(f.type,f.offset))=[(tI,0),(tS,1),(tI,2),(tI,3),(tCs,4)]
  cs:P.underlying tCs=some (.slice tC)
  a:∃ fs,P.underlying tA=some (.struct fs)∧fs.toList.map (fun f=>(f.type,f.offset))=[(tI,0),(tB,1),(tC,2),(tC,7),(tSs,12),(tS,13),(tS,14),(tS,15)]
  axs:P.underlying tAs=some (.slice tA)
  p:∃ fs,P.underlying tP=some (.struct fs)∧fs.toList.map (fun f=>(f.type,f.offset))=[(tI,0),(tS,1),(tS,2),(tS,3),(tS,4),(tS,5),(tS,6),(tI,7),(tI,8),(tI,9)]
  ps:P.underlying tPs=some (.slice tP)
  ci:P.cellsOf tI=1
  cb:P.cellsOf tB=1
  cs1:P.cellsOf tS=1
  css:P.cellsOf tSs=1
  cc:P.cellsOf tC=5
  ccs:P.cellsOf tCs=1
  ca:P.cellsOf tA=16
  cp:P.cellsOf tP=10
  bs:P.bytesOf tS=16
  bc:P.bytesOf tC=64
  ba:P.bytesOf tA=216
  bp:P.bytesOf tP=128
section
variable {H:Type} {enc:TypeId×Value→H} {P:Program} {W:World} {tI tB tS tSs tC tCs tA tAs tP tPs:TypeId} (X:Tys P tI tB tS tSs tC tCs tA tAs tP tPs)
theorem fields_of {t:TypeId} {fs:Array Field} {L:List (TypeId×Nat)} {cs:List Value} {n:Nat} {x:DataW H×List MemPlace} (ht:P.underlying t=some (.struct fs)) (hL:fs.toList.map (fun f=>(f.type,f.offset))=L) (h:DataW.trod enc P W 0 (fun _=>true) true n t cs=some x) :
    ∃ (xs:List (DataW H×List MemPlace)) (m:Nat),n=m+1∧x.1=.agg (xs.map (·.1))∧cs.length=P.cellsOf t∧xs.length=L.length∧(∀ (i:Nat) q,L[i]? = some q→DataW.trod enc P W 0 (fun _=>true) true m q.1 ((cs.drop q.2).take (P.cellsOf q.1))=xs[i]?) ∧
      (x.1.weights P t=DataW.weightsEach P (L.map (·.1)) (xs.map (·.1))):=by
  obtain⟨xs,m,hn,hx,hl,hlen,hf⟩:=DataW.trod_struct ht h
  refine⟨xs,m,hn,by rw[hx],hl,by rw[hlen,← hL];simp,fun i q hq=>?_,?_⟩
  · rw[← hL,List.getElem?_map,Option.map_eq_some_iff]at hq
    obtain⟨f,hf',rfl⟩:=hq
    exact hf i f (by simpa using hf')
  · rw[hx];simp only[DataW.weights,ht]
    congr 1
    rw[← hL,List.map_map];rfl
include X
theorem mx_ {n:Nat} {cs:List Value} {x:DataW H×List MemPlace} (h:DataW.trod enc P W 0 (fun _=>true) true n tI cs=some x):∃ k:Int,cs=[.int .i64 k]∧-9223372036854775808≤k∧k≤9223372036854775807:=by
  obtain⟨k,h1,_,h3⟩:=DataW.trod_int X.i h
  have:=bounds_i64 h3
  exact⟨k,h1,this.1,this.2⟩
theorem uR_ {n:Nat} {cs:List Value} {x:DataW H×List MemPlace} (h:DataW.trod enc P W 0 (fun _=>true) true n tB cs=some x):∃ b:Bool,cs=[.bool b]:=by
  obtain⟨b,h1,_⟩:=DataW.trod_bool X.b h
  exact⟨b,h1⟩
theorem str_of {n:Nat} {cs:List Value} {x:DataW H×List MemPlace} (h:DataW.trod enc P W 0 (fun _=>true) true n tS cs=some x) (hw:wok (x.1.weights P tS)):∃ s:Str,cs=[str s]∧s.length≤140737488351232:=by
  obtain⟨s,h1,h2,_⟩:=DataW.trod_string X.s h
  rw[h2]at hw
  simp[wok,DataW.weights,reachBytes]at hw
  refine⟨s.data.toList,by rw[h1];rfl,by have:=of_decide_eq_true hw;simpa using this⟩
theorem tC_:∀ (n:Nat) (cs:List Value) (x:DataW H×List MemPlace),DataW.trod enc P W 0 (fun _=>true) true n tC cs=some x→wok (x.1.weights P tC)→∃ c:Con,cs=c.cells∧c.mem (vw W)∧c.ok:=by
 intro n
 induction n using Nat.strongRecOn with
 | ind n ih =>
   intro cs x h hw
   obtain⟨fs,hu,hL⟩:=X.c
   obtain⟨xs,m,hn,hx,hl,hlen,hf,hwe⟩:=fields_of hu hL h
   rw[hwe]at hw
   match xs,hlen with
   | [x0,x1,x2,x3,x4],_ =>
   simp only[List.map_cons,List.map_nil,DataW.weightsEach,et_]at hw
   have f0:=hf 0 _ rfl;have f1:=hf 1 _ rfl;have f2:=hf 2 _ rfl;have f3:=hf 3 _ rfl;have f4:=hf 4 _ rfl
   simp only[List.getElem?_cons_zero,List.getElem?_cons_succ,X.ci,X.cs1,X.ccs]at f0 f1 f2 f3 f4
   obtain⟨k,e0,k1,k2⟩:=mx_ X f0
   obtain⟨nm,e1,n1⟩:=str_of X f1 hw.2.1
   obtain⟨lo,e2,l1,l2⟩:=mx_ X f2
   obtain⟨hi,e3,h1,h2⟩:=mx_ X f3
   obtain⟨l,ad,cap,e4,hrow,hq,hlc,hcap⟩:=mh_ Con.cells 5 Con.cells_len (by decide) (fun c=>c.mem (vw W)∧c.ok) X.cs X.cc (fun m' hm' cs' y hy hwy=>by
     obtain⟨c,g1,g2,g3⟩:=ih m' (by omega) cs' y hy hwy
     exact⟨c,g1,g2,g3⟩) f4 hw.2.2.2.2.1
   rw[X.cc]at hl
   match cs,hl with
   | [c0,c1,c2,c3,c4],_ =>
   simp only[List.drop_succ_cons,List.drop_zero,List.take_succ_cons,List.take_zero,List.cons.injEq,and_true]at e0 e1 e2 e3 e4
   subst e0 e1 e2 e3 e4
   refine⟨.mk k nm lo hi ad cap l,rfl,?_,k1,k2,n1,l1,l2,h1,h2,hlc,?_,Con.oks_iff.2 fun p hp=>(hq p hp).2⟩
   · rw[Con.mem_iff];exact⟨hrow,fun p hp=>(hq p hp).1⟩
   · rw[X.bc]at hcap;simp only[reachBytes]at hcap;omega
theorem pM_ {n:Nat} {cs:List Value} {x:DataW H×List MemPlace} (h:DataW.trod enc P W 0 (fun _=>true) true n tSs cs=some x) (hw:wok (x.1.weights P tSs)) :
    ∃ (l:List Str) (ad:Option Addr) (cap:Nat),cs=[.slice ad l.length cap]∧bA_ (vw W) ad (l.flatMap aJ_)∧(∀ s∈l,s.length≤140737488351232)∧l.length≤cap∧cap≤8796093021952:=by
  obtain⟨l,ad,cap,e,hrow,hq,hlc,hcap⟩:=mh_ aJ_ 1 ak_ (by decide) (fun s=>s.length≤140737488351232) X.ss X.cs1 (fun m' _ cs' y hy hwy=>by
    obtain⟨s,g1,g2⟩:=str_of X hy hwy
    exact⟨s,g1,g2⟩) h hw
  rw[X.bs]at hcap;simp only[reachBytes]at hcap
  exact⟨l,ad,cap,e,hrow,hq,hlc,by omega⟩
theorem ax_of {n:Nat} {cs:List Value} {x:DataW H×List MemPlace} (h:DataW.trod enc P W 0 (fun _=>true) true n tA cs=some x) (hw:wok (x.1.weights P tA)):∃ a:Ax,cs=a.cells∧a.mem (vw W)∧a.ok:=by
  obtain⟨fs,hu,hL⟩:=X.a
  obtain⟨xs,m,hn,hx,hl,hlen,hf,hwe⟩:=fields_of hu hL h
  rw[hwe]at hw
  match xs,hlen with
  | [x0,x1,x2,x3,x4,x5,x6,x7],_ =>
  simp only[List.map_cons,List.map_nil,DataW.weightsEach,et_]at hw
  have f0:=hf 0 _ rfl;have f1:=hf 1 _ rfl;have f2:=hf 2 _ rfl;have f3:=hf 3 _ rfl;have f4:=hf 4 _ rfl;have f5:=hf 5 _ rfl;have f6:=hf 6 _ rfl;have f7:=hf 7 _ rfl
  simp only[List.getElem?_cons_zero,List.getElem?_cons_succ,X.ci,X.cb,X.cs1,X.cc,X.css]at f0 f1 f2 f3 f4 f5 f6 f7
  obtain⟨k,e0,k1,k2⟩:=mx_ X f0
  obtain⟨op,e1⟩:=uR_ X f1
  obtain⟨le,e2,m2,o2⟩:=tC_ X _ _ _ f2 hw.2.2.1
  obtain⟨ri,e3,m3,o3⟩:=tC_ X _ _ _ f3 hw.2.2.2.1
  obtain⟨rs,ad,cap,e4,hrow,hq,hlc,hcap⟩:=pM_ X f4 hw.2.2.2.2.1
  obtain⟨ro,e5,n5⟩:=str_of X f5 hw.2.2.2.2.2.1
  obtain⟨a,e6,n6⟩:=str_of X f6 hw.2.2.2.2.2.2.1
  obtain⟨b,e7,n7⟩:=str_of X f7 hw.2.2.2.2.2.2.2.1
  rw[X.ca]at hl
  match cs,hl with
  | [c0,c1,c2,c3,c4,c5,c6,c7,c8,c9,c10,c11,c12,c13,c14,c15],_ =>
  simp only[List.drop_succ_cons,List.drop_zero,List.take_succ_cons,List.take_zero,List.cons.injEq,and_true,Con.cells]at e0 e1 e2 e3 e4 e5 e6 e7
  obtain⟨rfl,rfl,rfl,rfl,rfl⟩:=e2
  obtain⟨rfl,rfl,rfl,rfl,rfl⟩:=e3
  subst e0 e1 e4 e5 e6 e7
  exact⟨⟨k,op,le,ri,ad,cap,rs,ro,a,b⟩,rfl,⟨m2,m3,hrow⟩,⟨k1,k2,o2,o3,hlc,Nat.le_trans hlc hcap,hq,n5,n6,n7⟩⟩
theorem axs_of {n:Nat} {cs:List Value} {x:DataW H×List MemPlace} (h:DataW.trod enc P W 0 (fun _=>true) true n tAs cs=some x) (hw:wok (x.1.weights P tAs)) :
    ∃ (l:List Ax) (ad:Option Addr) (cap:Nat),cs=[.slice ad l.length cap]∧(aR_ ad l).p (vw W)∧(∀ y∈l,y.ok)∧l.length≤cap∧cap≤2199023255488:=by
  obtain⟨l,ad,cap,e,hrow,hq,hlc,hcap⟩:=mh_ Ax.cells 16 Ax.cells_len (by decide) (fun a=>a.mem (vw W)∧a.ok) X.axs X.ca (fun m' _ cs' y hy hwy=>by
    obtain⟨a,g1,g2,g3⟩:=ax_of X hy hwy
    exact⟨a,g1,g2,g3⟩) h hw
  rw[X.ba]at hcap;simp only[reachBytes]at hcap
  exact⟨l,ad,cap,e,⟨hrow,fun y hy=>(hq y hy).1⟩,fun y hy=>(hq y hy).2,hlc,by omega⟩
end
end Go.Vs
namespace Go.Vs
open Go Go.Sx Go.ChangeShapes Go.WideShapes Go.ChangeAt Go.RowKit
section
variable {H:Type} {enc:TypeId×Value→H} {P:Program} {w:World}
mutual
def eL_ {H:Type}:DataW H→List Value
  | .lit (.int k n)=>[.int k n]
  | .lit (.bool b)=>[.bool b]
  | .agg ps=>hU_ ps
  | _=>[]
def hU_ {H:Type}:List (DataW H)→List Value
  | []=>[]
  | d::r=>eL_ d++hU_ r
end
def fT_ (P:Program):Nat→TypeId→Bool
  | 0,_=>false
  | n+1,t=>match P.underlying t with
    | some .bool=>true
    | some (.int _)=>true
    | some (.struct fs)=>fs.toList.all fun f=>fT_ P n f.type
    | some (.array _ e)=>fT_ P n e
    | _=>false
theorem hw_:∀ l:List (DataW H),hU_ l=l.flatMap eL_
  | []=>by simp[hU_]
  | d::r=>by simp only[hU_,hw_ r,List.flatMap_cons]
theorem tile:∀ (ls:List Nat) (cs:List Value) (g:List (List Value)),cs.length=ls.sum→g.length=ls.length→(∀ j n,ls[j]? = some n→some ((cs.drop (ls.take j).sum).take n)=g[j]?)→cs=g.flatten
  | [],cs,g,h,hg,_=>by
    simp only[List.sum_nil]at h
    have h1:=List.eq_nil_of_length_eq_zero h
    have h2:g=[]:=List.eq_nil_of_length_eq_zero hg
    simp[h1,h2]
  | n::ls,cs,[],h,hg,hp=>by simp at hg
  | n::ls,cs,x::g,h,hg,hp=>by
    have h0:=hp 0 n rfl
    simp only[List.take_zero,List.sum_nil,List.drop_zero,List.getElem?_cons_zero,Option.some.injEq]at h0
    have ih:=tile ls (cs.drop n) g (by rw[List.length_drop,h];simp) (by simpa using hg) (fun j m hj=>by
      have:=hp (j+1) m hj
      simp only[List.take_succ_cons,List.sum_cons,List.getElem?_cons_succ]at this
      rw[← this,List.drop_drop])
    rw[List.flatten_cons,← ih,← h0,List.take_append_drop]
theorem sF_ {T:TypeId→Prop} {held:Bool} (K:Kids P T):∀ (n m:Nat) (t:TypeId) (cs:List Value) (x:DataW H×List MemPlace),T t→fT_ P m t=true→DataW.trod enc P w 0 (fun _=>true) held n t cs=some x→cs=eL_ x.1:=by
 intro n
 induction n with
 | zero=>intro m t cs x _ _ h;simp[DataW.trod]at h
 | succ n ih =>
   intro m t cs x hT hb h
   cases m with
   | zero=>simp[fT_]at hb
   | succ m =>
   cases hu:P.underlying t with
   | none=>simp[fT_,hu]at hb
   | some d =>
     cases d with
     | bool=>obtain⟨b,rfl,rfl⟩:=DataW.trod_bool hu h;simp[eL_]
     | int k=>obtain⟨b,rfl,rfl,_⟩:=DataW.trod_int hu h;simp[eL_]
     | struct fs =>
       obtain⟨xs,m',hn,rfl,hl,hlen,hf⟩:=DataW.trod_struct hu h
       obtain rfl:m'=n:=by omega
       obtain⟨k1,k2,k3⟩:=K.struct hT hu
       simp only[fT_,hu]at hb
       simp only[eL_]
       rw[hw_,List.flatMap_def,List.map_map]
       refine tile (fs.toList.map fun f=>P.cellsOf f.type) cs _ (by rw[hl,k2]) (by simp[hlen]) fun j q hq=>?_
       rw[List.getElem?_map,Option.map_eq_some_iff]at hq
       obtain⟨f,hf',rfl⟩:=hq
       have h1:=hf j f (by simpa using hf')
       have h2:=k3 j f hf'
       have hj:j<xs.length:=by rw[hlen];have:=(List.getElem?_eq_some_iff.1 hf').1;simpa using this
       rw[List.getElem?_eq_getElem hj]at h1
       have h3:=ih m f.type _ _ (k1 f (List.mem_of_getElem? hf')) (List.all_eq_true.1 hb f (List.mem_of_getElem? hf')) h1
       rw[List.getElem?_map,List.getElem?_eq_getElem hj,← List.map_take,← h2,h3]
       rfl
     | array len e =>
       obtain⟨xs,m',hn,rfl,hl,hlen,hf⟩:=DataW.trod_array hu h
       obtain rfl:m'=n:=by omega
       obtain⟨k1,k2⟩:=K.array hT hu
       simp only[fT_,hu]at hb
       simp only[eL_]
       rw[hw_,List.flatMap_def,List.map_map]
       refine tile (List.replicate len (P.cellsOf e)) cs _ (by rw[hl,k2];simp) (by simp[hlen]) fun j q hq=>?_
       rw[List.getElem?_replicate]at hq
       split at hq
       · rename_i hj
         simp only[Option.some.injEq]at hq
         subst hq
         have h1:=hf j hj
         have hjx:j<xs.length:=by omega
         rw[List.getElem?_eq_getElem hjx]at h1
         have h3:=ih m e _ _ k1 hb h1
         rw[List.getElem?_map,List.getElem?_eq_getElem hjx,List.take_replicate,List.sum_replicate_nat,Nat.min_eq_left (by omega),h3]
         rfl
       · cases hq
     | _=>simp[fT_,hu]at hb
end
section
variable {H:Type} {enc:TypeId×Value→H} {P:Program} {W W':World}
theorem hi_:∀ {ts:List TypeId} {vs:List Value} {ds:List (DataW H)} {ps:List MemPlace} {sp:Nat→Bool},DataW.TrodAll enc P W 0 sp true ts vs ds ps→(∀ p∈ps,W.sameAt W' p)→DataW.TrodAll enc P W' 0 sp true ts vs ds ps
  | [],[],[],_,_,h,_=>h
  | _::_,_::_,_::_,_,_,⟨p,q,⟨n,h1⟩,h2,e⟩,hs=>⟨p,q,⟨n,DataW.trod_carry n _ _ _ h1 (fun x hx=>hs x (by rw[e];exact List.mem_append_left _ hx))⟩,hi_ h2 (fun x hx=>hs x (by rw[e];exact List.mem_append_right _ hx)),e⟩
theorem sX_ {T:TypeId→Prop} (K:Kids P T) (hz:∀ t e,T t→P.underlying t=some (.slice e)→0<P.cellsOf e) {f:Func} {s:ChangeSpec} {args:Array Value} {ds:List (DataW H)} {before:List MemPlace} {tb:TypeId} (hts:∀ t∈f.params.toList,T t) (hvars:s.vars=[])
    (hW:DataW.Whole enc P f.params.toList s.vars false W args.toList ds [] before) (hs:s.fn H (ds++[])={ results:=[.lit (.bool true)],args:=ds }) (hres:f.resultTypes=#[tb]) (hb:P.underlying tb=some .bool) {v':Vw} (hto:(vw W).to [] v' []) :
    s.post enc P f false true false false W args (.bool true) v'.w:=by
  have hW':=hW
  obtain⟨p,q,hA,hV,hp,_,_⟩:=hW
  have hq:q=[]:=by rw[hvars]at hV;exact hV
  subst hq
  simp only[List.append_nil]at hp
  subst hp
  have hblk:∀ b,b<W.heap.size→v'.w.heap[b]? = W.heap[b]? := fun b hb=>hto.block b hb (by simp)
  have hsame:∀ x∈before,W.sameAt v'.w x:=fun x hx=>by
    have hlt:=DataW.TrodAll.lt hA x hx
    cases x with
    | cell b off=>exact World.cell?_of_block (hblk b hlt)
    | map b=>exact hblk b hlt
  have hA':=hi_ hA hsame
  have hA'':=DataW.TrodAll.respare K hz (spare':=fun b=>decide (b<W.heap.size)) hts hA' (fun x hx=>by simpa using DataW.TrodAll.lt hA x hx)
  refine⟨ds,[],before,[],before,[],hW',?_,?_,?_,⟨hto.os,hto.output,fun i hi=>?_⟩,fun h=>by cases h⟩
  · rw[hs,hres];exact trodAll_mk1 (shut_bool hb true)
  · rw[hs];exact hA''
  · rw[hs,hvars];rfl
  · rw[hblk i hi]
    have hsome:∃ o,W.heap[i]? = some o:=⟨_,Array.getElem?_eq_getElem hi⟩
    obtain⟨o,ho⟩:=hsome
    rw[ho]
    cases o<;>simp
section
variable {tI tB tS tSs tC tCs tA tAs tP tPs:TypeId} (X:Tys P tI tB tS tSs tC tCs tA tAs tP tPs) {base:Nat} {v:Value} {d:DataW H} {ps:List MemPlace}
include X
theorem tK_ (hval:Value.okWide P W .any base tSs v) (h:DataW.Trod enc P W 0 (fun _=>true) true tSs v d ps) (hw:wok (d.weights P tSs)) :
    ∃ (l:List Str) (ad:Option Addr) (cap:Nat),v=.slice ad l.length cap∧bA_ (vw W) ad (l.flatMap aJ_)∧(∀ s∈l,s.length≤140737488351232)∧l.length≤cap∧cap≤8796093021952:=by
  obtain⟨a,len,cap,rfl⟩:=okWide_slice X.ss hval
  obtain⟨n,hn⟩:=h
  obtain⟨l,ad,cap',e,h1⟩:=pM_ X hn hw
  simp only[Value.cells,List.cons.injEq,and_true]at e
  exact⟨l,ad,cap',e,h1⟩
theorem uW_ (hval:Value.okWide P W .any base tI v) (h:DataW.Trod enc P W 0 (fun _=>true) true tI v d ps):∃ k:Int,v=.int .i64 k∧-9223372036854775808≤k∧k≤9223372036854775807:=by
  obtain⟨k,e,_,_,hw⟩:=open_int X.i hval h
  have:=bounds_i64 hw
  exact⟨k,e,this.1,this.2⟩
end
theorem jR_ {T:TypeId→Prop} (K:Kids P T) {name:String} {d:DataW Unit} {laid:List (String×DataW Unit)} {W:World} (h:laidMet P laid W) (hm:(name,d)∈laid) {g:Nat} {t:TypeId} (hg:P.globalNamed name=some g) (ht':(P.globals[g]?).map (·.type)=some t) (hT:T t) {m:Nat} (hb:fT_ P m t=true) :
    ∃ T' fz,W.heap[g]? = some (.cells (eL_ d).toArray T' fz):=by
  obtain⟨ps,hl,_,_⟩:=h
  have key:∀ (l:List (String×DataW Unit)) (ps:List MemPlace),DataW.LaidVars P W l ps→(name,d)∈l→∃ g t cs n p,P.globalNamed name=some g∧(P.globals[g]?).map (·.type)=some t∧W.var? P name=some cs∧DataW.trod (fun _=>()) P W 0 (fun _=>true) false n t cs.toList=some (d,p):=by
    intro l
    induction l with
    | nil=>intro ps _ h;cases h
    | cons x r ih =>
      intro ps h hm
      obtain⟨n',d'⟩:=x
      obtain⟨g,t,cs,fuel,p,q,h1,h2,h3,h4,h5,_⟩:=h
      rcases List.mem_cons.1 hm with e|hm
      · cases e;exact⟨g,t,cs,fuel,p,h1,h2,h3,h4⟩
      · exact ih q h5 hm
  obtain⟨g',t',cs,n,p,h1,h2,h3,h4⟩:=key laid ps hl hm
  obtain rfl:g'=g:=Option.some.inj (h1.symm.trans hg)
  obtain rfl:t'=t:=Option.some.inj (h2.symm.trans ht')
  have e:=sF_ K n m t' cs.toList _ hT hb h4
  simp only[World.var?,hg,Option.bind_some]at h3
  split at h3
  · rename_i c T' fz hc
    simp only[Option.some.injEq]at h3
    subst h3
    exact⟨T',fz,by rw[hc,← e]⟩
  · cases h3
end
end Go.Vs
namespace Go.Vs
open Go Go.Sx
theorem hK_ {s:Str} (h:gp_ s=true):∃ c t,s=c::t∧ek_ c=true∧iW_ s=true:=by
  cases s with
  | nil=>simp[gp_]at h
  | cons c t =>
    simp only[gp_,Bool.and_eq_true]at h
    exact⟨c,t,rfl,h.1.1.2,h.1.2⟩
theorem oV_ {s:Str} (h:bk_ s=true):∃ c t,s=c::t∧ek_ c=true:=by
  unfold bk_ at h
  simp only[Bool.and_eq_true]at h
  cases hx:ixS 58 s with
  | none=>rw[hx]at h;obtain⟨c,t,h1,h2,_⟩:=hK_ h.2;exact⟨c,t,h1,h2⟩
  | some k =>
    rw[hx]at h
    simp only[Bool.and_eq_true]at h
    obtain⟨c,t,h1,h2,_⟩:=hK_ h.2.1
    cases s with
    | nil=>simp at h1
    | cons d u =>
      cases k with
      | zero=>simp at h1
      | succ k=>simp only[List.take_succ_cons,List.cons.injEq]at h1;exact⟨d,u,rfl,h1.1▸h2⟩
theorem jQ_ {s:Str} (h:iW_ s=true):∀ c∈s,eN_ c=true:=fun c hc=>List.all_eq_true.1 h c hc
theorem rC_ {c:UInt8} {s:Str} {k:Nat} (h:ixS c s=some k):s=s.take k++c::s.drop (k+1):=by
 induction s generalizing k with
 | nil=>simp[ixS]at h
 | cons b s ih =>
   simp only[ixS]at h
   split at h
   · rename_i hb
     simp only[Option.some.injEq]at h
     subst h;subst hb;simp
   · cases hx:ixS c s with
     | none=>rw[hx]at h;simp at h
     | some j =>
       rw[hx]at h
       simp only[Option.map_some,Option.some.injEq]at h
       subst h
       simp only[List.take_succ_cons,List.drop_succ_cons,List.cons_append]
       rw[← ih hx]
theorem rk_ {s:Str} (h:bk_ s=true):∀ c∈s,eN_ c=true∨c=58:=by
 unfold bk_ at h
 simp only[Bool.and_eq_true]at h
 cases hx:ixS 58 s with
 | none=>rw[hx]at h;obtain⟨_,_,_,_,h3⟩:=hK_ h.2;exact fun c hc=>.inl (jQ_ h3 c hc)
 | some k =>
   rw[hx]at h
   simp only[Bool.and_eq_true]at h
   obtain⟨_,_,_,_,h3⟩:=hK_ h.2.1
   obtain⟨_,_,_,_,h4⟩:=hK_ h.2.2
   intro c hc
   rw[rC_ hx]at hc
   rcases List.mem_append.1 hc with hc|hc
   · exact .inl (jQ_ h3 c hc)
   · rcases List.mem_cons.1 hc with rfl|hc
     · exact .inr rfl
     · exact .inl (jQ_ h4 c hc)
theorem jd_ {c:UInt8}:∀ {s:Str},c ∉ s→ixS c s=none
  | [],_=>rfl
  | b::s,h=>by
    simp only[List.mem_cons,not_or]at h
    simp only[ixS]
    rw[if_neg (fun e=>h.1 e.symm),jd_ h.2];rfl
theorem gA_ {s:Str} (h:bk_ s=true):bF_ 46 s=[s] :=
  gu_ (jd_ fun hm=>by rcases rk_ h 46 hm with h|h<;>revert h<;>decide)
theorem cE_ {s:Str} (h:bk_ s=true):aQ_ s=true:=by simp[aQ_,h]
theorem cS_ {s:Str} (h:bk_ s=true):ed_ s=true:=by
  unfold ed_
  rw[gA_ h]
  simp[cE_ h]
theorem jW_ (c:UInt8):∀ (f r:Str),bF_ c (f++[c]++r)=bF_ c f++bF_ c r
 | [],r=>by simp[bF_]
 | b::f,r=>by
   have ih:=jW_ c f r
   simp only[List.append_assoc,List.cons_append,List.nil_append]at ih ⊢
   by_cases hb:b=c
   · subst hb;simp only[bF_,if_true,ih,List.cons_append]
   · simp only[bF_,hb,if_false,ih]
     cases hs:bF_ c f with
     | nil=>exact absurd hs (lf_ c f)
     | cons x t=>simp
theorem pj_ {c:UInt8} (h:ek_ c=true):c≠42∧c≠33∧c≠123∧c≠60∧c≠95:=by
  refine⟨?_,?_,?_,?_,?_⟩<;>rintro rfl<;>revert h<;>decide
theorem pA_ {s:Str} (h:bk_ s=true):bX_ s=true:=by
  obtain⟨c,t,rfl,hc⟩:=oV_ h
  obtain⟨h1,h2,h3,h4,_⟩:=pj_ hc
  unfold bX_
  rw[if_neg (by simp[h1,h2]),if_neg (by simp[h3]),if_neg (by simp[h4])]
  exact cE_ h
theorem iq_ {s:Str} (h:aQ_ s=true):bX_ ([123]++s++[125])=true:=by
  unfold bX_
  have e:([123]++s++[125]).length=s.length+2:=by simp
  rw[if_neg (by simp),if_pos (by
    refine⟨by omega,by simp,?_⟩
    rw[List.getElem?_append_right (by simp)];simp)]
  rw[e]
  have:(List.drop 1 ([123]++s++[125])).take (s.length+2 - 1 - 1)=s:=by simp
  rw[this];exact h
theorem pB_ {t:Str} (h:t≠[]):bX_ ([60]++t++[62])=true:=by
  unfold bX_
  have hl:0<t.length:=List.length_pos_iff.2 h
  have e:([60]++t++[62]).length=t.length+2:=by simp
  rw[if_neg (by simp),if_neg (by simp),if_pos (by
    refine⟨by omega,by simp,?_⟩
    rw[List.getElem?_append_right (by simp)];simp)]
namespace Con
def dep:Con→Nat
  | mk _ _ _ _ _ _ ps=>deps ps
where deps:List Con→Nat
  | []=>0
  | p::ps=>max (1+dep p) (deps ps)
theorem mK_ {p:Con}:∀ {ps:List Con},p∈ps→1+p.dep≤dep.deps ps
 | q::ps,h=>by
   rcases List.mem_cons.1 h with rfl|h
   · simp only[dep.deps];omega
   · have:=mK_ h;simp only[dep.deps];omega
theorem mL_ (c:Con):c.dep=dep.deps c.parts:=by cases c;rfl
theorem sz_eq (c:Con):c.sz=1+sz.szs c.parts:=by cases c;rfl
theorem of_:∀ (m:Nat) (c:Con),c.sz≤m→∀ d n,(c.fits d n).1=true↔d+c.dep≤8∧n+c.sz≤64
 | 0,c,h=>by have:=c.sz_pos;omega
 | m+1,c,h=>fun d n=>by
   have key:∀ ps:List Con,(∀ p∈ps,p.sz≤m)→∀ n,n≤64→((fits.fitss ps (d+1) n).1=true↔(∀ p∈ps,d+1+p.dep≤8)∧n+sz.szs ps≤64):=by
     intro ps
     induction ps with
     | nil=>intro _ n hn;simp[fits.fitss,sz.szs,hn]
     | cons p ps ih =>
       intro hp n hn
       have h1:=of_ m p (hp p (by simp)) (d+1) n
       simp only[fits.fitss,sz.szs,List.mem_cons,forall_eq_or_imp]
       rcases hq:p.fits (d+1) n with⟨b,q⟩
       rw[hq]at h1
       cases b with
       | true =>
         have hs:=mE_ _ p (Nat.le_refl _) (d+1) n (by rw[hq])
         rw[hq]at hs
         simp only at hs h1 ⊢
         have h2:=h1.1 trivial
         rw[ih (fun r hr=>hp r (by simp[hr])) q (by omega)]
         constructor
         · rintro ⟨a,b⟩;exact⟨⟨h2.1,a⟩,by omega⟩
         · rintro ⟨⟨_,a⟩,b⟩;exact⟨a,by omega⟩
       | false =>
         simp only[Bool.false_eq_true,false_iff]at h1 ⊢
         rintro ⟨⟨a,_⟩,b⟩
         exact h1 ⟨a,by omega⟩
   have hd:=mL_ c
   have hz:=sz_eq c
   rw[fits_eq]
   split
   · rename_i hc
     simp only[Bool.or_eq_true,decide_eq_true_eq]at hc
     simp only[Bool.false_eq_true,false_iff]
     rintro ⟨a,b⟩
     omega
   · rename_i hc
     simp only[Bool.or_eq_true,decide_eq_true_eq,not_or]at hc
     rw[key c.parts (fun p hp=>by have:=sz_part hp;omega) (n+1) (by omega),hd,hz]
     constructor
     · rintro ⟨a,b⟩
       refine⟨?_,by omega⟩
       have:∀ ps:List Con,(∀ p∈ps,d+1+p.dep≤8)→d+dep.deps ps≤8:=by
         intro ps
         induction ps with
         | nil=>intro _;simp[dep.deps];omega
         | cons p ps ih =>
           intro hp
           have h1:=hp p (by simp)
           have h2:=ih fun q hq=>hp q (by simp[hq])
           simp only[dep.deps];omega
       exact this _ a
     · rintro ⟨a,b⟩
       exact⟨fun p hp=>by have:=mK_ hp;omega,by omega⟩
theorem lV_ (c:Con):c.check=0↔c.dep≤8∧c.sz≤64∧c.fine:=by
 unfold check fine
 have h:=of_ _ c (Nat.le_refl _) 0 0
 by_cases hf:(c.fits 0 0).1=true
 ·rw[if_pos hf]
  have:=h.1 hf
  constructor
  ·intro e;exact⟨by omega,by omega,e⟩
  exact fun e=>e.2.2
 rw[if_neg hf]
 constructor
 ·intro e;cases e
 intro e;exact absurd (h.2 ⟨by omega,by omega⟩) hf
theorem check_part {c p:Con} (h:c.check=0) (hp:p∈c.parts):p.check=0:=by
  rw[lV_]at h ⊢
  have h1:=mK_ hp
  rw[← mL_]at h1
  have h2:=sz_part hp
  exact⟨by omega,by omega,fine_part h.2.2 hp⟩
structure Names (c:Con):Prop where
  plain:c.kind=3∨c.kind=6∨c.kind=7→bk_ c.name=true
  person:c.kind=4→aQ_ c.name=true
  nums:c.kind=7→-1099511627776≤c.lo∧c.lo≤c.hi∧c.hi≤1099511627776
theorem kk_ {c:Con} (h:c.fine):Names c:=by
 have F:=fields h
 have hk:c.kind=1∨c.kind=2∨c.kind=3∨c.kind=4∨c.kind=5∨c.kind=6∨c.kind=7:=by have:=F.k1;have:=F.k7;omega
 have h0:=((ig_ c).1 h).1
 unfold fieldErr at h0
 rw[if_neg (by have:=F.k1;have:=F.k7;omega)]at h0
 split at h0
 ·cases h0
 split at h0
 ·cases h0
 rename_i h3
 split at h0
 ·cases h0
 split at h0
 ·rename_i h5
  refine⟨fun e=>?_,fun e=>?_,fun e=>?_⟩
  ·rcases e with e|e|e<;>rw[e]at h5<;>simpa [nd,dL_] using h5
  ·rw[e]at h5
   simp[nd,dL_]at h5
   simp[aQ_,h5]
  rw[e]at h3
  simp[nd,dL_]at h3
  omega
 cases h0
theorem ko_ (x y:Str) (r:List Str) (sep:Str):Lib.join (x::y::r) sep=x++sep++Lib.join (y::r) sep:=by simp[Lib.join,List.intercalate]
theorem ub_ {c:Con} (h:c.fine) (hk:5≤c.kind):c.text≠[]:=by
 have F:=fields h
 have h7:=F.k7
 rw[text_eq,if_neg (by omega),if_neg (by omega),if_neg (by omega),if_neg (by omega)]
 split
 ·rename_i h5
  have hl:=F.le
  rw[h5]at hl
  simp[nd,dL_]at hl
  match hp:c.parts,hl with
  | [],hl=>simp at hl
  | [_],hl=>simp at hl
  | p::q::r,_=>simp only[List.map_cons,ko_];simp
 split
 ·simp only[ko_];simp
 simp only[ko_];simp
theorem atom_ok {c:Con} (h:c.check=0):bX_ c.atom=true:=by
 have hf:=(check_zero h).1
 have F:=fields hf
 have N:=kk_ hf
 have h1:=F.k1
 have h7:=F.k7
 unfold atom
 split
 ·rfl
 split
 ·rfl
 split
 ·exact pA_ (N.plain (by omega))
 split
 ·exact iq_ (N.person (by omega))
 unfold textN
 rw[if_pos h]
 exact pB_ (ub_ hf (by omega))
theorem atom_len {c:Con} (hok:c.ok) (h:c.check=0):c.atom.length≤7000:=by
  have F:=fields (check_zero h).1
  have hn:=F.nm
  have ht:=textN_len hok
  unfold atom
  repeat' split
  all_goals simp<;>omega
theorem rh_ {c:Con} (h:c.check=0) (hk:c.kind=5) {j:Nat} (h2:2≤j) (hj:j≤c.parts.length):(c.pre j).check=0:=by
 have hf:=(check_zero h).1
 have F:=fields hf
 have hmo:=F.mo
 rw[hk]at hmo
 simp[nd,dL_]at hmo
 rw[lV_]at h ⊢
 have key:∀ (ps:List Con) (j:Nat),sz.szs (ps.take j)≤sz.szs ps∧dep.deps (ps.take j)≤dep.deps ps:=by
   intro ps
   induction ps with
   | nil=>intro j;simp
   | cons p ps ih =>
     intro j
     cases j with
     | zero=>simp[sz.szs,dep.deps]
     | succ j=>have:=ih j;simp only[List.take_succ_cons,sz.szs,dep.deps];omega
 have h1:=key c.parts j
 have e1:=mL_ c
 have e2:=sz_eq c
 refine⟨?_,?_,?_⟩
 ·rw[mL_];show dep.deps (c.parts.take j)≤8;omega
 ·rw[sz_eq];show 1+sz.szs (c.parts.take j)≤64;omega
 rw[ig_]
 refine⟨?_,fun p hp=>fine_part hf (List.mem_of_mem_take hp)⟩
 unfold fieldErr
 have hlen:(c.pre j).parts.length=j:=by show (c.parts.take j).length=j;simp;omega
 rw[if_neg (by show ¬ ((5:Int)<1∨7<(5:Int));omega)]
 simp only[hlen]
 have hk5:(c.pre j).kind=5:=rfl
 rw[hk5]
 simp[nd,dL_,pre,name,lo,hi]
 omega
end Con
end Go.Vs
