/-
  Part of the proof of the law CheckerTrusts over this seat: the small logic, the data, the contracts of functions (no condition).
-/
import Derived.Test.YtaffcjgphlhppaaGreatDoorQCheckerTrusts2
import Derived.Test.YtaffcjgphlhppaaGreatDoorQCheckerTrusts6
import Derived.Test.YtaffcjgphlhppaaGreatDoorQCheckerTrusts3
import Derived.ProofKit
import Derived.OpenShut
import Derived.ReadAgain
import Derived.Deep.Slices
import Derived.SevenTiedAt
import Derived.Stop.Joined
import Derived.Lay
import Derived.LaidMore
import Derived.Lib.SlicesCompact
import Derived.Sort.EncStr
import Derived.Test.YtaffcjgphlhppaaGreatDoorProg
set_option linter.unusedVariables false
set_option linter.unusedSimpArgs false
set_option linter.unusedSectionVars false
set_option maxHeartbeats 1000000
namespace Go.Proofs.YtaffcjgphlhppaaGreatDoor
open Go Go.Sx Go.Proofs
attribute [local irreducible] Code.wp wpList wpAnyH
open Go.Vs
theorem bk_.form {e:TypeId} {sz n:Nat} {sv:Value} {xs:List Value} {Hr:Hp} (h:bk_ e sz sv n xs Hr):∃ ad cap,sv=.slice ad n cap:=by
 rcases h.2 with⟨h1,h2,_⟩|⟨g,cap,cur,h1,_⟩
 ·exact⟨none,0,by rw[h1,h2]⟩
 exact⟨_,cap,h1⟩
theorem bk_.nilcap {e:TypeId} {sz n m cap:Nat} {sv:Value} {xs:List Value} {Hr:Hp} {ad:Option Addr} (h:bk_ e sz sv n xs Hr) (hs:sv=.slice ad m cap):ad=none→cap=0:=fun h0=>by
 rcases h.2 with⟨h1,_,_⟩|⟨g,c,cur,h1,_⟩
 ·rw[h1]at hs;simp only[Value.slice.injEq]at hs;exact hs.2.2.symm
 rw[h1,h0]at hs;simp at hs
theorem tW_ (l:List Ax) (ad:Option Addr) (cap:Nat) (hcap:l.length≤cap∧cap≤2199023255488) (hok:∀ x∈l,x.ok) :
    Tri Tryz.prog 25 #[.slice ad l.length cap] [] [ne_ ad l,dK_] (fun y:{y:Option Addr×Nat // (bq_ l).1.length≤y.2∧y.2≤maxLen∧(y.1=none→y.2=0)}=>.tuple #[.slice y.1.1 (bq_ l).1.length y.1.2,.int .i64 (bq_ l).2]) (fun _=>[]) (fun y=>[aC_ y.1.1 ((bq_ l).1.flatMap Pc.cells)]):=by
  refine w_ Tryz.func25 rfl rfl Tryz.ntmps25 rfl fun v0=>?_;refine p_ ?_;refine f_ ?_;refine d_ (u_ rfl) rfl ?_;refine d_ (u_ rfl) rfl ?_;refine m_ ?_;refine g_ rfl ?_;refine p_ ?_;refine p_ ?_;refine f_ ?_;refine d_ (H_ rfl) rfl ?_;refine d_ (cg_ bv_ rfl) rfl ?_;refine J_ (dI_ rfl rfl) rfl fun r1 hr1=>?_;refine m_ ?_;refine g_ rfl ?_;cases r1
  · skip
    replace hr1:=zdf hr1;try dsimp only[Con.kind,Con.parts,Con.name,Con.lo,Con.hi,Con.cap,Con.ad]at hr1
    refine R_ rfl ?_;refine au_ ?_;refine g_ rfl ?_;refine p_ ?_;refine p_ ?_;refine f_ ?_;refine d_ (H_ rfl) rfl ?_;refine d_ (cg_ bv_ rfl) rfl ?_;refine d_ (H_ rfl) rfl ?_;refine m_ ?_;refine g_ rfl ?_;refine ba_ ?_;refine bR_ [(0,.slice ad l.length cap),(2,.slice none 0 0),(13,.slice ad l.length cap),(14,.int .i64 (l.length:Int)),(15,.int .i64 ((0:Nat):Int))] zl ?_;refine cb_ (ι:={q:Nat // q≤l.length∧∀ y∈l.take q,y.check=0}) (fun i=>[(0,.slice ad l.length cap),(2,.slice none 0 0),(13,.slice ad l.length cap),(14,.int .i64 (l.length:Int)),(15,.int .i64 (i.1:Int))]) (fun _=>_) (fun _=>_) (fun i=>l.length - i.1) ⟨0,by simp⟩ ?_;rintro ⟨i,hk⟩;refine bR_ [(0,.slice ad l.length cap),(2,.slice none 0 0),(13,.slice ad l.length cap),(14,.int .i64 (l.length:Int)),(15,.int .i64 (i:Int))] zl ?_;refine p_ ?_;refine f_ ?_;refine J_ (ca_ rfl rfl) rfl fun r2 hr2=>?_;refine m_ ?_;refine g_ rfl ?_;refine p_ ?_;cases r2
    · skip
      replace hr2:=zdf hr2;try dsimp only[Con.kind,Con.parts,Con.name,Con.lo,Con.hi,Con.cap,Con.ad]at hr2
      obtain rfl:i=l.length:=by omega
      try rw[List.take_length]at hk
      refine R_ rfl ?_;refine dO_ rfl ?_;refine g_ rfl ?_;refine p_ ?_;refine p_ ?_;refine f_ ?_;refine d_ (H_ rfl) rfl ?_;refine d_ (cg_ bv_ rfl) rfl ?_;refine d_ (H_ rfl) rfl ?_;refine m_ ?_;refine g_ rfl ?_;refine ba_ ?_;have hall:=hk.2;refine bR_ [(2,.slice none 0 0),(25,.slice ad l.length cap),(26,.int .i64 (l.length:Int)),(27,.int .i64 ((0:Nat):Int))] zl ?_;refine cb_ (ι:={x:Nat×List Pc×Value×Hp // x.1≤l.length∧bk_ 73 10 x.2.2.1 x.2.1.length (x.2.1.flatMap Pc.cells) x.2.2.2∧x.2.1.length≤16384∧ig_ 0 l []=ig_ x.1 (l.drop x.1) x.2.1}) (fun x=>[(2,x.1.2.2.1),(25,.slice ad l.length cap),(26,.int .i64 (l.length:Int)),(27,.int .i64 (x.1.1:Int))]) (fun x=>x.1.2.2.2) (fun _=>_) (fun x=>l.length - x.1.1) ⟨(0,[],.slice none 0 0,[]),by simp,bk_.nil _ _,by simp,rfl⟩ ?_;clear hk;rintro ⟨⟨i,p,sv,Hr⟩,hk⟩;dsimp only at hk;refine bR_ [(2,sv),(25,.slice ad l.length cap),(26,.int .i64 (l.length:Int)),(27,.int .i64 (i:Int))] zl ?_;refine p_ ?_;refine f_ ?_;refine J_ (ca_ rfl rfl) rfl fun r3 hr3=>?_;refine m_ ?_;refine g_ rfl ?_;refine p_ ?_;cases r3
      · skip
        replace hr3:=zdf hr3;try dsimp only[Con.kind,Con.parts,Con.name,Con.lo,Con.hi,Con.cap,Con.ad]at hr3
        obtain rfl:i=l.length:=by omega
        try rw[List.take_length]at hk
        refine R_ rfl ?_;refine dO_ rfl ?_;refine g_ rfl ?_;refine p_ ?_;refine f_ ?_;refine d_ (H_ rfl) rfl ?_;refine d_ (u_ rfl) rfl ?_;refine d_ (u_ rfl) rfl ?_;refine m_ ?_;refine g_ rfl ?_;refine aA_ ?_;refine dE_ hk.2.1 (F:=[]) (by rw[List.append_nil]) fun ad2 cp2 hsv hc1 hc2=>?_
        have e:bq_ l=(p,0):=by
          unfold bq_;rw[if_neg (by omega),if_neg (by simp[dX_ hall]),hk.2.2.2,List.drop_length];first|done|rfl
        have hy:(bq_ l).1.length≤cp2∧cp2≤maxLen∧(ad2=none→cp2=0):=by rw[e];exact⟨hc1,hc2,bk_.nilcap hk.2.1 hsv⟩
        have hz:Value.tuple #[sv,.int .i64 0]=.tuple #[.slice ad2 (bq_ l).1.length cp2,.int .i64 (bq_ l).2]:=by rw[e,hsv]
        have hw:(p.flatMap Pc.cells)=((bq_ l).1.flatMap Pc.cells):=by rw[e]
        exact mW_ tO_ ⟨(ad2,cp2),hy⟩ rfl rfl hz (.refl _) (fun v _ h=>⟨hw▸h.1,trivial⟩)
      · skip
        replace hr3:=zdt hr3;try dsimp only[Con.kind,Con.parts,Con.name,Con.lo,Con.hi,Con.cap,Con.ad]at hr3
        have hlt:i<l.length:=by omega
        obtain⟨x,hx⟩:∃ x,l[i]? = some x:=⟨_,List.getElem?_eq_getElem hlt⟩;have hxm:x∈l:=List.mem_of_getElem? hx;refine C_ rfl ?_;refine au_ ?_;refine g_ rfl ?_;refine p_ ?_;refine ba_ ?_;refine p_ ?_;have G:=Ax.good_of (hall x hxm);have hpl:=jz_ (i:Int) G;refine f_ ?_;refine d_ (H_ rfl) rfl ?_;refine d_ (ab_ bv_ dx_ rfl rfl (fun v _ h=>O_ (n:=16) Ax.cells_len (by decide) (h.1.1) hx) (by omega) (by first|omega|(simp only[Con.parts];omega)|(simp[Con.parts];done))) rfl ?_;refine d_ (as_ (ad:=ad) (us:=x.cells) iI_ dx_ rfl (fun v _ h=>h.1.1) (Ax.cells_len _) (K_ Ax.cells_len hx)) rfl ?_;refine E_ Tryz.zeroValue58 rfl fun b1=>?_;refine d_ (u_ rfl) rfl ?_;refine mj_ (us:=x.cells) 0 dx_ x.cells_len x.one_cells rfl rfl rfl rfl ?_;refine m_ ?_;refine g_ rfl ?_;refine p_ ?_;refine f_ ?_;refine d_ (H_ rfl) rfl ?_;refine n_ (gO_ (i:Int)) rfl (.refl _) zt rfl fun⟨kb,bm⟩=>?_;refine d_ (u_ rfl) rfl ?_;refine m_ ?_;refine g_ rfl ?_;refine p_ ?_;refine f_ ?_;refine d_ (H_ rfl) rfl ?_;refine d_ (ni_ (us:=x.cells) 2 iI_ dx_ x.cells_len rfl rfl) rfl ?_;refine n_ (wF_ x (hok x hxm) (hall x hxm) (i:Int) ⟨.slice none 0 0,bm,#[],0,[]⟩ ⟨bk_.nil _ _,rfl,by simp⟩) rfl (.refl _) (fun v _ h=>⟨h.1.2 x hxm,h.2.1,trivial⟩) rfl fun y=>?_;obtain⟨⟨sv1,bm1,es1,ck1,Hr1⟩,hq⟩:=y;have hne:=hq.row;dsimp only at hne;have hn0:(x.pieces (i:Int)).length≠0:=fun e=>Ax.pieces_ne _ G (List.eq_nil_of_length_eq_zero e)
        obtain⟨g,cp,cur,rfl,rfl,h3,h4,h5,h6⟩:=hne.some hn0;refine m_ ?_;refine g_ rfl ?_;refine p_ ?_;refine f_ ?_;refine d_ (H_ rfl) rfl ?_;refine d_ (H_ rfl) rfl ?_;refine d_ (cH_ rfl) rfl ?_;refine d_ (I_ aY_ rfl rfl rfl gb_) rfl ?_;refine d_ (ai_ 0 Tryz.isAgg22 rfl rfl rfl) rfl ?_;refine aJ_ uJ_ hk.2.1 rfl rfl (@List.perm_append_comm _ [_,_,_,_] _) (by rw[ej_ Pc.cells 10 Pc.cells_len]) (st_ 2 rfl h6) (fun u hu=>by obtain⟨y,_,hy⟩:=List.mem_flatMap.1 hu;exact jc_ y.cells_one u hy) (by simp only[maxLen];omega) (by omega) rfl fun sv2 Hr2 hrow=>?_;refine S_ (@List.perm_append_comm _ _ [_,_,_,_]) ?_;have hln:∃ ad2 cp2,sv2=.slice ad2 (p.length+(x.pieces (i:Int)).length) cp2:=bk_.form hrow;obtain⟨ad2,cp2,hsv⟩:=hln;refine d_ (u_ rfl) rfl ?_;refine m_ ?_;refine g_ rfl ?_;refine p_ ?_;refine f_ ?_;refine d_ (H_ rfl) rfl ?_;refine d_ (cg_ (ad:=ad2) (len:=p.length+(x.pieces (i:Int)).length) (cap:=cp2) P_ (congrArg some hsv)) rfl ?_;refine J_ (dI_ rfl rfl) rfl fun r4 hr4=>?_;refine m_ ?_;refine g_ rfl ?_;cases r4
        · skip
          replace hr4:=zdf hr4;try dsimp only[Con.kind,Con.parts,Con.name,Con.lo,Con.hi,Con.cap,Con.ad]at hr4
          refine R_ rfl ?_;refine au_ ?_;refine g_ rfl ?_;refine f_ ?_;refine d_ (bc_ rfl rfl rfl (bW_ (by omega) (by omega))) rfl ?_;refine d_ (H_ rfl) rfl ?_;refine m_ ?_;refine aj_ rfl ?_;exact aa_ ⟨(i+1,p++x.pieces (i:Int),sv2,Hr2),hlt,by simpa [List.flatMap_append] using hrow,by simp only[List.length_append];omega,by rw[hk.2.2.2,kv_ hx];simp only[ig_];rw[if_neg (by simp only[List.length_append];omega)]⟩ (by simp;omega) zl (F:=[_,_,_,_]) (@List.perm_append_comm _ [_,_,_,_] _) zh
        · skip
          replace hr4:=zdt hr4;try dsimp only[Con.kind,Con.parts,Con.name,Con.lo,Con.hi,Con.cap,Con.ad]at hr4
          refine C_ rfl ?_;refine p_ ?_;refine f_ ?_;refine d_ (u_ rfl) rfl ?_;refine d_ (u_ rfl) rfl ?_;refine m_ ?_;refine g_ rfl ?_;refine aA_ ?_;have e:bq_ l=([],2):=by unfold bq_;rw[if_neg (by omega),if_neg (by simp[dX_ hall]),hk.2.2.2,kv_ hx];simp only[ig_];rw[if_pos (by simp only[List.length_append];omega)]
          have hy:(bq_ l).1.length≤0∧0≤maxLen∧((none:Option Addr)=none→0=0):=by rw[e];simp
          have hz:Value.tuple #[.slice none 0 0,.int .i64 2]=.tuple #[.slice none (bq_ l).1.length 0,.int .i64 (bq_ l).2]:=by rw[e]<;>rfl
          have hw:(bq_ l).1.flatMap Pc.cells=[]:=by rw[e]<;>rfl
          exact mW_ tO_ ⟨(none,0),hy⟩ rfl rfl hz (.refl _) (fun v _ h=>⟨.inl hw,trivial⟩)
    · skip
      replace hr2:=zdt hr2;try dsimp only[Con.kind,Con.parts,Con.name,Con.lo,Con.hi,Con.cap,Con.ad]at hr2
      have hlt:i<l.length:=by omega
      obtain⟨x,hx⟩:∃ x,l[i]? = some x:=⟨_,List.getElem?_eq_getElem hlt⟩;have hxm:x∈l:=List.mem_of_getElem? hx;refine C_ rfl ?_;refine au_ ?_;refine g_ rfl ?_;refine p_ ?_;refine ba_ ?_;refine p_ ?_;refine f_ ?_;refine d_ (ab_ bv_ dx_ rfl rfl (fun v _ h=>O_ (n:=16) Ax.cells_len (by decide) (h.1.1) hx) (by omega) (by first|omega|(simp only[Con.parts];omega)|(simp[Con.parts];done))) rfl ?_;refine d_ (as_ (ad:=ad) (us:=x.cells) iI_ dx_ rfl (fun v _ h=>h.1.1) (Ax.cells_len _) (K_ Ax.cells_len hx)) rfl ?_;refine E_ Tryz.zeroValue58 rfl fun b2=>?_;refine mj_ (us:=x.cells) 0 dx_ x.cells_len x.one_cells rfl rfl rfl rfl ?_;refine m_ ?_;refine g_ rfl ?_;refine p_ ?_;refine f_ ?_;refine d_ (ni_ (us:=x.cells) 0 iI_ dx_ x.cells_len rfl rfl) rfl ?_;refine n_ (gq_ x (hok x hxm)) rfl (.refl _) (fun v _ h=>⟨h.1.2 x hxm,h.2.1,trivial⟩) rfl fun _=>?_;refine d_ (u_ rfl) rfl ?_;refine m_ ?_;refine g_ rfl ?_;refine p_ ?_;refine f_ ?_;refine d_ (H_ rfl) rfl ?_;refine J_ (cy_ rfl rfl) rfl fun r5 hr5=>?_;refine m_ ?_;refine g_ rfl ?_;cases r5
      · skip
        replace hr5:=eO_ hr5;try dsimp only[Con.kind,Con.parts,Con.name,Con.lo,Con.hi,Con.cap,Con.ad]at hr5
        refine R_ rfl ?_;refine au_ ?_;refine g_ rfl ?_;refine f_ ?_;refine d_ (bc_ rfl rfl rfl (bW_ (by omega) (by omega))) rfl ?_;refine d_ (H_ rfl) rfl ?_;refine m_ ?_;refine aj_ rfl ?_;exact aa_ ⟨i+1,hlt,fun y hy=>by rw[List.take_add_one,hx]at hy;simp only[Option.toList_some,List.mem_append,List.mem_singleton]at hy;rcases hy with hy|rfl;exact hk.2 y hy;assumption⟩ (by simp;omega) zl (@List.perm_append_comm _ [_] _) zh
      · skip
        replace hr5:=eM_ hr5;try dsimp only[Con.kind,Con.parts,Con.name,Con.lo,Con.hi,Con.cap,Con.ad]at hr5
        refine C_ rfl ?_;refine p_ ?_;refine f_ ?_;refine d_ (H_ rfl) rfl ?_;refine d_ (u_ rfl) rfl ?_;refine d_ (u_ rfl) rfl ?_;refine m_ ?_;refine g_ rfl ?_;refine aA_ ?_;have e:bq_ l=([],x.check):=by unfold bq_;rw[if_neg (by omega),qa_ hx hk.2 (by assumption),if_pos (by assumption)]
        have hy:(bq_ l).1.length≤0∧0≤maxLen∧((none:Option Addr)=none→0=0):=by rw[e];simp
        have hz:Value.tuple #[.slice none 0 0,.int .i64 x.check]=.tuple #[.slice none (bq_ l).1.length 0,.int .i64 (bq_ l).2]:=by rw[e]<;>rfl
        have hw:(bq_ l).1.flatMap Pc.cells=[]:=by rw[e]<;>rfl
        exact mW_ tO_ ⟨(none,0),hy⟩ rfl rfl hz (.refl _) (fun v _ h=>⟨.inl hw,trivial⟩)
  · skip
    replace hr1:=zdt hr1;try dsimp only[Con.kind,Con.parts,Con.name,Con.lo,Con.hi,Con.cap,Con.ad]at hr1
    refine C_ rfl ?_;refine p_ ?_;refine f_ ?_;refine d_ (u_ rfl) rfl ?_;refine d_ (u_ rfl) rfl ?_;refine m_ ?_;refine g_ rfl ?_;refine aA_ ?_;have e:bq_ l=([],2):=by unfold bq_;rw[if_pos (by omega)]
    have hy:(bq_ l).1.length≤0∧0≤maxLen∧((none:Option Addr)=none→0=0):=by rw[e];simp
    have hz:Value.tuple #[.slice none 0 0,.int .i64 2]=.tuple #[.slice none (bq_ l).1.length 0,.int .i64 (bq_ l).2]:=by rw[e]<;>rfl
    have hw:(bq_ l).1.flatMap Pc.cells=[]:=by rw[e]<;>rfl
    exact mW_ tO_ ⟨(none,0),hy⟩ rfl rfl hz (.refl _) (fun v _ h=>⟨.inl hw,trivial⟩)
end Go.Proofs.YtaffcjgphlhppaaGreatDoor
namespace Go.Proofs.YtaffcjgphlhppaaGreatDoor
open Go Go.Sx Go.Proofs
attribute [local irreducible] Code.wp wpList wpAnyH
open Go.Vs
theorem ar_ {N:Nf} {fr:Fr} {H:Hp} {Γ:List Fct} {ty t':TypeId} {x y:Operand} {p q:Fc} (hx:Fr.ev fr x=some p.val) (hy:Fr.ev fr y=some q.val):Yld Tryz.prog N fr H Γ (.binOp .eql 24 x y t') ty (.bool (decide (p=q))) :=
  fun a v h1 _ _ _ _ _=>by
    have hg:(Program.eqGuardType Tryz.prog Tryz.prog.depth 24)=false:=by kernel_rfl
    have he:=eqFc p q v.w;simp only[execOp,h1.ev hx,h1.ev hy,eqGuard,Fc.val,binOp,Op.equal,Sem.run_bind,Result.andThen_ok];simp only[run_program,Result.andThen_ok,hg,Bool.not_false,if_true,Sem.run_pure];simp only[Fc.val]at he;simp[Op.maxDepth,he]
theorem gt_ {N:Nf} {fr:Fr} {H:Hp} {Γ:List Fct} {ty t':TypeId} {x y:Operand} {p q:Fc} (hx:Fr.ev fr x=some p.val) (hy:Fr.ev fr y=some q.val):Yld Tryz.prog N fr H Γ (.binOp .neq 24 x y t') ty (.bool (decide (p≠q))) :=
  fun a v h1 _ _ _ _ _=>by
    have hg:(Program.eqGuardType Tryz.prog Tryz.prog.depth 24)=false:=by kernel_rfl
    have he:=eqFc p q v.w;simp only[execOp,h1.ev hx,h1.ev hy,eqGuard,Fc.val,binOp,Op.equal,Sem.run_bind,Result.andThen_ok];simp only[run_program,Result.andThen_ok,hg,Bool.not_false,if_true,Sem.run_pure];simp only[Fc.val]at he;simp[Op.maxDepth,he]
theorem oj_ (s:Str) (c:UInt8):Fn0 Tryz.prog 216 #[str s,str [c]] (.int .i64 (Lib.indexByte s c)) :=
  ii_ (callable Tryz.func216 rfl rfl) fun w=>(Tryz.strings_Index_one ⟨s.toArray⟩ c w).mono (by rintro e w' ⟨rfl,rfl⟩;exact⟨rfl,rfl,rfl,rfl,rfl,Nat.le_refl _⟩)
theorem mV_ (s:Str) (c:UInt8) (k:Nat) (hk:ixS c s=some k):Fn0 Tryz.prog 216 #[str s,str [c]] (.int .i64 (k:Int)):=by
  have h:=oj_ s c;rw[lz_,hk]at h;exact h
theorem tF_ (s:Str) (c:UInt8):Fn0 Tryz.prog 215 #[str s,str [c]] (.int .i64 (ev_ c s:Int)) :=
  ii_ (callable Tryz.func215 rfl rfl) fun w=>(Tryz.strings_Count_one ⟨s.toArray⟩ c w).mono (by rintro e w' ⟨rfl,rfl⟩;exact⟨rfl,rfl,rfl,rfl,rfl,Nat.le_refl _⟩)
theorem ok_H {N:Nf} {v0:Vw} {H0:Hp} {k:Act→World→Prop} {fr:Fr} {H H':Hp} {Γ:List Fct} (e:H=H') (h:Ok N v0 H0 k fr H' Γ):Ok N v0 H0 k fr H Γ:=e▸h
theorem qW_ (s:Str) (c:UInt8) (hs:s.length≤17592186044414):Tri Tryz.prog 185 #[str s,str [c],.int .i64 0,.int .i64 (-1)] [] [] (fun b:Nat=>.slice (some ⟨b,0,none⟩) (bd_ c s).length (bd_ c s).length) (fun _=>[]) (fun b=>[aC_ (some ⟨b,0,none⟩) ((bd_ c s).flatMap by_)]):=by
 have hcl:=kx_ c s;refine w_ Tryz.func185 rfl rfl Tryz.ntmps185 rfl fun v0=>?_;refine Zi 9 (fun hr1=>?_) fun hr1=>?_
 ·refine Zi 9 (fun hr2=>?_) fun hr2=>?_
  ·refine Zi 9 (fun hr3=>?_) fun hr3=>?_
   ·exact absurd (by decide) hr3
   refine Zz 6 ?_;refine n_ (tF_ s c) rfl (.refl _) zt rfl fun _=>Zz 8 ?_
   refine d_ (cj_ V_ rfl) rfl (Zz 1 ?_);refine d_ (bG_ (rl_ rfl rfl) (show _=Value.int .i64 ((ev_ c s+1:Nat):Int) by rw[if_neg (by omega)];rfl)) rfl ?_;refine Zz 6 ?_;refine sx_ (n:=ev_ c s+1) (by':=16) ix_ (z:=.string ⟨#[]⟩) zk rfl rfl rfl (by omega) (by omega) rfl fun b1=>Zz 6 ?_
   refine d_ (bG_ (bc_ rfl rfl rfl (bW_ (by omega) (by omega))) (show _=Value.int .i64 (ev_ c s:Int) by first|rfl|(congr 1;omega))) rfl ?_;refine Zz 10 ?_;refine bR_ [(0,str s),(1,str [c]),(2,.int .i64 0),(3,.int .i64 (ev_ c s:Int)),(9,.slice (some ⟨b1,0,none⟩) (ev_ c s+1) (ev_ c s+1)),(10,.int .i64 ((0:Nat):Int))] zl ?_;refine cb_ (ι:={x:Nat×List Str×Str // x.2.1.length=x.1∧bd_ c s=x.2.1++bd_ c x.2.2∧x.1+ev_ c x.2.2=ev_ c s∧x.2.2.length≤s.length}) (fun x=>[(0,str x.1.2.2),(1,str [c]),(2,.int .i64 0),(3,.int .i64 (ev_ c s:Int)),(9,.slice (some ⟨b1,0,none⟩) (ev_ c s+1) (ev_ c s+1)),(10,.int .i64 (x.1.1:Int))]) (fun x=>[(b1,.cells (x.1.2.1.map str++List.replicate (ev_ c s+1 - x.1.1) (Value.string ⟨#[]⟩)).toArray 9 (0,0))]) (fun _=>_) (fun x=>ev_ c s - x.1.1) ⟨(0,[],s),rfl,rfl,by simp,by simp⟩ ?_;rintro ⟨⟨i,dn,r⟩,hk⟩;dsimp only at hk;obtain⟨hk1,hk2,hk3,hk4⟩:=hk;refine bR_ [(0,str r),(1,str [c]),(2,.int .i64 0),(3,.int .i64 (ev_ c s:Int)),(9,.slice (some ⟨b1,0,none⟩) (ev_ c s+1) (ev_ c s+1)),(10,.int .i64 (i:Int))] zl ?_;have hrep:∀ k,k<ev_ c s+1→List.replicate (ev_ c s+1 - k) (Value.string ⟨#[]⟩)=Value.string ⟨#[]⟩::List.replicate (ev_ c s - k) (Value.string ⟨#[]⟩):=fun k hk=>by rw[show ev_ c s+1 - k=(ev_ c s - k)+1 by omega];rfl
   refine ok_H (H':=[(b1,.cells (dn.map str++Value.string ⟨#[]⟩::List.replicate (ev_ c s - i) (Value.string ⟨#[]⟩)).toArray 9 (0,0))]) (by dsimp only;rw[hrep i (by omega)]) ?_;refine Zi 5 (fun hr4=>?_) fun hr4=>?_
   ·obtain rfl:i=ev_ c s:=by omega
    have hr0 : bd_ c r = [r] := by
                  cases hx:ixS c r with
                  | none=>exact gW_ hx
                  | some k=>have:=nX_ hx;omega
    rw[hr0]at hk2;refine Zz 10 ?_;refine d_ (hq_ D_ X_ rfl rfl (by omega) (by omega)) rfl (mk_ 0 X_ rfl rfl rfl (by simp[hk1]) rfl rfl (Zz 6 ?_));refine d_ (bG_ (bc_ rfl rfl rfl (bW_ (by omega) (by omega))) (show _=Value.int .i64 ((ev_ c s+1:Nat):Int) by first|rfl|(congr 1;omega))) rfl ?_;refine d_ (bG_ (eC_ (i:=0) (j:=ev_ c s+1) (kl:=.i64) (kh:=.i64) D_ X_ rfl rfl rfl (by omega) (by omega)) (show _=Value.slice (some ⟨b1,0,none⟩) (ev_ c s+1) (ev_ c s+1) by rw[tE_];rfl)) rfl ?_;refine Zz 4 ?_;refine bh_ ((bd_ c s).flatMap by_) e_ (by rw[hk2,lO_];simp) ?_;have hl:=er_ c s;exact T_ Tryz.results185 b1 (jg_ rfl (by rw[hl])) (.refl _) zf
   obtain ⟨k, hix⟩ : ∃ k, ixS c r = some k := by
                 cases hx:ixS c r with
                 | none=>have:=sQ_ hx;omega
                 | some k=>exact⟨k,rfl⟩
   have hcs:=nX_ hix;have hkl:=qR_ hix;refine Zz 10 ?_;refine n_ (mV_ r c k hix) rfl (.refl _) zt rfl fun _=>Zi 7 (fun hr5=>?_) fun hr5=>?_
   ·refine Zz 12 ?_
    refine d_ (bG_ (bc_ rfl rfl rfl (bW_ (by omega) (by omega))) (show _=Value.int .i64 (k:Int) by first|rfl|(congr 1;omega))) rfl ?_;refine d_ (bG_ (fH_ (i:=0) (j:=k) (kl:=.i64) (kh:=.i64) V_ rfl rfl rfl (by omega) (by omega)) (show _=str (r.take k) by simp)) rfl (d_ (hq_ D_ X_ rfl rfl (by omega) (by omega)) rfl (mk_ 0 X_ rfl rfl rfl (by simp[hk1]) rfl rfl (Zz 7 ?_)));refine d_ (cj_ V_ rfl) rfl (d_ (bG_ (bc_ rfl rfl rfl (bW_ (by simp only[List.length_cons,List.length_nil];omega) (by simp only[List.length_cons,List.length_nil];omega))) (show _=Value.int .i64 ((k+1:Nat):Int) by first|rfl|(congr 1;omega))) rfl ?_);refine d_ (bG_ (fH_ (i:=k+1) (j:=r.length) (kl:=.i64) (kh:=.i64) V_ rfl rfl rfl (by omega) (by omega)) (show _=str (r.drop (k+1)) by rw[List.take_of_length_le (by simp)])) rfl (Zz 5 ?_);refine d_ (bG_ (bc_ rfl rfl rfl (bW_ (by omega) (by omega))) (show _=Value.int .i64 ((i+1:Nat):Int) by first|rfl|(congr 1;omega))) rfl ?_;refine Zz 3 ?_;exact aa_ ⟨(i+1,dn++[r.take k],r.drop (k+1)),by simp[hk1],by rw[hk2,iy_ hix,List.append_assoc];rfl,by dsimp only;omega,by simp;omega⟩ (by dsimp only;omega) zl (F:=[]) (List.Perm.of_eq (by simp[show ev_ c s+1 - (i+1)=ev_ c s - i by omega])) zh
   exfalso;omega
  cases hr2
 exact absurd hr1 (by decide)
theorem ru_ (s:Str) (c:UInt8) (hs:s.length≤17592186044414):Tri Tryz.prog 156 #[str s,str [c]] [] [] (fun b:Nat=>.slice (some ⟨b,0,none⟩) (bd_ c s).length (bd_ c s).length) (fun _=>[]) (fun b=>[aC_ (some ⟨b,0,none⟩) ((bd_ c s).flatMap by_)]):=by
  refine w_ Tryz.func156 rfl rfl Tryz.ntmps156 rfl fun v0=>?_;refine Zz 9 ?_;refine n_ (qW_ s c hs) rfl (.refl _) zt rfl fun b=>Zz 4 ?_
  exact T_ Tryz.results156 b rfl (.refl _) zf
end Go.Proofs.YtaffcjgphlhppaaGreatDoor
namespace Go.Proofs.YtaffcjgphlhppaaGreatDoor
open Go Go.Sx Go.Proofs
attribute [local irreducible] Code.wp wpList wpAnyH
open Go.Vs
theorem oA_ {g:FuncId} {pred:Str→Bool} (xs:List Str) (ad:Option Addr) (cap:Nat) (hlen:xs.length≤17592186044415) (hT:∀ x∈xs,Fn0 Tryz.prog g #[str x] (.bool (pred x))) :
    Tri Tryz.prog 186 #[.slice ad (List.length xs) cap,.func (.func g) #[] #[]] [] [aC_ ad (List.flatMap by_ xs)] (fun r:{r:Int // decide (0≤r)=xs.any pred}=>.int .i64 r.1) (fun _=>[]) (fun _=>[]):=by
  refine w_ Tryz.func186 rfl rfl Tryz.ntmps186 rfl fun v0=>?_;refine Zz 14 ?_;refine bR_ [(0,.slice ad (List.length xs) cap),(1,.func (.func g) #[] #[]),(7,.int .i64 (List.length xs:Int)),(8,.int .i64 ((0:Nat):Int))] zl ?_;refine cb_ (ι:={q:Nat // q≤xs.length∧(xs.take q).any pred=false}) (fun i=>[(0,.slice ad (List.length xs) cap),(1,.func (.func g) #[] #[]),(7,.int .i64 (List.length xs:Int)),(8,.int .i64 (i.1:Int))]) (fun _=>_) (fun _=>_) (fun i=>xs.length - i.1) ⟨0,by simp⟩ ?_;rintro ⟨i,hk⟩;refine bR_ [(0,.slice ad (List.length xs) cap),(1,.func (.func g) #[] #[]),(7,.int .i64 (List.length xs:Int)),(8,.int .i64 (i:Int))] zl ?_;refine Zi 2 (fun hr1=>?_) fun hr1=>?_
  · skip
    refine Zz 12 ?_;exact T_ Tryz.results186 ⟨-1,by have:=hk.2;rw[List.take_of_length_le (by omega)]at this;show _=xs.any pred;rw[this];rfl⟩ rfl (.refl _) zt
  · skip
    obtain⟨hlx1,x1,hx1,hmx1⟩:=zge (show i<List.length xs by omega);refine Zz 21 ?_;refine cd_ (hT x1 hmx1) rfl rfl j_ zt rfl fun r2 hr2=>Zz 2 ?_
    cases r2
    · skip
      refine Zz 8 ?_;exact aa_ ⟨i+1,hlx1,by rw[List.take_add_one,hx1];simp only[Option.toList_some,List.any_append,hk.2];simp[*]⟩ (by simp;omega) zl (.refl _) zh
    · skip
      refine Zz 8 ?_;exact T_ Tryz.results186 ⟨(i:Int),by show _=xs.any pred;rw[show xs.any pred=true from List.any_eq_true.2 ⟨x1,hmx1,by assumption⟩];exact decide_eq_true (by omega)⟩ rfl (.refl _) zt
theorem lt_ {g:FuncId} {pred:Str→Bool} (xs:List Str) (ad:Option Addr) (cap:Nat) (hlen:xs.length≤17592186044415) (hT:∀ x∈xs,Fn0 Tryz.prog g #[str x] (.bool (pred x))) :
    Tri Tryz.prog 157 #[.slice ad (List.length xs) cap,.func (.func g) #[] #[]] [] [aC_ ad (List.flatMap by_ xs)] (fun _:Unit=>.bool (xs.any pred)) (fun _=>[]) (fun _=>[]):=by
  refine w_ Tryz.func157 rfl rfl Tryz.ntmps157 rfl fun v0=>?_;refine Zz 9 ?_;refine n_ (oA_ xs ad cap hlen hT) rfl j_ zf rfl fun x=>J_ (hR_ rfl rfl) rfl fun r1 hr1=>Zz 4 ?_
  exact T_ Tryz.results157 () (l_ rfl (hr1.symm.trans x.2)) (.refl _) zt
theorem sH_ (s:Str) (hs:s.length≤140737488351232):Fn0 Tryz.prog 158 #[str s] (.bool (!bb_ s)):=by
  refine w_ Tryz.func158 rfl rfl Tryz.ntmps158 rfl fun v0=>?_;refine Zz 8 ?_;refine ak_ (eU_ s hs) rfl j_ zt rfl fun r1 hr1=>d_ (bn_ rfl) rfl (Zz 4 ?_)
  exact T_ Tryz.results158 () (l_ rfl (by simp[*])) (.refl _) zt
theorem gD_ {c:UInt8}:∀ {s x:Str},x∈bd_ c s→x.length≤s.length
 | [],x,h=>by simp[bd_]at h;simp[h]
 | b::s,x,h=>by
   simp only[bd_]at h
   split at h
   · rcases List.mem_cons.1 h with rfl|h
     · simp
     · have:=gD_ h;simp only[List.length_cons];omega
   · cases hs:bd_ c s with
     | nil=>exact absurd hs (kC_ c s)
     | cons y t =>
       rw[hs]at h;rcases List.mem_cons.1 h with rfl|h
       · have:=gD_ (c:=c) (s:=s) (x:=y) (by rw[hs];simp);simp only[List.length_cons];omega
       · have:=gD_ (c:=c) (s:=s) (x:=x) (by rw[hs];simp[h]);simp only[List.length_cons];omega
theorem iH_ (s:Str) (hs:s.length≤17592186044414):Fn0 Tryz.prog 84 #[str s] (.bool (cp_ s)):=by
 refine w_ Tryz.func84 rfl rfl Tryz.ntmps84 rfl fun v0=>?_;have hsl:=er_ 46 s;have hcl:=kx_ 46 s;refine Zz 8 ?_;refine n_ (ru_ s 46 hs) rfl j_ zt rfl fun b=>Zi 7 (fun hr1=>?_) fun hr1=>?_
 ·refine Zz 9 ?_
  exact T_ Tryz.results84 () (l_ rfl (by unfold cp_;subst_vars;rw[Bool.eq_iff_iff];simp_all<;>omega)) (.refl _) zt
 refine Zz 4 ?_;refine ak_ (lt_ (pred:=fun r=>!bb_ r) (bd_ 46 s) _ _ (by omega) (fun x hx=>sH_ x (by have:=gD_ hx;omega))) rfl j_ zf rfl fun r2 hr2=>?_;refine Y_ rfl rfl (d_ (bn_ rfl) rfl (Zz 5 ?_));exact T_ Tryz.results84 () (l_ rfl (by unfold cp_;subst_vars;rw[Bool.eq_iff_iff];simp_all<;>omega)) (.refl _) zt
theorem hA_ (s:Str) (hs:s.length≤140737488351232):Fn0 Tryz.prog 86 #[str s] (.bool (aR_ s)):=by
 refine w_ Tryz.func86 rfl rfl Tryz.ntmps86 rfl fun v0=>?_;refine Zz 8 ?_;refine d_ (cj_ V_ rfl) rfl (Zi 8 (fun hr1=>?_) fun hr1=>?_)
 ·refine Zi 4 (fun hr2=>?_) fun hr2=>?_
  ·refine Zi 8 (fun hr3=>?_) fun hr3=>?_
   ·refine Zi 19 (fun hr4=>?_) fun hr4=>?_
    ·refine Zz 21 ?_
     refine ak_ (eU_ _ (by first|exact hs|(simp;omega))) rfl j_ zt rfl fun r5 hr5=>?_;refine Zz 4 ?_;exact T_ dA_ () (l_ rfl (by unfold aR_;(repeat (any_goals split))<;>first|rfl|(simp_all;done)|(exfalso;simp_all;omega)|(exfalso;simp_all;done))) (.refl _) zt
    exfalso;omega
   obtain⟨c,hc⟩:∃ c,s[0]? = some c:=⟨_,List.getElem?_eq_getElem (by omega)⟩;obtain⟨e,he⟩:∃ e,s[s.length - 1]? = some e:=⟨_,List.getElem?_eq_getElem (by omega)⟩
   have hc123 : (s[0]? = some 123) ↔ ((c.toNat : Int) = 123) := by
                       rw[hc];simp only[Option.some.injEq];exact⟨fun q=>by subst q;rfl,fun q=>UInt8.toNat_inj.1 (by show c.toNat=123;omega)⟩
   have he125 : (s[s.length - 1]? = some 125) ↔ ((e.toNat : Int) = 125) := by
                       rw[he];simp only[Option.some.injEq];exact⟨fun q=>by subst q;rfl,fun q=>UInt8.toNat_inj.1 (by show e.toNat=125;omega)⟩
   have hc60 : (s[0]? = some 60) ↔ ((c.toNat : Int) = 60) := by
                       rw[hc];simp only[Option.some.injEq];exact⟨fun q=>by subst q;rfl,fun q=>UInt8.toNat_inj.1 (by show c.toNat=60;omega)⟩
   have he62 : (s[s.length - 1]? = some 62) ↔ ((e.toNat : Int) = 62) := by
                       rw[he];simp only[Option.some.injEq];exact⟨fun q=>by subst q;rfl,fun q=>UInt8.toNat_inj.1 (by show e.toNat=62;omega)⟩
   refine Zz 4 ?_;refine d_ (cA_ V_ rfl rfl (by decide) hc) rfl (Y_ rfl rfl ?_);refine Zi 0 (fun hr6=>?_) fun hr6=>?_
   ·refine Zi 15 (fun hr7=>?_) fun hr7=>?_
    ·refine Zz 21 ?_
     refine ak_ (eU_ _ (by first|exact hs|(simp;omega))) rfl j_ zt rfl fun r8 hr8=>?_;refine Zz 4 ?_;exact T_ dA_ () (l_ rfl (by unfold aR_;(repeat (any_goals split))<;>first|rfl|(simp_all;done)|(exfalso;simp_all;omega)|(exfalso;simp_all;done))) (.refl _) zt
    refine Zz 4 ?_;refine d_ (cA_ V_ rfl rfl (by decide) hc) rfl (Y_ rfl rfl ?_);refine Zi 0 (fun hr9=>?_) fun hr9=>?_
    ·refine Zz 17 ?_
     refine ak_ (eU_ _ (by first|exact hs|(simp;omega))) rfl j_ zt rfl fun r10 hr10=>?_;refine Zz 4 ?_;exact T_ dA_ () (l_ rfl (by unfold aR_;(repeat (any_goals split))<;>first|rfl|(simp_all;done)|(exfalso;simp_all;omega)|(exfalso;simp_all;done))) (.refl _) zt
    refine Zz 9 ?_;refine d_ (cA_ V_ rfl rfl (by omega) (show s[((s.length:Int) - 1).toNat]? = some e by rw[show ((s.length:Int) - 1).toNat=s.length - 1 by omega];exact he)) rfl ?_;refine Y_ rfl rfl ?_;refine Zi 0 (fun hr11=>?_) fun hr11=>?_
    ·refine Zz 10 ?_
     refine ak_ (eU_ _ (by first|exact hs|(simp;omega))) rfl j_ zt rfl fun r12 hr12=>?_;refine Zz 4 ?_;exact T_ dA_ () (l_ rfl (by unfold aR_;(repeat (any_goals split))<;>first|rfl|(simp_all;done)|(exfalso;simp_all;omega)|(exfalso;simp_all;done))) (.refl _) zt
    refine Zz 11 ?_;exact T_ dA_ () (l_ rfl (by unfold aR_;(repeat (any_goals split))<;>first|rfl|(simp_all;done)|(exfalso;simp_all;omega)|(exfalso;simp_all;done))) (.refl _) zt
   refine Zz 9 ?_;refine d_ (cA_ V_ rfl rfl (by omega) (show s[((s.length:Int) - 1).toNat]? = some e by rw[show ((s.length:Int) - 1).toNat=s.length - 1 by omega];exact he)) rfl ?_;refine Y_ rfl rfl ?_;refine Zi 0 (fun hr13=>?_) fun hr13=>?_
   ·refine Zi 8 (fun hr14=>?_) fun hr14=>?_
    ·refine Zz 21 ?_
     refine ak_ (eU_ _ (by first|exact hs|(simp;omega))) rfl j_ zt rfl fun r15 hr15=>?_;refine Zz 4 ?_;exact T_ dA_ () (l_ rfl (by unfold aR_;(repeat (any_goals split))<;>first|rfl|(simp_all;done)|(exfalso;simp_all;omega)|(exfalso;simp_all;done))) (.refl _) zt
    refine Zz 4 ?_;refine d_ (cA_ V_ rfl rfl (by decide) hc) rfl (Y_ rfl rfl ?_);refine Zi 0 (fun hr16=>?_) fun hr16=>?_
    ·refine Zz 17 ?_
     refine ak_ (eU_ _ (by first|exact hs|(simp;omega))) rfl j_ zt rfl fun r17 hr17=>?_;refine Zz 4 ?_;exact T_ dA_ () (l_ rfl (by unfold aR_;(repeat (any_goals split))<;>first|rfl|(simp_all;done)|(exfalso;simp_all;omega)|(exfalso;simp_all;done))) (.refl _) zt
    refine Zz 9 ?_;refine d_ (cA_ V_ rfl rfl (by omega) (show s[((s.length:Int) - 1).toNat]? = some e by rw[show ((s.length:Int) - 1).toNat=s.length - 1 by omega];exact he)) rfl ?_;refine Y_ rfl rfl ?_;refine Zi 0 (fun hr18=>?_) fun hr18=>?_
    ·refine Zz 10 ?_
     refine ak_ (eU_ _ (by first|exact hs|(simp;omega))) rfl j_ zt rfl fun r19 hr19=>?_;refine Zz 4 ?_;exact T_ dA_ () (l_ rfl (by unfold aR_;(repeat (any_goals split))<;>first|rfl|(simp_all;done)|(exfalso;simp_all;omega)|(exfalso;simp_all;done))) (.refl _) zt
    refine Zz 11 ?_;exact T_ dA_ () (l_ rfl (by unfold aR_;(repeat (any_goals split))<;>first|rfl|(simp_all;done)|(exfalso;simp_all;omega)|(exfalso;simp_all;done))) (.refl _) zt
   refine Zz 10 ?_;refine d_ (fH_ (i:=1) (j:=s.length - 1) (kl:=.i64) (kh:=.i64) V_ rfl rfl (show _=some (Value.int .i64 ((s.length - 1:Nat):Int)) by rw[show ((s.length - 1:Nat):Int)=(s.length:Int) - 1 by omega];rfl) (by omega) (by omega)) rfl ?_;refine ak_ (eU_ _ (by first|exact hs|(simp;omega))) rfl j_ zt rfl fun r20 hr20=>?_;refine Zz 4 ?_;exact T_ dA_ () (l_ rfl (by unfold aR_;(repeat (any_goals split))<;>first|rfl|(simp_all;done)|(exfalso;simp_all;omega)|(exfalso;simp_all;done))) (.refl _) zt
  refine Zz 11 ?_;exact T_ dA_ () (l_ rfl (by unfold aR_;(repeat (any_goals split))<;>first|rfl|(simp_all;done)|(exfalso;simp_all;omega)|(exfalso;simp_all;done))) (.refl _) zt
 refine Zz 14 ?_;exact T_ dA_ () (l_ rfl (by unfold aR_;(repeat (any_goals split))<;>first|rfl|(simp_all;done)|(exfalso;simp_all;omega)|(exfalso;simp_all;done))) (.refl _) zt
end Go.Proofs.YtaffcjgphlhppaaGreatDoor
namespace Go.Proofs.YtaffcjgphlhppaaGreatDoor
open Go Go.Sx Go.Proofs
attribute [local irreducible] Code.wp wpList wpAnyH
open Go.Vs
theorem fb_ {g:FuncId} (used:Bool) (s:Str) (q:Str→Bool) (hT:Fn0 Tryz.prog g #[str s] (.bool (q s))):Fn0 Tryz.prog 83 #[.bool used,str s,.func (.func g) #[] #[]] (.bool (cs_ used s q)):=by
 refine w_ Tryz.func83 rfl rfl Tryz.ntmps83 rfl fun v0=>?_;refine Zz 9 ?_;cases used
 ·refine Zz 8 ?_
  refine d_ (bn_ rfl) rfl (Zz 5 ?_);refine J_ (fT_ rfl rfl) rfl fun r1 hr1=>Zz 7 ?_
  exact T_ Tryz.results83 () (l_ rfl (by unfold cs_;subst_vars;rw[Bool.eq_iff_iff];simp_all)) (.refl _) zt
 refine Zz 5 ?_;refine cd_ (hT) rfl rfl j_ zt rfl fun r2 hr2=>Zz 2 ?_
 cases r2
 ·refine Zz 3 ?_
  refine d_ (bn_ rfl) rfl (Zz 11 ?_);exact T_ Tryz.results83 () (l_ rfl (by unfold cs_;subst_vars;rw[Bool.eq_iff_iff];simp_all)) (.refl _) zt
 refine Zz 11 ?_;exact T_ Tryz.results83 () (l_ rfl (by unfold cs_;subst_vars;rw[Bool.eq_iff_iff];simp_all)) (.refl _) zt
theorem sG_ (p:Pc) (hp:p.sm):Tri Tryz.prog 35 #[Pc.val p] [] [iu_] (fun _:Unit=>.bool p.valid) (fun _=>[]) (fun _=>[]):=by
 refine w_ Tryz.func35 rfl rfl Tryz.ntmps35 rfl fun v0=>?_;obtain⟨ha,hb,hc,hr,hs,ht⟩:=hp;refine Zz 2 ?_;refine ah_ rfl rfl fun b1=>Zz 8 ?_
 refine J_ (ca_ rfl rfl) rfl fun r1 hr1=>Zz 1 ?_
 refine aT_ 4 ((decide (p.kind<1))||(decide (9<p.kind))) (fun r=>[(1,zp_ b1 0),(2,.bool false),(13,.bool r)]) ?_ fun r2 hr2=>?_
 ·cases r1
  ·have qr2:=hr1
   replace hr1:=zdf hr1;refine Zz 5 ?_;refine J_ (dI_ rfl rfl) rfl fun r3 hr3=>Zz 3 ?_
   exact met ⟨rfl,rfl,(l_ rfl (jof qr2 hr3)),trivial⟩
  have qr2:=hr1;replace hr1:=zdt hr1;refine Zz 6 ?_;exact met ⟨rfl,rfl,(l_ rfl (jot qr2)),trivial⟩
 refine Zz 1 ?_;refine aT_ 4 ((((decide (p.kind<1))||(decide (9<p.kind))))||(decide (p.frm<(-1)))) (fun r=>[(1,zp_ b1 0),(2,.bool false),(18,.bool r)]) ?_ fun r4 hr4=>?_
 ·cases r2
  ·have qr4:=hr2
   simp at hr2
   refine Zz 5 ?_;refine J_ (ca_ rfl rfl) rfl fun r5 hr5=>Zz 3 ?_
   exact met ⟨rfl,rfl,(l_ rfl (jof qr4 hr5)),trivial⟩
  have qr4:=hr2;simp at hr2
  refine Zz 6 ?_;exact met ⟨rfl,rfl,(l_ rfl (jot qr4)),trivial⟩
 refine Zz 1 ?_;refine aT_ 4 ((((((decide (p.kind<1))||(decide (9<p.kind))))||(decide (p.frm<(-1)))))||(decide (1024≤p.frm))) (fun r=>[(1,zp_ b1 0),(2,.bool false),(23,.bool r)]) ?_ fun r6 hr6=>?_
 ·cases r4
  ·have qr6:=hr4
   simp at hr4
   refine Zz 5 ?_;refine J_ (hR_ rfl rfl) rfl fun r7 hr7=>Zz 3 ?_
   exact met ⟨rfl,rfl,(l_ rfl (jof qr6 hr7)),trivial⟩
  have qr6:=hr4;simp at hr4
  refine Zz 6 ?_;exact met ⟨rfl,rfl,(l_ rfl (jot qr6)),trivial⟩
 refine Zz 2 ?_;cases r6
 ·simp at hr6
  obtain⟨u,hx⟩:∃ u,gN_[p.kind.toNat]? = some u:=⟨_,List.getElem?_eq_getElem (show p.kind.toNat<10 by omega)⟩;have hus:nus p.kind=u:=by simp[nus,hx]
  obtain⟨ua,ub,uc,ur,us,ut,un⟩:=u;refine Zz 7 ?_;refine d_ (eE_ Tryz.runUnderlying151 Tryz.sizeOf150 rfl rfl (by show (0:Int)≤p.kind;omega) (by show p.kind<(10:Int);omega)) rfl ?_;refine d_ (as_ (ad:=some ⟨1,0,none⟩) (us:=NUse.cells ⟨ua,ub,uc,ur,us,ut,un⟩) Tryz.isAgg150 Tryz.sizeOf150 rfl (fun v _ h=>h.1) (NUse.cells_len _) (K_ NUse.cells_len hx)) rfl (E_ Tryz.zeroValue150 rfl fun b2=>z_ 0 Tryz.sizeOf150 rfl rfl rfl rfl rfl rfl (Zz 19 ?_));cases un
  ·refine Zz 5 ?_
   refine J_ (cy_ rfl rfl) rfl fun r8 hr8=>Zz 1 ?_
   refine aT_ 4 ((p.lo != 0)||(p.hi != 0)) (fun r=>[(1,zp_ b1 0),(2,.bool false),(3,zp_ b2 0),(4,.func (.func 83) #[] #[]),(5,.func (.func 84) #[] #[]),(52,.bool r)]) ?_ fun r9 hr9=>?_
   ·cases r8
    ·have qr9:=hr8
     replace hr8:=eO_ hr8;refine Zz 5 ?_;refine J_ (cy_ rfl rfl) rfl fun r10 hr10=>Zz 3 ?_
     exact met ⟨rfl,rfl,rfl,rfl,rfl,(l_ rfl (jof qr9 hr10)),trivial⟩
    have qr9:=hr8;replace hr8:=eM_ hr8;refine Zz 6 ?_;exact met ⟨rfl,rfl,rfl,rfl,rfl,(l_ rfl (jot qr9)),trivial⟩
   refine Zz 2 ?_;cases r9
   ·simp at hr9
    refine Zz 10 ?_;refine cd_ (fb_ ua p.a aR_ (hA_ _ (by omega))) rfl rfl j_ zt rfl fun r11 hr11=>Zz 1 ?_
    refine aT_ 7 ((cs_ ua p.a aR_)&&(cs_ ub p.b aR_)) (fun r=>[(1,zp_ b1 0),(2,.bool false),(3,zp_ b2 0),(4,.func (.func 83) #[] #[]),(5,.func (.func 84) #[] #[]),(66,.bool r)]) ?_ fun r12 hr12=>?_
    ·cases r11
     ·have qr12:=hr11
      refine Zz 9 ?_;exact met ⟨rfl,rfl,rfl,rfl,rfl,(l_ rfl (jaf qr12)),trivial⟩
     have qr12:=hr11;refine Zz 11 ?_;refine cd_ (fb_ ub p.b aR_ (hA_ _ (by omega))) rfl rfl j_ zt rfl fun r13 hr13=>Zz 3 ?_
     exact met ⟨rfl,rfl,rfl,rfl,rfl,(l_ rfl (jat qr12 hr13)),trivial⟩
    refine Zz 1 ?_;refine aT_ 7 ((((cs_ ua p.a aR_)&&(cs_ ub p.b aR_)))&&(cs_ uc p.c aR_)) (fun r=>[(1,zp_ b1 0),(2,.bool false),(3,zp_ b2 0),(4,.func (.func 83) #[] #[]),(5,.func (.func 84) #[] #[]),(74,.bool r)]) ?_ fun r14 hr14=>?_
    ·cases r12
     ·have qr14:=hr12
      simp at hr12
      refine Zz 9 ?_;exact met ⟨rfl,rfl,rfl,rfl,rfl,(l_ rfl (jaf qr14)),trivial⟩
     have qr14:=hr12;simp at hr12
     refine Zz 11 ?_;refine cd_ (fb_ uc p.c aR_ (hA_ _ (by omega))) rfl rfl j_ zt rfl fun r15 hr15=>Zz 3 ?_
     exact met ⟨rfl,rfl,rfl,rfl,rfl,(l_ rfl (jat qr14 hr15)),trivial⟩
    refine Zz 1 ?_;refine aT_ 8 ((((((cs_ ua p.a aR_)&&(cs_ ub p.b aR_)))&&(cs_ uc p.c aR_)))&&(cs_ ur p.r cp_)) (fun r=>[(1,zp_ b1 0),(2,.bool false),(3,zp_ b2 0),(4,.func (.func 83) #[] #[]),(83,.bool r)]) ?_ fun r16 hr16=>?_
    ·cases r14
     ·have qr16:=hr14
      simp at hr14
      refine Zz 10 ?_;exact met ⟨rfl,rfl,rfl,rfl,(l_ rfl (jaf qr16)),trivial⟩
     have qr16:=hr14;simp at hr14
     refine Zz 13 ?_;refine cd_ (fb_ ur p.r cp_ (iH_ _ (by omega))) rfl rfl j_ zt rfl fun r17 hr17=>Zz 3 ?_
     exact met ⟨rfl,rfl,rfl,rfl,(l_ rfl (jat qr16 hr17)),trivial⟩
    refine Zz 1 ?_;refine aT_ 7 ((((((((cs_ ua p.a aR_)&&(cs_ ub p.b aR_)))&&(cs_ uc p.c aR_)))&&(cs_ ur p.r cp_)))&&(cs_ us p.s cp_)) (fun r=>[(1,zp_ b1 0),(2,.bool false),(3,zp_ b2 0),(4,.func (.func 83) #[] #[]),(91,.bool r)]) ?_ fun r18 hr18=>?_
    ·cases r16
     ·have qr18:=hr16
      simp at hr16
      refine Zz 9 ?_;exact met ⟨rfl,rfl,rfl,rfl,(l_ rfl (jaf qr18)),trivial⟩
     have qr18:=hr16;simp at hr16
     refine Zz 11 ?_;refine cd_ (fb_ us p.s cp_ (iH_ _ (by omega))) rfl rfl j_ zt rfl fun r19 hr19=>Zz 3 ?_
     exact met ⟨rfl,rfl,rfl,rfl,(l_ rfl (jat qr18 hr19)),trivial⟩
    refine Zz 1 ?_;refine aT_ 7 ((((((((((cs_ ua p.a aR_)&&(cs_ ub p.b aR_)))&&(cs_ uc p.c aR_)))&&(cs_ ur p.r cp_)))&&(cs_ us p.s cp_)))&&(cs_ ut p.t cp_)) (fun r=>[(2,.bool false),(99,.bool r)]) ?_ fun r20 hr20=>?_
    ·cases r18
     ·have qr20:=hr18
      simp at hr18
      refine Zz 9 ?_;exact met ⟨rfl,(l_ rfl (jaf qr20)),trivial⟩
     have qr20:=hr18;simp at hr18
     refine Zz 11 ?_;refine cd_ (fb_ ut p.t cp_ (iH_ _ (by omega))) rfl rfl j_ zt rfl fun r21 hr21=>Zz 3 ?_
     exact met ⟨rfl,(l_ rfl (jat qr20 hr21)),trivial⟩
    refine Zz 4 ?_;exact T_ tN_ () (l_ rfl (by unfold Pc.valid;rw[if_neg (by omega)];simp only[hus];rw[if_neg (by simp<;>omega),if_neg (by simp<;>omega)];exact hr20.symm)) (.refl _) zt
   simp at hr9
   refine Zz 7 ?_;exact T_ tN_ () (l_ rfl (by unfold Pc.valid;rw[if_neg (by omega)];simp only[hus];first|(rw[if_pos (by first|(simp;omega)|omega)])|(rw[if_neg (by simp),if_pos (by simp;omega)]))) (.refl _) zt
  refine Zz 10 ?_;refine J_ (ca_ rfl rfl) rfl fun r22 hr22=>Zz 1 ?_
  refine aT_ 6 ((decide (p.lo<(-1099511627776)))||(decide (p.hi<p.lo))) (fun r=>[(1,zp_ b1 0),(2,.bool false),(3,zp_ b2 0),(4,.func (.func 83) #[] #[]),(5,.func (.func 85) #[] #[]),(39,.bool r)]) ?_ fun r23 hr23=>?_
  ·cases r22
   ·have qr23:=hr22
    replace hr22:=zdf hr22;refine Zz 9 ?_;refine J_ (dI_ rfl rfl) rfl fun r24 hr24=>Zz 3 ?_
    exact met ⟨rfl,rfl,rfl,rfl,rfl,(l_ rfl (jof qr23 hr24)),trivial⟩
   have qr23:=hr22;replace hr22:=zdt hr22;refine Zz 8 ?_;exact met ⟨rfl,rfl,rfl,rfl,rfl,(l_ rfl (jot qr23)),trivial⟩
  refine Zz 1 ?_;refine aT_ 4 ((((decide (p.lo<(-1099511627776)))||(decide (p.hi<p.lo))))||(decide (1099511627776<p.hi))) (fun r=>[(1,zp_ b1 0),(2,.bool false),(3,zp_ b2 0),(4,.func (.func 83) #[] #[]),(5,.func (.func 85) #[] #[]),(44,.bool r)]) ?_ fun r25 hr25=>?_
  ·cases r23
   ·have qr25:=hr23
    simp at hr23
    refine Zz 5 ?_;refine J_ (dI_ rfl rfl) rfl fun r26 hr26=>Zz 3 ?_
    exact met ⟨rfl,rfl,rfl,rfl,rfl,(l_ rfl (jof qr25 hr26)),trivial⟩
   have qr25:=hr23;simp at hr23
   refine Zz 6 ?_;exact met ⟨rfl,rfl,rfl,rfl,rfl,(l_ rfl (jot qr25)),trivial⟩
  refine Zz 2 ?_;cases r25
  ·simp at hr25
   refine Zz 10 ?_;refine cd_ (fb_ ua p.a aR_ (hA_ _ (by omega))) rfl rfl j_ zt rfl fun r27 hr27=>Zz 1 ?_
   refine aT_ 7 ((cs_ ua p.a aR_)&&(cs_ ub p.b aR_)) (fun r=>[(1,zp_ b1 0),(2,.bool false),(3,zp_ b2 0),(4,.func (.func 83) #[] #[]),(5,.func (.func 85) #[] #[]),(66,.bool r)]) ?_ fun r28 hr28=>?_
   ·cases r27
    ·have qr28:=hr27
     refine Zz 9 ?_;exact met ⟨rfl,rfl,rfl,rfl,rfl,(l_ rfl (jaf qr28)),trivial⟩
    have qr28:=hr27;refine Zz 11 ?_;refine cd_ (fb_ ub p.b aR_ (hA_ _ (by omega))) rfl rfl j_ zt rfl fun r29 hr29=>Zz 3 ?_
    exact met ⟨rfl,rfl,rfl,rfl,rfl,(l_ rfl (jat qr28 hr29)),trivial⟩
   refine Zz 1 ?_;refine aT_ 7 ((((cs_ ua p.a aR_)&&(cs_ ub p.b aR_)))&&(cs_ uc p.c aR_)) (fun r=>[(1,zp_ b1 0),(2,.bool false),(3,zp_ b2 0),(4,.func (.func 83) #[] #[]),(5,.func (.func 85) #[] #[]),(74,.bool r)]) ?_ fun r30 hr30=>?_
   ·cases r28
    ·have qr30:=hr28
     simp at hr28
     refine Zz 9 ?_;exact met ⟨rfl,rfl,rfl,rfl,rfl,(l_ rfl (jaf qr30)),trivial⟩
    have qr30:=hr28;simp at hr28
    refine Zz 11 ?_;refine cd_ (fb_ uc p.c aR_ (hA_ _ (by omega))) rfl rfl j_ zt rfl fun r31 hr31=>Zz 3 ?_
    exact met ⟨rfl,rfl,rfl,rfl,rfl,(l_ rfl (jat qr30 hr31)),trivial⟩
   refine Zz 1 ?_;refine aT_ 8 ((((((cs_ ua p.a aR_)&&(cs_ ub p.b aR_)))&&(cs_ uc p.c aR_)))&&(cs_ ur p.r bb_)) (fun r=>[(1,zp_ b1 0),(2,.bool false),(3,zp_ b2 0),(4,.func (.func 83) #[] #[]),(83,.bool r)]) ?_ fun r32 hr32=>?_
   ·cases r30
    ·have qr32:=hr30
     simp at hr30
     refine Zz 10 ?_;exact met ⟨rfl,rfl,rfl,rfl,(l_ rfl (jaf qr32)),trivial⟩
    have qr32:=hr30;simp at hr30
    refine Zz 13 ?_;refine cd_ (fb_ ur p.r bb_ (eU_ _ (by omega))) rfl rfl j_ zt rfl fun r33 hr33=>Zz 3 ?_
    exact met ⟨rfl,rfl,rfl,rfl,(l_ rfl (jat qr32 hr33)),trivial⟩
   refine Zz 1 ?_;refine aT_ 7 ((((((((cs_ ua p.a aR_)&&(cs_ ub p.b aR_)))&&(cs_ uc p.c aR_)))&&(cs_ ur p.r bb_)))&&(cs_ us p.s cp_)) (fun r=>[(1,zp_ b1 0),(2,.bool false),(3,zp_ b2 0),(4,.func (.func 83) #[] #[]),(91,.bool r)]) ?_ fun r34 hr34=>?_
   ·cases r32
    ·have qr34:=hr32
     simp at hr32
     refine Zz 9 ?_;exact met ⟨rfl,rfl,rfl,rfl,(l_ rfl (jaf qr34)),trivial⟩
    have qr34:=hr32;simp at hr32
    refine Zz 11 ?_;refine cd_ (fb_ us p.s cp_ (iH_ _ (by omega))) rfl rfl j_ zt rfl fun r35 hr35=>Zz 3 ?_
    exact met ⟨rfl,rfl,rfl,rfl,(l_ rfl (jat qr34 hr35)),trivial⟩
   refine Zz 1 ?_;refine aT_ 7 ((((((((((cs_ ua p.a aR_)&&(cs_ ub p.b aR_)))&&(cs_ uc p.c aR_)))&&(cs_ ur p.r bb_)))&&(cs_ us p.s cp_)))&&(cs_ ut p.t cp_)) (fun r=>[(2,.bool false),(99,.bool r)]) ?_ fun r36 hr36=>?_
   ·cases r34
    ·have qr36:=hr34
     simp at hr34
     refine Zz 9 ?_;exact met ⟨rfl,(l_ rfl (jaf qr36)),trivial⟩
    have qr36:=hr34;simp at hr34
    refine Zz 11 ?_;refine cd_ (fb_ ut p.t cp_ (iH_ _ (by omega))) rfl rfl j_ zt rfl fun r37 hr37=>Zz 3 ?_
    exact met ⟨rfl,(l_ rfl (jat qr36 hr37)),trivial⟩
   refine Zz 4 ?_;exact T_ tN_ () (l_ rfl (by unfold Pc.valid;rw[if_neg (by omega)];simp only[hus];rw[if_neg (by simp<;>omega),if_neg (by simp<;>omega)];exact hr36.symm)) (.refl _) zt
  simp at hr25
  refine Zz 7 ?_;exact T_ tN_ () (l_ rfl (by unfold Pc.valid;rw[if_neg (by omega)];simp only[hus];first|(rw[if_pos (by first|(simp;omega)|omega)])|(rw[if_neg (by simp),if_pos (by simp;omega)]))) (.refl _) zt
 simp at hr6
 refine Zz 7 ?_;exact T_ tN_ () (l_ rfl (by unfold Pc.valid;rw[if_pos (by omega)])) (.refl _) zt
theorem oM_ (l:List Pc) (ad:Option Addr) (cap:Nat) (hl:l.length≤17592186044414) (hsm:∀ p∈l,p.sm):Tri Tryz.prog 14 #[.slice ad (List.length l) cap] [] [aC_ ad (List.flatMap Pc.cells l),iu_] (fun _:Unit=>.int .i64 (bT_ l)) (fun _=>[]) (fun _=>[]):=by
 refine w_ Tryz.func14 rfl rfl Tryz.ntmps14 rfl fun v0=>?_;refine Zi 10 (fun hr1=>?_) fun hr1=>?_
 ·refine Zz 14 ?_
  refine bR_ [(8,.slice ad (List.length l) cap),(9,.int .i64 (List.length l:Int)),(10,.int .i64 ((0:Nat):Int))] zl ?_;refine cb_ (ι:={q:Nat // q≤l.length∧(l.take q).all Pc.valid=true}) (fun i=>[(8,.slice ad (List.length l) cap),(9,.int .i64 (List.length l:Int)),(10,.int .i64 (i.1:Int))]) (fun _=>_) (fun _=>_) (fun i=>l.length - i.1) ⟨0,by simp⟩ ?_;rintro ⟨i,hk⟩;refine bR_ [(8,.slice ad (List.length l) cap),(9,.int .i64 (List.length l:Int)),(10,.int .i64 (i:Int))] zl ?_;refine Zi 2 (fun hr2=>?_) fun hr2=>?_
  ·refine Zz 12 ?_
   exact T_ Tryz.results14 () (aG_ rfl (by unfold bT_;rw[if_neg (by omega),if_pos (by have:=hk.2;rwa [List.take_of_length_le (by omega)]at this)])) (.refl _) zt
  obtain⟨hlx1,x1,hx1,hmx1⟩:=zge (show i<List.length l by omega);refine Zz 12 ?_;refine E_ am_ rfl fun b1=>z_ 0 U_ rfl rfl rfl rfl rfl rfl (Zz 5 ?_)
  refine ak_ (sG_ x1 (hsm x1 hmx1)) rfl j_ zf rfl fun r3 hr3=>d_ (bn_ rfl) rfl (Zz 2 ?_)
  cases r3
  ·refine Zz 7 ?_
   exact T_ Tryz.results14 () (aG_ rfl (by unfold bT_;rw[if_neg (by omega),if_neg (by rw[show l.all Pc.valid=false from List.all_eq_false.2 ⟨x1,hmx1,by simp[*]⟩];simp)])) (.refl _) zt
  refine Zz 8 ?_;exact aa_ ⟨i+1,hlx1,by rw[List.take_add_one,hx1];simp only[Option.toList_some,List.all_append,hk.2];simp[*]⟩ (by simp;omega) zl (@List.perm_append_comm _ [_] _) zh
 refine Zz 9 ?_;exact T_ Tryz.results14 () (aG_ rfl (by unfold bT_;rw[if_pos (by omega)])) (.refl _) zt
end Go.Proofs.YtaffcjgphlhppaaGreatDoor
namespace Go.Vs
open Go Go.Sx
def vw (W:World):Vw:=⟨fun b=>b<W.heap.size,W,True⟩
theorem vw_sat (W:World):(vw W).sat []:=⟨(fun _ h=>by cases h),(by simp),fun _ h=>h⟩
section
variable {H:Type} {enc:TypeId×Value→H} {P:Program} {W:World}
abbrev wok (l:List Nat):Prop:=l.all (·≤reachBytes)=true
theorem eF_ {a b:List Nat}:wok (a++b)↔wok a∧wok b:=by simp[wok,List.all_append]
theorem tf_ {n:Nat} {b:List Nat}:wok (n::b)↔n≤reachBytes∧wok b:=by simp[wok]
theorem tg_ {e:TypeId}:∀ {ds:List (DataW H)},wok (DataW.weightsAll P e ds)→∀ d∈ds,wok (d.weights P e)
 | [],_,_,h=>by cases h
 | x::ds,hw,d,hd=>by
   rw[DataW.weightsAll,eF_]at hw;rcases List.mem_cons.1 hd with rfl|hd
   · exact hw.1
   · exact tg_ hw.2 d hd
theorem iZ_ {α:Type} [Inhabited α] (f:α→List Value) (k:Nat) (hk:∀ x,(f x).length=k) (hk0:0<k) (Q:α→Prop) {ts te:TypeId} (hs:P.underlying ts=some (.slice te)) (hc:P.cellsOf te=k) {n:Nat} {cs:List Value} {x:DataW H×List MemPlace}
    (hread:∀ m,m<n→∀ cs' y,DataW.trod enc P W 0 (fun _=>true) true m te cs'=some y→wok (y.1.weights P te)→∃ c,cs'=f c∧Q c)
    (h:DataW.trod enc P W 0 (fun _=>true) true n ts cs=some x) (hw:wok (x.1.weights P ts)) :
    ∃ (l:List α) (ad:Option Addr) (cap:Nat),cs=[.slice ad l.length cap]∧bH_ (vw W) ad (l.flatMap f)∧(∀ c∈l,Q c)∧l.length≤cap∧cap*P.bytesOf te≤reachBytes:=by
  rcases DataW.trod_slice hs h with⟨h0,_⟩|⟨a,len,cap,elems,rest,m,hn,rfl,rfl,_,hl,_,hlen,hel,hsp,_⟩
  · exact⟨[],none,0,h0,.inl rfl,(fun _ h=>by cases h),Nat.le_refl _,by simp⟩
  · obtain⟨hr,_⟩:=hsp rfl
    simp only[DataW.weights,hs,tf_,eF_,List.length_map]at hw
    have hcap:cap*P.bytesOf te≤reachBytes:=by
      have e:elems.length+rest.length=cap:=by omega
      rw[← e];exact hw.1
    have hone:∀ i,i<len→∃ c:α,W.cells? 0 (a.add (i*k)) k=some (f c)∧Q c:=fun i hi=>by
      have he:=hel i hi;rw[hc,List.getElem?_eq_getElem (by omega)]at he;obtain⟨cs',h1,h2⟩:=Option.bind_eq_some_iff.1 he;obtain⟨c,rfl,hq⟩:=hread m (by omega) cs' _ h2 (tg_ hw.2.1 _ (List.mem_map_of_mem (List.getElem_mem (by omega))));exact⟨c,h1,hq⟩
    obtain⟨C,hC⟩:=Deep.choose_lt hone;refine⟨(List.range len).map C,some a,cap,by simp,?_,?_,by simpa using hl,hcap⟩
    · by_cases h0:len=0
      · left;simp[h0]
      · have h1:=(hC 0 (by omega)).1
        obtain⟨_,_,hcell⟩:=World.cells?_some h1;have hc0:=hcell 0 hk0;have hlt:0<(f (C 0)).length:=by rw[hk];exact hk0
        rw[List.getElem?_eq_getElem hlt]at hc0;cases hb:W.heap[a.block]? with
        | none=>simp[World.cell?,Addr.add,hb]at hc0
        | some o =>
          cases o with
          | cells arr T fz =>
            have hspot:a.spot=none:=by
              cases hsp2:a.spot with
              | none=>rfl
              | some s=>simp[World.cell?,Addr.add,hb,hsp2]at hc0
            obtain⟨b,off,sp⟩:=a;simp only at hspot hb;subst hspot;right
            refine⟨b,off,arr,T,fz,rfl,(Array.getElem?_eq_some_iff.1 hb).1,hb,fun j y hj=>?_⟩
            have hjlt:j<len*k:=by
              have:=(List.getElem?_eq_some_iff.1 hj).1;rw[ej_ f k hk]at this;simpa using this
            have hi:j / k<len:=Nat.div_lt_of_lt_mul (by rw[Nat.mul_comm];exact hjlt);have hr':j%k<k:=Nat.mod_lt _ hk0;have e:j=(j / k)*k+j%k:=by rw[Nat.mul_comm];exact (Nat.div_add_mod j k).symm
            have hget:((List.range len).map C)[j / k]? = some (C (j / k)):=by simp[hi]
            rw[e,kR_ f k hk _ (j / k) (j%k) _ hget hr']at hj;obtain⟨_,_,hcell⟩:=World.cells?_some (hC (j / k) hi).1;have:=hcell (j%k) hr';rw[hj,dS_,dS_]at this;rw[e];simpa [World.cell?,hb,Nat.add_assoc] using this
          | _=>simp[World.cell?,Addr.add,hb]at hc0
    · intro c hc'
      obtain⟨i,hi,rfl⟩:=List.mem_map.1 hc';exact (hC i (by simpa using hi)).2
end
instance:Inhabited Con:=⟨.mk 0 [] 0 0 none 0 []⟩
instance:Inhabited Ax:=⟨⟨0,false,default,default,none,0,[],[],[],[]⟩⟩
instance:Inhabited Pc:=⟨⟨0,[],[],[],[],[],[],0,0,0⟩⟩
structure Tys (P:Program) (tI tB tS tSs tC tCs tA tAs tP tPs:TypeId):Prop where
  i:P.underlying tI=some (.int .i64)
  b:P.underlying tB=some .bool
  s:P.underlying tS=some .string
  ss:P.underlying tSs=some (.slice tS)
  c:∃ fs,P.underlying tC=some (.struct fs)∧fs.toList.map (fun f=>(f.type,f.offset))=[(tI,0),(tS,1),(tI,2),(tI,3),(tCs,4)]
  cs:P.underlying tCs=some (.slice tC)
  a:∃ fs,P.underlying tA=some (.struct fs)∧fs.toList.map (fun f=>(f.type,f.offset))=[(tI,0),(tB,1),(tC,2),(tC,7),(tSs,12),(tS,13),(tS,14),(tS,15)]
  axs:P.underlying tAs=some (.slice tA)
  p:∃ fs,P.underlying tP=some (.struct fs)∧fs.toList.map (fun f=>(f.type,f.offset))=[(tI,0),(tS,1),(tS,2),(tS,3),(tS,4),(tS,5),(tS,6),(tI,7),(tI,8),(tI,9)]
  ps:P.underlying tPs=some (.slice tP)
  ci:P.cellsOf tI=1
  cb:P.cellsOf tB=1
  cs1:P.cellsOf tS=1
  css:P.cellsOf tSs=1
  cc:P.cellsOf tC=5
  ccs:P.cellsOf tCs=1
  ca:P.cellsOf tA=16
  cp:P.cellsOf tP=10
  bs:P.bytesOf tS=16
  bc:P.bytesOf tC=64
  ba:P.bytesOf tA=216
  bp:P.bytesOf tP=128
section
variable {H:Type} {enc:TypeId×Value→H} {P:Program} {W:World} {tI tB tS tSs tC tCs tA tAs tP tPs:TypeId} (X:Tys P tI tB tS tSs tC tCs tA tAs tP tPs)
theorem fields_of {t:TypeId} {fs:Array Field} {L:List (TypeId×Nat)} {cs:List Value} {n:Nat} {x:DataW H×List MemPlace} (ht:P.underlying t=some (.struct fs)) (hL:fs.toList.map (fun f=>(f.type,f.offset))=L) (h:DataW.trod enc P W 0 (fun _=>true) true n t cs=some x) :
    ∃ (xs:List (DataW H×List MemPlace)) (m:Nat),n=m+1∧x.1=.agg (xs.map (·.1))∧cs.length=P.cellsOf t∧xs.length=L.length∧(∀ (i:Nat) q,L[i]? = some q→DataW.trod enc P W 0 (fun _=>true) true m q.1 ((cs.drop q.2).take (P.cellsOf q.1))=xs[i]?) ∧
      (x.1.weights P t=DataW.weightsEach P (L.map (·.1)) (xs.map (·.1))):=by
  obtain⟨xs,m,hn,hx,hl,hlen,hf⟩:=DataW.trod_struct ht h;refine⟨xs,m,hn,by rw[hx],hl,by rw[hlen,← hL];simp,fun i q hq=>?_,?_⟩
  · rw[← hL,List.getElem?_map,Option.map_eq_some_iff]at hq
    obtain⟨f,hf',rfl⟩:=hq;exact hf i f (by simpa using hf')
  · rw[hx];simp only[DataW.weights,ht]
    congr 1
    rw[← hL,List.map_map];rfl
include X
theorem hi_ {n:Nat} {cs:List Value} {x:DataW H×List MemPlace} (h:DataW.trod enc P W 0 (fun _=>true) true n tI cs=some x):∃ k:Int,cs=[.int .i64 k]∧-9223372036854775808≤k∧k≤9223372036854775807:=by
  obtain⟨k,h1,_,h3⟩:=DataW.trod_int X.i h;have:=bounds_i64 h3;exact⟨k,h1,this.1,this.2⟩
theorem wC_ {n:Nat} {cs:List Value} {x:DataW H×List MemPlace} (h:DataW.trod enc P W 0 (fun _=>true) true n tB cs=some x):∃ b:Bool,cs=[.bool b]:=by
  obtain⟨b,h1,_⟩:=DataW.trod_bool X.b h;exact⟨b,h1⟩
theorem str_of {n:Nat} {cs:List Value} {x:DataW H×List MemPlace} (h:DataW.trod enc P W 0 (fun _=>true) true n tS cs=some x) (hw:wok (x.1.weights P tS)):∃ s:Str,cs=[str s]∧s.length≤140737488351232:=by
  obtain⟨s,h1,h2,_⟩:=DataW.trod_string X.s h;rw[h2]at hw;simp[wok,DataW.weights,reachBytes]at hw
  refine⟨s.data.toList,by rw[h1];rfl,by have:=of_decide_eq_true hw;simpa using this⟩
theorem uP_:∀ (n:Nat) (cs:List Value) (x:DataW H×List MemPlace),DataW.trod enc P W 0 (fun _=>true) true n tC cs=some x→wok (x.1.weights P tC)→∃ c:Con,cs=c.cells∧c.mem (vw W)∧c.ok:=by
 intro n
 induction n using Nat.strongRecOn with
 | ind n ih =>
   intro cs x h hw;obtain⟨fs,hu,hL⟩:=X.c;obtain⟨xs,m,hn,hx,hl,hlen,hf,hwe⟩:=fields_of hu hL h;rw[hwe]at hw
   match xs,hlen with
   | [x0,x1,x2,x3,x4],_ =>
   simp only[List.map_cons,List.map_nil,DataW.weightsEach,eF_]at hw;have f0:=hf 0 _ rfl;have f1:=hf 1 _ rfl;have f2:=hf 2 _ rfl;have f3:=hf 3 _ rfl;have f4:=hf 4 _ rfl;simp only[List.getElem?_cons_zero,List.getElem?_cons_succ,X.ci,X.cs1,X.ccs]at f0 f1 f2 f3 f4;obtain⟨k,e0,k1,k2⟩:=hi_ X f0;obtain⟨nm,e1,n1⟩:=str_of X f1 hw.2.1;obtain⟨lo,e2,l1,l2⟩:=hi_ X f2;obtain⟨hi,e3,h1,h2⟩:=hi_ X f3
   obtain⟨l,ad,cap,e4,hrow,hq,hlc,hcap⟩:=iZ_ Con.cells 5 Con.cells_len (by decide) (fun c=>c.mem (vw W)∧c.ok) X.cs X.cc (fun m' hm' cs' y hy hwy=>by
     obtain⟨c,g1,g2,g3⟩:=ih m' (by omega) cs' y hy hwy;exact⟨c,g1,g2,g3⟩) f4 hw.2.2.2.2.1
   rw[X.cc]at hl
   match cs,hl with
   | [c0,c1,c2,c3,c4],_ =>
   simp only[List.drop_succ_cons,List.drop_zero,List.take_succ_cons,List.take_zero,List.cons.injEq,and_true]at e0 e1 e2 e3 e4;subst e0 e1 e2 e3 e4;refine⟨.mk k nm lo hi ad cap l,rfl,?_,k1,k2,n1,l1,l2,h1,h2,hlc,?_,Con.oks_iff.2 fun p hp=>(hq p hp).2⟩
   · rw[Con.mem_iff];exact⟨hrow,fun p hp=>(hq p hp).1⟩
   · rw[X.bc]at hcap;simp only[reachBytes]at hcap;omega
theorem vt_ {n:Nat} {cs:List Value} {x:DataW H×List MemPlace} (h:DataW.trod enc P W 0 (fun _=>true) true n tSs cs=some x) (hw:wok (x.1.weights P tSs)) :
    ∃ (l:List Str) (ad:Option Addr) (cap:Nat),cs=[.slice ad l.length cap]∧bH_ (vw W) ad (l.flatMap by_)∧(∀ s∈l,s.length≤140737488351232)∧l.length≤cap∧cap≤8796093021952:=by
  obtain⟨l,ad,cap,e,hrow,hq,hlc,hcap⟩:=iZ_ by_ 1 aK_ (by decide) (fun s=>s.length≤140737488351232) X.ss X.cs1 (fun m' _ cs' y hy hwy=>by
    obtain⟨s,g1,g2⟩:=str_of X hy hwy;exact⟨s,g1,g2⟩) h hw
  rw[X.bs]at hcap;simp only[reachBytes]at hcap;exact⟨l,ad,cap,e,hrow,hq,hlc,by omega⟩
theorem wU_ {n:Nat} {cs:List Value} {x:DataW H×List MemPlace} (h:DataW.trod enc P W 0 (fun _=>true) true n tA cs=some x) (hw:wok (x.1.weights P tA)):∃ a:Ax,cs=a.cells∧a.mem (vw W)∧a.ok:=by
  obtain⟨fs,hu,hL⟩:=X.a;obtain⟨xs,m,hn,hx,hl,hlen,hf,hwe⟩:=fields_of hu hL h;rw[hwe]at hw
  match xs,hlen with
  | [x0,x1,x2,x3,x4,x5,x6,x7],_ =>
  simp only[List.map_cons,List.map_nil,DataW.weightsEach,eF_]at hw;have f0:=hf 0 _ rfl;have f1:=hf 1 _ rfl;have f2:=hf 2 _ rfl;have f3:=hf 3 _ rfl;have f4:=hf 4 _ rfl;have f5:=hf 5 _ rfl;have f6:=hf 6 _ rfl;have f7:=hf 7 _ rfl;simp only[List.getElem?_cons_zero,List.getElem?_cons_succ,X.ci,X.cb,X.cs1,X.cc,X.css]at f0 f1 f2 f3 f4 f5 f6 f7;obtain⟨k,e0,k1,k2⟩:=hi_ X f0;obtain⟨op,e1⟩:=wC_ X f1;obtain⟨le,e2,m2,o2⟩:=uP_ X _ _ _ f2 hw.2.2.1;obtain⟨ri,e3,m3,o3⟩:=uP_ X _ _ _ f3 hw.2.2.2.1;obtain⟨rs,ad,cap,e4,hrow,hq,hlc,hcap⟩:=vt_ X f4 hw.2.2.2.2.1;obtain⟨ro,e5,n5⟩:=str_of X f5 hw.2.2.2.2.2.1;obtain⟨a,e6,n6⟩:=str_of X f6 hw.2.2.2.2.2.2.1;obtain⟨b,e7,n7⟩:=str_of X f7 hw.2.2.2.2.2.2.2.1;rw[X.ca]at hl
  match cs,hl with
  | [c0,c1,c2,c3,c4,c5,c6,c7,c8,c9,c10,c11,c12,c13,c14,c15],_ =>
  simp only[List.drop_succ_cons,List.drop_zero,List.take_succ_cons,List.take_zero,List.cons.injEq,and_true,Con.cells]at e0 e1 e2 e3 e4 e5 e6 e7;obtain⟨rfl,rfl,rfl,rfl,rfl⟩:=e2;obtain⟨rfl,rfl,rfl,rfl,rfl⟩:=e3;subst e0 e1 e4 e5 e6 e7;exact⟨⟨k,op,le,ri,ad,cap,rs,ro,a,b⟩,rfl,⟨m2,m3,hrow⟩,⟨k1,k2,o2,o3,hlc,hcap,hq,n5,n6,n7⟩⟩
theorem axs_of {n:Nat} {cs:List Value} {x:DataW H×List MemPlace} (h:DataW.trod enc P W 0 (fun _=>true) true n tAs cs=some x) (hw:wok (x.1.weights P tAs)) :
    ∃ (l:List Ax) (ad:Option Addr) (cap:Nat),cs=[.slice ad l.length cap]∧(ne_ ad l).p (vw W)∧(∀ y∈l,y.ok)∧l.length≤cap∧cap≤2199023255488:=by
  obtain⟨l,ad,cap,e,hrow,hq,hlc,hcap⟩:=iZ_ Ax.cells 16 Ax.cells_len (by decide) (fun a=>a.mem (vw W)∧a.ok) X.axs X.ca (fun m' _ cs' y hy hwy=>by
    obtain⟨a,g1,g2,g3⟩:=wU_ X hy hwy;exact⟨a,g1,g2,g3⟩) h hw
  rw[X.ba]at hcap;simp only[reachBytes]at hcap;exact⟨l,ad,cap,e,⟨hrow,fun y hy=>(hq y hy).1⟩,fun y hy=>(hq y hy).2,hlc,by omega⟩
end
end Go.Vs
namespace Go.Vs
open Go Go.Sx Go.ChangeShapes Go.WideShapes Go.ChangeAt Go.RowKit
section
variable {H:Type} {enc:TypeId×Value→H} {P:Program} {w:World}
mutual
def fL_ {H:Type}:DataW H→List Value
  | .lit (.int k n)=>[.int k n]
  | .lit (.bool b)=>[.bool b]
  | .agg ps=>kd_ ps
  | _=>[]
def kd_ {H:Type}:List (DataW H)→List Value
  | []=>[]
  | d::r=>fL_ d++kd_ r
end
def hW_ (P:Program):Nat→TypeId→Bool
  | 0,_=>false
  | n+1,t=>match P.underlying t with
    | some .bool=>true
    | some (.int _)=>true
    | some (.struct fs)=>fs.toList.all fun f=>hW_ P n f.type
    | some (.array _ e)=>hW_ P n e
    | _=>false
theorem jy_:∀ l:List (DataW H),kd_ l=l.flatMap fL_
  | []=>by simp[kd_]
  | d::r=>by simp only[kd_,jy_ r,List.flatMap_cons]
theorem tile:∀ (ls:List Nat) (cs:List Value) (g:List (List Value)),cs.length=ls.sum→g.length=ls.length→(∀ j n,ls[j]? = some n→some ((cs.drop (ls.take j).sum).take n)=g[j]?)→cs=g.flatten
  | [],cs,g,h,hg,_=>by
    simp only[List.sum_nil]at h;have h1:=List.eq_nil_of_length_eq_zero h;have h2:g=[]:=List.eq_nil_of_length_eq_zero hg;simp[h1,h2]
  | n::ls,cs,[],h,hg,hp=>by simp at hg
  | n::ls,cs,x::g,h,hg,hp=>by
    have h0:=hp 0 n rfl;simp only[List.take_zero,List.sum_nil,List.drop_zero,List.getElem?_cons_zero,Option.some.injEq]at h0
    have ih:=tile ls (cs.drop n) g (by rw[List.length_drop,h];simp) (by simpa using hg) (fun j m hj=>by
      have:=hp (j+1) m hj;simp only[List.take_succ_cons,List.sum_cons,List.getElem?_cons_succ]at this;rw[← this,List.drop_drop])
    rw[List.flatten_cons,← ih,← h0,List.take_append_drop]
theorem tV_ {T:TypeId→Prop} {held:Bool} (K:Kids P T):∀ (n m:Nat) (t:TypeId) (cs:List Value) (x:DataW H×List MemPlace),T t→hW_ P m t=true→DataW.trod enc P w 0 (fun _=>true) held n t cs=some x→cs=fL_ x.1:=by
 intro n
 induction n with
 | zero=>intro m t cs x _ _ h;simp[DataW.trod]at h
 | succ n ih =>
   intro m t cs x hT hb h;cases m with
   | zero=>simp[hW_]at hb
   | succ m =>
   cases hu:P.underlying t with
   | none=>simp[hW_,hu]at hb
   | some d =>
     cases d with
     | bool=>obtain⟨b,rfl,rfl⟩:=DataW.trod_bool hu h;simp[fL_]
     | int k=>obtain⟨b,rfl,rfl,_⟩:=DataW.trod_int hu h;simp[fL_]
     | struct fs =>
       obtain⟨xs,m',hn,rfl,hl,hlen,hf⟩:=DataW.trod_struct hu h;obtain rfl:m'=n:=by omega
       obtain⟨k1,k2,k3⟩:=K.struct hT hu;simp only[hW_,hu]at hb;simp only[fL_];rw[jy_,List.flatMap_def,List.map_map];refine tile (fs.toList.map fun f=>P.cellsOf f.type) cs _ (by rw[hl,k2]) (by simp[hlen]) fun j q hq=>?_;rw[List.getElem?_map,Option.map_eq_some_iff]at hq;obtain⟨f,hf',rfl⟩:=hq;have h1:=hf j f (by simpa using hf');have h2:=k3 j f hf';have hj:j<xs.length:=by rw[hlen];have:=(List.getElem?_eq_some_iff.1 hf').1;simpa using this
       rw[List.getElem?_eq_getElem hj]at h1;have h3:=ih m f.type _ _ (k1 f (List.mem_of_getElem? hf')) (List.all_eq_true.1 hb f (List.mem_of_getElem? hf')) h1;rw[List.getElem?_map,List.getElem?_eq_getElem hj,← List.map_take,← h2,h3];rfl
     | array len e =>
       obtain⟨xs,m',hn,rfl,hl,hlen,hf⟩:=DataW.trod_array hu h;obtain rfl:m'=n:=by omega
       obtain⟨k1,k2⟩:=K.array hT hu;simp only[hW_,hu]at hb;simp only[fL_];rw[jy_,List.flatMap_def,List.map_map];refine tile (List.replicate len (P.cellsOf e)) cs _ (by rw[hl,k2];simp) (by simp[hlen]) fun j q hq=>?_;rw[List.getElem?_replicate]at hq
       split at hq
       · rename_i hj
         simp only[Option.some.injEq]at hq;subst hq;have h1:=hf j hj;have hjx:j<xs.length:=by omega
         rw[List.getElem?_eq_getElem hjx]at h1;have h3:=ih m e _ _ k1 hb h1;rw[List.getElem?_map,List.getElem?_eq_getElem hjx,List.take_replicate,List.sum_replicate_nat,Nat.min_eq_left (by omega),h3];rfl
       · cases hq
     | _=>simp[hW_,hu]at hb
end
section
variable {H:Type} {enc:TypeId×Value→H} {P:Program} {W W':World}
theorem jr_:∀ {ts:List TypeId} {vs:List Value} {ds:List (DataW H)} {ps:List MemPlace} {sp:Nat→Bool},DataW.TrodAll enc P W 0 sp true ts vs ds ps→(∀ p∈ps,W.sameAt W' p)→DataW.TrodAll enc P W' 0 sp true ts vs ds ps
  | [],[],[],_,_,h,_=>h
  | _::_,_::_,_::_,_,_,⟨p,q,⟨n,h1⟩,h2,e⟩,hs=>⟨p,q,⟨n,DataW.trod_carry n _ _ _ h1 (fun x hx=>hs x (by rw[e];exact List.mem_append_left _ hx))⟩,jr_ h2 (fun x hx=>hs x (by rw[e];exact List.mem_append_right _ hx)),e⟩
theorem uf_ {T:TypeId→Prop} (K:Kids P T) (hz:∀ t e,T t→P.underlying t=some (.slice e)→0<P.cellsOf e) {f:Func} {s:ChangeSpec} {args:Array Value} {ds:List (DataW H)} {before:List MemPlace} {tb:TypeId} (hts:∀ t∈f.params.toList,T t) (hvars:s.vars=[])
    (hW:DataW.Whole enc P f.params.toList s.vars false W args.toList ds [] before) (hs:s.fn H (ds++[])={ results:=[.lit (.bool true)],args:=ds }) (hres:f.resultTypes=#[tb]) (hb:P.underlying tb=some .bool) {v':Vw} (hto:(vw W).to [] v' []) :
    s.post enc P f false true false false W args (.bool true) v'.w:=by
  have hW':=hW;obtain⟨p,q,hA,hV,hp,_,_⟩:=hW;have hq:q=[]:=by rw[hvars]at hV;exact hV
  subst hq;simp only[List.append_nil]at hp;subst hp;have hblk:∀ b,b<W.heap.size→v'.w.heap[b]? = W.heap[b]? := fun b hb=>hto.block b hb (by simp)
  have hsame:∀ x∈before,W.sameAt v'.w x:=fun x hx=>by
    have hlt:=DataW.TrodAll.lt hA x hx;cases x with
    | cell b off=>exact World.cell?_of_block (hblk b hlt)
    | map b=>exact hblk b hlt
  have hA':=jr_ hA hsame;have hA'':=DataW.TrodAll.respare K hz (spare':=fun b=>decide (b<W.heap.size)) hts hA' (fun x hx=>by simpa using DataW.TrodAll.lt hA x hx);refine⟨ds,[],before,[],before,[],hW',?_,?_,?_,⟨hto.os,hto.output,fun i hi=>?_⟩,fun h=>by cases h⟩
  · rw[hs,hres];exact trodAll_mk1 (shut_bool hb true)
  · rw[hs];exact hA''
  · rw[hs,hvars];rfl
  · rw[hblk i hi]
    have hsome:∃ o,W.heap[i]? = some o:=⟨_,Array.getElem?_eq_getElem hi⟩;obtain⟨o,ho⟩:=hsome;rw[ho];cases o<;>simp
section
variable {tI tB tS tSs tC tCs tA tAs tP tPs:TypeId} (X:Tys P tI tB tS tSs tC tCs tA tAs tP tPs) {base:Nat} {v:Value} {d:DataW H} {ps:List MemPlace}
include X
theorem wJ_ (hval:Value.okWide P W .any base tAs v) (h:DataW.Trod enc P W 0 (fun _=>true) true tAs v d ps) (hw:wok (d.weights P tAs)) :
    ∃ (l:List Ax) (ad:Option Addr) (cap:Nat),v=.slice ad l.length cap∧(ne_ ad l).p (vw W)∧(∀ y∈l,y.ok)∧l.length≤cap∧cap≤2199023255488:=by
  obtain⟨a,len,cap,rfl⟩:=okWide_slice X.axs hval;obtain⟨n,hn⟩:=h;obtain⟨l,ad,cap',e,h1⟩:=axs_of X hn hw;simp only[Value.cells,List.cons.injEq,and_true]at e;exact⟨l,ad,cap',e,h1⟩
theorem arg_ax (hval:Value.okWide P W .any base tA v) (h:DataW.Trod enc P W 0 (fun _=>true) true tA v d ps) (hw:wok (d.weights P tA)):∃ a:Ax,v=a.val∧a.mem (vw W)∧a.ok:=by
  obtain⟨fs,hu,_⟩:=X.a;unfold Value.okWide at hval;rw[hu]at hval;obtain⟨cs,rfl,_⟩:=hval;obtain⟨n,hn⟩:=h;obtain⟨a,e,h1⟩:=wU_ X hn hw;refine⟨a,?_,h1⟩;simp only[Value.cells]at e;rw[Ax.val,← e]
end
theorem jU_ {T:TypeId→Prop} (K:Kids P T) {name:String} {d:DataW Unit} {laid:List (String×DataW Unit)} {W:World} (h:laidMet P laid W) (hm:(name,d)∈laid) {g:Nat} {t:TypeId} (hg:P.globalNamed name=some g) (ht':(P.globals[g]?).map (·.type)=some t) (hT:T t) {m:Nat} (hb:hW_ P m t=true) :
    ∃ T' fz,W.heap[g]? = some (.cells (fL_ d).toArray T' fz):=by
  obtain⟨ps,hl,_,_⟩:=h
  have key:∀ (l:List (String×DataW Unit)) (ps:List MemPlace),DataW.LaidVars P W l ps→(name,d)∈l→∃ g t cs n p,P.globalNamed name=some g∧(P.globals[g]?).map (·.type)=some t∧W.var? P name=some cs∧DataW.trod (fun _=>()) P W 0 (fun _=>true) false n t cs.toList=some (d,p):=by
    intro l
    induction l with
    | nil=>intro ps _ h;cases h
    | cons x r ih =>
      intro ps h hm;obtain⟨n',d'⟩:=x;obtain⟨g,t,cs,fuel,p,q,h1,h2,h3,h4,h5,_⟩:=h;rcases List.mem_cons.1 hm with e|hm
      · cases e;exact⟨g,t,cs,fuel,p,h1,h2,h3,h4⟩
      · exact ih q h5 hm
  obtain⟨g',t',cs,n,p,h1,h2,h3,h4⟩:=key laid ps hl hm;obtain rfl:g'=g:=Option.some.inj (h1.symm.trans hg);obtain rfl:t'=t:=Option.some.inj (h2.symm.trans ht');have e:=tV_ K n m t' cs.toList _ hT hb h4;simp only[World.var?,hg,Option.bind_some]at h3
  split at h3
  · rename_i c T' fz hc
    simp only[Option.some.injEq]at h3;subst h3;exact⟨T',fz,by rw[hc,← e]⟩
  · cases h3
end
end Go.Vs
namespace Go.Vs
open Go Go.Sx
theorem jO_ {s:Str} (h:iw_ s=true):∃ c t,s=c::t∧fy_ c=true∧kY_ s=true:=by
  cases s with
  | nil=>simp[iw_]at h
  | cons c t =>
    simp only[iw_,Bool.and_eq_true]at h;exact⟨c,t,rfl,h.1.1.2,h.1.2⟩
theorem qG_ {s:Str} (h:bM_ s=true):∃ c t,s=c::t∧fy_ c=true:=by
  unfold bM_ at h;simp only[Bool.and_eq_true]at h;cases hx:ixS 58 s with
  | none=>rw[hx]at h;obtain⟨c,t,h1,h2,_⟩:=jO_ h.2;exact⟨c,t,h1,h2⟩
  | some k =>
    rw[hx]at h;simp only[Bool.and_eq_true]at h;obtain⟨c,t,h1,h2,_⟩:=jO_ h.2.1;cases s with
    | nil=>simp at h1
    | cons d u =>
      cases k with
      | zero=>simp at h1
      | succ k=>simp only[List.take_succ_cons,List.cons.injEq]at h1;exact⟨d,u,rfl,h1.1▸h2⟩
theorem lM_ {s:Str} (h:kY_ s=true):∀ c∈s,gh_ c=true:=fun c hc=>List.all_eq_true.1 h c hc
theorem sC_ {c:UInt8} {s:Str} {k:Nat} (h:ixS c s=some k):s=s.take k++c::s.drop (k+1):=by
 induction s generalizing k with
 | nil=>simp[ixS]at h
 | cons b s ih =>
   simp only[ixS]at h
   split at h
   · rename_i hb
     simp only[Option.some.injEq]at h;subst h;subst hb;simp
   · cases hx:ixS c s with
     | none=>rw[hx]at h;simp at h
     | some j =>
       rw[hx]at h;simp only[Option.map_some,Option.some.injEq]at h;subst h;simp only[List.take_succ_cons,List.drop_succ_cons,List.cons_append];rw[← ih hx]
theorem sq_ {s:Str} (h:bM_ s=true):∀ c∈s,gh_ c=true∨c=58:=by
 unfold bM_ at h;simp only[Bool.and_eq_true]at h;cases hx:ixS 58 s with
 | none=>rw[hx]at h;obtain⟨_,_,_,_,h3⟩:=jO_ h.2;exact fun c hc=>.inl (lM_ h3 c hc)
 | some k =>
   rw[hx]at h;simp only[Bool.and_eq_true]at h;obtain⟨_,_,_,_,h3⟩:=jO_ h.2.1;obtain⟨_,_,_,_,h4⟩:=jO_ h.2.2;intro c hc;rw[sC_ hx]at hc;rcases List.mem_append.1 hc with hc|hc
   · exact .inl (lM_ h3 c hc)
   · rcases List.mem_cons.1 hc with rfl|hc
     · exact .inr rfl
     · exact .inl (lM_ h4 c hc)
theorem le_ {c:UInt8}:∀ {s:Str},c ∉ s→ixS c s=none
  | [],_=>rfl
  | b::s,h=>by
    simp only[List.mem_cons,not_or]at h;simp only[ixS];rw[if_neg (fun e=>h.1 e.symm),le_ h.2];rfl
theorem iE_ {s:Str} (h:bM_ s=true):bd_ 46 s=[s] :=
  gW_ (le_ fun hm=>by rcases sq_ h 46 hm with h|h<;>revert h<;>decide)
theorem dN_ {s:Str} (h:bM_ s=true):bb_ s=true:=by simp[bb_,h]
theorem dy_ {s:Str} (h:bM_ s=true):cp_ s=true:=by
  unfold cp_;rw[iE_ h];simp[dN_ h]
theorem lR_ (c:UInt8):∀ (f r:Str),bd_ c (f++[c]++r)=bd_ c f++bd_ c r
 | [],r=>by simp[bd_]
 | b::f,r=>by
   have ih:=lR_ c f r;simp only[List.append_assoc,List.cons_append,List.nil_append]at ih ⊢
   by_cases hb:b=c
   · subst hb;simp only[bd_,if_true,ih,List.cons_append]
   · simp only[bd_,hb,if_false,ih]
     cases hs:bd_ c f with
     | nil=>exact absurd hs (kC_ c f)
     | cons x t=>simp
theorem qO_ {c:UInt8} (h:fy_ c=true):c≠42∧c≠33∧c≠123∧c≠60∧c≠95:=by
  refine⟨?_,?_,?_,?_,?_⟩<;>rintro rfl<;>revert h<;>decide
theorem ri_ {s:Str} (h:bM_ s=true):aR_ s=true:=by
  obtain⟨c,t,rfl,hc⟩:=qG_ h;obtain⟨h1,h2,h3,h4,_⟩:=qO_ hc;unfold aR_;rw[if_neg (by simp[h1,h2]),if_neg (by simp[h3]),if_neg (by simp[h4])];exact dN_ h
theorem gS_ {s:Str} (h:bb_ s=true):aR_ ([123]++s++[125])=true:=by
  unfold aR_;have e:([123]++s++[125]).length=s.length+2:=by simp
  rw[if_neg (by simp),if_pos (by
    refine⟨by omega,by simp,?_⟩;rw[List.getElem?_append_right (by simp)];simp)]
  rw[e];have:(List.drop 1 ([123]++s++[125])).take (s.length+2 - 1 - 1)=s:=by simp
  rw[this];exact h
theorem jH_ {t:Str} (h:t≠[]):aR_ ([60]++t++[62])=true:=by
  unfold aR_;have hl:0<t.length:=List.length_pos_iff.2 h;have e:([60]++t++[62]).length=t.length+2:=by simp
  rw[if_neg (by simp),if_neg (by simp),if_pos (by
    refine⟨by omega,by simp,?_⟩;rw[List.getElem?_append_right (by simp)];simp)]
namespace Con
def dep:Con→Nat
  | mk _ _ _ _ _ _ ps=>deps ps
where deps:List Con→Nat
  | []=>0
  | p::ps=>max (1+dep p) (deps ps)
theorem oJ_ {p:Con}:∀ {ps:List Con},p∈ps→1+p.dep≤dep.deps ps
 | q::ps,h=>by
   rcases List.mem_cons.1 h with rfl|h
   · simp only[dep.deps];omega
   · have:=oJ_ h;simp only[dep.deps];omega
theorem oK_ (c:Con):c.dep=dep.deps c.parts:=by cases c;rfl
theorem to_ (c:Con):c.sz=1+sz.szs c.parts:=by cases c;rfl
theorem pZ_:∀ (m:Nat) (c:Con),c.sz≤m→∀ d n,(c.fits d n).1=true↔d+c.dep≤8∧n+c.sz≤64
 | 0,c,h=>by have:=c.sz_pos;omega
 | m+1,c,h=>fun d n=>by
   have key:∀ ps:List Con,(∀ p∈ps,p.sz≤m)→∀ n,n≤64→((fits.fitss ps (d+1) n).1=true↔(∀ p∈ps,d+1+p.dep≤8)∧n+sz.szs ps≤64):=by
     intro ps
     induction ps with
     | nil=>intro _ n hn;simp[fits.fitss,sz.szs,hn]
     | cons p ps ih =>
       intro hp n hn;have h1:=pZ_ m p (hp p (by simp)) (d+1) n;simp only[fits.fitss,sz.szs,List.mem_cons,forall_eq_or_imp];rcases hq:p.fits (d+1) n with⟨b,q⟩
       rw[hq]at h1;cases b with
       | true =>
         have hs:=oD_ _ p (Nat.le_refl _) (d+1) n (by rw[hq]);rw[hq]at hs;simp only at hs h1 ⊢;have h2:=h1.1 trivial;rw[ih (fun r hr=>hp r (by simp[hr])) q (by omega)];constructor
         · rintro ⟨a,b⟩;exact⟨⟨h2.1,a⟩,by omega⟩
         · rintro ⟨⟨_,a⟩,b⟩;exact⟨a,by omega⟩
       | false =>
         simp only[Bool.false_eq_true,false_iff]at h1 ⊢;rintro ⟨⟨a,_⟩,b⟩;exact h1 ⟨a,by omega⟩
   have hd:=oK_ c;have hz:=to_ c;rw[fits_eq]
   split
   · rename_i hc
     simp only[Bool.or_eq_true,decide_eq_true_eq]at hc;simp only[Bool.false_eq_true,false_iff];rintro ⟨a,b⟩;omega
   · rename_i hc
     simp only[Bool.or_eq_true,decide_eq_true_eq,not_or]at hc;rw[key c.parts (fun p hp=>by have:=sz_part hp;omega) (n+1) (by omega),hd,hz];constructor
     · rintro ⟨a,b⟩
       refine⟨?_,by omega⟩
       have:∀ ps:List Con,(∀ p∈ps,d+1+p.dep≤8)→d+dep.deps ps≤8:=by
         intro ps
         induction ps with
         | nil=>intro _;simp[dep.deps];omega
         | cons p ps ih =>
           intro hp;have h1:=hp p (by simp);have h2:=ih fun q hq=>hp q (by simp[hq])
           simp only[dep.deps];omega
       exact this _ a
     · rintro ⟨a,b⟩
       exact⟨fun p hp=>by have:=oJ_ hp;omega,by omega⟩
theorem nZ_ (c:Con):c.check=0↔c.dep≤8∧c.sz≤64∧c.fine:=by
 unfold check fine;have h:=pZ_ _ c (Nat.le_refl _) 0 0
 by_cases hf:(c.fits 0 0).1=true
 ·rw[if_pos hf]
  have:=h.1 hf;constructor
  ·intro e;exact⟨by omega,by omega,e⟩
  exact fun e=>e.2.2
 rw[if_neg hf];constructor
 ·intro e;cases e
 intro e;exact absurd (h.2 ⟨by omega,by omega⟩) hf
theorem cQ_ {c p:Con} (h:c.check=0) (hp:p∈c.parts):p.check=0:=by
  rw[nZ_]at h ⊢;have h1:=oJ_ hp;rw[← oK_]at h1;have h2:=sz_part hp;exact⟨by omega,by omega,fine_part h.2.2 hp⟩
structure Names (c:Con):Prop where
  plain:c.kind=3∨c.kind=6∨c.kind=7→bM_ c.name=true
  person:c.kind=4→bb_ c.name=true
  nums:c.kind=7→-1099511627776≤c.lo∧c.lo≤c.hi∧c.hi≤1099511627776
theorem mq_ {c:Con} (h:c.fine):Names c:=by
 have F:=fields h;have hk:c.kind=1∨c.kind=2∨c.kind=3∨c.kind=4∨c.kind=5∨c.kind=6∨c.kind=7:=by have:=F.k1;have:=F.k7;omega
 have h0:=((kr_ c).1 h).1;unfold fieldErr at h0;rw[if_neg (by have:=F.k1;have:=F.k7;omega)]at h0
 split at h0
 ·cases h0
 split at h0
 ·cases h0
 rename_i h3
 split at h0
 ·cases h0
 split at h0
 ·rename_i h5
  refine⟨fun e=>?_,fun e=>?_,fun e=>?_⟩
  ·rcases e with e|e|e<;>rw[e]at h5<;>simpa [nd,fg_] using h5
  ·rw[e]at h5
   simp[nd,fg_]at h5
   simp[bb_,h5]
  rw[e]at h3;simp[nd,fg_]at h3
  omega
 cases h0
theorem mx_ (x y:Str) (r:List Str) (sep:Str):Lib.join (x::y::r) sep=x++sep++Lib.join (y::r) sep:=by simp[Lib.join,List.intercalate]
theorem vn_ {c:Con} (h:c.fine) (hk:5≤c.kind):c.text≠[]:=by
 have F:=fields h;have h7:=F.k7;rw[text_eq,if_neg (by omega),if_neg (by omega),if_neg (by omega),if_neg (by omega)]
 split
 ·rename_i h5
  have hl:=F.le;rw[h5]at hl;simp[nd,fg_]at hl
  match hp:c.parts,hl with
  | [],hl=>simp at hl
  | [_],hl=>simp at hl
  | p::q::r,_=>simp only[List.map_cons,mx_];simp
 split
 ·simp only[mx_];simp
 simp only[mx_];simp
theorem atom_ok {c:Con} (h:c.check=0):aR_ c.atom=true:=by
 have hf:=(check_zero h).1;have F:=fields hf;have N:=mq_ hf;have h1:=F.k1;have h7:=F.k7;unfold atom
 split
 ·rfl
 split
 ·rfl
 split
 ·exact ri_ (N.plain (by omega))
 split
 ·exact gS_ (N.person (by omega))
 unfold textN;rw[if_pos h];exact jH_ (vn_ hf (by omega))
theorem atom_len {c:Con} (hok:c.ok) (h:c.check=0):c.atom.length≤7000:=by
  have F:=fields (check_zero h).1;have hn:=F.nm;have ht:=textN_len hok;unfold atom
  repeat' split
  all_goals simp<;>omega
theorem sm_ {c:Con} (h:c.check=0) (hk:c.kind=5) {j:Nat} (h2:2≤j) (hj:j≤c.parts.length):(c.pre j).check=0:=by
 have hf:=(check_zero h).1;have F:=fields hf;have hmo:=F.mo;rw[hk]at hmo;simp[nd,fg_]at hmo
 rw[nZ_]at h ⊢
 have key:∀ (ps:List Con) (j:Nat),sz.szs (ps.take j)≤sz.szs ps∧dep.deps (ps.take j)≤dep.deps ps:=by
   intro ps
   induction ps with
   | nil=>intro j;simp
   | cons p ps ih =>
     intro j;cases j with
     | zero=>simp[sz.szs,dep.deps]
     | succ j=>have:=ih j;simp only[List.take_succ_cons,sz.szs,dep.deps];omega
 have h1:=key c.parts j;have e1:=oK_ c;have e2:=to_ c;refine⟨?_,?_,?_⟩
 ·rw[oK_];show dep.deps (c.parts.take j)≤8;omega
 ·rw[to_];show 1+sz.szs (c.parts.take j)≤64;omega
 rw[kr_];refine⟨?_,fun p hp=>fine_part hf (List.mem_of_mem_take hp)⟩;unfold fieldErr;have hlen:(c.pre j).parts.length=j:=by show (c.parts.take j).length=j;simp;omega
 rw[if_neg (by show ¬ ((5:Int)<1∨7<(5:Int));omega)];simp only[hlen];have hk5:(c.pre j).kind=5:=rfl;rw[hk5];simp[nd,fg_,pre,name,lo,hi]
 omega
end Con
end Go.Vs
namespace Go.Sx
open Go
section
variable {P:Program} {N:Nf} {fr:Fr} {H:Hp} {Γ:List Fct}
theorem lK_ {f:FuncId} {args:Array Value} {r:Value} {g:Nat} {cur:Array Value} {T:TypeId} {d:Array (List UInt8)} (hc:gT_ P f)
    (h:∀ v:Vw,v.sat [(g,.cells cur T (0,0))]→Calls P f args v.w fun e w'=>e=.returned r∧∃ n os,w'=Sort.grow (Sort.putRow Go.Proofs.encStr (Sort.ahead v.w n) g 0 d) os) :
    Tri P f args [(g,.cells cur T (0,0))] Γ (fun _:Unit=>r) (fun _=>[(g,.cells (Sort.putCells Go.Proofs.encStr 0 d cur) T (0,0))]) (fun _=>[]) :=
  ⟨hc,fun v h1 _=>(h v h1).mono fun e w' ⟨he,n,os,hw⟩=>by
    have hg:=(h1.own _ List.mem_cons_self);have hlt:g<v.w.heap.size:=(Array.getElem?_eq_some_iff.1 hg.1).1
    have hb:∀ b,b<v.w.heap.size→w'.heap[b]? = if b=g then some (.cells (Sort.putCells Go.Proofs.encStr 0 d cur) T (0,0)) else v.w.heap[b]? := fun b hb=>by
      rw[hw];simp only[Sort.grow,Sort.putRow,Sort.mapBlock,Sort.ahead];rw[Array.getElem?_append_left (by simpa using hb),Array.getElem?_modify]
      by_cases e:b=g
      · subst e
        simp only[if_true,hg.1,Option.map_some,Sort.onCells]
      · rw[if_neg (fun q=>e q.symm),if_neg e]
    have hsz:v.w.heap.size≤w'.heap.size:=by rw[hw];simp[Sort.grow,Sort.putRow,Sort.mapBlock,Sort.ahead]
    refine⟨(),⟨v.im,w',v.sl⟩,he,rfl,⟨fun p hp=>?_,by simp,fun b hbb=>Nat.lt_of_lt_of_le (h1.lt b hbb) hsz⟩,trivial,⟨by rw[hw];rfl,by rw[hw];rfl,by rw[hw];rfl,hsz,fun b hbb hn=>?_,fun _ h=>h,fun _ h=>.inl h,fun b hm=>.inl (by simpa using hm),rfl,.inr (by rw[hw];exact Nat.le_add_right _ _)⟩⟩
    · simp only[List.mem_singleton]at hp
      subst hp;exact⟨by show w'.heap[g]? = _;rw[hb g hlt,if_pos rfl],hg.2⟩
    · have hn':b≠g:=by simpa using hn
      show w'.heap[b]? = _
      rw[hb b hbb,if_neg hn']⟩
theorem pn_ {cur:Array Value} {d:List (List UInt8)} (hs:d.length≤cur.size):(Sort.putCells Go.Proofs.encStr 0 d.toArray cur).toList.take d.length=d.flatMap by_:=by
 rw[lO_]
 apply List.ext_getElem?
 intro j;rw[List.getElem?_take,List.getElem?_map]
 split
 ·rename_i hj
  simp only[Sort.putCells,Array.getElem?_toList,Array.getElem?_mapIdx];rw[Array.getElem?_eq_getElem (by omega)];simp only[Option.map_some,Nat.zero_le,true_and,Nat.zero_add,List.size_toArray,hj,if_true,Nat.sub_zero];rw[List.getElem?_eq_getElem hj];simp only[Option.map_some];rw[getElem!_pos d.toArray j (by simpa using hj)];rfl
 rename_i hj
 rw[List.getElem?_eq_none (by omega)];rfl
theorem po_ {cur:Array Value} {d:Array (List UInt8)}:(Sort.putCells Go.Proofs.encStr 0 d cur).size=cur.size:=by simp[Sort.putCells]
end
end Go.Sx
namespace Go.Vs
open Go Go.Sx
def kW_ (p:Pc):List Str:=[p.a,p.b,p.c].filter fun s=>!(s==[])
def dH_ (l:List Pc):List Str:=l.flatMap kW_
def dl_ (l:List Pc):List Str:=Lib.compact ((dH_ l).mergeSort fun x y=>decide (x≤y))
theorem jF_:∀ l:List Pc,(dH_ l).length≤3*l.length
  | []=>by simp[dH_]
  | p::r=>by
    have h1:=jF_ r;have h2:(kW_ p).length≤3:=by unfold kW_;exact List.length_filter_le _ _
    simp only[dH_,List.flatMap_cons,List.length_append,List.length_cons]at h1 ⊢;omega
theorem ll_ {zs:List Str}:Lib.compact zs=((List.range zs.length).filter fun j=>decide (j=0∨zs[j]! ≠ zs[j - 1]!)).map fun j=>zs[j]! := by
 unfold Lib.compact Lib.compactUpTo Lib.keeps
 have e:∀ j,zs.toArray[j]! = zs[j]! := fun j=>by
   by_cases h:j<zs.length
   · rw[getElem!_pos zs.toArray j (by simpa using h),getElem!_pos zs j h];simp
   · rw[getElem!_neg zs.toArray j (by simpa using h),getElem!_neg zs j h]
 rw[List.map_congr_left fun j _=>e j]
 congr 2
 funext j
 rw[e,e]
theorem iP_ (zs:List Str):(Lib.compact zs).length≤zs.length:=by
  rw[ll_,List.length_map];have:=List.length_filter_le (fun j=>decide (j=0∨zs[j]! ≠ zs[j - 1]!)) (List.range zs.length);simpa using this
theorem lk_ {zs:List Str} (x:Str):x∈Lib.compact zs↔x∈zs:=by
 rw[ll_,List.mem_map];constructor
 ·rintro ⟨j,hj,rfl⟩
  have hl:=List.mem_range.1 (List.mem_filter.1 hj).1;rw[getElem!_pos zs j hl];exact List.getElem_mem hl
 intro hx;obtain⟨j,hj,e⟩:=List.mem_iff_getElem.1 hx;clear hx
 induction j with
 | zero=>exact⟨0,List.mem_filter.2 ⟨List.mem_range.2 hj,by simp⟩,by rw[getElem!_pos zs 0 hj];exact e⟩
 | succ j ih =>
   by_cases h:zs[j+1]! = zs[j]!
   · have hj':j<zs.length:=by omega
     refine ih hj' ?_;rw[getElem!_pos zs (j+1) hj,getElem!_pos zs j hj']at h;rw[← h];exact e
   · exact⟨j+1,List.mem_filter.2 ⟨List.mem_range.2 hj,decide_eq_true (.inr h)⟩,by rw[getElem!_pos zs (j+1) hj];exact e⟩
theorem jG_ (l:List Pc) (x:Str):x∈dl_ l↔x∈dH_ l:=by
  unfold dl_;rw[lk_,List.mem_mergeSort]
theorem fe_ (l:List Pc):(dl_ l).length≤3*l.length:=by
  have h1:=iP_ ((dH_ l).mergeSort fun x y=>decide (x≤y));rw[List.length_mergeSort]at h1;have h2:=jF_ l;unfold dl_;omega
end Go.Vs
namespace Go.Proofs.YtaffcjgphlhppaaGreatDoor
open Go Go.Sx Go.Proofs
attribute [local irreducible] Code.wp wpList wpAnyH
open Go.Vs
theorem eltS:Elt Tryz.prog 46 9 1 16:=jq_ ix_ (z:=.string ⟨#[]⟩) (by kernel_rfl) rfl (by decide)
theorem nN_ {g n cap:Nat} {cur:Array Value} {xs:List Str} {v:Vw} (hs:v.sat [(g,.cells cur 9 (0,0))]) (ht:cur.toList.take (xs.length*1)=xs.flatMap by_):Sort.Holds encStr v.w g 0 xs.toArray:=by
 intro j hj;have hb:=(hs.own _ List.mem_cons_self).1;simp only[List.size_toArray]at hj;have hc:cur[j]? = some (str xs[j]):=nm_ ht j xs[j] (List.getElem?_eq_getElem hj);refine⟨?_,?_⟩
 ·simp only[World.cell?,Nat.zero_add,hb,Option.isSome_none,Bool.false_eq_true,if_false]
  rw[hc,getElem!_pos xs.toArray j (by simpa using hj)];rfl
 simp[World.frozen?,hb]
theorem rv_ {sv:Value} {xs:List Str} {Hr:Hp} (h:bk_ 9 1 sv xs.length (xs.flatMap by_) Hr) (hl:xs.length≤1000000000000) :
    Tri Tryz.prog 97 #[sv] Hr [] (fun _:{y:Hp // bk_ 9 1 sv xs.length ((xs.mergeSort fun x y=>decide (x≤y)).flatMap by_) y}=>.tuple #[]) (fun y=>y.1) (fun _=>[]):=by
  rcases h.2 with⟨rfl,h2,rfl⟩|⟨g,cap,cur,rfl,rfl,h3,h4,h5,h6⟩
  · obtain rfl:xs=[]:=List.eq_nil_of_length_eq_zero h2
    have T:=eq_ (P:=Tryz.prog) (H:=[]) (Γ:=[]) (callable Tryz.func97 rfl rfl) (fun v _ _=>(Tryz.slices_Sort_string_none none 0 v.w).mono (by rintro e w' ⟨rfl,rfl⟩;exact⟨rfl,⟨rfl,rfl,rfl,Nat.le_refl _,fun _ _=>rfl⟩,.inr (Nat.le_refl _)⟩));exact⟨T.callable,fun v a b=>(T.run v a b).mono (by rintro e w' ⟨x,v',e1,e2,e3,e4,e5⟩;exact⟨⟨[],by simpa using bk_.nil _ _⟩,v',e1,e2,e3,e4,e5⟩)⟩
  · have T:=lK_ (P:=Tryz.prog) (Γ:=[]) (d:=(xs.mergeSort fun x y=>decide (x≤y)).toArray) (callable Tryz.func97 rfl rfl) (fun v hs=>Tryz.slices_Sort_string g 0 cap xs v.w (nN_ (n:=0) (cap:=0) hs h6) (Array.getElem?_eq_some_iff.1 (hs.own _ List.mem_cons_self).1).1 (by omega))
    have hsz:(xs.mergeSort fun x y=>decide (x≤y)).length=xs.length:=List.length_mergeSort _;refine⟨T.callable,fun v a b=>(T.run v a b).mono ?_⟩;rintro e w' ⟨x,v',e1,e2,e3,e4,e5⟩;refine⟨⟨_,by rw[ej_ by_ 1 aK_,hsz],.inr ⟨g,cap,_,rfl,rfl,h3,h4,by rw[po_];exact h5,?_⟩⟩,v',e1,e2,e3,e4,e5⟩;have:=pn_ (cur:=cur) (d:=xs.mergeSort fun x y=>decide (x≤y)) (by rw[hsz,h5];omega);rw[hsz]at this;rw[Nat.mul_one];exact this
theorem mM_ {sv:Value} {xs:List Str} {Hr:Hp} (h:bk_ 9 1 sv xs.length (xs.flatMap by_) Hr) (hl:xs.length≤1000000000000) :
    Tri Tryz.prog 98 #[sv] Hr [] (fun y:{y:Value×Hp // bk_ 9 1 y.1 (Lib.compact xs).length ((Lib.compact xs).flatMap by_) y.2}=>y.1.1) (fun y=>y.1.2) (fun _=>[]):=by
  rcases h.2 with⟨rfl,h2,rfl⟩|⟨g,cap,cur,rfl,rfl,h3,h4,h5,h6⟩
  · obtain rfl:xs=[]:=List.eq_nil_of_length_eq_zero h2
    have T:=eq_ (P:=Tryz.prog) (H:=[]) (Γ:=[]) (callable Tryz.func98 rfl rfl) (fun v _ _=>(Tryz.slices_Compact_string_empty none 0 v.w).mono (by rintro e w' ⟨rfl,rfl⟩;exact⟨rfl,⟨rfl,rfl,rfl,Nat.le_refl _,fun _ _=>rfl⟩,.inr (Nat.le_refl _)⟩));exact⟨T.callable,fun v a b=>(T.run v a b).mono (by rintro e w' ⟨x,v',e1,e2,e3,e4,e5⟩;exact⟨⟨(.slice none 0 0,[]),by simpa [Lib.compact,Lib.compactUpTo] using bk_.nil _ _⟩,v',e1,e2,e3,e4,e5⟩)⟩
  · have hcl:=iP_ xs
    have T:=lK_ (P:=Tryz.prog) (Γ:=[]) (r:=.slice (some ⟨g,0,none⟩) (Lib.compact xs).length cap) (d:=(Lib.compact xs++List.replicate (xs.length - (Lib.compact xs).length) []).toArray) (callable Tryz.func98 rfl rfl) (fun v hs=>(Tryz.slices_Compact_string g 0 cap xs v.w (nN_ (n:=0) (cap:=0) hs h6) (by omega) h3).mono (by
      rintro e w' ⟨rfl,q,rfl⟩;exact⟨rfl,q,#[],by rw[Sort.grow_empty]⟩))
    refine⟨T.callable,fun v a b=>(T.run v a b).mono ?_⟩;rintro e w' ⟨x,v',e1,e2,e3,e4,e5⟩;refine⟨⟨(.slice (some ⟨g,0,none⟩) (Lib.compact xs).length cap,_),by rw[ej_ by_ 1 aK_],.inr ⟨g,cap,_,rfl,rfl,by omega,h4,by rw[po_];exact h5,?_⟩⟩,v',e1,e2,e3,e4,e5⟩;have hd:(Lib.compact xs++List.replicate (xs.length - (Lib.compact xs).length) ([]:Str)).length=xs.length:=by simp;omega
    have:=pn_ (cur:=cur) (d:=Lib.compact xs++List.replicate (xs.length - (Lib.compact xs).length) []) (by rw[hd,h5];omega);rw[hd]at this;have h7:=congrArg (List.take (Lib.compact xs).length) this;rw[List.take_take,Nat.min_eq_left hcl,List.flatMap_append,List.take_append_of_le_length (by rw[ej_ by_ 1 aK_];omega),List.take_of_length_le (l:=(Lib.compact xs).flatMap by_) (by rw[ej_ by_ 1 aK_];omega)]at h7;rw[Nat.mul_one];exact h7
theorem rN_ (l:List Pc) (ad:Option Addr) (cap:Nat) (hl:l.length≤100000000000):Tri Tryz.prog 73 #[.slice ad (List.length l) cap] [] [aC_ ad (List.flatMap Pc.cells l)] (fun y:{y:Option Addr×Nat // (dl_ l).length≤y.2∧y.2≤maxLen}=>.slice y.1.1 (dl_ l).length y.1.2) (fun _=>[]) (fun y=>[aC_ y.1.1 ((dl_ l).flatMap by_)]):=by
 refine w_ Tryz.func73 rfl rfl Tryz.ntmps73 rfl fun v0=>?_;refine Zz 14 ?_;refine bR_ [(2,.slice none 0 0),(7,.slice ad (List.length l) cap),(8,.int .i64 (List.length l:Int)),(9,.int .i64 ((0:Nat):Int))] zl ?_;refine cb_ (ι:={y:Nat×Value×Hp // y.1≤l.length∧bk_ 9 1 y.2.1 (dH_ (l.take y.1)).length ((dH_ (l.take y.1)).flatMap by_) y.2.2}) (fun y=>[(2,y.1.2.1),(7,.slice ad (List.length l) cap),(8,.int .i64 (List.length l:Int)),(9,.int .i64 (y.1.1:Int))]) (fun y=>y.1.2.2) (fun _=>_) (fun y=>l.length - y.1.1) ⟨(0,.slice none 0 0,[]),by simp,bk_.nil _ _⟩ ?_;rintro ⟨⟨i,sv,Hr⟩,hi,hrow⟩;dsimp only at hi hrow;dsimp only;have hol:=jF_ (l.take i);rw[List.length_take]at hol;refine bR_ [(2,sv),(7,.slice ad (List.length l) cap),(8,.int .i64 (List.length l:Int)),(9,.int .i64 (i:Int))] zl ?_;refine Zi 2 (fun hr1=>?_) fun hr1=>?_
 ·refine Zz 7 ?_
  have et:l.take i=l:=List.take_of_length_le (by omega);rw[et]at hrow hol;refine Zz 2 ?_;refine n_ (rv_ hrow (by omega)) rfl bx_ zt rfl fun⟨Hs,hs⟩=>?_;dsimp only;refine S_ (List.Perm.symm bx_) ?_;have hs2:bk_ 9 1 sv ((dH_ l).mergeSort fun x y=>decide (x≤y)).length (((dH_ l).mergeSort fun x y=>decide (x≤y)).flatMap by_) Hs:=by rw[List.length_mergeSort];exact hs
  refine Zz 5 ?_;refine n_ (mM_ hs2 (by rw[List.length_mergeSort];omega)) rfl bx_ zt rfl fun⟨⟨sc,Hc⟩,hc⟩=>?_;dsimp only;refine S_ (List.Perm.symm bx_) (Zz 4 ?_);refine dE_ hc bx_ fun ad2 cp2 hsv hc1 hc2=>?_;exact T_ Tryz.results73 ⟨(ad2,cp2),hc1,hc2⟩ (jg_ rfl hsv) j_ zf
 obtain⟨hlx1,x1,hx1,hmx1⟩:=zge (show i<List.length l by omega);refine Zz 12 ?_;refine E_ am_ rfl fun b1=>z_ 0 U_ rfl rfl rfl rfl rfl rfl (Zz 10 ?_)
 refine af_ D_ X_ aP_ rfl rfl rfl rfl rfl rfl fun b2=>?_;refine bh_ (List.flatMap by_ [x1.a,x1.b,x1.c]) e_ rfl ?_;refine Zz 5 ?_;refine bR_ [(2,sv),(7,.slice ad (List.length l) cap),(8,.int .i64 (List.length l:Int)),(9,.int .i64 (i:Int)),(19,.slice (some ⟨b2,0,none⟩) (List.length [x1.a,x1.b,x1.c]) 3),(20,.int .i64 3),(21,.int .i64 ((0:Nat):Int))] zl ?_;refine cb_ (ι:={y:Nat×Value×Hp // y.1≤3∧bk_ 9 1 y.2.1 (dH_ (l.take i)++(List.take y.1 [x1.a,x1.b,x1.c]).filter fun s=>!(s==[])).length ((dH_ (l.take i)++(List.take y.1 [x1.a,x1.b,x1.c]).filter fun s=>!(s==[])).flatMap by_) y.2.2}) (fun y=>[(2,y.1.2.1),(7,.slice ad (List.length l) cap),(8,.int .i64 (List.length l:Int)),(9,.int .i64 (i:Int)),(19,.slice (some ⟨b2,0,none⟩) (List.length [x1.a,x1.b,x1.c]) 3),(20,.int .i64 3),(21,.int .i64 (y.1.1:Int))]) (fun y=>_:: y.1.2.2) (fun _=>_) (fun y=>3 - y.1.1) ⟨(0,sv,Hr),by simp,by simpa using hrow⟩ ?_;rintro ⟨⟨k,sw,Hw⟩,hk,hkr⟩;dsimp only at hk hkr;dsimp only
 have hfl:((dH_ (l.take i)++(List.take k [x1.a,x1.b,x1.c]).filter fun s=>!(s==[]))).length≤(dH_ (l.take i)).length+3:=by
   have:=List.length_filter_le (fun s=>!(s==[])) (List.take k [x1.a,x1.b,x1.c]);simp only[List.length_append,List.length_take,List.length_cons,List.length_nil]at this ⊢;omega
 refine bR_ [(2,sw),(7,.slice ad (List.length l) cap),(8,.int .i64 (List.length l:Int)),(9,.int .i64 (i:Int)),(19,.slice (some ⟨b2,0,none⟩) (List.length [x1.a,x1.b,x1.c]) 3),(20,.int .i64 3),(21,.int .i64 (k:Int))] zl ?_;refine Zi 2 (fun hr2=>?_) fun hr2=>?_
 ·refine Zz 11 ?_
  have hst:dH_ (l.take (i+1))=dH_ (l.take i)++kW_ x1:=by unfold dH_;rw[List.take_add_one,hx1,List.flatMap_append];simp
  exact aa_ ⟨(i+1,sw,Hw),hlx1,by dsimp only;rw[hst];have:=hkr;rw[List.take_of_length_le (show [x1.a,x1.b,x1.c].length≤k by simp;omega)]at this;exact this⟩ (by dsimp only;omega) zl (c_ bx_) (fun _ _ h=>h.2)
 have hly1:k<List.length [x1.a,x1.b,x1.c]:=by simp;omega
 obtain⟨y1,hy1⟩:∃ e0,[x1.a,x1.b,x1.c][k]? = some e0:=⟨_,List.getElem?_eq_getElem hly1⟩;have hmy1:y1∈[x1.a,x1.b,x1.c]:=List.mem_of_getElem? hy1;refine Zz 11 ?_;refine d_ (bm_ (ad:=(some ⟨b2,0,none⟩)) al_ rfl zf (K_ aK_ hy1 0 _ rfl)) rfl (Zi 6 (fun hr3=>?_) fun hr3=>?_)
 ·refine Zz 10 ?_
  have hst:(dH_ (l.take i)++(List.take (k+1) [x1.a,x1.b,x1.c]).filter fun s=>!(s==[]))=(dH_ (l.take i)++(List.take k [x1.a,x1.b,x1.c]).filter fun s=>!(s==[]))++[y1].filter (fun s=>!(s==[])):=by rw[List.append_assoc,← List.filter_append,List.take_add_one,hy1];simp
  rw[show [y1].filter (fun s=>!(s==[]))=[] by simp[*],List.append_nil]at hst;exact aa_ ⟨(k+1,sw,Hw),by dsimp only;omega,by dsimp only;rw[hst];exact hkr⟩ (by dsimp only;omega) zl zp zh
 refine Zz 6 ?_;refine af_ D_ X_ aP_ rfl rfl rfl rfl rfl rfl fun b3=>?_;refine aJ_ (news:=[str y1]) eltS hkr rfl rfl zp rfl (bF_ 0 rfl) (jc_ rfl) (by simp only[maxLen];omega) (by omega) rfl fun sv2 Hr2 hrow2=>?_;refine S_ (@List.perm_append_comm _ _ [_,_]) (Zz 8 ?_);have hst:(dH_ (l.take i)++(List.take (k+1) [x1.a,x1.b,x1.c]).filter fun s=>!(s==[]))=(dH_ (l.take i)++(List.take k [x1.a,x1.b,x1.c]).filter fun s=>!(s==[]))++[y1].filter (fun s=>!(s==[])):=by rw[List.append_assoc,← List.filter_append,List.take_add_one,hy1];simp
 rw[show [y1].filter (fun s=>!(s==[]))=[y1] by simp[*]]at hst;exact aa_ ⟨(k+1,sv2,Hr2),by dsimp only;omega,by dsimp only;rw[hst];rw[List.length_append (bs:=[y1]),List.flatMap_append (ys:=[y1])];exact hrow2⟩ (by dsimp only;omega) zl (t_ (c_ e_) (c_ bx_)) zh
end Go.Proofs.YtaffcjgphlhppaaGreatDoor
namespace Go.Sx
open Go
section
variable {P:Program} {N:Nf} {v0:Vw} {H0:Hp} {R:Exit→Act→World→Prop} {K:List Kt} {fr:Fr} {H:Hp} {Γ:List Fct}
variable {ops:Array Oper} {l:List Oper} {d:Nat} {ty:TypeId} {ps:String} {af:Array Edge}
end
end Go.Sx
namespace Go.Vs
open Go Go.Sx
def Cov (hs:List Bool) (L S:List Str):Prop:=hs.length=L.length∧∀ (n:Nat) (s:Str),L[n]? = some s→s∈S→hs[n]? = some true
theorem Cov.nil (L:List Str):Cov (List.replicate L.length false) L []:=⟨by simp,fun _ _ _ h=>by simp at h⟩
theorem Cov.set {hs:List Bool} {L S:List Str} (h:Cov hs L S) (n:Nat):Cov (hs.set n true) L S:=⟨by rw[List.length_set];exact h.1,fun m s h1 h2=>by
 have h3:=h.2 m s h1 h2;rw[List.getElem?_set]
 split
 ·rename_i e
  subst e;rw[if_pos (List.getElem?_eq_some_iff.1 h3).1]
 exact h3⟩
def rk_ (hs:List Bool) (L S:List Str) (y:Str) (n:Nat):Prop:=Cov hs L S∧∀ m,m<n→L[m]? = some y→hs[m]? = some true
theorem rk_.zero {hs:List Bool} {L S:List Str} {y:Str} (h:Cov hs L S):rk_ hs L S y 0:=⟨h,fun _ h=>by omega⟩
theorem rk_.hit {hs:List Bool} {L S:List Str} {y:Str} {n:Nat} (h:rk_ hs L S y n) (hn:n<L.length):rk_ (hs.set n true) L S y (n+1):=⟨h.1.set n,fun m hm e=>by
 rw[List.getElem?_set]
 split
 ·rename_i e
  rw[if_pos (by rw[h.1.1];omega)]
 rename_i e2
 exact h.2 m (by omega) e⟩
theorem rk_.done {hs:List Bool} {L S:List Str} {y:Str} {n:Nat} (h:rk_ hs L S y n) (hn:L.length≤n):Cov hs L (S++[y]):=⟨h.1.1,fun m s h1 h2=>by
 rcases List.mem_append.1 h2 with h2|h2
 ·exact h.1.2 m s h1 h2
 simp only[List.mem_singleton]at h2;subst h2;have:=(List.getElem?_eq_some_iff.1 h1).1;exact h.2 m (by omega) h1⟩
def three (p:Pc):List Str:=[p.a,p.b,p.c]
theorem Cov.all {hs:List Bool} {l:List Pc} (h:Cov hs (dl_ l) (l.flatMap three)) {n:Nat} (hn:n<(dl_ l).length):hs[n]? = some true:=by
  have hm:=(jG_ l _).1 (List.getElem_mem hn);refine h.2 n _ (List.getElem?_eq_getElem hn) ?_;simp only[dH_,List.mem_flatMap,kW_,List.mem_filter]at hm;obtain⟨p,h1,h2⟩:=hm;exact List.mem_flatMap.2 ⟨p,h1,h2.1⟩
end Go.Vs
namespace Go.Vs
open Go Go.Sx
-- valid pieces,kind by kind
section
variable {a b c r s t:Str} {lo hi f:Int}
end
-- atoms
-- roles
structure RInv (s:Str) (a i:Nat) (dn:List Str):Prop where
  le:a≤i
  il:i≤s.length
  no:ixS 46 ((s.drop a).take (i - a))=none
  sp:bd_ 46 s=dn++bd_ 46 (s.drop a)
  al:dn.all bb_=true
structure REnd (s:Str) (i:Nat) (dn:List Str):Prop where
  il:i=s.length+1
  sp:bd_ 46 s=dn
  al:dn.all bb_=true
theorem RInv.len {s:Str} {a i:Nat} {dn:List Str} (h:RInv s a i dn):dn.length≤s.length+1:=by
  have h1:=er_ 46 s;have h2:=kx_ 46 s;rw[h.sp,List.length_append]at h1;omega
theorem REnd.len {s:Str} {i:Nat} {dn:List Str} (h:REnd s i dn):dn.length≤s.length+1:=by
  have h1:=er_ 46 s;have h2:=kx_ 46 s;rw[h.sp]at h1;omega
theorem REnd.role {s:Str} {i:Nat} {dn:List Str} (h:REnd s i dn):cp_ s=decide ((dn.length:Int)≤4):=by
  unfold cp_;rw[h.sp]
  have:dn.any (fun r=>!bb_ r)=false:=by
    rw[List.any_eq_false];intro x hx;have:=List.all_eq_true.1 h.al x hx;simp[this]
  rw[this];simp
  omega
-- sorted insertion
end Go.Vs
namespace Go.Proofs.YtaffcjgphlhppaaGreatDoor
open Go Go.Sx Go.Proofs
attribute [local irreducible] Code.wp wpList wpAnyH
open Go.Vs
theorem wv_:∀ (m:Nat) (c:Con),c.sz≤m→c.ok→∀ (d most:Int),0≤d∧d≤40→0≤most∧most≤1000→Tri Tryz.prog 117 #[Con.val c,.int .i64 d,.int .i64 most] [] [Con.memF c] (fun r:{r:Int // 1≤r∧r≤most+4398046511104}=>.int .i64 r.1) (fun _=>[]) (fun _=>[]):=by
 intro m
 induction m with
 | zero=>intro c h;have:=c.sz_pos;omega
 | succ m ih =>
   intro c hm hok d most hd hmost;have hnl:=Con.ok_name hok;have hpl:=Con.ok_len hok;refine w_ Tryz.func117 rfl rfl Tryz.ntmps117 rfl fun v0=>?_;refine Zz 2 ?_;refine ah_ rfl rfl fun b1=>Zi 7 (fun hr1=>?_) fun hr1=>?_
   · skip
     refine Zz 9 ?_;refine d_ (cj_ V_ rfl) rfl (d_ (bG_ (ve_ (n:=40) rfl rfl (by decide) (bW_ (r:=((List.length (Con.name c) / 40:Nat):Int)) (by omega) (by omega))) (show _=Value.int .i64 ((List.length (Con.name c) / 40:Nat):Int) from rfl)) rfl (Zz 11 ?_));refine bR_ [(1,.int .i64 d),(2,.int .i64 most),(3,zp_ b1 0),(7,.int .i64 (1+((List.length (Con.name c) / 40:Nat):Int))),(8,.int .i64 ((0:Nat):Int))] zl ?_;refine cb_ (ι:={x:Nat×Int // x.1≤c.parts.length∧1≤x.2∧x.2≤most+4398046511104}) (fun x=>[(1,.int .i64 d),(2,.int .i64 most),(3,zp_ b1 0),(7,.int .i64 x.1.2),(8,.int .i64 (x.1.1:Int))]) (fun _=>_) (fun _=>_) (fun x=>c.parts.length - x.1.1) ⟨(0,1+((List.length (Con.name c) / 40:Nat):Int)),by simp,by dsimp only;omega,by dsimp only;omega⟩ ?_;rintro ⟨⟨i,n⟩,hk⟩;dsimp only at hk;refine bR_ [(1,.int .i64 d),(2,.int .i64 most),(3,zp_ b1 0),(7,.int .i64 n),(8,.int .i64 (i:Int))] zl ?_;refine Zz 7 ?_;refine J_ (ca_ rfl rfl) rfl fun r2 hr2=>Zz 1 ?_
     refine aT_ 4 ((decide ((i:Int)<(List.length (Con.parts c):Int)))&&(decide (n≤most))) (fun r=>[(1,.int .i64 d),(2,.int .i64 most),(3,zp_ b1 0),(7,.int .i64 n),(8,.int .i64 (i:Int)),(27,.bool r)]) ?_ fun r3 hr3=>?_
     · skip
       cases r2
       · skip
         have qr3:=hr2;replace hr2:=zdf hr2;refine Zz 6 ?_;exact met ⟨rfl,rfl,rfl,rfl,rfl,(l_ rfl (jaf qr3)),trivial⟩
       · skip
         have qr3:=hr2;replace hr2:=zdt hr2;refine Zz 5 ?_;refine J_ (ep_ rfl rfl) rfl fun r4 hr4=>Zz 3 ?_
         exact met ⟨rfl,rfl,rfl,rfl,rfl,(l_ rfl (jat qr3 hr4)),trivial⟩
     · skip
       refine Zz 2 ?_;cases r3
       · skip
         simp at hr3
         refine Zz 10 ?_;exact T_ Tryz.results117 ⟨n,by omega,by omega⟩ rfl (@List.perm_append_comm _ [_] _) zt
       · skip
         simp at hr3
         skip;obtain⟨hlx1,x1,hx1,hmx1⟩:=zge (show i<List.length (Con.parts c) by omega);refine Zz 10 ?_;refine d_ (ab_ ao_ q_ rfl rfl (fun v _ h=>O_ (n:=5) Con.cells_len (by decide) (by exact ((Con.mem_iff c v).1 h.1).1) hx1) (by omega) (by first|omega|(simp;done))) rfl ?_;refine d_ (as_ (ad:=(Con.ad c)) (us:=Con.cells x1) N_ q_ rfl (fun v _ h=>by exact ((Con.mem_iff c v).1 h.1).1) (Con.cells_len _) (K_ Con.cells_len hx1)) rfl (Zz 5 ?_);refine n_ (ih x1 (by have:=Con.sz_part hmx1;omega) (Con.ok_part hok hmx1) (d - 1) (most - n) ⟨by omega,by omega⟩ ⟨by omega,by omega⟩) rfl j_ (fun v _ h=>by exact⟨(Con.mem_part (c:=c) h.1 hmx1),trivial⟩) rfl fun⟨r,hr1,hr2⟩=>?_;dsimp only;refine Zz 10 ?_;exact aa_ ⟨(i+1,n+r),hlx1,by dsimp only;omega,by dsimp only;omega⟩ (by dsimp only;omega) zl (.refl _) zh
   · skip
     refine Zz 11 ?_;exact T_ Tryz.results117 ⟨(most+1),by omega,by omega⟩ rfl (@List.perm_append_comm _ [_] _) zt
theorem rL_ (c:Con) (hok:c.ok):Tri Tryz.prog 57 #[Con.val c] [] [Con.memF c] (fun b:Bool=>.bool b) (fun _=>[]) (fun _=>[]):=by
  refine w_ Tryz.func57 rfl rfl Tryz.ntmps57 rfl fun v0=>?_;refine Zz 2 ?_;refine ah_ rfl rfl fun b1=>Zz 6 ?_
  refine n_ (wv_ _ c (Nat.le_refl _) hok 40 150 ⟨by decide,by decide⟩ ⟨by decide,by decide⟩) rfl j_ zf rfl fun⟨r,hr1,hr2⟩=>?_;dsimp only;refine J_ (ep_ rfl rfl) rfl fun r1 hr1=>Zz 4 ?_
  exact T_ Tryz.results57 r1 rfl (@List.perm_append_comm _ [_] _) zt
theorem mJ_ (x:Ax) (hok:x.ok):Tri Tryz.prog 23 #[Ax.val x] [] [Ax.memF x] (fun b:Bool=>.bool b) (fun _=>[]) (fun _=>[]):=by
 refine w_ Tryz.func23 rfl rfl Tryz.ntmps23 rfl fun v0=>?_;have h1:=hok.role;have h2:=hok.a;have h3:=hok.b;have h4:=hok.len;have h5:=hok.cap;refine Zz 2 ?_;refine ah_ rfl rfl fun b1=>Zz 7 ?_
 refine d_ (cj_ V_ rfl) rfl (Zz 2 ?_);refine d_ (cj_ V_ rfl) rfl (Zz 3 ?_);refine d_ (cj_ V_ rfl) rfl (Zz 16 ?_);refine bR_ [(1,zp_ b1 0),(3,.int .i64 (((((Ax.role x).length:Int)+((Ax.a x).length:Int))+((Ax.b x).length:Int))+(10*(List.length (Ax.roles x):Int)))),(4,.int .i64 ((0:Nat):Int))] zl ?_;refine cb_ (ι:={y:Nat×Int // y.1≤x.roles.length∧y.1≤100∧0≤y.2∧y.2≤444444444444444444+y.1*140737488351232}) (fun y=>[(1,zp_ b1 0),(3,.int .i64 y.1.2),(4,.int .i64 (y.1.1:Int))]) (fun _=>_) (fun _=>_) (fun y=>x.roles.length - y.1.1) ⟨(0,(((((Ax.role x).length:Int)+((Ax.a x).length:Int))+((Ax.b x).length:Int))+(10*(List.length (Ax.roles x):Int)))),by simp,by simp,by dsimp only;omega,by dsimp only;omega⟩ ?_;rintro ⟨⟨i,n⟩,hk⟩;dsimp only at hk;refine bR_ [(1,zp_ b1 0),(3,.int .i64 n),(4,.int .i64 (i:Int))] zl ?_;refine Zi 7 (fun hr1=>?_) fun hr1=>?_
 ·refine Zi 12 (fun hr2=>?_) fun hr2=>?_
  ·refine Zz 14 ?_
   exact T_ lW_ false rfl (@List.perm_append_comm _ [_] _) zt
  refine Zz 6 ?_;refine n_ (rL_ (Ax.left x) hok.left) rfl j_ (fun v _ h=>by exact⟨h.1.1,trivial⟩) rfl fun f1=>Zz 2 ?_
  cases f1
  ·refine Zz 8 ?_
   exact T_ lW_ false rfl (@List.perm_append_comm _ [_] _) zt
  refine Zz 5 ?_;refine n_ (rL_ (Ax.right x) hok.right) rfl j_ (fun v _ h=>by exact⟨h.1.2.1,trivial⟩) rfl fun f2=>Zz 5 ?_
  exact T_ lW_ f2 rfl (@List.perm_append_comm _ [_] _) zt
 refine Zi 4 (fun hr3=>?_) fun hr3=>?_
 ·refine Zi 9 (fun hr4=>?_) fun hr4=>?_
  ·refine Zz 14 ?_
   exact T_ lW_ false rfl (@List.perm_append_comm _ [_] _) zt
  refine Zz 6 ?_;refine n_ (rL_ (Ax.left x) hok.left) rfl j_ (fun v _ h=>by exact⟨h.1.1,trivial⟩) rfl fun f3=>Zz 2 ?_
  cases f3
  ·refine Zz 8 ?_
   exact T_ lW_ false rfl (@List.perm_append_comm _ [_] _) zt
  refine Zz 5 ?_;refine n_ (rL_ (Ax.right x) hok.right) rfl j_ (fun v _ h=>by exact⟨h.1.2.1,trivial⟩) rfl fun f4=>Zz 5 ?_
  exact T_ lW_ f4 rfl (@List.perm_append_comm _ [_] _) zt
 obtain⟨hlx1,x1,hx1,hmx1⟩:=zge (show i<List.length (Ax.roles x) by omega);have hrl:=hok.roles x1 hmx1;refine Zz 13 ?_;refine d_ (ab_ D_ X_ rfl rfl (fun v _ h=>O_ (n:=1) aK_ (by decide) (by exact h.1.2.2) hx1) (by omega) (by first|omega|(simp;done))) rfl ?_;refine d_ (bm_ (ad:=(Ax.ad x)) al_ rfl (fun v _ h=>by exact h.1.2.2) (K_ aK_ hx1 0 _ rfl)) rfl (d_ (cj_ V_ rfl) rfl (Zz 10 ?_));exact aa_ ⟨(i+1,n+(List.length x1:Int)),hlx1,by dsimp only;omega,by dsimp only;omega,by dsimp only;omega⟩ (by dsimp only;omega) zl (.refl _) zh
theorem qc_ (l:List Ax) (ad:Option Addr) (cap:Nat) (most:Int) (hcap:l.length≤cap∧cap≤2199023255488) (hok:∀ x∈l,x.ok):Tri Tryz.prog 22 #[.slice ad (List.length l) cap,.int .i64 most] [] [ne_ ad l] (fun b:{b:Bool // b=true→(l.length:Int)≤most}=>.bool b.1) (fun _=>[]) (fun _=>[]):=by
 refine w_ Tryz.func22 rfl rfl Tryz.ntmps22 rfl fun v0=>?_;refine Zi 11 (fun hr1=>?_) fun hr1=>?_
 ·refine Zz 12 ?_
  refine bR_ [(0,.slice ad (List.length l) cap),(5,.int .i64 ((0:Nat):Int))] zl ?_;refine cb_ (ι:={q:Nat // q≤l.length}) (fun i=>[(0,.slice ad (List.length l) cap),(5,.int .i64 (i.1:Int))]) (fun _=>_) (fun _=>_) (fun i=>l.length - i.1) ⟨0,by simp⟩ ?_;rintro ⟨i,hk⟩;refine bR_ [(0,.slice ad (List.length l) cap),(5,.int .i64 (i:Int))] zl ?_;refine Zi 6 (fun hr2=>?_) fun hr2=>?_
  ·refine Zz 11 ?_
   exact T_ Tryz.results22 ⟨true,fun _=>by omega⟩ rfl (.refl _) zt
  obtain⟨hlx1,x1,hx1,hmx1⟩:=zge (show i<List.length l by omega);refine Zz 11 ?_;refine d_ (ab_ bv_ dx_ rfl rfl (fun v _ h=>O_ (n:=16) Ax.cells_len (by decide) (by exact h.1.1) hx1) (by omega) (by first|omega|(simp;done))) rfl ?_;refine d_ (as_ (ad:=ad) (us:=Ax.cells x1) iI_ dx_ rfl (fun v _ h=>by exact h.1.1) (Ax.cells_len _) (K_ Ax.cells_len hx1)) rfl (n_ (mJ_ x1 (hok x1 hmx1)) rfl j_ (fun v _ h=>by exact⟨(h.1.2 x1 hmx1),trivial⟩) rfl fun r=>d_ (bn_ rfl) rfl (Zz 2 ?_));cases r
  ·refine Zz 7 ?_
   exact T_ Tryz.results22 ⟨false,fun h=>by cases h⟩ rfl (.refl _) zt
  refine Zz 9 ?_;exact aa_ ⟨i+1,hlx1⟩ (by simp;omega) zl (.refl _) zh
 refine Zz 9 ?_;exact T_ Tryz.results22 ⟨false,fun h=>by cases h⟩ rfl (.refl _) zt
end Go.Proofs.YtaffcjgphlhppaaGreatDoor
