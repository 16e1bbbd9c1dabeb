/-
  Part of the proof of the law ModuleExact over this seat: the small logic, the data, the contracts of functions (no condition).
-/
import Derived.Test.YtamklbgaipakfaaGreatDoorQModuleExact3
import Derived.Test.YtamklbgaipakfaaGreatDoorQModuleExact5
import Derived.Test.YtamklbgaipakfaaGreatDoorQModuleExact4
import Derived.Test.YtamklbgaipakfaaGreatDoorQModuleExact2
import Derived.ProofKit
import Derived.OpenShut
import Derived.ReadAgain
import Derived.Deep.Slices
set_option linter.unusedVariables false
set_option linter.unusedSimpArgs false
set_option linter.unusedSectionVars false
set_option maxHeartbeats 1000000
namespace Go.Proofs.YtamklbgaipakfaaGreatDoor
open Go Go.Sx Go.Proofs
attribute [local irreducible] Code.wp wpList wpAnyH
open Go.Vs
theorem aL_.form {e:TypeId} {sz n:Nat} {sv:Value} {xs:List Value} {Hr:Hp} (h:aL_ e sz sv n xs Hr):∃ ad cap,sv=.slice ad n cap:=by
 rcases h.2 with⟨h1,h2,_⟩|⟨g,cap,cur,h1,_⟩
 ·exact⟨none,0,by rw[h1,h2]⟩
 exact⟨_,cap,h1⟩
theorem aL_.nilcap {e:TypeId} {sz n m cap:Nat} {sv:Value} {xs:List Value} {Hr:Hp} {ad:Option Addr} (h:aL_ e sz sv n xs Hr) (hs:sv=.slice ad m cap):ad=none→cap=0:=fun h0=>by
 rcases h.2 with⟨h1,_,_⟩|⟨g,c,cur,h1,_⟩
 ·rw[h1]at hs;simp only[Value.slice.injEq]at hs;exact hs.2.2.symm
 rw[h1,h0]at hs;simp at hs
theorem mL_ (l:List Ax) (ad:Option Addr) (cap:Nat) (hcap:l.length≤2199023255488) (hok:∀ x∈l,x.ok) :
    Tri Tryz.prog 27 #[.slice ad l.length cap] [] [dw_ ad l,cq_] (fun y:{y:Option Addr×Nat // (az_ l).1.length≤y.2∧y.2≤maxLen∧(y.1=none→y.2=0)}=>.tuple #[.slice y.1.1 (az_ l).1.length y.1.2,.int .i64 (az_ l).2]) (fun _=>[]) (fun y=>[al_ y.1.1 ((az_ l).1.flatMap Pc.cells)]):=by
  refine l_ Tryz.func27 rfl rfl Tryz.ntmps27 rfl fun v0=>?_
  refine X_ ?_
  refine I_ ?_
  refine d_ (W_ rfl) rfl ?_
  refine d_ (W_ rfl) rfl ?_
  refine aa_ ?_
  refine G_ rfl ?_
  refine X_ ?_
  refine X_ ?_
  refine I_ ?_
  refine d_ (t_ rfl) rfl ?_
  refine d_ (dp_ Q_ rfl) rfl ?_
  refine D_ (ea_ rfl rfl) rfl fun r1 hr1=>?_
  refine aa_ ?_
  refine G_ rfl ?_
  cases r1
  · skip
    replace hr1:=zdf hr1
    try dsimp only[Con.kind,Con.parts,Con.name,Con.lo,Con.hi,Con.cap,Con.ad]at hr1
    refine aW_ rfl ?_
    refine bt_ ?_
    refine G_ rfl ?_
    refine X_ ?_
    refine X_ ?_
    refine I_ ?_
    refine d_ (t_ rfl) rfl ?_
    refine d_ (dp_ Q_ rfl) rfl ?_
    refine d_ (t_ rfl) rfl ?_
    refine aa_ ?_
    refine G_ rfl ?_
    refine cy_ ?_
    refine bx_ [(0,.slice ad l.length cap),(2,.slice none 0 0),(13,.slice ad l.length cap),(14,.int .i64 (l.length:Int)),(15,.int .i64 ((0:Nat):Int))] zl ?_
    refine bL_ (ι:={q:Nat // q≤l.length∧∀ y∈l.take q,y.check=0}) (fun i=>[(0,.slice ad l.length cap),(2,.slice none 0 0),(13,.slice ad l.length cap),(14,.int .i64 (l.length:Int)),(15,.int .i64 (i.1:Int))]) (fun _=>_) (fun _=>_) (fun i=>l.length - i.1) ⟨0,by simp⟩ ?_
    rintro ⟨i,hk⟩
    refine bx_ [(0,.slice ad l.length cap),(2,.slice none 0 0),(13,.slice ad l.length cap),(14,.int .i64 (l.length:Int)),(15,.int .i64 (i:Int))] zl ?_
    refine X_ ?_
    refine I_ ?_
    refine D_ (dg_ rfl rfl) rfl fun r2 hr2=>?_
    refine aa_ ?_
    refine G_ rfl ?_
    refine X_ ?_
    cases r2
    · skip
      replace hr2:=zdf hr2
      try dsimp only[Con.kind,Con.parts,Con.name,Con.lo,Con.hi,Con.cap,Con.ad]at hr2
      obtain rfl:i=l.length:=by omega
      try rw[List.take_length]at hk
      refine aW_ rfl ?_
      refine fC_ rfl ?_
      refine G_ rfl ?_
      refine X_ ?_
      refine X_ ?_
      refine I_ ?_
      refine d_ (t_ rfl) rfl ?_
      refine d_ (dp_ Q_ rfl) rfl ?_
      refine d_ (t_ rfl) rfl ?_
      refine aa_ ?_
      refine G_ rfl ?_
      refine cy_ ?_
      have hall:=hk.2
      refine bx_ [(2,.slice none 0 0),(25,.slice ad l.length cap),(26,.int .i64 (l.length:Int)),(27,.int .i64 ((0:Nat):Int))] zl ?_
      refine bL_ (ι:={x:Nat×List Pc×Value×Hp // x.1≤l.length∧aL_ 58 10 x.2.2.1 x.2.1.length (x.2.1.flatMap Pc.cells) x.2.2.2∧x.2.1.length≤16384∧hr_ 0 l []=hr_ x.1 (l.drop x.1) x.2.1}) (fun x=>[(2,x.1.2.2.1),(25,.slice ad l.length cap),(26,.int .i64 (l.length:Int)),(27,.int .i64 (x.1.1:Int))]) (fun x=>x.1.2.2.2) (fun _=>_) (fun x=>l.length - x.1.1) ⟨(0,[],.slice none 0 0,[]),by simp,aL_.nil _ _,by simp,rfl⟩ ?_
      clear hk
      rintro ⟨⟨i,p,sv,Hr⟩,hk⟩
      dsimp only at hk
      refine bx_ [(2,sv),(25,.slice ad l.length cap),(26,.int .i64 (l.length:Int)),(27,.int .i64 (i:Int))] zl ?_
      refine X_ ?_
      refine I_ ?_
      refine D_ (dg_ rfl rfl) rfl fun r3 hr3=>?_
      refine aa_ ?_
      refine G_ rfl ?_
      refine X_ ?_
      cases r3
      · skip
        replace hr3:=zdf hr3
        try dsimp only[Con.kind,Con.parts,Con.name,Con.lo,Con.hi,Con.cap,Con.ad]at hr3
        obtain rfl:i=l.length:=by omega
        try rw[List.take_length]at hk
        refine aW_ rfl ?_
        refine fC_ rfl ?_
        refine G_ rfl ?_
        refine X_ ?_
        refine I_ ?_
        refine d_ (t_ rfl) rfl ?_
        refine d_ (W_ rfl) rfl ?_
        refine d_ (W_ rfl) rfl ?_
        refine aa_ ?_
        refine G_ rfl ?_
        refine eK_ ?_
        refine du_ hk.2.1 (F:=[]) (by rw[List.append_nil]) fun ad2 cp2 hsv hc1 hc2=>?_
        have e:az_ l=(p,0):=by
          unfold az_;rw[if_neg (by omega),if_neg (by simp[fy_ hall]),hk.2.2.2,List.drop_length];first|done|rfl
        have hy:(az_ l).1.length≤cp2∧cp2≤maxLen∧(ad2=none→cp2=0):=by rw[e];exact⟨hc1,hc2,aL_.nilcap hk.2.1 hsv⟩
        have hz:Value.tuple #[sv,.int .i64 0]=.tuple #[.slice ad2 (az_ l).1.length cp2,.int .i64 (az_ l).2]:=by rw[e,hsv]
        have hw:(p.flatMap Pc.cells)=((az_ l).1.flatMap Pc.cells):=by rw[e]
        exact lq_ Tryz.results27 ⟨(ad2,cp2),hy⟩ rfl rfl hz (.refl _) (fun v _ h=>⟨hw▸h.1,trivial⟩)
      · skip
        replace hr3:=zdt hr3
        try dsimp only[Con.kind,Con.parts,Con.name,Con.lo,Con.hi,Con.cap,Con.ad]at hr3
        have hlt:i<l.length:=by omega
        obtain⟨x,hx⟩:∃ x,l[i]? = some x:=⟨_,List.getElem?_eq_getElem hlt⟩
        have hxm:x∈l:=List.mem_of_getElem? hx
        refine bg_ rfl ?_
        refine bt_ ?_
        refine G_ rfl ?_
        refine X_ ?_
        refine cy_ ?_
        refine X_ ?_
        have G:=Ax.good_of (hall x hxm)
        have hpl:=iK_ (i:Int) G
        refine I_ ?_
        refine d_ (t_ rfl) rfl ?_
        refine d_ (L_ Q_ S_ rfl rfl (fun v _ h=>y_ (n:=16) Ax.cells_len (by decide) (h.1.1) hx) (by omega) (by first|omega|(simp only[Con.parts];omega)|(simp[Con.parts];done))) rfl ?_
        refine d_ (af_ (ad:=ad) (us:=x.cells) bI_ S_ rfl (fun v _ h=>h.1.1) (Ax.cells_len _) (u_ Ax.cells_len hx)) rfl ?_
        refine K_ bc_ rfl fun b1=>?_
        refine d_ (W_ rfl) rfl ?_
        refine ly_ (us:=x.cells) 0 S_ x.cells_len x.one_cells rfl rfl rfl rfl ?_
        refine aa_ ?_
        refine G_ rfl ?_
        refine X_ ?_
        refine I_ ?_
        refine d_ (t_ rfl) rfl ?_
        refine f_ (hR_ (i:Int)) rfl (.refl _) zt rfl fun⟨kb,bm⟩=>?_
        refine d_ (W_ rfl) rfl ?_
        refine aa_ ?_
        refine G_ rfl ?_
        refine X_ ?_
        refine I_ ?_
        refine d_ (t_ rfl) rfl ?_
        refine d_ (mr_ (us:=x.cells) 2 bI_ S_ x.cells_len rfl rfl) rfl ?_
        refine f_ (vY_ x (hok x hxm) (hall x hxm) (i:Int) ⟨.slice none 0 0,bm,#[],0,[]⟩ ⟨aL_.nil _ _,rfl,by simp⟩) rfl (.refl _) (fun v _ h=>⟨h.1.2 x hxm,h.2.1,trivial⟩) rfl fun y=>?_
        obtain⟨⟨sv1,bm1,es1,ck1,Hr1⟩,hq⟩:=y
        have hne:=hq.row
        dsimp only at hne
        have hn0:(x.pieces (i:Int)).length≠0:=fun e=>Ax.pieces_ne _ G (List.eq_nil_of_length_eq_zero e)
        obtain⟨g,cp,cur,rfl,rfl,h3,h4,h5,h6⟩:=hne.some hn0
        refine aa_ ?_
        refine G_ rfl ?_
        refine X_ ?_
        refine I_ ?_
        refine d_ (t_ rfl) rfl ?_
        refine d_ (t_ rfl) rfl ?_
        refine d_ (jI_ rfl) rfl ?_
        refine d_ (el_ cm_ rfl rfl rfl gP_) rfl ?_
        refine d_ (bl_ 0 qN_ rfl rfl rfl) rfl ?_
        refine aG_ ur_ hk.2.1 rfl rfl (@List.perm_append_comm _ [_,_,_,_] _) (by rw[em_ Pc.cells 10 Pc.cells_len]) (sq_ 2 rfl h6) (fun u hu=>by obtain⟨y,_,hy⟩:=List.mem_flatMap.1 hu;exact io_ y.cells_one u hy) (by simp only[maxLen];omega) (by omega) rfl fun sv2 Hr2 hrow=>?_
        refine C_ (@List.perm_append_comm _ _ [_,_,_,_]) ?_
        have hln:∃ ad2 cp2,sv2=.slice ad2 (p.length+(x.pieces (i:Int)).length) cp2:=aL_.form hrow
        obtain⟨ad2,cp2,hsv⟩:=hln
        refine d_ (W_ rfl) rfl ?_
        refine aa_ ?_
        refine G_ rfl ?_
        refine X_ ?_
        refine I_ ?_
        refine d_ (t_ rfl) rfl ?_
        refine d_ (dp_ (ad:=ad2) (len:=p.length+(x.pieces (i:Int)).length) (cap:=cp2) q_ (congrArg some hsv)) rfl ?_
        refine D_ (ea_ rfl rfl) rfl fun r4 hr4=>?_
        refine aa_ ?_
        refine G_ rfl ?_
        cases r4
        · skip
          replace hr4:=zdf hr4
          try dsimp only[Con.kind,Con.parts,Con.name,Con.lo,Con.hi,Con.cap,Con.ad]at hr4
          refine aW_ rfl ?_
          refine bt_ ?_
          refine G_ rfl ?_
          refine I_ ?_
          refine d_ (aT_ rfl rfl rfl (bK_ (by omega) (by omega))) rfl ?_
          refine d_ (t_ rfl) rfl ?_
          refine aa_ ?_
          refine bJ_ rfl ?_
          exact J_ ⟨(i+1,p++x.pieces (i:Int),sv2,Hr2),hlt,by simpa [List.flatMap_append] using hrow,by simp only[List.length_append];omega,by rw[hk.2.2.2,jB_ hx];simp only[hr_];rw[if_neg (by simp only[List.length_append];omega)]⟩ (by simp;omega) zl (F:=[_,_,_,_]) (@List.perm_append_comm _ [_,_,_,_] _) zh
        · skip
          replace hr4:=zdt hr4
          try dsimp only[Con.kind,Con.parts,Con.name,Con.lo,Con.hi,Con.cap,Con.ad]at hr4
          refine bg_ rfl ?_
          refine X_ ?_
          refine I_ ?_
          refine d_ (W_ rfl) rfl ?_
          refine d_ (W_ rfl) rfl ?_
          refine aa_ ?_
          refine G_ rfl ?_
          refine eK_ ?_
          have e:az_ l=([],2):=by unfold az_;rw[if_neg (by omega),if_neg (by simp[fy_ hall]),hk.2.2.2,jB_ hx];simp only[hr_];rw[if_pos (by simp only[List.length_append];omega)]
          have hy:(az_ l).1.length≤0∧0≤maxLen∧((none:Option Addr)=none→0=0):=by rw[e];simp
          have hz:Value.tuple #[.slice none 0 0,.int .i64 2]=.tuple #[.slice none (az_ l).1.length 0,.int .i64 (az_ l).2]:=by rw[e]<;>rfl
          have hw:(az_ l).1.flatMap Pc.cells=[]:=by rw[e]<;>rfl
          exact lq_ Tryz.results27 ⟨(none,0),hy⟩ rfl rfl hz (.refl _) (fun v _ h=>⟨.inl hw,trivial⟩)
    · skip
      replace hr2:=zdt hr2
      try dsimp only[Con.kind,Con.parts,Con.name,Con.lo,Con.hi,Con.cap,Con.ad]at hr2
      have hlt:i<l.length:=by omega
      obtain⟨x,hx⟩:∃ x,l[i]? = some x:=⟨_,List.getElem?_eq_getElem hlt⟩
      have hxm:x∈l:=List.mem_of_getElem? hx
      refine bg_ rfl ?_
      refine bt_ ?_
      refine G_ rfl ?_
      refine X_ ?_
      refine cy_ ?_
      refine X_ ?_
      refine I_ ?_
      refine d_ (L_ Q_ S_ rfl rfl (fun v _ h=>y_ (n:=16) Ax.cells_len (by decide) (h.1.1) hx) (by omega) (by first|omega|(simp only[Con.parts];omega)|(simp[Con.parts];done))) rfl ?_
      refine d_ (af_ (ad:=ad) (us:=x.cells) bI_ S_ rfl (fun v _ h=>h.1.1) (Ax.cells_len _) (u_ Ax.cells_len hx)) rfl ?_
      refine K_ bc_ rfl fun b2=>?_
      refine ly_ (us:=x.cells) 0 S_ x.cells_len x.one_cells rfl rfl rfl rfl ?_
      refine aa_ ?_
      refine G_ rfl ?_
      refine X_ ?_
      refine I_ ?_
      refine d_ (mr_ (us:=x.cells) 0 bI_ S_ x.cells_len rfl rfl) rfl ?_
      refine f_ (hw_ x (hok x hxm)) rfl (.refl _) (fun v _ h=>⟨h.1.2 x hxm,h.2.1,trivial⟩) rfl fun _=>?_
      refine d_ (W_ rfl) rfl ?_
      refine aa_ ?_
      refine G_ rfl ?_
      refine X_ ?_
      refine I_ ?_
      refine d_ (t_ rfl) rfl ?_
      refine D_ (bS_ rfl rfl) rfl fun r5 hr5=>?_
      refine aa_ ?_
      refine G_ rfl ?_
      cases r5
      · skip
        replace hr5:=dn_ hr5
        try dsimp only[Con.kind,Con.parts,Con.name,Con.lo,Con.hi,Con.cap,Con.ad]at hr5
        refine aW_ rfl ?_
        refine bt_ ?_
        refine G_ rfl ?_
        refine I_ ?_
        refine d_ (aT_ rfl rfl rfl (bK_ (by omega) (by omega))) rfl ?_
        refine d_ (t_ rfl) rfl ?_
        refine aa_ ?_
        refine bJ_ rfl ?_
        exact J_ ⟨i+1,hlt,fun y hy=>by rw[List.take_add_one,hx]at hy;simp only[Option.toList_some,List.mem_append,List.mem_singleton]at hy;rcases hy with hy|rfl;exact hk.2 y hy;assumption⟩ (by simp;omega) zl (@List.perm_append_comm _ [_] _) zh
      · skip
        replace hr5:=dl_ hr5
        try dsimp only[Con.kind,Con.parts,Con.name,Con.lo,Con.hi,Con.cap,Con.ad]at hr5
        refine bg_ rfl ?_
        refine X_ ?_
        refine I_ ?_
        refine d_ (t_ rfl) rfl ?_
        refine d_ (W_ rfl) rfl ?_
        refine d_ (W_ rfl) rfl ?_
        refine aa_ ?_
        refine G_ rfl ?_
        refine eK_ ?_
        have e:az_ l=([],x.check):=by unfold az_;rw[if_neg (by omega),pI_ hx hk.2 (by assumption),if_pos (by assumption)]
        have hy:(az_ l).1.length≤0∧0≤maxLen∧((none:Option Addr)=none→0=0):=by rw[e];simp
        have hz:Value.tuple #[.slice none 0 0,.int .i64 x.check]=.tuple #[.slice none (az_ l).1.length 0,.int .i64 (az_ l).2]:=by rw[e]<;>rfl
        have hw:(az_ l).1.flatMap Pc.cells=[]:=by rw[e]<;>rfl
        exact lq_ Tryz.results27 ⟨(none,0),hy⟩ rfl rfl hz (.refl _) (fun v _ h=>⟨.inl hw,trivial⟩)
  · skip
    replace hr1:=zdt hr1
    try dsimp only[Con.kind,Con.parts,Con.name,Con.lo,Con.hi,Con.cap,Con.ad]at hr1
    refine bg_ rfl ?_
    refine X_ ?_
    refine I_ ?_
    refine d_ (W_ rfl) rfl ?_
    refine d_ (W_ rfl) rfl ?_
    refine aa_ ?_
    refine G_ rfl ?_
    refine eK_ ?_
    have e:az_ l=([],2):=by unfold az_;rw[if_pos (by omega)]
    have hy:(az_ l).1.length≤0∧0≤maxLen∧((none:Option Addr)=none→0=0):=by rw[e];simp
    have hz:Value.tuple #[.slice none 0 0,.int .i64 2]=.tuple #[.slice none (az_ l).1.length 0,.int .i64 (az_ l).2]:=by rw[e]<;>rfl
    have hw:(az_ l).1.flatMap Pc.cells=[]:=by rw[e]<;>rfl
    exact lq_ Tryz.results27 ⟨(none,0),hy⟩ rfl rfl hz (.refl _) (fun v _ h=>⟨.inl hw,trivial⟩)
theorem tN_ (l:List Ax) (ad:Option Addr) (cap:Nat) (hcap:l.length≤cap∧cap≤2199023255488) (hok:∀ x∈l,x.ok) :
    Tri Tryz.prog 27 #[.slice ad l.length cap] [] [dw_ ad l,cq_] (fun y:{y:Option Addr×Nat // (az_ l).1.length≤y.2∧y.2≤maxLen∧(y.1=none→y.2=0)}=>.tuple #[.slice y.1.1 (az_ l).1.length y.1.2,.int .i64 (az_ l).2]) (fun _=>[]) (fun y=>[al_ y.1.1 ((az_ l).1.flatMap Pc.cells)]):=mL_ l ad cap (Nat.le_trans hcap.1 hcap.2) hok
end Go.Proofs.YtamklbgaipakfaaGreatDoor
namespace Go.Proofs.YtamklbgaipakfaaGreatDoor
open Go Go.Sx Go.Proofs
attribute [local irreducible] Code.wp wpList wpAnyH
open Go.Vs
theorem gI_ {N:Nf} {fr:Fr} {H:Hp} {Γ:List Fct} {ty t':TypeId} {x y:Operand} {p q:Fc} (hx:Fr.ev fr x=some p.val) (hy:Fr.ev fr y=some q.val):Yld Tryz.prog N fr H Γ (.binOp .neq 67 x y t') ty (.bool (decide (p≠q))) :=
  fun a v h1 _ _ _ _ _=>by
    have hg:(Program.eqGuardType Tryz.prog Tryz.prog.depth 67)=false:=by kernel_rfl
    have he:=eqFc p q v.w
    simp only[execOp,h1.ev hx,h1.ev hy,eqGuard,Fc.val,binOp,Op.equal,Sem.run_bind,Result.andThen_ok]
    simp only[run_program,Result.andThen_ok,hg,Bool.not_false,if_true,Sem.run_pure]
    simp only[Fc.val]at he
    simp[Op.maxDepth,he]
theorem nx_ (s:Str) (c:UInt8):Fn0 Tryz.prog 310 #[str s,str [c]] (.int .i64 (Lib.indexByte s c)) :=
  ht_ (callable Tryz.func310 rfl rfl) fun w=>(Tryz.strings_Index_one ⟨s.toArray⟩ c w).mono (by rintro e w' ⟨rfl,rfl⟩;exact⟨rfl,rfl,rfl,rfl,rfl,Nat.le_refl _⟩)
theorem mi_ (s:Str) (c:UInt8) (k:Nat) (hk:ixS c s=some k):Fn0 Tryz.prog 310 #[str s,str [c]] (.int .i64 (k:Int)):=by
  have h:=nx_ s c
  rw[kS_,hk]at h
  exact h
theorem tB_ (s:Str) (c:UInt8):Fn0 Tryz.prog 309 #[str s,str [c]] (.int .i64 (ej_ c s:Int)) :=
  ht_ (callable Tryz.func309 rfl rfl) fun w=>(Tryz.strings_Count_one ⟨s.toArray⟩ c w).mono (by rintro e w' ⟨rfl,rfl⟩;exact⟨rfl,rfl,rfl,rfl,rfl,Nat.le_refl _⟩)
theorem ok_H {N:Nf} {v0:Vw} {H0:Hp} {k:Act→World→Prop} {fr:Fr} {H H':Hp} {Γ:List Fct} (e:H=H') (h:Ok N v0 H0 k fr H' Γ):Ok N v0 H0 k fr H Γ:=e▸h
theorem qP_ (s:Str) (c:UInt8) (hs:s.length≤17592186044414):Tri Tryz.prog 276 #[str s,str [c],.int .i64 0,.int .i64 (-1)] [] [] (fun b:Nat=>.slice (some ⟨b,0,none⟩) (bf_ c s).length (bf_ c s).length) (fun _=>[]) (fun b=>[al_ (some ⟨b,0,none⟩) ((bf_ c s).flatMap aE_)]):=by
 have hcl:=kU_ c s
 refine l_ Tryz.func276 rfl rfl Tryz.ntmps276 rfl fun v0=>?_
 refine Zi 9 (fun hr1=>?_) fun hr1=>?_
 ·refine Zi 9 (fun hr2=>?_) fun hr2=>?_
  ·refine Zi 9 (fun hr3=>?_) fun hr3=>?_
   ·exact absurd (by decide) hr3
   refine Zz 6 ?_
   refine f_ (tB_ s c) rfl (.refl _) zt rfl fun _=>Zz 8 ?_
   refine d_ (do_ T_ rfl) rfl (Zz 1 ?_)
   refine d_ (aY_ (re_ rfl rfl) (show _=Value.int .i64 ((ej_ c s+1:Nat):Int) by rw[if_neg (by omega)];rfl)) rfl ?_
   refine Zz 6 ?_
   refine sv_ (n:=ej_ c s+1) (by':=16) hK_ (z:=.string ⟨#[]⟩) zk rfl rfl rfl (by omega) (by omega) rfl fun b1=>Zz 6 ?_
   refine d_ (aY_ (aT_ rfl rfl rfl (bK_ (by omega) (by omega))) (show _=Value.int .i64 (ej_ c s:Int) by first|rfl|(congr 1;omega))) rfl ?_
   refine Zz 10 ?_
   refine bx_ [(0,str s),(1,str [c]),(2,.int .i64 0),(3,.int .i64 (ej_ c s:Int)),(9,.slice (some ⟨b1,0,none⟩) (ej_ c s+1) (ej_ c s+1)),(10,.int .i64 ((0:Nat):Int))] zl ?_
   refine bL_ (ι:={x:Nat×List Str×Str // x.2.1.length=x.1∧bf_ c s=x.2.1++bf_ c x.2.2∧x.1+ej_ c x.2.2=ej_ c s∧x.2.2.length≤s.length}) (fun x=>[(0,str x.1.2.2),(1,str [c]),(2,.int .i64 0),(3,.int .i64 (ej_ c s:Int)),(9,.slice (some ⟨b1,0,none⟩) (ej_ c s+1) (ej_ c s+1)),(10,.int .i64 (x.1.1:Int))]) (fun x=>[(b1,.cells (x.1.2.1.map str++List.replicate (ej_ c s+1 - x.1.1) (Value.string ⟨#[]⟩)).toArray 9 (0,0))]) (fun _=>_) (fun x=>ej_ c s - x.1.1) ⟨(0,[],s),rfl,rfl,by simp,by simp⟩ ?_
   rintro ⟨⟨i,dn,r⟩,hk⟩
   dsimp only at hk
   obtain⟨hk1,hk2,hk3,hk4⟩:=hk
   refine bx_ [(0,str r),(1,str [c]),(2,.int .i64 0),(3,.int .i64 (ej_ c s:Int)),(9,.slice (some ⟨b1,0,none⟩) (ej_ c s+1) (ej_ c s+1)),(10,.int .i64 (i:Int))] zl ?_
   have hrep:∀ k,k<ej_ c s+1→List.replicate (ej_ c s+1 - k) (Value.string ⟨#[]⟩)=Value.string ⟨#[]⟩::List.replicate (ej_ c s - k) (Value.string ⟨#[]⟩):=fun k hk=>by rw[show ej_ c s+1 - k=(ej_ c s - k)+1 by omega];rfl
   refine ok_H (H':=[(b1,.cells (dn.map str++Value.string ⟨#[]⟩::List.replicate (ej_ c s - i) (Value.string ⟨#[]⟩)).toArray 9 (0,0))]) (by dsimp only;rw[hrep i (by omega)]) ?_
   refine Zi 5 (fun hr4=>?_) fun hr4=>?_
   ·obtain rfl:i=ej_ c s:=by omega
    have hr0 : bf_ c r = [r] := by
                  cases hx:ixS c r with
                  | none=>exact fB_ hx
                  | some k=>have:=nc_ hx;omega
    rw[hr0]at hk2
    refine Zz 10 ?_
    refine d_ (gK_ n_ O_ rfl rfl (by omega) (by omega)) rfl (lz_ 0 O_ rfl rfl rfl (by simp[hk1]) rfl rfl (Zz 6 ?_))
    refine d_ (aY_ (aT_ rfl rfl rfl (bK_ (by omega) (by omega))) (show _=Value.int .i64 ((ej_ c s+1:Nat):Int) by first|rfl|(congr 1;omega))) rfl ?_
    refine d_ (aY_ (eM_ (i:=0) (j:=ej_ c s+1) (kl:=.i64) (kh:=.i64) n_ O_ rfl rfl rfl (by omega) (by omega)) (show _=Value.slice (some ⟨b1,0,none⟩) (ej_ c s+1) (ej_ c s+1) by rw[oM_];rfl)) rfl ?_
    refine Zz 4 ?_
    refine ap_ ((bf_ c s).flatMap aE_) e_ (by rw[hk2,lk_];simp) ?_
    have hl:=eq_ c s
    exact N_ Tryz.results276 b1 (cb_ rfl (by rw[hl])) (.refl _) zf
   obtain ⟨k, hix⟩ : ∃ k, ixS c r = some k := by
                 cases hx:ixS c r with
                 | none=>have:=sS_ hx;omega
                 | some k=>exact⟨k,rfl⟩
   have hcs:=nc_ hix
   have hkl:=qK_ hix
   refine Zz 10 ?_
   refine f_ (mi_ r c k hix) rfl (.refl _) zt rfl fun _=>Zi 7 (fun hr5=>?_) fun hr5=>?_
   ·refine Zz 12 ?_
    refine d_ (aY_ (aT_ rfl rfl rfl (bK_ (by omega) (by omega))) (show _=Value.int .i64 (k:Int) by first|rfl|(congr 1;omega))) rfl ?_
    refine d_ (aY_ (fo_ (i:=0) (j:=k) (kl:=.i64) (kh:=.i64) T_ rfl rfl rfl (by omega) (by omega)) (show _=str (r.take k) by simp)) rfl (d_ (gK_ n_ O_ rfl rfl (by omega) (by omega)) rfl (lz_ 0 O_ rfl rfl rfl (by simp[hk1]) rfl rfl (Zz 7 ?_)))
    refine d_ (do_ T_ rfl) rfl (d_ (aY_ (aT_ rfl rfl rfl (bK_ (by simp only[List.length_cons,List.length_nil];omega) (by simp only[List.length_cons,List.length_nil];omega))) (show _=Value.int .i64 ((k+1:Nat):Int) by first|rfl|(congr 1;omega))) rfl ?_)
    refine d_ (aY_ (fo_ (i:=k+1) (j:=r.length) (kl:=.i64) (kh:=.i64) T_ rfl rfl rfl (by omega) (by omega)) (show _=str (r.drop (k+1)) by rw[List.take_of_length_le (by simp)])) rfl (Zz 5 ?_)
    refine d_ (aY_ (aT_ rfl rfl rfl (bK_ (by omega) (by omega))) (show _=Value.int .i64 ((i+1:Nat):Int) by first|rfl|(congr 1;omega))) rfl ?_
    refine Zz 3 ?_
    exact J_ ⟨(i+1,dn++[r.take k],r.drop (k+1)),by simp[hk1],by rw[hk2,hM_ hix,List.append_assoc];rfl,by dsimp only;omega,by simp;omega⟩ (by dsimp only;omega) zl (F:=[]) (List.Perm.of_eq (by simp[show ej_ c s+1 - (i+1)=ej_ c s - i by omega])) zh
   exfalso;omega
  cases hr2
 exact absurd hr1 (by decide)
theorem vb_ (s:Str) (c:UInt8) (hs:s.length≤17592186044414):Tri Tryz.prog 254 #[str s,str [c]] [] [] (fun b:Nat=>.slice (some ⟨b,0,none⟩) (bf_ c s).length (bf_ c s).length) (fun _=>[]) (fun b=>[al_ (some ⟨b,0,none⟩) ((bf_ c s).flatMap aE_)]):=by
  refine l_ Tryz.func254 rfl rfl Tryz.ntmps254 rfl fun v0=>?_
  refine Zz 9 ?_
  refine f_ (qP_ s c hs) rfl (.refl _) zt rfl fun b=>Zz 4 ?_
  exact N_ Tryz.results254 b rfl (.refl _) zf
end Go.Proofs.YtamklbgaipakfaaGreatDoor
namespace Go.Proofs.YtamklbgaipakfaaGreatDoor
open Go Go.Sx Go.Proofs
attribute [local irreducible] Code.wp wpList wpAnyH
open Go.Vs
theorem nR_ {g:FuncId} {pred:Str→Bool} (xs:List Str) (ad:Option Addr) (cap:Nat) (hlen:xs.length≤17592186044415) (hT:∀ x∈xs,Fn0 Tryz.prog g #[str x] (.bool (pred x))) :
    Tri Tryz.prog 277 #[.slice ad (List.length xs) cap,.func (.func g) #[] #[]] [] [al_ ad (List.flatMap aE_ xs)] (fun r:{r:Int // decide (0≤r)=xs.any pred}=>.int .i64 r.1) (fun _=>[]) (fun _=>[]):=by
  refine l_ Tryz.func277 rfl rfl Tryz.ntmps277 rfl fun v0=>?_
  refine Zz 14 ?_
  refine bx_ [(0,.slice ad (List.length xs) cap),(1,.func (.func g) #[] #[]),(7,.int .i64 (List.length xs:Int)),(8,.int .i64 ((0:Nat):Int))] zl ?_
  refine bL_ (ι:={q:Nat // q≤xs.length∧(xs.take q).any pred=false}) (fun i=>[(0,.slice ad (List.length xs) cap),(1,.func (.func g) #[] #[]),(7,.int .i64 (List.length xs:Int)),(8,.int .i64 (i.1:Int))]) (fun _=>_) (fun _=>_) (fun i=>xs.length - i.1) ⟨0,by simp⟩ ?_
  rintro ⟨i,hk⟩
  refine bx_ [(0,.slice ad (List.length xs) cap),(1,.func (.func g) #[] #[]),(7,.int .i64 (List.length xs:Int)),(8,.int .i64 (i:Int))] zl ?_
  refine Zi 2 (fun hr1=>?_) fun hr1=>?_
  · skip
    refine Zz 12 ?_
    exact N_ Tryz.results277 ⟨-1,by have:=hk.2;rw[List.take_of_length_le (by omega)]at this;show _=xs.any pred;rw[this];rfl⟩ rfl (.refl _) zt
  · skip
    obtain⟨hlx1,x1,hx1,hmx1⟩:=zge (show i<List.length xs by omega)
    refine Zz 21 ?_
    refine cn_ (hT x1 hmx1) rfl rfl g_ zt rfl fun r2 hr2=>Zz 2 ?_
    cases r2
    · skip
      refine Zz 8 ?_
      exact J_ ⟨i+1,hlx1,by rw[List.take_add_one,hx1];simp only[Option.toList_some,List.any_append,hk.2];simp[*]⟩ (by simp;omega) zl (.refl _) zh
    · skip
      refine Zz 8 ?_
      exact N_ Tryz.results277 ⟨(i:Int),by show _=xs.any pred;rw[show xs.any pred=true from List.any_eq_true.2 ⟨x1,hmx1,by assumption⟩];exact decide_eq_true (by omega)⟩ rfl (.refl _) zt
theorem kK_ {g:FuncId} {pred:Str→Bool} (xs:List Str) (ad:Option Addr) (cap:Nat) (hlen:xs.length≤17592186044415) (hT:∀ x∈xs,Fn0 Tryz.prog g #[str x] (.bool (pred x))) :
    Tri Tryz.prog 255 #[.slice ad (List.length xs) cap,.func (.func g) #[] #[]] [] [al_ ad (List.flatMap aE_ xs)] (fun _:Unit=>.bool (xs.any pred)) (fun _=>[]) (fun _=>[]):=by
  refine l_ Tryz.func255 rfl rfl Tryz.ntmps255 rfl fun v0=>?_
  refine Zz 9 ?_
  refine f_ (nR_ xs ad cap hlen hT) rfl g_ zf rfl fun x=>D_ (gr_ rfl rfl) rfl fun r1 hr1=>Zz 4 ?_
  exact N_ Tryz.results255 () (m_ rfl (hr1.symm.trans x.2)) (.refl _) zt
theorem sH_ (s:Str) (hs:s.length≤140737488351232):Fn0 Tryz.prog 256 #[str s] (.bool (!aX_ s)):=by
  refine l_ Tryz.func256 rfl rfl Tryz.ntmps256 rfl fun v0=>?_
  refine Zz 8 ?_
  refine aj_ (eH_ s hs) rfl g_ zt rfl fun r1 hr1=>d_ (bb_ rfl) rfl (Zz 4 ?_)
  exact N_ Tryz.results256 () (m_ rfl (by simp[*])) (.refl _) zt
theorem hj_ {c:UInt8}:∀ {s x:Str},x∈bf_ c s→x.length≤s.length
 | [],x,h=>by simp[bf_]at h;simp[h]
 | b::s,x,h=>by
   simp only[bf_]at h
   split at h
   · rcases List.mem_cons.1 h with rfl|h
     · simp
     · have:=hj_ h;simp only[List.length_cons];omega
   · cases hs:bf_ c s with
     | nil=>exact absurd hs (jM_ c s)
     | cons y t =>
       rw[hs]at h
       rcases List.mem_cons.1 h with rfl|h
       · have:=hj_ (c:=c) (s:=s) (x:=y) (by rw[hs];simp);simp only[List.length_cons];omega
       · have:=hj_ (c:=c) (s:=s) (x:=x) (by rw[hs];simp[h]);simp only[List.length_cons];omega
theorem hT_ (s:Str) (hs:s.length≤17592186044414):Fn0 Tryz.prog 208 #[str s] (.bool (cA_ s)):=by
 refine l_ Tryz.func208 rfl rfl Tryz.ntmps208 rfl fun v0=>?_
 have hsl:=eq_ 46 s
 have hcl:=kU_ 46 s
 refine Zz 8 ?_
 refine f_ (vb_ s 46 hs) rfl g_ zt rfl fun b=>Zi 7 (fun hr1=>?_) fun hr1=>?_
 ·refine Zz 9 ?_
  exact N_ Tryz.results208 () (m_ rfl (by unfold cA_;subst_vars;rw[Bool.eq_iff_iff];simp_all<;>omega)) (.refl _) zt
 refine Zz 4 ?_
 refine aj_ (kK_ (pred:=fun r=>!aX_ r) (bf_ 46 s) _ _ (by omega) (fun x hx=>sH_ x (by have:=hj_ hx;omega))) rfl g_ zf rfl fun r2 hr2=>?_
 refine aF_ rfl rfl (d_ (bb_ rfl) rfl (Zz 5 ?_))
 exact N_ Tryz.results208 () (m_ rfl (by unfold cA_;subst_vars;rw[Bool.eq_iff_iff];simp_all<;>omega)) (.refl _) zt
theorem gX_ (s:Str) (hs:s.length≤140737488351232):Fn0 Tryz.prog 210 #[str s] (.bool (aM_ s)):=by
 refine l_ Tryz.func210 rfl rfl Tryz.ntmps210 rfl fun v0=>?_
 refine Zz 8 ?_
 refine d_ (do_ T_ rfl) rfl (Zi 8 (fun hr1=>?_) fun hr1=>?_)
 ·refine Zi 4 (fun hr2=>?_) fun hr2=>?_
  ·refine Zi 8 (fun hr3=>?_) fun hr3=>?_
   ·refine Zi 19 (fun hr4=>?_) fun hr4=>?_
    ·refine Zz 21 ?_
     refine aj_ (eH_ _ (by first|exact hs|(simp;omega))) rfl g_ zt rfl fun r5 hr5=>?_
     refine Zz 4 ?_
     exact N_ cS_ () (m_ rfl (by unfold aM_;(repeat (any_goals split))<;>first|rfl|(simp_all;done)|(exfalso;simp_all;omega)|(exfalso;simp_all;done))) (.refl _) zt
    exfalso;omega
   obtain⟨c,hc⟩:∃ c,s[0]? = some c:=⟨_,List.getElem?_eq_getElem (by omega)⟩
   obtain⟨e,he⟩:∃ e,s[s.length - 1]? = some e:=⟨_,List.getElem?_eq_getElem (by omega)⟩
   have hc123 : (s[0]? = some 123) ↔ ((c.toNat : Int) = 123) := by
                       rw[hc];simp only[Option.some.injEq];exact⟨fun q=>by subst q;rfl,fun q=>UInt8.toNat_inj.1 (by show c.toNat=123;omega)⟩
   have he125 : (s[s.length - 1]? = some 125) ↔ ((e.toNat : Int) = 125) := by
                       rw[he];simp only[Option.some.injEq];exact⟨fun q=>by subst q;rfl,fun q=>UInt8.toNat_inj.1 (by show e.toNat=125;omega)⟩
   have hc60 : (s[0]? = some 60) ↔ ((c.toNat : Int) = 60) := by
                       rw[hc];simp only[Option.some.injEq];exact⟨fun q=>by subst q;rfl,fun q=>UInt8.toNat_inj.1 (by show c.toNat=60;omega)⟩
   have he62 : (s[s.length - 1]? = some 62) ↔ ((e.toNat : Int) = 62) := by
                       rw[he];simp only[Option.some.injEq];exact⟨fun q=>by subst q;rfl,fun q=>UInt8.toNat_inj.1 (by show e.toNat=62;omega)⟩
   refine Zz 4 ?_
   refine d_ (cu_ T_ rfl rfl (by decide) hc) rfl (aF_ rfl rfl ?_)
   refine Zi 0 (fun hr6=>?_) fun hr6=>?_
   ·refine Zi 15 (fun hr7=>?_) fun hr7=>?_
    ·refine Zz 21 ?_
     refine aj_ (eH_ _ (by first|exact hs|(simp;omega))) rfl g_ zt rfl fun r8 hr8=>?_
     refine Zz 4 ?_
     exact N_ cS_ () (m_ rfl (by unfold aM_;(repeat (any_goals split))<;>first|rfl|(simp_all;done)|(exfalso;simp_all;omega)|(exfalso;simp_all;done))) (.refl _) zt
    refine Zz 4 ?_
    refine d_ (cu_ T_ rfl rfl (by decide) hc) rfl (aF_ rfl rfl ?_)
    refine Zi 0 (fun hr9=>?_) fun hr9=>?_
    ·refine Zz 17 ?_
     refine aj_ (eH_ _ (by first|exact hs|(simp;omega))) rfl g_ zt rfl fun r10 hr10=>?_
     refine Zz 4 ?_
     exact N_ cS_ () (m_ rfl (by unfold aM_;(repeat (any_goals split))<;>first|rfl|(simp_all;done)|(exfalso;simp_all;omega)|(exfalso;simp_all;done))) (.refl _) zt
    refine Zz 9 ?_
    refine d_ (cu_ T_ rfl rfl (by omega) (show s[((s.length:Int) - 1).toNat]? = some e by rw[show ((s.length:Int) - 1).toNat=s.length - 1 by omega];exact he)) rfl ?_
    refine aF_ rfl rfl ?_
    refine Zi 0 (fun hr11=>?_) fun hr11=>?_
    ·refine Zz 10 ?_
     refine aj_ (eH_ _ (by first|exact hs|(simp;omega))) rfl g_ zt rfl fun r12 hr12=>?_
     refine Zz 4 ?_
     exact N_ cS_ () (m_ rfl (by unfold aM_;(repeat (any_goals split))<;>first|rfl|(simp_all;done)|(exfalso;simp_all;omega)|(exfalso;simp_all;done))) (.refl _) zt
    refine Zz 11 ?_
    exact N_ cS_ () (m_ rfl (by unfold aM_;(repeat (any_goals split))<;>first|rfl|(simp_all;done)|(exfalso;simp_all;omega)|(exfalso;simp_all;done))) (.refl _) zt
   refine Zz 9 ?_
   refine d_ (cu_ T_ rfl rfl (by omega) (show s[((s.length:Int) - 1).toNat]? = some e by rw[show ((s.length:Int) - 1).toNat=s.length - 1 by omega];exact he)) rfl ?_
   refine aF_ rfl rfl ?_
   refine Zi 0 (fun hr13=>?_) fun hr13=>?_
   ·refine Zi 8 (fun hr14=>?_) fun hr14=>?_
    ·refine Zz 21 ?_
     refine aj_ (eH_ _ (by first|exact hs|(simp;omega))) rfl g_ zt rfl fun r15 hr15=>?_
     refine Zz 4 ?_
     exact N_ cS_ () (m_ rfl (by unfold aM_;(repeat (any_goals split))<;>first|rfl|(simp_all;done)|(exfalso;simp_all;omega)|(exfalso;simp_all;done))) (.refl _) zt
    refine Zz 4 ?_
    refine d_ (cu_ T_ rfl rfl (by decide) hc) rfl (aF_ rfl rfl ?_)
    refine Zi 0 (fun hr16=>?_) fun hr16=>?_
    ·refine Zz 17 ?_
     refine aj_ (eH_ _ (by first|exact hs|(simp;omega))) rfl g_ zt rfl fun r17 hr17=>?_
     refine Zz 4 ?_
     exact N_ cS_ () (m_ rfl (by unfold aM_;(repeat (any_goals split))<;>first|rfl|(simp_all;done)|(exfalso;simp_all;omega)|(exfalso;simp_all;done))) (.refl _) zt
    refine Zz 9 ?_
    refine d_ (cu_ T_ rfl rfl (by omega) (show s[((s.length:Int) - 1).toNat]? = some e by rw[show ((s.length:Int) - 1).toNat=s.length - 1 by omega];exact he)) rfl ?_
    refine aF_ rfl rfl ?_
    refine Zi 0 (fun hr18=>?_) fun hr18=>?_
    ·refine Zz 10 ?_
     refine aj_ (eH_ _ (by first|exact hs|(simp;omega))) rfl g_ zt rfl fun r19 hr19=>?_
     refine Zz 4 ?_
     exact N_ cS_ () (m_ rfl (by unfold aM_;(repeat (any_goals split))<;>first|rfl|(simp_all;done)|(exfalso;simp_all;omega)|(exfalso;simp_all;done))) (.refl _) zt
    refine Zz 11 ?_
    exact N_ cS_ () (m_ rfl (by unfold aM_;(repeat (any_goals split))<;>first|rfl|(simp_all;done)|(exfalso;simp_all;omega)|(exfalso;simp_all;done))) (.refl _) zt
   refine Zz 10 ?_
   refine d_ (fo_ (i:=1) (j:=s.length - 1) (kl:=.i64) (kh:=.i64) T_ rfl rfl (show _=some (Value.int .i64 ((s.length - 1:Nat):Int)) by rw[show ((s.length - 1:Nat):Int)=(s.length:Int) - 1 by omega];rfl) (by omega) (by omega)) rfl ?_
   refine aj_ (eH_ _ (by first|exact hs|(simp;omega))) rfl g_ zt rfl fun r20 hr20=>?_
   refine Zz 4 ?_
   exact N_ cS_ () (m_ rfl (by unfold aM_;(repeat (any_goals split))<;>first|rfl|(simp_all;done)|(exfalso;simp_all;omega)|(exfalso;simp_all;done))) (.refl _) zt
  refine Zz 11 ?_
  exact N_ cS_ () (m_ rfl (by unfold aM_;(repeat (any_goals split))<;>first|rfl|(simp_all;done)|(exfalso;simp_all;omega)|(exfalso;simp_all;done))) (.refl _) zt
 refine Zz 14 ?_
 exact N_ cS_ () (m_ rfl (by unfold aM_;(repeat (any_goals split))<;>first|rfl|(simp_all;done)|(exfalso;simp_all;omega)|(exfalso;simp_all;done))) (.refl _) zt
end Go.Proofs.YtamklbgaipakfaaGreatDoor
namespace Go.Proofs.YtamklbgaipakfaaGreatDoor
open Go Go.Sx Go.Proofs
attribute [local irreducible] Code.wp wpList wpAnyH
open Go.Vs
theorem eL_ {g:FuncId} (used:Bool) (s:Str) (q:Str→Bool) (hT:Fn0 Tryz.prog g #[str s] (.bool (q s))):Fn0 Tryz.prog 207 #[.bool used,str s,.func (.func g) #[] #[]] (.bool (ch_ used s q)):=by
 refine l_ Tryz.func207 rfl rfl Tryz.ntmps207 rfl fun v0=>?_
 refine Zz 9 ?_
 cases used
 ·refine Zz 8 ?_
  refine d_ (bb_ rfl) rfl (Zz 5 ?_)
  refine D_ (fA_ rfl rfl) rfl fun r1 hr1=>Zz 7 ?_
  exact N_ Tryz.results207 () (m_ rfl (by unfold ch_;subst_vars;rw[Bool.eq_iff_iff];simp_all)) (.refl _) zt
 refine Zz 5 ?_
 refine cn_ (hT) rfl rfl g_ zt rfl fun r2 hr2=>Zz 2 ?_
 cases r2
 ·refine Zz 3 ?_
  refine d_ (bb_ rfl) rfl (Zz 11 ?_)
  exact N_ Tryz.results207 () (m_ rfl (by unfold ch_;subst_vars;rw[Bool.eq_iff_iff];simp_all)) (.refl _) zt
 refine Zz 11 ?_
 exact N_ Tryz.results207 () (m_ rfl (by unfold ch_;subst_vars;rw[Bool.eq_iff_iff];simp_all)) (.refl _) zt
theorem sG_ (p:Pc) (hp:p.sm):Tri Tryz.prog 135 #[Pc.val p] [] [jK_] (fun _:Unit=>.bool p.valid) (fun _=>[]) (fun _=>[]):=by
 refine l_ Tryz.func135 rfl rfl Tryz.ntmps135 rfl fun v0=>?_
 obtain⟨ha,hb,hc,hr,hs,ht⟩:=hp
 refine Zz 2 ?_
 refine U_ rfl rfl fun b1=>Zz 8 ?_
 refine D_ (dg_ rfl rfl) rfl fun r1 hr1=>Zz 1 ?_
 refine aH_ 4 ((decide (p.kind<1))||(decide (9<p.kind))) (fun r=>[(1,zp_ b1 0),(2,.bool false),(13,.bool r)]) ?_ fun r2 hr2=>?_
 ·cases r1
  ·have qr2:=hr1
   replace hr1:=zdf hr1
   refine Zz 5 ?_
   refine D_ (ea_ rfl rfl) rfl fun r3 hr3=>Zz 3 ?_
   exact met ⟨rfl,rfl,(m_ rfl (jof qr2 hr3)),trivial⟩
  have qr2:=hr1
  replace hr1:=zdt hr1
  refine Zz 6 ?_
  exact met ⟨rfl,rfl,(m_ rfl (jot qr2)),trivial⟩
 refine Zz 1 ?_
 refine aH_ 4 ((((decide (p.kind<1))||(decide (9<p.kind))))||(decide (p.frm<(-1)))) (fun r=>[(1,zp_ b1 0),(2,.bool false),(18,.bool r)]) ?_ fun r4 hr4=>?_
 ·cases r2
  ·have qr4:=hr2
   simp at hr2
   refine Zz 5 ?_
   refine D_ (dg_ rfl rfl) rfl fun r5 hr5=>Zz 3 ?_
   exact met ⟨rfl,rfl,(m_ rfl (jof qr4 hr5)),trivial⟩
  have qr4:=hr2
  simp at hr2
  refine Zz 6 ?_
  exact met ⟨rfl,rfl,(m_ rfl (jot qr4)),trivial⟩
 refine Zz 1 ?_
 refine aH_ 4 ((((((decide (p.kind<1))||(decide (9<p.kind))))||(decide (p.frm<(-1)))))||(decide (1024≤p.frm))) (fun r=>[(1,zp_ b1 0),(2,.bool false),(23,.bool r)]) ?_ fun r6 hr6=>?_
 ·cases r4
  ·have qr6:=hr4
   simp at hr4
   refine Zz 5 ?_
   refine D_ (gr_ rfl rfl) rfl fun r7 hr7=>Zz 3 ?_
   exact met ⟨rfl,rfl,(m_ rfl (jof qr6 hr7)),trivial⟩
  have qr6:=hr4
  simp at hr4
  refine Zz 6 ?_
  exact met ⟨rfl,rfl,(m_ rfl (jot qr6)),trivial⟩
 refine Zz 2 ?_
 cases r6
 ·simp at hr6
  obtain⟨u,hx⟩:∃ u,gk_[p.kind.toNat]? = some u:=⟨_,List.getElem?_eq_getElem (show p.kind.toNat<10 by omega)⟩
  have hus:nus p.kind=u:=by simp[nus,hx]
  obtain⟨ua,ub,uc,ur,us,ut,un⟩:=u
  refine Zz 7 ?_
  refine d_ (eo_ Tryz.runUnderlying247 Tryz.sizeOf246 rfl rfl (by show (0:Int)≤p.kind;omega) (by show p.kind<(10:Int);omega)) rfl ?_
  refine d_ (af_ (ad:=some ⟨1,0,none⟩) (us:=NUse.cells ⟨ua,ub,uc,ur,us,ut,un⟩) Tryz.isAgg246 Tryz.sizeOf246 rfl (fun v _ h=>h.1) (NUse.cells_len _) (u_ NUse.cells_len hx)) rfl (K_ Tryz.zeroValue246 rfl fun b2=>x_ 0 Tryz.sizeOf246 rfl rfl rfl rfl rfl rfl (Zz 19 ?_))
  cases un
  ·refine Zz 5 ?_
   refine D_ (bS_ rfl rfl) rfl fun r8 hr8=>Zz 1 ?_
   refine aH_ 4 ((p.lo != 0)||(p.hi != 0)) (fun r=>[(1,zp_ b1 0),(2,.bool false),(3,zp_ b2 0),(4,.func (.func 207) #[] #[]),(5,.func (.func 208) #[] #[]),(52,.bool r)]) ?_ fun r9 hr9=>?_
   ·cases r8
    ·have qr9:=hr8
     replace hr8:=dn_ hr8
     refine Zz 5 ?_
     refine D_ (bS_ rfl rfl) rfl fun r10 hr10=>Zz 3 ?_
     exact met ⟨rfl,rfl,rfl,rfl,rfl,(m_ rfl (jof qr9 hr10)),trivial⟩
    have qr9:=hr8
    replace hr8:=dl_ hr8
    refine Zz 6 ?_
    exact met ⟨rfl,rfl,rfl,rfl,rfl,(m_ rfl (jot qr9)),trivial⟩
   refine Zz 2 ?_
   cases r9
   ·simp at hr9
    refine Zz 10 ?_
    refine cn_ (eL_ ua p.a aM_ (gX_ _ (by omega))) rfl rfl g_ zt rfl fun r11 hr11=>Zz 1 ?_
    refine aH_ 7 ((ch_ ua p.a aM_)&&(ch_ ub p.b aM_)) (fun r=>[(1,zp_ b1 0),(2,.bool false),(3,zp_ b2 0),(4,.func (.func 207) #[] #[]),(5,.func (.func 208) #[] #[]),(66,.bool r)]) ?_ fun r12 hr12=>?_
    ·cases r11
     ·have qr12:=hr11
      refine Zz 9 ?_
      exact met ⟨rfl,rfl,rfl,rfl,rfl,(m_ rfl (jaf qr12)),trivial⟩
     have qr12:=hr11
     refine Zz 11 ?_
     refine cn_ (eL_ ub p.b aM_ (gX_ _ (by omega))) rfl rfl g_ zt rfl fun r13 hr13=>Zz 3 ?_
     exact met ⟨rfl,rfl,rfl,rfl,rfl,(m_ rfl (jat qr12 hr13)),trivial⟩
    refine Zz 1 ?_
    refine aH_ 7 ((((ch_ ua p.a aM_)&&(ch_ ub p.b aM_)))&&(ch_ uc p.c aM_)) (fun r=>[(1,zp_ b1 0),(2,.bool false),(3,zp_ b2 0),(4,.func (.func 207) #[] #[]),(5,.func (.func 208) #[] #[]),(74,.bool r)]) ?_ fun r14 hr14=>?_
    ·cases r12
     ·have qr14:=hr12
      simp at hr12
      refine Zz 9 ?_
      exact met ⟨rfl,rfl,rfl,rfl,rfl,(m_ rfl (jaf qr14)),trivial⟩
     have qr14:=hr12
     simp at hr12
     refine Zz 11 ?_
     refine cn_ (eL_ uc p.c aM_ (gX_ _ (by omega))) rfl rfl g_ zt rfl fun r15 hr15=>Zz 3 ?_
     exact met ⟨rfl,rfl,rfl,rfl,rfl,(m_ rfl (jat qr14 hr15)),trivial⟩
    refine Zz 1 ?_
    refine aH_ 8 ((((((ch_ ua p.a aM_)&&(ch_ ub p.b aM_)))&&(ch_ uc p.c aM_)))&&(ch_ ur p.r cA_)) (fun r=>[(1,zp_ b1 0),(2,.bool false),(3,zp_ b2 0),(4,.func (.func 207) #[] #[]),(83,.bool r)]) ?_ fun r16 hr16=>?_
    ·cases r14
     ·have qr16:=hr14
      simp at hr14
      refine Zz 10 ?_
      exact met ⟨rfl,rfl,rfl,rfl,(m_ rfl (jaf qr16)),trivial⟩
     have qr16:=hr14
     simp at hr14
     refine Zz 13 ?_
     refine cn_ (eL_ ur p.r cA_ (hT_ _ (by omega))) rfl rfl g_ zt rfl fun r17 hr17=>Zz 3 ?_
     exact met ⟨rfl,rfl,rfl,rfl,(m_ rfl (jat qr16 hr17)),trivial⟩
    refine Zz 1 ?_
    refine aH_ 7 ((((((((ch_ ua p.a aM_)&&(ch_ ub p.b aM_)))&&(ch_ uc p.c aM_)))&&(ch_ ur p.r cA_)))&&(ch_ us p.s cA_)) (fun r=>[(1,zp_ b1 0),(2,.bool false),(3,zp_ b2 0),(4,.func (.func 207) #[] #[]),(91,.bool r)]) ?_ fun r18 hr18=>?_
    ·cases r16
     ·have qr18:=hr16
      simp at hr16
      refine Zz 9 ?_
      exact met ⟨rfl,rfl,rfl,rfl,(m_ rfl (jaf qr18)),trivial⟩
     have qr18:=hr16
     simp at hr16
     refine Zz 11 ?_
     refine cn_ (eL_ us p.s cA_ (hT_ _ (by omega))) rfl rfl g_ zt rfl fun r19 hr19=>Zz 3 ?_
     exact met ⟨rfl,rfl,rfl,rfl,(m_ rfl (jat qr18 hr19)),trivial⟩
    refine Zz 1 ?_
    refine aH_ 7 ((((((((((ch_ ua p.a aM_)&&(ch_ ub p.b aM_)))&&(ch_ uc p.c aM_)))&&(ch_ ur p.r cA_)))&&(ch_ us p.s cA_)))&&(ch_ ut p.t cA_)) (fun r=>[(2,.bool false),(99,.bool r)]) ?_ fun r20 hr20=>?_
    ·cases r18
     ·have qr20:=hr18
      simp at hr18
      refine Zz 9 ?_
      exact met ⟨rfl,(m_ rfl (jaf qr20)),trivial⟩
     have qr20:=hr18
     simp at hr18
     refine Zz 11 ?_
     refine cn_ (eL_ ut p.t cA_ (hT_ _ (by omega))) rfl rfl g_ zt rfl fun r21 hr21=>Zz 3 ?_
     exact met ⟨rfl,(m_ rfl (jat qr20 hr21)),trivial⟩
    refine Zz 4 ?_
    exact N_ ro_ () (m_ rfl (by unfold Pc.valid;rw[if_neg (by omega)];simp only[hus];rw[if_neg (by simp<;>omega),if_neg (by simp<;>omega)];exact hr20.symm)) (.refl _) zt
   simp at hr9
   refine Zz 7 ?_
   exact N_ ro_ () (m_ rfl (by unfold Pc.valid;rw[if_neg (by omega)];simp only[hus];first|(rw[if_pos (by first|(simp;omega)|omega)])|(rw[if_neg (by simp),if_pos (by simp;omega)]))) (.refl _) zt
  refine Zz 10 ?_
  refine D_ (dg_ rfl rfl) rfl fun r22 hr22=>Zz 1 ?_
  refine aH_ 6 ((decide (p.lo<(-1099511627776)))||(decide (p.hi<p.lo))) (fun r=>[(1,zp_ b1 0),(2,.bool false),(3,zp_ b2 0),(4,.func (.func 207) #[] #[]),(5,.func (.func 209) #[] #[]),(39,.bool r)]) ?_ fun r23 hr23=>?_
  ·cases r22
   ·have qr23:=hr22
    replace hr22:=zdf hr22
    refine Zz 9 ?_
    refine D_ (ea_ rfl rfl) rfl fun r24 hr24=>Zz 3 ?_
    exact met ⟨rfl,rfl,rfl,rfl,rfl,(m_ rfl (jof qr23 hr24)),trivial⟩
   have qr23:=hr22
   replace hr22:=zdt hr22
   refine Zz 8 ?_
   exact met ⟨rfl,rfl,rfl,rfl,rfl,(m_ rfl (jot qr23)),trivial⟩
  refine Zz 1 ?_
  refine aH_ 4 ((((decide (p.lo<(-1099511627776)))||(decide (p.hi<p.lo))))||(decide (1099511627776<p.hi))) (fun r=>[(1,zp_ b1 0),(2,.bool false),(3,zp_ b2 0),(4,.func (.func 207) #[] #[]),(5,.func (.func 209) #[] #[]),(44,.bool r)]) ?_ fun r25 hr25=>?_
  ·cases r23
   ·have qr25:=hr23
    simp at hr23
    refine Zz 5 ?_
    refine D_ (ea_ rfl rfl) rfl fun r26 hr26=>Zz 3 ?_
    exact met ⟨rfl,rfl,rfl,rfl,rfl,(m_ rfl (jof qr25 hr26)),trivial⟩
   have qr25:=hr23
   simp at hr23
   refine Zz 6 ?_
   exact met ⟨rfl,rfl,rfl,rfl,rfl,(m_ rfl (jot qr25)),trivial⟩
  refine Zz 2 ?_
  cases r25
  ·simp at hr25
   refine Zz 10 ?_
   refine cn_ (eL_ ua p.a aM_ (gX_ _ (by omega))) rfl rfl g_ zt rfl fun r27 hr27=>Zz 1 ?_
   refine aH_ 7 ((ch_ ua p.a aM_)&&(ch_ ub p.b aM_)) (fun r=>[(1,zp_ b1 0),(2,.bool false),(3,zp_ b2 0),(4,.func (.func 207) #[] #[]),(5,.func (.func 209) #[] #[]),(66,.bool r)]) ?_ fun r28 hr28=>?_
   ·cases r27
    ·have qr28:=hr27
     refine Zz 9 ?_
     exact met ⟨rfl,rfl,rfl,rfl,rfl,(m_ rfl (jaf qr28)),trivial⟩
    have qr28:=hr27
    refine Zz 11 ?_
    refine cn_ (eL_ ub p.b aM_ (gX_ _ (by omega))) rfl rfl g_ zt rfl fun r29 hr29=>Zz 3 ?_
    exact met ⟨rfl,rfl,rfl,rfl,rfl,(m_ rfl (jat qr28 hr29)),trivial⟩
   refine Zz 1 ?_
   refine aH_ 7 ((((ch_ ua p.a aM_)&&(ch_ ub p.b aM_)))&&(ch_ uc p.c aM_)) (fun r=>[(1,zp_ b1 0),(2,.bool false),(3,zp_ b2 0),(4,.func (.func 207) #[] #[]),(5,.func (.func 209) #[] #[]),(74,.bool r)]) ?_ fun r30 hr30=>?_
   ·cases r28
    ·have qr30:=hr28
     simp at hr28
     refine Zz 9 ?_
     exact met ⟨rfl,rfl,rfl,rfl,rfl,(m_ rfl (jaf qr30)),trivial⟩
    have qr30:=hr28
    simp at hr28
    refine Zz 11 ?_
    refine cn_ (eL_ uc p.c aM_ (gX_ _ (by omega))) rfl rfl g_ zt rfl fun r31 hr31=>Zz 3 ?_
    exact met ⟨rfl,rfl,rfl,rfl,rfl,(m_ rfl (jat qr30 hr31)),trivial⟩
   refine Zz 1 ?_
   refine aH_ 8 ((((((ch_ ua p.a aM_)&&(ch_ ub p.b aM_)))&&(ch_ uc p.c aM_)))&&(ch_ ur p.r aX_)) (fun r=>[(1,zp_ b1 0),(2,.bool false),(3,zp_ b2 0),(4,.func (.func 207) #[] #[]),(83,.bool r)]) ?_ fun r32 hr32=>?_
   ·cases r30
    ·have qr32:=hr30
     simp at hr30
     refine Zz 10 ?_
     exact met ⟨rfl,rfl,rfl,rfl,(m_ rfl (jaf qr32)),trivial⟩
    have qr32:=hr30
    simp at hr30
    refine Zz 13 ?_
    refine cn_ (eL_ ur p.r aX_ (eH_ _ (by omega))) rfl rfl g_ zt rfl fun r33 hr33=>Zz 3 ?_
    exact met ⟨rfl,rfl,rfl,rfl,(m_ rfl (jat qr32 hr33)),trivial⟩
   refine Zz 1 ?_
   refine aH_ 7 ((((((((ch_ ua p.a aM_)&&(ch_ ub p.b aM_)))&&(ch_ uc p.c aM_)))&&(ch_ ur p.r aX_)))&&(ch_ us p.s cA_)) (fun r=>[(1,zp_ b1 0),(2,.bool false),(3,zp_ b2 0),(4,.func (.func 207) #[] #[]),(91,.bool r)]) ?_ fun r34 hr34=>?_
   ·cases r32
    ·have qr34:=hr32
     simp at hr32
     refine Zz 9 ?_
     exact met ⟨rfl,rfl,rfl,rfl,(m_ rfl (jaf qr34)),trivial⟩
    have qr34:=hr32
    simp at hr32
    refine Zz 11 ?_
    refine cn_ (eL_ us p.s cA_ (hT_ _ (by omega))) rfl rfl g_ zt rfl fun r35 hr35=>Zz 3 ?_
    exact met ⟨rfl,rfl,rfl,rfl,(m_ rfl (jat qr34 hr35)),trivial⟩
   refine Zz 1 ?_
   refine aH_ 7 ((((((((((ch_ ua p.a aM_)&&(ch_ ub p.b aM_)))&&(ch_ uc p.c aM_)))&&(ch_ ur p.r aX_)))&&(ch_ us p.s cA_)))&&(ch_ ut p.t cA_)) (fun r=>[(2,.bool false),(99,.bool r)]) ?_ fun r36 hr36=>?_
   ·cases r34
    ·have qr36:=hr34
     simp at hr34
     refine Zz 9 ?_
     exact met ⟨rfl,(m_ rfl (jaf qr36)),trivial⟩
    have qr36:=hr34
    simp at hr34
    refine Zz 11 ?_
    refine cn_ (eL_ ut p.t cA_ (hT_ _ (by omega))) rfl rfl g_ zt rfl fun r37 hr37=>Zz 3 ?_
    exact met ⟨rfl,(m_ rfl (jat qr36 hr37)),trivial⟩
   refine Zz 4 ?_
   exact N_ ro_ () (m_ rfl (by unfold Pc.valid;rw[if_neg (by omega)];simp only[hus];rw[if_neg (by simp<;>omega),if_neg (by simp<;>omega)];exact hr36.symm)) (.refl _) zt
  simp at hr25
  refine Zz 7 ?_
  exact N_ ro_ () (m_ rfl (by unfold Pc.valid;rw[if_neg (by omega)];simp only[hus];first|(rw[if_pos (by first|(simp;omega)|omega)])|(rw[if_neg (by simp),if_pos (by simp;omega)]))) (.refl _) zt
 simp at hr6
 refine Zz 7 ?_
 exact N_ ro_ () (m_ rfl (by unfold Pc.valid;rw[if_pos (by omega)])) (.refl _) zt
theorem vT_ (l:List Pc) (ad:Option Addr) (cap:Nat) (hl:l.length≤17592186044414) (hsm:∀ p∈l,p.sm):Tri Tryz.prog 68 #[.slice ad (List.length l) cap] [] [al_ ad (List.flatMap Pc.cells l),jK_] (fun _:Unit=>.int .i64 (dX_ l)) (fun _=>[]) (fun _=>[]):=by
 refine l_ Tryz.func68 rfl rfl Tryz.ntmps68 rfl fun v0=>?_
 refine Zi 10 (fun hr1=>?_) fun hr1=>?_
 ·refine Zz 14 ?_
  refine bx_ [(8,.slice ad (List.length l) cap),(9,.int .i64 (List.length l:Int)),(10,.int .i64 ((0:Nat):Int))] zl ?_
  refine bL_ (ι:={q:Nat // q≤l.length∧(l.take q).all Pc.valid=true}) (fun i=>[(8,.slice ad (List.length l) cap),(9,.int .i64 (List.length l:Int)),(10,.int .i64 (i.1:Int))]) (fun _=>_) (fun _=>_) (fun i=>l.length - i.1) ⟨0,by simp⟩ ?_
  rintro ⟨i,hk⟩
  refine bx_ [(8,.slice ad (List.length l) cap),(9,.int .i64 (List.length l:Int)),(10,.int .i64 (i:Int))] zl ?_
  refine Zi 2 (fun hr2=>?_) fun hr2=>?_
  ·refine Zz 12 ?_
   exact N_ Tryz.results68 () (V_ rfl (by unfold dX_;rw[if_neg (by omega),if_pos (by have:=hk.2;rwa [List.take_of_length_le (by omega)]at this)])) (.refl _) zt
  obtain⟨hlx1,x1,hx1,hmx1⟩:=zge (show i<List.length l by omega)
  refine Zz 12 ?_
  refine K_ Z_ rfl fun b1=>x_ 0 F_ rfl rfl rfl rfl rfl rfl (Zz 5 ?_)
  refine aj_ (sG_ x1 (hsm x1 hmx1)) rfl g_ zf rfl fun r3 hr3=>d_ (bb_ rfl) rfl (Zz 2 ?_)
  cases r3
  ·refine Zz 7 ?_
   exact N_ Tryz.results68 () (V_ rfl (by unfold dX_;rw[if_neg (by omega),if_neg (by rw[show l.all Pc.valid=false from List.all_eq_false.2 ⟨x1,hmx1,by simp[*]⟩];simp)])) (.refl _) zt
  refine Zz 8 ?_
  exact J_ ⟨i+1,hlx1,by rw[List.take_add_one,hx1];simp only[Option.toList_some,List.all_append,hk.2];simp[*]⟩ (by simp;omega) zl (@List.perm_append_comm _ [_] _) zh
 refine Zz 9 ?_
 exact N_ Tryz.results68 () (V_ rfl (by unfold dX_;rw[if_pos (by omega)])) (.refl _) zt
end Go.Proofs.YtamklbgaipakfaaGreatDoor
namespace Go.Proofs.YtamklbgaipakfaaGreatDoor
open Go Go.Sx Go.Proofs
attribute [local irreducible] Code.wp wpList wpAnyH
open Go.Vs
theorem tg_ {N:Nf} {fr:Fr} {H:Hp} {Γ:List Fct} {P:Program} {ty t t':TypeId} {x y:Operand} {m n:Int} (hx:Fr.ev fr x=some (.int .i64 m)) (hy:Fr.ev fr y=some (.int .i64 n)):Yld P N fr H Γ (.binOp .add t x y t') ty (.int .i64 (IntKind.wrap .i64 (m+n))) :=
  fun a v h1 _ _ _ _ _=>by simp[execOp,h1.ev hx,h1.ev hy,eqGuard,binOp,Op.intArith]
def wz (n:Nat):Int:=IntKind.wrap .i64 (n:Int)
theorem uM_ (n:Nat):IntKind.wrap .i64 (wz n+1)=wz (n+1):=by
  unfold wz
  rw[IntKind.wrap_i64,IntKind.wrap_i64,IntKind.wrap_i64]
  omega
theorem th_ {n:Nat} (h:n≤1000000):wz n=(n:Int):=bK_ (by omega) (by omega)
theorem Con.fold_cnt:∀ (m:Nat) (c:Con),c.sz≤m→∀ n,Con.fold Con.cnt c n=.inl (n+c.sz)
  | 0,c,h=>by have:=c.sz_pos;omega
  | m+1,c,h=>fun n=>by
    have key:∀ ps:List Con,(∀ p∈ps,p.sz≤m)→∀ n,Con.fold.folds Con.cnt ps n=.inl (n+Con.sz.szs ps):=by
      intro ps
      induction ps with
      | nil=>intro _ n;simp[Con.fold.folds,Con.sz.szs]
      | cons p ps ih =>
        intro hp n
        simp only[Con.fold.folds,Con.fold_cnt m p (hp p (by simp)) n,Con.sz.szs]
        rw[ih (fun q hq=>hp q (by simp[hq]))]
        congr 1;omega
    rw[Con.fold_eq]
    simp only[Con.cnt]
    rw[key c.parts (fun p hp=>by have:=Con.sz_part hp;omega)]
    congr 1
    cases c;simp only[Con.sz,Con.parts];omega
theorem size_c (c:Con) (hok:c.ok) (hz0:c.sz≤1000000):Tri Tryz.prog 182 #[c.val] [] [c.memF] (fun _:Unit=>.int .i64 (c.sz:Int)) (fun _=>[]) (fun _=>[]):=by
 refine eZ_ Tryz.func182 rfl rfl Tryz.ntmps182 rfl fun v0=>?_
 refine Zz 2 ?_
 refine U_ rfl rfl fun b1=>K_ bq_ rfl fun b2=>Zz 5 ?_
 refine d_ (dj_ 1 aD_ A_ rfl rfl) rfl (f_ (tm_ c) rfl (.refl _) zt rfl fun b=>Zz 3 ?_)
 refine bx_ [(2,zp_ b2 0),(4,.func (.func 198) #[] #[zp_ b 0])] zl ?_
 refine ey_ (H':=[_,_]) (F:=[_]) (.refl _) zh ?_
 refine mC_ (α:={c:Con // c.ok}) (xv:=fun x=>x.1.val) (good:=fun _=>True) (stp:=fun x=>Con.cnt x.1) (Γx:=fun x=>[x.1.memF]) (Γi:=[Con.memF c]) (Hj:=fun n:Nat=>[(b2,.cells #[.int .i64 (wz n)] 3 (0,0))]) (Hx:=fun _:Empty=>[]) (Hc:=[(b,.cells c.cells.toArray 46 (0,0))]) (caps:=[zp_ b 0]) 0 (Con.fold Con.cnt c 0) rfl (.refl _) (fun v _ h=>h) ?_ ?_ ?_ ?_
 ·rintro l D rec hp hst hpe ht hasg hbody s ⟨x,hx⟩ -
  refine kW_ (ι:=Unit) (Hj:=fun n:Nat=>[(b2,.cells #[.int .i64 (wz n)] 3 (0,0))]) (Hx:=fun _:Empty=>[]) (s:=s) (res:=Con.cnt x s) (Γ:=[x.memF]) (fun _=>[(2,zp_ b2 0)]) (fun _=>[(b2,.cells #[.int .i64 (wz s)] 3 (0,0))]) hp hst hpe ht rfl ?_ ?_
  ·intro n v0 H0 HL
   rw[hasg]
   refine mD_ ?_
   refine de_ rfl ?_
   exact dE_ () ⟨rfl,trivial⟩ (F:=[]) (by rw[List.append_nil]) zh
  intro n v0 H0 HL _
  rw[hbody]
  refine gg_ ?_
  refine bh_ ?_
  refine aq_ (bv_ _) (bl_ 0 aS_ rfl rfl rfl) rfl rfl ?_
  refine aq_ (bv_ _) (aY_ (tg_ rfl rfl) (show _=Value.int .i64 (wz (s+1)) from congrArg (Value.int .i64) (uM_ s))) rfl rfl ?_
  refine eP_ (bv_ _) 0 ao_ rfl rfl rfl rfl rfl rfl ?_
  refine bW_ ?_
  refine de_ rfl ?_
  exact mE_ (s+1) rfl (G:=[]) (by rw[List.append_nil];exact .refl _)
 ·intro l Gj Gx hY
  exact rh_ (E:=[]) (good:=fun _=>True) (fun _ _ _ _=>trivial) (fun s x hx _=>hY s ⟨x,hx⟩ trivial) _ hok trivial 0
 ·intro s hs D l r
  rw[Con.fold_cnt _ _ (Nat.le_refl _)]at hs
  obtain rfl:0+c.sz=s:=Sum.inl.inj hs
  have hz:wz (0+c.sz)=(c.sz:Int):=by rw[Nat.zero_add];exact th_ hz0
  refine dm_ rfl ?_
  refine fD_ ?_
  refine bh_ ?_
  refine aq_ ad_ (bl_ 1 aS_ rfl rfl rfl) rfl rfl ?_
  refine eP_ ad_ 1 ao_ rfl rfl rfl rfl rfl rfl ?_
  refine bW_ ?_
  refine dm_ rfl ?_
  refine gT_ ?_
  exact mG_ (G:=[_,_,_]) () (fun a v h1 h2=>by rw[← hz];exact jd_ 1 Tryz.results182 aS_ rfl rfl a v h1 h2) (fw_ (i:=3) rfl) ⟨_,.refl _⟩ rfl
 intro t hs D l r
 cases t
end Go.Proofs.YtamklbgaipakfaaGreatDoor
namespace Go.Proofs.YtamklbgaipakfaaGreatDoor
open Go Go.Sx Go.Proofs
attribute [local irreducible] Code.wp wpList wpAnyH
open Go.Vs
theorem fW_ (xs:List Str) (ad:Option Addr) (cap:Nat) {kb:Nat} (frm:Int) (l:List Pc) (q:CS) (hq:CInv l q) (hxs:xs.length≤1000) (hlen:l.length+xs.length≤100000) :
    Tri Tryz.prog 111 #[zp_ kb 0,.slice ad (List.length xs) cap] (fH_ kb frm q) [al_ ad (List.flatMap aE_ xs)] (fun _:{q':CS // CInv (br_ frm xs l) q'}=>.tuple #[]) (fun q'=>fH_ kb frm q'.1) (fun _=>[]):=by
  refine l_ Tryz.func111 rfl rfl Tryz.ntmps111 rfl fun v0=>?_
  refine Zz 8 ?_
  refine bx_ [(0,zp_ kb 0),(6,.slice ad (List.length xs) cap),(7,.int .i64 (List.length xs:Int)),(8,.int .i64 ((0:Nat):Int))] zl ?_
  refine bL_ (ι:={y:Nat×CS // y.1≤xs.length∧CInv (br_ frm (xs.take y.1) l) y.2}) (fun y=>[(0,zp_ kb 0),(6,.slice ad (List.length xs) cap),(7,.int .i64 (List.length xs:Int)),(8,.int .i64 (y.1.1:Int))]) (fun y=>fH_ kb frm y.1.2) (fun _=>_) (fun y=>xs.length - y.1.1) ⟨(0,q),by simp,hq⟩ ?_
  rintro ⟨⟨i,q0⟩,hk⟩
  dsimp only at hk
  dsimp only
  have hml:=eV_ frm (xs.take i) l
  have hti:(xs.take i).length≤i:=by simp;omega
  refine bx_ [(0,zp_ kb 0),(6,.slice ad (List.length xs) cap),(7,.int .i64 (List.length xs:Int)),(8,.int .i64 (i:Int))] zl ?_
  refine Zi 2 (fun hr1=>?_) fun hr1=>?_
  · skip
    refine Zz 6 ?_
    exact bX_ Tryz.results111 ⟨q0,by have:=hk.2;rwa [List.take_of_length_le (by omega)]at this⟩ rfl (F:=[]) aZ_ zt
  · skip
    obtain⟨hlx1,x1,hx1,hmx1⟩:=zge (show i<List.length xs by omega)
    refine Zz 18 ?_
    refine d_ (w_ dA_ rfl rfl) rfl (E_ q_ F_ Z_ rfl rfl rfl rfl rfl rfl fun b1=>f_ (dQ_ (Pc.mk 1 x1 [] [42] [] [] [] 0 0 0) frm (br_ frm (xs.take i) l) q0 hk.2 (by omega)) rfl zp zt rfl fun⟨q1,hq1⟩=>?_)
    dsimp only
    have hb1:=bp_ frm (br_ frm (xs.take i) l) (Pc.mk 1 x1 [] [42] [] [] [] 0 0 0)
    refine C_ (List.Perm.symm aZ_) (Zz 7 ?_)
    exact J_ ⟨(i+1,q1),hlx1,by dsimp only;rw[qA_ frm hx1];exact hq1⟩ (by dsimp only;omega) zl (F:=[]) aZ_ zh
theorem iq_ (a b:Str):Fn0 Tryz.prog 109 #[str a,str b] (Fc.val ⟨1,a,b,[],0,0⟩):=by
  refine l_ Tryz.func109 rfl rfl Tryz.ntmps109 rfl fun v0=>?_
  refine Zz 2 ?_
  refine K_ aQ_ rfl fun b1=>Zz 6 ?_
  refine d_ (w_ lj_ rfl rfl) rfl (x_ 0 aA_ rfl rfl rfl rfl rfl rfl (Zz 3 ?_))
  exact fE_ () (fun a v h1 h2=>dV_ (us:=Fc.cells ⟨1,_,_,[],0,0⟩) 0 Tryz.results109 gq_ aA_ rfl rfl rfl a v h1 h2) (@List.perm_append_comm _ [_] _) (fun v _ h=>trivial)
theorem eltF:Elt Tryz.prog 59 67 6 72:=hZ_ Tryz.underlying59 (z:=.agg (Fc.mk 0 [] [] [] 0 0).cells.toArray) (by kernel_rfl) rfl (by decide)
theorem goal_c (x:Ax) (hok:x.ok):Tri Tryz.prog 58 #[Ax.val x] [] [Ax.memF x,cq_] (fun y:{y:Option Addr×Nat×Option Addr×Nat // x.goalP.1.length≤y.2.1∧y.2.1≤maxLen∧x.goalP.2.1.length≤y.2.2.2∧y.2.2.2≤maxLen∧(y.1=none→y.2.1=0)}=>.tuple #[.slice y.1.1 x.goalP.1.length y.1.2.1,.slice y.1.2.2.1 x.goalP.2.1.length y.1.2.2.2,.int .i64 x.goalP.2.2])
    (fun _=>[]) (fun y=>[al_ y.1.1 (x.goalP.1.flatMap Pc.cells),al_ y.1.2.2.1 (x.goalP.2.1.flatMap Fc.cells)]):=by
  refine l_ Tryz.func58 rfl rfl Tryz.ntmps58 rfl fun v0=>?_
  have h1:=hok.role
  have h2:=hok.a
  have h3:=hok.b
  have h4:=Con.operandN_len hok.left
  have h5:=Con.operandN_len hok.right
  have h0:([]:List Pc).length=0:=rfl
  refine Zz 2 ?_
  refine U_ rfl rfl fun b1=>Zz 9 ?_
  refine f_ (hw_ x hok) rfl g_ zf rfl fun _=>Zi 6 (fun hr1=>?_) fun hr1=>?_
  · skip
    have G:=Ax.good_of hr1
    refine Zz 7 ?_
    refine f_ (hR_ (-1)) rfl g_ zt rfl fun⟨kb,bm0⟩=>?_
    dsimp only
    refine C_ (@List.perm_append_comm _ _ [_]) (Zz 6 ?_)
    refine f_ (rm_ kb) rfl g_ zt rfl fun⟨bk,bl,br⟩=>?_
    dsimp only
    refine Zi 23 (fun hr2=>?_) fun hr2=>?_
    · skip
      refine Zi 5 (fun hr3=>?_) fun hr3=>?_
      · skip
        refine Zi 6 (fun hr4=>?_) fun hr4=>?_
        · skip
          refine Zi 6 (fun hr5=>?_) fun hr5=>?_
          · skip
            refine Zi 6 (fun hr6=>?_) fun hr6=>?_
            · skip
              refine Zi 6 (fun hr7=>?_) fun hr7=>?_
              · skip
                refine Zz 12 ?_
                have e:x.goalP=([],[],22):=by unfold Ax.goalP;rw[if_neg (by omega)];repeat rw[if_neg (by omega)]
                have hy:x.goalP.1.length≤0∧0≤maxLen∧x.goalP.2.1.length≤0∧0≤maxLen∧((none:Option Addr)=none→0=0):=by rw[e];simp
                have hz:Value.tuple #[.slice none 0 0,.slice none 0 0,.int .i64 22]=.tuple #[.slice none x.goalP.1.length 0,.slice none x.goalP.2.1.length 0,.int .i64 x.goalP.2.2]:=by rw[e]<;>rfl
                have hw1:x.goalP.1.flatMap Pc.cells=[]:=by rw[e];rfl
                have hw2:x.goalP.2.1.flatMap Fc.cells=[]:=by rw[e];rfl
                exact jQ_ fg_ ⟨(none,0,none,0),hy⟩ rfl rfl rfl hz g_ (fun v _ h=>⟨.inl hw1,.inl hw2,trivial⟩)
              · skip
                refine Zz 5 ?_
                refine am_ ((b1,.cells #[.int .i64 (Ax.kind x),.bool (Ax.opn x),.int .i64 (Con.kind (Ax.left x)),str (Con.name (Ax.left x)),.int .i64 (Con.lo (Ax.left x)),.int .i64 (Con.hi (Ax.left x)),.slice (Con.ad (Ax.left x)) (List.length (Con.parts (Ax.left x))) (Con.cap (Ax.left x)),.int .i64 (Con.kind (Ax.right x)),str (Con.name (Ax.right x)),.int .i64 (Con.lo (Ax.right x)),.int .i64 (Con.hi (Ax.right x)),.slice (Con.ad (Ax.right x)) (List.length (Con.parts (Ax.right x))) (Con.cap (Ax.right x)),.slice (Ax.ad x) (List.length (Ax.roles x)) (Ax.cap x),str (Ax.role x),str (Ax.a x),str (Ax.b x)] 48 (0,0))::[]) zk ?_
                refine z_ 4 [0,1,2,4,5] zk zs (Zz 6 ?_)
                refine j_ 3 rfl zk (f_ (cJ_ (Ax.a x) hok.a) rfl g_ zt rfl fun _=>Zz 3 ?_)
                refine j_ 6 rfl zk (f_ (cJ_ (Ax.b x) hok.b) rfl g_ zt rfl fun _=>Zz 3 ?_)
                refine j_ 7 rfl zk (E_ n_ O_ an_ rfl rfl rfl rfl rfl rfl fun b2=>?_)
                refine ap_ (List.flatMap aE_ [(eD_ (Ax.a x)),(eD_ (Ax.b x))]) e_ rfl ?_
                refine Zz 3 ?_
                refine j_ 8 rfl zk (f_ (fW_ [(eD_ (Ax.a x)),(eD_ (Ax.b x))] (some ⟨b2,0,none⟩) 2 (-1) ([]:List Pc) ⟨.slice none 0 0,bm0,#[],0,[]⟩ ⟨aL_.nil _ _,rfl,by simp⟩ (by simp) (by simp only[List.length_cons,List.length_nil];omega)) rfl zp zf rfl fun⟨q1,hq1⟩=>?_)
                dsimp only
                have hb1:=eV_ (-1) [(eD_ (Ax.a x)),(eD_ (Ax.b x))] ([]:List Pc)
                refine C_ (@List.perm_append_comm _ _ [_]) ?_
                simp only[List.length_cons,List.length_nil]at hb1
                refine Zz 6 ?_
                refine z_ 5 [0,1,3,4,6,7] zk zs (Zz 7 ?_)
                refine j_ 2 rfl zk (f_ (cJ_ (Ax.a x) hok.a) rfl g_ zt rfl fun _=>Zz 3 ?_)
                refine j_ 5 rfl zk (f_ (cJ_ (Ax.b x) hok.b) rfl g_ zt rfl fun _=>Zz 3 ?_)
                refine z_ 2 [8] zk zs (P_ rfl (w_ lj_ rfl rfl) rfl (bA_ (j_ 9 rfl zk (E_ aw_ aA_ aQ_ rfl rfl rfl rfl rfl rfl fun b3=>Zz 3 ?_))))
                refine z_ 0 [10] zk zs (Zz 17 ?_)
                refine ap_ (List.flatMap Fc.cells [(Fc.mk 2 (eD_ (Ax.a x)) (eD_ (Ax.b x)) (Ax.role x) 0 0)]) e_ rfl ?_
                refine du_ hq1.row (c_ (c_ (c_ aZ_))) fun adP cpP hsvP hcP1 hcP2=>?_
                have e:x.goalP=((br_ (-1) [(eD_ (Ax.a x)),(eD_ (Ax.b x))] ([]:List Pc)),[(Fc.mk 2 (eD_ (Ax.a x)) (eD_ (Ax.b x)) (Ax.role x) 0 0)],0):=by
                  unfold Ax.goalP;rw[if_neg (by omega)];repeat (first|rfl|(rw[if_pos (by omega)])|(rw[if_neg (by omega)]))
                have hy:x.goalP.1.length≤cpP∧cpP≤maxLen∧x.goalP.2.1.length≤1∧1≤maxLen∧(adP=none→cpP=0):=by rw[e];exact⟨hcP1,hcP2,by simp,by decide,aL_.nilcap hq1.row hsvP⟩
                have hz:Value.tuple #[q1.sv,.slice (some ⟨b3,0,none⟩) 1 1,.int .i64 0]=.tuple #[.slice adP x.goalP.1.length cpP,.slice (some ⟨b3,0,none⟩) x.goalP.2.1.length 1,.int .i64 x.goalP.2.2]:=by
                  rw[e,hsvP]<;>rfl
                have hw1:List.flatMap Pc.cells (br_ (-1) [(eD_ (Ax.a x)),(eD_ (Ax.b x))] ([]:List Pc))=x.goalP.1.flatMap Pc.cells:=by rw[e]
                have hw2:List.flatMap Fc.cells [(Fc.mk 2 (eD_ (Ax.a x)) (eD_ (Ax.b x)) (Ax.role x) 0 0)]=x.goalP.2.1.flatMap Fc.cells:=by rw[e]
                exact jQ_ fg_ ⟨(adP,cpP,(some ⟨b3,0,none⟩),1),hy⟩ rfl rfl rfl hz g_ (fun v _ h=>⟨hw1▸h.1,hw2▸h.2.1,trivial⟩)
            · skip
              obtain⟨fr,zr⟩:=Con.check_zero (G.right (by omega))
              refine Zz 5 ?_
              refine am_ ((b1,.cells #[.int .i64 (Ax.kind x),.bool (Ax.opn x),.int .i64 (Con.kind (Ax.left x)),str (Con.name (Ax.left x)),.int .i64 (Con.lo (Ax.left x)),.int .i64 (Con.hi (Ax.left x)),.slice (Con.ad (Ax.left x)) (List.length (Con.parts (Ax.left x))) (Con.cap (Ax.left x)),.int .i64 (Con.kind (Ax.right x)),str (Con.name (Ax.right x)),.int .i64 (Con.lo (Ax.right x)),.int .i64 (Con.hi (Ax.right x)),.slice (Con.ad (Ax.right x)) (List.length (Con.parts (Ax.right x))) (Con.cap (Ax.right x)),.slice (Ax.ad x) (List.length (Ax.roles x)) (Ax.cap x),str (Ax.role x),str (Ax.a x),str (Ax.b x)] 48 (0,0))::[]) zk ?_
              refine z_ 4 [0,1,2,4,5] zk zs (Zz 6 ?_)
              refine j_ 3 rfl zk (f_ (cJ_ (Ax.a x) hok.a) rfl g_ zt rfl fun _=>Zz 3 ?_)
              refine j_ 6 rfl zk (f_ (co_ (Ax.right x) hok.right) rfl g_ (fun v _ h=>by exact⟨h.2.2.2.1.2.1,h.2.2.2.2.1,trivial⟩) rfl fun _=>Zz 3 ?_)
              refine j_ 7 rfl zk (E_ n_ O_ an_ rfl rfl rfl rfl rfl rfl fun b4=>?_)
              refine ap_ (List.flatMap aE_ [(eD_ (Ax.a x)),(Con.atom (Ax.right x))]) e_ rfl ?_
              refine Zz 3 ?_
              refine j_ 8 rfl zk (f_ (fW_ [(eD_ (Ax.a x)),(Con.atom (Ax.right x))] (some ⟨b4,0,none⟩) 2 (-1) ([]:List Pc) ⟨.slice none 0 0,bm0,#[],0,[]⟩ ⟨aL_.nil _ _,rfl,by simp⟩ (by simp) (by simp only[List.length_cons,List.length_nil];omega)) rfl zp zf rfl fun⟨q2,hq2⟩=>?_)
              dsimp only
              have hb2:=eV_ (-1) [(eD_ (Ax.a x)),(Con.atom (Ax.right x))] ([]:List Pc)
              refine C_ (@List.perm_append_comm _ _ [_]) ?_
              simp only[List.length_cons,List.length_nil]at hb2
              refine Zz 10 ?_
              refine Y_ (gE_ (kb:=kb) (bk:=bk) (bs:=bl) (frm:=(-1)) _ (Ax.right x) (Nat.le_refl _) hok.right fr (br_ (-1) [(eD_ (Ax.a x)),(Con.atom (Ax.right x))] ([]:List Pc)) q2 hq2 (by omega)) rfl rfl zp (fun v _ h=>by exact⟨h.2.2.2.2.1.2.1,h.2.2.2.2.2.1,h.2.1,h.2.2.1,trivial⟩) rfl fun⟨q3,hq3⟩=>?_
              dsimp only
              have hb3:=Con.leftP_len (-1) _ (Ax.right x) (Nat.le_refl _) (br_ (-1) [(eD_ (Ax.a x)),(Con.atom (Ax.right x))] ([]:List Pc))
              refine C_ (@List.perm_append_comm _ _ [_]) (Zz 3 ?_)
              refine z_ 5 [0,1,2,4,5] zk zs (Zz 6 ?_)
              refine j_ 3 rfl zk (f_ (cJ_ (Ax.a x) hok.a) rfl g_ zt rfl fun _=>Zz 3 ?_)
              refine j_ 6 rfl zk (f_ (co_ (Ax.right x) hok.right) rfl g_ (fun v _ h=>by exact⟨h.2.2.2.2.1.2.1,h.2.2.2.2.2.1,trivial⟩) rfl fun _=>Zz 3 ?_)
              refine j_ 7 rfl zk (Y_ (iq_ (eD_ (Ax.a x)) (Con.atom (Ax.right x))) rfl rfl g_ zt rfl fun _=>Zz 3 ?_)
              refine j_ 8 rfl zk (E_ aw_ aA_ aQ_ rfl rfl rfl rfl rfl rfl fun b5=>Zz 3 ?_)
              refine z_ 0 [9] zk zs (Zz 17 ?_)
              refine ap_ (List.flatMap Fc.cells [(Fc.mk 1 (eD_ (Ax.a x)) (Con.atom (Ax.right x)) [] 0 0)]) e_ rfl ?_
              refine du_ hq3.row (c_ (c_ (c_ aZ_))) fun adP cpP hsvP hcP1 hcP2=>?_
              have e:x.goalP=((Con.leftP (-1) (Ax.right x) (br_ (-1) [(eD_ (Ax.a x)),(Con.atom (Ax.right x))] ([]:List Pc))),[(Fc.mk 1 (eD_ (Ax.a x)) (Con.atom (Ax.right x)) [] 0 0)],0):=by
                unfold Ax.goalP;rw[if_neg (by omega)];repeat (first|rfl|(rw[if_pos (by omega)])|(rw[if_neg (by omega)]))
              have hy:x.goalP.1.length≤cpP∧cpP≤maxLen∧x.goalP.2.1.length≤1∧1≤maxLen∧(adP=none→cpP=0):=by rw[e];exact⟨hcP1,hcP2,by simp,by decide,aL_.nilcap hq3.row hsvP⟩
              have hz:Value.tuple #[q3.sv,.slice (some ⟨b5,0,none⟩) 1 1,.int .i64 0]=.tuple #[.slice adP x.goalP.1.length cpP,.slice (some ⟨b5,0,none⟩) x.goalP.2.1.length 1,.int .i64 x.goalP.2.2]:=by
                rw[e,hsvP]<;>rfl
              have hw1:List.flatMap Pc.cells (Con.leftP (-1) (Ax.right x) (br_ (-1) [(eD_ (Ax.a x)),(Con.atom (Ax.right x))] ([]:List Pc)))=x.goalP.1.flatMap Pc.cells:=by rw[e]
              have hw2:List.flatMap Fc.cells [(Fc.mk 1 (eD_ (Ax.a x)) (Con.atom (Ax.right x)) [] 0 0)]=x.goalP.2.1.flatMap Fc.cells:=by rw[e]
              exact jQ_ fg_ ⟨(adP,cpP,(some ⟨b5,0,none⟩),1),hy⟩ rfl rfl rfl hz g_ (fun v _ h=>⟨hw1▸h.1,hw2▸h.2.1,trivial⟩)
          · skip
            obtain⟨fr,zr⟩:=Con.check_zero (G.right (by omega))
            refine Zz 8 ?_
            refine d_ (dy_ rfl rfl (by simp only[List.length_append,List.length_cons,List.length_nil];omega)) rfl ?_
            refine d_ (aY_ (dy_ rfl rfl (by simp only[List.length_append,List.length_cons,List.length_nil];omega)) (show _=str (Ax.doms x) from rfl)) rfl ?_
            refine Zz 9 ?_
            refine f_ (co_ (Ax.right x) hok.right) rfl g_ (fun v _ h=>by exact⟨h.2.2.2.1.2.1,h.2.2.2.2.1,trivial⟩) rfl fun _=>E_ n_ O_ an_ rfl rfl rfl rfl rfl rfl fun b6=>?_
            refine ap_ (List.flatMap aE_ [(Ax.doms x),(Con.atom (Ax.right x))]) e_ rfl ?_
            refine f_ (fW_ [(Ax.doms x),(Con.atom (Ax.right x))] (some ⟨b6,0,none⟩) 2 (-1) ([]:List Pc) ⟨.slice none 0 0,bm0,#[],0,[]⟩ ⟨aL_.nil _ _,rfl,by simp⟩ (by simp) (by simp only[List.length_cons,List.length_nil];omega)) rfl zp zf rfl fun⟨q4,hq4⟩=>?_
            dsimp only
            have hb4:=eV_ (-1) [(Ax.doms x),(Con.atom (Ax.right x))] ([]:List Pc)
            refine C_ (@List.perm_append_comm _ _ [_]) ?_
            simp only[List.length_cons,List.length_nil]at hb4
            refine Zz 8 ?_
            refine d_ (w_ dA_ rfl rfl) rfl (E_ q_ F_ Z_ rfl rfl rfl rfl rfl rfl fun b7=>f_ (dQ_ (Pc.mk 3 (Ax.doms x) [] [42] (Ax.role x) [] [] 0 0 0) (-1) (br_ (-1) [(Ax.doms x),(Con.atom (Ax.right x))] ([]:List Pc)) q4 hq4 (by omega)) rfl zp zt rfl fun⟨q5,hq5⟩=>?_)
            dsimp only
            have hb5:=bp_ (-1) (br_ (-1) [(Ax.doms x),(Con.atom (Ax.right x))] ([]:List Pc)) (Pc.mk 3 (Ax.doms x) [] [42] (Ax.role x) [] [] 0 0 0)
            refine C_ (@List.perm_append_comm _ _ [_]) (Zz 7 ?_)
            refine Y_ (gE_ (kb:=kb) (bk:=bk) (bs:=bl) (frm:=(-1)) _ (Ax.right x) (Nat.le_refl _) hok.right fr (ins (-1) (br_ (-1) [(Ax.doms x),(Con.atom (Ax.right x))] ([]:List Pc)) (Pc.mk 3 (Ax.doms x) [] [42] (Ax.role x) [] [] 0 0 0)) q5 hq5 (by omega)) rfl rfl zp (fun v _ h=>by exact⟨h.2.2.2.2.1.2.1,h.2.2.2.2.2.1,h.2.1,h.2.2.1,trivial⟩) rfl fun⟨q6,hq6⟩=>?_
            dsimp only
            have hb6:=Con.leftP_len (-1) _ (Ax.right x) (Nat.le_refl _) (ins (-1) (br_ (-1) [(Ax.doms x),(Con.atom (Ax.right x))] ([]:List Pc)) (Pc.mk 3 (Ax.doms x) [] [42] (Ax.role x) [] [] 0 0 0))
            refine C_ (@List.perm_append_comm _ _ [_]) (Zz 7 ?_)
            refine f_ (co_ (Ax.right x) hok.right) rfl g_ (fun v _ h=>by exact⟨h.2.2.2.2.1.2.1,h.2.2.2.2.2.1,trivial⟩) rfl fun _=>Y_ (iq_ (Ax.doms x) (Con.atom (Ax.right x))) rfl rfl g_ zt rfl fun _=>E_ aw_ aA_ aQ_ rfl rfl rfl rfl rfl rfl fun b8=>Zz 16 ?_
            refine ap_ (List.flatMap Fc.cells [(Fc.mk 1 (Ax.doms x) (Con.atom (Ax.right x)) [] 0 0)]) e_ rfl ?_
            refine du_ hq6.row (c_ (c_ (c_ aZ_))) fun adP cpP hsvP hcP1 hcP2=>?_
            have e:x.goalP=((Con.leftP (-1) (Ax.right x) (ins (-1) (br_ (-1) [(Ax.doms x),(Con.atom (Ax.right x))] ([]:List Pc)) (Pc.mk 3 (Ax.doms x) [] [42] (Ax.role x) [] [] 0 0 0))),[(Fc.mk 1 (Ax.doms x) (Con.atom (Ax.right x)) [] 0 0)],0):=by
              unfold Ax.goalP;rw[if_neg (by omega)];repeat (first|rfl|(rw[if_pos (by omega)])|(rw[if_neg (by omega)]))
            have hy:x.goalP.1.length≤cpP∧cpP≤maxLen∧x.goalP.2.1.length≤1∧1≤maxLen∧(adP=none→cpP=0):=by rw[e];exact⟨hcP1,hcP2,by simp,by decide,aL_.nilcap hq6.row hsvP⟩
            have hz:Value.tuple #[q6.sv,.slice (some ⟨b8,0,none⟩) 1 1,.int .i64 0]=.tuple #[.slice adP x.goalP.1.length cpP,.slice (some ⟨b8,0,none⟩) x.goalP.2.1.length 1,.int .i64 x.goalP.2.2]:=by
              rw[e,hsvP]<;>rfl
            have hw1:List.flatMap Pc.cells (Con.leftP (-1) (Ax.right x) (ins (-1) (br_ (-1) [(Ax.doms x),(Con.atom (Ax.right x))] ([]:List Pc)) (Pc.mk 3 (Ax.doms x) [] [42] (Ax.role x) [] [] 0 0 0)))=x.goalP.1.flatMap Pc.cells:=by rw[e]
            have hw2:List.flatMap Fc.cells [(Fc.mk 1 (Ax.doms x) (Con.atom (Ax.right x)) [] 0 0)]=x.goalP.2.1.flatMap Fc.cells:=by rw[e]
            exact jQ_ fg_ ⟨(adP,cpP,(some ⟨b8,0,none⟩),1),hy⟩ rfl rfl rfl hz g_ (fun v _ h=>⟨hw1▸h.1,hw2▸h.2.1,trivial⟩)
        · skip
          obtain⟨fl,zl⟩:=Con.check_zero (G.left (by omega))
          obtain⟨fr,zr⟩:=Con.check_zero (G.right (by omega))
          refine Zz 6 ?_
          refine z_ 7 [0,1,5,6] zk zs (Zz 5 ?_)
          refine j_ 2 rfl zk (f_ (lG_ (Ax.left x) hok.left) rfl g_ (fun v _ h=>by exact⟨h.2.2.2.1.1,h.2.2.2.2.1,trivial⟩) rfl fun _=>Zz 3 ?_)
          refine z_ 4 [3,4] zk zs ?_
          refine P_ rfl (dy_ rfl rfl (by simp only[List.length_append,List.length_cons,List.length_nil];omega)) rfl ?_
          refine P_ rfl (dy_ rfl rfl (by simp only[List.length_append,List.length_cons,List.length_nil];omega)) rfl ?_
          refine bA_ (j_ 7 rfl zk (f_ (lG_ (Ax.right x) hok.right) rfl g_ (fun v _ h=>by exact⟨h.2.2.2.1.2.1,h.2.2.2.2.1,trivial⟩) rfl fun _=>Zz 3 ?_))
          refine z_ 0 [8,9,10] zk zs ?_
          refine P_ rfl (dy_ rfl rfl (by simp only[List.length_append,List.length_cons,List.length_nil];omega)) rfl ?_
          refine P_ rfl (aY_ (dy_ rfl rfl (by simp only[List.length_append,List.length_cons,List.length_nil];omega)) (show _=str (Ax.disj x) from rfl)) rfl ?_
          refine Zz 8 ?_
          refine E_ n_ O_ an_ rfl rfl rfl rfl rfl rfl fun b9=>?_
          refine ap_ (List.flatMap aE_ [(Ax.disj x),[33]]) e_ rfl ?_
          refine f_ (fW_ [(Ax.disj x),[33]] (some ⟨b9,0,none⟩) 2 (-1) ([]:List Pc) ⟨.slice none 0 0,bm0,#[],0,[]⟩ ⟨aL_.nil _ _,rfl,by simp⟩ (by simp) (by simp only[List.length_cons,List.length_nil];omega)) rfl zp zf rfl fun⟨q7,hq7⟩=>?_
          dsimp only
          have hb7:=eV_ (-1) [(Ax.disj x),[33]] ([]:List Pc)
          refine C_ (@List.perm_append_comm _ _ [_]) ?_
          simp only[List.length_cons,List.length_nil]at hb7
          refine Zz 8 ?_
          refine f_ (co_ (Ax.left x) hok.left) rfl g_ (fun v _ h=>by exact⟨h.2.2.2.2.1.1,h.2.2.2.2.2.1,trivial⟩) rfl fun _=>d_ (w_ dA_ rfl rfl) rfl (E_ q_ F_ Z_ rfl rfl rfl rfl rfl rfl fun b10=>f_ (dQ_ (Pc.mk 1 (Ax.disj x) [] (Con.atom (Ax.left x)) [] [] [] 0 0 0) (-1) (br_ (-1) [(Ax.disj x),[33]] ([]:List Pc)) q7 hq7 (by omega)) rfl zp zt rfl fun⟨q8,hq8⟩=>?_)
          dsimp only
          have hb8:=bp_ (-1) (br_ (-1) [(Ax.disj x),[33]] ([]:List Pc)) (Pc.mk 1 (Ax.disj x) [] (Con.atom (Ax.left x)) [] [] [] 0 0 0)
          refine C_ (@List.perm_append_comm _ _ [_]) (Zz 7 ?_)
          refine Y_ (fv_ (kb:=kb) (bk:=bk) (bs:=br) (frm:=(-1)) _ (Ax.left x) (Nat.le_refl _) hok.left fl (ins (-1) (br_ (-1) [(Ax.disj x),[33]] ([]:List Pc)) (Pc.mk 1 (Ax.disj x) [] (Con.atom (Ax.left x)) [] [] [] 0 0 0)) q8 hq8 (by omega)) rfl rfl zp (fun v _ h=>by exact⟨h.2.2.2.2.1.1,h.2.2.2.2.2.1,h.2.1,h.2.2.2.1,trivial⟩) rfl fun⟨q9,hq9⟩=>?_
          dsimp only
          have hb9:=Con.rightP_len (-1) _ (Ax.left x) (Nat.le_refl _) (ins (-1) (br_ (-1) [(Ax.disj x),[33]] ([]:List Pc)) (Pc.mk 1 (Ax.disj x) [] (Con.atom (Ax.left x)) [] [] [] 0 0 0))
          refine C_ (@List.perm_append_comm _ _ [_]) (Zz 8 ?_)
          refine f_ (co_ (Ax.right x) hok.right) rfl g_ (fun v _ h=>by exact⟨h.2.2.2.2.1.2.1,h.2.2.2.2.2.1,trivial⟩) rfl fun _=>d_ (w_ dA_ rfl rfl) rfl (E_ q_ F_ Z_ rfl rfl rfl rfl rfl rfl fun b11=>f_ (dQ_ (Pc.mk 1 (Ax.disj x) [] (Con.atom (Ax.right x)) [] [] [] 0 0 0) (-1) (Con.rightP (-1) (Ax.left x) (ins (-1) (br_ (-1) [(Ax.disj x),[33]] ([]:List Pc)) (Pc.mk 1 (Ax.disj x) [] (Con.atom (Ax.left x)) [] [] [] 0 0 0))) q9 hq9 (by omega)) rfl zp zt rfl fun⟨q10,hq10⟩=>?_)
          dsimp only
          have hb10:=bp_ (-1) (Con.rightP (-1) (Ax.left x) (ins (-1) (br_ (-1) [(Ax.disj x),[33]] ([]:List Pc)) (Pc.mk 1 (Ax.disj x) [] (Con.atom (Ax.left x)) [] [] [] 0 0 0))) (Pc.mk 1 (Ax.disj x) [] (Con.atom (Ax.right x)) [] [] [] 0 0 0)
          refine C_ (@List.perm_append_comm _ _ [_]) (Zz 7 ?_)
          refine Y_ (fv_ (kb:=kb) (bk:=bk) (bs:=br) (frm:=(-1)) _ (Ax.right x) (Nat.le_refl _) hok.right fr (ins (-1) (Con.rightP (-1) (Ax.left x) (ins (-1) (br_ (-1) [(Ax.disj x),[33]] ([]:List Pc)) (Pc.mk 1 (Ax.disj x) [] (Con.atom (Ax.left x)) [] [] [] 0 0 0))) (Pc.mk 1 (Ax.disj x) [] (Con.atom (Ax.right x)) [] [] [] 0 0 0)) q10 hq10 (by omega)) rfl rfl zp (fun v _ h=>by exact⟨h.2.2.2.2.1.2.1,h.2.2.2.2.2.1,h.2.1,h.2.2.2.1,trivial⟩) rfl fun⟨q11,hq11⟩=>?_
          dsimp only
          have hb11:=Con.rightP_len (-1) _ (Ax.right x) (Nat.le_refl _) (ins (-1) (Con.rightP (-1) (Ax.left x) (ins (-1) (br_ (-1) [(Ax.disj x),[33]] ([]:List Pc)) (Pc.mk 1 (Ax.disj x) [] (Con.atom (Ax.left x)) [] [] [] 0 0 0))) (Pc.mk 1 (Ax.disj x) [] (Con.atom (Ax.right x)) [] [] [] 0 0 0))
          refine C_ (@List.perm_append_comm _ _ [_]) (Zz 5 ?_)
          refine Y_ (iq_ (Ax.disj x) [33]) rfl rfl g_ zt rfl fun _=>E_ aw_ aA_ aQ_ rfl rfl rfl rfl rfl rfl fun b12=>Zz 16 ?_
          refine ap_ (List.flatMap Fc.cells [(Fc.mk 1 (Ax.disj x) [33] [] 0 0)]) e_ rfl ?_
          refine du_ hq11.row (c_ (c_ (c_ aZ_))) fun adP cpP hsvP hcP1 hcP2=>?_
          have e:x.goalP=((Con.rightP (-1) (Ax.right x) (ins (-1) (Con.rightP (-1) (Ax.left x) (ins (-1) (br_ (-1) [(Ax.disj x),[33]] ([]:List Pc)) (Pc.mk 1 (Ax.disj x) [] (Con.atom (Ax.left x)) [] [] [] 0 0 0))) (Pc.mk 1 (Ax.disj x) [] (Con.atom (Ax.right x)) [] [] [] 0 0 0))),[(Fc.mk 1 (Ax.disj x) [33] [] 0 0)],0):=by
            unfold Ax.goalP;rw[if_neg (by omega)];repeat (first|rfl|(rw[if_pos (by omega)])|(rw[if_neg (by omega)]))
          have hy:x.goalP.1.length≤cpP∧cpP≤maxLen∧x.goalP.2.1.length≤1∧1≤maxLen∧(adP=none→cpP=0):=by rw[e];exact⟨hcP1,hcP2,by simp,by decide,aL_.nilcap hq11.row hsvP⟩
          have hz:Value.tuple #[q11.sv,.slice (some ⟨b12,0,none⟩) 1 1,.int .i64 0]=.tuple #[.slice adP x.goalP.1.length cpP,.slice (some ⟨b12,0,none⟩) x.goalP.2.1.length 1,.int .i64 x.goalP.2.2]:=by
            rw[e,hsvP]<;>rfl
          have hw1:List.flatMap Pc.cells (Con.rightP (-1) (Ax.right x) (ins (-1) (Con.rightP (-1) (Ax.left x) (ins (-1) (br_ (-1) [(Ax.disj x),[33]] ([]:List Pc)) (Pc.mk 1 (Ax.disj x) [] (Con.atom (Ax.left x)) [] [] [] 0 0 0))) (Pc.mk 1 (Ax.disj x) [] (Con.atom (Ax.right x)) [] [] [] 0 0 0)))=x.goalP.1.flatMap Pc.cells:=by rw[e]
          have hw2:List.flatMap Fc.cells [(Fc.mk 1 (Ax.disj x) [33] [] 0 0)]=x.goalP.2.1.flatMap Fc.cells:=by rw[e]
          exact jQ_ fg_ ⟨(adP,cpP,(some ⟨b12,0,none⟩),1),hy⟩ rfl rfl rfl hz g_ (fun v _ h=>⟨hw1▸h.1,hw2▸h.2.1,trivial⟩)
      · skip
        obtain⟨fl,zl⟩:=Con.check_zero (G.left (by omega))
        obtain⟨fr,zr⟩:=Con.check_zero (G.right (by omega))
        refine Zz 6 ?_
        refine z_ 4 [0,1,3,4] zk zs (Zz 5 ?_)
        refine j_ 2 rfl zk (f_ (co_ (Ax.left x) hok.left) rfl g_ (fun v _ h=>by exact⟨h.2.2.2.1.1,h.2.2.2.2.1,trivial⟩) rfl fun _=>Zz 3 ?_)
        refine j_ 5 rfl zk (f_ (co_ (Ax.right x) hok.right) rfl g_ (fun v _ h=>by exact⟨h.2.2.2.1.2.1,h.2.2.2.2.1,trivial⟩) rfl fun _=>Zz 3 ?_)
        refine z_ 0 [6,7] zk zs (Zz 10 ?_)
        refine E_ n_ O_ an_ rfl rfl rfl rfl rfl rfl fun b13=>?_
        refine ap_ (List.flatMap aE_ [(Con.atom (Ax.left x)),(Con.atom (Ax.right x))]) e_ rfl ?_
        refine f_ (fW_ [(Con.atom (Ax.left x)),(Con.atom (Ax.right x))] (some ⟨b13,0,none⟩) 2 (-1) ([]:List Pc) ⟨.slice none 0 0,bm0,#[],0,[]⟩ ⟨aL_.nil _ _,rfl,by simp⟩ (by simp) (by simp only[List.length_cons,List.length_nil];omega)) rfl zp zf rfl fun⟨q12,hq12⟩=>?_
        dsimp only
        have hb12:=eV_ (-1) [(Con.atom (Ax.left x)),(Con.atom (Ax.right x))] ([]:List Pc)
        refine C_ (@List.perm_append_comm _ _ [_]) ?_
        simp only[List.length_cons,List.length_nil]at hb12
        refine Zz 7 ?_
        refine Y_ (fv_ (kb:=kb) (bk:=bk) (bs:=br) (frm:=(-1)) _ (Ax.left x) (Nat.le_refl _) hok.left fl (br_ (-1) [(Con.atom (Ax.left x)),(Con.atom (Ax.right x))] ([]:List Pc)) q12 hq12 (by omega)) rfl rfl zp (fun v _ h=>by exact⟨h.2.2.2.2.1.1,h.2.2.2.2.2.1,h.2.1,h.2.2.2.1,trivial⟩) rfl fun⟨q13,hq13⟩=>?_
        dsimp only
        have hb13:=Con.rightP_len (-1) _ (Ax.left x) (Nat.le_refl _) (br_ (-1) [(Con.atom (Ax.left x)),(Con.atom (Ax.right x))] ([]:List Pc))
        refine C_ (@List.perm_append_comm _ _ [_]) (Zz 7 ?_)
        refine Y_ (gE_ (kb:=kb) (bk:=bk) (bs:=bl) (frm:=(-1)) _ (Ax.right x) (Nat.le_refl _) hok.right fr (Con.rightP (-1) (Ax.left x) (br_ (-1) [(Con.atom (Ax.left x)),(Con.atom (Ax.right x))] ([]:List Pc))) q13 hq13 (by omega)) rfl rfl zp (fun v _ h=>by exact⟨h.2.2.2.2.1.2.1,h.2.2.2.2.2.1,h.2.1,h.2.2.1,trivial⟩) rfl fun⟨q14,hq14⟩=>?_
        dsimp only
        have hb14:=Con.leftP_len (-1) _ (Ax.right x) (Nat.le_refl _) (Con.rightP (-1) (Ax.left x) (br_ (-1) [(Con.atom (Ax.left x)),(Con.atom (Ax.right x))] ([]:List Pc)))
        refine C_ (@List.perm_append_comm _ _ [_]) (Zz 7 ?_)
        refine Y_ (iq_ (Con.atom (Ax.left x)) (Con.atom (Ax.right x))) rfl rfl g_ zt rfl fun _=>E_ aw_ aA_ aQ_ rfl rfl rfl rfl rfl rfl fun b14=>Zi 7 (fun hr8=>?_) fun hr8=>?_
        · skip
          refine Zz 18 ?_
          refine ap_ (List.flatMap Fc.cells [(Fc.mk 1 (Con.atom (Ax.left x)) (Con.atom (Ax.right x)) [] 0 0)]) e_ rfl ?_
          refine du_ hq14.row (c_ (c_ (c_ aZ_))) fun adP cpP hsvP hcP1 hcP2=>?_
          have e:x.goalP=((Con.leftP (-1) (Ax.right x) (Con.rightP (-1) (Ax.left x) (br_ (-1) [(Con.atom (Ax.left x)),(Con.atom (Ax.right x))] ([]:List Pc)))),[(Fc.mk 1 (Con.atom (Ax.left x)) (Con.atom (Ax.right x)) [] 0 0)],0):=by
            unfold Ax.goalP;rw[if_neg (by omega)];repeat (first|rfl|(rw[if_pos (by omega)])|(rw[if_neg (by omega)]))
          have hy:x.goalP.1.length≤cpP∧cpP≤maxLen∧x.goalP.2.1.length≤1∧1≤maxLen∧(adP=none→cpP=0):=by rw[e];exact⟨hcP1,hcP2,by simp,by decide,aL_.nilcap hq14.row hsvP⟩
          have hz:Value.tuple #[q14.sv,.slice (some ⟨b14,0,none⟩) 1 1,.int .i64 0]=.tuple #[.slice adP x.goalP.1.length cpP,.slice (some ⟨b14,0,none⟩) x.goalP.2.1.length 1,.int .i64 x.goalP.2.2]:=by
            rw[e,hsvP]<;>rfl
          have hw1:List.flatMap Pc.cells (Con.leftP (-1) (Ax.right x) (Con.rightP (-1) (Ax.left x) (br_ (-1) [(Con.atom (Ax.left x)),(Con.atom (Ax.right x))] ([]:List Pc))))=x.goalP.1.flatMap Pc.cells:=by rw[e]
          have hw2:List.flatMap Fc.cells [(Fc.mk 1 (Con.atom (Ax.left x)) (Con.atom (Ax.right x)) [] 0 0)]=x.goalP.2.1.flatMap Fc.cells:=by rw[e]
          exact jQ_ fg_ ⟨(adP,cpP,(some ⟨b14,0,none⟩),1),hy⟩ rfl rfl rfl hz g_ (fun v _ h=>⟨hw1▸h.1,hw2▸h.2.1,trivial⟩)
        · skip
          obtain⟨fl,zl⟩:=Con.check_zero (G.left (by omega))
          obtain⟨fr,zr⟩:=Con.check_zero (G.right (by omega))
          refine Zz 8 ?_
          refine Y_ (fv_ (kb:=kb) (bk:=bk) (bs:=br) (frm:=(-1)) _ (Ax.right x) (Nat.le_refl _) hok.right fr (Con.leftP (-1) (Ax.right x) (Con.rightP (-1) (Ax.left x) (br_ (-1) [(Con.atom (Ax.left x)),(Con.atom (Ax.right x))] ([]:List Pc)))) q14 hq14 (by omega)) rfl rfl zp (fun v _ h=>by exact⟨h.2.2.2.2.1.2.1,h.2.2.2.2.2.1,h.2.1,h.2.2.2.1,trivial⟩) rfl fun⟨q15,hq15⟩=>?_
          dsimp only
          have hb15:=Con.rightP_len (-1) _ (Ax.right x) (Nat.le_refl _) (Con.leftP (-1) (Ax.right x) (Con.rightP (-1) (Ax.left x) (br_ (-1) [(Con.atom (Ax.left x)),(Con.atom (Ax.right x))] ([]:List Pc))))
          refine C_ (@List.perm_append_comm _ _ [_,_]) (Zz 7 ?_)
          refine Y_ (gE_ (kb:=kb) (bk:=bk) (bs:=bl) (frm:=(-1)) _ (Ax.left x) (Nat.le_refl _) hok.left fl (Con.rightP (-1) (Ax.right x) (Con.leftP (-1) (Ax.right x) (Con.rightP (-1) (Ax.left x) (br_ (-1) [(Con.atom (Ax.left x)),(Con.atom (Ax.right x))] ([]:List Pc))))) q15 hq15 (by omega)) rfl rfl zp (fun v _ h=>by exact⟨h.2.2.2.2.1.1,h.2.2.2.2.2.1,h.2.1,h.2.2.1,trivial⟩) rfl fun⟨q16,hq16⟩=>?_
          dsimp only
          have hb16:=Con.leftP_len (-1) _ (Ax.left x) (Nat.le_refl _) (Con.rightP (-1) (Ax.right x) (Con.leftP (-1) (Ax.right x) (Con.rightP (-1) (Ax.left x) (br_ (-1) [(Con.atom (Ax.left x)),(Con.atom (Ax.right x))] ([]:List Pc)))))
          refine C_ (@List.perm_append_comm _ _ [_,_]) (Zz 7 ?_)
          refine Y_ (iq_ (Con.atom (Ax.right x)) (Con.atom (Ax.left x))) rfl rfl g_ zt rfl fun _=>E_ aw_ aA_ aQ_ rfl rfl rfl rfl rfl rfl fun b15=>?_
          have hrow0:aL_ 67 6 (.slice (some ⟨b14,0,none⟩) 1 1) 1 (Fc.cells (Fc.mk 1 (Con.atom (Ax.left x)) (Con.atom (Ax.right x)) [] 0 0)) [(b14,.cells (Fc.cells (Fc.mk 1 (Con.atom (Ax.left x)) (Con.atom (Ax.right x)) [] 0 0)).toArray 67 (0,0))]:=⟨rfl,.inr ⟨b14,1,_,rfl,rfl,by decide,by decide,rfl,rfl⟩⟩
          refine aG_ (news:=Fc.cells (Fc.mk 1 (Con.atom (Ax.right x)) (Con.atom (Ax.left x)) [] 0 0)) eltF hrow0 rfl rfl zp rfl (bM_ 0 rfl) (io_ rfl) (by decide) (by decide) rfl fun svF HrF hrowF=>?_
          obtain⟨gF,cpF,curF,rfl,rfl,hrF⟩:=hrowF.some (by decide)
          refine Zz 16 ?_
          refine du_ hrowF e_ fun adF cpG hsvF hcF1 hcF2=>?_
          refine du_ hq16.row (c_ (c_ (c_ (c_ aZ_)))) fun adP cpP hsvP hcP1 hcP2=>?_
          have e:x.goalP=((Con.leftP (-1) (Ax.left x) (Con.rightP (-1) (Ax.right x) (Con.leftP (-1) (Ax.right x) (Con.rightP (-1) (Ax.left x) (br_ (-1) [(Con.atom (Ax.left x)),(Con.atom (Ax.right x))] ([]:List Pc)))))),[⟨1,x.left.atom,x.right.atom,[],0,0⟩,⟨1,x.right.atom,x.left.atom,[],0,0⟩],0):=by
            unfold Ax.goalP;rw[if_neg (by omega)];repeat (first|rfl|(rw[if_pos (by omega)])|(rw[if_neg (by omega)]))
          have hy:x.goalP.1.length≤cpP∧cpP≤maxLen∧x.goalP.2.1.length≤cpG∧cpG≤maxLen∧(adP=none→cpP=0):=by rw[e];exact⟨hcP1,hcP2,hcF1,hcF2,aL_.nilcap hq16.row hsvP⟩
          have hz:Value.tuple #[q16.sv,.slice (some ⟨gF,0,none⟩) 2 cpF,.int .i64 0]=.tuple #[.slice adP x.goalP.1.length cpP,.slice adF x.goalP.2.1.length cpG,.int .i64 x.goalP.2.2]:=by
            rw[e,hsvP];exact congrArg (fun z=>Value.tuple #[_,z,_]) hsvF
          have hw1:List.flatMap Pc.cells (Con.leftP (-1) (Ax.left x) (Con.rightP (-1) (Ax.right x) (Con.leftP (-1) (Ax.right x) (Con.rightP (-1) (Ax.left x) (br_ (-1) [(Con.atom (Ax.left x)),(Con.atom (Ax.right x))] ([]:List Pc))))))=x.goalP.1.flatMap Pc.cells:=by rw[e]
          have hw2:List.flatMap Fc.cells [⟨1,x.left.atom,x.right.atom,[],0,0⟩,⟨1,x.right.atom,x.left.atom,[],0,0⟩]=x.goalP.2.1.flatMap Fc.cells:=by rw[e]
          exact jQ_ fg_ ⟨(adP,cpP,adF,cpG),hy⟩ rfl rfl rfl hz g_ (fun v _ h=>⟨hw1▸h.1,hw2▸h.2.1,trivial⟩)
    · skip
      obtain⟨fl,zl⟩:=Con.check_zero (G.left (by omega))
      obtain⟨fr,zr⟩:=Con.check_zero (G.right (by omega))
      refine Zz 9 ?_
      refine z_ 4 [0,1,3,4] zk zs (Zz 5 ?_)
      refine j_ 2 rfl zk (f_ (co_ (Ax.left x) hok.left) rfl g_ (fun v _ h=>by exact⟨h.2.2.2.1.1,h.2.2.2.2.1,trivial⟩) rfl fun _=>Zz 3 ?_)
      refine j_ 5 rfl zk (f_ (co_ (Ax.right x) hok.right) rfl g_ (fun v _ h=>by exact⟨h.2.2.2.1.2.1,h.2.2.2.2.1,trivial⟩) rfl fun _=>Zz 3 ?_)
      refine z_ 0 [6,7] zk zs (Zz 10 ?_)
      refine E_ n_ O_ an_ rfl rfl rfl rfl rfl rfl fun b16=>?_
      refine ap_ (List.flatMap aE_ [(Con.atom (Ax.left x)),(Con.atom (Ax.right x))]) e_ rfl ?_
      refine f_ (fW_ [(Con.atom (Ax.left x)),(Con.atom (Ax.right x))] (some ⟨b16,0,none⟩) 2 (-1) ([]:List Pc) ⟨.slice none 0 0,bm0,#[],0,[]⟩ ⟨aL_.nil _ _,rfl,by simp⟩ (by simp) (by simp only[List.length_cons,List.length_nil];omega)) rfl zp zf rfl fun⟨q17,hq17⟩=>?_
      dsimp only
      have hb17:=eV_ (-1) [(Con.atom (Ax.left x)),(Con.atom (Ax.right x))] ([]:List Pc)
      refine C_ (@List.perm_append_comm _ _ [_]) ?_
      simp only[List.length_cons,List.length_nil]at hb17
      refine Zz 7 ?_
      refine Y_ (fv_ (kb:=kb) (bk:=bk) (bs:=br) (frm:=(-1)) _ (Ax.left x) (Nat.le_refl _) hok.left fl (br_ (-1) [(Con.atom (Ax.left x)),(Con.atom (Ax.right x))] ([]:List Pc)) q17 hq17 (by omega)) rfl rfl zp (fun v _ h=>by exact⟨h.2.2.2.2.1.1,h.2.2.2.2.2.1,h.2.1,h.2.2.2.1,trivial⟩) rfl fun⟨q18,hq18⟩=>?_
      dsimp only
      have hb18:=Con.rightP_len (-1) _ (Ax.left x) (Nat.le_refl _) (br_ (-1) [(Con.atom (Ax.left x)),(Con.atom (Ax.right x))] ([]:List Pc))
      refine C_ (@List.perm_append_comm _ _ [_]) (Zz 7 ?_)
      refine Y_ (gE_ (kb:=kb) (bk:=bk) (bs:=bl) (frm:=(-1)) _ (Ax.right x) (Nat.le_refl _) hok.right fr (Con.rightP (-1) (Ax.left x) (br_ (-1) [(Con.atom (Ax.left x)),(Con.atom (Ax.right x))] ([]:List Pc))) q18 hq18 (by omega)) rfl rfl zp (fun v _ h=>by exact⟨h.2.2.2.2.1.2.1,h.2.2.2.2.2.1,h.2.1,h.2.2.1,trivial⟩) rfl fun⟨q19,hq19⟩=>?_
      dsimp only
      have hb19:=Con.leftP_len (-1) _ (Ax.right x) (Nat.le_refl _) (Con.rightP (-1) (Ax.left x) (br_ (-1) [(Con.atom (Ax.left x)),(Con.atom (Ax.right x))] ([]:List Pc)))
      refine C_ (@List.perm_append_comm _ _ [_]) (Zz 7 ?_)
      refine Y_ (iq_ (Con.atom (Ax.left x)) (Con.atom (Ax.right x))) rfl rfl g_ zt rfl fun _=>E_ aw_ aA_ aQ_ rfl rfl rfl rfl rfl rfl fun b17=>Zi 7 (fun hr9=>?_) fun hr9=>?_
      · skip
        refine Zz 18 ?_
        refine ap_ (List.flatMap Fc.cells [(Fc.mk 1 (Con.atom (Ax.left x)) (Con.atom (Ax.right x)) [] 0 0)]) e_ rfl ?_
        refine du_ hq19.row (c_ (c_ (c_ aZ_))) fun adP cpP hsvP hcP1 hcP2=>?_
        have e:x.goalP=((Con.leftP (-1) (Ax.right x) (Con.rightP (-1) (Ax.left x) (br_ (-1) [(Con.atom (Ax.left x)),(Con.atom (Ax.right x))] ([]:List Pc)))),[(Fc.mk 1 (Con.atom (Ax.left x)) (Con.atom (Ax.right x)) [] 0 0)],0):=by
          unfold Ax.goalP;rw[if_neg (by omega)];repeat (first|rfl|(rw[if_pos (by omega)])|(rw[if_neg (by omega)]))
        have hy:x.goalP.1.length≤cpP∧cpP≤maxLen∧x.goalP.2.1.length≤1∧1≤maxLen∧(adP=none→cpP=0):=by rw[e];exact⟨hcP1,hcP2,by simp,by decide,aL_.nilcap hq19.row hsvP⟩
        have hz:Value.tuple #[q19.sv,.slice (some ⟨b17,0,none⟩) 1 1,.int .i64 0]=.tuple #[.slice adP x.goalP.1.length cpP,.slice (some ⟨b17,0,none⟩) x.goalP.2.1.length 1,.int .i64 x.goalP.2.2]:=by
          rw[e,hsvP]<;>rfl
        have hw1:List.flatMap Pc.cells (Con.leftP (-1) (Ax.right x) (Con.rightP (-1) (Ax.left x) (br_ (-1) [(Con.atom (Ax.left x)),(Con.atom (Ax.right x))] ([]:List Pc))))=x.goalP.1.flatMap Pc.cells:=by rw[e]
        have hw2:List.flatMap Fc.cells [(Fc.mk 1 (Con.atom (Ax.left x)) (Con.atom (Ax.right x)) [] 0 0)]=x.goalP.2.1.flatMap Fc.cells:=by rw[e]
        exact jQ_ fg_ ⟨(adP,cpP,(some ⟨b17,0,none⟩),1),hy⟩ rfl rfl rfl hz g_ (fun v _ h=>⟨hw1▸h.1,hw2▸h.2.1,trivial⟩)
      · skip
        exfalso;omega
  · skip
    refine Zz 12 ?_
    have e:x.goalP=([],[],(Ax.check x)):=by unfold Ax.goalP;rw[if_pos (by assumption)]
    have hy:x.goalP.1.length≤0∧0≤maxLen∧x.goalP.2.1.length≤0∧0≤maxLen∧((none:Option Addr)=none→0=0):=by rw[e];simp
    have hz:Value.tuple #[.slice none 0 0,.slice none 0 0,.int .i64 (Ax.check x)]=.tuple #[.slice none x.goalP.1.length 0,.slice none x.goalP.2.1.length 0,.int .i64 x.goalP.2.2]:=by rw[e]<;>rfl
    have hw1:x.goalP.1.flatMap Pc.cells=[]:=by rw[e];rfl
    have hw2:x.goalP.2.1.flatMap Fc.cells=[]:=by rw[e];rfl
    exact jQ_ fg_ ⟨(none,0,none,0),hy⟩ rfl rfl rfl hz g_ (fun v _ h=>⟨.inl hw1,.inl hw2,trivial⟩)
end Go.Proofs.YtamklbgaipakfaaGreatDoor
namespace Go.Vs
open Go Go.Sx
def vw (W:World):Vw:=⟨fun b=>b<W.heap.size,W,True⟩
theorem vw_sat (W:World):(vw W).sat []:=⟨(fun _ h=>by cases h),(by simp),fun _ h=>h⟩
section
variable {H:Type} {enc:TypeId×Value→H} {P:Program} {W:World}
abbrev wok (l:List Nat):Prop:=l.all (·≤reachBytes)=true
theorem gc_ {a b:List Nat}:wok (a++b)↔wok a∧wok b:=by simp[wok,List.all_append]
theorem ti_ {n:Nat} {b:List Nat}:wok (n::b)↔n≤reachBytes∧wok b:=by simp[wok]
theorem tj_ {e:TypeId}:∀ {ds:List (DataW H)},wok (DataW.weightsAll P e ds)→∀ d∈ds,wok (d.weights P e)
 | [],_,_,h=>by cases h
 | x::ds,hw,d,hd=>by
   rw[DataW.weightsAll,gc_]at hw
   rcases List.mem_cons.1 hd with rfl|hd
   · exact hw.1
   · exact tj_ hw.2 d hd
theorem ny_ {α:Type} [Inhabited α] (f:α→List Value) (k:Nat) (hk:∀ x,(f x).length=k) (hk0:0<k) (Q:α→Prop) {ts te:TypeId} (hs:P.underlying ts=some (.slice te)) (hc:P.cellsOf te=k) {n:Nat} {cs:List Value} {x:DataW H×List MemPlace}
    (hread:∀ m,m<n→∀ cs' y,DataW.trod enc P W 0 (fun _=>true) true m te cs'=some y→wok (y.1.weights P te)→∃ c,cs'=f c∧Q c)
    (h:DataW.trod enc P W 0 (fun _=>true) true n ts cs=some x) (hw:wok (x.1.weights P ts)) :
    ∃ (l:List α) (ad:Option Addr) (cap:Nat),cs=[.slice ad l.length cap]∧bY_ (vw W) ad (l.flatMap f)∧(∀ c∈l,Q c)∧l.length≤cap∧cap*P.bytesOf te≤reachBytes:=by
  rcases DataW.trod_slice hs h with⟨h0,_⟩|⟨a,len,cap,elems,rest,m,hn,rfl,rfl,_,hl,_,hlen,hel,hsp,_⟩
  · exact⟨[],none,0,h0,.inl rfl,(fun _ h=>by cases h),Nat.le_refl _,by simp⟩
  · obtain⟨hr,_⟩:=hsp rfl
    simp only[DataW.weights,hs,ti_,gc_,List.length_map]at hw
    have hcap:cap*P.bytesOf te≤reachBytes:=by
      have e:elems.length+rest.length=cap:=by omega
      rw[← e];exact hw.1
    have hone:∀ i,i<len→∃ c:α,W.cells? 0 (a.add (i*k)) k=some (f c)∧Q c:=fun i hi=>by
      have he:=hel i hi
      rw[hc,List.getElem?_eq_getElem (by omega)]at he
      obtain⟨cs',h1,h2⟩:=Option.bind_eq_some_iff.1 he
      obtain⟨c,rfl,hq⟩:=hread m (by omega) cs' _ h2 (tj_ hw.2.1 _ (List.mem_map_of_mem (List.getElem_mem (by omega))))
      exact⟨c,h1,hq⟩
    obtain⟨C,hC⟩:=Deep.choose_lt hone
    refine⟨(List.range len).map C,some a,cap,by simp,?_,?_,by simpa using hl,hcap⟩
    · by_cases h0:len=0
      · left;simp[h0]
      · have h1:=(hC 0 (by omega)).1
        obtain⟨_,_,hcell⟩:=World.cells?_some h1
        have hc0:=hcell 0 hk0
        have hlt:0<(f (C 0)).length:=by rw[hk];exact hk0
        rw[List.getElem?_eq_getElem hlt]at hc0
        cases hb:W.heap[a.block]? with
        | none=>simp[World.cell?,Addr.add,hb]at hc0
        | some o =>
          cases o with
          | cells arr T fz =>
            have hspot:a.spot=none:=by
              cases hsp2:a.spot with
              | none=>rfl
              | some s=>simp[World.cell?,Addr.add,hb,hsp2]at hc0
            obtain⟨b,off,sp⟩:=a
            simp only at hspot hb
            subst hspot
            right
            refine⟨b,off,arr,T,fz,rfl,(Array.getElem?_eq_some_iff.1 hb).1,hb,fun j y hj=>?_⟩
            have hjlt:j<len*k:=by
              have:=(List.getElem?_eq_some_iff.1 hj).1
              rw[em_ f k hk]at this
              simpa using this
            have hi:j / k<len:=Nat.div_lt_of_lt_mul (by rw[Nat.mul_comm];exact hjlt)
            have hr':j%k<k:=Nat.mod_lt _ hk0
            have e:j=(j / k)*k+j%k:=by rw[Nat.mul_comm];exact (Nat.div_add_mod j k).symm
            have hget:((List.range len).map C)[j / k]? = some (C (j / k)):=by simp[hi]
            rw[e,kg_ f k hk _ (j / k) (j%k) _ hget hr']at hj
            obtain⟨_,_,hcell⟩:=World.cells?_some (hC (j / k) hi).1
            have:=hcell (j%k) hr'
            rw[hj,dN_,dN_]at this
            rw[e]
            simpa [World.cell?,hb,Nat.add_assoc] using this
          | _=>simp[World.cell?,Addr.add,hb]at hc0
    · intro c hc'
      obtain⟨i,hi,rfl⟩:=List.mem_map.1 hc'
      exact (hC i (by simpa using hi)).2
end
instance:Inhabited Con:=⟨.mk 0 [] 0 0 none 0 []⟩
instance:Inhabited Ax:=⟨⟨0,false,default,default,none,0,[],[],[],[]⟩⟩
instance:Inhabited Pc:=⟨⟨0,[],[],[],[],[],[],0,0,0⟩⟩
structure Tys (P:Program) (tI tB tS tSs tC tCs tA tAs tP tPs:TypeId):Prop where
  i:P.underlying tI=some (.int .i64)
  b:P.underlying tB=some .bool
  s:P.underlying tS=some .string
  ss:P.underlying tSs=some (.slice tS)
  c:∃ fs,P.underlying tC=some (.struct fs)∧fs.toList.map (fun f=>(f.type,f.offset))=[(tI,0),(tS,1),(tI,2),(tI,3),(tCs,4)]
  cs:P.underlying tCs=some (.slice tC)
  a:∃ fs,P.underlying tA=some (.struct fs)∧fs.toList.map (fun f=>(f.type,f.offset))=[(tI,0),(tB,1),(tC,2),(tC,7),(tSs,12),(tS,13),(tS,14),(tS,15)]
  axs:P.underlying tAs=some (.slice tA)
  p:∃ fs,P.underlying tP=some (.struct fs)∧fs.toList.map (fun f=>(f.type,f.offset))=[(tI,0),(tS,1),(tS,2),(tS,3),(tS,4),(tS,5),(tS,6),(tI,7),(tI,8),(tI,9)]
  ps:P.underlying tPs=some (.slice tP)
  ci:P.cellsOf tI=1
  cb:P.cellsOf tB=1
  cs1:P.cellsOf tS=1
  css:P.cellsOf tSs=1
  cc:P.cellsOf tC=5
  ccs:P.cellsOf tCs=1
  ca:P.cellsOf tA=16
  cp:P.cellsOf tP=10
  bs:P.bytesOf tS=16
  bc:P.bytesOf tC=64
  ba:P.bytesOf tA=216
  bp:P.bytesOf tP=128
section
variable {H:Type} {enc:TypeId×Value→H} {P:Program} {W:World} {tI tB tS tSs tC tCs tA tAs tP tPs:TypeId} (X:Tys P tI tB tS tSs tC tCs tA tAs tP tPs)
theorem fields_of {t:TypeId} {fs:Array Field} {L:List (TypeId×Nat)} {cs:List Value} {n:Nat} {x:DataW H×List MemPlace} (ht:P.underlying t=some (.struct fs)) (hL:fs.toList.map (fun f=>(f.type,f.offset))=L) (h:DataW.trod enc P W 0 (fun _=>true) true n t cs=some x) :
    ∃ (xs:List (DataW H×List MemPlace)) (m:Nat),n=m+1∧x.1=.agg (xs.map (·.1))∧cs.length=P.cellsOf t∧xs.length=L.length∧(∀ (i:Nat) q,L[i]? = some q→DataW.trod enc P W 0 (fun _=>true) true m q.1 ((cs.drop q.2).take (P.cellsOf q.1))=xs[i]?) ∧
      (x.1.weights P t=DataW.weightsEach P (L.map (·.1)) (xs.map (·.1))):=by
  obtain⟨xs,m,hn,hx,hl,hlen,hf⟩:=DataW.trod_struct ht h
  refine⟨xs,m,hn,by rw[hx],hl,by rw[hlen,← hL];simp,fun i q hq=>?_,?_⟩
  · rw[← hL,List.getElem?_map,Option.map_eq_some_iff]at hq
    obtain⟨f,hf',rfl⟩:=hq
    exact hf i f (by simpa using hf')
  · rw[hx];simp only[DataW.weights,ht]
    congr 1
    rw[← hL,List.map_map];rfl
include X
theorem nO_ {n:Nat} {cs:List Value} {x:DataW H×List MemPlace} (h:DataW.trod enc P W 0 (fun _=>true) true n tI cs=some x):∃ k:Int,cs=[.int .i64 k]∧-9223372036854775808≤k∧k≤9223372036854775807:=by
  obtain⟨k,h1,_,h3⟩:=DataW.trod_int X.i h
  have:=bounds_i64 h3
  exact⟨k,h1,this.1,this.2⟩
theorem vV_ {n:Nat} {cs:List Value} {x:DataW H×List MemPlace} (h:DataW.trod enc P W 0 (fun _=>true) true n tB cs=some x):∃ b:Bool,cs=[.bool b]:=by
  obtain⟨b,h1,_⟩:=DataW.trod_bool X.b h
  exact⟨b,h1⟩
theorem str_of {n:Nat} {cs:List Value} {x:DataW H×List MemPlace} (h:DataW.trod enc P W 0 (fun _=>true) true n tS cs=some x) (hw:wok (x.1.weights P tS)):∃ s:Str,cs=[str s]∧s.length≤140737488351232:=by
  obtain⟨s,h1,h2,_⟩:=DataW.trod_string X.s h
  rw[h2]at hw
  simp[wok,DataW.weights,reachBytes]at hw
  refine⟨s.data.toList,by rw[h1];rfl,by have:=of_decide_eq_true hw;simpa using this⟩
theorem uw_:∀ (n:Nat) (cs:List Value) (x:DataW H×List MemPlace),DataW.trod enc P W 0 (fun _=>true) true n tC cs=some x→wok (x.1.weights P tC)→∃ c:Con,cs=c.cells∧c.mem (vw W)∧c.ok:=by
 intro n
 induction n using Nat.strongRecOn with
 | ind n ih =>
   intro cs x h hw
   obtain⟨fs,hu,hL⟩:=X.c
   obtain⟨xs,m,hn,hx,hl,hlen,hf,hwe⟩:=fields_of hu hL h
   rw[hwe]at hw
   match xs,hlen with
   | [x0,x1,x2,x3,x4],_ =>
   simp only[List.map_cons,List.map_nil,DataW.weightsEach,gc_]at hw
   have f0:=hf 0 _ rfl;have f1:=hf 1 _ rfl;have f2:=hf 2 _ rfl;have f3:=hf 3 _ rfl;have f4:=hf 4 _ rfl
   simp only[List.getElem?_cons_zero,List.getElem?_cons_succ,X.ci,X.cs1,X.ccs]at f0 f1 f2 f3 f4
   obtain⟨k,e0,k1,k2⟩:=nO_ X f0
   obtain⟨nm,e1,n1⟩:=str_of X f1 hw.2.1
   obtain⟨lo,e2,l1,l2⟩:=nO_ X f2
   obtain⟨hi,e3,h1,h2⟩:=nO_ X f3
   obtain⟨l,ad,cap,e4,hrow,hq,hlc,hcap⟩:=ny_ Con.cells 5 Con.cells_len (by decide) (fun c=>c.mem (vw W)∧c.ok) X.cs X.cc (fun m' hm' cs' y hy hwy=>by
     obtain⟨c,g1,g2,g3⟩:=ih m' (by omega) cs' y hy hwy
     exact⟨c,g1,g2,g3⟩) f4 hw.2.2.2.2.1
   rw[X.cc]at hl
   match cs,hl with
   | [c0,c1,c2,c3,c4],_ =>
   simp only[List.drop_succ_cons,List.drop_zero,List.take_succ_cons,List.take_zero,List.cons.injEq,and_true]at e0 e1 e2 e3 e4
   subst e0 e1 e2 e3 e4
   refine⟨.mk k nm lo hi ad cap l,rfl,?_,k1,k2,n1,l1,l2,h1,h2,hlc,?_,Con.oks_iff.2 fun p hp=>(hq p hp).2⟩
   · rw[Con.mem_iff];exact⟨hrow,fun p hp=>(hq p hp).1⟩
   · rw[X.bc]at hcap;simp only[reachBytes]at hcap;omega
theorem rk_ {n:Nat} {cs:List Value} {x:DataW H×List MemPlace} (h:DataW.trod enc P W 0 (fun _=>true) true n tSs cs=some x) (hw:wok (x.1.weights P tSs)) :
    ∃ (l:List Str) (ad:Option Addr) (cap:Nat),cs=[.slice ad l.length cap]∧bY_ (vw W) ad (l.flatMap aE_)∧(∀ s∈l,s.length≤140737488351232)∧l.length≤cap∧cap≤8796093021952:=by
  obtain⟨l,ad,cap,e,hrow,hq,hlc,hcap⟩:=ny_ aE_ 1 at_ (by decide) (fun s=>s.length≤140737488351232) X.ss X.cs1 (fun m' _ cs' y hy hwy=>by
    obtain⟨s,g1,g2⟩:=str_of X hy hwy
    exact⟨s,g1,g2⟩) h hw
  rw[X.bs]at hcap;simp only[reachBytes]at hcap
  exact⟨l,ad,cap,e,hrow,hq,hlc,by omega⟩
theorem ax_of {n:Nat} {cs:List Value} {x:DataW H×List MemPlace} (h:DataW.trod enc P W 0 (fun _=>true) true n tA cs=some x) (hw:wok (x.1.weights P tA)):∃ a:Ax,cs=a.cells∧a.mem (vw W)∧a.ok:=by
  obtain⟨fs,hu,hL⟩:=X.a
  obtain⟨xs,m,hn,hx,hl,hlen,hf,hwe⟩:=fields_of hu hL h
  rw[hwe]at hw
  match xs,hlen with
  | [x0,x1,x2,x3,x4,x5,x6,x7],_ =>
  simp only[List.map_cons,List.map_nil,DataW.weightsEach,gc_]at hw
  have f0:=hf 0 _ rfl;have f1:=hf 1 _ rfl;have f2:=hf 2 _ rfl;have f3:=hf 3 _ rfl;have f4:=hf 4 _ rfl;have f5:=hf 5 _ rfl;have f6:=hf 6 _ rfl;have f7:=hf 7 _ rfl
  simp only[List.getElem?_cons_zero,List.getElem?_cons_succ,X.ci,X.cb,X.cs1,X.cc,X.css]at f0 f1 f2 f3 f4 f5 f6 f7
  obtain⟨k,e0,k1,k2⟩:=nO_ X f0
  obtain⟨op,e1⟩:=vV_ X f1
  obtain⟨le,e2,m2,o2⟩:=uw_ X _ _ _ f2 hw.2.2.1
  obtain⟨ri,e3,m3,o3⟩:=uw_ X _ _ _ f3 hw.2.2.2.1
  obtain⟨rs,ad,cap,e4,hrow,hq,hlc,hcap⟩:=rk_ X f4 hw.2.2.2.2.1
  obtain⟨ro,e5,n5⟩:=str_of X f5 hw.2.2.2.2.2.1
  obtain⟨a,e6,n6⟩:=str_of X f6 hw.2.2.2.2.2.2.1
  obtain⟨b,e7,n7⟩:=str_of X f7 hw.2.2.2.2.2.2.2.1
  rw[X.ca]at hl
  match cs,hl with
  | [c0,c1,c2,c3,c4,c5,c6,c7,c8,c9,c10,c11,c12,c13,c14,c15],_ =>
  simp only[List.drop_succ_cons,List.drop_zero,List.take_succ_cons,List.take_zero,List.cons.injEq,and_true,Con.cells]at e0 e1 e2 e3 e4 e5 e6 e7
  obtain⟨rfl,rfl,rfl,rfl,rfl⟩:=e2
  obtain⟨rfl,rfl,rfl,rfl,rfl⟩:=e3
  subst e0 e1 e4 e5 e6 e7
  exact⟨⟨k,op,le,ri,ad,cap,rs,ro,a,b⟩,rfl,⟨m2,m3,hrow⟩,⟨k1,k2,o2,o3,hlc,Nat.le_trans hlc hcap,hq,n5,n6,n7⟩⟩
theorem axs_of {n:Nat} {cs:List Value} {x:DataW H×List MemPlace} (h:DataW.trod enc P W 0 (fun _=>true) true n tAs cs=some x) (hw:wok (x.1.weights P tAs)) :
    ∃ (l:List Ax) (ad:Option Addr) (cap:Nat),cs=[.slice ad l.length cap]∧(dw_ ad l).p (vw W)∧(∀ y∈l,y.ok)∧l.length≤cap∧cap≤2199023255488:=by
  obtain⟨l,ad,cap,e,hrow,hq,hlc,hcap⟩:=ny_ Ax.cells 16 Ax.cells_len (by decide) (fun a=>a.mem (vw W)∧a.ok) X.axs X.ca (fun m' _ cs' y hy hwy=>by
    obtain⟨a,g1,g2,g3⟩:=ax_of X hy hwy
    exact⟨a,g1,g2,g3⟩) h hw
  rw[X.ba]at hcap;simp only[reachBytes]at hcap
  exact⟨l,ad,cap,e,⟨hrow,fun y hy=>(hq y hy).1⟩,fun y hy=>(hq y hy).2,hlc,by omega⟩
end
end Go.Vs
