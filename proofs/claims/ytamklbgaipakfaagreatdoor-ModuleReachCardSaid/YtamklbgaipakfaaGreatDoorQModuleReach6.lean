/-
  Part of the proof of the law ModuleReach over this seat: the small logic, the data, the contracts of functions (no condition).
-/
import Derived.Test.YtamklbgaipakfaaGreatDoorQModuleReach5
import Derived.Test.YtamklbgaipakfaaGreatDoorQModuleReach2
import Derived.Test.YtamklbgaipakfaaGreatDoorProg
set_option linter.unusedVariables false
set_option linter.unusedSimpArgs false
set_option linter.unusedSectionVars false
set_option maxHeartbeats 1000000
namespace Go.Proofs.YtamklbgaipakfaaGreatDoor
open Go Go.Sx Go.Proofs
attribute [local irreducible] Code.wp wpList wpAnyH
open Go.Vs
theorem mB_ (c:Con) (hok:c.ok):Tri Tryz.prog 248 #[c.val] [] [c.memF,ck_] (fun _:Unit=>.tuple #[str c.textN,.int .i64 c.check]) (fun _=>[]) (fun _=>[]):=by
 obtain⟨k,nm,lo,hi,ad,cap,ps⟩:=c
 refine o_ Tryz.func248 rfl rfl Tryz.ntmps248 rfl fun v0=>?_
 refine m_ ?_
 refine d_ ?_
 refine ah_ rfl rfl fun b1=>?_
 refine c_ (n_ rfl) rfl ?_
 refine c_ (n_ rfl) rfl ?_
 refine j_ ?_
 refine e_ rfl ?_
 refine m_ ?_
 refine m_ ?_
 refine d_ ?_
 refine c_ (P_ 0 w_ g_ rfl rfl rfl) rfl ?_
 refine i_ (ex_ (.mk k nm lo hi ad cap ps) hok) rfl (.refl _) zf rfl fun _=>?_
 refine c_ (n_ rfl) rfl ?_
 refine j_ ?_
 refine e_ rfl ?_
 refine m_ ?_
 refine d_ ?_
 refine c_ (q_ rfl) rfl ?_
 refine s_ (bU_ rfl rfl) rfl fun r1 hr1=>?_
 refine j_ ?_
 refine e_ rfl ?_
 cases r1
 ·replace hr1:=cy_ hr1
  try dsimp only[Con.kind,Con.parts,Con.name,Con.lo,Con.hi,Con.cap,Con.ad]at hr1
  obtain⟨hfine,h64⟩:=Con.check_zero hr1
  refine F_ rfl ?_
  refine ai_ ?_
  refine e_ rfl ?_
  refine m_ ?_
  refine hd_ zk ?_
  refine U_ 4 [1] zk zs ?_
  refine y_ rfl (P_ 0 w_ g_ rfl rfl rfl) rfl ?_
  refine aJ_ ?_
  refine u_ 0 rfl zk ?_
  refine i_ (lp_) rfl (.refl _) zt rfl fun q=>?_
  refine j_ ?_
  refine L_ rfl ?_
  refine X_ zs ?_
  refine u_ 2 rfl zk ?_
  refine i_ (rV_ q.1 q.2 _ (.mk k nm lo hi ad cap ps) (Nat.le_refl _) h64 hok hfine) rfl (.refl _) zf rfl fun _=>?_
  refine j_ ?_
  refine L_ rfl ?_
  refine X_ zs ?_
  refine U_ 0 [3,4] zk zs ?_
  refine y_ rfl (n_ rfl) rfl ?_
  refine y_ rfl (n_ rfl) rfl ?_
  refine aJ_ ?_
  refine bp_ zk ?_
  refine e_ rfl ?_
  refine ar_ ?_
  exact fv_ Tryz.results248 () rfl rfl (by simp[Con.textN, *]<;>rfl) (.refl _) zt
 replace hr1:=cw_ hr1
 try dsimp only[Con.kind,Con.parts,Con.name,Con.lo,Con.hi,Con.cap,Con.ad]at hr1
 refine E_ rfl ?_
 refine m_ ?_
 refine d_ ?_
 refine c_ (q_ rfl) rfl ?_
 refine c_ (n_ rfl) rfl ?_
 refine c_ (n_ rfl) rfl ?_
 refine j_ ?_
 refine e_ rfl ?_
 refine ar_ ?_
 exact fv_ Tryz.results248 () rfl rfl (by simp[Con.textN, *]<;>rfl) (.refl _) zt
theorem lr_ (c:Con) (hok:c.ok):Tri Tryz.prog 195 #[c.val] [] [c.memF,ck_] (fun _:Unit=>str c.textN) (fun _=>[]) (fun _=>[]):=by
  obtain⟨k,nm,lo,hi,ad,cap,ps⟩:=c
  refine o_ Tryz.func195 rfl rfl Tryz.ntmps195 rfl fun v0=>?_
  refine Zz 2 ?_
  refine ah_ rfl rfl fun b1=>Zz 6 ?_
  refine i_ (mB_ (.mk k nm lo hi ad cap ps) hok) rfl (.refl _) (fun v _ h=>h) rfl fun _=>Zz 14 ?_
  exact G_ Tryz.results195 () rfl (.refl _) zt
theorem jI_ (c:Con) (hok:c.ok):Tri Tryz.prog 112 #[c.val] [] [c.memF,ck_] (fun _:Unit=>str c.operandN) (fun _=>[]) (fun _=>[]):=by
 obtain⟨k,nm,lo,hi,ad,cap,ps⟩:=c
 refine o_ Tryz.func112 rfl rfl Tryz.ntmps112 rfl fun v0=>?_
 refine m_ ?_
 refine d_ ?_
 refine ah_ rfl rfl fun b1=>?_
 refine c_ (n_ rfl) rfl ?_
 refine j_ ?_
 refine e_ rfl ?_
 refine m_ ?_
 refine m_ ?_
 refine d_ ?_
 refine c_ (A_ z_ rfl rfl rfl ab_) rfl ?_
 refine c_ (M_ 0 ay_ rfl rfl rfl) rfl ?_
 refine s_ (V_ rfl rfl) rfl fun r1 hr1=>?_
 refine j_ ?_
 refine e_ rfl ?_
 cases r1
 ·replace hr1:=znb hr1
  try dsimp only[Con.kind,Con.parts,Con.name,Con.lo,Con.hi,Con.cap,Con.ad]at hr1
  refine F_ rfl ?_
  refine ai_ ?_
  refine e_ rfl ?_
  refine m_ ?_
  refine d_ ?_
  refine c_ (P_ 0 w_ g_ rfl rfl rfl) rfl ?_
  refine i_ (lr_ (.mk k nm lo hi ad cap ps) hok) rfl (.refl _) (fun v _ h=>h) rfl fun _=>?_
  refine c_ (n_ rfl) rfl ?_
  refine j_ ?_
  refine e_ rfl ?_
  refine ar_ ?_
  exact G_ Tryz.results112 () (bq_ rfl (by unfold Con.operandN;simp only[Con.kind,Con.name]at *;simp[*])) (.refl _) zt
 replace hr1:=zeb hr1
 try dsimp only[Con.kind,Con.parts,Con.name,Con.lo,Con.hi,Con.cap,Con.ad]at hr1
 refine E_ rfl ?_
 refine m_ ?_
 refine d_ ?_
 refine c_ (P_ 0 w_ g_ rfl rfl rfl) rfl ?_
 refine i_ (lr_ (.mk k nm lo hi ad cap ps) hok) rfl (.refl _) (fun v _ h=>h) rfl fun _=>?_
 refine c_ (bg_ rfl rfl (by have:=Con.textN_len hok;simp only[List.length_append,List.length_cons,List.length_nil];omega)) rfl ?_
 refine c_ (bg_ rfl rfl (by have:=Con.textN_len hok;simp only[List.length_append,List.length_cons,List.length_nil];omega)) rfl ?_
 refine c_ (n_ rfl) rfl ?_
 refine j_ ?_
 refine e_ rfl ?_
 refine ar_ ?_
 exact G_ Tryz.results112 () (bq_ rfl (by unfold Con.operandN;simp only[Con.kind,Con.name]at *;simp[*])) (.refl _) zt
theorem cr_ (s:Str) (hs:s.length≤140737488351232) :
    Fn0 Tryz.prog 114 #[str s] (str ([123]++s++[125])):=by
  refine o_ Tryz.func114 rfl rfl Tryz.ntmps114 rfl fun v0=>?_
  refine Zz 8 ?_
  refine c_ (bg_ rfl rfl (by simp;omega)) rfl ?_
  refine c_ (bg_ rfl rfl (by simp;omega)) rfl ?_
  refine Zz 4 ?_
  exact G_ Tryz.results114 () rfl (.refl _) zt
theorem cg_ (c:Con) (hok:c.ok):Tri Tryz.prog 110 #[c.val] [] [c.memF,ck_] (fun _:Unit=>str c.atom) (fun _=>[]) (fun _=>[]):=by
 obtain⟨k,nm,lo,hi,ad,cap,ps⟩:=c
 refine o_ Tryz.func110 rfl rfl Tryz.ntmps110 rfl fun v0=>?_
 refine m_ ?_
 refine d_ ?_
 refine ah_ rfl rfl fun b1=>?_
 refine c_ (n_ rfl) rfl ?_
 refine j_ ?_
 refine e_ rfl ?_
 refine m_ ?_
 refine m_ ?_
 refine d_ ?_
 refine c_ (A_ z_ rfl rfl rfl ab_) rfl ?_
 refine c_ (M_ 0 ay_ rfl rfl rfl) rfl ?_
 refine j_ ?_
 refine e_ rfl ?_
 refine aB_ ?_
 refine m_ ?_
 refine d_ ?_
 refine s_ (V_ rfl rfl) rfl fun r1 hr1=>?_
 refine c_ (n_ rfl) rfl ?_
 refine j_ ?_
 refine e_ rfl ?_
 cases r1
 ·replace hr1:=znb hr1
  try dsimp only[Con.kind,Con.parts,Con.name,Con.lo,Con.hi,Con.cap,Con.ad]at hr1
  refine F_ rfl ?_
  refine m_ ?_
  refine d_ ?_
  refine s_ (V_ rfl rfl) rfl fun r2 hr2=>?_
  refine c_ (n_ rfl) rfl ?_
  refine j_ ?_
  refine e_ rfl ?_
  cases r2
  ·replace hr2:=znb hr2
   try dsimp only[Con.kind,Con.parts,Con.name,Con.lo,Con.hi,Con.cap,Con.ad]at hr2
   refine F_ rfl ?_
   refine m_ ?_
   refine d_ ?_
   refine s_ (V_ rfl rfl) rfl fun r3 hr3=>?_
   refine c_ (n_ rfl) rfl ?_
   refine j_ ?_
   refine e_ rfl ?_
   cases r3
   ·replace hr3:=znb hr3
    try dsimp only[Con.kind,Con.parts,Con.name,Con.lo,Con.hi,Con.cap,Con.ad]at hr3
    refine F_ rfl ?_
    refine m_ ?_
    refine d_ ?_
    refine s_ (V_ rfl rfl) rfl fun r4 hr4=>?_
    refine c_ (n_ rfl) rfl ?_
    refine j_ ?_
    refine e_ rfl ?_
    cases r4
    ·replace hr4:=znb hr4
     try dsimp only[Con.kind,Con.parts,Con.name,Con.lo,Con.hi,Con.cap,Con.ad]at hr4
     refine F_ rfl ?_
     refine ai_ ?_
     refine e_ rfl ?_
     refine m_ ?_
     refine d_ ?_
     refine c_ (P_ 0 w_ g_ rfl rfl rfl) rfl ?_
     refine i_ (lr_ (.mk k nm lo hi ad cap ps) hok) rfl (.refl _) (fun v _ h=>h) rfl fun _=>?_
     refine c_ (bg_ rfl rfl (by have:=Con.textN_len hok;simp only[List.length_append,List.length_cons,List.length_nil];omega)) rfl ?_
     refine c_ (bg_ rfl rfl (by have:=Con.textN_len hok;simp only[List.length_append,List.length_cons,List.length_nil];omega)) rfl ?_
     refine c_ (n_ rfl) rfl ?_
     refine j_ ?_
     refine e_ rfl ?_
     refine ar_ ?_
     exact G_ oD_ () (bq_ rfl (by unfold Con.atom;simp only[Con.kind,Con.name]at *;simp[*])) (.refl _) zt
    replace hr4:=zeb hr4
    try dsimp only[Con.kind,Con.parts,Con.name,Con.lo,Con.hi,Con.cap,Con.ad]at hr4
    refine E_ rfl ?_
    refine m_ ?_
    refine d_ ?_
    refine c_ (A_ z_ rfl rfl rfl O_) rfl ?_
    refine c_ (M_ 0 ap_ rfl rfl rfl) rfl ?_
    refine i_ (cr_ nm (Con.ok_name hok)) rfl (.refl _) zt rfl fun _=>?_
    refine c_ (n_ rfl) rfl ?_
    refine j_ ?_
    refine e_ rfl ?_
    refine ar_ ?_
    exact G_ oD_ () (bq_ rfl (by unfold Con.atom;simp only[Con.kind,Con.name]at *;simp[*])) (.refl _) zt
   replace hr3:=zeb hr3
   try dsimp only[Con.kind,Con.parts,Con.name,Con.lo,Con.hi,Con.cap,Con.ad]at hr3
   refine E_ rfl ?_
   refine m_ ?_
   refine d_ ?_
   refine c_ (A_ z_ rfl rfl rfl O_) rfl ?_
   refine c_ (M_ 0 ap_ rfl rfl rfl) rfl ?_
   refine c_ (n_ rfl) rfl ?_
   refine j_ ?_
   refine e_ rfl ?_
   refine ar_ ?_
   exact G_ oD_ () (bq_ rfl (by unfold Con.atom;simp only[Con.kind,Con.name]at *;simp[*])) (.refl _) zt
  replace hr2:=zeb hr2
  try dsimp only[Con.kind,Con.parts,Con.name,Con.lo,Con.hi,Con.cap,Con.ad]at hr2
  refine E_ rfl ?_
  refine m_ ?_
  refine d_ ?_
  refine c_ (n_ rfl) rfl ?_
  refine j_ ?_
  refine e_ rfl ?_
  refine ar_ ?_
  exact G_ oD_ () (bq_ rfl (by unfold Con.atom;simp only[Con.kind,Con.name]at *;simp[*])) (.refl _) zt
 replace hr1:=zeb hr1
 try dsimp only[Con.kind,Con.parts,Con.name,Con.lo,Con.hi,Con.cap,Con.ad]at hr1
 refine E_ rfl ?_
 refine m_ ?_
 refine d_ ?_
 refine c_ (n_ rfl) rfl ?_
 refine j_ ?_
 refine e_ rfl ?_
 refine ar_ ?_
 exact G_ oD_ () (bq_ rfl (by unfold Con.atom;simp only[Con.kind,Con.name]at *;simp[*])) (.refl _) zt
end Go.Proofs.YtamklbgaipakfaaGreatDoor
namespace Go.Proofs.YtamklbgaipakfaaGreatDoor
open Go Go.Sx Go.Proofs
attribute [local irreducible] Code.wp wpList wpAnyH
open Go.Vs
theorem eqPc (p q:Pc) (w:World):(Op.equalIn 10000 58 p.val q.val).run Tryz.prog w=.ok (decide (p=q)) w:=by
  have h:=run_equalIn_struct (P:=Tryz.prog) w 9999 58 p.cells.toArray q.cells.toArray (by simp only[Program.fieldsOf,gG_]) Tryz.stoodInHeld58
  refine h.trans ?_
  rw[← Pc.eqb_eq]
  simp only[Program.fieldsOf,gG_]
  exact dD_ rfl ay_ rfl rfl (eqI Q_ w) (dD_ rfl ap_ rfl rfl (eqS cA_ w) (dD_ rfl ap_ rfl rfl (eqS cA_ w) (dD_ rfl ap_ rfl rfl (eqS cA_ w) (dD_ rfl ap_ rfl rfl (eqS cA_ w) (dD_ rfl ap_ rfl rfl (eqS cA_ w) (dD_ rfl ap_ rfl rfl (eqS cA_ w) (dD_ rfl ay_ rfl rfl (eqI Q_ w) (dD_ rfl ay_ rfl rfl (eqI Q_ w) (dD_ rfl ay_ rfl rfl (eqI Q_ w) (oR_ w))))))))))
theorem qU_ (p:Pc):iO_ Tryz.prog 58 p.val:=fun e w=>by
 have hi:∀ (n:Int) (w:World),(Instr.checkKey e (9998+1) 3 (.int .i64 n)).run Tryz.prog w=.ok () w:=fun n w=>MapKept.run_checkKey (d:=.int .i64) Q_ (by simp[MapKept.IsKey]) e 9998
 have hs:∀ (n:Str) (w:World),(Instr.checkKey e (9998+1) 9 (str n)).run Tryz.prog w=.ok () w:=fun n w=>MapKept.run_checkKey (d:=.string) cA_ (by simp[MapKept.IsKey,str]) e 9998
 refine ckF (n:=9999) gG_ fun f hf=>?_
 simp only[List.mem_cons,List.not_mem_nil,or_false]at hf
 rcases hf with rfl|rfl|rfl|rfl|rfl|rfl|rfl|rfl|rfl|rfl
 ·exact⟨rfl,ay_,_,rfl,hi _⟩
 ·exact⟨rfl,ap_,_,rfl,hs _⟩
 ·exact⟨rfl,ap_,_,rfl,hs _⟩
 ·exact⟨rfl,ap_,_,rfl,hs _⟩
 ·exact⟨rfl,ap_,_,rfl,hs _⟩
 ·exact⟨rfl,ap_,_,rfl,hs _⟩
 ·exact⟨rfl,ap_,_,rfl,hs _⟩
 ·exact⟨rfl,ay_,_,rfl,hi _⟩
 ·exact⟨rfl,ay_,_,rfl,hi _⟩
 exact⟨rfl,ay_,_,rfl,hi _⟩
theorem rk_:Elt Tryz.prog 54 58 10 128:=gU_ Tryz.underlying54 (z:=.agg (Pc.mk 0 [] [] [] [] [] [] 0 0 0).cells.toArray) (by kernel_rfl) rfl (by decide)
theorem bT_:iU_ Tryz.prog 58 [(0,1),(1,1),(2,1),(3,1),(4,1),(5,1),(6,1),(7,1),(8,1),(9,1)] [.int .i64 0,str [],str [],str [],str [],str [],str [],.int .i64 0,.int .i64 0,.int .i64 0]:=⟨_,ac_,bW_,fun w=>by simp[ab_,O_]⟩
theorem qm_:iU_ Tryz.prog 67 [(0,1),(1,1),(2,1),(3,1),(4,1),(5,1)] [.int .i64 0,str [],str [],str [],.int .i64 0,.int .i64 0]:=⟨_,dG_,Tryz.runUnderlying67,fun w=>by simp[ab_,O_]⟩
end Go.Proofs.YtamklbgaipakfaaGreatDoor
namespace Go.Proofs.YtamklbgaipakfaaGreatDoor
open Go Go.Sx Go.Proofs
attribute [local irreducible] Code.wp wpList wpAnyH
open Go.Vs
structure CS where
  sv:Value
  bm:Nat
  es:Array MapEntry
  clk:Nat
  Hr:Hp
def eW_ (kb:Nat) (frm:Int) (q:CS):Hp:=(kb,.cells #[.int .i64 frm,q.sv,.map (some q.bm)] 114 (0,0))::(q.bm,.map q.es q.clk)::q.Hr
structure CInv (l:List Pc) (q:CS):Prop where
  row:aG_ 58 10 q.sv l.length (l.flatMap Pc.cells) q.Hr
  keys:q.es.toList.map (·.key)=l.map Pc.val
  vals:∀ x∈q.es.toList,x.val=.bool true
theorem CInv.push {l:List Pc} {p:Pc} {sv sv2:Value} {bm clk:Nat} {es:Array MapEntry} {Hr Hr2:Hp} (h:CInv l ⟨sv,bm,es,clk,Hr⟩) (hr:aG_ 58 10 sv2 (l.length+1) (l.flatMap Pc.cells++p.cells) Hr2):CInv (l++[p]) ⟨sv2,bm,es.push ⟨p.val,.bool true,clk⟩,clk+1,Hr2⟩:=by
 refine⟨?_,?_,?_⟩
 ·simpa [List.flatMap_append] using hr
 ·have:=h.keys
  simp only at this
  simp[this]
 intro x hx
 simp only[Array.toList_push,List.mem_append,List.mem_singleton]at hx
 rcases hx with hx|rfl
 ·exact h.vals x hx
 rfl
theorem dl_ (p:Pc) {kb bn:Nat} (frm:Int) (l:List Pc) (q:CS) (hq:CInv l q) (hlen:l.length≤100000) :
    Tri Tryz.prog 113 #[zp_ kb 0,.slice (some ⟨bn,0,none⟩) 1 1] ((bn,.cells p.cells.toArray 58 (0,0))::eW_ kb frm q) [] (fun _:{q':CS // CInv (ins frm l p) q'}=>.tuple #[]) (fun q'=>eW_ kb frm q'.1) (fun _=>[]):=by
  obtain⟨k,a,b,c,r,s,t,lo,hi,f⟩:=p
  obtain⟨sv,bm,es,clk,Hr⟩:=q
  refine o_ Tryz.func113 rfl rfl Tryz.ntmps113 rfl fun v0=>?_
  refine m_ ?_
  refine d_ ?_
  refine c_ (q_ rfl) rfl ?_
  refine c_ (bM_ x_ rfl) rfl ?_
  refine c_ (q_ rfl) rfl ?_
  refine j_ ?_
  refine e_ rfl ?_
  refine aB_ ?_
  refine aN_ [(0,zp_ kb 0),(6,.slice (some ⟨bn,0,none⟩) 1 1),(7,.int .i64 1),(8,.int .i64 ((0:Nat):Int))] zl ?_
  refine aT_ (ι:={x:Nat×CS // (x.1=0∧x.2=⟨sv,bm,es,clk,Hr⟩)∨(x.1=1∧CInv (ins frm l ⟨k,a,b,c,r,s,t,lo,hi,f⟩) x.2)}) (fun x=>[(0,zp_ kb 0),(6,.slice (some ⟨bn,0,none⟩) 1 1),(7,.int .i64 1),(8,.int .i64 (x.1.1:Int))]) (fun x=>_::eW_ kb frm x.1.2) (fun _=>_) (fun x=>1 - x.1.1) ⟨(0,⟨sv,bm,es,clk,Hr⟩),.inl ⟨rfl,rfl⟩⟩ ?_
  rintro ⟨⟨i,q1⟩,hk⟩
  dsimp only at hk
  rcases hk with⟨rfl,rfl⟩|⟨rfl,hc⟩
  · skip
    refine aN_ [(0,zp_ kb 0),(6,.slice (some ⟨bn,0,none⟩) 1 1),(7,.int .i64 1),(8,.int .i64 0)] zl ?_
    refine m_ ?_
    refine d_ ?_
    refine s_ (bR_ rfl rfl) rfl fun r1 hr1=>?_
    refine j_ ?_
    refine e_ rfl ?_
    refine m_ ?_
    cases r1
    · skip
      replace hr1:=zdf hr1
      try dsimp only[Con.kind,Con.parts,Con.name,Con.lo,Con.hi,Con.cap,Con.ad]at hr1
      exact absurd (by decide) hr1
    · skip
      replace hr1:=zdt hr1
      try dsimp only[Con.kind,Con.parts,Con.name,Con.lo,Con.hi,Con.cap,Con.ad]at hr1
      refine E_ rfl ?_
      refine ai_ ?_
      refine e_ rfl ?_
      refine m_ ?_
      refine aB_ ?_
      refine m_ ?_
      refine d_ ?_
      refine c_ (in_ x_ Z_ rfl rfl (by decide) (by decide)) rfl ?_
      refine c_ (P_ 0 gP_ Z_ rfl rfl rfl) rfl ?_
      refine au_ ac_ rfl fun b1=>?_
      refine aa_ 0 Z_ rfl rfl rfl rfl rfl rfl ?_
      refine j_ ?_
      refine e_ rfl ?_
      refine m_ ?_
      refine d_ ?_
      refine c_ (q_ rfl) rfl ?_
      refine c_ (cJ_ rfl) rfl ?_
      refine c_ (A_ aS_ rfl rfl rfl ab_) rfl ?_
      refine c_ (M_ 2 ay_ rfl rfl rfl) rfl ?_
      refine c_ (A_ bW_ rfl rfl rfl ab_) rfl ?_
      refine aa_ 0 ab_ rfl rfl rfl rfl rfl rfl ?_
      refine j_ ?_
      refine e_ rfl ?_
      refine m_ ?_
      by_cases hm:(⟨k,a,b,c,r,s,t,lo,hi,frm⟩:Pc)∈l
      · skip
        obtain⟨j,hf⟩:=(gr_ gG_ (fun p q w=>eqPc p q w) (⟨k,a,b,c,r,s,t,lo,hi,frm⟩:Pc) l es.toList hq.keys).2 hm hq.vals
        refine hd_ zk ?_
        refine U_ 0 [0,1,2,3,4,5,6] zk zs ?_
        refine y_ rfl (q_ rfl) rfl ?_
        refine y_ rfl (cJ_ rfl) rfl ?_
        refine y_ rfl (A_ aS_ rfl rfl rfl qo_) rfl ?_
        refine y_ rfl (M_ 2 Tryz.isAgg112 rfl rfl rfl) rfl ?_
        refine y_ rfl (P_ 0 gP_ Z_ rfl rfl rfl) rfl ?_
        refine y_ rfl (ga_ Tryz.runUnderlying112 rfl rfl (fun v h _=>(h.own _ (List.mem_of_getElem? (i:=3) rfl)).1) (qU_ (⟨k,a,b,c,r,s,t,lo,hi,frm⟩:Pc)) hf) rfl ?_
        refine y_ rfl (aE_ rfl) rfl ?_
        refine aJ_ ?_
        refine bp_ zk ?_
        refine e_ rfl ?_
        refine F_ rfl ?_
        refine ai_ ?_
        refine e_ rfl ?_
        refine d_ ?_
        refine c_ (aA_ rfl rfl rfl (be_ (by omega) (by omega))) rfl ?_
        refine c_ (q_ rfl) rfl ?_
        refine j_ ?_
        refine L_ rfl ?_
        exact R_ ⟨(1,⟨sv,bm,es,clk,Hr⟩),.inr ⟨rfl,by simp only[ins,if_pos hm];exact hq⟩⟩ Nat.zero_lt_one zl (F:=[_]) (@List.perm_append_comm _ [_] _) zh
      · skip
        have hf:=(gr_ gG_ (fun p q w=>eqPc p q w) (⟨k,a,b,c,r,s,t,lo,hi,frm⟩:Pc) l es.toList hq.keys).1 hm
        refine hd_ zk ?_
        refine U_ 0 [0,1,2,3,4,5,6] zk zs ?_
        refine y_ rfl (q_ rfl) rfl ?_
        refine y_ rfl (cJ_ rfl) rfl ?_
        refine y_ rfl (A_ aS_ rfl rfl rfl qo_) rfl ?_
        refine y_ rfl (M_ 2 Tryz.isAgg112 rfl rfl rfl) rfl ?_
        refine y_ rfl (P_ 0 gP_ Z_ rfl rfl rfl) rfl ?_
        refine y_ rfl (hI_ Tryz.runUnderlying112 Tryz.zeroValue4 rfl rfl (fun v h _=>(h.own _ (List.mem_of_getElem? (i:=3) rfl)).1) (qU_ (⟨k,a,b,c,r,s,t,lo,hi,frm⟩:Pc)) hf) rfl ?_
        refine y_ rfl (aE_ rfl) rfl ?_
        refine aJ_ ?_
        refine bp_ zk ?_
        refine e_ rfl ?_
        refine E_ rfl ?_
        refine m_ ?_
        refine bi_ [(b1,.cells #[.int .i64 k,str a,str b,str c,str r,str s,str t,.int .i64 lo,.int .i64 hi,.int .i64 frm] 58 (0,0)),(bn,.cells #[.int .i64 k,str a,str b,str c,str r,str s,str t,.int .i64 lo,.int .i64 hi,.int .i64 f] 58 (0,0)),(kb,.cells #[.int .i64 frm,sv,.map (some bm)] 114 (0,0))] zk ?_
        refine U_ 1 [0,1,2,3,4] zk (fun _ a b=>⟨Vw.sat.sub a,b⟩) ?_
        refine y_ rfl (q_ rfl) rfl ?_
        refine y_ rfl (cJ_ rfl) rfl ?_
        refine y_ rfl (A_ aS_ rfl rfl rfl qo_) rfl ?_
        refine y_ rfl (M_ 2 Tryz.isAgg112 rfl rfl rfl) rfl ?_
        refine y_ rfl (P_ 0 gP_ Z_ rfl rfl rfl) rfl ?_
        refine aJ_ ?_
        refine u_ 5 rfl zk ?_
        refine bI_ 3 (.inr rfl) Tryz.runUnderlying112 rfl rfl rfl rfl (qU_ (⟨k,a,b,c,r,s,t,lo,hi,frm⟩:Pc)) hf ?_
        refine j_ ?_
        refine L_ rfl ?_
        refine X_ (fun _ a b=>⟨Vw.sat.sub a,b⟩) ?_
        refine bp_ zk ?_
        refine e_ rfl ?_
        refine bi_ [(b1,.cells #[.int .i64 k,str a,str b,str c,str r,str s,str t,.int .i64 lo,.int .i64 hi,.int .i64 frm] 58 (0,0))] zk ?_
        refine U_ 6 [0,1,2,3,5] zk (fun _ a b=>⟨Vw.sat.sub a,b⟩) ?_
        refine y_ rfl (q_ rfl) rfl ?_
        refine y_ rfl (q_ rfl) rfl ?_
        refine y_ rfl (cJ_ rfl) rfl ?_
        refine y_ rfl (A_ aS_ rfl rfl rfl bd_) rfl ?_
        refine y_ rfl (P_ 0 gP_ Z_ rfl rfl rfl) rfl ?_
        refine aJ_ ?_
        refine il_ 4 6 rfl rfl zk ?_ ?_
        · skip
          refine c_ (M_ 2 eH_ rfl rfl rfl) rfl ?_
          refine j_ ?_
          refine L_ rfl ?_
          refine X_ (fun _ a b=>⟨Vw.sat.sub a,b⟩) ?_
          refine u_ 6 rfl zk ?_
          refine I_ x_ Z_ ac_ rfl rfl rfl rfl rfl rfl fun b2=>?_
          refine j_ ?_
          refine L_ rfl ?_
          refine X_ (fun _ a b=>⟨Vw.sat.sub a.tail,b⟩) ?_
          refine u_ 7 rfl zk ?_
          refine aW_ (news:=Pc.cells (⟨k,a,b,c,r,s,t,lo,hi,frm⟩:Pc)) rk_ hq.row rfl rfl (@List.perm_append_comm _ [_,_,_,_,_] _) rfl (bv_ 0 rfl) (cY_ rfl) (by simp only[maxLen];omega) (by omega) rfl fun sv2 Hr2 hrow=>?_
          refine W_ (@List.perm_append_comm _ _ [_,_,_,_,_]) ?_
          obtain⟨g2,cp2,cur2,rfl,rfl,hr2⟩:=hrow.some (by omega)
          refine j_ ?_
          refine L_ rfl ?_
          refine X_ (fun _ a b=>⟨Vw.sat.sub a.tail,b⟩) ?_
          refine U_ 1 [8,9] zk (fun _ a b=>⟨Vw.sat.sub a.tail,b⟩) ?_
          refine y_ rfl (cJ_ rfl) rfl ?_
          refine y_ rfl (A_ aS_ rfl rfl rfl bd_) rfl ?_
          refine aJ_ ?_
          refine u_ 10 rfl zk ?_
          refine aa_ 3 bd_ rfl rfl rfl rfl rfl rfl ?_
          refine j_ ?_
          refine L_ rfl ?_
          refine X_ (fun _ a b=>⟨Vw.sat.sub a.tail,b⟩) ?_
          refine bp_ zk ?_
          refine e_ rfl ?_
          refine d_ ?_
          refine c_ (aA_ rfl rfl rfl (be_ (by omega) (by omega))) rfl ?_
          refine c_ (q_ rfl) rfl ?_
          refine j_ ?_
          refine L_ rfl ?_
          exact R_ ⟨(1,⟨.slice (some ⟨g2,0,none⟩) (l.length+1) cp2,bm,es.push ⟨Pc.val (⟨k,a,b,c,r,s,t,lo,hi,frm⟩:Pc),.bool true,clk⟩,clk+1,[(g2,.cells cur2 58 (0,0))]⟩),.inr ⟨rfl,by simp only[ins,if_neg hm];exact hq.push hrow⟩⟩ Nat.zero_lt_one zl (F:=[_,_]) (@List.perm_append_comm _ [_,_] _) zh
        · skip
          refine I_ x_ Z_ ac_ rfl rfl rfl rfl rfl rfl fun b3=>?_
          refine j_ ?_
          refine L_ rfl ?_
          refine X_ (fun _ a b=>⟨Vw.sat.sub a.tail,b⟩) ?_
          refine u_ 4 rfl zk ?_
          refine c_ (M_ 3 eH_ rfl rfl rfl) rfl ?_
          refine j_ ?_
          refine L_ rfl ?_
          refine X_ (fun _ a b=>⟨Vw.sat.sub a.tail,b⟩) ?_
          refine u_ 7 rfl zk ?_
          refine aW_ (news:=Pc.cells (⟨k,a,b,c,r,s,t,lo,hi,frm⟩:Pc)) rk_ hq.row rfl rfl (@List.perm_append_comm _ [_,_,_,_,_] _) rfl (bv_ 0 rfl) (cY_ rfl) (by simp only[maxLen];omega) (by omega) rfl fun sv2 Hr2 hrow=>?_
          refine W_ (@List.perm_append_comm _ _ [_,_,_,_,_]) ?_
          obtain⟨g2,cp2,cur2,rfl,rfl,hr2⟩:=hrow.some (by omega)
          refine j_ ?_
          refine L_ rfl ?_
          refine X_ (fun _ a b=>⟨Vw.sat.sub a.tail,b⟩) ?_
          refine U_ 1 [8,9] zk (fun _ a b=>⟨Vw.sat.sub a.tail,b⟩) ?_
          refine y_ rfl (cJ_ rfl) rfl ?_
          refine y_ rfl (A_ aS_ rfl rfl rfl bd_) rfl ?_
          refine aJ_ ?_
          refine u_ 10 rfl zk ?_
          refine aa_ 3 bd_ rfl rfl rfl rfl rfl rfl ?_
          refine j_ ?_
          refine L_ rfl ?_
          refine X_ (fun _ a b=>⟨Vw.sat.sub a.tail,b⟩) ?_
          refine bp_ zk ?_
          refine e_ rfl ?_
          refine d_ ?_
          refine c_ (aA_ rfl rfl rfl (be_ (by omega) (by omega))) rfl ?_
          refine c_ (q_ rfl) rfl ?_
          refine j_ ?_
          refine L_ rfl ?_
          exact R_ ⟨(1,⟨.slice (some ⟨g2,0,none⟩) (l.length+1) cp2,bm,es.push ⟨Pc.val (⟨k,a,b,c,r,s,t,lo,hi,frm⟩:Pc),.bool true,clk⟩,clk+1,[(g2,.cells cur2 58 (0,0))]⟩),.inr ⟨rfl,by simp only[ins,if_neg hm];exact hq.push hrow⟩⟩ Nat.zero_lt_one zl (F:=[_,_]) (@List.perm_append_comm _ [_,_] _) zh
  · skip
    refine aN_ [(0,zp_ kb 0),(6,.slice (some ⟨bn,0,none⟩) 1 1),(7,.int .i64 1),(8,.int .i64 1)] zl ?_
    refine m_ ?_
    refine d_ ?_
    refine s_ (bR_ rfl rfl) rfl fun r2 hr2=>?_
    refine j_ ?_
    refine e_ rfl ?_
    refine m_ ?_
    cases r2
    · skip
      replace hr2:=zdf hr2
      try dsimp only[Con.kind,Con.parts,Con.name,Con.lo,Con.hi,Con.cap,Con.ad]at hr2
      refine F_ rfl ?_
      refine cp_ rfl ?_
      refine co_ rfl ?_
      exact fd_ Tryz.results113 ⟨q1,hc⟩ rfl (F:=[_]) (@List.perm_append_comm _ [_] _) zt
    · skip
      replace hr2:=zdt hr2
      try dsimp only[Con.kind,Con.parts,Con.name,Con.lo,Con.hi,Con.cap,Con.ad]at hr2
      exact absurd hr2 (by decide)
end Go.Proofs.YtamklbgaipakfaaGreatDoor
namespace Go.Proofs.YtamklbgaipakfaaGreatDoor
open Go Go.Sx Go.Proofs
attribute [local irreducible] Code.wp wpList wpAnyH
open Go.Vs
theorem rM_:iU_ Tryz.prog 114 [(0,1),(1,1),(2,1)] [.int .i64 0,.slice none 0 0,.map none]:=⟨_,Tryz.zeroValue114,aS_,fun w=>by simp[ab_,bd_,qo_]⟩
theorem gM_ (frm:Int):Tri Tryz.prog 66 #[.int .i64 frm] [] [] (fun x:Nat×Nat=>zp_ x.1 0) (fun x=>eW_ x.1 frm ⟨.slice none 0 0,x.2,#[],0,[]⟩) (fun _=>[]):=by
  refine o_ Tryz.func66 rfl rfl Tryz.ntmps66 rfl fun v0=>?_
  refine Zz 8 ?_
  refine ek_ rfl fun b1=>c_ (S_ rM_ rfl rfl) rfl (ah_ rfl rfl fun b2=>Zz 4 ?_)
  exact G_ Tryz.results66 (b2,b1) rfl (F:=[]) (.refl _) zt
def kF (b kb:Nat):Fct:=bJ_ b (.cells [zp_ kb 0].toArray 109 (0,0))
def lFn (b bk:Nat):Value:=.func (.func 193) #[] #[zp_ b 0,zp_ bk 0]
def lF (b bk:Nat):Fct:=bJ_ b (.cells [lFn b bk].toArray 170 (0,0))
def rFn (b bk:Nat):Value:=.func (.func 194) #[] #[zp_ bk 0,zp_ b 0]
def rcF (b bk:Nat):Fct:=bJ_ b (.cells [rFn b bk].toArray 170 (0,0))
theorem ou_ (kb:Nat):Tri Tryz.prog 108 #[zp_ kb 0] [] [] (fun x:Nat×Nat×Nat=>.tuple #[lFn x.2.1 x.1,rFn x.2.2 x.1]) (fun _=>[]) (fun x=>[kF x.1 kb,lF x.2.1 x.1,rcF x.2.2 x.1]):=by
  refine o_ Tryz.func108 rfl rfl Tryz.ntmps108 rfl fun v0=>?_
  refine Zz 2 ?_
  refine ah_ rfl rfl fun b1=>au_ Tryz.zeroValue170 rfl fun b2=>au_ Tryz.zeroValue170 rfl fun b3=>Zz 4 ?_
  refine c_ (eO_ rfl rfl) rfl (aa_ 1 Tryz.sizeOf170 rfl rfl rfl rfl rfl rfl (Zz 4 ?_))
  refine c_ (eO_ rfl rfl) rfl (aa_ 0 Tryz.sizeOf170 rfl rfl rfl rfl rfl rfl (Zz 4 ?_))
  refine U_ 2 [0,1] zk zs (Zz 3 ?_)
  refine u_ 2 rfl zk (aa_ 1 Tryz.sizeOf170 rfl rfl rfl rfl rfl rfl (Zz 3 ?_))
  refine u_ 3 rfl zk (aa_ 0 Tryz.sizeOf170 rfl rfl rfl rfl rfl rfl (Zz 6 ?_))
  refine hY_ 0 rfl ?_
  refine hY_ 0 rfl ?_
  refine hY_ 0 rfl ?_
  exact retG (b1,b2,b3) (fun a v h1 h2 h=>rP_ Tryz.results108 hH_ hH_ h1 rfl rfl (jG_ (cs:=[lFn b2 b1]) 0 h.2.1 rfl) (jG_ (cs:=[rFn b3 b1]) 0 h.2.2.1 rfl)) (F:=[]) (.refl _) zf
end Go.Proofs.YtamklbgaipakfaaGreatDoor
namespace Go.Proofs.YtamklbgaipakfaaGreatDoor
open Go Go.Sx Go.Proofs
attribute [local irreducible] Code.wp wpList wpAnyH
open Go.Vs
theorem Con.mem_tail {c:Con} (hok:c.ok) {v:Vw} (h:c.mem v):bN_ v (sad c.ad c.cap 1 5) ((c.parts.drop 1).flatMap Con.cells):=by
  have:=((Con.mem_iff c v).1 h).1.slice Con.cells_len (Con.ok_len hok).1 1 c.parts.length
  rwa [List.take_of_length_le (by simp)]at this
theorem Con.drop_at {ps:List Con} {p:Con} {i:Nat} (hp:ps[i]? = some p):ps.drop i=p::ps.drop (i+1):=by
  have hi:=(List.getElem?_eq_some_iff.1 hp).1
  rw[List.getElem?_eq_getElem hi]at hp
  simp only[Option.some.injEq]at hp
  subst hp
  exact List.drop_eq_getElem_cons hi
theorem Con.szs_append:∀ (xs ys:List Con),Con.sz.szs (xs++ys)=Con.sz.szs xs+Con.sz.szs ys
  | [],ys=>by simp[Con.sz.szs]
  | x::xs,ys=>by simp only[List.cons_append,Con.sz.szs,Con.szs_append xs ys];omega
theorem Con.sz_at {ps:List Con} {p:Con} {i:Nat} (hp:ps[i]? = some p):Con.sz.szs (ps.take i)+p.sz≤Con.sz.szs ps:=by
  have e:Con.sz.szs ps=Con.sz.szs (ps.take i++(p::ps.drop (i+1))):=by rw[← Con.drop_at hp,List.take_append_drop]
  rw[e,Con.szs_append]
  simp only[Con.sz.szs];omega
theorem Con.lefts_len (frm:Int) (ps:List Con) (i:Nat) (l:List Pc):(Con.leftP.lefts frm (ps.take i) l).length+(ps.take i).length≤l.length+2*Con.sz.szs (ps.take i):=by
  generalize ps.take i=qs
  induction qs generalizing l with
  | nil=>simp[Con.leftP.lefts]
  | cons p qs ih =>
    have h1:=Con.leftP_len frm _ p (Nat.le_refl _) l
    have h2:=ih (p.leftP frm l)
    simp only[Con.leftP.lefts,Con.sz.szs,List.length_cons]
    omega
theorem Con.rights_len (frm:Int) (a:Str) (ps:List Con) (i:Nat) (l:List Pc):(Con.rightP.rights frm a (ps.take i) l).length≤l.length+2*Con.sz.szs (ps.take i):=by
  generalize ps.take i=qs
  induction qs generalizing l with
  | nil=>simp[Con.rightP.rights]
  | cons p qs ih =>
    have h0:=bt_ frm l ⟨1,a,[],p.atom,[],[],[],0,0,0⟩
    have h1:=Con.rightP_len frm _ p (Nat.le_refl _) (ins frm l ⟨1,a,[],p.atom,[],[],[],0,0,0⟩)
    have h2:=ih (p.rightP frm (ins frm l ⟨1,a,[],p.atom,[],[],[],0,0,0⟩))
    simp only[Con.rightP.rights,Con.sz.szs]
    omega
theorem Con.headD_atom {ps:List Con} {p:Con} (hp:ps[0]? = some p):(ps.map Con.atom).headD []=p.atom:=by cases ps<;>simp_all
theorem Con.leftP5 {c:Con} (h:c.kind=5) (frm:Int) (l:List Pc):c.leftP frm l=Con.andP frm c (c.parts.drop 1) 1 ((c.parts.map Con.atom).headD []) (Con.leftP.lefts frm c.parts l):=by rw[Con.leftP_eq,if_pos h]
theorem Con.leftP6 {c p:Con} (h:c.kind=6) (hp:c.parts=[p]) (frm:Int) (l:List Pc):c.leftP frm l=ins frm (p.leftP frm l) ⟨4,p.atom,[],c.atom,c.name,[],[],0,0,0⟩:=by
  rw[Con.leftP_eq,if_neg (by omega),if_pos h,hp];rfl
theorem Con.leftP7 {c:Con} (h:c.kind=7) (frm:Int) (l:List Pc):c.leftP frm l=ins frm l ⟨9,[],[],c.atom,c.name,[],[],c.lo,c.hi,0⟩:=by rw[Con.leftP_eq,if_neg (by omega),if_neg (by omega),if_pos h]
theorem Con.leftP0 {c:Con} (h5:c.kind≠5) (h6:c.kind≠6) (h7:c.kind≠7) (frm:Int) (l:List Pc):c.leftP frm l=l:=by rw[Con.leftP_eq,if_neg h5,if_neg h6,if_neg h7]
theorem Con.rightP5 {c:Con} (h:c.kind=5) (frm:Int) (l:List Pc):c.rightP frm l=Con.rightP.rights frm c.atom c.parts l:=by rw[Con.rightP_eq,if_pos h]
theorem Con.rightP6 {c p:Con} (h:c.kind=6) (hp:c.parts=[p]) (frm:Int) (l:List Pc):c.rightP frm l=p.rightP frm (ins frm l ⟨3,c.atom,[],p.atom,c.name,[],[],0,0,0⟩):=by
  rw[Con.rightP_eq,if_neg (by omega),if_pos h,hp];rfl
theorem Con.rightP7 {c:Con} (h:c.kind=7) (frm:Int) (l:List Pc):c.rightP frm l=ins frm l ⟨8,c.atom,[],[],c.name,[],[],c.lo,c.hi,0⟩:=by rw[Con.rightP_eq,if_neg (by omega),if_neg (by omega),if_pos h]
theorem Con.rightP0 {c:Con} (h5:c.kind≠5) (h6:c.kind≠6) (h7:c.kind≠7) (frm:Int) (l:List Pc):c.rightP frm l=l:=by rw[Con.rightP_eq,if_neg h5,if_neg h6,if_neg h7]
end Go.Proofs.YtamklbgaipakfaaGreatDoor
namespace Go.Proofs.YtamklbgaipakfaaGreatDoor
open Go Go.Sx Go.Proofs
attribute [local irreducible] Code.wp wpList wpAnyH
open Go.Vs
theorem jl_:iU_ Tryz.prog 46 [(0,1),(1,1),(2,1),(3,1),(4,1)] [.int .i64 0,str [],.int .i64 0,.int .i64 0,.slice none 0 0]:=⟨_,bL_,z_,fun w=>by simp[ab_,O_,ba_]⟩
theorem fC_ {kb bk bs:Nat} {frm:Int}:∀ (d:Nat) (c:Con),c.sz≤d→c.ok→c.fine→∀ (l:List Pc) (q:CS),CInv l q→l.length+2*c.sz≤100000 →
    Tri Tryz.prog 193 #[c.val,zp_ bs 0,zp_ bk 0] (eW_ kb frm q) [c.memF,ck_,kF bk kb,lF bs bk] (fun _:{q':CS // CInv (c.leftP frm l) q'}=>.tuple #[]) (fun q'=>eW_ kb frm q'.1) (fun _=>[]):=by
  intro d
  induction d with
  | zero=>intro c h;have:=c.sz_pos;omega
  | succ d ih =>
    intro c hd hok hf l q hq hl
    have F:=Con.fields hf
    have hle:=F.le
    have hmo:=F.mo
    obtain⟨k,nm,lo,hi,ad,cap,ps⟩:=c
    have hlen:=Con.ok_len hok
    have hsz:(Con.mk k nm lo hi ad cap ps).sz=1+Con.sz.szs ps:=by simp only[Con.sz]
    have hsl:=Con.szs_len ps
    simp only[Con.parts,Con.cap,Con.kind]at hlen hle hmo
    refine o_ Tryz.func193 rfl rfl Tryz.ntmps193 rfl fun v0=>?_
    refine m_ ?_
    refine d_ ?_
    refine ah_ rfl rfl fun b1=>?_
    refine j_ ?_
    refine e_ rfl ?_
    refine m_ ?_
    refine d_ ?_
    refine c_ (A_ z_ rfl rfl rfl ab_) rfl ?_
    refine c_ (M_ 0 ay_ rfl rfl rfl) rfl ?_
    refine j_ ?_
    refine e_ rfl ?_
    refine aB_ ?_
    refine m_ ?_
    refine d_ ?_
    refine s_ (V_ rfl rfl) rfl fun r1 hr1=>?_
    refine c_ (n_ rfl) rfl ?_
    refine j_ ?_
    refine e_ rfl ?_
    cases r1
    · skip
      replace hr1:=znb hr1
      try dsimp only[Con.kind,Con.parts,Con.name,Con.lo,Con.hi,Con.cap,Con.ad]at hr1
      refine F_ rfl ?_
      refine m_ ?_
      refine d_ ?_
      refine s_ (V_ rfl rfl) rfl fun r2 hr2=>?_
      refine c_ (n_ rfl) rfl ?_
      refine j_ ?_
      refine e_ rfl ?_
      cases r2
      · skip
        replace hr2:=znb hr2
        try dsimp only[Con.kind,Con.parts,Con.name,Con.lo,Con.hi,Con.cap,Con.ad]at hr2
        refine F_ rfl ?_
        refine m_ ?_
        refine d_ ?_
        refine s_ (V_ rfl rfl) rfl fun r3 hr3=>?_
        refine c_ (n_ rfl) rfl ?_
        refine j_ ?_
        refine e_ rfl ?_
        cases r3
        · skip
          replace hr3:=znb hr3
          try dsimp only[Con.kind,Con.parts,Con.name,Con.lo,Con.hi,Con.cap,Con.ad]at hr3
          refine F_ rfl ?_
          refine ai_ ?_
          refine co_ rfl ?_
          exact fd_ Tryz.results193 ⟨q,(by rw[Con.leftP0 (c:=(.mk k nm lo hi ad cap ps)) (by assumption) (by assumption) (by assumption)];exact hq)⟩ rfl (F:=[_]) (@List.perm_append_comm _ [_] _) zt
        · skip
          replace hr3:=zeb hr3
          try dsimp only[Con.kind,Con.parts,Con.name,Con.lo,Con.hi,Con.cap,Con.ad]at hr3
          refine E_ rfl ?_
          refine bi_ [(b1,.cells #[.int .i64 k,str nm,.int .i64 lo,.int .i64 hi,.slice ad ps.length cap] 46 (0,0))] zk ?_
          refine U_ 4 [0,1,2,3,4,5,6,7] zk (fun _ a b=>⟨Vw.sat.sub a,b⟩) ?_
          refine y_ rfl (ch_ (cs:=[zp_ kb 0]) lA_ rfl (fun v _ h=>h.2.2.1) rfl) rfl ?_
          refine y_ rfl (A_ z_ rfl rfl rfl O_) rfl ?_
          refine y_ rfl (M_ 0 ap_ rfl rfl rfl) rfl ?_
          refine y_ rfl (A_ z_ rfl rfl rfl ab_) rfl ?_
          refine y_ rfl (M_ 0 ay_ rfl rfl rfl) rfl ?_
          refine y_ rfl (A_ z_ rfl rfl rfl ab_) rfl ?_
          refine y_ rfl (M_ 0 ay_ rfl rfl rfl) rfl ?_
          refine y_ rfl (P_ 0 w_ g_ rfl rfl rfl) rfl ?_
          refine aJ_ ?_
          refine u_ 8 rfl zk ?_
          refine i_ (cg_ (.mk k nm lo hi ad cap ps) hok) rfl (.refl _) zf rfl fun _=>?_
          refine j_ ?_
          refine L_ rfl ?_
          refine X_ (fun _ a b=>⟨Vw.sat.sub a,b⟩) ?_
          refine U_ 2 [9] zk (fun _ a b=>⟨Vw.sat.sub a,b⟩) ?_
          refine y_ rfl (S_ bT_ rfl rfl) rfl ?_
          refine aJ_ ?_
          refine u_ 10 rfl zk ?_
          refine I_ x_ Z_ ac_ rfl rfl rfl rfl rfl rfl fun b2=>?_
          refine j_ ?_
          refine L_ rfl ?_
          refine X_ (fun _ a b=>⟨Vw.sat.sub a.tail,b⟩) ?_
          refine u_ 11 rfl zk ?_
          refine i_ (dl_ ⟨9,[],[],Con.atom (.mk k nm lo hi ad cap ps),nm,[],[],lo,hi,0⟩ frm l q hq (by omega)) rfl (.cons _ (@List.perm_append_comm _ [_] _)) zt rfl fun x=>?_
          obtain⟨q2,hq2⟩:=x
          refine W_ (@List.perm_append_comm _ _ [_]) ?_
          refine j_ ?_
          refine L_ rfl ?_
          refine X_ (fun _ a b=>⟨Vw.sat.sub a,b⟩) ?_
          refine bp_ zk ?_
          refine co_ rfl ?_
          exact fd_ Tryz.results193 ⟨q2,(by rw[Con.leftP7 (c:=(.mk k nm lo hi ad cap ps)) (by assumption)];exact hq2)⟩ rfl (F:=[_]) (@List.perm_append_comm _ [_] _) zt
      · skip
        replace hr2:=zeb hr2
        try dsimp only[Con.kind,Con.parts,Con.name,Con.lo,Con.hi,Con.cap,Con.ad]at hr2
        rw[hr2]at hle hmo
        simp[nd,cW_]at hle hmo
        obtain⟨p,hps⟩:=List.length_eq_one_iff.1 (show ps.length=1 by omega)
        have hp:ps[0]? = some p:=by rw[hps];rfl
        have hpm:p∈ps:=List.mem_of_getElem? hp
        refine E_ rfl ?_
        refine m_ ?_
        refine bi_ [(b1,.cells #[.int .i64 k,str nm,.int .i64 lo,.int .i64 hi,.slice ad ps.length cap] 46 (0,0))] zk ?_
        refine U_ 1 [0,1,2,3,4] zk (fun _ a b=>⟨Vw.sat.sub a,b⟩) ?_
        refine y_ rfl (ch_ (cs:=[lFn bs bk]) hH_ rfl (fun v _ h=>h.2.2.2.1) rfl) rfl ?_
        refine y_ rfl (A_ z_ rfl rfl rfl ba_) rfl ?_
        refine y_ rfl (M_ 0 bk_ rfl rfl rfl) rfl ?_
        refine y_ rfl (T_ B_ g_ rfl rfl (fun v _ h=>J_ (n:=5) Con.cells_len (by decide) (((Con.mem_iff (.mk k nm lo hi ad cap ps) v).1 h.1).1) hp) (by omega) (by first|omega|(simp only[Con.parts];omega)|(simp[Con.parts];done))) rfl ?_
        refine y_ rfl (al_ (ad:=ad) (us:=p.cells) w_ g_ rfl (fun v _ h=>((Con.mem_iff (.mk k nm lo hi ad cap ps) v).1 h.1).1) (Con.cells_len _) (H_ Con.cells_len hp)) rfl ?_
        refine aJ_ ?_
        refine u_ 5 rfl zk ?_
        refine aM_ (ih p (by have:=Con.sz_part (c:=(.mk k nm lo hi ad cap ps)) hpm;omega) (Con.ok_part (c:=(.mk k nm lo hi ad cap ps)) hok hpm) (Con.fine_part (c:=(.mk k nm lo hi ad cap ps)) hf hpm) l q hq (by have:=Con.sz_at hp;omega)) rfl rfl (@List.perm_append_comm _ [_] _) (fun v _ h=>by exact⟨Con.mem_part (c:=(.mk k nm lo hi ad cap ps)) h.1 hpm,h.2⟩) rfl fun x=>?_
        obtain⟨q5,hq5⟩:=x
        refine W_ (@List.perm_append_comm _ _ [_]) ?_
        refine j_ ?_
        refine L_ rfl ?_
        refine X_ (fun _ a b=>⟨Vw.sat.sub a,b⟩) ?_
        refine bp_ zk ?_
        refine e_ rfl ?_
        refine bi_ [(b1,.cells #[.int .i64 k,str nm,.int .i64 lo,.int .i64 hi,.slice ad ps.length cap] 46 (0,0))] zk ?_
        refine U_ 5 [0,1,2,3,4,5,6,8] zk (fun _ a b=>⟨Vw.sat.sub a,b⟩) ?_
        refine y_ rfl (ch_ (cs:=[zp_ kb 0]) lA_ rfl (fun v _ h=>h.2.2.1) rfl) rfl ?_
        refine y_ rfl (A_ z_ rfl rfl rfl O_) rfl ?_
        refine y_ rfl (M_ 0 ap_ rfl rfl rfl) rfl ?_
        refine y_ rfl (A_ z_ rfl rfl rfl ba_) rfl ?_
        refine y_ rfl (M_ 0 bk_ rfl rfl rfl) rfl ?_
        refine y_ rfl (T_ B_ g_ rfl rfl (fun v _ h=>J_ (n:=5) Con.cells_len (by decide) (((Con.mem_iff (.mk k nm lo hi ad cap ps) v).1 h.1).1) hp) (by omega) (by first|omega|(simp only[Con.parts];omega)|(simp[Con.parts];done))) rfl ?_
        refine y_ rfl (al_ (ad:=ad) (us:=p.cells) w_ g_ rfl (fun v _ h=>((Con.mem_iff (.mk k nm lo hi ad cap ps) v).1 h.1).1) (Con.cells_len _) (H_ Con.cells_len hp)) rfl ?_
        refine y_ rfl (P_ 0 w_ g_ rfl rfl rfl) rfl ?_
        refine aJ_ ?_
        refine u_ 7 rfl zk ?_
        refine i_ (cg_ p (Con.ok_part (c:=(.mk k nm lo hi ad cap ps)) hok hpm)) rfl (.refl _) (fun v _ h=>⟨Con.mem_part (c:=(.mk k nm lo hi ad cap ps)) h.1 hpm,h.2.1,trivial⟩) rfl fun _=>?_
        refine j_ ?_
        refine L_ rfl ?_
        refine X_ (fun _ a b=>⟨Vw.sat.sub a,b⟩) ?_
        refine u_ 9 rfl zk ?_
        refine i_ (cg_ (.mk k nm lo hi ad cap ps) hok) rfl (.refl _) zf rfl fun _=>?_
        refine j_ ?_
        refine L_ rfl ?_
        refine X_ (fun _ a b=>⟨Vw.sat.sub a,b⟩) ?_
        refine U_ 2 [10] zk (fun _ a b=>⟨Vw.sat.sub a,b⟩) ?_
        refine y_ rfl (S_ bT_ rfl rfl) rfl ?_
        refine aJ_ ?_
        refine u_ 11 rfl zk ?_
        refine I_ x_ Z_ ac_ rfl rfl rfl rfl rfl rfl fun b3=>?_
        refine j_ ?_
        refine L_ rfl ?_
        refine X_ (fun _ a b=>⟨Vw.sat.sub a.tail,b⟩) ?_
        refine u_ 12 rfl zk ?_
        refine i_ (dl_ ⟨4,p.atom,[],Con.atom (.mk k nm lo hi ad cap ps),nm,[],[],0,0,0⟩ frm (p.leftP frm l) q5 hq5 (by have:=Con.leftP_len frm _ p (Nat.le_refl _) l;have:=Con.sz_at hp;omega)) rfl (.cons _ (@List.perm_append_comm _ [_] _)) zt rfl fun x=>?_
        obtain⟨q7,hq7⟩:=x
        refine W_ (@List.perm_append_comm _ _ [_]) ?_
        refine j_ ?_
        refine L_ rfl ?_
        refine X_ (fun _ a b=>⟨Vw.sat.sub a,b⟩) ?_
        refine bp_ zk ?_
        refine co_ rfl ?_
        exact fd_ Tryz.results193 ⟨q7,(by rw[Con.leftP6 (c:=(.mk k nm lo hi ad cap ps)) (p:=p) (by assumption) hps];exact hq7)⟩ rfl (F:=[_]) (@List.perm_append_comm _ [_] _) zt
    · skip
      replace hr1:=zeb hr1
      try dsimp only[Con.kind,Con.parts,Con.name,Con.lo,Con.hi,Con.cap,Con.ad]at hr1
      rw[hr1]at hle hmo
      simp[nd,cW_]at hle hmo
      refine E_ rfl ?_
      refine m_ ?_
      refine m_ ?_
      refine d_ ?_
      refine c_ (A_ z_ rfl rfl rfl ba_) rfl ?_
      refine c_ (M_ 0 bk_ rfl rfl rfl) rfl ?_
      refine c_ (bM_ B_ rfl) rfl ?_
      refine c_ (q_ rfl) rfl ?_
      refine j_ ?_
      refine e_ rfl ?_
      refine aB_ ?_
      refine aN_ [(1,zp_ bs 0),(2,zp_ bk 0),(3,zp_ b1 0),(15,.slice ad ps.length cap),(16,.int .i64 (ps.length:Int)),(17,.int .i64 ((0:Nat):Int))] zl ?_
      refine aT_ (ι:={x:Nat×CS // x.1≤ps.length∧CInv (Con.leftP.lefts frm (ps.take x.1) l) x.2}) (fun x=>[(1,zp_ bs 0),(2,zp_ bk 0),(3,zp_ b1 0),(15,.slice ad ps.length cap),(16,.int .i64 (ps.length:Int)),(17,.int .i64 (x.1.1:Int))]) (fun x=>_::eW_ kb frm x.1.2) (fun _=>_) (fun x=>ps.length - x.1.1) ⟨(0,q),by simp,by simpa [Con.leftP.lefts] using hq⟩ ?_
      rintro ⟨⟨i,q0⟩,hk⟩
      dsimp only at hk
      refine aN_ [(1,zp_ bs 0),(2,zp_ bk 0),(3,zp_ b1 0),(15,.slice ad ps.length cap),(16,.int .i64 (ps.length:Int)),(17,.int .i64 (i:Int))] zl ?_
      refine m_ ?_
      refine d_ ?_
      refine s_ (bR_ rfl rfl) rfl fun r4 hr4=>?_
      refine j_ ?_
      refine e_ rfl ?_
      refine m_ ?_
      cases r4
      · skip
        replace hr4:=zdf hr4
        try dsimp only[Con.kind,Con.parts,Con.name,Con.lo,Con.hi,Con.cap,Con.ad]at hr4
        obtain rfl:i=ps.length:=by omega
        rw[List.take_length]at hk
        obtain⟨p,hp⟩:∃ p,ps[0]? = some p:=⟨_,List.getElem?_eq_getElem (show 0<ps.length by omega)⟩
        have hpm:p∈ps:=List.mem_of_getElem? hp
        refine F_ rfl ?_
        refine cp_ rfl ?_
        refine e_ rfl ?_
        refine m_ ?_
        refine d_ ?_
        refine c_ (A_ z_ rfl rfl rfl ba_) rfl ?_
        refine c_ (M_ 0 bk_ rfl rfl rfl) rfl ?_
        refine c_ (T_ B_ g_ rfl rfl (fun v _ h=>J_ (n:=5) Con.cells_len (by decide) (((Con.mem_iff (.mk k nm lo hi ad cap ps) v).1 h.1).1) hp) (by omega) (by first|omega|(simp only[Con.parts];omega)|(simp[Con.parts];done))) rfl ?_
        refine c_ (al_ (ad:=ad) (us:=p.cells) w_ g_ rfl (fun v _ h=>((Con.mem_iff (.mk k nm lo hi ad cap ps) v).1 h.1).1) (Con.cells_len _) (H_ Con.cells_len hp)) rfl ?_
        refine i_ (cg_ p (Con.ok_part (c:=(.mk k nm lo hi ad cap ps)) hok hpm)) rfl (.refl _) (fun v _ h=>⟨Con.mem_part (c:=(.mk k nm lo hi ad cap ps)) h.1 hpm,h.2.1,trivial⟩) rfl fun _=>?_
        refine c_ (n_ rfl) rfl ?_
        refine j_ ?_
        refine e_ rfl ?_
        refine m_ ?_
        refine d_ ?_
        refine c_ (A_ z_ rfl rfl rfl ba_) rfl ?_
        refine c_ (M_ 0 bk_ rfl rfl rfl) rfl ?_
        refine c_ (cM_ (i:=1) (j:=ps.length) (kl:=.i64) (kh:=.i64) B_ g_ rfl rfl rfl (by omega) (by first|omega|(simp only[Con.cap];omega))) rfl ?_
        refine c_ (bM_ B_ rfl) rfl ?_
        refine c_ (q_ rfl) rfl ?_
        refine j_ ?_
        refine e_ rfl ?_
        refine aB_ ?_
        refine aN_ [(1,zp_ bs 0),(2,zp_ bk 0),(3,zp_ b1 0),(6,str p.atom),(32,.slice (sad ad cap 1 5) (ps.length - 1) (cap - 1)),(33,.int .i64 ((ps.length - 1:Nat):Int)),(34,.int .i64 ((0:Nat):Int))] zl ?_
        have hh:=Con.headD_atom hp
        have hL0:=Con.lefts_len frm ps ps.length l
        rw[List.take_length]at hL0
        generalize p.atom=f0 at hh ⊢
        refine aT_ (ι:={x:Nat×Str×List Pc×CS // x.1≤ps.length - 1∧CInv x.2.2.1 x.2.2.2∧x.2.2.1.length≤(Con.leftP.lefts frm ps l).length+x.1∧Con.andP frm (.mk k nm lo hi ad cap ps) (ps.drop 1) 1 f0 (Con.leftP.lefts frm ps l)=Con.andP frm (.mk k nm lo hi ad cap ps) (ps.drop (1+x.1)) (1+x.1) x.2.1 x.2.2.1}) (fun x=>[(1,zp_ bs 0),(2,zp_ bk 0),(3,zp_ b1 0),(6,str x.1.2.1),(32,.slice (sad ad cap 1 5) (ps.length - 1) (cap - 1)),(33,.int .i64 ((ps.length - 1:Nat):Int)),(34,.int .i64 (x.1.1:Int))]) (fun x=>_::eW_ kb frm x.1.2.2.2) (fun _=>_) (fun x=>ps.length - 1 - x.1.1) ⟨(0,f0,(Con.leftP.lefts frm ps l),q0),by simp,hk.2,by simp,rfl⟩ ?_
        rintro ⟨⟨i,f,l1,q2⟩,hj⟩
        dsimp only at hj
        refine aN_ [(1,zp_ bs 0),(2,zp_ bk 0),(3,zp_ b1 0),(6,str f),(32,.slice (sad ad cap 1 5) (ps.length - 1) (cap - 1)),(33,.int .i64 ((ps.length - 1:Nat):Int)),(34,.int .i64 (i:Int))] zl ?_
        refine m_ ?_
        refine d_ ?_
        refine s_ (bR_ rfl rfl) rfl fun r5 hr5=>?_
        refine j_ ?_
        refine e_ rfl ?_
        refine m_ ?_
        cases r5
        · skip
          replace hr5:=zdf hr5
          try dsimp only[Con.kind,Con.parts,Con.name,Con.lo,Con.hi,Con.cap,Con.ad]at hr5
          refine F_ rfl ?_
          refine cp_ rfl ?_
          refine co_ rfl ?_
          exact fd_ Tryz.results193 ⟨q2,(by have e:=hj.2.2.2;rw[List.drop_of_length_le (show ps.length≤1+i by omega)]at e;rw[Con.leftP5 (c:=(.mk k nm lo hi ad cap ps)) (by assumption)];simp only[Con.parts,hh];rw[e];exact hj.2.1)⟩ rfl (F:=[_]) (@List.perm_append_comm _ [_] _) zt
        · skip
          replace hr5:=zdt hr5
          try dsimp only[Con.kind,Con.parts,Con.name,Con.lo,Con.hi,Con.cap,Con.ad]at hr5
          have hlt:i<ps.length - 1:=by omega
          obtain⟨p,hp⟩:∃ p,(ps.drop 1)[i]? = some p:=⟨_,List.getElem?_eq_getElem (by simp;omega)⟩
          have hp0:ps[1+i]? = some p:=by rw[← List.getElem?_drop];exact hp
          have hpm:p∈ps:=List.mem_of_getElem? hp0
          refine E_ rfl ?_
          refine ai_ ?_
          refine e_ rfl ?_
          refine m_ ?_
          refine aB_ ?_
          refine m_ ?_
          refine d_ ?_
          refine c_ (q_ rfl) rfl ?_
          refine c_ (T_ B_ g_ rfl rfl (fun v _ h=>J_ (n:=5) Con.cells_len (by decide) ((Con.mem_tail (c:=(.mk k nm lo hi ad cap ps)) hok h.1)) hp) (by omega) (by first|omega|(simp only[Con.parts];omega)|(simp[Con.parts];done))) rfl ?_
          refine c_ (al_ (ad:=(sad ad cap 1 5)) (us:=p.cells) w_ g_ rfl (fun v _ h=>(Con.mem_tail (c:=(.mk k nm lo hi ad cap ps)) hok h.1)) (Con.cells_len _) (H_ Con.cells_len hp)) rfl ?_
          refine au_ bL_ rfl fun b4=>?_
          refine c_ (n_ rfl) rfl ?_
          refine eG_ 0 g_ rfl rfl rfl rfl ?_
          refine j_ ?_
          refine e_ rfl ?_
          refine m_ ?_
          refine d_ ?_
          refine c_ (A_ z_ rfl rfl rfl ba_) rfl ?_
          refine c_ (M_ 1 bk_ rfl rfl rfl) rfl ?_
          refine c_ (q_ rfl) rfl ?_
          refine c_ (aA_ rfl rfl rfl (be_ (by omega) (by omega))) rfl ?_
          refine c_ (br_ (cM_ (i:=0) (j:=i+2) (kl:=.i64) (kh:=.i64) B_ g_ rfl rfl rfl (by omega) (by first|omega|(simp only[Con.cap];omega))) (show _=Value.slice (sad ad cap 0 5) (ps.take (i+2)).length (cap - 0) by rw[List.length_take,Nat.min_eq_left (by omega)];rfl)) rfl ?_
          refine c_ (S_ jl_ rfl rfl) rfl ?_
          refine i_ (cg_ (Con.pre (.mk k nm lo hi ad cap ps) (i+2)) (Con.pre_ok hok _)) rfl (.refl _) (fun v _ h=>⟨Con.pre_mem hok h.1 _,h.2.1,trivial⟩) rfl fun _=>?_
          refine c_ (n_ rfl) rfl ?_
          refine j_ ?_
          refine e_ rfl ?_
          refine m_ ?_
          refine bi_ [(b4,.cells p.cells.toArray 46 (0,0)),(b1,.cells #[.int .i64 k,str nm,.int .i64 lo,.int .i64 hi,.slice ad ps.length cap] 46 (0,0))] zk ?_
          refine U_ 4 [0,1,2,4] zk (fun _ a b=>⟨Vw.sat.sub a,b⟩) ?_
          refine y_ rfl (ch_ (cs:=[zp_ kb 0]) lA_ rfl (fun v _ h=>h.2.2.1) rfl) rfl ?_
          refine y_ rfl (q_ rfl) rfl ?_
          refine y_ rfl (cK_ 0 w_ g_ rfl rfl) rfl ?_
          refine y_ rfl (q_ rfl) rfl ?_
          refine aJ_ ?_
          refine u_ 3 rfl zk ?_
          refine i_ (cg_ p (Con.ok_part (c:=(.mk k nm lo hi ad cap ps)) hok hpm)) rfl (.refl _) (fun v _ h=>⟨Con.mem_part (c:=(.mk k nm lo hi ad cap ps)) h.1 hpm,h.2.1,trivial⟩) rfl fun _=>?_
          refine j_ ?_
          refine L_ rfl ?_
          refine X_ (fun _ a b=>⟨Vw.sat.sub a,b⟩) ?_
          refine U_ 2 [5] zk (fun _ a b=>⟨Vw.sat.sub a,b⟩) ?_
          refine y_ rfl (S_ bT_ rfl rfl) rfl ?_
          refine aJ_ ?_
          refine u_ 6 rfl zk ?_
          refine I_ x_ Z_ ac_ rfl rfl rfl rfl rfl rfl fun b5=>?_
          refine j_ ?_
          refine L_ rfl ?_
          refine X_ (fun _ a b=>⟨Vw.sat.sub a.tail,b⟩) ?_
          refine u_ 7 rfl zk ?_
          refine i_ (dl_ ⟨2,f,p.atom,(Con.pre (.mk k nm lo hi ad cap ps) (i+2)).atom,[],[],[],0,0,0⟩ frm l1 q2 hj.2.1 (by omega)) rfl (.cons _ (@List.perm_append_comm _ [_,_] _)) zt rfl fun x=>?_
          obtain⟨q9,hq9⟩:=x
          refine W_ (@List.perm_append_comm _ _ [_,_]) ?_
          refine j_ ?_
          refine L_ rfl ?_
          refine X_ (fun _ a b=>⟨Vw.sat.sub a,b⟩) ?_
          refine bp_ zk ?_
          refine e_ rfl ?_
          refine d_ ?_
          refine c_ (q_ rfl) rfl ?_
          refine c_ (n_ rfl) rfl ?_
          refine j_ ?_
          refine e_ rfl ?_
          refine d_ ?_
          refine c_ (aA_ rfl rfl rfl (be_ (by omega) (by omega))) rfl ?_
          refine c_ (q_ rfl) rfl ?_
          refine j_ ?_
          refine L_ rfl ?_
          exact R_ ⟨(i+1,(Con.pre (.mk k nm lo hi ad cap ps) (i+2)).atom,(ins frm l1 ⟨2,f,p.atom,(Con.pre (.mk k nm lo hi ad cap ps) (i+2)).atom,[],[],[],0,0,0⟩),q9),by omega,hq9,by have:=bt_ frm l1 ⟨2,f,p.atom,(Con.pre (.mk k nm lo hi ad cap ps) (i+2)).atom,[],[],[],0,0,0⟩;dsimp only;omega,by rw[hj.2.2.2,Con.drop_at hp0];simp only[Con.andP];rw[show 1+i+1=i+2 by omega,show 1+(i+1)=i+2 by omega]⟩ (by simp;omega) zl (F:=[_]) (@List.perm_append_comm _ [_] _) zh
      · skip
        replace hr4:=zdt hr4
        try dsimp only[Con.kind,Con.parts,Con.name,Con.lo,Con.hi,Con.cap,Con.ad]at hr4
        have hlt:i<ps.length:=by omega
        obtain⟨p,hp⟩:∃ p,ps[i]? = some p:=⟨_,List.getElem?_eq_getElem hlt⟩
        have hpm:p∈ps:=List.mem_of_getElem? hp
        refine E_ rfl ?_
        refine ai_ ?_
        refine e_ rfl ?_
        refine m_ ?_
        refine aB_ ?_
        refine m_ ?_
        refine d_ ?_
        refine c_ (T_ B_ g_ rfl rfl (fun v _ h=>J_ (n:=5) Con.cells_len (by decide) (((Con.mem_iff (.mk k nm lo hi ad cap ps) v).1 h.1).1) hp) (by omega) (by first|omega|(simp only[Con.parts];omega)|(simp[Con.parts];done))) rfl ?_
        refine c_ (al_ (ad:=ad) (us:=p.cells) w_ g_ rfl (fun v _ h=>((Con.mem_iff (.mk k nm lo hi ad cap ps) v).1 h.1).1) (Con.cells_len _) (H_ Con.cells_len hp)) rfl ?_
        refine au_ bL_ rfl fun b6=>?_
        refine eG_ 0 g_ rfl rfl rfl rfl ?_
        refine j_ ?_
        refine e_ rfl ?_
        refine d_ ?_
        refine c_ (ch_ (cs:=[lFn bs bk]) hH_ rfl (fun v _ h=>h.2.2.2.1) rfl) rfl ?_
        refine c_ (cK_ 0 w_ g_ rfl rfl) rfl ?_
        refine aM_ (ih p (by have:=Con.sz_part (c:=(.mk k nm lo hi ad cap ps)) hpm;omega) (Con.ok_part (c:=(.mk k nm lo hi ad cap ps)) hok hpm) (Con.fine_part (c:=(.mk k nm lo hi ad cap ps)) hf hpm) (Con.leftP.lefts frm (ps.take i) l) q0 hk.2 (by have:=Con.lefts_len frm ps i l;have:=Con.sz_at hp;omega)) rfl rfl (@List.perm_append_comm _ [_,_] _) (fun v _ h=>by exact⟨Con.mem_part (c:=(.mk k nm lo hi ad cap ps)) h.1 hpm,h.2⟩) rfl fun x=>?_
        obtain⟨q10,hq10⟩:=x
        refine W_ (@List.perm_append_comm _ _ [_,_]) ?_
        refine j_ ?_
        refine e_ rfl ?_
        refine d_ ?_
        refine c_ (aA_ rfl rfl rfl (be_ (by omega) (by omega))) rfl ?_
        refine c_ (q_ rfl) rfl ?_
        refine j_ ?_
        refine L_ rfl ?_
        exact R_ ⟨(i+1,q10),hlt,by rw[Con.lefts_step frm hp];exact hq10⟩ (by simp;omega) zl (F:=[_]) (@List.perm_append_comm _ [_] _) zh
theorem eJ_ {kb bk bs:Nat} {frm:Int}:∀ (d:Nat) (c:Con),c.sz≤d→c.ok→c.fine→∀ (l:List Pc) (q:CS),CInv l q→l.length+2*c.sz≤100000 →
    Tri Tryz.prog 194 #[c.val,zp_ bk 0,zp_ bs 0] (eW_ kb frm q) [c.memF,ck_,kF bk kb,rcF bs bk] (fun _:{q':CS // CInv (c.rightP frm l) q'}=>.tuple #[]) (fun q'=>eW_ kb frm q'.1) (fun _=>[]):=by
  intro d
  induction d with
  | zero=>intro c h;have:=c.sz_pos;omega
  | succ d ih =>
    intro c hd hok hf l q hq hl
    have F:=Con.fields hf
    have hle:=F.le
    have hmo:=F.mo
    obtain⟨k,nm,lo,hi,ad,cap,ps⟩:=c
    have hlen:=Con.ok_len hok
    have hsz:(Con.mk k nm lo hi ad cap ps).sz=1+Con.sz.szs ps:=by simp only[Con.sz]
    have hsl:=Con.szs_len ps
    simp only[Con.parts,Con.cap,Con.kind]at hlen hle hmo
    refine o_ Tryz.func194 rfl rfl Tryz.ntmps194 rfl fun v0=>?_
    refine m_ ?_
    refine d_ ?_
    refine ah_ rfl rfl fun b1=>?_
    refine j_ ?_
    refine e_ rfl ?_
    refine m_ ?_
    refine d_ ?_
    refine c_ (A_ z_ rfl rfl rfl ab_) rfl ?_
    refine c_ (M_ 0 ay_ rfl rfl rfl) rfl ?_
    refine j_ ?_
    refine e_ rfl ?_
    refine aB_ ?_
    refine m_ ?_
    refine d_ ?_
    refine s_ (V_ rfl rfl) rfl fun r1 hr1=>?_
    refine c_ (n_ rfl) rfl ?_
    refine j_ ?_
    refine e_ rfl ?_
    cases r1
    · skip
      replace hr1:=znb hr1
      try dsimp only[Con.kind,Con.parts,Con.name,Con.lo,Con.hi,Con.cap,Con.ad]at hr1
      refine F_ rfl ?_
      refine m_ ?_
      refine d_ ?_
      refine s_ (V_ rfl rfl) rfl fun r2 hr2=>?_
      refine c_ (n_ rfl) rfl ?_
      refine j_ ?_
      refine e_ rfl ?_
      cases r2
      · skip
        replace hr2:=znb hr2
        try dsimp only[Con.kind,Con.parts,Con.name,Con.lo,Con.hi,Con.cap,Con.ad]at hr2
        refine F_ rfl ?_
        refine m_ ?_
        refine d_ ?_
        refine s_ (V_ rfl rfl) rfl fun r3 hr3=>?_
        refine c_ (n_ rfl) rfl ?_
        refine j_ ?_
        refine e_ rfl ?_
        cases r3
        · skip
          replace hr3:=znb hr3
          try dsimp only[Con.kind,Con.parts,Con.name,Con.lo,Con.hi,Con.cap,Con.ad]at hr3
          refine F_ rfl ?_
          refine ai_ ?_
          refine co_ rfl ?_
          exact fd_ Tryz.results194 ⟨q,(by rw[Con.rightP0 (c:=(.mk k nm lo hi ad cap ps)) (by assumption) (by assumption) (by assumption)];exact hq)⟩ rfl (F:=[_]) (@List.perm_append_comm _ [_] _) zt
        · skip
          replace hr3:=zeb hr3
          try dsimp only[Con.kind,Con.parts,Con.name,Con.lo,Con.hi,Con.cap,Con.ad]at hr3
          refine E_ rfl ?_
          refine bi_ [(b1,.cells #[.int .i64 k,str nm,.int .i64 lo,.int .i64 hi,.slice ad ps.length cap] 46 (0,0))] zk ?_
          refine U_ 4 [0,1,3,4,5,6,7,8] zk (fun _ a b=>⟨Vw.sat.sub a,b⟩) ?_
          refine y_ rfl (ch_ (cs:=[zp_ kb 0]) lA_ rfl (fun v _ h=>h.2.2.1) rfl) rfl ?_
          refine y_ rfl (P_ 0 w_ g_ rfl rfl rfl) rfl ?_
          refine y_ rfl (A_ z_ rfl rfl rfl O_) rfl ?_
          refine y_ rfl (M_ 0 ap_ rfl rfl rfl) rfl ?_
          refine y_ rfl (A_ z_ rfl rfl rfl ab_) rfl ?_
          refine y_ rfl (M_ 0 ay_ rfl rfl rfl) rfl ?_
          refine y_ rfl (A_ z_ rfl rfl rfl ab_) rfl ?_
          refine y_ rfl (M_ 0 ay_ rfl rfl rfl) rfl ?_
          refine aJ_ ?_
          refine u_ 2 rfl zk ?_
          refine i_ (cg_ (.mk k nm lo hi ad cap ps) hok) rfl (.refl _) zf rfl fun _=>?_
          refine j_ ?_
          refine L_ rfl ?_
          refine X_ (fun _ a b=>⟨Vw.sat.sub a,b⟩) ?_
          refine U_ 2 [9] zk (fun _ a b=>⟨Vw.sat.sub a,b⟩) ?_
          refine y_ rfl (S_ bT_ rfl rfl) rfl ?_
          refine aJ_ ?_
          refine u_ 10 rfl zk ?_
          refine I_ x_ Z_ ac_ rfl rfl rfl rfl rfl rfl fun b2=>?_
          refine j_ ?_
          refine L_ rfl ?_
          refine X_ (fun _ a b=>⟨Vw.sat.sub a.tail,b⟩) ?_
          refine u_ 11 rfl zk ?_
          refine i_ (dl_ ⟨8,Con.atom (.mk k nm lo hi ad cap ps),[],[],nm,[],[],lo,hi,0⟩ frm l q hq (by omega)) rfl (.cons _ (@List.perm_append_comm _ [_] _)) zt rfl fun x=>?_
          obtain⟨q2,hq2⟩:=x
          refine W_ (@List.perm_append_comm _ _ [_]) ?_
          refine j_ ?_
          refine L_ rfl ?_
          refine X_ (fun _ a b=>⟨Vw.sat.sub a,b⟩) ?_
          refine bp_ zk ?_
          refine co_ rfl ?_
          exact fd_ Tryz.results194 ⟨q2,(by rw[Con.rightP7 (c:=(.mk k nm lo hi ad cap ps)) (by assumption)];exact hq2)⟩ rfl (F:=[_]) (@List.perm_append_comm _ [_] _) zt
      · skip
        replace hr2:=zeb hr2
        try dsimp only[Con.kind,Con.parts,Con.name,Con.lo,Con.hi,Con.cap,Con.ad]at hr2
        rw[hr2]at hle hmo
        simp[nd,cW_]at hle hmo
        obtain⟨p,hps⟩:=List.length_eq_one_iff.1 (show ps.length=1 by omega)
        have hp:ps[0]? = some p:=by rw[hps];rfl
        have hpm:p∈ps:=List.mem_of_getElem? hp
        refine E_ rfl ?_
        refine m_ ?_
        refine bi_ [(b1,.cells #[.int .i64 k,str nm,.int .i64 lo,.int .i64 hi,.slice ad ps.length cap] 46 (0,0))] zk ?_
        refine U_ 5 [0,1,3,4,5,6,7,8] zk (fun _ a b=>⟨Vw.sat.sub a,b⟩) ?_
        refine y_ rfl (ch_ (cs:=[zp_ kb 0]) lA_ rfl (fun v _ h=>h.2.2.1) rfl) rfl ?_
        refine y_ rfl (P_ 0 w_ g_ rfl rfl rfl) rfl ?_
        refine y_ rfl (A_ z_ rfl rfl rfl O_) rfl ?_
        refine y_ rfl (M_ 0 ap_ rfl rfl rfl) rfl ?_
        refine y_ rfl (A_ z_ rfl rfl rfl ba_) rfl ?_
        refine y_ rfl (M_ 0 bk_ rfl rfl rfl) rfl ?_
        refine y_ rfl (T_ B_ g_ rfl rfl (fun v _ h=>J_ (n:=5) Con.cells_len (by decide) (((Con.mem_iff (.mk k nm lo hi ad cap ps) v).1 h.1).1) hp) (by omega) (by first|omega|(simp only[Con.parts];omega)|(simp[Con.parts];done))) rfl ?_
        refine y_ rfl (al_ (ad:=ad) (us:=p.cells) w_ g_ rfl (fun v _ h=>((Con.mem_iff (.mk k nm lo hi ad cap ps) v).1 h.1).1) (Con.cells_len _) (H_ Con.cells_len hp)) rfl ?_
        refine aJ_ ?_
        refine u_ 2 rfl zk ?_
        refine i_ (cg_ (.mk k nm lo hi ad cap ps) hok) rfl (.refl _) zf rfl fun _=>?_
        refine j_ ?_
        refine L_ rfl ?_
        refine X_ (fun _ a b=>⟨Vw.sat.sub a,b⟩) ?_
        refine u_ 9 rfl zk ?_
        refine i_ (cg_ p (Con.ok_part (c:=(.mk k nm lo hi ad cap ps)) hok hpm)) rfl (.refl _) (fun v _ h=>⟨Con.mem_part (c:=(.mk k nm lo hi ad cap ps)) h.1 hpm,h.2.1,trivial⟩) rfl fun _=>?_
        refine j_ ?_
        refine L_ rfl ?_
        refine X_ (fun _ a b=>⟨Vw.sat.sub a,b⟩) ?_
        refine U_ 2 [10] zk (fun _ a b=>⟨Vw.sat.sub a,b⟩) ?_
        refine y_ rfl (S_ bT_ rfl rfl) rfl ?_
        refine aJ_ ?_
        refine u_ 11 rfl zk ?_
        refine I_ x_ Z_ ac_ rfl rfl rfl rfl rfl rfl fun b3=>?_
        refine j_ ?_
        refine L_ rfl ?_
        refine X_ (fun _ a b=>⟨Vw.sat.sub a.tail,b⟩) ?_
        refine u_ 12 rfl zk ?_
        refine i_ (dl_ ⟨3,Con.atom (.mk k nm lo hi ad cap ps),[],p.atom,nm,[],[],0,0,0⟩ frm l q hq (by omega)) rfl (.cons _ (@List.perm_append_comm _ [_] _)) zt rfl fun x=>?_
        obtain⟨q4,hq4⟩:=x
        refine W_ (@List.perm_append_comm _ _ [_]) ?_
        refine j_ ?_
        refine L_ rfl ?_
        refine X_ (fun _ a b=>⟨Vw.sat.sub a,b⟩) ?_
        refine bp_ zk ?_
        refine e_ rfl ?_
        refine bi_ [(b1,.cells #[.int .i64 k,str nm,.int .i64 lo,.int .i64 hi,.slice ad ps.length cap] 46 (0,0))] zk ?_
        refine U_ 1 [0,1,2,3,4] zk (fun _ a b=>⟨Vw.sat.sub a,b⟩) ?_
        refine y_ rfl (ch_ (cs:=[rFn bs bk]) hH_ rfl (fun v _ h=>h.2.2.2.1) rfl) rfl ?_
        refine y_ rfl (A_ z_ rfl rfl rfl ba_) rfl ?_
        refine y_ rfl (M_ 0 bk_ rfl rfl rfl) rfl ?_
        refine y_ rfl (T_ B_ g_ rfl rfl (fun v _ h=>J_ (n:=5) Con.cells_len (by decide) (((Con.mem_iff (.mk k nm lo hi ad cap ps) v).1 h.1).1) hp) (by omega) (by first|omega|(simp only[Con.parts];omega)|(simp[Con.parts];done))) rfl ?_
        refine y_ rfl (al_ (ad:=ad) (us:=p.cells) w_ g_ rfl (fun v _ h=>((Con.mem_iff (.mk k nm lo hi ad cap ps) v).1 h.1).1) (Con.cells_len _) (H_ Con.cells_len hp)) rfl ?_
        refine aJ_ ?_
        refine u_ 5 rfl zk ?_
        refine aM_ (ih p (by have:=Con.sz_part (c:=(.mk k nm lo hi ad cap ps)) hpm;omega) (Con.ok_part (c:=(.mk k nm lo hi ad cap ps)) hok hpm) (Con.fine_part (c:=(.mk k nm lo hi ad cap ps)) hf hpm) (ins frm l ⟨3,Con.atom (.mk k nm lo hi ad cap ps),[],p.atom,nm,[],[],0,0,0⟩) q4 hq4 (by have:=bt_ frm l ⟨3,Con.atom (.mk k nm lo hi ad cap ps),[],p.atom,nm,[],[],0,0,0⟩;have:=Con.sz_at hp;omega)) rfl rfl (@List.perm_append_comm _ [_] _) (fun v _ h=>by exact⟨Con.mem_part (c:=(.mk k nm lo hi ad cap ps)) h.1 hpm,h.2⟩) rfl fun x=>?_
        obtain⟨q7,hq7⟩:=x
        refine W_ (@List.perm_append_comm _ _ [_]) ?_
        refine j_ ?_
        refine L_ rfl ?_
        refine X_ (fun _ a b=>⟨Vw.sat.sub a,b⟩) ?_
        refine bp_ zk ?_
        refine co_ rfl ?_
        exact fd_ Tryz.results194 ⟨q7,(by rw[Con.rightP6 (c:=(.mk k nm lo hi ad cap ps)) (p:=p) (by assumption) hps];exact hq7)⟩ rfl (F:=[_]) (@List.perm_append_comm _ [_] _) zt
    · skip
      replace hr1:=zeb hr1
      try dsimp only[Con.kind,Con.parts,Con.name,Con.lo,Con.hi,Con.cap,Con.ad]at hr1
      rw[hr1]at hle hmo
      simp[nd,cW_]at hle hmo
      refine E_ rfl ?_
      refine m_ ?_
      refine d_ ?_
      refine c_ (A_ z_ rfl rfl rfl ba_) rfl ?_
      refine c_ (M_ 0 bk_ rfl rfl rfl) rfl ?_
      refine c_ (bM_ B_ rfl) rfl ?_
      refine c_ (q_ rfl) rfl ?_
      refine j_ ?_
      refine e_ rfl ?_
      refine aB_ ?_
      refine aN_ [(1,zp_ bk 0),(2,zp_ bs 0),(3,zp_ b1 0),(11,.slice ad ps.length cap),(12,.int .i64 (ps.length:Int)),(13,.int .i64 ((0:Nat):Int))] zl ?_
      refine aT_ (ι:={x:Nat×CS // x.1≤ps.length∧CInv (Con.rightP.rights frm (Con.atom (.mk k nm lo hi ad cap ps)) (ps.take x.1) l) x.2}) (fun x=>[(1,zp_ bk 0),(2,zp_ bs 0),(3,zp_ b1 0),(11,.slice ad ps.length cap),(12,.int .i64 (ps.length:Int)),(13,.int .i64 (x.1.1:Int))]) (fun x=>_::eW_ kb frm x.1.2) (fun _=>_) (fun x=>ps.length - x.1.1) ⟨(0,q),by simp,by simpa [Con.rightP.rights] using hq⟩ ?_
      rintro ⟨⟨i,q0⟩,hk⟩
      dsimp only at hk
      refine aN_ [(1,zp_ bk 0),(2,zp_ bs 0),(3,zp_ b1 0),(11,.slice ad ps.length cap),(12,.int .i64 (ps.length:Int)),(13,.int .i64 (i:Int))] zl ?_
      refine m_ ?_
      refine d_ ?_
      refine s_ (bR_ rfl rfl) rfl fun r4 hr4=>?_
      refine j_ ?_
      refine e_ rfl ?_
      refine m_ ?_
      cases r4
      · skip
        replace hr4:=zdf hr4
        try dsimp only[Con.kind,Con.parts,Con.name,Con.lo,Con.hi,Con.cap,Con.ad]at hr4
        obtain rfl:i=ps.length:=by omega
        rw[List.take_length]at hk
        refine F_ rfl ?_
        refine cp_ rfl ?_
        refine co_ rfl ?_
        exact fd_ Tryz.results194 ⟨q0,(by rw[Con.rightP5 (c:=(.mk k nm lo hi ad cap ps)) (by assumption)];exact hk.2)⟩ rfl (F:=[_]) (@List.perm_append_comm _ [_] _) zt
      · skip
        replace hr4:=zdt hr4
        try dsimp only[Con.kind,Con.parts,Con.name,Con.lo,Con.hi,Con.cap,Con.ad]at hr4
        have hlt:i<ps.length:=by omega
        obtain⟨p,hp⟩:∃ p,ps[i]? = some p:=⟨_,List.getElem?_eq_getElem hlt⟩
        have hpm:p∈ps:=List.mem_of_getElem? hp
        refine E_ rfl ?_
        refine ai_ ?_
        refine e_ rfl ?_
        refine m_ ?_
        refine aB_ ?_
        refine m_ ?_
        refine d_ ?_
        refine c_ (T_ B_ g_ rfl rfl (fun v _ h=>J_ (n:=5) Con.cells_len (by decide) (((Con.mem_iff (.mk k nm lo hi ad cap ps) v).1 h.1).1) hp) (by omega) (by first|omega|(simp only[Con.parts];omega)|(simp[Con.parts];done))) rfl ?_
        refine c_ (al_ (ad:=ad) (us:=p.cells) w_ g_ rfl (fun v _ h=>((Con.mem_iff (.mk k nm lo hi ad cap ps) v).1 h.1).1) (Con.cells_len _) (H_ Con.cells_len hp)) rfl ?_
        refine au_ bL_ rfl fun b4=>?_
        refine eG_ 0 g_ rfl rfl rfl rfl ?_
        refine j_ ?_
        refine e_ rfl ?_
        refine m_ ?_
        refine bi_ [(b4,.cells p.cells.toArray 46 (0,0)),(b1,.cells #[.int .i64 k,str nm,.int .i64 lo,.int .i64 hi,.slice ad ps.length cap] 46 (0,0))] zk ?_
        refine U_ 5 [0,1,3] zk (fun _ a b=>⟨Vw.sat.sub a,b⟩) ?_
        refine y_ rfl (ch_ (cs:=[zp_ kb 0]) lA_ rfl (fun v _ h=>h.2.2.1) rfl) rfl ?_
        refine y_ rfl (P_ 1 w_ g_ rfl rfl rfl) rfl ?_
        refine y_ rfl (cK_ 0 w_ g_ rfl rfl) rfl ?_
        refine aJ_ ?_
        refine u_ 2 rfl zk ?_
        refine i_ (cg_ (.mk k nm lo hi ad cap ps) hok) rfl (.refl _) zf rfl fun _=>?_
        refine j_ ?_
        refine L_ rfl ?_
        refine X_ (fun _ a b=>⟨Vw.sat.sub a,b⟩) ?_
        refine u_ 4 rfl zk ?_
        refine i_ (cg_ p (Con.ok_part (c:=(.mk k nm lo hi ad cap ps)) hok hpm)) rfl (.refl _) (fun v _ h=>⟨Con.mem_part (c:=(.mk k nm lo hi ad cap ps)) h.1 hpm,h.2.1,trivial⟩) rfl fun _=>?_
        refine j_ ?_
        refine L_ rfl ?_
        refine X_ (fun _ a b=>⟨Vw.sat.sub a,b⟩) ?_
        refine U_ 2 [5] zk (fun _ a b=>⟨Vw.sat.sub a,b⟩) ?_
        refine y_ rfl (S_ bT_ rfl rfl) rfl ?_
        refine aJ_ ?_
        refine u_ 6 rfl zk ?_
        refine I_ x_ Z_ ac_ rfl rfl rfl rfl rfl rfl fun b5=>?_
        refine j_ ?_
        refine L_ rfl ?_
        refine X_ (fun _ a b=>⟨Vw.sat.sub a.tail,b⟩) ?_
        refine u_ 7 rfl zk ?_
        refine i_ (dl_ ⟨1,Con.atom (.mk k nm lo hi ad cap ps),[],p.atom,[],[],[],0,0,0⟩ frm (Con.rightP.rights frm (Con.atom (.mk k nm lo hi ad cap ps)) (ps.take i) l) q0 hk.2 (by have:=Con.rights_len frm (Con.atom (.mk k nm lo hi ad cap ps)) ps i l;have:=Con.sz_at hp;have:=p.sz_pos;omega)) rfl (.cons _ (@List.perm_append_comm _ [_,_] _)) zt rfl fun x=>?_
        obtain⟨q9,hq9⟩:=x
        refine W_ (@List.perm_append_comm _ _ [_,_]) ?_
        refine j_ ?_
        refine L_ rfl ?_
        refine X_ (fun _ a b=>⟨Vw.sat.sub a,b⟩) ?_
        refine bp_ zk ?_
        refine e_ rfl ?_
        refine d_ ?_
        refine c_ (ch_ (cs:=[rFn bs bk]) hH_ rfl (fun v _ h=>h.2.2.2.1) rfl) rfl ?_
        refine c_ (cK_ 0 w_ g_ rfl rfl) rfl ?_
        refine aM_ (ih p (by have:=Con.sz_part (c:=(.mk k nm lo hi ad cap ps)) hpm;omega) (Con.ok_part (c:=(.mk k nm lo hi ad cap ps)) hok hpm) (Con.fine_part (c:=(.mk k nm lo hi ad cap ps)) hf hpm) (ins frm (Con.rightP.rights frm (Con.atom (.mk k nm lo hi ad cap ps)) (ps.take i) l) ⟨1,Con.atom (.mk k nm lo hi ad cap ps),[],p.atom,[],[],[],0,0,0⟩) q9 hq9 (by have:=Con.rights_len frm (Con.atom (.mk k nm lo hi ad cap ps)) ps i l;have:=Con.sz_at hp;have:=bt_ frm (Con.rightP.rights frm (Con.atom (.mk k nm lo hi ad cap ps)) (ps.take i) l) ⟨1,(Con.atom (.mk k nm lo hi ad cap ps)),[],p.atom,[],[],[],0,0,0⟩;omega)) rfl rfl (@List.perm_append_comm _ [_,_] _) (fun v _ h=>by exact⟨Con.mem_part (c:=(.mk k nm lo hi ad cap ps)) h.1 hpm,h.2⟩) rfl fun x=>?_
        obtain⟨q10,hq10⟩:=x
        refine W_ (@List.perm_append_comm _ _ [_,_]) ?_
        refine j_ ?_
        refine e_ rfl ?_
        refine d_ ?_
        refine c_ (aA_ rfl rfl rfl (be_ (by omega) (by omega))) rfl ?_
        refine c_ (q_ rfl) rfl ?_
        refine j_ ?_
        refine L_ rfl ?_
        exact R_ ⟨(i+1,q10),hlt,by rw[Con.rights_step frm _ hp];exact hq10⟩ (by simp;omega) zl (F:=[_]) (@List.perm_append_comm _ [_] _) zh
end Go.Proofs.YtamklbgaipakfaaGreatDoor
