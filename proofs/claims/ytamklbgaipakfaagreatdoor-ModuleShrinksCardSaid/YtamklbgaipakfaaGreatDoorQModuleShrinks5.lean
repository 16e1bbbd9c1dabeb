/-
  Part of the proof of the law ModuleShrinks over this seat: the small logic, the data, the contracts of functions (no condition).
-/
import Derived.Test.YtamklbgaipakfaaGreatDoorQModuleShrinks4
import Derived.Test.YtamklbgaipakfaaGreatDoorQModuleShrinks2
import Derived.Test.YtamklbgaipakfaaGreatDoorProg
set_option linter.unusedVariables false
set_option linter.unusedSimpArgs false
set_option linter.unusedSectionVars false
set_option maxHeartbeats 1000000
namespace Go.Proofs.YtamklbgaipakfaaGreatDoor
open Go Go.Sx Go.Proofs
attribute [local irreducible] Code.wp wpList wpAnyH
open Go.Vs
def prE:Array MapEntry:=#[⟨.int .i64 1,.func (.func 291) #[] #[],0⟩,⟨.int .i64 2,.func (.func 292) #[] #[],1⟩,⟨.int .i64 3,.func (.func 293) #[] #[],2⟩,⟨.int .i64 4,.func (.func 294) #[] #[],3⟩,⟨.int .i64 5,.func (.func 295) #[] #[],4⟩,⟨.int .i64 6,.func (.func 296) #[] #[],5⟩,⟨.int .i64 7,.func (.func 297) #[] #[],6⟩]
def prF (m:Nat):Fct:=bj_ m (.map prE 7)
def prV (m n:Nat):Value:=.agg #[.map (some m),.map (some n)]
theorem elt39:Elt Tryz.prog 23 9 1 16:=fo_ Tryz.underlying23 (z:=.string ⟨#[]⟩) (by kernel_rfl) rfl (by decide)
theorem te_ {b n cap:Nat} (xs:List Str) (sep:Str) (hn:xs.length=n) {arr:Array Value} {T:TypeId} {fz:Nat×Nat} (hc:∀ (j:Nat) (x:Str),xs[j]? = some x→arr[j]? = some (str x)) (hcap:xs.length≤cap) (hN:xs.length≤1000000) (hlen:(Lib.join xs sep).length≤140737488355328) :
    Tri Tryz.prog 315 #[.slice (some ⟨b,0,none⟩) n cap,str sep] [(b,.cells arr T fz)] [bn_] (fun _:Unit=>str (Lib.join xs sep)) (fun _=>[(b,.cells arr T fz)]) (fun _=>[]):=by
  subst hn
  refine cH_ (callable Tryz.func315 rfl rfl) fun v h1 hs=>?_
  have hb:=(h1.own _ List.mem_cons_self).1
  have e:(xs.map fun x=>(⟨x.toArray⟩:ByteArray)).map (·.data.toList)=xs:=by simp[List.map_map,Function.comp_def]
  have:=Tryz.strings_Join b 0 cap (xs.map fun x=>⟨x.toArray⟩) ⟨sep.toArray⟩ v.w (fun j x hj=>by
    simp only[List.getElem?_map,Option.map_eq_some_iff]at hj
    obtain⟨y,hy,rfl⟩:=hj
    simp only[World.cell?,hb,Nat.zero_add]
    exact hc j y hy) (Array.getElem?_eq_some_iff.1 hb).1 (by simp;omega) (by simpa using hcap) (by rw[e];exact hlen)
  rw[e,List.length_map]at this
  exact this.mono fun _ _ q=>⟨q.1,q.2,.inl hs.1.2.2.2.1⟩
theorem th_ (n:Int) (h0:-9223372036854775808≤n) (h1:n≤9223372036854775807):Tri Tryz.prog 317 #[.int .i64 n] [] [bn_] (fun _:Unit=>str (Lib.itoa n)) (fun _=>[]) (fun _=>[]) :=
  cH_ (callable Tryz.func317 rfl rfl) fun v _ h=>(Tryz.strconv_Itoa n h0 h1 v.w (rj_ h.1.2.2.2)).mono (by
    rintro e w' ⟨rfl,k,os,rfl⟩
    exact⟨rfl,px_ _ _ _,.inr (Nat.le_add_right _ _)⟩)
theorem pG_ {b n:Nat} (xs:List Str) (hn:xs.length=n) {arr:Array Value} {T:TypeId} {fz:Nat×Nat} (hc:∀ (j:Nat) (x:Str),xs[j]? = some x→arr[j]? = some (str x)) (hN:xs.length≤1000000) (hlen:(Lib.join xs [32]).length≤140737488355328) :
    Tri Tryz.prog 316 #[.slice (some ⟨b,0,none⟩) n n] [(b,.cells arr T fz)] [bn_] (fun _:Unit=>str (Lib.join xs [32])) (fun _=>[(b,.cells arr T fz)]) (fun _=>[]):=by
  refine j_ Tryz.func316 rfl rfl Tryz.ntmps316 rfl fun v0=>?_
  refine Zz 8 ?_
  refine d_ (te_ xs [32] hn hc (Nat.le_of_eq hn) hN hlen) rfl (.refl _) (fun v _ h=>h) rfl fun _=>Zz 4 ?_
  exact E_ Tryz.results316 () rfl (F:=[]) (.refl _) zt
theorem pr_top (c:Con) (m n:Nat) (hk:c.kind=1):Tri Tryz.prog 291 #[prV m n,c.val] [] [c.memF,prF m,bn_] (fun _:Unit=>str c.text) (fun _=>[]) (fun _=>[]):=by
  obtain⟨k,nm,lo,hi,ad,cap,ps⟩:=c
  simp only[Con.kind]at hk
  refine j_ Tryz.func291 rfl rfl Tryz.ntmps291 rfl fun v0=>?_
  refine Zz 2 ?_
  refine N_ rfl rfl fun b1=>N_ rfl rfl fun b2=>Zz 9 ?_
  exact E_ Tryz.results291 () (cZ_ rfl (by rw[Con.text_eq];simp[Con.kind,Con.name,hk])) (.refl _) zt
theorem ri_ (c:Con) (m n:Nat) (hk:c.kind=2):Tri Tryz.prog 292 #[prV m n,c.val] [] [c.memF,prF m,bn_] (fun _:Unit=>str c.text) (fun _=>[]) (fun _=>[]):=by
  obtain⟨k,nm,lo,hi,ad,cap,ps⟩:=c
  simp only[Con.kind]at hk
  refine j_ Tryz.func292 rfl rfl Tryz.ntmps292 rfl fun v0=>?_
  refine Zz 2 ?_
  refine N_ rfl rfl fun b1=>N_ rfl rfl fun b2=>Zz 9 ?_
  exact E_ Tryz.results292 () (cZ_ rfl (by rw[Con.text_eq];simp[Con.kind,Con.name,hk])) (.refl _) zt
theorem sD_ (c:Con) (m n:Nat) (hk:c.kind=3):Tri Tryz.prog 293 #[prV m n,c.val] [] [c.memF,prF m,bn_] (fun _:Unit=>str c.text) (fun _=>[]) (fun _=>[]):=by
  obtain⟨k,nm,lo,hi,ad,cap,ps⟩:=c
  simp only[Con.kind]at hk
  refine j_ Tryz.func293 rfl rfl Tryz.ntmps293 rfl fun v0=>?_
  refine Zz 2 ?_
  refine N_ rfl rfl fun b1=>N_ rfl rfl fun b2=>Zz 11 ?_
  exact E_ Tryz.results293 () (cZ_ rfl (by rw[Con.text_eq];simp[Con.kind,Con.name,hk])) (.refl _) zt
theorem oT_ (c:Con) (m n:Nat) (hk:c.kind=4) (hl:c.name.length≤24):Tri Tryz.prog 294 #[prV m n,c.val] [] [c.memF,prF m,bn_] (fun _:Unit=>str c.text) (fun _=>[]) (fun _=>[]):=by
  obtain⟨k,nm,lo,hi,ad,cap,ps⟩:=c
  simp only[Con.kind]at hk
  refine j_ Tryz.func294 rfl rfl Tryz.ntmps294 rfl fun v0=>?_
  simp only[Con.name]at hl
  refine Zz 2 ?_
  refine N_ rfl rfl fun b1=>N_ rfl rfl fun b2=>Zz 7 ?_
  refine c_ (cD_ rfl rfl (by simp[Con.name];omega)) rfl ?_
  refine c_ (cD_ rfl rfl (by simp[Con.name];omega)) rfl ?_
  refine Zz 4 ?_
  exact E_ Tryz.results294 () (cZ_ rfl (by rw[Con.text_eq];simp[Con.kind,Con.name,hk])) (.refl _) zt
theorem oS_ (c:Con) (m n:Nat) (hl:c.text.length≤100000) (hT:Tri Tryz.prog 272 #[prV m n,c.val] [] [c.memF,prF m,bn_] (fun _:Unit=>str c.text) (fun _=>[]) (fun _=>[])):Tri Tryz.prog 314 #[prV m n,c.val] [] [c.memF,prF m,bn_] (fun _:Unit=>str c.operand) (fun _=>[]) (fun _=>[]):=by
 obtain⟨k,nm,lo,hi,ad,cap,ps⟩:=c
 refine j_ Tryz.func314 rfl rfl Tryz.ntmps314 rfl fun v0=>?_
 refine Zz 2 ?_
 refine N_ rfl rfl fun b1=>N_ rfl rfl fun b2=>Zi 8 (fun hr1=>?_) fun hr1=>?_
 ·try dsimp only[Con.kind,Con.parts,Con.name,Con.lo,Con.hi,Con.cap,Con.ad]at hr1
  refine Zz 9 ?_
  refine d_ (hT) rfl (.refl _) (fun v _ h=>h) rfl fun _=>Zz 4 ?_
  exact E_ Tryz.results314 () (cZ_ rfl (by unfold Con.operand;first|exact (if_pos (by assumption)).symm|exact (if_neg (by assumption)).symm)) (.refl _) zt
 try dsimp only[Con.kind,Con.parts,Con.name,Con.lo,Con.hi,Con.cap,Con.ad]at hr1
 refine Zz 7 ?_
 refine d_ (hT) rfl (.refl _) (fun v _ h=>h) rfl fun _=>?_
 refine c_ (cD_ rfl rfl (by simp only[List.length_append,List.length_cons,List.length_nil];omega)) rfl ?_
 refine c_ (cD_ rfl rfl (by simp only[List.length_append,List.length_cons,List.length_nil];omega)) rfl ?_
 refine Zz 4 ?_
 exact E_ Tryz.results314 () (cZ_ rfl (by unfold Con.operand;first|exact (if_pos (by assumption)).symm|exact (if_neg (by assumption)).symm)) (.refl _) zt
theorem fd_ (c:Con) (m n:Nat) {g i:Nat} (hf:cP_ Tryz.prog 3 (.int .i64 c.kind) prE.toList (some (i,.func (.func g) #[] #[]))) (hT:Tri Tryz.prog g #[prV m n,c.val] [] [c.memF,prF m,bn_] (fun _:Unit=>str c.text) (fun _=>[]) (fun _=>[])):Tri Tryz.prog 272 #[prV m n,c.val] [] [c.memF,prF m,bn_] (fun _:Unit=>str c.text) (fun _=>[]) (fun _=>[]):=by
  obtain⟨k,nm,lo,hi,ad,cap,ps⟩:=c
  refine j_ Tryz.func272 rfl rfl Tryz.ntmps272 rfl fun v0=>?_
  refine Zz 2 ?_
  refine N_ rfl rfl fun b1=>N_ rfl rfl fun b2=>Zz 9 ?_
  refine c_ (eo_ cI_ rfl rfl (fun v _ h=>h.2.1.2) (bD_ w_) hf) rfl (Zz 2 ?_)
  refine ax_ (hT) rfl rfl (.refl _) zf rfl fun _=>Zz 4 ?_
  exact E_ Tryz.results272 () rfl (.refl _) zt
theorem ud_:iT_ Tryz.prog 305 [(0,1),(1,1)] [.map none,.map none]:=⟨_,Tryz.zeroValue305,cb_,fun w=>by simp[Tryz.sizeOf302,Tryz.sizeOf303]⟩
theorem ml_:Tri Tryz.prog 271 #[] [] [] (fun q:Nat×Nat=>prV q.1 q.2) (fun _=>[]) (fun q=>[prF q.1]):=by
  refine j_ Tryz.func271 rfl rfl Tryz.ntmps271 rfl fun v0=>?_
  refine Zz 2 ?_
  refine G_ Tryz.zeroValue305 rfl fun b1=>Zz 4 ?_
  refine ds_ rfl fun b2=>aW_ 0 (.inl rfl) cI_ rfl rfl rfl rfl (bD_ w_) (aP_ w_ rfl) (aW_ 0 (.inl rfl) cI_ rfl rfl rfl rfl (bD_ w_) (aP_ w_ rfl) (aW_ 0 (.inl rfl) cI_ rfl rfl rfl rfl (bD_ w_) (aP_ w_ rfl) (aW_ 0 (.inl rfl) cI_ rfl rfl rfl rfl (bD_ w_) (aP_ w_ rfl) (aW_ 0 (.inl rfl) cI_ rfl rfl rfl rfl (bD_ w_) (aP_ w_ rfl) (aW_ 0 (.inl rfl) cI_ rfl rfl rfl rfl (bD_ w_) (aP_ w_ rfl) (aW_ 0 (.inl rfl) cI_ rfl rfl rfl rfl (bD_ w_) (aP_ w_ rfl) (Zz 1 ?_)))))))
  refine ds_ rfl fun b3=>aW_ 0 (.inl rfl) cc_ rfl rfl rfl rfl (bD_ w_) (aP_ w_ rfl) (aW_ 0 (.inl rfl) cc_ rfl rfl rfl rfl (bD_ w_) (aP_ w_ rfl) (aW_ 0 (.inl rfl) cc_ rfl rfl rfl rfl (bD_ w_) (aP_ w_ rfl) (aW_ 0 (.inl rfl) cc_ rfl rfl rfl rfl (bD_ w_) (aP_ w_ rfl) (aW_ 0 (.inl rfl) cc_ rfl rfl rfl rfl (bD_ w_) (aP_ w_ rfl) (aW_ 0 (.inl rfl) cc_ rfl rfl rfl rfl (bD_ w_) (aP_ w_ rfl) (aW_ 0 (.inl rfl) cc_ rfl rfl rfl rfl (bD_ w_) (aP_ w_ rfl) (aW_ 0 (.inl rfl) cc_ rfl rfl rfl rfl (bD_ w_) (aP_ w_ rfl) (aW_ 0 (.inl rfl) cc_ rfl rfl rfl rfl (bD_ w_) (aP_ w_ rfl) (Zz 1 ?_)))))))))
  refine c_ (A_ ud_ rfl rfl) rfl (n_ 2 Tryz.sizeOf305 rfl rfl rfl rfl rfl rfl (Zz 3 ?_))
  refine gB_ 1 rfl ?_
  exact cr_ (b2,b3) (fun a v h1 h2=>dT_ (us:=[_,_]) 1 Tryz.results271 Tryz.isAgg305 Tryz.sizeOf305 rfl rfl rfl a v h1 h2) (.refl _) zf
theorem pr_and (c:Con) (m n:Nat) (hk0:c.kind=5) (hps:2≤c.parts.length∧c.parts.length≤8) (hl:(Lib.join (c.parts.map Con.operand) [32,97,110,100,32]).length≤140737488355328) (hop:∀ p∈c.parts,Tri Tryz.prog 314 #[prV m n,p.val] [] [p.memF,prF m,bn_] (fun _:Unit=>str p.operand) (fun _=>[]) (fun _=>[])):Tri Tryz.prog 295 #[prV m n,c.val] [] [c.memF,prF m,bn_] (fun _:Unit=>str c.text) (fun _=>[]) (fun _=>[]):=by
 obtain⟨k,nm,lo,hi,ad,cap,ps⟩:=c
 simp only[Con.kind,Con.parts]at hk0 hps hl hop
 refine j_ Tryz.func295 rfl rfl Tryz.ntmps295 rfl fun v0=>?_
 refine Zz 2 ?_
 refine N_ rfl rfl fun b1=>N_ rfl rfl fun b2=>Zz 18 ?_
 refine bp_ [(2,zp_ b1 0),(5,.slice none 0 0),(9,.slice ad ps.length cap),(10,.int .i64 (ps.length:Int)),(11,.int .i64 ((0:Nat):Int))] zl ?_
 refine bG_ (ι:={q:Nat×Value×Hp // q.1≤ps.length∧ar_ 9 1 q.2.1 q.1 ((ps.take q.1).flatMap fun p=>aJ_ p.operand) q.2.2}) (fun q=>[(2,zp_ b1 0),(5,q.1.2.1),(9,.slice ad ps.length cap),(10,.int .i64 (ps.length:Int)),(11,.int .i64 (q.1.1:Int))]) (fun q=>_::_::q.1.2.2) (fun _=>_) (fun q=>ps.length - q.1.1) ⟨(0,.slice none 0 0,[]),by simp,ar_.nil _ _⟩ ?_
 rintro ⟨⟨i,sv,Hr⟩,hk⟩
 dsimp only at hk
 refine bp_ [(2,zp_ b1 0),(5,sv),(9,.slice ad ps.length cap),(10,.int .i64 (ps.length:Int)),(11,.int .i64 (i:Int))] zl ?_
 refine Zi 2 (fun hr1=>?_) fun hr1=>?_
 ·try dsimp only[Con.kind,Con.parts,Con.name,Con.lo,Con.hi,Con.cap,Con.ad]at hr1
  obtain rfl:i=ps.length:=by omega
  obtain⟨g,cp,cur,rfl,rfl,h3,h4,h5,h6⟩:=hk.2.some (by omega)
  rw[List.take_length]at h6
  refine Zz 9 ?_
  refine d_ (te_ (ps.map Con.operand) [32,97,110,100,32] (by simp) (le_ (n:=ps.length) (by rw[h6,List.flatMap_map])) (by simpa using h3) (by simp;omega) hl) rfl (@List.perm_append_comm _ [_,_] _) zf rfl fun _=>?_
  refine Zz 4 ?_
  exact E_ Tryz.results295 () (cZ_ rfl (by rw[Con.text_eq];simp[Con.kind,Con.parts,hk0])) (.refl _) zt
 try dsimp only[Con.kind,Con.parts,Con.name,Con.lo,Con.hi,Con.cap,Con.ad]at hr1
 have hlt:i<ps.length:=by omega
 obtain⟨p,hp⟩:∃ p,ps[i]? = some p:=⟨_,List.getElem?_eq_getElem hlt⟩
 have hpm:p∈ps:=List.mem_of_getElem? hp
 refine Zz 10 ?_
 refine c_ (C_ D_ g_ rfl rfl (fun v _ h=>q_ (n:=5) Con.cells_len (by decide) (((Con.mem_iff (.mk k nm lo hi ad cap ps) v).1 h.1).1) hp) (by omega) (by first|omega|(simp only[Con.parts];omega)|(simp[Con.parts];done))) rfl ?_
 refine c_ (L_ (ad:=ad) (us:=p.cells) R_ g_ rfl (fun v _ h=>((Con.mem_iff (.mk k nm lo hi ad cap ps) v).1 h.1).1) (Con.cells_len _) (o_ Con.cells_len hp)) rfl (G_ aC_ rfl fun b3=>ew_ 0 g_ rfl rfl rfl rfl (Zz 5 ?_))
 refine c_ (cw_ 0 R_ g_ rfl rfl) rfl (d_ (hop p hpm) rfl (.refl _) (fun v _ h=>⟨Con.mem_part (c:=(.mk k nm lo hi ad cap ps)) h.1 hpm,h.2.1,h.2.2.1,trivial⟩) rfl fun _=>B_ t_ ah_ aK_ rfl rfl rfl rfl rfl rfl fun b4=>?_)
 refine aX_ elt39 hk.2 rfl rfl (@List.perm_append_comm _ [_,_,_,_] _) rfl (bC_ 0 rfl) (gU_ rfl) (by simp only[maxLen];omega) (by omega) rfl fun sv2 Hr2 hrow=>?_
 refine u_ (@List.perm_append_comm _ _ [_,_,_,_]) (Zz 8 ?_)
 exact z_ ⟨(i+1,sv2,Hr2),hlt,by rw[Con.take_snoc hp,List.flatMap_append];exact hrow⟩ (by simp;omega) zl (F:=[_,_]) (@List.perm_append_comm _ [_,_] _) zh
theorem us_ (c:Con) (m n:Nat) (hk0:c.kind=6) (hps:c.parts.length=1) (hl:c.text.length≤140737488355328) (hop:∀ p∈c.parts,Tri Tryz.prog 314 #[prV m n,p.val] [] [p.memF,prF m,bn_] (fun _:Unit=>str p.operand) (fun _=>[]) (fun _=>[])):Tri Tryz.prog 296 #[prV m n,c.val] [] [c.memF,prF m,bn_] (fun _:Unit=>str c.text) (fun _=>[]) (fun _=>[]):=by
  obtain⟨k,nm,lo,hi,ad,cap,ps⟩:=c
  simp only[Con.kind,Con.parts]at hk0 hps hop
  obtain⟨p,rfl⟩:=List.length_eq_one_iff.1 hps
  have hp:[p][0]? = some p:=rfl
  have hpm:p∈[p]:=List.mem_singleton.2 rfl
  have ht:(Con.mk k nm lo hi ad cap [p]).text=Lib.join [[115,111,109,101],nm,p.operand] [32]:=by rw[Con.text_eq];simp[Con.kind,Con.parts,Con.name,hk0]
  rw[ht]at hl
  refine j_ Tryz.func296 rfl rfl Tryz.ntmps296 rfl fun v0=>?_
  refine Zz 2 ?_
  refine N_ rfl rfl fun b1=>N_ rfl rfl fun b2=>Zz 5 ?_
  refine Q_ 4 [0,1,2,3,4,5,6] zk zs (Zz 5 ?_)
  refine P_ rfl (C_ D_ g_ rfl rfl (fun v _ h=>q_ (n:=5) Con.cells_len (by decide) (((Con.mem_iff (.mk k nm lo hi ad cap [p]) v).1 h.1).1) hp) (by omega) (by first|omega|(simp only[Con.parts];omega)|(simp[Con.parts];done))) rfl ?_
  refine P_ rfl (L_ (ad:=ad) (us:=p.cells) R_ g_ rfl (fun v _ h=>((Con.mem_iff (.mk k nm lo hi ad cap [p]) v).1 h.1).1) (Con.cells_len _) (o_ Con.cells_len hp)) rfl (ba_ (p_ 7 rfl zk (d_ (hop p hpm) rfl (.refl _) (fun v _ h=>⟨Con.mem_part (c:=.mk k nm lo hi ad cap [p]) h.1 hpm,h.2.1,h.2.2.1,trivial⟩) rfl fun _=>Zz 3 ?_)))
  refine p_ 8 rfl zk (B_ t_ ah_ aK_ rfl rfl rfl rfl rfl rfl fun b3=>Zz 3 ?_)
  refine p_ 9 rfl zk (d_ (pG_ [[115,111,109,101],nm,p.operand] rfl (pN_ _) (by simp) hl) rfl (.refl _) zf rfl fun _=>Zz 3 ?_)
  refine Q_ 0 [10] zk zs (Zz 5 ?_)
  exact E_ Tryz.results296 () (cZ_ rfl ht.symm) (.refl _) zt
theorem ur_ (c:Con) (m n:Nat) (hk0:c.kind=7) (hok:c.ok) (hl:c.text.length≤140737488355328):Tri Tryz.prog 297 #[prV m n,c.val] [] [c.memF,prF m,bn_] (fun _:Unit=>str c.text) (fun _=>[]) (fun _=>[]):=by
  obtain⟨k,nm,lo,hi,ad,cap,ps⟩:=c
  simp only[Con.kind]at hk0
  obtain⟨_,_,_,l1,l2,h1,h2,_⟩:=hok
  have ht:(Con.mk k nm lo hi ad cap ps).text=Lib.join [nm,[105,110],Lib.itoa lo,[116,111],Lib.itoa hi] [32]:=by rw[Con.text_eq];simp[Con.kind,Con.name,Con.lo,Con.hi,hk0]
  rw[ht]at hl
  refine j_ Tryz.func297 rfl rfl Tryz.ntmps297 rfl fun v0=>?_
  refine Zz 2 ?_
  refine N_ rfl rfl fun b1=>N_ rfl rfl fun b2=>Zz 5 ?_
  refine Q_ 5 [0,1,2,3,5,6] zk zs (Zz 7 ?_)
  refine p_ 4 rfl zk (d_ (th_ _ l1 l2) rfl (.refl _) zf rfl fun _=>Zz 3 ?_)
  refine p_ 7 rfl zk (d_ (th_ _ h1 h2) rfl (.refl _) zf rfl fun _=>Zz 3 ?_)
  refine p_ 8 rfl zk (B_ t_ ah_ aK_ rfl rfl rfl rfl rfl rfl fun b3=>Zz 3 ?_)
  refine p_ 9 rfl zk (d_ (pG_ [nm,[105,110],Lib.itoa lo,[116,111],Lib.itoa hi] rfl (pN_ _) (by simp) hl) rfl (.refl _) zf rfl fun _=>Zz 3 ?_)
  refine Q_ 0 [10] zk zs (Zz 5 ?_)
  exact E_ Tryz.results297 () (cZ_ rfl ht.symm) (.refl _) zt
theorem uq_ (m n:Nat):∀ (d:Nat) (c:Con),c.sz≤d→c.sz≤64→c.ok→c.fine→Tri Tryz.prog 272 #[prV m n,c.val] [] [c.memF,prF m,bn_] (fun _:Unit=>str c.text) (fun _=>[]) (fun _=>[]):=by
 intro d
 induction d with
 | zero=>intro c h;have:=c.sz_pos;omega
 | succ d ih =>
   intro c hd h64 hok hf
   have F:=Con.fields hf
   have hl:=Con.text_len _ c (Nat.le_refl _) hok hf
   have hop:∀ p∈c.parts,Tri Tryz.prog 314 #[prV m n,p.val] [] [p.memF,prF m,bn_] (fun _:Unit=>str p.operand) (fun _=>[]) (fun _=>[]):=fun p hp=>by
     have hz:=Con.sz_part hp
     have hl:=Con.text_len _ p (Nat.le_refl _) (Con.ok_part hok hp) (Con.fine_part hf hp)
     exact oS_ p m n (by omega) (ih p (by omega) (by omega) (Con.ok_part hok hp) (Con.fine_part hf hp))
   have h1:=F.k1
   have h7:=F.k7
   have hm:=F.mo
   have he:=F.le
   have hk:c.kind=1∨c.kind=2∨c.kind=3∨c.kind=4∨c.kind=5∨c.kind=6∨c.kind=7:=by omega
   rcases hk with hk|hk|hk|hk|hk|hk|hk
   · exact fd_ c m n (by rw[hk];exact aP_ w_ rfl) (pr_top c m n hk)
   · exact fd_ c m n (by rw[hk];exact aP_ w_ rfl) (ri_ c m n hk)
   · exact fd_ c m n (by rw[hk];exact aP_ w_ rfl) (sD_ c m n hk)
   · exact fd_ c m n (by rw[hk];exact aP_ w_ rfl) (oT_ c m n hk F.nm)
   · have ht:c.text=Lib.join (c.parts.map Con.operand) [32,97,110,100,32]:=by rw[Con.text_eq];simp[hk]
     rw[hk]at hm he
     simp[nd,dL_]at hm he
     exact fd_ c m n (by rw[hk];exact aP_ w_ rfl) (pr_and c m n hk ⟨by omega,by omega⟩ (by rw[← ht];omega) hop)
   · rw[hk]at hm he
     simp[nd,dL_]at hm he
     exact fd_ c m n (by rw[hk];exact aP_ w_ rfl) (us_ c m n hk (by omega) (by omega) hop)
   · exact fd_ c m n (by rw[hk];exact aP_ w_ rfl) (ur_ c m n hk hok (by omega))
end Go.Proofs.YtamklbgaipakfaaGreatDoor
namespace Go.Proofs.YtamklbgaipakfaaGreatDoor
open Go Go.Sx Go.Proofs
attribute [local irreducible] Code.wp wpList wpAnyH
open Go.Vs
theorem nE_ (c:Con) (hok:c.ok):Tri Tryz.prog 248 #[c.val] [] [c.memF,bn_] (fun _:Unit=>.tuple #[str c.textN,.int .i64 c.check]) (fun _=>[]) (fun _=>[]):=by
 obtain⟨k,nm,lo,hi,ad,cap,ps⟩:=c
 refine j_ Tryz.func248 rfl rfl Tryz.ntmps248 rfl fun v0=>?_
 refine Zz 2 ?_
 refine N_ rfl rfl fun b1=>Zz 8 ?_
 refine d_ (el_ (.mk k nm lo hi ad cap ps) hok) rfl (.refl _) zf rfl fun _=>Zi 6 (fun hr1=>?_) fun hr1=>?_
 ·try dsimp only[Con.kind,Con.parts,Con.name,Con.lo,Con.hi,Con.cap,Con.ad]at hr1
  obtain⟨hfine,h64⟩:=Con.check_zero hr1
  refine Zz 7 ?_
  refine Q_ 4 [1] zk zs (Zz 2 ?_)
  refine p_ 0 rfl zk (d_ (ml_) rfl (.refl _) zt rfl fun q=>Zz 3 ?_)
  refine p_ 2 rfl zk (d_ (uq_ q.1 q.2 _ (.mk k nm lo hi ad cap ps) (Nat.le_refl _) h64 hok hfine) rfl (.refl _) zf rfl fun _=>Zz 3 ?_)
  refine Q_ 0 [3,4] zk zs (Zz 6 ?_)
  exact fr_ Tryz.results248 () rfl rfl (by simp[Con.textN, *]<;>rfl) (.refl _) zt
 try dsimp only[Con.kind,Con.parts,Con.name,Con.lo,Con.hi,Con.cap,Con.ad]at hr1
 refine Zz 11 ?_
 exact fr_ Tryz.results248 () rfl rfl (by simp[Con.textN, *]<;>rfl) (.refl _) zt
theorem mn_ (c:Con) (hok:c.ok):Tri Tryz.prog 195 #[c.val] [] [c.memF,bn_] (fun _:Unit=>str c.textN) (fun _=>[]) (fun _=>[]):=by
  obtain⟨k,nm,lo,hi,ad,cap,ps⟩:=c
  refine j_ Tryz.func195 rfl rfl Tryz.ntmps195 rfl fun v0=>?_
  refine Zz 2 ?_
  refine N_ rfl rfl fun b1=>Zz 6 ?_
  refine d_ (nE_ (.mk k nm lo hi ad cap ps) hok) rfl (.refl _) (fun v _ h=>h) rfl fun _=>Zz 14 ?_
  exact E_ Tryz.results195 () rfl (.refl _) zt
theorem kl_ (c:Con) (hok:c.ok):Tri Tryz.prog 112 #[c.val] [] [c.memF,bn_] (fun _:Unit=>str c.operandN) (fun _=>[]) (fun _=>[]):=by
 obtain⟨k,nm,lo,hi,ad,cap,ps⟩:=c
 refine j_ Tryz.func112 rfl rfl Tryz.ntmps112 rfl fun v0=>?_
 refine Zz 2 ?_
 refine N_ rfl rfl fun b1=>Zi 8 (fun hr1=>?_) fun hr1=>?_
 ·try dsimp only[Con.kind,Con.parts,Con.name,Con.lo,Con.hi,Con.cap,Con.ad]at hr1
  refine Zz 8 ?_
  refine d_ (mn_ (.mk k nm lo hi ad cap ps) hok) rfl (.refl _) (fun v _ h=>h) rfl fun _=>Zz 4 ?_
  exact E_ Tryz.results112 () (cZ_ rfl (by unfold Con.operandN;simp only[Con.kind,Con.name]at *;simp[*])) (.refl _) zt
 try dsimp only[Con.kind,Con.parts,Con.name,Con.lo,Con.hi,Con.cap,Con.ad]at hr1
 refine Zz 6 ?_
 refine d_ (mn_ (.mk k nm lo hi ad cap ps) hok) rfl (.refl _) (fun v _ h=>h) rfl fun _=>?_
 refine c_ (cD_ rfl rfl (by have:=Con.textN_len hok;simp only[List.length_append,List.length_cons,List.length_nil];omega)) rfl ?_
 refine c_ (cD_ rfl rfl (by have:=Con.textN_len hok;simp only[List.length_append,List.length_cons,List.length_nil];omega)) rfl ?_
 refine Zz 4 ?_
 exact E_ Tryz.results112 () (cZ_ rfl (by unfold Con.operandN;simp only[Con.kind,Con.name]at *;simp[*])) (.refl _) zt
theorem ca_ (s:Str) (hs:s.length≤140737488351232) :
    Fn0 Tryz.prog 114 #[str s] (str ([123]++s++[125])):=by
  refine j_ Tryz.func114 rfl rfl Tryz.ntmps114 rfl fun v0=>?_
  refine Zz 8 ?_
  refine c_ (cD_ rfl rfl (by simp;omega)) rfl ?_
  refine c_ (cD_ rfl rfl (by simp;omega)) rfl ?_
  refine Zz 4 ?_
  exact E_ Tryz.results114 () rfl (.refl _) zt
theorem bM_ (c:Con) (hok:c.ok):Tri Tryz.prog 110 #[c.val] [] [c.memF,bn_] (fun _:Unit=>str c.atom) (fun _=>[]) (fun _=>[]):=by
 obtain⟨k,nm,lo,hi,ad,cap,ps⟩:=c
 refine j_ Tryz.func110 rfl rfl Tryz.ntmps110 rfl fun v0=>?_
 refine Zz 2 ?_
 refine N_ rfl rfl fun b1=>Zi 13 (fun hr1=>?_) fun hr1=>?_
 ·try dsimp only[Con.kind,Con.parts,Con.name,Con.lo,Con.hi,Con.cap,Con.ad]at hr1
  refine Zi 6 (fun hr2=>?_) fun hr2=>?_
  ·try dsimp only[Con.kind,Con.parts,Con.name,Con.lo,Con.hi,Con.cap,Con.ad]at hr2
   refine Zi 6 (fun hr3=>?_) fun hr3=>?_
   ·try dsimp only[Con.kind,Con.parts,Con.name,Con.lo,Con.hi,Con.cap,Con.ad]at hr3
    refine Zi 6 (fun hr4=>?_) fun hr4=>?_
    ·try dsimp only[Con.kind,Con.parts,Con.name,Con.lo,Con.hi,Con.cap,Con.ad]at hr4
     refine Zz 9 ?_
     refine d_ (mn_ (.mk k nm lo hi ad cap ps) hok) rfl (.refl _) (fun v _ h=>h) rfl fun _=>?_
     refine c_ (cD_ rfl rfl (by have:=Con.textN_len hok;simp only[List.length_append,List.length_cons,List.length_nil];omega)) rfl ?_
     refine c_ (cD_ rfl rfl (by have:=Con.textN_len hok;simp only[List.length_append,List.length_cons,List.length_nil];omega)) rfl ?_
     refine Zz 4 ?_
     exact E_ pU_ () (cZ_ rfl (by unfold Con.atom;simp only[Con.kind,Con.name]at *;simp[*])) (.refl _) zt
    try dsimp only[Con.kind,Con.parts,Con.name,Con.lo,Con.hi,Con.cap,Con.ad]at hr4
    refine Zz 8 ?_
    refine d_ (ca_ nm (Con.ok_name hok)) rfl (.refl _) zt rfl fun _=>Zz 4 ?_
    exact E_ pU_ () (cZ_ rfl (by unfold Con.atom;simp only[Con.kind,Con.name]at *;simp[*])) (.refl _) zt
   try dsimp only[Con.kind,Con.parts,Con.name,Con.lo,Con.hi,Con.cap,Con.ad]at hr3
   refine Zz 12 ?_
   exact E_ pU_ () (cZ_ rfl (by unfold Con.atom;simp only[Con.kind,Con.name]at *;simp[*])) (.refl _) zt
  try dsimp only[Con.kind,Con.parts,Con.name,Con.lo,Con.hi,Con.cap,Con.ad]at hr2
  refine Zz 10 ?_
  exact E_ pU_ () (cZ_ rfl (by unfold Con.atom;simp only[Con.kind,Con.name]at *;simp[*])) (.refl _) zt
 try dsimp only[Con.kind,Con.parts,Con.name,Con.lo,Con.hi,Con.cap,Con.ad]at hr1
 refine Zz 10 ?_
 exact E_ pU_ () (cZ_ rfl (by unfold Con.atom;simp only[Con.kind,Con.name]at *;simp[*])) (.refl _) zt
end Go.Proofs.YtamklbgaipakfaaGreatDoor
namespace Go.Proofs.YtamklbgaipakfaaGreatDoor
open Go Go.Sx Go.Proofs
attribute [local irreducible] Code.wp wpList wpAnyH
open Go.Vs
theorem eqPc (p q:Pc) (w:World):(Op.equalIn 10000 58 p.val q.val).run Tryz.prog w=.ok (decide (p=q)) w:=by
  have h:=run_equalIn_struct (P:=Tryz.prog) w 9999 58 p.cells.toArray q.cells.toArray (by simp only[Program.fieldsOf,gq_]) Tryz.stoodInHeld58
  refine h.trans ?_
  rw[← Pc.eqb_eq]
  simp only[Program.fieldsOf,gq_]
  exact dp_ rfl aZ_ rfl rfl (eqI w_ w) (dp_ rfl aL_ rfl rfl (eqS cm_ w) (dp_ rfl aL_ rfl rfl (eqS cm_ w) (dp_ rfl aL_ rfl rfl (eqS cm_ w) (dp_ rfl aL_ rfl rfl (eqS cm_ w) (dp_ rfl aL_ rfl rfl (eqS cm_ w) (dp_ rfl aL_ rfl rfl (eqS cm_ w) (dp_ rfl aZ_ rfl rfl (eqI w_ w) (dp_ rfl aZ_ rfl rfl (eqI w_ w) (dp_ rfl aZ_ rfl rfl (eqI w_ w) (qr_ w))))))))))
theorem td_ (p:Pc):ji_ Tryz.prog 58 p.val:=fun e w=>by
 have hi:∀ (n:Int) (w:World),(Instr.checkKey e (9998+1) 3 (.int .i64 n)).run Tryz.prog w=.ok () w:=fun n w=>MapKept.run_checkKey (d:=.int .i64) w_ (by simp[MapKept.IsKey]) e 9998
 have hs:∀ (n:Str) (w:World),(Instr.checkKey e (9998+1) 9 (str n)).run Tryz.prog w=.ok () w:=fun n w=>MapKept.run_checkKey (d:=.string) cm_ (by simp[MapKept.IsKey,str]) e 9998
 refine ckF (n:=9999) gq_ fun f hf=>?_
 simp only[List.mem_cons,List.not_mem_nil,or_false]at hf
 rcases hf with rfl|rfl|rfl|rfl|rfl|rfl|rfl|rfl|rfl|rfl
 ·exact⟨rfl,aZ_,_,rfl,hi _⟩
 ·exact⟨rfl,aL_,_,rfl,hs _⟩
 ·exact⟨rfl,aL_,_,rfl,hs _⟩
 ·exact⟨rfl,aL_,_,rfl,hs _⟩
 ·exact⟨rfl,aL_,_,rfl,hs _⟩
 ·exact⟨rfl,aL_,_,rfl,hs _⟩
 ·exact⟨rfl,aL_,_,rfl,hs _⟩
 ·exact⟨rfl,aZ_,_,rfl,hi _⟩
 ·exact⟨rfl,aZ_,_,rfl,hi _⟩
 exact⟨rfl,aZ_,_,rfl,hi _⟩
theorem tw_:Elt Tryz.prog 54 58 10 128:=fo_ Tryz.underlying54 (z:=.agg (Pc.mk 0 [] [] [] [] [] [] 0 0 0).cells.toArray) (by kernel_rfl) rfl (by decide)
theorem cR_:iT_ Tryz.prog 58 [(0,1),(1,1),(2,1),(3,1),(4,1),(5,1),(6,1),(7,1),(8,1),(9,1)] [.int .i64 0,str [],str [],str [],str [],str [],str [],.int .i64 0,.int .i64 0,.int .i64 0]:=⟨_,ao_,bS_,fun w=>by simp[U_,ah_]⟩
theorem sl_:iT_ Tryz.prog 67 [(0,1),(1,1),(2,1),(3,1),(4,1),(5,1)] [.int .i64 0,str [],str [],str [],.int .i64 0,.int .i64 0]:=⟨_,dt_,Tryz.runUnderlying67,fun w=>by simp[U_,ah_]⟩
end Go.Proofs.YtamklbgaipakfaaGreatDoor
namespace Go.Proofs.YtamklbgaipakfaaGreatDoor
open Go Go.Sx Go.Proofs
attribute [local irreducible] Code.wp wpList wpAnyH
open Go.Vs
structure CS where
  sv:Value
  bm:Nat
  es:Array MapEntry
  clk:Nat
  Hr:Hp
def eI_ (kb:Nat) (frm:Int) (q:CS):Hp:=(kb,.cells #[.int .i64 frm,q.sv,.map (some q.bm)] 114 (0,0))::(q.bm,.map q.es q.clk)::q.Hr
structure CInv (l:List Pc) (q:CS):Prop where
  row:ar_ 58 10 q.sv l.length (l.flatMap Pc.cells) q.Hr
  keys:q.es.toList.map (·.key)=l.map Pc.val
  vals:∀ x∈q.es.toList,x.val=.bool true
theorem CInv.push {l:List Pc} {p:Pc} {sv sv2:Value} {bm clk:Nat} {es:Array MapEntry} {Hr Hr2:Hp} (h:CInv l ⟨sv,bm,es,clk,Hr⟩) (hr:ar_ 58 10 sv2 (l.length+1) (l.flatMap Pc.cells++p.cells) Hr2):CInv (l++[p]) ⟨sv2,bm,es.push ⟨p.val,.bool true,clk⟩,clk+1,Hr2⟩:=by
 refine⟨?_,?_,?_⟩
 ·simpa [List.flatMap_append] using hr
 ·have:=h.keys
  simp only at this
  simp[this]
 intro x hx
 simp only[Array.toList_push,List.mem_append,List.mem_singleton]at hx
 rcases hx with hx|rfl
 ·exact h.vals x hx
 rfl
theorem cU_ (p:Pc) {kb bn:Nat} (frm:Int) (l:List Pc) (q:CS) (hq:CInv l q) (hlen:l.length≤100000) :
    Tri Tryz.prog 113 #[zp_ kb 0,.slice (some ⟨bn,0,none⟩) 1 1] ((bn,.cells p.cells.toArray 58 (0,0))::eI_ kb frm q) [] (fun _:{q':CS // CInv (ins frm l p) q'}=>.tuple #[]) (fun q'=>eI_ kb frm q'.1) (fun _=>[]):=by
  obtain⟨k,a,b,c,r,s,t,lo,hi,f⟩:=p
  obtain⟨sv,bm,es,clk,Hr⟩:=q
  refine j_ Tryz.func113 rfl rfl Tryz.ntmps113 rfl fun v0=>?_
  refine Zz 8 ?_
  refine bp_ [(0,zp_ kb 0),(6,.slice (some ⟨bn,0,none⟩) 1 1),(7,.int .i64 1),(8,.int .i64 ((0:Nat):Int))] zl ?_
  refine bG_ (ι:={x:Nat×CS // (x.1=0∧x.2=⟨sv,bm,es,clk,Hr⟩)∨(x.1=1∧CInv (ins frm l ⟨k,a,b,c,r,s,t,lo,hi,f⟩) x.2)}) (fun x=>[(0,zp_ kb 0),(6,.slice (some ⟨bn,0,none⟩) 1 1),(7,.int .i64 1),(8,.int .i64 (x.1.1:Int))]) (fun x=>_::eI_ kb frm x.1.2) (fun _=>_) (fun x=>1 - x.1.1) ⟨(0,⟨sv,bm,es,clk,Hr⟩),.inl ⟨rfl,rfl⟩⟩ ?_
  rintro ⟨⟨i,q1⟩,hk⟩
  dsimp only at hk
  rcases hk with⟨rfl,rfl⟩|⟨rfl,hc⟩
  · skip
    refine bp_ [(0,zp_ kb 0),(6,.slice (some ⟨bn,0,none⟩) 1 1),(7,.int .i64 1),(8,.int .i64 0)] zl ?_
    refine Zi 2 (fun hr1=>?_) fun hr1=>?_
    · skip
      try dsimp only[Con.kind,Con.parts,Con.name,Con.lo,Con.hi,Con.cap,Con.ad]at hr1
      exact absurd (by decide) hr1
    · skip
      try dsimp only[Con.kind,Con.parts,Con.name,Con.lo,Con.hi,Con.cap,Con.ad]at hr1
      refine Zz 10 ?_
      refine c_ (gN_ x_ aw_ rfl rfl (by decide) (by decide)) rfl (Zz 1 ?_)
      refine G_ ao_ rfl fun b1=>n_ 0 aw_ rfl rfl rfl rfl rfl rfl (Zz 9 ?_)
      refine n_ 0 U_ rfl rfl rfl rfl rfl rfl (Zz 3 ?_)
      by_cases hm:(⟨k,a,b,c,r,s,t,lo,hi,frm⟩:Pc)∈l
      · skip
        obtain⟨j,hf⟩:=(gb_ gq_ (fun p q w=>eqPc p q w) (⟨k,a,b,c,r,s,t,lo,hi,frm⟩:Pc) l es.toList hq.keys).2 hm hq.vals
        refine Zz 1 ?_
        refine Q_ 0 [0,1,2,3,4,5,6] zk zs (Zz 5 ?_)
        refine P_ rfl (eo_ Tryz.runUnderlying112 rfl rfl (fun v h _=>(h.own _ (List.mem_of_getElem? (i:=3) rfl)).1) (td_ (⟨k,a,b,c,r,s,t,lo,hi,frm⟩:Pc)) hf) rfl (P_ rfl (aG_ rfl) rfl (Zz 11 ?_))
        exact z_ ⟨(1,⟨sv,bm,es,clk,Hr⟩),.inr ⟨rfl,by simp only[ins,if_pos hm];exact hq⟩⟩ Nat.zero_lt_one zl (F:=[_]) (@List.perm_append_comm _ [_] _) zh
      · skip
        have hf:=(gb_ gq_ (fun p q w=>eqPc p q w) (⟨k,a,b,c,r,s,t,lo,hi,frm⟩:Pc) l es.toList hq.keys).1 hm
        refine Zz 1 ?_
        refine Q_ 0 [0,1,2,3,4,5,6] zk zs (Zz 5 ?_)
        refine P_ rfl (eP_ Tryz.runUnderlying112 fL_ rfl rfl (fun v h _=>(h.own _ (List.mem_of_getElem? (i:=3) rfl)).1) (td_ (⟨k,a,b,c,r,s,t,lo,hi,frm⟩:Pc)) hf) rfl (P_ rfl (aG_ rfl) rfl (Zz 5 ?_))
        refine bf_ [(b1,.cells #[.int .i64 k,str a,str b,str c,str r,str s,str t,.int .i64 lo,.int .i64 hi,.int .i64 frm] 58 (0,0)),(bn,.cells #[.int .i64 k,str a,str b,str c,str r,str s,str t,.int .i64 lo,.int .i64 hi,.int .i64 f] 58 (0,0)),(kb,.cells #[.int .i64 frm,sv,.map (some bm)] 114 (0,0))] zk ?_
        refine Q_ 1 [0,1,2,3,4] zk (fun _ a b=>⟨Vw.sat.sub a,b⟩) (Zz 6 ?_)
        refine p_ 5 rfl zk (aW_ 3 (.inr rfl) Tryz.runUnderlying112 rfl rfl rfl rfl (td_ (⟨k,a,b,c,r,s,t,lo,hi,frm⟩:Pc)) hf (Zz 2 ?_))
        refine S_ (fun _ a b=>⟨Vw.sat.sub a,b⟩) (Zz 2 ?_)
        refine bf_ [(b1,.cells #[.int .i64 k,str a,str b,str c,str r,str s,str t,.int .i64 lo,.int .i64 hi,.int .i64 frm] 58 (0,0))] zk ?_
        refine Q_ 6 [0,1,2,3,5] zk (fun _ a b=>⟨Vw.sat.sub a,b⟩) (Zz 6 ?_)
        refine jD_ 4 6 rfl rfl zk ?_ ?_
        · skip
          refine Zz 3 ?_
          refine S_ (fun _ a b=>⟨Vw.sat.sub a,b⟩) (p_ 6 rfl zk (B_ x_ aw_ ao_ rfl rfl rfl rfl rfl rfl fun b2=>Zz 2 ?_))
          refine S_ (fun _ a b=>⟨Vw.sat.sub a.tail,b⟩) (p_ 7 rfl zk (aX_ (news:=Pc.cells (⟨k,a,b,c,r,s,t,lo,hi,frm⟩:Pc)) tw_ hq.row rfl rfl (@List.perm_append_comm _ [_,_,_,_,_] _) rfl (bC_ 0 rfl) (gU_ rfl) (by simp only[maxLen];omega) (by omega) rfl fun sv2 Hr2 hrow=>?_))
          refine u_ (@List.perm_append_comm _ _ [_,_,_,_,_]) ?_
          obtain⟨g2,cp2,cur2,rfl,rfl,hr2⟩:=hrow.some (by omega)
          refine Zz 2 ?_
          refine S_ (fun _ a b=>⟨Vw.sat.sub a.tail,b⟩) (Q_ 1 [8,9] zk (fun _ a b=>⟨Vw.sat.sub a.tail,b⟩) (Zz 3 ?_))
          refine p_ 10 rfl zk (n_ 3 fx_ rfl rfl rfl rfl rfl rfl (Zz 2 ?_))
          refine S_ (fun _ a b=>⟨Vw.sat.sub a.tail,b⟩) (Zz 7 ?_)
          exact z_ ⟨(1,⟨.slice (some ⟨g2,0,none⟩) (l.length+1) cp2,bm,es.push ⟨Pc.val (⟨k,a,b,c,r,s,t,lo,hi,frm⟩:Pc),.bool true,clk⟩,clk+1,[(g2,.cells cur2 58 (0,0))]⟩),.inr ⟨rfl,by simp only[ins,if_neg hm];exact hq.push hrow⟩⟩ Nat.zero_lt_one zl (F:=[_,_]) (@List.perm_append_comm _ [_,_] _) zh
        · skip
          refine B_ x_ aw_ ao_ rfl rfl rfl rfl rfl rfl fun b3=>Zz 2 ?_
          refine S_ (fun _ a b=>⟨Vw.sat.sub a.tail,b⟩) (p_ 4 rfl zk (Zz 3 ?_))
          refine S_ (fun _ a b=>⟨Vw.sat.sub a.tail,b⟩) (p_ 7 rfl zk (aX_ (news:=Pc.cells (⟨k,a,b,c,r,s,t,lo,hi,frm⟩:Pc)) tw_ hq.row rfl rfl (@List.perm_append_comm _ [_,_,_,_,_] _) rfl (bC_ 0 rfl) (gU_ rfl) (by simp only[maxLen];omega) (by omega) rfl fun sv2 Hr2 hrow=>?_))
          refine u_ (@List.perm_append_comm _ _ [_,_,_,_,_]) ?_
          obtain⟨g2,cp2,cur2,rfl,rfl,hr2⟩:=hrow.some (by omega)
          refine Zz 2 ?_
          refine S_ (fun _ a b=>⟨Vw.sat.sub a.tail,b⟩) (Q_ 1 [8,9] zk (fun _ a b=>⟨Vw.sat.sub a.tail,b⟩) (Zz 3 ?_))
          refine p_ 10 rfl zk (n_ 3 fx_ rfl rfl rfl rfl rfl rfl (Zz 2 ?_))
          refine S_ (fun _ a b=>⟨Vw.sat.sub a.tail,b⟩) (Zz 7 ?_)
          exact z_ ⟨(1,⟨.slice (some ⟨g2,0,none⟩) (l.length+1) cp2,bm,es.push ⟨Pc.val (⟨k,a,b,c,r,s,t,lo,hi,frm⟩:Pc),.bool true,clk⟩,clk+1,[(g2,.cells cur2 58 (0,0))]⟩),.inr ⟨rfl,by simp only[ins,if_neg hm];exact hq.push hrow⟩⟩ Nat.zero_lt_one zl (F:=[_,_]) (@List.perm_append_comm _ [_,_] _) zh
  · skip
    refine bp_ [(0,zp_ kb 0),(6,.slice (some ⟨bn,0,none⟩) 1 1),(7,.int .i64 1),(8,.int .i64 1)] zl ?_
    refine Zi 2 (fun hr2=>?_) fun hr2=>?_
    · skip
      try dsimp only[Con.kind,Con.parts,Con.name,Con.lo,Con.hi,Con.cap,Con.ad]at hr2
      refine Zz 6 ?_
      exact dS_ Tryz.results113 ⟨q1,hc⟩ rfl (F:=[_]) (@List.perm_append_comm _ [_] _) zt
    · skip
      try dsimp only[Con.kind,Con.parts,Con.name,Con.lo,Con.hi,Con.cap,Con.ad]at hr2
      exact absurd hr2 (by decide)
end Go.Proofs.YtamklbgaipakfaaGreatDoor
namespace Go.Proofs.YtamklbgaipakfaaGreatDoor
open Go Go.Sx Go.Proofs
attribute [local irreducible] Code.wp wpList wpAnyH
open Go.Vs
theorem ug_:iT_ Tryz.prog 114 [(0,1),(1,1),(2,1)] [.int .i64 0,.slice none 0 0,.map none]:=⟨_,Tryz.zeroValue114,bL_,fun w=>by simp[U_,fx_,Tryz.sizeOf112]⟩
theorem gC_ (frm:Int):Tri Tryz.prog 66 #[.int .i64 frm] [] [] (fun x:Nat×Nat=>zp_ x.1 0) (fun x=>eI_ x.1 frm ⟨.slice none 0 0,x.2,#[],0,[]⟩) (fun _=>[]):=by
  refine j_ Tryz.func66 rfl rfl Tryz.ntmps66 rfl fun v0=>?_
  refine Zz 8 ?_
  refine ds_ rfl fun b1=>c_ (A_ ug_ rfl rfl) rfl (N_ rfl rfl fun b2=>Zz 4 ?_)
  exact E_ Tryz.results66 (b2,b1) rfl (F:=[]) (.refl _) zt
def kF (b kb:Nat):Fct:=bj_ b (.cells [zp_ kb 0].toArray 109 (0,0))
def lFn (b bk:Nat):Value:=.func (.func 193) #[] #[zp_ b 0,zp_ bk 0]
def lF (b bk:Nat):Fct:=bj_ b (.cells [lFn b bk].toArray 170 (0,0))
def rFn (b bk:Nat):Value:=.func (.func 194) #[] #[zp_ bk 0,zp_ b 0]
def rcF (b bk:Nat):Fct:=bj_ b (.cells [rFn b bk].toArray 170 (0,0))
theorem pP_ (kb:Nat):Tri Tryz.prog 108 #[zp_ kb 0] [] [] (fun x:Nat×Nat×Nat=>.tuple #[lFn x.2.1 x.1,rFn x.2.2 x.1]) (fun _=>[]) (fun x=>[kF x.1 kb,lF x.2.1 x.1,rcF x.2.2 x.1]):=by
  refine j_ Tryz.func108 rfl rfl Tryz.ntmps108 rfl fun v0=>?_
  refine Zz 2 ?_
  refine N_ rfl rfl fun b1=>G_ Tryz.zeroValue170 rfl fun b2=>G_ Tryz.zeroValue170 rfl fun b3=>Zz 4 ?_
  refine c_ (dw_ rfl rfl) rfl (n_ 1 Tryz.sizeOf170 rfl rfl rfl rfl rfl rfl (Zz 4 ?_))
  refine c_ (dw_ rfl rfl) rfl (n_ 0 Tryz.sizeOf170 rfl rfl rfl rfl rfl rfl (Zz 4 ?_))
  refine Q_ 2 [0,1] zk zs (Zz 3 ?_)
  refine p_ 2 rfl zk (n_ 1 Tryz.sizeOf170 rfl rfl rfl rfl rfl rfl (Zz 3 ?_))
  refine p_ 3 rfl zk (n_ 0 Tryz.sizeOf170 rfl rfl rfl rfl rfl rfl (Zz 6 ?_))
  refine gB_ 0 rfl ?_
  refine gB_ 0 rfl ?_
  refine gB_ 0 rfl ?_
  exact retG (b1,b2,b3) (fun a v h1 h2 h=>um_ Tryz.results108 hH_ hH_ h1 rfl rfl (kj_ (cs:=[lFn b2 b1]) 0 h.2.1 rfl) (kj_ (cs:=[rFn b3 b1]) 0 h.2.2.1 rfl)) (F:=[]) (.refl _) zf
end Go.Proofs.YtamklbgaipakfaaGreatDoor
namespace Go.Proofs.YtamklbgaipakfaaGreatDoor
open Go Go.Sx Go.Proofs
attribute [local irreducible] Code.wp wpList wpAnyH
open Go.Vs
theorem Con.mem_tail {c:Con} (hok:c.ok) {v:Vw} (h:c.mem v):bA_ v (sad c.ad c.cap 1 5) ((c.parts.drop 1).flatMap Con.cells):=by
  have:=((Con.mem_iff c v).1 h).1.slice Con.cells_len (Con.ok_len hok).1 1 c.parts.length
  rwa [List.take_of_length_le (by simp)]at this
theorem Con.drop_at {ps:List Con} {p:Con} {i:Nat} (hp:ps[i]? = some p):ps.drop i=p::ps.drop (i+1):=by
  have hi:=(List.getElem?_eq_some_iff.1 hp).1
  rw[List.getElem?_eq_getElem hi]at hp
  simp only[Option.some.injEq]at hp
  subst hp
  exact List.drop_eq_getElem_cons hi
theorem Con.szs_append:∀ (xs ys:List Con),Con.sz.szs (xs++ys)=Con.sz.szs xs+Con.sz.szs ys
  | [],ys=>by simp[Con.sz.szs]
  | x::xs,ys=>by simp only[List.cons_append,Con.sz.szs,Con.szs_append xs ys];omega
theorem Con.sz_at {ps:List Con} {p:Con} {i:Nat} (hp:ps[i]? = some p):Con.sz.szs (ps.take i)+p.sz≤Con.sz.szs ps:=by
  have e:Con.sz.szs ps=Con.sz.szs (ps.take i++(p::ps.drop (i+1))):=by rw[← Con.drop_at hp,List.take_append_drop]
  rw[e,Con.szs_append]
  simp only[Con.sz.szs];omega
theorem Con.lefts_len (frm:Int) (ps:List Con) (i:Nat) (l:List Pc):(Con.leftP.lefts frm (ps.take i) l).length+(ps.take i).length≤l.length+2*Con.sz.szs (ps.take i):=by
  generalize ps.take i=qs
  induction qs generalizing l with
  | nil=>simp[Con.leftP.lefts]
  | cons p qs ih =>
    have h1:=Con.leftP_len frm _ p (Nat.le_refl _) l
    have h2:=ih (p.leftP frm l)
    simp only[Con.leftP.lefts,Con.sz.szs,List.length_cons]
    omega
theorem Con.rights_len (frm:Int) (a:Str) (ps:List Con) (i:Nat) (l:List Pc):(Con.rightP.rights frm a (ps.take i) l).length≤l.length+2*Con.sz.szs (ps.take i):=by
  generalize ps.take i=qs
  induction qs generalizing l with
  | nil=>simp[Con.rightP.rights]
  | cons p qs ih =>
    have h0:=aT_ frm l ⟨1,a,[],p.atom,[],[],[],0,0,0⟩
    have h1:=Con.rightP_len frm _ p (Nat.le_refl _) (ins frm l ⟨1,a,[],p.atom,[],[],[],0,0,0⟩)
    have h2:=ih (p.rightP frm (ins frm l ⟨1,a,[],p.atom,[],[],[],0,0,0⟩))
    simp only[Con.rightP.rights,Con.sz.szs]
    omega
theorem Con.headD_atom {ps:List Con} {p:Con} (hp:ps[0]? = some p):(ps.map Con.atom).headD []=p.atom:=by cases ps<;>simp_all
theorem Con.leftP5 {c:Con} (h:c.kind=5) (frm:Int) (l:List Pc):c.leftP frm l=Con.andP frm c (c.parts.drop 1) 1 ((c.parts.map Con.atom).headD []) (Con.leftP.lefts frm c.parts l):=by rw[Con.leftP_eq,if_pos h]
theorem Con.leftP6 {c p:Con} (h:c.kind=6) (hp:c.parts=[p]) (frm:Int) (l:List Pc):c.leftP frm l=ins frm (p.leftP frm l) ⟨4,p.atom,[],c.atom,c.name,[],[],0,0,0⟩:=by
  rw[Con.leftP_eq,if_neg (by omega),if_pos h,hp];rfl
theorem Con.leftP7 {c:Con} (h:c.kind=7) (frm:Int) (l:List Pc):c.leftP frm l=ins frm l ⟨9,[],[],c.atom,c.name,[],[],c.lo,c.hi,0⟩:=by rw[Con.leftP_eq,if_neg (by omega),if_neg (by omega),if_pos h]
theorem Con.leftP0 {c:Con} (h5:c.kind≠5) (h6:c.kind≠6) (h7:c.kind≠7) (frm:Int) (l:List Pc):c.leftP frm l=l:=by rw[Con.leftP_eq,if_neg h5,if_neg h6,if_neg h7]
theorem Con.rightP5 {c:Con} (h:c.kind=5) (frm:Int) (l:List Pc):c.rightP frm l=Con.rightP.rights frm c.atom c.parts l:=by rw[Con.rightP_eq,if_pos h]
theorem Con.rightP6 {c p:Con} (h:c.kind=6) (hp:c.parts=[p]) (frm:Int) (l:List Pc):c.rightP frm l=p.rightP frm (ins frm l ⟨3,c.atom,[],p.atom,c.name,[],[],0,0,0⟩):=by
  rw[Con.rightP_eq,if_neg (by omega),if_pos h,hp];rfl
theorem Con.rightP7 {c:Con} (h:c.kind=7) (frm:Int) (l:List Pc):c.rightP frm l=ins frm l ⟨8,c.atom,[],[],c.name,[],[],c.lo,c.hi,0⟩:=by rw[Con.rightP_eq,if_neg (by omega),if_neg (by omega),if_pos h]
theorem Con.rightP0 {c:Con} (h5:c.kind≠5) (h6:c.kind≠6) (h7:c.kind≠7) (frm:Int) (l:List Pc):c.rightP frm l=l:=by rw[Con.rightP_eq,if_neg h5,if_neg h6,if_neg h7]
end Go.Proofs.YtamklbgaipakfaaGreatDoor
namespace Go.Proofs.YtamklbgaipakfaaGreatDoor
open Go Go.Sx Go.Proofs
attribute [local irreducible] Code.wp wpList wpAnyH
open Go.Vs
theorem gs_:iT_ Tryz.prog 46 [(0,1),(1,1),(2,1),(3,1),(4,1)] [.int .i64 0,str [],.int .i64 0,.int .i64 0,.slice none 0 0]:=⟨_,aC_,co_,fun w=>by simp[U_,ah_,Tryz.sizeOf44]⟩
theorem fs_ {kb bk bs:Nat} {frm:Int}:∀ (d:Nat) (c:Con),c.sz≤d→c.ok→c.fine→∀ (l:List Pc) (q:CS),CInv l q→l.length+2*c.sz≤100000 →
    Tri Tryz.prog 193 #[c.val,zp_ bs 0,zp_ bk 0] (eI_ kb frm q) [c.memF,bn_,kF bk kb,lF bs bk] (fun _:{q':CS // CInv (c.leftP frm l) q'}=>.tuple #[]) (fun q'=>eI_ kb frm q'.1) (fun _=>[]):=by
  intro d
  induction d with
  | zero=>intro c h;have:=c.sz_pos;omega
  | succ d ih =>
    intro c hd hok hf l q hq hl
    have F:=Con.fields hf
    have hle:=F.le
    have hmo:=F.mo
    obtain⟨k,nm,lo,hi,ad,cap,ps⟩:=c
    have hlen:=Con.ok_len hok
    have hsz:(Con.mk k nm lo hi ad cap ps).sz=1+Con.sz.szs ps:=by simp only[Con.sz]
    have hsl:=Con.szs_len ps
    simp only[Con.parts,Con.cap,Con.kind]at hlen hle hmo
    refine j_ Tryz.func193 rfl rfl Tryz.ntmps193 rfl fun v0=>?_
    refine Zz 2 ?_
    refine N_ rfl rfl fun b1=>Zi 11 (fun hr1=>?_) fun hr1=>?_
    · skip
      try dsimp only[Con.kind,Con.parts,Con.name,Con.lo,Con.hi,Con.cap,Con.ad]at hr1
      refine Zi 6 (fun hr2=>?_) fun hr2=>?_
      · skip
        try dsimp only[Con.kind,Con.parts,Con.name,Con.lo,Con.hi,Con.cap,Con.ad]at hr2
        refine Zi 6 (fun hr3=>?_) fun hr3=>?_
        · skip
          try dsimp only[Con.kind,Con.parts,Con.name,Con.lo,Con.hi,Con.cap,Con.ad]at hr3
          refine Zz 6 ?_
          exact dS_ Tryz.results193 ⟨q,(by rw[Con.leftP0 (c:=(.mk k nm lo hi ad cap ps)) (by assumption) (by assumption) (by assumption)];exact hq)⟩ rfl (F:=[_]) (@List.perm_append_comm _ [_] _) zt
        · skip
          try dsimp only[Con.kind,Con.parts,Con.name,Con.lo,Con.hi,Con.cap,Con.ad]at hr3
          refine Zz 4 ?_
          refine bf_ [(b1,.cells #[.int .i64 k,str nm,.int .i64 lo,.int .i64 hi,.slice ad ps.length cap] 46 (0,0))] zk ?_
          refine Q_ 4 [0,1,2,3,4,5,6,7] zk (fun _ a b=>⟨Vw.sat.sub a,b⟩) (P_ rfl (bN_ (cs:=[zp_ kb 0]) mw_ rfl (fun v _ h=>h.2.2.1) rfl) rfl (Zz 8 ?_))
          refine p_ 8 rfl zk (d_ (bM_ (.mk k nm lo hi ad cap ps) hok) rfl (.refl _) zf rfl fun _=>Zz 2 ?_)
          refine S_ (fun _ a b=>⟨Vw.sat.sub a,b⟩) (Q_ 2 [9] zk (fun _ a b=>⟨Vw.sat.sub a,b⟩) (P_ rfl (A_ cR_ rfl rfl) rfl (ba_ (p_ 10 rfl zk (B_ x_ aw_ ao_ rfl rfl rfl rfl rfl rfl fun b2=>Zz 2 ?_)))))
          refine S_ (fun _ a b=>⟨Vw.sat.sub a.tail,b⟩) (p_ 11 rfl zk (d_ (cU_ ⟨9,[],[],Con.atom (.mk k nm lo hi ad cap ps),nm,[],[],lo,hi,0⟩ frm l q hq (by omega)) rfl (.cons _ (@List.perm_append_comm _ [_] _)) zt rfl fun x=>?_))
          obtain⟨q2,hq2⟩:=x
          refine u_ (@List.perm_append_comm _ _ [_]) (Zz 2 ?_)
          refine S_ (fun _ a b=>⟨Vw.sat.sub a,b⟩) (Zz 2 ?_)
          exact dS_ Tryz.results193 ⟨q2,(by rw[Con.leftP7 (c:=(.mk k nm lo hi ad cap ps)) (by assumption)];exact hq2)⟩ rfl (F:=[_]) (@List.perm_append_comm _ [_] _) zt
      · skip
        try dsimp only[Con.kind,Con.parts,Con.name,Con.lo,Con.hi,Con.cap,Con.ad]at hr2
        rw[hr2]at hle hmo
        simp[nd,dL_]at hle hmo
        obtain⟨p,hps⟩:=List.length_eq_one_iff.1 (show ps.length=1 by omega)
        have hp:ps[0]? = some p:=by rw[hps];rfl
        have hpm:p∈ps:=List.mem_of_getElem? hp
        refine Zz 5 ?_
        refine bf_ [(b1,.cells #[.int .i64 k,str nm,.int .i64 lo,.int .i64 hi,.slice ad ps.length cap] 46 (0,0))] zk ?_
        refine Q_ 1 [0,1,2,3,4] zk (fun _ a b=>⟨Vw.sat.sub a,b⟩) (P_ rfl (bN_ (cs:=[lFn bs bk]) hH_ rfl (fun v _ h=>h.2.2.2.1) rfl) rfl (Zz 2 ?_))
        refine P_ rfl (C_ D_ g_ rfl rfl (fun v _ h=>q_ (n:=5) Con.cells_len (by decide) (((Con.mem_iff (.mk k nm lo hi ad cap ps) v).1 h.1).1) hp) (by omega) (by first|omega|(simp only[Con.parts];omega)|(simp[Con.parts];done))) rfl ?_
        refine P_ rfl (L_ (ad:=ad) (us:=p.cells) R_ g_ rfl (fun v _ h=>((Con.mem_iff (.mk k nm lo hi ad cap ps) v).1 h.1).1) (Con.cells_len _) (o_ Con.cells_len hp)) rfl (ba_ (p_ 5 rfl zk (ax_ (ih p (by have:=Con.sz_part (c:=(.mk k nm lo hi ad cap ps)) hpm;omega) (Con.ok_part (c:=(.mk k nm lo hi ad cap ps)) hok hpm) (Con.fine_part (c:=(.mk k nm lo hi ad cap ps)) hf hpm) l q hq (by have:=Con.sz_at hp;omega)) rfl rfl (@List.perm_append_comm _ [_] _) (fun v _ h=>by exact⟨Con.mem_part (c:=(.mk k nm lo hi ad cap ps)) h.1 hpm,h.2⟩) rfl fun x=>?_)))
        obtain⟨q5,hq5⟩:=x
        refine u_ (@List.perm_append_comm _ _ [_]) (Zz 2 ?_)
        refine S_ (fun _ a b=>⟨Vw.sat.sub a,b⟩) (Zz 2 ?_)
        refine bf_ [(b1,.cells #[.int .i64 k,str nm,.int .i64 lo,.int .i64 hi,.slice ad ps.length cap] 46 (0,0))] zk ?_
        refine Q_ 5 [0,1,2,3,4,5,6,8] zk (fun _ a b=>⟨Vw.sat.sub a,b⟩) (P_ rfl (bN_ (cs:=[zp_ kb 0]) mw_ rfl (fun v _ h=>h.2.2.1) rfl) rfl (Zz 4 ?_))
        refine P_ rfl (C_ D_ g_ rfl rfl (fun v _ h=>q_ (n:=5) Con.cells_len (by decide) (((Con.mem_iff (.mk k nm lo hi ad cap ps) v).1 h.1).1) hp) (by omega) (by first|omega|(simp only[Con.parts];omega)|(simp[Con.parts];done))) rfl ?_
        refine P_ rfl (L_ (ad:=ad) (us:=p.cells) R_ g_ rfl (fun v _ h=>((Con.mem_iff (.mk k nm lo hi ad cap ps) v).1 h.1).1) (Con.cells_len _) (o_ Con.cells_len hp)) rfl (Zz 2 ?_)
        refine p_ 7 rfl zk (d_ (bM_ p (Con.ok_part (c:=(.mk k nm lo hi ad cap ps)) hok hpm)) rfl (.refl _) (fun v _ h=>⟨Con.mem_part (c:=(.mk k nm lo hi ad cap ps)) h.1 hpm,h.2.1,trivial⟩) rfl fun _=>Zz 2 ?_)
        refine S_ (fun _ a b=>⟨Vw.sat.sub a,b⟩) (p_ 9 rfl zk (d_ (bM_ (.mk k nm lo hi ad cap ps) hok) rfl (.refl _) zf rfl fun _=>Zz 2 ?_))
        refine S_ (fun _ a b=>⟨Vw.sat.sub a,b⟩) (Q_ 2 [10] zk (fun _ a b=>⟨Vw.sat.sub a,b⟩) (P_ rfl (A_ cR_ rfl rfl) rfl (ba_ (p_ 11 rfl zk (B_ x_ aw_ ao_ rfl rfl rfl rfl rfl rfl fun b3=>Zz 2 ?_)))))
        refine S_ (fun _ a b=>⟨Vw.sat.sub a.tail,b⟩) (p_ 12 rfl zk (d_ (cU_ ⟨4,p.atom,[],Con.atom (.mk k nm lo hi ad cap ps),nm,[],[],0,0,0⟩ frm (p.leftP frm l) q5 hq5 (by have:=Con.leftP_len frm _ p (Nat.le_refl _) l;have:=Con.sz_at hp;omega)) rfl (.cons _ (@List.perm_append_comm _ [_] _)) zt rfl fun x=>?_))
        obtain⟨q7,hq7⟩:=x
        refine u_ (@List.perm_append_comm _ _ [_]) (Zz 2 ?_)
        refine S_ (fun _ a b=>⟨Vw.sat.sub a,b⟩) (Zz 2 ?_)
        exact dS_ Tryz.results193 ⟨q7,(by rw[Con.leftP6 (c:=(.mk k nm lo hi ad cap ps)) (p:=p) (by assumption) hps];exact hq7)⟩ rfl (F:=[_]) (@List.perm_append_comm _ [_] _) zt
    · skip
      try dsimp only[Con.kind,Con.parts,Con.name,Con.lo,Con.hi,Con.cap,Con.ad]at hr1
      rw[hr1]at hle hmo
      simp[nd,dL_]at hle hmo
      refine Zz 14 ?_
      refine bp_ [(1,zp_ bs 0),(2,zp_ bk 0),(3,zp_ b1 0),(15,.slice ad ps.length cap),(16,.int .i64 (ps.length:Int)),(17,.int .i64 ((0:Nat):Int))] zl ?_
      refine bG_ (ι:={x:Nat×CS // x.1≤ps.length∧CInv (Con.leftP.lefts frm (ps.take x.1) l) x.2}) (fun x=>[(1,zp_ bs 0),(2,zp_ bk 0),(3,zp_ b1 0),(15,.slice ad ps.length cap),(16,.int .i64 (ps.length:Int)),(17,.int .i64 (x.1.1:Int))]) (fun x=>_::eI_ kb frm x.1.2) (fun _=>_) (fun x=>ps.length - x.1.1) ⟨(0,q),by simp,by simpa [Con.leftP.lefts] using hq⟩ ?_
      rintro ⟨⟨i,q0⟩,hk⟩
      dsimp only at hk
      refine bp_ [(1,zp_ bs 0),(2,zp_ bk 0),(3,zp_ b1 0),(15,.slice ad ps.length cap),(16,.int .i64 (ps.length:Int)),(17,.int .i64 (i:Int))] zl ?_
      refine Zi 2 (fun hr4=>?_) fun hr4=>?_
      · skip
        try dsimp only[Con.kind,Con.parts,Con.name,Con.lo,Con.hi,Con.cap,Con.ad]at hr4
        obtain rfl:i=ps.length:=by omega
        rw[List.take_length]at hk
        obtain⟨p,hp⟩:∃ p,ps[0]? = some p:=⟨_,List.getElem?_eq_getElem (show 0<ps.length by omega)⟩
        have hpm:p∈ps:=List.mem_of_getElem? hp
        refine Zz 10 ?_
        refine c_ (C_ D_ g_ rfl rfl (fun v _ h=>q_ (n:=5) Con.cells_len (by decide) (((Con.mem_iff (.mk k nm lo hi ad cap ps) v).1 h.1).1) hp) (by omega) (by first|omega|(simp only[Con.parts];omega)|(simp[Con.parts];done))) rfl ?_
        refine c_ (L_ (ad:=ad) (us:=p.cells) R_ g_ rfl (fun v _ h=>((Con.mem_iff (.mk k nm lo hi ad cap ps) v).1 h.1).1) (Con.cells_len _) (o_ Con.cells_len hp)) rfl (d_ (bM_ p (Con.ok_part (c:=(.mk k nm lo hi ad cap ps)) hok hpm)) rfl (.refl _) (fun v _ h=>⟨Con.mem_part (c:=(.mk k nm lo hi ad cap ps)) h.1 hpm,h.2.1,trivial⟩) rfl fun _=>Zz 7 ?_)
        refine c_ (df_ (i:=1) (j:=ps.length) (kl:=.i64) (kh:=.i64) D_ g_ rfl rfl rfl (by omega) (by first|omega|(simp only[Con.cap];omega))) rfl ?_
        refine Zz 5 ?_
        refine bp_ [(1,zp_ bs 0),(2,zp_ bk 0),(3,zp_ b1 0),(6,str p.atom),(32,.slice (sad ad cap 1 5) (ps.length - 1) (cap - 1)),(33,.int .i64 ((ps.length - 1:Nat):Int)),(34,.int .i64 ((0:Nat):Int))] zl ?_
        have hh:=Con.headD_atom hp
        have hL0:=Con.lefts_len frm ps ps.length l
        rw[List.take_length]at hL0
        generalize p.atom=f0 at hh ⊢
        refine bG_ (ι:={x:Nat×Str×List Pc×CS // x.1≤ps.length - 1∧CInv x.2.2.1 x.2.2.2∧x.2.2.1.length≤(Con.leftP.lefts frm ps l).length+x.1∧Con.andP frm (.mk k nm lo hi ad cap ps) (ps.drop 1) 1 f0 (Con.leftP.lefts frm ps l)=Con.andP frm (.mk k nm lo hi ad cap ps) (ps.drop (1+x.1)) (1+x.1) x.2.1 x.2.2.1}) (fun x=>[(1,zp_ bs 0),(2,zp_ bk 0),(3,zp_ b1 0),(6,str x.1.2.1),(32,.slice (sad ad cap 1 5) (ps.length - 1) (cap - 1)),(33,.int .i64 ((ps.length - 1:Nat):Int)),(34,.int .i64 (x.1.1:Int))]) (fun x=>_::eI_ kb frm x.1.2.2.2) (fun _=>_) (fun x=>ps.length - 1 - x.1.1) ⟨(0,f0,(Con.leftP.lefts frm ps l),q0),by simp,hk.2,by simp,rfl⟩ ?_
        rintro ⟨⟨i,f,l1,q2⟩,hj⟩
        dsimp only at hj
        refine bp_ [(1,zp_ bs 0),(2,zp_ bk 0),(3,zp_ b1 0),(6,str f),(32,.slice (sad ad cap 1 5) (ps.length - 1) (cap - 1)),(33,.int .i64 ((ps.length - 1:Nat):Int)),(34,.int .i64 (i:Int))] zl ?_
        refine Zi 2 (fun hr5=>?_) fun hr5=>?_
        · skip
          try dsimp only[Con.kind,Con.parts,Con.name,Con.lo,Con.hi,Con.cap,Con.ad]at hr5
          refine Zz 6 ?_
          exact dS_ Tryz.results193 ⟨q2,(by have e:=hj.2.2.2;rw[List.drop_of_length_le (show ps.length≤1+i by omega)]at e;rw[Con.leftP5 (c:=(.mk k nm lo hi ad cap ps)) (by assumption)];simp only[Con.parts,hh];rw[e];exact hj.2.1)⟩ rfl (F:=[_]) (@List.perm_append_comm _ [_] _) zt
        · skip
          try dsimp only[Con.kind,Con.parts,Con.name,Con.lo,Con.hi,Con.cap,Con.ad]at hr5
          have hlt:i<ps.length - 1:=by omega
          obtain⟨p,hp⟩:∃ p,(ps.drop 1)[i]? = some p:=⟨_,List.getElem?_eq_getElem (by simp;omega)⟩
          have hp0:ps[1+i]? = some p:=by rw[← List.getElem?_drop];exact hp
          have hpm:p∈ps:=List.mem_of_getElem? hp0
          refine Zz 11 ?_
          refine c_ (C_ D_ g_ rfl rfl (fun v _ h=>q_ (n:=5) Con.cells_len (by decide) ((Con.mem_tail (c:=(.mk k nm lo hi ad cap ps)) hok h.1)) hp) (by omega) (by first|omega|(simp only[Con.parts];omega)|(simp[Con.parts];done))) rfl ?_
          refine c_ (L_ (ad:=(sad ad cap 1 5)) (us:=p.cells) R_ g_ rfl (fun v _ h=>(Con.mem_tail (c:=(.mk k nm lo hi ad cap ps)) hok h.1)) (Con.cells_len _) (o_ Con.cells_len hp)) rfl (G_ aC_ rfl fun b4=>Zz 1 ?_)
          refine ew_ 0 g_ rfl rfl rfl rfl (Zz 8 ?_)
          refine c_ (aA_ (df_ (i:=0) (j:=i+2) (kl:=.i64) (kh:=.i64) D_ g_ rfl rfl rfl (by omega) (by first|omega|(simp only[Con.cap];omega))) (show _=Value.slice (sad ad cap 0 5) (ps.take (i+2)).length (cap - 0) by rw[List.length_take,Nat.min_eq_left (by omega)];rfl)) rfl ?_
          refine c_ (A_ gs_ rfl rfl) rfl (d_ (bM_ (Con.pre (.mk k nm lo hi ad cap ps) (i+2)) (Con.pre_ok hok _)) rfl (.refl _) (fun v _ h=>⟨Con.pre_mem hok h.1 _,h.2.1,trivial⟩) rfl fun _=>Zz 4 ?_)
          refine bf_ [(b4,.cells p.cells.toArray 46 (0,0)),(b1,.cells #[.int .i64 k,str nm,.int .i64 lo,.int .i64 hi,.slice ad ps.length cap] 46 (0,0))] zk ?_
          refine Q_ 4 [0,1,2,4] zk (fun _ a b=>⟨Vw.sat.sub a,b⟩) (P_ rfl (bN_ (cs:=[zp_ kb 0]) mw_ rfl (fun v _ h=>h.2.2.1) rfl) rfl (Zz 1 ?_))
          refine P_ rfl (cw_ 0 R_ g_ rfl rfl) rfl (Zz 2 ?_)
          refine p_ 3 rfl zk (d_ (bM_ p (Con.ok_part (c:=(.mk k nm lo hi ad cap ps)) hok hpm)) rfl (.refl _) (fun v _ h=>⟨Con.mem_part (c:=(.mk k nm lo hi ad cap ps)) h.1 hpm,h.2.1,trivial⟩) rfl fun _=>Zz 2 ?_)
          refine S_ (fun _ a b=>⟨Vw.sat.sub a,b⟩) (Q_ 2 [5] zk (fun _ a b=>⟨Vw.sat.sub a,b⟩) (P_ rfl (A_ cR_ rfl rfl) rfl (ba_ (p_ 6 rfl zk (B_ x_ aw_ ao_ rfl rfl rfl rfl rfl rfl fun b5=>Zz 2 ?_)))))
          refine S_ (fun _ a b=>⟨Vw.sat.sub a.tail,b⟩) (p_ 7 rfl zk (d_ (cU_ ⟨2,f,p.atom,(Con.pre (.mk k nm lo hi ad cap ps) (i+2)).atom,[],[],[],0,0,0⟩ frm l1 q2 hj.2.1 (by omega)) rfl (.cons _ (@List.perm_append_comm _ [_,_] _)) zt rfl fun x=>?_))
          obtain⟨q9,hq9⟩:=x
          refine u_ (@List.perm_append_comm _ _ [_,_]) (Zz 2 ?_)
          refine S_ (fun _ a b=>⟨Vw.sat.sub a,b⟩) (Zz 12 ?_)
          exact z_ ⟨(i+1,(Con.pre (.mk k nm lo hi ad cap ps) (i+2)).atom,(ins frm l1 ⟨2,f,p.atom,(Con.pre (.mk k nm lo hi ad cap ps) (i+2)).atom,[],[],[],0,0,0⟩),q9),by omega,hq9,by have:=aT_ frm l1 ⟨2,f,p.atom,(Con.pre (.mk k nm lo hi ad cap ps) (i+2)).atom,[],[],[],0,0,0⟩;dsimp only;omega,by rw[hj.2.2.2,Con.drop_at hp0];simp only[Con.andP];rw[show 1+i+1=i+2 by omega,show 1+(i+1)=i+2 by omega]⟩ (by simp;omega) zl (F:=[_]) (@List.perm_append_comm _ [_] _) zh
      · skip
        try dsimp only[Con.kind,Con.parts,Con.name,Con.lo,Con.hi,Con.cap,Con.ad]at hr4
        have hlt:i<ps.length:=by omega
        obtain⟨p,hp⟩:∃ p,ps[i]? = some p:=⟨_,List.getElem?_eq_getElem hlt⟩
        have hpm:p∈ps:=List.mem_of_getElem? hp
        refine Zz 10 ?_
        refine c_ (C_ D_ g_ rfl rfl (fun v _ h=>q_ (n:=5) Con.cells_len (by decide) (((Con.mem_iff (.mk k nm lo hi ad cap ps) v).1 h.1).1) hp) (by omega) (by first|omega|(simp only[Con.parts];omega)|(simp[Con.parts];done))) rfl ?_
        refine c_ (L_ (ad:=ad) (us:=p.cells) R_ g_ rfl (fun v _ h=>((Con.mem_iff (.mk k nm lo hi ad cap ps) v).1 h.1).1) (Con.cells_len _) (o_ Con.cells_len hp)) rfl (G_ aC_ rfl fun b6=>ew_ 0 g_ rfl rfl rfl rfl (Zz 3 ?_))
        refine c_ (bN_ (cs:=[lFn bs bk]) hH_ rfl (fun v _ h=>h.2.2.2.1) rfl) rfl (c_ (cw_ 0 R_ g_ rfl rfl) rfl (ax_ (ih p (by have:=Con.sz_part (c:=(.mk k nm lo hi ad cap ps)) hpm;omega) (Con.ok_part (c:=(.mk k nm lo hi ad cap ps)) hok hpm) (Con.fine_part (c:=(.mk k nm lo hi ad cap ps)) hf hpm) (Con.leftP.lefts frm (ps.take i) l) q0 hk.2 (by have:=Con.lefts_len frm ps i l;have:=Con.sz_at hp;omega)) rfl rfl (@List.perm_append_comm _ [_,_] _) (fun v _ h=>by exact⟨Con.mem_part (c:=(.mk k nm lo hi ad cap ps)) h.1 hpm,h.2⟩) rfl fun x=>?_))
        obtain⟨q10,hq10⟩:=x
        refine u_ (@List.perm_append_comm _ _ [_,_]) (Zz 7 ?_)
        exact z_ ⟨(i+1,q10),hlt,by rw[Con.lefts_step frm hp];exact hq10⟩ (by simp;omega) zl (F:=[_]) (@List.perm_append_comm _ [_] _) zh
theorem eA_ {kb bk bs:Nat} {frm:Int}:∀ (d:Nat) (c:Con),c.sz≤d→c.ok→c.fine→∀ (l:List Pc) (q:CS),CInv l q→l.length+2*c.sz≤100000 →
    Tri Tryz.prog 194 #[c.val,zp_ bk 0,zp_ bs 0] (eI_ kb frm q) [c.memF,bn_,kF bk kb,rcF bs bk] (fun _:{q':CS // CInv (c.rightP frm l) q'}=>.tuple #[]) (fun q'=>eI_ kb frm q'.1) (fun _=>[]):=by
  intro d
  induction d with
  | zero=>intro c h;have:=c.sz_pos;omega
  | succ d ih =>
    intro c hd hok hf l q hq hl
    have F:=Con.fields hf
    have hle:=F.le
    have hmo:=F.mo
    obtain⟨k,nm,lo,hi,ad,cap,ps⟩:=c
    have hlen:=Con.ok_len hok
    have hsz:(Con.mk k nm lo hi ad cap ps).sz=1+Con.sz.szs ps:=by simp only[Con.sz]
    have hsl:=Con.szs_len ps
    simp only[Con.parts,Con.cap,Con.kind]at hlen hle hmo
    refine j_ Tryz.func194 rfl rfl Tryz.ntmps194 rfl fun v0=>?_
    refine Zz 2 ?_
    refine N_ rfl rfl fun b1=>Zi 11 (fun hr1=>?_) fun hr1=>?_
    · skip
      try dsimp only[Con.kind,Con.parts,Con.name,Con.lo,Con.hi,Con.cap,Con.ad]at hr1
      refine Zi 6 (fun hr2=>?_) fun hr2=>?_
      · skip
        try dsimp only[Con.kind,Con.parts,Con.name,Con.lo,Con.hi,Con.cap,Con.ad]at hr2
        refine Zi 6 (fun hr3=>?_) fun hr3=>?_
        · skip
          try dsimp only[Con.kind,Con.parts,Con.name,Con.lo,Con.hi,Con.cap,Con.ad]at hr3
          refine Zz 6 ?_
          exact dS_ Tryz.results194 ⟨q,(by rw[Con.rightP0 (c:=(.mk k nm lo hi ad cap ps)) (by assumption) (by assumption) (by assumption)];exact hq)⟩ rfl (F:=[_]) (@List.perm_append_comm _ [_] _) zt
        · skip
          try dsimp only[Con.kind,Con.parts,Con.name,Con.lo,Con.hi,Con.cap,Con.ad]at hr3
          refine Zz 4 ?_
          refine bf_ [(b1,.cells #[.int .i64 k,str nm,.int .i64 lo,.int .i64 hi,.slice ad ps.length cap] 46 (0,0))] zk ?_
          refine Q_ 4 [0,1,3,4,5,6,7,8] zk (fun _ a b=>⟨Vw.sat.sub a,b⟩) (P_ rfl (bN_ (cs:=[zp_ kb 0]) mw_ rfl (fun v _ h=>h.2.2.1) rfl) rfl (Zz 8 ?_))
          refine p_ 2 rfl zk (d_ (bM_ (.mk k nm lo hi ad cap ps) hok) rfl (.refl _) zf rfl fun _=>Zz 2 ?_)
          refine S_ (fun _ a b=>⟨Vw.sat.sub a,b⟩) (Q_ 2 [9] zk (fun _ a b=>⟨Vw.sat.sub a,b⟩) (P_ rfl (A_ cR_ rfl rfl) rfl (ba_ (p_ 10 rfl zk (B_ x_ aw_ ao_ rfl rfl rfl rfl rfl rfl fun b2=>Zz 2 ?_)))))
          refine S_ (fun _ a b=>⟨Vw.sat.sub a.tail,b⟩) (p_ 11 rfl zk (d_ (cU_ ⟨8,Con.atom (.mk k nm lo hi ad cap ps),[],[],nm,[],[],lo,hi,0⟩ frm l q hq (by omega)) rfl (.cons _ (@List.perm_append_comm _ [_] _)) zt rfl fun x=>?_))
          obtain⟨q2,hq2⟩:=x
          refine u_ (@List.perm_append_comm _ _ [_]) (Zz 2 ?_)
          refine S_ (fun _ a b=>⟨Vw.sat.sub a,b⟩) (Zz 2 ?_)
          exact dS_ Tryz.results194 ⟨q2,(by rw[Con.rightP7 (c:=(.mk k nm lo hi ad cap ps)) (by assumption)];exact hq2)⟩ rfl (F:=[_]) (@List.perm_append_comm _ [_] _) zt
      · skip
        try dsimp only[Con.kind,Con.parts,Con.name,Con.lo,Con.hi,Con.cap,Con.ad]at hr2
        rw[hr2]at hle hmo
        simp[nd,dL_]at hle hmo
        obtain⟨p,hps⟩:=List.length_eq_one_iff.1 (show ps.length=1 by omega)
        have hp:ps[0]? = some p:=by rw[hps];rfl
        have hpm:p∈ps:=List.mem_of_getElem? hp
        refine Zz 5 ?_
        refine bf_ [(b1,.cells #[.int .i64 k,str nm,.int .i64 lo,.int .i64 hi,.slice ad ps.length cap] 46 (0,0))] zk ?_
        refine Q_ 5 [0,1,3,4,5,6,7,8] zk (fun _ a b=>⟨Vw.sat.sub a,b⟩) (P_ rfl (bN_ (cs:=[zp_ kb 0]) mw_ rfl (fun v _ h=>h.2.2.1) rfl) rfl (Zz 5 ?_))
        refine P_ rfl (C_ D_ g_ rfl rfl (fun v _ h=>q_ (n:=5) Con.cells_len (by decide) (((Con.mem_iff (.mk k nm lo hi ad cap ps) v).1 h.1).1) hp) (by omega) (by first|omega|(simp only[Con.parts];omega)|(simp[Con.parts];done))) rfl ?_
        refine P_ rfl (L_ (ad:=ad) (us:=p.cells) R_ g_ rfl (fun v _ h=>((Con.mem_iff (.mk k nm lo hi ad cap ps) v).1 h.1).1) (Con.cells_len _) (o_ Con.cells_len hp)) rfl (ba_ (p_ 2 rfl zk (d_ (bM_ (.mk k nm lo hi ad cap ps) hok) rfl (.refl _) zf rfl fun _=>Zz 2 ?_)))
        refine S_ (fun _ a b=>⟨Vw.sat.sub a,b⟩) (p_ 9 rfl zk (d_ (bM_ p (Con.ok_part (c:=(.mk k nm lo hi ad cap ps)) hok hpm)) rfl (.refl _) (fun v _ h=>⟨Con.mem_part (c:=(.mk k nm lo hi ad cap ps)) h.1 hpm,h.2.1,trivial⟩) rfl fun _=>Zz 2 ?_))
        refine S_ (fun _ a b=>⟨Vw.sat.sub a,b⟩) (Q_ 2 [10] zk (fun _ a b=>⟨Vw.sat.sub a,b⟩) (P_ rfl (A_ cR_ rfl rfl) rfl (ba_ (p_ 11 rfl zk (B_ x_ aw_ ao_ rfl rfl rfl rfl rfl rfl fun b3=>Zz 2 ?_)))))
        refine S_ (fun _ a b=>⟨Vw.sat.sub a.tail,b⟩) (p_ 12 rfl zk (d_ (cU_ ⟨3,Con.atom (.mk k nm lo hi ad cap ps),[],p.atom,nm,[],[],0,0,0⟩ frm l q hq (by omega)) rfl (.cons _ (@List.perm_append_comm _ [_] _)) zt rfl fun x=>?_))
        obtain⟨q4,hq4⟩:=x
        refine u_ (@List.perm_append_comm _ _ [_]) (Zz 2 ?_)
        refine S_ (fun _ a b=>⟨Vw.sat.sub a,b⟩) (Zz 2 ?_)
        refine bf_ [(b1,.cells #[.int .i64 k,str nm,.int .i64 lo,.int .i64 hi,.slice ad ps.length cap] 46 (0,0))] zk ?_
        refine Q_ 1 [0,1,2,3,4] zk (fun _ a b=>⟨Vw.sat.sub a,b⟩) (P_ rfl (bN_ (cs:=[rFn bs bk]) hH_ rfl (fun v _ h=>h.2.2.2.1) rfl) rfl (Zz 2 ?_))
        refine P_ rfl (C_ D_ g_ rfl rfl (fun v _ h=>q_ (n:=5) Con.cells_len (by decide) (((Con.mem_iff (.mk k nm lo hi ad cap ps) v).1 h.1).1) hp) (by omega) (by first|omega|(simp only[Con.parts];omega)|(simp[Con.parts];done))) rfl ?_
        refine P_ rfl (L_ (ad:=ad) (us:=p.cells) R_ g_ rfl (fun v _ h=>((Con.mem_iff (.mk k nm lo hi ad cap ps) v).1 h.1).1) (Con.cells_len _) (o_ Con.cells_len hp)) rfl (ba_ (p_ 5 rfl zk (ax_ (ih p (by have:=Con.sz_part (c:=(.mk k nm lo hi ad cap ps)) hpm;omega) (Con.ok_part (c:=(.mk k nm lo hi ad cap ps)) hok hpm) (Con.fine_part (c:=(.mk k nm lo hi ad cap ps)) hf hpm) (ins frm l ⟨3,Con.atom (.mk k nm lo hi ad cap ps),[],p.atom,nm,[],[],0,0,0⟩) q4 hq4 (by have:=aT_ frm l ⟨3,Con.atom (.mk k nm lo hi ad cap ps),[],p.atom,nm,[],[],0,0,0⟩;have:=Con.sz_at hp;omega)) rfl rfl (@List.perm_append_comm _ [_] _) (fun v _ h=>by exact⟨Con.mem_part (c:=(.mk k nm lo hi ad cap ps)) h.1 hpm,h.2⟩) rfl fun x=>?_)))
        obtain⟨q7,hq7⟩:=x
        refine u_ (@List.perm_append_comm _ _ [_]) (Zz 2 ?_)
        refine S_ (fun _ a b=>⟨Vw.sat.sub a,b⟩) (Zz 2 ?_)
        exact dS_ Tryz.results194 ⟨q7,(by rw[Con.rightP6 (c:=(.mk k nm lo hi ad cap ps)) (p:=p) (by assumption) hps];exact hq7)⟩ rfl (F:=[_]) (@List.perm_append_comm _ [_] _) zt
    · skip
      try dsimp only[Con.kind,Con.parts,Con.name,Con.lo,Con.hi,Con.cap,Con.ad]at hr1
      rw[hr1]at hle hmo
      simp[nd,dL_]at hle hmo
      refine Zz 13 ?_
      refine bp_ [(1,zp_ bk 0),(2,zp_ bs 0),(3,zp_ b1 0),(11,.slice ad ps.length cap),(12,.int .i64 (ps.length:Int)),(13,.int .i64 ((0:Nat):Int))] zl ?_
      refine bG_ (ι:={x:Nat×CS // x.1≤ps.length∧CInv (Con.rightP.rights frm (Con.atom (.mk k nm lo hi ad cap ps)) (ps.take x.1) l) x.2}) (fun x=>[(1,zp_ bk 0),(2,zp_ bs 0),(3,zp_ b1 0),(11,.slice ad ps.length cap),(12,.int .i64 (ps.length:Int)),(13,.int .i64 (x.1.1:Int))]) (fun x=>_::eI_ kb frm x.1.2) (fun _=>_) (fun x=>ps.length - x.1.1) ⟨(0,q),by simp,by simpa [Con.rightP.rights] using hq⟩ ?_
      rintro ⟨⟨i,q0⟩,hk⟩
      dsimp only at hk
      refine bp_ [(1,zp_ bk 0),(2,zp_ bs 0),(3,zp_ b1 0),(11,.slice ad ps.length cap),(12,.int .i64 (ps.length:Int)),(13,.int .i64 (i:Int))] zl ?_
      refine Zi 2 (fun hr4=>?_) fun hr4=>?_
      · skip
        try dsimp only[Con.kind,Con.parts,Con.name,Con.lo,Con.hi,Con.cap,Con.ad]at hr4
        obtain rfl:i=ps.length:=by omega
        rw[List.take_length]at hk
        refine Zz 6 ?_
        exact dS_ Tryz.results194 ⟨q0,(by rw[Con.rightP5 (c:=(.mk k nm lo hi ad cap ps)) (by assumption)];exact hk.2)⟩ rfl (F:=[_]) (@List.perm_append_comm _ [_] _) zt
      · skip
        try dsimp only[Con.kind,Con.parts,Con.name,Con.lo,Con.hi,Con.cap,Con.ad]at hr4
        have hlt:i<ps.length:=by omega
        obtain⟨p,hp⟩:∃ p,ps[i]? = some p:=⟨_,List.getElem?_eq_getElem hlt⟩
        have hpm:p∈ps:=List.mem_of_getElem? hp
        refine Zz 10 ?_
        refine c_ (C_ D_ g_ rfl rfl (fun v _ h=>q_ (n:=5) Con.cells_len (by decide) (((Con.mem_iff (.mk k nm lo hi ad cap ps) v).1 h.1).1) hp) (by omega) (by first|omega|(simp only[Con.parts];omega)|(simp[Con.parts];done))) rfl ?_
        refine c_ (L_ (ad:=ad) (us:=p.cells) R_ g_ rfl (fun v _ h=>((Con.mem_iff (.mk k nm lo hi ad cap ps) v).1 h.1).1) (Con.cells_len _) (o_ Con.cells_len hp)) rfl (G_ aC_ rfl fun b4=>ew_ 0 g_ rfl rfl rfl rfl (Zz 3 ?_))
        refine bf_ [(b4,.cells p.cells.toArray 46 (0,0)),(b1,.cells #[.int .i64 k,str nm,.int .i64 lo,.int .i64 hi,.slice ad ps.length cap] 46 (0,0))] zk ?_
        refine Q_ 5 [0,1,3] zk (fun _ a b=>⟨Vw.sat.sub a,b⟩) (P_ rfl (bN_ (cs:=[zp_ kb 0]) mw_ rfl (fun v _ h=>h.2.2.1) rfl) rfl (Zz 1 ?_))
        refine P_ rfl (cw_ 0 R_ g_ rfl rfl) rfl (ba_ (p_ 2 rfl zk (d_ (bM_ (.mk k nm lo hi ad cap ps) hok) rfl (.refl _) zf rfl fun _=>Zz 2 ?_)))
        refine S_ (fun _ a b=>⟨Vw.sat.sub a,b⟩) (p_ 4 rfl zk (d_ (bM_ p (Con.ok_part (c:=(.mk k nm lo hi ad cap ps)) hok hpm)) rfl (.refl _) (fun v _ h=>⟨Con.mem_part (c:=(.mk k nm lo hi ad cap ps)) h.1 hpm,h.2.1,trivial⟩) rfl fun _=>Zz 2 ?_))
        refine S_ (fun _ a b=>⟨Vw.sat.sub a,b⟩) (Q_ 2 [5] zk (fun _ a b=>⟨Vw.sat.sub a,b⟩) (P_ rfl (A_ cR_ rfl rfl) rfl (ba_ (p_ 6 rfl zk (B_ x_ aw_ ao_ rfl rfl rfl rfl rfl rfl fun b5=>Zz 2 ?_)))))
        refine S_ (fun _ a b=>⟨Vw.sat.sub a.tail,b⟩) (p_ 7 rfl zk (d_ (cU_ ⟨1,Con.atom (.mk k nm lo hi ad cap ps),[],p.atom,[],[],[],0,0,0⟩ frm (Con.rightP.rights frm (Con.atom (.mk k nm lo hi ad cap ps)) (ps.take i) l) q0 hk.2 (by have:=Con.rights_len frm (Con.atom (.mk k nm lo hi ad cap ps)) ps i l;have:=Con.sz_at hp;have:=p.sz_pos;omega)) rfl (.cons _ (@List.perm_append_comm _ [_,_] _)) zt rfl fun x=>?_))
        obtain⟨q9,hq9⟩:=x
        refine u_ (@List.perm_append_comm _ _ [_,_]) (Zz 2 ?_)
        refine S_ (fun _ a b=>⟨Vw.sat.sub a,b⟩) (Zz 3 ?_)
        refine c_ (bN_ (cs:=[rFn bs bk]) hH_ rfl (fun v _ h=>h.2.2.2.1) rfl) rfl (c_ (cw_ 0 R_ g_ rfl rfl) rfl (ax_ (ih p (by have:=Con.sz_part (c:=(.mk k nm lo hi ad cap ps)) hpm;omega) (Con.ok_part (c:=(.mk k nm lo hi ad cap ps)) hok hpm) (Con.fine_part (c:=(.mk k nm lo hi ad cap ps)) hf hpm) (ins frm (Con.rightP.rights frm (Con.atom (.mk k nm lo hi ad cap ps)) (ps.take i) l) ⟨1,Con.atom (.mk k nm lo hi ad cap ps),[],p.atom,[],[],[],0,0,0⟩) q9 hq9 (by have:=Con.rights_len frm (Con.atom (.mk k nm lo hi ad cap ps)) ps i l;have:=Con.sz_at hp;have:=aT_ frm (Con.rightP.rights frm (Con.atom (.mk k nm lo hi ad cap ps)) (ps.take i) l) ⟨1,(Con.atom (.mk k nm lo hi ad cap ps)),[],p.atom,[],[],[],0,0,0⟩;omega)) rfl rfl (@List.perm_append_comm _ [_,_] _) (fun v _ h=>by exact⟨Con.mem_part (c:=(.mk k nm lo hi ad cap ps)) h.1 hpm,h.2⟩) rfl fun x=>?_))
        obtain⟨q10,hq10⟩:=x
        refine u_ (@List.perm_append_comm _ _ [_,_]) (Zz 7 ?_)
        exact z_ ⟨(i+1,q10),hlt,by rw[Con.rights_step frm _ hp];exact hq10⟩ (by simp;omega) zl (F:=[_]) (@List.perm_append_comm _ [_] _) zh
end Go.Proofs.YtamklbgaipakfaaGreatDoor
namespace Go.Proofs.YtamklbgaipakfaaGreatDoor
open Go Go.Sx Go.Proofs
attribute [local irreducible] Code.wp wpList wpAnyH
open Go.Vs
theorem uU_ (x:Ax) (hok:x.ok) (hc:x.check=0) {kb:Nat} (frm:Int) (q:CS) (hq:CInv [] q) :
    Tri Tryz.prog 67 #[zp_ kb 0,x.val] (eI_ kb frm q) [x.memF,bn_] (fun _:{q':CS // CInv (x.pieces frm) q'}=>.tuple #[]) (fun q'=>eI_ kb frm q'.1) (fun _=>[]):=by
  have G:=Ax.good_of hc
  obtain⟨k,op,⟨kl,nl,ll,hl,al,cl,pl⟩,⟨kr,nr,lr,hr,ar,cr,pr⟩,ad,cap,rs,ro,a,b⟩:=x
  have hlen:=hok.len
  have hcap:=hok.cap
  have h1:=G.k1
  have h9:=G.k9
  have h0:([]:List Pc).length=0:=rfl
  dsimp only at hlen hcap h1 h9
  show Tri Tryz.prog 67 #[zp_ kb 0,.agg #[.int .i64 k,.bool op,.int .i64 kl,str nl,.int .i64 ll,.int .i64 hl,.slice al pl.length cl,.int .i64 kr,str nr,.int .i64 lr,.int .i64 hr,.slice ar pr.length cr,.slice ad rs.length cap,str ro,str a,str b]] _ _ _ _ _
  refine j_ Tryz.func67 rfl rfl Tryz.ntmps67 rfl fun v0=>?_
  refine Zz 2 ?_
  refine N_ rfl rfl fun b1=>Zz 5 ?_
  refine d_ (pP_ kb) rfl (.refl _) zt rfl fun x=>?_
  obtain⟨bk,bl,br⟩:=x
  refine Zi 16 (fun hr1=>?_) fun hr1=>?_
  · skip
    try dsimp only[Con.kind,Con.parts,Con.name,Con.lo,Con.hi,Con.cap,Con.ad]at hr1
    refine Zi 6 (fun hr2=>?_) fun hr2=>?_
    · skip
      try dsimp only[Con.kind,Con.parts,Con.name,Con.lo,Con.hi,Con.cap,Con.ad]at hr2
      refine Zi 6 (fun hr3=>?_) fun hr3=>?_
      · skip
        try dsimp only[Con.kind,Con.parts,Con.name,Con.lo,Con.hi,Con.cap,Con.ad]at hr3
        refine Zi 6 (fun hr4=>?_) fun hr4=>?_
        · skip
          try dsimp only[Con.kind,Con.parts,Con.name,Con.lo,Con.hi,Con.cap,Con.ad]at hr4
          refine Zi 6 (fun hr5=>?_) fun hr5=>?_
          · skip
            try dsimp only[Con.kind,Con.parts,Con.name,Con.lo,Con.hi,Con.cap,Con.ad]at hr5
            refine Zi 6 (fun hr6=>?_) fun hr6=>?_
            · skip
              try dsimp only[Con.kind,Con.parts,Con.name,Con.lo,Con.hi,Con.cap,Con.ad]at hr6
              refine Zi 6 (fun hr7=>?_) fun hr7=>?_
              · skip
                try dsimp only[Con.kind,Con.parts,Con.name,Con.lo,Con.hi,Con.cap,Con.ad]at hr7
                refine Zi 6 (fun hr8=>?_) fun hr8=>?_
                · skip
                  try dsimp only[Con.kind,Con.parts,Con.name,Con.lo,Con.hi,Con.cap,Con.ad]at hr8
                  refine Zi 6 (fun hr9=>?_) fun hr9=>?_
                  · skip
                    try dsimp only[Con.kind,Con.parts,Con.name,Con.lo,Con.hi,Con.cap,Con.ad]at hr9
                    exfalso;omega
                  · skip
                    try dsimp only[Con.kind,Con.parts,Con.name,Con.lo,Con.hi,Con.cap,Con.ad]at hr9
                    refine Zz 4 ?_
                    refine bf_ [(b1,.cells #[.int .i64 k,.bool op,.int .i64 kl,str nl,.int .i64 ll,.int .i64 hl,.slice al pl.length cl,.int .i64 kr,str nr,.int .i64 lr,.int .i64 hr,.slice ar pr.length cr,.slice ad rs.length cap,str ro,str a,str b] 48 (0,0))] zk ?_
                    refine Q_ 5 [0,1,2,4,5,6,7] zk (fun _ a b=>⟨Vw.sat.sub a,b⟩) (Zz 8 ?_)
                    refine p_ 3 rfl zk (d_ (ca_ a hok.a) rfl (.refl _) zt rfl fun _=>Zz 2 ?_)
                    refine S_ (fun _ a b=>⟨Vw.sat.sub a,b⟩) (p_ 8 rfl zk (d_ (ca_ b hok.b) rfl (.refl _) zt rfl fun _=>Zz 2 ?_))
                    refine S_ (fun _ a b=>⟨Vw.sat.sub a,b⟩) (Q_ 2 [9] zk (fun _ a b=>⟨Vw.sat.sub a,b⟩) (P_ rfl (A_ cR_ rfl rfl) rfl (ba_ (p_ 10 rfl zk (B_ x_ aw_ ao_ rfl rfl rfl rfl rfl rfl fun b2=>Zz 2 ?_)))))
                    refine S_ (fun _ a b=>⟨Vw.sat.sub a.tail,b⟩) (p_ 11 rfl zk (d_ (cU_ ⟨3,([123]++a++[125]),[],([123]++b++[125]),ro,[],[],0,0,0⟩ frm [] q hq (by omega)) rfl (.cons _ (@List.perm_append_comm _ [_] _)) zt rfl fun x=>?_))
                    obtain⟨q2,hq2⟩:=x
                    have hb2:=aT_ frm [] ⟨3,([123]++a++[125]),[],([123]++b++[125]),ro,[],[],0,0,0⟩
                    refine u_ (@List.perm_append_comm _ _ [_]) (Zz 2 ?_)
                    refine S_ (fun _ a b=>⟨Vw.sat.sub a,b⟩) (Zz 2 ?_)
                    have e:Ax.pieces frm ⟨k,op,(.mk kl nl ll hl al cl pl),(.mk kr nr lr hr ar cr pr),ad,cap,rs,ro,a,b⟩=(ins frm [] ⟨3,([123]++a++[125]),[],([123]++b++[125]),ro,[],[],0,0,0⟩):=by
                      unfold Ax.pieces
                      dsimp only
                      repeat (first|rfl|(rw[if_pos (by omega)])|(rw[if_neg (by omega)]))
                    exact dS_ ef_ ⟨q2,by rw[e];exact hq2⟩ rfl (F:=[_]) (@List.perm_append_comm _ [_] _) zt
                · skip
                  try dsimp only[Con.kind,Con.parts,Con.name,Con.lo,Con.hi,Con.cap,Con.ad]at hr8
                  obtain⟨fr,zr⟩:=Con.check_zero (G.right (by show k≤4∨k=8;omega))
                  dsimp only at fr zr
                  refine Zz 9 ?_
                  refine ax_ (eA_ (kb:=kb) (bk:=bk) (bs:=br) _ (.mk kr nr lr hr ar cr pr) (Nat.le_refl _) hok.right fr [] q hq (by omega)) rfl rfl (@List.perm_append_comm _ [_] _) (fun v _ h=>by exact⟨h.2.2.2.1.2.1,h.2.2.2.2.1,h.1,h.2.2.1,trivial⟩) rfl fun x=>?_
                  obtain⟨q3,hq3⟩:=x
                  have hb3:=Con.rightP_len frm _ (.mk kr nr lr hr ar cr pr) (Nat.le_refl _) []
                  refine u_ (@List.perm_append_comm _ _ [_]) (Zz 2 ?_)
                  refine bf_ [(b1,.cells #[.int .i64 k,.bool op,.int .i64 kl,str nl,.int .i64 ll,.int .i64 hl,.slice al pl.length cl,.int .i64 kr,str nr,.int .i64 lr,.int .i64 hr,.slice ar pr.length cr,.slice ad rs.length cap,str ro,str a,str b] 48 (0,0))] zk ?_
                  refine Q_ 5 [0,1,2,4,5] zk (fun _ a b=>⟨Vw.sat.sub a,b⟩) (Zz 6 ?_)
                  refine p_ 3 rfl zk (d_ (ca_ a hok.a) rfl (.refl _) zt rfl fun _=>Zz 2 ?_)
                  refine S_ (fun _ a b=>⟨Vw.sat.sub a,b⟩) (p_ 6 rfl zk (d_ (bM_ (.mk kr nr lr hr ar cr pr) hok.right) rfl (.refl _) (fun v _ h=>⟨h.2.2.2.1.2.1,h.2.2.2.2.1,trivial⟩) rfl fun _=>Zz 2 ?_))
                  refine S_ (fun _ a b=>⟨Vw.sat.sub a,b⟩) (Q_ 2 [7] zk (fun _ a b=>⟨Vw.sat.sub a,b⟩) (P_ rfl (A_ cR_ rfl rfl) rfl (ba_ (p_ 8 rfl zk (B_ x_ aw_ ao_ rfl rfl rfl rfl rfl rfl fun b3=>Zz 2 ?_)))))
                  refine S_ (fun _ a b=>⟨Vw.sat.sub a.tail,b⟩) (p_ 9 rfl zk (d_ (cU_ ⟨1,([123]++a++[125]),[],(Con.atom (.mk kr nr lr hr ar cr pr)),[],[],[],0,0,0⟩ frm (Con.rightP frm (.mk kr nr lr hr ar cr pr) []) q3 hq3 (by omega)) rfl (.cons _ (@List.perm_append_comm _ [_] _)) zt rfl fun x=>?_))
                  obtain⟨q5,hq5⟩:=x
                  have hb5:=aT_ frm (Con.rightP frm (.mk kr nr lr hr ar cr pr) []) ⟨1,([123]++a++[125]),[],(Con.atom (.mk kr nr lr hr ar cr pr)),[],[],[],0,0,0⟩
                  refine u_ (@List.perm_append_comm _ _ [_]) (Zz 2 ?_)
                  refine S_ (fun _ a b=>⟨Vw.sat.sub a,b⟩) (Zz 2 ?_)
                  have e:Ax.pieces frm ⟨k,op,(.mk kl nl ll hl al cl pl),(.mk kr nr lr hr ar cr pr),ad,cap,rs,ro,a,b⟩=(ins frm (Con.rightP frm (.mk kr nr lr hr ar cr pr) []) ⟨1,([123]++a++[125]),[],(Con.atom (.mk kr nr lr hr ar cr pr)),[],[],[],0,0,0⟩):=by
                    unfold Ax.pieces
                    dsimp only
                    repeat (first|rfl|(rw[if_pos (by omega)])|(rw[if_neg (by omega)]))
                  exact dS_ ef_ ⟨q5,by rw[e];exact hq5⟩ rfl (F:=[_]) (@List.perm_append_comm _ [_] _) zt
              · skip
                try dsimp only[Con.kind,Con.parts,Con.name,Con.lo,Con.hi,Con.cap,Con.ad]at hr7
                refine Zz 8 ?_
                refine c_ (A_ cR_ rfl rfl) rfl (B_ x_ aw_ ao_ rfl rfl rfl rfl rfl rfl fun b4=>d_ (cU_ ⟨7,[],[],[],ro,[],[],0,0,0⟩ frm [] q hq (by omega)) rfl (.cons _ (@List.perm_append_comm _ [_] _)) zt rfl fun x=>?_)
                obtain⟨q6,hq6⟩:=x
                have hb6:=aT_ frm [] ⟨7,[],[],[],ro,[],[],0,0,0⟩
                refine u_ (@List.perm_append_comm _ _ [_]) (Zz 2 ?_)
                have e:Ax.pieces frm ⟨k,op,(.mk kl nl ll hl al cl pl),(.mk kr nr lr hr ar cr pr),ad,cap,rs,ro,a,b⟩=(ins frm [] ⟨7,[],[],[],ro,[],[],0,0,0⟩):=by
                  unfold Ax.pieces
                  dsimp only
                  repeat (first|rfl|(rw[if_pos (by omega)])|(rw[if_neg (by omega)]))
                exact dS_ ef_ ⟨q6,by rw[e];exact hq6⟩ rfl (F:=[_]) (@List.perm_append_comm _ [_] _) zt
            · skip
              try dsimp only[Con.kind,Con.parts,Con.name,Con.lo,Con.hi,Con.cap,Con.ad]at hr6
              have hch:=G.chain hr6
              dsimp only at hch
              have hn0:0<rs.length:=by omega
              obtain⟨r0,hr0⟩:∃ r0,rs[0]? = some r0:=⟨_,List.getElem?_eq_getElem hn0⟩
              refine Zz 8 ?_
              refine c_ (C_ t_ ah_ rfl rfl (fun v _ h=>q_ (n:=1) ak_ (by decide) (h.2.2.2.1.2.2) hr0) (by omega) (by first|omega|(simp only[Con.parts];omega)|(simp[Con.parts];done))) rfl ?_
              refine c_ (bt_ (ad:=ad) aL_ rfl (fun v _ h=>h.2.2.2.1.2.2) (o_ ak_ hr0 0 _ rfl)) rfl (Zz 7 ?_)
              refine c_ (df_ (i:=1) (j:=rs.length) (kl:=.i64) (kh:=.i64) t_ ah_ rfl rfl rfl (by omega) (by omega)) rfl (Zz 5 ?_)
              refine bp_ [(0,zp_ kb 0),(3,zp_ b1 0),(6,str r0),(130,.slice (sad ad cap 1 1) (rs.length - 1) (cap - 1)),(131,.int .i64 ((rs.length - 1:Nat):Int)),(132,.int .i64 ((0:Nat):Int))] zl ?_
              have hr24:=Con.plain_len (G.roles r0 (List.mem_of_getElem? hr0))
              refine bG_ (ι:={x:Nat×Str×List Pc×CS // x.1≤rs.length - 1∧CInv x.2.2.1 x.2.2.2∧x.2.2.1.length≤x.1∧x.2.1.length≤30*(x.1+1)∧Ax.chainP frm ro (rs.drop 1) r0 []=Ax.chainP frm ro (rs.drop (1+x.1)) x.2.1 x.2.2.1}) (fun x=>[(0,zp_ kb 0),(3,zp_ b1 0),(6,str x.1.2.1),(130,.slice (sad ad cap 1 1) (rs.length - 1) (cap - 1)),(131,.int .i64 ((rs.length - 1:Nat):Int)),(132,.int .i64 (x.1.1:Int))]) (fun x=>_::eI_ kb frm x.1.2.2.2) (fun _=>_) (fun x=>rs.length - 1 - x.1.1) ⟨(0,r0,[],q),by simp,hq,by simp,by simp;omega,rfl⟩ ?_
              rintro ⟨⟨i,f,l1,q2⟩,hj⟩
              dsimp only at hj
              refine bp_ [(0,zp_ kb 0),(3,zp_ b1 0),(6,str f),(130,.slice (sad ad cap 1 1) (rs.length - 1) (cap - 1)),(131,.int .i64 ((rs.length - 1:Nat):Int)),(132,.int .i64 (i:Int))] zl ?_
              refine Zi 2 (fun hr10=>?_) fun hr10=>?_
              · skip
                try dsimp only[Con.kind,Con.parts,Con.name,Con.lo,Con.hi,Con.cap,Con.ad]at hr10
                refine Zz 6 ?_
                have e:Ax.pieces frm ⟨k,op,(.mk kl nl ll hl al cl pl),(.mk kr nr lr hr ar cr pr),ad,cap,rs,ro,a,b⟩=Ax.chainP frm ro (rs.drop 1) r0 []:=by
                  unfold Ax.pieces
                  dsimp only
                  rw[od_ hr0]
                  repeat (first|rfl|(rw[if_pos (by omega)])|(rw[if_neg (by omega)]))
                have e2:=hj.2.2.2.2
                rw[List.drop_of_length_le (show rs.length≤1+i by omega)]at e2
                rw[e2]at e
                exact dS_ ef_ ⟨q2,by rw[e];exact hj.2.1⟩ rfl (F:=[_]) (@List.perm_append_comm _ [_] _) zt
              · skip
                try dsimp only[Con.kind,Con.parts,Con.name,Con.lo,Con.hi,Con.cap,Con.ad]at hr10
                have hlt:i<rs.length - 1:=by omega
                obtain⟨g,hp⟩:∃ g,(rs.drop 1)[i]? = some g:=⟨_,List.getElem?_eq_getElem (by simp;omega)⟩
                have hp1:rs[1+i]? = some g:=by rw[← List.getElem?_drop];exact hp
                have hg:=Con.plain_len (G.roles g (List.mem_of_getElem? hp1))
                have hro:=Con.plain_len (G.role (by show k=4∨k=5∨k=6∨k=7∨k=9;omega))
                dsimp only at hro
                refine Zz 11 ?_
                refine c_ (C_ t_ ah_ rfl rfl (fun v _ h=>q_ (n:=1) ak_ (by decide) (bA_.rest ak_ h.2.2.2.1.2.2 hok.len 1) hp) (by omega) (by first|omega|(simp only[Con.parts];omega)|(simp[Con.parts];done))) rfl ?_
                refine c_ (bt_ (ad:=(sad ad cap 1 1)) aL_ rfl (fun v _ h=>bA_.rest ak_ h.2.2.2.1.2.2 hok.len 1) (o_ ak_ hp 0 _ rfl)) rfl (Zi 19 (fun hr11=>?_) fun hr11=>?_)
                · skip
                  try dsimp only[Con.kind,Con.parts,Con.name,Con.lo,Con.hi,Con.cap,Con.ad]at hr11
                  refine Zz 11 ?_
                  refine c_ (A_ cR_ rfl rfl) rfl (B_ x_ aw_ ao_ rfl rfl rfl rfl rfl rfl fun b5=>d_ (cU_ ⟨6,[],[],[],f,g,ro,0,0,0⟩ frm l1 q2 hj.2.1 (by omega)) rfl (.cons _ (@List.perm_append_comm _ [_] _)) zt rfl fun x=>?_)
                  obtain⟨q7,hq7⟩:=x
                  have hb7:=aT_ frm l1 ⟨6,[],[],[],f,g,ro,0,0,0⟩
                  refine u_ (@List.perm_append_comm _ _ [_]) (Zz 12 ?_)
                  have hd1:=ik_ hp1
                  have hd2:(rs.drop (1+i+1)=[])↔¬ (i+2<rs.length):=by rw[List.drop_eq_nil_iff];omega
                  exact z_ ⟨(i+1,ro,(ins frm l1 ⟨6,[],[],[],f,g,ro,0,0,0⟩),q7),by dsimp only;omega,hq7,by dsimp only;omega,by dsimp only;omega,by rw[hj.2.2.2.2,hd1];simp only[Ax.chainP];rw[if_pos (by rw[hd2];omega),show 1+(i+1)=1+i+1 by omega]⟩ (by simp;omega) zl (F:=[]) (by rw[List.append_nil];exact .refl _) zh
                · skip
                  try dsimp only[Con.kind,Con.parts,Con.name,Con.lo,Con.hi,Con.cap,Con.ad]at hr11
                  refine Zz 5 ?_
                  refine c_ (cD_ rfl rfl (by simp only[List.length_append,List.length_cons,List.length_nil];omega)) rfl ?_
                  refine Zz 1 ?_
                  refine c_ (cD_ rfl rfl (by simp only[List.length_append,List.length_cons,List.length_nil];omega)) rfl ?_
                  refine Zz 9 ?_
                  refine c_ (A_ cR_ rfl rfl) rfl (B_ x_ aw_ ao_ rfl rfl rfl rfl rfl rfl fun b6=>d_ (cU_ ⟨6,[],[],[],f,g,(f++[46])++g,0,0,0⟩ frm l1 q2 hj.2.1 (by omega)) rfl (.cons _ (@List.perm_append_comm _ [_] _)) zt rfl fun x=>?_)
                  obtain⟨q8,hq8⟩:=x
                  have hb8:=aT_ frm l1 ⟨6,[],[],[],f,g,(f++[46])++g,0,0,0⟩
                  refine u_ (@List.perm_append_comm _ _ [_]) (Zz 12 ?_)
                  have hd1:=ik_ hp1
                  have hd2:(rs.drop (1+i+1)=[])↔¬ (i+2<rs.length):=by rw[List.drop_eq_nil_iff];omega
                  exact z_ ⟨(i+1,(f++[46])++g,(ins frm l1 ⟨6,[],[],[],f,g,(f++[46])++g,0,0,0⟩),q8),by dsimp only;omega,hq8,by dsimp only;omega,by simp only[List.length_append,List.length_cons,List.length_nil];omega,by rw[hj.2.2.2.2,hd1];simp only[Ax.chainP];rw[if_neg (by rw[hd2];omega),show 1+(i+1)=1+i+1 by omega]⟩ (by simp;omega) zl (F:=[]) (by rw[List.append_nil];exact .refl _) zh
          · skip
            try dsimp only[Con.kind,Con.parts,Con.name,Con.lo,Con.hi,Con.cap,Con.ad]at hr5
            have hn0:0<rs.length:=by have:=G.one hr5;dsimp only at this;omega
            obtain⟨r0,hr0⟩:∃ r0,rs[0]? = some r0:=⟨_,List.getElem?_eq_getElem hn0⟩
            refine Zz 4 ?_
            refine bf_ [(b1,.cells #[.int .i64 k,.bool op,.int .i64 kl,str nl,.int .i64 ll,.int .i64 hl,.slice al pl.length cl,.int .i64 kr,str nr,.int .i64 lr,.int .i64 hr,.slice ar pr.length cr,.slice ad rs.length cap,str ro,str a,str b] 48 (0,0))] zk ?_
            refine Q_ 2 [0,1,2,3,4,5,6,7] zk (fun _ a b=>⟨Vw.sat.sub a,b⟩) (Zz 3 ?_)
            refine P_ rfl (C_ t_ ah_ rfl rfl (fun v _ h=>q_ (n:=1) ak_ (by decide) (h.2.2.2.1.2.2) hr0) (by omega) (by first|omega|(simp only[Con.parts];omega)|(simp[Con.parts];done))) rfl ?_
            refine P_ rfl (bt_ (ad:=ad) aL_ rfl (fun v _ h=>h.2.2.2.1.2.2) (o_ ak_ hr0 0 _ rfl)) rfl (Zz 2 ?_)
            refine P_ rfl (A_ cR_ rfl rfl) rfl (ba_ (p_ 8 rfl zk (B_ x_ aw_ ao_ rfl rfl rfl rfl rfl rfl fun b7=>Zz 2 ?_)))
            refine S_ (fun _ a b=>⟨Vw.sat.sub a.tail,b⟩) (p_ 9 rfl zk (d_ (cU_ ⟨5,[],[],[],r0,[],ro,0,0,0⟩ frm [] q hq (by omega)) rfl (.cons _ (@List.perm_append_comm _ [_] _)) zt rfl fun x=>?_))
            obtain⟨q10,hq10⟩:=x
            have hb10:=aT_ frm [] ⟨5,[],[],[],r0,[],ro,0,0,0⟩
            refine u_ (@List.perm_append_comm _ _ [_]) (Zz 2 ?_)
            refine S_ (fun _ a b=>⟨Vw.sat.sub a,b⟩) (Zz 2 ?_)
            have e:Ax.pieces frm ⟨k,op,(.mk kl nl ll hl al cl pl),(.mk kr nr lr hr ar cr pr),ad,cap,rs,ro,a,b⟩=(ins frm [] ⟨5,[],[],[],r0,[],ro,0,0,0⟩):=by
              unfold Ax.pieces
              dsimp only
              rw[od_ hr0]
              repeat (first|rfl|(rw[if_pos (by omega)])|(rw[if_neg (by omega)]))
            exact dS_ ef_ ⟨q10,by rw[e];exact hq10⟩ rfl (F:=[_]) (@List.perm_append_comm _ [_] _) zt
        · skip
          try dsimp only[Con.kind,Con.parts,Con.name,Con.lo,Con.hi,Con.cap,Con.ad]at hr4
          obtain⟨fr,zr⟩:=Con.check_zero (G.right (by show k≤4∨k=8;omega))
          dsimp only at fr zr
          refine Zz 9 ?_
          refine ax_ (eA_ (kb:=kb) (bk:=bk) (bs:=br) _ (.mk kr nr lr hr ar cr pr) (Nat.le_refl _) hok.right fr [] q hq (by omega)) rfl rfl (@List.perm_append_comm _ [_] _) (fun v _ h=>by exact⟨h.2.2.2.1.2.1,h.2.2.2.2.1,h.1,h.2.2.1,trivial⟩) rfl fun x=>?_
          obtain⟨q11,hq11⟩:=x
          have hb11:=Con.rightP_len frm _ (.mk kr nr lr hr ar cr pr) (Nat.le_refl _) []
          refine u_ (@List.perm_append_comm _ _ [_]) (Zz 2 ?_)
          refine bf_ [(b1,.cells #[.int .i64 k,.bool op,.int .i64 kl,str nl,.int .i64 ll,.int .i64 hl,.slice al pl.length cl,.int .i64 kr,str nr,.int .i64 lr,.int .i64 hr,.slice ar pr.length cr,.slice ad rs.length cap,str ro,str a,str b] 48 (0,0))] zk ?_
          refine Q_ 4 [0,1,2,3,4] zk (fun _ a b=>⟨Vw.sat.sub a,b⟩) (Zz 6 ?_)
          refine p_ 5 rfl zk (d_ (bM_ (.mk kr nr lr hr ar cr pr) hok.right) rfl (.refl _) (fun v _ h=>⟨h.2.2.2.1.2.1,h.2.2.2.2.1,trivial⟩) rfl fun _=>Zz 2 ?_)
          refine S_ (fun _ a b=>⟨Vw.sat.sub a,b⟩) (Q_ 2 [6] zk (fun _ a b=>⟨Vw.sat.sub a,b⟩) (P_ rfl (A_ cR_ rfl rfl) rfl (ba_ (p_ 7 rfl zk (B_ x_ aw_ ao_ rfl rfl rfl rfl rfl rfl fun b8=>Zz 2 ?_)))))
          refine S_ (fun _ a b=>⟨Vw.sat.sub a.tail,b⟩) (p_ 8 rfl zk (d_ (cU_ ⟨4,[42],[],(Con.atom (.mk kr nr lr hr ar cr pr)),ro,[],[],0,0,0⟩ frm (Con.rightP frm (.mk kr nr lr hr ar cr pr) []) q11 hq11 (by omega)) rfl (.cons _ (@List.perm_append_comm _ [_] _)) zt rfl fun x=>?_))
          obtain⟨q13,hq13⟩:=x
          have hb13:=aT_ frm (Con.rightP frm (.mk kr nr lr hr ar cr pr) []) ⟨4,[42],[],(Con.atom (.mk kr nr lr hr ar cr pr)),ro,[],[],0,0,0⟩
          refine u_ (@List.perm_append_comm _ _ [_]) (Zz 2 ?_)
          refine S_ (fun _ a b=>⟨Vw.sat.sub a,b⟩) (Zz 2 ?_)
          have e:Ax.pieces frm ⟨k,op,(.mk kl nl ll hl al cl pl),(.mk kr nr lr hr ar cr pr),ad,cap,rs,ro,a,b⟩=(ins frm (Con.rightP frm (.mk kr nr lr hr ar cr pr) []) ⟨4,[42],[],(Con.atom (.mk kr nr lr hr ar cr pr)),ro,[],[],0,0,0⟩):=by
            unfold Ax.pieces
            dsimp only
            repeat (first|rfl|(rw[if_pos (by omega)])|(rw[if_neg (by omega)]))
          exact dS_ ef_ ⟨q13,by rw[e];exact hq13⟩ rfl (F:=[_]) (@List.perm_append_comm _ [_] _) zt
      · skip
        try dsimp only[Con.kind,Con.parts,Con.name,Con.lo,Con.hi,Con.cap,Con.ad]at hr3
        obtain⟨fl,zl⟩:=Con.check_zero (G.left (by show k≤3;omega))
        dsimp only at fl zl
        obtain⟨fr,zr⟩:=Con.check_zero (G.right (by show k≤4∨k=8;omega))
        dsimp only at fr zr
        refine Zz 9 ?_
        refine ax_ (fs_ (kb:=kb) (bk:=bk) (bs:=bl) _ (.mk kl nl ll hl al cl pl) (Nat.le_refl _) hok.left fl [] q hq (by omega)) rfl rfl (@List.perm_append_comm _ [_] _) (fun v _ h=>by exact⟨h.2.2.2.1.1,h.2.2.2.2.1,h.1,h.2.1,trivial⟩) rfl fun x=>?_
        obtain⟨q14,hq14⟩:=x
        have hb14:=Con.leftP_len frm _ (.mk kl nl ll hl al cl pl) (Nat.le_refl _) []
        refine u_ (@List.perm_append_comm _ _ [_]) (Zz 7 ?_)
        refine ax_ (fs_ (kb:=kb) (bk:=bk) (bs:=bl) _ (.mk kr nr lr hr ar cr pr) (Nat.le_refl _) hok.right fr (Con.leftP frm (.mk kl nl ll hl al cl pl) []) q14 hq14 (by omega)) rfl rfl (@List.perm_append_comm _ [_] _) (fun v _ h=>by exact⟨h.2.2.2.1.2.1,h.2.2.2.2.1,h.1,h.2.1,trivial⟩) rfl fun x=>?_
        obtain⟨q15,hq15⟩:=x
        have hb15:=Con.leftP_len frm _ (.mk kr nr lr hr ar cr pr) (Nat.le_refl _) (Con.leftP frm (.mk kl nl ll hl al cl pl) [])
        refine u_ (@List.perm_append_comm _ _ [_]) (Zz 2 ?_)
        refine bf_ [(b1,.cells #[.int .i64 k,.bool op,.int .i64 kl,str nl,.int .i64 ll,.int .i64 hl,.slice al pl.length cl,.int .i64 kr,str nr,.int .i64 lr,.int .i64 hr,.slice ar pr.length cr,.slice ad rs.length cap,str ro,str a,str b] 48 (0,0))] zk ?_
        refine Q_ 5 [0,1,2,4,5] zk (fun _ a b=>⟨Vw.sat.sub a,b⟩) (Zz 6 ?_)
        refine p_ 3 rfl zk (d_ (bM_ (.mk kl nl ll hl al cl pl) hok.left) rfl (.refl _) (fun v _ h=>⟨h.2.2.2.1.1,h.2.2.2.2.1,trivial⟩) rfl fun _=>Zz 2 ?_)
        refine S_ (fun _ a b=>⟨Vw.sat.sub a,b⟩) (p_ 6 rfl zk (d_ (bM_ (.mk kr nr lr hr ar cr pr) hok.right) rfl (.refl _) (fun v _ h=>⟨h.2.2.2.1.2.1,h.2.2.2.2.1,trivial⟩) rfl fun _=>Zz 2 ?_))
        refine S_ (fun _ a b=>⟨Vw.sat.sub a,b⟩) (Q_ 2 [7] zk (fun _ a b=>⟨Vw.sat.sub a,b⟩) (P_ rfl (A_ cR_ rfl rfl) rfl (ba_ (p_ 8 rfl zk (B_ x_ aw_ ao_ rfl rfl rfl rfl rfl rfl fun b9=>Zz 2 ?_)))))
        refine S_ (fun _ a b=>⟨Vw.sat.sub a.tail,b⟩) (p_ 9 rfl zk (d_ (cU_ ⟨2,(Con.atom (.mk kl nl ll hl al cl pl)),(Con.atom (.mk kr nr lr hr ar cr pr)),[33],[],[],[],0,0,0⟩ frm (Con.leftP frm (.mk kr nr lr hr ar cr pr) (Con.leftP frm (.mk kl nl ll hl al cl pl) [])) q15 hq15 (by omega)) rfl (.cons _ (@List.perm_append_comm _ [_] _)) zt rfl fun x=>?_))
        obtain⟨q17,hq17⟩:=x
        have hb17:=aT_ frm (Con.leftP frm (.mk kr nr lr hr ar cr pr) (Con.leftP frm (.mk kl nl ll hl al cl pl) [])) ⟨2,(Con.atom (.mk kl nl ll hl al cl pl)),(Con.atom (.mk kr nr lr hr ar cr pr)),[33],[],[],[],0,0,0⟩
        refine u_ (@List.perm_append_comm _ _ [_]) (Zz 2 ?_)
        refine S_ (fun _ a b=>⟨Vw.sat.sub a,b⟩) (Zz 2 ?_)
        have e:Ax.pieces frm ⟨k,op,(.mk kl nl ll hl al cl pl),(.mk kr nr lr hr ar cr pr),ad,cap,rs,ro,a,b⟩=(ins frm (Con.leftP frm (.mk kr nr lr hr ar cr pr) (Con.leftP frm (.mk kl nl ll hl al cl pl) [])) ⟨2,(Con.atom (.mk kl nl ll hl al cl pl)),(Con.atom (.mk kr nr lr hr ar cr pr)),[33],[],[],[],0,0,0⟩):=by
          unfold Ax.pieces
          dsimp only
          repeat (first|rfl|(rw[if_pos (by omega)])|(rw[if_neg (by omega)]))
        exact dS_ ef_ ⟨q17,by rw[e];exact hq17⟩ rfl (F:=[_]) (@List.perm_append_comm _ [_] _) zt
    · skip
      try dsimp only[Con.kind,Con.parts,Con.name,Con.lo,Con.hi,Con.cap,Con.ad]at hr2
      obtain⟨fl,zl⟩:=Con.check_zero (G.left (by show k≤3;omega))
      dsimp only at fl zl
      obtain⟨fr,zr⟩:=Con.check_zero (G.right (by show k≤4∨k=8;omega))
      dsimp only at fr zr
      refine Zz 9 ?_
      refine ax_ (fs_ (kb:=kb) (bk:=bk) (bs:=bl) _ (.mk kl nl ll hl al cl pl) (Nat.le_refl _) hok.left fl [] q hq (by omega)) rfl rfl (@List.perm_append_comm _ [_] _) (fun v _ h=>by exact⟨h.2.2.2.1.1,h.2.2.2.2.1,h.1,h.2.1,trivial⟩) rfl fun x=>?_
      obtain⟨q18,hq18⟩:=x
      have hb18:=Con.leftP_len frm _ (.mk kl nl ll hl al cl pl) (Nat.le_refl _) []
      refine u_ (@List.perm_append_comm _ _ [_]) (Zz 7 ?_)
      refine ax_ (eA_ (kb:=kb) (bk:=bk) (bs:=br) _ (.mk kr nr lr hr ar cr pr) (Nat.le_refl _) hok.right fr (Con.leftP frm (.mk kl nl ll hl al cl pl) []) q18 hq18 (by omega)) rfl rfl (@List.perm_append_comm _ [_] _) (fun v _ h=>by exact⟨h.2.2.2.1.2.1,h.2.2.2.2.1,h.1,h.2.2.1,trivial⟩) rfl fun x=>?_
      obtain⟨q19,hq19⟩:=x
      have hb19:=Con.rightP_len frm _ (.mk kr nr lr hr ar cr pr) (Nat.le_refl _) (Con.leftP frm (.mk kl nl ll hl al cl pl) [])
      refine u_ (@List.perm_append_comm _ _ [_]) (Zz 3 ?_)
      refine bf_ [(b1,.cells #[.int .i64 k,.bool op,.int .i64 kl,str nl,.int .i64 ll,.int .i64 hl,.slice al pl.length cl,.int .i64 kr,str nr,.int .i64 lr,.int .i64 hr,.slice ar pr.length cr,.slice ad rs.length cap,str ro,str a,str b] 48 (0,0))] zk ?_
      refine Q_ 5 [0,1,2,4,5] zk (fun _ a b=>⟨Vw.sat.sub a,b⟩) (Zz 6 ?_)
      refine p_ 3 rfl zk (d_ (bM_ (.mk kl nl ll hl al cl pl) hok.left) rfl (.refl _) (fun v _ h=>⟨h.2.2.2.1.1,h.2.2.2.2.1,trivial⟩) rfl fun _=>Zz 2 ?_)
      refine S_ (fun _ a b=>⟨Vw.sat.sub a,b⟩) (p_ 6 rfl zk (d_ (bM_ (.mk kr nr lr hr ar cr pr) hok.right) rfl (.refl _) (fun v _ h=>⟨h.2.2.2.1.2.1,h.2.2.2.2.1,trivial⟩) rfl fun _=>Zz 2 ?_))
      refine S_ (fun _ a b=>⟨Vw.sat.sub a,b⟩) (Q_ 2 [7] zk (fun _ a b=>⟨Vw.sat.sub a,b⟩) (P_ rfl (A_ cR_ rfl rfl) rfl (ba_ (p_ 8 rfl zk (B_ x_ aw_ ao_ rfl rfl rfl rfl rfl rfl fun b10=>Zz 2 ?_)))))
      refine S_ (fun _ a b=>⟨Vw.sat.sub a.tail,b⟩) (p_ 9 rfl zk (d_ (cU_ ⟨1,(Con.atom (.mk kl nl ll hl al cl pl)),[],(Con.atom (.mk kr nr lr hr ar cr pr)),[],[],[],0,0,0⟩ frm (Con.rightP frm (.mk kr nr lr hr ar cr pr) (Con.leftP frm (.mk kl nl ll hl al cl pl) [])) q19 hq19 (by omega)) rfl (.cons _ (@List.perm_append_comm _ [_] _)) zt rfl fun x=>?_))
      obtain⟨q21,hq21⟩:=x
      have hb21:=aT_ frm (Con.rightP frm (.mk kr nr lr hr ar cr pr) (Con.leftP frm (.mk kl nl ll hl al cl pl) [])) ⟨1,(Con.atom (.mk kl nl ll hl al cl pl)),[],(Con.atom (.mk kr nr lr hr ar cr pr)),[],[],[],0,0,0⟩
      refine u_ (@List.perm_append_comm _ _ [_]) (Zz 2 ?_)
      refine S_ (fun _ a b=>⟨Vw.sat.sub a,b⟩) (Zz 7 ?_)
      refine ax_ (fs_ (kb:=kb) (bk:=bk) (bs:=bl) _ (.mk kr nr lr hr ar cr pr) (Nat.le_refl _) hok.right fr (ins frm (Con.rightP frm (.mk kr nr lr hr ar cr pr) (Con.leftP frm (.mk kl nl ll hl al cl pl) [])) ⟨1,(Con.atom (.mk kl nl ll hl al cl pl)),[],(Con.atom (.mk kr nr lr hr ar cr pr)),[],[],[],0,0,0⟩) q21 hq21 (by omega)) rfl rfl (@List.perm_append_comm _ [_] _) (fun v _ h=>by exact⟨h.2.2.2.1.2.1,h.2.2.2.2.1,h.1,h.2.1,trivial⟩) rfl fun x=>?_
      obtain⟨q22,hq22⟩:=x
      have hb22:=Con.leftP_len frm _ (.mk kr nr lr hr ar cr pr) (Nat.le_refl _) (ins frm (Con.rightP frm (.mk kr nr lr hr ar cr pr) (Con.leftP frm (.mk kl nl ll hl al cl pl) [])) ⟨1,(Con.atom (.mk kl nl ll hl al cl pl)),[],(Con.atom (.mk kr nr lr hr ar cr pr)),[],[],[],0,0,0⟩)
      refine u_ (@List.perm_append_comm _ _ [_]) (Zz 7 ?_)
      refine ax_ (eA_ (kb:=kb) (bk:=bk) (bs:=br) _ (.mk kl nl ll hl al cl pl) (Nat.le_refl _) hok.left fl (Con.leftP frm (.mk kr nr lr hr ar cr pr) (ins frm (Con.rightP frm (.mk kr nr lr hr ar cr pr) (Con.leftP frm (.mk kl nl ll hl al cl pl) [])) ⟨1,(Con.atom (.mk kl nl ll hl al cl pl)),[],(Con.atom (.mk kr nr lr hr ar cr pr)),[],[],[],0,0,0⟩)) q22 hq22 (by omega)) rfl rfl (@List.perm_append_comm _ [_] _) (fun v _ h=>by exact⟨h.2.2.2.1.1,h.2.2.2.2.1,h.1,h.2.2.1,trivial⟩) rfl fun x=>?_
      obtain⟨q23,hq23⟩:=x
      have hb23:=Con.rightP_len frm _ (.mk kl nl ll hl al cl pl) (Nat.le_refl _) (Con.leftP frm (.mk kr nr lr hr ar cr pr) (ins frm (Con.rightP frm (.mk kr nr lr hr ar cr pr) (Con.leftP frm (.mk kl nl ll hl al cl pl) [])) ⟨1,(Con.atom (.mk kl nl ll hl al cl pl)),[],(Con.atom (.mk kr nr lr hr ar cr pr)),[],[],[],0,0,0⟩))
      refine u_ (@List.perm_append_comm _ _ [_]) (Zz 2 ?_)
      refine bf_ [(b1,.cells #[.int .i64 k,.bool op,.int .i64 kl,str nl,.int .i64 ll,.int .i64 hl,.slice al pl.length cl,.int .i64 kr,str nr,.int .i64 lr,.int .i64 hr,.slice ar pr.length cr,.slice ad rs.length cap,str ro,str a,str b] 48 (0,0))] zk ?_
      refine Q_ 5 [0,1,2,4,5] zk (fun _ a b=>⟨Vw.sat.sub a,b⟩) (Zz 6 ?_)
      refine p_ 3 rfl zk (d_ (bM_ (.mk kr nr lr hr ar cr pr) hok.right) rfl (.refl _) (fun v _ h=>⟨h.2.2.2.1.2.1,h.2.2.2.2.1,trivial⟩) rfl fun _=>Zz 2 ?_)
      refine S_ (fun _ a b=>⟨Vw.sat.sub a,b⟩) (p_ 6 rfl zk (d_ (bM_ (.mk kl nl ll hl al cl pl) hok.left) rfl (.refl _) (fun v _ h=>⟨h.2.2.2.1.1,h.2.2.2.2.1,trivial⟩) rfl fun _=>Zz 2 ?_))
      refine S_ (fun _ a b=>⟨Vw.sat.sub a,b⟩) (Q_ 2 [7] zk (fun _ a b=>⟨Vw.sat.sub a,b⟩) (P_ rfl (A_ cR_ rfl rfl) rfl (ba_ (p_ 8 rfl zk (B_ x_ aw_ ao_ rfl rfl rfl rfl rfl rfl fun b11=>Zz 2 ?_)))))
      refine S_ (fun _ a b=>⟨Vw.sat.sub a.tail,b⟩) (p_ 9 rfl zk (d_ (cU_ ⟨1,(Con.atom (.mk kr nr lr hr ar cr pr)),[],(Con.atom (.mk kl nl ll hl al cl pl)),[],[],[],0,0,0⟩ frm (Con.rightP frm (.mk kl nl ll hl al cl pl) (Con.leftP frm (.mk kr nr lr hr ar cr pr) (ins frm (Con.rightP frm (.mk kr nr lr hr ar cr pr) (Con.leftP frm (.mk kl nl ll hl al cl pl) [])) ⟨1,(Con.atom (.mk kl nl ll hl al cl pl)),[],(Con.atom (.mk kr nr lr hr ar cr pr)),[],[],[],0,0,0⟩))) q23 hq23 (by omega)) rfl (.cons _ (@List.perm_append_comm _ [_] _)) zt rfl fun x=>?_))
      obtain⟨q25,hq25⟩:=x
      have hb25:=aT_ frm (Con.rightP frm (.mk kl nl ll hl al cl pl) (Con.leftP frm (.mk kr nr lr hr ar cr pr) (ins frm (Con.rightP frm (.mk kr nr lr hr ar cr pr) (Con.leftP frm (.mk kl nl ll hl al cl pl) [])) ⟨1,(Con.atom (.mk kl nl ll hl al cl pl)),[],(Con.atom (.mk kr nr lr hr ar cr pr)),[],[],[],0,0,0⟩))) ⟨1,(Con.atom (.mk kr nr lr hr ar cr pr)),[],(Con.atom (.mk kl nl ll hl al cl pl)),[],[],[],0,0,0⟩
      refine u_ (@List.perm_append_comm _ _ [_]) (Zz 2 ?_)
      refine S_ (fun _ a b=>⟨Vw.sat.sub a,b⟩) (Zz 2 ?_)
      have e:Ax.pieces frm ⟨k,op,(.mk kl nl ll hl al cl pl),(.mk kr nr lr hr ar cr pr),ad,cap,rs,ro,a,b⟩=(ins frm (Con.rightP frm (.mk kl nl ll hl al cl pl) (Con.leftP frm (.mk kr nr lr hr ar cr pr) (ins frm (Con.rightP frm (.mk kr nr lr hr ar cr pr) (Con.leftP frm (.mk kl nl ll hl al cl pl) [])) ⟨1,(Con.atom (.mk kl nl ll hl al cl pl)),[],(Con.atom (.mk kr nr lr hr ar cr pr)),[],[],[],0,0,0⟩))) ⟨1,(Con.atom (.mk kr nr lr hr ar cr pr)),[],(Con.atom (.mk kl nl ll hl al cl pl)),[],[],[],0,0,0⟩):=by
        unfold Ax.pieces
        dsimp only
        repeat (first|rfl|(rw[if_pos (by omega)])|(rw[if_neg (by omega)]))
      exact dS_ ef_ ⟨q25,by rw[e];exact hq25⟩ rfl (F:=[_]) (@List.perm_append_comm _ [_] _) zt
  · skip
    try dsimp only[Con.kind,Con.parts,Con.name,Con.lo,Con.hi,Con.cap,Con.ad]at hr1
    obtain⟨fl,zl⟩:=Con.check_zero (G.left (by show k≤3;omega))
    dsimp only at fl zl
    obtain⟨fr,zr⟩:=Con.check_zero (G.right (by show k≤4∨k=8;omega))
    dsimp only at fr zr
    refine Zz 9 ?_
    refine ax_ (fs_ (kb:=kb) (bk:=bk) (bs:=bl) _ (.mk kl nl ll hl al cl pl) (Nat.le_refl _) hok.left fl [] q hq (by omega)) rfl rfl (@List.perm_append_comm _ [_] _) (fun v _ h=>by exact⟨h.2.2.2.1.1,h.2.2.2.2.1,h.1,h.2.1,trivial⟩) rfl fun x=>?_
    obtain⟨q26,hq26⟩:=x
    have hb26:=Con.leftP_len frm _ (.mk kl nl ll hl al cl pl) (Nat.le_refl _) []
    refine u_ (@List.perm_append_comm _ _ [_]) (Zz 7 ?_)
    refine ax_ (eA_ (kb:=kb) (bk:=bk) (bs:=br) _ (.mk kr nr lr hr ar cr pr) (Nat.le_refl _) hok.right fr (Con.leftP frm (.mk kl nl ll hl al cl pl) []) q26 hq26 (by omega)) rfl rfl (@List.perm_append_comm _ [_] _) (fun v _ h=>by exact⟨h.2.2.2.1.2.1,h.2.2.2.2.1,h.1,h.2.2.1,trivial⟩) rfl fun x=>?_
    obtain⟨q27,hq27⟩:=x
    have hb27:=Con.rightP_len frm _ (.mk kr nr lr hr ar cr pr) (Nat.le_refl _) (Con.leftP frm (.mk kl nl ll hl al cl pl) [])
    refine u_ (@List.perm_append_comm _ _ [_]) (Zz 2 ?_)
    refine bf_ [(b1,.cells #[.int .i64 k,.bool op,.int .i64 kl,str nl,.int .i64 ll,.int .i64 hl,.slice al pl.length cl,.int .i64 kr,str nr,.int .i64 lr,.int .i64 hr,.slice ar pr.length cr,.slice ad rs.length cap,str ro,str a,str b] 48 (0,0))] zk ?_
    refine Q_ 5 [0,1,2,4,5] zk (fun _ a b=>⟨Vw.sat.sub a,b⟩) (Zz 6 ?_)
    refine p_ 3 rfl zk (d_ (bM_ (.mk kl nl ll hl al cl pl) hok.left) rfl (.refl _) (fun v _ h=>⟨h.2.2.2.1.1,h.2.2.2.2.1,trivial⟩) rfl fun _=>Zz 2 ?_)
    refine S_ (fun _ a b=>⟨Vw.sat.sub a,b⟩) (p_ 6 rfl zk (d_ (bM_ (.mk kr nr lr hr ar cr pr) hok.right) rfl (.refl _) (fun v _ h=>⟨h.2.2.2.1.2.1,h.2.2.2.2.1,trivial⟩) rfl fun _=>Zz 2 ?_))
    refine S_ (fun _ a b=>⟨Vw.sat.sub a,b⟩) (Q_ 2 [7] zk (fun _ a b=>⟨Vw.sat.sub a,b⟩) (P_ rfl (A_ cR_ rfl rfl) rfl (ba_ (p_ 8 rfl zk (B_ x_ aw_ ao_ rfl rfl rfl rfl rfl rfl fun b12=>Zz 2 ?_)))))
    refine S_ (fun _ a b=>⟨Vw.sat.sub a.tail,b⟩) (p_ 9 rfl zk (d_ (cU_ ⟨1,(Con.atom (.mk kl nl ll hl al cl pl)),[],(Con.atom (.mk kr nr lr hr ar cr pr)),[],[],[],0,0,0⟩ frm (Con.rightP frm (.mk kr nr lr hr ar cr pr) (Con.leftP frm (.mk kl nl ll hl al cl pl) [])) q27 hq27 (by omega)) rfl (.cons _ (@List.perm_append_comm _ [_] _)) zt rfl fun x=>?_))
    obtain⟨q29,hq29⟩:=x
    have hb29:=aT_ frm (Con.rightP frm (.mk kr nr lr hr ar cr pr) (Con.leftP frm (.mk kl nl ll hl al cl pl) [])) ⟨1,(Con.atom (.mk kl nl ll hl al cl pl)),[],(Con.atom (.mk kr nr lr hr ar cr pr)),[],[],[],0,0,0⟩
    refine u_ (@List.perm_append_comm _ _ [_]) (Zz 2 ?_)
    refine S_ (fun _ a b=>⟨Vw.sat.sub a,b⟩) (Zz 2 ?_)
    have e:Ax.pieces frm ⟨k,op,(.mk kl nl ll hl al cl pl),(.mk kr nr lr hr ar cr pr),ad,cap,rs,ro,a,b⟩=(ins frm (Con.rightP frm (.mk kr nr lr hr ar cr pr) (Con.leftP frm (.mk kl nl ll hl al cl pl) [])) ⟨1,(Con.atom (.mk kl nl ll hl al cl pl)),[],(Con.atom (.mk kr nr lr hr ar cr pr)),[],[],[],0,0,0⟩):=by
      unfold Ax.pieces
      dsimp only
      repeat (first|rfl|(rw[if_pos (by omega)])|(rw[if_neg (by omega)]))
    exact dS_ ef_ ⟨q29,by rw[e];exact hq29⟩ rfl (F:=[_]) (@List.perm_append_comm _ [_] _) zt
end Go.Proofs.YtamklbgaipakfaaGreatDoor
