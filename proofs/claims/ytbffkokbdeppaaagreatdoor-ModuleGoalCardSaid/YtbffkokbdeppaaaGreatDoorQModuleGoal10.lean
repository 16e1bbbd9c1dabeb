/-
  Lemmas for the law ModuleGoal (no condition).
-/
import Derived.Test.YtbffkokbdeppaaaGreatDoorQModuleGoal9
import Derived.Shelf.SlSortCmp.NoneTotal
import Derived.Test.YtbffkokbdeppaaaGreatDoorProg
import Derived.OrdersIn
set_option linter.unusedVariables false
set_option linter.unusedSimpArgs false
set_option linter.unusedSectionVars false
set_option maxHeartbeats 1000000
namespace Go.Proofs.YtbffkokbdeppaaaGreatDoor
open Go Go.Sx Go.Proofs Tryz
attribute [local irreducible] Code.wp wpList wpAnyH
open Go.Vs
theorem oj_ {P:Program} {N:Nf} {fr:Fr} {H:Hp} {Γ:List Fct} {ty:TypeId} {K:Type} [DecidableEq K] {h:K->Value} {t m y:TypeId} {x:Operand} {d c:Nat} {es:Array MapEntry} {q:List K} (hE:SetE h es q) (e:∀ w,(underlying t).run P w=.ok (.map m y) w) (k:Fr.ev fr x=some (.map (some d))) (hm:∀ v,v.sat H->ag_ Γ v->v.w.heap[d]? = some (.map es c)) :
    Yld P N fr H Γ (.call ⟨.builtin .len,#[x],#[t]⟩) ty (i4_ q.length):=by
  rw[<-hE.size];exact za_ e k hm
def andF (a b:Fct):Fct where
  p v:=a.p v/\b.p v
  mono:=λv v' h ⟨h1,h2⟩=>⟨a.mono v v' h h1,b.mono v v' h h2⟩
def StA (b9 kb fb:Nat) (nw fm:List Fc) (H:Hp):Prop:=∃ sv es c es' c' q Hq,H=(b9,.cells #[sv] 50 (0,0))::(kb,.map es c)::([(fb,.map es' c')]++Hq)/\at_ 104 6 sv nw.length (nw.flatMap Fc.cells) Hq/\SetE Fc.val es nw/\SetE Fc.val es' q/\∀ f,f∈q↔f∈fm
theorem mI_ {G:Prop} (h:G:=by
 have d:bP_ m f nw=nw:=by unfold bP_;rw[yag_ (by rintro ⟨T,E⟩;first|omega|exact absurd zaf_ E)]
 exact cj_ results145 ⟨_,sv,es,c,A,M,q,K,rfl,by rw[d];exact S,by rw[d];exact hE,P,N⟩ rfl zp zt):G:=h
theorem CV_ (f:Fc) (nw fm:List Fc) (m:Nat) (hm:m<=65536) (g V W L kb fb:Nat) (c0 Y c3 c4 c5 c6 c7 c8 c9 Q sv:Value) (es A:Array MapEntry) (c M:Nat) (q:List Fc) (K:Hp) (S:at_ 104 6 sv nw.length (nw.flatMap Fc.cells) K) (hE:SetE Fc.val es nw) (P:SetE Fc.val A q) (N:∀ f,f∈q↔f∈fm):Tri prog 145 #[Fc.val f,zp_ V 0,zp_ W 0,zp_ L 0] ((L,.cells #[sv] 50 (0,0))::(kb,.map es c)::([(fb,.map A M)]++K)) [bk_ V (.cells #[zp_ g 0] 195 (0,0)),bk_ W (.cells #[i4_ m] 3 (0,0)),bk_ g (.cells #[c0,Y,.map (some kb),c3,c4,c5,c6,c7,c8,c9,Q] 204 (0,0))] (λ_:{H:Hp // StA L kb fb (bP_ m f nw) fm H}=>.tuple #[]) (λy=>y.1) (λ_=>[]):=by
 refine j_ func145 rfl rfl ntmps145 rfl λZ=>?_;refine Zz 2 ?_;refine L_ rfl rfl λU=>Zz 4 ?_
 refine G_ 8 [0,1,2,3,4,5,6,7] zk zs (Zz 4 ?_);refine N_ rfl (oj_ hE bB_ rfl (λv h _=>(h.own _ (yab_ (i:=2) rfl)).1)) rfl (Zi 1 (λx=>?_) λx=>?_)
 .refine Zz 2 ?_
  refine G_ 0 [8,9,10,11,12,13,14,15] zk zs (Zz 14 ?_);exact mI_
 refine Zz 2 ?_;refine G_ 0 [8,9,10,11,12,13,14,15] zk zs (Zz 5 ?_);refine ja_ rfl rfl rfl (cU_ (k:=f) lh_ bB_ bC_ rfl rfl hE (λv h _=>(h.own _ (yab_ (i:=2) rfl)).1)) rfl λO e=>ih_ rfl rfl rfl (aK_ rfl) rfl (Zz 4 ?_)
 cases O
 .replace e:=zdf e
  refine Zz 2 ?_;refine Y_ ((U,.cells #[i4_ f.kind,str f.a,str f.b,str f.r,i4_ f.lo,i4_ f.hi] 104 (0,0))::((L,.cells #[sv] 50 (0,0))::[])) zk ?_;refine G_ 1 [0,1,2,3,4] zk zs (Zz 6 ?_);refine m_ 5 rfl zk (hJ_ (k:=f) 2 lh_ (.inr rfl) bB_ rfl rfl rfl rfl hE λF I C=>Zz 8 ?_);refine B_ bm_ ao_ ax_ rfl rfl rfl rfl rfl rfl λX=>?_;refine aH_ (news:=List.flatMap Fc.cells [f]) vF_ S rfl rfl (c_ (c_ (c_ (c_ aJ_)))) rfl (bz_ 0 rfl) (λu hu=>aF_ Fc.cells_one hu) zal_ zaa_ rfl λG J x=>?_;have B:=zsa x;refine u_ (S_ (g_ e_) (S_ (g_ e_) (S_ (g_ e_) (aW_ (g_ e_))))) (bT_ 2 B sizeOf50 rfl rfl rfl rfl (Zz 2 ?_));have d:bP_ m f nw=nw++[f]:=by unfold bP_;rw[yaq_ ⟨by omega,by assumption⟩]
  exact cj_ results145 ⟨_,G,F,I,A,M,q,J,rfl,by rw[d];exact B,by rw[d];rw[yag_ zaf_]at C;exact C,P,N⟩ rfl (l_ (c_ (c_ e_)) (l_ (c_ (c_ e_)) (x_ (c_ (c_ aJ_)) (c_ E_)))) zt
 replace e:=zdt e;refine Zz 3 ?_;exact mI_
def EA (m:Nat) (hm:m<=65536) (B:EngB) (b7 b8 b9 kb fb:Nat):Emt prog 104 where
 stp:=bP_ m
 kof:=idk
 St:=StA b9 kb fb
 fn:=145
 caps:=[zp_ b7 0,zp_ b8 0,zp_ b9 0]
 ef:=andF (bk_ b7 (.cells #[zp_ B.g 0] 195 (0,0))) (andF (bk_ b8 (.cells #[.int .i64 (m:Int)] 3 (0,0))) (bk_ B.g (.cells #[.map (some B.pb),.slice B.lad B.lps.length B.lcap,.map (some kb),.func (.func 145) #[] #[zp_ b7 0,zp_ b8 0,zp_ b9 0],.map (some B.ab),.map (some B.ub),.map (some B.ob),.map (some B.ib),.map (some B.rb),.map (some B.sb),.map (some fb)] 204 (0,0))))
 kb:=kb
 fb:=fb
 grows:=ge_ m
 emit:=λf nw fm H hS=>by
   obtain⟨sv,es,c,es2,c2,q,Hq,rfl,h1,h2,h3,h4⟩:=hS;exact sJ_ [] (CV_ f nw fm m hm B.g b7 b8 b9 kb fb _ _ _ _ _ _ _ _ _ _ sv es es2 c c2 q Hq h1 h2 h3 h4) (λv _ h=>⟨h.1.1,h.1.2.1,h.1.2.2,trivial⟩)
 known:=λhS=>by
   obtain⟨sv,es,c,es2,c2,q,Hq,rfl,h1,h2,h3,h4⟩:=hS;exact⟨es,c,by simp,h2⟩
 firm:=λhS=>by
   obtain⟨sv,es,c,es2,c2,q,Hq,rfl,h1,h2,h3,h4⟩:=hS;exact⟨es2,c2,q,by simp,h3,h4⟩
 setf:=fun {nw fm H} f hS=>by
   obtain⟨sv,es,c,es2,c2,q,Hq,rfl,h1,h2,h3,h4⟩:=hS;refine⟨es2,c2,q,(b9,.cells #[sv] 50 (0,0))::(kb,.map es c)::Hq,aW_ zp,h3,h4,λes' c' h5=>⟨(b9,.cells #[sv] 50 (0,0))::(kb,.map es c)::([(fb,.map es' c')]++Hq),⟨sv,es,c,es',c',_,Hq,rfl,h1,h2,h5,?_⟩,aW_ zp⟩⟩;intro z
   split
   . rename_i hz;rw[h4,yal_];constructor
     . exact .inr
     . rintro (rfl|h)
       . exact (h4 _).1 hz
       . exact h
   . rw[yai_,yam_,h4,yal_,or_comm]
def fvC (v:Value):List Value:=[v]
theorem jO_ (v:Value):(fvC v).length=1:=rfl
theorem xi_ {P:Program} {N:Nf} {fr:Fr} {H:Hp} {Γ:List Fct} {ty:TypeId} {t e:TypeId} {n sz:Nat} {parts:List (Nat×Operand)} {vs:List (Nat×Value)} {z cs:List Value} (y:∀ w,(zeroValue t).run P w=.ok (.agg z.toArray) w) (k:∀ w,(underlying t).run P w=.ok (.array n e) w) (m:∀ w,(sizeOf e).run P w=.ok sz w) (v:Fr.evp fr parts=some vs) (h:nk_ (λi=>some (i*sz,sz)) z vs=some cs) :
    Yld P N fr H Γ (.build t parts.toArray) ty (.agg cs.toArray) :=
  qj_ (λa x w=>by
    have:=x.evp v;rw[ybc_,this];have d:=js_ _ _ _ _ h;simp only[Instr.build,Sem.run_bind,y,Result.andThen_ok,k,m,Value.cells,d,Sem.run_pure])
def rlV (g:Nat) (k:Nat):List Value:=if k=1 then [(Value.func (.func 224) #[zp_ g 0] #[]),(Value.func (.func 225) #[zp_ g 0] #[]),(Value.func (.func 226) #[zp_ g 0] #[]),(Value.func (.func 227) #[zp_ g 0] #[]),(Value.func (.func 228) #[zp_ g 0] #[]),(Value.func (.func 229) #[zp_ g 0] #[])] else if k=2 then [(Value.func (.func 230) #[zp_ g 0] #[]),(Value.func (.func 231) #[zp_ g 0] #[]),(Value.func (.func 232) #[zp_ g 0] #[]),(Value.func (.func 233) #[zp_ g 0] #[])] else [(Value.func (.func 234) #[zp_ g 0] #[]),(Value.func (.func 235) #[zp_ g 0] #[])]
theorem Cc_ (g:Nat):Tri prog 148 #[zp_ g 0] [] [] (λy:Nat×Nat×Nat=>.agg #[.slice none 0 0,.slice (some ⟨y.1,0,none⟩) 6 6,.slice (some ⟨y.2.1,0,none⟩) 4 4,.slice (some ⟨y.2.2,0,none⟩) 2 2]) (λ_=>[]) (λy=>[X_ (some ⟨y.1,0,none⟩) (List.flatMap fvC (rlV g 1)),X_ (some ⟨y.2.1,0,none⟩) (List.flatMap fvC (rlV g 2)),X_ (some ⟨y.2.2,0,none⟩) (List.flatMap fvC (rlV g 3))]):=by
  refine j_ func148 rfl rfl ntmps148 rfl λx=>?_;refine Zz 2 ?_;refine C_ zeroValue206 rfl λA=>Zz 5 ?_
  refine d_ (bo_ (us:=[zp_ g 0]) (vs:=[]) rfl rfl) rfl (Zz 1 ?_);refine d_ (bo_ (us:=[zp_ g 0]) (vs:=[]) rfl rfl) rfl (Zz 1 ?_);refine d_ (bo_ (us:=[zp_ g 0]) (vs:=[]) rfl rfl) rfl (Zz 1 ?_);refine d_ (bo_ (us:=[zp_ g 0]) (vs:=[]) rfl rfl) rfl (Zz 1 ?_);refine d_ (bo_ (us:=[zp_ g 0]) (vs:=[]) rfl rfl) rfl (Zz 1 ?_);refine d_ (bo_ (us:=[zp_ g 0]) (vs:=[]) rfl rfl) rfl (B_ eo_ eZ_ zeroValue199 rfl rfl rfl rfl rfl rfl λe=>?_);refine U_ (List.flatMap fvC [(Value.func (.func 224) #[zp_ g 0] #[]),(Value.func (.func 225) #[zp_ g 0] #[]),(Value.func (.func 226) #[zp_ g 0] #[]),(Value.func (.func 227) #[zp_ g 0] #[]),(Value.func (.func 228) #[zp_ g 0] #[]),(Value.func (.func 229) #[zp_ g 0] #[])]) e_ rfl ?_;refine Zz 1 ?_;refine d_ (bo_ (us:=[zp_ g 0]) (vs:=[]) rfl rfl) rfl (Zz 1 ?_);refine d_ (bo_ (us:=[zp_ g 0]) (vs:=[]) rfl rfl) rfl (Zz 1 ?_);refine d_ (bo_ (us:=[zp_ g 0]) (vs:=[]) rfl rfl) rfl (Zz 1 ?_);refine d_ (bo_ (us:=[zp_ g 0]) (vs:=[]) rfl rfl) rfl (B_ eo_ eZ_ zeroValue199 rfl rfl rfl rfl rfl rfl λh=>?_);refine U_ (List.flatMap fvC [(Value.func (.func 230) #[zp_ g 0] #[]),(Value.func (.func 231) #[zp_ g 0] #[]),(Value.func (.func 232) #[zp_ g 0] #[]),(Value.func (.func 233) #[zp_ g 0] #[])]) e_ rfl ?_;refine Zz 1 ?_;refine d_ (bo_ (us:=[zp_ g 0]) (vs:=[]) rfl rfl) rfl (Zz 1 ?_);refine d_ (bo_ (us:=[zp_ g 0]) (vs:=[]) rfl rfl) rfl (B_ eo_ eZ_ zeroValue199 rfl rfl rfl rfl rfl rfl λd=>?_);refine U_ (List.flatMap fvC [(Value.func (.func 234) #[zp_ g 0] #[]),(Value.func (.func 235) #[zp_ g 0] #[])]) e_ rfl ?_;refine d_ (xi_ zeroValue206 xC_ sizeOf205 rfl rfl) rfl (p_ 0 sizeOf206 rfl rfl rfl rfl rfl rfl (Zz 3 ?_));exact dk_ (e,h,d) (λB v k m=>dm_ (us:=[.slice none 0 0,.slice (some ⟨e,0,none⟩) (List.length [(Value.func (.func 224) #[zp_ g 0] #[]),(Value.func (.func 225) #[zp_ g 0] #[]),(Value.func (.func 226) #[zp_ g 0] #[]),(Value.func (.func 227) #[zp_ g 0] #[]),(Value.func (.func 228) #[zp_ g 0] #[]),(Value.func (.func 229) #[zp_ g 0] #[])]) 6,.slice (some ⟨h,0,none⟩) (List.length [(Value.func (.func 230) #[zp_ g 0] #[]),(Value.func (.func 231) #[zp_ g 0] #[]),(Value.func (.func 232) #[zp_ g 0] #[]),(Value.func (.func 233) #[zp_ g 0] #[])]) 4,.slice (some ⟨d,0,none⟩) (List.length [(Value.func (.func 234) #[zp_ g 0] #[]),(Value.func (.func 235) #[zp_ g 0] #[])]) 2]) 0 results148 isAgg206 sizeOf206 rfl rfl rfl B v k m) i_ zf
theorem gc_ (B:EngB) (E:Emt prog 104) (G:EngA) (W:List (Ky×Pc)) (x:Ix) (f:Fc) (nw fm:List Fc) (Hs:Hp) (hS:E.St nw fm Hs) (K U H Q Hr S:Hp) (hI:IxO 9 104 B x ⟨K,U,H,Q,Hr,S⟩) {n:FuncId} {args:Array Value} {e:Hp->Prop} (hT:∀ A:EngA,A.p=G.p->Tri prog n args Hs [gF B E,pF B W A,aF B x A,uF B x A,oF B x A,iF B x A,rF B x A,sF B x A,E.ef] (λ_:{H':Hp // e H'}=>.tuple #[]) (λy=>y.1) (λ_=>[])) :
    Tri prog n args ((K++(U++(H++(Q++(Hr++S)))))++Hs) [gF B E,pF B W G,E.ef] (λ_:{H':Hp // e H'}=>.tuple #[]) (λy=>(K++(U++(H++(Q++(Hr++S)))))++y.1) (λ_=>[]):=by
  obtain⟨ha,Z,X,hi,Y,hm⟩:=hI;dsimp only at ha Z X hi Y hm;obtain⟨O,N⟩:=ha.lent (P:=prog) nx_;obtain⟨m,I⟩:=Z.lent (P:=prog) nx_;obtain⟨L,C⟩:=X.lent (P:=prog) eb_;obtain⟨V,J⟩:=hi.lent (P:=prog) eb_;obtain⟨F,M⟩:=Y.lent (P:=prog) eb_;obtain⟨k,T⟩:=hm.lent (P:=prog) eb_;refine sJ_ _ (hT ⟨G.p,O,m,L,V,F,k⟩ rfl) λv hB h=>⟨h.1,h.2.1,N v λp d=>hB p zaH_,I v λp d=>hB p zaH_,C v λp d=>hB p zaH_,J v λp d=>hB p zaH_,M v λp d=>hB p zaH_,T v λp d=>hB p zaH_,h.2.2.1,trivial⟩
theorem rl10_c (B:EngB) (E:Emt prog 104) (K:EngA) (d:List (Ky×Pc)) (x:Ix) (f:Fc) (nw fm:List Fc) (Hs:Hp) (hS:E.St nw fm Hs) (v G m C Hr F:Hp) (L:IxO 9 104 B x ⟨v,G,m,C,Hr,F⟩) (I:∀ k,(lat d k).length<=1000000000) (H:∀ k,(lat x.above k).length<=1000000000/\(lat x.under k).length<=1000000000) (J:∀ k,(lat x.frm k).length<=1000000000/\(lat x.into k).length<=1000000000/\(lat x.ranges k).length<=1000000000/\(lat x.firms k).length<=1000000000) (M:f.kind=3->-1099511627776<=f.lo/\f.lo<=f.hi/\f.hi<=1099511627776) (N:f.kind=3->∀ y∈lat d (Ky.mk 9 f.r []),-1099511627776<=y.lo/\y.lo<=y.hi/\y.hi<=1099511627776) (hk:f.kind=1):Tri prog 224 #[zp_ B.g 0,f.val] ((v++(G++(m++(C++(Hr++F)))))++Hs) [gF B E,pF B d K,E.ef] (λ_:{H':Hp // E.St (rl E.stp E.kof d x f 0 (nw,fm)).1 (rl E.stp E.kof d x f 0 (nw,fm)).2 H'}=>.tuple #[]) (λy=>(v++(G++(m++(C++(Hr++F)))))++y.1) (λ_=>[]):=by
  refine gc_ B E K d x f nw fm Hs hS v G m C Hr F L λA O=>?_;have h:=yB_ B E A d x f nw fm Hs hS I H J;have e:rl E.stp E.kof d x f 0 (nw,fm)=_:=yaq_ hk;rw[e];exact h
theorem rl11_c (B:EngB) (E:Emt prog 104) (K:EngA) (d:List (Ky×Pc)) (x:Ix) (f:Fc) (nw fm:List Fc) (Hs:Hp) (hS:E.St nw fm Hs) (v G m C Hr F:Hp) (L:IxO 9 104 B x ⟨v,G,m,C,Hr,F⟩) (I:∀ k,(lat d k).length<=1000000000) (H:∀ k,(lat x.above k).length<=1000000000/\(lat x.under k).length<=1000000000) (J:∀ k,(lat x.frm k).length<=1000000000/\(lat x.into k).length<=1000000000/\(lat x.ranges k).length<=1000000000/\(lat x.firms k).length<=1000000000) (M:f.kind=3->-1099511627776<=f.lo/\f.lo<=f.hi/\f.hi<=1099511627776) (N:f.kind=3->∀ y∈lat d (Ky.mk 9 f.r []),-1099511627776<=y.lo/\y.lo<=y.hi/\y.hi<=1099511627776) (hk:f.kind=1):Tri prog 225 #[zp_ B.g 0,f.val] ((v++(G++(m++(C++(Hr++F)))))++Hs) [gF B E,pF B d K,E.ef] (λ_:{H':Hp // E.St (rl E.stp E.kof d x f 1 (nw,fm)).1 (rl E.stp E.kof d x f 1 (nw,fm)).2 H'}=>.tuple #[]) (λy=>(v++(G++(m++(C++(Hr++F)))))++y.1) (λ_=>[]):=by
  refine gc_ B E K d x f nw fm Hs hS v G m C Hr F L λA O=>?_;have h:=both_c B E A d x f nw fm Hs hS I H J;have e:rl E.stp E.kof d x f 1 (nw,fm)=_:=yaq_ hk;rw[e];exact h
theorem rl12_c (B:EngB) (E:Emt prog 104) (K:EngA) (d:List (Ky×Pc)) (x:Ix) (f:Fc) (nw fm:List Fc) (Hs:Hp) (hS:E.St nw fm Hs) (v G m C Hr F:Hp) (L:IxO 9 104 B x ⟨v,G,m,C,Hr,F⟩) (I:∀ k,(lat d k).length<=1000000000) (H:∀ k,(lat x.above k).length<=1000000000/\(lat x.under k).length<=1000000000) (J:∀ k,(lat x.frm k).length<=1000000000/\(lat x.into k).length<=1000000000/\(lat x.ranges k).length<=1000000000/\(lat x.firms k).length<=1000000000) (M:f.kind=3->-1099511627776<=f.lo/\f.lo<=f.hi/\f.hi<=1099511627776) (N:f.kind=3->∀ y∈lat d (Ky.mk 9 f.r []),-1099511627776<=y.lo/\y.lo<=y.hi/\y.hi<=1099511627776) (hk:f.kind=1):Tri prog 226 #[zp_ B.g 0,f.val] ((v++(G++(m++(C++(Hr++F)))))++Hs) [gF B E,pF B d K,E.ef] (λ_:{H':Hp // E.St (rl E.stp E.kof d x f 2 (nw,fm)).1 (rl E.stp E.kof d x f 2 (nw,fm)).2 H'}=>.tuple #[]) (λy=>(v++(G++(m++(C++(Hr++F)))))++y.1) (λ_=>[]):=by
  refine gc_ B E K d x f nw fm Hs hS v G m C Hr F L λA O=>?_;have h:=some_c B E A d x f nw fm Hs hS I H J;have e:rl E.stp E.kof d x f 2 (nw,fm)=_:=yaq_ hk;rw[e];exact h
theorem rl13_c (B:EngB) (E:Emt prog 104) (K:EngA) (d:List (Ky×Pc)) (x:Ix) (f:Fc) (nw fm:List Fc) (Hs:Hp) (hS:E.St nw fm Hs) (v G m C Hr F:Hp) (L:IxO 9 104 B x ⟨v,G,m,C,Hr,F⟩) (I:∀ k,(lat d k).length<=1000000000) (H:∀ k,(lat x.above k).length<=1000000000/\(lat x.under k).length<=1000000000) (J:∀ k,(lat x.frm k).length<=1000000000/\(lat x.into k).length<=1000000000/\(lat x.ranges k).length<=1000000000/\(lat x.firms k).length<=1000000000) (M:f.kind=3->-1099511627776<=f.lo/\f.lo<=f.hi/\f.hi<=1099511627776) (N:f.kind=3->∀ y∈lat d (Ky.mk 9 f.r []),-1099511627776<=y.lo/\y.lo<=y.hi/\y.hi<=1099511627776) (hk:f.kind=1):Tri prog 227 #[zp_ B.g 0,f.val] ((v++(G++(m++(C++(Hr++F)))))++Hs) [gF B E,pF B d K,E.ef] (λ_:{H':Hp // E.St (rl E.stp E.kof d x f 3 (nw,fm)).1 (rl E.stp E.kof d x f 3 (nw,fm)).2 H'}=>.tuple #[]) (λy=>(v++(G++(m++(C++(Hr++F)))))++y.1) (λ_=>[]):=by
  refine gc_ B E K d x f nw fm Hs hS v G m C Hr F L λA O=>?_;have h:=vD_ B E A d x f nw fm Hs hS I H J;have e:rl E.stp E.kof d x f 3 (nw,fm)=_:=yaq_ hk;rw[e];exact h
theorem rl14_c (B:EngB) (E:Emt prog 104) (K:EngA) (d:List (Ky×Pc)) (x:Ix) (f:Fc) (nw fm:List Fc) (Hs:Hp) (hS:E.St nw fm Hs) (v G m C Hr F:Hp) (L:IxO 9 104 B x ⟨v,G,m,C,Hr,F⟩) (I:∀ k,(lat d k).length<=1000000000) (H:∀ k,(lat x.above k).length<=1000000000/\(lat x.under k).length<=1000000000) (J:∀ k,(lat x.frm k).length<=1000000000/\(lat x.into k).length<=1000000000/\(lat x.ranges k).length<=1000000000/\(lat x.firms k).length<=1000000000) (M:f.kind=3->-1099511627776<=f.lo/\f.lo<=f.hi/\f.hi<=1099511627776) (N:f.kind=3->∀ y∈lat d (Ky.mk 9 f.r []),-1099511627776<=y.lo/\y.lo<=y.hi/\y.hi<=1099511627776) (hk:f.kind=1):Tri prog 228 #[zp_ B.g 0,f.val] ((v++(G++(m++(C++(Hr++F)))))++Hs) [gF B E,pF B d K,E.ef] (λ_:{H':Hp // E.St (rl E.stp E.kof d x f 4 (nw,fm)).1 (rl E.stp E.kof d x f 4 (nw,fm)).2 H'}=>.tuple #[]) (λy=>(v++(G++(m++(C++(Hr++F)))))++y.1) (λ_=>[]):=by
  refine gc_ B E K d x f nw fm Hs hS v G m C Hr F L λA O=>?_;have h:=ui_ B E A d x f nw fm Hs hS I H J;have e:rl E.stp E.kof d x f 4 (nw,fm)=_:=yaq_ hk;rw[e];exact h
theorem rl15_c (B:EngB) (E:Emt prog 104) (K:EngA) (d:List (Ky×Pc)) (x:Ix) (f:Fc) (nw fm:List Fc) (Hs:Hp) (hS:E.St nw fm Hs) (v G m C Hr F:Hp) (L:IxO 9 104 B x ⟨v,G,m,C,Hr,F⟩) (I:∀ k,(lat d k).length<=1000000000) (H:∀ k,(lat x.above k).length<=1000000000/\(lat x.under k).length<=1000000000) (J:∀ k,(lat x.frm k).length<=1000000000/\(lat x.into k).length<=1000000000/\(lat x.ranges k).length<=1000000000/\(lat x.firms k).length<=1000000000) (M:f.kind=3->-1099511627776<=f.lo/\f.lo<=f.hi/\f.hi<=1099511627776) (N:f.kind=3->∀ y∈lat d (Ky.mk 9 f.r []),-1099511627776<=y.lo/\y.lo<=y.hi/\y.hi<=1099511627776) (hk:f.kind=1):Tri prog 229 #[zp_ B.g 0,f.val] ((v++(G++(m++(C++(Hr++F)))))++Hs) [gF B E,pF B d K,E.ef] (λ_:{H':Hp // E.St (rl E.stp E.kof d x f 5 (nw,fm)).1 (rl E.stp E.kof d x f 5 (nw,fm)).2 H'}=>.tuple #[]) (λy=>(v++(G++(m++(C++(Hr++F)))))++y.1) (λ_=>[]):=by
  refine gc_ B E K d x f nw fm Hs hS v G m C Hr F L λA O=>?_;have h:=BF_ B E A d x f nw fm Hs hS I H J;have e:rl E.stp E.kof d x f 5 (nw,fm)=_:=yaq_ hk;rw[e];exact h
theorem rl20_c (B:EngB) (E:Emt prog 104) (K:EngA) (d:List (Ky×Pc)) (x:Ix) (f:Fc) (nw fm:List Fc) (Hs:Hp) (hS:E.St nw fm Hs) (v G m C Hr F:Hp) (L:IxO 9 104 B x ⟨v,G,m,C,Hr,F⟩) (I:∀ k,(lat d k).length<=1000000000) (H:∀ k,(lat x.above k).length<=1000000000/\(lat x.under k).length<=1000000000) (J:∀ k,(lat x.frm k).length<=1000000000/\(lat x.into k).length<=1000000000/\(lat x.ranges k).length<=1000000000/\(lat x.firms k).length<=1000000000) (M:f.kind=3->-1099511627776<=f.lo/\f.lo<=f.hi/\f.hi<=1099511627776) (N:f.kind=3->∀ y∈lat d (Ky.mk 9 f.r []),-1099511627776<=y.lo/\y.lo<=y.hi/\y.hi<=1099511627776) (hk:f.kind=2):Tri prog 230 #[zp_ B.g 0,f.val] ((v++(G++(m++(C++(Hr++F)))))++Hs) [gF B E,pF B d K,E.ef] (λ_:{H':Hp // E.St (rl E.stp E.kof d x f 0 (nw,fm)).1 (rl E.stp E.kof d x f 0 (nw,fm)).2 H'}=>.tuple #[]) (λy=>(v++(G++(m++(C++(Hr++F)))))++y.1) (λ_=>[]):=by
  refine gc_ B E K d x f nw fm Hs hS v G m C Hr F L λA O=>?_;have h:=yq_ B E A d x f nw fm Hs hS I H J;have e:rl E.stp E.kof d x f 0 (nw,fm)=_:=(yag_ zak_).trans (yaq_ hk);rw[e];exact h
theorem rl21_c (B:EngB) (E:Emt prog 104) (K:EngA) (d:List (Ky×Pc)) (x:Ix) (f:Fc) (nw fm:List Fc) (Hs:Hp) (hS:E.St nw fm Hs) (v G m C Hr F:Hp) (L:IxO 9 104 B x ⟨v,G,m,C,Hr,F⟩) (I:∀ k,(lat d k).length<=1000000000) (H:∀ k,(lat x.above k).length<=1000000000/\(lat x.under k).length<=1000000000) (J:∀ k,(lat x.frm k).length<=1000000000/\(lat x.into k).length<=1000000000/\(lat x.ranges k).length<=1000000000/\(lat x.firms k).length<=1000000000) (M:f.kind=3->-1099511627776<=f.lo/\f.lo<=f.hi/\f.hi<=1099511627776) (N:f.kind=3->∀ y∈lat d (Ky.mk 9 f.r []),-1099511627776<=y.lo/\y.lo<=y.hi/\y.hi<=1099511627776) (hk:f.kind=2):Tri prog 231 #[zp_ B.g 0,f.val] ((v++(G++(m++(C++(Hr++F)))))++Hs) [gF B E,pF B d K,E.ef] (λ_:{H':Hp // E.St (rl E.stp E.kof d x f 1 (nw,fm)).1 (rl E.stp E.kof d x f 1 (nw,fm)).2 H'}=>.tuple #[]) (λy=>(v++(G++(m++(C++(Hr++F)))))++y.1) (λ_=>[]):=by
  refine gc_ B E K d x f nw fm Hs hS v G m C Hr F L λA O=>?_;have h:=Dj_ B E A d x f nw fm Hs hS I H J;have e:rl E.stp E.kof d x f 1 (nw,fm)=_:=(yag_ zak_).trans (yaq_ hk);rw[e];exact h
theorem rl22_c (B:EngB) (E:Emt prog 104) (K:EngA) (d:List (Ky×Pc)) (x:Ix) (f:Fc) (nw fm:List Fc) (Hs:Hp) (hS:E.St nw fm Hs) (v G m C Hr F:Hp) (L:IxO 9 104 B x ⟨v,G,m,C,Hr,F⟩) (I:∀ k,(lat d k).length<=1000000000) (H:∀ k,(lat x.above k).length<=1000000000/\(lat x.under k).length<=1000000000) (J:∀ k,(lat x.frm k).length<=1000000000/\(lat x.into k).length<=1000000000/\(lat x.ranges k).length<=1000000000/\(lat x.firms k).length<=1000000000) (M:f.kind=3->-1099511627776<=f.lo/\f.lo<=f.hi/\f.hi<=1099511627776) (N:f.kind=3->∀ y∈lat d (Ky.mk 9 f.r []),-1099511627776<=y.lo/\y.lo<=y.hi/\y.hi<=1099511627776) (hk:f.kind=2):Tri prog 232 #[zp_ B.g 0,f.val] ((v++(G++(m++(C++(Hr++F)))))++Hs) [gF B E,pF B d K,E.ef] (λ_:{H':Hp // E.St (rl E.stp E.kof d x f 2 (nw,fm)).1 (rl E.stp E.kof d x f 2 (nw,fm)).2 H'}=>.tuple #[]) (λy=>(v++(G++(m++(C++(Hr++F)))))++y.1) (λ_=>[]):=by
  refine gc_ B E K d x f nw fm Hs hS v G m C Hr F L λA O=>?_;have h:=vC_ B E A d x f nw fm Hs hS I H J;have e:rl E.stp E.kof d x f 2 (nw,fm)=_:=(yag_ zak_).trans (yaq_ hk);rw[e];exact h
theorem rl23_c (B:EngB) (E:Emt prog 104) (K:EngA) (d:List (Ky×Pc)) (x:Ix) (f:Fc) (nw fm:List Fc) (Hs:Hp) (hS:E.St nw fm Hs) (v G m C Hr F:Hp) (L:IxO 9 104 B x ⟨v,G,m,C,Hr,F⟩) (I:∀ k,(lat d k).length<=1000000000) (H:∀ k,(lat x.above k).length<=1000000000/\(lat x.under k).length<=1000000000) (J:∀ k,(lat x.frm k).length<=1000000000/\(lat x.into k).length<=1000000000/\(lat x.ranges k).length<=1000000000/\(lat x.firms k).length<=1000000000) (M:f.kind=3->-1099511627776<=f.lo/\f.lo<=f.hi/\f.hi<=1099511627776) (N:f.kind=3->∀ y∈lat d (Ky.mk 9 f.r []),-1099511627776<=y.lo/\y.lo<=y.hi/\y.hi<=1099511627776) (hk:f.kind=2):Tri prog 233 #[zp_ B.g 0,f.val] ((v++(G++(m++(C++(Hr++F)))))++Hs) [gF B E,pF B d K,E.ef] (λ_:{H':Hp // E.St (rl E.stp E.kof d x f 3 (nw,fm)).1 (rl E.stp E.kof d x f 3 (nw,fm)).2 H'}=>.tuple #[]) (λy=>(v++(G++(m++(C++(Hr++F)))))++y.1) (λ_=>[]):=by
  refine gc_ B E K d x f nw fm Hs hS v G m C Hr F L λA O=>?_;have h:=uh_ B E A d x f nw fm Hs hS I H J;have e:rl E.stp E.kof d x f 3 (nw,fm)=_:=(yag_ zak_).trans (yaq_ hk);rw[e];exact h
theorem rl30_c (B:EngB) (E:Emt prog 104) (K:EngA) (d:List (Ky×Pc)) (x:Ix) (f:Fc) (nw fm:List Fc) (Hs:Hp) (hS:E.St nw fm Hs) (v G m C Hr F:Hp) (L:IxO 9 104 B x ⟨v,G,m,C,Hr,F⟩) (I:∀ k,(lat d k).length<=1000000000) (H:∀ k,(lat x.above k).length<=1000000000/\(lat x.under k).length<=1000000000) (J:∀ k,(lat x.frm k).length<=1000000000/\(lat x.into k).length<=1000000000/\(lat x.ranges k).length<=1000000000/\(lat x.firms k).length<=1000000000) (M:f.kind=3->-1099511627776<=f.lo/\f.lo<=f.hi/\f.hi<=1099511627776) (N:f.kind=3->∀ y∈lat d (Ky.mk 9 f.r []),-1099511627776<=y.lo/\y.lo<=y.hi/\y.hi<=1099511627776) (hk:f.kind=3):Tri prog 234 #[zp_ B.g 0,f.val] ((v++(G++(m++(C++(Hr++F)))))++Hs) [gF B E,pF B d K,E.ef] (λ_:{H':Hp // E.St (rl E.stp E.kof d x f 0 (nw,fm)).1 (rl E.stp E.kof d x f 0 (nw,fm)).2 H'}=>.tuple #[]) (λy=>(v++(G++(m++(C++(Hr++F)))))++y.1) (λ_=>[]):=by
  refine gc_ B E K d x f nw fm Hs hS v G m C Hr F L λA O=>?_;have h:=meet_c B E A d x f nw fm Hs hS I H J;have e:rl E.stp E.kof d x f 0 (nw,fm)=_:=(yag_ zak_).trans (yag_ zak_);rw[e];exact h
theorem rl31_c (B:EngB) (E:Emt prog 104) (K:EngA) (d:List (Ky×Pc)) (x:Ix) (f:Fc) (nw fm:List Fc) (Hs:Hp) (hS:E.St nw fm Hs) (v G m C Hr F:Hp) (M:IxO 9 104 B x ⟨v,G,m,C,Hr,F⟩) (I:∀ k,(lat d k).length<=1000000000) (H:∀ k,(lat x.above k).length<=1000000000/\(lat x.under k).length<=1000000000) (J:∀ k,(lat x.frm k).length<=1000000000/\(lat x.into k).length<=1000000000/\(lat x.ranges k).length<=1000000000/\(lat x.firms k).length<=1000000000) (L:f.kind=3->-1099511627776<=f.lo/\f.lo<=f.hi/\f.hi<=1099511627776) (N:f.kind=3->∀ y∈lat d (Ky.mk 9 f.r []),-1099511627776<=y.lo/\y.lo<=y.hi/\y.hi<=1099511627776) (hk:f.kind=3):Tri prog 235 #[zp_ B.g 0,f.val] ((v++(G++(m++(C++(Hr++F)))))++Hs) [gF B E,pF B d K,E.ef] (λ_:{H':Hp // E.St (rl E.stp E.kof d x f 1 (nw,fm)).1 (rl E.stp E.kof d x f 1 (nw,fm)).2 H'}=>.tuple #[]) (λy=>(v++(G++(m++(C++(Hr++F)))))++y.1) (λ_=>[]):=by
  refine gc_ B E K d x f nw fm Hs hS v G m C Hr F M λA O=>?_;have h:=out_c B E A d x f nw fm Hs hS I H J (L hk) (N hk);have e:rl E.stp E.kof d x f 1 (nw,fm)=_:=(yag_ zak_).trans (yag_ zak_);rw[e];exact h
section
variable {N:Nf} {v0:Vw} {H0:Hp} {fr:Fr}
theorem pb_ {k:Act->World->Prop} {F:Hp}:∀ (B:Hp) {H:Hp} {Γ:List Fct},H.Perm (B++F)->Ok N v0 H0 k fr F (B.reverse.map (λp=>bk_ p.1 p.2)++Γ)->Ok N v0 H0 k fr H Γ
  | [],H,Γ,hH,h=>u_ hH h
  | (b,o)::B,H,Γ,hH,h=>by
    refine et_ (bk_ b o) (F:=B++F) hH (λ_ d e _=>⟨d,e⟩) ?_;refine pb_ B (.refl _) ?_;simpa using h
end
end Go.Proofs.YtbffkokbdeppaaaGreatDoor
namespace Go.Proofs.YtbffkokbdeppaaaGreatDoor
open Go Go.Sx Go.Proofs Tryz
attribute [local irreducible] Code.wp wpList wpAnyH
open Go.Vs
theorem yx_ {P:Program} (w:World) (d:Nat) (t e:TypeId) (a:Ao) (l c:Nat) (h:P.underlying t=some (.slice e)):(Op.equalIn (d+1) t (.slice a l c) (.slice none 0 0)).run P w=.ok a.isNone w:=by
  cases a<;>simp[Op.equalIn,run_underlying h]
theorem wJ_ {P:Program} (w:World) (t e:TypeId) (a:Ao) (l c:Nat) (h:P.underlying t=some (.slice e)):(Op.equal t (.slice a l c) (.slice none 0 0)).run P w=.ok a.isNone w:=yx_ w 9999 t e a l c h
theorem sv_ {P:Program} {N:Nf} {fr:Fr} {H:Hp} {Γ:List Fct} {ty t k e:TypeId} {x y:Operand} {ad:Ao} {m c:Nat} (A:P.underlying t=some (.slice e)) (B:Fr.ev fr x=some (.slice ad m c)) (h:Fr.ev fr y=some (.slice none 0 0)):Yld P N fr H Γ (.binOp .eql t x y k) ty (.bool (decide (ad=none))) :=
  λa v d _ _ _ _ _=>by
    have C:decide (ad=none)=ad.isNone:=by cases ad<;>simp
    simp[execOp,d.ev B,d.ev h,eqGuard,binOp,wJ_ v.w t e ad m c A,C]
theorem zH_ {v:Vw} {cs:List Value} (h:bW_ v none cs):cs=[]:=by
  rcases h with h|⟨b,off,d,T,fz,e,_⟩
  all_goals grind
theorem zy_ (b:Nat) (e:TypeId) (sz:Nat):at_ e sz (.slice (some ⟨b,0,none⟩) 0 0) 0 [] [(b,.cells #[] e (0,0))]:=⟨by simp,.inr ⟨b,0,#[],rfl,rfl,yad_ _,by simp,by simp,by simp⟩⟩
theorem Be_ (l:List Str) (ad:Ao) (cap:Nat) (G:l.length<=cap) (hl:l.length<=1000000000):Tri prog 221 #[.slice ad l.length cap] [] [X_ ad (l.flatMap aa_)] (λy:{y:Value×Hp // zR 9 1 aa_ y.1 l y.2}=>y.1.1) (λy=>y.1.2) (λ_=>[]):=by
 refine j_ func221 rfl rfl ntmps221 rfl λC=>?_;refine Zz 9 ?_;refine F_ (sv_ iV_ rfl rfl) rfl λB d=>Zz 2 ?_
 cases B
 .replace d:=zdf d
  refine Zz 5 ?_;refine xX_ n_ D_ rfl λA=>u_ e_ (Zz 1 ?_)
  refine bK_ (news:=List.flatMap aa_ l) dj_ (zy_ A 9 1) rfl rfl (λq=>absurd q d) G Z_ (by rw[ch_ aa_ 1 an_]) zf (λu E=>aF_ cz_ E) zal_ zaa_ rfl λe k d=>?_;refine u_ yaE_ ?_;have x:at_ 9 1 e (List.length (([]:List Str)++l)) (List.flatMap aa_ (([]:List Str)++l)) k:=by rw[yaj_,ybu_];exact d
  refine Zz 4 ?_;exact ac_ results221 ⟨(e,k),by simpa using x⟩ rfl Z_ zt
 replace d:=zdt d;refine Zz 7 ?_;refine Ad_ (p:=List.flatMap aa_ l=[]) (λv _ h=>by have q:=h.1;subst d;exact zH_ q) λF=>?_;have m:l=[]:=yaw_ (by have:=yae_ List.length F;rwa [ch_ aa_ 1 an_,Nat.mul_one]at this);exact ac_ results221 ⟨(.slice none 0 0,[]),by subst m;exact at_.nil _ _⟩ rfl i_ zt
def atS (p:List Pc):List Str:=Lib.compact ((cE_ p++[[42],[33]]).mergeSort λx y=>decide (x<=y))
theorem wZ_ (p:List Pc):(atS p).length<=3*p.length+2:=by
  grind[ju_,eM_,List.length_mergeSort,List.length_nil,atS]
theorem jT_ (p:List Pc) (x:Str):x∈atS p↔x∈cE_ p\/x=[42]\/x=[33]:=by
  grind[atS,nn_,List.mem_mergeSort]
theorem atS_c (p:List Pc) (A:Ao) (k:Nat) (W:p.length<=100000000):Tri prog 146 #[.slice A p.length k] [] [X_ A (p.flatMap Pc.cells)] (λy:{y:Ao×Nat // (atS p).length<=y.2/\y.2<=maxLen/\(y.1=none->y.2=0)}=>.slice y.1.1 (atS p).length y.1.2) (λ_=>[]) (λy=>[X_ y.1.1 ((atS p).flatMap aa_)]):=by
  refine j_ func146 rfl rfl ntmps146 rfl λS=>?_;refine Zz 8 ?_;refine f_ (wY_ p A k zaa_) rfl i_ zf rfl λ⟨⟨aad,acap⟩,L,P⟩=>?_;dsimp only;refine f_ (Be_ (cE_ p) aad acap L (by have:=eM_ p;omega)) rfl i_ zf rfl λ⟨⟨U,Q⟩,M⟩=>?_;dsimp only;refine u_ ea_ (B_ n_ D_ V_ rfl rfl rfl rfl rfl rfl λV=>?_);refine aH_ (news:=List.flatMap aa_ [[42],[33]]) dj_ M rfl rfl E_ rfl (bz_ 0 rfl) (λu T=>aF_ cz_ T) (by simp only[maxLen];(have:=eM_ p;(try simp only[yaj_,yak_,yay_]);omega)) zaY_ rfl λE O I=>?_;refine u_ yaE_ ?_;have F:=zsa I;refine Zz 6 ?_;refine f_ (rw_ F zaY_) rfl E_ zt rfl λ⟨v,J⟩=>?_;dsimp only;have m:at_ 9 1 E ((((cE_ p)++[[42],[33]])).mergeSort λx y=>decide (x<=y)).length (List.flatMap aa_ ((((cE_ p)++[[42],[33]])).mergeSort λx y=>decide (x<=y))) v:=by rw[yaX_];exact J
  refine Zz 2 ?_;refine u_ (aW_ aJ_) (Zz 3 ?_);refine f_ (pD_ m (by rw[yaX_];(have:=eM_ p;(try simp only[yaj_,yak_,yay_]);omega))) rfl E_ zt rfl λ⟨⟨K,N⟩,G⟩=>?_;dsimp only;refine Zz 4 ?_;refine bQ_ G s_ λC H B e d h=>?_;exact ac_ results146 ⟨(C,H),e,d,h⟩ (ec_ rfl B) i_ zf
end Go.Proofs.YtbffkokbdeppaaaGreatDoor
namespace Go.Proofs
open Go.Shelf
def Tryz.sortFc_ren:Go.Shelf.Ren:=⟨fun|6=>150|15=>181|14=>236|28=>267|29=>268|20=>293|21=>294|22=>295|23=>296|24=>297|25=>298|26=>299|27=>300|46=>336|47=>309|48=>310|49=>337|50=>338|57=>375|n=>n,fun|22=>50|24=>104|25=>209|3=>3|39=>231|0=>0|53=>306|55=>308|4=>4|46=>300|45=>299|50=>249|5=>5|9=>9|66=>349|70=>237|76=>388|77=>389|n=>n,fun|n=>n⟩
theorem Tryz.sortFc:Go.Proofs.SlLaysF0.n6 Tryz.prog Tryz.sortFc_ren:={
  mixed:=by kernel_rfl
  f6:=⟨Tryz.f150.name,by decide,Tryz.func150.trans (yae_ some zad_)⟩
  f14:=⟨Tryz.f236.name,by decide,Tryz.func236.trans (yae_ some zad_)⟩
  f15:=Tryz.func181.trans (yae_ some zad_)
  f20:=⟨Tryz.f293.name,by decide,Tryz.func293.trans (yae_ some zad_)⟩
  f21:=⟨Tryz.f294.name,by decide,Tryz.func294.trans (yae_ some zad_)⟩
  f22:=⟨Tryz.f295.name,by decide,Tryz.func295.trans (yae_ some zad_)⟩
  f23:=⟨Tryz.f296.name,by decide,Tryz.func296.trans (yae_ some zad_)⟩
  f24:=⟨Tryz.f297.name,by decide,Tryz.func297.trans (yae_ some zad_)⟩
  f25:=⟨Tryz.f298.name,by decide,Tryz.func298.trans (yae_ some zad_)⟩
  f26:=⟨Tryz.f299.name,by decide,Tryz.func299.trans (yae_ some zad_)⟩
  f27:=⟨Tryz.f300.name,by decide,Tryz.func300.trans (yae_ some zad_)⟩
  f28:=Tryz.func267.trans (yae_ some zad_)
  f29:=Tryz.func268.trans (yae_ some zad_)
  f46:=⟨Tryz.f336.name,by decide,Tryz.func336.trans (yae_ some zad_)⟩
  f47:=Tryz.func309.trans (yae_ some zad_)
  f48:=Tryz.func310.trans (yae_ some zad_)
  f49:=⟨Tryz.f337.name,by decide,Tryz.func337.trans (yae_ some zad_)⟩
  f50:=⟨Tryz.f338.name,by decide,Tryz.func338.trans (yae_ some zad_)⟩
  f57:=⟨Tryz.f375.name,by decide,Tryz.func375.trans (yae_ some zad_)⟩
  t0:=Tryz.underlying0
  a0:=Tryz.isAgg0
  z0:=Tryz.sizeOf0
  v0:=Tryz.zeroValue0
  t3:=Tryz.underlying3
  a3:=Tryz.isAgg3
  z3:=Tryz.sizeOf3
  v3:=Tryz.zeroValue3
  t4:=Tryz.underlying4
  a4:=Tryz.isAgg4
  z4:=Tryz.sizeOf4
  v4:=Tryz.zeroValue4
  t5:=Tryz.underlying5
  a5:=Tryz.isAgg5
  z5:=Tryz.sizeOf5
  v5:=Tryz.zeroValue5
  t9:=Tryz.underlying9
  a9:=Tryz.isAgg9
  z9:=Tryz.sizeOf9
  v9:=Tryz.zeroValue9
  t22:=Tryz.underlying50
  a22:=Tryz.isAgg50
  z22:=Tryz.sizeOf50
  v22:=Tryz.zeroValue50
  t25:=Tryz.underlying209
  a25:=Tryz.isAgg209
  z25:=Tryz.sizeOf209
  v25:=Tryz.zeroValue209
  t39:=Tryz.underlying231
  a39:=Tryz.isAgg231
  z39:=Tryz.sizeOf231
  v39:=Tryz.zeroValue231
  t45:=Tryz.underlying299
  a45:=Tryz.isAgg299
  z45:=Tryz.sizeOf299
  v45:=Tryz.zeroValue299
  t46:=Tryz.underlying300
  a46:=Tryz.isAgg300
  z46:=Tryz.sizeOf300
  v46:=Tryz.zeroValue300
  t50:=Tryz.underlying249
  a50:=Tryz.isAgg249
  z50:=Tryz.sizeOf249
  v50:=Tryz.zeroValue249
  t53:=Tryz.underlying306
  a53:=Tryz.isAgg306
  z53:=Tryz.sizeOf306
  v53:=Tryz.zeroValue306
  t55:=Tryz.underlying308
  a55:=Tryz.isAgg308
  z55:=Tryz.sizeOf308
  v55:=Tryz.zeroValue308
  t66:=Tryz.underlying349
  a66:=Tryz.isAgg349
  z66:=Tryz.sizeOf349
  v66:=Tryz.zeroValue349
  t70:=Tryz.underlying237
  a70:=Tryz.isAgg237
  z70:=Tryz.sizeOf237
  v70:=Tryz.zeroValue237
  t76:=Tryz.underlying388
  a76:=Tryz.isAgg388
  z76:=Tryz.sizeOf388
  v76:=Tryz.zeroValue388
  t77:=Tryz.underlying389
  a77:=Tryz.isAgg389
  z77:=Tryz.sizeOf389
  v77:=Tryz.zeroValue389 }
end Go.Proofs
namespace Go.Proofs
open Go.Shelf
def Tryz.sortTr_ren:Go.Shelf.Ren:=⟨fun|6=>199|15=>181|14=>278|28=>267|29=>268|20=>321|21=>322|22=>323|23=>324|24=>325|25=>326|26=>327|27=>328|46=>366|47=>309|48=>310|49=>367|50=>368|57=>386|n=>n,fun|22=>169|24=>171|25=>240|3=>3|39=>231|0=>0|53=>306|55=>308|4=>4|46=>300|45=>299|50=>249|5=>5|9=>9|66=>349|70=>237|76=>388|77=>389|n=>n,fun|n=>n⟩
theorem Tryz.sortTr:Go.Proofs.SlLaysF0.n6 Tryz.prog Tryz.sortTr_ren:={
  mixed:=by kernel_rfl
  f6:=⟨Tryz.f199.name,by decide,Tryz.func199.trans (yae_ some zad_)⟩
  f14:=⟨Tryz.f278.name,by decide,Tryz.func278.trans (yae_ some zad_)⟩
  f15:=Tryz.func181.trans (yae_ some zad_)
  f20:=⟨Tryz.f321.name,by decide,Tryz.func321.trans (yae_ some zad_)⟩
  f21:=⟨Tryz.f322.name,by decide,Tryz.func322.trans (yae_ some zad_)⟩
  f22:=⟨Tryz.f323.name,by decide,Tryz.func323.trans (yae_ some zad_)⟩
  f23:=⟨Tryz.f324.name,by decide,Tryz.func324.trans (yae_ some zad_)⟩
  f24:=⟨Tryz.f325.name,by decide,Tryz.func325.trans (yae_ some zad_)⟩
  f25:=⟨Tryz.f326.name,by decide,Tryz.func326.trans (yae_ some zad_)⟩
  f26:=⟨Tryz.f327.name,by decide,Tryz.func327.trans (yae_ some zad_)⟩
  f27:=⟨Tryz.f328.name,by decide,Tryz.func328.trans (yae_ some zad_)⟩
  f28:=Tryz.func267.trans (yae_ some zad_)
  f29:=Tryz.func268.trans (yae_ some zad_)
  f46:=⟨Tryz.f366.name,by decide,Tryz.func366.trans (yae_ some zad_)⟩
  f47:=Tryz.func309.trans (yae_ some zad_)
  f48:=Tryz.func310.trans (yae_ some zad_)
  f49:=⟨Tryz.f367.name,by decide,Tryz.func367.trans (yae_ some zad_)⟩
  f50:=⟨Tryz.f368.name,by decide,Tryz.func368.trans (yae_ some zad_)⟩
  f57:=⟨Tryz.f386.name,by decide,Tryz.func386.trans (yae_ some zad_)⟩
  t0:=Tryz.underlying0
  a0:=Tryz.isAgg0
  z0:=Tryz.sizeOf0
  v0:=Tryz.zeroValue0
  t3:=Tryz.underlying3
  a3:=Tryz.isAgg3
  z3:=Tryz.sizeOf3
  v3:=Tryz.zeroValue3
  t4:=Tryz.underlying4
  a4:=Tryz.isAgg4
  z4:=Tryz.sizeOf4
  v4:=Tryz.zeroValue4
  t5:=Tryz.underlying5
  a5:=Tryz.isAgg5
  z5:=Tryz.sizeOf5
  v5:=Tryz.zeroValue5
  t9:=Tryz.underlying9
  a9:=Tryz.isAgg9
  z9:=Tryz.sizeOf9
  v9:=Tryz.zeroValue9
  t22:=Tryz.underlying169
  a22:=Tryz.isAgg169
  z22:=Tryz.sizeOf169
  v22:=Tryz.zeroValue169
  t25:=Tryz.underlying240
  a25:=Tryz.isAgg240
  z25:=Tryz.sizeOf240
  v25:=Tryz.zeroValue240
  t39:=Tryz.underlying231
  a39:=Tryz.isAgg231
  z39:=Tryz.sizeOf231
  v39:=Tryz.zeroValue231
  t45:=Tryz.underlying299
  a45:=Tryz.isAgg299
  z45:=Tryz.sizeOf299
  v45:=Tryz.zeroValue299
  t46:=Tryz.underlying300
  a46:=Tryz.isAgg300
  z46:=Tryz.sizeOf300
  v46:=Tryz.zeroValue300
  t50:=Tryz.underlying249
  a50:=Tryz.isAgg249
  z50:=Tryz.sizeOf249
  v50:=Tryz.zeroValue249
  t53:=Tryz.underlying306
  a53:=Tryz.isAgg306
  z53:=Tryz.sizeOf306
  v53:=Tryz.zeroValue306
  t55:=Tryz.underlying308
  a55:=Tryz.isAgg308
  z55:=Tryz.sizeOf308
  v55:=Tryz.zeroValue308
  t66:=Tryz.underlying349
  a66:=Tryz.isAgg349
  z66:=Tryz.sizeOf349
  v66:=Tryz.zeroValue349
  t70:=Tryz.underlying237
  a70:=Tryz.isAgg237
  z70:=Tryz.sizeOf237
  v70:=Tryz.zeroValue237
  t76:=Tryz.underlying388
  a76:=Tryz.isAgg388
  z76:=Tryz.sizeOf388
  v76:=Tryz.zeroValue388
  t77:=Tryz.underlying389
  a77:=Tryz.isAgg389
  z77:=Tryz.sizeOf389
  v77:=Tryz.zeroValue389 }
end Go.Proofs
namespace Go.Vs
open Go Go.Sx
def pU_ {α:Type} (l:List α) (i:Nat) (Q:Nat->α->Prop):Prop:=∀ j,j<i->∀ a,l[j]? = some a->Q j a
theorem pU_.zero {α:Type} {l:List α} {Q:Nat->α->Prop}:pU_ l 0 Q:=λj d=>by omega
theorem pU_.step {α:Type} {l:List α} {i:Nat} {Q:Nat->α->Prop} {a:α} (h:pU_ l i Q) (v:l[i]? = some a) (k:Q i a):pU_ l (i+1) Q:=λj m b d=>by
 by_cases e:j=i
 .grind
 exact h j zaa_ b d
theorem pU_.done {α:Type} {l:List α} {i:Nat} {Q:Nat->α->Prop} (h:pU_ l i Q) (hi:¬ (i:Int)<(l.length:Int)):∀ j a,l[j]? = some a->Q j a:=λj a d =>
  h j zak_ a d
theorem pU_.all {α:Type} {l:List α} {i:Nat} {Q:α->Prop} (h:pU_ l i λ_ a=>Q a) (hi:¬ (i:Int)<(l.length:Int)):∀ a∈l,Q a:=λa e=>by
  obtain⟨j,d⟩:=yaJ_ e;exact h.done hi j a d
def jx_ (b:Bool):List Value:=[.bool b]
theorem rl_ (b:Bool):(jx_ b).length=1:=rfl
end Go.Vs
namespace Go.Sx
open Go
section
variable {K:Type} [DecidableEq K] {kv:K->Value}
structure KeyE (kv:K->Value) (es:Array MapEntry) (q:List K):Prop where
  keys:es.toList.map (·.key)=q.map kv
  nd:q.Nodup
theorem SetE.ke {es:Array MapEntry} {q:List K} (h:SetE kv es q):KeyE kv es q:=⟨h.keys,h.nd⟩
theorem KeyE.ofKey {es:Array MapEntry} {q:List K} (hE:KeyE kv es q) {e:MapEntry} (d:e∈es.toList):∃ k∈q,e.key=kv k:=by
  have:e.key∈es.toList.map (·.key):=yaZ_ d;rw[hE.keys]at this
  grind
theorem KeyE.entry {es:Array MapEntry} {q:List K} (hE:KeyE kv es q) (hi:∀ x y,kv x=kv y->x=y) {x e:MapEntry} (C:x∈es.toList) (k:e∈es.toList) (h:x.key=e.key):x=e:=by
  obtain⟨i,d,v⟩:=ycH_ C;obtain⟨j,m,B⟩:=ycH_ k
  have A:(es.toList.map (·.key)).Nodup:=by
    rw[hE.keys];unfold List.Nodup;rw[ybZ_];exact ycu_ (fun {a b} hab e=>hab (hi _ _ e)) hE.nd
  grind[List.pairwise_iff_getElem]
theorem ItS.stepK {es:Array MapEntry} {q:List K} {c:Nat} {d:Array Nat} {done:List K} {e:MapEntry} (hi:∀ x y,kv x=kv y->x=y) (hE:KeyE kv es q) (hB:Born es c) (h:ItS kv es d done) (E:e∈(leftOf es d).toList) :
    ∃ k,k∈q/\k ∉ done/\e.key=kv k/\e∈es.toList/\ItS kv es (d.push e.born) (done++[k]):=by
  unfold leftOf at E;rw[Array.toList_filter,yaQ_]at E;obtain⟨A,G⟩:=E;obtain⟨k,hk,v⟩:=hE.ofKey A
  have B:k ∉ done:=λhm=>by
    have:=(h.mem e A).2 ⟨k,hm,v⟩
    grind
  have same:∀ x∈es.toList,x.born=e.born->x=e:=λx C H=>by
    grind[Born.nd,List.getElem_of_mem,List.pairwise_iff_getElem]
  refine⟨k,hk,B,v,A,⟨?_,λx C=>?_,λy m=>?_⟩⟩
  . grind[nd]
  . rw[Array.contains_push,ybs_,h.mem x C,ydc_]
    constructor
    . grind
    . rintro ⟨y,m,F⟩
      rcases yai_.1 m with m|m
      . grind
      . rw[yam_]at m
        subst m;exact .inr (yae_ MapEntry.born (hE.entry hi C A (F.trans v.symm)))
  . rcases yai_.1 m with m|m
    . exact h.sub y m
    grind
theorem ItS.endK {es:Array MapEntry} {q:List K} {d:Array Nat} {done:List K} (hi:∀ x y,kv x=kv y->x=y) (hE:KeyE kv es q) (h:ItS kv es d done) (F:(leftOf es d).size=0):done.Perm q:=by
 refine (List.perm_ext_iff_of_nodup h.nd hE.nd).2 λk=>⟨λhk=>?_,λhk=>?_⟩
 .obtain⟨e,B,v⟩:=h.sub k hk
  obtain⟨E,A,m⟩:=hE.ofKey B
  grind
 have:kv k∈es.toList.map (·.key):=by rw[hE.keys];grind
 obtain⟨e,B,v⟩:=yan_.1 this
 have C:d.contains e.born=true:=by
   cases hc:d.contains e.born
   . exfalso
     have:e∈(leftOf es d).toList:=by grind[leftOf]
     grind
   . rfl
 obtain⟨E,A,m⟩:=(h.mem e B).1 C
 grind
end
end Go.Sx
namespace Go.Sx
open Go
section
variable {P:Program} {ops:Array Oper} {Q:Exit->Act->World->Prop}
theorem uA_ {r n:Nat} {o:Oper} {a:Act} {w:World} {next:Act->World->Prop} (m:gQ_ o.op=true) (h:o.wp P a w next Q):o.wpIn (Fence.wide.inRound r) n P a w next Q:=by
  refine⟨λ_ _=>trivial,?_⟩;rw[semAt_eq m];unfold Oper.wp at h;generalize (execOp a.eval o).run P w=z at h ⊢
  cases z with
  | ok x w' =>
    cases x with
    | value u=>exact h
    | skip=>exact h
    | defer d=>exact h
    | enter f args=>exact⟨λq=>(by cases q),(ly_ (F:=Fence.wide) h r).mono λe k q=>by omega⟩
    | row row args =>
      refine⟨λq=>(by cases q),λc cs _=>?_⟩;obtain⟨u,k,y,v⟩:=h c cs;exact⟨u,k,y,stepsIn_wide.2 v⟩
    | _=>exact h.elim
  | halt x w'=>cases x<;>first|exact h|exact h.elim
theorem ia_ {r n:Nat} (d:(ops.toList.all λo=>gQ_ o.op)=true) (k:¬ LetsOut Q):∀ (l:List Nat) (a:Act) (w:World),wpOps P ops Q l a w->wpOpsIn (Fence.wide.inRound r) n P ops Q l a w
 | [],_,_,h=>h
 | i::l,a,w,h=>by
   unfold wpOps at h;unfold wpOpsIn;cases ho:ops[i]? with
   | none=>rw[ho]at h;exact ia_ d k l a w h
   | some o =>
     rw[ho]at h;simp only at h ⊢
     have m:gQ_ o.op=true:=by
       grind
     split
     . rename_i e
       rw[yaq_ e]at h;rcases h with h|h
       . exact uA_ m (Oper.wp_mono (λa w q=>ia_ d k l a w q) h)
       grind
     . rename_i e
       rw[yag_ e]at h;exact⟨λ_ _=>trivial,ia_ d k l _ w h⟩
end
section
variable {n:Nat} {P:Program} {N:Nat} {v0:Vw} {H0:Hp} {R:Exit->Act->World->Prop} {K:List Kt} {fr:Fr} {H:Hp} {Γ:List Fct} {ops:Array Oper}
theorem uP_ {r y:Nat} (Hs:Hp) (hm:P.follows .mixedOrders=true) (m:(ops.toList.all λo=>gQ_ o.op)=true) (E:gb_ K=true) (C:∀ e a w,R e a w->e=.normal)
    (h:Any P R N v0 H0 ops Hs Γ ops.size (Array.replicate ops.size false) [] fr H Γ):iB_ (Fence.wide.inRound r) n P R N [] v0 H0 (.region y ops true) K fr H Γ:=by
  refine dH_.2 λa v B k d A=>?_
  refine wpIn_mono (Q:=R) (wpIn_region_draw λt=>?_) λe a w q=>by
    grind[lO_]
  have x:v.le ⟨v.im,{ v.w with drawn:=v.w.drawn+1 },v.sl⟩:=⟨λ_ h=>h,λ_ _=>rfl,rfl⟩;have q:=h a ⟨v.im,{ v.w with drawn:=v.w.drawn+1 },v.sl⟩ B ⟨k.own,k.nodup,k.lt⟩ ⟨d.os,d.tape,d.output,d.size,d.block,d.imUp,d.imNew,d.hNew,d.sl,d.dr.imp (λh=>h) λh=>Nat.le_succ_of_le h⟩ (aT_ x A);refine ia_ m (λ⟨a,w,q⟩=>by grind) _ _ _ ?_;simp only[Region.schedule,hm,Bool.true_or,ycq_];exact wpAny_sound ops.size t _ a _ (wpAny_of_held _ _ _ _ q)
theorem pW_ {σ:Type} {Hj:σ->Hp} {ok:σ->Prop} {d:Hp}:∀ e a w,sq_ v0 H0 Hj ok d e a w->e=.normal
  | .normal,_,_,_=>rfl
instance {σ:Type} {Hj:σ->Hp} {ok:σ->Prop} {HL:Hp}:NoPan (sq_ v0 H0 Hj ok HL):=⟨λ_ _ _ _ _ h=>h⟩
end
end Go.Sx
namespace Go.Vs
open Go Go.Sx
structure Thg where
  kind:Int
  name:Str
deriving DecidableEq
def Thg.cells (t:Thg):List Value:=[.int .i64 t.kind,str t.name]
theorem Thg.cells_len (t:Thg):t.cells.length=2:=rfl
def Thg.val (t:Thg):Value:=.agg t.cells.toArray
def al_ (x:Pc):List Thg :=
  if x.kind=1\/x.kind=3\/x.kind=8 then [⟨1,x.a⟩]
  else if x.kind=2 then [⟨1,x.a⟩,⟨1,x.b⟩]
  else if x.kind=4 then [⟨2,x.r⟩,⟨1,x.a⟩]
  else if x.kind=5 then [⟨2,x.r⟩]
  else if x.kind=6 then [⟨2,x.r⟩,⟨2,x.s⟩]
  else if x.kind=9 then [⟨3,x.r⟩] else []
def aI_ (x:Pc):List Thg :=
  if x.kind=1\/x.kind=2\/x.kind=4\/x.kind=9 then [⟨1,x.c⟩]
  else if x.kind=3 then [⟨2,x.r⟩,⟨1,x.c⟩]
  else if x.kind=5\/x.kind=6 then [⟨2,x.t⟩]
  else if x.kind=7 then [⟨2,x.r⟩]
  else if x.kind=8 then [⟨3,x.r⟩] else []
def dF_ (S:List Str):List Thg:=[⟨1,[42]⟩,⟨1,[33]⟩]++S.map (λs=>⟨1,s⟩)
inductive Rch (p:List Pc) (S:List Str):Thg->Prop
  | base {t:Thg} (h:t∈dF_ S):Rch p S t
  | give {x:Pc} {t:Thg} (hx:x∈p) (hn:∀ u∈al_ x,Rch p S u) (ht:t∈aI_ x):Rch p S t
def Usb (p:List Pc) (S:List Str) (x:Pc):Prop:=∀ u∈al_ x,Rch p S u
def bO_ (K:List Thg):List Thg->List Thg
  | []=>[]
  | t::l=>if t∈K then bO_ K l else t::bO_ (K++[t]) l
theorem gX_:∀ (l K:List Thg) (t:Thg),t∈K++bO_ K l↔t∈K\/t∈l
 | [],K,t=>by simp[bO_]
 | u::l,K,t=>by
   rw[bO_]
   by_cases h:u∈K
   . rw[yaq_ h,gX_ l K t]
     grind
   . rw[yag_ h,show K++u::bO_ (K++[u]) l=(K++[u])++bO_ (K++[u]) l by simp,gX_ l (K++[u]) t]
     grind
theorem gW_:∀ (l K:List Thg),K.Nodup->(K++bO_ K l).Nodup
 | [],K,h=>by grind[bO_]
 | u::l,K,h=>by
   rw[bO_]
   by_cases d:u∈K
   . rw[yaq_ d];exact gW_ l K h
   . rw[yag_ d,show K++u::bO_ (K++[u]) l=(K++[u])++bO_ (K++[u]) l by simp]
     refine gW_ l (K++[u]) ?_
     grind
theorem ue_ {K l:List Thg} (h:K.Nodup) {t:Thg} (d:t∈bO_ K l):t ∉ K:=by grind[gW_]
def pnd (K W:List Thg) (t:Thg):Bool:=decide (t ∉ K)||decide (t∈W)
theorem Co_ {K W l:List Thg} (h:K.Nodup) (t:Thg):pnd (K++bO_ K l) (W++bO_ K l) t=pnd K W t:=by
  grind[pnd,ue_]
def ex_ (K W:List Thg) (x:Pc):Nat:=(al_ x).countP (pnd K W)
theorem lV_ {K W l:List Thg} (h:K.Nodup) (x:Pc):ex_ (K++bO_ K l) (W++bO_ K l) x=ex_ K W x:=by
  unfold ex_
  congr 1
  grind[Co_]
structure KW (p:List Pc) (S:List Str) (K W:List Thg):Prop where
  snd:∀ t∈K,Rch p S t
  kn:K.Nodup
  sub:∀ t∈W,t∈K
  wn:W.Nodup
theorem KW.ext {p:List Pc} {S:List Str} {K W l:List Thg} (h:KW p S K W) (hl:∀ t∈l,Rch p S t):KW p S (K++bO_ K l) (W++bO_ K l) where
  snd t ht:=((gX_ l K t).1 ht).elim (h.snd t) (hl t)
  kn:=gW_ l K h.kn
  sub t ht:=(yai_.1 ht).elim (λq=>yax_ _ (h.sub t q)) (λq=>yaF_ _ q)
  wn:=by
    have d:=gW_ l K h.kn;rw[ybe_]at d ⊢;exact⟨h.wn,d.2.1,λa e b k=>d.2.2 a (h.sub a e) b k⟩
structure RK (p:List Pc) (S:List Str) (i:Nat) (K:List Thg) (U:List Bool):Prop where
  kw:KW p S K K
  bas:∀ t∈dF_ S,t∈K
  ul:U.length=p.length
  use:∀ (j:Nat) x,p[j]? = some x->U[j]? = some (decide (j<i)&&decide (al_ x=[]))
  giv:∀ (j:Nat) x,p[j]? = some x->j<i->al_ x=[]->∀ t∈aI_ x,t∈K
structure RI (p:List Pc) (S:List Str) (K W:List Thg) (U:List Bool) (wl:List Int):Prop where
  kw:KW p S K W
  bas:∀ t∈dF_ S,t∈K
  ul:U.length=p.length
  wll:wl.length=p.length
  cnt:∀ (i:Nat) x,p[i]? = some x->wl[i]? = some (ex_ K W x:Int)
  use:∀ (i:Nat) x,p[i]? = some x->U[i]? = some (decide (ex_ K W x=0))
  giv:∀ (i:Nat) x,p[i]? = some x->ex_ K W x=0->∀ t∈aI_ x,t∈K
theorem lW_ (K:List Thg) (x:Pc):ex_ K K x=(al_ x).length:=by
  grind[ex_,List.countP_eq_length,pnd]
theorem RK.init {p:List Pc} {S:List Str} {K:List Thg} (d:KW p S K K) (e:∀ t∈dF_ S,t∈K):RK p S 0 K (List.replicate p.length false) where
  kw:=d
  bas:=e
  ul:=by simp
  use j x hj:=by
    grind
  giv j x _ h:=absurd h (Nat.not_lt_zero _)
theorem RK.skip {p:List Pc} {S:List Str} {i:Nat} {K:List Thg} {U:List Bool} {x:Pc} (h:RK p S i K U) (d:p[i]? = some x) (k:al_ x≠[]):RK p S (i+1) K U where
 kw:=h.kw
 bas:=h.bas
 ul:=h.ul
 use j y hj:=by
   rw[h.use j y hj]
   grind[Option.some.injEq]
 giv j y hj hlt he:=by
   by_cases e:j=i
   . grind
   . exact h.giv j y hj zaa_ he
theorem nJ_ {α:Type} {l:List α} {i:Nat} {v:α} (h:i<l.length) (j:Nat):(l.set i v)[j]? = if j=i then some v else l[j]? := by
  grind
theorem RK.take {p:List Pc} {S:List Str} {i:Nat} {K:List Thg} {U:List Bool} {x:Pc} (h:RK p S i K U) (m:p[i]? = some x) (v:al_ x=[]):RK p S (i+1) (K++bO_ K (aI_ x)) (U.set i true) where
 kw:=h.kw.ext λt d=>.give (yab_ m) zak_ d
 bas t d:=yax_ _ (h.bas t d)
 ul:=by grind[ul]
 use j y hj:=by
   have k:=(yaf_.1 m).1;rw[nJ_ (by grind[ul])]
   by_cases e:j=i
   . grind
   . rw[yag_ e,h.use j y hj]
     congr 2
     grind
 giv j y hj k he t d:=by
   by_cases e:j=i
   . grind[gX_]
   . exact yax_ _ (h.giv j y hj zaa_ he t d)
theorem RK.done {p:List Pc} {S:List Str} {K:List Thg} {U:List Bool} (h:RK p S p.length K U):RI p S K K U (p.map λx=>((al_ x).length:Int)) where
  kw:=h.kw
  bas:=h.bas
  ul:=h.ul
  wll:=by simp
  cnt i x hx:=by grind[lW_]
  use i x hx:=by
    have:=(yaf_.1 hx).1;rw[h.use i x hx,lW_,yaW_ this,Bool.true_and]
    grind[List.length_eq_zero_iff]
  giv i x hx h0:=by
    rw[lW_,List.length_eq_zero_iff]at h0;exact h.giv i x hx (yaf_.1 hx).1 h0
structure RJ (p:List Pc) (S:List Str) (t:Thg) (us:List Int) (j:Nat) (K W:List Thg) (U:List Bool) (wl:List Int):Prop where
  kw:KW p S K W
  bas:∀ t∈dF_ S,t∈K
  ul:U.length=p.length
  wll:wl.length=p.length
  tk:t∈K
  tw:t ∉ W
  cnt:∀ (i:Nat) x,p[i]? = some x->wl[i]? = some ((ex_ K W x:Int)+((al_ x).count t:Int) - ((us.take j).count (i:Int):Int))
  use:∀ (i:Nat) x,p[i]? = some x->U[i]? = some (decide ((ex_ K W x:Int)+((al_ x).count t:Int) - ((us.take j).count (i:Int):Int)=0))
  giv:∀ (i:Nat) x,p[i]? = some x->(ex_ K W x:Int)+((al_ x).count t:Int) - ((us.take j).count (i:Int):Int)=0->∀ u∈aI_ x,u∈K
theorem lU_ {p:List Pc} {S:List Str} {K W:List Thg} {t:Thg} (h:KW p S K (W++[t])) (x:Pc):ex_ K (W++[t]) x=ex_ K W x+(al_ x).count t:=by
  have d:t∈K:=h.sub t zai_
  grind[KW.wn,List.nodup_append,ex_,al_,pnd]
theorem RI.pop {p:List Pc} {S:List Str} {K W:List Thg} {U:List Bool} {wl:List Int} {t:Thg} (h:RI p S K (W++[t]) U wl) (us:List Int):RJ p S t us 0 K W U wl where
  kw:=⟨h.kw.snd,h.kw.kn,λu d=>h.kw.sub u (yax_ _ d),(ybe_.1 h.kw.wn).1⟩
  bas:=h.bas
  ul:=h.ul
  wll:=h.wll
  tk:=h.kw.sub t zai_
  tw:=λq=>(ybe_.1 h.kw.wn).2.2 t q t zai_ rfl
  cnt i x hx:=by rw[h.cnt i x hx,lU_ h.kw];simp
  use i x hx:=by
    rw[h.use i x hx,lU_ h.kw]
    congr 1
    grind
  giv i x hx h0:=h.giv i x hx (by rw[lU_ h.kw];grind)
def or_ (p:List Pc) (us:List Int) (t:Thg):Prop:=(∀ m∈us,0<=m/\m<p.length)/\∀ (i:Nat) x,p[i]? = some x->us.count (i:Int)=(al_ x).count t
theorem ke_ (us:List Int) (j:Nat) (m:Int):(us.take j).count m<=us.count m:=by grind[List.take_sublist]
theorem cx_ {us:List Int} {j:Nat} {m:Int} (hm:us[j]? = some m) (k:Int):(us.take (j+1)).count k=(us.take j).count k+if k=m then 1 else 0:=by
  grind[List.take_add_one]
section
variable {p:List Pc} {S:List Str} {t:Thg} {us:List Int} {j:Nat} {K W:List Thg} {U:List Bool} {wl:List Int} {i:Nat} {x:Pc} {n:Int}
theorem RJ.pos (h:RJ p S t us j K W U wl) (k:or_ p us t) (hm:us[j]? = some (i:Int)) (d:p[i]? = some x):∃ n:Int,wl[i]? = some n/\1<=n/\n<=(al_ x).length+(al_ x).length/\n=(ex_ K W x:Int)+((al_ x).count t:Int) - ((us.take j).count (i:Int):Int):=by
  have e:=ke_ us (j+1) i;rw[cx_ hm,yaq_ rfl,k.2 i x d]at e;have m:ex_ K W x<=(al_ x).length:=List.countP_le_length;have v:(al_ x).count t<=(al_ x).length:=List.count_le_length;exact⟨_,h.cnt i x d,by omega,by omega,rfl⟩
theorem RJ.skip (h:RJ p S t us j K W U wl) (B:or_ p us t) (hm:us[j]? = some (i:Int)) (d:p[i]? = some x) (v:wl[i]? = some n) (F:n - 1≠0):RJ p S t us (j+1) K W U (wl.set i (n - 1)) where
 kw:=h.kw
 bas:=h.bas
 ul:=h.ul
 wll:=by grind[wll]
 tk:=h.tk
 tw:=h.tw
 cnt k y hy:=by
   have A:=(yaf_.1 d).1;rw[nJ_ zak_,cx_ hm]
   by_cases e:k=i
   . subst e
     rw[d,yah_]at hy;subst hy;rw[h.cnt k x d,yah_]at v
     grind
   . rw[yag_ e,yag_ zaa_,h.cnt k y hy]
     congr 1
 use k y hy:=by
   rw[h.use k y hy,cx_ hm]
   by_cases e:k=i
   . subst e
     obtain⟨m,E,H,G,C⟩:=h.pos B hm hy
     grind[Option.some.injEq]
   grind
 giv k y hy h0:=by
   rw[cx_ hm]at h0
   by_cases e:k=i
   . subst e
     rw[d,yah_]at hy;subst hy;rw[h.cnt k x d,yah_]at v
     grind
   . rw[yag_ zaa_]at h0
     exact h.giv k y hy h0
theorem vp_ {K W:List Thg} {x:Pc} (h:ex_ K W x=0) {u:Thg} (d:u∈al_ x):u∈K:=by
  grind[ex_,pnd]
theorem RJ.take (h:RJ p S t us j K W U wl) (E:or_ p us t) (hm:us[j]? = some (i:Int)) (d:p[i]? = some x) (B:wl[i]? = some n) (G:n - 1=0):RJ p S t us (j+1) (K++bO_ K (aI_ x)) (W++bO_ K (aI_ x)) (U.set i true) (wl.set i (n - 1)) where
 kw:=h.kw.ext λu A=>.give (yab_ d) (λv F=>h.kw.snd v (by
   have C:=ke_ us (j+1) i;rw[cx_ hm,yaq_ rfl,E.2 i x d]at C;rw[h.cnt i x d,yah_]at B
   grind[vp_])) A
 bas u hb:=yax_ _ (h.bas u hb)
 ul:=by grind[ul]
 wll:=by grind[wll]
 tk:=yax_ _ h.tk
 tw:=λq=>(yai_.1 q).elim h.tw λq=>ue_ h.kw.kn q h.tk
 cnt k y hy:=by
   have m:=(yaf_.1 d).1;rw[nJ_ zak_,cx_ hm,lV_ h.kw.kn]
   by_cases e:k=i
   . subst e
     rw[d,yah_]at hy;subst hy;rw[h.cnt k x d,yah_]at B
     grind
   . rw[yag_ e,yag_ zaa_,h.cnt k y hy]
     congr 1
 use k y hy:=by
   have m:=(yaf_.1 d).1;rw[nJ_ (by grind[ul]),cx_ hm,lV_ h.kw.kn]
   by_cases e:k=i
   . subst e
     rw[d,yah_]at hy;subst hy;rw[h.cnt k x d,yah_]at B
     grind
   . rw[yag_ e,yag_ zaa_,h.use k y hy]
     rfl
 giv k y hy h0 u A:=by
   rw[cx_ hm,lV_ h.kw.kn]at h0
   by_cases e:k=i
   . grind[gX_]
   . rw[yag_ zaa_]at h0
     exact yax_ _ (h.giv k y hy h0 u A)
theorem RJ.done (h:RJ p S t us us.length K W U wl) (k:or_ p us t):RI p S K W U wl:=by
  have e:∀ (i:Nat) x,p[i]? = some x->(ex_ K W x:Int)+((al_ x).count t:Int) - ((us.take us.length).count (i:Int):Int)=(ex_ K W x:Int):=λi x d=>by
    rw[ybB_,k.2 i x d];omega
  refine⟨h.kw,h.bas,h.ul,h.wll,λi x d=>by rw[h.cnt i x d,e i x d],λi x d=>?_,λi x d m=>h.giv i x d zak_⟩;rw[h.use i x d,e i x d]
  congr 1
  grind
end
structure ReachR (p:List Pc) (S:List Str) (K:List Thg) (U:List Bool):Prop where
  known:∀ t,t∈K↔Rch p S t
  kn:K.Nodup
  ul:U.length=p.length
  use:∀ (i:Nat) x,p[i]? = some x->∃ b,U[i]? = some b/\(b=true↔Usb p S x)
theorem RI.end {p:List Pc} {S:List Str} {K:List Thg} {U:List Bool} {wl:List Int} (h:RI p S K [] U wl):ReachR p S K U:=by
  have m:∀ x,ex_ K [] x=0↔∀ u∈al_ x,u∈K:=λx=>by
    grind[ex_,pnd]
  have d:∀ t,Rch p S t->t∈K:=λt v=>by
    induction v with
    | base hb=>exact h.bas _ hb
    | give k hn hg ih =>
      obtain⟨i,hi⟩:=yaJ_ k;exact h.giv i _ hi ((m _).2 ih) _ hg
  refine⟨λt=>⟨h.kw.snd t,d t⟩,h.kw.kn,h.ul,λi x k=>⟨_,h.use i x k,?_⟩⟩;rw[ybv_,m];exact⟨λq u e=>h.kw.snd u (q u e),λq u e=>d u (q u e)⟩
def os_ (p:List Pc) (S:List Str):List Thg:=dF_ S++p.flatMap aI_
theorem Rch.univ {p:List Pc} {S:List Str} {t:Thg} (h:Rch p S t):t∈os_ p S:=by
  unfold os_;cases h<;>grind
theorem hv_ {α:Type} [DecidableEq α]:∀ (l m:List α),l.Nodup->(∀ x∈l,x∈m)->l.length<=m.length
  | [],m,_,_=>ybm_ _
  | a::l,m,h,hs=>by
    have k:=hs a yao_;have d:=ybt_.1 h;have:=hv_ l (m.erase a) d.2 λx e=>(List.mem_erase_of_ne zak_).2 (hs x (yaK_ _ e))
    grind
theorem KW.len {p:List Pc} {S:List Str} {K W:List Thg} (h:KW p S K W):K.length<=(os_ p S).length:=hv_ K _ h.kn λt d=>(h.snd t d).univ
theorem po_ (x:Pc):(aI_ x).length<=2:=by
  grind[aI_]
theorem il_ (x:Pc):(al_ x).length<=2:=by
  grind[al_]
theorem jF_ (p:List Pc) (S:List Str):(os_ p S).length<=2*p.length+S.length+2:=by
  have:∀ q:List Pc,(q.flatMap aI_).length<=2*q.length:=λq=>by
    induction q<;>grind[po_]
  grind[os_,dF_]
end Go.Vs
namespace Go.Sx
open Go Go.Vs
section
variable {P:Program} {N:Nf} {v0:Vw} {H0:Hp} {R:Exit->Act->World->Prop} {Kk:List Kt} {fr:Fr} {H:Hp} {Γ:List Fct}
variable {ops:Array Oper} {lo:List Oper} {d:Nat} {ty:TypeId} {ps:String} {af:Array Edge}
variable {K:Type} [DecidableEq K] {kv:K->Value}
theorem IntE.at {x:TypeId} {es:Array MapEntry} {ks:List K} {vs:List Int} (A:KeyT P x kv) (h:IntE kv es ks vs) {k:K} {i:Nat} {n:Int} (hi:ks[i]? = some k) (B:vs[i]? = some n):∃ e,es[i]? = some e/\e.key=kv k/\e.val=.int .i64 n/\di_ P x (kv k) es.toList (some (i,.int .i64 n)):=by
  have m:i<es.toList.length:=by
    have:=(yaf_.1 hi).1;have e:=yae_ List.length h.keys
    grind
  have v:=yaa_ m;have y:=yae_ (λl=>l[i]?) h.vals;simp only[yaM_,v,yaR_,B,yah_]at y;have hk:=yae_ (λl=>l[i]?) h.keys;simp only[yaM_,v,yaR_,hi,yah_]at hk;refine⟨es.toList[i],by grind,hk,y,?_⟩;have:=A.sf k es.toList ks i _ h.keys h.nd hi v
  grind
theorem qg_ {t e G:TypeId} {x y:Operand} {h c:Nat} {es:Array MapEntry} {ks:List K} {vs:List Int} {k:K} {i:Nat} {n:Int} (m:KeyT P e kv) (C:∀ w,(underlying t).run P w=.ok (.map e G) w) (E:Fr.ev fr x=some (.map (some h))) (B:Fr.ev fr y=some (kv k))
    (hE:IntE kv es ks vs) (hi:ks[i]? = some k) (F:vs[i]? = some n) (hm:∀ v,v.sat H->ag_ Γ v->v.w.heap[h]? = some (.map es c)):Yld P N fr H Γ (.lookup t x y false) ty (.int .i64 n):=by
  obtain⟨_,_,_,_,A⟩:=hE.at m hi F;exact ef_ C E B hm (m.ok k) A
theorem vi_ {kv:K->Value} {es:Array MapEntry} {ks:List K} {vs:List Int} (h:IntE kv es ks vs) {k:K} {i:Nat} (hi:ks[i]? = some k) (n:Int):IntE kv (es.modify i λy=>{ y with key:=kv k,val:=.int .i64 n }) ks (vs.set i n):=by
 have e:=yae_ List.length h.vals;simp only[yaC_]at e;have m:=yae_ List.length h.keys;simp only[yaC_]at m;refine⟨?_,?_,h.nd⟩
 .rw[<-h.keys]
  apply yaS_
  intro j;simp only[yaM_,ybU_,ybo_]
  by_cases v:i=j
  .subst v
   rw[yaq_ rfl];have hk:=yae_ (λl=>l[i]?) h.keys
   grind
  grind
 apply yaS_
 intro j;have x:=yae_ (λl=>l[j]?) h.vals
 grind
theorem vb_ {o:Op} {t A O:TypeId} {x y z:Operand} {v c:Nat} (j:Nat) {es:Array MapEntry} {ks:List K} {vs:List Int} {k:K} {i:Nat} {m n:Int} (B:KeyT P A kv) (E:o=.insert t x y z\/o=.mapUpdate t x y z) (I:∀ w,(underlying t).run P w=.ok (.map A O) w)
    (L:Fr.ev fr x=some (.map (some v))) (F:Fr.ev fr y=some (kv k)) (Q:Fr.ev fr z=some (.int .i64 n)) (J:H[j]? = some (v,.map es c)) (hE:IntE kv es ks vs) (hi:ks[i]? = some k) (hm:vs[i]? = some m)
    (h:∀ es',IntE kv es' ks (vs.set i n)->Ops P R N v0 H0 ops lo Kk fr (H.set j (v,.map es' c)) Γ):Ops P R N v0 H0 ops (⟨none,o,ty,ps,af,none⟩::lo) Kk fr H Γ:=by
  obtain⟨e,M,G,S,C⟩:=hE.at B hi hm;exact fA_ j B E I L F Q J C M G (h _ (vi_ hE hi n))
end
end Go.Sx
namespace Go.Vs
open Go Go.Sx
def Thg.eqb (p q:Thg):Bool:=(p.kind==q.kind)&&((p.name==q.name)&&true)
theorem Thg.eqb_eq (p q:Thg):p.eqb q=decide (p=q):=by
  rw[ybh_];cases p;cases q;grind[eqb]
theorem lq_:∀ (l m K:List Thg),bO_ K (l++m)=bO_ K l++bO_ (K++bO_ K l) m
 | [],m,K=>by simp[bO_]
 | u::l,m,K=>by
   rw[yaD_,bO_,bO_]
   by_cases d:u∈K
   . rw[yaq_ d,yaq_ d,lq_ l m K]
   . rw[yag_ d,yag_ d,lq_ l m (K++[u]),show K++u::bO_ (K++[u]) l=(K++[u])++bO_ (K++[u]) l by simp]
     rfl
theorem jt_:∀ (l K:List Thg),(bO_ K l).length<=l.length
 | [],K=>by simp[bO_]
 | u::l,K=>by
   rw[bO_]
   by_cases d:u∈K
   . rw[yaq_ d];have:=jt_ l K;grind
   . rw[yag_ d];have:=jt_ l (K++[u]);grind
theorem take_snoc {α:Type} {l:List α} {i:Nat} {x:α} (h:l[i]? = some x):l.take (i+1)=l.take i++[x]:=by
  grind[List.take_add_one]
theorem ud_ {W K l:List Thg} {j:Nat} {t:Thg} (h:l[j]? = some t):W++bO_ K (l.take (j+1))=(W++bO_ K (l.take j))++bO_ (K++bO_ K (l.take j)) [t]:=by
  grind[take_snoc,lq_]
theorem vP_ {S:List Str} {j:Nat} {s:Str} (h:S[j]? = some s):dF_ (S.take (j+1))=dF_ (S.take j)++[⟨1,s⟩]:=by
  unfold dF_;rw[take_snoc h,yaz_,<-yap_];rfl
theorem yO_ {S:List Str} {j:Nat} {s:Str} (h:S[j]? = some s):bO_ [] (dF_ (S.take (j+1)))=bO_ [] (dF_ (S.take j))++bO_ (bO_ [] (dF_ (S.take j))) [⟨1,s⟩]:=by
  grind[vP_,lq_]
theorem yN_:bO_ [] (dF_ (([]:List Str).take 0))=([]++bO_ [] [⟨1,[42]⟩])++bO_ ([]++bO_ [] [⟨1,[42]⟩]) [⟨1,[33]⟩]:=by decide
theorem sl_ (p:List Pc) (S:List Str):KW p S (bO_ [] (dF_ S)) (bO_ [] (dF_ S)):=by
  have e:KW p S [] []:=⟨by simp,ybG_,by simp,ybG_⟩;have:=e.ext (l:=dF_ S) λt d=>.base d
  grind
theorem ur_ (S:List Str):∀ t∈dF_ S,t∈bO_ [] (dF_ S):=λt d=>by
  have:=(gX_ (dF_ S) [] t).2 (.inr d)
  grind
theorem KW.wlen {p:List Pc} {S:List Str} {K W:List Thg} (h:KW p S K W):W.length<=(os_ p S).length:=hv_ W _ h.wn λt d=>(h.snd t (h.sub t d)).univ
def eA_:Nat->List Pc->List (Thg×Int)
  | _,[]=>[]
  | k,x::l=>(al_ x).map (λt=>(t,(k:Int)))++eA_ (k+1) l
theorem sG_:∀ (l m:List Pc) (k:Nat),eA_ k (l++m)=eA_ k l++eA_ (k+l.length) m
  | [],m,k=>by simp[eA_]
  | x::l,m,k=>by
    rw[yaD_,eA_,eA_,sG_ l m (k+1),yap_,yak_,show k+1+l.length=k+(l.length+1) by omega]
theorem ql_ {p:List Pc} {i:Nat} {x:Pc} (h:p[i]? = some x):eA_ 0 (p.take (i+1))=eA_ 0 (p.take i)++(al_ x).map λt=>(t,(i:Int)):=by
  have hl:=(yaf_.1 h).1;rw[take_snoc h,sG_,yaI_,ybA_ zaa_,ybP_];simp[eA_]
theorem pY_ {l:List Thg} {k:Int} {t:Thg}:lat (l.map λu=>(u,k)) t=List.replicate (l.count t) k:=by
 induction l with
 | nil=>rfl
 | cons u l ih =>
   unfold lat at ih ⊢;rw[yar_,List.count_cons,List.filter_cons]
   by_cases e:u=t
   . subst e
     grind
   grind
theorem kn_:∀ (l:List Pc) (k:Nat) (t:Thg) (m:Int),(lat (eA_ k l) t).count m=if h:(k:Int)<=m/\m<k+l.length then ((l[(m - k).toNat]?).map λx=>(al_ x).count t).getD 0 else 0
 | [],k,t,m=>by
   simp only[eA_,yay_]
   split
   . grind
   . rfl
 | x::l,k,t,m=>by
   rw[eA_,vo_,List.count_append,pY_,List.count_replicate,kn_ l (k+1) t m]
   by_cases e:m=(k:Int)
   . grind
   . rw[yag_ zak_]
     by_cases h:((k+1:Nat):Int)<=m/\m<((k+1:Nat):Int)+l.length
     . rw[dif_pos h,dif_pos zak_,show (m - (k:Int)).toNat=(m - ((k+1:Nat):Int)).toNat+1 by omega]
       simp
     grind
theorem uG_ (p:List Pc) (t:Thg):or_ p (lat (eA_ 0 p) t) t:=by
 constructor
 .intro m hm
  have h:=List.count_pos_iff.2 hm
  grind[kn_]
 grind[kn_]
theorem ow_:∀ (l:List Pc) (k:Nat),(eA_ k l).length<=2*l.length
  | [],_=>by simp[eA_]
  | x::l,k=>by
    have d:=ow_ l (k+1)
    grind[il_,eA_]
def StK (tk tw te:TypeId) (b4 b8 kb:Nat) (K W:List Thg) (H:Hp):Prop:=∃ es c sv Hw,H=(b4,.cells #[.map (some kb)] tk (0,0))::(b8,.cells #[sv] tw (0,0))::(kb,.map es c)::Hw/\SetE Thg.val es K/\Born es c/\at_ te 2 sv W.length (W.flatMap Thg.cells) Hw
def Ap_ (p:List Pc):List Int:=p.map λx=>((al_ x).length:Int)
theorem qR_ {p:List Pc} {i:Nat} {x:Pc} (h:p[i]? = some x):Ap_ (p.take (i+1))=Ap_ (p.take i)++[((al_ x).length:Int)]:=by
  unfold Ap_;rw[take_snoc h,yaz_];rfl
theorem CJ_ (n:Nat):¬ (n:Int)∈iot n:=by grind[List.getElem?_of_mem,CL_,CK_]
theorem vw_ {n i:Nat} (h:i<n):(iot n)[i]? = some (i:Int):=by
  grind[iot]
def rB_ (p:List Pc) (K:List Thg):List Thg:=(p.filter λx=>decide (∀ u∈al_ x,u∈K)).flatMap aI_
def nu_ (p:List Pc):Nat->List Thg->List Thg
  | 0,K=>K
  | n+1,K=>nu_ p n (K++bO_ K (rB_ p K))
def uR_ (p:List Pc) (S:List Str):List Thg:=nu_ p (2*p.length+S.length+3) (bO_ [] (dF_ S))
theorem zM_ {p:List Pc} {S:List Str} {K:List Thg} (h:∀ t∈K,Rch p S t):∀ t∈rB_ p K,Rch p S t:=λt m=>by
  obtain⟨x,y,v⟩:=yaB_.1 m;obtain⟨e,d⟩:=yaQ_.1 y;exact .give e (λu k=>h u (yaY_ d u k)) v
theorem wm_ {p:List Pc} {S:List Str}:∀ (n:Nat) (K:List Thg),KW p S K K->KW p S (nu_ p n K) (nu_ p n K)
  | 0,K,h=>h
  | n+1,K,h=>wm_ n _ (h.ext (zM_ h.snd))
theorem td_ {p:List Pc}:∀ (n:Nat) (K:List Thg),∀ t∈K,t∈nu_ p n K
  | 0,K,t,h=>h
  | n+1,K,t,h=>td_ n _ t (yax_ _ h)
theorem tf_ {p:List Pc}:∀ (n:Nat) (K:List Thg),bO_ K (rB_ p K)=[]->nu_ p n K=K
  | 0,K,h=>rfl
  | n+1,K,h=>by rw[nu_,h,yas_];exact tf_ n K h
theorem te_ {p:List Pc}:∀ (n:Nat) (K:List Thg),bO_ (nu_ p n K) (rB_ p (nu_ p n K))=[]\/K.length+n<=(nu_ p n K).length
 | 0,K=>.inr (by simp[nu_])
 | n+1,K=>by
   by_cases h:bO_ K (rB_ p K)=[]
   . grind[tf_]
   . rw[nu_]
     rcases te_ n (K++bO_ K (rB_ p K)) with q|q
     . exact .inl q
     grind[List.length_pos_iff]
theorem zK_ (p:List Pc) (S:List Str) (t:Thg):t∈uR_ p S↔Rch p S t:=by
 have hk:=wm_ (2*p.length+S.length+3) _ (sl_ p S)
 have d:bO_ (uR_ p S) (rB_ p (uR_ p S))=[]:=by
   rcases te_ (2*p.length+S.length+3) (bO_ [] (dF_ S)) (p:=p) with h|h
   . exact h
   . have e:=hk.len
     grind[jF_]
 refine⟨hk.snd t,λh=>?_⟩
 induction h with
 | base hb=>exact td_ _ _ _ (ur_ S _ hb)
 | @give x t hx hn hg ih =>
   have hm:t∈rB_ p (uR_ p S):=yaB_.2 ⟨x,yaQ_.2 ⟨hx,yaW_ ih⟩,hg⟩;have:=(gX_ (rB_ p (uR_ p S)) (uR_ p S) t).2 (.inr hm)
   grind
def usbB (p:List Pc) (S:List Str) (x:Pc):Bool:=(al_ x).all λu=>decide (u∈uR_ p S)
theorem zi_ (p:List Pc) (S:List Str) (x:Pc):usbB p S x=true↔Usb p S x:=by
  grind[usbB,Usb,zK_]
end Go.Vs
namespace Go.Proofs.YtbffkokbdeppaaaGreatDoor
open Go Go.Sx Go.Proofs Tryz
attribute [local irreducible] Code.wp wpList wpAnyH
open Go.Vs
theorem cr_:gr_ prog 281 [(0,1),(1,1)] [i4_ 0,str []]:=⟨_,aU_,runUnderlying281,λw=>by simp[R_,D_]⟩
theorem iJ_ {G:Prop} (h:G:=by
 exact ac_ results246 ⟨((some ⟨e,0,none⟩),2),by rw[d];simp[maxLen]⟩ (ec_ rfl (show _=Value.slice (some ⟨e,0,none⟩) (al_ x).length 2 from by rw[d];rfl)) i_ (λv _ h=>⟨(show (X_ (some ⟨e,0,none⟩) ((al_ x).flatMap Thg.cells)).p v from by rw[d];exact h.1),trivial⟩)):G:=h
theorem fP_ {G:Prop} (h:G:=by
 exact ac_ results246 ⟨((some ⟨e,0,none⟩),1),by rw[d];simp[maxLen]⟩ (ec_ rfl (show _=Value.slice (some ⟨e,0,none⟩) (al_ x).length 1 from by rw[d];rfl)) i_ (λv _ h=>⟨(show (X_ (some ⟨e,0,none⟩) ((al_ x).flatMap Thg.cells)).p v from by rw[d];exact h.1),trivial⟩)):G:=h
theorem Cw_ (x:Pc):Tri prog 246 #[Pc.val x] [] [] (λy:{y:Ao×Nat // ((al_ x)).length<=y.2/\y.2<=maxLen/\(y.1=none->y.2=0)}=>.slice y.1.1 ((al_ x)).length y.1.2) (λ_=>[]) (λy=>[X_ y.1.1 (((al_ x)).flatMap Thg.cells)]):=by
 refine j_ func246 rfl rfl ntmps246 rfl λP=>?_;refine Zz 2 ?_;refine L_ rfl rfl λQ=>Zi 14 (λm=>?_) λm=>?_
 .refine Zi 6 (λB=>?_) λB=>?_
  .refine Zi 5 (λE=>?_) λE=>?_
   .refine Zi 6 (λG=>?_) λG=>?_
    .refine Zi 6 (λH=>?_) λH=>?_
     .refine Zi 6 (λJ=>?_) λJ=>?_
      .refine Zi 6 (λL=>?_) λL=>?_
       .refine Zi 6 (λN=>?_) λN=>?_
        .refine Zz 12 ?_
         have d:al_ x=([]:List Thg):=by have k:=yav_ m;have A:=yav_ B;have C:=yav_ E;have F:=yav_ G;have I:=yav_ H;have K:=yav_ J;have M:=yav_ L;have O:=yav_ N;simp[al_,k,A,C,F,I,K,M,O]
         exact ac_ results246 ⟨(none,0),by rw[d];simp[maxLen]⟩ (ec_ rfl (show _=Value.slice none (al_ x).length 0 from by rw[d];rfl)) i_ (λv _ h=>⟨(show (X_ none ((al_ x).flatMap Thg.cells)).p v from by rw[d];exact .inl rfl),trivial⟩)
        refine Zz 8 ?_;refine d_ (y_ cr_ rfl rfl) rfl (B_ aj_ bc_ aU_ rfl rfl rfl rfl rfl rfl λe=>?_);refine U_ (List.flatMap Thg.cells [(Thg.mk 3 x.r)]) e_ rfl ?_;refine Zz 4 ?_;have d:al_ x=[(Thg.mk 3 x.r)]:=by have k:=yav_ m;have A:=yav_ B;have C:=yav_ E;have F:=yav_ G;have I:=yav_ H;have K:=yav_ J;have M:=yav_ L;have O:=ybj_ N;simp[al_,k,A,C,F,I,K,M,O]
        exact fP_
       refine Zz 8 ?_;refine d_ (y_ cr_ rfl rfl) rfl (Zz 2 ?_);refine d_ (y_ cr_ rfl rfl) rfl (B_ aj_ bc_ aU_ rfl rfl rfl rfl rfl rfl λe=>?_);refine U_ (List.flatMap Thg.cells [(Thg.mk 2 x.r),(Thg.mk 2 x.s)]) e_ rfl ?_;refine Zz 4 ?_;have d:al_ x=[(Thg.mk 2 x.r),(Thg.mk 2 x.s)]:=by have k:=yav_ m;have A:=yav_ B;have C:=yav_ E;have F:=yav_ G;have I:=yav_ H;have K:=yav_ J;have M:=ybj_ L;simp[al_,k,A,C,F,I,K,M]
       exact iJ_
      refine Zz 8 ?_;refine d_ (y_ cr_ rfl rfl) rfl (B_ aj_ bc_ aU_ rfl rfl rfl rfl rfl rfl λe=>?_);refine U_ (List.flatMap Thg.cells [(Thg.mk 2 x.r)]) e_ rfl ?_;refine Zz 4 ?_;have d:al_ x=[(Thg.mk 2 x.r)]:=by have k:=yav_ m;have A:=yav_ B;have C:=yav_ E;have F:=yav_ G;have I:=yav_ H;have K:=ybj_ J;simp[al_,k,A,C,F,I,K]
      exact fP_
     refine Zz 8 ?_;refine d_ (y_ cr_ rfl rfl) rfl (Zz 2 ?_);refine d_ (y_ cr_ rfl rfl) rfl (B_ aj_ bc_ aU_ rfl rfl rfl rfl rfl rfl λe=>?_);refine U_ (List.flatMap Thg.cells [(Thg.mk 2 x.r),(Thg.mk 1 x.a)]) e_ rfl ?_;refine Zz 4 ?_;have d:al_ x=[(Thg.mk 2 x.r),(Thg.mk 1 x.a)]:=by have k:=yav_ m;have A:=yav_ B;have C:=yav_ E;have F:=yav_ G;have I:=ybj_ H;simp[al_,k,A,C,F,I]
     exact iJ_
    refine Zz 8 ?_;refine d_ (y_ cr_ rfl rfl) rfl (Zz 2 ?_);refine d_ (y_ cr_ rfl rfl) rfl (B_ aj_ bc_ aU_ rfl rfl rfl rfl rfl rfl λe=>?_);refine U_ (List.flatMap Thg.cells [(Thg.mk 1 x.a),(Thg.mk 1 x.b)]) e_ rfl ?_;refine Zz 4 ?_;have d:al_ x=[(Thg.mk 1 x.a),(Thg.mk 1 x.b)]:=by have k:=yav_ m;have A:=yav_ B;have C:=yav_ E;have F:=ybj_ G;simp[al_,k,A,C,F]
    exact iJ_
   refine Zz 8 ?_;refine d_ (y_ cr_ rfl rfl) rfl (B_ aj_ bc_ aU_ rfl rfl rfl rfl rfl rfl λe=>?_);refine U_ (List.flatMap Thg.cells [(Thg.mk 1 x.a)]) e_ rfl ?_;refine Zz 4 ?_;have d:al_ x=[(Thg.mk 1 x.a)]:=by have k:=yav_ m;have A:=yav_ B;have C:=ybj_ E;simp[al_,k,A,C]
   exact fP_
  refine Zz 11 ?_;refine d_ (y_ cr_ rfl rfl) rfl (B_ aj_ bc_ aU_ rfl rfl rfl rfl rfl rfl λe=>?_);refine U_ (List.flatMap Thg.cells [(Thg.mk 1 x.a)]) e_ rfl ?_;refine Zz 4 ?_;have d:al_ x=[(Thg.mk 1 x.a)]:=by have k:=yav_ m;have A:=ybj_ B;simp[al_,k,A]
  exact fP_
 refine Zz 11 ?_;refine d_ (y_ cr_ rfl rfl) rfl (B_ aj_ bc_ aU_ rfl rfl rfl rfl rfl rfl λe=>?_);refine U_ (List.flatMap Thg.cells [(Thg.mk 1 x.a)]) e_ rfl ?_;refine Zz 4 ?_;have d:al_ x=[(Thg.mk 1 x.a)]:=by have k:=ybj_ m;simp[al_,k]
 exact fP_
theorem dJ_ {G:Prop} (h:G:=by
 exact ac_ results245 ⟨((some ⟨e,0,none⟩),1),by rw[d];simp[maxLen]⟩ (ec_ rfl (show _=Value.slice (some ⟨e,0,none⟩) (aI_ x).length 1 from by rw[d];rfl)) i_ (λv _ h=>⟨(show (X_ (some ⟨e,0,none⟩) ((aI_ x).flatMap Thg.cells)).p v from by rw[d];exact h.1),trivial⟩)):G:=h
theorem CQ_ (x:Pc):Tri prog 245 #[Pc.val x] [] [] (λy:{y:Ao×Nat // ((aI_ x)).length<=y.2/\y.2<=maxLen/\(y.1=none->y.2=0)}=>.slice y.1.1 ((aI_ x)).length y.1.2) (λ_=>[]) (λy=>[X_ y.1.1 (((aI_ x)).flatMap Thg.cells)]):=by
 refine j_ func245 rfl rfl ntmps245 rfl λS=>?_;refine Zz 2 ?_;refine L_ rfl rfl λT=>Zi 14 (λm=>?_) λm=>?_
 .refine Zi 6 (λB=>?_) λB=>?_
  .refine Zi 6 (λE=>?_) λE=>?_
   .refine Zi 5 (λG=>?_) λG=>?_
    .refine Zi 6 (λH=>?_) λH=>?_
     .refine Zi 7 (λJ=>?_) λJ=>?_
      .refine Zi 5 (λL=>?_) λL=>?_
       .refine Zi 6 (λN=>?_) λN=>?_
        .refine Zi 6 (λO=>?_) λO=>?_
         .refine Zz 12 ?_
          have d:aI_ x=([]:List Thg):=by have k:=yav_ m;have A:=yav_ B;have C:=yav_ E;have F:=yav_ G;have I:=yav_ H;have K:=yav_ J;have M:=yav_ L;have P:=yav_ N;have Q:=yav_ O;simp[aI_,k,A,C,F,I,K,M,P,Q]
          exact ac_ results245 ⟨(none,0),by rw[d];simp[maxLen]⟩ (ec_ rfl (show _=Value.slice none (aI_ x).length 0 from by rw[d];rfl)) i_ (λv _ h=>⟨(show (X_ none ((aI_ x).flatMap Thg.cells)).p v from by rw[d];exact .inl rfl),trivial⟩)
         refine Zz 8 ?_;refine d_ (y_ cr_ rfl rfl) rfl (B_ aj_ bc_ aU_ rfl rfl rfl rfl rfl rfl λe=>?_);refine U_ (List.flatMap Thg.cells [(Thg.mk 3 x.r)]) e_ rfl ?_;refine Zz 4 ?_;have d:aI_ x=[(Thg.mk 3 x.r)]:=by have k:=yav_ m;have A:=yav_ B;have C:=yav_ E;have F:=yav_ G;have I:=yav_ H;have K:=yav_ J;have M:=yav_ L;have P:=yav_ N;have Q:=ybj_ O;simp[aI_,k,A,C,F,I,K,M,P,Q]
         exact dJ_
        refine Zz 8 ?_;refine d_ (y_ cr_ rfl rfl) rfl (B_ aj_ bc_ aU_ rfl rfl rfl rfl rfl rfl λe=>?_);refine U_ (List.flatMap Thg.cells [(Thg.mk 2 x.r)]) e_ rfl ?_;refine Zz 4 ?_;have d:aI_ x=[(Thg.mk 2 x.r)]:=by have k:=yav_ m;have A:=yav_ B;have C:=yav_ E;have F:=yav_ G;have I:=yav_ H;have K:=yav_ J;have M:=yav_ L;have P:=ybj_ N;simp[aI_,k,A,C,F,I,K,M,P]
        exact dJ_
       refine Zz 8 ?_;refine d_ (y_ cr_ rfl rfl) rfl (B_ aj_ bc_ aU_ rfl rfl rfl rfl rfl rfl λe=>?_);refine U_ (List.flatMap Thg.cells [(Thg.mk 2 x.t)]) e_ rfl ?_;refine Zz 4 ?_;have d:aI_ x=[(Thg.mk 2 x.t)]:=by have k:=yav_ m;have A:=yav_ B;have C:=yav_ E;have F:=yav_ G;have I:=yav_ H;have K:=yav_ J;have M:=ybj_ L;simp[aI_,k,A,C,F,I,K,M]
       exact dJ_
      refine Zz 11 ?_;refine d_ (y_ cr_ rfl rfl) rfl (B_ aj_ bc_ aU_ rfl rfl rfl rfl rfl rfl λe=>?_);refine U_ (List.flatMap Thg.cells [(Thg.mk 2 x.t)]) e_ rfl ?_;refine Zz 4 ?_;have d:aI_ x=[(Thg.mk 2 x.t)]:=by have k:=yav_ m;have A:=yav_ B;have C:=yav_ E;have F:=yav_ G;have I:=yav_ H;have K:=ybj_ J;simp[aI_,k,A,C,F,I,K]
      exact dJ_
     refine Zz 8 ?_;refine d_ (y_ cr_ rfl rfl) rfl (Zz 2 ?_);refine d_ (y_ cr_ rfl rfl) rfl (B_ aj_ bc_ aU_ rfl rfl rfl rfl rfl rfl λe=>?_);refine U_ (List.flatMap Thg.cells [(Thg.mk 2 x.r),(Thg.mk 1 x.c)]) e_ rfl ?_;refine Zz 4 ?_;have d:aI_ x=[(Thg.mk 2 x.r),(Thg.mk 1 x.c)]:=by have k:=yav_ m;have A:=yav_ B;have C:=yav_ E;have F:=yav_ G;have I:=ybj_ H;simp[aI_,k,A,C,F,I]
     exact ac_ results245 ⟨((some ⟨e,0,none⟩),2),by rw[d];simp[maxLen]⟩ (ec_ rfl (show _=Value.slice (some ⟨e,0,none⟩) (aI_ x).length 2 from by rw[d];rfl)) i_ (λv _ h=>⟨(show (X_ (some ⟨e,0,none⟩) ((aI_ x).flatMap Thg.cells)).p v from by rw[d];exact h.1),trivial⟩)
    refine Zz 8 ?_;refine d_ (y_ cr_ rfl rfl) rfl (B_ aj_ bc_ aU_ rfl rfl rfl rfl rfl rfl λe=>?_);refine U_ (List.flatMap Thg.cells [(Thg.mk 1 x.c)]) e_ rfl ?_;refine Zz 4 ?_;have d:aI_ x=[(Thg.mk 1 x.c)]:=by have k:=yav_ m;have A:=yav_ B;have C:=yav_ E;have F:=ybj_ G;simp[aI_,k,A,C,F]
    exact dJ_
   refine Zz 11 ?_;refine d_ (y_ cr_ rfl rfl) rfl (B_ aj_ bc_ aU_ rfl rfl rfl rfl rfl rfl λe=>?_);refine U_ (List.flatMap Thg.cells [(Thg.mk 1 x.c)]) e_ rfl ?_;refine Zz 4 ?_;have d:aI_ x=[(Thg.mk 1 x.c)]:=by have k:=yav_ m;have A:=yav_ B;have C:=ybj_ E;simp[aI_,k,A,C]
   exact dJ_
  refine Zz 11 ?_;refine d_ (y_ cr_ rfl rfl) rfl (B_ aj_ bc_ aU_ rfl rfl rfl rfl rfl rfl λe=>?_);refine U_ (List.flatMap Thg.cells [(Thg.mk 1 x.c)]) e_ rfl ?_;refine Zz 4 ?_;have d:aI_ x=[(Thg.mk 1 x.c)]:=by have k:=yav_ m;have A:=ybj_ B;simp[aI_,k,A]
  exact dJ_
 refine Zz 11 ?_;refine d_ (y_ cr_ rfl rfl) rfl (B_ aj_ bc_ aU_ rfl rfl rfl rfl rfl rfl λe=>?_);refine U_ (List.flatMap Thg.cells [(Thg.mk 1 x.c)]) e_ rfl ?_;refine Zz 4 ?_;have d:aI_ x=[(Thg.mk 1 x.c)]:=by have k:=ybj_ m;simp[aI_,k]
 exact dJ_
theorem eqTh (p q:Thg) (w:World):(Op.equalIn 10000 281 (Thg.val p) (Thg.val q)).run prog w=.ok (decide (p=q)) w:=by
  have h:=run_equalIn_struct (P:=prog) w 9999 281 (Thg.cells p).toArray (Thg.cells q).toArray (by grind[Program.fieldsOf,underlying281]) Tryz.stoodInHeld281;refine h.trans ?_;rw[<-Thg.eqb_eq];simp only[Program.fieldsOf,underlying281];exact bR_ rfl bb_ rfl rfl (eqI o_ w) (bR_ rfl W_ rfl rfl (eqS aB_ w) (jQ_ w))
theorem okTh (p:Thg):hV_ prog 281 (Thg.val p):=λe w=>by
 have hi:∀ (n:Int) (w:World),(Instr.checkKey e (9998+1) 3 (.int .i64 n)).run prog w=.ok () w:=λn w=>MapKept.run_checkKey (d:=.int .i64) o_ zbr_ e 9998
 have k:∀ (n:Str) (w:World),(Instr.checkKey e (9998+1) 9 (str n)).run prog w=.ok () w:=λn w=>MapKept.run_checkKey (d:=.string) aB_ zaN_ e 9998
 refine ckF (n:=9999) underlying281 λf h=>?_;simp only[yal_,yat_,ybd_]at h;rcases h with rfl|rfl
 .exact⟨rfl,bb_,_,rfl,hi _⟩
 exact⟨rfl,W_,_,rfl,k _⟩
theorem tK_:KeyT prog 281 Thg.val:=eV_ (K:=Thg) underlying281 okTh (λp q w=>eqTh p q w) λk=>hE_ (l:=Thg.cells k) λv d=>by
  grind[Thg.cells,jf_,fR_]
theorem CW_:Elt prog 279 281 2 24:=fT_ underlying279 (z:=.agg #[i4_ 0,str []]) zad_ rfl zae_
theorem Thg.cells_one (x:Thg):x.cells.all Value.oneCell'=true:=rfl
theorem nS_:Elt prog 63 3 1 8:=fT_ underlying63 (z:=i4_ 0) zad_ rfl zae_
theorem vq_:KeyT prog 3 (λn:Int=>i4_ n):=Ax_ o_
theorem add_c (t:Thg) (K W:List Thg) (L M kb:Nat) (es:Array MapEntry) (c:Nat) (sv:Value) (J:Hp) (hE:SetE Thg.val es K) (hB:Born es c) (N:at_ 281 2 sv W.length (W.flatMap Thg.cells) J) (hl:W.length<=1000000000):Tri prog 243 #[Thg.val t,zp_ L 0,zp_ M 0] ((L,.cells #[.map (some kb)] 219 (0,0))::(M,.cells #[sv] 279 (0,0))::(kb,.map es c)::J) [] (λ_:{H:Hp // StK 219 279 281 L M kb (K++bO_ K [t]) (W++bO_ K [t]) H}=>.tuple #[]) (λy=>y.1) (λ_=>[]):=by
 refine j_ func243 rfl rfl ntmps243 rfl λP=>?_;refine Zz 2 ?_;refine L_ rfl rfl λS=>Zz 6 ?_
 refine F_ (cU_ (k:=t) tK_ runUnderlying219 bC_ rfl rfl hE (λv h _=>(h.own _ (yab_ (i:=3) rfl)).1)) rfl λI d=>d_ (aK_ rfl) rfl (Zz 2 ?_)
 cases I
 .replace d:=zdf d
  refine Zz 5 ?_;refine xZ_ (k:=t) 3 tK_ (.inr rfl) runUnderlying219 rfl rfl rfl rfl hE λC F x B=>Zz 5 ?_
  refine B_ aj_ bc_ aU_ rfl rfl rfl rfl rfl rfl λO=>?_;refine aH_ (news:=List.flatMap Thg.cells [t]) CW_ N rfl rfl (c_ (c_ (c_ (c_ E_)))) rfl (bz_ 0 rfl) (λu Q=>aF_ Thg.cells_one Q) zal_ zaa_ rfl λE G d=>?_;refine u_ yaE_ ?_;have m:=zsa d;refine bT_ 3 m sizeOf279 rfl rfl rfl rfl (Zz 2 ?_);have A:¬ t∈K:=by assumption
  have e:bO_ K [t]=[t]:=by simp[bO_,A]
  exact cj_ results243 ⟨_,C,F,E,G,rfl,by rw[e];rw[yag_ zaf_]at x;exact x,(B hB),by rw[e];exact m⟩ rfl (l_ (c_ (c_ e_)) (l_ (c_ (c_ e_)) (l_ (c_ (c_ e_)) (c_ E_)))) zt
 replace d:=zdt d;refine Zz 3 ?_;have A:t∈K:=by assumption
 have e:bO_ K [t]=[]:=by simp[bO_,A]
 exact cj_ results243 ⟨_,es,c,sv,J,rfl,by rw[e,yas_];exact hE,hB,by rw[e,yas_];exact N⟩ rfl zp zt
theorem so_ (t:Thg) (K W:List Thg) (d e kb:Nat) (Hs:Hp) (hS:StK 219 279 281 d e kb K W Hs) (hl:W.length<=1000000000):Tri prog 243 #[t.val,zp_ d 0,zp_ e 0] Hs [] (λ_:{H:Hp // StK 219 279 281 d e kb (K++bO_ K [t]) (W++bO_ K [t]) H}=>.tuple #[]) (λy=>y.1) (λ_=>[]):=by
  obtain⟨es,c,sv,k,rfl,hE,hB,h⟩:=hS
  grind[add_c]
theorem DA_ (i:Nat) (x:Pc) (p:List Pc) (ad:Ao) (cap:Nat) (K W:List Thg) (U:List Bool) (b2 C O E P kb:Nat) (sv:Value) (V Hs:Hp) (hx:p[i]? = some x) (hp:p.length<=100000000) (T:zR 4 1 jx_ sv U V) (a1:U.length=p.length) (hS:StK 219 279 281 C E kb K W Hs) (hl:W.length<=900000000):Tri prog 244 #[i4_ i,zp_ O 0,zp_ b2 0,zp_ P 0] ((O,.cells #[sv] 220 (0,0))::(V++Hs)) [bk_ b2 (.cells #[.slice ad p.length cap] 69 (0,0)),bk_ P (.cells #[.func (.func 243) #[] #[zp_ C 0,zp_ E 0]] 282 (0,0)),X_ ad (p.flatMap Pc.cells)] (λ_:{y:Hp×Hp // zR 4 1 jx_ sv (List.set U i true) y.1/\StK 219 279 281 C E kb (K++bO_ K (aI_ x)) (W++bO_ K (aI_ x)) y.2}=>.tuple #[]) (λy=>(O,.cells #[sv] 220 (0,0))::(y.1.1++y.1.2)) (λ_=>[]):=by
 refine j_ func244 rfl rfl ntmps244 rfl λa0=>?_;have a4:=(yaf_.1 hx).1;obtain⟨B,F⟩:∃ B,U[i]? = some B:=⟨_,yaa_ zaa_⟩;refine Zz 4 ?_;refine d_ (bH_ T runUnderlying220 bn_ rfl rfl zaa_ zaa_) rfl (eS_ (k:=(i:Int).toNat*1+0) T zp bn_ rfl rfl zaa_ rfl rfl λh m=>?_);have N:=(iq_ jx_ 1 rl_ U i 0 B true (.bool true) F zae_ rfl).trans (yae_ _ (rfl));have H:at_ 4 1 sv (List.set U i true).length (List.flatMap jx_ (List.set U i true)) h:=by rw[<-N,show List.length (List.set U i true)=U.length from (ybp_ ..)];exact m
 refine Zz 2 ?_;refine u_ (aW_ (g_ e_)) (Zz 6 ?_);refine f_ (CQ_ x) rfl i_ zt rfl λ⟨⟨I,L⟩,a2,Z,a5⟩=>?_;dsimp only;refine Zz 5 ?_;refine J_ (ι:={y:Nat×Hp // y.1<=List.length (aI_ x)/\StK 219 279 281 C E kb (K++bO_ K (List.take y.1 (aI_ x))) (W++bO_ K (List.take y.1 (aI_ x))) y.2}) (λy=>[(3,zp_ P 0),(14,.slice I (aI_ x).length L),(15,i4_ (List.length (aI_ x):Int)),(16,i4_ y.1.1)]) (λy=>((O,.cells #[sv] 220 (0,0))::(h++y.1.2))) (λy=>[X_ I (List.flatMap Thg.cells (aI_ x)),bk_ b2 (.cells #[.slice ad p.length cap] 69 (0,0)),bk_ P (.cells #[.func (.func 243) #[] #[zp_ C 0,zp_ E 0]] 282 (0,0)),X_ ad (p.flatMap Pc.cells)]) (λy=>List.length (aI_ x) - y.1.1) ⟨((0:Nat),Hs),by simp,(by rw[ybH_];simpa [bO_] using hS)⟩ zl zp zh ?_;rintro ⟨⟨j,A⟩,M,d⟩;dsimp only at M d ⊢;have X:=jt_ (List.take j (aI_ x)) K;have Y:=ybQ_ j (aI_ x);have a3:=po_ x;refine Zi 2 (λm=>?_) λm=>?_
 .refine Zz 6 ?_
  rw[yac_ zaa_]at d;exact cj_ results244 ⟨(h,A),H,d⟩ rfl zp zt
 have e:j<List.length (aI_ x):=by omega
 obtain⟨S,v⟩:∃ Q,(aI_ x)[j]? = some Q:=⟨_,yaa_ e⟩;refine Zz 12 ?_;refine C_ aU_ rfl λb_1=>p_ 0 bc_ rfl rfl rfl rfl rfl rfl (Zz 5 ?_)
 refine O_ (so_ S (K++bO_ K (List.take j (aI_ x))) (W++bO_ K (List.take j (aI_ x))) C E kb A d zaS_) rfl rfl (c_ (c_ aJ_)) zt rfl λ⟨J,G⟩=>?_;dsimp only;refine Zz 2 ?_;refine u_ (S_ (g_ e_) (aW_ (g_ e_))) (Zz 5 ?_);exact w_ ⟨(j+1,J),e,(by rw[ud_ v,ud_ v];exact G)⟩ zab_ zl zp zh
end Go.Proofs.YtbffkokbdeppaaaGreatDoor
