/-
  Lemmas for the law CanonTells (no condition).
-/
import Derived.Test.YtbffkokbdeppaaaGreatDoorQCanonTells13
set_option linter.unusedVariables false
set_option linter.unusedSimpArgs false
set_option linter.unusedSectionVars false
set_option maxHeartbeats 1000000
namespace Go.Proofs.YtbffkokbdeppaaaGreatDoor
open Go Go.Sx Go.Proofs Tryz
attribute [local irreducible] Code.wp wpList wpAnyH
open Go.Vs
theorem strt83:gp_ prog 83 [(0,1),(1,1),(2,1),(3,1)] [.slice none 0 0,.slice none 0 0,.slice none 0 0,.slice none 0 0]:=⟨_,zeroValue83,runUnderlying83,λw=>by simp[bP_]⟩
abbrev axA (x:Ax):Array Value:=#[.int .i64 x.kind,.bool x.opn,.int .i64 x.left.kind,str x.left.name,.int .i64 x.left.lo,.int .i64 x.left.hi,.slice x.left.ad x.left.parts.length x.left.cap,.int .i64 x.right.kind,str x.right.name,.int .i64 x.right.lo,.int .i64 x.right.hi,.slice x.right.ad x.right.parts.length x.right.cap,.slice x.ad x.roles.length x.cap,str x.role,str x.a,str x.b]
abbrev coA (c:Con):Array Value:=#[.int .i64 c.kind,str c.name,.int .i64 c.lo,.int .i64 c.hi,.slice c.ad c.parts.length c.cap]
theorem yJ_ {A B:Hp} {l D:Nat} {r:Loop} {Ds:List Nat}:(B++(mkH Ds++A)++HLp l D r).Perm ((mkH (D::Ds)++A)++(B++[(l,.loop r)])):=by
  have d:(B++(mkH Ds++A)++HLp l D r).Perm ((mkH Ds++A)++B++HLp l D r):=ycH_ _ yaB_;have e:(mkH Ds++A)++B++HLp l D r=((mkH Ds++A)++(B++[(l,.loop r)]))++[(D,.deferred (some []))]:=by simp[HLp]
  rw[e]at d;exact d.trans yaB_
theorem dN_ {P:Program} {N:Nf} {O:Vw} {E H:Hp} {R:Exit->Act->World->Prop} {M:List Kt} {fr:Fr} {Γ:List Fct} {m:Array Oper} {lo:List Oper} {ty:TypeId} {ps:String} {T:Array Edge} {o:Op} {t F S:TypeId} {x y z:Operand} {b:Nat} (n:Nat) (s:StM) {k:Str} (v:KeyT P F str) (I:o=.insert t x y z\/o=.mapUpdate t x y z) (K:∀ w,(underlying t).run P w=.ok (.map F S) w)
    (L:Fr.ev fr x=some (.map (some b))) (J:Fr.ev fr y=some (str k)) (G:Fr.ev fr z=some (.bool true)) (hi:H[n]? = some (b,.map s.es s.c))
    (d:Ops P R N O E m lo M fr (H.set n (b,.map (s.add k).es (s.add k).c)) Γ):Ops P R N O E m (⟨none,o,ty,ps,T,none⟩::lo) M fr H Γ:=by
  by_cases hk:k∈s.ks
  . have C:s.add k=s:=by unfold StM.add;rw[dif_pos hk]
    rw[C]at d;obtain⟨i,e,Q,q,h,B,A⟩:=s.hE.yes v hk;refine hF_ (e:=e) (i:=i) (u:=.bool true) (u':=.bool true) n v I K L J G hi A q h ?_;rw[iP_ q h B];exact d
  . have C:s.add k=⟨s.es.push ⟨str k,.bool true,s.c⟩,s.c+1,s.ks++[k],s.hE.push hk s.c,s.hB.push _ _⟩:=by unfold StM.add;rw[dif_neg hk]
    rw[C]at d;exact aE_ n I K L J G hi (v.ok _) (s.hE.no v hk) d
theorem CB_ {x:Ax} (h:x.check=0):x.roles.length<=4:=by
 unfold Ax.check at h
 split at h
 .cases h
 rename_i m
 clear h;simp only[Bool.not_eq_false]at m;unfold Ax.shaped at m
 split at m
 .cases m
 rename_i v
 simp only[ydH_]at v;have q:x.kind=1\/x.kind=2\/x.kind=3\/x.kind=4\/x.kind=5\/x.kind=6\/x.kind=7\/x.kind=8\/x.kind=9:=by omega
 simp only[yaq_,yaI_]at m;have d:=m.2;rcases q with e|e|e|e|e|e|e|e|e<;>rw[e]at d<;>simp[us,rX_]at d<;>first|omega|(rw[d];decide)
def rkS (r:List Str×Ao×Nat):Prop:=r.1.length<=r.2.2/\r.2.2<=maxLen/\(r.2.1=none->r.2.2=0)
set_option maxHeartbeats 1000000 in
theorem voc_c (M:List Ax) (lad:Ao) (lcap:Nat) (hok:∀ x∈M,x.ok) (hC:∀ x∈M,x.check=0) (hll:M.length<=20):Tri prog 50 #[.slice lad M.length lcap] [] [cG_ lad M,bN_] (λy:{y:(List Str×Ao×Nat)×(List Str×Ao×Nat)×(List Str×Ao×Nat)×(List Str×Ao×Nat) // (lP_ 3 M y.1.1/\rkS y.1)/\(lP_ 6 M y.2.1.1/\rkS y.2.1)/\(lP_ 7 M y.2.2.1.1/\rkS y.2.2.1)/\(lP_ 4 M y.2.2.2.1/\rkS y.2.2.2)}=>.tuple #[.agg #[.slice y.1.1.2.1 y.1.1.1.length y.1.1.2.2,.slice y.1.2.1.2.1 y.1.2.1.1.length y.1.2.1.2.2,.slice y.1.2.2.1.2.1 y.1.2.2.1.1.length y.1.2.2.1.2.2,.slice y.1.2.2.2.2.1 y.1.2.2.2.1.length y.1.2.2.2.2.2],iv_ 0]) (λ_=>[]) (λy=>[ac_ y.1.1.2.1 (y.1.1.1.flatMap al_),ac_ y.1.2.1.2.1 (y.1.2.1.1.flatMap al_),ac_ y.1.2.2.1.2.1 (y.1.2.2.1.1.flatMap al_),ac_ y.1.2.2.2.2.1 (y.1.2.2.2.1.flatMap al_)]):=by
 refine fN_ func50 rfl rfl ntmps50 rfl λv_1=>?_;have hx_1:=(@axA,@coA);have hzb:∀ x∈M,x.left.sz<=1000000/\x.right.sz<=1000000/\x.roles.length<=1000000:=λx hx=>⟨by have:=(jQ_ (hC x hx)).1;omega,by have:=(jQ_ (hC x hx)).2;omega,by have:=CB_ (hC x hx);omega⟩
 refine Zz 2 ?_;refine x_ zeroValue83 rfl λJ=>Zz 12 ?_
 refine H_ (ι:={y:Nat // y<=List.length M}) (λy=>[(0,.slice lad M.length lcap),(2,zp_ J 0),(3,iv_ 0),(21,.slice lad M.length lcap),(22,iv_ (List.length M:Int)),(23,iv_ y.1)]) (λy=>((J,.cells #[.slice none 0 0,.slice none 0 0,.slice none 0 0,.slice none 0 0] 83 (0,0))::[])) (λy=>[cG_ lad M,bN_]) (λy=>M.length - y.1) ⟨(0:Nat),by simp⟩ zl d_ zh ?_;rintro ⟨Y,hi_i0⟩;dsimp only at hi_i0 ⊢;refine Zi 2 (λR=>?_) λR=>?_
 .refine Zz 8 ?_
  refine bf_ rfl λm=>bf_ rfl λC=>Zz 6 ?_
  refine bf_ rfl λA=>bf_ rfl λB=>Zz 6 ?_
  refine bf_ rfl λH=>Zz 1 ?_
  refine aE_ 0 (.inl rfl) cC_ rfl rfl rfl rfl (aH_ m_) (aw_ m_ rfl) (Zz 1 ?_);refine aE_ 0 (.inl rfl) cC_ rfl rfl rfl rfl (aH_ m_) (aw_ m_ rfl) (Zz 1 ?_);refine aE_ 0 (.inl rfl) cC_ rfl rfl rfl rfl (aH_ m_) (aw_ m_ rfl) (Zz 1 ?_);refine aE_ 0 (.inl rfl) cC_ rfl rfl rfl rfl (aH_ m_) (aw_ m_ rfl) (Zz 1 ?_);refine x_ zeroValue152 rfl λL=>n_ 0 sizeOf152 rfl rfl rfl rfl rfl rfl (Zz 11 ?_)
  refine A_ (H':=((L,.cells #[.map (some H)] 152 (0,0))::((H,.map #[⟨iv_ 3,.map (some m),0⟩,⟨iv_ 6,.map (some C),1⟩,⟨iv_ 7,.map (some A),2⟩,⟨iv_ 4,.map (some B),3⟩] 4)::((B,.map #[] 0)::((A,.map #[] 0)::((C,.map #[] 0)::((m,.map #[] 0)::((J,.cells #[.slice none 0 0,.slice none 0 0,.slice none 0 0,.slice none 0 0] 83 (0,0))::(mkH []))))))))) (.refl _) ?_;refine ls_ (N:=λy=>⟨110,mks y.1.2.2⟩) (ι:={y:Nat×S4×List Nat // y.1<=List.length M/\V4 y.2.1 (λk=>vcL k (M.take y.1))}) (λy=>[(0,.slice lad M.length lcap),(2,zp_ J 0),(3,iv_ 0),(21,.slice lad M.length lcap),(22,iv_ (List.length M:Int)),(23,iv_ Y),(7,.map (some m)),(8,.map (some C)),(9,.map (some A)),(10,.map (some B)),(11,zp_ L 0),(44,.slice lad M.length lcap),(45,iv_ (List.length M:Int)),(46,iv_ y.1.1)]) (λy=>((L,.cells #[.map (some H)] 152 (0,0))::((H,.map #[⟨iv_ 3,.map (some m),0⟩,⟨iv_ 6,.map (some C),1⟩,⟨iv_ 7,.map (some A),2⟩,⟨iv_ 4,.map (some B),3⟩] 4)::((B,.map y.1.2.1.2.2.2.es y.1.2.1.2.2.2.c)::((A,.map y.1.2.1.2.2.1.es y.1.2.1.2.2.1.c)::((C,.map y.1.2.1.2.1.es y.1.2.1.2.1.c)::((m,.map y.1.2.1.1.es y.1.2.1.1.c)::((J,.cells #[.slice none 0 0,.slice none 0 0,.slice none 0 0,.slice none 0 0] 83 (0,0))::(mkH y.1.2.2))))))))) (λy=>[cG_ lad M,bN_]) (λy=>M.length - y.1.1) ⟨((0:Nat),((StM.nil,StM.nil,StM.nil,StM.nil):S4),([]:List Nat)),by simp,V4.nil.cg λk=>by simp[vcL]⟩ zl zp zh ?_;rintro ⟨⟨i,s,Ds⟩,hi_i,hV⟩;dsimp only at hi_i hV ⊢;refine Zi 2 (λhr_2=>?_) λhr_2=>?_
  .refine Zz 7 ?_
   rw[yab_ zaa_]at hV;have T:∀ k,List.length (vcL k M)<=80000000:=λk=>ybg_ (uZ_ hzb) zaa_
   have hq_1:s.1.ks.length<=100000000:=by have:=hV.c.len;have:=T 3;omega
   have hq_2:List.length (List.filter (λq=>decide (q≠[])) s.2.1.ks)<=100000000:=by have:=hV.r.len;have:=T 6;have:=yba_ (λq=>decide (q≠[])) s.2.1.ks;omega
   have hq_3:s.2.2.1.ks.length<=100000000:=by have:=hV.f.len;have:=T 7;omega
   have hq_4:List.length (List.filter (λq=>decide (q≠[])) s.2.2.2.ks)<=100000000:=by have:=hV.i.len;have:=T 4;have:=yba_ (λq=>decide (q≠[])) s.2.2.2.ks;omega
   refine Zz 2 ?_;refine sC_ 4 bD_ Q_ rfl rfl rfl s.2.1.hE s.2.1.hB rfl λeD_1 hE_1 hB_1=>Zz 5 ?_
   refine sC_ 2 bD_ Q_ rfl rfl rfl s.2.2.2.hE s.2.2.2.hB rfl λeD_2 hE_2 hB_2=>Zz 5 ?_
   refine f_ (jq_ m) rfl g_ zt rfl λa1=>f_ (fe_ 193 [zp_ a1 0] [(a1,.cells #[.map (some m)] 151 (0,0)),(m,.map s.1.es s.1.c)] s.1.ks s.1.hE.nd hq_1 (jr_ m a1 s.1.c s.1.es s.1.ks s.1.hE.ke s.1.hB hq_1)) rfl (l_ d_ (c_ (c_ (c_ (c_ (c_ d_)))))) zt rfl λ⟨⟨ad_1,cp_1⟩,U,hs_2,hs_3⟩=>?_;dsimp only;refine Zz 1 ?_;refine f_ (jq_ C) rfl g_ zt rfl λZ=>f_ (fe_ 193 [zp_ Z 0] [(Z,.cells #[.map (some C)] 151 (0,0)),(C,.map eD_1 s.2.1.c)] (List.filter (λq=>decide (q≠[])) s.2.1.ks) hE_1.nd hq_2 (jr_ C Z s.2.1.c eD_1 (List.filter (λq=>decide (q≠[])) s.2.1.ks) hE_1.ke hB_1 hq_2)) rfl zp zt rfl λ⟨⟨ad_2,cp_2⟩,hs_4,hs_5,hs_6⟩=>?_;dsimp only;refine Zz 1 ?_;refine f_ (jq_ A) rfl g_ zt rfl λby_3=>f_ (fe_ 193 [zp_ by_3 0] [(by_3,.cells #[.map (some A)] 151 (0,0)),(A,.map s.2.2.1.es s.2.2.1.c)] s.2.2.1.ks s.2.2.1.hE.nd hq_3 (jr_ A by_3 s.2.2.1.c s.2.2.1.es s.2.2.1.ks s.2.2.1.hE.ke s.2.2.1.hB hq_3)) rfl zp zt rfl λ⟨⟨ad_3,cp_3⟩,hs_7,hs_8,hs_9⟩=>?_;dsimp only;refine Zz 1 ?_;refine f_ (jq_ B) rfl g_ zt rfl λby_4=>f_ (fe_ 193 [zp_ by_4 0] [(by_4,.cells #[.map (some B)] 151 (0,0)),(B,.map eD_2 s.2.2.2.c)] (List.filter (λq=>decide (q≠[])) s.2.2.2.ks) hE_2.nd hq_4 (jr_ B by_4 s.2.2.2.c eD_2 (List.filter (λq=>decide (q≠[])) s.2.2.2.ks) hE_2.ke hB_2 hq_4)) rfl zp zt rfl λ⟨⟨ad_4,cp_4⟩,hs_10,hs_11,hs_12⟩=>?_;dsimp only;refine e_ (C_ strt83 rfl rfl) rfl (n_ 10 sizeOf83 rfl rfl rfl rfl rfl rfl (Zz 4 ?_));exact retMs ⟨((bb_ s.1.ks,ad_1,cp_1),(bb_ (List.filter (λq=>decide (q≠[])) s.2.1.ks),ad_2,cp_2),(bb_ s.2.2.1.ks,ad_3,cp_3),(bb_ (List.filter (λq=>decide (q≠[])) s.2.2.2.ks),ad_4,cp_4)),⟨lP_.of hV.c zaa_,U,hs_2,hs_3⟩,⟨lP_.ofD hV.r zaa_,hs_4,hs_5,hs_6⟩,⟨lP_.of hV.f zaa_,hs_7,hs_8,hs_9⟩,⟨lP_.ofD hV.i zaa_,hs_10,hs_11,hs_12⟩⟩ (λaa v h_1 h_2 _=>bI_ (us:=[.slice ad_1 (bb_ s.1.ks).length cp_1,.slice ad_2 (bb_ (List.filter (λq=>decide (q≠[])) s.2.1.ks)).length cp_2,.slice ad_3 (bb_ s.2.2.1.ks).length cp_3,.slice ad_4 (bb_ (List.filter (λq=>decide (q≠[])) s.2.2.2.ks)).length cp_4]) 10 results50 isAgg83 sizeOf83 rfl rfl rfl rfl aa v h_1 h_2) (c_ (c_ (c_ (c_ (c_ (c_ (c_ (c_ (c_ (c_ B_)))))))))) ⟨_,.refl _⟩ zf
  obtain⟨S,d,hx_2,O⟩:=zge (show i<M.length by omega);have hrc:=(hok d O).cap;refine Zz 12 ?_;refine x_ aJ_ rfl λP=>n_ 0 L_ rfl rfl rfl rfl rfl rfl (Zz 9 ?_)
  refine O_ ai_ t_ aF_ rfl rfl rfl rfl rfl rfl λW=>?_;refine bC_ (List.flatMap Con.cells [d.left,d.right]) d_ rfl ?_;refine Zz 5 ?_;refine ls_ (N:=λy=>⟨110,mks y.1.2.2⟩) (ι:={y:Nat×S4×List Nat // y.1<=List.length [d.left,d.right]/\V4 y.2.1 (λk=>vcL k (M.take i)++List.flatMap (Con.nms k) (List.take y.1 [d.left,d.right]))}) (λy=>[(0,.slice lad M.length lcap),(2,zp_ J 0),(3,iv_ 0),(21,.slice lad M.length lcap),(22,iv_ (List.length M:Int)),(23,iv_ Y),(7,.map (some m)),(8,.map (some C)),(9,.map (some A)),(10,.map (some B)),(11,zp_ L 0),(44,.slice lad M.length lcap),(45,iv_ (List.length M:Int)),(46,iv_ i),(13,zp_ P 0),(54,.slice (some ⟨W,0,none⟩) (List.length [d.left,d.right]) 2),(55,iv_ 2),(56,iv_ y.1.1)]) (λy=>((P,.cells (axA d) 30 (0,0))::((L,.cells #[.map (some H)] 152 (0,0))::((H,.map #[⟨iv_ 3,.map (some m),0⟩,⟨iv_ 6,.map (some C),1⟩,⟨iv_ 7,.map (some A),2⟩,⟨iv_ 4,.map (some B),3⟩] 4)::((B,.map y.1.2.1.2.2.2.es y.1.2.1.2.2.2.c)::((A,.map y.1.2.1.2.2.1.es y.1.2.1.2.2.1.c)::((C,.map y.1.2.1.2.1.es y.1.2.1.2.1.c)::((m,.map y.1.2.1.1.es y.1.2.1.1.c)::((J,.cells #[.slice none 0 0,.slice none 0 0,.slice none 0 0,.slice none 0 0] 83 (0,0))::(mkH y.1.2.2)))))))))) (λy=>[ac_ (some ⟨W,0,none⟩) (List.flatMap Con.cells [d.left,d.right]),cG_ lad M,bN_]) (λy=>List.length [d.left,d.right] - y.1.1) ⟨((0:Nat),s,Ds),by simp,hV.cg λk=>by simp⟩ zl zp zh ?_;rintro ⟨⟨j,s,Ds⟩,hi_j,V⟩;dsimp only at hi_j V ⊢;refine Zi 2 (λhr_3=>?_) λhr_3=>?_
  .refine Zz 16 ?_
   have hV2e:V4 s (λk=>vcL k (M.take i)++List.flatMap (Con.nms k) [d.left,d.right]):=by rw[yab_ (l:=[d.left,d.right]) zaY_]at V;exact V
   refine ls_ (N:=λy=>⟨110,mks y.1.2.2⟩) (ι:={y:Nat×S4×List Nat // y.1<=List.length d.roles/\V4 y.2.1 (λk_1=>(vcL k_1 (M.take i)++List.flatMap (Con.nms k_1) [d.left,d.right])++if k_1=6 then List.take y.1 d.roles else [])}) (λy=>[(0,.slice lad M.length lcap),(2,zp_ J 0),(3,iv_ 0),(21,.slice lad M.length lcap),(22,iv_ (List.length M:Int)),(23,iv_ Y),(7,.map (some m)),(8,.map (some C)),(9,.map (some A)),(10,.map (some B)),(11,zp_ L 0),(44,.slice lad M.length lcap),(45,iv_ (List.length M:Int)),(46,iv_ i),(13,zp_ P 0),(54,.slice (some ⟨W,0,none⟩) (List.length [d.left,d.right]) 2),(55,iv_ 2),(56,iv_ j),(76,.slice d.ad d.roles.length d.cap),(77,iv_ (List.length d.roles:Int)),(78,iv_ y.1.1)]) (λy=>((P,.cells (axA d) 30 (0,0))::((L,.cells #[.map (some H)] 152 (0,0))::((H,.map #[⟨iv_ 3,.map (some m),0⟩,⟨iv_ 6,.map (some C),1⟩,⟨iv_ 7,.map (some A),2⟩,⟨iv_ 4,.map (some B),3⟩] 4)::((B,.map y.1.2.1.2.2.2.es y.1.2.1.2.2.2.c)::((A,.map y.1.2.1.2.2.1.es y.1.2.1.2.2.1.c)::((C,.map y.1.2.1.2.1.es y.1.2.1.2.1.c)::((m,.map y.1.2.1.1.es y.1.2.1.1.c)::((J,.cells #[.slice none 0 0,.slice none 0 0,.slice none 0 0,.slice none 0 0] 83 (0,0))::(mkH y.1.2.2)))))))))) (λy=>[ac_ (some ⟨W,0,none⟩) (List.flatMap Con.cells [d.left,d.right]),cG_ lad M,bN_]) (λy=>d.roles.length - y.1.1) ⟨((0:Nat),s,Ds),by simp,hV2e.cg λk=>by simp⟩ zl zp zh ?_;rintro ⟨⟨k,s,Ds⟩,hi_k,Q⟩;dsimp only at hi_k Q ⊢;refine Zi 2 (λhr_4=>?_) λhr_4=>?_
   .refine Zz 7 ?_
    rw[yab_ (l:=Ax.roles d) zaa_]at Q;refine Zz 4 ?_;refine dN_ 5 s.2.1 bD_ (.inr rfl) Q_ rfl rfl rfl rfl (Zz 7 ?_);refine dN_ 3 ((s.addR d.role).2.2.2) bD_ (.inr rfl) Q_ rfl rfl rfl rfl (Zz 6 ?_);refine dN_ 3 (((s.addR d.role).addI d.a).2.2.2) bD_ (.inr rfl) Q_ rfl rfl rfl rfl (Zz 7 ?_);exact jn_ ⟨(i+1,(((s.addR d.role).addI d.a).addI d.b),Ds),S,Q.axm hx_2⟩ zab_ zl (l_ (c_ d_) (l_ (c_ d_) (l_ (c_ d_) (l_ (c_ d_) (l_ (c_ d_) (l_ (c_ d_) (l_ (c_ d_) B_))))))) (λ_ _ h=>h.2)
   have a3:k<d.roles.length:=by omega
   obtain⟨r_1,R⟩:∃ e_1,d.roles[k]? = some e_1:=⟨_,yaa_ a3⟩;refine Zz 10 ?_;refine e_ (Z_ o_ G_ rfl rfl (λv _ h=>aA_ (n:=1) au_ zae_ (by exact (h.2.1.2 d O).2.2) R) zaa_ zai_) rfl ?_;refine e_ (bA_ (ad:=d.ad) ad_ rfl (λv _ h=>by exact (h.2.1.2 d O).2.2) (w_ au_ R 0 _ rfl)) rfl (Zz 6 ?_);refine dN_ 5 s.2.1 bD_ (.inr rfl) Q_ rfl rfl rfl rfl (Zz 7 ?_);exact jn_ ⟨(k+1,(s.addR r_1),Ds),a3,Q.role R⟩ zab_ zl zp zh
  have hlc_1:j<List.length [d.left,d.right]:=by simp only[yal_,yaL_]at *;omega
  obtain⟨e,a0⟩:∃ e_1,[d.left,d.right][j]? = some e_1:=⟨_,yaa_ hlc_1⟩;have a2:e∈[d.left,d.right]:=yad_ a0;refine Zz 11 ?_;refine e_ (am_ (ad:=(some ⟨W,0,none⟩)) (us:=Con.cells e) ah_ t_ rfl zf (Con.cells_len _) (w_ Con.cells_len a0)) rfl (x_ aF_ rfl λK=>n_ 0 t_ rfl rfl rfl rfl rfl rfl (Zz 5 ?_));refine f_ (tI_ e) rfl g_ zt rfl λbw=>Zz 3 ?_
  refine bx_ [(0,.slice lad M.length lcap),(2,zp_ J 0),(3,iv_ 0),(21,.slice lad M.length lcap),(22,iv_ (List.length M:Int)),(23,iv_ Y),(7,.map (some m)),(8,.map (some C)),(9,.map (some A)),(10,.map (some B)),(11,zp_ L 0),(44,.slice lad M.length lcap),(45,iv_ (List.length M:Int)),(46,iv_ i),(13,zp_ P 0),(54,.slice (some ⟨W,0,none⟩) (List.length [d.left,d.right]) 2),(55,iv_ 2),(56,iv_ j),(61,.func (.func 190) #[] #[zp_ bw 0])] zl ?_;have hokc:e.ok:=(iZ_ (hok d O) (hzb d O).1 (hzb d O).2.1 a2).1;refine du_ (H':=(bw,.cells (Con.cells e).toArray 28 (0,0))::(mkH Ds++[(m,.map s.1.es s.1.c),(C,.map s.2.1.es s.2.1.c),(A,.map s.2.2.1.es s.2.2.1.c),(B,.map s.2.2.2.es s.2.2.2.c),(K,.cells (coA e) 28 (0,0)),(P,.cells (axA d) 30 (0,0)),(L,.cells #[.map (some H)] 152 (0,0)),(H,.map #[⟨iv_ 3,.map (some m),0⟩,⟨iv_ 6,.map (some C),1⟩,⟨iv_ 7,.map (some A),2⟩,⟨iv_ 4,.map (some B),3⟩] 4),(J,.cells #[.slice none 0 0,.slice none 0 0,.slice none 0 0,.slice none 0 0] 83 (0,0))])) (F:=[]) (by exact (l_ d_ (F_ (c_ (c_ (c_ (c_ (c_ (c_ (c_ (c_ B_)))))))) (l_ (c_ (c_ (c_ (c_ (c_ (c_ (c_ d_))))))) (l_ (c_ (c_ (c_ (c_ (c_ (c_ d_)))))) (l_ (c_ (c_ (c_ (c_ (c_ d_))))) (l_ (c_ (c_ (c_ (c_ d_)))) (l_ d_ (l_ d_ (l_ d_ (l_ d_ d_))))))))))) zh ?_;refine tU_ (Ds:=Ds) (α:={c:Con // c.ok}) (xv:=λx=>x.1.val) (good:=λ_=>True) (stp:=λx s=>.inl (em_ x.1 s)) (Γx:=λx=>[x.1.memF]) (Γi:=[Con.memF e]) (Hj:=(λt:S4=>(mkH Ds++[(m,.map t.1.es t.1.c),(C,.map t.2.1.es t.2.1.c),(A,.map t.2.2.1.es t.2.2.1.c),(B,.map t.2.2.2.es t.2.2.2.c),(K,.cells (coA e) 28 (0,0)),(P,.cells (axA d) 30 (0,0)),(L,.cells #[.map (some H)] 152 (0,0)),(H,.map #[⟨iv_ 3,.map (some m),0⟩,⟨iv_ 6,.map (some C),1⟩,⟨iv_ 7,.map (some A),2⟩,⟨iv_ 4,.map (some B),3⟩] 4),(J,.cells #[.slice none 0 0,.slice none 0 0,.slice none 0 0,.slice none 0 0] 83 (0,0))]))) (Hc:=[(bw,.cells (Con.cells e).toArray 28 (0,0))]) (caps:=[zp_ bw 0]) s (Con.fold (λx s=>.inl (em_ x s)) e s) rfl (.refl _) (λv _ h=>by exact⟨(tu_ (h.2.1.2 d O) a2),trivial⟩) ?_ ?_ ?_
  .rintro l D rec hpa hst hpe ht hasg hbody s ⟨x,hx⟩ -
   refine jY_ (ι:=Nat) (Hj:=(λt:S4=>(mkH Ds++[(m,.map t.1.es t.1.c),(C,.map t.2.1.es t.2.1.c),(A,.map t.2.2.1.es t.2.2.1.c),(B,.map t.2.2.2.es t.2.2.2.c),(K,.cells (coA e) 28 (0,0)),(P,.cells (axA d) 30 (0,0)),(L,.cells #[.map (some H)] 152 (0,0)),(H,.map #[⟨iv_ 3,.map (some m),0⟩,⟨iv_ 6,.map (some C),1⟩,⟨iv_ 7,.map (some A),2⟩,⟨iv_ 4,.map (some B),3⟩] 4),(J,.cells #[.slice none 0 0,.slice none 0 0,.slice none 0 0,.slice none 0 0] 83 (0,0))]))) (Hx:=λ_:Empty=>[]) (s:=s) (res:=.inl (em_ x s)) (Γ:=[x.memF]) (λI=>[(11,zp_ L 0),(16,zp_ I 0)]) (λI=>((I,.cells (coA x) 28 (0,0))::(mkH Ds++[(m,.map s.1.es s.1.c),(C,.map s.2.1.es s.2.1.c),(A,.map s.2.2.1.es s.2.2.1.c),(B,.map s.2.2.2.es s.2.2.2.c),(K,.cells (coA e) 28 (0,0)),(P,.cells (axA d) 30 (0,0)),(L,.cells #[.map (some H)] 152 (0,0)),(H,.map #[⟨iv_ 3,.map (some m),0⟩,⟨iv_ 6,.map (some C),1⟩,⟨iv_ 7,.map (some A),2⟩,⟨iv_ 4,.map (some B),3⟩] 4),(J,.cells #[.slice none 0 0,.slice none 0 0,.slice none 0 0,.slice none 0 0] 83 (0,0))]))) hpa hst hpe ht rfl ?_ ?_
   .intro n v_1 H_1 X
    rw[hasg];refine cL_ (H':=((mkH Ds)++((m,.map s.1.es s.1.c)::((C,.map s.2.1.es s.2.1.c)::((A,.map s.2.2.1.es s.2.2.1.c)::((B,.map s.2.2.2.es s.2.2.2.c)::((K,.cells (coA e) 28 (0,0))::((P,.cells (axA d) 30 (0,0))::((L,.cells #[.map (some H)] 152 (0,0))::((H,.map #[⟨iv_ 3,.map (some m),0⟩,⟨iv_ 6,.map (some C),1⟩,⟨iv_ 7,.map (some A),2⟩,⟨iv_ 4,.map (some B),3⟩] 4)::((J,.cells #[.slice none 0 0,.slice none 0 0,.slice none 0 0,.slice none 0 0] 83 (0,0))::X))))))))))) (F:=[]) zaj_ zh ?_;refine gk_ (Y_ (j_ d_) (Y_ (j_ d_) (Y_ (j_ d_) (Y_ (j_ d_) (Y_ (j_ d_) (Y_ (j_ d_) (Y_ (j_ d_) (Y_ (j_ d_) (bc_ (j_ d_)))))))))) ?_;refine aK_ ?_;refine or_ (N_ _) aF_ rfl λb_12=>?_;refine ew_ (N_ _) 0 t_ rfl rfl rfl rfl rfl rfl ?_;refine br_ ?_;refine cN_ rfl ?_;refine cL_ (H':=((b_12,.cells (coA x) 28 (0,0))::((mkH Ds)++((m,.map s.1.es s.1.c)::((C,.map s.2.1.es s.2.1.c)::((A,.map s.2.2.1.es s.2.2.1.c)::((B,.map s.2.2.2.es s.2.2.2.c)::((K,.cells (coA e) 28 (0,0))::((P,.cells (axA d) 30 (0,0))::((L,.cells #[.map (some H)] 152 (0,0))::((H,.map #[⟨iv_ 3,.map (some m),0⟩,⟨iv_ 6,.map (some C),1⟩,⟨iv_ 7,.map (some A),2⟩,⟨iv_ 4,.map (some B),3⟩] 4)::((J,.cells #[.slice none 0 0,.slice none 0 0,.slice none 0 0,.slice none 0 0] 83 (0,0))::X)))))))))))) (F:=[]) (by exact zp) zh ?_;exact eE_ b_12 zl (F:=[]) zaj_ zh
   intro n v_1 H_1 X I;rw[hbody]
   by_cases hk:x.kind=3
   .refine cL_ (H':=((I,.cells (coA x) 28 (0,0))::((mkH Ds)++((m,.map s.1.es s.1.c)::((C,.map s.2.1.es s.2.1.c)::((A,.map s.2.2.1.es s.2.2.1.c)::((B,.map s.2.2.2.es s.2.2.2.c)::((K,.cells (coA e) 28 (0,0))::((P,.cells (axA d) 30 (0,0))::((L,.cells #[.map (some H)] 152 (0,0))::((H,.map #[⟨iv_ 3,.map (some m),0⟩,⟨iv_ 6,.map (some C),1⟩,⟨iv_ 7,.map (some A),2⟩,⟨iv_ 4,.map (some B),3⟩] 4)::((J,.cells #[.slice none 0 0,.slice none 0 0,.slice none 0 0,.slice none 0 0] 83 (0,0))::X)))))))))))) (F:=[]) zaj_ zh ?_
    refine dW_ ?_;refine gk_ (Y_ d_ (Y_ (j_ d_) (Y_ (j_ d_) (Y_ (j_ d_) (Y_ (j_ d_) (Y_ (j_ d_) (Y_ (j_ d_) (Y_ (j_ d_) (Y_ (j_ d_) (bc_ (j_ d_))))))))))) ?_;refine cK_ ?_;refine aK_ ?_;refine U_ (N_ _) (aX_ 7 Cw_ rfl rfl rfl) rfl rfl ?_;refine U_ (N_ _) (ci_ cd_ rfl rfl rfl ag_) rfl rfl ?_;refine U_ (N_ _) (aX_ 0 aQ_ rfl rfl rfl) rfl rfl ?_;refine U_ (N_ _) (fa_ (i:=0) (u:=.map (some m)) cC_ rfl rfl 8 rfl (aH_ m_) (aw_ m_ zbU_)) rfl rfl ?_;refine U_ (N_ _) (ar_ rfl) rfl rfl ?_;refine U_ (N_ _) (bU_ rfl rfl) rfl rfl ?_;refine U_ (N_ _) (bU_ rfl rfl) rfl rfl ?_;refine U_ (N_ _) (aI_ rfl) rfl rfl ?_;refine U_ (N_ _) (aI_ rfl) rfl rfl ?_;refine br_ ?_;refine cc_ rfl ?_;refine cK_ ?_;refine aK_ ?_;refine U_ (N_ _) (ar_ rfl) rfl rfl ?_;refine br_ ?_;refine cc_ rfl ?_;refine fy_ rfl ?_;refine aK_ ?_;refine U_ (N_ _) (ar_ rfl) rfl rfl ?_;refine U_ (N_ _) (ci_ cd_ rfl rfl rfl G_) rfl rfl ?_;refine U_ (N_ _) (aX_ 0 ad_ rfl rfl rfl) rfl rfl ?_;refine hI_ (N_ _) 1 s.1 bD_ (.inr rfl) Q_ rfl rfl rfl rfl ?_;refine br_ ?_;refine cN_ rfl ?_;refine cL_ (H':=((mkH Ds)++((m,.map (s.1.add x.name).es (s.1.add x.name).c)::((C,.map s.2.1.es s.2.1.c)::((A,.map s.2.2.1.es s.2.2.1.c)::((B,.map s.2.2.2.es s.2.2.2.c)::((K,.cells #[iv_ e.kind,str e.name,iv_ e.lo,iv_ e.hi,.slice e.ad e.parts.length e.cap] 28 (0,0))::((P,.cells #[iv_ d.kind,.bool d.opn,iv_ d.left.kind,str d.left.name,iv_ d.left.lo,iv_ d.left.hi,.slice d.left.ad d.left.parts.length d.left.cap,iv_ d.right.kind,str d.right.name,iv_ d.right.lo,iv_ d.right.hi,.slice d.right.ad d.right.parts.length d.right.cap,.slice d.ad d.roles.length d.cap,str d.role,str d.a,str d.b] 30 (0,0))::((L,.cells #[.map (some H)] 152 (0,0))::((H,.map #[⟨iv_ 3,.map (some m),0⟩,⟨iv_ 6,.map (some C),1⟩,⟨iv_ 7,.map (some A),2⟩,⟨iv_ 4,.map (some B),3⟩] 4)::((J,.cells #[.slice none 0 0,.slice none 0 0,.slice none 0 0,.slice none 0 0] 83 (0,0))::(X++((I,.cells #[iv_ x.kind,str x.name,iv_ x.lo,iv_ x.hi,.slice x.ad x.parts.length x.cap] 28 (0,0))::[]))))))))))))) (F:=[]) zao_ zh ?_;refine fg_ (em_ x s) rfl (G:=[(I,.cells (coA x) 28 (0,0))]) ?_;rw[show em_ x s=(s.1.add x.name,s.2) from (by unfold em_;rw[yao_ hk])];simp
   have hn_1:=hk
   by_cases hk:x.kind=6
   .refine cL_ (H':=((I,.cells (coA x) 28 (0,0))::((mkH Ds)++((m,.map s.1.es s.1.c)::((C,.map s.2.1.es s.2.1.c)::((A,.map s.2.2.1.es s.2.2.1.c)::((B,.map s.2.2.2.es s.2.2.2.c)::((K,.cells (coA e) 28 (0,0))::((P,.cells (axA d) 30 (0,0))::((L,.cells #[.map (some H)] 152 (0,0))::((H,.map #[⟨iv_ 3,.map (some m),0⟩,⟨iv_ 6,.map (some C),1⟩,⟨iv_ 7,.map (some A),2⟩,⟨iv_ 4,.map (some B),3⟩] 4)::((J,.cells #[.slice none 0 0,.slice none 0 0,.slice none 0 0,.slice none 0 0] 83 (0,0))::X)))))))))))) (F:=[]) zaj_ zh ?_
    refine dW_ ?_;refine gk_ (Y_ d_ (Y_ (j_ d_) (Y_ (j_ d_) (Y_ (j_ d_) (Y_ (j_ d_) (Y_ (j_ d_) (Y_ (j_ d_) (Y_ (j_ d_) (Y_ (j_ d_) (bc_ (j_ d_))))))))))) ?_;refine cK_ ?_;refine aK_ ?_;refine U_ (N_ _) (aX_ 7 Cw_ rfl rfl rfl) rfl rfl ?_;refine U_ (N_ _) (ci_ cd_ rfl rfl rfl ag_) rfl rfl ?_;refine U_ (N_ _) (aX_ 0 aQ_ rfl rfl rfl) rfl rfl ?_;refine U_ (N_ _) (fa_ (i:=1) (u:=.map (some C)) cC_ rfl rfl 8 rfl (aH_ m_) (aw_ m_ zbU_)) rfl rfl ?_;refine U_ (N_ _) (ar_ rfl) rfl rfl ?_;refine U_ (N_ _) (bU_ rfl rfl) rfl rfl ?_;refine U_ (N_ _) (bU_ rfl rfl) rfl rfl ?_;refine U_ (N_ _) (aI_ rfl) rfl rfl ?_;refine U_ (N_ _) (aI_ rfl) rfl rfl ?_;refine br_ ?_;refine cc_ rfl ?_;refine cK_ ?_;refine aK_ ?_;refine U_ (N_ _) (ar_ rfl) rfl rfl ?_;refine br_ ?_;refine cc_ rfl ?_;refine fy_ rfl ?_;refine aK_ ?_;refine U_ (N_ _) (ar_ rfl) rfl rfl ?_;refine U_ (N_ _) (ci_ cd_ rfl rfl rfl G_) rfl rfl ?_;refine U_ (N_ _) (aX_ 0 ad_ rfl rfl rfl) rfl rfl ?_;refine hI_ (N_ _) 2 s.2.1 bD_ (.inr rfl) Q_ rfl rfl rfl rfl ?_;refine br_ ?_;refine cN_ rfl ?_;refine cL_ (H':=((mkH Ds)++((m,.map s.1.es s.1.c)::((C,.map (s.2.1.add x.name).es (s.2.1.add x.name).c)::((A,.map s.2.2.1.es s.2.2.1.c)::((B,.map s.2.2.2.es s.2.2.2.c)::((K,.cells #[iv_ e.kind,str e.name,iv_ e.lo,iv_ e.hi,.slice e.ad e.parts.length e.cap] 28 (0,0))::((P,.cells #[iv_ d.kind,.bool d.opn,iv_ d.left.kind,str d.left.name,iv_ d.left.lo,iv_ d.left.hi,.slice d.left.ad d.left.parts.length d.left.cap,iv_ d.right.kind,str d.right.name,iv_ d.right.lo,iv_ d.right.hi,.slice d.right.ad d.right.parts.length d.right.cap,.slice d.ad d.roles.length d.cap,str d.role,str d.a,str d.b] 30 (0,0))::((L,.cells #[.map (some H)] 152 (0,0))::((H,.map #[⟨iv_ 3,.map (some m),0⟩,⟨iv_ 6,.map (some C),1⟩,⟨iv_ 7,.map (some A),2⟩,⟨iv_ 4,.map (some B),3⟩] 4)::((J,.cells #[.slice none 0 0,.slice none 0 0,.slice none 0 0,.slice none 0 0] 83 (0,0))::(X++((I,.cells #[iv_ x.kind,str x.name,iv_ x.lo,iv_ x.hi,.slice x.ad x.parts.length x.cap] 28 (0,0))::[]))))))))))))) (F:=[]) zao_ zh ?_;refine fg_ (em_ x s) rfl (G:=[(I,.cells (coA x) 28 (0,0))]) ?_;rw[show em_ x s=(s.1,s.2.1.add x.name,s.2.2) from (by unfold em_;rw[yag_ zaa_,yao_ hk])];simp
   have hn_2:=hk
   by_cases hk:x.kind=7
   .refine cL_ (H':=((I,.cells (coA x) 28 (0,0))::((mkH Ds)++((m,.map s.1.es s.1.c)::((C,.map s.2.1.es s.2.1.c)::((A,.map s.2.2.1.es s.2.2.1.c)::((B,.map s.2.2.2.es s.2.2.2.c)::((K,.cells (coA e) 28 (0,0))::((P,.cells (axA d) 30 (0,0))::((L,.cells #[.map (some H)] 152 (0,0))::((H,.map #[⟨iv_ 3,.map (some m),0⟩,⟨iv_ 6,.map (some C),1⟩,⟨iv_ 7,.map (some A),2⟩,⟨iv_ 4,.map (some B),3⟩] 4)::((J,.cells #[.slice none 0 0,.slice none 0 0,.slice none 0 0,.slice none 0 0] 83 (0,0))::X)))))))))))) (F:=[]) zaj_ zh ?_
    refine dW_ ?_;refine gk_ (Y_ d_ (Y_ (j_ d_) (Y_ (j_ d_) (Y_ (j_ d_) (Y_ (j_ d_) (Y_ (j_ d_) (Y_ (j_ d_) (Y_ (j_ d_) (Y_ (j_ d_) (bc_ (j_ d_))))))))))) ?_;refine cK_ ?_;refine aK_ ?_;refine U_ (N_ _) (aX_ 7 Cw_ rfl rfl rfl) rfl rfl ?_;refine U_ (N_ _) (ci_ cd_ rfl rfl rfl ag_) rfl rfl ?_;refine U_ (N_ _) (aX_ 0 aQ_ rfl rfl rfl) rfl rfl ?_;refine U_ (N_ _) (fa_ (i:=2) (u:=.map (some A)) cC_ rfl rfl 8 rfl (aH_ m_) (aw_ m_ zbU_)) rfl rfl ?_;refine U_ (N_ _) (ar_ rfl) rfl rfl ?_;refine U_ (N_ _) (bU_ rfl rfl) rfl rfl ?_;refine U_ (N_ _) (bU_ rfl rfl) rfl rfl ?_;refine U_ (N_ _) (aI_ rfl) rfl rfl ?_;refine U_ (N_ _) (aI_ rfl) rfl rfl ?_;refine br_ ?_;refine cc_ rfl ?_;refine cK_ ?_;refine aK_ ?_;refine U_ (N_ _) (ar_ rfl) rfl rfl ?_;refine br_ ?_;refine cc_ rfl ?_;refine fy_ rfl ?_;refine aK_ ?_;refine U_ (N_ _) (ar_ rfl) rfl rfl ?_;refine U_ (N_ _) (ci_ cd_ rfl rfl rfl G_) rfl rfl ?_;refine U_ (N_ _) (aX_ 0 ad_ rfl rfl rfl) rfl rfl ?_;refine hI_ (N_ _) 3 s.2.2.1 bD_ (.inr rfl) Q_ rfl rfl rfl rfl ?_;refine br_ ?_;refine cN_ rfl ?_;refine cL_ (H':=((mkH Ds)++((m,.map s.1.es s.1.c)::((C,.map s.2.1.es s.2.1.c)::((A,.map (s.2.2.1.add x.name).es (s.2.2.1.add x.name).c)::((B,.map s.2.2.2.es s.2.2.2.c)::((K,.cells #[iv_ e.kind,str e.name,iv_ e.lo,iv_ e.hi,.slice e.ad e.parts.length e.cap] 28 (0,0))::((P,.cells #[iv_ d.kind,.bool d.opn,iv_ d.left.kind,str d.left.name,iv_ d.left.lo,iv_ d.left.hi,.slice d.left.ad d.left.parts.length d.left.cap,iv_ d.right.kind,str d.right.name,iv_ d.right.lo,iv_ d.right.hi,.slice d.right.ad d.right.parts.length d.right.cap,.slice d.ad d.roles.length d.cap,str d.role,str d.a,str d.b] 30 (0,0))::((L,.cells #[.map (some H)] 152 (0,0))::((H,.map #[⟨iv_ 3,.map (some m),0⟩,⟨iv_ 6,.map (some C),1⟩,⟨iv_ 7,.map (some A),2⟩,⟨iv_ 4,.map (some B),3⟩] 4)::((J,.cells #[.slice none 0 0,.slice none 0 0,.slice none 0 0,.slice none 0 0] 83 (0,0))::(X++((I,.cells #[iv_ x.kind,str x.name,iv_ x.lo,iv_ x.hi,.slice x.ad x.parts.length x.cap] 28 (0,0))::[]))))))))))))) (F:=[]) zao_ zh ?_;refine fg_ (em_ x s) rfl (G:=[(I,.cells (coA x) 28 (0,0))]) ?_;rw[show em_ x s=(s.1,s.2.1,s.2.2.1.add x.name,s.2.2.2) from (by unfold em_;rw[yag_ zaa_,yag_ zaa_,yao_ hk])];simp
   have hn_3:=hk
   by_cases hk:x.kind=4
   .refine cL_ (H':=((I,.cells (coA x) 28 (0,0))::((mkH Ds)++((m,.map s.1.es s.1.c)::((C,.map s.2.1.es s.2.1.c)::((A,.map s.2.2.1.es s.2.2.1.c)::((B,.map s.2.2.2.es s.2.2.2.c)::((K,.cells (coA e) 28 (0,0))::((P,.cells (axA d) 30 (0,0))::((L,.cells #[.map (some H)] 152 (0,0))::((H,.map #[⟨iv_ 3,.map (some m),0⟩,⟨iv_ 6,.map (some C),1⟩,⟨iv_ 7,.map (some A),2⟩,⟨iv_ 4,.map (some B),3⟩] 4)::((J,.cells #[.slice none 0 0,.slice none 0 0,.slice none 0 0,.slice none 0 0] 83 (0,0))::X)))))))))))) (F:=[]) zaj_ zh ?_
    refine dW_ ?_;refine gk_ (Y_ d_ (Y_ (j_ d_) (Y_ (j_ d_) (Y_ (j_ d_) (Y_ (j_ d_) (Y_ (j_ d_) (Y_ (j_ d_) (Y_ (j_ d_) (Y_ (j_ d_) (bc_ (j_ d_))))))))))) ?_;refine cK_ ?_;refine aK_ ?_;refine U_ (N_ _) (aX_ 7 Cw_ rfl rfl rfl) rfl rfl ?_;refine U_ (N_ _) (ci_ cd_ rfl rfl rfl ag_) rfl rfl ?_;refine U_ (N_ _) (aX_ 0 aQ_ rfl rfl rfl) rfl rfl ?_;refine U_ (N_ _) (fa_ (i:=3) (u:=.map (some B)) cC_ rfl rfl 8 rfl (aH_ m_) (aw_ m_ zbU_)) rfl rfl ?_;refine U_ (N_ _) (ar_ rfl) rfl rfl ?_;refine U_ (N_ _) (bU_ rfl rfl) rfl rfl ?_;refine U_ (N_ _) (bU_ rfl rfl) rfl rfl ?_;refine U_ (N_ _) (aI_ rfl) rfl rfl ?_;refine U_ (N_ _) (aI_ rfl) rfl rfl ?_;refine br_ ?_;refine cc_ rfl ?_;refine cK_ ?_;refine aK_ ?_;refine U_ (N_ _) (ar_ rfl) rfl rfl ?_;refine br_ ?_;refine cc_ rfl ?_;refine fy_ rfl ?_;refine aK_ ?_;refine U_ (N_ _) (ar_ rfl) rfl rfl ?_;refine U_ (N_ _) (ci_ cd_ rfl rfl rfl G_) rfl rfl ?_;refine U_ (N_ _) (aX_ 0 ad_ rfl rfl rfl) rfl rfl ?_;refine hI_ (N_ _) 4 s.2.2.2 bD_ (.inr rfl) Q_ rfl rfl rfl rfl ?_;refine br_ ?_;refine cN_ rfl ?_;refine cL_ (H':=((mkH Ds)++((m,.map s.1.es s.1.c)::((C,.map s.2.1.es s.2.1.c)::((A,.map s.2.2.1.es s.2.2.1.c)::((B,.map (s.2.2.2.add x.name).es (s.2.2.2.add x.name).c)::((K,.cells #[iv_ e.kind,str e.name,iv_ e.lo,iv_ e.hi,.slice e.ad e.parts.length e.cap] 28 (0,0))::((P,.cells #[iv_ d.kind,.bool d.opn,iv_ d.left.kind,str d.left.name,iv_ d.left.lo,iv_ d.left.hi,.slice d.left.ad d.left.parts.length d.left.cap,iv_ d.right.kind,str d.right.name,iv_ d.right.lo,iv_ d.right.hi,.slice d.right.ad d.right.parts.length d.right.cap,.slice d.ad d.roles.length d.cap,str d.role,str d.a,str d.b] 30 (0,0))::((L,.cells #[.map (some H)] 152 (0,0))::((H,.map #[⟨iv_ 3,.map (some m),0⟩,⟨iv_ 6,.map (some C),1⟩,⟨iv_ 7,.map (some A),2⟩,⟨iv_ 4,.map (some B),3⟩] 4)::((J,.cells #[.slice none 0 0,.slice none 0 0,.slice none 0 0,.slice none 0 0] 83 (0,0))::(X++((I,.cells #[iv_ x.kind,str x.name,iv_ x.lo,iv_ x.hi,.slice x.ad x.parts.length x.cap] 28 (0,0))::[]))))))))))))) (F:=[]) zao_ zh ?_;refine fg_ (em_ x s) rfl (G:=[(I,.cells (coA x) 28 (0,0))]) ?_;rw[show em_ x s=(s.1,s.2.1,s.2.2.1,s.2.2.2.add x.name) from (by unfold em_;rw[yag_ zaa_,yag_ zaa_,yag_ zaa_,yao_ hk])];simp
   have hn_4:=hk;refine cL_ (H':=((I,.cells (coA x) 28 (0,0))::((mkH Ds)++((m,.map s.1.es s.1.c)::((C,.map s.2.1.es s.2.1.c)::((A,.map s.2.2.1.es s.2.2.1.c)::((B,.map s.2.2.2.es s.2.2.2.c)::((K,.cells (coA e) 28 (0,0))::((P,.cells (axA d) 30 (0,0))::((L,.cells #[.map (some H)] 152 (0,0))::((H,.map #[⟨iv_ 3,.map (some m),0⟩,⟨iv_ 6,.map (some C),1⟩,⟨iv_ 7,.map (some A),2⟩,⟨iv_ 4,.map (some B),3⟩] 4)::((J,.cells #[.slice none 0 0,.slice none 0 0,.slice none 0 0,.slice none 0 0] 83 (0,0))::X)))))))))))) (F:=[]) zaj_ zh ?_;refine dW_ ?_;refine gk_ (Y_ d_ (Y_ (j_ d_) (Y_ (j_ d_) (Y_ (j_ d_) (Y_ (j_ d_) (Y_ (j_ d_) (Y_ (j_ d_) (Y_ (j_ d_) (Y_ (j_ d_) (bc_ (j_ d_))))))))))) ?_;refine cK_ ?_;refine aK_ ?_;refine U_ (N_ _) (aX_ 7 Cw_ rfl rfl rfl) rfl rfl ?_;refine U_ (N_ _) (ci_ cd_ rfl rfl rfl ag_) rfl rfl ?_;refine U_ (N_ _) (aX_ 0 aQ_ rfl rfl rfl) rfl rfl ?_;refine U_ (N_ _) (tE_ cC_ dA_ rfl rfl 8 rfl (aH_ m_) ((yU_ m_).nf x.kind _ [3,6,7,4] rfl (by simp only[yan_,yaM_,ybW_];omega))) rfl rfl ?_;refine U_ (N_ _) (ar_ rfl) rfl rfl ?_;refine U_ (N_ _) (bU_ rfl rfl) rfl rfl ?_;refine U_ (N_ _) (bU_ rfl rfl) rfl rfl ?_;refine U_ (N_ _) (aI_ rfl) rfl rfl ?_;refine U_ (N_ _) (aI_ rfl) rfl rfl ?_;refine br_ ?_;refine cc_ rfl ?_;refine cK_ ?_;refine aK_ ?_;refine U_ (N_ _) (ar_ rfl) rfl rfl ?_;refine br_ ?_;refine cc_ rfl ?_;refine mF_ rfl ?_;refine lu_ ?_;refine cN_ rfl ?_;refine cL_ (H':=((mkH Ds)++((m,.map s.1.es s.1.c)::((C,.map s.2.1.es s.2.1.c)::((A,.map s.2.2.1.es s.2.2.1.c)::((B,.map s.2.2.2.es s.2.2.2.c)::((K,.cells (coA e) 28 (0,0))::((P,.cells (axA d) 30 (0,0))::((L,.cells #[.map (some H)] 152 (0,0))::((H,.map #[⟨iv_ 3,.map (some m),0⟩,⟨iv_ 6,.map (some C),1⟩,⟨iv_ 7,.map (some A),2⟩,⟨iv_ 4,.map (some B),3⟩] 4)::((J,.cells #[.slice none 0 0,.slice none 0 0,.slice none 0 0,.slice none 0 0] 83 (0,0))::(X++((I,.cells (coA x) 28 (0,0))::[]))))))))))))) (F:=[]) (by exact zp) zh ?_;refine fg_ (em_ x s) rfl (G:=[(I,.cells (coA x) 28 (0,0))]) ?_;rw[show em_ x s=s from (by unfold em_;rw[yag_ zaa_,yag_ zaa_,yag_ zaa_,yag_ zaa_])];simp
  .intro l Gj Gx hY
   exact qC_ (E:=[]) (good:=λ_=>True) (λ_ _ _ _=>trivial) (λs x hx _=>hY s ⟨x,hx⟩ trivial) _ hokc trivial s
  intro s_1 U D l r;rw[tb_ (λx s=>em_ x s) _ e (yaj_ _)]at U;obtain rfl:=Sum.inl.inj U;have Q:=V.side a0;refine du_ (H':=mkH (D::Ds)++[(m,.map ((List.foldl (λs x=>em_ x s) s (Con.nds e)).1).es ((List.foldl (λs x=>em_ x s) s (Con.nds e)).1).c),(C,.map ((List.foldl (λs x=>em_ x s) s (Con.nds e)).2.1).es ((List.foldl (λs x=>em_ x s) s (Con.nds e)).2.1).c),(A,.map ((List.foldl (λs x=>em_ x s) s (Con.nds e)).2.2.1).es ((List.foldl (λs x=>em_ x s) s (Con.nds e)).2.2.1).c),(B,.map ((List.foldl (λs x=>em_ x s) s (Con.nds e)).2.2.2).es ((List.foldl (λs x=>em_ x s) s (Con.nds e)).2.2.2).c),(K,.cells (coA e) 28 (0,0)),(P,.cells (axA d) 30 (0,0)),(L,.cells #[.map (some H)] 152 (0,0)),(H,.map #[⟨iv_ 3,.map (some m),0⟩,⟨iv_ 6,.map (some C),1⟩,⟨iv_ 7,.map (some A),2⟩,⟨iv_ 4,.map (some B),3⟩] 4),(J,.cells #[.slice none 0 0,.slice none 0 0,.slice none 0 0,.slice none 0 0] 83 (0,0))]) (F:=[(bw,.cells (Con.cells e).toArray 28 (0,0))]++[(l,.loop r)]) yJ_ zh ?_;refine bi_ rfl (A_ (Y_ (j_ d_) (Y_ (j_ d_) (Y_ (j_ d_) (Y_ (j_ d_) (Y_ (j_ d_) (Y_ (j_ d_) (Y_ (j_ d_) (Y_ (j_ d_) (bc_ aU_))))))))) (Zz 5 ?_));exact jn_ ⟨(j+1,(List.foldl (λs x=>em_ x s) s (Con.nds e)),(D::Ds)),hlc_1,Q⟩ zab_ zl zp zh
 obtain⟨S,d,hx_1,O⟩:=zge (show Y<M.length by omega);refine Zz 12 ?_;refine x_ aJ_ rfl λm=>n_ 0 L_ rfl rfl rfl rfl rfl rfl (Zz 5 ?_)
 refine f_ (qw_ (hok d O) (hC d O)) rfl g_ (λv _ h=>by exact⟨(h.1.2 d O),h.2.1,trivial⟩) rfl λ_=>Zz 6 ?_
 refine e_ (ao_ (cg_ rfl rfl) (show _=Value.bool false from yae_ Value.bool zae_)) rfl (Zz 10 ?_);exact jn_ ⟨Y+1,S⟩ zab_ zl (c_ d_) zh
theorem Az_:gp_ prog 164 [(0,1),(1,1),(2,1)] [iv_ 0,iv_ 0,.slice none 0 0]:=⟨_,zeroValue164,runUnderlying164,λw=>by simp[ag_,bP_]⟩
theorem ni_ (s:Str) (l:List Str) (b:Nat) (n r:Int) (sv:Value) (Hr:Hp) (H:zR 9 1 al_ sv l Hr) (hl:l.length<=1000000):Tri prog 112 #[zp_ b 0,str s] ((b,.cells #[iv_ n,iv_ r,sv] 164 (0,0))::Hr) [] (λy:{y:List Str×Value×Hp // zR 9 1 al_ y.2.1 y.1 y.2.2/\y.1.length<=l.length+1}=>.tuple #[]) (λy=>(b,.cells #[iv_ n,iv_ r,y.1.2.1] 164 (0,0))::y.1.2.2) (λ_=>[]):=by
 refine i_ func112 rfl rfl ntmps112 rfl λG=>?_;refine Zz 7 ?_;refine H_ (ι:={y:Nat×Value×Hp // y.1<=List.length l/\zR 9 1 al_ y.2.1 l y.2.2}) (λy=>[(0,zp_ b 0),(1,str s),(4,iv_ y.1.1)]) (λy=>((b,.cells #[iv_ n,iv_ r,y.1.2.1] 164 (0,0))::y.1.2.2)) (λy=>[]) (λy=>l.length - y.1.1) ⟨((0:Nat),sv,Hr),by simp,H⟩ zl zp zt ?_;rintro ⟨⟨i,m,A⟩,E,d⟩;dsimp only at E d ⊢;refine Zz 8 ?_;refine e_ (cv_ d o_ rfl) rfl ?_;refine Zi 0 (λh=>?_) λh=>?_
 .refine Zz 12 ?_
  refine O_ o_ G_ ax_ rfl rfl rfl rfl rfl rfl λK=>?_;refine aj_ (news:=List.flatMap al_ [s]) cH_ d rfl rfl zp rfl (aL_ 0 rfl) (λu I=>az_ cm_ I) zaq_ zaa_ rfl λx B h=>?_;refine A_ yaB_ ?_;have q:=zsa h;refine Zz 2 ?_;refine cn_ 1 q bP_ rfl rfl rfl rfl (Zz 2 ?_);exact co_ results112 ⟨((l++[s]),x,B),q,by first|omega|(simp only[yaf_,yal_,yaL_];omega)⟩ rfl (l_ (c_ d_) B_) zt
 have e:i<l.length:=by omega
 obtain⟨J,v⟩:∃ F,l[i]? = some F:=⟨_,yaa_ e⟩;refine Zz 14 ?_;refine e_ (be_ d o_ G_ rfl rfl zaa_ zaa_) rfl (e_ (cw_ d B_ ad_ rfl (w_ au_ v 0 _ rfl)) rfl (Zi 1 (λC=>?_) λC=>?_))
 .refine Zz 11 ?_
  exact u_ ⟨(i+1,m,A),e,d⟩ zab_ zl zp zt
 refine Zz 4 ?_;exact ret0 results112 ⟨(l,m,A),d,by first|omega|(simp only[yaf_,yal_,yaL_];omega)⟩ rfl zp zt
theorem szs_take_le:∀ (l:List Con) (i:Nat),Con.sz.szs (l.take i)<=Con.sz.szs l
  | [],i=>by simp
  | c::l,0=>by simp[Con.sz.szs]
  | c::l,i+1=>by
    have:=szs_take_le l i;simp only[ybo_,Con.sz.szs];omega
theorem nC_:∀ (m:Nat) (c:Con),c.sz<=m->c.ok->∀ (b:Nat) (n r:Int) (l:List Str) (sv:Value) (Hr:Hp),zR 9 1 al_ sv l Hr->(0<=n/\0<=r/\n+c.sz<=100000/\r+c.sz<=100000/\l.length+c.sz<=100000)->Tri prog 111 #[zp_ b 0,Con.val c] ((b,.cells #[iv_ n,iv_ r,sv] 164 (0,0))::Hr) [Con.memF c] (λy:{y:Int×Int×List Str×Value×Hp // zR 9 1 al_ y.2.2.2.1 y.2.2.1 y.2.2.2.2/\(n<=y.1/\y.1<=n+c.sz)/\(r<=y.2.1/\y.2.1+n<=r+y.1)/\y.2.2.1.length<=l.length+c.sz}=>.tuple #[]) (λy=>(b,.cells #[iv_ y.1.1,iv_ y.1.2.1,y.1.2.2.2.1] 164 (0,0))::y.1.2.2.2.2) (λ_=>[]):=by
 intro m
 induction m with
 | zero=>intro c h;have:=c.sz_pos;omega
 | succ m ih =>
   intro c hm Z b n r l sv Hr hr hbd;have hpl:=Con.ok_len Z;have hsp:=c.sz_pos;have hse:=Con.sz_eq c;refine i_ func111 rfl rfl ntmps111 rfl λv_1=>?_;refine Zz 2 ?_;refine P_ rfl rfl λC=>Zz 7 ?_
   refine E_ (bz_ rfl rfl) rfl λb5 e=>Zz 1 ?_
   refine aq_ 5 ((c.kind==0)&&((List.length c.parts:Int)==0)) (λr=>[(0,zp_ b 0),(3,zp_ C 0),(13,.bool r)]) ?_ λK B=>?_
   . cases b5
     . have d:=e;replace e:=znb e;refine Zz 7 ?_;exact met ⟨rfl,rfl,(s_ rfl (jaf d)),trivial⟩
     . have d:=e;replace e:=zeb e;refine Zz 7 ?_;refine E_ (bz_ rfl rfl) rfl λM G=>Zz 3 ?_
       exact met ⟨rfl,rfl,(s_ rfl (jat d G)),trivial⟩
   . refine Zz 1 ?_;refine aq_ 4 ((((c.kind==0)&&((List.length c.parts:Int)==0)))&&(c.name==[])) (λr=>[(0,zp_ b 0),(3,zp_ C 0),(18,.bool r)]) ?_ λM G=>?_
     . cases K
       . have d:=B;simp at B
         refine Zz 6 ?_;exact met ⟨rfl,rfl,(s_ rfl (jaf d)),trivial⟩
       . have d:=B;simp at B
         refine Zz 5 ?_;refine E_ (cW_ rfl rfl) rfl λa5 A=>Zz 3 ?_
         exact met ⟨rfl,rfl,(s_ rfl (jat d A)),trivial⟩
     . refine Zz 2 ?_;cases M
       . simp at G
         refine Zz 13 ?_;refine n_ 1 ag_ rfl rfl rfl rfl rfl rfl (Zz 7 ?_);refine E_ (bz_ rfl rfl) rfl λa5 A=>Zz 2 ?_
         let Pu:Nat×Obj:=(C,.cells (Con.cells c).toArray 28 (0,0));refine hD_ (ι:={y:Int // (r<=y/\y<=r+1)}) (λy=>[(0,zp_ b 0),(3,zp_ C 0)]) (λy=>(Pu::((b,.cells #[iv_ (n+1),iv_ y.1,sv] 164 (0,0))::Hr))) (λy=>[Con.memF c]) ?_ ?_
         . cases a5
           . replace A:=znb A;refine Zz 3 ?_;exact dm_ ⟨r,zay_⟩ zl zp zf
           . replace A:=zeb A;refine Zz 10 ?_;refine n_ 1 ag_ rfl rfl rfl rfl rfl rfl (Zz 2 ?_);exact dm_ ⟨(r+1),zay_⟩ zl zp zf
         . rintro ⟨K,B⟩;dsimp only at B ⊢;refine Zz 6 ?_;refine E_ (bz_ rfl rfl) rfl λb4 H=>Zz 2 ?_
           refine hD_ (ι:={y:List Str×Value×Hp // y.1.length<=l.length+1/\zR 9 1 al_ y.2.1 y.1 y.2.2}) (λy=>[(0,zp_ b 0),(3,zp_ C 0)]) (λy=>(Pu::((b,.cells #[iv_ (n+1),iv_ K,y.1.2.1] 164 (0,0))::y.1.2.2))) (λy=>[Con.memF c]) ?_ ?_
           . cases b4
             . replace H:=znb H;refine Zz 3 ?_;exact dm_ ⟨(l,sv,Hr),zay_,hr⟩ zl zp zf
             . replace H:=zeb H;refine Zz 5 ?_;refine f_ (ni_ c.name l b (n+1) K sv Hr hr zaa_) rfl zp zt rfl λ⟨⟨a0,S,J⟩,P,U⟩=>?_;dsimp only;dsimp only at P U;refine Zz 2 ?_;exact dm_ ⟨(a0,S,J),zay_,P⟩ zl zp zf
           . rintro ⟨⟨a9,I,L⟩,a8,x⟩;dsimp only at a8 x ⊢;refine Zz 7 ?_;refine H_ (ι:={y:Nat×Int×Int×List Str×Value×Hp // y.1<=List.length c.parts/\(n<=y.2.1/\y.2.1<=n+((1+Con.sz.szs (c.parts.take y.1):Nat):Int)/\r<=y.2.2.1/\y.2.2.1+n<=r+y.2.1/\y.2.2.2.1.length<=l.length+(1+Con.sz.szs (c.parts.take y.1)))/\zR 9 1 al_ y.2.2.2.2.1 y.2.2.2.1 y.2.2.2.2.2}) (λy=>[(0,zp_ b 0),(3,zp_ C 0),(4,iv_ y.1.1)]) (λy=>(Pu::((b,.cells #[iv_ y.1.2.1,iv_ y.1.2.2.1,y.1.2.2.2.2.1] 164 (0,0))::y.1.2.2.2.2.2))) (λy=>[Con.memF c]) (λy=>c.parts.length - y.1.1) ⟨((0:Nat),(n+1),K,a9,I,L),by simp,(by simp only[ych_,Con.sz.szs];omega),x⟩ zl zp zh ?_;rintro ⟨⟨i,R,W,a1,I,L⟩,a4,X,x⟩;dsimp only at a4 X x ⊢;refine Zz 7 ?_;refine E_ (dc_ rfl rfl) rfl λb2 q=>Zz 1 ?_
             refine aq_ 6 ((decide ((i:Int)<(List.length c.parts:Int)))&&(decide (R<=1000))) (λr=>[(0,zp_ b 0),(3,zp_ C 0),(4,iv_ i),(56,.bool r)]) ?_ λr_8 N=>?_
             . cases b2
               . have d:=q;replace q:=zdf q;refine Zz 8 ?_;exact met ⟨rfl,rfl,rfl,(s_ rfl (jaf d)),trivial⟩
               . have d:=q;replace q:=zdt q;refine Zz 9 ?_;refine E_ (dg_ rfl rfl) rfl λr_9 T=>Zz 3 ?_
                 exact met ⟨rfl,rfl,rfl,(s_ rfl (jat d T)),trivial⟩
             . refine Zz 2 ?_;cases r_8
               . simp at N
                 refine Zz 3 ?_;exact co_ results111 ⟨(R,W,a1,I,L),x,by dsimp only;have:=Con.sz_eq c;have a2:=szs_take_le c.parts i;omega⟩ rfl (l_ (c_ d_) B_) zt
               . simp at N
                 obtain⟨Q,a7,F,E⟩:=zge (show i<c.parts.length by omega);refine Zz 10 ?_;refine e_ (Z_ ai_ t_ rfl rfl (λv _ h=>aA_ (n:=5) Con.cells_len zae_ zbF_ F) zaa_ zai_) rfl ?_;refine e_ (am_ (ad:=c.ad) (us:=Con.cells a7) ah_ t_ rfl (λv _ h=>by exact ((Con.mem_iff c v).1 h.1).1) (Con.cells_len _) (w_ Con.cells_len F)) rfl (f_ (ih a7 (by have:=Con.sz_part E;omega) (Con.ok_part Z E) b R W a1 I L x (by have b3:=Con.szs_step F;have a2:=szs_take_le c.parts (i+1);omega)) rfl (l_ (c_ d_) B_) (λv _ h=>by exact⟨(Con.mem_part (c:=c) h.1 E),trivial⟩) rfl λ⟨⟨b1,M,b0,V,J⟩,O,a3,a6,Y⟩=>?_);dsimp only;dsimp only at O a3 a6 Y;refine Zz 2 ?_;refine A_ (Y_ d_ (bc_ aU_)) (Zz 6 ?_);exact u_ ⟨(i+1,b1,M,b0,V,J),Q,(by have b3:=Con.szs_step F;dsimp only;omega),O⟩ zab_ zl (l_ (c_ d_) (l_ d_ T_)) zh
       . simp at G
         refine Zz 2 ?_;exact ret0 results111 ⟨(n,r,l,sv,Hr),hr,by dsimp only;have:=Con.sz_eq c;have a2:=szs_take_le c.parts 0;omega⟩ rfl (l_ (c_ d_) B_) zt
structure AL where
  l:List Ax
  ad:Ao
  cap:Nat
def AL.cells (x:AL):List Value:=[.slice x.ad x.l.length x.cap]
theorem AL.cells_len (x:AL):x.cells.length=1:=rfl
structure AL.ok (x:AL):Prop where
  len:x.l.length<=2199023255488
  ok:∀ a∈x.l,a.ok
def alF (xs:List AL):Fct where
  p v:=∀ x∈xs,(cG_ x.ad x.l).p v
  mono:=λv v' h hp x hx=>(cG_ x.ad x.l).mono v v' h (hp x hx)
theorem ey_ {G:Prop} (h:G:=by
 exact ab_ results52 false rfl g_ zt):G:=h
theorem lR_ {G:Prop} (h:G:=by
 rintro ⟨⟨a3,A,H⟩,S,d⟩;dsimp only at S d ⊢;refine Zz 7 ?_;exact u_ ⟨(j+1,a3,(bg++[46])++O,A,H),a7,zab_,(by have:=L.roles O R;simp only[yaf_,yal_,yaL_];omega),d⟩ zab_ zl (l_ d_ (l_ d_ T_)) zh):G:=h
theorem yM_ (xs:List AL) (B:Ao) (G:Nat) (e4:∀ x∈xs,AL.ok x) (hl:xs.length<=1000):Tri prog 52 #[.slice B xs.length G,iv_ 40] [] [ac_ B (xs.flatMap AL.cells),alF xs] (λb:Bool=>.bool b) (λ_=>[]) (λ_=>[]):=by
 refine i_ func52 rfl rfl ntmps52 rfl λv_1=>?_;refine Zz 7 ?_;refine e_ (C_ Az_ rfl rfl) rfl (P_ rfl rfl λq=>Zz 10 ?_);refine H_ (ι:={y:Nat×Int×Int×List Str×Value×Hp // y.1<=List.length xs/\(0<=y.2.1/\0<=y.2.2.1/\y.2.2.1<=y.2.1/\y.2.1<=1000/\y.2.2.2.1.length<=1000)/\zR 9 1 al_ y.2.2.2.2.1 y.2.2.2.1 y.2.2.2.2.2}) (λy=>[(0,.slice B xs.length G),(1,iv_ 40),(4,.bool false),(5,zp_ q 0),(6,iv_ y.1.1)]) (λy=>((q,.cells #[iv_ y.1.2.1,iv_ y.1.2.2.1,y.1.2.2.2.2.1] 164 (0,0))::y.1.2.2.2.2.2)) (λy=>[ac_ B (xs.flatMap AL.cells),alF xs]) (λy=>xs.length - y.1.1) ⟨((0:Nat),0,0,([]:List Str),(.slice none 0 0),[]),by simp,(by first|exact a5|simp),(at_.nil _ _)⟩ zl d_ zh ?_;rintro ⟨⟨i,n_1,r_1,l_1,A,H⟩,f4,a5,d⟩;dsimp only at f4 a5 d ⊢;refine Zi 6 (λe8=>?_) λe8=>?_
 .refine Zi 12 (λa9=>?_) λa9=>?_
  .refine Zz 19 ?_
   exact ey_
  refine Zi 10 (λa4=>?_) λa4=>?_
  .refine Zz 13 ?_
   exact ey_
  refine Zz 11 ?_;refine e_ (cv_ d o_ rfl) rfl (ay_ rfl rfl (E_ (dg_ rfl rfl) rfl λb0 b3=>Zz 5 ?_));exact ab_ results52 b0 rfl g_ zt
 obtain⟨b7,F,hx_1,m⟩:=zge (show i<xs.length by omega);have hal:=(e4 F m).len;refine Zz 13 ?_;refine H_ (ι:={y:Nat×Int×Int×List Str×Value×Hp // y.1<=List.length (AL.l F)/\(0<=y.2.1/\0<=y.2.2.1/\y.2.2.1<=y.2.1/\y.2.1<=1000/\y.2.2.2.1.length<=1000)/\zR 9 1 al_ y.2.2.2.2.1 y.2.2.2.1 y.2.2.2.2.2}) (λy=>[(0,.slice B xs.length G),(1,iv_ 40),(4,.bool false),(5,zp_ q 0),(6,iv_ i),(7,iv_ y.1.1)]) (λy=>((q,.cells #[iv_ y.1.2.1,iv_ y.1.2.2.1,y.1.2.2.2.2.1] 164 (0,0))::y.1.2.2.2.2.2)) (λy=>[ac_ B (xs.flatMap AL.cells),alF xs]) (λy=>List.length (AL.l F) - y.1.1) ⟨((0:Nat),n_1,r_1,l_1,A,H),by simp,(by first|exact a5|simp),d⟩ zl zp zh ?_;rintro ⟨⟨k,e0,b0,e9,A,H⟩,d6,a8,d⟩;dsimp only at d6 a8 d ⊢;refine Zi 9 (λa9=>?_) λa9=>?_
 .refine Zz 11 ?_
  exact u_ ⟨(i+1,e0,b0,e9,A,H),b7,(by first|exact a8|(dsimp only;omega)),d⟩ zab_ zl zp zh
 obtain⟨c0,e,b2,C⟩:=zge (show k<List.length (AL.l F) by omega);have L:=(e4 F m).ok e C;have hrc_1:=L.cap;refine Zz 14 ?_;refine e_ (Z_ aS_ L_ rfl rfl (λv _ h=>aA_ (n:=16) Ax.cells_len zae_ (by exact (h.2.1 F m).1) b2) zaa_ zai_) rfl ?_;refine e_ (am_ (ad:=(AL.ad F)) (us:=Ax.cells e) bK_ L_ rfl (λv _ h=>by exact (h.2.1 F m).1) (Ax.cells_len _) (w_ Ax.cells_len b2)) rfl (x_ aJ_ rfl λJ=>n_ 0 L_ rfl rfl rfl rfl rfl rfl (Zi 10 (λa4=>?_) λa4=>?_))
 .refine Zz 10 ?_
  refine e_ (cv_ d o_ rfl) rfl (ay_ rfl rfl ?_);refine Zi 0 (λb3=>?_) λb3=>?_
  .refine Zi 9 (λf3=>?_) λf3=>?_
   .refine Zz 5 ?_
    refine f_ (mR_ e L) rfl g_ (λv _ h=>by exact⟨((h.2.1 F m).2 e C),trivial⟩) rfl λ⟨bf,hbf⟩=>?_;dsimp only;refine ay_ rfl rfl (e_ (as_ rfl) rfl (Zz 3 ?_));cases bf
    .refine Zz 7 ?_
     exact ey_
    have a1:=hbf rfl;have hfl:=a1.left;have hfr:=a1.right;refine Zz 8 ?_;refine f_ (nC_ _ e.left (yaj_ _) L.left q e0 b0 e9 A H d (by have:=a1.left;have:=a1.right;omega)) rfl (l_ (c_ d_) B_) (λv _ h=>by exact⟨((h.2.1 F m).2 e C).1,trivial⟩) rfl λ⟨⟨d9,d5,e7,d1,f1⟩,b4,e2,hy1c,e3⟩=>?_;dsimp only;dsimp only at b4 e2 hy1c e3;refine Zz 2 ?_;refine A_ (Y_ d_ (bc_ aU_)) (Zz 5 ?_);refine f_ (nC_ _ e.right (yaj_ _) L.right q d9 d5 e7 d1 f1 b4 (by have:=a1.left;have:=a1.right;omega)) rfl (l_ d_ B_) (λv _ h=>by exact⟨((h.2.1 F m).2 e C).2.1,trivial⟩) rfl λ⟨⟨V,E,a6,N,Z⟩,a2,e5,hy2c,f2⟩=>?_;dsimp only;dsimp only at a2 e5 hy2c f2;refine Zz 3 ?_;refine A_ (Y_ d_ (bc_ aU_)) (Zz 4 ?_);refine E_ (cJ_ rfl rfl) rfl λr_3 Y=>Zz 2 ?_
    let Pu:Fr:=[(0,.slice B xs.length G),(1,iv_ 40),(4,.bool false),(5,zp_ q 0),(6,iv_ i),(7,iv_ k),(8,zp_ J 0)];let Qu:Nat×Obj:=(J,.cells (Ax.cells e).toArray 30 (0,0));refine hD_ (ι:={y:Int // (V<=y/\y<=V+1)}) (λy=>Pu) (λy=>(Qu::((q,.cells #[iv_ y.1,iv_ E,N] 164 (0,0))::Z))) (λy=>[ac_ B (xs.flatMap AL.cells),alF xs]) ?_ ?_
    .cases r_3
     .replace Y:=fo_ Y
      refine Zz 3 ?_;exact dm_ ⟨V,zay_⟩ zl zp zf
     replace Y:=fm_ Y;refine Zz 10 ?_;refine n_ 0 ag_ rfl rfl rfl rfl rfl rfl (Zz 2 ?_);exact dm_ ⟨(V+1),zay_⟩ zl (l_ (c_ d_) (l_ d_ T_)) zf
    rintro ⟨X,b8⟩;dsimp only at b8 ⊢;refine Zz 6 ?_;refine E_ (cJ_ rfl rfl) rfl λr_4 U=>Zz 2 ?_
    refine hD_ (ι:={y:Int // (X<=y/\y<=X+1)}) (λy=>Pu) (λy=>(Qu::((q,.cells #[iv_ y.1,iv_ E,N] 164 (0,0))::Z))) (λy=>[ac_ B (xs.flatMap AL.cells),alF xs]) ?_ ?_
    .cases r_4
     .replace U:=fo_ U
      refine Zz 3 ?_;exact dm_ ⟨X,zay_⟩ zl zp zf
     replace U:=fm_ U;refine Zz 10 ?_;refine n_ 1 ag_ rfl rfl rfl rfl rfl rfl (Zz 2 ?_);exact dm_ ⟨(X+1),zay_⟩ zl zp zf
    rintro ⟨I,c1⟩;dsimp only at c1 ⊢;refine Zz 6 ?_;refine E_ (cJ_ rfl rfl) rfl λr_5 T=>Zz 2 ?_
    refine hD_ (ι:={y:List Str×Value×Hp // y.1.length<=a6.length+1/\zR 9 1 al_ y.2.1 y.1 y.2.2}) (λy=>Pu) (λy=>(Qu::((q,.cells #[iv_ I,iv_ E,y.1.2.1] 164 (0,0))::y.1.2.2))) (λy=>[ac_ B (xs.flatMap AL.cells),alF xs]) ?_ ?_
    .cases r_5
     .replace T:=fo_ T
      refine Zz 3 ?_;exact dm_ ⟨(a6,N,Z),zay_,a2⟩ zl zp zf
     replace T:=fm_ T;refine Zz 5 ?_;refine f_ (ni_ e.role a6 q I E N Z a2 zaa_) rfl zp zt rfl λ⟨⟨M,K,Q⟩,b1,d8⟩=>?_;dsimp only;dsimp only at b1 d8;refine Zz 2 ?_;exact dm_ ⟨(M,K,Q),zay_,b1⟩ zl zp zf
    rintro ⟨⟨b5,A,H⟩,d0,d⟩;dsimp only at d0 d ⊢;refine Zz 12 ?_;refine H_ (ι:={y:Nat×List Str×Str×Value×Hp // y.1<=List.length e.roles/\y.2.1.length<=b5.length+2*y.1/\y.2.2.1.length<=140737488351300*y.1/\zR 9 1 al_ y.2.2.2.1 y.2.1 y.2.2.2.2}) (λy=>[(0,.slice B xs.length G),(1,iv_ 40),(4,.bool false),(5,zp_ q 0),(6,iv_ i),(7,iv_ k),(8,zp_ J 0),(9,str y.1.2.2.1),(10,iv_ y.1.1)]) (λy=>(Qu::((q,.cells #[iv_ I,iv_ E,y.1.2.2.2.1] 164 (0,0))::y.1.2.2.2.2))) (λy=>[ac_ B (xs.flatMap AL.cells),alF xs]) (λy=>e.roles.length - y.1.1) ⟨((0:Nat),b5,([]:Str),A,H),by simp,zaj_,zaj_,d⟩ zl zp zh ?_;rintro ⟨⟨j,d7,bg,A,H⟩,e6,hl_1,hbg,d⟩;dsimp only at e6 hl_1 hbg d ⊢;refine Zi 7 (λd2=>?_) λd2=>?_
    .refine Zz 11 ?_
     exact u_ ⟨(k+1,I,E,d7,A,H),c0,(by first|exact a8|(dsimp only;omega)),d⟩ zab_ zl zp zh
    obtain⟨a7,O,W,R⟩:=zge (show j<e.roles.length by omega);have hrl_1:=L.roles O R;refine Zz 13 ?_;refine e_ (Z_ o_ G_ rfl rfl (λv _ h=>aA_ (n:=1) au_ zae_ (by exact ((h.2.1 F m).2 e C).2.2) W) zaa_ zai_) rfl ?_;refine e_ (bA_ (ad:=e.ad) ad_ rfl (λv _ h=>by exact ((h.2.1 F m).2 e C).2.2) (w_ au_ W 0 _ rfl)) rfl (f_ (ni_ O d7 q I E A H d zaa_) rfl zp zt rfl λ⟨⟨M,K,Q⟩,a0,d4⟩=>?_);dsimp only;dsimp only at a0 d4;refine Zz 2 ?_;refine A_ (Y_ d_ (bc_ aU_)) (Zz 3 ?_);refine e_ (bS_ rfl rfl zau_) rfl ?_;refine Zz 3 ?_;refine e_ (Z_ o_ G_ rfl rfl (λv _ h=>aA_ (n:=1) au_ zae_ (by exact ((h.2.1 F m).2 e C).2.2) W) zaa_ zai_) rfl ?_;refine e_ (bA_ (ad:=e.ad) ad_ rfl (λv _ h=>by exact ((h.2.1 F m).2 e C).2.2) (w_ au_ W 0 _ rfl)) rfl (e_ (bS_ rfl rfl zau_) rfl ?_);refine Zi 6 (λb9=>?_) λb9=>?_
    .refine Zz 10 ?_
     refine hD_ (ι:={y:List Str×Value×Hp // y.1.length<=M.length+1/\zR 9 1 al_ y.2.1 y.1 y.2.2}) (λy=>[(0,.slice B xs.length G),(1,iv_ 40),(4,.bool false),(5,zp_ q 0),(6,iv_ i),(7,iv_ k),(8,zp_ J 0),(9,str ((bg++[46])++O)),(10,iv_ j)]) (λy=>(Qu::((q,.cells #[iv_ I,iv_ E,y.1.2.1] 164 (0,0))::y.1.2.2))) (λy=>[ac_ B (xs.flatMap AL.cells),alF xs]) ?_ ?_
     .refine Zz 3 ?_
      exact dm_ ⟨(M,K,Q),zay_,a0⟩ zl zp zf
     exact lR_
    refine Zz 12 ?_;refine E_ (dc_ rfl rfl) rfl λr_6 P=>Zz 3 ?_
    refine hD_ (ι:={y:List Str×Value×Hp // y.1.length<=M.length+1/\zR 9 1 al_ y.2.1 y.1 y.2.2}) (λy=>[(0,.slice B xs.length G),(1,iv_ 40),(4,.bool false),(5,zp_ q 0),(6,iv_ i),(7,iv_ k),(8,zp_ J 0),(9,str ((bg++[46])++O)),(10,iv_ j)]) (λy=>(Qu::((q,.cells #[iv_ I,iv_ E,y.1.2.1] 164 (0,0))::y.1.2.2))) (λy=>[ac_ B (xs.flatMap AL.cells),alF xs]) ?_ ?_
    .cases r_6
     .replace P:=zdf P
      refine Zz 3 ?_;exact dm_ ⟨(M,K,Q),zay_,a0⟩ zl zp zf
     replace P:=zdt P;refine Zz 4 ?_;refine f_ (ni_ ((bg++[46])++O) M q I E K Q a0 zaa_) rfl zp zt rfl λ⟨⟨d3,c2,f0⟩,b6,e1⟩=>?_;dsimp only;dsimp only at b6 e1;refine Zz 2 ?_;exact dm_ ⟨(d3,c2,f0),zay_,b6⟩ zl zp zf
    exact lR_
   refine Zz 15 ?_;exact ey_
  refine Zz 21 ?_;exact ey_
 refine Zz 28 ?_;exact ey_
theorem Cl_ (xs:List AL) (e:Ao) (d:Nat) (h:∀ x∈xs,AL.ok x) (hl:xs.length<=1000):Tri prog 17 #[.slice e xs.length d] [] [ac_ e (xs.flatMap AL.cells),alF xs] (λb:Bool=>.bool b) (λ_=>[]) (λ_=>[]):=by
  refine i_ func17 rfl rfl ntmps17 rfl λq=>?_;refine Zz 8 ?_;refine f_ (yM_ xs e d h hl) rfl g_ zf rfl λm=>Zz 4 ?_
  exact ab_ results17 m rfl g_ zt
theorem al_one {x:AL} {v:Vw} (h:(cG_ x.ad x.l).p v):(alF [x]).p v:=λy d=>by rw[yai_.1 d];exact h
theorem xq_ {x:AL} (h:x.ok):∀ y∈[x],AL.ok y:=λy d=>by rw[yai_.1 d];exact h
theorem BD_ (d:List Ax) (lad:Ao) (lcap:Nat) (q:d.length<=lcap/\lcap<=2199023255488) (m:∀ x∈d,x.ok):Tri prog 22 #[.slice lad d.length lcap] [] [cG_ lad d] (λb:{b:Bool // b=true->d.length<=10/\∀ x∈d,Ax.Few x}=>.bool b.1) (λ_=>[]) (λ_=>[]):=by
 refine i_ func22 rfl rfl ntmps22 rfl λB=>?_;refine Zz 8 ?_;refine f_ (rq_ d lad lcap 10 q m) rfl g_ zf rfl λ⟨A,e⟩=>?_;dsimp only;refine Zz 1 ?_;cases A
 .refine Zz 8 ?_
  exact ab_ results22 ⟨false,λh=>by cases h⟩ rfl g_ zt
 refine Zz 3 ?_;refine O_ runUnderlying86 Cr_ zeroValue22 rfl rfl rfl rfl rfl rfl λy=>?_;refine bC_ (List.flatMap AL.cells [(AL.mk d lad lcap)]) d_ rfl ?_;refine ay_ rfl rfl (f_ (Cl_ [(AL.mk d lad lcap)] (some ⟨y,0,none⟩) 1 (xq_ ⟨by dsimp only;omega,m⟩) zaj_) rfl g_ (λv _ h=>by exact⟨h.1,(al_one h.2.1),trivial⟩) rfl λC=>?_);refine Zz 5 ?_;exact ab_ results22 ⟨C,λ_=>⟨by have:=(e rfl).1;omega,(e rfl).2⟩⟩ rfl g_ zt
theorem wt_ (l:List Ax) (ad:Ao) (cap:Nat) (e:l.length<=12) (d:∀ x∈l,x.ok) (m:∀ x∈l,x.check=0) :
    Tri prog 66 #[.slice ad l.length cap] [] [cG_ ad l,bN_] (λy:{y:Ao×Nat // (bL_ 0 l).length<=y.2/\y.2<=maxLen/\(y.1=none->y.2=0)}=>.tuple #[.slice y.1.1 (bL_ 0 l).length y.1.2,iv_ 0]) (λ_=>[]) (λy=>[ac_ y.1.1 ((bL_ 0 l).flatMap Pc.cells)]):=by
  have h:=pQ_ l ad cap zaa_ d;rw[oi_ e m]at h;exact h
theorem oC_ (l:List Ax) (ad:Ao) (cap:Nat) (L:∀ x∈l,x.ok) (O:∀ x∈l,x.check=0) (Q:l.length<=12) (q:List Pc) (e:Ao) (d:Nat) (H:q.length<=d) (M:e=none->d=0) (hql:q.length<=100000) (V:∀ z∈q,z.sm):Tri prog 70 #[.agg #[.slice ad l.length cap],.slice e q.length d] [] [cG_ ad l,ac_ e (q.flatMap Pc.cells),bN_,hx_] (λy:{y:Cl×Int // dF_ (bL_ 0 l++q) 1073741824 y.1 y.2}=>.tuple #[y.1.1.val,iv_ y.1.2]) (λ_=>[]) (λy=>y.1.1.row):=by
  refine i_ func70 rfl rfl ntmps70 rfl λZ=>?_;refine Zz 2 ?_;refine P_ rfl rfl λb_1=>x_ iy_ rfl λY=>Zz 7 ?_
  refine f_ (wt_ l ad cap Q L O) rfl g_ zf rfl λ⟨⟨F,A⟩,B,G,m⟩=>?_;dsimp only;try dsimp only at B G m
  have a0:=kX_ 0 l O;refine Zz 11 ?_;refine e_ (ao_ (cg_ rfl rfl) (show _=Value.bool false from yae_ Value.bool zae_)) rfl (Zz 9 ?_);refine O_ runUnderlying143 qL_ bT_ rfl rfl rfl rfl rfl rfl λX=>?_;refine bC_ (List.flatMap PL.cells [(PL.mk (bL_ 0 l) F A),(PL.mk q e d)]) d_ rfl ?_;refine f_ ((show Tri prog 46 _ [] _ (λy:{y:Ao×Nat // (bL_ 0 l++q).length<=y.2/\y.2<=maxLen/\(y.1=none->y.2=0)}=>.slice y.1.1 (bL_ 0 l++q).length y.1.2) (λ_=>[]) (λy=>[ac_ y.1.1 ((bL_ 0 l++q).flatMap Pc.cells)]) from by have h:=zE_ [(PL.mk (bL_ 0 l) F A),(PL.mk q e d)] (some ⟨X,0,none⟩) 2 (λy J=>by simp only[yan_,yaM_,ybW_]at J;rcases J with rfl|rfl;exact⟨B,m,by dsimp only;omega⟩;exact⟨H,M,by dsimp only;omega⟩) zaj_;have eC:(ia_ [(PL.mk (bL_ 0 l) F A),(PL.mk q e d)])=bL_ 0 l++q:=(by simp[ia_]);rw[eC]at h;exact h)) rfl g_ (λv _ h=>by refine⟨h.1,λy J=>?_,trivial⟩;simp only[yan_,yaM_,ybW_]at J;rcases J with rfl|rfl;exact h.2.1;exact h.2.2.2.1) rfl λ⟨⟨I,E⟩,R,U,P⟩=>?_;dsimp only;refine f_ (CC_ ((bL_ 0 l)++q) I E 1073741824 (λz S=>(yah_.1 S).elim (λS=>(kY_ l 0 zaa_ L O z S).2.2.1) (V z)) (by rw[yaf_];omega)) rfl g_ zf rfl λ⟨⟨K,N⟩,C⟩=>?_;dsimp only;try dsimp only at C
  refine Zz 2 ?_;refine n_ 0 bn_ rfl rfl rfl rfl rfl rfl (Zz 4 ?_);exact de_ ⟨(K,N),C⟩ (λaa v W T=>bI_ (us:=Cl.cells K) 0 results70 fD_ bn_ rfl rfl rfl rfl aa v W T) g_ zf
def FaR (l:List Ax) (x:Ax) (ok:Bool) (e:Int):Prop:=∃ c e2,dF_ (bL_ 0 l++x.goalP.1) 1073741824 c e2/\((e2≠0/\ok=false/\e=e2)\/(e2=0/\e=0/\ok=x.goalP.2.1.all (pq_ c.facts)))
theorem yX_ (l:List Ax) (ad:Ao) (cap:Nat) (Z:∀ x∈l,x.ok) (hC:∀ x∈l,x.check=0) (V:l.length<=12) (x:Ax) (hox:x.ok) (q:List Pc) (F:List Fc) (Y:x.goalP=(q,F,0)) (a1:q.length<=100000) (X:∀ z∈q,z.sm) (hFl:F.length<=100000) (R:GlT x q F 0):Tri prog 120 #[.agg #[.slice ad l.length cap],Ax.val x] [] [cG_ ad l,Ax.memF x,bN_,hx_] (λy:{y:Bool×Int // FaR l x y.1 y.2}=>.tuple #[.bool y.1.1,iv_ y.1.2]) (λ_=>[]) (λ_=>[]):=by
 refine i_ func120 rfl rfl ntmps120 rfl λv_1=>?_;refine Zz 2 ?_;refine P_ rfl rfl λa0=>P_ rfl rfl λS=>Zz 7 ?_
 refine f_ (R) rfl g_ zf rfl λ⟨⟨O,L,fad,fcap⟩,B,H,J,I,A⟩=>?_;dsimp only;try dsimp only at B H J I A
 refine Zz 13 ?_;refine e_ (ao_ (cg_ rfl rfl) (show _=Value.bool false from yae_ Value.bool zae_)) rfl (Zz 9 ?_);refine f_ (oC_ l ad cap Z hC V q O L B A a1 X) rfl g_ zf rfl λ⟨⟨d,m⟩,e⟩=>?_;dsimp only;try dsimp only at e
 have hAl:=dF_.len e;refine Zz 3 ?_;refine x_ iy_ rfl λP=>n_ 0 bn_ rfl rfl rfl rfl rfl rfl (Zi 7 (λh=>?_) λh=>?_)
 .refine Zz 14 ?_
  refine H_ (ι:={y:Nat // y<=List.length F/\(∀ z∈List.take y F,pq_ d.facts z=true)}) (λy=>[(4,.bool false),(5,iv_ m),(8,zp_ P 0),(29,.slice fad F.length fcap),(30,iv_ (List.length F:Int)),(31,iv_ y.1)]) (λy=>((P,.cells #[.slice d.aad d.atoms.length d.acap,.slice d.fad d.facts.length d.fcap] 110 (0,0))::((S,.cells (Ax.cells x).toArray 30 (0,0))::((a0,.cells #[.slice ad l.length cap] 96 (0,0))::[])))) (λy=>[ac_ d.aad (d.atoms.flatMap al_),ac_ d.fad (d.facts.flatMap Fc.cells),ac_ O (q.flatMap Pc.cells),ac_ fad (F.flatMap Fc.cells),cG_ ad l,Ax.memF x,bN_,hx_]) (λy=>F.length - y.1) ⟨(0:Nat),by simp,zaj_⟩ zl zp zh ?_;rintro ⟨i,N,T⟩;dsimp only at N T ⊢;refine Zi 2 (λM=>?_) λM=>?_
  .refine Zz 13 ?_
   exact fP_ results120 ⟨(true,0),by unfold FaR;rw[Y];exact⟨d,m,e,.inr ⟨by simpa using h,rfl,(yaW_.2 λz Q=>T z (by rw[yab_ zaa_];exact Q)).symm⟩⟩⟩ rfl rfl rfl g_ zt
  have v:i<F.length:=by omega
  obtain⟨K,C⟩:∃ U,F[i]? = some U:=⟨_,yaa_ v⟩;have G:K∈F:=yad_ C;refine Zz 12 ?_;refine x_ R_ rfl λb_4=>n_ 0 y_ rfl rfl rfl rfl rfl rfl (Zz 6 ?_)
  refine S_ (der_c d K zaa_) rfl g_ zf rfl λW E=>e_ (as_ rfl) rfl (Zz 2 ?_)
  cases W
  .refine Zz 8 ?_
   exact fP_ results120 ⟨(false,0),by unfold FaR;rw[Y];exact⟨d,m,e,.inr ⟨by simpa using h,rfl,(ydd_.2 ⟨K,G,by simpa using E⟩).symm⟩⟩⟩ rfl rfl rfl g_ zt
  refine Zz 8 ?_;exact u_ ⟨i+1,v,(λz Q=>by rw[tk1 C,yah_,yai_]at Q;exact Q.elim (T z) λq=>by rw[q];simpa using E)⟩ zab_ zl (l_ (c_ d_) (l_ (c_ d_) (c_ d_))) zh
 refine Zz 11 ?_;exact fP_ results120 ⟨(false,m),by unfold FaR;rw[Y];exact⟨d,m,e,.inl ⟨by simpa using h,rfl,rfl⟩⟩⟩ rfl rfl rfl g_ zt
theorem mj_ {G:Prop} (h:G:=by
 refine Zz 11 ?_;refine e_ (as_ rfl) rfl (Zz 9 ?_);refine ap_ (first:=[(.agg #[.slice ad l.length cap])]) (vs:=[Ax.val x]) (cap:=[]) (yX_ l ad cap m G A x v q F H B h e d) rfl rfl g_ zf rfl λ⟨⟨fb,E⟩,C⟩=>?_;try dsimp only at C
 simp only[ycX_];refine Zz 7 ?_;exact fP_ results56 ⟨(fb,E),C⟩ rfl rfl rfl g_ zt):G:=h
theorem ul_ (l:List Ax) (ad:Ao) (cap:Nat) (m:∀ x∈l,x.ok) (G:∀ x∈l,x.check=0) (A:l.length<=12) (x:Ax) (v:x.ok) (q:List Pc) (F:List Fc) (H:x.goalP=(q,F,0)) (B:q.length<=100000) (h:∀ z∈q,z.sm) (e:F.length<=100000) (d:GlT x q F 0) (hk:(x.kind=8\/x.kind=9)):Tri prog 56 #[.agg #[.slice ad l.length cap],Ax.val x] [] [cG_ ad l,Ax.memF x,bN_,hx_] (λy:{y:Bool×Int // FaR l x y.1 y.2}=>.tuple #[.bool y.1.1,iv_ y.1.2]) (λ_=>[]) (λ_=>[]):=by
 refine i_ func56 rfl rfl ntmps56 rfl λI=>?_;refine Zz 2 ?_;refine P_ rfl rfl λK=>P_ rfl rfl λJ=>Zz 6 ?_
 refine bf_ rfl λL=>Zz 1 ?_
 refine e_ (aY_ rfl rfl) rfl (aE_ 0 (.inl rfl) bR_ rfl rfl rfl rfl (aH_ m_) (aw_ m_ rfl) (Zz 1 ?_));refine e_ (aY_ rfl rfl) rfl (aE_ 0 (.inl rfl) bR_ rfl rfl rfl rfl (aH_ m_) (aw_ m_ rfl) (Zz 1 ?_));refine e_ (aY_ rfl rfl) rfl (aE_ 0 (.inl rfl) bR_ rfl rfl rfl rfl (aH_ m_) (aw_ m_ rfl) (Zz 1 ?_));refine e_ (aY_ rfl rfl) rfl (aE_ 0 (.inl rfl) bR_ rfl rfl rfl rfl (aH_ m_) (aw_ m_ rfl) (Zz 1 ?_));refine e_ (aY_ rfl rfl) rfl (aE_ 0 (.inl rfl) bR_ rfl rfl rfl rfl (aH_ m_) (aw_ m_ rfl) (Zz 1 ?_));refine e_ (aY_ rfl rfl) rfl (aE_ 0 (.inl rfl) bR_ rfl rfl rfl rfl (aH_ m_) (aw_ m_ rfl) (Zz 1 ?_));refine e_ (aY_ rfl rfl) rfl (aE_ 0 (.inl rfl) bR_ rfl rfl rfl rfl (aH_ m_) (aw_ m_ rfl) (Zz 1 ?_));refine e_ (aY_ rfl rfl) rfl (aE_ 0 (.inl rfl) bR_ rfl rfl rfl rfl (aH_ m_) (aw_ m_ rfl) (Zz 1 ?_));refine e_ (aY_ rfl rfl) rfl (aE_ 0 (.inl rfl) bR_ rfl rfl rfl rfl (aH_ m_) (aw_ m_ rfl) (Zz 9 ?_));rcases hk with hk|hk
 .refine e_ (fa_ (i:=7) (u:=(.func (.func 120) #[.agg #[.slice ad l.length cap]] #[])) bR_ rfl rfl 0 rfl (aH_ m_) (aw_ m_ zbU_)) rfl ?_
  exact mj_
 refine e_ (fa_ (i:=8) (u:=(.func (.func 120) #[.agg #[.slice ad l.length cap]] #[])) bR_ rfl rfl 0 rfl (aH_ m_) (aw_ m_ zbU_)) rfl ?_;exact mj_
theorem fY_ {c:Con} {k lo hi:Int} {n:Str} (h:c.core=(Con.mk k n lo hi none 0 []).core):∃ ad cap,c=Con.mk k n lo hi ad cap []:=by
  rw[Con.core_eq,Con.core_eq]at h;cases c with
  | mk k' n' lo' hi' a' c' ps =>
    simp only[Con.kind,Con.name,Con.lo,Con.hi,Con.parts,Con.mk.injEq,ybz_,List.map_eq_nil_iff,ydi_]at h;obtain⟨rfl,rfl,rfl,rfl,h⟩:=h;exact⟨a',c',by simp[h]⟩
structure TyG (s n:Str) (x:Ax):Prop where
  k:x.kind=8
  l:x.left.core=(Con.mk 0 [] 0 0 none 0 []).core
  r:x.right.core=(Con.mk 3 n 0 0 none 0 []).core
  rs:x.roles=[]
  ro:x.role=[]
  a:x.a=s
  b:x.b=[]
section
variable {s n:Str} {a y:Ax}
theorem TyG.form (h:TyG s n a):∃ o K L E C F c3,a=⟨8,o,Con.mk 0 [] 0 0 K L [],Con.mk 3 n 0 0 E C [],F,c3,[],[],s,[]⟩:=by
  obtain⟨G,I,e⟩:=fY_ h.l;obtain⟨H,J,A⟩:=fY_ h.r;cases a with
  | mk k o l r d c rs ro sa sb =>
    have q:=h.k;have v:=h.rs;have B:=h.ro;have m:=h.a;have x:=h.b;dsimp only at q v B m x e A;subst q v B m x e A;exact⟨_,_,_,_,_,_,_,rfl⟩
theorem TyG.tdy (h:TyG s n a) (t:TdyOf a y):TyG s n y:=by
  obtain⟨ad,cp,e⟩:=fY_ h.r;have m:¬ a.swp:=λq=>by have:=q.1;rw[h.k]at this;omega
  have hl:=t.left;rw[yag_ m]at hl;have d:=t.right;rw[yag_ m]at d;have v:a.tdyL=a.left:=by unfold Ax.tdyL;rw[h.k];rfl
  have er:a.tdyR=a.right:=by
    unfold Ax.tdyR;rw[h.k,yao_ (show (us 8).right=true from rfl),Con.tdy_self (by rw[e];simp[Con.kind]) (by rw[e];simp[Con.kind])]
  rw[v]at hl;rw[er]at d;exact⟨t.kind.trans h.k,hl.trans h.l,d.trans h.r,t.roles.trans h.rs,t.role.trans h.ro,t.a.trans h.a,t.b.trans h.b⟩
theorem TyG.chk (h:TyG s n a) (g:TyG s n y):a.check=y.check:=by
  obtain⟨o,E,F,B,A,C,c3,rfl⟩:=h.form;obtain⟨o',d,e,m,x,q,v,rfl⟩:=g.form;rfl
theorem TyG.goal (h:TyG s n a) (d:a.check=0):a.goalP=(cM_ (-1) [bp_ s,n] [],[⟨1,bp_ s,n,[],0,0⟩],0):=by
  have k:=h.k;obtain⟨o,x,A,m,e,v,c3,rfl⟩:=h.form;unfold Ax.goalP;rw[yag_ (λq=>q d),yag_ zaL_,yag_ zaL_,yag_ zaL_,yag_ zaL_,yao_ rfl];rfl
end
end Go.Proofs.YtbffkokbdeppaaaGreatDoor
namespace Go.Proofs.YtbffkokbdeppaaaGreatDoor
open Go Go.Sx Go.Proofs Tryz
attribute [local irreducible] Code.wp wpList wpAnyH
open Go.Vs
theorem der_in {p:List Pc} {A:List Str} {y:Fc} (h:Der p A y):y.a∈A:=h.least (T:=λy=>y.a∈A) λz d=>by
  cases d with
  | r1 h=>exact h
  | r2 h=>exact h
  | r10 hx hk h=>exact h
  | r3 hx hk h=>exact h
  | r4 hx hk h h'=>exact h
  | r5 hx hk h=>exact h
  | r6 hx hk h=>exact h
  | r7 hx hk h h'=>exact h
  | r8 hx hk h h'=>exact h
  | r9 h h'=>exact h
  | r11 hx hk h=>exact h
  | r12 h h' hm hl=>exact h
  | r13 h h' hm hl=>exact h
  | r14 hx hk h h1 h2=>exact h
theorem sJ_ {S:List Str} {x:Pc} (h:x∈kk_ S):x.kind=1/\x.c=[42]:=by
  unfold kk_ at h;obtain⟨s,_,rfl⟩:=yap_.1 h;exact⟨rfl,rfl⟩
theorem vE_ {p:List Pc} {S A:List Str} {y:Fc} (h:Der (p++kk_ S) A y):Der p A y:=h.least (T:=λy=>Der p A y) λz d=>by
 have k:∀ {x:Pc},x∈p++kk_ S->x.kind≠1->x∈p:=fun {x} hx hn=>(yah_.1 hx).elim id λq=>absurd (sJ_ q).1 hn
 refine Der.step ?_;cases d with
 | r1 h=>exact .r1 h
 | r2 h=>exact .r2 h
 | r10 hx hk h=>exact .r10 (k hx zaa_) hk h
 | r3 hx hk h =>
   rcases yah_.1 hx with q|q
   . exact .r3 q hk h
   . rw[(sJ_ q).2];exact .r2 (der_in h)
 | r4 hx hk h h'=>exact .r4 (k hx zaa_) hk h h'
 | r5 hx hk h=>exact .r5 (k hx zaa_) hk h
 | r6 hx hk h=>exact .r6 (k hx zaa_) hk h
 | r7 hx hk h h'=>exact .r7 (k hx zaa_) hk h h'
 | r8 hx hk h h'=>exact .r8 (k hx zaa_) hk h h'
 | r9 h h'=>exact .r9 h h'
 | r11 hx hk h=>exact .r11 (k hx zaa_) hk h
 | r12 h h' hm hl=>exact .r12 h h' trivial hl
 | r13 h h' hm hl=>exact .r13 h h' trivial hl
 | r14 hx hk h h1 h2=>exact .r14 (k hx zaa_) hk h h1 h2
def sig (A:List Str) (a:Str):Str:=if a∈A then a else [42]
theorem fE_ {A:List Str} {a:Str} (h:a∈A):sig A a=a:=yao_ h
theorem tS_ {A:List Str} (h:[42]∈A) (a:Str):sig A a∈A:=by
 unfold sig;split
 .assumption
 exact h
def qM_ (A:List Str) (y:Fc):Fc:=⟨y.kind,sig A y.a,if y.kind=3 then y.b else sig A y.b,y.r,y.lo,y.hi⟩
theorem BK_ {p:List Pc} {A B:List Str} (d:[42]∈A) (q:[33]∈A) (v:∀ x∈p,∀ s,(s=x.a\/s=x.b\/s=x.c)->s∈A\/s=[]) (C:∀ x∈p,(x.kind≠5/\x.kind≠6/\x.kind≠7/\x.kind≠9->x.a≠[])/\(x.kind=2->x.b≠[])/\(x.kind=1\/x.kind=2\/x.kind=3\/x.kind=4\/x.kind=9->x.c≠[])) {y:Fc} (h:Der p B y):Der p A (qM_ A y):=h.least (T:=λy=>Der p A (qM_ A y)) λz F=>by
  have e:∀ {x:Pc},x∈p->x.kind≠5/\x.kind≠6/\x.kind≠7/\x.kind≠9->sig A x.a=x.a:=fun {x} hx hk=>fE_ ((v x hx _ (.inl rfl)).resolve_right ((C x hx).1 hk))
  have E:∀ {x:Pc},x∈p->x.kind=2->sig A x.b=x.b:=fun {x} hx hk=>fE_ ((v x hx _ (.inr (.inl rfl))).resolve_right ((C x hx).2.1 hk))
  have m:∀ {x:Pc},x∈p->(x.kind=1\/x.kind=2\/x.kind=3\/x.kind=4\/x.kind=9)->sig A x.c=x.c:=fun {x} hx hk=>fE_ ((v x hx _ (.inr (.inr rfl))).resolve_right ((C x hx).2.2 hk))
  have fs:∀ a b:Str,qM_ A (X_ a b)=X_ (sig A a) (sig A b):=λa b=>rfl
  have fl:∀ a r b:Str,qM_ A (ae_ a r b)=ae_ (sig A a) r (sig A b):=λa r b=>rfl
  refine Der.step ?_;cases F with
  | r1 h=>exact .r1 (tS_ d _)
  | r2 h=>rw[fs,fE_ d];exact .r2 (tS_ d _)
  | r10 hx hk h=>exact .r10 hx hk (tS_ d _)
  | r3 hx hk h=>rw[fs,e hx zaa_]at h;rw[fs,m hx zaa_];exact .r3 hx hk h
  | r4 hx hk h h'=>rw[fs,e hx zaa_]at h;rw[fs,E hx zaa_]at h';rw[fs,m hx zaa_];exact .r4 hx hk h h'
  | r5 hx hk h=>rw[fs,e hx zaa_]at h;rw[fl,m hx zaa_];exact .r5 hx hk h
  | r6 hx hk h=>exact .r6 hx hk h
  | r7 hx hk h h'=>exact .r7 hx hk h h'
  | r8 hx hk h h'=>rw[fs,e hx zaa_]at h';rw[fs,m hx zaa_];exact .r8 hx hk h h'
  | r9 h h'=>rw[fs,fE_ q]at h' ⊢;exact .r9 h h'
  | r11 hx hk h=>rw[fs,e hx zaa_]at h;exact .r11 hx hk h
  | r12 h h' hm hl=>exact .r12 h h' trivial hl
  | r13 h h' hm hl=>rw[fs,fE_ q];exact .r13 h h' trivial hl
  | r14 hx hk h h1 h2=>rw[fs,m hx zaa_];exact .r14 hx hk h h1 h2
end Go.Proofs.YtbffkokbdeppaaaGreatDoor
namespace Go.Vs
open Go Go.Sx
inductive RchS (nx:Str->List Str) (I:List Str):Str->Prop
  | zero {s:Str}:s∈I->RchS nx I s
  | step {s t:Str}:RchS nx I s->t∈nx s->RchS nx I t
theorem RchS.mem {nx:Str->List Str} {I T:List Str} (d:∀ s,∀ t∈nx s,t∈T) {t:Str} (h:RchS nx I t):t∈I++T:=by
  cases h with
  | zero h=>exact yam_ _ h
  | step _ h=>exact yaA_ _ (d _ _ h)
structure CI (nx:Str->List Str) (I K W:List Str):Prop where
  r0:∀ s∈I,s∈K
  sub:∀ s∈W,s∈K
  rch:∀ s∈K,RchS nx I s
  cls:∀ s∈K,s ∉ W->∀ t∈nx s,t∈K
structure CJ (nx:Str->List Str) (I:List Str) (k:Str) (j:Nat) (K W:List Str):Prop where
  r0:∀ s∈I,s∈K
  sub:∀ s∈W,s∈K
  rch:∀ s∈K,RchS nx I s
  hk:k∈K
  cls:∀ s∈K,s ∉ W->s≠k->∀ t∈nx s,t∈K
  dn:∀ t∈(nx k).take j,t∈K
theorem CI.init {nx:Str->List Str} {I K:List Str} (h:∀ n,n∈K↔n∈I):CI nx I K I :=
  ⟨λs d=>(h s).2 d,λs d=>(h s).2 d,λs d=>.zero ((h s).1 d),λs d e=>absurd ((h s).1 d) e⟩
theorem CI.pop {nx:Str->List Str} {I K W:List Str} {k:Str} (h:CI nx I K (k::W)):CJ nx I k 0 K W :=
  ⟨h.r0,λs d=>h.sub s (yaE_ _ d),h.rch,h.sub k yav_,λs d e hk=>h.cls s d (by simp[e,hk]),by simp⟩
theorem CJ.skip {nx:Str->List Str} {I K W:List Str} {k t:Str} {j:Nat} (h:CJ nx I k j K W) (m:(nx k)[j]? = some t) (e:t∈K):CJ nx I k (j+1) K W :=
 ⟨h.r0,h.sub,h.rch,h.hk,h.cls,λz d=>by
   rw[tk1 m,yah_,yai_]at d;rcases d with d|rfl
   . exact h.dn z d
   . exact e⟩
theorem CJ.take {nx:Str->List Str} {I K W y:List Str} {k t:Str} {j:Nat} (h:CJ nx I k j K W) (x:(nx k)[j]? = some t) (m:∀ n,n∈y↔n∈K\/n=t):CJ nx I k (j+1) y (W++[t]) :=
  ⟨λs d=>(m s).2 (.inl (h.r0 s d)),λs d=>(m s).2 (by rw[yah_,yai_]at d;exact d.imp (h.sub s) id),λs d=>(m s).1 d |>.elim (h.rch s) (λe=>e▸(h.rch k h.hk).step (yad_ x)),(m k).2 (.inl h.hk),
   λs d v hk z q=>by
    simp only[yah_,yai_,ydH_]at v;exact (m z).2 (.inl (h.cls s (((m s).1 d).resolve_right v.2) v.1 hk z q)),
   λz q=>by
    rw[tk1 x,yah_,yai_]at q;exact (m z).2 (q.imp (h.dn z) id)⟩
theorem CJ.done {nx:Str->List Str} {I K W:List Str} {k:Str} {j:Nat} (h:CJ nx I k j K W) (m:(nx k).length<=j):CI nx I K W :=
 ⟨h.r0,h.sub,h.rch,λs q v t d=>by
   by_cases e:s=k
   . exact h.dn t (by rw[yab_ m];exact e▸d)
   . exact h.cls s q v e t d⟩
theorem CI.fine {nx:Str->List Str} {I K:List Str} (h:CI nx I K []) (t:Str):t∈K↔RchS nx I t :=
  ⟨h.rch t,λq=>by
    induction q with
    | zero hs=>exact h.r0 _ hs
    | step _ hm ih=>exact h.cls _ ih zaj_ _ hm⟩
theorem kK_ {nx:Str->List Str} {I T K:List Str} (d:∀ s,∀ t∈nx s,t∈T) (q:K.Nodup) (h:∀ s∈K,RchS nx I s):K.length<=I.length+T.length:=by
  have:=da_ q (m:=I++T) λs e=>(h s e).mem d
  rwa [yaf_]at this
theorem iK_ {L:List (Str×Str)} {r:Str} {K:List Str} (e:K.Nodup) (h:∀ s∈K,RchS (lat L) [r] s):K.length<=L.length+1:=by
  have:=kK_ (T:=L.map (·.2)) (λs t d=>yap_.2 ⟨_,cb_.1 d,rfl⟩) e h;simp only[yal_,yaL_,yaF_]at this;omega
def ih_ (l:List Ax):List (Str×Str):=l.flatMap λx=>if x.kind=5 then [(x.roles.headD [],x.role)] else []
theorem qB_ {l:List Ax} {i:Nat} {x:Ax} (h:l[i]? = some x):ih_ (l.take (i+1))=ih_ (l.take i)++if x.kind=5 then [(x.roles.headD [],x.role)] else []:=by
  unfold ih_;rw[yaz_,h,yaY_];simp
theorem lm_ (l:List Ax):(ih_ l).length<=l.length:=by
  induction l with
  | nil=>simp[ih_]
  | cons x l ih =>
    unfold ih_ at ih ⊢;rw[yaG_,yaf_,yal_]
    split<;>simp only[yal_,yaL_]<;>omega
def AbvR (l:List Ax) (r:Str) (X:List Str):Prop:=SrS X/\∀ t,t∈X↔RchS (lat (ih_ l)) [r] t
end Go.Vs
namespace Go.Sx
open Go
theorem rP_ {P:Program} {N:Nf} {fr:Fr} {H F:Hp} {Γ:List Fct} {ty:TypeId} {e:TypeId} {sz n:Nat} {sv:Value} {xs:List Value} {Hr:Hp} {x:Operand} {t:TypeId} {k:Nat} {u:Value} (d:ORow e sz sv n xs Hr) (v:H.Perm (Hr++F)) (y:∀ w,(isAgg t).run P w=.ok false w)
    (q:Fr.ev fr x=some (.pointer (some ⟨svB sv,svO sv+k,none⟩))) (m:xs[k]? = some u):Yld P N fr H Γ (.load t x) ty u:=by
  cases d with
  | row h =>
    refine cw_ h v y ?_ m;rcases h.2 with⟨rfl,A,_⟩|⟨g,cap,cur,rfl,_⟩
    . rw[q];simp[svO]
    . rw[q];simp[svO]
  | @cut g k0 n cap pre xs Hr hp' h =>
    refine cw_ (k:=k0*sz+k) h v y (by rw[q];rfl) ?_;rw[ybh_ zaa_,hp',show k0*sz+k - k0*sz=k by omega];exact m
  | out=>simp at m
end Go.Sx
namespace Go.Proofs.YtbffkokbdeppaaaGreatDoor
open Go Go.Sx Go.Proofs Tryz
attribute [local irreducible] Code.wp wpList wpAnyH
open Go.Vs
theorem qJ_ {s:StM} {k:Str} (h:k ∉ s.ks):(s.add k).ks=s.ks++[k]:=by unfold StM.add;rw[dif_neg h]
theorem xk_ (r:Str) (sb:Nat) (L:List (Str×Str)) (adr:Str->Ao×Nat) (hL:L.length<=100000):Tri prog 238 #[str r,.map (some sb)] [] [mlF prog 9 str al_ sb L adr] (λy:{y:Nat×StM // ∀ t,t∈y.2.ks↔RchS (lat L) [r] t}=>.map (some y.1.1)) (λy=>[(y.1.1,.map y.1.2.es y.1.2.c)]) (λ_=>[]):=by
 refine i_ func238 rfl rfl ntmps238 rfl λv_1=>?_;refine Zz 7 ?_;refine bf_ rfl λG=>Zz 1 ?_
 refine dN_ 0 StM.nil bD_ (.inl rfl) Q_ rfl rfl rfl rfl (Zz 8 ?_);refine O_ o_ G_ ax_ rfl rfl rfl rfl rfl rfl λI=>Zz 4 ?_
 have T:ORow 9 1 (.slice (some ⟨I,0,none⟩) 1 1) (List.length [r]) (List.flatMap al_ [r]) [(I,.cells #[str r] 9 (0,0))]:=ORow.row (at_.lit rfl (by simp[maxLen]));refine A_ (c_ d_) ?_;refine H_ (ι:={y:StM×List Str×Value×Hp // CI (lat L) [r] y.1.ks y.2.1/\ORow 9 1 y.2.2.1 y.2.1.length (y.2.1.flatMap al_) y.2.2.2/\y.2.1.length<=List.length y.1.ks}) (λy=>[(1,.map (some sb)),(4,.map none),(5,.map (some G)),(6,y.1.2.2.1)]) (λy=>((G,.map y.1.1.es y.1.1.c)::y.1.2.2.2)) (λy=>[mlF prog 9 str al_ sb L adr]) (λy=>(List.length L+1) - y.1.1.ks.length+y.1.2.1.length) ⟨((StM.add StM.nil r),[r],(.slice (some ⟨I,0,none⟩) 1 1),[(I,.cells #[str r] 9 (0,0))]),CI.init λn=>by rw[StM.mem];simp[StM.nil],T,by dsimp only;rw[qJ_ (by simp[StM.nil])];simp[StM.nil]⟩ zl zp zh ?_;rintro ⟨⟨s,W,svW,HW⟩,hC,S,O⟩;dsimp only at hC S O ⊢;have hsl:=iK_ s.hE.nd hC.rch;refine Zz 4 ?_;refine e_ (rO_ S o_ rfl) rfl ?_;refine Zi 0 (λa0=>?_) λa0=>?_
 .refine Zz 12 ?_
  obtain rfl:W=[]:=yau_ zaa_;exact ab_ results238 ⟨(G,s),λt=>hC.fine t⟩ rfl d_ zt
 obtain⟨k,W,rfl⟩:∃ k N,W=k::N:=by cases W with|nil=>simp at*| cons k N=>exact⟨k,N,rfl⟩
 refine Zz 9 ?_;refine e_ (uU_ S o_ G_ rfl rfl zae_ zba_) rfl ?_;refine e_ (rP_ (k:=(0:Int).toNat*1) S B_ ad_ rfl rfl) rfl (Zz 6 ?_);refine sD_ (i:=1) (kl:=.i64) S o_ G_ rfl rfl zba_ rfl λK U=>?_;have X:ORow 9 1 K W.length (W.flatMap al_) HW:=by simpa [al_] using U
 have V:=hC.pop;have hlk:=dv_ L k;refine Zz 7 ?_;refine e_ (bM_ (k:=k) (adr:=adr) bD_ bE_ bw_ rfl rfl zf) rfl (Zz 5 ?_);refine H_ (ι:={y:Nat×StM×List Str×Value×Hp // y.1<=List.length (lat L k)/\CJ (lat L) [r] k y.1 y.2.1.ks y.2.2.1/\ORow 9 1 y.2.2.2.1 y.2.2.1.length (y.2.2.1.flatMap al_) y.2.2.2.2/\y.2.1.ks.length+W.length=s.ks.length+List.length y.2.2.1}) (λy=>[(1,.map (some sb)),(4,.map none),(5,.map (some G)),(6,y.1.2.2.2.1),(25,.slice (adr k).1 (lat L k).length (adr k).2),(26,iv_ (List.length (lat L k):Int)),(27,iv_ y.1.1)]) (λy=>((G,.map y.1.2.1.es y.1.2.1.c)::y.1.2.2.2.2)) (λy=>[mlF prog 9 str al_ sb L adr]) (λy=>List.length (lat L k) - y.1.1) ⟨((0:Nat),s,W,K,HW),by simp,V,X,rfl⟩ zl zp zh ?_;rintro ⟨⟨j,e,E,F,M⟩,Y,P,C,R⟩;dsimp only at Y P C R ⊢;have hsl_1:=iK_ e.hE.nd P.rch;have hwk_1:W.length+1<=s.ks.length:=by simpa using O
 refine Zi 2 (λa1=>?_) λa1=>?_
 .refine Zz 6 ?_
  exact u_ ⟨(e,E,F,M),P.done zaa_,C,by dsimp only;simp only[yal_]at O;omega⟩ (by dsimp only;have:=iK_ e.hE.nd P.rch;simp only[yal_]at *;omega) zl (l_ d_ T_) zh
 have A:j<List.length (lat L k):=by omega
 obtain⟨x,B⟩:∃ e_1,(lat L k)[j]? = some e_1:=⟨_,yaa_ A⟩;refine Zz 10 ?_;refine e_ (Z_ o_ G_ rfl rfl (λv _ h=>aA_ (n:=1) au_ zae_ (by exact (ba_ h.1 k)) B) zaa_ zai_) rfl ?_;refine e_ (bA_ (ad:=(adr k).1) ad_ rfl (λv _ h=>by exact (ba_ h.1 k)) (w_ au_ B 0 _ rfl)) rfl (Zz 7 ?_);refine E_ (ao_ (bH_ (k:=x) (q:=e.ks) bD_ Q_ aG_ rfl rfl e.hE (λv h _=>(h.own _ (yad_ (i:=0) rfl)).1)) (show _=Value.bool (decide (x∈e.ks)) from yae_ Value.bool (ybm_.2 ycU_))) rfl λr_1 d=>e_ (as_ rfl) rfl (Zz 2 ?_)
 cases r_1
 .replace d:=zdf d
  refine Zz 5 ?_;refine dN_ 0 e bD_ (.inr rfl) Q_ rfl rfl rfl rfl (Zz 5 ?_);refine O_ o_ G_ ax_ rfl rfl rfl rfl rfl rfl λb_3=>?_;refine bC_ (List.flatMap al_ [x]) d_ rfl ?_;refine mJ_ (n:=E.length) (m:=List.length [x]) (news:=List.flatMap al_ [x]) cH_ C rfl rfl zaj_ zaj_ B_ rfl zf (λu hu=>az_ cm_ hu) zbP_ zat_ rfl λH J Q=>?_;have Z:ORow 9 1 H (E++[x]).length (List.flatMap al_ (E++[x])) J:=by rw[yaf_,yaY_];exact Q
  refine Zz 3 ?_;refine A_ (bc_ aU_) (Zz 5 ?_);exact u_ ⟨(j+1,(StM.add e x),(E++[x]),H,J),A,P.take B λn=>StM.mem,Z,(by rw[qJ_ zbA_,yaf_,yaf_];simp only[yal_,yaL_];omega)⟩ zab_ zl zp (λ_ _ h=>h.2)
 replace d:=zdt d;refine Zz 8 ?_;exact u_ ⟨(j+1,e,E,F,M),A,P.skip B zbA_,C,R⟩ zab_ zl zp zh
theorem uH_ (m:List Ax) (lad:Ao) (lcap:Nat) (G:∀ x∈m,x.ok) (I:∀ x∈m,x.check=0) (J:m.length<=20) (nm:List Str) (rad:Ao) (rcap:Nat) (B:∀ q∈nm,aV_ q=true/\q.length<=140737488351232) (K:nm.length<=100):Tri prog 237 #[.slice lad m.length lcap,.slice rad nm.length rcap] [] [cG_ lad m,bN_,ac_ rad (nm.flatMap al_)] (λ_:Unit=>iv_ 0) (λ_=>[]) (λ_=>[]):=by
 refine i_ func237 rfl rfl ntmps237 rfl λH=>?_;refine Zz 9 ?_;refine f_ (pL_ m lad lcap G I zaa_) rfl g_ zf rfl λ_=>Zz 6 ?_
 refine e_ (ao_ (cg_ rfl rfl) (show _=Value.bool false from yae_ Value.bool zae_)) rfl (Zz 14 ?_);refine H_ (ι:={y:Nat // y<=List.length nm}) (λy=>[(4,iv_ 0),(14,.slice rad nm.length rcap),(15,iv_ (List.length nm:Int)),(16,iv_ y.1)]) (λy=>([])) (λy=>[cG_ lad m,bN_,ac_ rad (nm.flatMap al_)]) (λy=>nm.length - y.1) ⟨(0:Nat),by simp⟩ zl g_ zh ?_;rintro ⟨i,E⟩;dsimp only at E ⊢;refine Zi 2 (λC=>?_) λC=>?_
 .refine Zz 12 ?_
  exact ab_ results237 () rfl g_ zt
 have e:i<nm.length:=by omega
 obtain⟨v,A⟩:∃ F,nm[i]? = some F:=⟨_,yaa_ e⟩;have d:v∈nm:=yad_ A;refine Zz 18 ?_;refine f_ (gJ_ _ (B v d).2) rfl g_ zt rfl λ_=>Zi 6 (λh=>?_) λh=>?_
 .refine Zz 10 ?_
  exact u_ ⟨i+1,e⟩ zab_ zl g_ zh
 exfalso;rw[yao_ (B v d).1]at h;exact h rfl
theorem Bv_ {l:List Str} {r:Str} (h:l[0]? = some r):l.headD []=r:=by
  cases l with
  | nil=>simp at h
  | cons a l=>simpa using h
theorem mz_ {G:Prop} (h:G:=by
 refine Zz 3 ?_;refine p_ 15 rfl zk (hG_ (k:=B) (dd:=d.role) bD_ F (by rw[ea_];exact J) (.inr rfl) bE_ rfl rfl rfl (dY_ (l_ (j_ (c_ d_)) (F_ z_ (c_ B_)))) λN I=>?_);refine Zz 5 ?_;refine A_ (Y_ (j_ d_) (bc_ aU_)) (Zz 5 ?_);exact u_ ⟨(i+1,N),E,(by rw[qB_ G,yao_ K,Bv_ m];exact I)⟩ zab_ zl zp zh):G:=h
theorem Ch_ (A:List Ax) (lad:Ao) (lcap:Nat) (hok:∀ x∈A,x.ok) (hC:∀ x∈A,x.check=0) (hll:A.length<=20) (r:Str) (hr:aV_ r=true) (hrl:r.length<=140737488351232):Tri prog 152 #[.slice lad A.length lcap,str r] [] [cG_ lad A,bN_] (λy:{y:List Str×Ao×Nat // AbvR A r y.1/\rkS y}=>.tuple #[.slice y.1.2.1 y.1.1.length y.1.2.2,iv_ 0]) (λ_=>[]) (λy=>[ac_ y.1.2.1 (y.1.1.flatMap al_)]):=by
 refine i_ func152 rfl rfl ntmps152 rfl λv_1=>?_;refine Zz 11 ?_;refine O_ o_ G_ ax_ rfl rfl rfl rfl rfl rfl λT=>?_;refine bC_ (List.flatMap al_ [r]) d_ rfl ?_;refine f_ (uH_ A lad lcap hok hC hll [r] (some ⟨T,0,none⟩) 1 (λq hq=>by rw[yai_.1 hq];exact⟨hr,hrl⟩) zaj_) rfl g_ zf rfl λ_=>?_;refine Zz 6 ?_;refine e_ (ao_ (cg_ rfl rfl) (show _=Value.bool false from yae_ Value.bool zae_)) rfl (Zz 7 ?_);refine bf_ rfl λL=>Zz 12 ?_
 refine H_ (ι:={y:Nat×Hp // y.1<=List.length A/\cU_ str al_ 9 1 (ih_ (A.take y.1)) L y.2}) (λy=>[(1,str r),(4,.slice none 0 0),(5,iv_ 0),(7,.map (some L)),(18,.slice lad A.length lcap),(19,iv_ (List.length A:Int)),(20,iv_ y.1.1)]) (λy=>(y.1.2)) (λy=>[ac_ (some ⟨T,0,none⟩) (List.flatMap al_ [r]),cG_ lad A,bN_]) (λy=>A.length - y.1.1) ⟨((0:Nat),[(L,.map #[] 0)]),by simp,cU_.nil _ _⟩ zl T_ zh ?_;rintro ⟨⟨i,HM⟩,X,P⟩;dsimp only at X P ⊢;refine Zi 2 (λH=>?_) λH=>?_
 .refine Zz 7 ?_
  rw[yab_ zaa_]at P;refine os_ bD_ P T_ λadr=>?_;have hbl:=lm_ A;refine Zz 3 ?_;refine f_ (xk_ r L (ih_ A) adr (by have:=lm_ A;omega)) rfl g_ zf rfl λ⟨⟨cb,cs⟩,O⟩=>?_;dsimp only;dsimp only at O;refine f_ (jq_ cb) rfl g_ zt rfl λby_=>?_;have W:cs.ks.length<=100000000:=by have:=iK_ cs.hE.nd (λs hs=>(O s).1 hs);omega
  refine f_ (fe_ 193 [zp_ by_ 0] [(by_,.cells #[.map (some cb)] 151 (0,0)),(cb,.map cs.es cs.c)] cs.ks cs.hE.nd W (jr_ cb by_ cs.c cs.es cs.ks cs.hE.ke cs.hB W)) rfl zp zt rfl λ⟨⟨Q,Y⟩,V,S,Z⟩=>?_;dsimp only;refine Zz 5 ?_;exact fP_ results152 ⟨(bb_ cs.ks,Q,Y),⟨gX_ cs.hE.nd,λt=>by rw[ybc_];exact O t⟩,V,S,Z⟩ rfl rfl rfl g_ zf
 obtain⟨E,d,G,e⟩:=zge (show i<A.length by omega);refine Zz 12 ?_;refine x_ aJ_ rfl λb_3=>n_ 0 L_ rfl rfl rfl rfl rfl rfl (Zi 6 (λC=>?_) λC=>?_)
 .refine Zz 10 ?_
  exact u_ ⟨(i+1,HM),E,(by rw[qB_ G,yag_ C,yaw_];exact P)⟩ zab_ zl B_ zh
 have K:=C;have hon:=(Ax.good_of (hC d e)).one K;obtain⟨B,m⟩:∃ B,d.roles[0]? = some B:=⟨_,yaa_ zaa_⟩;refine Zz 3 ?_;have a1:=(show (lat (ih_ (A.take i)) B).length<=400000000 from ybg_ (dv_ _ _) (by have:=lm_ (A.take i);have:=ybX_ i A;omega));refine nl_ bD_ B P B_ λes_1 ce_1 ve_1 Hk_1 Hx_1 M F=>?_;refine A_ (Y_ d_ (bc_ (j_ aU_))) ?_;refine ak_ ((b_3,.cells (Ax.cells d).toArray 30 (0,0))::[]) zk ?_;refine D_ 4 [0,1,2,3,4,5,6,7,8,9,11,12] zk zs (Zz 3 ?_);refine M_ rfl (Z_ o_ G_ rfl rfl (λv _ h=>aA_ (n:=1) au_ zae_ (by exact (h.2.1.2 d e).2.2) m) zaa_ zai_) rfl ?_;refine M_ rfl (bA_ (ad:=d.ad) ad_ rfl (λv _ h=>by exact (h.2.1.2 d e).2.2) (w_ au_ m 0 _ rfl)) rfl (Zz 3 ?_);refine M_ rfl (Z_ o_ G_ rfl rfl (λv _ h=>aA_ (n:=1) au_ zae_ (by exact (h.2.1.2 d e).2.2) m) zaa_ zai_) rfl ?_;refine M_ rfl (bA_ (ad:=d.ad) ad_ rfl (λv _ h=>by exact (h.2.1.2 d e).2.2) (w_ au_ m 0 _ rfl)) rfl (Zz 3 ?_);refine gL_ 10 13 rfl rfl zk ?_ ?_
 .refine e_ (eC_ (k:=B) bD_ F bE_ bw_ rfl rfl 0 rfl) rfl (Zz 3 ?_)
  refine p_ 13 rfl zk (O_ o_ G_ ax_ rfl rfl rfl rfl rfl rfl λa0=>Zz 3 ?_);refine p_ 14 rfl zk (aj_ (news:=List.flatMap al_ [d.role]) cH_ M rfl rfl zp rfl (aL_ 0 rfl) (λu hu=>az_ cm_ hu) zad_ zaf_ rfl λR U H=>?_);have J:=zsa H;exact mz_
 refine O_ o_ G_ ax_ rfl rfl rfl rfl rfl rfl λa0=>Zz 3 ?_
 refine p_ 10 rfl zk (e_ (eC_ (k:=B) bD_ F bE_ bw_ rfl rfl 1 rfl) rfl (Zz 3 ?_));refine p_ 14 rfl zk (aj_ (news:=List.flatMap al_ [d.role]) cH_ M rfl rfl zp rfl (aL_ 0 rfl) (λu hu=>az_ cm_ hu) zad_ zaf_ rfl λR U C=>?_);have J:=zsa C;exact mz_
end Go.Proofs.YtbffkokbdeppaaaGreatDoor
