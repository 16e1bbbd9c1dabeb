/-
  Part of the proof of the law ProofToolsSpec over this seat: the small logic, the data, the contracts of functions (no condition).
-/
import Derived.Test.YtkeanlfhghlgiaaGreatDoorQProofToolsSpec10
import Derived.Test.YtkeanlfhghlgiaaGreatDoorQProofToolsSpec3
set_option linter.unusedVariables false
set_option linter.unusedSimpArgs false
set_option linter.unusedSectionVars false
set_option maxHeartbeats 1000000
namespace Go.Proofs.YtkeanlfhghlgiaaGreatDoor
open Go Go.Sx Go.Proofs
attribute [local irreducible] Code.wp wpList wpAnyH
open Go.Vs
theorem rs_ {b c:Nat×Obj} {h r m H F:Hp} (q:H.Perm ((b::c::(h++(r++m)))++F)):H.Perm ((b::c::(h++(r++m)))++F):=q
theorem rS_ {K:Type} {a b:List (K×Int)} {l:List Stp} {key:Stp→K} {Q:Stp→Prop} (e:a=b) (h:Lgs a l key Q):Lgs b l key Q:=e▸h
theorem ts_ (B:PB) (p:List Pc) (A:List Str) (x:Jx) (hv:∀ z∈p,z.vok) (n:Nat) (f:Fc) (l:List Stp) (y:PSt) (hS:y.ok l) (hE:Eng p A l) (hB:∀ l,Eng p A l→l.length≤65536) (s:Stp) (hs:l[n]? = some s) (hff:s.fact=f) (hX:(x.add s n).of (l.take (n+1))) (hxl:x.len n) (hk:f.kind=3) (hn:n<65536) (Hr Hm:Hp) (hr:aS_ aU_ N_ 3 1 x.ranges B.rb Hr) (hm:aS_ aU_ N_ 3 1 x.firms B.sb Hm):Tri Tryz.prog 70 #[zp_ B.g 0,Fc.val f,.int .i64 (n:Int)] ((B.g,.cells #[.slice B.pad (List.length p) B.pcap,.map (some B.pb),y.sv,.map (some B.kb),.map (some B.ab),.map (some B.ub),.map (some B.ob),.map (some B.ib),.map (some B.rb),.map (some B.sb)] 105 (0,0))::(B.kb,.map y.es y.c)::(y.h++(Hr++Hm))) [af_ B.pad (List.flatMap Pc.cells p),ax_ l] (fun _:{y:List Stp×PSt×Hp×Hp // y.2.1.ok y.1∧Eng p A y.1∧l <+: y.1∧qA_ (x.add s n) (s.rule=11) f l y.1∧aS_ aU_ N_ 3 1 (x.add s n).ranges B.rb y.2.2.1∧aS_ aU_ N_ 3 1 (x.add s n).firms B.sb y.2.2.2}=>.tuple #[]) (fun y=>(B.g,.cells #[.slice B.pad (List.length p) B.pcap,.map (some B.pb),y.1.2.1.sv,.map (some B.kb),.map (some B.ab),.map (some B.ub),.map (some B.ob),.map (some B.ib),.map (some B.rb),.map (some B.sb)] 105 (0,0))::(B.kb,.map y.1.2.1.es y.1.2.1.c)::(y.1.2.1.h++(y.1.2.2.1++y.1.2.2.2))) (fun y=>[ax_ y.1.1]):=by
 refine w_ Tryz.func70 rfl rfl Tryz.ntmps70 rfl fun v0=>?_
 have hfl:f∈fcs l:=hff▸List.mem_map_of_mem (List.mem_of_getElem? hs)
 have hls:n<List.length l:=(List.getElem?_eq_some_iff.1 hs).1
 have hkk:s.fact.kind=3:=hff▸hk
 have hAt:At l n (T_ f.a f.r f.lo f.hi):=hff▸iu_ hE hv hs hkk
 have eR:(x.add s n).ranges=x.ranges++[((f.a,f.r),(n:Int))]:=by unfold Jx.add;rw[if_neg (by omega),if_neg (by omega),if_pos hkk,hff]
 have eFt:s.rule=11→(x.add s n).firms=x.firms++[((f.a,f.r),(n:Int))]:=fun q=>by unfold Jx.add;rw[if_neg (by omega),if_neg (by omega),if_pos hkk,hff];simp[q]
 have eF:¬ s.rule=11→(x.add s n).firms=x.firms:=fun q=>by unfold Jx.add;rw[if_neg (by omega),if_neg (by omega),if_pos hkk];simp[q]
 have hRg:=rS_ eR hX.ranges
 have hx:(x.add s n).of (l.take (n+1)):=hX
 refine Zz 2 ?_
 refine as_ rfl rfl fun b1=>Zz 8 ?_
 refine i_ (H_ gE_ rfl rfl) rfl (J_ gX_ rfl fun b2=>z_ 0 kb_ rfl rfl rfl rfl rfl rfl (Zz 3 ?_))
 refine ae_ ((b2,.cells #[str f.a,str f.r] 114 (0,0))::((b1,.cells #[.int .i64 f.kind,str f.a,str f.b,str f.r,.int .i64 f.lo,.int .i64 f.hi] 24 (0,0))::((B.g,.cells #[.slice B.pad (List.length p) B.pcap,.map (some B.pb),y.sv,.map (some B.kb),.map (some B.ab),.map (some B.ub),.map (some B.ob),.map (some B.ib),.map (some B.rb),.map (some B.sb)] 105 (0,0))::((B.kb,.map y.es y.c)::[])))) zk ?_
 refine s_ 6 [0,1,2,3,4,5] zk zs (Zz 7 ?_)
 refine j_ 6 rfl zk (S_ f_ o_ A_ rfl rfl rfl rfl rfl rfl fun b3=>Zz 3 ?_)
 refine j_ 7 rfl zk ?_
 have hbb1:=Nat.le_trans (bc_ x.ranges (f.a,f.r)) (show (x.ranges).length≤100000000 from by have q1:=hxl.ranges;have q2:=hxl.firms;first|omega|(simp only[List.length_append,List.length_singleton];omega))
 refine bH_ (k:=(f.a,f.r)) ca_ hr aO_ Z_ rfl rfl (c_ (c_ (c_ (c_ (c_ (e_ l_)))))) rfl fun es1 ce1 ie1 se1 ve1 Hk1 Hx1 ho1 hw1=>Zz 2 ?_
 refine K_ (fun _ a b=>⟨Vw.sat.sub (a.perm (g_ (c_ (e_ (e_ (c_ d_)))) (g_ (c_ (e_ (e_ (c_ d_)))) (g_ (c_ (e_ (e_ (c_ d_)))) (c_ (e_ (e_ (c_ d_)))))))),b⟩) (s_ 2 [8,10] zk (fun _ a b=>⟨Vw.sat.sub (a.perm (g_ (c_ (e_ (e_ (c_ d_)))) (g_ (c_ (e_ (e_ (c_ d_)))) (g_ (c_ (e_ (e_ (c_ d_)))) (c_ (e_ (e_ (c_ d_)))))))),b⟩) (Zz 3 ?_))
 refine j_ 9 rfl zk (ao_ (news:=List.flatMap N_ [(n:Int)]) bP_ hw1 rfl rfl zp rfl (bG_ zp) (fun u hu=>ar_ bp_ hu) (by simp only[maxLen];omega) (by omega) rfl fun sv1 Hr1 hr1=>?_)
 have hq1:=zsa hr1
 refine Zz 2 ?_
 refine K_ (fun _ a b=>⟨Vw.sat.sub (a.perm (g_ (e_ (c_ (e_ (c_ d_)))) (g_ (e_ (c_ (e_ (c_ d_)))) (g_ (e_ (c_ (e_ (c_ d_)))) (e_ (c_ (e_ (c_ d_)))))))),b⟩) (j_ 11 rfl zk (aG_ (k:=(f.a,f.r)) (dd:=(n:Int)) ho1 (by rw[bg_];exact hq1) rfl rfl rfl (aW_ (g_ (e_ d_) (p_ l_ l_))) fun H2 hM2=>?_))
 refine Zz 5 ?_
 refine u_ (q_ (e_ d_) (q_ (e_ d_) (q_ (e_ d_) (q_ (e_ d_) (ak_ (e_ d_)))))) (cg_ ?_)
 have hbb3:=Nat.le_trans (bc_ x.firms (Fc.a f,Fc.r f)) (show (x.firms).length≤100000000 from by have q1:=hxl.ranges;have q2:=hxl.firms;first|omega|(simp only[List.length_append,List.length_singleton];omega))
 refine kp_ ca_ (Fc.a f,Fc.r f) hm (c_ (c_ (c_ (c_ (c_ (e_ V_)))))) fun es3 ce3 ve3 Hk3 Hx3 hw3 ho3 hcl3=>?_
 refine u_ (q_ d_ (q_ (e_ (e_ d_)) (q_ (e_ (e_ d_)) (q_ (e_ (e_ d_)) (q_ (e_ (e_ d_)) (ak_ (e_ (e_ d_)))))))) (Zz 1 ?_)
 refine s_ 2 [0,1,2,3,4] zk zs (Zz 6 ?_)
 refine j_ 5 rfl zk (i_ (cN_ (k:=(Fc.a f,Fc.r f)) ca_ ho3 aO_ Z_ rfl rfl 0 rfl) rfl (Zz 3 ?_))
 refine s_ 0 [6] zk zs (Zz 12 ?_)
 refine i_ (ah_ hS.1 P_ ap_ rfl rfl (by omega) (by omega)) rfl (Zz 1 ?_)
 refine i_ (av_ hS.1 zp O_ rfl (t_ Stp.cells_len hs 0 _ rfl)) rfl ?_
 refine Zi 0 (fun hr1=>?_) fun hr1=>?_
 ·have hr11:¬ s.rule=11:=hr1;have hFm:=rS_ (eF hr11) hX.firms
  refine Zz 8 ?_
  refine i_ (ch_ hw3 f_ rfl) rfl (Zz 4 ?_)
  refine Q_ (ι:={y:Nat×List Stp×PSt // y.1≤List.length (lat x.firms (Fc.a f,Fc.r f))∧y.2.2.ok y.2.1∧Eng p A y.2.1∧l <+: y.2.1∧fD_ l (lat x.firms (Fc.a f,Fc.r f)) y.1 (fun u=>(min f.hi (Fc.hi u.fact)<max f.lo (Fc.lo u.fact)→C_ f.a [33]∈fcs y.2.1)∧(max f.lo (Fc.lo u.fact)≤min f.hi (Fc.hi u.fact)→cT_ f u.fact∈fcs y.2.1))}) (fun y=>[(0,zp_ B.g 0),(2,.int .i64 (n:Int)),(4,zp_ b1 0),(62,ve3),(63,.int .i64 (List.length (lat x.firms (Fc.a f,Fc.r f)):Int)),(64,.int .i64 (y.1.1:Int))]) (fun y=>((B.g,.cells #[.slice B.pad (List.length p) B.pcap,.map (some B.pb),y.1.2.2.sv,.map (some B.kb),.map (some B.ab),.map (some B.ub),.map (some B.ob),.map (some B.ib),.map (some B.rb),.map (some B.sb)] 105 (0,0))::((B.kb,.map y.1.2.2.es y.1.2.2.c)::((B.sb,.map es3 ce3)::((b1,.cells #[.int .i64 f.kind,str f.a,str f.b,str f.r,.int .i64 f.lo,.int .i64 f.hi] 24 (0,0))::(Hk3++(Hx3++(H2++y.1.2.2.h)))))))) (fun y=>[ax_ y.1.2.1,af_ B.pad (List.flatMap Pc.cells p)]) (fun y=>List.length (lat x.firms (Fc.a f,Fc.r f)) - y.1.1) ⟨((0:Nat),l,y),by simp,by exact hS,by exact hE,List.prefix_refl _,fD_.zero⟩ zl zp zf ?_
  rintro ⟨⟨i,l_i,y_i⟩,hi_i,hS_i,hE_i,hp_i,hu_i⟩
  dsimp only at hi_i hS_i hE_i hp_i hu_i ⊢
  have hb_i:=hbb3
  refine Zi 2 (fun hr2=>?_) fun hr2=>?_
  ·refine Zz 6 ?_
   refine iS_ hcl3 (aW_ (g_ (c_ (c_ d_)) (p_ (c_ (c_ (c_ l_))) (c_ (c_ (c_ l_)))))) ?_
   refine u_ (q_ (e_ d_) (q_ (e_ d_) (ak_ (e_ d_)))) ?_
   exact end0 Tryz.results70 ⟨(l_i,y_i,H2,Hm),hS_i,hE_i,((List.prefix_refl l).trans hp_i),(by unfold qA_;rw[if_neg hr11,eF hr11];exact hu_i.done (by omega)),(by rw[eR];exact hM2),(by rw[eF hr11];exact hm)⟩ rfl (rs_ (g_ d_ (g_ d_ (p_ (c_ (e_ V_)) (p_ (c_ V_) F_))))) zf
  obtain⟨hlx1,x1,hx1,hmx1⟩:=zge (show i<List.length (lat x.firms (Fc.a f,Fc.r f)) by omega)
  obtain⟨k_x1,s_x1,e_x1,hj_x1,hQ_x1,hk_x1⟩:=(hFm _ _).1 (bb_.1 hmx1)
  subst e_x1
  have hg_x1:l[k_x1]? = some s_x1:=dG_ hj_x1
  have hc_x1:l_i[k_x1]? = some s_x1:=dR_ ((List.prefix_refl l).trans hp_i) hg_x1
  have hlc_x1:k_x1<List.length l_i:=(List.getElem?_eq_some_iff.1 hc_x1).1
  dsimp only at hk_x1 hQ_x1
  refine Zz 10 ?_
  refine i_ (ah_ hw3 f_ o_ rfl rfl (by omega) (by omega)) rfl (i_ (av_ hw3 zp O_ rfl (t_ D_ hx1 0 _ rfl)) rfl (Zz 10 ?_))
  refine i_ (ah_ hS_i.1 P_ ap_ rfl rfl (by omega) (by omega)) rfl (Zz 1 ?_)
  refine i_ (fZ_ (us:=Fc.cells s_x1.fact) hS_i.1 zp aX_ B_ rfl rfl (by decide) (ep_ 1 (t_ Stp.cells_len hc_x1) s_x1.fact_cells)) rfl (J_ aa_ rfl fun b4=>z_ 0 B_ rfl rfl rfl rfl rfl rfl (Zz 4 ?_))
  refine s_ 0 [0,1,2,3,4,5,6,7,8,9,10,11] zk zs (Zz 4 ?_)
  refine R_ rfl (cC_ rfl rfl) rfl (Zz 4 ?_)
  refine R_ rfl (dg_ rfl rfl) rfl (Zi 9 (fun hr3=>?_) fun hr3=>?_)
  ·refine Zz 11 ?_
   refine n_ (jB_ f.a f.r (max f.lo (Fc.lo s_x1.fact)) (min f.hi (Fc.hi s_x1.fact))) rfl m_ zt rfl fun _=>J_ aa_ rfl fun b5=>z_ 0 B_ rfl rfl rfl rfl rfl rfl (Zz 6 ?_)
   refine aQ_ (dw_ (p:=(T_ f.a f.r (max f.lo (Fc.lo s_x1.fact)) (min f.hi (Fc.hi s_x1.fact)))) (q:=f) rfl rfl) rfl fun r4 hr4=>Zz 1 ?_
   cases r4
   ·replace hr4:=zdf hr4
    refine Zz 14 ?_
    exact y_ ⟨(i+1,l_i,y_i),hlx1,hS_i,hE_i,(hp_i.trans (List.prefix_refl l_i)),(hu_i.step (fun x hx=>⟨fun q1=>ai_ (List.prefix_refl l_i) (hx.1 q1),fun q1=>ai_ (List.prefix_refl l_i) (hx.2 q1)⟩) hx1 hg_x1 (by refine⟨fun q=>by omega,fun _=>?_⟩;show (T_ f.a f.r (max f.lo (Fc.lo s_x1.fact)) (min f.hi (Fc.hi s_x1.fact)))∈fcs l_i;rw[Decidable.not_not.1 hr4];exact ai_ ((List.prefix_refl l).trans hp_i) hfl))⟩ (by dsimp only;omega) zl (g_ (c_ (c_ d_)) (g_ (c_ (c_ d_)) (g_ (c_ (c_ d_)) (g_ (c_ (c_ d_)) (p_ (c_ (c_ l_)) (p_ (c_ (c_ l_)) (p_ (c_ (c_ l_)) (c_ F_)))))))) zh
   replace hr4:=zdt hr4
   refine Zz 5 ?_
   refine aQ_ (dw_ (p:=(T_ f.a f.r (max f.lo (Fc.lo s_x1.fact)) (min f.hi (Fc.hi s_x1.fact)))) (q:=s_x1.fact) rfl rfl) rfl fun r5 hr5=>Zz 3 ?_
   cases r5
   ·replace hr5:=zdf hr5
    refine Zz 8 ?_
    exact y_ ⟨(i+1,l_i,y_i),hlx1,hS_i,hE_i,(hp_i.trans (List.prefix_refl l_i)),(hu_i.step (fun x hx=>⟨fun q1=>ai_ (List.prefix_refl l_i) (hx.1 q1),fun q1=>ai_ (List.prefix_refl l_i) (hx.2 q1)⟩) hx1 hg_x1 (by refine⟨fun q=>by omega,fun _=>?_⟩;show (T_ f.a f.r (max f.lo (Fc.lo s_x1.fact)) (min f.hi (Fc.hi s_x1.fact)))∈fcs l_i;rw[Decidable.not_not.1 hr5];exact At.mem ⟨s_x1,hc_x1,rfl⟩))⟩ (by dsimp only;omega) zl (g_ (c_ (c_ d_)) (g_ (c_ (c_ d_)) (g_ (c_ (c_ d_)) (g_ (c_ (c_ d_)) (p_ (c_ (c_ l_)) (p_ (c_ (c_ l_)) (p_ (c_ (c_ l_)) (c_ F_)))))))) zh
   replace hr5:=zdt hr5
   refine Zz 6 ?_
   refine S_ f_ o_ A_ rfl rfl rfl rfl rfl rfl fun b6=>?_
   refine aB_ (List.flatMap N_ [(n:Int),(k_x1:Int)]) d_ rfl ?_
   refine n_ (cb_ B p 12 (-1) (T_ f.a f.r (max f.lo (Fc.lo s_x1.fact)) (min f.hi (Fc.hi s_x1.fact))) (some ⟨b6,0,none⟩) 2 [(n:Int),(k_x1:Int)] l_i y_i.sv y_i.es y_i.c y_i.h hS_i.1 hS_i.2 (Nat.le_trans (hB _ hE_i) (by decide))) rfl (g_ (c_ (c_ d_)) (g_ (c_ (c_ d_)) (c_ (c_ (c_ (c_ (e_ (e_ V_)))))))) zf rfl fun⟨⟨l1,y1⟩,hl1,hy1⟩=>?_
   dsimp only
   simp only[PSt.own,List.cons_append]
   have hE1:Eng p A l1:=bD_ hl1 hE_i (up_ hE_i hv (hAt.pre ((List.prefix_refl l).trans hp_i)) hc_x1 hQ_x1.1 hk_x1 (by omega)) (show (12:Int)≤14 from by decide)
   have hq1:l_i <+: l1:=bB_ hl1
   have hm1:=bC_ hl1;dsimp only at hm1
   refine Zz 2 ?_
   refine u_ (q_ d_ (q_ d_ (q_ (e_ d_) (q_ (e_ d_) (q_ (e_ d_) (ak_ (e_ d_))))))) (Zz 5 ?_)
   exact y_ ⟨(i+1,l1,y1),hlx1,hy1,hE1,(hp_i.trans ((List.prefix_refl l_i).trans hq1)),(hu_i.step (fun x hx=>⟨fun q1=>ai_ ((List.prefix_refl l_i).trans hq1) (hx.1 q1),fun q1=>ai_ ((List.prefix_refl l_i).trans hq1) (hx.2 q1)⟩) hx1 hg_x1 (by exact⟨fun q=>by omega,fun _=>hm1⟩))⟩ (by dsimp only;omega) zl zp zf
  refine Zz 7 ?_
  refine n_ (cZ_ f.a [33]) rfl m_ zt rfl fun _=>Zz 2 ?_
  refine S_ f_ o_ A_ rfl rfl rfl rfl rfl rfl fun b7=>?_
  refine aB_ (List.flatMap N_ [(n:Int),(k_x1:Int)]) d_ rfl ?_
  refine n_ (cb_ B p 13 (-1) (C_ f.a [33]) (some ⟨b7,0,none⟩) 2 [(n:Int),(k_x1:Int)] l_i y_i.sv y_i.es y_i.c y_i.h hS_i.1 hS_i.2 (Nat.le_trans (hB _ hE_i) (by decide))) rfl (g_ (c_ d_) (g_ (c_ d_) (c_ (c_ (c_ (e_ (e_ V_))))))) zf rfl fun⟨⟨l2,y2⟩,hl2,hy2⟩=>?_
  dsimp only
  simp only[PSt.own,List.cons_append]
  have hE2:Eng p A l2:=bD_ hl2 hE_i (uo_ hE_i hv (hAt.pre ((List.prefix_refl l).trans hp_i)) hc_x1 hQ_x1.1 hk_x1 (by omega)) (show (13:Int)≤14 from by decide)
  have hq2:l_i <+: l2:=bB_ hl2
  have hm2:=bC_ hl2;dsimp only at hm2
  refine Zz 2 ?_
  refine u_ (q_ d_ (q_ d_ (q_ (e_ d_) (q_ (e_ d_) (ak_ (e_ d_)))))) (Zz 5 ?_)
  exact y_ ⟨(i+1,l2,y2),hlx1,hy2,hE2,(hp_i.trans ((List.prefix_refl l_i).trans hq2)),(hu_i.step (fun x hx=>⟨fun q1=>ai_ ((List.prefix_refl l_i).trans hq2) (hx.1 q1),fun q1=>ai_ ((List.prefix_refl l_i).trans hq2) (hx.2 q1)⟩) hx1 hg_x1 (by exact⟨fun _=>hm2,fun q=>by omega⟩))⟩ (by dsimp only;omega) zl zp zf
 have hr11:s.rule=11:=hr1
 refine Zz 4 ?_
 refine iS_ hcl3 (aW_ (g_ d_ (p_ (c_ (c_ (c_ (c_ (c_ l_))))) (c_ (c_ (c_ (c_ (c_ l_)))))))) ?_
 refine u_ (q_ (e_ d_) (q_ (e_ d_) (q_ (e_ d_) (q_ (e_ d_) (ak_ (e_ d_)))))) ?_
 refine ae_ ((b3,.cells #[.int .i64 (n:Int)] 3 (0,0))::((b2,.cells #[str f.a,str f.r] 114 (0,0))::((b1,.cells #[.int .i64 f.kind,str f.a,str f.b,str f.r,.int .i64 f.lo,.int .i64 f.hi] 24 (0,0))::((B.g,.cells #[.slice B.pad (List.length p) B.pcap,.map (some B.pb),y.sv,.map (some B.kb),.map (some B.ab),.map (some B.ub),.map (some B.ob),.map (some B.ib),.map (some B.rb),.map (some B.sb)] 105 (0,0))::((B.kb,.map y.es y.c)::[]))))) zk ?_
 refine s_ 6 [0,1,2,3,4,5] zk zs (Zz 7 ?_)
 refine j_ 6 rfl zk (S_ f_ o_ A_ rfl rfl rfl rfl rfl rfl fun b8=>Zz 3 ?_)
 refine j_ 7 rfl zk ?_
 have hbb4:=Nat.le_trans (bc_ x.firms (f.a,f.r)) (show (x.firms).length≤100000000 from by have q1:=hxl.ranges;have q2:=hxl.firms;first|omega|(simp only[List.length_append,List.length_singleton];omega))
 refine bH_ (k:=(f.a,f.r)) ca_ hm aO_ Z_ rfl rfl zp rfl fun es4 ce4 ie4 se4 ve4 Hk4 Hx4 ho4 hw4=>Zz 2 ?_
 refine K_ zs (s_ 2 [8,10] zk zs (Zz 3 ?_))
 refine j_ 9 rfl zk (ao_ (news:=List.flatMap N_ [(n:Int)]) bP_ hw4 rfl rfl zp rfl (bG_ zp) (fun u hu=>ar_ bp_ hu) (by simp only[maxLen];omega) (by omega) rfl fun sv2 Hr2 hr2=>?_)
 have hq2:=zsa hr2
 refine Zz 2 ?_
 refine K_ zs (j_ 11 rfl zk (aG_ (k:=(f.a,f.r)) (dd:=(n:Int)) ho4 (by rw[bg_];exact hq2) rfl rfl rfl (aW_ (g_ (e_ d_) (p_ l_ l_))) fun H5 hM5=>?_))
 refine Zz 2 ?_
 refine K_ zs (Zz 2 ?_)
 refine u_ (q_ (e_ d_) (q_ (e_ d_) (q_ (e_ d_) (q_ (e_ d_) (q_ (e_ d_) (ak_ (e_ d_))))))) ?_
 have hbb6:=Nat.le_trans (bc_ (x.ranges++[((f.a,f.r),(n:Int))]) (Fc.a f,Fc.r f)) (show ((x.ranges++[((f.a,f.r),(n:Int))])).length≤100000000 from by have q1:=hxl.ranges;have q2:=hxl.firms;first|omega|(simp only[List.length_append,List.length_singleton];omega))
 refine kp_ ca_ (Fc.a f,Fc.r f) hM2 (c_ (c_ (c_ (c_ (c_ (c_ (e_ l_))))))) fun es6 ce6 ve6 Hk6 Hx6 hw6 ho6 hcl6=>?_
 refine u_ (q_ d_ (q_ (e_ (e_ d_)) (q_ (e_ (e_ d_)) (q_ (e_ (e_ d_)) (q_ (e_ (e_ d_)) (q_ (e_ (e_ d_)) (ak_ (e_ (e_ d_))))))))) (Zz 1 ?_)
 refine s_ 2 [0,1,2,3,4] zk zs (Zz 6 ?_)
 refine j_ 5 rfl zk (i_ (cN_ (k:=(Fc.a f,Fc.r f)) ca_ ho6 aO_ Z_ rfl rfl 0 rfl) rfl (Zz 3 ?_))
 refine s_ 0 [6] zk zs (Zz 7 ?_)
 refine i_ (ch_ hw6 f_ rfl) rfl (Zz 4 ?_)
 refine Q_ (ι:={y:Nat×List Stp×PSt // y.1≤List.length (lat (x.ranges++[((f.a,f.r),(n:Int))]) (Fc.a f,Fc.r f))∧y.2.2.ok y.2.1∧Eng p A y.2.1∧l <+: y.2.1∧fD_ l (lat (x.ranges++[((f.a,f.r),(n:Int))]) (Fc.a f,Fc.r f)) y.1 (fun u=>(min f.hi (Fc.hi u.fact)<max f.lo (Fc.lo u.fact)→C_ f.a [33]∈fcs y.2.1)∧(max f.lo (Fc.lo u.fact)≤min f.hi (Fc.hi u.fact)→cT_ f u.fact∈fcs y.2.1))}) (fun y=>[(0,zp_ B.g 0),(2,.int .i64 (n:Int)),(4,zp_ b1 0),(62,ve6),(63,.int .i64 (List.length (lat (x.ranges++[((f.a,f.r),(n:Int))]) (Fc.a f,Fc.r f)):Int)),(64,.int .i64 (y.1.1:Int))]) (fun y=>((B.g,.cells #[.slice B.pad (List.length p) B.pcap,.map (some B.pb),y.1.2.2.sv,.map (some B.kb),.map (some B.ab),.map (some B.ub),.map (some B.ob),.map (some B.ib),.map (some B.rb),.map (some B.sb)] 105 (0,0))::((B.kb,.map y.1.2.2.es y.1.2.2.c)::((B.rb,.map es6 ce6)::((b1,.cells #[.int .i64 f.kind,str f.a,str f.b,str f.r,.int .i64 f.lo,.int .i64 f.hi] 24 (0,0))::(Hk6++(Hx6++(H5++y.1.2.2.h)))))))) (fun y=>[ax_ y.1.2.1,af_ B.pad (List.flatMap Pc.cells p)]) (fun y=>List.length (lat (x.ranges++[((f.a,f.r),(n:Int))]) (Fc.a f,Fc.r f)) - y.1.1) ⟨((0:Nat),l,y),by simp,by exact hS,by exact hE,List.prefix_refl _,fD_.zero⟩ zl zp zf ?_
 rintro ⟨⟨i,l_i,y_i⟩,hi_i,hS_i,hE_i,hp_i,hu_i⟩
 dsimp only at hi_i hS_i hE_i hp_i hu_i ⊢
 have hb_i:=hbb6
 refine Zi 2 (fun hr6=>?_) fun hr6=>?_
 ·refine Zz 6 ?_
  refine iS_ hcl6 (aW_ (g_ (c_ (c_ d_)) (p_ (c_ (c_ (c_ l_))) (c_ (c_ (c_ l_)))))) ?_
  refine u_ (q_ (e_ d_) (q_ (e_ d_) (ak_ (e_ d_)))) ?_
  exact end0 Tryz.results70 ⟨(l_i,y_i,H2,H5),hS_i,hE_i,((List.prefix_refl l).trans hp_i),(by unfold qA_;rw[if_pos hr11,eR];exact hu_i.done (by omega)),(by rw[eR];exact hM2),(by rw[eFt hr11];exact hM5)⟩ rfl (rs_ (g_ d_ (g_ d_ (p_ (c_ (e_ V_)) (p_ (c_ l_) F_))))) zf
 obtain⟨hlx1,x1,hx1,hmx1⟩:=zge (show i<List.length (lat (x.ranges++[((f.a,f.r),(n:Int))]) (Fc.a f,Fc.r f)) by omega)
 obtain⟨k_x1,s_x1,e_x1,hj_x1,hQ_x1,hk_x1⟩:=(hRg _ _).1 (bb_.1 hmx1)
 subst e_x1
 have hg_x1:l[k_x1]? = some s_x1:=dG_ hj_x1
 have hc_x1:l_i[k_x1]? = some s_x1:=dR_ ((List.prefix_refl l).trans hp_i) hg_x1
 have hlc_x1:k_x1<List.length l_i:=(List.getElem?_eq_some_iff.1 hc_x1).1
 dsimp only at hk_x1 hQ_x1
 refine Zz 10 ?_
 refine i_ (ah_ hw6 f_ o_ rfl rfl (by omega) (by omega)) rfl (i_ (av_ hw6 zp O_ rfl (t_ D_ hx1 0 _ rfl)) rfl (Zz 10 ?_))
 refine i_ (ah_ hS_i.1 P_ ap_ rfl rfl (by omega) (by omega)) rfl (Zz 1 ?_)
 refine i_ (fZ_ (us:=Fc.cells s_x1.fact) hS_i.1 zp aX_ B_ rfl rfl (by decide) (ep_ 1 (t_ Stp.cells_len hc_x1) s_x1.fact_cells)) rfl (J_ aa_ rfl fun b9=>z_ 0 B_ rfl rfl rfl rfl rfl rfl (Zz 4 ?_))
 refine s_ 0 [0,1,2,3,4,5,6,7,8,9,10,11] zk zs (Zz 4 ?_)
 refine R_ rfl (cC_ rfl rfl) rfl (Zz 4 ?_)
 refine R_ rfl (dg_ rfl rfl) rfl (Zi 9 (fun hr7=>?_) fun hr7=>?_)
 ·refine Zz 11 ?_
  refine n_ (jB_ f.a f.r (max f.lo (Fc.lo s_x1.fact)) (min f.hi (Fc.hi s_x1.fact))) rfl m_ zt rfl fun _=>J_ aa_ rfl fun b10=>z_ 0 B_ rfl rfl rfl rfl rfl rfl (Zz 6 ?_)
  refine aQ_ (dw_ (p:=(T_ f.a f.r (max f.lo (Fc.lo s_x1.fact)) (min f.hi (Fc.hi s_x1.fact)))) (q:=f) rfl rfl) rfl fun r8 hr8=>Zz 1 ?_
  cases r8
  ·replace hr8:=zdf hr8
   refine Zz 14 ?_
   exact y_ ⟨(i+1,l_i,y_i),hlx1,hS_i,hE_i,(hp_i.trans (List.prefix_refl l_i)),(hu_i.step (fun x hx=>⟨fun q1=>ai_ (List.prefix_refl l_i) (hx.1 q1),fun q1=>ai_ (List.prefix_refl l_i) (hx.2 q1)⟩) hx1 hg_x1 (by refine⟨fun q=>by omega,fun _=>?_⟩;show (T_ f.a f.r (max f.lo (Fc.lo s_x1.fact)) (min f.hi (Fc.hi s_x1.fact)))∈fcs l_i;rw[Decidable.not_not.1 hr8];exact ai_ ((List.prefix_refl l).trans hp_i) hfl))⟩ (by dsimp only;omega) zl (g_ (c_ (c_ d_)) (g_ (c_ (c_ d_)) (g_ (c_ (c_ d_)) (g_ (c_ (c_ d_)) (p_ (c_ (c_ l_)) (p_ (c_ (c_ l_)) (p_ (c_ (c_ l_)) (c_ F_)))))))) zh
  replace hr8:=zdt hr8
  refine Zz 5 ?_
  refine aQ_ (dw_ (p:=(T_ f.a f.r (max f.lo (Fc.lo s_x1.fact)) (min f.hi (Fc.hi s_x1.fact)))) (q:=s_x1.fact) rfl rfl) rfl fun r9 hr9=>Zz 3 ?_
  cases r9
  ·replace hr9:=zdf hr9
   refine Zz 8 ?_
   exact y_ ⟨(i+1,l_i,y_i),hlx1,hS_i,hE_i,(hp_i.trans (List.prefix_refl l_i)),(hu_i.step (fun x hx=>⟨fun q1=>ai_ (List.prefix_refl l_i) (hx.1 q1),fun q1=>ai_ (List.prefix_refl l_i) (hx.2 q1)⟩) hx1 hg_x1 (by refine⟨fun q=>by omega,fun _=>?_⟩;show (T_ f.a f.r (max f.lo (Fc.lo s_x1.fact)) (min f.hi (Fc.hi s_x1.fact)))∈fcs l_i;rw[Decidable.not_not.1 hr9];exact At.mem ⟨s_x1,hc_x1,rfl⟩))⟩ (by dsimp only;omega) zl (g_ (c_ (c_ d_)) (g_ (c_ (c_ d_)) (g_ (c_ (c_ d_)) (g_ (c_ (c_ d_)) (p_ (c_ (c_ l_)) (p_ (c_ (c_ l_)) (p_ (c_ (c_ l_)) (c_ F_)))))))) zh
  replace hr9:=zdt hr9
  refine Zz 6 ?_
  refine S_ f_ o_ A_ rfl rfl rfl rfl rfl rfl fun b11=>?_
  refine aB_ (List.flatMap N_ [(n:Int),(k_x1:Int)]) d_ rfl ?_
  refine n_ (cb_ B p 12 (-1) (T_ f.a f.r (max f.lo (Fc.lo s_x1.fact)) (min f.hi (Fc.hi s_x1.fact))) (some ⟨b11,0,none⟩) 2 [(n:Int),(k_x1:Int)] l_i y_i.sv y_i.es y_i.c y_i.h hS_i.1 hS_i.2 (Nat.le_trans (hB _ hE_i) (by decide))) rfl (g_ (c_ (c_ d_)) (g_ (c_ (c_ d_)) (c_ (c_ (c_ (c_ (e_ (e_ V_)))))))) zf rfl fun⟨⟨l3,y3⟩,hl3,hy3⟩=>?_
  dsimp only
  simp only[PSt.own,List.cons_append]
  have hE3:Eng p A l3:=bD_ hl3 hE_i (up_ hE_i hv (hAt.pre ((List.prefix_refl l).trans hp_i)) hc_x1 hQ_x1 hk_x1 (by omega)) (show (12:Int)≤14 from by decide)
  have hq3:l_i <+: l3:=bB_ hl3
  have hm3:=bC_ hl3;dsimp only at hm3
  refine Zz 2 ?_
  refine u_ (q_ d_ (q_ d_ (q_ (e_ d_) (q_ (e_ d_) (q_ (e_ d_) (ak_ (e_ d_))))))) (Zz 5 ?_)
  exact y_ ⟨(i+1,l3,y3),hlx1,hy3,hE3,(hp_i.trans ((List.prefix_refl l_i).trans hq3)),(hu_i.step (fun x hx=>⟨fun q1=>ai_ ((List.prefix_refl l_i).trans hq3) (hx.1 q1),fun q1=>ai_ ((List.prefix_refl l_i).trans hq3) (hx.2 q1)⟩) hx1 hg_x1 (by exact⟨fun q=>by omega,fun _=>hm3⟩))⟩ (by dsimp only;omega) zl zp zf
 refine Zz 7 ?_
 refine n_ (cZ_ f.a [33]) rfl m_ zt rfl fun _=>Zz 2 ?_
 refine S_ f_ o_ A_ rfl rfl rfl rfl rfl rfl fun b12=>?_
 refine aB_ (List.flatMap N_ [(n:Int),(k_x1:Int)]) d_ rfl ?_
 refine n_ (cb_ B p 13 (-1) (C_ f.a [33]) (some ⟨b12,0,none⟩) 2 [(n:Int),(k_x1:Int)] l_i y_i.sv y_i.es y_i.c y_i.h hS_i.1 hS_i.2 (Nat.le_trans (hB _ hE_i) (by decide))) rfl (g_ (c_ d_) (g_ (c_ d_) (c_ (c_ (c_ (e_ (e_ V_))))))) zf rfl fun⟨⟨l4,y4⟩,hl4,hy4⟩=>?_
 dsimp only
 simp only[PSt.own,List.cons_append]
 have hE4:Eng p A l4:=bD_ hl4 hE_i (uo_ hE_i hv (hAt.pre ((List.prefix_refl l).trans hp_i)) hc_x1 hQ_x1 hk_x1 (by omega)) (show (13:Int)≤14 from by decide)
 have hq4:l_i <+: l4:=bB_ hl4
 have hm4:=bC_ hl4;dsimp only at hm4
 refine Zz 2 ?_
 refine u_ (q_ d_ (q_ d_ (q_ (e_ d_) (q_ (e_ d_) (ak_ (e_ d_)))))) (Zz 5 ?_)
 exact y_ ⟨(i+1,l4,y4),hlx1,hy4,hE4,(hp_i.trans ((List.prefix_refl l_i).trans hq4)),(hu_i.step (fun x hx=>⟨fun q1=>ai_ ((List.prefix_refl l_i).trans hq4) (hx.1 q1),fun q1=>ai_ ((List.prefix_refl l_i).trans hq4) (hx.2 q1)⟩) hx1 hg_x1 (by exact⟨fun _=>hm4,fun q=>by omega⟩))⟩ (by dsimp only;omega) zl zp zf
end Go.Proofs.YtkeanlfhghlgiaaGreatDoor
namespace Go.Proofs.YtkeanlfhghlgiaaGreatDoor
open Go Go.Sx Go.Proofs
attribute [local irreducible] Code.wp wpList wpAnyH
open Go.Vs
def JxO (B:PB) (x:Jx) (y:IxH):Prop:=aS_ str N_ 3 1 x.above B.ab y.a∧aS_ str N_ 3 1 x.under B.ub y.u∧aS_ aU_ N_ 3 1 x.frm B.ob y.o∧aS_ aU_ N_ 3 1 x.into B.ib y.i∧aS_ aU_ N_ 3 1 x.ranges B.rb y.r∧aS_ aU_ N_ 3 1 x.firms B.sb y.s
theorem ld_:dM_ Tryz.prog 67:=callable Tryz.func67 rfl rfl
theorem nt_ (B:PB) (p:List Pc) (A:List Str) (fm:List (Ky×Int)) (afm:Ky→Option Addr×Nat) (x:Jx) (hv:∀ z∈p,z.vok) (hfd:Fnd p fm) (hpl:p.length≤16384) (n n1:Nat) (f:Fc) (l:List Stp) (y:PSt) (hS:y.ok l) (hE:Eng p A l) (hB:∀ l,Eng p A l→l.length≤65536) (hx:x.of (l.take n1)) (hxl:x.len n1) (hn1:n1≤65536) (hform:f.form) (hn:n<65536) (Hi Hu:Hp) (hib:aS_ aU_ N_ 3 1 x.into B.ib Hi) (hub:aS_ str N_ 3 1 x.under B.ub Hu) (hk:f.kind=1) (hAt:At l n (C_ f.a f.b)):Tri Tryz.prog 67 #[zp_ B.g 0,f.val,.int .i64 (n:Int)] (Hi++(Hu++((y.own B p)))) [af_ B.pad (List.flatMap Pc.cells p),mlF Tryz.prog 111 Ky.val N_ B.pb fm afm,ax_ l] (fun _:{y:List Stp×PSt // y.2.ok y.1∧Eng p A y.1∧l <+: y.1∧Fre (fun b=>b∈List.map Prod.fst (Hi++Hu)) y.1∧RawA p fm x f l y.1}=>.tuple #[]) (fun y=>Hi++(Hu++(y.1.2.own B p))) (fun y=>[ax_ y.1.1]):=by
  obtain⟨aib,kib⟩:=hib.lent (P:=Tryz.prog) ca_
  obtain⟨aub,kub⟩:=hub.lent (P:=Tryz.prog) dV_
  have:=iN_ (Γ0:=[af_ B.pad (List.flatMap Pc.cells p),mlF Tryz.prog 111 Ky.val N_ B.pb fm afm,ax_ l]) (Hi++Hu) ld_ (fun hF=>nE_ B p A fm afm x (fun _=>(none,0)) aub (fun _=>(none,0)) aib (fun _=>(none,0)) (fun _=>(none,0)) hv hfd hpl n n1 f l y hS hE hB (fun b=>b∈List.map Prod.fst (Hi++Hu)) hF hx hxl hn1 hform hn hk hAt) (fun v h=>h.2.2.1) (fun v hB h=>⟨h.1,h.2.1,h.2.2.1,fun b hb=>by obtain⟨q,hq,rfl⟩:=List.mem_map.1 hb;exact (hB q hq).1,kib v fun q hq=>hB q (by simp[hq]),kub v fun q hq=>hB q (by simp[hq]),trivial⟩) fun x v h=>⟨iO_ x.2.2.2.2.1 h.1,trivial⟩
  simpa only[List.append_assoc] using this
theorem mC_:dM_ Tryz.prog 68:=callable Tryz.func68 rfl rfl
theorem iD_ (B:PB) (p:List Pc) (A:List Str) (fm:List (Ky×Int)) (afm:Ky→Option Addr×Nat) (x:Jx) (hv:∀ z∈p,z.vok) (hfd:Fnd p fm) (hpl:p.length≤16384) (n n1:Nat) (f:Fc) (l:List Stp) (y:PSt) (hS:y.ok l) (hE:Eng p A l) (hB:∀ l,Eng p A l→l.length≤65536) (hx:x.of (l.take n1)) (hxl:x.len n1) (hn1:n1≤65536) (hform:f.form) (hn:n<65536) (Ho Hi:Hp) (hob:aS_ aU_ N_ 3 1 x.frm B.ob Ho) (hib:aS_ aU_ N_ 3 1 x.into B.ib Hi) (hk:f.kind=2) (hfr:f.r≠[]) (hAt:At l n (I_ f.a f.r f.b)):Tri Tryz.prog 68 #[zp_ B.g 0,f.val,.int .i64 (n:Int)] (Ho++(Hi++((y.own B p)))) [af_ B.pad (List.flatMap Pc.cells p),mlF Tryz.prog 111 Ky.val N_ B.pb fm afm,ax_ l] (fun _:{y:List Stp×PSt // y.2.ok y.1∧Eng p A y.1∧l <+: y.1∧Fre (fun b=>b∈List.map Prod.fst (Ho++Hi)) y.1∧RawI p fm x f l y.1}=>.tuple #[]) (fun y=>Ho++(Hi++(y.1.2.own B p))) (fun y=>[ax_ y.1.1]):=by
  obtain⟨aob,kob⟩:=hob.lent (P:=Tryz.prog) ca_
  obtain⟨aib,kib⟩:=hib.lent (P:=Tryz.prog) ca_
  have:=iN_ (Γ0:=[af_ B.pad (List.flatMap Pc.cells p),mlF Tryz.prog 111 Ky.val N_ B.pb fm afm,ax_ l]) (Ho++Hi) mC_ (fun hF=>ox_ B p A fm afm x (fun _=>(none,0)) (fun _=>(none,0)) aob aib (fun _=>(none,0)) (fun _=>(none,0)) hv hfd hpl n n1 f l y hS hE hB (fun b=>b∈List.map Prod.fst (Ho++Hi)) hF hx hxl hn1 hform hn hk hfr hAt) (fun v h=>h.2.2.1) (fun v hB h=>⟨h.1,h.2.1,h.2.2.1,fun b hb=>by obtain⟨q,hq,rfl⟩:=List.mem_map.1 hb;exact (hB q hq).1,kob v fun q hq=>hB q (by simp[hq]),kib v fun q hq=>hB q (by simp[hq]),trivial⟩) fun x v h=>⟨iO_ x.2.2.2.2.1 h.1,trivial⟩
  simpa only[List.append_assoc] using this
theorem lc_:dM_ Tryz.prog 69:=callable Tryz.func69 rfl rfl
theorem iE_ (B:PB) (p:List Pc) (A:List Str) (fm:List (Ky×Int)) (afm:Ky→Option Addr×Nat) (x:Jx) (hv:∀ z∈p,z.vok) (hfd:Fnd p fm) (hpl:p.length≤16384) (n n1:Nat) (f:Fc) (l:List Stp) (y:PSt) (hS:y.ok l) (hE:Eng p A l) (hB:∀ l,Eng p A l→l.length≤65536) (hx:x.of (l.take n1)) (hxl:x.len n1) (hn1:n1≤65536) (hform:f.form) (hn:n<65536) (Ha:Hp) (hab:aS_ str N_ 3 1 x.above B.ab Ha) (hk:f.kind=2) (hfr:f.r≠[]) (hAt:At l n (I_ f.a f.r f.b)):Tri Tryz.prog 69 #[zp_ B.g 0,f.val,.int .i64 (n:Int)] (Ha++((y.own B p))) [af_ B.pad (List.flatMap Pc.cells p),mlF Tryz.prog 111 Ky.val N_ B.pb fm afm,ax_ l] (fun _:{y:List Stp×PSt // y.2.ok y.1∧Eng p A y.1∧l <+: y.1∧Fre (fun b=>b∈List.map Prod.fst (Ha)) y.1∧RawL p fm x f l y.1}=>.tuple #[]) (fun y=>Ha++(y.1.2.own B p)) (fun y=>[ax_ y.1.1]):=by
  obtain⟨aab,kab⟩:=hab.lent (P:=Tryz.prog) dV_
  have:=iN_ (Γ0:=[af_ B.pad (List.flatMap Pc.cells p),mlF Tryz.prog 111 Ky.val N_ B.pb fm afm,ax_ l]) (Ha) lc_ (fun hF=>nD_ B p A fm afm x aab (fun _=>(none,0)) (fun _=>(none,0)) (fun _=>(none,0)) (fun _=>(none,0)) (fun _=>(none,0)) hv hfd hpl n n1 f l y hS hE hB (fun b=>b∈List.map Prod.fst (Ha)) hF hx hxl hn1 hform hn hk hfr hAt) (fun v h=>h.2.2.1) (fun v hB h=>⟨h.1,h.2.1,h.2.2.1,fun b hb=>by obtain⟨q,hq,rfl⟩:=List.mem_map.1 hb;exact (hB q hq).1,kab v fun q hq=>hB q (by simp[hq]),trivial⟩) fun x v h=>⟨iO_ x.2.2.2.2.1 h.1,trivial⟩
  simpa only[List.append_assoc] using this
theorem lO_ {p:List Pc} {A:List Str} {l:List Stp} {n:Nat} {s t:Stp} (hE:Eng p A l) (hs:l[n]? = some s) (ht:t∈l) (e:t.fact=s.fact) (hr:t.rule=11):s.rule=11:=by
  obtain⟨j,hj⟩:=List.getElem?_of_mem ht
  have:=hE.at ⟨t,hj,e⟩ ⟨s,hs,rfl⟩
  subst this
  rw[hj]at hs;cases hs;exact hr
theorem qk_ (B:PB) (p:List Pc) (A:List Str) (aad:Option Addr) (acap:Nat) (fm:List (Ky×Int)) (afm:Ky→Option Addr×Nat) (hv:∀ z∈p,z.vok) (hfd:Fnd p fm) (hpl:p.length≤16384) (y:PSt) (hS:y.ok []) (hB:∀ l,Eng p A l→l.length≤65536) (hal:A.length≤100000000) (Ha Hu Ho Hi Hr Hm:Hp) (hja0:aS_ str N_ 3 1 Jx.nil.above B.ab Ha) (hju0:aS_ str N_ 3 1 Jx.nil.under B.ub Hu) (hjo0:aS_ aU_ N_ 3 1 Jx.nil.frm B.ob Ho) (hji0:aS_ aU_ N_ 3 1 Jx.nil.into B.ib Hi) (hjr0:aS_ aU_ N_ 3 1 Jx.nil.ranges B.rb Hr) (hjm0:aS_ aU_ N_ 3 1 Jx.nil.firms B.sb Hm):Tri Tryz.prog 33 #[zp_ B.g 0,.slice aad (List.length A) acap] ((B.g,.cells #[.slice B.pad (List.length p) B.pcap,.map (some B.pb),y.sv,.map (some B.kb),.map (some B.ab),.map (some B.ub),.map (some B.ob),.map (some B.ib),.map (some B.rb),.map (some B.sb)] 105 (0,0))::(B.kb,.map y.es y.c)::(y.h++(Ha++(Hu++(Ho++(Hi++(Hr++(Hm)))))))) [ax_ ([]:List Stp),af_ B.pad (List.flatMap Pc.cells p),mlF Tryz.prog 111 Ky.val N_ B.pb fm afm,af_ aad (List.flatMap aV_ A)] (fun _:{y:(List Stp×Jx)×PSt×IxH // y.2.1.ok y.1.1∧LoopP p A y.1.1.length y.1.1 y.1.2∧JxO B y.1.2 y.2.2}=>.tuple #[]) (fun y=>(B.g,.cells #[.slice B.pad (List.length p) B.pcap,.map (some B.pb),y.1.2.1.sv,.map (some B.kb),.map (some B.ab),.map (some B.ub),.map (some B.ob),.map (some B.ib),.map (some B.rb),.map (some B.sb)] 105 (0,0))::(B.kb,.map y.1.2.1.es y.1.2.1.c)::(y.1.2.1.h++(y.1.2.2.a++(y.1.2.2.u++(y.1.2.2.o++(y.1.2.2.i++(y.1.2.2.r++(y.1.2.2.s)))))))) (fun y=>[ax_ y.1.1.1]):=by
 refine w_ Tryz.func33 rfl rfl Tryz.ntmps33 rfl fun v0=>?_
 refine Zz 9 ?_
 refine Q_ (ι:={y:Nat×List Stp×PSt // y.1≤List.length A∧y.2.2.ok y.2.1∧Eng p A y.2.1∧([]:List Stp) <+: y.2.1∧AtI A y.1 (fun a=>AtQ p fm y.2.1 a)}) (fun y=>[(0,zp_ B.g 0),(12,.slice aad (List.length A) acap),(13,.int .i64 (List.length A:Int)),(14,.int .i64 (y.1.1:Int))]) (fun y=>((B.g,.cells #[.slice B.pad (List.length p) B.pcap,.map (some B.pb),y.1.2.2.sv,.map (some B.kb),.map (some B.ab),.map (some B.ub),.map (some B.ob),.map (some B.ib),.map (some B.rb),.map (some B.sb)] 105 (0,0))::((B.kb,.map y.1.2.2.es y.1.2.2.c)::(Ha++(Hu++(Ho++(Hi++(Hr++(Hm++y.1.2.2.h))))))))) (fun y=>[ax_ y.1.2.1,af_ B.pad (List.flatMap Pc.cells p),mlF Tryz.prog 111 Ky.val N_ B.pb fm afm,af_ aad (List.flatMap aV_ A)]) (fun y=>List.length A - y.1.1) ⟨((0:Nat),([]:List Stp),y),by simp,by exact hS,by exact (Eng.nil p A),List.prefix_refl _,(AtI.zero)⟩ zl zp zh ?_
 rintro ⟨⟨i,l_i,y_i⟩,hi_i,hS_i,hE_i,hp_i,hu_i⟩
 dsimp only at hi_i hS_i hE_i hp_i hu_i ⊢
 have hb_i:=hal
 refine Zi 2 (fun hr1=>?_) fun hr1=>?_
 ·refine Zz 12 ?_
  have hL0:=LoopP.start' hfd hE_i fun a ha=>hu_i.done (by omega) a ha
  refine Q_ (ι:={y:Nat×List Stp×Jx×PSt×IxH // y.2.2.2.1.ok y.2.1∧LoopP p A y.1 y.2.1 y.2.2.1∧JxO B y.2.2.1 y.2.2.2.2}) (fun y=>[(0,zp_ B.g 0),(8,.int .i64 (y.1.1:Int))]) (fun y=>((B.g,.cells #[.slice B.pad (List.length p) B.pcap,.map (some B.pb),y.1.2.2.2.1.sv,.map (some B.kb),.map (some B.ab),.map (some B.ub),.map (some B.ob),.map (some B.ib),.map (some B.rb),.map (some B.sb)] 105 (0,0))::((B.kb,.map y.1.2.2.2.1.es y.1.2.2.2.1.c)::(y.1.2.2.2.2.a++(y.1.2.2.2.2.u++(y.1.2.2.2.2.o++(y.1.2.2.2.2.i++(y.1.2.2.2.2.r++(y.1.2.2.2.2.s++y.1.2.2.2.1.h))))))))) (fun y=>[ax_ y.1.2.1,af_ B.pad (List.flatMap Pc.cells p),mlF Tryz.prog 111 Ky.val N_ B.pb fm afm]) (fun y=>65536 - y.1.1) ⟨((0:Nat),l_i,Jx.nil,y_i,(IxH.mk Ha Hu Ho Hi Hr Hm)),by exact hS_i,hL0,by exact⟨hja0,hju0,hjo0,hji0,hjr0,hjm0⟩⟩ zl zp zf ?_
  rintro ⟨⟨n,l_n,x_n,y_n,h_n⟩,hS_n,hL_n,hJ_n⟩
  dsimp only at hS_n hL_n hJ_n ⊢
  obtain⟨hja,hju,hjo,hji,hjr,hjm⟩:=hJ_n
  have hb_n:=hB _ hL_n.eng
  have hle_n:=hL_n.le
  refine Zz 8 ?_
  refine i_ (ch_ hS_n.1 P_ rfl) rfl ?_
  refine Zi 0 (fun hr2=>?_) fun hr2=>?_
  ·refine Zz 5 ?_
   have en:n=List.length l_n:=by omega
   subst en
   exact end0 Tryz.results33 ⟨((l_n,x_n),y_n,h_n),hS_n,hL_n,⟨hja,hju,hjo,hji,hjr,hjm⟩⟩ rfl zp zf
  have hls:n<List.length l_n:=by omega
  obtain⟨s,hs⟩:∃ e0,l_n[n]? = some e0:=⟨_,List.getElem?_eq_getElem hls⟩
  have hms:s∈l_n:=List.mem_of_getElem? hs
  have hfm:s.fact.form:=hL_n.eng.form hv hs
  have hX:=hL_n.addx hs
  have hls1:n+1≤List.length l_n:=hls
  have hn1:n+1≤65536:=by omega
  have hn0:n<65536:=by omega
  have hfl:s.fact∈fcs l_n:=List.mem_map_of_mem hms
  refine Zz 14 ?_
  refine i_ (ah_ hS_n.1 P_ ap_ rfl rfl (by omega) (by omega)) rfl (Zz 1 ?_)
  refine i_ (fZ_ (us:=Fc.cells s.fact) hS_n.1 zp aX_ B_ rfl rfl (by decide) (ep_ 1 (t_ Stp.cells_len hs) s.fact_cells)) rfl (J_ aa_ rfl fun b1=>z_ 0 B_ rfl rfl rfl rfl rfl rfl (Zi 11 (fun hr3=>?_) fun hr3=>?_))
  ·refine Zi 6 (fun hr4=>?_) fun hr4=>?_
   ·refine Zi 6 (fun hr5=>?_) fun hr5=>?_
    ·exfalso;have q:=gp_ hfm;omega
    have hkk:s.fact.kind=3:=hr5
    have hAt:At l_n n (T_ s.fact.a s.fact.r s.fact.lo s.fact.hi):=iu_ hL_n.eng hv hs hkk
    have hfi:gz_ l_n s.fact→s.rule=11:=fun⟨t,ht,e,hr⟩=>lO_ hL_n.eng hs ht e hr
    have hfj:∀ (m:Nat) (t:Stp),(l_n.take (n+1))[m]? = some t→gz_ l_n t.fact→t.rule=11:=fun m t ht ⟨t2,ht2,e,hr⟩=>lO_ hL_n.eng (dG_ ht) ht2 e hr
    refine Zz 9 ?_
    refine n_ (ts_ B p A x_n hv n s.fact l_n y_n hS_n hL_n.eng hB s hs rfl hX.1 hL_n.ixl hkk hn0 h_n.r h_n.s hjr hjm) rfl (g_ (c_ d_) (g_ (c_ d_) (p_ (c_ (e_ (e_ (e_ (e_ (e_ V_)))))) (p_ (c_ (e_ (e_ (e_ (e_ l_))))) (c_ (e_ (e_ (e_ V_)))))))) zf rfl fun⟨⟨lr1,yr1,Hr9,Hm9⟩,hyr1,hEr1,hqr1,hRr1,hMr,hMm⟩=>?_
    dsimp only
    simp only[List.cons_append,List.append_assoc]
    have hp1:l_n <+: lr1:=hqr1
    have hXab:aS_ str N_ 3 1 (x_n.add s n).above B.ab h_n.a:=by have e:(x_n.add s n).above=(x_n.above):=(by rw[Jx.add,if_neg (by omega),if_neg (by omega),if_pos hkk]);rw[e];exact hja
    have hXub:aS_ str N_ 3 1 (x_n.add s n).under B.ub h_n.u:=by have e:(x_n.add s n).under=(x_n.under):=(by rw[Jx.add,if_neg (by omega),if_neg (by omega),if_pos hkk]);rw[e];exact hju
    have hXob:aS_ aU_ N_ 3 1 (x_n.add s n).frm B.ob h_n.o:=by have e:(x_n.add s n).frm=(x_n.frm):=(by rw[Jx.add,if_neg (by omega),if_neg (by omega),if_pos hkk]);rw[e];exact hjo
    have hXib:aS_ aU_ N_ 3 1 (x_n.add s n).into B.ib h_n.i:=by have e:(x_n.add s n).into=(x_n.into):=(by rw[Jx.add,if_neg (by omega),if_neg (by omega),if_pos hkk]);rw[e];exact hji
    refine Zz 2 ?_
    refine u_ (q_ d_ (q_ d_ (ak_ (e_ (e_ (e_ d_)))))) (Zz 4 ?_)
    refine n_ (outP_c B p A fm afm (x_n.add s n) (fun _=>(none,0)) (fun _=>(none,0)) (fun _=>(none,0)) (fun _=>(none,0)) (fun _=>(none,0)) (fun _=>(none,0)) hv hfd hpl n (n+1) s.fact lr1 yr1 hyr1 hEr1 hB (fun _=>False) (fun _ _ _ _ _ _ q=>q) (by rw[eR_ hp1 hls1];exact hX.1) hX.2 hn1 hfm hn0 hkk (hAt.pre hp1)) rfl (g_ d_ (g_ d_ (c_ l_))) (fun v _ h=>by exact⟨h.2.2.1,h.2.2.2.1,h.1,fun _ q=>q.elim,trivial⟩) rfl fun⟨⟨lr2,yr2⟩,hyr2,hEr2,hqr2,hDr2,hRr2⟩=>?_
    dsimp only
    simp only[PSt.own,List.cons_append,List.append_assoc]
    have hp2:l_n <+: lr2:=hp1.trans hqr2
    refine u_ (q_ d_ (q_ d_ (ak_ (e_ d_)))) (Zz 8 ?_)
    exact y_ ⟨(n+1,lr2,(x_n.add s n),yr2,(IxH.mk h_n.a h_n.u h_n.o h_n.i Hr9 Hm9)),hyr2,hL_n.next hs hEr2 hp2 (cmplM hv hfd hX.1 hkk hqr1 hqr2 hRr1 hRr2 (fun q=>hfi q) hfj),⟨hXab,hXub,hXob,hXib,hMr,hMm⟩⟩ (by dsimp only;omega) zl (g_ d_ (g_ d_ (p_ (c_ (e_ (e_ (e_ l_)))) (p_ (c_ (e_ (e_ (e_ l_)))) (p_ (c_ (e_ (e_ (e_ l_)))) (p_ (c_ (e_ (e_ V_))) (p_ (c_ (e_ l_)) (p_ (c_ V_) F_)))))))) zf
   have hkk:s.fact.kind=2:=hr4
   have hAt:At l_n n (I_ s.fact.a s.fact.r s.fact.b):=iC_ hL_n.eng hv hs hkk
   have hfr:s.fact.r≠[]:=(hm_ hfm hkk).2
   refine Zz 6 ?_
   refine s_ 4 [0,1,2,3,4,5,6,7,8,9] zk zs (Zz 4 ?_)
   refine R_ rfl (H_ gE_ rfl rfl) rfl (Zz 4 ?_)
   refine R_ rfl (H_ gE_ rfl rfl) rfl (cJ_ ?_)
   refine bW_ 10 11 rfl rfl zk ?_ ?_
   ·refine J_ gX_ rfl fun b2=>Zz 3 ?_
    refine j_ 11 rfl zk (J_ gX_ rfl fun b3=>Zz 3 ?_)
    refine j_ 12 rfl zk (z_ 1 kb_ rfl rfl rfl rfl rfl rfl (Zz 3 ?_))
    refine j_ 13 rfl zk (z_ 0 kb_ rfl rfl rfl rfl rfl rfl (Zz 5 ?_))
    have hbb1:=Nat.le_trans (bc_ (x_n.under) (Fc.b s.fact)) (show ((x_n.under)).length≤100000000 from by have q1:=hL_n.ixl.under;omega)
    refine iz_ dV_ (Fc.b s.fact) hju (c_ (c_ (c_ (c_ (c_ (e_ l_)))))) fun es1 ce1 ve1 Hk1 Hx1 hw1 ho1=>?_
    refine u_ (q_ d_ (q_ (e_ (e_ d_)) (q_ (e_ (e_ d_)) (q_ (e_ (e_ d_)) (q_ (e_ (e_ d_)) (ak_ (e_ (e_ d_)))))))) (cg_ ?_)
    refine ae_ ((b3,.cells #[str (Fc.b s.fact),str (Fc.r s.fact)] 114 (0,0))::((b2,.cells #[str (Fc.a s.fact),str (Fc.r s.fact)] 114 (0,0))::((b1,.cells (Fc.cells s.fact).toArray 24 (0,0))::((B.g,.cells #[.slice B.pad (List.length p) B.pcap,.map (some B.pb),y_n.sv,.map (some B.kb),.map (some B.ab),.map (some B.ub),.map (some B.ob),.map (some B.ib),.map (some B.rb),.map (some B.sb)] 105 (0,0))::((B.kb,.map y_n.es y_n.c)::[]))))) zk ?_
    refine s_ 4 [0,1,2,3,4,5,6,7,8,9,10,11,13] zk zs (Zz 14 ?_)
    refine bW_ 12 14 rfl rfl zk ?_ ?_
    ·refine i_ (cN_ (k:=(Fc.b s.fact)) dV_ ho1 be_ Z_ rfl rfl 0 rfl) rfl (Zz 3 ?_)
     refine j_ 14 rfl zk (S_ f_ o_ A_ rfl rfl rfl rfl rfl rfl fun b4=>Zz 2 ?_)
     refine K_ zs (j_ 15 rfl zk (ao_ (news:=List.flatMap N_ [(n:Int)]) bP_ hw1 rfl rfl zp rfl (by_ 0 rfl) (fun u hu=>ar_ bp_ hu) (by simp only[maxLen];omega) (by omega) rfl fun sv1 Hr1 hr1=>?_))
     have hq1:=zsa hr1
     refine Zz 2 ?_
     refine K_ zs (j_ 16 rfl zk (da_ (k:=(Fc.b s.fact)) (dd:=(n:Int)) dV_ ho1 (by rw[bg_];exact hq1) (.inr rfl) be_ rfl rfl rfl (aW_ (g_ (e_ (c_ d_)) (p_ l_ (c_ (c_ (c_ (c_ (c_ (c_ l_))))))))) fun H2 hM2=>?_))
     refine Zz 2 ?_
     refine K_ zs (Zz 2 ?_)
     refine u_ (q_ (e_ d_) (q_ (e_ d_) (q_ (e_ d_) (q_ (e_ d_) (q_ (e_ d_) (ak_ (e_ d_))))))) (cg_ ?_)
     refine ae_ ((b4,.cells #[.int .i64 (n:Int)] 3 (0,0))::((b3,.cells #[str (Fc.b s.fact),str (Fc.r s.fact)] 114 (0,0))::((b2,.cells #[str (Fc.a s.fact),str (Fc.r s.fact)] 114 (0,0))::((b1,.cells (Fc.cells s.fact).toArray 24 (0,0))::((B.g,.cells #[.slice B.pad (List.length p) B.pcap,.map (some B.pb),y_n.sv,.map (some B.kb),.map (some B.ab),.map (some B.ub),.map (some B.ob),.map (some B.ib),.map (some B.rb),.map (some B.sb)] 105 (0,0))::((B.kb,.map y_n.es y_n.c)::[])))))) zk ?_
     refine s_ 6 [0,1,2,3,4,5] zk zs (Zz 7 ?_)
     refine j_ 6 rfl zk (S_ f_ o_ A_ rfl rfl rfl rfl rfl rfl fun b5=>Zz 2 ?_)
     refine K_ zs (j_ 7 rfl zk ?_)
     have hbb3:=Nat.le_trans (bc_ (x_n.frm) ((Fc.a s.fact),(Fc.r s.fact))) (show ((x_n.frm)).length≤100000000 from by have q1:=hL_n.ixl.frm;omega)
     refine bH_ (k:=((Fc.a s.fact),(Fc.r s.fact))) ca_ hjo aO_ Z_ rfl rfl zp rfl fun es3 ce3 ie3 se3 ve3 Hk3 Hx3 ho3 hw3=>Zz 2 ?_
     refine K_ zs (s_ 2 [8,10] zk zs (Zz 3 ?_))
     refine j_ 9 rfl zk (ao_ (news:=List.flatMap N_ [(n:Int)]) bP_ hw3 rfl rfl zp rfl (bG_ zp) (fun u hu=>ar_ bp_ hu) (by simp only[maxLen];omega) (by omega) rfl fun sv2 Hr2 hr2=>?_)
     have hq2:=zsa hr2
     refine Zz 2 ?_
     refine K_ zs (j_ 11 rfl zk (aG_ (k:=((Fc.a s.fact),(Fc.r s.fact))) (dd:=(n:Int)) ho3 (by rw[bg_];exact hq2) rfl rfl rfl (aW_ (g_ (e_ d_) (p_ l_ l_))) fun H4 hM4=>?_))
     refine Zz 2 ?_
     refine K_ zs (Zz 2 ?_)
     refine u_ (q_ (e_ d_) (q_ (e_ d_) (q_ (e_ d_) (q_ (e_ d_) (q_ (e_ d_) (q_ (e_ d_) (ak_ (e_ d_)))))))) (cg_ ?_)
     refine ae_ ((b5,.cells #[.int .i64 (n:Int)] 3 (0,0))::((b4,.cells #[.int .i64 (n:Int)] 3 (0,0))::((b3,.cells #[str (Fc.b s.fact),str (Fc.r s.fact)] 114 (0,0))::((b2,.cells #[str (Fc.a s.fact),str (Fc.r s.fact)] 114 (0,0))::((b1,.cells (Fc.cells s.fact).toArray 24 (0,0))::((B.g,.cells #[.slice B.pad (List.length p) B.pcap,.map (some B.pb),y_n.sv,.map (some B.kb),.map (some B.ab),.map (some B.ub),.map (some B.ob),.map (some B.ib),.map (some B.rb),.map (some B.sb)] 105 (0,0))::((B.kb,.map y_n.es y_n.c)::[]))))))) zk ?_
     refine s_ 6 [0,1,2,3,4,5] zk zs (Zz 7 ?_)
     refine j_ 6 rfl zk (S_ f_ o_ A_ rfl rfl rfl rfl rfl rfl fun b6=>Zz 2 ?_)
     refine K_ zs (j_ 7 rfl zk ?_)
     have hbb5:=Nat.le_trans (bc_ (x_n.into) ((Fc.b s.fact),(Fc.r s.fact))) (show ((x_n.into)).length≤100000000 from by have q1:=hL_n.ixl.into;omega)
     refine bH_ (k:=((Fc.b s.fact),(Fc.r s.fact))) ca_ hji aO_ Z_ rfl rfl zp rfl fun es5 ce5 ie5 se5 ve5 Hk5 Hx5 ho5 hw5=>Zz 2 ?_
     refine K_ zs (s_ 2 [8,10] zk zs (Zz 3 ?_))
     refine j_ 9 rfl zk (ao_ (news:=List.flatMap N_ [(n:Int)]) bP_ hw5 rfl rfl zp rfl (bG_ zp) (fun u hu=>ar_ bp_ hu) (by simp only[maxLen];omega) (by omega) rfl fun sv3 Hr3 hr3=>?_)
     have hq3:=zsa hr3
     refine Zz 2 ?_
     refine K_ zs (j_ 11 rfl zk (aG_ (k:=((Fc.b s.fact),(Fc.r s.fact))) (dd:=(n:Int)) ho5 (by rw[bg_];exact hq3) rfl rfl rfl (aW_ (g_ (e_ d_) (p_ l_ l_))) fun H6 hM6=>?_))
     refine Zz 2 ?_
     refine K_ zs (Zz 2 ?_)
     refine u_ (q_ (e_ d_) (q_ (e_ d_) (q_ (e_ d_) (q_ (e_ d_) (q_ (e_ d_) (q_ (e_ d_) (q_ (e_ d_) (ak_ (e_ d_))))))))) (cg_ ?_)
     have hXab:aS_ str N_ 3 1 (x_n.add s n).above B.ab h_n.a:=by have e:(x_n.add s n).above=(x_n.above):=(by rw[Jx.add,if_neg (by omega),if_pos hkk]);rw[e];exact hja
     have hXub:aS_ str N_ 3 1 (x_n.add s n).under B.ub H2:=by have e:(x_n.add s n).under=((x_n.under)++[((Fc.b s.fact),(n:Int))]):=(by rw[Jx.add,if_neg (by omega),if_pos hkk]);rw[e];exact hM2
     have hXob:aS_ aU_ N_ 3 1 (x_n.add s n).frm B.ob H4:=by have e:(x_n.add s n).frm=((x_n.frm)++[(((Fc.a s.fact),(Fc.r s.fact)),(n:Int))]):=(by rw[Jx.add,if_neg (by omega),if_pos hkk]);rw[e];exact hM4
     have hXib:aS_ aU_ N_ 3 1 (x_n.add s n).into B.ib H6:=by have e:(x_n.add s n).into=((x_n.into)++[(((Fc.b s.fact),(Fc.r s.fact)),(n:Int))]):=(by rw[Jx.add,if_neg (by omega),if_pos hkk]);rw[e];exact hM6
     have hXrb:aS_ aU_ N_ 3 1 (x_n.add s n).ranges B.rb h_n.r:=by have e:(x_n.add s n).ranges=(x_n.ranges):=(by rw[Jx.add,if_neg (by omega),if_pos hkk]);rw[e];exact hjr
     have hXsb:aS_ aU_ N_ 3 1 (x_n.add s n).firms B.sb h_n.s:=by have e:(x_n.add s n).firms=(x_n.firms):=(by rw[Jx.add,if_neg (by omega),if_pos hkk]);rw[e];exact hjm
     refine Zz 4 ?_
     refine n_ (iD_ B p A fm afm (x_n.add s n) hv hfd hpl n (n+1) s.fact l_n y_n hS_n hL_n.eng hB hX.1 hX.2 hn1 hfm hn0 H4 H6 hXob hXib hkk hfr hAt) rfl (p_ (c_ (c_ (c_ (c_ (c_ (c_ (c_ (c_ (e_ l_))))))))) (p_ (c_ (c_ (c_ (c_ (c_ (c_ (c_ (c_ l_)))))))) (g_ (c_ (c_ (c_ (c_ (c_ (c_ d_)))))) (g_ (c_ (c_ (c_ (c_ (c_ (c_ d_)))))) (c_ (c_ (c_ (c_ (c_ (c_ (e_ (e_ (e_ V_))))))))))))) zf rfl fun⟨⟨lr3,yr3⟩,hyr3,hEr3,hqr3,hDr3,hRr3⟩=>?_
     dsimp only
     simp only[PSt.own,List.cons_append,List.append_assoc]
     have hp3:l_n <+: lr3:=hqr3
     refine u_ (q_ (e_ (e_ d_)) (q_ (e_ (e_ d_)) (q_ (e_ (e_ (e_ d_))) (q_ (e_ (e_ (e_ d_))) (q_ (e_ (e_ (e_ d_))) (q_ (e_ (e_ (e_ d_))) (q_ (e_ (e_ (e_ d_))) (ak_ (e_ (e_ (e_ d_))))))))))) (Zz 6 ?_)
     refine n_ (iE_ B p A fm afm (x_n.add s n) hv hfd hpl n (n+1) s.fact lr3 yr3 hyr3 hEr3 hB (by rw[eR_ hp3 hls1];exact hX.1) hX.2 hn1 hfm hn0 h_n.a hXab hkk hfr (hAt.pre hp3)) rfl (p_ (c_ (c_ (c_ (c_ (c_ (c_ (c_ (c_ (e_ (e_ (e_ (e_ l_)))))))))))) (g_ d_ (g_ d_ (c_ (c_ (c_ (c_ (c_ (c_ (e_ (e_ l_))))))))))) zf rfl fun⟨⟨lr4,yr4⟩,hyr4,hEr4,hqr4,hDr4,hRr4⟩=>?_
     dsimp only
     simp only[PSt.own,List.cons_append,List.append_assoc]
     have hp4:l_n <+: lr4:=hp3.trans hqr4
     refine u_ (q_ (e_ d_) (q_ (e_ d_) (q_ (e_ (e_ d_)) (q_ (e_ (e_ d_)) (q_ (e_ (e_ d_)) (q_ (e_ (e_ d_)) (q_ (e_ (e_ d_)) (ak_ (e_ (e_ d_)))))))))) (Zz 8 ?_)
     exact y_ ⟨(n+1,lr4,(x_n.add s n),yr4,(IxH.mk h_n.a H2 H4 H6 h_n.r h_n.s)),hyr4,hL_n.next hs hEr4 hp4 (pn_ hv hfd hX.1 hkk hqr3 hqr4 hRr3 hRr4 (gz_ l_n)),⟨hXab,hXub,hXob,hXib,hXrb,hXsb⟩⟩ (by dsimp only;omega) zl zp zf
    refine S_ f_ o_ A_ rfl rfl rfl rfl rfl rfl fun b7=>Zz 2 ?_
    refine K_ zs (j_ 12 rfl zk (i_ (cN_ (k:=(Fc.b s.fact)) dV_ ho1 be_ Z_ rfl rfl 1 rfl) rfl (Zz 2 ?_)))
    refine K_ zs (j_ 15 rfl zk (ao_ (news:=List.flatMap N_ [(n:Int)]) bP_ hw1 rfl rfl zp rfl (by_ 0 rfl) (fun u hu=>ar_ bp_ hu) (by simp only[maxLen];omega) (by omega) rfl fun sv4 Hr4 hr4=>?_))
    have hq4:=zsa hr4
    refine Zz 2 ?_
    refine K_ zs (j_ 16 rfl zk (da_ (k:=(Fc.b s.fact)) (dd:=(n:Int)) dV_ ho1 (by rw[bg_];exact hq4) (.inr rfl) be_ rfl rfl rfl (aW_ (g_ (e_ (c_ d_)) (p_ l_ (c_ (c_ (c_ (c_ (c_ (c_ l_))))))))) fun H7 hM7=>?_))
    refine Zz 2 ?_
    refine K_ zs (Zz 2 ?_)
    refine u_ (q_ (e_ d_) (q_ (e_ d_) (q_ (e_ d_) (q_ (e_ d_) (q_ (e_ d_) (ak_ (e_ d_))))))) (cg_ ?_)
    refine ae_ ((b7,.cells #[.int .i64 (n:Int)] 3 (0,0))::((b3,.cells #[str (Fc.b s.fact),str (Fc.r s.fact)] 114 (0,0))::((b2,.cells #[str (Fc.a s.fact),str (Fc.r s.fact)] 114 (0,0))::((b1,.cells (Fc.cells s.fact).toArray 24 (0,0))::((B.g,.cells #[.slice B.pad (List.length p) B.pcap,.map (some B.pb),y_n.sv,.map (some B.kb),.map (some B.ab),.map (some B.ub),.map (some B.ob),.map (some B.ib),.map (some B.rb),.map (some B.sb)] 105 (0,0))::((B.kb,.map y_n.es y_n.c)::[])))))) zk ?_
    refine s_ 6 [0,1,2,3,4,5] zk zs (Zz 7 ?_)
    refine j_ 6 rfl zk (S_ f_ o_ A_ rfl rfl rfl rfl rfl rfl fun b8=>Zz 2 ?_)
    refine K_ zs (j_ 7 rfl zk ?_)
    have hbb8:=Nat.le_trans (bc_ (x_n.frm) ((Fc.a s.fact),(Fc.r s.fact))) (show ((x_n.frm)).length≤100000000 from by have q1:=hL_n.ixl.frm;omega)
    refine bH_ (k:=((Fc.a s.fact),(Fc.r s.fact))) ca_ hjo aO_ Z_ rfl rfl zp rfl fun es8 ce8 ie8 se8 ve8 Hk8 Hx8 ho8 hw8=>Zz 2 ?_
    refine K_ zs (s_ 2 [8,10] zk zs (Zz 3 ?_))
    refine j_ 9 rfl zk (ao_ (news:=List.flatMap N_ [(n:Int)]) bP_ hw8 rfl rfl zp rfl (bG_ zp) (fun u hu=>ar_ bp_ hu) (by simp only[maxLen];omega) (by omega) rfl fun sv5 Hr5 hr5=>?_)
    have hq5:=zsa hr5
    refine Zz 2 ?_
    refine K_ zs (j_ 11 rfl zk (aG_ (k:=((Fc.a s.fact),(Fc.r s.fact))) (dd:=(n:Int)) ho8 (by rw[bg_];exact hq5) rfl rfl rfl (aW_ (g_ (e_ d_) (p_ l_ l_))) fun H9 hM9=>?_))
    refine Zz 2 ?_
    refine K_ zs (Zz 2 ?_)
    refine u_ (q_ (e_ d_) (q_ (e_ d_) (q_ (e_ d_) (q_ (e_ d_) (q_ (e_ d_) (q_ (e_ d_) (ak_ (e_ d_)))))))) (cg_ ?_)
    refine ae_ ((b8,.cells #[.int .i64 (n:Int)] 3 (0,0))::((b7,.cells #[.int .i64 (n:Int)] 3 (0,0))::((b3,.cells #[str (Fc.b s.fact),str (Fc.r s.fact)] 114 (0,0))::((b2,.cells #[str (Fc.a s.fact),str (Fc.r s.fact)] 114 (0,0))::((b1,.cells (Fc.cells s.fact).toArray 24 (0,0))::((B.g,.cells #[.slice B.pad (List.length p) B.pcap,.map (some B.pb),y_n.sv,.map (some B.kb),.map (some B.ab),.map (some B.ub),.map (some B.ob),.map (some B.ib),.map (some B.rb),.map (some B.sb)] 105 (0,0))::((B.kb,.map y_n.es y_n.c)::[]))))))) zk ?_
    refine s_ 6 [0,1,2,3,4,5] zk zs (Zz 7 ?_)
    refine j_ 6 rfl zk (S_ f_ o_ A_ rfl rfl rfl rfl rfl rfl fun b9=>Zz 2 ?_)
    refine K_ zs (j_ 7 rfl zk ?_)
    have hbb10:=Nat.le_trans (bc_ (x_n.into) ((Fc.b s.fact),(Fc.r s.fact))) (show ((x_n.into)).length≤100000000 from by have q1:=hL_n.ixl.into;omega)
    refine bH_ (k:=((Fc.b s.fact),(Fc.r s.fact))) ca_ hji aO_ Z_ rfl rfl zp rfl fun es10 ce10 ie10 se10 ve10 Hk10 Hx10 ho10 hw10=>Zz 2 ?_
    refine K_ zs (s_ 2 [8,10] zk zs (Zz 3 ?_))
    refine j_ 9 rfl zk (ao_ (news:=List.flatMap N_ [(n:Int)]) bP_ hw10 rfl rfl zp rfl (bG_ zp) (fun u hu=>ar_ bp_ hu) (by simp only[maxLen];omega) (by omega) rfl fun sv6 Hr6 hr6=>?_)
    have hq6:=zsa hr6
    refine Zz 2 ?_
    refine K_ zs (j_ 11 rfl zk (aG_ (k:=((Fc.b s.fact),(Fc.r s.fact))) (dd:=(n:Int)) ho10 (by rw[bg_];exact hq6) rfl rfl rfl (aW_ (g_ (e_ d_) (p_ l_ l_))) fun H11 hM11=>?_))
    refine Zz 2 ?_
    refine K_ zs (Zz 2 ?_)
    refine u_ (q_ (e_ d_) (q_ (e_ d_) (q_ (e_ d_) (q_ (e_ d_) (q_ (e_ d_) (q_ (e_ d_) (q_ (e_ d_) (ak_ (e_ d_))))))))) (cg_ ?_)
    have hXab:aS_ str N_ 3 1 (x_n.add s n).above B.ab h_n.a:=by have e:(x_n.add s n).above=(x_n.above):=(by rw[Jx.add,if_neg (by omega),if_pos hkk]);rw[e];exact hja
    have hXub:aS_ str N_ 3 1 (x_n.add s n).under B.ub H7:=by have e:(x_n.add s n).under=((x_n.under)++[((Fc.b s.fact),(n:Int))]):=(by rw[Jx.add,if_neg (by omega),if_pos hkk]);rw[e];exact hM7
    have hXob:aS_ aU_ N_ 3 1 (x_n.add s n).frm B.ob H9:=by have e:(x_n.add s n).frm=((x_n.frm)++[(((Fc.a s.fact),(Fc.r s.fact)),(n:Int))]):=(by rw[Jx.add,if_neg (by omega),if_pos hkk]);rw[e];exact hM9
    have hXib:aS_ aU_ N_ 3 1 (x_n.add s n).into B.ib H11:=by have e:(x_n.add s n).into=((x_n.into)++[(((Fc.b s.fact),(Fc.r s.fact)),(n:Int))]):=(by rw[Jx.add,if_neg (by omega),if_pos hkk]);rw[e];exact hM11
    have hXrb:aS_ aU_ N_ 3 1 (x_n.add s n).ranges B.rb h_n.r:=by have e:(x_n.add s n).ranges=(x_n.ranges):=(by rw[Jx.add,if_neg (by omega),if_pos hkk]);rw[e];exact hjr
    have hXsb:aS_ aU_ N_ 3 1 (x_n.add s n).firms B.sb h_n.s:=by have e:(x_n.add s n).firms=(x_n.firms):=(by rw[Jx.add,if_neg (by omega),if_pos hkk]);rw[e];exact hjm
    refine Zz 4 ?_
    refine n_ (iD_ B p A fm afm (x_n.add s n) hv hfd hpl n (n+1) s.fact l_n y_n hS_n hL_n.eng hB hX.1 hX.2 hn1 hfm hn0 H9 H11 hXob hXib hkk hfr hAt) rfl (p_ (c_ (c_ (c_ (c_ (c_ (c_ (c_ (c_ (e_ l_))))))))) (p_ (c_ (c_ (c_ (c_ (c_ (c_ (c_ (c_ l_)))))))) (g_ (c_ (c_ (c_ (c_ (c_ (c_ d_)))))) (g_ (c_ (c_ (c_ (c_ (c_ (c_ d_)))))) (c_ (c_ (c_ (c_ (c_ (c_ (e_ (e_ (e_ V_))))))))))))) zf rfl fun⟨⟨lr5,yr5⟩,hyr5,hEr5,hqr5,hDr5,hRr5⟩=>?_
    dsimp only
    simp only[PSt.own,List.cons_append,List.append_assoc]
    have hp5:l_n <+: lr5:=hqr5
    refine u_ (q_ (e_ (e_ d_)) (q_ (e_ (e_ d_)) (q_ (e_ (e_ (e_ d_))) (q_ (e_ (e_ (e_ d_))) (q_ (e_ (e_ (e_ d_))) (q_ (e_ (e_ (e_ d_))) (q_ (e_ (e_ (e_ d_))) (ak_ (e_ (e_ (e_ d_))))))))))) (Zz 6 ?_)
    refine n_ (iE_ B p A fm afm (x_n.add s n) hv hfd hpl n (n+1) s.fact lr5 yr5 hyr5 hEr5 hB (by rw[eR_ hp5 hls1];exact hX.1) hX.2 hn1 hfm hn0 h_n.a hXab hkk hfr (hAt.pre hp5)) rfl (p_ (c_ (c_ (c_ (c_ (c_ (c_ (c_ (c_ (e_ (e_ (e_ (e_ l_)))))))))))) (g_ d_ (g_ d_ (c_ (c_ (c_ (c_ (c_ (c_ (e_ (e_ l_))))))))))) zf rfl fun⟨⟨lr6,yr6⟩,hyr6,hEr6,hqr6,hDr6,hRr6⟩=>?_
    dsimp only
    simp only[PSt.own,List.cons_append,List.append_assoc]
    have hp6:l_n <+: lr6:=hp5.trans hqr6
    refine u_ (q_ (e_ d_) (q_ (e_ d_) (q_ (e_ (e_ d_)) (q_ (e_ (e_ d_)) (q_ (e_ (e_ d_)) (q_ (e_ (e_ d_)) (q_ (e_ (e_ d_)) (ak_ (e_ (e_ d_)))))))))) (Zz 8 ?_)
    exact y_ ⟨(n+1,lr6,(x_n.add s n),yr6,(IxH.mk h_n.a H7 H9 H11 h_n.r h_n.s)),hyr6,hL_n.next hs hEr6 hp6 (pn_ hv hfd hX.1 hkk hqr5 hqr6 hRr5 hRr6 (gz_ l_n)),⟨hXab,hXub,hXob,hXib,hXrb,hXsb⟩⟩ (by dsimp only;omega) zl zp zf
   refine J_ gX_ rfl fun b10=>Zz 3 ?_
   refine j_ 10 rfl zk (J_ gX_ rfl fun b11=>Zz 3 ?_)
   refine j_ 12 rfl zk (z_ 0 kb_ rfl rfl rfl rfl rfl rfl (Zz 3 ?_))
   refine j_ 13 rfl zk (z_ 1 kb_ rfl rfl rfl rfl rfl rfl (Zz 5 ?_))
   have hbb12:=Nat.le_trans (bc_ (x_n.under) (Fc.b s.fact)) (show ((x_n.under)).length≤100000000 from by have q1:=hL_n.ixl.under;omega)
   refine iz_ dV_ (Fc.b s.fact) hju (c_ (c_ (c_ (c_ (c_ (e_ l_)))))) fun es12 ce12 ve12 Hk12 Hx12 hw12 ho12=>?_
   refine u_ (q_ d_ (q_ (e_ (e_ d_)) (q_ (e_ (e_ d_)) (q_ (e_ (e_ d_)) (q_ (e_ (e_ d_)) (ak_ (e_ (e_ d_)))))))) (cg_ ?_)
   refine ae_ ((b11,.cells #[str (Fc.a s.fact),str (Fc.r s.fact)] 114 (0,0))::((b10,.cells #[str (Fc.b s.fact),str (Fc.r s.fact)] 114 (0,0))::((b1,.cells (Fc.cells s.fact).toArray 24 (0,0))::((B.g,.cells #[.slice B.pad (List.length p) B.pcap,.map (some B.pb),y_n.sv,.map (some B.kb),.map (some B.ab),.map (some B.ub),.map (some B.ob),.map (some B.ib),.map (some B.rb),.map (some B.sb)] 105 (0,0))::((B.kb,.map y_n.es y_n.c)::[]))))) zk ?_
   refine s_ 4 [0,1,2,3,4,5,6,7,8,9,10,11,13] zk zs (Zz 14 ?_)
   refine bW_ 12 14 rfl rfl zk ?_ ?_
   ·refine i_ (cN_ (k:=(Fc.b s.fact)) dV_ ho12 be_ Z_ rfl rfl 0 rfl) rfl (Zz 3 ?_)
    refine j_ 14 rfl zk (S_ f_ o_ A_ rfl rfl rfl rfl rfl rfl fun b12=>Zz 2 ?_)
    refine K_ zs (j_ 15 rfl zk (ao_ (news:=List.flatMap N_ [(n:Int)]) bP_ hw12 rfl rfl zp rfl (by_ 0 rfl) (fun u hu=>ar_ bp_ hu) (by simp only[maxLen];omega) (by omega) rfl fun sv7 Hr7 hr7=>?_))
    have hq7:=zsa hr7
    refine Zz 2 ?_
    refine K_ zs (j_ 16 rfl zk (da_ (k:=(Fc.b s.fact)) (dd:=(n:Int)) dV_ ho12 (by rw[bg_];exact hq7) (.inr rfl) be_ rfl rfl rfl (aW_ (g_ (e_ (c_ d_)) (p_ l_ (c_ (c_ (c_ (c_ (c_ (c_ l_))))))))) fun H13 hM13=>?_))
    refine Zz 2 ?_
    refine K_ zs (Zz 2 ?_)
    refine u_ (q_ (e_ d_) (q_ (e_ d_) (q_ (e_ d_) (q_ (e_ d_) (q_ (e_ d_) (ak_ (e_ d_))))))) (cg_ ?_)
    refine ae_ ((b12,.cells #[.int .i64 (n:Int)] 3 (0,0))::((b11,.cells #[str (Fc.a s.fact),str (Fc.r s.fact)] 114 (0,0))::((b10,.cells #[str (Fc.b s.fact),str (Fc.r s.fact)] 114 (0,0))::((b1,.cells (Fc.cells s.fact).toArray 24 (0,0))::((B.g,.cells #[.slice B.pad (List.length p) B.pcap,.map (some B.pb),y_n.sv,.map (some B.kb),.map (some B.ab),.map (some B.ub),.map (some B.ob),.map (some B.ib),.map (some B.rb),.map (some B.sb)] 105 (0,0))::((B.kb,.map y_n.es y_n.c)::[])))))) zk ?_
    refine s_ 6 [0,1,2,3,4,5] zk zs (Zz 7 ?_)
    refine j_ 6 rfl zk (S_ f_ o_ A_ rfl rfl rfl rfl rfl rfl fun b13=>Zz 2 ?_)
    refine K_ zs (j_ 7 rfl zk ?_)
    have hbb14:=Nat.le_trans (bc_ (x_n.frm) ((Fc.a s.fact),(Fc.r s.fact))) (show ((x_n.frm)).length≤100000000 from by have q1:=hL_n.ixl.frm;omega)
    refine bH_ (k:=((Fc.a s.fact),(Fc.r s.fact))) ca_ hjo aO_ Z_ rfl rfl zp rfl fun es14 ce14 ie14 se14 ve14 Hk14 Hx14 ho14 hw14=>Zz 2 ?_
    refine K_ zs (s_ 2 [8,10] zk zs (Zz 3 ?_))
    refine j_ 9 rfl zk (ao_ (news:=List.flatMap N_ [(n:Int)]) bP_ hw14 rfl rfl zp rfl (bG_ zp) (fun u hu=>ar_ bp_ hu) (by simp only[maxLen];omega) (by omega) rfl fun sv8 Hr8 hr8=>?_)
    have hq8:=zsa hr8
    refine Zz 2 ?_
    refine K_ zs (j_ 11 rfl zk (aG_ (k:=((Fc.a s.fact),(Fc.r s.fact))) (dd:=(n:Int)) ho14 (by rw[bg_];exact hq8) rfl rfl rfl (aW_ (g_ (e_ d_) (p_ l_ l_))) fun H15 hM15=>?_))
    refine Zz 2 ?_
    refine K_ zs (Zz 2 ?_)
    refine u_ (q_ (e_ d_) (q_ (e_ d_) (q_ (e_ d_) (q_ (e_ d_) (q_ (e_ d_) (q_ (e_ d_) (ak_ (e_ d_)))))))) (cg_ ?_)
    refine ae_ ((b13,.cells #[.int .i64 (n:Int)] 3 (0,0))::((b12,.cells #[.int .i64 (n:Int)] 3 (0,0))::((b11,.cells #[str (Fc.a s.fact),str (Fc.r s.fact)] 114 (0,0))::((b10,.cells #[str (Fc.b s.fact),str (Fc.r s.fact)] 114 (0,0))::((b1,.cells (Fc.cells s.fact).toArray 24 (0,0))::((B.g,.cells #[.slice B.pad (List.length p) B.pcap,.map (some B.pb),y_n.sv,.map (some B.kb),.map (some B.ab),.map (some B.ub),.map (some B.ob),.map (some B.ib),.map (some B.rb),.map (some B.sb)] 105 (0,0))::((B.kb,.map y_n.es y_n.c)::[]))))))) zk ?_
    refine s_ 6 [0,1,2,3,4,5] zk zs (Zz 7 ?_)
    refine j_ 6 rfl zk (S_ f_ o_ A_ rfl rfl rfl rfl rfl rfl fun b14=>Zz 2 ?_)
    refine K_ zs (j_ 7 rfl zk ?_)
    have hbb16:=Nat.le_trans (bc_ (x_n.into) ((Fc.b s.fact),(Fc.r s.fact))) (show ((x_n.into)).length≤100000000 from by have q1:=hL_n.ixl.into;omega)
    refine bH_ (k:=((Fc.b s.fact),(Fc.r s.fact))) ca_ hji aO_ Z_ rfl rfl zp rfl fun es16 ce16 ie16 se16 ve16 Hk16 Hx16 ho16 hw16=>Zz 2 ?_
    refine K_ zs (s_ 2 [8,10] zk zs (Zz 3 ?_))
    refine j_ 9 rfl zk (ao_ (news:=List.flatMap N_ [(n:Int)]) bP_ hw16 rfl rfl zp rfl (bG_ zp) (fun u hu=>ar_ bp_ hu) (by simp only[maxLen];omega) (by omega) rfl fun sv9 Hr9 hr9=>?_)
    have hq9:=zsa hr9
    refine Zz 2 ?_
    refine K_ zs (j_ 11 rfl zk (aG_ (k:=((Fc.b s.fact),(Fc.r s.fact))) (dd:=(n:Int)) ho16 (by rw[bg_];exact hq9) rfl rfl rfl (aW_ (g_ (e_ d_) (p_ l_ l_))) fun H17 hM17=>?_))
    refine Zz 2 ?_
    refine K_ zs (Zz 2 ?_)
    refine u_ (q_ (e_ d_) (q_ (e_ d_) (q_ (e_ d_) (q_ (e_ d_) (q_ (e_ d_) (q_ (e_ d_) (q_ (e_ d_) (ak_ (e_ d_))))))))) (cg_ ?_)
    have hXab:aS_ str N_ 3 1 (x_n.add s n).above B.ab h_n.a:=by have e:(x_n.add s n).above=(x_n.above):=(by rw[Jx.add,if_neg (by omega),if_pos hkk]);rw[e];exact hja
    have hXub:aS_ str N_ 3 1 (x_n.add s n).under B.ub H13:=by have e:(x_n.add s n).under=((x_n.under)++[((Fc.b s.fact),(n:Int))]):=(by rw[Jx.add,if_neg (by omega),if_pos hkk]);rw[e];exact hM13
    have hXob:aS_ aU_ N_ 3 1 (x_n.add s n).frm B.ob H15:=by have e:(x_n.add s n).frm=((x_n.frm)++[(((Fc.a s.fact),(Fc.r s.fact)),(n:Int))]):=(by rw[Jx.add,if_neg (by omega),if_pos hkk]);rw[e];exact hM15
    have hXib:aS_ aU_ N_ 3 1 (x_n.add s n).into B.ib H17:=by have e:(x_n.add s n).into=((x_n.into)++[(((Fc.b s.fact),(Fc.r s.fact)),(n:Int))]):=(by rw[Jx.add,if_neg (by omega),if_pos hkk]);rw[e];exact hM17
    have hXrb:aS_ aU_ N_ 3 1 (x_n.add s n).ranges B.rb h_n.r:=by have e:(x_n.add s n).ranges=(x_n.ranges):=(by rw[Jx.add,if_neg (by omega),if_pos hkk]);rw[e];exact hjr
    have hXsb:aS_ aU_ N_ 3 1 (x_n.add s n).firms B.sb h_n.s:=by have e:(x_n.add s n).firms=(x_n.firms):=(by rw[Jx.add,if_neg (by omega),if_pos hkk]);rw[e];exact hjm
    refine Zz 4 ?_
    refine n_ (iD_ B p A fm afm (x_n.add s n) hv hfd hpl n (n+1) s.fact l_n y_n hS_n hL_n.eng hB hX.1 hX.2 hn1 hfm hn0 H15 H17 hXob hXib hkk hfr hAt) rfl (p_ (c_ (c_ (c_ (c_ (c_ (c_ (c_ (c_ (e_ l_))))))))) (p_ (c_ (c_ (c_ (c_ (c_ (c_ (c_ (c_ l_)))))))) (g_ (c_ (c_ (c_ (c_ (c_ (c_ d_)))))) (g_ (c_ (c_ (c_ (c_ (c_ (c_ d_)))))) (c_ (c_ (c_ (c_ (c_ (c_ (e_ (e_ (e_ V_))))))))))))) zf rfl fun⟨⟨lr7,yr7⟩,hyr7,hEr7,hqr7,hDr7,hRr7⟩=>?_
    dsimp only
    simp only[PSt.own,List.cons_append,List.append_assoc]
    have hp7:l_n <+: lr7:=hqr7
    refine u_ (q_ (e_ (e_ d_)) (q_ (e_ (e_ d_)) (q_ (e_ (e_ (e_ d_))) (q_ (e_ (e_ (e_ d_))) (q_ (e_ (e_ (e_ d_))) (q_ (e_ (e_ (e_ d_))) (q_ (e_ (e_ (e_ d_))) (ak_ (e_ (e_ (e_ d_))))))))))) (Zz 6 ?_)
    refine n_ (iE_ B p A fm afm (x_n.add s n) hv hfd hpl n (n+1) s.fact lr7 yr7 hyr7 hEr7 hB (by rw[eR_ hp7 hls1];exact hX.1) hX.2 hn1 hfm hn0 h_n.a hXab hkk hfr (hAt.pre hp7)) rfl (p_ (c_ (c_ (c_ (c_ (c_ (c_ (c_ (c_ (e_ (e_ (e_ (e_ l_)))))))))))) (g_ d_ (g_ d_ (c_ (c_ (c_ (c_ (c_ (c_ (e_ (e_ l_))))))))))) zf rfl fun⟨⟨lr8,yr8⟩,hyr8,hEr8,hqr8,hDr8,hRr8⟩=>?_
    dsimp only
    simp only[PSt.own,List.cons_append,List.append_assoc]
    have hp8:l_n <+: lr8:=hp7.trans hqr8
    refine u_ (q_ (e_ d_) (q_ (e_ d_) (q_ (e_ (e_ d_)) (q_ (e_ (e_ d_)) (q_ (e_ (e_ d_)) (q_ (e_ (e_ d_)) (q_ (e_ (e_ d_)) (ak_ (e_ (e_ d_)))))))))) (Zz 8 ?_)
    exact y_ ⟨(n+1,lr8,(x_n.add s n),yr8,(IxH.mk h_n.a H13 H15 H17 h_n.r h_n.s)),hyr8,hL_n.next hs hEr8 hp8 (pn_ hv hfd hX.1 hkk hqr7 hqr8 hRr7 hRr8 (gz_ l_n)),⟨hXab,hXub,hXob,hXib,hXrb,hXsb⟩⟩ (by dsimp only;omega) zl zp zf
   refine S_ f_ o_ A_ rfl rfl rfl rfl rfl rfl fun b15=>Zz 2 ?_
   refine K_ zs (j_ 12 rfl zk (i_ (cN_ (k:=(Fc.b s.fact)) dV_ ho12 be_ Z_ rfl rfl 1 rfl) rfl (Zz 2 ?_)))
   refine K_ zs (j_ 15 rfl zk (ao_ (news:=List.flatMap N_ [(n:Int)]) bP_ hw12 rfl rfl zp rfl (by_ 0 rfl) (fun u hu=>ar_ bp_ hu) (by simp only[maxLen];omega) (by omega) rfl fun sv10 Hr10 hr10=>?_))
   have hq10:=zsa hr10
   refine Zz 2 ?_
   refine K_ zs (j_ 16 rfl zk (da_ (k:=(Fc.b s.fact)) (dd:=(n:Int)) dV_ ho12 (by rw[bg_];exact hq10) (.inr rfl) be_ rfl rfl rfl (aW_ (g_ (e_ (c_ d_)) (p_ l_ (c_ (c_ (c_ (c_ (c_ (c_ l_))))))))) fun H18 hM18=>?_))
   refine Zz 2 ?_
   refine K_ zs (Zz 2 ?_)
   refine u_ (q_ (e_ d_) (q_ (e_ d_) (q_ (e_ d_) (q_ (e_ d_) (q_ (e_ d_) (ak_ (e_ d_))))))) (cg_ ?_)
   refine ae_ ((b15,.cells #[.int .i64 (n:Int)] 3 (0,0))::((b11,.cells #[str (Fc.a s.fact),str (Fc.r s.fact)] 114 (0,0))::((b10,.cells #[str (Fc.b s.fact),str (Fc.r s.fact)] 114 (0,0))::((b1,.cells (Fc.cells s.fact).toArray 24 (0,0))::((B.g,.cells #[.slice B.pad (List.length p) B.pcap,.map (some B.pb),y_n.sv,.map (some B.kb),.map (some B.ab),.map (some B.ub),.map (some B.ob),.map (some B.ib),.map (some B.rb),.map (some B.sb)] 105 (0,0))::((B.kb,.map y_n.es y_n.c)::[])))))) zk ?_
   refine s_ 6 [0,1,2,3,4,5] zk zs (Zz 7 ?_)
   refine j_ 6 rfl zk (S_ f_ o_ A_ rfl rfl rfl rfl rfl rfl fun b16=>Zz 2 ?_)
   refine K_ zs (j_ 7 rfl zk ?_)
   have hbb19:=Nat.le_trans (bc_ (x_n.frm) ((Fc.a s.fact),(Fc.r s.fact))) (show ((x_n.frm)).length≤100000000 from by have q1:=hL_n.ixl.frm;omega)
   refine bH_ (k:=((Fc.a s.fact),(Fc.r s.fact))) ca_ hjo aO_ Z_ rfl rfl zp rfl fun es19 ce19 ie19 se19 ve19 Hk19 Hx19 ho19 hw19=>Zz 2 ?_
   refine K_ zs (s_ 2 [8,10] zk zs (Zz 3 ?_))
   refine j_ 9 rfl zk (ao_ (news:=List.flatMap N_ [(n:Int)]) bP_ hw19 rfl rfl zp rfl (bG_ zp) (fun u hu=>ar_ bp_ hu) (by simp only[maxLen];omega) (by omega) rfl fun sv11 Hr11 hr11=>?_)
   have hq11:=zsa hr11
   refine Zz 2 ?_
   refine K_ zs (j_ 11 rfl zk (aG_ (k:=((Fc.a s.fact),(Fc.r s.fact))) (dd:=(n:Int)) ho19 (by rw[bg_];exact hq11) rfl rfl rfl (aW_ (g_ (e_ d_) (p_ l_ l_))) fun H20 hM20=>?_))
   refine Zz 2 ?_
   refine K_ zs (Zz 2 ?_)
   refine u_ (q_ (e_ d_) (q_ (e_ d_) (q_ (e_ d_) (q_ (e_ d_) (q_ (e_ d_) (q_ (e_ d_) (ak_ (e_ d_)))))))) (cg_ ?_)
   refine ae_ ((b16,.cells #[.int .i64 (n:Int)] 3 (0,0))::((b15,.cells #[.int .i64 (n:Int)] 3 (0,0))::((b11,.cells #[str (Fc.a s.fact),str (Fc.r s.fact)] 114 (0,0))::((b10,.cells #[str (Fc.b s.fact),str (Fc.r s.fact)] 114 (0,0))::((b1,.cells (Fc.cells s.fact).toArray 24 (0,0))::((B.g,.cells #[.slice B.pad (List.length p) B.pcap,.map (some B.pb),y_n.sv,.map (some B.kb),.map (some B.ab),.map (some B.ub),.map (some B.ob),.map (some B.ib),.map (some B.rb),.map (some B.sb)] 105 (0,0))::((B.kb,.map y_n.es y_n.c)::[]))))))) zk ?_
   refine s_ 6 [0,1,2,3,4,5] zk zs (Zz 7 ?_)
   refine j_ 6 rfl zk (S_ f_ o_ A_ rfl rfl rfl rfl rfl rfl fun b17=>Zz 2 ?_)
   refine K_ zs (j_ 7 rfl zk ?_)
   have hbb21:=Nat.le_trans (bc_ (x_n.into) ((Fc.b s.fact),(Fc.r s.fact))) (show ((x_n.into)).length≤100000000 from by have q1:=hL_n.ixl.into;omega)
   refine bH_ (k:=((Fc.b s.fact),(Fc.r s.fact))) ca_ hji aO_ Z_ rfl rfl zp rfl fun es21 ce21 ie21 se21 ve21 Hk21 Hx21 ho21 hw21=>Zz 2 ?_
   refine K_ zs (s_ 2 [8,10] zk zs (Zz 3 ?_))
   refine j_ 9 rfl zk (ao_ (news:=List.flatMap N_ [(n:Int)]) bP_ hw21 rfl rfl zp rfl (bG_ zp) (fun u hu=>ar_ bp_ hu) (by simp only[maxLen];omega) (by omega) rfl fun sv12 Hr12 hr12=>?_)
   have hq12:=zsa hr12
   refine Zz 2 ?_
   refine K_ zs (j_ 11 rfl zk (aG_ (k:=((Fc.b s.fact),(Fc.r s.fact))) (dd:=(n:Int)) ho21 (by rw[bg_];exact hq12) rfl rfl rfl (aW_ (g_ (e_ d_) (p_ l_ l_))) fun H22 hM22=>?_))
   refine Zz 2 ?_
   refine K_ zs (Zz 2 ?_)
   refine u_ (q_ (e_ d_) (q_ (e_ d_) (q_ (e_ d_) (q_ (e_ d_) (q_ (e_ d_) (q_ (e_ d_) (q_ (e_ d_) (ak_ (e_ d_))))))))) (cg_ ?_)
   have hXab:aS_ str N_ 3 1 (x_n.add s n).above B.ab h_n.a:=by have e:(x_n.add s n).above=(x_n.above):=(by rw[Jx.add,if_neg (by omega),if_pos hkk]);rw[e];exact hja
   have hXub:aS_ str N_ 3 1 (x_n.add s n).under B.ub H18:=by have e:(x_n.add s n).under=((x_n.under)++[((Fc.b s.fact),(n:Int))]):=(by rw[Jx.add,if_neg (by omega),if_pos hkk]);rw[e];exact hM18
   have hXob:aS_ aU_ N_ 3 1 (x_n.add s n).frm B.ob H20:=by have e:(x_n.add s n).frm=((x_n.frm)++[(((Fc.a s.fact),(Fc.r s.fact)),(n:Int))]):=(by rw[Jx.add,if_neg (by omega),if_pos hkk]);rw[e];exact hM20
   have hXib:aS_ aU_ N_ 3 1 (x_n.add s n).into B.ib H22:=by have e:(x_n.add s n).into=((x_n.into)++[(((Fc.b s.fact),(Fc.r s.fact)),(n:Int))]):=(by rw[Jx.add,if_neg (by omega),if_pos hkk]);rw[e];exact hM22
   have hXrb:aS_ aU_ N_ 3 1 (x_n.add s n).ranges B.rb h_n.r:=by have e:(x_n.add s n).ranges=(x_n.ranges):=(by rw[Jx.add,if_neg (by omega),if_pos hkk]);rw[e];exact hjr
   have hXsb:aS_ aU_ N_ 3 1 (x_n.add s n).firms B.sb h_n.s:=by have e:(x_n.add s n).firms=(x_n.firms):=(by rw[Jx.add,if_neg (by omega),if_pos hkk]);rw[e];exact hjm
   refine Zz 4 ?_
   refine n_ (iD_ B p A fm afm (x_n.add s n) hv hfd hpl n (n+1) s.fact l_n y_n hS_n hL_n.eng hB hX.1 hX.2 hn1 hfm hn0 H20 H22 hXob hXib hkk hfr hAt) rfl (p_ (c_ (c_ (c_ (c_ (c_ (c_ (c_ (c_ (e_ l_))))))))) (p_ (c_ (c_ (c_ (c_ (c_ (c_ (c_ (c_ l_)))))))) (g_ (c_ (c_ (c_ (c_ (c_ (c_ d_)))))) (g_ (c_ (c_ (c_ (c_ (c_ (c_ d_)))))) (c_ (c_ (c_ (c_ (c_ (c_ (e_ (e_ (e_ V_))))))))))))) zf rfl fun⟨⟨lr9,yr9⟩,hyr9,hEr9,hqr9,hDr9,hRr9⟩=>?_
   dsimp only
   simp only[PSt.own,List.cons_append,List.append_assoc]
   have hp9:l_n <+: lr9:=hqr9
   refine u_ (q_ (e_ (e_ d_)) (q_ (e_ (e_ d_)) (q_ (e_ (e_ (e_ d_))) (q_ (e_ (e_ (e_ d_))) (q_ (e_ (e_ (e_ d_))) (q_ (e_ (e_ (e_ d_))) (q_ (e_ (e_ (e_ d_))) (ak_ (e_ (e_ (e_ d_))))))))))) (Zz 6 ?_)
   refine n_ (iE_ B p A fm afm (x_n.add s n) hv hfd hpl n (n+1) s.fact lr9 yr9 hyr9 hEr9 hB (by rw[eR_ hp9 hls1];exact hX.1) hX.2 hn1 hfm hn0 h_n.a hXab hkk hfr (hAt.pre hp9)) rfl (p_ (c_ (c_ (c_ (c_ (c_ (c_ (c_ (c_ (e_ (e_ (e_ (e_ l_)))))))))))) (g_ d_ (g_ d_ (c_ (c_ (c_ (c_ (c_ (c_ (e_ (e_ l_))))))))))) zf rfl fun⟨⟨lr10,yr10⟩,hyr10,hEr10,hqr10,hDr10,hRr10⟩=>?_
   dsimp only
   simp only[PSt.own,List.cons_append,List.append_assoc]
   have hp10:l_n <+: lr10:=hp9.trans hqr10
   refine u_ (q_ (e_ d_) (q_ (e_ d_) (q_ (e_ (e_ d_)) (q_ (e_ (e_ d_)) (q_ (e_ (e_ d_)) (q_ (e_ (e_ d_)) (q_ (e_ (e_ d_)) (ak_ (e_ (e_ d_)))))))))) (Zz 8 ?_)
   exact y_ ⟨(n+1,lr10,(x_n.add s n),yr10,(IxH.mk h_n.a H18 H20 H22 h_n.r h_n.s)),hyr10,hL_n.next hs hEr10 hp10 (pn_ hv hfd hX.1 hkk hqr9 hqr10 hRr9 hRr10 (gz_ l_n)),⟨hXab,hXub,hXob,hXib,hXrb,hXsb⟩⟩ (by dsimp only;omega) zl zp zf
  have hkk:s.fact.kind=1:=hr3
  have hAt:At l_n n (C_ s.fact.a s.fact.b):=qM_ hL_n.eng hv hs hkk
  refine Zz 4 ?_
  have hbb23:=Nat.le_trans (bc_ (x_n.above) (Fc.a s.fact)) (show ((x_n.above)).length≤100000000 from by have q1:=hL_n.ixl.above;omega)
  refine iz_ dV_ (Fc.a s.fact) hja (c_ (c_ (c_ l_))) fun es23 ce23 ve23 Hk23 Hx23 hw23 ho23=>?_
  refine u_ (q_ d_ (q_ (e_ (e_ d_)) (q_ (e_ (e_ d_)) (ak_ (e_ (e_ d_)))))) (cg_ ?_)
  refine ae_ ((b1,.cells (Fc.cells s.fact).toArray 24 (0,0))::((B.g,.cells #[.slice B.pad (List.length p) B.pcap,.map (some B.pb),y_n.sv,.map (some B.kb),.map (some B.ab),.map (some B.ub),.map (some B.ob),.map (some B.ib),.map (some B.rb),.map (some B.sb)] 105 (0,0))::((B.kb,.map y_n.es y_n.c)::[]))) zk ?_
  refine s_ 4 [0,1,2,3,4,5,6,7,8,9,10,11,13] zk zs (Zz 14 ?_)
  refine bW_ 12 14 rfl rfl zk ?_ ?_
  ·refine i_ (cN_ (k:=(Fc.a s.fact)) dV_ ho23 be_ Z_ rfl rfl 0 rfl) rfl (Zz 3 ?_)
   refine j_ 14 rfl zk (S_ f_ o_ A_ rfl rfl rfl rfl rfl rfl fun b18=>Zz 3 ?_)
   refine j_ 15 rfl zk (ao_ (news:=List.flatMap N_ [(n:Int)]) bP_ hw23 rfl rfl zp rfl (by_ 0 rfl) (fun u hu=>ar_ bp_ hu) (by simp only[maxLen];omega) (by omega) rfl fun sv13 Hr13 hr13=>?_)
   have hq13:=zsa hr13
   refine Zz 3 ?_
   refine j_ 16 rfl zk (da_ (k:=(Fc.a s.fact)) (dd:=(n:Int)) dV_ ho23 (by rw[bg_];exact hq13) (.inr rfl) be_ rfl rfl rfl (aW_ (g_ (e_ (c_ d_)) (p_ l_ (c_ (c_ (c_ (c_ l_))))))) fun H24 hM24=>?_)
   refine Zz 5 ?_
   refine u_ (q_ (e_ d_) (q_ (e_ d_) (q_ (e_ d_) (ak_ (e_ d_))))) (cg_ ?_)
   have hXab:aS_ str N_ 3 1 (x_n.add s n).above B.ab H24:=by have e:(x_n.add s n).above=((x_n.above)++[((Fc.a s.fact),(n:Int))]):=(by rw[Jx.add,if_pos hkk]);rw[e];exact hM24
   have hXub:aS_ str N_ 3 1 (x_n.add s n).under B.ub h_n.u:=by have e:(x_n.add s n).under=(x_n.under):=(by rw[Jx.add,if_pos hkk]);rw[e];exact hju
   have hXob:aS_ aU_ N_ 3 1 (x_n.add s n).frm B.ob h_n.o:=by have e:(x_n.add s n).frm=(x_n.frm):=(by rw[Jx.add,if_pos hkk]);rw[e];exact hjo
   have hXib:aS_ aU_ N_ 3 1 (x_n.add s n).into B.ib h_n.i:=by have e:(x_n.add s n).into=(x_n.into):=(by rw[Jx.add,if_pos hkk]);rw[e];exact hji
   have hXrb:aS_ aU_ N_ 3 1 (x_n.add s n).ranges B.rb h_n.r:=by have e:(x_n.add s n).ranges=(x_n.ranges):=(by rw[Jx.add,if_pos hkk]);rw[e];exact hjr
   have hXsb:aS_ aU_ N_ 3 1 (x_n.add s n).firms B.sb h_n.s:=by have e:(x_n.add s n).firms=(x_n.firms):=(by rw[Jx.add,if_pos hkk]);rw[e];exact hjm
   refine Zz 4 ?_
   refine n_ (kK_ B p A fm afm (x_n.add s n) (fun _=>(none,0)) (fun _=>(none,0)) (fun _=>(none,0)) (fun _=>(none,0)) (fun _=>(none,0)) (fun _=>(none,0)) hv hfd hpl n (n+1) s.fact l_n y_n hS_n hL_n.eng hB (fun _=>False) (fun _ _ _ _ _ _ q=>q) hX.1 hX.2 hn1 hfm hn0 hkk hAt) rfl (g_ (c_ (c_ d_)) (g_ (c_ (c_ d_)) (c_ (c_ (e_ (e_ (e_ (e_ (e_ V_))))))))) (fun v _ h=>by exact⟨h.2.1,h.2.2.1,h.1,fun _ q=>q.elim,trivial⟩) rfl fun⟨⟨lr11,yr11⟩,hyr11,hEr11,hqr11,hDr11,hRr11⟩=>?_
   dsimp only
   simp only[PSt.own,List.cons_append,List.append_assoc]
   have hp11:l_n <+: lr11:=hqr11
   refine u_ (q_ d_ (q_ d_ (q_ (e_ d_) (ak_ (e_ d_))))) (Zz 6 ?_)
   refine n_ (nt_ B p A fm afm (x_n.add s n) hv hfd hpl n (n+1) s.fact lr11 yr11 hyr11 hEr11 hB (by rw[eR_ hp11 hls1];exact hX.1) hX.2 hn1 hfm hn0 h_n.i h_n.u hXib hXub hkk (hAt.pre hp11)) rfl (p_ (c_ (c_ (c_ (c_ (e_ (e_ (e_ (e_ l_)))))))) (p_ (c_ (c_ (c_ (c_ (e_ (e_ l_)))))) (g_ d_ (g_ d_ (c_ (c_ l_)))))) zf rfl fun⟨⟨lr12,yr12⟩,hyr12,hEr12,hqr12,hDr12,hRr12⟩=>?_
   dsimp only
   simp only[PSt.own,List.cons_append,List.append_assoc]
   have hp12:l_n <+: lr12:=hp11.trans hqr12
   refine u_ (q_ (e_ (e_ d_)) (q_ (e_ (e_ d_)) (q_ (e_ (e_ (e_ d_))) (ak_ (e_ (e_ (e_ d_))))))) (Zz 8 ?_)
   exact y_ ⟨(n+1,lr12,(x_n.add s n),yr12,(IxH.mk H24 h_n.u h_n.o h_n.i h_n.r h_n.s)),hyr12,hL_n.next hs hEr12 hp12 (uq_ hv hfd hX.1 hkk hqr11 hqr12 hfl hRr11 hRr12 (gz_ l_n)),⟨hXab,hXub,hXob,hXib,hXrb,hXsb⟩⟩ (by dsimp only;omega) zl zp zf
  refine S_ f_ o_ A_ rfl rfl rfl rfl rfl rfl fun b19=>Zz 3 ?_
  refine j_ 12 rfl zk (i_ (cN_ (k:=(Fc.a s.fact)) dV_ ho23 be_ Z_ rfl rfl 1 rfl) rfl (Zz 3 ?_))
  refine j_ 15 rfl zk (ao_ (news:=List.flatMap N_ [(n:Int)]) bP_ hw23 rfl rfl zp rfl (by_ 0 rfl) (fun u hu=>ar_ bp_ hu) (by simp only[maxLen];omega) (by omega) rfl fun sv14 Hr14 hr14=>?_)
  have hq14:=zsa hr14
  refine Zz 3 ?_
  refine j_ 16 rfl zk (da_ (k:=(Fc.a s.fact)) (dd:=(n:Int)) dV_ ho23 (by rw[bg_];exact hq14) (.inr rfl) be_ rfl rfl rfl (aW_ (g_ (e_ (c_ d_)) (p_ l_ (c_ (c_ (c_ (c_ l_))))))) fun H25 hM25=>?_)
  refine Zz 5 ?_
  refine u_ (q_ (e_ d_) (q_ (e_ d_) (q_ (e_ d_) (ak_ (e_ d_))))) (cg_ ?_)
  have hXab:aS_ str N_ 3 1 (x_n.add s n).above B.ab H25:=by have e:(x_n.add s n).above=((x_n.above)++[((Fc.a s.fact),(n:Int))]):=(by rw[Jx.add,if_pos hkk]);rw[e];exact hM25
  have hXub:aS_ str N_ 3 1 (x_n.add s n).under B.ub h_n.u:=by have e:(x_n.add s n).under=(x_n.under):=(by rw[Jx.add,if_pos hkk]);rw[e];exact hju
  have hXob:aS_ aU_ N_ 3 1 (x_n.add s n).frm B.ob h_n.o:=by have e:(x_n.add s n).frm=(x_n.frm):=(by rw[Jx.add,if_pos hkk]);rw[e];exact hjo
  have hXib:aS_ aU_ N_ 3 1 (x_n.add s n).into B.ib h_n.i:=by have e:(x_n.add s n).into=(x_n.into):=(by rw[Jx.add,if_pos hkk]);rw[e];exact hji
  have hXrb:aS_ aU_ N_ 3 1 (x_n.add s n).ranges B.rb h_n.r:=by have e:(x_n.add s n).ranges=(x_n.ranges):=(by rw[Jx.add,if_pos hkk]);rw[e];exact hjr
  have hXsb:aS_ aU_ N_ 3 1 (x_n.add s n).firms B.sb h_n.s:=by have e:(x_n.add s n).firms=(x_n.firms):=(by rw[Jx.add,if_pos hkk]);rw[e];exact hjm
  refine Zz 4 ?_
  refine n_ (kK_ B p A fm afm (x_n.add s n) (fun _=>(none,0)) (fun _=>(none,0)) (fun _=>(none,0)) (fun _=>(none,0)) (fun _=>(none,0)) (fun _=>(none,0)) hv hfd hpl n (n+1) s.fact l_n y_n hS_n hL_n.eng hB (fun _=>False) (fun _ _ _ _ _ _ q=>q) hX.1 hX.2 hn1 hfm hn0 hkk hAt) rfl (g_ (c_ (c_ d_)) (g_ (c_ (c_ d_)) (c_ (c_ (e_ (e_ (e_ (e_ (e_ V_))))))))) (fun v _ h=>by exact⟨h.2.1,h.2.2.1,h.1,fun _ q=>q.elim,trivial⟩) rfl fun⟨⟨lr13,yr13⟩,hyr13,hEr13,hqr13,hDr13,hRr13⟩=>?_
  dsimp only
  simp only[PSt.own,List.cons_append,List.append_assoc]
  have hp13:l_n <+: lr13:=hqr13
  refine u_ (q_ d_ (q_ d_ (q_ (e_ d_) (ak_ (e_ d_))))) (Zz 6 ?_)
  refine n_ (nt_ B p A fm afm (x_n.add s n) hv hfd hpl n (n+1) s.fact lr13 yr13 hyr13 hEr13 hB (by rw[eR_ hp13 hls1];exact hX.1) hX.2 hn1 hfm hn0 h_n.i h_n.u hXib hXub hkk (hAt.pre hp13)) rfl (p_ (c_ (c_ (c_ (c_ (e_ (e_ (e_ (e_ l_)))))))) (p_ (c_ (c_ (c_ (c_ (e_ (e_ l_)))))) (g_ d_ (g_ d_ (c_ (c_ l_)))))) zf rfl fun⟨⟨lr14,yr14⟩,hyr14,hEr14,hqr14,hDr14,hRr14⟩=>?_
  dsimp only
  simp only[PSt.own,List.cons_append,List.append_assoc]
  have hp14:l_n <+: lr14:=hp13.trans hqr14
  refine u_ (q_ (e_ (e_ d_)) (q_ (e_ (e_ d_)) (q_ (e_ (e_ (e_ d_))) (ak_ (e_ (e_ (e_ d_))))))) (Zz 8 ?_)
  exact y_ ⟨(n+1,lr14,(x_n.add s n),yr14,(IxH.mk H25 h_n.u h_n.o h_n.i h_n.r h_n.s)),hyr14,hL_n.next hs hEr14 hp14 (uq_ hv hfd hX.1 hkk hqr13 hqr14 hfl hRr13 hRr14 (gz_ l_n)),⟨hXab,hXub,hXob,hXib,hXrb,hXsb⟩⟩ (by dsimp only;omega) zl zp zf
 obtain⟨hlx1,x1,hx1,hmx1⟩:=zge (show i<List.length A by omega)
 refine Zz 20 ?_
 refine n_ (cZ_ x1 x1) rfl m_ zt rfl fun _=>n_ (cb_ B p 1 (-1) (C_ x1 x1) none 0 ([]:List Int) l_i y_i.sv y_i.es y_i.c y_i.h hS_i.1 hS_i.2 (Nat.le_trans (hB _ hE_i) (by decide))) rfl zp (fun v _ h=>by exact⟨h.1,.inl rfl,trivial⟩) rfl fun⟨⟨l1,y1⟩,hl1,hy1⟩=>?_
 dsimp only
 simp only[PSt.own,List.cons_append]
 have hE1:Eng p A l1:=bD_ hl1 hE_i (Cor.r1 hmx1) (show (1:Int)≤14 from by decide)
 have hq1:l_i <+: l1:=bB_ hl1
 have hm1:=bC_ hl1;dsimp only at hm1
 refine Zz 6 ?_
 refine n_ (cZ_ x1 [42]) rfl m_ zt rfl fun _=>n_ (cb_ B p 2 (-1) (C_ x1 [42]) none 0 ([]:List Int) l1 y1.sv y1.es y1.c y1.h hy1.1 hy1.2 (Nat.le_trans (hB _ hE1) (by decide))) rfl zp (fun v _ h=>by exact⟨h.1,.inl rfl,trivial⟩) rfl fun⟨⟨l2,y2⟩,hl2,hy2⟩=>?_
 dsimp only
 simp only[PSt.own,List.cons_append]
 have hE2:Eng p A l2:=bD_ hl2 hE1 (Cor.r2 hmx1) (show (2:Int)≤14 from by decide)
 have hq2:l1 <+: l2:=bB_ hl2
 have hm2:=bC_ hl2;dsimp only at hm2
 refine Zz 8 ?_
 refine i_ (H_ ef_ rfl rfl) rfl (i_ (aR_ (k:=(Ky.mk 7 [] [])) (adr:=afm) eJ_ bA_ Z_ rfl rfl zf) rfl (Zz 5 ?_))
 refine Q_ (ι:={y:Nat×List Stp×PSt // y.1≤List.length (lat fm (Ky.mk 7 [] []))∧y.2.2.ok y.2.1∧Eng p A y.2.1∧l2 <+: y.2.1∧eD_ p (lat fm (Ky.mk 7 [] [])) y.1 (fun x=>I_ x1 x.r x1∈fcs y.2.1)}) (fun y=>[(0,zp_ B.g 0),(12,.slice aad (List.length A) acap),(13,.int .i64 (List.length A:Int)),(14,.int .i64 (i:Int)),(5,str x1),(32,.slice (Prod.fst (afm (Ky.mk 7 [] []))) (List.length (lat fm (Ky.mk 7 [] []))) (Prod.snd (afm (Ky.mk 7 [] [])))),(33,.int .i64 (List.length (lat fm (Ky.mk 7 [] [])):Int)),(34,.int .i64 (y.1.1:Int))]) (fun y=>((B.g,.cells #[.slice B.pad (List.length p) B.pcap,.map (some B.pb),y.1.2.2.sv,.map (some B.kb),.map (some B.ab),.map (some B.ub),.map (some B.ob),.map (some B.ib),.map (some B.rb),.map (some B.sb)] 105 (0,0))::((B.kb,.map y.1.2.2.es y.1.2.2.c)::(Ha++(Hu++(Ho++(Hi++(Hr++(Hm++y.1.2.2.h))))))))) (fun y=>[ax_ y.1.2.1,af_ B.pad (List.flatMap Pc.cells p),mlF Tryz.prog 111 Ky.val N_ B.pb fm afm,af_ aad (List.flatMap aV_ A)]) (fun y=>List.length (lat fm (Ky.mk 7 [] [])) - y.1.1) ⟨((0:Nat),l2,y2),by simp,by exact hy2,by exact hE2,List.prefix_refl _,(eD_.zero)⟩ zl zp zf ?_
 rintro ⟨⟨j,l_j,y_j⟩,hi_j,hS_j,hE_j,hp_j,hu_j⟩
 dsimp only at hi_j hS_j hE_j hp_j hu_j ⊢
 have hb_j:=Nat.le_trans (Nat.le_trans (bc_ fm (Ky.mk 7 [] [])) hfd.len) (Nat.mul_le_mul_left 2 hpl)
 refine Zi 2 (fun hr6=>?_) fun hr6=>?_
 ·refine Zz 11 ?_
  exact y_ ⟨(i+1,l_j,y_j),hlx1,hS_j,hE_j,(hp_i.trans ((((List.prefix_refl l_i).trans hq1).trans hq2).trans hp_j)),(hu_i.step (fun x hx=>hx.mono ((((List.prefix_refl l_i).trans hq1).trans hq2).trans hp_j)) hx1  (by exact⟨ai_ (((List.prefix_refl l1).trans hq2).trans hp_j) hm1,ai_ ((List.prefix_refl l2).trans hp_j) hm2,hu_j.done (by omega)⟩))⟩ (by dsimp only;omega) zl zp zh
 obtain⟨hlx2,x2,hx2,hmx2⟩:=zge (show j<List.length (lat fm (Ky.mk 7 [] [])) by omega)
 obtain⟨k_x2,z_x2,e_x2,hz_x2,hk_x2⟩:=hfd.snd _ _ (bb_.1 hmx2)
 subst e_x2
 have hlz_x2:k_x2<List.length p:=(List.getElem?_eq_some_iff.1 hz_x2).1
 have hmz_x2:z_x2∈p:=List.mem_of_getElem? hz_x2
 refine Zz 10 ?_
 refine i_ (X_ f_ o_ rfl rfl (fun v _ h=>G_ (n:=1) D_ (by decide) (by exact (aw_ h.2.2.1 (Ky.mk 7 [] []))) hx2) (by omega) (by first|omega|(simp;done))) rfl ?_
 refine i_ (at_ (ad:=(Prod.fst (afm (Ky.mk 7 [] [])))) O_ rfl (fun v _ h=>by exact (aw_ h.2.2.1 (Ky.mk 7 [] []))) (t_ D_ hx2 0 _ rfl)) rfl (Zz 15 ?_)
 refine n_ (dD_ x1 z_x2.r x1) rfl m_ zt rfl fun _=>Zz 1 ?_
 refine n_ (cb_ B p 10 (k_x2:Int) (I_ x1 z_x2.r x1) none 0 ([]:List Int) l_j y_j.sv y_j.es y_j.c y_j.h hS_j.1 hS_j.2 (Nat.le_trans (hB _ hE_j) (by decide))) rfl zp (fun v _ h=>by exact⟨h.1,.inl rfl,trivial⟩) rfl fun⟨⟨l3,y3⟩,hl3,hy3⟩=>?_
 dsimp only
 simp only[PSt.own,List.cons_append]
 have hE3:Eng p A l3:=bD_ hl3 hE_j (cor10 hz_x2 hk_x2 hmx1) (show (10:Int)≤14 from by decide)
 have hq3:l_j <+: l3:=bB_ hl3
 have hm3:=bC_ hl3;dsimp only at hm3
 refine Zz 7 ?_
 exact y_ ⟨(j+1,l3,y3),hlx2,hy3,hE3,(hp_j.trans ((List.prefix_refl l_j).trans hq3)),(hu_j.step (fun x hx=>ai_ ((List.prefix_refl l_j).trans hq3) hx) hx2 hz_x2 (by exact hm3))⟩ (by dsimp only;omega) zl zp zf
end Go.Proofs.YtkeanlfhghlgiaaGreatDoor
namespace Go.Proofs.YtkeanlfhghlgiaaGreatDoor
open Go Go.Sx Go.Proofs
attribute [local irreducible] Code.wp wpList wpAnyH
open Go.Vs
theorem nL_ (B:PB) (p:List Pc) (A:List Str) (hv:∀ z∈p,z.vok) (f:Fc) (l:List Stp) (x:Jx) (sv:Value) (es:Array MapEntry) (c:Nat) (Hr0:Hp) (hr:zR 48 9 Stp.cells sv l Hr0) (hK:IntE Fc.val es (fcs l) (iot (List.length l))) (hL:LoopP p A l.length l x) (hB:∀ l,Eng p A l→l.length≤65536) (hd:ui_ l f) (hw:f.kind=3→f=T_ f.a f.r f.lo f.hi) (Hr:Hp) (hm:aS_ aU_ N_ 3 1 x.ranges B.rb Hr):Tri Tryz.prog 34 #[zp_ B.g 0,Fc.val f] ((B.g,.cells #[.slice B.pad (List.length p) B.pcap,.map (some B.pb),sv,.map (some B.kb),.map (some B.ab),.map (some B.ub),.map (some B.ob),.map (some B.ib),.map (some B.rb),.map (some B.sb)] 105 (0,0))::(B.kb,.map es c)::(Hr0++Hr)) [af_ B.pad (List.flatMap Pc.cells p),ax_ l] (fun y:{y:List Stp×Option Addr×Nat // PrfL p A f y.1∧y.1.length≤List.length l+1∧y.1.length≤y.2.2∧y.2.2≤maxLen∧(y.2.1=none→y.2.2=0)}=>.slice y.1.2.1 y.1.1.length y.1.2.2) (fun _=>[]) (fun y=>[af_ y.1.2.1 (List.flatMap Stp.cells y.1.1),ax_ y.1.1]):=by
 refine w_ Tryz.func34 rfl rfl Tryz.ntmps34 rfl fun v0=>?_
 have hE:=hL.eng
 have hx:x.of l:=by have q:=hL.ix;rwa [List.take_length]at q
 have hRg:Lgs x.ranges (l.take l.length) (fun s=>(s.fact.a,s.fact.r)) (fun s=>s.fact.kind=3):=hL.ix.ranges
 have hbl0:=hB l hE
 refine Zz 2 ?_
 refine as_ rfl rfl fun b1=>Zz 6 ?_
 refine s_ 6 [0,1,2,3,4] zk zs (Zz 6 ?_)
 refine j_ 5 rfl zk (eH_ (k:=f) fe_ dZ_ A_ rfl rfl hK zp rfl fun rl1 nl1 hrl1 hnl1=>Zz 3 ?_)
 refine s_ 0 [6,7,8,9,10] zk zs (Zz 13 ?_)
 cases rl1
 ·replace hrl1:=zdf hrl1
  refine Zz 6 ?_
  refine s_ 7 [0,1,2,3,4,5] zk zs (Zz 7 ?_)
  refine j_ 6 rfl zk (n_ (cZ_ f.a [33]) rfl m_ zt rfl fun _=>Zz 3 ?_)
  refine j_ 7 rfl zk (eH_ (k:=(C_ f.a [33])) fe_ dZ_ A_ rfl rfl hK zp rfl fun rl2 nl2 hrl2 hnl2=>Zz 3 ?_)
  refine s_ 0 [8,9,10,11,12] zk zs (Zz 13 ?_)
  cases rl2
  ·replace hrl2:=zdf hrl2
   refine Zz 5 ?_
   have hbb1:=Nat.le_trans (bc_ x.ranges (Fc.a f,Fc.r f)) (show (x.ranges).length≤100000000 from by have q1:=hL.ixl.ranges;have q2:=hB l hL.eng;omega)
   refine kp_ ca_ (Fc.a f,Fc.r f) hm (c_ (c_ (c_ V_))) fun es1 ce1 ve1 Hk1 Hx1 hw1 ho1 hcl1=>?_
   refine u_ (q_ d_ (q_ (e_ (e_ d_)) (q_ (e_ (e_ d_)) (ak_ (e_ (e_ d_)))))) (Zz 1 ?_)
   refine s_ 2 [0,1,2,3,4,5,6,7,8,11] zk zs (Zz 8 ?_)
   refine R_ rfl (H_ gE_ rfl rfl) rfl (Zz 2 ?_)
   refine j_ 9 rfl zk (i_ (cN_ (k:=(Fc.a f,Fc.r f)) ca_ ho1 aO_ Z_ rfl rfl 0 rfl) rfl (Zz 3 ?_))
   refine s_ 0 [10] zk zs (R_ rfl (ch_ hw1 f_ rfl) rfl (Zz 4 ?_))
   refine Q_ (ι:={y:Nat // y≤List.length (lat x.ranges (Fc.a f,Fc.r f))∧fD_ l (lat x.ranges (Fc.a f,Fc.r f)) y (fun u=>¬ (f.kind=3∧f.lo≤u.fact.lo∧u.fact.hi≤f.hi))}) (fun y=>[(0,zp_ B.g 0),(3,zp_ b1 0),(4,.slice none 0 0),(60,ve1),(61,.int .i64 (List.length (lat x.ranges (Fc.a f,Fc.r f)):Int)),(62,.int .i64 (y.1:Int))]) (fun y=>((B.rb,.map es1 ce1)::((b1,.cells #[.int .i64 f.kind,str f.a,str f.b,str f.r,.int .i64 f.lo,.int .i64 f.hi] 24 (0,0))::((B.g,.cells #[.slice B.pad (List.length p) B.pcap,.map (some B.pb),sv,.map (some B.kb),.map (some B.ab),.map (some B.ub),.map (some B.ob),.map (some B.ib),.map (some B.rb),.map (some B.sb)] 105 (0,0))::((B.kb,.map es c)::(Hk1++(Hx1++Hr0))))))) (fun y=>[af_ B.pad (List.flatMap Pc.cells p),ax_ l]) (fun y=>List.length (lat x.ranges (Fc.a f,Fc.r f)) - y.1) ⟨(0:Nat),by simp,fD_.zero⟩ zl zp zh ?_
   rintro ⟨i,hi_i,hu_i⟩
   dsimp only at hi_i hu_i ⊢
   have hb_i:=hbb1
   refine Zi 2 (fun hr1=>?_) fun hr1=>?_
   ·refine Zz 7 ?_
    exact (tM_ hL hd hrl1 hrl2 (hu_i.done (by omega))).elim
   obtain⟨hlx1,x1,hx1,hmx1⟩:=zge (show i<List.length (lat x.ranges (Fc.a f,Fc.r f)) by omega)
   obtain⟨k_x1,s_x1,e_x1,hj_x1,hQ_x1,hk_x1⟩:=(hRg _ _).1 (bb_.1 hmx1)
   subst e_x1
   have hg_x1:l[k_x1]? = some s_x1:=dG_ hj_x1
   have hc_x1:l[k_x1]? = some s_x1:=dR_ (List.prefix_refl l) hg_x1
   have hlc_x1:k_x1<List.length l:=(List.getElem?_eq_some_iff.1 hc_x1).1
   dsimp only at hk_x1 hQ_x1
   refine Zz 10 ?_
   refine i_ (ah_ hw1 f_ o_ rfl rfl (by omega) (by omega)) rfl (i_ (av_ hw1 zp O_ rfl (t_ D_ hx1 0 _ rfl)) rfl (Zz 10 ?_))
   refine i_ (ah_ hr P_ ap_ rfl rfl (by omega) (by omega)) rfl (Zz 1 ?_)
   refine i_ (fZ_ (us:=Fc.cells s_x1.fact) hr zp aX_ B_ rfl rfl (by decide) (ep_ 1 (t_ Stp.cells_len hc_x1) s_x1.fact_cells)) rfl (J_ aa_ rfl fun b2=>z_ 0 B_ rfl rfl rfl rfl rfl rfl (Zi 6 (fun hr2=>?_) fun hr2=>?_))
   ·refine Zz 24 ?_
    exact y_ ⟨i+1,hlx1,(hu_i.step (fun x hx=>hx) hx1 hg_x1 (by rintro ⟨q1,q2,q3⟩;first|omega|(simp_all;done)|(simp_all;omega)))⟩ (by dsimp only;omega) zl (g_ (c_ d_) (g_ (c_ d_) (g_ (c_ d_) (g_ (c_ d_) (p_ (c_ l_) (p_ (c_ l_) F_)))))) zh
   refine Zi 10 (fun hr3=>?_) fun hr3=>?_
   ·refine Zz 18 ?_
    exact y_ ⟨i+1,hlx1,(hu_i.step (fun x hx=>hx) hx1 hg_x1 (by rintro ⟨q1,q2,q3⟩;first|omega|(simp_all;done)|(simp_all;omega)))⟩ (by dsimp only;omega) zl (g_ (c_ d_) (g_ (c_ d_) (g_ (c_ d_) (g_ (c_ d_) (p_ (c_ l_) (p_ (c_ l_) F_)))))) zh
   refine Zi 11 (fun hr4=>?_) fun hr4=>?_
   ·refine Zz 11 ?_
    exact y_ ⟨i+1,hlx1,(hu_i.step (fun x hx=>hx) hx1 hg_x1 (by rintro ⟨q1,q2,q3⟩;first|omega|(simp_all;done)|(simp_all;omega)))⟩ (by dsimp only;omega) zl (g_ (c_ d_) (g_ (c_ d_) (g_ (c_ d_) (g_ (c_ d_) (p_ (c_ l_) (p_ (c_ l_) F_)))))) zh
   refine Zz 5 ?_
   refine ae_ ((b2,.cells (Fc.cells s_x1.fact).toArray 24 (0,0))::((B.rb,.map es1 ce1)::((b1,.cells #[.int .i64 f.kind,str f.a,str f.b,str f.r,.int .i64 f.lo,.int .i64 f.hi] 24 (0,0))::((B.g,.cells #[.slice B.pad (List.length p) B.pcap,.map (some B.pb),sv,.map (some B.kb),.map (some B.ab),.map (some B.ub),.map (some B.ob),.map (some B.ib),.map (some B.rb),.map (some B.sb)] 105 (0,0))::((B.kb,.map es c)::Hx1))))) zk ?_
   refine s_ 5 [0,1,2,3,4,5] zk zs (Zz 7 ?_)
   refine j_ 6 rfl zk (S_ f_ o_ A_ rfl rfl rfl rfl rfl rfl fun b3=>?_)
   refine aB_ (List.flatMap N_ [(k_x1:Int)]) d_ rfl ?_
   refine Zz 2 ?_
   refine K_ zs (s_ 3 [7] zk zs (R_ rfl (H_ oc_ rfl rfl) rfl (cJ_ (j_ 8 rfl zk (S_ P_ ap_ bn_ rfl rfl rfl rfl rfl rfl fun b4=>Zz 2 ?_)))))
   refine K_ (fun _ a b=>⟨Vw.sat.sub (a.perm (g_ (c_ d_) (g_ (c_ d_) (g_ (c_ d_) (g_ (c_ d_) (g_ (c_ d_) (c_ (e_ l_)))))))),b.2⟩) (j_ 9 rfl zk (ao_ (news:=List.flatMap Stp.cells [(Stp.mk 16 f (-1) (some ⟨b3,0,none⟩) 1 [(k_x1:Int)])]) hM_ hr rfl rfl (c_ (c_ (c_ (c_ (c_ (c_ (e_ V_))))))) rfl (by_ 0 rfl) (fun u hu=>ar_ Stp.cells_one hu) (by simp only[maxLen];first|omega|(simp;omega)) (by first|omega|(simp;omega)) rfl fun sv1 Hr1 hr1=>?_))
   have hq1:=zsa hr1
   refine Zz 2 ?_
   refine K_ (fun _ a b=>⟨Vw.sat.sub (a.perm (g_ (e_ (c_ d_)) (g_ (e_ (c_ d_)) (g_ (e_ (c_ d_)) (g_ (e_ (c_ d_)) (g_ (e_ (c_ d_)) (e_ (c_ V_)))))))),b.2⟩) (s_ 0 [10] zk (fun _ a b=>⟨Vw.sat.sub (a.perm (g_ (e_ (c_ d_)) (g_ (e_ (c_ d_)) (g_ (e_ (c_ d_)) (g_ (e_ (c_ d_)) (g_ (e_ (c_ d_)) (e_ (c_ V_)))))))),b.2⟩) (Zz 5 ?_))
   have hk3:f.kind=3:=by first|assumption|omega
   have hbl:=hB l hE
   refine bk_ hq1 l_ fun ad2 cp2 had2 hcad2 hmad2 hzad2=>?_
   exact al_ Tryz.results34 ⟨((l++[(Stp.mk 16 f (-1) (some ⟨b3,0,none⟩) 1 [(k_x1:Int)])]),ad2,cp2),nc_ (s:=(Stp.mk 16 f (-1) (some ⟨b3,0,none⟩) 1 [(k_x1:Int)])) hE (by assumption) (cor16 hE hv hc_x1 hQ_x1 hk_x1 (hw hk3) (by omega) (by omega)),by simp,hcad2,hmad2,hzad2⟩ (cS_ rfl had2) m_ (fun v _ h=>by exact⟨h.1,fv_ h.2.2.2.1 h.2.1,trivial⟩)
  replace hrl2:=zdt hrl2
  refine Zz 2 ?_
  refine ae_ ((b1,.cells #[.int .i64 f.kind,str f.a,str f.b,str f.r,.int .i64 f.lo,.int .i64 f.hi] 24 (0,0))::((B.g,.cells #[.slice B.pad (List.length p) B.pcap,.map (some B.pb),sv,.map (some B.kb),.map (some B.ab),.map (some B.ub),.map (some B.ob),.map (some B.ib),.map (some B.rb),.map (some B.sb)] 105 (0,0))::((B.kb,.map es c)::Hr))) zk ?_
  refine s_ 5 [0,1,2,3,4,5] zk zs (Zz 7 ?_)
  refine j_ 6 rfl zk (S_ f_ o_ A_ rfl rfl rfl rfl rfl rfl fun b5=>?_)
  refine aB_ (List.flatMap N_ [nl2]) d_ rfl ?_
  refine Zz 3 ?_
  refine s_ 3 [7] zk zs (R_ rfl (H_ oc_ rfl rfl) rfl (cJ_ (j_ 8 rfl zk (S_ P_ ap_ bn_ rfl rfl rfl rfl rfl rfl fun b6=>Zz 3 ?_))))
  refine j_ 9 rfl zk (ao_ (news:=List.flatMap Stp.cells [(Stp.mk 15 f (-1) (some ⟨b5,0,none⟩) 1 [nl2])]) hM_ hr rfl rfl zp rfl (by_ 0 rfl) (fun u hu=>ar_ Stp.cells_one hu) (by simp only[maxLen];first|omega|(simp;omega)) (by first|omega|(simp;omega)) rfl fun sv2 Hr2 hr2=>?_)
  have hq2:=zsa hr2
  refine Zz 3 ?_
  refine s_ 0 [10] zk zs (Zz 5 ?_)
  obtain⟨q1,e1,a1⟩:=hj_ (hnl2 rfl)
  have hbl:=hB l hE
  refine bk_ hq2 l_ fun ad2 cp2 had2 hcad2 hmad2 hzad2=>?_
  exact al_ Tryz.results34 ⟨((l++[(Stp.mk 15 f (-1) (some ⟨b5,0,none⟩) 1 [nl2])]),ad2,cp2),nc_ (s:=(Stp.mk 15 f (-1) (some ⟨b5,0,none⟩) 1 [nl2])) hE (by assumption) (by rw[e1];exact Cor.r15 a1),by simp,hcad2,hmad2,hzad2⟩ (cS_ rfl had2) m_ (fun v _ h=>by exact⟨h.1,fv_ h.2.2.2.1 h.2.1,trivial⟩)
 replace hrl1:=zdt hrl1
 refine Zz 2 ?_
 obtain⟨q1,e1,a1⟩:=hj_ (hnl1 rfl);subst e1
 have hlq:=a1.lt
 have hbl:=hB l hE
 refine bk_ hr (c_ (c_ (c_ l_))) fun sd0 sc0 hsd0 hcsd0 hmsd0 hzsd0=>?_
 subst hsd0
 refine Zz 6 ?_
 refine i_ (aY_ (dx_ rfl rfl rfl (fQ_ (by omega) (by omega))) (show Value.int .i64 ((q1:Int)+1)=Value.int .i64 ((q1+1:Nat):Int) from congrArg _ (by omega))) rfl (i_ (aY_ (do_ (i:=0) (j:=(q1+1:Nat)) (kl:=.i64) (kh:=.i64) P_ ap_ rfl rfl rfl (by omega) (by have:=hcsd0;omega)) (show _=Value.slice (sad sd0 sc0 0 9) (List.length (List.take (q1+1:Nat) l)) (sc0 - 0) by rw[List.length_take,Nat.min_eq_left (by omega)];rfl)) rfl ?_)
 refine Zz 4 ?_
 exact al_ Tryz.results34 ⟨(List.take (q1+1) l,(sad sd0 sc0 0 9),(sc0 - 0)),rl_ hE a1,by rw[List.length_take];omega,by dsimp only;rw[List.length_take];have:=hcsd0;omega,by have:=hmsd0;dsimp only;omega,by dsimp only;exact (fun q=>by have:=hzsd0 (fx_ q);omega)⟩ rfl m_ (fun v _ h=>by exact⟨(bv_.slice Stp.cells_len h.1 hcsd0 0 (q1+1:Nat)),ln_ h.2.2.1 (fun x hx=>List.mem_of_mem_take hx),trivial⟩)
end Go.Proofs.YtkeanlfhghlgiaaGreatDoor
namespace Go.Proofs.YtkeanlfhghlgiaaGreatDoor
open Go Go.Sx Go.Proofs
attribute [local irreducible] Code.wp wpList wpAnyH
open Go.Vs
theorem eZ_ (x:Pc) (n:Int) (ro at':Str) (fm:List (Ky×Int)) (bx bg bn:Nat) (g pb:Nat) (c0 c2 c3 c4 c5 c6 c7 c8 c9:Value) (Hm:Hp) (hm:aS_ Ky.val N_ 3 1 fm pb Hm) (hpl:fm.length≤100000000):Tri Tryz.prog 108 #[str ro,str at',zp_ bx 0,zp_ bg 0,zp_ bn 0] ((bx,.cells #[.int .i64 x.kind,str x.a,str x.b,str x.c,str x.r,str x.s,str x.t,.int .i64 x.lo,.int .i64 x.hi,.int .i64 x.frm] 52 (0,0))::(bg,.cells #[zp_ g 0] 65 (0,0))::(bn,.cells #[.int .i64 n] 3 (0,0))::(g,.cells #[c0,.map (some pb),c2,c3,c4,c5,c6,c7,c8,c9] 105 (0,0))::Hm) [] (fun _:{H:Hp // aS_ Ky.val N_ 3 1 (fm++[((Ky.mk x.kind ro at'),n)]) pb H}=>.tuple #[]) (fun y=>(bx,.cells #[.int .i64 x.kind,str x.a,str x.b,str x.c,str x.r,str x.s,str x.t,.int .i64 x.lo,.int .i64 x.hi,.int .i64 x.frm] 52 (0,0))::(bg,.cells #[zp_ g 0] 65 (0,0))::(bn,.cells #[.int .i64 n] 3 (0,0))::(g,.cells #[c0,.map (some pb),c2,c3,c4,c5,c6,c7,c8,c9] 105 (0,0))::y.1) (fun _=>[]):=by
  refine w_ Tryz.func108 rfl rfl Tryz.ntmps108 rfl fun v0=>?_
  refine Zz 6 ?_
  refine i_ (H_ ef_ rfl rfl) rfl (J_ Tryz.zeroValue111 rfl fun b1=>z_ 0 Tryz.sizeOf111 rfl rfl rfl rfl rfl rfl (Zz 2 ?_))
  refine ae_ ((b1,.cells #[.int .i64 x.kind,str ro,str at'] 111 (0,0))::((bx,.cells #[.int .i64 x.kind,str x.a,str x.b,str x.c,str x.r,str x.s,str x.t,.int .i64 x.lo,.int .i64 x.hi,.int .i64 x.frm] 52 (0,0))::((bg,.cells #[zp_ g 0] 65 (0,0))::((bn,.cells #[.int .i64 n] 3 (0,0))::((g,.cells #[c0,.map (some pb),c2,c3,c4,c5,c6,c7,c8,c9] 105 (0,0))::[]))))) zk ?_
  refine s_ 6 [0,1,2,3,4,5] zk zs (Zz 7 ?_)
  refine j_ 6 rfl zk (S_ f_ o_ A_ rfl rfl rfl rfl rfl rfl fun b2=>Zz 3 ?_)
  refine j_ 7 rfl zk ?_
  have hbb1:=Nat.le_trans (bc_ fm (Ky.mk x.kind ro at')) hpl
  refine bH_ (k:=(Ky.mk x.kind ro at')) eJ_ hm bA_ Z_ rfl rfl (c_ (c_ (c_ (c_ (c_ F_))))) rfl fun es1 ce1 ie1 se1 ve1 Hk1 Hx1 ho1 hw1=>Zz 2 ?_
  refine K_ (fun _ a b=>⟨Vw.sat.sub (a.perm (g_ (c_ (e_ (e_ (c_ d_)))) (g_ (c_ (e_ (e_ (c_ d_)))) (g_ (c_ (e_ (e_ (c_ d_)))) (g_ (c_ (e_ (e_ (c_ d_)))) (c_ (e_ (e_ (c_ d_))))))))),b⟩) (s_ 2 [8,10] zk (fun _ a b=>⟨Vw.sat.sub (a.perm (g_ (c_ (e_ (e_ (c_ d_)))) (g_ (c_ (e_ (e_ (c_ d_)))) (g_ (c_ (e_ (e_ (c_ d_)))) (g_ (c_ (e_ (e_ (c_ d_)))) (c_ (e_ (e_ (c_ d_))))))))),b⟩) (Zz 3 ?_))
  refine j_ 9 rfl zk (ao_ (news:=List.flatMap N_ [n]) bP_ hw1 rfl rfl zp rfl (bG_ zp) (fun u hu=>ar_ bp_ hu) (by simp only[maxLen];omega) (by omega) rfl fun sv1 Hr1 hr1=>?_)
  have hq1:=zsa hr1
  refine Zz 2 ?_
  refine K_ (fun _ a b=>⟨Vw.sat.sub (a.perm (g_ (e_ (c_ (e_ (c_ d_)))) (g_ (e_ (c_ (e_ (c_ d_)))) (g_ (e_ (c_ (e_ (c_ d_)))) (g_ (e_ (c_ (e_ (c_ d_)))) (e_ (c_ (e_ (c_ d_))))))))),b⟩) (j_ 11 rfl zk (aG_ (k:=(Ky.mk x.kind ro at')) (dd:=n) ho1 (by rw[bg_];exact hq1) rfl rfl rfl (aW_ (g_ (e_ d_) (p_ l_ l_))) fun H2 hM2=>?_))
  refine Zz 2 ?_
  refine K_ (fun _ a b=>⟨Vw.sat.sub (a.perm (g_ (e_ (c_ d_)) (g_ (e_ (c_ d_)) (g_ (e_ (c_ d_)) (g_ (e_ (c_ d_)) (e_ (c_ d_))))))),b⟩) (Zz 2 ?_)
  exact end0 Tryz.results108 ⟨H2,hM2⟩ rfl (g_ (e_ (c_ (c_ d_))) (g_ (e_ (c_ (c_ d_))) (g_ (e_ (c_ (c_ d_))) (g_ (e_ (c_ (c_ d_))) l_)))) zt
theorem oG_ (x:Pc) (n:Int) (fm:List (Ky×Int)) (g pb:Nat) (c0 c2 c3 c4 c5 c6 c7 c8 c9:Value) (Hm:Hp) (hm:aS_ Ky.val N_ 3 1 fm pb Hm) (hpl:fm.length≤90000000):Tri Tryz.prog 64 #[zp_ g 0,Pc.val x,.int .i64 n] ((g,.cells #[c0,.map (some pb),c2,c3,c4,c5,c6,c7,c8,c9] 105 (0,0))::Hm) [] (fun _:{H:Hp // aS_ Ky.val N_ 3 1 (fm++(kys x).map fun k=>(k,n)) pb H}=>.tuple #[]) (fun y=>(g,.cells #[c0,.map (some pb),c2,c3,c4,c5,c6,c7,c8,c9] 105 (0,0))::y.1) (fun _=>[]):=by
 refine w_ Tryz.func64 rfl rfl Tryz.ntmps64 rfl fun v0=>?_
 refine Zz 2 ?_
 refine as_ rfl rfl fun b1=>as_ rfl rfl fun b2=>as_ rfl rfl fun b3=>Zz 4 ?_
 refine i_ (cD_ rfl rfl) rfl (Zi 13 (fun hr1=>?_) fun hr1=>?_)
 ·refine Zi 6 (fun hr2=>?_) fun hr2=>?_
  ·refine Zi 5 (fun hr3=>?_) fun hr3=>?_
   ·refine Zi 6 (fun hr4=>?_) fun hr4=>?_
    ·refine Zi 6 (fun hr5=>?_) fun hr5=>?_
     ·refine Zi 7 (fun hr6=>?_) fun hr6=>?_
      ·refine Zi 5 (fun hr7=>?_) fun hr7=>?_
       ·refine Zi 6 (fun hr8=>?_) fun hr8=>?_
        ·refine Zi 6 (fun hr9=>?_) fun hr9=>?_
         ·refine Zz 6 ?_
          have e1:fm=fm++(kys x).map fun k=>(k,n):=by simp[kys,bZ_, *]
          exact end0 di_ ⟨Hm,e1▸hm⟩ rfl zp zt
         refine Zz 6 ?_
         refine au_ (eZ_ x n [] [] fm b2 b1 b3 g pb c0 c2 c3 c4 c5 c6 c7 c8 c9 Hm hm (by first|omega|(simp;omega))) rfl rfl zp zt rfl fun⟨HP1,hP1⟩=>?_
         dsimp only
         simp only[List.cons_append,List.append_nil]
         refine Zz 2 ?_
         have e1:(fm++[((Ky.mk x.kind [] []),n)])=fm++(kys x).map fun k=>(k,n):=by simp[kys,bZ_, *]
         exact end0 di_ ⟨HP1,e1▸hP1⟩ rfl zp zt
        refine Zz 9 ?_
        refine au_ (eZ_ x n x.r [] fm b2 b1 b3 g pb c0 c2 c3 c4 c5 c6 c7 c8 c9 Hm hm (by first|omega|(simp;omega))) rfl rfl zp zt rfl fun⟨HP2,hP2⟩=>?_
        dsimp only
        simp only[List.cons_append,List.append_nil]
        refine Zz 6 ?_
        refine au_ (eZ_ x n [] x.s (fm++[((Ky.mk x.kind x.r []),n)]) b2 b1 b3 g pb c0 c2 c3 c4 c5 c6 c7 c8 c9 HP2 hP2 (by first|omega|(simp;omega))) rfl rfl zp zt rfl fun⟨HP3,hP3⟩=>?_
        dsimp only
        simp only[List.cons_append,List.append_nil]
        refine Zz 2 ?_
        have e1:((fm++[((Ky.mk x.kind x.r []),n)])++[((Ky.mk x.kind [] x.s),n)])=fm++(kys x).map fun k=>(k,n):=by simp[kys,bZ_, *]
        exact end0 di_ ⟨HP3,e1▸hP3⟩ rfl zp zt
       refine Zz 8 ?_
       refine au_ (eZ_ x n x.r [] fm b2 b1 b3 g pb c0 c2 c3 c4 c5 c6 c7 c8 c9 Hm hm (by first|omega|(simp;omega))) rfl rfl zp zt rfl fun⟨HP4,hP4⟩=>?_
       dsimp only
       simp only[List.cons_append,List.append_nil]
       refine Zz 2 ?_
       have e1:(fm++[((Ky.mk x.kind x.r []),n)])=fm++(kys x).map fun k=>(k,n):=by simp[kys,bZ_, *]
       exact end0 di_ ⟨HP4,e1▸hP4⟩ rfl zp zt
      refine Zz 11 ?_
      refine au_ (eZ_ x n x.r [] fm b2 b1 b3 g pb c0 c2 c3 c4 c5 c6 c7 c8 c9 Hm hm (by first|omega|(simp;omega))) rfl rfl zp zt rfl fun⟨HP5,hP5⟩=>?_
      dsimp only
      simp only[List.cons_append,List.append_nil]
      refine Zz 2 ?_
      have e1:(fm++[((Ky.mk x.kind x.r []),n)])=fm++(kys x).map fun k=>(k,n):=by simp[kys,bZ_, *]
      exact end0 di_ ⟨HP5,e1▸hP5⟩ rfl zp zt
     refine Zz 9 ?_
     refine au_ (eZ_ x n [] x.a fm b2 b1 b3 g pb c0 c2 c3 c4 c5 c6 c7 c8 c9 Hm hm (by first|omega|(simp;omega))) rfl rfl zp zt rfl fun⟨HP6,hP6⟩=>?_
     dsimp only
     simp only[List.cons_append,List.append_nil]
     refine Zz 8 ?_
     refine au_ (eZ_ x n x.r x.a (fm++[((Ky.mk x.kind [] x.a),n)]) b2 b1 b3 g pb c0 c2 c3 c4 c5 c6 c7 c8 c9 HP6 hP6 (by first|omega|(simp;omega))) rfl rfl zp zt rfl fun⟨HP7,hP7⟩=>?_
     dsimp only
     simp only[List.cons_append,List.append_nil]
     refine Zz 2 ?_
     have e1:((fm++[((Ky.mk x.kind [] x.a),n)])++[((Ky.mk x.kind x.r x.a),n)])=fm++(kys x).map fun k=>(k,n):=by simp[kys,bZ_, *]
     exact end0 di_ ⟨HP7,e1▸hP7⟩ rfl zp zt
    refine Zz 9 ?_
    refine au_ (eZ_ x n [] x.a fm b2 b1 b3 g pb c0 c2 c3 c4 c5 c6 c7 c8 c9 Hm hm (by first|omega|(simp;omega))) rfl rfl zp zt rfl fun⟨HP8,hP8⟩=>?_
    dsimp only
    simp only[List.cons_append,List.append_nil]
    refine Zi 8 (fun hr10=>?_) fun hr10=>?_
    ·refine Zz 5 ?_
     have e1:(fm++[((Ky.mk x.kind [] x.a),n)])=fm++(kys x).map fun k=>(k,n):=by simp[kys,bZ_, *]
     exact end0 di_ ⟨HP8,e1▸hP8⟩ rfl zp zt
    refine Zz 7 ?_
    refine au_ (eZ_ x n [] x.b (fm++[((Ky.mk x.kind [] x.a),n)]) b2 b1 b3 g pb c0 c2 c3 c4 c5 c6 c7 c8 c9 HP8 hP8 (by first|omega|(simp;omega))) rfl rfl zp zt rfl fun⟨HP9,hP9⟩=>?_
    dsimp only
    simp only[List.cons_append,List.append_nil]
    refine Zz 2 ?_
    have e1:((fm++[((Ky.mk x.kind [] x.a),n)])++[((Ky.mk x.kind [] x.b),n)])=fm++(kys x).map fun k=>(k,n):=by simp[kys,bZ_, *]
    exact end0 di_ ⟨HP9,e1▸hP9⟩ rfl zp zt
   refine Zz 8 ?_
   refine au_ (eZ_ x n [] x.a fm b2 b1 b3 g pb c0 c2 c3 c4 c5 c6 c7 c8 c9 Hm hm (by first|omega|(simp;omega))) rfl rfl zp zt rfl fun⟨HP10,hP10⟩=>?_
   dsimp only
   simp only[List.cons_append,List.append_nil]
   refine Zz 2 ?_
   have e1:(fm++[((Ky.mk x.kind [] x.a),n)])=fm++(kys x).map fun k=>(k,n):=by simp[kys,bZ_, *]
   exact end0 di_ ⟨HP10,e1▸hP10⟩ rfl zp zt
  refine Zz 11 ?_
  refine au_ (eZ_ x n [] x.a fm b2 b1 b3 g pb c0 c2 c3 c4 c5 c6 c7 c8 c9 Hm hm (by first|omega|(simp;omega))) rfl rfl zp zt rfl fun⟨HP11,hP11⟩=>?_
  dsimp only
  simp only[List.cons_append,List.append_nil]
  refine Zz 2 ?_
  have e1:(fm++[((Ky.mk x.kind [] x.a),n)])=fm++(kys x).map fun k=>(k,n):=by simp[kys,bZ_, *]
  exact end0 di_ ⟨HP11,e1▸hP11⟩ rfl zp zt
 refine Zz 11 ?_
 refine au_ (eZ_ x n [] x.a fm b2 b1 b3 g pb c0 c2 c3 c4 c5 c6 c7 c8 c9 Hm hm (by first|omega|(simp;omega))) rfl rfl zp zt rfl fun⟨HP12,hP12⟩=>?_
 dsimp only
 simp only[List.cons_append,List.append_nil]
 refine Zz 2 ?_
 have e1:(fm++[((Ky.mk x.kind [] x.a),n)])=fm++(kys x).map fun k=>(k,n):=by simp[kys,bZ_, *]
 exact end0 di_ ⟨HP12,e1▸hP12⟩ rfl zp zt
structure PNew where
  b:PB
  fm:List (Ky×Int)
  hm:Hp
def PNew.ok (p:List Pc) (y:PNew):Prop:=Fnd p y.fm∧aS_ Ky.val N_ 3 1 y.fm y.b.pb y.hm
def PNew.own (p:List Pc) (y:PNew):Hp:=(y.b.g,.cells #[.slice y.b.pad (List.length p) y.b.pcap,.map (some y.b.pb),.slice none 0 0,.map (some y.b.kb),.map (some y.b.ab),.map (some y.b.ub),.map (some y.b.ob),.map (some y.b.ib),.map (some y.b.rb),.map (some y.b.sb)] 105 (0,0))::(y.b.kb,.map #[] 0)::(y.b.ab,.map #[] 0)::(y.b.ub,.map #[] 0)::(y.b.ob,.map #[] 0)::(y.b.ib,.map #[] 0)::(y.b.rb,.map #[] 0)::(y.b.sb,.map #[] 0)::y.hm
theorem mi_ (p:List Pc) (pad:Option Addr) (pcap:Nat) (hp:p.length≤10000000):Tri Tryz.prog 32 #[.slice pad (List.length p) pcap] [] [af_ pad (List.flatMap Pc.cells p)] (fun y:{y:PNew // y.ok p∧y.b.pad=pad∧y.b.pcap=pcap}=>zp_ y.1.b.g 0) (fun y=>y.1.own p) (fun _=>[]):=by
 refine w_ Tryz.func32 rfl rfl Tryz.ntmps32 rfl fun v0=>?_
 refine Zz 8 ?_
 refine bR_ rfl fun b1=>bR_ rfl fun b2=>bR_ rfl fun b3=>bR_ rfl fun b4=>bR_ rfl fun b5=>bR_ rfl fun b6=>bR_ rfl fun b7=>bR_ rfl fun b8=>i_ (H_ sW_ rfl rfl) rfl (as_ rfl rfl fun b9=>Zz 5 ?_)
 refine bR_ rfl fun b10=>Zz 12 ?_
 refine Q_ (ι:={y:Nat×List Pc×List Int×Array MapEntry×Nat×List (Ky×Int)×Hp // y.1≤List.length p∧IntE Pc.val y.2.2.2.1 y.2.1 y.2.2.1∧(∀ z,z∈y.2.1↔∃ w∈List.take y.1 p,w.zf=z)∧Fnd (List.take y.1 p) y.2.2.2.2.2.1∧aS_ Ky.val N_ 3 1 y.2.2.2.2.2.1 b1 y.2.2.2.2.2.2}) (fun y=>[(3,zp_ b9 0),(4,.map (some b10)),(21,.slice pad (List.length p) pcap),(22,.int .i64 (List.length p:Int)),(23,.int .i64 (y.1.1:Int))]) (fun y=>((b9,.cells #[.slice pad (List.length p) pcap,.map (some b1),.slice none 0 0,.map (some b2),.map (some b3),.map (some b4),.map (some b5),.map (some b6),.map (some b7),.map (some b8)] 105 (0,0))::((b10,.map y.1.2.2.2.1 y.1.2.2.2.2.1)::((b2,.map #[] 0)::((b3,.map #[] 0)::((b4,.map #[] 0)::((b5,.map #[] 0)::((b6,.map #[] 0)::((b7,.map #[] 0)::((b8,.map #[] 0)::y.1.2.2.2.2.2.2)))))))))) (fun y=>[af_ pad (List.flatMap Pc.cells p)]) (fun y=>List.length p - y.1.1) ⟨((0:Nat),([]:List Pc),([]:List Int),#[],0,([]:List (Ky×Int)),[(b1,.map #[] 0)]),by simp,IntE.nil,by simp,Fnd.nil,by exact aS_.nil _ _⟩ zl zp zh ?_
 rintro ⟨⟨i,ks,vs,es,cs,fm,Hm⟩,hi,hE,hks,hF,hm⟩
 dsimp only at hi hE hks hF hm ⊢
 have hbf:fm.length≤90000000:=by have q:=hF.len;rw[List.length_take]at q;omega
 refine Zi 2 (fun hr1=>?_) fun hr1=>?_
 ·refine Zz 13 ?_
  have e9:List.take i p=p:=List.take_of_length_le (by omega)
  rw[e9]at hF
  exact al_ Tryz.results32 ⟨(PNew.mk (PB.mk b9 b1 b2 b3 b4 b5 b6 b7 b8 pad pcap) fm Hm),⟨hF,hm⟩,rfl,rfl⟩ rfl (g_ d_ (g_ (c_ d_) (g_ (c_ d_) (g_ (c_ d_) (g_ (c_ d_) (g_ (c_ d_) (g_ (c_ d_) (g_ (c_ d_) F_)))))))) zt
 obtain⟨hlx1,x1,hx1,hmx1⟩:=zge (show i<List.length p by omega)
 refine Zz 13 ?_
 refine J_ aN_ rfl fun b11=>Zz 1 ?_
 refine z_ 0 Y_ rfl rfl rfl rfl rfl rfl (Zz 5 ?_)
 refine z_ 0 o_ rfl rfl rfl rfl rfl rfl (Zz 7 ?_)
 refine n_ (recP_c x1.zf (i:Int) ks vs b10 es cs hE) rfl (c_ (c_ d_)) zt rfl fun⟨⟨⟨rc1,rn1⟩,er1,cr1⟩,hrc1,hrm1,hE1⟩=>?_
 dsimp only
 simp only[List.cons_append,List.nil_append]
 refine Zz 12 ?_
 cases rc1
 ·replace hrc1:=zdf hrc1
  refine Zz 8 ?_
  exact y_ ⟨(i+1,ks,vs,er1,cr1,fm,Hm),hlx1,by have q:=Decidable.not_not.1 hrc1;rw[if_pos q,if_pos q]at hE1;exact hE1,qR_ hks hx1 (Decidable.not_not.1 hrc1),hF.old hx1 ((hks _).1 (Decidable.not_not.1 hrc1)),hm⟩ (by dsimp only;omega) zl (g_ (c_ (c_ d_)) (g_ d_ (g_ (c_ d_) (g_ (c_ d_) (g_ (c_ d_) (g_ (c_ d_) (g_ (c_ d_) (g_ (c_ d_) (g_ (c_ d_) F_))))))))) zh
 replace hrc1:=zdt hrc1
 refine Zz 5 ?_
 refine n_ (oG_ x1.zf (i:Int) fm b9 b1 (.slice pad (List.length p) pcap) (.slice none 0 0) (.map (some b2)) (.map (some b3)) (.map (some b4)) (.map (some b5)) (.map (some b6)) (.map (some b7)) (.map (some b8)) Hm hm hbf) rfl zp zt rfl fun⟨HA1,hA1⟩=>?_
 dsimp only
 simp only[List.cons_append,List.append_nil]
 refine Zz 2 ?_
 refine u_ (q_ d_ (q_ (e_ d_) (q_ (e_ d_) (q_ (e_ d_) (q_ (e_ d_) (q_ (e_ d_) (q_ (e_ d_) (q_ (e_ d_) (q_ (e_ d_) (ak_ V_)))))))))) (Zz 5 ?_)
 exact y_ ⟨(i+1,ks++[Pc.zf x1],vs++[(i:Int)],er1,cr1,fm++(kys x1.zf).map fun k=>(k,(i:Int)),HA1),hlx1,by rw[if_neg hrc1,if_neg hrc1]at hE1;exact hE1,qS_ hks hx1,hF.new hx1,hA1⟩ (by dsimp only;omega) zl zp zh
end Go.Proofs.YtkeanlfhghlgiaaGreatDoor
