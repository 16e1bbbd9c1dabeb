/-
  Part of the proof of the law CanonAsksSpec over this seat: short names for closed facts on the program (no condition).
-/
import Derived.Test.YtpbnmnfdgckaiaaGreatDoorProg
import Derived.KernelRfl
namespace Go.Proofs.YtpbnmnfdgckaiaaGreatDoor
open Go
abbrev zp_ (b o : Nat) : Value := .pointer (some ⟨b, o, none⟩)
abbrev n_ := @Tryz.runUnderlying25
abbrev s_ := @Tryz.sizeOf36
abbrev u_ := @Tryz.underlying3
abbrev w_ := @Tryz.runUnderlying26
abbrev D_ := @Tryz.runUnderlying63
abbrev F_ := @Tryz.sizeOf174
abbrev I_ := @Tryz.sizeOf9
abbrev M_ := @Tryz.sizeOf40
abbrev P_ := @Tryz.runUnderlying33
abbrev Q_ := @Tryz.zeroValue36
abbrev S_ := @Tryz.runUnderlying9
abbrev T_ := @Tryz.zeroValue174
abbrev ab_ := @Tryz.isAgg9
abbrev ag_ := @Tryz.runUnderlying38
abbrev au_ := @Tryz.sizeOf3
abbrev av_ := @Tryz.runUnderlying107
abbrev az_ := @Tryz.zeroValue9
abbrev aA_ := @Tryz.zeroValue4
abbrev aB_ := @Tryz.isAgg36
abbrev aD_ := @Tryz.runUnderlying40
abbrev aH_ := @Tryz.underlying9
abbrev aL_ := @Tryz.results190
abbrev aN_ := @Tryz.isAgg40
abbrev aQ_ := @Tryz.isAgg3
abbrev aU_ := @Tryz.runUnderlying28
abbrev aW_ := @Tryz.runUnderlying127
abbrev bd_ := @Tryz.runUnderlying22
abbrev bg_ := @Tryz.runUnderlying119
abbrev bm_ := @Tryz.zeroValue25
abbrev bw_ := @Tryz.runUnderlying83
abbrev bI_ := @Tryz.runUnderlying118
abbrev bL_ := @Tryz.sizeOf28
abbrev bP_ := @Tryz.zeroValue63
abbrev bQ_ := @Tryz.zeroValue40
abbrev bR_ := @Tryz.sizeOf67
abbrev bS_ := @Tryz.sizeOf42
abbrev bT_ := @Tryz.sizeOf26
abbrev bW_ := @Tryz.runUnderlying247
abbrev bX_ := @Tryz.runUnderlying156
abbrev bY_ := @Tryz.runUnderlying114
abbrev ck_ := @Tryz.sizeOf25
abbrev cq_ := @Tryz.runUnderlying257
abbrev cr_ := @Tryz.runUnderlying253
abbrev cs_ := @Tryz.runUnderlying251
abbrev ct_ := @Tryz.runUnderlying223
abbrev cu_ := @Tryz.runUnderlying185
abbrev cv_ := @Tryz.runUnderlying174
abbrev cw_ := @Tryz.runUnderlying164
abbrev cx_ := @Tryz.runUnderlying160
abbrev cy_ := @Tryz.runUnderlying133
abbrev cz_ := @Tryz.runUnderlying124
abbrev cA_ := @Tryz.runUnderlying101
abbrev cC_ := @Tryz.results59
abbrev cG_ := @Tryz.runUnderlying67
abbrev cH_ := @Tryz.runUnderlying54
abbrev cI_ := @Tryz.runUnderlying47
abbrev cJ_ := @Tryz.runUnderlying42
abbrev cK_ := @Tryz.runUnderlying36
abbrev dj_ := @Tryz.runUnderlying250
abbrev dk_ := @Tryz.runUnderlying204
abbrev dl_ := @Tryz.runUnderlying200
abbrev dm_ := @Tryz.runUnderlying105
abbrev dn_ := @Tryz.runUnderlying103
abbrev dr_ := @Tryz.zeroValue42
abbrev ds_ := @Tryz.zeroValue26
abbrev dt_ := @Tryz.underlying4
abbrev dy_ := @Tryz.isAgg174
abbrev dD_ := @Tryz.runUnderlying95
abbrev dU_ := @Tryz.sizeOf4
abbrev dX_ := @Tryz.zeroValue33
abbrev ei_ := @Tryz.runUnderlying165
abbrev eF_ := @Tryz.sizeOf120
abbrev eI_ := @Tryz.results70
abbrev eY_ := @Tryz.underlying174
abbrev fw_ := @Tryz.runUnderlying121
abbrev fD_ := @Tryz.zeroValue180
abbrev fR_ := @Tryz.sizeOf164
abbrev gd_ := @Tryz.isAgg28
abbrev ie_ := @Tryz.underlying25
abbrev ij_ := @Tryz.sizeOf180
abbrev im_ := @Tryz.results32
abbrev in_ := @Tryz.results10
abbrev it_ := @Tryz.isAgg67
abbrev jd_ := @Tryz.runUnderlying167
abbrev je_ := @Tryz.runUnderlying166
abbrev jf_ := @Tryz.runUnderlying137
abbrev jg_ := @Tryz.runUnderlying112
abbrev jE_ := @Tryz.sizeOf95
abbrev jF_ := @Tryz.isAgg145
abbrev kA_ := @Tryz.zeroValue3
abbrev lU_ := @Tryz.isAgg25
abbrev mV_ := @Tryz.results99
abbrev og_ := @Tryz.zeroValue164
abbrev ol_ := @Tryz.underlying36
abbrev pu_ := @Tryz.isAgg109
abbrev pT_ := @Tryz.zeroValue28
abbrev sR_ := @Tryz.results189
abbrev tK_ := @Tryz.runUnderlying128
abbrev tL_ := @Tryz.runUnderlying122
abbrev vg_ := @Tryz.sizeOf167
abbrev vs_ := @Tryz.results92
abbrev vt_ := @Tryz.results77
abbrev vu_ := @Tryz.results21
abbrev vv_ := @Tryz.results18
abbrev yL_ := @Tryz.sizeOf63
abbrev yR_ := @Tryz.isAgg185
end Go.Proofs.YtpbnmnfdgckaiaaGreatDoor
namespace Go.Proofs.YtpbnmnfdgckaiaaGreatDoor
end Go.Proofs.YtpbnmnfdgckaiaaGreatDoor
theorem za_ {G:Prop} (h:G:=by omega):G:=h
theorem zb_ {G:Prop} (h:G:=by dsimp only;omega):G:=h
theorem zc_ {G:Prop} (h:G:=by simp only[maxLen];(first|omega|(simp only[List.length_cons,List.length_nil];omega))):G:=h
theorem zd_ {G:Prop} (h:G:=by kernel_rfl):G:=h
theorem ze_ {G:Prop} (h:G:=by decide):G:=h
theorem zf_ {G:Prop} (h:G:=by (first|omega|(simp only[List.length_cons,List.length_nil];omega))):G:=h
theorem zg_ {G:Prop} (h:G:=by first|omega|(simp;done)):G:=h
theorem zh_ {G:Prop} (h:G:=by first|omega|(simp only[Con.parts];omega)|(simp[Con.parts];done)):G:=h
theorem zi_ {G:Prop} (h:G:=by assumption):G:=h
theorem zj_ {G:Prop} (h:G:=by simp):G:=h
theorem zk_ {G:Prop} (h:G:=by rintro e w' ⟨rfl,rfl⟩;exact⟨rfl,⟨rfl,rfl,rfl,Nat.le_refl _,fun _ _=>rfl⟩,.inr (Nat.le_refl _)⟩):G:=h
theorem zl_ {G:Prop} (h:G:=by exact (B_ (c_ (c_ (c_ (c_ (c_ (c_ (c_ (c_ (c_ (c_ y_)))))))))) (l_ (c_ d_) (l_ (c_ d_) (l_ (c_ d_) (l_ (c_ d_) (l_ (c_ d_) (l_ (c_ d_) (l_ (c_ d_) (l_ (c_ d_) (l_ (c_ d_) (B_ H_ d_)))))))))))):G:=h
theorem zm_ {G:Prop} (h:G:=by simp only[maxLen];omega):G:=h
theorem zn_ {G:Prop} (h:G:=by simp;omega):G:=h
theorem zo_ {G:Prop} (h:G:=by simp only[maxLen];((try simp only[List.length_append,List.length_cons,List.length_nil]);omega)):G:=h
theorem zq_ {G:Prop} (h:G:=by simp[bx_,kws, *]):G:=h
theorem zr_ {G:Prop} (h:G:=by ((try simp only[List.length_append,List.length_cons,List.length_nil]);omega)):G:=h
theorem zs_ {G:Prop} (h:G:=by first|omega|(simp;omega)):G:=h
theorem zt_ {G:Prop} (h:G:=by have e:tyL s.ks (List.take (j+1) c.facts)=(tyL s.ks (List.take j c.facts)):=(by unfold tyL;rw[tk1 d,List.filter_append];simp_all);rw[e];exact C):G:=h
theorem zu_ {G:Prop} (h:G:=by have e:raL s.ks (List.take (j+1) c.facts)=(raL s.ks (List.take j c.facts)):=(by unfold raL;rw[tk1 d,List.filter_append];simp_all);rw[e];exact E):G:=h
theorem zv_ {G:Prop} (h:G:=by have e:liL (List.take (j+1) c.facts)=(liL (List.take j c.facts)):=(by unfold liL;rw[tk1 d,List.filter_append];simp_all);rw[e];exact F):G:=h
theorem zw_ {G:Prop} (h:G:=by simp only[List.length_cons,List.length_nil];omega):G:=h
theorem zx_ {G:Prop} (h:G:=by have:=cN_ B.nd (m:=q) (fun z d=>by rcases List.mem_append.1 d with d|d;exact A z d;rw[List.mem_singleton]at d;exact d▸H);rw[List.length_append,List.length_singleton]at this;dsimp only;rw[List.length_append,List.length_singleton];omega):G:=h
theorem zy_ {G:Prop} (h:G:=by simp only[List.length_append,List.length_cons,List.length_nil];omega):G:=h
theorem zz_ {G:Prop} (h:G:=by subst_vars;rw[Bool.eq_iff_iff];simp[eL_]<;>omega):G:=h
theorem zA_ {G:Prop} (h:G:=by rw[F];have:=cN_ B.nd (m:=q) (fun z d=>by rcases List.mem_append.1 d with d|d;exact A z d;rw[List.mem_singleton]at d;exact d▸H);rw[List.length_append,List.length_singleton]at this;omega):G:=h
theorem zB_ {G:Prop} (h:G:=by subst_vars;rw[Bool.eq_iff_iff];simp[cR_]<;>simp at*<;> omega):G:=h
theorem zC_ {G:Prop} (h:G:=by rw[rl.eq_def,if_neg (by rw[d];decide),if_pos d]<;>rfl):G:=h
theorem zD_ {G:Prop} (h:G:=by first|omega|(simp_all;done)|(simp_all;omega)|grind):G:=h
theorem zE_ {G:Prop} (h:G:=by rw[hk];exact aK_ u_ rfl):G:=h
theorem zF_ {G:Prop} (h:G:=by rintro e w' ⟨rfl,rfl⟩;exact⟨rfl,rfl,rfl,rfl,rfl,Nat.le_refl _⟩):G:=h
theorem zG_ {G:Prop} (h:G:=by have q:=J.push G b2 T hto_1 (fun q=>by have F:=hcll;rw[q.2]at F;simp[q.1]at F) (by rw[V];have F:=a1;rw[hbe]at F;exact F);rw[V]at q;exact q):G:=h
theorem zH_ {G:Prop} (h:G:=by have:=List.countP_le_length (p:=fun r=>decide (r=x.role)) (l:=List.take j (Ax.roles x));have:=List.length_take_le j (Ax.roles x);omega):G:=h
theorem zI_ {G:Prop} (h:G:=by rw[hk];simp):G:=h
theorem zJ_ {G:Prop} (h:G:=by rw[Con.text_eq];simp[Con.kind,Con.name,hk]):G:=h
theorem zK_ {G:Prop} (h:G:=by simpa using h):G:=h
theorem zL_ {G:Prop} (h:G:=by unfold mT_;rw[decide_eq_true (p:=d=af_ n t d.lo d.hi) e,decide_eq_true (p:=lo≤d.lo) C,decide_eq_true (p:=d.hi≤hi) B];rfl):G:=h
theorem zM_ {G:Prop} (h:G:=by rw[Con.bare_eq];simp only[Con.kind,Con.parts]at *;simp[*]):G:=h
theorem zN_ {G:Prop} (h:G:=by rw[List.append_nil];exact @List.perm_append_comm _ _ [_]):G:=h
theorem zO_ {G:Prop} (h:G:=by simp only[maxLen];((try simp only[List.length_append,List.length_cons,List.length_nil]);have a5:=P.len;omega)):G:=h
theorem zP_ {G:Prop} (h:G:=by first|exact C|(simp;omega)):G:=h
theorem zQ_ {G:Prop} (h:G:=by simp[hk]):G:=h
theorem zR_ {G:Prop} (h:G:=by simp[bi_, *]<;>omega):G:=h
theorem zS_ {G:Prop} (h:G:=by simp[d]):G:=h
theorem zT_ {G:Prop} (h:G:=by rw[List.append_nil];exact .refl _):G:=h
theorem zU_ {G:Prop} (h:G:=by simp only[List.length_cons];omega):G:=h
theorem zV_ {G:Prop} (h:G:=by as_aux_lemma=>kernel_rfl):G:=h
theorem zW_ {G:Prop} (h:G:=by simpa using B):G:=h
theorem zX_ {G:Prop} (h:G:=by rw[hk];decide):G:=h
theorem zY_ {G:Prop} (h:G:=by rintro e w' ⟨x,L,A,F,C,E,B⟩;exact⟨⟨[],by simpa [eP_] using ax_.nil _ _⟩,L,A,F,C,E,B⟩):G:=h
theorem zZ_ {G:Prop} (h:G:=by simp[MapKept.IsKey,str]):G:=h
theorem zaa_ {G:Prop} (h:G:=by show k≤4∨k=8;omega):G:=h
theorem zab_ {G:Prop} (h:G:=by ((try simp only[List.length_append,List.length_cons,List.length_nil]);have a5:=P.len;omega)):G:=h
theorem zac_ {G:Prop} (h:G:=by have:=Con.textN_len d;simp only[List.length_append,List.length_cons,List.length_nil];omega):G:=h
theorem zad_ {G:Prop} (h:G:=by decide +kernel):G:=h
theorem zae_ {G:Prop} (h:G:=by (have:=fk_ p;(try simp only[List.length_append,List.length_cons,List.length_nil]);omega)):G:=h
theorem zaf_ {G:Prop} (h:G:=by rw[rl.eq_def,if_pos d]<;>rfl):G:=h
theorem zag_ {G:Prop} (h:G:=by simpa using e):G:=h
theorem zah_ {G:Prop} (h:G:=by simpa using q):G:=h
theorem zai_ {G:Prop} (h:G:=by simp[fA_, *]<;>omega):G:=h
theorem zaj_ {G:Prop} (h:G:=by rw[← e];rfl):G:=h
theorem zak_ {G:Prop} (h:G:=by simp[MapKept.IsKey]):G:=h
theorem zal_ {G:Prop} (h:G:=by rw[List.length_map];omega):G:=h
theorem zam_ {G:Prop} (h:G:=by unfold mT_;rw[decide_eq_false (p:=lo≤d.lo) C,Bool.false_and,Bool.and_false]):G:=h
theorem zan_ {G:Prop} (h:G:=by unfold mT_;rw[decide_eq_false (p:=d.hi≤hi) B,Bool.and_false,Bool.and_false]):G:=h
theorem zao_ {G:Prop} (h:G:=by rw[M d];decide):G:=h
theorem zap_ {G:Prop} (h:G:=by rw[List.getElem?_append_left (List.getElem?_eq_some_iff.1 G).1];exact G):G:=h
theorem zaq_ {G:Prop} (h:G:=by exact h.1.2.2.2.1):G:=h
theorem zar_ {G:Prop} (h:G:=by rw[← d];rfl):G:=h
theorem zas_ {G:Prop} (h:G:=by rw[e.2,← ef];exact q):G:=h
theorem zat_ {G:Prop} (h:G:=by dsimp only;simp only[List.length_append,List.length_singleton];omega):G:=h
theorem zau_ {G:Prop} (h:G:=by have:=(C.append_right F).symm;simpa [List.append_assoc] using this):G:=h
theorem zav_ {G:Prop} (h:G:=by unfold oc_;rw[beq_eq_false_iff_ne.2 d,Bool.false_or];exact e.symm):G:=h
theorem zaw_ {G:Prop} (h:G:=by simpa [ByteArray.size] using hl):G:=h
theorem zax_ {G:Prop} (h:G:=by rw[ef_];exact G):G:=h
theorem zay_ {G:Prop} (h:G:=by unfold mT_;rw[decide_eq_false (p:=d=af_ n t d.lo d.hi) e];rfl):G:=h
theorem zaz_ {G:Prop} (h:G:=by rw[y]):G:=h
theorem zaA_ {G:Prop} (h:G:=by rw[P d];decide):G:=h
theorem zaB_ {G:Prop} (h:G:=by have:=Con.sz_part (c:=(.mk k nm lo hi ad cap ps)) y;omega):G:=h
theorem zaC_ {G:Prop} (h:G:=by have:=Con.sz_part (c:=(.mk k nm lo hi ad cap ps)) e;omega):G:=h
theorem zaD_ {G:Prop} (h:G:=by unfold Sort.HoldsK;rw[hz_];exact wp_ O (by rw[Q];exact J)):G:=h
theorem zaE_ {G:Prop} (h:G:=by simp only[maxLen,List.length_cons,List.length_nil];omega):G:=h
theorem zaF_ {G:Prop} (h:G:=by have:=Con.sz_part (c:=.mk k nm lo hi ad cap ps) d;omega):G:=h
theorem zaG_ {G:Prop} (h:G:=by rcases y with rfl|rfl<;>rfl):G:=h
theorem zaH_ {G:Prop} (h:G:=by cases q):G:=h
theorem zaI_ {G:Prop} (h:G:=by rw[ho_ (fun q=>by rw[q.1]at E;cases E),ga_ F (mS_ d e)]):G:=h
theorem zaJ_ {G:Prop} (h:G:=by rw[List.length_take];omega):G:=h
theorem zaK_ {G:Prop} (h:G:=by rw[e,← nD_ h hk];exact d):G:=h
theorem zaL_ {G:Prop} (h:G:=by unfold el_;rw[tk1 d8,List.filter_append];simp[U]):G:=h
theorem zaM_ {G:Prop} (h:G:=by simp[e]):G:=h
theorem zaN_ {G:Prop} (h:G:=by exact (h.2.1.2 d q).2.2):G:=h
theorem zaO_ {G:Prop} (h:G:=by show (0:Int)≤k;omega):G:=h
theorem zaP_ {G:Prop} (h:G:=by rw[take_snoc B,List.countP_append,hm];simp[e]):G:=h
