/-
  Part of the proof of the law CanonGrows over this seat: short names for closed facts on the program (no condition).
-/
import Derived.Test.YtpbnmnfdgckaiaaGreatDoorProg
import Derived.KernelRfl
namespace Go.Proofs.YtpbnmnfdgckaiaaGreatDoor
open Go
abbrev zp_ (b o : Nat) : Value := .pointer (some ⟨b, o, none⟩)
abbrev m_ := @Tryz.runUnderlying25
abbrev s_ := @Tryz.underlying3
abbrev A_ := @Tryz.runUnderlying26
abbrev E_ := @Tryz.sizeOf36
abbrev H_ := @Tryz.sizeOf9
abbrev I_ := @Tryz.runUnderlying63
abbrev J_ := @Tryz.sizeOf174
abbrev L_ := @Tryz.sizeOf40
abbrev Q_ := @Tryz.runUnderlying22
abbrev S_ := @Tryz.runUnderlying33
abbrev W_ := @Tryz.zeroValue174
abbrev Z_ := @Tryz.runUnderlying9
abbrev ab_ := @Tryz.isAgg9
abbrev ae_ := @Tryz.zeroValue36
abbrev ai_ := @Tryz.runUnderlying38
abbrev aj_ := @Tryz.runUnderlying28
abbrev ar_ := @Tryz.sizeOf42
abbrev av_ := @Tryz.sizeOf3
abbrev aF_ := @Tryz.runUnderlying107
abbrev aH_ := @Tryz.sizeOf26
abbrev aK_ := @Tryz.zeroValue9
abbrev aM_ := @Tryz.zeroValue4
abbrev aP_ := @Tryz.runUnderlying40
abbrev aS_ := @Tryz.zeroValue28
abbrev aT_ := @Tryz.underlying9
abbrev aU_ := @Tryz.isAgg40
abbrev aX_ := @Tryz.results190
abbrev bb_ := @Tryz.sizeOf28
abbrev bc_ := @Tryz.zeroValue42
abbrev bd_ := @Tryz.isAgg3
abbrev bk_ := @Tryz.runUnderlying47
abbrev bm_ := @Tryz.runUnderlying127
abbrev bw_ := @Tryz.runUnderlying119
abbrev bB_ := @Tryz.zeroValue25
abbrev bH_ := @Tryz.isAgg36
abbrev bI_ := @Tryz.sizeOf25
abbrev bM_ := @Tryz.runUnderlying83
abbrev bW_ := @Tryz.runUnderlying118
abbrev cg_ := @Tryz.zeroValue63
abbrev ch_ := @Tryz.zeroValue40
abbrev ci_ := @Tryz.zeroValue26
abbrev cj_ := @Tryz.sizeOf67
abbrev cn_ := @Tryz.runUnderlying247
abbrev co_ := @Tryz.runUnderlying156
abbrev cp_ := @Tryz.runUnderlying114
abbrev cy_ := @Tryz.runUnderlying77
abbrev cF_ := @Tryz.runUnderlying257
abbrev cG_ := @Tryz.runUnderlying253
abbrev cH_ := @Tryz.runUnderlying251
abbrev cI_ := @Tryz.runUnderlying223
abbrev cJ_ := @Tryz.runUnderlying185
abbrev cK_ := @Tryz.runUnderlying174
abbrev cL_ := @Tryz.runUnderlying164
abbrev cM_ := @Tryz.runUnderlying160
abbrev cN_ := @Tryz.runUnderlying144
abbrev cO_ := @Tryz.runUnderlying133
abbrev cP_ := @Tryz.runUnderlying124
abbrev cQ_ := @Tryz.runUnderlying101
abbrev cV_ := @Tryz.isAgg26
abbrev dc_ := @Tryz.runUnderlying67
abbrev dd_ := @Tryz.runUnderlying54
abbrev de_ := @Tryz.runUnderlying42
abbrev df_ := @Tryz.runUnderlying36
abbrev dA_ := @Tryz.runUnderlying250
abbrev dB_ := @Tryz.runUnderlying204
abbrev dC_ := @Tryz.runUnderlying200
abbrev dD_ := @Tryz.runUnderlying105
abbrev dE_ := @Tryz.runUnderlying103
abbrev dN_ := @Tryz.isAgg174
abbrev dQ_ := @Tryz.runUnderlying95
abbrev ef_ := @Tryz.sizeOf4
abbrev ei_ := @Tryz.zeroValue33
abbrev ev_ := @Tryz.runUnderlying165
abbrev eF_ := @Tryz.isAgg28
abbrev fe_ := @Tryz.sizeOf120
abbrev fi_ := @Tryz.results70
abbrev fx_ := @Tryz.underlying174
abbrev fV_ := @Tryz.runUnderlying121
abbrev gc_ := @Tryz.zeroValue180
abbrev gt_ := @Tryz.sizeOf164
abbrev gE_ := @Tryz.isAgg25
abbrev iy_ := @Tryz.underlying25
abbrev iE_ := @Tryz.sizeOf180
abbrev iH_ := @Tryz.results32
abbrev iI_ := @Tryz.results10
abbrev iP_ := @Tryz.isAgg67
abbrev iQ_ := @Tryz.isAgg42
abbrev jx_ := @Tryz.runUnderlying167
abbrev jy_ := @Tryz.runUnderlying166
abbrev jz_ := @Tryz.runUnderlying137
abbrev jA_ := @Tryz.runUnderlying112
abbrev jZ_ := @Tryz.sizeOf95
abbrev ka_ := @Tryz.isAgg145
abbrev kW_ := @Tryz.zeroValue3
abbrev nv_ := @Tryz.results99
abbrev oF_ := @Tryz.zeroValue164
abbrev oK_ := @Tryz.underlying44
abbrev pO_ := @Tryz.isAgg109
abbrev ti_ := @Tryz.results189
abbrev tY_ := @Tryz.runUnderlying128
abbrev tZ_ := @Tryz.runUnderlying122
abbrev vB_ := @Tryz.sizeOf167
abbrev vI_ := @Tryz.results92
abbrev vJ_ := @Tryz.results77
abbrev vK_ := @Tryz.results18
abbrev zf_ := @Tryz.sizeOf63
abbrev zk_ := @Tryz.isAgg185
end Go.Proofs.YtpbnmnfdgckaiaaGreatDoor
namespace Go.Proofs.YtpbnmnfdgckaiaaGreatDoor
end Go.Proofs.YtpbnmnfdgckaiaaGreatDoor
theorem zr_ {G:Prop} (h:G:=by omega):G:=h
theorem zs_ {G:Prop} (h:G:=by simp only[maxLen];(first|omega|((try simp only[List.length_append,List.length_drop,List.length_take,List.length_cons,List.length_nil]);omega))):G:=h
theorem zt_ {G:Prop} (h:G:=by (first|omega|((try simp only[List.length_append,List.length_drop,List.length_take,List.length_cons,List.length_nil]);omega))):G:=h
theorem zu_ {G:Prop} (h:G:=by dsimp only;omega):G:=h
theorem zv_ {G:Prop} (h:G:=by simp only[maxLen];(first|omega|(simp only[List.length_cons,List.length_nil];omega))):G:=h
theorem zw_ {G:Prop} (h:G:=by kernel_rfl):G:=h
theorem zx_ {G:Prop} (h:G:=by decide):G:=h
theorem zy_ {G:Prop} (h:G:=by (first|omega|(simp only[List.length_cons,List.length_nil];omega))):G:=h
theorem zz_ {G:Prop} (h:G:=by first|omega|(simp only[Con.parts];omega)|(simp[Con.parts];done)):G:=h
theorem zA_ {G:Prop} (h:G:=by first|omega|(simp;done)):G:=h
theorem zB_ {G:Prop} (h:G:=by assumption):G:=h
theorem zC_ {G:Prop} (h:G:=by simp):G:=h
theorem zD_ {G:Prop} (h:G:=by rintro e w' ⟨rfl,rfl⟩;exact⟨rfl,⟨rfl,rfl,rfl,Nat.le_refl _,fun _ _=>rfl⟩,.inr (Nat.le_refl _)⟩):G:=h
theorem zE_ {G:Prop} (h:G:=by exact (F_ (c_ (c_ (c_ (c_ (c_ (c_ (c_ (c_ (c_ (c_ t_)))))))))) (f_ (c_ d_) (f_ (c_ d_) (f_ (c_ d_) (f_ (c_ d_) (f_ (c_ d_) (f_ (c_ d_) (f_ (c_ d_) (f_ (c_ d_) (f_ (c_ d_) (F_ B_ d_)))))))))))):G:=h
theorem zF_ {G:Prop} (h:G:=by rw[br_ Ax.cells 16 Ax.cells_len]):G:=h
theorem zG_ {G:Prop} (h:G:=by simp only[maxLen];omega):G:=h
theorem zH_ {G:Prop} (h:G:=by simp;omega):G:=h
theorem zI_ {G:Prop} (h:G:=by simp only[maxLen];((try simp only[List.length_append,List.length_cons,List.length_nil]);omega)):G:=h
theorem zJ_ {G:Prop} (h:G:=by simp[bN_,kws, *]):G:=h
theorem zK_ {G:Prop} (h:G:=by rw[List.length_append];simp only[List.length_cons,List.length_nil];omega):G:=h
theorem zL_ {G:Prop} (h:G:=by simp only[List.length_append,List.length_cons,List.length_nil];omega):G:=h
theorem zM_ {G:Prop} (h:G:=by ((try simp only[List.length_append,List.length_cons,List.length_nil]);omega)):G:=h
theorem zN_ {G:Prop} (h:G:=by first|omega|(simp;omega)):G:=h
theorem zO_ {G:Prop} (h:G:=by have e:tyL s.ks (List.take (j+1) c.facts)=(tyL s.ks (List.take j c.facts)):=(by unfold tyL;rw[tk1 d,List.filter_append];simp_all);rw[e];exact E):G:=h
theorem zP_ {G:Prop} (h:G:=by have e:raL s.ks (List.take (j+1) c.facts)=(raL s.ks (List.take j c.facts)):=(by unfold raL;rw[tk1 d,List.filter_append];simp_all);rw[e];exact F):G:=h
theorem zQ_ {G:Prop} (h:G:=by (try dsimp only);omega):G:=h
theorem zR_ {G:Prop} (h:G:=by have e:liL (List.take (j+1) c.facts)=(liL (List.take j c.facts)):=(by unfold liL;rw[tk1 d,List.filter_append];simp_all);rw[e];exact C):G:=h
theorem zS_ {G:Prop} (h:G:=by rw[br_ Ax.cells 16 Ax.cells_len];rfl):G:=h
theorem zT_ {G:Prop} (h:G:=by simp only[List.length_cons,List.length_nil];omega):G:=h
theorem zU_ {G:Prop} (h:G:=by have:=cd_ B.nd (m:=q) (fun z d=>by rcases List.mem_append.1 d with d|d;exact v z d;rw[List.mem_singleton]at d;exact d▸H);rw[List.length_append,List.length_singleton]at this;dsimp only;rw[List.length_append,List.length_singleton];omega):G:=h
theorem zV_ {G:Prop} (h:G:=by subst_vars;rw[Bool.eq_iff_iff];simp[fl_]<;>omega):G:=h
theorem zW_ {G:Prop} (h:G:=by rw[E];have:=cd_ B.nd (m:=q) (fun z d=>by rcases List.mem_append.1 d with d|d;exact v z d;rw[List.mem_singleton]at d;exact d▸H);rw[List.length_append,List.length_singleton]at this;omega):G:=h
theorem zX_ {G:Prop} (h:G:=by subst_vars;rw[Bool.eq_iff_iff];simp[dk_]<;>simp at*<;> omega):G:=h
theorem zY_ {G:Prop} (h:G:=by rw[rl.eq_def,if_neg (by rw[d];decide),if_pos d]<;>rfl):G:=h
theorem zZ_ {G:Prop} (h:G:=by first|omega|(simp_all;done)|(simp_all;omega)|grind):G:=h
theorem zaa_ {G:Prop} (h:G:=by rw[hk];exact aW_ s_ rfl):G:=h
theorem zab_ {G:Prop} (h:G:=by rintro e w' ⟨rfl,rfl⟩;exact⟨rfl,rfl,rfl,rfl,rfl,Nat.le_refl _⟩):G:=h
theorem zac_ {G:Prop} (h:G:=by have q:=J.push G hGw T b2 (fun q=>by have F:=hcll;rw[q.2]at F;simp[q.1]at F) (by rw[a1];have F:=V;rw[hbe]at F;exact F);rw[a1]at q;exact q):G:=h
theorem zad_ {G:Prop} (h:G:=by have:=List.countP_le_length (p:=fun r=>decide (r=x.role)) (l:=List.take j (Ax.roles x));have:=List.length_take_le j (Ax.roles x);omega):G:=h
theorem zae_ {G:Prop} (h:G:=by rw[hk];simp):G:=h
theorem zaf_ {G:Prop} (h:G:=by rw[Con.text_eq];simp[Con.kind,Con.name,hk]):G:=h
theorem zag_ {G:Prop} (h:G:=by simpa using h):G:=h
theorem zah_ {G:Prop} (h:G:=by simp[d]):G:=h
theorem zai_ {G:Prop} (h:G:=by rw[Con.bare_eq];simp only[Con.kind,Con.parts]at *;simp[*]):G:=h
theorem zaj_ {G:Prop} (h:G:=by rw[List.append_nil];exact @List.perm_append_comm _ _ [_]):G:=h
theorem zak_ {G:Prop} (h:G:=by simpa using e):G:=h
theorem zal_ {G:Prop} (h:G:=by rw[List.length_take];have:=P.1;omega):G:=h
theorem zam_ {G:Prop} (h:G:=by simp only[maxLen];((try simp only[List.length_append,List.length_cons,List.length_nil]);have a4:=O.len;omega)):G:=h
theorem zan_ {G:Prop} (h:G:=by first|exact y|(simp;omega)):G:=h
theorem zao_ {G:Prop} (h:G:=by simp[hk]):G:=h
theorem zap_ {G:Prop} (h:G:=by simp[bx_, *]<;>omega):G:=h
theorem zaq_ {G:Prop} (h:G:=by rw[List.append_nil];exact .refl _):G:=h
theorem zar_ {G:Prop} (h:G:=by simp only[List.length_cons];omega):G:=h
theorem zas_ {G:Prop} (h:G:=by as_aux_lemma=>kernel_rfl):G:=h
theorem zat_ {G:Prop} (h:G:=by rw[hk];decide):G:=h
theorem zau_ {G:Prop} (h:G:=by rintro e w' ⟨x,G,q,A,C,m,B⟩;exact⟨⟨[],by simpa [fp_] using aB_.nil _ _⟩,G,q,A,C,m,B⟩):G:=h
theorem zav_ {G:Prop} (h:G:=by simp[MapKept.IsKey,str]):G:=h
theorem zaw_ {G:Prop} (h:G:=by show k≤4∨k=8;omega):G:=h
theorem zax_ {G:Prop} (h:G:=by ((try simp only[List.length_append,List.length_cons,List.length_nil]);have a4:=O.len;omega)):G:=h
theorem zay_ {G:Prop} (h:G:=by have:=Con.textN_len d;simp only[List.length_append,List.length_cons,List.length_nil];omega):G:=h
theorem zaz_ {G:Prop} (h:G:=by decide +kernel):G:=h
theorem zaA_ {G:Prop} (h:G:=by (have:=fI_ p;(try simp only[List.length_append,List.length_cons,List.length_nil]);omega)):G:=h
theorem zaB_ {G:Prop} (h:G:=by rw[rl.eq_def,if_pos d]<;>rfl):G:=h
theorem zaC_ {G:Prop} (h:G:=by simpa using k):G:=h
theorem zaD_ {G:Prop} (h:G:=by simp[fZ_, *]<;>omega):G:=h
theorem zaE_ {G:Prop} (h:G:=by simpa using A):G:=h
theorem zaF_ {G:Prop} (h:G:=by rw[← e];rfl):G:=h
theorem zaG_ {G:Prop} (h:G:=by simp[MapKept.IsKey]):G:=h
theorem zaH_ {G:Prop} (h:G:=by rw[List.length_map];omega):G:=h
theorem zaI_ {G:Prop} (h:G:=by rw[I d];decide):G:=h
theorem zaJ_ {G:Prop} (h:G:=by rw[List.length_drop];have:=P.1;omega):G:=h
theorem zaK_ {G:Prop} (h:G:=by rw[List.getElem?_append_left (List.getElem?_eq_some_iff.1 G).1];exact G):G:=h
theorem zaL_ {G:Prop} (h:G:=by rw[show i - 1+1=i by omega];exact e):G:=h
theorem zaM_ {G:Prop} (h:G:=by rw[← d];rfl):G:=h
theorem zaN_ {G:Prop} (h:G:=by rw[e.2,← ef];exact k):G:=h
theorem zaO_ {G:Prop} (h:G:=by dsimp only;simp only[List.length_append,List.length_singleton];omega):G:=h
theorem zaP_ {G:Prop} (h:G:=by have:=(E.append_right F).symm;simpa [List.append_assoc] using this):G:=h
theorem zaQ_ {G:Prop} (h:G:=by simpa [ByteArray.size] using hl):G:=h
theorem zaR_ {G:Prop} (h:G:=by rw[M d];decide):G:=h
theorem zaS_ {G:Prop} (h:G:=by have:=Con.sz_part (c:=(.mk k nm lo hi ad cap ps)) m;omega):G:=h
theorem zaT_ {G:Prop} (h:G:=by have:=Con.sz_part (c:=(.mk k nm lo hi ad cap ps)) e;omega):G:=h
theorem zaU_ {G:Prop} (h:G:=by unfold Sort.HoldsK;rw[hR_];exact wA_ M (by rw[O];exact I)):G:=h
theorem zaV_ {G:Prop} (h:G:=by simp only[maxLen,List.length_cons,List.length_nil];omega):G:=h
theorem zaW_ {G:Prop} (h:G:=by simpa using y):G:=h
theorem zaX_ {G:Prop} (h:G:=by simp[k]):G:=h
theorem zaY_ {G:Prop} (h:G:=by have:=Con.sz_part (c:=.mk k nm lo hi ad cap ps) d;omega):G:=h
theorem zaZ_ {G:Prop} (h:G:=by rcases y with rfl|rfl<;>rfl):G:=h
theorem zba_ {G:Prop} (h:G:=by cases q):G:=h
theorem zbb_ {G:Prop} (h:G:=by rw[iG_];omega):G:=h
theorem zbc_ {G:Prop} (h:G:=by rw[k]):G:=h
theorem zbd_ {G:Prop} (h:G:=by rw[List.length_take];omega):G:=h
theorem zbe_ {G:Prop} (h:G:=by rw[q,← ob_ m hk];exact d):G:=h
theorem zbf_ {G:Prop} (h:G:=by symm;apply decide_eq_false;intro e;subst e;omega):G:=h
theorem zbg_ {G:Prop} (h:G:=by unfold eA_;rw[tk1 b8,List.filter_append];simp[V]):G:=h
theorem zbh_ {G:Prop} (h:G:=by exact (h.2.1.2 d k).2.2):G:=h
theorem zbi_ {G:Prop} (h:G:=by show (0:Int)≤k;omega):G:=h
theorem zbj_ {G:Prop} (h:G:=by rw[take_snoc v,List.countP_append,hm];simp[e]):G:=h
