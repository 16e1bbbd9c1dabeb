/-
  Part of the proof of the law CanonRoles over this seat: short names for closed facts on the program (no condition).
-/
import Derived.Test.YtpbnmnfdgckaiaaGreatDoorProg
import Derived.KernelRfl
namespace Go.Proofs.YtpbnmnfdgckaiaaGreatDoor
open Go
abbrev zp_ (b o : Nat) : Value := .pointer (some ⟨b, o, none⟩)
abbrev l_ := @Tryz.runUnderlying25
abbrev p_ := @Tryz.underlying3
abbrev w_ := @Tryz.runUnderlying26
abbrev y_ := @Tryz.sizeOf36
abbrev D_ := @Tryz.runUnderlying63
abbrev E_ := @Tryz.sizeOf9
abbrev F_ := @Tryz.sizeOf174
abbrev I_ := @Tryz.sizeOf40
abbrev M_ := @Tryz.runUnderlying33
abbrev P_ := @Tryz.zeroValue174
abbrev V_ := @Tryz.runUnderlying9
abbrev W_ := @Tryz.isAgg9
abbrev X_ := @Tryz.zeroValue36
abbrev ad_ := @Tryz.runUnderlying38
abbrev ak_ := @Tryz.sizeOf3
abbrev at_ := @Tryz.runUnderlying107
abbrev av_ := @Tryz.zeroValue9
abbrev az_ := @Tryz.zeroValue4
abbrev aC_ := @Tryz.runUnderlying40
abbrev aF_ := @Tryz.underlying9
abbrev aH_ := @Tryz.isAgg40
abbrev aK_ := @Tryz.results190
abbrev aN_ := @Tryz.isAgg3
abbrev aT_ := @Tryz.runUnderlying28
abbrev aU_ := @Tryz.runUnderlying22
abbrev aW_ := @Tryz.runUnderlying127
abbrev bf_ := @Tryz.runUnderlying119
abbrev bi_ := @Tryz.zeroValue25
abbrev bp_ := @Tryz.isAgg36
abbrev br_ := @Tryz.sizeOf42
abbrev bx_ := @Tryz.runUnderlying83
abbrev bG_ := @Tryz.sizeOf28
abbrev bK_ := @Tryz.runUnderlying118
abbrev bO_ := @Tryz.sizeOf25
abbrev bS_ := @Tryz.zeroValue63
abbrev bT_ := @Tryz.zeroValue40
abbrev bV_ := @Tryz.sizeOf67
abbrev bY_ := @Tryz.runUnderlying247
abbrev bZ_ := @Tryz.runUnderlying156
abbrev ca_ := @Tryz.runUnderlying114
abbrev ci_ := @Tryz.sizeOf26
abbrev co_ := @Tryz.runUnderlying257
abbrev cp_ := @Tryz.runUnderlying253
abbrev cq_ := @Tryz.runUnderlying251
abbrev cr_ := @Tryz.runUnderlying223
abbrev cs_ := @Tryz.runUnderlying185
abbrev ct_ := @Tryz.runUnderlying174
abbrev cu_ := @Tryz.runUnderlying164
abbrev cv_ := @Tryz.runUnderlying160
abbrev cw_ := @Tryz.runUnderlying144
abbrev cx_ := @Tryz.runUnderlying133
abbrev cy_ := @Tryz.runUnderlying124
abbrev cz_ := @Tryz.runUnderlying101
abbrev cE_ := @Tryz.zeroValue42
abbrev cH_ := @Tryz.runUnderlying77
abbrev cI_ := @Tryz.runUnderlying67
abbrev cJ_ := @Tryz.runUnderlying54
abbrev cK_ := @Tryz.runUnderlying42
abbrev cL_ := @Tryz.runUnderlying36
abbrev dh_ := @Tryz.runUnderlying250
abbrev di_ := @Tryz.runUnderlying204
abbrev dj_ := @Tryz.runUnderlying200
abbrev dk_ := @Tryz.runUnderlying105
abbrev dl_ := @Tryz.runUnderlying103
abbrev du_ := @Tryz.isAgg174
abbrev dz_ := @Tryz.runUnderlying95
abbrev dN_ := @Tryz.sizeOf4
abbrev dQ_ := @Tryz.zeroValue33
abbrev dR_ := @Tryz.zeroValue26
abbrev ec_ := @Tryz.runUnderlying165
abbrev eE_ := @Tryz.sizeOf120
abbrev eH_ := @Tryz.results70
abbrev eW_ := @Tryz.underlying174
abbrev fw_ := @Tryz.runUnderlying121
abbrev fD_ := @Tryz.zeroValue180
abbrev fS_ := @Tryz.sizeOf164
abbrev ge_ := @Tryz.isAgg28
abbrev ib_ := @Tryz.underlying25
abbrev ig_ := @Tryz.sizeOf180
abbrev ii_ := @Tryz.results32
abbrev ij_ := @Tryz.results10
abbrev io_ := @Tryz.isAgg67
abbrev iU_ := @Tryz.runUnderlying167
abbrev iV_ := @Tryz.runUnderlying166
abbrev iW_ := @Tryz.runUnderlying137
abbrev iX_ := @Tryz.runUnderlying112
abbrev je_ := @Tryz.zeroValue28
abbrev jx_ := @Tryz.sizeOf95
abbrev jy_ := @Tryz.isAgg145
abbrev kk_ := @Tryz.zeroValue3
abbrev lE_ := @Tryz.isAgg25
abbrev mB_ := @Tryz.results99
abbrev nI_ := @Tryz.zeroValue164
abbrev oU_ := @Tryz.isAgg109
abbrev rL_ := @Tryz.isAgg42
abbrev sv_ := @Tryz.results189
abbrev tm_ := @Tryz.runUnderlying128
abbrev tn_ := @Tryz.runUnderlying122
abbrev uH_ := @Tryz.sizeOf167
abbrev uQ_ := @Tryz.results77
abbrev uR_ := @Tryz.results18
abbrev yj_ := @Tryz.sizeOf63
abbrev yo_ := @Tryz.isAgg185
end Go.Proofs.YtpbnmnfdgckaiaaGreatDoor
namespace Go.Proofs.YtpbnmnfdgckaiaaGreatDoor
end Go.Proofs.YtpbnmnfdgckaiaaGreatDoor
theorem za_ {G:Prop} (h:G:=by omega):G:=h
theorem zb_ {G:Prop} (h:G:=by dsimp only;omega):G:=h
theorem zc_ {G:Prop} (h:G:=by simp only[maxLen];(first|omega|(simp only[List.length_cons,List.length_nil];omega))):G:=h
theorem zd_ {G:Prop} (h:G:=by kernel_rfl):G:=h
theorem ze_ {G:Prop} (h:G:=by decide):G:=h
theorem zf_ {G:Prop} (h:G:=by (first|omega|(simp only[List.length_cons,List.length_nil];omega))):G:=h
theorem zg_ {G:Prop} (h:G:=by first|omega|(simp only[Con.parts];omega)|(simp[Con.parts];done)):G:=h
theorem zh_ {G:Prop} (h:G:=by first|omega|(simp;done)):G:=h
theorem zi_ {G:Prop} (h:G:=by assumption):G:=h
theorem zj_ {G:Prop} (h:G:=by simp):G:=h
theorem zk_ {G:Prop} (h:G:=by rintro e w' ⟨rfl,rfl⟩;exact⟨rfl,⟨rfl,rfl,rfl,Nat.le_refl _,fun _ _=>rfl⟩,.inr (Nat.le_refl _)⟩):G:=h
theorem zl_ {G:Prop} (h:G:=by exact (A_ (c_ (c_ (c_ (c_ (c_ (c_ (c_ (c_ (c_ (c_ t_)))))))))) (j_ (c_ d_) (j_ (c_ d_) (j_ (c_ d_) (j_ (c_ d_) (j_ (c_ d_) (j_ (c_ d_) (j_ (c_ d_) (j_ (c_ d_) (j_ (c_ d_) (A_ C_ d_)))))))))))):G:=h
theorem zm_ {G:Prop} (h:G:=by simp only[maxLen];omega):G:=h
theorem zn_ {G:Prop} (h:G:=by simp;omega):G:=h
theorem zo_ {G:Prop} (h:G:=by simp only[maxLen];((try simp only[List.length_append,List.length_cons,List.length_nil]);omega)):G:=h
theorem zq_ {G:Prop} (h:G:=by simp[bz_,kws, *]):G:=h
theorem zr_ {G:Prop} (h:G:=by simp only[List.length_append,List.length_cons,List.length_nil];omega):G:=h
theorem zs_ {G:Prop} (h:G:=by ((try simp only[List.length_append,List.length_cons,List.length_nil]);omega)):G:=h
theorem zt_ {G:Prop} (h:G:=by first|omega|(simp;omega)):G:=h
theorem zu_ {G:Prop} (h:G:=by have e:tyL s.ks (List.take (j+1) c.facts)=(tyL s.ks (List.take j c.facts)):=(by unfold tyL;rw[tk1 d,List.filter_append];simp_all);rw[e];exact F):G:=h
theorem zv_ {G:Prop} (h:G:=by have e:raL s.ks (List.take (j+1) c.facts)=(raL s.ks (List.take j c.facts)):=(by unfold raL;rw[tk1 d,List.filter_append];simp_all);rw[e];exact E):G:=h
theorem zw_ {G:Prop} (h:G:=by (try dsimp only);omega):G:=h
theorem zx_ {G:Prop} (h:G:=by have e:liL (List.take (j+1) c.facts)=(liL (List.take j c.facts)):=(by unfold liL;rw[tk1 d,List.filter_append];simp_all);rw[e];exact C):G:=h
theorem zy_ {G:Prop} (h:G:=by simp only[List.length_cons,List.length_nil];omega):G:=h
theorem zz_ {G:Prop} (h:G:=by have:=cO_ A.nd (m:=q) (fun z d=>by rcases List.mem_append.1 d with d|d;exact v z d;rw[List.mem_singleton]at d;exact d▸G);rw[List.length_append,List.length_singleton]at this;dsimp only;rw[List.length_append,List.length_singleton];omega):G:=h
theorem zA_ {G:Prop} (h:G:=by subst_vars;rw[Bool.eq_iff_iff];simp[eK_]<;>omega):G:=h
theorem zB_ {G:Prop} (h:G:=by rw[E];have:=cO_ A.nd (m:=q) (fun z d=>by rcases List.mem_append.1 d with d|d;exact v z d;rw[List.mem_singleton]at d;exact d▸G);rw[List.length_append,List.length_singleton]at this;omega):G:=h
theorem zC_ {G:Prop} (h:G:=by subst_vars;rw[Bool.eq_iff_iff];simp[cR_]<;>simp at*<;> omega):G:=h
theorem zD_ {G:Prop} (h:G:=by rw[rl.eq_def,if_neg (by rw[d];decide),if_pos d]<;>rfl):G:=h
theorem zE_ {G:Prop} (h:G:=by first|omega|(simp_all;done)|(simp_all;omega)|grind):G:=h
theorem zF_ {G:Prop} (h:G:=by rw[hk];exact aJ_ p_ rfl):G:=h
theorem zG_ {G:Prop} (h:G:=by rintro e w' ⟨rfl,rfl⟩;exact⟨rfl,rfl,rfl,rfl,rfl,Nat.le_refl _⟩):G:=h
theorem zH_ {G:Prop} (h:G:=by have q:=J.push G hGw T hto_1 (fun q=>by have F:=hcll;rw[q.2]at F;simp[q.1]at F) (by rw[a0];have F:=Z;rw[hbe]at F;exact F);rw[a0]at q;exact q):G:=h
theorem zI_ {G:Prop} (h:G:=by have:=List.countP_le_length (p:=fun r=>decide (r=x.role)) (l:=List.take j (Ax.roles x));have:=List.length_take_le j (Ax.roles x);omega):G:=h
theorem zJ_ {G:Prop} (h:G:=by rw[hk];simp):G:=h
theorem zK_ {G:Prop} (h:G:=by rw[Con.text_eq];simp[Con.kind,Con.name,hk]):G:=h
theorem zL_ {G:Prop} (h:G:=by simp[d]):G:=h
theorem zM_ {G:Prop} (h:G:=by simpa using h):G:=h
theorem zN_ {G:Prop} (h:G:=by rw[Con.bare_eq];simp only[Con.kind,Con.parts]at *;simp[*]):G:=h
theorem zO_ {G:Prop} (h:G:=by rw[List.append_nil];exact @List.perm_append_comm _ _ [_]):G:=h
theorem zP_ {G:Prop} (h:G:=by simp only[maxLen];((try simp only[List.length_append,List.length_cons,List.length_nil]);have a5:=O.len;omega)):G:=h
theorem zQ_ {G:Prop} (h:G:=by first|exact y|(simp;omega)):G:=h
theorem zR_ {G:Prop} (h:G:=by simp[hk]):G:=h
theorem zS_ {G:Prop} (h:G:=by simp[bg_, *]<;>omega):G:=h
theorem zT_ {G:Prop} (h:G:=by rw[List.append_nil];exact .refl _):G:=h
theorem zU_ {G:Prop} (h:G:=by simp only[List.length_cons];omega):G:=h
theorem zV_ {G:Prop} (h:G:=by as_aux_lemma=>kernel_rfl):G:=h
theorem zW_ {G:Prop} (h:G:=by rw[hk];decide):G:=h
theorem zX_ {G:Prop} (h:G:=by rintro e w' ⟨x,G,m,q,C,A,B⟩;exact⟨⟨[],by simpa [eO_] using aw_.nil _ _⟩,G,m,q,C,A,B⟩):G:=h
theorem zY_ {G:Prop} (h:G:=by simp[MapKept.IsKey,str]):G:=h
theorem zZ_ {G:Prop} (h:G:=by show k≤4∨k=8;omega):G:=h
theorem zaa_ {G:Prop} (h:G:=by ((try simp only[List.length_append,List.length_cons,List.length_nil]);have a5:=O.len;omega)):G:=h
theorem zab_ {G:Prop} (h:G:=by have:=Con.textN_len d;simp only[List.length_append,List.length_cons,List.length_nil];omega):G:=h
theorem zac_ {G:Prop} (h:G:=by decide +kernel):G:=h
theorem zad_ {G:Prop} (h:G:=by (have:=fk_ p;(try simp only[List.length_append,List.length_cons,List.length_nil]);omega)):G:=h
theorem zae_ {G:Prop} (h:G:=by rw[rl.eq_def,if_pos d]<;>rfl):G:=h
theorem zaf_ {G:Prop} (h:G:=by simpa using e):G:=h
theorem zag_ {G:Prop} (h:G:=by simp[fA_, *]<;>omega):G:=h
theorem zah_ {G:Prop} (h:G:=by rw[← e];rfl):G:=h
theorem zai_ {G:Prop} (h:G:=by simp[MapKept.IsKey]):G:=h
theorem zaj_ {G:Prop} (h:G:=by rw[List.length_map];omega):G:=h
theorem zak_ {G:Prop} (h:G:=by rw[I d];decide):G:=h
theorem zal_ {G:Prop} (h:G:=by rw[List.getElem?_append_left (List.getElem?_eq_some_iff.1 G).1];exact G):G:=h
theorem zam_ {G:Prop} (h:G:=by simpa using k):G:=h
theorem zan_ {G:Prop} (h:G:=by rw[← d];rfl):G:=h
theorem zao_ {G:Prop} (h:G:=by rw[e.2,← ef];exact k):G:=h
theorem zap_ {G:Prop} (h:G:=by dsimp only;simp only[List.length_append,List.length_singleton];omega):G:=h
theorem zaq_ {G:Prop} (h:G:=by have:=(E.append_right F).symm;simpa [List.append_assoc] using this):G:=h
theorem zar_ {G:Prop} (h:G:=by simpa [ByteArray.size] using hl):G:=h
theorem zas_ {G:Prop} (h:G:=by rw[N d];decide):G:=h
theorem zat_ {G:Prop} (h:G:=by have:=Con.sz_part (c:=(.mk k nm lo hi ad cap ps)) m;omega):G:=h
theorem zau_ {G:Prop} (h:G:=by have:=Con.sz_part (c:=(.mk k nm lo hi ad cap ps)) e;omega):G:=h
theorem zav_ {G:Prop} (h:G:=by unfold Sort.HoldsK;rw[hx_];exact vI_ M (by rw[O];exact I)):G:=h
theorem zaw_ {G:Prop} (h:G:=by simp only[maxLen,List.length_cons,List.length_nil];omega):G:=h
theorem zax_ {G:Prop} (h:G:=by simpa using m):G:=h
theorem zay_ {G:Prop} (h:G:=by simpa using y):G:=h
theorem zaz_ {G:Prop} (h:G:=by have:=Con.sz_part (c:=.mk k nm lo hi ad cap ps) d;omega):G:=h
theorem zaA_ {G:Prop} (h:G:=by rcases y with rfl|rfl<;>rfl):G:=h
theorem zaB_ {G:Prop} (h:G:=by cases q):G:=h
theorem zaC_ {G:Prop} (h:G:=by rw[k]):G:=h
theorem zaD_ {G:Prop} (h:G:=by rw[List.length_take];omega):G:=h
theorem zaE_ {G:Prop} (h:G:=by rw[k,← ni_ m hk];exact d):G:=h
theorem zaF_ {G:Prop} (h:G:=by unfold ef_;rw[tk1 d8,List.filter_append];simp[V]):G:=h
theorem zaG_ {G:Prop} (h:G:=by simp[v]):G:=h
theorem zaH_ {G:Prop} (h:G:=by exact (h.2.1.2 d k).2.2):G:=h
theorem zaI_ {G:Prop} (h:G:=by show (0:Int)≤k;omega):G:=h
theorem zaJ_ {G:Prop} (h:G:=by rw[take_snoc A,List.countP_append,hm];simp[e]):G:=h
