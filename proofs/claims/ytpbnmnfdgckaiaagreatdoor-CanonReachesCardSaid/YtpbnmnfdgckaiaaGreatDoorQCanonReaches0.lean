/-
  Part of the proof of the law CanonReaches over this seat: short names for closed facts on the program (no condition).
-/
import Derived.Test.YtpbnmnfdgckaiaaGreatDoorProg
import Derived.KernelRfl
namespace Go.Proofs.YtpbnmnfdgckaiaaGreatDoor
open Go
abbrev zp_ (b o : Nat) : Value := .pointer (some ⟨b, o, none⟩)
abbrev l_ := @Tryz.runUnderlying25
abbrev p_ := @Tryz.underlying3
abbrev x_ := @Tryz.runUnderlying26
abbrev A_ := @Tryz.sizeOf36
abbrev D_ := @Tryz.runUnderlying63
abbrev E_ := @Tryz.sizeOf9
abbrev F_ := @Tryz.sizeOf174
abbrev H_ := @Tryz.runUnderlying33
abbrev J_ := @Tryz.sizeOf40
abbrev P_ := @Tryz.zeroValue174
abbrev V_ := @Tryz.runUnderlying9
abbrev W_ := @Tryz.isAgg9
abbrev Y_ := @Tryz.zeroValue36
abbrev ad_ := @Tryz.runUnderlying38
abbrev ak_ := @Tryz.sizeOf3
abbrev as_ := @Tryz.zeroValue4
abbrev at_ := @Tryz.runUnderlying107
abbrev ax_ := @Tryz.zeroValue9
abbrev aC_ := @Tryz.runUnderlying40
abbrev aF_ := @Tryz.underlying9
abbrev aH_ := @Tryz.isAgg40
abbrev aL_ := @Tryz.results190
abbrev aN_ := @Tryz.isAgg3
abbrev aT_ := @Tryz.runUnderlying28
abbrev aU_ := @Tryz.runUnderlying22
abbrev aX_ := @Tryz.runUnderlying127
abbrev bf_ := @Tryz.runUnderlying119
abbrev bk_ := @Tryz.zeroValue25
abbrev br_ := @Tryz.sizeOf42
abbrev bz_ := @Tryz.runUnderlying83
abbrev bB_ := @Tryz.isAgg36
abbrev bH_ := @Tryz.sizeOf28
abbrev bL_ := @Tryz.runUnderlying118
abbrev bP_ := @Tryz.sizeOf25
abbrev bT_ := @Tryz.zeroValue63
abbrev bU_ := @Tryz.zeroValue40
abbrev bV_ := @Tryz.sizeOf67
abbrev bY_ := @Tryz.runUnderlying247
abbrev bZ_ := @Tryz.runUnderlying156
abbrev ca_ := @Tryz.runUnderlying114
abbrev ck_ := @Tryz.sizeOf26
abbrev cr_ := @Tryz.runUnderlying257
abbrev cs_ := @Tryz.runUnderlying253
abbrev ct_ := @Tryz.runUnderlying251
abbrev cu_ := @Tryz.runUnderlying223
abbrev cv_ := @Tryz.runUnderlying185
abbrev cw_ := @Tryz.runUnderlying174
abbrev cx_ := @Tryz.runUnderlying164
abbrev cy_ := @Tryz.runUnderlying160
abbrev cz_ := @Tryz.runUnderlying144
abbrev cA_ := @Tryz.runUnderlying133
abbrev cB_ := @Tryz.runUnderlying124
abbrev cC_ := @Tryz.runUnderlying101
abbrev cI_ := @Tryz.zeroValue42
abbrev cL_ := @Tryz.runUnderlying77
abbrev cM_ := @Tryz.runUnderlying67
abbrev cN_ := @Tryz.runUnderlying54
abbrev cO_ := @Tryz.runUnderlying42
abbrev cP_ := @Tryz.runUnderlying36
abbrev dm_ := @Tryz.runUnderlying250
abbrev dn_ := @Tryz.runUnderlying204
abbrev do_ := @Tryz.runUnderlying200
abbrev dp_ := @Tryz.runUnderlying105
abbrev dq_ := @Tryz.runUnderlying103
abbrev dy_ := @Tryz.isAgg174
abbrev dD_ := @Tryz.runUnderlying95
abbrev dQ_ := @Tryz.sizeOf4
abbrev dU_ := @Tryz.zeroValue33
abbrev dV_ := @Tryz.zeroValue26
abbrev eh_ := @Tryz.runUnderlying165
abbrev eK_ := @Tryz.sizeOf120
abbrev eN_ := @Tryz.results70
abbrev fc_ := @Tryz.underlying174
abbrev fC_ := @Tryz.runUnderlying121
abbrev fJ_ := @Tryz.zeroValue180
abbrev fZ_ := @Tryz.sizeOf164
abbrev gl_ := @Tryz.isAgg28
abbrev il_ := @Tryz.underlying25
abbrev ir_ := @Tryz.sizeOf180
abbrev iu_ := @Tryz.results32
abbrev iv_ := @Tryz.results10
abbrev iB_ := @Tryz.isAgg67
abbrev jj_ := @Tryz.runUnderlying167
abbrev jk_ := @Tryz.runUnderlying166
abbrev jl_ := @Tryz.runUnderlying137
abbrev jm_ := @Tryz.runUnderlying112
abbrev ju_ := @Tryz.zeroValue28
abbrev jP_ := @Tryz.sizeOf95
abbrev jQ_ := @Tryz.isAgg145
abbrev kE_ := @Tryz.zeroValue3
abbrev mc_ := @Tryz.isAgg25
abbrev na_ := @Tryz.results99
abbrev oi_ := @Tryz.zeroValue164
abbrev pz_ := @Tryz.isAgg109
abbrev sx_ := @Tryz.isAgg42
abbrev ti_ := @Tryz.results189
abbrev tZ_ := @Tryz.runUnderlying128
abbrev ua_ := @Tryz.runUnderlying122
abbrev vw_ := @Tryz.sizeOf167
abbrev vF_ := @Tryz.results77
abbrev vG_ := @Tryz.results18
abbrev zf_ := @Tryz.sizeOf63
abbrev zk_ := @Tryz.isAgg185
end Go.Proofs.YtpbnmnfdgckaiaaGreatDoor
namespace Go.Proofs.YtpbnmnfdgckaiaaGreatDoor
end Go.Proofs.YtpbnmnfdgckaiaaGreatDoor
theorem zs_ {G:Prop} (h:G:=by omega):G:=h
theorem zt_ {G:Prop} (h:G:=by dsimp only;omega):G:=h
theorem zu_ {G:Prop} (h:G:=by simp only[maxLen];(first|omega|(simp only[List.length_cons,List.length_nil];omega))):G:=h
theorem zv_ {G:Prop} (h:G:=by kernel_rfl):G:=h
theorem zw_ {G:Prop} (h:G:=by decide):G:=h
theorem zx_ {G:Prop} (h:G:=by (first|omega|(simp only[List.length_cons,List.length_nil];omega))):G:=h
theorem zy_ {G:Prop} (h:G:=by first|omega|(simp only[Con.parts];omega)|(simp[Con.parts];done)):G:=h
theorem zz_ {G:Prop} (h:G:=by first|omega|(simp;done)):G:=h
theorem zA_ {G:Prop} (h:G:=by assumption):G:=h
theorem zB_ {G:Prop} (h:G:=by simp):G:=h
theorem zC_ {G:Prop} (h:G:=by rintro e w' ⟨rfl,rfl⟩;exact⟨rfl,⟨rfl,rfl,rfl,Nat.le_refl _,fun _ _=>rfl⟩,.inr (Nat.le_refl _)⟩):G:=h
theorem zD_ {G:Prop} (h:G:=by exact (z_ (c_ (c_ (c_ (c_ (c_ (c_ (c_ (c_ (c_ (c_ t_)))))))))) (j_ (c_ d_) (j_ (c_ d_) (j_ (c_ d_) (j_ (c_ d_) (j_ (c_ d_) (j_ (c_ d_) (j_ (c_ d_) (j_ (c_ d_) (j_ (c_ d_) (z_ C_ d_)))))))))))):G:=h
theorem zE_ {G:Prop} (h:G:=by simp only[maxLen];omega):G:=h
theorem zF_ {G:Prop} (h:G:=by simp;omega):G:=h
theorem zG_ {G:Prop} (h:G:=by simp only[maxLen];((try simp only[List.length_append,List.length_cons,List.length_nil]);omega)):G:=h
theorem zH_ {G:Prop} (h:G:=by simp[bA_,kws, *]):G:=h
theorem zI_ {G:Prop} (h:G:=by simp only[List.length_append,List.length_cons,List.length_nil];omega):G:=h
theorem zJ_ {G:Prop} (h:G:=by ((try simp only[List.length_append,List.length_cons,List.length_nil]);omega)):G:=h
theorem zK_ {G:Prop} (h:G:=by first|omega|(simp;omega)):G:=h
theorem zL_ {G:Prop} (h:G:=by have e:tyL s.ks (List.take (j+1) c.facts)=(tyL s.ks (List.take j c.facts)):=(by unfold tyL;rw[tk1 d,List.filter_append];simp_all);rw[e];exact C):G:=h
theorem zM_ {G:Prop} (h:G:=by have e:raL s.ks (List.take (j+1) c.facts)=(raL s.ks (List.take j c.facts)):=(by unfold raL;rw[tk1 d,List.filter_append];simp_all);rw[e];exact F):G:=h
theorem zN_ {G:Prop} (h:G:=by (try dsimp only);omega):G:=h
theorem zO_ {G:Prop} (h:G:=by have e:liL (List.take (j+1) c.facts)=(liL (List.take j c.facts)):=(by unfold liL;rw[tk1 d,List.filter_append];simp_all);rw[e];exact E):G:=h
theorem zP_ {G:Prop} (h:G:=by simp only[List.length_cons,List.length_nil];omega):G:=h
theorem zQ_ {G:Prop} (h:G:=by have:=cS_ A.nd (m:=q) (fun z d=>by rcases List.mem_append.1 d with d|d;exact v z d;rw[List.mem_singleton]at d;exact d▸G);rw[List.length_append,List.length_singleton]at this;dsimp only;rw[List.length_append,List.length_singleton];omega):G:=h
theorem zR_ {G:Prop} (h:G:=by subst_vars;rw[Bool.eq_iff_iff];simp[eQ_]<;>omega):G:=h
theorem zS_ {G:Prop} (h:G:=by rw[E];have:=cS_ A.nd (m:=q) (fun z d=>by rcases List.mem_append.1 d with d|d;exact v z d;rw[List.mem_singleton]at d;exact d▸G);rw[List.length_append,List.length_singleton]at this;omega):G:=h
theorem zT_ {G:Prop} (h:G:=by subst_vars;rw[Bool.eq_iff_iff];simp[cV_]<;>simp at*<;> omega):G:=h
theorem zU_ {G:Prop} (h:G:=by rw[rl.eq_def,if_neg (by rw[d];decide),if_pos d]<;>rfl):G:=h
theorem zV_ {G:Prop} (h:G:=by simpa using h):G:=h
theorem zW_ {G:Prop} (h:G:=by first|omega|(simp_all;done)|(simp_all;omega)|grind):G:=h
theorem zX_ {G:Prop} (h:G:=by rw[hk];exact aJ_ p_ rfl):G:=h
theorem zY_ {G:Prop} (h:G:=by rintro e w' ⟨rfl,rfl⟩;exact⟨rfl,rfl,rfl,rfl,rfl,Nat.le_refl _⟩):G:=h
theorem zZ_ {G:Prop} (h:G:=by have q:=J.push G hGw T hto_1 (fun q=>by have F:=hcll;rw[q.2]at F;simp[q.1]at F) (by rw[U];have F:=a1;rw[hbe]at F;exact F);rw[U]at q;exact q):G:=h
theorem zaa_ {G:Prop} (h:G:=by simp[d]):G:=h
theorem zab_ {G:Prop} (h:G:=by have:=List.countP_le_length (p:=fun r=>decide (r=x.role)) (l:=List.take j (Ax.roles x));have:=List.length_take_le j (Ax.roles x);omega):G:=h
theorem zac_ {G:Prop} (h:G:=by rw[hk];simp):G:=h
theorem zad_ {G:Prop} (h:G:=by rw[Con.text_eq];simp[Con.kind,Con.name,hk]):G:=h
theorem zae_ {G:Prop} (h:G:=by rw[Con.bare_eq];simp only[Con.kind,Con.parts]at *;simp[*]):G:=h
theorem zaf_ {G:Prop} (h:G:=by rw[List.append_nil];exact @List.perm_append_comm _ _ [_]):G:=h
theorem zag_ {G:Prop} (h:G:=by simpa using e):G:=h
theorem zah_ {G:Prop} (h:G:=by simp only[maxLen];((try simp only[List.length_append,List.length_cons,List.length_nil]);have a8:=N.len;omega)):G:=h
theorem zai_ {G:Prop} (h:G:=by first|exact y|(simp;omega)):G:=h
theorem zaj_ {G:Prop} (h:G:=by simp[hk]):G:=h
theorem zak_ {G:Prop} (h:G:=by simp[bh_, *]<;>omega):G:=h
theorem zal_ {G:Prop} (h:G:=by rw[List.append_nil];exact .refl _):G:=h
theorem zam_ {G:Prop} (h:G:=by simp only[List.length_cons];omega):G:=h
theorem zan_ {G:Prop} (h:G:=by as_aux_lemma=>kernel_rfl):G:=h
theorem zao_ {G:Prop} (h:G:=by rw[hk];decide):G:=h
theorem zap_ {G:Prop} (h:G:=by rintro e w' ⟨x,J,m,C,A,q,B⟩;exact⟨⟨[],by simpa [eU_] using ay_.nil _ _⟩,J,m,C,A,q,B⟩):G:=h
theorem zaq_ {G:Prop} (h:G:=by simp[MapKept.IsKey,str]):G:=h
theorem zar_ {G:Prop} (h:G:=by show k≤4∨k=8;omega):G:=h
theorem zas_ {G:Prop} (h:G:=by ((try simp only[List.length_append,List.length_cons,List.length_nil]);have a8:=N.len;omega)):G:=h
theorem zat_ {G:Prop} (h:G:=by have:=Con.textN_len d;simp only[List.length_append,List.length_cons,List.length_nil];omega):G:=h
theorem zau_ {G:Prop} (h:G:=by decide +kernel):G:=h
theorem zav_ {G:Prop} (h:G:=by (have:=fq_ p;(try simp only[List.length_append,List.length_cons,List.length_nil]);omega)):G:=h
theorem zaw_ {G:Prop} (h:G:=by rw[rl.eq_def,if_pos d]<;>rfl):G:=h
theorem zax_ {G:Prop} (h:G:=by simpa using k):G:=h
theorem zay_ {G:Prop} (h:G:=by simp[fG_, *]<;>omega):G:=h
theorem zaz_ {G:Prop} (h:G:=by rw[← e];rfl):G:=h
theorem zaA_ {G:Prop} (h:G:=by simp[MapKept.IsKey]):G:=h
theorem zaB_ {G:Prop} (h:G:=by rw[List.length_map];omega):G:=h
theorem zaC_ {G:Prop} (h:G:=by rw[I d];decide):G:=h
theorem zaD_ {G:Prop} (h:G:=by rw[List.getElem?_append_left (List.getElem?_eq_some_iff.1 G).1];exact G):G:=h
theorem zaE_ {G:Prop} (h:G:=by rw[← d];rfl):G:=h
theorem zaF_ {G:Prop} (h:G:=by rw[e.2,← ef];exact k):G:=h
theorem zaG_ {G:Prop} (h:G:=by dsimp only;simp only[List.length_append,List.length_singleton];omega):G:=h
theorem zaH_ {G:Prop} (h:G:=by have:=(E.append_right F).symm;simpa [List.append_assoc] using this):G:=h
theorem zaI_ {G:Prop} (h:G:=by simpa [ByteArray.size] using hl):G:=h
theorem zaJ_ {G:Prop} (h:G:=by rw[M d];decide):G:=h
theorem zaK_ {G:Prop} (h:G:=by have:=Con.sz_part (c:=(.mk k nm lo hi ad cap ps)) m;omega):G:=h
theorem zaL_ {G:Prop} (h:G:=by have:=Con.sz_part (c:=(.mk k nm lo hi ad cap ps)) e;omega):G:=h
theorem zaM_ {G:Prop} (h:G:=by unfold Sort.HoldsK;rw[hF_];exact wx_ M (by rw[Q];exact F)):G:=h
theorem zaN_ {G:Prop} (h:G:=by simp only[maxLen,List.length_cons,List.length_nil];omega):G:=h
theorem zaO_ {G:Prop} (h:G:=by simpa using y):G:=h
theorem zaP_ {G:Prop} (h:G:=by have:=Con.sz_part (c:=.mk k nm lo hi ad cap ps) d;omega):G:=h
theorem zaQ_ {G:Prop} (h:G:=by simpa using A):G:=h
theorem zaR_ {G:Prop} (h:G:=by rcases y with rfl|rfl<;>rfl):G:=h
theorem zaS_ {G:Prop} (h:G:=by cases q):G:=h
theorem zaT_ {G:Prop} (h:G:=by rw[k]):G:=h
theorem zaU_ {G:Prop} (h:G:=by rw[List.length_take];omega):G:=h
theorem zaV_ {G:Prop} (h:G:=by rw[h,← nH_ e hk];exact d):G:=h
theorem zaW_ {G:Prop} (h:G:=by rw[e];rfl):G:=h
theorem zaX_ {G:Prop} (h:G:=by unfold el_;rw[tk1 b5,List.filter_append];simp[U]):G:=h
theorem zaY_ {G:Prop} (h:G:=by simp[h]):G:=h
theorem zaZ_ {G:Prop} (h:G:=by exact (h.2.1.2 d k).2.2):G:=h
theorem zba_ {G:Prop} (h:G:=by show (0:Int)≤k;omega):G:=h
theorem zbb_ {G:Prop} (h:G:=by rw[take_snoc v,List.countP_append,hm];simp[e]):G:=h
