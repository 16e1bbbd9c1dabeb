/-
  Short names for closed facts on the program, for the law ModuleTypes (no condition).
-/
import Derived.Lib.ItoaMem
import Derived.Laws.IdiomStrings
import Derived.ArgAppend
import Derived.Test.YthmjeabeoodghaaGreatDoorProg
import Derived.KernelRfl
namespace Go
abbrev Ao:=Option Addr
end Go
namespace Go.Proofs.YthmjeabeoodghaaGreatDoor
open Go
abbrev zp_ (b o : Nat) : Value := .pointer (some ⟨b, o, none⟩)
abbrev m_ := @Tryz.underlying3
abbrev n_ := @Tryz.sizeOf28
abbrev t_ := @Tryz.runUnderlying25
abbrev F_ := @Tryz.runUnderlying64
abbrev H_ := @Tryz.sizeOf30
abbrev L_ := @Tryz.sizeOf76
abbrev M_ := @Tryz.sizeOf9
abbrev N_ := @Tryz.runUnderlying9
abbrev P_ := @Tryz.sizeOf3
abbrev V_ := @Tryz.zeroValue76
abbrev ab_ := @Tryz.runUnderlying26
abbrev ac_ := @Tryz.isAgg28
abbrev ag_ := @Tryz.runUnderlying242
abbrev ai_ := @Tryz.isAgg9
abbrev ap_ := @Tryz.runUnderlying58
abbrev at_ := @Tryz.sizeOf129
abbrev aw_ := @Tryz.zeroValue9
abbrev aF_ := @Tryz.isAgg3
abbrev aG_ := @Tryz.zeroValue30
abbrev aH_ := @Tryz.zeroValue28
abbrev aJ_ := @Tryz.sizeOf156
abbrev aQ_ := @Tryz.zeroValue244
abbrev aU_ := @Tryz.runUnderlying22
abbrev aV_ := @Tryz.zeroValue129
abbrev aW_ := @Tryz.runUnderlying154
abbrev aZ_ := @Tryz.underlying9
abbrev ba_ := @Tryz.sizeOf244
abbrev bb_ := @Tryz.results266
abbrev bf_ := @Tryz.runUnderlying101
abbrev bq_ := @Tryz.isAgg30
abbrev br_ := @Tryz.runUnderlying227
abbrev bA_ := @Tryz.zeroValue3
abbrev bG_ := @Tryz.sizeOf96
abbrev bH_ := @Tryz.sizeOf24
abbrev bQ_ := @Tryz.runUnderlying226
abbrev bR_ := @Tryz.zeroValue4
abbrev bX_ := @Tryz.runUnderlying28
abbrev cc_ := @Tryz.zeroValue64
abbrev ce_ := @Tryz.runUnderlying159
abbrev cp_ := @Tryz.runUnderlying71
abbrev cu_ := @Tryz.zeroValue25
abbrev cv_ := @Tryz.sizeOf4
abbrev cy_ := @Tryz.zeroValue156
abbrev cz_ := @Tryz.runUnderlying297
abbrev cA_ := @Tryz.runUnderlying102
abbrev cT_ := @Tryz.results18
abbrev dg_ := @Tryz.runUnderlying296
abbrev dh_ := @Tryz.runUnderlying229
abbrev di_ := @Tryz.runUnderlying171
abbrev dX_ := @Tryz.sizeOf25
abbrev ek_ := @Tryz.runUnderlying234
abbrev el_ := @Tryz.runUnderlying219
abbrev ew_ := @Tryz.results123
abbrev ex_ := @Tryz.zeroValue101
abbrev eC_ := @Tryz.isAgg76
abbrev eK_ := @Tryz.sizeOf82
abbrev eX_ := @Tryz.sizeOf228
abbrev fC_ := @Tryz.isAgg24
abbrev fT_ := @Tryz.isAgg129
abbrev fU_ := @Tryz.runUnderlying230
abbrev fZ_ := @Tryz.zeroValue292
abbrev ga_ := @Tryz.underlying76
abbrev gy_ := @Tryz.sizeOf218
abbrev gz_ := @Tryz.runUnderlying30
abbrev gO_ := @Tryz.isAgg96
abbrev ht_ := @Tryz.sizeOf22
abbrev hD_ := @Tryz.isAgg156
abbrev hN_ := @Tryz.results163
abbrev hO_ := @Tryz.results116
abbrev iO_ := @Tryz.underlying25
abbrev iU_ := @Tryz.sizeOf292
abbrev jQ_ := @Tryz.runUnderlying221
abbrev jR_ := @Tryz.runUnderlying220
abbrev jS_ := @Tryz.runUnderlying135
abbrev ke_ := @Tryz.zeroValue24
abbrev kj_ := @Tryz.underlying4
abbrev kH_ := @Tryz.sizeOf64
abbrev kI_ := @Tryz.isAgg125
abbrev kU_ := @Tryz.runUnderlying24
abbrev lI_ := @Tryz.results155
abbrev np_ := @Tryz.isAgg22
abbrev ox_ := @Tryz.results99
abbrev oy_ := @Tryz.results20
abbrev pO_ := @Tryz.zeroValue218
abbrev rB_ := @Tryz.isAgg123
abbrev sf_ := @Tryz.zeroValue96
abbrev sg_ := @Tryz.zeroValue71
abbrev vO_ := @Tryz.results265
abbrev vP_ := @Tryz.results182
abbrev xa_ := @Tryz.runUnderlying240
abbrev xb_ := @Tryz.runUnderlying235
abbrev xc_ := @Tryz.runUnderlying231
abbrev ze_ := @Tryz.sizeOf221
abbrev zZ_ := @Tryz.isAgg4
abbrev CR_ := @Tryz.isAgg102
end Go.Proofs.YthmjeabeoodghaaGreatDoor
namespace Go.Proofs.YthmjeabeoodghaaGreatDoor
end Go.Proofs.YthmjeabeoodghaaGreatDoor
theorem zaa_ {G:Prop} (h:G:=by omega):G:=h
theorem zab_ {G:Prop} (h:G:=by dsimp only;omega):G:=h
theorem zac_ {G:Prop} (h:G:=by kernel_rfl):G:=h
theorem zad_ {G:Prop} (h:G:=by decide):G:=h
theorem zae_ {G:Prop} (h:G:=by first|omega|(simp only[Con.parts];omega)|(simp[Con.parts];done)):G:=h
theorem zaf_ {G:Prop} (h:G:=by simp):G:=h
theorem zag_ {G:Prop} (h:G:=by first|omega|(simp only[List.length_cons,List.length_nil]at *;omega)):G:=h
theorem zah_ {G:Prop} (h:G:=by first|omega|(simp;done)):G:=h
theorem zai_ {G:Prop} (h:G:=by assumption):G:=h
theorem zaj_ {G:Prop} (h:G:=by simp only[List.length_append,List.length_cons,List.length_nil];omega):G:=h
theorem zak_ {G:Prop} (h:G:=by rintro e w' ⟨rfl,rfl⟩;exact⟨rfl,⟨rfl,rfl,rfl,Nat.le_refl _,fun _ _=>rfl⟩,.inr (Nat.le_refl _)⟩):G:=h
theorem zal_ {G:Prop} (h:G:=by exact (B_ (c_ (c_ (c_ (c_ (c_ (c_ (c_ (c_ (c_ (c_ w_)))))))))) (i_ (c_ d_) (i_ (c_ d_) (i_ (c_ d_) (i_ (c_ d_) (i_ (c_ d_) (i_ (c_ d_) (i_ (c_ d_) (i_ (c_ d_) (i_ (c_ d_) (B_ C_ d_)))))))))))):G:=h
theorem zam_ {G:Prop} (h:G:=by simp only[maxLen];((try simp only[List.length_append,List.length_cons,List.length_nil]);omega)):G:=h
theorem zan_ {G:Prop} (h:G:=by simp only[maxLen];omega):G:=h
theorem zao_ {G:Prop} (h:G:=by ((try simp only[List.length_append,List.length_cons,List.length_nil]);omega)):G:=h
theorem zap_ {G:Prop} (h:G:=by simp;omega):G:=h
theorem zaq_ {G:Prop} (h:G:=by first|omega|(simp;omega)):G:=h
theorem zar_ {G:Prop} (h:G:=by rw[List.length_map];omega):G:=h
theorem zas_ {G:Prop} (h:G:=by simp[bK_,kws, *]):G:=h
theorem zat_ {G:Prop} (h:G:=by (try dsimp only);omega):G:=h
theorem zau_ {G:Prop} (h:G:=by simpa using m):G:=h
theorem zav_ {G:Prop} (h:G:=by simpa [ah_,hk,W_,as_,Y_] using (h m).2.1 A):G:=h
theorem zaw_ {G:Prop} (h:G:=by simp only[maxLen];((try simp only[List.length_append,List.length_map,List.length_take,List.length_cons,List.length_nil]);omega)):G:=h
theorem zax_ {G:Prop} (h:G:=by simp only[List.length_cons,List.length_nil];omega):G:=h
theorem zay_ {G:Prop} (h:G:=by have:=eB_ v.nd (m:=q) (fun z d=>by rcases List.mem_append.1 d with d|d;exact h z d;rw[List.mem_singleton]at d;exact d▸F);rw[List.length_append,List.length_singleton]at this;dsimp only;rw[List.length_append,List.length_singleton];omega):G:=h
theorem zaz_ {G:Prop} (h:G:=by ((try simp only[List.length_append,List.length_map,List.length_take,List.length_cons,List.length_nil]);omega)):G:=h
theorem zaA_ {G:Prop} (h:G:=by rw[List.append_nil];exact .refl _):G:=h
theorem zaB_ {G:Prop} (h:G:=by simpa using h):G:=h
theorem zaC_ {G:Prop} (h:G:=by subst_vars;rw[Bool.eq_iff_iff];simp[eG_]<;>omega):G:=h
theorem zaD_ {G:Prop} (h:G:=by rw[C];have:=eB_ v.nd (m:=q) (fun z d=>by rcases List.mem_append.1 d with d|d;exact h z d;rw[List.mem_singleton]at d;exact d▸F);rw[List.length_append,List.length_singleton]at this;omega):G:=h
theorem zaE_ {G:Prop} (h:G:=by subst_vars;rw[Bool.eq_iff_iff];simp[cQ_]<;>simp at*<;> omega):G:=h
theorem zaF_ {G:Prop} (h:G:=by first|(simp only[List.length_nil];omega)|(simp only[List.length_append,List.length_nil];have q:=jf_ [(Thg.mk 1 [42])] [];simp only[List.length_cons,List.length_nil]at q;omega)):G:=h
theorem zaG_ {G:Prop} (h:G:=by rw[rl.eq_def,if_neg (by rw[d];decide),if_pos d]<;>rfl):G:=h
theorem zaH_ {G:Prop} (h:G:=by first|omega|(simp_all;done)|(simp_all;omega)|grind):G:=h
theorem zaI_ {G:Prop} (h:G:=by rintro e w' ⟨rfl,rfl⟩;exact⟨rfl,rfl,rfl,rfl,rfl,Nat.le_refl _⟩):G:=h
theorem zaJ_ {G:Prop} (h:G:=by simpa using F):G:=h
theorem zaK_ {G:Prop} (h:G:=by have q:=J.push G hGw T hto_1 (fun q=>by have F:=hcll;rw[q.2]at F;simp[q.1]at F) (by rw[Y];have F:=a0;rw[hbe]at F;exact F);rw[Y]at q;exact q):G:=h
theorem zaL_ {G:Prop} (h:G:=by rw[e];exact ay_ m_ rfl):G:=h
theorem zaM_ {G:Prop} (h:G:=by have:=List.countP_le_length (p:=fun r=>decide (r=x.role)) (l:=List.take j (Ax.roles x));have:=List.length_take_le j (Ax.roles x);omega):G:=h
theorem zaN_ {G:Prop} (h:G:=by rw[Con.text_eq];simp[Con.kind,Con.name,d]):G:=h
theorem zaO_ {G:Prop} (h:G:=by simp[aE_,hk]):G:=h
theorem zaP_ {G:Prop} (h:G:=by rw[Con.bare_eq];simp only[Con.kind,Con.parts]at *;simp[*]):G:=h
theorem zaQ_ {G:Prop} (h:G:=by unfold bj_;(repeat (any_goals split))<;>first|rfl|(simp_all;done)|(exfalso;simp_all;omega)|(exfalso;simp_all;done)):G:=h
theorem zaR_ {G:Prop} (h:G:=by rw[List.append_nil];exact @List.perm_append_comm _ _ [_]):G:=h
theorem zaS_ {G:Prop} (h:G:=by simpa using A):G:=h
theorem zaT_ {G:Prop} (h:G:=by simp[d]):G:=h
theorem zaU_ {G:Prop} (h:G:=by have:=sz_part d;omega):G:=h
theorem zaV_ {G:Prop} (h:G:=by simp only[maxLen];((try simp only[List.length_append,List.length_cons,List.length_nil]);have a3:=M.len;omega)):G:=h
theorem zaW_ {G:Prop} (h:G:=by simp only[List.length_append];omega):G:=h
theorem zaX_ {G:Prop} (h:G:=by first|exact A|(simp;omega)):G:=h
theorem zaY_ {G:Prop} (h:G:=by simp only[List.length_cons,List.length_nil]at *;omega):G:=h
theorem zaZ_ {G:Prop} (h:G:=by simp[bk_, *]<;>omega):G:=h
theorem zba_ {G:Prop} (h:G:=by exact ((Con.mem_iff c v).1 h.1).1):G:=h
theorem zbb_ {G:Prop} (h:G:=by as_aux_lemma=>kernel_rfl):G:=h
theorem zbc_ {G:Prop} (h:G:=by simpa using e):G:=h
theorem zbd_ {G:Prop} (h:G:=by simpa using d):G:=h
theorem zbe_ {G:Prop} (h:G:=by simp[MapKept.IsKey,str]):G:=h
theorem zbf_ {G:Prop} (h:G:=by show k≤4∨k=8;omega):G:=h
theorem zbg_ {G:Prop} (h:G:=by ((try simp only[List.length_append,List.length_cons,List.length_nil]);have a3:=M.len;omega)):G:=h
theorem zbh_ {G:Prop} (h:G:=by have:=Con.textN_len d;simp only[List.length_append,List.length_cons,List.length_nil];omega):G:=h
theorem zbi_ {G:Prop} (h:G:=by (have:=eO_ p;(try simp only[List.length_append,List.length_cons,List.length_nil]);omega)):G:=h
theorem zbj_ {G:Prop} (h:G:=by rw[E];simp):G:=h
theorem zbk_ {G:Prop} (h:G:=by rw[rl.eq_def,if_pos d]<;>rfl):G:=h
theorem zbl_ {G:Prop} (h:G:=by simp[fX_, *]<;>omega):G:=h
theorem zbm_ {G:Prop} (h:G:=by unfold HLp;simp only[List.cons_append,List.append_assoc,List.nil_append];exact vV_):G:=h
theorem zbn_ {G:Prop} (h:G:=by constructor<;>simp[Con.ok,Con.ok.oks,sB]):G:=h
theorem zbo_ {G:Prop} (h:G:=by have:=Con.sz_part d;omega):G:=h
theorem zbp_ {G:Prop} (h:G:=by rw[h];simp):G:=h
theorem zbq_ {G:Prop} (h:G:=by simpa [ah_,hk,W_,as_,Y_] using ⟨((h m).2.2.1 rfl).2,((C E).2.2.1 rfl).2⟩):G:=h
theorem zbr_ {G:Prop} (h:G:=by rw[C];simp):G:=h
theorem zbs_ {G:Prop} (h:G:=by rw[J d];decide):G:=h
theorem zbt_ {G:Prop} (h:G:=by rw[List.getElem?_append_left (List.getElem?_eq_some_iff.1 G).1];exact G):G:=h
theorem zbu_ {G:Prop} (h:G:=by rw[← e];rfl):G:=h
theorem zbv_ {G:Prop} (h:G:=by rw[← d];rfl):G:=h
theorem zbw_ {G:Prop} (h:G:=by simpa [ah_,hk,W_,as_,Y_] using ⟨((h m).2.2.1 rfl).2,(C E).2.1 A⟩):G:=h
theorem zbx_ {G:Prop} (h:G:=by dsimp only;simp only[List.length_append,List.length_singleton];omega):G:=h
theorem zby_ {G:Prop} (h:G:=by simp only[List.length_cons];omega):G:=h
theorem zbz_ {G:Prop} (h:G:=by have:=(C.append_right F).symm;simpa [List.append_assoc] using this):G:=h
theorem zbA_ {G:Prop} (h:G:=by rw[x];exact Nat.le_add_right _ _):G:=h
theorem zbB_ {G:Prop} (h:G:=by rw[K];decide):G:=h
theorem zbC_ {G:Prop} (h:G:=by simpa [ByteArray.size] using hl):G:=h
theorem zbD_ {G:Prop} (h:G:=by simp[y]):G:=h
theorem zbE_ {G:Prop} (h:G:=by rw[e];simp[Con.kind]):G:=h
theorem zbF_ {G:Prop} (h:G:=by simpa [ah_,hk,W_,as_,Y_] using ⟨(h m).2.1 A,(C m).2.1 A⟩):G:=h
theorem zbG_ {G:Prop} (h:G:=by simp[MapKept.IsKey]):G:=h
theorem zbH_ {G:Prop} (h:G:=by rw[O d];decide):G:=h
theorem zbI_ {G:Prop} (h:G:=by have:=Con.sz_part (c:=(.mk k nm lo hi ad cap ps)) m;omega):G:=h
theorem zbJ_ {G:Prop} (h:G:=by have:=Con.sz_part (c:=(.mk k nm lo hi ad cap ps)) e;omega):G:=h
theorem zbK_ {G:Prop} (h:G:=by simp[Ax.memF,Ax.mem,Con.memF,Con.mem,Con.mem.mems,X_,bY_]):G:=h
theorem zbL_ {G:Prop} (h:G:=by simp[x]):G:=h
theorem zbM_ {G:Prop} (h:G:=by have:=Con.sz_part (c:=.mk k nm lo hi ad cap ps) d;omega):G:=h
theorem zbN_ {G:Prop} (h:G:=by simpa using G):G:=h
theorem zbO_ {G:Prop} (h:G:=by rcases A with rfl|rfl<;>rfl):G:=h
theorem zbP_ {G:Prop} (h:G:=by rw[List.take_succ_cons];exact List.mem_cons_of_mem _ d):G:=h
theorem zbQ_ {G:Prop} (h:G:=by rw[m]):G:=h
theorem zbR_ {G:Prop} (h:G:=by rw[List.length_take];omega):G:=h
theorem zbS_ {G:Prop} (h:G:=by dsimp only;decide):G:=h
theorem zbT_ {G:Prop} (h:G:=by rw[B,← qI_ C h];exact d):G:=h
theorem zbU_ {G:Prop} (h:G:=by rw[tk1 h,List.any_append];simp[clF,m,e,v,x,C,← B]):G:=h
theorem zbV_ {G:Prop} (h:G:=by simpa [ah_,hk,W_,as_,Y_] using ((h m).2.2.1 rfl).2):G:=h
theorem zbW_ {G:Prop} (h:G:=by rw[tk1 h,List.any_append];simp[clF,m,e,v,x,← B]):G:=h
theorem zbX_ {G:Prop} (h:G:=by rw[List.map_cons];exact List.mem_cons_of_mem _ d):G:=h
theorem zbY_ {G:Prop} (h:G:=by simp[E]):G:=h
theorem zbZ_ {G:Prop} (h:G:=by simp[e]):G:=h
theorem zca_ {G:Prop} (h:G:=by exact (h.2.1.2 d m).2.2):G:=h
theorem zcb_ {G:Prop} (h:G:=by simpa [ah_,hk,W_,as_,Y_] using (h m).2.2.2 rfl):G:=h
theorem zcc_ {G:Prop} (h:G:=by show (0:Int)≤k;omega):G:=h
theorem zcd_ {G:Prop} (h:G:=by have:=(List.getElem?_eq_some_iff.1 d).1;omega):G:=h
theorem zce_ {G:Prop} (h:G:=by rw[take_snoc F,List.countP_append,hm];simp[e]):G:=h
theorem zcf_ {G:Prop} (h:G:=by constructor<;>simp[Con.ok,Con.ok.oks]<;>omega):G:=h
