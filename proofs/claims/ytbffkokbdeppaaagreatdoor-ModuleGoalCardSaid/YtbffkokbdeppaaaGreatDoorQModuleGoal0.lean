/-
  Short names for closed facts on the program, for the law ModuleGoal (no condition).
-/
import Derived.Lib.ItoaMem
import Derived.Laws.IdiomStrings
import Derived.Shelf.SlSortCmp.NoneTotal
import Derived.Test.YtbffkokbdeppaaaGreatDoorProg
import Derived.KernelRfl
namespace Go
abbrev Ao:=Option Addr
abbrev i4_:Int->Value:=.int .i64
abbrev yaa_:=@List.getElem?_eq_getElem
abbrev yab_:=@List.mem_of_getElem?
abbrev yac_:=@List.take_of_length_le
abbrev yad_:=@Nat.le_refl
abbrev yae_:=@congrArg
abbrev yaf_:=@List.getElem?_eq_some_iff
abbrev yag_:=@if_neg
abbrev yah_:=@Option.some.injEq
abbrev yai_:=@List.mem_append
abbrev yaj_:=@List.length_append
abbrev yak_:=@List.length_cons
abbrev yal_:=@List.mem_cons
abbrev yam_:=@List.mem_singleton
abbrev yan_:=@List.mem_map
abbrev yao_:=@List.mem_cons_self
abbrev yap_:=@List.append_assoc
abbrev yaq_:=@if_pos
abbrev yar_:=@List.map_cons
abbrev yas_:=@List.append_nil
abbrev yat_:=@List.not_mem_nil
abbrev yau_:=@List.take_add_one
abbrev yav_:=@eq_false
abbrev yaw_:=@List.eq_nil_of_length_eq_zero
abbrev yax_:=@List.mem_append_left
abbrev yay_:=@List.length_nil
abbrev yaz_:=@List.map_append
abbrev yaA_:=@Array.getElem?_eq_some_iff
abbrev yaB_:=@List.mem_flatMap
abbrev yaC_:=@List.length_map
abbrev yaD_:=@List.cons_append
abbrev yaE_:=@List.perm_append_comm
abbrev yaF_:=@List.mem_append_right
abbrev yaG_:=@Nat.le_of_ble_eq_true
abbrev yaH_:=@Nat.succ_ne_zero
abbrev yaI_:=@List.length_take
abbrev yaJ_:=@List.getElem?_of_mem
abbrev yaK_:=@List.mem_cons_of_mem
abbrev yaL_:=@Bool.and_eq_true
abbrev yaM_:=@List.getElem?_map
abbrev yaN_:=@List.pairwise_iff_getElem
abbrev yaO_:=@List.drop_of_length_le
abbrev yaP_:=@List.cons.injEq
abbrev yaQ_:=@List.mem_filter
abbrev yaR_:=@Option.map_some
abbrev yaS_:=@List.ext_getElem?
abbrev yaT_:=@List.flatMap_cons
abbrev yaU_:=@Nat.mul_le_mul_right
abbrev yaV_:=@List.drop_eq_getElem_cons
abbrev yaW_:=@decide_eq_true
abbrev yaX_:=@List.length_mergeSort
abbrev yaY_:=@of_decide_eq_true
abbrev yaZ_:=@List.mem_map_of_mem
abbrev yba_:=@Option.some.inj
abbrev ybb_:=@List.all_eq_true
abbrev ybc_:=@List.map_toArray
abbrev ybd_:=@or_false
abbrev ybe_:=@List.nodup_append
abbrev ybf_:=@List.map_nil
abbrev ybg_:=@List.take_append_drop
abbrev ybh_:=@Bool.eq_iff_iff
abbrev ybi_:=@decide_eq_false
abbrev ybj_:=@eq_true
abbrev ybk_:=@List.pairwise_cons
abbrev ybl_:=@List.Perm.append_left
abbrev ybm_:=@Nat.zero_le
abbrev ybn_:=@Nat.le_trans
abbrev ybo_:=@Array.getElem?_modify
abbrev ybp_:=@List.length_set
abbrev ybq_:=@List.perm_middle
abbrev ybr_:=@List.mem_of_mem_take
abbrev ybs_:=@Bool.or_eq_true
abbrev ybt_:=@List.nodup_cons
abbrev ybu_:=@List.flatMap_append
abbrev ybv_:=@decide_eq_true_eq
abbrev ybw_:=@List.getElem?_cons_succ
abbrev ybx_:=@List.mem_mergeSort
abbrev yby_:=@List.set_cons_zero
abbrev ybz_:=@Nat.lt_of_lt_of_le
abbrev ybA_:=@Nat.min_eq_left
abbrev ybB_:=@List.take_length
abbrev ybC_:=@Array.getElem?_append_left
abbrev ybD_:=@List.getElem?_append_right
abbrev ybE_:=@Nat.add_mul
abbrev ybF_:=@List.getElem?_append_left
abbrev ybG_:=@List.nodup_nil
abbrev ybH_:=@List.take_zero
abbrev ybI_:=@List.eq_nil_iff_forall_not_mem
abbrev ybJ_:=@Nat.eq_of_beq_eq_true
abbrev ybK_:=@List.getElem?_take
abbrev ybL_:=@Option.toList_some
abbrev ybM_:=@List.getElem?_cons_zero
abbrev ybN_:=@Prod.mk.injEq
abbrev ybO_:=@decide_eq_false_iff_not
abbrev ybP_:=@Nat.zero_add
abbrev ybQ_:=@List.length_take_le
abbrev ybR_:=@List.map_congr_left
abbrev ybS_:=@List.take_succ_cons
abbrev ybT_:=@Option.ne_none_iff_exists'
abbrev ybU_:=@Array.getElem?_toList
abbrev ybV_:=@Bool.false_eq_true
abbrev ybW_:=@List.cons_lt_cons_iff
abbrev ybX_:=@List.length_singleton
abbrev ybY_:=@Array.toList_push
abbrev ybZ_:=@List.pairwise_map
abbrev yca_:=@List.size_toArray
abbrev ycb_:=@List.exists_cons_of_length_pos
abbrev ycc_:=@Array.length_toList
abbrev ycd_:=@List.drop_succ_cons
abbrev yce_:=@List.length_eq_one_iff
abbrev ycf_:=@Option.map_eq_some_iff
abbrev ycg_:=@Array.ext_getElem?
abbrev ych_:=@List.length_replicate
abbrev yci_:=@Bool.not_eq_true'
abbrev ycj_:=@List.all_cons
abbrev yck_:=@List.getElem?_set
abbrev ycl_:=@List.takeWhile_cons_of_neg
abbrev ycm_:=@List.takeWhile_cons_of_pos
abbrev ycn_:=@List.mem_of_find?_eq_some
abbrev yco_:=@List.any_eq_true
abbrev ycp_:=@List.mergeSort_perm
abbrev ycq_:=@if_true
abbrev ycr_:=@Bool.and_true
abbrev ycs_:=@List.getElem?_replicate
abbrev yct_:=@of_decide_eq_false
abbrev ycu_:=@List.Pairwise.imp
abbrev ycv_:=@List.all_eq_false
abbrev ycw_:=@List.drop_zero
abbrev ycx_:=@List.mem_range
abbrev ycy_:=@List.all_nil
abbrev ycz_:=@List.take_append_of_le_length
abbrev ycA_:=@Nat.le_add_right
abbrev ycB_:=@Array.toArray_toList
abbrev ycC_:=@List.drop_eq_nil_iff
abbrev ycD_:=@List.getElem?_set_ne
abbrev ycE_:=@List.map_take
abbrev ycF_:=@if_false
abbrev ycG_:=@List.Perm.of_eq
abbrev ycH_:=@List.getElem_of_mem
abbrev ycI_:=@List.length_pos_iff
abbrev ycJ_:=@List.toList_toArray
abbrev ycK_:=@List.map_map
abbrev ycL_:=@List.set_cons_succ
abbrev ycM_:=@List.take_take
abbrev ycN_:=@Int.lt_trichotomy
abbrev ycO_:=@Int.toNat_natCast
abbrev ycP_:=@List.lt_trans
abbrev ycQ_:=@List.getElem_mem
abbrev ycR_:=@List.length_drop
abbrev ycS_:=@List.mem_reverse
abbrev ycT_:=@List.take_append
abbrev ycU_:=@List.all_append
abbrev ycV_:=@List.foldl_cons
abbrev ycW_:=@List.nil_append
abbrev ycX_:=@Nat.add_zero
abbrev ycY_:=@Nat.beq_refl
abbrev ycZ_:=@Nat.sub_self
abbrev yda_:=@Nat.zero_lt_one
abbrev ydb_:=@Prod.eta
abbrev ydc_:=@beq_iff_eq
end Go
namespace Go.Proofs.YtbffkokbdeppaaaGreatDoor
open Go
abbrev zp_ (b o : Nat) : Value := .pointer (some ⟨b, o, none⟩)
abbrev n_ := @Tryz.runUnderlying25
abbrev o_ := @Tryz.underlying3
abbrev t_ := @Tryz.sizeOf28
abbrev D_ := @Tryz.sizeOf9
abbrev H_ := @Tryz.runUnderlying69
abbrev I_ := @Tryz.sizeOf30
abbrev K_ := @Tryz.sizeOf80
abbrev Q_ := @Tryz.runUnderlying9
abbrev R_ := @Tryz.sizeOf3
abbrev T_ := @Tryz.zeroValue80
abbrev V_ := @Tryz.zeroValue9
abbrev W_ := @Tryz.isAgg9
abbrev ae_ := @Tryz.isAgg28
abbrev af_ := @Tryz.runUnderlying26
abbrev aj_ := @Tryz.runUnderlying279
abbrev ao_ := @Tryz.sizeOf104
abbrev as_ := @Tryz.runUnderlying63
abbrev ax_ := @Tryz.zeroValue104
abbrev aA_ := @Tryz.zeroValue30
abbrev aB_ := @Tryz.underlying9
abbrev aG_ := @Tryz.runUnderlying361
abbrev aL_ := @Tryz.sizeOf171
abbrev aN_ := @Tryz.runUnderlying22
abbrev aQ_ := @Tryz.runUnderlying174
abbrev aU_ := @Tryz.zeroValue281
abbrev aX_ := @Tryz.runUnderlying169
abbrev ba_ := @Tryz.zeroValue28
abbrev bb_ := @Tryz.isAgg3
abbrev bc_ := @Tryz.sizeOf281
abbrev bd_ := @Tryz.results320
abbrev bf_ := @Tryz.runUnderlying200
abbrev bm_ := @Tryz.runUnderlying50
abbrev bn_ := @Tryz.sizeOf4
abbrev bp_ := @Tryz.runUnderlying371
abbrev bq_ := @Tryz.zeroValue373
abbrev br_ := @Tryz.zeroValue25
abbrev bv_ := @Tryz.sizeOf373
abbrev bA_ := @Tryz.isAgg30
abbrev bB_ := @Tryz.runUnderlying198
abbrev bC_ := @Tryz.zeroValue4
abbrev bJ_ := @Tryz.zeroValue3
abbrev bL_ := @Tryz.sizeOf110
abbrev ca_ := @Tryz.runUnderlying197
abbrev cd_ := @Tryz.zeroValue371
abbrev cl_ := @Tryz.zeroValue69
abbrev cw_ := @Tryz.sizeOf24
abbrev cF_ := @Tryz.zeroValue171
abbrev cJ_ := @Tryz.runUnderlying345
abbrev cK_ := @Tryz.runUnderlying321
abbrev de_ := @Tryz.results18
abbrev ds_ := @Tryz.runUnderlying344
abbrev dt_ := @Tryz.runUnderlying186
abbrev du_ := @Tryz.runUnderlying151
abbrev dG_ := @Tryz.sizeOf25
abbrev ek_ := @Tryz.runUnderlying367
abbrev el_ := @Tryz.runUnderlying365
abbrev em_ := @Tryz.runUnderlying323
abbrev en_ := @Tryz.runUnderlying257
abbrev eo_ := @Tryz.runUnderlying205
abbrev ey_ := @Tryz.results142
abbrev ez_ := @Tryz.zeroValue320
abbrev eC_ := @Tryz.isAgg80
abbrev eH_ := @Tryz.sizeOf90
abbrev eZ_ := @Tryz.sizeOf199
abbrev fa_ := @Tryz.results45
abbrev fm_ := @Tryz.isAgg4
abbrev fW_ := @Tryz.isAgg110
abbrev fX_ := @Tryz.isAgg104
abbrev ga_ := @Tryz.runUnderlying201
abbrev gg_ := @Tryz.zeroValue267
abbrev gh_ := @Tryz.zeroValue151
abbrev gi_ := @Tryz.underlying80
abbrev gJ_ := @Tryz.sizeOf256
abbrev gK_ := @Tryz.runUnderlying30
abbrev hD_ := @Tryz.sizeOf22
abbrev hO_ := @Tryz.isAgg171
abbrev hW_ := @Tryz.results203
abbrev iV_ := @Tryz.underlying25
abbrev jd_ := @Tryz.sizeOf323
abbrev je_ := @Tryz.sizeOf267
abbrev ji_ := @Tryz.results67
abbrev jp_ := @Tryz.isAgg24
abbrev jX_ := @Tryz.runUnderlying259
abbrev jY_ := @Tryz.runUnderlying258
abbrev jZ_ := @Tryz.runUnderlying140
abbrev kJ_ := @Tryz.sizeOf69
abbrev kK_ := @Tryz.isAgg132
abbrev kX_ := @Tryz.runUnderlying24
abbrev lM_ := @Tryz.results195
abbrev lN_ := @Tryz.results117
abbrev ny_ := @Tryz.isAgg22
abbrev ov_ := @Tryz.underlying320
abbrev oL_ := @Tryz.sizeOf369
abbrev oR_ := @Tryz.results20
abbrev qf_ := @Tryz.zeroValue256
abbrev rN_ := @Tryz.isAgg130
abbrev ss_ := @Tryz.zeroValue50
abbrev st_ := @Tryz.zeroValue24
abbrev sF_ := @Tryz.underlying4
abbrev wl_ := @Tryz.results149
abbrev xA_ := @Tryz.runUnderlying393
abbrev xB_ := @Tryz.runUnderlying277
abbrev xC_ := @Tryz.runUnderlying206
abbrev xD_ := @Tryz.runUnderlying202
abbrev zE_ := @Tryz.sizeOf363
abbrev zF_ := @Tryz.sizeOf259
end Go.Proofs.YtbffkokbdeppaaaGreatDoor
namespace Go.Proofs.YtbffkokbdeppaaaGreatDoor
end Go.Proofs.YtbffkokbdeppaaaGreatDoor
theorem zaa_ {G:Prop} (h:G:=by omega):G:=h
theorem zab_ {G:Prop} (h:G:=by dsimp only;omega):G:=h
theorem zac_ {G:Prop} (h:G:=by simp only[List.length_append,List.length_cons,List.length_nil];omega):G:=h
theorem zad_ {G:Prop} (h:G:=by kernel_rfl):G:=h
theorem zae_ {G:Prop} (h:G:=by decide):G:=h
theorem zaf_ {G:Prop} (h:G:=by assumption):G:=h
theorem zag_ {G:Prop} (h:G:=by first|omega|(simp;done)):G:=h
theorem zah_ {G:Prop} (h:G:=by first|omega|(simp only[Con.parts];omega)|(simp[Con.parts];done)):G:=h
theorem zai_ {G:Prop} (h:G:=by simp):G:=h
theorem zaj_ {G:Prop} (h:G:=by first|omega|(simp only[List.length_cons,List.length_nil]at *;omega)):G:=h
theorem zak_ {G:Prop} (h:G:=by grind):G:=h
theorem zal_ {G:Prop} (h:G:=by simp only[maxLen];omega):G:=h
theorem zam_ {G:Prop} (h:G:=by rintro e w' ⟨rfl,rfl⟩;exact⟨rfl,⟨rfl,rfl,rfl,Nat.le_refl _,λ_ _=>rfl⟩,.inr (Nat.le_refl _)⟩):G:=h
theorem zan_ {G:Prop} (h:G:=by simp only[maxLen];((try simp only[List.length_append,List.length_cons,List.length_nil]);omega)):G:=h
theorem zao_ {G:Prop} (h:G:=by simp only[List.length_cons,List.length_nil];omega):G:=h
theorem zap_ {G:Prop} (h:G:=by rw[List.length_map];omega):G:=h
theorem zaq_ {G:Prop} (h:G:=by ((try simp only[List.length_append,List.length_cons,List.length_nil]);omega)):G:=h
theorem zar_ {G:Prop} (h:G:=by simp;omega):G:=h
theorem zas_ {G:Prop} (h:G:=by first|omega|(simp;omega)):G:=h
theorem zat_ {G:Prop} (h:G:=by rw[ch_ Rul.cells 3 Rul.cells_len];rfl):G:=h
theorem zau_ {G:Prop} (h:G:=by intro q;have:=congrArg List.length q;rw[List.length_take]at this;simp only[List.length_nil]at this;omega):G:=h
theorem zav_ {G:Prop} (h:G:=by simp[bV_,kws, *]):G:=h
theorem zaw_ {G:Prop} (h:G:=by (try dsimp only);omega):G:=h
theorem zax_ {G:Prop} (h:G:=by have:=Con.textN_len d;simp only[List.length_append,List.length_cons,List.length_nil];omega):G:=h
theorem zay_ {G:Prop} (h:G:=by simp only[maxLen];((try simp only[List.length_append,List.length_map,List.length_take,List.length_cons,List.length_nil]);omega)):G:=h
theorem zaz_ {G:Prop} (h:G:=by have:=gR_ A.nd (m:=q) (λz d=>by rcases List.mem_append.1 d with d|d;exact h z d;rw[List.mem_singleton]at d;exact d▸G);rw[List.length_append,List.length_singleton]at this;dsimp only;rw[List.length_append,List.length_singleton];omega):G:=h
theorem zaA_ {G:Prop} (h:G:=by ((try simp only[List.length_append,List.length_map,List.length_take,List.length_cons,List.length_nil]);omega)):G:=h
theorem zaB_ {G:Prop} (h:G:=by rw[List.length_take];omega):G:=h
theorem zaC_ {G:Prop} (h:G:=by simpa using k):G:=h
theorem zaD_ {G:Prop} (h:G:=by rw[List.append_nil];exact .refl _):G:=h
theorem zaE_ {G:Prop} (h:G:=by rw[C];have:=gR_ A.nd (m:=q) (λz d=>by rcases List.mem_append.1 d with d|d;exact h z d;rw[List.mem_singleton]at d;exact d▸G);rw[List.length_append,List.length_singleton]at this;omega):G:=h
theorem zaF_ {G:Prop} (h:G:=by first|(simp only[List.length_nil];omega)|(simp only[List.length_append,List.length_nil];have q:=jt_ [(Thg.mk 1 [42])] [];simp only[List.length_cons,List.length_nil]at q;omega)):G:=h
theorem zaG_ {G:Prop} (h:G:=by first|omega|(simp_all;done)|(simp_all;omega)|grind):G:=h
theorem zaH_ {G:Prop} (h:G:=by simp[d]):G:=h
theorem zaI_ {G:Prop} (h:G:=by rw[hk];exact aw_ o_ rfl):G:=h
theorem zaJ_ {G:Prop} (h:G:=by grind[rl.eq_def]):G:=h
theorem zaK_ {G:Prop} (h:G:=by have q:=J.push G hGw S b0 (λq=>by have F:=hcll;rw[q.2]at F;simp[q.1]at F) (by rw[V];have F:=Z;rw[hbe]at F;exact F);rw[V]at q;exact q):G:=h
theorem zaL_ {G:Prop} (h:G:=by have:=List.countP_le_length (p:=λr=>decide (r=x.role)) (l:=List.take j (Ax.roles x));have:=List.length_take_le j (Ax.roles x);omega):G:=h
theorem zaM_ {G:Prop} (h:G:=by rw[Con.text_eq];simp[Con.kind,Con.name,hk]):G:=h
theorem zaN_ {G:Prop} (h:G:=by simp[MapKept.IsKey,str]):G:=h
theorem zaO_ {G:Prop} (h:G:=by rw[Con.bare_eq];simp only[Con.kind,Con.parts]at *;simp[*]):G:=h
theorem zaP_ {G:Prop} (h:G:=by unfold bh_;(repeat (any_goals split))<;>first|rfl|(simp_all;done)|(exfalso;simp_all;omega)|(exfalso;simp_all;done)):G:=h
theorem zaQ_ {G:Prop} (h:G:=by rw[List.append_nil];exact @List.perm_append_comm _ _ [_]):G:=h
theorem zaR_ {G:Prop} (h:G:=by simp only[maxLen];((try simp only[List.length_append,List.length_cons,List.length_nil]);have a4:=M.len;omega)):G:=h
theorem zaS_ {G:Prop} (h:G:=by simp only[List.length_append];omega):G:=h
theorem zaT_ {G:Prop} (h:G:=by first|exact y|(simp;omega)):G:=h
theorem zaU_ {G:Prop} (h:G:=by exact ((Con.mem_iff c v).1 h.1).1):G:=h
theorem zaV_ {G:Prop} (h:G:=by grind[aI_]):G:=h
theorem zaW_ {G:Prop} (h:G:=by show k<=4\/k=8;omega):G:=h
theorem zaX_ {G:Prop} (h:G:=by ((try simp only[List.length_append,List.length_cons,List.length_nil]);have a4:=M.len;omega)):G:=h
theorem zaY_ {G:Prop} (h:G:=by (have:=eM_ p;(try simp only[List.length_append,List.length_cons,List.length_nil]);omega)):G:=h
theorem zaZ_ {G:Prop} (h:G:=by rw[B];simp):G:=h
theorem zba_ {G:Prop} (h:G:=by rw[hk];rfl):G:=h
theorem zbb_ {G:Prop} (h:G:=by simp[gd_, *]<;>omega):G:=h
theorem zbc_ {G:Prop} (h:G:=by simpa using E):G:=h
theorem zbd_ {G:Prop} (h:G:=by simp only[maxLen];(first|omega|(simp only[List.length_cons,List.length_nil];omega))):G:=h
theorem zbe_ {G:Prop} (h:G:=by unfold HLp;simp only[List.cons_append,List.append_assoc,List.nil_append];exact wr_):G:=h
theorem zbf_ {G:Prop} (h:G:=by constructor<;>simp[Con.ok,Con.ok.oks,sB]):G:=h
theorem zbg_ {G:Prop} (h:G:=by rw[C];simp):G:=h
theorem zbh_ {G:Prop} (h:G:=by grind[al_,ah_,az_]):G:=h
theorem zbi_ {G:Prop} (h:G:=by have:=a2;omega):G:=h
theorem zbj_ {G:Prop} (h:G:=by as_aux_lemma=>kernel_rfl):G:=h
theorem zbk_ {G:Prop} (h:G:=by rw[List.getElem?_append_left (List.getElem?_eq_some_iff.1 G).1];exact G):G:=h
theorem zbl_ {G:Prop} (h:G:=by rw[<-e];rfl):G:=h
theorem zbm_ {G:Prop} (h:G:=by rw[<-d];rfl):G:=h
theorem zbn_ {G:Prop} (h:G:=by dsimp only;simp only[List.length_append,List.length_singleton];omega):G:=h
theorem zbo_ {G:Prop} (h:G:=by (first|omega|(simp only[List.length_cons,List.length_nil];omega))):G:=h
theorem zbp_ {G:Prop} (h:G:=by rw[cN_];exact M):G:=h
theorem zbq_ {G:Prop} (h:G:=by grind[List.take_of_length_le]):G:=h
theorem zbr_ {G:Prop} (h:G:=by simp[MapKept.IsKey]):G:=h
theorem zbs_ {G:Prop} (h:G:=by have:=Con.sz_part (c:=(.mk k nm lo hi ad cap ps)) m;omega):G:=h
theorem zbt_ {G:Prop} (h:G:=by have:=Con.sz_part (c:=(.mk k nm lo hi ad cap ps)) e;omega):G:=h
theorem zbu_ {G:Prop} (h:G:=by rw[List.length_append];omega):G:=h
theorem zbv_ {G:Prop} (h:G:=by grind[al_,ah_,am_]):G:=h
theorem zbw_ {G:Prop} (h:G:=by simp[e]):G:=h
theorem zbx_ {G:Prop} (h:G:=by have:=Con.sz_part (c:=.mk k nm lo hi ad cap ps) d;omega):G:=h
theorem zby_ {G:Prop} (h:G:=by rcases A with rfl|rfl<;>rfl):G:=h
theorem zbz_ {G:Prop} (h:G:=by grind[bN_]):G:=h
theorem zbA_ {G:Prop} (h:G:=by simp only[List.length_cons,List.length_nil]at *;omega):G:=h
theorem zbB_ {G:Prop} (h:G:=by have:=Con.sz_part d;omega):G:=h
theorem zbC_ {G:Prop} (h:G:=by exact (h.2.1.2 d k).2.2):G:=h
theorem zbD_ {G:Prop} (h:G:=by show (0:Int)<=k;omega):G:=h
theorem zbE_ {G:Prop} (h:G:=by rw[take_snoc E,List.countP_append,hm];simp[e]):G:=h
theorem zbF_ {G:Prop} (h:G:=by grind[bV_,kws]):G:=h
theorem zbG_ {G:Prop} (h:G:=by grind[al_,ah_]):G:=h
theorem zbH_ {G:Prop} (h:G:=by grind[al_,az_]):G:=h
