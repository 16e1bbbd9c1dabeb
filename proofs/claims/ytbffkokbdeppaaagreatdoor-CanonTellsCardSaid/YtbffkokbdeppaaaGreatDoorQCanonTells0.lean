/-
  Short names for closed facts on the program, for the law CanonTells (no condition).
-/
import Derived.Lib.ItoaMem
import Derived.Laws.IdiomStrings
import Derived.Test.YtbffkokbdeppaaaGreatDoorProg
import Derived.KernelRfl
namespace Go
abbrev Ao:=Option Addr
abbrev iv_:Int->Value:=.int .i64
abbrev yaa_:=@List.getElem?_eq_getElem
abbrev yab_:=@List.take_of_length_le
abbrev yac_:=@List.getElem?_eq_some_iff
abbrev yad_:=@List.mem_of_getElem?
abbrev yae_:=@congrArg
abbrev yaf_:=@List.length_append
abbrev yag_:=@if_neg
abbrev yah_:=@List.mem_append
abbrev yai_:=@List.mem_singleton
abbrev yaj_:=@Nat.le_refl
abbrev yak_:=@Option.some.injEq
abbrev yal_:=@List.length_cons
abbrev yam_:=@List.mem_append_left
abbrev yan_:=@List.mem_cons
abbrev yao_:=@if_pos
abbrev yap_:=@List.mem_map
abbrev yaq_:=@Bool.and_eq_true
abbrev yar_:=@List.append_assoc
abbrev yas_:=@List.mem_flatMap
abbrev yat_:=@List.map_append
abbrev yau_:=@List.eq_nil_of_length_eq_zero
abbrev yav_:=@List.mem_cons_self
abbrev yaw_:=@List.append_nil
abbrev yax_:=@Array.getElem?_eq_some_iff
abbrev yay_:=@List.map_cons
abbrev yaz_:=@List.take_add_one
abbrev yaA_:=@List.mem_append_right
abbrev yaB_:=@List.perm_append_comm
abbrev yaC_:=@decide_eq_true
abbrev yaD_:=@List.length_take
abbrev yaE_:=@List.mem_cons_of_mem
abbrev yaF_:=@List.length_map
abbrev yaG_:=@List.flatMap_cons
abbrev yaH_:=@List.getElem?_map
abbrev yaI_:=@decide_eq_true_eq
abbrev yaJ_:=@List.cons_append
abbrev yaK_:=@List.getElem?_take
abbrev yaL_:=@List.length_nil
abbrev yaM_:=@List.not_mem_nil
abbrev yaN_:=@Nat.succ_ne_zero
abbrev yaO_:=@Option.map_some
abbrev yaP_:=@List.pairwise_iff_getElem
abbrev yaQ_:=@Array.getElem?_toList
abbrev yaR_:=@List.length_mergeSort
abbrev yaS_:=@decide_eq_false
abbrev yaT_:=@List.drop_of_length_le
abbrev yaU_:=@List.mem_map_of_mem
abbrev yaV_:=@decide_eq_false_iff_not
abbrev yaW_:=@List.all_eq_true
abbrev yaX_:=@List.mem_filter
abbrev yaY_:=@List.flatMap_append
abbrev yaZ_:=@of_decide_eq_true
abbrev yba_:=@List.length_filter_le
abbrev ybb_:=@List.getElem?_append_left
abbrev ybc_:=@List.mem_mergeSort
abbrev ybd_:=@Option.toList_some
abbrev ybe_:=@List.getElem?_cons_zero
abbrev ybf_:=@List.nodup_append
abbrev ybg_:=@Nat.le_trans
abbrev ybh_:=@List.getElem?_append_right
abbrev ybi_:=@List.drop_eq_getElem_cons
abbrev ybj_:=@List.pairwise_cons
abbrev ybk_:=@Array.getElem?_modify
abbrev ybl_:=@Option.some.inj
abbrev ybm_:=@decide_eq_decide
abbrev ybn_:=@Bool.false_eq_true
abbrev ybo_:=@List.take_succ_cons
abbrev ybp_:=@Bool.not_eq_true'
abbrev ybq_:=@List.getElem?_of_mem
abbrev ybr_:=@Nat.mul_le_mul_right
abbrev ybs_:=@List.length_set
abbrev ybt_:=@List.map_toArray
abbrev ybu_:=@List.getElem?_cons_succ
abbrev ybv_:=@List.getElem?_eq_none
abbrev ybw_:=@Nat.zero_add
abbrev ybx_:=@Bool.eq_iff_iff
abbrev yby_:=@Bool.or_eq_true
abbrev ybz_:=@List.map_nil
abbrev ybA_:=@Array.getElem?_append_left
abbrev ybB_:=@Nat.add_mul
abbrev ybC_:=@Nat.zero_le
abbrev ybD_:=@List.ext_getElem?
abbrev ybE_:=@List.cons.injEq
abbrev ybF_:=@List.length_singleton
abbrev ybG_:=@List.nodup_cons
abbrev ybH_:=@Array.length_toList
abbrev ybI_:=@List.size_toArray
abbrev ybJ_:=@List.Perm.append_left
abbrev ybK_:=@List.take_append_drop
abbrev ybL_:=@Nat.min_eq_left
abbrev ybM_:=@List.lt_irrefl
abbrev ybN_:=@List.perm_middle
abbrev ybO_:=@List.mem_of_mem_take
abbrev ybP_:=@List.eq_nil_iff_forall_not_mem
abbrev ybQ_:=@Nat.lt_of_lt_of_le
abbrev ybR_:=@Array.getElem?_eq_getElem
abbrev ybS_:=@and_congr_right
abbrev ybT_:=@List.any_eq_true
abbrev ybU_:=@List.lt_trans
abbrev ybV_:=@Prod.mk.injEq
abbrev ybW_:=@or_false
abbrev ybX_:=@List.length_take_le
abbrev ybY_:=@List.map_congr_left
abbrev ybZ_:=@List.getElem?_set
abbrev yca_:=@Nat.le_of_ble_eq_true
abbrev ycb_:=@List.filter_append
abbrev ycc_:=@List.not_lt
abbrev ycd_:=@List.set_cons_zero
abbrev yce_:=@if_false
abbrev ycf_:=@of_decide_eq_false
abbrev ycg_:=@List.drop_succ_cons
abbrev ych_:=@List.take_zero
abbrev yci_:=@List.any_append
abbrev ycj_:=@List.exists_cons_of_length_pos
abbrev yck_:=@List.foldl_cons
abbrev ycl_:=@Nat.add_zero
abbrev ycm_:=@Nat.eq_of_beq_eq_true
abbrev ycn_:=@if_true
abbrev yco_:=@Array.ext_getElem?
abbrev ycp_:=@List.length_drop
abbrev ycq_:=@List.take_append_of_le_length
abbrev ycr_:=@List.take_length
abbrev ycs_:=@eq_true
abbrev yct_:=@Array.toList_push
abbrev ycu_:=@List.pairwise_map
abbrev ycv_:=@Option.map_eq_some_iff
abbrev ycw_:=@List.le_antisymm
abbrev ycx_:=@List.cons_lt_cons_iff
abbrev ycy_:=@eq_false
abbrev ycz_:=@List.mem_range
abbrev ycA_:=@List.nodup_nil
abbrev ycB_:=@beq_iff_eq
abbrev ycC_:=@Array.getElem?_push
abbrev ycD_:=@List.getElem?_replicate
abbrev ycE_:=@List.mergeSort_perm
abbrev ycF_:=@List.toList_toArray
abbrev ycG_:=@Nat.add_assoc
abbrev ycH_:=@List.Perm.append_right
abbrev ycI_:=@List.length_eq_one_iff
abbrev ycJ_:=@List.map_map
abbrev ycK_:=@Int.toNat_natCast
abbrev ycL_:=@List.any_eq_false
abbrev ycM_:=@Nat.lt_trichotomy
abbrev ycN_:=@List.pairwise_append
abbrev ycO_:=@List.filter_cons
abbrev ycP_:=@List.getElem_mem
abbrev ycQ_:=@List.getElem_of_mem
abbrev ycR_:=@List.Pairwise.imp_of_mem
abbrev ycS_:=@Nat.sub_self
abbrev ycT_:=@Array.extract_size
abbrev ycU_:=@Iff.rfl
abbrev ycV_:=@List.all_append
abbrev ycW_:=@List.getElem?_drop
abbrev ycX_:=@List.nil_append
abbrev ycY_:=@List.pairwise_mergeSort
abbrev ycZ_:=@Option.isSome_none
abbrev yda_:=@Array.getElem?_eq_none
abbrev ydb_:=@Array.getElem?_setIfInBounds_ne
abbrev ydc_:=@List.Pairwise.imp
abbrev ydd_:=@List.all_eq_false
abbrev yde_:=@List.foldl_append
abbrev ydf_:=@List.drop_zero
abbrev ydg_:=@List.take_take
abbrev ydh_:=@Nat.mul_le_mul
abbrev ydi_:=@true_and
abbrev ydj_:=@List.eraseIdx_sublist
abbrev ydk_:=@List.length_replicate
abbrev ydl_:=@Nat.zero_mul
abbrev ydm_:=@List.getElem_map
abbrev ydn_:=@Array.toArray_toList
abbrev ydo_:=@List.drop_eq_nil_iff
abbrev ydp_:=@List.getElem?_set_ne
abbrev ydq_:=@List.sum_cons
abbrev ydr_:=@bne_iff_ne
abbrev yds_:=@List.Perm.of_eq
abbrev ydt_:=@List.attach_map_subtype_val
abbrev ydu_:=@List.filter_sublist
abbrev ydv_:=@Nat.mul_one
abbrev ydw_:=@List.set_cons_succ
abbrev ydx_:=@or_congr_right
abbrev ydy_:=@Int.lt_trichotomy
abbrev ydz_:=@List.length_range
abbrev ydA_:=@Nat.mod_lt
abbrev ydB_:=@List.countP_cons
abbrev ydC_:=@List.drop_append
abbrev ydD_:=@List.flatMap_map
abbrev ydE_:=@List.flatMap_nil
abbrev ydF_:=@List.mem_reverse
abbrev ydG_:=@List.take_append
abbrev ydH_:=@not_or
abbrev ydI_:=@List.find?_cons
abbrev ydJ_:=@List.sum_nil
abbrev ydK_:=@Nat.beq_refl
abbrev ydL_:=@Nat.lt_or_ge
abbrev ydM_:=@Nat.sub_zero
abbrev ydN_:=@Nat.zero_lt_one
abbrev ydO_:=@decide_false
end Go
namespace Go.Proofs.YtbffkokbdeppaaaGreatDoor
open Go
abbrev zp_ (b o : Nat) : Value := .pointer (some ⟨b, o, none⟩)
abbrev m_ := @Tryz.underlying3
abbrev o_ := @Tryz.runUnderlying25
abbrev t_ := @Tryz.sizeOf28
abbrev y_ := @Tryz.sizeOf104
abbrev G_ := @Tryz.sizeOf9
abbrev I_ := @Tryz.runUnderlying50
abbrev J_ := @Tryz.runUnderlying69
abbrev K_ := @Tryz.sizeOf80
abbrev L_ := @Tryz.sizeOf30
abbrev Q_ := @Tryz.runUnderlying151
abbrev R_ := @Tryz.zeroValue104
abbrev W_ := @Tryz.runUnderlying9
abbrev aa_ := @Tryz.zeroValue80
abbrev ad_ := @Tryz.isAgg9
abbrev ag_ := @Tryz.sizeOf3
abbrev ah_ := @Tryz.isAgg28
abbrev ai_ := @Tryz.runUnderlying26
abbrev ax_ := @Tryz.zeroValue9
abbrev aD_ := @Tryz.sizeOf171
abbrev aF_ := @Tryz.zeroValue28
abbrev aG_ := @Tryz.zeroValue4
abbrev aJ_ := @Tryz.zeroValue30
abbrev aM_ := @Tryz.runUnderlying169
abbrev aO_ := @Tryz.underlying9
abbrev aQ_ := @Tryz.isAgg3
abbrev aR_ := @Tryz.results320
abbrev aS_ := @Tryz.runUnderlying22
abbrev aZ_ := @Tryz.runUnderlying63
abbrev bn_ := @Tryz.sizeOf110
abbrev bo_ := @Tryz.runUnderlying198
abbrev bv_ := @Tryz.isAgg104
abbrev bw_ := @Tryz.zeroValue25
abbrev bE_ := @Tryz.runUnderlying200
abbrev bK_ := @Tryz.isAgg30
abbrev bO_ := @Tryz.sizeOf52
abbrev bP_ := @Tryz.sizeOf25
abbrev bQ_ := @Tryz.runUnderlying197
abbrev bR_ := @Tryz.runUnderlying174
abbrev bT_ := @Tryz.zeroValue69
abbrev cd_ := @Tryz.runUnderlying28
abbrev cq_ := @Tryz.sizeOf50
abbrev cz_ := @Tryz.zeroValue171
abbrev cB_ := @Tryz.runUnderlying345
abbrev cC_ := @Tryz.runUnderlying152
abbrev cF_ := @Tryz.sizeOf4
abbrev cY_ := @Tryz.results18
abbrev di_ := @Tryz.runUnderlying344
abbrev dj_ := @Tryz.runUnderlying186
abbrev dx_ := @Tryz.runUnderlying52
abbrev dA_ := @Tryz.zeroValue151
abbrev dD_ := @Tryz.zeroValue3
abbrev dQ_ := @Tryz.isAgg80
abbrev dS_ := @Tryz.zeroValue50
abbrev ed_ := @Tryz.runUnderlying257
abbrev ee_ := @Tryz.runUnderlying205
abbrev ej_ := @Tryz.results142
abbrev ev_ := @Tryz.sizeOf90
abbrev eL_ := @Tryz.sizeOf199
abbrev fD_ := @Tryz.isAgg110
abbrev fF_ := @Tryz.runUnderlying201
abbrev fK_ := @Tryz.zeroValue267
abbrev fL_ := @Tryz.underlying80
abbrev gg_ := @Tryz.sizeOf256
abbrev gq_ := @Tryz.underlying4
abbrev gs_ := @Tryz.isAgg52
abbrev gZ_ := @Tryz.sizeOf24
abbrev hg_ := @Tryz.isAgg171
abbrev hq_ := @Tryz.results203
abbrev iy_ := @Tryz.zeroValue110
abbrev iA_ := @Tryz.underlying25
abbrev iG_ := @Tryz.sizeOf267
abbrev iI_ := @Tryz.results67
abbrev iJ_ := @Tryz.results62
abbrev jK_ := @Tryz.runUnderlying259
abbrev jL_ := @Tryz.runUnderlying258
abbrev jM_ := @Tryz.runUnderlying212
abbrev jN_ := @Tryz.runUnderlying140
abbrev jX_ := @Tryz.zeroValue52
abbrev ku_ := @Tryz.isAgg132
abbrev lx_ := @Tryz.results195
abbrev ly_ := @Tryz.results117
abbrev na_ := @Tryz.isAgg25
abbrev oc_ := @Tryz.results20
abbrev pv_ := @Tryz.zeroValue256
abbrev qL_ := @Tryz.sizeOf69
abbrev ra_ := @Tryz.isAgg130
abbrev vh_ := @Tryz.results319
abbrev vi_ := @Tryz.results149
abbrev wg_ := @Tryz.runUnderlying206
abbrev wh_ := @Tryz.runUnderlying202
abbrev yg_ := @Tryz.sizeOf259
abbrev yr_ := @Tryz.results29
abbrev zb_ := @Tryz.isAgg4
abbrev Cr_ := @Tryz.sizeOf22
abbrev Cw_ := @Tryz.isAgg152
end Go.Proofs.YtbffkokbdeppaaaGreatDoor
namespace Go.Proofs.YtbffkokbdeppaaaGreatDoor
end Go.Proofs.YtbffkokbdeppaaaGreatDoor
theorem zaa_ {G:Prop} (h:G:=by omega):G:=h
theorem zab_ {G:Prop} (h:G:=by dsimp only;omega):G:=h
theorem zac_ {G:Prop} (h:G:=by kernel_rfl):G:=h
theorem zad_ {G:Prop} (h:G:=by simp only[maxLen];(first|omega|(simp only[List.length_cons,List.length_nil];omega))):G:=h
theorem zae_ {G:Prop} (h:G:=by decide):G:=h
theorem zaf_ {G:Prop} (h:G:=by (first|omega|(simp only[List.length_cons,List.length_nil];omega))):G:=h
theorem zag_ {G:Prop} (h:G:=by rintro e w' ⟨rfl,rfl⟩;exact⟨rfl,⟨rfl,rfl,rfl,Nat.le_refl _,λ_ _=>rfl⟩,.inr (Nat.le_refl _)⟩):G:=h
theorem zah_ {G:Prop} (h:G:=by first|omega|(simp only[Con.parts];omega)|(simp[Con.parts];done)):G:=h
theorem zai_ {G:Prop} (h:G:=by first|omega|(simp;done)):G:=h
theorem zaj_ {G:Prop} (h:G:=by simp):G:=h
theorem zak_ {G:Prop} (h:G:=by first|omega|(simp only[List.length_cons,List.length_nil]at *;omega)):G:=h
theorem zal_ {G:Prop} (h:G:=by assumption):G:=h
theorem zam_ {G:Prop} (h:G:=by simp only[maxLen];((try simp only[List.length_append,List.length_cons,List.length_nil]);omega)):G:=h
theorem zan_ {G:Prop} (h:G:=by simp;omega):G:=h
theorem zao_ {G:Prop} (h:G:=by exact (F_ (c_ (c_ (c_ (c_ (c_ (c_ (c_ (c_ (c_ (c_ z_)))))))))) (l_ (c_ d_) (l_ (c_ d_) (l_ (c_ d_) (l_ (c_ d_) (l_ (c_ d_) (l_ (c_ d_) (l_ (c_ d_) (l_ (c_ d_) (l_ (c_ d_) (F_ B_ d_)))))))))))):G:=h
theorem zap_ {G:Prop} (h:G:=by ((try simp only[List.length_append,List.length_cons,List.length_nil]);omega)):G:=h
theorem zaq_ {G:Prop} (h:G:=by simp only[maxLen];omega):G:=h
theorem zar_ {G:Prop} (h:G:=by rw[List.length_map];omega):G:=h
theorem zas_ {G:Prop} (h:G:=by simp[bJ_,kws, *]):G:=h
theorem zat_ {G:Prop} (h:G:=by simp only[List.length_cons,List.length_nil];omega):G:=h
theorem zau_ {G:Prop} (h:G:=by simp only[List.length_append,List.length_cons,List.length_nil];omega):G:=h
theorem zav_ {G:Prop} (h:G:=by first|omega|(simp;omega)):G:=h
theorem zaw_ {G:Prop} (h:G:=by have e:tyL s.ks (List.take (j+1) c.facts)=(tyL s.ks (List.take j c.facts)):=(by unfold tyL;rw[tk1 d,List.filter_append];simp_all);rw[e];exact C):G:=h
theorem zax_ {G:Prop} (h:G:=by have e:raL s.ks (List.take (j+1) c.facts)=(raL s.ks (List.take j c.facts)):=(by unfold raL;rw[tk1 d,List.filter_append];simp_all);rw[e];exact B):G:=h
theorem zay_ {G:Prop} (h:G:=by (try dsimp only);omega):G:=h
theorem zaz_ {G:Prop} (h:G:=by have e:liL (List.take (j+1) c.facts)=(liL (List.take j c.facts)):=(by unfold liL;rw[tk1 d,List.filter_append];simp_all);rw[e];exact E):G:=h
theorem zaA_ {G:Prop} (h:G:=by simpa using m):G:=h
theorem zaB_ {G:Prop} (h:G:=by simp only[maxLen];((try simp only[List.length_append,List.length_map,List.length_take,List.length_cons,List.length_nil]);omega)):G:=h
theorem zaC_ {G:Prop} (h:G:=by have:=da_ B.nd (m:=q) (λz d=>by rcases List.mem_append.1 d with d|d;exact v z d;rw[List.mem_singleton]at d;exact d▸H);rw[List.length_append,List.length_singleton]at this;dsimp only;rw[List.length_append,List.length_singleton];omega):G:=h
theorem zaD_ {G:Prop} (h:G:=by ((try simp only[List.length_append,List.length_map,List.length_take,List.length_cons,List.length_nil]);omega)):G:=h
theorem zaE_ {G:Prop} (h:G:=by subst_vars;rw[Bool.eq_iff_iff];simp[et_]<;>omega):G:=h
theorem zaF_ {G:Prop} (h:G:=by rw[E];have:=da_ B.nd (m:=q) (λz d=>by rcases List.mem_append.1 d with d|d;exact v z d;rw[List.mem_singleton]at d;exact d▸H);rw[List.length_append,List.length_singleton]at this;omega):G:=h
theorem zaG_ {G:Prop} (h:G:=by subst_vars;rw[Bool.eq_iff_iff];simp[cT_]<;>simp at*<;> omega):G:=h
theorem zaH_ {G:Prop} (h:G:=by simpa using h):G:=h
theorem zaI_ {G:Prop} (h:G:=by rw[rl.eq_def,if_neg (by rw[d];decide),if_pos d]<;>rfl):G:=h
theorem zaJ_ {G:Prop} (h:G:=by first|omega|(simp_all;done)|(simp_all;omega)|grind):G:=h
theorem zaK_ {G:Prop} (h:G:=by rw[hk];exact aw_ m_ rfl):G:=h
theorem zaL_ {G:Prop} (h:G:=by dsimp only;decide):G:=h
theorem zaM_ {G:Prop} (h:G:=by rintro e w' ⟨rfl,rfl⟩;exact⟨rfl,rfl,rfl,rfl,rfl,Nat.le_refl _⟩):G:=h
theorem zaN_ {G:Prop} (h:G:=by rw[List.append_nil];exact .refl _):G:=h
theorem zaO_ {G:Prop} (h:G:=by have q:=J.push G hGw S b0 (λq=>by have F:=hcll;rw[q.2]at F;simp[q.1]at F) (by rw[V];have F:=Z;rw[hbe]at F;exact F);rw[V]at q;exact q):G:=h
theorem zaP_ {G:Prop} (h:G:=by have:=List.countP_le_length (p:=λr=>decide (r=x.role)) (l:=List.take j (Ax.roles x));have:=List.length_take_le j (Ax.roles x);omega):G:=h
theorem zaQ_ {G:Prop} (h:G:=by rw[hk];simp):G:=h
theorem zaR_ {G:Prop} (h:G:=by rw[Con.text_eq];simp[Con.kind,Con.name,hk]):G:=h
theorem zaS_ {G:Prop} (h:G:=by simp[d]):G:=h
theorem zaT_ {G:Prop} (h:G:=by rw[Con.bare_eq];simp only[Con.kind,Con.parts]at *;simp[*]):G:=h
theorem zaU_ {G:Prop} (h:G:=by rw[List.append_nil];exact @List.perm_append_comm _ _ [_]):G:=h
theorem zaV_ {G:Prop} (h:G:=by simp only[maxLen];((try simp only[List.length_append,List.length_cons,List.length_nil]);have a3:=M.len;omega)):G:=h
theorem zaW_ {G:Prop} (h:G:=by first|exact A|(simp;omega)):G:=h
theorem zaX_ {G:Prop} (h:G:=by simp[hk]):G:=h
theorem zaY_ {G:Prop} (h:G:=by simp only[List.length_cons,List.length_nil]at *;omega):G:=h
theorem zaZ_ {G:Prop} (h:G:=by simp[bj_, *]<;>omega):G:=h
theorem zba_ {G:Prop} (h:G:=by simp only[List.length_cons];omega):G:=h
theorem zbb_ {G:Prop} (h:G:=by rw[B];simp):G:=h
theorem zbc_ {G:Prop} (h:G:=by simpa using e):G:=h
theorem zbd_ {G:Prop} (h:G:=by simpa using A):G:=h
theorem zbe_ {G:Prop} (h:G:=by simpa using E):G:=h
theorem zbf_ {G:Prop} (h:G:=by rw[hk];decide):G:=h
theorem zbg_ {G:Prop} (h:G:=by simpa using F):G:=h
theorem zbh_ {G:Prop} (h:G:=by have A:V=0:=(by simpa using G);rw[A]at T;exact T):G:=h
theorem zbi_ {G:Prop} (h:G:=by rintro e w' ⟨x,F,m,q,B,A,C⟩;exact⟨⟨[],by simpa [eU_] using at_.nil _ _⟩,F,m,q,B,A,C⟩):G:=h
theorem zbj_ {G:Prop} (h:G:=by simp[MapKept.IsKey,str]):G:=h
theorem zbk_ {G:Prop} (h:G:=by show k<=4\/k=8;omega):G:=h
theorem zbl_ {G:Prop} (h:G:=by ((try simp only[List.length_append,List.length_cons,List.length_nil]);have a3:=M.len;omega)):G:=h
theorem zbm_ {G:Prop} (h:G:=by constructor<;>simp[Con.ok,Con.ok.oks]<;>omega):G:=h
theorem zbn_ {G:Prop} (h:G:=by have:=Con.textN_len d;simp only[List.length_append,List.length_cons,List.length_nil];omega):G:=h
theorem zbo_ {G:Prop} (h:G:=by decide +kernel):G:=h
theorem zbp_ {G:Prop} (h:G:=by (have:=fr_ p;(try simp only[List.length_append,List.length_cons,List.length_nil]);omega)):G:=h
theorem zbq_ {G:Prop} (h:G:=by rw[rl.eq_def,if_pos d]<;>rfl):G:=h
theorem zbr_ {G:Prop} (h:G:=by simp[fH_, *]<;>omega):G:=h
theorem zbs_ {G:Prop} (h:G:=by rw[<-e];rfl):G:=h
theorem zbt_ {G:Prop} (h:G:=by have:=Con.sz_part d;omega):G:=h
theorem zbu_ {G:Prop} (h:G:=by rw[h];simp):G:=h
theorem zbv_ {G:Prop} (h:G:=by rw[C];simp):G:=h
theorem zbw_ {G:Prop} (h:G:=by rw[I d];decide):G:=h
theorem zbx_ {G:Prop} (h:G:=by as_aux_lemma=>kernel_rfl):G:=h
theorem zby_ {G:Prop} (h:G:=by rw[List.getElem?_append_left (List.getElem?_eq_some_iff.1 G).1];exact G):G:=h
theorem zbz_ {G:Prop} (h:G:=by rw[show i - 1+1=i by omega];exact e):G:=h
theorem zbA_ {G:Prop} (h:G:=by simpa using d):G:=h
theorem zbB_ {G:Prop} (h:G:=by rw[<-d];rfl):G:=h
theorem zbC_ {G:Prop} (h:G:=by simp[ae_]):G:=h
theorem zbD_ {G:Prop} (h:G:=by rw[e.2,<-ef];exact m):G:=h
theorem zbE_ {G:Prop} (h:G:=by dsimp only;simp only[List.length_append,List.length_singleton];omega):G:=h
theorem zbF_ {G:Prop} (h:G:=by exact ((Con.mem_iff c v).1 h.1).1):G:=h
theorem zbG_ {G:Prop} (h:G:=by have:=(E.append_right F).symm;simpa [List.append_assoc] using this):G:=h
theorem zbH_ {G:Prop} (h:G:=by rw[x];exact Nat.le_add_right _ _):G:=h
theorem zbI_ {G:Prop} (h:G:=by simpa [ByteArray.size] using hl):G:=h
theorem zbJ_ {G:Prop} (h:G:=by simp[e]):G:=h
theorem zbK_ {G:Prop} (h:G:=by simp[MapKept.IsKey]):G:=h
theorem zbL_ {G:Prop} (h:G:=by rw[M d];decide):G:=h
theorem zbM_ {G:Prop} (h:G:=by have:=Con.sz_part (c:=(.mk k nm lo hi ad cap ps)) m;omega):G:=h
theorem zbN_ {G:Prop} (h:G:=by have:=Con.sz_part (c:=(.mk k nm lo hi ad cap ps)) e;omega):G:=h
theorem zbO_ {G:Prop} (h:G:=by unfold Sort.HoldsK;rw[hO_];exact rh_ M (by rw[Q];exact L)):G:=h
theorem zbP_ {G:Prop} (h:G:=by simp only[maxLen,List.length_cons,List.length_nil];omega):G:=h
theorem zbQ_ {G:Prop} (h:G:=by have:=Con.sz_part (c:=.mk k nm lo hi ad cap ps) d;omega):G:=h
theorem zbR_ {G:Prop} (h:G:=by rcases y with rfl|rfl<;>rfl):G:=h
theorem zbS_ {G:Prop} (h:G:=by cases q):G:=h
theorem zbT_ {G:Prop} (h:G:=by rw[List.take_succ_cons];exact List.mem_cons_of_mem _ e):G:=h
theorem zbU_ {G:Prop} (h:G:=by rw[hk];rfl):G:=h
theorem zbV_ {G:Prop} (h:G:=by rw[m]):G:=h
theorem zbW_ {G:Prop} (h:G:=by rw[List.length_take];omega):G:=h
theorem zbX_ {G:Prop} (h:G:=by rw[v,<-oL_ e hk];exact d):G:=h
theorem zbY_ {G:Prop} (h:G:=by rw[tk1 e,List.any_append];simp[clF,m,h,v,q,B,<-A]):G:=h
theorem zbZ_ {G:Prop} (h:G:=by rw[tk1 e,List.any_append];simp[clF,m,h,v,q,<-A]):G:=h
theorem zca_ {G:Prop} (h:G:=by rw[List.map_cons];exact List.mem_cons_of_mem _ d):G:=h
theorem zcb_ {G:Prop} (h:G:=by unfold ei_;rw[tk1 e3,List.filter_append];simp[U]):G:=h
theorem zcc_ {G:Prop} (h:G:=by exact (h.2.1.2 d m).2.2):G:=h
theorem zcd_ {G:Prop} (h:G:=by show (0:Int)<=k;omega):G:=h
theorem zce_ {G:Prop} (h:G:=by have:=(List.getElem?_eq_some_iff.1 d).1;omega):G:=h
theorem zcf_ {G:Prop} (h:G:=by rw[take_snoc E,List.countP_append,hm];simp[e]):G:=h
