/-
  Short names for closed facts on the program, for the law ModuleExtracts (no condition).
-/
import Derived.ArgAppend
import Derived.Shelf.SlSortCmp.NoneTotal
import Derived.Test.YtbffkokbdeppaaaGreatDoorProg
import Derived.KernelRfl
namespace Go
abbrev Ao:=Option Addr
abbrev i4_:Int->Value:=.int .i64
abbrev yaa_:=@List.getElem?_eq_getElem
abbrev yab_:=@Nat.le_refl
abbrev yac_:=@List.take_of_length_le
abbrev yad_:=@List.mem_of_getElem?
abbrev yae_:=@List.length_append
abbrev yaf_:=@List.getElem?_eq_some_iff
abbrev yag_:=@congrArg
abbrev yah_:=@List.perm_append_comm
abbrev yai_:=@Option.some.injEq
abbrev yaj_:=@List.mem_append
abbrev yak_:=@List.append_assoc
abbrev yal_:=@List.mem_singleton
abbrev yam_:=@if_neg
abbrev yan_:=@List.flatMap_append
abbrev yao_:=@List.take_add_one
abbrev yap_:=@List.length_cons
abbrev yaq_:=@List.mem_cons_self
abbrev yar_:=@List.mem_cons
abbrev yas_:=@List.append_nil
abbrev yat_:=@List.length_take
abbrev yau_:=@List.eq_nil_of_length_eq_zero
abbrev yav_:=@List.not_mem_nil
abbrev yaw_:=@List.length_nil
abbrev yax_:=@if_pos
abbrev yay_:=@eq_false
abbrev yaz_:=@List.map_append
abbrev yaA_:=@List.getElem?_of_mem
abbrev yaB_:=@List.length_map
abbrev yaC_:=@Array.getElem?_eq_some_iff
abbrev yaD_:=@List.getElem?_map
abbrev yaE_:=@List.map_cons
abbrev yaF_:=@Nat.le_of_ble_eq_true
abbrev yaG_:=@List.mem_append_left
abbrev yaH_:=@Nat.succ_ne_zero
abbrev yaI_:=@Nat.le_trans
abbrev yaJ_:=@Bool.and_eq_true
abbrev yaK_:=@List.pairwise_iff_getElem
abbrev yaL_:=@List.cons_append
abbrev yaM_:=@List.mem_map
abbrev yaN_:=@List.mem_cons_of_mem
abbrev yaO_:=@List.drop_of_length_le
abbrev yaP_:=@List.drop_eq_getElem_cons
abbrev yaQ_:=@List.take_append_drop
abbrev yaR_:=@List.flatMap_cons
abbrev yaS_:=@List.mem_of_mem_take
abbrev yaT_:=@List.ext_getElem?
abbrev yaU_:=@List.mem_map_of_mem
abbrev yaV_:=@Nat.zero_le
abbrev yaW_:=@Nat.le_succ_of_le
abbrev yaX_:=@List.pairwise_cons
abbrev yaY_:=@decide_eq_true_eq
abbrev yaZ_:=@List.length_set
abbrev yba_:=@Option.map_some
abbrev ybb_:=@List.length_eq_one_iff
abbrev ybc_:=@Nat.mul_le_mul_right
abbrev ybd_:=@List.map_toArray
abbrev ybe_:=@List.mem_flatMap
abbrev ybf_:=@Option.toList_some
abbrev ybg_:=@or_false
abbrev ybh_:=@List.Perm.append_left
abbrev ybi_:=@List.length_take_le
abbrev ybj_:=@Bool.or_eq_true
abbrev ybk_:=@Nat.min_eq_left
abbrev ybl_:=@Array.getElem?_modify
abbrev ybm_:=@List.length_mergeSort
abbrev ybn_:=@List.all_eq_true
abbrev ybo_:=@List.perm_middle
abbrev ybp_:=@List.getElem?_cons_succ
abbrev ybq_:=@List.getElem?_cons_zero
abbrev ybr_:=@decide_eq_false_iff_not
abbrev ybs_:=@Bool.false_eq_true
abbrev ybt_:=@List.exists_cons_of_length_pos
abbrev ybu_:=@Bool.eq_iff_iff
abbrev ybv_:=@List.cons.injEq
abbrev ybw_:=@List.getElem?_append_left
abbrev ybx_:=@List.mem_or_eq_of_mem_set
abbrev yby_:=@List.nodup_cons
abbrev ybz_:=@List.map_nil
abbrev ybA_:=@List.nodup_append
abbrev ybB_:=@of_decide_eq_true
abbrev ybC_:=@List.mem_filter
abbrev ybD_:=@List.length_drop
abbrev ybE_:=@List.take_length
abbrev ybF_:=@Array.getElem?_append_left
abbrev ybG_:=@List.map_congr_left
abbrev ybH_:=@List.nodup_nil
abbrev ybI_:=@List.take_zero
abbrev ybJ_:=@List.length_replicate
abbrev ybK_:=@List.length_singleton
abbrev ybL_:=@Nat.eq_of_beq_eq_true
abbrev ybM_:=@List.getElem?_take
abbrev ybN_:=@List.mem_mergeSort
abbrev ybO_:=@Nat.lt_of_lt_of_le
abbrev ybP_:=@Nat.zero_add
abbrev ybQ_:=@List.pairwise_map
abbrev ybR_:=@List.getElem?_append_right
abbrev ybS_:=@List.any_eq_true
abbrev ybT_:=@Array.getElem?_toList
abbrev ybU_:=@List.cons_lt_cons_iff
abbrev ybV_:=@List.mem_append_right
abbrev ybW_:=@List.getElem?_set_ne
abbrev ybX_:=@List.pairwise_append
abbrev ybY_:=@Bool.not_eq_true'
abbrev ybZ_:=@beq_iff_eq
abbrev yca_:=@List.eq_nil_iff_forall_not_mem
abbrev ycb_:=@List.take_succ_cons
abbrev ycc_:=@decide_eq_true
abbrev ycd_:=@decide_eq_true_iff
abbrev yce_:=@List.length_filter_le
abbrev ycf_:=@Option.some.inj
abbrev ycg_:=@Array.toList_push
abbrev ych_:=@Bool.and_true
abbrev yci_:=@Bool.false_or
abbrev ycj_:=@List.all_cons
abbrev yck_:=@List.getElem?_set
abbrev ycl_:=@Prod.mk.injEq
abbrev ycm_:=@if_false
abbrev ycn_:=@List.takeWhile_cons_of_neg
abbrev yco_:=@List.takeWhile_cons_of_pos
abbrev ycp_:=@eq_true
abbrev ycq_:=@List.mem_range
abbrev ycr_:=@Array.length_toList
abbrev ycs_:=@List.drop_succ_cons
abbrev yct_:=@List.length_pos_iff
abbrev ycu_:=@if_true
abbrev ycv_:=@List.length_filterMap_le
abbrev ycw_:=@Array.ext_getElem?
abbrev ycx_:=@Bool.true_and
abbrev ycy_:=@List.set_cons_succ
abbrev ycz_:=@of_decide_eq_false
abbrev ycA_:=@Option.map_eq_some_iff
abbrev ycB_:=@List.Pairwise.imp
abbrev ycC_:=@List.all_eq_false
abbrev ycD_:=@List.size_toArray
abbrev ycE_:=@Nat.add_mul
abbrev ycF_:=@List.drop_zero
abbrev ycG_:=@Bool.and_eq_false_iff
abbrev ycH_:=@List.all_nil
abbrev ycI_:=@List.eraseIdx_sublist
abbrev ycJ_:=@List.take_append_of_le_length
abbrev ycK_:=@Nat.succ_le_succ
abbrev ycL_:=@Array.toArray_toList
abbrev ycM_:=@List.drop_eq_nil_iff
abbrev ycN_:=@List.Perm.of_eq
abbrev ycO_:=@List.getElem_of_mem
abbrev ycP_:=@List.mergeSort_perm
abbrev ycQ_:=@List.nil_append
abbrev ycR_:=@List.toList_toArray
abbrev ycS_:=@decide_eq_false
abbrev ycT_:=@List.filter_append
abbrev ycU_:=@List.set_cons_zero
abbrev ycV_:=@Bool.false_and
abbrev ycW_:=@Bool.not_eq_false
abbrev ycX_:=@Prod.mk.inj
abbrev ycY_:=@true_and
abbrev ycZ_:=@List.filter_cons
abbrev yda_:=@List.flatMap_map
abbrev ydb_:=@List.getElem_mem
abbrev ydc_:=@List.take_append
abbrev ydd_:=@Nat.le_add_right
abbrev yde_:=@Nat.min_le_right
abbrev ydf_:=@List.all_append
abbrev ydg_:=@List.map_map
abbrev ydh_:=@Nat.beq_refl
abbrev ydi_:=@Nat.zero_lt_one
abbrev ydj_:=@false_and
abbrev ydk_:=@false_iff
abbrev ydl_:=@Prod.eta
end Go
namespace Go.Proofs.YtbffkokbdeppaaaGreatDoor
open Go
abbrev zp_ (b o : Nat) : Value := .pointer (some ⟨b, o, none⟩)
abbrev i_ := @Tryz.sizeOf28
abbrev m_ := @Tryz.runUnderlying25
abbrev u_ := @Tryz.runUnderlying69
abbrev z_ := @Tryz.runUnderlying26
abbrev B_ := @Tryz.sizeOf9
abbrev D_ := @Tryz.sizeOf30
abbrev F_ := @Tryz.underlying3
abbrev H_ := @Tryz.isAgg28
abbrev L_ := @Tryz.runUnderlying9
abbrev M_ := @Tryz.runUnderlying50
abbrev N_ := @Tryz.zeroValue80
abbrev ab_ := @Tryz.sizeOf80
abbrev ad_ := @Tryz.zeroValue104
abbrev af_ := @Tryz.sizeOf3
abbrev aj_ := @Tryz.runUnderlying143
abbrev ak_ := @Tryz.zeroValue9
abbrev ao_ := @Tryz.runUnderlying28
abbrev ap_ := @Tryz.sizeOf24
abbrev ar_ := @Tryz.sizeOf104
abbrev aw_ := @Tryz.runUnderlying22
abbrev ay_ := @Tryz.zeroValue28
abbrev aE_ := @Tryz.runUnderlying63
abbrev aG_ := @Tryz.zeroValue69
abbrev aH_ := @Tryz.runUnderlying279
abbrev aJ_ := @Tryz.isAgg9
abbrev aN_ := @Tryz.sizeOf69
abbrev aQ_ := @Tryz.zeroValue30
abbrev aU_ := @Tryz.isAgg3
abbrev bf_ := @Tryz.sizeOf171
abbrev bg_ := @Tryz.isAgg30
abbrev bi_ := @Tryz.runUnderlying285
abbrev bj_ := @Tryz.zeroValue281
abbrev bo_ := @Tryz.sizeOf25
abbrev bp_ := @Tryz.runUnderlying343
abbrev bq_ := @Tryz.runUnderlying169
abbrev bt_ := @Tryz.sizeOf281
abbrev bv_ := @Tryz.results320
abbrev bw_ := @Tryz.results314
abbrev bC_ := @Tryz.runUnderlying30
abbrev bD_ := @Tryz.sizeOf4
abbrev bH_ := @Tryz.runUnderlying151
abbrev bQ_ := @Tryz.zeroValue3
abbrev ca_ := @Tryz.isAgg24
abbrev ce_ := @Tryz.zeroValue290
abbrev ci_ := @Tryz.sizeOf343
abbrev cj_ := @Tryz.sizeOf290
abbrev ck_ := @Tryz.sizeOf127
abbrev cE_ := @Tryz.zeroValue24
abbrev cG_ := @Tryz.isAgg4
abbrev cI_ := @Tryz.runUnderlying291
abbrev cW_ := @Tryz.underlying9
abbrev df_ := @Tryz.zeroValue171
abbrev dh_ := @Tryz.runUnderlying345
abbrev di_ := @Tryz.runUnderlying152
abbrev dk_ := @Tryz.sizeOf26
abbrev dH_ := @Tryz.results18
abbrev dL_ := @Tryz.results168
abbrev dV_ := @Tryz.runUnderlying344
abbrev dW_ := @Tryz.runUnderlying186
abbrev eb_ := @Tryz.sizeOf83
abbrev ew_ := @Tryz.isAgg26
abbrev eB_ := @Tryz.results96
abbrev eI_ := @Tryz.runUnderlying257
abbrev eS_ := @Tryz.results142
abbrev eT_ := @Tryz.zeroValue151
abbrev fh_ := @Tryz.sizeOf90
abbrev fA_ := @Tryz.results45
abbrev fS_ := @Tryz.isAgg25
abbrev gM_ := @Tryz.sizeOf256
abbrev he_ := @Tryz.zeroValue83
abbrev hN_ := @Tryz.isAgg171
abbrev hO_ := @Tryz.isAgg127
abbrev hY_ := @Tryz.zeroValue4
abbrev jp_ := @Tryz.underlying80
abbrev jq_ := @Tryz.underlying25
abbrev ju_ := @Tryz.sizeOf291
abbrev jz_ := @Tryz.results79
abbrev jA_ := @Tryz.results48
abbrev kw_ := @Tryz.runUnderlying288
abbrev kx_ := @Tryz.runUnderlying259
abbrev ky_ := @Tryz.runUnderlying258
abbrev kR_ := @Tryz.underlying4
abbrev lo_ := @Tryz.sizeOf22
abbrev lp_ := @Tryz.isAgg132
abbrev lV_ := @Tryz.runUnderlying24
abbrev mC_ := @Tryz.results195
abbrev mD_ := @Tryz.results175
abbrev mE_ := @Tryz.results117
abbrev ox_ := @Tryz.isAgg22
abbrev ph_ := @Tryz.results20
abbrev qq_ := @Tryz.zeroValue256
abbrev qr_ := @Tryz.zeroValue127
abbrev sn_ := @Tryz.isAgg130
abbrev wj_ := @Tryz.results313
abbrev wk_ := @Tryz.results304
abbrev wl_ := @Tryz.results270
abbrev wm_ := @Tryz.results269
abbrev wn_ := @Tryz.results249
abbrev xB_ := @Tryz.runUnderlying355
abbrev xC_ := @Tryz.runUnderlying277
abbrev zm_ := @Tryz.sizeOf259
abbrev De_ := @Tryz.isAgg152
end Go.Proofs.YtbffkokbdeppaaaGreatDoor
namespace Go.Proofs.YtbffkokbdeppaaaGreatDoor
end Go.Proofs.YtbffkokbdeppaaaGreatDoor
theorem zaa_ {G:Prop} (h:G:=by omega):G:=h
theorem zab_ {G:Prop} (h:G:=by simp only[maxLen];((try simp only[List.length_append,List.length_cons,List.length_nil]);omega)):G:=h
theorem zac_ {G:Prop} (h:G:=by ((try simp only[List.length_append,List.length_cons,List.length_nil]);omega)):G:=h
theorem zad_ {G:Prop} (h:G:=by first|omega|(simp only[List.length_append,List.length_cons,List.length_nil];omega)):G:=h
theorem zae_ {G:Prop} (h:G:=by dsimp only;omega):G:=h
theorem zaf_ {G:Prop} (h:G:=by simp only[List.flatMap_cons,List.flatMap_nil,List.length_append,List.length_cons,List.length_nil,cb_];omega):G:=h
theorem zag_ {G:Prop} (h:G:=by unfold Ax.rgoal;simp[List.flatMap_cons,Ax.disj,Ax.doms,bY_,bz_,G.left,G.right, *]):G:=h
theorem zah_ {G:Prop} (h:G:=by first|omega|(simp;done)):G:=h
theorem zai_ {G:Prop} (h:G:=by simp only[List.flatMap_cons,List.flatMap_nil,List.length_append,List.length_cons,List.length_nil,Ax.chainL_len,List.length_drop];omega):G:=h
theorem zaj_ {G:Prop} (h:G:=by decide):G:=h
theorem zak_ {G:Prop} (h:G:=by simp):G:=h
theorem zal_ {G:Prop} (h:G:=by simp only[List.length_append,List.length_cons,List.length_nil];omega):G:=h
theorem zam_ {G:Prop} (h:G:=by kernel_rfl):G:=h
theorem zan_ {G:Prop} (h:G:=by first|omega|(simp only[Con.parts];omega)|(simp[Con.parts];done)):G:=h
theorem zao_ {G:Prop} (h:G:=by first|omega|(simp only[List.length_cons,List.length_nil]at *;omega)):G:=h
theorem zap_ {G:Prop} (h:G:=by grind):G:=h
theorem zaq_ {G:Prop} (h:G:=by simp[aZ_,kws, *]):G:=h
theorem zar_ {G:Prop} (h:G:=by assumption):G:=h
theorem zas_ {G:Prop} (h:G:=by exact ((Con.mem_iff c v).1 h.1).1):G:=h
theorem zat_ {G:Prop} (h:G:=by exact (bP_ (g_ (g_ (g_ (g_ (g_ (g_ (g_ (g_ (g_ (g_ ag_)))))))))) (E_ (g_ f_) (E_ (g_ f_) (E_ (g_ f_) (E_ (g_ f_) (E_ (g_ f_) (E_ (g_ f_) (E_ (g_ f_) (E_ (g_ f_) (E_ (g_ f_) (bP_ ah_ f_)))))))))))):G:=h
theorem zau_ {G:Prop} (h:G:=by simp only[maxLen];(have:=H.len.1;(try simp only[List.length_append,List.length_cons,List.length_nil]);omega)):G:=h
theorem zav_ {G:Prop} (h:G:=by rintro e w' ⟨rfl,rfl⟩;exact⟨rfl,⟨rfl,rfl,rfl,Nat.le_refl _,λ_ _=>rfl⟩,.inr (Nat.le_refl _)⟩):G:=h
theorem zaw_ {G:Prop} (h:G:=by simp only[maxLen];((try simp only[List.length_append,List.length_cons,List.length_nil]);have:=F.len;omega)):G:=h
theorem zax_ {G:Prop} (h:G:=by rw[Ax.pieces_ins];congr 1;unfold Ax.rpieces;simp[*]):G:=h
theorem zay_ {G:Prop} (h:G:=by simp only[maxLen];omega):G:=h
theorem zaz_ {G:Prop} (h:G:=by rw[List.length_map];omega):G:=h
theorem zaA_ {G:Prop} (h:G:=by (have:=H.len.1;(try simp only[List.length_append,List.length_cons,List.length_nil]);omega)):G:=h
theorem zaB_ {G:Prop} (h:G:=by ((try simp only[List.length_append,List.length_cons,List.length_nil]);have:=F.len;omega)):G:=h
theorem zaC_ {G:Prop} (h:G:=by simp;omega):G:=h
theorem zaD_ {G:Prop} (h:G:=by rw[List.length_take];simp only[maxLen];omega):G:=h
theorem zaE_ {G:Prop} (h:G:=by have:=List.countP_le_length (p:=λr=>decide (r=x.role)) (l:=List.take j (Ax.roles x));have:=List.length_take_le j (Ax.roles x);omega):G:=h
theorem zaF_ {G:Prop} (h:G:=by simp only[maxLen];first|omega|(simp only[List.length_append,List.length_cons,List.length_nil];omega)):G:=h
theorem zaG_ {G:Prop} (h:G:=by rw[List.length_take];omega):G:=h
theorem zaH_ {G:Prop} (h:G:=by rw[bV_ V_ 1 au_]):G:=h
theorem zaI_ {G:Prop} (h:G:=by have:=Con.sz_part d;omega):G:=h
theorem zaJ_ {G:Prop} (h:G:=by rw[hu];intro q;first|assumption|cases q):G:=h
theorem zaK_ {G:Prop} (h:G:=by have:=Con.textN_len d;simp only[List.length_append,List.length_cons,List.length_nil];omega):G:=h
theorem zaL_ {G:Prop} (h:G:=by simp only[maxLen];((try simp only[List.length_append,List.length_map,List.length_take,List.length_cons,List.length_nil]);omega)):G:=h
theorem zaM_ {G:Prop} (h:G:=by simpa using k):G:=h
theorem zaN_ {G:Prop} (h:G:=by simp only[List.length_cons,List.length_nil];omega):G:=h
theorem zaO_ {G:Prop} (h:G:=by rw[List.length_drop,List.length_take];simp only[maxLen];omega):G:=h
theorem zaP_ {G:Prop} (h:G:=by have:=hL_ u.nd (m:=q) (λz d=>by rcases List.mem_append.1 d with d|d;exact h z d;rw[List.mem_singleton]at d;exact d▸E);rw[List.length_append,List.length_singleton]at this;dsimp only;rw[List.length_append,List.length_singleton];omega):G:=h
theorem zaQ_ {G:Prop} (h:G:=by rw[bV_ Pc.cells 10 Pc.cells_len]):G:=h
theorem zaR_ {G:Prop} (h:G:=by ((try simp only[List.length_append,List.length_map,List.length_take,List.length_cons,List.length_nil]);omega)):G:=h
theorem zaS_ {G:Prop} (h:G:=by rw[List.append_nil];exact .refl _):G:=h
theorem zaT_ {G:Prop} (h:G:=by subst_vars;rw[Bool.eq_iff_iff];simp[dK_]<;>omega):G:=h
theorem zaU_ {G:Prop} (h:G:=by rw[A];have:=hL_ u.nd (m:=q) (λz d=>by rcases List.mem_append.1 d with d|d;exact h z d;rw[List.mem_singleton]at d;exact d▸E);rw[List.length_append,List.length_singleton]at this;omega):G:=h
theorem zaV_ {G:Prop} (h:G:=by simpa using o):G:=h
theorem zaW_ {G:Prop} (h:G:=by rw[List.length_drop,List.length_take];omega):G:=h
theorem zaX_ {G:Prop} (h:G:=by first|(simp only[List.length_nil];omega)|(simp only[List.length_append,List.length_nil];have q:=jL_ [(Thg.mk 1 [42])] [];simp only[List.length_cons,List.length_nil]at q;omega)):G:=h
theorem zaY_ {G:Prop} (h:G:=by exact h.2.2.2.1):G:=h
theorem zaZ_ {G:Prop} (h:G:=by first|omega|(simp;omega)):G:=h
theorem zba_ {G:Prop} (h:G:=by first|(left;omega)|(right;omega)):G:=h
theorem zbb_ {G:Prop} (h:G:=by subst_vars;rw[Bool.eq_iff_iff];simp[dz_, *]<;>omega):G:=h
theorem zbc_ {G:Prop} (h:G:=by first|omega|(simp_all;done)|(simp_all;omega)|grind):G:=h
theorem zbd_ {G:Prop} (h:G:=by exact h.2.1.1):G:=h
theorem zbe_ {G:Prop} (h:G:=by simpa using d):G:=h
theorem zbf_ {G:Prop} (h:G:=by (try dsimp only at *);omega):G:=h
theorem zbg_ {G:Prop} (h:G:=by rw[e];exact bu_ F_ rfl):G:=h
theorem zbh_ {G:Prop} (h:G:=by rw[take_snoc B,List.countP_append,hm];simp[e]):G:=h
theorem zbi_ {G:Prop} (h:G:=by have q:=H.push E hGw Q a9 (λq=>by have C:=hcll;rw[q.2]at C;simp[q.1]at C) (by rw[U];have C:=Y;rw[hbe]at C;exact C);rw[U]at q;exact q):G:=h
theorem zbj_ {G:Prop} (h:G:=by rw[Con.text_eq];simp[Con.kind,Con.name,d]):G:=h
theorem zbk_ {G:Prop} (h:G:=by rw[Con.bare_eq];simp only[Con.kind,Con.parts]at *;simp[*]):G:=h
theorem zbl_ {G:Prop} (h:G:=by rw[List.append_nil];exact @List.perm_append_comm _ _ [_]):G:=h
theorem zbm_ {G:Prop} (h:G:=by split<;>split at hm<;>omega):G:=h
theorem zbn_ {G:Prop} (h:G:=by simpa using C):G:=h
theorem zbo_ {G:Prop} (h:G:=by simpa using E):G:=h
theorem zbp_ {G:Prop} (h:G:=by first|(simp[cl_]<;>omega)|(subst es;simp[cl_]<;>omega)):G:=h
theorem zbq_ {G:Prop} (h:G:=by simp only[maxLen];((try simp only[List.length_append,List.length_cons,List.length_nil]);have a4:=M.len;omega)):G:=h
theorem zbr_ {G:Prop} (h:G:=by rw[List.take_zero];exact P.app (NsI.one P.srt (gi_ U))):G:=h
theorem zbs_ {G:Prop} (h:G:=by simp only[List.length_append];omega):G:=h
theorem zbt_ {G:Prop} (h:G:=by rw[List.length_drop];omega):G:=h
theorem zbu_ {G:Prop} (h:G:=by simp only[List.length_cons,List.length_nil]at *;omega):G:=h
theorem zbv_ {G:Prop} (h:G:=by have:=(P).len;simp only[List.length_nil]at this;omega):G:=h
theorem zbw_ {G:Prop} (h:G:=by rw[bV_ V_ 1 au_];rfl):G:=h
theorem zbx_ {G:Prop} (h:G:=by show k<=4\/k=8;omega):G:=h
theorem zby_ {G:Prop} (h:G:=by ((try simp only[List.length_append,List.length_cons,List.length_nil]);have a4:=M.len;omega)):G:=h
theorem zbz_ {G:Prop} (h:G:=by rw[A];simp):G:=h
theorem zbA_ {G:Prop} (h:G:=by simp[dz_, *]<;>omega):G:=h
theorem zbB_ {G:Prop} (h:G:=by have q:=(en_ A).2;simp only[Value.cells,List.all_cons,List.all_nil,q,Bool.and_true]):G:=h
theorem zbC_ {G:Prop} (h:G:=by simpa using I):G:=h
theorem zbD_ {G:Prop} (h:G:=by rw[<-a2];simp[U,Y]):G:=h
theorem zbE_ {G:Prop} (h:G:=by have q:=(en_ M).2;simp only[Value.cells,List.all_cons,List.all_nil,q,Bool.and_true]):G:=h
theorem zbF_ {G:Prop} (h:G:=by unfold HLp;simp only[List.cons_append,List.append_assoc,List.nil_append];exact wu_):G:=h
theorem zbG_ {G:Prop} (h:G:=by constructor<;>simp[Con.ok,Con.ok.oks,sB]):G:=h
theorem zbH_ {G:Prop} (h:G:=by simp[d]):G:=h
theorem zbI_ {G:Prop} (h:G:=by have:=u.a;omega):G:=h
theorem zbJ_ {G:Prop} (h:G:=by simp only[List.length_append,List.length_cons,List.length_nil];rw[d]at *;omega):G:=h
theorem zbK_ {G:Prop} (h:G:=by simp only[maxLen];((try simp only[List.length_append,List.length_nil]);omega)):G:=h
theorem zbL_ {G:Prop} (h:G:=by rw[B];simp):G:=h
theorem zbM_ {G:Prop} (h:G:=by have O:=Con.cmp_self (Con.mk 0 [] 0 0 none 0 []);(try dsimp only at *);omega):G:=h
theorem zbN_ {G:Prop} (h:G:=by rw[<-a2];simp[U]):G:=h
theorem zbO_ {G:Prop} (h:G:=by as_aux_lemma=>kernel_rfl):G:=h
theorem zbP_ {G:Prop} (h:G:=by rw[List.getElem?_append_left (List.getElem?_eq_some_iff.1 E).1];exact E):G:=h
theorem zbQ_ {G:Prop} (h:G:=by simpa using u):G:=h
theorem zbR_ {G:Prop} (h:G:=by dsimp only;simp only[List.length_append,List.length_singleton];omega):G:=h
theorem zbS_ {G:Prop} (h:G:=by rw[e];exact (Con.cmp_eq c d).symm):G:=h
theorem zbT_ {G:Prop} (h:G:=by have:=sz_part k;omega):G:=h
theorem zbU_ {G:Prop} (h:G:=by have:=sz_part d;omega):G:=h
theorem zbV_ {G:Prop} (h:G:=by simp[aP_, *]):G:=h
theorem zbW_ {G:Prop} (h:G:=by rw[bO_,An_ s k y x.2];simp_all [List.take_of_length_le]<;>omega):G:=h
theorem zbX_ {G:Prop} (h:G:=by cases q):G:=h
theorem zbY_ {G:Prop} (h:G:=by ((try simp only[List.length_append,List.length_nil]);omega)):G:=h
theorem zbZ_ {G:Prop} (h:G:=by have:=Con.sz_part (c:=(.mk k nm lo hi ad cap ps)) o;omega):G:=h
theorem zca_ {G:Prop} (h:G:=by have:=Con.sz_part (c:=(.mk k nm lo hi ad cap ps)) e;omega):G:=h
theorem zcb_ {G:Prop} (h:G:=by simp[e]):G:=h
theorem zcc_ {G:Prop} (h:G:=by have:=Con.sz_part (c:=.mk k nm lo hi ad cap ps) d;omega):G:=h
theorem zcd_ {G:Prop} (h:G:=by rcases u with rfl|rfl<;>rfl):G:=h
theorem zce_ {G:Prop} (h:G:=by simpa using H):G:=h
theorem zcf_ {G:Prop} (h:G:=by grind[bO_]):G:=h
theorem zcg_ {G:Prop} (h:G:=by rw[k]):G:=h
theorem zch_ {G:Prop} (h:G:=by simp[*]):G:=h
theorem zci_ {G:Prop} (h:G:=by exact (h.2.1.2 d k).2.2):G:=h
theorem zcj_ {G:Prop} (h:G:=by have:=u.r;omega):G:=h
theorem zck_ {G:Prop} (h:G:=by show (0:Int)<=k;omega):G:=h
theorem zcl_ {G:Prop} (h:G:=by grind[aZ_,kws]):G:=h
theorem zcm_ {G:Prop} (h:G:=by rw[Con.firstErr_eq,Con.fieldErr_ref];simp[*]):G:=h
theorem zcn_ {G:Prop} (h:G:=by simp_all):G:=h
