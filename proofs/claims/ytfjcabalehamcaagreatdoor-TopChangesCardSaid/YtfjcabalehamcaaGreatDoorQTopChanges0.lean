/-
  Short names for closed facts on the program, for the law TopChanges (no condition).
-/
import Derived.Test.YtfjcabalehamcaaGreatDoorProg
import Derived.KernelRfl
namespace Go
abbrev Ao:=Option Addr
abbrev i4_:Int->Value:=.int .i64
abbrev yaa_:=@List.getElem?_eq_getElem
abbrev yab_:=@List.getElem?_eq_some_iff
abbrev yac_:=@List.mem_of_getElem?
abbrev yad_:=@List.take_of_length_le
abbrev yae_:=@Nat.le_refl
abbrev yaf_:=@if_neg
abbrev yag_:=@List.mem_append
abbrev yah_:=@congrArg
abbrev yai_:=@List.length_cons
abbrev yaj_:=@List.length_append
abbrev yak_:=@List.mem_singleton
abbrev yal_:=@List.mem_append_left
abbrev yam_:=@Option.some.injEq
abbrev yan_:=@List.mem_cons
abbrev yao_:=@List.take_add_one
abbrev yap_:=@List.append_assoc
abbrev yaq_:=@if_pos
abbrev yar_:=@List.mem_flatMap
abbrev yas_:=@List.mem_map
abbrev yat_:=@List.length_take
abbrev yau_:=@List.mem_cons_self
abbrev yav_:=@List.cons_append
abbrev yaw_:=@List.map_append
abbrev yax_:=@List.perm_append_comm
abbrev yay_:=@List.mem_append_right
abbrev yaz_:=@List.eq_nil_of_length_eq_zero
abbrev yaA_:=@List.mem_cons_of_mem
abbrev yaB_:=@List.length_nil
abbrev yaC_:=@Option.toList_some
abbrev yaD_:=@Array.getElem?_eq_some_iff
abbrev yaE_:=@decide_eq_true
abbrev yaF_:=@List.map_cons
abbrev yaG_:=@List.getElem?_append_right
abbrev yaH_:=@List.getElem?_map
abbrev yaI_:=@List.mem_map_of_mem
abbrev yaJ_:=@List.not_mem_nil
abbrev yaK_:=@List.getElem?_append_left
abbrev yaL_:=@List.append_nil
abbrev yaM_:=@List.getElem?_take_of_lt
abbrev yaN_:=@List.pairwise_iff_getElem
abbrev yaO_:=@List.length_map
abbrev yaP_:=@List.drop_of_length_le
abbrev yaQ_:=@List.all_eq_true
abbrev yaR_:=@Nat.succ_ne_zero
abbrev yaS_:=@Bool.and_eq_true
abbrev yaT_:=@List.length_set
abbrev yaU_:=@List.getElem?_of_mem
abbrev yaV_:=@List.flatMap_cons
abbrev yaW_:=@List.flatMap_append
abbrev yaX_:=@Option.map_some
abbrev yaY_:=@List.nodup_append
abbrev yaZ_:=@List.drop_eq_getElem_cons
abbrev yba_:=@Nat.zero_add
abbrev ybb_:=@List.getElem?_cons_succ
abbrev ybc_:=@List.getElem?_cons_zero
abbrev ybd_:=@List.take_succ_cons
abbrev ybe_:=@Array.getElem?_toList
abbrev ybf_:=@of_decide_eq_true
abbrev ybg_:=@List.getElem?_take
abbrev ybh_:=@List.mem_filter
abbrev ybi_:=@decide_eq_false
abbrev ybj_:=@Nat.le_of_ble_eq_true
abbrev ybk_:=@Option.some.inj
abbrev ybl_:=@Bool.false_eq_true
abbrev ybm_:=@List.getElem?_set
abbrev ybn_:=@Nat.min_eq_left
abbrev ybo_:=@decide_eq_true_eq
abbrev ybp_:=@List.map_toArray
abbrev ybq_:=@List.prefix_refl
abbrev ybr_:=@List.nodup_cons
abbrev ybs_:=@List.mem_of_mem_take
abbrev ybt_:=@List.cons.injEq
abbrev ybu_:=@List.getElem?_eq_none
abbrev ybv_:=@Nat.le_trans
abbrev ybw_:=@Int.toNat_natCast
abbrev ybx_:=@List.ext_getElem?
abbrev yby_:=@Array.getElem?_modify
abbrev ybz_:=@List.length_mergeSort
abbrev ybA_:=@List.take_append_drop
abbrev ybB_:=@decide_eq_false_iff_not
abbrev ybC_:=@List.nil_append
abbrev ybD_:=@Prod.mk.injEq
abbrev ybE_:=@List.Perm.append_left
abbrev ybF_:=@List.size_toArray
abbrev ybG_:=@or_false
abbrev ybH_:=@Array.getElem?_append_left
abbrev ybI_:=@List.set_cons_zero
abbrev ybJ_:=@Bool.eq_iff_iff
abbrev ybK_:=@Bool.or_eq_true
abbrev ybL_:=@and_congr_right
abbrev ybM_:=@List.perm_middle
abbrev ybN_:=@List.length_filter_le
abbrev ybO_:=@List.length_singleton
abbrev ybP_:=@List.getElem?_drop
abbrev ybQ_:=@List.getElem?_replicate
abbrev ybR_:=@List.map_nil
abbrev ybS_:=@List.take_length
abbrev ybT_:=@List.getElem?_set_self
abbrev ybU_:=@Array.length_toList
abbrev ybV_:=@Bool.not_eq_true'
abbrev ybW_:=@List.drop_succ_cons
abbrev ybX_:=@List.map_congr_left
abbrev ybY_:=@List.mem_range
abbrev ybZ_:=@List.nodup_nil
abbrev yca_:=@if_false
abbrev ycb_:=@List.length_replicate
abbrev ycc_:=@Nat.add_zero
abbrev ycd_:=@Nat.eq_of_beq_eq_true
abbrev yce_:=@eq_true
abbrev ycf_:=@Nat.add_mul
abbrev ycg_:=@Nat.zero_le
abbrev ych_:=@List.getElem?_set_ne
abbrev yci_:=@eq_false
abbrev ycj_:=@List.length_pos_iff
abbrev yck_:=@if_true
abbrev ycl_:=@List.any_eq_true
abbrev ycm_:=@List.getElem_mem
abbrev ycn_:=@List.length_drop
abbrev yco_:=@Array.ext_getElem?
abbrev ycp_:=@List.cons_lt_cons_iff
abbrev ycq_:=@List.lt_trans
abbrev ycr_:=@List.pairwise_cons
abbrev ycs_:=@Nat.lt_of_lt_of_le
abbrev yct_:=@Array.getElem?_eq_getElem
abbrev ycu_:=@List.take_zero
abbrev ycv_:=@Array.toList_push
abbrev ycw_:=@List.foldl_cons
abbrev ycx_:=@List.eq_nil_iff_forall_not_mem
abbrev ycy_:=@Array.getElem?_push
abbrev ycz_:=@List.take_append_of_le_length
abbrev ycA_:=@List.lt_irrefl
abbrev ycB_:=@List.length_eq_one_iff
abbrev ycC_:=@Option.map_eq_some_iff
abbrev ycD_:=@List.mem_mergeSort
abbrev ycE_:=@List.pairwise_map
abbrev ycF_:=@Nat.add_assoc
abbrev ycG_:=@Array.toArray_toList
abbrev ycH_:=@List.pairwise_append
abbrev ycI_:=@Nat.mul_le_mul_right
abbrev ycJ_:=@or_congr_right
abbrev ycK_:=@List.getElem_map
abbrev ycL_:=@List.getElem_of_mem
abbrev ycM_:=@List.toList_toArray
abbrev ycN_:=@List.idxOf_lt_length_iff
abbrev ycO_:=@List.map_map
abbrev ycP_:=@Nat.sub_self
abbrev ycQ_:=@List.all_append
abbrev ycR_:=@List.filter_append
abbrev ycS_:=@Option.isSome_none
abbrev ycT_:=@List.Perm.append_right
abbrev ycU_:=@List.length_pos_of_mem
abbrev ycV_:=@Array.getElem?_setIfInBounds_ne
abbrev ycW_:=@List.Pairwise.imp
abbrev ycX_:=@List.all_eq_false
abbrev ycY_:=@List.any_eq_false
abbrev ycZ_:=@List.drop_zero
abbrev yda_:=@List.exists_cons_of_length_pos
abbrev ydb_:=@List.le_antisymm
abbrev ydc_:=@decide_eq_decide
abbrev ydd_:=@List.drop_eq_nil_iff
abbrev yde_:=@List.sum_cons
abbrev ydf_:=@List.any_append
abbrev ydg_:=@Int.lt_trans
abbrev ydh_:=@List.getElem_idxOf
abbrev ydi_:=@List.set_cons_succ
abbrev ydj_:=@Nat.sub_zero
abbrev ydk_:=@Nat.zero_mul
abbrev ydl_:=@List.take_take
abbrev ydm_:=@Int.lt_trichotomy
abbrev ydn_:=@List.foldl_append
abbrev ydo_:=@List.getElem?_inj
abbrev ydp_:=@List.length_range
abbrev ydq_:=@beq_iff_eq
abbrev ydr_:=@List.map_take
abbrev yds_:=@List.not_lt
abbrev ydt_:=@true_and
abbrev ydu_:=@List.countP_cons
abbrev ydv_:=@List.drop_append
abbrev ydw_:=@List.take_append
abbrev ydx_:=@Nat.le_add_right
abbrev ydy_:=@Int.natCast_mul
abbrev ydz_:=@List.Perm.of_eq
abbrev ydA_:=@List.sum_nil
abbrev ydB_:=@Nat.beq_refl
abbrev ydC_:=@Nat.succ_mul
abbrev ydD_:=@Nat.zero_lt_one
abbrev ydE_:=@decide_false
abbrev ydF_:=@and_true
end Go
namespace Go.Proofs.YtfjcabalehamcaaGreatDoor
open Go
abbrev zp_ (b o : Nat) : Value := .pointer (some ⟨b, o, none⟩)
abbrev o_ := @Tryz.underlying3
abbrev z_ := @Tryz.runUnderlying27
abbrev A_ := @Tryz.sizeOf32
abbrev B_ := @Tryz.runUnderlying34
abbrev D_ := @Tryz.sizeOf49
abbrev J_ := @Tryz.runUnderlying44
abbrev K_ := @Tryz.sizeOf3
abbrev N_ := @Tryz.sizeOf87
abbrev O_ := @Tryz.zeroValue32
abbrev R_ := @Tryz.runUnderlying9
abbrev U_ := @Tryz.sizeOf9
abbrev W_ := @Tryz.zeroValue87
abbrev ab_ := @Tryz.sizeOf51
abbrev ae_ := @Tryz.isAgg9
abbrev ai_ := @Tryz.runUnderlying35
abbrev al_ := @Tryz.runUnderlying47
abbrev an_ := @Tryz.sizeOf39
abbrev aq_ := @Tryz.isAgg49
abbrev as_ := @Tryz.runUnderlying22
abbrev at_ := @Tryz.zeroValue9
abbrev au_ := @Tryz.isAgg3
abbrev av_ := @Tryz.underlying9
abbrev aA_ := @Tryz.results244
abbrev aK_ := @Tryz.zeroValue51
abbrev aN_ := @Tryz.zeroValue3
abbrev aT_ := @Tryz.runUnderlying117
abbrev aW_ := @Tryz.sizeOf37
abbrev bj_ := @Tryz.runUnderlying77
abbrev bu_ := @Tryz.zeroValue27
abbrev bv_ := @Tryz.sizeOf173
abbrev bI_ := @Tryz.runUnderlying88
abbrev bO_ := @Tryz.zeroValue4
abbrev bP_ := @Tryz.zeroValue49
abbrev bR_ := @Tryz.runUnderlying231
abbrev ca_ := @Tryz.zeroValue34
abbrev ci_ := @Tryz.runUnderlying314
abbrev cj_ := @Tryz.sizeOf27
abbrev co_ := @Tryz.sizeOf4
abbrev cp_ := @Tryz.isAgg87
abbrev cz_ := @Tryz.zeroValue44
abbrev cQ_ := @Tryz.runUnderlying313
abbrev db_ := @Tryz.runUnderlying90
abbrev dc_ := @Tryz.runUnderlying33
abbrev dx_ := @Tryz.isAgg39
abbrev dy_ := @Tryz.isAgg32
abbrev dG_ := @Tryz.sizeOf129
abbrev dJ_ := @Tryz.results46
abbrev dM_ := @Tryz.runUnderlying233
abbrev dV_ := @Tryz.zeroValue173
abbrev dZ_ := @Tryz.runUnderlying97
abbrev ed_ := @Tryz.isAgg51
abbrev es_ := @Tryz.zeroValue39
abbrev eu_ := @Tryz.sizeOf119
abbrev ew_ := @Tryz.results20
abbrev fs_ := @Tryz.sizeOf89
abbrev ft_ := @Tryz.sizeOf34
abbrev fy_ := @Tryz.zeroValue146
abbrev fz_ := @Tryz.underlying32
abbrev fV_ := @Tryz.sizeOf217
abbrev fW_ := @Tryz.runUnderlying91
abbrev fX_ := @Tryz.runUnderlying26
abbrev gk_ := @Tryz.zeroValue37
abbrev gl_ := @Tryz.isAgg37
abbrev ie_ := @Tryz.zeroValue217
abbrev ig_ := @Tryz.underlying34
abbrev il_ := @Tryz.sizeOf146
abbrev in_ := @Tryz.results99
abbrev io_ := @Tryz.results11
abbrev jc_ := @Tryz.runUnderlying175
abbrev jF_ := @Tryz.isAgg126
abbrev jV_ := @Tryz.runUnderlying71
abbrev kM_ := @Tryz.results108
abbrev oe_ := @Tryz.zeroValue119
abbrev ok_ := @Tryz.underlying44
abbrev ol_ := @Tryz.underlying27
abbrev oP_ := @Tryz.isAgg4
abbrev pn_ := @Tryz.sizeOf35
abbrev qn_ := @Tryz.zeroValue35
abbrev sV_ := @Tryz.isAgg68
abbrev tR_ := @Tryz.results242
abbrev uQ_ := @Tryz.runUnderlying235
abbrev wy_ := @Tryz.sizeOf117
abbrev wD_ := @Tryz.runUnderlying98
abbrev wE_ := @Tryz.runUnderlying92
abbrev wJ_ := @Tryz.results33
abbrev wK_ := @Tryz.results10
abbrev AK_ := @Tryz.sizeOf44
end Go.Proofs.YtfjcabalehamcaaGreatDoor
namespace Go.Proofs.YtfjcabalehamcaaGreatDoor
end Go.Proofs.YtfjcabalehamcaaGreatDoor
theorem zaa_ {G:Prop} (h:G:=by omega):G:=h
theorem zab_ {G:Prop} (h:G:=by dsimp only;omega):G:=h
theorem zac_ {G:Prop} (h:G:=by decide):G:=h
theorem zad_ {G:Prop} (h:G:=by kernel_rfl):G:=h
theorem zae_ {G:Prop} (h:G:=by assumption):G:=h
theorem zaf_ {G:Prop} (h:G:=by first|omega|(simp only[Con.parts];omega)|(simp[Con.parts];done)):G:=h
theorem zag_ {G:Prop} (h:G:=by first|omega|(simp only[List.length_cons,List.length_nil]at *;omega)):G:=h
theorem zah_ {G:Prop} (h:G:=by simp only[List.length_append,List.length_cons,List.length_nil];omega):G:=h
theorem zai_ {G:Prop} (h:G:=by simp):G:=h
theorem zaj_ {G:Prop} (h:G:=by simp only[maxLen];omega):G:=h
theorem zak_ {G:Prop} (h:G:=by first|omega|(simp;done)):G:=h
theorem zal_ {G:Prop} (h:G:=by simp;omega):G:=h
theorem zam_ {G:Prop} (h:G:=by simp only[List.length_cons,List.length_nil];omega):G:=h
theorem zan_ {G:Prop} (h:G:=by simp only[maxLen];((try simp only[List.length_append,List.length_cons,List.length_nil]);omega)):G:=h
theorem zao_ {G:Prop} (h:G:=by rintro e w' ⟨rfl,rfl⟩;exact⟨rfl,⟨rfl,rfl,rfl,Nat.le_refl _,λ_ _=>rfl⟩,.inr (Nat.le_refl _)⟩):G:=h
theorem zap_ {G:Prop} (h:G:=by first|omega|(simp;omega)):G:=h
theorem zaq_ {G:Prop} (h:G:=by decide +kernel):G:=h
theorem zar_ {G:Prop} (h:G:=by ((try simp only[List.length_append,List.length_cons,List.length_nil]);omega)):G:=h
theorem zas_ {G:Prop} (h:G:=by simp[bw_,kws, *]):G:=h
theorem zat_ {G:Prop} (h:G:=by (try dsimp only);omega):G:=h
theorem zau_ {G:Prop} (h:G:=by have:=Con.textN_len d;simp only[List.length_append,List.length_cons,List.length_nil];omega):G:=h
theorem zav_ {G:Prop} (h:G:=by first|exact B|(simp;omega)):G:=h
theorem zaw_ {G:Prop} (h:G:=by simp only[maxLen];((try simp only[List.length_append,List.length_cons,List.length_nil,List.length_take]);omega)):G:=h
theorem zax_ {G:Prop} (h:G:=by subst_vars;rw[Bool.eq_iff_iff];simp[eA_]<;>omega):G:=h
theorem zay_ {G:Prop} (h:G:=by ((try simp only[List.length_append,List.length_cons,List.length_nil,List.length_take]);omega)):G:=h
theorem zaz_ {G:Prop} (h:G:=by subst_vars;rw[Bool.eq_iff_iff];simp[cE_]<;>simp at*<;> omega):G:=h
theorem zaA_ {G:Prop} (h:G:=by have:=Con.sz_part (c:=(.mk k nm lo hi ad cap ps)) m;omega):G:=h
theorem zaB_ {G:Prop} (h:G:=by simp only[maxLen];first|omega|(simp;omega)):G:=h
theorem zaC_ {G:Prop} (h:G:=by rw[List.append_nil];exact .refl _):G:=h
theorem zaD_ {G:Prop} (h:G:=by rw[cK_ Pc.cells 10 Pc.cells_len]):G:=h
theorem zaE_ {G:Prop} (h:G:=by rw[rl.eq_def,if_neg (by rw[d];decide),if_pos d]<;>rfl):G:=h
theorem zaF_ {G:Prop} (h:G:=by first|omega|(simp_all;done)|(simp_all;omega)|grind):G:=h
theorem zaG_ {G:Prop} (h:G:=by rintro e w' ⟨rfl,rfl⟩;exact⟨rfl,rfl,rfl,rfl,rfl,Nat.le_refl _⟩):G:=h
theorem zaH_ {G:Prop} (h:G:=by rw[v];exact ax_ o_ rfl):G:=h
theorem zaI_ {G:Prop} (h:G:=by have:=(List.getElem?_eq_some_iff.1 d).1;omega):G:=h
theorem zaJ_ {G:Prop} (h:G:=by rw[List.length_map];omega):G:=h
theorem zaK_ {G:Prop} (h:G:=by simp[d]):G:=h
theorem zaL_ {G:Prop} (h:G:=by rw[Con.text_eq];simp[Con.kind,Con.name,d]):G:=h
theorem zaM_ {G:Prop} (h:G:=by rw[d];simp):G:=h
theorem zaN_ {G:Prop} (h:G:=by rw[Con.bare_eq];simp only[Con.kind,Con.parts]at *;simp[*]):G:=h
theorem zaO_ {G:Prop} (h:G:=by unfold aD_;(repeat (any_goals split))<;>first|rfl|(simp_all;done)|(exfalso;simp_all;omega)|(exfalso;simp_all;done)):G:=h
theorem zaP_ {G:Prop} (h:G:=by rw[List.append_nil];exact @List.perm_append_comm _ _ [_]):G:=h
theorem zaQ_ {G:Prop} (h:G:=by simpa using h):G:=h
theorem zaR_ {G:Prop} (h:G:=by simp[br_, *]<;>omega):G:=h
theorem zaS_ {G:Prop} (h:G:=by simp only[maxLen];(first|omega|(rw[dn_,List.length_take];omega)|(simp only[dn_,List.length_take];omega))):G:=h
theorem zaT_ {G:Prop} (h:G:=by simp[MapKept.IsKey,str]):G:=h
theorem zaU_ {G:Prop} (h:G:=by show k<=4\/k=8;omega):G:=h
theorem zaV_ {G:Prop} (h:G:=by (have:=el_ p;(try simp only[List.length_append,List.length_cons,List.length_nil]);omega)):G:=h
theorem zaW_ {G:Prop} (h:G:=by rw[rl.eq_def,if_pos d]<;>rfl):G:=h
theorem zaX_ {G:Prop} (h:G:=by (first|omega|(rw[dn_,List.length_take];omega)|(simp only[dn_,List.length_take];omega))):G:=h
theorem zaY_ {G:Prop} (h:G:=by simpa using m):G:=h
theorem zaZ_ {G:Prop} (h:G:=by simpa using v):G:=h
theorem zba_ {G:Prop} (h:G:=by simpa using A):G:=h
theorem zbb_ {G:Prop} (h:G:=by simp[fv_, *]<;>omega):G:=h
theorem zbc_ {G:Prop} (h:G:=by simp only[maxLen];((try simp only[List.length_append,List.length_nil]);omega)):G:=h
theorem zbd_ {G:Prop} (h:G:=by rw[J d];decide):G:=h
theorem zbe_ {G:Prop} (h:G:=by as_aux_lemma=>kernel_rfl):G:=h
theorem zbf_ {G:Prop} (h:G:=by rw[cK_ Fc.cells 6 Fc.cells_len];rfl):G:=h
theorem zbg_ {G:Prop} (h:G:=by simpa using d):G:=h
theorem zbh_ {G:Prop} (h:G:=by rw[<-v];rfl):G:=h
theorem zbi_ {G:Prop} (h:G:=by rw[<-d];rfl):G:=h
theorem zbj_ {G:Prop} (h:G:=by rw[m.2,<-ef];exact v):G:=h
theorem zbk_ {G:Prop} (h:G:=by have:=(I.append_right F).symm;simpa [List.append_assoc] using this):G:=h
theorem zbl_ {G:Prop} (h:G:=by rw[J];decide):G:=h
theorem zbm_ {G:Prop} (h:G:=by simpa [ByteArray.size] using hl):G:=h
theorem zbn_ {G:Prop} (h:G:=by simp[m]):G:=h
theorem zbo_ {G:Prop} (h:G:=by simp[y]):G:=h
theorem zbp_ {G:Prop} (h:G:=by rw[List.length_take,hD_];omega):G:=h
theorem zbq_ {G:Prop} (h:G:=by simp[MapKept.IsKey]):G:=h
theorem zbr_ {G:Prop} (h:G:=by rw[N d];decide):G:=h
theorem zbs_ {G:Prop} (h:G:=by ((try simp only[List.length_append,List.length_nil]);omega)):G:=h
theorem zbt_ {G:Prop} (h:G:=by rw[List.length_append];omega):G:=h
theorem zbu_ {G:Prop} (h:G:=by simp[A]):G:=h
theorem zbv_ {G:Prop} (h:G:=by have:=Con.sz_part (c:=.mk k nm lo hi ad cap ps) d;omega):G:=h
theorem zbw_ {G:Prop} (h:G:=by simpa using G):G:=h
theorem zbx_ {G:Prop} (h:G:=by rcases B with rfl|rfl<;>rfl):G:=h
theorem zby_ {G:Prop} (h:G:=by rw[List.length_take];omega):G:=h
theorem zbz_ {G:Prop} (h:G:=by simp only[List.length_cons,List.length_nil]at *;omega):G:=h
theorem zbA_ {G:Prop} (h:G:=by rw[F,<-nH_ v m];exact d):G:=h
theorem zbB_ {G:Prop} (h:G:=by rw[e];rfl):G:=h
theorem zbC_ {G:Prop} (h:G:=by symm;apply decide_eq_false;intro e;subst e;omega):G:=h
theorem zbD_ {G:Prop} (h:G:=by simp[x]):G:=h
theorem zbE_ {G:Prop} (h:G:=by show (0:Int)<=k;omega):G:=h
