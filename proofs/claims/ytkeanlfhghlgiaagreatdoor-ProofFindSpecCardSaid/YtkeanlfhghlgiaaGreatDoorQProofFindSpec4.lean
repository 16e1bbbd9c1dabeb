/-
  Part of the proof of the law ProofFindSpec over this seat: the small logic, the data, the contracts of functions (no condition).
-/
import Derived.Test.YtkeanlfhghlgiaaGreatDoorQProofFindSpec3
import Derived.Test.YtkeanlfhghlgiaaGreatDoorQProofFindSpec2
import Derived.Lib.SlicesCompact
import Derived.Sort.EncStr
set_option linter.unusedVariables false
set_option linter.unusedSimpArgs false
set_option linter.unusedSectionVars false
set_option maxHeartbeats 1000000
namespace Go.Proofs.YtkeanlfhghlgiaaGreatDoor
open Go Go.Sx Go.Proofs
attribute [local irreducible] Code.wp wpList wpAnyH
open Go.Vs
theorem mb_ (c:UInt8) :
    Fn0 Tryz.prog 207 #[.int .u8 (c.toNat:Int)] (.bool (dd_ c)):=by
  refine x_ Tryz.func207 rfl rfl Tryz.ntmps207 rfl fun v0=>?_
  refine Zi 8 (fun hr1=>?_) fun hr1=>?_
  · skip
    refine Zi 8 (fun hr2=>?_) fun hr2=>?_
    · skip
      refine Zz 11 ?_
      exact S_ pu_ () (g_ rfl (by subst_vars;rw[Bool.eq_iff_iff];simp[dd_]<;>omega)) (.refl _) zt
    · skip
      refine Zz 5 ?_
      refine O_ (dH_ rfl rfl) rfl fun r3 hr3=>Zz 7 ?_
      exact S_ pu_ () (g_ rfl (by subst_vars;rw[Bool.eq_iff_iff];simp[dd_]<;>omega)) (.refl _) zt
  · skip
    refine Zi 4 (fun hr4=>?_) fun hr4=>?_
    · skip
      refine Zi 5 (fun hr5=>?_) fun hr5=>?_
      · skip
        refine Zz 11 ?_
        exact S_ pu_ () (g_ rfl (by subst_vars;rw[Bool.eq_iff_iff];simp[dd_]<;>omega)) (.refl _) zt
      · skip
        refine Zz 5 ?_
        refine O_ (dH_ rfl rfl) rfl fun r6 hr6=>Zz 7 ?_
        exact S_ pu_ () (g_ rfl (by subst_vars;rw[Bool.eq_iff_iff];simp[dd_]<;>omega)) (.refl _) zt
    · skip
      refine Zz 13 ?_
      exact S_ pu_ () (g_ rfl (by subst_vars;rw[Bool.eq_iff_iff];simp[dd_]<;>omega)) (.refl _) zt
theorem nz_ (c:UInt8) :
    Fn0 Tryz.prog 199 #[.int .u8 (c.toNat:Int)] (.bool (du_ c)):=by
  refine x_ Tryz.func199 rfl rfl Tryz.ntmps199 rfl fun v0=>?_
  refine Zz 8 ?_
  refine ae_ (mb_ _) rfl (.refl _) zt rfl fun r1 hr1=>Zz 1 ?_
  cases r1
  · skip
    refine Zi 3 (fun hr2=>?_) fun hr2=>?_
    · skip
      refine Zz 11 ?_
      refine O_ (bR_ rfl rfl) rfl fun r3 hr3=>Zz 5 ?_
      exact S_ Tryz.results199 () (g_ rfl (by subst_vars;rw[Bool.eq_iff_iff];simp[du_, *]<;>omega)) (.refl _) zt
    · skip
      refine Zi 5 (fun hr4=>?_) fun hr4=>?_
      · skip
        refine Zz 7 ?_
        refine O_ (bR_ rfl rfl) rfl fun r5 hr5=>Zz 5 ?_
        exact S_ Tryz.results199 () (g_ rfl (by subst_vars;rw[Bool.eq_iff_iff];simp[du_, *]<;>omega)) (.refl _) zt
      · skip
        refine Zz 11 ?_
        exact S_ Tryz.results199 () (g_ rfl (by subst_vars;rw[Bool.eq_iff_iff];simp[du_, *]<;>omega)) (.refl _) zt
  · skip
    refine Zz 15 ?_
    exact S_ Tryz.results199 () (g_ rfl (by subst_vars;rw[Bool.eq_iff_iff];simp[du_, *]<;>omega)) (.refl _) zt
theorem oL_ (s:Str) :
    Fn0 Tryz.prog 208 #[str s] (.bool (aG_ s)):=by
  refine x_ Tryz.func208 rfl rfl Tryz.ntmps208 rfl fun v0=>?_
  refine Zi 15 (fun hr1=>?_) fun hr1=>?_
  · skip
    refine Zi 6 (fun hr2=>?_) fun hr2=>?_
    · skip
      refine Zi 6 (fun hr3=>?_) fun hr3=>?_
      · skip
        refine Zi 6 (fun hr4=>?_) fun hr4=>?_
        · skip
          refine Zi 6 (fun hr5=>?_) fun hr5=>?_
          · skip
            refine Zi 6 (fun hr6=>?_) fun hr6=>?_
            · skip
              refine Zi 6 (fun hr7=>?_) fun hr7=>?_
              · skip
                refine Zi 6 (fun hr8=>?_) fun hr8=>?_
                · skip
                  refine Zi 6 (fun hr9=>?_) fun hr9=>?_
                  · skip
                    refine Zi 6 (fun hr10=>?_) fun hr10=>?_
                    · skip
                      refine Zi 6 (fun hr11=>?_) fun hr11=>?_
                      · skip
                        refine Zi 6 (fun hr12=>?_) fun hr12=>?_
                        · skip
                          refine Zi 6 (fun hr13=>?_) fun hr13=>?_
                          · skip
                            refine Zi 6 (fun hr14=>?_) fun hr14=>?_
                            · skip
                              refine Zi 6 (fun hr15=>?_) fun hr15=>?_
                              · skip
                                refine Zi 6 (fun hr16=>?_) fun hr16=>?_
                                · skip
                                  refine Zi 6 (fun hr17=>?_) fun hr17=>?_
                                  · skip
                                    refine Zi 6 (fun hr18=>?_) fun hr18=>?_
                                    · skip
                                      refine Zi 6 (fun hr19=>?_) fun hr19=>?_
                                      · skip
                                        refine Zi 6 (fun hr20=>?_) fun hr20=>?_
                                        · skip
                                          refine Zi 6 (fun hr21=>?_) fun hr21=>?_
                                          · skip
                                            refine Zi 5 (fun hr22=>?_) fun hr22=>?_
                                            · skip
                                              refine Zz 12 ?_
                                              exact S_ aU_ () (g_ rfl (by simp[aG_,kws, *])) (.refl _) zt
                                            · skip
                                              refine Zz 10 ?_
                                              exact S_ aU_ () (g_ rfl (by simp[aG_,kws, *])) (.refl _) zt
                                          · skip
                                            refine Zz 13 ?_
                                            exact S_ aU_ () (g_ rfl (by simp[aG_,kws, *])) (.refl _) zt
                                        · skip
                                          refine Zz 13 ?_
                                          exact S_ aU_ () (g_ rfl (by simp[aG_,kws, *])) (.refl _) zt
                                      · skip
                                        refine Zz 13 ?_
                                        exact S_ aU_ () (g_ rfl (by simp[aG_,kws, *])) (.refl _) zt
                                    · skip
                                      refine Zz 13 ?_
                                      exact S_ aU_ () (g_ rfl (by simp[aG_,kws, *])) (.refl _) zt
                                  · skip
                                    refine Zz 13 ?_
                                    exact S_ aU_ () (g_ rfl (by simp[aG_,kws, *])) (.refl _) zt
                                · skip
                                  refine Zz 13 ?_
                                  exact S_ aU_ () (g_ rfl (by simp[aG_,kws, *])) (.refl _) zt
                              · skip
                                refine Zz 13 ?_
                                exact S_ aU_ () (g_ rfl (by simp[aG_,kws, *])) (.refl _) zt
                            · skip
                              refine Zz 13 ?_
                              exact S_ aU_ () (g_ rfl (by simp[aG_,kws, *])) (.refl _) zt
                          · skip
                            refine Zz 13 ?_
                            exact S_ aU_ () (g_ rfl (by simp[aG_,kws, *])) (.refl _) zt
                        · skip
                          refine Zz 13 ?_
                          exact S_ aU_ () (g_ rfl (by simp[aG_,kws, *])) (.refl _) zt
                      · skip
                        refine Zz 13 ?_
                        exact S_ aU_ () (g_ rfl (by simp[aG_,kws, *])) (.refl _) zt
                    · skip
                      refine Zz 13 ?_
                      exact S_ aU_ () (g_ rfl (by simp[aG_,kws, *])) (.refl _) zt
                  · skip
                    refine Zz 13 ?_
                    exact S_ aU_ () (g_ rfl (by simp[aG_,kws, *])) (.refl _) zt
                · skip
                  refine Zz 13 ?_
                  exact S_ aU_ () (g_ rfl (by simp[aG_,kws, *])) (.refl _) zt
              · skip
                refine Zz 13 ?_
                exact S_ aU_ () (g_ rfl (by simp[aG_,kws, *])) (.refl _) zt
            · skip
              refine Zz 13 ?_
              exact S_ aU_ () (g_ rfl (by simp[aG_,kws, *])) (.refl _) zt
          · skip
            refine Zz 13 ?_
            exact S_ aU_ () (g_ rfl (by simp[aG_,kws, *])) (.refl _) zt
        · skip
          refine Zz 13 ?_
          exact S_ aU_ () (g_ rfl (by simp[aG_,kws, *])) (.refl _) zt
      · skip
        refine Zz 13 ?_
        exact S_ aU_ () (g_ rfl (by simp[aG_,kws, *])) (.refl _) zt
    · skip
      refine Zz 13 ?_
      exact S_ aU_ () (g_ rfl (by simp[aG_,kws, *])) (.refl _) zt
  · skip
    refine Zz 13 ?_
    exact S_ aU_ () (g_ rfl (by simp[aG_,kws, *])) (.refl _) zt
theorem mH_ (s:Str) (hs:s.length≤140737488351232) :
    Fn0 Tryz.prog 198 #[str s] (.bool (fr_ s)):=by
  refine x_ Tryz.func198 rfl rfl Tryz.ntmps198 rfl fun v0=>?_
  refine Zz 9 ?_
  refine i_ (bG_ C_ rfl) rfl ?_
  refine Zi 0 (fun hr1=>?_) fun hr1=>?_
  · skip
    obtain⟨c,t,es⟩:=List.exists_cons_of_length_pos (l:=s) (by omega)
    refine Zz 4 ?_
    refine i_ (by_ C_ rfl rfl (by decide) (show s[(0:Int).toNat]? = some c by rw[es];rfl)) rfl ?_
    refine aw_ rfl rfl (ae_ (mb_ _) rfl (.refl _) zt rfl fun r2 hr2=>aw_ rfl rfl (i_ (bC_ rfl) rfl (Zz 2 ?_)))
    cases r2
    · skip
      refine Zz 12 ?_
      exact S_ pw_ () (g_ rfl (by simp_all [fr_])) (.refl _) zt
    · skip
      refine Zz 3 ?_
      refine ae_ (oL_ _) rfl (.refl _) zt rfl fun r3 hr3=>Zz 3 ?_
      cases r3
      · skip
        have hw:s≠[]∧dd_ (s.headD 0)=true:=by subst es;simp_all
        refine Zz 10 ?_
        refine cR_ [(0,str s),(3,.int .i64 ((0:Nat):Int))] zl ?_
        refine dy_ (ι:={k:Nat // k≤s.length∧(s.take k).all du_=true}) (fun i=>[(0,str s),(3,.int .i64 (i.1:Int))]) (fun _=>_) (fun _=>_) (fun i=>s.length - i.1) ⟨0,by simp⟩ ?_
        rintro ⟨k,hk⟩
        refine cR_ [(0,str s),(3,.int .i64 (k:Int))] zl ?_
        refine Zz 5 ?_
        refine i_ (bG_ C_ rfl) rfl ?_
        refine Zi 0 (fun hr4=>?_) fun hr4=>?_
        · skip
          refine Zz 11 ?_
          exact S_ pw_ () (g_ rfl (by have:=hc_ du_ s k (by omega) hk.2;simp_all [fr_,hz_])) (.refl _) zt
        · skip
          have hlt:k<s.length:=by omega
          obtain⟨c,hc⟩:∃ c,s[k]? = some c:=⟨_,List.getElem?_eq_getElem hlt⟩
          refine Zz 11 ?_
          refine i_ (by_ C_ rfl rfl (by omega) hc) rfl (ae_ (nz_ _) rfl (.refl _) zt rfl fun r5 hr5=>i_ (bC_ rfl) rfl (Zz 2 ?_))
          cases r5
          · skip
            refine Zz 7 ?_
            exact S_ pw_ () (g_ rfl (by have:=fI_ du_ s k c hc (by simp[*]);simp_all [fr_,hz_])) (.refl _) zt
          · skip
            refine Zz 9 ?_
            exact u_ ⟨k+1,hlt,eu_ _ s k c hc hk.2 (by simp[*])⟩ (by simp;omega) zl (.refl _) zh
      · skip
        refine Zz 7 ?_
        exact S_ pw_ () (g_ rfl (by simp_all [fr_])) (.refl _) zt
  · skip
    have he:s=[]:=List.eq_nil_of_length_eq_zero (by omega)
    refine Zz 19 ?_
    exact S_ pw_ () (g_ rfl (by simp_all [fr_])) (.refl _) zt
theorem rM_ (s:Str) :
    Fn0 Tryz.prog 189 #[str s] (.bool (dt_ s)):=by
  refine x_ Tryz.func189 rfl rfl Tryz.ntmps189 rfl fun v0=>?_
  refine Zz 9 ?_
  refine i_ (bG_ C_ rfl) rfl ?_
  refine Zi 0 (fun hr1=>?_) fun hr1=>?_
  · skip
    refine Zz 12 ?_
    refine cR_ [(0,str s),(3,.int .i64 ((0:Nat):Int))] zl ?_
    refine dy_ (ι:={k:Nat // k≤s.length∧ixS 58 (s.take k)=none}) (fun i=>[(0,str s),(3,.int .i64 (i.1:Int))]) (fun _=>_) (fun _=>_) (fun i=>s.length - i.1) ⟨0,by simp[ixS]⟩ ?_
    rintro ⟨k,hk⟩
    refine cR_ [(0,str s),(3,.int .i64 (k:Int))] zl ?_
    refine Zz 5 ?_
    refine i_ (bG_ C_ rfl) rfl ?_
    refine Zi 0 (fun hr2=>?_) fun hr2=>?_
    · skip
      refine Zz 8 ?_
      refine ae_ (mH_ _ (by first|omega|(simp;omega))) rfl (.refl _) zt rfl fun r3 hr3=>?_
      refine Zz 4 ?_
      exact S_ Tryz.results189 () (g_ rfl (by rw[dt_,sC_ s k (by omega) hk.2];simp_all<;>omega)) (.refl _) zt
    · skip
      have hlt:k<s.length:=by omega
      obtain⟨c,hc⟩:∃ c,s[k]? = some c:=⟨_,List.getElem?_eq_getElem hlt⟩
      refine Zz 11 ?_
      refine i_ (by_ C_ rfl rfl (by omega) hc) rfl ?_
      refine Zi 0 (fun hr4=>?_) fun hr4=>?_
      · skip
        refine Zz 11 ?_
        exact u_ ⟨k+1,hlt,nZ_ s k c hc hk.2 (by intro e;subst e;simp_all)⟩ (by simp;omega) zl (.refl _) zh
      · skip
        obtain rfl:c=58:=UInt8.toNat_inj.1 (by show c.toNat=58;omega)
        refine Zz 7 ?_
        refine i_ (dB_ (i:=0) (j:=k) (kl:=.i64) C_ rfl rfl rfl (by omega) (by omega)) rfl (ae_ (mH_ _ (by first|omega|(simp;omega))) rfl (.refl _) zt rfl fun r5 hr5=>?_)
        refine Zz 1 ?_
        cases r5
        · skip
          refine Zz 10 ?_
          exact S_ Tryz.results189 () (g_ rfl (by rw[dt_,oZ_ s k hc hk.2];simp_all [List.take_of_length_le]<;>omega)) (.refl _) zt
        · skip
          refine Zz 7 ?_
          refine i_ (dB_ (i:=k+1) (j:=s.length) (kh:=.i64) C_ rfl rfl rfl (by omega) (by omega)) rfl (aw_ rfl rfl (ae_ (mH_ _ (by first|omega|(simp;omega))) rfl (.refl _) zt rfl fun r6 hr6=>?_))
          refine Zz 5 ?_
          exact S_ Tryz.results189 () (g_ rfl (by rw[dt_,oZ_ s k hc hk.2];simp_all [List.take_of_length_le]<;>omega)) (.refl _) zt
  · skip
    refine Zz 9 ?_
    exact S_ Tryz.results189 () (g_ rfl (by simp[dt_]<;>omega)) (.refl _) zt
theorem nA_ (s:Str) :
    Fn0 Tryz.prog 190 #[str s] (.bool (ce_ s)):=by
  refine x_ Tryz.func190 rfl rfl Tryz.ntmps190 rfl fun v0=>?_
  refine Zz 9 ?_
  refine i_ (bG_ C_ rfl) rfl ?_
  refine Zi 0 (fun hr1=>?_) fun hr1=>?_
  · skip
    refine Zz 4 ?_
    refine i_ (bG_ C_ rfl) rfl (aw_ rfl rfl ?_)
    refine Zi 0 (fun hr2=>?_) fun hr2=>?_
    · skip
      obtain⟨c,t,es⟩:=List.exists_cons_of_length_pos (l:=s) (by omega)
      refine Zz 5 ?_
      refine i_ (by_ C_ rfl rfl (by decide) (show s[(0:Int).toNat]? = some c by rw[es];rfl)) rfl ?_
      refine aw_ rfl rfl ?_
      refine Zi 0 (fun hr3=>?_) fun hr3=>?_
      · skip
        have hq:c.toNat=95:=by omega
        refine Zz 13 ?_
        refine cR_ [(0,str s),(3,.int .i64 ((1:Nat):Int))] zl ?_
        refine dy_ (ι:={k:Nat // k≤s.length∧(s.take k).all du_=true}) (fun i=>[(0,str s),(3,.int .i64 (i.1:Int))]) (fun _=>_) (fun _=>_) (fun i=>s.length - i.1) ⟨1,by omega,by subst es;simp[du_,hq]⟩ ?_
        rintro ⟨k,hk⟩
        refine cR_ [(0,str s),(3,.int .i64 (k:Int))] zl ?_
        refine Zz 5 ?_
        refine i_ (bG_ C_ rfl) rfl ?_
        refine Zi 0 (fun hr4=>?_) fun hr4=>?_
        · skip
          refine Zz 11 ?_
          exact S_ px_ () (g_ rfl (by have:=hc_ du_ s k (by omega) hk.2;subst es;simp[ce_,hz_,this,hq]<;>simp at*<;> omega)) (.refl _) zt
        · skip
          have hlt:k<s.length:=by omega
          obtain⟨c,hc⟩:∃ c,s[k]? = some c:=⟨_,List.getElem?_eq_getElem hlt⟩
          refine Zz 11 ?_
          refine i_ (by_ C_ rfl rfl (by omega) hc) rfl (ae_ (nz_ _) rfl (.refl _) zt rfl fun r5 hr5=>i_ (bC_ rfl) rfl (Zz 2 ?_))
          cases r5
          · skip
            refine Zz 7 ?_
            exact S_ px_ () (g_ rfl (by have:=fI_ du_ s k c hc (by simp[*]);simp[ce_,hz_,this])) (.refl _) zt
          · skip
            refine Zz 9 ?_
            exact u_ ⟨k+1,hlt,eu_ _ s k c hc hk.2 (by simp[*])⟩ (by simp;omega) zl (.refl _) zh
      · skip
        refine Zz 10 ?_
        exact S_ px_ () (g_ rfl (by first|(simp[ce_]<;>omega)|(subst es;simp[ce_]<;>omega))) (.refl _) zt
    · skip
      refine Zz 15 ?_
      exact S_ px_ () (g_ rfl (by first|(simp[ce_]<;>omega)|(subst es;simp[ce_]<;>omega))) (.refl _) zt
  · skip
    refine Zz 19 ?_
    exact S_ px_ () (g_ rfl (by first|(simp[ce_]<;>omega)|(subst es;simp[ce_]<;>omega))) (.refl _) zt
theorem qi_ (s:Str) :
    Fn0 Tryz.prog 175 #[str s] (.bool (aN_ s)):=by
  refine x_ Tryz.func175 rfl rfl Tryz.ntmps175 rfl fun v0=>?_
  refine Zz 8 ?_
  refine ae_ (rM_ _) rfl (.refl _) zt rfl fun r1 hr1=>Zz 1 ?_
  cases r1
  · skip
    refine Zz 3 ?_
    refine ae_ (nA_ _) rfl (.refl _) zt rfl fun r2 hr2=>Zz 5 ?_
    exact S_ Tryz.results175 () (g_ rfl (by simp[aN_, *])) (.refl _) zt
  · skip
    refine Zz 7 ?_
    exact S_ Tryz.results175 () (g_ rfl (by simp[aN_, *])) (.refl _) zt
theorem em_ (s:Str) :
    Fn0 Tryz.prog 149 #[str s] (.int .i64 (if aN_ s then 0 else 20)):=by
  refine x_ Tryz.func149 rfl rfl Tryz.ntmps149 rfl fun v0=>?_
  refine Zz 9 ?_
  refine ae_ (qi_ _) rfl (.refl _) zt rfl fun r1 hr1=>i_ (bC_ rfl) rfl (Zz 2 ?_)
  cases r1
  · skip
    refine Zz 7 ?_
    exact S_ Tryz.results149 () (ca_ rfl (by simp[*])) (.refl _) zt
  · skip
    refine Zz 9 ?_
    exact S_ Tryz.results149 () (ca_ rfl (by simp[*])) (.refl _) zt
end Go.Proofs.YtkeanlfhghlgiaaGreatDoor
namespace Go.Vs
open Go Go.Sx
theorem pp_ {s:Str} (h:fr_ s=true):∃ c t,s=c::t∧dd_ c=true∧hz_ s=true:=by
  cases s with
  | nil=>simp[fr_]at h
  | cons c t =>
    simp only[fr_,Bool.and_eq_true]at h
    exact⟨c,t,rfl,h.1.1.2,h.1.2⟩
theorem oN_ {s:Str} (h:dt_ s=true):∃ c t,s=c::t∧dd_ c=true:=by
  unfold dt_ at h
  simp only[Bool.and_eq_true]at h
  cases hx:ixS 58 s with
  | none=>rw[hx]at h;obtain⟨c,t,h1,h2,_⟩:=pp_ h.2;exact⟨c,t,h1,h2⟩
  | some k =>
    rw[hx]at h
    simp only[Bool.and_eq_true]at h
    obtain⟨c,t,h1,h2,_⟩:=pp_ h.2.1
    cases s with
    | nil=>simp at h1
    | cons d u =>
      cases k with
      | zero=>simp at h1
      | succ k=>simp only[List.take_succ_cons,List.cons.injEq]at h1;exact⟨d,u,rfl,h1.1▸h2⟩
namespace Con
end Con
end Go.Vs
namespace Go.Sx
open Go
section
variable {P:Program} {N:Nf} {fr:Fr} {H:Hp} {Γ:List Fct}
theorem ox_:∀ (x y:List UInt8),Op.bytesLess x y=decide (x<y)
  | [],[]=>by simp[Op.bytesLess]
  | _::_,[]=>by simp[Op.bytesLess]
  | [],_::_=>by simp[Op.bytesLess]
  | a::x,b::y=>by
    rw[Op.bytesLess,ox_ x y]
    simp only[List.cons_lt_cons_iff]
    by_cases h1:a<b<;>by_cases h2:a=b<;>by_cases h3:x<y<;>simp[h1,h2,h3]
theorem gA_ {t t' ty:TypeId} {x y:Operand} {m n:List UInt8} (hx:Fr.ev fr x=some (str m)) (hy:Fr.ev fr y=some (str n)):Yld P N fr H Γ (.binOp .lss t x y t') ty (.bool (decide (m<n))) :=
  fun a v h1 _ _ _ _ _=>by rw[← ox_];simp[execOp,h1.ev hx,h1.ev hy,str,eqGuard,binOp,Op.stringOp]
theorem kC_ {f:FuncId} {args:Array Value} {r:Value} {g:Nat} {cur:Array Value} {T:TypeId} {d:Array (List UInt8)} (hc:eB_ P f)
    (h:∀ v:Vw,v.sat [(g,.cells cur T (0,0))]→Calls P f args v.w fun e w'=>e=.returned r∧∃ n os,w'=Sort.grow (Sort.putRow Go.Proofs.encStr (Sort.ahead v.w n) g 0 d) os) :
    Tri P f args [(g,.cells cur T (0,0))] Γ (fun _:Unit=>r) (fun _=>[(g,.cells (Sort.putCells Go.Proofs.encStr 0 d cur) T (0,0))]) (fun _=>[]) :=
  ⟨hc,fun v h1 _=>(h v h1).mono fun e w' ⟨he,n,os,hw⟩=>by
    have hg:=(h1.own _ List.mem_cons_self)
    have hlt:g<v.w.heap.size:=(Array.getElem?_eq_some_iff.1 hg.1).1
    have hb:∀ b,b<v.w.heap.size→w'.heap[b]? = if b=g then some (.cells (Sort.putCells Go.Proofs.encStr 0 d cur) T (0,0)) else v.w.heap[b]? := fun b hb=>by
      rw[hw]
      simp only[Sort.grow,Sort.putRow,Sort.mapBlock,Sort.ahead]
      rw[Array.getElem?_append_left (by simpa using hb),Array.getElem?_modify]
      by_cases e:b=g
      · subst e
        simp only[if_true,hg.1,Option.map_some,Sort.onCells]
      · rw[if_neg (fun q=>e q.symm),if_neg e]
    have hsz:v.w.heap.size≤w'.heap.size:=by rw[hw];simp[Sort.grow,Sort.putRow,Sort.mapBlock,Sort.ahead]
    refine⟨(),⟨v.im,w',v.sl⟩,he,rfl,⟨fun p hp=>?_,by simp,fun b hbb=>Nat.lt_of_lt_of_le (h1.lt b hbb) hsz⟩,trivial,⟨by rw[hw];rfl,by rw[hw];rfl,by rw[hw];rfl,hsz,fun b hbb hn=>?_,fun _ h=>h,fun _ h=>.inl h,fun b hm=>.inl (by simpa using hm),rfl,.inr (by rw[hw];exact Nat.le_add_right _ _)⟩⟩
    · simp only[List.mem_singleton]at hp
      subst hp
      exact⟨by show w'.heap[g]? = _;rw[hb g hlt,if_pos rfl],hg.2⟩
    · have hn':b≠g:=by simpa using hn
      show w'.heap[b]? = _
      rw[hb b hbb,if_neg hn']⟩
theorem nC_ {cur:Array Value} {d:List (List UInt8)} (hs:d.length≤cur.size):(Sort.putCells Go.Proofs.encStr 0 d.toArray cur).toList.take d.length=d.flatMap aL_:=by
 rw[iM_]
 apply List.ext_getElem?
 intro j
 rw[List.getElem?_take,List.getElem?_map]
 split
 ·rename_i hj
  simp only[Sort.putCells,Array.getElem?_toList,Array.getElem?_mapIdx]
  rw[Array.getElem?_eq_getElem (by omega)]
  simp only[Option.map_some,Nat.zero_le,true_and,Nat.zero_add,List.size_toArray,hj,if_true,Nat.sub_zero]
  rw[List.getElem?_eq_getElem hj]
  simp only[Option.map_some]
  rw[getElem!_pos d.toArray j (by simpa using hj)]
  rfl
 rename_i hj
 rw[List.getElem?_eq_none (by omega)];rfl
theorem nD_ {cur:Array Value} {d:Array (List UInt8)}:(Sort.putCells Go.Proofs.encStr 0 d cur).size=cur.size:=by simp[Sort.putCells]
end
end Go.Sx
namespace Go.Vs
open Go Go.Sx
def hT_ (p:Pc):List Str:=[p.a,p.b,p.c].filter fun s=>!(s==[])
def cD_ (l:List Pc):List Str:=l.flatMap hT_
def dY_ (l:List Pc):List Str:=Lib.compact ((cD_ l).mergeSort fun x y=>decide (x≤y))
theorem iC_:∀ l:List Pc,(cD_ l).length≤3*l.length
  | []=>by simp[cD_]
  | p::r=>by
    have h1:=iC_ r
    have h2:(hT_ p).length≤3:=by unfold hT_;exact List.length_filter_le _ _
    simp only[cD_,List.flatMap_cons,List.length_append,List.length_cons]at h1 ⊢
    omega
theorem nt_ (l:List Str):(l.mergeSort fun x y=>decide (x≤y)).Pairwise fun x y=>x≤y:=by
  have h:=List.pairwise_mergeSort (le:=fun x y:Str=>decide (x≤y)) (fun a b c h1 h2=>by simp only[decide_eq_true_eq]at *;exact List.le_trans h1 h2) (fun a b=>by
    simp only[Bool.or_eq_true,decide_eq_true_eq];exact List.le_total a b) l
  exact h.imp (fun h=>of_decide_eq_true h)
theorem hQ_ {zs:List Str}:Lib.compact zs=((List.range zs.length).filter fun j=>decide (j=0∨zs[j]! ≠ zs[j - 1]!)).map fun j=>zs[j]! := by
 unfold Lib.compact Lib.compactUpTo Lib.keeps
 have e:∀ j,zs.toArray[j]! = zs[j]! := fun j=>by
   by_cases h:j<zs.length
   · rw[getElem!_pos zs.toArray j (by simpa using h),getElem!_pos zs j h];simp
   · rw[getElem!_neg zs.toArray j (by simpa using h),getElem!_neg zs j h]
 rw[List.map_congr_left fun j _=>e j]
 congr 2
 funext j
 rw[e,e]
theorem hP_ (zs:List Str):(Lib.compact zs).length≤zs.length:=by
  rw[hQ_,List.length_map]
  have:=List.length_filter_le (fun j=>decide (j=0∨zs[j]! ≠ zs[j - 1]!)) (List.range zs.length)
  simpa using this
theorem jR_ {zs:List Str} (x:Str):x∈Lib.compact zs↔x∈zs:=by
 rw[hQ_,List.mem_map]
 constructor
 ·rintro ⟨j,hj,rfl⟩
  have hl:=List.mem_range.1 (List.mem_filter.1 hj).1
  rw[getElem!_pos zs j hl]
  exact List.getElem_mem hl
 intro hx
 obtain⟨j,hj,e⟩:=List.mem_iff_getElem.1 hx
 clear hx
 induction j with
 | zero=>exact⟨0,List.mem_filter.2 ⟨List.mem_range.2 hj,by simp⟩,by rw[getElem!_pos zs 0 hj];exact e⟩
 | succ j ih =>
   by_cases h:zs[j+1]! = zs[j]!
   · have hj':j<zs.length:=by omega
     refine ih hj' ?_
     rw[getElem!_pos zs (j+1) hj,getElem!_pos zs j hj']at h
     rw[← h];exact e
   · exact⟨j+1,List.mem_filter.2 ⟨List.mem_range.2 hj,decide_eq_true (.inr h)⟩,by rw[getElem!_pos zs (j+1) hj];exact e⟩
theorem lv_ {zs:List Str} (hs:zs.Pairwise fun x y=>x≤y):(Lib.compact zs).Pairwise fun x y=>x<y:=by
 rw[hQ_,List.pairwise_map]
 have hr:(List.range zs.length).Pairwise (·<·):=List.pairwise_lt_range
 have hf:=hr.filter (fun j=>decide (j=0∨zs[j]! ≠ zs[j - 1]!))
 refine List.Pairwise.imp_of_mem ?_ hf
 intro j k hj hk hlt
 have hkl:=List.mem_range.1 (List.mem_filter.1 hk).1
 have hkk:=(List.mem_filter.1 hk).2
 simp only[decide_eq_true_eq]at hkk
 have hne:zs[k]! ≠ zs[k - 1]! := by
   rcases hkk with h|h
   · omega
   · exact h
 have hle:∀ a b,a≤b→b<zs.length→zs[a]! ≤ zs[b]! := by
   intro a b hab hb
   rcases Nat.lt_or_eq_of_le hab with h|h
   · rw[getElem!_pos zs a (by omega),getElem!_pos zs b hb]
     exact List.pairwise_iff_getElem.1 hs a b (by omega) hb h
   · subst h;exact List.le_refl _
 have h1:=hle j (k - 1) (by omega) (by omega)
 have h2:=hle (k - 1) k (by omega) hkl
 have h3:zs[k - 1]! < zs[k]! := by
   apply Decidable.byContradiction
   intro h
   exact hne (List.le_antisymm (List.not_lt.1 h) h2)
 exact List.lt_of_le_of_lt h1 h3
theorem eh_ (l:List Pc) (x:Str):x∈dY_ l↔x∈cD_ l:=by
  unfold dY_
  rw[jR_,List.mem_mergeSort]
theorem qU_ (l:List Pc):(dY_ l).Pairwise fun x y=>x<y:=lv_ (nt_ _)
theorem fm_ (l:List Pc):(dY_ l).length≤3*l.length:=by
  have h1:=hP_ ((cD_ l).mergeSort fun x y=>decide (x≤y))
  rw[List.length_mergeSort]at h1
  have h2:=iC_ l
  unfold dY_
  omega
end Go.Vs
namespace Go.Proofs.YtkeanlfhghlgiaaGreatDoor
open Go Go.Sx Go.Proofs
attribute [local irreducible] Code.wp wpList wpAnyH
open Go.Vs
theorem lI_:Elt Tryz.prog 36 9 1 16:=mw_ lR_ (z:=.string ⟨#[]⟩) (by kernel_rfl) rfl (by decide)
theorem mp_ {g n cap:Nat} {cur:Array Value} {xs:List Str} {v:Vw} (hs:v.sat [(g,.cells cur 9 (0,0))]) (ht:cur.toList.take (xs.length*1)=xs.flatMap aL_):Sort.Holds encStr v.w g 0 xs.toArray:=by
 intro j hj
 have hb:=(hs.own _ List.mem_cons_self).1
 simp only[List.size_toArray]at hj
 have hc:cur[j]? = some (str xs[j]):=qa_ ht j xs[j] (List.getElem?_eq_getElem hj)
 refine⟨?_,?_⟩
 ·simp only[World.cell?,Nat.zero_add,hb,Option.isSome_none,Bool.false_eq_true,if_false]
  rw[hc,getElem!_pos xs.toArray j (by simpa using hj)]
  rfl
 simp[World.frozen?,hb]
theorem ps_ {sv:Value} {xs:List Str} {Hr:Hp} (h:aO_ 9 1 sv xs.length (xs.flatMap aL_) Hr) (hl:xs.length≤1000000000000) :
    Tri Tryz.prog 86 #[sv] Hr [] (fun _:{y:Hp // aO_ 9 1 sv xs.length ((xs.mergeSort fun x y=>decide (x≤y)).flatMap aL_) y}=>.tuple #[]) (fun y=>y.1) (fun _=>[]):=by
  rcases h.2 with⟨rfl,h2,rfl⟩|⟨g,cap,cur,rfl,rfl,h3,h4,h5,h6⟩
  · obtain rfl:xs=[]:=List.eq_nil_of_length_eq_zero h2
    have T:=eP_ (P:=Tryz.prog) (H:=[]) (Γ:=[]) (callable Tryz.func86 rfl rfl) (fun v _ _=>(Tryz.slices_Sort_string_none none 0 v.w).mono (by rintro e w' ⟨rfl,rfl⟩;exact⟨rfl,⟨rfl,rfl,rfl,Nat.le_refl _,fun _ _=>rfl⟩,.inr (Nat.le_refl _)⟩))
    exact⟨T.callable,fun v a b=>(T.run v a b).mono (by rintro e w' ⟨x,v',e1,e2,e3,e4,e5⟩;exact⟨⟨[],by simpa using aO_.nil _ _⟩,v',e1,e2,e3,e4,e5⟩)⟩
  · have T:=kC_ (P:=Tryz.prog) (Γ:=[]) (d:=(xs.mergeSort fun x y=>decide (x≤y)).toArray) (callable Tryz.func86 rfl rfl) (fun v hs=>Tryz.slices_Sort_string g 0 cap xs v.w (mp_ (n:=0) (cap:=0) hs h6) (Array.getElem?_eq_some_iff.1 (hs.own _ List.mem_cons_self).1).1 (by omega))
    have hsz:(xs.mergeSort fun x y=>decide (x≤y)).length=xs.length:=List.length_mergeSort _
    refine⟨T.callable,fun v a b=>(T.run v a b).mono ?_⟩
    rintro e w' ⟨x,v',e1,e2,e3,e4,e5⟩
    refine⟨⟨_,by rw[bk_ aL_ 1 as_,hsz],.inr ⟨g,cap,_,rfl,rfl,h3,h4,by rw[nD_];exact h5,?_⟩⟩,v',e1,e2,e3,e4,e5⟩
    have:=nC_ (cur:=cur) (d:=xs.mergeSort fun x y=>decide (x≤y)) (by rw[hsz,h5];omega)
    rw[hsz]at this
    rw[Nat.mul_one];exact this
theorem lw_ {sv:Value} {xs:List Str} {Hr:Hp} (h:aO_ 9 1 sv xs.length (xs.flatMap aL_) Hr) (hl:xs.length≤1000000000000) :
    Tri Tryz.prog 87 #[sv] Hr [] (fun y:{y:Value×Hp // aO_ 9 1 y.1 (Lib.compact xs).length ((Lib.compact xs).flatMap aL_) y.2}=>y.1.1) (fun y=>y.1.2) (fun _=>[]):=by
  rcases h.2 with⟨rfl,h2,rfl⟩|⟨g,cap,cur,rfl,rfl,h3,h4,h5,h6⟩
  · obtain rfl:xs=[]:=List.eq_nil_of_length_eq_zero h2
    have T:=eP_ (P:=Tryz.prog) (H:=[]) (Γ:=[]) (callable Tryz.func87 rfl rfl) (fun v _ _=>(Tryz.slices_Compact_string_empty none 0 v.w).mono (by rintro e w' ⟨rfl,rfl⟩;exact⟨rfl,⟨rfl,rfl,rfl,Nat.le_refl _,fun _ _=>rfl⟩,.inr (Nat.le_refl _)⟩))
    exact⟨T.callable,fun v a b=>(T.run v a b).mono (by rintro e w' ⟨x,v',e1,e2,e3,e4,e5⟩;exact⟨⟨(.slice none 0 0,[]),by simpa [Lib.compact,Lib.compactUpTo] using aO_.nil _ _⟩,v',e1,e2,e3,e4,e5⟩)⟩
  · have hcl:=hP_ xs
    have T:=kC_ (P:=Tryz.prog) (Γ:=[]) (r:=.slice (some ⟨g,0,none⟩) (Lib.compact xs).length cap) (d:=(Lib.compact xs++List.replicate (xs.length - (Lib.compact xs).length) []).toArray) (callable Tryz.func87 rfl rfl) (fun v hs=>(Tryz.slices_Compact_string g 0 cap xs v.w (mp_ (n:=0) (cap:=0) hs h6) (by omega) h3).mono (by
      rintro e w' ⟨rfl,q,rfl⟩
      exact⟨rfl,q,#[],by rw[Sort.grow_empty]⟩))
    refine⟨T.callable,fun v a b=>(T.run v a b).mono ?_⟩
    rintro e w' ⟨x,v',e1,e2,e3,e4,e5⟩
    refine⟨⟨(.slice (some ⟨g,0,none⟩) (Lib.compact xs).length cap,_),by rw[bk_ aL_ 1 as_],.inr ⟨g,cap,_,rfl,rfl,by omega,h4,by rw[nD_];exact h5,?_⟩⟩,v',e1,e2,e3,e4,e5⟩
    have hd:(Lib.compact xs++List.replicate (xs.length - (Lib.compact xs).length) ([]:Str)).length=xs.length:=by simp;omega
    have:=nC_ (cur:=cur) (d:=Lib.compact xs++List.replicate (xs.length - (Lib.compact xs).length) []) (by rw[hd,h5];omega)
    rw[hd]at this
    have h7:=congrArg (List.take (Lib.compact xs).length) this
    rw[List.take_take,Nat.min_eq_left hcl,List.flatMap_append,List.take_append_of_le_length (by rw[bk_ aL_ 1 as_];omega),List.take_of_length_le (l:=(Lib.compact xs).flatMap aL_) (by rw[bk_ aL_ 1 as_];omega)]at h7
    rw[Nat.mul_one];exact h7
theorem uu_ (l:List Pc) (ad:Option Addr) (cap:Nat) (hl:l.length≤100000000000):Tri Tryz.prog 48 #[.slice ad (List.length l) cap] [] [af_ ad (List.flatMap Pc.cells l)] (fun y:{y:Option Addr×Nat // (dY_ l).length≤y.2∧y.2≤maxLen}=>.slice y.1.1 (dY_ l).length y.1.2) (fun _=>[]) (fun y=>[af_ y.1.1 ((dY_ l).flatMap aL_)]):=by
 refine x_ Tryz.func48 rfl rfl Tryz.ntmps48 rfl fun v0=>?_
 refine Zz 14 ?_
 refine cR_ [(2,.slice none 0 0),(7,.slice ad (List.length l) cap),(8,.int .i64 (List.length l:Int)),(9,.int .i64 ((0:Nat):Int))] zl ?_
 refine dy_ (ι:={y:Nat×Value×Hp // y.1≤l.length∧aO_ 9 1 y.2.1 (cD_ (l.take y.1)).length ((cD_ (l.take y.1)).flatMap aL_) y.2.2}) (fun y=>[(2,y.1.2.1),(7,.slice ad (List.length l) cap),(8,.int .i64 (List.length l:Int)),(9,.int .i64 (y.1.1:Int))]) (fun y=>y.1.2.2) (fun _=>_) (fun y=>l.length - y.1.1) ⟨(0,.slice none 0 0,[]),by simp,aO_.nil _ _⟩ ?_
 rintro ⟨⟨i,sv,Hr⟩,hi,hrow⟩
 dsimp only at hi hrow
 dsimp only
 have hol:=iC_ (l.take i)
 rw[List.length_take]at hol
 refine cR_ [(2,sv),(7,.slice ad (List.length l) cap),(8,.int .i64 (List.length l:Int)),(9,.int .i64 (i:Int))] zl ?_
 refine Zi 2 (fun hr1=>?_) fun hr1=>?_
 ·refine Zz 7 ?_
  have et:l.take i=l:=List.take_of_length_le (by omega)
  rw[et]at hrow hol
  refine Zz 2 ?_
  refine o_ (ps_ hrow (by omega)) rfl aD_ zt rfl fun⟨Hs,hs⟩=>?_
  dsimp only
  refine y_ (List.Perm.symm aD_) ?_
  have hs2:aO_ 9 1 sv ((cD_ l).mergeSort fun x y=>decide (x≤y)).length (((cD_ l).mergeSort fun x y=>decide (x≤y)).flatMap aL_) Hs:=by rw[List.length_mergeSort];exact hs
  refine Zz 5 ?_
  refine o_ (lw_ hs2 (by rw[List.length_mergeSort];omega)) rfl aD_ zt rfl fun⟨⟨sc,Hc⟩,hc⟩=>?_
  dsimp only
  refine y_ (List.Perm.symm aD_) (Zz 4 ?_)
  refine lb_ hc aD_ fun ad2 cp2 hsv hc1 hc2=>?_
  exact S_ Tryz.results48 ⟨(ad2,cp2),hc1,hc2⟩ (bZ_ rfl hsv) j_ zf
 obtain⟨hlx1,x1,hx1,hmx1⟩:=zge (show i<List.length l by omega)
 refine Zz 12 ?_
 refine J_ aH_ rfl fun b1=>w_ 0 W_ rfl rfl rfl rfl rfl rfl (Zz 10 ?_)
 refine N_ G_ E_ aT_ rfl rfl rfl rfl rfl rfl fun b2=>?_
 refine ar_ (List.flatMap aL_ [x1.a,x1.b,x1.c]) d_ rfl ?_
 refine Zz 5 ?_
 refine cR_ [(2,sv),(7,.slice ad (List.length l) cap),(8,.int .i64 (List.length l:Int)),(9,.int .i64 (i:Int)),(19,.slice (some ⟨b2,0,none⟩) (List.length [x1.a,x1.b,x1.c]) 3),(20,.int .i64 3),(21,.int .i64 ((0:Nat):Int))] zl ?_
 refine dy_ (ι:={y:Nat×Value×Hp // y.1≤3∧aO_ 9 1 y.2.1 (cD_ (l.take i)++(List.take y.1 [x1.a,x1.b,x1.c]).filter fun s=>!(s==[])).length ((cD_ (l.take i)++(List.take y.1 [x1.a,x1.b,x1.c]).filter fun s=>!(s==[])).flatMap aL_) y.2.2}) (fun y=>[(2,y.1.2.1),(7,.slice ad (List.length l) cap),(8,.int .i64 (List.length l:Int)),(9,.int .i64 (i:Int)),(19,.slice (some ⟨b2,0,none⟩) (List.length [x1.a,x1.b,x1.c]) 3),(20,.int .i64 3),(21,.int .i64 (y.1.1:Int))]) (fun y=>_:: y.1.2.2) (fun _=>_) (fun y=>3 - y.1.1) ⟨(0,sv,Hr),by simp,by simpa using hrow⟩ ?_
 rintro ⟨⟨k,sw,Hw⟩,hk,hkr⟩
 dsimp only at hk hkr
 dsimp only
 have hfl:((cD_ (l.take i)++(List.take k [x1.a,x1.b,x1.c]).filter fun s=>!(s==[]))).length≤(cD_ (l.take i)).length+3:=by
   have:=List.length_filter_le (fun s=>!(s==[])) (List.take k [x1.a,x1.b,x1.c])
   simp only[List.length_append,List.length_take,List.length_cons,List.length_nil]at this ⊢
   omega
 refine cR_ [(2,sw),(7,.slice ad (List.length l) cap),(8,.int .i64 (List.length l:Int)),(9,.int .i64 (i:Int)),(19,.slice (some ⟨b2,0,none⟩) (List.length [x1.a,x1.b,x1.c]) 3),(20,.int .i64 3),(21,.int .i64 (k:Int))] zl ?_
 refine Zi 2 (fun hr2=>?_) fun hr2=>?_
 ·refine Zz 11 ?_
  have hst:cD_ (l.take (i+1))=cD_ (l.take i)++hT_ x1:=by unfold cD_;rw[List.take_add_one,hx1,List.flatMap_append];simp
  exact u_ ⟨(i+1,sw,Hw),hlx1,by dsimp only;rw[hst];have:=hkr;rw[List.take_of_length_le (show [x1.a,x1.b,x1.c].length≤k by simp;omega)]at this;exact this⟩ (by dsimp only;omega) zl (c_ aD_) (fun _ _ h=>h.2)
 have hly1:k<List.length [x1.a,x1.b,x1.c]:=by simp;omega
 obtain⟨y1,hy1⟩:∃ e0,[x1.a,x1.b,x1.c][k]? = some e0:=⟨_,List.getElem?_eq_getElem hly1⟩
 have hmy1:y1∈[x1.a,x1.b,x1.c]:=List.mem_of_getElem? hy1
 refine Zz 11 ?_
 refine i_ (aM_ (ad:=(some ⟨b2,0,none⟩)) V_ rfl zf (H_ as_ hy1 0 _ rfl)) rfl (Zi 6 (fun hr3=>?_) fun hr3=>?_)
 ·refine Zz 10 ?_
  have hst:(cD_ (l.take i)++(List.take (k+1) [x1.a,x1.b,x1.c]).filter fun s=>!(s==[]))=(cD_ (l.take i)++(List.take k [x1.a,x1.b,x1.c]).filter fun s=>!(s==[]))++[y1].filter (fun s=>!(s==[])):=by rw[List.append_assoc,← List.filter_append,List.take_add_one,hy1];simp
  rw[show [y1].filter (fun s=>!(s==[]))=[] by simp[*],List.append_nil]at hst
  exact u_ ⟨(k+1,sw,Hw),by dsimp only;omega,by dsimp only;rw[hst];exact hkr⟩ (by dsimp only;omega) zl zp zh
 refine Zz 6 ?_
 refine N_ G_ E_ aT_ rfl rfl rfl rfl rfl rfl fun b3=>?_
 refine ap_ (news:=[str y1]) lI_ hkr rfl rfl zp rfl (bA_ 0 rfl) (kj_ rfl) (by simp only[maxLen];omega) (by omega) rfl fun sv2 Hr2 hrow2=>?_
 refine y_ (@List.perm_append_comm _ _ [_,_]) (Zz 8 ?_)
 have hst:(cD_ (l.take i)++(List.take (k+1) [x1.a,x1.b,x1.c]).filter fun s=>!(s==[]))=(cD_ (l.take i)++(List.take k [x1.a,x1.b,x1.c]).filter fun s=>!(s==[]))++[y1].filter (fun s=>!(s==[])):=by rw[List.append_assoc,← List.filter_append,List.take_add_one,hy1];simp
 rw[show [y1].filter (fun s=>!(s==[]))=[y1] by simp[*]]at hst
 exact u_ ⟨(k+1,sv2,Hr2),by dsimp only;omega,by dsimp only;rw[hst];rw[List.length_append (bs:=[y1]),List.flatMap_append (ys:=[y1])];exact hrow2⟩ (by dsimp only;omega) zl (f_ (c_ d_) (c_ aD_)) zh
end Go.Proofs.YtkeanlfhghlgiaaGreatDoor
namespace Go.Sx
open Go
section
variable {P:Program} {N:Nf} {v0:Vw} {H0:Hp} {R:Exit→Act→World→Prop} {K:List Kt} {fr:Fr} {H:Hp} {Γ:List Fct}
variable {ops:Array Oper} {l:List Oper} {d:Nat} {ty:TypeId} {ps:String} {af:Array Edge}
end
end Go.Sx
namespace Go.Vs
open Go Go.Sx
def Cov (hs:List Bool) (L S:List Str):Prop:=hs.length=L.length∧∀ (n:Nat) (s:Str),L[n]? = some s→s∈S→hs[n]? = some true
theorem Cov.nil (L:List Str):Cov (List.replicate L.length false) L []:=⟨by simp,fun _ _ _ h=>by simp at h⟩
theorem Cov.set {hs:List Bool} {L S:List Str} (h:Cov hs L S) (n:Nat):Cov (hs.set n true) L S:=⟨by rw[List.length_set];exact h.1,fun m s h1 h2=>by
 have h3:=h.2 m s h1 h2
 rw[List.getElem?_set]
 split
 ·rename_i e
  subst e
  rw[if_pos (List.getElem?_eq_some_iff.1 h3).1]
 exact h3⟩
def lM_ (hs:List Bool) (L S:List Str) (y:Str) (n:Nat):Prop:=Cov hs L S∧∀ m,m<n→L[m]? = some y→hs[m]? = some true
theorem lM_.zero {hs:List Bool} {L S:List Str} {y:Str} (h:Cov hs L S):lM_ hs L S y 0:=⟨h,fun _ h=>by omega⟩
theorem lM_.hit {hs:List Bool} {L S:List Str} {y:Str} {n:Nat} (h:lM_ hs L S y n) (hn:n<L.length):lM_ (hs.set n true) L S y (n+1):=⟨h.1.set n,fun m hm e=>by
 rw[List.getElem?_set]
 split
 ·rename_i e
  rw[if_pos (by rw[h.1.1];omega)]
 rename_i e2
 exact h.2 m (by omega) e⟩
theorem lM_.miss {hs:List Bool} {L S:List Str} {y z:Str} {n:Nat} (h:lM_ hs L S y n) (hz:L[n]? = some z) (hne:z≠y):lM_ hs L S y (n+1):=⟨h.1,fun m hm e=>by
 by_cases e2:m=n
 ·subst e2
  rw[hz,Option.some.injEq]at e
  exact absurd e hne
 exact h.2 m (by omega) e⟩
theorem lM_.done {hs:List Bool} {L S:List Str} {y:Str} {n:Nat} (h:lM_ hs L S y n) (hn:L.length≤n):Cov hs L (S++[y]):=⟨h.1.1,fun m s h1 h2=>by
 rcases List.mem_append.1 h2 with h2|h2
 ·exact h.1.2 m s h1 h2
 simp only[List.mem_singleton]at h2
 subst h2
 have:=(List.getElem?_eq_some_iff.1 h1).1
 exact h.2 m (by omega) h1⟩
def three (p:Pc):List Str:=[p.a,p.b,p.c]
theorem Cov.all {hs:List Bool} {l:List Pc} (h:Cov hs (dY_ l) (l.flatMap three)) {n:Nat} (hn:n<(dY_ l).length):hs[n]? = some true:=by
  have hm:=(eh_ l _).1 (List.getElem_mem hn)
  refine h.2 n _ (List.getElem?_eq_getElem hn) ?_
  simp only[cD_,List.mem_flatMap,hT_,List.mem_filter]at hm
  obtain⟨p,h1,h2⟩:=hm
  exact List.mem_flatMap.2 ⟨p,h1,h2.1⟩
theorem qT_ {l:List Pc} {s:Str} (h:s∈dY_ l):s≠[]:=by
  have hm:=(eh_ l _).1 h
  simp only[cD_,List.mem_flatMap,hT_,List.mem_filter]at hm
  obtain⟨p,h1,h2⟩:=hm
  simpa using h2.2
end Go.Vs
namespace Go.Vs
open Go Go.Sx
theorem pz_ (s:Str):((if aN_ s then (0:Int) else 20)==0)=aN_ s:=by cases aN_ s<;>rfl
theorem uJ_ (s:Str):((if aN_ s then (0:Int) else 20) != 0)=!aN_ s:=by cases aN_ s<;>rfl
-- valid pieces,kind by kind
section
variable {a b c r s t:Str} {lo hi f:Int}
theorem vp_no (k:Int) (hk:k≠1∧k≠2∧k≠3∧k≠4∧k≠5∧k≠6∧k≠7∧k≠8∧k≠9):Pc.valid ⟨k,a,b,c,r,s,t,lo,hi,f⟩=false:=by
  unfold Pc.valid
  rw[if_pos (by dsimp only;omega)]
theorem ha_ (k:Int) (u:NUse) (hu:nus k=u) (h1:¬(k<1∨9<k∨f < -1∨1024≤f)):Pc.valid ⟨k,a,b,c,r,s,t,lo,hi,f⟩=true ↔
    ((u.numbers=true→-1099511627776≤lo∧lo≤hi∧hi≤1099511627776)∧(u.numbers=false→lo=0∧hi=0))∧(((((cm_ u.a a aQ_=true∧cm_ u.b b aQ_=true)∧cm_ u.c c aQ_=true)∧cm_ u.r r (if u.numbers then aN_ else bX_)=true)∧cm_ u.s s bX_=true)∧cm_ u.t t bX_=true):=by
  unfold Pc.valid
  dsimp only
  rw[if_neg h1,hu]
  by_cases h2:u.numbers=true∧(lo < -1099511627776∨hi<lo∨1099511627776<hi)
  · rw[if_pos h2]
    constructor
    · intro h;cases h
    · rintro ⟨⟨q,_⟩,_⟩
      have:=q h2.1
      omega
  · rw[if_neg h2]
    by_cases h3:u.numbers=false∧(lo≠0∨hi≠0)
    · rw[if_pos h3]
      constructor
      · intro h;cases h
      · rintro ⟨⟨_,q⟩,_⟩
        have:=q h3.1
        omega
    · rw[if_neg h3]
      simp only[Bool.and_eq_true]
      constructor
      · intro h
        refine⟨⟨fun q=>?_,fun q=>?_⟩,h⟩
        · have:¬ (lo < -1099511627776∨hi<lo∨1099511627776<hi):=fun e=>h2 ⟨q,e⟩
          omega
        · have:¬ (lo≠0∨hi≠0):=fun e=>h3 ⟨q,e⟩
          omega
      · exact fun h=>h.2
theorem jb_ (s:Str) (q:Str→Bool):(cm_ true s q=true)=(q s=true):=by simp[cm_]
theorem jc_ (s:Str) (q:Str→Bool):(cm_ false s q=true)=(s=[]):=by simp[cm_]
end
-- atoms
def fh_ (s:Str):Bool :=
  (s==[42]||s==[33])||aN_ s||(decide (3≤s.length)&&((decide (s[0]? = some 123)&&decide (s[s.length - 1]? = some 125)&&aN_ ((s.drop 1).take (s.length - 1 - 1)))||(decide (s[0]? = some 60)&&decide (s[s.length - 1]? = some 62))))
theorem nI_ {s:Str} (h:aN_ s=true):∃ c t,s=c::t∧(dd_ c=true∨c.toNat=95):=by
 unfold aN_ at h
 rw[Bool.or_eq_true]at h
 rcases h with h|h
 ·obtain⟨c,t,e,h2⟩:=oN_ h
  exact⟨c,t,e,.inl h2⟩
 unfold ce_ at h
 simp only[Bool.and_eq_true,decide_eq_true_eq]at h
 cases s with
 | nil=>simp at h
 | cons c t=>exact⟨c,t,rfl,.inr (by simpa using h.1.2)⟩
theorem qn_ {s:Str} {c:UInt8} (h0:s[0]? = some c) (h:c=123∨c=60):aN_ s=false:=by
  cases hp:aN_ s with
  | false=>rfl
  | true =>
    obtain⟨d,t,rfl,h2⟩:=nI_ hp
    simp only[List.getElem?_cons_zero,Option.some.injEq]at h0
    subst h0
    rcases h with rfl|rfl<;>simp[dd_]at h2
theorem ef_ (s:Str):fh_ s=aQ_ s:=by
 unfold fh_ aQ_
 by_cases h1:s=[42]∨s=[33]
 ·rw[if_pos h1]
  rcases h1 with rfl|rfl<;>rfl
 rw[if_neg h1]
 have e1:(s==[42]||s==[33])=false:=by
   rw[Bool.or_eq_false_iff]
   exact⟨beq_eq_false_iff_ne.2 fun e=>h1 (.inl e),beq_eq_false_iff_ne.2 fun e=>h1 (.inr e)⟩
 rw[e1,Bool.false_or]
 by_cases h2:s[0]? = some 123
 ·have hp:=qn_ h2 (.inl rfl)
  rw[hp,Bool.false_or]
  by_cases h3:s[s.length - 1]? = some 125
  ·by_cases hl:2≤s.length
   ·rw[if_pos ⟨hl,h2,h3⟩]
    by_cases h4:3≤s.length
    ·simp[h2,h3,h4]
    have:s.length=2:=by omega
    have hq:aN_ (List.take (s.length - 1 - 1) (List.drop 1 s))=false:=by rw[this];rfl
    rw[hq];simp[h4]
   rw[if_neg (by simp[hl]),if_neg (by simp;omega)]
   simp[show ¬ 3≤s.length by omega]
  rw[if_neg (by simp[h3]),if_neg (by simp[h2])]
  simp[h2,h3]
 rw[if_neg (by simp[h2])]
 by_cases h5:3≤s.length∧s[0]? = some 60∧s[s.length - 1]? = some 62
 ·rw[if_pos h5]
  simp[h5.1,h5.2.1,h5.2.2]
 rw[if_neg h5]
 have:(decide (3≤s.length)&&((decide (s[0]? = some 123)&&decide (s[s.length - 1]? = some 125)&&aN_ ((s.drop 1).take (s.length - 1 - 1)))||(decide (s[0]? = some 60)&&decide (s[s.length - 1]? = some 62))))=false:=by
   rw[show decide (s[0]? = some 123)=false from decide_eq_false h2]
   simp only[Bool.false_and,Bool.false_or]
   rw[Bool.eq_false_iff]
   intro h
   simp only[Bool.and_eq_true,decide_eq_true_eq]at h
   exact h5 ⟨h.1,h.2.1,h.2.2⟩
 rw[this,Bool.or_false]
-- roles
structure RInv (s:Str) (a i:Nat) (dn:List Str):Prop where
  le:a≤i
  il:i≤s.length
  no:ixS 46 ((s.drop a).take (i - a))=none
  sp:bM_ 46 s=dn++bM_ 46 (s.drop a)
  al:dn.all aN_=true
structure REnd (s:Str) (i:Nat) (dn:List Str):Prop where
  il:i=s.length+1
  sp:bM_ 46 s=dn
  al:dn.all aN_=true
def iu_ (s:Str) (a i:Nat):Str:=(s.drop a).take (i - a)
theorem RInv.start (s:Str):RInv s 0 0 []:=⟨Nat.le_refl _,Nat.zero_le _,by simp[ixS],by simp,rfl⟩
theorem RInv.len {s:Str} {a i:Nat} {dn:List Str} (h:RInv s a i dn):dn.length≤s.length+1:=by
  have h1:=ee_ 46 s
  have h2:=kq_ 46 s
  rw[h.sp,List.length_append]at h1
  omega
theorem REnd.len {s:Str} {i:Nat} {dn:List Str} (h:REnd s i dn):dn.length≤s.length+1:=by
  have h1:=ee_ 46 s
  have h2:=kq_ 46 s
  rw[h.sp]at h1
  omega
theorem RInv.next {s:Str} {a i:Nat} {dn:List Str} {c:UInt8} (h:RInv s a i dn) (hc:s[i]? = some c) (hne:c≠46):RInv s a (i+1) dn:=by
  have hi:=(List.getElem?_eq_some_iff.1 hc).1
  have hle:=h.le
  refine⟨by omega,by omega,?_,h.sp,h.al⟩
  rw[show i+1 - a=(i - a)+1 by omega]
  exact nZ_ (s.drop a) (i - a) c (by rw[List.getElem?_drop,show a+(i - a)=i by omega];exact hc) h.no hne
theorem RInv.dot {s:Str} {a i:Nat} {dn:List Str} (h:RInv s a i dn) (hc:s[i]? = some 46):bM_ 46 s=dn++iu_ s a i::bM_ 46 (s.drop (i+1)):=by
  have hle:=h.le
  have h2:=oZ_ (s.drop a) (i - a) (by rw[List.getElem?_drop,show a+(i - a)=i by omega];exact hc) h.no
  rw[h.sp,go_ h2,List.drop_drop,show a+(i - a+1)=i+1 by omega]
  rfl
theorem RInv.fin {s:Str} {a i:Nat} {dn:List Str} (h:RInv s a i dn) (hi:¬ i<s.length):bM_ 46 s=dn++[iu_ s a i]:=by
  have hle:=h.le
  have hil:=h.il
  have e:(s.drop a).take (i - a)=s.drop a:=List.take_of_length_le (by rw[List.length_drop];omega)
  have hn:=h.no
  rw[e]at hn
  rw[h.sp,gp_ hn,iu_,e]
theorem RInv.dotN {s:Str} {a i:Nat} {dn:List Str} (h:RInv s a i dn) (hc:s[i]? = some 46) (hp:aN_ (iu_ s a i)=true):RInv s (i+1) (i+1) (dn++[iu_ s a i]):=by
  have hi:=(List.getElem?_eq_some_iff.1 hc).1
  refine⟨Nat.le_refl _,by omega,by simp[ixS],by rw[h.dot hc];simp,by simp[h.al,hp]⟩
theorem RInv.finN {s:Str} {a i:Nat} {dn:List Str} (h:RInv s a i dn) (hi:¬ i<s.length) (hp:aN_ (iu_ s a i)=true):REnd s (i+1) (dn++[iu_ s a i]):=by
  have hil:=h.il
  exact⟨by omega,h.fin hi,by simp[h.al,hp]⟩
theorem nv_ {s:Str} {x:Str} (hm:x∈bM_ 46 s) (hp:aN_ x=false):bX_ s=false:=by
  unfold bX_
  rw[show (bM_ 46 s).any (fun r=>!aN_ r)=true from List.any_eq_true.2 ⟨x,hm,by simp[hp]⟩]
  simp
theorem REnd.role {s:Str} {i:Nat} {dn:List Str} (h:REnd s i dn):bX_ s=decide ((dn.length:Int)≤4):=by
  unfold bX_
  rw[h.sp]
  have:dn.any (fun r=>!aN_ r)=false:=by
    rw[List.any_eq_false]
    intro x hx
    have:=List.all_eq_true.1 h.al x hx
    simp[this]
  rw[this]
  simp
  omega
-- sorted insertion
def kS (l:List Str) (s:Str):Nat:=(l.takeWhile fun x=>decide (x<s)).length
theorem nX_ {s:Str}:∀ {l:List Str} {k:Nat},k≤l.length→(∀ x∈l.take k,x<s)→(∀ x,l[k]? = some x→¬ x<s)→kS l s=k
  | [],k,h1,_,_=>by simp at h1;simp[kS,h1]
  | y::r,0,_,_,h3=>by
    have:=h3 y rfl
    unfold kS
    rw[List.takeWhile_cons_of_neg (by simpa using this)]
    rfl
  | y::r,k+1,h1,h2,h3=>by
    have hy:y<s:=h2 y (by simp)
    have ih:=nX_ (l:=r) (k:=k) (by simpa using h1) (fun x hx=>h2 x (by simp[hx])) (fun x hx=>h3 x (by simpa using hx))
    unfold kS at ih ⊢
    rw[List.takeWhile_cons_of_pos (by simpa using hy),List.length_cons,ih]
def bl_ (l:List Str) (s:Str):List Str:=if s=[]∨l[kS l s]? = some s then l else l.take (kS l s)++[s]++l.drop (kS l s)
theorem kS_le (l:List Str) (s:Str):kS l s≤l.length:=(List.takeWhile_sublist _).length_le
theorem fc_ (l:List Str) (s:Str):(bl_ l s).length≤l.length+1:=by
 have:=kS_le l s
 unfold bl_
 split
 ·omega
 simp only[List.length_append,List.length_take,List.length_cons,List.length_nil,List.length_drop]
 omega
theorem hX_ {l:List Str} {s x:Str}:x∈bl_ l s↔x∈l∨(x=s∧s≠[]):=by
 unfold bl_
 split
 ·rename_i h
  constructor
  ·exact .inl
  rintro (h2|⟨rfl,h2⟩)
  ·exact h2
  rcases h with h|h
  ·exact absurd h h2
  exact List.mem_of_getElem? h
 rename_i h
 simp only[not_or]at h
 have e:x∈l↔x∈l.take (kS l s)∨x∈l.drop (kS l s):=by
   rw[← List.mem_append,List.take_append_drop]
 rw[e]
 simp only[List.mem_append,List.mem_singleton]
 constructor
 ·rintro ((h1|h1)|h1)
  ·exact .inl (.inl h1)
  ·exact .inr ⟨h1,h1▸h.1⟩
  exact .inl (.inr h1)
 rintro ((h1|h1)|h1)
 ·exact .inl (.inl h1)
 ·exact .inr h1
 exact .inl (.inr h1.1)
theorem ri_ {s:Str}:∀ (l:List Str),∀ x∈l.take (kS l s),x<s:=by
 intro l x hx
 have e:l.take (kS l s)=l.takeWhile fun x=>decide (x<s):=by
   unfold kS
   exact (List.prefix_iff_eq_take.1 (List.takeWhile_prefix _)).symm
 rw[e]at hx
 induction l with
 | nil=>simp at hx
 | cons y r ih =>
   by_cases hy:y<s
   · rw[List.takeWhile_cons_of_pos (by simpa using hy)]at hx
     rcases List.mem_cons.1 hx with rfl|hx
     · exact hy
     · refine ih hx ?_
       unfold kS
       exact (List.prefix_iff_eq_take.1 (List.takeWhile_prefix _)).symm
   · rw[List.takeWhile_cons_of_neg (by simpa using hy)]at hx
     simp at hx
theorem pq_ {s:Str}:∀ (l:List Str) (x:Str),l[kS l s]? = some x→¬ x<s
 | [],x,h=>by simp at h
 | y::r,x,h=>by
   unfold kS at h
   by_cases hy:y<s
   · rw[List.takeWhile_cons_of_pos (by simpa using hy),List.length_cons,List.getElem?_cons_succ]at h
     exact pq_ r x h
   · rw[List.takeWhile_cons_of_neg (by simpa using hy)]at h
     simp only[List.length_nil,List.getElem?_cons_zero,Option.some.injEq]at h
     subst h
     exact hy
theorem iJ_ {l:List Str} {s:Str} (h:l.Pairwise fun x y=>x<y):(bl_ l s).Pairwise fun x y=>x<y:=by
 unfold bl_
 split
 ·exact h
 rename_i hn
 simp only[not_or]at hn
 have hd:∀ y∈l.drop (kS l s),s<y:=by
   intro y hy
   obtain⟨j,hj,rfl⟩:=List.mem_iff_getElem.1 hy
   rw[List.getElem_drop]
   rw[List.length_drop]at hj
   have hk:kS l s<l.length:=by omega
   have h0:=pq_ l _ (List.getElem?_eq_getElem hk)
   have h1:s<l[kS l s]:=by
     apply Decidable.byContradiction
     intro q
     apply hn.2
     rw[List.getElem?_eq_getElem hk,Option.some.injEq]
     exact List.le_antisymm (List.not_lt.1 q) (List.not_lt.1 h0)
   rcases Nat.eq_zero_or_pos j with rfl|hp
   · exact h1
   · exact List.lt_trans h1 (List.pairwise_iff_getElem.1 h _ _ hk (by omega) (by omega))
 rw[List.pairwise_append,List.pairwise_append]
 refine⟨⟨h.sublist (List.take_sublist _ _),List.pairwise_singleton _ _,fun x hx y hy=>?_⟩,h.sublist (List.drop_sublist _ _),fun x hx y hy=>?_⟩
 ·rw[List.mem_singleton]at hy
  subst hy
  exact ri_ l x hx
 rcases List.mem_append.1 hx with hx|hx
 ·exact List.lt_trans (ri_ l x hx) (hd y hy)
 rw[List.mem_singleton]at hx
 subst hx
 exact hd y hy
def cu_ (l:List Pc):List Str:=l.foldl (fun L p=>bl_ (bl_ (bl_ L p.a) p.b) p.c) []
theorem oy_ {l:List Pc} {i:Nat} {p:Pc} (h:l[i]? = some p):cu_ (l.take (i+1))=bl_ (bl_ (bl_ (cu_ (l.take i)) p.a) p.b) p.c:=by
  rw[List.take_add_one,h,Option.toList_some]
  simp[cu_,List.foldl_append]
theorem iD_:∀ (l:List Pc) (L:List Str),L.Pairwise (fun x y=>x<y)→(l.foldl (fun L p=>bl_ (bl_ (bl_ L p.a) p.b) p.c) L).Pairwise (fun x y=>x<y)∧(∀ x,x∈l.foldl (fun L p=>bl_ (bl_ (bl_ L p.a) p.b) p.c) L↔x∈L∨x∈cD_ l)∧(l.foldl (fun L p=>bl_ (bl_ (bl_ L p.a) p.b) p.c) L).length≤L.length+3*l.length
 | [],L,h=>⟨h,fun x=>by simp[cD_],by simp⟩
 | p::r,L,h=>by
   obtain⟨h1,h2,h3⟩:=iD_ r (bl_ (bl_ (bl_ L p.a) p.b) p.c) (iJ_ (iJ_ (iJ_ h)))
   refine⟨h1,fun x=>?_,?_⟩
   · rw[List.foldl_cons,h2,hX_,hX_,hX_]
     simp only[cD_,List.flatMap_cons,List.mem_append,hT_,List.mem_filter,List.mem_cons,List.not_mem_nil,or_false]
     constructor
     · rintro ((((h|⟨rfl,h⟩)|⟨rfl,h⟩)|⟨rfl,h⟩)|h)
       · exact .inl h
       · exact .inr (.inl ⟨.inl rfl,by simpa using h⟩)
       · exact .inr (.inl ⟨.inr (.inl rfl),by simpa using h⟩)
       · exact .inr (.inl ⟨.inr (.inr rfl),by simpa using h⟩)
       · exact .inr (.inr h)
     · rintro (h|⟨h,h5⟩|h)
       · exact .inl (.inl (.inl (.inl h)))
       · have h6:x≠[]:=by simpa using h5
         rcases h with rfl|rfl|rfl
         · exact .inl (.inl (.inl (.inr ⟨rfl,h6⟩)))
         · exact .inl (.inl (.inr ⟨rfl,h6⟩))
         · exact .inl (.inr ⟨rfl,h6⟩)
       · exact .inr h
   · rw[List.foldl_cons]
     have a1:=fc_ L p.a
     have a2:=fc_ (bl_ L p.a) p.b
     have a3:=fc_ (bl_ (bl_ L p.a) p.b) p.c
     simp only[List.length_cons]
     omega
theorem lY_:∀ {l m:List Str},l.Pairwise (fun x y=>x<y)→m.Pairwise (fun x y=>x<y)→(∀ x,x∈l↔x∈m)→l=m
 | [],[],_,_,_=>rfl
 | [],y::m,_,_,h=>by have:=(h y).2 (by simp);simp at this
 | x::l,[],_,_,h=>by have:=(h x).1 (by simp);simp at this
 | x::l,y::m,h1,h2,h=>by
   rw[List.pairwise_cons]at h1 h2
   have e:x=y:=by
     have hx:=(h x).1 (by simp)
     have hy:=(h y).2 (by simp)
     rcases List.mem_cons.1 hx with e|hx
     · exact e
     rcases List.mem_cons.1 hy with e|hy
     · exact e.symm
     exact absurd (List.lt_trans (h1.1 y hy) (h2.1 x hx)) (List.lt_irrefl _)
   subst e
   congr 1
   refine lY_ h1.2 h2.2 fun z=>?_
   have hz:=h z
   simp only[List.mem_cons]at hz
   constructor
   · intro q
     rcases hz.1 (.inr q) with e|e
     · subst e
       exact absurd (h1.1 z q) (List.lt_irrefl _)
     · exact e
   · intro q
     rcases hz.2 (.inr q) with e|e
     · subst e
       exact absurd (h2.1 z q) (List.lt_irrefl _)
     · exact e
theorem ji_ (l:List Pc):dY_ l=cu_ l:=by
  obtain⟨h1,h2,_⟩:=iD_ l [] List.Pairwise.nil
  refine lY_ (qU_ l) h1 fun x=>?_
  have:=h2 x
  rw[eh_]
  simp only[List.not_mem_nil,false_or]at this
  exact this.symm
theorem hs_ (l:List Pc):(cu_ l).length≤3*l.length:=by
  have:=(iD_ l [] List.Pairwise.nil).2.2
  simpa [cu_] using this
end Go.Vs
namespace Go.Proofs.YtkeanlfhghlgiaaGreatDoor
open Go Go.Sx Go.Proofs
attribute [local irreducible] Code.wp wpList wpAnyH
open Go.Vs
theorem eU_ (s:Str) (hs:s.length≤140737488351232):Fn0 Tryz.prog 147 #[str s] (.bool (aQ_ s)):=by
 refine x_ Tryz.func147 rfl rfl Tryz.ntmps147 rfl fun v0=>?_
 refine Zz 8 ?_
 refine i_ (bG_ C_ rfl) rfl (Zi 7 (fun hr1=>?_) fun hr1=>?_)
 ·refine Zi 4 (fun hr2=>?_) fun hr2=>?_
  ·refine Zz 5 ?_
   refine o_ (em_ _) rfl j_ zt rfl fun _=>aw_ rfl rfl (O_ (aR_ (bR_ rfl rfl) (congrArg Value.bool (pz_ _))) rfl fun r3 hr3=>Zz 3 ?_)
   cases r3
   ·refine Zi 7 (fun hr4=>?_) fun hr4=>?_
    ·obtain⟨c,hc⟩:∃ c,s[0]? = some c:=⟨_,List.getElem?_eq_getElem (by omega)⟩
     obtain⟨e,he⟩:∃ e,s[s.length - 1]? = some e:=⟨_,List.getElem?_eq_getElem (by omega)⟩
     have hc123 : (s[0]? = some 123) ↔ ((c.toNat : Int) = 123) := by
                               rw[hc];simp only[Option.some.injEq];exact⟨fun q=>by subst q;rfl,fun q=>UInt8.toNat_inj.1 (by show c.toNat=123;omega)⟩
     have he125 : (s[s.length - 1]? = some 125) ↔ ((e.toNat : Int) = 125) := by
                               rw[he];simp only[Option.some.injEq];exact⟨fun q=>by subst q;rfl,fun q=>UInt8.toNat_inj.1 (by show e.toNat=125;omega)⟩
     have hc60 : (s[0]? = some 60) ↔ ((c.toNat : Int) = 60) := by
                               rw[hc];simp only[Option.some.injEq];exact⟨fun q=>by subst q;rfl,fun q=>UInt8.toNat_inj.1 (by show c.toNat=60;omega)⟩
     have he62 : (s[s.length - 1]? = some 62) ↔ ((e.toNat : Int) = 62) := by
                               rw[he];simp only[Option.some.injEq];exact⟨fun q=>by subst q;rfl,fun q=>UInt8.toNat_inj.1 (by show e.toNat=62;omega)⟩
     refine Zz 8 ?_
     refine i_ (by_ C_ rfl rfl (by decide) hc) rfl ?_
     refine Zi 0 (fun hr5=>?_) fun hr5=>?_
     ·refine Zz 19 ?_
      refine i_ (by_ C_ rfl rfl (by decide) hc) rfl (aw_ rfl rfl ?_)
      refine Zi 0 (fun hr6=>?_) fun hr6=>?_
      ·refine Zz 14 ?_
       exact S_ dp_ () (g_ rfl (by rw[← ef_];unfold fh_;first|(simp only[hc123,he125,hc60,he62];subst_vars;rw[Bool.eq_iff_iff];simp[*]<;>omega)|(simp_all;done)|(simp_all;omega))) (.refl _) zt
      refine Zz 9 ?_
      refine i_ (by_ C_ rfl rfl (by omega) (show s[((s.length:Int) - 1).toNat]? = some e by rw[show ((s.length:Int) - 1).toNat=s.length - 1 by omega];exact he)) rfl ?_
      refine aw_ rfl rfl (O_ (bR_ rfl rfl) rfl fun r7 hr7=>Zz 7 ?_)
      exact S_ dp_ () (g_ rfl (by rw[← ef_];unfold fh_;first|(simp only[hc123,he125,hc60,he62];subst_vars;rw[Bool.eq_iff_iff];simp[*]<;>omega)|(simp_all;done)|(simp_all;omega))) (.refl _) zt
     refine Zz 8 ?_
     refine i_ (by_ C_ rfl rfl (by omega) (show s[((s.length:Int) - 1).toNat]? = some e by rw[show ((s.length:Int) - 1).toNat=s.length - 1 by omega];exact he)) rfl ?_
     refine aw_ rfl rfl ?_
     refine Zi 0 (fun hr8=>?_) fun hr8=>?_
     ·refine Zz 13 ?_
      refine i_ (by_ C_ rfl rfl (by decide) hc) rfl (aw_ rfl rfl ?_)
      refine Zi 0 (fun hr9=>?_) fun hr9=>?_
      ·refine Zz 14 ?_
       exact S_ dp_ () (g_ rfl (by rw[← ef_];unfold fh_;first|(simp only[hc123,he125,hc60,he62];subst_vars;rw[Bool.eq_iff_iff];simp[*]<;>omega)|(simp_all;done)|(simp_all;omega))) (.refl _) zt
      refine Zz 9 ?_
      refine i_ (by_ C_ rfl rfl (by omega) (show s[((s.length:Int) - 1).toNat]? = some e by rw[show ((s.length:Int) - 1).toNat=s.length - 1 by omega];exact he)) rfl ?_
      refine aw_ rfl rfl (O_ (bR_ rfl rfl) rfl fun r10 hr10=>Zz 7 ?_)
      exact S_ dp_ () (g_ rfl (by rw[← ef_];unfold fh_;first|(simp only[hc123,he125,hc60,he62];subst_vars;rw[Bool.eq_iff_iff];simp[*]<;>omega)|(simp_all;done)|(simp_all;omega))) (.refl _) zt
     refine Zz 9 ?_
     refine i_ (dB_ (i:=1) (j:=s.length - 1) (kl:=.i64) (kh:=.i64) C_ rfl rfl (show _=some (Value.int .i64 ((s.length - 1:Nat):Int)) by rw[show ((s.length - 1:Nat):Int)=(s.length:Int) - 1 by omega];rfl) (by omega) (by omega)) rfl ?_
     refine aw_ rfl rfl (o_ (em_ _) rfl j_ zt rfl fun _=>aw_ rfl rfl (O_ (aR_ (bR_ rfl rfl) (congrArg Value.bool (pz_ _))) rfl fun r11 hr11=>Zz 2 ?_))
     cases r11
     ·refine Zz 3 ?_
      refine i_ (by_ C_ rfl rfl (by decide) hc) rfl (aw_ rfl rfl ?_)
      refine Zi 0 (fun hr12=>?_) fun hr12=>?_
      ·refine Zz 14 ?_
       exact S_ dp_ () (g_ rfl (by rw[← ef_];unfold fh_;first|(simp only[hc123,he125,hc60,he62];subst_vars;rw[Bool.eq_iff_iff];simp[*]<;>omega)|(simp_all;done)|(simp_all;omega))) (.refl _) zt
      refine Zz 9 ?_
      refine i_ (by_ C_ rfl rfl (by omega) (show s[((s.length:Int) - 1).toNat]? = some e by rw[show ((s.length:Int) - 1).toNat=s.length - 1 by omega];exact he)) rfl ?_
      refine aw_ rfl rfl (O_ (bR_ rfl rfl) rfl fun r13 hr13=>Zz 7 ?_)
      exact S_ dp_ () (g_ rfl (by rw[← ef_];unfold fh_;first|(simp only[hc123,he125,hc60,he62];subst_vars;rw[Bool.eq_iff_iff];simp[*]<;>omega)|(simp_all;done)|(simp_all;omega))) (.refl _) zt
     refine Zz 15 ?_
     exact S_ dp_ () (g_ rfl (by rw[← ef_];unfold fh_;first|(simp only[hc123,he125,hc60,he62];subst_vars;rw[Bool.eq_iff_iff];simp[*]<;>omega)|(simp_all;done)|(simp_all;omega))) (.refl _) zt
    refine Zz 9 ?_
    exact S_ dp_ () (g_ rfl (by rw[← ef_];unfold fh_;first|(simp only[hc123,he125,hc60,he62];subst_vars;rw[Bool.eq_iff_iff];simp[*]<;>omega)|(simp_all;done)|(simp_all;omega))) (.refl _) zt
   refine Zz 7 ?_
   exact S_ dp_ () (g_ rfl (by rw[← ef_];unfold fh_;first|(simp only[hc123,he125,hc60,he62];subst_vars;rw[Bool.eq_iff_iff];simp[*]<;>omega)|(simp_all;done)|(simp_all;omega))) (.refl _) zt
  refine Zz 15 ?_
  exact S_ dp_ () (g_ rfl (by rw[← ef_];unfold fh_;first|(simp only[hc123,he125,hc60,he62];subst_vars;rw[Bool.eq_iff_iff];simp[*]<;>omega)|(simp_all;done)|(simp_all;omega))) (.refl _) zt
 refine Zz 18 ?_
 exact S_ dp_ () (g_ rfl (by rw[← ef_];unfold fh_;first|(simp only[hc123,he125,hc60,he62];subst_vars;rw[Bool.eq_iff_iff];simp[*]<;>omega)|(simp_all;done)|(simp_all;omega))) (.refl _) zt
theorem gr_ (s:Str) (hs:s.length≤17592186044414):Fn0 Tryz.prog 148 #[str s] (.bool (bX_ s)):=by
 refine x_ Tryz.func148 rfl rfl Tryz.ntmps148 rfl fun v0=>?_
 refine Zz 22 ?_
 refine cR_ [(0,str s),(3,.int .i64 ((0:Nat):Int)),(4,.int .i64 (List.length ([]:List Str):Int)),(5,.int .i64 ((0:Nat):Int))] zl ?_
 refine dy_ (ι:={z:Nat×Nat×List Str // RInv s z.1 z.2.1 z.2.2∨REnd s z.2.1 z.2.2}) (fun z=>[(0,str s),(3,.int .i64 (z.1.1:Int)),(4,.int .i64 (List.length z.1.2.2:Int)),(5,.int .i64 (z.1.2.1:Int))]) (fun _=>_) (fun _=>_) (fun z=>s.length+1 - z.1.2.1) ⟨(0,0,[]),.inl (RInv.start s)⟩ ?_
 rintro ⟨⟨a,i,dn⟩,hz⟩
 dsimp only at hz
 dsimp only
 have hdl:dn.length≤s.length+1:=hz.elim RInv.len REnd.len
 have hil:i≤s.length+1:=hz.elim (fun q=>by have:=q.il;omega) (fun q=>by have:=q.il;omega)
 refine cR_ [(0,str s),(3,.int .i64 (a:Int)),(4,.int .i64 (List.length dn:Int)),(5,.int .i64 (i:Int))] zl ?_
 refine Zz 5 ?_
 refine i_ (bG_ C_ rfl) rfl ?_
 refine Zi 0 (fun hr1=>?_) fun hr1=>?_
 ·replace hz:REnd s i dn:=hz.elim (fun q=>by have:=q.il;omega) id
  refine Zz 8 ?_
  refine O_ (dH_ rfl rfl) rfl fun r2 hr2=>Zz 4 ?_
  exact S_ Tryz.results148 () (g_ rfl (by subst_vars;exact hz.role.symm)) (.refl _) zt
 replace hz:RInv s a i dn:=hz.elim id (fun q=>by have:=q.il;omega)
 refine Zz 12 ?_
 refine i_ (bG_ C_ rfl) rfl ?_
 refine Zi 0 (fun hr3=>?_) fun hr3=>?_
 ·refine Zz 17 ?_
  refine i_ (dB_ (i:=a) (j:=i) (kl:=.i64) (kh:=.i64) C_ rfl rfl rfl hz.le (by omega)) rfl (o_ (em_ _) rfl j_ zt rfl fun _=>O_ (aR_ (gk_ rfl rfl) (congrArg Value.bool (uJ_ _))) rfl fun r4 hr4=>Zz 2 ?_)
  cases r4
  ·refine Zz 22 ?_
   exact u_ ⟨(i+1,i+1,dn++[iu_ s a i]),.inr (hz.finN (by omega) (by simp_all [iu_]))⟩ (by dsimp only;omega) ⟨rfl,rfl,(ca_ rfl (by simp)),rfl,trivial⟩ j_ zh
  refine Zz 7 ?_
  exact S_ Tryz.results148 () (g_ rfl (by symm;exact nv_ (x:=iu_ s a i) (by rw[hz.fin (by omega)];simp) (by simp_all [iu_]))) (.refl _) zt
 obtain⟨c,hc⟩:∃ c,s[i]? = some c:=⟨_,List.getElem?_eq_getElem (by omega)⟩
 refine Zz 6 ?_
 refine i_ (by_ C_ rfl rfl (by omega) hc) rfl (aw_ rfl rfl ?_)
 refine Zi 0 (fun hr5=>?_) fun hr5=>?_
 ·obtain rfl:c=46:=UInt8.toNat_inj.1 (by show c.toNat=46;omega)
  refine Zz 12 ?_
  refine i_ (dB_ (i:=a) (j:=i) (kl:=.i64) (kh:=.i64) C_ rfl rfl rfl hz.le (by omega)) rfl (o_ (em_ _) rfl j_ zt rfl fun _=>O_ (aR_ (gk_ rfl rfl) (congrArg Value.bool (uJ_ _))) rfl fun r6 hr6=>Zz 2 ?_)
  cases r6
  ·refine Zz 22 ?_
   exact u_ ⟨(i+1,i+1,dn++[iu_ s a i]),.inl (hz.dotN hc (by simp_all [iu_]))⟩ (by dsimp only;omega) ⟨rfl,rfl,(ca_ rfl (by simp)),rfl,trivial⟩ j_ zh
  refine Zz 7 ?_
  exact S_ Tryz.results148 () (g_ rfl (by symm;exact nv_ (x:=iu_ s a i) (by rw[hz.dot hc];simp) (by simp_all [iu_]))) (.refl _) zt
 refine Zz 12 ?_
 exact u_ ⟨(a,i+1,dn),.inl (hz.next hc (by intro q;subst q;simp_all))⟩ (by dsimp only;omega) zl j_ zh
set_option maxHeartbeats 4000000 in
theorem rL_ (p:Pc) (hp:p.sm):Fn0 Tryz.prog 109 #[Pc.val p] (.bool p.valid):=by
 refine x_ Tryz.func109 rfl rfl Tryz.ntmps109 rfl fun v0=>?_
 obtain⟨ha,hb,hc,hr,hs,ht⟩:=hp
 refine Zz 2 ?_
 refine ay_ rfl rfl fun b1=>Zz 8 ?_
 refine O_ (fo_ rfl rfl) rfl fun r1 hr1=>Zz 1 ?_
 refine ax_ 4 ((decide (p.frm<(-1)))||(decide (1024≤p.frm))) (fun r=>[(1,zp_ b1 0),(2,.bool false),(13,.bool r)]) ?_ fun r2 hr2=>?_
 ·cases r1
  ·have qr2:=hr1
   replace hr1:=zdf hr1
   refine Zz 5 ?_
   refine O_ (gm_ rfl rfl) rfl fun r3 hr3=>Zz 3 ?_
   exact met ⟨rfl,rfl,(g_ rfl (jof qr2 hr3)),trivial⟩
  have qr2:=hr1
  replace hr1:=zdt hr1
  refine Zz 6 ?_
  exact met ⟨rfl,rfl,(g_ rfl (jot qr2)),trivial⟩
 refine Zz 2 ?_
 cases r2
 ·simp at hr2
  refine Zz 9 ?_
  refine i_ (L_ mC_ rfl rfl) rfl (J_ aH_ rfl fun b2=>w_ 0 W_ rfl rfl rfl rfl rfl rfl (Zi 17 (fun hr4=>?_) fun hr4=>?_))
  ·refine Zi 6 (fun hr5=>?_) fun hr5=>?_
   ·refine Zi 7 (fun hr6=>?_) fun hr6=>?_
    ·refine Zi 5 (fun hr7=>?_) fun hr7=>?_
     ·refine Zi 6 (fun hr8=>?_) fun hr8=>?_
      ·refine Zi 6 (fun hr9=>?_) fun hr9=>?_
       ·refine Zi 6 (fun hr10=>?_) fun hr10=>?_
        ·refine Zi 7 (fun hr11=>?_) fun hr11=>?_
         ·refine Zi 5 (fun hr12=>?_) fun hr12=>?_
          ·refine Zz 18 ?_
           exact S_ dq_ () (g_ rfl (by obtain⟨kind,a,b,c,r,s,t,lo,hi,frm⟩:=p;dsimp only at *;symm;exact vp_no _ (by omega))) j_ zt
          refine Zz 9 ?_
          refine w_ 0 E_ rfl rfl rfl rfl rfl rfl (Zz 7 ?_)
          refine w_ 0 A_ rfl rfl rfl rfl rfl rfl (Zz 7 ?_)
          refine w_ 0 A_ rfl rfl rfl rfl rfl rfl (Zi 14 (fun hr13=>?_) fun hr13=>?_)
          ·refine Zz 8 ?_
           refine w_ 0 E_ rfl rfl rfl rfl rfl rfl (Zz 10 ?_)
           refine ae_ (eU_ _ (by omega)) rfl j_ zt rfl fun r14 hr14=>Zz 1 ?_
           refine ax_ 5 ((aQ_ p.c)&&(aN_ p.r)) (fun r=>[(1,zp_ b1 0),(2,.bool false),(3,zp_ b2 0),(4,.bool false),(166,.bool r)]) ?_ fun r15 hr15=>?_
           ·cases r14
            ·have qr15:=hr14
             refine Zz 7 ?_
             exact met ⟨rfl,rfl,rfl,rfl,(g_ rfl (jaf qr15)),trivial⟩
            have qr15:=hr14
            refine Zz 5 ?_
            refine o_ (em_ _) rfl j_ zt rfl fun _=>aw_ rfl rfl (O_ (aR_ (bR_ rfl rfl) (congrArg Value.bool (pz_ _))) rfl fun r16 hr16=>Zz 3 ?_)
            exact met ⟨rfl,rfl,rfl,rfl,(g_ rfl (jat qr15 hr16)),trivial⟩
           refine Zz 1 ?_
           refine ax_ 6 ((((aQ_ p.c)&&(aN_ p.r)))&&(decide (p.lo≤p.hi))) (fun r=>[(1,zp_ b1 0),(2,.bool false),(3,zp_ b2 0),(4,.bool false),(173,.bool r)]) ?_ fun r17 hr17=>?_
           ·cases r15
            ·have qr17:=hr15
             simp at hr15
             refine Zz 8 ?_
             exact met ⟨rfl,rfl,rfl,rfl,(g_ rfl (jaf qr17)),trivial⟩
            have qr17:=hr15
            simp at hr15
            refine Zz 9 ?_
            refine O_ (dH_ rfl rfl) rfl fun r18 hr18=>Zz 3 ?_
            exact met ⟨rfl,rfl,rfl,rfl,(g_ rfl (jat qr17 hr18)),trivial⟩
           refine Zz 1 ?_
           refine ax_ 4 ((((((aQ_ p.c)&&(aN_ p.r)))&&(decide (p.lo≤p.hi))))&&(decide ((-1099511627776)≤p.lo))) (fun r=>[(1,zp_ b1 0),(2,.bool false),(3,zp_ b2 0),(4,.bool false),(178,.bool r)]) ?_ fun r19 hr19=>?_
           ·cases r17
            ·have qr19:=hr17
             simp at hr17
             refine Zz 6 ?_
             exact met ⟨rfl,rfl,rfl,rfl,(g_ rfl (jaf qr19)),trivial⟩
            have qr19:=hr17
            simp at hr17
            refine Zz 5 ?_
            refine O_ (gm_ rfl rfl) rfl fun r20 hr20=>Zz 3 ?_
            exact met ⟨rfl,rfl,rfl,rfl,(g_ rfl (jat qr19 hr20)),trivial⟩
           refine Zz 1 ?_
           refine ax_ 4 ((((((((aQ_ p.c)&&(aN_ p.r)))&&(decide (p.lo≤p.hi))))&&(decide ((-1099511627776)≤p.lo))))&&(decide (p.hi≤1099511627776))) (fun r=>[(1,zp_ b1 0),(2,.bool false),(3,zp_ b2 0),(4,.bool false),(183,.bool r)]) ?_ fun r21 hr21=>?_
           ·cases r19
            ·have qr21:=hr19
             simp at hr19
             refine Zz 6 ?_
             exact met ⟨rfl,rfl,rfl,rfl,(g_ rfl (jaf qr21)),trivial⟩
            have qr21:=hr19
            simp at hr19
            refine Zz 5 ?_
            refine O_ (dH_ rfl rfl) rfl fun r22 hr22=>Zz 3 ?_
            exact met ⟨rfl,rfl,rfl,rfl,(g_ rfl (jat qr21 hr22)),trivial⟩
           refine Zz 7 ?_
           refine ax_ 4 ((((((((((aQ_ p.c)&&(aN_ p.r)))&&(decide (p.lo≤p.hi))))&&(decide ((-1099511627776)≤p.lo))))&&(decide (p.hi≤1099511627776))))&&(decide (p=(Pc.mk p.kind [] [] p.c p.r [] [] p.lo p.hi p.frm)))) (fun r=>[(2,.bool false),(189,.bool r)]) ?_ fun r23 hr23=>?_
           ·cases r21
            ·have qr23:=hr21
             simp at hr21
             refine Zz 6 ?_
             exact met ⟨rfl,(g_ rfl (jaf qr23)),trivial⟩
            have qr23:=hr21
            simp at hr21
            refine Zz 5 ?_
            refine O_ (ek_ (p:=p) (q:=(Pc.mk p.kind [] [] p.c p.r [] [] p.lo p.hi p.frm)) rfl rfl) rfl fun r24 hr24=>Zz 3 ?_
            exact met ⟨rfl,(g_ rfl (jat qr23 hr24)),trivial⟩
           refine Zz 4 ?_
           exact S_ dq_ () (g_ rfl (by rw[← hr23];obtain⟨kind,a,b,c,r,s,t,lo,hi,frm⟩:=p;dsimp only at *;subst kind;rw[Bool.eq_iff_iff,ha_ 9 ⟨false,false,true,true,false,false,true⟩ rfl (by omega)];simp only[jb_,jc_,Bool.and_eq_true,decide_eq_true_eq,Pc.mk.injEq,if_true,Bool.false_eq_true,if_false];constructor<;>intro h<;>simp_all<;>omega)) j_ zt
          exfalso;omega
         refine Zz 12 ?_
         refine w_ 0 E_ rfl rfl rfl rfl rfl rfl (Zz 7 ?_)
         refine w_ 0 A_ rfl rfl rfl rfl rfl rfl (Zz 7 ?_)
         refine w_ 0 A_ rfl rfl rfl rfl rfl rfl (Zi 14 (fun hr25=>?_) fun hr25=>?_)
         ·exfalso;omega
         refine Zz 7 ?_
         refine w_ 0 E_ rfl rfl rfl rfl rfl rfl (Zz 4 ?_)
         refine ae_ (eU_ _ (by omega)) rfl j_ zt rfl fun r26 hr26=>Zz 1 ?_
         refine ax_ 5 ((aQ_ p.a)&&(aN_ p.r)) (fun r=>[(1,zp_ b1 0),(2,.bool false),(3,zp_ b2 0),(4,.bool false),(166,.bool r)]) ?_ fun r27 hr27=>?_
         ·cases r26
          ·have qr27:=hr26
           refine Zz 7 ?_
           exact met ⟨rfl,rfl,rfl,rfl,(g_ rfl (jaf qr27)),trivial⟩
          have qr27:=hr26
          refine Zz 5 ?_
          refine o_ (em_ _) rfl j_ zt rfl fun _=>aw_ rfl rfl (O_ (aR_ (bR_ rfl rfl) (congrArg Value.bool (pz_ _))) rfl fun r28 hr28=>Zz 3 ?_)
          exact met ⟨rfl,rfl,rfl,rfl,(g_ rfl (jat qr27 hr28)),trivial⟩
         refine Zz 1 ?_
         refine ax_ 6 ((((aQ_ p.a)&&(aN_ p.r)))&&(decide (p.lo≤p.hi))) (fun r=>[(1,zp_ b1 0),(2,.bool false),(3,zp_ b2 0),(4,.bool false),(173,.bool r)]) ?_ fun r29 hr29=>?_
         ·cases r27
          ·have qr29:=hr27
           simp at hr27
           refine Zz 8 ?_
           exact met ⟨rfl,rfl,rfl,rfl,(g_ rfl (jaf qr29)),trivial⟩
          have qr29:=hr27
          simp at hr27
          refine Zz 9 ?_
          refine O_ (dH_ rfl rfl) rfl fun r30 hr30=>Zz 3 ?_
          exact met ⟨rfl,rfl,rfl,rfl,(g_ rfl (jat qr29 hr30)),trivial⟩
         refine Zz 1 ?_
         refine ax_ 4 ((((((aQ_ p.a)&&(aN_ p.r)))&&(decide (p.lo≤p.hi))))&&(decide ((-1099511627776)≤p.lo))) (fun r=>[(1,zp_ b1 0),(2,.bool false),(3,zp_ b2 0),(4,.bool false),(178,.bool r)]) ?_ fun r31 hr31=>?_
         ·cases r29
          ·have qr31:=hr29
           simp at hr29
           refine Zz 6 ?_
           exact met ⟨rfl,rfl,rfl,rfl,(g_ rfl (jaf qr31)),trivial⟩
          have qr31:=hr29
          simp at hr29
          refine Zz 5 ?_
          refine O_ (gm_ rfl rfl) rfl fun r32 hr32=>Zz 3 ?_
          exact met ⟨rfl,rfl,rfl,rfl,(g_ rfl (jat qr31 hr32)),trivial⟩
         refine Zz 1 ?_
         refine ax_ 4 ((((((((aQ_ p.a)&&(aN_ p.r)))&&(decide (p.lo≤p.hi))))&&(decide ((-1099511627776)≤p.lo))))&&(decide (p.hi≤1099511627776))) (fun r=>[(1,zp_ b1 0),(2,.bool false),(3,zp_ b2 0),(4,.bool false),(183,.bool r)]) ?_ fun r33 hr33=>?_
         ·cases r31
          ·have qr33:=hr31
           simp at hr31
           refine Zz 6 ?_
           exact met ⟨rfl,rfl,rfl,rfl,(g_ rfl (jaf qr33)),trivial⟩
          have qr33:=hr31
          simp at hr31
          refine Zz 5 ?_
          refine O_ (dH_ rfl rfl) rfl fun r34 hr34=>Zz 3 ?_
          exact met ⟨rfl,rfl,rfl,rfl,(g_ rfl (jat qr33 hr34)),trivial⟩
         refine Zz 7 ?_
         refine ax_ 4 ((((((((((aQ_ p.a)&&(aN_ p.r)))&&(decide (p.lo≤p.hi))))&&(decide ((-1099511627776)≤p.lo))))&&(decide (p.hi≤1099511627776))))&&(decide (p=(Pc.mk p.kind p.a [] [] p.r [] [] p.lo p.hi p.frm)))) (fun r=>[(2,.bool false),(189,.bool r)]) ?_ fun r35 hr35=>?_
         ·cases r33
          ·have qr35:=hr33
           simp at hr33
           refine Zz 6 ?_
           exact met ⟨rfl,(g_ rfl (jaf qr35)),trivial⟩
          have qr35:=hr33
          simp at hr33
          refine Zz 5 ?_
          refine O_ (ek_ (p:=p) (q:=(Pc.mk p.kind p.a [] [] p.r [] [] p.lo p.hi p.frm)) rfl rfl) rfl fun r36 hr36=>Zz 3 ?_
          exact met ⟨rfl,(g_ rfl (jat qr35 hr36)),trivial⟩
         refine Zz 4 ?_
         exact S_ dq_ () (g_ rfl (by rw[← hr35];obtain⟨kind,a,b,c,r,s,t,lo,hi,frm⟩:=p;dsimp only at *;subst kind;rw[Bool.eq_iff_iff,ha_ 8 ⟨true,false,false,true,false,false,true⟩ rfl (by omega)];simp only[jb_,jc_,Bool.and_eq_true,decide_eq_true_eq,Pc.mk.injEq,if_true,Bool.false_eq_true,if_false];constructor<;>intro h<;>simp_all<;>omega)) j_ zt
        refine Zz 9 ?_
        refine w_ 0 E_ rfl rfl rfl rfl rfl rfl (Zz 5 ?_)
        refine ae_ (gr_ _ (by omega)) rfl j_ zt rfl fun r37 hr37=>Zz 7 ?_
        refine ax_ 4 ((bX_ p.r)&&(decide (p=(Pc.mk p.kind [] [] [] p.r [] [] 0 0 p.frm)))) (fun r=>[(2,.bool false),(189,.bool r)]) ?_ fun r38 hr38=>?_
        ·cases r37
         ·have qr38:=hr37
          refine Zz 6 ?_
          exact met ⟨rfl,(g_ rfl (jaf qr38)),trivial⟩
         have qr38:=hr37
         refine Zz 5 ?_
         refine O_ (ek_ (p:=p) (q:=(Pc.mk p.kind [] [] [] p.r [] [] 0 0 p.frm)) rfl rfl) rfl fun r39 hr39=>Zz 3 ?_
         exact met ⟨rfl,(g_ rfl (jat qr38 hr39)),trivial⟩
        refine Zz 4 ?_
        exact S_ dq_ () (g_ rfl (by rw[← hr38];obtain⟨kind,a,b,c,r,s,t,lo,hi,frm⟩:=p;dsimp only at *;subst kind;rw[Bool.eq_iff_iff,ha_ 7 ⟨false,false,false,true,false,false,false⟩ rfl (by omega)];simp only[jb_,jc_,Bool.and_eq_true,decide_eq_true_eq,Pc.mk.injEq,if_true,Bool.false_eq_true,if_false];constructor<;>intro h<;>simp_all<;>omega)) j_ zt
       refine Zz 9 ?_
       refine w_ 0 E_ rfl rfl rfl rfl rfl rfl (Zz 7 ?_)
       refine w_ 0 E_ rfl rfl rfl rfl rfl rfl (Zz 7 ?_)
       refine w_ 0 E_ rfl rfl rfl rfl rfl rfl (Zz 5 ?_)
       refine ae_ (gr_ _ (by omega)) rfl j_ zt rfl fun r40 hr40=>Zz 1 ?_
       refine ax_ 4 ((bX_ p.r)&&(bX_ p.s)) (fun r=>[(1,zp_ b1 0),(2,.bool false),(3,zp_ b2 0),(4,.bool false),(120,.bool r)]) ?_ fun r41 hr41=>?_
       ·cases r40
        ·have qr41:=hr40
         refine Zz 6 ?_
         exact met ⟨rfl,rfl,rfl,rfl,(g_ rfl (jaf qr41)),trivial⟩
        have qr41:=hr40
        refine Zz 5 ?_
        refine ae_ (gr_ _ (by omega)) rfl j_ zt rfl fun r42 hr42=>Zz 3 ?_
        exact met ⟨rfl,rfl,rfl,rfl,(g_ rfl (jat qr41 hr42)),trivial⟩
       refine Zz 1 ?_
       refine ax_ 4 ((((bX_ p.r)&&(bX_ p.s)))&&(bX_ p.t)) (fun r=>[(1,zp_ b1 0),(2,.bool false),(3,zp_ b2 0),(4,.bool false),(125,.bool r)]) ?_ fun r43 hr43=>?_
       ·cases r41
        ·have qr43:=hr41
         simp at hr41
         refine Zz 6 ?_
         exact met ⟨rfl,rfl,rfl,rfl,(g_ rfl (jaf qr43)),trivial⟩
        have qr43:=hr41
        simp at hr41
        refine Zz 5 ?_
        refine ae_ (gr_ _ (by omega)) rfl j_ zt rfl fun r44 hr44=>Zz 3 ?_
        exact met ⟨rfl,rfl,rfl,rfl,(g_ rfl (jat qr43 hr44)),trivial⟩
       refine Zz 7 ?_
       refine ax_ 4 ((((((bX_ p.r)&&(bX_ p.s)))&&(bX_ p.t)))&&(decide (p=(Pc.mk p.kind [] [] [] p.r p.s p.t 0 0 p.frm)))) (fun r=>[(2,.bool false),(189,.bool r)]) ?_ fun r45 hr45=>?_
       ·cases r43
        ·have qr45:=hr43
         simp at hr43
         refine Zz 6 ?_
         exact met ⟨rfl,(g_ rfl (jaf qr45)),trivial⟩
        have qr45:=hr43
        simp at hr43
        refine Zz 5 ?_
        refine O_ (ek_ (p:=p) (q:=(Pc.mk p.kind [] [] [] p.r p.s p.t 0 0 p.frm)) rfl rfl) rfl fun r46 hr46=>Zz 3 ?_
        exact met ⟨rfl,(g_ rfl (jat qr45 hr46)),trivial⟩
       refine Zz 4 ?_
       exact S_ dq_ () (g_ rfl (by rw[← hr45];obtain⟨kind,a,b,c,r,s,t,lo,hi,frm⟩:=p;dsimp only at *;subst kind;rw[Bool.eq_iff_iff,ha_ 6 ⟨false,false,false,true,true,true,false⟩ rfl (by omega)];simp only[jb_,jc_,Bool.and_eq_true,decide_eq_true_eq,Pc.mk.injEq,if_true,Bool.false_eq_true,if_false];constructor<;>intro h<;>simp_all<;>omega)) j_ zt
      refine Zz 9 ?_
      refine w_ 0 E_ rfl rfl rfl rfl rfl rfl (Zz 7 ?_)
      refine w_ 0 E_ rfl rfl rfl rfl rfl rfl (Zz 5 ?_)
      refine ae_ (gr_ _ (by omega)) rfl j_ zt rfl fun r47 hr47=>Zz 1 ?_
      refine ax_ 4 ((bX_ p.r)&&(bX_ p.t)) (fun r=>[(1,zp_ b1 0),(2,.bool false),(3,zp_ b2 0),(4,.bool false),(101,.bool r)]) ?_ fun r48 hr48=>?_
      ·cases r47
       ·have qr48:=hr47
        refine Zz 6 ?_
        exact met ⟨rfl,rfl,rfl,rfl,(g_ rfl (jaf qr48)),trivial⟩
       have qr48:=hr47
       refine Zz 5 ?_
       refine ae_ (gr_ _ (by omega)) rfl j_ zt rfl fun r49 hr49=>Zz 3 ?_
       exact met ⟨rfl,rfl,rfl,rfl,(g_ rfl (jat qr48 hr49)),trivial⟩
      refine Zz 7 ?_
      refine ax_ 4 ((((bX_ p.r)&&(bX_ p.t)))&&(decide (p=(Pc.mk p.kind [] [] [] p.r [] p.t 0 0 p.frm)))) (fun r=>[(2,.bool false),(189,.bool r)]) ?_ fun r50 hr50=>?_
      ·cases r48
       ·have qr50:=hr48
        simp at hr48
        refine Zz 6 ?_
        exact met ⟨rfl,(g_ rfl (jaf qr50)),trivial⟩
       have qr50:=hr48
       simp at hr48
       refine Zz 5 ?_
       refine O_ (ek_ (p:=p) (q:=(Pc.mk p.kind [] [] [] p.r [] p.t 0 0 p.frm)) rfl rfl) rfl fun r51 hr51=>Zz 3 ?_
       exact met ⟨rfl,(g_ rfl (jat qr50 hr51)),trivial⟩
      refine Zz 4 ?_
      exact S_ dq_ () (g_ rfl (by rw[← hr50];obtain⟨kind,a,b,c,r,s,t,lo,hi,frm⟩:=p;dsimp only at *;subst kind;rw[Bool.eq_iff_iff,ha_ 5 ⟨false,false,false,true,false,true,false⟩ rfl (by omega)];simp only[jb_,jc_,Bool.and_eq_true,decide_eq_true_eq,Pc.mk.injEq,if_true,Bool.false_eq_true,if_false];constructor<;>intro h<;>simp_all<;>omega)) j_ zt
     refine Zz 9 ?_
     refine w_ 0 E_ rfl rfl rfl rfl rfl rfl (Zz 7 ?_)
     refine w_ 0 E_ rfl rfl rfl rfl rfl rfl (Zz 7 ?_)
     refine w_ 0 E_ rfl rfl rfl rfl rfl rfl (Zz 5 ?_)
     refine ae_ (eU_ _ (by omega)) rfl j_ zt rfl fun r52 hr52=>Zz 1 ?_
     refine ax_ 4 ((aQ_ p.a)&&(bX_ p.r)) (fun r=>[(1,zp_ b1 0),(2,.bool false),(3,zp_ b2 0),(4,.bool false),(80,.bool r)]) ?_ fun r53 hr53=>?_
     ·cases r52
      ·have qr53:=hr52
       refine Zz 6 ?_
       exact met ⟨rfl,rfl,rfl,rfl,(g_ rfl (jaf qr53)),trivial⟩
      have qr53:=hr52
      refine Zz 5 ?_
      refine ae_ (gr_ _ (by omega)) rfl j_ zt rfl fun r54 hr54=>Zz 3 ?_
      exact met ⟨rfl,rfl,rfl,rfl,(g_ rfl (jat qr53 hr54)),trivial⟩
     refine Zz 1 ?_
     refine ax_ 4 ((((aQ_ p.a)&&(bX_ p.r)))&&(aQ_ p.c)) (fun r=>[(1,zp_ b1 0),(2,.bool false),(3,zp_ b2 0),(4,.bool false),(85,.bool r)]) ?_ fun r55 hr55=>?_
     ·cases r53
      ·have qr55:=hr53
       simp at hr53
       refine Zz 6 ?_
       exact met ⟨rfl,rfl,rfl,rfl,(g_ rfl (jaf qr55)),trivial⟩
      have qr55:=hr53
      simp at hr53
      refine Zz 5 ?_
      refine ae_ (eU_ _ (by omega)) rfl j_ zt rfl fun r56 hr56=>Zz 3 ?_
      exact met ⟨rfl,rfl,rfl,rfl,(g_ rfl (jat qr55 hr56)),trivial⟩
     refine Zz 7 ?_
     refine ax_ 4 ((((((aQ_ p.a)&&(bX_ p.r)))&&(aQ_ p.c)))&&(decide (p=(Pc.mk p.kind p.a [] p.c p.r [] [] 0 0 p.frm)))) (fun r=>[(2,.bool false),(189,.bool r)]) ?_ fun r57 hr57=>?_
     ·cases r55
      ·have qr57:=hr55
       simp at hr55
       refine Zz 6 ?_
       exact met ⟨rfl,(g_ rfl (jaf qr57)),trivial⟩
      have qr57:=hr55
      simp at hr55
      refine Zz 5 ?_
      refine O_ (ek_ (p:=p) (q:=(Pc.mk p.kind p.a [] p.c p.r [] [] 0 0 p.frm)) rfl rfl) rfl fun r58 hr58=>Zz 3 ?_
      exact met ⟨rfl,(g_ rfl (jat qr57 hr58)),trivial⟩
     refine Zz 4 ?_
     exact S_ dq_ () (g_ rfl (by rw[← hr57];obtain⟨kind,a,b,c,r,s,t,lo,hi,frm⟩:=p;dsimp only at *;subst kind;rw[Bool.eq_iff_iff,ha_ 4 ⟨true,false,true,true,false,false,false⟩ rfl (by omega)];simp only[jb_,jc_,Bool.and_eq_true,decide_eq_true_eq,Pc.mk.injEq,if_true,Bool.false_eq_true,if_false];constructor<;>intro h<;>simp_all<;>omega)) j_ zt
    refine Zz 12 ?_
    refine w_ 0 E_ rfl rfl rfl rfl rfl rfl (Zz 7 ?_)
    refine w_ 0 E_ rfl rfl rfl rfl rfl rfl (Zz 7 ?_)
    refine w_ 0 E_ rfl rfl rfl rfl rfl rfl (Zz 5 ?_)
    refine ae_ (eU_ _ (by omega)) rfl j_ zt rfl fun r59 hr59=>Zz 1 ?_
    refine ax_ 4 ((aQ_ p.a)&&(bX_ p.r)) (fun r=>[(1,zp_ b1 0),(2,.bool false),(3,zp_ b2 0),(4,.bool false),(80,.bool r)]) ?_ fun r60 hr60=>?_
    ·cases r59
     ·have qr60:=hr59
      refine Zz 6 ?_
      exact met ⟨rfl,rfl,rfl,rfl,(g_ rfl (jaf qr60)),trivial⟩
     have qr60:=hr59
     refine Zz 5 ?_
     refine ae_ (gr_ _ (by omega)) rfl j_ zt rfl fun r61 hr61=>Zz 3 ?_
     exact met ⟨rfl,rfl,rfl,rfl,(g_ rfl (jat qr60 hr61)),trivial⟩
    refine Zz 1 ?_
    refine ax_ 4 ((((aQ_ p.a)&&(bX_ p.r)))&&(aQ_ p.c)) (fun r=>[(1,zp_ b1 0),(2,.bool false),(3,zp_ b2 0),(4,.bool false),(85,.bool r)]) ?_ fun r62 hr62=>?_
    ·cases r60
     ·have qr62:=hr60
      simp at hr60
      refine Zz 6 ?_
      exact met ⟨rfl,rfl,rfl,rfl,(g_ rfl (jaf qr62)),trivial⟩
     have qr62:=hr60
     simp at hr60
     refine Zz 5 ?_
     refine ae_ (eU_ _ (by omega)) rfl j_ zt rfl fun r63 hr63=>Zz 3 ?_
     exact met ⟨rfl,rfl,rfl,rfl,(g_ rfl (jat qr62 hr63)),trivial⟩
    refine Zz 7 ?_
    refine ax_ 4 ((((((aQ_ p.a)&&(bX_ p.r)))&&(aQ_ p.c)))&&(decide (p=(Pc.mk p.kind p.a [] p.c p.r [] [] 0 0 p.frm)))) (fun r=>[(2,.bool false),(189,.bool r)]) ?_ fun r64 hr64=>?_
    ·cases r62
     ·have qr64:=hr62
      simp at hr62
      refine Zz 6 ?_
      exact met ⟨rfl,(g_ rfl (jaf qr64)),trivial⟩
     have qr64:=hr62
     simp at hr62
     refine Zz 5 ?_
     refine O_ (ek_ (p:=p) (q:=(Pc.mk p.kind p.a [] p.c p.r [] [] 0 0 p.frm)) rfl rfl) rfl fun r65 hr65=>Zz 3 ?_
     exact met ⟨rfl,(g_ rfl (jat qr64 hr65)),trivial⟩
    refine Zz 4 ?_
    exact S_ dq_ () (g_ rfl (by rw[← hr64];obtain⟨kind,a,b,c,r,s,t,lo,hi,frm⟩:=p;dsimp only at *;subst kind;rw[Bool.eq_iff_iff,ha_ 3 ⟨true,false,true,true,false,false,false⟩ rfl (by omega)];simp only[jb_,jc_,Bool.and_eq_true,decide_eq_true_eq,Pc.mk.injEq,if_true,Bool.false_eq_true,if_false];constructor<;>intro h<;>simp_all<;>omega)) j_ zt
   refine Zz 9 ?_
   refine w_ 0 E_ rfl rfl rfl rfl rfl rfl (Zz 7 ?_)
   refine w_ 0 E_ rfl rfl rfl rfl rfl rfl (Zz 7 ?_)
   refine w_ 0 E_ rfl rfl rfl rfl rfl rfl (Zz 5 ?_)
   refine ae_ (eU_ _ (by omega)) rfl j_ zt rfl fun r66 hr66=>Zz 1 ?_
   refine ax_ 4 ((aQ_ p.a)&&(aQ_ p.b)) (fun r=>[(1,zp_ b1 0),(2,.bool false),(3,zp_ b2 0),(4,.bool false),(55,.bool r)]) ?_ fun r67 hr67=>?_
   ·cases r66
    ·have qr67:=hr66
     refine Zz 6 ?_
     exact met ⟨rfl,rfl,rfl,rfl,(g_ rfl (jaf qr67)),trivial⟩
    have qr67:=hr66
    refine Zz 5 ?_
    refine ae_ (eU_ _ (by omega)) rfl j_ zt rfl fun r68 hr68=>Zz 3 ?_
    exact met ⟨rfl,rfl,rfl,rfl,(g_ rfl (jat qr67 hr68)),trivial⟩
   refine Zz 1 ?_
   refine ax_ 4 ((((aQ_ p.a)&&(aQ_ p.b)))&&(aQ_ p.c)) (fun r=>[(1,zp_ b1 0),(2,.bool false),(3,zp_ b2 0),(4,.bool false),(60,.bool r)]) ?_ fun r69 hr69=>?_
   ·cases r67
    ·have qr69:=hr67
     simp at hr67
     refine Zz 6 ?_
     exact met ⟨rfl,rfl,rfl,rfl,(g_ rfl (jaf qr69)),trivial⟩
    have qr69:=hr67
    simp at hr67
    refine Zz 5 ?_
    refine ae_ (eU_ _ (by omega)) rfl j_ zt rfl fun r70 hr70=>Zz 3 ?_
    exact met ⟨rfl,rfl,rfl,rfl,(g_ rfl (jat qr69 hr70)),trivial⟩
   refine Zz 7 ?_
   refine ax_ 4 ((((((aQ_ p.a)&&(aQ_ p.b)))&&(aQ_ p.c)))&&(decide (p=(Pc.mk p.kind p.a p.b p.c [] [] [] 0 0 p.frm)))) (fun r=>[(2,.bool false),(189,.bool r)]) ?_ fun r71 hr71=>?_
   ·cases r69
    ·have qr71:=hr69
     simp at hr69
     refine Zz 6 ?_
     exact met ⟨rfl,(g_ rfl (jaf qr71)),trivial⟩
    have qr71:=hr69
    simp at hr69
    refine Zz 5 ?_
    refine O_ (ek_ (p:=p) (q:=(Pc.mk p.kind p.a p.b p.c [] [] [] 0 0 p.frm)) rfl rfl) rfl fun r72 hr72=>Zz 3 ?_
    exact met ⟨rfl,(g_ rfl (jat qr71 hr72)),trivial⟩
   refine Zz 4 ?_
   exact S_ dq_ () (g_ rfl (by rw[← hr71];obtain⟨kind,a,b,c,r,s,t,lo,hi,frm⟩:=p;dsimp only at *;subst kind;rw[Bool.eq_iff_iff,ha_ 2 ⟨true,true,true,false,false,false,false⟩ rfl (by omega)];simp only[jb_,jc_,Bool.and_eq_true,decide_eq_true_eq,Pc.mk.injEq,if_true,Bool.false_eq_true,if_false];constructor<;>intro h<;>simp_all<;>omega)) j_ zt
  refine Zz 9 ?_
  refine w_ 0 E_ rfl rfl rfl rfl rfl rfl (Zz 7 ?_)
  refine w_ 0 E_ rfl rfl rfl rfl rfl rfl (Zz 5 ?_)
  refine ae_ (eU_ _ (by omega)) rfl j_ zt rfl fun r73 hr73=>Zz 1 ?_
  refine ax_ 4 ((aQ_ p.a)&&(aQ_ p.c)) (fun r=>[(1,zp_ b1 0),(2,.bool false),(3,zp_ b2 0),(4,.bool false),(36,.bool r)]) ?_ fun r74 hr74=>?_
  ·cases r73
   ·have qr74:=hr73
    refine Zz 6 ?_
    exact met ⟨rfl,rfl,rfl,rfl,(g_ rfl (jaf qr74)),trivial⟩
   have qr74:=hr73
   refine Zz 5 ?_
   refine ae_ (eU_ _ (by omega)) rfl j_ zt rfl fun r75 hr75=>Zz 3 ?_
   exact met ⟨rfl,rfl,rfl,rfl,(g_ rfl (jat qr74 hr75)),trivial⟩
  refine Zz 7 ?_
  refine ax_ 4 ((((aQ_ p.a)&&(aQ_ p.c)))&&(decide (p=(Pc.mk p.kind p.a [] p.c [] [] [] 0 0 p.frm)))) (fun r=>[(2,.bool false),(189,.bool r)]) ?_ fun r76 hr76=>?_
  ·cases r74
   ·have qr76:=hr74
    simp at hr74
    refine Zz 6 ?_
    exact met ⟨rfl,(g_ rfl (jaf qr76)),trivial⟩
   have qr76:=hr74
   simp at hr74
   refine Zz 5 ?_
   refine O_ (ek_ (p:=p) (q:=(Pc.mk p.kind p.a [] p.c [] [] [] 0 0 p.frm)) rfl rfl) rfl fun r77 hr77=>Zz 3 ?_
   exact met ⟨rfl,(g_ rfl (jat qr76 hr77)),trivial⟩
  refine Zz 4 ?_
  exact S_ dq_ () (g_ rfl (by rw[← hr76];obtain⟨kind,a,b,c,r,s,t,lo,hi,frm⟩:=p;dsimp only at *;subst kind;rw[Bool.eq_iff_iff,ha_ 1 ⟨true,false,true,false,false,false,false⟩ rfl (by omega)];simp only[jb_,jc_,Bool.and_eq_true,decide_eq_true_eq,Pc.mk.injEq,if_true,Bool.false_eq_true,if_false];constructor<;>intro h<;>simp_all<;>omega)) j_ zt
 simp at hr2
 refine Zz 7 ?_
 exact S_ dq_ () (g_ rfl (by unfold Pc.valid;rw[if_pos (by omega)])) j_ zt
theorem rN_ (l:List Pc) (ad:Option Addr) (cap:Nat) (hl:l.length≤17592186044414) (hsm:∀ p∈l,p.sm):Tri Tryz.prog 72 #[.slice ad (List.length l) cap] [] [af_ ad (List.flatMap Pc.cells l)] (fun _:Unit=>.int .i64 (cl_ l)) (fun _=>[]) (fun _=>[]):=by
 refine x_ Tryz.func72 rfl rfl Tryz.ntmps72 rfl fun v0=>?_
 refine Zi 10 (fun hr1=>?_) fun hr1=>?_
 ·refine Zz 12 ?_
  refine cR_ [(0,.slice ad (List.length l) cap),(3,.int .i64 ((0:Nat):Int))] zl ?_
  refine dy_ (ι:={q:Nat // q≤l.length∧(l.take q).all Pc.valid=true}) (fun i=>[(0,.slice ad (List.length l) cap),(3,.int .i64 (i.1:Int))]) (fun _=>_) (fun _=>_) (fun i=>l.length - i.1) ⟨0,by simp⟩ ?_
  rintro ⟨i,hk⟩
  refine cR_ [(0,.slice ad (List.length l) cap),(3,.int .i64 (i:Int))] zl ?_
  refine Zi 6 (fun hr2=>?_) fun hr2=>?_
  ·refine Zz 11 ?_
   exact S_ Tryz.results72 () (ca_ rfl (by unfold cl_;rw[if_neg (by omega),if_pos (by have:=hk.2;rwa [List.take_of_length_le (by omega)]at this)])) (.refl _) zt
  obtain⟨hlx1,x1,hx1,hmx1⟩:=zge (show i<List.length l by omega)
  refine Zz 13 ?_
  refine ae_ (rL_ x1 (hsm x1 hmx1)) rfl j_ zt rfl fun r3 hr3=>i_ (bC_ rfl) rfl (Zz 2 ?_)
  cases r3
  ·refine Zz 7 ?_
   exact S_ Tryz.results72 () (ca_ rfl (by unfold cl_;rw[if_neg (by omega),if_neg (by rw[show l.all Pc.valid=false from List.all_eq_false.2 ⟨x1,hmx1,by simp[*]⟩];simp)])) (.refl _) zt
  refine Zz 9 ?_
  exact u_ ⟨i+1,hlx1,by rw[List.take_add_one,hx1];simp only[Option.toList_some,List.all_append,hk.2];simp[*]⟩ (by simp;omega) zl (.refl _) zh
 refine Zz 9 ?_
 exact S_ Tryz.results72 () (ca_ rfl (by unfold cl_;rw[if_pos (by omega)])) (.refl _) zt
theorem gG_ {xs:List Str} {u:Value} (h:u∈xs.flatMap aL_):u.oneCell'=true:=by
  rw[iM_]at h
  obtain⟨x,_,rfl⟩:=List.mem_map.1 h
  rfl
theorem oC_ (l:List Str) (ad:Option Addr) (cap:Nat) (s:Str) (hl:l.length≤100000000000) (hc:l.length≤cap∧cap≤maxLen∧(ad=none→cap=0)):Tri Tryz.prog 150 #[.slice ad (List.length l) cap,str s] [] [af_ ad (List.flatMap aL_ l)] (fun y:{y:Option Addr×Nat // (bl_ l s).length≤y.2∧y.2≤maxLen∧(y.1=none→y.2=0)}=>.slice y.1.1 (bl_ l s).length y.1.2) (fun _=>[]) (fun y=>[af_ y.1.1 ((bl_ l s).flatMap aL_)]):=by
 refine x_ Tryz.func150 rfl rfl Tryz.ntmps150 rfl fun v0=>?_
 refine Zz 12 ?_
 refine cR_ [(0,.slice ad (List.length l) cap),(1,str s),(5,.int .i64 ((0:Nat):Int))] zl ?_
 refine dy_ (ι:={z:Nat // z≤l.length∧∀ x∈l.take z,x<s}) (fun zz=>[(0,.slice ad (List.length l) cap),(1,str s),(5,.int .i64 (zz.1:Int))]) (fun _=>_) (fun _=>_) (fun zz=>l.length - zz.1) ⟨0,by simp⟩ ?_
 rintro ⟨k,hk⟩
 refine cR_ [(0,.slice ad (List.length l) cap),(1,str s),(5,.int .i64 (k:Int))] zl ?_
 refine Zi 6 (fun hr1=>?_) fun hr1=>?_
 ·refine Zz 15 ?_
  have hks:kS l s=k:=nX_ hk.1 hk.2 (fun x hx=>by have:=(List.getElem?_eq_some_iff.1 hx).1;omega)
  refine Zi 2 (fun hr2=>?_) fun hr2=>?_
  ·refine Zi 8 (fun hr3=>?_) fun hr3=>?_
   ·refine Zz 18 ?_
    refine dw_ G_ E_ rfl fun b1=>Zz 2 ?_
    refine i_ (aR_ (ck_ (i:=0) (j:=k) (kl:=.i64) (kh:=.i64) G_ E_ rfl rfl rfl (by omega) (by omega)) (show _=Value.slice (sad ad cap 0 1) (List.length (List.take k l)) (cap - 0) by rw[List.length_take,Nat.min_eq_left (by omega)];rfl)) rfl ?_
    have hr0:aO_ 9 1 (.slice (some ⟨b1,0,none⟩) 0 0) 0 [] [(b1,.cells #[] 9 (0,0))]:=⟨rfl,.inr ⟨b1,0,#[],rfl,rfl,Nat.le_refl _,Nat.zero_le _,rfl,rfl⟩⟩
    refine au_ (news:=(List.take k l).flatMap aL_) lI_ hr0 rfl rfl (fun q=>by have:=hc.2.2 (dk_ q);omega) (by rw[List.length_take];omega) (.refl _) (by rw[bk_ aL_ 1 as_]) (fun v _ h=>by exact (bg_.slice as_ h.1 hc.1 0 k)) (fun u hu=>gG_ hu) (by rw[List.length_take];simp only[maxLen];omega) (by rw[List.length_take];omega) rfl fun sv1 Hr1 hr1=>?_
    refine y_ (@List.perm_append_comm _ _ []) (Zz 7 ?_)
    refine N_ G_ E_ aT_ rfl rfl rfl rfl rfl rfl fun b2=>?_
    refine ap_ (news:=[str s]) lI_ hr1 rfl rfl zp rfl (bA_ 0 rfl) (kj_ rfl) (by rw[List.length_take];simp only[maxLen];omega) (by rw[List.length_take];omega) rfl fun sv2 Hr2 hr2=>?_
    refine y_ (@List.perm_append_comm _ _ [_]) (Zz 8 ?_)
    refine i_ (aR_ (ck_ (i:=k) (j:=l.length) (kl:=.i64) (kh:=.i64) G_ E_ rfl rfl rfl (by omega) (by omega)) (show _=Value.slice (sad ad cap k 1) (List.length (List.drop k l)) (cap - k) by rw[List.length_drop])) rfl (au_ (news:=(List.drop k l).flatMap aL_) lI_ hr2 rfl rfl (fun q=>by have:=hc.2.2 (dk_ q);omega) (by rw[List.length_drop];omega) (c_ aD_) (by rw[bk_ aL_ 1 as_]) (fun v _ h=>by exact (bg_.rest as_ h.1 hc.1 k)) (fun u hu=>gG_ hu) (by rw[List.length_drop,List.length_take];simp only[maxLen];omega) (by rw[List.length_drop,List.length_take];omega) rfl fun sv3 Hr3 hr3=>?_)
    refine y_ (@List.perm_append_comm _ _ [_]) (Zz 4 ?_)
    have ew:bl_ l s=l.take k++[s]++l.drop k:=by unfold bl_;rw[hks,if_neg (by simp_all)]
    have hr4:aO_ 9 1 sv3 (bl_ l s).length ((bl_ l s).flatMap aL_) Hr3:=by rw[ew,List.flatMap_append,List.flatMap_append,List.length_append,List.length_append];simpa [aL_] using hr3
    refine bj_ hr4 (c_ aD_) fun ad2 cp2 hsv hc1 hc2 hc3=>?_
    exact S_ gX_ ⟨(ad2,cp2),hc1,hc2,hc3⟩ (bZ_ rfl hsv) j_ zf
   obtain⟨hlx1,x1,hx1,hmx1⟩:=zge (show k<List.length l by omega)
   refine Zi 13 (fun hr4=>?_) fun hr4=>?_
   ·refine Zz 10 ?_
    refine dw_ G_ E_ rfl fun b3=>Zz 2 ?_
    refine i_ (aR_ (ck_ (i:=0) (j:=k) (kl:=.i64) (kh:=.i64) G_ E_ rfl rfl rfl (by omega) (by omega)) (show _=Value.slice (sad ad cap 0 1) (List.length (List.take k l)) (cap - 0) by rw[List.length_take,Nat.min_eq_left (by omega)];rfl)) rfl ?_
    have hr0:aO_ 9 1 (.slice (some ⟨b3,0,none⟩) 0 0) 0 [] [(b3,.cells #[] 9 (0,0))]:=⟨rfl,.inr ⟨b3,0,#[],rfl,rfl,Nat.le_refl _,Nat.zero_le _,rfl,rfl⟩⟩
    refine au_ (news:=(List.take k l).flatMap aL_) lI_ hr0 rfl rfl (fun q=>by have:=hc.2.2 (dk_ q);omega) (by rw[List.length_take];omega) (.refl _) (by rw[bk_ aL_ 1 as_]) (fun v _ h=>by exact (bg_.slice as_ h.1 hc.1 0 k)) (fun u hu=>gG_ hu) (by rw[List.length_take];simp only[maxLen];omega) (by rw[List.length_take];omega) rfl fun sv1 Hr1 hr1=>?_
    refine y_ (@List.perm_append_comm _ _ []) (Zz 7 ?_)
    refine N_ G_ E_ aT_ rfl rfl rfl rfl rfl rfl fun b4=>?_
    refine ap_ (news:=[str s]) lI_ hr1 rfl rfl zp rfl (bA_ 0 rfl) (kj_ rfl) (by rw[List.length_take];simp only[maxLen];omega) (by rw[List.length_take];omega) rfl fun sv2 Hr2 hr2=>?_
    refine y_ (@List.perm_append_comm _ _ [_]) (Zz 8 ?_)
    refine i_ (aR_ (ck_ (i:=k) (j:=l.length) (kl:=.i64) (kh:=.i64) G_ E_ rfl rfl rfl (by omega) (by omega)) (show _=Value.slice (sad ad cap k 1) (List.length (List.drop k l)) (cap - k) by rw[List.length_drop])) rfl (au_ (news:=(List.drop k l).flatMap aL_) lI_ hr2 rfl rfl (fun q=>by have:=hc.2.2 (dk_ q);omega) (by rw[List.length_drop];omega) (c_ aD_) (by rw[bk_ aL_ 1 as_]) (fun v _ h=>by exact (bg_.rest as_ h.1 hc.1 k)) (fun u hu=>gG_ hu) (by rw[List.length_drop,List.length_take];simp only[maxLen];omega) (by rw[List.length_drop,List.length_take];omega) rfl fun sv3 Hr3 hr3=>?_)
    refine y_ (@List.perm_append_comm _ _ [_]) (Zz 4 ?_)
    have ew:bl_ l s=l.take k++[s]++l.drop k:=by unfold bl_;rw[hks,if_neg (by simp_all)]
    have hr4:aO_ 9 1 sv3 (bl_ l s).length ((bl_ l s).flatMap aL_) Hr3:=by rw[ew,List.flatMap_append,List.flatMap_append,List.length_append,List.length_append];simpa [aL_] using hr3
    refine bj_ hr4 (c_ aD_) fun ad2 cp2 hsv hc1 hc2 hc3=>?_
    exact S_ gX_ ⟨(ad2,cp2),hc1,hc2,hc3⟩ (bZ_ rfl hsv) j_ zf
   refine Zz 13 ?_
   have ew:bl_ l s=l:=by unfold bl_;rw[hks,if_pos (by simp_all)]
   exact S_ gX_ ⟨(ad,cap),by rw[ew];exact hc⟩ (bZ_ rfl (by dsimp only;rw[ew])) j_ (fun v _ h=>⟨by show bg_ v ad ((bl_ l s).flatMap aL_);rw[ew];exact h.1,trivial⟩)
  refine Zz 24 ?_
  have ew:bl_ l s=l:=by unfold bl_;rw[hks,if_pos (by simp_all)]
  exact S_ gX_ ⟨(ad,cap),by rw[ew];exact hc⟩ (bZ_ rfl (by dsimp only;rw[ew])) j_ (fun v _ h=>⟨by show bg_ v ad ((bl_ l s).flatMap aL_);rw[ew];exact h.1,trivial⟩)
 obtain⟨hlx1,x1,hx1,hmx1⟩:=zge (show k<List.length l by omega)
 refine Zi 12 (fun hr5=>?_) fun hr5=>?_
 ·refine Zz 8 ?_
  have hks:kS l s=k:=nX_ hk.1 hk.2 (fun x hx=>by rw[hx1]at hx;cases hx;assumption)
  refine Zi 2 (fun hr6=>?_) fun hr6=>?_
  ·refine Zi 8 (fun hr7=>?_) fun hr7=>?_
   ·exfalso;omega
   refine Zi 13 (fun hr8=>?_) fun hr8=>?_
   ·refine Zz 10 ?_
    refine dw_ G_ E_ rfl fun b5=>Zz 2 ?_
    refine i_ (aR_ (ck_ (i:=0) (j:=k) (kl:=.i64) (kh:=.i64) G_ E_ rfl rfl rfl (by omega) (by omega)) (show _=Value.slice (sad ad cap 0 1) (List.length (List.take k l)) (cap - 0) by rw[List.length_take,Nat.min_eq_left (by omega)];rfl)) rfl ?_
    have hr0:aO_ 9 1 (.slice (some ⟨b5,0,none⟩) 0 0) 0 [] [(b5,.cells #[] 9 (0,0))]:=⟨rfl,.inr ⟨b5,0,#[],rfl,rfl,Nat.le_refl _,Nat.zero_le _,rfl,rfl⟩⟩
    refine au_ (news:=(List.take k l).flatMap aL_) lI_ hr0 rfl rfl (fun q=>by have:=hc.2.2 (dk_ q);omega) (by rw[List.length_take];omega) (.refl _) (by rw[bk_ aL_ 1 as_]) (fun v _ h=>by exact (bg_.slice as_ h.1 hc.1 0 k)) (fun u hu=>gG_ hu) (by rw[List.length_take];simp only[maxLen];omega) (by rw[List.length_take];omega) rfl fun sv1 Hr1 hr1=>?_
    refine y_ (@List.perm_append_comm _ _ []) (Zz 7 ?_)
    refine N_ G_ E_ aT_ rfl rfl rfl rfl rfl rfl fun b6=>?_
    refine ap_ (news:=[str s]) lI_ hr1 rfl rfl zp rfl (bA_ 0 rfl) (kj_ rfl) (by rw[List.length_take];simp only[maxLen];omega) (by rw[List.length_take];omega) rfl fun sv2 Hr2 hr2=>?_
    refine y_ (@List.perm_append_comm _ _ [_]) (Zz 8 ?_)
    refine i_ (aR_ (ck_ (i:=k) (j:=l.length) (kl:=.i64) (kh:=.i64) G_ E_ rfl rfl rfl (by omega) (by omega)) (show _=Value.slice (sad ad cap k 1) (List.length (List.drop k l)) (cap - k) by rw[List.length_drop])) rfl (au_ (news:=(List.drop k l).flatMap aL_) lI_ hr2 rfl rfl (fun q=>by have:=hc.2.2 (dk_ q);omega) (by rw[List.length_drop];omega) (c_ aD_) (by rw[bk_ aL_ 1 as_]) (fun v _ h=>by exact (bg_.rest as_ h.1 hc.1 k)) (fun u hu=>gG_ hu) (by rw[List.length_drop,List.length_take];simp only[maxLen];omega) (by rw[List.length_drop,List.length_take];omega) rfl fun sv3 Hr3 hr3=>?_)
    refine y_ (@List.perm_append_comm _ _ [_]) (Zz 4 ?_)
    have ew:bl_ l s=l.take k++[s]++l.drop k:=by unfold bl_;rw[hks,if_neg (by simp_all)]
    have hr4:aO_ 9 1 sv3 (bl_ l s).length ((bl_ l s).flatMap aL_) Hr3:=by rw[ew,List.flatMap_append,List.flatMap_append,List.length_append,List.length_append];simpa [aL_] using hr3
    refine bj_ hr4 (c_ aD_) fun ad2 cp2 hsv hc1 hc2 hc3=>?_
    exact S_ gX_ ⟨(ad2,cp2),hc1,hc2,hc3⟩ (bZ_ rfl hsv) j_ zf
   refine Zz 13 ?_
   have ew:bl_ l s=l:=by unfold bl_;rw[hks,if_pos (by simp_all)]
   exact S_ gX_ ⟨(ad,cap),by rw[ew];exact hc⟩ (bZ_ rfl (by dsimp only;rw[ew])) j_ (fun v _ h=>⟨by show bg_ v ad ((bl_ l s).flatMap aL_);rw[ew];exact h.1,trivial⟩)
  refine Zz 24 ?_
  have ew:bl_ l s=l:=by unfold bl_;rw[hks,if_pos (by simp_all)]
  exact S_ gX_ ⟨(ad,cap),by rw[ew];exact hc⟩ (bZ_ rfl (by dsimp only;rw[ew])) j_ (fun v _ h=>⟨by show bg_ v ad ((bl_ l s).flatMap aL_);rw[ew];exact h.1,trivial⟩)
 refine Zz 13 ?_
 exact u_ ⟨k+1,hlx1,fun x hx=>by rw[List.take_add_one,hx1]at hx;simp only[Option.toList_some,List.mem_append,List.mem_singleton]at hx;rcases hx with hx|rfl;exact hk.2 x hx;assumption⟩ (by dsimp only;omega) zl (.refl _) zh
theorem nB_ (l:List Pc) (ad:Option Addr) (cap:Nat) (hl:l.length≤10000000000):Tri Tryz.prog 110 #[.slice ad (List.length l) cap] [] [af_ ad (List.flatMap Pc.cells l)] (fun y:{y:Option Addr×Nat // (cu_ l).length≤y.2∧y.2≤maxLen∧(y.1=none→y.2=0)}=>.slice y.1.1 (cu_ l).length y.1.2) (fun _=>[]) (fun y=>[af_ y.1.1 ((cu_ l).flatMap aL_)]):=by
 refine x_ Tryz.func110 rfl rfl Tryz.ntmps110 rfl fun v0=>?_
 refine Zz 17 ?_
 refine cR_ [(0,.slice ad (List.length l) cap),(3,.slice none 0 0),(4,.int .i64 0)] zl ?_
 refine gc_ (Γ':=af_ none ((cu_ (List.take 0 l)).flatMap aL_)::[af_ ad (List.flatMap Pc.cells l)]) (fun v _ h=>⟨.inl rfl,h⟩) ?_
 refine dy_ (ι:={y:Nat×Option Addr×Nat // y.1≤l.length∧((cu_ (List.take y.1 l)).length≤y.2.2∧y.2.2≤maxLen∧(y.2.1=none→y.2.2=0))}) (fun y=>[(0,.slice ad (List.length l) cap),(3,.slice y.1.2.1 (List.length (cu_ (List.take y.1.1 l))) y.1.2.2),(4,.int .i64 (y.1.1:Int))]) (fun _=>_) (fun y=>af_ y.1.2.1 ((cu_ (List.take y.1.1 l)).flatMap aL_)::[af_ ad (List.flatMap Pc.cells l)]) (fun y=>l.length - y.1.1) ⟨(0,none,0),by simp,by simp[cu_]⟩ ?_
 rintro ⟨⟨i,a,cp⟩,hi,hcp⟩
 dsimp only at hi hcp
 dsimp only
 have hal:=hs_ (l.take i)
 rw[List.length_take]at hal
 refine cR_ [(0,.slice ad (List.length l) cap),(3,.slice a (List.length (cu_ (List.take i l))) cp),(4,.int .i64 (i:Int))] zl ?_
 refine Zi 6 (fun hr1=>?_) fun hr1=>?_
 ·refine Zz 12 ?_
  have et:l.take i=l:=List.take_of_length_le (by omega)
  rw[et]at hcp
  exact S_ Tryz.results110 ⟨(a,cp),hcp⟩ (bZ_ rfl (by rw[et])) j_ (fun v _ h=>⟨by have:=h.1;rw[et]at this;exact this,trivial⟩)
 obtain⟨hlx1,x1,hx1,hmx1⟩:=zge (show i<List.length l by omega)
 refine Zz 8 ?_
 refine p_ 4 [0,1,2,3,4,5,7,8,9,10,11,13,14,15,16,17] zk zs (Zz 17 ?_)
 refine m_ 6 rfl zk (o_ (oC_ (cu_ (List.take i l)) a cp x1.a (by omega) hcp) rfl j_ zf rfl fun⟨⟨a1,c1⟩,hc1⟩=>?_)
 dsimp only
 have hwl1:=fc_ (cu_ (List.take i l)) x1.a
 refine Zz 3 ?_
 refine m_ 12 rfl zk (o_ (oC_ (bl_ (cu_ (List.take i l)) x1.a) a1 c1 x1.b (by omega) hc1) rfl j_ zf rfl fun⟨⟨a2,c2⟩,hc2⟩=>?_)
 dsimp only
 have hwl2:=fc_ (bl_ (cu_ (List.take i l)) x1.a) x1.b
 refine Zz 3 ?_
 refine m_ 18 rfl zk (o_ (oC_ (bl_ (bl_ (cu_ (List.take i l)) x1.a) x1.b) a2 c2 x1.c (by omega) hc2) rfl j_ zf rfl fun⟨⟨a3,c3⟩,hc3⟩=>?_)
 dsimp only
 have hwl3:=fc_ (bl_ (bl_ (cu_ (List.take i l)) x1.a) x1.b) x1.c
 refine Zz 3 ?_
 refine p_ 0 [19] zk zs (Zz 10 ?_)
 have hst:=oy_ hx1
 exact u_ ⟨(i+1,a3,c3),hlx1,by dsimp only;rw[hst];exact hc3⟩ (by dsimp only;omega) ⟨rfl,(bZ_ rfl (by dsimp only;rw[hst])),rfl,trivial⟩ j_ (fun _ _ h=>⟨by dsimp only;rw[hst];exact h.1,h.2.2.2.2.1,trivial⟩)
end Go.Proofs.YtkeanlfhghlgiaaGreatDoor
