/-
  Part of the proof of the law ProofSound over this seat: the small logic, the data, the contracts of functions (no condition).
-/
import Derived.Test.YtkeanlfhghlgiaaGreatDoorProg
import Derived.Test.YtkeanlfhghlgiaaGreatDoorQProofSound2
import Derived.ProofKit
import Derived.OpenShut
import Derived.ReadAgain
import Derived.Deep.Slices
import Derived.SevenTiedAt
import Derived.Stop.Joined
import Derived.Lay
import Derived.LaidMore
import Derived.Lib.SlicesCompact
import Derived.Sort.EncStr
set_option linter.unusedVariables false
set_option linter.unusedSimpArgs false
set_option linter.unusedSectionVars false
set_option maxHeartbeats 1000000
namespace Go.Proofs.YtkeanlfhghlgiaaGreatDoor
open Go Go.Sx Go.Proofs
attribute [local irreducible] Code.wp wpList wpAnyH
open Go.Vs
theorem jT_ (c:UInt8) :
    Fn0 Tryz.prog 205 #[.int .u8 (c.toNat:Int)] (.bool (fx_ c)):=by
  refine u_ Tryz.func205 rfl rfl Tryz.ntmps205 rfl fun v0=>?_
  refine Zi 8 (fun hr1=>?_) fun hr1=>?_
  · skip
    refine Zi 8 (fun hr2=>?_) fun hr2=>?_
    · skip
      refine Zz 11 ?_
      exact al_ nJ_ () (t_ rfl (by subst_vars;rw[Bool.eq_iff_iff];simp[fx_]<;>omega)) (.refl _) zt
    · skip
      refine Zz 5 ?_
      refine aT_ (eP_ rfl rfl) rfl fun r3 hr3=>Zz 7 ?_
      exact al_ nJ_ () (t_ rfl (by subst_vars;rw[Bool.eq_iff_iff];simp[fx_]<;>omega)) (.refl _) zt
  · skip
    refine Zi 4 (fun hr4=>?_) fun hr4=>?_
    · skip
      refine Zi 5 (fun hr5=>?_) fun hr5=>?_
      · skip
        refine Zz 11 ?_
        exact al_ nJ_ () (t_ rfl (by subst_vars;rw[Bool.eq_iff_iff];simp[fx_]<;>omega)) (.refl _) zt
      · skip
        refine Zz 5 ?_
        refine aT_ (eP_ rfl rfl) rfl fun r6 hr6=>Zz 7 ?_
        exact al_ nJ_ () (t_ rfl (by subst_vars;rw[Bool.eq_iff_iff];simp[fx_]<;>omega)) (.refl _) zt
    · skip
      refine Zz 13 ?_
      exact al_ nJ_ () (t_ rfl (by subst_vars;rw[Bool.eq_iff_iff];simp[fx_]<;>omega)) (.refl _) zt
theorem my_ (s:Str) (hs:s.length≤140737488351232) :
    Fn0 Tryz.prog 196 #[str s] (.bool (kC_ s)):=by
  refine u_ Tryz.func196 rfl rfl Tryz.ntmps196 rfl fun v0=>?_
  refine Zz 9 ?_
  refine rP_ U_ bW_ Tryz.runUnderlying5 rfl rfl fun cap b1 hcap=>Zz 5 ?_
  refine do_ [(6,.slice (some ⟨b1,0,none⟩) s.length cap),(7,.int .i64 (s.length:Int)),(8,.int .i64 ((0:Nat):Int))] zl ?_
  refine ej_ (ι:={k:Nat // k≤s.length∧(s.take k).all fF_=true}) (fun i=>[(6,.slice (some ⟨b1,0,none⟩) s.length cap),(7,.int .i64 (s.length:Int)),(8,.int .i64 (i.1:Int))]) (fun _=>_) (fun _=>_) (fun i=>s.length - i.1) ⟨0,by simp⟩ ?_
  rintro ⟨k,hk⟩
  refine do_ [(6,.slice (some ⟨b1,0,none⟩) s.length cap),(7,.int .i64 (s.length:Int)),(8,.int .i64 (k:Int))] zl ?_
  refine Zi 2 (fun hr1=>?_) fun hr1=>?_
  · skip
    refine Zz 12 ?_
    exact al_ Tryz.results196 () (t_ rfl (by rw[kC_,lg_ fF_ s k (by omega) hk.2])) (.refl _) zt
  · skip
    have hlt:k<s.length:=by omega
    obtain⟨c,hc⟩:∃ c,s[k]? = some c:=⟨_,List.getElem?_eq_getElem hlt⟩
    refine Zz 10 ?_
    refine i_ (gX_ bW_ Tryz.sizeOf5 rfl rfl (by omega) (by omega)) rfl (i_ (bp_ (u:=.int .u8 (c.toNat:Int)) 0 Tryz.isAgg5 rfl rfl (by rw[show 0+((k:Int)).toNat*1=k by omega];exact qB_ hc)) rfl ?_)
    refine Zz 6 ?_
    refine bm_ (jT_ c) rfl (.refl _) zt rfl fun r2 hr2=>i_ (bI_ rfl) rfl (Zz 1 ?_)
    cases r2
    · skip
      refine Zi 3 (fun hr3=>?_) fun hr3=>?_
      · skip
        refine Zz 19 ?_
        exact C_ ⟨k+1,hlt,fB_ _ s k c hc hk.2 (by simp[fF_, *]<;>omega)⟩ (by simp;omega) zl (.refl _) zh
      · skip
        refine Zi 5 (fun hr4=>?_) fun hr4=>?_
        · skip
          refine Zi 5 (fun hr5=>?_) fun hr5=>?_
          · skip
            refine Zz 13 ?_
            exact C_ ⟨k+1,hlt,fB_ _ s k c hc hk.2 (by simp[fF_, *]<;>omega)⟩ (by simp;omega) zl (.refl _) zh
          · skip
            refine Zz 12 ?_
            exact al_ Tryz.results196 () (t_ rfl (by rw[kC_,hJ_ fF_ s k c hc (by simp[fF_, *]<;>omega)])) (.refl _) zt
        · skip
          refine Zz 16 ?_
          exact al_ Tryz.results196 () (t_ rfl (by rw[kC_,hJ_ fF_ s k c hc (by simp[fF_, *]<;>omega)])) (.refl _) zt
    · skip
      refine Zz 21 ?_
      exact C_ ⟨k+1,hlt,fB_ _ s k c hc hk.2 (by simp[fF_, *]<;>omega)⟩ (by simp;omega) zl (.refl _) zh
theorem oL_ (s:Str) :
    Fn0 Tryz.prog 206 #[str s] (.bool (bG_ s)):=by
  refine u_ Tryz.func206 rfl rfl Tryz.ntmps206 rfl fun v0=>?_
  refine Zi 15 (fun hr1=>?_) fun hr1=>?_
  · skip
    refine Zi 6 (fun hr2=>?_) fun hr2=>?_
    · skip
      refine Zi 6 (fun hr3=>?_) fun hr3=>?_
      · skip
        refine Zi 6 (fun hr4=>?_) fun hr4=>?_
        · skip
          refine Zi 6 (fun hr5=>?_) fun hr5=>?_
          · skip
            refine Zi 6 (fun hr6=>?_) fun hr6=>?_
            · skip
              refine Zi 6 (fun hr7=>?_) fun hr7=>?_
              · skip
                refine Zi 6 (fun hr8=>?_) fun hr8=>?_
                · skip
                  refine Zi 6 (fun hr9=>?_) fun hr9=>?_
                  · skip
                    refine Zi 6 (fun hr10=>?_) fun hr10=>?_
                    · skip
                      refine Zi 6 (fun hr11=>?_) fun hr11=>?_
                      · skip
                        refine Zi 6 (fun hr12=>?_) fun hr12=>?_
                        · skip
                          refine Zi 6 (fun hr13=>?_) fun hr13=>?_
                          · skip
                            refine Zi 6 (fun hr14=>?_) fun hr14=>?_
                            · skip
                              refine Zi 6 (fun hr15=>?_) fun hr15=>?_
                              · skip
                                refine Zi 6 (fun hr16=>?_) fun hr16=>?_
                                · skip
                                  refine Zi 6 (fun hr17=>?_) fun hr17=>?_
                                  · skip
                                    refine Zi 6 (fun hr18=>?_) fun hr18=>?_
                                    · skip
                                      refine Zi 6 (fun hr19=>?_) fun hr19=>?_
                                      · skip
                                        refine Zi 6 (fun hr20=>?_) fun hr20=>?_
                                        · skip
                                          refine Zi 6 (fun hr21=>?_) fun hr21=>?_
                                          · skip
                                            refine Zi 5 (fun hr22=>?_) fun hr22=>?_
                                            · skip
                                              refine Zz 12 ?_
                                              exact al_ aG_ () (t_ rfl (by simp[bG_,kws, *])) (.refl _) zt
                                            · skip
                                              refine Zz 10 ?_
                                              exact al_ aG_ () (t_ rfl (by simp[bG_,kws, *])) (.refl _) zt
                                          · skip
                                            refine Zz 13 ?_
                                            exact al_ aG_ () (t_ rfl (by simp[bG_,kws, *])) (.refl _) zt
                                        · skip
                                          refine Zz 13 ?_
                                          exact al_ aG_ () (t_ rfl (by simp[bG_,kws, *])) (.refl _) zt
                                      · skip
                                        refine Zz 13 ?_
                                        exact al_ aG_ () (t_ rfl (by simp[bG_,kws, *])) (.refl _) zt
                                    · skip
                                      refine Zz 13 ?_
                                      exact al_ aG_ () (t_ rfl (by simp[bG_,kws, *])) (.refl _) zt
                                  · skip
                                    refine Zz 13 ?_
                                    exact al_ aG_ () (t_ rfl (by simp[bG_,kws, *])) (.refl _) zt
                                · skip
                                  refine Zz 13 ?_
                                  exact al_ aG_ () (t_ rfl (by simp[bG_,kws, *])) (.refl _) zt
                              · skip
                                refine Zz 13 ?_
                                exact al_ aG_ () (t_ rfl (by simp[bG_,kws, *])) (.refl _) zt
                            · skip
                              refine Zz 13 ?_
                              exact al_ aG_ () (t_ rfl (by simp[bG_,kws, *])) (.refl _) zt
                          · skip
                            refine Zz 13 ?_
                            exact al_ aG_ () (t_ rfl (by simp[bG_,kws, *])) (.refl _) zt
                        · skip
                          refine Zz 13 ?_
                          exact al_ aG_ () (t_ rfl (by simp[bG_,kws, *])) (.refl _) zt
                      · skip
                        refine Zz 13 ?_
                        exact al_ aG_ () (t_ rfl (by simp[bG_,kws, *])) (.refl _) zt
                    · skip
                      refine Zz 13 ?_
                      exact al_ aG_ () (t_ rfl (by simp[bG_,kws, *])) (.refl _) zt
                  · skip
                    refine Zz 13 ?_
                    exact al_ aG_ () (t_ rfl (by simp[bG_,kws, *])) (.refl _) zt
                · skip
                  refine Zz 13 ?_
                  exact al_ aG_ () (t_ rfl (by simp[bG_,kws, *])) (.refl _) zt
              · skip
                refine Zz 13 ?_
                exact al_ aG_ () (t_ rfl (by simp[bG_,kws, *])) (.refl _) zt
            · skip
              refine Zz 13 ?_
              exact al_ aG_ () (t_ rfl (by simp[bG_,kws, *])) (.refl _) zt
          · skip
            refine Zz 13 ?_
            exact al_ aG_ () (t_ rfl (by simp[bG_,kws, *])) (.refl _) zt
        · skip
          refine Zz 13 ?_
          exact al_ aG_ () (t_ rfl (by simp[bG_,kws, *])) (.refl _) zt
      · skip
        refine Zz 13 ?_
        exact al_ aG_ () (t_ rfl (by simp[bG_,kws, *])) (.refl _) zt
    · skip
      refine Zz 13 ?_
      exact al_ aG_ () (t_ rfl (by simp[bG_,kws, *])) (.refl _) zt
  · skip
    refine Zz 13 ?_
    exact al_ aG_ () (t_ rfl (by simp[bG_,kws, *])) (.refl _) zt
end Go.Proofs.YtkeanlfhghlgiaaGreatDoor
namespace Go.Proofs.YtkeanlfhghlgiaaGreatDoor
open Go Go.Sx Go.Proofs
attribute [local irreducible] Code.wp wpList wpAnyH
open Go.Vs
theorem jS_ (s:Str) (hs:s.length≤140737488351232) :
    Fn0 Tryz.prog 195 #[str s] (.bool (iB_ s)):=by
  refine u_ Tryz.func195 rfl rfl Tryz.ntmps195 rfl fun v0=>?_
  refine Zi 8 (fun hr1=>?_) fun hr1=>?_
  · skip
    refine Zz 18 ?_
    exact al_ Tryz.results195 () (t_ rfl (by simp[iB_, *])) (.refl _) zt
  · skip
    obtain⟨c,t,rfl⟩:=List.exists_cons_of_ne_nil hr1
    refine Zz 4 ?_
    refine i_ (ds_ U_ rfl rfl (by decide) rfl) rfl (aK_ rfl rfl (bm_ (jT_ _) rfl (.refl _) zt rfl fun r2 hr2=>Zz 2 ?_))
    cases r2
    · skip
      refine Zz 12 ?_
      exact al_ Tryz.results195 () (t_ rfl (by simp[iB_, *])) (.refl _) zt
    · skip
      refine Zz 3 ?_
      refine bm_ (my_ _ (by assumption)) rfl (.refl _) zt rfl fun r3 hr3=>Zz 2 ?_
      cases r3
      · skip
        refine Zz 8 ?_
        exact al_ Tryz.results195 () (t_ rfl (by simp[iB_, *])) (.refl _) zt
      · skip
        refine Zz 3 ?_
        refine bm_ (oL_ _) rfl (.refl _) zt rfl fun r4 hr4=>aK_ rfl rfl (i_ (bI_ rfl) rfl (Zz 5 ?_))
        exact al_ Tryz.results195 () (t_ rfl (by simp[iB_, *])) (.refl _) zt
theorem lt_ (s:Str) (hs:s.length≤140737488351232) :
    Fn0 Tryz.prog 179 #[str s] (.bool (dE_ s)):=by
  refine u_ Tryz.func179 rfl rfl Tryz.ntmps179 rfl fun v0=>?_
  refine Zz 8 ?_
  refine i_ (cm_ U_ rfl) rfl ?_
  refine Zi 0 (fun hr1=>?_) fun hr1=>?_
  · skip
    refine Zz 18 ?_
    exact al_ Tryz.results179 () (t_ rfl (by subst_vars;rw[Bool.eq_iff_iff];simp[dE_]<;>simp at*<;> omega)) (.refl _) zt
  · skip
    refine Zz 4 ?_
    refine i_ (cm_ U_ rfl) rfl (aK_ rfl rfl ?_)
    refine Zi 0 (fun hr2=>?_) fun hr2=>?_
    · skip
      refine Zz 14 ?_
      exact al_ Tryz.results179 () (t_ rfl (by subst_vars;rw[Bool.eq_iff_iff];simp[dE_]<;>simp at*<;> omega)) (.refl _) zt
    · skip
      obtain⟨c,t,rfl⟩:=List.exists_cons_of_length_pos (l:=s) (by omega)
      refine Zz 5 ?_
      refine i_ (ds_ U_ rfl rfl (by decide) rfl) rfl (aK_ rfl rfl ?_)
      refine Zi 0 (fun hr3=>?_) fun hr3=>?_
      · skip
        refine Zz 9 ?_
        exact al_ Tryz.results179 () (t_ rfl (by subst_vars;rw[Bool.eq_iff_iff];simp[dE_]<;>simp at*<;> omega)) (.refl _) zt
      · skip
        refine Zz 5 ?_
        refine bm_ (my_ _ (by assumption)) rfl (.refl _) zt rfl fun r4 hr4=>Zz 5 ?_
        exact al_ Tryz.results179 () (t_ rfl (by subst_vars;rw[Bool.eq_iff_iff];simp[dE_]<;>simp at*<;> omega)) (.refl _) zt
theorem iF_ (s:Str) (c:UInt8):Fn0 Tryz.prog 203 #[str s,str [c]] (.int .i64 (Lib.indexByte s c)) :=
  gq_ (callable Tryz.func203 rfl rfl) fun w=>(Tryz.stringslite_Index_one ⟨s.toArray⟩ c w).mono (by rintro e w' ⟨rfl,rfl⟩;exact⟨rfl,rfl,rfl,rfl,rfl,Nat.le_refl _⟩)
theorem lx_ (s:Str) (c:UInt8) (hk:ixS c s=none):Fn0 Tryz.prog 203 #[str s,str [c]] (.int .i64 (-1)):=by
  have h:=iF_ s c
  rw[iZ_,hk]at h
  exact h
theorem lw_ (s:Str) (c:UInt8) (k:Nat) (hk:ixS c s=some k):Fn0 Tryz.prog 203 #[str s,str [c]] (.int .i64 (k:Int)):=by
  have h:=iF_ s c
  rw[iZ_,hk]at h
  exact h
theorem oX_ (s:Str) (c:UInt8) (hk:ixS c s=none) :
    Fn0 Tryz.prog 204 #[str s,str [c]] (.tuple #[str s,str [],.bool false]):=by
  refine u_ Tryz.func204 rfl rfl Tryz.ntmps204 rfl fun v0=>?_
  refine Zz 12 ?_
  refine n_ (lx_ s c hk) rfl (.refl _) zt rfl fun _=>Zi 6 (fun hr1=>?_) fun hr1=>?_
  · skip
    refine Zz 14 ?_
    exact fC_ Tryz.results204 () rfl rfl rfl rfl (.refl _) zt
  · skip
    exact absurd hr1 (by decide)
theorem oW_ (s:Str) (c:UInt8) (k:Nat) (hk:ixS c s=some k) (hl:k<s.length) (hs:s.length≤140737488351232) :
    Fn0 Tryz.prog 204 #[str s,str [c]] (.tuple #[str (s.take k),str (s.drop (k+1)),.bool true]):=by
  refine u_ Tryz.func204 rfl rfl Tryz.ntmps204 rfl fun v0=>?_
  refine Zz 12 ?_
  refine n_ (lw_ s c k hk) rfl (.refl _) zt rfl fun _=>Zi 6 (fun hr1=>?_) fun hr1=>?_
  · skip
    exact absurd (by omega) hr1
  · skip
    refine Zz 5 ?_
    refine q_ 0 [0,1,2,3,4,5,6,7,8,9,10,11] zk zs (Zz 2 ?_)
    refine T_ rfl (fe_ (i:=0) (j:=k) (kl:=.i64) U_ rfl rfl rfl (by omega) (by omega)) rfl (Zz 3 ?_)
    refine T_ rfl (cm_ U_ rfl) rfl ?_
    refine T_ rfl (dk_ rfl rfl rfl (fA_ (by simp only[List.length_cons,List.length_nil];omega) (by simp only[List.length_cons,List.length_nil];omega))) rfl ?_
    refine T_ rfl (fe_ (i:=k+1) (j:=s.length) (kh:=.i64) U_ rfl rfl rfl (by omega) (by omega)) rfl (Zz 7 ?_)
    exact fC_ Tryz.results204 () rfl rfl rfl (by simp[List.take_of_length_le]) (.refl _) zt
theorem qY_ (s:Str) (c:UInt8) (hk:ixS c s=none) :
    Fn0 Tryz.prog 194 #[str s,str [c]] (.tuple #[str s,str [],.bool false]):=by
  refine u_ Tryz.func194 rfl rfl Tryz.ntmps194 rfl fun v0=>?_
  refine Zz 11 ?_
  refine n_ (oX_ s c hk) rfl (.refl _) zt rfl fun _=>Zz 9 ?_
  exact fC_ Tryz.results194 () rfl rfl rfl rfl (.refl _) zt
theorem lv_ (s:Str) (hk:ixS 58 s=none) :
    Fn0 Tryz.prog 178 #[str s] (.bool (dZ_ s)):=by
  refine u_ Tryz.func178 rfl rfl Tryz.ntmps178 rfl fun v0=>?_
  refine Zz 9 ?_
  refine i_ (cm_ U_ rfl) rfl ?_
  refine Zi 0 (fun hr1=>?_) fun hr1=>?_
  · skip
    refine Zz 8 ?_
    refine n_ (qY_ s 58 hk) rfl (.refl _) zt rfl fun _=>Zz 12 ?_
    refine bm_ (jS_ _ (by first|omega|(simp;omega))) rfl (.refl _) zt rfl fun r2 hr2=>?_
    refine Zz 1 ?_
    cases r2
    · skip
      refine Zz 11 ?_
      exact al_ im_ () (t_ rfl (by simp[dZ_, *]<;>omega)) (.refl _) zt
    · skip
      refine Zz 3 ?_
      refine i_ (bI_ rfl) rfl (Zz 11 ?_)
      exact al_ im_ () (t_ rfl (by simp[dZ_, *]<;>omega)) (.refl _) zt
  · skip
    refine Zz 9 ?_
    exact al_ im_ () (t_ rfl (by simp[dZ_, *]<;>omega)) (.refl _) zt
theorem qX_ (s:Str) (c:UInt8) (k:Nat) (hk:ixS c s=some k) (hl:k<s.length) (hs:s.length≤140737488351232) :
    Fn0 Tryz.prog 194 #[str s,str [c]] (.tuple #[str (s.take k),str (s.drop (k+1)),.bool true]):=by
  refine u_ Tryz.func194 rfl rfl Tryz.ntmps194 rfl fun v0=>?_
  refine Zz 11 ?_
  refine n_ (oW_ s c k hk hl hs) rfl (.refl _) zt rfl fun _=>Zz 9 ?_
  exact fC_ Tryz.results194 () rfl rfl rfl rfl (.refl _) zt
theorem lu_ (s:Str) (k:Nat) (hk:ixS 58 s=some k) (hl:k<s.length) :
    Fn0 Tryz.prog 178 #[str s] (.bool (dZ_ s)):=by
  refine u_ Tryz.func178 rfl rfl Tryz.ntmps178 rfl fun v0=>?_
  refine Zz 9 ?_
  refine i_ (cm_ U_ rfl) rfl ?_
  refine Zi 0 (fun hr1=>?_) fun hr1=>?_
  · skip
    refine Zz 8 ?_
    refine n_ (qX_ s 58 k hk hl (by omega)) rfl (.refl _) zt rfl fun _=>Zz 12 ?_
    refine bm_ (jS_ _ (by first|omega|(simp;omega))) rfl (.refl _) zt rfl fun r2 hr2=>?_
    refine Zz 1 ?_
    cases r2
    · skip
      refine Zz 11 ?_
      exact al_ im_ () (t_ rfl (by simp[dZ_, *]<;>omega)) (.refl _) zt
    · skip
      refine Zz 3 ?_
      refine i_ (bI_ rfl) rfl (Zz 5 ?_)
      refine bm_ (jS_ _ (by first|omega|(simp;omega))) rfl (.refl _) zt rfl fun r3 hr3=>?_
      refine Zz 7 ?_
      exact al_ im_ () (t_ rfl (by simp[dZ_, *]<;>omega)) (.refl _) zt
  · skip
    refine Zz 9 ?_
    exact al_ im_ () (t_ rfl (by simp[dZ_, *]<;>omega)) (.refl _) zt
theorem oQ_ (s:Str):Fn0 Tryz.prog 178 #[str s] (.bool (dZ_ s)):=by
  cases hk:ixS 58 s with
  | none=>exact lv_ s hk
  | some k=>exact lu_ s k hk (nr_ hk)
theorem mO_ (s:Str) (hs:s.length≤140737488351232) :
    Fn0 Tryz.prog 155 #[str s] (.int .i64 (if cd_ s then 0 else 20)):=by
  refine u_ Tryz.func155 rfl rfl Tryz.ntmps155 rfl fun v0=>?_
  refine Zz 9 ?_
  refine bm_ (oQ_ _) rfl (.refl _) zt rfl fun r1 hr1=>Zz 1 ?_
  cases r1
  · skip
    refine Zz 3 ?_
    refine bm_ (lt_ _ hs) rfl (.refl _) zt rfl fun r2 hr2=>Zz 3 ?_
    cases r2
    · skip
      refine Zz 9 ?_
      exact al_ Tryz.results155 () (cs_ rfl (by simp[cd_, *])) (.refl _) zt
    · skip
      refine Zz 7 ?_
      exact al_ Tryz.results155 () (cs_ rfl (by simp[cd_, *])) (.refl _) zt
  · skip
    refine Zz 12 ?_
    exact al_ Tryz.results155 () (cs_ rfl (by simp[cd_, *])) (.refl _) zt
theorem dN_ (s:Str) (hs:s.length≤140737488351232) :
    Fn0 Tryz.prog 121 #[str s] (.bool (cd_ s)):=by
  refine u_ Tryz.func121 rfl rfl Tryz.ntmps121 rfl fun v0=>?_
  refine Zz 8 ?_
  refine n_ (mO_ s hs) rfl (.refl _) zt rfl fun _=>aT_ (dC_ rfl rfl) rfl fun r1 hr1=>Zz 4 ?_
  exact al_ Tryz.results121 () (t_ rfl (by subst_vars;cases cd_ s<;>rfl)) (.refl _) zt
end Go.Proofs.YtkeanlfhghlgiaaGreatDoor
namespace Go.Proofs.YtkeanlfhghlgiaaGreatDoor
open Go Go.Sx Go.Proofs
attribute [local irreducible] Code.wp wpList wpAnyH
open Go.Vs
def ih_:Fct:=aq_ (some ⟨0,0,none⟩) (qr_.flatMap NUse.cells)
end Go.Proofs.YtkeanlfhghlgiaaGreatDoor
namespace Go.Proofs.YtkeanlfhghlgiaaGreatDoor
open Go Go.Sx Go.Proofs
attribute [local irreducible] Code.wp wpList wpAnyH
open Go.Vs
theorem eqPc (p q:Pc) (w:World):(Op.equalIn 10000 52 p.val q.val).run Tryz.prog w=.ok (decide (p=q)) w:=by
  have h:=run_equalIn_struct (P:=Tryz.prog) w 9999 52 p.cells.toArray q.cells.toArray (by simp only[Program.fieldsOf,kz_]) Tryz.stoodInHeld52
  refine h.trans ?_
  rw[← Pc.eqb_eq]
  simp only[Program.fieldsOf,kz_]
  exact bx_ rfl ad_ rfl rfl (eqI bo_ w) (bx_ rfl O_ rfl rfl (eqS av_ w) (bx_ rfl O_ rfl rfl (eqS av_ w) (bx_ rfl O_ rfl rfl (eqS av_ w) (bx_ rfl O_ rfl rfl (eqS av_ w) (bx_ rfl O_ rfl rfl (eqS av_ w) (bx_ rfl O_ rfl rfl (eqS av_ w) (bx_ rfl ad_ rfl rfl (eqI bo_ w) (bx_ rfl ad_ rfl rfl (eqI bo_ w) (bx_ rfl ad_ rfl rfl (eqI bo_ w) (hh_ w))))))))))
theorem eqFc (p q:Fc) (w:World):(Op.equalIn 10000 24 p.val q.val).run Tryz.prog w=.ok (decide (p=q)) w:=by
  have h:=run_equalIn_struct (P:=Tryz.prog) w 9999 24 p.cells.toArray q.cells.toArray (by simp only[Program.fieldsOf,kB_]) Tryz.stoodInHeld24
  refine h.trans ?_
  rw[← Fc.eqb_eq]
  simp only[Program.fieldsOf,kB_]
  exact bx_ rfl ad_ rfl rfl (eqI bo_ w) (bx_ rfl O_ rfl rfl (eqS av_ w) (bx_ rfl O_ rfl rfl (eqS av_ w) (bx_ rfl O_ rfl rfl (eqS av_ w) (bx_ rfl ad_ rfl rfl (eqI bo_ w) (bx_ rfl ad_ rfl rfl (eqI bo_ w) (hh_ w))))))
theorem keyPc (p:Pc):gT_ Tryz.prog 52 p.val:=fun e w=>by
 have hi:∀ (n:Int) (w:World),(Instr.checkKey e (9998+1) 3 (.int .i64 n)).run Tryz.prog w=.ok () w:=fun n w=>MapKept.run_checkKey (d:=.int .i64) bo_ (by simp[MapKept.IsKey]) e 9998
 have hs:∀ (n:Str) (w:World),(Instr.checkKey e (9998+1) 9 (str n)).run Tryz.prog w=.ok () w:=fun n w=>MapKept.run_checkKey (d:=.string) av_ (by simp[MapKept.IsKey,str]) e 9998
 refine ckF (n:=9999) kz_ fun f hf=>?_
 simp only[List.mem_cons,List.not_mem_nil,or_false]at hf
 rcases hf with rfl|rfl|rfl|rfl|rfl|rfl|rfl|rfl|rfl|rfl
 ·exact⟨rfl,ad_,_,rfl,hi _⟩
 ·exact⟨rfl,O_,_,rfl,hs _⟩
 ·exact⟨rfl,O_,_,rfl,hs _⟩
 ·exact⟨rfl,O_,_,rfl,hs _⟩
 ·exact⟨rfl,O_,_,rfl,hs _⟩
 ·exact⟨rfl,O_,_,rfl,hs _⟩
 ·exact⟨rfl,O_,_,rfl,hs _⟩
 ·exact⟨rfl,ad_,_,rfl,hi _⟩
 ·exact⟨rfl,ad_,_,rfl,hi _⟩
 exact⟨rfl,ad_,_,rfl,hi _⟩
theorem mX_:iy_ Tryz.prog 52 [(0,1),(1,1),(2,1),(3,1),(4,1),(5,1),(6,1),(7,1),(8,1),(9,1)] [.int .i64 0,str [],str [],str [],str [],str [],str [],.int .i64 0,.int .i64 0,.int .i64 0]:=⟨_,aL_,aI_,fun w=>by simp[s_,J_]⟩
theorem dv_:iy_ Tryz.prog 24 [(0,1),(1,1),(2,1),(3,1),(4,1),(5,1)] [.int .i64 0,str [],str [],str [],.int .i64 0,.int .i64 0]:=⟨_,Z_,am_,fun w=>by simp[s_,J_]⟩
end Go.Proofs.YtkeanlfhghlgiaaGreatDoor
namespace Go.Proofs.YtkeanlfhghlgiaaGreatDoor
open Go Go.Sx Go.Proofs
attribute [local irreducible] Code.wp wpList wpAnyH
open Go.Vs
theorem aD_ {N:Nf} {fr:Fr} {H:Hp} {Γ:List Fct} {ty t':TypeId} {x y:Operand} {p q:Fc} (hx:Fr.ev fr x=some p.val) (hy:Fr.ev fr y=some q.val):Yld Tryz.prog N fr H Γ (.binOp .eql 24 x y t') ty (.bool (decide (p=q))) :=
  fun a v h1 _ _ _ _ _=>by
    have hg:(Program.eqGuardType Tryz.prog Tryz.prog.depth 24)=false:=by kernel_rfl
    have he:=eqFc p q v.w
    simp only[execOp,h1.ev hx,h1.ev hy,eqGuard,Fc.val,binOp,Op.equal,Sem.run_bind,Result.andThen_ok]
    simp only[run_program,Result.andThen_ok,hg,Bool.not_false,if_true,Sem.run_pure]
    simp only[Fc.val]at he
    simp[Op.maxDepth,he]
theorem dB_ {N:Nf} {fr:Fr} {H:Hp} {Γ:List Fct} {ty t':TypeId} {x y:Operand} {p q:Fc} (hx:Fr.ev fr x=some p.val) (hy:Fr.ev fr y=some q.val):Yld Tryz.prog N fr H Γ (.binOp .neq 24 x y t') ty (.bool (decide (p≠q))) :=
  fun a v h1 _ _ _ _ _=>by
    have hg:(Program.eqGuardType Tryz.prog Tryz.prog.depth 24)=false:=by kernel_rfl
    have he:=eqFc p q v.w
    simp only[execOp,h1.ev hx,h1.ev hy,eqGuard,Fc.val,binOp,Op.equal,Sem.run_bind,Result.andThen_ok]
    simp only[run_program,Result.andThen_ok,hg,Bool.not_false,if_true,Sem.run_pure]
    simp only[Fc.val]at he
    simp[Op.maxDepth,he]
theorem lj_ (s:Str) (c:UInt8):Fn0 Tryz.prog 193 #[str s,str [c]] (.int .i64 (Lib.indexByte s c)) :=
  gq_ (callable Tryz.func193 rfl rfl) fun w=>(Tryz.strings_Index_one ⟨s.toArray⟩ c w).mono (by rintro e w' ⟨rfl,rfl⟩;exact⟨rfl,rfl,rfl,rfl,rfl,Nat.le_refl _⟩)
theorem kn_ (s:Str) (c:UInt8) (k:Nat) (hk:ixS c s=some k):Fn0 Tryz.prog 193 #[str s,str [c]] (.int .i64 (k:Int)):=by
  have h:=lj_ s c
  rw[iZ_,hk]at h
  exact h
theorem pJ_ (s:Str) (c:UInt8):Fn0 Tryz.prog 192 #[str s,str [c]] (.int .i64 (di_ c s:Int)) :=
  gq_ (callable Tryz.func192 rfl rfl) fun w=>(Tryz.strings_Count_one ⟨s.toArray⟩ c w).mono (by rintro e w' ⟨rfl,rfl⟩;exact⟨rfl,rfl,rfl,rfl,rfl,Nat.le_refl _⟩)
theorem ok_H {N:Nf} {v0:Vw} {H0:Hp} {k:Act→World→Prop} {fr:Fr} {H H':Hp} {Γ:List Fct} (e:H=H') (h:Ok N v0 H0 k fr H' Γ):Ok N v0 H0 k fr H Γ:=e▸h
theorem nv_ (s:Str) (c:UInt8) (hs:s.length≤17592186044414):Tri Tryz.prog 176 #[str s,str [c],.int .i64 0,.int .i64 (-1)] [] [] (fun b:Nat=>.slice (some ⟨b,0,none⟩) (bK_ c s).length (bK_ c s).length) (fun _=>[]) (fun b=>[aq_ (some ⟨b,0,none⟩) ((bK_ c s).flatMap aS_)]):=by
 have hcl:=je_ c s
 refine u_ Tryz.func176 rfl rfl Tryz.ntmps176 rfl fun v0=>?_
 refine Zi 9 (fun hr1=>?_) fun hr1=>?_
 ·refine Zi 9 (fun hr2=>?_) fun hr2=>?_
  ·refine Zi 9 (fun hr3=>?_) fun hr3=>?_
   ·exact absurd (by decide) hr3
   refine Zz 6 ?_
   refine n_ (pJ_ s c) rfl (.refl _) zt rfl fun _=>Zz 8 ?_
   refine i_ (cm_ U_ rfl) rfl (Zz 1 ?_)
   refine i_ (aU_ (nE_ rfl rfl) (show _=Value.int .i64 ((di_ c s+1:Nat):Int) by rw[if_neg (by omega)];rfl)) rfl ?_
   refine Zz 6 ?_
   refine oE_ (n:=di_ c s+1) (by':=16) kA_ (z:=.string ⟨#[]⟩) zk rfl rfl rfl (by omega) (by omega) rfl fun b1=>Zz 6 ?_
   refine i_ (aU_ (dk_ rfl rfl rfl (fA_ (by omega) (by omega))) (show _=Value.int .i64 (di_ c s:Int) by first|rfl|(congr 1;omega))) rfl ?_
   refine Zz 10 ?_
   refine do_ [(0,str s),(1,str [c]),(2,.int .i64 0),(3,.int .i64 (di_ c s:Int)),(9,.slice (some ⟨b1,0,none⟩) (di_ c s+1) (di_ c s+1)),(10,.int .i64 ((0:Nat):Int))] zl ?_
   refine ej_ (ι:={x:Nat×List Str×Str // x.2.1.length=x.1∧bK_ c s=x.2.1++bK_ c x.2.2∧x.1+di_ c x.2.2=di_ c s∧x.2.2.length≤s.length}) (fun x=>[(0,str x.1.2.2),(1,str [c]),(2,.int .i64 0),(3,.int .i64 (di_ c s:Int)),(9,.slice (some ⟨b1,0,none⟩) (di_ c s+1) (di_ c s+1)),(10,.int .i64 (x.1.1:Int))]) (fun x=>[(b1,.cells (x.1.2.1.map str++List.replicate (di_ c s+1 - x.1.1) (Value.string ⟨#[]⟩)).toArray 9 (0,0))]) (fun _=>_) (fun x=>di_ c s - x.1.1) ⟨(0,[],s),rfl,rfl,by simp,by simp⟩ ?_
   rintro ⟨⟨i,dn,r⟩,hk⟩
   dsimp only at hk
   obtain⟨hk1,hk2,hk3,hk4⟩:=hk
   refine do_ [(0,str r),(1,str [c]),(2,.int .i64 0),(3,.int .i64 (di_ c s:Int)),(9,.slice (some ⟨b1,0,none⟩) (di_ c s+1) (di_ c s+1)),(10,.int .i64 (i:Int))] zl ?_
   have hrep:∀ k,k<di_ c s+1→List.replicate (di_ c s+1 - k) (Value.string ⟨#[]⟩)=Value.string ⟨#[]⟩::List.replicate (di_ c s - k) (Value.string ⟨#[]⟩):=fun k hk=>by rw[show di_ c s+1 - k=(di_ c s - k)+1 by omega];rfl
   refine ok_H (H':=[(b1,.cells (dn.map str++Value.string ⟨#[]⟩::List.replicate (di_ c s - i) (Value.string ⟨#[]⟩)).toArray 9 (0,0))]) (by dsimp only;rw[hrep i (by omega)]) ?_
   refine Zi 5 (fun hr4=>?_) fun hr4=>?_
   ·obtain rfl:i=di_ c s:=by omega
    have hr0 : bK_ c r = [r] := by
                  cases hx:ixS c r with
                  | none=>exact gA_ hx
                  | some k=>have:=lb_ hx;omega
    rw[hr0]at hk2
    refine Zz 10 ?_
    refine i_ (gX_ B_ J_ rfl rfl (by omega) (by omega)) rfl (jF_ 0 J_ rfl rfl rfl (by simp[hk1]) rfl rfl (Zz 6 ?_))
    refine i_ (aU_ (dk_ rfl rfl rfl (fA_ (by omega) (by omega))) (show _=Value.int .i64 ((di_ c s+1:Nat):Int) by first|rfl|(congr 1;omega))) rfl ?_
    refine i_ (aU_ (dd_ (i:=0) (j:=di_ c s+1) (kl:=.i64) (kh:=.i64) B_ J_ rfl rfl rfl (by omega) (by omega)) (show _=Value.slice (some ⟨b1,0,none⟩) (di_ c s+1) (di_ c s+1) by rw[pI_];rfl)) rfl ?_
    refine Zz 4 ?_
    refine aJ_ ((bK_ c s).flatMap aS_) d_ (by rw[hk2,hL_];simp) ?_
    have hl:=dw_ c s
    exact al_ Tryz.results176 b1 (dq_ rfl (by rw[hl])) (.refl _) zf
   obtain ⟨k, hix⟩ : ∃ k, ixS c r = some k := by
                 cases hx:ixS c r with
                 | none=>have:=pa_ hx;omega
                 | some k=>exact⟨k,rfl⟩
   have hcs:=lb_ hix
   have hkl:=nr_ hix
   refine Zz 10 ?_
   refine n_ (kn_ r c k hix) rfl (.refl _) zt rfl fun _=>Zi 7 (fun hr5=>?_) fun hr5=>?_
   ·refine Zz 12 ?_
    refine i_ (aU_ (dk_ rfl rfl rfl (fA_ (by omega) (by omega))) (show _=Value.int .i64 (k:Int) by first|rfl|(congr 1;omega))) rfl ?_
    refine i_ (aU_ (fe_ (i:=0) (j:=k) (kl:=.i64) (kh:=.i64) U_ rfl rfl rfl (by omega) (by omega)) (show _=str (r.take k) by simp)) rfl (i_ (gX_ B_ J_ rfl rfl (by omega) (by omega)) rfl (jF_ 0 J_ rfl rfl rfl (by simp[hk1]) rfl rfl (Zz 7 ?_)))
    refine i_ (cm_ U_ rfl) rfl (i_ (aU_ (dk_ rfl rfl rfl (fA_ (by simp only[List.length_cons,List.length_nil];omega) (by simp only[List.length_cons,List.length_nil];omega))) (show _=Value.int .i64 ((k+1:Nat):Int) by first|rfl|(congr 1;omega))) rfl ?_)
    refine i_ (aU_ (fe_ (i:=k+1) (j:=r.length) (kl:=.i64) (kh:=.i64) U_ rfl rfl rfl (by omega) (by omega)) (show _=str (r.drop (k+1)) by rw[List.take_of_length_le (by simp)])) rfl (Zz 5 ?_)
    refine i_ (aU_ (dk_ rfl rfl rfl (fA_ (by omega) (by omega))) (show _=Value.int .i64 ((i+1:Nat):Int) by first|rfl|(congr 1;omega))) rfl ?_
    refine Zz 3 ?_
    exact C_ ⟨(i+1,dn++[r.take k],r.drop (k+1)),by simp[hk1],by rw[hk2,gz_ hix,List.append_assoc];rfl,by dsimp only;omega,by simp;omega⟩ (by dsimp only;omega) zl (F:=[]) (List.Perm.of_eq (by simp[show di_ c s+1 - (i+1)=di_ c s - i by omega])) zh
   exfalso;omega
  cases hr2
 exact absurd hr1 (by decide)
theorem ry_ (s:Str) (c:UInt8) (hs:s.length≤17592186044414):Tri Tryz.prog 152 #[str s,str [c]] [] [] (fun b:Nat=>.slice (some ⟨b,0,none⟩) (bK_ c s).length (bK_ c s).length) (fun _=>[]) (fun b=>[aq_ (some ⟨b,0,none⟩) ((bK_ c s).flatMap aS_)]):=by
  refine u_ Tryz.func152 rfl rfl Tryz.ntmps152 rfl fun v0=>?_
  refine Zz 9 ?_
  refine n_ (nv_ s c hs) rfl (.refl _) zt rfl fun b=>Zz 4 ?_
  exact al_ Tryz.results152 b rfl (.refl _) zf
end Go.Proofs.YtkeanlfhghlgiaaGreatDoor
namespace Go.Proofs.YtkeanlfhghlgiaaGreatDoor
open Go Go.Sx Go.Proofs
attribute [local irreducible] Code.wp wpList wpAnyH
open Go.Vs
theorem ly_ {g:FuncId} {pred:Str→Bool} (xs:List Str) (ad:Option Addr) (cap:Nat) (hlen:xs.length≤17592186044415) (hT:∀ x∈xs,Fn0 Tryz.prog g #[str x] (.bool (pred x))) :
    Tri Tryz.prog 177 #[.slice ad (List.length xs) cap,.func (.func g) #[] #[]] [] [aq_ ad (List.flatMap aS_ xs)] (fun r:{r:Int // decide (0≤r)=xs.any pred}=>.int .i64 r.1) (fun _=>[]) (fun _=>[]):=by
  refine u_ Tryz.func177 rfl rfl Tryz.ntmps177 rfl fun v0=>?_
  refine Zz 14 ?_
  refine do_ [(0,.slice ad (List.length xs) cap),(1,.func (.func g) #[] #[]),(7,.int .i64 (List.length xs:Int)),(8,.int .i64 ((0:Nat):Int))] zl ?_
  refine ej_ (ι:={q:Nat // q≤xs.length∧(xs.take q).any pred=false}) (fun i=>[(0,.slice ad (List.length xs) cap),(1,.func (.func g) #[] #[]),(7,.int .i64 (List.length xs:Int)),(8,.int .i64 (i.1:Int))]) (fun _=>_) (fun _=>_) (fun i=>xs.length - i.1) ⟨0,by simp⟩ ?_
  rintro ⟨i,hk⟩
  refine do_ [(0,.slice ad (List.length xs) cap),(1,.func (.func g) #[] #[]),(7,.int .i64 (List.length xs:Int)),(8,.int .i64 (i:Int))] zl ?_
  refine Zi 2 (fun hr1=>?_) fun hr1=>?_
  · skip
    refine Zz 12 ?_
    exact al_ Tryz.results177 ⟨-1,by have:=hk.2;rw[List.take_of_length_le (by omega)]at this;show _=xs.any pred;rw[this];rfl⟩ rfl (.refl _) zt
  · skip
    obtain⟨hlx1,x1,hx1,hmx1⟩:=zge (show i<List.length xs by omega)
    refine Zz 21 ?_
    refine ce_ (hT x1 hmx1) rfl rfl m_ zt rfl fun r2 hr2=>Zz 2 ?_
    cases r2
    · skip
      refine Zz 8 ?_
      exact C_ ⟨i+1,hlx1,by rw[List.take_add_one,hx1];simp only[Option.toList_some,List.any_append,hk.2];simp[*]⟩ (by simp;omega) zl (.refl _) zh
    · skip
      refine Zz 8 ?_
      exact al_ Tryz.results177 ⟨(i:Int),by show _=xs.any pred;rw[show xs.any pred=true from List.any_eq_true.2 ⟨x1,hmx1,by assumption⟩];exact decide_eq_true (by omega)⟩ rfl (.refl _) zt
theorem iQ_ {g:FuncId} {pred:Str→Bool} (xs:List Str) (ad:Option Addr) (cap:Nat) (hlen:xs.length≤17592186044415) (hT:∀ x∈xs,Fn0 Tryz.prog g #[str x] (.bool (pred x))) :
    Tri Tryz.prog 153 #[.slice ad (List.length xs) cap,.func (.func g) #[] #[]] [] [aq_ ad (List.flatMap aS_ xs)] (fun _:Unit=>.bool (xs.any pred)) (fun _=>[]) (fun _=>[]):=by
  refine u_ Tryz.func153 rfl rfl Tryz.ntmps153 rfl fun v0=>?_
  refine Zz 9 ?_
  refine n_ (ly_ xs ad cap hlen hT) rfl m_ zf rfl fun x=>aT_ (hG_ rfl rfl) rfl fun r1 hr1=>Zz 4 ?_
  exact al_ Tryz.results153 () (t_ rfl (hr1.symm.trans x.2)) (.refl _) zt
theorem oP_ (s:Str) (hs:s.length≤140737488351232):Fn0 Tryz.prog 154 #[str s] (.bool (!cd_ s)):=by
  refine u_ Tryz.func154 rfl rfl Tryz.ntmps154 rfl fun v0=>?_
  refine Zz 8 ?_
  refine bm_ (dN_ s hs) rfl m_ zt rfl fun r1 hr1=>i_ (bI_ rfl) rfl (Zz 4 ?_)
  exact al_ Tryz.results154 () (t_ rfl (by simp[*])) (.refl _) zt
theorem gj_ {c:UInt8}:∀ {s x:Str},x∈bK_ c s→x.length≤s.length
 | [],x,h=>by simp[bK_]at h;simp[h]
 | b::s,x,h=>by
   simp only[bK_]at h
   split at h
   · rcases List.mem_cons.1 h with rfl|h
     · simp
     · have:=gj_ h;simp only[List.length_cons];omega
   · cases hs:bK_ c s with
     | nil=>exact absurd hs (kF_ c s)
     | cons y t =>
       rw[hs]at h
       rcases List.mem_cons.1 h with rfl|h
       · have:=gj_ (c:=c) (s:=s) (x:=y) (by rw[hs];simp);simp only[List.length_cons];omega
       · have:=gj_ (c:=c) (s:=s) (x:=x) (by rw[hs];simp[h]);simp only[List.length_cons];omega
theorem gJ_ (s:Str) (hs:s.length≤17592186044414):Fn0 Tryz.prog 120 #[str s] (.bool (dn_ s)):=by
 refine u_ Tryz.func120 rfl rfl Tryz.ntmps120 rfl fun v0=>?_
 have hsl:=dw_ 46 s
 have hcl:=je_ 46 s
 refine Zz 8 ?_
 refine n_ (ry_ s 46 hs) rfl m_ zt rfl fun b=>Zi 7 (fun hr1=>?_) fun hr1=>?_
 ·refine Zz 9 ?_
  exact al_ Tryz.results120 () (t_ rfl (by unfold dn_;subst_vars;rw[Bool.eq_iff_iff];simp_all<;>omega)) (.refl _) zt
 refine Zz 4 ?_
 refine bm_ (iQ_ (pred:=fun r=>!cd_ r) (bK_ 46 s) _ _ (by omega) (fun x hx=>oP_ x (by have:=gj_ hx;omega))) rfl m_ zf rfl fun r2 hr2=>?_
 refine aK_ rfl rfl (i_ (bI_ rfl) rfl (Zz 5 ?_))
 exact al_ Tryz.results120 () (t_ rfl (by unfold dn_;subst_vars;rw[Bool.eq_iff_iff];simp_all<;>omega)) (.refl _) zt
theorem fS_ (s:Str) (hs:s.length≤140737488351232):Fn0 Tryz.prog 122 #[str s] (.bool (bC_ s)):=by
 refine u_ Tryz.func122 rfl rfl Tryz.ntmps122 rfl fun v0=>?_
 refine Zz 8 ?_
 refine i_ (cm_ U_ rfl) rfl (Zi 8 (fun hr1=>?_) fun hr1=>?_)
 ·refine Zi 4 (fun hr2=>?_) fun hr2=>?_
  ·refine Zi 8 (fun hr3=>?_) fun hr3=>?_
   ·refine Zi 19 (fun hr4=>?_) fun hr4=>?_
    ·refine Zz 21 ?_
     refine bm_ (dN_ _ (by first|exact hs|(simp;omega))) rfl m_ zt rfl fun r5 hr5=>?_
     refine Zz 4 ?_
     exact al_ cr_ () (t_ rfl (by unfold bC_;(repeat (any_goals split))<;>first|rfl|(simp_all;done)|(exfalso;simp_all;omega)|(exfalso;simp_all;done))) (.refl _) zt
    exfalso;omega
   obtain⟨c,hc⟩:∃ c,s[0]? = some c:=⟨_,List.getElem?_eq_getElem (by omega)⟩
   obtain⟨e,he⟩:∃ e,s[s.length - 1]? = some e:=⟨_,List.getElem?_eq_getElem (by omega)⟩
   have hc123 : (s[0]? = some 123) ↔ ((c.toNat : Int) = 123) := by
                       rw[hc];simp only[Option.some.injEq];exact⟨fun q=>by subst q;rfl,fun q=>UInt8.toNat_inj.1 (by show c.toNat=123;omega)⟩
   have he125 : (s[s.length - 1]? = some 125) ↔ ((e.toNat : Int) = 125) := by
                       rw[he];simp only[Option.some.injEq];exact⟨fun q=>by subst q;rfl,fun q=>UInt8.toNat_inj.1 (by show e.toNat=125;omega)⟩
   have hc60 : (s[0]? = some 60) ↔ ((c.toNat : Int) = 60) := by
                       rw[hc];simp only[Option.some.injEq];exact⟨fun q=>by subst q;rfl,fun q=>UInt8.toNat_inj.1 (by show c.toNat=60;omega)⟩
   have he62 : (s[s.length - 1]? = some 62) ↔ ((e.toNat : Int) = 62) := by
                       rw[he];simp only[Option.some.injEq];exact⟨fun q=>by subst q;rfl,fun q=>UInt8.toNat_inj.1 (by show e.toNat=62;omega)⟩
   refine Zz 4 ?_
   refine i_ (ds_ U_ rfl rfl (by decide) hc) rfl (aK_ rfl rfl ?_)
   refine Zi 0 (fun hr6=>?_) fun hr6=>?_
   ·refine Zi 15 (fun hr7=>?_) fun hr7=>?_
    ·refine Zz 21 ?_
     refine bm_ (dN_ _ (by first|exact hs|(simp;omega))) rfl m_ zt rfl fun r8 hr8=>?_
     refine Zz 4 ?_
     exact al_ cr_ () (t_ rfl (by unfold bC_;(repeat (any_goals split))<;>first|rfl|(simp_all;done)|(exfalso;simp_all;omega)|(exfalso;simp_all;done))) (.refl _) zt
    refine Zz 4 ?_
    refine i_ (ds_ U_ rfl rfl (by decide) hc) rfl (aK_ rfl rfl ?_)
    refine Zi 0 (fun hr9=>?_) fun hr9=>?_
    ·refine Zz 17 ?_
     refine bm_ (dN_ _ (by first|exact hs|(simp;omega))) rfl m_ zt rfl fun r10 hr10=>?_
     refine Zz 4 ?_
     exact al_ cr_ () (t_ rfl (by unfold bC_;(repeat (any_goals split))<;>first|rfl|(simp_all;done)|(exfalso;simp_all;omega)|(exfalso;simp_all;done))) (.refl _) zt
    refine Zz 9 ?_
    refine i_ (ds_ U_ rfl rfl (by omega) (show s[((s.length:Int) - 1).toNat]? = some e by rw[show ((s.length:Int) - 1).toNat=s.length - 1 by omega];exact he)) rfl ?_
    refine aK_ rfl rfl ?_
    refine Zi 0 (fun hr11=>?_) fun hr11=>?_
    ·refine Zz 10 ?_
     refine bm_ (dN_ _ (by first|exact hs|(simp;omega))) rfl m_ zt rfl fun r12 hr12=>?_
     refine Zz 4 ?_
     exact al_ cr_ () (t_ rfl (by unfold bC_;(repeat (any_goals split))<;>first|rfl|(simp_all;done)|(exfalso;simp_all;omega)|(exfalso;simp_all;done))) (.refl _) zt
    refine Zz 11 ?_
    exact al_ cr_ () (t_ rfl (by unfold bC_;(repeat (any_goals split))<;>first|rfl|(simp_all;done)|(exfalso;simp_all;omega)|(exfalso;simp_all;done))) (.refl _) zt
   refine Zz 9 ?_
   refine i_ (ds_ U_ rfl rfl (by omega) (show s[((s.length:Int) - 1).toNat]? = some e by rw[show ((s.length:Int) - 1).toNat=s.length - 1 by omega];exact he)) rfl ?_
   refine aK_ rfl rfl ?_
   refine Zi 0 (fun hr13=>?_) fun hr13=>?_
   ·refine Zi 8 (fun hr14=>?_) fun hr14=>?_
    ·refine Zz 21 ?_
     refine bm_ (dN_ _ (by first|exact hs|(simp;omega))) rfl m_ zt rfl fun r15 hr15=>?_
     refine Zz 4 ?_
     exact al_ cr_ () (t_ rfl (by unfold bC_;(repeat (any_goals split))<;>first|rfl|(simp_all;done)|(exfalso;simp_all;omega)|(exfalso;simp_all;done))) (.refl _) zt
    refine Zz 4 ?_
    refine i_ (ds_ U_ rfl rfl (by decide) hc) rfl (aK_ rfl rfl ?_)
    refine Zi 0 (fun hr16=>?_) fun hr16=>?_
    ·refine Zz 17 ?_
     refine bm_ (dN_ _ (by first|exact hs|(simp;omega))) rfl m_ zt rfl fun r17 hr17=>?_
     refine Zz 4 ?_
     exact al_ cr_ () (t_ rfl (by unfold bC_;(repeat (any_goals split))<;>first|rfl|(simp_all;done)|(exfalso;simp_all;omega)|(exfalso;simp_all;done))) (.refl _) zt
    refine Zz 9 ?_
    refine i_ (ds_ U_ rfl rfl (by omega) (show s[((s.length:Int) - 1).toNat]? = some e by rw[show ((s.length:Int) - 1).toNat=s.length - 1 by omega];exact he)) rfl ?_
    refine aK_ rfl rfl ?_
    refine Zi 0 (fun hr18=>?_) fun hr18=>?_
    ·refine Zz 10 ?_
     refine bm_ (dN_ _ (by first|exact hs|(simp;omega))) rfl m_ zt rfl fun r19 hr19=>?_
     refine Zz 4 ?_
     exact al_ cr_ () (t_ rfl (by unfold bC_;(repeat (any_goals split))<;>first|rfl|(simp_all;done)|(exfalso;simp_all;omega)|(exfalso;simp_all;done))) (.refl _) zt
    refine Zz 11 ?_
    exact al_ cr_ () (t_ rfl (by unfold bC_;(repeat (any_goals split))<;>first|rfl|(simp_all;done)|(exfalso;simp_all;omega)|(exfalso;simp_all;done))) (.refl _) zt
   refine Zz 10 ?_
   refine i_ (fe_ (i:=1) (j:=s.length - 1) (kl:=.i64) (kh:=.i64) U_ rfl rfl (show _=some (Value.int .i64 ((s.length - 1:Nat):Int)) by rw[show ((s.length - 1:Nat):Int)=(s.length:Int) - 1 by omega];rfl) (by omega) (by omega)) rfl ?_
   refine bm_ (dN_ _ (by first|exact hs|(simp;omega))) rfl m_ zt rfl fun r20 hr20=>?_
   refine Zz 4 ?_
   exact al_ cr_ () (t_ rfl (by unfold bC_;(repeat (any_goals split))<;>first|rfl|(simp_all;done)|(exfalso;simp_all;omega)|(exfalso;simp_all;done))) (.refl _) zt
  refine Zz 11 ?_
  exact al_ cr_ () (t_ rfl (by unfold bC_;(repeat (any_goals split))<;>first|rfl|(simp_all;done)|(exfalso;simp_all;omega)|(exfalso;simp_all;done))) (.refl _) zt
 refine Zz 14 ?_
 exact al_ cr_ () (t_ rfl (by unfold bC_;(repeat (any_goals split))<;>first|rfl|(simp_all;done)|(exfalso;simp_all;omega)|(exfalso;simp_all;done))) (.refl _) zt
end Go.Proofs.YtkeanlfhghlgiaaGreatDoor
namespace Go.Proofs.YtkeanlfhghlgiaaGreatDoor
open Go Go.Sx Go.Proofs
attribute [local irreducible] Code.wp wpList wpAnyH
open Go.Vs
theorem dW_ {g:FuncId} (used:Bool) (s:Str) (q:Str→Bool) (hT:Fn0 Tryz.prog g #[str s] (.bool (q s))):Fn0 Tryz.prog 119 #[.bool used,str s,.func (.func g) #[] #[]] (.bool (ch_ used s q)):=by
 refine u_ Tryz.func119 rfl rfl Tryz.ntmps119 rfl fun v0=>?_
 refine Zz 9 ?_
 cases used
 ·refine Zz 8 ?_
  refine i_ (bI_ rfl) rfl (Zz 5 ?_)
  refine aT_ (fI_ rfl rfl) rfl fun r1 hr1=>Zz 7 ?_
  exact al_ Tryz.results119 () (t_ rfl (by unfold ch_;subst_vars;rw[Bool.eq_iff_iff];simp_all)) (.refl _) zt
 refine Zz 5 ?_
 refine ce_ (hT) rfl rfl m_ zt rfl fun r2 hr2=>Zz 2 ?_
 cases r2
 ·refine Zz 3 ?_
  refine i_ (bI_ rfl) rfl (Zz 11 ?_)
  exact al_ Tryz.results119 () (t_ rfl (by unfold ch_;subst_vars;rw[Bool.eq_iff_iff];simp_all)) (.refl _) zt
 refine Zz 11 ?_
 exact al_ Tryz.results119 () (t_ rfl (by unfold ch_;subst_vars;rw[Bool.eq_iff_iff];simp_all)) (.refl _) zt
theorem oO_ (p:Pc) (hp:p.sm):Tri Tryz.prog 83 #[Pc.val p] [] [ih_] (fun _:Unit=>.bool p.valid) (fun _=>[]) (fun _=>[]):=by
 refine u_ Tryz.func83 rfl rfl Tryz.ntmps83 rfl fun v0=>?_
 obtain⟨ha,hb,hc,hr,hs,ht⟩:=hp
 refine Zz 2 ?_
 refine aA_ rfl rfl fun b1=>Zz 8 ?_
 refine aT_ (gV_ rfl rfl) rfl fun r1 hr1=>Zz 1 ?_
 refine cW_ 4 ((decide (p.kind<1))||(decide (9<p.kind))) (fun r=>[(1,zp_ b1 0),(2,.bool false),(13,.bool r)]) ?_ fun r2 hr2=>?_
 ·cases r1
  ·have qr2:=hr1
   replace hr1:=zdf hr1
   refine Zz 5 ?_
   refine aT_ (dU_ rfl rfl) rfl fun r3 hr3=>Zz 3 ?_
   exact met ⟨rfl,rfl,(t_ rfl (jof qr2 hr3)),trivial⟩
  have qr2:=hr1
  replace hr1:=zdt hr1
  refine Zz 6 ?_
  exact met ⟨rfl,rfl,(t_ rfl (jot qr2)),trivial⟩
 refine Zz 1 ?_
 refine cW_ 4 ((((decide (p.kind<1))||(decide (9<p.kind))))||(decide (p.frm<(-1)))) (fun r=>[(1,zp_ b1 0),(2,.bool false),(18,.bool r)]) ?_ fun r4 hr4=>?_
 ·cases r2
  ·have qr4:=hr2
   simp at hr2
   refine Zz 5 ?_
   refine aT_ (gV_ rfl rfl) rfl fun r5 hr5=>Zz 3 ?_
   exact met ⟨rfl,rfl,(t_ rfl (jof qr4 hr5)),trivial⟩
  have qr4:=hr2
  simp at hr2
  refine Zz 6 ?_
  exact met ⟨rfl,rfl,(t_ rfl (jot qr4)),trivial⟩
 refine Zz 1 ?_
 refine cW_ 4 ((((((decide (p.kind<1))||(decide (9<p.kind))))||(decide (p.frm<(-1)))))||(decide (1024≤p.frm))) (fun r=>[(1,zp_ b1 0),(2,.bool false),(23,.bool r)]) ?_ fun r6 hr6=>?_
 ·cases r4
  ·have qr6:=hr4
   simp at hr4
   refine Zz 5 ?_
   refine aT_ (hG_ rfl rfl) rfl fun r7 hr7=>Zz 3 ?_
   exact met ⟨rfl,rfl,(t_ rfl (jof qr6 hr7)),trivial⟩
  have qr6:=hr4
  simp at hr4
  refine Zz 6 ?_
  exact met ⟨rfl,rfl,(t_ rfl (jot qr6)),trivial⟩
 refine Zz 2 ?_
 cases r6
 ·simp at hr6
  obtain⟨u,hx⟩:∃ u,qr_[p.kind.toNat]? = some u:=⟨_,List.getElem?_eq_getElem (show p.kind.toNat<10 by omega)⟩
  have hus:nus p.kind=u:=by simp[nus,hx]
  obtain⟨ua,ub,uc,ur,us,ut,un⟩:=u
  refine Zz 7 ?_
  refine i_ (ge_ Tryz.runUnderlying141 Tryz.sizeOf140 rfl rfl (by show (0:Int)≤p.kind;omega) (by show p.kind<(10:Int);omega)) rfl ?_
  refine i_ (bk_ (ad:=some ⟨0,0,none⟩) (us:=NUse.cells ⟨ua,ub,uc,ur,us,ut,un⟩) Tryz.isAgg140 Tryz.sizeOf140 rfl (fun v _ h=>h.1) (NUse.cells_len _) (x_ NUse.cells_len hx)) rfl (L_ Tryz.zeroValue140 rfl fun b2=>A_ 0 Tryz.sizeOf140 rfl rfl rfl rfl rfl rfl (Zz 19 ?_))
  cases un
  ·refine Zz 5 ?_
   refine aT_ (gU_ rfl rfl) rfl fun r8 hr8=>Zz 1 ?_
   refine cW_ 4 ((p.lo != 0)||(p.hi != 0)) (fun r=>[(1,zp_ b1 0),(2,.bool false),(3,zp_ b2 0),(4,.func (.func 119) #[] #[]),(5,.func (.func 120) #[] #[]),(52,.bool r)]) ?_ fun r9 hr9=>?_
   ·cases r8
    ·have qr9:=hr8
     replace hr8:=oT_ hr8
     refine Zz 5 ?_
     refine aT_ (gU_ rfl rfl) rfl fun r10 hr10=>Zz 3 ?_
     exact met ⟨rfl,rfl,rfl,rfl,rfl,(t_ rfl (jof qr9 hr10)),trivial⟩
    have qr9:=hr8
    replace hr8:=oH_ hr8
    refine Zz 6 ?_
    exact met ⟨rfl,rfl,rfl,rfl,rfl,(t_ rfl (jot qr9)),trivial⟩
   refine Zz 2 ?_
   cases r9
   ·simp at hr9
    refine Zz 10 ?_
    refine ce_ (dW_ ua p.a bC_ (fS_ _ (by omega))) rfl rfl m_ zt rfl fun r11 hr11=>Zz 1 ?_
    refine cW_ 7 ((ch_ ua p.a bC_)&&(ch_ ub p.b bC_)) (fun r=>[(1,zp_ b1 0),(2,.bool false),(3,zp_ b2 0),(4,.func (.func 119) #[] #[]),(5,.func (.func 120) #[] #[]),(66,.bool r)]) ?_ fun r12 hr12=>?_
    ·cases r11
     ·have qr12:=hr11
      refine Zz 9 ?_
      exact met ⟨rfl,rfl,rfl,rfl,rfl,(t_ rfl (jaf qr12)),trivial⟩
     have qr12:=hr11
     refine Zz 11 ?_
     refine ce_ (dW_ ub p.b bC_ (fS_ _ (by omega))) rfl rfl m_ zt rfl fun r13 hr13=>Zz 3 ?_
     exact met ⟨rfl,rfl,rfl,rfl,rfl,(t_ rfl (jat qr12 hr13)),trivial⟩
    refine Zz 1 ?_
    refine cW_ 7 ((((ch_ ua p.a bC_)&&(ch_ ub p.b bC_)))&&(ch_ uc p.c bC_)) (fun r=>[(1,zp_ b1 0),(2,.bool false),(3,zp_ b2 0),(4,.func (.func 119) #[] #[]),(5,.func (.func 120) #[] #[]),(74,.bool r)]) ?_ fun r14 hr14=>?_
    ·cases r12
     ·have qr14:=hr12
      simp at hr12
      refine Zz 9 ?_
      exact met ⟨rfl,rfl,rfl,rfl,rfl,(t_ rfl (jaf qr14)),trivial⟩
     have qr14:=hr12
     simp at hr12
     refine Zz 11 ?_
     refine ce_ (dW_ uc p.c bC_ (fS_ _ (by omega))) rfl rfl m_ zt rfl fun r15 hr15=>Zz 3 ?_
     exact met ⟨rfl,rfl,rfl,rfl,rfl,(t_ rfl (jat qr14 hr15)),trivial⟩
    refine Zz 1 ?_
    refine cW_ 8 ((((((ch_ ua p.a bC_)&&(ch_ ub p.b bC_)))&&(ch_ uc p.c bC_)))&&(ch_ ur p.r dn_)) (fun r=>[(1,zp_ b1 0),(2,.bool false),(3,zp_ b2 0),(4,.func (.func 119) #[] #[]),(83,.bool r)]) ?_ fun r16 hr16=>?_
    ·cases r14
     ·have qr16:=hr14
      simp at hr14
      refine Zz 10 ?_
      exact met ⟨rfl,rfl,rfl,rfl,(t_ rfl (jaf qr16)),trivial⟩
     have qr16:=hr14
     simp at hr14
     refine Zz 13 ?_
     refine ce_ (dW_ ur p.r dn_ (gJ_ _ (by omega))) rfl rfl m_ zt rfl fun r17 hr17=>Zz 3 ?_
     exact met ⟨rfl,rfl,rfl,rfl,(t_ rfl (jat qr16 hr17)),trivial⟩
    refine Zz 1 ?_
    refine cW_ 7 ((((((((ch_ ua p.a bC_)&&(ch_ ub p.b bC_)))&&(ch_ uc p.c bC_)))&&(ch_ ur p.r dn_)))&&(ch_ us p.s dn_)) (fun r=>[(1,zp_ b1 0),(2,.bool false),(3,zp_ b2 0),(4,.func (.func 119) #[] #[]),(91,.bool r)]) ?_ fun r18 hr18=>?_
    ·cases r16
     ·have qr18:=hr16
      simp at hr16
      refine Zz 9 ?_
      exact met ⟨rfl,rfl,rfl,rfl,(t_ rfl (jaf qr18)),trivial⟩
     have qr18:=hr16
     simp at hr16
     refine Zz 11 ?_
     refine ce_ (dW_ us p.s dn_ (gJ_ _ (by omega))) rfl rfl m_ zt rfl fun r19 hr19=>Zz 3 ?_
     exact met ⟨rfl,rfl,rfl,rfl,(t_ rfl (jat qr18 hr19)),trivial⟩
    refine Zz 1 ?_
    refine cW_ 7 ((((((((((ch_ ua p.a bC_)&&(ch_ ub p.b bC_)))&&(ch_ uc p.c bC_)))&&(ch_ ur p.r dn_)))&&(ch_ us p.s dn_)))&&(ch_ ut p.t dn_)) (fun r=>[(2,.bool false),(99,.bool r)]) ?_ fun r20 hr20=>?_
    ·cases r18
     ·have qr20:=hr18
      simp at hr18
      refine Zz 9 ?_
      exact met ⟨rfl,(t_ rfl (jaf qr20)),trivial⟩
     have qr20:=hr18
     simp at hr18
     refine Zz 11 ?_
     refine ce_ (dW_ ut p.t dn_ (gJ_ _ (by omega))) rfl rfl m_ zt rfl fun r21 hr21=>Zz 3 ?_
     exact met ⟨rfl,(t_ rfl (jat qr20 hr21)),trivial⟩
    refine Zz 4 ?_
    exact al_ pS_ () (t_ rfl (by unfold Pc.valid;rw[if_neg (by omega)];simp only[hus];rw[if_neg (by simp<;>omega),if_neg (by simp<;>omega)];exact hr20.symm)) (.refl _) zt
   simp at hr9
   refine Zz 7 ?_
   exact al_ pS_ () (t_ rfl (by unfold Pc.valid;rw[if_neg (by omega)];simp only[hus];first|(rw[if_pos (by first|(simp;omega)|omega)])|(rw[if_neg (by simp),if_pos (by simp;omega)]))) (.refl _) zt
  refine Zz 10 ?_
  refine aT_ (gV_ rfl rfl) rfl fun r22 hr22=>Zz 1 ?_
  refine cW_ 6 ((decide (p.lo<(-1099511627776)))||(decide (p.hi<p.lo))) (fun r=>[(1,zp_ b1 0),(2,.bool false),(3,zp_ b2 0),(4,.func (.func 119) #[] #[]),(5,.func (.func 121) #[] #[]),(39,.bool r)]) ?_ fun r23 hr23=>?_
  ·cases r22
   ·have qr23:=hr22
    replace hr22:=zdf hr22
    refine Zz 9 ?_
    refine aT_ (dU_ rfl rfl) rfl fun r24 hr24=>Zz 3 ?_
    exact met ⟨rfl,rfl,rfl,rfl,rfl,(t_ rfl (jof qr23 hr24)),trivial⟩
   have qr23:=hr22
   replace hr22:=zdt hr22
   refine Zz 8 ?_
   exact met ⟨rfl,rfl,rfl,rfl,rfl,(t_ rfl (jot qr23)),trivial⟩
  refine Zz 1 ?_
  refine cW_ 4 ((((decide (p.lo<(-1099511627776)))||(decide (p.hi<p.lo))))||(decide (1099511627776<p.hi))) (fun r=>[(1,zp_ b1 0),(2,.bool false),(3,zp_ b2 0),(4,.func (.func 119) #[] #[]),(5,.func (.func 121) #[] #[]),(44,.bool r)]) ?_ fun r25 hr25=>?_
  ·cases r23
   ·have qr25:=hr23
    simp at hr23
    refine Zz 5 ?_
    refine aT_ (dU_ rfl rfl) rfl fun r26 hr26=>Zz 3 ?_
    exact met ⟨rfl,rfl,rfl,rfl,rfl,(t_ rfl (jof qr25 hr26)),trivial⟩
   have qr25:=hr23
   simp at hr23
   refine Zz 6 ?_
   exact met ⟨rfl,rfl,rfl,rfl,rfl,(t_ rfl (jot qr25)),trivial⟩
  refine Zz 2 ?_
  cases r25
  ·simp at hr25
   refine Zz 10 ?_
   refine ce_ (dW_ ua p.a bC_ (fS_ _ (by omega))) rfl rfl m_ zt rfl fun r27 hr27=>Zz 1 ?_
   refine cW_ 7 ((ch_ ua p.a bC_)&&(ch_ ub p.b bC_)) (fun r=>[(1,zp_ b1 0),(2,.bool false),(3,zp_ b2 0),(4,.func (.func 119) #[] #[]),(5,.func (.func 121) #[] #[]),(66,.bool r)]) ?_ fun r28 hr28=>?_
   ·cases r27
    ·have qr28:=hr27
     refine Zz 9 ?_
     exact met ⟨rfl,rfl,rfl,rfl,rfl,(t_ rfl (jaf qr28)),trivial⟩
    have qr28:=hr27
    refine Zz 11 ?_
    refine ce_ (dW_ ub p.b bC_ (fS_ _ (by omega))) rfl rfl m_ zt rfl fun r29 hr29=>Zz 3 ?_
    exact met ⟨rfl,rfl,rfl,rfl,rfl,(t_ rfl (jat qr28 hr29)),trivial⟩
   refine Zz 1 ?_
   refine cW_ 7 ((((ch_ ua p.a bC_)&&(ch_ ub p.b bC_)))&&(ch_ uc p.c bC_)) (fun r=>[(1,zp_ b1 0),(2,.bool false),(3,zp_ b2 0),(4,.func (.func 119) #[] #[]),(5,.func (.func 121) #[] #[]),(74,.bool r)]) ?_ fun r30 hr30=>?_
   ·cases r28
    ·have qr30:=hr28
     simp at hr28
     refine Zz 9 ?_
     exact met ⟨rfl,rfl,rfl,rfl,rfl,(t_ rfl (jaf qr30)),trivial⟩
    have qr30:=hr28
    simp at hr28
    refine Zz 11 ?_
    refine ce_ (dW_ uc p.c bC_ (fS_ _ (by omega))) rfl rfl m_ zt rfl fun r31 hr31=>Zz 3 ?_
    exact met ⟨rfl,rfl,rfl,rfl,rfl,(t_ rfl (jat qr30 hr31)),trivial⟩
   refine Zz 1 ?_
   refine cW_ 8 ((((((ch_ ua p.a bC_)&&(ch_ ub p.b bC_)))&&(ch_ uc p.c bC_)))&&(ch_ ur p.r cd_)) (fun r=>[(1,zp_ b1 0),(2,.bool false),(3,zp_ b2 0),(4,.func (.func 119) #[] #[]),(83,.bool r)]) ?_ fun r32 hr32=>?_
   ·cases r30
    ·have qr32:=hr30
     simp at hr30
     refine Zz 10 ?_
     exact met ⟨rfl,rfl,rfl,rfl,(t_ rfl (jaf qr32)),trivial⟩
    have qr32:=hr30
    simp at hr30
    refine Zz 13 ?_
    refine ce_ (dW_ ur p.r cd_ (dN_ _ (by omega))) rfl rfl m_ zt rfl fun r33 hr33=>Zz 3 ?_
    exact met ⟨rfl,rfl,rfl,rfl,(t_ rfl (jat qr32 hr33)),trivial⟩
   refine Zz 1 ?_
   refine cW_ 7 ((((((((ch_ ua p.a bC_)&&(ch_ ub p.b bC_)))&&(ch_ uc p.c bC_)))&&(ch_ ur p.r cd_)))&&(ch_ us p.s dn_)) (fun r=>[(1,zp_ b1 0),(2,.bool false),(3,zp_ b2 0),(4,.func (.func 119) #[] #[]),(91,.bool r)]) ?_ fun r34 hr34=>?_
   ·cases r32
    ·have qr34:=hr32
     simp at hr32
     refine Zz 9 ?_
     exact met ⟨rfl,rfl,rfl,rfl,(t_ rfl (jaf qr34)),trivial⟩
    have qr34:=hr32
    simp at hr32
    refine Zz 11 ?_
    refine ce_ (dW_ us p.s dn_ (gJ_ _ (by omega))) rfl rfl m_ zt rfl fun r35 hr35=>Zz 3 ?_
    exact met ⟨rfl,rfl,rfl,rfl,(t_ rfl (jat qr34 hr35)),trivial⟩
   refine Zz 1 ?_
   refine cW_ 7 ((((((((((ch_ ua p.a bC_)&&(ch_ ub p.b bC_)))&&(ch_ uc p.c bC_)))&&(ch_ ur p.r cd_)))&&(ch_ us p.s dn_)))&&(ch_ ut p.t dn_)) (fun r=>[(2,.bool false),(99,.bool r)]) ?_ fun r36 hr36=>?_
   ·cases r34
    ·have qr36:=hr34
     simp at hr34
     refine Zz 9 ?_
     exact met ⟨rfl,(t_ rfl (jaf qr36)),trivial⟩
    have qr36:=hr34
    simp at hr34
    refine Zz 11 ?_
    refine ce_ (dW_ ut p.t dn_ (gJ_ _ (by omega))) rfl rfl m_ zt rfl fun r37 hr37=>Zz 3 ?_
    exact met ⟨rfl,(t_ rfl (jat qr36 hr37)),trivial⟩
   refine Zz 4 ?_
   exact al_ pS_ () (t_ rfl (by unfold Pc.valid;rw[if_neg (by omega)];simp only[hus];rw[if_neg (by simp<;>omega),if_neg (by simp<;>omega)];exact hr36.symm)) (.refl _) zt
  simp at hr25
  refine Zz 7 ?_
  exact al_ pS_ () (t_ rfl (by unfold Pc.valid;rw[if_neg (by omega)];simp only[hus];first|(rw[if_pos (by first|(simp;omega)|omega)])|(rw[if_neg (by simp),if_pos (by simp;omega)]))) (.refl _) zt
 simp at hr6
 refine Zz 7 ?_
 exact al_ pS_ () (t_ rfl (by unfold Pc.valid;rw[if_pos (by omega)])) (.refl _) zt
theorem sr_ (l:List Pc) (ad:Option Addr) (cap:Nat) (hl:l.length≤17592186044414) (hsm:∀ p∈l,p.sm):Tri Tryz.prog 39 #[.slice ad (List.length l) cap] [] [aq_ ad (List.flatMap Pc.cells l),ih_] (fun _:Unit=>.int .i64 (cq_ l)) (fun _=>[]) (fun _=>[]):=by
 refine u_ Tryz.func39 rfl rfl Tryz.ntmps39 rfl fun v0=>?_
 refine Zi 10 (fun hr1=>?_) fun hr1=>?_
 ·refine Zz 14 ?_
  refine do_ [(8,.slice ad (List.length l) cap),(9,.int .i64 (List.length l:Int)),(10,.int .i64 ((0:Nat):Int))] zl ?_
  refine ej_ (ι:={q:Nat // q≤l.length∧(l.take q).all Pc.valid=true}) (fun i=>[(8,.slice ad (List.length l) cap),(9,.int .i64 (List.length l:Int)),(10,.int .i64 (i.1:Int))]) (fun _=>_) (fun _=>_) (fun i=>l.length - i.1) ⟨0,by simp⟩ ?_
  rintro ⟨i,hk⟩
  refine do_ [(8,.slice ad (List.length l) cap),(9,.int .i64 (List.length l:Int)),(10,.int .i64 (i:Int))] zl ?_
  refine Zi 2 (fun hr2=>?_) fun hr2=>?_
  ·refine Zz 12 ?_
   exact al_ Tryz.results39 () (cs_ rfl (by unfold cq_;rw[if_neg (by omega),if_pos (by have:=hk.2;rwa [List.take_of_length_le (by omega)]at this)])) (.refl _) zt
  obtain⟨hlx1,x1,hx1,hmx1⟩:=zge (show i<List.length l by omega)
  refine Zz 12 ?_
  refine L_ aL_ rfl fun b1=>A_ 0 R_ rfl rfl rfl rfl rfl rfl (Zz 5 ?_)
  refine bm_ (oO_ x1 (hsm x1 hmx1)) rfl m_ zf rfl fun r3 hr3=>i_ (bI_ rfl) rfl (Zz 2 ?_)
  cases r3
  ·refine Zz 7 ?_
   exact al_ Tryz.results39 () (cs_ rfl (by unfold cq_;rw[if_neg (by omega),if_neg (by rw[show l.all Pc.valid=false from List.all_eq_false.2 ⟨x1,hmx1,by simp[*]⟩];simp)])) (.refl _) zt
  refine Zz 8 ?_
  exact C_ ⟨i+1,hlx1,by rw[List.take_add_one,hx1];simp only[Option.toList_some,List.all_append,hk.2];simp[*]⟩ (by simp;omega) zl (@List.perm_append_comm _ [_] _) zh
 refine Zz 9 ?_
 exact al_ Tryz.results39 () (cs_ rfl (by unfold cq_;rw[if_pos (by omega)])) (.refl _) zt
end Go.Proofs.YtkeanlfhghlgiaaGreatDoor
namespace Go.Vs
open Go Go.Sx
def vw (W:World):Vw:=⟨fun b=>b<W.heap.size,W,True⟩
theorem vw_sat (W:World):(vw W).sat []:=⟨(fun _ h=>by cases h),(by simp),fun _ h=>h⟩
section
variable {H:Type} {enc:TypeId×Value→H} {P:Program} {W:World}
abbrev wok (l:List Nat):Prop:=l.all (·≤reachBytes)=true
theorem fg_ {a b:List Nat}:wok (a++b)↔wok a∧wok b:=by simp[wok,List.all_append]
theorem pp_ {n:Nat} {b:List Nat}:wok (n::b)↔n≤reachBytes∧wok b:=by simp[wok]
theorem pq_ {e:TypeId}:∀ {ds:List (DataW H)},wok (DataW.weightsAll P e ds)→∀ d∈ds,wok (d.weights P e)
 | [],_,_,h=>by cases h
 | x::ds,hw,d,hd=>by
   rw[DataW.weightsAll,fg_]at hw
   rcases List.mem_cons.1 hd with rfl|hd
   · exact hw.1
   · exact pq_ hw.2 d hd
theorem rG_ {α:Type} [Inhabited α] (f:α→List Value) (k:Nat) (hk:∀ x,(f x).length=k) (hk0:0<k) (Q:α→Prop) {ts te:TypeId} (hs:P.underlying ts=some (.slice te)) (hc:P.cellsOf te=k) {n:Nat} {cs:List Value} {x:DataW H×List MemPlace}
    (hread:∀ m,m<n→∀ cs' y,DataW.trod enc P W 0 (fun _=>true) true m te cs'=some y→wok (y.1.weights P te)→∃ c,cs'=f c∧Q c)
    (h:DataW.trod enc P W 0 (fun _=>true) true n ts cs=some x) (hw:wok (x.1.weights P ts)) :
    ∃ (l:List α) (ad:Option Addr) (cap:Nat),cs=[.slice ad l.length cap]∧by_ (vw W) ad (l.flatMap f)∧(∀ c∈l,Q c)∧l.length≤cap∧cap*P.bytesOf te≤reachBytes:=by
  rcases DataW.trod_slice hs h with⟨h0,_⟩|⟨a,len,cap,elems,rest,m,hn,rfl,rfl,_,hl,_,hlen,hel,hsp,_⟩
  · exact⟨[],none,0,h0,.inl rfl,(fun _ h=>by cases h),Nat.le_refl _,by simp⟩
  · obtain⟨hr,_⟩:=hsp rfl
    simp only[DataW.weights,hs,pp_,fg_,List.length_map]at hw
    have hcap:cap*P.bytesOf te≤reachBytes:=by
      have e:elems.length+rest.length=cap:=by omega
      rw[← e];exact hw.1
    have hone:∀ i,i<len→∃ c:α,W.cells? 0 (a.add (i*k)) k=some (f c)∧Q c:=fun i hi=>by
      have he:=hel i hi
      rw[hc,List.getElem?_eq_getElem (by omega)]at he
      obtain⟨cs',h1,h2⟩:=Option.bind_eq_some_iff.1 he
      obtain⟨c,rfl,hq⟩:=hread m (by omega) cs' _ h2 (pq_ hw.2.1 _ (List.mem_map_of_mem (List.getElem_mem (by omega))))
      exact⟨c,h1,hq⟩
    obtain⟨C,hC⟩:=Deep.choose_lt hone
    refine⟨(List.range len).map C,some a,cap,by simp,?_,?_,by simpa using hl,hcap⟩
    · by_cases h0:len=0
      · left;simp[h0]
      · have h1:=(hC 0 (by omega)).1
        obtain⟨_,_,hcell⟩:=World.cells?_some h1
        have hc0:=hcell 0 hk0
        have hlt:0<(f (C 0)).length:=by rw[hk];exact hk0
        rw[List.getElem?_eq_getElem hlt]at hc0
        cases hb:W.heap[a.block]? with
        | none=>simp[World.cell?,Addr.add,hb]at hc0
        | some o =>
          cases o with
          | cells arr T fz =>
            have hspot:a.spot=none:=by
              cases hsp2:a.spot with
              | none=>rfl
              | some s=>simp[World.cell?,Addr.add,hb,hsp2]at hc0
            obtain⟨b,off,sp⟩:=a
            simp only at hspot hb
            subst hspot
            right
            refine⟨b,off,arr,T,fz,rfl,(Array.getElem?_eq_some_iff.1 hb).1,hb,fun j y hj=>?_⟩
            have hjlt:j<len*k:=by
              have:=(List.getElem?_eq_some_iff.1 hj).1
              rw[cT_ f k hk]at this
              simpa using this
            have hi:j / k<len:=Nat.div_lt_of_lt_mul (by rw[Nat.mul_comm];exact hjlt)
            have hr':j%k<k:=Nat.mod_lt _ hk0
            have e:j=(j / k)*k+j%k:=by rw[Nat.mul_comm];exact (Nat.div_add_mod j k).symm
            have hget:((List.range len).map C)[j / k]? = some (C (j / k)):=by simp[hi]
            rw[e,lA_ f k hk _ (j / k) (j%k) _ hget hr']at hj
            obtain⟨_,_,hcell⟩:=World.cells?_some (hC (j / k) hi).1
            have:=hcell (j%k) hr'
            rw[hj,dj_,dj_]at this
            rw[e]
            simpa [World.cell?,hb,Nat.add_assoc] using this
          | _=>simp[World.cell?,Addr.add,hb]at hc0
    · intro c hc'
      obtain⟨i,hi,rfl⟩:=List.mem_map.1 hc'
      exact (hC i (by simpa using hi)).2
end
instance:Inhabited Con:=⟨.mk 0 [] 0 0 none 0 []⟩
instance:Inhabited Ax:=⟨⟨0,false,default,default,none,0,[],[],[],[]⟩⟩
instance:Inhabited Pc:=⟨⟨0,[],[],[],[],[],[],0,0,0⟩⟩
structure Tys (P:Program) (tI tB tS tSs tC tCs tA tAs tP tPs:TypeId):Prop where
  i:P.underlying tI=some (.int .i64)
  b:P.underlying tB=some .bool
  s:P.underlying tS=some .string
  ss:P.underlying tSs=some (.slice tS)
  p:∃ fs,P.underlying tP=some (.struct fs)∧fs.toList.map (fun f=>(f.type,f.offset))=[(tI,0),(tS,1),(tS,2),(tS,3),(tS,4),(tS,5),(tS,6),(tI,7),(tI,8),(tI,9)]
  ps:P.underlying tPs=some (.slice tP)
  ci:P.cellsOf tI=1
  cb:P.cellsOf tB=1
  cs1:P.cellsOf tS=1
  css:P.cellsOf tSs=1
  cp:P.cellsOf tP=10
  bs:P.bytesOf tS=16
  bp:P.bytesOf tP=128
section
variable {H:Type} {enc:TypeId×Value→H} {P:Program} {W:World} {tI tB tS tSs tC tCs tA tAs tP tPs:TypeId} (X:Tys P tI tB tS tSs tC tCs tA tAs tP tPs)
theorem fields_of {t:TypeId} {fs:Array Field} {L:List (TypeId×Nat)} {cs:List Value} {n:Nat} {x:DataW H×List MemPlace} (ht:P.underlying t=some (.struct fs)) (hL:fs.toList.map (fun f=>(f.type,f.offset))=L) (h:DataW.trod enc P W 0 (fun _=>true) true n t cs=some x) :
    ∃ (xs:List (DataW H×List MemPlace)) (m:Nat),n=m+1∧x.1=.agg (xs.map (·.1))∧cs.length=P.cellsOf t∧xs.length=L.length∧(∀ (i:Nat) q,L[i]? = some q→DataW.trod enc P W 0 (fun _=>true) true m q.1 ((cs.drop q.2).take (P.cellsOf q.1))=xs[i]?) ∧
      (x.1.weights P t=DataW.weightsEach P (L.map (·.1)) (xs.map (·.1))):=by
  obtain⟨xs,m,hn,hx,hl,hlen,hf⟩:=DataW.trod_struct ht h
  refine⟨xs,m,hn,by rw[hx],hl,by rw[hlen,← hL];simp,fun i q hq=>?_,?_⟩
  · rw[← hL,List.getElem?_map,Option.map_eq_some_iff]at hq
    obtain⟨f,hf',rfl⟩:=hq
    exact hf i f (by simpa using hf')
  · rw[hx];simp only[DataW.weights,ht]
    congr 1
    rw[← hL,List.map_map];rfl
include X
theorem hy_ {n:Nat} {cs:List Value} {x:DataW H×List MemPlace} (h:DataW.trod enc P W 0 (fun _=>true) true n tI cs=some x):∃ k:Int,cs=[.int .i64 k]∧-9223372036854775808≤k∧k≤9223372036854775807:=by
  obtain⟨k,h1,_,h3⟩:=DataW.trod_int X.i h
  have:=bounds_i64 h3
  exact⟨k,h1,this.1,this.2⟩
theorem str_of {n:Nat} {cs:List Value} {x:DataW H×List MemPlace} (h:DataW.trod enc P W 0 (fun _=>true) true n tS cs=some x) (hw:wok (x.1.weights P tS)):∃ s:Str,cs=[str s]∧s.length≤140737488351232:=by
  obtain⟨s,h1,h2,_⟩:=DataW.trod_string X.s h
  rw[h2]at hw
  simp[wok,DataW.weights,reachBytes]at hw
  refine⟨s.data.toList,by rw[h1];rfl,by have:=of_decide_eq_true hw;simpa using this⟩
structure Pc.big (p:Pc):Prop where
  a:p.a.length≤140737488351232
  b:p.b.length≤140737488351232
  c:p.c.length≤140737488351232
  r:p.r.length≤140737488351232
  s:p.s.length≤140737488351232
  t:p.t.length≤140737488351232
theorem pc_of {n:Nat} {cs:List Value} {x:DataW H×List MemPlace} (h:DataW.trod enc P W 0 (fun _=>true) true n tP cs=some x) (hw:wok (x.1.weights P tP)):∃ p:Pc,cs=p.cells∧p.big:=by
  obtain⟨fs,hu,hL⟩:=X.p
  obtain⟨xs,m,hn,hx,hl,hlen,hf,hwe⟩:=fields_of hu hL h
  rw[hwe]at hw
  match xs,hlen with
  | [x0,x1,x2,x3,x4,x5,x6,x7,x8,x9],_ =>
  simp only[List.map_cons,List.map_nil,DataW.weightsEach,fg_]at hw
  have f0:=hf 0 _ rfl;have f1:=hf 1 _ rfl;have f2:=hf 2 _ rfl;have f3:=hf 3 _ rfl;have f4:=hf 4 _ rfl;have f5:=hf 5 _ rfl;have f6:=hf 6 _ rfl;have f7:=hf 7 _ rfl;have f8:=hf 8 _ rfl;have f9:=hf 9 _ rfl
  simp only[List.getElem?_cons_zero,List.getElem?_cons_succ,X.ci,X.cs1]at f0 f1 f2 f3 f4 f5 f6 f7 f8 f9
  obtain⟨k,e0,_,_⟩:=hy_ X f0
  obtain⟨a,e1,n1⟩:=str_of X f1 hw.2.1
  obtain⟨b,e2,n2⟩:=str_of X f2 hw.2.2.1
  obtain⟨c,e3,n3⟩:=str_of X f3 hw.2.2.2.1
  obtain⟨r,e4,n4⟩:=str_of X f4 hw.2.2.2.2.1
  obtain⟨s,e5,n5⟩:=str_of X f5 hw.2.2.2.2.2.1
  obtain⟨t,e6,n6⟩:=str_of X f6 hw.2.2.2.2.2.2.1
  obtain⟨lo,e7,_,_⟩:=hy_ X f7
  obtain⟨hi,e8,_,_⟩:=hy_ X f8
  obtain⟨fr,e9,_,_⟩:=hy_ X f9
  rw[X.cp]at hl
  match cs,hl with
  | [c0,c1,c2,c3,c4,c5,c6,c7,c8,c9],_ =>
  simp only[List.drop_succ_cons,List.drop_zero,List.take_succ_cons,List.take_zero,List.cons.injEq,and_true]at e0 e1 e2 e3 e4 e5 e6 e7 e8 e9
  subst e0 e1 e2 e3 e4 e5 e6 e7 e8 e9
  exact⟨⟨k,a,b,c,r,s,t,lo,hi,fr⟩,rfl,n1,n2,n3,n4,n5,n6⟩
theorem pcs_of {n:Nat} {cs:List Value} {x:DataW H×List MemPlace} (h:DataW.trod enc P W 0 (fun _=>true) true n tPs cs=some x) (hw:wok (x.1.weights P tPs)) :
    ∃ (l:List Pc) (ad:Option Addr) (cap:Nat),cs=[.slice ad l.length cap]∧by_ (vw W) ad (l.flatMap Pc.cells)∧(∀ y∈l,y.big)∧l.length≤cap∧cap≤1099511627744:=by
  obtain⟨l,ad,cap,e,hrow,hq,hlc,hcap⟩:=rG_ Pc.cells 10 Pc.cells_len (by decide) Pc.big X.ps X.cp (fun m' _ cs' y hy hwy=>pc_of X hy hwy) h hw
  rw[X.bp]at hcap;simp only[reachBytes]at hcap
  exact⟨l,ad,cap,e,hrow,hq,hlc,by omega⟩
end
end Go.Vs
namespace Go.Vs
open Go Go.Sx Go.ChangeShapes Go.WideShapes Go.ChangeAt Go.RowKit
section
variable {H:Type} {enc:TypeId×Value→H} {P:Program} {w:World}
mutual
def gl_ {H:Type}:DataW H→List Value
  | .lit (.int k n)=>[.int k n]
  | .lit (.bool b)=>[.bool b]
  | .agg ps=>hQ_ ps
  | _=>[]
def hQ_ {H:Type}:List (DataW H)→List Value
  | []=>[]
  | d::r=>gl_ d++hQ_ r
end
def gm_ (P:Program):Nat→TypeId→Bool
  | 0,_=>false
  | n+1,t=>match P.underlying t with
    | some .bool=>true
    | some (.int _)=>true
    | some (.struct fs)=>fs.toList.all fun f=>gm_ P n f.type
    | some (.array _ e)=>gm_ P n e
    | _=>false
theorem hu_:∀ l:List (DataW H),hQ_ l=l.flatMap gl_
  | []=>by simp[hQ_]
  | d::r=>by simp only[hQ_,hu_ r,List.flatMap_cons]
theorem tile:∀ (ls:List Nat) (cs:List Value) (g:List (List Value)),cs.length=ls.sum→g.length=ls.length→(∀ j n,ls[j]? = some n→some ((cs.drop (ls.take j).sum).take n)=g[j]?)→cs=g.flatten
  | [],cs,g,h,hg,_=>by
    simp only[List.sum_nil]at h
    have h1:=List.eq_nil_of_length_eq_zero h
    have h2:g=[]:=List.eq_nil_of_length_eq_zero hg
    simp[h1,h2]
  | n::ls,cs,[],h,hg,hp=>by simp at hg
  | n::ls,cs,x::g,h,hg,hp=>by
    have h0:=hp 0 n rfl
    simp only[List.take_zero,List.sum_nil,List.drop_zero,List.getElem?_cons_zero,Option.some.injEq]at h0
    have ih:=tile ls (cs.drop n) g (by rw[List.length_drop,h];simp) (by simpa using hg) (fun j m hj=>by
      have:=hp (j+1) m hj
      simp only[List.take_succ_cons,List.sum_cons,List.getElem?_cons_succ]at this
      rw[← this,List.drop_drop])
    rw[List.flatten_cons,← ih,← h0,List.take_append_drop]
theorem qe_ {T:TypeId→Prop} {held:Bool} (K:Kids P T):∀ (n m:Nat) (t:TypeId) (cs:List Value) (x:DataW H×List MemPlace),T t→gm_ P m t=true→DataW.trod enc P w 0 (fun _=>true) held n t cs=some x→cs=gl_ x.1:=by
 intro n
 induction n with
 | zero=>intro m t cs x _ _ h;simp[DataW.trod]at h
 | succ n ih =>
   intro m t cs x hT hb h
   cases m with
   | zero=>simp[gm_]at hb
   | succ m =>
   cases hu:P.underlying t with
   | none=>simp[gm_,hu]at hb
   | some d =>
     cases d with
     | bool=>obtain⟨b,rfl,rfl⟩:=DataW.trod_bool hu h;simp[gl_]
     | int k=>obtain⟨b,rfl,rfl,_⟩:=DataW.trod_int hu h;simp[gl_]
     | struct fs =>
       obtain⟨xs,m',hn,rfl,hl,hlen,hf⟩:=DataW.trod_struct hu h
       obtain rfl:m'=n:=by omega
       obtain⟨k1,k2,k3⟩:=K.struct hT hu
       simp only[gm_,hu]at hb
       simp only[gl_]
       rw[hu_,List.flatMap_def,List.map_map]
       refine tile (fs.toList.map fun f=>P.cellsOf f.type) cs _ (by rw[hl,k2]) (by simp[hlen]) fun j q hq=>?_
       rw[List.getElem?_map,Option.map_eq_some_iff]at hq
       obtain⟨f,hf',rfl⟩:=hq
       have h1:=hf j f (by simpa using hf')
       have h2:=k3 j f hf'
       have hj:j<xs.length:=by rw[hlen];have:=(List.getElem?_eq_some_iff.1 hf').1;simpa using this
       rw[List.getElem?_eq_getElem hj]at h1
       have h3:=ih m f.type _ _ (k1 f (List.mem_of_getElem? hf')) (List.all_eq_true.1 hb f (List.mem_of_getElem? hf')) h1
       rw[List.getElem?_map,List.getElem?_eq_getElem hj,← List.map_take,← h2,h3]
       rfl
     | array len e =>
       obtain⟨xs,m',hn,rfl,hl,hlen,hf⟩:=DataW.trod_array hu h
       obtain rfl:m'=n:=by omega
       obtain⟨k1,k2⟩:=K.array hT hu
       simp only[gm_,hu]at hb
       simp only[gl_]
       rw[hu_,List.flatMap_def,List.map_map]
       refine tile (List.replicate len (P.cellsOf e)) cs _ (by rw[hl,k2];simp) (by simp[hlen]) fun j q hq=>?_
       rw[List.getElem?_replicate]at hq
       split at hq
       · rename_i hj
         simp only[Option.some.injEq]at hq
         subst hq
         have h1:=hf j hj
         have hjx:j<xs.length:=by omega
         rw[List.getElem?_eq_getElem hjx]at h1
         have h3:=ih m e _ _ k1 hb h1
         rw[List.getElem?_map,List.getElem?_eq_getElem hjx,List.take_replicate,List.sum_replicate_nat,Nat.min_eq_left (by omega),h3]
         rfl
       · cases hq
     | _=>simp[gm_,hu]at hb
end
section
variable {H:Type} {enc:TypeId×Value→H} {P:Program} {W W':World}
theorem hn_:∀ {ts:List TypeId} {vs:List Value} {ds:List (DataW H)} {ps:List MemPlace} {sp:Nat→Bool},DataW.TrodAll enc P W 0 sp true ts vs ds ps→(∀ p∈ps,W.sameAt W' p)→DataW.TrodAll enc P W' 0 sp true ts vs ds ps
  | [],[],[],_,_,h,_=>h
  | _::_,_::_,_::_,_,_,⟨p,q,⟨n,h1⟩,h2,e⟩,hs=>⟨p,q,⟨n,DataW.trod_carry n _ _ _ h1 (fun x hx=>hs x (by rw[e];exact List.mem_append_left _ hx))⟩,hn_ h2 (fun x hx=>hs x (by rw[e];exact List.mem_append_right _ hx)),e⟩
theorem qD_ {T:TypeId→Prop} (K:Kids P T) (hz:∀ t e,T t→P.underlying t=some (.slice e)→0<P.cellsOf e) {f:Func} {s:ChangeSpec} {args:Array Value} {ds:List (DataW H)} {before:List MemPlace} {tb:TypeId} (hts:∀ t∈f.params.toList,T t) (hvars:s.vars=[])
    (hW:DataW.Whole enc P f.params.toList s.vars false W args.toList ds [] before) (hs:s.fn H (ds++[])={ results:=[.lit (.bool true)],args:=ds }) (hres:f.resultTypes=#[tb]) (hb:P.underlying tb=some .bool) {v':Vw} (hto:(vw W).to [] v' []) :
    s.post enc P f false true false false W args (.bool true) v'.w:=by
  have hW':=hW
  obtain⟨p,q,hA,hV,hp,_,_⟩:=hW
  have hq:q=[]:=by rw[hvars]at hV;exact hV
  subst hq
  simp only[List.append_nil]at hp
  subst hp
  have hblk:∀ b,b<W.heap.size→v'.w.heap[b]? = W.heap[b]? := fun b hb=>hto.block b hb (by simp)
  have hsame:∀ x∈before,W.sameAt v'.w x:=fun x hx=>by
    have hlt:=DataW.TrodAll.lt hA x hx
    cases x with
    | cell b off=>exact World.cell?_of_block (hblk b hlt)
    | map b=>exact hblk b hlt
  have hA':=hn_ hA hsame
  have hA'':=DataW.TrodAll.respare K hz (spare':=fun b=>decide (b<W.heap.size)) hts hA' (fun x hx=>by simpa using DataW.TrodAll.lt hA x hx)
  refine⟨ds,[],before,[],before,[],hW',?_,?_,?_,⟨hto.os,hto.output,fun i hi=>?_⟩,fun h=>by cases h⟩
  · rw[hs,hres];exact trodAll_mk1 (shut_bool hb true)
  · rw[hs];exact hA''
  · rw[hs,hvars];rfl
  · rw[hblk i hi]
    have hsome:∃ o,W.heap[i]? = some o:=⟨_,Array.getElem?_eq_getElem hi⟩
    obtain⟨o,ho⟩:=hsome
    rw[ho]
    cases o<;>simp
section
variable {tI tB tS tSs tC tCs tA tAs tP tPs:TypeId} (X:Tys P tI tB tS tSs tC tCs tA tAs tP tPs) {base:Nat} {v:Value} {d:DataW H} {ps:List MemPlace}
include X
end
theorem py_ {T:TypeId→Prop} (K:Kids P T) {name:String} {d:DataW Unit} {laid:List (String×DataW Unit)} {W:World} (h:laidMet P laid W) (hm:(name,d)∈laid) {g:Nat} {t:TypeId} (hg:P.globalNamed name=some g) (ht':(P.globals[g]?).map (·.type)=some t) (hT:T t) {m:Nat} (hb:gm_ P m t=true) :
    ∃ T' fz,W.heap[g]? = some (.cells (gl_ d).toArray T' fz):=by
  obtain⟨ps,hl,_,_⟩:=h
  have key:∀ (l:List (String×DataW Unit)) (ps:List MemPlace),DataW.LaidVars P W l ps→(name,d)∈l→∃ g t cs n p,P.globalNamed name=some g∧(P.globals[g]?).map (·.type)=some t∧W.var? P name=some cs∧DataW.trod (fun _=>()) P W 0 (fun _=>true) false n t cs.toList=some (d,p):=by
    intro l
    induction l with
    | nil=>intro ps _ h;cases h
    | cons x r ih =>
      intro ps h hm
      obtain⟨n',d'⟩:=x
      obtain⟨g,t,cs,fuel,p,q,h1,h2,h3,h4,h5,_⟩:=h
      rcases List.mem_cons.1 hm with e|hm
      · cases e;exact⟨g,t,cs,fuel,p,h1,h2,h3,h4⟩
      · exact ih q h5 hm
  obtain⟨g',t',cs,n,p,h1,h2,h3,h4⟩:=key laid ps hl hm
  obtain rfl:g'=g:=Option.some.inj (h1.symm.trans hg)
  obtain rfl:t'=t:=Option.some.inj (h2.symm.trans ht')
  have e:=qe_ K n m t' cs.toList _ hT hb h4
  simp only[World.var?,hg,Option.bind_some]at h3
  split at h3
  · rename_i c T' fz hc
    simp only[Option.some.injEq]at h3
    subst h3
    exact⟨T',fz,by rw[hc,← e]⟩
  · cases h3
end
end Go.Vs
namespace Go.Sx
open Go
section
variable {P:Program} {N:Nf} {fr:Fr} {H:Hp} {Γ:List Fct}
theorem mR_:∀ (x y:List UInt8),Op.bytesLess x y=decide (x<y)
  | [],[]=>by simp[Op.bytesLess]
  | _::_,[]=>by simp[Op.bytesLess]
  | [],_::_=>by simp[Op.bytesLess]
  | a::x,b::y=>by
    rw[Op.bytesLess,mR_ x y]
    simp only[List.cons_lt_cons_iff]
    by_cases h1:a<b<;>by_cases h2:a=b<;>by_cases h3:x<y<;>simp[h1,h2,h3]
theorem jh_ {t t' ty:TypeId} {x y:Operand} {m n:List UInt8} (hx:Fr.ev fr x=some (str m)) (hy:Fr.ev fr y=some (str n)):Yld P N fr H Γ (.binOp .lss t x y t') ty (.bool (decide (m<n))) :=
  fun a v h1 _ _ _ _ _=>by rw[← mR_];simp[execOp,h1.ev hx,h1.ev hy,str,eqGuard,binOp,Op.stringOp]
theorem jq_ {f:FuncId} {args:Array Value} {r:Value} {g:Nat} {cur:Array Value} {T:TypeId} {d:Array (List UInt8)} (hc:dR_ P f)
    (h:∀ v:Vw,v.sat [(g,.cells cur T (0,0))]→Calls P f args v.w fun e w'=>e=.returned r∧∃ n os,w'=Sort.grow (Sort.putRow Go.Proofs.encStr (Sort.ahead v.w n) g 0 d) os) :
    Tri P f args [(g,.cells cur T (0,0))] Γ (fun _:Unit=>r) (fun _=>[(g,.cells (Sort.putCells Go.Proofs.encStr 0 d cur) T (0,0))]) (fun _=>[]) :=
  ⟨hc,fun v h1 _=>(h v h1).mono fun e w' ⟨he,n,os,hw⟩=>by
    have hg:=(h1.own _ List.mem_cons_self)
    have hlt:g<v.w.heap.size:=(Array.getElem?_eq_some_iff.1 hg.1).1
    have hb:∀ b,b<v.w.heap.size→w'.heap[b]? = if b=g then some (.cells (Sort.putCells Go.Proofs.encStr 0 d cur) T (0,0)) else v.w.heap[b]? := fun b hb=>by
      rw[hw]
      simp only[Sort.grow,Sort.putRow,Sort.mapBlock,Sort.ahead]
      rw[Array.getElem?_append_left (by simpa using hb),Array.getElem?_modify]
      by_cases e:b=g
      · subst e
        simp only[if_true,hg.1,Option.map_some,Sort.onCells]
      · rw[if_neg (fun q=>e q.symm),if_neg e]
    have hsz:v.w.heap.size≤w'.heap.size:=by rw[hw];simp[Sort.grow,Sort.putRow,Sort.mapBlock,Sort.ahead]
    refine⟨(),⟨v.im,w',v.sl⟩,he,rfl,⟨fun p hp=>?_,by simp,fun b hbb=>Nat.lt_of_lt_of_le (h1.lt b hbb) hsz⟩,trivial,⟨by rw[hw];rfl,by rw[hw];rfl,by rw[hw];rfl,hsz,fun b hbb hn=>?_,fun _ h=>h,fun _ h=>.inl h,fun b hm=>.inl (by simpa using hm),rfl,.inr (by rw[hw];exact Nat.le_add_right _ _)⟩⟩
    · simp only[List.mem_singleton]at hp
      subst hp
      exact⟨by show w'.heap[g]? = _;rw[hb g hlt,if_pos rfl],hg.2⟩
    · have hn':b≠g:=by simpa using hn
      show w'.heap[b]? = _
      rw[hb b hbb,if_neg hn']⟩
theorem mc_ {cur:Array Value} {d:List (List UInt8)} (hs:d.length≤cur.size):(Sort.putCells Go.Proofs.encStr 0 d.toArray cur).toList.take d.length=d.flatMap aS_:=by
 rw[hL_]
 apply List.ext_getElem?
 intro j
 rw[List.getElem?_take,List.getElem?_map]
 split
 ·rename_i hj
  simp only[Sort.putCells,Array.getElem?_toList,Array.getElem?_mapIdx]
  rw[Array.getElem?_eq_getElem (by omega)]
  simp only[Option.map_some,Nat.zero_le,true_and,Nat.zero_add,List.size_toArray,hj,if_true,Nat.sub_zero]
  rw[List.getElem?_eq_getElem hj]
  simp only[Option.map_some]
  rw[getElem!_pos d.toArray j (by simpa using hj)]
  rfl
 rename_i hj
 rw[List.getElem?_eq_none (by omega)];rfl
theorem md_ {cur:Array Value} {d:Array (List UInt8)}:(Sort.putCells Go.Proofs.encStr 0 d cur).size=cur.size:=by simp[Sort.putCells]
end
end Go.Sx
namespace Go.Vs
open Go Go.Sx
def hC_ (p:Pc):List Str:=[p.a,p.b,p.c].filter fun s=>!(s==[])
def cj_ (l:List Pc):List Str:=l.flatMap hC_
def dz_ (l:List Pc):List Str:=Lib.compact ((cj_ l).mergeSort fun x y=>decide (x≤y))
theorem hA_:∀ l:List Pc,(cj_ l).length≤3*l.length
  | []=>by simp[cj_]
  | p::r=>by
    have h1:=hA_ r
    have h2:(hC_ p).length≤3:=by unfold hC_;exact List.length_filter_le _ _
    simp only[cj_,List.flatMap_cons,List.length_append,List.length_cons]at h1 ⊢
    omega
theorem lX_ (l:List Str):(l.mergeSort fun x y=>decide (x≤y)).Pairwise fun x y=>x≤y:=by
  have h:=List.pairwise_mergeSort (le:=fun x y:Str=>decide (x≤y)) (fun a b c h1 h2=>by simp only[decide_eq_true_eq]at *;exact List.le_trans h1 h2) (fun a b=>by
    simp only[Bool.or_eq_true,decide_eq_true_eq];exact List.le_total a b) l
  exact h.imp (fun h=>of_decide_eq_true h)
theorem gP_ {zs:List Str}:Lib.compact zs=((List.range zs.length).filter fun j=>decide (j=0∨zs[j]! ≠ zs[j - 1]!)).map fun j=>zs[j]! := by
 unfold Lib.compact Lib.compactUpTo Lib.keeps
 have e:∀ j,zs.toArray[j]! = zs[j]! := fun j=>by
   by_cases h:j<zs.length
   · rw[getElem!_pos zs.toArray j (by simpa using h),getElem!_pos zs j h];simp
   · rw[getElem!_neg zs.toArray j (by simpa using h),getElem!_neg zs j h]
 rw[List.map_congr_left fun j _=>e j]
 congr 2
 funext j
 rw[e,e]
theorem gO_ (zs:List Str):(Lib.compact zs).length≤zs.length:=by
  rw[gP_,List.length_map]
  have:=List.length_filter_le (fun j=>decide (j=0∨zs[j]! ≠ zs[j - 1]!)) (List.range zs.length)
  simpa using this
theorem iI_ {zs:List Str} (x:Str):x∈Lib.compact zs↔x∈zs:=by
 rw[gP_,List.mem_map]
 constructor
 ·rintro ⟨j,hj,rfl⟩
  have hl:=List.mem_range.1 (List.mem_filter.1 hj).1
  rw[getElem!_pos zs j hl]
  exact List.getElem_mem hl
 intro hx
 obtain⟨j,hj,e⟩:=List.mem_iff_getElem.1 hx
 clear hx
 induction j with
 | zero=>exact⟨0,List.mem_filter.2 ⟨List.mem_range.2 hj,by simp⟩,by rw[getElem!_pos zs 0 hj];exact e⟩
 | succ j ih =>
   by_cases h:zs[j+1]! = zs[j]!
   · have hj':j<zs.length:=by omega
     refine ih hj' ?_
     rw[getElem!_pos zs (j+1) hj,getElem!_pos zs j hj']at h
     rw[← h];exact e
   · exact⟨j+1,List.mem_filter.2 ⟨List.mem_range.2 hj,decide_eq_true (.inr h)⟩,by rw[getElem!_pos zs (j+1) hj];exact e⟩
theorem ke_ {zs:List Str} (hs:zs.Pairwise fun x y=>x≤y):(Lib.compact zs).Pairwise fun x y=>x<y:=by
 rw[gP_,List.pairwise_map]
 have hr:(List.range zs.length).Pairwise (·<·):=List.pairwise_lt_range
 have hf:=hr.filter (fun j=>decide (j=0∨zs[j]! ≠ zs[j - 1]!))
 refine List.Pairwise.imp_of_mem ?_ hf
 intro j k hj hk hlt
 have hkl:=List.mem_range.1 (List.mem_filter.1 hk).1
 have hkk:=(List.mem_filter.1 hk).2
 simp only[decide_eq_true_eq]at hkk
 have hne:zs[k]! ≠ zs[k - 1]! := by
   rcases hkk with h|h
   · omega
   · exact h
 have hle:∀ a b,a≤b→b<zs.length→zs[a]! ≤ zs[b]! := by
   intro a b hab hb
   rcases Nat.lt_or_eq_of_le hab with h|h
   · rw[getElem!_pos zs a (by omega),getElem!_pos zs b hb]
     exact List.pairwise_iff_getElem.1 hs a b (by omega) hb h
   · subst h;exact List.le_refl _
 have h1:=hle j (k - 1) (by omega) (by omega)
 have h2:=hle (k - 1) k (by omega) hkl
 have h3:zs[k - 1]! < zs[k]! := by
   apply Decidable.byContradiction
   intro h
   exact hne (List.le_antisymm (List.not_lt.1 h) h2)
 exact List.lt_of_le_of_lt h1 h3
theorem dy_ (l:List Pc) (x:Str):x∈dz_ l↔x∈cj_ l:=by
  unfold dz_
  rw[iI_,List.mem_mergeSort]
theorem pg_ (l:List Pc):(dz_ l).Pairwise fun x y=>x<y:=ke_ (lX_ _)
theorem ez_ (l:List Pc):(dz_ l).length≤3*l.length:=by
  have h1:=gO_ ((cj_ l).mergeSort fun x y=>decide (x≤y))
  rw[List.length_mergeSort]at h1
  have h2:=hA_ l
  unfold dz_
  omega
end Go.Vs
namespace Go.Proofs.YtkeanlfhghlgiaaGreatDoor
open Go Go.Sx Go.Proofs
attribute [local irreducible] Code.wp wpList wpAnyH
open Go.Vs
theorem kr_:Elt Tryz.prog 36 9 1 16:=la_ kA_ (z:=.string ⟨#[]⟩) (by kernel_rfl) rfl (by decide)
theorem kU_ {g n cap:Nat} {cur:Array Value} {xs:List Str} {v:Vw} (hs:v.sat [(g,.cells cur 9 (0,0))]) (ht:cur.toList.take (xs.length*1)=xs.flatMap aS_):Sort.Holds encStr v.w g 0 xs.toArray:=by
 intro j hj
 have hb:=(hs.own _ List.mem_cons_self).1
 simp only[List.size_toArray]at hj
 have hc:cur[j]? = some (str xs[j]):=op_ ht j xs[j] (List.getElem?_eq_getElem hj)
 refine⟨?_,?_⟩
 ·simp only[World.cell?,Nat.zero_add,hb,Option.isSome_none,Bool.false_eq_true,if_false]
  rw[hc,getElem!_pos xs.toArray j (by simpa using hj)]
  rfl
 simp[World.frozen?,hb]
theorem nH_ {sv:Value} {xs:List Str} {Hr:Hp} (h:aE_ 9 1 sv xs.length (xs.flatMap aS_) Hr) (hl:xs.length≤1000000000000) :
    Tri Tryz.prog 86 #[sv] Hr [] (fun _:{y:Hp // aE_ 9 1 sv xs.length ((xs.mergeSort fun x y=>decide (x≤y)).flatMap aS_) y}=>.tuple #[]) (fun y=>y.1) (fun _=>[]):=by
  rcases h.2 with⟨rfl,h2,rfl⟩|⟨g,cap,cur,rfl,rfl,h3,h4,h5,h6⟩
  · obtain rfl:xs=[]:=List.eq_nil_of_length_eq_zero h2
    have T:=eg_ (P:=Tryz.prog) (H:=[]) (Γ:=[]) (callable Tryz.func86 rfl rfl) (fun v _ _=>(Tryz.slices_Sort_string_none none 0 v.w).mono (by rintro e w' ⟨rfl,rfl⟩;exact⟨rfl,⟨rfl,rfl,rfl,Nat.le_refl _,fun _ _=>rfl⟩,.inr (Nat.le_refl _)⟩))
    exact⟨T.callable,fun v a b=>(T.run v a b).mono (by rintro e w' ⟨x,v',e1,e2,e3,e4,e5⟩;exact⟨⟨[],by simpa using aE_.nil _ _⟩,v',e1,e2,e3,e4,e5⟩)⟩
  · have T:=jq_ (P:=Tryz.prog) (Γ:=[]) (d:=(xs.mergeSort fun x y=>decide (x≤y)).toArray) (callable Tryz.func86 rfl rfl) (fun v hs=>Tryz.slices_Sort_string g 0 cap xs v.w (kU_ (n:=0) (cap:=0) hs h6) (Array.getElem?_eq_some_iff.1 (hs.own _ List.mem_cons_self).1).1 (by omega))
    have hsz:(xs.mergeSort fun x y=>decide (x≤y)).length=xs.length:=List.length_mergeSort _
    refine⟨T.callable,fun v a b=>(T.run v a b).mono ?_⟩
    rintro e w' ⟨x,v',e1,e2,e3,e4,e5⟩
    refine⟨⟨_,by rw[cT_ aS_ 1 au_,hsz],.inr ⟨g,cap,_,rfl,rfl,h3,h4,by rw[md_];exact h5,?_⟩⟩,v',e1,e2,e3,e4,e5⟩
    have:=mc_ (cur:=cur) (d:=xs.mergeSort fun x y=>decide (x≤y)) (by rw[hsz,h5];omega)
    rw[hsz]at this
    rw[Nat.mul_one];exact this
theorem kf_ {sv:Value} {xs:List Str} {Hr:Hp} (h:aE_ 9 1 sv xs.length (xs.flatMap aS_) Hr) (hl:xs.length≤1000000000000) :
    Tri Tryz.prog 87 #[sv] Hr [] (fun y:{y:Value×Hp // aE_ 9 1 y.1 (Lib.compact xs).length ((Lib.compact xs).flatMap aS_) y.2}=>y.1.1) (fun y=>y.1.2) (fun _=>[]):=by
  rcases h.2 with⟨rfl,h2,rfl⟩|⟨g,cap,cur,rfl,rfl,h3,h4,h5,h6⟩
  · obtain rfl:xs=[]:=List.eq_nil_of_length_eq_zero h2
    have T:=eg_ (P:=Tryz.prog) (H:=[]) (Γ:=[]) (callable Tryz.func87 rfl rfl) (fun v _ _=>(Tryz.slices_Compact_string_empty none 0 v.w).mono (by rintro e w' ⟨rfl,rfl⟩;exact⟨rfl,⟨rfl,rfl,rfl,Nat.le_refl _,fun _ _=>rfl⟩,.inr (Nat.le_refl _)⟩))
    exact⟨T.callable,fun v a b=>(T.run v a b).mono (by rintro e w' ⟨x,v',e1,e2,e3,e4,e5⟩;exact⟨⟨(.slice none 0 0,[]),by simpa [Lib.compact,Lib.compactUpTo] using aE_.nil _ _⟩,v',e1,e2,e3,e4,e5⟩)⟩
  · have hcl:=gO_ xs
    have T:=jq_ (P:=Tryz.prog) (Γ:=[]) (r:=.slice (some ⟨g,0,none⟩) (Lib.compact xs).length cap) (d:=(Lib.compact xs++List.replicate (xs.length - (Lib.compact xs).length) []).toArray) (callable Tryz.func87 rfl rfl) (fun v hs=>(Tryz.slices_Compact_string g 0 cap xs v.w (kU_ (n:=0) (cap:=0) hs h6) (by omega) h3).mono (by
      rintro e w' ⟨rfl,q,rfl⟩
      exact⟨rfl,q,#[],by rw[Sort.grow_empty]⟩))
    refine⟨T.callable,fun v a b=>(T.run v a b).mono ?_⟩
    rintro e w' ⟨x,v',e1,e2,e3,e4,e5⟩
    refine⟨⟨(.slice (some ⟨g,0,none⟩) (Lib.compact xs).length cap,_),by rw[cT_ aS_ 1 au_],.inr ⟨g,cap,_,rfl,rfl,by omega,h4,by rw[md_];exact h5,?_⟩⟩,v',e1,e2,e3,e4,e5⟩
    have hd:(Lib.compact xs++List.replicate (xs.length - (Lib.compact xs).length) ([]:Str)).length=xs.length:=by simp;omega
    have:=mc_ (cur:=cur) (d:=Lib.compact xs++List.replicate (xs.length - (Lib.compact xs).length) []) (by rw[hd,h5];omega)
    rw[hd]at this
    have h7:=congrArg (List.take (Lib.compact xs).length) this
    rw[List.take_take,Nat.min_eq_left hcl,List.flatMap_append,List.take_append_of_le_length (by rw[cT_ aS_ 1 au_];omega),List.take_of_length_le (l:=(Lib.compact xs).flatMap aS_) (by rw[cT_ aS_ 1 au_];omega)]at h7
    rw[Nat.mul_one];exact h7
theorem sv_ (l:List Pc) (ad:Option Addr) (cap:Nat) (hl:l.length≤100000000000):Tri Tryz.prog 48 #[.slice ad (List.length l) cap] [] [aq_ ad (List.flatMap Pc.cells l)] (fun y:{y:Option Addr×Nat // (dz_ l).length≤y.2∧y.2≤maxLen}=>.slice y.1.1 (dz_ l).length y.1.2) (fun _=>[]) (fun y=>[aq_ y.1.1 ((dz_ l).flatMap aS_)]):=by
 refine u_ Tryz.func48 rfl rfl Tryz.ntmps48 rfl fun v0=>?_
 refine Zz 14 ?_
 refine do_ [(2,.slice none 0 0),(7,.slice ad (List.length l) cap),(8,.int .i64 (List.length l:Int)),(9,.int .i64 ((0:Nat):Int))] zl ?_
 refine ej_ (ι:={y:Nat×Value×Hp // y.1≤l.length∧aE_ 9 1 y.2.1 (cj_ (l.take y.1)).length ((cj_ (l.take y.1)).flatMap aS_) y.2.2}) (fun y=>[(2,y.1.2.1),(7,.slice ad (List.length l) cap),(8,.int .i64 (List.length l:Int)),(9,.int .i64 (y.1.1:Int))]) (fun y=>y.1.2.2) (fun _=>_) (fun y=>l.length - y.1.1) ⟨(0,.slice none 0 0,[]),by simp,aE_.nil _ _⟩ ?_
 rintro ⟨⟨i,sv,Hr⟩,hi,hrow⟩
 dsimp only at hi hrow
 dsimp only
 have hol:=hA_ (l.take i)
 rw[List.length_take]at hol
 refine do_ [(2,sv),(7,.slice ad (List.length l) cap),(8,.int .i64 (List.length l:Int)),(9,.int .i64 (i:Int))] zl ?_
 refine Zi 2 (fun hr1=>?_) fun hr1=>?_
 ·refine Zz 7 ?_
  have et:l.take i=l:=List.take_of_length_le (by omega)
  rw[et]at hrow hol
  refine Zz 2 ?_
  refine n_ (nH_ hrow (by omega)) rfl bc_ zt rfl fun⟨Hs,hs⟩=>?_
  dsimp only
  refine w_ (List.Perm.symm bc_) ?_
  have hs2:aE_ 9 1 sv ((cj_ l).mergeSort fun x y=>decide (x≤y)).length (((cj_ l).mergeSort fun x y=>decide (x≤y)).flatMap aS_) Hs:=by rw[List.length_mergeSort];exact hs
  refine Zz 5 ?_
  refine n_ (kf_ hs2 (by rw[List.length_mergeSort];omega)) rfl bc_ zt rfl fun⟨⟨sc,Hc⟩,hc⟩=>?_
  dsimp only
  refine w_ (List.Perm.symm bc_) (Zz 4 ?_)
  refine jL_ hc bc_ fun ad2 cp2 hsv hc1 hc2=>?_
  exact al_ Tryz.results48 ⟨(ad2,cp2),hc1,hc2⟩ (dq_ rfl hsv) m_ zf
 obtain⟨hlx1,x1,hx1,hmx1⟩:=zge (show i<List.length l by omega)
 refine Zz 12 ?_
 refine L_ aL_ rfl fun b1=>A_ 0 R_ rfl rfl rfl rfl rfl rfl (Zz 10 ?_)
 refine Q_ B_ J_ aW_ rfl rfl rfl rfl rfl rfl fun b2=>?_
 refine aJ_ (List.flatMap aS_ [x1.a,x1.b,x1.c]) d_ rfl ?_
 refine Zz 5 ?_
 refine do_ [(2,sv),(7,.slice ad (List.length l) cap),(8,.int .i64 (List.length l:Int)),(9,.int .i64 (i:Int)),(19,.slice (some ⟨b2,0,none⟩) (List.length [x1.a,x1.b,x1.c]) 3),(20,.int .i64 3),(21,.int .i64 ((0:Nat):Int))] zl ?_
 refine ej_ (ι:={y:Nat×Value×Hp // y.1≤3∧aE_ 9 1 y.2.1 (cj_ (l.take i)++(List.take y.1 [x1.a,x1.b,x1.c]).filter fun s=>!(s==[])).length ((cj_ (l.take i)++(List.take y.1 [x1.a,x1.b,x1.c]).filter fun s=>!(s==[])).flatMap aS_) y.2.2}) (fun y=>[(2,y.1.2.1),(7,.slice ad (List.length l) cap),(8,.int .i64 (List.length l:Int)),(9,.int .i64 (i:Int)),(19,.slice (some ⟨b2,0,none⟩) (List.length [x1.a,x1.b,x1.c]) 3),(20,.int .i64 3),(21,.int .i64 (y.1.1:Int))]) (fun y=>_:: y.1.2.2) (fun _=>_) (fun y=>3 - y.1.1) ⟨(0,sv,Hr),by simp,by simpa using hrow⟩ ?_
 rintro ⟨⟨k,sw,Hw⟩,hk,hkr⟩
 dsimp only at hk hkr
 dsimp only
 have hfl:((cj_ (l.take i)++(List.take k [x1.a,x1.b,x1.c]).filter fun s=>!(s==[]))).length≤(cj_ (l.take i)).length+3:=by
   have:=List.length_filter_le (fun s=>!(s==[])) (List.take k [x1.a,x1.b,x1.c])
   simp only[List.length_append,List.length_take,List.length_cons,List.length_nil]at this ⊢
   omega
 refine do_ [(2,sw),(7,.slice ad (List.length l) cap),(8,.int .i64 (List.length l:Int)),(9,.int .i64 (i:Int)),(19,.slice (some ⟨b2,0,none⟩) (List.length [x1.a,x1.b,x1.c]) 3),(20,.int .i64 3),(21,.int .i64 (k:Int))] zl ?_
 refine Zi 2 (fun hr2=>?_) fun hr2=>?_
 ·refine Zz 11 ?_
  have hst:cj_ (l.take (i+1))=cj_ (l.take i)++hC_ x1:=by unfold cj_;rw[List.take_add_one,hx1,List.flatMap_append];simp
  exact C_ ⟨(i+1,sw,Hw),hlx1,by dsimp only;rw[hst];have:=hkr;rw[List.take_of_length_le (show [x1.a,x1.b,x1.c].length≤k by simp;omega)]at this;exact this⟩ (by dsimp only;omega) zl (c_ bc_) (fun _ _ h=>h.2)
 have hly1:k<List.length [x1.a,x1.b,x1.c]:=by simp;omega
 obtain⟨y1,hy1⟩:∃ e0,[x1.a,x1.b,x1.c][k]? = some e0:=⟨_,List.getElem?_eq_getElem hly1⟩
 have hmy1:y1∈[x1.a,x1.b,x1.c]:=List.mem_of_getElem? hy1
 refine Zz 11 ?_
 refine i_ (ay_ (ad:=(some ⟨b2,0,none⟩)) O_ rfl zf (x_ au_ hy1 0 _ rfl)) rfl (Zi 6 (fun hr3=>?_) fun hr3=>?_)
 ·refine Zz 10 ?_
  have hst:(cj_ (l.take i)++(List.take (k+1) [x1.a,x1.b,x1.c]).filter fun s=>!(s==[]))=(cj_ (l.take i)++(List.take k [x1.a,x1.b,x1.c]).filter fun s=>!(s==[]))++[y1].filter (fun s=>!(s==[])):=by rw[List.append_assoc,← List.filter_append,List.take_add_one,hy1];simp
  rw[show [y1].filter (fun s=>!(s==[]))=[] by simp[*],List.append_nil]at hst
  exact C_ ⟨(k+1,sw,Hw),by dsimp only;omega,by dsimp only;rw[hst];exact hkr⟩ (by dsimp only;omega) zl zp zh
 refine Zz 6 ?_
 refine Q_ B_ J_ aW_ rfl rfl rfl rfl rfl rfl fun b3=>?_
 refine ak_ (news:=[str y1]) kr_ hkr rfl rfl zp rfl (bq_ 0 rfl) (iX_ rfl) (by simp only[maxLen];omega) (by omega) rfl fun sv2 Hr2 hrow2=>?_
 refine w_ (@List.perm_append_comm _ _ [_,_]) (Zz 8 ?_)
 have hst:(cj_ (l.take i)++(List.take (k+1) [x1.a,x1.b,x1.c]).filter fun s=>!(s==[]))=(cj_ (l.take i)++(List.take k [x1.a,x1.b,x1.c]).filter fun s=>!(s==[]))++[y1].filter (fun s=>!(s==[])):=by rw[List.append_assoc,← List.filter_append,List.take_add_one,hy1];simp
 rw[show [y1].filter (fun s=>!(s==[]))=[y1] by simp[*]]at hst
 exact C_ ⟨(k+1,sv2,Hr2),by dsimp only;omega,by dsimp only;rw[hst];rw[List.length_append (bs:=[y1]),List.flatMap_append (ys:=[y1])];exact hrow2⟩ (by dsimp only;omega) zl (f_ (c_ d_) (c_ bc_)) zh
end Go.Proofs.YtkeanlfhghlgiaaGreatDoor
namespace Go.Sx
open Go
section
variable {P:Program} {N:Nf} {v0:Vw} {H0:Hp} {R:Exit→Act→World→Prop} {K:List Kt} {fr:Fr} {H:Hp} {Γ:List Fct}
variable {ops:Array Oper} {l:List Oper} {d:Nat} {ty:TypeId} {ps:String} {af:Array Edge}
end
end Go.Sx
namespace Go.Vs
open Go Go.Sx
def Cov (hs:List Bool) (L S:List Str):Prop:=hs.length=L.length∧∀ (n:Nat) (s:Str),L[n]? = some s→s∈S→hs[n]? = some true
theorem Cov.nil (L:List Str):Cov (List.replicate L.length false) L []:=⟨by simp,fun _ _ _ h=>by simp at h⟩
theorem Cov.set {hs:List Bool} {L S:List Str} (h:Cov hs L S) (n:Nat):Cov (hs.set n true) L S:=⟨by rw[List.length_set];exact h.1,fun m s h1 h2=>by
 have h3:=h.2 m s h1 h2
 rw[List.getElem?_set]
 split
 ·rename_i e
  subst e
  rw[if_pos (List.getElem?_eq_some_iff.1 h3).1]
 exact h3⟩
def kv_ (hs:List Bool) (L S:List Str) (y:Str) (n:Nat):Prop:=Cov hs L S∧∀ m,m<n→L[m]? = some y→hs[m]? = some true
theorem kv_.zero {hs:List Bool} {L S:List Str} {y:Str} (h:Cov hs L S):kv_ hs L S y 0:=⟨h,fun _ h=>by omega⟩
theorem kv_.hit {hs:List Bool} {L S:List Str} {y:Str} {n:Nat} (h:kv_ hs L S y n) (hn:n<L.length):kv_ (hs.set n true) L S y (n+1):=⟨h.1.set n,fun m hm e=>by
 rw[List.getElem?_set]
 split
 ·rename_i e
  rw[if_pos (by rw[h.1.1];omega)]
 rename_i e2
 exact h.2 m (by omega) e⟩
theorem kv_.miss {hs:List Bool} {L S:List Str} {y z:Str} {n:Nat} (h:kv_ hs L S y n) (hz:L[n]? = some z) (hne:z≠y):kv_ hs L S y (n+1):=⟨h.1,fun m hm e=>by
 by_cases e2:m=n
 ·subst e2
  rw[hz,Option.some.injEq]at e
  exact absurd e hne
 exact h.2 m (by omega) e⟩
theorem kv_.done {hs:List Bool} {L S:List Str} {y:Str} {n:Nat} (h:kv_ hs L S y n) (hn:L.length≤n):Cov hs L (S++[y]):=⟨h.1.1,fun m s h1 h2=>by
 rcases List.mem_append.1 h2 with h2|h2
 ·exact h.1.2 m s h1 h2
 simp only[List.mem_singleton]at h2
 subst h2
 have:=(List.getElem?_eq_some_iff.1 h1).1
 exact h.2 m (by omega) h1⟩
def three (p:Pc):List Str:=[p.a,p.b,p.c]
theorem Cov.all {hs:List Bool} {l:List Pc} (h:Cov hs (dz_ l) (l.flatMap three)) {n:Nat} (hn:n<(dz_ l).length):hs[n]? = some true:=by
  have hm:=(dy_ l _).1 (List.getElem_mem hn)
  refine h.2 n _ (List.getElem?_eq_getElem hn) ?_
  simp only[cj_,List.mem_flatMap,hC_,List.mem_filter]at hm
  obtain⟨p,h1,h2⟩:=hm
  exact List.mem_flatMap.2 ⟨p,h1,h2.1⟩
end Go.Vs
namespace Go.Vs
open Go Go.Sx
-- valid pieces,kind by kind
section
variable {a b c r s t:Str} {lo hi f:Int}
end
-- atoms
-- roles
structure RInv (s:Str) (a i:Nat) (dn:List Str):Prop where
  le:a≤i
  il:i≤s.length
  no:ixS 46 ((s.drop a).take (i - a))=none
  sp:bK_ 46 s=dn++bK_ 46 (s.drop a)
  al:dn.all cd_=true
structure REnd (s:Str) (i:Nat) (dn:List Str):Prop where
  il:i=s.length+1
  sp:bK_ 46 s=dn
  al:dn.all cd_=true
theorem RInv.start (s:Str):RInv s 0 0 []:=⟨Nat.le_refl _,Nat.zero_le _,by simp[ixS],by simp,rfl⟩
theorem RInv.len {s:Str} {a i:Nat} {dn:List Str} (h:RInv s a i dn):dn.length≤s.length+1:=by
  have h1:=dw_ 46 s
  have h2:=je_ 46 s
  rw[h.sp,List.length_append]at h1
  omega
theorem REnd.len {s:Str} {i:Nat} {dn:List Str} (h:REnd s i dn):dn.length≤s.length+1:=by
  have h1:=dw_ 46 s
  have h2:=je_ 46 s
  rw[h.sp]at h1
  omega
theorem RInv.next {s:Str} {a i:Nat} {dn:List Str} {c:UInt8} (h:RInv s a i dn) (hc:s[i]? = some c) (hne:c≠46):RInv s a (i+1) dn:=by
  have hi:=(List.getElem?_eq_some_iff.1 hc).1
  have hle:=h.le
  refine⟨by omega,by omega,?_,h.sp,h.al⟩
  rw[show i+1 - a=(i - a)+1 by omega]
  exact qH_ (s.drop a) (i - a) c (by rw[List.getElem?_drop,show a+(i - a)=i by omega];exact hc) h.no hne
theorem REnd.role {s:Str} {i:Nat} {dn:List Str} (h:REnd s i dn):dn_ s=decide ((dn.length:Int)≤4):=by
  unfold dn_
  rw[h.sp]
  have:dn.any (fun r=>!cd_ r)=false:=by
    rw[List.any_eq_false]
    intro x hx
    have:=List.all_eq_true.1 h.al x hx
    simp[this]
  rw[this]
  simp
  omega
-- sorted insertion
def kS (l:List Str) (s:Str):Nat:=(l.takeWhile fun x=>decide (x<s)).length
theorem qF_ {s:Str}:∀ {l:List Str} {k:Nat},k≤l.length→(∀ x∈l.take k,x<s)→(∀ x,l[k]? = some x→¬ x<s)→kS l s=k
  | [],k,h1,_,_=>by simp at h1;simp[kS,h1]
  | y::r,0,_,_,h3=>by
    have:=h3 y rfl
    unfold kS
    rw[List.takeWhile_cons_of_neg (by simpa using this)]
    rfl
  | y::r,k+1,h1,h2,h3=>by
    have hy:y<s:=h2 y (by simp)
    have ih:=qF_ (l:=r) (k:=k) (by simpa using h1) (fun x hx=>h2 x (by simp[hx])) (fun x hx=>h3 x (by simpa using hx))
    unfold kS at ih ⊢
    rw[List.takeWhile_cons_of_pos (by simpa using hy),List.length_cons,ih]
def bl_ (l:List Str) (s:Str):List Str:=if s=[]∨l[kS l s]? = some s then l else l.take (kS l s)++[s]++l.drop (kS l s)
theorem kS_le (l:List Str) (s:Str):kS l s≤l.length:=(List.takeWhile_sublist _).length_le
theorem eY_ (l:List Str) (s:Str):(bl_ l s).length≤l.length+1:=by
 have:=kS_le l s
 unfold bl_
 split
 ·omega
 simp only[List.length_append,List.length_take,List.length_cons,List.length_nil,List.length_drop]
 omega
theorem if_ {l:List Str} {s x:Str}:x∈bl_ l s↔x∈l∨(x=s∧s≠[]):=by
 unfold bl_
 split
 ·rename_i h
  constructor
  ·exact .inl
  rintro (h2|⟨rfl,h2⟩)
  ·exact h2
  rcases h with h|h
  ·exact absurd h h2
  exact List.mem_of_getElem? h
 rename_i h
 simp only[not_or]at h
 have e:x∈l↔x∈l.take (kS l s)∨x∈l.drop (kS l s):=by
   rw[← List.mem_append,List.take_append_drop]
 rw[e]
 simp only[List.mem_append,List.mem_singleton]
 constructor
 ·rintro ((h1|h1)|h1)
  ·exact .inl (.inl h1)
  ·exact .inr ⟨h1,h1▸h.1⟩
  exact .inl (.inr h1)
 rintro ((h1|h1)|h1)
 ·exact .inl (.inl h1)
 ·exact .inr h1
 exact .inl (.inr h1.1)
theorem pt_ {s:Str}:∀ (l:List Str),∀ x∈l.take (kS l s),x<s:=by
 intro l x hx
 have e:l.take (kS l s)=l.takeWhile fun x=>decide (x<s):=by
   unfold kS
   exact (List.prefix_iff_eq_take.1 (List.takeWhile_prefix _)).symm
 rw[e]at hx
 induction l with
 | nil=>simp at hx
 | cons y r ih =>
   by_cases hy:y<s
   · rw[List.takeWhile_cons_of_pos (by simpa using hy)]at hx
     rcases List.mem_cons.1 hx with rfl|hx
     · exact hy
     · refine ih hx ?_
       unfold kS
       exact (List.prefix_iff_eq_take.1 (List.takeWhile_prefix _)).symm
   · rw[List.takeWhile_cons_of_neg (by simpa using hy)]at hx
     simp at hx
theorem nF_ {s:Str}:∀ (l:List Str) (x:Str),l[kS l s]? = some x→¬ x<s
 | [],x,h=>by simp at h
 | y::r,x,h=>by
   unfold kS at h
   by_cases hy:y<s
   · rw[List.takeWhile_cons_of_pos (by simpa using hy),List.length_cons,List.getElem?_cons_succ]at h
     exact nF_ r x h
   · rw[List.takeWhile_cons_of_neg (by simpa using hy)]at h
     simp only[List.length_nil,List.getElem?_cons_zero,Option.some.injEq]at h
     subst h
     exact hy
theorem jm_ {l:List Str} {s:Str} (h:l.Pairwise fun x y=>x<y):(bl_ l s).Pairwise fun x y=>x<y:=by
 unfold bl_
 split
 ·exact h
 rename_i hn
 simp only[not_or]at hn
 have hd:∀ y∈l.drop (kS l s),s<y:=by
   intro y hy
   obtain⟨j,hj,rfl⟩:=List.mem_iff_getElem.1 hy
   rw[List.getElem_drop]
   rw[List.length_drop]at hj
   have hk:kS l s<l.length:=by omega
   have h0:=nF_ l _ (List.getElem?_eq_getElem hk)
   have h1:s<l[kS l s]:=by
     apply Decidable.byContradiction
     intro q
     apply hn.2
     rw[List.getElem?_eq_getElem hk,Option.some.injEq]
     exact List.le_antisymm (List.not_lt.1 q) (List.not_lt.1 h0)
   rcases Nat.eq_zero_or_pos j with rfl|hp
   · exact h1
   · exact List.lt_trans h1 (List.pairwise_iff_getElem.1 h _ _ hk (by omega) (by omega))
 rw[List.pairwise_append,List.pairwise_append]
 refine⟨⟨h.sublist (List.take_sublist _ _),List.pairwise_singleton _ _,fun x hx y hy=>?_⟩,h.sublist (List.drop_sublist _ _),fun x hx y hy=>?_⟩
 ·rw[List.mem_singleton]at hy
  subst hy
  exact pt_ l x hx
 rcases List.mem_append.1 hx with hx|hx
 ·exact List.lt_trans (pt_ l x hx) (hd y hy)
 rw[List.mem_singleton]at hx
 subst hx
 exact hd y hy
def cf_ (l:List Pc):List Str:=l.foldl (fun L p=>bl_ (bl_ (bl_ L p.a) p.b) p.c) []
theorem mS_ {l:List Pc} {i:Nat} {p:Pc} (h:l[i]? = some p):cf_ (l.take (i+1))=bl_ (bl_ (bl_ (cf_ (l.take i)) p.a) p.b) p.c:=by
  rw[List.take_add_one,h,Option.toList_some]
  simp[cf_,List.foldl_append]
theorem hB_:∀ (l:List Pc) (L:List Str),L.Pairwise (fun x y=>x<y)→(l.foldl (fun L p=>bl_ (bl_ (bl_ L p.a) p.b) p.c) L).Pairwise (fun x y=>x<y)∧(∀ x,x∈l.foldl (fun L p=>bl_ (bl_ (bl_ L p.a) p.b) p.c) L↔x∈L∨x∈cj_ l)∧(l.foldl (fun L p=>bl_ (bl_ (bl_ L p.a) p.b) p.c) L).length≤L.length+3*l.length
 | [],L,h=>⟨h,fun x=>by simp[cj_],by simp⟩
 | p::r,L,h=>by
   obtain⟨h1,h2,h3⟩:=hB_ r (bl_ (bl_ (bl_ L p.a) p.b) p.c) (jm_ (jm_ (jm_ h)))
   refine⟨h1,fun x=>?_,?_⟩
   · rw[List.foldl_cons,h2,if_,if_,if_]
     simp only[cj_,List.flatMap_cons,List.mem_append,hC_,List.mem_filter,List.mem_cons,List.not_mem_nil,or_false]
     constructor
     · rintro ((((h|⟨rfl,h⟩)|⟨rfl,h⟩)|⟨rfl,h⟩)|h)
       · exact .inl h
       · exact .inr (.inl ⟨.inl rfl,by simpa using h⟩)
       · exact .inr (.inl ⟨.inr (.inl rfl),by simpa using h⟩)
       · exact .inr (.inl ⟨.inr (.inr rfl),by simpa using h⟩)
       · exact .inr (.inr h)
     · rintro (h|⟨h,h5⟩|h)
       · exact .inl (.inl (.inl (.inl h)))
       · have h6:x≠[]:=by simpa using h5
         rcases h with rfl|rfl|rfl
         · exact .inl (.inl (.inl (.inr ⟨rfl,h6⟩)))
         · exact .inl (.inl (.inr ⟨rfl,h6⟩))
         · exact .inl (.inr ⟨rfl,h6⟩)
       · exact .inr h
   · rw[List.foldl_cons]
     have a1:=eY_ L p.a
     have a2:=eY_ (bl_ L p.a) p.b
     have a3:=eY_ (bl_ (bl_ L p.a) p.b) p.c
     simp only[List.length_cons]
     omega
theorem kG_:∀ {l m:List Str},l.Pairwise (fun x y=>x<y)→m.Pairwise (fun x y=>x<y)→(∀ x,x∈l↔x∈m)→l=m
 | [],[],_,_,_=>rfl
 | [],y::m,_,_,h=>by have:=(h y).2 (by simp);simp at this
 | x::l,[],_,_,h=>by have:=(h x).1 (by simp);simp at this
 | x::l,y::m,h1,h2,h=>by
   rw[List.pairwise_cons]at h1 h2
   have e:x=y:=by
     have hx:=(h x).1 (by simp)
     have hy:=(h y).2 (by simp)
     rcases List.mem_cons.1 hx with e|hx
     · exact e
     rcases List.mem_cons.1 hy with e|hy
     · exact e.symm
     exact absurd (List.lt_trans (h1.1 y hy) (h2.1 x hx)) (List.lt_irrefl _)
   subst e
   congr 1
   refine kG_ h1.2 h2.2 fun z=>?_
   have hz:=h z
   simp only[List.mem_cons]at hz
   constructor
   · intro q
     rcases hz.1 (.inr q) with e|e
     · subst e
       exact absurd (h1.1 z q) (List.lt_irrefl _)
     · exact e
   · intro q
     rcases hz.2 (.inr q) with e|e
     · subst e
       exact absurd (h2.1 z q) (List.lt_irrefl _)
     · exact e
theorem re_ (l:List Pc):dz_ l=cf_ l:=by
  obtain⟨h1,h2,_⟩:=hB_ l [] List.Pairwise.nil
  refine kG_ (pg_ l) h1 fun x=>?_
  have:=h2 x
  rw[dy_]
  simp only[List.not_mem_nil,false_or]at this
  exact this.symm
theorem kl_ (l:List Pc):(cf_ l).length≤3*l.length:=by
  have:=(hB_ l [] List.Pairwise.nil).2.2
  simpa [cf_] using this
end Go.Vs
