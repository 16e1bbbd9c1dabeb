/-
  Lemmas for the law ModuleExtracts (no condition).
-/
import Derived.Lib.SlicesCompact
import Derived.Sort.EncStr
import Derived.Test.YtbffkokbdeppaaaGreatDoorQModuleExtracts5
import Derived.Test.YtbffkokbdeppaaaGreatDoorProg
set_option linter.unusedVariables false
set_option linter.unusedSimpArgs false
set_option linter.unusedSectionVars false
set_option maxHeartbeats 1000000
namespace Go.Proofs.YtbffkokbdeppaaaGreatDoor
open Go Go.Sx Go.Proofs Tryz
attribute [local irreducible] Code.wp wpList wpAnyH
open Go.Vs
theorem qL_ (c:UInt8) :
    Fn0 prog 313 #[.int .u8 (c.toNat:Int)] (.bool (dK_ c)):=by
  refine l_ func313 rfl rfl ntmps313 rfl λu=>?_;refine Zi 8 (λh=>?_) λh=>?_
  . refine Zi 8 (λd=>?_) λd=>?_
    . refine Zz 11 ?_;exact W_ wj_ () (n_ rfl zaT_) (.refl _) zt
    . refine Zz 5 ?_;refine A_ (dx_ rfl rfl) rfl λk e=>Zz 7 ?_
      exact W_ wj_ () (n_ rfl zaT_) (.refl _) zt
  . refine Zi 4 (λd=>?_) λd=>?_
    . refine Zi 5 (λe=>?_) λe=>?_
      . refine Zz 11 ?_;exact W_ wj_ () (n_ rfl zaT_) (.refl _) zt
      . refine Zz 5 ?_;refine A_ (dx_ rfl rfl) rfl λk o=>Zz 7 ?_
        exact W_ wj_ () (n_ rfl zaT_) (.refl _) zt
    . refine Zz 13 ?_;exact W_ wj_ () (n_ rfl zaT_) (.refl _) zt
theorem tp_ (c:UInt8) :
    Fn0 prog 315 #[.int .u8 (c.toNat:Int)] (.bool (dz_ c)):=by
  refine l_ func315 rfl rfl ntmps315 rfl λv=>?_;refine Zz 8 ?_;refine U_ (qL_ _) rfl (.refl _) zt rfl λk u=>Zz 1 ?_
  cases k
  . refine Zi 3 (λe=>?_) λe=>?_
    . refine Zz 11 ?_;refine A_ (al_ rfl rfl) rfl λh d=>Zz 5 ?_
      exact W_ results315 () (n_ rfl zbb_) (.refl _) zt
    . refine Zi 5 (λd=>?_) λd=>?_
      . refine Zz 7 ?_;refine A_ (al_ rfl rfl) rfl λh o=>Zz 5 ?_
        exact W_ results315 () (n_ rfl zbb_) (.refl _) zt
      . refine Zz 11 ?_;exact W_ results315 () (n_ rfl zbb_) (.refl _) zt
  . refine Zz 15 ?_;exact W_ results315 () (n_ rfl zbb_) (.refl _) zt
theorem uZ_ (s:Str) :
    Fn0 prog 314 #[str s] (.bool (aZ_ s)):=by
  refine l_ func314 rfl rfl ntmps314 rfl λP=>?_;refine Zi 15 (λM=>?_) λM=>?_
  . refine Zi 6 (λO=>?_) λO=>?_
    . refine Zi 6 (λL=>?_) λL=>?_
      . refine Zi 6 (λJ=>?_) λJ=>?_
        . refine Zi 6 (λH=>?_) λH=>?_
          . refine Zi 6 (λG=>?_) λG=>?_
            . refine Zi 6 (λK=>?_) λK=>?_
              . refine Zi 6 (λI=>?_) λI=>?_
                . refine Zi 6 (λF=>?_) λF=>?_
                  . refine Zi 6 (λe=>?_) λe=>?_
                    . refine Zi 6 (λh=>?_) λh=>?_
                      . refine Zi 6 (λu=>?_) λu=>?_
                        . refine Zi 6 (λE=>?_) λE=>?_
                          . refine Zi 6 (λA=>?_) λA=>?_
                            . refine Zi 6 (λv=>?_) λv=>?_
                              . refine Zi 6 (λk=>?_) λk=>?_
                                . refine Zi 6 (λC=>?_) λC=>?_
                                  . refine Zi 6 (λB=>?_) λB=>?_
                                    . refine Zi 6 (λy=>?_) λy=>?_
                                      . refine Zi 6 (λx=>?_) λx=>?_
                                        . refine Zi 6 (λo=>?_) λo=>?_
                                          . refine Zi 5 (λd=>?_) λd=>?_
                                            . refine Zz 12 ?_;exact W_ bw_ () (n_ rfl zaq_) (.refl _) zt
                                            . refine Zz 10 ?_;exact W_ bw_ () (n_ rfl zaq_) (.refl _) zt
                                          . refine Zz 13 ?_;exact W_ bw_ () (n_ rfl zaq_) (.refl _) zt
                                        . refine Zz 13 ?_;exact W_ bw_ () (n_ rfl zaq_) (.refl _) zt
                                      . refine Zz 13 ?_;exact W_ bw_ () (n_ rfl zaq_) (.refl _) zt
                                    . refine Zz 13 ?_;exact W_ bw_ () (n_ rfl zaq_) (.refl _) zt
                                  . refine Zz 13 ?_;exact W_ bw_ () (n_ rfl zaq_) (.refl _) zt
                                . refine Zz 13 ?_;exact W_ bw_ () (n_ rfl zaq_) (.refl _) zt
                              . refine Zz 13 ?_;exact W_ bw_ () (n_ rfl zaq_) (.refl _) zt
                            . refine Zz 13 ?_;exact W_ bw_ () (n_ rfl zaq_) (.refl _) zt
                          . refine Zz 13 ?_;exact W_ bw_ () (n_ rfl zaq_) (.refl _) zt
                        . refine Zz 13 ?_;exact W_ bw_ () (n_ rfl zaq_) (.refl _) zt
                      . refine Zz 13 ?_;exact W_ bw_ () (n_ rfl zaq_) (.refl _) zt
                    . refine Zz 13 ?_;exact W_ bw_ () (n_ rfl zaq_) (.refl _) zt
                  . refine Zz 13 ?_;exact W_ bw_ () (n_ rfl zaq_) (.refl _) zt
                . refine Zz 13 ?_;exact W_ bw_ () (n_ rfl zaq_) (.refl _) zt
              . refine Zz 13 ?_;exact W_ bw_ () (n_ rfl zaq_) (.refl _) zt
            . refine Zz 13 ?_;exact W_ bw_ () (n_ rfl zaq_) (.refl _) zt
          . refine Zz 13 ?_;exact W_ bw_ () (n_ rfl zaq_) (.refl _) zt
        . refine Zz 13 ?_;exact W_ bw_ () (n_ rfl zaq_) (.refl _) zt
      . refine Zz 13 ?_;exact W_ bw_ () (n_ rfl zaq_) (.refl _) zt
    . refine Zz 13 ?_;exact W_ bw_ () (n_ rfl zaq_) (.refl _) zt
  . refine Zz 13 ?_;exact W_ bw_ () (n_ rfl zaq_) (.refl _) zt
theorem rZ_ (s:Str) (F:s.length<=140737488351232) :
    Fn0 prog 269 #[str s] (.bool (gv_ s)):=by
  refine l_ func269 rfl rfl ntmps269 rfl λE=>?_;refine Zz 9 ?_;refine c_ (cK_ L_ rfl) rfl ?_;refine Zi 0 (λh=>?_) λh=>?_
  . obtain⟨c,t,es⟩:=ybt_ (l:=s) zaa_;refine Zz 4 ?_;refine c_ (cr_ L_ rfl rfl zaj_ (show s[(0:Int).toNat]? = some c by rw[es];rfl)) rfl ?_;refine as_ rfl rfl (U_ (qL_ _) rfl (.refl _) zt rfl λv C=>as_ rfl rfl (c_ (aI_ rfl) rfl (Zz 2 ?_)));cases v
    . refine Zz 12 ?_;exact W_ wm_ () (n_ rfl (by simp_all [gv_])) (.refl _) zt
    . refine Zz 3 ?_;refine U_ (uZ_ _) rfl (.refl _) zt rfl λo B=>Zz 3 ?_
      cases o
      . refine Zz 10 ?_;refine bc_ [(0,str s),(3,i4_ ((0:Nat):Int))] zl ?_;refine bs_ (ι:={k:Nat // k<=s.length/\(s.take k).all dz_=true}) (λi=>[(0,str s),(3,i4_ i.1)]) (λ_=>_) (λ_=>_) (λi=>s.length - i.1) ⟨0,by simp⟩ ?_;rintro ⟨k,A⟩;refine bc_ [(0,str s),(3,i4_ k)] zl ?_;refine Zz 5 ?_;refine c_ (cK_ L_ rfl) rfl ?_;refine Zi 0 (λe=>?_) λe=>?_
        . refine Zz 11 ?_;exact W_ wm_ () (n_ rfl (by have:=ih_ dz_ s k zaa_ A.2;simp_all [gv_,iB_])) (.refl _) zt
        . have d:k<s.length:=by omega
          obtain⟨c,x⟩:∃ c,s[k]? = some c:=⟨_,yaa_ d⟩;refine Zz 11 ?_;refine c_ (cr_ L_ rfl rfl zaa_ x) rfl (U_ (tp_ _) rfl (.refl _) zt rfl λu y=>c_ (aI_ rfl) rfl (Zz 2 ?_));cases u
          . refine Zz 7 ?_;exact W_ wm_ () (n_ rfl (by have:=gy_ dz_ s k c x zch_;simp_all [gv_,iB_])) (.refl _) zt
          . refine Zz 9 ?_;exact w_ ⟨k+1,d,eV_ _ s k c x A.2 zch_⟩ zaC_ zl (.refl _) zh
      . refine Zz 7 ?_;exact W_ wm_ () (n_ rfl (by simp_all [gv_])) (.refl _) zt
  . have G:s=[]:=yau_ zaa_;refine Zz 19 ?_;exact W_ wm_ () (n_ rfl (by simp_all [gv_])) (.refl _) zt
theorem hK_ (s:Str) :
    Fn0 prog 184 #[str s] (.bool (bO_ s)):=by
  refine l_ func184 rfl rfl ntmps184 rfl λC=>?_;refine Zz 9 ?_;refine c_ (cK_ L_ rfl) rfl ?_;refine Zi 0 (λu=>?_) λu=>?_
  . refine Zz 12 ?_;refine bc_ [(0,str s),(3,i4_ ((0:Nat):Int))] zl ?_;refine bs_ (ι:={k:Nat // k<=s.length/\ixS 58 (s.take k)=none}) (λi=>[(0,str s),(3,i4_ i.1)]) (λ_=>_) (λ_=>_) (λi=>s.length - i.1) ⟨0,by simp[ixS]⟩ ?_;rintro ⟨k,x⟩;refine bc_ [(0,str s),(3,i4_ k)] zl ?_;refine Zz 5 ?_;refine c_ (cK_ L_ rfl) rfl ?_;refine Zi 0 (λv=>?_) λv=>?_
    . refine Zz 8 ?_;refine U_ (rZ_ _ zaZ_) rfl (.refl _) zt rfl λo d=>?_;refine Zz 4 ?_;exact W_ results184 () (n_ rfl (by rw[bO_,Al_ s k zaa_ x.2];simp_all<;>omega)) (.refl _) zt
    . have h:k<s.length:=by omega
      obtain⟨c,y⟩:∃ c,s[k]? = some c:=⟨_,yaa_ h⟩;refine Zz 11 ?_;refine c_ (cr_ L_ rfl rfl zaa_ y) rfl ?_;refine Zi 0 (λd=>?_) λd=>?_
      . refine Zz 11 ?_;exact w_ ⟨k+1,h,Ak_ s k c y x.2 (by intro e;subst e;simp_all)⟩ zaC_ zl (.refl _) zh
      . obtain rfl:c=58:=UInt8.toNat_inj.1 (by show c.toNat=58;omega);refine Zz 7 ?_;refine c_ (fK_ (i:=0) (j:=k) (kl:=.i64) L_ rfl rfl rfl zaa_ zaa_) rfl (U_ (rZ_ _ zaZ_) rfl (.refl _) zt rfl λo B=>?_);refine Zz 1 ?_;cases o
        . refine Zz 10 ?_;exact W_ results184 () (n_ rfl zbW_) (.refl _) zt
        . refine Zz 7 ?_;refine c_ (fK_ (i:=k+1) (j:=s.length) (kh:=.i64) L_ rfl rfl rfl zaa_ zaa_) rfl (as_ rfl rfl (U_ (rZ_ _ zaZ_) rfl (.refl _) zt rfl λE A=>?_));refine Zz 5 ?_;exact W_ results184 () (n_ rfl zbW_) (.refl _) zt
  . refine Zz 9 ?_;exact W_ results184 () (n_ rfl (by simp[bO_]<;>omega)) (.refl _) zt
theorem tu_ (s:Str) :
    Fn0 prog 270 #[str s] (.bool (cl_ s)):=by
  refine l_ func270 rfl rfl ntmps270 rfl λC=>?_;refine Zz 9 ?_;refine c_ (cK_ L_ rfl) rfl ?_;refine Zi 0 (λo=>?_) λo=>?_
  . refine Zz 4 ?_;refine c_ (cK_ L_ rfl) rfl (as_ rfl rfl ?_);refine Zi 0 (λu=>?_) λu=>?_
    . obtain⟨c,t,es⟩:=ybt_ (l:=s) zaa_;refine Zz 5 ?_;refine c_ (cr_ L_ rfl rfl zaj_ (show s[(0:Int).toNat]? = some c by rw[es];rfl)) rfl ?_;refine as_ rfl rfl ?_;refine Zi 0 (λh=>?_) λh=>?_
      . have B:c.toNat=95:=by omega
        refine Zz 13 ?_;refine bc_ [(0,str s),(3,i4_ ((1:Nat):Int))] zl ?_;refine bs_ (ι:={k:Nat // k<=s.length/\(s.take k).all dz_=true}) (λi=>[(0,str s),(3,i4_ i.1)]) (λ_=>_) (λ_=>_) (λi=>s.length - i.1) ⟨1,by omega,by subst es;simp[dz_,B]⟩ ?_;rintro ⟨k,A⟩;refine bc_ [(0,str s),(3,i4_ k)] zl ?_;refine Zz 5 ?_;refine c_ (cK_ L_ rfl) rfl ?_;refine Zi 0 (λe=>?_) λe=>?_
        . refine Zz 11 ?_;exact W_ wl_ () (n_ rfl (by have:=ih_ dz_ s k zaa_ A.2;subst es;simp[cl_,iB_,this,B]<;>simp at*<;> omega)) (.refl _) zt
        . have d:k<s.length:=by omega
          obtain⟨c,x⟩:∃ c,s[k]? = some c:=⟨_,yaa_ d⟩;refine Zz 11 ?_;refine c_ (cr_ L_ rfl rfl zaa_ x) rfl (U_ (tp_ _) rfl (.refl _) zt rfl λv y=>c_ (aI_ rfl) rfl (Zz 2 ?_));cases v
          . refine Zz 7 ?_;exact W_ wl_ () (n_ rfl (by have:=gy_ dz_ s k c x zch_;simp[cl_,iB_,this])) (.refl _) zt
          . refine Zz 9 ?_;exact w_ ⟨k+1,d,eV_ _ s k c x A.2 zch_⟩ zaC_ zl (.refl _) zh
      . refine Zz 10 ?_;exact W_ wl_ () (n_ rfl zbp_) (.refl _) zt
    . refine Zz 15 ?_;exact W_ wl_ () (n_ rfl zbp_) (.refl _) zt
  . refine Zz 19 ?_;exact W_ wl_ () (n_ rfl zbp_) (.refl _) zt
theorem kf_ (s:Str) :
    Fn0 prog 185 #[str s] (.bool (bk_ s)):=by
  refine l_ func185 rfl rfl ntmps185 rfl λk=>?_;refine Zz 8 ?_;refine U_ (hK_ _) rfl (.refl _) zt rfl λd e=>Zz 1 ?_
  cases d
  . refine Zz 3 ?_;refine U_ (tu_ _) rfl (.refl _) zt rfl λo h=>Zz 5 ?_
    exact W_ results185 () (n_ rfl (by simp[bk_, *])) (.refl _) zt
  . refine Zz 7 ?_;exact W_ results185 () (n_ rfl (by simp[bk_, *])) (.refl _) zt
theorem lX_ (s:Str) :
    Fn0 prog 172 #[str s] (i4_ (if bk_ s then 0 else 20)):=by
  refine l_ func172 rfl rfl ntmps172 rfl λh=>?_;refine Zz 9 ?_;refine U_ (kf_ _) rfl (.refl _) zt rfl λd e=>c_ (aI_ rfl) rfl (Zz 2 ?_)
  cases d
  . refine Zz 7 ?_;exact W_ results172 () (aV_ rfl zch_) (.refl _) zt
  . refine Zz 9 ?_;exact W_ results172 () (aV_ rfl zch_) (.refl _) zt
end Go.Proofs.YtbffkokbdeppaaaGreatDoor
namespace Go.Vs
open Go Go.Sx
theorem lM_ {s:Str} (h:gv_ s=true):∃ c t,s=c::t/\dK_ c=true/\iB_ s=true:=by
  cases s<;>grind[gv_]
theorem la_ {s:Str} (h:bO_ s=true):∃ c t,s=c::t/\dK_ c=true:=by
  unfold bO_ at h;simp only[yaJ_]at h;cases hx:ixS 58 s with
  | none=>grind[lM_]
  | some k =>
    rw[hx]at h;simp only[yaJ_]at h;obtain⟨c,t,e,o,_⟩:=lM_ h.2.1;cases s with
    | nil=>simp at e
    | cons d u =>
      cases k<;>grind
theorem tf_ {s:Str} (h:iB_ s=true):∀ c∈s,dz_ c=true:=λc d=>ybn_.1 h c d
theorem yl_ {c:UInt8} {s:Str} {k:Nat} (h:ixS c s=some k):s=s.take k++c::s.drop (k+1):=by
 induction s generalizing k with
 | nil=>grind[ixS]
 | cons b s ih =>
   simp only[ixS]at h
   split at h
   . grind
   . cases hx:ixS c s<;>grind
theorem xY_ {s:Str} (h:bO_ s=true):∀ c∈s,dz_ c=true\/c=58:=by
  unfold bO_ at h;simp only[yaJ_]at h;cases hx:ixS 58 s with
  | none=>grind[lM_,tf_]
  | some k =>
    rw[hx]at h;simp only[yaJ_]at h;obtain⟨_,_,_,_,e⟩:=lM_ h.2.1;obtain⟨_,_,_,_,o⟩:=lM_ h.2.2;intro c d;rw[yl_ hx]at d
    grind[tf_]
theorem oj_ {c:UInt8}:∀ {s:Str},c ∉ s->ixS c s=none
  | [],_=>rfl
  | b::s,h=>by
    simp only[yar_,not_or]at h;simp only[ixS];rw[yam_ (λe=>h.1 e.symm),oj_ h.2];rfl
theorem jC_ {s:Str} (h:bO_ s=true):dM_ 46 s=[s] :=
  od_ (oj_ λhm=>by rcases xY_ h 46 hm with h|h<;>revert h<;>decide)
theorem dO_ {s:Str} (h:bO_ s=true):bk_ s=true:=by simp[bk_,h]
theorem dG_ {s:Str} (h:bO_ s=true):fz_ s=true:=by
  grind[fz_,jC_,dO_]
theorem pg_ (c:UInt8):∀ (f r:Str),dM_ c (f++[c]++r)=dM_ c f++dM_ c r
  | [],r=>by grind[dM_]
  | b::f,r=>by
    have d:=pg_ c f r
    grind[dM_,xt_]
theorem vt_ {c:UInt8} (h:dK_ c=true):c≠42/\c≠33/\c≠123/\c≠60/\c≠95:=by
  refine⟨?_,?_,?_,?_,?_⟩<;>rintro rfl<;>revert h<;>decide
theorem vP_ {s:Str} (h:bO_ s=true):cD_ s=true:=by
  grind[la_,vt_,cD_,dO_]
theorem hd_ {s:Str} (h:bk_ s=true):cD_ ([123]++s++[125])=true:=by
  unfold cD_
  grind
theorem ll_ {t:Str} (h:t≠[]):cD_ ([60]++t++[62])=true:=by
  unfold cD_
  grind
namespace Con
def dep:Con->Nat
  | mk _ _ _ _ _ _ ps=>deps ps
where deps:List Con->Nat
  | []=>0
  | p::ps=>max (1+dep p) (deps ps)
theorem sD_ {p:Con}:∀ {ps:List Con},p∈ps->1+p.dep<=dep.deps ps
 | q::ps,h=>by
   rcases yar_.1 h with rfl|h
   . grind[dep.deps]
   . have:=sD_ h;grind[dep.deps]
theorem dep_eq (c:Con):c.dep=dep.deps c.parts:=by cases c;rfl
theorem sz_eq (c:Con):c.sz=1+sz.szs c.parts:=by cases c;rfl
theorem pR_:∀ (m:Nat) (c:Con),c.sz<=m->∀ d n,(c.fits d n).1=true↔d+c.dep<=8/\n+c.sz<=64
 | 0,c,h=>by grind[sz_pos]
 | m+1,c,h=>λd n=>by
   have key:∀ ps:List Con,(∀ p∈ps,p.sz<=m)->∀ n,n<=64->((fits.fitss ps (d+1) n).1=true↔(∀ p∈ps,d+1+p.dep<=8)/\n+sz.szs ps<=64):=by
     intro ps
     induction ps with
     | nil=>grind[fits.fitss,sz.szs]
     | cons p ps ih =>
       intro e n x;have v:=pR_ m p (e p zak_) (d+1) n
       grind[fits.fitss,sz.szs,sx_]
   have k:=dep_eq c;have u:=sz_eq c;rw[fits_eq]
   split
   . grind
   . rename_i o
     simp only[ybj_,yaY_,not_or]at o;rw[key c.parts (λp e=>by have:=sz_part e;omega) (n+1) zaa_,k,u];constructor
     . rintro ⟨a,b⟩
       refine⟨?_,by omega⟩
       have:∀ ps:List Con,(∀ p∈ps,d+1+p.dep<=8)->d+dep.deps ps<=8:=by
         intro ps
         induction ps<;>grind[dep.deps]
       grind
     . rintro ⟨a,b⟩
       exact⟨λp e=>by have:=sD_ e;omega,by omega⟩
theorem check_iff (c:Con):c.check=0↔c.dep<=8/\c.sz<=64/\c.fine:=by
  unfold check fine;have h:=pR_ _ c (yab_ _) 0 0
  grind
theorem check_part {c p:Con} (h:c.check=0) (d:p∈c.parts):p.check=0:=by
  rw[check_iff]at h ⊢;have e:=sD_ d;rw[<-dep_eq]at e;have k:=sz_part d
  grind[fine_part]
structure Names (c:Con):Prop where
  plain:c.kind=3\/c.kind=6\/c.kind=7->bO_ c.name=true
  person:c.kind=4->bk_ c.name=true
  nums:c.kind=7->-1099511627776<=c.lo/\c.lo<=c.hi/\c.hi<=1099511627776
theorem names_of {c:Con} (h:c.fine):Names c:=by
 have F:=fields h;have d:=((fine_iff c).1 h).1;unfold fieldErr at d;rw[yam_ zap_]at d
 split at d
 .cases d
 split at d
 .cases d
 rename_i o
 split at d
 .cases d
 split at d
 .rename_i k
  refine⟨λe=>?_,λe=>?_,λe=>?_⟩
  .rcases e with e|e|e<;>rw[e]at k<;>simpa [nd,dC_] using k
  all_goals grind[nd,dC_,bk_]
 cases d
theorem pF_ (x y:Str) (r:List Str) (sep:Str):Lib.join (x::y::r) sep=x++sep++Lib.join (y::r) sep:=by simp[Lib.join,List.intercalate]
theorem Bu_ {c:Con} (h:c.fine) (k:5<=c.kind):c.text≠[]:=by
 have F:=fields h;have e:=F.k7;rw[text_eq,yam_ zaa_,yam_ zaa_,yam_ zaa_,yam_ zaa_]
 split
 .rename_i d
  have hl:=F.le;rw[d]at hl;simp[nd,dC_]at hl
  match hp:c.parts,hl with
  | [],hl=>simp at hl
  | [_],hl=>simp at hl
  | p::q::r,_=>simp only[yaE_,pF_];simp
 split
 .grind[pF_]
 simp only[pF_];simp
theorem atom_ok {c:Con} (h:c.check=0):cD_ c.atom=true:=by
 have d:=(check_zero h).1;have F:=fields d;have N:=names_of d;have e:=F.k1;unfold atom
 split
 .rfl
 split
 .rfl
 split
 .exact vP_ (N.plain zaa_)
 split
 .exact hd_ (N.person zaa_)
 grind[textN,ll_,Bu_]
theorem atom_len {c:Con} (d:c.ok) (h:c.check=0):c.atom.length<=7000:=by
  grind[fields,check_zero,Fields.nm,textN_len,atom]
theorem pre_check {c:Con} (h:c.check=0) (u:c.kind=5) {j:Nat} (x:2<=j) (A:j<=c.parts.length):(c.pre j).check=0:=by
 have k:=(check_zero h).1;have F:=fields k;have d:=F.mo;rw[u]at d;simp[nd,dC_]at d
 rw[check_iff]at h ⊢
 have key:∀ (ps:List Con) (j:Nat),sz.szs (ps.take j)<=sz.szs ps/\dep.deps (ps.take j)<=dep.deps ps:=by
   intro ps
   induction ps with
   | nil=>grind
   | cons p ps ih =>
     intro j;cases j<;>grind[sz.szs,dep.deps]
 have B:=key c.parts j;have y:=dep_eq c;have C:=sz_eq c;refine⟨?_,?_,?_⟩
 .rw[dep_eq];show dep.deps (c.parts.take j)<=8;omega
 .rw[sz_eq];show 1+sz.szs (c.parts.take j)<=64;omega
 rw[fine_iff];refine⟨?_,λp o=>fine_part k (yaS_ o)⟩;unfold fieldErr;have e:(c.pre j).parts.length=j:=by show (c.parts.take j).length=j;simp;omega
 rw[yam_ (by show ¬ ((5:Int)<1\/7<(5:Int));omega)];simp only[e];have v:(c.pre j).kind=5:=rfl
 grind[nd,dC_,pre,name,lo,hi]
end Con
structure PQ (f:Int) (q:Pc):Prop where
  frm:q.frm=f
  sm:q.sm
  ok:q.valid=true
section
variable {f:Int} (h0:-1<=f) (h1:f<1024) {a b c r s t:Str} {lo hi:Int}
include h0 h1
theorem uP_ (d:cD_ a=true) (e:cD_ c=true):Pc.valid ⟨1,a,[],c,[],[],[],0,0,f⟩=true:=by
  grind[Pc.valid,nus,kD_,jK_]
theorem val2 (d:cD_ a=true) (h:cD_ b=true) (e:cD_ c=true):Pc.valid ⟨2,a,b,c,[],[],[],0,0,f⟩=true:=by
  grind[Pc.valid,nus,kD_,jK_]
theorem val3 (d:cD_ a=true) (h:fz_ r=true) (e:cD_ c=true):Pc.valid ⟨3,a,[],c,r,[],[],0,0,f⟩=true:=by
  grind[Pc.valid,nus,kD_,jK_]
theorem val4 (d:cD_ a=true) (h:fz_ r=true) (e:cD_ c=true):Pc.valid ⟨4,a,[],c,r,[],[],0,0,f⟩=true:=by
  grind[Pc.valid,nus,kD_,jK_]
theorem val5 (e:fz_ r=true) (d:fz_ t=true):Pc.valid ⟨5,[],[],[],r,[],t,0,0,f⟩=true:=by
  unfold Pc.valid;grind[nus,kD_,jK_]
theorem val6 (h:fz_ r=true) (d:fz_ s=true) (e:fz_ t=true):Pc.valid ⟨6,[],[],[],r,s,t,0,0,f⟩=true:=by
  unfold Pc.valid;rw[yam_ zaC_];simp[nus,kD_,jK_,h,d,e]
theorem val7 (d:fz_ r=true):Pc.valid ⟨7,[],[],[],r,[],[],0,0,f⟩=true:=by
  unfold Pc.valid;rw[yam_ zaC_];simp[nus,kD_,jK_,d]
theorem val8 (d:cD_ a=true) (e:bk_ r=true) (h:-1099511627776<=lo/\lo<=hi/\hi<=1099511627776):Pc.valid ⟨8,a,[],[],r,[],[],lo,hi,f⟩=true:=by
  unfold Pc.valid;rw[yam_ zaC_,yam_ zap_];simp[nus,kD_,jK_,d,e]
theorem val9 (d:cD_ c=true) (e:bk_ r=true) (h:-1099511627776<=lo/\lo<=hi/\hi<=1099511627776):Pc.valid ⟨9,[],[],c,r,[],[],lo,hi,f⟩=true:=by
  unfold Pc.valid;rw[yam_ zaC_,yam_ zap_];simp[nus,kD_,jK_,d,e]
end
theorem do_ {Q:Pc->Prop} {f:Int} {l:List Pc} {p:Pc} (hl:∀ q∈l,Q q) (d:Q { p with frm:=f }):∀ q∈ins f l p,Q q:=by
  grind[ins]
theorem dt_ {s:Str} (h:bO_ s=true):s.length<=24:=Con.plain_len h
theorem fo_ {s:Str} (h:bk_ s=true):s.length<=24:=by
  grind[bk_,Con.plain_len,Con.reserved_len]
namespace Con
section
variable {f:Int} (h0:-1<=f) (h1:f<1024)
include h0 h1
theorem uH_ (c:Con) (e:c.ok) (h:c.check=0) (o:c.kind=5):∀ (r:List Con) (j:Nat) (a:Str) (l:List Pc),1<=j->j+r.length<=c.parts.length->(∀ p∈r,p∈c.parts)->cD_ a=true->a.length<=7000->(∀ q∈l,PQ f q)->∀ q∈andP f c r j a l,PQ f q
  | [],_,_,l,_,_,_,_,_,hl=>hl
  | p::r,j,a,l,hj,hlen,hm,ha,hal,hl=>by
    simp only[yap_]at hlen;have k:=hm p zak_;have d:=pre_check h o (j:=j+1) zaa_ zaa_;have u:=atom_ok d;have x:=atom_len (pre_ok e (j+1)) d;have v:=atom_ok (check_part h k);have A:=atom_len (ok_part e k) (check_part h k);simp only[andP]
    exact uH_ c e h o r (j+1) _ _ zaa_ zaa_ (λq y=>hm q (by simp[y])) u x
      (do_ hl ⟨rfl,⟨by grind,by grind,by grind,by simp,by simp,by simp⟩,val2 h0 h1 ha v u⟩)
theorem leftP_all:∀ (m:Nat) (c:Con),c.sz<=m->c.ok->c.check=0->∀ l,(∀ q∈l,PQ f q)->∀ q∈c.leftP f l,PQ f q
 | 0,c,h=>by grind[sz_pos]
 | m+1,c,h=>λo u l hl=>by
   have key:∀ ps:List Con,(∀ p∈ps,p∈c.parts)->∀ l,(∀ q∈l,PQ f q)->∀ q∈leftP.lefts f ps l,PQ f q:=by
     intro ps
     induction ps with
     | nil=>intro _ l hl;exact hl
     | cons p ps ih =>
       intro v l hl;have d:=v p zak_;exact ih (λq A=>v q (by simp[A])) _ (leftP_all m p zbU_ (ok_part o d) (check_part u d) l hl)
   have x:=key c.parts (λ_ h=>h) l hl;have F:=fields (check_zero u).1;have N:=names_of (check_zero u).1;have ca:=atom_ok u;have cl:=atom_len o u;rw[leftP_eq]
   split
   . rename_i C
     have e:=F.le;rw[C]at e;simp[nd,dC_]at e
     match v:c.parts,e with
     | [],e=>simp at e
     | p::r,_ =>
       have d:p∈c.parts:=by grind
       have G:=atom_ok (check_part u d);have E:=atom_len (ok_part o d) (check_part u d);refine uH_ h0 h1 c o u C _ 1 _ _ zaa_ zap_ (λq A=>by grind) zap_ zap_ zap_
   . split
     . rename_i y
       have e:=F.le;rw[y]at e;simp[nd,dC_]at e
       have k:=N.plain (.inr (.inl y))
       match v:c.parts,e with
       | [],e=>simp at e
       | p::r,_ =>
         have d:p∈c.parts:=by grind
         have G:=atom_ok (check_part u d);have E:=atom_len (ok_part o d) (check_part u d);have H:=dt_ k;rw[v]at x;exact do_ x ⟨rfl,⟨by simp;omega,by simp,by grind,by grind,by simp,by simp⟩,val4 h0 h1 zap_ (dG_ k) ca⟩
     . split
       . rename_i B
         have k:=N.plain (.inr (.inr B));have H:=dt_ k;exact do_ hl ⟨rfl,⟨by simp,by simp,by grind,by grind,by simp,by simp⟩,val9 h0 h1 ca (dO_ k) (N.nums B)⟩
       . exact hl
theorem rightP_all:∀ (m:Nat) (c:Con),c.sz<=m->c.ok->c.check=0->∀ l,(∀ q∈l,PQ f q)->∀ q∈c.rightP f l,PQ f q
 | 0,c,h=>by grind[sz_pos]
 | m+1,c,h=>λk u l hl=>by
   have ca:=atom_ok u;have cl:=atom_len k u
   have key:∀ ps:List Con,(∀ p∈ps,p∈c.parts)->∀ l,(∀ q∈l,PQ f q)->∀ q∈rightP.rights f c.atom ps l,PQ f q:=by
     intro ps
     induction ps with
     | nil=>intro _ l hl;exact hl
     | cons p ps ih =>
       intro v l hl;have d:=v p zak_;have A:=atom_ok (check_part u d);have E:=atom_len (ok_part k d) (check_part u d)
       exact ih (λq y=>v q (by simp[y])) _ (rightP_all m p zbU_ (ok_part k d) (check_part u d) _
         (do_ hl ⟨rfl,⟨by grind,by simp,by grind,by simp,by simp,by simp⟩,uP_ h0 h1 ca A⟩))
   have x:∀ ps:List Con,(∀ p∈ps,p∈c.parts)->∀ l,(∀ q∈l,PQ f q)->∀ q∈rightP.righty f ps l,PQ f q:=by
     intro ps
     induction ps with
     | nil=>intro _ l hl;exact hl
     | cons p ps ih =>
       intro v l hl;have d:=v p zak_;exact ih (λq y=>v q (by simp[y])) _ (rightP_all m p zbU_ (ok_part k d) (check_part u d) l hl)
   have F:=fields (check_zero u).1;have N:=names_of (check_zero u).1;rw[rightP_eq]
   split
   . grind
   . split
     . rename_i B
       have o:=F.le;rw[B]at o;simp[nd,dC_]at o
       have e:=N.plain (.inr (.inl B));have G:=dt_ e;refine x c.parts (λ_ h=>h) _ (do_ hl ?_)
       match v:c.parts,o with
       | [],o=>simp at o
       | p::r,_ =>
         have d:p∈c.parts:=by grind
         have A:=atom_ok (check_part u d);have E:=atom_len (ok_part k d) (check_part u d);exact⟨rfl,⟨by grind,by simp,by simp;omega,by grind,by simp,by simp⟩,val3 h0 h1 ca (dG_ e) zap_⟩
     . split
       . rename_i C
         have e:=N.plain (.inr (.inr C));have G:=dt_ e;exact do_ hl ⟨rfl,⟨by grind,by simp,by simp,by grind,by simp,by simp⟩,val8 h0 h1 ca (dO_ e) (N.nums C)⟩
       . exact hl
end
end Con
namespace Ax
section
variable {f:Int} (h0:-1<=f) (h1:f<1024)
include h0 h1
theorem qf_ (role:Str) (x:bO_ role=true):∀ (v:List Str) (g:Str) (l:List Pc),(∀ r∈v,bO_ r=true)->(dM_ 46 g).length+v.length<=4->((dM_ 46 g).all bk_=true)->g.length<=100*(dM_ 46 g).length->(∀ q∈l,PQ f q)->∀ q∈chainP f role v g l,PQ f q
 | [],_,_,_,_,_,_,hl=>hl
 | r::t,g,l,hp,hn,hg,hgl,hl=>by
   have d:=hp r zak_;have C:=dt_ d;have A:=dt_ x;simp only[yap_]at hn
   have h:fz_ g=true:=by
     grind[fz_]
   simp only[chainP]
   by_cases y:t=[]
   . subst y
     simp only[ycu_,chainP];exact do_ hl ⟨rfl,⟨by simp,by simp,by simp,by grind,by grind,by grind⟩,val6 h0 h1 h (dG_ d) (dG_ x)⟩
   . simp only[y,ycm_]
     have E:0<t.length:=yct_.2 y;have e:=pg_ 46 g r;rw[jC_ d]at e;have o:(dM_ 46 (g++[46]++r)).all bk_=true:=by grind[dO_]
     have B:(dM_ 46 (g++[46]++r)).length=(dM_ 46 g).length+1:=by grind
     have u:(g++[46]++r).length<=100*(dM_ 46 (g++[46]++r)).length:=by grind
     have k:fz_ (g++[46]++r)=true:=by
       grind[fz_]
     exact qf_ role x t _ _ (λq F=>hp q (by simp[F])) zaa_ o u
       (do_ hl ⟨rfl,⟨by simp,by simp,by simp,by grind,by grind,by grind⟩,val6 h0 h1 h (dG_ d) k⟩)
theorem pieces_all {x:Ax} (d:x.ok) (o:x.check=0):∀ q∈x.pieces f,PQ f q:=by
 have G:=good_of o;have L:=λ(c:Con) (d:c.ok) (o:c.check=0)=>Con.leftP_all h0 h1 _ c (yab_ _) d o
 have v:=λ(c:Con) (d:c.ok) (o:c.check=0)=>Con.rightP_all h0 h1 _ c (yab_ _) d o
 have n:∀ q∈([]:List Pc),PQ f q:=λq C=>by cases C
 have I:=G.k1;have K:=G.k9;have A:=λ(c:Con) (d:c.ok) (o:c.check=0)=>(⟨Con.atom_ok o,Con.atom_len d o⟩:cD_ c.atom=true/\c.atom.length<=7000)
 unfold pieces
 split
 .have l:=G.left zaa_;have r:=G.right zaa_
  have u:=A _ d.left l;have k:=A _ d.right r;exact do_ (v _ d.right r _ (L _ d.left l _ n)) ⟨rfl,⟨by grind,by simp,by grind,by simp,by simp,by simp⟩,uP_ h0 h1 u.1 k.1⟩
 split
 .have l:=G.left zaa_;have r:=G.right zaa_
  have u:=A _ d.left l;have k:=A _ d.right r;exact do_ (v _ d.left l _ (L _ d.right r _ (do_ (v _ d.right r _ (L _ d.left l _ n)) ⟨rfl,⟨by grind,by simp,by grind,by simp,by simp,by simp⟩,uP_ h0 h1 u.1 k.1⟩))) ⟨rfl,⟨by grind,by simp,by grind,by simp,by simp,by simp⟩,uP_ h0 h1 k.1 u.1⟩
 split
 .have l:=G.left zaa_;have r:=G.right zaa_
  have u:=A _ d.left l;have k:=A _ d.right r;exact do_ (L _ d.right r _ (L _ d.left l _ n)) ⟨rfl,⟨by grind,by grind,by simp,by simp,by simp,by simp⟩,val2 h0 h1 u.1 k.1 rfl⟩
 split
 .have r:=G.right zaa_;have k:=A _ d.right r;have p:=G.role zaa_;have pl:=dt_ p
  exact do_ (v _ d.right r _ n) ⟨rfl,⟨by simp,by simp,by grind,by grind,by simp,by simp⟩,val4 h0 h1 rfl (dG_ p) k.1⟩
 split
 .rename_i F
  have p:=G.role zaa_;have pl:=dt_ p;have H:=G.one F
  match hr:x.roles,H with
  | [r],_ =>
    have y:=G.roles r zap_;have B:=dt_ y;exact do_ n ⟨rfl,⟨by simp,by simp,by simp,by simp;omega,by simp,by grind⟩,val5 h0 h1 (by grind[dG_]) (dG_ p)⟩
 split
 .rename_i J
  have p:=G.role zaa_;have h:=G.chain J
  match hr:x.roles,h with
  | [],h=>simp at h
  | r::t,h =>
    have y:=G.roles r zap_;have B:=dt_ y;have e:=jC_ y;simp only[yap_]at h;simp only[ycs_,ycF_,List.headD_cons];exact qf_ h0 h1 x.role p t r [] (λq C=>G.roles q zap_) zap_ (by grind[dO_]) zap_ n
 split
 .have p:=G.role zaa_;have pl:=dt_ p
  exact do_ n ⟨rfl,⟨by simp,by simp,by simp,by grind,by simp,by simp⟩,val7 h0 h1 (dG_ p)⟩
 split
 .have r:=G.right zaa_;have k:=A _ d.right r;have p:=G.a zaa_;have pl:=fo_ p
  exact do_ (v _ d.right r _ n) ⟨rfl,⟨by simp;omega,by simp,by grind,by simp,by simp,by simp⟩,uP_ h0 h1 (hd_ p) k.1⟩
 have p:=G.role zaa_;have pl:=dt_ p;have E:=G.a zaa_;have pb:=G.b zaa_;have M:=fo_ E;have O:=fo_ pb;exact do_ n ⟨rfl,⟨by simp;omega,by simp,by simp;omega,by grind,by simp,by simp⟩,val3 h0 h1 (hd_ E) (dG_ p) (hd_ pb)⟩
end
end Ax
namespace Con
end Con
def ha_:Nat->List Ax->List Pc
  | _,[]=>[]
  | i,x::l=>x.pieces (i:Int)++ha_ (i+1) l
theorem pP_:∀ (i:Nat) (l:List Ax),(∀ x∈l,x.check=0)->(ha_ i l).length<=1000*l.length
  | _,[],_=>by simp[ha_]
  | i,x::l,h=>by
    have h1:=im_ (i:Int) (Ax.good_of (h x zak_));have e:=pP_ (i+1) l λy d=>h y zbH_
    grind[ha_]
theorem rt_:∀ (l:List Ax) (i:Nat) (p:List Pc),(∀ x∈l,x.check=0)->p.length+1000*l.length<=16384->gX_ i l p=some (p++ha_ i l)
  | [],i,p,_,_=>by simp[gX_,ha_]
  | x::l,i,p,h,hl=>by
    have h1:=im_ (i:Int) (Ax.good_of (h x zak_));simp only[yap_]at hl;simp only[gX_,ha_];rw[yam_ zaC_,rt_ l (i+1) _ (λy d=>h y zbH_) zaC_,yak_]
theorem om_:∀ (xs ys:List Ax) (i:Nat),ha_ i (xs++ys)=ha_ i xs++ha_ (i+xs.length) ys
  | [],ys,i=>by simp[ha_]
  | x::xs,ys,i=>by
    simp only[yaL_,ha_,yap_,yak_];rw[om_ xs ys (i+1),show i+1+xs.length=i+(xs.length+1) by omega]
theorem uj_:∀ (l:List Ax) (i:Nat),i+l.length<=1024->(∀ x∈l,x.ok)->(∀ x∈l,x.check=0)->∀ q∈ha_ i l,(i:Int)<=q.frm/\q.frm<((i+l.length:Nat):Int)/\q.sm/\q.valid=true
 | [],_,_,_,_=>by simp[ha_]
 | x::l,i,hi,hok,hc=>by
   simp only[yap_]at hi ⊢;intro q d;simp only[ha_]at d;rcases yaj_.1 d with d|d
   . have h:=Ax.pieces_all (f:=(i:Int)) zaa_ zaa_ (hok x zak_) (hc x zak_) q d
     grind[PQ.frm,PQ.sm,PQ.ok]
   . have h:=uj_ l (i+1) zaa_ (λy e=>hok y zcb_) (λy e=>hc y zcb_) q d
     grind
theorem on_:∀ {l:List Ax},dv_ l=0->∀ x∈l,x.check=0
 | [],_,_,h=>by cases h
 | y::l,hb,x,d=>by
   simp only[dv_]at hb
   split at hb
   . rename_i e
     rcases yar_.1 d with rfl|d
     . exact e
     . exact on_ hb x d
   grind
theorem pq_ {l:List Ax} (hl:l.length<=12) (h:∀ x∈l,x.check=0):aX_ l=(ha_ 0 l,0):=by
  grind[aX_,ev_,rt_]
theorem og_ {l:List Ax} (hl:l.length<=12) (h:dv_ l≠0):aX_ l=([],dv_ l):=by
  grind[aX_]
end Go.Vs
namespace Go.Vs
open Go Go.Sx
section
variable {f:Int} {R:List Pc->List Pc->Prop} (hr:∀ l,R l l) (ht:∀ {a b c},R a b->R b c->R a c) (hi:∀ l p,R l (ins f l p))
include hr ht hi
theorem uE_ (c:Con):∀ (r:List Con) (j:Nat) (a:Str) (l:List Pc),R l (c.andP f r j a l)
  | [],_,_,l=>hr l
  | p::r,j,a,l=>ht (hi l _) (uE_ c r (j+1) _ _)
theorem rj_:∀ (m:Nat) (c:Con),c.sz<=m->∀ l,R l (c.leftP f l)
 | 0,c,h=>by grind[Con.sz_pos]
 | m+1,c,h=>λl=>by
   have key:∀ ps:List Con,(∀ p∈ps,p.sz<=m)->∀ l,R l (Con.leftP.lefts f ps l):=by
     intro ps
     induction ps with
     | nil=>intro _ l;exact hr l
     | cons p ps ih=>intro d l;exact ht (rj_ m p (d p zak_) l) (ih (λq k=>d q (by simp[k])) _)
   have e:=key c.parts (λp d=>by have:=Con.sz_part d;omega) l;rw[Con.leftP_eq]
   split
   . exact ht e (uE_ hr ht hi c _ _ _ _)
   grind
theorem kX_:∀ (m:Nat) (c:Con),c.sz<=m->∀ l,R l (c.rightP f l)
  | 0,c,h=>by grind[Con.sz_pos]
  | m+1,c,h=>λl=>by
    have key:∀ ps:List Con,(∀ p∈ps,p.sz<=m)->∀ a l,R l (Con.rightP.rights f a ps l):=by
      intro ps
      induction ps with
      | nil=>intro _ a l;exact hr l
      | cons p ps ih=>intro d a l;exact ht (hi _ _) (ht (kX_ m p (d p zak_) _) (ih (λq e=>d q zcb_) _ _))
    have k:∀ ps:List Con,(∀ p∈ps,p.sz<=m)->∀ l,R l (Con.rightP.righty f ps l):=by
      intro ps
      induction ps with
      | nil=>intro _ l;exact hr l
      | cons p ps ih=>intro d l;exact ht (kX_ m p (d p zak_) l) (ih (λq e=>d q zcb_) _)
    have o:∀ p∈c.parts,p.sz<=m:=λp d=>by have:=Con.sz_part d;omega
    grind[Con.rightP_eq]
theorem mH_:∀ (xs:List Str) (l:List Pc),R l (bI_ f xs l)
  | [],l=>hr l
  | a::r,l=>ht (hi l _) (mH_ r _)
end
structure Gr (a b:List Pc):Prop where
  nodup:a.Nodup->b.Nodup
  sub:∀ q∈a,q∈b
theorem Gr.refl (l:List Pc):Gr l l:=⟨id,λ_ h=>h⟩
theorem Gr.trans {a b c:List Pc} (h:Gr a b) (k:Gr b c):Gr a c:=⟨λq=>k.nodup (h.nodup q),λq d=>k.sub q (h.sub q d)⟩
theorem Gr.ins (f:Int) (l:List Pc) (p:Pc):Gr l (ins f l p):=by
 unfold Vs.ins
 split
 .grind[refl]
 rename_i h
 refine⟨λe=>?_,λq d=>yaG_ _ d⟩
 grind
theorem Cn_ (f:Int) (l:List Pc) (p:Pc):{ p with frm:=f }∈ins f l p:=by
  grind[ins]
theorem qY_ (f:Int):∀ (xs:List Str) (l:List Pc),∀ a∈xs,{ gq_ a [42] with frm:=f }∈bI_ f xs l
 | [],_,_,h=>by cases h
 | x::xs,l,a,h=>by
   rcases yar_.1 h with rfl|h
   . exact (mH_ (f:=f) Gr.refl Gr.trans (Gr.ins f) xs _).sub _ (Cn_ f l _)
   . exact qY_ f xs _ a h
theorem qZ_ {f:Int} (e:-1<=f) (d:f<1024):∀ (xs:List Str) (l:List Pc),(∀ a∈xs,cD_ a=true/\a.length<=1000000000000)->(∀ q∈l,PQ f q)->∀ q∈bI_ f xs l,PQ f q
  | [],_,_,hl=>hl
  | a::r,l,ha,hl=>by
    have h:=ha a zak_;exact qZ_ e d r _ (λb k=>ha b (by simp[k])) (do_ hl ⟨rfl,⟨by grind[gq_],by simp[gq_],by simp[gq_],by simp[gq_],by simp[gq_],by simp[gq_]⟩,uP_ e d h.1 rfl⟩)
def wgt (c:Con):Nat:=if c.kind=0 then 0 else c.sz
theorem ue_ {x:Ax} (h:x.check≠0):x.goalP=([],[],x.check):=by grind[Ax.goalP]
theorem kind_pos {c:Con} (h:c.check=0):wgt c=c.sz:=by
  have F:=Con.fields (Con.check_zero h).1;unfold wgt;rw[yam_ (by have:=F.k1;omega)]
structure GoalOk (p:List Pc) (l:List Fc):Prop where
  gr:p.Nodup
  pq:∀ q∈p,PQ (-1) q
  len:p.length<=2000
  one:1<=l.length/\l.length<=2
  ment:∀ g∈l,(⟨1,g.a,[],[42],[],[],[],0,0,-1⟩:Pc)∈p/\(⟨1,g.b,[],[42],[],[],[],0,0,-1⟩:Pc)∈p
theorem Cs_ {x:Ax} (d:x.ok) (y:x.check=0) (hk:¬ (x.kind=5\/x.kind=6\/x.kind=7)):GoalOk x.goalP.1 x.goalP.2.1/\x.goalP.2.2=0:=by
 have G:=Ax.good_of y;have k1:=G.k1;have k9:=G.k9;have gr:=λl p=>Gr.ins (-1) l p
 have L:=λ(c:Con) l=>rj_ (f:=-1) Gr.refl Gr.trans gr _ c (yab_ _) l
 have Q:=λ(c:Con) l=>kX_ (f:=-1) Gr.refl Gr.trans gr _ c (yab_ _) l
 have M:=λxs l=>mH_ (f:=-1) Gr.refl Gr.trans gr xs l
 have B:=λxs l a h=>qY_ (-1) xs l a h
 have H:=λ(c:Con) (d:c.ok) (y:c.check=0) l hl=>Con.leftP_all (f:=-1) zaj_ zaj_ _ c (yab_ _) d y l hl
 have I:=λ(c:Con) (d:c.ok) (y:c.check=0) l hl=>Con.rightP_all (f:=-1) zaj_ zaj_ _ c (yab_ _) d y l hl
 have C:=λxs l hx hl=>qZ_ (f:=-1) zaj_ zaj_ xs l hx hl
 have n:∀ q∈([]:List Pc),PQ (-1) q:=λq hq=>by cases hq
 have A:=λ(c:Con) (d:c.ok) (y:c.check=0)=>(⟨Con.atom_ok y,by grind[Con.atom_len]⟩:cD_ c.atom=true/\c.atom.length<=1000000000000)
 have Ll:=λ(c:Con) l=>Con.leftP_len (-1) _ c (yab_ _) l
 have Ql:=λ(c:Con) l=>Con.rightP_len (-1) _ c (yab_ _) l
 have Ml:=λxs l=>eL_ (-1) xs l
 have Il:=λl p=>cX_ (-1) l p
 have sl:x.kind<=3->x.left.sz<=64:=λh=>(Con.check_zero (G.left h)).2
 have sr:x.kind<=4\/x.kind=8->x.right.sz<=64:=λh=>(Con.check_zero (G.right h)).2
 have nd:([]:List Pc).Nodup:=ybH_
 have k:∀ (a b:Str),cD_ a=true/\a.length<=1000000000000->cD_ b=true/\b.length<=1000000000000->∀ c∈[a,b],cD_ c=true/\c.length<=1000000000000:=by
   grind
 have K:∀ (a b:Str) (p:List Pc) (r:Str),Gr (bI_ (-1) [a,b] []) p->∀ g∈[(⟨1,a,b,r,0,0⟩:Fc)],(⟨1,g.a,[],[42],[],[],[],0,0,-1⟩:Pc)∈p/\(⟨1,g.b,[],[42],[],[],[],0,0,-1⟩:Pc)∈p:=by
   intro a b p r J g hm;simp only[yal_]at hm;subst hm;exact⟨J.sub _ (B [a,b] [] a zak_),J.sub _ (B [a,b] [] b zak_)⟩
 unfold Ax.goalP;rw[yam_ zaa_]
 split
 .have l:=G.left zaa_;have r:=G.right zaa_;have F:=A _ d.left l;have v:=A _ d.right r;have:=sl zaa_;have:=sr zaa_
  have u:=Q x.left (bI_ (-1) [x.left.atom,x.right.atom] []);have E:=L x.right (x.left.rightP (-1) (bI_ (-1) [x.left.atom,x.right.atom] []));refine⟨⟨(Gr.trans (M _ _) (Gr.trans u E)).nodup nd,H _ d.right r _ (I _ d.left l _ (C _ _ (k _ _ F v) n)),?_,by simp,K _ _ _ _ (Gr.trans u E)⟩,rfl⟩
  grind
 split
 .have l:=G.left zaa_;have r:=G.right zaa_;have F:=A _ d.left l;have v:=A _ d.right r;have:=sl zaa_;have:=sr zaa_
  have u:=Q x.left (bI_ (-1) [x.left.atom,x.right.atom] []);have E:=L x.right (x.left.rightP (-1) (bI_ (-1) [x.left.atom,x.right.atom] []));have S:=Q x.right (x.right.leftP (-1) (x.left.rightP (-1) (bI_ (-1) [x.left.atom,x.right.atom] [])));have g4:=L x.left (x.right.rightP (-1) (x.right.leftP (-1) (x.left.rightP (-1) (bI_ (-1) [x.left.atom,x.right.atom] []))));have o:=Gr.trans u (Gr.trans E (Gr.trans S g4));refine⟨⟨(Gr.trans (M _ _) o).nodup nd,H _ d.left l _ (I _ d.right r _ (H _ d.right r _ (I _ d.left l _ (C _ _ (k _ _ F v) n)))),?_,by simp,?_⟩,rfl⟩
  .grind
  intro g J;simp only[yar_,yav_,ybg_]at J;have W:=B [x.left.atom,x.right.atom] [] x.left.atom zak_;have U:=B [x.left.atom,x.right.atom] [] x.right.atom zak_;rcases J with rfl|rfl
  .exact⟨o.sub _ W,o.sub _ U⟩
  exact⟨o.sub _ U,o.sub _ W⟩
 split
 .have l:=G.left zaa_;have r:=G.right zaa_;have F:=A _ d.left l;have v:=A _ d.right r;have:=sl zaa_;have:=sr zaa_
  have o1:=Con.operandN_len d.left;have o2:=Con.operandN_len d.right
  have Y:cD_ x.disj=true/\x.disj.length<=1000000000000:=by
    grind[Ax.disj,ll_]
  have X:∀ (l:List Pc),(∀ q∈l,PQ (-1) q)->∀ (c:Str),cD_ c=true->c.length<=1000000000000->∀ q∈ins (-1) l (gq_ x.disj c),PQ (-1) q:=λl hl c y hcl=>do_ hl ⟨rfl,⟨by grind[gq_],by simp[gq_],by grind[gq_],by simp[gq_],by simp[gq_],by simp[gq_]⟩,uP_ zaj_ zaj_ Y.1 y⟩
  have P:=gr (bI_ (-1) [x.disj,[33]] []) (gq_ x.disj x.left.atom);have u:=Q x.left (ins (-1) (bI_ (-1) [x.disj,[33]] []) (gq_ x.disj x.left.atom));have E:=gr (x.left.rightP (-1) (ins (-1) (bI_ (-1) [x.disj,[33]] []) (gq_ x.disj x.left.atom))) (gq_ x.disj x.right.atom);have S:=Q x.right (ins (-1) (x.left.rightP (-1) (ins (-1) (bI_ (-1) [x.disj,[33]] []) (gq_ x.disj x.left.atom))) (gq_ x.disj x.right.atom));have o:=Gr.trans P (Gr.trans u (Gr.trans E S));refine⟨⟨(Gr.trans (M _ _) o).nodup nd,I _ d.right r _ (X _ (I _ d.left l _ (X _ (C _ _ (k _ _ Y ⟨rfl,by simp⟩) n) _ F.1 F.2)) _ v.1 v.2),?_,by simp,K _ _ _ _ o⟩,rfl⟩
  grind
 split
 .have r:=G.right zaa_;have v:=A _ d.right r;have:=sr zaa_;have p:=G.role zaa_;have pl:=dt_ p
  have V:cD_ x.doms=true/\x.doms.length<=1000000000000:=by
    refine⟨?_,by simp[Ax.doms];omega⟩;have e:x.doms=[60]++([115,111,109,101,32]++x.role++[32,101,118,101,114,121,116,104,105,110,103])++[62]:=by simp[Ax.doms]
    grind[ll_]
  have P:=gr (bI_ (-1) [x.doms,x.right.atom] []) ⟨3,x.doms,[],[42],x.role,[],[],0,0,0⟩;have u:=L x.right (ins (-1) (bI_ (-1) [x.doms,x.right.atom] []) ⟨3,x.doms,[],[42],x.role,[],[],0,0,0⟩);have o:=Gr.trans P u;refine⟨⟨(Gr.trans (M _ _) o).nodup nd,H _ d.right r _ (do_ (C _ _ (k _ _ V v) n) ⟨rfl,⟨by grind,by simp,by simp,by grind,by simp,by simp⟩,val3 zaj_ zaj_ V.1 (dG_ p) rfl⟩),?_,by simp,K _ _ _ _ o⟩,rfl⟩
  grind
 split
 .have r:=G.right zaa_;have v:=A _ d.right r;have:=sr zaa_;have p:=G.a zaa_;have pl:=fo_ p
  have O:cD_ (bY_ x.a)=true/\(bY_ x.a).length<=1000000000000:=⟨hd_ p,by grind[bY_]⟩;have u:=L x.right (bI_ (-1) [bY_ x.a,x.right.atom] []);refine⟨⟨(Gr.trans (M _ _) u).nodup nd,H _ d.right r _ (C _ _ (k _ _ O v) n),?_,by simp,K _ _ _ _ u⟩,rfl⟩
  grind
 split
 .have p:=G.a zaa_;have pl:=fo_ p;have T:=G.b zaa_;have Z:=fo_ T
  have O:cD_ (bY_ x.a)=true/\(bY_ x.a).length<=1000000000000:=⟨hd_ p,by grind[bY_]⟩;have bi:cD_ (bY_ x.b)=true/\(bY_ x.b).length<=1000000000000:=⟨hd_ T,by grind[bY_]⟩;refine⟨⟨(M _ _).nodup nd,C _ _ (k _ _ O bi) n,?_,by simp,?_⟩,rfl⟩
  .grind
  intro g hm;simp only[yal_]at hm;subst hm;exact⟨B [bY_ x.a,bY_ x.b] [] (bY_ x.a) zak_,B [bY_ x.a,bY_ x.b] [] (bY_ x.b) zak_⟩
 grind
end Go.Vs
namespace Go.Sx
open Go
section
variable {P:Program} {N:Nf} {fr:Fr} {H:Hp} {Γ:List Fct}
theorem qg_:∀ (x y:List UInt8),Op.bytesLess x y=decide (x<y)
  | [],[]=>by grind[Op.bytesLess]
  | _::_,[]=>by simp[Op.bytesLess]
  | [],_::_=>by simp[Op.bytesLess]
  | a::x,b::y=>by
    rw[Op.bytesLess,qg_ x y]
    grind[List.cons_lt_cons_iff]
theorem CO_ (x y:List UInt8):(Op.bytesLess x y||x==y)=decide (x<=y):=by
  grind[qg_]
theorem gd_ {t h ty:TypeId} {x y:Operand} {m n:List UInt8} (k:Fr.ev fr x=some (str m)) (e:Fr.ev fr y=some (str n)):Yld P N fr H Γ (.binOp .lss t x y h) ty (.bool (decide (m<n))) :=
  λa v d _ _ _ _ _=>by rw[<-qg_];simp[execOp,d.ev k,d.ev e,str,eqGuard,binOp,Op.stringOp]
theorem oW_ {f:FuncId} {args:Array Value} {r:Value} {g:Nat} {cur:Array Value} {T:TypeId} {d:Array (List UInt8)} (I:gp_ P f)
    (h:∀ v:Vw,v.sat [(g,.cells cur T (0,0))]->Calls P f args v.w λe w'=>e=.returned r/\∃ n os,w'=Sort.grow (Sort.putRow Go.Proofs.encStr (Sort.ahead v.w n) g 0 d) os) :
    Tri P f args [(g,.cells cur T (0,0))] Γ (λ_:Unit=>r) (λ_=>[(g,.cells (Sort.putCells Go.Proofs.encStr 0 d cur) T (0,0))]) (λ_=>[]) :=
  ⟨I,λv C _=>(h v C).mono λe w' ⟨G,n,os,o⟩=>by
    have B:=(C.own _ yaq_);have y:g<v.w.heap.size:=(yaC_.1 B.1).1
    have x:∀ b,b<v.w.heap.size->w'.heap[b]? = if b=g then some (.cells (Sort.putCells Go.Proofs.encStr 0 d cur) T (0,0)) else v.w.heap[b]? := λb x=>by
      rw[o];simp only[Sort.grow,Sort.putRow,Sort.mapBlock,Sort.ahead];rw[ybF_ (by simpa using x),ybl_]
      by_cases e:b=g
      . subst e
        simp only[ycu_,B.1,yba_,Sort.onCells]
      . rw[yam_ (λq=>e q.symm),yam_ e]
    have u:v.w.heap.size<=w'.heap.size:=by rw[o];simp[Sort.grow,Sort.putRow,Sort.mapBlock,Sort.ahead]
    refine⟨(),⟨v.im,w',v.sl⟩,G,rfl,⟨λp E=>?_,by simp,λb k=>ybO_ (C.lt b k) u⟩,trivial,⟨by rw[o];rfl,by rw[o];rfl,by rw[o];rfl,u,λb k F=>?_,λ_ h=>h,λ_ h=>.inl h,λb hm=>.inl (by simpa using hm),rfl,.inr (by rw[o];exact ydd_ _ _)⟩⟩
    . simp only[yal_]at E
      subst E;exact⟨by show w'.heap[g]? = _;rw[x g y,yax_ rfl],B.2⟩
    . have A:b≠g:=by simpa using F
      show w'.heap[b]? = _
      rw[x b k,yam_ A]⟩
theorem tz_ {cur:Array Value} {d:List (List UInt8)} (h:d.length<=cur.size):(Sort.putCells Go.Proofs.encStr 0 d.toArray cur).toList.take d.length=d.flatMap V_:=by
 rw[pd_]
 apply yaT_
 intro j;rw[ybM_,yaD_]
 split
 .rename_i e
  simp only[Sort.putCells,ybT_,Array.getElem?_mapIdx];rw[Array.getElem?_eq_getElem zaa_];simp only[yba_,yaV_,ycY_,ybP_,ycD_,e,ycu_,Nat.sub_zero];rw[yaa_ e];simp only[yba_];rw[getElem!_pos d.toArray j zaa_];rfl
 grind
theorem tA_ {cur:Array Value} {d:Array (List UInt8)}:(Sort.putCells Go.Proofs.encStr 0 d cur).size=cur.size:=by simp[Sort.putCells]
end
end Go.Sx
namespace Go.Vs
open Go Go.Sx
def mQ_ (p:Pc):List Str:=[p.a,p.b,p.c].filter λs=>!(s==[])
def dq_ (l:List Pc):List Str:=l.flatMap mQ_
def dJ_ (l:List Pc):List Str:=Lib.compact ((dq_ l).mergeSort λx y=>decide (x<=y))
theorem li_:∀ l:List Pc,(dq_ l).length<=3*l.length
  | []=>by grind[dq_]
  | p::r=>by
    have d:=li_ r
    grind[mQ_,dq_]
theorem lS_ (l:List Str):(l.mergeSort λx y=>decide (x<=y)).Pairwise λx y=>x<=y:=by
  grind[List.pairwise_mergeSort]
theorem jM_ {d:List Str}:Lib.compact d=((List.range d.length).filter λj=>decide (j=0\/d[j]! ≠ d[j - 1]!)).map λj=>d[j]! := by
  unfold Lib.compact Lib.compactUpTo Lib.keeps
  grind
theorem oq_ (d:List Str):(Lib.compact d).length<=d.length:=by
  grind[jM_]
theorem us_ {d:List Str} (x:Str):x∈Lib.compact d↔x∈d:=by
 rw[jM_,yaM_];constructor
 .grind
 intro k;obtain⟨j,o,e⟩:=List.mem_iff_getElem.1 k;clear k
 induction j with
 | zero=>exact⟨0,ybC_.2 ⟨ycq_.2 o,by simp⟩,by grind⟩
 | succ j ih =>
   by_cases h:d[j+1]! = d[j]!
   all_goals grind
theorem vG_ {d:List Str} (F:d.Pairwise λx y=>x<=y):(Lib.compact d).Pairwise λx y=>x<y:=by
  rw[jM_,ybQ_];have C:(List.range d.length).Pairwise (·<·):=List.pairwise_lt_range;have v:=C.filter (λj=>decide (j=0\/d[j]! ≠ d[j - 1]!));refine List.Pairwise.imp_of_mem ?_ v;intro j k G u A;have h:=ycq_.1 (ybC_.1 u).1;have o:=(ybC_.1 u).2;simp only[yaY_]at o
  have B:d[k]! ≠ d[k - 1]! := by
    grind
  have e:∀ a b,a<=b->b<d.length->d[a]!<=d[b]! := by
    grind[List.pairwise_iff_getElem]
  have I:=e j (k - 1) zaa_ zaa_;have E:=e (k - 1) k zaa_ h
  grind
theorem lj_ (l:List Pc) (x:Str):x∈dJ_ l↔x∈dq_ l:=by
  grind[dJ_,us_,List.mem_mergeSort]
theorem yH_ (l:List Pc):(dJ_ l).Pairwise λx y=>x<y:=vG_ (lS_ _)
theorem vO_ (l:List Pc):(dJ_ l).length<=3*l.length:=by
  grind[oq_,List.length_mergeSort,li_,dJ_]
end Go.Vs
namespace Go.Proofs.YtbffkokbdeppaaaGreatDoor
open Go Go.Sx Go.Proofs Tryz
attribute [local irreducible] Code.wp wpList wpAnyH
open Go.Vs
theorem ku_:Elt prog 25 9 1 16:=gn_ jq_ (z:=.string ⟨#[]⟩) zam_ rfl zaj_
theorem rp_ {g n cap:Nat} {cur:Array Value} {xs:List Str} {v:Vw} (k:v.sat [(g,.cells cur 9 (0,0))]) (e:cur.toList.take (xs.length*1)=xs.flatMap V_):Sort.Holds encStr v.w g 0 xs.toArray:=by
 intro j d;have h:=(k.own _ yaq_).1;simp only[ycD_]at d;have o:cur[j]? = some (str xs[j]):=qF_ e j xs[j] (yaa_ d);refine⟨?_,?_⟩
 .simp only[World.cell?,ybP_,h,Option.isSome_none,ybs_,ycm_]
  rw[o,getElem!_pos xs.toArray j zaa_];rfl
 grind[World.frozen?]
theorem wd_ {sv:Value} {xs:List Str} {Hr:Hp} (h:av_ 9 1 sv xs.length (xs.flatMap V_) Hr) (hl:xs.length<=1000000000000) :
    Tri prog 94 #[sv] Hr [] (λ_:{y:Hp // av_ 9 1 sv xs.length ((xs.mergeSort λx y=>decide (x<=y)).flatMap V_) y}=>.tuple #[]) (λy=>y.1) (λ_=>[]):=by
  rcases h.2 with⟨rfl,J,rfl⟩|⟨g,cap,cur,rfl,rfl,F,I,E,K⟩
  . obtain rfl:xs=[]:=yau_ J
    have T:=dT_ (P:=prog) (H:=[]) (Γ:=[]) (callable func94 rfl rfl) (λv _ _=>(Tryz.slices_Sort_string_none none 0 v.w).mono zav_);exact⟨T.callable,λv a b=>(T.run v a b).mono (by rintro e w' ⟨x,G,k,B,u,o,A⟩;exact⟨⟨[],by simpa using av_.nil _ _⟩,G,k,B,u,o,A⟩)⟩
  . have T:=oW_ (P:=prog) (Γ:=[]) (d:=(xs.mergeSort λx y=>decide (x<=y)).toArray) (callable func94 rfl rfl) (λv L=>Tryz.slices_Sort_string g 0 cap xs v.w (rp_ (n:=0) (cap:=0) L K) (yaC_.1 (L.own _ yaq_).1).1 zaa_)
    have C:(xs.mergeSort λx y=>decide (x<=y)).length=xs.length:=ybm_ _;refine⟨T.callable,λv a b=>(T.run v a b).mono ?_⟩;rintro e w' ⟨x,G,k,B,u,o,A⟩;refine⟨⟨_,by rw[bV_ V_ 1 au_,C],.inr ⟨g,cap,_,rfl,rfl,F,I,by rw[tA_];exact E,?_⟩⟩,G,k,B,u,o,A⟩;have:=tz_ (cur:=cur) (d:=xs.mergeSort λx y=>decide (x<=y)) (by rw[C,E];omega);rw[C]at this;rw[Nat.mul_one];exact this
theorem vH_ {sv:Value} {xs:List Str} {Hr:Hp} (h:av_ 9 1 sv xs.length (xs.flatMap V_) Hr) (hl:xs.length<=1000000000000) :
    Tri prog 95 #[sv] Hr [] (λy:{y:Value×Hp // av_ 9 1 y.1 (Lib.compact xs).length ((Lib.compact xs).flatMap V_) y.2}=>y.1.1) (λy=>y.1.2) (λ_=>[]):=by
  rcases h.2 with⟨rfl,J,rfl⟩|⟨g,cap,cur,rfl,rfl,G,I,C,K⟩
  . obtain rfl:xs=[]:=yau_ J
    have T:=dT_ (P:=prog) (H:=[]) (Γ:=[]) (callable func95 rfl rfl) (λv _ _=>(Tryz.slices_Compact_string_empty none 0 v.w).mono zav_);exact⟨T.callable,λv a b=>(T.run v a b).mono (by rintro e w' ⟨x,F,k,o,A,u,B⟩;exact⟨⟨(.slice none 0 0,[]),by simpa [Lib.compact,Lib.compactUpTo] using av_.nil _ _⟩,F,k,o,A,u,B⟩)⟩
  . have L:=oq_ xs
    have T:=oW_ (P:=prog) (Γ:=[]) (r:=.slice (some ⟨g,0,none⟩) (Lib.compact xs).length cap) (d:=(Lib.compact xs++List.replicate (xs.length - (Lib.compact xs).length) []).toArray) (callable func95 rfl rfl) (λv O=>(Tryz.slices_Compact_string g 0 cap xs v.w (rp_ (n:=0) (cap:=0) O K) zaa_ G).mono (by
      rintro e w' ⟨rfl,q,rfl⟩;exact⟨rfl,q,#[],by rw[Sort.grow_empty]⟩))
    refine⟨T.callable,λv a b=>(T.run v a b).mono ?_⟩;rintro e w' ⟨x,F,k,o,A,u,B⟩;refine⟨⟨(.slice (some ⟨g,0,none⟩) (Lib.compact xs).length cap,_),by rw[bV_ V_ 1 au_],.inr ⟨g,cap,_,rfl,rfl,by omega,I,by rw[tA_];exact C,?_⟩⟩,F,k,o,A,u,B⟩;have M:(Lib.compact xs++List.replicate (xs.length - (Lib.compact xs).length) ([]:Str)).length=xs.length:=by simp;omega
    have:=tz_ (cur:=cur) (d:=Lib.compact xs++List.replicate (xs.length - (Lib.compact xs).length) []) (by rw[M,C];omega);rw[M]at this;have E:=yag_ (List.take (Lib.compact xs).length) this;rw[List.take_take,ybk_ L,yan_,ycJ_ (by rw[bV_ V_ 1 au_];omega),yac_ (l:=(Lib.compact xs).flatMap V_) (by rw[bV_ V_ 1 au_];omega)]at E;rw[Nat.mul_one];exact E
theorem CR_ (l:List Pc) (ad:Ao) (cap:Nat) (hl:l.length<=100000000000):Tri prog 47 #[.slice ad l.length cap] [] [O_ ad (l.flatMap Pc.cells)] (λy:{y:Ao×Nat // (dJ_ l).length<=y.2/\y.2<=maxLen}=>.slice y.1.1 (dJ_ l).length y.1.2) (λ_=>[]) (λy=>[O_ y.1.1 ((dJ_ l).flatMap V_)]):=by
 refine l_ func47 rfl rfl ntmps47 rfl λa0=>?_;refine Zz 14 ?_;refine bc_ [(2,.slice none 0 0),(7,.slice ad l.length cap),(8,i4_ (List.length l:Int)),(9,i4_ ((0:Nat):Int))] zl ?_;refine bs_ (ι:={y:Nat×Value×Hp // y.1<=l.length/\av_ 9 1 y.2.1 (dq_ (l.take y.1)).length ((dq_ (l.take y.1)).flatMap V_) y.2.2}) (λy=>[(2,y.1.2.1),(7,.slice ad l.length cap),(8,i4_ (List.length l:Int)),(9,i4_ y.1.1)]) (λy=>y.1.2.2) (λ_=>_) (λy=>l.length - y.1.1) ⟨(0,.slice none 0 0,[]),by simp,av_.nil _ _⟩ ?_;rintro ⟨⟨i,sv,Hr⟩,hi,u⟩;dsimp only at hi u;dsimp only;have H:=li_ (l.take i);rw[yat_]at H;refine bc_ [(2,sv),(7,.slice ad l.length cap),(8,i4_ (List.length l:Int)),(9,i4_ i)] zl ?_;refine Zi 2 (λS=>?_) λS=>?_
 .refine Zz 7 ?_
  have Z:l.take i=l:=yac_ zaa_;rw[Z]at u H;refine Zz 2 ?_;refine d_ (wd_ u zaa_) rfl an_ zt rfl λ⟨X,hs⟩=>?_;dsimp only;refine s_ (List.Perm.symm an_) ?_;have L:av_ 9 1 sv ((dq_ l).mergeSort λx y=>decide (x<=y)).length (((dq_ l).mergeSort λx y=>decide (x<=y)).flatMap V_) X:=by rw[ybm_];exact hs
  refine Zz 5 ?_;refine d_ (vH_ L (by rw[ybm_];omega)) rfl an_ zt rfl λ⟨⟨sc,Hc⟩,hc⟩=>?_;dsimp only;refine s_ (List.Perm.symm an_) (Zz 4 ?_);refine dI_ hc an_ λI O U J Q=>?_;exact W_ results47 ⟨(I,O),J,Q⟩ (cw_ rfl U) e_ zf
 have v:i<l.length:=by omega
 obtain⟨d,M⟩:∃ F,l[i]? = some F:=⟨_,yaa_ v⟩;refine Zz 12 ?_;refine K_ N_ rfl λb_1=>o_ 0 ab_ rfl rfl rfl rfl rfl rfl (Zz 10 ?_)
 refine p_ m_ B_ ak_ rfl rfl rfl rfl rfl rfl λB=>?_;refine R_ (List.flatMap V_ [d.a,d.b,d.c]) f_ rfl ?_;refine Zz 5 ?_;refine bc_ [(2,sv),(7,.slice ad l.length cap),(8,i4_ (List.length l:Int)),(9,i4_ i),(19,.slice (some ⟨B,0,none⟩) (List.length [d.a,d.b,d.c]) 3),(20,i4_ 3),(21,i4_ ((0:Nat):Int))] zl ?_;refine bs_ (ι:={y:Nat×Value×Hp // y.1<=3/\av_ 9 1 y.2.1 (dq_ (l.take i)++(List.take y.1 [d.a,d.b,d.c]).filter λs=>!(s==[])).length ((dq_ (l.take i)++(List.take y.1 [d.a,d.b,d.c]).filter λs=>!(s==[])).flatMap V_) y.2.2}) (λy=>[(2,y.1.2.1),(7,.slice ad l.length cap),(8,i4_ (List.length l:Int)),(9,i4_ i),(19,.slice (some ⟨B,0,none⟩) (List.length [d.a,d.b,d.c]) 3),(20,i4_ 3),(21,i4_ y.1.1)]) (λy=>_:: y.1.2.2) (λ_=>_) (λy=>3 - y.1.1) ⟨(0,sv,Hr),by simp,by simpa using u⟩ ?_;rintro ⟨⟨k,V,W⟩,Y,C⟩;dsimp only at Y C;dsimp only
 have a1:((dq_ (l.take i)++(List.take k [d.a,d.b,d.c]).filter λs=>!(s==[]))).length<=(dq_ (l.take i)).length+3:=by
   have:=yce_ (λs=>!(s==[])) (List.take k [d.a,d.b,d.c]);simp only[yae_,yat_,yap_,yaw_]at this ⊢;omega
 refine bc_ [(2,V),(7,.slice ad l.length cap),(8,i4_ (List.length l:Int)),(9,i4_ i),(19,.slice (some ⟨B,0,none⟩) (List.length [d.a,d.b,d.c]) 3),(20,i4_ 3),(21,i4_ k)] zl ?_;refine Zi 2 (λT=>?_) λT=>?_
 .refine Zz 11 ?_
  have o:dq_ (l.take (i+1))=dq_ (l.take i)++mQ_ d:=by unfold dq_;rw[yao_,M,yan_];simp
  exact w_ ⟨(i+1,V,W),v,by dsimp only;rw[o];have:=C;rw[yac_ (show [d.a,d.b,d.c].length<=k by simp;omega)]at this;exact this⟩ zae_ zl (g_ an_) (λ_ _ h=>h.2)
 have G:k<List.length [d.a,d.b,d.c]:=by simp;omega
 obtain⟨e,A⟩:∃ F,[d.a,d.b,d.c][k]? = some F:=⟨_,yaa_ G⟩;refine Zz 11 ?_;refine c_ (aS_ (ad:=(some ⟨B,0,none⟩)) aJ_ rfl zf (t_ au_ A 0 _ rfl)) rfl (Zi 6 (λP=>?_) λP=>?_)
 .refine Zz 10 ?_
  have o:(dq_ (l.take i)++(List.take (k+1) [d.a,d.b,d.c]).filter λs=>!(s==[]))=(dq_ (l.take i)++(List.take k [d.a,d.b,d.c]).filter λs=>!(s==[]))++[e].filter (λs=>!(s==[])):=by rw[yak_,<-ycT_,yao_,A];simp
  rw[show [e].filter (λs=>!(s==[]))=[] by simp[*],yas_]at o;exact w_ ⟨(k+1,V,W),by dsimp only;omega,by dsimp only;rw[o];exact C⟩ zae_ zl zp zh
 refine Zz 6 ?_;refine p_ m_ B_ ak_ rfl rfl rfl rfl rfl rfl λb_3=>?_;refine am_ (news:=[str e]) ku_ C rfl rfl zp rfl (aO_ 0 rfl) (dn_ rfl) zay_ zaa_ rfl λK R E=>?_;refine s_ (@List.perm_append_comm _ _ [_,_]) (Zz 8 ?_);have o:(dq_ (l.take i)++(List.take (k+1) [d.a,d.b,d.c]).filter λs=>!(s==[]))=(dq_ (l.take i)++(List.take k [d.a,d.b,d.c]).filter λs=>!(s==[]))++[e].filter (λs=>!(s==[])):=by rw[yak_,<-ycT_,yao_,A];simp
 rw[show [e].filter (λs=>!(s==[]))=[e] by simp[*]]at o;exact w_ ⟨(k+1,K,R),by dsimp only;omega,by dsimp only;rw[o];rw[yae_ (bs:=[e]),yan_ (ys:=[e])];exact E⟩ zae_ zl (E_ (g_ f_) (g_ an_)) zh
end Go.Proofs.YtbffkokbdeppaaaGreatDoor
namespace Go.Sx
open Go
section
variable {P:Program} {N:Nf} {v0:Vw} {H0:Hp} {R:Exit->Act->World->Prop} {K:List Kt} {fr:Fr} {H:Hp} {Γ:List Fct}
variable {ops:Array Oper} {l:List Oper} {d:Nat} {ty:TypeId} {ps:String} {af:Array Edge}
end
end Go.Sx
namespace Go.Vs
open Go Go.Sx
theorem ve_ {α:Type} {R:α->α->Prop} {l:List α} (h:l.Pairwise R) {i j:Nat} {x y:α} (o:l[i]? = some x) (k:l[j]? = some y) (e:i<j):R x y:=by
  grind[List.pairwise_iff_getElem]
theorem yL_ {α:Type} {q:List α} {k:Nat} {z:α} {g:α->Bool} (h:q[k]? = some z):(q.take (k+1)).any g=((q.take k).any g||g z):=by
  grind[List.take_add_one]
def Cov (hs:List Bool) (L S:List Str):Prop:=hs.length=L.length/\∀ (n:Nat) (s:Str),L[n]? = some s->s∈S->hs[n]? = some true
def three (p:Pc):List Str:=[p.a,p.b,p.c]
theorem Cov.all {e:List Bool} {l:List Pc} (h:Cov e (dJ_ l) (l.flatMap three)) {n:Nat} (k:n<(dJ_ l).length):e[n]? = some true:=by
  have hm:=(lj_ l _).1 (ydb_ k);refine h.2 n _ (yaa_ k) ?_;simp only[dq_,ybe_,mQ_,ybC_]at hm;obtain⟨p,u,o⟩:=hm;exact ybe_.2 ⟨p,u,o.1⟩
theorem pp_ (s:Str):((if bk_ s then (0:Int) else 20)==0)=bk_ s:=by grind
-- valid pieces,kind by kind
section
variable {a b c r s t:Str} {lo hi f:Int}
end
-- atoms
def vc_ (s:Str):Bool :=
  (s==[42]||s==[33])||bk_ s||(decide (3<=s.length)&&((decide (s[0]? = some 123)&&decide (s[s.length - 1]? = some 125)&&bk_ ((s.drop 1).take (s.length - 1 - 1)))||(decide (s[0]? = some 60)&&decide (s[s.length - 1]? = some 62))))
theorem tF_ {s:Str} (h:bk_ s=true):∃ c t,s=c::t/\(dK_ c=true\/c.toNat=95):=by
 unfold bk_ at h;rw[ybj_]at h;rcases h with h|h
 .grind[la_]
 unfold cl_ at h;simp only[yaJ_,yaY_]at h;cases s<;>grind
theorem yb_ {s:Str} {c:UInt8} (e:s[0]? = some c) (h:c=123\/c=60):bk_ s=false:=by
  cases hp:bk_ s with
  | false=>rfl
  | true =>
    obtain⟨d,t,rfl,k⟩:=tF_ hp;simp only[ybq_,yai_]at e;subst e;rcases h with rfl|rfl<;>simp[dK_]at k
theorem zv_ (s:Str):vc_ s=cD_ s:=by
 unfold vc_ cD_
 by_cases k:s=[42]\/s=[33]
 .grind
 rw[yam_ k]
 have h:(s==[42]||s==[33])=false:=by
   grind
 rw[h,yci_]
 by_cases d:s[0]? = some 123
 .have e:=yb_ d (.inl rfl)
  rw[e,yci_]
  by_cases o:s[s.length - 1]? = some 125
  .by_cases hl:2<=s.length
   .rw[yax_ ⟨hl,d,o⟩]
    by_cases v:3<=s.length
    .grind
    have:s.length=2:=by omega
    have u:bk_ (List.take (s.length - 1 - 1) (s.drop 1))=false:=by rw[this];rfl
    grind
   grind
  grind
 grind
-- roles
-- sorted insertion
def kS (l:List Str) (s:Str):Nat:=(l.takeWhile λx=>decide (x<s)).length
theorem rm_ {s:Str}:∀ {l:List Str} {k:Nat},k<=l.length->(∀ x∈l.take k,x<s)->(∀ x,l[k]? = some x->¬ x<s)->kS l s=k
  | [],k,h1,_,_=>by simp at h1;simp[kS,h1]
  | y::r,0,_,_,h3=>by
    grind[kS,List.takeWhile_cons_of_neg]
  | y::r,k+1,h1,h2,h3=>by
    have h:y<s:=h2 y zak_;have e:=rm_ (l:=r) (k:=k) zap_ (λx d=>h2 x zbH_) (λx d=>h3 x zap_)
    grind[kS,List.takeWhile_cons_of_pos]
def be_ (l:List Str) (s:Str):List Str:=if s=[]\/l[kS l s]? = some s then l else l.take (kS l s)++[s]++l.drop (kS l s)
theorem mv_ (l:List Str) (s:Str):(be_ l s).length<=l.length+1:=by
  grind[be_]
theorem qx_ {l:List Str} {s x:Str}:x∈be_ l s↔x∈l\/(x=s/\s≠[]):=by
  grind[be_,List.take_append_drop]
theorem yW_ {s:Str}:∀ (l:List Str),∀ x∈l.take (kS l s),x<s:=by
  intro l x d
  have e:l.take (kS l s)=l.takeWhile λx=>decide (x<s):=by
    grind[kS,List.prefix_iff_eq_take,List.takeWhile_prefix]
  rw[e]at d
  induction l with
  | nil=>simp at d
  | cons y r ih =>
    by_cases h:y<s
    all_goals grind[List.takeWhile_cons_of_pos,kS,List.takeWhile_cons_of_neg]
theorem rQ_ {s:Str}:∀ (l:List Str) (x:Str),l[kS l s]? = some x->¬ x<s
 | [],x,h=>by simp at h
 | y::r,x,h=>by
   unfold kS at h
   by_cases d:y<s
   . rw[yco_ zap_,yap_,ybp_]at h
     exact rQ_ r x h
   grind[List.takeWhile_cons_of_neg]
theorem lN_ {l:List Str} {s:Str} (h:l.Pairwise λx y=>x<y):(be_ l s).Pairwise λx y=>x<y:=by
 unfold be_
 split
 .exact h
 rename_i o
 simp only[not_or]at o
 have u:∀ y∈l.drop (kS l s),s<y:=by
   intro y k;obtain⟨j,e,rfl⟩:=List.mem_iff_getElem.1 k;rw[List.getElem_drop];rw[ybD_]at e;have d:kS l s<l.length:=by omega
   have A:=rQ_ l _ (yaa_ d)
   have v:s<l[kS l s]:=by
     grind
   grind[List.lt_trans,List.pairwise_iff_getElem]
 rw[ybX_,ybX_]
 grind[List.drop_sublist,yW_]
def dN_ (l:List Pc):List Str:=l.foldl (λL p=>be_ (be_ (be_ L p.a) p.b) p.c) []
theorem uD_ {l:List Pc} {i:Nat} {p:Pc} (h:l[i]? = some p):dN_ (l.take (i+1))=be_ (be_ (be_ (dN_ (l.take i)) p.a) p.b) p.c:=by
  grind[List.take_add_one,dN_]
theorem lk_:∀ (l:List Pc) (L:List Str),L.Pairwise (λx y=>x<y)->(l.foldl (λL p=>be_ (be_ (be_ L p.a) p.b) p.c) L).Pairwise (λx y=>x<y)/\(∀ x,x∈l.foldl (λL p=>be_ (be_ (be_ L p.a) p.b) p.c) L↔x∈L\/x∈dq_ l)/\(l.foldl (λL p=>be_ (be_ (be_ L p.a) p.b) p.c) L).length<=L.length+3*l.length
  | [],L,h=>⟨h,λx=>by grind[dq_],by simp⟩
  | p::r,L,h=>by
    obtain⟨e,d,k⟩:=lk_ r (be_ (be_ (be_ L p.a) p.b) p.c) (lN_ (lN_ (lN_ h)))
    grind[qx_,dq_,mQ_,be_]
theorem qH_:∀ {l m:List Str},l.Pairwise (λx y=>x<y)->m.Pairwise (λx y=>x<y)->(∀ x,x∈l↔x∈m)->l=m
  | [],[],_,_,_=>rfl
  | [],y::m,_,_,h=>by have:=(h y).2 zak_;grind
  | x::l,[],_,_,h=>by have:=(h x).1 zak_;grind
  | x::l,y::m,h1,h2,h=>by
    rw[yaX_]at h1 h2
    have e:x=y:=by
      have k:=(h x).1 zak_;have d:=(h y).2 zak_
      grind
    subst e
    congr 1
    refine qH_ h1.2 h2.2 λz=>?_
    grind
theorem qh_ (l:List Pc):dJ_ l=dN_ l:=by
  obtain⟨d,e,_⟩:=lk_ l [] List.Pairwise.nil;refine qH_ (yH_ l) d λx=>?_;have:=e x;rw[lj_];simp only[yav_,false_or]at this;exact this.symm
theorem qi_ (l:List Pc):(dN_ l).length<=3*l.length:=by
  have:=(lk_ l [] List.Pairwise.nil).2.2
  grind[dN_]
end Go.Vs
namespace Go.Proofs.YtbffkokbdeppaaaGreatDoor
open Go Go.Sx Go.Proofs Tryz
attribute [local irreducible] Code.wp wpList wpAnyH
open Go.Vs
theorem nu_ {G:Prop} (h:G:=by
 rw[B];simp only[yai_];exact⟨λq=>by subst q;rfl,λq=>UInt8.toNat_inj.1 zap_⟩):G:=h
theorem nv_ {G:Prop} (h:G:=by
 rw[u];simp only[yai_];exact⟨λq=>by subst q;rfl,λq=>UInt8.toNat_inj.1 zap_⟩):G:=h
theorem dP_ {G:Prop} (h:G:=by
 exact W_ results81 () (n_ rfl (by rw[<-zv_];grind[vc_])) (.refl _) zt):G:=h
theorem BU_ (s:Str) (L:s.length<=140737488351232):Fn0 prog 81 #[str s] (.bool (cD_ s)):=by
 refine l_ func81 rfl rfl ntmps81 rfl λK=>?_;refine Zz 8 ?_;refine c_ (cK_ L_ rfl) rfl (Zi 7 (λA=>?_) λA=>?_)
 .refine Zi 4 (λy=>?_) λy=>?_
  .refine Zz 5 ?_
   refine d_ (lX_ _) rfl e_ (λ_ _ _=>by omega) rfl λ_=>as_ rfl rfl (A_ (aD_ (al_ rfl rfl) (yag_ Value.bool (pp_ _))) rfl λE I=>Zz 3 ?_)
   cases E
   .refine Zi 7 (λx=>?_) λx=>?_
    .obtain⟨c,u⟩:∃ c,s[0]? = some c:=⟨_,yaa_ zaa_⟩
     obtain⟨e,B⟩:∃ e,s[s.length - 1]? = some e:=⟨_,yaa_ zaa_⟩
     have G:(s[0]? = some 123)↔((c.toNat:Int)=123):=by
       exact nv_
     have F:(s[s.length - 1]? = some 125)↔((e.toNat:Int)=125):=by
       exact nu_
     have J:(s[0]? = some 60)↔((c.toNat:Int)=60):=by
       exact nv_
     have H:(s[s.length - 1]? = some 62)↔((e.toNat:Int)=62):=by
       exact nu_
     refine Zz 8 ?_;refine c_ (cr_ L_ rfl rfl zaj_ u) rfl ?_;refine Zi 0 (λv=>?_) λv=>?_
     .refine Zz 19 ?_
      refine c_ (cr_ L_ rfl rfl zaj_ u) rfl (as_ rfl rfl ?_);refine Zi 0 (λh=>?_) λh=>?_
      .refine Zz 14 ?_
       exact dP_
      refine Zz 9 ?_;refine c_ (cr_ L_ rfl rfl zaa_ (show s[((s.length:Int) - 1).toNat]? = some e by rw[show ((s.length:Int) - 1).toNat=s.length - 1 by omega];exact B)) rfl ?_;refine as_ rfl rfl (A_ (al_ rfl rfl) rfl λk d=>Zz 7 ?_);exact dP_
     refine Zz 8 ?_;refine c_ (cr_ L_ rfl rfl zaa_ (show s[((s.length:Int) - 1).toNat]? = some e by rw[show ((s.length:Int) - 1).toNat=s.length - 1 by omega];exact B)) rfl ?_;refine as_ rfl rfl ?_;refine Zi 0 (λh=>?_) λh=>?_
     .refine Zz 13 ?_
      refine c_ (cr_ L_ rfl rfl zaj_ u) rfl (as_ rfl rfl (A_ (al_ rfl rfl) rfl λk d=>Zz 2 ?_));cases k
      .replace d:=znb d
       refine Zz 12 ?_;exact dP_
      grind
     refine Zz 9 ?_;refine c_ (fK_ (i:=1) (j:=s.length - 1) (kl:=.i64) (kh:=.i64) L_ rfl rfl (show _=some (i4_ ((s.length - 1:Nat):Int)) by rw[show ((s.length - 1:Nat):Int)=(s.length:Int) - 1 by omega];rfl) zaa_ zaa_) rfl ?_;refine as_ rfl rfl (d_ (lX_ _) rfl e_ (λ_ _ _=>by grind) rfl λ_=>as_ rfl rfl (A_ (aD_ (al_ rfl rfl) (yag_ Value.bool (pp_ _))) rfl λk d=>Zz 2 ?_));cases k
     .refine Zz 3 ?_
      refine c_ (cr_ L_ rfl rfl zaj_ u) rfl (as_ rfl rfl (A_ (al_ rfl rfl) rfl λC o=>Zz 2 ?_));cases C
      .replace o:=znb o
       refine Zz 12 ?_;exact dP_
      grind
     refine Zz 15 ?_;exact dP_
    refine Zz 9 ?_;exact dP_
   refine Zz 7 ?_;exact dP_
  refine Zz 15 ?_;exact dP_
 refine Zz 18 ?_;exact dP_
theorem fa_ {xs:List Str} {u:Value} (h:u∈xs.flatMap V_):u.oneCell'=true:=by
  rw[pd_]at h;obtain⟨x,_,rfl⟩:=yaM_.1 h;rfl
theorem ja_ {G:Prop} (h:G:=by
 exact W_ results105 ⟨(E,L),G,M,H⟩ (cw_ rfl P) e_ zf):G:=h
theorem hp_ {G:Prop} (h:G:=by
 have C:be_ l s=l:=by unfold be_;rw[J,yax_ zcn_]
 exact W_ results105 ⟨(ad,cap),by rw[C];exact O⟩ (cw_ rfl (by dsimp only;rw[C])) e_ (λv _ h=>⟨by show bW_ v ad ((be_ l s).flatMap V_);rw[C];exact h.1,trivial⟩)):G:=h
theorem uN_ (l:List Str) (ad:Ao) (cap:Nat) (s:Str) (hl:l.length<=100000000000) (O:l.length<=cap/\cap<=maxLen/\(ad=none->cap=0)):Tri prog 105 #[.slice ad l.length cap,str s] [] [O_ ad (l.flatMap V_)] (λy:{y:Ao×Nat // (be_ l s).length<=y.2/\y.2<=maxLen/\(y.1=none->y.2=0)}=>.slice y.1.1 (be_ l s).length y.1.2) (λ_=>[]) (λy=>[O_ y.1.1 ((be_ l s).flatMap V_)]):=by
 refine l_ func105 rfl rfl ntmps105 rfl λv_1=>?_;refine Zz 12 ?_;refine bc_ [(0,.slice ad l.length cap),(1,str s),(5,i4_ ((0:Nat):Int))] zl ?_;refine bs_ (ι:={z:Nat // z<=l.length/\∀ x∈l.take z,x<s}) (λzz=>[(0,.slice ad l.length cap),(1,str s),(5,i4_ zz.1)]) (λ_=>_) (λ_=>_) (λzz=>l.length - zz.1) ⟨0,by simp⟩ ?_;rintro ⟨k,hk⟩;refine bc_ [(0,.slice ad l.length cap),(1,str s),(5,i4_ k)] zl ?_;refine Zi 6 (λA=>?_) λA=>?_
 .refine Zz 15 ?_
  have J:kS l s=k:=rm_ hk.1 hk.2 (λx T=>by have:=(yaf_.1 T).1;omega);refine Zi 2 (λB=>?_) λB=>?_
  .refine Zi 8 (λo=>?_) λo=>?_
   .refine Zz 18 ?_
    refine dc_ m_ B_ rfl λe=>Zz 2 ?_
    refine c_ (aD_ (cq_ (i:=0) (j:=k) (kl:=.i64) (kh:=.i64) m_ B_ rfl rfl rfl zaa_ zaa_) (show _=Value.slice (sad ad cap 0 1) (l.take k).length (cap - 0) by rw[yat_,ybk_ zaa_];rfl)) rfl ?_;have d:av_ 9 1 (.slice (some ⟨e,0,none⟩) 0 0) 0 [] [(e,.cells #[] 9 (0,0))]:=⟨rfl,.inr ⟨e,0,#[],rfl,rfl,yab_ _,yaV_ _,rfl,rfl⟩⟩;refine aY_ (news:=(l.take k).flatMap V_) ku_ d rfl rfl (λq=>by have:=O.2.2 (eW_ q);omega) zaG_ (.refl _) zaH_ (λv _ h=>by exact (bW_.slice au_ h.1 O.1 0 k)) (λu S=>fa_ S) zaD_ zaG_ rfl λU X A=>?_;refine s_ (@List.perm_append_comm _ _ []) (Zz 7 ?_);refine p_ m_ B_ ak_ rfl rfl rfl rfl rfl rfl λa0=>?_;refine am_ (news:=[str s]) ku_ A rfl rfl zp rfl (aO_ 0 rfl) (dn_ rfl) zaD_ zaG_ rfl λW V B=>?_;refine s_ (@List.perm_append_comm _ _ [_]) (Zz 8 ?_);refine c_ (aD_ (cq_ (i:=k) (j:=l.length) (kl:=.i64) (kh:=.i64) m_ B_ rfl rfl rfl zaa_ zaa_) (show _=Value.slice (sad ad cap k 1) (l.drop k).length (cap - k) by rw[ybD_])) rfl (aY_ (news:=(l.drop k).flatMap V_) ku_ B rfl rfl (λq=>by have:=O.2.2 (eW_ q);omega) zbt_ (g_ an_) zaH_ (λv _ h=>by exact (bW_.rest au_ h.1 O.1 k)) (λu S=>fa_ S) zaO_ zaW_ rfl λK I o=>?_);refine s_ (@List.perm_append_comm _ _ [_]) (Zz 4 ?_);have C:be_ l s=l.take k++[s]++l.drop k:=by unfold be_;rw[J,yam_ zcn_]
    have F:av_ 9 1 K (be_ l s).length ((be_ l s).flatMap V_) I:=by rw[C,yan_,yan_,yae_,yae_];simpa [V_] using o
    refine I_ F (g_ an_) λE L P G M H=>?_;exact ja_
   obtain⟨Q,x_1,R,Y⟩:=zge (show k<l.length by omega);refine Zi 13 (λd=>?_) λd=>?_
   .refine Zz 10 ?_
    refine dc_ m_ B_ rfl λe=>Zz 2 ?_
    refine c_ (aD_ (cq_ (i:=0) (j:=k) (kl:=.i64) (kh:=.i64) m_ B_ rfl rfl rfl zaa_ zaa_) (show _=Value.slice (sad ad cap 0 1) (l.take k).length (cap - 0) by rw[yat_,ybk_ zaa_];rfl)) rfl ?_;have F:av_ 9 1 (.slice (some ⟨e,0,none⟩) 0 0) 0 [] [(e,.cells #[] 9 (0,0))]:=⟨rfl,.inr ⟨e,0,#[],rfl,rfl,yab_ _,yaV_ _,rfl,rfl⟩⟩;refine aY_ (news:=(l.take k).flatMap V_) ku_ F rfl rfl (λq=>by have:=O.2.2 (eW_ q);omega) zaG_ (.refl _) zaH_ (λv _ h=>by exact (bW_.slice au_ h.1 O.1 0 k)) (λu S=>fa_ S) zaD_ zaG_ rfl λU X A=>?_;refine s_ (@List.perm_append_comm _ _ []) (Zz 7 ?_);refine p_ m_ B_ ak_ rfl rfl rfl rfl rfl rfl λa0=>?_;refine am_ (news:=[str s]) ku_ A rfl rfl zp rfl (aO_ 0 rfl) (dn_ rfl) zaD_ zaG_ rfl λW V B=>?_;refine s_ (@List.perm_append_comm _ _ [_]) (Zz 8 ?_);refine c_ (aD_ (cq_ (i:=k) (j:=l.length) (kl:=.i64) (kh:=.i64) m_ B_ rfl rfl rfl zaa_ zaa_) (show _=Value.slice (sad ad cap k 1) (l.drop k).length (cap - k) by rw[ybD_])) rfl (aY_ (news:=(l.drop k).flatMap V_) ku_ B rfl rfl (λq=>by have:=O.2.2 (eW_ q);omega) zbt_ (g_ an_) zaH_ (λv _ h=>by exact (bW_.rest au_ h.1 O.1 k)) (λu S=>fa_ S) zaO_ zaW_ rfl λK I o=>?_);refine s_ (@List.perm_append_comm _ _ [_]) (Zz 4 ?_);have C:be_ l s=l.take k++[s]++l.drop k:=by unfold be_;rw[J,yam_ zcn_]
    have d:av_ 9 1 K (be_ l s).length ((be_ l s).flatMap V_) I:=by rw[C,yan_,yan_,yae_,yae_];simpa [V_] using o
    refine I_ d (g_ an_) λE L P G M H=>?_;exact ja_
   refine Zz 13 ?_;exact hp_
  refine Zz 24 ?_;exact hp_
 obtain⟨Q,x_1,R,Y⟩:=zge (show k<l.length by omega);refine Zi 12 (λB=>?_) λB=>?_
 .refine Zz 8 ?_
  have J:kS l s=k:=rm_ hk.1 hk.2 (λx T=>by rw[R]at T;cases T;assumption);refine Zi 2 (λo=>?_) λo=>?_
  .refine Zi 8 (λd=>?_) λd=>?_
   .exfalso;omega
   refine Zi 13 (λF=>?_) λF=>?_
   .refine Zz 10 ?_
    refine dc_ m_ B_ rfl λe=>Zz 2 ?_
    refine c_ (aD_ (cq_ (i:=0) (j:=k) (kl:=.i64) (kh:=.i64) m_ B_ rfl rfl rfl zaa_ zaa_) (show _=Value.slice (sad ad cap 0 1) (l.take k).length (cap - 0) by rw[yat_,ybk_ zaa_];rfl)) rfl ?_;have hr_6:av_ 9 1 (.slice (some ⟨e,0,none⟩) 0 0) 0 [] [(e,.cells #[] 9 (0,0))]:=⟨rfl,.inr ⟨e,0,#[],rfl,rfl,yab_ _,yaV_ _,rfl,rfl⟩⟩;refine aY_ (news:=(l.take k).flatMap V_) ku_ hr_6 rfl rfl (λq=>by have:=O.2.2 (eW_ q);omega) zaG_ (.refl _) zaH_ (λv _ h=>by exact (bW_.slice au_ h.1 O.1 0 k)) (λu S=>fa_ S) zaD_ zaG_ rfl λU X A=>?_;refine s_ (@List.perm_append_comm _ _ []) (Zz 7 ?_);refine p_ m_ B_ ak_ rfl rfl rfl rfl rfl rfl λa0=>?_;refine am_ (news:=[str s]) ku_ A rfl rfl zp rfl (aO_ 0 rfl) (dn_ rfl) zaD_ zaG_ rfl λW V hr_7=>?_;refine s_ (@List.perm_append_comm _ _ [_]) (Zz 8 ?_);refine c_ (aD_ (cq_ (i:=k) (j:=l.length) (kl:=.i64) (kh:=.i64) m_ B_ rfl rfl rfl zaa_ zaa_) (show _=Value.slice (sad ad cap k 1) (l.drop k).length (cap - k) by rw[ybD_])) rfl (aY_ (news:=(l.drop k).flatMap V_) ku_ hr_7 rfl rfl (λq=>by have:=O.2.2 (eW_ q);omega) zbt_ (g_ an_) zaH_ (λv _ h=>by exact (bW_.rest au_ h.1 O.1 k)) (λu S=>fa_ S) zaO_ zaW_ rfl λK I a1=>?_);refine s_ (@List.perm_append_comm _ _ [_]) (Zz 4 ?_);have C:be_ l s=l.take k++[s]++l.drop k:=by unfold be_;rw[J,yam_ zcn_]
    have Z:av_ 9 1 K (be_ l s).length ((be_ l s).flatMap V_) I:=by rw[C,yan_,yan_,yae_,yae_];simpa [V_] using a1
    refine I_ Z (g_ an_) λE L P G M H=>?_;exact ja_
   refine Zz 13 ?_;exact hp_
  refine Zz 24 ?_;exact hp_
 refine Zz 13 ?_;exact w_ ⟨k+1,Q,λx T=>by rw[yao_,R]at T;simp only[ybf_,yaj_,yal_]at T;rcases T with T|rfl;exact hk.2 x T;assumption⟩ zae_ zl (.refl _) zh
theorem zC_ (l:List Pc) (ad:Ao) (cap:Nat) (hl:l.length<=10000000000):Tri prog 49 #[.slice ad l.length cap] [] [O_ ad (l.flatMap Pc.cells)] (λy:{y:Ao×Nat // (dN_ l).length<=y.2/\y.2<=maxLen/\(y.1=none->y.2=0)}=>.slice y.1.1 (dN_ l).length y.1.2) (λ_=>[]) (λy=>[O_ y.1.1 ((dN_ l).flatMap V_)]):=by
 refine l_ func49 rfl rfl ntmps49 rfl λQ=>?_;refine Zz 17 ?_;refine bc_ [(0,.slice ad l.length cap),(3,.slice none 0 0),(4,i4_ 0)] zl ?_;refine fC_ (Γ':=O_ none ((dN_ (l.take 0)).flatMap V_)::[O_ ad (l.flatMap Pc.cells)]) (λv _ h=>⟨.inl rfl,h⟩) ?_;refine bs_ (ι:={y:Nat×Ao×Nat // y.1<=l.length/\((dN_ (l.take y.1)).length<=y.2.2/\y.2.2<=maxLen/\(y.2.1=none->y.2.2=0))}) (λy=>[(0,.slice ad l.length cap),(3,.slice y.1.2.1 (dN_ (l.take y.1.1)).length y.1.2.2),(4,i4_ y.1.1)]) (λ_=>_) (λy=>O_ y.1.2.1 ((dN_ (l.take y.1.1)).flatMap V_)::[O_ ad (l.flatMap Pc.cells)]) (λy=>l.length - y.1.1) ⟨(0,none,0),by simp,by simp[dN_]⟩ ?_;rintro ⟨⟨i,a,cp⟩,hi,k⟩;dsimp only at hi k;dsimp only;have P:=qi_ (l.take i);rw[yat_]at P;refine bc_ [(0,.slice ad l.length cap),(3,.slice a (dN_ (l.take i)).length cp),(4,i4_ i)] zl ?_;refine Zi 6 (λC=>?_) λC=>?_
 .refine Zz 12 ?_
  have J:l.take i=l:=yac_ zaa_;rw[J]at k;exact W_ results49 ⟨(a,cp),k⟩ (cw_ rfl (by rw[J])) e_ (λv _ h=>⟨by have:=h.1;rw[J]at this;exact this,trivial⟩)
 have e:i<l.length:=by omega
 obtain⟨d,A⟩:∃ E,l[i]? = some E:=⟨_,yaa_ e⟩;refine Zz 8 ?_;refine C_ 4 [0,1,2,3,4,5,7,8,9,10,11,13,14,15,16,17] zk zs (Zz 17 ?_);refine j_ 6 rfl zk (d_ (uN_ (dN_ (l.take i)) a cp d.a zaa_ k) rfl e_ zf rfl λ⟨⟨M,O⟩,u⟩=>?_);dsimp only;have K:=mv_ (dN_ (l.take i)) d.a;refine Zz 3 ?_;refine j_ 12 rfl zk (d_ (uN_ (be_ (dN_ (l.take i)) d.a) M O d.b zaa_ u) rfl e_ zf rfl λ⟨⟨H,I⟩,B⟩=>?_);dsimp only;have G:=mv_ (be_ (dN_ (l.take i)) d.a) d.b;refine Zz 3 ?_;refine j_ 18 rfl zk (d_ (uN_ (be_ (be_ (dN_ (l.take i)) d.a) d.b) H I d.c zaa_ B) rfl e_ zf rfl λ⟨⟨L,F⟩,x⟩=>?_);dsimp only;refine Zz 3 ?_;refine C_ 0 [19] zk zs (Zz 10 ?_);have o:=uD_ A;exact w_ ⟨(i+1,L,F),e,by dsimp only;rw[o];exact x⟩ zae_ ⟨rfl,(cw_ rfl (by dsimp only;rw[o])),rfl,trivial⟩ e_ (λ_ _ h=>⟨by dsimp only;rw[o];exact h.1,h.2.2.2.2.1,trivial⟩)
end Go.Proofs.YtbffkokbdeppaaaGreatDoor
namespace Go.Sx
open Go
section
variable {P:Program} {N:Nf} {v0:Vw} {H0:Hp} {fr:Fr} {H:Hp} {Γ:List Fct}
theorem ret7 {N:Nat} {fn:Func} {t:Nat} {ι:Type} {F:Hp} {ret:ι->Value} {H':ι->Hp} {Γ':ι->List Fct} {J C I E G K B:Value} (V:fn.results=#[.tmp t,.tmp (t+1),.tmp (t+2),.tmp (t+3),.tmp (t+4),.tmp (t+5),.tmp (t+6)]) (x:ι)
    (y:Fr.get fr t=some J) (e:Fr.get fr (t+1)=some C) (h:Fr.get fr (t+2)=some I) (o:Fr.get fr (t+3)=some E) (k:Fr.get fr (t+4)=some G) (u:Fr.get fr (t+5)=some K) (A:Fr.get fr (t+6)=some B) (X:.tuple #[J,C,I,E,G,K,B]=ret x) (U:H.Perm (H' x++F))
    (T:∀ v,v.sat H->aC_ Γ v->aC_ (Γ' x) v):Ok N v0 H0 (bodyPost P fn (lm_ v0 H0 ret H' Γ') .ret) fr H Γ :=
  em_ U T λa v d M W R=>⟨d.defers,ret x,by
    rw[<-X];have Y:=d.val _ _ y;have S:=d.val _ _ e;have Z:=d.val _ _ h;have e4:=d.val _ _ o;have L:=d.val _ _ k;have Q:=d.val _ _ u;have O:=d.val _ _ A;simp[results,V,Y,S,Z,e4,L,Q,O],x,v,rfl,rfl,M,R,W⟩
end
end Go.Sx
namespace Go.Vs
open Go Go.Sx
namespace Con
def shapeS (c:Con):Bool :=
  if c.kind=1\/c.kind=2 then ((c.lo==0&&c.hi==0)&&(c.name==[]))&&((c.parts.length:Int)==0)
  else if c.kind=3\/c.kind=4 then (c.lo==0&&c.hi==0)&&((c.parts.length:Int)==0)
  else if c.kind=5 then (((c.lo==0&&c.hi==0)&&(c.name==[]))&&decide (2<=(c.parts.length:Int)))&&decide ((c.parts.length:Int)<=8)
  else if c.kind=6 then (c.lo==0&&c.hi==0)&&((c.parts.length:Int)==1)
  else if c.kind=7 then ((((c.parts.length:Int)==0)&&decide (-1099511627776<=c.lo))&&decide (c.lo<=c.hi))&&decide (c.hi<=1099511627776)
  else false
def namedS (c:Con):Bool :=
  if c.kind=3\/c.kind=6\/c.kind=7 then bO_ c.name else if c.kind=4 then bk_ c.name else true
theorem fieldErr_ref (c:Con):c.fieldErr=if c.shapeS=false then 21 else if c.namedS=false then 20 else 0:=by
 by_cases o:c.kind<1\/7<c.kind
 .grind[shapeS,fieldErr]
 have d:c.kind=1\/c.kind=2\/c.kind=3\/c.kind=4\/c.kind=5\/c.kind=6\/c.kind=7:=by omega
 unfold fieldErr;rw[yam_ o]
 have key:∀ {p q r:Prop} [Decidable p] [Decidable q] [Decidable r] {s n:Bool},((p\/q\/r)↔s=false)->∀ {g:Prop} [Decidable g],(g↔n=true)->(if p then (21:Int) else if q then 21 else if r then 21 else if g then 0 else 20)=if s=false then 21 else if n=false then 20 else 0:=by
   grind
 apply key
 .by_cases k:c.name=[]<;>by_cases h:c.parts=[]
  .rcases d with e|e|e|e|e|e|e<;>simp[shapeS,nd,dC_,e,k,h]<;>omega
  .have:=yct_.2 h
   rcases d with e|e|e|e|e|e|e<;>simp[shapeS,nd,dC_,e,k,h]<;>omega
  .rcases d with e|e|e|e|e|e|e<;>simp[shapeS,nd,dC_,e,k,h]<;>omega
  have:=yct_.2 h;rcases d with e|e|e|e|e|e|e<;>simp[shapeS,nd,dC_,e,k,h]<;>omega
 rcases d with e|e|e|e|e|e|e<;>simp[namedS,nd,dC_,e,bk_]
theorem op_:∀ (xs ys:List Con),dep.deps (xs++ys)=max (dep.deps xs) (dep.deps ys)
  | [],ys=>by simp[dep.deps]
  | x::xs,ys=>by simp only[yaL_,dep.deps,op_ xs ys];omega
theorem deps_step {ps:List Con} {p:Con} {i:Nat} (d:ps[i]? = some p):dep.deps (ps.take (i+1))=max (dep.deps (ps.take i)) (1+p.dep):=by
  rw[take_snoc d,op_];simp[dep.deps]
theorem wV_ {d:Nat}:∀ {ps:List Con},dep.deps ps<=d↔∀ p∈ps,1+p.dep<=d
  | []=>by grind[dep.deps]
  | p::ps=>by
    have:=wV_ (d:=d) (ps:=ps)
    grind[dep.deps]
theorem dep_sz:∀ (m:Nat) (c:Con),c.sz<=m->c.dep<c.sz
  | 0,c,h=>by grind[sz_pos]
  | m+1,c,h=>by
    have e:c.sz=1+sz.szs c.parts:=by cases c;grind[sz,parts]
    rw[dep_eq]
    have:dep.deps c.parts<=sz.szs c.parts:=wV_.2 λp d=>by
      have k:=dep_sz m p zbU_;have o:=sz_mem d;omega
    omega
theorem szs_append:∀ (xs ys:List Con),sz.szs (xs++ys)=sz.szs xs+sz.szs ys
  | [],ys=>by simp[sz.szs]
  | x::xs,ys=>by simp only[yaL_,sz.szs,szs_append xs ys];omega
theorem szs_step {ps:List Con} {p:Con} {i:Nat} (d:ps[i]? = some p):sz.szs (ps.take (i+1))=sz.szs (ps.take i)+p.sz:=by
  rw[take_snoc d,szs_append];simp[sz.szs]
theorem szs_take_le (ps:List Con) (i:Nat):sz.szs (ps.take i)<=sz.szs ps:=by
  grind[szs_append,List.take_append_drop]
theorem check_ref (c:Con):c.check=if 8<c.dep\/64<c.sz then 21 else c.firstErr:=by
  have h:=pR_ _ c (yab_ _) 0 0
  grind[check]
theorem firstErrs_first {ps:List Con} {p:Con} {i:Nat} (h:firstErr.firstErrs (ps.take i)=0) (d:ps[i]? = some p) (e:p.firstErr≠0):firstErr.firstErrs ps=p.firstErr:=by
  induction ps generalizing i with
  | nil=>simp at d
  | cons q ps ih =>
    cases i<;>grind[firstErr.firstErrs]
theorem firstErrs_step {ps:List Con} {p:Con} {i:Nat} (h:firstErr.firstErrs (ps.take i)=0) (d:ps[i]? = some p) (e:p.firstErr=0):firstErr.firstErrs (ps.take (i+1))=0:=by
  rw[take_snoc d,fD_]
  grind[fD_]
def rbare:Con->Bool
  | mk k _ _ _ _ _ ps=>if k=4 then true else if k=6 then false else rbares ps
where rbares:List Con->Bool
  | []=>false
  | p::ps=>rbare p||rbares ps
theorem pj_:∀ (ps:List Con),rbare.rbares ps=ps.any rbare
  | []=>rfl
  | p::ps=>by simp[rbare.rbares,pj_ ps]
theorem rbare_eq (c:Con):c.rbare=if c.kind=4 then true else if c.kind=6 then false else c.parts.any rbare:=by cases c;rw[rbare,pj_];rfl
theorem rbare_fine:∀ (m:Nat) (c:Con),c.sz<=m->c.fine->c.rbare=c.bare
 | 0,c,h=>by have:=c.sz_pos;omega
 | m+1,c,h=>λo=>by
   have F:=fields o;have k1:=F.k1;have k7:=F.k7;have d:=F.mo;rw[rbare_eq,bare_eq]
   have k:c.parts.any rbare=c.parts.any bare:=by
     rw[ybu_,ybS_,ybS_];constructor
     . rintro ⟨p,k,e⟩;exact⟨p,k,by rw[<-rbare_fine m p zbT_ (fine_part o k)];exact e⟩
     . rintro ⟨p,k,e⟩;exact⟨p,k,by rw[rbare_fine m p zbT_ (fine_part o k)];exact e⟩
   have u:c.kind=1\/c.kind=2\/c.kind=3\/c.kind=4\/c.kind=5\/c.kind=6\/c.kind=7:=by omega
   rcases u with e|e|e|e|e|e|e
   all_goals rw[e]at d
   all_goals simp only[nd,dC_]at d
   . have:c.parts=[]:=by simpa using d
     simp[e,this]
   . have:c.parts=[]:=by simpa using d
     simp[e,this]
   . have:c.parts=[]:=by simpa using d
     simp[e,this]
   . simp[e]
   . simp[e,k]
   . simp[e]
   . have:c.parts=[]:=by simpa using d
     simp[e,this]
end Con
namespace Ax
theorem shaped_ref {x:Ax} {ul d k o ub:Bool} {e h:Int} (u:us x.kind=⟨ul,d,k,o,ub,e,h⟩) :
    x.shaped=!((((((((decide (x.kind<1)||decide (9<x.kind))||(!ul&&!x.left.empty))||(!d&&!x.right.empty))||(!k&&(x.role != [])))||(!o&&(x.a != [])))||(!ub&&(x.b != [])))||decide ((x.roles.length:Int)<e))||decide (h<(x.roles.length:Int))):=by
  grind[shaped,Bool.not_and]
theorem check_22 {x:Ax} (h:x.shaped=false):x.check=22:=by grind[check]
theorem check_20 {x:Ax} (h:x.shaped=true) (d:x.namedU (us x.kind)=false):x.check=20:=by grind[check]
theorem check_left {x:Ax} (h:x.shaped=true) (e:x.namedU (us x.kind)=true) (hl:(us x.kind).left=true) (d:x.left.check≠0):x.check=x.left.check:=by
  grind[check]
theorem check_right {x:Ax} (h:x.shaped=true) (e:x.namedU (us x.kind)=true) (hl:(us x.kind).left=true->x.left.check=0) (k:(us x.kind).right=true) (d:x.right.check≠0):x.check=x.right.check:=by
  grind[check]
theorem check_last {x:Ax} (h:x.shaped=true) (v:x.namedU (us x.kind)=true) (hl:(us x.kind).left=true->x.left.check=0) (k:(us x.kind).right=true->x.right.check=0) :
    x.check=if ((((us x.kind).right&&(x.kind != 3))&&x.right.rbare)||((x.kind==2)&&x.left.rbare))=true then 22 else 0:=by
  have u:1<=x.kind/\x.kind<=9:=by
    grind[shaped]
  have o:∀ {c:Con},c.check=0->c.rbare=c.bare:=fun {c} e=>Con.rbare_fine _ c (yab_ _) (Con.check_zero e).1
  unfold check;rw[yam_ zap_,yam_ zap_,yam_ (λq=>q.2 (hl q.1)),yam_ (λq=>q.2 (k q.1))];have d:x.kind=1\/x.kind=2\/x.kind=3\/x.kind=4\/x.kind=5\/x.kind=6\/x.kind=7\/x.kind=8\/x.kind=9:=by omega
  rcases d with e|e|e|e|e|e|e|e|e<;>simp only[us,kQ_,e]at hl k ⊢
  . grind
  . grind
  . simp
  . grind
  . simp
  . simp
  . simp
  . rw[o (k rfl)];cases x.right.bare<;>simp
  . simp
end Ax
end Go.Vs
namespace Go.Proofs.YtbffkokbdeppaaaGreatDoor
open Go Go.Sx Go.Proofs Tryz
attribute [local irreducible] Code.wp wpList wpAnyH
open Go.Vs
theorem AL_:∀ (m:Nat) (c:Con),c.sz<=m->c.ok->∀ (d most:Int),0<=d/\d<=40->0<=most/\most<=1000->Tri prog 77 #[Con.val c,i4_ d,i4_ most] [] [Con.memF c] (λr:{r:Int // 1<=r/\r<=most+4398046511104/\(r<=most->(c.sz:Int)<=r)}=>i4_ r.1) (λ_=>[]) (λ_=>[]):=by
 intro m
 induction m with
 | zero=>intro c h;have:=c.sz_pos;omega
 | succ m ih =>
   intro c hm F d most V J;have U:=Con.ok_name F;have R:=Con.ok_len F;refine l_ func77 rfl rfl ntmps77 rfl λT=>?_;refine Zz 2 ?_;refine Q_ rfl rfl λA=>Zi 7 (λC=>?_) λC=>?_
   . refine Zz 9 ?_;refine c_ (cK_ L_ rfl) rfl (c_ (aD_ (rK_ (n:=40) rfl rfl zaj_ (bB_ (r:=((List.length c.name / 40:Nat):Int)) zaa_ zaa_)) (show _=i4_ ((List.length c.name / 40:Nat):Int) from rfl)) rfl (Zz 11 ?_));refine bc_ [(1,i4_ d),(2,i4_ most),(3,zp_ A 0),(7,i4_ (1+((List.length c.name / 40:Nat):Int))),(8,i4_ ((0:Nat):Int))] zl ?_;refine bs_ (ι:={x:Nat×Int // x.1<=c.parts.length/\1<=x.2/\x.2<=most+4398046511104/\(x.2<=most->((1+Con.sz.szs (c.parts.take x.1):Nat):Int)<=x.2)}) (λx=>[(1,i4_ d),(2,i4_ most),(3,zp_ A 0),(7,i4_ x.1.2),(8,i4_ x.1.1)]) (λ_=>_) (λ_=>_) (λx=>c.parts.length - x.1.1) ⟨(0,1+((List.length c.name / 40:Nat):Int)),by simp,by dsimp only;omega,by dsimp only;omega,by simp[Con.sz.szs];omega⟩ ?_;rintro ⟨⟨i,n⟩,O⟩;dsimp only at O;obtain⟨Q,P,M,B⟩:=O;refine bc_ [(1,i4_ d),(2,i4_ most),(3,zp_ A 0),(7,i4_ n),(8,i4_ i)] zl ?_;refine Zz 7 ?_;refine A_ (dw_ rfl rfl) rfl λL e=>Zz 1 ?_
     refine aB_ 4 ((decide ((i:Int)<(List.length c.parts:Int)))&&(decide (n<=most))) (λr=>[(1,i4_ d),(2,i4_ most),(3,zp_ A 0),(7,i4_ n),(8,i4_ i),(27,.bool r)]) ?_ λK o=>?_
     . cases L
       . have y:=e;replace e:=zdf e;refine Zz 6 ?_;exact met ⟨rfl,rfl,rfl,rfl,rfl,(n_ rfl (jaf y)),trivial⟩
       . have y:=e;replace e:=zdt e;refine Zz 5 ?_;refine A_ (dx_ rfl rfl) rfl λS G=>Zz 3 ?_
         exact met ⟨rfl,rfl,rfl,rfl,rfl,(n_ rfl (jat y G)),trivial⟩
     . refine Zz 2 ?_;cases K
       . simp at o
         refine Zz 10 ?_;exact W_ results77 ⟨n,by omega,by omega,λq=>by have hi:c.parts.length<=i:=(by simp at *;omega);have:=B q;rw[yac_ hi]at this;rw[Con.sz_eq];exact this⟩ rfl (@List.perm_append_comm _ [_] _) zt
       . simp at o
         obtain⟨E,H,u,k⟩:=zge (show i<c.parts.length by omega);refine Zz 10 ?_;refine c_ (J_ z_ i_ rfl rfl (λv _ h=>az_ (n:=5) Con.cells_len zaj_ zas_ u) zaa_ zah_) rfl ?_;refine c_ (ax_ (ad:=c.ad) (us:=Con.cells H) H_ i_ rfl (λv _ h=>by exact ((Con.mem_iff c v).1 h.1).1) (Con.cells_len _) (t_ Con.cells_len u)) rfl (Zz 5 ?_);refine d_ (ih H (by have:=Con.sz_part k;omega) (Con.ok_part F k) (d - 1) (most - n) ⟨by omega,by omega⟩ ⟨by omega,by omega⟩) rfl e_ (λv _ h=>by exact⟨(Con.mem_part (c:=c) h.1 k),trivial⟩) rfl λ⟨r,C,e,o⟩=>?_;dsimp only;refine Zz 10 ?_;have I:=Con.szs_step u;exact w_ ⟨(i+1,n+r),E,by dsimp only;omega,by dsimp only;omega,λq=>by dsimp only at q ⊢;rw[I];have:=o zaa_;have:=B zaa_;omega⟩ zae_ zl (.refl _) zh
   . refine Zz 11 ?_;exact W_ results77 ⟨(most+1),by omega,by omega,λq=>by omega⟩ rfl (@List.perm_append_comm _ [_] _) zt
theorem AA_ (c:Con) (h:c.ok):Tri prog 36 #[Con.val c] [] [Con.memF c] (λb:{b:Bool // b=true->c.sz<=150}=>.bool b.1) (λ_=>[]) (λ_=>[]):=by
  refine l_ func36 rfl rfl ntmps36 rfl λu=>?_;refine Zz 2 ?_;refine Q_ rfl rfl λv=>Zz 6 ?_
  refine d_ (AL_ _ c (yab_ _) h 40 150 ⟨by decide,by decide⟩ ⟨by decide,by decide⟩) rfl e_ zf rfl λ⟨r,d,o,e⟩=>?_;dsimp only;refine A_ (dx_ rfl rfl) rfl λk d=>Zz 4 ?_
  exact W_ results36 ⟨k,λq=>by rw[q]at d;have:=ybB_ d;have:=e this;omega⟩ rfl (@List.perm_append_comm _ [_] _) zt
structure Ax.Few (x:Ax):Prop where
  left:x.left.sz<=150
  right:x.right.sz<=150
  roles:x.roles.length<=600
theorem jh_ {G:Prop} (h:G:=by
 exact W_ results9 ⟨false,λh=>by cases h⟩ rfl (@List.perm_append_comm _ [_] _) zt):G:=h
theorem nU_ {G:Prop} (h:G:=by
 refine Zz 6 ?_;refine d_ (AA_ x.left d.left) rfl e_ (λv _ h=>by exact⟨h.1.1,trivial⟩) rfl λ⟨C,k⟩=>?_;dsimp only;refine Zz 2 ?_;cases C
 .refine Zz 8 ?_
  exact jh_
 refine Zz 5 ?_;refine d_ (AA_ x.right d.right) rfl e_ (λv _ h=>by exact⟨h.1.2.1,trivial⟩) rfl λ⟨u,e⟩=>?_;dsimp only;refine Zz 5 ?_;exact W_ results9 ⟨u,λh=>⟨k rfl,e h,by omega⟩⟩ rfl (@List.perm_append_comm _ [_] _) zt):G:=h
theorem oo_ (x:Ax) (d:x.ok):Tri prog 9 #[Ax.val x] [] [Ax.memF x] (λb:{b:Bool // b=true->Ax.Few x}=>.bool b.1) (λ_=>[]) (λ_=>[]):=by
 refine l_ func9 rfl rfl ntmps9 rfl λJ=>?_;have O:=d.role;have K:=d.a;have L:=d.b;have Q:=d.cap;refine Zz 2 ?_;refine Q_ rfl rfl λB=>Zz 7 ?_
 refine c_ (cK_ L_ rfl) rfl (Zz 2 ?_);refine c_ (cK_ L_ rfl) rfl (Zz 3 ?_);refine c_ (cK_ L_ rfl) rfl (Zz 16 ?_);refine bc_ [(1,zp_ B 0),(3,i4_ ((((x.role.length:Int)+(x.a.length:Int))+(x.b.length:Int))+(10*(List.length x.roles:Int)))),(4,i4_ ((0:Nat):Int))] zl ?_;refine bs_ (ι:={y:Nat×Int // y.1<=x.roles.length/\y.1<=100/\(x.roles.length:Int)<=y.2/\y.2<=444444444444444444+y.1*140737488351232}) (λy=>[(1,zp_ B 0),(3,i4_ y.1.2),(4,i4_ y.1.1)]) (λ_=>_) (λ_=>_) (λy=>x.roles.length - y.1.1) ⟨(0,((((x.role.length:Int)+(x.a.length:Int))+(x.b.length:Int))+(10*(List.length x.roles:Int)))),by simp,by simp,by dsimp only;omega,by dsimp only;omega⟩ ?_;rintro ⟨⟨i,n⟩,P⟩;dsimp only at P;refine bc_ [(1,zp_ B 0),(3,i4_ n),(4,i4_ i)] zl ?_;refine Zi 7 (λH=>?_) λH=>?_
 .refine Zi 12 (λo=>?_) λo=>?_
  .refine Zz 14 ?_
   exact jh_
  exact nU_
 refine Zi 4 (λo=>?_) λo=>?_
 .refine Zi 9 (λG=>?_) λG=>?_
  .refine Zz 14 ?_
   exact jh_
  exact nU_
 obtain⟨E,F,I,A⟩:=zge (show i<x.roles.length by omega);have M:=d.roles F A;refine Zz 15 ?_;refine c_ (cK_ L_ rfl) rfl (Zz 10 ?_);exact w_ ⟨(i+1,n+(List.length F:Int)),E,by dsimp only;omega,by dsimp only;omega,by dsimp only;omega⟩ zae_ zl (.refl _) zh
theorem sA_ (l:List Ax) (ad:Ao) (cap:Nat) (most:Int) (E:l.length<=cap/\cap<=2199023255488) (B:∀ x∈l,x.ok):Tri prog 35 #[.slice ad l.length cap,i4_ most] [] [bA_ ad l] (λb:{b:Bool // b=true->(l.length:Int)<=most/\∀ x∈l,Ax.Few x}=>.bool b.1) (λ_=>[]) (λ_=>[]):=by
 refine l_ func35 rfl rfl ntmps35 rfl λF=>?_;refine Zi 11 (λy=>?_) λy=>?_
 .refine Zz 12 ?_
  refine bc_ [(0,.slice ad l.length cap),(5,i4_ ((0:Nat):Int))] zl ?_;refine bs_ (ι:={q:Nat // q<=l.length/\∀ x∈l.take q,Ax.Few x}) (λi=>[(0,.slice ad l.length cap),(5,i4_ i.1)]) (λ_=>_) (λ_=>_) (λi=>l.length - i.1) ⟨0,by simp⟩ ?_;rintro ⟨i,C⟩;refine bc_ [(0,.slice ad l.length cap),(5,i4_ i)] zl ?_;refine Zi 6 (λA=>?_) λA=>?_
  .refine Zz 11 ?_
   exact W_ results35 ⟨true,λ_=>⟨by omega,λx k=>C.2 x (by rw[yac_ zaa_];exact k)⟩⟩ rfl (.refl _) zt
  obtain⟨o,e,u,d⟩:=zge (show i<l.length by omega);refine Zz 13 ?_;refine d_ (oo_ e (B e d)) rfl e_ (λv _ h=>by exact⟨(h.1.2 e d),trivial⟩) rfl λ⟨r,G⟩=>?_;dsimp only;refine c_ (aI_ rfl) rfl (Zz 2 ?_);cases r
  .refine Zz 7 ?_
   exact W_ results35 ⟨false,λh=>by cases h⟩ rfl (.refl _) zt
  refine Zz 9 ?_;exact w_ ⟨i+1,o,λx k=>by rw[yao_,u]at k;simp only[ybf_,yaj_,yal_]at k;rcases k with k|rfl;exact C.2 x k;exact G rfl⟩ zaC_ zl (.refl _) zh
 refine Zz 9 ?_;exact W_ results35 ⟨false,λh=>by cases h⟩ rfl (.refl _) zt
end Go.Proofs.YtbffkokbdeppaaaGreatDoor
