/-
  Part of the proof of the law CheckerSound over this seat: the small logic, the data, the contracts of functions (no condition).
-/
import Derived.Test.YtaffcjgphlhppaaGreatDoorProg
import Derived.Test.YtaffcjgphlhppaaGreatDoorQCheckerSound2
set_option linter.unusedVariables false
set_option linter.unusedSimpArgs false
set_option linter.unusedSectionVars false
set_option maxHeartbeats 1000000
namespace Go.Proofs.YtaffcjgphlhppaaGreatDoor
open Go Go.Sx
theorem zdf {p:Prop} [Decidable p] (h:decide p=false):¬p:=of_decide_eq_false h
theorem zdt {p:Prop} [Decidable p] (h:decide p=true):p:=of_decide_eq_true h
theorem znb {α:Type} [BEq α] [LawfulBEq α] {a b:α} (h:(a==b)=false):a≠b:=by simpa using h
theorem zeb {α:Type} [BEq α] [LawfulBEq α] {a b:α} (h:(a==b)=true):a=b:=eq_of_beq h
theorem zbe {α:Type} [BEq α] [LawfulBEq α] {a b:α} (h:(a != b)=false):a=b:=by simpa using h
theorem zk {G:Prop} (h:G:=by kernel_rfl):G:=h
theorem zh {P Q:Vw→Prop}:∀ v,P v→Q v→Q v:=fun _ _ h=>h
theorem zt {P Q:Vw→Prop}:∀ v,P v→Q v→aj_ [] v:=fun _ _ _=>trivial
section
variable {H r r' d O:Hp} {b c:Nat×Obj}
theorem zpn (h:H.Perm r):([]++H).Perm r:=h
end
abbrev zR {α:Type} (e k:Nat) (f:α→List Value) (sv:Value) (X:List α) (H:Hp):Prop:=bA_ e k sv X.length (X.flatMap f) H
theorem zsw {α β:Type} {e k:Nat} {f:β→List Value} {sv:Value} {A:List β} {H:Hp} (g:α→List β) (p:List α) (h:bA_ e k sv A.length (A.flatMap f) H):zR e k f sv (A++List.flatMap g (List.take 0 p)) H:=by
  unfold zR;simpa only[List.take_zero,List.flatMap_nil,List.append_nil] using h
theorem zsa {β:Type} {e k m:Nat} {f:β→List Value} {sv:Value} {A B:List β} {H:Hp} (h:bA_ e k sv (A.length+m) (A.flatMap f++B.flatMap f) H) (hm:B.length=m:=by first|rfl|simp):zR e k f sv (A++B) H:=by
  subst hm;unfold zR;rw[List.length_append,List.flatMap_append];exact h
theorem zge {α:Type} {l:List α} {i:Nat} (h:i<l.length):i<l.length∧∃ x,l[i]? = some x∧x∈l:=⟨h,_,List.getElem?_eq_getElem h,List.getElem_mem h⟩
theorem zbn {α:Type} [BEq α] [LawfulBEq α] {a b:α} (h:(a != b)=true):a≠b:=by simpa using h
theorem zp {G:Prop} (h:G:=by (repeat (first|(with_reducible first|exact g_|exact e_|exact u_|exact P_|exact cp_|exact bH_)|exact e_|(with_reducible first|apply zpn|(apply o_;rotate_left;(fail_if_success (with_reducible apply g_));rotate_right)|apply B_|apply c_|apply j_)|exact u_|exact bH_))):G:=h
theorem zf {G:Prop} (h:G:=by intro v_ a_ b_;repeat (first|exact trivial|(with_reducible first|exact b_.1|exact b_.2.1|exact b_.2.2.1|exact b_.2.2.2.1|exact b_.2.2.2.2.1|exact b_.2.2.2.2.2.1|exact b_.2.2.2.2.2.2.1|exact b_.2.2.2.2.2.2.2.1|exact b_.2.2.2.2.2.2.2.2.1|exact b_.2.2.2.2.2.2.2.2.2.1|exact b_.2.2.2.2.2.2.2.2.2.2.1|exact b_.2.2.2.2.2.2.2.2.2.2.2.1|exact b_|exact b_.2|exact b_.2.2|exact b_.2.2.2|exact b_.2.2.2.2|exact b_.2.2.2.2.2|exact b_.2.2.2.2.2.2|exact b_.2.2.2.2.2.2.2|exact b_.2.2.2.2.2.2.2.2|exact b_.2.2.2.2.2.2.2.2.2|exact b_.2.2.2.2.2.2.2.2.2.2|exact b_.2.2.2.2.2.2.2.2.2.2.2)|(first|exact b_.1|exact b_.2.1|exact b_.2.2.1|exact b_.2.2.2.1|exact b_.2.2.2.2.1|exact b_.2.2.2.2.2.1|exact b_.2.2.2.2.2.2.1|exact b_.2.2.2.2.2.2.2.1|exact b_.2.2.2.2.2.2.2.2.1|exact b_.2.2.2.2.2.2.2.2.2.1|exact b_.2.2.2.2.2.2.2.2.2.2.1|exact b_.2.2.2.2.2.2.2.2.2.2.2.1|exact b_|exact b_.2|exact b_.2.2|exact b_.2.2.2|exact b_.2.2.2.2|exact b_.2.2.2.2.2|exact b_.2.2.2.2.2.2|exact b_.2.2.2.2.2.2.2|exact b_.2.2.2.2.2.2.2.2|exact b_.2.2.2.2.2.2.2.2.2|exact b_.2.2.2.2.2.2.2.2.2.2|exact b_.2.2.2.2.2.2.2.2.2.2.2)|refine⟨?_,?_⟩)):G:=h
theorem zs {G:Prop} (h:G:=by intro v_ a_ b_;refine⟨?_,?_⟩;(first|exact a_|exact satNil a_|exact a_.tail|exact a_.tail.tail|exact a_.tail.tail.tail|exact a_.tail.tail.tail.tail|((apply Vw.sat.sub;apply a_.perm);(repeat (first|(with_reducible first|exact g_|exact e_|exact u_|exact P_|exact cp_|exact bH_)|exact e_|(with_reducible first|apply zpn|(apply o_;rotate_left;(fail_if_success (with_reducible apply g_));rotate_right)|apply B_|apply c_|apply j_)|exact u_|exact bH_))));(first|exact b_|exact b_.2|exact b_.2.2|exact b_.2.2.2|exact b_.2.2.2.2|exact b_.2.2.2.2.2|exact b_.2.2.2.2.2.2|exact b_.2.2.2.2.2.2.2|exact b_.2.2.2.2.2.2.2.2|exact b_.2.2.2.2.2.2.2.2.2|exact b_.2.2.2.2.2.2.2.2.2.2|exact b_.2.2.2.2.2.2.2.2.2.2.2)):G:=h
theorem zl {G:Prop} (h:G:=by repeat (first|exact trivial|refine⟨rfl,?_⟩)):G:=h
def lkN {α:Type}:List (Nat×α)→Nat→Option α
  | [],_=>none
  | (k,v)::l,n=>bif Nat.beq k n then some v else lkN l n
theorem mt_ {α:Type} {n:Nat} {v:α}:∀ {l:List (Nat×α)},lkN l n=some v→(n,v)∈l
  | (k,u)::l,h=>by
    simp only[lkN]at h
    cases hb:Nat.beq k n with
    | true=>rw[hb,cond_true]at h;cases h;rw[Nat.eq_of_beq_eq_true hb];exact List.mem_cons_self
    | false=>rw[hb,cond_false]at h;exact List.mem_cons_of_mem _ (mt_ h)
def zAt:List (Nat×Bool):=[(9,false),(3,false),(24,true),(47,false),(25,false),(56,true),(4,false),(106,false),(105,false),(102,false),(34,false),(171,true),(36,true),(73,true),(104,false),(108,false),(196,true),(27,true),(54,false),(46,false),(107,false),(145,true),(39,false),(58,true),(109,false),(77,false),(74,false),(22,false),(114,false),(127,false),(241,false),(78,false),(49,true),(135,true),(191,true)]
theorem zA {t:TypeId} {b:Bool} (h:lkN zAt t=some b):∀ w,(isAgg t).run Tryz.prog w=.ok b w:=by
  have h:=mt_ h
  simp only[zAt,List.mem_cons,Prod.mk.injEq,List.not_mem_nil,or_false]at h
  rcases h with⟨rfl,rfl⟩|⟨rfl,rfl⟩|⟨rfl,rfl⟩|⟨rfl,rfl⟩|⟨rfl,rfl⟩|⟨rfl,rfl⟩|⟨rfl,rfl⟩|⟨rfl,rfl⟩|⟨rfl,rfl⟩|⟨rfl,rfl⟩|⟨rfl,rfl⟩|⟨rfl,rfl⟩|⟨rfl,rfl⟩|⟨rfl,rfl⟩|⟨rfl,rfl⟩|⟨rfl,rfl⟩|⟨rfl,rfl⟩|⟨rfl,rfl⟩|⟨rfl,rfl⟩|⟨rfl,rfl⟩|⟨rfl,rfl⟩|⟨rfl,rfl⟩|⟨rfl,rfl⟩|⟨rfl,rfl⟩|⟨rfl,rfl⟩|⟨rfl,rfl⟩|⟨rfl,rfl⟩|⟨rfl,rfl⟩|⟨rfl,rfl⟩|⟨rfl,rfl⟩|⟨rfl,rfl⟩|⟨rfl,rfl⟩|⟨rfl,rfl⟩|⟨rfl,rfl⟩|⟨rfl,rfl⟩
  · exact ai_
  · exact aK_
  · exact aI_
  · exact Tryz.isAgg47
  · exact Tryz.isAgg25
  · exact aB_
  · exact cY_
  · exact Tryz.isAgg106
  · exact Tryz.isAgg105
  · exact Tryz.isAgg102
  · exact Tryz.isAgg34
  · exact Tryz.isAgg171
  · exact Tryz.isAgg36
  · exact dJ_
  · exact Tryz.isAgg104
  · exact Tryz.isAgg108
  · exact il_
  · exact Tryz.isAgg27
  · exact Tryz.isAgg54
  · exact Tryz.isAgg46
  · exact Tryz.isAgg107
  · exact Tryz.isAgg145
  · exact Tryz.isAgg39
  · exact Tryz.isAgg58
  · exact Tryz.isAgg109
  · exact Tryz.isAgg77
  · exact Tryz.isAgg74
  · exact Tryz.isAgg22
  · exact Tryz.isAgg114
  · exact Tryz.isAgg127
  · exact Tryz.isAgg241
  · exact Tryz.isAgg78
  · exact dk_
  · exact Tryz.isAgg135
  · exact Tryz.isAgg191
def zSt:List (Nat×Nat):=[(9,1),(24,6),(3,1),(56,5),(73,10),(25,1),(47,1),(4,1),(106,1),(36,9),(105,1),(34,1),(171,2),(104,1),(108,1),(196,2),(46,1),(27,1),(54,1),(107,1),(145,18),(39,1),(58,16),(109,1),(77,1),(74,1),(22,1),(241,1),(78,1),(49,2),(135,7),(81,51),(191,3)]
theorem zS {t:TypeId} {b:Nat} (h:lkN zSt t=some b):∀ w,(sizeOf t).run Tryz.prog w=.ok b w:=by
  have h:=mt_ h
  simp only[zSt,List.mem_cons,Prod.mk.injEq,List.not_mem_nil,or_false]at h
  rcases h with⟨rfl,rfl⟩|⟨rfl,rfl⟩|⟨rfl,rfl⟩|⟨rfl,rfl⟩|⟨rfl,rfl⟩|⟨rfl,rfl⟩|⟨rfl,rfl⟩|⟨rfl,rfl⟩|⟨rfl,rfl⟩|⟨rfl,rfl⟩|⟨rfl,rfl⟩|⟨rfl,rfl⟩|⟨rfl,rfl⟩|⟨rfl,rfl⟩|⟨rfl,rfl⟩|⟨rfl,rfl⟩|⟨rfl,rfl⟩|⟨rfl,rfl⟩|⟨rfl,rfl⟩|⟨rfl,rfl⟩|⟨rfl,rfl⟩|⟨rfl,rfl⟩|⟨rfl,rfl⟩|⟨rfl,rfl⟩|⟨rfl,rfl⟩|⟨rfl,rfl⟩|⟨rfl,rfl⟩|⟨rfl,rfl⟩|⟨rfl,rfl⟩|⟨rfl,rfl⟩|⟨rfl,rfl⟩|⟨rfl,rfl⟩|⟨rfl,rfl⟩
  · exact al_
  · exact x_
  · exact aq_
  · exact F_
  · exact am_
  · exact bX_
  · exact dj_
  · exact cy_
  · exact eA_
  · exact aZ_
  · exact Tryz.sizeOf105
  · exact tX_
  · exact dn_
  · exact Tryz.sizeOf104
  · exact Tryz.sizeOf108
  · exact T_
  · exact fe_
  · exact gn_
  · exact tW_
  · exact Tryz.sizeOf107
  · exact Tryz.sizeOf145
  · exact Tryz.sizeOf39
  · exact Tryz.sizeOf58
  · exact Tryz.sizeOf109
  · exact Tryz.sizeOf77
  · exact Tryz.sizeOf74
  · exact Tryz.sizeOf22
  · exact Tryz.sizeOf241
  · exact Tryz.sizeOf78
  · exact aY_
  · exact fC_
  · exact Tryz.sizeOf81
  · exact Tryz.sizeOf191
theorem zUe {P:Program} {t t1:TypeId} {q q1} (h:∀ w,(underlying t1).run P w=.ok q1 w) (e:t=t1) (e1:q1=q):∀ w,(underlying t).run P w=.ok q w:=by subst e e1;exact h
theorem Zy {A B:Prop} {n:Nat} (k:A) (h:Kw A→Cn n B:=by intro k_;repeat (first|exact cn0 k_.go|(apply cn;intro h_;((first|((with_reducible apply d_);rotate_left;exact rfl;exact h_;rotate_right)|((with_reducible apply Z_);exact rfl;rotate_left;exact rfl;exact h_;rotate_right)|((with_reducible apply bQ_);exact rfl;exact rfl;exact rfl;rotate_left;exact rfl;exact h_;rotate_right));(focus (first|((with_reducible apply V_);exact rfl)|((with_reducible apply z_);exact rfl)|((with_reducible apply hX_);rotate_left;exact rfl;rotate_right;(first|exact zUe cN_ rfl rfl|exact zUe cu_ rfl rfl|exact zUe dp_ rfl rfl|exact zUe cv_ rfl rfl|exact zUe ct_ rfl rfl|exact zUe bS_ rfl rfl|exact zUe A_ rfl rfl|exact zUe bl_ rfl rfl|exact zUe aJ_ rfl rfl|exact zUe aU_ rfl rfl|exact zUe N_ rfl rfl|exact zUe ao_ rfl rfl|exact zUe bt_ rfl rfl|exact zUe aG_ rfl rfl|exact zUe az_ rfl rfl|exact zUe de_ rfl rfl|exact zUe dd_ rfl rfl|exact zUe E_ rfl rfl|exact zUe bd_ rfl rfl|exact zUe cK_ rfl rfl|exact zUe cL_ rfl rfl|exact zUe aV_ rfl rfl|exact zUe bg_ rfl rfl|exact zUe dq_ rfl rfl|exact zUe cs_ rfl rfl|exact zUe bK_ rfl rfl|exact zUe cM_ rfl rfl|exact zUe bq_ rfl rfl|exact zUe bZ_ rfl rfl);exact rfl;exact rfl;exact zS rfl)|((with_reducible apply R_);(first|exact zUe cN_ rfl rfl|exact zUe cu_ rfl rfl|exact zUe dp_ rfl rfl|exact zUe cv_ rfl rfl|exact zUe ct_ rfl rfl|exact zUe bS_ rfl rfl|exact zUe A_ rfl rfl|exact zUe bl_ rfl rfl|exact zUe aJ_ rfl rfl|exact zUe aU_ rfl rfl|exact zUe N_ rfl rfl|exact zUe ao_ rfl rfl|exact zUe bt_ rfl rfl|exact zUe aG_ rfl rfl|exact zUe az_ rfl rfl|exact zUe de_ rfl rfl|exact zUe dd_ rfl rfl|exact zUe E_ rfl rfl|exact zUe bd_ rfl rfl|exact zUe cK_ rfl rfl|exact zUe cL_ rfl rfl|exact zUe aV_ rfl rfl|exact zUe bg_ rfl rfl|exact zUe dq_ rfl rfl|exact zUe cs_ rfl rfl|exact zUe bK_ rfl rfl|exact zUe cM_ rfl rfl|exact zUe bq_ rfl rfl|exact zUe bZ_ rfl rfl);exact rfl;exact rfl;exact rfl;exact zS rfl)|((with_reducible apply (ak_ 0));rotate_left;exact rfl;exact rfl;exact rfl;exact zA rfl)|((with_reducible apply (ak_ 1));rotate_left;exact rfl;exact rfl;exact rfl;exact zA rfl)|((with_reducible apply (ak_ 2));rotate_left;exact rfl;exact rfl;exact rfl;exact zA rfl)|((with_reducible apply (ak_ 3));rotate_left;exact rfl;exact rfl;exact rfl;exact zA rfl)|((with_reducible apply aX_);exact rfl;exact rfl)|((with_reducible apply aW_);exact rfl;exact rfl)|((with_reducible apply bC_);exact rfl;exact rfl;exact rfl;exact cZ_ (by omega) (by omega))|((with_reducible apply dU_);exact rfl)|((with_reducible apply jq_);exact rfl;exact rfl)|((with_reducible apply dc_);(first|exact zUe cN_ rfl rfl|exact zUe cu_ rfl rfl|exact zUe dp_ rfl rfl|exact zUe cv_ rfl rfl|exact zUe ct_ rfl rfl|exact zUe bS_ rfl rfl|exact zUe A_ rfl rfl|exact zUe bl_ rfl rfl|exact zUe aJ_ rfl rfl|exact zUe aU_ rfl rfl|exact zUe N_ rfl rfl|exact zUe ao_ rfl rfl|exact zUe bt_ rfl rfl|exact zUe aG_ rfl rfl|exact zUe az_ rfl rfl|exact zUe de_ rfl rfl|exact zUe dd_ rfl rfl|exact zUe E_ rfl rfl|exact zUe bd_ rfl rfl|exact zUe cK_ rfl rfl|exact zUe cL_ rfl rfl|exact zUe aV_ rfl rfl|exact zUe bg_ rfl rfl|exact zUe dq_ rfl rfl|exact zUe cs_ rfl rfl|exact zUe bK_ rfl rfl|exact zUe cM_ rfl rfl|exact zUe bq_ rfl rfl|exact zUe bZ_ rfl rfl);exact rfl)|((with_reducible apply (as_ 0));rotate_left;exact zS rfl;exact rfl;exact rfl;exact rfl;exact zA rfl)|((with_reducible apply (as_ 1));rotate_left;exact zS rfl;exact rfl;exact rfl;exact rfl;exact zA rfl)|((with_reducible apply (as_ 2));rotate_left;exact zS rfl;exact rfl;exact rfl;exact rfl;exact zA rfl)|((with_reducible apply (as_ 3));rotate_left;exact zS rfl;exact rfl;exact rfl;exact rfl;exact zA rfl)|((with_reducible apply ll_);rotate_left;exact rfl;(intro v _ h;first|exact h.1|exact h.2.1|exact h.2.2.1|exact h.2.2.2.1|exact h.2.2.2.2.1|exact h.2.2.2.2.2.1|exact h.2.2.2.2.2.2.1|exact h.2.2.2.2.2.2.2.1|exact h.2.2.2.2.2.2.2.2.1|exact h.2.2.2.2.2.2.2.2.2.1|exact h.2.2.2.2.2.2.2.2.2.2.1|exact h.2.2.2.2.2.2.2.2.2.2.2.1);exact rfl;exact zA rfl)|((with_reducible apply X_);(first|exact zUe cN_ rfl rfl|exact zUe cu_ rfl rfl|exact zUe dp_ rfl rfl|exact zUe cv_ rfl rfl|exact zUe ct_ rfl rfl|exact zUe bS_ rfl rfl|exact zUe A_ rfl rfl|exact zUe bl_ rfl rfl|exact zUe aJ_ rfl rfl|exact zUe aU_ rfl rfl|exact zUe N_ rfl rfl|exact zUe ao_ rfl rfl|exact zUe bt_ rfl rfl|exact zUe aG_ rfl rfl|exact zUe az_ rfl rfl|exact zUe de_ rfl rfl|exact zUe dd_ rfl rfl|exact zUe E_ rfl rfl|exact zUe bd_ rfl rfl|exact zUe cK_ rfl rfl|exact zUe cL_ rfl rfl|exact zUe aV_ rfl rfl|exact zUe bg_ rfl rfl|exact zUe dq_ rfl rfl|exact zUe cs_ rfl rfl|exact zUe bK_ rfl rfl|exact zUe cM_ rfl rfl|exact zUe bq_ rfl rfl|exact zUe bZ_ rfl rfl);exact zS rfl;exact rfl;exact rfl;(intro v _ h;first|exact I_ Pc.cells_len (by decide) h.1 (by assumption)|exact I_ Pc.cells_len (by decide) h.2.1 (by assumption)|exact I_ Pc.cells_len (by decide) h.2.2.1 (by assumption)|exact I_ Pc.cells_len (by decide) h.2.2.2.1 (by assumption)|exact I_ Pc.cells_len (by decide) h.2.2.2.2.1 (by assumption)|exact I_ Pc.cells_len (by decide) h.2.2.2.2.2.1 (by assumption)|exact I_ Pc.cells_len (by decide) h.2.2.2.2.2.2.1 (by assumption)|exact I_ Pc.cells_len (by decide) h.2.2.2.2.2.2.2.1 (by assumption)|exact I_ Fc.cells_len (by decide) h.1 (by assumption)|exact I_ Fc.cells_len (by decide) h.2.1 (by assumption)|exact I_ Fc.cells_len (by decide) h.2.2.1 (by assumption)|exact I_ Fc.cells_len (by decide) h.2.2.2.1 (by assumption)|exact I_ Fc.cells_len (by decide) h.2.2.2.2.1 (by assumption)|exact I_ Fc.cells_len (by decide) h.2.2.2.2.2.1 (by assumption)|exact I_ Fc.cells_len (by decide) h.2.2.2.2.2.2.1 (by assumption)|exact I_ Fc.cells_len (by decide) h.2.2.2.2.2.2.2.1 (by assumption)|exact I_ Stp.cells_len (by decide) h.1 (by assumption)|exact I_ Stp.cells_len (by decide) h.2.1 (by assumption)|exact I_ Stp.cells_len (by decide) h.2.2.1 (by assumption)|exact I_ Stp.cells_len (by decide) h.2.2.2.1 (by assumption)|exact I_ Stp.cells_len (by decide) h.2.2.2.2.1 (by assumption)|exact I_ Stp.cells_len (by decide) h.2.2.2.2.2.1 (by assumption)|exact I_ Stp.cells_len (by decide) h.2.2.2.2.2.2.1 (by assumption)|exact I_ Stp.cells_len (by decide) h.2.2.2.2.2.2.2.1 (by assumption)|exact I_ aS_ (by decide) h.1 (by assumption)|exact I_ aS_ (by decide) h.2.1 (by assumption)|exact I_ aS_ (by decide) h.2.2.1 (by assumption)|exact I_ aS_ (by decide) h.2.2.2.1 (by assumption)|exact I_ aS_ (by decide) h.2.2.2.2.1 (by assumption)|exact I_ aS_ (by decide) h.2.2.2.2.2.1 (by assumption)|exact I_ aS_ (by decide) h.2.2.2.2.2.2.1 (by assumption)|exact I_ aS_ (by decide) h.2.2.2.2.2.2.2.1 (by assumption)|exact I_ bz_ (by decide) h.1 (by assumption)|exact I_ bz_ (by decide) h.2.1 (by assumption)|exact I_ bz_ (by decide) h.2.2.1 (by assumption)|exact I_ bz_ (by decide) h.2.2.2.1 (by assumption)|exact I_ bz_ (by decide) h.2.2.2.2.1 (by assumption)|exact I_ bz_ (by decide) h.2.2.2.2.2.1 (by assumption)|exact I_ bz_ (by decide) h.2.2.2.2.2.2.1 (by assumption)|exact I_ bz_ (by decide) h.2.2.2.2.2.2.2.1 (by assumption));omega;(first|omega|(simp;done)))|((with_reducible apply bn_);rotate_left;exact rfl;(intro v _ h;first|exact h.1|exact h.2.1|exact h.2.2.1|exact h.2.2.2.1|exact h.2.2.2.2.1|exact h.2.2.2.2.2.1|exact h.2.2.2.2.2.2.1|exact h.2.2.2.2.2.2.2.1|exact h.2.2.2.2.2.2.2.2.1|exact h.2.2.2.2.2.2.2.2.2.1|exact h.2.2.2.2.2.2.2.2.2.2.1|exact h.2.2.2.2.2.2.2.2.2.2.2.1);(first|exact G_ Pc.cells_len (by assumption) 0 _ rfl|exact G_ Pc.cells_len (by assumption) _ _ rfl|exact G_ Fc.cells_len (by assumption) 0 _ rfl|exact G_ Fc.cells_len (by assumption) _ _ rfl|exact G_ Stp.cells_len (by assumption) 0 _ rfl|exact G_ Stp.cells_len (by assumption) _ _ rfl|exact G_ aS_ (by assumption) 0 _ rfl|exact G_ aS_ (by assumption) _ _ rfl|exact G_ bz_ (by assumption) 0 _ rfl|exact G_ bz_ (by assumption) _ _ rfl|exact G_ Stp.cells_len (by assumption) 2 _ rfl|exact G_ Stp.cells_len (by assumption) 3 _ rfl|exact G_ Stp.cells_len (by assumption) 4 _ rfl|exact G_ Stp.cells_len (by assumption) 5 _ rfl|exact G_ Stp.cells_len (by assumption) 6 _ rfl);exact zA rfl)|((with_reducible apply aA_);rotate_left;exact zS rfl;exact rfl;(intro v _ h;first|exact h.1|exact h.2.1|exact h.2.2.1|exact h.2.2.2.1|exact h.2.2.2.2.1|exact h.2.2.2.2.2.1|exact h.2.2.2.2.2.2.1|exact h.2.2.2.2.2.2.2.1|exact h.2.2.2.2.2.2.2.2.1|exact h.2.2.2.2.2.2.2.2.2.1|exact h.2.2.2.2.2.2.2.2.2.2.1|exact h.2.2.2.2.2.2.2.2.2.2.2.1);rotate_left;(first|exact G_ Pc.cells_len (by assumption)|exact G_ Fc.cells_len (by assumption)|exact G_ Stp.cells_len (by assumption));exact zA rfl;(first|exact Pc.cells_len _|exact Fc.cells_len _|exact Stp.cells_len _))|((with_reducible apply (ak_ 4));rotate_left;exact rfl;exact rfl;exact rfl;exact zA rfl)|((with_reducible apply (ak_ 5));rotate_left;exact rfl;exact rfl;exact rfl;exact zA rfl)|((with_reducible apply (ak_ 6));rotate_left;exact rfl;exact rfl;exact rfl;exact zA rfl)|((with_reducible apply (ak_ 7));rotate_left;exact rfl;exact rfl;exact rfl;exact zA rfl)|((with_reducible apply (as_ 4));rotate_left;exact zS rfl;exact rfl;exact rfl;exact rfl;exact zA rfl)|((with_reducible apply (as_ 5));rotate_left;exact zS rfl;exact rfl;exact rfl;exact rfl;exact zA rfl)|((with_reducible apply (as_ 6));rotate_left;exact zS rfl;exact rfl;exact rfl;exact rfl;exact zA rfl)|((with_reducible apply (as_ 7));rotate_left;exact zS rfl;exact rfl;exact rfl;exact rfl;exact zA rfl)))))|(apply cn;intro h_;first|((with_reducible apply p_);exact h_)|((with_reducible apply l_);exact rfl;exact h_)|((with_reducible apply s_);exact h_)|((with_reducible apply m_);exact h_)|((with_reducible apply y_);exact rfl;exact rfl;exact h_)|((with_reducible apply pc_);exact rfl;exact rfl;exact rfl;exact rfl;exact h_)|((with_reducible apply L_);exact rfl;exact h_)|((with_reducible apply U_);exact rfl;exact h_)|((with_reducible apply aw_);exact h_)|((with_reducible apply dB_);exact h_)|((with_reducible apply ar_);exact h_)|((with_reducible apply aD_);exact rfl;exact h_)|((with_reducible apply sq_noG);exact rfl;exact rfl;exact rfl;exact rfl;exact rfl;exact h_)|((with_reducible apply hx_);kernel_rfl;exact h_)|((with_reducible apply cc_);exact h_)|((with_reducible apply go_);exact rfl;exact h_)|((with_reducible apply lz_);kernel_rfl;exact h_)|((with_reducible apply po_);exact rfl;exact h_)|((with_reducible apply aO_);exact zs;exact h_)|((apply y_);exact rfl;exact rfl;exact h_)|((apply pc_);exact rfl;exact rfl;exact rfl;exact rfl;exact h_)|((apply p_);exact h_))|(apply cn;intro h_;((apply d_);rotate_left;exact rfl;exact h_;rotate_right);(focus (first|((with_reducible apply V_);exact rfl)|((with_reducible apply z_);exact rfl)|((with_reducible apply hX_);rotate_left;exact rfl;rotate_right;(first|exact zUe cN_ rfl rfl|exact zUe cu_ rfl rfl|exact zUe dp_ rfl rfl|exact zUe cv_ rfl rfl|exact zUe ct_ rfl rfl|exact zUe bS_ rfl rfl|exact zUe A_ rfl rfl|exact zUe bl_ rfl rfl|exact zUe aJ_ rfl rfl|exact zUe aU_ rfl rfl|exact zUe N_ rfl rfl|exact zUe ao_ rfl rfl|exact zUe bt_ rfl rfl|exact zUe aG_ rfl rfl|exact zUe az_ rfl rfl|exact zUe de_ rfl rfl|exact zUe dd_ rfl rfl|exact zUe E_ rfl rfl|exact zUe bd_ rfl rfl|exact zUe cK_ rfl rfl|exact zUe cL_ rfl rfl|exact zUe aV_ rfl rfl|exact zUe bg_ rfl rfl|exact zUe dq_ rfl rfl|exact zUe cs_ rfl rfl|exact zUe bK_ rfl rfl|exact zUe cM_ rfl rfl|exact zUe bq_ rfl rfl|exact zUe bZ_ rfl rfl);exact rfl;exact rfl;exact zS rfl)|((with_reducible apply R_);(first|exact zUe cN_ rfl rfl|exact zUe cu_ rfl rfl|exact zUe dp_ rfl rfl|exact zUe cv_ rfl rfl|exact zUe ct_ rfl rfl|exact zUe bS_ rfl rfl|exact zUe A_ rfl rfl|exact zUe bl_ rfl rfl|exact zUe aJ_ rfl rfl|exact zUe aU_ rfl rfl|exact zUe N_ rfl rfl|exact zUe ao_ rfl rfl|exact zUe bt_ rfl rfl|exact zUe aG_ rfl rfl|exact zUe az_ rfl rfl|exact zUe de_ rfl rfl|exact zUe dd_ rfl rfl|exact zUe E_ rfl rfl|exact zUe bd_ rfl rfl|exact zUe cK_ rfl rfl|exact zUe cL_ rfl rfl|exact zUe aV_ rfl rfl|exact zUe bg_ rfl rfl|exact zUe dq_ rfl rfl|exact zUe cs_ rfl rfl|exact zUe bK_ rfl rfl|exact zUe cM_ rfl rfl|exact zUe bq_ rfl rfl|exact zUe bZ_ rfl rfl);exact rfl;exact rfl;exact rfl;exact zS rfl)|((with_reducible apply (ak_ 0));rotate_left;exact rfl;exact rfl;exact rfl;exact zA rfl)|((with_reducible apply (ak_ 1));rotate_left;exact rfl;exact rfl;exact rfl;exact zA rfl)|((with_reducible apply (ak_ 2));rotate_left;exact rfl;exact rfl;exact rfl;exact zA rfl)|((with_reducible apply (ak_ 3));rotate_left;exact rfl;exact rfl;exact rfl;exact zA rfl)|((with_reducible apply aX_);exact rfl;exact rfl)|((with_reducible apply aW_);exact rfl;exact rfl)|((with_reducible apply bC_);exact rfl;exact rfl;exact rfl;exact cZ_ (by omega) (by omega))|((with_reducible apply dU_);exact rfl)|((with_reducible apply jq_);exact rfl;exact rfl)|((with_reducible apply dc_);(first|exact zUe cN_ rfl rfl|exact zUe cu_ rfl rfl|exact zUe dp_ rfl rfl|exact zUe cv_ rfl rfl|exact zUe ct_ rfl rfl|exact zUe bS_ rfl rfl|exact zUe A_ rfl rfl|exact zUe bl_ rfl rfl|exact zUe aJ_ rfl rfl|exact zUe aU_ rfl rfl|exact zUe N_ rfl rfl|exact zUe ao_ rfl rfl|exact zUe bt_ rfl rfl|exact zUe aG_ rfl rfl|exact zUe az_ rfl rfl|exact zUe de_ rfl rfl|exact zUe dd_ rfl rfl|exact zUe E_ rfl rfl|exact zUe bd_ rfl rfl|exact zUe cK_ rfl rfl|exact zUe cL_ rfl rfl|exact zUe aV_ rfl rfl|exact zUe bg_ rfl rfl|exact zUe dq_ rfl rfl|exact zUe cs_ rfl rfl|exact zUe bK_ rfl rfl|exact zUe cM_ rfl rfl|exact zUe bq_ rfl rfl|exact zUe bZ_ rfl rfl);exact rfl)|((with_reducible apply (as_ 0));rotate_left;exact zS rfl;exact rfl;exact rfl;exact rfl;exact zA rfl)|((with_reducible apply (as_ 1));rotate_left;exact zS rfl;exact rfl;exact rfl;exact rfl;exact zA rfl)|((with_reducible apply (as_ 2));rotate_left;exact zS rfl;exact rfl;exact rfl;exact rfl;exact zA rfl)|((with_reducible apply (as_ 3));rotate_left;exact zS rfl;exact rfl;exact rfl;exact rfl;exact zA rfl)|((with_reducible apply ll_);rotate_left;exact rfl;(intro v _ h;first|exact h.1|exact h.2.1|exact h.2.2.1|exact h.2.2.2.1|exact h.2.2.2.2.1|exact h.2.2.2.2.2.1|exact h.2.2.2.2.2.2.1|exact h.2.2.2.2.2.2.2.1|exact h.2.2.2.2.2.2.2.2.1|exact h.2.2.2.2.2.2.2.2.2.1|exact h.2.2.2.2.2.2.2.2.2.2.1|exact h.2.2.2.2.2.2.2.2.2.2.2.1);exact rfl;exact zA rfl)|((with_reducible apply X_);(first|exact zUe cN_ rfl rfl|exact zUe cu_ rfl rfl|exact zUe dp_ rfl rfl|exact zUe cv_ rfl rfl|exact zUe ct_ rfl rfl|exact zUe bS_ rfl rfl|exact zUe A_ rfl rfl|exact zUe bl_ rfl rfl|exact zUe aJ_ rfl rfl|exact zUe aU_ rfl rfl|exact zUe N_ rfl rfl|exact zUe ao_ rfl rfl|exact zUe bt_ rfl rfl|exact zUe aG_ rfl rfl|exact zUe az_ rfl rfl|exact zUe de_ rfl rfl|exact zUe dd_ rfl rfl|exact zUe E_ rfl rfl|exact zUe bd_ rfl rfl|exact zUe cK_ rfl rfl|exact zUe cL_ rfl rfl|exact zUe aV_ rfl rfl|exact zUe bg_ rfl rfl|exact zUe dq_ rfl rfl|exact zUe cs_ rfl rfl|exact zUe bK_ rfl rfl|exact zUe cM_ rfl rfl|exact zUe bq_ rfl rfl|exact zUe bZ_ rfl rfl);exact zS rfl;exact rfl;exact rfl;(intro v _ h;first|exact I_ Pc.cells_len (by decide) h.1 (by assumption)|exact I_ Pc.cells_len (by decide) h.2.1 (by assumption)|exact I_ Pc.cells_len (by decide) h.2.2.1 (by assumption)|exact I_ Pc.cells_len (by decide) h.2.2.2.1 (by assumption)|exact I_ Pc.cells_len (by decide) h.2.2.2.2.1 (by assumption)|exact I_ Pc.cells_len (by decide) h.2.2.2.2.2.1 (by assumption)|exact I_ Pc.cells_len (by decide) h.2.2.2.2.2.2.1 (by assumption)|exact I_ Pc.cells_len (by decide) h.2.2.2.2.2.2.2.1 (by assumption)|exact I_ Fc.cells_len (by decide) h.1 (by assumption)|exact I_ Fc.cells_len (by decide) h.2.1 (by assumption)|exact I_ Fc.cells_len (by decide) h.2.2.1 (by assumption)|exact I_ Fc.cells_len (by decide) h.2.2.2.1 (by assumption)|exact I_ Fc.cells_len (by decide) h.2.2.2.2.1 (by assumption)|exact I_ Fc.cells_len (by decide) h.2.2.2.2.2.1 (by assumption)|exact I_ Fc.cells_len (by decide) h.2.2.2.2.2.2.1 (by assumption)|exact I_ Fc.cells_len (by decide) h.2.2.2.2.2.2.2.1 (by assumption)|exact I_ Stp.cells_len (by decide) h.1 (by assumption)|exact I_ Stp.cells_len (by decide) h.2.1 (by assumption)|exact I_ Stp.cells_len (by decide) h.2.2.1 (by assumption)|exact I_ Stp.cells_len (by decide) h.2.2.2.1 (by assumption)|exact I_ Stp.cells_len (by decide) h.2.2.2.2.1 (by assumption)|exact I_ Stp.cells_len (by decide) h.2.2.2.2.2.1 (by assumption)|exact I_ Stp.cells_len (by decide) h.2.2.2.2.2.2.1 (by assumption)|exact I_ Stp.cells_len (by decide) h.2.2.2.2.2.2.2.1 (by assumption)|exact I_ aS_ (by decide) h.1 (by assumption)|exact I_ aS_ (by decide) h.2.1 (by assumption)|exact I_ aS_ (by decide) h.2.2.1 (by assumption)|exact I_ aS_ (by decide) h.2.2.2.1 (by assumption)|exact I_ aS_ (by decide) h.2.2.2.2.1 (by assumption)|exact I_ aS_ (by decide) h.2.2.2.2.2.1 (by assumption)|exact I_ aS_ (by decide) h.2.2.2.2.2.2.1 (by assumption)|exact I_ aS_ (by decide) h.2.2.2.2.2.2.2.1 (by assumption)|exact I_ bz_ (by decide) h.1 (by assumption)|exact I_ bz_ (by decide) h.2.1 (by assumption)|exact I_ bz_ (by decide) h.2.2.1 (by assumption)|exact I_ bz_ (by decide) h.2.2.2.1 (by assumption)|exact I_ bz_ (by decide) h.2.2.2.2.1 (by assumption)|exact I_ bz_ (by decide) h.2.2.2.2.2.1 (by assumption)|exact I_ bz_ (by decide) h.2.2.2.2.2.2.1 (by assumption)|exact I_ bz_ (by decide) h.2.2.2.2.2.2.2.1 (by assumption));omega;(first|omega|(simp;done)))|((with_reducible apply bn_);rotate_left;exact rfl;(intro v _ h;first|exact h.1|exact h.2.1|exact h.2.2.1|exact h.2.2.2.1|exact h.2.2.2.2.1|exact h.2.2.2.2.2.1|exact h.2.2.2.2.2.2.1|exact h.2.2.2.2.2.2.2.1|exact h.2.2.2.2.2.2.2.2.1|exact h.2.2.2.2.2.2.2.2.2.1|exact h.2.2.2.2.2.2.2.2.2.2.1|exact h.2.2.2.2.2.2.2.2.2.2.2.1);(first|exact G_ Pc.cells_len (by assumption) 0 _ rfl|exact G_ Pc.cells_len (by assumption) _ _ rfl|exact G_ Fc.cells_len (by assumption) 0 _ rfl|exact G_ Fc.cells_len (by assumption) _ _ rfl|exact G_ Stp.cells_len (by assumption) 0 _ rfl|exact G_ Stp.cells_len (by assumption) _ _ rfl|exact G_ aS_ (by assumption) 0 _ rfl|exact G_ aS_ (by assumption) _ _ rfl|exact G_ bz_ (by assumption) 0 _ rfl|exact G_ bz_ (by assumption) _ _ rfl|exact G_ Stp.cells_len (by assumption) 2 _ rfl|exact G_ Stp.cells_len (by assumption) 3 _ rfl|exact G_ Stp.cells_len (by assumption) 4 _ rfl|exact G_ Stp.cells_len (by assumption) 5 _ rfl|exact G_ Stp.cells_len (by assumption) 6 _ rfl);exact zA rfl)|((with_reducible apply aA_);rotate_left;exact zS rfl;exact rfl;(intro v _ h;first|exact h.1|exact h.2.1|exact h.2.2.1|exact h.2.2.2.1|exact h.2.2.2.2.1|exact h.2.2.2.2.2.1|exact h.2.2.2.2.2.2.1|exact h.2.2.2.2.2.2.2.1|exact h.2.2.2.2.2.2.2.2.1|exact h.2.2.2.2.2.2.2.2.2.1|exact h.2.2.2.2.2.2.2.2.2.2.1|exact h.2.2.2.2.2.2.2.2.2.2.2.1);rotate_left;(first|exact G_ Pc.cells_len (by assumption)|exact G_ Fc.cells_len (by assumption)|exact G_ Stp.cells_len (by assumption));exact zA rfl;(first|exact Pc.cells_len _|exact Fc.cells_len _|exact Stp.cells_len _))|((with_reducible apply (ak_ 4));rotate_left;exact rfl;exact rfl;exact rfl;exact zA rfl)|((with_reducible apply (ak_ 5));rotate_left;exact rfl;exact rfl;exact rfl;exact zA rfl)|((with_reducible apply (ak_ 6));rotate_left;exact rfl;exact rfl;exact rfl;exact zA rfl)|((with_reducible apply (ak_ 7));rotate_left;exact rfl;exact rfl;exact rfl;exact zA rfl)|((with_reducible apply (as_ 4));rotate_left;exact zS rfl;exact rfl;exact rfl;exact rfl;exact zA rfl)|((with_reducible apply (as_ 5));rotate_left;exact zS rfl;exact rfl;exact rfl;exact rfl;exact zA rfl)|((with_reducible apply (as_ 6));rotate_left;exact zS rfl;exact rfl;exact rfl;exact rfl;exact zA rfl)|((with_reducible apply (as_ 7));rotate_left;exact zS rfl;exact rfl;exact rfl;exact rfl;exact zA rfl)))))):Cn n B:=h ⟨k⟩
theorem Zi {p q A B C:Prop} (n:Nat) (k0:p→A) (k1:q→B) (h:Kw (p→A)→Kw (q→B)→Cn n C:=by intro k0_ k1_;refine Zy ?_;first|((with_reducible apply O_);(first|((with_reducible apply bf_);exact rfl;exact rfl)|((with_reducible apply db_);exact rfl;exact rfl)|((with_reducible apply eW_);exact rfl;exact rfl)|((with_reducible apply dV_);exact rfl;exact rfl)|((with_reducible apply cg_);exact rfl;exact rfl)|((with_reducible apply gH_);exact rfl;exact rfl)|((with_reducible apply dl_);exact rfl;exact rfl)|((with_reducible apply im_);exact rfl;exact rfl)|((with_reducible apply yld_slss);exact rfl;exact rfl));exact rfl;intro r_ h_;cases r_;(first|exact k0_.go (zdf h_)|exact k0_.go (znb h_)|exact k0_.go (zbe h_));(first|exact k1_.go (zdt h_)|exact k1_.go (zeb h_)|exact k1_.go (zbn h_)))|((with_reducible apply cj_);exact rfl;(first|((with_reducible apply bf_);exact rfl;exact rfl)|((with_reducible apply db_);exact rfl;exact rfl)|((with_reducible apply eW_);exact rfl;exact rfl)|((with_reducible apply dV_);exact rfl;exact rfl)|((with_reducible apply cg_);exact rfl;exact rfl)|((with_reducible apply gH_);exact rfl;exact rfl)|((with_reducible apply dl_);exact rfl;exact rfl)|((with_reducible apply im_);exact rfl;exact rfl)|((with_reducible apply yld_slss);exact rfl;exact rfl));exact rfl;intro r_ h_;cases r_;(first|exact k0_.go (zdf h_)|exact k0_.go (znb h_)|exact k0_.go (zbe h_));(first|exact k1_.go (zdt h_)|exact k1_.go (zeb h_)|exact k1_.go (zbn h_)))|((with_reducible apply aC_);exact rfl;exact rfl;exact rfl;(first|((with_reducible apply bf_);exact rfl;exact rfl)|((with_reducible apply db_);exact rfl;exact rfl)|((with_reducible apply eW_);exact rfl;exact rfl)|((with_reducible apply dV_);exact rfl;exact rfl)|((with_reducible apply cg_);exact rfl;exact rfl)|((with_reducible apply gH_);exact rfl;exact rfl)|((with_reducible apply dl_);exact rfl;exact rfl)|((with_reducible apply im_);exact rfl;exact rfl)|((with_reducible apply yld_slss);exact rfl;exact rfl));exact rfl;intro r_ h_;cases r_;(first|exact k0_.go (zdf h_)|exact k0_.go (znb h_)|exact k0_.go (zbe h_));(first|exact k1_.go (zdt h_)|exact k1_.go (zeb h_)|exact k1_.go (zbn h_)))):C:=(h ⟨k0⟩ ⟨k1⟩).go
theorem Zz {A B:Prop} (n:Nat) (k:A) (h:Kw A→Cn n B:=by intro k_;exact Zy k_.go):B:=(h ⟨k⟩).go
end Go.Proofs.YtaffcjgphlhppaaGreatDoor

namespace Go.Proofs.YtaffcjgphlhppaaGreatDoor
open Go Go.Sx Go.Proofs
attribute [local irreducible] Code.wp wpList wpAnyH
open Go.Vs
theorem kI_ (c:UInt8) :
    Fn0 Tryz.prog 206 #[.int .u8 (c.toNat:Int)] (.bool (fQ_ c)):=by
  refine t_ Tryz.func206 rfl rfl Tryz.ntmps206 rfl fun v0=>?_
  refine Zi 8 (fun hr1=>?_) fun hr1=>?_
  · skip
    refine Zi 8 (fun hr2=>?_) fun hr2=>?_
    · skip
      refine Zz 11 ?_
      exact J_ oZ_ () (f_ rfl (by subst_vars;rw[Bool.eq_iff_iff];simp[fQ_]<;>omega)) (.refl _) zt
    · skip
      refine Zz 5 ?_
      refine O_ (dV_ rfl rfl) rfl fun r3 hr3=>Zz 7 ?_
      exact J_ oZ_ () (f_ rfl (by subst_vars;rw[Bool.eq_iff_iff];simp[fQ_]<;>omega)) (.refl _) zt
  · skip
    refine Zi 4 (fun hr4=>?_) fun hr4=>?_
    · skip
      refine Zi 5 (fun hr5=>?_) fun hr5=>?_
      · skip
        refine Zz 11 ?_
        exact J_ oZ_ () (f_ rfl (by subst_vars;rw[Bool.eq_iff_iff];simp[fQ_]<;>omega)) (.refl _) zt
      · skip
        refine Zz 5 ?_
        refine O_ (dV_ rfl rfl) rfl fun r6 hr6=>Zz 7 ?_
        exact J_ oZ_ () (f_ rfl (by subst_vars;rw[Bool.eq_iff_iff];simp[fQ_]<;>omega)) (.refl _) zt
    · skip
      refine Zz 13 ?_
      exact J_ oZ_ () (f_ rfl (by subst_vars;rw[Bool.eq_iff_iff];simp[fQ_]<;>omega)) (.refl _) zt
theorem nO_ (s:Str) (hs:s.length≤140737488351232) :
    Fn0 Tryz.prog 207 #[str s] (.bool (ls_ s)):=by
  refine t_ Tryz.func207 rfl rfl Tryz.ntmps207 rfl fun v0=>?_
  refine Zz 9 ?_
  refine sZ_ H_ aV_ Tryz.runUnderlying5 rfl rfl fun cap b1 hcap=>Zz 5 ?_
  refine dA_ [(6,.slice (some ⟨b1,0,none⟩) s.length cap),(7,.int .i64 (s.length:Int)),(8,.int .i64 ((0:Nat):Int))] zl ?_
  refine dO_ (ι:={k:Nat // k≤s.length∧(s.take k).all gg_=true}) (fun i=>[(6,.slice (some ⟨b1,0,none⟩) s.length cap),(7,.int .i64 (s.length:Int)),(8,.int .i64 (i.1:Int))]) (fun _=>_) (fun _=>_) (fun i=>s.length - i.1) ⟨0,by simp⟩ ?_
  rintro ⟨k,hk⟩
  refine dA_ [(6,.slice (some ⟨b1,0,none⟩) s.length cap),(7,.int .i64 (s.length:Int)),(8,.int .i64 (k:Int))] zl ?_
  refine Zi 2 (fun hr1=>?_) fun hr1=>?_
  · skip
    refine Zz 12 ?_
    exact J_ Tryz.results207 () (f_ rfl (by rw[ls_,mh_ gg_ s k (by omega) hk.2])) (.refl _) zt
  · skip
    have hlt:k<s.length:=by omega
    obtain⟨c,hc⟩:∃ c,s[k]? = some c:=⟨_,List.getElem?_eq_getElem hlt⟩
    refine Zz 10 ?_
    refine d_ (hC_ aV_ hi_ rfl rfl (by omega) (by omega)) rfl (d_ (ak_ (u:=.int .u8 (c.toNat:Int)) 0 Tryz.isAgg5 rfl rfl (by rw[show 0+((k:Int)).toNat*1=k by omega];exact ry_ hc)) rfl ?_)
    refine Zz 6 ?_
    refine S_ (kI_ c) rfl (.refl _) zt rfl fun r2 hr2=>d_ (bj_ rfl) rfl (Zz 1 ?_)
    cases r2
    · skip
      refine Zi 3 (fun hr3=>?_) fun hr3=>?_
      · skip
        refine Zz 19 ?_
        exact Q_ ⟨k+1,hlt,fY_ _ s k c hc hk.2 (by simp[gg_, *]<;>omega)⟩ (by simp;omega) zl (.refl _) zh
      · skip
        refine Zi 5 (fun hr4=>?_) fun hr4=>?_
        · skip
          refine Zi 5 (fun hr5=>?_) fun hr5=>?_
          · skip
            refine Zz 13 ?_
            exact Q_ ⟨k+1,hlt,fY_ _ s k c hc hk.2 (by simp[gg_, *]<;>omega)⟩ (by simp;omega) zl (.refl _) zh
          · skip
            refine Zz 12 ?_
            exact J_ Tryz.results207 () (f_ rfl (by rw[ls_,iu_ gg_ s k c hc (by simp[gg_, *]<;>omega)])) (.refl _) zt
        · skip
          refine Zz 16 ?_
          exact J_ Tryz.results207 () (f_ rfl (by rw[ls_,iu_ gg_ s k c hc (by simp[gg_, *]<;>omega)])) (.refl _) zt
    · skip
      refine Zz 21 ?_
      exact Q_ ⟨k+1,hlt,fY_ _ s k c hc hk.2 (by simp[gg_, *]<;>omega)⟩ (by simp;omega) zl (.refl _) zh
theorem qa_ (s:Str) :
    Fn0 Tryz.prog 208 #[str s] (.bool (bG_ s)):=by
  refine t_ Tryz.func208 rfl rfl Tryz.ntmps208 rfl fun v0=>?_
  refine Zi 15 (fun hr1=>?_) fun hr1=>?_
  · skip
    refine Zi 6 (fun hr2=>?_) fun hr2=>?_
    · skip
      refine Zi 6 (fun hr3=>?_) fun hr3=>?_
      · skip
        refine Zi 6 (fun hr4=>?_) fun hr4=>?_
        · skip
          refine Zi 6 (fun hr5=>?_) fun hr5=>?_
          · skip
            refine Zi 6 (fun hr6=>?_) fun hr6=>?_
            · skip
              refine Zi 6 (fun hr7=>?_) fun hr7=>?_
              · skip
                refine Zi 6 (fun hr8=>?_) fun hr8=>?_
                · skip
                  refine Zi 6 (fun hr9=>?_) fun hr9=>?_
                  · skip
                    refine Zi 6 (fun hr10=>?_) fun hr10=>?_
                    · skip
                      refine Zi 6 (fun hr11=>?_) fun hr11=>?_
                      · skip
                        refine Zi 6 (fun hr12=>?_) fun hr12=>?_
                        · skip
                          refine Zi 6 (fun hr13=>?_) fun hr13=>?_
                          · skip
                            refine Zi 6 (fun hr14=>?_) fun hr14=>?_
                            · skip
                              refine Zi 6 (fun hr15=>?_) fun hr15=>?_
                              · skip
                                refine Zi 6 (fun hr16=>?_) fun hr16=>?_
                                · skip
                                  refine Zi 6 (fun hr17=>?_) fun hr17=>?_
                                  · skip
                                    refine Zi 6 (fun hr18=>?_) fun hr18=>?_
                                    · skip
                                      refine Zi 6 (fun hr19=>?_) fun hr19=>?_
                                      · skip
                                        refine Zi 6 (fun hr20=>?_) fun hr20=>?_
                                        · skip
                                          refine Zi 6 (fun hr21=>?_) fun hr21=>?_
                                          · skip
                                            refine Zi 5 (fun hr22=>?_) fun hr22=>?_
                                            · skip
                                              refine Zz 12 ?_
                                              exact J_ aT_ () (f_ rfl (by simp[bG_,kws, *])) (.refl _) zt
                                            · skip
                                              refine Zz 10 ?_
                                              exact J_ aT_ () (f_ rfl (by simp[bG_,kws, *])) (.refl _) zt
                                          · skip
                                            refine Zz 13 ?_
                                            exact J_ aT_ () (f_ rfl (by simp[bG_,kws, *])) (.refl _) zt
                                        · skip
                                          refine Zz 13 ?_
                                          exact J_ aT_ () (f_ rfl (by simp[bG_,kws, *])) (.refl _) zt
                                      · skip
                                        refine Zz 13 ?_
                                        exact J_ aT_ () (f_ rfl (by simp[bG_,kws, *])) (.refl _) zt
                                    · skip
                                      refine Zz 13 ?_
                                      exact J_ aT_ () (f_ rfl (by simp[bG_,kws, *])) (.refl _) zt
                                  · skip
                                    refine Zz 13 ?_
                                    exact J_ aT_ () (f_ rfl (by simp[bG_,kws, *])) (.refl _) zt
                                · skip
                                  refine Zz 13 ?_
                                  exact J_ aT_ () (f_ rfl (by simp[bG_,kws, *])) (.refl _) zt
                              · skip
                                refine Zz 13 ?_
                                exact J_ aT_ () (f_ rfl (by simp[bG_,kws, *])) (.refl _) zt
                            · skip
                              refine Zz 13 ?_
                              exact J_ aT_ () (f_ rfl (by simp[bG_,kws, *])) (.refl _) zt
                          · skip
                            refine Zz 13 ?_
                            exact J_ aT_ () (f_ rfl (by simp[bG_,kws, *])) (.refl _) zt
                        · skip
                          refine Zz 13 ?_
                          exact J_ aT_ () (f_ rfl (by simp[bG_,kws, *])) (.refl _) zt
                      · skip
                        refine Zz 13 ?_
                        exact J_ aT_ () (f_ rfl (by simp[bG_,kws, *])) (.refl _) zt
                    · skip
                      refine Zz 13 ?_
                      exact J_ aT_ () (f_ rfl (by simp[bG_,kws, *])) (.refl _) zt
                  · skip
                    refine Zz 13 ?_
                    exact J_ aT_ () (f_ rfl (by simp[bG_,kws, *])) (.refl _) zt
                · skip
                  refine Zz 13 ?_
                  exact J_ aT_ () (f_ rfl (by simp[bG_,kws, *])) (.refl _) zt
              · skip
                refine Zz 13 ?_
                exact J_ aT_ () (f_ rfl (by simp[bG_,kws, *])) (.refl _) zt
            · skip
              refine Zz 13 ?_
              exact J_ aT_ () (f_ rfl (by simp[bG_,kws, *])) (.refl _) zt
          · skip
            refine Zz 13 ?_
            exact J_ aT_ () (f_ rfl (by simp[bG_,kws, *])) (.refl _) zt
        · skip
          refine Zz 13 ?_
          exact J_ aT_ () (f_ rfl (by simp[bG_,kws, *])) (.refl _) zt
      · skip
        refine Zz 13 ?_
        exact J_ aT_ () (f_ rfl (by simp[bG_,kws, *])) (.refl _) zt
    · skip
      refine Zz 13 ?_
      exact J_ aT_ () (f_ rfl (by simp[bG_,kws, *])) (.refl _) zt
  · skip
    refine Zz 13 ?_
    exact J_ aT_ () (f_ rfl (by simp[bG_,kws, *])) (.refl _) zt
end Go.Proofs.YtaffcjgphlhppaaGreatDoor
namespace Go.Proofs.YtaffcjgphlhppaaGreatDoor
open Go Go.Sx Go.Proofs
attribute [local irreducible] Code.wp wpList wpAnyH
open Go.Vs
theorem kH_ (s:Str) (hs:s.length≤140737488351232) :
    Fn0 Tryz.prog 177 #[str s] (.bool (jr_ s)):=by
  refine t_ Tryz.func177 rfl rfl Tryz.ntmps177 rfl fun v0=>?_
  refine Zi 8 (fun hr1=>?_) fun hr1=>?_
  · skip
    refine Zz 18 ?_
    exact J_ Tryz.results177 () (f_ rfl (by simp[jr_, *])) (.refl _) zt
  · skip
    obtain⟨c,t,rfl⟩:=List.exists_cons_of_ne_nil hr1
    refine Zz 4 ?_
    refine d_ (ch_ H_ rfl rfl (by decide) rfl) rfl (y_ rfl rfl (S_ (kI_ _) rfl (.refl _) zt rfl fun r2 hr2=>Zz 2 ?_))
    cases r2
    · skip
      refine Zz 12 ?_
      exact J_ Tryz.results177 () (f_ rfl (by simp[jr_, *])) (.refl _) zt
    · skip
      refine Zz 3 ?_
      refine S_ (nO_ _ (by assumption)) rfl (.refl _) zt rfl fun r3 hr3=>Zz 2 ?_
      cases r3
      · skip
        refine Zz 8 ?_
        exact J_ Tryz.results177 () (f_ rfl (by simp[jr_, *])) (.refl _) zt
      · skip
        refine Zz 3 ?_
        refine S_ (qa_ _) rfl (.refl _) zt rfl fun r4 hr4=>y_ rfl rfl (d_ (bj_ rfl) rfl (Zz 5 ?_))
        exact J_ Tryz.results177 () (f_ rfl (by simp[jr_, *])) (.refl _) zt
theorem gQ_ (s:Str) (hs:s.length≤140737488351232) :
    Fn0 Tryz.prog 178 #[str s] (.bool (cP_ s)):=by
  refine t_ Tryz.func178 rfl rfl Tryz.ntmps178 rfl fun v0=>?_
  refine Zz 8 ?_
  refine d_ (bR_ H_ rfl) rfl ?_
  refine Zi 0 (fun hr1=>?_) fun hr1=>?_
  · skip
    refine Zz 18 ?_
    exact J_ Tryz.results178 () (f_ rfl (by subst_vars;rw[Bool.eq_iff_iff];simp[cP_]<;>simp at*<;> omega)) (.refl _) zt
  · skip
    refine Zz 4 ?_
    refine d_ (bR_ H_ rfl) rfl (y_ rfl rfl ?_)
    refine Zi 0 (fun hr2=>?_) fun hr2=>?_
    · skip
      refine Zz 14 ?_
      exact J_ Tryz.results178 () (f_ rfl (by subst_vars;rw[Bool.eq_iff_iff];simp[cP_]<;>simp at*<;> omega)) (.refl _) zt
    · skip
      obtain⟨c,t,rfl⟩:=List.exists_cons_of_length_pos (l:=s) (by omega)
      refine Zz 5 ?_
      refine d_ (ch_ H_ rfl rfl (by decide) rfl) rfl (y_ rfl rfl ?_)
      refine Zi 0 (fun hr3=>?_) fun hr3=>?_
      · skip
        refine Zz 9 ?_
        exact J_ Tryz.results178 () (f_ rfl (by subst_vars;rw[Bool.eq_iff_iff];simp[cP_]<;>simp at*<;> omega)) (.refl _) zt
      · skip
        refine Zz 5 ?_
        refine S_ (nO_ _ (by assumption)) rfl (.refl _) zt rfl fun r4 hr4=>Zz 5 ?_
        exact J_ Tryz.results178 () (f_ rfl (by subst_vars;rw[Bool.eq_iff_iff];simp[cP_]<;>simp at*<;> omega)) (.refl _) zt
theorem jy_ (s:Str) (c:UInt8):Fn0 Tryz.prog 241 #[str s,str [c]] (.int .i64 (Lib.indexByte s c)) :=
  gV_ (callable Tryz.func241 rfl rfl) fun w=>(Tryz.stringslite_Index_one ⟨s.toArray⟩ c w).mono (by rintro e w' ⟨rfl,rfl⟩;exact⟨rfl,rfl,rfl,rfl,rfl,Nat.le_refl _⟩)
theorem mz_ (s:Str) (c:UInt8) (hk:ixS c s=none):Fn0 Tryz.prog 241 #[str s,str [c]] (.int .i64 (-1)):=by
  have h:=jy_ s c
  rw[jO_,hk]at h
  exact h
theorem my_ (s:Str) (c:UInt8) (k:Nat) (hk:ixS c s=some k):Fn0 Tryz.prog 241 #[str s,str [c]] (.int .i64 (k:Int)):=by
  have h:=jy_ s c
  rw[jO_,hk]at h
  exact h
theorem qo_ (s:Str) (c:UInt8) (hk:ixS c s=none) :
    Fn0 Tryz.prog 205 #[str s,str [c]] (.tuple #[str s,str [],.bool false]):=by
  refine t_ Tryz.func205 rfl rfl Tryz.ntmps205 rfl fun v0=>?_
  refine Zz 12 ?_
  refine q_ (mz_ s c hk) rfl (.refl _) zt rfl fun _=>Zi 6 (fun hr1=>?_) fun hr1=>?_
  · skip
    refine Zz 14 ?_
    exact rk_ Tryz.results205 () rfl rfl rfl rfl (.refl _) zt
  · skip
    exact absurd hr1 (by decide)
theorem qn_ (s:Str) (c:UInt8) (k:Nat) (hk:ixS c s=some k) (hl:k<s.length) (hs:s.length≤140737488351232) :
    Fn0 Tryz.prog 205 #[str s,str [c]] (.tuple #[str (s.take k),str (s.drop (k+1)),.bool true]):=by
  refine t_ Tryz.func205 rfl rfl Tryz.ntmps205 rfl fun v0=>?_
  refine Zz 12 ?_
  refine q_ (my_ s c k hk) rfl (.refl _) zt rfl fun _=>Zi 6 (fun hr1=>?_) fun hr1=>?_
  · skip
    exact absurd (by omega) hr1
  · skip
    refine Zz 5 ?_
    refine n_ 0 [0,1,2,3,4,5,6,7,8,9,10,11] zk zs (Zz 2 ?_)
    refine Z_ rfl (eM_ (i:=0) (j:=k) (kl:=.i64) H_ rfl rfl rfl (by omega) (by omega)) rfl (Zz 3 ?_)
    refine Z_ rfl (bR_ H_ rfl) rfl ?_
    refine Z_ rfl (bC_ rfl rfl rfl (cZ_ (by simp only[List.length_cons,List.length_nil];omega) (by simp only[List.length_cons,List.length_nil];omega))) rfl ?_
    refine Z_ rfl (eM_ (i:=k+1) (j:=s.length) (kh:=.i64) H_ rfl rfl rfl (by omega) (by omega)) rfl (Zz 7 ?_)
    exact rk_ Tryz.results205 () rfl rfl rfl (by simp[List.take_of_length_le]) (.refl _) zt
theorem sc_ (s:Str) (c:UInt8) (hk:ixS c s=none) :
    Fn0 Tryz.prog 176 #[str s,str [c]] (.tuple #[str s,str [],.bool false]):=by
  refine t_ Tryz.func176 rfl rfl Tryz.ntmps176 rfl fun v0=>?_
  refine Zz 11 ?_
  refine q_ (qo_ s c hk) rfl (.refl _) zt rfl fun _=>Zz 9 ?_
  exact rk_ Tryz.results176 () rfl rfl rfl rfl (.refl _) zt
theorem mx_ (s:Str) (hk:ixS 58 s=none) :
    Fn0 Tryz.prog 122 #[str s] (.bool (cE_ s)):=by
  refine t_ Tryz.func122 rfl rfl Tryz.ntmps122 rfl fun v0=>?_
  refine Zz 9 ?_
  refine d_ (bR_ H_ rfl) rfl ?_
  refine Zi 0 (fun hr1=>?_) fun hr1=>?_
  · skip
    refine Zz 8 ?_
    refine q_ (sc_ s 58 hk) rfl (.refl _) zt rfl fun _=>Zz 12 ?_
    refine S_ (kH_ _ (by first|omega|(simp;omega))) rfl (.refl _) zt rfl fun r2 hr2=>?_
    refine Zz 1 ?_
    cases r2
    · skip
      refine Zz 11 ?_
      exact J_ jb_ () (f_ rfl (by simp[cE_, *]<;>omega)) (.refl _) zt
    · skip
      refine Zz 3 ?_
      refine d_ (bj_ rfl) rfl (Zz 11 ?_)
      exact J_ jb_ () (f_ rfl (by simp[cE_, *]<;>omega)) (.refl _) zt
  · skip
    refine Zz 9 ?_
    exact J_ jb_ () (f_ rfl (by simp[cE_, *]<;>omega)) (.refl _) zt
theorem sb_ (s:Str) (c:UInt8) (k:Nat) (hk:ixS c s=some k) (hl:k<s.length) (hs:s.length≤140737488351232) :
    Fn0 Tryz.prog 176 #[str s,str [c]] (.tuple #[str (s.take k),str (s.drop (k+1)),.bool true]):=by
  refine t_ Tryz.func176 rfl rfl Tryz.ntmps176 rfl fun v0=>?_
  refine Zz 11 ?_
  refine q_ (qn_ s c k hk hl hs) rfl (.refl _) zt rfl fun _=>Zz 9 ?_
  exact rk_ Tryz.results176 () rfl rfl rfl rfl (.refl _) zt
theorem mw_ (s:Str) (k:Nat) (hk:ixS 58 s=some k) (hl:k<s.length) :
    Fn0 Tryz.prog 122 #[str s] (.bool (cE_ s)):=by
  refine t_ Tryz.func122 rfl rfl Tryz.ntmps122 rfl fun v0=>?_
  refine Zz 9 ?_
  refine d_ (bR_ H_ rfl) rfl ?_
  refine Zi 0 (fun hr1=>?_) fun hr1=>?_
  · skip
    refine Zz 8 ?_
    refine q_ (sb_ s 58 k hk hl (by omega)) rfl (.refl _) zt rfl fun _=>Zz 12 ?_
    refine S_ (kH_ _ (by first|omega|(simp;omega))) rfl (.refl _) zt rfl fun r2 hr2=>?_
    refine Zz 1 ?_
    cases r2
    · skip
      refine Zz 11 ?_
      exact J_ jb_ () (f_ rfl (by simp[cE_, *]<;>omega)) (.refl _) zt
    · skip
      refine Zz 3 ?_
      refine d_ (bj_ rfl) rfl (Zz 5 ?_)
      refine S_ (kH_ _ (by first|omega|(simp;omega))) rfl (.refl _) zt rfl fun r3 hr3=>?_
      refine Zz 7 ?_
      exact J_ jb_ () (f_ rfl (by simp[cE_, *]<;>omega)) (.refl _) zt
  · skip
    refine Zz 9 ?_
    exact J_ jb_ () (f_ rfl (by simp[cE_, *]<;>omega)) (.refl _) zt
theorem gs_ (s:Str):Fn0 Tryz.prog 122 #[str s] (.bool (cE_ s)):=by
  cases hk:ixS 58 s with
  | none=>exact mx_ s hk
  | some k=>exact mw_ s k hk (oz_ hk)
theorem fX_ (s:Str) (hs:s.length≤140737488351232) :
    Fn0 Tryz.prog 123 #[str s] (.int .i64 (if bm_ s then 0 else 20)):=by
  refine t_ Tryz.func123 rfl rfl Tryz.ntmps123 rfl fun v0=>?_
  refine Zz 9 ?_
  refine S_ (gs_ _) rfl (.refl _) zt rfl fun r1 hr1=>Zz 1 ?_
  cases r1
  · skip
    refine Zz 3 ?_
    refine S_ (gQ_ _ hs) rfl (.refl _) zt rfl fun r2 hr2=>Zz 3 ?_
    cases r2
    · skip
      refine Zz 9 ?_
      exact J_ Tryz.results123 () (au_ rfl (by simp[bm_, *])) (.refl _) zt
    · skip
      refine Zz 7 ?_
      exact J_ Tryz.results123 () (au_ rfl (by simp[bm_, *])) (.refl _) zt
  · skip
    refine Zz 12 ?_
    exact J_ Tryz.results123 () (au_ rfl (by simp[bm_, *])) (.refl _) zt
theorem dZ_ (s:Str) (hs:s.length≤140737488351232) :
    Fn0 Tryz.prog 85 #[str s] (.bool (bm_ s)):=by
  refine t_ Tryz.func85 rfl rfl Tryz.ntmps85 rfl fun v0=>?_
  refine Zz 8 ?_
  refine q_ (fX_ s hs) rfl (.refl _) zt rfl fun _=>O_ (bf_ rfl rfl) rfl fun r1 hr1=>Zz 4 ?_
  exact J_ Tryz.results85 () (f_ rfl (by subst_vars;cases bm_ s<;>rfl)) (.refl _) zt
end Go.Proofs.YtaffcjgphlhppaaGreatDoor
namespace Go.Proofs.YtaffcjgphlhppaaGreatDoor
open Go Go.Sx Go.Proofs
attribute [local irreducible] Code.wp wpList wpAnyH
open Go.Vs
theorem fits_c:∀ (m:Nat) (c:Con),c.sz≤m→c.ok→∀ (d n bs:Nat),d≤9→n≤64→∀ r,c.fits d n=r →
    Tri Tryz.prog 124 #[c.val,.int .i64 (d:Int),zp_ bs 0] [(bs,.cells #[.int .i64 (n:Int)] 3 (0,0))] [c.memF] (fun _:Unit=>.bool r.1) (fun _=>[(bs,.cells #[.int .i64 (r.2:Int)] 3 (0,0))]) (fun _=>[]):=by
  intro m
  induction m with
  | zero=>intro c h;have:=c.sz_pos;omega
  | succ m ih =>
    intro c hm hok d n bs hd hn r hr
    obtain⟨k,nm,lo,hi,ad,cap,ps⟩:=c
    have hlen:=Con.ok_len hok
    simp only[Con.parts,Con.cap]at hlen
    refine t_ Tryz.func124 rfl rfl Tryz.ntmps124 rfl fun v0=>?_
    refine s_ ?_
    refine m_ ?_
    refine ag_ rfl rfl fun b1=>?_
    refine d_ (z_ rfl) rfl ?_
    refine p_ ?_
    refine l_ rfl ?_
    refine s_ ?_
    refine m_ ?_
    refine d_ (V_ rfl) rfl ?_
    refine d_ (dU_ rfl) rfl ?_
    refine d_ (ak_ 1 aK_ rfl rfl rfl) rfl ?_
    refine d_ (bC_ rfl rfl rfl (cZ_ (by omega) (by omega))) rfl ?_
    refine d_ (dU_ rfl) rfl ?_
    refine w_ 1 aq_ rfl rfl rfl rfl rfl rfl ?_
    refine p_ ?_
    refine l_ rfl ?_
    refine s_ ?_
    refine s_ ?_
    refine m_ ?_
    refine d_ (V_ rfl) rfl ?_
    refine O_ (dl_ rfl rfl) rfl fun r1 hr1=>?_
    refine d_ (V_ rfl) rfl ?_
    cases r1
    · skip
      replace hr1:=of_decide_eq_false hr1
      try dsimp only[Con.kind,Con.parts,Con.name,Con.lo,Con.hi,Con.cap,Con.ad]at hr1
      refine y_ rfl rfl ?_
      refine d_ (V_ rfl) rfl ?_
      refine y_ rfl rfl ?_
      refine d_ (dU_ rfl) rfl ?_
      refine y_ rfl rfl ?_
      refine d_ (ak_ 1 aK_ rfl rfl rfl) rfl ?_
      refine y_ rfl rfl ?_
      refine O_ (dl_ rfl rfl) rfl fun r2 hr2=>?_
      refine d_ (aX_ rfl rfl) rfl ?_
      refine p_ ?_
      refine l_ rfl ?_
      cases r2
      · skip
        replace hr2:=of_decide_eq_false hr2
        try dsimp only[Con.kind,Con.parts,Con.name,Con.lo,Con.hi,Con.cap,Con.ad]at hr2
        have hc0:¬ (8<d∨64<n+1):=by omega
        refine U_ rfl ?_
        refine aw_ ?_
        refine l_ rfl ?_
        refine s_ ?_
        refine s_ ?_
        refine m_ ?_
        refine d_ (R_ aU_ rfl rfl rfl tW_) rfl ?_
        refine d_ (ak_ 0 Tryz.isAgg54 rfl rfl rfl) rfl ?_
        refine d_ (dc_ bd_ rfl) rfl ?_
        refine d_ (V_ rfl) rfl ?_
        refine p_ ?_
        refine l_ rfl ?_
        refine cc_ ?_
        refine dA_ [(1,.int .i64 (d:Int)),(2,zp_ bs 0),(23,.slice ad ps.length cap),(24,.int .i64 (ps.length:Int)),(25,.int .i64 ((0:Nat):Int))] ⟨rfl,rfl,rfl,rfl,rfl,trivial⟩ ?_
        refine dO_ (ι:={q:Nat×Nat // q.1≤ps.length∧Con.fits.fitss (ps.take q.1) (d+1) (n+1)=(true,q.2)∧q.2≤64}) (fun i=>[(1,.int .i64 (d:Int)),(2,zp_ bs 0),(23,.slice ad ps.length cap),(24,.int .i64 (ps.length:Int)),(25,.int .i64 (i.1.1:Int))]) (fun i=>[_,(bs,.cells #[.int .i64 (i.1.2:Int)] 3 (0,0))]) (fun _=>_) (fun i=>ps.length - i.1.1) ⟨(0,n+1),by simp[Con.fits.fitss];omega⟩ ?_
        rintro ⟨⟨i,m1⟩,hk⟩
        refine dA_ [(1,.int .i64 (d:Int)),(2,zp_ bs 0),(23,.slice ad ps.length cap),(24,.int .i64 (ps.length:Int)),(25,.int .i64 (i:Int))] ⟨rfl,rfl,rfl,rfl,rfl,trivial⟩ ?_
        refine s_ ?_
        refine m_ ?_
        refine O_ (db_ rfl rfl) rfl fun r3 hr3=>?_
        refine p_ ?_
        refine l_ rfl ?_
        refine s_ ?_
        cases r3
        · skip
          replace hr3:=of_decide_eq_false hr3
          try dsimp only[Con.kind,Con.parts,Con.name,Con.lo,Con.hi,Con.cap,Con.ad]at hr3
          refine U_ rfl ?_
          refine go_ rfl ?_
          refine l_ rfl ?_
          refine s_ ?_
          refine m_ ?_
          refine d_ (z_ rfl) rfl ?_
          refine p_ ?_
          refine l_ rfl ?_
          refine ar_ ?_
          obtain rfl:r=(true,m1):=by rw[← hr];exact Con.fits_yes hc0 (by omega) hk.2.1
          exact J_ Tryz.results124 () rfl (fn_ (i:=1) rfl) (fun _ _ _=>trivial)
        · skip
          replace hr3:=of_decide_eq_true hr3
          try dsimp only[Con.kind,Con.parts,Con.name,Con.lo,Con.hi,Con.cap,Con.ad]at hr3
          have hlt:i<ps.length:=by omega
          obtain⟨p,hp⟩:∃ p,ps[i]? = some p:=⟨_,List.getElem?_eq_getElem hlt⟩
          have hpm:p∈ps:=List.mem_of_getElem? hp
          refine L_ rfl ?_
          refine aw_ ?_
          refine l_ rfl ?_
          refine s_ ?_
          refine cc_ ?_
          refine s_ ?_
          refine m_ ?_
          refine d_ (X_ bd_ F_ rfl rfl (fun v _ h=>Con.row_addr (c:=.mk k nm lo hi ad cap ps) h.1 hp) (by omega) (by omega)) rfl ?_
          refine d_ (aA_ (us:=p.cells) aB_ F_ rfl (fun v _ h=>((Con.mem_iff (.mk k nm lo hi ad cap ps) v).1 h.1).1) p.cells_len (Con.part_cells (c:=.mk k nm lo hi ad cap ps) (i:=i) hp)) rfl ?_
          refine C_ Tryz.zeroValue56 rfl fun b2=>?_
          refine ks_ 0 F_ rfl rfl rfl rfl ?_
          refine p_ ?_
          refine l_ rfl ?_
          refine s_ ?_
          refine m_ ?_
          refine d_ (eN_ 0 aB_ F_ rfl rfl) rfl ?_
          refine d_ (V_ rfl) rfl ?_
          refine d_ (bC_ rfl rfl rfl (cZ_ (by omega) (by omega))) rfl ?_
          refine d_ (V_ rfl) rfl ?_
          refine kv_ 2 (ih p (by have:=Con.sz_part (c:=.mk k nm lo hi ad cap ps) hpm;omega) (Con.ok_part (c:=.mk k nm lo hi ad cap ps) hok hpm) (d+1) m1 bs (by omega) hk.2.2 _ rfl) rfl rfl (fun v _ h=>⟨Con.mem_part (c:=.mk k nm lo hi ad cap ps) h.1 hpm,trivial⟩) rfl fun r4 hr4=>?_
          refine d_ (bj_ rfl) rfl ?_
          refine p_ ?_
          refine l_ rfl ?_
          cases r4
          · skip
            try dsimp only[Con.kind,Con.parts,Con.name,Con.lo,Con.hi,Con.cap,Con.ad]at hr4
            refine L_ rfl ?_
            refine s_ ?_
            refine m_ ?_
            refine d_ (z_ rfl) rfl ?_
            refine p_ ?_
            refine l_ rfl ?_
            refine ar_ ?_
            obtain rfl:r=(false,(p.fits (d+1) m1).2):=by rw[← hr];exact Con.fits_no hc0 hp hk.2.1 (by assumption)
            exact J_ Tryz.results124 () rfl (fn_ (i:=2) rfl) (fun _ _ _=>trivial)
          · skip
            try dsimp only[Con.kind,Con.parts,Con.name,Con.lo,Con.hi,Con.cap,Con.ad]at hr4
            refine U_ rfl ?_
            refine aw_ ?_
            refine l_ rfl ?_
            refine m_ ?_
            refine d_ (bC_ rfl rfl rfl (cZ_ (by omega) (by omega))) rfl ?_
            refine d_ (V_ rfl) rfl ?_
            refine p_ ?_
            refine aD_ rfl ?_
            exact Q_ ⟨(i+1,(p.fits (d+1) m1).2),hlt,Con.fitss_step hp hk.2.1 (by assumption)⟩ (by simp;omega) ⟨rfl,rfl,rfl,rfl,rfl,trivial⟩ (@List.perm_append_comm _ [_] _) (fun _ _ h=>h)
      · skip
        replace hr2:=of_decide_eq_true hr2
        try dsimp only[Con.kind,Con.parts,Con.name,Con.lo,Con.hi,Con.cap,Con.ad]at hr2
        refine L_ rfl ?_
        refine s_ ?_
        refine m_ ?_
        refine d_ (z_ rfl) rfl ?_
        refine p_ ?_
        refine l_ rfl ?_
        refine ar_ ?_
        obtain rfl:r=(false,n+1):=by rw[← hr,Con.fits_eq];simp<;>omega
        exact J_ Tryz.results124 () rfl (fn_ (i:=1) rfl) (fun _ _ _=>trivial)
    · skip
      replace hr1:=of_decide_eq_true hr1
      try dsimp only[Con.kind,Con.parts,Con.name,Con.lo,Con.hi,Con.cap,Con.ad]at hr1
      refine W_ rfl rfl rfl rfl ?_
      refine W_ rfl rfl rfl rfl ?_
      refine W_ rfl rfl rfl rfl ?_
      refine W_ rfl rfl rfl rfl ?_
      refine d_ (aW_ rfl rfl) rfl ?_
      refine p_ ?_
      refine l_ rfl ?_
      refine L_ rfl ?_
      refine s_ ?_
      refine m_ ?_
      refine d_ (z_ rfl) rfl ?_
      refine p_ ?_
      refine l_ rfl ?_
      refine ar_ ?_
      obtain rfl:r=(false,n+1):=by rw[← hr,Con.fits_eq];simp<;>omega
      exact J_ Tryz.results124 () rfl (fn_ (i:=1) rfl) (fun _ _ _=>trivial)
end Go.Proofs.YtaffcjgphlhppaaGreatDoor
namespace Go.Proofs.YtaffcjgphlhppaaGreatDoor
open Go Go.Sx Go.Proofs
attribute [local irreducible] Code.wp wpList wpAnyH
open Go.Vs
def rq_ (v:Vw):Prop:=v.sl∧v.im 6∧∃ T fz,v.w.heap[6]? = some (.cells (Lib.pow10Tab.map fun z=>Value.int .u64 z).toArray T fz)
theorem or_ {v v':Vw} (h:v.le v') (hp:rq_ v):rq_ v':=by
  obtain⟨h0,h1,T,fz,h2⟩:=hp
  exact⟨by rw[h.sl];exact h0,h.imUp _ h1,T,fz,by rw[h.block _ h1];exact h2⟩
def iv_:Fct where
  p:=fun v=>bE_ v (some ⟨2,0,none⟩) (nC_.flatMap pg_)∧bE_ v (some ⟨0,0,none⟩) (sz_.flatMap Use.cells)∧bE_ v (some ⟨1,0,none⟩) (pf_.flatMap NUse.cells)∧rq_ v
  mono:=fun v v' h hp=>⟨(at_ _ _).mono v v' h hp.1,(at_ _ _).mono v v' h hp.2.1,(at_ _ _).mono v v' h hp.2.2.1,or_ h hp.2.2.2⟩
def ia_:Fct:=at_ (some ⟨1,0,none⟩) (pf_.flatMap NUse.cells)
end Go.Proofs.YtaffcjgphlhppaaGreatDoor
namespace Go.Proofs.YtaffcjgphlhppaaGreatDoor
open Go Go.Sx Go.Proofs
attribute [local irreducible] Code.wp wpList wpAnyH
open Go.Vs
theorem li_ (c:Con) (hok:c.ok):Tri Tryz.prog 126 #[c.val] [] [iv_] (fun _:Unit=>.int .i64 c.fieldErr) (fun _=>[]) (fun _=>[]):=by
 obtain⟨k,nm,lo,hi,ad,cap,ps⟩:=c
 have hlen:=Con.ok_len hok
 simp only[Con.parts,Con.cap]at hlen
 refine t_ Tryz.func126 rfl rfl Tryz.ntmps126 rfl fun v0=>?_
 refine Zz 2 ?_
 refine ag_ rfl rfl fun b1=>Zz 8 ?_
 refine O_ (db_ rfl rfl) rfl fun r1 hr1=>Zz 1 ?_
 refine aL_ 4 ((decide (k<1))||(decide (7<k))) (fun r=>[(0,.agg #[.int .i64 k,str nm,.int .i64 lo,.int .i64 hi,.slice ad ps.length cap]),(1,zp_ b1 0),(2,.int .i64 0),(11,.bool r)]) ?_ fun r2 hr2=>?_
 ·cases r1
  ·have qr2:=hr1
   replace hr1:=zdf hr1
   try dsimp only[Con.kind,Con.parts,Con.name,Con.lo,Con.hi,Con.cap,Con.ad]at hr1
   refine Zz 5 ?_
   refine O_ (dl_ rfl rfl) rfl fun r3 hr3=>Zz 3 ?_
   exact met ⟨rfl,rfl,rfl,(f_ rfl (jof qr2 hr3)),trivial⟩
  have qr2:=hr1
  replace hr1:=zdt hr1
  try dsimp only[Con.kind,Con.parts,Con.name,Con.lo,Con.hi,Con.cap,Con.ad]at hr1
  refine Zz 6 ?_
  exact met ⟨rfl,rfl,rfl,(f_ rfl (jot qr2)),trivial⟩
 refine Zz 2 ?_
 cases r2
 ·simp at hr2
  try dsimp only[Con.kind,Con.parts,Con.name,Con.lo,Con.hi,Con.cap,Con.ad]at hr2
  obtain⟨x,hx⟩:∃ x,nC_[k.toNat]? = some x:=⟨_,List.getElem?_eq_getElem (show k.toNat<8 by omega)⟩
  have hnd:nd k=x:=by simp[nd,hx]
  obtain⟨x1,x2,x3,xb⟩:=x
  refine Zz 7 ?_
  refine d_ (dM_ Tryz.runUnderlying216 Tryz.sizeOf215 rfl rfl (by show (0:Int)≤k;omega) (by show k<(8:Int);omega)) rfl ?_
  refine d_ (aA_ (ad:=some ⟨2,0,none⟩) (k:=k.toNat*4) (us:=pg_ (x1,x2,x3,xb)) Tryz.isAgg215 Tryz.sizeOf215 rfl (fun v _ h=>h.1.1) (jc_ _) (fun j y hj=>by rw[jk_ pg_ 4 jc_ nC_ k.toNat j _ hx (by have:=(List.getElem?_eq_some_iff.1 hj).1;rwa [jc_]at this)];exact hj)) rfl ?_
  refine C_ Tryz.zeroValue215 rfl fun b2=>w_ 0 Tryz.sizeOf215 rfl rfl rfl rfl rfl rfl (Zz 10 ?_)
  refine O_ (db_ rfl rfl) rfl fun r4 hr4=>Zz 1 ?_
  refine aL_ 7 ((decide ((ps.length:Int)<x2))||(decide (x3<(ps.length:Int)))) (fun r=>[(0,.agg #[.int .i64 k,str nm,.int .i64 lo,.int .i64 hi,.slice ad ps.length cap]),(1,zp_ b1 0),(2,.int .i64 0),(11,.bool false),(12,zp_ b1 0),(13,.int .i64 k),(14,.pointer (some (rad (some ⟨2,0,none⟩) (k.toNat*4)))),(15,.agg #[.int .i64 x1,.int .i64 x2,.int .i64 x3,.bool xb]),(3,zp_ b2 0),(29,.bool r)]) ?_ fun r5 hr5=>?_
  ·cases r4
   ·have qr5:=hr4
    replace hr4:=zdf hr4
    try dsimp only[Con.kind,Con.parts,Con.name,Con.lo,Con.hi,Con.cap,Con.ad]at hr4
    refine Zz 11 ?_
    refine O_ (dl_ rfl rfl) rfl fun r6 hr6=>Zz 3 ?_
    exact met ⟨rfl,rfl,rfl,rfl,rfl,rfl,rfl,rfl,rfl,(f_ rfl (jof qr5 hr6)),trivial⟩
   have qr5:=hr4
   replace hr4:=zdt hr4
   try dsimp only[Con.kind,Con.parts,Con.name,Con.lo,Con.hi,Con.cap,Con.ad]at hr4
   refine Zz 9 ?_
   exact met ⟨rfl,rfl,rfl,rfl,rfl,rfl,rfl,rfl,rfl,(f_ rfl (jot qr5)),trivial⟩
  refine Zz 1 ?_
  refine aL_ 9 ((((decide ((ps.length:Int)<x2))||(decide (x3<(ps.length:Int)))))||(((x1==0)&&(nm != [])))) (fun r=>[(0,.agg #[.int .i64 k,str nm,.int .i64 lo,.int .i64 hi,.slice ad ps.length cap]),(1,zp_ b1 0),(2,.int .i64 0),(11,.bool false),(12,zp_ b1 0),(13,.int .i64 k),(14,.pointer (some (rad (some ⟨2,0,none⟩) (k.toNat*4)))),(15,.agg #[.int .i64 x1,.int .i64 x2,.int .i64 x3,.bool xb]),(3,zp_ b2 0),(39,.bool r)]) ?_ fun r7 hr7=>?_
  ·cases r5
   ·have qr7:=hr5
    simp at hr5
    try dsimp only[Con.kind,Con.parts,Con.name,Con.lo,Con.hi,Con.cap,Con.ad]at hr5
    refine Zz 5 ?_
    refine O_ (bf_ rfl rfl) rfl fun r8 hr8=>Zz 2 ?_
    refine aL_ 4 ((x1==0)&&(nm != [])) (fun r=>[(0,.agg #[.int .i64 k,str nm,.int .i64 lo,.int .i64 hi,.slice ad ps.length cap]),(1,zp_ b1 0),(2,.int .i64 0),(11,.bool false),(12,zp_ b1 0),(13,.int .i64 k),(14,.pointer (some (rad (some ⟨2,0,none⟩) (k.toNat*4)))),(15,.agg #[.int .i64 x1,.int .i64 x2,.int .i64 x3,.bool xb]),(3,zp_ b2 0),(30,.bool false),(38,.bool r)]) ?_ fun r9 hr9=>?_
    ·cases r8
     ·have qr9:=hr8
      replace hr8:=znb hr8
      try dsimp only[Con.kind,Con.parts,Con.name,Con.lo,Con.hi,Con.cap,Con.ad]at hr8
      refine Zz 7 ?_
      exact met ⟨rfl,rfl,rfl,rfl,rfl,rfl,rfl,rfl,rfl,rfl,(f_ rfl (jaf qr9)),trivial⟩
     have qr9:=hr8
     replace hr8:=zeb hr8
     try dsimp only[Con.kind,Con.parts,Con.name,Con.lo,Con.hi,Con.cap,Con.ad]at hr8
     refine Zz 5 ?_
     refine O_ (im_ rfl rfl) rfl fun r10 hr10=>Zz 4 ?_
     exact met ⟨rfl,rfl,rfl,rfl,rfl,rfl,rfl,rfl,rfl,rfl,(f_ rfl (jat qr9 hr10)),trivial⟩
    refine Zz 3 ?_
    exact met ⟨rfl,rfl,rfl,rfl,rfl,rfl,rfl,rfl,rfl,(f_ rfl (jof qr7 hr9)),trivial⟩
   have qr7:=hr5
   simp at hr5
   try dsimp only[Con.kind,Con.parts,Con.name,Con.lo,Con.hi,Con.cap,Con.ad]at hr5
   refine Zz 11 ?_
   exact met ⟨rfl,rfl,rfl,rfl,rfl,rfl,rfl,rfl,rfl,(f_ rfl (jot qr7)),trivial⟩
  refine Zz 2 ?_
  cases r7
  ·simp at hr7
   try dsimp only[Con.kind,Con.parts,Con.name,Con.lo,Con.hi,Con.cap,Con.ad]at hr7
   refine Zz 10 ?_
   cases xb
   ·try dsimp only[Con.kind,Con.parts,Con.name,Con.lo,Con.hi,Con.cap,Con.ad]at hxb
    refine Zz 5 ?_
    refine O_ (cg_ rfl rfl) rfl fun r11 hr11=>Zz 1 ?_
    refine aL_ 4 ((lo != 0)||(hi != 0)) (fun r=>[(0,.agg #[.int .i64 k,str nm,.int .i64 lo,.int .i64 hi,.slice ad ps.length cap]),(1,zp_ b1 0),(2,.int .i64 0),(11,.bool false),(12,zp_ b1 0),(13,.int .i64 k),(14,.pointer (some (rad (some ⟨2,0,none⟩) (k.toNat*4)))),(15,.agg #[.int .i64 x1,.int .i64 x2,.int .i64 x3,.bool false]),(3,zp_ b2 0),(39,.bool false),(40,zp_ b2 3),(41,.bool false),(64,.bool r)]) ?_ fun r12 hr12=>?_
    ·cases r11
     ·have qr12:=hr11
      replace hr11:=et_ hr11
      try dsimp only[Con.kind,Con.parts,Con.name,Con.lo,Con.hi,Con.cap,Con.ad]at hr11
      refine Zz 5 ?_
      refine O_ (cg_ rfl rfl) rfl fun r13 hr13=>Zz 3 ?_
      exact met ⟨rfl,rfl,rfl,rfl,rfl,rfl,rfl,rfl,rfl,rfl,rfl,rfl,(f_ rfl (jof qr12 hr13)),trivial⟩
     have qr12:=hr11
     replace hr11:=eo_ hr11
     try dsimp only[Con.kind,Con.parts,Con.name,Con.lo,Con.hi,Con.cap,Con.ad]at hr11
     refine Zz 6 ?_
     exact met ⟨rfl,rfl,rfl,rfl,rfl,rfl,rfl,rfl,rfl,rfl,rfl,rfl,(f_ rfl (jot qr12)),trivial⟩
    refine Zz 2 ?_
    cases r12
    ·simp at hr12
     try dsimp only[Con.kind,Con.parts,Con.name,Con.lo,Con.hi,Con.cap,Con.ad]at hr12
     refine Zz 8 ?_
     refine O_ (bf_ rfl rfl) rfl fun r14 hr14=>Zz 1 ?_
     refine aL_ 4 ((x1==0)||(cE_ nm)) (fun r=>[(0,.agg #[.int .i64 k,str nm,.int .i64 lo,.int .i64 hi,.slice ad ps.length cap]),(1,zp_ b1 0),(2,.int .i64 0),(11,.bool false),(12,zp_ b1 0),(13,.int .i64 k),(14,.pointer (some (rad (some ⟨2,0,none⟩) (k.toNat*4)))),(15,.agg #[.int .i64 x1,.int .i64 x2,.int .i64 x3,.bool false]),(3,zp_ b2 0),(39,.bool false),(40,zp_ b2 3),(41,.bool false),(64,.bool false),(72,.bool r)]) ?_ fun r15 hr15=>?_
     ·cases r14
      ·have qr15:=hr14
       replace hr14:=znb hr14
       try dsimp only[Con.kind,Con.parts,Con.name,Con.lo,Con.hi,Con.cap,Con.ad]at hr14
       refine Zz 5 ?_
       refine S_ (gs_ nm) rfl (.refl _) zt rfl fun r16 hr16=>Zz 3 ?_
       exact met ⟨rfl,rfl,rfl,rfl,rfl,rfl,rfl,rfl,rfl,rfl,rfl,rfl,rfl,(f_ rfl (jof qr15 hr16)),trivial⟩
      have qr15:=hr14
      replace hr14:=zeb hr14
      try dsimp only[Con.kind,Con.parts,Con.name,Con.lo,Con.hi,Con.cap,Con.ad]at hr14
      refine Zz 6 ?_
      exact met ⟨rfl,rfl,rfl,rfl,rfl,rfl,rfl,rfl,rfl,rfl,rfl,rfl,rfl,(f_ rfl (jot qr15)),trivial⟩
     refine Zz 1 ?_
     refine aL_ 9 ((((x1==0)||(cE_ nm)))||(((x1==2)&&(cP_ nm)))) (fun r=>[(0,.agg #[.int .i64 k,str nm,.int .i64 lo,.int .i64 hi,.slice ad ps.length cap]),(1,zp_ b1 0),(2,.int .i64 0),(11,.bool false),(12,zp_ b1 0),(13,.int .i64 k),(14,.pointer (some (rad (some ⟨2,0,none⟩) (k.toNat*4)))),(15,.agg #[.int .i64 x1,.int .i64 x2,.int .i64 x3,.bool false]),(3,zp_ b2 0),(39,.bool false),(40,zp_ b2 3),(41,.bool false),(64,.bool false),(82,.bool r)]) ?_ fun r17 hr17=>?_
     ·cases r15
      ·have qr17:=hr15
       simp at hr15
       try dsimp only[Con.kind,Con.parts,Con.name,Con.lo,Con.hi,Con.cap,Con.ad]at hr15
       refine Zz 5 ?_
       refine O_ (bf_ rfl rfl) rfl fun r18 hr18=>Zz 2 ?_
       refine aL_ 4 ((x1==2)&&(cP_ nm)) (fun r=>[(0,.agg #[.int .i64 k,str nm,.int .i64 lo,.int .i64 hi,.slice ad ps.length cap]),(1,zp_ b1 0),(2,.int .i64 0),(11,.bool false),(12,zp_ b1 0),(13,.int .i64 k),(14,.pointer (some (rad (some ⟨2,0,none⟩) (k.toNat*4)))),(15,.agg #[.int .i64 x1,.int .i64 x2,.int .i64 x3,.bool false]),(3,zp_ b2 0),(39,.bool false),(40,zp_ b2 3),(41,.bool false),(64,.bool false),(73,.bool false),(81,.bool r)]) ?_ fun r19 hr19=>?_
       ·cases r18
        ·have qr19:=hr18
         replace hr18:=znb hr18
         try dsimp only[Con.kind,Con.parts,Con.name,Con.lo,Con.hi,Con.cap,Con.ad]at hr18
         refine Zz 7 ?_
         exact met ⟨rfl,rfl,rfl,rfl,rfl,rfl,rfl,rfl,rfl,rfl,rfl,rfl,rfl,rfl,(f_ rfl (jaf qr19)),trivial⟩
        have qr19:=hr18
        replace hr18:=zeb hr18
        try dsimp only[Con.kind,Con.parts,Con.name,Con.lo,Con.hi,Con.cap,Con.ad]at hr18
        refine Zz 5 ?_
        refine S_ (gQ_ nm (Con.ok_name hok)) rfl (.refl _) zt rfl fun r20 hr20=>Zz 4 ?_
        exact met ⟨rfl,rfl,rfl,rfl,rfl,rfl,rfl,rfl,rfl,rfl,rfl,rfl,rfl,rfl,(f_ rfl (jat qr19 hr20)),trivial⟩
       refine Zz 3 ?_
       exact met ⟨rfl,rfl,rfl,rfl,rfl,rfl,rfl,rfl,rfl,rfl,rfl,rfl,rfl,(f_ rfl (jof qr17 hr19)),trivial⟩
      have qr17:=hr15
      simp at hr15
      try dsimp only[Con.kind,Con.parts,Con.name,Con.lo,Con.hi,Con.cap,Con.ad]at hr15
      refine Zz 11 ?_
      exact met ⟨rfl,rfl,rfl,rfl,rfl,rfl,rfl,rfl,rfl,rfl,rfl,rfl,rfl,(f_ rfl (jot qr17)),trivial⟩
     refine Zz 2 ?_
     cases r17
     ·simp at hr17
      try dsimp only[Con.kind,Con.parts,Con.name,Con.lo,Con.hi,Con.cap,Con.ad]at hr17
      refine Zz 9 ?_
      exact J_ fa_ () (au_ rfl (by unfold Con.fieldErr;simp only[Con.kind,Con.parts,Con.name,Con.lo,Con.hi];simp only[hnd];repeat (first|rfl|exact (if_pos (by omega)).symm|(rw[if_pos (by first|omega|(simp_all;done)|(simp_all;omega)|grind)];first|done|rfl)|(rw[if_neg (by first|omega|(simp_all;done)|(simp_all;omega)|grind)])))) (.refl _) zt
     simp at hr17
     try dsimp only[Con.kind,Con.parts,Con.name,Con.lo,Con.hi,Con.cap,Con.ad]at hr17
     refine Zz 7 ?_
     exact J_ fa_ () (au_ rfl (by unfold Con.fieldErr;simp only[Con.kind,Con.parts,Con.name,Con.lo,Con.hi];simp only[hnd];repeat (first|rfl|exact (if_pos (by omega)).symm|(rw[if_pos (by first|omega|(simp_all;done)|(simp_all;omega)|grind)];first|done|rfl)|(rw[if_neg (by first|omega|(simp_all;done)|(simp_all;omega)|grind)])))) (.refl _) zt
    simp at hr12
    try dsimp only[Con.kind,Con.parts,Con.name,Con.lo,Con.hi,Con.cap,Con.ad]at hr12
    refine Zz 7 ?_
    exact J_ fa_ () (au_ rfl (by unfold Con.fieldErr;simp only[Con.kind,Con.parts,Con.name,Con.lo,Con.hi];simp only[hnd];repeat (first|rfl|exact (if_pos (by omega)).symm|(rw[if_pos (by first|omega|(simp_all;done)|(simp_all;omega)|grind)];first|done|rfl)|(rw[if_neg (by first|omega|(simp_all;done)|(simp_all;omega)|grind)])))) (.refl _) zt
   try dsimp only[Con.kind,Con.parts,Con.name,Con.lo,Con.hi,Con.cap,Con.ad]at hxb
   refine Zz 5 ?_
   refine O_ (db_ rfl rfl) rfl fun r21 hr21=>Zz 1 ?_
   refine aL_ 6 ((decide (lo<(-1099511627776)))||(decide (hi<lo))) (fun r=>[(0,.agg #[.int .i64 k,str nm,.int .i64 lo,.int .i64 hi,.slice ad ps.length cap]),(1,zp_ b1 0),(2,.int .i64 0),(11,.bool false),(12,zp_ b1 0),(13,.int .i64 k),(14,.pointer (some (rad (some ⟨2,0,none⟩) (k.toNat*4)))),(15,.agg #[.int .i64 x1,.int .i64 x2,.int .i64 x3,.bool true]),(3,zp_ b2 0),(39,.bool false),(40,zp_ b2 3),(41,.bool true),(51,.bool r)]) ?_ fun r22 hr22=>?_
   ·cases r21
    ·have qr22:=hr21
     replace hr21:=zdf hr21
     try dsimp only[Con.kind,Con.parts,Con.name,Con.lo,Con.hi,Con.cap,Con.ad]at hr21
     refine Zz 9 ?_
     refine O_ (dl_ rfl rfl) rfl fun r23 hr23=>Zz 3 ?_
     exact met ⟨rfl,rfl,rfl,rfl,rfl,rfl,rfl,rfl,rfl,rfl,rfl,rfl,(f_ rfl (jof qr22 hr23)),trivial⟩
    have qr22:=hr21
    replace hr21:=zdt hr21
    try dsimp only[Con.kind,Con.parts,Con.name,Con.lo,Con.hi,Con.cap,Con.ad]at hr21
    refine Zz 8 ?_
    exact met ⟨rfl,rfl,rfl,rfl,rfl,rfl,rfl,rfl,rfl,rfl,rfl,rfl,(f_ rfl (jot qr22)),trivial⟩
   refine Zz 1 ?_
   refine aL_ 4 ((((decide (lo<(-1099511627776)))||(decide (hi<lo))))||(decide (1099511627776<hi))) (fun r=>[(0,.agg #[.int .i64 k,str nm,.int .i64 lo,.int .i64 hi,.slice ad ps.length cap]),(1,zp_ b1 0),(2,.int .i64 0),(11,.bool false),(12,zp_ b1 0),(13,.int .i64 k),(14,.pointer (some (rad (some ⟨2,0,none⟩) (k.toNat*4)))),(15,.agg #[.int .i64 x1,.int .i64 x2,.int .i64 x3,.bool true]),(3,zp_ b2 0),(39,.bool false),(40,zp_ b2 3),(41,.bool true),(56,.bool r)]) ?_ fun r24 hr24=>?_
   ·cases r22
    ·have qr24:=hr22
     simp at hr22
     try dsimp only[Con.kind,Con.parts,Con.name,Con.lo,Con.hi,Con.cap,Con.ad]at hr22
     refine Zz 5 ?_
     refine O_ (dl_ rfl rfl) rfl fun r25 hr25=>Zz 3 ?_
     exact met ⟨rfl,rfl,rfl,rfl,rfl,rfl,rfl,rfl,rfl,rfl,rfl,rfl,(f_ rfl (jof qr24 hr25)),trivial⟩
    have qr24:=hr22
    simp at hr22
    try dsimp only[Con.kind,Con.parts,Con.name,Con.lo,Con.hi,Con.cap,Con.ad]at hr22
    refine Zz 6 ?_
    exact met ⟨rfl,rfl,rfl,rfl,rfl,rfl,rfl,rfl,rfl,rfl,rfl,rfl,(f_ rfl (jot qr24)),trivial⟩
   refine Zz 2 ?_
   cases r24
   ·simp at hr24
    try dsimp only[Con.kind,Con.parts,Con.name,Con.lo,Con.hi,Con.cap,Con.ad]at hr24
    refine Zz 8 ?_
    refine O_ (bf_ rfl rfl) rfl fun r26 hr26=>Zz 1 ?_
    refine aL_ 4 ((x1==0)||(cE_ nm)) (fun r=>[(0,.agg #[.int .i64 k,str nm,.int .i64 lo,.int .i64 hi,.slice ad ps.length cap]),(1,zp_ b1 0),(2,.int .i64 0),(11,.bool false),(12,zp_ b1 0),(13,.int .i64 k),(14,.pointer (some (rad (some ⟨2,0,none⟩) (k.toNat*4)))),(15,.agg #[.int .i64 x1,.int .i64 x2,.int .i64 x3,.bool true]),(3,zp_ b2 0),(39,.bool false),(40,zp_ b2 3),(41,.bool true),(56,.bool false),(72,.bool r)]) ?_ fun r27 hr27=>?_
    ·cases r26
     ·have qr27:=hr26
      replace hr26:=znb hr26
      try dsimp only[Con.kind,Con.parts,Con.name,Con.lo,Con.hi,Con.cap,Con.ad]at hr26
      refine Zz 5 ?_
      refine S_ (gs_ nm) rfl (.refl _) zt rfl fun r28 hr28=>Zz 3 ?_
      exact met ⟨rfl,rfl,rfl,rfl,rfl,rfl,rfl,rfl,rfl,rfl,rfl,rfl,rfl,(f_ rfl (jof qr27 hr28)),trivial⟩
     have qr27:=hr26
     replace hr26:=zeb hr26
     try dsimp only[Con.kind,Con.parts,Con.name,Con.lo,Con.hi,Con.cap,Con.ad]at hr26
     refine Zz 6 ?_
     exact met ⟨rfl,rfl,rfl,rfl,rfl,rfl,rfl,rfl,rfl,rfl,rfl,rfl,rfl,(f_ rfl (jot qr27)),trivial⟩
    refine Zz 1 ?_
    refine aL_ 9 ((((x1==0)||(cE_ nm)))||(((x1==2)&&(cP_ nm)))) (fun r=>[(0,.agg #[.int .i64 k,str nm,.int .i64 lo,.int .i64 hi,.slice ad ps.length cap]),(1,zp_ b1 0),(2,.int .i64 0),(11,.bool false),(12,zp_ b1 0),(13,.int .i64 k),(14,.pointer (some (rad (some ⟨2,0,none⟩) (k.toNat*4)))),(15,.agg #[.int .i64 x1,.int .i64 x2,.int .i64 x3,.bool true]),(3,zp_ b2 0),(39,.bool false),(40,zp_ b2 3),(41,.bool true),(56,.bool false),(82,.bool r)]) ?_ fun r29 hr29=>?_
    ·cases r27
     ·have qr29:=hr27
      simp at hr27
      try dsimp only[Con.kind,Con.parts,Con.name,Con.lo,Con.hi,Con.cap,Con.ad]at hr27
      refine Zz 5 ?_
      refine O_ (bf_ rfl rfl) rfl fun r30 hr30=>Zz 2 ?_
      refine aL_ 4 ((x1==2)&&(cP_ nm)) (fun r=>[(0,.agg #[.int .i64 k,str nm,.int .i64 lo,.int .i64 hi,.slice ad ps.length cap]),(1,zp_ b1 0),(2,.int .i64 0),(11,.bool false),(12,zp_ b1 0),(13,.int .i64 k),(14,.pointer (some (rad (some ⟨2,0,none⟩) (k.toNat*4)))),(15,.agg #[.int .i64 x1,.int .i64 x2,.int .i64 x3,.bool true]),(3,zp_ b2 0),(39,.bool false),(40,zp_ b2 3),(41,.bool true),(56,.bool false),(73,.bool false),(81,.bool r)]) ?_ fun r31 hr31=>?_
      ·cases r30
       ·have qr31:=hr30
        replace hr30:=znb hr30
        try dsimp only[Con.kind,Con.parts,Con.name,Con.lo,Con.hi,Con.cap,Con.ad]at hr30
        refine Zz 7 ?_
        exact met ⟨rfl,rfl,rfl,rfl,rfl,rfl,rfl,rfl,rfl,rfl,rfl,rfl,rfl,rfl,(f_ rfl (jaf qr31)),trivial⟩
       have qr31:=hr30
       replace hr30:=zeb hr30
       try dsimp only[Con.kind,Con.parts,Con.name,Con.lo,Con.hi,Con.cap,Con.ad]at hr30
       refine Zz 5 ?_
       refine S_ (gQ_ nm (Con.ok_name hok)) rfl (.refl _) zt rfl fun r32 hr32=>Zz 4 ?_
       exact met ⟨rfl,rfl,rfl,rfl,rfl,rfl,rfl,rfl,rfl,rfl,rfl,rfl,rfl,rfl,(f_ rfl (jat qr31 hr32)),trivial⟩
      refine Zz 3 ?_
      exact met ⟨rfl,rfl,rfl,rfl,rfl,rfl,rfl,rfl,rfl,rfl,rfl,rfl,rfl,(f_ rfl (jof qr29 hr31)),trivial⟩
     have qr29:=hr27
     simp at hr27
     try dsimp only[Con.kind,Con.parts,Con.name,Con.lo,Con.hi,Con.cap,Con.ad]at hr27
     refine Zz 11 ?_
     exact met ⟨rfl,rfl,rfl,rfl,rfl,rfl,rfl,rfl,rfl,rfl,rfl,rfl,rfl,(f_ rfl (jot qr29)),trivial⟩
    refine Zz 2 ?_
    cases r29
    ·simp at hr29
     try dsimp only[Con.kind,Con.parts,Con.name,Con.lo,Con.hi,Con.cap,Con.ad]at hr29
     refine Zz 9 ?_
     exact J_ fa_ () (au_ rfl (by unfold Con.fieldErr;simp only[Con.kind,Con.parts,Con.name,Con.lo,Con.hi];simp only[hnd];repeat (first|rfl|exact (if_pos (by omega)).symm|(rw[if_pos (by first|omega|(simp_all;done)|(simp_all;omega)|grind)];first|done|rfl)|(rw[if_neg (by first|omega|(simp_all;done)|(simp_all;omega)|grind)])))) (.refl _) zt
    simp at hr29
    try dsimp only[Con.kind,Con.parts,Con.name,Con.lo,Con.hi,Con.cap,Con.ad]at hr29
    refine Zz 7 ?_
    exact J_ fa_ () (au_ rfl (by unfold Con.fieldErr;simp only[Con.kind,Con.parts,Con.name,Con.lo,Con.hi];simp only[hnd];repeat (first|rfl|exact (if_pos (by omega)).symm|(rw[if_pos (by first|omega|(simp_all;done)|(simp_all;omega)|grind)];first|done|rfl)|(rw[if_neg (by first|omega|(simp_all;done)|(simp_all;omega)|grind)])))) (.refl _) zt
   simp at hr24
   try dsimp only[Con.kind,Con.parts,Con.name,Con.lo,Con.hi,Con.cap,Con.ad]at hr24
   refine Zz 7 ?_
   exact J_ fa_ () (au_ rfl (by unfold Con.fieldErr;simp only[Con.kind,Con.parts,Con.name,Con.lo,Con.hi];simp only[hnd];repeat (first|rfl|exact (if_pos (by omega)).symm|(rw[if_pos (by first|omega|(simp_all;done)|(simp_all;omega)|grind)];first|done|rfl)|(rw[if_neg (by first|omega|(simp_all;done)|(simp_all;omega)|grind)])))) (.refl _) zt
  simp at hr7
  try dsimp only[Con.kind,Con.parts,Con.name,Con.lo,Con.hi,Con.cap,Con.ad]at hr7
  refine Zz 7 ?_
  exact J_ fa_ () (au_ rfl (by unfold Con.fieldErr;simp only[Con.kind,Con.parts,Con.name,Con.lo,Con.hi];simp only[hnd];repeat (first|rfl|exact (if_pos (by omega)).symm|(rw[if_pos (by first|omega|(simp_all;done)|(simp_all;omega)|grind)];first|done|rfl)|(rw[if_neg (by first|omega|(simp_all;done)|(simp_all;omega)|grind)])))) (.refl _) zt
 simp at hr2
 try dsimp only[Con.kind,Con.parts,Con.name,Con.lo,Con.hi,Con.cap,Con.ad]at hr2
 refine Zz 7 ?_
 exact J_ fa_ () (au_ rfl (by unfold Con.fieldErr;simp only[Con.kind,Con.parts,Con.name,Con.lo,Con.hi];repeat (first|rfl|exact (if_pos (by omega)).symm|(rw[if_pos (by first|omega|(simp_all;done)|(simp_all;omega)|grind)];first|done|rfl)|(rw[if_neg (by first|omega|(simp_all;done)|(simp_all;omega)|grind)])))) (.refl _) zt
end Go.Proofs.YtaffcjgphlhppaaGreatDoor
namespace Go.Proofs.YtaffcjgphlhppaaGreatDoor
open Go Go.Sx Go.Proofs
attribute [local irreducible] Code.wp wpList wpAnyH
open Go.Vs
theorem sx_ {σ τ:Type} {l:Nat} {Gj:σ→Hp} {Gx:τ→Hp} {stp:Con→σ→σ ⊕ τ} {E:List Fct} {good:Con→Prop} (hgood:∀ c p,good c→p∈c.parts→good p)
    (hY:∀ s x,x.ok→good x→qw_ Tryz.prog l x.val (Gj s) (x.memF::E) (fun _:Unit=>.bool (stp x s).isLeft) (fun _=>nR_ Gj Gx (stp x s)) (fun _=>[])) :
    ∀ (m:Nat) (c:Con),c.sz≤m→c.ok→good c→∀ (s:σ) r,Con.fold stp c s=r →
    Tri Tryz.prog 180 #[c.val,.func (.yield l) #[] #[]] (Gj s) (c.memF::E) (fun _:Unit=>.bool r.isLeft) (fun _=>nR_ Gj Gx r) (fun _=>[]):=by
  intro m
  induction m with
  | zero=>intro c h;have:=c.sz_pos;omega
  | succ m ih =>
    intro c hm hok hg s r hr
    obtain⟨k,nm,lo,hi,ad,cap,ps⟩:=c
    have hlen:=Con.ok_len hok
    simp only[Con.parts,Con.cap]at hlen
    have hgp:∀ p∈ps,good p:=fun p hp=>hgood _ p hg hp
    refine t_ Tryz.func180 rfl rfl Tryz.ntmps180 rfl fun v0=>?_
    refine s_ ?_
    refine m_ ?_
    refine ag_ rfl rfl fun b1=>?_
    refine d_ (z_ rfl) rfl ?_
    refine p_ ?_
    refine l_ rfl ?_
    refine s_ ?_
    refine s_ ?_
    rcases hfc:stp (.mk k nm lo hi ad cap ps) s with s1|t1
    · skip
      refine nc_ (ι:=Unit) (fun _=>[(1,.func (.yield l) #[] #[]),(2,zp_ b1 0),(10,.bool false)]) (fun _=>(b1,.cells (Con.mk k nm lo hi ad cap ps).cells.toArray 56 (0,0))::Gj s1) (fun _=>[(Con.mk k nm lo hi ad cap ps).memF]++E) ?_ fun _=>?_
      · skip
        refine dP_ ?_
        refine dR_ fI_ (V_ rfl) rfl rfl ?_
        refine dR_ fI_ (eN_ (c:=.mk k nm lo hi ad cap ps) 0 aB_ F_ rfl rfl) rfl rfl ?_
        refine kw_ (hY s _ hok hg) rfl rfl (@List.perm_append_comm _ [_] _) (fun v _ h=>h) rfl fun _=>?_
        rw[hfc]
        refine dR_ fI_ (bj_ rfl) rfl rfl ?_
        refine fH_ ?_
        refine iP_ rfl ?_
        exact jd_ () ⟨rfl,rfl,rfl,trivial⟩ (F:=[]) (by rw[List.append_nil];exact @List.perm_append_comm _ _ [_]) (fun _ _ h=>h)
      · skip
        refine l_ rfl ?_
        refine U_ rfl ?_
        refine aw_ ?_
        refine l_ rfl ?_
        refine s_ ?_
        refine s_ ?_
        refine m_ ?_
        refine d_ (R_ aU_ rfl rfl rfl tW_) rfl ?_
        refine d_ (ak_ 0 Tryz.isAgg54 rfl rfl rfl) rfl ?_
        refine d_ (dc_ bd_ rfl) rfl ?_
        refine d_ (V_ rfl) rfl ?_
        refine p_ ?_
        refine l_ rfl ?_
        refine cc_ ?_
        refine dA_ [(1,.func (.yield l) #[] #[]),(12,.slice ad ps.length cap),(13,.int .i64 (ps.length:Int)),(14,.int .i64 ((0:Nat):Int))] ⟨rfl,rfl,rfl,rfl,trivial⟩ ?_
        refine dO_ (ι:={q:Nat×σ // q.1≤ps.length∧Con.fold.folds stp (ps.take q.1) s1=.inl q.2}) (fun i=>[(1,.func (.yield l) #[] #[]),(12,.slice ad ps.length cap),(13,.int .i64 (ps.length:Int)),(14,.int .i64 (i.1.1:Int))]) (fun i=>_::Gj i.1.2) (fun _=>_) (fun i=>ps.length - i.1.1) ⟨(0,s1),by simp[Con.fold.folds]⟩ ?_
        rintro ⟨⟨i,m1⟩,hk⟩
        refine dA_ [(1,.func (.yield l) #[] #[]),(12,.slice ad ps.length cap),(13,.int .i64 (ps.length:Int)),(14,.int .i64 (i:Int))] ⟨rfl,rfl,rfl,rfl,trivial⟩ ?_
        refine s_ ?_
        refine m_ ?_
        refine O_ (db_ rfl rfl) rfl fun r1 hr1=>?_
        refine p_ ?_
        refine l_ rfl ?_
        refine s_ ?_
        cases r1
        · skip
          replace hr1:=of_decide_eq_false hr1
          try dsimp only[Con.kind,Con.parts,Con.name,Con.lo,Con.hi,Con.cap,Con.ad]at hr1
          refine U_ rfl ?_
          refine go_ rfl ?_
          refine l_ rfl ?_
          refine s_ ?_
          refine m_ ?_
          refine d_ (z_ rfl) rfl ?_
          refine p_ ?_
          refine l_ rfl ?_
          refine ar_ ?_
          obtain rfl:r=.inl m1:=by rw[← hr,Con.fold_eq,hfc];exact Con.folds_yes (show ps.length≤i by omega) hk.2
          exact J_ Tryz.results180 () rfl (@List.perm_append_comm _ [_] _) (fun _ _ _=>trivial)
        · skip
          replace hr1:=of_decide_eq_true hr1
          try dsimp only[Con.kind,Con.parts,Con.name,Con.lo,Con.hi,Con.cap,Con.ad]at hr1
          have hlt:i<ps.length:=by omega
          obtain⟨p,hp⟩:∃ p,ps[i]? = some p:=⟨_,List.getElem?_eq_getElem hlt⟩
          have hpm:p∈ps:=List.mem_of_getElem? hp
          refine L_ rfl ?_
          refine aw_ ?_
          refine l_ rfl ?_
          refine s_ ?_
          refine cc_ ?_
          refine s_ ?_
          refine m_ ?_
          refine d_ (X_ bd_ F_ rfl rfl (fun v _ h=>Con.row_addr (c:=.mk k nm lo hi ad cap ps) h.1 hp) (by omega) (by omega)) rfl ?_
          refine d_ (aA_ (us:=p.cells) aB_ F_ rfl (fun v _ h=>((Con.mem_iff (.mk k nm lo hi ad cap ps) v).1 h.1).1) p.cells_len (Con.part_cells (c:=.mk k nm lo hi ad cap ps) (i:=i) hp)) rfl ?_
          refine C_ Tryz.zeroValue56 rfl fun b2=>?_
          refine ks_ 0 F_ rfl rfl rfl rfl ?_
          refine p_ ?_
          refine l_ rfl ?_
          refine s_ ?_
          rcases hfp:Con.fold stp p m1 with m2|t2
          · skip
            refine m_ ?_
            refine d_ (eN_ 0 aB_ F_ rfl rfl) rfl ?_
            refine d_ (V_ rfl) rfl ?_
            refine q_ (ih p (by have:=Con.sz_part (c:=.mk k nm lo hi ad cap ps) hpm;omega) (Con.ok_part (c:=.mk k nm lo hi ad cap ps) hok hpm) (hgp p hpm) m1 _ hfp) rfl (@List.perm_append_comm _ [_,_] _) (fun v _ h=>⟨Con.mem_part (c:=.mk k nm lo hi ad cap ps) h.1 hpm,h.2⟩) rfl fun _=>?_
            refine ac_ (@List.perm_append_comm _ _ [_,_]) ?_
            refine d_ (bj_ rfl) rfl ?_
            refine p_ ?_
            refine l_ rfl ?_
            refine U_ rfl ?_
            refine aw_ ?_
            refine l_ rfl ?_
            refine m_ ?_
            refine d_ (bC_ rfl rfl rfl (cZ_ (by omega) (by omega))) rfl ?_
            refine d_ (V_ rfl) rfl ?_
            refine p_ ?_
            refine aD_ rfl ?_
            exact Q_ ⟨(i+1,m2),hlt,Con.folds_step hp hk.2 hfp⟩ (by simp;omega) ⟨rfl,rfl,rfl,rfl,trivial⟩ (F:=[_]) (@List.perm_append_comm _ [_] _) (fun _ _ h=>h)
          · skip
            refine m_ ?_
            refine d_ (eN_ 0 aB_ F_ rfl rfl) rfl ?_
            refine d_ (V_ rfl) rfl ?_
            refine q_ (ih p (by have:=Con.sz_part (c:=.mk k nm lo hi ad cap ps) hpm;omega) (Con.ok_part (c:=.mk k nm lo hi ad cap ps) hok hpm) (hgp p hpm) m1 _ hfp) rfl (@List.perm_append_comm _ [_,_] _) (fun v _ h=>⟨Con.mem_part (c:=.mk k nm lo hi ad cap ps) h.1 hpm,h.2⟩) rfl fun _=>?_
            refine ac_ (@List.perm_append_comm _ _ [_,_]) ?_
            refine d_ (bj_ rfl) rfl ?_
            refine p_ ?_
            refine l_ rfl ?_
            refine L_ rfl ?_
            refine s_ ?_
            refine m_ ?_
            refine d_ (z_ rfl) rfl ?_
            refine p_ ?_
            refine l_ rfl ?_
            refine ar_ ?_
            obtain rfl:r=.inr t2:=by rw[← hr,Con.fold_eq,hfc];exact Con.folds_no hp hk.2 hfp
            exact J_ Tryz.results180 () rfl (@List.perm_append_comm _ [_,_] _) (fun _ _ _=>trivial)
    · skip
      refine nc_ (ι:=Unit) (fun _=>[(1,.func (.yield l) #[] #[]),(2,zp_ b1 0),(10,.bool true)]) (fun _=>(b1,.cells (Con.mk k nm lo hi ad cap ps).cells.toArray 56 (0,0))::Gx t1) (fun _=>[(Con.mk k nm lo hi ad cap ps).memF]++E) ?_ fun _=>?_
      · skip
        refine dP_ ?_
        refine dR_ fI_ (V_ rfl) rfl rfl ?_
        refine dR_ fI_ (eN_ (c:=.mk k nm lo hi ad cap ps) 0 aB_ F_ rfl rfl) rfl rfl ?_
        refine kw_ (hY s _ hok hg) rfl rfl (@List.perm_append_comm _ [_] _) (fun v _ h=>h) rfl fun _=>?_
        rw[hfc]
        refine dR_ fI_ (bj_ rfl) rfl rfl ?_
        refine fH_ ?_
        refine iP_ rfl ?_
        exact jd_ () ⟨rfl,rfl,rfl,trivial⟩ (F:=[]) (by rw[List.append_nil];exact @List.perm_append_comm _ _ [_]) (fun _ _ h=>h)
      · skip
        refine l_ rfl ?_
        refine L_ rfl ?_
        refine s_ ?_
        refine m_ ?_
        refine d_ (z_ rfl) rfl ?_
        refine p_ ?_
        refine l_ rfl ?_
        refine ar_ ?_
        obtain rfl:r=.inr t1:=by rw[← hr,Con.fold_eq,hfc]
        exact J_ Tryz.results180 () rfl (@List.perm_append_comm _ [_] _) (fun _ _ _=>trivial)
theorem walk_c (c:Con) :
    Tri Tryz.prog 125 #[c.val] [] [] (fun b:Nat=>.func (.func 179) #[] #[zp_ b 0]) (fun b=>[(b,.cells c.cells.toArray 56 (0,0))]) (fun _=>[]):=by
  refine t_ Tryz.func125 rfl rfl Tryz.ntmps125 rfl fun v0=>?_
  refine s_ ?_
  refine m_ ?_
  refine ag_ rfl rfl fun b1=>?_
  refine d_ (z_ rfl) rfl ?_
  refine p_ ?_
  refine l_ rfl ?_
  refine s_ ?_
  refine m_ ?_
  refine d_ (bI_ rfl rfl) rfl ?_
  refine d_ (z_ rfl) rfl ?_
  refine p_ ?_
  refine l_ rfl ?_
  refine ar_ ?_
  exact J_ Tryz.results125 b1 rfl (F:=[]) (.refl _) (fun _ _ _=>trivial)
theorem sw_ {σ τ:Type} {l b:Nat} {Gj:σ→Hp} {Gx:τ→Hp} {stp:Con→σ→σ ⊕ τ} {E:List Fct} {good:Con→Prop} (hgood:∀ c p,good c→p∈c.parts→good p)
    (hY:∀ s x,x.ok→good x→qw_ Tryz.prog l x.val (Gj s) (x.memF::E) (fun _:Unit=>.bool (stp x s).isLeft) (fun _=>nR_ Gj Gx (stp x s)) (fun _=>[]))
    (c:Con) (hok:c.ok) (hg:good c) (s:σ) :
    Tri Tryz.prog 179 #[.func (.yield l) #[] #[],zp_ b 0] ((b,.cells c.cells.toArray 56 (0,0))::Gj s) (c.memF::E) (fun _:Unit=>.tuple #[]) (fun _=>(b,.cells c.cells.toArray 56 (0,0))::nR_ Gj Gx (Con.fold stp c s)) (fun _=>[]):=by
  refine t_ Tryz.func179 rfl rfl Tryz.ntmps179 rfl fun v0=>?_
  refine m_ ?_
  refine d_ (eN_ (c:=c) 0 aB_ F_ rfl rfl) rfl ?_
  refine d_ (V_ rfl) rfl ?_
  refine q_ (sx_ hgood hY _ c (Nat.le_refl _) hok hg s _ rfl) rfl (@List.perm_append_comm _ [_] _) (fun v _ h=>h) rfl fun _=>?_
  refine p_ ?_
  refine po_ rfl ?_
  exact cW_ Tryz.results179 () rfl (F:=[]) (by rw[List.append_nil];exact @List.perm_append_comm _ _ [_]) (fun _ _ _=>trivial)
theorem fM_ (c:Con) (hok:c.ok):Tri Tryz.prog 69 #[c.val] [] [c.memF,iv_] (fun _:Unit=>.int .i64 c.check) (fun _=>[]) (fun _=>[]):=by
 obtain⟨k,nm,lo,hi,ad,cap,ps⟩:=c
 refine mg_ Tryz.func69 rfl rfl Tryz.ntmps69 rfl fun v0=>?_
 refine s_ ?_
 refine m_ ?_
 refine ag_ rfl rfl fun b1=>?_
 refine C_ Tryz.zeroValue31 rfl fun b2=>?_
 refine p_ ?_
 refine l_ rfl ?_
 refine s_ ?_
 refine m_ ?_
 refine C_ cx_ rfl fun b3=>?_
 refine w_ 0 aq_ rfl rfl rfl rfl rfl rfl ?_
 refine p_ ?_
 refine l_ rfl ?_
 refine s_ ?_
 refine s_ ?_
 refine m_ ?_
 refine d_ (as_ 2 aB_ F_ rfl rfl rfl) rfl ?_
 refine kv_ 0 (fits_c _ (.mk k nm lo hi ad cap ps) (Nat.le_refl _) hok 0 0 b3 (by omega) (by omega) _ rfl) rfl rfl (fun v _ h=>⟨h.1,trivial⟩) rfl fun r1 hr1=>?_
 refine d_ (bj_ rfl) rfl ?_
 refine p_ ?_
 refine l_ rfl ?_
 cases r1
 ·try dsimp only[Con.kind,Con.parts,Con.name,Con.lo,Con.hi,Con.cap,Con.ad]at hr1
  refine L_ rfl ?_
  refine s_ ?_
  refine m_ ?_
  refine w_ 1 tY_ rfl rfl rfl rfl rfl rfl ?_
  refine p_ ?_
  refine l_ rfl ?_
  refine ar_ ?_
  exact retM () (fun a v h1 h2 _=>by rw[kj_ 1 Tryz.results69 Tryz.isAgg31 rfl rfl a v h1 h2];simp[Con.check, *]) (.refl _) (fun _ _ _=>trivial)
 try dsimp only[Con.kind,Con.parts,Con.name,Con.lo,Con.hi,Con.cap,Con.ad]at hr1
 refine U_ rfl ?_
 refine aw_ ?_
 refine l_ rfl ?_
 refine s_ ?_
 refine s_ ?_
 refine m_ ?_
 refine d_ (as_ 2 aB_ F_ rfl rfl rfl) rfl ?_
 refine q_ (walk_c (.mk k nm lo hi ad cap ps)) rfl (.refl _) (fun _ _ _=>trivial) rfl fun b=>?_
 refine p_ ?_
 refine l_ rfl ?_
 refine cc_ ?_
 refine dA_ [(2,zp_ b2 0),(10,.func (.func 179) #[] #[zp_ b 0])] ⟨rfl,rfl,trivial⟩ ?_
 refine eC_ (H':=[_,_]) (F:=[_,_]) (.cons _ (.swap _ _ _)) (fun _ _ h=>h) ?_
 refine pE_ (α:={c:Con // c.ok}) (xv:=fun x=>x.1.val) (good:=fun _=>True) (stp:=fun x=>Con.chk x.1) (Γx:=fun x=>[x.1.memF,iv_]) (Γi:=[Con.memF (.mk k nm lo hi ad cap ps),iv_]) (Hj:=fun _:Unit=>[(b2,.cells #[.int .i64 0] 31 (0,0))]) (Hx:=fun t:Int=>[(b2,.cells #[.int .i64 t] 31 (0,0))]) (Hc:=[(b,.cells (Con.mk k nm lo hi ad cap ps).cells.toArray 56 (0,0))]) (caps:=[zp_ b 0]) () (Con.fold Con.chk (.mk k nm lo hi ad cap ps) ()) rfl (.refl _) (fun v _ h=>h) ?_ ?_ ?_ ?_
 ·rintro l D rec hp hst hpe ht hasg hbody s ⟨x,hx⟩ -
  refine oj_ (ι:=Nat) (Hj:=fun _:Unit=>[(b2,.cells #[.int .i64 0] 31 (0,0))]) (Hx:=fun t:Int=>[(b2,.cells #[.int .i64 t] 31 (0,0))]) (s:=s) (res:=Con.chk x s) (Γ:=[x.memF,iv_]) (fun b4=>[(2,zp_ b2 0),(4,zp_ b4 0)]) (fun b4=>[(b4,.cells x.cells.toArray 56 (0,0)),(b2,.cells #[.int .i64 0] 31 (0,0))]) hp hst hpe ht rfl ?_ ?_
  ·intro n v0 H0 HL
   rw[hasg]
   refine dP_ ?_
   refine ot_ (en_ _) Tryz.zeroValue56 rfl fun b4=>?_
   refine nw_ (en_ _) 0 F_ rfl rfl rfl rfl ?_
   refine fH_ ?_
   refine iP_ rfl ?_
   exact jd_ b4 ⟨rfl,rfl,trivial⟩ (F:=[]) (by rw[List.append_nil];exact .refl _) (fun _ _ h=>h)
  intro n v0 H0 HL b4
  rw[hbody]
  refine oo_ ?_
  refine iB_ ?_
  refine dP_ ?_
  refine dR_ (en_ _) (eN_ 0 aB_ F_ rfl rfl) rfl rfl ?_
  refine pZ_ (li_ x hx) rfl (.refl _) (fun v _ h=>⟨h.2.1,trivial⟩) rfl fun _=>?_
  refine dR_ (en_ _) (z_ rfl) rfl rfl ?_
  refine fH_ ?_
  refine gB_ rfl ?_
  refine iB_ ?_
  refine dP_ ?_
  refine dR_ (en_ _) (V_ rfl) rfl rfl ?_
  refine pY_ (en_ _) (cg_ rfl rfl) rfl rfl fun r2 hr2=>?_
  refine fH_ ?_
  refine gB_ rfl ?_
  cases r2
  ·replace hr2:=et_ hr2
   try dsimp only[Con.kind,Con.parts,Con.name,Con.lo,Con.hi,Con.cap,Con.ad]at hr2
   refine nh_ rfl ?_
   refine pI_ ?_
   refine iP_ rfl ?_
   exact pK_ () (by simp[Con.chk, *]) (G:=[_]) (@List.perm_append_comm _ [_] _)
  replace hr2:=eo_ hr2
  try dsimp only[Con.kind,Con.parts,Con.name,Con.lo,Con.hi,Con.cap,Con.ad]at hr2
  refine ng_ rfl ?_
  refine iB_ ?_
  refine dP_ ?_
  refine dR_ (en_ _) (V_ rfl) rfl rfl ?_
  refine id_ (en_ _) 1 tY_ rfl rfl rfl rfl rfl rfl ?_
  refine fH_ ?_
  refine gB_ rfl ?_
  refine nf_ ?_
  exact pJ_ x.fieldErr (by simp[Con.chk, *]) (G:=[_]) (@List.perm_append_comm _ [_] _)
 ·intro l Gj Gx hY
  exact sw_ (E:=[iv_]) (good:=fun _=>True) (fun _ _ _ _=>trivial) (fun s x hx _=>hY s ⟨x,hx⟩ trivial) _ hok trivial ()
 ·intro s hs D l r
  rw[Con.fold_chk _ _ (Nat.le_refl _)]at hs
  refine gB_ rfl ?_
  refine iB_ ?_
  refine dP_ ?_
  refine id_ fI_ 1 tY_ rfl rfl rfl rfl rfl rfl ?_
  refine fH_ ?_
  refine gB_ rfl ?_
  refine nf_ ?_
  have hz:(0:Int)=(Con.mk k nm lo hi ad cap ps).check:=by unfold Con.check;rw[if_pos (by assumption)];split at hs;(rename_i h;exact h.symm);cases hs
  exact tZ_ (G:=[_,_,_]) () (fun a v h1 h2=>by rw[← hz];exact kj_ 1 Tryz.results69 Tryz.isAgg31 rfl rfl a v h1 h2) (fn_ (i:=3) rfl) ⟨_,.refl _⟩ rfl
 intro t hs D l r
 rw[Con.fold_chk _ _ (Nat.le_refl _)]at hs
 have hz:t=(Con.mk k nm lo hi ad cap ps).check:=by unfold Con.check;rw[if_pos (by assumption)];split at hs;cases hs;injection hs with hs;exact hs.symm
 exact tZ_ (G:=[_,_,_]) () (fun a v h1 h2=>by rw[← hz];exact kj_ 1 Tryz.results69 Tryz.isAgg31 rfl rfl a v h1 h2) (fn_ (i:=3) rfl) ⟨_,.refl _⟩ rfl
end Go.Proofs.YtaffcjgphlhppaaGreatDoor
