/-
  Part of the proof of the law ProofToolsSpec over this seat: the small logic, the data, the contracts of functions (no condition).
-/
import Derived.Test.YtkeanlfhghlgiaaGreatDoorProg
import Derived.Test.YtkeanlfhghlgiaaGreatDoorQProofToolsSpec2
import Derived.ProofKit
import Derived.OpenShut
import Derived.ReadAgain
import Derived.Deep.Slices
import Derived.SevenTiedAt
import Derived.Stop.Joined
import Derived.Lay
import Derived.LaidMore
set_option linter.unusedVariables false
set_option linter.unusedSimpArgs false
set_option linter.unusedSectionVars false
set_option maxHeartbeats 1000000
namespace Go.Proofs.YtkeanlfhghlgiaaGreatDoor
open Go Go.Sx
theorem zdf {p:Prop} [Decidable p] (h:decide p=false):¬p:=of_decide_eq_false h
theorem zdt {p:Prop} [Decidable p] (h:decide p=true):p:=of_decide_eq_true h
theorem znb {α:Type} [BEq α] [LawfulBEq α] {a b:α} (h:(a==b)=false):a≠b:=by simpa using h
theorem zeb {α:Type} [BEq α] [LawfulBEq α] {a b:α} (h:(a==b)=true):a=b:=eq_of_beq h
theorem zbe {α:Type} [BEq α] [LawfulBEq α] {a b:α} (h:(a != b)=false):a=b:=by simpa using h
theorem zk {G:Prop} (h:G:=by kernel_rfl):G:=h
theorem zh {P Q:Vw→Prop}:∀ v,P v→Q v→Q v:=fun _ _ h=>h
theorem zt {P Q:Vw→Prop}:∀ v,P v→Q v→am_ [] v:=fun _ _ _=>trivial
section
variable {H r r' d O:Hp} {b c:Nat×Obj}
theorem zpn (h:H.Perm r):([]++H).Perm r:=h
end
abbrev zR {α:Type} (e k:Nat) (f:α→List Value) (sv:Value) (X:List α) (H:Hp):Prop:=aE_ e k sv X.length (X.flatMap f) H
theorem zsw {α β:Type} {e k:Nat} {f:β→List Value} {sv:Value} {A:List β} {H:Hp} (g:α→List β) (p:List α) (h:aE_ e k sv A.length (A.flatMap f) H):zR e k f sv (A++List.flatMap g (List.take 0 p)) H:=by
  unfold zR;simpa only[List.take_zero,List.flatMap_nil,List.append_nil] using h
theorem zsa {β:Type} {e k m:Nat} {f:β→List Value} {sv:Value} {A B:List β} {H:Hp} (h:aE_ e k sv (A.length+m) (A.flatMap f++B.flatMap f) H) (hm:B.length=m:=by first|rfl|simp):zR e k f sv (A++B) H:=by
  subst hm;unfold zR;rw[List.length_append,List.flatMap_append];exact h
theorem zge {α:Type} {l:List α} {i:Nat} (h:i<l.length):i<l.length∧∃ x,l[i]? = some x∧x∈l:=⟨h,_,List.getElem?_eq_getElem h,List.getElem_mem h⟩
theorem zbn {α:Type} [BEq α] [LawfulBEq α] {a b:α} (h:(a != b)=true):a≠b:=by simpa using h
theorem zp {G:Prop} (h:G:=by (repeat (first|(with_reducible first|exact m_|exact d_|exact l_|exact F_|exact V_|exact ay_)|exact d_|(with_reducible first|apply zpn|(apply g_;rotate_left;(fail_if_success (with_reducible apply m_));rotate_right)|apply p_|apply c_|apply e_)|exact l_|exact ay_))):G:=h
theorem zf {G:Prop} (h:G:=by intro v_ a_ b_;repeat (first|exact trivial|(with_reducible first|exact b_.1|exact b_.2.1|exact b_.2.2.1|exact b_.2.2.2.1|exact b_.2.2.2.2.1|exact b_.2.2.2.2.2.1|exact b_.2.2.2.2.2.2.1|exact b_.2.2.2.2.2.2.2.1|exact b_.2.2.2.2.2.2.2.2.1|exact b_.2.2.2.2.2.2.2.2.2.1|exact b_.2.2.2.2.2.2.2.2.2.2.1|exact b_.2.2.2.2.2.2.2.2.2.2.2.1|exact b_|exact b_.2|exact b_.2.2|exact b_.2.2.2|exact b_.2.2.2.2|exact b_.2.2.2.2.2|exact b_.2.2.2.2.2.2|exact b_.2.2.2.2.2.2.2|exact b_.2.2.2.2.2.2.2.2|exact b_.2.2.2.2.2.2.2.2.2|exact b_.2.2.2.2.2.2.2.2.2.2|exact b_.2.2.2.2.2.2.2.2.2.2.2)|(first|exact b_.1|exact b_.2.1|exact b_.2.2.1|exact b_.2.2.2.1|exact b_.2.2.2.2.1|exact b_.2.2.2.2.2.1|exact b_.2.2.2.2.2.2.1|exact b_.2.2.2.2.2.2.2.1|exact b_.2.2.2.2.2.2.2.2.1|exact b_.2.2.2.2.2.2.2.2.2.1|exact b_.2.2.2.2.2.2.2.2.2.2.1|exact b_.2.2.2.2.2.2.2.2.2.2.2.1|exact b_|exact b_.2|exact b_.2.2|exact b_.2.2.2|exact b_.2.2.2.2|exact b_.2.2.2.2.2|exact b_.2.2.2.2.2.2|exact b_.2.2.2.2.2.2.2|exact b_.2.2.2.2.2.2.2.2|exact b_.2.2.2.2.2.2.2.2.2|exact b_.2.2.2.2.2.2.2.2.2.2|exact b_.2.2.2.2.2.2.2.2.2.2.2)|refine⟨?_,?_⟩)):G:=h
theorem zs {G:Prop} (h:G:=by intro v_ a_ b_;refine⟨?_,?_⟩;(first|exact a_|exact satNil a_|exact a_.tail|exact a_.tail.tail|exact a_.tail.tail.tail|exact a_.tail.tail.tail.tail|((apply Vw.sat.sub;apply a_.perm);(repeat (first|(with_reducible first|exact m_|exact d_|exact l_|exact F_|exact V_|exact ay_)|exact d_|(with_reducible first|apply zpn|(apply g_;rotate_left;(fail_if_success (with_reducible apply m_));rotate_right)|apply p_|apply c_|apply e_)|exact l_|exact ay_))));(first|exact b_|exact b_.2|exact b_.2.2|exact b_.2.2.2|exact b_.2.2.2.2|exact b_.2.2.2.2.2|exact b_.2.2.2.2.2.2|exact b_.2.2.2.2.2.2.2|exact b_.2.2.2.2.2.2.2.2|exact b_.2.2.2.2.2.2.2.2.2|exact b_.2.2.2.2.2.2.2.2.2.2|exact b_.2.2.2.2.2.2.2.2.2.2.2)):G:=h
theorem zl {G:Prop} (h:G:=by repeat (first|exact trivial|refine⟨rfl,?_⟩)):G:=h
def lkN {α:Type}:List (Nat×α)→Nat→Option α
  | [],_=>none
  | (k,v)::l,n=>bif Nat.beq k n then some v else lkN l n
theorem mk_ {α:Type} {n:Nat} {v:α}:∀ {l:List (Nat×α)},lkN l n=some v→(n,v)∈l
  | (k,u)::l,h=>by
    simp only[lkN]at h
    cases hb:Nat.beq k n with
    | true=>rw[hb,cond_true]at h;cases h;rw[Nat.eq_of_beq_eq_true hb];exact List.mem_cons_self
    | false=>rw[hb,cond_false]at h;exact List.mem_cons_of_mem _ (mk_ h)
def zAt:List (Nat×Bool):=[(9,false),(3,false),(24,true),(27,false),(46,false),(52,true),(29,true),(75,false),(74,false),(71,false),(103,false),(4,false),(48,true),(128,true),(101,false),(114,true),(73,false),(77,false),(102,false),(22,false),(76,false),(37,false),(91,false),(149,true),(78,false),(36,false),(82,false),(145,true),(65,false),(111,true),(39,true)]
theorem zA {t:TypeId} {b:Bool} (h:lkN zAt t=some b):∀ w,(isAgg t).run Tryz.prog w=.ok b w:=by
  have h:=mk_ h
  simp only[zAt,List.mem_cons,Prod.mk.injEq,List.not_mem_nil,or_false]at h
  rcases h with⟨rfl,rfl⟩|⟨rfl,rfl⟩|⟨rfl,rfl⟩|⟨rfl,rfl⟩|⟨rfl,rfl⟩|⟨rfl,rfl⟩|⟨rfl,rfl⟩|⟨rfl,rfl⟩|⟨rfl,rfl⟩|⟨rfl,rfl⟩|⟨rfl,rfl⟩|⟨rfl,rfl⟩|⟨rfl,rfl⟩|⟨rfl,rfl⟩|⟨rfl,rfl⟩|⟨rfl,rfl⟩|⟨rfl,rfl⟩|⟨rfl,rfl⟩|⟨rfl,rfl⟩|⟨rfl,rfl⟩|⟨rfl,rfl⟩|⟨rfl,rfl⟩|⟨rfl,rfl⟩|⟨rfl,rfl⟩|⟨rfl,rfl⟩|⟨rfl,rfl⟩|⟨rfl,rfl⟩|⟨rfl,rfl⟩|⟨rfl,rfl⟩|⟨rfl,rfl⟩|⟨rfl,rfl⟩
  · exact U_
  · exact O_
  · exact aX_
  · exact Tryz.isAgg27
  · exact Tryz.isAgg46
  · exact eb_
  · exact fE_
  · exact Tryz.isAgg75
  · exact Tryz.isAgg74
  · exact Tryz.isAgg71
  · exact Tryz.isAgg103
  · exact Tryz.isAgg4
  · exact Tryz.isAgg48
  · exact Tryz.isAgg128
  · exact Tryz.isAgg101
  · exact Tryz.isAgg114
  · exact Tryz.isAgg73
  · exact Tryz.isAgg77
  · exact Tryz.isAgg102
  · exact fF_
  · exact Tryz.isAgg76
  · exact Tryz.isAgg37
  · exact Tryz.isAgg91
  · exact Tryz.isAgg149
  · exact Tryz.isAgg78
  · exact Tryz.isAgg36
  · exact Tryz.isAgg82
  · exact Tryz.isAgg145
  · exact Tryz.isAgg65
  · exact Tryz.isAgg111
  · exact dc_
def zSt:List (Nat×Nat):=[(9,1),(3,1),(24,6),(27,1),(52,10),(48,9),(46,1),(29,1),(75,1),(74,1),(103,1),(4,1),(128,2),(101,1),(114,2),(73,1),(77,1),(102,1),(22,1),(76,1),(91,1),(36,1),(149,2),(78,1),(145,3),(37,1),(111,3),(39,2)]
theorem zS {t:TypeId} {b:Nat} (h:lkN zSt t=some b):∀ w,(sizeOf t).run Tryz.prog w=.ok b w:=by
  have h:=mk_ h
  simp only[zSt,List.mem_cons,Prod.mk.injEq,List.not_mem_nil,or_false]at h
  rcases h with⟨rfl,rfl⟩|⟨rfl,rfl⟩|⟨rfl,rfl⟩|⟨rfl,rfl⟩|⟨rfl,rfl⟩|⟨rfl,rfl⟩|⟨rfl,rfl⟩|⟨rfl,rfl⟩|⟨rfl,rfl⟩|⟨rfl,rfl⟩|⟨rfl,rfl⟩|⟨rfl,rfl⟩|⟨rfl,rfl⟩|⟨rfl,rfl⟩|⟨rfl,rfl⟩|⟨rfl,rfl⟩|⟨rfl,rfl⟩|⟨rfl,rfl⟩|⟨rfl,rfl⟩|⟨rfl,rfl⟩|⟨rfl,rfl⟩|⟨rfl,rfl⟩|⟨rfl,rfl⟩|⟨rfl,rfl⟩|⟨rfl,rfl⟩|⟨rfl,rfl⟩|⟨rfl,rfl⟩|⟨rfl,rfl⟩
  · exact M_
  · exact o_
  · exact B_
  · exact ei_
  · exact Y_
  · exact ap_
  · exact ik_
  · exact aT_
  · exact eX_
  · exact Tryz.sizeOf74
  · exact Tryz.sizeOf103
  · exact dz_
  · exact dh_
  · exact Tryz.sizeOf101
  · exact kb_
  · exact Tryz.sizeOf73
  · exact Tryz.sizeOf77
  · exact Tryz.sizeOf102
  · exact ej_
  · exact Tryz.sizeOf76
  · exact Tryz.sizeOf91
  · exact ul_
  · exact qQ_
  · exact Tryz.sizeOf78
  · exact Tryz.sizeOf145
  · exact Tryz.sizeOf37
  · exact Tryz.sizeOf111
  · exact aP_
theorem zUe {P:Program} {t t1:TypeId} {q q1} (h:∀ w,(underlying t1).run P w=.ok q1 w) (e:t=t1) (e1:q1=q):∀ w,(underlying t).run P w=.ok q w:=by subst e e1;exact h
theorem Zy {A B:Prop} {n:Nat} (k:A) (h:Kw A→Cn n B:=by intro k_;repeat (first|exact cn0 k_.go|(apply cn;intro h_;((first|((with_reducible apply i_);rotate_left;exact rfl;exact h_;rotate_right)|((with_reducible apply R_);exact rfl;rotate_left;exact rfl;exact h_;rotate_right)|((with_reducible apply fH_);exact rfl;exact rfl;exact rfl;rotate_left;exact rfl;exact h_;rotate_right));(focus (first|((with_reducible apply az_);exact rfl)|((with_reducible apply hT_);exact rfl)|((with_reducible apply cY_);rotate_left;exact rfl;rotate_right;(first|exact zUe aq_ rfl rfl|exact zUe aM_ rfl rfl|exact zUe ba_ rfl rfl|exact zUe cF_ rfl rfl|exact zUe aA_ rfl rfl|exact zUe P_ rfl rfl|exact zUe cH_ rfl rfl|exact zUe f_ rfl rfl|exact zUe ad_ rfl rfl|exact zUe E_ rfl rfl|exact zUe cX_ rfl rfl|exact zUe cv_ rfl rfl|exact zUe aj_ rfl rfl|exact zUe bj_ rfl rfl|exact zUe cG_ rfl rfl|exact zUe ce_ rfl rfl|exact zUe cf_ rfl rfl);exact rfl;exact rfl;exact zS rfl)|((with_reducible apply bh_);(first|exact zUe aq_ rfl rfl|exact zUe aM_ rfl rfl|exact zUe ba_ rfl rfl|exact zUe cF_ rfl rfl|exact zUe aA_ rfl rfl|exact zUe P_ rfl rfl|exact zUe cH_ rfl rfl|exact zUe f_ rfl rfl|exact zUe ad_ rfl rfl|exact zUe E_ rfl rfl|exact zUe cX_ rfl rfl|exact zUe cv_ rfl rfl|exact zUe aj_ rfl rfl|exact zUe bj_ rfl rfl|exact zUe cG_ rfl rfl|exact zUe ce_ rfl rfl|exact zUe cf_ rfl rfl);exact rfl;exact rfl;exact rfl;exact zS rfl)|((with_reducible apply (bx_ 0));rotate_left;exact rfl;exact rfl;exact rfl;exact zA rfl)|((with_reducible apply (bx_ 1));rotate_left;exact rfl;exact rfl;exact rfl;exact zA rfl)|((with_reducible apply (bx_ 2));rotate_left;exact rfl;exact rfl;exact rfl;exact zA rfl)|((with_reducible apply (bx_ 3));rotate_left;exact rfl;exact rfl;exact rfl;exact zA rfl)|((with_reducible apply jP_);exact rfl;exact rfl)|((with_reducible apply jO_);exact rfl;exact rfl)|((with_reducible apply dx_);exact rfl;exact rfl;exact rfl;exact fQ_ (by omega) (by omega))|((with_reducible apply cM_);exact rfl)|((with_reducible apply jd_);exact rfl;exact rfl)|((with_reducible apply dX_);(first|exact zUe aq_ rfl rfl|exact zUe aM_ rfl rfl|exact zUe ba_ rfl rfl|exact zUe cF_ rfl rfl|exact zUe aA_ rfl rfl|exact zUe P_ rfl rfl|exact zUe cH_ rfl rfl|exact zUe f_ rfl rfl|exact zUe ad_ rfl rfl|exact zUe E_ rfl rfl|exact zUe cX_ rfl rfl|exact zUe cv_ rfl rfl|exact zUe aj_ rfl rfl|exact zUe bj_ rfl rfl|exact zUe cG_ rfl rfl|exact zUe ce_ rfl rfl|exact zUe cf_ rfl rfl);exact rfl)|((with_reducible apply (co_ 0));rotate_left;exact zS rfl;exact rfl;exact rfl;exact rfl;exact zA rfl)|((with_reducible apply (co_ 1));rotate_left;exact zS rfl;exact rfl;exact rfl;exact rfl;exact zA rfl)|((with_reducible apply (co_ 2));rotate_left;exact zS rfl;exact rfl;exact rfl;exact rfl;exact zA rfl)|((with_reducible apply (co_ 3));rotate_left;exact zS rfl;exact rfl;exact rfl;exact rfl;exact zA rfl)|((with_reducible apply lg_);rotate_left;exact rfl;(intro v _ h;first|exact h.1|exact h.2.1|exact h.2.2.1|exact h.2.2.2.1|exact h.2.2.2.2.1|exact h.2.2.2.2.2.1|exact h.2.2.2.2.2.2.1|exact h.2.2.2.2.2.2.2.1|exact h.2.2.2.2.2.2.2.2.1|exact h.2.2.2.2.2.2.2.2.2.1|exact h.2.2.2.2.2.2.2.2.2.2.1|exact h.2.2.2.2.2.2.2.2.2.2.2.1);exact rfl;exact zA rfl)|((with_reducible apply X_);(first|exact zUe aq_ rfl rfl|exact zUe aM_ rfl rfl|exact zUe ba_ rfl rfl|exact zUe cF_ rfl rfl|exact zUe aA_ rfl rfl|exact zUe P_ rfl rfl|exact zUe cH_ rfl rfl|exact zUe f_ rfl rfl|exact zUe ad_ rfl rfl|exact zUe E_ rfl rfl|exact zUe cX_ rfl rfl|exact zUe cv_ rfl rfl|exact zUe aj_ rfl rfl|exact zUe bj_ rfl rfl|exact zUe cG_ rfl rfl|exact zUe ce_ rfl rfl|exact zUe cf_ rfl rfl);exact zS rfl;exact rfl;exact rfl;(intro v _ h;first|exact G_ Pc.cells_len (by decide) h.1 (by assumption)|exact G_ Pc.cells_len (by decide) h.2.1 (by assumption)|exact G_ Pc.cells_len (by decide) h.2.2.1 (by assumption)|exact G_ Pc.cells_len (by decide) h.2.2.2.1 (by assumption)|exact G_ Pc.cells_len (by decide) h.2.2.2.2.1 (by assumption)|exact G_ Pc.cells_len (by decide) h.2.2.2.2.2.1 (by assumption)|exact G_ Pc.cells_len (by decide) h.2.2.2.2.2.2.1 (by assumption)|exact G_ Pc.cells_len (by decide) h.2.2.2.2.2.2.2.1 (by assumption)|exact G_ Fc.cells_len (by decide) h.1 (by assumption)|exact G_ Fc.cells_len (by decide) h.2.1 (by assumption)|exact G_ Fc.cells_len (by decide) h.2.2.1 (by assumption)|exact G_ Fc.cells_len (by decide) h.2.2.2.1 (by assumption)|exact G_ Fc.cells_len (by decide) h.2.2.2.2.1 (by assumption)|exact G_ Fc.cells_len (by decide) h.2.2.2.2.2.1 (by assumption)|exact G_ Fc.cells_len (by decide) h.2.2.2.2.2.2.1 (by assumption)|exact G_ Fc.cells_len (by decide) h.2.2.2.2.2.2.2.1 (by assumption)|exact G_ Stp.cells_len (by decide) h.1 (by assumption)|exact G_ Stp.cells_len (by decide) h.2.1 (by assumption)|exact G_ Stp.cells_len (by decide) h.2.2.1 (by assumption)|exact G_ Stp.cells_len (by decide) h.2.2.2.1 (by assumption)|exact G_ Stp.cells_len (by decide) h.2.2.2.2.1 (by assumption)|exact G_ Stp.cells_len (by decide) h.2.2.2.2.2.1 (by assumption)|exact G_ Stp.cells_len (by decide) h.2.2.2.2.2.2.1 (by assumption)|exact G_ Stp.cells_len (by decide) h.2.2.2.2.2.2.2.1 (by assumption)|exact G_ aD_ (by decide) h.1 (by assumption)|exact G_ aD_ (by decide) h.2.1 (by assumption)|exact G_ aD_ (by decide) h.2.2.1 (by assumption)|exact G_ aD_ (by decide) h.2.2.2.1 (by assumption)|exact G_ aD_ (by decide) h.2.2.2.2.1 (by assumption)|exact G_ aD_ (by decide) h.2.2.2.2.2.1 (by assumption)|exact G_ aD_ (by decide) h.2.2.2.2.2.2.1 (by assumption)|exact G_ aD_ (by decide) h.2.2.2.2.2.2.2.1 (by assumption)|exact G_ D_ (by decide) h.1 (by assumption)|exact G_ D_ (by decide) h.2.1 (by assumption)|exact G_ D_ (by decide) h.2.2.1 (by assumption)|exact G_ D_ (by decide) h.2.2.2.1 (by assumption)|exact G_ D_ (by decide) h.2.2.2.2.1 (by assumption)|exact G_ D_ (by decide) h.2.2.2.2.2.1 (by assumption)|exact G_ D_ (by decide) h.2.2.2.2.2.2.1 (by assumption)|exact G_ D_ (by decide) h.2.2.2.2.2.2.2.1 (by assumption));omega;(first|omega|(simp;done)))|((with_reducible apply at_);rotate_left;exact rfl;(intro v _ h;first|exact h.1|exact h.2.1|exact h.2.2.1|exact h.2.2.2.1|exact h.2.2.2.2.1|exact h.2.2.2.2.2.1|exact h.2.2.2.2.2.2.1|exact h.2.2.2.2.2.2.2.1|exact h.2.2.2.2.2.2.2.2.1|exact h.2.2.2.2.2.2.2.2.2.1|exact h.2.2.2.2.2.2.2.2.2.2.1|exact h.2.2.2.2.2.2.2.2.2.2.2.1);(first|exact t_ Pc.cells_len (by assumption) 0 _ rfl|exact t_ Pc.cells_len (by assumption) _ _ rfl|exact t_ Fc.cells_len (by assumption) 0 _ rfl|exact t_ Fc.cells_len (by assumption) _ _ rfl|exact t_ Stp.cells_len (by assumption) 0 _ rfl|exact t_ Stp.cells_len (by assumption) _ _ rfl|exact t_ aD_ (by assumption) 0 _ rfl|exact t_ aD_ (by assumption) _ _ rfl|exact t_ D_ (by assumption) 0 _ rfl|exact t_ D_ (by assumption) _ _ rfl|exact t_ Stp.cells_len (by assumption) 2 _ rfl|exact t_ Stp.cells_len (by assumption) 3 _ rfl|exact t_ Stp.cells_len (by assumption) 4 _ rfl|exact t_ Stp.cells_len (by assumption) 5 _ rfl|exact t_ Stp.cells_len (by assumption) 6 _ rfl);exact zA rfl)|((with_reducible apply bi_);rotate_left;exact zS rfl;exact rfl;(intro v _ h;first|exact h.1|exact h.2.1|exact h.2.2.1|exact h.2.2.2.1|exact h.2.2.2.2.1|exact h.2.2.2.2.2.1|exact h.2.2.2.2.2.2.1|exact h.2.2.2.2.2.2.2.1|exact h.2.2.2.2.2.2.2.2.1|exact h.2.2.2.2.2.2.2.2.2.1|exact h.2.2.2.2.2.2.2.2.2.2.1|exact h.2.2.2.2.2.2.2.2.2.2.2.1);rotate_left;(first|exact t_ Pc.cells_len (by assumption)|exact t_ Fc.cells_len (by assumption)|exact t_ Stp.cells_len (by assumption));exact zA rfl;(first|exact Pc.cells_len _|exact Fc.cells_len _|exact Stp.cells_len _))|((with_reducible apply (bx_ 4));rotate_left;exact rfl;exact rfl;exact rfl;exact zA rfl)|((with_reducible apply (bx_ 5));rotate_left;exact rfl;exact rfl;exact rfl;exact zA rfl)|((with_reducible apply (bx_ 6));rotate_left;exact rfl;exact rfl;exact rfl;exact zA rfl)|((with_reducible apply (bx_ 7));rotate_left;exact rfl;exact rfl;exact rfl;exact zA rfl)|((with_reducible apply (co_ 4));rotate_left;exact zS rfl;exact rfl;exact rfl;exact rfl;exact zA rfl)|((with_reducible apply (co_ 5));rotate_left;exact zS rfl;exact rfl;exact rfl;exact rfl;exact zA rfl)|((with_reducible apply (co_ 6));rotate_left;exact zS rfl;exact rfl;exact rfl;exact rfl;exact zA rfl)|((with_reducible apply (co_ 7));rotate_left;exact zS rfl;exact rfl;exact rfl;exact rfl;exact zA rfl)))))|(apply cn;intro h_;first|((with_reducible apply oT_);exact h_)|((with_reducible apply nC_);exact rfl;exact h_)|((with_reducible apply cg_);exact h_)|((with_reducible apply of_);exact h_)|((with_reducible apply aJ_);exact rfl;exact rfl;exact h_)|((with_reducible apply oS_);exact rfl;exact rfl;exact rfl;exact rfl;exact h_)|((with_reducible apply cO_);exact rfl;exact h_)|((with_reducible apply oh_);exact rfl;exact h_)|((with_reducible apply qX_);exact h_)|((with_reducible apply cJ_);exact h_)|((with_reducible apply sZ_);exact h_)|((with_reducible apply tF_);exact rfl;exact h_)|((with_reducible apply sq_noG);exact rfl;exact rfl;exact rfl;exact rfl;exact rfl;exact h_)|((with_reducible apply sG_);kernel_rfl;exact h_)|((with_reducible apply pH_);exact h_)|((with_reducible apply qY_);exact rfl;exact h_)|((with_reducible apply pG_);kernel_rfl;exact h_)|((with_reducible apply tG_);exact rfl;exact h_)|((with_reducible apply K_);exact zs;exact h_)|((apply aJ_);exact rfl;exact rfl;exact h_)|((apply oS_);exact rfl;exact rfl;exact rfl;exact rfl;exact h_)|((apply oT_);exact h_))|(apply cn;intro h_;((apply i_);rotate_left;exact rfl;exact h_;rotate_right);(focus (first|((with_reducible apply az_);exact rfl)|((with_reducible apply hT_);exact rfl)|((with_reducible apply cY_);rotate_left;exact rfl;rotate_right;(first|exact zUe aq_ rfl rfl|exact zUe aM_ rfl rfl|exact zUe ba_ rfl rfl|exact zUe cF_ rfl rfl|exact zUe aA_ rfl rfl|exact zUe P_ rfl rfl|exact zUe cH_ rfl rfl|exact zUe f_ rfl rfl|exact zUe ad_ rfl rfl|exact zUe E_ rfl rfl|exact zUe cX_ rfl rfl|exact zUe cv_ rfl rfl|exact zUe aj_ rfl rfl|exact zUe bj_ rfl rfl|exact zUe cG_ rfl rfl|exact zUe ce_ rfl rfl|exact zUe cf_ rfl rfl);exact rfl;exact rfl;exact zS rfl)|((with_reducible apply bh_);(first|exact zUe aq_ rfl rfl|exact zUe aM_ rfl rfl|exact zUe ba_ rfl rfl|exact zUe cF_ rfl rfl|exact zUe aA_ rfl rfl|exact zUe P_ rfl rfl|exact zUe cH_ rfl rfl|exact zUe f_ rfl rfl|exact zUe ad_ rfl rfl|exact zUe E_ rfl rfl|exact zUe cX_ rfl rfl|exact zUe cv_ rfl rfl|exact zUe aj_ rfl rfl|exact zUe bj_ rfl rfl|exact zUe cG_ rfl rfl|exact zUe ce_ rfl rfl|exact zUe cf_ rfl rfl);exact rfl;exact rfl;exact rfl;exact zS rfl)|((with_reducible apply (bx_ 0));rotate_left;exact rfl;exact rfl;exact rfl;exact zA rfl)|((with_reducible apply (bx_ 1));rotate_left;exact rfl;exact rfl;exact rfl;exact zA rfl)|((with_reducible apply (bx_ 2));rotate_left;exact rfl;exact rfl;exact rfl;exact zA rfl)|((with_reducible apply (bx_ 3));rotate_left;exact rfl;exact rfl;exact rfl;exact zA rfl)|((with_reducible apply jP_);exact rfl;exact rfl)|((with_reducible apply jO_);exact rfl;exact rfl)|((with_reducible apply dx_);exact rfl;exact rfl;exact rfl;exact fQ_ (by omega) (by omega))|((with_reducible apply cM_);exact rfl)|((with_reducible apply jd_);exact rfl;exact rfl)|((with_reducible apply dX_);(first|exact zUe aq_ rfl rfl|exact zUe aM_ rfl rfl|exact zUe ba_ rfl rfl|exact zUe cF_ rfl rfl|exact zUe aA_ rfl rfl|exact zUe P_ rfl rfl|exact zUe cH_ rfl rfl|exact zUe f_ rfl rfl|exact zUe ad_ rfl rfl|exact zUe E_ rfl rfl|exact zUe cX_ rfl rfl|exact zUe cv_ rfl rfl|exact zUe aj_ rfl rfl|exact zUe bj_ rfl rfl|exact zUe cG_ rfl rfl|exact zUe ce_ rfl rfl|exact zUe cf_ rfl rfl);exact rfl)|((with_reducible apply (co_ 0));rotate_left;exact zS rfl;exact rfl;exact rfl;exact rfl;exact zA rfl)|((with_reducible apply (co_ 1));rotate_left;exact zS rfl;exact rfl;exact rfl;exact rfl;exact zA rfl)|((with_reducible apply (co_ 2));rotate_left;exact zS rfl;exact rfl;exact rfl;exact rfl;exact zA rfl)|((with_reducible apply (co_ 3));rotate_left;exact zS rfl;exact rfl;exact rfl;exact rfl;exact zA rfl)|((with_reducible apply lg_);rotate_left;exact rfl;(intro v _ h;first|exact h.1|exact h.2.1|exact h.2.2.1|exact h.2.2.2.1|exact h.2.2.2.2.1|exact h.2.2.2.2.2.1|exact h.2.2.2.2.2.2.1|exact h.2.2.2.2.2.2.2.1|exact h.2.2.2.2.2.2.2.2.1|exact h.2.2.2.2.2.2.2.2.2.1|exact h.2.2.2.2.2.2.2.2.2.2.1|exact h.2.2.2.2.2.2.2.2.2.2.2.1);exact rfl;exact zA rfl)|((with_reducible apply X_);(first|exact zUe aq_ rfl rfl|exact zUe aM_ rfl rfl|exact zUe ba_ rfl rfl|exact zUe cF_ rfl rfl|exact zUe aA_ rfl rfl|exact zUe P_ rfl rfl|exact zUe cH_ rfl rfl|exact zUe f_ rfl rfl|exact zUe ad_ rfl rfl|exact zUe E_ rfl rfl|exact zUe cX_ rfl rfl|exact zUe cv_ rfl rfl|exact zUe aj_ rfl rfl|exact zUe bj_ rfl rfl|exact zUe cG_ rfl rfl|exact zUe ce_ rfl rfl|exact zUe cf_ rfl rfl);exact zS rfl;exact rfl;exact rfl;(intro v _ h;first|exact G_ Pc.cells_len (by decide) h.1 (by assumption)|exact G_ Pc.cells_len (by decide) h.2.1 (by assumption)|exact G_ Pc.cells_len (by decide) h.2.2.1 (by assumption)|exact G_ Pc.cells_len (by decide) h.2.2.2.1 (by assumption)|exact G_ Pc.cells_len (by decide) h.2.2.2.2.1 (by assumption)|exact G_ Pc.cells_len (by decide) h.2.2.2.2.2.1 (by assumption)|exact G_ Pc.cells_len (by decide) h.2.2.2.2.2.2.1 (by assumption)|exact G_ Pc.cells_len (by decide) h.2.2.2.2.2.2.2.1 (by assumption)|exact G_ Fc.cells_len (by decide) h.1 (by assumption)|exact G_ Fc.cells_len (by decide) h.2.1 (by assumption)|exact G_ Fc.cells_len (by decide) h.2.2.1 (by assumption)|exact G_ Fc.cells_len (by decide) h.2.2.2.1 (by assumption)|exact G_ Fc.cells_len (by decide) h.2.2.2.2.1 (by assumption)|exact G_ Fc.cells_len (by decide) h.2.2.2.2.2.1 (by assumption)|exact G_ Fc.cells_len (by decide) h.2.2.2.2.2.2.1 (by assumption)|exact G_ Fc.cells_len (by decide) h.2.2.2.2.2.2.2.1 (by assumption)|exact G_ Stp.cells_len (by decide) h.1 (by assumption)|exact G_ Stp.cells_len (by decide) h.2.1 (by assumption)|exact G_ Stp.cells_len (by decide) h.2.2.1 (by assumption)|exact G_ Stp.cells_len (by decide) h.2.2.2.1 (by assumption)|exact G_ Stp.cells_len (by decide) h.2.2.2.2.1 (by assumption)|exact G_ Stp.cells_len (by decide) h.2.2.2.2.2.1 (by assumption)|exact G_ Stp.cells_len (by decide) h.2.2.2.2.2.2.1 (by assumption)|exact G_ Stp.cells_len (by decide) h.2.2.2.2.2.2.2.1 (by assumption)|exact G_ aD_ (by decide) h.1 (by assumption)|exact G_ aD_ (by decide) h.2.1 (by assumption)|exact G_ aD_ (by decide) h.2.2.1 (by assumption)|exact G_ aD_ (by decide) h.2.2.2.1 (by assumption)|exact G_ aD_ (by decide) h.2.2.2.2.1 (by assumption)|exact G_ aD_ (by decide) h.2.2.2.2.2.1 (by assumption)|exact G_ aD_ (by decide) h.2.2.2.2.2.2.1 (by assumption)|exact G_ aD_ (by decide) h.2.2.2.2.2.2.2.1 (by assumption)|exact G_ D_ (by decide) h.1 (by assumption)|exact G_ D_ (by decide) h.2.1 (by assumption)|exact G_ D_ (by decide) h.2.2.1 (by assumption)|exact G_ D_ (by decide) h.2.2.2.1 (by assumption)|exact G_ D_ (by decide) h.2.2.2.2.1 (by assumption)|exact G_ D_ (by decide) h.2.2.2.2.2.1 (by assumption)|exact G_ D_ (by decide) h.2.2.2.2.2.2.1 (by assumption)|exact G_ D_ (by decide) h.2.2.2.2.2.2.2.1 (by assumption));omega;(first|omega|(simp;done)))|((with_reducible apply at_);rotate_left;exact rfl;(intro v _ h;first|exact h.1|exact h.2.1|exact h.2.2.1|exact h.2.2.2.1|exact h.2.2.2.2.1|exact h.2.2.2.2.2.1|exact h.2.2.2.2.2.2.1|exact h.2.2.2.2.2.2.2.1|exact h.2.2.2.2.2.2.2.2.1|exact h.2.2.2.2.2.2.2.2.2.1|exact h.2.2.2.2.2.2.2.2.2.2.1|exact h.2.2.2.2.2.2.2.2.2.2.2.1);(first|exact t_ Pc.cells_len (by assumption) 0 _ rfl|exact t_ Pc.cells_len (by assumption) _ _ rfl|exact t_ Fc.cells_len (by assumption) 0 _ rfl|exact t_ Fc.cells_len (by assumption) _ _ rfl|exact t_ Stp.cells_len (by assumption) 0 _ rfl|exact t_ Stp.cells_len (by assumption) _ _ rfl|exact t_ aD_ (by assumption) 0 _ rfl|exact t_ aD_ (by assumption) _ _ rfl|exact t_ D_ (by assumption) 0 _ rfl|exact t_ D_ (by assumption) _ _ rfl|exact t_ Stp.cells_len (by assumption) 2 _ rfl|exact t_ Stp.cells_len (by assumption) 3 _ rfl|exact t_ Stp.cells_len (by assumption) 4 _ rfl|exact t_ Stp.cells_len (by assumption) 5 _ rfl|exact t_ Stp.cells_len (by assumption) 6 _ rfl);exact zA rfl)|((with_reducible apply bi_);rotate_left;exact zS rfl;exact rfl;(intro v _ h;first|exact h.1|exact h.2.1|exact h.2.2.1|exact h.2.2.2.1|exact h.2.2.2.2.1|exact h.2.2.2.2.2.1|exact h.2.2.2.2.2.2.1|exact h.2.2.2.2.2.2.2.1|exact h.2.2.2.2.2.2.2.2.1|exact h.2.2.2.2.2.2.2.2.2.1|exact h.2.2.2.2.2.2.2.2.2.2.1|exact h.2.2.2.2.2.2.2.2.2.2.2.1);rotate_left;(first|exact t_ Pc.cells_len (by assumption)|exact t_ Fc.cells_len (by assumption)|exact t_ Stp.cells_len (by assumption));exact zA rfl;(first|exact Pc.cells_len _|exact Fc.cells_len _|exact Stp.cells_len _))|((with_reducible apply (bx_ 4));rotate_left;exact rfl;exact rfl;exact rfl;exact zA rfl)|((with_reducible apply (bx_ 5));rotate_left;exact rfl;exact rfl;exact rfl;exact zA rfl)|((with_reducible apply (bx_ 6));rotate_left;exact rfl;exact rfl;exact rfl;exact zA rfl)|((with_reducible apply (bx_ 7));rotate_left;exact rfl;exact rfl;exact rfl;exact zA rfl)|((with_reducible apply (co_ 4));rotate_left;exact zS rfl;exact rfl;exact rfl;exact rfl;exact zA rfl)|((with_reducible apply (co_ 5));rotate_left;exact zS rfl;exact rfl;exact rfl;exact rfl;exact zA rfl)|((with_reducible apply (co_ 6));rotate_left;exact zS rfl;exact rfl;exact rfl;exact rfl;exact zA rfl)|((with_reducible apply (co_ 7));rotate_left;exact zS rfl;exact rfl;exact rfl;exact rfl;exact zA rfl)))))):Cn n B:=h ⟨k⟩
theorem Zi {p q A B C:Prop} (n:Nat) (k0:p→A) (k1:q→B) (h:Kw (p→A)→Kw (q→B)→Cn n C:=by intro k0_ k1_;refine Zy ?_;first|((with_reducible apply aQ_);(first|((with_reducible apply dA_);exact rfl;exact rfl)|((with_reducible apply hw_);exact rfl;exact rfl)|((with_reducible apply fY_);exact rfl;exact rfl)|((with_reducible apply ff_);exact rfl;exact rfl)|((with_reducible apply il_);exact rfl;exact rfl)|((with_reducible apply in_);exact rfl;exact rfl)|((with_reducible apply dN_);exact rfl;exact rfl)|((with_reducible apply jM_);exact rfl;exact rfl)|((with_reducible apply jN_);exact rfl;exact rfl));exact rfl;intro r_ h_;cases r_;(first|exact k0_.go (zdf h_)|exact k0_.go (znb h_)|exact k0_.go (zbe h_));(first|exact k1_.go (zdt h_)|exact k1_.go (zeb h_)|exact k1_.go (zbn h_)))|((with_reducible apply cI_);exact rfl;(first|((with_reducible apply dA_);exact rfl;exact rfl)|((with_reducible apply hw_);exact rfl;exact rfl)|((with_reducible apply fY_);exact rfl;exact rfl)|((with_reducible apply ff_);exact rfl;exact rfl)|((with_reducible apply il_);exact rfl;exact rfl)|((with_reducible apply in_);exact rfl;exact rfl)|((with_reducible apply dN_);exact rfl;exact rfl)|((with_reducible apply jM_);exact rfl;exact rfl)|((with_reducible apply jN_);exact rfl;exact rfl));exact rfl;intro r_ h_;cases r_;(first|exact k0_.go (zdf h_)|exact k0_.go (znb h_)|exact k0_.go (zbe h_));(first|exact k1_.go (zdt h_)|exact k1_.go (zeb h_)|exact k1_.go (zbn h_)))|((with_reducible apply bK_);exact rfl;exact rfl;exact rfl;(first|((with_reducible apply dA_);exact rfl;exact rfl)|((with_reducible apply hw_);exact rfl;exact rfl)|((with_reducible apply fY_);exact rfl;exact rfl)|((with_reducible apply ff_);exact rfl;exact rfl)|((with_reducible apply il_);exact rfl;exact rfl)|((with_reducible apply in_);exact rfl;exact rfl)|((with_reducible apply dN_);exact rfl;exact rfl)|((with_reducible apply jM_);exact rfl;exact rfl)|((with_reducible apply jN_);exact rfl;exact rfl));exact rfl;intro r_ h_;cases r_;(first|exact k0_.go (zdf h_)|exact k0_.go (znb h_)|exact k0_.go (zbe h_));(first|exact k1_.go (zdt h_)|exact k1_.go (zeb h_)|exact k1_.go (zbn h_)))):C:=(h ⟨k0⟩ ⟨k1⟩).go
theorem Zz {A B:Prop} (n:Nat) (k:A) (h:Kw A→Cn n B:=by intro k_;exact Zy k_.go):B:=(h ⟨k⟩).go
end Go.Proofs.YtkeanlfhghlgiaaGreatDoor

namespace Go.Proofs.YtkeanlfhghlgiaaGreatDoor
open Go Go.Sx Go.Proofs
attribute [local irreducible] Code.wp wpList wpAnyH
open Go.Vs
theorem ky_ (c:UInt8) :
    Fn0 Tryz.prog 205 #[.int .u8 (c.toNat:Int)] (.bool (fK_ c)):=by
  refine w_ Tryz.func205 rfl rfl Tryz.ntmps205 rfl fun v0=>?_
  refine Zi 8 (fun hr1=>?_) fun hr1=>?_
  · skip
    refine Zi 8 (fun hr2=>?_) fun hr2=>?_
    · skip
      refine Zz 11 ?_
      exact al_ oO_ () (x_ rfl (by subst_vars;rw[Bool.eq_iff_iff];simp[fK_]<;>omega)) (.refl _) zt
    · skip
      refine Zz 5 ?_
      refine aQ_ (ff_ rfl rfl) rfl fun r3 hr3=>Zz 7 ?_
      exact al_ oO_ () (x_ rfl (by subst_vars;rw[Bool.eq_iff_iff];simp[fK_]<;>omega)) (.refl _) zt
  · skip
    refine Zi 4 (fun hr4=>?_) fun hr4=>?_
    · skip
      refine Zi 5 (fun hr5=>?_) fun hr5=>?_
      · skip
        refine Zz 11 ?_
        exact al_ oO_ () (x_ rfl (by subst_vars;rw[Bool.eq_iff_iff];simp[fK_]<;>omega)) (.refl _) zt
      · skip
        refine Zz 5 ?_
        refine aQ_ (ff_ rfl rfl) rfl fun r6 hr6=>Zz 7 ?_
        exact al_ oO_ () (x_ rfl (by subst_vars;rw[Bool.eq_iff_iff];simp[fK_]<;>omega)) (.refl _) zt
    · skip
      refine Zz 13 ?_
      exact al_ oO_ () (x_ rfl (by subst_vars;rw[Bool.eq_iff_iff];simp[fK_]<;>omega)) (.refl _) zt
theorem nw_ (s:Str) (hs:s.length≤140737488351232) :
    Fn0 Tryz.prog 196 #[str s] (.bool (lm_ s)):=by
  refine w_ Tryz.func196 rfl rfl Tryz.ntmps196 rfl fun v0=>?_
  refine Zz 9 ?_
  refine to_ ag_ ce_ Tryz.runUnderlying5 rfl rfl fun cap b1 hcap=>Zz 5 ?_
  refine dC_ [(6,.slice (some ⟨b1,0,none⟩) s.length cap),(7,.int .i64 (s.length:Int)),(8,.int .i64 ((0:Nat):Int))] zl ?_
  refine ey_ (ι:={k:Nat // k≤s.length∧(s.take k).all fW_=true}) (fun i=>[(6,.slice (some ⟨b1,0,none⟩) s.length cap),(7,.int .i64 (s.length:Int)),(8,.int .i64 (i.1:Int))]) (fun _=>_) (fun _=>_) (fun i=>s.length - i.1) ⟨0,by simp⟩ ?_
  rintro ⟨k,hk⟩
  refine dC_ [(6,.slice (some ⟨b1,0,none⟩) s.length cap),(7,.int .i64 (s.length:Int)),(8,.int .i64 (k:Int))] zl ?_
  refine Zi 2 (fun hr1=>?_) fun hr1=>?_
  · skip
    refine Zz 12 ?_
    exact al_ Tryz.results196 () (x_ rfl (by rw[lm_,ma_ fW_ s k (by omega) hk.2])) (.refl _) zt
  · skip
    have hlt:k<s.length:=by omega
    obtain⟨c,hc⟩:∃ c,s[k]? = some c:=⟨_,List.getElem?_eq_getElem hlt⟩
    refine Zz 10 ?_
    refine i_ (hy_ ce_ Tryz.sizeOf5 rfl rfl (by omega) (by omega)) rfl (i_ (bx_ (u:=.int .u8 (c.toNat:Int)) 0 Tryz.isAgg5 rfl rfl (by rw[show 0+((k:Int)).toNat*1=k by omega];exact rT_ hc)) rfl ?_)
    refine Zz 6 ?_
    refine br_ (ky_ c) rfl (.refl _) zt rfl fun r2 hr2=>i_ (bt_ rfl) rfl (Zz 1 ?_)
    cases r2
    · skip
      refine Zi 3 (fun hr3=>?_) fun hr3=>?_
      · skip
        refine Zz 19 ?_
        exact y_ ⟨k+1,hlt,fR_ _ s k c hc hk.2 (by simp[fW_, *]<;>omega)⟩ (by simp;omega) zl (.refl _) zh
      · skip
        refine Zi 5 (fun hr4=>?_) fun hr4=>?_
        · skip
          refine Zi 5 (fun hr5=>?_) fun hr5=>?_
          · skip
            refine Zz 13 ?_
            exact y_ ⟨k+1,hlt,fR_ _ s k c hc hk.2 (by simp[fW_, *]<;>omega)⟩ (by simp;omega) zl (.refl _) zh
          · skip
            refine Zz 12 ?_
            exact al_ Tryz.results196 () (x_ rfl (by rw[lm_,iq_ fW_ s k c hc (by simp[fW_, *]<;>omega)])) (.refl _) zt
        · skip
          refine Zz 16 ?_
          exact al_ Tryz.results196 () (x_ rfl (by rw[lm_,iq_ fW_ s k c hc (by simp[fW_, *]<;>omega)])) (.refl _) zt
    · skip
      refine Zz 21 ?_
      exact y_ ⟨k+1,hlt,fR_ _ s k c hc hk.2 (by simp[fW_, *]<;>omega)⟩ (by simp;omega) zl (.refl _) zh
theorem qb_ (s:Str) :
    Fn0 Tryz.prog 206 #[str s] (.bool (bN_ s)):=by
  refine w_ Tryz.func206 rfl rfl Tryz.ntmps206 rfl fun v0=>?_
  refine Zi 15 (fun hr1=>?_) fun hr1=>?_
  · skip
    refine Zi 6 (fun hr2=>?_) fun hr2=>?_
    · skip
      refine Zi 6 (fun hr3=>?_) fun hr3=>?_
      · skip
        refine Zi 6 (fun hr4=>?_) fun hr4=>?_
        · skip
          refine Zi 6 (fun hr5=>?_) fun hr5=>?_
          · skip
            refine Zi 6 (fun hr6=>?_) fun hr6=>?_
            · skip
              refine Zi 6 (fun hr7=>?_) fun hr7=>?_
              · skip
                refine Zi 6 (fun hr8=>?_) fun hr8=>?_
                · skip
                  refine Zi 6 (fun hr9=>?_) fun hr9=>?_
                  · skip
                    refine Zi 6 (fun hr10=>?_) fun hr10=>?_
                    · skip
                      refine Zi 6 (fun hr11=>?_) fun hr11=>?_
                      · skip
                        refine Zi 6 (fun hr12=>?_) fun hr12=>?_
                        · skip
                          refine Zi 6 (fun hr13=>?_) fun hr13=>?_
                          · skip
                            refine Zi 6 (fun hr14=>?_) fun hr14=>?_
                            · skip
                              refine Zi 6 (fun hr15=>?_) fun hr15=>?_
                              · skip
                                refine Zi 6 (fun hr16=>?_) fun hr16=>?_
                                · skip
                                  refine Zi 6 (fun hr17=>?_) fun hr17=>?_
                                  · skip
                                    refine Zi 6 (fun hr18=>?_) fun hr18=>?_
                                    · skip
                                      refine Zi 6 (fun hr19=>?_) fun hr19=>?_
                                      · skip
                                        refine Zi 6 (fun hr20=>?_) fun hr20=>?_
                                        · skip
                                          refine Zi 6 (fun hr21=>?_) fun hr21=>?_
                                          · skip
                                            refine Zi 5 (fun hr22=>?_) fun hr22=>?_
                                            · skip
                                              refine Zz 12 ?_
                                              exact al_ aK_ () (x_ rfl (by simp[bN_,kws, *])) (.refl _) zt
                                            · skip
                                              refine Zz 10 ?_
                                              exact al_ aK_ () (x_ rfl (by simp[bN_,kws, *])) (.refl _) zt
                                          · skip
                                            refine Zz 13 ?_
                                            exact al_ aK_ () (x_ rfl (by simp[bN_,kws, *])) (.refl _) zt
                                        · skip
                                          refine Zz 13 ?_
                                          exact al_ aK_ () (x_ rfl (by simp[bN_,kws, *])) (.refl _) zt
                                      · skip
                                        refine Zz 13 ?_
                                        exact al_ aK_ () (x_ rfl (by simp[bN_,kws, *])) (.refl _) zt
                                    · skip
                                      refine Zz 13 ?_
                                      exact al_ aK_ () (x_ rfl (by simp[bN_,kws, *])) (.refl _) zt
                                  · skip
                                    refine Zz 13 ?_
                                    exact al_ aK_ () (x_ rfl (by simp[bN_,kws, *])) (.refl _) zt
                                · skip
                                  refine Zz 13 ?_
                                  exact al_ aK_ () (x_ rfl (by simp[bN_,kws, *])) (.refl _) zt
                              · skip
                                refine Zz 13 ?_
                                exact al_ aK_ () (x_ rfl (by simp[bN_,kws, *])) (.refl _) zt
                            · skip
                              refine Zz 13 ?_
                              exact al_ aK_ () (x_ rfl (by simp[bN_,kws, *])) (.refl _) zt
                          · skip
                            refine Zz 13 ?_
                            exact al_ aK_ () (x_ rfl (by simp[bN_,kws, *])) (.refl _) zt
                        · skip
                          refine Zz 13 ?_
                          exact al_ aK_ () (x_ rfl (by simp[bN_,kws, *])) (.refl _) zt
                      · skip
                        refine Zz 13 ?_
                        exact al_ aK_ () (x_ rfl (by simp[bN_,kws, *])) (.refl _) zt
                    · skip
                      refine Zz 13 ?_
                      exact al_ aK_ () (x_ rfl (by simp[bN_,kws, *])) (.refl _) zt
                  · skip
                    refine Zz 13 ?_
                    exact al_ aK_ () (x_ rfl (by simp[bN_,kws, *])) (.refl _) zt
                · skip
                  refine Zz 13 ?_
                  exact al_ aK_ () (x_ rfl (by simp[bN_,kws, *])) (.refl _) zt
              · skip
                refine Zz 13 ?_
                exact al_ aK_ () (x_ rfl (by simp[bN_,kws, *])) (.refl _) zt
            · skip
              refine Zz 13 ?_
              exact al_ aK_ () (x_ rfl (by simp[bN_,kws, *])) (.refl _) zt
          · skip
            refine Zz 13 ?_
            exact al_ aK_ () (x_ rfl (by simp[bN_,kws, *])) (.refl _) zt
        · skip
          refine Zz 13 ?_
          exact al_ aK_ () (x_ rfl (by simp[bN_,kws, *])) (.refl _) zt
      · skip
        refine Zz 13 ?_
        exact al_ aK_ () (x_ rfl (by simp[bN_,kws, *])) (.refl _) zt
    · skip
      refine Zz 13 ?_
      exact al_ aK_ () (x_ rfl (by simp[bN_,kws, *])) (.refl _) zt
  · skip
    refine Zz 13 ?_
    exact al_ aK_ () (x_ rfl (by simp[bN_,kws, *])) (.refl _) zt
end Go.Proofs.YtkeanlfhghlgiaaGreatDoor
namespace Go.Proofs.YtkeanlfhghlgiaaGreatDoor
open Go Go.Sx Go.Proofs
attribute [local irreducible] Code.wp wpList wpAnyH
open Go.Vs
theorem kx_ (s:Str) (hs:s.length≤140737488351232) :
    Fn0 Tryz.prog 195 #[str s] (.bool (je_ s)):=by
  refine w_ Tryz.func195 rfl rfl Tryz.ntmps195 rfl fun v0=>?_
  refine Zi 8 (fun hr1=>?_) fun hr1=>?_
  · skip
    refine Zz 18 ?_
    exact al_ Tryz.results195 () (x_ rfl (by simp[je_, *])) (.refl _) zt
  · skip
    obtain⟨c,t,rfl⟩:=List.exists_cons_of_ne_nil hr1
    refine Zz 4 ?_
    refine i_ (dE_ ag_ rfl rfl (by decide) rfl) rfl (aJ_ rfl rfl (br_ (ky_ _) rfl (.refl _) zt rfl fun r2 hr2=>Zz 2 ?_))
    cases r2
    · skip
      refine Zz 12 ?_
      exact al_ Tryz.results195 () (x_ rfl (by simp[je_, *])) (.refl _) zt
    · skip
      refine Zz 3 ?_
      refine br_ (nw_ _ (by assumption)) rfl (.refl _) zt rfl fun r3 hr3=>Zz 2 ?_
      cases r3
      · skip
        refine Zz 8 ?_
        exact al_ Tryz.results195 () (x_ rfl (by simp[je_, *])) (.refl _) zt
      · skip
        refine Zz 3 ?_
        refine br_ (qb_ _) rfl (.refl _) zt rfl fun r4 hr4=>aJ_ rfl rfl (i_ (bt_ rfl) rfl (Zz 5 ?_))
        exact al_ Tryz.results195 () (x_ rfl (by simp[je_, *])) (.refl _) zt
theorem mo_ (s:Str) (hs:s.length≤140737488351232) :
    Fn0 Tryz.prog 179 #[str s] (.bool (dQ_ s)):=by
  refine w_ Tryz.func179 rfl rfl Tryz.ntmps179 rfl fun v0=>?_
  refine Zz 8 ?_
  refine i_ (cW_ ag_ rfl) rfl ?_
  refine Zi 0 (fun hr1=>?_) fun hr1=>?_
  · skip
    refine Zz 18 ?_
    exact al_ Tryz.results179 () (x_ rfl (by subst_vars;rw[Bool.eq_iff_iff];simp[dQ_]<;>simp at*<;> omega)) (.refl _) zt
  · skip
    refine Zz 4 ?_
    refine i_ (cW_ ag_ rfl) rfl (aJ_ rfl rfl ?_)
    refine Zi 0 (fun hr2=>?_) fun hr2=>?_
    · skip
      refine Zz 14 ?_
      exact al_ Tryz.results179 () (x_ rfl (by subst_vars;rw[Bool.eq_iff_iff];simp[dQ_]<;>simp at*<;> omega)) (.refl _) zt
    · skip
      obtain⟨c,t,rfl⟩:=List.exists_cons_of_length_pos (l:=s) (by omega)
      refine Zz 5 ?_
      refine i_ (dE_ ag_ rfl rfl (by decide) rfl) rfl (aJ_ rfl rfl ?_)
      refine Zi 0 (fun hr3=>?_) fun hr3=>?_
      · skip
        refine Zz 9 ?_
        exact al_ Tryz.results179 () (x_ rfl (by subst_vars;rw[Bool.eq_iff_iff];simp[dQ_]<;>simp at*<;> omega)) (.refl _) zt
      · skip
        refine Zz 5 ?_
        refine br_ (nw_ _ (by assumption)) rfl (.refl _) zt rfl fun r4 hr4=>Zz 5 ?_
        exact al_ Tryz.results179 () (x_ rfl (by subst_vars;rw[Bool.eq_iff_iff];simp[dQ_]<;>simp at*<;> omega)) (.refl _) zt
theorem jj_ (s:Str) (c:UInt8):Fn0 Tryz.prog 203 #[str s,str [c]] (.int .i64 (Lib.indexByte s c)) :=
  gN_ (callable Tryz.func203 rfl rfl) fun w=>(Tryz.stringslite_Index_one ⟨s.toArray⟩ c w).mono (by rintro e w' ⟨rfl,rfl⟩;exact⟨rfl,rfl,rfl,rfl,rfl,Nat.le_refl _⟩)
theorem ms_ (s:Str) (c:UInt8) (hk:ixS c s=none):Fn0 Tryz.prog 203 #[str s,str [c]] (.int .i64 (-1)):=by
  have h:=jj_ s c
  rw[jG_,hk]at h
  exact h
theorem mr_ (s:Str) (c:UInt8) (k:Nat) (hk:ixS c s=some k):Fn0 Tryz.prog 203 #[str s,str [c]] (.int .i64 (k:Int)):=by
  have h:=jj_ s c
  rw[jG_,hk]at h
  exact h
theorem qm_ (s:Str) (c:UInt8) (hk:ixS c s=none) :
    Fn0 Tryz.prog 204 #[str s,str [c]] (.tuple #[str s,str [],.bool false]):=by
  refine w_ Tryz.func204 rfl rfl Tryz.ntmps204 rfl fun v0=>?_
  refine Zz 12 ?_
  refine n_ (ms_ s c hk) rfl (.refl _) zt rfl fun _=>Zi 6 (fun hr1=>?_) fun hr1=>?_
  · skip
    refine Zz 14 ?_
    exact fS_ Tryz.results204 () rfl rfl rfl rfl (.refl _) zt
  · skip
    exact absurd hr1 (by decide)
theorem ql_ (s:Str) (c:UInt8) (k:Nat) (hk:ixS c s=some k) (hl:k<s.length) (hs:s.length≤140737488351232) :
    Fn0 Tryz.prog 204 #[str s,str [c]] (.tuple #[str (s.take k),str (s.drop (k+1)),.bool true]):=by
  refine w_ Tryz.func204 rfl rfl Tryz.ntmps204 rfl fun v0=>?_
  refine Zz 12 ?_
  refine n_ (mr_ s c k hk) rfl (.refl _) zt rfl fun _=>Zi 6 (fun hr1=>?_) fun hr1=>?_
  · skip
    exact absurd (by omega) hr1
  · skip
    refine Zz 5 ?_
    refine s_ 0 [0,1,2,3,4,5,6,7,8,9,10,11] zk zs (Zz 2 ?_)
    refine R_ rfl (fs_ (i:=0) (j:=k) (kl:=.i64) ag_ rfl rfl rfl (by omega) (by omega)) rfl (Zz 3 ?_)
    refine R_ rfl (cW_ ag_ rfl) rfl ?_
    refine R_ rfl (dx_ rfl rfl rfl (fQ_ (by simp only[List.length_cons,List.length_nil];omega) (by simp only[List.length_cons,List.length_nil];omega))) rfl ?_
    refine R_ rfl (fs_ (i:=k+1) (j:=s.length) (kh:=.i64) ag_ rfl rfl rfl (by omega) (by omega)) rfl (Zz 7 ?_)
    exact fS_ Tryz.results204 () rfl rfl rfl (by simp[List.take_of_length_le]) (.refl _) zt
theorem ss_ (s:Str) (c:UInt8) (hk:ixS c s=none) :
    Fn0 Tryz.prog 194 #[str s,str [c]] (.tuple #[str s,str [],.bool false]):=by
  refine w_ Tryz.func194 rfl rfl Tryz.ntmps194 rfl fun v0=>?_
  refine Zz 11 ?_
  refine n_ (qm_ s c hk) rfl (.refl _) zt rfl fun _=>Zz 9 ?_
  exact fS_ Tryz.results194 () rfl rfl rfl rfl (.refl _) zt
theorem mq_ (s:Str) (hk:ixS 58 s=none) :
    Fn0 Tryz.prog 178 #[str s] (.bool (ek_ s)):=by
  refine w_ Tryz.func178 rfl rfl Tryz.ntmps178 rfl fun v0=>?_
  refine Zz 9 ?_
  refine i_ (cW_ ag_ rfl) rfl ?_
  refine Zi 0 (fun hr1=>?_) fun hr1=>?_
  · skip
    refine Zz 8 ?_
    refine n_ (ss_ s 58 hk) rfl (.refl _) zt rfl fun _=>Zz 12 ?_
    refine br_ (kx_ _ (by first|omega|(simp;omega))) rfl (.refl _) zt rfl fun r2 hr2=>?_
    refine Zz 1 ?_
    cases r2
    · skip
      refine Zz 11 ?_
      exact al_ iR_ () (x_ rfl (by simp[ek_, *]<;>omega)) (.refl _) zt
    · skip
      refine Zz 3 ?_
      refine i_ (bt_ rfl) rfl (Zz 11 ?_)
      exact al_ iR_ () (x_ rfl (by simp[ek_, *]<;>omega)) (.refl _) zt
  · skip
    refine Zz 9 ?_
    exact al_ iR_ () (x_ rfl (by simp[ek_, *]<;>omega)) (.refl _) zt
theorem sr_ (s:Str) (c:UInt8) (k:Nat) (hk:ixS c s=some k) (hl:k<s.length) (hs:s.length≤140737488351232) :
    Fn0 Tryz.prog 194 #[str s,str [c]] (.tuple #[str (s.take k),str (s.drop (k+1)),.bool true]):=by
  refine w_ Tryz.func194 rfl rfl Tryz.ntmps194 rfl fun v0=>?_
  refine Zz 11 ?_
  refine n_ (ql_ s c k hk hl hs) rfl (.refl _) zt rfl fun _=>Zz 9 ?_
  exact fS_ Tryz.results194 () rfl rfl rfl rfl (.refl _) zt
theorem mp_ (s:Str) (k:Nat) (hk:ixS 58 s=some k) (hl:k<s.length) :
    Fn0 Tryz.prog 178 #[str s] (.bool (ek_ s)):=by
  refine w_ Tryz.func178 rfl rfl Tryz.ntmps178 rfl fun v0=>?_
  refine Zz 9 ?_
  refine i_ (cW_ ag_ rfl) rfl ?_
  refine Zi 0 (fun hr1=>?_) fun hr1=>?_
  · skip
    refine Zz 8 ?_
    refine n_ (sr_ s 58 k hk hl (by omega)) rfl (.refl _) zt rfl fun _=>Zz 12 ?_
    refine br_ (kx_ _ (by first|omega|(simp;omega))) rfl (.refl _) zt rfl fun r2 hr2=>?_
    refine Zz 1 ?_
    cases r2
    · skip
      refine Zz 11 ?_
      exact al_ iR_ () (x_ rfl (by simp[ek_, *]<;>omega)) (.refl _) zt
    · skip
      refine Zz 3 ?_
      refine i_ (bt_ rfl) rfl (Zz 5 ?_)
      refine br_ (kx_ _ (by first|omega|(simp;omega))) rfl (.refl _) zt rfl fun r3 hr3=>?_
      refine Zz 7 ?_
      exact al_ iR_ () (x_ rfl (by simp[ek_, *]<;>omega)) (.refl _) zt
  · skip
    refine Zz 9 ?_
    exact al_ iR_ () (x_ rfl (by simp[ek_, *]<;>omega)) (.refl _) zt
theorem qg_ (s:Str):Fn0 Tryz.prog 178 #[str s] (.bool (ek_ s)):=by
  cases hk:ixS 58 s with
  | none=>exact mq_ s hk
  | some k=>exact mp_ s k hk (ou_ hk)
theorem nP_ (s:Str) (hs:s.length≤140737488351232) :
    Fn0 Tryz.prog 155 #[str s] (.int .i64 (if ck_ s then 0 else 20)):=by
  refine w_ Tryz.func155 rfl rfl Tryz.ntmps155 rfl fun v0=>?_
  refine Zz 9 ?_
  refine br_ (qg_ _) rfl (.refl _) zt rfl fun r1 hr1=>Zz 1 ?_
  cases r1
  · skip
    refine Zz 3 ?_
    refine br_ (mo_ _ hs) rfl (.refl _) zt rfl fun r2 hr2=>Zz 3 ?_
    cases r2
    · skip
      refine Zz 9 ?_
      exact al_ Tryz.results155 () (cq_ rfl (by simp[ck_, *])) (.refl _) zt
    · skip
      refine Zz 7 ?_
      exact al_ Tryz.results155 () (cq_ rfl (by simp[ck_, *])) (.refl _) zt
  · skip
    refine Zz 12 ?_
    exact al_ Tryz.results155 () (cq_ rfl (by simp[ck_, *])) (.refl _) zt
theorem ea_ (s:Str) (hs:s.length≤140737488351232) :
    Fn0 Tryz.prog 121 #[str s] (.bool (ck_ s)):=by
  refine w_ Tryz.func121 rfl rfl Tryz.ntmps121 rfl fun v0=>?_
  refine Zz 8 ?_
  refine n_ (nP_ s hs) rfl (.refl _) zt rfl fun _=>aQ_ (dA_ rfl rfl) rfl fun r1 hr1=>Zz 4 ?_
  exact al_ Tryz.results121 () (x_ rfl (by subst_vars;cases ck_ s<;>rfl)) (.refl _) zt
end Go.Proofs.YtkeanlfhghlgiaaGreatDoor
namespace Go.Proofs.YtkeanlfhghlgiaaGreatDoor
open Go Go.Sx Go.Proofs
attribute [local irreducible] Code.wp wpList wpAnyH
open Go.Vs
def jt_:Fct:=af_ (some ⟨0,0,none⟩) (rI_.flatMap NUse.cells)
end Go.Proofs.YtkeanlfhghlgiaaGreatDoor
namespace Go.Proofs.YtkeanlfhghlgiaaGreatDoor
open Go Go.Sx Go.Proofs
attribute [local irreducible] Code.wp wpList wpAnyH
open Go.Vs
theorem eqPc (p q:Pc) (w:World):(Op.equalIn 10000 52 p.val q.val).run Tryz.prog w=.ok (decide (p=q)) w:=by
  have h:=run_equalIn_struct (P:=Tryz.prog) w 9999 52 p.cells.toArray q.cells.toArray (by simp only[Program.fieldsOf,lj_]) Tryz.stoodInHeld52
  refine h.trans ?_
  rw[← Pc.eqb_eq]
  simp only[Program.fieldsOf,lj_]
  exact bF_ rfl O_ rfl rfl (eqI bw_ w) (bF_ rfl U_ rfl rfl (eqS aF_ w) (bF_ rfl U_ rfl rfl (eqS aF_ w) (bF_ rfl U_ rfl rfl (eqS aF_ w) (bF_ rfl U_ rfl rfl (eqS aF_ w) (bF_ rfl U_ rfl rfl (eqS aF_ w) (bF_ rfl U_ rfl rfl (eqS aF_ w) (bF_ rfl O_ rfl rfl (eqI bw_ w) (bF_ rfl O_ rfl rfl (eqI bw_ w) (bF_ rfl O_ rfl rfl (eqI bw_ w) (hJ_ w))))))))))
theorem eqFc (p q:Fc) (w:World):(Op.equalIn 10000 24 p.val q.val).run Tryz.prog w=.ok (decide (p=q)) w:=by
  have h:=run_equalIn_struct (P:=Tryz.prog) w 9999 24 p.cells.toArray q.cells.toArray (by simp only[Program.fieldsOf,ll_]) Tryz.stoodInHeld24
  refine h.trans ?_
  rw[← Fc.eqb_eq]
  simp only[Program.fieldsOf,ll_]
  exact bF_ rfl O_ rfl rfl (eqI bw_ w) (bF_ rfl U_ rfl rfl (eqS aF_ w) (bF_ rfl U_ rfl rfl (eqS aF_ w) (bF_ rfl U_ rfl rfl (eqS aF_ w) (bF_ rfl O_ rfl rfl (eqI bw_ w) (bF_ rfl O_ rfl rfl (eqI bw_ w) (hJ_ w))))))
theorem keyPc (p:Pc):hv_ Tryz.prog 52 p.val:=fun e w=>by
 have hi:∀ (n:Int) (w:World),(Instr.checkKey e (9998+1) 3 (.int .i64 n)).run Tryz.prog w=.ok () w:=fun n w=>MapKept.run_checkKey (d:=.int .i64) bw_ (by simp[MapKept.IsKey]) e 9998
 have hs:∀ (n:Str) (w:World),(Instr.checkKey e (9998+1) 9 (str n)).run Tryz.prog w=.ok () w:=fun n w=>MapKept.run_checkKey (d:=.string) aF_ (by simp[MapKept.IsKey,str]) e 9998
 refine ckF (n:=9999) lj_ fun f hf=>?_
 simp only[List.mem_cons,List.not_mem_nil,or_false]at hf
 rcases hf with rfl|rfl|rfl|rfl|rfl|rfl|rfl|rfl|rfl|rfl
 ·exact⟨rfl,O_,_,rfl,hi _⟩
 ·exact⟨rfl,U_,_,rfl,hs _⟩
 ·exact⟨rfl,U_,_,rfl,hs _⟩
 ·exact⟨rfl,U_,_,rfl,hs _⟩
 ·exact⟨rfl,U_,_,rfl,hs _⟩
 ·exact⟨rfl,U_,_,rfl,hs _⟩
 ·exact⟨rfl,U_,_,rfl,hs _⟩
 ·exact⟨rfl,O_,_,rfl,hi _⟩
 ·exact⟨rfl,O_,_,rfl,hi _⟩
 exact⟨rfl,O_,_,rfl,hi _⟩
theorem ob_:jb_ Tryz.prog 52 [(0,1),(1,1),(2,1),(3,1),(4,1),(5,1),(6,1),(7,1),(8,1),(9,1)] [.int .i64 0,str [],str [],str [],str [],str [],str [],.int .i64 0,.int .i64 0,.int .i64 0]:=⟨_,aN_,aM_,fun w=>by simp[o_,M_]⟩
theorem dH_:jb_ Tryz.prog 24 [(0,1),(1,1),(2,1),(3,1),(4,1),(5,1)] [.int .i64 0,str [],str [],str [],.int .i64 0,.int .i64 0]:=⟨_,aa_,aq_,fun w=>by simp[o_,M_]⟩
end Go.Proofs.YtkeanlfhghlgiaaGreatDoor
namespace Go.Proofs.YtkeanlfhghlgiaaGreatDoor
open Go Go.Sx Go.Proofs
attribute [local irreducible] Code.wp wpList wpAnyH
open Go.Vs
theorem aH_ {N:Nf} {fr:Fr} {H:Hp} {Γ:List Fct} {ty t':TypeId} {x y:Operand} {p q:Fc} (hx:Fr.ev fr x=some p.val) (hy:Fr.ev fr y=some q.val):Yld Tryz.prog N fr H Γ (.binOp .eql 24 x y t') ty (.bool (decide (p=q))) :=
  fun a v h1 _ _ _ _ _=>by
    have hg:(Program.eqGuardType Tryz.prog Tryz.prog.depth 24)=false:=by kernel_rfl
    have he:=eqFc p q v.w
    simp only[execOp,h1.ev hx,h1.ev hy,eqGuard,Fc.val,binOp,Op.equal,Sem.run_bind,Result.andThen_ok]
    simp only[run_program,Result.andThen_ok,hg,Bool.not_false,if_true,Sem.run_pure]
    simp only[Fc.val]at he
    simp[Op.maxDepth,he]
theorem dw_ {N:Nf} {fr:Fr} {H:Hp} {Γ:List Fct} {ty t':TypeId} {x y:Operand} {p q:Fc} (hx:Fr.ev fr x=some p.val) (hy:Fr.ev fr y=some q.val):Yld Tryz.prog N fr H Γ (.binOp .neq 24 x y t') ty (.bool (decide (p≠q))) :=
  fun a v h1 _ _ _ _ _=>by
    have hg:(Program.eqGuardType Tryz.prog Tryz.prog.depth 24)=false:=by kernel_rfl
    have he:=eqFc p q v.w
    simp only[execOp,h1.ev hx,h1.ev hy,eqGuard,Fc.val,binOp,Op.equal,Sem.run_bind,Result.andThen_ok]
    simp only[run_program,Result.andThen_ok,hg,Bool.not_false,if_true,Sem.run_pure]
    simp only[Fc.val]at he
    simp[Op.maxDepth,he]
theorem mc_ (s:Str) (c:UInt8):Fn0 Tryz.prog 193 #[str s,str [c]] (.int .i64 (Lib.indexByte s c)) :=
  gN_ (callable Tryz.func193 rfl rfl) fun w=>(Tryz.strings_Index_one ⟨s.toArray⟩ c w).mono (by rintro e w' ⟨rfl,rfl⟩;exact⟨rfl,rfl,rfl,rfl,rfl,Nat.le_refl _⟩)
theorem kW_ (s:Str) (c:UInt8) (k:Nat) (hk:ixS c s=some k):Fn0 Tryz.prog 193 #[str s,str [c]] (.int .i64 (k:Int)):=by
  have h:=mc_ s c
  rw[jG_,hk]at h
  exact h
theorem qV_ (s:Str) (c:UInt8):Fn0 Tryz.prog 192 #[str s,str [c]] (.int .i64 (du_ c s:Int)) :=
  gN_ (callable Tryz.func192 rfl rfl) fun w=>(Tryz.strings_Count_one ⟨s.toArray⟩ c w).mono (by rintro e w' ⟨rfl,rfl⟩;exact⟨rfl,rfl,rfl,rfl,rfl,Nat.le_refl _⟩)
theorem ok_H {N:Nf} {v0:Vw} {H0:Hp} {k:Act→World→Prop} {fr:Fr} {H H':Hp} {Γ:List Fct} (e:H=H') (h:Ok N v0 H0 k fr H' Γ):Ok N v0 H0 k fr H Γ:=e▸h
theorem oy_ (s:Str) (c:UInt8) (hs:s.length≤17592186044414):Tri Tryz.prog 176 #[str s,str [c],.int .i64 0,.int .i64 (-1)] [] [] (fun b:Nat=>.slice (some ⟨b,0,none⟩) (bS_ c s).length (bS_ c s).length) (fun _=>[]) (fun b=>[af_ (some ⟨b,0,none⟩) ((bS_ c s).flatMap aV_)]):=by
 have hcl:=jL_ c s
 refine w_ Tryz.func176 rfl rfl Tryz.ntmps176 rfl fun v0=>?_
 refine Zi 9 (fun hr1=>?_) fun hr1=>?_
 ·refine Zi 9 (fun hr2=>?_) fun hr2=>?_
  ·refine Zi 9 (fun hr3=>?_) fun hr3=>?_
   ·exact absurd (by decide) hr3
   refine Zz 6 ?_
   refine n_ (qV_ s c) rfl (.refl _) zt rfl fun _=>Zz 8 ?_
   refine i_ (cW_ ag_ rfl) rfl (Zz 1 ?_)
   refine i_ (aY_ (oI_ rfl rfl) (show _=Value.int .i64 ((du_ c s+1:Nat):Int) by rw[if_neg (by omega)];rfl)) rfl ?_
   refine Zz 6 ?_
   refine pU_ (n:=du_ c s+1) (by':=16) lk_ (z:=.string ⟨#[]⟩) zk rfl rfl rfl (by omega) (by omega) rfl fun b1=>Zz 6 ?_
   refine i_ (aY_ (dx_ rfl rfl rfl (fQ_ (by omega) (by omega))) (show _=Value.int .i64 (du_ c s:Int) by first|rfl|(congr 1;omega))) rfl ?_
   refine Zz 10 ?_
   refine dC_ [(0,str s),(1,str [c]),(2,.int .i64 0),(3,.int .i64 (du_ c s:Int)),(9,.slice (some ⟨b1,0,none⟩) (du_ c s+1) (du_ c s+1)),(10,.int .i64 ((0:Nat):Int))] zl ?_
   refine ey_ (ι:={x:Nat×List Str×Str // x.2.1.length=x.1∧bS_ c s=x.2.1++bS_ c x.2.2∧x.1+du_ c x.2.2=du_ c s∧x.2.2.length≤s.length}) (fun x=>[(0,str x.1.2.2),(1,str [c]),(2,.int .i64 0),(3,.int .i64 (du_ c s:Int)),(9,.slice (some ⟨b1,0,none⟩) (du_ c s+1) (du_ c s+1)),(10,.int .i64 (x.1.1:Int))]) (fun x=>[(b1,.cells (x.1.2.1.map str++List.replicate (du_ c s+1 - x.1.1) (Value.string ⟨#[]⟩)).toArray 9 (0,0))]) (fun _=>_) (fun x=>du_ c s - x.1.1) ⟨(0,[],s),rfl,rfl,by simp,by simp⟩ ?_
   rintro ⟨⟨i,dn,r⟩,hk⟩
   dsimp only at hk
   obtain⟨hk1,hk2,hk3,hk4⟩:=hk
   refine dC_ [(0,str r),(1,str [c]),(2,.int .i64 0),(3,.int .i64 (du_ c s:Int)),(9,.slice (some ⟨b1,0,none⟩) (du_ c s+1) (du_ c s+1)),(10,.int .i64 (i:Int))] zl ?_
   have hrep:∀ k,k<du_ c s+1→List.replicate (du_ c s+1 - k) (Value.string ⟨#[]⟩)=Value.string ⟨#[]⟩::List.replicate (du_ c s - k) (Value.string ⟨#[]⟩):=fun k hk=>by rw[show du_ c s+1 - k=(du_ c s - k)+1 by omega];rfl
   refine ok_H (H':=[(b1,.cells (dn.map str++Value.string ⟨#[]⟩::List.replicate (du_ c s - i) (Value.string ⟨#[]⟩)).toArray 9 (0,0))]) (by dsimp only;rw[hrep i (by omega)]) ?_
   refine Zi 5 (fun hr4=>?_) fun hr4=>?_
   ·obtain rfl:i=du_ c s:=by omega
    have hr0 : bS_ c r = [r] := by
                  cases hx:ixS c r with
                  | none=>exact hb_ hx
                  | some k=>have:=lT_ hx;omega
    rw[hr0]at hk2
    refine Zz 10 ?_
    refine i_ (hy_ E_ M_ rfl rfl (by omega) (by omega)) rfl (kk_ 0 M_ rfl rfl rfl (by simp[hk1]) rfl rfl (Zz 6 ?_))
    refine i_ (aY_ (dx_ rfl rfl rfl (fQ_ (by omega) (by omega))) (show _=Value.int .i64 ((du_ c s+1:Nat):Int) by first|rfl|(congr 1;omega))) rfl ?_
    refine i_ (aY_ (do_ (i:=0) (j:=du_ c s+1) (kl:=.i64) (kh:=.i64) E_ M_ rfl rfl rfl (by omega) (by omega)) (show _=Value.slice (some ⟨b1,0,none⟩) (du_ c s+1) (du_ c s+1) by rw[qU_];rfl)) rfl ?_
    refine Zz 4 ?_
    refine aB_ ((bS_ c s).flatMap aV_) d_ (by rw[hk2,ir_];simp) ?_
    have hl:=dI_ c s
    exact al_ Tryz.results176 b1 (cS_ rfl (by rw[hl])) (.refl _) zf
   obtain ⟨k, hix⟩ : ∃ k, ixS c r = some k := by
                 cases hx:ixS c r with
                 | none=>have:=qp_ hx;omega
                 | some k=>exact⟨k,rfl⟩
   have hcs:=lT_ hix
   have hkl:=ou_ hix
   refine Zz 10 ?_
   refine n_ (kW_ r c k hix) rfl (.refl _) zt rfl fun _=>Zi 7 (fun hr5=>?_) fun hr5=>?_
   ·refine Zz 12 ?_
    refine i_ (aY_ (dx_ rfl rfl rfl (fQ_ (by omega) (by omega))) (show _=Value.int .i64 (k:Int) by first|rfl|(congr 1;omega))) rfl ?_
    refine i_ (aY_ (fs_ (i:=0) (j:=k) (kl:=.i64) (kh:=.i64) ag_ rfl rfl rfl (by omega) (by omega)) (show _=str (r.take k) by simp)) rfl (i_ (hy_ E_ M_ rfl rfl (by omega) (by omega)) rfl (kk_ 0 M_ rfl rfl rfl (by simp[hk1]) rfl rfl (Zz 7 ?_)))
    refine i_ (cW_ ag_ rfl) rfl (i_ (aY_ (dx_ rfl rfl rfl (fQ_ (by simp only[List.length_cons,List.length_nil];omega) (by simp only[List.length_cons,List.length_nil];omega))) (show _=Value.int .i64 ((k+1:Nat):Int) by first|rfl|(congr 1;omega))) rfl ?_)
    refine i_ (aY_ (fs_ (i:=k+1) (j:=r.length) (kl:=.i64) (kh:=.i64) ag_ rfl rfl rfl (by omega) (by omega)) (show _=str (r.drop (k+1)) by rw[List.take_of_length_le (by simp)])) rfl (Zz 5 ?_)
    refine i_ (aY_ (dx_ rfl rfl rfl (fQ_ (by omega) (by omega))) (show _=Value.int .i64 ((i+1:Nat):Int) by first|rfl|(congr 1;omega))) rfl ?_
    refine Zz 3 ?_
    exact y_ ⟨(i+1,dn++[r.take k],r.drop (k+1)),by simp[hk1],by rw[hk2,ha_ hix,List.append_assoc];rfl,by dsimp only;omega,by simp;omega⟩ (by dsimp only;omega) zl (F:=[]) (List.Perm.of_eq (by simp[show du_ c s+1 - (i+1)=du_ c s - i by omega])) zh
   exfalso;omega
  cases hr2
 exact absurd hr1 (by decide)
theorem sX_ (s:Str) (c:UInt8) (hs:s.length≤17592186044414):Tri Tryz.prog 152 #[str s,str [c]] [] [] (fun b:Nat=>.slice (some ⟨b,0,none⟩) (bS_ c s).length (bS_ c s).length) (fun _=>[]) (fun b=>[af_ (some ⟨b,0,none⟩) ((bS_ c s).flatMap aV_)]):=by
  refine w_ Tryz.func152 rfl rfl Tryz.ntmps152 rfl fun v0=>?_
  refine Zz 9 ?_
  refine n_ (oy_ s c hs) rfl (.refl _) zt rfl fun b=>Zz 4 ?_
  exact al_ Tryz.results152 b rfl (.refl _) zf
end Go.Proofs.YtkeanlfhghlgiaaGreatDoor
namespace Go.Proofs.YtkeanlfhghlgiaaGreatDoor
open Go Go.Sx Go.Proofs
attribute [local irreducible] Code.wp wpList wpAnyH
open Go.Vs
theorem mt_ {g:FuncId} {pred:Str→Bool} (xs:List Str) (ad:Option Addr) (cap:Nat) (hlen:xs.length≤17592186044415) (hT:∀ x∈xs,Fn0 Tryz.prog g #[str x] (.bool (pred x))) :
    Tri Tryz.prog 177 #[.slice ad (List.length xs) cap,.func (.func g) #[] #[]] [] [af_ ad (List.flatMap aV_ xs)] (fun r:{r:Int // decide (0≤r)=xs.any pred}=>.int .i64 r.1) (fun _=>[]) (fun _=>[]):=by
  refine w_ Tryz.func177 rfl rfl Tryz.ntmps177 rfl fun v0=>?_
  refine Zz 14 ?_
  refine dC_ [(0,.slice ad (List.length xs) cap),(1,.func (.func g) #[] #[]),(7,.int .i64 (List.length xs:Int)),(8,.int .i64 ((0:Nat):Int))] zl ?_
  refine ey_ (ι:={q:Nat // q≤xs.length∧(xs.take q).any pred=false}) (fun i=>[(0,.slice ad (List.length xs) cap),(1,.func (.func g) #[] #[]),(7,.int .i64 (List.length xs:Int)),(8,.int .i64 (i.1:Int))]) (fun _=>_) (fun _=>_) (fun i=>xs.length - i.1) ⟨0,by simp⟩ ?_
  rintro ⟨i,hk⟩
  refine dC_ [(0,.slice ad (List.length xs) cap),(1,.func (.func g) #[] #[]),(7,.int .i64 (List.length xs:Int)),(8,.int .i64 (i:Int))] zl ?_
  refine Zi 2 (fun hr1=>?_) fun hr1=>?_
  · skip
    refine Zz 12 ?_
    exact al_ Tryz.results177 ⟨-1,by have:=hk.2;rw[List.take_of_length_le (by omega)]at this;show _=xs.any pred;rw[this];rfl⟩ rfl (.refl _) zt
  · skip
    obtain⟨hlx1,x1,hx1,hmx1⟩:=zge (show i<List.length xs by omega)
    refine Zz 21 ?_
    refine cm_ (hT x1 hmx1) rfl rfl m_ zt rfl fun r2 hr2=>Zz 2 ?_
    cases r2
    · skip
      refine Zz 8 ?_
      exact y_ ⟨i+1,hlx1,by rw[List.take_add_one,hx1];simp only[Option.toList_some,List.any_append,hk.2];simp[*]⟩ (by simp;omega) zl (.refl _) zh
    · skip
      refine Zz 8 ?_
      exact al_ Tryz.results177 ⟨(i:Int),by show _=xs.any pred;rw[show xs.any pred=true from List.any_eq_true.2 ⟨x1,hmx1,by assumption⟩];exact decide_eq_true (by omega)⟩ rfl (.refl _) zt
theorem jw_ {g:FuncId} {pred:Str→Bool} (xs:List Str) (ad:Option Addr) (cap:Nat) (hlen:xs.length≤17592186044415) (hT:∀ x∈xs,Fn0 Tryz.prog g #[str x] (.bool (pred x))) :
    Tri Tryz.prog 153 #[.slice ad (List.length xs) cap,.func (.func g) #[] #[]] [] [af_ ad (List.flatMap aV_ xs)] (fun _:Unit=>.bool (xs.any pred)) (fun _=>[]) (fun _=>[]):=by
  refine w_ Tryz.func153 rfl rfl Tryz.ntmps153 rfl fun v0=>?_
  refine Zz 9 ?_
  refine n_ (mt_ xs ad cap hlen hT) rfl m_ zf rfl fun x=>aQ_ (in_ rfl rfl) rfl fun r1 hr1=>Zz 4 ?_
  exact al_ Tryz.results153 () (x_ rfl (hr1.symm.trans x.2)) (.refl _) zt
theorem qf_ (s:Str) (hs:s.length≤140737488351232):Fn0 Tryz.prog 154 #[str s] (.bool (!ck_ s)):=by
  refine w_ Tryz.func154 rfl rfl Tryz.ntmps154 rfl fun v0=>?_
  refine Zz 8 ?_
  refine br_ (ea_ s hs) rfl m_ zt rfl fun r1 hr1=>i_ (bt_ rfl) rfl (Zz 4 ?_)
  exact al_ Tryz.results154 () (x_ rfl (by simp[*])) (.refl _) zt
theorem gF_ {c:UInt8}:∀ {s x:Str},x∈bS_ c s→x.length≤s.length
 | [],x,h=>by simp[bS_]at h;simp[h]
 | b::s,x,h=>by
   simp only[bS_]at h
   split at h
   · rcases List.mem_cons.1 h with rfl|h
     · simp
     · have:=gF_ h;simp only[List.length_cons];omega
   · cases hs:bS_ c s with
     | nil=>exact absurd hs (lp_ c s)
     | cons y t =>
       rw[hs]at h
       rcases List.mem_cons.1 h with rfl|h
       · have:=gF_ (c:=c) (s:=s) (x:=y) (by rw[hs];simp);simp only[List.length_cons];omega
       · have:=gF_ (c:=c) (s:=s) (x:=x) (by rw[hs];simp[h]);simp only[List.length_cons];omega
theorem hk_ (s:Str) (hs:s.length≤17592186044414):Fn0 Tryz.prog 120 #[str s] (.bool (dB_ s)):=by
 refine w_ Tryz.func120 rfl rfl Tryz.ntmps120 rfl fun v0=>?_
 have hsl:=dI_ 46 s
 have hcl:=jL_ 46 s
 refine Zz 8 ?_
 refine n_ (sX_ s 46 hs) rfl m_ zt rfl fun b=>Zi 7 (fun hr1=>?_) fun hr1=>?_
 ·refine Zz 9 ?_
  exact al_ Tryz.results120 () (x_ rfl (by unfold dB_;subst_vars;rw[Bool.eq_iff_iff];simp_all<;>omega)) (.refl _) zt
 refine Zz 4 ?_
 refine br_ (jw_ (pred:=fun r=>!ck_ r) (bS_ 46 s) _ _ (by omega) (fun x hx=>qf_ x (by have:=gF_ hx;omega))) rfl m_ zf rfl fun r2 hr2=>?_
 refine aJ_ rfl rfl (i_ (bt_ rfl) rfl (Zz 5 ?_))
 exact al_ Tryz.results120 () (x_ rfl (by unfold dB_;subst_vars;rw[Bool.eq_iff_iff];simp_all<;>omega)) (.refl _) zt
theorem gn_ (s:Str) (hs:s.length≤140737488351232):Fn0 Tryz.prog 122 #[str s] (.bool (bJ_ s)):=by
 refine w_ Tryz.func122 rfl rfl Tryz.ntmps122 rfl fun v0=>?_
 refine Zz 8 ?_
 refine i_ (cW_ ag_ rfl) rfl (Zi 8 (fun hr1=>?_) fun hr1=>?_)
 ·refine Zi 4 (fun hr2=>?_) fun hr2=>?_
  ·refine Zi 8 (fun hr3=>?_) fun hr3=>?_
   ·refine Zi 19 (fun hr4=>?_) fun hr4=>?_
    ·refine Zz 21 ?_
     refine br_ (ea_ _ (by first|exact hs|(simp;omega))) rfl m_ zt rfl fun r5 hr5=>?_
     refine Zz 4 ?_
     exact al_ cy_ () (x_ rfl (by unfold bJ_;(repeat (any_goals split))<;>first|rfl|(simp_all;done)|(exfalso;simp_all;omega)|(exfalso;simp_all;done))) (.refl _) zt
    exfalso;omega
   obtain⟨c,hc⟩:∃ c,s[0]? = some c:=⟨_,List.getElem?_eq_getElem (by omega)⟩
   obtain⟨e,he⟩:∃ e,s[s.length - 1]? = some e:=⟨_,List.getElem?_eq_getElem (by omega)⟩
   have hc123 : (s[0]? = some 123) ↔ ((c.toNat : Int) = 123) := by
                       rw[hc];simp only[Option.some.injEq];exact⟨fun q=>by subst q;rfl,fun q=>UInt8.toNat_inj.1 (by show c.toNat=123;omega)⟩
   have he125 : (s[s.length - 1]? = some 125) ↔ ((e.toNat : Int) = 125) := by
                       rw[he];simp only[Option.some.injEq];exact⟨fun q=>by subst q;rfl,fun q=>UInt8.toNat_inj.1 (by show e.toNat=125;omega)⟩
   have hc60 : (s[0]? = some 60) ↔ ((c.toNat : Int) = 60) := by
                       rw[hc];simp only[Option.some.injEq];exact⟨fun q=>by subst q;rfl,fun q=>UInt8.toNat_inj.1 (by show c.toNat=60;omega)⟩
   have he62 : (s[s.length - 1]? = some 62) ↔ ((e.toNat : Int) = 62) := by
                       rw[he];simp only[Option.some.injEq];exact⟨fun q=>by subst q;rfl,fun q=>UInt8.toNat_inj.1 (by show e.toNat=62;omega)⟩
   refine Zz 4 ?_
   refine i_ (dE_ ag_ rfl rfl (by decide) hc) rfl (aJ_ rfl rfl ?_)
   refine Zi 0 (fun hr6=>?_) fun hr6=>?_
   ·refine Zi 15 (fun hr7=>?_) fun hr7=>?_
    ·refine Zz 21 ?_
     refine br_ (ea_ _ (by first|exact hs|(simp;omega))) rfl m_ zt rfl fun r8 hr8=>?_
     refine Zz 4 ?_
     exact al_ cy_ () (x_ rfl (by unfold bJ_;(repeat (any_goals split))<;>first|rfl|(simp_all;done)|(exfalso;simp_all;omega)|(exfalso;simp_all;done))) (.refl _) zt
    refine Zz 4 ?_
    refine i_ (dE_ ag_ rfl rfl (by decide) hc) rfl (aJ_ rfl rfl ?_)
    refine Zi 0 (fun hr9=>?_) fun hr9=>?_
    ·refine Zz 17 ?_
     refine br_ (ea_ _ (by first|exact hs|(simp;omega))) rfl m_ zt rfl fun r10 hr10=>?_
     refine Zz 4 ?_
     exact al_ cy_ () (x_ rfl (by unfold bJ_;(repeat (any_goals split))<;>first|rfl|(simp_all;done)|(exfalso;simp_all;omega)|(exfalso;simp_all;done))) (.refl _) zt
    refine Zz 9 ?_
    refine i_ (dE_ ag_ rfl rfl (by omega) (show s[((s.length:Int) - 1).toNat]? = some e by rw[show ((s.length:Int) - 1).toNat=s.length - 1 by omega];exact he)) rfl ?_
    refine aJ_ rfl rfl ?_
    refine Zi 0 (fun hr11=>?_) fun hr11=>?_
    ·refine Zz 10 ?_
     refine br_ (ea_ _ (by first|exact hs|(simp;omega))) rfl m_ zt rfl fun r12 hr12=>?_
     refine Zz 4 ?_
     exact al_ cy_ () (x_ rfl (by unfold bJ_;(repeat (any_goals split))<;>first|rfl|(simp_all;done)|(exfalso;simp_all;omega)|(exfalso;simp_all;done))) (.refl _) zt
    refine Zz 11 ?_
    exact al_ cy_ () (x_ rfl (by unfold bJ_;(repeat (any_goals split))<;>first|rfl|(simp_all;done)|(exfalso;simp_all;omega)|(exfalso;simp_all;done))) (.refl _) zt
   refine Zz 9 ?_
   refine i_ (dE_ ag_ rfl rfl (by omega) (show s[((s.length:Int) - 1).toNat]? = some e by rw[show ((s.length:Int) - 1).toNat=s.length - 1 by omega];exact he)) rfl ?_
   refine aJ_ rfl rfl ?_
   refine Zi 0 (fun hr13=>?_) fun hr13=>?_
   ·refine Zi 8 (fun hr14=>?_) fun hr14=>?_
    ·refine Zz 21 ?_
     refine br_ (ea_ _ (by first|exact hs|(simp;omega))) rfl m_ zt rfl fun r15 hr15=>?_
     refine Zz 4 ?_
     exact al_ cy_ () (x_ rfl (by unfold bJ_;(repeat (any_goals split))<;>first|rfl|(simp_all;done)|(exfalso;simp_all;omega)|(exfalso;simp_all;done))) (.refl _) zt
    refine Zz 4 ?_
    refine i_ (dE_ ag_ rfl rfl (by decide) hc) rfl (aJ_ rfl rfl ?_)
    refine Zi 0 (fun hr16=>?_) fun hr16=>?_
    ·refine Zz 17 ?_
     refine br_ (ea_ _ (by first|exact hs|(simp;omega))) rfl m_ zt rfl fun r17 hr17=>?_
     refine Zz 4 ?_
     exact al_ cy_ () (x_ rfl (by unfold bJ_;(repeat (any_goals split))<;>first|rfl|(simp_all;done)|(exfalso;simp_all;omega)|(exfalso;simp_all;done))) (.refl _) zt
    refine Zz 9 ?_
    refine i_ (dE_ ag_ rfl rfl (by omega) (show s[((s.length:Int) - 1).toNat]? = some e by rw[show ((s.length:Int) - 1).toNat=s.length - 1 by omega];exact he)) rfl ?_
    refine aJ_ rfl rfl ?_
    refine Zi 0 (fun hr18=>?_) fun hr18=>?_
    ·refine Zz 10 ?_
     refine br_ (ea_ _ (by first|exact hs|(simp;omega))) rfl m_ zt rfl fun r19 hr19=>?_
     refine Zz 4 ?_
     exact al_ cy_ () (x_ rfl (by unfold bJ_;(repeat (any_goals split))<;>first|rfl|(simp_all;done)|(exfalso;simp_all;omega)|(exfalso;simp_all;done))) (.refl _) zt
    refine Zz 11 ?_
    exact al_ cy_ () (x_ rfl (by unfold bJ_;(repeat (any_goals split))<;>first|rfl|(simp_all;done)|(exfalso;simp_all;omega)|(exfalso;simp_all;done))) (.refl _) zt
   refine Zz 10 ?_
   refine i_ (fs_ (i:=1) (j:=s.length - 1) (kl:=.i64) (kh:=.i64) ag_ rfl rfl (show _=some (Value.int .i64 ((s.length - 1:Nat):Int)) by rw[show ((s.length - 1:Nat):Int)=(s.length:Int) - 1 by omega];rfl) (by omega) (by omega)) rfl ?_
   refine br_ (ea_ _ (by first|exact hs|(simp;omega))) rfl m_ zt rfl fun r20 hr20=>?_
   refine Zz 4 ?_
   exact al_ cy_ () (x_ rfl (by unfold bJ_;(repeat (any_goals split))<;>first|rfl|(simp_all;done)|(exfalso;simp_all;omega)|(exfalso;simp_all;done))) (.refl _) zt
  refine Zz 11 ?_
  exact al_ cy_ () (x_ rfl (by unfold bJ_;(repeat (any_goals split))<;>first|rfl|(simp_all;done)|(exfalso;simp_all;omega)|(exfalso;simp_all;done))) (.refl _) zt
 refine Zz 14 ?_
 exact al_ cy_ () (x_ rfl (by unfold bJ_;(repeat (any_goals split))<;>first|rfl|(simp_all;done)|(exfalso;simp_all;omega)|(exfalso;simp_all;done))) (.refl _) zt
end Go.Proofs.YtkeanlfhghlgiaaGreatDoor
namespace Go.Proofs.YtkeanlfhghlgiaaGreatDoor
open Go Go.Sx Go.Proofs
attribute [local irreducible] Code.wp wpList wpAnyH
open Go.Vs
theorem eg_ {g:FuncId} (used:Bool) (s:Str) (q:Str→Bool) (hT:Fn0 Tryz.prog g #[str s] (.bool (q s))):Fn0 Tryz.prog 119 #[.bool used,str s,.func (.func g) #[] #[]] (.bool (cr_ used s q)):=by
 refine w_ Tryz.func119 rfl rfl Tryz.ntmps119 rfl fun v0=>?_
 refine Zz 9 ?_
 cases used
 ·refine Zz 8 ?_
  refine i_ (bt_ rfl) rfl (Zz 5 ?_)
  refine aQ_ (fY_ rfl rfl) rfl fun r1 hr1=>Zz 7 ?_
  exact al_ Tryz.results119 () (x_ rfl (by unfold cr_;subst_vars;rw[Bool.eq_iff_iff];simp_all)) (.refl _) zt
 refine Zz 5 ?_
 refine cm_ (hT) rfl rfl m_ zt rfl fun r2 hr2=>Zz 2 ?_
 cases r2
 ·refine Zz 3 ?_
  refine i_ (bt_ rfl) rfl (Zz 11 ?_)
  exact al_ Tryz.results119 () (x_ rfl (by unfold cr_;subst_vars;rw[Bool.eq_iff_iff];simp_all)) (.refl _) zt
 refine Zz 11 ?_
 exact al_ Tryz.results119 () (x_ rfl (by unfold cr_;subst_vars;rw[Bool.eq_iff_iff];simp_all)) (.refl _) zt
theorem qe_ (p:Pc) (hp:p.sm):Tri Tryz.prog 83 #[Pc.val p] [] [jt_] (fun _:Unit=>.bool p.valid) (fun _=>[]) (fun _=>[]):=by
 refine w_ Tryz.func83 rfl rfl Tryz.ntmps83 rfl fun v0=>?_
 obtain⟨ha,hb,hc,hr,hs,ht⟩:=hp
 refine Zz 2 ?_
 refine as_ rfl rfl fun b1=>Zz 8 ?_
 refine aQ_ (hw_ rfl rfl) rfl fun r1 hr1=>Zz 1 ?_
 refine de_ 4 ((decide (p.kind<1))||(decide (9<p.kind))) (fun r=>[(1,zp_ b1 0),(2,.bool false),(13,.bool r)]) ?_ fun r2 hr2=>?_
 ·cases r1
  ·have qr2:=hr1
   replace hr1:=zdf hr1
   refine Zz 5 ?_
   refine aQ_ (dN_ rfl rfl) rfl fun r3 hr3=>Zz 3 ?_
   exact met ⟨rfl,rfl,(x_ rfl (jof qr2 hr3)),trivial⟩
  have qr2:=hr1
  replace hr1:=zdt hr1
  refine Zz 6 ?_
  exact met ⟨rfl,rfl,(x_ rfl (jot qr2)),trivial⟩
 refine Zz 1 ?_
 refine de_ 4 ((((decide (p.kind<1))||(decide (9<p.kind))))||(decide (p.frm<(-1)))) (fun r=>[(1,zp_ b1 0),(2,.bool false),(18,.bool r)]) ?_ fun r4 hr4=>?_
 ·cases r2
  ·have qr4:=hr2
   simp at hr2
   refine Zz 5 ?_
   refine aQ_ (hw_ rfl rfl) rfl fun r5 hr5=>Zz 3 ?_
   exact met ⟨rfl,rfl,(x_ rfl (jof qr4 hr5)),trivial⟩
  have qr4:=hr2
  simp at hr2
  refine Zz 6 ?_
  exact met ⟨rfl,rfl,(x_ rfl (jot qr4)),trivial⟩
 refine Zz 1 ?_
 refine de_ 4 ((((((decide (p.kind<1))||(decide (9<p.kind))))||(decide (p.frm<(-1)))))||(decide (1024≤p.frm))) (fun r=>[(1,zp_ b1 0),(2,.bool false),(23,.bool r)]) ?_ fun r6 hr6=>?_
 ·cases r4
  ·have qr6:=hr4
   simp at hr4
   refine Zz 5 ?_
   refine aQ_ (in_ rfl rfl) rfl fun r7 hr7=>Zz 3 ?_
   exact met ⟨rfl,rfl,(x_ rfl (jof qr6 hr7)),trivial⟩
  have qr6:=hr4
  simp at hr4
  refine Zz 6 ?_
  exact met ⟨rfl,rfl,(x_ rfl (jot qr6)),trivial⟩
 refine Zz 2 ?_
 cases r6
 ·simp at hr6
  obtain⟨u,hx⟩:∃ u,rI_[p.kind.toNat]? = some u:=⟨_,List.getElem?_eq_getElem (show p.kind.toNat<10 by omega)⟩
  have hus:nus p.kind=u:=by simp[nus,hx]
  obtain⟨ua,ub,uc,ur,us,ut,un⟩:=u
  refine Zz 7 ?_
  refine i_ (gB_ Tryz.runUnderlying141 Tryz.sizeOf140 rfl rfl (by show (0:Int)≤p.kind;omega) (by show p.kind<(10:Int);omega)) rfl ?_
  refine i_ (bi_ (ad:=some ⟨0,0,none⟩) (us:=NUse.cells ⟨ua,ub,uc,ur,us,ut,un⟩) Tryz.isAgg140 Tryz.sizeOf140 rfl (fun v _ h=>h.1) (NUse.cells_len _) (t_ NUse.cells_len hx)) rfl (J_ Tryz.zeroValue140 rfl fun b2=>z_ 0 Tryz.sizeOf140 rfl rfl rfl rfl rfl rfl (Zz 19 ?_))
  cases un
  ·refine Zz 5 ?_
   refine aQ_ (il_ rfl rfl) rfl fun r8 hr8=>Zz 1 ?_
   refine de_ 4 ((p.lo != 0)||(p.hi != 0)) (fun r=>[(1,zp_ b1 0),(2,.bool false),(3,zp_ b2 0),(4,.func (.func 119) #[] #[]),(5,.func (.func 120) #[] #[]),(52,.bool r)]) ?_ fun r9 hr9=>?_
   ·cases r8
    ·have qr9:=hr8
     replace hr8:=qi_ hr8
     refine Zz 5 ?_
     refine aQ_ (il_ rfl rfl) rfl fun r10 hr10=>Zz 3 ?_
     exact met ⟨rfl,rfl,rfl,rfl,rfl,(x_ rfl (jof qr9 hr10)),trivial⟩
    have qr9:=hr8
    replace hr8:=pX_ hr8
    refine Zz 6 ?_
    exact met ⟨rfl,rfl,rfl,rfl,rfl,(x_ rfl (jot qr9)),trivial⟩
   refine Zz 2 ?_
   cases r9
   ·simp at hr9
    refine Zz 10 ?_
    refine cm_ (eg_ ua p.a bJ_ (gn_ _ (by omega))) rfl rfl m_ zt rfl fun r11 hr11=>Zz 1 ?_
    refine de_ 7 ((cr_ ua p.a bJ_)&&(cr_ ub p.b bJ_)) (fun r=>[(1,zp_ b1 0),(2,.bool false),(3,zp_ b2 0),(4,.func (.func 119) #[] #[]),(5,.func (.func 120) #[] #[]),(66,.bool r)]) ?_ fun r12 hr12=>?_
    ·cases r11
     ·have qr12:=hr11
      refine Zz 9 ?_
      exact met ⟨rfl,rfl,rfl,rfl,rfl,(x_ rfl (jaf qr12)),trivial⟩
     have qr12:=hr11
     refine Zz 11 ?_
     refine cm_ (eg_ ub p.b bJ_ (gn_ _ (by omega))) rfl rfl m_ zt rfl fun r13 hr13=>Zz 3 ?_
     exact met ⟨rfl,rfl,rfl,rfl,rfl,(x_ rfl (jat qr12 hr13)),trivial⟩
    refine Zz 1 ?_
    refine de_ 7 ((((cr_ ua p.a bJ_)&&(cr_ ub p.b bJ_)))&&(cr_ uc p.c bJ_)) (fun r=>[(1,zp_ b1 0),(2,.bool false),(3,zp_ b2 0),(4,.func (.func 119) #[] #[]),(5,.func (.func 120) #[] #[]),(74,.bool r)]) ?_ fun r14 hr14=>?_
    ·cases r12
     ·have qr14:=hr12
      simp at hr12
      refine Zz 9 ?_
      exact met ⟨rfl,rfl,rfl,rfl,rfl,(x_ rfl (jaf qr14)),trivial⟩
     have qr14:=hr12
     simp at hr12
     refine Zz 11 ?_
     refine cm_ (eg_ uc p.c bJ_ (gn_ _ (by omega))) rfl rfl m_ zt rfl fun r15 hr15=>Zz 3 ?_
     exact met ⟨rfl,rfl,rfl,rfl,rfl,(x_ rfl (jat qr14 hr15)),trivial⟩
    refine Zz 1 ?_
    refine de_ 8 ((((((cr_ ua p.a bJ_)&&(cr_ ub p.b bJ_)))&&(cr_ uc p.c bJ_)))&&(cr_ ur p.r dB_)) (fun r=>[(1,zp_ b1 0),(2,.bool false),(3,zp_ b2 0),(4,.func (.func 119) #[] #[]),(83,.bool r)]) ?_ fun r16 hr16=>?_
    ·cases r14
     ·have qr16:=hr14
      simp at hr14
      refine Zz 10 ?_
      exact met ⟨rfl,rfl,rfl,rfl,(x_ rfl (jaf qr16)),trivial⟩
     have qr16:=hr14
     simp at hr14
     refine Zz 13 ?_
     refine cm_ (eg_ ur p.r dB_ (hk_ _ (by omega))) rfl rfl m_ zt rfl fun r17 hr17=>Zz 3 ?_
     exact met ⟨rfl,rfl,rfl,rfl,(x_ rfl (jat qr16 hr17)),trivial⟩
    refine Zz 1 ?_
    refine de_ 7 ((((((((cr_ ua p.a bJ_)&&(cr_ ub p.b bJ_)))&&(cr_ uc p.c bJ_)))&&(cr_ ur p.r dB_)))&&(cr_ us p.s dB_)) (fun r=>[(1,zp_ b1 0),(2,.bool false),(3,zp_ b2 0),(4,.func (.func 119) #[] #[]),(91,.bool r)]) ?_ fun r18 hr18=>?_
    ·cases r16
     ·have qr18:=hr16
      simp at hr16
      refine Zz 9 ?_
      exact met ⟨rfl,rfl,rfl,rfl,(x_ rfl (jaf qr18)),trivial⟩
     have qr18:=hr16
     simp at hr16
     refine Zz 11 ?_
     refine cm_ (eg_ us p.s dB_ (hk_ _ (by omega))) rfl rfl m_ zt rfl fun r19 hr19=>Zz 3 ?_
     exact met ⟨rfl,rfl,rfl,rfl,(x_ rfl (jat qr18 hr19)),trivial⟩
    refine Zz 1 ?_
    refine de_ 7 ((((((((((cr_ ua p.a bJ_)&&(cr_ ub p.b bJ_)))&&(cr_ uc p.c bJ_)))&&(cr_ ur p.r dB_)))&&(cr_ us p.s dB_)))&&(cr_ ut p.t dB_)) (fun r=>[(2,.bool false),(99,.bool r)]) ?_ fun r20 hr20=>?_
    ·cases r18
     ·have qr20:=hr18
      simp at hr18
      refine Zz 9 ?_
      exact met ⟨rfl,(x_ rfl (jaf qr20)),trivial⟩
     have qr20:=hr18
     simp at hr18
     refine Zz 11 ?_
     refine cm_ (eg_ ut p.t dB_ (hk_ _ (by omega))) rfl rfl m_ zt rfl fun r21 hr21=>Zz 3 ?_
     exact met ⟨rfl,(x_ rfl (jat qr20 hr21)),trivial⟩
    refine Zz 4 ?_
    exact al_ re_ () (x_ rfl (by unfold Pc.valid;rw[if_neg (by omega)];simp only[hus];rw[if_neg (by simp<;>omega),if_neg (by simp<;>omega)];exact hr20.symm)) (.refl _) zt
   simp at hr9
   refine Zz 7 ?_
   exact al_ re_ () (x_ rfl (by unfold Pc.valid;rw[if_neg (by omega)];simp only[hus];first|(rw[if_pos (by first|(simp;omega)|omega)])|(rw[if_neg (by simp),if_pos (by simp;omega)]))) (.refl _) zt
  refine Zz 10 ?_
  refine aQ_ (hw_ rfl rfl) rfl fun r22 hr22=>Zz 1 ?_
  refine de_ 6 ((decide (p.lo<(-1099511627776)))||(decide (p.hi<p.lo))) (fun r=>[(1,zp_ b1 0),(2,.bool false),(3,zp_ b2 0),(4,.func (.func 119) #[] #[]),(5,.func (.func 121) #[] #[]),(39,.bool r)]) ?_ fun r23 hr23=>?_
  ·cases r22
   ·have qr23:=hr22
    replace hr22:=zdf hr22
    refine Zz 9 ?_
    refine aQ_ (dN_ rfl rfl) rfl fun r24 hr24=>Zz 3 ?_
    exact met ⟨rfl,rfl,rfl,rfl,rfl,(x_ rfl (jof qr23 hr24)),trivial⟩
   have qr23:=hr22
   replace hr22:=zdt hr22
   refine Zz 8 ?_
   exact met ⟨rfl,rfl,rfl,rfl,rfl,(x_ rfl (jot qr23)),trivial⟩
  refine Zz 1 ?_
  refine de_ 4 ((((decide (p.lo<(-1099511627776)))||(decide (p.hi<p.lo))))||(decide (1099511627776<p.hi))) (fun r=>[(1,zp_ b1 0),(2,.bool false),(3,zp_ b2 0),(4,.func (.func 119) #[] #[]),(5,.func (.func 121) #[] #[]),(44,.bool r)]) ?_ fun r25 hr25=>?_
  ·cases r23
   ·have qr25:=hr23
    simp at hr23
    refine Zz 5 ?_
    refine aQ_ (dN_ rfl rfl) rfl fun r26 hr26=>Zz 3 ?_
    exact met ⟨rfl,rfl,rfl,rfl,rfl,(x_ rfl (jof qr25 hr26)),trivial⟩
   have qr25:=hr23
   simp at hr23
   refine Zz 6 ?_
   exact met ⟨rfl,rfl,rfl,rfl,rfl,(x_ rfl (jot qr25)),trivial⟩
  refine Zz 2 ?_
  cases r25
  ·simp at hr25
   refine Zz 10 ?_
   refine cm_ (eg_ ua p.a bJ_ (gn_ _ (by omega))) rfl rfl m_ zt rfl fun r27 hr27=>Zz 1 ?_
   refine de_ 7 ((cr_ ua p.a bJ_)&&(cr_ ub p.b bJ_)) (fun r=>[(1,zp_ b1 0),(2,.bool false),(3,zp_ b2 0),(4,.func (.func 119) #[] #[]),(5,.func (.func 121) #[] #[]),(66,.bool r)]) ?_ fun r28 hr28=>?_
   ·cases r27
    ·have qr28:=hr27
     refine Zz 9 ?_
     exact met ⟨rfl,rfl,rfl,rfl,rfl,(x_ rfl (jaf qr28)),trivial⟩
    have qr28:=hr27
    refine Zz 11 ?_
    refine cm_ (eg_ ub p.b bJ_ (gn_ _ (by omega))) rfl rfl m_ zt rfl fun r29 hr29=>Zz 3 ?_
    exact met ⟨rfl,rfl,rfl,rfl,rfl,(x_ rfl (jat qr28 hr29)),trivial⟩
   refine Zz 1 ?_
   refine de_ 7 ((((cr_ ua p.a bJ_)&&(cr_ ub p.b bJ_)))&&(cr_ uc p.c bJ_)) (fun r=>[(1,zp_ b1 0),(2,.bool false),(3,zp_ b2 0),(4,.func (.func 119) #[] #[]),(5,.func (.func 121) #[] #[]),(74,.bool r)]) ?_ fun r30 hr30=>?_
   ·cases r28
    ·have qr30:=hr28
     simp at hr28
     refine Zz 9 ?_
     exact met ⟨rfl,rfl,rfl,rfl,rfl,(x_ rfl (jaf qr30)),trivial⟩
    have qr30:=hr28
    simp at hr28
    refine Zz 11 ?_
    refine cm_ (eg_ uc p.c bJ_ (gn_ _ (by omega))) rfl rfl m_ zt rfl fun r31 hr31=>Zz 3 ?_
    exact met ⟨rfl,rfl,rfl,rfl,rfl,(x_ rfl (jat qr30 hr31)),trivial⟩
   refine Zz 1 ?_
   refine de_ 8 ((((((cr_ ua p.a bJ_)&&(cr_ ub p.b bJ_)))&&(cr_ uc p.c bJ_)))&&(cr_ ur p.r ck_)) (fun r=>[(1,zp_ b1 0),(2,.bool false),(3,zp_ b2 0),(4,.func (.func 119) #[] #[]),(83,.bool r)]) ?_ fun r32 hr32=>?_
   ·cases r30
    ·have qr32:=hr30
     simp at hr30
     refine Zz 10 ?_
     exact met ⟨rfl,rfl,rfl,rfl,(x_ rfl (jaf qr32)),trivial⟩
    have qr32:=hr30
    simp at hr30
    refine Zz 13 ?_
    refine cm_ (eg_ ur p.r ck_ (ea_ _ (by omega))) rfl rfl m_ zt rfl fun r33 hr33=>Zz 3 ?_
    exact met ⟨rfl,rfl,rfl,rfl,(x_ rfl (jat qr32 hr33)),trivial⟩
   refine Zz 1 ?_
   refine de_ 7 ((((((((cr_ ua p.a bJ_)&&(cr_ ub p.b bJ_)))&&(cr_ uc p.c bJ_)))&&(cr_ ur p.r ck_)))&&(cr_ us p.s dB_)) (fun r=>[(1,zp_ b1 0),(2,.bool false),(3,zp_ b2 0),(4,.func (.func 119) #[] #[]),(91,.bool r)]) ?_ fun r34 hr34=>?_
   ·cases r32
    ·have qr34:=hr32
     simp at hr32
     refine Zz 9 ?_
     exact met ⟨rfl,rfl,rfl,rfl,(x_ rfl (jaf qr34)),trivial⟩
    have qr34:=hr32
    simp at hr32
    refine Zz 11 ?_
    refine cm_ (eg_ us p.s dB_ (hk_ _ (by omega))) rfl rfl m_ zt rfl fun r35 hr35=>Zz 3 ?_
    exact met ⟨rfl,rfl,rfl,rfl,(x_ rfl (jat qr34 hr35)),trivial⟩
   refine Zz 1 ?_
   refine de_ 7 ((((((((((cr_ ua p.a bJ_)&&(cr_ ub p.b bJ_)))&&(cr_ uc p.c bJ_)))&&(cr_ ur p.r ck_)))&&(cr_ us p.s dB_)))&&(cr_ ut p.t dB_)) (fun r=>[(2,.bool false),(99,.bool r)]) ?_ fun r36 hr36=>?_
   ·cases r34
    ·have qr36:=hr34
     simp at hr34
     refine Zz 9 ?_
     exact met ⟨rfl,(x_ rfl (jaf qr36)),trivial⟩
    have qr36:=hr34
    simp at hr34
    refine Zz 11 ?_
    refine cm_ (eg_ ut p.t dB_ (hk_ _ (by omega))) rfl rfl m_ zt rfl fun r37 hr37=>Zz 3 ?_
    exact met ⟨rfl,(x_ rfl (jat qr36 hr37)),trivial⟩
   refine Zz 4 ?_
   exact al_ re_ () (x_ rfl (by unfold Pc.valid;rw[if_neg (by omega)];simp only[hus];rw[if_neg (by simp<;>omega),if_neg (by simp<;>omega)];exact hr36.symm)) (.refl _) zt
  simp at hr25
  refine Zz 7 ?_
  exact al_ re_ () (x_ rfl (by unfold Pc.valid;rw[if_neg (by omega)];simp only[hus];first|(rw[if_pos (by first|(simp;omega)|omega)])|(rw[if_neg (by simp),if_pos (by simp;omega)]))) (.refl _) zt
 simp at hr6
 refine Zz 7 ?_
 exact al_ re_ () (x_ rfl (by unfold Pc.valid;rw[if_pos (by omega)])) (.refl _) zt
theorem tV_ (l:List Pc) (ad:Option Addr) (cap:Nat) (hl:l.length≤17592186044414) (hsm:∀ p∈l,p.sm):Tri Tryz.prog 39 #[.slice ad (List.length l) cap] [] [af_ ad (List.flatMap Pc.cells l),jt_] (fun _:Unit=>.int .i64 (cV_ l)) (fun _=>[]) (fun _=>[]):=by
 refine w_ Tryz.func39 rfl rfl Tryz.ntmps39 rfl fun v0=>?_
 refine Zi 10 (fun hr1=>?_) fun hr1=>?_
 ·refine Zz 14 ?_
  refine dC_ [(8,.slice ad (List.length l) cap),(9,.int .i64 (List.length l:Int)),(10,.int .i64 ((0:Nat):Int))] zl ?_
  refine ey_ (ι:={q:Nat // q≤l.length∧(l.take q).all Pc.valid=true}) (fun i=>[(8,.slice ad (List.length l) cap),(9,.int .i64 (List.length l:Int)),(10,.int .i64 (i.1:Int))]) (fun _=>_) (fun _=>_) (fun i=>l.length - i.1) ⟨0,by simp⟩ ?_
  rintro ⟨i,hk⟩
  refine dC_ [(8,.slice ad (List.length l) cap),(9,.int .i64 (List.length l:Int)),(10,.int .i64 (i:Int))] zl ?_
  refine Zi 2 (fun hr2=>?_) fun hr2=>?_
  ·refine Zz 12 ?_
   exact al_ Tryz.results39 () (cq_ rfl (by unfold cV_;rw[if_neg (by omega),if_pos (by have:=hk.2;rwa [List.take_of_length_le (by omega)]at this)])) (.refl _) zt
  obtain⟨hlx1,x1,hx1,hmx1⟩:=zge (show i<List.length l by omega)
  refine Zz 12 ?_
  refine J_ aN_ rfl fun b1=>z_ 0 Y_ rfl rfl rfl rfl rfl rfl (Zz 5 ?_)
  refine br_ (qe_ x1 (hsm x1 hmx1)) rfl m_ zf rfl fun r3 hr3=>i_ (bt_ rfl) rfl (Zz 2 ?_)
  cases r3
  ·refine Zz 7 ?_
   exact al_ Tryz.results39 () (cq_ rfl (by unfold cV_;rw[if_neg (by omega),if_neg (by rw[show l.all Pc.valid=false from List.all_eq_false.2 ⟨x1,hmx1,by simp[*]⟩];simp)])) (.refl _) zt
  refine Zz 8 ?_
  exact y_ ⟨i+1,hlx1,by rw[List.take_add_one,hx1];simp only[Option.toList_some,List.all_append,hk.2];simp[*]⟩ (by simp;omega) zl (@List.perm_append_comm _ [_] _) zh
 refine Zz 9 ?_
 exact al_ Tryz.results39 () (cq_ rfl (by unfold cV_;rw[if_pos (by omega)])) (.refl _) zt
end Go.Proofs.YtkeanlfhghlgiaaGreatDoor
namespace Go.Vs
open Go Go.Sx
def vw (W:World):Vw:=⟨fun b=>b<W.heap.size,W,True⟩
theorem vw_sat (W:World):(vw W).sat []:=⟨(fun _ h=>by cases h),(by simp),fun _ h=>h⟩
section
variable {H:Type} {enc:TypeId×Value→H} {P:Program} {W:World}
abbrev wok (l:List Nat):Prop:=l.all (·≤reachBytes)=true
theorem eh_ {a b:List Nat}:wok (a++b)↔wok a∧wok b:=by simp[wok,List.all_append]
theorem qD_ {n:Nat} {b:List Nat}:wok (n::b)↔n≤reachBytes∧wok b:=by simp[wok]
theorem qE_ {e:TypeId}:∀ {ds:List (DataW H)},wok (DataW.weightsAll P e ds)→∀ d∈ds,wok (d.weights P e)
 | [],_,_,h=>by cases h
 | x::ds,hw,d,hd=>by
   rw[DataW.weightsAll,eh_]at hw
   rcases List.mem_cons.1 hd with rfl|hd
   · exact hw.1
   · exact qE_ hw.2 d hd
theorem md_ {α:Type} [Inhabited α] (f:α→List Value) (k:Nat) (hk:∀ x,(f x).length=k) (hk0:0<k) (Q:α→Prop) {ts te:TypeId} (hs:P.underlying ts=some (.slice te)) (hc:P.cellsOf te=k) {n:Nat} {cs:List Value} {x:DataW H×List MemPlace}
    (hread:∀ m,m<n→∀ cs' y,DataW.trod enc P W 0 (fun _=>true) true m te cs'=some y→wok (y.1.weights P te)→∃ c,cs'=f c∧Q c)
    (h:DataW.trod enc P W 0 (fun _=>true) true n ts cs=some x) (hw:wok (x.1.weights P ts)) :
    ∃ (l:List α) (ad:Option Addr) (cap:Nat),cs=[.slice ad l.length cap]∧bv_ (vw W) ad (l.flatMap f)∧(∀ c∈l,Q c)∧l.length≤cap∧cap*P.bytesOf te≤reachBytes:=by
  rcases DataW.trod_slice hs h with⟨h0,_⟩|⟨a,len,cap,elems,rest,m,hn,rfl,rfl,_,hl,_,hlen,hel,hsp,_⟩
  · exact⟨[],none,0,h0,.inl rfl,(fun _ h=>by cases h),Nat.le_refl _,by simp⟩
  · obtain⟨hr,_⟩:=hsp rfl
    simp only[DataW.weights,hs,qD_,eh_,List.length_map]at hw
    have hcap:cap*P.bytesOf te≤reachBytes:=by
      have e:elems.length+rest.length=cap:=by omega
      rw[← e];exact hw.1
    have hone:∀ i,i<len→∃ c:α,W.cells? 0 (a.add (i*k)) k=some (f c)∧Q c:=fun i hi=>by
      have he:=hel i hi
      rw[hc,List.getElem?_eq_getElem (by omega)]at he
      obtain⟨cs',h1,h2⟩:=Option.bind_eq_some_iff.1 he
      obtain⟨c,rfl,hq⟩:=hread m (by omega) cs' _ h2 (qE_ hw.2.1 _ (List.mem_map_of_mem (List.getElem_mem (by omega))))
      exact⟨c,h1,hq⟩
    obtain⟨C,hC⟩:=Deep.choose_lt hone
    refine⟨(List.range len).map C,some a,cap,by simp,?_,?_,by simpa using hl,hcap⟩
    · by_cases h0:len=0
      · left;simp[h0]
      · have h1:=(hC 0 (by omega)).1
        obtain⟨_,_,hcell⟩:=World.cells?_some h1
        have hc0:=hcell 0 hk0
        have hlt:0<(f (C 0)).length:=by rw[hk];exact hk0
        rw[List.getElem?_eq_getElem hlt]at hc0
        cases hb:W.heap[a.block]? with
        | none=>simp[World.cell?,Addr.add,hb]at hc0
        | some o =>
          cases o with
          | cells arr T fz =>
            have hspot:a.spot=none:=by
              cases hsp2:a.spot with
              | none=>rfl
              | some s=>simp[World.cell?,Addr.add,hb,hsp2]at hc0
            obtain⟨b,off,sp⟩:=a
            simp only at hspot hb
            subst hspot
            right
            refine⟨b,off,arr,T,fz,rfl,(Array.getElem?_eq_some_iff.1 hb).1,hb,fun j y hj=>?_⟩
            have hjlt:j<len*k:=by
              have:=(List.getElem?_eq_some_iff.1 hj).1
              rw[bV_ f k hk]at this
              simpa using this
            have hi:j / k<len:=Nat.div_lt_of_lt_mul (by rw[Nat.mul_comm];exact hjlt)
            have hr':j%k<k:=Nat.mod_lt _ hk0
            have e:j=(j / k)*k+j%k:=by rw[Nat.mul_comm];exact (Nat.div_add_mod j k).symm
            have hget:((List.range len).map C)[j / k]? = some (C (j / k)):=by simp[hi]
            rw[e,mu_ f k hk _ (j / k) (j%k) _ hget hr']at hj
            obtain⟨_,_,hcell⟩:=World.cells?_some (hC (j / k) hi).1
            have:=hcell (j%k) hr'
            rw[hj,dv_,dv_]at this
            rw[e]
            simpa [World.cell?,hb,Nat.add_assoc] using this
          | _=>simp[World.cell?,Addr.add,hb]at hc0
    · intro c hc'
      obtain⟨i,hi,rfl⟩:=List.mem_map.1 hc'
      exact (hC i (by simpa using hi)).2
end
instance:Inhabited Con:=⟨.mk 0 [] 0 0 none 0 []⟩
instance:Inhabited Ax:=⟨⟨0,false,default,default,none,0,[],[],[],[]⟩⟩
instance:Inhabited Pc:=⟨⟨0,[],[],[],[],[],[],0,0,0⟩⟩
structure Tys (P:Program) (tI tB tS tSs tC tCs tA tAs tP tPs:TypeId):Prop where
  i:P.underlying tI=some (.int .i64)
  b:P.underlying tB=some .bool
  s:P.underlying tS=some .string
  ss:P.underlying tSs=some (.slice tS)
  p:∃ fs,P.underlying tP=some (.struct fs)∧fs.toList.map (fun f=>(f.type,f.offset))=[(tI,0),(tS,1),(tS,2),(tS,3),(tS,4),(tS,5),(tS,6),(tI,7),(tI,8),(tI,9)]
  ps:P.underlying tPs=some (.slice tP)
  ci:P.cellsOf tI=1
  cb:P.cellsOf tB=1
  cs1:P.cellsOf tS=1
  css:P.cellsOf tSs=1
  cp:P.cellsOf tP=10
  bs:P.bytesOf tS=16
  bp:P.bytesOf tP=128
section
variable {H:Type} {enc:TypeId×Value→H} {P:Program} {W:World} {tI tB tS tSs tC tCs tA tAs tP tPs:TypeId} (X:Tys P tI tB tS tSs tC tCs tA tAs tP tPs)
theorem fields_of {t:TypeId} {fs:Array Field} {L:List (TypeId×Nat)} {cs:List Value} {n:Nat} {x:DataW H×List MemPlace} (ht:P.underlying t=some (.struct fs)) (hL:fs.toList.map (fun f=>(f.type,f.offset))=L) (h:DataW.trod enc P W 0 (fun _=>true) true n t cs=some x) :
    ∃ (xs:List (DataW H×List MemPlace)) (m:Nat),n=m+1∧x.1=.agg (xs.map (·.1))∧cs.length=P.cellsOf t∧xs.length=L.length∧(∀ (i:Nat) q,L[i]? = some q→DataW.trod enc P W 0 (fun _=>true) true m q.1 ((cs.drop q.2).take (P.cellsOf q.1))=xs[i]?) ∧
      (x.1.weights P t=DataW.weightsEach P (L.map (·.1)) (xs.map (·.1))):=by
  obtain⟨xs,m,hn,hx,hl,hlen,hf⟩:=DataW.trod_struct ht h
  refine⟨xs,m,hn,by rw[hx],hl,by rw[hlen,← hL];simp,fun i q hq=>?_,?_⟩
  · rw[← hL,List.getElem?_map,Option.map_eq_some_iff]at hq
    obtain⟨f,hf',rfl⟩:=hq
    exact hf i f (by simpa using hf')
  · rw[hx];simp only[DataW.weights,ht]
    congr 1
    rw[← hL,List.map_map];rfl
include X
theorem fV_ {n:Nat} {cs:List Value} {x:DataW H×List MemPlace} (h:DataW.trod enc P W 0 (fun _=>true) true n tI cs=some x):∃ k:Int,cs=[.int .i64 k]∧-9223372036854775808≤k∧k≤9223372036854775807:=by
  obtain⟨k,h1,_,h3⟩:=DataW.trod_int X.i h
  have:=bounds_i64 h3
  exact⟨k,h1,this.1,this.2⟩
theorem str_of {n:Nat} {cs:List Value} {x:DataW H×List MemPlace} (h:DataW.trod enc P W 0 (fun _=>true) true n tS cs=some x) (hw:wok (x.1.weights P tS)):∃ s:Str,cs=[str s]∧s.length≤140737488351232:=by
  obtain⟨s,h1,h2,_⟩:=DataW.trod_string X.s h
  rw[h2]at hw
  simp[wok,DataW.weights,reachBytes]at hw
  refine⟨s.data.toList,by rw[h1];rfl,by have:=of_decide_eq_true hw;simpa using this⟩
structure Pc.big (p:Pc):Prop where
  a:p.a.length≤140737488351232
  b:p.b.length≤140737488351232
  c:p.c.length≤140737488351232
  r:p.r.length≤140737488351232
  s:p.s.length≤140737488351232
  t:p.t.length≤140737488351232
theorem pc_of {n:Nat} {cs:List Value} {x:DataW H×List MemPlace} (h:DataW.trod enc P W 0 (fun _=>true) true n tP cs=some x) (hw:wok (x.1.weights P tP)):∃ p:Pc,cs=p.cells∧p.big:=by
  obtain⟨fs,hu,hL⟩:=X.p
  obtain⟨xs,m,hn,hx,hl,hlen,hf,hwe⟩:=fields_of hu hL h
  rw[hwe]at hw
  match xs,hlen with
  | [x0,x1,x2,x3,x4,x5,x6,x7,x8,x9],_ =>
  simp only[List.map_cons,List.map_nil,DataW.weightsEach,eh_]at hw
  have f0:=hf 0 _ rfl;have f1:=hf 1 _ rfl;have f2:=hf 2 _ rfl;have f3:=hf 3 _ rfl;have f4:=hf 4 _ rfl;have f5:=hf 5 _ rfl;have f6:=hf 6 _ rfl;have f7:=hf 7 _ rfl;have f8:=hf 8 _ rfl;have f9:=hf 9 _ rfl
  simp only[List.getElem?_cons_zero,List.getElem?_cons_succ,X.ci,X.cs1]at f0 f1 f2 f3 f4 f5 f6 f7 f8 f9
  obtain⟨k,e0,_,_⟩:=fV_ X f0
  obtain⟨a,e1,n1⟩:=str_of X f1 hw.2.1
  obtain⟨b,e2,n2⟩:=str_of X f2 hw.2.2.1
  obtain⟨c,e3,n3⟩:=str_of X f3 hw.2.2.2.1
  obtain⟨r,e4,n4⟩:=str_of X f4 hw.2.2.2.2.1
  obtain⟨s,e5,n5⟩:=str_of X f5 hw.2.2.2.2.2.1
  obtain⟨t,e6,n6⟩:=str_of X f6 hw.2.2.2.2.2.2.1
  obtain⟨lo,e7,_,_⟩:=fV_ X f7
  obtain⟨hi,e8,_,_⟩:=fV_ X f8
  obtain⟨fr,e9,_,_⟩:=fV_ X f9
  rw[X.cp]at hl
  match cs,hl with
  | [c0,c1,c2,c3,c4,c5,c6,c7,c8,c9],_ =>
  simp only[List.drop_succ_cons,List.drop_zero,List.take_succ_cons,List.take_zero,List.cons.injEq,and_true]at e0 e1 e2 e3 e4 e5 e6 e7 e8 e9
  subst e0 e1 e2 e3 e4 e5 e6 e7 e8 e9
  exact⟨⟨k,a,b,c,r,s,t,lo,hi,fr⟩,rfl,n1,n2,n3,n4,n5,n6⟩
theorem pcs_of {n:Nat} {cs:List Value} {x:DataW H×List MemPlace} (h:DataW.trod enc P W 0 (fun _=>true) true n tPs cs=some x) (hw:wok (x.1.weights P tPs)) :
    ∃ (l:List Pc) (ad:Option Addr) (cap:Nat),cs=[.slice ad l.length cap]∧bv_ (vw W) ad (l.flatMap Pc.cells)∧(∀ y∈l,y.big)∧l.length≤cap∧cap≤1099511627744:=by
  obtain⟨l,ad,cap,e,hrow,hq,hlc,hcap⟩:=md_ Pc.cells 10 Pc.cells_len (by decide) Pc.big X.ps X.cp (fun m' _ cs' y hy hwy=>pc_of X hy hwy) h hw
  rw[X.bp]at hcap;simp only[reachBytes]at hcap
  exact⟨l,ad,cap,e,hrow,hq,hlc,by omega⟩
end
end Go.Vs
namespace Go.Vs
open Go Go.Sx Go.ChangeShapes Go.WideShapes Go.ChangeAt Go.RowKit
section
variable {H:Type} {enc:TypeId×Value→H} {P:Program} {w:World}
mutual
def gH_ {H:Type}:DataW H→List Value
  | .lit (.int k n)=>[.int k n]
  | .lit (.bool b)=>[.bool b]
  | .agg ps=>ix_ ps
  | _=>[]
def ix_ {H:Type}:List (DataW H)→List Value
  | []=>[]
  | d::r=>gH_ d++ix_ r
end
def gI_ (P:Program):Nat→TypeId→Bool
  | 0,_=>false
  | n+1,t=>match P.underlying t with
    | some .bool=>true
    | some (.int _)=>true
    | some (.struct fs)=>fs.toList.all fun f=>gI_ P n f.type
    | some (.array _ e)=>gI_ P n e
    | _=>false
theorem hX_:∀ l:List (DataW H),ix_ l=l.flatMap gH_
  | []=>by simp[ix_]
  | d::r=>by simp only[ix_,hX_ r,List.flatMap_cons]
theorem tile:∀ (ls:List Nat) (cs:List Value) (g:List (List Value)),cs.length=ls.sum→g.length=ls.length→(∀ j n,ls[j]? = some n→some ((cs.drop (ls.take j).sum).take n)=g[j]?)→cs=g.flatten
  | [],cs,g,h,hg,_=>by
    simp only[List.sum_nil]at h
    have h1:=List.eq_nil_of_length_eq_zero h
    have h2:g=[]:=List.eq_nil_of_length_eq_zero hg
    simp[h1,h2]
  | n::ls,cs,[],h,hg,hp=>by simp at hg
  | n::ls,cs,x::g,h,hg,hp=>by
    have h0:=hp 0 n rfl
    simp only[List.take_zero,List.sum_nil,List.drop_zero,List.getElem?_cons_zero,Option.some.injEq]at h0
    have ih:=tile ls (cs.drop n) g (by rw[List.length_drop,h];simp) (by simpa using hg) (fun j m hj=>by
      have:=hp (j+1) m hj
      simp only[List.take_succ_cons,List.sum_cons,List.getElem?_cons_succ]at this
      rw[← this,List.drop_drop])
    rw[List.flatten_cons,← ih,← h0,List.take_append_drop]
theorem rr_ {T:TypeId→Prop} {held:Bool} (K:Kids P T):∀ (n m:Nat) (t:TypeId) (cs:List Value) (x:DataW H×List MemPlace),T t→gI_ P m t=true→DataW.trod enc P w 0 (fun _=>true) held n t cs=some x→cs=gH_ x.1:=by
 intro n
 induction n with
 | zero=>intro m t cs x _ _ h;simp[DataW.trod]at h
 | succ n ih =>
   intro m t cs x hT hb h
   cases m with
   | zero=>simp[gI_]at hb
   | succ m =>
   cases hu:P.underlying t with
   | none=>simp[gI_,hu]at hb
   | some d =>
     cases d with
     | bool=>obtain⟨b,rfl,rfl⟩:=DataW.trod_bool hu h;simp[gH_]
     | int k=>obtain⟨b,rfl,rfl,_⟩:=DataW.trod_int hu h;simp[gH_]
     | struct fs =>
       obtain⟨xs,m',hn,rfl,hl,hlen,hf⟩:=DataW.trod_struct hu h
       obtain rfl:m'=n:=by omega
       obtain⟨k1,k2,k3⟩:=K.struct hT hu
       simp only[gI_,hu]at hb
       simp only[gH_]
       rw[hX_,List.flatMap_def,List.map_map]
       refine tile (fs.toList.map fun f=>P.cellsOf f.type) cs _ (by rw[hl,k2]) (by simp[hlen]) fun j q hq=>?_
       rw[List.getElem?_map,Option.map_eq_some_iff]at hq
       obtain⟨f,hf',rfl⟩:=hq
       have h1:=hf j f (by simpa using hf')
       have h2:=k3 j f hf'
       have hj:j<xs.length:=by rw[hlen];have:=(List.getElem?_eq_some_iff.1 hf').1;simpa using this
       rw[List.getElem?_eq_getElem hj]at h1
       have h3:=ih m f.type _ _ (k1 f (List.mem_of_getElem? hf')) (List.all_eq_true.1 hb f (List.mem_of_getElem? hf')) h1
       rw[List.getElem?_map,List.getElem?_eq_getElem hj,← List.map_take,← h2,h3]
       rfl
     | array len e =>
       obtain⟨xs,m',hn,rfl,hl,hlen,hf⟩:=DataW.trod_array hu h
       obtain rfl:m'=n:=by omega
       obtain⟨k1,k2⟩:=K.array hT hu
       simp only[gI_,hu]at hb
       simp only[gH_]
       rw[hX_,List.flatMap_def,List.map_map]
       refine tile (List.replicate len (P.cellsOf e)) cs _ (by rw[hl,k2];simp) (by simp[hlen]) fun j q hq=>?_
       rw[List.getElem?_replicate]at hq
       split at hq
       · rename_i hj
         simp only[Option.some.injEq]at hq
         subst hq
         have h1:=hf j hj
         have hjx:j<xs.length:=by omega
         rw[List.getElem?_eq_getElem hjx]at h1
         have h3:=ih m e _ _ k1 hb h1
         rw[List.getElem?_map,List.getElem?_eq_getElem hjx,List.take_replicate,List.sum_replicate_nat,Nat.min_eq_left (by omega),h3]
         rfl
       · cases hq
     | _=>simp[gI_,hu]at hb
end
section
variable {H:Type} {enc:TypeId×Value→H} {P:Program} {W W':World}
theorem hS_:∀ {ts:List TypeId} {vs:List Value} {ds:List (DataW H)} {ps:List MemPlace} {sp:Nat→Bool},DataW.TrodAll enc P W 0 sp true ts vs ds ps→(∀ p∈ps,W.sameAt W' p)→DataW.TrodAll enc P W' 0 sp true ts vs ds ps
  | [],[],[],_,_,h,_=>h
  | _::_,_::_,_::_,_,_,⟨p,q,⟨n,h1⟩,h2,e⟩,hs=>⟨p,q,⟨n,DataW.trod_carry n _ _ _ h1 (fun x hx=>hs x (by rw[e];exact List.mem_append_left _ hx))⟩,hS_ h2 (fun x hx=>hs x (by rw[e];exact List.mem_append_right _ hx)),e⟩
theorem rV_ {T:TypeId→Prop} (K:Kids P T) (hz:∀ t e,T t→P.underlying t=some (.slice e)→0<P.cellsOf e) {f:Func} {s:ChangeSpec} {args:Array Value} {ds:List (DataW H)} {before:List MemPlace} {tb:TypeId} (hts:∀ t∈f.params.toList,T t) (hvars:s.vars=[])
    (hW:DataW.Whole enc P f.params.toList s.vars false W args.toList ds [] before) (hs:s.fn H (ds++[])={ results:=[.lit (.bool true)],args:=ds }) (hres:f.resultTypes=#[tb]) (hb:P.underlying tb=some .bool) {v':Vw} (hto:(vw W).to [] v' []) :
    s.post enc P f false true false false W args (.bool true) v'.w:=by
  have hW':=hW
  obtain⟨p,q,hA,hV,hp,_,_⟩:=hW
  have hq:q=[]:=by rw[hvars]at hV;exact hV
  subst hq
  simp only[List.append_nil]at hp
  subst hp
  have hblk:∀ b,b<W.heap.size→v'.w.heap[b]? = W.heap[b]? := fun b hb=>hto.block b hb (by simp)
  have hsame:∀ x∈before,W.sameAt v'.w x:=fun x hx=>by
    have hlt:=DataW.TrodAll.lt hA x hx
    cases x with
    | cell b off=>exact World.cell?_of_block (hblk b hlt)
    | map b=>exact hblk b hlt
  have hA':=hS_ hA hsame
  have hA'':=DataW.TrodAll.respare K hz (spare':=fun b=>decide (b<W.heap.size)) hts hA' (fun x hx=>by simpa using DataW.TrodAll.lt hA x hx)
  refine⟨ds,[],before,[],before,[],hW',?_,?_,?_,⟨hto.os,hto.output,fun i hi=>?_⟩,fun h=>by cases h⟩
  · rw[hs,hres];exact trodAll_mk1 (shut_bool hb true)
  · rw[hs];exact hA''
  · rw[hs,hvars];rfl
  · rw[hblk i hi]
    have hsome:∃ o,W.heap[i]? = some o:=⟨_,Array.getElem?_eq_getElem hi⟩
    obtain⟨o,ho⟩:=hsome
    rw[ho]
    cases o<;>simp
section
variable {tI tB tS tSs tC tCs tA tAs tP tPs:TypeId} (X:Tys P tI tB tS tSs tC tCs tA tAs tP tPs) {base:Nat} {v:Value} {d:DataW H} {ps:List MemPlace}
include X
theorem uf_ (hval:Value.okWide P W .any base tPs v) (h:DataW.Trod enc P W 0 (fun _=>true) true tPs v d ps) (hw:wok (d.weights P tPs)) :
    ∃ (l:List Pc) (ad:Option Addr) (cap:Nat),v=.slice ad l.length cap∧bv_ (vw W) ad (l.flatMap Pc.cells)∧(∀ y∈l,y.big)∧l.length≤cap∧cap≤1099511627744:=by
  obtain⟨a,len,cap,rfl⟩:=okWide_slice X.ps hval
  obtain⟨n,hn⟩:=h
  obtain⟨l,ad,cap',e,h1⟩:=pcs_of X hn hw
  simp only[Value.cells,List.cons.injEq,and_true]at e
  exact⟨l,ad,cap',e,h1⟩
end
theorem qL_ {T:TypeId→Prop} (K:Kids P T) {name:String} {d:DataW Unit} {laid:List (String×DataW Unit)} {W:World} (h:laidMet P laid W) (hm:(name,d)∈laid) {g:Nat} {t:TypeId} (hg:P.globalNamed name=some g) (ht':(P.globals[g]?).map (·.type)=some t) (hT:T t) {m:Nat} (hb:gI_ P m t=true) :
    ∃ T' fz,W.heap[g]? = some (.cells (gH_ d).toArray T' fz):=by
  obtain⟨ps,hl,_,_⟩:=h
  have key:∀ (l:List (String×DataW Unit)) (ps:List MemPlace),DataW.LaidVars P W l ps→(name,d)∈l→∃ g t cs n p,P.globalNamed name=some g∧(P.globals[g]?).map (·.type)=some t∧W.var? P name=some cs∧DataW.trod (fun _=>()) P W 0 (fun _=>true) false n t cs.toList=some (d,p):=by
    intro l
    induction l with
    | nil=>intro ps _ h;cases h
    | cons x r ih =>
      intro ps h hm
      obtain⟨n',d'⟩:=x
      obtain⟨g,t,cs,fuel,p,q,h1,h2,h3,h4,h5,_⟩:=h
      rcases List.mem_cons.1 hm with e|hm
      · cases e;exact⟨g,t,cs,fuel,p,h1,h2,h3,h4⟩
      · exact ih q h5 hm
  obtain⟨g',t',cs,n,p,h1,h2,h3,h4⟩:=key laid ps hl hm
  obtain rfl:g'=g:=Option.some.inj (h1.symm.trans hg)
  obtain rfl:t'=t:=Option.some.inj (h2.symm.trans ht')
  have e:=rr_ K n m t' cs.toList _ hT hb h4
  simp only[World.var?,hg,Option.bind_some]at h3
  split at h3
  · rename_i c T' fz hc
    simp only[Option.some.injEq]at h3
    subst h3
    exact⟨T',fz,by rw[hc,← e]⟩
  · cases h3
end
end Go.Vs
