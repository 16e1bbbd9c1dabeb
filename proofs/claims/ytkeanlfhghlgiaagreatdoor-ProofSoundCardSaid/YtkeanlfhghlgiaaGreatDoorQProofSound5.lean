/-
  Part of the proof of the law ProofSound over this seat: the small logic, the data, the contracts of functions (no condition).
-/
import Derived.Test.YtkeanlfhghlgiaaGreatDoorQProofSound4
import Derived.Test.YtkeanlfhghlgiaaGreatDoorQProofSound2
import Derived.Test.YtkeanlfhghlgiaaGreatDoorQProofSound1
import Derived.Scope
set_option linter.unusedVariables false
set_option linter.unusedSimpArgs false
set_option linter.unusedSectionVars false
set_option maxHeartbeats 1000000
namespace Go.Vs
open Go Go.Sx
section
variable {ps:List Pc} {A:List Str} {c:List Fc} {x:Ix} {f:Fc}
theorem Cmpl.up {S Fm kn good good':Fc→Prop} (h:Cmpl ps S Fm kn good f) (hg:∀ y,good y→good' y):Cmpl ps S Fm kn good' f :=
  ⟨fun z a h1 h2 h3=>hg _ (h.c3 z a h1 h2 h3),fun z a h1 h2 h3 h4=>hg _ (h.c4 z a h1 h2 h3 h4),fun z a h1 h2 h3 h4=>hg _ (h.c4' z a h1 h2 h3 h4),fun z a h1 h2 h3=>hg _ (h.c5 z a h1 h2 h3),fun z a b h1 h2 h3=>hg _ (h.c6 z a b h1 h2 h3),
   fun z a b c h1 h2 h3 h4=>hg _ (h.c7 z a b c h1 h2 h3 h4),fun z a b c h1 h2 h3 h4=>hg _ (h.c7' z a b c h1 h2 h3 h4),fun z a b h1 h2 h3 h4=>hg _ (h.c8 z a b h1 h2 h3 h4),fun z a b h1 h2 h3 h4=>hg _ (h.c8' z a b h1 h2 h3 h4),fun a r b h1 h2=>hg _ (h.c9 a r b h1 h2),fun a r b h1 h2=>hg _ (h.c9' a r b h1 h2),
   fun z a h1 h2 h3=>hg _ (h.c11 z a h1 h2 h3),fun y h1 h2 h3 h4 h5 h6 h7=>hg _ (h.c12 y h1 h2 h3 h4 h5 h6 h7),fun y h1 h2 h3 h4 h5 h6 h7=>hg _ (h.c13 y h1 h2 h3 h4 h5 h6 h7),fun z a lo hi h1 h2 h3 h4 h5=>hg _ (h.c14 z a lo hi h1 h2 h3 h4 h5)⟩
theorem ra_ {good:Fc→Prop} (hb:∀ y∈ey_ (ai_ ps) A,good y) (hc:∀ f∈c,Cmpl ps (·∈c) (fun _=>True) (·∈c) good f) {y:Fc} (h:fH_ ps A (·∈c) y):good y:=by
  cases h with
  | r1 h=>exact hb _ (fZ_ h).1
  | r2 h=>exact hb _ (fZ_ h).2.1
  | r10 hx hk h=>exact hb _ ((fZ_ h).2.2 _ hx hk)
  | r3 hx hk h=>exact (hc _ h).c3 _ _ hx hk rfl
  | r4 hx hk h h'=>exact (hc _ h).c4 _ _ hx hk rfl h'
  | r5 hx hk h=>exact (hc _ h).c5 _ _ hx hk rfl
  | r6 hx hk h=>exact (hc _ h).c6 _ _ _ hx hk rfl
  | r7 hx hk h h'=>exact (hc _ h).c7 _ _ _ _ hx hk rfl h'
  | r8 hx hk h h'=>exact (hc _ h).c8 _ _ _ hx hk rfl h'
  | r9 h h'=>exact (hc _ h).c9 _ _ _ rfl h'
  | r11 hx hk h=>exact (hc _ h).c11 _ _ hx hk rfl
  | r12 h h' hm hl=>exact (hc _ h).c12 _ rfl h' rfl rfl rfl (.inl trivial) hl
  | r13 h h' hm hl=>exact (hc _ h).c13 _ rfl h' rfl rfl rfl (.inl trivial) hl
  | r14 hx hk h h1 h2=>exact (hc _ h).c14 _ _ _ _ hx hk rfl h1 h2
end
def et_ (l:List Fc) (f:Fc):Nat:=l.countP fun y=>decide (y.lt f)
def nt_ (l:List Fc) (f:Fc):List Fc:=if f∈l then l else l.take (et_ l f)++f::l.drop (et_ l f)
theorem iD_:∀ {l:List Fc} (f:Fc),Srt l→(∀ y∈l.take (et_ l f),y.lt f)∧(∀ y∈l.drop (et_ l f),¬ y.lt f)
 | [],f,_=>by simp[et_]
 | x::l,f,h=>by
   rw[Srt,List.pairwise_cons]at h
   obtain⟨i1,i2⟩:=iD_ f h.2
   by_cases hx:x.lt f
   · have e:et_ (x::l) f=et_ l f+1:=by simp[et_,hx]
     rw[e]
     simp only[List.take_succ_cons,List.drop_succ_cons]
     exact⟨fun y hy=>(List.mem_cons.1 hy).elim (fun q=>q▸hx) (i1 y),i2⟩
   · have hall:∀ y∈l,¬ y.lt f:=fun y hy q=>hx (Fc.lt_trans (h.1 y hy) q)
     have e:et_ (x::l) f=0:=by
       simp only[et_,List.countP_cons,hx,decide_false,Bool.false_eq_true,if_false,Nat.add_zero]
       rw[List.countP_eq_zero]
       intro y hy;simpa using hall y hy
     rw[e]
     simp only[List.take_zero,List.not_mem_nil,false_imp_iff,implies_true,true_and,List.drop_zero]
     intro y hy
     rcases List.mem_cons.1 hy with rfl|hy
     · exact hx
     · exact hall y hy
theorem qL_ (l:List Fc) (f y:Fc):y∈nt_ l f↔y∈l∨y=f:=by
 unfold nt_
 split
 ·rename_i h
  exact⟨.inl,fun q=>q.elim id fun e=>e▸h⟩
 have:y∈l↔y∈l.take (et_ l f)∨y∈l.drop (et_ l f):=by rw[← List.mem_append,List.take_append_drop]
 rw[this]
 simp only[List.mem_append,List.mem_cons]
 constructor
 ·rintro (h|h|h)
  ·exact .inl (.inl h)
  ·exact .inr h
  exact .inl (.inr h)
 rintro ((h|h)|h)
 ·exact .inl h
 ·exact .inr (.inr h)
 exact .inr (.inl h)
theorem qK_ {l:List Fc} (f:Fc) (h:Srt l):Srt (nt_ l f):=by
 unfold nt_
 split
 ·exact h
 rename_i hn
 obtain⟨h1,h2⟩:=iD_ f h
 have hd:∀ y∈l.drop (et_ l f),f.lt y:=fun y hy=>by
   rcases Fc.lt_tri f y with q|q|q
   · exact q
   · exact absurd (List.mem_of_mem_drop hy) (q▸hn)
   · exact absurd q (h2 y hy)
 rw[Srt,List.pairwise_append]
 refine⟨h.sublist (List.take_sublist _ _),List.pairwise_cons.2 ⟨hd,h.sublist (List.drop_sublist _ _)⟩,fun a ha b hb=>?_⟩
 rcases List.mem_cons.1 hb with rfl|hb
 ·exact h1 a ha
 exact Fc.lt_trans (h1 a ha) (hd b hb)
def subA (p:List Pc) (l:List Fc) (f:Fc):List Fc:=p.flatMap fun x =>
  if x.kind=1∧x.a=f.b then [y_ f.a x.c]
  else if x.kind=2∧(x.a=f.b∧y_ f.a x.b∈l∨x.b=f.b∧y_ f.a x.a∈l) then [y_ f.a x.c]
  else if x.kind=3∧x.a=f.b then [E_ f.a x.r x.c]
  else if x.kind=8∧x.a=f.b then [M_ f.a x.r x.lo x.hi]
  else []
def subBp (p:List Pc) (f y:Fc):List Fc:=p.flatMap fun x=>if x.kind=4∧x.r=y.r∧x.a=f.b then [y_ y.a x.c] else []
def subB (p:List Pc) (f y:Fc):List Fc:=if y.kind≠2∨y.b≠f.a then [] else (if f.b=[33] then [y_ y.a [33]] else [])++subBp p f y
def subS (p:List Pc) (l:List Fc) (f:Fc):List Fc:=subA p l f++l.flatMap (subB p f)
def nR_ (x:Pc) (f y:Fc):List Fc:=if y.kind≠2 then [] else (if x.r=f.r∧y.a=f.b∧y.r=x.s then [E_ f.a x.t y.b] else [])++(if x.s=f.r∧y.b=f.a∧y.r=x.r then [E_ y.a x.t f.b] else [])
def kS_ (l:List Fc) (f:Fc) (x:Pc):List Fc :=
  if x.kind=5∧x.r=f.r then [E_ f.a x.t f.b]
  else if x.kind=4∧x.r=f.r∧y_ f.b x.a∈l then [y_ f.a x.c]
  else if x.kind=6 then l.flatMap (nR_ x f) else []
def sH_ (p:List Pc) (l:List Fc) (f:Fc):List Fc:=(if y_ f.b [33]∈l then [y_ f.a [33]] else [])++p.flatMap (kS_ l f)
def ll_ (f y:Fc):List Fc:=if y.kind≠3∨y.a≠f.a∨y.r≠f.r then [] else if max f.lo y.lo≤min f.hi y.hi then [cM_ f y] else [y_ f.a [33]]
def nh_ (f:Fc) (x:Pc):List Fc:=if x.kind=9∧x.r=f.r∧x.lo≤f.lo∧f.hi≤x.hi then [y_ f.a x.c] else []
def pU_ (p:List Pc) (l:List Fc) (f:Fc):List Fc:=l.flatMap (ll_ f)++p.flatMap (nh_ f)
def fL_ (p:List Pc) (l:List Fc) (f:Fc):List Fc:=if f.kind=1 then subS p l f else if f.kind=2 then sH_ p l f else pU_ p l f
def it_ (p:List Pc) (A:List Str):List Fc:=A.flatMap fun a=>y_ a a::y_ a [42]::(p.filter fun x=>decide (x.kind=7)).map fun x=>E_ a x.r a
theorem kX_ (p:List Pc) (A:List Str):it_ p A=ey_ (ai_ p) A:=by
  unfold it_ ey_ ai_
  simp[List.map_map,Function.comp_def]
section
variable {p:List Pc} {A:List Str} {l:List Fc} {f:Fc}
theorem lV_ (hf:f∈l) (hF:∀ y∈l,y.form):∀ y∈fL_ p l f,fH_ p A (·∈l) y:=by
 have hff:=hF f hf
 have hk:=fU_ hff
 intro y hy
 unfold fL_ at hy
 split at hy
 ·rename_i h1
  have ef:=iG_ hff h1
  rcases List.mem_append.1 hy with hy|hy
  ·obtain⟨x,hx,hy⟩:=List.mem_flatMap.1 hy
   split at hy
   ·rename_i hc
    simp at hy;subst hy
    exact .r3 hx hc.1 (by rw[hc.2,← ef];exact hf)
   split at hy
   ·rename_i hc
    simp at hy;subst hy
    rcases hc.2 with h|h
    ·exact .r4 hx hc.1 (by rw[h.1,← ef];exact hf) h.2
    exact .r4 hx hc.1 h.2 (by rw[h.1,← ef];exact hf)
   split at hy
   ·rename_i hc
    simp at hy;subst hy
    exact .r5 hx hc.1 (by rw[hc.2,← ef];exact hf)
   split at hy
   ·rename_i hc
    simp at hy;subst hy
    exact .r11 hx hc.1 (by rw[hc.2,← ef];exact hf)
   simp at hy
  obtain⟨g,hg,hy⟩:=List.mem_flatMap.1 hy
  unfold subB at hy
  split at hy
  ·simp at hy
  rename_i hc
  simp only[not_or,Decidable.not_not]at hc
  have eg:=(gL_ (hF g hg) hc.1).1
  rcases List.mem_append.1 hy with hy|hy
  ·split at hy
   ·rename_i hb
    simp at hy;subst hy
    exact .r9 (r:=g.r) (b:=g.b) (by rw[← eg];exact hg) (by rw[hc.2,← hb,← ef];exact hf)
   simp at hy
  obtain⟨x,hx,hy⟩:=List.mem_flatMap.1 hy
  split at hy
  ·rename_i hd
   simp at hy;subst hy
   exact .r8 (b:=g.b) hx hd.1 (by rw[hd.2.1,← eg];exact hg) (by rw[hc.2,hd.2.2,← ef];exact hf)
  simp at hy
 split at hy
 ·rename_i h2
  have ef:=(gL_ hff h2).1
  rcases List.mem_append.1 hy with hy|hy
  ·split at hy
   ·rename_i hb
    simp at hy;subst hy
    exact .r9 (r:=f.r) (b:=f.b) (by rw[← ef];exact hf) hb
   simp at hy
  obtain⟨x,hx,hy⟩:=List.mem_flatMap.1 hy
  unfold kS_ at hy
  split at hy
  ·rename_i hc
   simp at hy;subst hy
   exact .r6 hx hc.1 (by rw[hc.2,← ef];exact hf)
  split at hy
  ·rename_i hc
   simp at hy;subst hy
   exact .r8 (b:=f.b) hx hc.1 (by rw[hc.2.1,← ef];exact hf) hc.2.2
  split at hy
  ·rename_i hc
   obtain⟨g,hg,hy⟩:=List.mem_flatMap.1 hy
   unfold nR_ at hy
   split at hy
   ·simp at hy
   rename_i hgk
   have eg:=(gL_ (hF g hg) (Decidable.not_not.1 hgk)).1
   rcases List.mem_append.1 hy with hy|hy
   ·split at hy
    ·rename_i hd
     simp at hy;subst hy
     exact .r7 (b:=f.b) hx hc (by rw[hd.1,← ef];exact hf) (by rw[← hd.2.2,← hd.2.1,← eg];exact hg)
    simp at hy
   split at hy
   ·rename_i hd
    simp at hy;subst hy
    exact .r7 (b:=f.a) hx hc (by rw[← hd.2.2,← hd.2.1,← eg];exact hg) (by rw[hd.1,← ef];exact hf)
   simp at hy
  simp at hy
 rename_i h1 h2
 have h3:f.kind=3:=by omega
 have ef:=(fV_ hff h3).1
 rcases List.mem_append.1 hy with hy|hy
 ·obtain⟨g,hg,hy⟩:=List.mem_flatMap.1 hy
  unfold ll_ at hy
  split at hy
  ·simp at hy
  rename_i hc
  simp only[not_or,Decidable.not_not]at hc
  have eg:=(fV_ (hF g hg) hc.1).1
  rw[hc.2.1,hc.2.2]at eg
  split at hy
  ·rename_i hl
   simp at hy;subst hy
   exact .r12 (by rw[← ef];exact hf) (by rw[← eg];exact hg) trivial hl
  rename_i hl
  simp at hy;subst hy
  exact .r13 (r:=f.r) (by rw[← ef];exact hf) (by rw[← eg];exact hg) trivial (Int.not_le.1 hl)
 obtain⟨x,hx,hy⟩:=List.mem_flatMap.1 hy
 unfold nh_ at hy
 split at hy
 ·rename_i hc
  simp at hy;subst hy
  exact .r14 hx hc.1 (by rw[hc.2.1,← ef];exact hf) hc.2.2.1 hc.2.2.2
 simp at hy
theorem mZ_:Cmpl p (·∈l) (fun _=>True) (·∈l) (·∈fL_ p l f) f:=by
 have s1:∀ {a b y},f=y_ a b→(y∈subS p l f)→y∈fL_ p l f:=fun e h=>by unfold fL_;rw[if_pos (by rw[e];rfl)];exact h
 have s2:∀ {a r b y},f=E_ a r b→(y∈sH_ p l f)→y∈fL_ p l f:=fun e h=>by unfold fL_;rw[if_neg (by rw[e];simp[E_]),if_pos (by rw[e];rfl)];exact h
 have s3:∀ {y},f.kind=3→(y∈pU_ p l f)→y∈fL_ p l f:=fun e h=>by unfold fL_;rw[if_neg (by rw[e];decide),if_neg (by rw[e];decide)];exact h
 refine⟨?_,?_,?_,?_,?_,?_,?_,?_,?_,?_,?_,?_,?_,?_,?_⟩
 ·intro z a hz hk e
  refine s1 e (List.mem_append_left _ (List.mem_flatMap.2 ⟨z,hz,?_⟩))
  rw[e,if_pos ⟨hk,rfl⟩];simp[y_]
 ·intro z a hz hk e h
  refine s1 e (List.mem_append_left _ (List.mem_flatMap.2 ⟨z,hz,?_⟩))
  rw[e,if_neg (by rw[hk];simp),if_pos ⟨hk,.inl ⟨rfl,h⟩⟩];simp[y_]
 ·intro z a hz hk e h
  refine s1 e (List.mem_append_left _ (List.mem_flatMap.2 ⟨z,hz,?_⟩))
  rw[e,if_neg (by rw[hk];simp),if_pos ⟨hk,.inr ⟨rfl,h⟩⟩];simp[y_]
 ·intro z a hz hk e
  refine s1 e (List.mem_append_left _ (List.mem_flatMap.2 ⟨z,hz,?_⟩))
  rw[e,if_neg (by rw[hk];simp),if_neg (by rw[hk];simp),if_pos ⟨hk,rfl⟩];simp[y_]
 ·intro z a b hz hk e
  refine s2 e (List.mem_append_right _ (List.mem_flatMap.2 ⟨z,hz,?_⟩))
  rw[e,kS_,if_pos ⟨hk,rfl⟩];simp[E_]
 ·intro z a b c hz hk e h
  refine s2 e (List.mem_append_right _ (List.mem_flatMap.2 ⟨z,hz,?_⟩))
  rw[e,kS_,if_neg (by rw[hk];simp),if_neg (by rw[hk];simp),if_pos hk]
  refine List.mem_flatMap.2 ⟨_,h,?_⟩
  rw[nR_,if_neg (by simp[E_])]
  refine List.mem_append_left _ ?_
  rw[if_pos ⟨rfl,rfl,rfl⟩];simp[E_]
 ·intro z a b c hz hk e h
  refine s2 e (List.mem_append_right _ (List.mem_flatMap.2 ⟨z,hz,?_⟩))
  rw[e,kS_,if_neg (by rw[hk];simp),if_neg (by rw[hk];simp),if_pos hk]
  refine List.mem_flatMap.2 ⟨_,h,?_⟩
  rw[nR_,if_neg (by simp[E_])]
  refine List.mem_append_right _ ?_
  rw[if_pos ⟨rfl,rfl,rfl⟩];simp[E_]
 ·intro z a b hz hk e h
  refine s2 e (List.mem_append_right _ (List.mem_flatMap.2 ⟨z,hz,?_⟩))
  rw[e,kS_,if_neg (by rw[hk];simp),if_pos ⟨hk,rfl,h⟩];simp[E_]
 ·intro z a b hz hk e h
  refine s1 e (List.mem_append_right _ (List.mem_flatMap.2 ⟨_,h,?_⟩))
  rw[subB,if_neg (by rw[e];simp[E_,y_])]
  refine List.mem_append_right _ (List.mem_flatMap.2 ⟨z,hz,?_⟩)
  rw[e,if_pos ⟨hk,rfl,rfl⟩];simp[E_]
 ·intro a r b e h
  refine s2 e (List.mem_append_left _ ?_)
  rw[e,if_pos (show y_ (E_ a r b).b [33]∈l from h)];simp[E_]
 ·intro a r b e h
  refine s1 e (List.mem_append_right _ (List.mem_flatMap.2 ⟨_,h,?_⟩))
  rw[subB,if_neg (by rw[e];simp[E_,y_])]
  refine List.mem_append_left _ ?_
  rw[e,if_pos (show (y_ b [33]).b=[33] from rfl)];simp[E_]
 ·intro z a hz hk e
  refine s1 e (List.mem_append_left _ (List.mem_flatMap.2 ⟨z,hz,?_⟩))
  rw[e,if_neg (by rw[hk];simp),if_neg (by rw[hk];simp),if_neg (by rw[hk];simp),if_pos ⟨hk,rfl⟩];simp[y_]
 ·intro y h3 hy hk ha hr _ hl
  refine s3 h3 (List.mem_append_left _ (List.mem_flatMap.2 ⟨y,hy,?_⟩))
  rw[ll_,if_neg (by simp[hk,ha,hr]),if_pos hl];simp
 ·intro y h3 hy hk ha hr _ hl
  refine s3 h3 (List.mem_append_left _ (List.mem_flatMap.2 ⟨y,hy,?_⟩))
  rw[ll_,if_neg (by simp[hk,ha,hr]),if_neg (Int.not_le.2 hl)];simp
 intro z a lo hi hz hk e h1 h2
 refine s3 (by rw[e];rfl) (List.mem_append_right _ (List.mem_flatMap.2 ⟨z,hz,?_⟩))
 rw[e,nh_,if_pos ⟨hk,rfl,h1,h2⟩];simp[M_]
theorem mo_ (hF:∀ y∈l,y.form) (y:Fc):y∈it_ p A++l.flatMap (fun f=>fL_ p l f)↔fH_ p A (·∈l) y:=by
 constructor
 ·intro hy
  rcases List.mem_append.1 hy with hy|hy
  ·rw[kX_]at hy;exact iL_ y hy
  obtain⟨f,hf,hy⟩:=List.mem_flatMap.1 hy
  exact lV_ hf hF y hy
 intro hy
 refine ra_ (c:=l) (good:=fun y=>y∈it_ p A++l.flatMap (fun f=>fL_ p l f)) (fun y hy=>List.mem_append_left _ (by rw[kX_];exact hy)) (fun f hf=>?_) hy
 exact mZ_.up fun y hy=>List.mem_append_right _ (List.mem_flatMap.2 ⟨f,hf,hy⟩)
end
def grow1 (p:List Pc) (A:List Str) (l:List Fc):List Fc:=(it_ p A++l.flatMap (fun f=>fL_ p l f)).foldl nt_ l
def kj_ (p:List Pc) (A:List Str):Nat→List Fc
  | 0=>[]
  | n+1=>grow1 p A (kj_ p A n)
theorem jV_:∀ (xs l:List Fc) (y:Fc),y∈xs.foldl nt_ l↔y∈l∨y∈xs
 | [],l,y=>by simp
 | x::xs,l,y=>by
   rw[List.foldl_cons,jV_ xs,qL_]
   simp only[List.mem_cons]
   constructor
   · rintro ((h|h)|h)
     · exact .inl h
     · exact .inr (.inl h)
     · exact .inr (.inr h)
   · rintro (h|h|h)
     · exact .inl (.inl h)
     · exact .inl (.inr h)
     · exact .inr h
theorem jU_:∀ (xs:List Fc) {l:List Fc},Srt l→Srt (xs.foldl nt_ l)
  | [],_,h=>h
  | x::xs,_,h=>jU_ xs (qK_ x h)
theorem mL_ (p:List Pc) (A:List Str):∀ n,Srt (kj_ p A n)
  | 0=>List.Pairwise.nil
  | n+1=>jU_ _ (mL_ p A n)
theorem ki_ {p:List Pc} {A:List Str} (hp:∀ x∈p,x.vok):∀ n,∀ y∈kj_ p A n,Der p A y
 | 0,y,hy=>by simp[kj_]at hy
 | n+1,y,hy=>by
   have ih:=ki_ (A:=A) hp n
   rcases (jV_ _ _ y).1 hy with h|h
   · exact ih y h
   · exact Der.step (((mo_ (fun z hz=>(ih z hz).form hp) y).1 h).mono (fun x hx=>⟨x,hx,x.frm,rfl⟩) (fun _ h=>h) ih (fun _ _ h=>h))
theorem mM_ {p:List Pc} {A:List Str} (hp:∀ x∈p,x.vok) (n m:Nat) (hc:((it_ p A++(kj_ p A n).flatMap (fun f=>fL_ p (kj_ p A n) f)).all fun y=>decide (y∈kj_ p A n))=true) (hl:(kj_ p A n).length≤m):dS_ p A m (some (kj_ p A n)):=by
  refine⟨mL_ p A n,fun y=>⟨ki_ hp n y,fun h=>h.least fun z hz=>?_⟩,hl⟩
  exact of_decide_eq_true (List.all_eq_true.1 hc z ((mo_ (fun w hw=>(ki_ hp n w hw).form hp) z).2 hz))
end Go.Vs
namespace Go.Vs
open Go Go.Sx
structure Stp where
  rule:Int
  fact:Fc
  piece:Int
  ad:Option Addr
  cap:Nat
  frm:List Int
def Stp.cells (s:Stp):List Value:=[.int .i64 s.rule,.int .i64 s.fact.kind,str s.fact.a,str s.fact.b,str s.fact.r,.int .i64 s.fact.lo,.int .i64 s.fact.hi,.int .i64 s.piece,.slice s.ad s.frm.length s.cap]
theorem Stp.cells_len (s:Stp):s.cells.length=9:=rfl
def Stp.val (s:Stp):Value:=.agg s.cells.toArray
theorem Stp.fact_cells (s:Stp) (j:Nat) (y:Value) (h:(Fc.cells s.fact)[j]? = some y):s.cells[1+j]? = some y:=by
  match j,h with
  | 0,h=>exact h
  | 1,h=>exact h
  | 2,h=>exact h
  | 3,h=>exact h
  | 4,h=>exact h
  | 5,h=>exact h
  | n+6,h=>simp[Fc.cells]at h
def aQ_ (l:List Stp):Fct where
  p v:=∀ s∈l,by_ v s.ad (s.frm.flatMap ae_)
  mono v v' h hp s hs:=(aq_ s.ad (s.frm.flatMap ae_)).mono v v' h (hp s hs)
theorem gi_ {l:List Stp} {s:Stp} {v:Vw} (h:(aQ_ l).p v) (hs:by_ v s.ad (s.frm.flatMap ae_)):(aQ_ (l++[s])).p v:=fun x hx=>by
 rcases List.mem_append.1 hx with hx|hx
 ·exact h x hx
 rw[List.mem_singleton]at hx;subst hx;exact hs
theorem kD_ {l m:List Stp} {v:Vw} (h:(aQ_ m).p v) (hs:∀ x∈l,x∈m):(aQ_ l).p v:=fun x hx=>h x (hs x hx)
theorem er_ {v:Vw}:(aQ_ []).p v:=fun x hx=>by simp at hx
def fcs (l:List Stp):List Fc:=l.map (·.fact)
theorem cv_ (l m:List Stp):fcs (l++m)=fcs l++fcs m:=by simp[fcs]
theorem ia_ (l:List Stp):(fcs l).length=l.length:=by simp[fcs]
def At (l:List Stp) (m:Nat) (f:Fc):Prop:=∃ s,l[m]? = some s∧s.fact=f
theorem At.lt {l:List Stp} {m:Nat} {f:Fc} (h:At l m f):m<l.length:=by
  obtain⟨s,h,_⟩:=h;exact (List.getElem?_eq_some_iff.1 h).1
theorem At.mem {l:List Stp} {m:Nat} {f:Fc} (h:At l m f):f∈fcs l:=by
  obtain⟨s,h,rfl⟩:=h;exact List.mem_map_of_mem (List.mem_of_getElem? h)
theorem At.pre {l l':List Stp} {m:Nat} {f:Fc} (h:At l m f) (hp:l <+: l'):At l' m f:=by
  obtain⟨t,rfl⟩:=hp;obtain⟨s,h,e⟩:=h
  exact⟨s,by rw[List.getElem?_append_left (List.getElem?_eq_some_iff.1 h).1];exact h,e⟩
theorem At.take {l:List Stp} {m n:Nat} {f:Fc} (h:At l m f) (hn:m<n):At (l.take n) m f:=by
  obtain⟨s,h,e⟩:=h;exact⟨s,by rw[List.getElem?_take_of_lt hn];exact h,e⟩
theorem ga_ {l:List Stp} {f:Fc} (h:f∈fcs l):∃ m,At l m f:=by
  obtain⟨s,hs,rfl⟩:=List.mem_map.1 h
  obtain⟨i,hi⟩:=List.getElem?_of_mem hs
  exact⟨i,s,hi,rfl⟩
inductive Cor (p:List Pc) (A:List Str) (l:List Stp):Int→Fc→Int→List Int→Prop
  | r1 {a:Str} (h:a∈A):Cor p A l 1 (y_ a a) (-1) []
  | r2 {a:Str} (h:a∈A):Cor p A l 2 (y_ a [42]) (-1) []
  | r10 {a:Str} {x:Pc} {i:Nat} (hx:p[i]? = some x) (hk:x.kind=7) (h:a∈A):Cor p A l 10 (E_ a x.r a) i []
  | r3 {a:Str} {x:Pc} {i m:Nat} (hx:p[i]? = some x) (hk:x.kind=1) (h:At l m (y_ a x.a)):Cor p A l 3 (y_ a x.c) i [(m:Int)]
  | r4 {a:Str} {x:Pc} {i m k:Nat} (hx:p[i]? = some x) (hk:x.kind=2) (h:At l m (y_ a x.a)) (h':At l k (y_ a x.b)):Cor p A l 4 (y_ a x.c) i [(m:Int),(k:Int)]
  | r5 {a:Str} {x:Pc} {i m:Nat} (hx:p[i]? = some x) (hk:x.kind=3) (h:At l m (y_ a x.a)):Cor p A l 5 (E_ a x.r x.c) i [(m:Int)]
  | r6 {a b:Str} {x:Pc} {i m:Nat} (hx:p[i]? = some x) (hk:x.kind=5) (h:At l m (E_ a x.r b)):Cor p A l 6 (E_ a x.t b) i [(m:Int)]
  | r7 {a b c:Str} {x:Pc} {i m k:Nat} (hx:p[i]? = some x) (hk:x.kind=6) (h:At l m (E_ a x.r b)) (h':At l k (E_ b x.s c)):Cor p A l 7 (E_ a x.t c) i [(m:Int),(k:Int)]
  | r8 {a b:Str} {x:Pc} {i m k:Nat} (hx:p[i]? = some x) (hk:x.kind=4) (h:At l m (E_ a x.r b)) (h':At l k (y_ b x.a)):Cor p A l 8 (y_ a x.c) i [(m:Int),(k:Int)]
  | r9 {a r b:Str} {m k:Nat} (h:At l m (E_ a r b)) (h':At l k (y_ b [33])):Cor p A l 9 (y_ a [33]) (-1) [(m:Int),(k:Int)]
  | r11 {a:Str} {x:Pc} {i m:Nat} (hx:p[i]? = some x) (hk:x.kind=8) (h:At l m (y_ a x.a)):Cor p A l 11 (M_ a x.r x.lo x.hi) i [(m:Int)]
  | r12 {a r:Str} {lo hi lo' hi':Int} {m k:Nat} (h:At l m (M_ a r lo hi)) (h':At l k (M_ a r lo' hi')) (hl:max lo lo'≤min hi hi'):Cor p A l 12 (M_ a r (max lo lo') (min hi hi')) (-1) [(m:Int),(k:Int)]
  | r13 {a r:Str} {lo hi lo' hi':Int} {m k:Nat} (h:At l m (M_ a r lo hi)) (h':At l k (M_ a r lo' hi')) (hl:min hi hi'<max lo lo'):Cor p A l 13 (y_ a [33]) (-1) [(m:Int),(k:Int)]
  | r14 {a:Str} {lo hi:Int} {x:Pc} {i m:Nat} (hx:p[i]? = some x) (hk:x.kind=9) (h:At l m (M_ a x.r lo hi)) (h1:x.lo≤lo) (h2:hi≤x.hi):Cor p A l 14 (y_ a x.c) i [(m:Int)]
  | r15 {f:Fc} {m:Nat} (h:At l m (y_ f.a [33])):Cor p A l 15 f (-1) [(m:Int)]
  | r16 {a r:Str} {lo hi lo' hi':Int} {m:Nat} (h:At l m (M_ a r lo hi)) (h1:lo'≤lo) (h2:hi≤hi'):Cor p A l 16 (M_ a r lo' hi') (-1) [(m:Int)]
theorem Cor.map {p p':List Pc} {A A':List Str} {l l':List Stp} {g:Int→Int} (hg:∀ (m:Nat) f,At l m f→∃ k:Nat,g (m:Int)=k∧At l' k f) (hA:∀ a∈A,a∈A') (hp:∀ (i:Nat) x,p[i]? = some x→p'[i]? = some x)
    {r:Int} {f:Fc} {i:Int} {fr:List Int} (h:Cor p A l r f i fr):Cor p' A' l' r f i (fr.map g):=by
  cases h with
  | r1 h=>exact .r1 (hA _ h)
  | r2 h=>exact .r2 (hA _ h)
  | r10 hx hk h=>exact .r10 (hp _ _ hx) hk (hA _ h)
  | r3 hx hk h=>obtain⟨k,e,h⟩:=hg _ _ h;rw[List.map_cons,e];exact .r3 (hp _ _ hx) hk h
  | r4 hx hk h h'=>obtain⟨k,e,h⟩:=hg _ _ h;obtain⟨k',e',h'⟩:=hg _ _ h';rw[List.map_cons,List.map_cons,e,e'];exact .r4 (hp _ _ hx) hk h h'
  | r5 hx hk h=>obtain⟨k,e,h⟩:=hg _ _ h;rw[List.map_cons,e];exact .r5 (hp _ _ hx) hk h
  | r6 hx hk h=>obtain⟨k,e,h⟩:=hg _ _ h;rw[List.map_cons,e];exact .r6 (hp _ _ hx) hk h
  | r7 hx hk h h'=>obtain⟨k,e,h⟩:=hg _ _ h;obtain⟨k',e',h'⟩:=hg _ _ h';rw[List.map_cons,List.map_cons,e,e'];exact .r7 (hp _ _ hx) hk h h'
  | r8 hx hk h h'=>obtain⟨k,e,h⟩:=hg _ _ h;obtain⟨k',e',h'⟩:=hg _ _ h';rw[List.map_cons,List.map_cons,e,e'];exact .r8 (hp _ _ hx) hk h h'
  | r9 h h'=>obtain⟨k,e,h⟩:=hg _ _ h;obtain⟨k',e',h'⟩:=hg _ _ h';rw[List.map_cons,List.map_cons,e,e'];exact .r9 h h'
  | r11 hx hk h=>obtain⟨k,e,h⟩:=hg _ _ h;rw[List.map_cons,e];exact .r11 (hp _ _ hx) hk h
  | r12 h h' hl=>obtain⟨k,e,h⟩:=hg _ _ h;obtain⟨k',e',h'⟩:=hg _ _ h';rw[List.map_cons,List.map_cons,e,e'];exact .r12 h h' hl
  | r13 h h' hl=>obtain⟨k,e,h⟩:=hg _ _ h;obtain⟨k',e',h'⟩:=hg _ _ h';rw[List.map_cons,List.map_cons,e,e'];exact .r13 h h' hl
  | r14 hx hk h h1 h2=>obtain⟨k,e,h⟩:=hg _ _ h;rw[List.map_cons,e];exact .r14 (hp _ _ hx) hk h h1 h2
  | r15 h=>obtain⟨k,e,h⟩:=hg _ _ h;rw[List.map_cons,e];exact .r15 h
  | r16 h h1 h2=>obtain⟨k,e,h⟩:=hg _ _ h;rw[List.map_cons,e];exact .r16 h h1 h2
theorem Cor.pre {p:List Pc} {A:List Str} {l l':List Stp} (hl:l <+: l') {r:Int} {f:Fc} {i:Int} {fr:List Int} (h:Cor p A l r f i fr):Cor p A l' r f i fr:=by
  have:=h.map (l':=l') (g:=id) (fun m f hm=>⟨m,rfl,hm.pre hl⟩) (fun _ h=>h) (fun _ _ h=>h)
  rwa [List.map_id]at this
theorem Cor.prem {p:List Pc} {A:List Str} {l:List Stp} {r:Int} {f:Fc} {i:Int} {fr:List Int} (h:Cor p A l r f i fr):∀ x∈fr,0≤x∧x<l.length:=by
  intro x hx
  have one:∀ {m:Nat} {g:Fc},At l m g→x=(m:Int)→0≤x∧x<l.length:=fun h e=>by have:=h.lt;omega
  have two:∀ {m k:Nat} {g g':Fc},At l m g→At l k g'→x∈[(m:Int),(k:Int)]→0≤x∧x<l.length:=by
    intro m k g g' h h' e
    simp only[List.mem_cons,List.not_mem_nil,or_false]at e
    exact e.elim (one h) (one h')
  cases h with
  | r1 h=>simp at hx
  | r2 h=>simp at hx
  | r10 hx' hk h=>simp at hx
  | r3 hx' hk h=>exact one h (by simpa using hx)
  | r4 hx' hk h h'=>exact two h h' hx
  | r5 hx' hk h=>exact one h (by simpa using hx)
  | r6 hx' hk h=>exact one h (by simpa using hx)
  | r7 hx' hk h h'=>exact two h h' hx
  | r8 hx' hk h h'=>exact two h h' hx
  | r9 h h'=>exact two h h' hx
  | r11 hx' hk h=>exact one h (by simpa using hx)
  | r12 h h' hl=>exact two h h' hx
  | r13 h h' hl=>exact two h h' hx
  | r14 hx' hk h h1 h2=>exact one h (by simpa using hx)
  | r15 h=>exact one h (by simpa using hx)
  | r16 h h1 h2=>exact one h (by simpa using hx)
theorem Cor.two {p:List Pc} {A:List Str} {l:List Stp} {r:Int} {f:Fc} {i:Int} {fr:List Int} (h:Cor p A l r f i fr):fr.length≤2:=by cases h<;>simp
theorem Cor.one {p:List Pc} {A:List Str} {l:List Stp} {r:Int} {f:Fc} {i:Int} {fr:List Int} (h:Cor p A l r f i fr) (hr:r≤14):fH_ p A (·∈fcs l) f:=by
  cases h with
  | r1 h=>exact .r1 h
  | r2 h=>exact .r2 h
  | r10 hx hk h=>exact .r10 (List.mem_of_getElem? hx) hk h
  | r3 hx hk h=>exact .r3 (List.mem_of_getElem? hx) hk h.mem
  | r4 hx hk h h'=>exact .r4 (List.mem_of_getElem? hx) hk h.mem h'.mem
  | r5 hx hk h=>exact .r5 (List.mem_of_getElem? hx) hk h.mem
  | r6 hx hk h=>exact .r6 (List.mem_of_getElem? hx) hk h.mem
  | r7 hx hk h h'=>exact .r7 (List.mem_of_getElem? hx) hk h.mem h'.mem
  | r8 hx hk h h'=>exact .r8 (List.mem_of_getElem? hx) hk h.mem h'.mem
  | r9 h h'=>exact .r9 h.mem h'.mem
  | r11 hx hk h=>exact .r11 (List.mem_of_getElem? hx) hk h.mem
  | r12 h h' hl=>exact .r12 h.mem h'.mem trivial hl
  | r13 h h' hl=>exact .r13 h.mem h'.mem trivial hl
  | r14 hx hk h h1 h2=>exact .r14 (List.mem_of_getElem? hx) hk h.mem h1 h2
  | r15 h=>omega
  | r16 h h1 h2=>omega
structure Eng (p:List Pc) (A:List Str) (l:List Stp):Prop where
  nd:(fcs l).Nodup
  cor:∀ (n:Nat) s,l[n]? = some s→Cor p A (l.take n) s.rule s.fact s.piece s.frm∧s.rule≤14
theorem Eng.nil (p:List Pc) (A:List Str):Eng p A []:=⟨by simp[fcs],fun n s h=>by simp at h⟩
theorem eD_ {l l':List Stp} {n:Nat} (h:l <+: l') (hn:n≤l.length):l'.take n=l.take n:=by
  obtain⟨t,rfl⟩:=h;rw[List.take_append_of_le_length hn]
theorem dF_ {l l':List Stp} {n:Nat} {s:Stp} (h:l <+: l') (hs:l[n]? = some s):l'[n]? = some s:=by
  obtain⟨t,rfl⟩:=h;rw[List.getElem?_append_left (List.getElem?_eq_some_iff.1 hs).1];exact hs
theorem ag_ {l l':List Stp} (h:l <+: l') {f:Fc} (hf:f∈fcs l):f∈fcs l':=by
  obtain⟨t,rfl⟩:=h;rw[cv_];exact List.mem_append_left _ hf
def hD_ (l:List Stp) (s:Stp):List Stp:=if s.fact∈fcs l then l else l++[s]
theorem rl_ (l:List Stp) (s:Stp):l <+: hD_ l s:=by
 unfold hD_;split
 ·exact List.prefix_refl _
 exact List.prefix_append _ _
theorem rm_ (l:List Stp) (s:Stp):s.fact∈fcs (hD_ l s):=by
 unfold hD_;split
 ·assumption
 rw[cv_];simp[fcs]
theorem Eng.add {p:List Pc} {A:List Str} {l:List Stp} (h:Eng p A l) {s:Stp} (hs:Cor p A l s.rule s.fact s.piece s.frm) (hr:s.rule≤14):Eng p A (hD_ l s):=by
 unfold hD_;split
 ·exact h
 rename_i hn
 refine⟨?_,fun n t ht=>?_⟩
 ·rw[cv_,List.nodup_append]
  exact⟨h.nd,by simp[fcs],fun a ha b hb e=>by simp[fcs]at hb;subst hb;subst e;exact hn ha⟩
 by_cases hl:n<l.length
 ·rw[List.getElem?_append_left hl]at ht
  rw[List.take_append_of_le_length (by omega)]
  exact h.cor n t ht
 have e:n=l.length:=by have:=(List.getElem?_eq_some_iff.1 ht).1;simp at this;omega
 subst e
 rw[List.getElem?_append_right (by omega)]at ht
 simp at ht
 subst ht
 rw[List.take_left]
 exact⟨hs,hr⟩
theorem Eng.der {p:List Pc} {A:List Str} {l:List Stp} (h:Eng p A l):∀ f∈fcs l,Der p A f:=by
 have key:∀ k,∀ f∈fcs (l.take k),Der p A f:=by
   intro k
   induction k with
   | zero=>intro f hf;simp[fcs]at hf
   | succ k ih =>
     intro f hf
     rw[List.take_add_one,cv_,List.mem_append]at hf
     rcases hf with hf|hf
     · exact ih f hf
     · cases hk:l[k]? with
       | none=>rw[hk]at hf;simp[fcs]at hf
       | some s =>
         rw[hk]at hf
         simp[fcs]at hf
         subst hf
         obtain⟨c,hr⟩:=h.cor k s hk
         exact Der.step ((c.one hr).mono (fun x hx=>⟨x,hx,x.frm,rfl⟩) (fun _ h=>h) (fun z hz=>ih z hz) (fun _ _ h=>h))
 intro f hf
 exact key l.length f (by rw[List.take_length];exact hf)
theorem Eng.len {p:List Pc} {A:List Str} {l:List Stp} {L:List Fc} (h:Eng p A l) (hL:∀ y,Der p A y→y∈L):l.length≤L.length:=by
  rw[← ia_];exact fp_ h.nd fun x hx=>hL x (h.der x hx)
theorem Eng.at {p:List Pc} {A:List Str} {l:List Stp} (h:Eng p A l) {m k:Nat} {f:Fc} (hm:At l m f) (hk:At l k f):m=k:=by
  obtain⟨s,hs,e⟩:=hm;obtain⟨t,ht,e'⟩:=hk
  have h1:(fcs l)[m]? = some f:=by unfold fcs;rw[List.getElem?_map,hs,Option.map_some,e]
  have h2:(fcs l)[k]? = some f:=by unfold fcs;rw[List.getElem?_map,ht,Option.map_some,e']
  exact (List.getElem?_inj (List.getElem?_eq_some_iff.1 h1).choose h.nd).1 (h1.trans h2.symm)
def kys (x:Pc):List Ky:=(bQ_ x++if x.kind=7 then [(Ky.mk 7 [] [],x)] else []).map (·.1)
structure Fnd (p:List Pc) (fm:List (Ky×Int)):Prop where
  snd:∀ k m,(k,m)∈fm→∃ (i:Nat) (x:Pc),m=i∧p[i]? = some x∧k∈kys x
  all:∀ z∈p,∃ (i:Nat) (x:Pc),p[i]? = some x∧x.zf=z.zf∧∀ k∈kys z,(k,(i:Int))∈fm
  len:fm.length≤2*p.length
theorem dT_ {x z:Pc} (h:x.zf=z.zf):x.kind=z.kind∧x.a=z.a∧x.b=z.b∧x.c=z.c∧x.r=z.r∧x.s=z.s∧x.t=z.t∧x.lo=z.lo∧x.hi=z.hi:=by
  unfold Pc.zf at h;injection h with h1 h2 h3 h4 h5 h6 h7 h8 h9 _;exact⟨h1,h2,h3,h4,h5,h6,h7,h8,h9⟩
def Und (p:List Pc) (fm:List (Ky×Int)) (k:Ky) (Q:Pc→Prop):Prop:=∀ m∈lat fm k,∀ x,p[m.toNat]? = some x→Q x
theorem Und.all {p:List Pc} {fm:List (Ky×Int)} (h:Fnd p fm) {k:Ky} {Q:Pc→Prop} (hu:Und p fm k Q) {z:Pc} (hz:z∈p) (hk:k∈kys z):∃ x,x.zf=z.zf∧Q x:=by
  obtain⟨i,x,h1,h2,h3⟩:=h.all z hz
  exact⟨x,h2,hu i (aY_.2 (h3 k hk)) x (by simpa using h1)⟩
theorem Fnd.get {p:List Pc} {fm:List (Ky×Int)} (h:Fnd p fm) {k:Ky} {m:Int} (hm:m∈lat fm k):∃ x,p[m.toNat]? = some x∧0≤m∧m.toNat<p.length∧k∈kys x:=by
  obtain⟨i,x,rfl,h1,h2⟩:=h.snd k m (aY_.1 hm)
  exact⟨x,by simpa using h1,by omega,by have:=(List.getElem?_eq_some_iff.1 h1).1;simpa using this,h2⟩
structure Jx where
  above:List (Str×Int)
  under:List (Str×Int)
  frm:List (eA_×Int)
  into:List (eA_×Int)
  ranges:List (eA_×Int)
  firms:List (eA_×Int)
def Jx.nil:Jx:=⟨[],[],[],[],[],[]⟩
def Jx.add (x:Jx) (s:Stp) (n:Int):Jx :=
  if s.fact.kind=1 then { x with above:=x.above++[(s.fact.a,n)] }
  else if s.fact.kind=2 then { x with under:=x.under++[(s.fact.b,n)],frm:=x.frm++[((s.fact.a,s.fact.r),n)],into:=x.into++[((s.fact.b,s.fact.r),n)] }
  else if s.fact.kind=3 then { x with ranges:=x.ranges++[((s.fact.a,s.fact.r),n)],firms:=if s.rule=11 then x.firms++[((s.fact.a,s.fact.r),n)] else x.firms }
  else x
def Lgs {K:Type} (x:List (K×Int)) (l:List Stp) (key:Stp→K) (Q:Stp→Prop):Prop:=∀ k m,(k,m)∈x↔∃ (i:Nat) (s:Stp),m=i∧l[i]? = some s∧Q s∧key s=k
structure Jx.of (x:Jx) (l:List Stp):Prop where
  above:Lgs x.above l (fun s=>s.fact.a) (fun s=>s.fact.kind=1)
  under:Lgs x.under l (fun s=>s.fact.b) (fun s=>s.fact.kind=2)
  frm:Lgs x.frm l (fun s=>(s.fact.a,s.fact.r)) (fun s=>s.fact.kind=2)
  into:Lgs x.into l (fun s=>(s.fact.b,s.fact.r)) (fun s=>s.fact.kind=2)
  ranges:Lgs x.ranges l (fun s=>(s.fact.a,s.fact.r)) (fun s=>s.fact.kind=3)
  firms:Lgs x.firms l (fun s=>(s.fact.a,s.fact.r)) (fun s=>s.fact.kind=3∧s.rule=11)
structure Jx.len (x:Jx) (n:Nat):Prop where
  above:x.above.length≤n
  under:x.under.length≤n
  frm:x.frm.length≤n
  into:x.into.length≤n
  ranges:x.ranges.length≤n
  firms:x.firms.length≤n
theorem Lgs.nil {K:Type} (key:Stp→K) (Q:Stp→Prop):Lgs [] [] key Q:=fun k m=>by simp
theorem Lgs.snoc {K:Type} {x:List (K×Int)} {l:List Stp} {key:Stp→K} {Q:Stp→Prop} (h:Lgs x l key Q) {s:Stp} (hs:Q s):Lgs (x++[(key s,(l.length:Int))]) (l++[s]) key Q:=fun k m=>by
 rw[List.mem_append,h k m,List.mem_singleton,Prod.mk.injEq]
 constructor
 ·rintro (⟨i,t,rfl,h1,h2,h3⟩|⟨rfl,rfl⟩)
  ·exact⟨i,t,rfl,by rw[List.getElem?_append_left (List.getElem?_eq_some_iff.1 h1).1];exact h1,h2,h3⟩
  exact⟨l.length,s,rfl,by simp,hs,rfl⟩
 rintro ⟨i,t,rfl,h1,h2,h3⟩
 by_cases hi:i<l.length
 ·rw[List.getElem?_append_left hi]at h1;exact .inl ⟨i,t,rfl,h1,h2,h3⟩
 have e:i=l.length:=by have:=(List.getElem?_eq_some_iff.1 h1).1;simp at this;omega
 subst e;simp at h1;subst h1;exact .inr ⟨h3.symm,rfl⟩
theorem Lgs.skip {K:Type} {x:List (K×Int)} {l:List Stp} {key:Stp→K} {Q:Stp→Prop} (h:Lgs x l key Q) {s:Stp} (hs:¬ Q s):Lgs x (l++[s]) key Q:=fun k m=>by
 rw[h k m]
 constructor
 ·rintro ⟨i,t,rfl,h1,h2,h3⟩
  exact⟨i,t,rfl,by rw[List.getElem?_append_left (List.getElem?_eq_some_iff.1 h1).1];exact h1,h2,h3⟩
 rintro ⟨i,t,rfl,h1,h2,h3⟩
 by_cases hi:i<l.length
 ·rw[List.getElem?_append_left hi]at h1;exact⟨i,t,rfl,h1,h2,h3⟩
 have e:i=l.length:=by have:=(List.getElem?_eq_some_iff.1 h1).1;simp at this;omega
 subst e;simp at h1;subst h1;exact absurd h2 hs
theorem Jx.of_nil:Jx.nil.of []:=⟨Lgs.nil _ _,Lgs.nil _ _,Lgs.nil _ _,Lgs.nil _ _,Lgs.nil _ _,Lgs.nil _ _⟩
theorem Jx.of_add {x:Jx} {l:List Stp} (h:x.of l) (s:Stp):(x.add s l.length).of (l++[s]):=by
 unfold Jx.add
 split
 ·rename_i hk
  exact⟨h.above.snoc hk,h.under.skip (by omega),h.frm.skip (by omega),h.into.skip (by omega),h.ranges.skip (by omega),h.firms.skip (by omega)⟩
 split
 ·rename_i hk
  exact⟨h.above.skip (by omega),h.under.snoc hk,h.frm.snoc (key:=fun s=>(s.fact.a,s.fact.r)) hk,h.into.snoc (key:=fun s=>(s.fact.b,s.fact.r)) hk,h.ranges.skip (by omega),h.firms.skip (by omega)⟩
 split
 ·rename_i hk
  refine⟨h.above.skip (by omega),h.under.skip (by omega),h.frm.skip (by omega),h.into.skip (by omega),h.ranges.snoc (key:=fun s=>(s.fact.a,s.fact.r)) hk,?_⟩
  by_cases hr:s.rule=11
  ·simp only[if_pos hr];exact h.firms.snoc (key:=fun s=>(s.fact.a,s.fact.r)) ⟨hk,hr⟩
  simp only[if_neg hr];exact h.firms.skip (fun q=>hr q.2)
 exact⟨h.above.skip (by omega),h.under.skip (by omega),h.frm.skip (by omega),h.into.skip (by omega),h.ranges.skip (by omega),h.firms.skip (by omega)⟩
theorem Jx.len_add {x:Jx} {n:Nat} (h:x.len n) (s:Stp) (k:Int):(x.add s k).len (n+1):=by
 obtain⟨h1,h2,h3,h4,h5,h6⟩:=h
 unfold Jx.add
 split
 ·constructor<;>simp<;>omega
 split
 ·constructor<;>simp<;>omega
 split
 ·constructor<;>(try simp)<;>(try split)<;>(try simp)<;>omega
 constructor<;>omega
theorem Lgs.get {K:Type} [DecidableEq K] {x:List (K×Int)} {l:List Stp} {key:Stp→K} {Q:Stp→Prop} (h:Lgs x l key Q) {k:K} {m:Int} (hm:m∈lat x k):∃ s,l[m.toNat]? = some s∧0≤m∧m.toNat<l.length∧Q s∧key s=k:=by
  obtain⟨i,s,rfl,h1,h2,h3⟩:=(h k m).1 (aY_.1 hm)
  exact⟨s,by simpa using h1,by omega,by have:=(List.getElem?_eq_some_iff.1 h1).1;simpa using this,h2,h3⟩
theorem Lgs.has {K:Type} [DecidableEq K] {x:List (K×Int)} {l:List Stp} {key:Stp→K} {Q:Stp→Prop} (h:Lgs x l key Q) {i:Nat} {s:Stp} (hs:l[i]? = some s) (hq:Q s):(i:Int)∈lat x (key s) :=
  aY_.2 ((h _ _).2 ⟨i,s,rfl,hs,hq,rfl⟩)
end Go.Vs
namespace Go.Vs
open Go Go.Sx
theorem fD_ {k:Ky} {x:Pc} (hk:k.kind≠7):k∈kys x↔x∈lat (aC_ [x]) k:=by
 rw[fm_]
 unfold kys
 rw[List.map_append,List.mem_append]
 constructor
 ·rintro (h|h)
  ·obtain⟨⟨a,b⟩,h1,rfl⟩:=List.mem_map.1 h
   obtain⟨rfl,_⟩:=dc_ h1
   exact⟨by simp,h1⟩
  split at h
  ·simp at h;rw[h]at hk;exact absurd rfl hk
  simp at h
 rintro ⟨_,h⟩
 exact .inl (List.mem_map.2 ⟨_,h,rfl⟩)
theorem ky1 {b:Str} {x:Pc}:Ky.mk 1 [] b∈kys x↔x.kind=1∧x.a=b:=by rw[fD_ (by simp),pm1];simp
theorem ky2 {b:Str} {x:Pc}:Ky.mk 2 [] b∈kys x↔x.kind=2∧(x.a=b∨x.b=b):=by rw[fD_ (by simp),pm2];simp
theorem ky3 {b:Str} {x:Pc}:Ky.mk 3 [] b∈kys x↔x.kind=3∧x.a=b:=by rw[fD_ (by simp),pm3];simp
theorem ky8 {b:Str} {x:Pc}:Ky.mk 8 [] b∈kys x↔x.kind=8∧x.a=b:=by rw[fD_ (by simp),pm8];simp
theorem ky5 {r:Str} {x:Pc}:Ky.mk 5 r []∈kys x↔x.kind=5∧x.r=r:=by rw[fD_ (by simp),pm5];simp
theorem ky9 {r:Str} {x:Pc}:Ky.mk 9 r []∈kys x↔x.kind=9∧x.r=r:=by rw[fD_ (by simp),pm9];simp
theorem ky6 {r:Str} (hn:r≠[]) {x:Pc}:Ky.mk 6 r []∈kys x↔x.kind=6∧x.r=r:=by rw[fD_ (by simp),pm6 hn];simp
theorem ky6' {s:Str} (hn:s≠[]) {x:Pc}:Ky.mk 6 [] s∈kys x↔x.kind=6∧x.s=s:=by rw[fD_ (by simp),pm6' hn];simp
theorem ky4 {b:Str} {x:Pc} (hr:x.rok):Ky.mk 4 [] b∈kys x↔x.kind=4∧x.a=b:=by rw[fD_ (by simp),pm4 (by simpa using hr)];simp
theorem ky4' {r b:Str} (hn:r≠[]) {x:Pc}:Ky.mk 4 r b∈kys x↔x.kind=4∧x.r=r∧x.a=b:=by rw[fD_ (by simp),pm4' hn];simp
theorem ky7 {x:Pc}:Ky.mk 7 [] []∈kys x↔x.kind=7:=by
 unfold kys
 rw[List.map_append,List.mem_append]
 constructor
 ·rintro (h|h)
  ·obtain⟨⟨a,b⟩,h1,h2⟩:=List.mem_map.1 h
   have:=(dc_ h1).2
   simp only at h2
   rw[h2]at this;exact this.symm
  split at h
  ·assumption
  simp at h
 intro h;right;rw[if_pos h];simp
structure RawC (p:List Pc) (fm:List (Ky×Int)) (f:Fc) (l l':List Stp):Prop where
  c1:Und p fm ⟨1,[],f.b⟩ (fun x=>y_ f.a x.c∈fcs l')
  c2:Und p fm ⟨2,[],f.b⟩ (fun x=>y_ f.a x.a∈fcs l→y_ f.a x.b∈fcs l→y_ f.a x.c∈fcs l')
  c3:Und p fm ⟨3,[],f.b⟩ (fun x=>E_ f.a x.r x.c∈fcs l')
  c8:Und p fm ⟨8,[],f.b⟩ (fun x=>M_ f.a x.r x.lo x.hi∈fcs l')
def gS_ (l:List Stp) (ms:List Int) (Q:Stp→Prop):Prop:=∀ m∈ms,∀ s,l[m.toNat]? = some s→Q s
structure RawA (p:List Pc) (fm:List (Ky×Int)) (x:Jx) (f:Fc) (l l':List Stp):Prop where
  a4:Und p fm ⟨4,[],f.b⟩ (fun y=>gS_ l (lat x.into (f.a,y.r)) fun s=>y_ s.fact.a y.c∈fcs l')
  a9:f.b=[33]→gS_ l (lat x.under f.a) fun s=>y_ s.fact.a [33]∈fcs l'
structure RawI (p:List Pc) (fm:List (Ky×Int)) (x:Jx) (f:Fc) (l l':List Stp):Prop where
  i5:Und p fm ⟨5,f.r,[]⟩ (fun y=>E_ f.a y.t f.b∈fcs l')
  i6:Und p fm ⟨6,f.r,[]⟩ (fun y=>gS_ l (lat x.frm (f.b,y.s)) fun s=>E_ f.a y.t s.fact.b∈fcs l')
  i6':Und p fm ⟨6,[],f.r⟩ (fun y=>gS_ l (lat x.into (f.a,y.r)) fun s=>E_ s.fact.a y.t f.b∈fcs l')
structure RawL (p:List Pc) (fm:List (Ky×Int)) (x:Jx) (f:Fc) (l l':List Stp):Prop where
  l4:gS_ l (lat x.above f.b) fun s=>Und p fm ⟨4,f.r,s.fact.b⟩ fun y=>y_ f.a y.c∈fcs l'
  l9:y_ f.b [33]∈fcs l→y_ f.a [33]∈fcs l'
def pm_ (x:Jx) (firm:Prop) [Decidable firm] (f:Fc) (l l':List Stp):Prop :=
  gS_ l (if firm then lat x.ranges (f.a,f.r) else lat x.firms (f.a,f.r)) fun s=>(min f.hi s.fact.hi<max f.lo s.fact.lo→y_ f.a [33]∈fcs l')∧(max f.lo s.fact.lo≤min f.hi s.fact.hi→cM_ f s.fact∈fcs l')
def RawO (p:List Pc) (fm:List (Ky×Int)) (f:Fc) (l':List Stp):Prop:=Und p fm ⟨9,f.r,[]⟩ fun x=>x.lo≤f.lo→f.hi≤x.hi→y_ f.a x.c∈fcs l'
def gc_ (l:List Stp) (y:Fc):Prop:=∃ s∈l,s.fact=y∧s.rule=11
structure LoopP (p:List Pc) (A:List Str) (n:Nat) (l:List Stp) (x:Jx):Prop where
  eng:Eng p A l
  le:n≤l.length
  ix:x.of (l.take n)
  ixl:x.len n
  st:∀ a∈A,y_ a a∈fcs l∧y_ a [42]∈fcs l∧∀ z∈p,z.kind=7→E_ a z.r a∈fcs l
  cl:∀ y,One p A (·∈fcs (l.take n)) (fun y z=>gc_ l y∨gc_ l z) y→y∈fcs l
section
variable {p:List Pc} {A:List Str} {fm:List (Ky×Int)} {n:Nat} {l l' l1:List Stp} {x:Jx} {s:Stp} {f:Fc}
theorem LoopP.start (h:Eng p A l) (hs:∀ a∈A,y_ a a∈fcs l∧y_ a [42]∈fcs l∧∀ z∈p,z.kind=7→E_ a z.r a∈fcs l):LoopP p A 0 l Jx.nil:=by
  refine⟨h,Nat.zero_le _,by rw[List.take_zero];exact Jx.of_nil,⟨by simp[Jx.nil],by simp[Jx.nil],by simp[Jx.nil],by simp[Jx.nil],by simp[Jx.nil],by simp[Jx.nil]⟩,hs,fun y hy=>?_⟩
  rw[List.take_zero]at hy
  have no:∀ {q:Prop} {f:Fc},f∈fcs []→q:=fun h=>by simp[fcs]at h
  cases hy with
  | r1 h=>exact (hs _ h).1
  | r2 h=>exact (hs _ h).2.1
  | r10 hx hk h=>exact (hs _ h).2.2 _ hx hk
  | r3 _ _ h=>exact no h
  | r4 _ _ h _=>exact no h
  | r5 _ _ h=>exact no h
  | r6 _ _ h=>exact no h
  | r7 _ _ h _=>exact no h
  | r8 _ _ h _=>exact no h
  | r9 h _=>exact no h
  | r11 _ _ h=>exact no h
  | r12 h _ _ _=>exact no h
  | r13 h _ _ _=>exact no h
  | r14 _ _ h _ _=>exact no h
theorem gZ_ {K:Type} [DecidableEq K] {lg:List (K×Int)} {key:Stp→K} {Q:Stp→Prop} {G:Stp→Prop} (hL:Lgs lg (l.take n) key Q) {y:Fc} (hy:y∈fcs (l.take n)) (hq:∀ t:Stp,t.fact=y→Q t) {k:K} (hk:∀ t:Stp,t.fact=y→key t=k) (hS:gS_ l (lat lg k) G):∃ t:Stp,t.fact=y∧t∈l.take n∧G t:=by
  obtain⟨i,u,hu,e⟩:=ga_ hy
  have h1:=hL.has hu (hq u e)
  rw[hk u e]at h1
  refine⟨u,e,List.mem_of_getElem? hu,hS _ h1 u ?_⟩
  have hi:=(List.getElem?_eq_some_iff.1 hu).1
  simp at hi
  rw[List.getElem?_take_of_lt (by omega)]at hu
  simpa using hu
theorem pv_ {y:Fc} (h:y∈fcs (l.take n)):y∈fcs l:=by
  obtain⟨s,h1,rfl⟩:=List.mem_map.1 h
  exact List.mem_map_of_mem (List.mem_of_mem_take h1)
theorem jr_ {ms:List Int} {G:Stp→Prop} (hp:l <+: l1) (h:gS_ l1 ms G):gS_ l ms G:=fun m hm s hs=>h m hm s (dF_ hp hs)
theorem sM_ (hv:∀ z∈p,z.vok) (hf:Fnd p fm) (hx:x.of (l.take n)) (hk:f.kind=1) (hp1:l <+: l1) (hp2:l1 <+: l') (hfl:f∈fcs l) (h1:RawC p fm f l l1) (h2:RawA p fm x f l1 l') (Fm:Fc→Prop) :
    Cmpl p (·∈fcs (l.take n)) Fm (·∈fcs l) (·∈fcs l') f:=by
  have n2:∀ {q:Prop} {a r b},f=E_ a r b→q:=fun e=>by rw[e]at hk;exact absurd hk (by simp[E_])
  have n3:∀ {q:Prop} {a r b c},f=M_ a r b c→q:=fun e=>by rw[e]at hk;exact absurd hk (by simp[M_])
  have n3':∀ {q:Prop},f.kind=3→q:=fun e=>by rw[e]at hk;exact absurd hk (by simp)
  refine⟨?_,?_,?_,?_,fun _ _ _ _ _ e=>n2 e,fun _ _ _ _ _ _ e=>n2 e,fun _ _ _ _ _ _ e=>n2 e,fun _ _ _ _ _ e=>n2 e,?_,fun _ _ _ e=>n2 e,?_,?_,fun _ e=>n3' e,fun _ e=>n3' e,fun _ _ _ _ _ _ e=>n3 e⟩
  · rintro z a hz hk' rfl
    obtain⟨y,e,hq⟩:=h1.c1.all hf hz (ky1.2 ⟨hk',rfl⟩)
    rw[← (dT_ e).2.2.2.1];exact ag_ hp2 hq
  · rintro z a hz hk' rfl hb
    obtain⟨y,e,hq⟩:=h1.c2.all hf hz (ky2.2 ⟨hk',.inl rfl⟩)
    obtain⟨_,ea,eb,ec,_⟩:=dT_ e
    rw[ea,eb,ec]at hq
    exact ag_ hp2 (hq hfl hb)
  · rintro z a hz hk' rfl hb
    obtain⟨y,e,hq⟩:=h1.c2.all hf hz (ky2.2 ⟨hk',.inr rfl⟩)
    obtain⟨_,ea,eb,ec,_⟩:=dT_ e
    rw[ea,eb,ec]at hq
    exact ag_ hp2 (hq hb hfl)
  · rintro z a hz hk' rfl
    obtain⟨y,e,hq⟩:=h1.c3.all hf hz (ky3.2 ⟨hk',rfl⟩)
    obtain⟨_,ea,eb,ec,er,_⟩:=dT_ e
    rw[ec,er]at hq;exact ag_ hp2 hq
  · rintro z a b hz hk' rfl hS
    obtain⟨y,e,hq⟩:=h2.a4.all hf hz ((ky4 (hv z hz).rok).2 ⟨hk',rfl⟩)
    obtain⟨_,ea,eb,ec,er,_⟩:=dT_ e
    obtain⟨t,ht,_,hg⟩:=gZ_ (k:=(b,y.r)) hx.into hS (fun t h=>by rw[h];rfl) (fun t h=>by rw[h,er];rfl) (jr_ hp1 hq)
    rw[ht,ec]at hg;exact hg
  · rintro a r b rfl hS
    obtain⟨t,ht,_,hg⟩:=gZ_ (k:=b) hx.under hS (fun t h=>by rw[h];rfl) (fun t h=>by rw[h];rfl) (jr_ hp1 (h2.a9 rfl))
    rw[ht]at hg;exact hg
  · rintro z a hz hk' rfl
    obtain⟨y,e,hq⟩:=h1.c8.all hf hz (ky8.2 ⟨hk',rfl⟩)
    obtain⟨_,ea,eb,ec,er,_,_,el,eh⟩:=dT_ e
    rw[er,el,eh]at hq;exact ag_ hp2 hq
theorem oe_ (hv:∀ z∈p,z.vok) (hf:Fnd p fm) (hx:x.of (l.take n)) (hk:f.kind=2) (hp1:l <+: l1) (hp2:l1 <+: l') (h1:RawI p fm x f l l1) (h2:RawL p fm x f l1 l') (Fm:Fc→Prop) :
    Cmpl p (·∈fcs (l.take n)) Fm (·∈fcs l) (·∈fcs l') f:=by
  have n1:∀ {q:Prop} {a b},f=y_ a b→q:=fun e=>by rw[e]at hk;exact absurd hk (by simp[y_])
  have n3:∀ {q:Prop} {a r b c},f=M_ a r b c→q:=fun e=>by rw[e]at hk;exact absurd hk (by simp[M_])
  have n3':∀ {q:Prop},f.kind=3→q:=fun e=>by rw[e]at hk;exact absurd hk (by simp)
  refine⟨fun _ _ _ _ e=>n1 e,fun _ _ _ _ e=>n1 e,fun _ _ _ _ e=>n1 e,fun _ _ _ _ e=>n1 e,?_,?_,?_,?_,fun _ _ _ _ _ e=>n1 e,?_,fun _ _ _ e=>n1 e,fun _ _ _ _ e=>n1 e,fun _ e=>n3' e,fun _ e=>n3' e,fun _ _ _ _ _ _ e=>n3 e⟩
  · rintro z a b hz hk' rfl
    obtain⟨y,e,hq⟩:=h1.i5.all hf hz (ky5.2 ⟨hk',rfl⟩)
    obtain⟨_,ea,eb,ec,er,es,et,_⟩:=dT_ e
    rw[et]at hq;exact ag_ hp2 hq
  · rintro z a b c hz hk' rfl hS
    obtain⟨y,e,hq⟩:=h1.i6.all hf hz ((ky6 ((hv z hz).rok.1 (.inr (.inr (.inl hk'))))).2 ⟨hk',rfl⟩)
    obtain⟨_,ea,eb,ec,er,es,et,_⟩:=dT_ e
    obtain⟨t,ht,_,hg⟩:=gZ_ (k:=(b,y.s)) hx.frm hS (fun t h=>by rw[h];rfl) (fun t h=>by rw[h,es];rfl) hq
    rw[ht,et]at hg;exact ag_ hp2 hg
  · rintro z a b c hz hk' rfl hS
    obtain⟨y,e,hq⟩:=h1.i6'.all hf hz ((ky6' ((hv z hz).rok.2.1 hk').1).2 ⟨hk',rfl⟩)
    obtain⟨_,ea,eb,ec,er,es,et,_⟩:=dT_ e
    obtain⟨t,ht,_,hg⟩:=gZ_ (k:=(b,y.r)) hx.into hS (fun t h=>by rw[h];rfl) (fun t h=>by rw[h,er];rfl) hq
    rw[ht,et]at hg;exact ag_ hp2 hg
  · rintro z a b hz hk' rfl hS
    obtain⟨t,ht,_,hg⟩:=gZ_ (k:=b) hx.above hS (fun t h=>by rw[h];rfl) (fun t h=>by rw[h];rfl) (jr_ hp1 h2.l4)
    rw[ht]at hg
    obtain⟨y,e,hq⟩:=hg.all hf hz ((ky4' ((hv z hz).rok.1 (.inl hk'))).2 ⟨hk',rfl,rfl⟩)
    obtain⟨_,ea,eb,ec,er,es,et,_⟩:=dT_ e
    rw[ec]at hq;exact hq
  · rintro a r b rfl hb
    exact h2.l9 (ag_ hp1 hb)
theorem cmplM {firm:Prop} [Decidable firm] (hv:∀ z∈p,z.vok) (hf:Fnd p fm) (hx:x.of (l.take n)) (hk:f.kind=3) (hp1:l <+: l1) (hp2:l1 <+: l') (h1:pm_ x firm f l l1) (h2:RawO p fm f l') (hff:gc_ l f→firm) (hfi:∀ (m:Nat) (t:Stp),(l.take n)[m]? = some t→gc_ l t.fact→t.rule=11) :
    Cmpl p (·∈fcs (l.take n)) (gc_ l) (·∈fcs l) (·∈fcs l') f:=by
  have n1:∀ {q:Prop} {a b},f=y_ a b→q:=fun e=>by rw[e]at hk;exact absurd hk (by simp[y_])
  have n2:∀ {q:Prop} {a r b},f=E_ a r b→q:=fun e=>by rw[e]at hk;exact absurd hk (by simp[E_])
  have key:∀ y,y∈fcs (l.take n)→y.kind=3→y.a=f.a→y.r=f.r→(gc_ l f∨gc_ l y)→(min f.hi y.hi<max f.lo y.lo→y_ f.a [33]∈fcs l1)∧(max f.lo y.lo≤min f.hi y.hi→cM_ f y∈fcs l1):=by
    intro y hy hk3 ha hr hm
    by_cases hfm:firm
    · have h1':=h1
      unfold pm_ at h1'
      rw[if_pos hfm]at h1'
      obtain⟨t,ht,_,hg⟩:=gZ_ (k:=(f.a,f.r)) hx.ranges hy (fun t h=>by rw[h];exact hk3) (fun t h=>by rw[h,ha,hr]) h1'
      rw[ht]at hg;exact hg
    · have h1':=h1
      unfold pm_ at h1'
      rw[if_neg hfm]at h1'
      have hfy:gc_ l y:=hm.resolve_left fun q=>hfm (hff q)
      obtain⟨i,u,hu,e⟩:=ga_ hy
      have hr11:=hfi i u hu (by rw[e];exact hfy)
      have h2':=hx.firms.has hu ⟨by rw[e];exact hk3,hr11⟩
      rw[e,ha,hr]at h2'
      have hi:=(List.getElem?_eq_some_iff.1 hu).1
      simp at hi
      rw[List.getElem?_take_of_lt (by omega)]at hu
      have:=h1' _ h2' u (by simpa using hu)
      dsimp only at this;rw[e]at this;exact this
  refine⟨fun _ _ _ _ e=>n1 e,fun _ _ _ _ e=>n1 e,fun _ _ _ _ e=>n1 e,fun _ _ _ _ e=>n1 e,fun _ _ _ _ _ e=>n2 e,fun _ _ _ _ _ _ e=>n2 e,fun _ _ _ _ _ _ e=>n2 e,fun _ _ _ _ _ e=>n2 e,fun _ _ _ _ _ e=>n1 e,fun _ _ _ e=>n2 e,fun _ _ _ e=>n1 e,fun _ _ _ _ e=>n1 e,?_,?_,?_⟩
  · intro y _ hy hk3 ha hr hm hl;exact ag_ hp2 ((key y hy hk3 ha hr hm).2 hl)
  · intro y _ hy hk3 ha hr hm hl;exact ag_ hp2 ((key y hy hk3 ha hr hm).1 hl)
  · rintro z a lo hi hz hk' rfl g1 g2
    obtain⟨y,e,hq⟩:=h2.all hf hz (ky9.2 ⟨hk',rfl⟩)
    obtain⟨_,ea,eb,ec,er,es,et,el,eh⟩:=dT_ e
    rw[ec,el,eh]at hq;exact hq g1 g2
theorem nX_ (he:Eng p A l') (hp:l <+: l') {y:Fc} (hy:y∈fcs l):gc_ l' y↔gc_ l y:=by
 constructor
 ·rintro ⟨t,ht,rfl,hr⟩
  obtain⟨i,u,hu,e⟩:=ga_ hy
  obtain⟨j,hj⟩:=List.getElem?_of_mem ht
  have hij:=he.at ⟨u,dF_ hp hu,e⟩ ⟨t,hj,rfl⟩
  subst hij
  rw[dF_ hp hu]at hj
  cases hj
  exact⟨t,List.mem_of_getElem? hu,rfl,hr⟩
 rintro ⟨t,ht,e,hr⟩
 obtain⟨u,rfl⟩:=hp
 exact⟨t,List.mem_append_left _ ht,e,hr⟩
theorem LoopP.next (h:LoopP p A n l x) (hs:l[n]? = some s) (he:Eng p A l') (hp:l <+: l') (hc:Cmpl p (·∈fcs (l.take (n+1))) (gc_ l) (·∈fcs l) (·∈fcs l') s.fact):LoopP p A (n+1) l' (x.add s n):=by
 have hn:=(List.getElem?_eq_some_iff.1 hs).1
 have e1:l.take (n+1)=l.take n++[s]:=by rw[List.take_add_one,hs];rfl
 have e2:l'.take (n+1)=l.take (n+1):=eD_ hp hn
 have e3:(l.take n).length=n:=by rw[List.length_take];omega
 have hS:∀ y,y∈fcs (l.take (n+1))↔y∈fcs (l.take n)∨y=s.fact:=fun y=>by rw[e1,cv_,List.mem_append];simp[fcs]
 refine⟨he,by obtain⟨t,rfl⟩:=hp;simp;omega,?_,Jx.len_add h.ixl s n,fun a ha=>?_,fun y hy=>?_⟩
 ·rw[e2,e1]
  have:=Jx.of_add h.ix s
  rwa [e3]at this
 ·obtain⟨g1,g2,g3⟩:=h.st a ha
  exact⟨ag_ hp g1,ag_ hp g2,fun z hz hk=>ag_ hp (g3 z hz hk)⟩
 rw[e2]at hy
 have e4:(fun y=>y∈fcs (l.take (n+1)))=fun y=>y∈fcs (l.take n)∨y=s.fact:=funext fun y=>propext (hS y)
 rw[e4]at hc hy
 have hin:∀ y,y∈fcs (l.take n)∨y=s.fact→y∈fcs l:=fun y hy=>pv_ ((hS y).2 hy)
 refine of_ hc hin (fun z hz=>ag_ hp (h.cl z hz)) y (hy.congrM fun u v hu hv hm=>hm.imp ?_ ?_)
 ·exact (nX_ he hp (hin u hu)).1
 exact (nX_ he hp (hin v hv)).1
theorem ix_ex (L:List Fc) (Fm:Fc→Prop):∃ x:Ix,x.of (·∈L) Fm:=by
 induction L with
 | nil=>exact⟨Ix.nil,by simpa using Ix.of_nil Fm⟩
 | cons a L ih =>
   obtain⟨x,hx⟩:=ih
   have e:(fun y=>y∈a::L)=fun y=>y∈L∨y=a:=funext fun y=>propext (by rw[List.mem_cons];exact or_comm)
   rw[e]
   by_cases h:Fm a
   · exact⟨_,Ix.of_add hx a (b:=true) (by simp[h])⟩
   · exact⟨_,Ix.of_add hx a (b:=false) (by simp[h])⟩
theorem Eng.firm (h:Eng p A l):∀ f∈fcs l,f.kind=3→Fmd (fcs (l.filter fun s=>decide (s.rule=11))) f:=by
 have key:∀ k,∀ f∈fcs (l.take k),f.kind=3→Fmd (fcs (l.filter fun s=>decide (s.rule=11))) f:=by
   intro k
   induction k with
   | zero=>intro f hf;simp[fcs]at hf
   | succ k ih =>
     intro f hf hk3
     rw[List.take_add_one,cv_,List.mem_append]at hf
     rcases hf with hf|hf
     · exact ih f hf hk3
     · cases hk:l[k]? with
       | none=>rw[hk]at hf;simp[fcs]at hf
       | some s =>
         rw[hk]at hf
         simp[fcs]at hf
         subst hf
         obtain⟨c,hr⟩:=h.cor k s hk
         have hm:=List.mem_of_getElem? hk
         generalize hfr:s.frm=fr at c
         generalize hpc:s.piece=pc at c
         generalize hru:s.rule=ru at c hr
         generalize hfa:s.fact=g at c hk3
         cases c with
         | r11 hx hk' h'=>exact .base (by rw[← hfa];exact List.mem_map_of_mem (List.mem_filter.2 ⟨hm,by simp[hru]⟩))
         | @r12 a r lo hi lo' hi' m k' h1 h2 hl=>exact Fmd.meet (ih _ h1.mem rfl) (ih _ h2.mem rfl) rfl rfl hl
         | r15 _=>omega
         | r16 _ _ _=>omega
         | r1 _=>exact absurd hk3 (by simp[y_])
         | r2 _=>exact absurd hk3 (by simp[y_])
         | r10 _ _ _=>exact absurd hk3 (by simp[E_])
         | r3 _ _ _=>exact absurd hk3 (by simp[y_])
         | r4 _ _ _ _=>exact absurd hk3 (by simp[y_])
         | r5 _ _ _=>exact absurd hk3 (by simp[E_])
         | r6 _ _ _=>exact absurd hk3 (by simp[E_])
         | r7 _ _ _ _=>exact absurd hk3 (by simp[E_])
         | r8 _ _ _ _=>exact absurd hk3 (by simp[y_])
         | r9 _ _=>exact absurd hk3 (by simp[y_])
         | r13 _ _ _=>exact absurd hk3 (by simp[y_])
         | r14 _ _ _ _ _=>exact absurd hk3 (by simp[y_])
 intro f hf
 exact key l.length f (by rw[List.take_length];exact hf)
theorem LoopP.done (hv:∀ z∈p,z.vok) (h:LoopP p A l.length l x) (y:Fc):Der p A y↔y∈fcs l:=by
 obtain⟨x',hx'⟩:=ix_ex ((fcs l).take (fcs l).length) (·∈fcs (l.filter fun s=>decide (s.rule=11)))
 refine mA_ (m:=(fcs l).length) (fm:=fcs (l.filter fun s=>decide (s.rule=11))) (x:=x') ⟨h.eng.nd,Nat.le_refl _,Nat.le_refl _,h.eng.der,fun y hy=>(h.eng.der y hy).form hv,hx',fun y hy=>?_,h.eng.firm,h.st,fun y hy=>?_⟩ y
 ·obtain⟨s,h1,rfl⟩:=List.mem_map.1 hy
  obtain⟨h2,h3⟩:=List.mem_filter.1 h1
  refine⟨List.mem_map_of_mem h2,?_⟩
  obtain⟨i,hi⟩:=List.getElem?_of_mem h2
  obtain⟨c,_⟩:=h.eng.cor i s hi
  have h3':s.rule=11:=by simpa using h3
  generalize s.frm=fr at c
  generalize s.piece=pc at c
  rw[h3']at c
  generalize s.fact=g at c
  cases c with
  | r11 _ _ _=>rfl
 rw[List.take_length]at hy
 refine h.cl y ?_
 rw[List.take_length]
 have key:∀ u,u∈fcs (l.filter fun s=>decide (s.rule=11))→gc_ l u:=fun u hu=>by
   obtain⟨s,h1,rfl⟩:=List.mem_map.1 hu
   obtain⟨h2,h3⟩:=List.mem_filter.1 h1
   exact⟨s,h2,rfl,by simpa using h3⟩
 exact hy.congrM fun u v _ _ hm=>hm.imp (key u) (key v)
end
end Go.Vs
namespace Go.Sx
open Go Go.Vs
theorem lT_ {P:Program} {f:FuncId} {args:Array Value} {H:Hp} {Γ Γ0:List Fct} {ι:Type} {ret:ι→Value} {H':ι→Hp} (B:Hp) (hT:Tri P f args H Γ ret H' (fun _=>[]))
    (hΓ:∀ v:Vw,(∀ p∈B,v.im p.1∧v.w.heap[p.1]? = some p.2)→aj_ Γ0 v→aj_ Γ v):Tri P f args (B++H) Γ0 ret (fun x=>B++H' x) (fun _=>[]):=by
  refine⟨hT.callable,fun v hs hv=>?_⟩
  have hnd:=hs.nodup
  rw[List.map_append,List.nodup_append]at hnd
  have hlt:∀ p∈B,p.1<v.w.heap.size:=fun p hp=>(Array.getElem?_eq_some_iff.1 (hs.own p (List.mem_append_left _ hp)).1).1
  have h1:(⟨fun b=>v.im b∨b∈B.map Prod.fst,v.w,v.sl⟩:Vw).sat H:=by
    refine⟨fun p hp=>⟨(hs.own p (List.mem_append_right _ hp)).1,fun hi=>?_⟩,hnd.2.1,fun b hb=>?_⟩
    · rcases hi with hi|hi
      · exact (hs.own p (List.mem_append_right _ hp)).2 hi
      · exact hnd.2.2 _ hi _ (List.mem_map_of_mem hp) rfl
    · rcases hb with hb|hb
      · exact hs.lt b hb
      · obtain⟨p,hp,rfl⟩:=List.mem_map.1 hb
        exact hlt p hp
  have hle:v.le ⟨fun b=>v.im b∨b∈B.map Prod.fst,v.w,v.sl⟩:=⟨fun b h=>.inl h,fun _ _=>rfl,rfl⟩
  have h2:=hΓ ⟨fun b=>v.im b∨b∈B.map Prod.fst,v.w,v.sl⟩ (fun p hp=>⟨.inr (List.mem_map_of_mem hp),(hs.own p (List.mem_append_left _ hp)).1⟩) (bd_ hle hv)
  refine (hT.run _ h1 h2).mono ?_
  rintro e w' ⟨x,v',rfl,rfl,g1,_,g3⟩
  have hB:∀ b,b∈B.map Prod.fst→v'.im b:=fun b hb=>g3.imUp b (.inr hb)
  refine⟨x,⟨fun b=>v'.im b∧b ∉ B.map Prod.fst,v'.w,v'.sl⟩,rfl,rfl,⟨fun p hp=>?_,?_,fun b hb=>g1.lt b hb.1⟩,trivial,?_⟩
  · rcases List.mem_append.1 hp with hp|hp
    · refine⟨?_,fun h=>h.2 (List.mem_map_of_mem hp)⟩
      have:=(g3.le h1).block p.1 (.inr (List.mem_map_of_mem hp))
      exact this.trans (hs.own p (List.mem_append_left _ hp)).1
    · exact⟨(g1.own p hp).1,fun h=>(g1.own p hp).2 h.1⟩
  · rw[List.map_append,List.nodup_append]
    refine⟨hnd.1,g1.nodup,fun a ha b hb e=>?_⟩
    subst e
    obtain⟨p,hp,rfl⟩:=List.mem_map.1 hb
    exact (g1.own p hp).2 (hB _ ha)
  · refine⟨g3.os,g3.tape,g3.output,g3.size,fun b hb hn=>g3.block b hb (fun hm=>hn ?_),fun b hb=>⟨g3.imUp b (.inl hb),fun hm=>?_⟩,fun b hb=>?_,fun b hb=>?_,g3.sl,g3.dr⟩
    · rw[List.map_append];exact List.mem_append_right _ hm
    · obtain⟨p,hp,rfl⟩:=List.mem_map.1 hm
      exact (hs.own p (List.mem_append_left _ hp)).2 hb
    · rcases g3.imNew b hb.1 with (h|h)|h|h
      · exact .inl h
      · exact absurd h hb.2
      · exact .inr (.inl (by rw[List.map_append];exact List.mem_append_right _ h))
      · exact .inr (.inr h)
    · rw[List.map_append]at hb ⊢
      rcases List.mem_append.1 hb with h|h
      · exact .inl (List.mem_append_left _ h)
      · exact (g3.hNew b h).imp (List.mem_append_right _) id
structure KeyT (P:Program) (kt:TypeId) {K:Type} [DecidableEq K] (kv:K→Value):Prop where
  ok:∀ k,gT_ P kt (kv k)
  nf:∀ (k:K) (es:List MapEntry) (ks:List K),es.map (·.key)=ks.map kv→k ∉ ks→dA_ P kt (kv k) es none
  sf:∀ (k:K) (es:List MapEntry) (ks:List K) (i:Nat) (e:MapEntry),es.map (·.key)=ks.map kv→ks.Nodup→ks[i]? = some k→es[i]? = some e→dA_ P kt (kv k) es (some (i,e.val))
  same:∀ k,Instr.sameBits 10000 (kv k) (kv k)=true
section
variable {P:Program}
theorem kk_ (a b:List UInt8):((⟨a.toArray⟩:ByteArray)==⟨b.toArray⟩)=decide (a=b):=by
  show (a.toArray==b.toArray)=_
  rw[Bool.eq_iff_iff]
  simp
theorem qE_ {kt:TypeId} (hu:P.underlying kt=some .string):KeyT P kt str where
  ok:=fun k e w=>by
    have key:∀ m,(Instr.checkKey e (m+1) kt (str k)).run P w=.ok () w:=fun m=>by simp[Instr.checkKey,run_underlying hu,str]
    exact key 9999
  nf:=fun k es ks h hk=>kZ_ hu (by
    have:∀ (ks:List Str) (es:List MapEntry) (i:Nat),es.map (·.key)=ks.map str→k ∉ ks→Instr.findNow .string (str k) es i=some none:=by
      intro ks
      induction ks with
      | nil => intro es i h _; have : es = [] := by simpa using h
               subst this;rfl
      | cons q ks ih =>
        intro es i h hk
        cases es with
        | nil=>simp at h
        | cons e es =>
          simp only[List.map_cons,List.cons.injEq]at h
          simp only[List.mem_cons,not_or]at hk
          have hs:Instr.sameNow .string (str k) e.key=some false:=by
            rw[h.1]
            show some ((⟨k.toArray⟩:ByteArray)==⟨q.toArray⟩)=some false
            rw[kk_,decide_eq_false hk.1]
          simp only[Instr.findNow,hs]
          exact ih es (i+1) h.2 hk.2
    exact this ks es 0 h hk)
  sf:=fun k es ks i e h hn hi he=>kZ_ hu (by
    have:∀ (ks:List Str) (es:List MapEntry) (j i:Nat),es.map (·.key)=ks.map str→ks.Nodup→ks[i]? = some k→es[i]? = some e→Instr.findNow .string (str k) es j=some (some (j+i,e.val)):=by
      intro ks
      induction ks with
      | nil=>intro es j i _ _ h;simp at h
      | cons q ks ih =>
        intro es j i h hn hi he
        cases es with
        | nil=>simp at h
        | cons x es =>
          simp only[List.map_cons,List.cons.injEq]at h
          rw[List.nodup_cons]at hn
          cases i with
          | zero =>
            simp only[List.getElem?_cons_zero,Option.some.injEq]at hi he
            subst hi;subst he
            have hs:Instr.sameNow .string (str q) x.key=some true:=by
              rw[h.1]
              show some ((⟨q.toArray⟩:ByteArray)==⟨q.toArray⟩)=some true
              rw[kk_,decide_eq_true rfl]
            simp only[Instr.findNow,hs,Nat.add_zero]
          | succ i =>
            simp only[List.getElem?_cons_succ]at hi he
            have hne:k≠q:=fun e=>hn.1 (e▸List.mem_of_getElem? hi)
            have hs:Instr.sameNow .string (str k) x.key=some false:=by
              rw[h.1]
              show some ((⟨k.toArray⟩:ByteArray)==⟨q.toArray⟩)=some false
              rw[kk_,decide_eq_false hne]
            simp only[Instr.findNow,hs]
            rw[ih es (j+1) i h.2 hn.2 hi he,show j+1+i=j+(i+1) by omega]
    have:=this ks es 0 i h hn hi he
    rwa [Nat.zero_add]at this)
  same:=fun k=>by
    have key:∀ m,Instr.sameBits m (str k) (str k)=true:=fun m=>by
      cases m<;>(show ((⟨k.toArray⟩:ByteArray)==⟨k.toArray⟩)=true;rw[kk_,decide_eq_true rfl])
    exact key 10000
theorem ec_ {K:Type} [DecidableEq K] {kt:TypeId} {fs:Array Field} {kv:K→Value} (hu:P.underlying kt=some (.struct fs)) (hok:∀ k,gT_ P kt (kv k)) (heq:∀ p q w,(Op.equal kt (kv p) (kv q)).run P w=.ok (decide (p=q)) w) (hsame:∀ k,Instr.sameBits 10000 (kv k) (kv k)=true):KeyT P kt kv where
  ok:=hok
  nf:=fun k es ks h hk=>(lB_ hu heq k ks es h).1 hk
  sf:=fun k es ks i e h hn hi he=>by
    have key:∀ (ks:List K) (es:List MapEntry) (j i:Nat),es.map (·.key)=ks.map kv→ks.Nodup→ks[i]? = some k→es[i]? = some e→∀ w,(Instr.findAsking kt (kv k) es j).run P w=.ok (some (j+i,e.val)) w:=by
      intro ks
      induction ks with
      | nil=>intro es j i _ _ h;simp at h
      | cons q ks ih =>
        intro es j i h hn hi he w
        cases es with
        | nil=>simp at h
        | cons x es =>
          simp only[List.map_cons,List.cons.injEq]at h
          rw[List.nodup_cons]at hn
          cases i with
          | zero =>
            simp only[List.getElem?_cons_zero,Option.some.injEq]at hi he
            subst hi;subst he
            simp only[Instr.findAsking,Sem.run_bind,h.1,heq,Result.andThen_ok,decide_true,if_true,Sem.run_pure,Nat.add_zero]
          | succ i =>
            simp only[List.getElem?_cons_succ]at hi he
            have hne:k≠q:=fun e=>hn.1 (e▸List.mem_of_getElem? hi)
            simp only[Instr.findAsking,Sem.run_bind,h.1,heq,Result.andThen_ok,hne,decide_false,Bool.false_eq_true,if_false]
            rw[ih es (j+1) i h.2 hn.2 hi he w,show j+1+i=j+(i+1) by omega]
    intro w
    have hnow:∀ (x:MapEntry) (r:List MapEntry),Instr.findNow (.struct fs) (kv k) (x::r) 0=none:=fun x r=>by simp[Instr.findNow,Instr.sameNow]
    cases es with
    | nil=>simp at he
    | cons x r =>
      simp only[Instr.findKey,Sem.run_bind,run_underlying hu,Result.andThen_ok,hnow]
      have:=key ks (x::r) 0 i h hn hi he w
      rwa [Nat.zero_add]at this
  same:=hsame
end
theorem ei_ (n:Nat) {k:IntKind} (i:Int):Instr.sameBits n (.int k i) (.int k i)=true:=by
  cases n<;>simp[Instr.sameBits]
theorem cn_ (n:Nat) (s:List UInt8):Instr.sameBits n (str s) (str s)=true:=by
  cases n<;>(show ((⟨s.toArray⟩:ByteArray)==⟨s.toArray⟩)=true;rw[kk_,decide_eq_true rfl])
theorem fN_ {n:Nat} {l:List Value} (h:∀ v∈l,Instr.sameBits n v v=true):Instr.sameBits (n+1) (.agg l.toArray) (.agg l.toArray)=true:=by
 simp only[Instr.sameBits,BEq.rfl,Bool.true_and,List.all_eq_true]
 intro p hp
 have:∀ (l:List Value),(∀ v∈l,Instr.sameBits n v v=true)→∀ p∈l.zip l,Instr.sameBits n p.1 p.2=true:=by
   intro l
   induction l with
   | nil=>intro _ p hp;simp at hp
   | cons a l ih =>
     intro h p hp
     simp only[List.zip_cons_cons,List.mem_cons]at hp
     rcases hp with rfl|hp
     · exact h a (by simp)
     · exact ih (fun v hv=>h v (by simp[hv])) p hp
 exact this l h p hp
structure Born (es:Array MapEntry) (c:Nat):Prop where
  lt:∀ x∈es.toList,x.born<c
  nd:(es.toList.map (·.born)).Nodup
theorem Born.nil (c:Nat):Born #[] c:=⟨by simp,by simp⟩
theorem Born.push {es:Array MapEntry} {c:Nat} (h:Born es c) (key val:Value):Born (es.push ⟨key,val,c⟩) (c+1):=by
 refine⟨fun x hx=>?_,?_⟩
 ·rw[Array.toList_push,List.mem_append]at hx
  rcases hx with hx|hx
  ·exact Nat.lt_succ_of_lt (h.lt x hx)
  rw[List.mem_singleton]at hx;rw[hx];exact Nat.lt_succ_self _
 rw[Array.toList_push,List.map_append,List.nodup_append]
 refine⟨h.nd,by simp,fun a ha b hb e=>?_⟩
 obtain⟨x,hx,rfl⟩:=List.mem_map.1 ha
 simp at hb
 have:=h.lt x hx
 omega
theorem Born.modify {es:Array MapEntry} {c:Nat} (h:Born es c) (i:Nat) (f:MapEntry→MapEntry) (hf:∀ e,(f e).born=e.born):Born (es.modify i f) c:=by
 have hb:(es.modify i f).toList.map (·.born)=es.toList.map (·.born):=by
   apply List.ext_getElem?
   intro j
   simp only[List.getElem?_map,Array.getElem?_toList,Array.getElem?_modify]
   split
   · cases es[j]? <;> simp[hf]
   · rfl
 refine⟨fun x hx=>?_,by rw[hb];exact h.nd⟩
 have:x.born∈(es.modify i f).toList.map (·.born):=List.mem_map_of_mem hx
 rw[hb]at this
 obtain⟨y,hy,e⟩:=List.mem_map.1 this
 rw[← e];exact h.lt y hy
theorem Born.find {es:Array MapEntry} {c i:Nat} {x:MapEntry} (h:Born es c) (hx:es[i]? = some x):es.findIdx? (fun e=>(e.born:Int)==(x.born:Int))=some i:=by
  rw[Array.findIdx?_eq_some_iff_getElem]
  obtain⟨hi,rfl⟩:=Array.getElem?_eq_some_iff.1 hx
  refine⟨hi,by simp,fun j hj=>?_⟩
  simp only[beq_eq_false_iff_ne,ne_eq,Bool.not_eq_true]
  intro e
  have hji:j<es.size:=Nat.lt_trans hj hi
  have:=h.nd
  rw[List.nodup_iff_pairwise_ne,List.pairwise_iff_getElem]at this
  have:=this j i (by simpa using hji) (by simpa using hi) hj
  simp at this
  exact this (by exact_mod_cast e)
section
variable {K D:Type} [DecidableEq K] (kv:K→Value) (cells:D→List Value) (e:TypeId) (sz:Nat) (l:List (K×D))
def gb_:List K→List MapEntry→Hp→Prop
  | [],[],H=>H=[]
  | k::ks,x::es,H=>∃ Hk Hr,H=Hk++Hr∧x.key=kv k∧aE_ e sz x.val (lat l k).length ((lat l k).flatMap cells) Hk∧gb_ ks es Hr
  | _,_,_=>False
def aP_ (mb:Nat) (H:Hp):Prop:=∃ ks es c Hr,H=(mb,.map es c)::Hr∧ks.Nodup∧(∀ x∈l,x.1∈ks)∧gb_ kv cells e sz l ks es.toList Hr∧Born es c
end
section
variable {K D:Type} [DecidableEq K] {kv:K→Value} {cells:D→List Value} {e:TypeId} {sz:Nat} {l:List (K×D)}
theorem gb_.keys:∀ {ks:List K} {es:List MapEntry} {H:Hp},gb_ kv cells e sz l ks es H→es.map (·.key)=ks.map kv
  | [],[],_,_=>rfl
  | k::ks,x::es,_,h=>by
    obtain⟨Hk,Hr,_,h1,_,h2⟩:=h
    simp[h1,h2.keys]
  | [],_::_,_,h=>h.elim
  | _::_,[],_,h=>h.elim
theorem gb_.congr {l':List (K×D)}:∀ {ks:List K} {es:List MapEntry} {H:Hp},(∀ k∈ks,lat l' k=lat l k)→gb_ kv cells e sz l ks es H→gb_ kv cells e sz l' ks es H
  | [],[],_,_,h=>h
  | k::ks,x::es,_,hl,h=>by
    obtain⟨Hk,Hr,h0,h1,h2,h3⟩:=h
    exact⟨Hk,Hr,h0,h1,by rw[hl k (by simp)];exact h2,h3.congr fun q hq=>hl q (by simp[hq])⟩
  | [],_::_,_,_,h=>h.elim
  | _::_,[],_,_,h=>h.elim
theorem gb_.get : ∀ {ks : List K} {es : List MapEntry} {H : Hp} {i : Nat} {k : K}, gb_ kv cells e sz l ks es H → ks.Nodup → ks[i]? = some k → ∃ x Hk Hr, es[i]? = some x ∧ H.Perm (Hk ++ Hr) ∧ x.key = kv k ∧ aE_ e sz x.val (lat l k).length ((lat l k).flatMap cells) Hk ∧
      ∀ (l':List (K×D)) (y:MapEntry) (Hk':Hp),y.key=kv k→(∀ q,q≠k→lat l' q=lat l q)→aE_ e sz y.val (lat l' k).length ((lat l' k).flatMap cells) Hk'→∃ H',gb_ kv cells e sz l' ks (es.set i y) H'∧H'.Perm (Hk'++Hr)
  | [],_,_,_,_,_,_,h=>by simp at h
  | _::_,[],_,_,_,h,_,_=>h.elim
  | q::ks,x::es,H,0,k,h,hn,hi=>by
    simp only[List.getElem?_cons_zero,Option.some.injEq]at hi
    subst hi
    rw[List.nodup_cons]at hn
    obtain⟨Hk,Hr,h0,h1,h2,h3⟩:=h
    exact⟨x,Hk,Hr,rfl,h0▸.refl _,h1,h2,fun l' y Hk' g1 g2 g3=>⟨Hk'++Hr,⟨Hk',Hr,rfl,g1,g3,h3.congr fun z hz=>g2 z (fun e=>hn.1 (e▸hz))⟩,.refl _⟩⟩
  | q::ks,x::es,H,i+1,k,h,hn,hi=>by
    simp only[List.getElem?_cons_succ]at hi
    rw[List.nodup_cons]at hn
    obtain⟨Hq,Ho,h0,h1,h2,h3⟩:=h
    obtain⟨y,Hk,Hr,i1,i2,i3,i4,i5⟩:=h3.get hn.2 hi
    have hne:q≠k:=fun e=>hn.1 (e▸List.mem_of_getElem? hi)
    refine⟨y,Hk,Hq++Hr,i1,?_,i3,i4,fun l' z Hk' g1 g2 g3=>?_⟩
    · rw[h0]
      refine (List.Perm.append_left Hq i2).trans ?_
      rw[← List.append_assoc,← List.append_assoc]
      exact List.perm_append_comm.append_right _
    · obtain⟨H',j1,j2⟩:=i5 l' z Hk' g1 g2 g3
      refine⟨Hq++H',⟨Hq,H',rfl,h1,by rw[g2 q hne];exact h2,j1⟩,(List.Perm.append_left Hq j2).trans ?_⟩
      rw[← List.append_assoc,← List.append_assoc]
      exact List.perm_append_comm.append_right _
theorem gb_.push:∀ {ks:List K} {es:List MapEntry} {H:Hp} {k:K} {x:MapEntry} {Hk:Hp},gb_ kv cells e sz l ks es H→x.key=kv k→aE_ e sz x.val (lat l k).length ((lat l k).flatMap cells) Hk→gb_ kv cells e sz l (ks++[k]) (es++[x]) (H++Hk)
  | [],[],_,k,x,Hk,h,h1,h2=>by subst h;exact⟨Hk,[],by simp,h1,h2,rfl⟩
  | q::ks,y::es,_,k,x,Hk,h,h1,h2=>by
    obtain⟨Hq,Hr,rfl,g1,g2,g3⟩:=h
    exact⟨Hq,Hr++Hk,by simp,g1,g2,g3.push h1 h2⟩
  | [],_::_,_,_,_,_,h,_,_=>h.elim
  | _::_,[],_,_,_,_,h,_,_=>h.elim
theorem hd_ {k q:K} {d:D} (h:q≠k):lat (l++[(k,d)]) q=lat l q:=by
  rw[jQ_];simp[lat,Ne.symm h]
theorem be_ {k:K} {d:D}:lat (l++[(k,d)]) k=lat l k++[d]:=by
  rw[jQ_];simp[lat]
theorem aP_.open {P:Program} {kt:TypeId} (hK:KeyT P kt kv) {mb:Nat} {H:Hp} (h:aP_ kv cells e sz l mb H) (k:K) :
    ∃ es c sv Hk Hr,H.Perm ((mb,.map es c)::(Hk++Hr))∧aE_ e sz sv (lat l k).length ((lat l k).flatMap cells) Hk ∧
      ((dA_ P kt (kv k) es.toList none∧sv=.slice none 0 0∧∀ d sv' Hk',aE_ e sz sv' (lat (l++[(k,d)]) k).length ((lat (l++[(k,d)]) k).flatMap cells) Hk'→∃ H',aP_ kv cells e sz (l++[(k,d)]) mb H'∧H'.Perm ((mb,.map (es.push ⟨kv k,sv',c⟩) (c+1))::(Hk'++Hr))) ∨
       (∃ i x,dA_ P kt (kv k) es.toList (some (i,sv))∧es[i]? = some x∧x.key=kv k∧x.val=sv∧∀ d sv' Hk',aE_ e sz sv' (lat (l++[(k,d)]) k).length ((lat (l++[(k,d)]) k).flatMap cells) Hk'→∃ H',aP_ kv cells e sz (l++[(k,d)]) mb H'∧H'.Perm ((mb,.map (es.modify i fun y=>{ y with key:=kv k,val:=sv' }) c)::(Hk'++Hr)))):=by
  obtain⟨ks,es,c,Ho,rfl,hn,hl,hm,hbn⟩:=h
  by_cases hk:k∈ks
  · obtain⟨i,hi⟩:=List.getElem?_of_mem hk
    obtain⟨x,Hk,Hr,g1,g2,g3,g4,g5⟩:=hm.get hn hi
    have hx:es[i]? = some x:=by rw[← Array.getElem?_toList];exact g1
    refine⟨es,c,x.val,Hk,Hr,.cons _ g2,g4,.inr ⟨i,x,hK.sf k es.toList ks i x hm.keys hn hi g1,hx,g3,rfl,fun d sv' Hk' hs=>?_⟩⟩
    obtain⟨H',j1,j2⟩:=g5 (l++[(k,d)]) { x with key:=kv k,val:=sv' } Hk' rfl (fun q hq=>hd_ hq) hs
    refine⟨(mb,.map (es.modify i fun y=>{ y with key:=kv k,val:=sv' }) c)::H',⟨ks,_,c,H',rfl,hn,fun y hy=>?_,?_,hbn.modify i _ fun _=>rfl⟩,.cons _ j2⟩
    · rcases List.mem_append.1 hy with hy|hy
      · exact hl y hy
      · simp at hy;rw[hy];exact hk
    · have e1:(es.modify i fun y=>{ y with key:=kv k,val:=sv' }).toList=es.toList.set i { x with key:=kv k,val:=sv' }:=by
        apply List.ext_getElem?
        intro j
        rw[Array.getElem?_toList,Array.getElem?_modify,List.getElem?_set,Array.getElem?_toList]
        by_cases hij:i=j
        · subst hij
          have hlt:i<es.toList.length:=(List.getElem?_eq_some_iff.1 g1).1
          simp only[if_true,hx,Option.map_some,if_pos hlt]
        · simp[hij]
      rw[e1];exact j1
  · have hlat:lat l k=[]:=by
      apply List.eq_nil_iff_forall_not_mem.2
      intro d hd
      exact hk (hl _ (aY_.1 hd))
    refine⟨es,c,.slice none 0 0,[],Ho,.refl _,by rw[hlat];exact aE_.nil _ _,.inl ⟨hK.nf k es.toList ks hm.keys hk,rfl,fun d sv' Hk' hs=>?_⟩⟩
    refine⟨(mb,.map (es.push ⟨kv k,sv',c⟩) (c+1))::(Ho++Hk'),⟨ks++[k],_,_,_,rfl,?_,fun y hy=>?_,?_,hbn.push _ _⟩,.cons _ List.perm_append_comm⟩
    · rw[List.nodup_append];exact⟨hn,by simp,fun a ha b hb e=>by simp at hb;subst hb;subst e;exact hk ha⟩
    · rcases List.mem_append.1 hy with hy|hy
      · exact List.mem_append_left _ (hl y hy)
      · simp at hy;simp[hy]
    · rw[Array.toList_push]
      exact (hm.congr fun q hq=>hd_ (fun (e:q=k)=>hk (e▸hq))).push rfl hs
structure MOpn (kv:K→Value) (cells:D→List Value) (e:TypeId) (sz:Nat) (l:List (K×D)) (mb:Nat) (k:K) (es:Array MapEntry) (c i:Nat) (st:Int) (Hr:Hp):Prop where
  find:es.findIdx? (fun x=>(x.born:Int)==st)=some i
  close:∀ d sv' Hk',aE_ e sz sv' (lat (l++[(k,d)]) k).length ((lat (l++[(k,d)]) k).flatMap cells) Hk'→∃ H',aP_ kv cells e sz (l++[(k,d)]) mb H'∧H'.Perm ((mb,.map (es.modify i fun y=>{ y with val:=sv' }) c)::(Hk'++Hr))
theorem nm_ {es:Array MapEntry} {i:Nat} {x:MapEntry} {key:Value} (hx:es[i]? = some x) (hk:x.key=key):(es.modify i fun y=>{ y with key:=key })=es:=by
 apply Array.ext_getElem?
 intro j
 rw[Array.getElem?_modify]
 by_cases hij:i=j
 ·subst hij;rw[if_pos rfl,hx];simp only[Option.map_some];rw[← hk]
 rw[if_neg hij]
theorem aP_.entry {P:Program} {kt:TypeId} (hK:KeyT P kt kv) {mb:Nat} {H:Hp} (h:aP_ kv cells e sz l mb H) (k:K) :
    ∃ es c es' c' i st sv Hk Hr,H.Perm ((mb,.map es c)::(Hk++Hr))∧aE_ e sz sv (lat l k).length ((lat l k).flatMap cells) Hk∧MOpn kv cells e sz l mb k es' c' i st Hr ∧
      ((dA_ P kt (kv k) es.toList none∧sv=.slice none 0 0∧es'=es.push ⟨kv k,.slice none 0 0,c⟩∧c'=c+1∧st=(c:Int))∨(∃ j x,dA_ P kt (kv k) es.toList (some (j,sv))∧es[j]? = some x∧x.key=kv k∧es'=es∧c'=c∧st=(x.born:Int))):=by
  have h0:=h
  obtain⟨ks,es,c,Ho,rfl,hn,hl,hm,hbn⟩:=h0
  by_cases hk:k∈ks
  · obtain⟨i,hi⟩:=List.getElem?_of_mem hk
    obtain⟨x,Hk,Hr,g1,g2,g3,g4,g5⟩:=hm.get hn hi
    have hx:es[i]? = some x:=by rw[← Array.getElem?_toList];exact g1
    refine⟨es,c,es,c,i,x.born,x.val,Hk,Hr,.cons _ g2,g4,⟨hbn.find hx,fun d sv' Hk' hs=>?_⟩,.inr ⟨i,x,hK.sf k es.toList ks i x hm.keys hn hi g1,hx,g3,rfl,rfl,rfl⟩⟩
    obtain⟨H',j1,j2⟩:=g5 (l++[(k,d)]) { x with key:=kv k,val:=sv' } Hk' rfl (fun q hq=>hd_ hq) hs
    refine⟨(mb,.map (es.modify i fun y=>{ y with val:=sv' }) c)::H',⟨ks,_,c,H',rfl,hn,fun y hy=>?_,?_,hbn.modify i _ fun _=>rfl⟩,.cons _ j2⟩
    · rcases List.mem_append.1 hy with hy|hy
      · exact hl y hy
      · simp at hy;rw[hy];exact hk
    · have e1:(es.modify i fun y=>{ y with val:=sv' }).toList=es.toList.set i { x with key:=kv k,val:=sv' }:=by
        apply List.ext_getElem?
        intro j
        rw[Array.getElem?_toList,Array.getElem?_modify,List.getElem?_set,Array.getElem?_toList]
        by_cases hij:i=j
        · subst hij
          have hlt:i<es.toList.length:=(List.getElem?_eq_some_iff.1 g1).1
          simp only[if_true,hx,Option.map_some,if_pos hlt]
          rw[← g3]
        · simp[hij]
      rw[e1];exact j1
  · have hlat:lat l k=[]:=by
      apply List.eq_nil_iff_forall_not_mem.2
      intro d hd
      exact hk (hl _ (aY_.1 hd))
    have hb2:=hbn.push (kv k) (.slice none 0 0)
    have hget:(es.push ⟨kv k,.slice none 0 0,c⟩)[es.size]? = some ⟨kv k,.slice none 0 0,c⟩:=by simp
    refine⟨es,c,es.push ⟨kv k,.slice none 0 0,c⟩,c+1,es.size,(c:Int),.slice none 0 0,[],Ho,.refl _,by rw[hlat];exact aE_.nil _ _,⟨hb2.find hget,fun d sv' Hk' hs=>?_⟩,.inl ⟨hK.nf k es.toList ks hm.keys hk,rfl,rfl,rfl,rfl⟩⟩
    have e2:((es.push ⟨kv k,.slice none 0 0,c⟩).modify es.size fun y=>{ y with val:=sv' })=es.push ⟨kv k,sv',c⟩:=by
      apply Array.ext_getElem?
      intro j
      rw[Array.getElem?_modify,Array.getElem?_push,Array.getElem?_push]
      by_cases hj:j=es.size
      · subst hj;simp
      · rw[if_neg (fun q=>hj q.symm),if_neg hj,if_neg hj]
    rw[e2]
    refine⟨(mb,.map (es.push ⟨kv k,sv',c⟩) (c+1))::(Ho++Hk'),⟨ks++[k],_,_,_,rfl,?_,fun y hy=>?_,?_,hbn.push _ _⟩,.cons _ List.perm_append_comm⟩
    · rw[List.nodup_append];exact⟨hn,by simp,fun a ha b hb e=>by simp at hb;subst hb;subst e;exact hk ha⟩
    · rcases List.mem_append.1 hy with hy|hy
      · exact List.mem_append_left _ (hl y hy)
      · simp at hy;simp[hy]
    · rw[Array.toList_push]
      exact (hm.congr fun q hq=>hd_ (fun (e:q=k)=>hk (e▸hq))).push rfl hs
theorem aP_.nil (mb:Nat) (c:Nat):aP_ kv cells e sz ([]:List (K×D)) mb [(mb,.map #[] c)]:=⟨[],#[],c,[],rfl,List.nodup_nil,by simp,rfl,Born.nil c⟩
def mlF (P:Program) (kt:TypeId) (kv:K→Value) (cells:D→List Value) (mb:Nat) (l:List (K×D)) (adr:K→Option Addr×Nat):Fct where
  p:=fun v=>v.im mb∧∃ es c,v.w.heap[mb]? = some (.map es c)∧∀ k,by_ v (adr k).1 ((lat l k).flatMap cells) ∧
    ((dA_ P kt (kv k) es.toList none∧Value.slice (adr k).1 (lat l k).length (adr k).2=.slice none 0 0)∨∃ i,dA_ P kt (kv k) es.toList (some (i,.slice (adr k).1 (lat l k).length (adr k).2)))
  mono:=fun v v' h ⟨h1,es,c,h2,h3⟩=>⟨h.imUp mb h1,es,c,by rw[h.block mb h1];exact h2,fun k=>⟨(aq_ _ _).mono v v' h (h3 k).1,(h3 k).2⟩⟩
theorem ap_ {P:Program} {kt:TypeId} {mb:Nat} {adr:K→Option Addr×Nat} {v:Vw} (h:(mlF P kt kv cells mb l adr).p v) (k:K):by_ v (adr k).1 ((lat l k).flatMap cells):=by
  obtain⟨_,_,_,_,h⟩:=h
  exact (h k).1
theorem kE_ {sv:Value} {n:Nat} {xs:List Value} {Hr:Hp} {v:Vw} (h:aE_ e sz sv n xs Hr) (hv:∀ p∈Hr,v.im p.1∧v.w.heap[p.1]? = some p.2):∃ ad cap,sv=.slice ad n cap∧n≤cap∧cap≤maxLen∧(n≠0→∃ b,ad=some ⟨b,0,none⟩)∧by_ v ad xs:=by
 rcases h.2 with⟨rfl,rfl,rfl⟩|⟨g,cap,cur,rfl,rfl,h3,h4,h5,h6⟩
 ·have:xs=[]:=List.eq_nil_of_length_eq_zero (by simpa using h.1)
  exact⟨none,0,rfl,Nat.le_refl _,by simp[maxLen],fun h=>absurd rfl h,.inl this⟩
 obtain⟨g1,g2⟩:=hv _ (List.mem_singleton.2 rfl)
 refine⟨some ⟨g,0,none⟩,cap,rfl,h3,h4,fun _=>⟨g,rfl⟩,.inr ⟨g,0,cur,e,(0,0),rfl,g1,g2,fun j x hj=>?_⟩⟩
 rw[← h6,List.getElem?_take]at hj
 split at hj
 ·rw[Nat.zero_add,← Array.getElem?_toList];exact hj
 cases hj
theorem aP_.lent {P:Program} {kt:TypeId} (hK:KeyT P kt kv) {mb:Nat} {H:Hp} (h:aP_ kv cells e sz l mb H):∃ adr,∀ v:Vw,(∀ p∈H,v.im p.1∧v.w.heap[p.1]? = some p.2)→(mlF P kt kv cells mb l adr).p v:=by
 have h0:=h
 obtain⟨ks,es,c,Ho,rfl,hn,hl,hm,_⟩:=h0
 have key:∀ k,∃ q:Option Addr×Nat,∀ v:Vw,(∀ p∈(mb,Obj.map es c)::Ho,v.im p.1∧v.w.heap[p.1]? = some p.2)→by_ v q.1 ((lat l k).flatMap cells)∧((dA_ P kt (kv k) es.toList none∧Value.slice q.1 (lat l k).length q.2=.slice none 0 0)∨∃ i,dA_ P kt (kv k) es.toList (some (i,.slice q.1 (lat l k).length q.2))):=fun k=>by
   by_cases hk:k∈ks
   · obtain⟨i,hi⟩:=List.getElem?_of_mem hk
     obtain⟨x,Hk,Hr,g1,g2,g3,g4,_⟩:=hm.get hn hi
     have hf:=hK.sf k es.toList ks i x hm.keys hn hi g1
     have hsl:∃ ad cap,x.val=.slice ad (lat l k).length cap:=by
       rcases g4.2 with⟨q1,q2,_⟩|⟨g,cap,cur,q1,_⟩
       · exact⟨none,0,by rw[q1,q2]⟩
       · exact⟨_,cap,q1⟩
     obtain⟨ad,cap,hx⟩:=hsl
     refine⟨(ad,cap),fun v hv=>⟨?_,.inr ⟨i,by rw[← hx];exact hf⟩⟩⟩
     obtain⟨ad',cap',e1,_,_,_,hr⟩:=kE_ g4 fun p hp=>hv p (List.mem_cons_of_mem _ (g2.mem_iff.2 (List.mem_append_left _ hp)))
     rw[hx]at e1
     simp only[Value.slice.injEq]at e1
     rw[e1.1];exact hr
   · have hlat:lat l k=[]:=by
       apply List.eq_nil_iff_forall_not_mem.2
       intro d hd
       exact hk (hl _ (aY_.1 hd))
     exact⟨(none,0),fun v hv=>⟨.inl (by rw[hlat];rfl),.inl ⟨hK.nf k es.toList ks hm.keys hk,by rw[hlat];rfl⟩⟩⟩
 refine⟨fun k=>(key k).choose,fun v hv=>?_⟩
 obtain⟨g1,g2⟩:=hv _ List.mem_cons_self
 exact⟨g1,es,c,g2,fun k=>(key k).choose_spec v hv⟩
end
section
variable {P:Program} {K:Type} [DecidableEq K] {kv:K→Value} {kt:TypeId}
structure SetE (kv:K→Value) (es:Array MapEntry) (q:List K):Prop where
  keys:es.toList.map (·.key)=q.map kv
  vals:∀ x∈es.toList,x.val=.bool true
  nd:q.Nodup
theorem SetE.nil:SetE kv #[] ([]:List K):=⟨rfl,by simp,List.nodup_nil⟩
theorem SetE.size {es:Array MapEntry} {q:List K} (h:SetE kv es q):es.size=q.length:=by
  have:=congrArg List.length h.keys
  simpa using this
theorem SetE.yes (hK:KeyT P kt kv) {es:Array MapEntry} {q:List K} (h:SetE kv es q) {k:K} (hk:k∈q):∃ i x,q[i]? = some k∧es[i]? = some x∧x.key=kv k∧x.val=.bool true∧dA_ P kt (kv k) es.toList (some (i,.bool true)):=by
  obtain⟨i,hi⟩:=List.getElem?_of_mem hk
  have hlt:i<es.toList.length:=by
    have:=(List.getElem?_eq_some_iff.1 hi).1
    have e:=congrArg List.length h.keys
    simp at e this ⊢;omega
  have hx:=List.getElem?_eq_getElem hlt
  have hv:=h.vals _ (List.getElem_mem hlt)
  have hkey:es.toList[i].key=kv k:=by
    have:=congrArg (fun l=>l[i]?) h.keys
    simp only[List.getElem?_map,hx,hi,Option.map_some,Option.some.injEq]at this
    exact this
  refine⟨i,es.toList[i],hi,by rw[← Array.getElem?_toList];exact hx,hkey,hv,?_⟩
  have:=hK.sf k es.toList q i _ h.keys h.nd hi hx
  rwa [hv]at this
theorem SetE.no (hK:KeyT P kt kv) {es:Array MapEntry} {q:List K} (h:SetE kv es q) {k:K} (hk:k ∉ q):dA_ P kt (kv k) es.toList none:=hK.nf k es.toList q h.keys hk
theorem SetE.push {es:Array MapEntry} {q:List K} (h:SetE kv es q) {k:K} (hk:k ∉ q) (c:Nat):SetE kv (es.push ⟨kv k,.bool true,c⟩) (q++[k]):=by
 refine⟨by simp[h.keys],fun x hx=>?_,?_⟩
 ·rw[Array.toList_push,List.mem_append]at hx
  rcases hx with hx|hx
  ·exact h.vals x hx
  simp at hx;rw[hx]
 rw[List.nodup_append];exact⟨h.nd,by simp,fun a ha b hb e=>by simp at hb;subst hb;subst e;exact hk ha⟩
end
section ops
variable {P:Program} {N:Nf} {v0:Vw} {H0:Hp} {R:Exit→Act→World→Prop} {Kk:List Kt} {fr:Fr} {H:Hp} {Γ:List Fct}
variable {ops:Array Oper} {lo:List Oper} {d:Nat} {ty:TypeId} {ps:String} {af:Array Edge}
variable {K D:Type} [DecidableEq K] {kv:K→Value} {cells:D→List Value}
theorem aN_ {t kt et:TypeId} {x y:Operand} {mb:Nat} {l:List (K×D)} {adr:K→Option Addr×Nat} {k:K} (hK:KeyT P kt kv) (hu:∀ w,(underlying t).run P w=.ok (.map kt et) w) (hz:∀ w,(zeroValue et).run P w=.ok (.slice none 0 0) w) (hx:Fr.ev fr x=some (.map (some mb))) (hy:Fr.ev fr y=some (kv k))
    (hm:∀ v,v.sat H→aj_ Γ v→(mlF P kt kv cells mb l adr).p v):Yld P N fr H Γ (.lookup t x y false) ty (.slice (adr k).1 (lat l k).length (adr k).2) :=
  fun a v h1 h2 h4 _ _ _=>by
    obtain⟨_,es,c,g1,g2⟩:=hm v h2 h4
    have hb:=MapKept.run_getObj_map (P:=P) g1
    rcases (g2 k).2 with⟨q5,q6⟩|⟨i,q5⟩
    · rw[q6];simp[execOp,h1.ev hx,h1.ev hy,Instr.lookup,hu,hb,hK.ok _ _ _,q5 _,hz]
    · simp[execOp,h1.ev hx,h1.ev hy,Instr.lookup,hu,hb,hK.ok _ _ _,q5 _]
theorem fs_ {t kt et:TypeId} {x y:Operand} {mb c:Nat} {es:Array MapEntry} {q:List K} {k:K} (hK:KeyT P kt kv) (hu:∀ w,(underlying t).run P w=.ok (.map kt et) w) (hz:∀ w,(zeroValue et).run P w=.ok (.bool false) w) (hx:Fr.ev fr x=some (.map (some mb))) (hy:Fr.ev fr y=some (kv k))
    (hq:SetE kv es q) (hm:∀ v,v.sat H→aj_ Γ v→v.w.heap[mb]? = some (.map es c)):Yld P N fr H Γ (.lookup t x y false) ty (.bool (decide (k∈q))):=by
  by_cases hk:k∈q
  · obtain⟨i,_,_,_,_,_,hf⟩:=hq.yes hK hk
    rw[decide_eq_true hk]
    exact jk_ hu hx hy hm (hK.ok k) hf
  · rw[decide_eq_false hk]
    exact hF_ hu hz hx hy hm (hK.ok k) (hq.no hK hk)
theorem po_ {t kt et:TypeId} {x:Operand} {mb c:Nat} {es:Array MapEntry} (hu:∀ w,(underlying t).run P w=.ok (.map kt et) w) (hx:Fr.ev fr x=some (.map (some mb))) (hm:∀ v,v.sat H→aj_ Γ v→v.w.heap[mb]? = some (.map es c)) :
    Yld P N fr H Γ (.call ⟨.builtin .len,#[x],#[t]⟩) ty (.int .i64 (es.size:Int)) :=
  fun a v h1 h2 h4 _ _ _=>by
    have hb:=MapKept.run_getObj_map (P:=P) (hm v h2 h4)
    simp[execOp,resolve,invoke,builtin,Builtin.len_,h1.ev hx,hu,hb,goInt]
theorem jE_ {o:Op} {t kt et:TypeId} {x y z:Operand} {b c i:Nat} (n:Nat) {es:Array MapEntry} {e:MapEntry} {k:K} {u u':Value} (hK:KeyT P kt kv) (ho:o=.insert t x y z∨o=.mapUpdate t x y z) (hu:∀ w,(underlying t).run P w=.ok (.map kt et) w)
    (hx:Fr.ev fr x=some (.map (some b))) (hy:Fr.ev fr y=some (kv k)) (hz:Fr.ev fr z=some u) (hi:H[n]? = some (b,.map es c)) (hf:dA_ P kt (kv k) es.toList (some (i,u'))) (he:es[i]? = some e) (hek:e.key=kv k)
    (hkk:Ops P R N v0 H0 ops lo Kk fr (H.set n (b,.map (es.modify i fun y=>{ y with key:=kv k,val:=u }) c)) Γ):Ops P R N v0 H0 ops (⟨none,o,ty,ps,af,none⟩::lo) Kk fr H Γ :=
  dl_ rfl fun a v h1 h2 h3 h4=>by
    have hb:=(h2.own _ (List.mem_of_getElem? hi)).1
    have hg:=MapKept.run_getObj_map (P:=P) hb
    have hs:=MapKept.run_setObj_map (P:=P) (.map (es.modify i fun y=>{ y with key:=kv k,val:=u }) c) hb
    have he:(execOp a.eval ⟨none,o,ty,ps,af,none⟩).run P v.w=.ok .skip { v.w with heap:=v.w.heap.setIfInBounds b (.map (es.modify i fun y=>{ y with key:=kv k,val:=u }) c) }:=by
      rcases ho with rfl|rfl<;>simp[execOp,h1.ev hx,h1.ev hy,h1.ev hz,Instr.mapUpdate,hu,hg,hK.ok _ _ _,hf _,hs,Instr.keyThatStays,he,hek,hK.same]
    unfold Oper.wp
    rw[he]
    have hh:=MapKept.heap_set (o':=.map (es.modify i fun y=>{ y with key:=kv k,val:=u }) c) hb
    obtain⟨g1,g2⟩:=gk_ (w':={ v.w with heap:=v.w.heap.setIfInBounds b (.map (es.modify i fun y=>{ y with key:=kv k,val:=u }) c) }) h2 hi rfl rfl rfl (Nat.le_refl _) (by simp) hh.1 (fun k hk=>hh.2 k hk)
    exact hkk a _ h1 g1 (h3.trans g2) (bd_ (g2.le h2) h4)
theorem mq_ {es:Array MapEntry} {i:Nat} {e:MapEntry} {key val:Value} (he:es[i]? = some e) (hk:e.key=key) (hv:e.val=val):(es.modify i fun y=>{ y with key:=key,val:=val })=es:=by
 apply Array.ext_getElem?
 intro j
 rw[Array.getElem?_modify]
 by_cases hij:i=j
 ·subst hij;rw[if_pos rfl,he];simp only[Option.map_some];rw[← hk,← hv]
 rw[if_neg hij]
theorem jG_ {o:Op} {t kt et:TypeId} {x y z:Operand} {b c:Nat} (n:Nat) {es:Array MapEntry} {q:List K} {k:K} (hK:KeyT P kt kv) (ho:o=.insert t x y z∨o=.mapUpdate t x y z) (hu:∀ w,(underlying t).run P w=.ok (.map kt et) w)
    (hx:Fr.ev fr x=some (.map (some b))) (hy:Fr.ev fr y=some (kv k)) (hz:Fr.ev fr z=some (.bool true)) (hi:H[n]? = some (b,.map es c)) (hq:SetE kv es q)
    (hkk:∀ es' c',SetE kv es' (if k∈q then q else q++[k])→Ops P R N v0 H0 ops lo Kk fr (H.set n (b,.map es' c')) Γ):Ops P R N v0 H0 ops (⟨none,o,ty,ps,af,none⟩::lo) Kk fr H Γ:=by
  by_cases hk:k∈q
  · obtain⟨i,e,g1,g2,g3,g4,g5⟩:=hq.yes hK hk
    refine jE_ n hK ho hu hx hy hz hi g5 g2 g3 ?_
    rw[mq_ g2 g3 g4]
    exact hkk es c (by rw[if_pos hk];exact hq)
  · exact hv_ n ho hu hx hy hz hi (hK.ok k) (hq.no hK hk) (hkk _ _ (by rw[if_neg hk];exact hq.push hk c))
theorem bA_ {t kt et:TypeId} {x y:Operand} {mb:Nat} {e:TypeId} {sz:Nat} {l:List (K×D)} {k:K} {Hm F:Hp} (hK:KeyT P kt kv) (hm:aP_ kv cells e sz l mb Hm) (hu:∀ w,(underlying t).run P w=.ok (.map kt et) w) (hz:∀ w,(zeroValue et).run P w=.ok (.slice none 0 0) w)
    (hx:Fr.ev fr x=some (.map (some mb))) (hy:Fr.ev fr y=some (kv k)) (hH:H.Perm (Hm++F)) (hN:Nat.blt d N.n=true)
    (hk:∀ es c i st sv Hk Hr,MOpn kv cells e sz l mb k es c i st Hr→aE_ e sz sv (lat l k).length ((lat l k).flatMap cells) Hk→Ops P R N v0 H0 ops lo Kk ((d,.tuple #[sv,.int .i64 st])::fr) ((mb,.map es c)::(Hk++(Hr++F))) Γ) :
    Ops P R N v0 H0 ops (⟨some d,.mapEntry t x y,ty,ps,af,none⟩::lo) Kk fr H Γ:=by
  obtain⟨es,c,es',c',i,st,sv,Hk,Hr,p1,p2,p3,p4⟩:=hm.entry hK k
  refine dl_ rfl fun a v h1 h2 h3 h4=>?_
  have hp:H.Perm ((mb,.map es c)::(Hk++(Hr++F))):=hH.trans (by
    have:=p1.append_right F
    simpa [List.append_assoc] using this)
  have h2':=h2.perm hp
  have hb:=(h2'.own _ List.mem_cons_self).1
  have hg:=MapKept.run_getObj_map (P:=P) hb
  have he:(execOp a.eval ⟨some d,.mapEntry t x y,ty,ps,af,none⟩).run P v.w=.ok (.value (.tuple #[sv,.int .i64 st])) { v.w with heap:=v.w.heap.setIfInBounds mb (.map es' c') }:=by
    rcases p4 with⟨q1,rfl,rfl,rfl,rfl⟩|⟨j,z,q1,q2,q3,rfl,rfl,rfl⟩
    · have hs:=MapKept.run_setObj_map (P:=P) (.map (es.push ⟨kv k,.slice none 0 0,c⟩) (c+1)) hb
      simp[execOp,h1.ev hx,h1.ev hy,Instr.mapEntry,hu,hg,hK.ok _ _ _,q1 _,hz,hs,goInt]
    · have hs:=MapKept.run_setObj_map (P:=P) (.map es' c') hb
      simp[execOp,h1.ev hx,h1.ev hy,Instr.mapEntry,hu,hg,hK.ok _ _ _,q1 _,Instr.keyThatStays,q2,q3,hK.same,nm_ q2 q3,hs,goInt]
  unfold Oper.wp
  rw[he]
  have hh:=MapKept.heap_set (o':=.map es' c') hb
  obtain⟨g1,g2⟩:=gk_ (i:=0) (o':=.map es' c') (w':={ v.w with heap:=v.w.heap.setIfInBounds mb (.map es' c') }) h2' rfl rfl rfl rfl (Nat.le_refl _) (by simp) hh.1 (fun k hk=>hh.2 k hk)
  simp only[List.set_cons_zero]at g1 g2
  exact hk es' c' i st sv Hk Hr p3 p2 _ _ (h1.put hN) g1 (h3.trans (g2.permL hp.symm)) (bd_ (g2.le h2') h4)
theorem aB_ {t:TypeId} {x y z:Operand} {mb c i:Nat} {e:TypeId} {sz:Nat} {l:List (K×D)} {k:K} {dd:D} {es:Array MapEntry} {st:Int} {sv:Value} {Hk Hr F:Hp} (ho:MOpn kv cells e sz l mb k es c i st Hr) (hr:aE_ e sz sv (lat (l++[(k,dd)]) k).length ((lat (l++[(k,dd)]) k).flatMap cells) Hk)
    (hx:Fr.ev fr x=some (.map (some mb))) (hy:Fr.ev fr y=some (.int .i64 st)) (hz:Fr.ev fr z=some sv) (hH:H.Perm ((mb,.map es c)::(Hk++(Hr++F))))
    (hk:∀ H',aP_ kv cells e sz (l++[(k,dd)]) mb H'→Ops P R N v0 H0 ops lo Kk fr (H'++F) Γ):Ops P R N v0 H0 ops (⟨none,.entryStore t x y z,ty,ps,af,none⟩::lo) Kk fr H Γ:=by
  obtain⟨H',q1,q2⟩:=ho.close dd sv Hk hr
  refine dl_ rfl fun a v h1 h2 h3 h4=>?_
  have h2':=h2.perm hH
  have hb:=(h2'.own _ List.mem_cons_self).1
  have hg:=MapKept.run_getObj_map (P:=P) hb
  have hs:=MapKept.run_setObj_map (P:=P) (.map (es.modify i fun y=>{ y with val:=sv }) c) hb
  have he:(execOp a.eval ⟨none,.entryStore t x y z,ty,ps,af,none⟩).run P v.w=.ok .skip { v.w with heap:=v.w.heap.setIfInBounds mb (.map (es.modify i fun y=>{ y with val:=sv }) c) }:=by
    have hf:=ho.find
    simp[execOp,h1.ev hx,h1.ev hy,h1.ev hz,Instr.entryStore,hg,hs,asInt,asIntOf,hf]
  unfold Oper.wp
  rw[he]
  have hh:=MapKept.heap_set (o':=.map (es.modify i fun y=>{ y with val:=sv }) c) hb
  obtain⟨g1,g2⟩:=gk_ (i:=0) (o':=.map (es.modify i fun y=>{ y with val:=sv }) c) (w':={ v.w with heap:=v.w.heap.setIfInBounds mb (.map (es.modify i fun y=>{ y with val:=sv }) c) }) h2' rfl rfl rfl rfl (Nat.le_refl _) (by simp) hh.1 (fun k hk=>hh.2 k hk)
  simp only[List.set_cons_zero]at g1 g2
  have pp:((mb,Obj.map (es.modify i fun y=>{ y with val:=sv }) c)::(Hk++(Hr++F))).Perm (H'++F):=by
    have:=(q2.append_right F).symm
    simpa [List.append_assoc] using this
  exact hk H' q1 _ _ h1 (g1.perm pp) (h3.trans ((g2.permL hH.symm).subR fun b hb=>((pp.map Prod.fst).mem_iff).2 hb)) (bd_ (g2.le h2') h4)
def MOp (P:Program) (kt:TypeId) (kv:K→Value) (cells:D→List Value) (e:TypeId) (sz:Nat) (l:List (K×D)) (mb:Nat) (k:K) (es:Array MapEntry) (c:Nat) (sv:Value) (Hr:Hp):Prop :=
  (dA_ P kt (kv k) es.toList none∧sv=.slice none 0 0∧∀ d sv' Hk',aE_ e sz sv' (lat (l++[(k,d)]) k).length ((lat (l++[(k,d)]) k).flatMap cells) Hk'→∃ H',aP_ kv cells e sz (l++[(k,d)]) mb H'∧H'.Perm ((mb,.map (es.push ⟨kv k,sv',c⟩) (c+1))::(Hk'++Hr))) ∨
  (∃ i x,dA_ P kt (kv k) es.toList (some (i,sv))∧es[i]? = some x∧x.key=kv k∧x.val=sv∧∀ d sv' Hk',aE_ e sz sv' (lat (l++[(k,d)]) k).length ((lat (l++[(k,d)]) k).flatMap cells) Hk'→∃ H',aP_ kv cells e sz (l++[(k,d)]) mb H'∧H'.Perm ((mb,.map (es.modify i fun y=>{ y with key:=kv k,val:=sv' }) c)::(Hk'++Hr)))
theorem hS_ {k0:Act→World→Prop} {kt:TypeId} {mb:Nat} {e:TypeId} {sz:Nat} {l:List (K×D)} {Hm F:Hp} (hK:KeyT P kt kv) (k:K) (hm:aP_ kv cells e sz l mb Hm) (hH:H.Perm (Hm++F))
    (h:∀ es c sv Hk Hr,aE_ e sz sv (lat l k).length ((lat l k).flatMap cells) Hk→MOp P kt kv cells e sz l mb k es c sv Hr→Ok N v0 H0 k0 fr ((mb,.map es c)::(Hk++(Hr++F))) Γ):Ok N v0 H0 k0 fr H Γ:=by
  obtain⟨es,c,sv,Hk,Hr,p1,p2,p3⟩:=hm.open hK k
  refine w_ (hH.trans (by
    have:=p1.append_right F
    simpa [List.append_assoc] using this)) (h es c sv Hk Hr p2 p3)
theorem cF_ {t kt et:TypeId} {x y:Operand} {mb c:Nat} {e:TypeId} {sz:Nat} {l:List (K×D)} {k:K} {es:Array MapEntry} {sv:Value} {Hr:Hp} (hK:KeyT P kt kv) (ho:MOp P kt kv cells e sz l mb k es c sv Hr) (hu:∀ w,(underlying t).run P w=.ok (.map kt et) w) (hz:∀ w,(zeroValue et).run P w=.ok (.slice none 0 0) w)
    (hx:Fr.ev fr x=some (.map (some mb))) (hy:Fr.ev fr y=some (kv k)) (i:Nat) (hi:H[i]? = some (mb,.map es c)):Yld P N fr H Γ (.lookup t x y false) ty sv:=by
  have hm:∀ v,v.sat H→aj_ Γ v→v.w.heap[mb]? = some (.map es c):=fun v h _=>(h.own _ (List.mem_of_getElem? hi)).1
  rcases ho with⟨h1,rfl,_⟩|⟨i,z,h1,_⟩
  · exact hF_ hu hz hx hy hm (hK.ok k) h1
  · exact jk_ hu hx hy hm (hK.ok k) h1
theorem cS_ {o:Op} {t kt et:TypeId} {x y z:Operand} {mb c:Nat} {e:TypeId} {sz:Nat} {l:List (K×D)} {k:K} {dd:D} {es:Array MapEntry} {sv sv':Value} {Hk Hr F:Hp} (hK:KeyT P kt kv) (ho:MOp P kt kv cells e sz l mb k es c sv Hr) (hr:aE_ e sz sv' (lat (l++[(k,dd)]) k).length ((lat (l++[(k,dd)]) k).flatMap cells) Hk)
    (hop:o=.insert t x y z∨o=.mapUpdate t x y z) (hu:∀ w,(underlying t).run P w=.ok (.map kt et) w) (hx:Fr.ev fr x=some (.map (some mb))) (hy:Fr.ev fr y=some (kv k)) (hz:Fr.ev fr z=some sv') (hH:H.Perm ((mb,.map es c)::(Hk++(Hr++F))))
    (hk:∀ H',aP_ kv cells e sz (l++[(k,dd)]) mb H'→Ops P R N v0 H0 ops lo Kk fr (H'++F) Γ):Ops P R N v0 H0 ops (⟨none,o,ty,ps,af,none⟩::lo) Kk fr H Γ:=by
  refine w_ hH ?_
  rcases ho with⟨h1,_,h2⟩|⟨i,q,h1,h3,h4,_,h2⟩
  · obtain⟨H',q1,q2⟩:=h2 dd sv' Hk hr
    refine hv_ 0 hop hu hx hy hz rfl (hK.ok k) h1 ?_
    simp only[List.set_cons_zero]
    exact w_ (by have:=(q2.append_right F).symm;simpa [List.append_assoc] using this) (hk H' q1)
  · obtain⟨H',q1,q2⟩:=h2 dd sv' Hk hr
    refine jE_ 0 hK hop hu hx hy hz rfl h1 h3 h4 ?_
    simp only[List.set_cons_zero]
    exact w_ (by have:=(q2.append_right F).symm;simpa [List.append_assoc] using this) (hk H' q1)
theorem aV_ {b:Nat×Obj} {O Q F:Hp} (h:H.Perm ((b::(O++Q))++F)):H.Perm (b::(O++(Q++F))):=by simpa [List.append_assoc] using h
theorem an_ {b:Nat×Obj} {F:Hp} (h:H.Perm ([b]++F)):H.Perm (b::F):=h
theorem p_ {b:Nat×Obj} {F F':Hp} (h:H.Perm ([b]++F)) (h2:F.Perm F'):H.Perm (b::F'):=List.Perm.trans h (h2.cons b)
theorem or_ {fn:Func} {Rr:Ending→World→Prop} {c:Code} (h:Run P (bodyPost P fn Rr) N v0 H0 c [] fr H Γ):Run P (bodyPost P fn Rr) N v0 H0 (.scope c) [] fr H Γ :=
  fun a v h1 h2 h3 h4=>wp_scope_straight (wp_mono (h a v h1 h2 h3 h4) fun e a w hq=>by cases e<;>exact hq)
theorem os_ {c:Nat} (h:Fin P R N v0 H0 Kk fr H Γ):Run P R N v0 H0 (.label c) Kk fr H Γ :=
  fun a v h1 h2 h3 h4=>wp_label (h a v h1 h2 h3 h4)
end ops
end Go.Sx
namespace Go.Sx
open Go Go.Vs
structure IntE {K:Type} (kv:K→Value) (es:Array MapEntry) (ks:List K) (vs:List Int):Prop where
  keys:es.toList.map (·.key)=ks.map kv
  vals:es.toList.map (·.val)=vs.map fun n=>Value.int .i64 n
  nd:ks.Nodup
section
variable {P:Program} {K:Type} [DecidableEq K] {kv:K→Value} {kt:TypeId} {es:Array MapEntry} {ks:List K} {vs:List Int}
theorem IntE.nil:IntE kv #[] ([]:List K) []:=⟨rfl,rfl,List.nodup_nil⟩
theorem IntE.len (h:IntE kv es ks vs):vs.length=ks.length:=by
  have h1:=congrArg List.length h.keys
  have h2:=congrArg List.length h.vals
  simp only[List.length_map]at h1 h2
  omega
theorem IntE.yes (hK:KeyT P kt kv) (h:IntE kv es ks vs) {k:K} (hk:k∈ks):∃ (i:Nat) (n:Int),ks[i]? = some k∧vs[i]? = some n∧dA_ P kt (kv k) es.toList (some (i,.int .i64 n)):=by
  obtain⟨i,hi⟩:=List.getElem?_of_mem hk
  have hlt:i<es.toList.length:=by
    have:=(List.getElem?_eq_some_iff.1 hi).1
    have e:=congrArg List.length h.keys
    simp only[List.length_map]at e
    omega
  have hx:=List.getElem?_eq_getElem hlt
  have hv:=congrArg (fun l=>l[i]?) h.vals
  simp only[List.getElem?_map,hx,Option.map_some]at hv
  cases hn:vs[i]? with
  | none=>rw[hn]at hv;simp at hv
  | some n =>
    rw[hn]at hv
    simp only[Option.map_some,Option.some.injEq]at hv
    refine⟨i,n,hi,hn,?_⟩
    have:=hK.sf k es.toList ks i _ h.keys h.nd hi hx
    rwa [hv]at this
theorem IntE.no (hK:KeyT P kt kv) (h:IntE kv es ks vs) {k:K} (hk:k ∉ ks):dA_ P kt (kv k) es.toList none:=hK.nf k es.toList ks h.keys hk
theorem IntE.push (h:IntE kv es ks vs) {k:K} (hk:k ∉ ks) (n:Int) (c:Nat):IntE kv (es.push ⟨kv k,.int .i64 n,c⟩) (ks++[k]) (vs++[n]):=by
  refine⟨by simp[h.keys],by simp[h.vals],?_⟩
  rw[List.nodup_append];exact⟨h.nd,by simp,fun a ha b hb e=>by simp at hb;subst hb;subst e;exact hk ha⟩
end
section ops
variable {P:Program} {N:Nf} {v0:Vw} {H0:Hp} {R:Exit→Act→World→Prop} {Kk:List Kt} {fr:Fr} {H:Hp} {Γ:List Fct}
variable {ops:Array Oper} {lo:List Oper} {d:Nat} {ty:TypeId} {ps:String} {af:Array Edge}
variable {K:Type} [DecidableEq K] {kv:K→Value}
theorem eu_ {t kt et:TypeId} {x y:Operand} {mb c:Nat} {es:Array MapEntry} {ks:List K} {vs:List Int} {k:K} {F:Hp} (hK:KeyT P kt kv) (hu:∀ w,(underlying t).run P w=.ok (.map kt et) w) (hz:∀ w,(zeroValue et).run P w=.ok (.int .i64 0) w) (hx:Fr.ev fr x=some (.map (some mb))) (hy:Fr.ev fr y=some (kv k))
    (hE:IntE kv es ks vs) (hp:H.Perm ([(mb,.map es c)]++F)) (hN:Nat.blt d N.n=true)
    (hk:∀ (r:Bool) (n:Int),decide (k∈ks)=r→(r=true→∃ i:Nat,ks[i]? = some k∧vs[i]? = some n)→Ops P R N v0 H0 ops lo Kk ((d,.tuple #[.int .i64 n,.bool r])::fr) H Γ):Ops P R N v0 H0 ops (⟨some d,.lookup t x y true,ty,ps,af,none⟩::lo) Kk fr H Γ:=by
  have hm:∀ v:Vw,v.sat H→v.w.heap[mb]? = some (.map es c):=fun v h=>(h.own _ (hp.mem_iff.2 (List.mem_append_left _ (List.mem_singleton.2 rfl)))).1
  by_cases hkk:k∈ks
  · obtain⟨i,n,h1,h2,h3⟩:=hE.yes hK hkk
    refine i_ (x:=.tuple #[.int .i64 n,.bool true]) (fun a v g1 g2 g4 _ _ _=>?_) hN (hk true n (decide_eq_true hkk) fun _=>⟨i,h1,h2⟩)
    have hb:=MapKept.run_getObj_map (P:=P) (hm v g2)
    simp[execOp,g1.ev hx,g1.ev hy,Instr.lookup,hu,hb,hK.ok _ _ _,h3 _]
  · refine i_ (x:=.tuple #[.int .i64 0,.bool false]) (fun a v g1 g2 g4 _ _ _=>?_) hN (hk false 0 (decide_eq_false hkk) fun q=>by cases q)
    have hb:=MapKept.run_getObj_map (P:=P) (hm v g2)
    simp[execOp,g1.ev hx,g1.ev hy,Instr.lookup,hu,hb,hK.ok _ _ _,hE.no hK hkk _,hz]
theorem jH_ {o:Op} {t kt et:TypeId} {x y z:Operand} {mb c:Nat} (j:Nat) {es:Array MapEntry} {ks:List K} {vs:List Int} {k:K} {n:Int} (hK:KeyT P kt kv) (ho:o=.insert t x y z∨o=.mapUpdate t x y z) (hu:∀ w,(underlying t).run P w=.ok (.map kt et) w)
    (hx:Fr.ev fr x=some (.map (some mb))) (hy:Fr.ev fr y=some (kv k)) (hz:Fr.ev fr z=some (.int .i64 n)) (hi:H[j]? = some (mb,.map es c)) (hE:IntE kv es ks vs) (hk:k ∉ ks)
    (hkk:∀ es' c',IntE kv es' (ks++[k]) (vs++[n])→Ops P R N v0 H0 ops lo Kk fr (H.set j (mb,.map es' c')) Γ):Ops P R N v0 H0 ops (⟨none,o,ty,ps,af,none⟩::lo) Kk fr H Γ :=
  hv_ j ho hu hx hy hz hi (hK.ok k) (hE.no hK hk) (hkk _ _ (hE.push hk n c))
end ops
def iot (n:Nat):List Int:=(List.range n).map Int.ofNat
theorem sa_ {n i:Nat} {m:Int} (h:(iot n)[i]? = some m):m=i:=by
  unfold iot at h
  rw[List.getElem?_map]at h
  cases hq:(List.range n)[i]? with
  | none=>rw[hq]at h;simp at h
  | some j =>
    rw[hq]at h
    obtain⟨h1,h2⟩:=List.getElem?_eq_some_iff.1 hq
    simp at h2 h
    omega
theorem mz_ (n:Nat):iot (n+1)=iot n++[(n:Int)]:=by simp[iot,List.range_succ]
end Go.Sx
