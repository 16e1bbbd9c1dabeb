/-
  Lemmas for the law ModuleTypes (no condition).
-/
import Derived.Test.YthmjeabeoodghaaGreatDoorQModuleTypes3
import Derived.Test.YthmjeabeoodghaaGreatDoorProg
set_option linter.unusedVariables false
set_option linter.unusedSimpArgs false
set_option linter.unusedSectionVars false
set_option maxHeartbeats 1000000
namespace Go.Proofs.YthmjeabeoodghaaGreatDoor
open Go Go.Sx Go.Proofs Tryz
attribute [local irreducible] Code.wp wpList wpAnyH
open Go.Vs
theorem AZ_ {σ τ:Type} {l:Nat} {H:σ→Hp} {N:τ→Hp} {stp:Con→σ→σ ⊕ τ} {E:List Fct} {good:Con→Prop} (B:∀ c p,good c→p∈c.parts→good p)
    (T:∀ s x,x.ok→good x→jr_ prog l x.val (H s) (x.memF::E) (fun _:Unit=>.bool (stp x s).isLeft) (fun _=>pb_ H N (stp x s)) (fun _=>[])) :
    ∀ (m:Nat) (c:Con),c.sz≤m→c.ok→good c→∀ (s:σ) r,Con.fold stp c s=r →
    Tri prog 120 #[c.val,.func (.yield l) #[] #[]] (H s) (c.memF::E) (fun _:Unit=>.bool r.isLeft) (fun _=>pb_ H N r) (fun _=>[]):=by
  intro m
  induction m with
  | zero=>intro c h;have:=c.sz_pos;omega
  | succ m ih =>
    intro c hm e R s r Q;obtain⟨k,nm,lo,hi,ad,cap,ps⟩:=c;have M:=Con.ok_len e;simp only[Con.parts,Con.cap]at M;have J:∀ p∈ps,good p:=fun p G=>B _ p R G
    refine j_ func120 rfl rfl ntmps120 rfl fun U=>?_;refine Zz 2 ?_;refine K_ rfl rfl fun y=>Zz 5 ?_
    rcases hfc:stp (.mk k nm lo hi ad cap ps) s with C|K
    · refine hu_ (ι:=Unit) (fun _=>[(1,.func (.yield l) #[] #[]),(2,zp_ y 0),(10,.bool false)]) (fun _=>(y,.cells (Con.mk k nm lo hi ad cap ps).cells.toArray 28 (0,0))::H C) (fun _=>[(Con.mk k nm lo hi ad cap ps).memF]++E) ?_ fun _=>?_
      · refine av_ ?_;refine I_ aM_ (S_ rfl) rfl rfl ?_;refine I_ aM_ (cP_ (c:=.mk k nm lo hi ad cap ps) 0 ac_ n_ rfl rfl) rfl rfl ?_;refine gC_ (T s _ e R) rfl rfl (@List.perm_append_comm _ [_] _) (fun v _ h=>h) rfl fun _=>?_;rw[hfc];refine I_ aM_ (aR_ rfl) rfl rfl ?_;refine bh_ ?_;refine cg_ rfl ?_;exact dB_ () zl (F:=[]) zaR_ zh
      · refine Zz 14 ?_;refine bt_ [(1,.func (.yield l) #[] #[]),(12,.slice ad ps.length cap),(13,.int .i64 (ps.length:Int)),(14,.int .i64 ((0:Nat):Int))] zl ?_;refine bO_ (ι:={q:Nat×σ // q.1≤ps.length∧Con.fold.folds stp (ps.take q.1) C=.inl q.2}) (fun i=>[(1,.func (.yield l) #[] #[]),(12,.slice ad ps.length cap),(13,.int .i64 (ps.length:Int)),(14,.int .i64 (i.1.1:Int))]) (fun i=>_::H i.1.2) (fun _=>_) (fun i=>ps.length - i.1.1) ⟨(0,C),by simp[Con.fold.folds]⟩ ?_;rintro ⟨⟨i,A⟩,P⟩;refine bt_ [(1,.func (.yield l) #[] #[]),(12,.slice ad ps.length cap),(13,.int .i64 (ps.length:Int)),(14,.int .i64 (i:Int))] zl ?_;refine Zj 2 (fun I=>?_) fun I=>?_
        · refine Zz 12 ?_;obtain rfl:r=.inl A:=by rw[← Q,Con.fold_eq,hfc];exact Con.folds_yes (show ps.length≤i by omega) P.2
          exact aa_ results120 () rfl (@List.perm_append_comm _ [_] _) zt
        · have L:i<ps.length:=by omega
          obtain⟨p,G⟩:∃ p,ps[i]? = some p:=⟨_,List.getElem?_eq_getElem L⟩;have d:p∈ps:=List.mem_of_getElem? G;refine Zz 10 ?_;refine e_ (U_ ab_ n_ rfl rfl (fun v _ h=>Con.row_addr (c:=.mk k nm lo hi ad cap ps) h.1 G) zaa_ zaa_) rfl (e_ (al_ (us:=p.cells) ac_ n_ rfl (fun v _ h=>((Con.mem_iff (.mk k nm lo hi ad cap ps) v).1 h.1).1) p.cells_len (Con.part_cells (c:=.mk k nm lo hi ad cap ps) (i:=i) G)) rfl (y_ aH_ rfl fun V=>fz_ 0 n_ rfl rfl rfl rfl (Zz 3 ?_)));rcases hfp:Con.fold stp p A with O|S
          · refine ae_ (e_ (cP_ 0 ac_ n_ rfl rfl) rfl (Zz 1 ?_));refine f_ (ih p zbM_ (Con.ok_part (c:=.mk k nm lo hi ad cap ps) e d) (J p d) A _ hfp) rfl (@List.perm_append_comm _ [_,_] _) (fun v _ h=>⟨Con.mem_part (c:=.mk k nm lo hi ad cap ps) h.1 d,h.2⟩) rfl fun _=>?_;refine A_ (@List.perm_append_comm _ _ [_,_]) (e_ (aR_ rfl) rfl (Zz 10 ?_));exact x_ ⟨(i+1,O),L,Con.folds_step G P.2 hfp⟩ zap_ zl (F:=[_]) (@List.perm_append_comm _ [_] _) zh
          · refine ae_ (e_ (cP_ 0 ac_ n_ rfl rfl) rfl (Zz 1 ?_));refine f_ (ih p zbM_ (Con.ok_part (c:=.mk k nm lo hi ad cap ps) e d) (J p d) A _ hfp) rfl (@List.perm_append_comm _ [_,_] _) (fun v _ h=>⟨Con.mem_part (c:=.mk k nm lo hi ad cap ps) h.1 d,h.2⟩) rfl fun _=>?_;refine A_ (@List.perm_append_comm _ _ [_,_]) (e_ (aR_ rfl) rfl (Zz 9 ?_));obtain rfl:r=.inr S:=by rw[← Q,Con.fold_eq,hfc];exact Con.folds_no G P.2 hfp
            exact aa_ results120 () rfl (@List.perm_append_comm _ [_,_] _) zt
    · refine hu_ (ι:=Unit) (fun _=>[(1,.func (.yield l) #[] #[]),(2,zp_ y 0),(10,.bool true)]) (fun _=>(y,.cells (Con.mk k nm lo hi ad cap ps).cells.toArray 28 (0,0))::N K) (fun _=>[(Con.mk k nm lo hi ad cap ps).memF]++E) ?_ fun _=>?_
      · refine av_ ?_;refine I_ aM_ (S_ rfl) rfl rfl ?_;refine I_ aM_ (cP_ (c:=.mk k nm lo hi ad cap ps) 0 ac_ n_ rfl rfl) rfl rfl ?_;refine gC_ (T s _ e R) rfl rfl (@List.perm_append_comm _ [_] _) (fun v _ h=>h) rfl fun _=>?_;rw[hfc];refine I_ aM_ (aR_ rfl) rfl rfl ?_;refine bh_ ?_;refine cg_ rfl ?_;exact dB_ () zl (F:=[]) zaR_ zh
      · refine Zz 8 ?_;obtain rfl:r=.inr K:=by rw[← Q,Con.fold_eq,hfc]
        exact aa_ results120 () rfl (@List.perm_append_comm _ [_] _) zt
theorem um_ (c:Con) :
    Tri prog 55 #[c.val] [] [] (fun b:Nat=>.func (.func 119) #[] #[zp_ b 0]) (fun b=>[(b,.cells c.cells.toArray 28 (0,0))]) (fun _=>[]):=by
  refine j_ func55 rfl rfl ntmps55 rfl fun e=>?_;refine Zz 2 ?_;refine K_ rfl rfl fun d=>Zz 5 ?_
  refine e_ (bm_ rfl rfl) rfl (Zz 4 ?_);exact aa_ results55 d rfl (F:=[]) (.refl _) zt
theorem rd_ {σ τ:Type} {l b:Nat} {e:σ→Hp} {y:τ→Hp} {stp:Con→σ→σ ⊕ τ} {E:List Fct} {good:Con→Prop} (d:∀ c p,good c→p∈c.parts→good p)
    (A:∀ s x,x.ok→good x→jr_ prog l x.val (e s) (x.memF::E) (fun _:Unit=>.bool (stp x s).isLeft) (fun _=>pb_ e y (stp x s)) (fun _=>[]))
    (c:Con) (m:c.ok) (B:good c) (s:σ) :
    Tri prog 119 #[.func (.yield l) #[] #[],zp_ b 0] ((b,.cells c.cells.toArray 28 (0,0))::e s) (c.memF::E) (fun _:Unit=>.tuple #[]) (fun _=>(b,.cells c.cells.toArray 28 (0,0))::pb_ e y (Con.fold stp c s)) (fun _=>[]):=by
  refine j_ func119 rfl rfl ntmps119 rfl fun C=>?_;refine ae_ (e_ (cP_ (c:=c) 0 ac_ n_ rfl rfl) rfl (Zz 1 ?_));refine f_ (AZ_ d A _ c (Nat.le_refl _) m B s _ rfl) rfl (@List.perm_append_comm _ [_] _) (fun v _ h=>h) rfl fun _=>Zz 2 ?_
  exact ck_ results119 () rfl (F:=[]) zaR_ zt
theorem nP_ {G:Prop} (h:G:=by
 exact sL_ (G:=[_,_,_]) () (fun a v A y=>by rw[← N];exact oz_ 1 results97 isAgg35 rfl rfl a v A y) (gf_ (i:=3) rfl) ⟨_,.refl _⟩ rfl):G:=h
theorem fg_ (c:Con) (I:c.ok):Tri prog 97 #[c.val] [] [c.memF,bN_] (fun _:Unit=>.int .i64 c.check) (fun _=>[]) (fun _=>[]):=by
 obtain⟨k,nm,lo,hi,ad,cap,ps⟩:=c;refine em_ func97 rfl rfl ntmps97 rfl fun H=>?_;refine Zz 2 ?_;refine K_ rfl rfl fun U=>y_ zeroValue35 rfl fun d=>Zz 4 ?_
 refine y_ bA_ rfl fun O=>o_ 0 P_ rfl rfl rfl rfl rfl rfl (Zz 6 ?_)
 refine oJ_ 0 (fits_c _ (.mk k nm lo hi ad cap ps) (Nat.le_refl _) I 0 0 O zaa_ zaa_ _ rfl) rfl rfl zf rfl fun R S=>e_ (aR_ rfl) rfl (Zz 2 ?_)
 cases R
 ·refine Zz 3 ?_;refine o_ 1 sizeOf35 rfl rfl rfl rfl rfl rfl (Zz 3 ?_);exact retM () (fun a v A y _=>by rw[oz_ 1 results97 isAgg35 rfl rfl a v A y];simp[Con.check, *]) (.refl _) zt
 refine Zz 7 ?_;refine f_ (um_ (.mk k nm lo hi ad cap ps)) rfl (.refl _) zt rfl fun b=>Zz 3 ?_
 refine bt_ [(2,zp_ d 0),(10,.func (.func 119) #[] #[zp_ b 0])] zl ?_;refine dk_ (H':=[_,_]) (F:=[_,_]) (.cons _ (.swap _ _ _)) zh ?_;refine qd_ (α:={c:Con // c.ok}) (xv:=fun x=>x.1.val) (good:=fun _=>True) (stp:=fun x=>Con.chk x.1) (Γx:=fun x=>[x.1.memF,bN_]) (Γi:=[Con.memF (.mk k nm lo hi ad cap ps),bN_]) (Hj:=fun _:Unit=>[(d,.cells #[.int .i64 0] 35 (0,0))]) (Hx:=fun t:Int=>[(d,.cells #[.int .i64 t] 35 (0,0))]) (Hc:=[(b,.cells (Con.mk k nm lo hi ad cap ps).cells.toArray 28 (0,0))]) (caps:=[zp_ b 0]) () (Con.fold Con.chk (.mk k nm lo hi ad cap ps) ()) rfl (.refl _) (fun v _ h=>h) ?_ ?_ ?_ ?_
 ·rintro l D Y X Q K V J C s ⟨x,P⟩ -
  refine kf_ (ι:=Nat) (Hj:=fun _:Unit=>[(d,.cells #[.int .i64 0] 35 (0,0))]) (Hx:=fun t:Int=>[(d,.cells #[.int .i64 t] 35 (0,0))]) (s:=s) (res:=Con.chk x s) (Γ:=[x.memF,bN_]) (fun m=>[(2,zp_ d 0),(4,zp_ m 0)]) (fun m=>[(m,.cells x.cells.toArray 28 (0,0)),(d,.cells #[.int .i64 0] 35 (0,0))]) X Q K V rfl ?_ ?_
  ·intro n H L W
   rw[J];refine av_ ?_;refine oK_ (J_ _) aH_ rfl fun m=>?_;refine te_ (J_ _) 0 n_ rfl rfl rfl rfl ?_;refine bh_ ?_;refine cg_ rfl ?_;exact dB_ m zl (F:=[]) zaA_ zh
  intro n H L W m;rw[C];refine dp_ ?_;refine cw_ ?_;refine av_ ?_;refine I_ (J_ _) (cP_ 0 ac_ n_ rfl rfl) rfl rfl ?_;refine xD_ (pN_ x P) rfl (.refl _) zf rfl fun _=>?_;refine I_ (J_ _) (af_ rfl) rfl rfl ?_;refine bh_ ?_;refine bF_ rfl ?_;refine cw_ ?_;refine av_ ?_;refine I_ (J_ _) (S_ rfl) rfl rfl ?_;refine qr_ (J_ _) (cl_ rfl rfl) rfl rfl fun M e=>?_;refine bh_ ?_;refine bF_ rfl ?_;cases M
  ·replace e:=er_ e
   refine mU_ rfl ?_;refine lF_ ?_;refine cg_ rfl ?_;exact fu_ () (by simp[Con.chk, *]) (G:=[_]) (@List.perm_append_comm _ [_] _)
  replace e:=eo_ e;refine fN_ rfl ?_;refine cw_ ?_;refine av_ ?_;refine I_ (J_ _) (S_ rfl) rfl rfl ?_;refine ef_ (J_ _) 1 sizeOf35 rfl rfl rfl rfl rfl rfl ?_;refine bh_ ?_;refine bF_ rfl ?_;refine hv_ ?_;exact xd_ x.fieldErr (by simp[Con.chk, *]) (G:=[_]) (@List.perm_append_comm _ [_] _)
 ·intro l Z Gx T
  exact rd_ (E:=[bN_]) (good:=fun _=>True) (fun _ _ _ _=>trivial) (fun s x P _=>T s ⟨x,P⟩ trivial) _ I trivial ()
 ·intro s B D l r
  rw[Con.fold_chk _ _ (Nat.le_refl _)]at B;refine bF_ rfl ?_;refine cw_ ?_;refine av_ ?_;refine ef_ aM_ 1 sizeOf35 rfl rfl rfl rfl rfl rfl ?_;refine bh_ ?_;refine bF_ rfl ?_;refine hv_ ?_;have N:(0:Int)=(Con.mk k nm lo hi ad cap ps).check:=by unfold Con.check;rw[if_pos zai_];split at B;(rename_i h;exact h.symm);cases B
  exact nP_
 intro t B D l r;rw[Con.fold_chk _ _ (Nat.le_refl _)]at B;have N:t=(Con.mk k nm lo hi ad cap ps).check:=by unfold Con.check;rw[if_pos zai_];split at B;cases B;injection B with B;exact B.symm
 exact nP_
theorem kb_ {G:Prop} (h:G:=by
 refine Zz 6 ?_;exact met ⟨rfl,rfl,rfl,(s_ rfl (jaf d)),trivial⟩):G:=h
theorem qC_ (c:Con):Fn0 prog 154 #[c.val] (.bool c.empty):=by
 obtain⟨k,nm,lo,hi,ad,cap,ps⟩:=c;refine j_ func154 rfl rfl ntmps154 rfl fun H=>?_;refine Zz 2 ?_;refine K_ rfl rfl fun y=>Zz 7 ?_
 refine E_ (aT_ rfl rfl) rfl fun G h=>Zz 1 ?_
 refine aB_ 4 ((k==0)&&(nm==[])) (fun r=>[(0,.agg (Con.cells (Con.mk k nm lo hi ad cap ps)).toArray),(1,zp_ y 0),(2,.bool false),(10,.bool r)]) ?_ fun F v=>?_
 ·cases G
  ·have d:=h
   replace h:=znb h;exact kb_
  have d:=h;replace h:=zeb h;refine Zz 5 ?_;refine E_ (dv_ rfl rfl) rfl fun B m=>Zz 3 ?_
  exact met ⟨rfl,rfl,rfl,(s_ rfl (jat d m)),trivial⟩
 refine Zz 1 ?_;refine aB_ 4 ((((k==0)&&(nm==[])))&&(lo==0)) (fun r=>[(0,.agg (Con.cells (Con.mk k nm lo hi ad cap ps)).toArray),(1,zp_ y 0),(2,.bool false),(15,.bool r)]) ?_ fun B m=>?_
 ·cases F
  ·have d:=v
   simp at v
   exact kb_
  have d:=v;simp at v
  refine Zz 5 ?_;refine E_ (aT_ rfl rfl) rfl fun A e=>Zz 3 ?_
  exact met ⟨rfl,rfl,rfl,(s_ rfl (jat d e)),trivial⟩
 refine Zz 1 ?_;refine aB_ 4 ((((((k==0)&&(nm==[])))&&(lo==0)))&&(hi==0)) (fun r=>[(0,.agg (Con.cells (Con.mk k nm lo hi ad cap ps)).toArray),(1,zp_ y 0),(2,.bool false),(20,.bool r)]) ?_ fun A e=>?_
 ·cases B
  ·have d:=m
   simp at m
   exact kb_
  have d:=m;simp at m
  refine Zz 5 ?_;refine E_ (aT_ rfl rfl) rfl fun E x=>Zz 3 ?_
  exact met ⟨rfl,rfl,rfl,(s_ rfl (jat d x)),trivial⟩
 refine Zz 1 ?_;refine aB_ 5 ((((((((k==0)&&(nm==[])))&&(lo==0)))&&(hi==0)))&&((ps.length:Int)==0)) (fun r=>[(0,.agg (Con.cells (Con.mk k nm lo hi ad cap ps)).toArray),(2,.bool false),(26,.bool r)]) ?_ fun E x=>?_
 ·cases A
  ·have d:=e
   simp at e
   refine Zz 7 ?_;exact met ⟨rfl,rfl,(s_ rfl (jaf d)),trivial⟩
  have d:=e;simp at e
  refine Zz 7 ?_;refine E_ (aT_ rfl rfl) rfl fun I C=>Zz 3 ?_
  exact met ⟨rfl,rfl,(s_ rfl (jat d C)),trivial⟩
 refine Zz 4 ?_;exact aa_ results154 () (s_ rfl x.symm) (.refl _) zt
theorem rG_ {g:FuncId} {pred:Con→Bool} (c:Con) (B:c.ok) (G:∀ p∈c.parts,Tri prog g #[p.val] [] [p.memF] (fun _:Unit=>.bool (pred p)) (fun _=>[]) (fun _=>[])) :
    Tri prog 221 #[.slice c.ad c.parts.length c.cap,.func (.func g) #[] #[]] [] [c.memF] (fun r:{r:Int // decide (0≤r)=c.parts.any pred}=>.int .i64 r.1) (fun _=>[]) (fun _=>[]):=by
  obtain⟨k,nm,lo,hi,ad,cap,ps⟩:=c;have e:=Con.ok_len B;simp only[Con.parts,Con.cap]at e;refine j_ func221 rfl rfl ntmps221 rfl fun F=>?_;refine Zz 14 ?_;refine bt_ [(0,.slice ad ps.length cap),(1,.func (.func g) #[] #[]),(7,.int .i64 (ps.length:Int)),(8,.int .i64 ((0:Nat):Int))] zl ?_;refine bO_ (ι:={q:Nat // q≤ps.length∧(ps.take q).any pred=false}) (fun i=>[(0,.slice ad ps.length cap),(1,.func (.func g) #[] #[]),(7,.int .i64 (ps.length:Int)),(8,.int .i64 (i.1:Int))]) (fun _=>_) (fun _=>_) (fun i=>ps.length - i.1) ⟨0,by simp⟩ ?_;rintro ⟨i,C⟩;refine bt_ [(0,.slice ad ps.length cap),(1,.func (.func g) #[] #[]),(7,.int .i64 (ps.length:Int)),(8,.int .i64 (i:Int))] zl ?_;refine Zj 2 (fun m=>?_) fun m=>?_
  · refine Zz 12 ?_;exact aa_ results221 ⟨-1,by have:=C.2;rw[List.take_of_length_le zaa_]at this;show _=ps.any pred;rw[this];rfl⟩ rfl (.refl _) zt
  · have x:i<ps.length:=by omega
    obtain⟨p,y⟩:∃ p,ps[i]? = some p:=⟨_,List.getElem?_eq_getElem x⟩;have d:p∈ps:=List.mem_of_getElem? y;refine Zz 19 ?_;refine e_ (U_ ab_ n_ rfl rfl (fun v _ h=>aK_ (n:=5) Con.cells_len zad_ (((Con.mem_iff (.mk k nm lo hi ad cap ps) v).1 h.1).1) y) zaa_ zae_) rfl ?_;refine e_ (al_ (ad:=ad) (us:=p.cells) ac_ n_ rfl (fun v _ h=>((Con.mem_iff (.mk k nm lo hi ad cap ps) v).1 h.1).1) (Con.cells_len _) (z_ Con.cells_len y)) rfl (bS_ (G p d) rfl rfl (.refl _) (fun v _ h=>by exact⟨Con.mem_part (c:=(.mk k nm lo hi ad cap ps)) h.1 d,trivial⟩) rfl fun A E=>Zz 2 ?_);cases A
    · refine Zz 8 ?_;exact x_ ⟨i+1,x,by rw[Con.take_snoc y,List.any_append,C.2];simp[*]⟩ zap_ zl (.refl _) zh
    · refine Zz 8 ?_;exact aa_ results221 ⟨(i:Int),by show _=ps.any pred;rw[show ps.any pred=true from List.any_eq_true.2 ⟨p,d,by assumption⟩];exact decide_eq_true zaa_⟩ rfl (.refl _) zt
theorem nu_ {g:FuncId} {pred:Con→Bool} (c:Con) (e:c.ok) (m:∀ p∈c.parts,Tri prog g #[p.val] [] [p.memF] (fun _:Unit=>.bool (pred p)) (fun _=>[]) (fun _=>[])) :
    Tri prog 158 #[.slice c.ad c.parts.length c.cap,.func (.func g) #[] #[]] [] [c.memF] (fun _:Unit=>.bool (c.parts.any pred)) (fun _=>[]) (fun _=>[]):=by
  obtain⟨k,nm,lo,hi,ad,cap,ps⟩:=c;refine j_ func158 rfl rfl ntmps158 rfl fun y=>?_;refine Zz 9 ?_;refine f_ (rG_ (.mk k nm lo hi ad cap ps) e m) rfl (.refl _) (fun v _ h=>h) rfl fun x=>E_ (fE_ rfl rfl) rfl fun A d=>Zz 4 ?_
  exact aa_ results158 () (s_ rfl (d.symm.trans x.2)) (.refl _) zt
theorem dN_:∀ (m:Nat) (c:Con),c.sz≤m→c.ok→Tri prog 98 #[c.val] [] [c.memF] (fun _:Unit=>.bool c.bare) (fun _=>[]) (fun _=>[]):=by
 intro m
 induction m with
 | zero=>intro c h;have:=c.sz_pos;omega
 | succ m ih =>
   intro c hm e;obtain⟨k,nm,lo,hi,ad,cap,ps⟩:=c;refine j_ func98 rfl rfl ntmps98 rfl fun B=>?_;refine Zz 2 ?_;refine K_ rfl rfl fun C=>Zj 13 (fun d=>?_) fun d=>?_
   · refine Zj 6 (fun x=>?_) fun x=>?_
     · refine Zz 12 ?_;exact aa_ results98 () (s_ rfl zaP_) (.refl _) zt
     · refine Zz 8 ?_;refine an_ (nu_ (pred:=Con.bare) (.mk k nm lo hi ad cap ps) e (fun p y=>ih p (by have:=Con.sz_part (c:=(.mk k nm lo hi ad cap ps)) y;omega) (Con.ok_part (c:=(.mk k nm lo hi ad cap ps)) e y))) rfl (.refl _) (fun v _ h=>h) rfl fun E A=>?_;refine Zz 4 ?_;exact aa_ results98 () (s_ rfl zaP_) (.refl _) zt
   · refine Zz 10 ?_;exact aa_ results98 () (s_ rfl zaP_) (.refl _) zt
theorem hP_ {G:Prop} (h:G:=by
 refine Zz 7 ?_;exact met ⟨rfl,rfl,rfl,rfl,rfl,rfl,rfl,rfl,rfl,rfl,(s_ rfl (jot rfl)),trivial⟩):G:=h
theorem fl_ {G:Prop} (h:G:=by
 exact met ⟨rfl,rfl,rfl,rfl,rfl,rfl,rfl,rfl,rfl,(s_ rfl (jaf d)),trivial⟩):G:=h
theorem vd_ (x:Ax):Tri prog 95 #[x.val] [] [bN_] (fun _:Unit=>.bool x.shaped) (fun _=>[]) (fun _=>[]):=by
 obtain⟨k,W,⟨kl,K,M,hl,al,cl,pl⟩,⟨F,H,O,G,N,J,Q⟩,ad,cap,rs,ro,a,b⟩:=x;refine j_ func95 rfl rfl ntmps95 rfl fun v_1=>?_;refine Zz 2 ?_;refine K_ rfl rfl fun e=>Zz 8 ?_
 refine E_ (cD_ rfl rfl) rfl fun a7 E=>Zz 1 ?_
 refine aB_ 4 ((decide (k<1))||(decide (9<k))) (fun r=>[(0,.agg (Ax.cells (Ax.mk k W (Con.mk kl K M hl al cl pl) (Con.mk F H O G N J Q) ad cap rs ro a b)).toArray),(1,zp_ e 0),(2,.bool false),(11,.bool r)]) ?_ fun a6 X=>?_
 ·cases a7
  ·have d:=E
   replace E:=zdf E;refine Zz 5 ?_;refine E_ (dd_ rfl rfl) rfl fun a3 I=>Zz 3 ?_
   exact met (zm (jof d I))
  have d:=E;replace E:=zdt E;refine Zz 6 ?_;exact met ⟨rfl,rfl,rfl,(s_ rfl (jot d)),trivial⟩
 refine Zz 2 ?_;cases a6
 ·simp at X
  obtain⟨u,hx⟩:∃ u,pE_[k.toNat]? = some u:=⟨_,List.getElem?_eq_getElem (show k.toNat<10 by omega)⟩;have a8:us k=u:=by simp[us,hx]
  obtain⟨ul,P,R,S,ub,U,V⟩:=u;refine Zz 7 ?_;refine e_ (dI_ runUnderlying83 eK_ rfl rfl zcc_ (by show k<(10:Int);omega)) rfl ?_;refine e_ (al_ (ad:=some ⟨0,0,none⟩) (us:=Use.cells ⟨ul,P,R,S,ub,U,V⟩) isAgg82 eK_ rfl (fun v _ h=>h.1.2.1) (Use.cells_len _) (z_ Use.cells_len hx)) rfl (y_ zeroValue82 rfl fun B=>o_ 0 eK_ rfl rfl rfl rfl rfl rfl (Zz 7 ?_));refine aB_ 4 ((ul)||(Con.empty (.mk kl K M hl al cl pl))) (fun r=>[(0,.agg (Ax.cells (Ax.mk k W (Con.mk kl K M hl al cl pl) (Con.mk F H O G N J Q) ad cap rs ro a b)).toArray),(1,zp_ e 0),(2,.bool false),(11,.bool false),(12,zp_ e 0),(13,.int .i64 k),(14,.pointer (some (rad (some ⟨0,0,none⟩) (k.toNat*7)))),(15,.agg #[.bool ul,.bool P,.bool R,.bool S,.bool ub,.int .i64 U,.int .i64 V]),(3,zp_ B 0),(22,.bool r)]) ?_ fun a3 I=>?_
  ·cases ul
   ·refine Zz 5 ?_;refine an_ (qC_ (.mk kl K M hl al cl pl)) rfl (.refl _) zt rfl fun a4 L=>Zz 3 ?_
    exact met (zm (jof rfl L))
   refine Zz 6 ?_;exact met ⟨rfl,rfl,rfl,rfl,rfl,rfl,rfl,rfl,rfl,(s_ rfl (jot rfl)),trivial⟩
  refine Zz 1 ?_;refine aB_ 8 ((((ul)||(Con.empty (.mk kl K M hl al cl pl))))&&(((P)||(Con.empty (.mk F H O G N J Q))))) (fun r=>[(0,.agg (Ax.cells (Ax.mk k W (Con.mk kl K M hl al cl pl) (Con.mk F H O G N J Q) ad cap rs ro a b)).toArray),(1,zp_ e 0),(2,.bool false),(11,.bool false),(12,zp_ e 0),(13,.int .i64 k),(14,.pointer (some (rad (some ⟨0,0,none⟩) (k.toNat*7)))),(15,.agg #[.bool ul,.bool P,.bool R,.bool S,.bool ub,.int .i64 U,.int .i64 V]),(3,zp_ B 0),(31,.bool r)]) ?_ fun a4 L=>?_
  ·cases a3
   ·have d:=I
    simp at I
    refine Zz 10 ?_;exact fl_
   have d:=I;simp at I
   refine Zz 6 ?_;refine aB_ 4 ((P)||(Con.empty (.mk F H O G N J Q))) (fun r=>[(0,.agg (Ax.cells (Ax.mk k W (Con.mk kl K M hl al cl pl) (Con.mk F H O G N J Q) ad cap rs ro a b)).toArray),(1,zp_ e 0),(2,.bool false),(11,.bool false),(12,zp_ e 0),(13,.int .i64 k),(14,.pointer (some (rad (some ⟨0,0,none⟩) (k.toNat*7)))),(15,.agg #[.bool ul,.bool P,.bool R,.bool S,.bool ub,.int .i64 U,.int .i64 V]),(3,zp_ B 0),(23,.bool true),(30,.bool r)]) ?_ fun a2 C=>?_
   ·cases P
    ·refine Zz 5 ?_;refine an_ (qC_ (.mk F H O G N J Q)) rfl (.refl _) zt rfl fun Z y=>Zz 4 ?_
     exact met (zm (jof rfl y))
    exact hP_
   refine Zz 3 ?_;exact met ⟨rfl,rfl,rfl,rfl,rfl,rfl,rfl,rfl,rfl,(s_ rfl (jat d C)),trivial⟩
  refine Zz 1 ?_;refine aB_ 8 ((((((ul)||(Con.empty (.mk kl K M hl al cl pl))))&&(((P)||(Con.empty (.mk F H O G N J Q))))))&&(((R)||(ro==[])))) (fun r=>[(0,.agg (Ax.cells (Ax.mk k W (Con.mk kl K M hl al cl pl) (Con.mk F H O G N J Q) ad cap rs ro a b)).toArray),(1,zp_ e 0),(2,.bool false),(11,.bool false),(12,zp_ e 0),(13,.int .i64 k),(14,.pointer (some (rad (some ⟨0,0,none⟩) (k.toNat*7)))),(15,.agg #[.bool ul,.bool P,.bool R,.bool S,.bool ub,.int .i64 U,.int .i64 V]),(3,zp_ B 0),(40,.bool r)]) ?_ fun a2 C=>?_
  ·cases a4
   ·have d:=L
    simp at L
    refine Zz 10 ?_;exact fl_
   have d:=L;simp at L
   refine Zz 6 ?_;refine aB_ 4 ((R)||(ro==[])) (fun r=>[(0,.agg (Ax.cells (Ax.mk k W (Con.mk kl K M hl al cl pl) (Con.mk F H O G N J Q) ad cap rs ro a b)).toArray),(1,zp_ e 0),(2,.bool false),(11,.bool false),(12,zp_ e 0),(13,.int .i64 k),(14,.pointer (some (rad (some ⟨0,0,none⟩) (k.toNat*7)))),(15,.agg #[.bool ul,.bool P,.bool R,.bool S,.bool ub,.int .i64 U,.int .i64 V]),(3,zp_ B 0),(32,.bool true),(39,.bool r)]) ?_ fun Z y=>?_
   ·cases R
    ·refine Zz 5 ?_;refine E_ (dv_ rfl rfl) rfl fun a0 m=>Zz 4 ?_
     exact met (zm (jof rfl m))
    exact hP_
   refine Zz 3 ?_;exact met ⟨rfl,rfl,rfl,rfl,rfl,rfl,rfl,rfl,rfl,(s_ rfl (jat d y)),trivial⟩
  refine Zz 1 ?_;refine aB_ 8 ((((((((ul)||(Con.empty (.mk kl K M hl al cl pl))))&&(((P)||(Con.empty (.mk F H O G N J Q))))))&&(((R)||(ro==[])))))&&(((S)||(a==[])))) (fun r=>[(0,.agg (Ax.cells (Ax.mk k W (Con.mk kl K M hl al cl pl) (Con.mk F H O G N J Q) ad cap rs ro a b)).toArray),(1,zp_ e 0),(2,.bool false),(11,.bool false),(12,zp_ e 0),(13,.int .i64 k),(14,.pointer (some (rad (some ⟨0,0,none⟩) (k.toNat*7)))),(15,.agg #[.bool ul,.bool P,.bool R,.bool S,.bool ub,.int .i64 U,.int .i64 V]),(3,zp_ B 0),(49,.bool r)]) ?_ fun Z y=>?_
  ·cases a2
   ·have d:=C
    simp at C
    refine Zz 10 ?_;exact fl_
   have d:=C;simp at C
   refine Zz 6 ?_;refine aB_ 4 ((S)||(a==[])) (fun r=>[(0,.agg (Ax.cells (Ax.mk k W (Con.mk kl K M hl al cl pl) (Con.mk F H O G N J Q) ad cap rs ro a b)).toArray),(1,zp_ e 0),(2,.bool false),(11,.bool false),(12,zp_ e 0),(13,.int .i64 k),(14,.pointer (some (rad (some ⟨0,0,none⟩) (k.toNat*7)))),(15,.agg #[.bool ul,.bool P,.bool R,.bool S,.bool ub,.int .i64 U,.int .i64 V]),(3,zp_ B 0),(41,.bool true),(48,.bool r)]) ?_ fun a0 m=>?_
   ·cases S
    ·refine Zz 5 ?_;refine E_ (dv_ rfl rfl) rfl fun a1 A=>Zz 4 ?_
     exact met (zm (jof rfl A))
    exact hP_
   refine Zz 3 ?_;exact met ⟨rfl,rfl,rfl,rfl,rfl,rfl,rfl,rfl,rfl,(s_ rfl (jat d m)),trivial⟩
  refine Zz 1 ?_;refine aB_ 8 ((((((((((ul)||(Con.empty (.mk kl K M hl al cl pl))))&&(((P)||(Con.empty (.mk F H O G N J Q))))))&&(((R)||(ro==[])))))&&(((S)||(a==[])))))&&(((ub)||(b==[])))) (fun r=>[(0,.agg (Ax.cells (Ax.mk k W (Con.mk kl K M hl al cl pl) (Con.mk F H O G N J Q) ad cap rs ro a b)).toArray),(1,zp_ e 0),(2,.bool false),(11,.bool false),(12,zp_ e 0),(13,.int .i64 k),(14,.pointer (some (rad (some ⟨0,0,none⟩) (k.toNat*7)))),(15,.agg #[.bool ul,.bool P,.bool R,.bool S,.bool ub,.int .i64 U,.int .i64 V]),(3,zp_ B 0),(58,.bool r)]) ?_ fun a0 m=>?_
  ·cases Z
   ·have d:=y
    simp at y
    refine Zz 10 ?_;exact fl_
   have d:=y;simp at y
   refine Zz 6 ?_;refine aB_ 4 ((ub)||(b==[])) (fun r=>[(0,.agg (Ax.cells (Ax.mk k W (Con.mk kl K M hl al cl pl) (Con.mk F H O G N J Q) ad cap rs ro a b)).toArray),(1,zp_ e 0),(2,.bool false),(11,.bool false),(12,zp_ e 0),(13,.int .i64 k),(14,.pointer (some (rad (some ⟨0,0,none⟩) (k.toNat*7)))),(15,.agg #[.bool ul,.bool P,.bool R,.bool S,.bool ub,.int .i64 U,.int .i64 V]),(3,zp_ B 0),(50,.bool true),(57,.bool r)]) ?_ fun a1 A=>?_
   ·cases ub
    ·refine Zz 5 ?_;refine E_ (dv_ rfl rfl) rfl fun a5 T=>Zz 4 ?_
     exact met (zm (jof rfl T))
    exact hP_
   refine Zz 3 ?_;exact met ⟨rfl,rfl,rfl,rfl,rfl,rfl,rfl,rfl,rfl,(s_ rfl (jat d A)),trivial⟩
  refine Zz 1 ?_;refine aB_ 7 ((((((((((((ul)||(Con.empty (.mk kl K M hl al cl pl))))&&(((P)||(Con.empty (.mk F H O G N J Q))))))&&(((R)||(ro==[])))))&&(((S)||(a==[])))))&&(((ub)||(b==[])))))&&(decide (U≤(rs.length:Int)))) (fun r=>[(0,.agg (Ax.cells (Ax.mk k W (Con.mk kl K M hl al cl pl) (Con.mk F H O G N J Q) ad cap rs ro a b)).toArray),(1,zp_ e 0),(2,.bool false),(11,.bool false),(12,zp_ e 0),(13,.int .i64 k),(14,.pointer (some (rad (some ⟨0,0,none⟩) (k.toNat*7)))),(15,.agg #[.bool ul,.bool P,.bool R,.bool S,.bool ub,.int .i64 U,.int .i64 V]),(3,zp_ B 0),(66,.bool r)]) ?_ fun a1 A=>?_
  ·cases a0
   ·have d:=m
    simp at m
    refine Zz 9 ?_;exact fl_
   have d:=m;simp at m
   refine Zz 11 ?_;refine E_ (fE_ rfl rfl) rfl fun a5 T=>Zz 3 ?_
   exact met ⟨rfl,rfl,rfl,rfl,rfl,rfl,rfl,rfl,rfl,(s_ rfl (jat d T)),trivial⟩
  refine Zz 1 ?_;refine aB_ 7 ((((((((((((((ul)||(Con.empty (.mk kl K M hl al cl pl))))&&(((P)||(Con.empty (.mk F H O G N J Q))))))&&(((R)||(ro==[])))))&&(((S)||(a==[])))))&&(((ub)||(b==[])))))&&(decide (U≤(rs.length:Int)))))&&(decide ((rs.length:Int)≤V))) (fun r=>[(0,.agg (Ax.cells (Ax.mk k W (Con.mk kl K M hl al cl pl) (Con.mk F H O G N J Q) ad cap rs ro a b)).toArray),(1,zp_ e 0),(2,.bool false),(11,.bool false),(12,zp_ e 0),(13,.int .i64 k),(14,.pointer (some (rad (some ⟨0,0,none⟩) (k.toNat*7)))),(15,.agg #[.bool ul,.bool P,.bool R,.bool S,.bool ub,.int .i64 U,.int .i64 V]),(3,zp_ B 0),(74,.bool r)]) ?_ fun a5 T=>?_
  ·cases a1
   ·have d:=A
    simp at A
    refine Zz 9 ?_;exact fl_
   have d:=A;simp at A
   refine Zz 11 ?_;refine E_ (dV_ rfl rfl) rfl fun a9 Y=>Zz 3 ?_
   exact met ⟨rfl,rfl,rfl,rfl,rfl,rfl,rfl,rfl,rfl,(s_ rfl (jat d Y)),trivial⟩
  refine Zz 4 ?_;exact aa_ results95 () (s_ rfl (by unfold Ax.shaped;rw[if_neg (by simp only[not_or];omega)];simp only[a8];exact T.symm)) (.refl _) zt
 simp at X
 refine Zz 7 ?_;exact aa_ results95 () (s_ rfl (by unfold Ax.shaped;rw[if_pos (by simpa using X)])) (.refl _) zt
theorem pn (s:Str):(((if aN_ s then 0 else 20):Int) != 0)=!aN_ s:=by cases aN_ s<;>rfl
theorem xS_ (x:Ax) (C:x.ok) (u:Use):Tri prog 96 #[x.val,.agg u.cells.toArray] [] [x.memF] (fun _:Unit=>.bool (x.namedU u)) (fun _=>[]) (fun _=>[]):=by
 obtain⟨k,J,⟨kl,R,U,hl,al,cl,pl⟩,⟨K,N,X,M,W,P,pr⟩,ad,cap,rs,ro,a,b⟩:=x;obtain⟨ul,Y,B,E,ub,S,Z⟩:=u;have T:=C.len;have V:=C.cap;dsimp only at T V;refine j_ func96 rfl rfl ntmps96 rfl fun v_1=>?_;refine Zz 2 ?_;refine K_ rfl rfl fun A=>K_ rfl rfl fun H=>Zz 9 ?_
 refine aB_ 5 ((B)&&(!(bk_ ro))) (fun r=>[(0,.agg (Ax.cells (Ax.mk k J (Con.mk kl R U hl al cl pl) (Con.mk K N X M W P pr) ad cap rs ro a b)).toArray),(1,.agg #[.bool ul,.bool Y,.bool B,.bool E,.bool ub,.int .i64 S,.int .i64 Z]),(2,zp_ A 0),(3,zp_ H 0),(4,.bool false),(14,.bool r)]) ?_ fun r_1 G=>?_
 ·cases B
  ·refine Zz 7 ?_;exact met ⟨rfl,rfl,rfl,rfl,rfl,(s_ rfl (jaf rfl)),trivial⟩
  refine Zz 5 ?_;refine an_ (hB_ _) rfl (.refl _) zt rfl fun L y=>ar_ rfl rfl (e_ (aR_ rfl) rfl (Zz 3 ?_))
  exact met ⟨rfl,rfl,rfl,rfl,rfl,(s_ rfl (jat rfl (jn y))),trivial⟩
 refine Zz 1 ?_;refine aB_ 9 ((((B)&&(!(bk_ ro))))||(((E)&&(((if aN_ a then 0 else 20):Int) != 0)))) (fun r=>[(0,.agg (Ax.cells (Ax.mk k J (Con.mk kl R U hl al cl pl) (Con.mk K N X M W P pr) ad cap rs ro a b)).toArray),(1,.agg #[.bool ul,.bool Y,.bool B,.bool E,.bool ub,.int .i64 S,.int .i64 Z]),(2,zp_ A 0),(3,zp_ H 0),(4,.bool false),(24,.bool r)]) ?_ fun L y=>?_
 ·cases r_1
  ·have d:=G
   refine Zz 6 ?_;refine aB_ 5 ((E)&&(((if aN_ a then 0 else 20):Int) != 0)) (fun r=>[(0,.agg (Ax.cells (Ax.mk k J (Con.mk kl R U hl al cl pl) (Con.mk K N X M W P pr) ad cap rs ro a b)).toArray),(1,.agg #[.bool ul,.bool Y,.bool B,.bool E,.bool ub,.int .i64 S,.int .i64 Z]),(2,zp_ A 0),(3,zp_ H 0),(4,.bool false),(15,.bool false),(23,.bool r)]) ?_ fun O e=>?_
   ·cases E
    ·refine Zz 8 ?_;exact met ⟨rfl,rfl,rfl,rfl,rfl,rfl,(s_ rfl (jaf rfl)),trivial⟩
    refine Zz 5 ?_;refine f_ (dG_ _ C.a) rfl (.refl _) zt rfl fun _=>ar_ rfl rfl (E_ (cl_ rfl rfl) rfl fun I m=>Zz 4 ?_)
    exact met ⟨rfl,rfl,rfl,rfl,rfl,rfl,(s_ rfl (jat rfl m)),trivial⟩
   refine Zz 3 ?_;exact met (zm (jof d e))
  have d:=G;refine Zz 11 ?_;exact met ⟨rfl,rfl,rfl,rfl,rfl,(s_ rfl (jot d)),trivial⟩
 refine Zz 1 ?_;refine aB_ 9 ((((((B)&&(!(bk_ ro))))||(((E)&&(((if aN_ a then 0 else 20):Int) != 0)))))||(((ub)&&(((if aN_ b then 0 else 20):Int) != 0)))) (fun r=>[(0,.agg (Ax.cells (Ax.mk k J (Con.mk kl R U hl al cl pl) (Con.mk K N X M W P pr) ad cap rs ro a b)).toArray),(1,.agg #[.bool ul,.bool Y,.bool B,.bool E,.bool ub,.int .i64 S,.int .i64 Z]),(2,zp_ A 0),(4,.bool false),(34,.bool r)]) ?_ fun O e=>?_
 ·cases L
  ·have d:=y
   refine Zz 6 ?_;refine aB_ 5 ((ub)&&(((if aN_ b then 0 else 20):Int) != 0)) (fun r=>[(0,.agg (Ax.cells (Ax.mk k J (Con.mk kl R U hl al cl pl) (Con.mk K N X M W P pr) ad cap rs ro a b)).toArray),(1,.agg #[.bool ul,.bool Y,.bool B,.bool E,.bool ub,.int .i64 S,.int .i64 Z]),(2,zp_ A 0),(4,.bool false),(25,.bool false),(33,.bool r)]) ?_ fun I m=>?_
   ·cases ub
    ·refine Zz 8 ?_;exact met ⟨rfl,rfl,rfl,rfl,rfl,(s_ rfl (jaf rfl)),trivial⟩
    refine Zz 5 ?_;refine f_ (dG_ _ C.b) rfl (.refl _) zt rfl fun _=>ar_ rfl rfl (E_ (cl_ rfl rfl) rfl fun r_5 F=>Zz 4 ?_)
    exact met ⟨rfl,rfl,rfl,rfl,rfl,(s_ rfl (jat rfl F)),trivial⟩
   refine Zz 3 ?_;exact met (zm (jof d m))
  have d:=y;refine Zz 11 ?_;exact met ⟨rfl,rfl,rfl,rfl,(s_ rfl (jot d)),trivial⟩
 refine Zz 2 ?_;cases O
 ·refine Zz 13 ?_;refine bt_ [(36,.slice ad rs.length cap),(37,.int .i64 (rs.length:Int)),(38,.int .i64 ((0:Nat):Int))] zl ?_;refine bO_ (ι:={q:Nat // q≤rs.length∧(rs.take q).all bk_=true}) (fun i=>[(36,.slice ad rs.length cap),(37,.int .i64 (rs.length:Int)),(38,.int .i64 (i.1:Int))]) (fun _=>_) (fun _=>_) (fun i=>rs.length - i.1) ⟨0,by simp⟩ ?_;rintro ⟨i,hk⟩;refine bt_ [(36,.slice ad rs.length cap),(37,.int .i64 (rs.length:Int)),(38,.int .i64 (i:Int))] zl ?_;refine Zj 2 (fun m=>?_) fun m=>?_
  ·refine Zz 12 ?_
   exact aa_ results96 () (s_ rfl (by have hf:rs.all bk_=true:=(by have:=hk.2;rwa [List.take_of_length_le zaa_]at this);unfold Ax.namedU;simp only[pn]at e;simp only[hf,e];rfl)) (.refl _) zt
  have Q:i<rs.length:=by omega
  obtain⟨q,hp⟩:∃ q,rs[i]? = some q:=⟨_,List.getElem?_eq_getElem Q⟩;refine Zz 10 ?_;refine e_ (U_ t_ M_ rfl rfl (fun v _ h=>aK_ (n:=1) aY_ zad_ (h.1.2.2) hp) zaa_ zae_) rfl ?_;refine Zz 7 ?_;refine an_ (hB_ _) rfl (.refl _) zt rfl fun I F=>e_ (aR_ rfl) rfl (Zz 2 ?_)
  cases I
  ·refine Zz 7 ?_;exact aa_ results96 () (s_ rfl (by have hf:rs.all bk_=false:=List.all_eq_false.2 ⟨q,List.mem_of_getElem? hp,by simp[*]⟩;unfold Ax.namedU;simp only[hf,Bool.and_false])) (.refl _) zt
  refine Zz 8 ?_;exact x_ ⟨i+1,Q,by rw[List.take_add_one,hp];simp only[Option.toList_some,List.all_append,hk.2];simp[*]⟩ zap_ zl (.refl _) zh
 refine Zz 7 ?_;exact aa_ results96 () (s_ rfl (by unfold Ax.namedU;simp only[pn]at e;simp only[e];rfl)) (.refl _) zt
theorem Ax.shaped_kind {x:Ax} (h:x.shaped=true):1≤x.kind∧x.kind≤9:=by
 unfold Ax.shaped at h
 split at h
 ·cases h
 rename_i d;simp only[not_or]at d;omega
theorem gs_ {G:Prop} (h:G:=by
 refine Zz 9 ?_;exact eb_):G:=h
theorem fk_ {G:Prop} (h:G:=by
 refine Zz 7 ?_;exact eb_):G:=h
theorem nL_ {G:Prop} (h:G:=by
 refine an_ (dN_ _ (.mk E G J F I H K) (Nat.le_refl _) B.right) rfl (.refl _) (fun v _ h=>⟨h.1.2.1,trivial⟩) rfl fun m Q=>Zz 2 ?_
 exact gt_):G:=h
theorem nM_ {G:Prop} (h:G:=by
 refine Zz 11 ?_;refine an_ (dN_ _ (.mk E G J F I H K) (Nat.le_refl _) B.right) rfl (.refl _) (fun v _ h=>⟨h.1.2.1,trivial⟩) rfl fun m e=>Zz 2 ?_
 exact gt_):G:=h
theorem ka_ {G:Prop} (h:G:=by
 refine an_ (dN_ _ (.mk E G J F I H K) (Nat.le_refl _) B.right) rfl (.refl _) (fun v _ h=>⟨h.1.2.1,trivial⟩) rfl fun m A=>Zz 2 ?_
 exact gt_):G:=h
theorem nN_ {G:Prop} (h:G:=by
 cases m
 ·have C:=y
  refine Zz 5 ?_;refine an_ (dN_ _ (.mk E G J F I H K) (Nat.le_refl _) B.right) rfl (.refl _) (fun v _ h=>⟨h.1.2.1,trivial⟩) rfl fun Y A=>Zz 3 ?_
  exact met (zm (jof C A))
 have C:=y;refine Zz 6 ?_;exact met ⟨rfl,rfl,rfl,rfl,rfl,rfl,rfl,rfl,rfl,rfl,rfl,rfl,rfl,rfl,rfl,rfl,rfl,rfl,rfl,rfl,rfl,rfl,rfl,rfl,rfl,rfl,rfl,rfl,rfl,(s_ rfl (jot C)),trivial⟩):G:=h
theorem gt_ {G:Prop} (h:G:=by
 cases m
 ·exact gs_
 exact fk_):G:=h
theorem nO_ {G:Prop} (h:G:=by
 refine Zj 7 (fun y=>?_) fun y=>?_
 ·refine Zj 6 (fun e=>?_) fun e=>?_
  ·refine Zj 5 (fun A=>?_) fun A=>?_
   ·refine Zz 12 ?_
    exact eb_
   refine Zz 8 ?_;exact nL_
  refine Zz 11 ?_;exact ka_
 exact nM_):G:=h
theorem eb_ {G:Prop} (h:G:=by
 exact aa_ results45 () (be_ rfl (by unfold Ax.check;simp only[d];simp_all)) (.refl _) zt):G:=h
theorem gh_ (x:Ax) (B:x.ok):Tri prog 45 #[x.val] [] [x.memF,bN_] (fun _:Unit=>.int .i64 x.check) (fun _=>[]) (fun _=>[]):=by
 obtain⟨k,T,⟨kl,N,O,hl,al,cl,pl⟩,⟨E,G,J,F,I,H,K⟩,ad,cap,rs,ro,a,b⟩:=x;refine j_ func45 rfl rfl ntmps45 rfl fun v_1=>?_;refine Zz 2 ?_;refine K_ rfl rfl fun L=>Zz 7 ?_
 refine an_ (vd_ ⟨k,T,(.mk kl N O hl al cl pl),(.mk E G J F I H K),ad,cap,rs,ro,a,b⟩) rfl (.refl _) zf rfl fun r_1 Z=>e_ (aR_ rfl) rfl (Zz 2 ?_)
 cases r_1
 ·refine Zz 7 ?_;exact aa_ results45 () (be_ rfl (by unfold Ax.check;simp_all)) (.refl _) zt
 have hk_1:1≤k∧k≤9:=Ax.shaped_kind Z;obtain⟨u,hx⟩:∃ u,pE_[k.toNat]? = some u:=⟨_,List.getElem?_eq_getElem (show k.toNat<10 by omega)⟩;have d:us k=u:=by simp[us,hx]
 obtain⟨ul,ur,U,V,ub,W,X⟩:=u;refine Zz 7 ?_;refine e_ (dI_ runUnderlying83 eK_ rfl rfl zcc_ (by show k<(10:Int);omega)) rfl ?_;refine e_ (al_ (ad:=some ⟨0,0,none⟩) (us:=Use.cells ⟨ul,ur,U,V,ub,W,X⟩) isAgg82 eK_ rfl (fun v _ h=>h.2.1.2.1) (Use.cells_len _) (z_ Use.cells_len hx)) rfl (y_ zeroValue82 rfl fun P=>o_ 0 eK_ rfl rfl rfl rfl rfl rfl (Zz 7 ?_));refine an_ (xS_ ⟨k,T,(.mk kl N O hl al cl pl),(.mk E G J F I H K),ad,cap,rs,ro,a,b⟩ B ⟨ul,ur,U,V,ub,W,X⟩) rfl (.refl _) zf rfl fun r_2 hr_2=>e_ (aR_ rfl) rfl (Zz 2 ?_)
 cases r_2
 ·exact fk_
 refine Zz 10 ?_;cases ul
 ·refine Zz 10 ?_;cases ur
  ·refine Zj 13 (fun R=>?_) fun R=>?_
   ·refine Zj 7 (fun M=>?_) fun M=>?_
    ·refine Zj 6 (fun y=>?_) fun y=>?_
     ·refine Zj 5 (fun e=>?_) fun e=>?_
      ·refine Zz 12 ?_
       exact eb_
      refine Zz 8 ?_;exact ka_
     exact nM_
    refine Zz 11 ?_;refine an_ (dN_ _ (.mk E G J F I H K) (Nat.le_refl _) B.right) rfl (.refl _) (fun v _ h=>⟨h.1.2.1,trivial⟩) rfl fun m y=>Zz 2 ?_
    exact gt_
   refine Zz 8 ?_;refine an_ (dN_ _ (.mk kl N O hl al cl pl) (Nat.le_refl _) B.left) rfl (.refl _) (fun v _ h=>⟨h.1.1,trivial⟩) rfl fun m M=>Zz 1 ?_
   refine aB_ 4 ((Con.bare (.mk kl N O hl al cl pl))||(Con.bare (.mk E G J F I H K))) (fun r=>[(0,.agg (Ax.cells (Ax.mk k T (Con.mk kl N O hl al cl pl) (Con.mk E G J F I H K) ad cap rs ro a b)).toArray),(1,zp_ L 0),(2,.int .i64 0),(6,.agg (Ax.cells (Ax.mk k T (Con.mk kl N O hl al cl pl) (Con.mk E G J F I H K) ad cap rs ro a b)).toArray),(7,.bool true),(8,.bool false),(9,zp_ L 0),(10,.int .i64 k),(11,.pointer (some (rad (some ⟨0,0,none⟩) (k.toNat*7)))),(12,.agg #[.bool false,.bool false,.bool U,.bool V,.bool ub,.int .i64 W,.int .i64 X]),(3,zp_ P 0),(13,.agg (Ax.cells (Ax.mk k T (Con.mk kl N O hl al cl pl) (Con.mk E G J F I H K) ad cap rs ro a b)).toArray),(14,.agg #[.bool false,.bool false,.bool U,.bool V,.bool ub,.int .i64 W,.int .i64 X]),(15,.bool true),(16,.bool false),(17,zp_ P 0),(18,.bool false),(25,zp_ P 1),(26,.bool false),(33,zp_ L 0),(34,.int .i64 k),(36,.bool true),(35,.bool true),(44,.bool r)]) ?_ fun S y=>?_
   ·cases m
    ·have C:=M
     refine Zz 5 ?_;refine an_ (dN_ _ (.mk E G J F I H K) (Nat.le_refl _) B.right) rfl (.refl _) (fun v _ h=>⟨h.1.2.1,trivial⟩) rfl fun Y e=>Zz 3 ?_
     exact met (zm (jof C e))
    have C:=M;refine Zz 6 ?_;exact met ⟨rfl,rfl,rfl,rfl,rfl,rfl,rfl,rfl,rfl,rfl,rfl,rfl,rfl,rfl,rfl,rfl,rfl,rfl,rfl,rfl,rfl,rfl,rfl,(s_ rfl (jot C)),trivial⟩
   refine Zz 2 ?_;cases S
   ·simp at y
    exact gs_
   simp at y
   exact fk_
  refine Zz 5 ?_;refine f_ (fg_ (.mk E G J F I H K) B.right) rfl (.refl _) (fun v _ h=>⟨h.1.2.1,h.2.1,trivial⟩) rfl fun _=>Zj 6 (fun R=>?_) fun R=>?_
  ·refine Zj 15 (fun M=>?_) fun M=>?_
   ·exact nO_
   refine Zz 8 ?_;refine an_ (dN_ _ (.mk kl N O hl al cl pl) (Nat.le_refl _) B.left) rfl (.refl _) (fun v _ h=>⟨h.1.1,trivial⟩) rfl fun m y=>Zz 1 ?_
   refine aB_ 4 ((Con.bare (.mk kl N O hl al cl pl))||(Con.bare (.mk E G J F I H K))) (fun r=>[(0,.agg (Ax.cells (Ax.mk k T (Con.mk kl N O hl al cl pl) (Con.mk E G J F I H K) ad cap rs ro a b)).toArray),(1,zp_ L 0),(2,.int .i64 0),(6,.agg (Ax.cells (Ax.mk k T (Con.mk kl N O hl al cl pl) (Con.mk E G J F I H K) ad cap rs ro a b)).toArray),(7,.bool true),(8,.bool false),(9,zp_ L 0),(10,.int .i64 k),(11,.pointer (some (rad (some ⟨0,0,none⟩) (k.toNat*7)))),(12,.agg #[.bool false,.bool true,.bool U,.bool V,.bool ub,.int .i64 W,.int .i64 X]),(3,zp_ P 0),(13,.agg (Ax.cells (Ax.mk k T (Con.mk kl N O hl al cl pl) (Con.mk E G J F I H K) ad cap rs ro a b)).toArray),(14,.agg #[.bool false,.bool true,.bool U,.bool V,.bool ub,.int .i64 W,.int .i64 X]),(15,.bool true),(16,.bool false),(17,zp_ P 0),(18,.bool false),(25,zp_ P 1),(26,.bool true),(27,zp_ L 7),(28,.agg (Con.cells (Con.mk E G J F I H K)).toArray),(29,.int .i64 (Con.check (.mk E G J F I H K))),(5,.int .i64 (Con.check (.mk E G J F I H K))),(30,.int .i64 (Con.check (.mk E G J F I H K))),(31,.bool false),(33,zp_ L 0),(34,.int .i64 k),(36,.bool true),(35,.bool true),(44,.bool r)]) ?_ fun S e=>?_
   ·exact nN_
   refine Zz 2 ?_;cases S
   ·simp at e
    exact gs_
   simp at e
   exact fk_
  refine Zz 10 ?_;exact eb_
 refine Zz 5 ?_;refine f_ (fg_ (.mk kl N O hl al cl pl) B.left) rfl (.refl _) (fun v _ h=>⟨h.1.1,h.2.1,trivial⟩) rfl fun _=>Zj 6 (fun R=>?_) fun R=>?_
 ·refine Zz 12 ?_
  cases ur
  ·refine Zj 13 (fun M=>?_) fun M=>?_
   ·exact nO_
   refine Zz 8 ?_;refine an_ (dN_ _ (.mk kl N O hl al cl pl) (Nat.le_refl _) B.left) rfl (.refl _) (fun v _ h=>⟨h.1.1,trivial⟩) rfl fun m y=>Zz 1 ?_
   refine aB_ 4 ((Con.bare (.mk kl N O hl al cl pl))||(Con.bare (.mk E G J F I H K))) (fun r=>[(0,.agg (Ax.cells (Ax.mk k T (Con.mk kl N O hl al cl pl) (Con.mk E G J F I H K) ad cap rs ro a b)).toArray),(1,zp_ L 0),(2,.int .i64 0),(6,.agg (Ax.cells (Ax.mk k T (Con.mk kl N O hl al cl pl) (Con.mk E G J F I H K) ad cap rs ro a b)).toArray),(7,.bool true),(8,.bool false),(9,zp_ L 0),(10,.int .i64 k),(11,.pointer (some (rad (some ⟨0,0,none⟩) (k.toNat*7)))),(12,.agg #[.bool true,.bool false,.bool U,.bool V,.bool ub,.int .i64 W,.int .i64 X]),(3,zp_ P 0),(13,.agg (Ax.cells (Ax.mk k T (Con.mk kl N O hl al cl pl) (Con.mk E G J F I H K) ad cap rs ro a b)).toArray),(14,.agg #[.bool true,.bool false,.bool U,.bool V,.bool ub,.int .i64 W,.int .i64 X]),(15,.bool true),(16,.bool false),(17,zp_ P 0),(18,.bool true),(19,zp_ L 2),(20,.agg (Con.cells (Con.mk kl N O hl al cl pl)).toArray),(21,.int .i64 (Con.check (.mk kl N O hl al cl pl))),(4,.int .i64 (Con.check (.mk kl N O hl al cl pl))),(22,.int .i64 (Con.check (.mk kl N O hl al cl pl))),(23,.bool false),(25,zp_ P 1),(26,.bool false),(33,zp_ L 0),(34,.int .i64 k),(36,.bool true),(35,.bool true),(44,.bool r)]) ?_ fun S e=>?_
   ·exact nN_
   refine Zz 2 ?_;cases S
   ·simp at e
    exact gs_
   simp at e
   exact fk_
  refine Zz 5 ?_;refine f_ (fg_ (.mk E G J F I H K) B.right) rfl (.refl _) (fun v _ h=>⟨h.1.2.1,h.2.1,trivial⟩) rfl fun _=>Zj 6 (fun M=>?_) fun M=>?_
  ·refine Zj 15 (fun y=>?_) fun y=>?_
   ·refine Zj 7 (fun e=>?_) fun e=>?_
    ·refine Zj 6 (fun A=>?_) fun A=>?_
     ·refine Zj 5 (fun Q=>?_) fun Q=>?_
      ·refine Zz 12 ?_
       exact eb_
      refine Zz 8 ?_;refine an_ (dN_ _ (.mk E G J F I H K) (Nat.le_refl _) B.right) rfl (.refl _) (fun v _ h=>⟨h.1.2.1,trivial⟩) rfl fun m hr_9=>Zz 2 ?_
      exact gt_
     refine Zz 11 ?_;exact nL_
    refine Zz 11 ?_;exact ka_
   refine Zz 8 ?_;refine an_ (dN_ _ (.mk kl N O hl al cl pl) (Nat.le_refl _) B.left) rfl (.refl _) (fun v _ h=>⟨h.1.1,trivial⟩) rfl fun m e=>Zz 1 ?_
   refine aB_ 4 ((Con.bare (.mk kl N O hl al cl pl))||(Con.bare (.mk E G J F I H K))) (fun r=>[(0,.agg (Ax.cells (Ax.mk k T (Con.mk kl N O hl al cl pl) (Con.mk E G J F I H K) ad cap rs ro a b)).toArray),(1,zp_ L 0),(2,.int .i64 0),(6,.agg (Ax.cells (Ax.mk k T (Con.mk kl N O hl al cl pl) (Con.mk E G J F I H K) ad cap rs ro a b)).toArray),(7,.bool true),(8,.bool false),(9,zp_ L 0),(10,.int .i64 k),(11,.pointer (some (rad (some ⟨0,0,none⟩) (k.toNat*7)))),(12,.agg #[.bool true,.bool true,.bool U,.bool V,.bool ub,.int .i64 W,.int .i64 X]),(3,zp_ P 0),(13,.agg (Ax.cells (Ax.mk k T (Con.mk kl N O hl al cl pl) (Con.mk E G J F I H K) ad cap rs ro a b)).toArray),(14,.agg #[.bool true,.bool true,.bool U,.bool V,.bool ub,.int .i64 W,.int .i64 X]),(15,.bool true),(16,.bool false),(17,zp_ P 0),(18,.bool true),(19,zp_ L 2),(20,.agg (Con.cells (Con.mk kl N O hl al cl pl)).toArray),(21,.int .i64 (Con.check (.mk kl N O hl al cl pl))),(4,.int .i64 (Con.check (.mk kl N O hl al cl pl))),(22,.int .i64 (Con.check (.mk kl N O hl al cl pl))),(23,.bool false),(25,zp_ P 1),(26,.bool true),(27,zp_ L 7),(28,.agg (Con.cells (Con.mk E G J F I H K)).toArray),(29,.int .i64 (Con.check (.mk E G J F I H K))),(5,.int .i64 (Con.check (.mk E G J F I H K))),(30,.int .i64 (Con.check (.mk E G J F I H K))),(31,.bool false),(33,zp_ L 0),(34,.int .i64 k),(36,.bool true),(35,.bool true),(44,.bool r)]) ?_ fun S A=>?_
   ·cases m
    ·have C:=e
     refine Zz 5 ?_;refine an_ (dN_ _ (.mk E G J F I H K) (Nat.le_refl _) B.right) rfl (.refl _) (fun v _ h=>⟨h.1.2.1,trivial⟩) rfl fun Y Q=>Zz 3 ?_
     exact met (zm (jof C Q))
    have C:=e;refine Zz 6 ?_;exact met ⟨rfl,rfl,rfl,rfl,rfl,rfl,rfl,rfl,rfl,rfl,rfl,rfl,rfl,rfl,rfl,rfl,rfl,rfl,rfl,rfl,rfl,rfl,rfl,rfl,rfl,rfl,rfl,rfl,rfl,rfl,rfl,rfl,rfl,rfl,rfl,(s_ rfl (jot C)),trivial⟩
   refine Zz 2 ?_;cases S
   ·simp at A
    exact gs_
   simp at A
   exact fk_
  refine Zz 10 ?_;exact eb_
 refine Zz 10 ?_;exact eb_
def prE:Array MapEntry:=#[⟨.int .i64 1,.func (.func 292) #[] #[],0⟩,⟨.int .i64 2,.func (.func 293) #[] #[],1⟩,⟨.int .i64 3,.func (.func 294) #[] #[],2⟩,⟨.int .i64 4,.func (.func 295) #[] #[],3⟩,⟨.int .i64 5,.func (.func 296) #[] #[],4⟩,⟨.int .i64 6,.func (.func 297) #[] #[],5⟩,⟨.int .i64 7,.func (.func 298) #[] #[],6⟩]
def prF (m:Nat):Fct:=bl_ m (.map prE 7)
def prV (m n:Nat):Value:=.agg #[.map (some m),.map (some n)]
theorem elt39:Elt prog 25 9 1 16:=hh_ iO_ (z:=.string ⟨#[]⟩) zac_ rfl zad_
theorem zU_ {b n cap:Nat} (xs:List Str) (d:Str) (I:xs.length=n) {h:Array Value} {T:TypeId} {fz:Nat×Nat} (F:∀ (j:Nat) (x:Str),xs[j]? = some x→h[j]? = some (str x)) (A:xs.length≤cap) (J:xs.length≤1000000) (m:(Lib.join xs d).length≤140737488355328) :
    Tri prog 313 #[.slice (some ⟨b,0,none⟩) n cap,str d] [(b,.cells h T fz)] [bN_] (fun _:Unit=>str (Lib.join xs d)) (fun _=>[(b,.cells h T fz)]) (fun _=>[]):=by
  subst I;refine cL_ (callable func313 rfl rfl) fun v B G=>?_;have C:=(B.own _ List.mem_cons_self).1;have e:(xs.map fun x=>(⟨x.toArray⟩:ByteArray)).map (·.data.toList)=xs:=by simp[List.map_map,Function.comp_def]
  have:=Tryz.strings_Join b 0 cap (xs.map fun x=>⟨x.toArray⟩) ⟨d.toArray⟩ v.w (fun j x E=>by
    simp only[List.getElem?_map,Option.map_eq_some_iff]at E;obtain⟨y,H,rfl⟩:=E;simp only[World.cell?,C,Nat.zero_add];exact F j y H) (Array.getElem?_eq_some_iff.1 C).1 zap_ zaS_ (by rw[e];exact m)
  rw[e,List.length_map]at this;exact this.mono fun _ _ q=>⟨q.1,q.2,.inl G.1.2.2.2.1⟩
theorem zX_ (n:Int) (m:-9223372036854775808≤n) (d:n≤9223372036854775807):Tri prog 323 #[.int .i64 n] [] [bN_] (fun _:Unit=>str (Lib.itoa n)) (fun _=>[]) (fun _=>[]) :=
  cL_ (callable func323 rfl rfl) fun v _ h=>(Tryz.strconv_Itoa n m d v.w (xo_ h.1.2.2.2)).mono (by
    rintro e w' ⟨rfl,k,os,rfl⟩;exact⟨rfl,vw_ _ _ _,.inr (Nat.le_add_right _ _)⟩)
theorem vF_ {b n:Nat} (xs:List Str) (m:xs.length=n) {d:Array Value} {T:TypeId} {fz:Nat×Nat} (A:∀ (j:Nat) (x:Str),xs[j]? = some x→d[j]? = some (str x)) (y:xs.length≤1000000) (e:(Lib.join xs [32]).length≤140737488355328) :
    Tri prog 322 #[.slice (some ⟨b,0,none⟩) n n] [(b,.cells d T fz)] [bN_] (fun _:Unit=>str (Lib.join xs [32])) (fun _=>[(b,.cells d T fz)]) (fun _=>[]):=by
  refine j_ func322 rfl rfl ntmps322 rfl fun B=>?_;refine Zz 8 ?_;refine f_ (zU_ xs [32] m A (Nat.le_of_eq m) y e) rfl (.refl _) (fun v _ h=>h) rfl fun _=>Zz 4 ?_
  exact aa_ results322 () rfl (F:=[]) (.refl _) zt
theorem pr_top (c:Con) (m n:Nat) (d:c.kind=1):Tri prog 292 #[prV m n,c.val] [] [c.memF,prF m,bN_] (fun _:Unit=>str c.text) (fun _=>[]) (fun _=>[]):=by
  obtain⟨k,nm,lo,hi,ad,cap,ps⟩:=c;simp only[Con.kind]at d;refine j_ func292 rfl rfl ntmps292 rfl fun v=>?_;refine Zz 2 ?_;refine K_ rfl rfl fun e=>K_ rfl rfl fun h=>Zz 9 ?_
  exact aa_ results292 () (gg_ rfl zaN_) (.refl _) zt
theorem xn_ (c:Con) (m n:Nat) (d:c.kind=2):Tri prog 293 #[prV m n,c.val] [] [c.memF,prF m,bN_] (fun _:Unit=>str c.text) (fun _=>[]) (fun _=>[]):=by
  obtain⟨k,nm,lo,hi,ad,cap,ps⟩:=c;simp only[Con.kind]at d;refine j_ func293 rfl rfl ntmps293 rfl fun v=>?_;refine Zz 2 ?_;refine K_ rfl rfl fun e=>K_ rfl rfl fun h=>Zz 9 ?_
  exact aa_ results293 () (gg_ rfl zaN_) (.refl _) zt
theorem zq_ (c:Con) (m n:Nat) (d:c.kind=3):Tri prog 294 #[prV m n,c.val] [] [c.memF,prF m,bN_] (fun _:Unit=>str c.text) (fun _=>[]) (fun _=>[]):=by
  obtain⟨k,nm,lo,hi,ad,cap,ps⟩:=c;simp only[Con.kind]at d;refine j_ func294 rfl rfl ntmps294 rfl fun v=>?_;refine Zz 2 ?_;refine K_ rfl rfl fun e=>K_ rfl rfl fun h=>Zz 11 ?_
  exact aa_ results294 () (gg_ rfl zaN_) (.refl _) zt
theorem uE_ (c:Con) (m n:Nat) (d:c.kind=4) (hl:c.name.length≤24):Tri prog 295 #[prV m n,c.val] [] [c.memF,prF m,bN_] (fun _:Unit=>str c.text) (fun _=>[]) (fun _=>[]):=by
  obtain⟨k,nm,lo,hi,ad,cap,ps⟩:=c;simp only[Con.kind]at d;refine j_ func295 rfl rfl ntmps295 rfl fun e=>?_;simp only[Con.name]at hl;refine Zz 2 ?_;refine K_ rfl rfl fun h=>K_ rfl rfl fun v=>Zz 7 ?_
  refine e_ (dW_ rfl rfl (by simp[Con.name];omega)) rfl ?_;refine e_ (dW_ rfl rfl (by simp[Con.name];omega)) rfl ?_;refine Zz 4 ?_;exact aa_ results295 () (gg_ rfl zaN_) (.refl _) zt
theorem nK_ {G:Prop} (h:G:=by
 exact aa_ results321 () (gg_ rfl (by unfold Con.operand;first|exact (if_pos zai_).symm|exact (if_neg zai_).symm)) (.refl _) zt):G:=h
theorem uD_ (c:Con) (m n:Nat) (hl:c.text.length≤100000) (e:Tri prog 253 #[prV m n,c.val] [] [c.memF,prF m,bN_] (fun _:Unit=>str c.text) (fun _=>[]) (fun _=>[])):Tri prog 321 #[prV m n,c.val] [] [c.memF,prF m,bN_] (fun _:Unit=>str c.operand) (fun _=>[]) (fun _=>[]):=by
 obtain⟨k,nm,lo,hi,ad,cap,ps⟩:=c;refine j_ func321 rfl rfl ntmps321 rfl fun x=>?_;refine Zz 2 ?_;refine K_ rfl rfl fun y=>K_ rfl rfl fun A=>Zj 8 (fun d=>?_) fun d=>?_
 ·refine Zz 9 ?_
  refine f_ (e) rfl (.refl _) (fun v _ h=>h) rfl fun _=>Zz 4 ?_
  exact nK_
 refine Zz 7 ?_;refine f_ (e) rfl (.refl _) (fun v _ h=>h) rfl fun _=>?_;refine e_ (dW_ rfl rfl zaj_) rfl ?_;refine e_ (dW_ rfl rfl zaj_) rfl ?_;refine Zz 4 ?_;exact nK_
theorem gA_ (c:Con) (m n:Nat) {g i:Nat} (d:da_ prog 3 (.int .i64 c.kind) prE.toList (some (i,.func (.func g) #[] #[]))) (A:Tri prog g #[prV m n,c.val] [] [c.memF,prF m,bN_] (fun _:Unit=>str c.text) (fun _=>[]) (fun _=>[])):Tri prog 253 #[prV m n,c.val] [] [c.memF,prF m,bN_] (fun _:Unit=>str c.text) (fun _=>[]) (fun _=>[]):=by
  obtain⟨k,nm,lo,hi,ad,cap,ps⟩:=c;refine j_ func253 rfl rfl ntmps253 rfl fun e=>?_;refine Zz 2 ?_;refine K_ rfl rfl fun x=>K_ rfl rfl fun y=>Zz 9 ?_
  refine e_ (eJ_ dg_ rfl rfl (fun v _ h=>h.2.1.2) (aS_ m_) d) rfl (Zz 2 ?_);refine Z_ (A) rfl rfl (.refl _) zf rfl fun _=>Zz 4 ?_
  exact aa_ results253 () rfl (.refl _) zt
theorem Bj_:gQ_ prog 299 [(0,1),(1,1)] [.map none,.map none]:=⟨_,zeroValue299,runUnderlying299,fun w=>by simp[sizeOf296,sizeOf297]⟩
theorem rt_:Tri prog 252 #[] [] [] (fun q:Nat×Nat=>prV q.1 q.2) (fun _=>[]) (fun q=>[prF q.1]):=by
  refine j_ func252 rfl rfl ntmps252 rfl fun y=>?_;refine Zz 2 ?_;refine y_ zeroValue299 rfl fun x=>Zz 4 ?_
  refine bu_ rfl fun e=>aC_ 0 (.inl rfl) dg_ rfl rfl rfl rfl (aS_ m_) (ay_ m_ rfl) (aC_ 0 (.inl rfl) dg_ rfl rfl rfl rfl (aS_ m_) (ay_ m_ rfl) (aC_ 0 (.inl rfl) dg_ rfl rfl rfl rfl (aS_ m_) (ay_ m_ rfl) (aC_ 0 (.inl rfl) dg_ rfl rfl rfl rfl (aS_ m_) (ay_ m_ rfl) (aC_ 0 (.inl rfl) dg_ rfl rfl rfl rfl (aS_ m_) (ay_ m_ rfl) (aC_ 0 (.inl rfl) dg_ rfl rfl rfl rfl (aS_ m_) (ay_ m_ rfl) (aC_ 0 (.inl rfl) dg_ rfl rfl rfl rfl (aS_ m_) (ay_ m_ rfl) (Zz 1 ?_)))))))
  refine bu_ rfl fun h=>aC_ 0 (.inl rfl) cz_ rfl rfl rfl rfl (aS_ m_) (ay_ m_ rfl) (aC_ 0 (.inl rfl) cz_ rfl rfl rfl rfl (aS_ m_) (ay_ m_ rfl) (aC_ 0 (.inl rfl) cz_ rfl rfl rfl rfl (aS_ m_) (ay_ m_ rfl) (aC_ 0 (.inl rfl) cz_ rfl rfl rfl rfl (aS_ m_) (ay_ m_ rfl) (aC_ 0 (.inl rfl) cz_ rfl rfl rfl rfl (aS_ m_) (ay_ m_ rfl) (aC_ 0 (.inl rfl) cz_ rfl rfl rfl rfl (aS_ m_) (ay_ m_ rfl) (aC_ 0 (.inl rfl) cz_ rfl rfl rfl rfl (aS_ m_) (ay_ m_ rfl) (aC_ 0 (.inl rfl) cz_ rfl rfl rfl rfl (aS_ m_) (ay_ m_ rfl) (aC_ 0 (.inl rfl) cz_ rfl rfl rfl rfl (aS_ m_) (ay_ m_ rfl) (Zz 1 ?_)))))))))
  refine e_ (u_ Bj_ rfl rfl) rfl (o_ 2 sizeOf299 rfl rfl rfl rfl rfl rfl (Zz 3 ?_));refine ja_ 1 rfl ?_;exact cS_ (e,h) (fun a v d m=>dz_ (us:=[_,_]) 1 results252 isAgg299 sizeOf299 rfl rfl rfl a v d m) (.refl _) zf
theorem pr_and (c:Con) (m n:Nat) (E:c.kind=5) (L:2≤c.parts.length∧c.parts.length≤8) (hl:(Lib.join (c.parts.map Con.operand) [32,97,110,100,32]).length≤140737488355328) (x:∀ p∈c.parts,Tri prog 321 #[prV m n,p.val] [] [p.memF,prF m,bN_] (fun _:Unit=>str p.operand) (fun _=>[]) (fun _=>[])):Tri prog 296 #[prV m n,c.val] [] [c.memF,prF m,bN_] (fun _:Unit=>str c.text) (fun _=>[]) (fun _=>[]):=by
 obtain⟨k,nm,lo,hi,ad,cap,ps⟩:=c;simp only[Con.kind,Con.parts]at E L hl x;refine j_ func296 rfl rfl ntmps296 rfl fun M=>?_;refine Zz 2 ?_;refine K_ rfl rfl fun d=>K_ rfl rfl fun P=>Zz 18 ?_
 refine bt_ [(2,zp_ d 0),(5,.slice none 0 0),(9,.slice ad ps.length cap),(10,.int .i64 (ps.length:Int)),(11,.int .i64 ((0:Nat):Int))] zl ?_;refine bO_ (ι:={q:Nat×Value×Hp // q.1≤ps.length∧az_ 9 1 q.2.1 q.1 ((ps.take q.1).flatMap fun p=>au_ p.operand) q.2.2}) (fun q=>[(2,zp_ d 0),(5,q.1.2.1),(9,.slice ad ps.length cap),(10,.int .i64 (ps.length:Int)),(11,.int .i64 (q.1.1:Int))]) (fun q=>_::_::q.1.2.2) (fun _=>_) (fun q=>ps.length - q.1.1) ⟨(0,.slice none 0 0,[]),by simp,az_.nil _ _⟩ ?_;rintro ⟨⟨i,sv,Hr⟩,J⟩;dsimp only at J;refine bt_ [(2,zp_ d 0),(5,sv),(9,.slice ad ps.length cap),(10,.int .i64 (ps.length:Int)),(11,.int .i64 (i:Int))] zl ?_;refine Zj 2 (fun y=>?_) fun y=>?_
 ·obtain rfl:i=ps.length:=by omega
  obtain⟨g,cp,cur,rfl,rfl,K,Q,O,A⟩:=J.2.some zaa_;rw[List.take_length]at A;refine Zz 9 ?_;refine f_ (zU_ (ps.map Con.operand) [32,97,110,100,32] zaf_ (pY_ (n:=ps.length) (by rw[A,List.flatMap_map])) (by simpa using K) zap_ hl) rfl (@List.perm_append_comm _ [_,_] _) zf rfl fun _=>?_;refine Zz 4 ?_;exact aa_ results296 () (gg_ rfl (by rw[Con.text_eq];simp[Con.kind,Con.parts,E])) (.refl _) zt
 have C:i<ps.length:=by omega
 obtain⟨p,I⟩:∃ p,ps[i]? = some p:=⟨_,List.getElem?_eq_getElem C⟩;have H:p∈ps:=List.mem_of_getElem? I;refine Zz 10 ?_;refine e_ (U_ ab_ n_ rfl rfl (fun v _ h=>aK_ (n:=5) Con.cells_len zad_ (((Con.mem_iff (.mk k nm lo hi ad cap ps) v).1 h.1).1) I) zaa_ zae_) rfl ?_;refine e_ (al_ (ad:=ad) (us:=p.cells) ac_ n_ rfl (fun v _ h=>((Con.mem_iff (.mk k nm lo hi ad cap ps) v).1 h.1).1) (Con.cells_len _) (z_ Con.cells_len I)) rfl (y_ aH_ rfl fun R=>fz_ 0 n_ rfl rfl rfl rfl (Zz 5 ?_));refine e_ (cP_ 0 ac_ n_ rfl rfl) rfl (f_ (x p H) rfl (.refl _) (fun v _ h=>⟨Con.mem_part (c:=(.mk k nm lo hi ad cap ps)) h.1 H,h.2.1,h.2.2.1,trivial⟩) rfl fun _=>G_ t_ M_ aw_ rfl rfl rfl rfl rfl rfl fun N=>?_);refine aO_ elt39 J.2 rfl rfl (@List.perm_append_comm _ [_,_,_,_] _) rfl (bz_ 0 rfl) (kY_ rfl) zan_ zaa_ rfl fun e B G=>?_;refine A_ (@List.perm_append_comm _ _ [_,_,_,_]) (Zz 8 ?_);exact x_ ⟨(i+1,e,B),C,by rw[Con.take_snoc I,List.flatMap_append];exact G⟩ zap_ zl (F:=[_,_]) (@List.perm_append_comm _ [_,_] _) zh
theorem BG_ (c:Con) (m n:Nat) (y:c.kind=6) (d:c.parts.length=1) (hl:c.text.length≤140737488355328) (e:∀ p∈c.parts,Tri prog 321 #[prV m n,p.val] [] [p.memF,prF m,bN_] (fun _:Unit=>str p.operand) (fun _=>[]) (fun _=>[])):Tri prog 297 #[prV m n,c.val] [] [c.memF,prF m,bN_] (fun _:Unit=>str c.text) (fun _=>[]) (fun _=>[]):=by
  obtain⟨k,nm,lo,hi,ad,cap,ps⟩:=c;simp only[Con.kind,Con.parts]at y d e;obtain⟨p,rfl⟩:=List.length_eq_one_iff.1 d;have A:[p][0]? = some p:=rfl;have x:p∈[p]:=List.mem_singleton.2 rfl;have B:(Con.mk k nm lo hi ad cap [p]).text=Lib.join [[115,111,109,101],nm,p.operand] [32]:=by rw[Con.text_eq];simp[Con.kind,Con.parts,Con.name,y]
  rw[B]at hl;refine j_ func297 rfl rfl ntmps297 rfl fun E=>?_;refine Zz 2 ?_;refine K_ rfl rfl fun F=>K_ rfl rfl fun G=>Zz 5 ?_
  refine D_ 4 [0,1,2,3,4,5,6] zk zs (Zz 5 ?_);refine T_ rfl (U_ ab_ n_ rfl rfl (fun v _ h=>aK_ (n:=5) Con.cells_len zad_ (((Con.mem_iff (.mk k nm lo hi ad cap [p]) v).1 h.1).1) A) zaa_ zae_) rfl ?_;refine T_ rfl (al_ (ad:=ad) (us:=p.cells) ac_ n_ rfl (fun v _ h=>((Con.mem_iff (.mk k nm lo hi ad cap [p]) v).1 h.1).1) (Con.cells_len _) (z_ Con.cells_len A)) rfl (bV_ (p_ 7 rfl zk (f_ (e p x) rfl (.refl _) (fun v _ h=>⟨Con.mem_part (c:=.mk k nm lo hi ad cap [p]) h.1 x,h.2.1,h.2.2.1,trivial⟩) rfl fun _=>Zz 3 ?_)));refine p_ 8 rfl zk (G_ t_ M_ aw_ rfl rfl rfl rfl rfl rfl fun C=>Zz 3 ?_);refine p_ 9 rfl zk (f_ (vF_ [[115,111,109,101],nm,p.operand] rfl (vK_ _) zaf_ hl) rfl (.refl _) zf rfl fun _=>Zz 3 ?_);refine D_ 0 [10] zk zs (Zz 5 ?_);exact aa_ results297 () (gg_ rfl B.symm) (.refl _) zt
theorem BF_ (c:Con) (m n:Nat) (d:c.kind=7) (x:c.ok) (hl:c.text.length≤140737488355328):Tri prog 298 #[prV m n,c.val] [] [c.memF,prF m,bN_] (fun _:Unit=>str c.text) (fun _=>[]) (fun _=>[]):=by
  obtain⟨k,nm,lo,hi,ad,cap,ps⟩:=c;simp only[Con.kind]at d;obtain⟨_,_,_,v,h,e,y,_⟩:=x;have A:(Con.mk k nm lo hi ad cap ps).text=Lib.join [nm,[105,110],Lib.itoa lo,[116,111],Lib.itoa hi] [32]:=by rw[Con.text_eq];simp[Con.kind,Con.name,Con.lo,Con.hi,d]
  rw[A]at hl;refine j_ func298 rfl rfl ntmps298 rfl fun C=>?_;refine Zz 2 ?_;refine K_ rfl rfl fun E=>K_ rfl rfl fun F=>Zz 5 ?_
  refine D_ 5 [0,1,2,3,5,6] zk zs (Zz 7 ?_);refine p_ 4 rfl zk (f_ (zX_ _ v h) rfl (.refl _) zf rfl fun _=>Zz 3 ?_);refine p_ 7 rfl zk (f_ (zX_ _ e y) rfl (.refl _) zf rfl fun _=>Zz 3 ?_);refine p_ 8 rfl zk (G_ t_ M_ aw_ rfl rfl rfl rfl rfl rfl fun B=>Zz 3 ?_);refine p_ 9 rfl zk (f_ (vF_ [nm,[105,110],Lib.itoa lo,[116,111],Lib.itoa hi] rfl (vK_ _) zaf_ hl) rfl (.refl _) zf rfl fun _=>Zz 3 ?_);refine D_ 0 [10] zk zs (Zz 5 ?_);exact aa_ results298 () (gg_ rfl A.symm) (.refl _) zt
theorem BE_ (m n:Nat):∀ (d:Nat) (c:Con),c.sz≤d→c.sz≤64→c.ok→c.fine→Tri prog 253 #[prV m n,c.val] [] [c.memF,prF m,bN_] (fun _:Unit=>str c.text) (fun _=>[]) (fun _=>[]):=by
 intro d
 induction d with
 | zero=>intro c h;have:=c.sz_pos;omega
 | succ d ih =>
   intro c I C v B;have F:=Con.fields B;have hl:=Con.text_len _ c (Nat.le_refl _) v B
   have x:∀ p∈c.parts,Tri prog 321 #[prV m n,p.val] [] [p.memF,prF m,bN_] (fun _:Unit=>str p.operand) (fun _=>[]) (fun _=>[]):=fun p y=>by
     have J:=Con.sz_part y;have hl:=Con.text_len _ p (Nat.le_refl _) (Con.ok_part v y) (Con.fine_part B y);exact uD_ p m n zaa_ (ih p zaa_ zaa_ (Con.ok_part v y) (Con.fine_part B y))
   have H:=F.k1;have G:=F.k7;have hm:=F.mo;have A:=F.le;have e:c.kind=1∨c.kind=2∨c.kind=3∨c.kind=4∨c.kind=5∨c.kind=6∨c.kind=7:=by omega
   rcases e with e|e|e|e|e|e|e
   · exact gA_ c m n zaL_ (pr_top c m n e)
   · exact gA_ c m n zaL_ (xn_ c m n e)
   · exact gA_ c m n zaL_ (zq_ c m n e)
   · exact gA_ c m n zaL_ (uE_ c m n e F.nm)
   · have E:c.text=Lib.join (c.parts.map Con.operand) [32,97,110,100,32]:=by rw[Con.text_eq];simp[e]
     rw[e]at hm A;simp[nd,dF_]at hm A
     exact gA_ c m n zaL_ (pr_and c m n e ⟨by omega,by omega⟩ (by rw[← E];omega) x)
   · rw[e]at hm A
     simp[nd,dF_]at hm A
     exact gA_ c m n zaL_ (BG_ c m n e zaa_ zaa_ x)
   · exact gA_ c m n zaL_ (BF_ c m n e v zaa_)
theorem sT_ (c:Con) (h:c.ok):Tri prog 202 #[c.val] [] [c.memF,bN_] (fun _:Unit=>.tuple #[str c.textN,.int .i64 c.check]) (fun _=>[]) (fun _=>[]):=by
 obtain⟨k,nm,lo,hi,ad,cap,ps⟩:=c;refine j_ func202 rfl rfl ntmps202 rfl fun v=>?_;refine Zz 2 ?_;refine K_ rfl rfl fun x=>Zz 8 ?_
 refine f_ (fg_ (.mk k nm lo hi ad cap ps) h) rfl (.refl _) zf rfl fun _=>Zj 6 (fun d=>?_) fun d=>?_
 ·obtain⟨e,m⟩:=Con.check_zero d
  refine Zz 7 ?_;refine D_ 4 [1] zk zs (Zz 2 ?_);refine p_ 0 rfl zk (f_ (rt_) rfl (.refl _) zt rfl fun q=>Zz 3 ?_);refine p_ 2 rfl zk (f_ (BE_ q.1 q.2 _ (.mk k nm lo hi ad cap ps) (Nat.le_refl _) m h e) rfl (.refl _) zf rfl fun _=>Zz 3 ?_);refine D_ 0 [3,4] zk zs (Zz 6 ?_);exact fO_ results202 () rfl rfl (by simp[Con.textN, *]<;>rfl) (.refl _) zt
 refine Zz 11 ?_;exact fO_ results202 () rfl rfl (by simp[Con.textN, *]<;>rfl) (.refl _) zt
theorem BQ_ (c:Con) (d:c.ok):Tri prog 143 #[c.val] [] [c.memF,bN_] (fun _:Unit=>str c.textN) (fun _=>[]) (fun _=>[]):=by
  obtain⟨k,nm,lo,hi,ad,cap,ps⟩:=c;refine j_ func143 rfl rfl ntmps143 rfl fun m=>?_;refine Zz 2 ?_;refine K_ rfl rfl fun e=>Zz 6 ?_
  refine f_ (sT_ (.mk k nm lo hi ad cap ps) d) rfl (.refl _) (fun v _ h=>h) rfl fun _=>Zz 14 ?_
  exact aa_ results143 () rfl (.refl _) zt
theorem eq_ (s:Str) (e:s.length≤140737488351232) :
    Fn0 prog 77 #[str s] (str ([123]++s++[125])):=by
  refine j_ func77 rfl rfl ntmps77 rfl fun d=>?_;refine Zz 8 ?_;refine e_ (dW_ rfl rfl zap_) rfl ?_;refine e_ (dW_ rfl rfl zap_) rfl ?_;refine Zz 4 ?_;exact aa_ results77 () rfl (.refl _) zt
theorem gr_ {G:Prop} (h:G:=by
 exact aa_ results73 () (gg_ rfl (by unfold Con.atom;simp only[Con.kind,Con.name]at *;simp[*])) (.refl _) zt):G:=h
theorem cH_ (c:Con) (d:c.ok):Tri prog 73 #[c.val] [] [c.memF,bN_] (fun _:Unit=>str c.atom) (fun _=>[]) (fun _=>[]):=by
 obtain⟨k,nm,lo,hi,ad,cap,ps⟩:=c;refine j_ func73 rfl rfl ntmps73 rfl fun A=>?_;refine Zz 2 ?_;refine K_ rfl rfl fun B=>Zj 13 (fun m=>?_) fun m=>?_
 ·refine Zj 6 (fun y=>?_) fun y=>?_
  ·refine Zj 6 (fun x=>?_) fun x=>?_
   ·refine Zj 6 (fun e=>?_) fun e=>?_
    ·refine Zz 9 ?_
     refine f_ (BQ_ (.mk k nm lo hi ad cap ps) d) rfl (.refl _) (fun v _ h=>h) rfl fun _=>?_;refine e_ (dW_ rfl rfl zbh_) rfl ?_;refine e_ (dW_ rfl rfl zbh_) rfl ?_;refine Zz 4 ?_;exact gr_
    refine Zz 8 ?_;refine f_ (eq_ nm (Con.ok_name d)) rfl (.refl _) zt rfl fun _=>Zz 4 ?_
    exact gr_
   refine Zz 12 ?_;exact gr_
  refine Zz 10 ?_;exact gr_
 refine Zz 10 ?_;exact gr_
theorem eqPc (p q:Pc) (w:World):(Op.equalIn 10000 76 p.val q.val).run prog w=.ok (decide (p=q)) w:=by
  have h:=run_equalIn_struct (P:=prog) w 9999 76 p.cells.toArray q.cells.toArray (by simp only[Program.fieldsOf,ga_]) Tryz.stoodInHeld76;refine h.trans ?_;rw[← Pc.eqb_eq];simp only[Program.fieldsOf,ga_];exact bT_ rfl aF_ rfl rfl (eqI m_ w) (bT_ rfl ai_ rfl rfl (eqS aZ_ w) (bT_ rfl ai_ rfl rfl (eqS aZ_ w) (bT_ rfl ai_ rfl rfl (eqS aZ_ w) (bT_ rfl ai_ rfl rfl (eqS aZ_ w) (bT_ rfl ai_ rfl rfl (eqS aZ_ w) (bT_ rfl ai_ rfl rfl (eqS aZ_ w) (bT_ rfl aF_ rfl rfl (eqI m_ w) (bT_ rfl aF_ rfl rfl (eqI m_ w) (bT_ rfl aF_ rfl rfl (eqI m_ w) (lo_ w))))))))))
theorem eqFc (p q:Fc) (w:World):(Op.equalIn 10000 129 p.val q.val).run prog w=.ok (decide (p=q)) w:=by
  have h:=run_equalIn_struct (P:=prog) w 9999 129 p.cells.toArray q.cells.toArray (by simp only[Program.fieldsOf,underlying129]) Tryz.stoodInHeld129;refine h.trans ?_;rw[← Fc.eqb_eq];simp only[Program.fieldsOf,underlying129];exact bT_ rfl aF_ rfl rfl (eqI m_ w) (bT_ rfl ai_ rfl rfl (eqS aZ_ w) (bT_ rfl ai_ rfl rfl (eqS aZ_ w) (bT_ rfl ai_ rfl rfl (eqS aZ_ w) (bT_ rfl aF_ rfl rfl (eqI m_ w) (bT_ rfl aF_ rfl rfl (eqI m_ w) (lo_ w))))))
theorem wg_ (p:Pc):hM_ prog 76 p.val:=fun e w=>by
 have hi:∀ (n:Int) (w:World),(Instr.checkKey e (9998+1) 3 (.int .i64 n)).run prog w=.ok () w:=fun n w=>MapKept.run_checkKey (d:=.int .i64) m_ zbG_ e 9998
 have h:∀ (n:Str) (w:World),(Instr.checkKey e (9998+1) 9 (str n)).run prog w=.ok () w:=fun n w=>MapKept.run_checkKey (d:=.string) aZ_ zbe_ e 9998
 refine ckF (n:=9999) ga_ fun f m=>?_;simp only[List.mem_cons,List.not_mem_nil,or_false]at m;rcases m with rfl|rfl|rfl|rfl|rfl|rfl|rfl|rfl|rfl|rfl
 ·exact⟨rfl,aF_,_,rfl,hi _⟩
 ·exact⟨rfl,ai_,_,rfl,h _⟩
 ·exact⟨rfl,ai_,_,rfl,h _⟩
 ·exact⟨rfl,ai_,_,rfl,h _⟩
 ·exact⟨rfl,ai_,_,rfl,h _⟩
 ·exact⟨rfl,ai_,_,rfl,h _⟩
 ·exact⟨rfl,ai_,_,rfl,h _⟩
 ·exact⟨rfl,aF_,_,rfl,hi _⟩
 ·exact⟨rfl,aF_,_,rfl,hi _⟩
 exact⟨rfl,aF_,_,rfl,hi _⟩
theorem Ap_:Elt prog 64 76 10 128:=hh_ underlying64 (z:=.agg (Pc.mk 0 [] [] [] [] [] [] 0 0 0).cells.toArray) zac_ rfl zad_
theorem dS_:gQ_ prog 76 [(0,1),(1,1),(2,1),(3,1),(4,1),(5,1),(6,1),(7,1),(8,1),(9,1)] [.int .i64 0,str [],str [],str [],str [],str [],str [],.int .i64 0,.int .i64 0,.int .i64 0]:=⟨_,V_,runUnderlying76,fun w=>by simp[P_,M_]⟩
theorem nA_:gQ_ prog 129 [(0,1),(1,1),(2,1),(3,1),(4,1),(5,1)] [.int .i64 0,str [],str [],str [],.int .i64 0,.int .i64 0]:=⟨_,aV_,runUnderlying129,fun w=>by simp[P_,M_]⟩
structure CS where
  sv:Value
  bm:Nat
  es:Array MapEntry
  clk:Nat
  Hr:Hp
def fR_ (kb:Nat) (frm:Int) (q:CS):Hp:=(kb,.cells #[.int .i64 frm,q.sv,.map (some q.bm)] 137 (0,0))::(q.bm,.map q.es q.clk)::q.Hr
structure CInv (l:List Pc) (q:CS):Prop where
  row:az_ 76 10 q.sv l.length (l.flatMap Pc.cells) q.Hr
  keys:q.es.toList.map (·.key)=l.map Pc.val
  vals:∀ x∈q.es.toList,x.val=.bool true
theorem CInv.push {l:List Pc} {p:Pc} {sv d:Value} {bm clk:Nat} {es:Array MapEntry} {Hr e:Hp} (h:CInv l ⟨sv,bm,es,clk,Hr⟩) (v:az_ 76 10 d (l.length+1) (l.flatMap Pc.cells++p.cells) e):CInv (l++[p]) ⟨d,bm,es.push ⟨p.val,.bool true,clk⟩,clk+1,e⟩:=by
 refine⟨?_,?_,?_⟩
 ·simpa [List.flatMap_append] using v
 ·have:=h.keys
  simp only at this;simp[this]
 intro x m;simp only[Array.toList_push,List.mem_append,List.mem_singleton]at m;rcases m with m|rfl
 ·exact h.vals x m
 rfl
theorem dT_ (p:Pc) {kb C:Nat} (frm:Int) (l:List Pc) (q:CS) (B:CInv l q) (O:l.length≤100000) :
    Tri prog 76 #[zp_ kb 0,.slice (some ⟨C,0,none⟩) 1 1] ((C,.cells p.cells.toArray 76 (0,0))::fR_ kb frm q) [] (fun _:{K:CS // CInv (ins frm l p) K}=>.tuple #[]) (fun K=>fR_ kb frm K.1) (fun _=>[]):=by
  obtain⟨k,a,b,c,r,s,t,lo,hi,f⟩:=p;obtain⟨sv,bm,es,clk,Hr⟩:=q;refine j_ func76 rfl rfl ntmps76 rfl fun P=>?_;refine Zz 8 ?_;refine bt_ [(0,zp_ kb 0),(6,.slice (some ⟨C,0,none⟩) 1 1),(7,.int .i64 1),(8,.int .i64 ((0:Nat):Int))] zl ?_;refine bO_ (ι:={x:Nat×CS // (x.1=0∧x.2=⟨sv,bm,es,clk,Hr⟩)∨(x.1=1∧CInv (ins frm l ⟨k,a,b,c,r,s,t,lo,hi,f⟩) x.2)}) (fun x=>[(0,zp_ kb 0),(6,.slice (some ⟨C,0,none⟩) 1 1),(7,.int .i64 1),(8,.int .i64 (x.1.1:Int))]) (fun x=>_::fR_ kb frm x.1.2) (fun _=>_) (fun x=>1 - x.1.1) ⟨(0,⟨sv,bm,es,clk,Hr⟩),.inl ⟨rfl,rfl⟩⟩ ?_;rintro ⟨⟨i,L⟩,N⟩;dsimp only at N;rcases N with⟨rfl,rfl⟩|⟨rfl,Q⟩
  · refine bt_ [(0,zp_ kb 0),(6,.slice (some ⟨C,0,none⟩) 1 1),(7,.int .i64 1),(8,.int .i64 0)] zl ?_;refine Zj 2 (fun d=>?_) fun d=>?_
    · exact absurd zad_ d
    · refine Zz 10 ?_;refine e_ (gk_ F_ L_ rfl rfl zad_ zad_) rfl (Zz 1 ?_);refine y_ V_ rfl fun G=>o_ 0 L_ rfl rfl rfl rfl rfl rfl (Zz 9 ?_)
      refine o_ 0 P_ rfl rfl rfl rfl rfl rfl (Zz 3 ?_)
      by_cases hm:(⟨k,a,b,c,r,s,t,lo,hi,frm⟩:Pc)∈l
      · obtain⟨j,J⟩:=(il_ ga_ (fun p q w=>eqPc p q w) (⟨k,a,b,c,r,s,t,lo,hi,frm⟩:Pc) l es.toList B.keys).2 hm B.vals;refine Zz 1 ?_;refine D_ 0 [0,1,2,3,4,5,6] zk zs (Zz 5 ?_);refine T_ rfl (eJ_ jS_ rfl rfl (fun v h _=>(h.own _ (List.mem_of_getElem? (i:=3) rfl)).1) (wg_ (⟨k,a,b,c,r,s,t,lo,hi,frm⟩:Pc)) J) rfl (T_ rfl (aR_ rfl) rfl (Zz 11 ?_));exact x_ ⟨(1,⟨sv,bm,es,clk,Hr⟩),.inr ⟨rfl,by simp only[ins,if_pos hm];exact B⟩⟩ Nat.zero_lt_one zl (F:=[_]) (@List.perm_append_comm _ [_] _) zh
      · have J:=(il_ ga_ (fun p q w=>eqPc p q w) (⟨k,a,b,c,r,s,t,lo,hi,frm⟩:Pc) l es.toList B.keys).1 hm;refine Zz 1 ?_;refine D_ 0 [0,1,2,3,4,5,6] zk zs (Zz 5 ?_);refine T_ rfl (eV_ jS_ bR_ rfl rfl (fun v h _=>(h.own _ (List.mem_of_getElem? (i:=3) rfl)).1) (wg_ (⟨k,a,b,c,r,s,t,lo,hi,frm⟩:Pc)) J) rfl (T_ rfl (aR_ rfl) rfl (Zz 5 ?_));refine ak_ [(G,.cells #[.int .i64 k,str a,str b,str c,str r,str s,str t,.int .i64 lo,.int .i64 hi,.int .i64 frm] 76 (0,0)),(C,.cells #[.int .i64 k,str a,str b,str c,str r,str s,str t,.int .i64 lo,.int .i64 hi,.int .i64 f] 76 (0,0)),(kb,.cells #[.int .i64 frm,sv,.map (some bm)] 137 (0,0))] zk ?_;refine D_ 1 [0,1,2,3,4] zk (fun _ a b=>⟨Vw.sat.sub a,b⟩) (Zz 6 ?_);refine p_ 5 rfl zk (aC_ 3 (.inr rfl) jS_ rfl rfl rfl rfl (wg_ (⟨k,a,b,c,r,s,t,lo,hi,frm⟩:Pc)) J (Zz 2 ?_));refine Q_ (fun _ a b=>⟨Vw.sat.sub a,b⟩) (Zz 2 ?_);refine ak_ [(G,.cells #[.int .i64 k,str a,str b,str c,str r,str s,str t,.int .i64 lo,.int .i64 hi,.int .i64 frm] 76 (0,0))] zk ?_;refine D_ 6 [0,1,2,3,5] zk (fun _ a b=>⟨Vw.sat.sub a,b⟩) (Zz 6 ?_);refine hj_ 4 6 rfl rfl zk ?_ ?_
        · refine Zz 3 ?_;refine Q_ (fun _ a b=>⟨Vw.sat.sub a,b⟩) (p_ 6 rfl zk (G_ F_ L_ V_ rfl rfl rfl rfl rfl rfl fun M=>Zz 2 ?_));refine Q_ (fun _ a b=>⟨Vw.sat.sub a.tail,b⟩) (p_ 7 rfl zk (aO_ (news:=Pc.cells (⟨k,a,b,c,r,s,t,lo,hi,frm⟩:Pc)) Ap_ B.row rfl rfl (@List.perm_append_comm _ [_,_,_,_,_] _) rfl (bz_ 0 rfl) (kY_ rfl) zan_ zaa_ rfl fun E H e=>?_));refine A_ (@List.perm_append_comm _ _ [_,_,_,_,_]) ?_;obtain⟨A,y,m,rfl,rfl,I⟩:=e.some zaa_;refine Zz 2 ?_;refine Q_ (fun _ a b=>⟨Vw.sat.sub a.tail,b⟩) (D_ 1 [8,9] zk (fun _ a b=>⟨Vw.sat.sub a.tail,b⟩) (Zz 3 ?_));refine p_ 10 rfl zk (o_ 3 kH_ rfl rfl rfl rfl rfl rfl (Zz 2 ?_));refine Q_ (fun _ a b=>⟨Vw.sat.sub a.tail,b⟩) (Zz 7 ?_);exact x_ ⟨(1,⟨.slice (some ⟨A,0,none⟩) (l.length+1) y,bm,es.push ⟨Pc.val (⟨k,a,b,c,r,s,t,lo,hi,frm⟩:Pc),.bool true,clk⟩,clk+1,[(A,.cells m 76 (0,0))]⟩),.inr ⟨rfl,by simp only[ins,if_neg hm];exact B.push e⟩⟩ Nat.zero_lt_one zl (F:=[_,_]) (@List.perm_append_comm _ [_,_] _) zh
        · refine G_ F_ L_ V_ rfl rfl rfl rfl rfl rfl fun M=>Zz 2 ?_
          refine Q_ (fun _ a b=>⟨Vw.sat.sub a.tail,b⟩) (p_ 4 rfl zk (Zz 3 ?_));refine Q_ (fun _ a b=>⟨Vw.sat.sub a.tail,b⟩) (p_ 7 rfl zk (aO_ (news:=Pc.cells (⟨k,a,b,c,r,s,t,lo,hi,frm⟩:Pc)) Ap_ B.row rfl rfl (@List.perm_append_comm _ [_,_,_,_,_] _) rfl (bz_ 0 rfl) (kY_ rfl) zan_ zaa_ rfl fun E H e=>?_));refine A_ (@List.perm_append_comm _ _ [_,_,_,_,_]) ?_;obtain⟨A,y,m,rfl,rfl,I⟩:=e.some zaa_;refine Zz 2 ?_;refine Q_ (fun _ a b=>⟨Vw.sat.sub a.tail,b⟩) (D_ 1 [8,9] zk (fun _ a b=>⟨Vw.sat.sub a.tail,b⟩) (Zz 3 ?_));refine p_ 10 rfl zk (o_ 3 kH_ rfl rfl rfl rfl rfl rfl (Zz 2 ?_));refine Q_ (fun _ a b=>⟨Vw.sat.sub a.tail,b⟩) (Zz 7 ?_);exact x_ ⟨(1,⟨.slice (some ⟨A,0,none⟩) (l.length+1) y,bm,es.push ⟨Pc.val (⟨k,a,b,c,r,s,t,lo,hi,frm⟩:Pc),.bool true,clk⟩,clk+1,[(A,.cells m 76 (0,0))]⟩),.inr ⟨rfl,by simp only[ins,if_neg hm];exact B.push e⟩⟩ Nat.zero_lt_one zl (F:=[_,_]) (@List.perm_append_comm _ [_,_] _) zh
  · refine bt_ [(0,zp_ kb 0),(6,.slice (some ⟨C,0,none⟩) 1 1),(7,.int .i64 1),(8,.int .i64 1)] zl ?_;refine Zj 2 (fun d=>?_) fun d=>?_
    · refine Zz 6 ?_;exact ck_ results76 ⟨L,Q⟩ rfl (F:=[_]) (@List.perm_append_comm _ [_] _) zt
    · exact absurd d zad_
theorem Bo_:gQ_ prog 137 [(0,1),(1,1),(2,1)] [.int .i64 0,.slice none 0 0,.map none]:=⟨_,zeroValue137,runUnderlying137,fun w=>by simp[P_,kH_,sizeOf135]⟩
theorem jb_ (frm:Int):Tri prog 70 #[.int .i64 frm] [] [] (fun x:Nat×Nat=>zp_ x.1 0) (fun x=>fR_ x.1 frm ⟨.slice none 0 0,x.2,#[],0,[]⟩) (fun _=>[]):=by
  refine j_ func70 rfl rfl ntmps70 rfl fun h=>?_;refine Zz 8 ?_;refine bu_ rfl fun e=>e_ (u_ Bo_ rfl rfl) rfl (K_ rfl rfl fun d=>Zz 4 ?_)
  exact aa_ results70 (d,e) rfl (F:=[]) (.refl _) zt
def kF (b kb:Nat):Fct:=bl_ b (.cells [zp_ kb 0].toArray 123 (0,0))
def lFn (b bk:Nat):Value:=.func (.func 141) #[] #[zp_ b 0,zp_ bk 0]
def lF (b bk:Nat):Fct:=bl_ b (.cells [lFn b bk].toArray 125 (0,0))
def rFn (b bk:Nat):Value:=.func (.func 142) #[] #[zp_ bk 0,zp_ b 0]
def rcF (b bk:Nat):Fct:=bl_ b (.cells [rFn b bk].toArray 125 (0,0))
theorem vM_ (kb:Nat):Tri prog 71 #[zp_ kb 0] [] [] (fun x:Nat×Nat×Nat=>.tuple #[lFn x.2.1 x.1,rFn x.2.2 x.1]) (fun _=>[]) (fun x=>[kF x.1 kb,lF x.2.1 x.1,rcF x.2.2 x.1]):=by
  refine j_ func71 rfl rfl ntmps71 rfl fun A=>?_;refine Zz 2 ?_;refine K_ rfl rfl fun d=>y_ zeroValue125 rfl fun e=>y_ zeroValue125 rfl fun m=>Zz 4 ?_
  refine e_ (bm_ rfl rfl) rfl (o_ 1 sizeOf125 rfl rfl rfl rfl rfl rfl (Zz 4 ?_));refine e_ (bm_ rfl rfl) rfl (o_ 0 sizeOf125 rfl rfl rfl rfl rfl rfl (Zz 4 ?_));refine D_ 2 [0,1] zk zs (Zz 3 ?_);refine p_ 2 rfl zk (o_ 1 sizeOf125 rfl rfl rfl rfl rfl rfl (Zz 3 ?_));refine p_ 3 rfl zk (o_ 0 sizeOf125 rfl rfl rfl rfl rfl rfl (Zz 6 ?_));refine ja_ 0 rfl ?_;refine ja_ 0 rfl ?_;refine ja_ 0 rfl ?_;exact retG (d,e,m) (fun a v y B h=>BB_ results71 kI_ kI_ y rfl rfl (oM_ (cs:=[lFn e d]) 0 h.2.1 rfl) (oM_ (cs:=[rFn m d]) 0 h.2.2.1 rfl)) (F:=[]) (.refl _) zf
theorem Con.mem_tail {c:Con} (d:c.ok) {v:Vw} (h:c.mem v):bY_ v (sad c.ad c.cap 1 5) ((c.parts.drop 1).flatMap Con.cells):=by
  have:=((Con.mem_iff c v).1 h).1.slice Con.cells_len (Con.ok_len d).1 1 c.parts.length;rwa [List.take_of_length_le zaf_]at this
theorem Con.drop_at {ps:List Con} {p:Con} {i:Nat} (d:ps[i]? = some p):ps.drop i=p::ps.drop (i+1):=by
  have hi:=(List.getElem?_eq_some_iff.1 d).1;rw[List.getElem?_eq_getElem hi]at d;simp only[Option.some.injEq]at d;subst d;exact List.drop_eq_getElem_cons hi
theorem Con.szs_append:∀ (xs ys:List Con),Con.sz.szs (xs++ys)=Con.sz.szs xs+Con.sz.szs ys
  | [],ys=>by simp[Con.sz.szs]
  | x::xs,ys=>by simp only[List.cons_append,Con.sz.szs,Con.szs_append xs ys];omega
theorem Con.sz_at {ps:List Con} {p:Con} {i:Nat} (d:ps[i]? = some p):Con.sz.szs (ps.take i)+p.sz≤Con.sz.szs ps:=by
  have e:Con.sz.szs ps=Con.sz.szs (ps.take i++(p::ps.drop (i+1))):=by rw[← Con.drop_at d,List.take_append_drop]
  rw[e,Con.szs_append];simp only[Con.sz.szs];omega
theorem Con.lefts_len (frm:Int) (ps:List Con) (i:Nat) (l:List Pc):(Con.leftP.lefts frm (ps.take i) l).length+(ps.take i).length≤l.length+2*Con.sz.szs (ps.take i):=by
  generalize ps.take i=qs
  induction qs generalizing l with
  | nil=>simp[Con.leftP.lefts]
  | cons p qs ih =>
    have d:=Con.leftP_len frm _ p (Nat.le_refl _) l;have e:=ih (p.leftP frm l);simp only[Con.leftP.lefts,Con.sz.szs,List.length_cons];omega
theorem Con.rights_len (frm:Int) (a:Str) (ps:List Con) (i:Nat) (l:List Pc):(Con.rightP.rights frm a (ps.take i) l).length≤l.length+2*Con.sz.szs (ps.take i):=by
  generalize ps.take i=qs
  induction qs generalizing l with
  | nil=>simp[Con.rightP.rights]
  | cons p qs ih =>
    have d:=cj_ frm l ⟨1,a,[],p.atom,[],[],[],0,0,0⟩;have e:=Con.rightP_len frm _ p (Nat.le_refl _) (ins frm l ⟨1,a,[],p.atom,[],[],[],0,0,0⟩);have h:=ih (p.rightP frm (ins frm l ⟨1,a,[],p.atom,[],[],[],0,0,0⟩));simp only[Con.rightP.rights,Con.sz.szs];omega
theorem Con.headD_atom {ps:List Con} {p:Con} (d:ps[0]? = some p):(ps.map Con.atom).headD []=p.atom:=by cases ps<;>simp_all
theorem Con.leftP5 {c:Con} (h:c.kind=5) (frm:Int) (l:List Pc):c.leftP frm l=Con.andP frm c (c.parts.drop 1) 1 ((c.parts.map Con.atom).headD []) (Con.leftP.lefts frm c.parts l):=by rw[Con.leftP_eq,if_pos h]
theorem Con.leftP6 {c p:Con} (h:c.kind=6) (d:c.parts=[p]) (frm:Int) (l:List Pc):c.leftP frm l=ins frm (p.leftP frm l) ⟨4,p.atom,[],c.atom,c.name,[],[],0,0,0⟩:=by
  rw[Con.leftP_eq,if_neg zaa_,if_pos h,d];rfl
theorem Con.leftP7 {c:Con} (h:c.kind=7) (frm:Int) (l:List Pc):c.leftP frm l=ins frm l ⟨9,[],[],c.atom,c.name,[],[],c.lo,c.hi,0⟩:=by rw[Con.leftP_eq,if_neg zaa_,if_neg zaa_,if_pos h]
theorem Con.leftP0 {c:Con} (e:c.kind≠5) (d:c.kind≠6) (h:c.kind≠7) (frm:Int) (l:List Pc):c.leftP frm l=l:=by rw[Con.leftP_eq,if_neg e,if_neg d,if_neg h]
theorem Con.rightP5 {c:Con} (h:c.kind=5) (frm:Int) (l:List Pc):c.rightP frm l=Con.rightP.rights frm c.atom c.parts l:=by rw[Con.rightP_eq,if_pos h]
theorem Con.rightP6 {c p:Con} (h:c.kind=6) (d:c.parts=[p]) (frm:Int) (l:List Pc):c.rightP frm l=p.rightP frm (ins frm l ⟨3,c.atom,[],p.atom,c.name,[],[],0,0,0⟩):=by
  rw[Con.rightP_eq,if_neg zaa_,if_pos h,d];rfl
theorem Con.rightP7 {c:Con} (h:c.kind=7) (frm:Int) (l:List Pc):c.rightP frm l=ins frm l ⟨8,c.atom,[],[],c.name,[],[],c.lo,c.hi,0⟩:=by rw[Con.rightP_eq,if_neg zaa_,if_neg zaa_,if_pos h]
theorem Con.rightP0 {c:Con} (e:c.kind≠5) (d:c.kind≠6) (h:c.kind≠7) (frm:Int) (l:List Pc):c.rightP frm l=l:=by rw[Con.rightP_eq,if_neg e,if_neg d,if_neg h]
theorem iQ_:gQ_ prog 28 [(0,1),(1,1),(2,1),(3,1),(4,1)] [.int .i64 0,str [],.int .i64 0,.int .i64 0,.slice none 0 0]:=⟨_,aH_,bX_,fun w=>by simp[P_,M_,sizeOf26]⟩
theorem kA_ {kb bk bs:Nat} {frm:Int}:∀ (d:Nat) (c:Con),c.sz≤d→c.ok→c.fine→∀ (l:List Pc) (q:CS),CInv l q→l.length+2*c.sz≤100000 →
    Tri prog 141 #[c.val,zp_ bs 0,zp_ bk 0] (fR_ kb frm q) [c.memF,bN_,kF bk kb,lF bs bk] (fun _:{X:CS // CInv (c.leftP frm l) X}=>.tuple #[]) (fun X=>fR_ kb frm X.1) (fun _=>[]):=by
  intro d
  induction d with
  | zero=>intro c h;have:=c.sz_pos;omega
  | succ d ih =>
    intro c hd y Z l q V hl;have F:=Con.fields Z;have I:=F.le;have J:=F.mo;obtain⟨k,nm,lo,hi,ad,cap,ps⟩:=c;have R:=Con.ok_len y;have hsz:(Con.mk k nm lo hi ad cap ps).sz=1+Con.sz.szs ps:=by simp only[Con.sz]
    have hsl:=Con.szs_len ps;simp only[Con.parts,Con.cap,Con.kind]at R I J;refine j_ func141 rfl rfl ntmps141 rfl fun v_1=>?_;refine Zz 2 ?_;refine K_ rfl rfl fun C=>Zj 11 (fun N=>?_) fun N=>?_
    · refine Zj 6 (fun E=>?_) fun E=>?_
      · refine Zj 6 (fun K=>?_) fun K=>?_
        · refine Zz 6 ?_;exact ck_ results141 ⟨q,(by rw[Con.leftP0 (c:=(.mk k nm lo hi ad cap ps)) zai_ zai_ zai_];exact V)⟩ rfl (F:=[_]) (@List.perm_append_comm _ [_] _) zt
        · refine Zz 4 ?_;refine ak_ [(C,.cells (Con.cells (Con.mk k nm lo hi ad cap ps)).toArray 28 (0,0))] zk ?_;refine D_ 4 [0,1,2,3,4,5,6,7] zk (fun _ a b=>⟨Vw.sat.sub a,b⟩) (T_ rfl (cr_ (cs:=[zp_ kb 0]) rB_ rfl (fun v _ h=>h.2.2.1) rfl) rfl (Zz 8 ?_));refine p_ 8 rfl zk (f_ (cH_ (.mk k nm lo hi ad cap ps) y) rfl (.refl _) zf rfl fun _=>Zz 2 ?_);refine Q_ (fun _ a b=>⟨Vw.sat.sub a,b⟩) (D_ 2 [9] zk (fun _ a b=>⟨Vw.sat.sub a,b⟩) (T_ rfl (u_ dS_ rfl rfl) rfl (bV_ (p_ 10 rfl zk (G_ F_ L_ V_ rfl rfl rfl rfl rfl rfl fun L=>Zz 2 ?_)))));refine Q_ (fun _ a b=>⟨Vw.sat.sub a.tail,b⟩) (p_ 11 rfl zk (f_ (dT_ ⟨9,[],[],Con.atom (.mk k nm lo hi ad cap ps),nm,[],[],lo,hi,0⟩ frm l q V zaa_) rfl (.cons _ (@List.perm_append_comm _ [_] _)) zt rfl fun x=>?_));obtain⟨G,A⟩:=x;refine A_ (@List.perm_append_comm _ _ [_]) (Zz 2 ?_);refine Q_ (fun _ a b=>⟨Vw.sat.sub a,b⟩) (Zz 2 ?_);exact ck_ results141 ⟨G,(by rw[Con.leftP7 (c:=(.mk k nm lo hi ad cap ps)) zai_];exact A)⟩ rfl (F:=[_]) (@List.perm_append_comm _ [_] _) zt
      · rw[E]at I J;simp[nd,dF_]at I J
        obtain⟨p,Q⟩:=List.length_eq_one_iff.1 (show ps.length=1 by omega);have B:ps[0]? = some p:=by rw[Q];rfl
        have m:p∈ps:=List.mem_of_getElem? B;refine Zz 5 ?_;refine ak_ [(C,.cells (Con.cells (Con.mk k nm lo hi ad cap ps)).toArray 28 (0,0))] zk ?_;refine D_ 1 [0,1,2,3,4] zk (fun _ a b=>⟨Vw.sat.sub a,b⟩) (T_ rfl (cr_ (cs:=[lFn bs bk]) kI_ rfl (fun v _ h=>h.2.2.2.1) rfl) rfl (Zz 2 ?_));refine T_ rfl (U_ ab_ n_ rfl rfl (fun v _ h=>aK_ (n:=5) Con.cells_len zad_ (((Con.mem_iff (.mk k nm lo hi ad cap ps) v).1 h.1).1) B) zaa_ zae_) rfl ?_;refine T_ rfl (al_ (ad:=ad) (us:=p.cells) ac_ n_ rfl (fun v _ h=>((Con.mem_iff (.mk k nm lo hi ad cap ps) v).1 h.1).1) (Con.cells_len _) (z_ Con.cells_len B)) rfl (bV_ (p_ 5 rfl zk (Z_ (ih p zbI_ (Con.ok_part (c:=(.mk k nm lo hi ad cap ps)) y m) (Con.fine_part (c:=(.mk k nm lo hi ad cap ps)) Z m) l q V (by have:=Con.sz_at B;omega)) rfl rfl (@List.perm_append_comm _ [_] _) (fun v _ h=>by exact⟨Con.mem_part (c:=(.mk k nm lo hi ad cap ps)) h.1 m,h.2⟩) rfl fun x=>?_)));obtain⟨G,A⟩:=x;refine A_ (@List.perm_append_comm _ _ [_]) (Zz 2 ?_);refine Q_ (fun _ a b=>⟨Vw.sat.sub a,b⟩) (Zz 2 ?_);refine ak_ [(C,.cells (Con.cells (Con.mk k nm lo hi ad cap ps)).toArray 28 (0,0))] zk ?_;refine D_ 5 [0,1,2,3,4,5,6,8] zk (fun _ a b=>⟨Vw.sat.sub a,b⟩) (T_ rfl (cr_ (cs:=[zp_ kb 0]) rB_ rfl (fun v _ h=>h.2.2.1) rfl) rfl (Zz 4 ?_));refine T_ rfl (U_ ab_ n_ rfl rfl (fun v _ h=>aK_ (n:=5) Con.cells_len zad_ (((Con.mem_iff (.mk k nm lo hi ad cap ps) v).1 h.1).1) B) zaa_ zae_) rfl ?_;refine T_ rfl (al_ (ad:=ad) (us:=p.cells) ac_ n_ rfl (fun v _ h=>((Con.mem_iff (.mk k nm lo hi ad cap ps) v).1 h.1).1) (Con.cells_len _) (z_ Con.cells_len B)) rfl (Zz 2 ?_);refine p_ 7 rfl zk (f_ (cH_ p (Con.ok_part (c:=(.mk k nm lo hi ad cap ps)) y m)) rfl (.refl _) (fun v _ h=>⟨Con.mem_part (c:=(.mk k nm lo hi ad cap ps)) h.1 m,h.2.1,trivial⟩) rfl fun _=>Zz 2 ?_);refine Q_ (fun _ a b=>⟨Vw.sat.sub a,b⟩) (p_ 9 rfl zk (f_ (cH_ (.mk k nm lo hi ad cap ps) y) rfl (.refl _) zf rfl fun _=>Zz 2 ?_));refine Q_ (fun _ a b=>⟨Vw.sat.sub a,b⟩) (D_ 2 [10] zk (fun _ a b=>⟨Vw.sat.sub a,b⟩) (T_ rfl (u_ dS_ rfl rfl) rfl (bV_ (p_ 11 rfl zk (G_ F_ L_ V_ rfl rfl rfl rfl rfl rfl fun L=>Zz 2 ?_)))));refine Q_ (fun _ a b=>⟨Vw.sat.sub a.tail,b⟩) (p_ 12 rfl zk (f_ (dT_ ⟨4,p.atom,[],Con.atom (.mk k nm lo hi ad cap ps),nm,[],[],0,0,0⟩ frm (p.leftP frm l) G A (by have:=Con.leftP_len frm _ p (Nat.le_refl _) l;have:=Con.sz_at B;omega)) rfl (.cons _ (@List.perm_append_comm _ [_] _)) zt rfl fun x=>?_));obtain⟨H,T⟩:=x;refine A_ (@List.perm_append_comm _ _ [_]) (Zz 2 ?_);refine Q_ (fun _ a b=>⟨Vw.sat.sub a,b⟩) (Zz 2 ?_);exact ck_ results141 ⟨H,(by rw[Con.leftP6 (c:=(.mk k nm lo hi ad cap ps)) (p:=p) zai_ Q];exact T)⟩ rfl (F:=[_]) (@List.perm_append_comm _ [_] _) zt
    · rw[N]at I J;simp[nd,dF_]at I J
      refine Zz 14 ?_;refine bt_ [(1,zp_ bs 0),(2,zp_ bk 0),(3,zp_ C 0),(15,.slice ad ps.length cap),(16,.int .i64 (ps.length:Int)),(17,.int .i64 ((0:Nat):Int))] zl ?_;refine bO_ (ι:={x:Nat×CS // x.1≤ps.length∧CInv (Con.leftP.lefts frm (ps.take x.1) l) x.2}) (fun x=>[(1,zp_ bs 0),(2,zp_ bk 0),(3,zp_ C 0),(15,.slice ad ps.length cap),(16,.int .i64 (ps.length:Int)),(17,.int .i64 (x.1.1:Int))]) (fun x=>_::fR_ kb frm x.1.2) (fun _=>_) (fun x=>ps.length - x.1.1) ⟨(0,q),by simp,by simpa [Con.leftP.lefts] using V⟩ ?_;rintro ⟨⟨i,G⟩,W⟩;dsimp only at W;refine bt_ [(1,zp_ bs 0),(2,zp_ bk 0),(3,zp_ C 0),(15,.slice ad ps.length cap),(16,.int .i64 (ps.length:Int)),(17,.int .i64 (i:Int))] zl ?_;refine Zj 2 (fun E=>?_) fun E=>?_
      · obtain rfl:i=ps.length:=by omega
        rw[List.take_length]at W;obtain⟨p,B⟩:∃ p,ps[0]? = some p:=⟨_,List.getElem?_eq_getElem (show 0<ps.length by omega)⟩;have m:p∈ps:=List.mem_of_getElem? B;refine Zz 10 ?_;refine e_ (U_ ab_ n_ rfl rfl (fun v _ h=>aK_ (n:=5) Con.cells_len zad_ (((Con.mem_iff (.mk k nm lo hi ad cap ps) v).1 h.1).1) B) zaa_ zae_) rfl ?_;refine e_ (al_ (ad:=ad) (us:=p.cells) ac_ n_ rfl (fun v _ h=>((Con.mem_iff (.mk k nm lo hi ad cap ps) v).1 h.1).1) (Con.cells_len _) (z_ Con.cells_len B)) rfl (f_ (cH_ p (Con.ok_part (c:=(.mk k nm lo hi ad cap ps)) y m)) rfl (.refl _) (fun v _ h=>⟨Con.mem_part (c:=(.mk k nm lo hi ad cap ps)) h.1 m,h.2.1,trivial⟩) rfl fun _=>Zz 7 ?_);refine e_ (dH_ (i:=1) (j:=ps.length) (kl:=.i64) (kh:=.i64) ab_ n_ rfl rfl rfl zaa_ (by first|omega|(simp only[Con.cap];omega))) rfl ?_;refine Zz 5 ?_;refine bt_ [(1,zp_ bs 0),(2,zp_ bk 0),(3,zp_ C 0),(6,str p.atom),(32,.slice (sad ad cap 1 5) (ps.length - 1) (cap - 1)),(33,.int .i64 ((ps.length - 1:Nat):Int)),(34,.int .i64 ((0:Nat):Int))] zl ?_;have hh:=Con.headD_atom B;have S:=Con.lefts_len frm ps ps.length l;rw[List.take_length]at S;generalize p.atom=f0 at hh ⊢
        refine bO_ (ι:={x:Nat×Str×List Pc×CS // x.1≤ps.length - 1∧CInv x.2.2.1 x.2.2.2∧x.2.2.1.length≤(Con.leftP.lefts frm ps l).length+x.1∧Con.andP frm (.mk k nm lo hi ad cap ps) (ps.drop 1) 1 f0 (Con.leftP.lefts frm ps l)=Con.andP frm (.mk k nm lo hi ad cap ps) (ps.drop (1+x.1)) (1+x.1) x.2.1 x.2.2.1}) (fun x=>[(1,zp_ bs 0),(2,zp_ bk 0),(3,zp_ C 0),(6,str x.1.2.1),(32,.slice (sad ad cap 1 5) (ps.length - 1) (cap - 1)),(33,.int .i64 ((ps.length - 1:Nat):Int)),(34,.int .i64 (x.1.1:Int))]) (fun x=>_::fR_ kb frm x.1.2.2.2) (fun _=>_) (fun x=>ps.length - 1 - x.1.1) ⟨(0,f0,(Con.leftP.lefts frm ps l),G),by simp,W.2,by simp,rfl⟩ ?_;rintro ⟨⟨i,f,P,H⟩,U⟩;dsimp only at U;refine bt_ [(1,zp_ bs 0),(2,zp_ bk 0),(3,zp_ C 0),(6,str f),(32,.slice (sad ad cap 1 5) (ps.length - 1) (cap - 1)),(33,.int .i64 ((ps.length - 1:Nat):Int)),(34,.int .i64 (i:Int))] zl ?_;refine Zj 2 (fun K=>?_) fun K=>?_
        · refine Zz 6 ?_;exact ck_ results141 ⟨H,(by have e:=U.2.2.2;rw[List.drop_of_length_le (show ps.length≤1+i by omega)]at e;rw[Con.leftP5 (c:=(.mk k nm lo hi ad cap ps)) zai_];simp only[Con.parts,hh];rw[e];exact U.2.1)⟩ rfl (F:=[_]) (@List.perm_append_comm _ [_] _) zt
        · have O:i<ps.length - 1:=by omega
          obtain⟨p,B⟩:∃ p,(ps.drop 1)[i]? = some p:=⟨_,List.getElem?_eq_getElem zap_⟩;have M:ps[1+i]? = some p:=by rw[← List.getElem?_drop];exact B
          have m:p∈ps:=List.mem_of_getElem? M;refine Zz 11 ?_;refine e_ (U_ ab_ n_ rfl rfl (fun v _ h=>aK_ (n:=5) Con.cells_len zad_ ((Con.mem_tail (c:=(.mk k nm lo hi ad cap ps)) y h.1)) B) zaa_ zae_) rfl ?_;refine e_ (al_ (ad:=(sad ad cap 1 5)) (us:=p.cells) ac_ n_ rfl (fun v _ h=>(Con.mem_tail (c:=(.mk k nm lo hi ad cap ps)) y h.1)) (Con.cells_len _) (z_ Con.cells_len B)) rfl (y_ aH_ rfl fun L=>Zz 1 ?_);refine fz_ 0 n_ rfl rfl rfl rfl (Zz 8 ?_);refine e_ (ao_ (dH_ (i:=0) (j:=i+2) (kl:=.i64) (kh:=.i64) ab_ n_ rfl rfl rfl zaa_ (by first|omega|(simp only[Con.cap];omega))) (show _=Value.slice (sad ad cap 0 5) (ps.take (i+2)).length (cap - 0) by rw[List.length_take,Nat.min_eq_left zaa_];rfl)) rfl ?_;refine e_ (u_ iQ_ rfl rfl) rfl (f_ (cH_ (Con.pre (.mk k nm lo hi ad cap ps) (i+2)) (Con.pre_ok y _)) rfl (.refl _) (fun v _ h=>⟨Con.pre_mem y h.1 _,h.2.1,trivial⟩) rfl fun _=>Zz 4 ?_);refine ak_ [(L,.cells p.cells.toArray 28 (0,0)),(C,.cells (Con.cells (Con.mk k nm lo hi ad cap ps)).toArray 28 (0,0))] zk ?_;refine D_ 4 [0,1,2,4] zk (fun _ a b=>⟨Vw.sat.sub a,b⟩) (T_ rfl (cr_ (cs:=[zp_ kb 0]) rB_ rfl (fun v _ h=>h.2.2.1) rfl) rfl (Zz 1 ?_));refine T_ rfl (cP_ 0 ac_ n_ rfl rfl) rfl (Zz 2 ?_);refine p_ 3 rfl zk (f_ (cH_ p (Con.ok_part (c:=(.mk k nm lo hi ad cap ps)) y m)) rfl (.refl _) (fun v _ h=>⟨Con.mem_part (c:=(.mk k nm lo hi ad cap ps)) h.1 m,h.2.1,trivial⟩) rfl fun _=>Zz 2 ?_);refine Q_ (fun _ a b=>⟨Vw.sat.sub a,b⟩) (D_ 2 [5] zk (fun _ a b=>⟨Vw.sat.sub a,b⟩) (T_ rfl (u_ dS_ rfl rfl) rfl (bV_ (p_ 6 rfl zk (G_ F_ L_ V_ rfl rfl rfl rfl rfl rfl fun b_3=>Zz 2 ?_)))));refine Q_ (fun _ a b=>⟨Vw.sat.sub a.tail,b⟩) (p_ 7 rfl zk (f_ (dT_ ⟨2,f,p.atom,(Con.pre (.mk k nm lo hi ad cap ps) (i+2)).atom,[],[],[],0,0,0⟩ frm P H U.2.1 zaa_) rfl (.cons _ (@List.perm_append_comm _ [_,_] _)) zt rfl fun x=>?_));obtain⟨Y,A⟩:=x;refine A_ (@List.perm_append_comm _ _ [_,_]) (Zz 2 ?_);refine Q_ (fun _ a b=>⟨Vw.sat.sub a,b⟩) (Zz 12 ?_);exact x_ ⟨(i+1,(Con.pre (.mk k nm lo hi ad cap ps) (i+2)).atom,(ins frm P ⟨2,f,p.atom,(Con.pre (.mk k nm lo hi ad cap ps) (i+2)).atom,[],[],[],0,0,0⟩),Y),by omega,A,by have:=cj_ frm P ⟨2,f,p.atom,(Con.pre (.mk k nm lo hi ad cap ps) (i+2)).atom,[],[],[],0,0,0⟩;dsimp only;omega,by rw[U.2.2.2,Con.drop_at M];simp only[Con.andP];rw[show 1+i+1=i+2 by omega,show 1+(i+1)=i+2 by omega]⟩ zap_ zl (F:=[_]) (@List.perm_append_comm _ [_] _) zh
      · have O:i<ps.length:=by omega
        obtain⟨p,B⟩:∃ p,ps[i]? = some p:=⟨_,List.getElem?_eq_getElem O⟩;have m:p∈ps:=List.mem_of_getElem? B;refine Zz 10 ?_;refine e_ (U_ ab_ n_ rfl rfl (fun v _ h=>aK_ (n:=5) Con.cells_len zad_ (((Con.mem_iff (.mk k nm lo hi ad cap ps) v).1 h.1).1) B) zaa_ zae_) rfl ?_;refine e_ (al_ (ad:=ad) (us:=p.cells) ac_ n_ rfl (fun v _ h=>((Con.mem_iff (.mk k nm lo hi ad cap ps) v).1 h.1).1) (Con.cells_len _) (z_ Con.cells_len B)) rfl (y_ aH_ rfl fun L=>fz_ 0 n_ rfl rfl rfl rfl (Zz 3 ?_));refine e_ (cr_ (cs:=[lFn bs bk]) kI_ rfl (fun v _ h=>h.2.2.2.1) rfl) rfl (e_ (cP_ 0 ac_ n_ rfl rfl) rfl (Z_ (ih p zbI_ (Con.ok_part (c:=(.mk k nm lo hi ad cap ps)) y m) (Con.fine_part (c:=(.mk k nm lo hi ad cap ps)) Z m) (Con.leftP.lefts frm (ps.take i) l) G W.2 (by have:=Con.lefts_len frm ps i l;have:=Con.sz_at B;omega)) rfl rfl (@List.perm_append_comm _ [_,_] _) (fun v _ h=>by exact⟨Con.mem_part (c:=(.mk k nm lo hi ad cap ps)) h.1 m,h.2⟩) rfl fun x=>?_));obtain⟨H,A⟩:=x;refine A_ (@List.perm_append_comm _ _ [_,_]) (Zz 7 ?_);exact x_ ⟨(i+1,H),O,by rw[Con.lefts_step frm B];exact A⟩ zap_ zl (F:=[_]) (@List.perm_append_comm _ [_] _) zh
theorem jA_ {kb bk bs:Nat} {frm:Int}:∀ (d:Nat) (c:Con),c.sz≤d→c.ok→c.fine→∀ (l:List Pc) (q:CS),CInv l q→l.length+2*c.sz≤100000 →
    Tri prog 142 #[c.val,zp_ bk 0,zp_ bs 0] (fR_ kb frm q) [c.memF,bN_,kF bk kb,rcF bs bk] (fun _:{S:CS // CInv (c.rightP frm l) S}=>.tuple #[]) (fun S=>fR_ kb frm S.1) (fun _=>[]):=by
  intro d
  induction d with
  | zero=>intro c h;have:=c.sz_pos;omega
  | succ d ih =>
    intro c Z m U l q Q hl;have F:=Con.fields U;have G:=F.le;have H:=F.mo;obtain⟨k,nm,lo,hi,ad,cap,ps⟩:=c;have P:=Con.ok_len m;have X:(Con.mk k nm lo hi ad cap ps).sz=1+Con.sz.szs ps:=by simp only[Con.sz]
    have W:=Con.szs_len ps;simp only[Con.parts,Con.cap,Con.kind]at P G H;refine j_ func142 rfl rfl ntmps142 rfl fun V=>?_;refine Zz 2 ?_;refine K_ rfl rfl fun A=>Zj 11 (fun J=>?_) fun J=>?_
    · refine Zj 6 (fun B=>?_) fun B=>?_
      · refine Zj 6 (fun M=>?_) fun M=>?_
        · refine Zz 6 ?_;exact ck_ results142 ⟨q,(by rw[Con.rightP0 (c:=(.mk k nm lo hi ad cap ps)) zai_ zai_ zai_];exact Q)⟩ rfl (F:=[_]) (@List.perm_append_comm _ [_] _) zt
        · refine Zz 4 ?_;refine ak_ [(A,.cells (Con.cells (Con.mk k nm lo hi ad cap ps)).toArray 28 (0,0))] zk ?_;refine D_ 4 [0,1,3,4,5,6,7,8] zk (fun _ a b=>⟨Vw.sat.sub a,b⟩) (T_ rfl (cr_ (cs:=[zp_ kb 0]) rB_ rfl (fun v _ h=>h.2.2.1) rfl) rfl (Zz 8 ?_));refine p_ 2 rfl zk (f_ (cH_ (.mk k nm lo hi ad cap ps) m) rfl (.refl _) zf rfl fun _=>Zz 2 ?_);refine Q_ (fun _ a b=>⟨Vw.sat.sub a,b⟩) (D_ 2 [9] zk (fun _ a b=>⟨Vw.sat.sub a,b⟩) (T_ rfl (u_ dS_ rfl rfl) rfl (bV_ (p_ 10 rfl zk (G_ F_ L_ V_ rfl rfl rfl rfl rfl rfl fun K=>Zz 2 ?_)))));refine Q_ (fun _ a b=>⟨Vw.sat.sub a.tail,b⟩) (p_ 11 rfl zk (f_ (dT_ ⟨8,Con.atom (.mk k nm lo hi ad cap ps),[],[],nm,[],[],lo,hi,0⟩ frm l q Q zaa_) rfl (.cons _ (@List.perm_append_comm _ [_] _)) zt rfl fun x=>?_));obtain⟨C,y⟩:=x;refine A_ (@List.perm_append_comm _ _ [_]) (Zz 2 ?_);refine Q_ (fun _ a b=>⟨Vw.sat.sub a,b⟩) (Zz 2 ?_);exact ck_ results142 ⟨C,(by rw[Con.rightP7 (c:=(.mk k nm lo hi ad cap ps)) zai_];exact y)⟩ rfl (F:=[_]) (@List.perm_append_comm _ [_] _) zt
      · rw[B]at G H;simp[nd,dF_]at G H
        obtain⟨p,O⟩:=List.length_eq_one_iff.1 (show ps.length=1 by omega);have E:ps[0]? = some p:=by rw[O];rfl
        have e:p∈ps:=List.mem_of_getElem? E;refine Zz 5 ?_;refine ak_ [(A,.cells (Con.cells (Con.mk k nm lo hi ad cap ps)).toArray 28 (0,0))] zk ?_;refine D_ 5 [0,1,3,4,5,6,7,8] zk (fun _ a b=>⟨Vw.sat.sub a,b⟩) (T_ rfl (cr_ (cs:=[zp_ kb 0]) rB_ rfl (fun v _ h=>h.2.2.1) rfl) rfl (Zz 5 ?_));refine T_ rfl (U_ ab_ n_ rfl rfl (fun v _ h=>aK_ (n:=5) Con.cells_len zad_ (((Con.mem_iff (.mk k nm lo hi ad cap ps) v).1 h.1).1) E) zaa_ zae_) rfl ?_;refine T_ rfl (al_ (ad:=ad) (us:=p.cells) ac_ n_ rfl (fun v _ h=>((Con.mem_iff (.mk k nm lo hi ad cap ps) v).1 h.1).1) (Con.cells_len _) (z_ Con.cells_len E)) rfl (bV_ (p_ 2 rfl zk (f_ (cH_ (.mk k nm lo hi ad cap ps) m) rfl (.refl _) zf rfl fun _=>Zz 2 ?_)));refine Q_ (fun _ a b=>⟨Vw.sat.sub a,b⟩) (p_ 9 rfl zk (f_ (cH_ p (Con.ok_part (c:=(.mk k nm lo hi ad cap ps)) m e)) rfl (.refl _) (fun v _ h=>⟨Con.mem_part (c:=(.mk k nm lo hi ad cap ps)) h.1 e,h.2.1,trivial⟩) rfl fun _=>Zz 2 ?_));refine Q_ (fun _ a b=>⟨Vw.sat.sub a,b⟩) (D_ 2 [10] zk (fun _ a b=>⟨Vw.sat.sub a,b⟩) (T_ rfl (u_ dS_ rfl rfl) rfl (bV_ (p_ 11 rfl zk (G_ F_ L_ V_ rfl rfl rfl rfl rfl rfl fun K=>Zz 2 ?_)))));refine Q_ (fun _ a b=>⟨Vw.sat.sub a.tail,b⟩) (p_ 12 rfl zk (f_ (dT_ ⟨3,Con.atom (.mk k nm lo hi ad cap ps),[],p.atom,nm,[],[],0,0,0⟩ frm l q Q zaa_) rfl (.cons _ (@List.perm_append_comm _ [_] _)) zt rfl fun x=>?_));obtain⟨C,y⟩:=x;refine A_ (@List.perm_append_comm _ _ [_]) (Zz 2 ?_);refine Q_ (fun _ a b=>⟨Vw.sat.sub a,b⟩) (Zz 2 ?_);refine ak_ [(A,.cells (Con.cells (Con.mk k nm lo hi ad cap ps)).toArray 28 (0,0))] zk ?_;refine D_ 1 [0,1,2,3,4] zk (fun _ a b=>⟨Vw.sat.sub a,b⟩) (T_ rfl (cr_ (cs:=[rFn bs bk]) kI_ rfl (fun v _ h=>h.2.2.2.1) rfl) rfl (Zz 2 ?_));refine T_ rfl (U_ ab_ n_ rfl rfl (fun v _ h=>aK_ (n:=5) Con.cells_len zad_ (((Con.mem_iff (.mk k nm lo hi ad cap ps) v).1 h.1).1) E) zaa_ zae_) rfl ?_;refine T_ rfl (al_ (ad:=ad) (us:=p.cells) ac_ n_ rfl (fun v _ h=>((Con.mem_iff (.mk k nm lo hi ad cap ps) v).1 h.1).1) (Con.cells_len _) (z_ Con.cells_len E)) rfl (bV_ (p_ 5 rfl zk (Z_ (ih p zbJ_ (Con.ok_part (c:=(.mk k nm lo hi ad cap ps)) m e) (Con.fine_part (c:=(.mk k nm lo hi ad cap ps)) U e) (ins frm l ⟨3,Con.atom (.mk k nm lo hi ad cap ps),[],p.atom,nm,[],[],0,0,0⟩) C y (by have:=cj_ frm l ⟨3,Con.atom (.mk k nm lo hi ad cap ps),[],p.atom,nm,[],[],0,0,0⟩;have:=Con.sz_at E;omega)) rfl rfl (@List.perm_append_comm _ [_] _) (fun v _ h=>by exact⟨Con.mem_part (c:=(.mk k nm lo hi ad cap ps)) h.1 e,h.2⟩) rfl fun x=>?_)));obtain⟨L,I⟩:=x;refine A_ (@List.perm_append_comm _ _ [_]) (Zz 2 ?_);refine Q_ (fun _ a b=>⟨Vw.sat.sub a,b⟩) (Zz 2 ?_);exact ck_ results142 ⟨L,(by rw[Con.rightP6 (c:=(.mk k nm lo hi ad cap ps)) (p:=p) zai_ O];exact I)⟩ rfl (F:=[_]) (@List.perm_append_comm _ [_] _) zt
    · rw[J]at G H;simp[nd,dF_]at G H
      refine Zz 13 ?_;refine bt_ [(1,zp_ bk 0),(2,zp_ bs 0),(3,zp_ A 0),(11,.slice ad ps.length cap),(12,.int .i64 (ps.length:Int)),(13,.int .i64 ((0:Nat):Int))] zl ?_;refine bO_ (ι:={x:Nat×CS // x.1≤ps.length∧CInv (Con.rightP.rights frm (Con.atom (.mk k nm lo hi ad cap ps)) (ps.take x.1) l) x.2}) (fun x=>[(1,zp_ bk 0),(2,zp_ bs 0),(3,zp_ A 0),(11,.slice ad ps.length cap),(12,.int .i64 (ps.length:Int)),(13,.int .i64 (x.1.1:Int))]) (fun x=>_::fR_ kb frm x.1.2) (fun _=>_) (fun x=>ps.length - x.1.1) ⟨(0,q),by simp,by simpa [Con.rightP.rights] using Q⟩ ?_;rintro ⟨⟨i,C⟩,R⟩;dsimp only at R;refine bt_ [(1,zp_ bk 0),(2,zp_ bs 0),(3,zp_ A 0),(11,.slice ad ps.length cap),(12,.int .i64 (ps.length:Int)),(13,.int .i64 (i:Int))] zl ?_;refine Zj 2 (fun B=>?_) fun B=>?_
      · obtain rfl:i=ps.length:=by omega
        rw[List.take_length]at R;refine Zz 6 ?_;exact ck_ results142 ⟨C,(by rw[Con.rightP5 (c:=(.mk k nm lo hi ad cap ps)) zai_];exact R.2)⟩ rfl (F:=[_]) (@List.perm_append_comm _ [_] _) zt
      · have N:i<ps.length:=by omega
        obtain⟨p,E⟩:∃ p,ps[i]? = some p:=⟨_,List.getElem?_eq_getElem N⟩;have e:p∈ps:=List.mem_of_getElem? E;refine Zz 10 ?_;refine e_ (U_ ab_ n_ rfl rfl (fun v _ h=>aK_ (n:=5) Con.cells_len zad_ (((Con.mem_iff (.mk k nm lo hi ad cap ps) v).1 h.1).1) E) zaa_ zae_) rfl ?_;refine e_ (al_ (ad:=ad) (us:=p.cells) ac_ n_ rfl (fun v _ h=>((Con.mem_iff (.mk k nm lo hi ad cap ps) v).1 h.1).1) (Con.cells_len _) (z_ Con.cells_len E)) rfl (y_ aH_ rfl fun K=>fz_ 0 n_ rfl rfl rfl rfl (Zz 3 ?_));refine ak_ [(K,.cells p.cells.toArray 28 (0,0)),(A,.cells (Con.cells (Con.mk k nm lo hi ad cap ps)).toArray 28 (0,0))] zk ?_;refine D_ 5 [0,1,3] zk (fun _ a b=>⟨Vw.sat.sub a,b⟩) (T_ rfl (cr_ (cs:=[zp_ kb 0]) rB_ rfl (fun v _ h=>h.2.2.1) rfl) rfl (Zz 1 ?_));refine T_ rfl (cP_ 0 ac_ n_ rfl rfl) rfl (bV_ (p_ 2 rfl zk (f_ (cH_ (.mk k nm lo hi ad cap ps) m) rfl (.refl _) zf rfl fun _=>Zz 2 ?_)));refine Q_ (fun _ a b=>⟨Vw.sat.sub a,b⟩) (p_ 4 rfl zk (f_ (cH_ p (Con.ok_part (c:=(.mk k nm lo hi ad cap ps)) m e)) rfl (.refl _) (fun v _ h=>⟨Con.mem_part (c:=(.mk k nm lo hi ad cap ps)) h.1 e,h.2.1,trivial⟩) rfl fun _=>Zz 2 ?_));refine Q_ (fun _ a b=>⟨Vw.sat.sub a,b⟩) (D_ 2 [5] zk (fun _ a b=>⟨Vw.sat.sub a,b⟩) (T_ rfl (u_ dS_ rfl rfl) rfl (bV_ (p_ 6 rfl zk (G_ F_ L_ V_ rfl rfl rfl rfl rfl rfl fun Y=>Zz 2 ?_)))));refine Q_ (fun _ a b=>⟨Vw.sat.sub a.tail,b⟩) (p_ 7 rfl zk (f_ (dT_ ⟨1,Con.atom (.mk k nm lo hi ad cap ps),[],p.atom,[],[],[],0,0,0⟩ frm (Con.rightP.rights frm (Con.atom (.mk k nm lo hi ad cap ps)) (ps.take i) l) C R.2 (by have:=Con.rights_len frm (Con.atom (.mk k nm lo hi ad cap ps)) ps i l;have:=Con.sz_at E;have:=p.sz_pos;omega)) rfl (.cons _ (@List.perm_append_comm _ [_,_] _)) zt rfl fun x=>?_));obtain⟨L,y⟩:=x;refine A_ (@List.perm_append_comm _ _ [_,_]) (Zz 2 ?_);refine Q_ (fun _ a b=>⟨Vw.sat.sub a,b⟩) (Zz 3 ?_);refine e_ (cr_ (cs:=[rFn bs bk]) kI_ rfl (fun v _ h=>h.2.2.2.1) rfl) rfl (e_ (cP_ 0 ac_ n_ rfl rfl) rfl (Z_ (ih p zbJ_ (Con.ok_part (c:=(.mk k nm lo hi ad cap ps)) m e) (Con.fine_part (c:=(.mk k nm lo hi ad cap ps)) U e) (ins frm (Con.rightP.rights frm (Con.atom (.mk k nm lo hi ad cap ps)) (ps.take i) l) ⟨1,Con.atom (.mk k nm lo hi ad cap ps),[],p.atom,[],[],[],0,0,0⟩) L y (by have:=Con.rights_len frm (Con.atom (.mk k nm lo hi ad cap ps)) ps i l;have:=Con.sz_at E;have:=cj_ frm (Con.rightP.rights frm (Con.atom (.mk k nm lo hi ad cap ps)) (ps.take i) l) ⟨1,(Con.atom (.mk k nm lo hi ad cap ps)),[],p.atom,[],[],[],0,0,0⟩;omega)) rfl rfl (@List.perm_append_comm _ [_,_] _) (fun v _ h=>by exact⟨Con.mem_part (c:=(.mk k nm lo hi ad cap ps)) h.1 e,h.2⟩) rfl fun x=>?_));obtain⟨T,I⟩:=x;refine A_ (@List.perm_append_comm _ _ [_,_]) (Zz 7 ?_);exact x_ ⟨(i+1,T),N,by rw[Con.rights_step frm _ E];exact I⟩ zap_ zl (F:=[_]) (@List.perm_append_comm _ [_] _) zh
end Go.Proofs.YthmjeabeoodghaaGreatDoor
