/-
  Part of the proof of the law CheckerSound over this seat: the small logic, the data, the contracts of functions (no condition).
-/
import Derived.Test.YtaffcjgphlhppaaGreatDoorQCheckerSound10
import Derived.Test.YtaffcjgphlhppaaGreatDoorQCheckerSound7
import Derived.Test.YtaffcjgphlhppaaGreatDoorQCheckerSound9
set_option linter.unusedVariables false
set_option linter.unusedSimpArgs false
set_option linter.unusedSectionVars false
set_option maxHeartbeats 1000000
namespace Go.Proofs.YtaffcjgphlhppaaGreatDoor
open Go Go.Sx Go.Proofs
attribute [local irreducible] Code.wp wpList wpAnyH
open Go.Vs
theorem valid9 {x:Pc} (h:x.valid=true) (hk:x.kind=9):-1099511627776≤x.lo∧x.lo≤x.hi∧x.hi≤1099511627776:=by
 unfold Pc.valid at h
 split at h
 ·simp at h
 rename_i h1
 split at h
 ·simp at h
 rename_i h2
 rw[hk]at h2
 have:(nus 9).numbers=true:=by decide
 simp only[this,true_and]at h2
 omega
theorem gF_ {p:List Pc} (h:bT_ p=0):p.length≤16384∧∀ x∈p,x.valid=true:=by
 unfold bT_ at h
 split at h
 ·simp at h
 split at h
 ·rename_i h2;exact⟨by omega,fun x hx=>List.all_eq_true.1 h2 x hx⟩
 simp at h
theorem jt_ {p:List Pc} (h:bT_ p=0) (q:Int):∀ k:Int,k=14→fr_ p q (ek_ k)→-1099511627776≤(p.getD q.toNat zpc).lo∧(p.getD q.toNat zpc).lo≤(p.getD q.toNat zpc).hi∧(p.getD q.toNat zpc).hi≤1099511627776:=fun k hk hq=>by
  subst hk
  obtain⟨h1,h2,h3⟩:=hq
  have hlt:q.toNat<p.length:=by omega
  have e:=List.getElem?_eq_getElem hlt
  rw[fp_ e]at h3 ⊢
  exact valid9 ((gF_ h).2 _ (List.getElem_mem hlt)) h3
theorem oH_ (p:List Pc) (pad:Option Addr) (pcap:Nat) (fs:List Fc) (fad:Option Addr) (fcap:Nat) (vb ab:Nat) (s:Stp) (q:List Str) (hkn:∀ s,dX_ p s=true↔s∈q) (es:Array MapEntry) (ec:Nat) (hE:SetE str es q) (hc:bT_ p=0) (hfl:fs.length≤10000000) (hfr:s.frm.length≤1000000) (hfs:∀ x∈fs,x.sml) (hsf:s.fact.sml):Tri Tryz.prog 32 #[zp_ vb 0,s.val] [(vb,.cells (dx_ (.slice pad p.length pcap) ab (.slice fad fs.length fcap)).toArray 83 (0,0)),(ab,.map es ec)] [at_ pad (List.flatMap Pc.cells p),at_ fad (List.flatMap Fc.cells fs),at_ (Stp.ad s) (List.flatMap dY_ (Stp.frm s))] (fun y:{y:Bool // y=eK_ p fs s}=>.bool y.1) (fun _=>[(vb,.cells (dx_ (.slice pad p.length pcap) ab (.slice fad fs.length fcap)).toArray 83 (0,0)),(ab,.map es ec)]) (fun _=>[]):=by
  have T:=it_ (Γ0:=[at_ pad (List.flatMap Pc.cells p),at_ fad (List.flatMap Fc.cells fs),at_ (Stp.ad s) (List.flatMap dY_ (Stp.frm s))]) [(vb,.cells (dx_ (.slice pad p.length pcap) ab (.slice fad fs.length fcap)).toArray 83 (0,0)),(ab,.map es ec)] (lZ_ p pad pcap fs fad fcap vb ab s q hkn es ec hE (by have:=(gF_ hc).1;omega) (jt_ hc s.piece) hfl hfr hfs hsf) (fun v hB hv=>⟨hB _ List.mem_cons_self,hB _ (List.mem_cons_of_mem _ List.mem_cons_self),hv.1,hv.2.1,hv.2.2.1,trivial⟩)
  simpa using T
theorem iX_ {e sz n:Nat} {sv:Value} {xs:List Value} {Hr:Hp} (h:bA_ e sz sv n xs Hr):∃ ad cap,sv=.slice ad n cap∧∀ v:Vw,(∀ p∈Hr,v.im p.1∧v.w.heap[p.1]? = some p.2)→bE_ v ad xs:=by
 have h0:=h
 obtain⟨hl,⟨rfl,rfl,rfl⟩|⟨g,cap,cur,rfl,rfl,h3,h4,h5,h6⟩⟩:=h0
 ·exact⟨none,0,rfl,fun v _=>.inl (List.eq_nil_of_length_eq_zero (by simpa using hl))⟩
 refine⟨some ⟨g,0,none⟩,cap,rfl,fun v hv=>?_⟩
 obtain⟨ad,cp,e,_,_,_,hr⟩:=lw_ h hv
 simp only[Value.slice.injEq]at e
 rw[e.1];exact hr
theorem oI_ (p:List Pc) (pad:Option Addr) (pcap:Nat) (fs:List Fc) (sv:Value) (HF:Hp) (hr:bA_ 24 6 sv fs.length (List.flatMap Fc.cells fs) HF) (vb ab:Nat) (s:Stp) (q:List Str) (hkn:∀ s,dX_ p s=true↔s∈q) (es:Array MapEntry) (ec:Nat) (hE:SetE str es q) (hc:bT_ p=0) (hfl:fs.length≤10000000) (hfr:s.frm.length≤1000000) (hfs:∀ x∈fs,x.sml) (hsf:s.fact.sml):Tri Tryz.prog 32 #[zp_ vb 0,s.val] ((vb,.cells (dx_ (.slice pad p.length pcap) ab sv).toArray 83 (0,0))::(ab,.map es ec)::HF) [at_ pad (List.flatMap Pc.cells p),at_ (Stp.ad s) (List.flatMap dY_ (Stp.frm s))] (fun y:{y:Bool // y=eK_ p fs s}=>.bool y.1) (fun _=>(vb,.cells (dx_ (.slice pad p.length pcap) ab sv).toArray 83 (0,0))::(ab,.map es ec)::HF) (fun _=>[]):=by
  obtain⟨fad,fcap,rfl,hrow⟩:=iX_ hr
  have T:=it_ (Γ0:=[at_ pad (List.flatMap Pc.cells p),at_ (Stp.ad s) (List.flatMap dY_ (Stp.frm s))]) ((vb,.cells (dx_ (.slice pad p.length pcap) ab (.slice fad fs.length fcap)).toArray 83 (0,0))::(ab,.map es ec)::HF) (lZ_ p pad pcap fs fad fcap vb ab s q hkn es ec hE (by have:=(gF_ hc).1;omega) (jt_ hc s.piece) hfl hfr hfs hsf) (fun v hB hv=>⟨hB _ List.mem_cons_self,hB _ (List.mem_cons_of_mem _ List.mem_cons_self),hv.1,hrow v (fun x hx=>hB x (List.mem_cons_of_mem _ (List.mem_cons_of_mem _ hx))),hv.2.1,trivial⟩)
  simpa using T
theorem mq_ {P:Program} {N:Nf} {v0:Vw} {H0:Hp} {R:Exit→Act→World→Prop} {K:List Kt} {fr:Fr} {H F:Hp} {Γ:List Fct} {ops:Array Oper} {l:List Oper} {ty:TypeId} {ps:String} {af:Array Edge} {t:TypeId} {x y:Operand} {vb ab:Nat} {pv fv:Value} {T:TypeId} {ad:Option Addr} {n c:Nat} (hs:∀ w,(sizeOf t).run P w=.ok 1 w)
    (hx:Fr.ev fr x=some (zp_ vb 2)) (hy:Fr.ev fr y=some (.slice ad n c)) (hp:H.Perm ([(vb,.cells (dx_ pv ab fv).toArray T (0,0))]++F)) (ho:(Value.slice ad n c).oneCell'=true)
    (hk:Ops P R N v0 H0 ops l K fr ((vb,.cells (dx_ pv ab (.slice ad n c)).toArray T (0,0))::F) Γ):Ops P R N v0 H0 ops (⟨none,.store t x y,ty,ps,af,none⟩::l) K fr H Γ:=by
  refine ac_ hp ?_
  refine w_ 0 hs hx hy rfl rfl (by rfl) (by simp only[Value.cells,List.all_cons,List.all_nil,ho,Bool.and_true]) ?_
  simp only[List.cons_append,List.nil_append,List.set_cons_zero]
  exact hk
def jT_ (p:List Pc) (l:List Stp):Prop:=∀ (j:Nat) (s:Stp),l[j]? = some s→eK_ p (fcs (l.take j)) s=true
def oi_ (p:List Pc) (f:Fc) (l:List Stp) (e:Int):Prop :=
  (bT_ p≠0∧e=bT_ p)∨(bT_ p=0∧65536<l.length∧e=2) ∨
  (bT_ p=0∧l.length≤65536∧((jT_ p l∧(∃ t,l[l.length - 1]? = some t∧t.fact=f)∧e=0)∨(¬ (jT_ p l∧∃ t,l[l.length - 1]? = some t∧t.fact=f)∧e=120)))
theorem mb_ {p:List Pc} {f:Fc} {l:List Stp} {e e':Int} (h:oi_ p f l e) (h':oi_ p f l e'):e=e':=by
  rcases h with⟨a,rfl⟩|⟨a,b,rfl⟩|⟨a,b,⟨c1,c2,rfl⟩|⟨c,rfl⟩⟩<;>rcases h' with⟨a',rfl⟩|⟨a',b',rfl⟩|⟨a',b',⟨d1,d2,rfl⟩|⟨d,rfl⟩⟩<;>first|rfl|(exfalso;omega)|exact absurd ⟨c1,c2⟩ d|exact absurd ⟨d1,d2⟩ c
theorem qs_ {p:List Pc} {f:Fc} {l:List Stp} {j:Nat} {s:Stp} (hc:bT_ p=0) (hl:l.length≤65536) (hs:l[j]? = some s) (hf:eK_ p (fcs (l.take j)) s=false):oi_ p f l 120 :=
  .inr (.inr ⟨hc,hl,.inr ⟨fun q=>by have:=q.1 j s hs;rw[hf]at this;exact absurd this (by simp),rfl⟩⟩)
theorem nU_ {l:List Stp} {i:Nat} {s:Stp} (hs:l[i]? = some s):fcs (l.take (i+1))=fcs (l.take i)++[s.fact]:=by
  rw[List.take_add_one,hs,Option.toList_some,ih_];rfl
theorem tz_ {l:List Stp} {i:Nat} (h:∀ s∈l,s.fact.sml):∀ x∈fcs (l.take i),x.sml:=fun x hx=>by
  obtain⟨s,hs,rfl⟩:=List.mem_map.1 hx
  exact h s (List.mem_of_mem_take hs)
theorem step_c (p:List Pc) (pad:Option Addr) (pcap:Nat) (fs:List Fc) (fad:Option Addr) (fcap:Nat) (s:Stp) (hpl:p.length≤10000000) (hsm:∀ x∈p,x.sm) (hfl:fs.length≤10000000) (hfr:s.frm.length≤1000000) (hfs:∀ x∈fs,x.sml) (hsf:s.fact.sml):Tri Tryz.prog 71 #[.slice pad (List.length p) pcap,.slice fad (List.length fs) fcap,Stp.val s] [] [at_ pad (List.flatMap Pc.cells p),at_ fad (List.flatMap Fc.cells fs),at_ (Stp.ad s) (List.flatMap dY_ (Stp.frm s)),ia_] (fun y:{e:Int // bT_ p≠0∧e=bT_ p∨bT_ p=0∧e=if eK_ p fs s=true then 0 else 120}=>.int .i64 y.1) (fun _=>[]) (fun _=>[]):=by
 refine t_ Tryz.func71 rfl rfl Tryz.ntmps71 rfl fun v0=>?_
 refine s_ ?_
 refine m_ ?_
 refine ag_ rfl rfl fun b1=>?_
 refine d_ (z_ rfl) rfl ?_
 refine p_ ?_
 refine l_ rfl ?_
 refine s_ ?_
 refine s_ ?_
 refine m_ ?_
 refine d_ (V_ rfl) rfl ?_
 refine q_ (mI_ p pad pcap (by omega) hsm) rfl g_ (fun v _ h=>by exact⟨h.1,h.2.2.2.1,trivial⟩) rfl fun _=>?_
 refine d_ (z_ rfl) rfl ?_
 refine p_ ?_
 refine l_ rfl ?_
 refine s_ ?_
 refine m_ ?_
 refine d_ (V_ rfl) rfl ?_
 refine O_ (cg_ rfl rfl) rfl fun r1 hr1=>?_
 refine p_ ?_
 refine l_ rfl ?_
 cases r1
 ·replace hr1:=et_ hr1
  have hc:bT_ p=0:=by omega
  refine U_ rfl ?_
  refine aw_ ?_
  refine l_ rfl ?_
  refine s_ ?_
  refine m_ ?_
  refine d_ (V_ rfl) rfl ?_
  refine q_ (nA_ p pad pcap (by have:=(gF_ hc).1;omega)) rfl g_ (fun v _ h=>by exact⟨h.1,trivial⟩) rfl fun⟨⟨vb,ab,es,ec,q⟩,hVk⟩=>?_
  dsimp only
  obtain⟨hE,hkn⟩:=hVk;dsimp only at hE hkn
  refine d_ (z_ rfl) rfl ?_
  refine p_ ?_
  refine l_ rfl ?_
  refine s_ ?_
  refine m_ ?_
  refine d_ (V_ rfl) rfl ?_
  refine d_ (V_ rfl) rfl ?_
  refine d_ (dU_ rfl) rfl ?_
  refine d_ (R_ bt_ rfl rfl rfl dj_) rfl ?_
  refine mq_ dj_ rfl rfl e_ (by rfl) ?_
  refine p_ ?_
  refine l_ rfl ?_
  refine s_ ?_
  refine s_ ?_
  refine m_ ?_
  refine d_ (V_ rfl) rfl ?_
  refine d_ (as_ 2 Tryz.isAgg36 aZ_ rfl rfl rfl) rfl ?_
  refine q_ (oH_ p pad pcap fs fad fcap vb ab s q hkn es ec hE hc hfl hfr hfs hsf) rfl (o_ e_ e_) (fun v _ h=>by exact⟨h.1,h.2.1,h.2.2.1,trivial⟩) rfl fun⟨rc,hrc⟩=>?_
  dsimp only
  refine d_ (bj_ rfl) rfl ?_
  refine p_ ?_
  refine l_ rfl ?_
  cases rc
  ·refine L_ rfl ?_
   refine s_ ?_
   refine m_ ?_
   refine d_ (z_ rfl) rfl ?_
   refine p_ ?_
   refine l_ rfl ?_
   refine ar_ ?_
   exact J_ Tryz.results71 ⟨120,.inr ⟨hc,by rw[if_neg (by simp[*])]⟩⟩ rfl g_ (fun _ _ _=>trivial)
  refine U_ rfl ?_
  refine aw_ ?_
  refine l_ rfl ?_
  refine s_ ?_
  refine m_ ?_
  refine d_ (z_ rfl) rfl ?_
  refine p_ ?_
  refine l_ rfl ?_
  refine ar_ ?_
  exact J_ Tryz.results71 ⟨0,.inr ⟨hc,by rw[if_pos (by simp[*])]⟩⟩ rfl g_ (fun _ _ _=>trivial)
 replace hr1:=eo_ hr1
 refine L_ rfl ?_
 refine s_ ?_
 refine m_ ?_
 refine d_ (V_ rfl) rfl ?_
 refine d_ (z_ rfl) rfl ?_
 refine p_ ?_
 refine l_ rfl ?_
 refine ar_ ?_
 exact J_ Tryz.results71 ⟨(bT_ p),.inl ⟨by omega,rfl⟩⟩ rfl g_ (fun _ _ _=>trivial)
theorem jn_ (p:List Pc) (pad:Option Addr) (pcap:Nat) (f:Fc) (l:List Stp) (ad:Option Addr) (cap:Nat) (hpl:p.length≤10000000) (hsm:∀ x∈p,x.sm) (hll:l.length≤10000000) (hfr:∀ s∈l,s.frm.length≤1000000) (hsf:∀ s∈l,s.fact.sml):Tri Tryz.prog 12 #[.slice pad (List.length p) pcap,Fc.val f,.agg #[.slice ad (List.length l) cap]] [] [at_ pad (List.flatMap Pc.cells p),at_ ad (List.flatMap Stp.cells l),dD_ l,ia_] (fun y:{e:Int // oi_ p f l e}=>.int .i64 y.1) (fun _=>[]) (fun _=>[]):=by
 refine t_ Tryz.func12 rfl rfl Tryz.ntmps12 rfl fun v0=>?_
 refine s_ ?_
 refine m_ ?_
 refine ag_ rfl rfl fun b1=>?_
 refine ag_ rfl rfl fun b2=>?_
 refine d_ (z_ rfl) rfl ?_
 refine p_ ?_
 refine l_ rfl ?_
 refine s_ ?_
 refine s_ ?_
 refine m_ ?_
 refine d_ (V_ rfl) rfl ?_
 refine q_ (mI_ p pad pcap (by omega) hsm) rfl g_ (fun v _ h=>by exact⟨h.1,h.2.2.2.1,trivial⟩) rfl fun _=>?_
 refine d_ (z_ rfl) rfl ?_
 refine p_ ?_
 refine l_ rfl ?_
 refine s_ ?_
 refine m_ ?_
 refine d_ (V_ rfl) rfl ?_
 refine O_ (cg_ rfl rfl) rfl fun r1 hr1=>?_
 refine p_ ?_
 refine l_ rfl ?_
 cases r1
 ·replace hr1:=et_ hr1
  have hc:bT_ p=0:=by omega
  refine U_ rfl ?_
  refine aw_ ?_
  refine l_ rfl ?_
  refine s_ ?_
  refine s_ ?_
  refine m_ ?_
  refine d_ (R_ bl_ rfl rfl rfl bX_) rfl ?_
  refine d_ (ak_ 0 Tryz.isAgg25 rfl rfl rfl) rfl ?_
  refine d_ (dc_ ao_ rfl) rfl ?_
  refine O_ (dl_ rfl rfl) rfl fun r2 hr2=>?_
  refine p_ ?_
  refine l_ rfl ?_
  cases r2
  ·replace hr2:=of_decide_eq_false hr2
   have hl6:List.length l≤65536:=by omega
   refine U_ rfl ?_
   refine aw_ ?_
   refine l_ rfl ?_
   refine s_ ?_
   refine m_ ?_
   refine d_ (V_ rfl) rfl ?_
   refine q_ (nA_ p pad pcap (by have:=(gF_ hc).1;omega)) rfl g_ (fun v _ h=>by exact⟨h.1,trivial⟩) rfl fun⟨⟨vb,ab,es,ec,q⟩,hVk⟩=>?_
   dsimp only
   obtain⟨hE,hkn⟩:=hVk;dsimp only at hE hkn
   refine d_ (z_ rfl) rfl ?_
   refine p_ ?_
   refine l_ rfl ?_
   refine s_ ?_
   refine s_ ?_
   refine m_ ?_
   refine d_ (R_ bl_ rfl rfl rfl bX_) rfl ?_
   refine d_ (ak_ 2 Tryz.isAgg25 rfl rfl rfl) rfl ?_
   refine d_ (dc_ ao_ rfl) rfl ?_
   refine d_ (V_ rfl) rfl ?_
   refine p_ ?_
   refine l_ rfl ?_
   refine cc_ ?_
   refine av_ (ι:={y:Nat×Value×Hp // y.1≤List.length l∧(∀ (j:Nat) (s9:Stp),l[j]? = some s9→j<y.1→eK_ p (fcs (List.take j l)) s9=true)∧bA_ 24 6 y.2.1 (List.length (fcs (List.take y.1 l))) (List.flatMap Fc.cells (fcs (List.take y.1 l))) y.2.2}) (fun y=>[(4,zp_ b1 0),(5,zp_ b2 0),(8,zp_ vb 0),(24,.slice ad (List.length l) cap),(25,.int .i64 (List.length l:Int)),(26,.int .i64 (y.1.1:Int))]) (fun y=>((b1,.cells (Fc.cells f).toArray 24 (0,0))::((b2,.cells #[.slice ad (List.length l) cap] 27 (0,0))::((vb,.cells (dx_ (.slice pad p.length pcap) ab y.1.2.1).toArray 83 (0,0))::((ab,.map es ec)::y.1.2.2))))) (fun y=>[at_ pad (List.flatMap Pc.cells p),at_ ad (List.flatMap Stp.cells l),dD_ l,ia_]) (fun y=>List.length l - y.1.1) ⟨((0:Nat),(.slice none 0 0),[]),by simp,fun j s9 _ h=>by omega,(bA_.nil 24 6)⟩ ⟨rfl,rfl,rfl,rfl,rfl,rfl,trivial⟩ (o_ (c_ (c_ (c_ e_))) (o_ (c_ (c_ e_)) (o_ e_ e_))) (fun _ _ h=>h) ?_
   rintro ⟨⟨i,sv_F,H_F⟩,hi,hSt,hr_F⟩
   dsimp only at hi hSt hr_F ⊢
   refine s_ ?_
   refine m_ ?_
   refine O_ (db_ rfl rfl) rfl fun r3 hr3=>?_
   refine p_ ?_
   refine l_ rfl ?_
   refine s_ ?_
   cases r3
   ·replace hr3:=of_decide_eq_false hr3
    refine U_ rfl ?_
    refine go_ rfl ?_
    refine l_ rfl ?_
    refine s_ ?_
    refine s_ ?_
    refine m_ ?_
    refine d_ (R_ bl_ rfl rfl rfl bX_) rfl ?_
    refine d_ (ak_ 1 Tryz.isAgg25 rfl rfl rfl) rfl ?_
    refine d_ (dc_ ao_ rfl) rfl ?_
    refine d_ (z_ rfl) rfl ?_
    refine p_ ?_
    refine l_ rfl ?_
    refine s_ ?_
    refine lz_ (by kernel_rfl) ?_
    refine n_ 10 [0,1,2] (by kernel_rfl) (fun _ a b=>⟨a,b⟩) ?_
    refine Z_ rfl (V_ rfl) rfl ?_
    refine cj_ rfl (bf_ rfl rfl) rfl fun r4 hr4=>?_
    refine Z_ rfl (V_ rfl) rfl ?_
    refine dB_ ?_
    cases r4
    ·replace hr4:=ne_of_beq_false hr4
     have hlz:List.length l - 1<List.length l:=by omega
     obtain⟨xl,hxl⟩:∃ e0,l[List.length l - 1]? = some e0:=⟨_,List.getElem?_eq_getElem hlz⟩
     have hmxl:xl∈l:=List.mem_of_getElem? hxl
     refine n_ 0 [3,4,5,6,7,8,9,10,11,12] (by kernel_rfl) (fun _ a b=>⟨a,b⟩) ?_
     refine bQ_ rfl rfl rfl (R_ bl_ rfl rfl rfl bX_) rfl ?_
     refine bQ_ rfl rfl rfl (ak_ 1 Tryz.isAgg25 rfl rfl rfl) rfl ?_
     refine bQ_ rfl rfl rfl (V_ rfl) rfl ?_
     refine bQ_ rfl rfl rfl (bC_ rfl rfl rfl (cZ_ (by omega) (by omega))) rfl ?_
     refine bQ_ rfl rfl rfl (X_ ao_ aZ_ rfl rfl (fun v _ h=>I_ (n:=9) Stp.cells_len (by decide) (by exact h.2.1) (show l[((List.length l:Int) - 1).toNat]? = some xl by rw[show ((List.length l:Int) - 1).toNat=List.length l - 1 by omega];exact hxl)) (by omega) (by first|omega|(simp;done))) rfl ?_
     refine bQ_ rfl rfl rfl (hX_ bS_ rfl rfl rfl x_) rfl ?_
     refine bQ_ rfl rfl rfl (aA_ (ad:=ad) (us:=Fc.cells (Stp.fact xl)) aI_ x_ rfl (fun v _ h=>by exact h.2.1) rfl (lt_ 1 (G_ Stp.cells_len (show l[((List.length l:Int) - 1).toNat]? = some xl by rw[show ((List.length l:Int) - 1).toNat=List.length l - 1 by omega];exact hxl)) (Stp.fact_cells xl))) rfl ?_
     refine bQ_ rfl rfl rfl (as_ 0 aI_ x_ rfl rfl rfl) rfl ?_
     refine aC_ rfl rfl rfl (fs_ (p:=(Stp.fact xl)) (q:=f) rfl rfl) rfl fun r5 hr5=>?_
     refine Z_ rfl (aX_ rfl rfl) rfl ?_
     refine dB_ ?_
     refine hx_ (by kernel_rfl) ?_
     refine l_ rfl ?_
     cases r5
     ·replace hr5:=of_decide_eq_false hr5
      refine U_ rfl ?_
      refine aw_ ?_
      refine l_ rfl ?_
      refine s_ ?_
      refine m_ ?_
      refine d_ (z_ rfl) rfl ?_
      refine p_ ?_
      refine l_ rfl ?_
      refine ar_ ?_
      exact J_ ki_ ⟨0,.inr (.inr ⟨hc,hl6,.inl ⟨fun j s9 hj=>hSt j s9 hj (by have:=(List.getElem?_eq_some_iff.1 hj).1;omega),⟨xl,hxl,by first|assumption|exact Decidable.not_not.1 (by assumption)⟩,rfl⟩⟩)⟩ rfl g_ (fun _ _ _=>trivial)
     replace hr5:=of_decide_eq_true hr5
     refine L_ rfl ?_
     refine s_ ?_
     refine m_ ?_
     refine d_ (z_ rfl) rfl ?_
     refine p_ ?_
     refine l_ rfl ?_
     refine ar_ ?_
     exact J_ ki_ ⟨120,.inr (.inr ⟨hc,hl6,.inr ⟨fun z=>by obtain⟨_,t9,h9,h8⟩:=z;rw[hxl]at h9;obtain rfl:=Option.some.inj h9;exact absurd h8 (by assumption),rfl⟩⟩)⟩ rfl g_ (fun _ _ _=>trivial)
    replace hr4:=eq_of_beq hr4
    refine n_ 0 [3,4,5,6,7,8,9,10,11,12] (by kernel_rfl) (fun _ a b=>⟨a,b⟩) ?_
    refine hT_ rfl rfl rfl rfl rfl ?_
    refine hT_ rfl rfl rfl rfl rfl ?_
    refine hT_ rfl rfl rfl rfl rfl ?_
    refine hT_ rfl rfl rfl rfl rfl ?_
    refine hT_ rfl rfl rfl rfl rfl ?_
    refine hT_ rfl rfl rfl rfl rfl ?_
    refine hT_ rfl rfl rfl rfl rfl ?_
    refine hT_ rfl rfl rfl rfl rfl ?_
    refine hT_ rfl rfl rfl rfl rfl ?_
    refine Z_ rfl (aW_ rfl rfl) rfl ?_
    refine dB_ ?_
    refine hx_ (by kernel_rfl) ?_
    refine l_ rfl ?_
    refine L_ rfl ?_
    refine s_ ?_
    refine m_ ?_
    refine d_ (z_ rfl) rfl ?_
    refine p_ ?_
    refine l_ rfl ?_
    refine ar_ ?_
    exact J_ ki_ ⟨120,.inr (.inr ⟨hc,hl6,.inr ⟨fun z=>by obtain⟨_,t9,h9,h8⟩:=z;have:=(List.getElem?_eq_some_iff.1 h9).1;omega,rfl⟩⟩)⟩ rfl g_ (fun _ _ _=>trivial)
   replace hr3:=of_decide_eq_true hr3
   have hlx1:i<List.length l:=by omega
   obtain⟨x1,hx1⟩:∃ e0,l[i]? = some e0:=⟨_,List.getElem?_eq_getElem hlx1⟩
   have hmx1:x1∈l:=List.mem_of_getElem? hx1
   refine L_ rfl ?_
   refine aw_ ?_
   refine l_ rfl ?_
   refine s_ ?_
   refine cc_ ?_
   refine s_ ?_
   refine m_ ?_
   refine d_ (X_ ao_ aZ_ rfl rfl (fun v _ h=>I_ (n:=9) Stp.cells_len (by decide) (by exact h.2.1) hx1) (by omega) (by first|omega|(simp;done))) rfl ?_
   refine d_ (aA_ (ad:=ad) (us:=Stp.cells x1) Tryz.isAgg36 aZ_ rfl (fun v _ h=>by exact h.2.1) (Stp.cells_len _) (G_ Stp.cells_len hx1)) rfl ?_
   refine C_ bb_ rfl fun b3=>?_
   refine w_ 0 aZ_ rfl rfl rfl rfl rfl rfl ?_
   refine p_ ?_
   refine l_ rfl ?_
   refine s_ ?_
   refine s_ ?_
   refine m_ ?_
   refine d_ (V_ rfl) rfl ?_
   refine d_ (as_ 0 Tryz.isAgg36 aZ_ rfl rfl rfl) rfl ?_
   refine q_ (oI_ p pad pcap (fcs (List.take i l)) sv_F H_F hr_F vb ab x1 q hkn es ec hE hc (by rw[eH_,List.length_take];omega) (hfr x1 hmx1) (tz_ hsf) (hsf x1 hmx1)) rfl (o_ (c_ (c_ (c_ e_))) (o_ (c_ (c_ (c_ e_))) (c_ (c_ P_)))) (fun v _ h=>by exact⟨h.1,(h.2.2.1 x1 hmx1),trivial⟩) rfl fun⟨rc,hrc⟩=>?_
   dsimp only
   simp only[List.cons_append,List.append_assoc,List.append_nil]
   refine d_ (bj_ rfl) rfl ?_
   refine p_ ?_
   refine l_ rfl ?_
   cases rc
   ·refine L_ rfl ?_
    refine ac_ (aN_ e_ (aN_ e_ (aN_ (j_ e_) (aN_ (j_ e_) (cA_ cp_))))) ?_
    refine s_ ?_
    refine m_ ?_
    refine d_ (z_ rfl) rfl ?_
    refine p_ ?_
    refine l_ rfl ?_
    refine ar_ ?_
    exact J_ ki_ ⟨120,qs_ hc hl6 hx1 hrc.symm⟩ rfl g_ (fun _ _ _=>trivial)
   refine U_ rfl ?_
   refine aw_ ?_
   refine l_ rfl ?_
   refine ac_ (aN_ e_ (aN_ e_ (aN_ (j_ e_) (aN_ (j_ e_) (cA_ cp_))))) ?_
   refine ax_ ((ab,.map es ec)::((b3,.cells #[.int .i64 (Stp.rule x1),.int .i64 (Fc.kind (Stp.fact x1)),str (Fc.a (Stp.fact x1)),str (Fc.b (Stp.fact x1)),str (Fc.r (Stp.fact x1)),.int .i64 (Fc.lo (Stp.fact x1)),.int .i64 (Fc.hi (Stp.fact x1)),.int .i64 (Stp.piece x1),.slice (Stp.ad x1) (List.length (Stp.frm x1)) (Stp.cap x1)] 36 (0,0))::((b1,.cells (Fc.cells f).toArray 24 (0,0))::((b2,.cells #[.slice ad (List.length l) cap] 27 (0,0))::[])))) (by kernel_rfl) ?_
   refine n_ 6 [0,1,2,3,5,6] (by kernel_rfl) (fun _ a b=>⟨Vw.sat.sub (a.perm (o_ (c_ e_) (o_ (c_ e_) (o_ (c_ e_) (c_ e_))))),b⟩) ?_
   refine Z_ rfl (V_ rfl) rfl ?_
   refine Z_ rfl (V_ rfl) rfl ?_
   refine Z_ rfl (dU_ rfl) rfl ?_
   refine Z_ rfl (R_ bt_ rfl rfl rfl dj_) rfl ?_
   refine Z_ rfl (R_ bS_ rfl rfl rfl x_) rfl ?_
   refine Z_ rfl (as_ 1 aI_ x_ rfl rfl rfl) rfl ?_
   refine dB_ ?_
   refine bN_ 4 7 rfl rfl (by kernel_rfl) ?_ ?_
   ·refine d_ (ak_ 0 Tryz.isAgg47 rfl rfl rfl) rfl ?_
    refine p_ ?_
    refine aD_ rfl ?_
    refine aO_ (fun _ a b=>⟨Vw.sat.sub (a.perm (o_ (c_ e_) (o_ (c_ e_) (o_ (c_ e_) (c_ e_))))),b⟩) ?_
    refine i_ 7 rfl (by kernel_rfl) ?_
    refine ap_ E_ x_ ad_ rfl rfl rfl rfl rfl rfl fun b4=>?_
    refine bu_ (List.flatMap Fc.cells [(Stp.fact x1)]) e_ rfl ?_
    refine p_ ?_
    refine aD_ rfl ?_
    refine aO_ (fun _ a b=>⟨Vw.sat.sub (a.perm (o_ (c_ e_) (o_ (c_ e_) (o_ (c_ e_) (c_ e_))))),b.2⟩) ?_
    refine i_ 8 rfl (by kernel_rfl) ?_
    refine fO_ (news:=List.flatMap Fc.cells [(Stp.fact x1)]) jm_ hr_F rfl rfl (fun q=>by cases q) (by simp) (c_ (c_ (c_ (c_ P_)))) (by rw[el_ Fc.cells 6 Fc.cells_len];rfl) (fun v _ h=>by exact h.1) (fun u hu=>ba_ Fc.cells_one hu) (by simp only[maxLen];(first|omega|(rw[eH_,List.length_take];omega)|(simp only[eH_,List.length_take];omega))) (by (first|omega|(rw[eH_,List.length_take];omega)|(simp only[eH_,List.length_take];omega))) rfl fun sv1 Hr1 hr1=>?_
    refine ac_ List.perm_append_comm ?_
    have hq1:bA_ 24 6 sv1 (List.length ((fcs (List.take i l))++[(Stp.fact x1)])) (List.flatMap Fc.cells ((fcs (List.take i l))++[(Stp.fact x1)])) Hr1:=by rw[List.length_append,List.flatMap_append];exact hr1
    refine p_ ?_
    refine aD_ rfl ?_
    refine aO_ (fun _ a b=>⟨Vw.sat.sub (a.perm (o_ (c_ e_) (o_ (c_ e_) (o_ (c_ e_) (c_ e_))))),b.2⟩) ?_
    refine n_ 1 [9,10] (by kernel_rfl) (fun _ a b=>⟨Vw.sat.sub (a.perm (o_ (c_ e_) (o_ (c_ e_) (o_ (c_ e_) (c_ e_))))),b.2⟩) ?_
    refine Z_ rfl (dU_ rfl) rfl ?_
    refine Z_ rfl (R_ bt_ rfl rfl rfl dj_) rfl ?_
    refine dB_ ?_
    refine i_ 11 rfl (by kernel_rfl) ?_
    obtain⟨ad9,cp9,hsv9,_⟩:=iX_ hq1
    refine mq_ (ad:=ad9) (n:=List.length ((fcs (List.take i l))++[(Stp.fact x1)])) (c:=cp9) dj_ rfl (by rw[← hsv9];rfl) e_ (by rw[← hsv9];exact (gm_ hq1).2) ?_
    rw[← hsv9]
    refine p_ ?_
    refine aD_ rfl ?_
    refine aO_ (fun _ a b=>⟨Vw.sat.sub (a.perm (o_ (c_ e_) (o_ (c_ e_) (o_ (c_ e_) (c_ e_))))),b.2⟩) ?_
    refine hx_ (by kernel_rfl) ?_
    refine l_ rfl ?_
    refine m_ ?_
    refine d_ (bC_ rfl rfl rfl (cZ_ (by omega) (by omega))) rfl ?_
    refine d_ (V_ rfl) rfl ?_
    refine p_ ?_
    refine aD_ rfl ?_
    exact Q_ ⟨(i+1,sv1,Hr1),hlx1,(fun j s9 hj hji=>by rcases Nat.lt_or_ge j i with z|z;exact hSt j s9 hj z;obtain rfl:j=i:=(by omega);rw[hx1]at hj;obtain rfl:=Option.some.inj hj;exact hrc.symm),(by have z:=hq1;rw[← nU_ hx1]at z;exact z)⟩ (by dsimp only;omega) ⟨rfl,rfl,rfl,rfl,rfl,rfl,trivial⟩ (o_ (c_ (c_ (c_ e_))) (o_ (c_ (c_ (c_ e_))) (o_ e_ (o_ e_ P_)))) (fun _ _ h=>h.2)
   refine ap_ E_ x_ ad_ rfl rfl rfl rfl rfl rfl fun b5=>?_
   refine bu_ (List.flatMap Fc.cells [(Stp.fact x1)]) e_ rfl ?_
   refine p_ ?_
   refine aD_ rfl ?_
   refine aO_ (fun _ a b=>⟨Vw.sat.sub (a.perm (o_ (c_ e_) (o_ (c_ e_) (o_ (c_ e_) (c_ e_))))),b.2⟩) ?_
   refine i_ 4 rfl (by kernel_rfl) ?_
   refine d_ (ak_ 0 Tryz.isAgg47 rfl rfl rfl) rfl ?_
   refine p_ ?_
   refine aD_ rfl ?_
   refine aO_ (fun _ a b=>⟨Vw.sat.sub (a.perm (o_ (c_ e_) (o_ (c_ e_) (o_ (c_ e_) (c_ e_))))),b.2⟩) ?_
   refine i_ 8 rfl (by kernel_rfl) ?_
   refine fO_ (news:=List.flatMap Fc.cells [(Stp.fact x1)]) jm_ hr_F rfl rfl (fun q=>by cases q) (by simp) (c_ (c_ (c_ (c_ P_)))) (by rw[el_ Fc.cells 6 Fc.cells_len];rfl) (fun v _ h=>by exact h.1) (fun u hu=>ba_ Fc.cells_one hu) (by simp only[maxLen];(first|omega|(rw[eH_,List.length_take];omega)|(simp only[eH_,List.length_take];omega))) (by (first|omega|(rw[eH_,List.length_take];omega)|(simp only[eH_,List.length_take];omega))) rfl fun sv2 Hr2 hr2=>?_
   refine ac_ List.perm_append_comm ?_
   have hq2:bA_ 24 6 sv2 (List.length ((fcs (List.take i l))++[(Stp.fact x1)])) (List.flatMap Fc.cells ((fcs (List.take i l))++[(Stp.fact x1)])) Hr2:=by rw[List.length_append,List.flatMap_append];exact hr2
   refine p_ ?_
   refine aD_ rfl ?_
   refine aO_ (fun _ a b=>⟨Vw.sat.sub (a.perm (o_ (c_ e_) (o_ (c_ e_) (o_ (c_ e_) (c_ e_))))),b.2⟩) ?_
   refine n_ 1 [9,10] (by kernel_rfl) (fun _ a b=>⟨Vw.sat.sub (a.perm (o_ (c_ e_) (o_ (c_ e_) (o_ (c_ e_) (c_ e_))))),b.2⟩) ?_
   refine Z_ rfl (dU_ rfl) rfl ?_
   refine Z_ rfl (R_ bt_ rfl rfl rfl dj_) rfl ?_
   refine dB_ ?_
   refine i_ 11 rfl (by kernel_rfl) ?_
   obtain⟨ad9,cp9,hsv9,_⟩:=iX_ hq2
   refine mq_ (ad:=ad9) (n:=List.length ((fcs (List.take i l))++[(Stp.fact x1)])) (c:=cp9) dj_ rfl (by rw[← hsv9];rfl) e_ (by rw[← hsv9];exact (gm_ hq2).2) ?_
   rw[← hsv9]
   refine p_ ?_
   refine aD_ rfl ?_
   refine aO_ (fun _ a b=>⟨Vw.sat.sub (a.perm (o_ (c_ e_) (o_ (c_ e_) (o_ (c_ e_) (c_ e_))))),b.2⟩) ?_
   refine hx_ (by kernel_rfl) ?_
   refine l_ rfl ?_
   refine m_ ?_
   refine d_ (bC_ rfl rfl rfl (cZ_ (by omega) (by omega))) rfl ?_
   refine d_ (V_ rfl) rfl ?_
   refine p_ ?_
   refine aD_ rfl ?_
   exact Q_ ⟨(i+1,sv2,Hr2),hlx1,(fun j s9 hj hji=>by rcases Nat.lt_or_ge j i with z|z;exact hSt j s9 hj z;obtain rfl:j=i:=(by omega);rw[hx1]at hj;obtain rfl:=Option.some.inj hj;exact hrc.symm),(by have z:=hq2;rw[← nU_ hx1]at z;exact z)⟩ (by dsimp only;omega) ⟨rfl,rfl,rfl,rfl,rfl,rfl,trivial⟩ (o_ (c_ (c_ (c_ e_))) (o_ (c_ (c_ (c_ e_))) (o_ e_ (o_ e_ P_)))) (fun _ _ h=>h.2)
  replace hr2:=of_decide_eq_true hr2
  refine L_ rfl ?_
  refine s_ ?_
  refine m_ ?_
  refine d_ (z_ rfl) rfl ?_
  refine p_ ?_
  refine l_ rfl ?_
  refine ar_ ?_
  exact J_ ki_ ⟨2,.inr (.inl ⟨by omega,by omega,rfl⟩)⟩ rfl g_ (fun _ _ _=>trivial)
 replace hr1:=eo_ hr1
 refine L_ rfl ?_
 refine s_ ?_
 refine m_ ?_
 refine d_ (V_ rfl) rfl ?_
 refine d_ (z_ rfl) rfl ?_
 refine p_ ?_
 refine l_ rfl ?_
 refine ar_ ?_
 exact J_ ki_ ⟨(bT_ p),.inl ⟨by omega,rfl⟩⟩ rfl g_ (fun _ _ _=>trivial)
end Go.Proofs.YtaffcjgphlhppaaGreatDoor
namespace Go.Proofs.YtaffcjgphlhppaaGreatDoor
open Go Go.Sx Go.Proofs
attribute [local irreducible] Code.wp wpList wpAnyH
open Go.Vs
theorem eI_ {s:Stp} (h:¬ (0≤s.rule∧s.rule≤255∧0≤s.fact.kind∧s.fact.kind≤255∧-1≤s.piece∧s.piece≤2147483646∧s.frm.length≤255∧(∀ q∈s.frm,0≤q∧q≤2147483647)∧s.fact.a.length≤65535∧s.fact.b.length≤65535∧s.fact.r.length≤65535)):false=fV_ s:=by
  rw[eq_comm,Bool.eq_false_iff]
  exact fun q=>h (gC_.1 q)
theorem qk_ {s:Stp} (h1:0≤s.rule) (h2:s.rule≤255) (h3:0≤s.fact.kind) (h4:s.fact.kind≤255) (h5:-1≤s.piece) (h6:s.piece≤2147483646) (h7:s.frm.length≤255) (h8:∀ q∈s.frm,0≤q∧q≤2147483647) (h9:s.fact.a.length≤65535) (h10:s.fact.b.length≤65535) :
    fV_ s=decide ((s.fact.r.length:Int)≤65535):=by
  rw[Bool.eq_iff_iff,gC_,decide_eq_true_eq]
  constructor
  · intro q;have:=q.2.2.2.2.2.2.2.2.2.2;omega
  · intro q;exact⟨h1,h2,h3,h4,h5,h6,h7,h8,h9,h10,by omega⟩
theorem tt_ (s:Stp) (hfr:s.frm.length≤1000000) (hsf:s.fact.sml):Tri Tryz.prog 36 #[Stp.val s] [] [at_ s.ad (List.flatMap dY_ s.frm)] (fun _:Unit=>.bool (fV_ s)) (fun _=>[]) (fun _=>[]):=by
 refine t_ Tryz.func36 rfl rfl Tryz.ntmps36 rfl fun v0=>?_
 obtain⟨hsa,hsb,hsr⟩:=hsf
 refine Zz 2 ?_
 refine ag_ rfl rfl fun b1=>Zz 7 ?_
 refine C_ ad_ rfl fun b2=>w_ 0 x_ rfl rfl rfl rfl rfl rfl (Zi 7 (fun hr1=>?_) fun hr1=>?_)
 ·refine Zi 6 (fun hr2=>?_) fun hr2=>?_
  ·refine Zi 7 (fun hr3=>?_) fun hr3=>?_
   ·refine Zi 7 (fun hr4=>?_) fun hr4=>?_
    ·refine Zi 7 (fun hr5=>?_) fun hr5=>?_
     ·refine Zi 7 (fun hr6=>?_) fun hr6=>?_
      ·refine Zi 9 (fun hr7=>?_) fun hr7=>?_
       ·refine Zz 16 ?_
        refine av_ (ι:={y:Nat // y≤List.length s.frm∧(∀ u∈List.take y s.frm,0≤u∧u≤2147483647)}) (fun y=>[(2,.bool false),(3,zp_ b2 0),(43,.slice s.ad (List.length s.frm) s.cap),(44,.int .i64 (List.length s.frm:Int)),(45,.int .i64 (y.1:Int))]) (fun y=>((b2,.cells (Fc.cells s.fact).toArray 24 (0,0))::[])) (fun y=>[at_ s.ad (List.flatMap dY_ s.frm)]) (fun y=>List.length s.frm - y.1) ⟨(0:Nat),by simp,by simp⟩ zl e_ zh ?_
        rintro ⟨i,hi_i,hA⟩
        dsimp only at hi_i hA ⊢
        refine Zi 2 (fun hr8=>?_) fun hr8=>?_
        ·refine Zz 10 ?_
         refine d_ (bR_ H_ rfl) rfl ?_
         refine Zi 0 (fun hr9=>?_) fun hr9=>?_
         ·refine Zz 16 ?_
          exact J_ cS_ () (f_ rfl (eI_ fun q=>by obtain⟨q1,q2,q3,q4,q5,q6,q7,_,q8,q9,q10⟩:=q;omega)) g_ zt
         refine Zz 6 ?_
         refine d_ (bR_ H_ rfl) rfl (y_ rfl rfl ?_)
         refine Zi 0 (fun hr10=>?_) fun hr10=>?_
         ·refine Zz 11 ?_
          exact J_ cS_ () (f_ rfl (eI_ fun q=>by obtain⟨q1,q2,q3,q4,q5,q6,q7,_,q8,q9,q10⟩:=q;omega)) g_ zt
         refine Zz 7 ?_
         refine d_ (bR_ H_ rfl) rfl (y_ rfl rfl (O_ (dV_ rfl rfl) rfl fun r11 hr11=>Zz 5 ?_))
         exact J_ cS_ () (f_ rfl (hr11.symm.trans (qk_ (s:=s) (by omega) (by omega) (by omega) (by omega) (by omega) (by omega) (by omega) (by have z:=hA;rw[List.take_of_length_le (by omega)]at z;exact z) (by omega) (by omega)).symm)) g_ zt
        obtain⟨hlx1,x1,hx1,hmx1⟩:=zge (show i<List.length s.frm by omega)
        refine Zi 18 (fun hr12=>?_) fun hr12=>?_
        ·refine Zi 4 (fun hr13=>?_) fun hr13=>?_
         ·refine Zz 11 ?_
          exact Q_ ⟨i+1,hlx1,fun u hu=>by rw[List.take_add_one,hx1]at hu;rcases List.mem_append.1 hu with z|z;exact hA u z;simp only[Option.toList_some,List.mem_singleton]at z;subst z;constructor<;>omega⟩ (by dsimp only;omega) zl e_ zh
         refine Zz 10 ?_
         exact J_ cS_ () (f_ rfl (eI_ fun q=>by have z:=q.2.2.2.2.2.2.2.1 x1 hmx1;omega)) g_ zt
        refine Zz 13 ?_
        exact J_ cS_ () (f_ rfl (eI_ fun q=>by have z:=q.2.2.2.2.2.2.2.1 x1 hmx1;omega)) g_ zt
       refine Zz 10 ?_
       exact J_ cS_ () (f_ rfl (eI_ fun q=>by obtain⟨q1,q2,q3,q4,q5,q6,q7,_,q8,q9,q10⟩:=q;omega)) g_ zt
      refine Zz 16 ?_
      exact J_ cS_ () (f_ rfl (eI_ fun q=>by obtain⟨q1,q2,q3,q4,q5,q6,q7,_,q8,q9,q10⟩:=q;omega)) g_ zt
     refine Zz 21 ?_
     exact J_ cS_ () (f_ rfl (eI_ fun q=>by obtain⟨q1,q2,q3,q4,q5,q6,q7,_,q8,q9,q10⟩:=q;omega)) g_ zt
    refine Zz 26 ?_
    exact J_ cS_ () (f_ rfl (eI_ fun q=>by obtain⟨q1,q2,q3,q4,q5,q6,q7,_,q8,q9,q10⟩:=q;omega)) g_ zt
   refine Zz 31 ?_
   exact J_ cS_ () (f_ rfl (eI_ fun q=>by obtain⟨q1,q2,q3,q4,q5,q6,q7,_,q8,q9,q10⟩:=q;omega)) g_ zt
  refine Zz 36 ?_
  exact J_ cS_ () (f_ rfl (eI_ fun q=>by obtain⟨q1,q2,q3,q4,q5,q6,q7,_,q8,q9,q10⟩:=q;omega)) g_ zt
 refine Zz 40 ?_
 exact J_ cS_ () (f_ rfl (eI_ fun q=>by obtain⟨q1,q2,q3,q4,q5,q6,q7,_,q8,q9,q10⟩:=q;omega)) g_ zt
theorem elt_u8:Elt Tryz.prog 39 5 1 1:=kS_ lp_ (z:=.int .u8 0) (by kernel_rfl) rfl (by decide)
theorem elt_by:EltB Tryz.prog 39 5 9:=eltB lp_ aM_ (by kernel_rfl)
theorem eD_ (L:Str) (n:Int) (k:Nat) (sv:Value) (Hr:Hp) (hr:zR 5 1 u8C sv L Hr) (hk:k≤8) (hL:L.length≤140737488355000):Tri Tryz.prog 37 #[sv,.int .i64 n,.int .i64 (k:Int)] Hr [] (fun y:{y:Value×Hp // zR 5 1 u8C y.1 (L++ay_ n k) y.2}=>y.1.1) (fun y=>y.1.2) (fun _=>[]):=by
 refine t_ Tryz.func37 rfl rfl Tryz.ntmps37 rfl fun v0=>?_
 refine Zz 14 ?_
 refine av_ (ι:={y:Nat×Str×Value×Hp // y.1≤k∧L++ay_ n k=y.2.1++ay_ n y.1∧zR 5 1 u8C y.2.2.1 y.2.1 y.2.2.2}) (fun y=>[(0,y.1.2.2.1),(1,.int .i64 n),(7,.int .i64 ((y.1.1:Int) - 1))]) (fun y=>(y.1.2.2.2)) (fun y=>[]) (fun y=>y.1.1) ⟨(k,L,sv,Hr),Nat.le_refl _,rfl,hr⟩ zl bH_ zt ?_
 rintro ⟨⟨j,l,sv_B,H_B⟩,hj,hl,hr_B⟩
 dsimp only at hj hl hr_B ⊢
 refine Zi 4 (fun hr1=>?_) fun hr1=>?_
 ·obtain rfl:j=0:=by omega
  simp only[ay_,List.append_nil]at hl
  refine Zz 12 ?_
  exact J_ Tryz.results37 ⟨(sv_B,H_B),by rw[hl];exact hr_B⟩ rfl bH_ zt
 obtain⟨i,rfl⟩:∃ i,j=i+1:=⟨j - 1,by omega⟩
 refine Zz 10 ?_
 refine d_ (gI_ bh_ fk_ rfl (pw_ n)) rfl (Zz 1 ?_)
 refine d_ (bF_ (bC_ rfl rfl rfl (cZ_ (by omega) (by omega))) (show _=Value.int .i64 (8*(i:Int)) by congr 1;omega)) rfl ?_
 refine d_ (qy_ (m:=Go.Vs.bits n) (i:=i) rfl rfl (by omega)) rfl (d_ (gI_ fk_ mY_ rfl (sv_ _)) rfl (ap_ aV_ hi_ Tryz.zeroValue5 rfl rfl rfl rfl rfl rfl fun b1=>?_))
 refine aH_ (news:=List.flatMap u8C [(UInt8.ofNat (Go.Vs.bits n / 256 ^ i))]) elt_u8 hr_B rfl rfl P_ rfl (bJ_ 0 rfl) (fun u hu=>ba_ sA_ hu) (by simp only[maxLen];(have z:=congrArg List.length hl;simp only[List.length_append,bV_,List.length_cons,List.length_nil]at z ⊢;omega)) (by (have z:=congrArg List.length hl;simp only[List.length_append,bV_,List.length_cons,List.length_nil]at z ⊢;omega)) rfl fun sv1 Hr1 hr1=>?_
 refine ac_ List.perm_append_comm ?_
 have hq1:=zsa hr1
 refine Zz 9 ?_
 exact Q_ ⟨(i,(l++[(UInt8.ofNat (Go.Vs.bits n / 256 ^ i))]),sv1,Hr1),(by omega),(by rw[hl];simp[ay_]),hq1⟩ (by dsimp only;omega) ⟨rfl,rfl,(congrArg some (congrArg (Value.int .i64) (by dsimp only;omega))),trivial⟩ P_ zt
end Go.Proofs.YtaffcjgphlhppaaGreatDoor
namespace Go.Proofs.YtaffcjgphlhppaaGreatDoor
open Go Go.Sx Go.Proofs
attribute [local irreducible] Code.wp wpList wpAnyH
open Go.Vs
theorem kO_ {α β:Type} (f:α→List β) (n:Nat) (h:∀ x,(f x).length=n):∀ l:List α,(l.flatMap f).length=l.length*n
  | []=>by simp
  | x::l=>by rw[List.flatMap_cons,List.length_append,h,kO_ f n h l,List.length_cons,Nat.succ_mul,Nat.add_comm]
theorem qN_ {s:Stp} (h:fV_ s=true):(dy_ s).length≤198000:=by
  obtain⟨_,_,_,_,_,_,h7,_,h8,h9,h10⟩:=gC_.1 h
  have e:(s.frm.flatMap fun q=>ay_ q 4).length=s.frm.length*4:=kO_ _ 4 (fun q=>bV_ q 4) _
  simp only[dy_,cI_,List.length_append,bV_,e]
  omega
theorem nV_ {l:List Stp} (h:∀ s∈l,fV_ s=true):∀ i,((l.take i).flatMap dy_).length≤198000*i
  | 0=>by simp
  | i+1=>by
    have ih:=nV_ h i
    cases hs:l[i]? with
    | none =>
      have:l.take (i+1)=l.take i:=by rw[List.take_add_one,hs];simp
      rw[this];omega
    | some s =>
      have q:=qN_ (h s (List.mem_of_getElem? hs))
      rw[List.take_add_one,hs,Option.toList_some,List.flatMap_append,List.length_append,List.flatMap_cons,List.flatMap_nil,List.append_nil]
      omega
theorem text_len {l:List Str} (h:∀ s∈l,s.length≤65535):∀ i,((l.take i).flatMap cI_).length≤65537*i
  | 0=>by simp
  | i+1=>by
    have ih:=text_len h i
    cases hs:l[i]? with
    | none =>
      have:l.take (i+1)=l.take i:=by rw[List.take_add_one,hs];simp
      rw[this];omega
    | some s =>
      have q:=h s (List.mem_of_getElem? hs)
      rw[List.take_add_one,hs,Option.toList_some,List.flatMap_append,List.length_append,List.flatMap_cons,List.flatMap_nil,List.append_nil,cI_,List.length_append,bV_]
      omega
theorem tc_ (l:List Int) (i:Nat) (h:l.length≤255):((l.take i).flatMap fun q=>ay_ q 4).length≤1020:=by
  rw[kO_ _ 4 (fun q=>bV_ q 4),List.length_take];omega
theorem rX_ {l:List Stp} {i:Nat} {s:Stp} {tj:List Str} {tk:List Int} (hs:l[i]? = some s) (hj:tj=[s.fact.a,s.fact.b,s.fact.r]) (hk:tk=s.frm) (A:Str) :
    ((((((((A++List.flatMap dy_ (List.take i l))++ay_ s.rule 1)++ay_ s.fact.kind 1)++List.flatMap cI_ tj)++ay_ s.fact.lo 8)++ay_ s.fact.hi 8)++ay_ (s.piece+1) 4)++ay_ (s.frm.length:Int) 1)++List.flatMap (fun q=>ay_ q 4) tk=A++List.flatMap dy_ (List.take (i+1) l):=by
  subst hj;subst hk
  rw[List.take_add_one,hs]
  simp[dy_,List.append_assoc]
theorem pm_ {α β:Type} {l:List α} {i:Nat} {x:α} (f:α→List β) (hx:l[i]? = some x) (A:List β):(A++List.flatMap f (List.take i l))++f x=A++List.flatMap f (List.take (i+1) l):=by
  rw[List.take_add_one,hx];simp
theorem rW_ (l:List Stp) (ad:Option Addr) (cap:Nat) (hll:l.length≤10000000) (hfr:∀ s∈l,s.frm.length≤1000000) (hsf:∀ s∈l,s.fact.sml):Tri Tryz.prog 15 #[.agg #[.slice ad (List.length l) cap]] [] [at_ ad (List.flatMap Stp.cells l),dD_ l] (fun y:{y:Value×Hp // zR 5 1 u8C y.1 (gX_ l).1 y.2}=>.tuple #[y.1.1,.int .i64 (gX_ l).2]) (fun y=>y.1.2) (fun _=>[]):=by
 refine t_ Tryz.func15 rfl rfl Tryz.ntmps15 rfl fun v0=>?_
 refine Zz 2 ?_
 refine ag_ rfl rfl fun b1=>Zi 10 (fun hr1=>?_) fun hr1=>?_
 ·refine Zz 15 ?_
  refine av_ (ι:={y:Nat // y≤List.length l∧(∀ s∈List.take y l,fV_ s=true)}) (fun y=>[(1,zp_ b1 0),(2,.slice none 0 0),(3,.int .i64 0),(18,.slice ad (List.length l) cap),(19,.int .i64 (List.length l:Int)),(20,.int .i64 (y.1:Int))]) (fun y=>((b1,.cells #[.slice ad (List.length l) cap] 27 (0,0))::[])) (fun y=>[at_ ad (List.flatMap Stp.cells l),dD_ l]) (fun y=>List.length l - y.1) ⟨(0:Nat),by simp,by simp⟩ zl e_ zh ?_
  rintro ⟨i,hi_i,hE0⟩
  dsimp only at hi_i hE0 ⊢
  refine Zi 2 (fun hr2=>?_) fun hr2=>?_
  ·have hE:∀ s∈l,fV_ s=true:=by have z:=hE0;rw[List.take_of_length_le (by omega)]at z;exact z
   refine Zz 11 ?_
   refine q_ (eD_ ([]:Str) (List.length l:Int) 4 (.slice none 0 0) [] (bA_.nil _ _) (by decide) (by simp only[List.length_append,bV_,List.length_nil];omega)) rfl g_ zt rfl fun⟨⟨svn1,Hn1⟩,hn1⟩=>?_
   dsimp only
   refine Zz 4 ?_
   refine ac_ (cA_ cp_) (Zz 9 ?_)
   have hw1:bA_ 5 1 svn1 (List.length (ay_ (List.length l:Int) 4++List.flatMap dy_ (List.take 0 l))) (List.flatMap u8C (ay_ (List.length l:Int) 4++List.flatMap dy_ (List.take 0 l))) Hn1:=by have q:=hn1;rw[show (([]:Str)++ay_ (List.length l:Int) 4)=(ay_ (List.length l:Int) 4++List.flatMap dy_ (List.take 0 l)) from (by simp)]at q;exact q
   refine av_ (ι:={y:Nat×Value×Hp // y.1≤List.length l∧zR 5 1 u8C y.2.1 (ay_ (List.length l:Int) 4++List.flatMap dy_ (List.take y.1 l)) y.2.2}) (fun y=>[(1,zp_ b1 0),(2,y.1.2.1),(3,.int .i64 0),(33,.slice ad (List.length l) cap),(34,.int .i64 (List.length l:Int)),(35,.int .i64 (y.1.1:Int))]) (fun y=>((b1,.cells #[.slice ad (List.length l) cap] 27 (0,0))::y.1.2.2)) (fun y=>[at_ ad (List.flatMap Stp.cells l),dD_ l]) (fun y=>List.length l - y.1.1) ⟨((0:Nat),svn1,Hn1),by simp,hw1⟩ zl zp zh ?_
   rintro ⟨⟨i,sv_B,H_B⟩,hi_i,hr_B⟩
   dsimp only at hi_i hr_B ⊢
   have hb1:=nV_ hE i
   refine Zi 2 (fun hr3=>?_) fun hr3=>?_
   ·refine Zz 14 ?_
    have he:gX_ l=(ql_ l,0):=by unfold gX_;rw[if_neg (by omega),if_pos (List.all_eq_true.2 hE)]
    have e5:(ay_ (List.length l:Int) 4++List.flatMap dy_ (List.take i l))=ql_ l:=by rw[List.take_of_length_le (by omega)];rfl
    exact sT_ Tryz.results15 ⟨(sv_B,H_B),by rw[he,← e5];exact hr_B⟩ rfl rfl (by dsimp only;rw[he]) P_ zt
   obtain⟨hlx1,x1,hx1,hmx1⟩:=zge (show i<List.length l by omega)
   obtain⟨ho1,ho2,ho3,ho4,ho5,ho6,ho7,ho8,ho9,ho10,ho11⟩:=gC_.1 (hE x1 hmx1)
   have hb2:=text_len (l:=[(Fc.a x1.fact),(Fc.b x1.fact),(Fc.r x1.fact)]) (by intro z hz;simp only[List.mem_cons,List.not_mem_nil,or_false]at hz;rcases hz with rfl|rfl|rfl<;>assumption)
   have hb3:=fun w=>tc_ x1.frm w ho7
   refine Zz 12 ?_
   refine C_ bb_ rfl fun b2=>w_ 0 aZ_ rfl rfl rfl rfl rfl rfl (Zz 6 ?_)
   refine C_ ad_ rfl fun b3=>w_ 0 x_ rfl rfl rfl rfl rfl rfl (Zz 3 ?_)
   refine ax_ ((b3,.cells (Fc.cells x1.fact).toArray 24 (0,0))::((b2,.cells #[.int .i64 x1.rule,.int .i64 (Fc.kind x1.fact),str (Fc.a x1.fact),str (Fc.b x1.fact),str (Fc.r x1.fact),.int .i64 (Fc.lo x1.fact),.int .i64 (Fc.hi x1.fact),.int .i64 x1.piece,.slice x1.ad (List.length x1.frm) x1.cap] 36 (0,0))::((b1,.cells #[.slice ad (List.length l) cap] 27 (0,0))::[]))) zk ?_
   refine n_ 3 [0,1,2,4,5] zk zs (Zz 6 ?_)
   refine i_ 3 rfl zk (q_ (eD_ (ay_ (List.length l:Int) 4++List.flatMap dy_ (List.take i l)) x1.rule 1 sv_B H_B hr_B (by decide) (by simp only[List.length_append,bV_,List.length_nil];omega)) rfl (c_ (c_ P_)) zt rfl fun⟨⟨svn2,Hn2⟩,hn2⟩=>?_)
   dsimp only
   refine Zz 3 ?_
   refine i_ 6 rfl zk (q_ (eD_ ((ay_ (List.length l:Int) 4++List.flatMap dy_ (List.take i l))++ay_ x1.rule 1) (Fc.kind x1.fact) 1 svn2 Hn2 hn2 (by decide) (by simp only[List.length_append,bV_,List.length_nil];omega)) rfl u_ zt rfl fun⟨⟨svn3,Hn3⟩,hn3⟩=>?_)
   dsimp only
   refine Zz 3 ?_
   refine n_ 0 [7] zk zs (Zz 5 ?_)
   refine ac_ (aN_ (j_ e_) (aN_ (j_ e_) (cA_ cp_))) (Zz 8 ?_)
   refine ap_ N_ al_ br_ rfl rfl rfl rfl rfl rfl fun b4=>?_
   refine bu_ (List.flatMap bw_ [(Fc.a x1.fact),(Fc.b x1.fact),(Fc.r x1.fact)]) e_ rfl ?_
   refine Zz 5 ?_
   have hw2:bA_ 5 1 svn3 (List.length ((((ay_ (List.length l:Int) 4++List.flatMap dy_ (List.take i l))++ay_ x1.rule 1)++ay_ (Fc.kind x1.fact) 1)++List.flatMap cI_ (List.take 0 [(Fc.a x1.fact),(Fc.b x1.fact),(Fc.r x1.fact)]))) (List.flatMap u8C ((((ay_ (List.length l:Int) 4++List.flatMap dy_ (List.take i l))++ay_ x1.rule 1)++ay_ (Fc.kind x1.fact) 1)++List.flatMap cI_ (List.take 0 [(Fc.a x1.fact),(Fc.b x1.fact),(Fc.r x1.fact)]))) Hn3:=by have q:=hn3;rw[show (((ay_ (List.length l:Int) 4++List.flatMap dy_ (List.take i l))++ay_ x1.rule 1)++ay_ (Fc.kind x1.fact) 1)=((((ay_ (List.length l:Int) 4++List.flatMap dy_ (List.take i l))++ay_ x1.rule 1)++ay_ (Fc.kind x1.fact) 1)++List.flatMap cI_ (List.take 0 [(Fc.a x1.fact),(Fc.b x1.fact),(Fc.r x1.fact)])) from (by simp)]at q;exact q
   refine av_ (ι:={y:Nat×Value×Hp // y.1≤List.length [(Fc.a x1.fact),(Fc.b x1.fact),(Fc.r x1.fact)]∧zR 5 1 u8C y.2.1 ((((ay_ (List.length l:Int) 4++List.flatMap dy_ (List.take i l))++ay_ x1.rule 1)++ay_ (Fc.kind x1.fact) 1)++List.flatMap cI_ (List.take y.1 [(Fc.a x1.fact),(Fc.b x1.fact),(Fc.r x1.fact)])) y.2.2}) (fun y=>[(1,zp_ b1 0),(2,y.1.2.1),(3,.int .i64 0),(33,.slice ad (List.length l) cap),(34,.int .i64 (List.length l:Int)),(35,.int .i64 (i:Int)),(7,zp_ b2 0),(8,zp_ b3 0),(54,.slice (some ⟨b4,0,none⟩) (List.length [(Fc.a x1.fact),(Fc.b x1.fact),(Fc.r x1.fact)]) 3),(55,.int .i64 3),(56,.int .i64 (y.1.1:Int))]) (fun y=>((b3,.cells (Fc.cells x1.fact).toArray 24 (0,0))::((b2,.cells #[.int .i64 x1.rule,.int .i64 (Fc.kind x1.fact),str (Fc.a x1.fact),str (Fc.b x1.fact),str (Fc.r x1.fact),.int .i64 (Fc.lo x1.fact),.int .i64 (Fc.hi x1.fact),.int .i64 x1.piece,.slice x1.ad (List.length x1.frm) x1.cap] 36 (0,0))::((b1,.cells #[.slice ad (List.length l) cap] 27 (0,0))::y.1.2.2)))) (fun y=>[at_ (some ⟨b4,0,none⟩) (List.flatMap bw_ [(Fc.a x1.fact),(Fc.b x1.fact),(Fc.r x1.fact)]),at_ ad (List.flatMap Stp.cells l),dD_ l]) (fun y=>List.length [(Fc.a x1.fact),(Fc.b x1.fact),(Fc.r x1.fact)] - y.1.1) ⟨((0:Nat),svn3,Hn3),by simp,hw2⟩ zl zp zh ?_
   rintro ⟨⟨j,sv_B,H_B⟩,hi_j,hr_B⟩
   dsimp only at hi_j hr_B ⊢
   refine Zi 2 (fun hr4=>?_) fun hr4=>?_
   ·have e3:List.take j [(Fc.a x1.fact),(Fc.b x1.fact),(Fc.r x1.fact)]=[(Fc.a x1.fact),(Fc.b x1.fact),(Fc.r x1.fact)]:=List.take_of_length_le (show 3≤j by omega)
    have hb4:=hb2 j;have hj3:j≤3:=hi_j
    refine Zz 7 ?_
    refine ax_ ((b3,.cells (Fc.cells x1.fact).toArray 24 (0,0))::((b2,.cells #[.int .i64 x1.rule,.int .i64 (Fc.kind x1.fact),str (Fc.a x1.fact),str (Fc.b x1.fact),str (Fc.r x1.fact),.int .i64 (Fc.lo x1.fact),.int .i64 (Fc.hi x1.fact),.int .i64 x1.piece,.slice x1.ad (List.length x1.frm) x1.cap] 36 (0,0))::((b1,.cells #[.slice ad (List.length l) cap] 27 (0,0))::[]))) zk ?_
    refine n_ 3 [0,1,2,4,5] zk zs (Zz 6 ?_)
    refine i_ 3 rfl zk (q_ (eD_ ((((ay_ (List.length l:Int) 4++List.flatMap dy_ (List.take i l))++ay_ x1.rule 1)++ay_ (Fc.kind x1.fact) 1)++List.flatMap cI_ (List.take j [(Fc.a x1.fact),(Fc.b x1.fact),(Fc.r x1.fact)])) (Fc.lo x1.fact) 8 sv_B H_B hr_B (by decide) (by simp only[List.length_append,bV_,List.length_nil];omega)) rfl zp zt rfl fun⟨⟨svn4,Hn4⟩,hn4⟩=>?_)
    dsimp only
    refine Zz 3 ?_
    refine i_ 6 rfl zk (q_ (eD_ (((((ay_ (List.length l:Int) 4++List.flatMap dy_ (List.take i l))++ay_ x1.rule 1)++ay_ (Fc.kind x1.fact) 1)++List.flatMap cI_ (List.take j [(Fc.a x1.fact),(Fc.b x1.fact),(Fc.r x1.fact)]))++ay_ (Fc.lo x1.fact) 8) (Fc.hi x1.fact) 8 svn4 Hn4 hn4 (by decide) (by simp only[List.length_append,bV_,List.length_nil];omega)) rfl u_ zt rfl fun⟨⟨svn5,Hn5⟩,hn5⟩=>?_)
    dsimp only
    refine Zz 3 ?_
    refine n_ 0 [7] zk zs (Zz 4 ?_)
    refine ac_ (aN_ (j_ e_) (aN_ (j_ e_) (cA_ cp_))) (s_ ?_)
    refine ax_ ((b3,.cells (Fc.cells x1.fact).toArray 24 (0,0))::((b2,.cells #[.int .i64 x1.rule,.int .i64 (Fc.kind x1.fact),str (Fc.a x1.fact),str (Fc.b x1.fact),str (Fc.r x1.fact),.int .i64 (Fc.lo x1.fact),.int .i64 (Fc.hi x1.fact),.int .i64 x1.piece,.slice x1.ad (List.length x1.frm) x1.cap] 36 (0,0))::((b1,.cells #[.slice ad (List.length l) cap] 27 (0,0))::[]))) zk ?_
    refine n_ 3 [0,1,2,3,5,6,7] zk zs (Zz 8 ?_)
    refine i_ 4 rfl zk (q_ (eD_ ((((((ay_ (List.length l:Int) 4++List.flatMap dy_ (List.take i l))++ay_ x1.rule 1)++ay_ (Fc.kind x1.fact) 1)++List.flatMap cI_ (List.take j [(Fc.a x1.fact),(Fc.b x1.fact),(Fc.r x1.fact)]))++ay_ (Fc.lo x1.fact) 8)++ay_ (Fc.hi x1.fact) 8) (x1.piece+1) 4 svn5 Hn5 hn5 (by decide) (by simp only[List.length_append,bV_,List.length_nil];omega)) rfl zp zt rfl fun⟨⟨svn6,Hn6⟩,hn6⟩=>?_)
    dsimp only
    refine Zz 3 ?_
    refine i_ 8 rfl zk (q_ (eD_ (((((((ay_ (List.length l:Int) 4++List.flatMap dy_ (List.take i l))++ay_ x1.rule 1)++ay_ (Fc.kind x1.fact) 1)++List.flatMap cI_ (List.take j [(Fc.a x1.fact),(Fc.b x1.fact),(Fc.r x1.fact)]))++ay_ (Fc.lo x1.fact) 8)++ay_ (Fc.hi x1.fact) 8)++ay_ (x1.piece+1) 4) (List.length x1.frm:Int) 1 svn6 Hn6 hn6 (by decide) (by simp only[List.length_append,bV_,List.length_nil];omega)) rfl u_ zt rfl fun⟨⟨svn7,Hn7⟩,hn7⟩=>?_)
    dsimp only
    refine Zz 3 ?_
    refine n_ 0 [9] zk zs (Zz 4 ?_)
    refine ac_ (aN_ (j_ e_) (aN_ (j_ e_) (cA_ cp_))) (Zz 9 ?_)
    have hw3:bA_ 5 1 svn7 (List.length (((((((((ay_ (List.length l:Int) 4++List.flatMap dy_ (List.take i l))++ay_ x1.rule 1)++ay_ (Fc.kind x1.fact) 1)++List.flatMap cI_ (List.take j [(Fc.a x1.fact),(Fc.b x1.fact),(Fc.r x1.fact)]))++ay_ (Fc.lo x1.fact) 8)++ay_ (Fc.hi x1.fact) 8)++ay_ (x1.piece+1) 4)++ay_ (List.length x1.frm:Int) 1)++List.flatMap (fun q=>ay_ q 4) (List.take 0 x1.frm))) (List.flatMap u8C (((((((((ay_ (List.length l:Int) 4++List.flatMap dy_ (List.take i l))++ay_ x1.rule 1)++ay_ (Fc.kind x1.fact) 1)++List.flatMap cI_ (List.take j [(Fc.a x1.fact),(Fc.b x1.fact),(Fc.r x1.fact)]))++ay_ (Fc.lo x1.fact) 8)++ay_ (Fc.hi x1.fact) 8)++ay_ (x1.piece+1) 4)++ay_ (List.length x1.frm:Int) 1)++List.flatMap (fun q=>ay_ q 4) (List.take 0 x1.frm))) Hn7:=by have q:=hn7;rw[show ((((((((ay_ (List.length l:Int) 4++List.flatMap dy_ (List.take i l))++ay_ x1.rule 1)++ay_ (Fc.kind x1.fact) 1)++List.flatMap cI_ (List.take j [(Fc.a x1.fact),(Fc.b x1.fact),(Fc.r x1.fact)]))++ay_ (Fc.lo x1.fact) 8)++ay_ (Fc.hi x1.fact) 8)++ay_ (x1.piece+1) 4)++ay_ (List.length x1.frm:Int) 1)=(((((((((ay_ (List.length l:Int) 4++List.flatMap dy_ (List.take i l))++ay_ x1.rule 1)++ay_ (Fc.kind x1.fact) 1)++List.flatMap cI_ (List.take j [(Fc.a x1.fact),(Fc.b x1.fact),(Fc.r x1.fact)]))++ay_ (Fc.lo x1.fact) 8)++ay_ (Fc.hi x1.fact) 8)++ay_ (x1.piece+1) 4)++ay_ (List.length x1.frm:Int) 1)++List.flatMap (fun q=>ay_ q 4) (List.take 0 x1.frm)) from (by simp)]at q;exact q
    refine av_ (ι:={y:Nat×Value×Hp // y.1≤List.length x1.frm∧zR 5 1 u8C y.2.1 (((((((((ay_ (List.length l:Int) 4++List.flatMap dy_ (List.take i l))++ay_ x1.rule 1)++ay_ (Fc.kind x1.fact) 1)++List.flatMap cI_ (List.take j [(Fc.a x1.fact),(Fc.b x1.fact),(Fc.r x1.fact)]))++ay_ (Fc.lo x1.fact) 8)++ay_ (Fc.hi x1.fact) 8)++ay_ (x1.piece+1) 4)++ay_ (List.length x1.frm:Int) 1)++List.flatMap (fun q=>ay_ q 4) (List.take y.1 x1.frm)) y.2.2}) (fun y=>[(1,zp_ b1 0),(2,y.1.2.1),(3,.int .i64 0),(33,.slice ad (List.length l) cap),(34,.int .i64 (List.length l:Int)),(35,.int .i64 (i:Int)),(7,zp_ b2 0),(8,zp_ b3 0),(54,.slice (some ⟨b4,0,none⟩) (List.length [(Fc.a x1.fact),(Fc.b x1.fact),(Fc.r x1.fact)]) 3),(55,.int .i64 3),(56,.int .i64 (j:Int)),(84,.slice x1.ad (List.length x1.frm) x1.cap),(85,.int .i64 (List.length x1.frm:Int)),(86,.int .i64 (y.1.1:Int))]) (fun y=>((b3,.cells (Fc.cells x1.fact).toArray 24 (0,0))::((b2,.cells #[.int .i64 x1.rule,.int .i64 (Fc.kind x1.fact),str (Fc.a x1.fact),str (Fc.b x1.fact),str (Fc.r x1.fact),.int .i64 (Fc.lo x1.fact),.int .i64 (Fc.hi x1.fact),.int .i64 x1.piece,.slice x1.ad (List.length x1.frm) x1.cap] 36 (0,0))::((b1,.cells #[.slice ad (List.length l) cap] 27 (0,0))::y.1.2.2)))) (fun y=>[at_ (some ⟨b4,0,none⟩) (List.flatMap bw_ [(Fc.a x1.fact),(Fc.b x1.fact),(Fc.r x1.fact)]),at_ ad (List.flatMap Stp.cells l),dD_ l]) (fun y=>List.length x1.frm - y.1.1) ⟨((0:Nat),svn7,Hn7),by simp,hw3⟩ zl zp zh ?_
    rintro ⟨⟨k,sv_B,H_B⟩,hi_k,hr_B⟩
    dsimp only at hi_k hr_B ⊢
    refine Zi 2 (fun hr5=>?_) fun hr5=>?_
    ·have e4:List.take k x1.frm=Stp.frm x1:=List.take_of_length_le (by omega)
     refine Zz 11 ?_
     exact Q_ ⟨(i+1,sv_B,H_B),hlx1,(by have z:=hr_B;rw[show (((((((((ay_ (List.length l:Int) 4++List.flatMap dy_ (List.take i l))++ay_ x1.rule 1)++ay_ (Fc.kind x1.fact) 1)++List.flatMap cI_ (List.take j [(Fc.a x1.fact),(Fc.b x1.fact),(Fc.r x1.fact)]))++ay_ (Fc.lo x1.fact) 8)++ay_ (Fc.hi x1.fact) 8)++ay_ (x1.piece+1) 4)++ay_ (List.length x1.frm:Int) 1)++List.flatMap (fun q=>ay_ q 4) (List.take k x1.frm))=_ from rX_ hx1 e3 e4 (ay_ (List.length l:Int) 4)]at z;exact z)⟩ (by dsimp only;omega) zl (o_ (c_ (c_ e_)) (c_ P_)) (fun _ _ h=>h.2)
    obtain⟨hlx3,x3,hx3,hmx3⟩:=zge (show k<List.length x1.frm by omega)
    have hb5:=hb3 k
    refine Zz 10 ?_
    refine d_ (X_ aG_ aq_ rfl rfl (fun v _ h=>I_ (n:=1) bz_ (by decide) (by exact (h.2.2.1 x1 hmx1)) hx3) (by omega) (by first|omega|(simp;done))) rfl ?_
    refine d_ (bn_ (ad:=x1.ad) aK_ rfl (fun v _ h=>by exact (h.2.2.1 x1 hmx1)) (G_ bz_ hx3 0 _ rfl)) rfl (Zz 6 ?_)
    refine q_ (eD_ (((((((((ay_ (List.length l:Int) 4++List.flatMap dy_ (List.take i l))++ay_ x1.rule 1)++ay_ (Fc.kind x1.fact) 1)++List.flatMap cI_ (List.take j [(Fc.a x1.fact),(Fc.b x1.fact),(Fc.r x1.fact)]))++ay_ (Fc.lo x1.fact) 8)++ay_ (Fc.hi x1.fact) 8)++ay_ (x1.piece+1) 4)++ay_ (List.length x1.frm:Int) 1)++List.flatMap (fun q=>ay_ q 4) (List.take k x1.frm)) x3 4 sv_B H_B hr_B (by decide) (by simp only[List.length_append,bV_,List.length_nil];omega)) rfl zp zt rfl fun⟨⟨svn8,Hn8⟩,hn8⟩=>?_
    dsimp only
    refine Zz 3 ?_
    refine ac_ (aN_ (j_ e_) (aN_ (j_ e_) (cA_ cp_))) (Zz 5 ?_)
    exact Q_ ⟨(k+1,svn8,Hn8),hlx3,(by have z:=hn8;rw[show ((((((((((ay_ (List.length l:Int) 4++List.flatMap dy_ (List.take i l))++ay_ x1.rule 1)++ay_ (Fc.kind x1.fact) 1)++List.flatMap cI_ (List.take j [(Fc.a x1.fact),(Fc.b x1.fact),(Fc.r x1.fact)]))++ay_ (Fc.lo x1.fact) 8)++ay_ (Fc.hi x1.fact) 8)++ay_ (x1.piece+1) 4)++ay_ (List.length x1.frm:Int) 1)++List.flatMap (fun q=>ay_ q 4) (List.take k x1.frm))++ay_ x3 4)=_ from pm_ (fun q=>ay_ q 4) hx3 ((((((((ay_ (List.length l:Int) 4++List.flatMap dy_ (List.take i l))++ay_ x1.rule 1)++ay_ (Fc.kind x1.fact) 1)++List.flatMap cI_ (List.take j [(Fc.a x1.fact),(Fc.b x1.fact),(Fc.r x1.fact)]))++ay_ (Fc.lo x1.fact) 8)++ay_ (Fc.hi x1.fact) 8)++ay_ (x1.piece+1) 4)++ay_ (List.length x1.frm:Int) 1)]at z;exact z)⟩ (by dsimp only;omega) zl (o_ e_ (o_ e_ (o_ e_ bH_))) zh
   have hlx2:j<List.length [(Fc.a x1.fact),(Fc.b x1.fact),(Fc.r x1.fact)]:=(show j<3 by omega)
   obtain⟨x2,hx2⟩:∃ e0,[(Fc.a x1.fact),(Fc.b x1.fact),(Fc.r x1.fact)][j]? = some e0:=⟨_,List.getElem?_eq_getElem hlx2⟩
   have hmx2:x2∈[(Fc.a x1.fact),(Fc.b x1.fact),(Fc.r x1.fact)]:=List.mem_of_getElem? hx2
   have ht2:List.length x2≤65535:=by simp only[List.mem_cons,List.not_mem_nil,or_false]at hmx2;rcases hmx2 with rfl|rfl|rfl<;>assumption
   have hb4:=hb2 j;have hj3:j<3:=by omega
   refine Zz 11 ?_
   refine d_ (bn_ (ad:=(some ⟨b4,0,none⟩)) ai_ rfl zf (G_ aS_ hx2 0 _ rfl)) rfl (Zz 6 ?_)
   refine d_ (bR_ H_ rfl) rfl (q_ (eD_ ((((ay_ (List.length l:Int) 4++List.flatMap dy_ (List.take i l))++ay_ x1.rule 1)++ay_ (Fc.kind x1.fact) 1)++List.flatMap cI_ (List.take j [(Fc.a x1.fact),(Fc.b x1.fact),(Fc.r x1.fact)])) (x2.length:Int) 2 sv_B H_B hr_B (by decide) (by simp only[List.length_append,bV_,List.length_nil];omega)) rfl zp zt rfl fun⟨⟨svn9,Hn9⟩,hn9⟩=>?_)
   dsimp only
   refine Zz 1 ?_
   refine le_ elt_by hn9 rfl rfl u_ (by simp only[List.length_append,bV_,List.length_nil];omega) rfl fun sv4 Hr4 hr4=>?_
   refine ac_ List.perm_append_comm (Zz 8 ?_)
   exact Q_ ⟨(j+1,sv4,Hr4),hlx2,(by have z:=hr4;rw[show ((((((ay_ (List.length l:Int) 4++List.flatMap dy_ (List.take i l))++ay_ x1.rule 1)++ay_ (Fc.kind x1.fact) 1)++List.flatMap cI_ (List.take j [(Fc.a x1.fact),(Fc.b x1.fact),(Fc.r x1.fact)]))++ay_ (x2.length:Int) 2)++x2)=_ from (List.append_assoc _ _ _).trans (pm_ cI_ hx2 (((ay_ (List.length l:Int) 4++List.flatMap dy_ (List.take i l))++ay_ x1.rule 1)++ay_ (Fc.kind x1.fact) 1))]at z;exact z)⟩ (by dsimp only;omega) zl (o_ e_ (o_ e_ (o_ e_ bH_))) zh
  obtain⟨hlx1,x1,hx1,hmx1⟩:=zge (show i<List.length l by omega)
  refine Zz 12 ?_
  refine C_ bb_ rfl fun b5=>w_ 0 aZ_ rfl rfl rfl rfl rfl rfl (Zz 5 ?_)
  refine S_ (tt_ x1 (hfr x1 hmx1) (hsf x1 hmx1)) rfl g_ (fun v _ h=>by exact⟨(h.2.1 x1 hmx1),trivial⟩) rfl fun r6 hr6=>d_ (bj_ rfl) rfl (Zz 2 ?_)
  cases r6
  ·refine Zz 8 ?_
   have he:gX_ l=([],120):=by unfold gX_;rw[if_neg (by omega),if_neg (fun z=>by have:=List.all_eq_true.1 z x1 hmx1;simp_all)]
   exact sT_ Tryz.results15 ⟨(.slice none 0 0,[]),by rw[he];exact bA_.nil _ _⟩ rfl rfl (by dsimp only;rw[he]) g_ zt
  refine Zz 8 ?_
  exact Q_ ⟨i+1,hlx1,fun u hu=>by rw[List.take_add_one,hx1]at hu;rcases List.mem_append.1 hu with z|z;exact hE0 u z;simp only[Option.toList_some,List.mem_singleton]at z;subst z;assumption⟩ (by dsimp only;omega) zl (c_ e_) zh
 refine Zz 10 ?_
 have he:gX_ l=([],2):=by unfold gX_;rw[if_pos (by omega)]
 exact sT_ Tryz.results15 ⟨(.slice none 0 0,[]),by rw[he];exact bA_.nil _ _⟩ rfl rfl (by dsimp only;rw[he]) g_ zt
end Go.Proofs.YtaffcjgphlhppaaGreatDoor
namespace Go.Proofs.YtaffcjgphlhppaaGreatDoor
open Go Go.Sx Go.Proofs
attribute [local irreducible] Code.wp wpList wpAnyH
open Go.Vs
theorem tu_ (B:EngB) (E:Emt Tryz.prog 24) (x:Ix) (f:Fc) (nw fm:List Fc) (Hs:Hp) (hS:E.St nw fm Hs) (Ha Hu Ho Hi Hr Hm:Hp) (hI:IxO 9 24 B x ⟨Ha,Hu,Ho,Hi,Hr,Hm⟩) (hxl:∀ k,(lat x.above k).length≤1000000000∧(lat x.under k).length≤1000000000) (hyl:∀ k,(lat x.frm k).length≤1000000000∧(lat x.into k).length≤1000000000∧(lat x.ranges k).length≤1000000000∧(lat x.firms k).length≤1000000000):Tri Tryz.prog 52 #[zp_ B.g 0,Fc.val f] (Ha++(Hu++(Ho++(Hi++(Hr++(Hm++Hs)))))) [gF B E] (fun _:{y:IxH // IxO 9 24 B (x.add (decide (f∈fm)) f) y}=>.tuple #[]) (fun y=>y.1.a++(y.1.u++(y.1.o++(y.1.i++(y.1.r++(y.1.s++Hs)))))) (fun _=>[]):=by
 refine t_ Tryz.func52 rfl rfl Tryz.ntmps52 rfl fun v0=>?_
 obtain⟨ha,hu,ho,hi,hr,hm⟩:=hI
 dsimp only at ha hu ho hi hr hm
 refine Zz 2 ?_
 refine ag_ rfl rfl fun b1=>Zi 11 (fun hr1=>?_) fun hr1=>?_
 ·refine Zi 6 (fun hr2=>?_) fun hr2=>?_
  ·refine Zi 6 (fun hr3=>?_) fun hr3=>?_
   ·refine Zz 6 ?_
    exact cW_ eB_ ⟨IxH.mk Ha Hu Ho Hi Hr Hm,by unfold Ix.add;rw[if_neg (by assumption),if_neg (by assumption),if_neg (by assumption)];exact⟨ha,hu,ho,hi,hr,hm⟩⟩ rfl zp zt
   refine Zz 10 ?_
   refine d_ (K_ fm_ rfl rfl) rfl (C_ co_ rfl fun b2=>w_ 0 dn_ rfl rfl rfl rfl rfl rfl (Zz 3 ?_))
   refine ax_ ((b2,.cells #[str f.a,str f.r] 171 (0,0))::((b1,.cells #[.int .i64 f.kind,str f.a,str f.b,str f.r,.int .i64 f.lo,.int .i64 f.hi] 24 (0,0))::[])) zk ?_
   refine n_ 6 [0,1,2,3,4,5] zk zs (Zz 7 ?_)
   refine i_ 6 rfl zk (ap_ E_ x_ ad_ rfl rfl rfl rfl rfl rfl fun b3=>Zz 3 ?_)
   refine i_ 7 rfl zk ?_
   have hbb1:=(hyl (f.a,f.r)).2.2.1
   refine ds_ (k:=(f.a,f.r)) cO_ hr pH_ mT_ rfl rfl (c_ (c_ (c_ (j_ (j_ (j_ (j_ u_))))))) rfl fun es1 ce1 ie1 se1 ve1 Hk1 Hx1 ho1 hw1=>Zz 3 ?_
   refine n_ 2 [8,10] zk zs (Zz 3 ?_)
   refine i_ 9 rfl zk (aH_ (news:=List.flatMap Fc.cells [f]) jm_ hw1 rfl rfl zp rfl (dr_ zp) (fun u hu=>ba_ Fc.cells_one hu) (by simp only[maxLen];omega) (by omega) rfl fun sv1 Hr1 hr1=>?_)
   have hq1:=zsa hr1
   refine Zz 3 ?_
   refine i_ 11 rfl zk (bO_ (k:=(f.a,f.r)) (dd:=f) ho1 (by rw[cV_];exact hq1) rfl rfl rfl (cU_ (o_ (j_ e_) (B_ u_ u_))) fun H2 hM2=>?_)
   refine Zz 5 ?_
   refine ac_ (aN_ (j_ e_) (aN_ (j_ e_) (cA_ (j_ e_)))) (Zz 2 ?_)
   refine n_ 0 [0,1,2,3,4,5] zk zs (Zz 5 ?_)
   refine cj_ rfl (mU_ (f:=f) hS iI_ aQ_ cw_ rfl rfl zp) rfl fun r4 hr4=>Zz 3 ?_
   cases r4
   ·replace hr4:=zdf hr4
    refine Zz 3 ?_
    exact cW_ eB_ ⟨IxH.mk Ha Hu Ho Hi H2 Hm,by have e0:x.add (decide (f∈fm)) f={ x with ranges:=(x.ranges++[((f.a,f.r),f)]) }:=(by unfold Ix.add;rw[if_neg (by omega),if_neg (by omega),if_pos (by assumption),decide_eq_false (by assumption)];rfl);rw[e0];exact⟨ha,hu,ho,hi,hM2,hm⟩⟩ rfl (B_ (c_ (c_ (c_ (j_ u_)))) (B_ (c_ (c_ (c_ (j_ u_)))) (B_ (c_ (c_ (c_ (j_ u_)))) (B_ (c_ (c_ (c_ (j_ u_)))) (B_ (c_ (c_ (c_ u_))) (B_ (c_ (c_ (c_ u_))) (c_ (c_ P_)))))))) zt
   replace hr4:=zdt hr4
   refine L_ rfl ?_
   refine ax_ ((b3,.cells #[.int .i64 f.kind,str f.a,str f.b,str f.r,.int .i64 f.lo,.int .i64 f.hi] 24 (0,0))::((b2,.cells #[str f.a,str f.r] 171 (0,0))::((b1,.cells #[.int .i64 f.kind,str f.a,str f.b,str f.r,.int .i64 f.lo,.int .i64 f.hi] 24 (0,0))::[]))) zk ?_
   refine n_ 6 [0,1,2,3,4,5] zk zs (Zz 7 ?_)
   refine i_ 6 rfl zk (ap_ E_ x_ ad_ rfl rfl rfl rfl rfl rfl fun b4=>Zz 3 ?_)
   refine i_ 7 rfl zk ?_
   have hbb3:=(hyl (f.a,f.r)).2.2.2
   refine ds_ (k:=(f.a,f.r)) cO_ hm pH_ mT_ rfl rfl zp rfl fun es3 ce3 ie3 se3 ve3 Hk3 Hx3 ho3 hw3=>Zz 2 ?_
   refine aO_ zs (n_ 2 [8,10] zk zs (Zz 3 ?_))
   refine i_ 9 rfl zk (aH_ (news:=List.flatMap Fc.cells [f]) jm_ hw3 rfl rfl zp rfl (dr_ zp) (fun u hu=>ba_ Fc.cells_one hu) (by simp only[maxLen];omega) (by omega) rfl fun sv2 Hr2 hr2=>?_)
   have hq2:=zsa hr2
   refine Zz 2 ?_
   refine aO_ zs (i_ 11 rfl zk (bO_ (k:=(f.a,f.r)) (dd:=f) ho3 (by rw[cV_];exact hq2) rfl rfl rfl (cU_ (o_ (j_ e_) (B_ u_ u_))) fun H4 hM4=>?_))
   refine Zz 5 ?_
   exact cW_ eB_ ⟨IxH.mk Ha Hu Ho Hi H2 H4,by have e0:x.add (decide (f∈fm)) f={ x with ranges:=(x.ranges++[((f.a,f.r),f)]),firms:=(x.firms++[((f.a,f.r),f)]) }:=(by unfold Ix.add;rw[if_neg (by omega),if_neg (by omega),if_pos (by assumption),decide_eq_true (by assumption)];rfl);rw[e0];exact⟨ha,hu,ho,hi,hM2,hM4⟩⟩ rfl (B_ (j_ (c_ (c_ (c_ (c_ (j_ u_)))))) (B_ (j_ (c_ (c_ (c_ (c_ (j_ u_)))))) (B_ (j_ (c_ (c_ (c_ (c_ (j_ u_)))))) (B_ (j_ (c_ (c_ (c_ (c_ (j_ u_)))))) (B_ (j_ (c_ (c_ (c_ (c_ u_))))) (B_ u_ (c_ (c_ (c_ P_))))))))) zt
  refine Zz 4 ?_
  have hbb5:=(hxl f.b).2
  refine pe_ iH_ f.b hu (c_ (j_ u_)) fun es5 ce5 ve5 Hk5 Hx5 hw5 ho5=>?_
  refine ac_ (aN_ e_ (cA_ (j_ (j_ e_)))) (s_ ?_)
  refine ax_ ((b1,.cells #[.int .i64 f.kind,str f.a,str f.b,str f.r,.int .i64 f.lo,.int .i64 f.hi] 24 (0,0))::[]) zk ?_
  refine n_ 4 [0,1,2,3,4,5,6,7,8,9,10,11,13,14] zk zs (Zz 15 ?_)
  refine bN_ 12 15 rfl rfl zk ?_ ?_
  ·refine d_ (hA_ (k:=f.b) iH_ ho5 ca_ bp_ rfl rfl 0 rfl) rfl (Zz 3 ?_)
   refine i_ 15 rfl zk (ap_ N_ al_ br_ rfl rfl rfl rfl rfl rfl fun b5=>Zz 3 ?_)
   refine i_ 16 rfl zk (aH_ (news:=List.flatMap bw_ [f.a]) dm_ hw5 rfl rfl zp rfl (bJ_ 0 rfl) (fun u hu=>ba_ cJ_ hu) (by simp only[maxLen];omega) (by omega) rfl fun sv3 Hr3 hr3=>?_)
   have hq3:=zsa hr3
   refine Zz 3 ?_
   refine i_ 17 rfl zk (gN_ (k:=f.b) (dd:=f.a) iH_ ho5 (by rw[cV_];exact hq3) (.inr rfl) ca_ rfl rfl rfl (cU_ (o_ (j_ (c_ e_)) (B_ u_ (c_ (c_ u_))))) fun H6 hM6=>?_)
   refine Zz 5 ?_
   refine ac_ (aN_ (j_ e_) (cA_ (j_ e_))) (Zz 2 ?_)
   refine n_ 4 [0,1,2,3,4,5,6,7,8,9] zk zs (Zz 4 ?_)
   refine Z_ rfl (K_ fm_ rfl rfl) rfl (Zz 4 ?_)
   refine Z_ rfl (K_ fm_ rfl rfl) rfl (dB_ ?_)
   refine bN_ 10 11 rfl rfl zk ?_ ?_
   ·refine C_ co_ rfl fun b6=>Zz 3 ?_
    refine i_ 11 rfl zk (C_ co_ rfl fun b7=>Zz 3 ?_)
    refine i_ 12 rfl zk (w_ 1 dn_ rfl rfl rfl rfl rfl rfl (Zz 3 ?_))
    refine i_ 13 rfl zk (w_ 0 dn_ rfl rfl rfl rfl rfl rfl (Zz 6 ?_))
    refine ax_ ((b7,.cells #[str f.b,str f.r] 171 (0,0))::((b6,.cells #[str f.a,str f.r] 171 (0,0))::((b5,.cells #[str f.a] 9 (0,0))::((b1,.cells #[.int .i64 f.kind,str f.a,str f.b,str f.r,.int .i64 f.lo,.int .i64 f.hi] 24 (0,0))::[])))) zk ?_
    refine n_ 6 [0,1,2,3,4,5,6] zk zs (Zz 8 ?_)
    refine i_ 7 rfl zk (ap_ N_ al_ br_ rfl rfl rfl rfl rfl rfl fun b8=>Zz 3 ?_)
    refine i_ 8 rfl zk ?_
    have hbb7:=(hyl (f.a,f.r)).1
    refine ds_ (k:=(f.a,f.r)) cO_ ho bL_ bp_ rfl rfl (c_ (c_ (c_ (c_ (c_ (j_ (j_ u_))))))) rfl fun es7 ce7 ie7 se7 ve7 Hk7 Hx7 ho7 hw7=>Zz 2 ?_
    refine aO_ (fun _ a b=>⟨Vw.sat.sub (a.perm (o_ (c_ (j_ (j_ (c_ e_)))) (o_ (c_ (j_ (j_ (c_ e_)))) (o_ (c_ (j_ (j_ (c_ e_)))) (c_ (j_ (j_ (c_ e_)))))))),b⟩) (n_ 2 [9,11] zk (fun _ a b=>⟨Vw.sat.sub (a.perm (o_ (c_ (j_ (j_ (c_ e_)))) (o_ (c_ (j_ (j_ (c_ e_)))) (o_ (c_ (j_ (j_ (c_ e_)))) (c_ (j_ (j_ (c_ e_)))))))),b⟩) (Zz 3 ?_))
    refine i_ 10 rfl zk (aH_ (news:=List.flatMap bw_ [f.b]) dm_ hw7 rfl rfl zp rfl (dr_ zp) (fun u hu=>ba_ cJ_ hu) (by simp only[maxLen];omega) (by omega) rfl fun sv4 Hr4 hr4=>?_)
    have hq4:=zsa hr4
    refine Zz 2 ?_
    refine aO_ (fun _ a b=>⟨Vw.sat.sub (a.perm (o_ (j_ (c_ (j_ (c_ e_)))) (o_ (j_ (c_ (j_ (c_ e_)))) (o_ (j_ (c_ (j_ (c_ e_)))) (j_ (c_ (j_ (c_ e_)))))))),b⟩) (i_ 12 rfl zk (bO_ (k:=(f.a,f.r)) (dd:=f.b) ho7 (by rw[cV_];exact hq4) rfl rfl rfl (cU_ (o_ (j_ e_) (B_ u_ u_))) fun H8 hM8=>?_))
    refine Zz 5 ?_
    refine ac_ (aN_ (j_ e_) (aN_ (j_ e_) (aN_ (j_ e_) (aN_ (j_ e_) (cA_ (j_ e_)))))) ?_
    refine ax_ ((b8,.cells #[str f.b] 9 (0,0))::((b7,.cells #[str f.b,str f.r] 171 (0,0))::((b6,.cells #[str f.a,str f.r] 171 (0,0))::((b5,.cells #[str f.a] 9 (0,0))::((b1,.cells #[.int .i64 f.kind,str f.a,str f.b,str f.r,.int .i64 f.lo,.int .i64 f.hi] 24 (0,0))::[]))))) zk ?_
    refine n_ 6 [0,1,2,3,4,5,6] zk zs (Zz 8 ?_)
    refine i_ 7 rfl zk (ap_ N_ al_ br_ rfl rfl rfl rfl rfl rfl fun b9=>Zz 3 ?_)
    refine i_ 8 rfl zk ?_
    have hbb9:=(hyl (f.b,f.r)).2.1
    refine ds_ (k:=(f.b,f.r)) cO_ hi bL_ bp_ rfl rfl zp rfl fun es9 ce9 ie9 se9 ve9 Hk9 Hx9 ho9 hw9=>Zz 2 ?_
    refine aO_ zs (n_ 2 [9,11] zk zs (Zz 3 ?_))
    refine i_ 10 rfl zk (aH_ (news:=List.flatMap bw_ [f.a]) dm_ hw9 rfl rfl zp rfl (dr_ zp) (fun u hu=>ba_ cJ_ hu) (by simp only[maxLen];omega) (by omega) rfl fun sv5 Hr5 hr5=>?_)
    have hq5:=zsa hr5
    refine Zz 2 ?_
    refine aO_ zs (i_ 12 rfl zk (bO_ (k:=(f.b,f.r)) (dd:=f.a) ho9 (by rw[cV_];exact hq5) rfl rfl rfl (cU_ (o_ (j_ e_) (B_ u_ u_))) fun H10 hM10=>?_))
    refine Zz 2 ?_
    refine aO_ zs (Zz 2 ?_)
    exact cW_ eB_ ⟨IxH.mk Ha H6 H8 H10 Hr Hm,by have e0:x.add (decide (f∈fm)) f={ x with under:=(x.under++[(f.b,f.a)]),frm:=(x.frm++[((f.a,f.r),f.b)]),into:=(x.into++[((f.b,f.r),f.a)]) }:=(by unfold Ix.add;rw[if_neg (by omega),if_pos (by assumption)]);rw[e0];exact⟨ha,hM6,hM8,hM10,hr,hm⟩⟩ rfl (B_ (j_ (c_ (c_ (c_ (c_ (c_ (c_ (j_ (j_ u_))))))))) (B_ (j_ (c_ (c_ (c_ (c_ (c_ (c_ (j_ u_)))))))) (B_ (j_ (c_ (c_ (c_ (c_ (c_ (c_ u_))))))) (B_ u_ (B_ (c_ (c_ (c_ (c_ (c_ (c_ u_)))))) (B_ (c_ (c_ (c_ (c_ (c_ (c_ u_)))))) (c_ (c_ (c_ (c_ (c_ P_))))))))))) zt
   refine C_ co_ rfl fun b10=>Zz 3 ?_
   refine i_ 10 rfl zk (C_ co_ rfl fun b11=>Zz 3 ?_)
   refine i_ 12 rfl zk (w_ 0 dn_ rfl rfl rfl rfl rfl rfl (Zz 3 ?_))
   refine i_ 13 rfl zk (w_ 1 dn_ rfl rfl rfl rfl rfl rfl (Zz 6 ?_))
   refine ax_ ((b11,.cells #[str f.a,str f.r] 171 (0,0))::((b10,.cells #[str f.b,str f.r] 171 (0,0))::((b5,.cells #[str f.a] 9 (0,0))::((b1,.cells #[.int .i64 f.kind,str f.a,str f.b,str f.r,.int .i64 f.lo,.int .i64 f.hi] 24 (0,0))::[])))) zk ?_
   refine n_ 6 [0,1,2,3,4,5,6] zk zs (Zz 8 ?_)
   refine i_ 7 rfl zk (ap_ N_ al_ br_ rfl rfl rfl rfl rfl rfl fun b12=>Zz 3 ?_)
   refine i_ 8 rfl zk ?_
   have hbb11:=(hyl (f.a,f.r)).1
   refine ds_ (k:=(f.a,f.r)) cO_ ho bL_ bp_ rfl rfl (c_ (c_ (c_ (c_ (c_ (j_ (j_ u_))))))) rfl fun es11 ce11 ie11 se11 ve11 Hk11 Hx11 ho11 hw11=>Zz 2 ?_
   refine aO_ (fun _ a b=>⟨Vw.sat.sub (a.perm (o_ (c_ (j_ (j_ (c_ e_)))) (o_ (c_ (j_ (j_ (c_ e_)))) (o_ (c_ (j_ (j_ (c_ e_)))) (c_ (j_ (j_ (c_ e_)))))))),b⟩) (n_ 2 [9,11] zk (fun _ a b=>⟨Vw.sat.sub (a.perm (o_ (c_ (j_ (j_ (c_ e_)))) (o_ (c_ (j_ (j_ (c_ e_)))) (o_ (c_ (j_ (j_ (c_ e_)))) (c_ (j_ (j_ (c_ e_)))))))),b⟩) (Zz 3 ?_))
   refine i_ 10 rfl zk (aH_ (news:=List.flatMap bw_ [f.b]) dm_ hw11 rfl rfl zp rfl (dr_ zp) (fun u hu=>ba_ cJ_ hu) (by simp only[maxLen];omega) (by omega) rfl fun sv6 Hr6 hr6=>?_)
   have hq6:=zsa hr6
   refine Zz 2 ?_
   refine aO_ (fun _ a b=>⟨Vw.sat.sub (a.perm (o_ (j_ (c_ (j_ (c_ e_)))) (o_ (j_ (c_ (j_ (c_ e_)))) (o_ (j_ (c_ (j_ (c_ e_)))) (j_ (c_ (j_ (c_ e_)))))))),b⟩) (i_ 12 rfl zk (bO_ (k:=(f.a,f.r)) (dd:=f.b) ho11 (by rw[cV_];exact hq6) rfl rfl rfl (cU_ (o_ (j_ e_) (B_ u_ u_))) fun H12 hM12=>?_))
   refine Zz 5 ?_
   refine ac_ (aN_ (j_ e_) (aN_ (j_ e_) (aN_ (j_ e_) (aN_ (j_ e_) (cA_ (j_ e_)))))) ?_
   refine ax_ ((b12,.cells #[str f.b] 9 (0,0))::((b11,.cells #[str f.a,str f.r] 171 (0,0))::((b10,.cells #[str f.b,str f.r] 171 (0,0))::((b5,.cells #[str f.a] 9 (0,0))::((b1,.cells #[.int .i64 f.kind,str f.a,str f.b,str f.r,.int .i64 f.lo,.int .i64 f.hi] 24 (0,0))::[]))))) zk ?_
   refine n_ 6 [0,1,2,3,4,5,6] zk zs (Zz 8 ?_)
   refine i_ 7 rfl zk (ap_ N_ al_ br_ rfl rfl rfl rfl rfl rfl fun b13=>Zz 3 ?_)
   refine i_ 8 rfl zk ?_
   have hbb13:=(hyl (f.b,f.r)).2.1
   refine ds_ (k:=(f.b,f.r)) cO_ hi bL_ bp_ rfl rfl zp rfl fun es13 ce13 ie13 se13 ve13 Hk13 Hx13 ho13 hw13=>Zz 2 ?_
   refine aO_ zs (n_ 2 [9,11] zk zs (Zz 3 ?_))
   refine i_ 10 rfl zk (aH_ (news:=List.flatMap bw_ [f.a]) dm_ hw13 rfl rfl zp rfl (dr_ zp) (fun u hu=>ba_ cJ_ hu) (by simp only[maxLen];omega) (by omega) rfl fun sv7 Hr7 hr7=>?_)
   have hq7:=zsa hr7
   refine Zz 2 ?_
   refine aO_ zs (i_ 12 rfl zk (bO_ (k:=(f.b,f.r)) (dd:=f.a) ho13 (by rw[cV_];exact hq7) rfl rfl rfl (cU_ (o_ (j_ e_) (B_ u_ u_))) fun H14 hM14=>?_))
   refine Zz 2 ?_
   refine aO_ zs (Zz 2 ?_)
   exact cW_ eB_ ⟨IxH.mk Ha H6 H12 H14 Hr Hm,by have e0:x.add (decide (f∈fm)) f={ x with under:=(x.under++[(f.b,f.a)]),frm:=(x.frm++[((f.a,f.r),f.b)]),into:=(x.into++[((f.b,f.r),f.a)]) }:=(by unfold Ix.add;rw[if_neg (by omega),if_pos (by assumption)]);rw[e0];exact⟨ha,hM6,hM12,hM14,hr,hm⟩⟩ rfl (B_ (j_ (c_ (c_ (c_ (c_ (c_ (c_ (j_ (j_ u_))))))))) (B_ (j_ (c_ (c_ (c_ (c_ (c_ (c_ (j_ u_)))))))) (B_ (j_ (c_ (c_ (c_ (c_ (c_ (c_ u_))))))) (B_ u_ (B_ (c_ (c_ (c_ (c_ (c_ (c_ u_)))))) (B_ (c_ (c_ (c_ (c_ (c_ (c_ u_)))))) (c_ (c_ (c_ (c_ (c_ P_))))))))))) zt
  refine ap_ N_ al_ br_ rfl rfl rfl rfl rfl rfl fun b14=>Zz 3 ?_
  refine i_ 12 rfl zk (d_ (hA_ (k:=f.b) iH_ ho5 ca_ bp_ rfl rfl 1 rfl) rfl (Zz 3 ?_))
  refine i_ 16 rfl zk (aH_ (news:=List.flatMap bw_ [f.a]) dm_ hw5 rfl rfl zp rfl (bJ_ 0 rfl) (fun u hu=>ba_ cJ_ hu) (by simp only[maxLen];omega) (by omega) rfl fun sv8 Hr8 hr8=>?_)
  have hq8:=zsa hr8
  refine Zz 3 ?_
  refine i_ 17 rfl zk (gN_ (k:=f.b) (dd:=f.a) iH_ ho5 (by rw[cV_];exact hq8) (.inr rfl) ca_ rfl rfl rfl (cU_ (o_ (j_ (c_ e_)) (B_ u_ (c_ (c_ u_))))) fun H15 hM15=>?_)
  refine Zz 5 ?_
  refine ac_ (aN_ (j_ e_) (cA_ (j_ e_))) (Zz 2 ?_)
  refine n_ 4 [0,1,2,3,4,5,6,7,8,9] zk zs (Zz 4 ?_)
  refine Z_ rfl (K_ fm_ rfl rfl) rfl (Zz 4 ?_)
  refine Z_ rfl (K_ fm_ rfl rfl) rfl (dB_ ?_)
  refine bN_ 10 11 rfl rfl zk ?_ ?_
  ·refine C_ co_ rfl fun b15=>Zz 3 ?_
   refine i_ 11 rfl zk (C_ co_ rfl fun b16=>Zz 3 ?_)
   refine i_ 12 rfl zk (w_ 1 dn_ rfl rfl rfl rfl rfl rfl (Zz 3 ?_))
   refine i_ 13 rfl zk (w_ 0 dn_ rfl rfl rfl rfl rfl rfl (Zz 6 ?_))
   refine ax_ ((b16,.cells #[str f.b,str f.r] 171 (0,0))::((b15,.cells #[str f.a,str f.r] 171 (0,0))::((b14,.cells #[str f.a] 9 (0,0))::((b1,.cells #[.int .i64 f.kind,str f.a,str f.b,str f.r,.int .i64 f.lo,.int .i64 f.hi] 24 (0,0))::[])))) zk ?_
   refine n_ 6 [0,1,2,3,4,5,6] zk zs (Zz 8 ?_)
   refine i_ 7 rfl zk (ap_ N_ al_ br_ rfl rfl rfl rfl rfl rfl fun b17=>Zz 3 ?_)
   refine i_ 8 rfl zk ?_
   have hbb16:=(hyl (f.a,f.r)).1
   refine ds_ (k:=(f.a,f.r)) cO_ ho bL_ bp_ rfl rfl (c_ (c_ (c_ (c_ (c_ (j_ (j_ u_))))))) rfl fun es16 ce16 ie16 se16 ve16 Hk16 Hx16 ho16 hw16=>Zz 2 ?_
   refine aO_ (fun _ a b=>⟨Vw.sat.sub (a.perm (o_ (c_ (j_ (j_ (c_ e_)))) (o_ (c_ (j_ (j_ (c_ e_)))) (o_ (c_ (j_ (j_ (c_ e_)))) (c_ (j_ (j_ (c_ e_)))))))),b⟩) (n_ 2 [9,11] zk (fun _ a b=>⟨Vw.sat.sub (a.perm (o_ (c_ (j_ (j_ (c_ e_)))) (o_ (c_ (j_ (j_ (c_ e_)))) (o_ (c_ (j_ (j_ (c_ e_)))) (c_ (j_ (j_ (c_ e_)))))))),b⟩) (Zz 3 ?_))
   refine i_ 10 rfl zk (aH_ (news:=List.flatMap bw_ [f.b]) dm_ hw16 rfl rfl zp rfl (dr_ zp) (fun u hu=>ba_ cJ_ hu) (by simp only[maxLen];omega) (by omega) rfl fun sv9 Hr9 hr9=>?_)
   have hq9:=zsa hr9
   refine Zz 2 ?_
   refine aO_ (fun _ a b=>⟨Vw.sat.sub (a.perm (o_ (j_ (c_ (j_ (c_ e_)))) (o_ (j_ (c_ (j_ (c_ e_)))) (o_ (j_ (c_ (j_ (c_ e_)))) (j_ (c_ (j_ (c_ e_)))))))),b⟩) (i_ 12 rfl zk (bO_ (k:=(f.a,f.r)) (dd:=f.b) ho16 (by rw[cV_];exact hq9) rfl rfl rfl (cU_ (o_ (j_ e_) (B_ u_ u_))) fun H17 hM17=>?_))
   refine Zz 5 ?_
   refine ac_ (aN_ (j_ e_) (aN_ (j_ e_) (aN_ (j_ e_) (aN_ (j_ e_) (cA_ (j_ e_)))))) ?_
   refine ax_ ((b17,.cells #[str f.b] 9 (0,0))::((b16,.cells #[str f.b,str f.r] 171 (0,0))::((b15,.cells #[str f.a,str f.r] 171 (0,0))::((b14,.cells #[str f.a] 9 (0,0))::((b1,.cells #[.int .i64 f.kind,str f.a,str f.b,str f.r,.int .i64 f.lo,.int .i64 f.hi] 24 (0,0))::[]))))) zk ?_
   refine n_ 6 [0,1,2,3,4,5,6] zk zs (Zz 8 ?_)
   refine i_ 7 rfl zk (ap_ N_ al_ br_ rfl rfl rfl rfl rfl rfl fun b18=>Zz 3 ?_)
   refine i_ 8 rfl zk ?_
   have hbb18:=(hyl (f.b,f.r)).2.1
   refine ds_ (k:=(f.b,f.r)) cO_ hi bL_ bp_ rfl rfl zp rfl fun es18 ce18 ie18 se18 ve18 Hk18 Hx18 ho18 hw18=>Zz 2 ?_
   refine aO_ zs (n_ 2 [9,11] zk zs (Zz 3 ?_))
   refine i_ 10 rfl zk (aH_ (news:=List.flatMap bw_ [f.a]) dm_ hw18 rfl rfl zp rfl (dr_ zp) (fun u hu=>ba_ cJ_ hu) (by simp only[maxLen];omega) (by omega) rfl fun sv10 Hr10 hr10=>?_)
   have hq10:=zsa hr10
   refine Zz 2 ?_
   refine aO_ zs (i_ 12 rfl zk (bO_ (k:=(f.b,f.r)) (dd:=f.a) ho18 (by rw[cV_];exact hq10) rfl rfl rfl (cU_ (o_ (j_ e_) (B_ u_ u_))) fun H19 hM19=>?_))
   refine Zz 2 ?_
   refine aO_ zs (Zz 2 ?_)
   exact cW_ eB_ ⟨IxH.mk Ha H15 H17 H19 Hr Hm,by have e0:x.add (decide (f∈fm)) f={ x with under:=(x.under++[(f.b,f.a)]),frm:=(x.frm++[((f.a,f.r),f.b)]),into:=(x.into++[((f.b,f.r),f.a)]) }:=(by unfold Ix.add;rw[if_neg (by omega),if_pos (by assumption)]);rw[e0];exact⟨ha,hM15,hM17,hM19,hr,hm⟩⟩ rfl (B_ (j_ (c_ (c_ (c_ (c_ (c_ (c_ (j_ (j_ u_))))))))) (B_ (j_ (c_ (c_ (c_ (c_ (c_ (c_ (j_ u_)))))))) (B_ (j_ (c_ (c_ (c_ (c_ (c_ (c_ u_))))))) (B_ u_ (B_ (c_ (c_ (c_ (c_ (c_ (c_ u_)))))) (B_ (c_ (c_ (c_ (c_ (c_ (c_ u_)))))) (c_ (c_ (c_ (c_ (c_ P_))))))))))) zt
  refine C_ co_ rfl fun b19=>Zz 3 ?_
  refine i_ 10 rfl zk (C_ co_ rfl fun b20=>Zz 3 ?_)
  refine i_ 12 rfl zk (w_ 0 dn_ rfl rfl rfl rfl rfl rfl (Zz 3 ?_))
  refine i_ 13 rfl zk (w_ 1 dn_ rfl rfl rfl rfl rfl rfl (Zz 6 ?_))
  refine ax_ ((b20,.cells #[str f.a,str f.r] 171 (0,0))::((b19,.cells #[str f.b,str f.r] 171 (0,0))::((b14,.cells #[str f.a] 9 (0,0))::((b1,.cells #[.int .i64 f.kind,str f.a,str f.b,str f.r,.int .i64 f.lo,.int .i64 f.hi] 24 (0,0))::[])))) zk ?_
  refine n_ 6 [0,1,2,3,4,5,6] zk zs (Zz 8 ?_)
  refine i_ 7 rfl zk (ap_ N_ al_ br_ rfl rfl rfl rfl rfl rfl fun b21=>Zz 3 ?_)
  refine i_ 8 rfl zk ?_
  have hbb20:=(hyl (f.a,f.r)).1
  refine ds_ (k:=(f.a,f.r)) cO_ ho bL_ bp_ rfl rfl (c_ (c_ (c_ (c_ (c_ (j_ (j_ u_))))))) rfl fun es20 ce20 ie20 se20 ve20 Hk20 Hx20 ho20 hw20=>Zz 2 ?_
  refine aO_ (fun _ a b=>⟨Vw.sat.sub (a.perm (o_ (c_ (j_ (j_ (c_ e_)))) (o_ (c_ (j_ (j_ (c_ e_)))) (o_ (c_ (j_ (j_ (c_ e_)))) (c_ (j_ (j_ (c_ e_)))))))),b⟩) (n_ 2 [9,11] zk (fun _ a b=>⟨Vw.sat.sub (a.perm (o_ (c_ (j_ (j_ (c_ e_)))) (o_ (c_ (j_ (j_ (c_ e_)))) (o_ (c_ (j_ (j_ (c_ e_)))) (c_ (j_ (j_ (c_ e_)))))))),b⟩) (Zz 3 ?_))
  refine i_ 10 rfl zk (aH_ (news:=List.flatMap bw_ [f.b]) dm_ hw20 rfl rfl zp rfl (dr_ zp) (fun u hu=>ba_ cJ_ hu) (by simp only[maxLen];omega) (by omega) rfl fun sv11 Hr11 hr11=>?_)
  have hq11:=zsa hr11
  refine Zz 2 ?_
  refine aO_ (fun _ a b=>⟨Vw.sat.sub (a.perm (o_ (j_ (c_ (j_ (c_ e_)))) (o_ (j_ (c_ (j_ (c_ e_)))) (o_ (j_ (c_ (j_ (c_ e_)))) (j_ (c_ (j_ (c_ e_)))))))),b⟩) (i_ 12 rfl zk (bO_ (k:=(f.a,f.r)) (dd:=f.b) ho20 (by rw[cV_];exact hq11) rfl rfl rfl (cU_ (o_ (j_ e_) (B_ u_ u_))) fun H21 hM21=>?_))
  refine Zz 5 ?_
  refine ac_ (aN_ (j_ e_) (aN_ (j_ e_) (aN_ (j_ e_) (aN_ (j_ e_) (cA_ (j_ e_)))))) ?_
  refine ax_ ((b21,.cells #[str f.b] 9 (0,0))::((b20,.cells #[str f.a,str f.r] 171 (0,0))::((b19,.cells #[str f.b,str f.r] 171 (0,0))::((b14,.cells #[str f.a] 9 (0,0))::((b1,.cells #[.int .i64 f.kind,str f.a,str f.b,str f.r,.int .i64 f.lo,.int .i64 f.hi] 24 (0,0))::[]))))) zk ?_
  refine n_ 6 [0,1,2,3,4,5,6] zk zs (Zz 8 ?_)
  refine i_ 7 rfl zk (ap_ N_ al_ br_ rfl rfl rfl rfl rfl rfl fun b22=>Zz 3 ?_)
  refine i_ 8 rfl zk ?_
  have hbb22:=(hyl (f.b,f.r)).2.1
  refine ds_ (k:=(f.b,f.r)) cO_ hi bL_ bp_ rfl rfl zp rfl fun es22 ce22 ie22 se22 ve22 Hk22 Hx22 ho22 hw22=>Zz 2 ?_
  refine aO_ zs (n_ 2 [9,11] zk zs (Zz 3 ?_))
  refine i_ 10 rfl zk (aH_ (news:=List.flatMap bw_ [f.a]) dm_ hw22 rfl rfl zp rfl (dr_ zp) (fun u hu=>ba_ cJ_ hu) (by simp only[maxLen];omega) (by omega) rfl fun sv12 Hr12 hr12=>?_)
  have hq12:=zsa hr12
  refine Zz 2 ?_
  refine aO_ zs (i_ 12 rfl zk (bO_ (k:=(f.b,f.r)) (dd:=f.a) ho22 (by rw[cV_];exact hq12) rfl rfl rfl (cU_ (o_ (j_ e_) (B_ u_ u_))) fun H23 hM23=>?_))
  refine Zz 2 ?_
  refine aO_ zs (Zz 2 ?_)
  exact cW_ eB_ ⟨IxH.mk Ha H15 H21 H23 Hr Hm,by have e0:x.add (decide (f∈fm)) f={ x with under:=(x.under++[(f.b,f.a)]),frm:=(x.frm++[((f.a,f.r),f.b)]),into:=(x.into++[((f.b,f.r),f.a)]) }:=(by unfold Ix.add;rw[if_neg (by omega),if_pos (by assumption)]);rw[e0];exact⟨ha,hM15,hM21,hM23,hr,hm⟩⟩ rfl (B_ (j_ (c_ (c_ (c_ (c_ (c_ (c_ (j_ (j_ u_))))))))) (B_ (j_ (c_ (c_ (c_ (c_ (c_ (c_ (j_ u_)))))))) (B_ (j_ (c_ (c_ (c_ (c_ (c_ (c_ u_))))))) (B_ u_ (B_ (c_ (c_ (c_ (c_ (c_ (c_ u_)))))) (B_ (c_ (c_ (c_ (c_ (c_ (c_ u_)))))) (c_ (c_ (c_ (c_ (c_ P_))))))))))) zt
 refine Zz 4 ?_
 have hbb24:=(hxl f.a).1
 refine pe_ iH_ f.a ha (c_ u_) fun es24 ce24 ve24 Hk24 Hx24 hw24 ho24=>?_
 refine ac_ (aN_ e_ (cA_ (j_ (j_ e_)))) ?_
 refine ax_ ((b1,.cells #[.int .i64 f.kind,str f.a,str f.b,str f.r,.int .i64 f.lo,.int .i64 f.hi] 24 (0,0))::[]) zk ?_
 refine n_ 4 [0,1,2,3,4,5,6,7,8,9,10,11,13,14] zk zs (Zz 15 ?_)
 refine bN_ 12 15 rfl rfl zk ?_ ?_
 ·refine d_ (hA_ (k:=f.a) iH_ ho24 ca_ bp_ rfl rfl 0 rfl) rfl (Zz 3 ?_)
  refine i_ 15 rfl zk (ap_ N_ al_ br_ rfl rfl rfl rfl rfl rfl fun b23=>Zz 3 ?_)
  refine i_ 16 rfl zk (aH_ (news:=List.flatMap bw_ [f.b]) dm_ hw24 rfl rfl zp rfl (bJ_ 0 rfl) (fun u hu=>ba_ cJ_ hu) (by simp only[maxLen];omega) (by omega) rfl fun sv13 Hr13 hr13=>?_)
  have hq13:=zsa hr13
  refine Zz 3 ?_
  refine i_ 17 rfl zk (gN_ (k:=f.a) (dd:=f.b) iH_ ho24 (by rw[cV_];exact hq13) (.inr rfl) ca_ rfl rfl rfl (cU_ (o_ (j_ (c_ e_)) (B_ u_ (c_ (c_ u_))))) fun H25 hM25=>?_)
  refine Zz 5 ?_
  exact cW_ eB_ ⟨IxH.mk H25 Hu Ho Hi Hr Hm,by have e0:x.add (decide (f∈fm)) f={ x with above:=(x.above++[(f.a,f.b)]) }:=(by unfold Ix.add;rw[if_pos (by assumption)]);rw[e0];exact⟨hM25,hu,ho,hi,hr,hm⟩⟩ rfl (B_ u_ (B_ (c_ (c_ u_)) (B_ (c_ (c_ u_)) (B_ (c_ (c_ u_)) (B_ (c_ (c_ u_)) (B_ (c_ (c_ u_)) (c_ P_))))))) zt
 refine ap_ N_ al_ br_ rfl rfl rfl rfl rfl rfl fun b24=>Zz 3 ?_
 refine i_ 12 rfl zk (d_ (hA_ (k:=f.a) iH_ ho24 ca_ bp_ rfl rfl 1 rfl) rfl (Zz 3 ?_))
 refine i_ 16 rfl zk (aH_ (news:=List.flatMap bw_ [f.b]) dm_ hw24 rfl rfl zp rfl (bJ_ 0 rfl) (fun u hu=>ba_ cJ_ hu) (by simp only[maxLen];omega) (by omega) rfl fun sv14 Hr14 hr14=>?_)
 have hq14:=zsa hr14
 refine Zz 3 ?_
 refine i_ 17 rfl zk (gN_ (k:=f.a) (dd:=f.b) iH_ ho24 (by rw[cV_];exact hq14) (.inr rfl) ca_ rfl rfl rfl (cU_ (o_ (j_ (c_ e_)) (B_ u_ (c_ (c_ u_))))) fun H26 hM26=>?_)
 refine Zz 5 ?_
 exact cW_ eB_ ⟨IxH.mk H26 Hu Ho Hi Hr Hm,by have e0:x.add (decide (f∈fm)) f={ x with above:=(x.above++[(f.a,f.b)]) }:=(by unfold Ix.add;rw[if_pos (by assumption)]);rw[e0];exact⟨hM26,hu,ho,hi,hr,hm⟩⟩ rfl (B_ u_ (B_ (c_ (c_ u_)) (B_ (c_ (c_ u_)) (B_ (c_ (c_ u_)) (B_ (c_ (c_ u_)) (B_ (c_ (c_ u_)) (c_ P_))))))) zt
end Go.Proofs.YtaffcjgphlhppaaGreatDoor
namespace Go.Proofs.YtaffcjgphlhppaaGreatDoor
open Go Go.Sx Go.Proofs
attribute [local irreducible] Code.wp wpList wpAnyH
open Go.Vs
theorem hk_ (x:Pc) (ro at':Str) (pm:List (Ky×Pc)) (bx bg:Nat) (g pb kb ab ub ob ib rb sb fb:Nat) (ev:Value) (lv:Value) (Hm:Hp) (hm:dK_ Ky.val Pc.cells 73 10 pm pb Hm) (hpl:pm.length≤1000000000):Tri Tryz.prog 160 #[str ro,str at',zp_ bx 0,zp_ bg 0] ((bx,.cells #[.int .i64 x.kind,str x.a,str x.b,str x.c,str x.r,str x.s,str x.t,.int .i64 x.lo,.int .i64 x.hi,.int .i64 x.frm] 73 (0,0))::(bg,.cells #[zp_ g 0] 102 (0,0))::(g,.cells #[.map (some pb),lv,.map (some kb),ev,.map (some ab),.map (some ub),.map (some ob),.map (some ib),.map (some rb),.map (some sb),.map (some fb)] 111 (0,0))::Hm) [] (fun _:{H:Hp // dK_ Ky.val Pc.cells 73 10 (pm++[((Ky.mk x.kind ro at'),x)]) pb H}=>.tuple #[]) (fun y=>(bx,.cells #[.int .i64 x.kind,str x.a,str x.b,str x.c,str x.r,str x.s,str x.t,.int .i64 x.lo,.int .i64 x.hi,.int .i64 x.frm] 73 (0,0))::(bg,.cells #[zp_ g 0] 102 (0,0))::(g,.cells #[.map (some pb),lv,.map (some kb),ev,.map (some ab),.map (some ub),.map (some ob),.map (some ib),.map (some rb),.map (some sb),.map (some fb)] 111 (0,0))::y.1) (fun _=>[]):=by
  refine t_ Tryz.func160 rfl rfl Tryz.ntmps160 rfl fun v0=>?_
  refine Zz 6 ?_
  refine d_ (K_ ex_ rfl rfl) rfl (C_ Tryz.zeroValue191 rfl fun b1=>w_ 0 Tryz.sizeOf191 rfl rfl rfl rfl rfl rfl (Zz 2 ?_))
  refine ax_ ((b1,.cells #[.int .i64 x.kind,str ro,str at'] 191 (0,0))::((bx,.cells #[.int .i64 x.kind,str x.a,str x.b,str x.c,str x.r,str x.s,str x.t,.int .i64 x.lo,.int .i64 x.hi,.int .i64 x.frm] 73 (0,0))::((bg,.cells #[zp_ g 0] 102 (0,0))::((g,.cells #[.map (some pb),lv,.map (some kb),ev,.map (some ab),.map (some ub),.map (some ob),.map (some ib),.map (some rb),.map (some sb),.map (some fb)] 111 (0,0))::[])))) zk ?_
  refine n_ 6 [0,1,2,3,4,5] zk zs (Zz 7 ?_)
  refine i_ 6 rfl zk (ap_ aJ_ am_ bv_ rfl rfl rfl rfl rfl rfl fun b2=>Zz 2 ?_)
  refine aO_ zs (i_ 7 rfl zk ?_)
  have hbb1:=Nat.le_trans (fR_ pm (Ky.mk x.kind ro at')) hpl
  refine ds_ (k:=(Ky.mk x.kind ro at')) he_ hm bM_ cH_ rfl rfl (c_ (c_ (c_ (c_ P_)))) rfl fun es1 ce1 ie1 se1 ve1 Hk1 Hx1 ho1 hw1=>Zz 2 ?_
  refine aO_ (fun _ a b=>⟨Vw.sat.sub (a.perm (o_ (c_ (j_ (j_ (c_ e_)))) (o_ (c_ (j_ (j_ (c_ e_)))) (o_ (c_ (j_ (j_ (c_ e_)))) (c_ (j_ (j_ (c_ e_)))))))),b⟩) (n_ 2 [8,10] zk (fun _ a b=>⟨Vw.sat.sub (a.perm (o_ (c_ (j_ (j_ (c_ e_)))) (o_ (c_ (j_ (j_ (c_ e_)))) (o_ (c_ (j_ (j_ (c_ e_)))) (c_ (j_ (j_ (c_ e_)))))))),b⟩) (Zz 3 ?_))
  refine i_ 9 rfl zk (aH_ (news:=List.flatMap Pc.cells [x]) elt_pc hw1 rfl rfl zp rfl (dr_ zp) (fun u hu=>ba_ Pc.cells_one hu) (by simp only[maxLen];omega) (by omega) rfl fun sv1 Hr1 hr1=>?_)
  have hq1:=zsa hr1
  refine Zz 2 ?_
  refine aO_ (fun _ a b=>⟨Vw.sat.sub (a.perm (o_ (j_ (c_ (j_ (c_ e_)))) (o_ (j_ (c_ (j_ (c_ e_)))) (o_ (j_ (c_ (j_ (c_ e_)))) (j_ (c_ (j_ (c_ e_)))))))),b⟩) (i_ 11 rfl zk (bO_ (k:=(Ky.mk x.kind ro at')) (dd:=x) ho1 (by rw[cV_];exact hq1) rfl rfl rfl (cU_ (o_ (j_ e_) (B_ u_ u_))) fun H2 hM2=>?_))
  refine Zz 2 ?_
  refine aO_ zs (Zz 2 ?_)
  exact cW_ Tryz.results160 ⟨H2,hM2⟩ rfl zp zt
theorem qu_ (x:Pc) (pm:List (Ky×Pc)) (lps:List Str) (g pb kb ab ub ob ib rb sb fb:Nat) (ev:Value) (lv:Value) (Hm Hl:Hp) (hm:dK_ Ky.val Pc.cells 73 10 pm pb Hm) (hl:zR 9 1 bw_ lv lps Hl) (hpl:pm.length≤900000000) (hll:lps.length≤900000000):Tri Tryz.prog 95 #[zp_ g 0,Pc.val x] ((g,.cells #[.map (some pb),lv,.map (some kb),ev,.map (some ab),.map (some ub),.map (some ob),.map (some ib),.map (some rb),.map (some sb),.map (some fb)] 111 (0,0))::(Hm++Hl)) [] (fun _:{y:Value×Hp×Hp // dK_ Ky.val Pc.cells 73 10 (pm++cm_ x) pb y.2.1∧zR 9 1 bw_ y.1 (lps++an_ [x]) y.2.2}=>.tuple #[]) (fun y=>(g,.cells #[.map (some pb),y.1.1,.map (some kb),ev,.map (some ab),.map (some ub),.map (some ob),.map (some ib),.map (some rb),.map (some sb),.map (some fb)] 111 (0,0))::(y.1.2.1++y.1.2.2)) (fun _=>[]):=by
 refine t_ Tryz.func95 rfl rfl Tryz.ntmps95 rfl fun v0=>?_
 refine Zz 2 ?_
 refine ag_ rfl rfl fun b1=>ag_ rfl rfl fun b2=>Zz 4 ?_
 refine d_ (bI_ rfl rfl) rfl (Zi 13 (fun hr1=>?_) fun hr1=>?_)
 ·refine Zi 6 (fun hr2=>?_) fun hr2=>?_
  ·refine Zi 5 (fun hr3=>?_) fun hr3=>?_
   ·refine Zi 6 (fun hr4=>?_) fun hr4=>?_
    ·refine Zi 6 (fun hr5=>?_) fun hr5=>?_
     ·refine Zi 7 (fun hr6=>?_) fun hr6=>?_
      ·refine Zi 5 (fun hr7=>?_) fun hr7=>?_
       ·refine Zi 6 (fun hr8=>?_) fun hr8=>?_
        ·refine Zi 6 (fun hr9=>?_) fun hr9=>?_
         ·refine Zz 6 ?_
          have e1:pm=pm++cm_ x:=by simp[cm_, *]
          have e2:lps=lps++an_ [x]:=by simp[an_, *]
          exact cW_ cQ_ ⟨(lv,Hm,Hl),e1▸hm,e2▸hl⟩ rfl zp zt
         refine Zz 4 ?_
         refine ax_ ((b2,.cells #[.int .i64 x.kind,str x.a,str x.b,str x.c,str x.r,str x.s,str x.t,.int .i64 x.lo,.int .i64 x.hi,.int .i64 x.frm] 73 (0,0))::((b1,.cells #[zp_ g 0] 102 (0,0))::[])) zk ?_
         refine n_ 6 [0,1,2,3,5,6] zk zs (Zz 7 ?_)
         refine bN_ 4 7 rfl rfl zk ?_ ?_
         ·refine Zz 3 ?_
          refine aO_ zs (i_ 7 rfl zk (ap_ N_ al_ br_ rfl rfl rfl rfl rfl rfl fun b3=>Zz 2 ?_))
          refine aO_ zs (i_ 8 rfl zk (aH_ (news:=List.flatMap bw_ [x.r]) dm_ hl rfl rfl zp rfl (bJ_ 0 rfl) (fun u hu=>ba_ cJ_ hu) (by simp only[maxLen];first|omega|(simp;omega)) (by first|omega|(simp;omega)) rfl fun sv1 Hr1 hr1=>?_))
          have hq1:=zsa hr1
          refine Zz 2 ?_
          refine aO_ zs (n_ 1 [9,10] zk zs (Zz 3 ?_))
          refine i_ 11 rfl zk (ac_ (aN_ (j_ e_) (aN_ (j_ e_) (aN_ (j_ e_) (cA_ (j_ e_))))) (bx_ 3 hq1 fe_ rfl rfl rfl rfl (Zz 2 ?_)))
          refine aO_ (fun _ a b=>⟨Vw.sat.sub (a.perm (o_ (c_ e_) (c_ e_))),b⟩) (Zz 2 ?_)
          have e1:pm=pm++cm_ x:=by simp[cm_, *]
          have e2:(lps++[x.r])=lps++an_ [x]:=by simp[an_, *]
          exact cW_ cQ_ ⟨(sv1,Hm,Hr1),e1▸hm,e2▸hq1⟩ rfl (o_ (c_ (c_ (c_ e_))) (B_ (c_ (c_ (c_ cp_))) (c_ (c_ P_)))) zt
         refine ap_ N_ al_ br_ rfl rfl rfl rfl rfl rfl fun b4=>Zz 2 ?_
         refine aO_ zs (i_ 4 rfl zk (Zz 3 ?_))
         refine aO_ zs (i_ 8 rfl zk (aH_ (news:=List.flatMap bw_ [x.r]) dm_ hl rfl rfl zp rfl (bJ_ 0 rfl) (fun u hu=>ba_ cJ_ hu) (by simp only[maxLen];first|omega|(simp;omega)) (by first|omega|(simp;omega)) rfl fun sv2 Hr2 hr2=>?_))
         have hq2:=zsa hr2
         refine Zz 2 ?_
         refine aO_ zs (n_ 1 [9,10] zk zs (Zz 3 ?_))
         refine i_ 11 rfl zk (ac_ (aN_ (j_ e_) (aN_ (j_ e_) (aN_ (j_ e_) (cA_ (j_ e_))))) (bx_ 3 hq2 fe_ rfl rfl rfl rfl (Zz 2 ?_)))
         refine aO_ (fun _ a b=>⟨Vw.sat.sub (a.perm (o_ (c_ e_) (c_ e_))),b⟩) (Zz 2 ?_)
         have e1:pm=pm++cm_ x:=by simp[cm_, *]
         have e2:(lps++[x.r])=lps++an_ [x]:=by simp[an_, *]
         exact cW_ cQ_ ⟨(sv2,Hm,Hr2),e1▸hm,e2▸hq2⟩ rfl (o_ (c_ (c_ (c_ e_))) (B_ (c_ (c_ (c_ cp_))) (c_ (c_ P_)))) zt
        refine Zz 9 ?_
        refine aR_ (hk_ x x.r [] pm b2 b1 g pb kb ab ub ob ib rb sb fb ev lv Hm hm (by first|omega|(simp;omega))) rfl rfl zp zt rfl fun⟨HP1,hP1⟩=>?_
        dsimp only
        simp only[List.cons_append]
        refine Zz 6 ?_
        refine aR_ (hk_ x [] x.s (pm++[((Ky.mk x.kind x.r []),x)]) b2 b1 g pb kb ab ub ob ib rb sb fb ev lv HP1 hP1 (by first|omega|(simp;omega))) rfl rfl zp zt rfl fun⟨HP2,hP2⟩=>?_
        dsimp only
        simp only[List.cons_append]
        refine Zz 2 ?_
        have e1:((pm++[((Ky.mk x.kind x.r []),x)])++[((Ky.mk x.kind [] x.s),x)])=pm++cm_ x:=by simp[cm_, *]
        have e2:lps=lps++an_ [x]:=by simp[an_, *]
        exact cW_ cQ_ ⟨(lv,HP2,Hl),e1▸hP2,e2▸hl⟩ rfl zp zt
       refine Zz 8 ?_
       refine aR_ (hk_ x x.r [] pm b2 b1 g pb kb ab ub ob ib rb sb fb ev lv Hm hm (by first|omega|(simp;omega))) rfl rfl zp zt rfl fun⟨HP3,hP3⟩=>?_
       dsimp only
       simp only[List.cons_append]
       refine Zz 2 ?_
       have e1:(pm++[((Ky.mk x.kind x.r []),x)])=pm++cm_ x:=by simp[cm_, *]
       have e2:lps=lps++an_ [x]:=by simp[an_, *]
       exact cW_ cQ_ ⟨(lv,HP3,Hl),e1▸hP3,e2▸hl⟩ rfl zp zt
      refine Zz 11 ?_
      refine aR_ (hk_ x x.r [] pm b2 b1 g pb kb ab ub ob ib rb sb fb ev lv Hm hm (by first|omega|(simp;omega))) rfl rfl zp zt rfl fun⟨HP4,hP4⟩=>?_
      dsimp only
      simp only[List.cons_append]
      refine Zz 2 ?_
      have e1:(pm++[((Ky.mk x.kind x.r []),x)])=pm++cm_ x:=by simp[cm_, *]
      have e2:lps=lps++an_ [x]:=by simp[an_, *]
      exact cW_ cQ_ ⟨(lv,HP4,Hl),e1▸hP4,e2▸hl⟩ rfl zp zt
     refine Zz 9 ?_
     refine aR_ (hk_ x [] x.a pm b2 b1 g pb kb ab ub ob ib rb sb fb ev lv Hm hm (by first|omega|(simp;omega))) rfl rfl zp zt rfl fun⟨HP5,hP5⟩=>?_
     dsimp only
     simp only[List.cons_append]
     refine Zz 8 ?_
     refine aR_ (hk_ x x.r x.a (pm++[((Ky.mk x.kind [] x.a),x)]) b2 b1 g pb kb ab ub ob ib rb sb fb ev lv HP5 hP5 (by first|omega|(simp;omega))) rfl rfl zp zt rfl fun⟨HP6,hP6⟩=>?_
     dsimp only
     simp only[List.cons_append]
     refine Zz 2 ?_
     have e1:((pm++[((Ky.mk x.kind [] x.a),x)])++[((Ky.mk x.kind x.r x.a),x)])=pm++cm_ x:=by simp[cm_, *]
     have e2:lps=lps++an_ [x]:=by simp[an_, *]
     exact cW_ cQ_ ⟨(lv,HP6,Hl),e1▸hP6,e2▸hl⟩ rfl zp zt
    refine Zz 9 ?_
    refine aR_ (hk_ x [] x.a pm b2 b1 g pb kb ab ub ob ib rb sb fb ev lv Hm hm (by first|omega|(simp;omega))) rfl rfl zp zt rfl fun⟨HP7,hP7⟩=>?_
    dsimp only
    simp only[List.cons_append]
    refine Zi 8 (fun hr10=>?_) fun hr10=>?_
    ·refine Zz 5 ?_
     have e1:(pm++[((Ky.mk x.kind [] x.a),x)])=pm++cm_ x:=by simp[cm_, *]
     have e2:lps=lps++an_ [x]:=by simp[an_, *]
     exact cW_ cQ_ ⟨(lv,HP7,Hl),e1▸hP7,e2▸hl⟩ rfl zp zt
    refine Zz 7 ?_
    refine aR_ (hk_ x [] x.b (pm++[((Ky.mk x.kind [] x.a),x)]) b2 b1 g pb kb ab ub ob ib rb sb fb ev lv HP7 hP7 (by first|omega|(simp;omega))) rfl rfl zp zt rfl fun⟨HP8,hP8⟩=>?_
    dsimp only
    simp only[List.cons_append]
    refine Zz 2 ?_
    have e1:((pm++[((Ky.mk x.kind [] x.a),x)])++[((Ky.mk x.kind [] x.b),x)])=pm++cm_ x:=by simp[cm_, *]
    have e2:lps=lps++an_ [x]:=by simp[an_, *]
    exact cW_ cQ_ ⟨(lv,HP8,Hl),e1▸hP8,e2▸hl⟩ rfl zp zt
   refine Zz 8 ?_
   refine aR_ (hk_ x [] x.a pm b2 b1 g pb kb ab ub ob ib rb sb fb ev lv Hm hm (by first|omega|(simp;omega))) rfl rfl zp zt rfl fun⟨HP9,hP9⟩=>?_
   dsimp only
   simp only[List.cons_append]
   refine Zz 2 ?_
   have e1:(pm++[((Ky.mk x.kind [] x.a),x)])=pm++cm_ x:=by simp[cm_, *]
   have e2:lps=lps++an_ [x]:=by simp[an_, *]
   exact cW_ cQ_ ⟨(lv,HP9,Hl),e1▸hP9,e2▸hl⟩ rfl zp zt
  refine Zz 11 ?_
  refine aR_ (hk_ x [] x.a pm b2 b1 g pb kb ab ub ob ib rb sb fb ev lv Hm hm (by first|omega|(simp;omega))) rfl rfl zp zt rfl fun⟨HP10,hP10⟩=>?_
  dsimp only
  simp only[List.cons_append]
  refine Zz 2 ?_
  have e1:(pm++[((Ky.mk x.kind [] x.a),x)])=pm++cm_ x:=by simp[cm_, *]
  have e2:lps=lps++an_ [x]:=by simp[an_, *]
  exact cW_ cQ_ ⟨(lv,HP10,Hl),e1▸hP10,e2▸hl⟩ rfl zp zt
 refine Zz 11 ?_
 refine aR_ (hk_ x [] x.a pm b2 b1 g pb kb ab ub ob ib rb sb fb ev lv Hm hm (by first|omega|(simp;omega))) rfl rfl zp zt rfl fun⟨HP11,hP11⟩=>?_
 dsimp only
 simp only[List.cons_append]
 refine Zz 2 ?_
 have e1:(pm++[((Ky.mk x.kind [] x.a),x)])=pm++cm_ x:=by simp[cm_, *]
 have e2:lps=lps++an_ [x]:=by simp[an_, *]
 exact cW_ cQ_ ⟨(lv,HP11,Hl),e1▸hP11,e2▸hl⟩ rfl zp zt
structure NewE where
  g:Nat
  pb:Nat
  kb:Nat
  ab:Nat
  ub:Nat
  ob:Nat
  ib:Nat
  rb:Nat
  sb:Nat
  fb:Nat
  lv:Value
  hm:Hp
  hl:Hp
def NewE.ok (ps:List Pc) (y:NewE):Prop:=dK_ Ky.val Pc.cells 73 10 (aP_ ps) y.pb y.hm∧zR 9 1 bw_ y.lv (an_ ps) y.hl
def NewE.own (y:NewE):Hp:=(y.g,.cells #[.map (some y.pb),y.lv,.map (some y.kb),.nilFunc,.map (some y.ab),.map (some y.ub),.map (some y.ob),.map (some y.ib),.map (some y.rb),.map (some y.sb),.map (some y.fb)] 111 (0,0))::(y.kb,.map #[] 0)::(y.ab,.map #[] 0)::(y.ub,.map #[] 0)::(y.ob,.map #[] 0)::(y.ib,.map #[] 0)::(y.rb,.map #[] 0)::(y.sb,.map #[] 0)::(y.fb,.map #[] 0)::(y.hm++y.hl)
theorem ft_ {p:List Pc} {i:Nat} {x:Pc} (h:p[i]? = some x):uniq [] (List.take (i+1) p)=if x.zf∈uniq [] (List.take i p) then uniq [] (List.take i p) else uniq [] (List.take i p)++[x.zf]:=by
  have key:∀ (l:List Pc) (r:List Pc),uniq l (r++[x])=if x.zf∈uniq l r then uniq l r else uniq l r++[x.zf]:=by
    intro l r
    induction r generalizing l with
    | nil=>rfl
    | cons y r ih=>exact ih _
  rw[List.take_add_one,h,Option.toList_some]
  exact key _ _
theorem pO_ (l:List Pc) (x:Pc):aP_ (l++[x])=aP_ l++cm_ x:=by simp[aP_]
theorem ms_ (l:List Pc) (x:Pc):an_ (l++[x])=an_ l++an_ [x]:=by simp[an_]
theorem ro_ (x:Pc):(cm_ x).length≤2:=by unfold cm_;(repeat' split)<;>simp
theorem km_:∀ l:List Pc,(aP_ l).length≤2*l.length
  | []=>by simp[aP_]
  | x::l=>by
    have:=km_ l
    have h2:=ro_ x
    simp only[aP_,List.flatMap_cons,List.length_append,List.length_cons]at this ⊢
    omega
theorem jx_ (l:List Pc):(an_ l).length≤l.length:=by
  simp only[an_,List.length_map];exact List.length_filter_le _ _
theorem nB_ (p:List Pc) (pad:Option Addr) (pcap:Nat) (hp:p.length≤100000000):Tri Tryz.prog 47 #[.slice pad (List.length p) pcap] [] [at_ pad (List.flatMap Pc.cells p)] (fun y:{y:NewE // y.ok (uniq [] p)}=>zp_ y.1.g 0) (fun y=>y.1.own) (fun _=>[]):=by
 refine t_ Tryz.func47 rfl rfl Tryz.ntmps47 rfl fun v0=>?_
 refine Zz 7 ?_
 refine da_ rfl fun b1=>da_ rfl fun b2=>da_ rfl fun b3=>da_ rfl fun b4=>da_ rfl fun b5=>da_ rfl fun b6=>da_ rfl fun b7=>da_ rfl fun b8=>da_ rfl fun b9=>d_ (K_ sF_ rfl rfl) rfl ?_
 refine ag_ rfl rfl fun b10=>Zz 5 ?_
 refine da_ rfl fun b11=>Zz 12 ?_
 refine av_ (ι:={y:Nat×Array MapEntry×Nat×Hp×Value×Hp // y.1≤List.length p∧SetE Pc.val y.2.1 (uniq [] (List.take y.1 p))∧dK_ Ky.val Pc.cells 73 10 (aP_ (uniq [] (List.take y.1 p))) b1 y.2.2.2.1∧zR 9 1 bw_ y.2.2.2.2.1 (an_ (uniq [] (List.take y.1 p))) y.2.2.2.2.2}) (fun y=>[(3,zp_ b10 0),(4,.map (some b11)),(19,.slice pad (List.length p) pcap),(20,.int .i64 (List.length p:Int)),(21,.int .i64 (y.1.1:Int))]) (fun y=>((b10,.cells #[.map (some b1),y.1.2.2.2.2.1,.map (some b2),.nilFunc,.map (some b3),.map (some b4),.map (some b5),.map (some b6),.map (some b7),.map (some b8),.map (some b9)] 111 (0,0))::((b11,.map y.1.2.1 y.1.2.2.1)::((b2,.map #[] 0)::((b3,.map #[] 0)::((b4,.map #[] 0)::((b5,.map #[] 0)::((b6,.map #[] 0)::((b7,.map #[] 0)::((b8,.map #[] 0)::((b9,.map #[] 0)::(y.1.2.2.2.1++y.1.2.2.2.2.2)))))))))))) (fun y=>[at_ pad (List.flatMap Pc.cells p)]) (fun y=>List.length p - y.1.1) ⟨((0:Nat),#[],0,[(b1,.map #[] 0)],(.slice none 0 0),[]),by simp,by exact SetE.nil,by exact dK_.nil _ _,(bA_.nil 9 1)⟩ zl zp zh ?_
 rintro ⟨⟨i,es,cs,Hm,sv_L,H_L⟩,hi,hE,hm,hr_L⟩
 dsimp only at hi hE hm hr_L ⊢
 have hbu:=ir_ (List.take i p) []
 have hbt:=List.length_take_le i p
 simp only[List.length_nil]at hbu
 have hbp:(aP_ (uniq [] (List.take i p))).length≤900000000:=by have:=km_ (uniq [] (List.take i p));omega
 have hbl:(an_ (uniq [] (List.take i p))).length≤900000000:=by have:=jx_ (uniq [] (List.take i p));omega
 refine Zi 2 (fun hr1=>?_) fun hr1=>?_
 ·refine Zz 13 ?_
  have e9:List.take i p=p:=List.take_of_length_le (by omega)
  rw[e9]at hm hr_L
  exact J_ Tryz.results47 ⟨NewE.mk b10 b1 b2 b3 b4 b5 b6 b7 b8 b9 sv_L Hm H_L,hm,hr_L⟩ rfl (o_ e_ (o_ (c_ e_) (o_ (c_ e_) (o_ (c_ e_) (o_ (c_ e_) (o_ (c_ e_) (o_ (c_ e_) (o_ (c_ e_) (o_ (c_ e_) (B_ (c_ u_) P_)))))))))) zt
 obtain⟨hlx1,x1,hx1,hmx1⟩:=zge (show i<List.length p by omega)
 refine Zz 12 ?_
 refine C_ bv_ rfl fun b12=>w_ 0 am_ rfl rfl rfl rfl rfl rfl (Zz 5 ?_)
 refine w_ 0 aq_ rfl rfl rfl rfl rfl rfl (Zz 6 ?_)
 refine O_ (dL_ (k:=Pc.zf x1) (q:=(uniq [] (List.take i p))) rL_ Tryz.runUnderlying124 cw_ rfl rfl hE (fun v h _=>(h.own _ (List.mem_of_getElem? (i:=2) rfl)).1)) rfl fun r2 hr2=>d_ (bj_ rfl) rfl (Zz 2 ?_)
 cases r2
 ·replace hr2:=zdf hr2
  refine Zz 5 ?_
  refine gp_ (k:=Pc.zf x1) (q:=(uniq [] (List.take i p))) 2 rL_ (.inr rfl) Tryz.runUnderlying124 rfl rfl rfl rfl hE fun es1 c1 hE1=>Zz 5 ?_
  refine q_ (qu_ x1.zf (aP_ (uniq [] (List.take i p))) (an_ (uniq [] (List.take i p))) b10 b1 b2 b3 b4 b5 b6 b7 b8 b9 .nilFunc sv_L Hm H_L hm hr_L  hbp hbl) rfl (o_ (c_ e_) (B_ (c_ (c_ (c_ (c_ (c_ (c_ (c_ (c_ (c_ (c_ u_)))))))))) (c_ (c_ (c_ (c_ (c_ (c_ (c_ (c_ (c_ P_))))))))))) zt rfl fun⟨⟨lv1,HA1,HA2⟩,hA1,hA2⟩=>?_
  dsimp only
  simp only[List.cons_append,List.append_assoc]
  refine Zz 2 ?_
  refine ac_ (aN_ e_ (aN_ (j_ (j_ e_)) (aN_ (j_ (j_ e_)) (aN_ (j_ (j_ e_)) (aN_ (j_ (j_ e_)) (aN_ (j_ (j_ e_)) (aN_ (j_ (j_ e_)) (aN_ (j_ (j_ e_)) (aN_ (j_ (j_ e_)) (aN_ (j_ (j_ e_)) (cA_ (j_ cp_)))))))))))) (Zz 5 ?_)
  exact Q_ ⟨(i+1,es1,c1,HA1,lv1,HA2),hlx1,by rw[ft_ hx1];exact hE1,by rw[ft_ hx1,if_neg (by assumption),pO_];exact hA1,(by rw[ft_ hx1,if_neg (by assumption),ms_];exact hA2)⟩ (by dsimp only;omega) zl zp zh
 replace hr2:=zdt hr2
 refine Zz 8 ?_
 exact Q_ ⟨(i+1,es,cs,Hm,sv_L,H_L),hlx1,by rw[ft_ hx1,if_pos (by assumption)];exact hE,by rw[ft_ hx1,if_pos (by assumption)];exact hm,(by rw[ft_ hx1,if_pos (by assumption)];exact hr_L)⟩ (by dsimp only;omega) zl (o_ (c_ e_) (o_ (c_ e_) (o_ (c_ e_) (o_ (c_ e_) (o_ (c_ e_) (o_ (c_ e_) (o_ (c_ e_) (o_ (c_ e_) (o_ (c_ e_) (o_ (c_ e_) (B_ (c_ u_) P_))))))))))) zh
end Go.Proofs.YtaffcjgphlhppaaGreatDoor
namespace Go.Proofs.YtaffcjgphlhppaaGreatDoor
open Go Go.Sx Go.Proofs
attribute [local irreducible] Code.wp wpList wpAnyH
open Go.Vs
theorem jW_ {P:Program} {N:Nf} {fr:Fr} {H:Hp} {Γ:List Fct} {ty:TypeId} {K:Type} [DecidableEq K] {kv:K→Value} {t kt et:TypeId} {x:Operand} {mb c:Nat} {es:Array MapEntry} {q:List K} (hE:SetE kv es q) (hu:∀ w,(underlying t).run P w=.ok (.map kt et) w) (hx:Fr.ev fr x=some (.map (some mb))) (hm:∀ v,v.sat H→aj_ Γ v→v.w.heap[mb]? = some (.map es c)) :
    Yld P N fr H Γ (.call ⟨.builtin .len,#[x],#[t]⟩) ty (.int .i64 (q.length:Int)):=by
  rw[← hE.size];exact qC_ hu hx hm
def andF (a b:Fct):Fct where
  p v:=a.p v∧b.p v
  mono:=fun v v' h ⟨h1,h2⟩=>⟨a.mono v v' h h1,b.mono v v' h h2⟩
def StA (b9 kb fb:Nat) (nw fm:List Fc) (H:Hp):Prop:=∃ sv es c es' c' q Hq,H=(b9,.cells #[sv] 47 (0,0))::(kb,.map es c)::([(fb,.map es' c')]++Hq)∧bA_ 24 6 sv nw.length (nw.flatMap Fc.cells) Hq∧SetE Fc.val es nw∧SetE Fc.val es' q∧∀ f,f∈q↔f∈fm
theorem tC_ (f:Fc) (nw fm:List Fc) (m:Nat) (hm:m≤65536) (g b7 b8 b9 kb fb:Nat) (c0 c1 c3 c4 c5 c6 c7 c8 c9 c10 sv:Value) (es es2:Array MapEntry) (c c2:Nat) (q:List Fc) (Hq:Hp) (hr:bA_ 24 6 sv nw.length (nw.flatMap Fc.cells) Hq) (hE:SetE Fc.val es nw) (hF:SetE Fc.val es2 q) (hq:∀ f,f∈q↔f∈fm):Tri Tryz.prog 48 #[Fc.val f,zp_ b7 0,zp_ b8 0,zp_ b9 0] ((b9,.cells #[sv] 47 (0,0))::(kb,.map es c)::([(fb,.map es2 c2)]++Hq)) [by_ b7 (.cells #[zp_ g 0] 102 (0,0)),by_ b8 (.cells #[.int .i64 (m:Int)] 3 (0,0)),by_ g (.cells #[c0,c1,.map (some kb),c3,c4,c5,c6,c7,c8,c9,c10] 111 (0,0))] (fun _:{H:Hp // StA b9 kb fb (bo_ m f nw) fm H}=>.tuple #[]) (fun y=>y.1) (fun _=>[]):=by
 refine t_ Tryz.func48 rfl rfl Tryz.ntmps48 rfl fun v0=>?_
 refine Zz 2 ?_
 refine ag_ rfl rfl fun b1=>Zz 4 ?_
 refine n_ 8 [0,1,2,3,4,5,6,7] zk zs (Zz 4 ?_)
 refine Z_ rfl (jW_ hE aQ_ rfl (fun v h _=>(h.own _ (List.mem_of_getElem? (i:=2) rfl)).1)) rfl (Zi 1 (fun hr1=>?_) fun hr1=>?_)
 ·refine Zz 2 ?_
  refine n_ 0 [8,9,10,11,12,13,14,15] zk zs (Zz 14 ?_)
  have e0:bo_ m f nw=nw:=by unfold bo_;rw[if_neg (by rintro ⟨q1,q2⟩;first|omega|exact absurd (by assumption) q2)]
  exact cW_ Tryz.results48 ⟨_,sv,es,c,es2,c2,q,Hq,rfl,by rw[e0];exact hr,by rw[e0];exact hE,hF,hq⟩ rfl zp zt
 refine Zz 2 ?_
 refine n_ 0 [8,9,10,11,12,13,14,15] zk zs (Zz 5 ?_)
 refine aC_ rfl rfl rfl (dL_ (k:=f) iI_ aQ_ cw_ rfl rfl hE (fun v h _=>(h.own _ (List.mem_of_getElem? (i:=2) rfl)).1)) rfl fun r2 hr2=>bQ_ rfl rfl rfl (bj_ rfl) rfl (Zz 4 ?_)
 cases r2
 ·replace hr2:=zdf hr2
  refine Zz 2 ?_
  refine ax_ ((b1,.cells #[.int .i64 f.kind,str f.a,str f.b,str f.r,.int .i64 f.lo,.int .i64 f.hi] 24 (0,0))::((b9,.cells #[sv] 47 (0,0))::[])) zk ?_
  refine n_ 1 [0,1,2,3,4] zk zs (Zz 6 ?_)
  refine i_ 5 rfl zk (gp_ (k:=f) 2 iI_ (.inr rfl) aQ_ rfl rfl rfl rfl hE fun ej1 cj1 hj1=>Zz 8 ?_)
  refine ap_ E_ x_ ad_ rfl rfl rfl rfl rfl rfl fun b2=>?_
  refine aH_ (news:=List.flatMap Fc.cells [f]) jm_ hr rfl rfl (c_ (c_ (c_ (c_ cp_)))) rfl (bJ_ 0 rfl) (fun u hu=>ba_ Fc.cells_one hu) (by simp only[maxLen];omega) (by omega) rfl fun sv1 Hr1 hr1=>?_
  have hq1:=zsa hr1
  refine ac_ (aN_ (j_ e_) (aN_ (j_ e_) (aN_ (j_ e_) (cA_ (j_ e_))))) (bx_ 2 hq1 dj_ rfl rfl rfl rfl (Zz 2 ?_))
  have e0:bo_ m f nw=nw++[f]:=by unfold bo_;rw[if_pos ⟨by omega,by assumption⟩]
  exact cW_ Tryz.results48 ⟨_,sv1,ej1,cj1,es2,c2,q,Hr1,rfl,by rw[e0];exact hq1,by rw[e0];rw[if_neg (by assumption)]at hj1;exact hj1,hF,hq⟩ rfl (o_ (c_ (c_ e_)) (o_ (c_ (c_ e_)) (B_ (c_ (c_ cp_)) (c_ P_)))) zt
 replace hr2:=zdt hr2
 refine Zz 3 ?_
 have e0:bo_ m f nw=nw:=by unfold bo_;rw[if_neg (by rintro ⟨q1,q2⟩;first|omega|exact absurd (by assumption) q2)]
 exact cW_ Tryz.results48 ⟨_,sv,es,c,es2,c2,q,Hq,rfl,by rw[e0];exact hr,by rw[e0];exact hE,hF,hq⟩ rfl zp zt
end Go.Proofs.YtaffcjgphlhppaaGreatDoor
namespace Go.Proofs.YtaffcjgphlhppaaGreatDoor
open Go Go.Sx Go.Proofs
attribute [local irreducible] Code.wp wpList wpAnyH
open Go.Vs
def EA (m:Nat) (hm:m≤65536) (B:EngB) (b7 b8 b9 kb fb:Nat):Emt Tryz.prog 24 where
 stp:=bo_ m
 kof:=idk
 St:=StA b9 kb fb
 fn:=48
 caps:=[zp_ b7 0,zp_ b8 0,zp_ b9 0]
 ef:=andF (by_ b7 (.cells #[zp_ B.g 0] 102 (0,0))) (andF (by_ b8 (.cells #[.int .i64 (m:Int)] 3 (0,0))) (by_ B.g (.cells #[.map (some B.pb),.slice B.lad B.lps.length B.lcap,.map (some kb),.func (.func 48) #[] #[zp_ b7 0,zp_ b8 0,zp_ b9 0],.map (some B.ab),.map (some B.ub),.map (some B.ob),.map (some B.ib),.map (some B.rb),.map (some B.sb),.map (some fb)] 111 (0,0))))
 kb:=kb
 fb:=fb
 grows:=fj_ m
 emit:=fun f nw fm H hS=>by
   obtain⟨sv,es,c,es2,c2,q,Hq,rfl,h1,h2,h3,h4⟩:=hS
   exact it_ [] (tC_ f nw fm m hm B.g b7 b8 b9 kb fb _ _ _ _ _ _ _ _ _ _ sv es es2 c c2 q Hq h1 h2 h3 h4) (fun v _ h=>⟨h.1.1,h.1.2.1,h.1.2.2,trivial⟩)
 known:=fun hS=>by
   obtain⟨sv,es,c,es2,c2,q,Hq,rfl,h1,h2,h3,h4⟩:=hS
   exact⟨es,c,by simp,h2⟩
 firm:=fun hS=>by
   obtain⟨sv,es,c,es2,c2,q,Hq,rfl,h1,h2,h3,h4⟩:=hS
   exact⟨es2,c2,q,by simp,h3,h4⟩
 setf:=fun {nw fm H} f hS=>by
   obtain⟨sv,es,c,es2,c2,q,Hq,rfl,h1,h2,h3,h4⟩:=hS
   refine⟨es2,c2,q,(b9,.cells #[sv] 47 (0,0))::(kb,.map es c)::Hq,cA_ zp,h3,h4,fun es' c' h5=>⟨(b9,.cells #[sv] 47 (0,0))::(kb,.map es c)::([(fb,.map es' c')]++Hq),⟨sv,es,c,es',c',_,Hq,rfl,h1,h2,h5,?_⟩,cA_ zp⟩⟩
   intro z
   split
   · rename_i hz;rw[h4,List.mem_cons];constructor
     · exact .inr
     · rintro (rfl|h)
       · exact (h4 _).1 hz
       · exact h
   · rw[List.mem_append,List.mem_singleton,h4,List.mem_cons,or_comm]
end Go.Proofs.YtaffcjgphlhppaaGreatDoor
