/-
  Lemmas for the law TopChanges (no condition).
-/
import Derived.Test.YtfjcabalehamcaaGreatDoorQTopChanges14
set_option linter.unusedVariables false
set_option linter.unusedSimpArgs false
set_option linter.unusedSectionVars false
set_option maxHeartbeats 1000000
namespace Go.Proofs.YtfjcabalehamcaaGreatDoor
open Go Go.Sx Go.Proofs Tryz
attribute [local irreducible] Code.wp wpList wpAnyH
open Go.Vs
structure Wk where
  ps:List Pc
  pad:Ao
  pcap:Nat
  cl:Cl
def Wk.cells (w:Wk):List Value:=.slice w.pad w.ps.length w.pcap::w.cl.cells
def Wk.val (w:Wk):Value:=.agg w.cells.toArray
def Wk.no:Wk:=Wk.mk [] none 0 Cl.no
structure Wk.ok (w:Wk):Prop where
  al:w.ps.length<=w.pcap
  am:w.pcap<=maxLen
  az:w.pad=none->w.pcap=0
  cl:w.cl.ok
theorem Wk.no_ok:Wk.no.ok:=⟨yae_ _,by simp[Wk.no],λ_=>rfl,Cl.no_ok⟩
def Wk.row (w:Wk):List Fct:=[L_ w.pad (w.ps.flatMap Pc.cells),L_ w.cl.aad (w.cl.atoms.flatMap ar_),L_ w.cl.fad (w.cl.facts.flatMap Fc.cells)]
def eG_ (p:List Pc) (bu:Int) (w:Wk) (e:Int):Prop:=∃ c,cC_ p bu c e/\(e=0->w.ps=p/\w.cl=c/\w.ok)/\(e≠0->w=Wk.no)
theorem eG_.ok {p:List Pc} {m:Int} {w:Wk} {e:Int} (h:eG_ p m w e):w.ok:=by
 obtain⟨c,_,x,v⟩:=h
 by_cases d:e=0
 .exact (x d).2.2
 rw[v d];exact Wk.no_ok
theorem eG_.good {p:List Pc} {d:Int} {w:Wk} (h:eG_ p d w 0):w.ps=p/\w.ok/\cC_ p d w.cl 0:=by
  obtain⟨c,x,v,_⟩:=h;obtain⟨m,A,y⟩:=v rfl;exact⟨m,y,A▸x⟩
theorem eG_.len {p:List Pc} {B:Int} {w:Wk} {e:Int} (h:eG_ p B w e):w.ps.length<=p.length/\w.cl.atoms.length<=3*p.length+2/\w.cl.facts.length<=65536:=by
 obtain⟨c,d,m,y⟩:=h
 by_cases A:e=0
 .obtain⟨x,v,_⟩:=m A
  have:=d.len;rw[x,v];exact⟨yae_ _,this⟩
 rw[y A];simp[Wk.no,Cl.no]
section
variable {P:Program} {N:Nf} {fr:Fr} {H:Hp}
theorem fB_ {fn:Func} {t s r b n:Nat} {ty T:TypeId} {us:List Value} {u x:Value} (i:Nat) (B:fn.results=#[.cell t ty,.tmp s,.tmp r]) (K:∀ w,(isAgg ty).run P w=.ok true w) (E:∀ w,(sizeOf ty).run P w=.ok n w) (G:us.length=n) (F:Fr.get fr t=some (zp_ b 0)) (C:Fr.get fr s=some u) (d:Fr.get fr r=some x)
    (hi:H[i]? = some (b,.cells us.toArray T (0,0))) (a:Act) (v:Vw) (m:Fr.sat N fr a) (A:v.sat H):(results fn a.tmps).run P v.w=.ok (.tuple #[.agg us.toArray,u,x]) v.w:=by
  have e:=m.val t _ F;have L:=m.val s _ C;have I:=m.val r _ d;have hl:=cy_ (t:=ty) (w:=v.w) (b:=b) (off:=0) K E G (λj y J=>by rw[yba_,fm_ A hi];simpa using J);simp[results,B,e,L,I,asAddr,hl]
end
theorem hn_:fH_ prog 39 [(0,1),(1,2)] [.slice none 0 0,.slice none 0 0,.slice none 0 0]:=⟨_,es_,runUnderlying39,λw=>by simp[cj_,aW_]⟩
theorem oi_ (v:Int):Fn0 prog 22 #[i4_ v] (.bool (decide (0<=v/\v<=1073741824))):=by
 refine g_ func22 rfl rfl ntmps22 rfl λx=>?_;refine Zi 8 (λm=>?_) λm=>?_
 .refine Zz 8 ?_
  exact ac_ results22 () (p_ rfl zal_) i_ zt
 refine Zz 4 ?_;refine P_ (dj_ rfl rfl) rfl λy d=>Zz 5 ?_
 exact ac_ results22 () (p_ rfl (by rw[<-d];simp;omega)) i_ zt
theorem yk_ (p:List Pc) (pad:Ao) (pcap:Nat) (Q:p.length<=pcap) (hl:p.length<=100000000):Tri prog 21 #[.slice pad p.length pcap] [] [L_ pad (p.flatMap Pc.cells)] (λy:{y:Ao×Nat // (p).length<=y.2/\y.2<=maxLen/\(y.1=none->y.2=0)}=>.slice y.1.1 (p).length y.1.2) (λ_=>[]) (λy=>[L_ y.1.1 ((p).flatMap Pc.cells)]):=by
 refine g_ func21 rfl rfl ntmps21 rfl λM=>?_;refine Zz 9 ?_;refine P_ (mA_ ol_ rfl rfl) rfl λL d=>Zz 2 ?_
 cases L
 .replace d:=zdf d
  refine Zz 5 ?_;refine gR_ z_ A_ rfl λK=>t_ d_ (Zz 1 ?_)
  refine cS_ (news:=List.flatMap Pc.cells p) iA_ (ij_ K 32 10) rfl rfl (λq=>absurd q zae_) Q af_ zaD_ zf (λu O=>aG_ Pc.cells_one O) (by simp only[maxLen];((try simp only[yaB_]);omega)) (by ((try simp only[yaB_]);omega)) rfl λF J d=>?_;refine t_ yax_ ?_;have I:ad_ 32 10 F (List.length (([]:List Pc)++p)) (List.flatMap Pc.cells (([]:List Pc)++p)) J:=by rw[yaj_,yaW_];exact d
  refine Zz 4 ?_;refine aZ_ I af_ λE G B x m A=>?_;exact ac_ results21 ⟨(E,G),x,m,A⟩ (fE_ rfl B) i_ zf
 replace d:=zdt d;refine Zz 7 ?_;refine xg_ (p:=List.flatMap Pc.cells p=[]) (λv _ h=>by have q:=h.1;rw[show pad=none by assumption]at q;exact qN_ q) λR=>?_;have C:p=[]:=yaz_ (by have:=yah_ List.length R;rw[cK_ Pc.cells 10 Pc.cells_len]at this;simp at this;omega);subst C;exact ac_ results21 ⟨(none,0),by simp⟩ rfl i_ (λ_ _ _=>⟨.inl rfl,trivial⟩)
theorem mi_ (p:List Pc) (pad:Ao) (pcap:Nat) (O:Int) (M:∀ x∈p,x.sm) (U:p.length<=pcap) (T:p.length<=100000000):Tri prog 7 #[.slice pad p.length pcap,i4_ O] [] [L_ pad (p.flatMap Pc.cells),dA_] (λy:{y:Wk×Int // eG_ p O y.1 y.2}=>.tuple #[y.1.1.val,i4_ y.1.2]) (λ_=>[]) (λy=>y.1.1.row):=by
 refine g_ func7 rfl rfl ntmps7 rfl λR=>?_;refine Zz 2 ?_;refine u_ es_ rfl λS=>Zz 7 ?_
 refine f_ (us_ p pad pcap O M zaa_) rfl i_ zf rfl λ⟨⟨d,I⟩,m⟩=>?_;dsimp only;dsimp only at m;refine Zz 3 ?_;refine u_ gk_ rfl λL=>n_ 0 aW_ rfl rfl rfl rfl rfl rfl (Zi 7 (λK=>?_) λK=>?_)
 .refine Zz 6 ?_
  refine V_ ((L,.cells #[.slice d.aad d.atoms.length d.acap,.slice d.fad d.facts.length d.fcap] 37 (0,0))::[]) zk ?_;refine s_ 4 [0,2] zk zs (Zz 3 ?_);refine l_ 1 rfl zk (f_ (yk_ p pad pcap zaa_ zaa_) rfl i_ zf rfl λ⟨⟨J,E⟩,C,B,A⟩=>?_);dsimp only;dsimp only at C B A;refine Zz 3 ?_;refine s_ 2 [3] zk zs (S_ rfl (w_ hn_ rfl rfl) rfl (bt_ (l_ 4 rfl zk (n_ 1 an_ rfl rfl rfl rfl rfl rfl (Zz 3 ?_)))));refine s_ 0 [5] zk zs (Zz 5 ?_);exact dI_ ⟨((Wk.mk p J E d),0),⟨d,(by assumption:I=0)▸m,λ_=>⟨rfl,rfl,⟨C,B,A,m.ok⟩⟩,λq=>absurd rfl q⟩⟩ (λQ v G F=>dS_ (us:=Wk.cells (Wk.mk p J E d)) 1 results7 dx_ an_ rfl rfl rfl rfl Q v G F) i_ zf
 refine Zz 5 ?_;refine e_ (w_ hn_ rfl rfl) rfl (Zz 1 ?_);refine n_ 1 an_ rfl rfl rfl rfl rfl rfl (Zz 4 ?_);exact dI_ ⟨((Wk.mk [] none 0 (Cl.mk [] none 0 [] none 0)),I),⟨d,m,λq=>absurd q zae_,λ_=>rfl⟩⟩ (λQ v G F=>dS_ (us:=Wk.cells (Wk.mk [] none 0 (Cl.mk [] none 0 [] none 0))) 1 results7 dx_ an_ rfl rfl rfl rfl Q v G F) i_ (λv _ h=>by exact⟨.inl rfl,.inl rfl,.inl rfl,trivial⟩)
theorem nr_ {K:Type} [DecidableEq K] {l q:List K} {i:Nat} {x:K} (h:∀ f,f∈q↔f∈l.take i) (d:l[i]? = some x):∀ f,f∈(if x∈q then q else q++[x])↔f∈l.take (i+1):=λf=>by
 rw[yao_,d,yaC_,yag_,yak_,<-h]
 split
 .rename_i hm
  exact⟨.inl,λq=>q.elim id λe=>e▸hm⟩
 rw[yag_,yak_]
def cx_ (l k:List Fc):List Fc:=l.filter λf=>!decide (f∈k)
theorem kq_ {l k:List Fc} {i:Nat} {x:Fc} (h:l[i]? = some x):cx_ (l.take (i+1)) k=cx_ (l.take i) k++(if x∈k then [] else [x]):=by
  unfold cx_;rw[iU_ h]
  by_cases d:x∈k<;>simp[d]
theorem jh_ {l k q:List Fc} (h:∀ f,f∈q↔f∈k):cx_ l q=cx_ l k:=by
  unfold cx_;congr 1;funext f;rw[ybJ_];simp[h]
theorem iz_ (l k:List Fc):(cx_ l k).length<=l.length:=ybN_ _ _
theorem nP_ (c:Cl) (M:c.facts.length<=1000000000):Tri prog 23 #[Cl.val c] [] [L_ c.fad (c.facts.flatMap Fc.cells)] (λy:{y:Nat×Array MapEntry×Nat×List Fc // SetE Fc.val y.2.1 y.2.2.2/\∀ f,f∈y.2.2.2↔f∈c.facts}=>.map (some y.1.1)) (λy=>[(y.1.1,.map y.1.2.1 y.1.2.2.1)]) (λ_=>[]):=by
 refine g_ func23 rfl rfl ntmps23 rfl λJ=>?_;refine Zz 2 ?_;refine F_ rfl rfl λC=>Zz 8 ?_
 refine sE_ runUnderlying78 rfl rfl λm=>Zz 13 ?_
 refine I_ (ι:={y:Nat×Array MapEntry×Nat×List Fc // y.1<=List.length c.facts/\SetE Fc.val y.2.1 y.2.2.2/\(∀ f,f∈y.2.2.2↔f∈List.take y.1 c.facts)}) (λy=>[(1,zp_ C 0),(2,.map (some m)),(10,.slice c.fad c.facts.length c.fcap),(11,i4_ (List.length c.facts:Int)),(12,i4_ y.1.1)]) (λy=>((m,.map y.1.2.1 y.1.2.2.1)::((C,.cells #[.slice c.aad c.atoms.length c.acap,.slice c.fad c.facts.length c.fcap] 37 (0,0))::[]))) (λy=>[L_ c.fad (c.facts.flatMap Fc.cells)]) (λy=>c.facts.length - y.1.1) ⟨((0:Nat),#[],0,([]:List Fc)),by simp,SetE.nil,by simp⟩ zl zp zh ?_;rintro ⟨⟨i,es,K,q⟩,hi,hE,G⟩;dsimp only at hi hE G ⊢;refine Zi 2 (λE=>?_) λE=>?_
 .refine Zz 13 ?_
  rw[yad_ zaa_]at G;exact ac_ results23 ⟨(m,es,K,q),hE,G⟩ rfl d_ zt
 have d:i<c.facts.length:=by omega
 obtain⟨v,A⟩:∃ I,c.facts[i]? = some I:=⟨_,yaa_ d⟩;refine Zz 12 ?_;refine u_ W_ rfl λL=>n_ 0 N_ rfl rfl rfl rfl rfl rfl (Zz 5 ?_)
 refine ex_ (k:=v) 1 gy_ (.inr rfl) runUnderlying78 rfl rfl rfl rfl hE λx F B=>Zz 7 ?_
 exact C_ ⟨(i+1,x,F,(if v∈q then q else q++[v])),d,B,nr_ G A⟩ zab_ zl (m_ (c_ d_) (c_ d_)) zh
theorem fhas_c (d:Nat) (es:Array MapEntry) (x:Nat) (q:List Fc) (hE:SetE Fc.val es q) (f:Fc):Tri prog 25 #[.map (some d),Fc.val f] [(d,.map es x)] [] (λ_:Unit=>.bool (decide (f∈q))) (λ_=>[(d,.map es x)]) (λ_=>[]):=by
  refine g_ func25 rfl rfl ntmps25 rfl λB=>?_;refine Zz 2 ?_;refine F_ rfl rfl λy=>Zz 7 ?_
  refine P_ (df_ (k:=f) gy_ runUnderlying78 bO_ rfl rfl hE (λv h _=>(h.own _ (yac_ (i:=1) rfl)).1)) rfl λA m=>Zz 4 ?_
  exact ac_ results25 () (p_ rfl m.symm) zp zt
theorem kp_ (l:List Fc) (lad:Ao) (lcap:Nat) (I:Nat) (es:Array MapEntry) (V:Nat) (q:List Fc) (hE:SetE Fc.val es q) (hl:l.length<=1000000000):Tri prog 24 #[.slice lad l.length lcap,(.func (.func 25) #[.map (some I)] #[])] [(I,.map es V)] [L_ lad (l.flatMap Fc.cells)] (λy:{y:Ao×Nat // ((cx_ l q)).length<=y.2/\y.2<=maxLen/\(y.1=none->y.2=0)}=>.slice y.1.1 ((cx_ l q)).length y.1.2) (λ_=>[(I,.map es V)]) (λy=>[L_ y.1.1 (((cx_ l q)).flatMap Fc.cells)]):=by
 refine g_ func24 rfl rfl ntmps24 rfl λZ=>?_;refine Zz 5 ?_;refine os_ (bb_ (ou_ (Zz 10 ?_)));refine I_ (ι:={y:Nat×Value×Hp // y.1<=List.length l/\zR 87 6 Fc.cells y.2.1 (cx_ (l.take y.1) q) y.2.2}) (λy=>[(0,.slice lad l.length lcap),(1,(.func (.func 25) #[.map (some I)] #[])),(4,y.1.2.1),(7,.slice lad l.length lcap),(8,i4_ (List.length l:Int)),(9,i4_ y.1.1)]) (λy=>((I,.map es V)::y.1.2.2)) (λy=>[L_ lad (l.flatMap Fc.cells)]) (λy=>l.length - y.1.1) ⟨((0:Nat),(.slice none 0 0),[]),by simp,(ad_.nil _ _)⟩ zl d_ zh ?_;rintro ⟨⟨i,x,A⟩,hi,d⟩;dsimp only at hi d ⊢;have W:=iz_ (l.take i) q;rw[yat_]at W;refine Zi 2 (λU=>?_) λU=>?_
 .refine Zz 13 ?_
  have G:(cx_ (l.take i) q)=cx_ l q:=by rw[yad_ zaa_]
  have K:ad_ 87 6 x (cx_ l q).length (List.flatMap Fc.cells (cx_ l q)) A:=by have R:=d;rw[G]at R;exact R
  refine aZ_ K E_ λL S J C B E=>?_;exact ac_ results24 ⟨(L,S),C,B,E⟩ (fE_ rfl J) d_ zf
 have v:i<l.length:=by omega
 obtain⟨Q,F⟩:∃ G,l[i]? = some G:=⟨_,yaa_ v⟩;refine Zz 12 ?_;refine u_ W_ rfl λb_1=>n_ 0 N_ rfl rfl rfl rfl rfl rfl (Zz 7 ?_)
 refine bJ_ (first:=[.map (some I)]) (cap:=[]) (fhas_c I es V q hE Q) rfl rfl (c_ d_) zt rfl λX m=>Zz 2 ?_
 cases X
 .replace m:=dF m
  refine Zz 6 ?_;refine M_ ai_ N_ W_ rfl rfl rfl rfl rfl rfl λY=>?_;refine am_ (news:=List.flatMap Fc.cells [Q]) jB_ d rfl rfl zp rfl (ba_ 0 rfl) (λu hu=>aG_ Fc.cells_one hu) zan_ zar_ rfl λM T m=>?_;refine t_ yax_ ?_;have O:=zsa m;refine Zz 8 ?_;exact C_ ⟨(i+1,M,T),v,(by rw[kq_ F,yaf_ zae_];exact O)⟩ zab_ zl (m_ (c_ d_) (c_ E_)) zh
 replace m:=dT m;refine Zz 8 ?_;exact C_ ⟨(i+1,x,A),v,(by rw[kq_ F,yaq_ zae_,yaL_];exact d)⟩ zab_ zl zp zh
end Go.Proofs.YtfjcabalehamcaaGreatDoor
namespace Go.Proofs.YtfjcabalehamcaaGreatDoor
open Go Go.Sx Go.Proofs Tryz
attribute [local irreducible] Code.wp wpList wpAnyH
open Go.Vs
def kC_ (w:Wk) (p:List Pc) (bu:Int) (x:Wk) (new:List Fc) (e:Int):Prop :=
  if bq_ p≠0 then x=Wk.no/\new=[]/\e=bq_ p
  else if ¬ (0<=bu/\bu<=1073741824) then x=Wk.no/\new=[]/\e=1
  else if 16384<w.ps.length+p.length then x=Wk.no/\new=[]/\e=2
  else eG_ (w.ps++p) bu x e/\new=if e=0 then cx_ x.cl.facts w.cl.facts else []
theorem kC_.ok {w:Wk} {p:List Pc} {y:Int} {x:Wk} {new:List Fc} {e:Int} (h:kC_ w p y x new e):x.ok/\x.ps.length<=w.ps.length+p.length/\x.cl.atoms.length<=3*(w.ps.length+p.length)+2/\x.cl.facts.length<=65536/\new.length<=65536:=by
 have no:Wk.no.ok/\Wk.no.ps.length<=w.ps.length+p.length/\Wk.no.cl.atoms.length<=3*(w.ps.length+p.length)+2/\Wk.no.cl.facts.length<=65536/\([]:List Fc).length<=65536:=⟨Wk.no_ok,by simp[Wk.no],by simp[Wk.no,Cl.no],by simp[Wk.no,Cl.no],by simp⟩;unfold kC_ at h
 split at h
 .obtain⟨rfl,rfl,_⟩:=h;exact no
 split at h
 .obtain⟨rfl,rfl,_⟩:=h;exact no
 split at h
 .obtain⟨rfl,rfl,_⟩:=h;exact no
 obtain⟨m,d,v⟩:=h.1.len;rw[yaj_]at m d;refine⟨h.1.ok,m,d,v,?_⟩;rw[h.2]
 split
 .have:=iz_ x.cl.facts w.cl.facts;omega
 simp
def yB_ (n:Nat) (l:List Int):Prop:=(∀ x∈l,0<=x/\x<n)/\l.Pairwise (·<·)
instance (n:Nat) (l:List Int):Decidable (yB_ n l):=by unfold yB_;exact inferInstance
def ds_ (l:List Int):Nat->List Pc->List Pc
  | _,[]=>[]
  | i,x::r=>if (i:Int)∈l then ds_ l (i+1) r else x::ds_ l (i+1) r
theorem kh_ (l:List Int):∀ (i:Nat) (r s:List Pc),ds_ l i (r++s)=ds_ l i r++ds_ l (i+r.length) s
  | i,[],s=>by simp[ds_]
  | i,x::r,s=>by
    rw[yav_,ds_,kh_ l (i+1) r s,ds_,yai_,show i+1+r.length=i+(r.length+1) by omega]
    split<;>simp
theorem nz_ {l:List Int} {p:List Pc} {i:Nat} {x:Pc} (h:p[i]? = some x):ds_ l 0 (p.take (i+1))=ds_ l 0 (p.take i)++(if (i:Int)∈l then [] else [x]):=by
  have hi:=(yab_.1 h).1;rw[yao_,h,yaC_,kh_,yat_,ybn_ zaa_,yba_];simp only[ds_]
theorem iP_ (l:List Int):∀ (i:Nat) (p:List Pc),∀ x∈ds_ l i p,x∈p
 | _,[],x,h=>by simp[ds_]at h
 | i,y::r,x,h=>by
   simp only[ds_]at h
   split at h
   . exact yaA_ _ (iP_ l (i+1) r x h)
   . rcases yan_.1 h with rfl|h
     . exact yau_
     . exact yaA_ _ (iP_ l (i+1) r x h)
theorem gV_ (l:List Int):∀ (i:Nat) (p:List Pc),(ds_ l i p).length<=p.length
  | _,[]=>by simp[ds_]
  | i,y::r=>by
    have:=gV_ l (i+1) r;simp only[ds_]
    split<;>simp only[yai_]<;>omega
def mf_ (w:Wk) (l:List Int) (bu:Int) (x:Wk) (gone:List Fc) (e:Int):Prop :=
  if ¬ (yB_ w.ps.length l/\0<=bu/\bu<=1073741824) then x=Wk.no/\gone=[]/\e=1
  else eG_ (ds_ l 0 w.ps) bu x e/\gone=if e=0 then cx_ w.cl.facts x.cl.facts else []
theorem mf_.ok {w:Wk} {l:List Int} {m:Int} {x:Wk} {g:List Fc} {e:Int} (h:mf_ w l m x g e):x.ok/\x.ps.length<=w.ps.length/\x.cl.atoms.length<=3*w.ps.length+2/\x.cl.facts.length<=65536/\g.length<=w.cl.facts.length:=by
 unfold mf_ at h
 split at h
 .obtain⟨rfl,rfl,_⟩:=h;exact⟨Wk.no_ok,by simp[Wk.no],by simp[Wk.no,Cl.no],by simp[Wk.no,Cl.no],by simp⟩
 obtain⟨y,v,d⟩:=h.1.len;have:=gV_ l 0 w.ps;refine⟨h.1.ok,by omega,by omega,d,?_⟩;rw[h.2]
 split
 .exact iz_ _ _
 simp
theorem qD_ {p:List Pc} {d:Int} {w:Wk} {e:Int} (h:eG_ p d w e) (m:e≠0):eG_ p d Wk.no e:=by
  obtain⟨c,v,_,_⟩:=h;exact⟨c,v,λq=>absurd q m,λ_=>rfl⟩
theorem ln_ {G:Prop} (h:G:=by
 refine l_ 6 rfl zk (f_ (kp_ (Cl.facts (Wk.cl d)) (Cl.fad (Wk.cl d)) (Cl.fcap (Wk.cl d)) mb es ce q hE zaa_) rfl d_ zf rfl λ⟨⟨K,H⟩,B,C,E⟩=>?_);dsimp only;dsimp only at B C E;refine Zz 3 ?_;exact lo_):G:=h
theorem lo_ {G:Prop} (h:G:=by
 refine l_ 7 rfl zk (n_ 1 an_ rfl rfl rfl rfl rfl rfl (Zz 3 ?_));refine s_ 0 [8,9] zk zs (Zz 6 ?_);exact dI_ ⟨(d,(cx_ (Cl.facts (Wk.cl d)) q),K,H,0),by unfold kC_;rw[yaf_ (λq=>q G),yaf_ (λq=>q L),yaf_ zaa_];rw[yaq_ rfl];exact⟨U▸M▸F,jh_ hq⟩,⟨B,C,E⟩⟩ (λJ v A m=>fB_ (us:=Wk.cells d) 1 wK_ dx_ an_ rfl rfl rfl rfl rfl J v A m) i_ zf):G:=h
set_option maxHeartbeats 1000000 in
theorem add_c (w:Wk) (p:List Pc) (pad:Ao) (pcap:Nat) (Z:Int) (hsw:∀ x∈w.ps,x.sm) (hw1:w.ps.length<=w.pcap) (hw2:w.pad=none->w.pcap=0) (hw3:w.ps.length<=16384) (hw4:w.cl.facts.length<=100000000) (X:∀ x∈p,x.sm) (hp1:p.length<=pcap) (hp2:pad=none->pcap=0) (hp3:p.length<=100000):Tri prog 10 #[Wk.val w,.slice pad p.length pcap,i4_ Z] [] [L_ (Wk.pad w) (List.flatMap Pc.cells (Wk.ps w)),L_ (Cl.aad (Wk.cl w)) (List.flatMap ar_ (Cl.atoms (Wk.cl w))),L_ (Cl.fad (Wk.cl w)) (List.flatMap Fc.cells (Cl.facts (Wk.cl w))),L_ pad (p.flatMap Pc.cells),dA_] (λy:{y:Wk×List Fc×Ao×Nat×Int // kC_ w p Z y.1 y.2.1 y.2.2.2.2/\(y.2.1.length<=y.2.2.2.1/\y.2.2.2.1<=maxLen/\(y.2.2.1=none->y.2.2.2.1=0))}=>.tuple #[y.1.1.val,.slice y.1.2.2.1 y.1.2.1.length y.1.2.2.2.1,i4_ y.1.2.2.2.2]) (λ_=>[]) (λy=>y.1.1.row++[L_ y.1.2.2.1 (y.1.2.1.flatMap Fc.cells)]):=by
 refine g_ func10 rfl rfl ntmps10 rfl λv_1=>?_;refine Zz 2 ?_;refine F_ rfl rfl λb_1=>u_ es_ rfl λb_2=>Zz 8 ?_
 refine f_ (qb_ p pad pcap zaa_ X) rfl i_ zf rfl λ_=>Zi 6 (λP=>?_) λP=>?_
 .have G:=P
  refine Zz 9 ?_;refine aa_ (oi_ Z) rfl i_ zt rfl λr_1 I=>e_ (aH_ rfl) rfl (Zz 2 ?_)
  cases r_1
  .replace I:=zdf I
   refine Zz 3 ?_;refine e_ (w_ hn_ rfl rfl) rfl (n_ 0 an_ rfl rfl rfl rfl rfl rfl (Zz 5 ?_));exact dI_ ⟨((Wk.mk [] none 0 (Cl.mk [] none 0 [] none 0)),([]:List Fc),none,0,1),by unfold kC_;rw[yaf_ (λq=>q G),yaq_ zae_];exact⟨rfl,rfl,rfl⟩,⟨yae_ _,by simp,λ_=>rfl⟩⟩ (λJ v A m=>fB_ (us:=Wk.cells (Wk.mk [] none 0 (Cl.mk [] none 0 [] none 0))) 0 wK_ dx_ an_ rfl rfl rfl rfl rfl J v A m) i_ (λv _ h=>by exact⟨.inl rfl,.inl rfl,.inl rfl,.inl rfl,trivial⟩)
  replace I:=zdt I;have L:=I;refine Zi 12 (λY=>?_) λY=>?_
  .refine Zz 10 ?_
   refine M_ fX_ cj_ bu_ rfl rfl rfl rfl rfl rfl λb_3=>?_;refine aL_ (List.flatMap PL.cells [(PL.mk (Wk.ps w) (Wk.pad w) (Wk.pcap w)),(PL.mk p pad pcap)]) d_ rfl ?_;refine f_ (nN_ [(PL.mk (Wk.ps w) (Wk.pad w) (Wk.pcap w)),(PL.mk p pad pcap)] (some ⟨b_3,0,none⟩) 2 (λy O=>by simp only[yan_,yaJ_,ybG_]at O;rcases O with rfl|rfl;exact⟨hw1,hw2,by dsimp only;omega⟩;exact⟨hp1,hp2,by dsimp only;omega⟩) zai_) rfl i_ (λv _ h=>by refine⟨h.1,λy O=>?_,trivial⟩;simp only[yan_,yaJ_,ybG_]at O;rcases O with rfl|rfl;exact h.2.1;exact h.2.2.2.2.1) rfl λ⟨⟨W,T⟩,R,S,Q⟩=>?_;dsimp only;dsimp only at R S Q;have U:(eI_ [(PL.mk (Wk.ps w) (Wk.pad w) (Wk.pcap w)),(PL.mk p pad pcap)])=w.ps++p:=by simp[eI_]
   have hCl:List.length (eI_ [(PL.mk (Wk.ps w) (Wk.pad w) (Wk.pcap w)),(PL.mk p pad pcap)])=w.ps.length+p.length:=by rw[U,yaj_]
   refine Zz 1 ?_;refine f_ (mi_ (eI_ [(PL.mk (Wk.ps w) (Wk.pad w) (Wk.pcap w)),(PL.mk p pad pcap)]) W T Z (λy O=>by rw[U]at O;rcases yag_.1 O with h|h;exact hsw y h;exact X y h) zaa_ zaa_) rfl i_ zf rfl λ⟨⟨d,V⟩,F⟩=>?_;dsimp only;dsimp only at F;have hlx_1:=F.len;refine Zz 3 ?_;refine n_ 0 an_ rfl rfl rfl rfl rfl rfl (Zi 7 (λN=>?_) λN=>?_)
   .have M:V=0:=N
    refine Zz 9 ?_;refine f_ (nP_ (Wk.cl w) zaa_) rfl i_ zf rfl λ⟨⟨mb,es,ce,q⟩,hE,hq⟩=>?_;dsimp only;dsimp only at hE hq;refine Zz 4 ?_;refine V_ ((b_1,.cells #[.slice (Wk.pad w) (Wk.ps w).length (Wk.pcap w),.slice (Cl.aad (Wk.cl w)) (Cl.atoms (Wk.cl w)).length (Cl.acap (Wk.cl w)),.slice (Cl.fad (Wk.cl w)) (Cl.facts (Wk.cl w)).length (Cl.fcap (Wk.cl w))] 39 (0,0))::[]) zk ?_;refine s_ 6 [1,2,4,5] zk zs (Zz 3 ?_);refine S_ rfl (aR_ rfl rfl) rfl (bt_ ?_);refine do_ 0 3 rfl rfl zk ?_ ?_
    .refine Zz 4 ?_
     refine l_ 3 rfl zk (Zz 4 ?_);exact ln_
    refine Zz 4 ?_;refine do_ 0 6 rfl rfl zk ?_ ?_
    .refine Zz 4 ?_
     exact ln_
    refine f_ (kp_ (Cl.facts (Wk.cl d)) (Cl.fad (Wk.cl d)) (Cl.fcap (Wk.cl d)) mb es ce q hE zaa_) rfl d_ zf rfl λ⟨⟨K,H⟩,B,C,E⟩=>?_;dsimp only;dsimp only at B C E;refine Zz 3 ?_;refine l_ 0 rfl zk (Zz 4 ?_);exact lo_
   refine Zz 5 ?_;refine e_ (w_ hn_ rfl rfl) rfl (Zz 1 ?_);refine n_ 0 an_ rfl rfl rfl rfl rfl rfl (Zz 5 ?_);exact dI_ ⟨((Wk.mk [] none 0 (Cl.mk [] none 0 [] none 0)),([]:List Fc),none,0,V),by unfold kC_;rw[yaf_ (λq=>q G),yaf_ (λq=>q L),yaf_ zaa_];rw[yaf_ zae_];exact⟨(qD_ (U▸F) zae_),rfl⟩,⟨yae_ _,by simp,λ_=>rfl⟩⟩ (λJ v A m=>fB_ (us:=Wk.cells (Wk.mk [] none 0 (Cl.mk [] none 0 [] none 0))) 0 wK_ dx_ an_ rfl rfl rfl rfl rfl J v A m) i_ (λv _ h=>by exact⟨.inl rfl,.inl rfl,.inl rfl,.inl rfl,trivial⟩)
  refine Zz 5 ?_;refine e_ (w_ hn_ rfl rfl) rfl (n_ 0 an_ rfl rfl rfl rfl rfl rfl (Zz 5 ?_));exact dI_ ⟨((Wk.mk [] none 0 (Cl.mk [] none 0 [] none 0)),([]:List Fc),none,0,2),by unfold kC_;rw[yaf_ (λq=>q G),yaf_ (λq=>q L),yaq_ zaa_];exact⟨rfl,rfl,rfl⟩,⟨yae_ _,by simp,λ_=>rfl⟩⟩ (λJ v A m=>fB_ (us:=Wk.cells (Wk.mk [] none 0 (Cl.mk [] none 0 [] none 0))) 0 wK_ dx_ an_ rfl rfl rfl rfl rfl J v A m) i_ (λv _ h=>by exact⟨.inl rfl,.inl rfl,.inl rfl,.inl rfl,trivial⟩)
 refine Zz 5 ?_;refine e_ (w_ hn_ rfl rfl) rfl (Zz 1 ?_);refine n_ 0 an_ rfl rfl rfl rfl rfl rfl (Zz 5 ?_);exact dI_ ⟨((Wk.mk [] none 0 (Cl.mk [] none 0 [] none 0)),([]:List Fc),none,0,(bq_ p)),by unfold kC_;rw[yaq_ zae_];exact⟨rfl,rfl,rfl⟩,⟨yae_ _,by simp,λ_=>rfl⟩⟩ (λJ v A m=>fB_ (us:=Wk.cells (Wk.mk [] none 0 (Cl.mk [] none 0 [] none 0))) 0 wK_ dx_ an_ rfl rfl rfl rfl rfl J v A m) i_ (λv _ h=>by exact⟨.inl rfl,.inl rfl,.inl rfl,.inl rfl,trivial⟩)
theorem lm_ {G:Prop} (h:G:=by
 refine H_ (λ_ a b=>⟨Vw.sat.sub (a.perm (m_ (c_ d_) (c_ (c_ d_)))),b.2⟩) (l_ 7 rfl zk (n_ 2 an_ rfl rfl rfl rfl rfl rfl (Zz 2 ?_)));refine H_ (λ_ a b=>⟨Vw.sat.sub (a.perm (m_ (c_ d_) (c_ (c_ d_)))),b.2⟩) (s_ 0 [8,9] zk (λ_ a b=>⟨Vw.sat.sub (a.perm (m_ (c_ d_) (c_ (c_ d_)))),b.2⟩) (Zz 6 ?_));exact dI_ ⟨(a0,(cx_ (Cl.facts (Wk.cl w)) a8),b4,a3,0),by unfold mf_;rw[yaf_ (λz=>z ⟨T,b5⟩)];rw[yaq_ rfl];exact⟨b1▸I,jh_ L⟩,⟨K,M,J⟩⟩ (λR v E C=>fB_ (us:=Wk.cells a0) 2 results8 dx_ an_ rfl rfl rfl rfl rfl R v E C) i_ zf):G:=h
theorem hW_ {G:Prop} (h:G:=by
 refine e_ (w_ hn_ rfl rfl) rfl (n_ 1 an_ rfl rfl rfl rfl rfl rfl (Zz 5 ?_));exact dI_ ⟨((Wk.mk [] none 0 (Cl.mk [] none 0 [] none 0)),([]:List Fc),none,0,1),by unfold mf_;rw[yaq_ (λz=>by first|(have:=(z.1.1 F N);omega)|exact pw_no (lt:=λx y:Int=>x<y) zaa_ O d zaa_ z.1.2)];exact⟨rfl,rfl,rfl⟩,⟨yae_ _,by simp,λ_=>rfl⟩⟩ (λR v E C=>fB_ (us:=Wk.cells (Wk.mk [] none 0 (Cl.mk [] none 0 [] none 0))) 1 results8 dx_ an_ rfl rfl rfl rfl rfl R v E C) i_ (λv _ h=>by exact⟨.inl rfl,.inl rfl,.inl rfl,.inl rfl,trivial⟩)):G:=h
set_option maxHeartbeats 1000000 in
theorem qR_ (w:Wk) (H:List Int) (Q:Ao) (U:Nat) (bu:Int) (hsw:∀ x∈w.ps,x.sm) (hw1:w.ps.length<=w.pcap) (hw2:w.pad=none->w.pcap=0) (hw3:w.ps.length<=16384) (hw4:w.cl.facts.length<=100000000) (hwl:H.length<=100000000):Tri prog 8 #[Wk.val w,.slice Q H.length U,i4_ bu] [] [L_ (Wk.pad w) (List.flatMap Pc.cells (Wk.ps w)),L_ (Cl.aad (Wk.cl w)) (List.flatMap ar_ (Cl.atoms (Wk.cl w))),L_ (Cl.fad (Wk.cl w)) (List.flatMap Fc.cells (Cl.facts (Wk.cl w))),L_ Q (H.flatMap aY_),dA_] (λy:{y:Wk×List Fc×Ao×Nat×Int // mf_ w H bu y.1 y.2.1 y.2.2.2.2/\(y.2.1.length<=y.2.2.2.1/\y.2.2.2.1<=maxLen/\(y.2.2.1=none->y.2.2.2.1=0))}=>.tuple #[y.1.1.val,.slice y.1.2.2.1 y.1.2.1.length y.1.2.2.2.1,i4_ y.1.2.2.2.2]) (λ_=>[]) (λy=>y.1.1.row++[L_ y.1.2.2.1 (y.1.2.1.flatMap Fc.cells)]):=by
 refine g_ func8 rfl rfl ntmps8 rfl λv_1=>?_;refine Zz 2 ?_;refine F_ rfl rfl λW=>u_ es_ rfl λa6=>Zz 6 ?_
 refine aX_ rfl λa5=>Zz 12 ?_
 let Pu:Nat×Obj:=(W,.cells #[.slice (Wk.pad w) (Wk.ps w).length (Wk.pcap w),.slice (Cl.aad (Wk.cl w)) (Cl.atoms (Wk.cl w)).length (Cl.acap (Wk.cl w)),.slice (Cl.fad (Wk.cl w)) (Cl.facts (Wk.cl w)).length (Cl.fcap (Wk.cl w))] 39 (0,0));let Qu:Nat×Obj:=(a6,.cells #[.slice none 0 0,.slice none 0 0,.slice none 0 0] 39 (0,0));refine I_ (ι:={y:Nat×Array MapEntry×Nat×List Int // y.1<=List.length H/\SetE (λn:Int=>i4_ n) y.2.1 y.2.2.2/\(∀ f,f∈y.2.2.2↔f∈List.take y.1 H)/\(∀ x∈List.take y.1 H,0<=x/\x<List.length (Wk.ps w))/\(H.take y.1).Pairwise (λx y:Int=>x<y)}) (λy=>[(2,i4_ bu),(3,zp_ W 0),(6,zp_ a6 0),(7,.slice none 0 0),(9,.map (some a5)),(1,.slice Q H.length U),(17,.slice Q H.length U),(18,i4_ (List.length H:Int)),(19,i4_ y.1.1)]) (λy=>((a5,.map y.1.2.1 y.1.2.2.1)::(Qu::(Pu::[])))) (λy=>[L_ (Wk.pad w) (List.flatMap Pc.cells (Wk.ps w)),L_ (Cl.aad (Wk.cl w)) (List.flatMap ar_ (Cl.atoms (Wk.cl w))),L_ (Cl.fad (Wk.cl w)) (List.flatMap Fc.cells (Cl.facts (Wk.cl w))),L_ Q (H.flatMap aY_),dA_]) (λy=>H.length - y.1.1) ⟨((0:Nat),#[],0,([]:List Int)),by simp,SetE.nil,by simp,by simp,List.Pairwise.nil⟩ zl zp zh ?_;rintro ⟨⟨i,es,ce,q⟩,hi,hE,hq,hb,S⟩;dsimp only at hi hE hq hb S ⊢;refine Zi 2 (λY=>?_) λY=>?_
 .rw[yad_ zaa_]at hq hb S
  have T:yB_ (Wk.ps w).length H:=⟨hb,S⟩;refine Zz 10 ?_;refine aa_ (oi_ bu) rfl i_ zt rfl λr_1 G=>e_ (aH_ rfl) rfl (Zz 2 ?_)
  cases r_1
  .replace G:=zdf G
   refine Zz 3 ?_;refine e_ (w_ hn_ rfl rfl) rfl (n_ 1 an_ rfl rfl rfl rfl rfl rfl (Zz 5 ?_));exact dI_ ⟨((Wk.mk [] none 0 (Cl.mk [] none 0 [] none 0)),([]:List Fc),none,0,1),by unfold mf_;rw[yaq_ (λz=>absurd z.2 zae_)];exact⟨rfl,rfl,rfl⟩,⟨yae_ _,by simp,λ_=>rfl⟩⟩ (λR v E C=>fB_ (us:=Wk.cells (Wk.mk [] none 0 (Cl.mk [] none 0 [] none 0))) 1 results8 dx_ an_ rfl rfl rfl rfl rfl R v E C) i_ (λv _ h=>by exact⟨.inl rfl,.inl rfl,.inl rfl,.inl rfl,trivial⟩)
  replace G:=zdt G;have b5:=G;refine Zz 18 ?_;refine I_ (ι:={y:Nat×Value×Hp // y.1<=List.length (Wk.ps w)/\zR 32 10 Pc.cells y.2.1 (ds_ H 0 (List.take y.1 (Wk.ps w))) y.2.2}) (λy=>[(2,i4_ bu),(3,zp_ W 0),(6,zp_ a6 0),(7,.slice none 0 0),(9,.map (some a5)),(12,y.1.2.1),(55,.slice (Wk.pad w) (Wk.ps w).length (Wk.pcap w)),(56,i4_ (List.length (Wk.ps w):Int)),(57,i4_ y.1.1)]) (λy=>((a5,.map es ce)::(Qu::(Pu::y.1.2.2)))) (λy=>[L_ (Wk.pad w) (List.flatMap Pc.cells (Wk.ps w)),L_ (Cl.aad (Wk.cl w)) (List.flatMap ar_ (Cl.atoms (Wk.cl w))),L_ (Cl.fad (Wk.cl w)) (List.flatMap Fc.cells (Cl.facts (Wk.cl w))),L_ Q (H.flatMap aY_),dA_]) (λy=>List.length (Wk.ps w) - y.1.1) ⟨((0:Nat),(.slice none 0 0),[]),by simp,(ad_.nil _ _)⟩ zl zp zh ?_;rintro ⟨⟨k,a7,b6⟩,hk,A⟩;dsimp only at hk A ⊢;have hkl:=gV_ H 0 (List.take k (Wk.ps w));rw[yat_]at hkl;refine Zi 2 (λX=>?_) λX=>?_
  .rw[yad_ zaa_]at A
   have hkl_1:=gV_ H 0 (Wk.ps w);refine Zz 10 ?_;refine aZ_ A (c_ (c_ E_)) λrad rcap hrad hcrad hmrad hzrad=>?_;subst hrad;refine f_ (mi_ (ds_ H 0 (Wk.ps w)) rad rcap bu (λy hy=>hsw y (iP_ _ _ _ y hy)) zaa_ zaa_) rfl i_ zf rfl λ⟨⟨a0,P⟩,I⟩=>?_;dsimp only;dsimp only at I;have hlx1w:=I.len;refine Zz 3 ?_;refine n_ 1 an_ rfl rfl rfl rfl rfl rfl (Zi 7 (λm=>?_) λm=>?_)
   .have b1:P=0:=m
    refine Zz 9 ?_;refine f_ (nP_ (Wk.cl a0) zaa_) rfl i_ zf rfl λ⟨⟨b0,a9,b2,a8⟩,a1,L⟩=>?_;dsimp only;dsimp only at a1 L;refine Zz 4 ?_;refine V_ ((a5,.map es ce)::(Pu::[])) zk ?_;refine s_ 5 [1,2,3,4,5] zk (λ_ a b=>⟨Vw.sat.sub (a.perm (m_ (c_ d_) (c_ (c_ d_)))),b⟩) (Zz 4 ?_);refine S_ rfl (aR_ rfl rfl) rfl (bt_ ?_);refine do_ 0 6 rfl rfl zk ?_ ?_
    .refine Zz 3 ?_
     refine H_ (λ_ a b=>⟨Vw.sat.sub (a.perm (m_ (c_ d_) (c_ (c_ d_)))),b⟩) (l_ 6 rfl zk (f_ (kp_ (Cl.facts (Wk.cl w)) (Cl.fad (Wk.cl w)) (Cl.fcap (Wk.cl w)) b0 a9 b2 a8 a1 zaa_) rfl d_ (λv _ h=>by exact⟨h.2.2.2.2.2.2.1,trivial⟩) rfl λ⟨⟨b4,a3⟩,K,M,J⟩=>?_));dsimp only;dsimp only at K M J;refine Zz 2 ?_;exact lm_
    refine f_ (kp_ (Cl.facts (Wk.cl w)) (Cl.fad (Wk.cl w)) (Cl.fcap (Wk.cl w)) b0 a9 b2 a8 a1 zaa_) rfl d_ zf rfl λ⟨⟨b4,a3⟩,K,M,J⟩=>?_;dsimp only;dsimp only at K M J;refine Zz 2 ?_;refine H_ (λ_ a b=>⟨Vw.sat.sub (a.perm (m_ (c_ d_) (c_ (c_ d_)))),b.2⟩) (l_ 0 rfl zk (Zz 3 ?_));exact lm_
   refine Zz 5 ?_;refine e_ (w_ hn_ rfl rfl) rfl (Zz 1 ?_);refine n_ 1 an_ rfl rfl rfl rfl rfl rfl (Zz 5 ?_);exact dI_ ⟨((Wk.mk [] none 0 (Cl.mk [] none 0 [] none 0)),([]:List Fc),none,0,P),by unfold mf_;rw[yaf_ (λz=>z ⟨T,b5⟩)];rw[yaf_ zae_];exact⟨qD_ I zae_,rfl⟩,⟨yae_ _,by simp,λ_=>rfl⟩⟩ (λR v E C=>fB_ (us:=Wk.cells (Wk.mk [] none 0 (Cl.mk [] none 0 [] none 0))) 1 results8 dx_ an_ rfl rfl rfl rfl rfl R v E C) i_ (λv _ h=>by exact⟨.inl rfl,.inl rfl,.inl rfl,.inl rfl,trivial⟩)
  have B:k<List.length (Wk.ps w):=by omega
  obtain⟨F,d⟩:∃ P,(Wk.ps w)[k]? = some P:=⟨_,yaa_ B⟩;refine Zz 13 ?_;refine u_ O_ rfl λb_4=>Zz 1 ?_
  refine n_ 0 A_ rfl rfl rfl rfl rfl rfl (Zz 6 ?_);refine P_ (df_ (k:=(k:Int)) keyI runUnderlying75 bO_ rfl rfl hE (λv h _=>(h.own _ (yac_ (i:=1) rfl)).1)) rfl λr_2 m=>e_ (aH_ rfl) rfl (Zz 2 ?_)
  cases r_2
  .replace m:=dF m
   refine Zz 4 ?_;refine M_ z_ A_ O_ rfl rfl rfl rfl rfl rfl λb_5=>?_;refine am_ (news:=List.flatMap Pc.cells [F]) iA_ A rfl rfl (c_ (c_ (c_ (c_ E_)))) rfl (ba_ 0 rfl) (λu hu=>aG_ Pc.cells_one hu) zan_ zar_ rfl λsv_1 Hr_1 Y=>?_;refine t_ yax_ ?_;have L:=zsa Y;refine Zz 8 ?_;exact C_ ⟨(k+1,sv_1,Hr_1),B,(by rw[nz_ d,yaf_ (λz=>absurd ((hq _).2 z) zae_)];exact L)⟩ zab_ zl (m_ (c_ (c_ d_)) (m_ (c_ (c_ d_)) (m_ (c_ (c_ d_)) (c_ E_)))) zh
  replace m:=dT m;refine Zz 8 ?_;exact C_ ⟨(k+1,a7,b6),B,(by rw[nz_ d,yaq_ ((hq _).1 zae_),yaL_];exact A)⟩ zab_ zl (m_ (c_ d_) (m_ (c_ d_) (m_ (c_ d_) E_))) zh
 obtain⟨B,F,d,N⟩:=zge (show i<H.length by omega);refine Zi 21 (λG=>?_) λG=>?_
 .refine Zi 10 (λX=>?_) λX=>?_
  .refine Zi 5 (λm=>?_) λm=>?_
   .refine Zz 20 ?_
    refine ex_ (k:=F) 0 keyI (.inr rfl) runUnderlying75 rfl rfl rfl rfl hE λZ a2 a4=>Zz 7 ?_
    exact C_ ⟨(i+1,Z,a2,(if F∈q then q else q++[F])),B,a4,nr_ hq d,λx V=>by rw[yao_,d]at V;simp only[yaC_,yag_,yak_]at V;rcases V with V|rfl;exact hb x V;omega,tS_ (lt:=λx y:Int=>x<y) ydg_ S d (λa hja ha=>by omega)⟩ zab_ zl zp zh
   have b3:(i - 1:Nat)<H.length:=by omega
   obtain⟨y_1,O⟩:∃ P,H[(i - 1:Nat)]? = some P:=⟨_,yaa_ b3⟩;refine Zz 7 ?_;refine e_ (aj_ (bf_ rfl rfl rfl (bW_ zaa_ zaa_)) (show i4_ ((i:Int) - 1)=i4_ ((i - 1:Nat):Int) from yah_ _ zaa_)) rfl (Zi 7 (λhr_5=>?_) λhr_5=>?_)
   .refine Zz 11 ?_
    refine ex_ (k:=F) 0 keyI (.inr rfl) runUnderlying75 rfl rfl rfl rfl hE λZ a2 a4=>Zz 7 ?_
    exact C_ ⟨(i+1,Z,a2,(if F∈q then q else q++[F])),B,a4,nr_ hq d,λx V=>by rw[yao_,d]at V;simp only[yaC_,yag_,yak_]at V;rcases V with V|rfl;exact hb x V;omega,tS_ (lt:=λx y:Int=>x<y) ydg_ S d (λa hja ha=>by rw[O]at ha;cases ha;omega)⟩ zab_ zl zp zh
   refine Zz 8 ?_;exact hW_
  refine Zz 19 ?_;exact hW_
 refine Zz 25 ?_;exact hW_
structure Chg where
  ps:List Pc
  ad:Ao
  cap:Nat
  msk:Int
def Chg.cells (c:Chg):List Value:=[.slice c.ad c.ps.length c.cap,.int .u32 c.msk]
structure Chg.ok (c:Chg):Prop where
  le:c.ps.length<=c.cap
  nz:c.ad=none->c.cap=0
  mx:c.cap<=1099511627744
  big:∀ x∈c.ps,x.big
theorem kC_.run {w:Wk} {p:List Pc} {x:Wk} {new:List Fc} {e:Int} (h:kC_ w p 1073741824 x new e) (d:bq_ p=0) (hl:w.ps.length+p.length<=16384):eG_ (w.ps++p) 1073741824 x e/\new=if e=0 then cx_ x.cl.facts w.cl.facts else []:=by
  unfold kC_ at h;rw[yaf_ zaK_,yaf_ zai_,yaf_ zaa_]at h;exact h
theorem oN_ (a:Int):∀ (s pre:List Pc),ds_ (ofs a 0 (pre++s)) pre.length s=s.filter λx=>decide (x.frm≠a)
 | [],_=>rfl
 | x::r,pre=>by
   have d:=oN_ a r (pre++[x]);rw[yap_,yaj_,List.singleton_append,ybO_]at d;rw[ds_]
   by_cases h:x.frm=a
   . rw[yaq_ (by have:=tY_ (i:=0) (j:=pre.length) (l:=pre++x::r) (p:=x) zai_ h;simpa using this),d,List.filter_cons_of_neg zaQ_]
   . rw[yaf_ (λq=>by
       obtain⟨j,y,e,m,v⟩:=xi_ q;have A:j=pre.length:=by omega
       subst A;simp at m
       subst m;exact h v),d,List.filter_cons_of_pos zaQ_]
theorem jv_ (a:Int):∀ (p:List Pc) (i:Nat),(ofs a i p).Pairwise (·<·)
 | [],_=>List.Pairwise.nil
 | x::r,i=>by
   rw[ofs]
   split
   . refine ycr_.2 ⟨λv d=>?_,jv_ a r (i+1)⟩
     obtain⟨j,q,e,_,_⟩:=pv_ d;omega
   . exact jv_ a r (i+1)
theorem xh_ (a:Int) (p:List Pc):yB_ p.length (ofs a 0 p):=⟨λv d=>by
  obtain⟨j,q,e,h,_⟩:=xi_ d;have:=(yab_.1 h).1;omega,jv_ a p 0⟩
abbrev sB (a b:Str):Ax:=Ax.mk 1 false (Con.mk 3 a 0 0 none 0 []) (Con.mk 3 b 0 0 none 0 []) none 0 [] [] [] []
theorem wZ_ {a b:Ax} (h:Ax.cmp a b=-1):∀ (i:Nat) x y,[a,b][i]? = some x->[a,b][i+1]? = some y->Ax.cmp x y=-1:=by
  intro i x y m d
  match i with
  | 0=>simp at m d;subst m;subst d;exact h
  | i+1=>simp at d
def LT:List Ax:=[sB [65] [66],sB [66] [67]]
def PT:List Pc:=[⟨1,[65],[],[66],[],[],[],0,0,0⟩,⟨1,[66],[],[67],[],[],[],0,0,1⟩]
def QT:List Pc:=[⟨1,[65],[],[42],[],[],[],0,0,-1⟩,⟨1,[67],[],[42],[],[],[],0,0,-1⟩]
def QU:List Pc:=[⟨1,[67],[],[42],[],[],[],0,0,-1⟩,⟨1,[65],[],[42],[],[],[],0,0,-1⟩]
def PR:List Pc:=[⟨1,[66],[],[67],[],[],[],0,0,1⟩]
def AT:List Str:=[[33],[42],[65],[66],[67]]
def AR:List Str:=[[33],[42],[66],[67]]
theorem qI_ {a b:Str} (d:a.length<=1) (m:b.length<=1):(sB a b).ok:=by constructor<;>simp[Con.ok,Con.ok.oks]<;>omega
theorem ql_ {Q:Ax->Prop} (m:Q (sB [65] [66])) (v:Q (sB [66] [67])):∀ x∈LT,Q x:=λx d=>by
 simp only[LT,yan_,yaJ_,ybG_]at d;rcases d with rfl|rfl
 .exact m
 exact v
theorem sb_:∀ x∈LT,x.ok:=ql_ (qI_ zac_ zac_) (qI_ zac_ zac_)
theorem nX_:∀ x∈LT,x.check=0:=ql_ zad_ zad_
theorem tA_:∀ x∈LT,pln x:=ql_ ⟨rfl,rfl,rfl⟩ ⟨rfl,rfl,rfl⟩
theorem yC_:∀ x∈LT,x.left.sz<=1000000/\x.right.sz<=1000000:=ql_ ⟨ybj_ zad_,ybj_ zad_⟩ ⟨ybj_ zad_,ybj_ zad_⟩
theorem tz_:∀ (i:Nat) x y,LT[i]? = some x->LT[i+1]? = some y->Ax.cmp x y=-1:=wZ_ zad_
theorem fg_:bE_ 0 LT=PT:=by kernel_rfl
theorem GT:(sB [65] [67]).goalP=(QT,[Q_ [65] [67]],0):=by kernel_rfl
theorem GU:(sB [67] [65]).goalP=(QU,[Q_ [67] [65]],0):=by kernel_rfl
theorem rX_ {p:List Pc} {A:List Str} (m:A.Pairwise λx y=>x<y) (d:((cm_ p++[[42],[33]]).all λx=>decide (x∈A))=true) (v:(A.all λx=>decide (x∈cm_ p++[[42],[33]]))=true):atS p=A :=
  hr_ pk_ ycq_ (tt_ p) m λx=>by
    have e:x∈atS p↔x∈cm_ p++[[42],[33]]:=by rw[kz_,gg_,yag_];simp
    rw[e];exact⟨λh=>ybf_ (yaQ_.1 d x h),λh=>ybf_ (yaQ_.1 v x h)⟩
theorem ku_ {p:List Pc} {A:List Str} {n:Nat} {c:Cl} {e:Int} (v:atS p=A) (d:bq_ p=0) (m:((jA_ p A++(iD_ p A n).flatMap (λf=>gr_ p (iD_ p A n) f)).all λy=>decide (y∈iD_ p A n))=true) (hl:(iD_ p A n).length<=65536) (h:cC_ p 1073741824 c e):e=0/\c.facts=iD_ p A n:=by
  have:=(qh_ h d zac_ zac_ (r:=some (iD_ p A n)) (by rw[v];exact yi_ (pc_ d) n 65536 m hl)).1 _ rfl;exact⟨this.1,this.2.1⟩
theorem AD_:atS (PT++QT)=AT:=rX_ zac_ zaq_ zaq_
theorem at_U:atS (PT++QU)=AT:=rX_ zac_ zaq_ zaq_
theorem at_P:atS PT=AT:=rX_ zac_ zaq_ zaq_
theorem at_R:atS PR=AR:=rX_ zac_ zaq_ zaq_
theorem AT_:bq_ (PT++QT)=0:=by decide +kernel
theorem chk_U:bq_ (PT++QU)=0:=by decide +kernel
theorem chk_P:bq_ PT=0:=by decide +kernel
theorem chk_R:bq_ PR=0:=by decide +kernel
theorem yes_T {c:Cl} {e:Int} (h:cC_ (bE_ 0 LT++QT) 1073741824 c e):e=0/\[Q_ [65] [67]].all (ob_ c.facts)=true:=by
  rw[fg_]at h;obtain⟨d,m⟩:=ku_ (n:=5) AD_ AT_ zaq_ zaq_ h;rw[m];exact⟨d,by decide +kernel⟩
theorem no_U {c:Cl} {e:Int} (h:cC_ (bE_ 0 LT++QU) 1073741824 c e):e=0/\[Q_ [67] [65]].all (ob_ c.facts)=false:=by
  rw[fg_]at h;obtain⟨d,m⟩:=ku_ (n:=5) at_U chk_U zaq_ zaq_ h;rw[m];exact⟨d,by decide +kernel⟩
theorem sm_T:∀ x∈bE_ 0 LT++QT,x.sm:=by rw[fg_];exact Pc.sm_all zaq_
theorem ak_T:∀ x∈bE_ 0 LT++QT,x.kind=1/\x.c∈atS (bE_ 0 LT++QT):=by
  rw[fg_,AD_]
  exact λx d=>by
    have:=yaQ_.1 (show ((PT++QT).all λx=>decide (x.kind=1)&&decide (x.c∈AT))=true by decide +kernel) x d;simpa using this
theorem ch_T:∀ f∈[Q_ [65] [67]],f=Q_ f.a f.b/\f.a≠[]/\f.b≠[]/\∀ S:Fc->Prop,(∀ a∈atS (bE_ 0 LT++QT),S (Q_ a a))->(∀ x∈bE_ 0 LT++QT,∀ a,S (Q_ a x.a)->S (Q_ a x.c))->S f:=λf v=>by
  rw[yak_]at v;subst v;refine⟨rfl,by decide,by decide,λS d m=>?_⟩;rw[fg_]at d m;rw[AD_]at d;have a:=m ⟨1,[65],[],[66],[],[],[],0,0,0⟩ (by simp[PT]) [65] (d [65] zac_);exact m ⟨1,[66],[],[67],[],[],[],0,0,1⟩ (by simp[PT]) [65] a
theorem prf_pf {p:List Pc} {A:List Str} {f:Fc} {y:Pf} (N:(A.all λa=>aD_ a&&(dU_ p a&&Nat.ble a.length 100))=true) (I:∀ x∈p,x.c∈A) (h:PrfL p A f y.l) (hl:y.l.length<=65536):PfOk p f y:=by
 have d:∀ a∈A,aD_ a=true/\dU_ p a=true/\a.length<=100:=λa m=>by
   have:=yaQ_.1 N a m;simp only[yaS_,Nat.ble_eq]at this;exact this
 have H:∀ (L:List Stp),(∀ (n:Nat) s,L[n]? = some s->Cor p A (L.take n) s.rule s.fact s.piece s.frm)->∀ g∈fcs L,wf1 g/\g.sml:=λL M g F=>by
   obtain⟨a,m,b,B,rfl⟩:=rQ_ M I g F;have G:=d a m
   have C:aD_ b=true/\b.length<=100:=by
     rcases yan_.1 B with rfl|B
     . exact⟨by decide,by decide⟩
     . exact⟨(d b B).1,(d b B).2.2⟩
   exact⟨⟨G.1,C.1,rfl⟩,by show a.length<=_;omega,by show b.length<=_;omega,by show 0<=_;omega⟩
 refine⟨hl,λs v=>?_,λs v=>(H _ h.cor _ (yaI_ v)).2,λj s v=>?_,qW_ h⟩
 .obtain⟨i,hi⟩:=yaU_ v
  exact ybv_ (h.cor i s hi).two zac_
 refine (h.cor j s v).acc (λa m=>⟨(d a m).1,(d a m).2.1⟩) (λx J=>(d _ (I x J)).1) λg F=>(H _ (λn t E=>?_) g F).1
 have K:=(yab_.1 E).1;rw[yat_]at K;rw[yaM_ zaa_]at E;rw[ydl_,ybn_ zaa_];exact h.cor n t E
theorem pf_T {X:List Pf} (h:∀ (i:Nat) f y,[Q_ [65] [67]][i]? = some f->X[i]? = some y->PrfL (bE_ 0 LT++QT) (atS (bE_ 0 LT++QT)) f y.l/\y.l.length<=65536):∀ (i:Nat) f y,[Q_ [65] [67]][i]? = some f->X[i]? = some y->PfOk (bE_ 0 LT++QT) f y:=λi f y d m =>
  prf_pf (by rw[fg_,AD_];decide +kernel) (λx v=>(ak_T x v).2) (h i f y d m).1 (h i f y d m).2
theorem st_P {w:Wk} {e:Int} (h:eG_ PT 1073741824 w e):e=0/\w.ps=PT/\w.ok/\w.cl.facts=iD_ PT AT 5:=by
  obtain⟨c,v,m,_⟩:=h;obtain⟨rfl,x⟩:=ku_ (n:=5) at_P chk_P zaq_ zaq_ v;obtain⟨a,b,d⟩:=m rfl;exact⟨rfl,a,d,b▸x⟩
theorem rm_P {w x:Wk} {g:List Fc} {e:Int} (A:w.ps=PT) (B:w.cl.facts=iD_ PT AT 5) (h:mf_ w [0] 1073741824 x g e):e=0/\x.ps.length=1/\0<g.length:=by
  unfold mf_ at h;rw[A,yaf_ zac_,show ds_ [0] 0 PT=PR from by decide]at h;obtain⟨⟨c,m,y,_⟩,d⟩:=h;obtain⟨rfl,v⟩:=ku_ (n:=5) at_R chk_R zaq_ zaq_ m;obtain⟨a,b,_⟩:=y rfl;rw[yaq_ rfl,B,b,v]at d;exact⟨rfl,by rw[a];rfl,by rw[d];decide +kernel⟩
theorem mK_ (s:Str):Fn0 prog 43 #[str s] (Con.val (Con.mk 3 s 0 0 none 0 [])):=by
  refine g_ func43 rfl rfl ntmps43 rfl λA=>?_;refine Zz 2 ?_;refine u_ bP_ rfl λy=>Zz 5 ?_
  refine e_ (w_ wn_ rfl rfl) rfl (n_ 0 D_ rfl rfl rfl rfl rfl rfl (Zz 3 ?_));exact dI_ () (λx v m d=>cu_ (us:=Con.cells (Con.mk 3 s 0 0 none 0 [])) 0 results43 aq_ D_ rfl rfl rfl x v m d) i_ (λv _ h=>trivial)
theorem ih_ (a b:Str):Fn0 prog 14 #[str a,str b] (Ax.val (Ax.mk 1 false (Con.mk 3 a 0 0 none 0 []) (Con.mk 3 b 0 0 none 0 []) none 0 [] [] [] [])):=by
  refine g_ func14 rfl rfl ntmps14 rfl λx=>?_;refine Zz 2 ?_;refine u_ aK_ rfl λy=>Zz 5 ?_
  refine f_ (mK_ a) rfl i_ zt rfl λ_=>Zz 1 ?_
  refine f_ (mK_ b) rfl i_ zt rfl λ_=>e_ (w_ strt51 rfl rfl) rfl (n_ 0 ab_ rfl rfl rfl rfl rfl rfl (Zz 3 ?_))
  exact dI_ () (λA v d m=>cu_ (us:=Ax.cells (Ax.mk 1 false (Con.mk 3 a 0 0 none 0 []) (Con.mk 3 b 0 0 none 0 []) none 0 [] [] [] [])) 0 results14 ed_ ab_ rfl rfl rfl A v d m) i_ (λv _ h=>trivial)
set_option maxHeartbeats 1000000 in
theorem ps_:Tri prog 4 #[] [] [bB_,dA_] (λ_:Unit=>.bool true) (λ_=>[]) (λ_=>[]):=by
 refine g_ func4 rfl rfl ntmps4 rfl λb3=>?_;refine Zz 7 ?_;refine f_ (ih_ [65] [66]) rfl i_ zt rfl λ_=>f_ (ih_ [66] [67]) rfl i_ zt rfl λ_=>M_ as_ ab_ aK_ rfl rfl rfl rfl rfl rfl λS=>?_;refine aL_ (List.flatMap Ax.cells [(Ax.mk 1 false (Con.mk 3 [65] 0 0 none 0 []) (Con.mk 3 [66] 0 0 none 0 []) none 0 [] [] [] []),(Ax.mk 1 false (Con.mk 3 [66] 0 0 none 0 []) (Con.mk 3 [67] 0 0 none 0 []) none 0 [] [] [] [])]) d_ rfl ?_;refine f_ (sG_ LT (some ⟨S,0,none⟩) 2 sb_ nX_ tA_ zac_ yC_ tz_) rfl i_ (λv _ h=>by exact⟨(show (cI_ (some ⟨S,0,none⟩) [(Ax.mk 1 false (Con.mk 3 [65] 0 0 none 0 []) (Con.mk 3 [66] 0 0 none 0 []) none 0 [] [] [] []),(Ax.mk 1 false (Con.mk 3 [66] 0 0 none 0 []) (Con.mk 3 [67] 0 0 none 0 []) none 0 [] [] [] [])]).p v from ⟨h.1,λy Q=>by simp only[yan_,yaJ_,ybG_]at Q;rcases Q with rfl|rfl;exact⟨⟨.inl rfl,trivial⟩,⟨.inl rfl,trivial⟩,(.inl rfl)⟩;exact⟨⟨.inl rfl,trivial⟩,⟨.inl rfl,trivial⟩,(.inl rfl)⟩⟩),h.2.1,trivial⟩) rfl λ⟨⟨A,d⟩,L,G,H⟩=>?_;dsimp only;try dsimp only at L G H
 refine Zz 3 ?_;refine u_ zeroValue57 rfl λa9=>n_ 0 sizeOf57 rfl rfl rfl rfl rfl rfl (Zz 5 ?_)
 refine s_ 7 [0] zk zs (Zz 2 ?_);refine l_ 1 rfl zk (f_ (ih_ [65] [67]) rfl i_ zt rfl λ_=>Zz 3 ?_);refine l_ 2 rfl zk (f_ (uV_ LT A d sb_ nX_ tA_ zac_ yC_ tz_ (Ax.mk 1 false (Con.mk 3 [65] 0 0 none 0 []) (Con.mk 3 [67] 0 0 none 0 []) none 0 [] [] [] []) (qI_ zac_ zac_) zk ⟨rfl,rfl,rfl⟩ QT [Q_ [65] [67]] GT zac_ (λz P=>sm_T z (yay_ _ P)) zac_ (λc e h=>yes_T h) sm_T (by rw[fg_];decide) (λz P=>(ak_T z P).1) (λz P=>(ak_T z P).2) ch_T) rfl i_ (λv _ h=>by exact⟨h.1,⟨⟨.inl rfl,trivial⟩,⟨.inl rfl,trivial⟩,(.inl rfl)⟩,h.2.2.1,h.2.2.2.1,trivial⟩) rfl λ⟨⟨X,Y,R⟩,I,N,a0,a2,a3⟩=>?_);dsimp only;dsimp only at I N a0 a2 a3;have a5:X.length=1:=I;refine Zz 3 ?_;refine s_ 0 [3,4,5,6,7] zk zs (Zz 10 ?_);refine s_ 7 [0] zk zs (Zz 2 ?_);refine l_ 1 rfl zk (f_ (ih_ [67] [65]) rfl i_ zt rfl λ_=>Zz 3 ?_);refine l_ 2 rfl zk (f_ (uW_ LT A d sb_ nX_ tA_ zac_ yC_ tz_ (Ax.mk 1 false (Con.mk 3 [67] 0 0 none 0 []) (Con.mk 3 [65] 0 0 none 0 []) none 0 [] [] [] []) (qI_ zac_ zac_) zk ⟨rfl,rfl,rfl⟩ QU [Q_ [67] [65]] GU zac_ (Pc.sm_all zaq_) zac_ (λc e h=>no_U h)) rfl i_ (λv _ h=>by exact⟨h.2.2.1,⟨⟨.inl rfl,trivial⟩,⟨.inl rfl,trivial⟩,(.inl rfl)⟩,h.2.2.2.2.1,h.2.2.2.2.2.1,trivial⟩) rfl λ_=>Zz 3 ?_);refine s_ 0 [3,4,5,6,7] zk zs (Zz 11 ?_);refine s_ 11 [0,1,2,3,4,5,6,7,8,9,10,11] zk zs (Zz 1 ?_);refine S_ rfl (aj_ (aM_ rfl rfl) (show _=Value.bool false from yah_ Value.bool zac_)) rfl (Zz 2 ?_);refine cY_ rfl rfl rfl (aj_ (aM_ rfl rfl) (show _=Value.bool false from yah_ Value.bool zac_)) rfl (Zi 4 (λU=>?_) λU=>?_)
 .refine Zz 3 ?_
  refine s_ 4 [12,13,14,15,16,17,19] zk zs (Zz 1 ?_);refine cY_ rfl rfl rfl (aj_ (aM_ rfl rfl) (show _=Value.bool false from yah_ Value.bool zac_)) rfl (Zz 6 ?_);refine l_ 18 rfl zk (aP_ rfl rfl (f_ (ih_ [65] [67]) rfl i_ zt rfl λ_=>Zz 3 ?_));refine l_ 20 rfl zk (aP_ rfl rfl (f_ (uK_ LT A d sb_ nX_ zac_ (Ax.mk 1 false (Con.mk 3 [65] 0 0 none 0 []) (Con.mk 3 [67] 0 0 none 0 []) none 0 [] [] [] []) (qI_ zac_ zac_) X Y R fg_ GT zac_ I AT_ (by rw[<-fg_];exact pf_T N)) rfl i_ (λv _ h=>by exact⟨h.2.2.1,⟨⟨.inl rfl,trivial⟩,⟨.inl rfl,trivial⟩,(.inl rfl)⟩,h.1,h.2.1,h.2.2.2.2.2.1,h.2.2.2.2.1,trivial⟩) rfl λ_=>?_));refine Zz 3 ?_;refine s_ 0 [21,22] zk zs (cY_ rfl rfl rfl (aj_ (aM_ rfl rfl) (show _=Value.bool false from yah_ Value.bool zac_)) rfl (Zz 11 ?_));refine f_ (kN_ LT A d zac_ sb_ nX_ fg_) rfl i_ zf rfl λ⟨⟨pad,pcap⟩,x,K,J⟩=>?_;dsimp only;dsimp only at x K J;refine Zz 10 ?_;refine f_ (mi_ PT pad pcap 1073741824 (Pc.sm_all zaq_) x zac_) rfl i_ zf rfl λ⟨⟨a1,a7⟩,B⟩=>?_;dsimp only;dsimp only at B;obtain⟨rfl,m,E,C⟩:=st_P B;refine Zz 3 ?_;refine u_ es_ rfl λb5=>n_ 0 an_ rfl rfl rfl rfl rfl rfl (Zz 6 ?_)
  refine M_ J_ K_ aN_ rfl rfl rfl rfl rfl rfl λZ=>?_;refine aL_ (List.flatMap aY_ [0]) d_ rfl ?_;refine f_ (qR_ a1 [0] (some ⟨Z,0,none⟩) 1 1073741824 (λy Q=>by rw[m]at Q;exact Pc.sm_all (l:=PT) zaq_ y Q) E.al E.az (by rw[m];decide) (by rw[C];exact ybv_ (show _<=65536 by decide +kernel) zac_) zai_) rfl i_ zf rfl λ⟨⟨b0,a8,V,W,b1⟩,F,O⟩=>?_;dsimp only;dsimp only at F O;obtain⟨rfl,a4,a6⟩:=rm_P m C F;refine Zz 4 ?_;refine u_ es_ rfl λb4=>n_ 0 an_ rfl rfl rfl rfl rfl rfl (Zz 7 ?_)
  refine e_ (aj_ (by_ rfl rfl) (show _=Value.bool true from yah_ Value.bool zac_)) rfl (Zz 4 ?_);refine e_ (aj_ (by_ rfl rfl) (show _=Value.bool true from yah_ Value.bool zac_)) rfl (Zz 5 ?_);refine e_ (aj_ (by_ rfl rfl) (show _=Value.bool true from yah_ Value.bool zac_)) rfl (Zi 9 (λM=>?_) λM=>?_)
  .exfalso;omega
  refine Zz 7 ?_;refine P_ (cP_ rfl rfl) rfl λb2 T=>Zz 5 ?_
  exact ac_ results4 () (p_ rfl (by rw[<-T];exact yaE_ zaa_)) i_ zt
 exfalso;omega
def rG_ (i:Nat) (z:Pc):Pc:=⟨z.kind,z.a,z.b,z.c,z.r,z.s,z.t,z.lo,z.hi,(i:Int)⟩
def qI (x:Ax) (i:Nat):List Pc:=(x.pieces 0).map (rG_ i)
def fmL (i k:Nat) (l:List Pc):List Pc:=(l.take k).map (rG_ i)++l.drop k
theorem pN_ (i k:Nat) (l:List Pc):(fmL i k l).length=l.length:=by
  unfold fmL;rw[yaj_,yaO_,<-yaj_,ybA_]
theorem Ai_ {i k:Nat} {l:List Pc} (h:k<l.length):(fmL i k l)[k]? = l[k]? := by
  unfold fmL;rw[yaG_ (by rw[yaO_,yat_];omega),yaO_,yat_,ybn_ zaa_,ycP_,ybP_,ycc_]
theorem xT_ {i k:Nat} {l:List Pc} {x:Pc} (h:l[k]? = some x):(fmL i k l).set k (rG_ i x)=fmL i (k+1) l:=by
  have d:=(yab_.1 h).1;unfold fmL;rw[List.set_append_right _ _ (by rw[yaO_,yat_];omega),yaO_,yat_,ybn_ zaa_,ycP_,hI_ h,ybI_,yao_,h,yaC_,yaw_,yap_];rfl
theorem Aj_ {i k:Nat} {l:List Pc} (h:l.length<=k):fmL i k l=l.map (rG_ i):=by
  unfold fmL;rw[yad_ h,List.drop_eq_nil_of_le h,yaL_]
def er_:List Ax->List Bool->List Ax
  | x::l,b::bs=>(if b=true then [x] else [])++er_ l bs
  | _,_=>[]
theorem kJ_:∀ {l:List Ax} {bs:List Bool} {k:Nat} {x:Ax} {b:Bool},l[k]? = some x->bs[k]? = some b->er_ (l.take (k+1)) bs=er_ (l.take k) bs++if b=true then [x] else []
  | y::l,c::bs,0,x,b,h,hb=>by
    simp at h hb
    subst h;subst hb;simp[er_]
  | y::l,c::bs,k+1,x,b,h,hb=>by
    simp only[ybb_]at h hb;rw[ybd_,ybd_,er_,er_,kJ_ h hb,yap_]
  | [],_,_,_,_,h,_=>by simp at h
  | _::_,[],_,_,_,_,hb=>by simp at hb
theorem jX_:∀ {l:List Ax} {bs:List Bool} {x:Ax},x∈er_ l bs↔∃ i:Nat,l[i]? = some x/\bs[i]? = some true
 | y::l,c::bs,x=>by
   rw[er_,yag_,jX_];constructor
   . rintro (h|⟨i,d,m⟩)
     . split at h
       . rename_i v;simp at h;subst h;subst v;exact⟨0,rfl,rfl⟩
       . simp at h
     . exact⟨i+1,d,m⟩
   . rintro ⟨i,d,m⟩
     cases i with
     | zero=>simp at d m;subst d;subst m;exact .inl zai_
     | succ i=>exact .inr ⟨i,d,m⟩
 | [],bs,x=>by simp[er_]
 | _::_,[],x=>by simp[er_]
theorem jY_:∀ (l:List Ax) (bs:List Bool),(er_ l bs).length<=l.length
  | y::l,c::bs=>by
    have:=jY_ l bs;rw[er_,yaj_,yai_]
    split<;>simp<;>omega
  | [],_=>by simp[er_]
  | _::_,[]=>by simp[er_]
theorem fl_ {l:List Ax} {bs:List Bool}:∀ x∈er_ l bs,x∈l:=λx d=>by
  obtain⟨i,h,_⟩:=jX_.1 d;exact yac_ h
theorem pO_:∀ (l:List Ax) (k:Nat) (z:Pc),z∈bE_ k l↔∃ (j:Nat) (x:Ax),l[j]? = some x/\z∈x.pieces ((k+j:Nat):Int)
 | [],k,z=>by simp[bE_]
 | y::l,k,z=>by
   rw[bE_,yag_,pO_ l (k+1) z];constructor
   . rintro (h|⟨j,x,d,m⟩)
     . exact⟨0,y,rfl,h⟩
     . exact⟨j+1,x,d,by rw[show k+(j+1)=k+1+j by omega];exact m⟩
   . rintro ⟨j,x,d,m⟩
     cases j with
     | zero=>simp at d;subst d;exact .inl m
     | succ j=>exact .inr ⟨j,x,d,by rw[show k+1+j=k+(j+1) by omega];exact m⟩
structure TcI (l:List Ax) (bs:List Bool) (P:List Pc):Prop where
  len:bs.length=l.length
  mem:∀ z,z∈P↔∃ (i:Nat) (x:Ax),bs[i]? = some true/\l[i]? = some x/\z∈qI x i
theorem TcI.zero (l:List Ax):TcI l (List.replicate l.length false) []:=⟨by simp,λz=>by
  simp only[yaJ_,false_iff];rintro ⟨i,x,h,_⟩;rw[ybQ_]at h
  split at h<;>cases h⟩
section
variable {l:List Ax} {bs:List Bool} {P:List Pc} {i:Nat} {x:Ax}
theorem wO_ {z:Pc} (h:z∈qI x i):z.frm=(i:Int):=by
  obtain⟨y,_,rfl⟩:=yas_.1 h;rfl
theorem mT_ {j:Nat} {b c:Bool} (hi:i<bs.length):(bs.set i b)[j]? = some c↔if i=j then b=c else bs[j]? = some c:=by
 rw[ybm_]
 split
 .simp[hi]
 exact Iff.rfl
theorem TcI.add (h:TcI l bs P) (A:l[i]? = some x):TcI l (bs.set i true) (P++qI x i):=by
 have hi:i<bs.length:=by rw[h.len];exact (yab_.1 A).1
 refine⟨by rw[yaT_];exact h.len,λz=>?_⟩;rw[yag_,h.mem];constructor
 .rintro (⟨j,y,d,m,v⟩|d)
  .exact⟨j,y,(mT_ hi).2 (by split<;>simp[d]),m,v⟩
  exact⟨i,x,(mT_ hi).2 zai_,A,d⟩
 rintro ⟨j,y,d,m,v⟩;have d:=(mT_ hi).1 d
 by_cases e:i=j
 .subst e
  rw[A]at m;cases m;exact .inr v
 rw[yaf_ e]at d;exact .inl ⟨j,y,d,m,v⟩
theorem TcI.rem (h:TcI l bs P) (hi:i<l.length):TcI l (bs.set i false) (ds_ (ofs (i:Int) 0 P) 0 P):=by
 have B:i<bs.length:=by rw[h.len];exact hi
 have C:=oN_ (i:Int) P [];rw[ybC_,yaB_]at C;refine⟨by rw[yaT_];exact h.len,λz=>?_⟩;rw[C,ybh_,h.mem];constructor
 .rintro ⟨⟨j,y,d,A,m⟩,v⟩
  have v:=ybf_ v;rw[wO_ m]at v;exact⟨j,y,(mT_ B).2 (by rw[yaf_ (λe=>v (by rw[e]))];exact d),A,m⟩
 rintro ⟨j,y,d,A,m⟩;have d:=(mT_ B).1 d
 by_cases e:i=j
 .rw[yaq_ e]at d;cases d
 rw[yaf_ e]at d;exact⟨⟨j,y,d,A,m⟩,yaE_ (by rw[wO_ m];omega)⟩
variable (hok:∀ x∈l,x.ok) (hC:∀ x∈l,x.check=0) (hl:l.length<=10)
include hok hC in
theorem AM_ (d:x∈l):qI x i=x.pieces (i:Int):=by
  have h:=Ax.pieces_shift 0 (i:Int) x;rw[Int.zero_add]at h;rw[h];refine ybX_ λy m=>?_;have e:=(Ax.pieces_all (f:=0) zaa_ zaa_ (hok x d) (hC x d) y m).frm;unfold dH_ rG_;rw[e,Int.zero_add]
include hok hC in
theorem AL_ (d:x∈l) (hi:i<1024):(qI x i).length<=1000/\∀ z∈qI x i,z.sm/\z.valid=true:=by
  rw[AM_ hok hC d];refine⟨fZ_ _ (Ax.good_of (hC x d)),λz m=>?_⟩;have h:=Ax.pieces_all (f:=(i:Int)) zaa_ zaa_ (hok x d) (hC x d) z m;exact⟨h.sm,h.ok⟩
include hok hC hl in
theorem TcI.all (h:TcI l bs P):∀ z∈P,z.sm/\z.valid=true:=λz v=>by
  obtain⟨i,x,_,d,m⟩:=(h.mem z).1 v;have hi:=(yab_.1 d).1;exact (AL_ hok hC (yac_ d) zaa_).2 z m
theorem tl_ {P:List Pc} (m:P.length<=16384) (d:∀ z∈P,z.valid=true):bq_ P=0:=by
  unfold bq_;rw[yaf_ zaa_,yaq_ (yaQ_.2 d)]
theorem ur_ {P:List Pc} {c:Cl} {e:Int} (h:cC_ P 1073741824 c e) (m:bq_ P=0):e=0\/e=2:=by
 rcases ut_ h m zac_ zac_ with⟨d,_⟩|⟨_,d,_⟩
 .exact .inl d
 exact .inr (d.trans (yaf_ zac_))
theorem tc_rem {w y:Wk} {g:List Fc} {e:Int} (B:cC_ w.ps 1073741824 w.cl 0) (h:mf_ w (ofs (i:Int) 0 w.ps) 1073741824 y g e):(e=0\/e=2)/\(e=0->y.ps=ds_ (ofs (i:Int) 0 w.ps) 0 w.ps/\y.ok/\cC_ y.ps 1073741824 y.cl 0):=by
 unfold mf_ at h;rw[yaf_ (λq=>q ⟨xh_ _ _,by decide,by decide⟩)]at h;obtain⟨m,_⟩:=h;refine⟨?_,λA=>?_⟩
 .obtain⟨c,v,_⟩:=m
  exact ur_ v (tm_ B.good.1 (gV_ _ _ _) (iP_ _ _ _))
 subst A;obtain⟨a,b,d⟩:=m.good;exact⟨a,b,a▸d⟩
theorem tc_add {w y:Wk} {q:List Pc} {g:List Fc} {e:Int} (C:q.length<=1000) (B:∀ z∈q,z.valid=true) (E:∀ z∈w.ps,z.valid=true) (h:kC_ w q 1073741824 y g e):(e=0\/e=2)/\(e=0->y.ps=w.ps++q/\y.ok/\cC_ y.ps 1073741824 y.cl 0):=by
 unfold kC_ at h;rw[yaf_ (λz=>z (tl_ zaa_ B)),yaf_ (λz=>z ⟨by decide,by decide⟩)]at h
 by_cases hl:16384<w.ps.length+q.length
 .rw[yaq_ hl]at h
  exact⟨.inr h.2.2,λA=>by rw[A]at h;exact absurd h.2.2 zac_⟩
 rw[yaf_ hl]at h;obtain⟨m,_⟩:=h;refine⟨?_,λA=>?_⟩
 .obtain⟨c,v,_⟩:=m
  exact ur_ v (tl_ zbt_ λz F=>(yag_.1 F).elim (E z) (B z))
 subst A;obtain⟨a,b,d⟩:=m.good;exact⟨a,b,a▸d⟩
include hok hC hl in
theorem yQ_ {c d:Cl} {e:Int} (h:TcI l bs P) (L:cC_ P 1073741824 c 0) (M:cC_ (bE_ 0 (er_ l bs)) 1073741824 d e):e=0/\c.atoms=d.atoms/\c.facts=d.facts:=by
  have O:=jY_ l bs;have B:∀ x∈er_ l bs,x.check=0:=λx m=>hC x (fl_ x m)
  have N:=ix_ (er_ l bs) 0 zaa_ (λx m=>hok x (fl_ x m)) B;have Q:=iw_ 0 (er_ l bs) B;have A:∀ {x:Ax} {j:Nat},x∈l->x.pieces (j:Int)=qI x j:=λm=>(AM_ hok hC m).symm
  have H:iG_ P (bE_ 0 (er_ l bs)):=λz v=>by
    obtain⟨i,x,G,m,v⟩:=(h.mem z).1 v;obtain⟨y,E,rfl⟩:=yas_.1 v;obtain⟨j,J⟩:=yaU_ (jX_.2 ⟨i,m,G⟩);refine⟨rG_ j y,(pO_ _ _ _).2 ⟨j,x,J,?_⟩,(i:Int),rfl⟩;rw[yba_,A (yac_ m)];exact yaI_ E
  have K:iG_ (bE_ 0 (er_ l bs)) P:=λz v=>by
    obtain⟨j,x,J,v⟩:=(pO_ _ _ _).1 v;obtain⟨i,m,G⟩:=jX_.1 (yac_ J);rw[yba_,A (yac_ m)]at v;obtain⟨y,E,rfl⟩:=yas_.1 v;exact⟨rG_ i y,(h.mem _).2 ⟨i,x,G,m,yaI_ E⟩,(j:Int),rfl⟩
  obtain⟨I,C,F⟩:=vR_ H K L M L.good.1 (tl_ zaa_ λz v=>(N z v).2.2.2) zac_ zac_;exact⟨F.symm,I,C⟩
end
end Go.Proofs.YtfjcabalehamcaaGreatDoor
namespace Go.Proofs.YtfjcabalehamcaaGreatDoor
open Go Go.Sx Go.Proofs Tryz
attribute [local irreducible] Code.wp wpList wpAnyH
open Go.Vs
theorem Az_ {ad:Ao} {cap:Nat} {l:List Ax} {i:Nat} {x:Ax} {v:Vw} (m:l[i]? = some x) (h:(cI_ ad l).p v) (A:l.length<=cap):(cI_ (sad ad cap i 16) [x]).p v :=
  ⟨by have q:=h.1.slice Ax.cells_len A i 1;rw[hI_ m,ybd_,ycu_]at q;exact q,λy d=>by rw[yak_]at d;subst d;exact h.2 _ (yac_ m)⟩
theorem wV_ {X:List PL} {y:PL} {v:Vw} (h:(plF X).p v) (m:bl_ v y.ad (y.l.flatMap Pc.cells)):(plF (X++[y])).p v:=λz d=>by
  rw[yag_,yak_]at d;exact d.elim (h z) λe=>e▸m
theorem rel2 {P:Nat->Ax->PL->Prop} {l:List Ax} {X:List PL} {i:Nat} {f:Ax} {y:PL} (h:∀ (j:Nat) g z,l[j]? = some g->X[j]? = some z->P j g z) (hl:X.length=i) (v:l[i]? = some f) (x:P i f y):∀ (j:Nat) g z,l[j]? = some g->(X++[y])[j]? = some z->P j g z:=λj g z m d=>by
 by_cases e:j<X.length
 .rw[yaK_ e]at d;exact h j g z m d
 have A:j=i:=by have:=(yab_.1 d).1;simp at this;omega
 subst A;rw[yaG_ zaa_,hl,ycP_]at d;rw[v]at m;cases m;cases d;exact x
theorem zy_ {x:Ax} {p:List Pc} {e:Int} (h:aI_ [x]=(p,e)) (d:e=0):x.check=0/\p=x.pieces 0:=by
 rw[rc_]at h
 split at h
 .cases h;exact⟨by assumption,rfl⟩
 cases h;exact absurd d zae_
theorem vd_ (l:List Ax) (ad:Ao) (cap:Nat) (m:l.length<=12) (d:∀ x∈l,x.ok) {p:List Pc} {er:Int} (e:aI_ l=(p,er)) :
    Tri prog 6 #[.slice ad l.length cap] [] [cI_ ad l,bB_] (λy:{y:Ao×Nat // p.length<=y.2/\y.2<=maxLen/\(y.1=none->y.2=0)}=>.tuple #[.slice y.1.1 p.length y.1.2,i4_ er]) (λ_=>[]) (λy=>[L_ y.1.1 (p.flatMap Pc.cells)]):=by
  have h:=kO_ l ad cap zaa_ d;rw[e]at h;exact h
theorem st_nil {w:Wk} {e:Int} (h:eG_ [] 1073741824 w e):e=0/\w.ps=[]/\w.ok/\cC_ w.ps 1073741824 w.cl 0:=by
  have v:=h;obtain⟨c,m,_⟩:=h;obtain⟨rfl,_⟩:=ku_ (A:=[[33],[42]]) (n:=3) (rX_ zac_ zaq_ zaq_) zaq_ zaq_ zaq_ m;obtain⟨a,b,d⟩:=v.good;exact⟨rfl,a,b,a▸d⟩
theorem zi_ (c d:Cl) (m:c.atoms.length<=1000000000000) (y:c.facts.length<=1000000000000) (x:c.atoms=d.atoms) (v:c.facts=d.facts):Tri prog 12 #[c.val,d.val] [] [L_ c.aad (c.atoms.flatMap ar_),L_ c.fad (c.facts.flatMap Fc.cells),L_ d.aad (d.atoms.flatMap ar_),L_ d.fad (d.facts.flatMap Fc.cells)] (λ_:Unit=>.bool true) (λ_=>[]) (λ_=>[]):=by
  have h:=zl_ c d m y (x▸m) (v▸y);rw[yaE_ x,yaE_ v]at h;exact h
theorem elt_pl:Elt prog 26 27 1 24:=gA_ underlying26 (z:=.slice none 0 0) zad_ rfl zac_
theorem PL.cells_one (y:PL):y.cells.all Value.oneCell'=true:=rfl
theorem dC_ {G:Prop} (h:G:=by
 exact ac_ results3 () rfl i_ zt):G:=h
theorem lf_ {G:Prop} (h:G:=by
 refine Zz 3 ?_;refine s_ 2 [6,7,8,9] zk zs (Zz 5 ?_);refine l_ 10 rfl zk (n_ 0 an_ rfl rfl rfl rfl rfl rfl (Zz 3 ?_));refine s_ 0 [11] zk zs (Zz 4 ?_);exact bS_ ⟨(R,a3),hge,hgi⟩ zl zp zf):G:=h
set_option maxHeartbeats 2000000 in
theorem topChanges_c (l:List Ax) (ad:Ao) (cap:Nat) (hcap:l.length<=cap/\cap<=2199023255488) (a6:∀ x∈l,x.ok) (S:List UInt8) (d:Ao) (C:Nat) (hSl:S.length<=140737488351232):Tri prog 3 #[.slice ad l.length cap,.slice d S.length C] [] [cI_ ad l,L_ d (S.flatMap u8C),bB_,dA_] (λ_:Unit=>.bool true) (λ_=>[]) (λ_=>[]):=by
 refine g_ func3 rfl rfl ntmps3 rfl λv_1=>?_;refine Zz 8 ?_;refine f_ (ps_) rfl i_ zf rfl λ_=>e_ (aH_ rfl) rfl (Zi 10 (λb9=>?_) λb9=>?_)
 .refine Zi 6 (λc2=>?_) λc2=>?_
  .refine Zi 7 (λhr_3=>?_) λhr_3=>?_
   .refine Zz 5 ?_
    refine M_ runUnderlying65 sizeOf22 zeroValue22 rfl rfl rfl rfl rfl rfl λb_1=>?_;refine aL_ (List.flatMap AL.cells [(AL.mk l ad cap)]) d_ rfl ?_;refine aP_ rfl rfl (f_ (AH_ [(AL.mk l ad cap)] (some ⟨b_1,0,none⟩) 1 (vS_ ⟨by dsimp only;omega,a6⟩) zai_) rfl i_ (λv _ h=>by exact⟨h.1,(al_one h.2.1),trivial⟩) rfl λlb=>?_);refine aP_ rfl rfl (e_ (aH_ rfl) rfl (Zz 3 ?_));cases lb
    .refine Zz 7 ?_
     exact dC_
    refine Zz 5 ?_;refine gR_ fX_ cj_ rfl λb_2=>t_ d_ (Zz 12 ?_)
    refine I_ (ι:={y:Nat×List PL×Value×Hp // y.1<=List.length l/\y.2.1.length=y.1/\(∀ (j:Nat) (x:Ax) (q:PL),l[j]? = some x->y.2.1[j]? = some q->(q.l=qI x j/\(q.l.length<=q.cap/\(q.ad=none->q.cap=0))))/\(∀ z_1∈List.take y.1 l,z_1.check=0)/\zR 27 1 PL.cells y.2.2.1 y.2.1 y.2.2.2}) (λy=>[(0,.slice ad l.length cap),(1,.slice d S.length C),(4,.bool false),(5,y.1.2.2.1),(48,i4_ (List.length l:Int)),(49,i4_ y.1.1)]) (λy=>(y.1.2.2.2)) (λy=>[plF y.1.2.1,L_ (some ⟨b_1,0,none⟩) (List.flatMap AL.cells [(AL.mk l ad cap)]),cI_ ad l,L_ d (S.flatMap u8C),bB_,dA_]) (λy=>l.length - y.1.1) ⟨((0:Nat),([]:List PL),(.slice (some ⟨b_2,0,none⟩) 0 0),[(b_2,.cells #[] 27 (0,0))]),by simp,rfl,(λj x q h_1 h_2=>by cases h_2),zai_,(ij_ b_2 27 1)⟩ zl af_ (λv _ h=>by exact⟨(show (plF ([]:List PL)).p v from λz hz=>by cases hz),h.1,h.2.1,h.2.2.1,h.2.2.2.1,h.2.2.2.2.1,trivial⟩) ?_;rintro ⟨⟨i,U,sv_Q,H_Q⟩,hi_i,hQl,hQ,hCi,c0⟩;dsimp only at hi_i hQl hQ hCi c0 ⊢;refine Zi 2 (λc1=>?_) λc1=>?_
    .refine Zz 7 ?_
     refine aZ_ c0 af_ λT a5 hqad hcqad hmqad hzqad=>?_;subst hqad;have hC:∀ x∈l,x.check=0:=λy I=>hCi y (by rw[yad_ zaa_];exact I)
     refine Zz 3 ?_;refine fn_ (n:=l.length) (by':=1) underlying33 (z:=(.bool false)) zk rfl zac_ rfl rfl zaa_ zaj_ rfl λsvB HrB hrB=>?_;have hqB:ad_ 4 1 svB (List.replicate l.length false).length (List.flatMap eJ_ (List.replicate l.length false)) HrB:=by rw[ycb_,<-gH_ eJ_];exact hrB
     refine Zz 4 ?_;refine t_ fc_ (aQ_ (f_ (mi_ ([]:List Pc) none 0 1073741824 (λy I=>by cases I) (yae_ _) zai_) rfl i_ (λv _ h=>by exact⟨.inl rfl,h.2.2.2.2.2.2.1,trivial⟩) rfl λ⟨⟨w_1,H⟩,b5⟩=>?_));dsimp only;refine t_ oC_ ?_;dsimp only at b5;obtain⟨rfl,b0,hk_1,hA_1⟩:=st_nil b5;refine Zz 3 ?_;refine u_ es_ rfl λJ=>n_ 0 an_ rfl rfl rfl rfl rfl rfl (Zz 7 ?_)
     refine e_ (aj_ (aM_ rfl rfl) (show _=Value.bool false from yah_ Value.bool zac_)) rfl (Zz 14 ?_);refine I_ (ι:={y:Nat×Wk×List Bool×Value×Hp // y.1<=List.length S/\TcI l y.2.2.1 y.2.1.ps/\y.2.1.ok/\cC_ y.2.1.ps 1073741824 y.2.1.cl 0/\zR 4 1 eJ_ y.2.2.2.1 y.2.2.1 y.2.2.2.2}) (λy=>[(0,.slice ad l.length cap),(1,.slice d S.length C),(4,.bool false),(5,.slice T U.length a5),(48,i4_ (List.length l:Int)),(49,i4_ i),(11,y.1.2.2.2.1),(12,zp_ J 0),(91,.slice d S.length C),(92,i4_ (List.length S:Int)),(93,i4_ y.1.1)]) (λy=>((J,.cells #[.slice (Wk.pad y.1.2.1) (Wk.ps y.1.2.1).length (Wk.pcap y.1.2.1),.slice (Cl.aad (Wk.cl y.1.2.1)) (Cl.atoms (Wk.cl y.1.2.1)).length (Cl.acap (Wk.cl y.1.2.1)),.slice (Cl.fad (Wk.cl y.1.2.1)) (Cl.facts (Wk.cl y.1.2.1)).length (Cl.fcap (Wk.cl y.1.2.1))] 39 (0,0))::y.1.2.2.2.2)) (λy=>[L_ (Wk.pad y.1.2.1) (List.flatMap Pc.cells (Wk.ps y.1.2.1)),L_ (Cl.aad (Wk.cl y.1.2.1)) (List.flatMap ar_ (Cl.atoms (Wk.cl y.1.2.1))),L_ (Cl.fad (Wk.cl y.1.2.1)) (List.flatMap Fc.cells (Cl.facts (Wk.cl y.1.2.1))),cI_ ad l,L_ d (S.flatMap u8C),L_ T (U.flatMap PL.cells),plF U,bB_,dA_]) (λy=>S.length - y.1.1) ⟨((0:Nat),w_1,(List.replicate l.length false),svB,HrB),by simp,(by rw[b0];exact TcI.zero l),hk_1,hA_1,hqB⟩ zl zp zf ?_;rintro ⟨⟨j,w,bs,F,Y⟩,hi_j,hI,hk,hA,A⟩;dsimp only at hi_j hI hk hA A ⊢;have hwv:=hI.all a6 hC zaa_;have hwl:=(kv_ hA.good.1).1;have hwf:=hA.len;have hbl:=hI.len;refine Zi 2 (λW=>?_) λW=>?_
     .refine Zz 12 ?_
      exact dC_
     have d2:j<S.length:=by omega
     obtain⟨d3,hc_1⟩:∃ H,S[j]? = some H:=⟨_,yaa_ d2⟩;refine Zz 16 ?_;obtain⟨ix,hix⟩:∃ k,k=UInt8.toNat d3%l.length:=⟨_,rfl⟩;have d0:ix<l.length:=by rw[hix];exact Nat.mod_lt _ zaa_
     have hcb:=UInt8.toNat_lt d3;have hlw_1:ix<bs.length:=by omega
     obtain⟨m,K⟩:∃ H,bs[ix]? = some H:=⟨_,yaa_ hlw_1⟩;have hmw_1:m∈bs:=yac_ K;have a7:ix<l.length:=d0;obtain⟨P,Q⟩:∃ H,l[ix]? = some H:=⟨_,yaa_ a7⟩;have a8:P∈l:=yac_ Q;have hlq_1:ix<U.length:=by omega
     obtain⟨b6,O⟩:∃ H,U[ix]? = some H:=⟨_,yaa_ hlq_1⟩;have hmq_1:b6∈U:=yac_ O;obtain⟨a0,hq1c,hq1z⟩:=hQ ix P b6 Q O;obtain⟨hq1l,hq1v⟩:=AL_ (i:=ix) a6 hC a8 zaa_;refine Zz 2 ?_;refine e_ (yH_ underlying5 o_ rfl (bW_ zaa_ zaa_)) rfl (Zz 2 ?_);refine e_ (aj_ (yE_ rfl rfl zaa_ (show IntKind.wrap .i64 ((UInt8.toNat d3%l.length:Nat):Int)=_ from bW_ zaa_ (by have:=d0;rw[hix]at this;omega))) (show i4_ ((UInt8.toNat d3%l.length:Nat):Int)=i4_ ix by rw[hix])) rfl ?_;refine Zz 10 ?_;refine u_ es_ rfl λd1=>Zz 7 ?_
     refine e_ (aE_ A dc_ co_ rfl rfl zaa_ zaa_) rfl (e_ (bA_ A zp oP_ rfl (y_ dR_ K 0 _ rfl)) rfl (Zz 2 ?_));let Pu:Hp:=((J,.cells #[.slice (Wk.pad w) (Wk.ps w).length (Wk.pcap w),.slice (Cl.aad (Wk.cl w)) (Cl.atoms (Wk.cl w)).length (Cl.acap (Wk.cl w)),.slice (Cl.fad (Wk.cl w)) (Cl.facts (Wk.cl w)).length (Cl.fcap (Wk.cl w))] 39 (0,0))::Y);refine eg_ (ι:={y:Wk×Int // (y.2=0\/y.2=2)/\(y.2=0->TcI l (List.set bs ix (!m)) y.1.ps/\y.1.ok/\cC_ y.1.ps 1073741824 y.1.cl 0)}) (λy=>[(0,.slice ad l.length cap),(1,.slice d S.length C),(4,.bool false),(5,.slice T U.length a5),(48,i4_ (List.length l:Int)),(49,i4_ i),(11,F),(12,zp_ J 0),(91,.slice d S.length C),(92,i4_ (List.length S:Int)),(93,i4_ j),(16,i4_ ix),(17,i4_ y.1.2),(18,zp_ d1 0)]) (λy=>((d1,.cells #[.slice (Wk.pad y.1.1) (Wk.ps y.1.1).length (Wk.pcap y.1.1),.slice (Cl.aad (Wk.cl y.1.1)) (Cl.atoms (Wk.cl y.1.1)).length (Cl.acap (Wk.cl y.1.1)),.slice (Cl.fad (Wk.cl y.1.1)) (Cl.facts (Wk.cl y.1.1)).length (Cl.fcap (Wk.cl y.1.1))] 39 (0,0))::Pu)) (λy=>[L_ (Wk.pad y.1.1) (List.flatMap Pc.cells (Wk.ps y.1.1)),L_ (Cl.aad (Wk.cl y.1.1)) (List.flatMap ar_ (Cl.atoms (Wk.cl y.1.1))),L_ (Cl.fad (Wk.cl y.1.1)) (List.flatMap Fc.cells (Cl.facts (Wk.cl y.1.1))),L_ (Wk.pad w) (List.flatMap Pc.cells (Wk.ps w)),L_ (Cl.aad (Wk.cl w)) (List.flatMap ar_ (Cl.atoms (Wk.cl w))),L_ (Cl.fad (Wk.cl w)) (List.flatMap Fc.cells (Cl.facts (Wk.cl w))),cI_ ad l,L_ d (S.flatMap u8C),L_ T (U.flatMap PL.cells),plF U,bB_,dA_]) ?_ ?_
     .cases m
      .refine ei_ rfl ?_
       refine V_ Pu zk ?_;refine s_ 7 [0,1,2,3,4] zk zs (Zz 6 ?_);refine l_ 5 rfl zk (f_ (add_c w (PL.l b6) (PL.ad b6) (PL.cap b6) 1073741824 (λy I=>(hwv y I).1) hk.al hk.az hwl zaa_ (λy I=>by rw[a0]at I;exact (hq1v y I).1) hq1c hq1z (by rw[a0];omega)) rfl i_ (λv _ h=>by exact⟨h.1,h.2.1,h.2.2.1,(h.2.2.2.2.2.2.1 b6 hmq_1),h.2.2.2.2.2.2.2.2.1,trivial⟩) rfl λ⟨⟨R,g_1,gad,gcp,a3⟩,hR,hRk⟩=>?_);dsimp only;dsimp only at hR hRk;obtain⟨hge,Z⟩:=tc_add (by rw[a0];exact hq1l) (λz hz=>(hq1v z (a0▸hz)).2) (λz hz=>(hwv z hz).2) hR;have hgi:a3=0->TcI l (List.set bs ix true) R.ps/\R.ok/\cC_ R.ps 1073741824 R.cl 0:=λhe=>by rw[(Z he).1];exact⟨a0▸hI.add Q,(Z he).2.1,(Z he).1▸(Z he).2.2⟩
       exact lf_
      refine bG_ rfl ?_;refine V_ Pu zk ?_;refine s_ 8 [0,1,2,3] zk zs (Zz 5 ?_);refine l_ 4 rfl zk (f_ (of_c (Wk.ps w) (Wk.pad w) (Wk.pcap w) (ix:Int) zaa_) rfl i_ zf rfl λ⟨⟨oad,ocap⟩,hof_1,hof_2⟩=>?_);dsimp only;have hofl:=pw_ (ix:Int) (Wk.ps w) 0;refine Zz 3 ?_;refine l_ 5 rfl zk (f_ (qR_ w (ofs (ix:Int) 0 (Wk.ps w)) oad ocap 1073741824 (λy I=>(hwv y I).1) hk.al hk.az hwl zaa_ zaa_) rfl i_ zf rfl λ⟨⟨R,g_1,gad,gcp,a3⟩,hR,hRk⟩=>?_);dsimp only;dsimp only at hR hRk;obtain⟨hge,Z⟩:=tc_rem (i:=ix) hA hR;have hgi:a3=0->TcI l (List.set bs ix false) R.ps/\R.ok/\cC_ R.ps 1073741824 R.cl 0:=λhe=>by rw[(Z he).1];exact⟨hI.rem d0,(Z he).2.1,(Z he).1▸(Z he).2.2⟩
      exact lf_
     rintro ⟨⟨B,a3⟩,hye,hyI⟩;dsimp only at hye hyI ⊢;refine Zi 5 (λb4=>?_) λb4=>?_
     .obtain⟨hI_1,hk_2,b3⟩:=hyI (by simpa using b4)
      have hyl:=(kv_ b3.good.1).1;refine Zz 6 ?_;let Qu:Array Value:=#[.slice (Wk.pad B) (Wk.ps B).length (Wk.pcap B),.slice (Cl.aad (Wk.cl B)) (Cl.atoms (Wk.cl B)).length (Cl.acap (Wk.cl B)),.slice (Cl.fad (Wk.cl B)) (Cl.facts (Wk.cl B)).length (Cl.fcap (Wk.cl B))];refine eg_ (ι:={y:Value×Hp // zR 4 1 eJ_ y.1 (List.set bs ix (!m)) y.2}) (λy=>[(0,.slice ad l.length cap),(1,.slice d S.length C),(4,.bool false),(5,.slice T U.length a5),(48,i4_ (List.length l:Int)),(49,i4_ i),(11,y.1.1),(12,zp_ J 0),(91,.slice d S.length C),(92,i4_ (List.length S:Int)),(93,i4_ j)]) (λy=>((J,.cells Qu 39 (0,0))::((d1,.cells Qu 39 (0,0))::y.1.2))) (λy=>[L_ (Wk.pad B) (List.flatMap Pc.cells (Wk.ps B)),L_ (Cl.aad (Wk.cl B)) (List.flatMap ar_ (Cl.atoms (Wk.cl B))),L_ (Cl.fad (Wk.cl B)) (List.flatMap Fc.cells (Cl.facts (Wk.cl B))),L_ (Wk.pad w) (List.flatMap Pc.cells (Wk.ps w)),L_ (Cl.aad (Wk.cl w)) (List.flatMap ar_ (Cl.atoms (Wk.cl w))),L_ (Cl.fad (Wk.cl w)) (List.flatMap Fc.cells (Cl.facts (Wk.cl w))),cI_ ad l,L_ d (S.flatMap u8C),L_ T (U.flatMap PL.cells),plF U,bB_,dA_]) ?_ ?_
      .refine V_ ((d1,.cells Qu 39 (0,0))::[]) zk ?_
       refine s_ 5 [0,1,2,3,4,5] zk zs (Zz 5 ?_);refine S_ rfl (aE_ A dc_ co_ rfl rfl zaa_ zaa_) rfl (bt_ ?_);refine do_ 6 8 rfl rfl zk ?_ ?_
       .refine e_ (bA_ A zp oP_ rfl (y_ dR_ K 0 _ rfl)) rfl (Zz 3 ?_)
        refine s_ 3 [7] zk zs (S_ rfl (aH_ rfl) rfl (bt_ (l_ 8 rfl zk (n_ 1 an_ rfl rfl rfl rfl rfl rfl (Zz 3 ?_)))));refine s_ 1 [9] zk zs (S_ rfl (aE_ A dc_ co_ rfl rfl zaa_ zaa_) rfl (bt_ (l_ 10 rfl zk (cv_ (k:=(ix:Int).toNat*1+0) A (c_ E_) co_ rfl rfl zaa_ rfl rfl λG b9=>?_))));have a2:=(ek_ eJ_ 1 dR_ bs ix 0 m (!m) (.bool (!m)) K zac_ rfl).trans (yah_ _ (rfl));have O:ad_ 4 1 F (List.set bs ix (!m)).length (List.flatMap eJ_ (List.set bs ix (!m))) G:=by rw[<-a2,show List.length (List.set bs ix (!m))=bs.length from (yaT_ ..)];exact b9
        refine Zz 5 ?_;exact bS_ ⟨(F,G),O⟩ zl zp zf
       refine n_ 1 an_ rfl rfl rfl rfl rfl rfl (Zz 3 ?_);refine l_ 6 rfl zk (e_ (bA_ A (c_ E_) oP_ rfl (y_ dR_ K 0 _ rfl)) rfl (Zz 3 ?_));refine s_ 1 [7,9] zk zs (S_ rfl (aH_ rfl) rfl (S_ rfl (aE_ A dc_ co_ rfl rfl zaa_ zaa_) rfl (bt_ (l_ 10 rfl zk (cv_ (k:=(ix:Int).toNat*1+0) A (c_ E_) co_ rfl rfl zaa_ rfl rfl λG c2=>?_)))));have a2:=(ek_ eJ_ 1 dR_ bs ix 0 m (!m) (.bool (!m)) K zac_ rfl).trans (yah_ _ (rfl));have N:ad_ 4 1 F (List.set bs ix (!m)).length (List.flatMap eJ_ (List.set bs ix (!m))) G:=by rw[<-a2,show List.length (List.set bs ix (!m))=bs.length from (yaT_ ..)];exact c2
       refine Zz 5 ?_;exact bS_ ⟨(F,G),N⟩ zl zp zf
      rintro ⟨⟨F,Y⟩,A⟩;dsimp only at A ⊢;refine bh_ [(0,.slice ad l.length cap),(1,.slice d S.length C),(4,.bool false),(5,.slice T U.length a5),(48,i4_ (List.length l:Int)),(49,i4_ i),(11,F),(12,zp_ J 0),(91,.slice d S.length C),(92,i4_ (List.length S:Int)),(93,i4_ j)] zl ?_;refine Zz 3 ?_;refine gR_ as_ ab_ rfl λb_5=>t_ d_ (Zz 4 ?_)
      refine t_ (X_ (j_ d_) (be_ (j_ d_))) (Zz 8 ?_);refine I_ (ι:={y:Nat×Value×Hp×Value×Hp // y.1<=List.length l/\zR 51 16 Ax.cells y.2.1 (er_ (l.take y.1) (List.set bs ix (!m))) y.2.2.1/\zR 4 1 eJ_ y.2.2.2.1 (List.set bs ix (!m)) y.2.2.2.2}) (λy=>[(0,.slice ad l.length cap),(1,.slice d S.length C),(4,.bool false),(5,.slice T U.length a5),(48,i4_ (List.length l:Int)),(49,i4_ i),(11,y.1.2.2.2.1),(12,zp_ J 0),(91,.slice d S.length C),(92,i4_ (List.length S:Int)),(93,i4_ j),(19,y.1.2.1),(145,i4_ (List.length l:Int)),(146,i4_ y.1.1)]) (λy=>((J,.cells #[.slice (Wk.pad B) (Wk.ps B).length (Wk.pcap B),.slice (Cl.aad (Wk.cl B)) (Cl.atoms (Wk.cl B)).length (Cl.acap (Wk.cl B)),.slice (Cl.fad (Wk.cl B)) (Cl.facts (Wk.cl B)).length (Cl.fcap (Wk.cl B))] 39 (0,0))::(y.1.2.2.1++y.1.2.2.2.2))) (λy=>[L_ (Wk.pad B) (List.flatMap Pc.cells (Wk.ps B)),L_ (Cl.aad (Wk.cl B)) (List.flatMap ar_ (Cl.atoms (Wk.cl B))),L_ (Cl.fad (Wk.cl B)) (List.flatMap Fc.cells (Cl.facts (Wk.cl B))),L_ (Wk.pad w) (List.flatMap Pc.cells (Wk.ps w)),L_ (Cl.aad (Wk.cl w)) (List.flatMap ar_ (Cl.atoms (Wk.cl w))),L_ (Cl.fad (Wk.cl w)) (List.flatMap Fc.cells (Cl.facts (Wk.cl w))),cI_ ad l,L_ d (S.flatMap u8C),L_ T (U.flatMap PL.cells),plF U,bB_,dA_]) (λy=>l.length - y.1.1) ⟨((0:Nat),(.slice (some ⟨b_5,0,none⟩) 0 0),[(b_5,.cells #[] 51 (0,0))],F,Y),by simp,(ij_ b_5 51 16),A⟩ zl zp zh ?_;rintro ⟨⟨k,b2,b8,F,Y⟩,b7,M,A⟩;dsimp only at b7 M A ⊢;have hrk:=jY_ (l.take k) (List.set bs ix (!m));rw[yat_]at hrk;refine Zi 2 (λa1=>?_) λa1=>?_
      .refine Zz 7 ?_
       have e9k:List.take k l=l:=yad_ zaa_;have V:ad_ 51 16 b2 (er_ l (List.set bs ix (!m))).length (List.flatMap Ax.cells (er_ l (List.set bs ix (!m)))) b8:=by have q:=M;rwa [e9k]at q
       have hrl:=jY_ l (List.set bs ix (!m));refine aZ_ V (c_ x_) λrad rcap hrad hcrad hmrad hzrad=>?_;subst hrad;refine gS_ (Γ':=cI_ rad (er_ l (List.set bs ix (!m)))::[L_ rad (List.flatMap Ax.cells (er_ l (List.set bs ix (!m)))),L_ (Wk.pad B) (List.flatMap Pc.cells (Wk.ps B)),L_ (Cl.aad (Wk.cl B)) (List.flatMap ar_ (Cl.atoms (Wk.cl B))),L_ (Cl.fad (Wk.cl B)) (List.flatMap Fc.cells (Cl.facts (Wk.cl B))),L_ (Wk.pad w) (List.flatMap Pc.cells (Wk.ps w)),L_ (Cl.aad (Wk.cl w)) (List.flatMap ar_ (Cl.atoms (Wk.cl w))),L_ (Cl.fad (Wk.cl w)) (List.flatMap Fc.cells (Cl.facts (Wk.cl w))),cI_ ad l,L_ d (S.flatMap u8C),L_ T (U.flatMap PL.cells),plF U,bB_,dA_]) (λv _ h=>⟨⟨h.1,λy I=>(h.2.2.2.2.2.2.2.1).2 y (fl_ y I)⟩,h⟩) ?_;refine Zz 2 ?_;refine f_ (kN_ (er_ l (List.set bs ix (!m))) rad rcap zaa_ (λy I=>a6 y (fl_ y I)) (λy I=>hC y (fl_ y I)) rfl) rfl i_ (λv _ h=>by exact⟨h.1,h.2.2.2.2.2.2.2.2.2.2.2.2.1,trivial⟩) rfl λ⟨⟨pad_1,pcp_1⟩,hpc_1,hpm_1,hpz_1⟩=>?_;dsimp only;dsimp only at hpc_1 hpm_1 hpz_1;have hfl_1:=iw_ 0 (er_ l (List.set bs ix (!m))) (λy I=>hC y (fl_ y I));refine Zz 10 ?_;refine f_ (us_ (bE_ 0 (er_ l (List.set bs ix (!m)))) pad_1 pcp_1 1073741824 (λz hz=>(ix_ (er_ l (List.set bs ix (!m))) 0 zaa_ (λy I=>a6 y (fl_ y I)) (λy I=>hC y (fl_ y I)) z hz).2.2.1) zaa_) rfl i_ (λv _ h=>by exact⟨h.1,h.2.2.2.2.2.2.2.2.2.2.2.2.2.2.1,trivial⟩) rfl λ⟨⟨d_1,e_3⟩,hD⟩=>?_;dsimp only;dsimp only at hD;have hAl:=b3.len;obtain⟨rfl,hsa,hsf⟩:=yQ_ a6 hC zaa_ hI_1 b3 hD;refine Zz 3 ?_;refine u_ gk_ rfl λb_6=>n_ 0 aW_ rfl rfl rfl rfl rfl rfl (Zz 6 ?_)
       refine e_ (aj_ (aM_ rfl rfl) (show _=Value.bool false from yah_ Value.bool zac_)) rfl (Zz 4 ?_);refine e_ (aj_ (aM_ rfl rfl) (show _=Value.bool false from yah_ Value.bool zac_)) rfl (Zz 9 ?_);refine f_ (zi_ (Wk.cl B) d_1 zaa_ zaa_ hsa hsf) rfl i_ zf rfl λ_=>aP_ rfl rfl (e_ (aH_ rfl) rfl (Zz 11 ?_))
       exact C_ ⟨(j+1,B,(List.set bs ix (!m)),F,Y),d2,hI_1,hk_2,b3,A⟩ zab_ zl (m_ (c_ d_) E_) zf
      have a9:k<l.length:=by omega
      obtain⟨x_2,hx_2⟩:∃ H,l[k]? = some H:=⟨_,yaa_ a9⟩;have hlw_2:k<List.length (List.set bs ix (!m)):=by rw[yaT_];omega
      obtain⟨w_3,V⟩:∃ H,(List.set bs ix (!m))[k]? = some H:=⟨_,yaa_ hlw_2⟩;have hmw_2:w_3∈(List.set bs ix (!m)):=yac_ V;refine Zz 18 ?_;refine e_ (aE_ A dc_ co_ rfl rfl zaa_ zaa_) rfl (e_ (bA_ A zp oP_ rfl (y_ dR_ V 0 _ rfl)) rfl (Zz 2 ?_));cases w_3
      .refine Zz 8 ?_
       exact C_ ⟨(k+1,b2,b8,F,Y),a9,(by have q:=M;rw[kJ_ hx_2 V,yaf_ zac_,yaL_];exact q),A⟩ zab_ zl (m_ d_ (G_ x_ af_)) zh
      refine Zz 7 ?_;refine M_ as_ ab_ aK_ rfl rfl rfl rfl rfl rfl λb_6=>?_;refine am_ (news:=List.flatMap Ax.cells [x_2]) pV_ M rfl rfl zp rfl (ba_ 0 rfl) (λu hu=>aG_ Ax.cells_one hu) zan_ zar_ rfl λa4 G c1=>?_;have N:=zsa c1;refine Zz 3 ?_;refine t_ (X_ (j_ d_) (be_ (j_ d_))) (Zz 5 ?_);exact C_ ⟨(k+1,a4,G,F,Y),a9,(by have q:=N;rw[kJ_ hx_2 V,yaq_ rfl];exact q),A⟩ zab_ zl (m_ (c_ d_) (G_ (c_ x_) E_)) zh
     refine Zi 6 (λa1=>?_) λa1=>?_
     .exfalso;omega
     refine Zz 8 ?_;exact dC_
    obtain⟨a7,P,Q,a8⟩:=zge (show i<l.length by omega);refine Zz 15 ?_;obtain⟨E,H,b0⟩:∃ p e,aI_ [P]=(p,e):=⟨_,_,rfl⟩;refine Zz 4 ?_;refine e_ (aj_ (bf_ rfl rfl rfl (bW_ zaa_ zaa_)) (show i4_ ((i:Int)+1)=i4_ ((i+1:Nat):Int) from yah_ _ zaa_)) rfl (e_ (aj_ (di_ (i:=i) (j:=i+1) (kl:=.i64) (kh:=.i64) as_ ab_ rfl rfl rfl zaa_ zaa_) (show _=Value.slice (sad ad cap i 16) (List.length [P]) (cap - i) by rw[Nat.add_sub_cancel_left];rfl)) rfl ?_);refine f_ (vd_ [P] (sad ad cap i 16) (cap - i) zai_ (λy I=>by rw[yak_]at I;rw[I];exact a6 P a8) b0) rfl i_ (λv _ h=>by exact⟨(Az_ Q h.2.2.1 hcap.1),h.2.2.2.2.1,trivial⟩) rfl λ⟨⟨pad,pcap⟩,hpc,hpm,hpz⟩=>?_;dsimp only;refine t_ oC_ ?_;dsimp only at hpc hpm hpz;refine Zi 11 (λW=>?_) λW=>?_
    .have he_1:H=0:=by simpa using W
     obtain⟨hx1c,hp1e⟩:=zy_ b0 he_1;have hp1l:E.length<=1000:=by rw[hp1e];exact fZ_ 0 (Ax.good_of hx1c)
     refine Zz 7 ?_;refine gR_ z_ A_ rfl λJ=>t_ d_ (Zz 1 ?_)
     refine cS_ (news:=List.flatMap Pc.cells E) iA_ (ij_ J 32 10) rfl rfl hpz hpc x_ zaD_ zf (λu hu=>aG_ Pc.cells_one hu) zan_ zar_ rfl λa4 G b4=>?_;have O:ad_ 32 10 a4 (List.length (([]:List Pc)++E)) (List.flatMap Pc.cells (([]:List Pc)++E)) G:=by rw[yaj_,yaW_];exact b4
     refine Zz 7 ?_;refine e_ (bU_ O z_ rfl) rfl (Zz 4 ?_);have b5:ad_ 32 10 a4 (fmL i 0 E).length (List.flatMap Pc.cells (fmL i 0 E)) G:=by have q:=O;exact q
     refine I_ (ι:={y:Nat×Value×Hp // y.1<=List.length E/\zR 32 10 Pc.cells y.2.1 (fmL i y.1 E) y.2.2}) (λy=>[(0,.slice ad l.length cap),(1,.slice d S.length C),(4,.bool false),(5,sv_Q),(48,i4_ (List.length l:Int)),(49,i4_ i),(6,i4_ i),(9,y.1.2.1),(67,i4_ (List.length E:Int)),(66,y.1.2.1),(68,i4_ y.1.1)]) (λy=>(H_Q++y.1.2.2)) (λy=>[L_ pad (E.flatMap Pc.cells),plF U,L_ (some ⟨b_1,0,none⟩) (List.flatMap AL.cells [(AL.mk l ad cap)]),cI_ ad l,L_ d (S.flatMap u8C),bB_,dA_]) (λy=>E.length - y.1.1) ⟨((0:Nat),a4,G),by simp,b5⟩ zl zp zh ?_;rintro ⟨⟨k,X,H_Rpc⟩,b7,L⟩;dsimp only at b7 L ⊢;refine Zi 2 (λa1=>?_) λa1=>?_
     .refine Zz 6 ?_
      have K:ad_ 32 10 X (qI P i).length (List.flatMap Pc.cells (qI P i)) H_Rpc:=by have q:=L;rw[Aj_ zaa_,hp1e]at q;exact q
      refine aZ_ K bg_ λzad zcap hzad hczad hmzad hzzad=>?_;subst hzad;refine Zz 3 ?_;refine M_ fX_ cj_ bu_ rfl rfl rfl rfl rfl rfl λd1=>?_;refine am_ (news:=List.flatMap PL.cells [(PL.mk (qI P i) zad zcap)]) elt_pl c0 rfl rfl E_ rfl (ba_ 0 rfl) (λu hu=>aG_ PL.cells_one hu) zan_ zar_ rfl λsv_2 b1 hr_8=>?_;refine t_ yax_ ?_;have N:=zsa hr_8;refine Zz 8 ?_;exact C_ ⟨(i+1,(U++[(PL.mk (qI P i) zad zcap)]),sv_2,b1),a7,(by rw[yaj_,hQl];rfl),(rel2 hQ hQl Q ⟨rfl,hczad,hzzad⟩),(λy I=>by rw[tk1 Q,yag_,yak_]at I;exact I.elim (hCi y) λe=>e▸hx1c),N⟩ zab_ zl E_ (λv _ h=>by exact⟨(wV_ h.2.2.1 h.1),h.2.2.2.1,h.2.2.2.2.1,h.2.2.2.2.2.1,h.2.2.2.2.2.2.1,h.2.2.2.2.2.2.2.1,trivial⟩)
     have hkT:k<E.length:=by omega
     have hkl:k<List.length (fmL i k E):=by rw[pN_];exact hkT
     have hlz_1:k<List.length (fmL i k E):=hkl;obtain⟨z_2,hz_1⟩:∃ a3,(fmL i k E)[k]? = some a3:=⟨_,yaa_ hlz_1⟩;have hlz_2:k<E.length:=hkT;refine Zz 18 ?_;refine e_ (aE_ L z_ A_ rfl rfl zaa_ zaa_) rfl (Zz 1 ?_);refine cv_ (k:=(k:Int).toNat*10+9) L bg_ K_ rfl rfl zaa_ rfl rfl λb1 W=>?_;have a2:=(ek_ Pc.cells 10 Pc.cells_len (fmL i k E) k 9 z_2 (rG_ i z_2) (i4_ i) hz_1 zac_ rfl).trans (yah_ _ (xT_ (by rw[<-Ai_ (i:=i) hkT];exact hz_1)));have N:ad_ 32 10 X (fmL i (k+1) E).length (List.flatMap Pc.cells (fmL i (k+1) E)) b1:=by rw[<-a2,show List.length (fmL i (k+1) E)=List.length (fmL i k E) from (pN_ ..).trans (pN_ ..).symm];exact W
     refine Zz 7 ?_;exact C_ ⟨(k+1,X,b1),hlz_2,N⟩ zab_ zl zp zh
    refine Zz 9 ?_;exact dC_
   refine Zz 16 ?_;exact dC_
  refine Zz 21 ?_;exact dC_
 refine Zz 25 ?_;exact dC_
end Go.Proofs.YtfjcabalehamcaaGreatDoor
