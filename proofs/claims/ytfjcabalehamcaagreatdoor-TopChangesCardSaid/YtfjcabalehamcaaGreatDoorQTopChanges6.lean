/-
  Lemmas for the law TopChanges (no condition).
-/
import Derived.Test.YtfjcabalehamcaaGreatDoorQTopChanges5
import Derived.ProofKit
import Derived.OpenShut
import Derived.ReadAgain
import Derived.Deep.Slices
import Derived.SevenTiedAt
import Derived.Stop.Joined
import Derived.Lay
import Derived.LaidMore
import Derived.Lib.SlicesCompact
import Derived.Sort.EncStr
import Derived.Test.YtfjcabalehamcaaGreatDoorProg
import Derived.Lib.ItoaMem
import Derived.Laws.IdiomStrings
set_option linter.unusedVariables false
set_option linter.unusedSimpArgs false
set_option linter.unusedSectionVars false
set_option maxHeartbeats 1000000
namespace Go.Proofs.YtfjcabalehamcaaGreatDoor
open Go Go.Sx Go.Proofs Tryz
attribute [local irreducible] Code.wp wpList wpAnyH
open Go.Vs
abbrev GlT (x:Ax) (p:List Pc) (fs:List Fc) (er:Int):Prop:=Tri prog 46 #[x.val] [] [x.memF,bB_] (λy:{y:Ao×Nat×Ao×Nat // p.length<=y.2.1/\y.2.1<=maxLen/\fs.length<=y.2.2.2/\y.2.2.2<=maxLen/\(y.1=none->y.2.1=0)}=>.tuple #[.slice y.1.1 p.length y.1.2.1,.slice y.1.2.2.1 fs.length y.1.2.2.2,.int .i64 er]) (λ_=>[]) (λy=>[L_ y.1.1 (p.flatMap Pc.cells),L_ y.1.2.2.1 (fs.flatMap Fc.cells)])
theorem Af_ (x:Ax) (d:x.ok) (hc:x.check=0) (hk:(x.kind=1)):Tri prog 46 #[Ax.val x] [] [Ax.memF x,bB_] (λy:{y:Ao×Nat×Ao×Nat // x.goalP.1.length<=y.2.1/\y.2.1<=maxLen/\x.goalP.2.1.length<=y.2.2.2/\y.2.2.2<=maxLen/\(y.1=none->y.2.1=0)}=>.tuple #[.slice y.1.1 x.goalP.1.length y.1.2.1,.slice y.1.2.2.1 x.goalP.2.1.length y.1.2.2.2,i4_ x.goalP.2.2])
    (λ_=>[]) (λy=>[L_ y.1.1 (x.goalP.1.flatMap Pc.cells),L_ y.1.2.2.1 (x.goalP.2.1.flatMap Fc.cells)]):=by
  refine g_ func46 rfl rfl ntmps46 rfl λZ=>?_;refine Zz 2 ?_;refine F_ rfl rfl λb_1=>Zz 9 ?_
  refine f_ (fF_ x d) rfl i_ zf rfl λ_=>Zi 6 (λA=>?_) λA=>?_
  . have G:=Ax.good_of A;refine Zz 7 ?_;refine f_ (gb_ (-1)) rfl i_ zt rfl λ⟨kb,N⟩=>?_;dsimp only;refine t_ (@List.perm_append_comm _ _ [_]) (Zz 6 ?_);refine f_ (po_ kb) rfl i_ zt rfl λ⟨bk,W,X⟩=>?_;dsimp only;refine Zi 23 (λQ=>?_) λQ=>?_
    . exfalso;omega
    . obtain⟨fl,zl⟩:=Con.check_zero (G.left zaa_);obtain⟨fr,zr⟩:=Con.check_zero (G.right zaa_);refine Zz 9 ?_;refine s_ 4 [0,1,3,4] zk zs (Zz 5 ?_);refine l_ 2 rfl zk (f_ (bL_ x.left d.left) rfl i_ (λv _ h=>by exact⟨h.2.2.2.1.1,h.2.2.2.2.1,trivial⟩) rfl λ_=>Zz 3 ?_);refine l_ 5 rfl zk (f_ (bL_ x.right d.right) rfl i_ (λv _ h=>by exact⟨h.2.2.2.1.2.1,h.2.2.2.2.1,trivial⟩) rfl λ_=>Zz 3 ?_);refine s_ 0 [6,7] zk zs (Zz 10 ?_);refine M_ B_ U_ at_ rfl rfl rfl rfl rfl rfl λR=>?_;refine aL_ (List.flatMap ar_ [(Con.atom x.left),(Con.atom x.right)]) d_ rfl ?_;refine f_ (eX_ [(Con.atom x.left),(Con.atom x.right)] (some ⟨R,0,none⟩) 2 (-1) ([]:List Pc) ⟨.slice none 0 0,N,#[],0,[]⟩ ⟨ad_.nil _ _,rfl,by simp⟩ zai_ zam_) rfl zp zf rfl λ⟨T,L⟩=>?_;dsimp only;have M:=dw_ (-1) [(Con.atom x.left),(Con.atom x.right)] ([]:List Pc);refine t_ (@List.perm_append_comm _ _ [_]) ?_;simp only[yai_,yaB_]at M;refine Zz 7 ?_;refine T_ (ev_ (kb:=kb) (bk:=bk) (bs:=X) (frm:=(-1)) _ x.left (yae_ _) d.left fl (aw_ (-1) [(Con.atom x.left),(Con.atom x.right)] ([]:List Pc)) T L zaa_) rfl rfl zp (λv _ h=>by exact⟨h.2.2.2.2.1.1,h.2.2.2.2.2.1,h.2.1,h.2.2.2.1,trivial⟩) rfl λ⟨U,J⟩=>?_;dsimp only;have V:=Con.rightP_len (-1) _ x.left (yae_ _) (aw_ (-1) [(Con.atom x.left),(Con.atom x.right)] ([]:List Pc));refine t_ (@List.perm_append_comm _ _ [_]) (Zz 7 ?_);refine T_ (gd_ (kb:=kb) (bk:=bk) (bs:=W) (frm:=(-1)) _ x.right (yae_ _) d.right fr (Con.rightP (-1) x.left (aw_ (-1) [(Con.atom x.left),(Con.atom x.right)] ([]:List Pc))) U J zaa_) rfl rfl zp (λv _ h=>by exact⟨h.2.2.2.2.1.2.1,h.2.2.2.2.2.1,h.2.1,h.2.2.1,trivial⟩) rfl λ⟨S,B⟩=>?_;dsimp only;refine t_ (@List.perm_append_comm _ _ [_]) (Zz 7 ?_);refine T_ (hB_ (Con.atom x.left) (Con.atom x.right)) rfl rfl i_ zt rfl λ_=>M_ ai_ N_ W_ rfl rfl rfl rfl rfl rfl λI=>Zi 7 (λP=>?_) λP=>?_
      . refine Zz 18 ?_;refine aL_ (List.flatMap Fc.cells [(Fc.mk 1 (Con.atom x.left) (Con.atom x.right) [] 0 0)]) d_ rfl ?_;refine cd_ B.row (c_ (c_ (c_ af_))) λH m C F E=>?_
        have e:x.goalP=((Con.leftP (-1) x.right (Con.rightP (-1) x.left (aw_ (-1) [(Con.atom x.left),(Con.atom x.right)] ([]:List Pc)))),[(Fc.mk 1 (Con.atom x.left) (Con.atom x.right) [] 0 0)],0):=by
          unfold Ax.goalP;rw[yaf_ zaa_];repeat (first|rfl|(rw[yaq_ zaa_])|(rw[yaf_ zaa_]))
        have hy:x.goalP.1.length<=m/\m<=maxLen/\x.goalP.2.1.length<=1/\1<=maxLen/\(H=none->m=0):=by rw[e];exact⟨F,E,by simp,by decide,ad_.nilcap B.row C⟩
        have Y:Value.tuple #[S.sv,.slice (some ⟨I,0,none⟩) 1 1,i4_ 0]=.tuple #[.slice H x.goalP.1.length m,.slice (some ⟨I,0,none⟩) x.goalP.2.1.length 1,i4_ x.goalP.2.2]:=by
          rw[e,C]<;>rfl
        have K:List.flatMap Pc.cells (Con.leftP (-1) x.right (Con.rightP (-1) x.left (aw_ (-1) [(Con.atom x.left),(Con.atom x.right)] ([]:List Pc))))=x.goalP.1.flatMap Pc.cells:=by rw[e]
        have O:List.flatMap Fc.cells [(Fc.mk 1 (Con.atom x.left) (Con.atom x.right) [] 0 0)]=x.goalP.2.1.flatMap Fc.cells:=by rw[e]
        exact jZ_ dJ_ ⟨(H,m,(some ⟨I,0,none⟩),1),hy⟩ rfl rfl rfl Y i_ (λv _ h=>⟨K▸h.1,O▸h.2.1,trivial⟩)
      . exfalso;omega
  . exact absurd hc A
theorem ug_ {x:Ax} (d:x.ok) (y:x.check=0) (v:(x.kind=1)) {p:List Pc} {m:List Fc} {er:Int} (e:x.goalP=(p,m,er)):GlT x p m er:=by
  have h:=Af_ x d y v;unfold GlT;generalize x.goalP=g at h e
  subst e;exact h
end Go.Proofs.YtfjcabalehamcaaGreatDoor
namespace Go.Vs
open Go Go.Sx
def vw (W:World):Vw:=⟨λb=>b<W.heap.size,W,True⟩
theorem vw_sat (W:World):(vw W).sat []:=⟨(λ_ h=>by cases h),zai_,λ_ h=>h⟩
section
variable {H:Type} {enc:TypeId×Value->H} {P:Program} {W:World}
abbrev wok (l:List Nat):Prop:=l.all (·<=reachBytes)=true
theorem fT_ {a b:List Nat}:wok (a++b)↔wok a/\wok b:=by simp[wok,ycQ_]
theorem wb_ {n:Nat} {b:List Nat}:wok (n::b)↔n<=reachBytes/\wok b:=by simp[wok]
theorem wc_ {e:TypeId}:∀ {ds:List (DataW H)},wok (DataW.weightsAll P e ds)->∀ d∈ds,wok (d.weights P e)
 | [],_,_,h=>by cases h
 | x::ds,hw,d,m=>by
   rw[DataW.weightsAll,fT_]at hw;rcases yan_.1 m with rfl|m
   . exact hw.1
   . exact wc_ hw.2 d m
theorem mj_ {α:Type} [Inhabited α] (f:α->List Value) (k:Nat) (U:∀ x,(f x).length=k) (F:0<k) (Q:α->Prop) {ts I:TypeId} (hs:P.underlying ts=some (.slice I)) (hc:P.cellsOf I=k) {n:Nat} {cs:List Value} {x:DataW H×List MemPlace}
    (G:∀ m,m<n->∀ B y,DataW.trod enc P W 0 (λ_=>true) true m I B=some y->wok (y.1.weights P I)->∃ c,B=f c/\Q c)
    (h:DataW.trod enc P W 0 (λ_=>true) true n ts cs=some x) (hw:wok (x.1.weights P ts)) :
    ∃ (l:List α) (ad:Ao) (cap:Nat),cs=[.slice ad l.length cap]/\bl_ (vw W) ad (l.flatMap f)/\(∀ c∈l,Q c)/\l.length<=cap/\cap*P.bytesOf I<=reachBytes:=by
  rcases DataW.trod_slice hs h with⟨S,_⟩|⟨a,len,cap,E,rest,m,hn,rfl,rfl,_,hl,_,hlen,Y,hsp,_⟩
  . exact⟨[],none,0,S,.inl rfl,(λ_ h=>by cases h),yae_ _,by simp⟩
  . obtain⟨hr,_⟩:=hsp rfl
    simp only[DataW.weights,hs,wb_,fT_,yaO_]at hw
    have K:cap*P.bytesOf I<=reachBytes:=by
      have e:E.length+rest.length=cap:=by omega
      rw[<-e];exact hw.1
    have L:∀ i,i<len->∃ c:α,W.cells? 0 (a.add (i*k)) k=some (f c)/\Q c:=λi hi=>by
      have he:=Y i hi;rw[hc,yaa_ zaa_]at he;obtain⟨B,Z,h2⟩:=Option.bind_eq_some_iff.1 he;obtain⟨c,rfl,hq⟩:=G m zaa_ B _ h2 (wc_ hw.2.1 _ (yaI_ (ycm_ zaa_)));exact⟨c,Z,hq⟩
    obtain⟨C,R⟩:=Deep.choose_lt L;refine⟨(List.range len).map C,some a,cap,by simp,?_,?_,by simpa using hl,K⟩
    . by_cases S:len=0
      . left;simp[S]
      . have Z:=(R 0 zaa_).1
        obtain⟨_,_,d⟩:=World.cells?_some Z;have A:=d 0 F;have O:0<(f (C 0)).length:=by rw[U];exact F
        rw[yaa_ O]at A;cases hb:W.heap[a.block]? with
        | none=>simp[World.cell?,Addr.add,hb]at A
        | some o =>
          cases o with
          | cells arr T fz =>
            have v:a.spot=none:=by
              cases hsp2:a.spot with
              | none=>rfl
              | some s=>simp[World.cell?,Addr.add,hb,hsp2]at A
            obtain⟨b,off,sp⟩:=a;simp only at v hb;subst v;right
            refine⟨b,off,arr,T,fz,rfl,(yaD_.1 hb).1,hb,λj y hj=>?_⟩
            have N:j<len*k:=by
              have:=(yab_.1 hj).1;rw[cK_ f k U]at this;simpa using this
            have hi:j / k<len:=Nat.div_lt_of_lt_mul (by rw[Nat.mul_comm];exact N);have J:j%k<k:=Nat.mod_lt _ F;have e:j=(j / k)*k+j%k:=by rw[Nat.mul_comm];exact (Nat.div_add_mod j k).symm
            have M:((List.range len).map C)[j / k]? = some (C (j / k)):=by simp[hi]
            rw[e,kW_ f k U _ (j / k) (j%k) _ M J]at hj;obtain⟨_,_,d⟩:=World.cells?_some (R (j / k) hi).1;have:=d (j%k) J;rw[hj,de_,de_]at this;rw[e];simpa [World.cell?,hb,ycF_] using this
          | _=>simp[World.cell?,Addr.add,hb]at A
    . intro c V
      obtain⟨i,hi,rfl⟩:=yas_.1 V;exact (R i (by simpa using hi)).2
end
instance:Inhabited Con:=⟨.mk 0 [] 0 0 none 0 []⟩
instance:Inhabited Ax:=⟨⟨0,false,default,default,none,0,[],[],[],[]⟩⟩
instance:Inhabited Pc:=⟨⟨0,[],[],[],[],[],[],0,0,0⟩⟩
structure Tys (P:Program) (tI tB tS tSs tC tCs tA tAs tP tPs:TypeId):Prop where
  i:P.underlying tI=some (.int .i64)
  b:P.underlying tB=some .bool
  s:P.underlying tS=some .string
  ss:P.underlying tSs=some (.slice tS)
  c:∃ fs,P.underlying tC=some (.struct fs)/\fs.toList.map (λf=>(f.type,f.offset))=[(tI,0),(tS,1),(tI,2),(tI,3),(tCs,4)]
  cs:P.underlying tCs=some (.slice tC)
  a:∃ fs,P.underlying tA=some (.struct fs)/\fs.toList.map (λf=>(f.type,f.offset))=[(tI,0),(tB,1),(tC,2),(tC,7),(tSs,12),(tS,13),(tS,14),(tS,15)]
  axs:P.underlying tAs=some (.slice tA)
  p:∃ fs,P.underlying tP=some (.struct fs)/\fs.toList.map (λf=>(f.type,f.offset))=[(tI,0),(tS,1),(tS,2),(tS,3),(tS,4),(tS,5),(tS,6),(tI,7),(tI,8),(tI,9)]
  ps:P.underlying tPs=some (.slice tP)
  ci:P.cellsOf tI=1
  cb:P.cellsOf tB=1
  cs1:P.cellsOf tS=1
  css:P.cellsOf tSs=1
  cc:P.cellsOf tC=5
  ccs:P.cellsOf tCs=1
  ca:P.cellsOf tA=16
  cp:P.cellsOf tP=10
  bs:P.bytesOf tS=16
  bc:P.bytesOf tC=64
  ba:P.bytesOf tA=216
  bp:P.bytesOf tP=128
section
variable {H:Type} {enc:TypeId×Value->H} {P:Program} {W:World} {tI tB tS tSs tC tCs tA tAs tP tPs:TypeId} (X:Tys P tI tB tS tSs tC tCs tA tAs tP tPs)
theorem fields_of {t:TypeId} {A:Array Field} {L:List (TypeId×Nat)} {cs:List Value} {n:Nat} {x:DataW H×List MemPlace} (B:P.underlying t=some (.struct A)) (y:A.toList.map (λf=>(f.type,f.offset))=L) (h:DataW.trod enc P W 0 (λ_=>true) true n t cs=some x) :
    ∃ (xs:List (DataW H×List MemPlace)) (m:Nat),n=m+1/\x.1=.agg (xs.map (·.1))/\cs.length=P.cellsOf t/\xs.length=L.length/\(∀ (i:Nat) q,L[i]? = some q->DataW.trod enc P W 0 (λ_=>true) true m q.1 ((cs.drop q.2).take (P.cellsOf q.1))=xs[i]?)/\
      (x.1.weights P t=DataW.weightsEach P (L.map (·.1)) (xs.map (·.1))):=by
  obtain⟨xs,m,G,C,hl,d,F⟩:=DataW.trod_struct B h;refine⟨xs,m,G,by rw[C],hl,by rw[d,<-y];simp,λi q E=>?_,?_⟩
  . rw[<-y,yaH_,ycC_]at E
    obtain⟨f,v,rfl⟩:=E;exact F i f zaZ_
  . rw[C];simp only[DataW.weights,B]
    congr 1
    rw[<-y,ycO_];rfl
include X
theorem pH_ {n:Nat} {cs:List Value} {x:DataW H×List MemPlace} (h:DataW.trod enc P W 0 (λ_=>true) true n tI cs=some x):∃ k:Int,cs=[.int .i64 k]/\-9223372036854775808<=k/\k<=9223372036854775807:=by
  obtain⟨k,d,_,m⟩:=DataW.trod_int X.i h;have:=bounds_i64 m;exact⟨k,d,this.1,this.2⟩
theorem Aw_ {n:Nat} {cs:List Value} {x:DataW H×List MemPlace} (h:DataW.trod enc P W 0 (λ_=>true) true n tB cs=some x):∃ b:Bool,cs=[.bool b]:=by
  obtain⟨b,d,_⟩:=DataW.trod_bool X.b h;exact⟨b,d⟩
theorem str_of {n:Nat} {cs:List Value} {x:DataW H×List MemPlace} (h:DataW.trod enc P W 0 (λ_=>true) true n tS cs=some x) (d:wok (x.1.weights P tS)):∃ s:Str,cs=[str s]/\s.length<=140737488351232:=by
  obtain⟨s,v,m,_⟩:=DataW.trod_string X.s h;rw[m]at d;simp[wok,DataW.weights,reachBytes]at d
  refine⟨s.data.toList,by rw[v];rfl,by have:=ybf_ d;simpa using this⟩
theorem yd_:∀ (n:Nat) (cs:List Value) (x:DataW H×List MemPlace),DataW.trod enc P W 0 (λ_=>true) true n tC cs=some x->wok (x.1.weights P tC)->∃ c:Con,cs=c.cells/\c.mem (vw W)/\c.ok:=by
 intro n
 induction n using Nat.strongRecOn with
 | ind n ih =>
   intro cs x h C;obtain⟨fs,hu,hL⟩:=X.c;obtain⟨xs,m,hn,hx,hl,v,A,E⟩:=fields_of hu hL h;rw[E]at C
   match xs,v with
   | [x0,x1,x2,x3,x4],_ =>
   simp only[yaF_,ybR_,DataW.weightsEach,fT_]at C;have L:=A 0 _ rfl;have N:=A 1 _ rfl;have Q:=A 2 _ rfl;have V:=A 3 _ rfl;have T:=A 4 _ rfl;simp only[ybc_,ybb_,X.ci,X.cs1,X.ccs]at L N Q V T;obtain⟨k,K,k1,k2⟩:=pH_ X L;obtain⟨nm,R,n1⟩:=str_of X N C.2.1;obtain⟨lo,O,l1,l2⟩:=pH_ X Q;obtain⟨hi,S,h1,Z⟩:=pH_ X V
   obtain⟨l,ad,cap,U,B,M,I,d⟩:=mj_ Con.cells 5 Con.cells_len zac_ (λc=>c.mem (vw W)/\c.ok) X.cs X.cc (λm' Y G y hy J=>by
     obtain⟨c,g1,g2,g3⟩:=ih m' zaa_ G y hy J;exact⟨c,g1,g2,g3⟩) T C.2.2.2.2.1
   rw[X.cc]at hl
   match cs,hl with
   | [c0,c1,c2,c3,c4],_ =>
   simp only[ybW_,ycZ_,ybd_,ycu_,ybt_,ydF_]at K R O S U;subst K R O S U;refine⟨.mk k nm lo hi ad cap l,rfl,?_,k1,k2,n1,l1,l2,h1,Z,I,?_,Con.oks_iff.2 λp F=>(M p F).2⟩
   . rw[Con.mem_iff];exact⟨B,λp F=>(M p F).1⟩
   . rw[X.bc]at d;simp only[reachBytes]at d;omega
theorem zc_ {n:Nat} {cs:List Value} {x:DataW H×List MemPlace} (h:DataW.trod enc P W 0 (λ_=>true) true n tSs cs=some x) (B:wok (x.1.weights P tSs)) :
    ∃ (l:List Str) (ad:Ao) (cap:Nat),cs=[.slice ad l.length cap]/\bl_ (vw W) ad (l.flatMap ar_)/\(∀ s∈l,s.length<=140737488351232)/\l.length<=cap/\cap<=8796093021952:=by
  obtain⟨l,ad,cap,e,m,I,v,d⟩:=mj_ ar_ 1 aO_ zac_ (λs=>s.length<=140737488351232) X.ss X.cs1 (λJ _ E y F A=>by
    obtain⟨s,C,G⟩:=str_of X F A;exact⟨s,C,G⟩) h B
  rw[X.bs]at d;simp only[reachBytes]at d;exact⟨l,ad,cap,e,m,I,v,by omega⟩
theorem ax_of {n:Nat} {cs:List Value} {x:DataW H×List MemPlace} (h:DataW.trod enc P W 0 (λ_=>true) true n tA cs=some x) (d:wok (x.1.weights P tA)):∃ a:Ax,cs=a.cells/\a.mem (vw W)/\a.ok:=by
  obtain⟨fs,hu,hL⟩:=X.a;obtain⟨xs,m,hn,hx,hl,A,v,E⟩:=fields_of hu hL h;rw[E]at d
  match xs,A with
  | [x0,x1,x2,x3,x4,x5,x6,x7],_ =>
  simp only[yaF_,ybR_,DataW.weightsEach,fT_]at d;have J:=v 0 _ rfl;have M:=v 1 _ rfl;have R:=v 2 _ rfl;have V:=v 3 _ rfl;have U:=v 4 _ rfl;have O:=v 5 _ rfl;have Q:=v 6 _ rfl;have K:=v 7 _ rfl;simp only[ybc_,ybb_,X.ci,X.cb,X.cs1,X.cc,X.css]at J M R V U O Q K;obtain⟨k,F,k1,k2⟩:=pH_ X J;obtain⟨op,S⟩:=Aw_ X M;obtain⟨le,N,Z,o2⟩:=yd_ X _ _ _ R d.2.2.1;obtain⟨ri,T,m3,o3⟩:=yd_ X _ _ _ V d.2.2.2.1;obtain⟨rs,ad,cap,Y,C,hq,B,y⟩:=zc_ X U d.2.2.2.2.1;obtain⟨ro,G,n5⟩:=str_of X O d.2.2.2.2.2.1;obtain⟨a,L,n6⟩:=str_of X Q d.2.2.2.2.2.2.1;obtain⟨b,I,n7⟩:=str_of X K d.2.2.2.2.2.2.2.1;rw[X.ca]at hl
  match cs,hl with
  | [c0,c1,c2,c3,c4,c5,c6,c7,c8,c9,c10,c11,c12,c13,c14,c15],_ =>
  simp only[ybW_,ycZ_,ybd_,ycu_,ybt_,ydF_,Con.cells]at F S N T Y G L I;obtain⟨rfl,rfl,rfl,rfl,rfl⟩:=N;obtain⟨rfl,rfl,rfl,rfl,rfl⟩:=T;subst F S Y G L I;exact⟨⟨k,op,le,ri,ad,cap,rs,ro,a,b⟩,rfl,⟨Z,m3,C⟩,⟨k1,k2,o2,o3,B,ybv_ B y,hq,n5,n6,n7⟩⟩
theorem axs_of {n:Nat} {cs:List Value} {x:DataW H×List MemPlace} (h:DataW.trod enc P W 0 (λ_=>true) true n tAs cs=some x) (E:wok (x.1.weights P tAs)) :
    ∃ (l:List Ax) (ad:Ao) (cap:Nat),cs=[.slice ad l.length cap]/\(cI_ ad l).p (vw W)/\(∀ y∈l,y.ok)/\l.length<=cap/\cap<=2199023255488:=by
  obtain⟨l,ad,cap,e,v,C,A,d⟩:=mj_ Ax.cells 16 Ax.cells_len zac_ (λa=>a.mem (vw W)/\a.ok) X.axs X.ca (λK _ G y m B=>by
    obtain⟨a,F,I,J⟩:=ax_of X m B;exact⟨a,F,I,J⟩) h E
  rw[X.ba]at d;simp only[reachBytes]at d;exact⟨l,ad,cap,e,⟨v,λy m=>(C y m).1⟩,λy m=>(C y m).2,A,by omega⟩
structure Pc.big (p:Pc):Prop where
  a:p.a.length<=140737488351232
  b:p.b.length<=140737488351232
  c:p.c.length<=140737488351232
  r:p.r.length<=140737488351232
  s:p.s.length<=140737488351232
  t:p.t.length<=140737488351232
end
end Go.Vs
namespace Go.Vs
open Go Go.Sx Go.ChangeShapes Go.WideShapes Go.ChangeAt Go.RowKit
section
variable {H:Type} {enc:TypeId×Value->H} {P:Program} {w:World}
mutual
def eP_ {H:Type}:DataW H->List Value
  | .lit (.int k n)=>[.int k n]
  | .lit (.bool b)=>[.bool b]
  | .agg ps=>ka_ ps
  | _=>[]
def ka_ {H:Type}:List (DataW H)->List Value
  | []=>[]
  | d::r=>eP_ d++ka_ r
end
def hv_ (P:Program):Nat->TypeId->Bool
  | 0,_=>false
  | n+1,t=>match P.underlying t with
    | some .bool=>true
    | some (.int _)=>true
    | some (.struct fs)=>fs.toList.all λf=>hv_ P n f.type
    | some (.array _ e)=>hv_ P n e
    | _=>false
theorem js_:∀ l:List (DataW H),ka_ l=l.flatMap eP_
  | []=>by simp[ka_]
  | d::r=>by simp only[ka_,js_ r,yaV_]
theorem tile:∀ (y:List Nat) (cs:List Value) (g:List (List Value)),cs.length=y.sum->g.length=y.length->(∀ j n,y[j]? = some n->some ((cs.drop (y.take j).sum).take n)=g[j]?)->cs=g.flatten
  | [],cs,g,h,hg,_=>by
    simp only[ydA_]at h;have F:=yaz_ h;have E:g=[]:=yaz_ hg;simp[F,E]
  | n::y,cs,[],h,hg,hp=>by simp at hg
  | n::y,cs,x::g,h,hg,hp=>by
    have A:=hp 0 n rfl;simp only[ycu_,ydA_,ycZ_,ybc_,yam_]at A
    have B:=tile y (cs.drop n) g (by rw[ycn_,h];simp) (by simpa using hg) (λj m C=>by
      have:=hp (j+1) m C;simp only[ybd_,yde_,ybb_]at this;rw[<-this,List.drop_drop])
    rw[List.flatten_cons,<-B,<-A,ybA_]
theorem wU_ {T:TypeId->Prop} {E:Bool} (K:Kids P T):∀ (n m:Nat) (t:TypeId) (cs:List Value) (x:DataW H×List MemPlace),T t->hv_ P m t=true->DataW.trod enc P w 0 (λ_=>true) E n t cs=some x->cs=eP_ x.1:=by
 intro n
 induction n with
 | zero=>intro m t cs x _ _ h;simp[DataW.trod]at h
 | succ n ih =>
   intro m t cs x N C h;cases m with
   | zero=>simp[hv_]at C
   | succ m =>
   cases hu:P.underlying t with
   | none=>simp[hv_,hu]at C
   | some d =>
     cases d with
     | bool=>obtain⟨b,rfl,rfl⟩:=DataW.trod_bool hu h;simp[eP_]
     | int k=>obtain⟨b,rfl,rfl,_⟩:=DataW.trod_int hu h;simp[eP_]
     | struct fs =>
       obtain⟨xs,M,R,rfl,hl,y,J⟩:=DataW.trod_struct hu h;obtain rfl:M=n:=by omega
       obtain⟨k1,k2,Q⟩:=K.struct N hu;simp only[hv_,hu]at C;simp only[eP_];rw[js_,List.flatMap_def,ycO_];refine tile (fs.toList.map λf=>P.cellsOf f.type) cs _ (by rw[hl,k2]) zbo_ λj q B=>?_;rw[yaH_,ycC_]at B;obtain⟨f,A,rfl⟩:=B;have F:=J j f zba_;have O:=Q j f A;have I:j<xs.length:=by rw[y];have:=(yab_.1 A).1;simpa using this
       rw[yaa_ I]at F;have L:=ih m f.type _ _ (k1 f (yac_ A)) (yaQ_.1 C f (yac_ A)) F;rw[yaH_,yaa_ I,<-ydr_,<-O,L];rfl
     | array len e =>
       obtain⟨xs,M,R,rfl,hl,y,J⟩:=DataW.trod_array hu h;obtain rfl:M=n:=by omega
       obtain⟨k1,k2⟩:=K.array N hu;simp only[hv_,hu]at C;simp only[eP_];rw[js_,List.flatMap_def,ycO_];refine tile (List.replicate len (P.cellsOf e)) cs _ (by rw[hl,k2];simp) zbo_ λj q B=>?_;rw[ybQ_]at B
       split at B
       . rename_i I
         simp only[yam_]at B;subst B;have F:=J j I;have G:j<xs.length:=by omega
         rw[yaa_ G]at F;have L:=ih m e _ _ k1 C F;rw[yaH_,yaa_ G,List.take_replicate,List.sum_replicate_nat,ybn_ zaa_,L];rfl
       . cases B
     | _=>simp[hv_,hu]at C
end
section
variable {H:Type} {enc:TypeId×Value->H} {P:Program} {W W':World}
theorem ji_:∀ {ts:List TypeId} {vs:List Value} {ds:List (DataW H)} {ps:List MemPlace} {sp:Nat->Bool},DataW.TrodAll enc P W 0 sp true ts vs ds ps->(∀ p∈ps,W.sameAt W' p)->DataW.TrodAll enc P W' 0 sp true ts vs ds ps
  | [],[],[],_,_,h,_=>h
  | _::_,_::_,_::_,_,_,⟨p,q,⟨n,h1⟩,h2,e⟩,hs=>⟨p,q,⟨n,DataW.trod_carry n _ _ _ h1 (λx m=>hs x (by rw[e];exact yal_ _ m))⟩,ji_ h2 (λx m=>hs x (by rw[e];exact yay_ _ m)),e⟩
theorem xw_ {T:TypeId->Prop} (K:Kids P T) (hz:∀ t e,T t->P.underlying t=some (.slice e)->0<P.cellsOf e) {f:Func} {s:ChangeSpec} {args:Array Value} {ds:List (DataW H)} {before:List MemPlace} {U:TypeId} (R:∀ t∈f.params.toList,T t) (m:s.vars=[])
    (S:DataW.Whole enc P f.params.toList s.vars false W args.toList ds [] before) (O:s.fn H (ds++[])={ results:=[.lit (.bool true)],args:=ds }) (G:f.resultTypes=#[U]) (J:P.underlying U=some .bool) {I:Vw} (B:(vw W).to [] I []) :
    s.post enc P f false true false false W args (.bool true) I.w:=by
  have M:=S;obtain⟨p,q,L,Y,V,_,_⟩:=S;have Z:q=[]:=by rw[m]at Y;exact Y
  subst Z;simp only[yaL_]at V;subst V;have y:∀ b,b<W.heap.size->I.w.heap[b]? = W.heap[b]? := λb J=>B.block b J zai_
  have C:∀ x∈before,W.sameAt I.w x:=λx Q=>by
    have E:=DataW.TrodAll.lt L x Q;cases x with
    | cell b off=>exact World.cell?_of_block (y b E)
    | map b=>exact y b E
  have N:=ji_ L C;have F:=DataW.TrodAll.respare K hz (spare':=λb=>decide (b<W.heap.size)) R N (λx Q=>by simpa using DataW.TrodAll.lt L x Q);refine⟨ds,[],before,[],before,[],M,?_,?_,?_,⟨B.os,B.output,λi hi=>?_⟩,λh=>by cases h⟩
  . rw[O,G];exact trodAll_mk1 (shut_bool J true)
  . rw[O];exact F
  . rw[O,m];rfl
  . rw[y i hi]
    have A:∃ o,W.heap[i]? = some o:=⟨_,yct_ hi⟩;obtain⟨o,ho⟩:=A;rw[ho];cases o<;>simp
section
variable {tI tB tS tSs tC tCs tA tAs tP tPs:TypeId} (X:Tys P tI tB tS tSs tC tCs tA tAs tP tPs) {base:Nat} {v:Value} {d:DataW H} {ps:List MemPlace}
include X
theorem AE_ (m:Value.okWide P W .any base tAs v) (h:DataW.Trod enc P W 0 (λ_=>true) true tAs v d ps) (A:wok (d.weights P tAs)) :
    ∃ (l:List Ax) (ad:Ao) (cap:Nat),v=.slice ad l.length cap/\(cI_ ad l).p (vw W)/\(∀ y∈l,y.ok)/\l.length<=cap/\cap<=2199023255488:=by
  obtain⟨a,len,cap,rfl⟩:=okWide_slice X.axs m;obtain⟨n,C⟩:=h;obtain⟨l,ad,x,e,B⟩:=axs_of X C A;simp only[Value.cells,ybt_,ydF_]at e;exact⟨l,ad,x,e,B⟩
end
theorem jP_ {T:TypeId->Prop} (K:Kids P T) {name:String} {d:DataW Unit} {y:List (String×DataW Unit)} {W:World} (h:laidMet P y W) (hm:(name,d)∈y) {g:Nat} {t:TypeId} (M:P.globalNamed name=some g) (G:(P.globals[g]?).map (·.type)=some t) (O:T t) {m:Nat} (N:hv_ P m t=true) :
    ∃ J fz,W.heap[g]? = some (.cells (eP_ d).toArray J fz):=by
  obtain⟨ps,hl,_,_⟩:=h
  have I:∀ (l:List (String×DataW Unit)) (ps:List MemPlace),DataW.LaidVars P W l ps->(name,d)∈l->∃ g t cs n p,P.globalNamed name=some g/\(P.globals[g]?).map (·.type)=some t/\W.var? P name=some cs/\DataW.trod (λ_=>()) P W 0 (λ_=>true) false n t cs.toList=some (d,p):=by
    intro l
    induction l with
    | nil=>intro ps _ h;cases h
    | cons x r ih =>
      intro ps h hm;obtain⟨U,V⟩:=x;obtain⟨g,t,cs,B,p,q,F,C,A,E,Q,_⟩:=h;rcases yan_.1 hm with e|hm
      . cases e;exact⟨g,t,cs,B,p,F,C,A,E⟩
      . exact ih q Q hm
  obtain⟨R,L,cs,n,p,F,C,A,E⟩:=I y ps hl hm;obtain rfl:R=g:=ybk_ (F.symm.trans M);obtain rfl:L=t:=ybk_ (C.symm.trans G);have e:=wU_ K n m L cs.toList _ O N E;simp only[World.var?,M,Option.bind_some]at A
  split at A
  . rename_i c J fz S
    simp only[yam_]at A;subst A;exact⟨J,fz,by rw[S,<-e]⟩
  . cases A
end
end Go.Vs
namespace Go.Vs
open Go Go.Sx
theorem jK_ {s:Str} (h:if_ s=true):∃ c t,s=c::t/\eA_ c=true/\lJ_ s=true:=by
  cases s with
  | nil=>simp[if_]at h
  | cons c t =>
    simp only[if_,yaS_]at h;exact⟨c,t,rfl,h.1.1.2,h.1.2⟩
theorem sz_ {s:Str} (h:br_ s=true):∃ c t,s=c::t/\eA_ c=true:=by
  unfold br_ at h;simp only[yaS_]at h;cases hx:ixS 58 s with
  | none=>rw[hx]at h;obtain⟨c,t,m,v,_⟩:=jK_ h.2;exact⟨c,t,m,v⟩
  | some k =>
    rw[hx]at h;simp only[yaS_]at h;obtain⟨c,t,m,v,_⟩:=jK_ h.2.1;cases s with
    | nil=>simp at m
    | cons d u =>
      cases k with
      | zero=>simp at m
      | succ k=>simp only[ybd_,ybt_]at m;exact⟨d,u,rfl,m.1▸v⟩
theorem mL_ {s:Str} (h:lJ_ s=true):∀ c∈s,fv_ c=true:=λc d=>yaQ_.1 h c d
theorem vs_ {c:UInt8} {s:Str} {k:Nat} (h:ixS c s=some k):s=s.take k++c::s.drop (k+1):=by
 induction s generalizing k with
 | nil=>simp[ixS]at h
 | cons b s ih =>
   simp only[ixS]at h
   split at h
   . rename_i d
     simp only[yam_]at h;subst h;subst d;simp
   . cases hx:ixS c s with
     | none=>rw[hx]at h;simp at h
     | some j =>
       rw[hx]at h;simp only[yaX_,yam_]at h;subst h;simp only[ybd_,ybW_,yav_];rw[<-ih hx]
theorem vb_ {s:Str} (h:br_ s=true):∀ c∈s,fv_ c=true\/c=58:=by
 unfold br_ at h;simp only[yaS_]at h;cases hx:ixS 58 s with
 | none=>rw[hx]at h;obtain⟨_,_,_,_,m⟩:=jK_ h.2;exact λc d=>.inl (mL_ m c d)
 | some k =>
   rw[hx]at h;simp only[yaS_]at h;obtain⟨_,_,_,_,m⟩:=jK_ h.2.1;obtain⟨_,_,_,_,v⟩:=jK_ h.2.2;intro c d;rw[vs_ hx]at d;rcases yag_.1 d with d|d
   . exact .inl (mL_ m c d)
   . rcases yan_.1 d with rfl|d
     . exact .inr rfl
     . exact .inl (mL_ v c d)
theorem lP_ {c:UInt8}:∀ {s:Str},c ∉ s->ixS c s=none
  | [],_=>rfl
  | b::s,h=>by
    simp only[yan_,not_or]at h;simp only[ixS];rw[yaf_ (λe=>h.1 e.symm),lP_ h.2];rfl
theorem iq_ {s:Str} (h:br_ s=true):aS_ 46 s=[s] :=
  gs_ (lP_ λhm=>by rcases vb_ h 46 hm with h|h<;>revert h<;>decide)
theorem cM_ {s:Str} (h:br_ s=true):aJ_ s=true:=by simp[aJ_,h]
theorem cG_ {s:Str} (h:br_ s=true):ck_ s=true:=by
  unfold ck_;rw[iq_ h];simp[cM_ h]
theorem mR_ (c:UInt8):∀ (f r:Str),aS_ c (f++[c]++r)=aS_ c f++aS_ c r
 | [],r=>by simp[aS_]
 | b::f,r=>by
   have d:=mR_ c f r;simp only[yap_,yav_,ybC_]at d ⊢
   by_cases m:b=c
   . subst m;simp only[aS_,yck_,d,yav_]
   . simp only[aS_,m,yca_,d]
     cases hs:aS_ c f with
     | nil=>exact absurd hs (kI_ c f)
     | cons x t=>simp
theorem sN_ {c:UInt8} (h:eA_ c=true):c≠42/\c≠33/\c≠123/\c≠60/\c≠95:=by
  refine⟨?_,?_,?_,?_,?_⟩<;>rintro rfl<;>revert h<;>decide
theorem ts_ {s:Str} (h:br_ s=true):aD_ s=true:=by
  obtain⟨c,t,rfl,y⟩:=sz_ h;obtain⟨v,d,x,m,_⟩:=sN_ y;unfold aD_;rw[yaf_ (by simp[v,d]),yaf_ zbD_,yaf_ zbn_];exact cM_ h
theorem gh_ {s:Str} (h:aJ_ s=true):aD_ ([123]++s++[125])=true:=by
  unfold aD_;have e:([123]++s++[125]).length=s.length+2:=by simp
  rw[yaf_ zai_,yaq_ (by
    refine⟨by omega,by simp,?_⟩;rw[yaG_ zai_];simp)]
  rw[e];have:(List.drop 1 ([123]++s++[125])).take (s.length+2 - 1 - 1)=s:=by simp
  rw[this];exact h
theorem jD_ {t:Str} (h:t≠[]):aD_ ([60]++t++[62])=true:=by
  unfold aD_;have hl:0<t.length:=ycj_.2 h;have e:([60]++t++[62]).length=t.length+2:=by simp
  rw[yaf_ zai_,yaf_ zai_,yaq_ (by
    refine⟨by omega,by simp,?_⟩;rw[yaG_ zai_];simp)]
namespace Con
def dep:Con->Nat
  | mk _ _ _ _ _ _ ps=>deps ps
where deps:List Con->Nat
  | []=>0
  | p::ps=>max (1+dep p) (deps ps)
theorem pW_ {p:Con}:∀ {ps:List Con},p∈ps->1+p.dep<=dep.deps ps
 | q::ps,h=>by
   rcases yan_.1 h with rfl|h
   . simp only[dep.deps];omega
   . have:=pW_ h;simp only[dep.deps];omega
theorem pX_ (c:Con):c.dep=dep.deps c.parts:=by cases c;rfl
theorem sz_eq (c:Con):c.sz=1+sz.szs c.parts:=by cases c;rfl
theorem rH_:∀ (m:Nat) (c:Con),c.sz<=m->∀ d n,(c.fits d n).1=true↔d+c.dep<=8/\n+c.sz<=64
 | 0,c,h=>by have:=c.sz_pos;omega
 | m+1,c,h=>λd n=>by
   have A:∀ ps:List Con,(∀ p∈ps,p.sz<=m)->∀ n,n<=64->((fits.fitss ps (d+1) n).1=true↔(∀ p∈ps,d+1+p.dep<=8)/\n+sz.szs ps<=64):=by
     intro ps
     induction ps with
     | nil=>intro _ n F;simp[fits.fitss,sz.szs,F]
     | cons p ps ih =>
       intro v n F;have x:=rH_ m p (v p zai_) (d+1) n;simp only[fits.fitss,sz.szs,yan_,forall_eq_or_imp];rcases y:p.fits (d+1) n with⟨b,q⟩
       rw[y]at x;cases b with
       | true =>
         have E:=pP_ _ p (yae_ _) (d+1) n (by rw[y]);rw[y]at E;simp only at E x ⊢;have C:=x.1 trivial;rw[ih (λr H=>v r (by simp[H])) q zaa_];constructor
         . rintro ⟨a,b⟩;exact⟨⟨C.1,a⟩,by omega⟩
         . rintro ⟨⟨_,a⟩,b⟩;exact⟨a,by omega⟩
       | false =>
         simp only[ybl_,false_iff]at x ⊢;rintro ⟨⟨a,_⟩,b⟩;exact x ⟨a,by omega⟩
   have G:=pX_ c;have I:=sz_eq c;rw[fits_eq]
   split
   . rename_i B
     simp only[ybK_,ybo_]at B;simp only[ybl_,false_iff];rintro ⟨a,b⟩;omega
   . rename_i B
     simp only[ybK_,ybo_,not_or]at B;rw[A c.parts (λp v=>by have:=sz_part v;omega) (n+1) zaa_,G,I];constructor
     . rintro ⟨a,b⟩
       refine⟨?_,by omega⟩
       have:∀ ps:List Con,(∀ p∈ps,d+1+p.dep<=8)->d+dep.deps ps<=8:=by
         intro ps
         induction ps with
         | nil=>intro _;simp[dep.deps];omega
         | cons p ps ih =>
           intro v;have x:=v p zai_;have C:=ih λq y=>v q zbo_
           simp only[dep.deps];omega
       exact this _ a
     . rintro ⟨a,b⟩
       exact⟨λp v=>by have:=pW_ v;omega,by omega⟩
theorem pd_ (c:Con):c.check=0↔c.dep<=8/\c.sz<=64/\c.fine:=by
 unfold check fine;have h:=rH_ _ c (yae_ _) 0 0
 by_cases d:(c.fits 0 0).1=true
 .rw[yaq_ d]
  have:=h.1 d;constructor
  .intro e;exact⟨by omega,by omega,e⟩
  exact λe=>e.2.2
 rw[yaf_ d];constructor
 .intro e;cases e
 intro e;exact absurd (h.2 ⟨by omega,by omega⟩) d
theorem ce_ {c p:Con} (h:c.check=0) (d:p∈c.parts):p.check=0:=by
  rw[pd_]at h ⊢;have m:=pW_ d;rw[<-pX_]at m;have v:=sz_part d;exact⟨by omega,by omega,fine_part h.2.2 d⟩
structure Names (c:Con):Prop where
  plain:c.kind=3\/c.kind=6\/c.kind=7->br_ c.name=true
  person:c.kind=4->aJ_ c.name=true
  nums:c.kind=7->-1099511627776<=c.lo/\c.lo<=c.hi/\c.hi<=1099511627776
theorem no_ {c:Con} (h:c.fine):Names c:=by
 have F:=fields h;have d:=((km_ c).1 h).1;unfold fieldErr at d;rw[yaf_ (by have:=F.k1;have:=F.k7;omega)]at d
 split at d
 .cases d
 split at d
 .cases d
 rename_i v
 split at d
 .cases d
 split at d
 .rename_i m
  refine⟨λe=>?_,λe=>?_,λe=>?_⟩
  .rcases e with e|e|e<;>rw[e]at m<;>simpa [nd,en_] using m
  .rw[e]at m
   simp[nd,en_]at m
   simp[aJ_,m]
  rw[e]at v;simp[nd,en_]at v
  omega
 cases d
theorem nA_ (x y:Str) (r:List Str) (d:Str):Lib.join (x::y::r) d=x++d++Lib.join (y::r) d:=by simp[Lib.join,List.intercalate]
theorem yP_ {c:Con} (h:c.fine) (v:5<=c.kind):c.text≠[]:=by
 have F:=fields h;have m:=F.k7;rw[text_eq,yaf_ zaa_,yaf_ zaa_,yaf_ zaa_,yaf_ zaa_]
 split
 .rename_i d
  have hl:=F.le;rw[d]at hl;simp[nd,en_]at hl
  match hp:c.parts,hl with
  | [],hl=>simp at hl
  | [_],hl=>simp at hl
  | p::q::r,_=>simp only[yaF_,nA_];simp
 split
 .simp only[nA_];simp
 simp only[nA_];simp
theorem atom_ok {c:Con} (h:c.check=0):aD_ c.atom=true:=by
 have d:=(check_zero h).1;have F:=fields d;have N:=no_ d;have m:=F.k1;have v:=F.k7;unfold atom
 split
 .rfl
 split
 .rfl
 split
 .exact ts_ (N.plain zaa_)
 split
 .exact gh_ (N.person zaa_)
 unfold textN;rw[yaq_ h];exact jD_ (yP_ d zaa_)
theorem atom_len {c:Con} (d:c.ok) (h:c.check=0):c.atom.length<=7000:=by
  have F:=fields (check_zero h).1;have v:=F.nm;have m:=textN_len d;unfold atom
  repeat' split
  all_goals simp<;>omega
theorem uX_ {c:Con} (h:c.check=0) (B:c.kind=5) {j:Nat} (C:2<=j) (G:j<=c.parts.length):(c.pre j).check=0:=by
 have y:=(check_zero h).1;have F:=fields y;have d:=F.mo;rw[B]at d;simp[nd,en_]at d
 rw[pd_]at h ⊢
 have v:∀ (ps:List Con) (j:Nat),sz.szs (ps.take j)<=sz.szs ps/\dep.deps (ps.take j)<=dep.deps ps:=by
   intro ps
   induction ps with
   | nil=>intro j;simp
   | cons p ps ih =>
     intro j;cases j with
     | zero=>simp[sz.szs,dep.deps]
     | succ j=>have:=ih j;simp only[ybd_,sz.szs,dep.deps];omega
 have H:=v c.parts j;have E:=pX_ c;have I:=sz_eq c;refine⟨?_,?_,?_⟩
 .rw[pX_];show dep.deps (c.parts.take j)<=8;omega
 .rw[sz_eq];show 1+sz.szs (c.parts.take j)<=64;omega
 rw[km_];refine⟨?_,λp A=>fine_part y (ybs_ A)⟩;unfold fieldErr;have m:(c.pre j).parts.length=j:=by show (c.parts.take j).length=j;simp;omega
 rw[yaf_ (by show ¬ ((5:Int)<1\/7<(5:Int));omega)];simp only[m];have x:(c.pre j).kind=5:=rfl;rw[x];simp[nd,en_,pre,name,lo,hi]
 omega
end Con
structure PQ (f:Int) (q:Pc):Prop where
  frm:q.frm=f
  sm:q.sm
  ok:q.valid=true
section
variable {f:Int} (h0:-1<=f) (h1:f<1024) {a b c r s t:Str} {lo hi:Int}
include h0 h1
theorem sj_ (d:aD_ a=true) (m:aD_ c=true):Pc.valid ⟨1,a,[],c,[],[],[],0,0,f⟩=true:=by
  unfold Pc.valid;rw[yaf_ zal_];simp[nus,gv_,bT_,d,m]
theorem val2 (d:aD_ a=true) (v:aD_ b=true) (m:aD_ c=true):Pc.valid ⟨2,a,b,c,[],[],[],0,0,f⟩=true:=by
  unfold Pc.valid;rw[yaf_ zal_];simp[nus,gv_,bT_,d,v,m]
theorem val3 (d:aD_ a=true) (v:ck_ r=true) (m:aD_ c=true):Pc.valid ⟨3,a,[],c,r,[],[],0,0,f⟩=true:=by
  unfold Pc.valid;rw[yaf_ zal_];simp[nus,gv_,bT_,d,v,m]
theorem val4 (d:aD_ a=true) (v:ck_ r=true) (m:aD_ c=true):Pc.valid ⟨4,a,[],c,r,[],[],0,0,f⟩=true:=by
  unfold Pc.valid;rw[yaf_ zal_];simp[nus,gv_,bT_,d,v,m]
theorem val5 (m:ck_ r=true) (d:ck_ t=true):Pc.valid ⟨5,[],[],[],r,[],t,0,0,f⟩=true:=by
  unfold Pc.valid;rw[yaf_ zal_];simp[nus,gv_,bT_,m,d]
theorem val6 (v:ck_ r=true) (d:ck_ s=true) (m:ck_ t=true):Pc.valid ⟨6,[],[],[],r,s,t,0,0,f⟩=true:=by
  unfold Pc.valid;rw[yaf_ zal_];simp[nus,gv_,bT_,v,d,m]
theorem val7 (d:ck_ r=true):Pc.valid ⟨7,[],[],[],r,[],[],0,0,f⟩=true:=by
  unfold Pc.valid;rw[yaf_ zal_];simp[nus,gv_,bT_,d]
theorem val8 (d:aD_ a=true) (m:aJ_ r=true) (v:-1099511627776<=lo/\lo<=hi/\hi<=1099511627776):Pc.valid ⟨8,a,[],[],r,[],[],lo,hi,f⟩=true:=by
  unfold Pc.valid;rw[yaf_ zal_,yaf_ (by simp[nus,gv_];omega)];simp[nus,gv_,bT_,d,m]
theorem val9 (d:aD_ c=true) (m:aJ_ r=true) (v:-1099511627776<=lo/\lo<=hi/\hi<=1099511627776):Pc.valid ⟨9,[],[],c,r,[],[],lo,hi,f⟩=true:=by
  unfold Pc.valid;rw[yaf_ zal_,yaf_ (by simp[nus,gv_];omega)];simp[nus,gv_,bT_,d,m]
end
theorem cw_ {Q:Pc->Prop} {f:Int} {l:List Pc} {p:Pc} (hl:∀ q∈l,Q q) (m:Q { p with frm:=f }):∀ q∈ins f l p,Q q:=by
 unfold ins
 split
 .exact hl
 intro q d;rcases yag_.1 d with d|d
 .exact hl q d
 simp only[yak_]at d;subst d;exact m
theorem dd_ {s:Str} (h:br_ s=true):s.length<=24:=Con.plain_len h
theorem fL_ {s:Str} (h:aJ_ s=true):s.length<=24:=by
 simp only[aJ_,ybK_]at h;rcases h with h|h
 .exact Con.plain_len h
 exact Con.reserved_len h
namespace Con
section
variable {f:Int} (h0:-1<=f) (h1:f<1024)
include h0 h1
theorem sa_ (c:Con) (m:c.ok) (v:c.check=0) (y:c.kind=5):∀ (r:List Con) (j:Nat) (a:Str) (l:List Pc),1<=j->j+r.length<=c.parts.length->(∀ p∈r,p∈c.parts)->aD_ a=true->a.length<=7000->(∀ q∈l,PQ f q)->∀ q∈andP f c r j a l,PQ f q
  | [],_,_,l,_,_,_,_,_,hl=>hl
  | p::r,j,a,l,hj,hlen,hm,ha,hal,hl=>by
    simp only[yai_]at hlen;have x:=hm p zai_;have d:=uX_ v y (j:=j+1) zaa_ zaa_;have A:=atom_ok d;have C:=atom_len (pre_ok m (j+1)) d;have B:=atom_ok (ce_ v x);have F:=atom_len (ok_part m x) (ce_ v x);simp only[andP]
    exact sa_ c m v y r (j+1) _ _ zaa_ zaa_ (λq E=>hm q (by simp[E])) A C
      (cw_ hl ⟨rfl,⟨by dsimp only;omega,by dsimp only;omega,by dsimp only;omega,by simp,by simp,by simp⟩,val2 h0 h1 ha B A⟩)
theorem leftP_all:∀ (m:Nat) (c:Con),c.sz<=m->c.ok->c.check=0->∀ l,(∀ q∈l,PQ f q)->∀ q∈c.leftP f l,PQ f q
 | 0,c,h=>by have:=c.sz_pos;omega
 | m+1,c,h=>λy B l hl=>by
   have E:∀ ps:List Con,(∀ p∈ps,p∈c.parts)->∀ l,(∀ q∈l,PQ f q)->∀ q∈leftP.lefts f ps l,PQ f q:=by
     intro ps
     induction ps with
     | nil=>intro _ l hl;exact hl
     | cons p ps ih =>
       intro A l hl;have d:=A p zai_;exact ih (λq H=>A q (by simp[H])) _ (leftP_all m p (by have:=sz_part d;omega) (ok_part y d) (ce_ B d) l hl)
   have C:=E c.parts (λ_ h=>h) l hl;have F:=fields (check_zero B).1;have N:=no_ (check_zero B).1;have ca:=atom_ok B;have cl:=atom_len y B;rw[leftP_eq]
   split
   . rename_i L
     have v:=F.le;rw[L]at v;simp[nd,en_]at v
     match A:c.parts,v with
     | [],v=>simp at v
     | p::r,_ =>
       have d:p∈c.parts:=by rw[A];simp
       have G:=atom_ok (ce_ B d);have I:=atom_len (ok_part y d) (ce_ B d);refine sa_ h0 h1 c y B L _ 1 _ _ zaa_ (by rw[A];simp;omega) (λq H=>by rw[A];exact List.mem_of_mem_drop H) zbw_ (by simpa using I) (by rw[A]at C;exact C)
   . split
     . rename_i J
       have v:=F.le;rw[J]at v;simp[nd,en_]at v
       have x:=N.plain (.inr (.inl J))
       match A:c.parts,v with
       | [],v=>simp at v
       | p::r,_ =>
         have d:p∈c.parts:=by rw[A];simp
         have G:=atom_ok (ce_ B d);have I:=atom_len (ok_part y d) (ce_ B d);have M:=dd_ x;rw[A]at C;exact cw_ C ⟨rfl,⟨by simp;omega,by simp,by dsimp only;omega,by dsimp only;omega,by simp,by simp⟩,val4 h0 h1 zbw_ (cG_ x) ca⟩
     . split
       . rename_i K
         have x:=N.plain (.inr (.inr K));have M:=dd_ x;exact cw_ hl ⟨rfl,⟨by simp,by simp,by dsimp only;omega,by dsimp only;omega,by simp,by simp⟩,val9 h0 h1 ca (cM_ x) (N.nums K)⟩
       . exact hl
theorem rightP_all:∀ (m:Nat) (c:Con),c.sz<=m->c.ok->c.check=0->∀ l,(∀ q∈l,PQ f q)->∀ q∈c.rightP f l,PQ f q
 | 0,c,h=>by have:=c.sz_pos;omega
 | m+1,c,h=>λx A l hl=>by
   have ca:=atom_ok A;have cl:=atom_len x A
   have E:∀ ps:List Con,(∀ p∈ps,p∈c.parts)->∀ l,(∀ q∈l,PQ f q)->∀ q∈rightP.rights f c.atom ps l,PQ f q:=by
     intro ps
     induction ps with
     | nil=>intro _ l hl;exact hl
     | cons p ps ih =>
       intro B l hl;have d:=B p zai_;have G:=atom_ok (ce_ A d);have K:=atom_len (ok_part x d) (ce_ A d)
       exact ih (λq H=>B q (by simp[H])) _ (rightP_all m p (by have:=sz_part d;omega) (ok_part x d) (ce_ A d) _
         (cw_ hl ⟨rfl,⟨by dsimp only;omega,by simp,by dsimp only;omega,by simp,by simp,by simp⟩,sj_ h0 h1 ca G⟩))
   have C:∀ ps:List Con,(∀ p∈ps,p∈c.parts)->∀ l,(∀ q∈l,PQ f q)->∀ q∈rightP.righty f ps l,PQ f q:=by
     intro ps
     induction ps with
     | nil=>intro _ l hl;exact hl
     | cons p ps ih =>
       intro B l hl;have d:=B p zai_;exact ih (λq H=>B q (by simp[H])) _ (rightP_all m p (by have:=sz_part d;omega) (ok_part x d) (ce_ A d) l hl)
   have F:=fields (check_zero A).1;have N:=no_ (check_zero A).1;rw[rightP_eq]
   split
   . exact E c.parts (λ_ h=>h) l hl
   . split
     . rename_i I
       have y:=F.le;rw[I]at y;simp[nd,en_]at y
       have v:=N.plain (.inr (.inl I));have L:=dd_ v;refine C c.parts (λ_ h=>h) _ (cw_ hl ?_)
       match B:c.parts,y with
       | [],y=>simp at y
       | p::r,_ =>
         have d:p∈c.parts:=by rw[B];simp
         have G:=atom_ok (ce_ A d);have K:=atom_len (ok_part x d) (ce_ A d);exact⟨rfl,⟨by dsimp only;omega,by simp,by simp;omega,by dsimp only;omega,by simp,by simp⟩,val3 h0 h1 ca (cG_ v) zbw_⟩
     . split
       . rename_i J
         have v:=N.plain (.inr (.inr J));have L:=dd_ v;exact cw_ hl ⟨rfl,⟨by dsimp only;omega,by simp,by simp,by dsimp only;omega,by simp,by simp⟩,val8 h0 h1 ca (cM_ v) (N.nums J)⟩
       . exact hl
end
end Con
namespace Ax
section
variable {f:Int} (h0:-1<=f) (h1:f<1024)
include h0 h1
theorem nS_ (role:Str) (F:br_ role=true):∀ (C:List Str) (g:Str) (l:List Pc),(∀ r∈C,br_ r=true)->(aS_ 46 g).length+C.length<=4->((aS_ 46 g).all aJ_=true)->g.length<=100*(aS_ 46 g).length->(∀ q∈l,PQ f q)->∀ q∈chainP f role C g l,PQ f q
 | [],_,_,_,_,_,_,hl=>hl
 | r::t,g,l,hp,hn,hg,hgl,hl=>by
   have d:=hp r zai_;have I:=dd_ d;have H:=dd_ F;simp only[yai_]at hn
   have v:ck_ g=true:=by
     unfold ck_;rw[yaE_ zaa_];simp only[Bool.true_and,ybV_];rw[ycY_];intro y E;simp[yaQ_.1 hg y E]
   simp only[chainP]
   by_cases G:t=[]
   . subst G
     simp only[yck_,chainP];exact cw_ hl ⟨rfl,⟨by simp,by simp,by simp,by dsimp only;omega,by dsimp only;omega,by dsimp only;omega⟩,val6 h0 h1 v (cG_ d) (cG_ F)⟩
   . simp only[G,yca_]
     have J:0<t.length:=ycj_.2 G;have e:=mR_ 46 g r;rw[iq_ d]at e;have m:(aS_ 46 (g++[46]++r)).all aJ_=true:=by rw[e,ycQ_,hg];simp[cM_ d]
     have B:(aS_ 46 (g++[46]++r)).length=(aS_ 46 g).length+1:=by rw[e];simp
     have A:(g++[46]++r).length<=100*(aS_ 46 (g++[46]++r)).length:=by rw[B];simp;omega
     have x:ck_ (g++[46]++r)=true:=by
       unfold ck_;rw[yaE_ zaa_];simp only[Bool.true_and,ybV_];rw[ycY_];intro y E;simp[yaQ_.1 m y E]
     exact nS_ role F t _ _ (λq K=>hp q (by simp[K])) zaa_ m A
       (cw_ hl ⟨rfl,⟨by simp,by simp,by simp,by dsimp only;omega,by dsimp only;omega,by dsimp only;omega⟩,val6 h0 h1 v (cG_ d) x⟩)
theorem pieces_all {x:Ax} (d:x.ok) (y:x.check=0):∀ q∈x.pieces f,PQ f q:=by
 have G:=good_of y;have L:=λ(c:Con) (d:c.ok) (y:c.check=0)=>Con.leftP_all h0 h1 _ c (yae_ _) d y
 have E:=λ(c:Con) (d:c.ok) (y:c.check=0)=>Con.rightP_all h0 h1 _ c (yae_ _) d y
 have n:∀ q∈([]:List Pc),PQ f q:=λq H=>by cases H
 have M:=G.k1;have O:=G.k9;have A:=λ(c:Con) (d:c.ok) (y:c.check=0)=>(⟨Con.atom_ok y,Con.atom_len d y⟩:aD_ c.atom=true/\c.atom.length<=7000)
 unfold pieces
 split
 .have l:=G.left zaa_;have r:=G.right zaa_
  have C:=A _ d.left l;have v:=A _ d.right r;exact cw_ (E _ d.right r _ (L _ d.left l _ n)) ⟨rfl,⟨by dsimp only;omega,by simp,by dsimp only;omega,by simp,by simp,by simp⟩,sj_ h0 h1 C.1 v.1⟩
 split
 .have l:=G.left zaa_;have r:=G.right zaa_
  have C:=A _ d.left l;have v:=A _ d.right r;exact cw_ (E _ d.left l _ (L _ d.right r _ (cw_ (E _ d.right r _ (L _ d.left l _ n)) ⟨rfl,⟨by dsimp only;omega,by simp,by dsimp only;omega,by simp,by simp,by simp⟩,sj_ h0 h1 C.1 v.1⟩))) ⟨rfl,⟨by dsimp only;omega,by simp,by dsimp only;omega,by simp,by simp,by simp⟩,sj_ h0 h1 v.1 C.1⟩
 split
 .have l:=G.left zaa_;have r:=G.right zaa_
  have C:=A _ d.left l;have v:=A _ d.right r;exact cw_ (L _ d.right r _ (L _ d.left l _ n)) ⟨rfl,⟨by dsimp only;omega,by dsimp only;omega,by simp,by simp,by simp,by simp⟩,val2 h0 h1 C.1 v.1 rfl⟩
 split
 .have r:=G.right zaa_;have v:=A _ d.right r;have p:=G.role zaa_;have pl:=dd_ p
  exact cw_ (E _ d.right r _ n) ⟨rfl,⟨by simp,by simp,by dsimp only;omega,by dsimp only;omega,by simp,by simp⟩,val4 h0 h1 rfl (cG_ p) v.1⟩
 split
 .rename_i J
  have p:=G.role zaa_;have pl:=dd_ p;have K:=G.one J
  match hr:x.roles,K with
  | [r],_ =>
    have B:=G.roles r (by rw[hr];simp);have F:=dd_ B;exact cw_ n ⟨rfl,⟨by simp,by simp,by simp,by simp;omega,by simp,by dsimp only;omega⟩,val5 h0 h1 (by simpa using cG_ B) (cG_ p)⟩
 split
 .rename_i N
  have p:=G.role zaa_;have m:=G.chain N
  match hr:x.roles,m with
  | [],m=>simp at m
  | r::t,m =>
    have B:=G.roles r (by rw[hr];simp);have F:=dd_ B;have e:=iq_ B;simp only[yai_]at m;simp only[ybW_,ycZ_,List.headD_cons];exact nS_ h0 h1 x.role p t r [] (λq H=>G.roles q (by rw[hr];simp[H])) (by rw[e];simp;omega) (by rw[e];simp[cM_ B]) (by rw[e];simp;omega) n
 split
 .have p:=G.role zaa_;have pl:=dd_ p
  exact cw_ n ⟨rfl,⟨by simp,by simp,by simp,by dsimp only;omega,by simp,by simp⟩,val7 h0 h1 (cG_ p)⟩
 split
 .have r:=G.right zaa_;have v:=A _ d.right r;have p:=G.a zaa_;have pl:=fL_ p
  exact cw_ (E _ d.right r _ n) ⟨rfl,⟨by simp;omega,by simp,by dsimp only;omega,by simp,by simp,by simp⟩,sj_ h0 h1 (gh_ p) v.1⟩
 have p:=G.role zaa_;have pl:=dd_ p;have I:=G.a zaa_;have pb:=G.b zaa_;have P:=fL_ I;have Q:=fL_ pb;exact cw_ n ⟨rfl,⟨by simp;omega,by simp,by simp;omega,by dsimp only;omega,by simp,by simp⟩,val3 h0 h1 (gh_ I) (cG_ p) (gh_ pb)⟩
end
end Ax
def dH_ (k:Int) (p:Pc):Pc:={ p with frm:=p.frm+k }
theorem uN_ {k:Int} {p q:Pc} (h:dH_ k p=dH_ k q):p=q:=by
  cases p;cases q;simp only[dH_,Pc.mk.injEq]at h ⊢;refine⟨h.1,h.2.1,h.2.2.1,h.2.2.2.1,h.2.2.2.2.1,h.2.2.2.2.2.1,h.2.2.2.2.2.2.1,h.2.2.2.2.2.2.2.1,h.2.2.2.2.2.2.2.2.1,by omega⟩
theorem bZ_ (f k:Int) (l:List Pc) (p:Pc):ins (f+k) (l.map (dH_ k)) p=(ins f l p).map (dH_ k):=by
 have hm:({ p with frm:=f+k }:Pc)∈l.map (dH_ k)↔({ p with frm:=f }:Pc)∈l:=by
   rw[yas_];constructor
   . rintro ⟨q,d,e⟩
     have:q={ p with frm:=f }:=uN_ (k:=k) e;exact this▸d
   . exact λh=>⟨_,h,rfl⟩
 unfold ins
 by_cases h:({ p with frm:=f }:Pc)∈l
 .rw[yaq_ (hm.2 h),yaq_ h]
 rw[yaf_ (λq=>h (hm.1 q)),yaf_ h,yaw_];rfl
namespace Con
theorem nW_ (f k:Int) (c:Con):∀ (r:List Con) (j:Nat) (a:Str) (l:List Pc),andP (f+k) c r j a (l.map (dH_ k))=(andP f c r j a l).map (dH_ k)
  | [],_,_,_=>rfl
  | p::r,j,a,l=>by simp only[andP,bZ_];exact nW_ f k c r (j+1) _ _
theorem leftP_shift (f k:Int):∀ (m:Nat) (c:Con),c.sz<=m->∀ l,c.leftP (f+k) (l.map (dH_ k))=(c.leftP f l).map (dH_ k)
 | 0,c,h=>by have:=c.sz_pos;omega
 | m+1,c,h=>λl=>by
   have v:∀ ps:List Con,(∀ p∈ps,p.sz<=m)->∀ l,leftP.lefts (f+k) ps (l.map (dH_ k))=(leftP.lefts f ps l).map (dH_ k):=by
     intro ps
     induction ps with
     | nil=>intro _ l;rfl
     | cons p ps ih =>
       intro d l;simp only[leftP.lefts];rw[leftP_shift f k m p (d p zai_) l];exact ih (λq y=>d q zbo_) _
   have x:=v c.parts (λp d=>by have:=sz_part d;omega) l;rw[leftP_eq,leftP_eq,x]
   split
   . exact nW_ _ _ _ _ _ _ _
   . split
     . exact bZ_ _ _ _ _
     . split
       . exact bZ_ _ _ _ _
       . rfl
theorem rightP_shift (f k:Int):∀ (m:Nat) (c:Con),c.sz<=m->∀ l,c.rightP (f+k) (l.map (dH_ k))=(c.rightP f l).map (dH_ k)
 | 0,c,h=>by have:=c.sz_pos;omega
 | m+1,c,h=>λl=>by
   have y:∀ ps:List Con,(∀ p∈ps,p.sz<=m)->∀ a l,rightP.rights (f+k) a ps (l.map (dH_ k))=(rightP.rights f a ps l).map (dH_ k):=by
     intro ps
     induction ps with
     | nil=>intro _ a l;rfl
     | cons p ps ih =>
       intro d a l;simp only[rightP.rights];rw[bZ_,rightP_shift f k m p (d p zai_)];exact ih (λq A=>d q zbu_) _ _
   have x:∀ ps:List Con,(∀ p∈ps,p.sz<=m)->∀ l,rightP.righty (f+k) ps (l.map (dH_ k))=(rightP.righty f ps l).map (dH_ k):=by
     intro ps
     induction ps with
     | nil=>intro _ l;rfl
     | cons p ps ih =>
       intro d l;simp only[rightP.righty];rw[rightP_shift f k m p (d p zai_)];exact ih (λq A=>d q zbu_) _
   have v:∀ p∈c.parts,p.sz<=m:=λp d=>by have:=sz_part d;omega
   rw[rightP_eq,rightP_eq]
   split
   . exact y c.parts v _ l
   . split
     . rw[bZ_];exact x c.parts v _
     . split
       . exact bZ_ _ _ _ _
       . rfl
end Con
theorem Ax.chainP_shift (f k:Int) (d:Str):∀ (m:List Str) (g:Str) (l:List Pc),Ax.chainP (f+k) d m g (l.map (dH_ k))=(Ax.chainP f d m g l).map (dH_ k)
  | [],_,_=>rfl
  | r::t,g,l=>by simp only[Ax.chainP,bZ_];exact Ax.chainP_shift f k d t _ _
theorem Ax.pieces_shift (f k:Int) (x:Ax):x.pieces (f+k)=(x.pieces f).map (dH_ k):=by
 have L:=λ(c:Con) l=>Con.leftP_shift f k _ c (yae_ _) l
 have d:=λ(c:Con) l=>Con.rightP_shift f k _ c (yae_ _) l
 have n:([]:List Pc)=([]:List Pc).map (dH_ k):=rfl;unfold Ax.pieces
 repeat' split
 .rw[n,L,d,bZ_];rfl
 .rw[n,L,d,bZ_,L,d,bZ_];rfl
 .rw[n,L,L,bZ_];rfl
 .rw[n,d,bZ_];rfl
 .rw[n,bZ_];rfl
 .rw[n,Ax.chainP_shift];rfl
 .rw[n,bZ_];rfl
 .rw[n,d,bZ_];rfl
 rw[n,bZ_];rfl
def bE_:Nat->List Ax->List Pc
  | _,[]=>[]
  | i,x::l=>x.pieces (i:Int)++bE_ (i+1) l
theorem iw_:∀ (i:Nat) (l:List Ax),(∀ x∈l,x.check=0)->(bE_ i l).length<=1000*l.length
  | _,[],_=>by simp[bE_]
  | i,x::l,h=>by
    have h1:=fZ_ (i:Int) (Ax.good_of (h x zai_));have m:=iw_ (i+1) l λy d=>h y zaK_
    simp only[bE_,yaj_,yai_];omega
theorem oS_:∀ (l:List Ax) (i:Nat) (p:List Pc),(∀ x∈l,x.check=0)->p.length+1000*l.length<=16384->hC_ i l p=some (p++bE_ i l)
  | [],i,p,_,_=>by simp[hC_,bE_]
  | x::l,i,p,h,hl=>by
    have h1:=fZ_ (i:Int) (Ax.good_of (h x zai_));simp only[yai_]at hl;simp only[hC_,bE_];rw[yaf_ zal_,oS_ l (i+1) _ (λy d=>h y zaK_) zal_,yap_]
theorem ix_:∀ (l:List Ax) (i:Nat),i+l.length<=1024->(∀ x∈l,x.ok)->(∀ x∈l,x.check=0)->∀ q∈bE_ i l,(i:Int)<=q.frm/\q.frm<((i+l.length:Nat):Int)/\q.sm/\q.valid=true
 | [],_,_,_,_=>by simp[bE_]
 | x::l,i,hi,hok,hc=>by
   simp only[yai_]at hi ⊢;intro q d;simp only[bE_]at d;rcases yag_.1 d with d|d
   . have h:=Ax.pieces_all (f:=(i:Int)) zaa_ zaa_ (hok x zai_) (hc x zai_) q d
     exact⟨by rw[h.frm];omega,by rw[h.frm];omega,h.sm,h.ok⟩
   . have h:=ix_ l (i+1) zaa_ (λy m=>hok y zbn_) (λy m=>hc y zbn_) q d
     exact⟨by omega,by omega,h.2.2⟩
theorem jt_ {l:List Ax} (hl:l.length<=12) (h:∀ x∈l,x.check=0):aI_ l=(bE_ 0 l,0):=by
  unfold aI_;rw[yaf_ zaa_,yaf_ (by simp[ff_ h]),oS_ l 0 [] h zal_];simp
theorem rd_ {l:List Ax} (hl:l.length<=12) (h:cT_ l≠0):aI_ l=([],cT_ l):=by
  unfold aI_;rw[yaf_ zaa_,yaq_ h]
end Go.Vs
namespace Go.Vs
open Go Go.Sx
section
variable {f:Int} {R:List Pc->List Pc->Prop} (hr:∀ l,R l l) (ht:∀ {a b c},R a b->R b c->R a c) (hi:∀ l p,R l (ins f l p))
include hr ht hi
theorem rY_ (c:Con):∀ (r:List Con) (j:Nat) (a:Str) (l:List Pc),R l (c.andP f r j a l)
  | [],_,_,l=>hr l
  | p::r,j,a,l=>ht (hi l _) (rY_ c r (j+1) _ _)
theorem kU_:∀ (m:Nat) (c:Con),c.sz<=m->∀ l,R l (c.leftP f l)
 | 0,c,h=>by have:=c.sz_pos;omega
 | m+1,c,h=>λl=>by
   have v:∀ ps:List Con,(∀ p∈ps,p.sz<=m)->∀ l,R l (Con.leftP.lefts f ps l):=by
     intro ps
     induction ps with
     | nil=>intro _ l;exact hr l
     | cons p ps ih=>intro d l;exact ht (kU_ m p (d p zai_) l) (ih (λq y=>d q zbo_) _)
   have x:=v c.parts (λp d=>by have:=Con.sz_part d;omega) l;rw[Con.leftP_eq]
   split
   . exact ht x (rY_ hr ht hi c _ _ _ _)
   . split
     . exact ht x (hi _ _)
     . split
       . exact hi _ _
       . exact hr l
theorem hu_:∀ (m:Nat) (c:Con),c.sz<=m->∀ l,R l (c.rightP f l)
 | 0,c,h=>by have:=c.sz_pos;omega
 | m+1,c,h=>λl=>by
   have y:∀ ps:List Con,(∀ p∈ps,p.sz<=m)->∀ a l,R l (Con.rightP.rights f a ps l):=by
     intro ps
     induction ps with
     | nil=>intro _ a l;exact hr l
     | cons p ps ih=>intro d a l;exact ht (hi _ _) (ht (hu_ m p (d p zai_) _) (ih (λq A=>d q zbu_) _ _))
   have x:∀ ps:List Con,(∀ p∈ps,p.sz<=m)->∀ l,R l (Con.rightP.righty f ps l):=by
     intro ps
     induction ps with
     | nil=>intro _ l;exact hr l
     | cons p ps ih=>intro d l;exact ht (hu_ m p (d p zai_) l) (ih (λq A=>d q zbu_) _)
   have v:∀ p∈c.parts,p.sz<=m:=λp d=>by have:=Con.sz_part d;omega
   rw[Con.rightP_eq]
   split
   . exact y c.parts v _ l
   . split
     . exact ht (hi _ _) (x c.parts v _)
     . split
       . exact hi _ _
       . exact hr l
theorem nR_ (d:Str):∀ (m:List Str) (g:Str) (l:List Pc),R l (Ax.chainP f d m g l)
  | [],_,l=>hr l
  | r::t,g,l=>ht (hi l _) (nR_ d t _ _)
theorem kR_:∀ (xs:List Str) (l:List Pc),R l (aw_ f xs l)
  | [],l=>hr l
  | a::r,l=>ht (hi l _) (kR_ r _)
theorem nc_ (x:Ax):R [] (x.pieces f):=by
 have L:=λ(c:Con) l=>kU_ hr ht hi _ c (yae_ _) l
 have Q:=λ(c:Con) l=>hu_ hr ht hi _ c (yae_ _) l
 unfold Ax.pieces
 repeat' split
 .exact ht (L _ _) (ht (Q _ _) (hi _ _))
 .exact ht (L _ _) (ht (Q _ _) (ht (hi _ _) (ht (L _ _) (ht (Q _ _) (hi _ _)))))
 .exact ht (L _ _) (ht (L _ _) (hi _ _))
 .exact ht (Q _ _) (hi _ _)
 .exact hi _ _
 .exact nR_ hr ht hi _ _ _ _
 .exact hi _ _
 .exact ht (Q _ _) (hi _ _)
 exact hi _ _
end
structure Gr (a b:List Pc):Prop where
  nodup:a.Nodup->b.Nodup
  sub:∀ q∈a,q∈b
theorem Gr.refl (l:List Pc):Gr l l:=⟨id,λ_ h=>h⟩
theorem Gr.trans {a b c:List Pc} (h:Gr a b) (k:Gr b c):Gr a c:=⟨λq=>k.nodup (h.nodup q),λq d=>k.sub q (h.sub q d)⟩
theorem Gr.ins (f:Int) (l:List Pc) (p:Pc):Gr l (ins f l p):=by
 unfold Vs.ins
 split
 .exact Gr.refl l
 rename_i h
 refine⟨λx=>?_,λq m=>yal_ _ m⟩;rw[yaY_];exact⟨x,by simp,λa v b d=>by simp only[yak_]at d;subst d;rintro rfl;exact h v⟩
theorem zZ_ (f:Int) (l:List Pc) (p:Pc):{ p with frm:=f }∈ins f l p:=by
 unfold ins
 split
 .assumption
 simp
theorem oH_ (f:Int):∀ (xs:List Str) (l:List Pc),∀ a∈xs,{ dW_ a [42] with frm:=f }∈aw_ f xs l
 | [],_,_,h=>by cases h
 | x::xs,l,a,h=>by
   rcases yan_.1 h with rfl|h
   . exact (kR_ (f:=f) Gr.refl Gr.trans (Gr.ins f) xs _).sub _ (zZ_ f l _)
   . exact oH_ f xs _ a h
theorem oI_ {f:Int} (m:-1<=f) (d:f<1024):∀ (xs:List Str) (l:List Pc),(∀ a∈xs,aD_ a=true/\a.length<=1000000000000)->(∀ q∈l,PQ f q)->∀ q∈aw_ f xs l,PQ f q
  | [],_,_,hl=>hl
  | a::r,l,ha,hl=>by
    have h:=ha a zai_;exact oI_ m d r _ (λb v=>ha b (by simp[v])) (cw_ hl ⟨rfl,⟨by simp[dW_];omega,by simp[dW_],by simp[dW_],by simp[dW_],by simp[dW_],by simp[dW_]⟩,sj_ m d h.1 rfl⟩)
def wgt (c:Con):Nat:=if c.kind=0 then 0 else c.sz
structure SmallLaw (x:Ax):Prop where
  few:1<=(x.pieces 0).length/\(x.pieces 0).length<=4*(wgt x.left+wgt x.right)+3
  nodup:(x.pieces 0).Nodup
  gnodup:x.goalP.1.Nodup
  gfrm:∀ q∈x.goalP.1,q.frm=-1
  role:x.kind=5\/x.kind=6\/x.kind=7->x.goalP=([],[],22)
  rest:¬ (x.kind=5\/x.kind=6\/x.kind=7)->x.goalP.2.2=0/\bq_ x.goalP.1=0/\1<=x.goalP.2.1.length/\x.goalP.2.1.length<=2/\∀ g∈x.goalP.2.1,(⟨1,g.a,[],[42],[],[],[],0,0,-1⟩:Pc)∈x.goalP.1/\(⟨1,g.b,[],[42],[],[],[],0,0,-1⟩:Pc)∈x.goalP.1
  sm:∀ q∈x.goalP.1,q.sm
  len:x.goalP.1.length<=2000
theorem xQ_ {x:Ax} (h:x.check≠0):x.goalP=([],[],x.check):=by unfold Ax.goalP;rw[yaq_ h]
theorem rw_ {c:Con} (h:c.check=0):wgt c=c.sz:=by
  have F:=Con.fields (Con.check_zero h).1;unfold wgt;rw[yaf_ (by have:=F.k1;omega)]
theorem nd_ {x:Ax} (H:x.check=0):(x.pieces 0).length<=4*(wgt x.left+wgt x.right)+3:=by
 have G:=Ax.good_of H;have L:=λ(c:Con) l=>Con.leftP_len 0 _ c (yae_ _) l
 have Q:=λ(c:Con) l=>Con.rightP_len 0 _ c (yae_ _) l
 have B:x.kind<=3->wgt x.left=x.left.sz:=λh=>rw_ (G.left h)
 have d:x.kind<=4\/x.kind=8->wgt x.right=x.right.sz:=λh=>rw_ (G.right h)
 have N:([]:List Pc).length=0:=rfl;have I:=λl p=>bC_ 0 l p
 have E:∀ (m:Str) (y:List Str) (f:Str) (l:List Pc),(Ax.chainP 0 m y f l).length<=l.length+y.length:=by
   intro m y
   induction y with
   | nil=>intro f l;simp[Ax.chainP]
   | cons r t ih =>
     intro f l;simp only[Ax.chainP];have v:=ih (if t=[] then m else f++[46]++r) (ins 0 l ⟨6,[],[],[],f,r,if t=[] then m else f++[46]++r,0,0,0⟩);have C:=I l ⟨6,[],[],[],f,r,if t=[] then m else f++[46]++r,0,0,0⟩;simp only[yai_];omega
 unfold Ax.pieces
 split
 .have:=B zaa_;have:=d zaa_
  have v:=L x.left [];have C:=Q x.right (x.left.leftP 0 []);have A:=I (x.right.rightP 0 (x.left.leftP 0 [])) ⟨1,x.left.atom,[],x.right.atom,[],[],[],0,0,0⟩;omega
 split
 .have:=B zaa_;have:=d zaa_
  have v:=L x.left [];have C:=Q x.right (x.left.leftP 0 []);have A:=I (x.right.rightP 0 (x.left.leftP 0 [])) ⟨1,x.left.atom,[],x.right.atom,[],[],[],0,0,0⟩;have J:=L x.right (ins 0 (x.right.rightP 0 (x.left.leftP 0 [])) ⟨1,x.left.atom,[],x.right.atom,[],[],[],0,0,0⟩);have M:=Q x.left (x.right.leftP 0 (ins 0 (x.right.rightP 0 (x.left.leftP 0 [])) ⟨1,x.left.atom,[],x.right.atom,[],[],[],0,0,0⟩));have K:=I (x.left.rightP 0 (x.right.leftP 0 (ins 0 (x.right.rightP 0 (x.left.leftP 0 [])) ⟨1,x.left.atom,[],x.right.atom,[],[],[],0,0,0⟩))) ⟨1,x.right.atom,[],x.left.atom,[],[],[],0,0,0⟩;omega
 split
 .have:=B zaa_;have:=d zaa_
  have v:=L x.left [];have C:=L x.right (x.left.leftP 0 []);have A:=I (x.right.leftP 0 (x.left.leftP 0 [])) ⟨2,x.left.atom,x.right.atom,[33],[],[],[],0,0,0⟩;omega
 split
 .have:=d zaa_
  have v:=Q x.right [];have A:=I (x.right.rightP 0 []) ⟨4,[42],[],x.right.atom,x.role,[],[],0,0,0⟩;omega
 split
 .have:=I [] ⟨5,[],[],[],x.roles.headD [],[],x.role,0,0,0⟩;omega
 split
 .rename_i F
  have:=G.chain F;have:=E x.role (x.roles.drop 1) (x.roles.headD []) [];simp only[ycn_]at this;omega
 split
 .have:=I [] ⟨7,[],[],[],x.role,[],[],0,0,0⟩;omega
 split
 .have:=d zaa_
  have v:=Q x.right [];have A:=I (x.right.rightP 0 []) ⟨1,[123]++x.a++[125],[],x.right.atom,[],[],[],0,0,0⟩;omega
 have:=I [] ⟨3,[123]++x.a++[125],[],[123]++x.b++[125],x.role,[],[],0,0,0⟩;omega
structure GoalOk (p:List Pc) (l:List Fc):Prop where
  gr:p.Nodup
  pq:∀ q∈p,PQ (-1) q
  len:p.length<=2000
  one:1<=l.length/\l.length<=2
  ment:∀ g∈l,(⟨1,g.a,[],[42],[],[],[],0,0,-1⟩:Pc)∈p/\(⟨1,g.b,[],[42],[],[],[],0,0,-1⟩:Pc)∈p
theorem Ae_ {x:Ax} (d:x.ok) (m:x.check=0) (hk:¬ (x.kind=5\/x.kind=6\/x.kind=7)):GoalOk x.goalP.1 x.goalP.2.1/\x.goalP.2.2=0:=by
 have G:=Ax.good_of m;have k1:=G.k1;have k9:=G.k9;have gr:=λl p=>Gr.ins (-1) l p
 have L:=λ(c:Con) l=>kU_ (f:=-1) Gr.refl Gr.trans gr _ c (yae_ _) l
 have Q:=λ(c:Con) l=>hu_ (f:=-1) Gr.refl Gr.trans gr _ c (yae_ _) l
 have M:=λxs l=>kR_ (f:=-1) Gr.refl Gr.trans gr xs l
 have C:=λxs l a h=>oH_ (-1) xs l a h
 have J:=λ(c:Con) (d:c.ok) (m:c.check=0) l hl=>Con.leftP_all (f:=-1) zac_ zac_ _ c (yae_ _) d m l hl
 have K:=λ(c:Con) (d:c.ok) (m:c.check=0) l hl=>Con.rightP_all (f:=-1) zac_ zac_ _ c (yae_ _) d m l hl
 have E:=λxs l hx hl=>oI_ (f:=-1) zac_ zac_ xs l hx hl
 have n:∀ q∈([]:List Pc),PQ (-1) q:=λq hq=>by cases hq
 have A:=λ(c:Con) (d:c.ok) (m:c.check=0)=>(⟨Con.atom_ok m,by have:=Con.atom_len d m;omega⟩:aD_ c.atom=true/\c.atom.length<=1000000000000)
 have O:=λ(c:Con) l=>Con.leftP_len (-1) _ c (yae_ _) l
 have P:=λ(c:Con) l=>Con.rightP_len (-1) _ c (yae_ _) l
 have H:=λxs l=>dw_ (-1) xs l
 have U:=λl p=>bC_ (-1) l p
 have sl:x.kind<=3->x.left.sz<=64:=λh=>(Con.check_zero (G.left h)).2
 have sr:x.kind<=4\/x.kind=8->x.right.sz<=64:=λh=>(Con.check_zero (G.right h)).2
 have nd:([]:List Pc).Nodup:=ybZ_
 have two:∀ (a b:Str),aD_ a=true/\a.length<=1000000000000->aD_ b=true/\b.length<=1000000000000->∀ c∈[a,b],aD_ c=true/\c.length<=1000000000000:=by
   intro a b ha hb c m;simp only[yan_,yaJ_,ybG_]at m;rcases m with rfl|rfl
   . exact ha
   . exact hb
 have S:∀ (a b:Str) (p:List Pc) (r:Str),Gr (aw_ (-1) [a,b] []) p->∀ g∈[(⟨1,a,b,r,0,0⟩:Fc)],(⟨1,g.a,[],[42],[],[],[],0,0,-1⟩:Pc)∈p/\(⟨1,g.b,[],[42],[],[],[],0,0,-1⟩:Pc)∈p:=by
   intro a b p r N g hm;simp only[yak_]at hm;subst hm;exact⟨N.sub _ (C [a,b] [] a zai_),N.sub _ (C [a,b] [] b zai_)⟩
 unfold Ax.goalP;rw[yaf_ zaa_]
 split
 .have l:=G.left zaa_;have r:=G.right zaa_;have I:=A _ d.left l;have B:=A _ d.right r;have:=sl zaa_;have:=sr zaa_
  have y:=Q x.left (aw_ (-1) [x.left.atom,x.right.atom] []);have F:=L x.right (x.left.rightP (-1) (aw_ (-1) [x.left.atom,x.right.atom] []));refine⟨⟨(Gr.trans (M _ _) (Gr.trans y F)).nodup nd,J _ d.right r _ (K _ d.left l _ (E _ _ (two _ _ I B) n)),?_,by simp,S _ _ _ _ (Gr.trans y F)⟩,rfl⟩;have:=H [x.left.atom,x.right.atom] [];have:=P x.left (aw_ (-1) [x.left.atom,x.right.atom] []);have:=O x.right (x.left.rightP (-1) (aw_ (-1) [x.left.atom,x.right.atom] []));simp only[yai_,yaB_]at *;omega
 split
 .have l:=G.left zaa_;have r:=G.right zaa_;have I:=A _ d.left l;have B:=A _ d.right r;have:=sl zaa_;have:=sr zaa_
  have y:=Q x.left (aw_ (-1) [x.left.atom,x.right.atom] []);have F:=L x.right (x.left.rightP (-1) (aw_ (-1) [x.left.atom,x.right.atom] []));have W:=Q x.right (x.right.leftP (-1) (x.left.rightP (-1) (aw_ (-1) [x.left.atom,x.right.atom] [])));have g4:=L x.left (x.right.rightP (-1) (x.right.leftP (-1) (x.left.rightP (-1) (aw_ (-1) [x.left.atom,x.right.atom] []))));have v:=Gr.trans y (Gr.trans F (Gr.trans W g4));refine⟨⟨(Gr.trans (M _ _) v).nodup nd,J _ d.left l _ (K _ d.right r _ (J _ d.right r _ (K _ d.left l _ (E _ _ (two _ _ I B) n)))),?_,by simp,?_⟩,rfl⟩
  .have:=H [x.left.atom,x.right.atom] [];have:=P x.left (aw_ (-1) [x.left.atom,x.right.atom] []);have:=O x.right (x.left.rightP (-1) (aw_ (-1) [x.left.atom,x.right.atom] []))
   have:=P x.right (x.right.leftP (-1) (x.left.rightP (-1) (aw_ (-1) [x.left.atom,x.right.atom] [])));have:=O x.left (x.right.rightP (-1) (x.right.leftP (-1) (x.left.rightP (-1) (aw_ (-1) [x.left.atom,x.right.atom] []))));simp only[yai_,yaB_]at *;omega
  intro g N;simp only[yan_,yaJ_,ybG_]at N;have e1:=C [x.left.atom,x.right.atom] [] x.left.atom zai_;have Y:=C [x.left.atom,x.right.atom] [] x.right.atom zai_;rcases N with rfl|rfl
  .exact⟨v.sub _ e1,v.sub _ Y⟩
  exact⟨v.sub _ Y,v.sub _ e1⟩
 split
 .have l:=G.left zaa_;have r:=G.right zaa_;have I:=A _ d.left l;have B:=A _ d.right r;have:=sl zaa_;have:=sr zaa_
  have o1:=Con.operandN_len d.left;have o2:=Con.operandN_len d.right
  have ax:aD_ x.disj=true/\x.disj.length<=1000000000000:=by
    refine⟨?_,by simp[Ax.disj];omega⟩;have e:x.disj=[60]++(x.left.operandN++[32,97,110,100,32]++x.right.operandN)++[62]:=by simp[Ax.disj]
    rw[e];exact jD_ zai_
  have b1:∀ (l:List Pc),(∀ q∈l,PQ (-1) q)->∀ (c:Str),aD_ c=true->c.length<=1000000000000->∀ q∈ins (-1) l (dW_ x.disj c),PQ (-1) q:=λl hl c m hcl=>cw_ hl ⟨rfl,⟨by simp[dW_];omega,by simp[dW_],by simp[dW_];omega,by simp[dW_],by simp[dW_],by simp[dW_]⟩,sj_ zac_ zac_ ax.1 m⟩
  have V:=gr (aw_ (-1) [x.disj,[33]] []) (dW_ x.disj x.left.atom);have y:=Q x.left (ins (-1) (aw_ (-1) [x.disj,[33]] []) (dW_ x.disj x.left.atom));have F:=gr (x.left.rightP (-1) (ins (-1) (aw_ (-1) [x.disj,[33]] []) (dW_ x.disj x.left.atom))) (dW_ x.disj x.right.atom);have W:=Q x.right (ins (-1) (x.left.rightP (-1) (ins (-1) (aw_ (-1) [x.disj,[33]] []) (dW_ x.disj x.left.atom))) (dW_ x.disj x.right.atom));have v:=Gr.trans V (Gr.trans y (Gr.trans F W));refine⟨⟨(Gr.trans (M _ _) v).nodup nd,K _ d.right r _ (b1 _ (K _ d.left l _ (b1 _ (E _ _ (two _ _ ax ⟨rfl,by simp⟩) n) _ I.1 I.2)) _ B.1 B.2),?_,by simp,S _ _ _ _ v⟩,rfl⟩;have:=H [x.disj,[33]] [];have:=U (aw_ (-1) [x.disj,[33]] []) (dW_ x.disj x.left.atom);have:=P x.left (ins (-1) (aw_ (-1) [x.disj,[33]] []) (dW_ x.disj x.left.atom));have:=U (x.left.rightP (-1) (ins (-1) (aw_ (-1) [x.disj,[33]] []) (dW_ x.disj x.left.atom))) (dW_ x.disj x.right.atom);have:=P x.right (ins (-1) (x.left.rightP (-1) (ins (-1) (aw_ (-1) [x.disj,[33]] []) (dW_ x.disj x.left.atom))) (dW_ x.disj x.right.atom));simp only[yai_,yaB_]at *;omega
 split
 .have r:=G.right zaa_;have B:=A _ d.right r;have:=sr zaa_;have p:=G.role zaa_;have pl:=dd_ p
  have Z:aD_ x.doms=true/\x.doms.length<=1000000000000:=by
    refine⟨?_,by simp[Ax.doms];omega⟩;have e:x.doms=[60]++([115,111,109,101,32]++x.role++[32,101,118,101,114,121,116,104,105,110,103])++[62]:=by simp[Ax.doms]
    rw[e];exact jD_ zai_
  have V:=gr (aw_ (-1) [x.doms,x.right.atom] []) ⟨3,x.doms,[],[42],x.role,[],[],0,0,0⟩;have y:=L x.right (ins (-1) (aw_ (-1) [x.doms,x.right.atom] []) ⟨3,x.doms,[],[42],x.role,[],[],0,0,0⟩);have v:=Gr.trans V y;refine⟨⟨(Gr.trans (M _ _) v).nodup nd,J _ d.right r _ (cw_ (E _ _ (two _ _ Z B) n) ⟨rfl,⟨by dsimp only;omega,by simp,by simp,by dsimp only;omega,by simp,by simp⟩,val3 zac_ zac_ Z.1 (cG_ p) rfl⟩),?_,by simp,S _ _ _ _ v⟩,rfl⟩;have:=H [x.doms,x.right.atom] [];have:=U (aw_ (-1) [x.doms,x.right.atom] []) ⟨3,x.doms,[],[42],x.role,[],[],0,0,0⟩;have:=O x.right (ins (-1) (aw_ (-1) [x.doms,x.right.atom] []) ⟨3,x.doms,[],[42],x.role,[],[],0,0,0⟩);simp only[yai_,yaB_]at *;omega
 split
 .have r:=G.right zaa_;have B:=A _ d.right r;have:=sr zaa_;have p:=G.a zaa_;have pl:=fL_ p
  have T:aD_ (cq_ x.a)=true/\(cq_ x.a).length<=1000000000000:=⟨gh_ p,by simp[cq_];omega⟩;have y:=L x.right (aw_ (-1) [cq_ x.a,x.right.atom] []);refine⟨⟨(Gr.trans (M _ _) y).nodup nd,J _ d.right r _ (E _ _ (two _ _ T B) n),?_,by simp,S _ _ _ _ y⟩,rfl⟩;have:=H [cq_ x.a,x.right.atom] [];have:=O x.right (aw_ (-1) [cq_ x.a,x.right.atom] []);simp only[yai_,yaB_]at *;omega
 split
 .have p:=G.a zaa_;have pl:=fL_ p;have X:=G.b zaa_;have pl2:=fL_ X
  have T:aD_ (cq_ x.a)=true/\(cq_ x.a).length<=1000000000000:=⟨gh_ p,by simp[cq_];omega⟩;have bi:aD_ (cq_ x.b)=true/\(cq_ x.b).length<=1000000000000:=⟨gh_ X,by simp[cq_];omega⟩;refine⟨⟨(M _ _).nodup nd,E _ _ (two _ _ T bi) n,?_,by simp,?_⟩,rfl⟩
  .have:=H [cq_ x.a,cq_ x.b] []
   simp only[yai_,yaB_]at *;omega
  intro g hm;simp only[yak_]at hm;subst hm;exact⟨C [cq_ x.a,cq_ x.b] [] (cq_ x.a) zai_,C [cq_ x.a,cq_ x.b] [] (cq_ x.b) zai_⟩
 exfalso;omega
theorem uM_ {x:Ax} (A:x.ok) (y:x.check=0):SmallLaw x:=by
 have G:=Ax.good_of y;have C:=Ax.pieces_ne 0 G;have m:1<=(x.pieces 0).length:=ycj_.2 C
 have d:x.kind=5\/x.kind=6\/x.kind=7->x.goalP=([],[],22):=λh=>by
   unfold Ax.goalP;rw[yaf_ zaa_]
   repeat rw[yaf_ zaa_]
 by_cases B:x.kind=5\/x.kind=6\/x.kind=7
 .have e:=d B
  refine⟨⟨m,nd_ y⟩,(nc_ (f:=0) Gr.refl Gr.trans (Gr.ins 0) x).nodup ybZ_,by rw[e];simp,by rw[e];simp,d,λh=>absurd B h,by rw[e];simp,by rw[e];simp⟩
 obtain⟨g,e⟩:=Ae_ A y B;refine⟨⟨m,nd_ y⟩,(nc_ (f:=0) Gr.refl Gr.trans (Gr.ins 0) x).nodup ybZ_,g.gr,λq v=>(g.pq q v).frm,d,λ_=>⟨e,?_,g.one.1,g.one.2,g.ment⟩,λq v=>(g.pq q v).sm,g.len⟩;unfold bq_;rw[yaf_ (by have:=g.len;omega),yaq_ (yaQ_.2 λq v=>(g.pq q v).ok)]
theorem rc_ (x:Ax):aI_ [x]=if x.check=0 then (x.pieces 0,0) else ([],x.check):=by
 by_cases d:x.check=0
 .rw[yaq_ d]
  have:=jt_ (l:=[x]) zai_ zbg_;rw[this];simp[bE_]
 rw[yaf_ d,rd_ zai_ (by simp[cT_,d])];simp[cT_,d]
end Go.Vs
namespace Go.Sx
open Go
section
variable {P:Program} {N:Nf} {fr:Fr} {H:Hp} {Γ:List Fct}
theorem nT_:∀ (x y:List UInt8),Op.bytesLess x y=decide (x<y)
  | [],[]=>by simp[Op.bytesLess]
  | _::_,[]=>by simp[Op.bytesLess]
  | [],_::_=>by simp[Op.bytesLess]
  | a::x,b::y=>by
    rw[Op.bytesLess,nT_ x y];simp only[ycp_]
    by_cases d:a<b<;>by_cases v:a=b<;>by_cases m:x<y<;>simp[d,v,m]
theorem Ax_ (x y:List UInt8):(Op.bytesLess x y||x==y)=decide (x<=y):=by
 rw[nT_]
 by_cases h:x<=y
 .rw[yaE_ h]
  by_cases e:x=y
  .simp[e]
  have:x<y:=by
    apply Decidable.byContradiction
    intro d;exact e (ydb_ h (yds_.1 d))
  simp[this]
 rw[ybi_ h];have m:¬ x<y:=λq=>h (List.le_of_lt q)
 have d:x≠y:=λe=>h (e▸List.le_refl x)
 simp[m,d]
theorem gJ_ {t B ty:TypeId} {x y:Operand} {m n:List UInt8} (C:Fr.ev fr x=some (str m)) (A:Fr.ev fr y=some (str n)):Yld P N fr H Γ (.binOp .lss t x y B) ty (.bool (decide (m<n))) :=
  λa v d _ _ _ _ _=>by rw[<-nT_];simp[execOp,d.ev C,d.ev A,str,eqGuard,binOp,Op.stringOp]
theorem mJ_ {f:FuncId} {args:Array Value} {r:Value} {g:Nat} {cur:Array Value} {T:TypeId} {d:Array (List UInt8)} (K:gj_ P f)
    (h:∀ v:Vw,v.sat [(g,.cells cur T (0,0))]->Calls P f args v.w λe w'=>e=.returned r/\∃ n os,w'=Sort.grow (Sort.putRow Go.Proofs.encStr (Sort.ahead v.w n) g 0 d) os) :
    Tri P f args [(g,.cells cur T (0,0))] Γ (λ_:Unit=>r) (λ_=>[(g,.cells (Sort.putCells Go.Proofs.encStr 0 d cur) T (0,0))]) (λ_=>[]) :=
  ⟨K,λv F _=>(h v F).mono λe w' ⟨J,n,os,x⟩=>by
    have E:=(F.own _ yau_);have B:g<v.w.heap.size:=(yaD_.1 E.1).1
    have A:∀ b,b<v.w.heap.size->w'.heap[b]? = if b=g then some (.cells (Sort.putCells Go.Proofs.encStr 0 d cur) T (0,0)) else v.w.heap[b]? := λb A=>by
      rw[x];simp only[Sort.grow,Sort.putRow,Sort.mapBlock,Sort.ahead];rw[ybH_ zba_,yby_]
      by_cases e:b=g
      . subst e
        simp only[yck_,E.1,yaX_,Sort.onCells]
      . rw[yaf_ (λq=>e q.symm),yaf_ e]
    have y:v.w.heap.size<=w'.heap.size:=by rw[x];simp[Sort.grow,Sort.putRow,Sort.mapBlock,Sort.ahead]
    refine⟨(),⟨v.im,w',v.sl⟩,J,rfl,⟨λp G=>?_,by simp,λb m=>ycs_ (F.lt b m) y⟩,trivial,⟨by rw[x];rfl,by rw[x];rfl,by rw[x];rfl,y,λb m I=>?_,λ_ h=>h,λ_ h=>.inl h,λb hm=>.inl (by simpa using hm),rfl,.inr (by rw[x];exact ydx_ _ _)⟩⟩
    . simp only[yak_]at G
      subst G;exact⟨by show w'.heap[g]? = _;rw[A g B,yaq_ rfl],E.2⟩
    . have C:b≠g:=by simpa using I
      show w'.heap[b]? = _
      rw[A b m,yaf_ C]⟩
theorem qS_ {cur:Array Value} {d:List (List UInt8)} (v:d.length<=cur.size):(Sort.putCells Go.Proofs.encStr 0 d.toArray cur).toList.take d.length=d.flatMap ar_:=by
 rw[mO_]
 apply ybx_
 intro j;rw[ybg_,yaH_]
 split
 .rename_i m
  simp only[Sort.putCells,ybe_,Array.getElem?_mapIdx];rw[yct_ zaa_];simp only[yaX_,ycg_,ydt_,yba_,ybF_,m,yck_,ydj_];rw[yaa_ m];simp only[yaX_];rw[getElem!_pos d.toArray j zaY_];rfl
 rename_i m
 rw[ybu_ zaa_];rfl
theorem qT_ {cur:Array Value} {d:Array (List UInt8)}:(Sort.putCells Go.Proofs.encStr 0 d cur).size=cur.size:=by simp[Sort.putCells]
end
end Go.Sx
namespace Go.Vs
open Go Go.Sx
def ofs (a:Int):Nat->List Pc->List Int
  | _,[]=>[]
  | i,p::r=>if p.frm=a then (i:Int)::ofs a (i+1) r else ofs a (i+1) r
theorem nl_ (a:Int):∀ (xs ys:List Pc) (i:Nat),ofs a i (xs++ys)=ofs a i xs++ofs a (i+xs.length) ys
  | [],ys,i=>by simp[ofs]
  | x::xs,ys,i=>by
    simp only[yav_,ofs,yai_];rw[nl_ a xs ys (i+1),show i+1+xs.length=i+(xs.length+1) by omega]
    split<;>simp
theorem rk_ (a:Int) {l:List Pc} {p:Pc} {i:Nat} (h:l[i]? = some p):ofs a 0 (l.take (i+1))=ofs a 0 (l.take i)++if p.frm=a then [(i:Int)] else []:=by
  have hi:=(yab_.1 h).1;rw[yao_,h,yaC_,nl_,yat_,ybn_ zaa_,yba_];simp only[ofs]
theorem pw_ (a:Int):∀ (l:List Pc) (i:Nat),(ofs a i l).length<=l.length
  | [],_=>by simp[ofs]
  | p::r,i=>by
    have:=pw_ a r (i+1);simp only[ofs]
    split<;>simp<;>omega
def kX_ (p:Pc):List Str:=[p.a,p.b,p.c].filter λs=>!(s==[])
def cm_ (l:List Pc):List Str:=l.flatMap kX_
def cn_ (l:List Pc):List Str:=Lib.compact ((cm_ l).mergeSort λx y=>decide (x<=y))
theorem jC_:∀ l:List Pc,(cm_ l).length<=3*l.length
  | []=>by simp[cm_]
  | p::r=>by
    have d:=jC_ r;have m:(kX_ p).length<=3:=by unfold kX_;exact ybN_ _ _
    simp only[cm_,yaV_,yaj_,yai_]at d ⊢;omega
theorem qF_ (l:List Str):(l.mergeSort λx y=>decide (x<=y)).Pairwise λx y=>x<=y:=by
  have h:=List.pairwise_mergeSort (le:=λx y:Str=>decide (x<=y)) (λa b c m d=>by simp only[ybo_]at *;exact List.le_trans m d) (λa b=>by
    simp only[ybK_,ybo_];exact List.le_total a b) l
  exact h.imp (λh=>ybf_ h)
theorem iC_ {d:List Str}:Lib.compact d=((List.range d.length).filter λj=>decide (j=0\/d[j]! ≠ d[j - 1]!)).map λj=>d[j]! := by
 unfold Lib.compact Lib.compactUpTo Lib.keeps
 have e:∀ j,d.toArray[j]! = d[j]! := λj=>by
   by_cases h:j<d.length
   . rw[getElem!_pos d.toArray j zaQ_,getElem!_pos d j h];simp
   . rw[getElem!_neg d.toArray j zaQ_,getElem!_neg d j h]
 rw[ybX_ λj _=>e j]
 congr 2
 funext j
 rw[e,e]
theorem iB_ (d:List Str):(Lib.compact d).length<=d.length:=by
  rw[iC_,yaO_];have:=ybN_ (λj=>decide (j=0\/d[j]! ≠ d[j - 1]!)) (List.range d.length);simpa using this
theorem lT_ {d:List Str} (x:Str):x∈Lib.compact d↔x∈d:=by
 rw[iC_,yas_];constructor
 .rintro ⟨j,m,rfl⟩
  have hl:=ybY_.1 (ybh_.1 m).1;rw[getElem!_pos d j hl];exact ycm_ hl
 intro y;obtain⟨j,m,e⟩:=List.mem_iff_getElem.1 y;clear y
 induction j with
 | zero=>exact⟨0,ybh_.2 ⟨ybY_.2 m,by simp⟩,by rw[getElem!_pos d 0 m];exact e⟩
 | succ j ih =>
   by_cases h:d[j+1]! = d[j]!
   . have v:j<d.length:=by omega
     refine ih v ?_;rw[getElem!_pos d (j+1) m,getElem!_pos d j v]at h;rw[<-h];exact e
   . exact⟨j+1,ybh_.2 ⟨ybY_.2 m,yaE_ (.inr h)⟩,by rw[getElem!_pos d (j+1) m];exact e⟩
theorem th_ {d:List Str} (M:d.Pairwise λx y=>x<=y):(Lib.compact d).Pairwise λx y=>x<y:=by
 rw[iC_,ycE_];have K:(List.range d.length).Pairwise (·<·):=List.pairwise_lt_range;have G:=K.filter (λj=>decide (j=0\/d[j]! ≠ d[j - 1]!));refine List.Pairwise.imp_of_mem ?_ G;intro j k Q F I;have B:=ybY_.1 (ybh_.1 F).1;have m:=(ybh_.1 F).2;simp only[ybo_]at m
 have A:d[k]! ≠ d[k - 1]! := by
   rcases m with h|h
   . omega
   . exact h
 have v:∀ a b,a<=b->b<d.length->d[a]!<=d[b]! := by
   intro a b C E;rcases Nat.lt_or_eq_of_le C with h|h
   . rw[getElem!_pos d a zaa_,getElem!_pos d b E]
     exact yaN_.1 M a b zaa_ E h
   . subst h;exact List.le_refl _
 have O:=v j (k - 1) zaa_ zaa_;have J:=v (k - 1) k zaa_ B
 have L:d[k - 1]! < d[k]! := by
   apply Decidable.byContradiction
   intro h;exact A (ydb_ (yds_.1 h) J)
 exact List.lt_of_le_of_lt O L
theorem gg_ (l:List Pc) (x:Str):x∈cn_ l↔x∈cm_ l:=by
  unfold cn_;rw[lT_,ycD_]
theorem el_ (l:List Pc):(cn_ l).length<=3*l.length:=by
  have d:=iB_ ((cm_ l).mergeSort λx y=>decide (x<=y));rw[ybz_]at d;have m:=jC_ l;unfold cn_;omega
end Go.Vs
namespace Go.Proofs.YtfjcabalehamcaaGreatDoor
open Go Go.Sx Go.Proofs Tryz
attribute [local irreducible] Code.wp wpList wpAnyH
open Go.Vs
theorem eltI:Elt prog 44 3 1 8:=gA_ ok_ (z:=i4_ 0) zad_ rfl zac_
theorem eltS:Elt prog 34 9 1 16:=gA_ ig_ (z:=.string ⟨#[]⟩) zad_ rfl zac_
theorem of_c (l:List Pc) (ad:Ao) (cap:Nat) (a:Int) (hl:l.length<=100000000000):Tri prog 9 #[.slice ad l.length cap,i4_ a] [] [L_ ad (l.flatMap Pc.cells)] (λy:{y:Ao×Nat // (ofs a 0 l).length<=y.2/\y.2<=maxLen}=>.slice y.1.1 (ofs a 0 l).length y.1.2) (λ_=>[]) (λy=>[L_ y.1.1 ((ofs a 0 l).flatMap aY_)]):=by
 refine g_ func9 rfl rfl ntmps9 rfl λP=>?_;refine Zz 14 ?_;refine bh_ [(1,i4_ a),(4,.slice none 0 0),(7,.slice ad l.length cap),(8,i4_ (List.length l:Int)),(9,i4_ ((0:Nat):Int))] zl ?_;refine bF_ (ι:={y:Nat×Value×Hp // y.1<=l.length/\ad_ 3 1 y.2.1 (ofs a 0 (l.take y.1)).length ((ofs a 0 (l.take y.1)).flatMap aY_) y.2.2}) (λy=>[(1,i4_ a),(4,y.1.2.1),(7,.slice ad l.length cap),(8,i4_ (List.length l:Int)),(9,i4_ y.1.1)]) (λy=>y.1.2.2) (λ_=>_) (λy=>l.length - y.1.1) ⟨(0,.slice none 0 0,[]),by simp,ad_.nil _ _⟩ ?_;rintro ⟨⟨i,sv,Hr⟩,hi,d⟩;dsimp only at hi d;dsimp only;have L:=pw_ a (l.take i) 0;rw[yat_]at L;refine bh_ [(1,i4_ a),(4,sv),(7,.slice ad l.length cap),(8,i4_ (List.length l:Int)),(9,i4_ i)] zl ?_;refine Zi 2 (λI=>?_) λI=>?_
 .refine Zz 13 ?_
  have O:l.take i=l:=yad_ zaa_;rw[O]at d;refine cd_ d af_ λB F M C G=>?_;exact ac_ results9 ⟨(B,F),C,G⟩ (fE_ rfl M) i_ zf
 have m:i<l.length:=by omega
 obtain⟨Q,A⟩:∃ K,l[i]? = some K:=⟨_,yaa_ m⟩;refine Zz 13 ?_;refine u_ O_ rfl λR=>Zz 1 ?_
 refine n_ 0 A_ rfl rfl rfl rfl rfl rfl (Zi 7 (λJ=>?_) λJ=>?_)
 .refine Zz 10 ?_
  have v:=rk_ a A;rw[yaf_ zae_]at v;exact C_ ⟨(i+1,sv,Hr),m,by dsimp only;rw[v,yaL_];exact d⟩ zab_ zl (c_ af_) zh
 refine Zz 6 ?_;refine M_ J_ K_ aN_ rfl rfl rfl rfl rfl rfl λN=>?_;refine am_ (news:=[i4_ i]) eltI d rfl rfl (c_ (c_ af_)) rfl (ba_ 0 rfl) (hx_ rfl) zaj_ zaa_ rfl λE H x=>?_;refine t_ (@List.perm_append_comm _ _ [_,_]) (Zz 8 ?_);have v:=rk_ a A;rw[yaq_ zae_]at v;exact C_ ⟨(i+1,E,H),m,by dsimp only;rw[v,yaj_,yaW_];exact x⟩ zab_ zl zp zh
theorem oQ_ {g n cap:Nat} {cur:Array Value} {xs:List Str} {v:Vw} (y:v.sat [(g,.cells cur 9 (0,0))]) (x:cur.toList.take (xs.length*1)=xs.flatMap ar_):Sort.Holds encStr v.w g 0 xs.toArray:=by
 intro j d;have m:=(y.own _ yau_).1;simp only[ybF_]at d;have A:cur[j]? = some (str xs[j]):=om_ x j xs[j] (yaa_ d);refine⟨?_,?_⟩
 .simp only[World.cell?,yba_,m,ycS_,ybl_,yca_]
  rw[A,getElem!_pos xs.toArray j zbg_];rfl
 simp[World.frozen?,m]
theorem pm_ {sv:Value} {xs:List Str} {Hr:Hp} (h:ad_ 9 1 sv xs.length (xs.flatMap ar_) Hr) (hl:xs.length<=1000000000000) :
    Tri prog 65 #[sv] Hr [] (λ_:{y:Hp // ad_ 9 1 sv xs.length ((xs.mergeSort λx y=>decide (x<=y)).flatMap ar_) y}=>.tuple #[]) (λy=>y.1) (λ_=>[]):=by
  rcases h.2 with⟨rfl,L,rfl⟩|⟨g,cap,cur,rfl,rfl,I,K,G,M⟩
  . obtain rfl:xs=[]:=yaz_ L
    have T:=dl_ (P:=prog) (H:=[]) (Γ:=[]) (callable func65 rfl rfl) (λv _ _=>(Tryz.slices_Sort_string_none none 0 v.w).mono zao_);exact⟨T.callable,λv a b=>(T.run v a b).mono (by rintro e w' ⟨x,J,m,E,B,A,C⟩;exact⟨⟨[],by simpa using ad_.nil _ _⟩,J,m,E,B,A,C⟩)⟩
  . have T:=mJ_ (P:=prog) (Γ:=[]) (d:=(xs.mergeSort λx y=>decide (x<=y)).toArray) (callable func65 rfl rfl) (λv N=>Tryz.slices_Sort_string g 0 cap xs v.w (oQ_ (n:=0) (cap:=0) N M) (yaD_.1 (N.own _ yau_).1).1 zaa_)
    have F:(xs.mergeSort λx y=>decide (x<=y)).length=xs.length:=ybz_ _;refine⟨T.callable,λv a b=>(T.run v a b).mono ?_⟩;rintro e w' ⟨x,J,m,E,B,A,C⟩;refine⟨⟨_,by rw[cK_ ar_ 1 aO_,F],.inr ⟨g,cap,_,rfl,rfl,I,K,by rw[qT_];exact G,?_⟩⟩,J,m,E,B,A,C⟩;have:=qS_ (cur:=cur) (d:=xs.mergeSort λx y=>decide (x<=y)) (by rw[F,G];omega);rw[F]at this;rw[Nat.mul_one];exact this
theorem nO_ {sv:Value} {xs:List Str} {Hr:Hp} (h:ad_ 9 1 sv xs.length (xs.flatMap ar_) Hr) (hl:xs.length<=1000000000000) :
    Tri prog 66 #[sv] Hr [] (λy:{y:Value×Hp // ad_ 9 1 y.1 (Lib.compact xs).length ((Lib.compact xs).flatMap ar_) y.2}=>y.1.1) (λy=>y.1.2) (λ_=>[]):=by
  rcases h.2 with⟨rfl,L,rfl⟩|⟨g,cap,cur,rfl,rfl,J,K,F,M⟩
  . obtain rfl:xs=[]:=yaz_ L
    have T:=dl_ (P:=prog) (H:=[]) (Γ:=[]) (callable func66 rfl rfl) (λv _ _=>(Tryz.slices_Compact_string_empty none 0 v.w).mono zao_);exact⟨T.callable,λv a b=>(T.run v a b).mono (by rintro e w' ⟨x,I,m,A,C,B,E⟩;exact⟨⟨(.slice none 0 0,[]),by simpa [Lib.compact,Lib.compactUpTo] using ad_.nil _ _⟩,I,m,A,C,B,E⟩)⟩
  . have N:=iB_ xs
    have T:=mJ_ (P:=prog) (Γ:=[]) (r:=.slice (some ⟨g,0,none⟩) (Lib.compact xs).length cap) (d:=(Lib.compact xs++List.replicate (xs.length - (Lib.compact xs).length) []).toArray) (callable func66 rfl rfl) (λv Q=>(Tryz.slices_Compact_string g 0 cap xs v.w (oQ_ (n:=0) (cap:=0) Q M) zaa_ J).mono (by
      rintro e w' ⟨rfl,q,rfl⟩;exact⟨rfl,q,#[],by rw[Sort.grow_empty]⟩))
    refine⟨T.callable,λv a b=>(T.run v a b).mono ?_⟩;rintro e w' ⟨x,I,m,A,C,B,E⟩;refine⟨⟨(.slice (some ⟨g,0,none⟩) (Lib.compact xs).length cap,_),by rw[cK_ ar_ 1 aO_],.inr ⟨g,cap,_,rfl,rfl,by omega,K,by rw[qT_];exact F,?_⟩⟩,I,m,A,C,B,E⟩;have O:(Lib.compact xs++List.replicate (xs.length - (Lib.compact xs).length) ([]:Str)).length=xs.length:=by simp;omega
    have:=qS_ (cur:=cur) (d:=Lib.compact xs++List.replicate (xs.length - (Lib.compact xs).length) []) (by rw[O,F];omega);rw[O]at this;have G:=yah_ (List.take (Lib.compact xs).length) this;rw[ydl_,ybn_ N,yaW_,ycz_ (by rw[cK_ ar_ 1 aO_];omega),yad_ (l:=(Lib.compact xs).flatMap ar_) (by rw[cK_ ar_ 1 aO_];omega)]at G;rw[Nat.mul_one];exact G
theorem up_ (l:List Pc) (ad:Ao) (cap:Nat) (hl:l.length<=100000000000):Tri prog 64 #[.slice ad l.length cap] [] [L_ ad (l.flatMap Pc.cells)] (λy:{y:Ao×Nat // (cn_ l).length<=y.2/\y.2<=maxLen}=>.slice y.1.1 (cn_ l).length y.1.2) (λ_=>[]) (λy=>[L_ y.1.1 ((cn_ l).flatMap ar_)]):=by
 refine g_ func64 rfl rfl ntmps64 rfl λa0=>?_;refine Zz 14 ?_;refine bh_ [(2,.slice none 0 0),(7,.slice ad l.length cap),(8,i4_ (List.length l:Int)),(9,i4_ ((0:Nat):Int))] zl ?_;refine bF_ (ι:={y:Nat×Value×Hp // y.1<=l.length/\ad_ 9 1 y.2.1 (cm_ (l.take y.1)).length ((cm_ (l.take y.1)).flatMap ar_) y.2.2}) (λy=>[(2,y.1.2.1),(7,.slice ad l.length cap),(8,i4_ (List.length l:Int)),(9,i4_ y.1.1)]) (λy=>y.1.2.2) (λ_=>_) (λy=>l.length - y.1.1) ⟨(0,.slice none 0 0,[]),by simp,ad_.nil _ _⟩ ?_;rintro ⟨⟨i,sv,Hr⟩,hi,A⟩;dsimp only at hi A;dsimp only;have J:=jC_ (l.take i);rw[yat_]at J;refine bh_ [(2,sv),(7,.slice ad l.length cap),(8,i4_ (List.length l:Int)),(9,i4_ i)] zl ?_;refine Zi 2 (λT=>?_) λT=>?_
 .refine Zz 7 ?_
  have Z:l.take i=l:=yad_ zaa_;rw[Z]at A J;refine Zz 2 ?_;refine f_ (pm_ A zaa_) rfl af_ zt rfl λ⟨Hs,hs⟩=>?_;dsimp only;refine t_ (List.Perm.symm af_) ?_;have N:ad_ 9 1 sv ((cm_ l).mergeSort λx y=>decide (x<=y)).length (((cm_ l).mergeSort λx y=>decide (x<=y)).flatMap ar_) Hs:=by rw[ybz_];exact hs
  refine Zz 5 ?_;refine f_ (nO_ N (by rw[ybz_];omega)) rfl af_ zt rfl λ⟨⟨sc,Hc⟩,hc⟩=>?_;dsimp only;refine t_ (List.Perm.symm af_) (Zz 4 ?_);refine cd_ hc af_ λK P V L R=>?_;exact ac_ results64 ⟨(K,P),L,R⟩ (fE_ rfl V) i_ zf
 have B:i<l.length:=by omega
 obtain⟨d,O⟩:∃ H,l[i]? = some H:=⟨_,yaa_ B⟩;refine Zz 12 ?_;refine u_ O_ rfl λb_1=>n_ 0 A_ rfl rfl rfl rfl rfl rfl (Zz 10 ?_)
 refine M_ B_ U_ at_ rfl rfl rfl rfl rfl rfl λE=>?_;refine aL_ (List.flatMap ar_ [d.a,d.b,d.c]) d_ rfl ?_;refine Zz 5 ?_;refine bh_ [(2,sv),(7,.slice ad l.length cap),(8,i4_ (List.length l:Int)),(9,i4_ i),(19,.slice (some ⟨E,0,none⟩) (List.length [d.a,d.b,d.c]) 3),(20,i4_ 3),(21,i4_ ((0:Nat):Int))] zl ?_;refine bF_ (ι:={y:Nat×Value×Hp // y.1<=3/\ad_ 9 1 y.2.1 (cm_ (l.take i)++(List.take y.1 [d.a,d.b,d.c]).filter λs=>!(s==[])).length ((cm_ (l.take i)++(List.take y.1 [d.a,d.b,d.c]).filter λs=>!(s==[])).flatMap ar_) y.2.2}) (λy=>[(2,y.1.2.1),(7,.slice ad l.length cap),(8,i4_ (List.length l:Int)),(9,i4_ i),(19,.slice (some ⟨E,0,none⟩) (List.length [d.a,d.b,d.c]) 3),(20,i4_ 3),(21,i4_ y.1.1)]) (λy=>_:: y.1.2.2) (λ_=>_) (λy=>3 - y.1.1) ⟨(0,sv,Hr),by simp,by simpa using A⟩ ?_;rintro ⟨⟨k,W,X⟩,Y,F⟩;dsimp only at Y F;dsimp only
 have a1:((cm_ (l.take i)++(List.take k [d.a,d.b,d.c]).filter λs=>!(s==[]))).length<=(cm_ (l.take i)).length+3:=by
   have:=ybN_ (λs=>!(s==[])) (List.take k [d.a,d.b,d.c]);simp only[yaj_,yat_,yai_,yaB_]at this ⊢;omega
 refine bh_ [(2,W),(7,.slice ad l.length cap),(8,i4_ (List.length l:Int)),(9,i4_ i),(19,.slice (some ⟨E,0,none⟩) (List.length [d.a,d.b,d.c]) 3),(20,i4_ 3),(21,i4_ k)] zl ?_;refine Zi 2 (λU=>?_) λU=>?_
 .refine Zz 11 ?_
  have v:cm_ (l.take (i+1))=cm_ (l.take i)++kX_ d:=by unfold cm_;rw[yao_,O,yaW_];simp
  exact C_ ⟨(i+1,W,X),B,by dsimp only;rw[v];have:=F;rw[yad_ (show [d.a,d.b,d.c].length<=k by simp;omega)]at this;exact this⟩ zab_ zl (c_ af_) (λ_ _ h=>h.2)
 have I:k<List.length [d.a,d.b,d.c]:=by simp;omega
 obtain⟨m,C⟩:∃ H,[d.a,d.b,d.c][k]? = some H:=⟨_,yaa_ I⟩;refine Zz 11 ?_;refine e_ (bN_ (ad:=(some ⟨E,0,none⟩)) ae_ rfl zf (y_ aO_ C 0 _ rfl)) rfl (Zi 6 (λQ=>?_) λQ=>?_)
 .refine Zz 10 ?_
  have v:(cm_ (l.take i)++(List.take (k+1) [d.a,d.b,d.c]).filter λs=>!(s==[]))=(cm_ (l.take i)++(List.take k [d.a,d.b,d.c]).filter λs=>!(s==[]))++[m].filter (λs=>!(s==[])):=by rw[yap_,<-ycR_,yao_,C];simp
  rw[show [m].filter (λs=>!(s==[]))=[] by simp[*],yaL_]at v;exact C_ ⟨(k+1,W,X),by dsimp only;omega,by dsimp only;rw[v];exact F⟩ zab_ zl zp zh
 refine Zz 6 ?_;refine M_ B_ U_ at_ rfl rfl rfl rfl rfl rfl λb_3=>?_;refine am_ (news:=[str m]) eltS F rfl rfl zp rfl (ba_ 0 rfl) (hx_ rfl) zaj_ zaa_ rfl λM S G=>?_;refine t_ (@List.perm_append_comm _ _ [_,_]) (Zz 8 ?_);have v:(cm_ (l.take i)++(List.take (k+1) [d.a,d.b,d.c]).filter λs=>!(s==[]))=(cm_ (l.take i)++(List.take k [d.a,d.b,d.c]).filter λs=>!(s==[]))++[m].filter (λs=>!(s==[])):=by rw[yap_,<-ycR_,yao_,C];simp
 rw[show [m].filter (λs=>!(s==[]))=[m] by simp[*]]at v;exact C_ ⟨(k+1,M,S),by dsimp only;omega,by dsimp only;rw[v];rw[yaj_ (bs:=[m]),yaW_ (ys:=[m])];exact G⟩ zab_ zl (m_ (c_ d_) (c_ af_)) zh
end Go.Proofs.YtfjcabalehamcaaGreatDoor
namespace Go.Sx
open Go
section
variable {P:Program} {N:Nf} {v0:Vw} {H0:Hp} {R:Exit->Act->World->Prop} {K:List Kt} {fr:Fr} {H:Hp} {Γ:List Fct}
variable {ops:Array Oper} {l:List Oper} {d:Nat} {ty:TypeId} {ps:String} {af:Array Edge}
end
end Go.Sx
namespace Go.Vs
open Go Go.Sx
theorem pv_ {a v:Int}:∀ {l:List Pc} {i:Nat},v∈ofs a i l->∃ (j:Nat) (p:Pc),v=((i+j:Nat):Int)/\l[j]? = some p/\p.frm=a
 | [],_,h=>by simp[ofs]at h
 | p::r,i,h=>by
   simp only[ofs]at h
   have m:v∈ofs a (i+1) r->∃ (j:Nat) (q:Pc),v=((i+j:Nat):Int)/\(p::r)[j]? = some q/\q.frm=a:=λh=>by
     obtain⟨j,q,e,A,y⟩:=pv_ h;exact⟨j+1,q,by rw[e];congr 1;omega,by simpa using A,y⟩
   split at h
   . rename_i x
     rcases yan_.1 h with e|h
     . exact⟨0,p,by simpa using e,rfl,x⟩
     . exact m h
   . exact m h
theorem xi_ {a v:Int} {l:List Pc} (h:v∈ofs a 0 l):∃ (j:Nat) (p:Pc),v=(j:Int)/\l[j]? = some p/\p.frm=a:=by
  obtain⟨j,p,e,x,m⟩:=pv_ h;exact⟨j,p,by rw[e,yba_],x,m⟩
theorem tY_ {a:Int}:∀ {l:List Pc} {i j:Nat} {p:Pc},l[j]? = some p->p.frm=a->((i+j:Nat):Int)∈ofs a i l
 | [],_,_,_,h,_=>by simp at h
 | q::r,i,0,p,h,hp=>by
   simp only[ybc_,yam_]at h;subst h;simp only[ofs,hp,yck_];exact yau_
 | q::r,i,j+1,p,h,hp=>by
   have:=tY_ (i:=i+1) zaQ_ hp;rw[show i+1+j=i+(j+1) by omega]at this;simp only[ofs]
   split
   . exact yaA_ _ this
   . exact this
def Cov (hs:List Bool) (L S:List Str):Prop:=hs.length=L.length/\∀ (n:Nat) (s:Str),L[n]? = some s->s∈S->hs[n]? = some true
def three (p:Pc):List Str:=[p.a,p.b,p.c]
theorem Cov.all {m:List Bool} {l:List Pc} (h:Cov m (cn_ l) (l.flatMap three)) {n:Nat} (v:n<(cn_ l).length):m[n]? = some true:=by
  have hm:=(gg_ l _).1 (ycm_ v);refine h.2 n _ (yaa_ v) ?_;simp only[cm_,yar_,kX_,ybh_]at hm;obtain⟨p,y,x⟩:=hm;exact yar_.2 ⟨p,y,x.1⟩
-- valid pieces,kind by kind
section
variable {a b c r s t:Str} {lo hi f:Int}
end
-- atoms
-- roles
structure RInv (s:Str) (a i:Nat) (dn:List Str):Prop where
  le:a<=i
  il:i<=s.length
  no:ixS 46 ((s.drop a).take (i - a))=none
  sp:aS_ 46 s=dn++aS_ 46 (s.drop a)
  al:dn.all aJ_=true
structure REnd (s:Str) (i:Nat) (dn:List Str):Prop where
  il:i=s.length+1
  sp:aS_ 46 s=dn
  al:dn.all aJ_=true
theorem RInv.len {s:Str} {a i:Nat} {d:List Str} (h:RInv s a i d):d.length<=s.length+1:=by
  have m:=dF_ 46 s;have v:=pZ_ 46 s;rw[h.sp,yaj_]at m;omega
theorem REnd.len {s:Str} {i:Nat} {d:List Str} (h:REnd s i d):d.length<=s.length+1:=by
  have m:=dF_ 46 s;have v:=pZ_ 46 s;rw[h.sp]at m;omega
-- sorted insertion
def kS (l:List Str) (s:Str):Nat:=(l.takeWhile λx=>decide (x<s)).length
theorem AP_ {s:Str}:∀ {l:List Str} {k:Nat},k<=l.length->(∀ x∈l.take k,x<s)->(∀ x,l[k]? = some x->¬ x<s)->kS l s=k
  | [],k,h1,_,_=>by simp at h1;simp[kS,h1]
  | y::r,0,_,_,h3=>by
    have:=h3 y rfl;unfold kS;rw[List.takeWhile_cons_of_neg (by simpa using this)];rfl
  | y::r,k+1,h1,h2,h3=>by
    have v:y<s:=h2 y zai_;have m:=AP_ (l:=r) (k:=k) (by simpa using h1) (λx d=>h2 x zaK_) (λx d=>h3 x zbg_);unfold kS at m ⊢;rw[List.takeWhile_cons_of_pos zaZ_,yai_,m]
def we_ (l:List Str) (s:Str):List Str:=if s=[]\/l[kS l s]? = some s then l else l.take (kS l s)++[s]++l.drop (kS l s)
end Go.Vs
namespace Go.Sx
open Go
section
variable {P:Program} {N:Nf} {v0:Vw} {H0:Hp} {fr:Fr} {H:Hp} {Γ:List Fct}
end
end Go.Sx
namespace Go.Vs
open Go Go.Sx
namespace Con
theorem szs_append:∀ (xs ys:List Con),sz.szs (xs++ys)=sz.szs xs+sz.szs ys
  | [],ys=>by simp[sz.szs]
  | x::xs,ys=>by simp only[yav_,sz.szs,szs_append xs ys];omega
theorem szs_step {ps:List Con} {p:Con} {i:Nat} (d:ps[i]? = some p):sz.szs (ps.take (i+1))=sz.szs (ps.take i)+p.sz:=by
  rw[take_snoc d,szs_append];simp[sz.szs]
end Con
namespace Ax
end Ax
end Go.Vs
namespace Go.Proofs.YtfjcabalehamcaaGreatDoor
open Go Go.Sx Go.Proofs Tryz
attribute [local irreducible] Code.wp wpList wpAnyH
open Go.Vs
theorem yc_:∀ (m:Nat) (c:Con),c.sz<=m->c.ok->∀ (d most:Int),0<=d/\d<=40->0<=most/\most<=1000->Tri prog 174 #[Con.val c,i4_ d,i4_ most] [] [Con.memF c] (λr:{r:Int // 1<=r/\r<=most+4398046511104/\(r<=most->(c.sz:Int)<=r)}=>i4_ r.1) (λ_=>[]) (λ_=>[]):=by
 intro m
 induction m with
 | zero=>intro c h;have:=c.sz_pos;omega
 | succ m ih =>
   intro c hm J d most Y N;have X:=Con.ok_name J;have U:=Con.ok_len J;refine g_ func174 rfl rfl ntmps174 rfl λW=>?_;refine Zz 2 ?_;refine F_ rfl rfl λF=>Zi 7 (λH=>?_) λH=>?_
   . refine Zz 9 ?_;refine e_ (cO_ R_ rfl) rfl (e_ (aj_ (yF_ (n:=40) rfl rfl zac_ (bW_ (r:=((List.length c.name / 40:Nat):Int)) zaa_ zaa_)) (show _=i4_ ((List.length c.name / 40:Nat):Int) from rfl)) rfl (Zz 11 ?_));refine bh_ [(1,i4_ d),(2,i4_ most),(3,zp_ F 0),(7,i4_ (1+((List.length c.name / 40:Nat):Int))),(8,i4_ ((0:Nat):Int))] zl ?_;refine bF_ (ι:={x:Nat×Int // x.1<=c.parts.length/\1<=x.2/\x.2<=most+4398046511104/\(x.2<=most->((1+Con.sz.szs (c.parts.take x.1):Nat):Int)<=x.2)}) (λx=>[(1,i4_ d),(2,i4_ most),(3,zp_ F 0),(7,i4_ x.1.2),(8,i4_ x.1.1)]) (λ_=>_) (λ_=>_) (λx=>c.parts.length - x.1.1) ⟨(0,1+((List.length c.name / 40:Nat):Int)),by simp,by dsimp only;omega,by dsimp only;omega,by simp[Con.sz.szs];omega⟩ ?_;rintro ⟨⟨i,n⟩,R⟩;dsimp only at R;obtain⟨T,S,Q,G⟩:=R;refine bh_ [(1,i4_ d),(2,i4_ most),(3,zp_ F 0),(7,i4_ n),(8,i4_ i)] zl ?_;refine Zz 7 ?_;refine P_ (cB_ rfl rfl) rfl λP y=>Zz 1 ?_
     refine ao_ 4 ((decide ((i:Int)<(List.length c.parts:Int)))&&(decide (n<=most))) (λr=>[(1,i4_ d),(2,i4_ most),(3,zp_ F 0),(7,i4_ n),(8,i4_ i),(27,.bool r)]) ?_ λO B=>?_
     . cases P
       . have E:=y;replace y:=zdf y;refine Zz 6 ?_;exact met ⟨rfl,rfl,rfl,rfl,rfl,(p_ rfl (jaf E)),trivial⟩
       . have E:=y;replace y:=zdt y;refine Zz 5 ?_;refine P_ (dj_ rfl rfl) rfl λV K=>Zz 3 ?_
         exact met ⟨rfl,rfl,rfl,rfl,rfl,(p_ rfl (jat E K)),trivial⟩
     . refine Zz 2 ?_;cases O
       . simp at B
         refine Zz 10 ?_;exact ac_ results174 ⟨n,by omega,by omega,λq=>by have hi:c.parts.length<=i:=(by simp at *;omega);have:=G q;rw[yad_ hi]at this;rw[Con.sz_eq];exact this⟩ rfl (@List.perm_append_comm _ [_] _) zt
       . simp at B
         obtain⟨I,L,C,A⟩:=zge (show i<c.parts.length by omega);refine Zz 10 ?_;refine e_ (Y_ al_ D_ rfl rfl (λv _ h=>az_ (n:=5) Con.cells_len zac_ (by exact ((Con.mem_iff c v).1 h.1).1) C) zaa_ zak_) rfl ?_;refine e_ (ah_ (ad:=c.ad) (us:=Con.cells L) aq_ D_ rfl (λv _ h=>by exact ((Con.mem_iff c v).1 h.1).1) (Con.cells_len _) (y_ Con.cells_len C)) rfl (Zz 5 ?_);refine f_ (ih L (by have:=Con.sz_part A;omega) (Con.ok_part J A) (d - 1) (most - n) ⟨by omega,by omega⟩ ⟨by omega,by omega⟩) rfl i_ (λv _ h=>by exact⟨(Con.mem_part (c:=c) h.1 A),trivial⟩) rfl λ⟨r,H,y,B⟩=>?_;dsimp only;refine Zz 10 ?_;have M:=Con.szs_step C;exact C_ ⟨(i+1,n+r),I,by dsimp only;omega,by dsimp only;omega,λq=>by dsimp only at q ⊢;rw[M];have:=B zaa_;have:=G zaa_;omega⟩ zab_ zl (.refl _) zh
   . refine Zz 11 ?_;exact ac_ results174 ⟨(most+1),by omega,by omega,λq=>by omega⟩ rfl (@List.perm_append_comm _ [_] _) zt
theorem xW_ (c:Con) (v:c.ok):Tri prog 106 #[Con.val c] [] [Con.memF c] (λb:{b:Bool // b=true->c.sz<=150}=>.bool b.1) (λ_=>[]) (λ_=>[]):=by
  refine g_ func106 rfl rfl ntmps106 rfl λA=>?_;refine Zz 2 ?_;refine F_ rfl rfl λB=>Zz 6 ?_
  refine f_ (yc_ _ c (yae_ _) v 40 150 ⟨by decide,by decide⟩ ⟨by decide,by decide⟩) rfl i_ zf rfl λ⟨r,d,y,m⟩=>?_;dsimp only;refine P_ (dj_ rfl rfl) rfl λx d=>Zz 4 ?_
  exact ac_ results106 ⟨x,λq=>by rw[q]at d;have:=ybf_ d;have:=m this;omega⟩ rfl (@List.perm_append_comm _ [_] _) zt
structure Ax.Few (x:Ax):Prop where
  left:x.left.sz<=150
  right:x.right.sz<=150
  roles:x.roles.length<=600
theorem hX_ {G:Prop} (h:G:=by
 exact ac_ results49 ⟨false,λh=>by cases h⟩ rfl (@List.perm_append_comm _ [_] _) zt):G:=h
theorem lp_ {G:Prop} (h:G:=by
 refine Zz 6 ?_;refine f_ (xW_ x.left d.left) rfl i_ (λv _ h=>by exact⟨h.1.1,trivial⟩) rfl λ⟨G,A⟩=>?_;dsimp only;refine Zz 2 ?_;cases G
 .refine Zz 8 ?_
  exact hX_
 refine Zz 5 ?_;refine f_ (xW_ x.right d.right) rfl i_ (λv _ h=>by exact⟨h.1.2.1,trivial⟩) rfl λ⟨C,m⟩=>?_;dsimp only;refine Zz 5 ?_;exact ac_ results49 ⟨C,λh=>⟨A rfl,m h,by omega⟩⟩ rfl (@List.perm_append_comm _ [_] _) zt):G:=h
theorem rL_ (x:Ax) (d:x.ok):Tri prog 49 #[Ax.val x] [] [Ax.memF x] (λb:{b:Bool // b=true->Ax.Few x}=>.bool b.1) (λ_=>[]) (λ_=>[]):=by
 refine g_ func49 rfl rfl ntmps49 rfl λM=>?_;have Q:=d.role;have N:=d.a;have O:=d.b;have S:=d.cap;refine Zz 2 ?_;refine F_ rfl rfl λF=>Zz 7 ?_
 refine e_ (cO_ R_ rfl) rfl (Zz 2 ?_);refine e_ (cO_ R_ rfl) rfl (Zz 3 ?_);refine e_ (cO_ R_ rfl) rfl (Zz 16 ?_);refine bh_ [(1,zp_ F 0),(3,i4_ ((((x.role.length:Int)+(x.a.length:Int))+(x.b.length:Int))+(10*(List.length x.roles:Int)))),(4,i4_ ((0:Nat):Int))] zl ?_;refine bF_ (ι:={y:Nat×Int // y.1<=x.roles.length/\y.1<=100/\(x.roles.length:Int)<=y.2/\y.2<=444444444444444444+y.1*140737488351232}) (λy=>[(1,zp_ F 0),(3,i4_ y.1.2),(4,i4_ y.1.1)]) (λ_=>_) (λ_=>_) (λy=>x.roles.length - y.1.1) ⟨(0,((((x.role.length:Int)+(x.a.length:Int))+(x.b.length:Int))+(10*(List.length x.roles:Int)))),by simp,by simp,by dsimp only;omega,by dsimp only;omega⟩ ?_;rintro ⟨⟨i,n⟩,R⟩;dsimp only at R;refine bh_ [(1,zp_ F 0),(3,i4_ n),(4,i4_ i)] zl ?_;refine Zi 7 (λK=>?_) λK=>?_
 .refine Zi 12 (λB=>?_) λB=>?_
  .refine Zz 14 ?_
   exact hX_
  exact lp_
 refine Zi 4 (λB=>?_) λB=>?_
 .refine Zi 9 (λJ=>?_) λJ=>?_
  .refine Zz 14 ?_
   exact hX_
  exact lp_
 obtain⟨H,I,L,E⟩:=zge (show i<x.roles.length by omega);have P:=d.roles I E;refine Zz 15 ?_;refine e_ (cO_ R_ rfl) rfl (Zz 10 ?_);exact C_ ⟨(i+1,n+(List.length I:Int)),H,by dsimp only;omega,by dsimp only;omega,by dsimp only;omega⟩ zab_ zl (.refl _) zh
end Go.Proofs.YtfjcabalehamcaaGreatDoor
namespace Go.Sx
open Go
section
variable {P:Program} {N:Nf} {fr:Fr} {H:Hp} {Γ:List Fct} {ty:TypeId}
theorem yE_ {t C:TypeId} {x y:Operand} {m n:Int} (E:Fr.ev fr x=some (.int .i64 m)) (B:Fr.ev fr y=some (.int .i64 n)) (F:n≠0) (A:IntKind.wrap .i64 (m.tmod n)=m.tmod n) :
    Yld P N fr H Γ (.binOp .rem t x y C) ty (.int .i64 (m.tmod n)) :=
  λa v d _ _ _ _ _=>by simp[execOp,d.ev E,d.ev B,eqGuard,binOp,Op.intDiv,F,A]
end
end Go.Sx
namespace Go.Vs
open Go Go.Sx
namespace Con
end Con
structure Pw where
  l:List Pc
  ad:Ao
  cap:Nat
def Pw.cells (x:Pw):List Value:=[.slice x.ad x.l.length x.cap]
namespace Con
end Con
namespace Ax
end Ax
end Go.Vs
