/-
  Lemmas for the law ModuleGoal (no condition).
-/
import Derived.Test.YtbffkokbdeppaaaGreatDoorQModuleGoal5
import Derived.ProofKit
import Derived.OpenShut
import Derived.ReadAgain
import Derived.Deep.Slices
import Derived.SevenTiedAt
import Derived.Stop.Joined
import Derived.Lay
import Derived.LaidMore
import Derived.Lib.SlicesCompact
import Derived.Sort.EncStr
import Derived.Test.YtbffkokbdeppaaaGreatDoorProg
import Derived.ArgAppend
set_option linter.unusedVariables false
set_option linter.unusedSimpArgs false
set_option linter.unusedSectionVars false
set_option maxHeartbeats 1000000
namespace Go.Vs
open Go Go.Sx
def vw (W:World):Vw:=⟨λb=>b<W.heap.size,W,True⟩
theorem vw_sat (W:World):(vw W).sat []:=⟨(λ_ h=>by cases h),zai_,λ_ h=>h⟩
section
variable {H:Type} {enc:TypeId×Value->H} {P:Program} {W:World}
abbrev wok (l:List Nat):Prop:=l.all (·<=reachBytes)=true
theorem fv_ {a b:List Nat}:wok (a++b)↔wok a/\wok b:=by grind
theorem ze_ {n:Nat} {b:List Nat}:wok (n::b)↔n<=reachBytes/\wok b:=by simp[wok]
theorem zf_ {e:TypeId}:∀ {ds:List (DataW H)},wok (DataW.weightsAll P e ds)->∀ d∈ds,wok (d.weights P e)
 | [],_,_,h=>by cases h
 | x::ds,hw,d,k=>by
   rw[DataW.weightsAll,fv_]at hw;rcases yal_.1 k with rfl|k
   . exact hw.1
   . exact zf_ hw.2 d k
theorem ry_ {α:Type} [Inhabited α] (f:α->List Value) (k:Nat) (hk:∀ x,(f x).length=k) (E:0<k) (Q:α->Prop) {S A:TypeId} (Z:P.underlying S=some (.slice A)) (hc:P.cellsOf A=k) {n:Nat} {cs:List Value} {x:DataW H×List MemPlace}
    (N:∀ m,m<n->∀ cs' y,DataW.trod enc P W 0 (λ_=>true) true m A cs'=some y->wok (y.1.weights P A)->∃ c,cs'=f c/\Q c)
    (h:DataW.trod enc P W 0 (λ_=>true) true n S cs=some x) (hw:wok (x.1.weights P S)) :
    ∃ (l:List α) (ad:Ao) (cap:Nat),cs=[.slice ad l.length cap]/\bW_ (vw W) ad (l.flatMap f)/\(∀ c∈l,Q c)/\l.length<=cap/\cap*P.bytesOf A<=reachBytes:=by
  rcases DataW.trod_slice Z h with⟨M,_⟩|⟨a,len,cap,L,rest,m,hn,rfl,rfl,_,hl,_,Y,a1,O,_⟩
  . exact⟨[],none,0,M,.inl rfl,(λ_ h=>by cases h),yad_ _,by simp⟩
  . obtain⟨hr,_⟩:=O rfl
    simp only[DataW.weights,Z,ze_,fv_,yaC_]at hw
    have F:cap*P.bytesOf A<=reachBytes:=by
      grind
    have G:∀ i,i<len->∃ c:α,W.cells? 0 (a.add (i*k)) k=some (f c)/\Q c:=λi hi=>by
      grind[Option.bind_eq_some_iff,zf_,List.mem_map_of_mem]
    obtain⟨C,V⟩:=Deep.choose_lt G;refine⟨(List.range len).map C,some a,cap,by simp,?_,?_,by grind,F⟩
    . by_cases M:len=0
      . left;simp[M]
      . have h1:=(V 0 zaa_).1
        obtain⟨_,_,d⟩:=World.cells?_some h1;have K:=d 0 E;have J:0<(f (C 0)).length:=by grind
        rw[yaa_ J]at K;cases hb:W.heap[a.block]? with
        | none=>grind[World.cell?,Addr.add]
        | some o =>
          cases o with
          | cells arr T fz =>
            have v:a.spot=none:=by
              cases hsp2:a.spot<;>grind[World.cell?,Addr.add]
            obtain⟨b,off,sp⟩:=a;simp only at v hb;subst v;right
            refine⟨b,off,arr,T,fz,rfl,(yaA_.1 hb).1,hb,λj y U=>?_⟩
            have a0:j<len*k:=by
              have:=(yaf_.1 U).1;rw[ch_ f k hk]at this
              grind
            have hi:j / k<len:=Nat.div_lt_of_lt_mul zak_;have B:j%k<k:=Nat.mod_lt _ E;have e:j=(j / k)*k+j%k:=by grind[Nat.div_add_mod]
            have I:((List.range len).map C)[j / k]? = some (C (j / k)):=by simp[hi]
            rw[e,kD_ f k hk _ (j / k) (j%k) _ I B]at U;obtain⟨_,_,d⟩:=World.cells?_some (V (j / k) hi).1;have:=d (j%k) B;rw[U,ck_,ck_]at this;rw[e]
            grind[World.cell?]
          | _=>grind[World.cell?,Addr.add]
    grind
end
instance:Inhabited Con:=⟨.mk 0 [] 0 0 none 0 []⟩
instance:Inhabited Ax:=⟨⟨0,false,default,default,none,0,[],[],[],[]⟩⟩
instance:Inhabited Pc:=⟨⟨0,[],[],[],[],[],[],0,0,0⟩⟩
structure Tys (P:Program) (tI tB tS tSs tC tCs tA tAs tP tPs:TypeId):Prop where
  i:P.underlying tI=some (.int .i64)
  b:P.underlying tB=some .bool
  s:P.underlying tS=some .string
  ss:P.underlying tSs=some (.slice tS)
  c:∃ fs,P.underlying tC=some (.struct fs)/\fs.toList.map (λf=>(f.type,f.offset))=[(tI,0),(tS,1),(tI,2),(tI,3),(tCs,4)]
  cs:P.underlying tCs=some (.slice tC)
  a:∃ fs,P.underlying tA=some (.struct fs)/\fs.toList.map (λf=>(f.type,f.offset))=[(tI,0),(tB,1),(tC,2),(tC,7),(tSs,12),(tS,13),(tS,14),(tS,15)]
  axs:P.underlying tAs=some (.slice tA)
  p:∃ fs,P.underlying tP=some (.struct fs)/\fs.toList.map (λf=>(f.type,f.offset))=[(tI,0),(tS,1),(tS,2),(tS,3),(tS,4),(tS,5),(tS,6),(tI,7),(tI,8),(tI,9)]
  ps:P.underlying tPs=some (.slice tP)
  ci:P.cellsOf tI=1
  cb:P.cellsOf tB=1
  cs1:P.cellsOf tS=1
  css:P.cellsOf tSs=1
  cc:P.cellsOf tC=5
  ccs:P.cellsOf tCs=1
  ca:P.cellsOf tA=16
  cp:P.cellsOf tP=10
  bs:P.bytesOf tS=16
  bc:P.bytesOf tC=64
  ba:P.bytesOf tA=216
  bp:P.bytesOf tP=128
section
variable {H:Type} {enc:TypeId×Value->H} {P:Program} {W:World} {tI tB tS tSs tC tCs tA tAs tP tPs:TypeId} (X:Tys P tI tB tS tSs tC tCs tA tAs tP tPs)
theorem fields_of {t:TypeId} {d:Array Field} {L:List (TypeId×Nat)} {cs:List Value} {n:Nat} {x:DataW H×List MemPlace} (e:P.underlying t=some (.struct d)) (A:d.toList.map (λf=>(f.type,f.offset))=L) (h:DataW.trod enc P W 0 (λ_=>true) true n t cs=some x) :
    ∃ (xs:List (DataW H×List MemPlace)) (m:Nat),n=m+1/\x.1=.agg (xs.map (·.1))/\cs.length=P.cellsOf t/\xs.length=L.length/\(∀ (i:Nat) q,L[i]? = some q->DataW.trod enc P W 0 (λ_=>true) true m q.1 ((cs.drop q.2).take (P.cellsOf q.1))=xs[i]?)/\
      (x.1.weights P t=DataW.weightsEach P (L.map (·.1)) (xs.map (·.1))):=by
  obtain⟨xs,m,y,v,hl,k,B⟩:=DataW.trod_struct e h;refine⟨xs,m,y,by rw[v],hl,by grind,λi q C=>?_,?_⟩
  . grind
  . rw[v];simp only[DataW.weights,e]
    congr 1
    rw[<-A,ycK_];rfl
include X
theorem rO_ {n:Nat} {cs:List Value} {x:DataW H×List MemPlace} (h:DataW.trod enc P W 0 (λ_=>true) true n tI cs=some x):∃ k:Int,cs=[.int .i64 k]/\-9223372036854775808<=k/\k<=9223372036854775807:=by
  obtain⟨k,e,_,d⟩:=DataW.trod_int X.i h;have:=bounds_i64 d
  grind
theorem Dk_ {n:Nat} {cs:List Value} {x:DataW H×List MemPlace} (h:DataW.trod enc P W 0 (λ_=>true) true n tB cs=some x):∃ b:Bool,cs=[.bool b]:=by
  obtain⟨b,d,_⟩:=DataW.trod_bool X.b h
  grind
theorem str_of {n:Nat} {cs:List Value} {x:DataW H×List MemPlace} (h:DataW.trod enc P W 0 (λ_=>true) true n tS cs=some x) (d:wok (x.1.weights P tS)):∃ s:Str,cs=[str s]/\s.length<=140737488351232:=by
  obtain⟨s,k,e,_⟩:=DataW.trod_string X.s h;rw[e]at d;simp[wok,DataW.weights,reachBytes]at d
  refine⟨s.data.toList,by rw[k];rfl,by have:=yaY_ d;simpa using this⟩
theorem Ba_:∀ (n:Nat) (cs:List Value) (x:DataW H×List MemPlace),DataW.trod enc P W 0 (λ_=>true) true n tC cs=some x->wok (x.1.weights P tC)->∃ c:Con,cs=c.cells/\c.mem (vw W)/\c.ok:=by
 intro n
 induction n using Nat.strongRecOn with
 | ind n ih =>
   intro cs x h A;obtain⟨fs,hu,Z⟩:=X.c;obtain⟨xs,m,hn,hx,hl,d,e,B⟩:=fields_of hu Z h;rw[B]at A
   match xs,d with
   | [x0,x1,x2,x3,x4],_ =>
   simp only[yar_,ybf_,DataW.weightsEach,fv_]at A;have G:=e 0 _ rfl;have J:=e 1 _ rfl;have M:=e 2 _ rfl;have T:=e 3 _ rfl;have Q:=e 4 _ rfl;simp only[ybM_,ybw_,X.ci,X.cs1,X.ccs]at G J M T Q;obtain⟨k,F,k1,k2⟩:=rO_ X G;obtain⟨nm,N,n1⟩:=str_of X J A.2.1;obtain⟨lo,L,l1,l2⟩:=rO_ X M;obtain⟨hi,O,Y,V⟩:=rO_ X T
   obtain⟨l,ad,cap,S,v,I,E,K⟩:=ry_ Con.cells 5 Con.cells_len zae_ (λc=>c.mem (vw W)/\c.ok) X.cs X.cc (λm' U a0 y hy hwy=>by
     grind) Q A.2.2.2.2.1
   rw[X.cc]at hl
   match cs,hl with
   | [c0,c1,c2,c3,c4],_ =>
   simp only[ycd_,ycw_,ybS_,ybH_,yaP_,and_true]at F N L O S;subst F N L O S;refine⟨.mk k nm lo hi ad cap l,rfl,?_,k1,k2,n1,l1,l2,Y,V,E,?_,Con.oks_iff.2 λp C=>(I p C).2⟩
   . rw[Con.mem_iff];exact⟨v,λp C=>(I p C).1⟩
   grind[Tys.bc,reachBytes]
theorem BV_ {n:Nat} {cs:List Value} {x:DataW H×List MemPlace} (h:DataW.trod enc P W 0 (λ_=>true) true n tSs cs=some x) (v:wok (x.1.weights P tSs)) :
    ∃ (l:List Str) (ad:Ao) (cap:Nat),cs=[.slice ad l.length cap]/\bW_ (vw W) ad (l.flatMap aa_)/\(∀ s∈l,s.length<=140737488351232)/\l.length<=cap/\cap<=8796093021952:=by
  obtain⟨l,ad,cap,e,k,I,E,m⟩:=ry_ aa_ 1 an_ zae_ (λs=>s.length<=140737488351232) X.ss X.cs1 (λG _ B y C d=>by
    obtain⟨s,A,F⟩:=str_of X C d;exact⟨s,A,F⟩) h v
  grind[Tys.bs,reachBytes]
theorem DI_ {n:Nat} {cs:List Value} {x:DataW H×List MemPlace} (h:DataW.trod enc P W 0 (λ_=>true) true n tA cs=some x) (d:wok (x.1.weights P tA)):∃ a:Ax,cs=a.cells/\a.mem (vw W)/\a.ok:=by
  obtain⟨fs,hu,hL⟩:=X.a;obtain⟨xs,m,hn,hx,hl,y,e,C⟩:=fields_of hu hL h;rw[C]at d
  match xs,y with
  | [x0,x1,x2,x3,x4,x5,x6,x7],_ =>
  simp only[yar_,ybf_,DataW.weightsEach,fv_]at d;have I:=e 0 _ rfl;have L:=e 1 _ rfl;have Q:=e 2 _ rfl;have V:=e 3 _ rfl;have U:=e 4 _ rfl;have N:=e 5 _ rfl;have O:=e 6 _ rfl;have J:=e 7 _ rfl;simp only[ybM_,ybw_,X.ci,X.cb,X.cs1,X.cc,X.css]at I L Q V U N O J;obtain⟨k,E,k1,k2⟩:=rO_ X I;obtain⟨op,S⟩:=Dk_ X L;obtain⟨le,M,m2,o2⟩:=Ba_ X _ _ _ Q d.2.2.1;obtain⟨ri,T,m3,o3⟩:=Ba_ X _ _ _ V d.2.2.2.1;obtain⟨rs,ad,cap,Y,B,hq,A,v⟩:=BV_ X U d.2.2.2.2.1;obtain⟨ro,F,Z⟩:=str_of X N d.2.2.2.2.2.1;obtain⟨a,K,n6⟩:=str_of X O d.2.2.2.2.2.2.1;obtain⟨b,G,n7⟩:=str_of X J d.2.2.2.2.2.2.2.1;rw[X.ca]at hl
  match cs,hl with
  | [c0,c1,c2,c3,c4,c5,c6,c7,c8,c9,c10,c11,c12,c13,c14,c15],_ =>
  simp only[ycd_,ycw_,ybS_,ybH_,yaP_,and_true,Con.cells]at E S M T Y F K G;obtain⟨rfl,rfl,rfl,rfl,rfl⟩:=M;obtain⟨rfl,rfl,rfl,rfl,rfl⟩:=T;subst E S Y F K G;exact⟨⟨k,op,le,ri,ad,cap,rs,ro,a,b⟩,rfl,⟨m2,m3,B⟩,⟨k1,k2,o2,o3,A,ybn_ A v,hq,Z,n6,n7⟩⟩
theorem axs_of {n:Nat} {cs:List Value} {x:DataW H×List MemPlace} (h:DataW.trod enc P W 0 (λ_=>true) true n tAs cs=some x) (B:wok (x.1.weights P tAs)) :
    ∃ (l:List Ax) (ad:Ao) (cap:Nat),cs=[.slice ad l.length cap]/\(bZ_ ad l).p (vw W)/\(∀ y∈l,y.ok)/\l.length<=cap/\cap<=2199023255488:=by
  obtain⟨l,ad,cap,e,k,A,v,d⟩:=ry_ Ax.cells 16 Ax.cells_len zae_ (λa=>a.mem (vw W)/\a.ok) X.axs X.ca (λF _ C y m E=>by
    grind[DI_]) h B
  rw[X.ba]at d;simp only[reachBytes]at d;exact⟨l,ad,cap,e,⟨k,λy m=>(A y m).1⟩,λy m=>(A y m).2,v,by omega⟩
end
end Go.Vs
namespace Go.Vs
open Go Go.Sx Go.ChangeShapes Go.WideShapes Go.ChangeAt Go.RowKit
section
variable {H:Type} {enc:TypeId×Value->H} {P:Program} {w:World}
mutual
def fy_ {H:Type}:DataW H->List Value
  | .lit (.int k n)=>[.int k n]
  | .lit (.bool b)=>[.bool b]
  | .agg ps=>la_ ps
  | _=>[]
def la_ {H:Type}:List (DataW H)->List Value
  | []=>[]
  | d::r=>fy_ d++la_ r
end
def ik_ (P:Program):Nat->TypeId->Bool
  | 0,_=>false
  | n+1,t=>match P.underlying t with
    | some .bool=>true
    | some (.int _)=>true
    | some (.struct fs)=>fs.toList.all λf=>ik_ P n f.type
    | some (.array _ e)=>ik_ P n e
    | _=>false
theorem kv_:∀ l:List (DataW H),la_ l=l.flatMap fy_
  | []=>by simp[la_]
  | d::r=>by simp only[la_,kv_ r,yaT_]
theorem tile:∀ (e:List Nat) (cs:List Value) (g:List (List Value)),cs.length=e.sum->g.length=e.length->(∀ j n,e[j]? = some n->some ((cs.drop (e.take j).sum).take n)=g[j]?)->cs=g.flatten
  | [],cs,g,h,hg,_=>by
    grind
  | n::e,cs,[],h,hg,hp=>by simp at hg
  | n::e,cs,x::g,h,hg,hp=>by
    have y:=hp 0 n rfl;simp only[ybH_,List.sum_nil,ycw_,ybM_,yah_]at y
    have A:=tile e (cs.drop n) g zak_ zak_ (λj m k=>by
      have:=hp (j+1) m k
      grind[List.drop_drop])
    grind[List.take_append_drop]
theorem zT_ {T:TypeId->Prop} {A:Bool} (K:Kids P T):∀ (n m:Nat) (t:TypeId) (cs:List Value) (x:DataW H×List MemPlace),T t->ik_ P m t=true->DataW.trod enc P w 0 (λ_=>true) A n t cs=some x->cs=fy_ x.1:=by
  intro n
  induction n with
  | zero=>intro m t cs x _ _ h;simp[DataW.trod]at h
  | succ n ih =>
    intro m t cs x C F h;cases m with
    | zero=>grind[ik_]
    | succ m =>
    cases hu:P.underlying t with
    | none=>grind[ik_]
    | some d =>
      cases d with
      | bool=>grind[DataW.trod_bool,fy_]
      | int k=>grind[DataW.trod_int,fy_]
      | struct fs =>
        obtain⟨xs,B,G,rfl,hl,y,E⟩:=DataW.trod_struct hu h;obtain rfl:B=n:=by omega
        obtain⟨k1,k2,J⟩:=K.struct C hu
        grind[ik_,fy_,kv_,tile,List.map_take]
      | array len e =>
        obtain⟨xs,B,G,rfl,hl,y,E⟩:=DataW.trod_array hu h;obtain rfl:B=n:=by omega
        obtain⟨k1,k2⟩:=K.array C hu;simp only[ik_,hu]at F;simp only[fy_];rw[kv_,List.flatMap_def,ycK_];refine tile (List.replicate len (P.cellsOf e)) cs _ (by rw[hl,k2];simp) (by simp[y]) λj q I=>?_
        grind[List.sum_replicate_nat]
      | _=>grind[ik_]
end
section
variable {H:Type} {enc:TypeId×Value->H} {P:Program} {W W':World}
theorem kf_:∀ {ts:List TypeId} {vs:List Value} {ds:List (DataW H)} {ps:List MemPlace} {sp:Nat->Bool},DataW.TrodAll enc P W 0 sp true ts vs ds ps->(∀ p∈ps,W.sameAt W' p)->DataW.TrodAll enc P W' 0 sp true ts vs ds ps
  | [],[],[],_,_,h,_=>h
  | _::_,_::_,_::_,_,_,⟨p,q,⟨n,h1⟩,h2,e⟩,hs=>⟨p,q,⟨n,DataW.trod_carry n _ _ _ h1 (λx k=>hs x zak_)⟩,kf_ h2 (λx k=>hs x zak_),e⟩
theorem Ar_ {T:TypeId->Prop} (K:Kids P T) (hz:∀ t e,T t->P.underlying t=some (.slice e)->0<P.cellsOf e) {f:Func} {s:ChangeSpec} {args:Array Value} {F:List (DataW H)} {before:List MemPlace} {M:TypeId} (L:∀ t∈f.params.toList,T t) (k:s.vars=[])
    (U:DataW.Whole enc P f.params.toList s.vars false W args.toList F [] before) (Q:s.fn H (F++[])={ results:=[.lit (.bool true)],args:=F }) (C:f.resultTypes=#[M]) (I:P.underlying M=some .bool) {E:Vw} (A:(vw W).to [] E []) :
    s.post enc P f false true false false W args (.bool true) E.w:=by
  have G:=U;obtain⟨p,q,Y,V,N,_,_⟩:=U;have Z:q=[]:=by rw[k]at V;exact V
  subst Z;simp only[yas_]at N;subst N;have m:∀ b,b<W.heap.size->E.w.heap[b]? = W.heap[b]? := λb I=>A.block b I zai_
  have y:∀ x∈before,W.sameAt E.w x:=λx S=>by
    have B:=DataW.TrodAll.lt Y x S;cases x with
    | cell b off=>exact World.cell?_of_block (m b B)
    | map b=>exact m b B
  have J:=kf_ Y y;have O:=DataW.TrodAll.respare K hz (spare':=λb=>decide (b<W.heap.size)) L J (λx S=>by grind[DataW.TrodAll.lt]);refine⟨F,[],before,[],before,[],G,?_,?_,?_,⟨A.os,A.output,λi hi=>?_⟩,λh=>by cases h⟩
  . rw[Q,C];exact trodAll_mk1 (shut_bool I true)
  . grind
  . rw[Q,k];rfl
  grind
section
variable {tI tB tS tSs tC tCs tA tAs tP tPs:TypeId} (X:Tys P tI tB tS tSs tC tCs tA tAs tP tPs) {base:Nat} {v:Value} {d:DataW H} {ps:List MemPlace}
include X
theorem arg_ax (k:Value.okWide P W .any base tA v) (h:DataW.Trod enc P W 0 (λ_=>true) true tA v d ps) (m:wok (d.weights P tA)):∃ a:Ax,v=a.val/\a.mem (vw W)/\a.ok:=by
  obtain⟨B,y,_⟩:=X.a;unfold Value.okWide at k;rw[y]at k;obtain⟨cs,rfl,_⟩:=k;obtain⟨n,A⟩:=h;obtain⟨a,e,x⟩:=DI_ X A m;refine⟨a,?_,x⟩;simp only[Value.cells]at e;rw[Ax.val,<-e]
end
theorem kR_ {T:TypeId->Prop} (K:Kids P T) {name:String} {d:DataW Unit} {k:List (String×DataW Unit)} {W:World} (h:laidMet P k W) (hm:(name,d)∈k) {g:Nat} {t:TypeId} (G:P.globalNamed name=some g) (A:(P.globals[g]?).map (·.type)=some t) (N:T t) {m:Nat} (M:ik_ P m t=true) :
    ∃ C fz,W.heap[g]? = some (.cells (fy_ d).toArray C fz):=by
  obtain⟨ps,hl,_,_⟩:=h
  have B:∀ (l:List (String×DataW Unit)) (ps:List MemPlace),DataW.LaidVars P W l ps->(name,d)∈l->∃ g t cs n p,P.globalNamed name=some g/\(P.globals[g]?).map (·.type)=some t/\W.var? P name=some cs/\DataW.trod (λ_=>()) P W 0 (λ_=>true) false n t cs.toList=some (d,p):=by
    intro l
    induction l with
    | nil=>grind
    | cons x r ih =>
      intro ps h hm;obtain⟨n',U⟩:=x;obtain⟨g,t,cs,L,p,q,J,E,y,I,S,_⟩:=h
      grind
  obtain⟨O,F,cs,n,p,J,E,y,I⟩:=B k ps hl hm;obtain rfl:O=g:=yba_ (J.symm.trans G);obtain rfl:F=t:=yba_ (E.symm.trans A);have e:=zT_ K n m F cs.toList _ N M I;simp only[World.var?,G,Option.bind_some]at y
  split at y
  . rename_i c C fz Q
    simp only[yah_]at y;subst y;exact⟨C,fz,by rw[Q,<-e]⟩
  . cases y
end
end Go.Vs
namespace Go.Vs
open Go Go.Sx
theorem kN_ {s:Str} (h:jW_ s=true):∃ c t,s=c::t/\fJ_ c=true/\mY_ s=true:=by
  cases s<;>grind[jW_]
theorem uX_ {s:Str} (h:bN_ s=true):∃ c t,s=c::t/\fJ_ c=true:=by
  unfold bN_ at h;simp only[yaL_]at h;cases hx:ixS 58 s with
  | none=>grind[kN_]
  | some k =>
    rw[hx]at h;simp only[yaL_]at h;obtain⟨c,t,e,m,_⟩:=kN_ h.2.1;cases s with
    | nil=>simp at e
    | cons d u =>
      cases k<;>grind
theorem sN_ {s:Str} (h:mY_ s=true):∀ c∈s,gd_ c=true:=λc d=>ybb_.1 h c d
theorem yl_ {c:UInt8} {s:Str} {k:Nat} (h:ixS c s=some k):s=s.take k++c::s.drop (k+1):=by
 induction s generalizing k with
 | nil=>grind[ixS]
 | cons b s ih =>
   simp only[ixS]at h
   split at h
   . grind
   . cases hx:ixS c s<;>grind
theorem xP_ {s:Str} (h:bN_ s=true):∀ c∈s,gd_ c=true\/c=58:=by
  unfold bN_ at h;simp only[yaL_]at h;cases hx:ixS 58 s with
  | none=>grind[kN_,sN_]
  | some k =>
    rw[hx]at h;simp only[yaL_]at h;obtain⟨_,_,_,_,e⟩:=kN_ h.2.1;obtain⟨_,_,_,_,m⟩:=kN_ h.2.2;intro c d;rw[yl_ hx]at d
    grind[sN_]
theorem nh_ {c:UInt8}:∀ {s:Str},c ∉ s->ixS c s=none
  | [],_=>rfl
  | b::s,h=>by
    simp only[yal_,not_or]at h;simp only[ixS];rw[yag_ (λe=>h.1 e.symm),nh_ h.2];rfl
theorem jj_ {s:Str} (h:bN_ s=true):bD_ 46 s=[s] :=
  hi_ (nh_ λhm=>by rcases xP_ h 46 hm with h|h<;>revert h<;>decide)
theorem dn_ {s:Str} (h:bN_ s=true):bg_ s=true:=by simp[bg_,h]
theorem dd_ {s:Str} (h:bN_ s=true):cL_ s=true:=by
  grind[cL_,jj_,dn_]
theorem oJ_ (c:UInt8):∀ (f r:Str),bD_ c (f++[c]++r)=bD_ c f++bD_ c r
  | [],r=>by grind[bD_]
  | b::f,r=>by
    have d:=oJ_ c f r
    grind[bD_,xv_]
theorem vn_ {c:UInt8} (h:fJ_ c=true):c≠42/\c≠33/\c≠123/\c≠60/\c≠95:=by
  refine⟨?_,?_,?_,?_,?_⟩<;>rintro rfl<;>revert h<;>decide
theorem vR_ {s:Str} (h:bN_ s=true):bh_ s=true:=by
  grind[uX_,vn_,bh_,dn_]
theorem gZ_ {s:Str} (h:bg_ s=true):bh_ ([123]++s++[125])=true:=by
  unfold bh_
  grind
theorem kF_ {t:Str} (h:t≠[]):bh_ ([60]++t++[62])=true:=by
  unfold bh_
  grind
namespace Con
def dep:Con->Nat
  | mk _ _ _ _ _ _ ps=>deps ps
where deps:List Con->Nat
  | []=>0
  | p::ps=>max (1+dep p) (deps ps)
theorem lv_ {p:Con}:∀ {ps:List Con},p∈ps->1+p.dep<=dep.deps ps
 | q::ps,h=>by
   rcases yal_.1 h with rfl|h
   . grind[dep.deps]
   . have:=lv_ h;grind[dep.deps]
theorem hy_ (c:Con):c.dep=dep.deps c.parts:=by cases c;rfl
theorem sz_eq (c:Con):c.sz=1+sz.szs c.parts:=by cases c;rfl
theorem ln_:∀ (m:Nat) (c:Con),c.sz<=m->∀ d n,(c.fits d n).1=true↔d+c.dep<=8/\n+c.sz<=64
 | 0,c,h=>by grind[sz_pos]
 | m+1,c,h=>λd n=>by
   have k:∀ ps:List Con,(∀ p∈ps,p.sz<=m)->∀ n,n<=64->((fits.fitss ps (d+1) n).1=true↔(∀ p∈ps,d+1+p.dep<=8)/\n+sz.szs ps<=64):=by
     intro ps
     induction ps with
     | nil=>grind[fits.fitss,sz.szs]
     | cons p ps ih =>
       intro e n B;have A:=ln_ m p (e p zai_) (d+1) n
       grind[fits.fitss,sz.szs,rY_]
   have v:=hy_ c;have y:=sz_eq c;rw[fits_eq]
   split
   . grind
   . rename_i x
     simp only[ybs_,ybv_,not_or]at x;rw[k c.parts (λp e=>by have:=sz_part e;omega) (n+1) zaa_,v,y];constructor
     . rintro ⟨a,b⟩
       refine⟨?_,by omega⟩
       have:∀ ps:List Con,(∀ p∈ps,d+1+p.dep<=8)->d+dep.deps ps<=8:=by
         intro ps
         induction ps<;>grind[dep.deps]
       grind
     . rintro ⟨a,b⟩
       exact⟨λp e=>by have:=lv_ e;omega,by omega⟩
theorem mb_ (c:Con):c.check=0↔c.dep<=8/\c.sz<=64/\c.fine:=by
  unfold check fine;have h:=ln_ _ c (yad_ _) 0 0
  grind
theorem check_part {c p:Con} (h:c.check=0) (d:p∈c.parts):p.check=0:=by
  rw[mb_]at h ⊢;have e:=lv_ d;rw[<-hy_]at e;have k:=sz_part d
  grind[fine_part]
structure Names (c:Con):Prop where
  plain:c.kind=3\/c.kind=6\/c.kind=7->bN_ c.name=true
  person:c.kind=4->bg_ c.name=true
  nums:c.kind=7->-1099511627776<=c.lo/\c.lo<=c.hi/\c.hi<=1099511627776
theorem ld_ {c:Con} (h:c.fine):Names c:=by
 have F:=fields h;have d:=((gV_ c).1 h).1;unfold fieldErr at d;rw[yag_ zak_]at d
 split at d
 .cases d
 split at d
 .cases d
 rename_i m
 split at d
 .cases d
 split at d
 .rename_i k
  refine⟨λe=>?_,λe=>?_,λe=>?_⟩
  .rcases e with e|e|e<;>rw[e]at k<;>simpa [nd,ei_] using k
  all_goals grind[nd,ei_,bg_]
 cases d
theorem ph_ (x y:Str) (r:List Str) (d:Str):Lib.join (x::y::r) d=x++d++Lib.join (y::r) d:=by simp[Lib.join,List.intercalate]
theorem BK_ {c:Con} (h:c.fine) (hk:5<=c.kind):c.text≠[]:=by
 have F:=fields h;have e:=F.k7;rw[text_eq,yag_ zaa_,yag_ zaa_,yag_ zaa_,yag_ zaa_]
 split
 .rename_i d
  have hl:=F.le;rw[d]at hl;simp[nd,ei_]at hl
  match hp:c.parts,hl with
  | [],hl=>simp at hl
  | [_],hl=>simp at hl
  | p::q::r,_=>simp only[yar_,ph_];simp
 split
 .grind[ph_]
 simp only[ph_];simp
theorem atom_ok {c:Con} (h:c.check=0):bh_ c.atom=true:=by
 have d:=(check_zero h).1;have F:=fields d;have N:=ld_ d;have e:=F.k1;unfold atom
 split
 .rfl
 split
 .rfl
 split
 .exact vR_ (N.plain zaa_)
 split
 .exact gZ_ (N.person zaa_)
 grind[textN,kF_,BK_]
theorem atom_len {c:Con} (d:c.ok) (h:c.check=0):c.atom.length<=7000:=by
  grind[fields,check_zero,Fields.nm,textN_len,atom]
theorem xL_ {c:Con} (h:c.check=0) (hk:c.kind=5) {j:Nat} (y:2<=j) (B:j<=c.parts.length):(c.pre j).check=0:=by
 have m:=(check_zero h).1;have F:=fields m;have d:=F.mo;rw[hk]at d;simp[nd,ei_]at d
 rw[mb_]at h ⊢
 have k:∀ (ps:List Con) (j:Nat),sz.szs (ps.take j)<=sz.szs ps/\dep.deps (ps.take j)<=dep.deps ps:=by
   intro ps
   induction ps with
   | nil=>grind
   | cons p ps ih =>
     intro j;cases j<;>grind[sz.szs,dep.deps]
 have C:=k c.parts j;have A:=hy_ c;have E:=sz_eq c;refine⟨?_,?_,?_⟩
 .rw[hy_];show dep.deps (c.parts.take j)<=8;omega
 .rw[sz_eq];show 1+sz.szs (c.parts.take j)<=64;omega
 rw[gV_];refine⟨?_,λp v=>fine_part m (ybr_ v)⟩;unfold fieldErr;have e:(c.pre j).parts.length=j:=by show (c.parts.take j).length=j;simp;omega
 rw[yag_ (by show ¬ ((5:Int)<1\/7<(5:Int));omega)];simp only[e];have x:(c.pre j).kind=5:=rfl
 grind[nd,ei_,pre,name,lo,hi]
end Con
structure PQ (f:Int) (q:Pc):Prop where
  frm:q.frm=f
  sm:q.sm
  ok:q.valid=true
section
variable {f:Int} (h0:-1<=f) (h1:f<1024) {a b c r s t:Str} {lo hi:Int}
include h0 h1
theorem uD_ (d:bh_ a=true) (e:bh_ c=true):Pc.valid ⟨1,a,[],c,[],[],[],0,0,f⟩=true:=by
  grind[Pc.valid,nus,iv_,cn_]
theorem val2 (d:bh_ a=true) (h:bh_ b=true) (e:bh_ c=true):Pc.valid ⟨2,a,b,c,[],[],[],0,0,f⟩=true:=by
  grind[Pc.valid,nus,iv_,cn_]
theorem val3 (d:bh_ a=true) (h:cL_ r=true) (e:bh_ c=true):Pc.valid ⟨3,a,[],c,r,[],[],0,0,f⟩=true:=by
  grind[Pc.valid,nus,iv_,cn_]
theorem val4 (d:bh_ a=true) (h:cL_ r=true) (e:bh_ c=true):Pc.valid ⟨4,a,[],c,r,[],[],0,0,f⟩=true:=by
  grind[Pc.valid,nus,iv_,cn_]
theorem val5 (e:cL_ r=true) (d:cL_ t=true):Pc.valid ⟨5,[],[],[],r,[],t,0,0,f⟩=true:=by
  unfold Pc.valid;grind[nus,iv_,cn_]
theorem val6 (h:cL_ r=true) (d:cL_ s=true) (e:cL_ t=true):Pc.valid ⟨6,[],[],[],r,s,t,0,0,f⟩=true:=by
  unfold Pc.valid;rw[yag_ zar_];simp[nus,iv_,cn_,h,d,e]
theorem val7 (d:cL_ r=true):Pc.valid ⟨7,[],[],[],r,[],[],0,0,f⟩=true:=by
  unfold Pc.valid;rw[yag_ zar_];simp[nus,iv_,cn_,d]
theorem val8 (d:bh_ a=true) (e:bg_ r=true) (h:-1099511627776<=lo/\lo<=hi/\hi<=1099511627776):Pc.valid ⟨8,a,[],[],r,[],[],lo,hi,f⟩=true:=by
  unfold Pc.valid;rw[yag_ zar_,yag_ zak_];simp[nus,iv_,cn_,d,e]
theorem val9 (d:bh_ c=true) (e:bg_ r=true) (h:-1099511627776<=lo/\lo<=hi/\hi<=1099511627776):Pc.valid ⟨9,[],[],c,r,[],[],lo,hi,f⟩=true:=by
  unfold Pc.valid;rw[yag_ zar_,yag_ zak_];simp[nus,iv_,cn_,d,e]
end
theorem cR_ {Q:Pc->Prop} {f:Int} {l:List Pc} {p:Pc} (hl:∀ q∈l,Q q) (d:Q { p with frm:=f }):∀ q∈ins f l p,Q q:=by
  grind[ins]
theorem cA_ {s:Str} (h:bN_ s=true):s.length<=24:=Con.plain_len h
theorem gv_ {s:Str} (h:bg_ s=true):s.length<=24:=by
  grind[bg_,Con.plain_len,Con.reserved_len]
namespace Con
section
variable {f:Int} (h0:-1<=f) (h1:f<1024)
include h0 h1
theorem uw_ (c:Con) (e:c.ok) (h:c.check=0) (hk:c.kind=5):∀ (r:List Con) (j:Nat) (a:Str) (l:List Pc),1<=j->j+r.length<=c.parts.length->(∀ p∈r,p∈c.parts)->bh_ a=true->a.length<=7000->(∀ q∈l,PQ f q)->∀ q∈andP f c r j a l,PQ f q
  | [],_,_,l,_,_,_,_,_,hl=>hl
  | p::r,j,a,l,hj,hlen,hm,ha,hal,hl=>by
    simp only[yak_]at hlen;have k:=hm p zai_;have d:=xL_ h hk (j:=j+1) zaa_ zaa_;have m:=atom_ok d;have x:=atom_len (pre_ok e (j+1)) d;have v:=atom_ok (check_part h k);have A:=atom_len (ok_part e k) (check_part h k);simp only[andP]
    exact uw_ c e h hk r (j+1) _ _ zaa_ zaa_ (λq y=>hm q (by simp[y])) m x
      (cR_ hl ⟨rfl,⟨by grind,by grind,by grind,by simp,by simp,by simp⟩,val2 h0 h1 ha v m⟩)
theorem leftP_all:∀ (m:Nat) (c:Con),c.sz<=m->c.ok->c.check=0->∀ l,(∀ q∈l,PQ f q)->∀ q∈c.leftP f l,PQ f q
 | 0,c,h=>by grind[sz_pos]
 | m+1,c,h=>λv x l hl=>by
   have A:∀ ps:List Con,(∀ p∈ps,p∈c.parts)->∀ l,(∀ q∈l,PQ f q)->∀ q∈leftP.lefts f ps l,PQ f q:=by
     intro ps
     induction ps with
     | nil=>intro _ l hl;exact hl
     | cons p ps ih =>
       intro y l hl;have d:=y p zai_;exact ih (λq C=>y q (by simp[C])) _ (leftP_all m p (by have:=sz_part d;omega) (ok_part v d) (check_part x d) l hl)
   have hk:=A c.parts (λ_ h=>h) l hl;have F:=fields (check_zero x).1;have N:=ld_ (check_zero x).1;have ca:=atom_ok x;have cl:=atom_len v x;rw[leftP_eq]
   split
   . rename_i G
     have e:=F.le;rw[G]at e;simp[nd,ei_]at e
     match y:c.parts,e with
     | [],e=>simp at e
     | p::r,_ =>
       have d:p∈c.parts:=by grind
       have I:=atom_ok (check_part x d);have H:=atom_len (ok_part v d) (check_part x d);refine uw_ h0 h1 c v x G _ 1 _ _ zaa_ zak_ (λq C=>by grind) zak_ zak_ zak_
   . split
     . rename_i B
       have e:=F.le;rw[B]at e;simp[nd,ei_]at e
       have k:=N.plain (.inr (.inl B))
       match y:c.parts,e with
       | [],e=>simp at e
       | p::r,_ =>
         have d:p∈c.parts:=by grind
         have I:=atom_ok (check_part x d);have H:=atom_len (ok_part v d) (check_part x d);have J:=cA_ k;rw[y]at hk;exact cR_ hk ⟨rfl,⟨by simp;omega,by simp,by grind,by grind,by simp,by simp⟩,val4 h0 h1 zak_ (dd_ k) ca⟩
     . split
       . rename_i E
         have k:=N.plain (.inr (.inr E));have J:=cA_ k;exact cR_ hl ⟨rfl,⟨by simp,by simp,by grind,by grind,by simp,by simp⟩,val9 h0 h1 ca (dn_ k) (N.nums E)⟩
       . exact hl
theorem rightP_all:∀ (m:Nat) (c:Con),c.sz<=m->c.ok->c.check=0->∀ l,(∀ q∈l,PQ f q)->∀ q∈c.rightP f l,PQ f q
 | 0,c,h=>by grind[sz_pos]
 | m+1,c,h=>λk x l hl=>by
   have ca:=atom_ok x;have cl:=atom_len k x
   have H:∀ ps:List Con,(∀ p∈ps,p∈c.parts)->∀ l,(∀ q∈l,PQ f q)->∀ q∈rightP.rights f c.atom ps l,PQ f q:=by
     intro ps
     induction ps with
     | nil=>intro _ l hl;exact hl
     | cons p ps ih =>
       intro y l hl;have d:=y p zai_;have C:=atom_ok (check_part x d);have I:=atom_len (ok_part k d) (check_part x d)
       exact ih (λq B=>y q (by simp[B])) _ (rightP_all m p (by have:=sz_part d;omega) (ok_part k d) (check_part x d) _
         (cR_ hl ⟨rfl,⟨by grind,by simp,by grind,by simp,by simp,by simp⟩,uD_ h0 h1 ca C⟩))
   have A:∀ ps:List Con,(∀ p∈ps,p∈c.parts)->∀ l,(∀ q∈l,PQ f q)->∀ q∈rightP.righty f ps l,PQ f q:=by
     intro ps
     induction ps with
     | nil=>intro _ l hl;exact hl
     | cons p ps ih =>
       intro y l hl;have d:=y p zai_;exact ih (λq B=>y q (by simp[B])) _ (rightP_all m p (by have:=sz_part d;omega) (ok_part k d) (check_part x d) l hl)
   have F:=fields (check_zero x).1;have N:=ld_ (check_zero x).1;rw[rightP_eq]
   split
   . grind
   . split
     . rename_i E
       have v:=F.le;rw[E]at v;simp[nd,ei_]at v
       have e:=N.plain (.inr (.inl E));have J:=cA_ e;refine A c.parts (λ_ h=>h) _ (cR_ hl ?_)
       match y:c.parts,v with
       | [],v=>simp at v
       | p::r,_ =>
         have d:p∈c.parts:=by grind
         have C:=atom_ok (check_part x d);have I:=atom_len (ok_part k d) (check_part x d);exact⟨rfl,⟨by grind,by simp,by simp;omega,by grind,by simp,by simp⟩,val3 h0 h1 ca (dd_ e) zak_⟩
     . split
       . rename_i G
         have e:=N.plain (.inr (.inr G));have J:=cA_ e;exact cR_ hl ⟨rfl,⟨by grind,by simp,by simp,by grind,by simp,by simp⟩,val8 h0 h1 ca (dn_ e) (N.nums G)⟩
       . exact hl
end
end Con
namespace Ax
section
variable {f:Int} (h0:-1<=f) (h1:f<1024)
include h0 h1
theorem pI_ (role:Str) (y:bN_ role=true):∀ (x:List Str) (g:Str) (l:List Pc),(∀ r∈x,bN_ r=true)->(bD_ 46 g).length+x.length<=4->((bD_ 46 g).all bg_=true)->g.length<=100*(bD_ 46 g).length->(∀ q∈l,PQ f q)->∀ q∈chainP f role x g l,PQ f q
 | [],_,_,_,_,_,_,hl=>hl
 | r::t,g,l,hp,hn,hg,hgl,hl=>by
   have d:=hp r zai_;have E:=cA_ d;have B:=cA_ y;simp only[yak_]at hn
   have h:cL_ g=true:=by
     grind[cL_]
   simp only[chainP]
   by_cases A:t=[]
   . subst A
     simp only[ycq_,chainP];exact cR_ hl ⟨rfl,⟨by simp,by simp,by simp,by grind,by grind,by grind⟩,val6 h0 h1 h (dd_ d) (dd_ y)⟩
   . simp only[A,ycF_]
     have F:0<t.length:=ycI_.2 A;have e:=oJ_ 46 g r;rw[jj_ d]at e;have m:(bD_ 46 (g++[46]++r)).all bg_=true:=by grind[dn_]
     have C:(bD_ 46 (g++[46]++r)).length=(bD_ 46 g).length+1:=by grind
     have v:(g++[46]++r).length<=100*(bD_ 46 (g++[46]++r)).length:=by grind
     have k:cL_ (g++[46]++r)=true:=by
       grind[cL_]
     exact pI_ role y t _ _ (λq G=>hp q (by simp[G])) zaa_ m v
       (cR_ hl ⟨rfl,⟨by simp,by simp,by simp,by grind,by grind,by grind⟩,val6 h0 h1 h (dd_ d) k⟩)
theorem pieces_all {x:Ax} (d:x.ok) (m:x.check=0):∀ q∈x.pieces f,PQ f q:=by
 have G:=good_of m;have L:=λ(c:Con) (d:c.ok) (m:c.check=0)=>Con.leftP_all h0 h1 _ c (yad_ _) d m
 have y:=λ(c:Con) (d:c.ok) (m:c.check=0)=>Con.rightP_all h0 h1 _ c (yad_ _) d m
 have n:∀ q∈([]:List Pc),PQ f q:=λq E=>by cases E
 have J:=G.k1;have M:=G.k9;have A:=λ(c:Con) (d:c.ok) (m:c.check=0)=>(⟨Con.atom_ok m,Con.atom_len d m⟩:bh_ c.atom=true/\c.atom.length<=7000)
 unfold pieces
 split
 .have l:=G.left zaa_;have r:=G.right zaa_
  have v:=A _ d.left l;have k:=A _ d.right r;exact cR_ (y _ d.right r _ (L _ d.left l _ n)) ⟨rfl,⟨by grind,by simp,by grind,by simp,by simp,by simp⟩,uD_ h0 h1 v.1 k.1⟩
 split
 .have l:=G.left zaa_;have r:=G.right zaa_
  have v:=A _ d.left l;have k:=A _ d.right r;exact cR_ (y _ d.left l _ (L _ d.right r _ (cR_ (y _ d.right r _ (L _ d.left l _ n)) ⟨rfl,⟨by grind,by simp,by grind,by simp,by simp,by simp⟩,uD_ h0 h1 v.1 k.1⟩))) ⟨rfl,⟨by grind,by simp,by grind,by simp,by simp,by simp⟩,uD_ h0 h1 k.1 v.1⟩
 split
 .have l:=G.left zaa_;have r:=G.right zaa_
  have v:=A _ d.left l;have k:=A _ d.right r;exact cR_ (L _ d.right r _ (L _ d.left l _ n)) ⟨rfl,⟨by grind,by grind,by simp,by simp,by simp,by simp⟩,val2 h0 h1 v.1 k.1 rfl⟩
 split
 .have r:=G.right zaa_;have k:=A _ d.right r;have p:=G.role zaa_;have pl:=cA_ p
  exact cR_ (y _ d.right r _ n) ⟨rfl,⟨by simp,by simp,by grind,by grind,by simp,by simp⟩,val4 h0 h1 rfl (dd_ p) k.1⟩
 split
 .rename_i H
  have p:=G.role zaa_;have pl:=cA_ p;have I:=G.one H
  match hr:x.roles,I with
  | [r],_ =>
    have B:=G.roles r zak_;have C:=cA_ B;exact cR_ n ⟨rfl,⟨by simp,by simp,by simp,by simp;omega,by simp,by grind⟩,val5 h0 h1 (by grind[dd_]) (dd_ p)⟩
 split
 .rename_i K
  have p:=G.role zaa_;have h:=G.chain K
  match hr:x.roles,h with
  | [],h=>simp at h
  | r::t,h =>
    have B:=G.roles r zak_;have C:=cA_ B;have e:=jj_ B;simp only[yak_]at h;simp only[ycd_,ycw_,List.headD_cons];exact pI_ h0 h1 x.role p t r [] (λq E=>G.roles q zak_) zak_ (by grind[dn_]) zak_ n
 split
 .have p:=G.role zaa_;have pl:=cA_ p
  exact cR_ n ⟨rfl,⟨by simp,by simp,by simp,by grind,by simp,by simp⟩,val7 h0 h1 (dd_ p)⟩
 split
 .have r:=G.right zaa_;have k:=A _ d.right r;have p:=G.a zaa_;have pl:=gv_ p
  exact cR_ (y _ d.right r _ n) ⟨rfl,⟨by simp;omega,by simp,by grind,by simp,by simp,by simp⟩,uD_ h0 h1 (gZ_ p) k.1⟩
 have p:=G.role zaa_;have pl:=cA_ p;have F:=G.a zaa_;have pb:=G.b zaa_;have N:=gv_ F;have O:=gv_ pb;exact cR_ n ⟨rfl,⟨by simp;omega,by simp,by simp;omega,by grind,by simp,by simp⟩,val3 h0 h1 (gZ_ F) (dd_ p) (gZ_ pb)⟩
end
end Ax
def shift (k:Int) (p:Pc):Pc:={ p with frm:=p.frm+k }
theorem xw_ {k:Int} {p q:Pc} (h:shift k p=shift k q):p=q:=by
  cases p;cases q
  grind[shift]
theorem gx_ (f k:Int) (l:List Pc) (p:Pc):ins (f+k) (l.map (shift k)) p=(ins f l p).map (shift k):=by
  grind[shift,xw_,ins]
namespace Con
theorem pR_ (f k:Int) (c:Con):∀ (r:List Con) (j:Nat) (a:Str) (l:List Pc),andP (f+k) c r j a (l.map (shift k))=(andP f c r j a l).map (shift k)
  | [],_,_,_=>rfl
  | p::r,j,a,l=>by simp only[andP,gx_];exact pR_ f k c r (j+1) _ _
theorem leftP_shift (f k:Int):∀ (m:Nat) (c:Con),c.sz<=m->∀ l,c.leftP (f+k) (l.map (shift k))=(c.leftP f l).map (shift k)
  | 0,c,h=>by grind[sz_pos]
  | m+1,c,h=>λl=>by
    have d:∀ ps:List Con,(∀ p∈ps,p.sz<=m)->∀ l,leftP.lefts (f+k) ps (l.map (shift k))=(leftP.lefts f ps l).map (shift k):=by
      intro ps
      induction ps with
      | nil=>intro _ l;rfl
      | cons p ps ih =>
        intro e l;simp only[leftP.lefts];rw[leftP_shift f k m p (e p zai_) l]
        grind
    have hk:=d c.parts (λp e=>by have:=sz_part e;omega) l
    grind[leftP_eq,pR_,gx_]
theorem rightP_shift (f k:Int):∀ (m:Nat) (c:Con),c.sz<=m->∀ l,c.rightP (f+k) (l.map (shift k))=(c.rightP f l).map (shift k)
  | 0,c,h=>by grind[sz_pos]
  | m+1,c,h=>λl=>by
    have v:∀ ps:List Con,(∀ p∈ps,p.sz<=m)->∀ a l,rightP.rights (f+k) a ps (l.map (shift k))=(rightP.rights f a ps l).map (shift k):=by
      intro ps
      induction ps with
      | nil=>intro _ a l;rfl
      | cons p ps ih =>
        intro d a l;simp only[rightP.rights];rw[gx_,rightP_shift f k m p (d p zai_)]
        grind
    have e:∀ ps:List Con,(∀ p∈ps,p.sz<=m)->∀ l,rightP.righty (f+k) ps (l.map (shift k))=(rightP.righty f ps l).map (shift k):=by
      intro ps
      induction ps with
      | nil=>intro _ l;rfl
      | cons p ps ih =>
        intro d l;simp only[rightP.righty];rw[rightP_shift f k m p (d p zai_)]
        grind
    have x:∀ p∈c.parts,p.sz<=m:=λp d=>by have:=sz_part d;omega
    grind[rightP_eq,gx_]
end Con
theorem Ax.chainP_shift (f k:Int) (d:Str):∀ (e:List Str) (g:Str) (l:List Pc),Ax.chainP (f+k) d e g (l.map (shift k))=(Ax.chainP f d e g l).map (shift k)
  | [],_,_=>rfl
  | r::t,g,l=>by simp only[Ax.chainP,gx_];exact Ax.chainP_shift f k d t _ _
theorem Ax.pieces_shift (f k:Int) (x:Ax):x.pieces (f+k)=(x.pieces f).map (shift k):=by
  have L:=λ(c:Con) l=>Con.leftP_shift f k _ c (yad_ _) l
  have d:=λ(c:Con) l=>Con.rightP_shift f k _ c (yad_ _) l
  have n:([]:List Pc)=([]:List Pc).map (shift k):=rfl;unfold Ax.pieces
  repeat' split
  all_goals grind[gx_,chainP_shift]
def cB_:Nat->List Ax->List Pc
  | _,[]=>[]
  | i,x::l=>x.pieces (i:Int)++cB_ (i+1) l
theorem ps_:∀ (i:Nat) (l:List Ax),(∀ x∈l,x.check=0)->(cB_ i l).length<=1000*l.length
  | _,[],_=>by simp[cB_]
  | i,x::l,h=>by
    have h1:=kw_ (i:Int) (Ax.good_of (h x zai_));have e:=ps_ (i+1) l λy d=>h y zaH_
    grind[cB_]
theorem qX_:∀ (l:List Ax) (i:Nat) (p:List Pc),(∀ x∈l,x.check=0)->p.length+1000*l.length<=16384->gU_ i l p=some (p++cB_ i l)
  | [],i,p,_,_=>by simp[gU_,cB_]
  | x::l,i,p,h,hl=>by
    have h1:=kw_ (i:Int) (Ax.good_of (h x zai_));simp only[yak_]at hl;simp only[gU_,cB_];rw[yag_ zar_,qX_ l (i+1) _ (λy d=>h y zaH_) zar_,yap_]
theorem pt_:∀ (l:List Ax) (i:Nat),i+l.length<=1024->(∀ x∈l,x.ok)->(∀ x∈l,x.check=0)->∀ q∈cB_ i l,(i:Int)<=q.frm/\q.frm<((i+l.length:Nat):Int)/\q.sm/\q.valid=true
 | [],_,_,_,_=>by simp[cB_]
 | x::l,i,hi,hok,hc=>by
   simp only[yak_]at hi ⊢;intro q d;simp only[cB_]at d;rcases yai_.1 d with d|d
   . have h:=Ax.pieces_all (f:=(i:Int)) zaa_ zaa_ (hok x zai_) (hc x zai_) q d
     grind[PQ.frm,PQ.sm,PQ.ok]
   . have h:=pt_ l (i+1) zaa_ (λy e=>hok y zbw_) (λy e=>hc y zbw_) q d
     grind
theorem kx_ {l:List Ax} (hl:l.length<=12) (h:∀ x∈l,x.check=0):aM_ l=(cB_ 0 l,0):=by
  grind[aM_,fL_,qX_]
end Go.Vs
namespace Go.Vs
open Go Go.Sx
section
variable {f:Int} {R:List Pc->List Pc->Prop} (hr:∀ l,R l l) (ht:∀ {a b c},R a b->R b c->R a c) (hi:∀ l p,R l (ins f l p))
include hr ht hi
theorem uu_ (c:Con):∀ (r:List Con) (j:Nat) (a:Str) (l:List Pc),R l (c.andP f r j a l)
  | [],_,_,l=>hr l
  | p::r,j,a,l=>ht (hi l _) (uu_ c r (j+1) _ _)
theorem qS_:∀ (m:Nat) (c:Con),c.sz<=m->∀ l,R l (c.leftP f l)
 | 0,c,h=>by grind[Con.sz_pos]
 | m+1,c,h=>λl=>by
   have e:∀ ps:List Con,(∀ p∈ps,p.sz<=m)->∀ l,R l (Con.leftP.lefts f ps l):=by
     intro ps
     induction ps with
     | nil=>intro _ l;exact hr l
     | cons p ps ih=>intro d l;exact ht (qS_ m p (d p zai_) l) (ih (λq k=>d q (by simp[k])) _)
   have hk:=e c.parts (λp d=>by have:=Con.sz_part d;omega) l;rw[Con.leftP_eq]
   split
   . exact ht hk (uu_ hr ht hi c _ _ _ _)
   grind
theorem ks_:∀ (m:Nat) (c:Con),c.sz<=m->∀ l,R l (c.rightP f l)
  | 0,c,h=>by grind[Con.sz_pos]
  | m+1,c,h=>λl=>by
    have v:∀ ps:List Con,(∀ p∈ps,p.sz<=m)->∀ a l,R l (Con.rightP.rights f a ps l):=by
      intro ps
      induction ps with
      | nil=>intro _ a l;exact hr l
      | cons p ps ih=>intro d a l;exact ht (hi _ _) (ht (ks_ m p (d p zai_) _) (ih (λq e=>d q zbw_) _ _))
    have k:∀ ps:List Con,(∀ p∈ps,p.sz<=m)->∀ l,R l (Con.rightP.righty f ps l):=by
      intro ps
      induction ps with
      | nil=>intro _ l;exact hr l
      | cons p ps ih=>intro d l;exact ht (ks_ m p (d p zai_) l) (ih (λq e=>d q zbw_) _)
    have x:∀ p∈c.parts,p.sz<=m:=λp d=>by have:=Con.sz_part d;omega
    grind[Con.rightP_eq]
theorem lS_:∀ (xs:List Str) (l:List Pc),R l (bl_ f xs l)
  | [],l=>hr l
  | a::r,l=>ht (hi l _) (lS_ r _)
end
structure Gr (a b:List Pc):Prop where
  nodup:a.Nodup->b.Nodup
  sub:∀ q∈a,q∈b
theorem Gr.refl (l:List Pc):Gr l l:=⟨id,λ_ h=>h⟩
theorem Gr.trans {a b c:List Pc} (h:Gr a b) (k:Gr b c):Gr a c:=⟨λq=>k.nodup (h.nodup q),λq d=>k.sub q (h.sub q d)⟩
theorem Gr.ins (f:Int) (l:List Pc) (p:Pc):Gr l (ins f l p):=by
 unfold Vs.ins
 split
 .grind[refl]
 rename_i h
 refine⟨λe=>?_,λq d=>yax_ _ d⟩
 grind
theorem CM_ (f:Int) (l:List Pc) (p:Pc):{ p with frm:=f }∈ins f l p:=by
  grind[ins]
theorem qL_ (f:Int):∀ (xs:List Str) (l:List Pc),∀ a∈xs,{ fZ_ a [42] with frm:=f }∈bl_ f xs l
 | [],_,_,h=>by cases h
 | x::xs,l,a,h=>by
   rcases yal_.1 h with rfl|h
   . exact (lS_ (f:=f) Gr.refl Gr.trans (Gr.ins f) xs _).sub _ (CM_ f l _)
   . exact qL_ f xs _ a h
theorem qM_ {f:Int} (e:-1<=f) (d:f<1024):∀ (xs:List Str) (l:List Pc),(∀ a∈xs,bh_ a=true/\a.length<=1000000000000)->(∀ q∈l,PQ f q)->∀ q∈bl_ f xs l,PQ f q
  | [],_,_,hl=>hl
  | a::r,l,ha,hl=>by
    have h:=ha a zai_;exact qM_ e d r _ (λb k=>ha b (by simp[k])) (cR_ hl ⟨rfl,⟨by grind[fZ_],by simp[fZ_],by simp[fZ_],by simp[fZ_],by simp[fZ_],by simp[fZ_]⟩,uD_ e d h.1 rfl⟩)
def wgt (c:Con):Nat:=if c.kind=0 then 0 else c.sz
structure GoalOk (p:List Pc) (l:List Fc):Prop where
  gr:p.Nodup
  pq:∀ q∈p,PQ (-1) q
  len:p.length<=2000
  one:1<=l.length/\l.length<=2
  ment:∀ g∈l,(⟨1,g.a,[],[42],[],[],[],0,0,-1⟩:Pc)∈p/\(⟨1,g.b,[],[42],[],[],[],0,0,-1⟩:Pc)∈p
theorem rW_ {x:Ax} (d:x.ok) (B:x.check=0) (hk:¬ (x.kind=5\/x.kind=6\/x.kind=7)):GoalOk x.goalP.1 x.goalP.2.1/\x.goalP.2.2=0:=by
 have G:=Ax.good_of B;have k1:=G.k1;have k9:=G.k9;have gr:=λl p=>Gr.ins (-1) l p
 have L:=λ(c:Con) l=>qS_ (f:=-1) Gr.refl Gr.trans gr _ c (yad_ _) l
 have Q:=λ(c:Con) l=>ks_ (f:=-1) Gr.refl Gr.trans gr _ c (yad_ _) l
 have M:=λxs l=>lS_ (f:=-1) Gr.refl Gr.trans gr xs l
 have C:=λxs l a h=>qL_ (-1) xs l a h
 have LA:=λ(c:Con) (d:c.ok) (B:c.check=0) l hl=>Con.leftP_all (f:=-1) zae_ zae_ _ c (yad_ _) d B l hl
 have I:=λ(c:Con) (d:c.ok) (B:c.check=0) l hl=>Con.rightP_all (f:=-1) zae_ zae_ _ c (yad_ _) d B l hl
 have E:=λxs l hx hl=>qM_ (f:=-1) zae_ zae_ xs l hx hl
 have n:∀ q∈([]:List Pc),PQ (-1) q:=λq hq=>by cases hq
 have A:=λ(c:Con) (d:c.ok) (B:c.check=0)=>(⟨Con.atom_ok B,by grind[Con.atom_len]⟩:bh_ c.atom=true/\c.atom.length<=1000000000000)
 have Ll:=λ(c:Con) l=>Con.leftP_len (-1) _ c (yad_ _) l
 have Ql:=λ(c:Con) l=>Con.rightP_len (-1) _ c (yad_ _) l
 have Ml:=λxs l=>ev_ (-1) xs l
 have Il:=λl p=>cH_ (-1) l p
 have sl:x.kind<=3->x.left.sz<=64:=λh=>(Con.check_zero (G.left h)).2
 have K:x.kind<=4\/x.kind=8->x.right.sz<=64:=λh=>(Con.check_zero (G.right h)).2
 have nd:([]:List Pc).Nodup:=ybG_
 have k:∀ (a b:Str),bh_ a=true/\a.length<=1000000000000->bh_ b=true/\b.length<=1000000000000->∀ c∈[a,b],bh_ c=true/\c.length<=1000000000000:=by
   grind
 have m2:∀ (a b:Str) (p:List Pc) (r:Str),Gr (bl_ (-1) [a,b] []) p->∀ g∈[(⟨1,a,b,r,0,0⟩:Fc)],(⟨1,g.a,[],[42],[],[],[],0,0,-1⟩:Pc)∈p/\(⟨1,g.b,[],[42],[],[],[],0,0,-1⟩:Pc)∈p:=by
   intro a b p r J g hm;simp only[yam_]at hm;subst hm;exact⟨J.sub _ (C [a,b] [] a zai_),J.sub _ (C [a,b] [] b zai_)⟩
 unfold Ax.goalP;rw[yag_ zaa_]
 split
 .have l:=G.left zaa_;have r:=G.right zaa_;have H:=A _ d.left l;have y:=A _ d.right r;have:=sl zaa_;have:=K zaa_
  have v:=Q x.left (bl_ (-1) [x.left.atom,x.right.atom] []);have F:=L x.right (x.left.rightP (-1) (bl_ (-1) [x.left.atom,x.right.atom] []));refine⟨⟨(Gr.trans (M _ _) (Gr.trans v F)).nodup nd,LA _ d.right r _ (I _ d.left l _ (E _ _ (k _ _ H y) n)),?_,by simp,m2 _ _ _ _ (Gr.trans v F)⟩,rfl⟩
  grind
 split
 .have l:=G.left zaa_;have r:=G.right zaa_;have H:=A _ d.left l;have y:=A _ d.right r;have:=sl zaa_;have:=K zaa_
  have v:=Q x.left (bl_ (-1) [x.left.atom,x.right.atom] []);have F:=L x.right (x.left.rightP (-1) (bl_ (-1) [x.left.atom,x.right.atom] []));have P:=Q x.right (x.right.leftP (-1) (x.left.rightP (-1) (bl_ (-1) [x.left.atom,x.right.atom] [])));have Y:=L x.left (x.right.rightP (-1) (x.right.leftP (-1) (x.left.rightP (-1) (bl_ (-1) [x.left.atom,x.right.atom] []))));have m:=Gr.trans v (Gr.trans F (Gr.trans P Y));refine⟨⟨(Gr.trans (M _ _) m).nodup nd,LA _ d.left l _ (I _ d.right r _ (LA _ d.right r _ (I _ d.left l _ (E _ _ (k _ _ H y) n)))),?_,by simp,?_⟩,rfl⟩
  .grind
  intro g J;simp only[yal_,yat_,ybd_]at J;have V:=C [x.left.atom,x.right.atom] [] x.left.atom zai_;have T:=C [x.left.atom,x.right.atom] [] x.right.atom zai_;rcases J with rfl|rfl
  .exact⟨m.sub _ V,m.sub _ T⟩
  exact⟨m.sub _ T,m.sub _ V⟩
 split
 .have l:=G.left zaa_;have r:=G.right zaa_;have H:=A _ d.left l;have y:=A _ d.right r;have:=sl zaa_;have:=K zaa_
  have o1:=Con.operandN_len d.left;have o2:=Con.operandN_len d.right
  have W:bh_ x.disj=true/\x.disj.length<=1000000000000:=by
    grind[Ax.disj,kF_]
  have b1:∀ (l:List Pc),(∀ q∈l,PQ (-1) q)->∀ (c:Str),bh_ c=true->c.length<=1000000000000->∀ q∈ins (-1) l (fZ_ x.disj c),PQ (-1) q:=λl hl c B hcl=>cR_ hl ⟨rfl,⟨by grind[fZ_],by simp[fZ_],by grind[fZ_],by simp[fZ_],by simp[fZ_],by simp[fZ_]⟩,uD_ zae_ zae_ W.1 B⟩
  have O:=gr (bl_ (-1) [x.disj,[33]] []) (fZ_ x.disj x.left.atom);have v:=Q x.left (ins (-1) (bl_ (-1) [x.disj,[33]] []) (fZ_ x.disj x.left.atom));have F:=gr (x.left.rightP (-1) (ins (-1) (bl_ (-1) [x.disj,[33]] []) (fZ_ x.disj x.left.atom))) (fZ_ x.disj x.right.atom);have P:=Q x.right (ins (-1) (x.left.rightP (-1) (ins (-1) (bl_ (-1) [x.disj,[33]] []) (fZ_ x.disj x.left.atom))) (fZ_ x.disj x.right.atom));have m:=Gr.trans O (Gr.trans v (Gr.trans F P));refine⟨⟨(Gr.trans (M _ _) m).nodup nd,I _ d.right r _ (b1 _ (I _ d.left l _ (b1 _ (E _ _ (k _ _ W ⟨rfl,by simp⟩) n) _ H.1 H.2)) _ y.1 y.2),?_,by simp,m2 _ _ _ _ m⟩,rfl⟩
  grind
 split
 .have r:=G.right zaa_;have y:=A _ d.right r;have:=K zaa_;have p:=G.role zaa_;have pl:=cA_ p
  have U:bh_ x.doms=true/\x.doms.length<=1000000000000:=by
    refine⟨?_,by simp[Ax.doms];omega⟩;have e:x.doms=[60]++([115,111,109,101,32]++x.role++[32,101,118,101,114,121,116,104,105,110,103])++[62]:=by simp[Ax.doms]
    grind[kF_]
  have O:=gr (bl_ (-1) [x.doms,x.right.atom] []) ⟨3,x.doms,[],[42],x.role,[],[],0,0,0⟩;have v:=L x.right (ins (-1) (bl_ (-1) [x.doms,x.right.atom] []) ⟨3,x.doms,[],[42],x.role,[],[],0,0,0⟩);have m:=Gr.trans O v;refine⟨⟨(Gr.trans (M _ _) m).nodup nd,LA _ d.right r _ (cR_ (E _ _ (k _ _ U y) n) ⟨rfl,⟨by grind,by simp,by simp,by grind,by simp,by simp⟩,val3 zae_ zae_ U.1 (dd_ p) rfl⟩),?_,by simp,m2 _ _ _ _ m⟩,rfl⟩
  grind
 split
 .have r:=G.right zaa_;have y:=A _ d.right r;have:=K zaa_;have p:=G.a zaa_;have pl:=gv_ p
  have N:bh_ (cZ_ x.a)=true/\(cZ_ x.a).length<=1000000000000:=⟨gZ_ p,by grind[cZ_]⟩;have v:=L x.right (bl_ (-1) [cZ_ x.a,x.right.atom] []);refine⟨⟨(Gr.trans (M _ _) v).nodup nd,LA _ d.right r _ (E _ _ (k _ _ N y) n),?_,by simp,m2 _ _ _ _ v⟩,rfl⟩
  grind
 split
 .have p:=G.a zaa_;have pl:=gv_ p;have S:=G.b zaa_;have X:=gv_ S
  have N:bh_ (cZ_ x.a)=true/\(cZ_ x.a).length<=1000000000000:=⟨gZ_ p,by grind[cZ_]⟩;have Z:bh_ (cZ_ x.b)=true/\(cZ_ x.b).length<=1000000000000:=⟨gZ_ S,by grind[cZ_]⟩;refine⟨⟨(M _ _).nodup nd,E _ _ (k _ _ N Z) n,?_,by simp,?_⟩,rfl⟩
  .grind
  intro g hm;simp only[yam_]at hm;subst hm;exact⟨C [cZ_ x.a,cZ_ x.b] [] (cZ_ x.a) zai_,C [cZ_ x.a,cZ_ x.b] [] (cZ_ x.b) zai_⟩
 grind
end Go.Vs
namespace Go.Sx
open Go
section
variable {P:Program} {N:Nf} {fr:Fr} {H:Hp} {Γ:List Fct}
theorem pK_:∀ (x y:List UInt8),Op.bytesLess x y=decide (x<y)
  | [],[]=>by grind[Op.bytesLess]
  | _::_,[]=>by simp[Op.bytesLess]
  | [],_::_=>by simp[Op.bytesLess]
  | a::x,b::y=>by
    rw[Op.bytesLess,pK_ x y]
    grind[List.cons_lt_cons_iff]
theorem Dl_ (x y:List UInt8):(Op.bytesLess x y||x==y)=decide (x<=y):=by
  grind[pK_]
theorem gG_ {t h ty:TypeId} {x y:Operand} {m n:List UInt8} (k:Fr.ev fr x=some (str m)) (e:Fr.ev fr y=some (str n)):Yld P N fr H Γ (.binOp .lss t x y h) ty (.bool (decide (m<n))) :=
  λa v d _ _ _ _ _=>by rw[<-pK_];simp[execOp,d.ev k,d.ev e,str,eqGuard,binOp,Op.stringOp]
theorem ox_ {f:FuncId} {args:Array Value} {r:Value} {g:Nat} {cur:Array Value} {T:TypeId} {d:Array (List UInt8)} (J:fk_ P f)
    (h:∀ v:Vw,v.sat [(g,.cells cur T (0,0))]->Calls P f args v.w λe w'=>e=.returned r/\∃ n os,w'=Sort.grow (Sort.putRow Go.Proofs.encStr (Sort.ahead v.w n) g 0 d) os) :
    Tri P f args [(g,.cells cur T (0,0))] Γ (λ_:Unit=>r) (λ_=>[(g,.cells (Sort.putCells Go.Proofs.encStr 0 d cur) T (0,0))]) (λ_=>[]) :=
  ⟨J,λv E _=>(h v E).mono λe w' ⟨I,n,os,m⟩=>by
    have C:=(E.own _ yao_);have A:g<v.w.heap.size:=(yaA_.1 C.1).1
    have y:∀ b,b<v.w.heap.size->w'.heap[b]? = if b=g then some (.cells (Sort.putCells Go.Proofs.encStr 0 d cur) T (0,0)) else v.w.heap[b]? := λb y=>by
      rw[m];simp only[Sort.grow,Sort.putRow,Sort.mapBlock,Sort.ahead];rw[ybC_ (by simpa using y),ybo_]
      by_cases e:b=g
      . subst e
        simp only[ycq_,C.1,yaR_,Sort.onCells]
      . rw[yag_ (λq=>e q.symm),yag_ e]
    have x:v.w.heap.size<=w'.heap.size:=by rw[m];simp[Sort.grow,Sort.putRow,Sort.mapBlock,Sort.ahead]
    refine⟨(),⟨v.im,w',v.sl⟩,I,rfl,⟨λp F=>?_,by simp,λb k=>ybz_ (E.lt b k) x⟩,trivial,⟨by rw[m];rfl,by rw[m];rfl,by rw[m];rfl,x,λb k G=>?_,λ_ h=>h,λ_ h=>.inl h,λb hm=>.inl (by simpa using hm),rfl,.inr (by rw[m];exact ycA_ _ _)⟩⟩
    . simp only[yam_]at F
      subst F;exact⟨by show w'.heap[g]? = _;rw[y g A,yaq_ rfl],C.2⟩
    . have B:b≠g:=by simpa using G
      show w'.heap[b]? = _
      rw[y b k,yag_ B]⟩
theorem tg_ {cur:Array Value} {d:List (List UInt8)} (h:d.length<=cur.size):(Sort.putCells Go.Proofs.encStr 0 d.toArray cur).toList.take d.length=d.flatMap aa_:=by
 rw[oE_]
 apply yaS_
 intro j;rw[ybK_,yaM_]
 split
 .rename_i e
  simp only[Sort.putCells,ybU_,Array.getElem?_mapIdx];rw[Array.getElem?_eq_getElem zaa_];simp only[yaR_,ybm_,true_and,ybP_,yca_,e,ycq_,Nat.sub_zero];rw[yaa_ e];simp only[yaR_];rw[getElem!_pos d.toArray j zaa_];rfl
 grind
theorem th_ {cur:Array Value} {d:Array (List UInt8)}:(Sort.putCells Go.Proofs.encStr 0 d cur).size=cur.size:=by simp[Sort.putCells]
end
end Go.Sx
namespace Go.Vs
open Go Go.Sx
def pN_ (p:Pc):List Str:=[p.a,p.b,p.c].filter λs=>!(s==[])
def cT_ (l:List Pc):List Str:=l.flatMap pN_
def cE_ (l:List Pc):List Str:=Lib.compact ((cT_ l).mergeSort λx y=>decide (x<=y))
theorem kE_:∀ l:List Pc,(cT_ l).length<=3*l.length
  | []=>by grind[cT_]
  | p::r=>by
    have d:=kE_ r
    grind[pN_,cT_]
theorem kW_ (l:List Str):(l.mergeSort λx y=>decide (x<=y)).Pairwise λx y=>x<=y:=by
  grind[List.pairwise_mergeSort]
theorem jv_ {d:List Str}:Lib.compact d=((List.range d.length).filter λj=>decide (j=0\/d[j]! ≠ d[j - 1]!)).map λj=>d[j]! := by
  unfold Lib.compact Lib.compactUpTo Lib.keeps
  grind
theorem ju_ (d:List Str):(Lib.compact d).length<=d.length:=by
  grind[jv_]
theorem nn_ {d:List Str} (x:Str):x∈Lib.compact d↔x∈d:=by
 rw[jv_,yan_];constructor
 .grind
 intro k;obtain⟨j,m,e⟩:=List.mem_iff_getElem.1 k;clear k
 induction j with
 | zero=>exact⟨0,yaQ_.2 ⟨ycx_.2 m,by simp⟩,by grind⟩
 | succ j ih =>
   by_cases h:d[j+1]! = d[j]!
   all_goals grind
theorem vH_ {d:List Str} (F:d.Pairwise λx y=>x<=y):(Lib.compact d).Pairwise λx y=>x<y:=by
  rw[jv_,ybZ_];have C:(List.range d.length).Pairwise (·<·):=List.pairwise_lt_range;have v:=C.filter (λj=>decide (j=0\/d[j]! ≠ d[j - 1]!));refine List.Pairwise.imp_of_mem ?_ v;intro j k G hk A;have h:=ycx_.1 (yaQ_.1 hk).1;have m:=(yaQ_.1 hk).2;simp only[ybv_]at m
  have B:d[k]! ≠ d[k - 1]! := by
    grind
  have e:∀ a b,a<=b->b<d.length->d[a]!<=d[b]! := by
    grind[List.pairwise_iff_getElem]
  have I:=e j (k - 1) zaa_ zaa_;have E:=e (k - 1) k zaa_ h
  grind
theorem dP_ (l:List Pc) (x:Str):x∈cE_ l↔x∈cT_ l:=by
  grind[cE_,nn_,List.mem_mergeSort]
theorem yP_ (l:List Pc):(cE_ l).Pairwise λx y=>x<y:=vH_ (kW_ _)
theorem eM_ (l:List Pc):(cE_ l).length<=3*l.length:=by
  grind[ju_,List.length_mergeSort,kE_,cE_]
end Go.Vs
namespace Go.Proofs.YtbffkokbdeppaaaGreatDoor
open Go Go.Sx Go.Proofs Tryz
attribute [local irreducible] Code.wp wpList wpAnyH
open Go.Vs
theorem eltS:Elt prog 25 9 1 16:=fT_ iV_ (z:=.string ⟨#[]⟩) zad_ rfl zae_
theorem qV_ {g n cap:Nat} {cur:Array Value} {xs:List Str} {v:Vw} (k:v.sat [(g,.cells cur 9 (0,0))]) (e:cur.toList.take (xs.length*1)=xs.flatMap aa_):Sort.Holds encStr v.w g 0 xs.toArray:=by
 intro j d;have h:=(k.own _ yao_).1;simp only[yca_]at d;have m:cur[j]? = some (str xs[j]):=qp_ e j xs[j] (yaa_ d);refine⟨?_,?_⟩
 .simp only[World.cell?,ybP_,h,Option.isSome_none,ybV_,ycF_]
  rw[m,getElem!_pos xs.toArray j zaa_];rfl
 grind[World.frozen?]
theorem rw_ {sv:Value} {xs:List Str} {Hr:Hp} (h:at_ 9 1 sv xs.length (xs.flatMap aa_) Hr) (hl:xs.length<=1000000000000) :
    Tri prog 94 #[sv] Hr [] (λ_:{y:Hp // at_ 9 1 sv xs.length ((xs.mergeSort λx y=>decide (x<=y)).flatMap aa_) y}=>.tuple #[]) (λy=>y.1) (λ_=>[]):=by
  rcases h.2 with⟨rfl,K,rfl⟩|⟨g,cap,cur,rfl,rfl,G,J,F,L⟩
  . obtain rfl:xs=[]:=yaw_ K
    have T:=cG_ (P:=prog) (H:=[]) (Γ:=[]) (callable func94 rfl rfl) (λv _ _=>(Tryz.slices_Sort_string_none none 0 v.w).mono zam_);exact⟨T.callable,λv a b=>(T.run v a b).mono (by rintro e w' ⟨x,I,k,C,A,m,B⟩;exact⟨⟨[],by simpa using at_.nil _ _⟩,I,k,C,A,m,B⟩)⟩
  . have T:=ox_ (P:=prog) (Γ:=[]) (d:=(xs.mergeSort λx y=>decide (x<=y)).toArray) (callable func94 rfl rfl) (λv M=>Tryz.slices_Sort_string g 0 cap xs v.w (qV_ (n:=0) (cap:=0) M L) (yaA_.1 (M.own _ yao_).1).1 zaa_)
    have E:(xs.mergeSort λx y=>decide (x<=y)).length=xs.length:=yaX_ _;refine⟨T.callable,λv a b=>(T.run v a b).mono ?_⟩;rintro e w' ⟨x,I,k,C,A,m,B⟩;refine⟨⟨_,by rw[ch_ aa_ 1 an_,E],.inr ⟨g,cap,_,rfl,rfl,G,J,by rw[th_];exact F,?_⟩⟩,I,k,C,A,m,B⟩;have:=tg_ (cur:=cur) (d:=xs.mergeSort λx y=>decide (x<=y)) (by rw[E,F];omega);rw[E]at this;rw[Nat.mul_one];exact this
theorem pD_ {sv:Value} {xs:List Str} {Hr:Hp} (h:at_ 9 1 sv xs.length (xs.flatMap aa_) Hr) (hl:xs.length<=1000000000000) :
    Tri prog 95 #[sv] Hr [] (λy:{y:Value×Hp // at_ 9 1 y.1 (Lib.compact xs).length ((Lib.compact xs).flatMap aa_) y.2}=>y.1.1) (λy=>y.1.2) (λ_=>[]):=by
  rcases h.2 with⟨rfl,K,rfl⟩|⟨g,cap,cur,rfl,rfl,I,J,E,L⟩
  . obtain rfl:xs=[]:=yaw_ K
    have T:=cG_ (P:=prog) (H:=[]) (Γ:=[]) (callable func95 rfl rfl) (λv _ _=>(Tryz.slices_Compact_string_empty none 0 v.w).mono zam_);exact⟨T.callable,λv a b=>(T.run v a b).mono (by rintro e w' ⟨x,G,k,m,B,A,C⟩;exact⟨⟨(.slice none 0 0,[]),by simpa [Lib.compact,Lib.compactUpTo] using at_.nil _ _⟩,G,k,m,B,A,C⟩)⟩
  . have M:=ju_ xs
    have T:=ox_ (P:=prog) (Γ:=[]) (r:=.slice (some ⟨g,0,none⟩) (Lib.compact xs).length cap) (d:=(Lib.compact xs++List.replicate (xs.length - (Lib.compact xs).length) []).toArray) (callable func95 rfl rfl) (λv O=>(Tryz.slices_Compact_string g 0 cap xs v.w (qV_ (n:=0) (cap:=0) O L) zaa_ I).mono (by
      rintro e w' ⟨rfl,q,rfl⟩;exact⟨rfl,q,#[],by rw[Sort.grow_empty]⟩))
    refine⟨T.callable,λv a b=>(T.run v a b).mono ?_⟩;rintro e w' ⟨x,G,k,m,B,A,C⟩;refine⟨⟨(.slice (some ⟨g,0,none⟩) (Lib.compact xs).length cap,_),by rw[ch_ aa_ 1 an_],.inr ⟨g,cap,_,rfl,rfl,by omega,J,by rw[th_];exact E,?_⟩⟩,G,k,m,B,A,C⟩;have N:(Lib.compact xs++List.replicate (xs.length - (Lib.compact xs).length) ([]:Str)).length=xs.length:=by simp;omega
    have:=tg_ (cur:=cur) (d:=Lib.compact xs++List.replicate (xs.length - (Lib.compact xs).length) []) (by rw[N,E];omega);rw[N]at this;have F:=yae_ (List.take (Lib.compact xs).length) this;rw[ycM_,ybA_ M,ybu_,ycz_ (by rw[ch_ aa_ 1 an_];omega),yac_ (l:=(Lib.compact xs).flatMap aa_) (by rw[ch_ aa_ 1 an_];omega)]at F;rw[Nat.mul_one];exact F
theorem wY_ (l:List Pc) (ad:Ao) (cap:Nat) (hl:l.length<=100000000000):Tri prog 47 #[.slice ad l.length cap] [] [X_ ad (l.flatMap Pc.cells)] (λy:{y:Ao×Nat // (cE_ l).length<=y.2/\y.2<=maxLen}=>.slice y.1.1 (cE_ l).length y.1.2) (λ_=>[]) (λy=>[X_ y.1.1 ((cE_ l).flatMap aa_)]):=by
 refine j_ func47 rfl rfl ntmps47 rfl λZ=>?_;refine Zz 14 ?_;refine bF_ [(2,.slice none 0 0),(7,.slice ad l.length cap),(8,i4_ (List.length l:Int)),(9,i4_ ((0:Nat):Int))] zl ?_;refine bY_ (ι:={y:Nat×Value×Hp // y.1<=l.length/\at_ 9 1 y.2.1 (cT_ (l.take y.1)).length ((cT_ (l.take y.1)).flatMap aa_) y.2.2}) (λy=>[(2,y.1.2.1),(7,.slice ad l.length cap),(8,i4_ (List.length l:Int)),(9,i4_ y.1.1)]) (λy=>y.1.2.2) (λ_=>_) (λy=>l.length - y.1.1) ⟨(0,.slice none 0 0,[]),by simp,at_.nil _ _⟩ ?_;rintro ⟨⟨i,sv,Hr⟩,hi,v⟩;dsimp only at hi v;dsimp only;have I:=kE_ (l.take i);rw[yaI_]at I;refine bF_ [(2,sv),(7,.slice ad l.length cap),(8,i4_ (List.length l:Int)),(9,i4_ i)] zl ?_;refine Zi 2 (λT=>?_) λT=>?_
 .refine Zz 7 ?_
  have Y:l.take i=l:=yac_ zaa_;rw[Y]at v I;refine Zz 2 ?_;refine f_ (rw_ v zaa_) rfl Z_ zt rfl λ⟨Hs,hs⟩=>?_;dsimp only;refine u_ (List.Perm.symm Z_) ?_;have M:at_ 9 1 sv ((cT_ l).mergeSort λx y=>decide (x<=y)).length (((cT_ l).mergeSort λx y=>decide (x<=y)).flatMap aa_) Hs:=by rw[yaX_];exact hs
  refine Zz 5 ?_;refine f_ (pD_ M (by rw[yaX_];omega)) rfl Z_ zt rfl λ⟨⟨sc,Hc⟩,hc⟩=>?_;dsimp only;refine u_ (List.Perm.symm Z_) (Zz 4 ?_);refine dg_ hc Z_ λJ O V K Q=>?_;exact ac_ results47 ⟨(J,O),K,Q⟩ (ec_ rfl V) i_ zf
 have A:i<l.length:=by omega
 obtain⟨d,N⟩:∃ G,l[i]? = some G:=⟨_,yaa_ A⟩;refine Zz 12 ?_;refine C_ T_ rfl λb_1=>p_ 0 K_ rfl rfl rfl rfl rfl rfl (Zz 10 ?_)
 refine B_ n_ D_ V_ rfl rfl rfl rfl rfl rfl λC=>?_;refine U_ (List.flatMap aa_ [d.a,d.b,d.c]) e_ rfl ?_;refine Zz 5 ?_;refine bF_ [(2,sv),(7,.slice ad l.length cap),(8,i4_ (List.length l:Int)),(9,i4_ i),(19,.slice (some ⟨C,0,none⟩) (List.length [d.a,d.b,d.c]) 3),(20,i4_ 3),(21,i4_ ((0:Nat):Int))] zl ?_;refine bY_ (ι:={y:Nat×Value×Hp // y.1<=3/\at_ 9 1 y.2.1 (cT_ (l.take i)++(List.take y.1 [d.a,d.b,d.c]).filter λs=>!(s==[])).length ((cT_ (l.take i)++(List.take y.1 [d.a,d.b,d.c]).filter λs=>!(s==[])).flatMap aa_) y.2.2}) (λy=>[(2,y.1.2.1),(7,.slice ad l.length cap),(8,i4_ (List.length l:Int)),(9,i4_ i),(19,.slice (some ⟨C,0,none⟩) (List.length [d.a,d.b,d.c]) 3),(20,i4_ 3),(21,i4_ y.1.1)]) (λy=>_:: y.1.2.2) (λ_=>_) (λy=>3 - y.1.1) ⟨(0,sv,Hr),by simp,by simpa using v⟩ ?_;rintro ⟨⟨k,W,X⟩,hk,E⟩;dsimp only at hk E;dsimp only
 have a0:((cT_ (l.take i)++(List.take k [d.a,d.b,d.c]).filter λs=>!(s==[]))).length<=(cT_ (l.take i)).length+3:=by
   have:=List.length_filter_le (λs=>!(s==[])) (List.take k [d.a,d.b,d.c]);simp only[yaj_,yaI_,yak_,yay_]at this ⊢;omega
 refine bF_ [(2,W),(7,.slice ad l.length cap),(8,i4_ (List.length l:Int)),(9,i4_ i),(19,.slice (some ⟨C,0,none⟩) (List.length [d.a,d.b,d.c]) 3),(20,i4_ 3),(21,i4_ k)] zl ?_;refine Zi 2 (λU=>?_) λU=>?_
 .refine Zz 11 ?_
  have m:cT_ (l.take (i+1))=cT_ (l.take i)++pN_ d:=by unfold cT_;rw[yau_,N,ybu_];simp
  exact w_ ⟨(i+1,W,X),A,by dsimp only;rw[m];have:=E;rw[yac_ (show [d.a,d.b,d.c].length<=k by simp;omega)]at this;exact this⟩ zab_ zl (c_ Z_) (λ_ _ h=>h.2)
 have H:k<List.length [d.a,d.b,d.c]:=by simp;omega
 obtain⟨e,B⟩:∃ G,[d.a,d.b,d.c][k]? = some G:=⟨_,yaa_ H⟩;refine Zz 11 ?_;refine d_ (bw_ (ad:=(some ⟨C,0,none⟩)) W_ rfl zf (A_ an_ B 0 _ rfl)) rfl (Zi 6 (λP=>?_) λP=>?_)
 .refine Zz 10 ?_
  have m:(cT_ (l.take i)++(List.take (k+1) [d.a,d.b,d.c]).filter λs=>!(s==[]))=(cT_ (l.take i)++(List.take k [d.a,d.b,d.c]).filter λs=>!(s==[]))++[e].filter (λs=>!(s==[])):=by rw[yap_,<-List.filter_append,yau_,B];simp
  rw[show [e].filter (λs=>!(s==[]))=[] by simp[*],yas_]at m;exact w_ ⟨(k+1,W,X),by dsimp only;omega,by dsimp only;rw[m];exact E⟩ zab_ zl zp zh
 refine Zz 6 ?_;refine B_ n_ D_ V_ rfl rfl rfl rfl rfl rfl λb_3=>?_;refine aH_ (news:=[str e]) eltS E rfl rfl zp rfl (bz_ 0 rfl) (jK_ rfl) zal_ zaa_ rfl λL S F=>?_;refine u_ (@List.perm_append_comm _ _ [_,_]) (Zz 8 ?_);have m:(cT_ (l.take i)++(List.take (k+1) [d.a,d.b,d.c]).filter λs=>!(s==[]))=(cT_ (l.take i)++(List.take k [d.a,d.b,d.c]).filter λs=>!(s==[]))++[e].filter (λs=>!(s==[])):=by rw[yap_,<-List.filter_append,yau_,B];simp
 rw[show [e].filter (λs=>!(s==[]))=[e] by simp[*]]at m;exact w_ ⟨(k+1,L,S),by dsimp only;omega,by dsimp only;rw[m];rw[yaj_ (bs:=[e]),ybu_ (ys:=[e])];exact F⟩ zab_ zl (l_ (c_ e_) (c_ Z_)) zh
end Go.Proofs.YtbffkokbdeppaaaGreatDoor
namespace Go.Sx
open Go
section
variable {P:Program} {N:Nf} {v0:Vw} {H0:Hp} {R:Exit->Act->World->Prop} {K:List Kt} {fr:Fr} {H:Hp} {Γ:List Fct}
variable {ops:Array Oper} {l:List Oper} {d:Nat} {ty:TypeId} {ps:String} {af:Array Edge}
end
end Go.Sx
namespace Go.Vs
open Go Go.Sx
theorem uT_ {α:Type} {R:α->α->Prop} {l:List α} (h:l.Pairwise R) {i j:Nat} {x y:α} (m:l[i]? = some x) (k:l[j]? = some y) (e:i<j):R x y:=by
  grind[List.pairwise_iff_getElem]
def Cov (hs:List Bool) (L S:List Str):Prop:=hs.length=L.length/\∀ (n:Nat) (s:Str),L[n]? = some s->s∈S->hs[n]? = some true
def three (p:Pc):List Str:=[p.a,p.b,p.c]
theorem Cov.all {e:List Bool} {l:List Pc} (h:Cov e (cE_ l) (l.flatMap three)) {n:Nat} (k:n<(cE_ l).length):e[n]? = some true:=by
  have hm:=(dP_ l _).1 (ycQ_ k);refine h.2 n _ (yaa_ k) ?_;simp only[cT_,yaB_,pN_,yaQ_]at hm;obtain⟨p,v,m⟩:=hm;exact yaB_.2 ⟨p,v,m.1⟩
theorem tm_ (s:Str):((if bg_ s then (0:Int) else 20)==0)=bg_ s:=by grind
-- valid pieces,kind by kind
section
variable {a b c r s t:Str} {lo hi f:Int}
end
-- atoms
-- roles
-- sorted insertion
def kS (l:List Str) (s:Str):Nat:=(l.takeWhile λx=>decide (x<s)).length
theorem DD_ {s:Str}:∀ {l:List Str} {k:Nat},k<=l.length->(∀ x∈l.take k,x<s)->(∀ x,l[k]? = some x->¬ x<s)->kS l s=k
  | [],k,h1,_,_=>by simp at h1;simp[kS,h1]
  | y::r,0,_,_,h3=>by
    grind[kS,List.takeWhile_cons_of_neg]
  | y::r,k+1,h1,h2,h3=>by
    have h:y<s:=h2 y zai_;have e:=DD_ (l:=r) (k:=k) zak_ (λx d=>h2 x zaH_) (λx d=>h3 x zak_)
    grind[kS,List.takeWhile_cons_of_pos]
def eg_ (l:List Str) (s:Str):List Str:=if s=[]\/l[kS l s]? = some s then l else l.take (kS l s)++[s]++l.drop (kS l s)
theorem xk_ {l:List Str} {s x:Str}:x∈eg_ l s↔x∈l\/(x=s/\s≠[]):=by
  grind[eg_,List.take_append_drop]
theorem tw_all {s:Str}:∀ (l:List Str),∀ x∈l.take (kS l s),x<s:=by
  intro l x d
  have e:l.take (kS l s)=l.takeWhile λx=>decide (x<s):=by
    grind[kS,List.prefix_iff_eq_take,List.takeWhile_prefix]
  rw[e]at d
  induction l with
  | nil=>simp at d
  | cons y r ih =>
    by_cases h:y<s
    all_goals grind[List.takeWhile_cons_of_pos,kS,List.takeWhile_cons_of_neg]
theorem wa_ {s:Str}:∀ (l:List Str) (x:Str),l[kS l s]? = some x->¬ x<s
 | [],x,h=>by simp at h
 | y::r,x,h=>by
   unfold kS at h
   by_cases d:y<s
   . rw[ycm_ zak_,yak_,ybw_]at h
     exact wa_ r x h
   grind[List.takeWhile_cons_of_neg]
theorem on_ {l:List Str} {s:Str} (h:l.Pairwise λx y=>x<y):(eg_ l s).Pairwise λx y=>x<y:=by
 unfold eg_
 split
 .exact h
 rename_i k
 simp only[not_or]at k
 have m:∀ y∈l.drop (kS l s),s<y:=by
   intro y e;obtain⟨j,d,rfl⟩:=List.mem_iff_getElem.1 e;rw[List.getElem_drop];rw[ycR_]at d;have hk:kS l s<l.length:=by omega
   have A:=wa_ l _ (yaa_ hk)
   have v:s<l[kS l s]:=by
     grind
   grind[List.lt_trans,List.pairwise_iff_getElem]
 rw[List.pairwise_append,List.pairwise_append]
 grind[List.drop_sublist,tw_all]
def Bm_ (l:List Pc):List Str:=l.foldl (λL p=>eg_ (eg_ (eg_ L p.a) p.b) p.c) []
theorem pM_:∀ (l:List Pc) (L:List Str),L.Pairwise (λx y=>x<y)->(l.foldl (λL p=>eg_ (eg_ (eg_ L p.a) p.b) p.c) L).Pairwise (λx y=>x<y)/\(∀ x,x∈l.foldl (λL p=>eg_ (eg_ (eg_ L p.a) p.b) p.c) L↔x∈L\/x∈cT_ l)/\(l.foldl (λL p=>eg_ (eg_ (eg_ L p.a) p.b) p.c) L).length<=L.length+3*l.length
  | [],L,h=>⟨h,λx=>by grind[cT_],by simp⟩
  | p::r,L,h=>by
    obtain⟨e,d,k⟩:=pM_ r (eg_ (eg_ (eg_ L p.a) p.b) p.c) (on_ (on_ (on_ h)))
    grind[xk_,cT_,pN_,eg_]
theorem qq_:∀ {l m:List Str},l.Pairwise (λx y=>x<y)->m.Pairwise (λx y=>x<y)->(∀ x,x∈l↔x∈m)->l=m
  | [],[],_,_,_=>rfl
  | [],y::m,_,_,h=>by have:=(h y).2 zai_;grind
  | x::l,[],_,_,h=>by have:=(h x).1 zai_;grind
  | x::l,y::m,h1,h2,h=>by
    rw[ybk_]at h1 h2
    have e:x=y:=by
      have k:=(h x).1 zai_;have d:=(h y).2 zai_
      grind
    subst e
    congr 1
    refine qq_ h1.2 h2.2 λz=>?_
    grind
theorem Bl_ (l:List Pc):cE_ l=Bm_ l:=by
  obtain⟨d,e,_⟩:=pM_ l [] List.Pairwise.nil;refine qq_ (yP_ l) d λx=>?_;have:=e x;rw[dP_];simp only[yat_,false_or]at this;exact this.symm
end Go.Vs
namespace Go.Sx
open Go
section
variable {P:Program} {N:Nf} {v0:Vw} {H0:Hp} {fr:Fr} {H:Hp} {Γ:List Fct}
end
end Go.Sx
namespace Go.Vs
open Go Go.Sx
namespace Con
theorem szs_append:∀ (xs ys:List Con),sz.szs (xs++ys)=sz.szs xs+sz.szs ys
  | [],ys=>by simp[sz.szs]
  | x::xs,ys=>by simp only[yaD_,sz.szs,szs_append xs ys];omega
theorem szs_step {ps:List Con} {p:Con} {i:Nat} (d:ps[i]? = some p):sz.szs (ps.take (i+1))=sz.szs (ps.take i)+p.sz:=by
  rw[take_snoc d,szs_append];simp[sz.szs]
theorem szs_take_le (ps:List Con) (i:Nat):sz.szs (ps.take i)<=sz.szs ps:=by
  grind[szs_append,List.take_append_drop]
end Con
namespace Ax
theorem check_20 {x:Ax} (h:x.shaped=true) (d:x.namedU (us x.kind)=false):x.check=20:=by grind[check]
theorem check_left {x:Ax} (h:x.shaped=true) (e:x.namedU (us x.kind)=true) (hl:(us x.kind).left=true) (d:x.left.check≠0):x.check=x.left.check:=by
  grind[check]
theorem check_right {x:Ax} (h:x.shaped=true) (e:x.namedU (us x.kind)=true) (hl:(us x.kind).left=true->x.left.check=0) (k:(us x.kind).right=true) (d:x.right.check≠0):x.check=x.right.check:=by
  grind[check]
end Ax
end Go.Vs
namespace Go.Proofs.YtbffkokbdeppaaaGreatDoor
open Go Go.Sx Go.Proofs Tryz
attribute [local irreducible] Code.wp wpList wpAnyH
open Go.Vs
theorem AZ_:∀ (m:Nat) (c:Con),c.sz<=m->c.ok->∀ (d most:Int),0<=d/\d<=40->0<=most/\most<=1000->Tri prog 77 #[Con.val c,i4_ d,i4_ most] [] [Con.memF c] (λr:{r:Int // 1<=r/\r<=most+4398046511104/\(r<=most->(c.sz:Int)<=r)}=>i4_ r.1) (λ_=>[]) (λ_=>[]):=by
 intro m
 induction m with
 | zero=>intro c h;have:=c.sz_pos;omega
 | succ m ih =>
   intro c hm H d most W L;have V:=Con.ok_name H;have S:=Con.ok_len H;refine j_ func77 rfl rfl ntmps77 rfl λU=>?_;refine Zz 2 ?_;refine L_ rfl rfl λC=>Zi 7 (λF=>?_) λF=>?_
   . refine Zz 9 ?_;refine d_ (dp_ Q_ rfl) rfl (d_ (ai_ (Bx_ (n:=40) rfl rfl zae_ (bx_ (r:=((List.length c.name / 40:Nat):Int)) zaa_ zaa_)) (show _=i4_ ((List.length c.name / 40:Nat):Int) from rfl)) rfl (Zz 11 ?_));refine bF_ [(1,i4_ d),(2,i4_ most),(3,zp_ C 0),(7,i4_ (1+((List.length c.name / 40:Nat):Int))),(8,i4_ ((0:Nat):Int))] zl ?_;refine bY_ (ι:={x:Nat×Int // x.1<=c.parts.length/\1<=x.2/\x.2<=most+4398046511104/\(x.2<=most->((1+Con.sz.szs (c.parts.take x.1):Nat):Int)<=x.2)}) (λx=>[(1,i4_ d),(2,i4_ most),(3,zp_ C 0),(7,i4_ x.1.2),(8,i4_ x.1.1)]) (λ_=>_) (λ_=>_) (λx=>c.parts.length - x.1.1) ⟨(0,1+((List.length c.name / 40:Nat):Int)),by simp,by dsimp only;omega,by dsimp only;omega,by simp[Con.sz.szs];omega⟩ ?_;rintro ⟨⟨i,n⟩,hk⟩;dsimp only at hk;obtain⟨Q,P,O,E⟩:=hk;refine bF_ [(1,i4_ d),(2,i4_ most),(3,zp_ C 0),(7,i4_ n),(8,i4_ i)] zl ?_;refine Zz 7 ?_;refine F_ (cO_ rfl rfl) rfl λN e=>Zz 1 ?_
     refine aE_ 4 ((decide ((i:Int)<(List.length c.parts:Int)))&&(decide (n<=most))) (λr=>[(1,i4_ d),(2,i4_ most),(3,zp_ C 0),(7,i4_ n),(8,i4_ i),(27,.bool r)]) ?_ λM y=>?_
     . cases N
       . have B:=e;replace e:=zdf e;refine Zz 6 ?_;exact met ⟨rfl,rfl,rfl,rfl,rfl,(z_ rfl (jaf B)),trivial⟩
       . have B:=e;replace e:=zdt e;refine Zz 5 ?_;refine F_ (dN_ rfl rfl) rfl λT I=>Zz 3 ?_
         exact met ⟨rfl,rfl,rfl,rfl,rfl,(z_ rfl (jat B I)),trivial⟩
     . refine Zz 2 ?_;cases M
       . simp at y
         refine Zz 10 ?_;exact ac_ results77 ⟨n,by omega,by omega,λq=>by have hi:c.parts.length<=i:=(by simp at *;omega);have:=E q;rw[yac_ hi]at this;rw[Con.sz_eq];exact this⟩ rfl (@List.perm_append_comm _ [_] _) zt
       . simp at y
         obtain⟨G,J,A,k⟩:=zge (show i<c.parts.length by omega);refine Zz 10 ?_;refine d_ (P_ af_ t_ rfl rfl (λv _ h=>av_ (n:=5) Con.cells_len zae_ zaU_ A) zaa_ zag_) rfl ?_;refine d_ (ak_ (ad:=c.ad) (us:=Con.cells J) ae_ t_ rfl (λv _ h=>by exact ((Con.mem_iff c v).1 h.1).1) (Con.cells_len _) (A_ Con.cells_len A)) rfl (Zz 5 ?_);refine f_ (ih J (by have:=Con.sz_part k;omega) (Con.ok_part H k) (d - 1) (most - n) ⟨by omega,by omega⟩ ⟨by omega,by omega⟩) rfl i_ (λv _ h=>by exact⟨(Con.mem_part (c:=c) h.1 k),trivial⟩) rfl λ⟨r,F,e,y⟩=>?_;dsimp only;refine Zz 10 ?_;have K:=Con.szs_step A;exact w_ ⟨(i+1,n+r),G,by dsimp only;omega,by dsimp only;omega,λq=>by dsimp only at q ⊢;rw[K];have:=y zaa_;have:=E zaa_;omega⟩ zab_ zl (.refl _) zh
   . refine Zz 11 ?_;exact ac_ results77 ⟨(most+1),by omega,by omega,λq=>by omega⟩ rfl (@List.perm_append_comm _ [_] _) zt
theorem AN_ (c:Con) (h:c.ok):Tri prog 36 #[Con.val c] [] [Con.memF c] (λb:{b:Bool // b=true->c.sz<=150}=>.bool b.1) (λ_=>[]) (λ_=>[]):=by
  refine j_ func36 rfl rfl ntmps36 rfl λv=>?_;refine Zz 2 ?_;refine L_ rfl rfl λx=>Zz 6 ?_
  refine f_ (AZ_ _ c (yad_ _) h 40 150 ⟨by decide,by decide⟩ ⟨by decide,by decide⟩) rfl i_ zf rfl λ⟨r,d,m,e⟩=>?_;dsimp only;refine F_ (dN_ rfl rfl) rfl λk d=>Zz 4 ?_
  exact ac_ results36 ⟨k,λq=>by rw[q]at d;have:=yaY_ d;have:=e this;omega⟩ rfl (@List.perm_append_comm _ [_] _) zt
structure Ax.Few (x:Ax):Prop where
  left:x.left.sz<=150
  right:x.right.sz<=150
  roles:x.roles.length<=600
theorem iL_ {G:Prop} (h:G:=by
 exact ac_ results9 ⟨false,λh=>by cases h⟩ rfl (@List.perm_append_comm _ [_] _) zt):G:=h
theorem mH_ {G:Prop} (h:G:=by
 refine Zz 6 ?_;refine f_ (AN_ x.left d.left) rfl i_ (λv _ h=>by exact⟨h.1.1,trivial⟩) rfl λ⟨E,k⟩=>?_;dsimp only;refine Zz 2 ?_;cases E
 .refine Zz 8 ?_
  exact iL_
 refine Zz 5 ?_;refine f_ (AN_ x.right d.right) rfl i_ (λv _ h=>by exact⟨h.1.2.1,trivial⟩) rfl λ⟨A,e⟩=>?_;dsimp only;refine Zz 5 ?_;exact ac_ results9 ⟨A,λh=>⟨k rfl,e h,by omega⟩⟩ rfl (@List.perm_append_comm _ [_] _) zt):G:=h
theorem nl_ (x:Ax) (d:x.ok):Tri prog 9 #[Ax.val x] [] [Ax.memF x] (λb:{b:Bool // b=true->Ax.Few x}=>.bool b.1) (λ_=>[]) (λ_=>[]):=by
 refine j_ func9 rfl rfl ntmps9 rfl λK=>?_;have O:=d.role;have L:=d.a;have M:=d.b;have P:=d.cap;refine Zz 2 ?_;refine L_ rfl rfl λC=>Zz 7 ?_
 refine d_ (dp_ Q_ rfl) rfl (Zz 2 ?_);refine d_ (dp_ Q_ rfl) rfl (Zz 3 ?_);refine d_ (dp_ Q_ rfl) rfl (Zz 16 ?_);refine bF_ [(1,zp_ C 0),(3,i4_ ((((x.role.length:Int)+(x.a.length:Int))+(x.b.length:Int))+(10*(List.length x.roles:Int)))),(4,i4_ ((0:Nat):Int))] zl ?_;refine bY_ (ι:={y:Nat×Int // y.1<=x.roles.length/\y.1<=100/\(x.roles.length:Int)<=y.2/\y.2<=444444444444444444+y.1*140737488351232}) (λy=>[(1,zp_ C 0),(3,i4_ y.1.2),(4,i4_ y.1.1)]) (λ_=>_) (λ_=>_) (λy=>x.roles.length - y.1.1) ⟨(0,((((x.role.length:Int)+(x.a.length:Int))+(x.b.length:Int))+(10*(List.length x.roles:Int)))),by simp,by simp,by dsimp only;omega,by dsimp only;omega⟩ ?_;rintro ⟨⟨i,n⟩,hk⟩;dsimp only at hk;refine bF_ [(1,zp_ C 0),(3,i4_ n),(4,i4_ i)] zl ?_;refine Zi 7 (λI=>?_) λI=>?_
 .refine Zi 12 (λm=>?_) λm=>?_
  .refine Zz 14 ?_
   exact iL_
  exact mH_
 refine Zi 4 (λm=>?_) λm=>?_
 .refine Zi 9 (λH=>?_) λH=>?_
  .refine Zz 14 ?_
   exact iL_
  exact mH_
 obtain⟨F,G,J,B⟩:=zge (show i<x.roles.length by omega);have N:=d.roles G B;refine Zz 15 ?_;refine d_ (dp_ Q_ rfl) rfl (Zz 10 ?_);exact w_ ⟨(i+1,n+(List.length G:Int)),F,by dsimp only;omega,by dsimp only;omega,by dsimp only;omega⟩ zab_ zl (.refl _) zh
theorem sd_ (l:List Ax) (ad:Ao) (cap:Nat) (most:Int) (E:l.length<=cap/\cap<=2199023255488) (C:∀ x∈l,x.ok):Tri prog 35 #[.slice ad l.length cap,i4_ most] [] [bZ_ ad l] (λb:{b:Bool // b=true->(l.length:Int)<=most/\∀ x∈l,Ax.Few x}=>.bool b.1) (λ_=>[]) (λ_=>[]):=by
 refine j_ func35 rfl rfl ntmps35 rfl λF=>?_;refine Zi 11 (λA=>?_) λA=>?_
 .refine Zz 12 ?_
  refine bF_ [(0,.slice ad l.length cap),(5,i4_ ((0:Nat):Int))] zl ?_;refine bY_ (ι:={q:Nat // q<=l.length/\∀ x∈l.take q,Ax.Few x}) (λi=>[(0,.slice ad l.length cap),(5,i4_ i.1)]) (λ_=>_) (λ_=>_) (λi=>l.length - i.1) ⟨0,by simp⟩ ?_;rintro ⟨i,hk⟩;refine bF_ [(0,.slice ad l.length cap),(5,i4_ i)] zl ?_;refine Zi 6 (λB=>?_) λB=>?_
  .refine Zz 11 ?_
   exact ac_ results35 ⟨true,λ_=>⟨by omega,λx k=>hk.2 x (by rw[yac_ zaa_];exact k)⟩⟩ rfl (.refl _) zt
  obtain⟨m,e,y,d⟩:=zge (show i<l.length by omega);refine Zz 13 ?_;refine f_ (nl_ e (C e d)) rfl i_ (λv _ h=>by exact⟨(h.1.2 e d),trivial⟩) rfl λ⟨r,G⟩=>?_;dsimp only;refine d_ (aK_ rfl) rfl (Zz 2 ?_);cases r
  .refine Zz 7 ?_
   exact ac_ results35 ⟨false,λh=>by cases h⟩ rfl (.refl _) zt
  refine Zz 9 ?_;exact w_ ⟨i+1,m,λx k=>by rw[yau_,y]at k;simp only[ybL_,yai_,yam_]at k;rcases k with k|rfl;exact hk.2 x k;exact G rfl⟩ zar_ zl (.refl _) zh
 refine Zz 9 ?_;exact ac_ results35 ⟨false,λh=>by cases h⟩ rfl (.refl _) zt
theorem nM_:∀ (m:Nat) (c:Con),c.sz<=m->c.ok->c.sz<=1000->Tri prog 247 #[Con.val c] [] [Con.memF c] (λ_:Unit=>i4_ c.sz) (λ_=>[]) (λ_=>[]):=by
 intro m
 induction m with
 | zero=>intro c h;have:=c.sz_pos;omega
 | succ m ih =>
   intro c hm B J;have G:=Con.ok_len B;refine j_ func247 rfl rfl ntmps247 rfl λF=>?_;refine Zz 2 ?_;refine L_ rfl rfl λk=>Zz 15 ?_
   have E:=Con.sz_eq c;refine bF_ [(1,zp_ k 0),(3,i4_ 1),(4,i4_ ((0:Nat):Int))] zl ?_;refine bY_ (ι:={z:Nat // z<=c.parts.length}) (λz=>[(1,zp_ k 0),(3,i4_ ((1+Con.sz.szs (c.parts.take z.1):Nat):Int)),(4,i4_ z.1)]) (λ_=>_) (λ_=>_) (λz=>c.parts.length - z.1) ⟨0,by simp⟩ ?_;rintro ⟨i,hi⟩;dsimp only;refine bF_ [(1,zp_ k 0),(3,i4_ ((1+Con.sz.szs (c.parts.take i):Nat):Int)),(4,i4_ i)] zl ?_;refine Zi 7 (λC=>?_) λC=>?_
   . refine Zz 12 ?_;exact ac_ results247 () (bi_ rfl (by rw[E,yac_ zaa_])) i_ zt
   . obtain⟨y,A,e,d⟩:=zge (show i<c.parts.length by omega);have I:=Con.sz_part d;have x:=Con.szs_take_le c.parts (i+1);rw[Con.szs_step e]at x;refine Zz 12 ?_;refine d_ (P_ af_ t_ rfl rfl (λv _ h=>av_ (n:=5) Con.cells_len zae_ zaU_ e) zaa_ zag_) rfl ?_;refine d_ (ak_ (ad:=c.ad) (us:=Con.cells A) ae_ t_ rfl (λv _ h=>by exact ((Con.mem_iff c v).1 h.1).1) (Con.cells_len _) (A_ Con.cells_len e)) rfl (f_ (ih A zaa_ (Con.ok_part B d) zaa_) rfl i_ (λv _ h=>by exact⟨(Con.mem_part (c:=c) h.1 d),trivial⟩) rfl λ_=>Zz 10 ?_);have H:=Con.szs_step e;exact w_ ⟨i+1,y⟩ zab_ ⟨rfl,(bi_ rfl zab_),rfl,trivial⟩ (.refl _) zh
end Go.Proofs.YtbffkokbdeppaaaGreatDoor
namespace Go.Sx
open Go
section
variable {P:Program} {N:Nf} {v0:Vw} {H0:Hp} {R:Exit->Act->World->Prop} {K:List Kt} {fr:Fr} {H F:Hp} {Γ:List Fct} {ops:Array Oper} {l:List Oper} {ty:TypeId} {ps:String} {af:Array Edge} {e:TypeId} {sz n:Nat} {sv:Value} {xs:List Value} {Hr:Hp}
theorem zr_ {α:Type} (l:List α) (k m:Nat) (u:α) (hk:k<m) (hm:m<=l.length):(l.take k++[u]++l.drop (k+1)).take m=(l.take m).set k u:=by
 apply yaS_
 intro j;rw[ybK_,yck_,yaI_]
 by_cases d:j<m
 .rw[yaq_ d]
  by_cases v:j<k
  .grind
  by_cases h:j=k
  .grind
  grind
 grind
theorem eS_ {t:TypeId} {x y:Operand} {k:Nat} {u:Value} (d:at_ e sz sv n xs Hr) (A:H.Perm (Hr++F)) (G:∀ w,(sizeOf t).run P w=.ok 1 w) (I:Fr.ev fr x=some (.pointer (some ⟨svB sv,k,none⟩))) (v:Fr.ev fr y=some u) (hk:k<n*sz) (C:u.cells=#[u]) (B:u.oneCell'=true)
    (h:∀ Hr',at_ e sz sv n (xs.set k u) Hr'->Ops P R N v0 H0 ops l K fr (Hr'++F) Γ):Ops P R N v0 H0 ops (⟨none,.store t x y,ty,ps,af,none⟩::l) K fr H Γ:=by
  rcases d.2 with⟨_,M,_⟩|⟨g,cap,cur,rfl,rfl,m,J,Q,O⟩
  . grind
  . have L:n*sz<=cap*sz:=yaU_ _ m
    refine u_ A (p_ (b:=g) (off:=k) 0 G I v rfl zak_ ?_ zak_ ?_)
    . have E:k+1<=cur.size:=by grind
      simpa using E
    . rw[C]
      refine h [(g,.cells (cur.toList.take k++[u]++cur.toList.drop (k+1)).toArray e (0,0))] ⟨by grind,.inr ⟨g,cap,_,rfl,rfl,m,J,?_,?_⟩⟩
      all_goals grind[zr_]
theorem iq_ {α:Type} (f:α->List Value) (z:Nat) (d:∀ x,(f x).length=z):∀ (l:List α) (i j:Nat) (x y:α) (u:Value),l[i]? = some x->j<z->f y=(f x).set j u->(l.flatMap f).set (i*z+j) u=(l.set i y).flatMap f
  | [],i,_,_,_,_,h,_,_=>by simp at h
  | a::l,0,j,x,y,u,h,hj,he=>by
    grind
  | a::l,i+1,j,x,y,u,h,hj,he=>by
    simp only[ybw_]at h;rw[yaT_,ycL_,yaT_,<-iq_ f z d l i j x y u h hj he,List.set_append_right _ _ zak_,d]
    grind
theorem vV_ {t h:TypeId} {x:Operand} {k d:IntKind} {m r:Int} {u:TypeDesc} (C:P.underlying t=some u) (y:P.underlying h=some (.int d)) (E:Fr.ev fr x=some (.int k m)) (A:IntKind.wrap d m=r):Yld P N fr H Γ (.convert t h x) ty (.int d r) :=
  λa v B _ _ _ _ _=>by subst A;simp[execOp,B.ev E,convert,run_underlying C,run_underlying y,Conv.intToInt]
theorem wrapU {r:Int} (d:0<=r) (h:r<=18446744073709551615):IntKind.wrap .u64 r=r:=by
  grind[IntKind.wrap,IntKind.signed,IntKind.bits]
end
end Go.Sx
namespace Go.Sx
open Go
section
variable {P:Program} {N:Nf} {v0:Vw} {H0:Hp} {R:Exit->Act->World->Prop} {K:List Kt} {fr:Fr} {H F:Hp} {Γ:List Fct} {ops:Array Oper} {l:List Oper} {ty:TypeId} {ps:String} {af:Array Edge} {e:TypeId} {sz n:Nat} {sv:Value} {xs:List Value} {Hr:Hp}
theorem xo_ {α:Type} (l us:List α) (k m:Nat) (hk:k+us.length<=m) (hm:m<=l.length):(l.take k++us++l.drop (k+us.length)).take m=(l.take m).take k++us++(l.take m).drop (k+us.length):=by
  rw[ycM_,ybA_ zaa_,ycT_,yac_ zak_]
  grind[List.drop_take]
theorem va_ {t:TypeId} {x y:Operand} {k:Nat} {us:List Value} (d:at_ e sz sv n xs Hr) (C:H.Perm (Hr++F)) (I:∀ w,(sizeOf t).run P w=.ok sz w) (J:Fr.ev fr x=some (.pointer (some ⟨svB sv,k,none⟩))) (B:Fr.ev fr y=some (.agg us.toArray)) (hk:k+sz<=n*sz) (m:us.length=sz) (Q:0<sz) (E:us.all Value.oneCell'=true)
    (h:∀ Hr',at_ e sz sv n (xs.take k++us++xs.drop (k+sz)) Hr'->Ops P R N v0 H0 ops l K fr (Hr'++F) Γ):Ops P R N v0 H0 ops (⟨none,.store t x y,ty,ps,af,none⟩::l) K fr H Γ:=by
  rcases d.2 with⟨_,S,_⟩|⟨g,cap,cur,rfl,rfl,v,M,T,L⟩
  . grind
  . have O:n*sz<=cap*sz:=yaU_ _ v
    have A:=d.1;refine u_ C (p_ (b:=g) (off:=k) (n:=sz) 0 I J B rfl (by grind[Value.cells]) ?_ (by grind[Value.cells]) ?_)
    . have G:k+sz<=cur.size:=by grind
      simpa using G
    . refine h [(g,.cells (cur.toList.take k++us++cur.toList.drop (k+sz)).toArray e (0,0))] ⟨by grind,.inr ⟨g,cap,_,rfl,rfl,v,M,?_,?_⟩⟩
      . grind
      . show ((cur.toList.take k++us++cur.toList.drop (k+sz)).toArray).toList.take (n*sz)=_
        rw[ycJ_,<-L];have:=xo_ cur.toList us k (n*sz) zaa_ zak_;rw[m]at this;exact this
theorem wF_ {α:Type} (f:α->List Value) (z:Nat) (d:∀ x,(f x).length=z):∀ (l:List α) (i:Nat) (y:α),i<l.length->(l.flatMap f).take (i*z)++f y++(l.flatMap f).drop (i*z+z)=(l.set i y).flatMap f
  | [],i,y,h=>by simp at h
  | a::l,0,y,h=>by
    grind
  | a::l,i+1,y,h=>by
    have k:i<l.length:=by grind
    rw[yaT_,ycL_,yaT_,<-wF_ f z d l i y k,Nat.succ_mul,ycT_,yac_ zak_,List.drop_append,yaO_ zak_,d]
    grind
end
end Go.Sx
namespace Go.Sx
open Go
section
variable {P:Program} {N:Nf} {v0:Vw} {H0:Hp} {R:Exit->Act->World->Prop} {K:List Kt} {fr:Fr} {H F:Hp} {Γ:List Fct} {ops:Array Oper} {l:List Oper} {d:Nat} {ty:TypeId} {ps:String} {af:Array Edge} {e:TypeId} {sz n:Nat} {sv:Value} {xs:List Value} {Hr:Hp}
inductive ORow (e:TypeId) (sz:Nat):Value->Nat->List Value->Hp->Prop
  | row {sv:Value} {n:Nat} {xs:List Value} {Hr:Hp} (h:at_ e sz sv n xs Hr):ORow e sz sv n xs Hr
  | cut {g k n cap:Nat} {pre xs:List Value} {Hr:Hp} (hp:pre.length=k*sz) (h:at_ e sz (.slice (some ⟨g,0,none⟩) (k+n) (k+cap)) (k+n) (pre++xs) Hr):ORow e sz (.slice (some ⟨g,k*sz,none⟩) n cap) n xs Hr
  | out {g k:Nat} {Hr:Hp}:ORow e sz (.slice (some ⟨g,k*sz,none⟩) 0 0) 0 [] Hr
theorem ORow.len (h:ORow e sz sv n xs Hr):xs.length=n*sz:=by
  cases h with
  | row h=>exact h.1
  | cut hp h=>have:=h.1;grind
  | out=>simp
theorem ORow.form (h:ORow e sz sv n xs Hr):∃ ad cap,sv=.slice ad n cap/\n<=cap/\(ad=none->cap=0):=by
  cases h with
  | row h =>
    rcases h.2 with⟨rfl,rfl,_⟩|⟨g,cap,cur,rfl,_,m,_⟩
    all_goals grind
  | cut hp h =>
    rcases h.2 with⟨k,_⟩|⟨g,cap,cur,k,_,m,_⟩
    all_goals grind
  | out=>grind
theorem yZ_ {x:Operand} {t m:TypeId} (h:ORow e sz sv n xs Hr) (k:∀ w,(underlying t).run P w=.ok (.slice m) w) (v:Fr.ev fr x=some sv):Yld P N fr H Γ (.call ⟨.builtin .len,#[x],#[t]⟩) ty (.int .i64 (n:Int)):=by
  obtain⟨ad,cap,rfl,_⟩:=h.form;exact dS_ k v
def svO:Value->Nat
  | .slice (some a) _ _=>a.off
  | _=>0
theorem Bz_ {x y:Operand} {t C:TypeId} {k:IntKind} {i:Int} (m:ORow e sz sv n xs Hr) (A:∀ w,(underlying t).run P w=.ok (.slice C) w) (E:∀ w,(sizeOf C).run P w=.ok sz w) (G:Fr.ev fr x=some sv) (v:Fr.ev fr y=some (.int k i)) (B:0<=i) (hl:i<n) :
    Yld P N fr H Γ (.indexAddr t x y) ty (.pointer (some ⟨svB sv,svO sv+i.toNat*sz,none⟩)):=by
  cases m with
  | row h =>
    have:=bH_ (P:=P) (N:=N) (H:=H) (Γ:=Γ) (ty:=ty) h A E G v B hl;rcases h.2 with⟨_,I,_⟩|⟨g,cap,cur,rfl,_⟩
    all_goals grind[svO]
  | cut hp h=>exact ft_ (P:=P) (N:=N) (H:=H) (Γ:=Γ) (ty:=ty) A E G v B hl
  | out=>omega
theorem Ac_ {x y:Operand} {t G:TypeId} {kl:IntKind} {i:Nat} (v:ORow e sz sv n xs Hr) (L:∀ w,(underlying t).run P w=.ok (.slice G) w) (M:∀ w,(sizeOf G).run P w=.ok sz w) (O:Fr.ev fr x=some sv) (J:Fr.ev fr y=some (.int kl (i:Int))) (hi:i<=n) (Q:Nat.blt d N.n=true)
    (hk:∀ sv',ORow e sz sv' (n - i) (xs.drop (i*sz)) Hr->Ops P R N v0 H0 ops l K ((d,sv')::fr) H Γ):Ops P R N v0 H0 ops (⟨some d,.slice t x (some y) none none,ty,ps,af,none⟩::l) K fr H Γ:=by
  have I:=v.len;obtain⟨ad,cap,A,E,_⟩:=v.form;have C:Fr.ev fr x=some (.slice ad n cap):=by rw[O,A]
  refine d_ (cD_ (i:=i) (j:=n) (kl:=kl) (kh:=.i64) L M C J rfl hi E) Q ?_;refine hk _ ?_;cases v with
  | @row sv n xs Hr h =>
    rcases h.2 with⟨rfl,rfl,rfl⟩|⟨g,m,cur,rfl,_,S,_⟩
    . obtain rfl:i=0:=by omega
      simp only[Value.slice.injEq]at A;obtain⟨rfl,_,rfl⟩:=A;have:xs=[]:=yaw_ zak_;subst this;simp only[sad,List.drop_nil,ycZ_];exact .row h
    . simp only[Value.slice.injEq]at A
      obtain⟨rfl,_,rfl⟩:=A
      by_cases B:m=i
      . subst B
        have:n=m:=by omega
        subst this;simp only[sad,ycq_,ycZ_];rw[List.drop_eq_nil_of_le zaa_];have:=ORow.out (e:=e) (sz:=sz) (g:=g) (k:=0) (Hr:=Hr)
        grind
      . simp only[sad,B,ycF_,yaR_,ck_,ybP_]
        refine .cut (pre:=xs.take (i*sz)) (by grind[Nat.mul_le_mul_right]) ?_;rw[ybg_,show i+(n - i)=n by omega,show i+(m - i)=m by omega];exact h
  | @cut g k n cap0 pre xs Hr hp h =>
    simp only[Value.slice.injEq]at A;obtain⟨rfl,_,rfl⟩:=A
    by_cases B:cap0=i
    . subst B
      have:n=cap0:=by omega
      subst this;simp only[sad,ycq_,ycZ_];rw[List.drop_eq_nil_of_le zaa_];exact .out
    . simp only[sad,B,ycF_,yaR_,ck_]
      rw[<-ybE_];refine .cut (pre:=pre++xs.take (i*sz)) (by grind[Nat.mul_le_mul_right]) ?_
      grind[List.take_append_drop]
  | @out g k Hr =>
    obtain rfl:i=0:=by omega
    simp only[Value.slice.injEq]at A;obtain⟨rfl,_,rfl⟩:=A;simp only[sad,ycq_,ycZ_,List.drop_nil];exact .out
theorem Vw.to.more {v m:Vw} {H':Hp} (h:v.to F m H'):v.to (Hr++F) m H' where
  os:=h.os
  tape:=h.tape
  output:=h.output
  size:=h.size
  block:=λb k x=>h.block b k λhm=>x zak_
  imUp:=h.imUp
  imNew:=λb k=>by
    rw[yaz_];rcases h.imNew b k with q|q|q
    all_goals grind
  hNew:=λb k=>by
    rw[yaz_];rcases h.hNew b k with q|q
    all_goals grind
  sl:=h.sl
  dr:=h.dr
theorem Vw.sat.subB {v:Vw} (h:v.sat (Hr++F)):v.sat F :=
  ⟨λx k=>h.own x (yaF_ _ k),by have:=h.nodup;grind,h.lt⟩
theorem oO_ {v:Vw} {a:Addr} {news:List Value} (h:bW_ v (some a) news):∀ j u,news[j]? = some u->v.w.cell? (a.add j)=some u:=λj u x=>by
  rcases h with h|⟨b,off,k,T,fz,y,_,m,A⟩
  all_goals grind[ck_,World.cell?]
theorem oN_ (w:World) (t ty e:TypeId) (i:TypeInfo) (C:P.underlying t=some (.slice e)) (hi:P.info? e=some i)
    (g off h k:Nat) (cur:Array Value) (E:w.heap[g]? = some (.cells cur e (0,0)))
    (a:Addr) (m c:Nat) (news:List Value) (hl:news.length=m*i.size) (v:∀ j u,news[j]? = some u->w.cell? (a.add j)=some u) (G:∀ u∈news,u.oneCell'=true)
    (x:h+m<=k) (A:off+h*i.size+news.length<=cur.size) :
    (Builtin.append_ #[t,t] ty #[.slice (some ⟨g,off,none⟩) h k,.slice (some a) m c]).run P w =
      .ok (.slice (some ⟨g,off,none⟩) (h+m) k) (w.setRow g (cur.toList.take (off+h*i.size)++news++cur.toList.drop (off+h*i.size+news.length)).toArray):=by
  have B:=run_firstCells_some (P:=P) w i.size m a m c news hl v;have y:=run_storeCells_at P g (off+h*i.size) e news 0 cur w E zak_ G;simp only[ycX_]at y;simp[Builtin.append_,run_underlying C,sizeOf,typeInfo,hi,Builtin.lenOf,x,B,Addr.add_lit,y]
theorem tW_ {v:Vw} {t ty':TypeId} {by' m c cap:Nat} {b a:Addr} {news:List Value} (E:Elt P t e sz by') (hs:v.sat (Hr++F)) (B:xs.length=n*sz) (ag_:∀ j u,xs[j]? = some u->v.w.cell? (b.add j)=some u) (hl:news.length=m*sz) (h:∀ j u,news[j]? = some u->v.w.cell? (a.add j)=some u)
    (G:cap<n+m) (I:n+m<=maxLen) (J:(n+m)*by'<=140737488355328) :
    ∃ y w' k,(Builtin.append_ #[t,t] ty' #[.slice (some b) n cap,.slice (some a) m c]).run P v.w=.ok y w'/\at_ e sz y (n+m) (xs++news) k/\(⟨v.im,w',v.sl⟩:Vw).sat (k++F)/\v.to (Hr++F) ⟨v.im,w',v.sl⟩ (k++F):=by
  obtain⟨i,z,hi,M,es,U,V⟩:=E.info;subst es U;have C:n+m<=9223372036854775807:=by grind[maxLen]
  have W:=run_append_grow (P:=P) v.w t ty' e i z E.und hi M b n cap xs B ag_ a m c news hl h G zaa_ (growslice_fits G J);obtain⟨y,w',A,L,Y⟩:=run_append_arg_grows (P:=P) v.w t ty' e i z i.size i.bytes E.und hi M rfl rfl V E.pos b n cap xs B ag_ a m c news hl h G I J;have Q:w'.ownsRow 0 e i.size y (n+m) (xs++news):=⟨L.1,L.2.imp id λ⟨g,cap,cur,T,_,X⟩=>⟨g,cap,cur,T,ybm_ _,X⟩⟩
  have O:v.w.drawn<=w'.drawn:=by
    rw[W]at A;cases A;simp
  have x:∀ g,y.ownBlock=some g->(Value.slice none 0 0).ownBlock=some g\/v.w.heap.size<=g:=λg S=>by
    grind[Value.ownBlock]
  obtain⟨k,k1,k2,Z⟩:=jM_ (F:=F) (at_.nil e i.size) (by grind[Vw.sat.subB]) Q Y O x
  grind[Vw.to.more]
theorem tv_ {x y:Operand} {t:TypeId} {by' m c:Nat} {news:List Value} {ad:Ao} (O:Elt P t e sz by') (T:ORow e sz sv n xs Hr)
    (V:Fr.ev fr x=some sv) (W:Fr.ev fr y=some (.slice ad m c)) (hz:ad=none->c=0) (hmc:m<=c) (J:H.Perm (Hr++F)) (hl:news.length=m*sz) (E:∀ v,v.sat H->ag_ Γ v->bW_ v ad news) (h1c:∀ u∈news,u.oneCell'=true)
    (U:n+m<=maxLen) (hb:(n+m)*by'<=140737488355328) (Z:Nat.blt d N.n=true)
    (hk:∀ sv' B,ORow e sz sv' (n+m) (xs++news) B->Ops P R N v0 H0 ops l K ((d,sv')::fr) (B++F) Γ) :
    Ops P R N v0 H0 ops (⟨some d,.call ⟨.builtin .append,#[x,y],#[t,t]⟩,ty,ps,af,none⟩::l) K fr H Γ:=by
  have S:=T.len;cases T with
  | row h=>exact bK_ O h V W hz hmc J hl E h1c U hb Z λsv' B q=>hk sv' B (.row q)
  | @cut g k n cap pre xs Hr hp h =>
    cases ad with
    | none =>
      obtain rfl:=hz rfl;obtain rfl:m=0:=by omega
      obtain rfl:news=[]:=yaw_ zak_;obtain⟨_,A,ee,hnc,_⟩:=(ORow.cut (cap:=cap) hp h).form;simp only[Value.slice.injEq]at ee;obtain⟨_,_,rfl⟩:=ee;refine d_ (x:=.slice (some ⟨g,k*sz,none⟩) n cap) (λa v C _ _ _ _ _=>?_) Z (u_ J (hk _ Hr (by simpa using ORow.cut (cap:=cap) hp h)));obtain⟨i,z,hi,hz,es,eb,ez⟩:=O.info;simp[execOp,resolve,invoke,builtin,C.ev V,C.ev W,Builtin.append_,run_underlying O.und,sizeOf,typeInfo,hi,Builtin.lenOf,Builtin.firstCells,hnc,storeCells]
    | some a0 =>
      obtain⟨A,cur,X,e1,h4,h5,h6,h7⟩:∃ A cur,A=k+cap/\Hr=[(g,.cells cur e (0,0))]/\k+n<=A/\A<=maxLen/\cur.size=A*sz/\cur.toList.take ((k+n)*sz)=pre++xs:=by
        rcases h.2 with⟨C,_⟩|⟨g1,A,cur,C,M,h3⟩
        all_goals grind
      subst X;refine cQ_ rfl λa v C M h3 G=>?_;have g2:=M.perm J;have hn:=oO_ (E v M G);have hg:=(g2.own (g,.cells cur e (0,0)) zak_).1
      by_cases I:n+m<=cap
      . obtain⟨i,z,hi,hz',es,eb,ez⟩:=O.info
        subst es;have Y:=oN_ (P:=P) v.w t ty e i O.und hi g (k*i.size) n cap cur hg a0 m c news hl hn h1c I (by rw[hl,h6,<-ybE_,<-ybE_];grind[Nat.mul_le_mul_right]);rw[<-ybE_]at Y;have hL:(pre++xs++news).length=(k+n+m)*i.size:=by grind
        obtain⟨B,k1,k2,Q⟩:=jM_ (sv':=.slice (some ⟨g,0,none⟩) (k+n+m) (k+cap)) (n':=k+n+m) (ys:=pre++xs++news) h g2
          (w':=v.w.setRow g (cur.toList.take ((k+n)*i.size)++news++cur.toList.drop ((k+n)*i.size+news.length)).toArray)
          ⟨hL,.inr ⟨g,k+cap,_,rfl,ybm_ _,setRow_heap v.w g cur _ e _ hg,by omega,h5,by
              simp only[yca_,yaj_,yaI_,ycR_,ycc_];have:(k+n)*i.size+news.length<=cur.size:=by rw[hl,h6,<-ybE_];exact yaU_ _ zaa_
              omega,by grind⟩⟩
          ⟨rfl,rfl,rfl,by simp,λk _ hk=>setRow_other v.w g k _ (λe=>hk (by grind[Value.ownBlock]))⟩ zai_ (λ_ h=>.inl h)
        unfold Oper.wp execOp;simp only[resolve,invoke,builtin,Sem.run_bind,Sem.run_pure,Result.andThen_ok,ybc_,yar_,ybf_,C.ev V,C.ev W,Y];refine hk _ B (.cut (pre:=pre) (cap:=cap) hp zak_) _ ⟨v.im,_,v.sl⟩ (C.put Z) k2 (h3.trans (Q.permL J.symm)) (aT_ ((Q.permL J.symm).le M) G)
      . have ag_:∀ j u,xs[j]? = some u->v.w.cell? ((⟨g,k*sz,none⟩:Addr).add j)=some u:=λj u hj=>by
          rw[ck_];have hj':=(yaf_.1 hj).1
          have hc:cur[k*sz+j]? = some u:=by
            have q:(cur.toList.take ((k+n)*sz))[k*sz+j]? = some u:=by rw[h7,ybD_ zaa_,hp,Nat.add_sub_cancel_left];exact hj
            grind
          grind[World.cell?]
        obtain⟨v',w',B,Y,k1,k2,Q⟩:=tW_ (F:=F) (t:=t) (ty':=ty) (cap:=cap) (c:=c) O g2 S ag_ hl hn (Nat.lt_of_not_le I) U hb;unfold Oper.wp execOp;simp only[resolve,invoke,builtin,Sem.run_bind,Sem.run_pure,Result.andThen_ok,ybc_,yar_,ybf_,C.ev V,C.ev W,Y];exact hk v' B (.row k1) _ ⟨v.im,w',v.sl⟩ (C.put Z) k2 (h3.trans (Q.permL J.symm)) (aT_ ((Q.permL J.symm).le M) G)
  | @out g k Hr =>
    have L:m=0->news=[]:=λq=>yaw_ zak_
    by_cases hm:m=0
    . obtain rfl:=L hm
      subst hm;refine d_ (x:=.slice (some ⟨g,k*sz,none⟩) 0 0) (λa v C M h4 _ _ _=>?_) Z (u_ J (hk _ Hr ORow.out));obtain⟨i,z,hi,hz,es,eb,ez⟩:=O.info;cases ad with
      | none=>obtain rfl:=hz rfl;simp[execOp,resolve,invoke,builtin,C.ev V,C.ev W,Builtin.append_,run_underlying O.und,sizeOf,typeInfo,hi,Builtin.lenOf,Builtin.firstCells,storeCells]
      | some a0=>simp[execOp,resolve,invoke,builtin,C.ev V,C.ev W,Builtin.append_,run_underlying O.und,sizeOf,typeInfo,hi,Builtin.lenOf,Builtin.firstCells,loadCells,loadCellsFrom,storeCells]
    . cases ad with
      | none=>grind
      | some a0 =>
        refine cQ_ rfl λa v C M h3 G=>?_;have g2:=M.perm J;have hn:=oO_ (E v M G);obtain⟨v',w',B,Y,k1,k2,Q⟩:=tW_ (F:=F) (t:=t) (ty':=ty) (b:=⟨g,k*sz,none⟩) (cap:=0) O g2 S (λj u hj=>by simp at hj) hl hn (c:=c) zaa_ U hb;unfold Oper.wp execOp;simp only[resolve,invoke,builtin,Sem.run_bind,Sem.run_pure,Result.andThen_ok,ybc_,yar_,ybf_,C.ev V,C.ev W,Y];exact hk v' B (.row k1) _ ⟨v.im,w',v.sl⟩ (C.put Z) k2 (h3.trans (Q.permL J.symm)) (aT_ ((Q.permL J.symm).le M) G)
end
end Go.Sx
