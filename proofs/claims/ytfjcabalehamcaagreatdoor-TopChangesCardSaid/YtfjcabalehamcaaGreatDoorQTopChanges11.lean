/-
  Lemmas for the law TopChanges (no condition).
-/
import Derived.Recover
import Derived.Lib.AppendStr
import Derived.Laws.BytesString
import Derived.Test.YtfjcabalehamcaaGreatDoorQTopChanges10
import Derived.OrdersIn
set_option linter.unusedVariables false
set_option linter.unusedSimpArgs false
set_option linter.unusedSectionVars false
set_option maxHeartbeats 1000000
namespace Go.Sx
open Go
def pent (t:TypeId) (u:Value):List PanicEntry:=[{ v:=.iface t u,recovered:=false }]
def AV_ {ι:Type} (v0:Vw) (H0:Hp) (ret:ι->Value) (H':ι->Hp) (Γ':ι->List Fct) (B:Prop) (e:Ending) (w':World):Prop :=
  jb_ v0 H0 ret H' Γ' e w'\/(B/\∃ t u v',e=.panicked (pent t u)/\v'.w=w'/\v'.sat []/\v0.to H0 v' [])
structure TriX (P:Program) (f:FuncId) (args:Array Value) (H:Hp) (Γ:List Fct) {ι:Type} (ret:ι->Value) (H':ι->Hp) (Γ':ι->List Fct) (B:Prop):Prop where
  callable:gj_ P f
  run:∀ v,v.sat H->Z_ Γ v->Calls P f args v.w (AV_ v H ret H' Γ' B)
theorem TriX.mono {P:Program} {f:FuncId} {args:Array Value} {H:Hp} {Γ:List Fct} {ι:Type} {m:ι->Value} {H':ι->Hp} {Γ':ι->List Fct} {B x:Prop} (h:TriX P f args H Γ m H' Γ' B) (hB:B->x):TriX P f args H Γ m H' Γ' x :=
  ⟨h.callable,λv A y=>(h.run v A y).mono λe w' q=>q.imp id λq=>⟨hB q.1,q.2⟩⟩
section
variable {P:Program} {N:Nf} {v0:Vw} {H0:Hp} {R:Exit->Act->World->Prop} {K:List Kt} {fr:Fr} {H:Hp} {Γ:List Fct}
variable {ops:Array Oper} {l:List Oper} {d:Nat} {ty:TypeId} {ps:String} {af:Array Edge}
theorem vl_ {N:Nat} {D:List Deferred} {g:Operand} {A:Fn} {first cap:List Value} {xs:List Operand} {y:Array TypeId} {vs:List Value} {m:Option Tmp} (B:m=none) (F:Fr.ev fr g=some (.func A first.toArray cap.toArray)) (G:Fr.evs fr xs=some vs)
    (I:Ops P R ⟨N,{ target:=.fn A cap.toArray,args:=(first++vs).toArray }::D⟩ v0 H0 ops l K fr H Γ):Ops P R ⟨N,D⟩ v0 H0 ops (⟨m,.defer ⟨.value g,xs.toArray,y⟩,ty,ps,af,none⟩::l) K fr H Γ :=
  cN_ rfl λa v x C E M=>by
    subst B;have J:=x.evs G
    have L:(execOp a.eval ⟨none,.defer ⟨.value g,xs.toArray,y⟩,ty,ps,af,none⟩).run P v.w=.ok (.defer { target:=.fn A cap.toArray,args:=(first++vs).toArray }) v.w:=by
      simp only[execOp,resolve,Deferred.ofValue,x.ev F,ybp_,J,Sem.run_bind,Sem.run_pure,Result.andThen_ok,List.append_toArray]
    unfold Oper.wp;rw[L];exact I _ v ⟨x.size,by simp[Act.put,x.defers],x.val⟩ C E M
end
section body
variable {P:Program} {fr:Fr} {H:Hp} {Γ:List Fct}
instance {fn:Func} {ι:Type} {v0:Vw} {H0:Hp} {ret:ι->Value} {H':ι->Hp} {Γ':ι->List Fct} {B:Prop}:NoPan (bodyPost P fn (AV_ v0 H0 ret H' Γ' B)) :=
  ⟨λc a d x w h=>by
    refine⟨?_,h.2⟩;have:=h.1;cases d<;>exact this⟩
theorem pg_ {N:Nat} {f:FuncId} {fn:Func} {c:Code} {args:List Value} {ι:Type} {m:ι->Value} {H':ι->Hp} {Γ':ι->List Fct}
    (B : P.funcs[f]? = some fn) (C : fn.body = some c) (I : (fn.name == "runtime.NumGoroutine") = false) (L : fn.ntmps = N) (hl : Nat.ble args.length N = true)
    (h:∀ v0,Run P (bodyPostD P fn (jb_ v0 H m H' Γ')) N v0 H c [] (jz_ 0 args) H Γ):Tri P f args.toArray H Γ m H' Γ':=by
  refine⟨callable B C I,λv J E=>calls_of_wp_defers B C ?_⟩;have F:args.length<=N:=ybj_ hl;have:=h v ⟨args.toArray++Array.replicate (fn.ntmps - args.toArray.size) undef,[]⟩ v ⟨by simp[L];omega,rfl,λt x G=>?_⟩ J (Vw.to.refl _ _) E
  . exact this
  . obtain⟨_,A⟩:=hA_ args 0 t x G
    simp only[ydj_]at A;have y:=(yab_.1 A).1;rw[ybH_ (by simpa using y)];simpa using A
theorem retDf {N:Nat} {fn:Func} {ι:Type} {v0:Vw} {H0 F:Hp} {ret:ι->Value} {H':ι->Hp} {Γ':ι->List Fct} {B:Fn} {cap m:Array Value} {g:FuncId} {y:Array Value} (x:ι)
    (hi:∀ w,(invoke (.fn B cap) m).run P w=.ok (.enter g y) w) (Q:∀ w,CallsD P g y .returning w λe G w'=>e=.returned (.tuple #[])/\G=.returning/\w'=w)
    (M:∀ (a:Act) (v:Vw),Fr.sat ⟨N,[{ target:=.fn B cap,args:=m }]⟩ fr a->v.sat H->(results fn a.tmps).run P v.w=.ok (ret x) v.w) (C:H.Perm (H' x++F)) (I:∀ v,v.sat H->Z_ Γ v->Z_ (Γ' x) v) :
    Ok ⟨N,[{ target:=.fn B cap,args:=m }]⟩ v0 H0 (bodyPostD P fn (jb_ v0 H0 ret H' Γ') .ret) fr H Γ:=λa v E A J O=>by
  show Leaves P fn a.tmps _ a.defers .returning v.w
  rw[E.defers];refine leaves_cons zai_ (hi v.w) ?_;refine (Q v.w).mono ?_;rintro e G w' ⟨rfl,rfl,rfl⟩
  exact⟨ret x,M a v E A,x,v,rfl,rfl,(A.perm C).sub,I v A O,J.subR λb L=>by
    have:b∈(H' x++F).map Prod.fst:=by rw[yaw_];exact yal_ _ L
    exact (C.map Prod.fst).mem_iff.2 this⟩
end body
end Go.Sx
namespace Go.Vs
open Go Go.Sx
def Fc.sml (f:Fc):Prop:=f.a.length<=17592186044414/\f.b.length<=17592186044414/\f.r.length<=17592186044414
def wf1 (f:Fc):Prop:=aD_ f.a=true/\aD_ f.b=true/\f=Q_ f.a f.b
def rr_ (k:Int):Int:=if k=3 then 1 else 0
def ir_ (k:Int):Int:=if k=3 then 1 else 0
def zfc:Fc:=⟨0,[],[],[],0,0⟩
def zpc:Pc:=⟨0,[],[],[],[],[],[],0,0,0⟩
def dU_ (p:List Pc) (s:Str):Bool:=decide (s=[42])||(decide (s=[33])||p.any λx=>decide (s≠[])&&(decide (x.a=s)||(decide (x.b=s)||decide (x.c=s))))
def ta_ (kn:Str->Bool) (x:Pc) (f g h:Fc):Bool:=kn f.a&&decide (f=Q_ f.a f.a)
def sZ_ (kn:Str->Bool) (x:Pc) (f g h:Fc):Bool:=kn f.a&&decide (f=Q_ f.a [42])
def sY_ (kn:Str->Bool) (x:Pc) (f g h:Fc):Bool:=decide (g=Q_ f.a x.a)&&decide (f=Q_ f.a x.c)
def AQ_ (kn:Str->Bool) (k:Int) (x:Pc) (f g h:Fc):Bool:=if k=1 then ta_ kn x f g h else if k=2 then sZ_ kn x f g h else sY_ kn x f g h
def dT_ (facts:List Fc) (frm:List Int):List Fc:=frm.map λq=>facts.getD q.toNat zfc
def yz_ (fs:List Fc) (frm:List Int) (m:Int):Prop:=(frm.length:Int)=m/\∀ q∈frm,0<=q/\q<(fs.length:Int)/\wf1 (fs.getD q.toNat zfc)
def uv_ (p:List Pc) (q k:Int):Prop:=0<=q/\q<(p.length:Int)/\(p.getD q.toNat zpc).kind=k
def sB_ (p:List Pc) (k q:Int):Pc:=if ir_ k=0 then zpc else p.getD q.toNat zpc
structure Acc (p:List Pc) (fs:List Fc) (s:Stp):Prop where
  r:1<=s.rule/\s.rule<=3
  wf:wf1 s.fact
  pm:yz_ fs s.frm (rr_ s.rule)
  pc:if ir_ s.rule=0 then s.piece=-1 else uv_ p s.piece (ir_ s.rule)
  ins:AQ_ (dU_ p) s.rule (sB_ p s.rule s.piece) s.fact ((dT_ fs s.frm).getD 0 zfc) ((dT_ fs s.frm).getD 1 zfc)=true
theorem iR_ {α:Type} {l:List α} {i:Nat} {x d:α} (h:l[i]? = some x):l.getD i d=x:=by simp[List.getD,h]
theorem fcs_at {l:List Stp} {m:Nat} {f:Fc} (h:At l m f):(fcs l)[m]? = some f:=by
  obtain⟨s,d,v⟩:=h;simp[fcs,d,v]
theorem Cor.acc {p:List Pc} {A:List Str} {l:List Stp} {s:Stp} (h:Cor p A l s.rule s.fact s.piece s.frm) (v:∀ a∈A,aD_ a=true/\dU_ p a=true) (F:∀ x∈p,aD_ x.c=true) (hl:∀ f∈fcs l,wf1 f):Acc p (fcs l) s:=by
 obtain⟨rule,fact,piece,ad,cap,frm⟩:=s;dsimp only at h;have y:aD_ [42]=true:=by decide
 cases h with
 | r1 h =>
   refine⟨⟨by dsimp only;decide,by dsimp only;decide⟩,⟨(v _ h).1,(v _ h).1,rfl⟩,⟨rfl,by simp⟩,rfl,?_⟩;show ta_ (dU_ p) zpc _ zfc zfc=true
   unfold ta_;rw[yaS_];exact⟨(v _ h).2,yaE_ rfl⟩
 | r2 h =>
   refine⟨⟨by dsimp only;decide,by dsimp only;decide⟩,⟨(v _ h).1,y,rfl⟩,⟨rfl,by simp⟩,rfl,?_⟩;show sZ_ (dU_ p) zpc _ zfc zfc=true
   unfold sZ_;rw[yaS_];exact⟨(v _ h).2,yaE_ rfl⟩
 | @r3 a x i m hx hk h =>
   have E:=iR_ (d:=zfc) (fcs_at h);have B:=iR_ (d:=zpc) hx;have w:=hl _ h.mem;have hm:=h.lt;have hi:=(yab_.1 hx).1;refine⟨⟨by dsimp only;decide,by dsimp only;decide⟩,⟨w.1,F _ (yac_ hx),rfl⟩,⟨rfl,λq C=>?_⟩,⟨by dsimp only;omega,by dsimp only;omega,by dsimp only;rw[ybw_,B];exact hk⟩,?_⟩
   . rw[yak_]at C
     subst C;rw[ybw_,E,dn_];exact⟨by omega,by omega,w⟩
   . show sY_ (dU_ p) (p.getD (i:Int).toNat zpc) _ ((fcs l).getD (m:Int).toNat zfc) zfc=true
     rw[ybw_,ybw_,E,B];unfold sY_;rw[yaS_];exact⟨yaE_ rfl,yaE_ rfl⟩
def u8C (c:UInt8):List Value:=[.int .u8 (c.toNat:Int)]
theorem u8C_len (c:UInt8):(u8C c).length=1:=rfl
def bits (n:Int):Nat:=(n.emod 18446744073709551616).toNat
def zH_ (n:Int):Nat->List UInt8
  | 0=>[]
  | k+1=>UInt8.ofNat (bits n / 256 ^ k)::zH_ n k
theorem rl_ (n:Int):∀ k,(zH_ n k).length=k
  | 0=>rfl
  | k+1=>by simp[zH_,rl_ n k]
def AI_ (s:Str):List UInt8:=zH_ (s.length:Int) 2++s
structure Ds where
  rule:Int
  fact:Fc
  piece:Int
  frm:List Int
def Stp.ds (s:Stp):Ds:=⟨s.rule,s.fact,s.piece,s.frm⟩
end Go.Vs
namespace Go.Sx
open Go Go.Vs
structure Dst where
  ad:Ao
  cap:Nat
  r:Str
def Dst.ok (d:Dst):Prop:=d.r.length<=d.cap/\d.cap<=maxLen/\(d.ad=none->d.cap=0)
section
variable {P:Program} {N:Nf} {v0:Vw} {H0:Hp} {R:Exit->Act->World->Prop} {K:List Kt} {fr:Fr} {H:Hp} {Γ:List Fct}
variable {ops:Array Oper} {l:List Oper} {d:Nat} {ty:TypeId} {ps:String} {af:Array Edge}
end
end Go.Sx
namespace Go.Vs
open Go Go.Sx
instance (f:Fc):Decidable f.sml:=by unfold Fc.sml;infer_instance
def Stp.few (s:Stp):Prop:=s.frm.length<=300/\s.fact.a.length+s.fact.b.length+s.fact.r.length<=1500
theorem Stp.few.sml {s:Stp} (h:s.few):s.fact.sml:=by obtain⟨_,h⟩:=h;exact⟨by omega,by omega,by omega⟩
end Go.Vs
namespace Go.Proofs.YtfjcabalehamcaaGreatDoor
open Go Go.Sx Go.Proofs Tryz
attribute [local irreducible] Code.wp wpList wpAnyH
open Go.Vs
theorem hc_ (s:Str) (d:s.length<=140737488351232):Fn0 prog 239 #[str s] (.bool (aJ_ s)):=by
  refine g_ func239 rfl rfl ntmps239 rfl λv=>?_;refine Zz 8 ?_;refine f_ (gB_ s d) rfl i_ zt rfl λ_=>P_ (by_ rfl rfl) rfl λx m=>Zz 4 ?_
  exact ac_ results239 () (p_ rfl (by cases h:aJ_ s<;>simp_all)) (.refl _) zt
theorem lD_ {G:Prop} (h:G:=by
 refine aa_ (hc_ _ zav_) rfl i_ zt rfl λv y=>?_;exact fj_):G:=h
theorem lE_ {G:Prop} (h:G:=by
 refine aa_ (hc_ _ zav_) rfl i_ zt rfl λv d=>?_;exact fj_):G:=h
theorem lF_ {G:Prop} (h:G:=by
 refine aa_ (hc_ _ zav_) rfl i_ zt rfl λv m=>?_;exact fj_):G:=h
theorem fj_ {G:Prop} (h:G:=by
 refine Zz 4 ?_;exact fk_):G:=h
theorem fk_ {G:Prop} (h:G:=by
 exact ac_ results237 () (p_ rfl zaO_) (.refl _) zt):G:=h
theorem pb_ (s:Str) (B:s.length<=140737488351232):Fn0 prog 237 #[str s] (.bool (aD_ s)):=by
 refine g_ func237 rfl rfl ntmps237 rfl λN=>?_;refine Zz 8 ?_;refine e_ (cO_ R_ rfl) rfl (Zi 8 (λF=>?_) λF=>?_)
 .refine Zi 4 (λG=>?_) λG=>?_
  .refine Zi 8 (λE=>?_) λE=>?_
   .refine Zi 19 (λA=>?_) λA=>?_
    .refine Zz 21 ?_
     refine aa_ (hc_ _ zav_) rfl i_ zt rfl λv x=>?_;exact fj_
    exfalso;omega
   obtain⟨c,H⟩:∃ c,s[0]? = some c:=⟨_,yaa_ zaa_⟩;obtain⟨e,C⟩:∃ e,s[s.length - 1]? = some e:=⟨_,yaa_ zaa_⟩
   have K:(s[0]? = some 123)↔((c.toNat:Int)=123):=by
     rw[H];simp only[yam_];exact⟨λq=>by subst q;rfl,λq=>UInt8.toNat_inj.1 (by show c.toNat=123;omega)⟩
   have J:(s[s.length - 1]? = some 125)↔((e.toNat:Int)=125):=by
     rw[C];simp only[yam_];exact⟨λq=>by subst q;rfl,λq=>UInt8.toNat_inj.1 (by show e.toNat=125;omega)⟩
   have M:(s[0]? = some 60)↔((c.toNat:Int)=60):=by
     rw[H];simp only[yam_];exact⟨λq=>by subst q;rfl,λq=>UInt8.toNat_inj.1 (by show c.toNat=60;omega)⟩
   have L:(s[s.length - 1]? = some 62)↔((e.toNat:Int)=62):=by
     rw[C];simp only[yam_];exact⟨λq=>by subst q;rfl,λq=>UInt8.toNat_inj.1 (by show e.toNat=62;omega)⟩
   refine Zz 4 ?_;refine e_ (bV_ R_ rfl rfl zac_ H) rfl (aP_ rfl rfl ?_);refine Zi 0 (λA=>?_) λA=>?_
   .refine Zi 15 (λx=>?_) λx=>?_
    .refine Zz 21 ?_
     exact lF_
    refine Zz 4 ?_;refine e_ (bV_ R_ rfl rfl zac_ H) rfl (aP_ rfl rfl ?_);refine Zi 0 (λm=>?_) λm=>?_
    .refine Zz 17 ?_
     exact lE_
    refine Zz 9 ?_;refine e_ (bV_ R_ rfl rfl zaa_ (show s[((s.length:Int) - 1).toNat]? = some e by rw[show ((s.length:Int) - 1).toNat=s.length - 1 by omega];exact C)) rfl ?_;refine aP_ rfl rfl ?_;refine Zi 0 (λd=>?_) λd=>?_
    .refine Zz 10 ?_
     exact lD_
    refine Zz 11 ?_;exact fk_
   refine Zz 9 ?_;refine e_ (bV_ R_ rfl rfl zaa_ (show s[((s.length:Int) - 1).toNat]? = some e by rw[show ((s.length:Int) - 1).toNat=s.length - 1 by omega];exact C)) rfl ?_;refine aP_ rfl rfl ?_;refine Zi 0 (λx=>?_) λx=>?_
   .refine Zi 8 (λm=>?_) λm=>?_
    .refine Zz 21 ?_
     exact lE_
    refine Zz 4 ?_;refine e_ (bV_ R_ rfl rfl zac_ H) rfl (aP_ rfl rfl ?_);refine Zi 0 (λd=>?_) λd=>?_
    .refine Zz 17 ?_
     exact lD_
    refine Zz 9 ?_;refine e_ (bV_ R_ rfl rfl zaa_ (show s[((s.length:Int) - 1).toNat]? = some e by rw[show ((s.length:Int) - 1).toNat=s.length - 1 by omega];exact C)) rfl ?_;refine aP_ rfl rfl ?_;refine Zi 0 (λy=>?_) λy=>?_
    .refine Zz 10 ?_
     refine aa_ (hc_ _ zav_) rfl i_ zt rfl λv I=>?_;exact fj_
    refine Zz 11 ?_;exact fk_
   refine Zz 10 ?_;refine e_ (eM_ (i:=1) (j:=s.length - 1) (kl:=.i64) (kh:=.i64) R_ rfl rfl (show _=some (i4_ ((s.length - 1:Nat):Int)) by rw[show ((s.length - 1:Nat):Int)=(s.length:Int) - 1 by omega];rfl) zaa_ zaa_) rfl ?_;exact lF_
  refine Zz 11 ?_;exact fk_
 refine Zz 14 ?_;exact fk_
theorem ny_ (a b:Str):Fn0 prog 220 #[str a,str b] (Fc.val (Q_ a b)):=by
  refine g_ func220 rfl rfl ntmps220 rfl λA=>?_;refine Zz 2 ?_;refine u_ W_ rfl λy=>Zz 6 ?_
  refine e_ (w_ jo_ rfl rfl) rfl (n_ 0 N_ rfl rfl rfl rfl rfl rfl (Zz 3 ?_));exact dI_ () (λx v m d=>cu_ (us:=Fc.cells (Q_ a b)) 0 results220 cp_ N_ rfl rfl rfl x v m d) i_ zt
theorem ry_:KeyT prog 9 str:=rx_ av_
theorem og_ {P:Program} {N:Nf} {fr:Fr} {H:Hp} {Γ:List Fct} {m:Op} {ty:TypeId} {kn:Str->Bool} {q:List Str} {k:Str} (d:∀ s,kn s=true↔s∈q) {i:Decidable (k∈q)} (h:Yld P N fr H Γ m ty (.bool (@decide (k∈q) i))):Yld P N fr H Γ m ty (.bool (kn k)):=by
  have e:@decide (k∈q) i=kn k:=by rw[ybJ_,d];exact decide_eq_true_iff
  rwa [e]at h
def lY_:List Value:=[.int .i64 0,.int .i64 0,.nilFunc,.int .i64 0,.int .i64 0,.func (.func 219) #[] #[],.int .i64 0,.int .i64 0,.func (.func 221) #[] #[],.int .i64 1,.int .i64 1,.func (.func 222) #[] #[],.int .i64 2,.int .i64 2,.func (.func 223) #[] #[],.int .i64 1,.int .i64 3,.func (.func 224) #[] #[],.int .i64 1,.int .i64 5,.func (.func 226) #[] #[],.int .i64 2,.int .i64 6,.func (.func 227) #[] #[],.int .i64 2,.int .i64 4,.func (.func 228) #[] #[],.int .i64 2,.int .i64 0,.func (.func 229) #[] #[],.int .i64 0,.int .i64 7,.func (.func 230) #[] #[],.int .i64 1,.int .i64 8,.func (.func 231) #[] #[],.int .i64 2,.int .i64 0,.func (.func 232) #[] #[],.int .i64 2,.int .i64 0,.func (.func 233) #[] #[],.int .i64 1,.int .i64 9,.func (.func 234) #[] #[],.int .i64 1,.int .i64 0,.func (.func 235) #[] #[],.int .i64 1,.int .i64 0,.func (.func 236) #[] #[]]
def gC_ (pv:Value) (ab:Nat) (fv:Value):List Value:=pv::.map (some ab)::fv::lY_
theorem tK_:fH_ prog 260 [(0,1),(1,6),(7,1),(8,10)] [.pointer none,i4_ 0,str [],str [],str [],i4_ 0,i4_ 0,.slice none 0 0,i4_ 0,str [],str [],str [],str [],str [],str [],i4_ 0,i4_ 0,i4_ 0]:=⟨_,zeroValue260,runUnderlying260,λw=>by simp[A_,pn_,N_,sizeOf170]⟩
set_option maxHeartbeats 1000000 in
theorem zQ_ (kn:Str->Bool) (q:List Str) (y:∀ s,kn s=true↔s∈q) (es:Array MapEntry) (ec:Nat) (hE:SetE str es q) (vb ab:Nat) (C G:Value) (x:Pc) (f:Fc) (lad:Ao) (lcap:Nat):Tri prog 219 #[.agg #[zp_ vb 0,i4_ f.kind,str f.a,str f.b,str f.r,i4_ f.lo,i4_ f.hi,.slice lad (List.length ([]:List Fc)) lcap,i4_ x.kind,str x.a,str x.b,str x.c,str x.r,str x.s,str x.t,i4_ x.lo,i4_ x.hi,i4_ x.frm]] [] [cf_ vb (.cells (gC_ C ab G).toArray 181 (0,0)),cf_ ab (.map es ec),L_ lad (List.flatMap Fc.cells ([]:List Fc))] (λ_:Unit=>.bool (ta_ kn x f zfc zfc)) (λ_=>[]) (λ_=>[]):=by
 refine g_ func219 rfl rfl ntmps219 rfl λB=>?_;refine Zz 2 ?_;refine F_ rfl rfl λF=>Zz 5 ?_
 refine s_ 12 [0,1,2,3,4,5,6,7,8,9] zk zs (Zz 8 ?_);refine ef_ rfl (og_ y (df_ (k:=f.a) ry_ jc_ bO_ rfl rfl hE (λv _ h=>(by exact h.2.1:(cf_ ab (.map es ec)).p v).2))) rfl λA d=>Zz 2 ?_
 cases A
 .refine s_ 0 [10,11,12,13,14,15,16,17,18,19,20,21] zk zs (Zz 16 ?_)
  exact ac_ results219 () (p_ rfl (by simp[ta_,d])) i_ zt
 refine s_ 4 [10,11,12,13,14,15,16,17] zk zs (Zz 9 ?_);refine l_ 18 rfl zk (aP_ rfl rfl (f_ (ny_ f.a f.a) rfl i_ zt rfl λ_=>Zz 3 ?_));refine s_ 0 [19,20,21] zk zs (dq_ rfl rfl rfl (cL_ (p:=f) (q:=(Q_ f.a f.a)) rfl rfl) rfl λE m=>Zz 6 ?_);exact ac_ results219 () (p_ rfl (by rw[<-m];simp[ta_,d])) i_ zt
set_option maxHeartbeats 1000000 in
theorem zP_ (kn:Str->Bool) (q:List Str) (y:∀ s,kn s=true↔s∈q) (es:Array MapEntry) (ec:Nat) (hE:SetE str es q) (vb ab:Nat) (C G:Value) (x:Pc) (f:Fc) (lad:Ao) (lcap:Nat):Tri prog 221 #[.agg #[zp_ vb 0,i4_ f.kind,str f.a,str f.b,str f.r,i4_ f.lo,i4_ f.hi,.slice lad (List.length ([]:List Fc)) lcap,i4_ x.kind,str x.a,str x.b,str x.c,str x.r,str x.s,str x.t,i4_ x.lo,i4_ x.hi,i4_ x.frm]] [] [cf_ vb (.cells (gC_ C ab G).toArray 181 (0,0)),cf_ ab (.map es ec),L_ lad (List.flatMap Fc.cells ([]:List Fc))] (λ_:Unit=>.bool (sZ_ kn x f zfc zfc)) (λ_=>[]) (λ_=>[]):=by
 refine g_ func221 rfl rfl ntmps221 rfl λB=>?_;refine Zz 2 ?_;refine F_ rfl rfl λF=>Zz 5 ?_
 refine s_ 9 [0,1,2,3,4,5,6,7,8,9] zk zs (Zz 8 ?_);refine ef_ rfl (og_ y (df_ (k:=f.a) ry_ jc_ bO_ rfl rfl hE (λv _ h=>(by exact h.2.1:(cf_ ab (.map es ec)).p v).2))) rfl λA d=>Zz 2 ?_
 cases A
 .refine s_ 0 [10,11,12,13,14,15,16,17,18] zk zs (Zz 13 ?_)
  exact ac_ results221 () (p_ rfl (by simp[sZ_,d])) i_ zt
 refine s_ 4 [10,11,12,13,14] zk zs (Zz 6 ?_);refine l_ 15 rfl zk (aP_ rfl rfl (f_ (ny_ f.a [42]) rfl i_ zt rfl λ_=>Zz 3 ?_));refine s_ 0 [16,17,18] zk zs (dq_ rfl rfl rfl (cL_ (p:=f) (q:=(Q_ f.a [42])) rfl rfl) rfl λE m=>Zz 6 ?_);exact ac_ results221 () (p_ rfl (by rw[<-m];simp[sZ_,d])) i_ zt
set_option maxHeartbeats 1000000 in
theorem zO_ (kn:Str->Bool) (q:List Str) (C:∀ s,kn s=true↔s∈q) (es:Array MapEntry) (ec:Nat) (hE:SetE str es q) (vb ab:Nat) (F I:Value) (x:Pc) (f m:Fc) (lad:Ao) (lcap:Nat):Tri prog 222 #[.agg #[zp_ vb 0,i4_ f.kind,str f.a,str f.b,str f.r,i4_ f.lo,i4_ f.hi,.slice lad (List.length [m]) lcap,i4_ x.kind,str x.a,str x.b,str x.c,str x.r,str x.s,str x.t,i4_ x.lo,i4_ x.hi,i4_ x.frm]] [] [cf_ vb (.cells (gC_ F ab I).toArray 181 (0,0)),cf_ ab (.map es ec),L_ lad (List.flatMap Fc.cells [m])] (λ_:Unit=>.bool (sY_ kn x f m zfc)) (λ_=>[]) (λ_=>[]):=by
 refine g_ func222 rfl rfl ntmps222 rfl λE=>?_;refine Zz 2 ?_;refine F_ rfl rfl λH=>Zz 5 ?_
 refine s_ 15 [0,1,2,3,4,5,6,7,8,9] zk zs (Zz 2 ?_);refine S_ rfl (Y_ ai_ N_ rfl rfl (λv _ h=>az_ (n:=6) Fc.cells_len zac_ (by exact h.2.2.1) (show [m][0]? = some _ from rfl)) zaa_ zak_) rfl ?_;refine S_ rfl (ah_ (ad:=lad) (us:=Fc.cells m) cp_ N_ rfl zf (Fc.cells_len _) (y_ Fc.cells_len (show [m][0]? = some _ from rfl))) rfl (Zz 7 ?_);refine l_ 10 rfl zk (f_ (ny_ f.a x.a) rfl i_ zt rfl λ_=>Zz 3 ?_);refine s_ 12 [11,12] zk zs (ef_ rfl (cL_ (p:=m) (q:=(Q_ f.a x.a)) rfl rfl) rfl λB d=>Zz 2 ?_);cases B
 .replace d:=zdf d
  refine s_ 0 [13,14,15,16,17,18,19,20,21,22,23,24] zk zs (Zz 16 ?_);exact ac_ results222 () (p_ rfl (by have y:=yci_ d;simp[sY_,y])) i_ zt
 replace d:=zdt d;refine s_ 4 [13,14,15,16,17,18,19,20] zk zs (Zz 9 ?_);refine l_ 21 rfl zk (aP_ rfl rfl (f_ (ny_ f.a x.c) rfl i_ zt rfl λ_=>Zz 3 ?_));refine s_ 0 [22,23,24] zk zs (dq_ rfl rfl rfl (cL_ (p:=f) (q:=(Q_ f.a x.c)) rfl rfl) rfl λG A=>Zz 6 ?_);exact ac_ results222 () (p_ rfl (by have y:=yce_ d;rw[<-A];simp[sY_,y])) i_ zt
theorem yI_ {P:Program} {N:Nf} {fr:Fr} {H:Hp} {Γ:List Fct} {ty t e:TypeId} {len sz:Nat} {parts:List (Nat×Operand)} {vs:List (Nat×Value)} {z cs:List Value} (B:∀ w,(zeroValue t).run P w=.ok (.agg z.toArray) w) (v:∀ w,(underlying t).run P w=.ok (.array len e) w) (x:∀ w,(sizeOf e).run P w=.ok sz w) (y:Fr.evp fr parts=some vs)
    (m:ko_ (λi=>some (i*sz,sz)) z vs=some cs):Yld P N fr H Γ (.build t parts.toArray) ty (.agg cs.toArray) :=
  kE_ (λa A w=>by
    have:=A.evp y;rw[ybp_,this];have d:=ha_ _ _ _ _ m;simp only[Instr.build,Sem.run_bind,B,Result.andThen_ok,v,x,Value.cells,d,Sem.run_pure])
def addI {α:Type} [DecidableEq α] (y:α) (l:List α):List α:=if y∈l then l else l++[y]
theorem addI_mem {α:Type} [DecidableEq α] {y z:α} {l:List α}:z∈addI y l↔z∈l\/z=y:=by
 unfold addI
 by_cases h:y∈l
 .rw[yaq_ h];exact⟨.inl,λq=>q.elim id λe=>e▸h⟩
 rw[yaf_ h,yag_,yak_]
theorem sO_ {p:List Pc} {s:Str}:dU_ p s=true↔s=[42]\/s=[33]\/s∈cn_ p:=by
 rw[gg_];simp only[dU_,ybK_,ybo_,ycl_,yaS_];refine or_congr Iff.rfl (or_congr Iff.rfl ?_);simp only[cm_,kX_,yar_,ybh_];constructor
 .rintro ⟨x,d,m,h⟩
  refine⟨x,d,?_,by simpa using m⟩;rcases h with h|h|h<;>simp[<-h]
 rintro ⟨x,d,hm,m⟩;simp only[yan_,yaJ_,ybG_]at hm;exact⟨x,d,by simpa using m,by rcases hm with rfl|rfl|rfl<;>simp⟩
structure VrfH where
  vb:Nat
  ab:Nat
  es:Array MapEntry
  ec:Nat
  q:List Str
structure VrfOk (p:List Pc) (y:VrfH):Prop where
  e:SetE str y.es y.q
  k:∀ s,dU_ p s=true↔s∈y.q
theorem cX_:fH_ prog 178 [(0,1),(1,1),(2,1)] [i4_ 0,i4_ 0,.nilFunc]:=⟨_,zeroValue178,runUnderlying178,λw=>by simp[K_,sizeOf176]⟩
theorem yY_:fH_ prog 181 [(0,1),(1,1),(2,1),(3,51)] [.slice none 0 0,.map none,.slice none 0 0,i4_ 0,i4_ 0,.nilFunc,i4_ 0,i4_ 0,.nilFunc,i4_ 0,i4_ 0,.nilFunc,i4_ 0,i4_ 0,.nilFunc,i4_ 0,i4_ 0,.nilFunc,i4_ 0,i4_ 0,.nilFunc,i4_ 0,i4_ 0,.nilFunc,i4_ 0,i4_ 0,.nilFunc,i4_ 0,i4_ 0,.nilFunc,i4_ 0,i4_ 0,.nilFunc,i4_ 0,i4_ 0,.nilFunc,i4_ 0,i4_ 0,.nilFunc,i4_ 0,i4_ 0,.nilFunc,i4_ 0,i4_ 0,.nilFunc,i4_ 0,i4_ 0,.nilFunc,i4_ 0,i4_ 0,.nilFunc,i4_ 0,i4_ 0,.nilFunc]:=⟨_,zeroValue181,runUnderlying181,λw=>by simp[cj_,pn_,sizeOf175,sizeOf179]⟩
theorem xy_:Fn0 prog 168 #[] (.agg lY_.toArray):=by
  refine g_ func168 rfl rfl ntmps168 rfl λx=>?_;refine Zz 2 ?_;refine u_ zeroValue179 rfl λy=>Zz 4 ?_
  refine e_ (w_ cX_ rfl rfl) rfl (e_ (w_ cX_ rfl rfl) rfl (e_ (w_ cX_ rfl rfl) rfl (e_ (w_ cX_ rfl rfl) rfl (e_ (w_ cX_ rfl rfl) rfl (e_ (w_ cX_ rfl rfl) rfl (e_ (w_ cX_ rfl rfl) rfl (e_ (w_ cX_ rfl rfl) rfl (e_ (w_ cX_ rfl rfl) rfl (e_ (w_ cX_ rfl rfl) rfl ?_)))))))));refine e_ (w_ cX_ rfl rfl) rfl (e_ (w_ cX_ rfl rfl) rfl (e_ (w_ cX_ rfl rfl) rfl (e_ (w_ cX_ rfl rfl) rfl (e_ (w_ cX_ rfl rfl) rfl (e_ (w_ cX_ rfl rfl) rfl (e_ (aj_ (yI_ (sz:=3) (cs:=lY_) (z:=[i4_ 0,i4_ 0,.nilFunc,i4_ 0,i4_ 0,.nilFunc,i4_ 0,i4_ 0,.nilFunc,i4_ 0,i4_ 0,.nilFunc,i4_ 0,i4_ 0,.nilFunc,i4_ 0,i4_ 0,.nilFunc,i4_ 0,i4_ 0,.nilFunc,i4_ 0,i4_ 0,.nilFunc,i4_ 0,i4_ 0,.nilFunc,i4_ 0,i4_ 0,.nilFunc,i4_ 0,i4_ 0,.nilFunc,i4_ 0,i4_ 0,.nilFunc,i4_ 0,i4_ 0,.nilFunc,i4_ 0,i4_ 0,.nilFunc,i4_ 0,i4_ 0,.nilFunc,i4_ 0,i4_ 0,.nilFunc,i4_ 0,i4_ 0,.nilFunc]) zeroValue179 runUnderlying179 sizeOf178 rfl zk) (show _=Value.agg #[i4_ 0,i4_ 0,.nilFunc,i4_ 0,i4_ 0,.func (.func 219) #[] #[],i4_ 0,i4_ 0,.func (.func 221) #[] #[],i4_ 1,i4_ 1,.func (.func 222) #[] #[],i4_ 2,i4_ 2,.func (.func 223) #[] #[],i4_ 1,i4_ 3,.func (.func 224) #[] #[],i4_ 1,i4_ 5,.func (.func 226) #[] #[],i4_ 2,i4_ 6,.func (.func 227) #[] #[],i4_ 2,i4_ 4,.func (.func 228) #[] #[],i4_ 2,i4_ 0,.func (.func 229) #[] #[],i4_ 0,i4_ 7,.func (.func 230) #[] #[],i4_ 1,i4_ 8,.func (.func 231) #[] #[],i4_ 2,i4_ 0,.func (.func 232) #[] #[],i4_ 2,i4_ 0,.func (.func 233) #[] #[],i4_ 1,i4_ 9,.func (.func 234) #[] #[],i4_ 1,i4_ 0,.func (.func 235) #[] #[],i4_ 1,i4_ 0,.func (.func 236) #[] #[]] from rfl)) rfl ?_))))));refine n_ 0 sizeOf179 rfl rfl rfl rfl rfl rfl (Zz 3 ?_);exact dI_ () (λA v d m=>cu_ (us:=lY_) 0 results168 isAgg179 sizeOf179 rfl rfl rfl A v d m) i_ zt
theorem xk_ (p:List Pc) (pad:Ao) (pcap:Nat) (U:p.length<=10000000):Tri prog 104 #[.slice pad p.length pcap] [] [L_ pad (p.flatMap Pc.cells)] (λy:{y:VrfH // VrfOk p y}=>zp_ y.1.vb 0) (λy=>[(y.1.vb,.cells (gC_ (.slice pad p.length pcap) y.1.ab (.slice none 0 0)).toArray 181 (0,0)),(y.1.ab,.map y.1.es y.1.ec)]) (λ_=>[]):=by
 refine g_ func104 rfl rfl ntmps104 rfl λS=>?_;have T:=el_ p;refine Zz 8 ?_;refine aX_ rfl λm=>ex_ (k:=[42]) 0 ry_ (.inl rfl) jc_ rfl rfl rfl rfl SetE.nil λO P I=>ex_ (k:=[33]) 0 ry_ (.inl rfl) jc_ rfl rfl rfl rfl I λB J K=>Zz 1 ?_
 refine f_ (xy_) rfl i_ zt rfl λ_=>e_ (aj_ (w_ (cs:=(gC_ (.slice pad p.length pcap) m (.slice none 0 0))) yY_ rfl zk) (show _=Value.agg (gC_ (.slice pad p.length pcap) m (.slice none 0 0)).toArray from rfl)) rfl (F_ rfl rfl λx=>Zz 7 ?_)
 refine f_ (up_ p pad pcap zaa_) rfl i_ zf rfl λ⟨⟨aad,acap⟩,Q,R⟩=>?_;dsimp only;refine Zz 5 ?_;have E:∀ y,y∈(if [33]∈(if [42]∈([]:List Str) then ([]:List Str) else ([]:List Str)++[[42]]) then (if [42]∈([]:List Str) then ([]:List Str) else ([]:List Str)++[[42]]) else (if [42]∈([]:List Str) then ([]:List Str) else ([]:List Str)++[[42]])++[[33]])↔y=[42]\/y=[33]:=by intro y;simp
 refine I_ (ι:={y:Nat×List Str×Array MapEntry×Nat // y.1<=List.length (cn_ p)/\SetE str y.2.2.1 y.2.1/\(∀ M,M∈y.2.1↔M=[42]\/M=[33]\/M∈List.take y.1 (cn_ p))}) (λy=>[(3,zp_ x 0),(13,.slice aad (cn_ p).length acap),(14,i4_ (List.length (cn_ p):Int)),(15,i4_ y.1.1)]) (λy=>((x,.cells (gC_ (.slice pad p.length pcap) m (.slice none 0 0)).toArray 181 (0,0))::((m,.map y.1.2.2.1 y.1.2.2.2)::[]))) (λy=>[L_ aad (List.flatMap ar_ (cn_ p)),L_ pad (p.flatMap Pc.cells)]) (λy=>List.length (cn_ p) - y.1.1) ⟨((0:Nat),(if [33]∈(if [42]∈([]:List Str) then ([]:List Str) else ([]:List Str)++[[42]]) then (if [42]∈([]:List Str) then ([]:List Str) else ([]:List Str)++[[42]]) else (if [42]∈([]:List Str) then ([]:List Str) else ([]:List Str)++[[42]])++[[33]]),B,J),by simp,K,(λy=>by rw[E y];simp)⟩ zl zp zh ?_;rintro ⟨⟨i,q,es,ec⟩,hi,hE,N⟩;dsimp only at hi hE N ⊢;refine Zi 2 (λL=>?_) λL=>?_
 .refine Zz 13 ?_
  have v:List.take i (cn_ p)=cn_ p:=yad_ zaa_;exact ac_ results104 ⟨⟨x,m,es,ec,q⟩,⟨hE,λy=>by rw[sO_,N y,v]⟩⟩ rfl zp zt
 have d:i<List.length (cn_ p):=by omega
 obtain⟨H,F⟩:∃ v,(cn_ p)[i]? = some v:=⟨_,yaa_ d⟩;refine Zz 21 ?_;refine ex_ (k:=H) 1 ry_ (.inr rfl) jc_ rfl rfl rfl rfl hE λA C G=>Zz 7 ?_
 exact C_ ⟨(i+1,addI H q,A,C),d,G,(λy=>by rw[addI_mem,N y,yao_,F];simp[or_assoc])⟩ zab_ zl zp zh
theorem idle_c (b:Nat) (w:World):CallsD prog 169 #[zp_ b 0] .returning w λe v w'=>e=.returned (.tuple #[])/\v=.returning/\w'=w:=by
  refine callsD_of_wpS func169 rfl λd cs m=>?_
  apply wpS_seq
  apply wpS_region
  simp[wpOpsS,go_sem,recoverD,m,ntmps169,Exit.thenS]
  refine wpS_cond (t:=false) (by simp[Act.eval,Array.replicate]) ?_;simp only[ybl_,yca_];refine wpS_of_wp (wp_skip ?_);cases d
  simp_all [bodyPostS,results,results169]
theorem inv_c (b:Nat) (w:World):(invoke (.fn (.func 169) #[zp_ b 0]) #[]).run prog w=.ok (.enter 169 #[zp_ b 0]) w:=by
  exact callable (P:=prog) func169 rfl rfl #[zp_ b 0] w
theorem vW_ {P:Program} {N:Nf} {fr:Fr} {H:Hp} {Γ:List Fct} {ty t:TypeId} {x:Operand} {vb ab:Nat} {E F B C A:Value} {T:TypeId} {k:Nat} (S:∀ w,(isAgg t).run P w=.ok true w) (L:∀ w,(sizeOf t).run P w=.ok 3 w) (J:lY_[3*k]? = some B) (U:lY_[3*k+1]? = some C) (I:lY_[3*k+2]? = some A)
    (O:Fr.ev fr x=some (.pointer (some ⟨vb,3+k*3,none⟩))) (R:∀ v,v.sat H->Z_ Γ v->(cf_ vb (.cells (gC_ E ab F).toArray T (0,0))).p v):Yld P N fr H Γ (.load t x) ty (.agg #[B,C,A]) :=
  eN_ O λv Q G=>cy_ (n:=3) (cs:=[B,C,A]) S L rfl λj y d=>by
    have M:=(R v Q G).2;have m:∀ i,(gC_ E ab F)[3+i]? = lY_[i]? := λi=>by rw[Nat.add_comm];rfl
    have e:∀ i u,lY_[3*k+i]? = some u->v.w.cell? ⟨vb,3+k*3+i,none⟩=some u:=λi u K=>by
      have:=m (3*k+i);rw[K]at this;simp only[World.cell?,M];rw[show 3+k*3+i=3+(3*k+i) by omega];simpa using this
    match j with
    | 0=>simp at d;subst d;exact e 0 _ J
    | 1=>simp at d;subst d;exact e 1 _ U
    | 2=>simp at d;subst d;exact e 2 _ I
    | j+3=>simp at d
theorem res_cb {P:Program} {N:Nf} {fr:Fr} {H:Hp} {fn:Func} {t b:Nat} {ty T:TypeId} {u:Value} (i:Nat) (m:fn.results=#[.cell t ty]) (A:∀ w,(isAgg ty).run P w=.ok false w) (y:Fr.get fr t=some (zp_ b 0)) (hi:H[i]? = some (b,.cells #[u] T (0,0))) (a:Act) (v:Vw) (B:Fr.sat N fr a) (d:v.sat H) :
    (results fn a.tmps).run P v.w=.ok u v.w:=by
  have e:=B.val t _ y;have x:=(d.own _ (yac_ hi)).1;have C:v.w.cell? ⟨b,0,none⟩=some u:=by simp[World.cell?,x]
  simp[results,m,e,asAddr,bQ_ A C]
theorem vK_ {p:List Pc} (h:bq_ p=0):p.length<=16384/\∀ x∈p,x.valid=true:=by
 unfold bq_ at h
 split at h
 .simp at h
 split at h
 .rename_i d;exact⟨by omega,λx m=>yaQ_.1 d x m⟩
 simp at h
theorem oq_ {e sz n:Nat} {sv:Value} {xs:List Value} {Hr:Hp} (h:ad_ e sz sv n xs Hr):∃ ad cap,sv=.slice ad n cap/\∀ v:Vw,(∀ p∈Hr,v.im p.1/\v.w.heap[p.1]? = some p.2)->bl_ v ad xs:=by
 have d:=h;obtain⟨hl,⟨rfl,rfl,rfl⟩|⟨g,cap,cur,rfl,rfl,m,x,A,C⟩⟩:=d
 .exact⟨none,0,rfl,λv _=>.inl (yaz_ (by simpa using hl))⟩
 refine⟨some ⟨g,0,none⟩,cap,rfl,λv B=>?_⟩;obtain⟨ad,cp,e,_,_,_,y⟩:=kG_ h B;simp only[Value.slice.injEq]at e;rw[e.1];exact y
theorem zE_ {P:Program} {N:Nf} {A:Vw} {m:Hp} {R:Exit->Act->World->Prop} {K:List Kt} {fr:Fr} {H F:Hp} {Γ:List Fct} {d:Array Oper} {l:List Oper} {ty:TypeId} {ps:String} {I:Array Edge} {t:TypeId} {x y:Operand} {vb ab:Nat} {v M:Value} {T:TypeId} {ad:Ao} {n c:Nat} (J:∀ w,(sizeOf t).run P w=.ok 1 w)
    (L:Fr.ev fr x=some (zp_ vb 2)) (G:Fr.ev fr y=some (.slice ad n c)) (C:H.Perm ([(vb,.cells (gC_ v ab M).toArray T (0,0))]++F)) (E:(Value.slice ad n c).oneCell'=true)
    (B:Ops P R N A m d l K fr ((vb,.cells (gC_ v ab (.slice ad n c)).toArray T (0,0))::F) Γ):Ops P R N A m d (⟨none,.store t x y,ty,ps,I,none⟩::l) K fr H Γ:=by
  refine t_ C (n_ 0 J L G rfl rfl (by rfl) (by simp only[Value.cells,List.all_cons,List.all_nil,E,Bool.and_true]) ?_);simp only[yav_,ybC_,ybI_];exact B
theorem xX_ {l:List Stp} {i:Nat} {s:Stp} (d:l[i]? = some s):fcs (l.take (i+1))=fcs (l.take i)++[s.fact]:=by
  rw[yao_,d,yaC_,dL_];rfl
theorem Am_ {l:List Stp} {i:Nat} (h:∀ s∈l,s.fact.sml):∀ x∈fcs (l.take i),x.sml:=λx d=>by
  obtain⟨s,m,rfl⟩:=yas_.1 d;exact h s (ybs_ m)
theorem text_len {l:List Str} (h:∀ s∈l,s.length<=65535):∀ i,((l.take i).flatMap AI_).length<=65537*i
  | 0=>by simp
  | i+1=>by
    have d:=text_len h i;cases hs:l[i]? with
    | none =>
      have:l.take (i+1)=l.take i:=by rw[yao_,hs];simp
      rw[this];omega
    | some s =>
      have q:=h s (yac_ hs);rw[yao_,hs,yaC_,yaW_,yaj_,yaV_,List.flatMap_nil,yaL_,AI_,yaj_,rl_];omega
structure Pf where
  l:List Stp
  ad:Ao
  cap:Nat
def Pf.cells (y:Pf):List Value:=[.slice y.ad y.l.length y.cap]
theorem Pf.cells_len (y:Pf):y.cells.length=1:=rfl
def sC_ (X:List Pf):Fct where
  p v:=∀ y∈X,bl_ v y.ad (y.l.flatMap Stp.cells)/\(bY_ y.l).p v
  mono v v' h hp y hy:=⟨(L_ y.ad (y.l.flatMap Stp.cells)).mono v v' h (hp y hy).1,(bY_ y.l).mono v v' h (hp y hy).2⟩
theorem xx_ (f:Fc) (A:f.sml) (y:wf1 f):Fn0 prog 171 #[Fc.val f] (.bool true):=by
 refine g_ func171 rfl rfl ntmps171 rfl λE=>?_;obtain⟨I,J,F⟩:=A;refine Zz 2 ?_;refine F_ rfl rfl λG=>Zi 13 (λd=>?_) λd=>?_
 .exfalso;rw[y.2.2]at d;simp[Q_]at d
 refine Zz 6 ?_;refine s_ 16 [0,1] zk zs (Zz 3 ?_);refine l_ 2 rfl zk (aa_ (pb_ f.a zaa_) rfl i_ zt rfl λC v=>Zz 3 ?_);refine s_ 14 [3] zk zs (Zz 2 ?_);cases C
 .rw[y.1]at v;cases v
 refine s_ 12 [4,5] zk zs (Zz 3 ?_);refine l_ 6 rfl zk (aP_ rfl rfl (aa_ (pb_ f.b zaa_) rfl i_ zt rfl λB m=>Zz 3 ?_));refine s_ 9 [7,8] zk zs (Zz 3 ?_);cases B
 .rw[y.2.1]at m;cases m
 refine s_ 4 [9,10,11,12,13] zk zs (Zz 6 ?_);refine l_ 14 rfl zk (aP_ rfl rfl (f_ (ny_ f.a f.b) rfl i_ zt rfl λ_=>Zz 3 ?_));refine s_ 0 [15,16,17] zk zs (dq_ rfl rfl rfl (cL_ (p:=f) (q:=(Q_ f.a f.b)) rfl rfl) rfl λH x=>Zz 6 ?_);exact ac_ results171 () (p_ rfl (by rw[<-x];exact yaE_ y.2.2)) i_ zt
theorem zI_:Tri prog 170 #[.bool true] [] [] (λ_:Unit=>.tuple #[]) (λ_=>[]) (λ_=>[]):=by
  refine g_ func170 rfl rfl ntmps170 rfl λd=>?_;refine Zz 3 ?_;refine e_ (aH_ rfl) rfl (Zz 5 ?_);exact bK_ results170 () rfl i_ zt
theorem iN_ (ok:Bool) (h:ok=true):Tri prog 170 #[.bool ok] [] [] (λ_:Unit=>.tuple #[]) (λ_=>[]) (λ_=>[]):=by
  subst h;exact zI_
theorem qX_ {d:List Fc} {frm:List Int} {i:Nat} {q:Int} {x:Fc} (m:frm[i]? = some q) (v:d[q.toNat]? = some x):dT_ d (List.take (i+1) frm)=dT_ d (frm.take i)++[x]:=by
  unfold dT_;rw[yao_,m,yaC_,yaw_];have e:d.getD q.toNat zfc=x:=iR_ v;show _++[d.getD q.toNat zfc]=_
  rw[e]
theorem qY_ (p:List Pc) (pad:Ao) (pcap:Nat) (B:List Fc) (fad:Ao) (fcap:Nat) (vb ab:Nat) (s:Stp) (m:Int) (a9:B.length<=10000000) (a5:s.frm.length<=1000000) (a3:∀ x∈B,x.sml) (V:yz_ B s.frm m):Tri prog 172 #[zp_ vb 0,Stp.val s,i4_ m] [] [cf_ vb (.cells (gC_ (.slice pad p.length pcap) ab (.slice fad B.length fcap)).toArray 181 (0,0)),L_ fad (B.flatMap Fc.cells),L_ s.ad (s.frm.flatMap aY_)] (λy:Ao×Nat=>.slice y.1 (dT_ B s.frm).length y.2) (λ_=>[]) (λy=>[L_ y.1 (List.flatMap Fc.cells (dT_ B s.frm))]):=by
 refine g_ func172 rfl rfl ntmps172 rfl λa7=>?_;refine Zz 2 ?_;refine F_ rfl rfl λb_1=>Zz 9 ?_
 refine P_ (by_ rfl rfl) rfl λa2 F=>f_ (iN_ a2 (F.symm.trans (ydq_.2 V.1))) rfl i_ zt rfl λ_=>Zz 12 ?_
 refine I_ (ι:={y:Nat×Value×Hp // y.1<=List.length s.frm/\zR 87 6 Fc.cells y.2.1 (dT_ B (s.frm.take y.1)) y.2.2}) (λy=>[(0,zp_ vb 0),(6,y.1.2.1),(16,.slice s.ad s.frm.length s.cap),(17,i4_ (List.length s.frm:Int)),(18,i4_ y.1.1)]) (λy=>(y.1.2.2)) (λy=>[cf_ vb (.cells (gC_ (.slice pad p.length pcap) ab (.slice fad B.length fcap)).toArray 181 (0,0)),L_ fad (B.flatMap Fc.cells),L_ s.ad (s.frm.flatMap aY_)]) (λy=>s.frm.length - y.1.1) ⟨((0:Nat),(.slice none 0 0),[]),by simp,(ad_.nil _ _)⟩ zl i_ zh ?_;rintro ⟨⟨i,H,L⟩,C,v⟩;dsimp only at C v ⊢;refine Zi 2 (λX=>?_) λX=>?_
 .refine Zz 13 ?_
  have K:List.take i s.frm=Stp.frm s:=yad_ zaa_;have E:ad_ 87 6 H (dT_ B s.frm).length (List.flatMap Fc.cells (dT_ B s.frm)) L:=by have q:=v;rwa [K]at q
  refine aZ_ E af_ λP U N Z Y a0=>?_;exact ac_ results172 (P,U) (fE_ rfl N) i_ zf
 have J:i<s.frm.length:=by omega
 obtain⟨O,T⟩:∃ K,s.frm[i]? = some K:=⟨_,yaa_ J⟩;have A:O∈s.frm:=yac_ T;refine Zi 18 (λE=>?_) λE=>?_
 .exfalso;have q:=(V.2 O A).1;omega
 refine Zz 14 ?_;refine P_ (cB_ rfl rfl) rfl λa1 R=>Zz 1 ?_
 refine f_ (iN_ a1 (R.symm.trans (yaE_ (V.2 O A).2.1))) rfl i_ zt rfl λ_=>Zz 3 ?_
 have a8:=V.2 O A;obtain⟨a4,G,I,M⟩:=zge (show (Int.toNat O)<B.length by omega);refine Zz 8 ?_;refine f_ (xx_ G (a3 G M) (iR_ (d:=zfc) I▸(V.2 O A).2.2)) rfl i_ zt rfl λ_=>f_ (iN_ true (rfl)) rfl i_ zt rfl λ_=>Zz 11 ?_
 refine M_ ai_ N_ W_ rfl rfl rfl rfl rfl rfl λa6=>?_;refine aL_ (List.flatMap Fc.cells [G]) d_ rfl ?_;refine cS_ (news:=List.flatMap Fc.cells [G]) jB_ v rfl rfl (λq=>by cases q) zai_ af_ zbf_ zf (λu hu=>aG_ Fc.cells_one hu) (by simp only[maxLen];(have:=C;simp only[dT_,yaO_,yat_];omega)) (by (have:=C;simp only[dT_,yaO_,yat_];omega)) rfl λQ W F=>?_;refine t_ yax_ ?_;have S:=zsa F;refine Zz 8 ?_;exact C_ ⟨(i+1,Q,W),J,(by have q:=S;rw[<-qX_ T I]at q;exact q)⟩ zab_ zl af_ (λ_ _ h=>h.2)
theorem wW_ (p:List Pc) (pad:Ao) (pcap:Nat) (P:List Fc) (fad:Ao) (fcap:Nat) (vb ab:Nat) (s:Stp) (k:Int) (O:p.length<=10000000) (K:uv_ p s.piece k):Tri prog 173 #[zp_ vb 0,Stp.val s,i4_ k] [] [cf_ vb (.cells (gC_ (.slice pad p.length pcap) ab (.slice fad P.length fcap)).toArray 181 (0,0)),L_ pad (p.flatMap Pc.cells)] (λ_:Unit=>Pc.val (p.getD s.piece.toNat zpc)) (λ_=>[]) (λ_=>[]):=by
 refine g_ func173 rfl rfl ntmps173 rfl λM=>?_;obtain⟨L,J,_⟩:=id K;refine Zz 2 ?_;refine F_ rfl rfl λH=>u_ O_ rfl λN=>Zz 4 ?_
 refine s_ 23 [0,1,2,3] zk zs (Zi 2 (λB=>?_) λB=>?_)
 .exfalso;omega
 refine Zz 2 ?_;refine s_ 13 [4,5,6,7,8,9,10,11,12,13] zk zs (Zi 7 (λA=>?_) λA=>?_)
 .exfalso;omega
 have x:(Int.toNat s.piece)<p.length:=by omega
 obtain⟨F,m⟩:∃ C,p[(Int.toNat s.piece)]? = some C:=⟨_,yaa_ x⟩;refine Zz 3 ?_;refine s_ 1 [14,15,16,17,18,19,20,21,22,23,24,25] zk zs (Zz 10 ?_);refine dq_ rfl rfl rfl (by_ rfl rfl) rfl λI y=>Zz 2 ?_
 refine l_ 26 rfl zk (f_ (iN_ I (y.symm.trans (ydq_.2 (by have q:=K.2.2;rw[iR_ (d:=zpc) m]at q;exact q)))) rfl i_ zt rfl λ_=>?_);refine Zz 6 ?_;refine V_ ((H,.cells #[i4_ s.rule,i4_ (Fc.kind s.fact),str (Fc.a s.fact),str (Fc.b s.fact),str (Fc.r s.fact),i4_ (Fc.lo s.fact),i4_ (Fc.hi s.fact),i4_ s.piece,.slice s.ad s.frm.length s.cap] 173 (0,0))::[]) zk ?_;refine s_ 1 [0,1,2,3,4,5,6,7] zk zs (Zz 9 ?_);refine l_ 8 rfl zk (n_ 0 A_ rfl rfl rfl rfl rfl rfl (Zz 6 ?_));exact dI_ () (λQ v G E=>by rw[iR_ m];exact cu_ (us:=Pc.cells F) 0 results173 dy_ A_ rfl rfl rfl Q v G E) i_ zt
theorem zN_ (k:Int) (C:1<=k) (B:k<=3):∃ g:FuncId,lY_[3*k.toNat]? = some (i4_ (rr_ k))/\lY_[3*k.toNat+1]? = some (i4_ (ir_ k))/\lY_[3*k.toNat+2]? = some (.func (.func g) #[] #[])/\
    ∀ (kn:Str->Bool) (q:List Str) (_:∀ s,kn s=true↔s∈q) (es:Array MapEntry) (ec:Nat) (_:SetE str es q) (vb ab:Nat) (m v:Value) (x:Pc) (f:Fc) (lad:Ao) (lcap:Nat) (l:List Fc) (_:(l.length:Int)=rr_ k) (_:AQ_ kn k x f (l.getD 0 zfc) (l.getD 1 zfc)=true),
    Tri prog g #[.agg #[zp_ vb 0,i4_ f.kind,str f.a,str f.b,str f.r,i4_ f.lo,i4_ f.hi,.slice lad l.length lcap,i4_ x.kind,str x.a,str x.b,str x.c,str x.r,str x.s,str x.t,i4_ x.lo,i4_ x.hi,i4_ x.frm]] [] [cf_ vb (.cells (gC_ m ab v).toArray 181 (0,0)),cf_ ab (.map es ec),L_ lad (l.flatMap Fc.cells)] (λ_:Unit=>.bool true) (λ_=>[]) (λ_=>[]):=by
  have A:k=1\/k=2\/k=3:=by omega
  rcases A with rfl|rfl|rfl
  . refine⟨219,rfl,rfl,rfl,λkn q d es ec hE vb ab m v x f lad lcap l hl hi=>?_⟩
    obtain rfl:l=[]:=yaz_ (by have q:(l.length:Int)=0:=hl;omega);have T:=zQ_ kn q d es ec hE vb ab m v x f lad lcap;rw[show ta_ kn x f zfc zfc=true from hi]at T;exact T
  . refine⟨221,rfl,rfl,rfl,λkn q d es ec hE vb ab m v x f lad lcap l hl hi=>?_⟩
    obtain rfl:l=[]:=yaz_ (by have q:(l.length:Int)=0:=hl;omega);have T:=zP_ kn q d es ec hE vb ab m v x f lad lcap;rw[show sZ_ kn x f zfc zfc=true from hi]at T;exact T
  . refine⟨222,rfl,rfl,rfl,λkn q d es ec hE vb ab m v x f lad lcap l hl hi=>?_⟩
    obtain⟨y,rfl⟩:∃ y,l=[y]:=ycB_.1 (by have q:(l.length:Int)=1:=hl;omega);have T:=zO_ kn q d es ec hE vb ab m v x f y lad lcap;rw[show sY_ kn x f y zfc=true from hi]at T;exact T
theorem ll_ {G:Prop} (h:G:=by
 refine n_ 2 co_ rfl rfl rfl rfl rfl rfl (Zz 3 ?_);exact retDf (F:=_) () (inv_c d) (idle_c d) (λa v H G=>res_cb 2 results105 oP_ rfl rfl a v H G) i_ zt):G:=h
theorem tf_ (p:List Pc) (pad:Ao) (pcap:Nat) (m:List Fc) (fad:Ao) (fcap:Nat) (vb ab:Nat) (s:Stp) (q:List Str) (I:∀ s,dU_ p s=true↔s∈q) (es:Array MapEntry) (ec:Nat) (hE:SetE str es q) (V:p.length<=10000000) (Y:m.length<=10000000) (U:s.frm.length<=1000000) (X:∀ x∈m,x.sml) (Z:s.fact.sml) (A:Acc p m s):Tri prog 105 #[zp_ vb 0,Stp.val s] [] [cf_ vb (.cells (gC_ (.slice pad p.length pcap) ab (.slice fad m.length fcap)).toArray 181 (0,0)),cf_ ab (.map es ec),L_ pad (p.flatMap Pc.cells),L_ fad (m.flatMap Fc.cells),L_ s.ad (s.frm.flatMap aY_)] (λ_:Unit=>.bool true) (λ_=>[]) (λ_=>[]):=by
 refine pg_ func105 rfl rfl ntmps105 rfl λv_1=>?_;obtain⟨C,E⟩:=A.r;obtain⟨gk,K,P,J,hT⟩:=zN_ s.rule C E;refine Zz 2 ?_;refine F_ rfl rfl λB=>u_ bO_ rfl λd=>Zz 4 ?_
 refine e_ (aR_ rfl rfl) rfl (vl_ (N:=56) (D:=[]) rfl rfl rfl (Zi 6 (λS=>?_) λS=>?_))
 .exfalso;omega
 refine Zi 6 (λM=>?_) λM=>?_
 .exfalso;omega
 refine Zz 7 ?_;refine f_ (xx_ s.fact Z A.wf) rfl i_ zt rfl λ_=>Zz 1 ?_
 refine f_ (iN_ true (rfl)) rfl i_ zt rfl λ_=>Zz 3 ?_
 let Pu:Nat×Obj:=(B,.cells #[i4_ s.rule,i4_ (Fc.kind s.fact),str (Fc.a s.fact),str (Fc.b s.fact),str (Fc.r s.fact),i4_ (Fc.lo s.fact),i4_ (Fc.hi s.fact),i4_ s.piece,.slice s.ad s.frm.length s.cap] 173 (0,0));refine eg_ (ι:={y:Nat // True}) (λy=>[(0,zp_ vb 0),(3,zp_ B 0),(4,zp_ d 0),(5,zp_ y.1 0)]) (λy=>(Pu::((d,.cells #[.bool false] 4 (0,0))::((y.1,.cells #[i4_ (rr_ s.rule),i4_ (ir_ s.rule),.func (.func gk) #[] #[]] 178 (0,0))::[])))) (λy=>[cf_ vb (.cells (gC_ (.slice pad p.length pcap) ab (.slice fad m.length fcap)).toArray 181 (0,0)),cf_ ab (.map es ec),L_ pad (p.flatMap Pc.cells),L_ fad (m.flatMap Fc.cells),L_ s.ad (s.frm.flatMap aY_)]) ?_ ?_
 .refine V_ ((d,.cells #[.bool false] 4 (0,0))::(Pu::[])) zk ?_
  refine s_ 2 [0,1,2,3,4,5,6] zk zs (Zz 5 ?_);refine S_ rfl (aj_ (dk_ (off:=3) runUnderlying179 sizeOf178 rfl rfl zaa_ zaa_) (show _=Value.pointer (some ⟨vb,3+(Int.toNat s.rule)*3,none⟩) from rfl)) rfl (S_ rfl (vW_ isAgg178 sizeOf178 K P J rfl zf) rfl (bt_ (l_ 7 rfl zk (u_ zeroValue178 rfl λT=>Zz 3 ?_))));refine l_ 8 rfl zk (n_ 0 sizeOf178 rfl rfl rfl rfl rfl rfl (Zz 5 ?_));exact bS_ ⟨T,trivial⟩ zl (m_ (c_ (c_ d_)) (m_ (c_ d_) d_)) zf
 rintro ⟨R,_⟩;dsimp only;refine bh_ [(0,zp_ vb 0),(3,zp_ B 0),(4,zp_ d 0),(5,zp_ R 0)] zl ?_;refine Zz 7 ?_;refine f_ (qY_ p pad pcap m fad fcap vb ab s (rr_ s.rule) Y U X A.pm) rfl i_ zf rfl λ⟨lad,lcap⟩=>?_;dsimp only;refine Zz 5 ?_;refine u_ O_ rfl λT=>Zi 7 (λQ=>?_) λQ=>?_
 .have O:ir_ s.rule≠0:=by omega
  refine Zz 8 ?_;refine f_ (wW_ p pad pcap m fad fcap vb ab s (ir_ s.rule) V (by have q:=A.pc;rwa [yaf_ O]at q)) rfl i_ zf rfl λ_=>?_;refine n_ 0 A_ rfl rfl rfl rfl rfl rfl (Zz 11 ?_);refine e_ (w_ tK_ rfl rfl) rfl (T_ (hT (dU_ p) q I es ec hE vb ab (.slice pad p.length pcap) (.slice fad m.length fcap) (List.getD p (Int.toNat s.piece) zpc) s.fact lad lcap (dT_ m s.frm) (by unfold dT_;rw[yaO_];exact A.pm.1) (by have q:=A.ins;rw[show sB_ p s.rule s.piece=(List.getD p (Int.toNat s.piece) zpc) from yaf_ O]at q;exact q)) rfl rfl i_ zf rfl λ_=>?_);exact ll_
 have O:ir_ s.rule=0:=by omega
 refine Zz 6 ?_;refine P_ (by_ rfl rfl) rfl λW L=>?_;refine f_ (iN_ W (L.symm.trans (ydq_.2 (by have q:=A.pc;rwa [yaq_ O]at q)))) rfl i_ zt rfl λ_=>?_;refine Zz 11 ?_;refine e_ (w_ tK_ rfl rfl) rfl (T_ (hT (dU_ p) q I es ec hE vb ab (.slice pad p.length pcap) (.slice fad m.length fcap) (Pc.mk 0 [] [] [] [] [] [] 0 0 0) s.fact lad lcap (dT_ m s.frm) (by unfold dT_;rw[yaO_];exact A.pm.1) (by have q:=A.ins;rw[show sB_ p s.rule s.piece=(Pc.mk 0 [] [] [] [] [] [] 0 0 0) from yaq_ O]at q;exact q)) rfl rfl i_ zf rfl λ_=>?_);exact ll_
end Go.Proofs.YtfjcabalehamcaaGreatDoor
namespace Go.Vs
open Go Go.Sx
def eJ_ (b:Bool):List Value:=[.bool b]
theorem dR_ (b:Bool):(eJ_ b).length=1:=rfl
def cr_ (l:List Stp) (s:Stp):Nat:=(fcs l).idxOf s.fact
def fsL (l:List Stp):List Int:=l.map λs=>(cr_ l s:Int)
def hF (l:List Stp) (q:Int):Int:=(fsL l).getD q.toNat 0
theorem hD_ (l:List Stp):(fsL l).length=l.length:=by simp[fsL]
theorem mn_ {l:List Stp} {i:Nat} {s:Stp} (h:l[i]? = some s):(fsL l)[i]? = some (cr_ l s:Int):=by simp[fsL,h]
theorem pM_ {l:List Stp} {i:Nat} {s:Stp} (h:l[i]? = some s):cr_ l s<=i:=by
 have v:(fcs l)[i]? = some s.fact:=by simp[fcs,h]
 obtain⟨hi,m⟩:=yab_.1 v;unfold cr_
 by_cases d:(fcs l).idxOf s.fact<=i
 .exact d
 have:=List.not_of_lt_findIdx (p:=(·==s.fact)) (xs:=fcs l) (i:=i) (by unfold List.idxOf at d;omega);simp[m]at this
theorem xR_ {l:List Stp} {s:Stp} (h:s∈l):(fcs l)[cr_ l s]? = some s.fact:=by
  have hm:s.fact∈fcs l:=yaI_ h;have d:=ycN_.2 hm;unfold cr_;rw[yaa_ d,ydh_]
theorem mm_ {l:List Stp} {s:Stp} (h:s∈l):cr_ l s<l.length:=by
  rw[<-dn_];exact ycN_.2 (yaI_ h)
theorem rF_ {l:List Stp} {q:Int} {s:Stp} (h:l[q.toNat]? = some s):hF l q=(cr_ l s:Int):=by
  unfold hF;rw[List.getD_eq_getElem?_getD,mn_ h];rfl
def fsI (l:List Stp) (i:Nat):List Int:=(fsL l).take i++List.replicate (l.length - i) 0
theorem xS_ (l:List Stp):fsI l 0=List.replicate l.length 0:=by simp[fsI]
theorem mo_ (l:List Stp) {i:Nat} (h:i<=l.length):(fsI l i).length=l.length:=by simp[fsI,hD_];omega
theorem Ah_ (l:List Stp) {i:Nat} (h:l.length<=i):fsI l i=fsL l:=by
  unfold fsI;rw[yad_ (by rw[hD_];exact h),show l.length - i=0 by omega];simp
theorem mp_ {l:List Stp} {i j:Nat} (h:j<i) (hi:i<=l.length):(fsI l i)[j]? = (fsL l)[j]? := by
  unfold fsI;rw[yaK_ zbp_,yaM_ h]
theorem Ag_ {l:List Stp} {i:Nat} {s:Stp} (h:l[i]? = some s):(fsI l i).set i (cr_ l s:Int)=fsI l (i+1):=by
 have hi:=(yab_.1 h).1
 apply ybx_
 intro j;rw[ybm_,mo_ l zaa_]
 by_cases d:i=j
 .subst d
  rw[yaq_ rfl,yaq_ hi,mp_ zaa_ zaa_,mn_ h]
 rw[yaf_ d]
 by_cases m:j<i
 .rw[mp_ m zaa_,mp_ zaa_ zaa_]
 unfold fsI;rw[yaG_ zbp_,yaG_ zbp_,yat_,yat_,hD_,ybn_ zaa_,ybn_ zaa_,ybQ_,ybQ_]
 by_cases v:j<l.length
 .rw[yaq_ zaa_,yaq_ zaa_]
 rw[yaf_ zaa_,yaf_ zaa_]
structure KnI (l:List Stp) (i:Nat) (ks:List Fc) (vs:List Int):Prop where
  mem:∀ f,f∈ks↔f∈fcs (l.take i)
  val:∀ (q:Nat) k v,ks[q]? = some k->vs[q]? = some v->v=((fcs l).idxOf k:Int)
  len:ks.length<=i
theorem KnI.nil (l:List Stp):KnI l 0 [] []:=⟨by simp[fcs],by simp,by simp⟩
theorem vy_ {l:List Stp} {i:Nat} {s:Stp} (h:l[i]? = some s) (v:s.fact ∉ fcs (l.take i)):cr_ l s=i:=by
 have x:=pM_ h
 by_cases m:cr_ l s=i
 .exact m
 exfalso
 have hm:=yac_ h;have d:=xR_ hm
 apply v
 have:(fcs (l.take i))[cr_ l s]? = some s.fact:=by
   unfold fcs at d ⊢;rw[ydr_,yaM_ zaa_];exact d
 exact yac_ this
theorem jg_ {l:List Stp} {i:Nat} {s:Stp} (h:l[i]? = some s):fcs (l.take (i+1))=fcs (l.take i)++[s.fact]:=by
  rw[yao_,h,yaC_,dL_];rfl
theorem KnI.new {l:List Stp} {i:Nat} {ks:List Fc} {vs:List Int} {s:Stp} (h:KnI l i ks vs) (hl:vs.length=ks.length) (x:l[i]? = some s) (A:s.fact ∉ ks):KnI l (i+1) (ks++[s.fact]) (vs++[(i:Int)])/\(i:Int)=(cr_ l s:Int):=by
 have hi:=vy_ x (λq=>A ((h.mem _).2 q));refine⟨⟨λf=>?_,λq k v d m=>?_,by have:=h.len;simp;omega⟩,by rw[hi]⟩
 .rw[jg_ x,yag_,yag_,h.mem]
 by_cases y:q<ks.length
 .rw[yaK_ y]at d
  rw[yaK_ zaa_]at m;exact h.val q k v d m
 have e:q=ks.length:=by have:=(yab_.1 d).1;simp at this;omega
 subst e;rw[yaG_ zaa_]at d;rw[yaG_ zaa_,hl]at m;simp at d m
 rw[<-m,<-d];show _=(cr_ l s:Int)
 rw[hi]
theorem KnI.old {l:List Stp} {i:Nat} {ks:List Fc} {vs:List Int} {s:Stp} {m:Int} (h:KnI l i ks vs) (x:l[i]? = some s) (y:s.fact∈ks) (hm:∃ q:Nat,ks[q]? = some s.fact/\vs[q]? = some m):KnI l (i+1) ks vs/\m=(cr_ l s:Int):=by
 obtain⟨q,v,d⟩:=hm;refine⟨⟨λf=>?_,h.val,by have:=h.len;omega⟩,h.val q _ _ v d⟩;rw[jg_ x,yag_,h.mem];constructor
 .exact .inl
 rintro (q|q)
 .exact q
 rw[yak_]at q;rw[q];exact (h.mem _).1 y
structure TsI (l ts:List Stp) (i:Nat):Prop where
  len:ts.length=l.length
  done:∀ (j:Nat) s t,j<i->l[j]? = some s->ts[j]? = some t->t.rule=s.rule/\t.fact=s.fact/\t.piece=s.piece/\t.frm=s.frm.map (hF l)
  rest:∀ (j:Nat) t,i<=j->ts[j]? = some t->t.ad=none/\t.cap=0/\t.frm=[]
theorem TsI.zero (l:List Stp):TsI l (List.replicate l.length Stp.zero) 0:=by
 refine⟨by simp,λj s t m=>by omega,λj t _ d=>?_⟩;rw[ybQ_]at d
 split at d
 .cases d;exact⟨rfl,rfl,rfl⟩
 cases d
theorem TsI.step {l ts:List Stp} {i:Nat} {s t:Stp} (h:TsI l ts i) (x:l[i]? = some s) (B:t.rule=s.rule/\t.fact=s.fact/\t.piece=s.piece/\t.frm=s.frm.map (hF l)):TsI l (ts.set i t) (i+1):=by
 have hi:=(yab_.1 x).1;refine⟨by rw[yaT_];exact h.len,λj y v A m d=>?_,λj v A d=>?_⟩
 .rw[ybm_]at d
  by_cases e:i=j
  .subst e
   rw[yaq_ rfl,yaq_ (by rw[h.len];exact hi)]at d;rw[x]at m;cases m;cases d;exact B
  rw[yaf_ e]at d;exact h.done j y v zaa_ m d
 rw[ybm_,yaf_ zaa_]at d;exact h.rest j v zaa_ d
theorem xa_ {T:TypeId} {ts:List Stp} {m d:Hp} {i:Nat} {t s:Stp} (y:mg_ T ts m) (hi:ts[i]? = some t) (B:t.ad=none/\t.cap=0/\t.frm=[]) (C:ty_ T s d):∃ H',mg_ T (ts.set i s) H'/\(d++m).Perm H':=by
 obtain⟨Hs,Hr,x,A,v⟩:=y.get hi;obtain⟨H',E,F⟩:=v s d C
 have e:Hs=[]:=by
   rcases A.2 with⟨_,_,h⟩|⟨g,cap,cur,h,_⟩
   . exact h
   . rw[B.1]at h;simp at h
 subst e;exact⟨H',E,(ybE_ d (by simpa using x)).trans F.symm⟩
theorem fsI_hF {l:List Stp} {i:Nat} {q:Int} (h:q.toNat<i) (hi:i<=l.length):(fsI l i)[q.toNat]? = some (hF l q):=by
  rw[mp_ h hi];have:l[q.toNat]? = some l[q.toNat]:=yaa_ zaa_;rw[rF_ this,mn_ this]
inductive Nd (us:List Stp):Nat->Prop
  | last {n:Nat} (h:us.length=n+1):Nd us n
  | step {m n:Nat} {s:Stp} (hm:Nd us m) (hs:us[m]? = some s) (hq:(n:Int)∈s.frm):Nd us n
structure NdL (us:List Stp) (L:List Int):Prop where
  dec:L.Pairwise (·>·)
  nat:∀ x∈L,∃ n:Nat,x=n/\Nd us n
  all:∀ n:Nat,Nd us n->(n:Int)∈L
structure MkI (us:List Stp) (bs:List Bool) (k:Nat) (L:List Int):Prop where
  len:bs.length=us.length
  dec:L.Pairwise (·>·)
  nat:∀ x∈L,∃ n:Nat,x=n/\k<=n/\Nd us n
  all:∀ n:Nat,k<=n->Nd us n->(n:Int)∈L
  mrk:∀ j,j<k->(bs[j]? = some true↔us.length=j+1\/∃ m,k<=m/\Nd us m/\∃ s,us[m]? = some s/\(j:Int)∈s.frm)
section
variable {us:List Stp} {bs bs':List Bool} {n:Nat} {L:List Int} {s:Stp}
theorem MkI.nd (h:MkI us bs (n+1) L) (v:∀ (i:Nat) s,us[i]? = some s->∀ q∈s.frm,0<=q/\q<(i:Int)):bs[n]? = some true↔Nd us n:=by
 rw[h.mrk n zaa_];constructor
 .rintro (d|⟨m,_,d,s,x,y⟩)
  .exact .last d
  exact .step d x y
 rintro (d|⟨d,x,y⟩)
 .exact .inl d
 refine .inr ⟨_,?_,d,_,x,y⟩;have:=(v _ _ x _ y).2;omega
theorem MkI.miss (h:MkI us bs (n+1) L) (v:∀ (i:Nat) s,us[i]? = some s->∀ q∈s.frm,0<=q/\q<(i:Int)) (E:bs[n]? = some false):MkI us bs n L:=by
 have y:¬ Nd us n:=λq=>by rw[<-h.nd v,E]at q;cases q
 refine⟨h.len,h.dec,λx C=>?_,λm hm A=>?_,λj F=>?_⟩
 .obtain⟨m,e,B,d⟩:=h.nat x C;exact⟨m,e,by omega,d⟩
 .by_cases e:m=n
  .subst e;exact absurd A y
  exact h.all m zaa_ A
 rw[h.mrk j zaa_];refine ycJ_ ⟨λ⟨m,B,d⟩=>⟨m,by omega,d⟩,λ⟨m,B,d⟩=>⟨m,?_,d⟩⟩
 by_cases e:m=n
 .subst e;exact absurd d.1 y
 omega
theorem MkI.hit (h:MkI us bs (n+1) L) (v:∀ (i:Nat) s,us[i]? = some s->∀ q∈s.frm,0<=q/\q<(i:Int)) (K:bs[n]? = some true) (G:us[n]? = some s) (hl:bs'.length=bs.length) (J:∀ q:Nat,bs'[q]? = some true↔bs[q]? = some true\/(q:Int)∈s.frm):MkI us bs' n (L++[(n:Int)]):=by
 have B:Nd us n:=(h.nd v).1 K;refine⟨hl.trans h.len,?_,λx d=>?_,λm hm I=>?_,λj M=>?_⟩
 .rw[ycH_]
  refine⟨h.dec,by simp,λx d y F=>?_⟩;rw[yak_]at F;subst F;obtain⟨m,e,C,_⟩:=h.nat x d;omega
 .rcases yag_.1 d with d|d
  .obtain⟨m,e,C,A⟩:=h.nat x d;exact⟨m,e,by omega,A⟩
  rw[yak_]at d;exact⟨n,d,yae_ _,B⟩
 .by_cases e:m=n
  .subst e;simp
  exact yal_ _ (h.all m zaa_ I)
 rw[J j,h.mrk j zaa_,or_assoc];refine ycJ_ ⟨?_,?_⟩
 .rintro (⟨m,C,A⟩|C)
  .exact⟨m,by omega,A⟩
  exact⟨n,yae_ _,B,s,G,C⟩
 rintro ⟨m,C,A,t,E,H⟩
 by_cases e:m=n
 .subst e;rw[G]at E;cases E;exact .inr H
 exact .inl ⟨m,by omega,A,t,E,H⟩
theorem oG_ (d:∀ (i:Nat) s,us[i]? = some s->∀ q∈s.frm,0<=q/\q<(i:Int)) {n:Nat} (h:Nd us n):n<us.length:=by
  induction h with
  | last h=>omega
  | step hm hs hq ih=>have:=(d _ _ hs _ hq).2;omega
theorem MkI.start (d:∀ (i:Nat) s,us[i]? = some s->∀ q∈s.frm,0<=q/\q<(i:Int)) (v:us≠[]):MkI us ((List.replicate us.length false).set (us.length - 1) true) us.length []:=by
 have hl:=ycj_.2 v;refine⟨by simp,by simp,by simp,λn C x=>?_,λj y=>?_⟩
 .have:=oG_ d x;omega
 rw[ybm_]
 by_cases e:us.length - 1=j
 .rw[yaq_ e,yaq_ zal_]
  exact⟨λ_=>.inl zaa_,λ_=>rfl⟩
 rw[yaf_ e,ybQ_,yaq_ y];constructor
 .intro q;cases q
 rintro (q|⟨m,B,A,_⟩)
 .omega
 have:=oG_ d A;omega
theorem MkI.done (h:MkI us bs 0 L):NdL us L:=⟨h.dec,λx m=>by obtain⟨n,e,_,d⟩:=h.nat x m;exact⟨n,e,d⟩,λn v=>h.all n (ycg_ _) v⟩
theorem MkI.llen (h:MkI us bs n L) (d:∀ (i:Nat) s,us[i]? = some s->∀ q∈s.frm,0<=q/\q<(i:Int)):L.length<=us.length:=by
  have A:L.Nodup:=h.dec.imp λB=>by omega
  have y:∀ x∈L,x∈(List.range us.length).map Int.ofNat:=λx C=>by
    obtain⟨m,e,_,v⟩:=h.nat x C;exact yas_.2 ⟨m,ybY_.2 (oG_ d v),e.symm⟩
  have:=ez_ A y;simpa using this
theorem sL_ {cs:List Bool} {fr:List Int} {j:Nat} {x:Int} (m:∀ q:Nat,cs[q]? = some true↔bs[q]? = some true\/(q:Int)∈fr.take j) (v:fr[j]? = some x) (y:0<=x) (d:x.toNat<cs.length):∀ q:Nat,(cs.set x.toNat true)[q]? = some true↔bs[q]? = some true\/(q:Int)∈fr.take (j+1):=λq=>by
 rw[yao_,v,yaC_,yag_,yak_,ybm_]
 by_cases e:x.toNat=q
 .rw[yaq_ e,yaq_ d]
  exact⟨λ_=>.inr (.inr zaa_),λ_=>rfl⟩
 rw[yaf_ e,m q];constructor
 .rintro (h|h)
  .exact .inl h
  exact .inr (.inl h)
 rintro (h|h|h)
 .exact .inl h
 .exact .inr h
 omega
end
end Go.Vs
namespace Go.Vs
open Go Go.Sx
theorem TsI.ord {l ts:List Stp} (h:TsI l ts l.length) (d:∀ (i:Nat) s,l[i]? = some s->∀ q∈s.frm,0<=q/\q<(i:Int)):∀ (i:Nat) t,ts[i]? = some t->∀ q∈t.frm,0<=q/\q<(i:Int):=λi t v q y=>by
  have hi:i<l.length:=by rw[<-h.len];exact (yab_.1 v).1
  have x:l[i]? = some l[i]:=yaa_ hi;rw[(h.done i _ t hi x v).2.2.2]at y;obtain⟨r,A,rfl⟩:=yas_.1 y;obtain⟨B,C⟩:=d i _ x r A;have m:l[r.toNat]? = some (l[r.toNat]'zaa_):=yaa_ zaa_;rw[rF_ m];have:=pM_ m;omega
theorem TsI.fl {l ts:List Stp} {n:Nat} (h:TsI l ts l.length) (m:∀ s∈l,s.frm.length<=n):∀ t∈ts,t.frm.length<=n:=λt x=>by
  obtain⟨i,hi⟩:=yaU_ x;have d:i<l.length:=by rw[<-h.len];exact (yab_.1 hi).1
  have v:l[i]? = some l[i]:=yaa_ d;rw[(h.done i _ t d v hi).2.2.2,yaO_];exact m _ (ycm_ d)
def pix (O:List Int) (q:Int):Int:=(O.idxOf q:Int)
def eW_ (O fr:List Int) (j:Nat):List Int:=(fr.take j).map (pix O)++fr.drop j
theorem vq_ (O fr:List Int):eW_ O fr 0=fr:=by simp[eW_]
theorem gT_ (O fr:List Int) (j:Nat):(eW_ O fr j).length=fr.length:=by simp[eW_];omega
theorem xq_ (O fr:List Int) {j:Nat} (h:fr.length<=j):eW_ O fr j=fr.map (pix O):=by
  unfold eW_;rw[yad_ h,yaP_ h,yaL_]
theorem xp_ {O fr:List Int} {j:Nat} {x:Int} (h:fr[j]? = some x):(eW_ O fr j)[j]? = some x:=by
  have d:=(yab_.1 h).1;unfold eW_;rw[yaG_ zal_];simp only[yaO_,yat_,ybn_ (Nat.le_of_lt d),ycP_,ybP_,ycc_];exact h
theorem xo_ {O fr:List Int} {j:Nat} {x:Int} (h:fr[j]? = some x):(eW_ O fr j).set j (pix O x)=eW_ O fr (j+1):=by
 have d:=(yab_.1 h).1
 apply ybx_
 intro i;rw[ybm_,gT_]
 by_cases e:j=i
 .subst e
  rw[yaq_ rfl,yaq_ d];unfold eW_;rw[yaK_ zal_,yaH_,yaM_ zaa_,h];rfl
 rw[yaf_ e];unfold eW_
 by_cases m:i<j
 .rw[yaK_ zal_,yaK_ zal_,yaH_,yaH_,yaM_ m,yaM_ zaa_]
 rw[yaG_ zal_,yaG_ zal_,ybP_,ybP_]
 congr 1
 simp only[yaO_,yat_];omega
structure PlI (ts:List Stp) (O:List Int) (k:Nat) (pl:List Int) (tk Y:List Stp):Prop where
  pln:pl.length=ts.length
  plc:∀ (j:Nat) q,j<k->O[j]? = some q->pl[q.toNat]? = some (j:Int)
  tl:tk.length=ts.length
  tkk:∀ (i:Nat) t t',ts[i]? = some t->tk[i]? = some t'->t'.rule=t.rule/\t'.fact=t.fact/\t'.piece=t.piece/\t'.ad=t.ad/\t'.cap=t.cap/\t'.frm=if (i:Int)∈O.take k then t.frm.map (pix O) else t.frm
  yl:Y.length=k
  yy:∀ (j:Nat) q,j<k->O[j]? = some q->Y[j]? = tk[q.toNat]?
theorem PlI.zero (ts:List Stp) (O:List Int):PlI ts O 0 (List.replicate ts.length 0) ts []:=by
  refine⟨by simp,λj q m=>by omega,rfl,λi t v h d=>?_,rfl,λj q m=>by omega⟩;rw[h]at d;cases d;simp
section
variable {ts tk Y:List Stp} {O pl:List Int} {k n:Nat} {t:Stp}
theorem kV_ {O:List Int} (h:O.Pairwise (·<·)):O.Nodup:=h.imp λd=>by omega
theorem xM_ {O:List Int} (h:O.Pairwise (·<·)) {k:Nat} {x:Int} (v:O[k]? = some x):x ∉ O.take k:=λhm=>by
  obtain⟨j,d⟩:=yaU_ hm;have m:=(yab_.1 d).1;simp at m
  rw[yaM_ zaa_]at d;have:=(ydo_ (yab_.1 d).1 (kV_ h)).1 (d.trans v.symm);omega
theorem PlI.at (h:PlI ts O k pl tk Y) (y:O.Pairwise (·<·)) (v:O[k]? = some (n:Int)) (m:ts[n]? = some t):tk[n]? = some t:=by
  have A:n<tk.length:=by rw[h.tl];exact (yab_.1 m).1
  have d:tk[n]? = some tk[n]:=yaa_ A;obtain⟨C,G,E,F,B,x⟩:=h.tkk n t _ m d;rw[yaf_ (xM_ y v)]at x;rw[d];generalize tk[n]=u at *
  cases u;cases t;simp_all
theorem PlI.place (h:PlI ts O k pl tk Y) (B:O.Pairwise (·<·)) (x:O[k]? = some (n:Int)) (y:n<ts.length) {m:Int} (hm:m∈O) (E:0<=m) (A:m<n):(pl.set n (k:Int))[m.toNat]? = some (pix O m):=by
 rw[ych_ zaa_];have hi:=ycN_.2 hm;have v:O[O.idxOf m]? = some m:=by rw[yaa_ hi,ydh_]
 refine h.plc _ m ?_ v
 by_cases C:O.idxOf m<k
 .exact C
 exfalso
 have d:=(yab_.1 x).1
 by_cases e:O.idxOf m=k
 .rw[e,x]at v;cases v;omega
 have:=yaN_.1 B k (O.idxOf m) d hi zaa_;rw[yaa_ d]at x;rw[yaa_ hi]at v;simp only[yam_]at x v;omega
theorem PlI.step (h:PlI ts O k pl tk Y) (K:O.Pairwise (·<·)) (G:∀ x∈O,0<=x) (v:O[k]? = some (n:Int)) (N:ts[n]? = some t):PlI ts O (k+1) (pl.set n (k:Int)) (tk.set n ⟨t.rule,t.fact,t.piece,t.ad,t.cap,t.frm.map (pix O)⟩) (Y++[⟨t.rule,t.fact,t.piece,t.ad,t.cap,t.frm.map (pix O)⟩]):=by
 have A:=(yab_.1 N).1;have m:=(yab_.1 v).1;have I:O.take (k+1)=O.take k++[(n:Int)]:=by rw[yao_,v];rfl
 have F:∀ (j:Nat) q,j<k->O[j]? = some q->q≠(n:Int):=λj q Q d e=>by
   subst e;have:=(ydo_ (yab_.1 d).1 (kV_ K)).1 (d.trans v.symm);omega
 refine⟨by rw[yaT_];exact h.pln,λj q Q d=>?_,by rw[yaT_];exact h.tl,λi u V M y=>?_,by simp[h.yl],λj q Q d=>?_⟩
 .by_cases e:j=k
  .subst e;rw[v]at d;cases d
   simp only[ybw_];rw[ybT_ (by rw[h.pln];exact A)]
  have H:=F j q zaa_ d;have J:=G q (yac_ d);have T:=h.plc j q zaa_ d
  by_cases P:q.toNat=n
  .rw[P,ybT_ (by rw[h.pln];exact A)]
   exfalso
   have B:=yaN_.1 K j k (yab_.1 d).1 m zaa_;rw[yaa_ m]at v;rw[yaa_ (yab_.1 d).1]at d;simp only[yam_]at v d;rw[v,d]at B;omega
  rw[ych_ zaa_];exact T
 .rw[I]
  by_cases e:n=i
  .subst e
   rw[ybT_ (by rw[h.tl];exact A)]at y;rw[N]at M;cases M;cases y;exact⟨rfl,rfl,rfl,rfl,rfl,by rw[yaq_ zai_]⟩
  rw[ych_ e]at y;obtain⟨W,U,X,Z,R,S⟩:=h.tkk i u V M y;refine⟨W,U,X,Z,R,?_⟩;rw[S]
  have:(i:Int)∈O.take k++[(n:Int)]↔(i:Int)∈O.take k:=by
    rw[yag_,yak_];exact or_iff_left zaa_
  simp only[this]
 by_cases e:j=k
 .subst e;rw[v]at d;cases d
  simp only[ybw_];rw[yaG_ (by rw[h.yl];exact yae_ _),h.yl,ycP_,ybT_ (by rw[h.tl];exact A)];rfl
 rw[yaK_ (by rw[h.yl];omega),h.yy j q zaa_ d];have H:=F j q zaa_ d;have J:=G q (yac_ d);have B:=yaN_.1 K j k (yab_.1 d).1 m zaa_;have E:=d;have C:=v;rw[yaa_ m]at C;rw[yaa_ (yab_.1 d).1]at E;simp only[yam_]at C E;rw[C,E]at B
 by_cases P:q.toNat=n
 .exfalso;omega
 rw[ych_ zaa_]
end
end Go.Vs
namespace Go.Vs
open Go Go.Sx
theorem PlI.sub {ts tk Y:List Stp} {O pl:List Int} {k:Nat} (h:PlI ts O k pl tk Y) (A:k<=O.length):∀ y∈Y,y∈tk:=λy x=>by
  obtain⟨j,m⟩:=yaU_ x;have d:j<k:=by rw[<-h.yl];exact (yab_.1 m).1
  have v:O[j]? = some (O[j]'zaa_):=yaa_ zaa_;have:=h.yy j _ d v;rw[m]at this;exact yac_ this.symm
inductive NdS (l:List Stp):Nat->Prop
  | last {s:Stp} (h:l[l.length - 1]? = some s):NdS l (cr_ l s)
  | step {m:Nat} {s t:Stp} {q:Int} (hm:NdS l m) (hs:l[m]? = some s) (hq:q∈s.frm) (ht:l[q.toNat]? = some t):NdS l (cr_ l t)
structure TrimR (l Y:List Stp) (O:List Int):Prop where
  inc:O.Pairwise (·<·)
  nat:∀ x∈O,∃ n:Nat,x=n/\NdS l n
  all:∀ n,NdS l n->(n:Int)∈O
  len:Y.length=O.length
  step:∀ (j n:Nat) s y,O[j]? = some (n:Int)->l[n]? = some s->Y[j]? = some y->y.rule=s.rule/\y.fact=s.fact/\y.piece=s.piece/\y.frm=s.frm.map λq=>pix O (hF l q)
def TrimIs (l Y:List Stp):Prop:=∃ O,TrimR l Y O
theorem pz_ {l:List Stp} {n:Nat} (h:NdS l n):n<l.length:=by
  cases h with
  | last h=>exact mm_ (yac_ h)
  | step hm hs hq ht=>exact mm_ (yac_ ht)
theorem xm_ {l:List Stp} {m:Stp} (d:∀ (i:Nat) s,l[i]? = some s->∀ q∈s.frm,0<=q/\q<(i:Int)) (v:l[l.length - 1]? = some m) {n:Nat} (h:NdS l n):n<=cr_ l m:=by
  induction h with
  | last h=>rw[v]at h;cases h;exact yae_ _
  | step hm hs hq ht ih =>
    have x:=d _ _ hs _ hq;have y:=pM_ ht;omega
theorem xn_ {l ts:List Stp} {A:Stp} (h:TsI l ts l.length) (d:∀ (i:Nat) s,l[i]? = some s->∀ q∈s.frm,0<=q/\q<(i:Int)) (C:l[l.length - 1]? = some A) (n:Nat):Nd (ts.take (cr_ l A+1)) n↔NdS l n:=by
 have K:=mm_ (yac_ C);have E:(ts.take (cr_ l A+1)).length=cr_ l A+1:=by rw[yat_,h.len];omega
 have y:∀ (m:Nat) s,m<=cr_ l A->l[m]? = some s->∃ t,(ts.take (cr_ l A+1))[m]? = some t/\t.frm=s.frm.map (hF l):=λm s hm x=>by
   have v:=(yab_.1 x).1;have F:ts[m]? = some (ts[m]'(by rw[h.len];exact v)):=yaa_ _;exact⟨_,by rw[yaM_ zaa_];exact F,(h.done m s _ v x F).2.2.2⟩
 constructor
 .intro I
  induction I with
  | last hl=>rw[E]at hl;have e:cr_ l A=_:=Nat.succ.inj hl;rw[<-e];exact .last C
  | @step m n t hm F hq ih =>
    have v:m<l.length:=pz_ ih;have x:l[m]? = some l[m]:=yaa_ v;obtain⟨N,G,H⟩:=y m _ (xm_ d C ih) x;rw[F]at G;cases G;rw[H]at hq;obtain⟨r,J,e⟩:=yas_.1 hq;have P:=d m _ x r J;have B:l[r.toNat]? = some (l[r.toNat]'zaa_):=yaa_ zaa_;rw[rF_ B]at e;have M:cr_ l _=n:=Int.ofNat.inj e;rw[<-M];exact .step ih x J B
 intro I
 induction I with
 | last hl=>rw[C]at hl;cases hl;exact .last E
 | @step m s u q hm x hq hu ih =>
   obtain⟨t,G,H⟩:=y m s (xm_ d C hm) x;refine .step ih G ?_;rw[H];exact yas_.2 ⟨q,hq,rF_ hu⟩
theorem PlI.done {l ts tk Y:List Stp} {O pl:List Int} {H:Stp} (h:PlI ts O O.length pl tk Y) (B:TsI l ts l.length) (d:∀ (i:Nat) s,l[i]? = some s->∀ q∈s.frm,0<=q/\q<(i:Int)) (M:l[l.length - 1]? = some H) (G:O.Pairwise (·<·)) (F:∀ x∈O,∃ n:Nat,x=n/\Nd (ts.take (cr_ l H+1)) n) (J:∀ n,Nd (ts.take (cr_ l H+1)) n->(n:Int)∈O):TrimR l Y O:=by
 refine⟨G,λx C=>?_,λn T=>J n ((xn_ B d M n).2 T),h.yl,λj n s y I K S=>?_⟩
 .obtain⟨n,e,v⟩:=F x C;exact⟨n,e,(xn_ B d M n).1 v⟩
 have E:=(yab_.1 I).1;have A:=(yab_.1 K).1;have v:=h.yy j _ E I;simp only[ybw_]at v;rw[S]at v;have m:ts[n]? = some (ts[n]'(by rw[B.len];exact A)):=yaa_ _;obtain⟨U,Q,V,W⟩:=B.done n s _ A K m;obtain⟨R,P,X,_,_,N⟩:=h.tkk n _ _ m v.symm;refine⟨R.trans U,P.trans Q,X.trans V,?_⟩;rw[N,ybS_,yaq_ (yac_ I),W,ycO_];rfl
end Go.Vs
namespace Go.Proofs.YtfjcabalehamcaaGreatDoor
open Go Go.Sx Go.Proofs Tryz
attribute [local irreducible] Code.wp wpList wpAnyH
open Go.Vs
theorem tM_:fH_ prog 119 [(0,1)] [.slice none 0 0]:=⟨_,oe_,runUnderlying119,λw=>by simp[wy_]⟩
theorem KnI.recR {l:List Stp} {i:Nat} {ks:List Fc} {vs:List Int} {s:Stp} {m:Int} (h:KnI l i ks vs) (hl:vs.length=ks.length) (v:l[i]? = some s) (hm:RecR ks vs s.fact (i:Int) m):KnI l (i+1) (if s.fact∈ks then ks else ks++[s.fact]) (if s.fact∈ks then vs else vs++[(i:Int)])/\m=(cr_ l s:Int):=by
 by_cases d:s.fact∈ks
 .rw[yaq_ d,yaq_ d];exact h.old v d (hm.1 d)
 rw[yaf_ d,yaf_ d];obtain⟨y,x⟩:=h.new hl v d;exact⟨y,(hm.2 d).trans x⟩
theorem jH_ {G:Prop} (h:G:=by
 refine t_ fc_ (Zz 14 ?_);exact C_ ⟨(k+1,(List.set (List.set M k d) (Int.toNat ((List.length L:Int) - 1 - (k:Int))) v),A,E),(by have q:=W.step I (show M[List.length L - 1 - k]? = some d from by rw[show L.length - 1 - k=(Int.toNat ((List.length L:Int) - 1 - (k:Int))) by omega];exact B) x;rw[show L.length - 1 - k=(Int.toNat ((List.length L:Int) - 1 - (k:Int))) by omega]at q;exact q),Q,G⟩ zab_ ⟨rfl,rfl,(bd_ rfl zab_),trivial⟩ af_ zt):G:=h
theorem st_ (L:List Int) (sv:Value) (Hr:Hp) (Y:zR 3 1 aY_ sv L Hr) (hl:L.length<=1000000000):Tri prog 167 #[sv] Hr [] (λ_:{H:Hp // zR 3 1 aY_ sv L.reverse H}=>.tuple #[]) (λy=>y.1) (λ_=>[]):=by
 refine g_ func167 rfl rfl ntmps167 rfl λa0=>?_;refine Zz 3 ?_;refine e_ (bU_ Y J_ rfl) rfl (Zz 6 ?_);refine bh_ [(0,sv),(2,i4_ 0),(3,i4_ ((List.length L:Int) - 1 - ((0:Nat):Int)))] ⟨rfl,rfl,(bd_ rfl zaa_),trivial⟩ ?_;refine I_ (ι:={y:Nat×List Int×Value×Hp // RevI L y.2.1 y.1/\y.2.2.1=sv/\zR 3 1 aY_ y.2.2.1 y.2.1 y.2.2.2}) (λy=>[(0,y.1.2.2.1),(2,i4_ y.1.1),(3,i4_ ((List.length L:Int) - 1 - (y.1.1:Int)))]) (λy=>(y.1.2.2.2)) (λy=>[]) (λy=>L.length - y.1.1) ⟨((0:Nat),L,sv,Hr),RevI.zero L,rfl,Y⟩ zl af_ zt ?_;rintro ⟨⟨k,M,A,X⟩,W,Q,m⟩;dsimp only at W Q m ⊢;refine Zi 5 (λF=>?_) λF=>?_
 .refine Zz 5 ?_
  have eM:=W.done F;subst eM;rw[Q]at m;exact bK_ results167 ⟨X,m⟩ rfl af_ zt
 have I:=F;have Z:=W.len;have U:(Int.toNat ((List.length L:Int) - 1 - (k:Int)))<M.length:=by omega
 obtain⟨d,B⟩:∃ R,M[(Int.toNat ((List.length L:Int) - 1 - (k:Int)))]? = some R:=⟨_,yaa_ U⟩;have T:k<M.length:=by omega
 obtain⟨v,x⟩:∃ R,M[k]? = some R:=⟨_,yaa_ T⟩;refine Zz 7 ?_;refine V_ ([]) zk ?_;refine s_ 6 [0,1,2,3,4,5,6,8,9,10] zk zs (Zz 6 ?_);refine S_ rfl (aE_ m J_ K_ rfl rfl zaa_ zaa_) rfl (Zz 2 ?_);refine S_ rfl (aE_ m J_ K_ rfl rfl zaa_ zaa_) rfl (bt_ ?_);refine do_ 7 11 rfl rfl zk ?_ ?_
 .refine e_ (bA_ m af_ au_ rfl (y_ bx_ B 0 _ rfl)) rfl (Zz 3 ?_)
  refine l_ 11 rfl zk (e_ (bA_ m af_ au_ rfl (y_ bx_ x 0 _ rfl)) rfl (Zz 3 ?_));refine s_ 3 [12] zk zs (S_ rfl (aE_ m J_ K_ rfl rfl zaa_ zaa_) rfl (bt_ (l_ 13 rfl zk (cv_ (k:=(k:Int).toNat*1+0) m af_ K_ rfl rfl zaa_ rfl rfl λO F=>?_))));have K:=(ek_ aY_ 1 bx_ M k 0 v d (i4_ d) x zac_ rfl).trans (yah_ _ (rfl));have C:ad_ 3 1 A (List.set M k d).length (List.flatMap aY_ (List.set M k d)) O:=by rw[<-K,show List.length (List.set M k d)=M.length from (yaT_ ..)];exact F
  refine t_ fc_ (Zz 3 ?_);refine l_ 14 rfl zk ?_;have J:(List.set M k d)[(Int.toNat ((List.length L:Int) - 1 - (k:Int)))]? = some d:=by rw[ych_ zaa_];exact B
  have S:(Int.toNat ((List.length L:Int) - 1 - (k:Int)))<List.length (List.set M k d):=by rw[yaT_];omega
  refine e_ (aE_ C J_ K_ rfl rfl zaa_ zaa_) rfl (Zz 3 ?_);refine l_ 15 rfl zk (cv_ (k:=((Int.toNat ((List.length L:Int) - 1 - (k:Int))):Int).toNat*1+0) C af_ K_ rfl rfl zaa_ rfl rfl λE P=>?_);have N:=(ek_ aY_ 1 bx_ (List.set M k d) (Int.toNat ((List.length L:Int) - 1 - (k:Int))) 0 d v (i4_ v) J zac_ rfl).trans (yah_ _ (rfl));have G:ad_ 3 1 A (List.length (List.set (List.set M k d) (Int.toNat ((List.length L:Int) - 1 - (k:Int))) v)) (List.flatMap aY_ (List.set (List.set M k d) (Int.toNat ((List.length L:Int) - 1 - (k:Int))) v)) E:=by rw[<-N,show List.length (List.set (List.set M k d) (Int.toNat ((List.length L:Int) - 1 - (k:Int))) v)=List.length (List.set M k d) from (yaT_ ..)];exact P
  exact jH_
 refine e_ (bA_ m af_ au_ rfl (y_ bx_ x 0 _ rfl)) rfl (Zz 3 ?_);refine l_ 7 rfl zk (e_ (bA_ m af_ au_ rfl (y_ bx_ B 0 _ rfl)) rfl (Zz 3 ?_));refine s_ 3 [12] zk zs (S_ rfl (aE_ m J_ K_ rfl rfl zaa_ zaa_) rfl (bt_ (l_ 13 rfl zk (cv_ (k:=(k:Int).toNat*1+0) m af_ K_ rfl rfl zaa_ rfl rfl λO P=>?_))));have K:=(ek_ aY_ 1 bx_ M k 0 v d (i4_ d) x zac_ rfl).trans (yah_ _ (rfl));have C:ad_ 3 1 A (List.set M k d).length (List.flatMap aY_ (List.set M k d)) O:=by rw[<-K,show List.length (List.set M k d)=M.length from (yaT_ ..)];exact P
 refine t_ fc_ (Zz 3 ?_);refine l_ 14 rfl zk ?_;have J:(List.set M k d)[(Int.toNat ((List.length L:Int) - 1 - (k:Int)))]? = some d:=by rw[ych_ zaa_];exact B
 have S:(Int.toNat ((List.length L:Int) - 1 - (k:Int)))<List.length (List.set M k d):=by rw[yaT_];omega
 refine e_ (aE_ C J_ K_ rfl rfl zaa_ zaa_) rfl (Zz 3 ?_);refine l_ 15 rfl zk (cv_ (k:=((Int.toNat ((List.length L:Int) - 1 - (k:Int))):Int).toNat*1+0) C af_ K_ rfl rfl zaa_ rfl rfl λE V=>?_);have N:=(ek_ aY_ 1 bx_ (List.set M k d) (Int.toNat ((List.length L:Int) - 1 - (k:Int))) 0 d v (i4_ v) J zac_ rfl).trans (yah_ _ (rfl));have G:ad_ 3 1 A (List.length (List.set (List.set M k d) (Int.toNat ((List.length L:Int) - 1 - (k:Int))) v)) (List.flatMap aY_ (List.set (List.set M k d) (Int.toNat ((List.length L:Int) - 1 - (k:Int))) v)) E:=by rw[<-N,show List.length (List.set (List.set M k d) (Int.toNat ((List.length L:Int) - 1 - (k:Int))) v)=List.length (List.set M k d) from (yaT_ ..)];exact V
 exact jH_
theorem vp_ {σ:Type} {l:Nat} {Z:σ->Hp} {lst:σ->List Int} (hY:∀ s x,(lst s).length<1000000000000->kB_ prog l (i4_ x) (Z s) [] (λ_:{M:σ // lst M=lst s++[x]}=>.bool true) (λM=>Z M.1) (λ_=>[])) (s0:σ) (hs0:lst s0=[]) (us ts:List Stp) (C:Ao) (G P:Nat) (HF:Hp) (a3:us≠[]) (E:∀ (i:Nat) s,us[i]? = some s->∀ q∈s.frm,0<=q/\q<(i:Int)) (htk:∀ (n:Nat) s,us[n]? = some s->ts[n]? = some s) (ho:mg_ 3 ts HF) (hul:us.length<=1000000) (hfl:∀ s∈us,s.frm.length<=1000000):Tri prog 218 #[.func (.yield l) #[] #[],zp_ P 0] ((P,.cells #[.slice C us.length G] 117 (0,0))::(HF++Z s0)) [L_ C (us.flatMap Stp.cells)] (λ_:{M:σ // NdL us (lst M)}=>.tuple #[]) (λM=>(P,.cells #[.slice C us.length G] 117 (0,0))::(HF++Z M.1)) (λ_=>[]):=by
 refine g_ func218 rfl rfl ntmps218 rfl λv_1=>?_;refine Zz 4 ?_;refine fn_ (n:=us.length) (by':=1) underlying33 (z:=(.bool false)) zk rfl zac_ rfl rfl zaa_ zaj_ rfl λsvB HrB hrB=>?_;have a5:ad_ 4 1 svB (List.replicate us.length false).length (List.flatMap eJ_ (List.replicate us.length false)) HrB:=by rw[ycb_,<-gH_ eJ_];exact hrB
 refine Zz 3 ?_;refine t_ (be_ (j_ d_)) (Zz 6 ?_);have hup:0<us.length:=ycj_.2 a3;have V:(Int.toNat ((List.length us:Int) - 1))<List.length (List.replicate us.length false):=by rw[ycb_];omega
 obtain⟨w_1,b0⟩:∃ H,(List.replicate us.length false)[(Int.toNat ((List.length us:Int) - 1))]? = some H:=⟨_,yaa_ V⟩;refine e_ (aE_ a5 dc_ co_ rfl rfl zaa_ zaa_) rfl (cv_ (k:=((Int.toNat ((List.length us:Int) - 1)):Int).toNat*1+0) a5 zp co_ rfl rfl zaa_ rfl rfl λT K=>?_);have A:=(ek_ eJ_ 1 dR_ (List.replicate us.length false) (Int.toNat ((List.length us:Int) - 1)) 0 w_1 true (.bool true) b0 zac_ rfl).trans (yah_ _ (rfl));have hq_1:ad_ 4 1 svB (List.length (List.set (List.replicate us.length false) (Int.toNat ((List.length us:Int) - 1)) true)) (List.flatMap eJ_ (List.set (List.replicate us.length false) (Int.toNat ((List.length us:Int) - 1)) true)) T:=by rw[<-A,show List.length (List.set (List.replicate us.length false) (Int.toNat ((List.length us:Int) - 1)) true)=List.length (List.replicate us.length false) from (yaT_ ..)];exact K
 refine Zz 2 ?_;refine t_ (be_ (j_ d_)) (Zz 9 ?_);have a8:List.set (List.replicate us.length false) (Int.toNat ((List.length us:Int) - 1)) true=(List.replicate us.length false).set (us.length - 1) true:=by rw[show (Int.toNat ((List.length us:Int) - 1))=us.length - 1 by omega]
 refine I_ (ι:={y:Int×List Bool×σ×Value×Hp // (-1<=y.1/\y.1<(List.length us:Int))/\MkI us y.2.1 (y.1+1).toNat (lst y.2.2.1)/\zR 4 1 eJ_ y.2.2.2.1 y.2.1 y.2.2.2.2}) (λy=>[(0,.func (.yield l) #[] #[]),(1,zp_ P 0),(3,y.1.2.2.2.1),(4,i4_ y.1.1)]) (λy=>((P,.cells #[.slice C us.length G] 117 (0,0))::(HF++((Z y.1.2.2.1)++y.1.2.2.2.2)))) (λy=>[L_ C (us.flatMap Stp.cells)]) (λy=>(y.1.1+1).toNat) ⟨(((List.length us:Int) - 1),(List.set (List.replicate us.length false) (Int.toNat ((List.length us:Int) - 1)) true),s0,svB,T),by omega,(by rw[show (((List.length us:Int) - 1)+1).toNat=us.length by omega,hs0,a8];exact MkI.start E a3),hq_1⟩ zl zp zh ?_;rintro ⟨⟨z,bs,s,v,J⟩,hz,hM,d⟩;dsimp only at hz hM d ⊢;refine Zi 4 (λK=>?_) λK=>?_
 .refine Zz 5 ?_
  have q:=hM;rw[show (z+1).toNat=0 by omega]at q;exact bK_ results218 ⟨s,q.done⟩ rfl zp zt
 obtain⟨n,rfl⟩:∃ n:Nat,z=n:=⟨z.toNat,by omega⟩;have F:MkI us bs (n+1) (lst s):=by have q:=hM;rwa [show ((n:Int)+1).toNat=n+1 by omega]at q
 have hnl:n<us.length:=by omega
 have hbl:=F.len;have Y:n<us.length:=hnl;obtain⟨m,A⟩:∃ H,us[n]? = some H:=⟨_,yaa_ Y⟩;have a0:m∈us:=yac_ A;have a1:n<bs.length:=by omega
 obtain⟨w_2,I⟩:∃ H,bs[n]? = some H:=⟨_,yaa_ a1⟩;have hmw_1:w_2∈bs:=yac_ I;refine Zz 12 ?_;refine e_ (aE_ d dc_ co_ rfl rfl zaa_ zaa_) rfl (e_ (bA_ d zp oP_ rfl (y_ dR_ I 0 _ rfl)) rfl (e_ (aH_ rfl) rfl (Zz 2 ?_)));cases w_2
 .refine Zz 9 ?_
  exact C_ ⟨(((n:Int) - 1),bs,s,v,J),by omega,(by rw[show ((n:Int) - 1+1).toNat=n by omega];exact F.miss E I),d⟩ zab_ zl zp zh
 refine Zz 5 ?_;obtain⟨Hs_1,Hr_2,Q,L,_⟩:=ho.get (htk n m A);refine t_ (List.Perm.trans (c_ x_) (Q.append_right _)) (t_ (ydz_ (yap_ ..)) (t_ (be_ (j_ (j_ d_))) (Zz 6 ?_)));refine e_ (bU_ L J_ rfl) rfl (Zz 4 ?_);refine I_ (ι:={y:Nat×List Bool×Value×Hp // y.1<=List.length m.frm/\y.2.1.length=bs.length/\(∀ q:Nat,y.2.1[q]? = some true↔bs[q]? = some true\/(q:Int)∈m.frm.take y.1)/\zR 4 1 eJ_ y.2.2.1 y.2.1 y.2.2.2}) (λy=>[(0,.func (.yield l) #[] #[]),(1,zp_ P 0),(3,y.1.2.2.1),(4,i4_ n),(31,(.slice m.ad m.frm.length m.cap)),(32,i4_ (List.length m.frm:Int)),(33,i4_ y.1.1)]) (λy=>((P,.cells #[.slice C us.length G] 117 (0,0))::(Hs_1++(Hr_2++((Z s)++y.1.2.2.2))))) (λy=>[L_ C (us.flatMap Stp.cells)]) (λy=>m.frm.length - y.1.1) ⟨((0:Nat),bs,v,J),by simp,rfl,by simp,d⟩ zl zp zh ?_;rintro ⟨⟨j,cs,v,J⟩,hj,a2,U,d⟩;dsimp only at hj a2 U d ⊢;have hfj:=hfl m a0;refine Zi 2 (λO=>?_) λO=>?_
 .refine Zz 7 ?_
  have e_2:List.take j m.frm=Stp.frm m:=yad_ zaa_;have a6:MkI us cs n (lst s++[(n:Int)]):=F.hit E I A a2 (λq=>by have a7:=U q;rw[e_2]at a7;exact a7);refine t_ (List.Perm.trans (G_ (c_ x_) (c_ x_)) (Q.symm.append_right _)) (t_ (be_ (j_ d_)) ?_);refine jT_ (ι:={M:σ // lst M=lst s++[(n:Int)]}) (λ_=>[(0,.func (.yield l) #[] #[]),(1,zp_ P 0),(3,v),(4,i4_ n),(44,.bool false)]) (λz=>((P,.cells #[.slice C us.length G] 117 (0,0))::(HF++(J++(Z z.1))))) (λ_=>[L_ C (us.flatMap Stp.cells)]) ?_ ?_
  .refine bz_ ?_
   refine bk_ cl_ (aV_ rfl) rfl rfl ?_;refine bk_ cl_ (aV_ rfl) rfl rfl ?_;refine hw_ (hY s (n:Int) (by have:=F.llen E;omega)) rfl rfl (c_ (j_ x_)) zt rfl λz=>?_;refine bk_ cl_ (aH_ rfl) rfl rfl ?_;refine cA_ ?_;refine du_ rfl ?_;exact eo_ z zl zp zh
  rintro ⟨M,hs'⟩;dsimp only;refine Zz 10 ?_;exact C_ ⟨(((n:Int) - 1),cs,M,v,J),by omega,(by rw[show ((n:Int) - 1+1).toNat=n by omega,hs'];exact a6),d⟩ zab_ zl zp zh
 obtain⟨W,B,S,X⟩:=zge (show j<m.frm.length by omega);refine Zz 10 ?_;refine e_ (aE_ L J_ K_ rfl rfl zaa_ zaa_) rfl (e_ (bA_ L zp au_ rfl (y_ bx_ S 0 _ rfl)) rfl (Zz 6 ?_));have a4:=E n m A B X;have N:(Int.toNat B)<cs.length:=by have:=F.len;omega
 obtain⟨w_3,hw_3⟩:∃ H,cs[(Int.toNat B)]? = some H:=⟨_,yaa_ N⟩;refine e_ (aE_ d dc_ co_ rfl rfl zaa_ zaa_) rfl (cv_ (k:=((Int.toNat B):Int).toNat*1+0) d zp co_ rfl rfl zaa_ rfl rfl λR O=>?_);have hs_3:=(ek_ eJ_ 1 dR_ cs (Int.toNat B) 0 w_3 true (.bool true) hw_3 zac_ rfl).trans (yah_ _ (rfl));have a9:ad_ 4 1 v (List.set cs (Int.toNat B) true).length (List.flatMap eJ_ (List.set cs (Int.toNat B) true)) R:=by rw[<-hs_3,show List.length (List.set cs (Int.toNat B) true)=cs.length from (yaT_ ..)];exact O
 refine Zz 2 ?_;refine t_ (be_ (j_ d_)) (Zz 5 ?_);exact C_ ⟨(j+1,(List.set cs (Int.toNat B) true),v,R),W,by rw[yaT_];exact a2,sL_ U S a4.1 N,a9⟩ zab_ zl zp zh
end Go.Proofs.YtfjcabalehamcaaGreatDoor
namespace Go.Vs
open Go Go.Sx
theorem iQ_ {α:Type} [DecidableEq α] {l:List α} (h:l.Nodup) {i:Nat} {x:α} (B:l[i]? = some x):l.idxOf x=i:=by
 obtain⟨hi,rfl⟩:=yab_.1 B;have d:l.idxOf l[i]<l.length:=List.idxOf_lt_length_of_mem (ycm_ hi);have m:l[l.idxOf l[i]]=l[i]:=ydh_ d;have v:=yaN_.1 h
 by_cases e:l.idxOf l[i]=i
 .exact e
 by_cases y:l.idxOf l[i]<i
 .exact absurd m (v _ _ d hi y)
 exact absurd m.symm (v _ _ hi d zaa_)
theorem kl_ {l:List Stp} (h:(fcs l).Nodup) {i:Nat} {s:Stp} (d:l[i]? = some s):cr_ l s=i:=iQ_ h (by simp[fcs,d])
theorem hF_nd {l:List Stp} (h:(fcs l).Nodup) {q:Int} (m:0<=q) (v:q<l.length):hF l q=q:=by
  have d:l[q.toNat]? = some (l[q.toNat]'zaa_):=yaa_ zaa_;rw[rF_ d,kl_ h d];omega
theorem zz_ {O:List Int} (h:O.Pairwise (·<·)) {j:Nat} {x:Int} (d:O[j]? = some x):pix O x=(j:Int):=by unfold pix;rw[iQ_ (kV_ h) d]
theorem inc_lt {O:List Int} (h:O.Pairwise (·<·)) {i j:Nat} {x y:Int} (C:O[i]? = some x) (v:O[j]? = some y) (d:x<y):i<j:=by
 obtain⟨hi,rfl⟩:=yab_.1 C;obtain⟨m,rfl⟩:=yab_.1 v
 by_cases e:i<j
 .exact e
 by_cases B:i=j
 .subst B;omega
 have:=(yaN_.1 h) j i m hi zaa_;omega
theorem qV_ {p:List Pc} {A:List Str} {f:Fc} {L:List Stp} (h:PrfL p A f L):∀ (i:Nat) s,L[i]? = some s->∀ q∈s.frm,0<=q/\q<(i:Int):=λi s d q m=>by
  have:=(h.cor i s d).prem q m;have hi:=(yab_.1 d).1;rw[yat_]at this;omega
theorem zu_ {p:List Pc} {A:List Str} {f:Fc} {L:List Stp} (h:PrfL p A f L):L≠[]:=λe=>by have:=h.last;rw[e]at this;simp[fcs]at this
theorem qW_ {p:List Pc} {A:List Str} {f:Fc} {L:List Stp} (h:PrfL p A f L):∃ s,L[L.length - 1]? = some s/\s.fact=f:=by
  have:=h.last;rw[List.getLast?_eq_getElem?,dn_]at this;simp only[fcs,yaH_]at this;cases hs:L[L.length - 1]? with
  | none=>rw[hs]at this;simp at this
  | some s=>rw[hs]at this;exact⟨s,rfl,by simpa using this⟩
section
variable {p:List Pc} {A:List Str} {f:Fc} {L Y:List Stp} {O:List Int}
theorem mI_ (h:TrimR L Y O) {j:Nat} {y:Stp} (m:Y[j]? = some y):∃ (n:Nat) (s:Stp),O[j]? = some (n:Int)/\NdS L n/\L[n]? = some s/\y.rule=s.rule/\y.fact=s.fact/\y.piece=s.piece/\y.frm=s.frm.map λq=>pix O (hF L q):=by
  have B:=(yab_.1 m).1;have d:O[j]? = some (O[j]'(by rw[<-h.len];exact B)):=yaa_ _;obtain⟨n,e,x⟩:=h.nat _ (yac_ d);rw[e]at d;have v:L[n]? = some (L[n]'(pz_ x)):=yaa_ _;exact⟨n,_,d,x,v,h.step j n _ y d v m⟩
theorem qx_ (h:TrimR L Y O) {n:Nat} {s:Stp} (B:NdS L n) (x:L[n]? = some s):∃ (j:Nat) (y:Stp),O[j]? = some (n:Int)/\Y[j]? = some y/\y.rule=s.rule/\y.fact=s.fact/\y.piece=s.piece/\y.frm=s.frm.map λq=>pix O (hF L q):=by
  obtain⟨j,d⟩:=yaU_ (h.all n B);have m:=(yab_.1 d).1;have v:Y[j]? = some (Y[j]'(by rw[h.len];exact m)):=yaa_ _;exact⟨j,_,d,v,h.step j n s _ d x v⟩
theorem sv_ (d:PrfL p A f L) {n:Nat} {s:Stp} (C:NdS L n) (m:L[n]? = some s) {q:Int} (v:q∈s.frm):hF L q=q/\NdS L q.toNat/\0<=q/\q<n:=by
  have x:=qV_ d n s m q v;have B:=(yab_.1 m).1;have y:L[q.toNat]? = some (L[q.toNat]'zaa_):=yaa_ zaa_;have:=NdS.step C m v y;rw[kl_ d.nd y]at this;exact⟨hF_nd d.nd x.1 zaa_,this,x⟩
theorem uE_ (x:PrfL p A f L) (h:TrimR L Y O):PrfL p A f Y:=by
 obtain⟨xl,v,hf⟩:=qW_ x;have d:=NdS.last v;rw[kl_ x.nd v]at d;refine⟨λj y M=>?_,?_,?_⟩
 .obtain⟨n,s,J,F,E,e1,K,e3,e4⟩:=mI_ h M
  rw[e1,K,e3,e4];refine Cor.map (h:=x.cor n s E) λm y hm H=>?_;obtain⟨g1,R,g3,g4⟩:=sv_ x F E hm;rw[g1];rw[ybw_]at R;have N:m<n:=by omega
  obtain⟨t,C,X⟩:=H;rw[yaM_ N]at C;obtain⟨k,z,S,Z,_,W,_⟩:=qx_ h R C;exact⟨k,zz_ h.inc S,z,by rw[yaM_ (inc_lt h.inc S J zaa_)];exact Z,W.trans X⟩
 .obtain⟨j,y,B,M,_,y2,_⟩:=qx_ h d v
  have I:=(yab_.1 B).1
  have e:j=Y.length - 1:=by
    rw[h.len];have U:O[O.length - 1]? = some (O[O.length - 1]'zaa_):=yaa_ zaa_;obtain⟨n,en,F⟩:=h.nat _ (yac_ U);have:=pz_ F
    by_cases e:j<O.length - 1
    . have:=(yaN_.1 h.inc) j (O.length - 1) I zaa_ e
      have ej:=(yab_.1 B).2;omega
    . omega
  subst e;rw[List.getLast?_eq_getElem?,dn_];simp only[fcs,yaH_,M,yaX_,y2,hf]
 refine yaN_.2 λi j hi B V=>?_;rw[dn_]at hi B;obtain⟨n,s,J,F,E,_,K,_⟩:=mI_ h (yaa_ hi);obtain⟨m,t,P,hm,C,_,G,_⟩:=mI_ h (yaa_ B);simp only[fcs,ycK_];rw[K,G];intro e;have Q:=kl_ x.nd E;have T:=kl_ x.nd C;unfold cr_ at Q T;rw[e,T]at Q;subst Q;have b1:=iQ_ (kV_ h.inc) J;have b2:=iQ_ (kV_ h.inc) P;omega
theorem wi_ (h:TrimR L Y O):Y.length<=L.length:=by
  have d:∀ x∈O,x∈(List.range L.length).map Int.ofNat:=λx m=>by
    obtain⟨n,e,v⟩:=h.nat x m;exact yas_.2 ⟨n,ybY_.2 (pz_ v),e.symm⟩
  have:=ez_ (kV_ h.inc) d;rw[h.len];simpa using this
end
end Go.Vs
namespace Go.Proofs.YtfjcabalehamcaaGreatDoor
open Go Go.Sx Go.Proofs Tryz
attribute [local irreducible] Code.wp wpList wpAnyH
open Go.Vs
theorem strt51:fH_ prog 51 [(0,1),(1,1),(2,5),(7,5),(12,1),(13,1),(14,1),(15,1)] [i4_ 0,.bool false,i4_ 0,str [],i4_ 0,i4_ 0,.slice none 0 0,i4_ 0,str [],i4_ 0,i4_ 0,.slice none 0 0,.slice none 0 0,str [],str [],str []]:=⟨_,aK_,runUnderlying51,λw=>by simp[K_,co_,U_,ft_,D_]⟩
end Go.Proofs.YtfjcabalehamcaaGreatDoor
namespace Go.Sx
open Go
section
variable {K:Type} [DecidableEq K] {kv:K->Value}
structure KeyE (kv:K->Value) (es:Array MapEntry) (q:List K):Prop where
  keys:es.toList.map (·.key)=q.map kv
  nd:q.Nodup
theorem KeyE.nil:KeyE kv #[] ([]:List K):=⟨rfl,ybZ_⟩
theorem KeyE.ofKey {es:Array MapEntry} {q:List K} (hE:KeyE kv es q) {e:MapEntry} (m:e∈es.toList):∃ k∈q,e.key=kv k:=by
  have:e.key∈es.toList.map (·.key):=yaI_ m;rw[hE.keys]at this;obtain⟨k,d,h⟩:=yas_.1 this;exact⟨k,d,h.symm⟩
theorem KeyE.entry {es:Array MapEntry} {q:List K} (hE:KeyE kv es q) (hi:∀ x y,kv x=kv y->x=y) {x e:MapEntry} (F:x∈es.toList) (E:e∈es.toList) (h:x.key=e.key):x=e:=by
 obtain⟨i,v,d⟩:=ycL_ F;obtain⟨j,A,m⟩:=ycL_ E
 have B:(es.toList.map (·.key)).Nodup:=by
   rw[hE.keys];unfold List.Nodup;rw[ycE_];exact ycW_ (fun {a b} hab e=>hab (hi _ _ e)) hE.nd
 have C:i=j:=by
   rcases Nat.lt_trichotomy i j with g|g|g
   . exact ((yaN_.1 B i j zaZ_ zba_ g) (by simp only[ycK_,d,m,h])).elim
   . exact g
   . exact ((yaN_.1 B j i zba_ zaZ_ g) (by simp only[ycK_,d,m,h])).elim
 subst C;rw[<-d,<-m]
theorem ItS.stepK {es:Array MapEntry} {q:List K} {c:Nat} {m:Array Nat} {done:List K} {e:MapEntry} (hi:∀ x y,kv x=kv y->x=y) (hE:KeyE kv es q) (hB:Born es c) (h:ItS kv es m done) (M:e∈(leftOf es m).toList) :
    ∃ k,k∈q/\k ∉ done/\e.key=kv k/\e∈es.toList/\ItS kv es (m.push e.born) (done++[k]):=by
  unfold leftOf at M;rw[Array.toList_filter,ybh_]at M;obtain⟨E,N⟩:=M;obtain⟨k,P,v⟩:=hE.ofKey E
  have I:k ∉ done:=λhm=>by
    have:=(h.mem e E).2 ⟨k,hm,v⟩;rw[this]at N;simp at N
  have same:∀ x∈es.toList,x.born=e.born->x=e:=λx J H=>by
    have O:=hB.nd;obtain⟨i,F,B⟩:=ycL_ J;obtain⟨j,G,C⟩:=ycL_ E
    have L:i=j:=by
      rcases Nat.lt_trichotomy i j with g|g|g
      . exact ((yaN_.1 O i j (by simpa using F) zbw_ g) (by simp only[ycK_,B,C,H])).elim
      . exact g
      . exact ((yaN_.1 O j i zbw_ (by simpa using F) g) (by simp only[ycK_,B,C,H])).elim
    subst L;rw[<-B,<-C]
  refine⟨k,P,I,v,E,⟨?_,λx J=>?_,λy d=>?_⟩⟩
  . rw[yaY_];exact⟨h.nd,by simp,λa R b H e=>by simp at H;subst H;subst e;exact I R⟩
  . rw[Array.contains_push,ybK_,h.mem x J,ydq_]
    constructor
    . rintro (⟨y,d,A⟩|Q)
      . exact⟨y,by simp[d],A⟩
      . have:=same x J Q
        exact⟨k,by simp,this▸v⟩
    . rintro ⟨y,d,A⟩
      rcases yag_.1 d with d|d
      . exact .inl ⟨y,d,A⟩
      . rw[yak_]at d
        subst d;exact .inr (yah_ MapEntry.born (hE.entry hi J E (A.trans v.symm)))
  . rcases yag_.1 d with d|d
    . exact h.sub y d
    . rw[yak_]at d
      subst d;exact⟨e,E,v⟩
theorem ItS.endK {es:Array MapEntry} {q:List K} {d:Array Nat} {done:List K} (hi:∀ x y,kv x=kv y->x=y) (hE:KeyE kv es q) (h:ItS kv es d done) (H:(leftOf es d).size=0):done.Perm q:=by
 refine (List.perm_ext_iff_of_nodup h.nd hE.nd).2 λk=>⟨λC=>?_,λC=>?_⟩
 .obtain⟨e,B,v⟩:=h.sub k C
  obtain⟨G,A,m⟩:=hE.ofKey B;exact hi _ _ (v.symm.trans m)▸A
 have:kv k∈es.toList.map (·.key):=by rw[hE.keys];exact yaI_ C
 obtain⟨e,B,v⟩:=yas_.1 this
 have E:d.contains e.born=true:=by
   cases hc:d.contains e.born
   . exfalso
     have:e∈(leftOf es d).toList:=by unfold leftOf;rw[Array.toList_filter,ybh_];exact⟨B,by simp only[hc];rfl⟩
     have F:=ycU_ this;simp only[ybU_]at F;omega
   . rfl
 obtain⟨G,A,m⟩:=(h.mem e B).1 E;exact hi _ _ (v.symm.trans m)▸A
end
end Go.Sx
namespace Go.Sx
open Go
section
variable {P:Program} {ops:Array Oper} {Q:Exit->Act->World->Prop}
end
section
variable {n:Nat} {P:Program} {N:Nat} {v0:Vw} {H0:Hp} {R:Exit->Act->World->Prop} {K:List Kt} {fr:Fr} {H:Hp} {Γ:List Fct} {ops:Array Oper}
instance {σ:Type} {Hj:σ->Hp} {ok:σ->Prop} {HL:Hp}:NoPan (tw_ v0 H0 Hj ok HL):=⟨λ_ _ _ _ _ h=>h⟩
end
end Go.Sx
namespace Go.Vs
open Go Go.Sx
structure Thg where
  kind:Int
  name:Str
deriving DecidableEq
def Thg.cells (t:Thg):List Value:=[.int .i64 t.kind,str t.name]
def sH_ (x:Pc):List Thg :=
  if x.kind=1\/x.kind=3\/x.kind=8 then [⟨1,x.a⟩]
  else if x.kind=2 then [⟨1,x.a⟩,⟨1,x.b⟩]
  else if x.kind=4 then [⟨2,x.r⟩,⟨1,x.a⟩]
  else if x.kind=5 then [⟨2,x.r⟩]
  else if x.kind=6 then [⟨2,x.r⟩,⟨2,x.s⟩]
  else if x.kind=9 then [⟨3,x.r⟩] else []
def tb_ (x:Pc):List Thg :=
  if x.kind=1\/x.kind=2\/x.kind=4\/x.kind=9 then [⟨1,x.c⟩]
  else if x.kind=3 then [⟨2,x.r⟩,⟨1,x.c⟩]
  else if x.kind=5\/x.kind=6 then [⟨2,x.t⟩]
  else if x.kind=7 then [⟨2,x.r⟩]
  else if x.kind=8 then [⟨3,x.r⟩] else []
def uo_ (S:List Str):List Thg:=[⟨1,[42]⟩,⟨1,[33]⟩]++S.map (λs=>⟨1,s⟩)
inductive Rch (p:List Pc) (S:List Str):Thg->Prop
  | base {t:Thg} (h:t∈uo_ S):Rch p S t
  | give {x:Pc} {t:Thg} (hx:x∈p) (hn:∀ u∈sH_ x,Rch p S u) (ht:t∈tb_ x):Rch p S t
def An_ (K:List Thg):List Thg->List Thg
  | []=>[]
  | t::l=>if t∈K then An_ K l else t::An_ (K++[t]) l
structure KW (p:List Pc) (S:List Str) (K W:List Thg):Prop where
  snd:∀ t∈K,Rch p S t
  kn:K.Nodup
  sub:∀ t∈W,t∈K
  wn:W.Nodup
section
variable {p:List Pc} {S:List Str} {t:Thg} {us:List Int} {j:Nat} {K W:List Thg} {U:List Bool} {wl:List Int} {i:Nat} {x:Pc} {n:Int}
end
def tG_ (p:List Pc) (S:List Str):List Thg:=uo_ S++p.flatMap tb_
theorem Rch.univ {p:List Pc} {S:List Str} {t:Thg} (h:Rch p S t):t∈tG_ p S:=by
  unfold tG_;cases h with
  | base h=>exact yal_ _ h
  | give hx _ ht=>exact yay_ _ (yar_.2 ⟨_,hx,ht⟩)
theorem gF_ {α:Type} [DecidableEq α]:∀ (l m:List α),l.Nodup->(∀ x∈l,x∈m)->l.length<=m.length
  | [],m,_,_=>ycg_ _
  | a::l,m,h,hs=>by
    have d:=hs a yau_;have v:=ybr_.1 h;have:=gF_ l (m.erase a) v.2 λx y=>(List.mem_erase_of_ne (by rintro rfl;exact v.1 y)).2 (hs x (yaA_ _ y))
    rw[List.length_erase_of_mem d]at this;have:=ycU_ d;simp only[yai_];omega
theorem KW.len {p:List Pc} {S:List Str} {K W:List Thg} (h:KW p S K W):K.length<=(tG_ p S).length:=gF_ K _ h.kn λt d=>(h.snd t d).univ
end Go.Vs
namespace Go.Sx
open Go Go.Vs
section
variable {P:Program} {N:Nf} {v0:Vw} {H0:Hp} {R:Exit->Act->World->Prop} {Kk:List Kt} {fr:Fr} {H:Hp} {Γ:List Fct}
variable {ops:Array Oper} {lo:List Oper} {d:Nat} {ty:TypeId} {ps:String} {af:Array Edge}
variable {K:Type} [DecidableEq K] {kv:K->Value}
theorem IntE.at {kt:TypeId} {es:Array MapEntry} {ks:List K} {vs:List Int} (A:KeyT P kt kv) (h:IntE kv es ks vs) {k:K} {i:Nat} {n:Int} (hi:ks[i]? = some k) (B:vs[i]? = some n):∃ e,es[i]? = some e/\e.key=kv k/\e.val=.int .i64 n/\dh_ P kt (kv k) es.toList (some (i,.int .i64 n)):=by
  have v:i<es.toList.length:=by
    have:=(yab_.1 hi).1;have e:=yah_ List.length h.keys;simp only[yaO_]at e;omega
  have m:=yaa_ v;have x:=yah_ (λl=>l[i]?) h.vals;simp only[yaH_,m,yaX_,B,yam_]at x;have y:=yah_ (λl=>l[i]?) h.keys;simp only[yaH_,m,yaX_,hi,yam_]at y;refine⟨es.toList[i],by rw[<-ybe_];exact m,y,x,?_⟩;have:=A.sf k es.toList ks i _ h.keys h.nd hi m;rwa [x]at this
end
end Go.Sx
namespace Go.Vs
open Go Go.Sx
theorem take_snoc {α:Type} {l:List α} {i:Nat} {x:α} (h:l[i]? = some x):l.take (i+1)=l.take i++[x]:=by
  rw[yao_,h];rfl
def rchG (p:List Pc) (K:List Thg):List Thg:=(p.filter λx=>decide (∀ u∈sH_ x,u∈K)).flatMap tb_
def rchN (p:List Pc):Nat->List Thg->List Thg
  | 0,K=>K
  | n+1,K=>rchN p n (K++An_ K (rchG p K))
def rchL (p:List Pc) (S:List Str):List Thg:=rchN p (2*p.length+S.length+3) (An_ [] (uo_ S))
def usbB (p:List Pc) (S:List Str) (x:Pc):Bool:=(sH_ x).all λu=>decide (u∈rchL p S)
end Go.Vs
namespace Go.Proofs.YtfjcabalehamcaaGreatDoor
open Go Go.Sx Go.Proofs Tryz
attribute [local irreducible] Code.wp wpList wpAnyH
open Go.Vs
theorem keyI:KeyT prog 3 (λn:Int=>i4_ n):=xB_ o_
end Go.Proofs.YtfjcabalehamcaaGreatDoor
namespace Go.Vs
open Go Go.Sx
abbrev SrS (l:List Str):Prop:=l.Pairwise λx y=>x<y
theorem jR_ (a:Str):¬ a<a:=ycA_ a
theorem uA_ {l:List Str} {s:Str} (m:s≠[]) (d:s ∉ l):we_ l s=l.take (kS l s)++[s]++l.drop (kS l s):=by
  unfold we_;rw[yaf_ (by rintro (q|q);exact m q;exact d (yac_ q))]
structure Rcd where
  a:List Str
  aad:Ao
  acap:Nat
  r:List Str
  rad:Ao
  rcap:Nat
  f:List Str
  fad:Ao
  fcap:Nat
def Rcd.cells (x:Rcd):List Value:=[.slice x.aad x.a.length x.acap,.slice x.rad x.r.length x.rcap,.slice x.fad x.f.length x.fcap]
def xO_ (a r f:List Str) (t:Thg):Prop:=(t.kind=1/\t.name∈a)\/(t.kind=2/\t.name∈r)\/(t.kind=3/\t.name∈f)
instance (a r f:List Str) (t:Thg):Decidable (xO_ a r f t):=by unfold xO_;infer_instance
structure RdI (p:List Pc) (S:List Str) (a r f:List Str):Prop where
  sa:SrS a
  sr:SrS r
  sf:SrS f
  snd:∀ t,xO_ a r f t->Rch p S t
  bas:∀ t∈uo_ S,xO_ a r f t
theorem RdI.len {p:List Pc} {S a r f:List Str} (h:RdI p S a r f):a.length+r.length+f.length<=(tG_ p S).length:=by
 have nd:∀ {l:List Str},SrS l->l.Nodup:=λhl=>ycW_ (fun {x y} hxy=>λe:x=y=>by subst e;exact jR_ _ hxy) hl
 have mk:∀ (k:Int) {l:List Str},SrS l->(l.map λn=>(⟨k,n⟩:Thg)).Nodup:=λk l hl=>by
   unfold List.Nodup;rw[ycE_];exact ycW_ (fun {x y} hxy=>λe=>hxy (Thg.mk.inj e).2) (nd hl)
 have e:((a.map λn=>(⟨1,n⟩:Thg))++((r.map λn=>(⟨2,n⟩:Thg))++f.map λn=>(⟨3,n⟩:Thg))).length=a.length+r.length+f.length:=by simp;omega
 rw[<-e];refine gF_ _ _ ?_ λt B=>(h.snd t ?_).univ
 .rw[yaY_,yaY_]
  refine⟨mk 1 h.sa,⟨mk 2 h.sr,mk 3 h.sf,λx A y d e=>?_⟩,λx A y d e=>?_⟩
  .obtain⟨u,_,rfl⟩:=yas_.1 A
   obtain⟨v,_,rfl⟩:=yas_.1 d;have:=(Thg.mk.inj e).1;omega
  obtain⟨u,_,rfl⟩:=yas_.1 A;rcases yag_.1 d with d|d<;>obtain⟨v,_,rfl⟩:=yas_.1 d<;>(have:=(Thg.mk.inj e).1;omega)
 simp only[yag_,yas_]at B;unfold xO_;rcases B with⟨u,m,rfl⟩|⟨u,m,rfl⟩|⟨u,m,rfl⟩
 .exact .inl ⟨rfl,m⟩
 .exact .inr (.inl ⟨rfl,m⟩)
 exact .inr (.inr ⟨rfl,m⟩)
end Go.Vs
namespace Go.Proofs.YtfjcabalehamcaaGreatDoor
open Go Go.Sx Go.Proofs Tryz
attribute [local irreducible] Code.wp wpList wpAnyH
open Go.Vs
def wF_ (a:Ax):Prop:=a.kind=5\/a.kind=6\/a.kind=7
instance (a:Ax):Decidable (wF_ a):=by unfold wF_;infer_instance
def matB (l:List Ax) (p:List Pc) (S:List Str) (i:Int):Bool:=((l[i.toNat]?).any λa=>decide (wF_ a))||p.any λx=>decide (x.frm=i)&&usbB p S x
def zK_ (l:List Ax) (p:List Pc) (S:List Str) (n:Nat):List Int:=(iot n).filter λi=>matB l p S i
theorem xs_ {l:List Ax} {p:List Pc} {S:List Str} (n:Nat):(zK_ l p S n).length<=n:=by
  unfold zK_;refine ybv_ (ybN_ _ _) ?_;simp[iot]
def AN_ (l:List Ax) (w:List Int):List Ax:=w.filterMap λi=>l[i.toNat]?
end Go.Proofs.YtfjcabalehamcaaGreatDoor
