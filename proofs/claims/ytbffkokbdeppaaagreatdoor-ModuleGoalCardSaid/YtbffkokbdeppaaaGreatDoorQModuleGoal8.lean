/-
  Lemmas for the law ModuleGoal (no condition).
-/
import Derived.Test.YtbffkokbdeppaaaGreatDoorQModuleGoal7
import Derived.Lib.AppendZeros
import Derived.Maps.RangeRun
import Derived.WalkSpells
set_option linter.unusedVariables false
set_option linter.unusedSimpArgs false
set_option linter.unusedSectionVars false
set_option maxHeartbeats 1000000
namespace Go.Sx
open Go Go.Vs
def iA_ (T:List Itm) (r:Str):List Value:=(List.range 4225).map λk=>.bool (decide ((⟨r,k / 65,k%65⟩:Itm)∈T))
theorem jb_ (T:List Itm) (r:Str):(iA_ T r).length=4225:=by simp[iA_]
theorem nI_ (T:List Itm) (r:Str) {k:Nat} (hk:k<4225):(iA_ T r)[k]? = some (.bool (decide ((⟨r,k / 65,k%65⟩:Itm)∈T))):=by
  unfold iA_;rw[yaM_,List.getElem?_range hk];rfl
theorem spn_ix {i j:Nat} (e:j<=64):(i*65+j) / 65=i/\(i*65+j)%65=j:=by omega
theorem sT_ (T:List Itm) (r:Str) {i j:Nat} (hi:i<=64) (e:j<=64):(iA_ T r)[i*65+j]? = some (.bool (decide ((⟨r,i,j⟩:Itm)∈T))):=by
  grind[nI_]
theorem oI_ {T:List Itm} {r q:Str} {i j:Nat} (h:q≠r):iA_ (fD_ ⟨r,i,j⟩ T) q=iA_ T q:=by
  grind[iA_,lF_]
theorem zB_ (T:List Itm) (r:Str) {i j:Nat} (hi:i<=64) (e:j<=64):(iA_ T r).set (i*65+j) (.bool true)=iA_ (fD_ ⟨r,i,j⟩ T) r:=by
 apply yaS_
 intro k;rw[yck_,jb_];obtain⟨h,m⟩:=spn_ix (i:=i) e
 by_cases hk:i*65+j=k
 .grind[sT_,lF_]
 rw[yag_ hk]
 by_cases hl:k<4225
 .rw[nI_ _ _ hl,nI_ _ _ hl]
  grind[lF_]
 grind[jb_]
theorem xu_ {T:List Itm} {r:Str} (h:∀ x∈T,x.r≠r):iA_ T r=List.replicate 4225 (.bool false):=by
 apply yaS_
 intro k
 by_cases hl:k<4225
 .rw[nI_ _ _ hl,ybi_ λq=>h _ q rfl,ycs_,yaq_ hl]
 grind[jb_]
def dc_ (ks:List (Str×Nat)) (k:Str):Option Nat:=(ks.find? λp=>decide (p.1=k)).map (·.2)
def oz_ (o:Option Nat):Value:=.pointer (o.map λb=>⟨b,0,none⟩)
def nr_ (tt:TypeId) (T:List Itm) (p:Str×Nat):Nat×Obj:=(p.2,.cells (iA_ T p.1).toArray tt (0,0))
structure TabE (ks:List (Str×Nat)) (T:List Itm) (es:Array MapEntry):Prop where
  keys:es.toList.map (·.key)=(ks.map (·.1)).map str
  vals:es.toList.map (·.val)=ks.map λp=>oz_ (some p.2)
  nd:(ks.map (·.1)).Nodup
  all:∀ x∈T,x.r∈ks.map (·.1)
def fE_ (tt mb:Nat) (ks:List (Str×Nat)) (T:List Itm) (H:Hp):Prop:=∃ es c,H=(mb,.map es c)::ks.map (nr_ tt T)/\TabE ks T es
theorem TabE.nil:TabE [] [] #[]:=⟨rfl,rfl,ybG_,by simp⟩
theorem fE_.nil (tt mb c:Nat):fE_ tt mb [] [] [(mb,.map #[] c)]:=⟨#[],c,rfl,TabE.nil⟩
theorem jG_ {ks:List (Str×Nat)} {k:Str} {b:Nat} (h:dc_ ks k=some b):(k,b)∈ks:=by
  grind[dc_,Option.map_eq_some_iff]
theorem eR_ {ks:List (Str×Nat)} {k:Str} (h:dc_ ks k=none):k ∉ ks.map (·.1):=by
  grind[dc_,Option.map_eq_none_iff]
theorem sP_ {ks:List (Str×Nat)} {k q:Str} {b c:Nat} (h:dc_ ks k=some b):dc_ (ks++[(q,c)]) k=some b:=by
  grind[dc_]
theorem sO_ {ks:List (Str×Nat)} {k:Str} {b:Nat} (h:dc_ ks k=none):dc_ (ks++[(k,b)]) k=some b:=by
  grind[dc_]
section
variable {P:Program} {kt:TypeId} {tt mb:Nat} {ks:List (Str×Nat)} {T:List Itm} {es:Array MapEntry} {H:Hp}
theorem TabE.no (e:KeyT P kt str) (h:TabE ks T es) {k:Str} (hk:dc_ ks k=none):di_ P kt (str k) es.toList none:=e.nf k es.toList _ h.keys (eR_ hk)
theorem TabE.yes (m:KeyT P kt str) (h:TabE ks T es) {k:Str} {b:Nat} (hk:dc_ ks k=some b):∃ i,di_ P kt (str k) es.toList (some (i,oz_ (some b))):=by
  obtain⟨i,hi⟩:=yaJ_ (jG_ hk);have e:=yae_ (λl=>l[i]?) h.vals;simp only[yaM_,hi,yaR_]at e;cases hx:es.toList[i]? with
  | none=>grind
  | some x =>
    rw[hx]at e;simp only[yaR_,yah_]at e;refine⟨i,?_⟩;have:=m.sf k es.toList _ i x h.keys h.nd zak_ hx
    grind
theorem fE_.at (h:fE_ tt mb ks T H) {k:Str} {b:Nat} (hk:dc_ ks k=some b):∃ Hr,H.Perm ((b,.cells (iA_ T k).toArray tt (0,0))::Hr)/\
    ∀ i j,i<=64->j<=64->∃ H',fE_ tt mb ks (fD_ ⟨k,i,j⟩ T) H'/\((b,Obj.cells ((iA_ T k).set (i*65+j) (.bool true)).toArray tt (0,0))::Hr).Perm H':=by
  obtain⟨es,c,rfl,hE⟩:=h;have hm:=jG_ hk;obtain⟨e,m,rfl⟩:=List.append_of_mem hm;refine⟨(mb,.map es c)::(e++m).map (nr_ tt T),?_,λi j hi C=>?_⟩
  . rw[yaz_,yar_,yaz_]
    exact (List.Perm.cons _ ybq_).trans (.swap _ _ _)
  . refine⟨(mb,.map es c)::(e++(k,b)::m).map (nr_ tt (fD_ ⟨k,i,j⟩ T)),⟨es,c,rfl,hE.keys,hE.vals,hE.nd,λx y=>?_⟩,?_⟩
    . rcases lF_.1 y with y|rfl
      . exact hE.all x y
      . simp
    . have v:=hE.nd
      rw[yaz_,yar_,ybe_,ybt_]at v
      have B:e.map (nr_ tt (fD_ ⟨k,i,j⟩ T))=e.map (nr_ tt T):=ybR_ λp A=>by
        grind[nr_,oI_,List.mem_map_of_mem]
      have E:m.map (nr_ tt (fD_ ⟨k,i,j⟩ T))=m.map (nr_ tt T):=ybR_ λp A=>by
        grind[nr_,oI_]
      rw[zB_ T k hi C,yaz_,yaz_,yar_,B,E];exact ((List.Perm.cons _ ybq_).trans (.swap _ _ _)).symm
theorem TabE.push (h:TabE ks T es) {k:Str} (hk:dc_ ks k=none) (b c:Nat):TabE (ks++[(k,b)]) T (es.push ⟨str k,oz_ (some b),c⟩):=by
  refine⟨by grind[keys],by grind[vals],?_,λx e=>by simp only[yaz_,yai_];exact .inl (h.all x e)⟩
  grind[nd,eR_]
theorem TabE.zero (h:TabE ks T es) {k:Str} (hk:dc_ ks k=none):iA_ T k=List.replicate 4225 (.bool false):=xu_ λx m e=>eR_ hk (e▸h.all x m)
end
section ops
variable {P:Program} {N:Nf} {v0:Vw} {H0:Hp} {R:Exit->Act->World->Prop} {K:List Kt} {fr:Fr} {H F:Hp} {Γ:List Fct}
variable {ops:Array Oper} {l:List Oper} {d:Nat} {ty:TypeId} {ps:String} {af:Array Edge}
variable {tt mb:Nat} {ks:List (Str×Nat)} {T:List Itm} {Hx:Hp}
theorem eP_ {t kt C:TypeId} {x y:Operand} {k:Str} (e:KeyT P kt str) (A:∀ w,(underlying t).run P w=.ok (.map kt C) w) (J:∀ w,(zeroValue C).run P w=.ok (.pointer none) w) (I:fE_ tt mb ks T Hx) (B:Fr.ev fr x=some (.map (some mb))) (m:Fr.ev fr y=some (str k)) (E:H.Perm (Hx++F)) :
    Yld P N fr H Γ (.lookup t x y false) ty (oz_ (dc_ ks k)):=by
  obtain⟨es,c,rfl,hE⟩:=I;have hm:∀ v:Vw,v.sat H->ag_ Γ v->v.w.heap[mb]? = some (.map es c):=λv h _=>(h.own (mb,.map es c) (E.mem_iff.2 zai_)).1
  cases hk:dc_ ks k with
  | none=>exact ep_ A J B m hm (e.ok k) (hE.no e hk)
  | some b =>
    obtain⟨i,G⟩:=hE.yes e hk;exact ef_ A B m hm (e.ok k) G
theorem hA_ {t:TypeId} {x:Operand} {k:Str} {b i j:Nat} (y:∀ w,(isAgg t).run P w=.ok false w) (A:fE_ tt mb ks T Hx) (hk:dc_ ks k=some b) (hi:i<=64) (E:j<=64) (m:Fr.ev fr x=some (.pointer (some ⟨b,i*65+j,none⟩))) (e:H.Perm (Hx++F)) :
    Yld P N fr H Γ (.load t x) ty (.bool (decide ((⟨k,i,j⟩:Itm)∈T))):=by
  obtain⟨Hr,B,_⟩:=A.at hk;refine gs_ m λv h _=>cc_ y ?_
  have C:=(h.own _ (e.mem_iff.2 (yax_ _ (B.mem_iff.2 yao_)))).1
  grind[sT_,World.cell?]
theorem wK_ (w:World) (t e:TypeId) (o:Ao) (k:P.underlying t=some (.pointer e)):(Op.equal t (.pointer o) (.pointer none)).run P w=.ok o.isNone w:=by
  have h:∀ d,(Op.equalIn (d+1) t (.pointer o) (.pointer none)).run P w=.ok o.isNone w:=λd=>by cases o<;>simp[Op.equalIn,run_underlying k]
  exact h 9999
theorem yW_ {t A e:TypeId} {x y:Operand} {o:Option Nat} (B:P.underlying t=some (.pointer e)) (C:Fr.ev fr x=some (oz_ o)) (m:Fr.ev fr y=some (.pointer none)):Yld P N fr H Γ (.binOp .eql t x y A) ty (.bool (decide (o=none))) :=
  λa v h _ _ _ _ _=>by
    have k:decide (o=none)=(o.map λb=>(⟨b,0,none⟩:Addr)).isNone:=by cases o<;>simp
    rw[k];have:=wK_ v.w t e (o.map λb=>(⟨b,0,none⟩:Addr)) B;simp[execOp,h.ev C,h.ev m,eqGuard,binOp,oz_,this]
theorem jC_ {t A e:TypeId} {x y:Operand} {o:Option Nat} (B:P.underlying t=some (.pointer e)) (C:Fr.ev fr x=some (oz_ o)) (m:Fr.ev fr y=some (.pointer none)):Yld P N fr H Γ (.binOp .neq t x y A) ty (.bool (!decide (o=none))) :=
  λa v h _ _ _ _ _=>by
    have k:decide (o=none)=(o.map λb=>(⟨b,0,none⟩:Addr)).isNone:=by cases o<;>simp
    rw[k];have:=wK_ v.w t e (o.map λb=>(⟨b,0,none⟩:Addr)) B;simp[execOp,h.ev C,h.ev m,eqGuard,binOp,oz_,this]
theorem gF_ {x:Operand} {o:Option Nat} {b:Nat} (e:o=some b) (h:Fr.ev fr x=some (oz_ o)):Yld P N fr H Γ (.nilCheck x) ty (.pointer (some ⟨b,0,none⟩)):=by
  subst e;exact lH_ h
theorem gE_ {t e:TypeId} {x y:Operand} {b i:Nat} (k:∀ w,(underlying t).run P w=.ok (.array 65 e) w) (m:∀ w,(sizeOf e).run P w=.ok 65 w) (v:Fr.ev fr x=some (.pointer (some ⟨b,0,none⟩))) (h:Fr.ev fr y=some (.int .i64 (i:Int))) (hi:i<=64) :
    Yld P N fr H Γ (.indexAddr t x y) ty (.pointer (some ⟨b,i*65,none⟩)):=by
  have:=db_ (P:=P) (N:=N) (fr:=fr) (H:=H) (Γ:=Γ) (ty:=ty) k m v h zaa_ zaa_
  grind
theorem fp_ {t e:TypeId} {x y:Operand} {b o j:Nat} (k:∀ w,(underlying t).run P w=.ok (.array 65 e) w) (m:∀ w,(sizeOf e).run P w=.ok 1 w) (v:Fr.ev fr x=some (.pointer (some ⟨b,o,none⟩))) (h:Fr.ev fr y=some (.int .i64 (j:Int))) (A:j<=64) :
    Yld P N fr H Γ (.indexAddr t x y) ty (.pointer (some ⟨b,o+j,none⟩)):=by
  have:=db_ (P:=P) (N:=N) (fr:=fr) (H:=H) (Γ:=Γ) (ty:=ty) k m v h zaa_ zaa_
  grind
theorem Aa_ {o:Op} {t kt I:TypeId} {x y z:Operand} {k:Str} {b:Nat} (m:KeyT P kt str) (A:o=.insert t x y z\/o=.mapUpdate t x y z) (C:∀ w,(underlying t).run P w=.ok (.map kt I) w) (G:fE_ tt mb ks T Hx) (hk:dc_ ks k=none)
    (E:Fr.ev fr x=some (.map (some mb))) (B:Fr.ev fr y=some (str k)) (J:Fr.ev fr z=some (.pointer (some ⟨b,0,none⟩))) (v:H.Perm ((b,.cells (List.replicate 4225 (.bool false)).toArray tt (0,0))::(Hx++F)))
    (e:∀ H',fE_ tt mb (ks++[(k,b)]) T H'->Ops P R N v0 H0 ops l K fr (H'++F) Γ):Ops P R N v0 H0 ops (⟨none,o,ty,ps,af,none⟩::l) K fr H Γ:=by
  obtain⟨es,c,rfl,hE⟩:=G;have L:(b,Obj.cells (List.replicate 4225 (.bool false)).toArray tt (0,0))=nr_ tt T (k,b):=by unfold nr_;rw[hE.zero hk]
  have h:H.Perm ((mb,.map es c)::((ks++[(k,b)]).map (nr_ tt T)++F)):=by
    refine v.trans ?_
    grind[List.Perm.symm,List.perm_middle]
  refine u_ h ?_;refine aR_ 0 A C E B J rfl (m.ok k) (hE.no m hk) ?_;simp only[yby_];exact e _ ⟨_,_,rfl,hE.push hk b c⟩
theorem tr_ {t:TypeId} {x y:Operand} {k:Str} {b i j:Nat} (C:∀ w,(sizeOf t).run P w=.ok 1 w) (I:fE_ tt mb ks T Hx) (hk:dc_ ks k=some b) (hi:i<=64) (G:j<=64)
    (E:Fr.ev fr x=some (.pointer (some ⟨b,i*65+j,none⟩))) (v:Fr.ev fr y=some (.bool true)) (m:H.Perm (Hx++F))
    (h:∀ H',fE_ tt mb ks (fD_ ⟨k,i,j⟩ T) H'->Ops P R N v0 H0 ops l K fr (H'++F) Γ):Ops P R N v0 H0 ops (⟨none,.store t x y,ty,ps,af,none⟩::l) K fr H Γ:=by
  obtain⟨Hr,L,A⟩:=I.at hk;obtain⟨H',B,J⟩:=A i j hi G;refine u_ (m.trans (L.append_right F)) ?_;refine p_ 0 C E v rfl rfl (by grind[jb_,Nat.ble_eq]) rfl ?_
  have e:(iA_ T k).take (i*65+j)++[Value.bool true]++(iA_ T k).drop (i*65+j+1)=(iA_ T k).set (i*65+j) (.bool true):=by
    rw[List.set_eq_take_append_cons_drop,yaq_ (by grind[jb_])];simp
  simp only[yby_];have M:(Value.bool true).cells.toList=[Value.bool true]:=rfl;rw[M,e];exact u_ (J.append_right F) (h H' B)
end ops
end Go.Sx
namespace Go.Sx
open Go Go.Vs
structure IntE {K:Type} (kv:K->Value) (es:Array MapEntry) (ks:List K) (vs:List Int):Prop where
  keys:es.toList.map (·.key)=ks.map kv
  vals:es.toList.map (·.val)=vs.map λn=>Value.int .i64 n
  nd:ks.Nodup
section
variable {P:Program} {K:Type} [DecidableEq K] {kv:K->Value} {kt:TypeId} {es:Array MapEntry} {ks:List K} {vs:List Int}
theorem IntE.nil:IntE kv #[] ([]:List K) []:=⟨rfl,rfl,ybG_⟩
theorem IntE.no (e:KeyT P kt kv) (h:IntE kv es ks vs) {k:K} (hk:k ∉ ks):di_ P kt (kv k) es.toList none:=e.nf k es.toList ks h.keys hk
theorem IntE.push (h:IntE kv es ks vs) {k:K} (hk:k ∉ ks) (n:Int) (c:Nat):IntE kv (es.push ⟨kv k,.int .i64 n,c⟩) (ks++[k]) (vs++[n]):=by
  refine⟨by grind[keys],by grind[vals],?_⟩
  grind[nd]
end
section ops
variable {P:Program} {N:Nf} {v0:Vw} {H0:Hp} {R:Exit->Act->World->Prop} {Kk:List Kt} {fr:Fr} {H:Hp} {Γ:List Fct}
variable {ops:Array Oper} {lo:List Oper} {d:Nat} {ty:TypeId} {ps:String} {af:Array Edge}
variable {K:Type} [DecidableEq K] {kv:K->Value}
theorem vc_ {o:Op} {t kt E:TypeId} {x y z:Operand} {h c:Nat} (j:Nat) {es:Array MapEntry} {ks:List K} {vs:List Int} {k:K} {n:Int} (m:KeyT P kt kv) (v:o=.insert t x y z\/o=.mapUpdate t x y z) (B:∀ w,(underlying t).run P w=.ok (.map kt E) w)
    (C:Fr.ev fr x=some (.map (some h))) (A:Fr.ev fr y=some (kv k)) (F:Fr.ev fr z=some (.int .i64 n)) (hi:H[j]? = some (h,.map es c)) (hE:IntE kv es ks vs) (hk:k ∉ ks)
    (e:∀ es' c',IntE kv es' (ks++[k]) (vs++[n])->Ops P R N v0 H0 ops lo Kk fr (H.set j (h,.map es' c')) Γ):Ops P R N v0 H0 ops (⟨none,o,ty,ps,af,none⟩::lo) Kk fr H Γ :=
  aR_ j v B C A F hi (m.ok k) (hE.no m hk) (e _ _ (hE.push hk n c))
end ops
def iot (n:Nat):List Int:=(List.range n).map Int.ofNat
theorem CL_ {n i:Nat} {m:Int} (h:(iot n)[i]? = some m):m=i:=by
  grind[iot]
theorem lk_ (n:Nat):iot (n+1)=iot n++[(n:Int)]:=by simp[iot,List.range_succ]
theorem CK_ (n:Nat):(iot n).length=n:=by simp[iot]
end Go.Sx
namespace Go.Sx
open Go
section
variable {P:Program} {N:Nf} {v0:Vw} {H0:Hp} {R:Exit->Act->World->Prop} {K:List Kt} {fr:Fr} {H F:Hp} {Γ:List Fct} {ops:Array Oper} {l:List Oper} {d:Nat} {ty:TypeId} {ps:String} {af:Array Edge} {e:TypeId} {sz n:Nat} {sv:Value} {xs:List Value} {Hr:Hp}
theorem tu_ {x y:Operand} {t A:TypeId} {by':Nat} {k kn:IntKind} (B:Elt P t e sz by') (C:P.underlying A=some (.int kn)) (O:Fr.ev fr x=some (.slice none 0 0)) (J:Fr.ev fr y=some (.int k (n:Int))) (M:0<n) (V:n*by'<=140737488355328) (E:n<=maxLen) (Q:Nat.blt d N.n=true)
    (hk:∀ (y:Nat×Array Value) (b:Nat),(n<=y.1/\y.1<=maxLen/\y.2.size=y.1*sz)->Ops P R N v0 H0 ops l K ((d,.slice (some ⟨b,0,none⟩) n y.1)::fr) ((b,.cells y.2 e (0,0))::H) Γ) :
    Ops P R N v0 H0 ops (⟨some d,.call ⟨.builtin .append,#[x,y],#[t,A]⟩,ty,ps,af,none⟩::l) K fr H Γ :=
  oZ_ (β:=Nat×Array Value) (x:=λy b=>.slice (some ⟨b,0,none⟩) n y.1) (o:=λy=>.cells y.2 e (0,0)) (λy=>n<=y.1/\y.1<=maxLen/\y.2.size=y.1*sz) Q
    (λa v G U W=>by
      obtain⟨i,z,hi,T,es,S,I⟩:=B.info;subst es S;have L:=Lib.run_append_nil_zeros (P:=P) v.w t A ty e i z k kn B.und C hi T n M B.pos (by grind[maxLen]) zaa_;have m:=grownCap_ge v.w n 0 e;have h:=grownCap_le_maxLen v.w n 0 e E;refine⟨(grownCap v.w n 0 e,Builtin.zeroCells z.cells n++Builtin.zeroCells z.cells (grownCap v.w n 0 e - n)),v.w.drew.alloc (.cells (Builtin.zeroCells z.cells n++Builtin.zeroCells z.cells (grownCap v.w n 0 e - n)) e),⟨m,h,?_⟩,?_,rfl,rfl,rfl,rfl,by simp⟩
      . simp only[Array.size_append,size_zeroCells,I,<-ybE_]
        grind
      . simp only[execOp,resolve,invoke,builtin,Sem.run_bind,Sem.run_pure,Result.andThen_ok,ybc_,yar_,ybf_,G.ev O,G.ev J,L])
    hk
theorem sy_ {x:Operand} {t:TypeId} {ad:Ao} {len cap:Nat} (k:∀ w,(underlying t).run P w=.ok (.slice e) w) (m:Fr.ev fr x=some (.slice ad len cap)) :
    Yld P N fr H Γ (.call ⟨.builtin .cap,#[x],#[t]⟩) ty (.int .i64 (cap:Int)) :=
  λa v h _ _ _ _ _=>by simp[execOp,resolve,invoke,builtin,Builtin.cap_,k,h.ev m,goInt]
theorem xs_ {b cap:Nat} {cur:Array Value} (h:cap<=maxLen) (k:cur.size=cap*sz):at_ e sz (.slice (some ⟨b,0,none⟩) 0 cap) 0 [] [(b,.cells cur e (0,0))] :=
  ⟨by simp,.inr ⟨b,cap,cur,rfl,rfl,ybm_ _,h,k,by simp⟩⟩
end
end Go.Sx
namespace Go.Sx
open Go
theorem Ax_ {P:Program} {y:TypeId} {m:IntKind} (v:P.underlying y=some (.int m)):KeyT P y (λn:Int=>.int m n) where
  ok:=λk=>aZ_ v
  nf:=λk es ks h hk=>aw_ v (by
    have:∀ (ks:List Int) (es:List MapEntry) (i:Nat),es.map (·.key)=ks.map (λn:Int=>Value.int m n)->k ∉ ks->Instr.findNow (.int m) (.int m k) es i=some none:=by
      intro ks
      induction ks with
      | nil => intro es i h _; have : es = [] := by simpa using h
               subst this;rfl
      | cons q ks ih =>
        intro es i h hk;cases es<;>grind[Instr.sameNow,Instr.findNow]
    grind)
  sf:=λk es ks i e h A hi B=>aw_ v (by
    have:∀ (ks:List Int) (es:List MapEntry) (j i:Nat),es.map (·.key)=ks.map (λn:Int=>Value.int m n)->ks.Nodup->ks[i]? = some k->es[i]? = some e->Instr.findNow (.int m) (.int m k) es j=some (some (j+i,e.val)):=by
      intro ks
      induction ks with
      | nil=>grind
      | cons q ks ih =>
        intro es j i h A hi B;cases es with
        | nil=>simp at h
        | cons x es =>
          simp only[yar_,yaP_]at h;rw[ybt_]at A;cases i<;>grind[Instr.sameNow,Instr.findNow]
    grind)
  same:=λk=>jf_ 10000 k
end Go.Sx
namespace Go.Sx
open Go
section
variable {P:Program} {N:Nat} {v0:Vw} {H0:Hp} {R:Exit->Act->World->Prop} {Kk:List Kt} {fr:Fr} {H:Hp} {Γ:List Fct}
variable {ops:Array Oper} {lo:List Oper} {d:Nat} {ty:TypeId} {ps:String} {af:Array Edge}
variable {K:Type} [DecidableEq K] {kv:K->Value}
theorem xZ_ {o:Op} {t J Q:TypeId} {x y z:Operand} {b c:Nat} (n:Nat) {es:Array MapEntry} {q:List K} {k:K} (h:KeyT P J kv) (A:o=.insert t x y z\/o=.mapUpdate t x y z) (C:∀ w,(underlying t).run P w=.ok (.map J Q) w)
    (G:Fr.ev fr x=some (.map (some b))) (B:Fr.ev fr y=some (kv k)) (L:Fr.ev fr z=some (.bool true)) (hi:H[n]? = some (b,.map es c)) (v:SetE kv es q)
    (m:∀ es' c',SetE kv es' (if k∈q then q else q++[k])->(Born es c->Born es' c')->Ops P R N v0 H0 ops lo Kk fr (H.set n (b,.map es' c')) Γ):Ops P R N v0 H0 ops (⟨none,o,ty,ps,af,none⟩::lo) Kk fr H Γ:=by
  by_cases hk:k∈q
  . obtain⟨i,e,S,I,E,M,O⟩:=v.yes h hk
    refine fA_ n h A C G B L hi O I E ?_;rw[jm_ I E M]
    grind
  . exact aR_ n A C G B L hi (h.ok k) (v.no h hk) (m _ _ (by rw[yag_ hk];exact v.push hk c) (λhB=>hB.push _ _))
theorem qG_ {t e h:TypeId} {x:Operand} {b c:Nat} (n:Nat) {es:Array MapEntry} (m:P.underlying t=some (.map e h)) (A:Fr.ev fr x=some (.map (some b))) (hi:H[n]? = some (b,.map es c)) (C:Nat.blt d N=true)
    (hk:∀ r,Ops P R N v0 H0 ops lo Kk ((d,.pointer (some ⟨r,0,none⟩))::fr) ((r,.mapIter (some b) c #[] c)::H) Γ):Ops P R N v0 H0 ops (⟨some d,.range t x,ty,ps,af,none⟩::lo) Kk fr H Γ :=
  hm_ (x:=λb=>.pointer (some ⟨b,0,none⟩)) C (λa v B k _=>by
    have y:=(k.own _ (yab_ hi)).1;simp[execOp,B.ev A,run_range_map v.w t e h b es c m y]) hk
theorem tt_ {M:Operand} {b r c h L:Nat} {es:Array MapEntry} {y:Array Nat} (n m:Nat) (hit:Fr.ev fr M=some (.pointer (some ⟨r,0,none⟩))) (Y:H[n]? = some (r,.mapIter (some b) h y L)) (hb:H[m]? = some (b,.map es c)) (G:∀ x∈es.toList,x.born<h) (V:h<=L) (hN:Nat.blt d N=true)
    (h0:(leftOf es y).size=0->Ops P R N v0 H0 ops lo Kk ((d,.tuple #[.bool false])::fr) H Γ)
    (hk:∀ e,e∈(leftOf es y).toList->Ops P R N v0 H0 ops lo Kk ((d,.tuple #[.bool true,e.key,e.val])::fr) (H.set n (r,.mapIter (some b) h (y.push e.born) c)) Γ):Ops P R N v0 H0 ops (⟨some d,.next M false,ty,ps,af,none⟩::lo) Kk fr H Γ :=
  cQ_ rfl λa v J E Z X=>by
    have I:=(E.own _ (yab_ Y)).1;have Q:=(E.own _ (yab_ hb)).1;unfold Oper.wp;rcases run_next_at (P:=P) v.w ty r b h L y es c I Q G V with⟨e0,B⟩|⟨e,he,C,A,B⟩
    . have T:(execOp a.eval ⟨some d,.next M false,ty,ps,af,none⟩).run P v.w=.ok (.value (.tuple #[.bool false])) v.w:=by simp[execOp,J.ev hit,B]
      rw[T];exact h0 e0 _ v (J.put hN) E Z X
    . have T:(execOp a.eval ⟨some d,.next M false,ty,ps,af,none⟩).run P v.w=.ok (.value (.tuple #[.bool true,e.key,e.val])) (ChangeMaps.setBlock C r (.mapIter (some b) h (y.push e.born) c)):=by simp[execOp,J.ev hit,B]
      rw[T];have S:C.heap[r]? = some (.mapIter (some b) h y L):=by rcases A with rfl|rfl<;>exact I
      have O:r<C.heap.size:=(yaA_.1 S).1;have hw:C.heap=v.w.heap:=by rcases A with rfl|rfl<;>rfl
      have U:v.w.drawn<=C.drawn:=by
        rcases A with rfl|rfl
        . simp
        . exact Nat.le_succ _
      obtain⟨g1,W⟩:=gj_ (w':=ChangeMaps.setBlock C r (.mapIter (some b) h (y.push e.born) c)) E Y zby_ zby_ zby_ U (by grind[ChangeMaps.setBlock])
        (by simp only[ChangeMaps.setBlock];rw[Array.getElem?_setIfInBounds_self_of_lt O]) (λk hk=>by grind[ChangeMaps.setBlock])
      exact hk e he _ ⟨v.im,_,v.sl⟩ (J.put hN) g1 (Z.trans W) (aT_ (W.le E) X)
theorem qi_ {y:Operand} {b r c h:Nat} {es:Array MapEntry} {k:Array Nat} {e:MapEntry} (n m:Nat) (hit:Fr.ev fr y=some (.pointer (some ⟨r,0,none⟩))) (A:H[n]? = some (r,.mapIter (some b) h (k.push e.born) c)) (B:H[m]? = some (b,.map es c)) (C:e∈es.toList) (hB:Born es c) :
    Yld P N fr H Γ (.entry y) ty (.tuple #[e.key,e.val]) :=
  λa v E x _ _ _ _=>by
    have:=run_entry_at (P:=P) v.w r b h k es c e (x.own _ (yab_ A)).1 (x.own _ (yab_ B)).1 C hB.nd;simp[execOp,E.ev hit,this]
structure ItS (kv:K->Value) (es:Array MapEntry) (seen:Array Nat) (done:List K):Prop where
  nd:done.Nodup
  mem:∀ e∈es.toList,seen.contains e.born=true↔∃ k∈done,e.key=kv k
  sub:∀ k∈done,∃ e∈es.toList,e.key=kv k
theorem ItS.nil {es:Array MapEntry}:ItS kv es #[] []:=⟨ybG_,λe _=>by simp,λk hk=>by simp at hk⟩
end
section
variable {P:Program} {N:Nat} {v0:Vw} {H0:Hp} {R:Exit->Act->World->Prop} {K:List Kt} {fr:Fr} {H F:Hp} {Γ:List Fct}
def sq_ {σ:Type} (v0:Vw) (H0:Hp) (Hj:σ->Hp) (ok:σ->Prop) (HL:Hp):Exit->Act->World->Prop
  | .normal,_,w=>∃ s' v,ok s'/\v.w=w/\v.sat (Hj s'++HL)/\v0.to H0 v (Hj s'++HL)
  | _,_,_=>False
theorem iS_ {σ ι:Type} {l D:Nat} {h:Loop} {y:Nat} {x:Value} {Hj:σ->Hp} {s:σ} {ok:σ->Prop} (L:ι->Fr) (HA:ι->Hp)
    (Z:h.params=#[y]) (O:h.state=.ready) (hpe:h.pending=none) (ht:Fr.sat N fr ⟨h.tmps,[]⟩) (S:Nat.blt y N=true)
    (m:∀ n v0 H0 HL,iB_ (Fence.wide.inRound l) n P (Mid N v0 H0 L (λi=>HA i++HL) (λ_=>Γ)) N [] v0 H0 h.assign [] ((y,x)::fr) (Hj s++HL) Γ)
    (B:∀ n v0 H0 HL i,iB_ (Fence.wide.inRound l) n P (sq_ v0 H0 Hj ok HL) N [] v0 H0 h.body [] (L i) (HA i++HL) Γ) :
    kG_ P l x (Hj s++HLp l D h) Γ (λ_:{C:σ // ok C}=>.bool true) (λC=>Hj C.1++HLp l D h) (λ_=>[]):=by
  intro v hs hΓ
  have k:∀ (X:Hp) r,(X++HLp l D r).Perm ((l,.loop r)::(X++[(D,.deferred (some []))])):=λX r=>by
    grind[HLp,List.perm_middle]
  have hl:v.w.heap[l]? = some (.loop h):=((hs.perm (k _ _)).own _ yao_).1;refine⟨h.fn,_,h.assign,h.body,run_yield hl (by simp[Z]),λn=>roundIn_of_wpIn trivial ?_⟩;have Y:(h.params.zip #[x]).foldl (λtmps (t,a)=>tmps.setIfInBounds t a) h.tmps=h.tmps.setIfInBounds y x:=by simp[Z]
  rw[Y];have J:Fr.sat N ((y,x)::fr) ⟨h.tmps.setIfInBounds y x,[]⟩:=ht.put S;refine wpIn_mono (dH_.1 (m n v (Hj s++HLp l D h) (HLp l D h)) ⟨h.tmps.setIfInBounds y x,[]⟩ v J hs (Vw.to.refl _ _) hΓ) ?_;rintro e a1 w1 ⟨rfl,i,I,rfl,k1,k2,k3,k4⟩;have A:=k2.perm (k _ _);have W:=(A.own _ yao_).1;obtain⟨m1,m2⟩:=gk_ (o':=.loop { h with state:=.busy }) A;refine⟨_,run_beginRound W O,?_⟩;have m3:=m1.perm (k (HA i) { h with state:=.busy }).symm
  have m4:v.to (Hj s++HLp l D h) ⟨I.im,I.w.putObj l (.loop { h with state:=.busy }),I.sl⟩ (HA i++HLp l D { h with state:=.busy }) :=
    (k3.trans ((m2.permL (k _ _).symm).subR λb M=>((k (HA i) { h with state:=.busy }).map Prod.fst).mem_iff.1 M))
  have T:=aT_ (m2.le A) k4;refine wpIn_mono (dH_.1 (B n v (Hj s++HLp l D h) (HLp l D { h with state:=.busy }) i) a1 ⟨I.im,_,I.sl⟩ k1 m3 m4 T) ?_;intro e2 a2 w2 E;cases e2 with
  | normal =>
    obtain⟨C,U,V,rfl,q1,q2⟩:=E;have G:=q1.perm (k _ _);have Q:=(G.own _ yao_).1;obtain⟨z1,z2⟩:=gk_ (o':=.loop h) G;have er:({ h with state:=.ready,pending:=none }:Loop)=h:=by cases h;simp_all
    refine⟨_,_,run_endRound none Q,⟨C,V⟩,⟨U.im,U.w.putObj l (.loop h),U.sl⟩,rfl,?_,z1.perm (k _ _).symm,trivial,q2.trans ((z2.permL (k _ _).symm).subR λb M=>((k (Hj C) h).map Prod.fst).mem_iff.1 M)⟩;simp[er]
  | ret=>exact E.elim
  | exit id=>exact E.elim
  | goto t=>exact E.elim
  | panic c=>exact E.elim
  | outgrown=>exact E.elim
theorem kr_ {σ:Type} {Hj:σ->Hp} {h G:Hp} {ok:σ->Prop} (e:σ) (x:ok e) (m:H.Perm (Hj e++h++G)):OkD N [] v0 H0 (sq_ v0 H0 Hj ok h .normal) fr H Γ :=
  lc_ (Γ':=[]) m (λ_ _ _=>trivial) λa v A k y _=>⟨e,v,x,rfl,k,y⟩
theorem jg_ {σ α:Type} {g:Operand} {W:Nat} {assign body:Code} {S:FuncId} {caps:List Value} {Hj:σ->Hp} {Hc:Hp} {Γi:List Fct} (Γx:List Fct) {xv:α->Value} {good:σ->α->Prop} {nx:α->σ->σ->Prop} {Rc:σ->Prop}
    (s0:σ) (hg:Fr.ev fr g=some (.func (.func S) #[] caps.toArray)) (hH:H.Perm (Hc++Hj s0)) (V:∀ v,v.sat H->ag_ Γ v->ag_ Γi v)
    (B:∀ l D (k:Loop),k.params=#[W]->k.state=.ready->k.pending=none->Fr.sat N fr ⟨k.tmps,[]⟩->k.assign=assign->k.body=body->∀ s x,good s x->
      kG_ P l (xv x) (Hj s++HLp l D k) Γx (λ_:{y:σ // nx x s y}=>.bool true) (λy=>Hj y.1++HLp l D k) (λ_=>[]))
    (hit:∀ l (Gj:σ->Hp),(∀ s x,good s x->kG_ P l (xv x) (Gj s) Γx (λ_:{y:σ // nx x s y}=>.bool true) (λy=>Gj y.1) (λ_=>[]))->
      Tri P S (.func (.yield l) #[] #[]::caps).toArray (Hc++Gj s0) Γi (λ_:{y:σ // Rc y}=>.tuple #[]) (λy=>Hc++Gj y.1) (λ_=>[]))
    (E:∀ y,Rc y->∀ D l r,vT_ Fence.wide 0 P R N (vl_ D) v0 H0 K fr (Hc++Hj y++HLp l D r) Γ) :
    Run P R N v0 H0 (.rangeFunc g #[W] assign body) K fr H Γ:=by
  intro a v G O h3 h4;refine wpIn_wide (n:=0) |>.1 (wpIn_mono (Q:=fb_ Fence.wide 0 P R K) (wpIn_rangeFunc λfn _=>?_) λe a w hq=>bM_ K e a w hq)
  obtain⟨a1,a2⟩:=ij_ (w':=v.w.alloc (.deferred (some []))) (o:=.deferred (some [])) O rfl rfl rfl rfl (yad_ _);obtain⟨k,m⟩:∃ k:Loop,k={ state:=.ready,pending:=none,fn,tmps:=a.tmps,params:=#[W],assign,body,defers:=v.w.heap.size }:=⟨_,rfl⟩;obtain⟨b1,b2⟩:=ij_ (w':=(v.w.alloc (.deferred (some []))).alloc (.loop k)) (o:=.loop k) a1 rfl rfl rfl rfl (yad_ _);have I:(v.w.alloc (Obj.deferred (some []))).heap.size=v.w.heap.size+1:=by simp
  have b1':(⟨v.im,(v.w.alloc (.deferred (some []))).alloc (.loop k),v.sl⟩:Vw).sat ((v.w.heap.size+1,.loop k)::(v.w.heap.size,.deferred (some []))::H):=I▸b1;have J:v.to H ⟨v.im,(v.w.alloc (.deferred (some []))).alloc (.loop k),v.sl⟩ ((v.w.heap.size+1,.loop k)::(v.w.heap.size,.deferred (some []))::H):=a2.trans (I▸b2)
  have A:((v.w.heap.size+1,Obj.loop k)::(v.w.heap.size,.deferred (some []))::H).Perm (Hc++(Hj s0++HLp (v.w.heap.size+1) v.w.heap.size k)):=by
    rw[<-yap_];exact (yaE_ (l₁:=HLp (v.w.heap.size+1) v.w.heap.size k) (l₂:=H)).trans (hH.append_right _)
  have hT:=hit (v.w.heap.size+1) (λs=>Hj s++HLp (v.w.heap.size+1) v.w.heap.size k)
    (B _ _ k (by rw[m]) (by rw[m]) (by rw[m]) (by rw[m];exact⟨G.size,rfl,G.val⟩) (by rw[m]) (by rw[m]))
  have T:=aT_ (J.le O) (V v O h4);have he:=G.ev hg;refine⟨v.w.heap.size+1,vl_ v.w.heap.size,(v.w.alloc (.deferred (some []))).alloc (.loop k),⟨.fn (.func S) caps.toArray,#[.func (.yield (v.w.heap.size+1)) #[] #[]]⟩,(v.w.alloc (.deferred (some []))).alloc (.loop k),S,(.func (.yield (v.w.heap.size+1)) #[] #[]::caps).toArray,_,?_,?_,λ_ _=>trivial,?_,λh=>(by cases h),callsIn_wide.2 ((hT.run ⟨v.im,_,v.sl⟩ (b1'.perm A) T).mono ?_)⟩
  . rw[m];exact run_enterLoop_outer _ _ _ _ _
  . simp only[resolve,rangeCall,ybc_,yar_,ybf_,he,Deferred.ofValue]
    rfl
  . have:=hT.callable (.func (.yield (v.w.heap.size+1)) #[] #[]::caps).toArray ((v.w.alloc (.deferred (some []))).alloc (.loop k))
    simpa [invoke] using this
  . rintro e w' ⟨⟨y,Z⟩,v',rfl,rfl,g1,g2,g3⟩
    have M:=J.trans (g3.permL A.symm);have U:=aT_ (M.le O) h4;have hsd:∀ L,SatD N L fr { a with defers:=L++a.defers }:=λL=>⟨⟨G.size,rfl,G.val⟩,by show L++a.defers=L;rw[G.defers];simp⟩
    have C:∀ (X Y:Hp) r,(Y++(X++HLp (v.w.heap.size+1) v.w.heap.size r)).Perm ((v.w.heap.size+1,.loop r)::(Y++X++[(v.w.heap.size,.deferred (some []))])):=λX Y r=>by
      unfold HLp;rw[<-yap_];exact ybq_
    have q:=g1.perm (C (Hj y) Hc k);have hl:=(q.own _ yao_).1;obtain⟨z1,z2⟩:=gk_ (o':=.loop { k with state:=.exhausted }) q
    have zp:((v.w.heap.size+1,Obj.loop { k with state:=.exhausted })::(Hc++Hj y++[(v.w.heap.size,.deferred (some []))])).Perm (Hc++Hj y++HLp (v.w.heap.size+1) v.w.heap.size { k with state:=.exhausted }):=by
      have:=(C (Hj y) Hc { k with state:=.exhausted }).symm;rw[<-yap_]at this;exact this
    refine⟨k.pending,_,run_endLoop hl (by rw[m];simp),?_⟩;have hpn:k.pending=none:=by rw[m]
    split
    case h_2=>rename_i c hc;rw[hpn]at hc;cases hc
    exact E y Z _ _ _ _ ⟨v'.im,_,v'.sl⟩ (hsd _) (z1.perm zp) (h3.trans (M.trans ((z2.permL (C _ _ _).symm).subR λb hb=>(zp.map Prod.fst).mem_iff.2 hb))) (aT_ (z2.le q) U)
theorem uO_ {σ α:Type} {g:Operand} {y:Nat} {assign body:Code} {A:FuncId} {caps:List Value} {Hj:σ->Hp} {Hc:Hp} {Γi:List Fct} {xv:α->Value} {good:σ->α->Prop} {nx:α->σ->σ->Prop} {Rc:σ->Prop}
    (k:σ) (C:Fr.ev fr g=some (.func (.func A) #[] caps.toArray)) (B:H.Perm (Hc++Hj k)) (m:∀ v,v.sat H->ag_ Γ v->ag_ Γi v)
    (e:∀ l D (rec:Loop),rec.params=#[y]->rec.state=.ready->rec.pending=none->Fr.sat N fr ⟨rec.tmps,[]⟩->rec.assign=assign->rec.body=body->∀ s x,good s x->
      kG_ P l (xv x) (Hj s++HLp l D rec) [] (λ_:{s':σ // nx x s s'}=>.bool true) (λs'=>Hj s'.1++HLp l D rec) (λ_=>[]))
    (hit:∀ l (Gj:σ->Hp),(∀ s x,good s x->kG_ P l (xv x) (Gj s) [] (λ_:{s':σ // nx x s s'}=>.bool true) (λs'=>Gj s'.1) (λ_=>[]))->
      Tri P A (.func (.yield l) #[] #[]::caps).toArray (Hc++Gj k) Γi (λ_:{s':σ // Rc s'}=>.tuple #[]) (λs'=>Hc++Gj s'.1) (λ_=>[]))
    (h:∀ s',Rc s'->∀ D l r,vT_ Fence.wide 0 P R N (vl_ D) v0 H0 K fr (Hc++Hj s'++HLp l D r) Γ) :
    Run P R N v0 H0 (.rangeFunc g #[y] assign body) K fr H Γ:=
  jg_ [] k C B m e hit h
end
section
variable {Fc:Fence} {n:Nat} {P:Program} {N:Nat} {D:List Deferred} {v0:Vw} {H0:Hp} {R:Exit->Act->World->Prop} {K:List Kt} {fr:Fr} {H:Hp} {Γ:List Fct}
variable {ops:Array Oper} {l:List Oper} {d:Nat} {ty:TypeId} {ps:String} {af:Array Edge}
theorem qK_ {t e:TypeId} {len sz:Nat} {parts:List (Nat×Operand)} {vs:List (Nat×Value)} {m:Value} {cs:List Value} (Z:Opn Fc) (S:∀ w,(underlying t).run P w=.ok (.slice e) w) (U:∀ w,(sizeOf e).run P w=.ok sz w) (hz:∀ w,(zeroValue e).run P w=.ok m w)
    (E:m.cells.toList.length=sz) (hp:Nat.blt 0 (len*sz)=true) (C:Nat.ble (len*sz) 16777216=true) (V:Fr.evp fr parts=some vs) (O:nk_ (λi=>some (i*sz,sz)) (jV_ m.cells.toList len) vs=some cs) (Y:Nat.blt d N=true)
    (hk:∀ b,fF_ Fc n P R N D v0 H0 ops l K ((d,.slice (some ⟨b,0,none⟩) len len)::fr) ((b,.cells cs.toArray e (0,0))::H) Γ):fF_ Fc n P R N D v0 H0 ops (⟨some d,.buildSlice t len parts.toArray,ty,ps,af,none⟩::l) K fr H Γ :=
  eK_ rfl λa v L G T X=>by
    refine⟨λf _=>Z.fn f,?_⟩;rw[semAt_eq rfl]
    have W:(execOp a.eval ⟨some d,.buildSlice t len parts.toArray,ty,ps,af,none⟩).run P v.w=.ok (.value (.slice (some ⟨v.w.heap.size,0,none⟩) len len)) (v.w.alloc (.cells cs.toArray e (0,0))):=by
      have y:=L.sat.evp V;have h:=js_ _ _ _ _ O;have k:0<len*sz:=by grind[Nat.blt_eq]
      have M:0<sz:=Nat.pos_of_mul_pos_left k;have I:len*sz<=16777216:=yaG_ C;have B:=ku_ m.cells.toList zaa_ len;rw[E]at B;simp only[ycB_]at B;rw[<-B]at h;have A:(parts.map λ(i,x)=>(i,a.eval x))=vs:=y;simp only[execOp,Instr.buildSlice,Sem.run_bind,S,Result.andThen_ok,U,ybc_,A];rw[yag_ zaa_,yag_ zaa_];simp only[Sem.run_bind,Sem.run_pure,hz,Result.andThen_ok,h];rfl
    rw[W];obtain⟨Q,J⟩:=ij_ (w':=v.w.alloc (.cells cs.toArray e (0,0))) (o:=.cells cs.toArray e (0,0)) G rfl rfl rfl rfl (yad_ _);exact hk v.w.heap.size _ ⟨v.im,_,v.sl⟩ (L.put Y) Q (T.trans J) (aT_ (J.le G) X)
theorem tx_ {k:Act->World->Prop} {H':Hp} (e:H.Perm H') (h:OkD N D v0 H0 k fr H' Γ):OkD N D v0 H0 k fr H Γ :=
  λa v y m A x=>h a v y (m.perm e) (A.subR λb B=>(e.map Prod.fst).mem_iff.2 B) x
theorem kc_ {t e:TypeId} {x y:Operand} {b off sz m:Nat} {sv:Value} {xs:List Value} {Hr:Hp} (C:Opn Fc) (i:Nat) {cur:Array Value} {T:TypeId} (h:at_ e sz sv m xs Hr) (A:∀ w,(sizeOf t).run P w=.ok 1 w)
    (B:Fr.ev fr x=some (.pointer (some ⟨b,off,none⟩))) (v:Fr.ev fr y=some sv) (hi:H[i]? = some (b,.cells cur T (0,0))) (k:Nat.ble (off+1) cur.size=true)
    (hk:fF_ Fc n P R N D v0 H0 ops l K fr (H.set i (b,.cells (cur.toList.take off++[sv]++cur.toList.drop (off+1)).toArray T (0,0))) Γ):fF_ Fc n P R N D v0 H0 ops (⟨none,.store t x y,ty,ps,af,none⟩::l) K fr H Γ :=
  by grind[eJ_,fQ_]
theorem nd_ {x y:Operand} {t e:TypeId} {sz by' m k c:Nat} {sv:Value} {xs news:List Value} {Hr F:Hp} {ad:Addr} (Z:Opn Fc) (G:Elt P t e sz by') (A:at_ e sz sv m xs Hr)
    (hx:Fr.ev fr x=some sv) (hy:Fr.ev fr y=some (.slice (some ad) k c)) (L:H.Perm (Hr++F)) (hl:news.length=k*sz) (B:∀ v,v.sat H->ag_ Γ v->∀ j u,news[j]? = some u->v.w.cell? (ad.add j)=some u) (E:∀ u∈news,u.oneCell'=true)
    (C:m+k<=maxLen) (W:(m+k)*by'<=140737488355328) (hN:Nat.blt d N=true)
    (hk:∀ sv' h,at_ e sz sv' (m+k) (xs++news) h->fF_ Fc n P R N D v0 H0 ops l K ((d,sv')::fr) (h++F) Γ) :
    fF_ Fc n P R N D v0 H0 ops (⟨some d,.call ⟨.builtin .append,#[x,y],#[t,t]⟩,ty,ps,af,none⟩::l) K fr H Γ :=
  eK_ rfl λa v J I h3 S=>by
    refine⟨λf _=>Z.fn f,?_⟩;rw[semAt_eq rfl];obtain⟨i,z,hi,T,es,Y,ez⟩:=G.info;have g:=I.perm L;have V:=B v I S;have U:=A.owns g;obtain⟨O,w',hr,X,q2,_⟩:=run_append_own (P:=P) v.w 0 t ty e i z sz by' G.und hi T es Y ez G.pos sv m xs U ad k c news hl V E C W (ybm_ _)
    obtain⟨a1,a2⟩:=lD_ v.w G.und hi T es U hl V E C zak_ hr;obtain⟨h,k1,k2,Q⟩:=jM_ A g X q2 a1 a2;have e1:a.eval x=sv:=J.sat.ev hx;have e2:a.eval y=.slice (some ad) k c:=J.sat.ev hy
    have M:(execOp a.eval ⟨some d,.call ⟨.builtin .append,#[x,y],#[t,t]⟩,ty,ps,af,none⟩).run P v.w=.ok (.value O) w':=by
      grind[execOp,resolve,invoke,builtin,Sem.run_bind,Sem.run_pure,Result.andThen_ok]
    rw[M];exact hk O h k1 _ ⟨v.im,w',v.sl⟩ (J.put hN) k2 (h3.trans (Q.permL L.symm)) (aT_ ((Q.permL L.symm).le I) S)
end
end Go.Sx
namespace Go.Vs
open Go Go.Sx
abbrev RSt:=Str×Str×Bool
def pO_ (l:List Str) (x:Str):List Str:=if x∈l then l else l++[x]
def ou_ (l:List Str):List Str:=l.foldl pO_ []
theorem uF_ (l:List Str) (x:Str):ou_ (l++[x])=pO_ (ou_ l) x:=by simp[ou_]
theorem Bp_ {l:List Str} {x y:Str}:y∈pO_ l x↔y∈l\/y=x:=by
  grind[pO_]
theorem Ds_ {l:List Str} {x:Str} (h:l.Nodup):(pO_ l x).Nodup:=by
  grind[pO_]
theorem ot_ (l:List Str):(ou_ l).Nodup/\∀ y,y∈ou_ l↔y∈l:=by
  unfold ou_
  have h:∀ (l e:List Str),e.Nodup->(l.foldl pO_ e).Nodup/\∀ y,y∈l.foldl pO_ e↔y∈e\/y∈l:=by
    intro l
    induction l<;>grind[Ds_,Bp_]
  grind
def ik (S:List RSt) (r:Str):List Str:=ou_ ((S.filter λz=>decide (z.1=r)).map (·.2.1))
def flg (S:List RSt) (r s:Str):Bool:=S.any λz=>decide (z.1=r)&&(decide (z.2.1=s)&&z.2.2)
theorem rU_ {S:List RSt} {r s:Str}:s∈ik S r↔∃ c,(r,s,c)∈S:=by
 unfold ik;rw[(ot_ _).2,yan_];constructor
 .grind
 rintro ⟨c,h⟩;exact⟨(r,s,c),by grind,rfl⟩
theorem DE_ (S:List RSt) (r:Str):(ik S r).Nodup:=(ot_ _).1
theorem rT_ (S:List RSt) (r s:Str) (c:Bool) (q:Str):ik (S++[(r,s,c)]) q=if r=q then pO_ (ik S q) s else ik S q:=by
  grind[ik,uF_]
theorem pq_ {S:List RSt} {r s:Str}:flg S r s=true↔(r,s,true)∈S:=by
  grind[flg]
theorem pr_ (S:List RSt) (r s:Str) (c:Bool) (q t:Str):flg (S++[(r,s,c)]) q t=(flg S q t||(decide (r=q)&&(decide (s=t)&&c))):=by
  grind[flg]
theorem flg_no {S:List RSt} {r s:Str} (h:s ∉ ik S r):flg S r s=false:=by
  grind[rU_,pq_]
end Go.Vs
namespace Go.Sx
open Go Go.Vs
structure BolE (es:Array MapEntry) (ks:List Str) (g:Str->Bool):Prop where
  keys:es.toList.map (·.key)=ks.map str
  vals:es.toList.map (·.val)=ks.map λk=>Value.bool (g k)
  nd:ks.Nodup
section
variable {P:Program} {kt:TypeId} {es:Array MapEntry} {ks:List Str} {g:Str->Bool}
theorem BolE.nil {g:Str->Bool}:BolE #[] [] g:=⟨rfl,rfl,ybG_⟩
theorem BolE.no (e:KeyT P kt str) (h:BolE es ks g) {k:Str} (hk:k ∉ ks):di_ P kt (str k) es.toList none:=e.nf k es.toList ks h.keys hk
theorem BolE.yes (A:KeyT P kt str) (h:BolE es ks g) {k:Str} (hk:k∈ks):∃ i e,ks[i]? = some k/\es[i]? = some e/\e.key=str k/\e.val=.bool (g k)/\di_ P kt (str k) es.toList (some (i,.bool (g k))):=by
  obtain⟨i,hi⟩:=yaJ_ hk
  have v:i<es.toList.length:=by
    have:=(yaf_.1 hi).1;have e:=yae_ List.length h.keys
    grind
  have x:=yaa_ v;have y:=yae_ (λl=>l[i]?) h.vals;simp only[yaM_,x,yaR_,hi,yah_]at y;have m:=yae_ (λl=>l[i]?) h.keys;simp only[yaM_,x,yaR_,hi,yah_]at m;refine⟨i,es.toList[i],hi,by grind,m,y,?_⟩;have:=A.sf k es.toList ks i _ h.keys h.nd hi x
  grind
theorem BolE.push (h:BolE es ks g) {k:Str} (hk:k ∉ ks) (b:Bool) (c:Nat) {e:Str->Bool} (v:e k=b) (m:∀ q,q∈ks->e q=g q):BolE (es.push ⟨str k,.bool b,c⟩) (ks++[k]) e:=by
  refine⟨by grind[keys],?_,?_⟩
  all_goals grind[vals,List.map_congr_left,nd]
theorem BolE.set (h:BolE es ks g) {k:Str} {i:Nat} (hi:ks[i]? = some k) (b:Bool) {x:Str->Bool} (J:x k=b) (G:∀ q,q≠k->x q=g q):BolE (es.modify i λy=>{ y with key:=str k,val:=.bool b }) ks x:=by
 have v:=yae_ List.length h.keys;simp only[yaC_]at v;refine⟨?_,?_,h.nd⟩
 .rw[<-h.keys]
  apply yaS_
  intro j;simp only[yaM_,ybU_,ybo_]
  by_cases m:i=j
  .subst m
   rw[yaq_ rfl];have hk:=yae_ (λl=>l[i]?) h.keys
   grind
  grind
 apply yaS_
 intro j;have A:=yae_ (λl=>l[j]?) h.vals;simp only[yaM_,ybU_,ybo_]at A ⊢
 by_cases m:i=j
 .grind
 rw[yag_ m,A];cases hq:ks[j]? with
 | none=>rfl
 | some q =>
   have:q≠k:=λe=>by
     subst e;have B:=(yaf_.1 hi).1;have C:=(yaf_.1 hq).1;have I:=h.nd
     grind[List.pairwise_iff_getElem]
   grind
end
def ha_ (E:Str->Array MapEntry×Nat) (p:Str×Nat):Nat×Obj:=(p.2,.map (E p.1).1 (E p.1).2)
def nv_ (o:Option Nat):Value:=.map o
structure MmE (ks:List (Str×Nat)) (S:List RSt) (es:Array MapEntry) (c:Nat) (E:Str->Array MapEntry×Nat):Prop where
  keys:es.toList.map (·.key)=(ks.map (·.1)).map str
  vals:es.toList.map (·.val)=ks.map λp=>nv_ (some p.2)
  nd:(ks.map (·.1)).Nodup
  all:∀ z∈S,z.1∈ks.map (·.1)
  born:Born es c
  inn:∀ k∈ks.map (·.1),BolE (E k).1 (ik S k) (flg S k)/\Born (E k).1 (E k).2
def MmO (mb:Nat) (ks:List (Str×Nat)) (S:List RSt) (H:Hp):Prop:=∃ es c E,H=(mb,.map es c)::ks.map (ha_ E)/\MmE ks S es c E
theorem MmO.nil (mb c:Nat):MmO mb [] [] [(mb,.map #[] c)]:=⟨#[],c,λ_=>(#[],0),rfl,rfl,rfl,ybG_,by simp,Born.nil c,by simp⟩
section
variable {P:Program} {kt:TypeId} {mb:Nat} {ks:List (Str×Nat)} {S:List RSt} {es:Array MapEntry} {c:Nat} {E:Str->Array MapEntry×Nat} {H:Hp}
theorem MmE.no (e:KeyT P kt str) (h:MmE ks S es c E) {k:Str} (hk:dc_ ks k=none):di_ P kt (str k) es.toList none:=e.nf k es.toList _ h.keys (eR_ hk)
theorem MmE.yes (m:KeyT P kt str) (h:MmE ks S es c E) {k:Str} {b:Nat} (hk:dc_ ks k=some b):∃ i,di_ P kt (str k) es.toList (some (i,nv_ (some b))):=by
  obtain⟨i,hi⟩:=yaJ_ (jG_ hk);have e:=yae_ (λl=>l[i]?) h.vals;simp only[yaM_,hi,yaR_]at e;cases hx:es.toList[i]? with
  | none=>grind
  | some x =>
    rw[hx]at e;simp only[yaR_,yah_]at e;refine⟨i,?_⟩;have:=m.sf k es.toList _ i x h.keys h.nd zak_ hx
    grind
theorem MmO.at (h:MmO mb ks S H) {k:Str} {b:Nat} (hk:dc_ ks k=some b):∃ es c Hr,H.Perm ((b,.map es c)::Hr)/\BolE es (ik S k) (flg S k)/\Born es c/\
    ∀ s d m v,BolE m (ik (S++[(k,s,d)]) k) (flg (S++[(k,s,d)]) k)->Born m v->∃ H',MmO mb ks (S++[(k,s,d)]) H'/\((b,Obj.map m v)::Hr).Perm H':=by
  obtain⟨es,c,E,rfl,hE⟩:=h;have hm:=jG_ hk;have x:k∈ks.map (·.1):=yaZ_ hm;obtain⟨A,B,rfl⟩:=List.append_of_mem hm;refine⟨(E k).1,(E k).2,(mb,.map es c)::(A++B).map (ha_ E),?_,(hE.inn k x).1,(hE.inn k x).2,λs d m v hB G=>?_⟩
  . rw[yaz_,yar_,yaz_]
    exact (List.Perm.cons _ ybq_).trans (.swap _ _ _)
  . have C:=hE.nd
    rw[yaz_,yar_,ybe_,ybt_]at C
    have M:A.map (ha_ λq=>if q=k then (m,v) else E q)=A.map (ha_ E):=ybR_ λp L=>by
      grind[ha_]
    have J:B.map (ha_ λq=>if q=k then (m,v) else E q)=B.map (ha_ E):=ybR_ λp L=>by
      grind[ha_]
    refine⟨(mb,.map es c)::(A++(k,b)::B).map (ha_ λq=>if q=k then (m,v) else E q),⟨es,c,_,rfl,hE.keys,hE.vals,hE.nd,λz y=>?_,hE.born,λq I=>?_⟩,?_⟩
    . rcases yai_.1 y with y|y
      . exact hE.all z y
      grind
    . by_cases e:q=k
      . grind
      . rw[yag_ e,rT_,yag_ (Ne.symm e)]
        have:flg (S++[(k,s,d)]) q=flg S q:=funext λt=>by grind[pr_]
        rw[this];exact hE.inn q I
    . have O:ha_ (λq=>if q=k then (m,v) else E q) (k,b)=(b,.map m v):=by grind[ha_]
      rw[yaz_,yaz_,yar_,M,J,O];exact ((List.Perm.cons _ ybq_).trans (.swap _ _ _)).symm
theorem MmE.push (h:MmE ks S es c E) {k:Str} (hk:dc_ ks k=none) (b A:Nat):MmE (ks++[(k,b)]) S (es.push ⟨str k,nv_ (some b),c⟩) (c+1) (λq=>if q=k then (#[],A) else E q):=by
 have m:=eR_ hk;refine⟨by grind[keys],by grind[vals],?_,λx B=>by simp only[yaz_,yai_];exact .inl (h.all x B),h.born.push _ _,λq C=>?_⟩
 .grind[nd]
 by_cases e:q=k
 .subst e
  rw[yaq_ rfl]
  have:ik S q=[]:=ybI_.2 λs y=>by
    obtain⟨d,v⟩:=rU_.1 y;exact m (h.all _ v)
  grind[BolE.nil,Born.nil]
 rw[yag_ e];refine h.inn q ?_
 grind
end
section ops
variable {P:Program} {N:Nf} {v0:Vw} {H0:Hp} {R:Exit->Act->World->Prop} {K:List Kt} {fr:Fr} {H F:Hp} {Γ:List Fct}
variable {ops:Array Oper} {l:List Oper} {d:Nat} {ty:TypeId} {ps:String} {af:Array Edge}
variable {mb:Nat} {ks:List (Str×Nat)} {S:List RSt} {Hx:Hp}
theorem fs_ {t kt C:TypeId} {x y:Operand} {k:Str} (e:KeyT P kt str) (A:∀ w,(underlying t).run P w=.ok (.map kt C) w) (L:∀ w,(zeroValue C).run P w=.ok (.map none) w) (J:MmO mb ks S Hx) (B:Fr.ev fr x=some (.map (some mb))) (m:Fr.ev fr y=some (str k)) (G:H.Perm (Hx++F)) :
    Yld P N fr H Γ (.lookup t x y false) ty (nv_ (dc_ ks k)):=by
  obtain⟨es,c,E,rfl,hE⟩:=J;have hm:∀ v:Vw,v.sat H->ag_ Γ v->v.w.heap[mb]? = some (.map es c):=λv h _=>(h.own (mb,.map es c) (G.mem_iff.2 zai_)).1
  cases hk:dc_ ks k with
  | none=>exact ep_ A L B m hm (e.ok k) (hE.no e hk)
  | some b =>
    obtain⟨i,I⟩:=hE.yes e hk;exact ef_ A B m hm (e.ok k) I
theorem yY_ {t A kt e:TypeId} {x y:Operand} {o:Option Nat} (B:P.underlying t=some (.map kt e)) (C:Fr.ev fr x=some (nv_ o)) (m:Fr.ev fr y=some (.map none)):Yld P N fr H Γ (.binOp .eql t x y A) ty (.bool (decide (o=none))) :=
  λa v h _ _ _ _ _=>by
    have k:decide (o=none)=o.isNone:=by cases o<;>simp
    rw[k];have:=run_eql_map_nil (P:=P) v.w t kt e o B;simp[execOp,h.ev C,h.ev m,eqGuard,nv_,this]
theorem kl_ {t kt I:TypeId} {x y:Operand} {k s:Str} {b:Nat} (e:KeyT P kt str) (C:∀ w,(underlying t).run P w=.ok (.map kt I) w) (Q:∀ w,(zeroValue I).run P w=.ok (.bool false) w) (M:MmO mb ks S Hx) (hk:dc_ ks k=some b) (G:Fr.ev fr x=some (.map (some b))) (A:Fr.ev fr y=some (str s)) (J:H.Perm (Hx++F)) :
    Yld P N fr H Γ (.lookup t x y false) ty (.bool (flg S k s)):=by
  obtain⟨es,c,Hr,O,B,_,_⟩:=M.at hk;have hm:∀ v:Vw,v.sat H->ag_ Γ v->v.w.heap[b]? = some (.map es c):=λv h _=>(h.own _ (J.mem_iff.2 (yax_ _ (O.mem_iff.2 yao_)))).1
  by_cases m:s∈ik S k
  . obtain⟨_,_,_,_,_,_,L⟩:=B.yes e m
    exact ef_ C G A hm (e.ok s) L
  . rw[flg_no m]
    exact ep_ C Q G A hm (e.ok s) (B.no e m)
theorem Ab_ {o:Op} {t kt M:TypeId} {x y z:Operand} {k:Str} {b h:Nat} (B:KeyT P kt str) (C:o=.insert t x y z\/o=.mapUpdate t x y z) (I:∀ w,(underlying t).run P w=.ok (.map kt M) w) (L:MmO mb ks S Hx) (hk:dc_ ks k=none)
    (J:Fr.ev fr x=some (.map (some mb))) (G:Fr.ev fr y=some (str k)) (O:Fr.ev fr z=some (.map (some b))) (m:H.Perm ((b,.map #[] h)::(Hx++F)))
    (v:∀ H',MmO mb (ks++[(k,b)]) S H'->Ops P R N v0 H0 ops l K fr (H'++F) Γ):Ops P R N v0 H0 ops (⟨none,o,ty,ps,af,none⟩::l) K fr H Γ:=by
  obtain⟨es,c,E,rfl,hE⟩:=L
  have Q:ks.map (ha_ λq=>if q=k then (#[],h) else E q)=ks.map (ha_ E):=ybR_ λp m=>by
    unfold ha_;dsimp only;rw[yag_ λe:p.1=k=>eR_ hk (e▸yaZ_ m)]
  have T:ha_ (λq=>if q=k then (#[],h) else E q) (k,b)=(b,.map #[] h):=by grind[ha_]
  have A:H.Perm ((mb,.map es c)::((ks++[(k,b)]).map (ha_ λq=>if q=k then (#[],h) else E q)++F)):=by
    refine m.trans ?_
    grind[List.Perm.symm,List.perm_middle]
  refine u_ A ?_;refine aR_ 0 C I J G O rfl (B.ok k) (hE.no B hk) ?_;simp only[yby_];exact v _ ⟨_,_,_,rfl,hE.push hk b h⟩
theorem ts_ {o:Op} {t kt et:TypeId} {x y z:Operand} {k s:Str} {b:Nat} {e M:Bool} (A:KeyT P kt str) (Q:o=.insert t x y z\/o=.mapUpdate t x y z) (U:∀ w,(underlying t).run P w=.ok (.map kt et) w) (Y:MmO mb ks S Hx) (hk:dc_ ks k=some b) (he:M=(flg S k s||e))
    (W:Fr.ev fr x=some (.map (some b))) (T:Fr.ev fr y=some (str s)) (O:Fr.ev fr z=some (.bool M)) (hp:H.Perm (Hx++F))
    (m:∀ H',MmO mb ks (S++[(k,s,e)]) H'->Ops P R N v0 H0 ops l K fr (H'++F) Γ):Ops P R N v0 H0 ops (⟨none,o,ty,ps,af,none⟩::l) K fr H Γ:=by
  subst he;obtain⟨es,c,Hr,Z,v,V,L⟩:=Y.at hk;have G:flg (S++[(k,s,e)]) k s=(flg S k s||e):=by grind[pr_]
  have J:∀ q,q≠s->flg (S++[(k,s,e)]) k q=flg S k q:=λq I=>by grind[pr_]
  refine u_ (hp.trans (Z.append_right F)) ?_
  by_cases h:s∈ik S k
  . obtain⟨i,en,g1,X,g3,g4,g5⟩:=v.yes A h
    obtain⟨H',B,C⟩:=L s e (es.modify i λy=>{ y with key:=str s,val:=.bool (flg S k s||e) }) c (by rw[rT_,yaq_ rfl,pO_,yaq_ h];exact v.set g1 _ G J) (V.modify i _ λ_=>rfl);exact fA_ 0 A Q U W T O rfl g5 X g3 (u_ (C.append_right F) (m H' B))
  . obtain⟨H',B,C⟩:=L s e (es.push ⟨str s,.bool (flg S k s||e),c⟩) (c+1) (by rw[rT_,yaq_ rfl,pO_,yag_ h];exact v.push h (flg S k s||e) c G λq I=>J q (λe=>h (e▸I))) (V.push _ _)
    exact aR_ 0 Q U W T O rfl (A.ok s) (v.no A h) (u_ (C.append_right F) (m H' B))
end ops
end Go.Sx
namespace Go.Vs
open Go Go.Sx
def Ax.selfs (x:Ax):Nat:=x.roles.countP λr=>decide (r=x.role)
def Ax.exm (x:Ax) (i:Nat):Bool:=decide (x.roles[i]? = some x.role)&&((decide (x.selfs=1)&&(decide (i=0)||decide (i+1=x.roles.length)))||(decide (x.selfs=2)&&decide (x.roles.length=2)))
def Ax.chs (x:Ax):Nat->List RSt
  | 0=>[]
  | i+1=>x.chs i++(match x.roles[i]? with|some r=>if x.exm i=true then [] else [(r,x.role,true)]|none=>[])
def Ax.steps (x:Ax):List RSt :=
  if x.kind=5 then (match x.roles[0]? with|some r=>if r=x.role then [] else [(r,x.role,false)]|none=>[])
  else if x.kind=6 then x.chs x.roles.length else []
def dB_ (l:List Ax):List RSt:=l.flatMap Ax.steps
theorem uK_ {l m:List Ax} (h:∀ x∈l,x∈m):∀ z∈dB_ l,z∈dB_ m:=by grind[dB_]
theorem dL_ {l:List Ax} {i:Nat} {x:Ax} (h:l[i]? = some x):dB_ (l.take (i+1))=dB_ (l.take i)++x.steps:=by
  grind[dB_,List.take_add_one]
theorem Ax.steps_five {x:Ax} {r:Str} (hk:x.kind=5) (h:x.roles[0]? = some r) (d:r≠x.role):x.steps=[(r,x.role,false)]:=by grind[steps]
theorem Ax.steps_same {x:Ax} {r:Str} (hk:x.kind=5) (h:x.roles[0]? = some r) (d:r=x.role):x.steps=[]:=by grind[steps]
theorem Ax.steps_six {x:Ax} (hk:x.kind=6):x.steps=x.chs x.roles.length:=by grind[steps]
theorem Ax.steps_no {x:Ax} (d:x.kind≠5) (e:x.kind≠6):x.steps=[]:=by grind[steps]
theorem Ax.chs_yes {x:Ax} {i:Nat} {r:Str} (h:x.roles[i]? = some r) (d:x.exm i=true):x.chs (i+1)=x.chs i:=by grind[chs]
theorem Ax.chs_no {x:Ax} {i:Nat} {r:Str} (h:x.roles[i]? = some r) (d:x.exm i=false):x.chs (i+1)=x.chs i++[(r,x.role,true)]:=by grind[chs]
def Frm (ks:List (Str×Nat)) (S:List RSt):Prop:=∀ k∈ks.map (·.1),∃ s c,(k,s,c)∈S
theorem Frm.nil {S:List RSt}:Frm [] S:=λk hk=>by simp at hk
theorem Frm.more {ks:List (Str×Nat)} {S T:List RSt} (h:Frm ks S):Frm ks (S++T):=λk hk=>by
  obtain⟨s,c,d⟩:=h k hk
  grind
theorem Frm.add {ks d:List (Str×Nat)} {S:List RSt} {r s:Str} {e:Bool} (h:Frm ks S) (m:∀ k∈d.map (·.1),k∈ks.map (·.1)\/k=r):Frm d (S++[(r,s,e)]):=λk hk=>by
 rcases m k hk with v|rfl
 .obtain⟨t,c,x⟩:=h k v
  grind
 grind
def sE (S:List RSt) (r s:Str) (c:Bool):Prop:=(r,s,c)∈S
def yV_ (S:List RSt):Prop:=∃ n,Clo (sE S) n
theorem Clo.sub {α:Type} {E F:α->α->Bool->Prop} {n:Nat} (h:∀ x y c,E x y c->F x y c):Clo E n->Clo F n:=λ⟨f,c,k,d,v,e⟩=>⟨f,c,k,d,λm hm=>h _ _ _ (v m hm),e⟩
theorem yV_.sub {S T:List RSt} (h:∀ z∈S,z∈T):yV_ S->yV_ T:=λ⟨n,d⟩=>⟨n,d.sub λx y c e=>h _ e⟩
theorem Ae_ {α:Type} {l:List α} (e:l.Nodup) {i j:Nat} {x:α} (hi:l[i]? = some x) (d:l[j]? = some x):i=j:=by
  grind[List.pairwise_iff_getElem]
structure GrO (S:List RSt) (R:List Str) (G:List (List (Nat×Bool))):Prop where
  len:G.length=R.length
  nd:R.Nodup
  mem:∀ r,r∈R↔∃ s c,(r,s,c)∈S
  row:∀ (i:Nat) (r:Str) (l:List (Nat×Bool)),R[i]? = some r->G[i]? = some l->∀ (j:Nat) (c:Bool),(j,c)∈l↔∃ s,R[j]? = some s/\(∃ c',(r,s,c')∈S)/\c=flg S r s
theorem GrO.to {S:List RSt} {R:List Str} {G:List (List (Nat×Bool))} (h:GrO S R G):∀ (i:Nat) (l:List (Nat×Bool)),G[i]? = some l->∀ s∈l,s.1<G.length:=by
  intro i l hl s e;have d:=(yaf_.1 hl).1;rw[h.len]at d;obtain⟨t,k,_⟩:=(h.row i _ l (yaa_ d) hl s.1 s.2).1 e
  grind[len]
theorem GrO.circ {S:List RSt} {R:List Str} {G:List (List (Nat×Bool))} (h:GrO S R G):yV_ S↔∃ n,Clo (gE G) n:=by
 constructor
 .rintro ⟨n,f,c,C,H,v,y,e,k⟩
  have N:∀ m,∃ j,m<=n->R[j]? = some (f m):=λm=>by
    by_cases g:m<=n
    . by_cases K:m<n
      . obtain⟨j,J⟩:=yaJ_ ((h.mem (f m)).2 ⟨_,_,v m K⟩)
        exact⟨j,λ_=>J⟩
      . obtain⟨j,J⟩:=yaJ_ ((h.mem (f 0)).2 ⟨_,_,v 0 C⟩)
        grind
    . exact⟨0,λq=>absurd q g⟩
  obtain⟨g,E⟩:=Classical.axiomOfChoice N;refine⟨n,g,λm=>flg S (f m) (f (m+1)),C,?_,λm hm=>?_,y,e,?_⟩
  .have A:=E n (yad_ _)
   have I:=E 0 (ybm_ _);rw[H]at A;exact Ae_ h.nd A I
  .have A:=E m zaa_
   have x:g m<G.length:=by grind[len]
   exact⟨_,yaa_ x,(h.row (g m) (f m) _ A (yaa_ x) _ _).2 ⟨f (m+1),E (m+1) zaa_,⟨_,v m hm⟩,rfl⟩⟩
  have:=v y e;rw[k]at this;exact pq_.2 this
 rintro ⟨n,g,c,C,H,v,y,e,k⟩
 have L:∀ m,m<n->∃ d,((R[g m]?).getD [],(R[g (m+1)]?).getD [],d)∈S/\(c m=true->d=true):=λm hm=>by
   obtain⟨l,hl,M⟩:=v m hm;have F:g m<R.length:=by grind[len]
   obtain⟨s,A,⟨O,I⟩,P⟩:=(h.row (g m) _ l (yaa_ F) hl _ _).1 M
   grind[pq_]
 have B:∀ m,∃ d,m<n->((R[g m]?).getD [],(R[g (m+1)]?).getD [],d)∈S/\(c m=true->d=true):=λm=>by
   by_cases g:m<n
   all_goals grind
 obtain⟨d,B⟩:=Classical.axiomOfChoice B;exact⟨n,λm=>(R[g m]?).getD [],d,C,by grind,λm hm=>(B m hm).1,y,e,(B y e).2 k⟩
end Go.Vs
namespace Go.Sx
open Go
section
variable {P:Program} {N:Nf} {v0:Vw} {H0:Hp} {R:Exit->Act->World->Prop} {K:List Kt} {fr:Fr} {H F:Hp} {Γ:List Fct} {ops:Array Oper} {l:List Oper} {d:Nat} {ty:TypeId} {ps:String} {af:Array Edge} {e:TypeId} {sz n:Nat} {sv:Value} {xs:List Value} {Hr:Hp}
theorem Am_ (z:List Value) (h:0<z.length) (n:Nat):madeCells z.toArray (n*z.length)=(jV_ z n).toArray:=ku_ z h n
theorem nc_ {t:TypeId} {x y:Operand} {by':Nat} {z:Value} (G:P.underlying t=some (.slice e)) (hi:(P.info? e).map (λi=>(i.zero,i.size,i.bytes))=some (some z,sz,by')) (k:z.cells.toList.length=sz) (L:0<sz) (I:Fr.ev fr x=some (.int .i64 (n:Int))) (E:Fr.ev fr y=some (.int .i64 (n:Int)))
    (M:by'*n<=281474976710656) (A:n<=maxLen) (J:Nat.blt d N.n=true)
    (hk:∀ sv Hr,at_ e sz sv n (jV_ z.cells.toList n) Hr->Ops P R N v0 H0 ops l K ((d,sv)::fr) (Hr++H) Γ):Ops P R N v0 H0 ops (⟨some d,.makeSlice t x y,ty,ps,af,none⟩::l) K fr H Γ:=by
  refine hm_ (x:=λb=>.slice (some ⟨b,0,none⟩) n n) (o:=.cells (jV_ z.cells.toList n).toArray e (0,0)) J (λa v C _ _=>?_) (λb=>hk _ [(b,.cells (jV_ z.cells.toList n).toArray e (0,0))] ⟨?_,.inr ⟨b,n,(jV_ z.cells.toList n).toArray,rfl,rfl,yad_ _,A,?_,?_⟩⟩)
  . cases h:P.info? e with
    | none=>grind
    | some i =>
      rw[h]at hi;simp only[yaR_,yah_,ybN_]at hi
      have m:(i.bytes:Int)*(n:Int)<=281474976710656:=by
        grind
      have B:=run_make (P:=P) v.w t e i z G h hi.1 .i64 .i64 (n:Int) (n:Int) zaa_ (Int.le_refl _) m (by grind[maxLen]);have hm:=Am_ z.cells.toList zaa_ n;rw[k,ycB_]at hm;rw[hi.2.1,ycO_,hm]at B;simp only[execOp,C.ev I,C.ev E];simp[B]
  all_goals grind[of_]
theorem oe_ {α:Type} (f:α->List Value) (z:α):∀ n,jV_ (f z) n=(List.replicate n z).flatMap f
  | 0=>rfl
  | n+1=>by rw[jV_,List.replicate_succ,yaT_,oe_ f z n]
end
end Go.Sx
namespace Go.Vs
open Go Go.Sx
def Ky.cells (k:Ky):List Value:=[.int .i64 k.kind,str k.role,str k.atom]
def Ky.val (k:Ky):Value:=.agg k.cells.toArray
def sS_ (s:kH_):List Value:=[str s.1,str s.2]
def iu_ (s:kH_):Value:=.agg (sS_ s).toArray
def Ky.eqb (p q:Ky):Bool:=(p.kind==q.kind)&&((p.role==q.role)&&((p.atom==q.atom)&&true))
theorem Ky.eqb_eq (p q:Ky):p.eqb q=decide (p=q):=by
  rw[ybh_];cases p;cases q;simp[Ky.eqb]
def DB_ (p q:kH_):Bool:=(p.1==q.1)&&((p.2==q.2)&&true)
theorem zz_ (p q:kH_):DB_ p q=decide (p=q):=by
  grind[DB_]
theorem Fc.cells_one (p:Fc):p.cells.all Value.oneCell'=true:=rfl
end Go.Vs
namespace Go.Sx
open Go Go.Vs
structure Emt (P:Program) (tF:TypeId) where
  stp:Fc->List Fc->List Fc
  kof:List Fc->List Fc
  St:List Fc->List Fc->Hp->Prop
  fn:FuncId
  caps:List Value
  ef:Fct
  kb:Nat
  fb:Nat
  grows:Grows stp kof
  emit:∀ f nw fm H,St nw fm H->Tri P fn (f.val::caps).toArray H [ef] (λ_:{H':Hp // St (stp f nw) fm H'}=>.tuple #[]) (λy=>y.1) (λ_=>[])
  known:∀ {nw fm H},St nw fm H->∃ es c,(kb,Obj.map es c)∈H/\SetE Fc.val es (kof nw)
  firm:∀ {nw fm H},St nw fm H->∃ es c q,(fb,Obj.map es c)∈H/\SetE Fc.val es q/\∀ f,f∈q↔f∈fm
  setf:∀ {nw fm H} (f:Fc),St nw fm H->∃ es c q Hr,H.Perm ((fb,Obj.map es c)::Hr)/\SetE Fc.val es q/\(∀ f,f∈q↔f∈fm)/\∀ es' c',SetE Fc.val es' (if f∈q then q else q++[f])->∃ H',St nw (f::fm) H'/\H'.Perm ((fb,Obj.map es' c')::Hr)
section
variable {P:Program} {N:Nf} {v0:Vw} {H0:Hp} {R:Exit->Act->World->Prop} {K:List Kt} {fr:Fr} {H:Hp} {Γ:List Fct}
variable {ops:Array Oper} {l:List Oper} {d:Nat} {ty:TypeId} {ps:String} {af:Array Edge} {tF:TypeId} {E:Emt P tF} {nw fm:List Fc} {Hs F:Hp}
theorem oW_ {b:Nat} {o:Obj} {v:Vw} (e:H.Perm (Hs++F)) (hm:(b,o)∈Hs) (h:v.sat H):v.w.heap[b]? = some o:=(h.own _ (e.mem_iff.2 (yax_ _ hm))).1
theorem jE_ {t e:TypeId} {x y:Operand} {f:Fc} (hS:E.St nw fm Hs) (I:KeyT P tF Fc.val) (B:∀ w,(underlying t).run P w=.ok (.map tF e) w) (J:∀ w,(zeroValue e).run P w=.ok (.bool false) w) (C:Fr.ev fr x=some (.map (some E.kb))) (A:Fr.ev fr y=some f.val) (k:H.Perm (Hs++F)) :
    Yld P N fr H Γ (.lookup t x y false) ty (.bool (decide (f∈E.kof nw))):=by
  obtain⟨es,c,m,G⟩:=E.known hS;exact cU_ I B J C A G λv h _=>oW_ k m h
theorem sx_ {t e:TypeId} {x y:Operand} {f:Fc} (hS:E.St nw fm Hs) (I:KeyT P tF Fc.val) (B:∀ w,(underlying t).run P w=.ok (.map tF e) w) (J:∀ w,(zeroValue e).run P w=.ok (.bool false) w) (C:Fr.ev fr x=some (.map (some E.fb))) (A:Fr.ev fr y=some f.val) (k:H.Perm (Hs++F)) :
    Yld P N fr H Γ (.lookup t x y false) ty (.bool (decide (f∈fm))):=by
  obtain⟨es,c,q,m,G,L⟩:=E.firm hS;have:=cU_ (P:=P) (N:=N) (H:=H) (Γ:=Γ) (ty:=ty) I B J C A G λv h _=>oW_ k m h
  grind
theorem zZ_ {o:Op} {t Q:TypeId} {x y z:Operand} {f:Fc} (hS:E.St nw fm Hs) (M:KeyT P tF Fc.val) (A:o=.insert t x y z\/o=.mapUpdate t x y z) (I:∀ w,(underlying t).run P w=.ok (.map tF Q) w)
    (J:Fr.ev fr x=some (.map (some E.fb))) (B:Fr.ev fr y=some f.val) (S:Fr.ev fr z=some (.bool true)) (k:H.Perm (Hs++F))
    (hk:∀ Hs',E.St nw (f::fm) Hs'->Ops P R N v0 H0 ops l K fr (Hs'++F) Γ):Ops P R N v0 H0 ops (⟨none,o,ty,ps,af,none⟩::l) K fr H Γ:=by
  obtain⟨es,c,q,Hr,v,C,T,m⟩:=E.setf f hS;refine u_ (H':=(E.fb,.map es c)::(Hr++F)) (k.trans (by have:=v.append_right F;grind)) ?_;refine hJ_ 0 M A I J B S rfl C λh G e=>?_;obtain⟨H',L,O⟩:=m h G e;simp only[yby_];exact u_ (by have:=(O.append_right F).symm;grind) (hk H' L)
end
structure EngB where
  g:Nat
  pb:Nat
  ab:Nat
  ub:Nat
  ob:Nat
  ib:Nat
  rb:Nat
  sb:Nat
  lad:Ao
  lcap:Nat
  lps:List Str
structure EngA where
  p:Ky->Ao×Nat
  a:Str->Ao×Nat
  u:Str->Ao×Nat
  o:kH_->Ao×Nat
  i:kH_->Ao×Nat
  r:kH_->Ao×Nat
  s:kH_->Ao×Nat
def EngB.cells (B:EngB) {P:Program} {tF:TypeId} (E:Emt P tF):List Value :=
  [.map (some B.pb),.slice B.lad B.lps.length B.lcap,.map (some E.kb),.func (.func E.fn) #[] E.caps.toArray,.map (some B.ab),.map (some B.ub),.map (some B.ob),.map (some B.ib),.map (some B.rb),.map (some B.sb),.map (some E.fb)]
structure IxH where
  a:Hp
  u:Hp
  o:Hp
  i:Hp
  r:Hp
  s:Hp
def IxO (tS tF:TypeId) (B:EngB) (x:Ix) (y:IxH):Prop :=
  cC_ str aa_ tS 1 x.above B.ab y.a/\cC_ str aa_ tS 1 x.under B.ub y.u/\cC_ iu_ aa_ tS 1 x.frm B.ob y.o/\cC_ iu_ aa_ tS 1 x.into B.ib y.i/\cC_ iu_ Fc.cells tF 6 x.ranges B.rb y.r/\cC_ iu_ Fc.cells tF 6 x.firms B.sb y.s
end Go.Sx
namespace Go.Proofs.YtbffkokbdeppaaaGreatDoor
open Go Go.Sx Go.Proofs Tryz
attribute [local irreducible] Code.wp wpList wpAnyH
open Go.Vs
theorem eqKy (p q:Ky) (w:World):(Op.equalIn 10000 329 (Ky.val p) (Ky.val q)).run prog w=.ok (decide (p=q)) w:=by
  have h:=run_equalIn_struct (P:=prog) w 9999 329 (Ky.cells p).toArray (Ky.cells q).toArray (by grind[Program.fieldsOf,underlying329]) Tryz.stoodInHeld329;refine h.trans ?_;rw[<-Ky.eqb_eq];simp only[Program.fieldsOf,underlying329];exact bR_ rfl bb_ rfl rfl (eqI o_ w) (bR_ rfl W_ rfl rfl (eqS aB_ w) (bR_ rfl W_ rfl rfl (eqS aB_ w) (jQ_ w)))
theorem eqSpot (p q:kH_) (w:World):(Op.equalIn 10000 267 (iu_ p) (iu_ q)).run prog w=.ok (decide (p=q)) w:=by
  have h:=run_equalIn_struct (P:=prog) w 9999 267 (sS_ p).toArray (sS_ q).toArray (by grind[Program.fieldsOf,underlying267]) Tryz.stoodInHeld267;refine h.trans ?_;rw[<-zz_];simp only[Program.fieldsOf,underlying267];exact bR_ rfl W_ rfl rfl (eqS aB_ w) (bR_ rfl W_ rfl rfl (eqS aB_ w) (jQ_ w))
theorem okKy (p:Ky):hV_ prog 329 (Ky.val p):=λe w=>by
 have hi:∀ (n:Int) (w:World),(Instr.checkKey e (9998+1) 3 (.int .i64 n)).run prog w=.ok () w:=λn w=>MapKept.run_checkKey (d:=.int .i64) o_ zbr_ e 9998
 have k:∀ (n:Str) (w:World),(Instr.checkKey e (9998+1) 9 (str n)).run prog w=.ok () w:=λn w=>MapKept.run_checkKey (d:=.string) aB_ zaN_ e 9998
 refine ckF (n:=9999) underlying329 λf h=>?_;simp only[yal_,yat_,ybd_]at h;rcases h with rfl|rfl|rfl
 .exact⟨rfl,bb_,_,rfl,hi _⟩
 .exact⟨rfl,W_,_,rfl,k _⟩
 exact⟨rfl,W_,_,rfl,k _⟩
theorem okSpot (p:kH_):hV_ prog 267 (iu_ p):=λe w=>by
 have k:∀ (n:Str) (w:World),(Instr.checkKey e (9998+1) 9 (str n)).run prog w=.ok () w:=λn w=>MapKept.run_checkKey (d:=.string) aB_ zaN_ e 9998
 refine ckF (n:=9999) underlying267 λf h=>?_;simp only[yal_,yat_,ybd_]at h;rcases h with rfl|rfl
 .exact⟨rfl,W_,_,rfl,k _⟩
 exact⟨rfl,W_,_,rfl,k _⟩
theorem okFc (p:Fc):hV_ prog 104 p.val:=λe w=>by
 have hi:∀ (n:Int) (w:World),(Instr.checkKey e (9998+1) 3 (.int .i64 n)).run prog w=.ok () w:=λn w=>MapKept.run_checkKey (d:=.int .i64) o_ zbr_ e 9998
 have h:∀ (n:Str) (w:World),(Instr.checkKey e (9998+1) 9 (str n)).run prog w=.ok () w:=λn w=>MapKept.run_checkKey (d:=.string) aB_ zaN_ e 9998
 refine ckF (n:=9999) underlying104 λf k=>?_;simp only[yal_,yat_,ybd_]at k;rcases k with rfl|rfl|rfl|rfl|rfl|rfl
 .exact⟨rfl,bb_,_,rfl,hi _⟩
 .exact⟨rfl,W_,_,rfl,h _⟩
 .exact⟨rfl,W_,_,rfl,h _⟩
 .exact⟨rfl,W_,_,rfl,h _⟩
 .exact⟨rfl,bb_,_,rfl,hi _⟩
 exact⟨rfl,bb_,_,rfl,hi _⟩
theorem ix_:KeyT prog 329 Ky.val:=eV_ (K:=Ky) underlying329 okKy (λp q w=>eqKy p q w) λk=>hE_ (l:=Ky.cells k) λv d=>by
  grind[Ky.cells,jf_,fR_]
theorem eb_:KeyT prog 267 iu_:=eV_ (K:=kH_) underlying267 okSpot (λp q w=>eqSpot p q w) λk=>hE_ (l:=sS_ k) λv d=>by
  grind[sS_,fR_]
theorem lh_:KeyT prog 104 Fc.val:=eV_ (K:=Fc) underlying104 okFc (λp q w=>eqFc p q w) λk=>hE_ (l:=Fc.cells k) λv d=>by
  grind[Fc.cells,jf_,fR_]
theorem Ay_:KeyT prog 80 Pc.val:=eV_ (K:=Pc) gi_ wB_ (λp q w=>eqPc p q w) λk=>hE_ (l:=Pc.cells k) λv d=>by
  simp only[Pc.cells,yal_,yat_,ybd_]at d
  grind[jf_,fR_]
theorem nx_:KeyT prog 9 str:=tL_ aB_
theorem vF_:Elt prog 50 104 6 72:=fT_ underlying50 (z:=.agg #[i4_ 0,str [],str [],str [],i4_ 0,i4_ 0]) zad_ rfl zae_
theorem vE_:Elt prog 69 80 10 128:=fT_ underlying69 (z:=.agg #[i4_ 0,str [],str [],str [],str [],str [],str [],i4_ 0,i4_ 0,i4_ 0]) zad_ rfl zae_
theorem dj_:Elt prog 25 9 1 16:=fT_ iV_ (z:=.string ⟨#[]⟩) zad_ rfl zae_
theorem eY_:gr_ prog 329 [(0,1),(1,1),(2,1)] [i4_ 0,str [],str []]:=⟨_,zeroValue329,runUnderlying329,λw=>by simp[R_,D_]⟩
theorem if_:gr_ prog 267 [(0,1),(1,1)] [str [],str []]:=⟨_,gg_,runUnderlying267,λw=>by simp[D_]⟩
theorem BR_:gr_ prog 204 [(0,1),(1,1),(2,1),(3,1),(4,1),(5,1),(6,1),(7,1),(8,1),(9,1),(10,1)] [.map none,.slice none 0 0,.map none,.nilFunc,.map none,.map none,.map none,.map none,.map none,.map none,.map none]:=⟨_,zeroValue204,runUnderlying204,λw=>by simp[dG_,sizeOf197,sizeOf198,eZ_,sizeOf200,sizeOf201,sizeOf202]⟩
theorem cz_ (s:Str):(aa_ s).all Value.oneCell'=true:=rfl
theorem ll_ (s:Int):(dl_ s).all Value.oneCell'=true:=rfl
def gF (B:EngB) (E:Emt prog 104):Fct:=bk_ B.g (.cells (B.cells E).toArray 204 (0,0))
def pF (B:EngB) (pm:List (Ky×Pc)) (A:EngA):Fct:=mlF prog 329 Ky.val Pc.cells B.pb pm A.p
def aF (B:EngB) (x:Ix) (A:EngA):Fct:=mlF prog 9 str aa_ B.ab x.above A.a
def uF (B:EngB) (x:Ix) (A:EngA):Fct:=mlF prog 9 str aa_ B.ub x.under A.u
def oF (B:EngB) (x:Ix) (A:EngA):Fct:=mlF prog 267 iu_ aa_ B.ob x.frm A.o
def iF (B:EngB) (x:Ix) (A:EngA):Fct:=mlF prog 267 iu_ aa_ B.ib x.into A.i
def rF (B:EngB) (x:Ix) (A:EngA):Fct:=mlF prog 267 iu_ Fc.cells B.rb x.ranges A.r
def sF (B:EngB) (x:Ix) (A:EngA):Fct:=mlF prog 267 iu_ Fc.cells B.sb x.firms A.s
end Go.Proofs.YtbffkokbdeppaaaGreatDoor
