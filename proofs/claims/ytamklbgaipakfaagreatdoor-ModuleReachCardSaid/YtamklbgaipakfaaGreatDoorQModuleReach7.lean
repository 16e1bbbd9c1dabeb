/-
  Part of the proof of the law ModuleReach over this seat: the small logic, the data, the contracts of functions (no condition).
-/
import Derived.Test.YtamklbgaipakfaaGreatDoorQModuleReach2
import Derived.Test.YtamklbgaipakfaaGreatDoorQModuleReach6
import Derived.Test.YtamklbgaipakfaaGreatDoorQModuleReach3
import Derived.Test.YtamklbgaipakfaaGreatDoorQModuleReach4
set_option linter.unusedVariables false
set_option linter.unusedSimpArgs false
set_option linter.unusedSectionVars false
set_option maxHeartbeats 1000000
namespace Go.Proofs.YtamklbgaipakfaaGreatDoor
open Go Go.Sx Go.Proofs
attribute [local irreducible] Code.wp wpList wpAnyH
open Go.Vs
theorem sA_ (x:Ax) (hok:x.ok) (hc:x.check=0) {kb:Nat} (frm:Int) (q:CS) (hq:CInv [] q) :
    Tri Tryz.prog 67 #[zp_ kb 0,x.val] (eW_ kb frm q) [x.memF,ck_] (fun _:{q':CS // CInv (x.pieces frm) q'}=>.tuple #[]) (fun q'=>eW_ kb frm q'.1) (fun _=>[]):=by
  have G:=Ax.good_of hc
  obtain⟨k,op,⟨kl,nl,ll,hl,al,cl,pl⟩,⟨kr,nr,lr,hr,ar,cr,pr⟩,ad,cap,rs,ro,a,b⟩:=x
  have hlen:=hok.len
  have hcap:=hok.cap
  have h1:=G.k1
  have h9:=G.k9
  have h0:([]:List Pc).length=0:=rfl
  dsimp only at hlen hcap h1 h9
  show Tri Tryz.prog 67 #[zp_ kb 0,.agg #[.int .i64 k,.bool op,.int .i64 kl,str nl,.int .i64 ll,.int .i64 hl,.slice al pl.length cl,.int .i64 kr,str nr,.int .i64 lr,.int .i64 hr,.slice ar pr.length cr,.slice ad rs.length cap,str ro,str a,str b]] _ _ _ _ _
  refine o_ Tryz.func67 rfl rfl Tryz.ntmps67 rfl fun v0=>?_
  refine m_ ?_
  refine d_ ?_
  refine ah_ rfl rfl fun b1=>?_
  refine j_ ?_
  refine e_ rfl ?_
  refine m_ ?_
  refine d_ ?_
  refine c_ (q_ rfl) rfl ?_
  refine i_ (ou_ kb) rfl (.refl _) zt rfl fun x=>?_
  obtain⟨bk,bl,br⟩:=x
  refine c_ (q_ rfl) rfl ?_
  refine c_ (cv_ rfl rfl) rfl ?_
  refine c_ (cv_ rfl rfl) rfl ?_
  refine c_ (n_ rfl) rfl ?_
  refine c_ (n_ rfl) rfl ?_
  refine j_ ?_
  refine e_ rfl ?_
  refine m_ ?_
  refine d_ ?_
  refine c_ (A_ p_ rfl rfl rfl ab_) rfl ?_
  refine c_ (M_ 0 ay_ rfl rfl rfl) rfl ?_
  refine j_ ?_
  refine e_ rfl ?_
  refine aB_ ?_
  refine m_ ?_
  refine d_ ?_
  refine s_ (V_ rfl rfl) rfl fun r1 hr1=>?_
  refine c_ (n_ rfl) rfl ?_
  refine j_ ?_
  refine e_ rfl ?_
  cases r1
  · skip
    replace hr1:=znb hr1
    try dsimp only[Con.kind,Con.parts,Con.name,Con.lo,Con.hi,Con.cap,Con.ad]at hr1
    refine F_ rfl ?_
    refine m_ ?_
    refine d_ ?_
    refine s_ (V_ rfl rfl) rfl fun r2 hr2=>?_
    refine c_ (n_ rfl) rfl ?_
    refine j_ ?_
    refine e_ rfl ?_
    cases r2
    · skip
      replace hr2:=znb hr2
      try dsimp only[Con.kind,Con.parts,Con.name,Con.lo,Con.hi,Con.cap,Con.ad]at hr2
      refine F_ rfl ?_
      refine m_ ?_
      refine d_ ?_
      refine s_ (V_ rfl rfl) rfl fun r3 hr3=>?_
      refine c_ (n_ rfl) rfl ?_
      refine j_ ?_
      refine e_ rfl ?_
      cases r3
      · skip
        replace hr3:=znb hr3
        try dsimp only[Con.kind,Con.parts,Con.name,Con.lo,Con.hi,Con.cap,Con.ad]at hr3
        refine F_ rfl ?_
        refine m_ ?_
        refine d_ ?_
        refine s_ (V_ rfl rfl) rfl fun r4 hr4=>?_
        refine c_ (n_ rfl) rfl ?_
        refine j_ ?_
        refine e_ rfl ?_
        cases r4
        · skip
          replace hr4:=znb hr4
          try dsimp only[Con.kind,Con.parts,Con.name,Con.lo,Con.hi,Con.cap,Con.ad]at hr4
          refine F_ rfl ?_
          refine m_ ?_
          refine d_ ?_
          refine s_ (V_ rfl rfl) rfl fun r5 hr5=>?_
          refine c_ (n_ rfl) rfl ?_
          refine j_ ?_
          refine e_ rfl ?_
          cases r5
          · skip
            replace hr5:=znb hr5
            try dsimp only[Con.kind,Con.parts,Con.name,Con.lo,Con.hi,Con.cap,Con.ad]at hr5
            refine F_ rfl ?_
            refine m_ ?_
            refine d_ ?_
            refine s_ (V_ rfl rfl) rfl fun r6 hr6=>?_
            refine c_ (n_ rfl) rfl ?_
            refine j_ ?_
            refine e_ rfl ?_
            cases r6
            · skip
              replace hr6:=znb hr6
              try dsimp only[Con.kind,Con.parts,Con.name,Con.lo,Con.hi,Con.cap,Con.ad]at hr6
              refine F_ rfl ?_
              refine m_ ?_
              refine d_ ?_
              refine s_ (V_ rfl rfl) rfl fun r7 hr7=>?_
              refine c_ (n_ rfl) rfl ?_
              refine j_ ?_
              refine e_ rfl ?_
              cases r7
              · skip
                replace hr7:=znb hr7
                try dsimp only[Con.kind,Con.parts,Con.name,Con.lo,Con.hi,Con.cap,Con.ad]at hr7
                refine F_ rfl ?_
                refine m_ ?_
                refine d_ ?_
                refine s_ (V_ rfl rfl) rfl fun r8 hr8=>?_
                refine c_ (n_ rfl) rfl ?_
                refine j_ ?_
                refine e_ rfl ?_
                cases r8
                · skip
                  replace hr8:=znb hr8
                  try dsimp only[Con.kind,Con.parts,Con.name,Con.lo,Con.hi,Con.cap,Con.ad]at hr8
                  refine F_ rfl ?_
                  refine m_ ?_
                  refine d_ ?_
                  refine s_ (V_ rfl rfl) rfl fun r9 hr9=>?_
                  refine c_ (n_ rfl) rfl ?_
                  refine j_ ?_
                  refine e_ rfl ?_
                  cases r9
                  · skip
                    replace hr9:=znb hr9
                    try dsimp only[Con.kind,Con.parts,Con.name,Con.lo,Con.hi,Con.cap,Con.ad]at hr9
                    exfalso;omega
                  · skip
                    replace hr9:=zeb hr9
                    try dsimp only[Con.kind,Con.parts,Con.name,Con.lo,Con.hi,Con.cap,Con.ad]at hr9
                    refine E_ rfl ?_
                    refine bi_ [(b1,.cells #[.int .i64 k,.bool op,.int .i64 kl,str nl,.int .i64 ll,.int .i64 hl,.slice al pl.length cl,.int .i64 kr,str nr,.int .i64 lr,.int .i64 hr,.slice ar pr.length cr,.slice ad rs.length cap,str ro,str a,str b] 48 (0,0))] zk ?_
                    refine U_ 5 [0,1,2,4,5,6,7] zk (fun _ a b=>⟨Vw.sat.sub a,b⟩) ?_
                    refine y_ rfl (q_ rfl) rfl ?_
                    refine y_ rfl (A_ p_ rfl rfl rfl O_) rfl ?_
                    refine y_ rfl (M_ 0 ap_ rfl rfl rfl) rfl ?_
                    refine y_ rfl (A_ p_ rfl rfl rfl O_) rfl ?_
                    refine y_ rfl (M_ 0 ap_ rfl rfl rfl) rfl ?_
                    refine y_ rfl (A_ p_ rfl rfl rfl O_) rfl ?_
                    refine y_ rfl (M_ 0 ap_ rfl rfl rfl) rfl ?_
                    refine aJ_ ?_
                    refine u_ 3 rfl zk ?_
                    refine i_ (cr_ a hok.a) rfl (.refl _) zt rfl fun _=>?_
                    refine j_ ?_
                    refine L_ rfl ?_
                    refine X_ (fun _ a b=>⟨Vw.sat.sub a,b⟩) ?_
                    refine u_ 8 rfl zk ?_
                    refine i_ (cr_ b hok.b) rfl (.refl _) zt rfl fun _=>?_
                    refine j_ ?_
                    refine L_ rfl ?_
                    refine X_ (fun _ a b=>⟨Vw.sat.sub a,b⟩) ?_
                    refine U_ 2 [9] zk (fun _ a b=>⟨Vw.sat.sub a,b⟩) ?_
                    refine y_ rfl (S_ bT_ rfl rfl) rfl ?_
                    refine aJ_ ?_
                    refine u_ 10 rfl zk ?_
                    refine I_ x_ Z_ ac_ rfl rfl rfl rfl rfl rfl fun b2=>?_
                    refine j_ ?_
                    refine L_ rfl ?_
                    refine X_ (fun _ a b=>⟨Vw.sat.sub a.tail,b⟩) ?_
                    refine u_ 11 rfl zk ?_
                    refine i_ (dl_ ⟨3,([123]++a++[125]),[],([123]++b++[125]),ro,[],[],0,0,0⟩ frm [] q hq (by omega)) rfl (.cons _ (@List.perm_append_comm _ [_] _)) zt rfl fun x=>?_
                    obtain⟨q2,hq2⟩:=x
                    have hb2:=bt_ frm [] ⟨3,([123]++a++[125]),[],([123]++b++[125]),ro,[],[],0,0,0⟩
                    refine W_ (@List.perm_append_comm _ _ [_]) ?_
                    refine j_ ?_
                    refine L_ rfl ?_
                    refine X_ (fun _ a b=>⟨Vw.sat.sub a,b⟩) ?_
                    refine bp_ zk ?_
                    refine co_ rfl ?_
                    have e:Ax.pieces frm ⟨k,op,(.mk kl nl ll hl al cl pl),(.mk kr nr lr hr ar cr pr),ad,cap,rs,ro,a,b⟩=(ins frm [] ⟨3,([123]++a++[125]),[],([123]++b++[125]),ro,[],[],0,0,0⟩):=by
                      unfold Ax.pieces
                      dsimp only
                      repeat (first|rfl|(rw[if_pos (by omega)])|(rw[if_neg (by omega)]))
                    exact fd_ es_ ⟨q2,by rw[e];exact hq2⟩ rfl (F:=[_]) (@List.perm_append_comm _ [_] _) zt
                · skip
                  replace hr8:=zeb hr8
                  try dsimp only[Con.kind,Con.parts,Con.name,Con.lo,Con.hi,Con.cap,Con.ad]at hr8
                  obtain⟨fr,zr⟩:=Con.check_zero (G.right (by show k≤4∨k=8;omega))
                  dsimp only at fr zr
                  refine E_ rfl ?_
                  refine m_ ?_
                  refine d_ ?_
                  refine c_ (q_ rfl) rfl ?_
                  refine c_ (A_ p_ rfl rfl rfl g_) rfl ?_
                  refine c_ (P_ 0 w_ g_ rfl rfl rfl) rfl ?_
                  refine aM_ (eJ_ (kb:=kb) (bk:=bk) (bs:=br) _ (.mk kr nr lr hr ar cr pr) (Nat.le_refl _) hok.right fr [] q hq (by omega)) rfl rfl (@List.perm_append_comm _ [_] _) (fun v _ h=>by exact⟨h.2.2.2.1.2.1,h.2.2.2.2.1,h.1,h.2.2.1,trivial⟩) rfl fun x=>?_
                  obtain⟨q3,hq3⟩:=x
                  have hb3:=Con.rightP_len frm _ (.mk kr nr lr hr ar cr pr) (Nat.le_refl _) []
                  refine W_ (@List.perm_append_comm _ _ [_]) ?_
                  refine j_ ?_
                  refine e_ rfl ?_
                  refine bi_ [(b1,.cells #[.int .i64 k,.bool op,.int .i64 kl,str nl,.int .i64 ll,.int .i64 hl,.slice al pl.length cl,.int .i64 kr,str nr,.int .i64 lr,.int .i64 hr,.slice ar pr.length cr,.slice ad rs.length cap,str ro,str a,str b] 48 (0,0))] zk ?_
                  refine U_ 5 [0,1,2,4,5] zk (fun _ a b=>⟨Vw.sat.sub a,b⟩) ?_
                  refine y_ rfl (q_ rfl) rfl ?_
                  refine y_ rfl (A_ p_ rfl rfl rfl O_) rfl ?_
                  refine y_ rfl (M_ 0 ap_ rfl rfl rfl) rfl ?_
                  refine y_ rfl (A_ p_ rfl rfl rfl g_) rfl ?_
                  refine y_ rfl (P_ 0 w_ g_ rfl rfl rfl) rfl ?_
                  refine aJ_ ?_
                  refine u_ 3 rfl zk ?_
                  refine i_ (cr_ a hok.a) rfl (.refl _) zt rfl fun _=>?_
                  refine j_ ?_
                  refine L_ rfl ?_
                  refine X_ (fun _ a b=>⟨Vw.sat.sub a,b⟩) ?_
                  refine u_ 6 rfl zk ?_
                  refine i_ (cg_ (.mk kr nr lr hr ar cr pr) hok.right) rfl (.refl _) (fun v _ h=>⟨h.2.2.2.1.2.1,h.2.2.2.2.1,trivial⟩) rfl fun _=>?_
                  refine j_ ?_
                  refine L_ rfl ?_
                  refine X_ (fun _ a b=>⟨Vw.sat.sub a,b⟩) ?_
                  refine U_ 2 [7] zk (fun _ a b=>⟨Vw.sat.sub a,b⟩) ?_
                  refine y_ rfl (S_ bT_ rfl rfl) rfl ?_
                  refine aJ_ ?_
                  refine u_ 8 rfl zk ?_
                  refine I_ x_ Z_ ac_ rfl rfl rfl rfl rfl rfl fun b3=>?_
                  refine j_ ?_
                  refine L_ rfl ?_
                  refine X_ (fun _ a b=>⟨Vw.sat.sub a.tail,b⟩) ?_
                  refine u_ 9 rfl zk ?_
                  refine i_ (dl_ ⟨1,([123]++a++[125]),[],(Con.atom (.mk kr nr lr hr ar cr pr)),[],[],[],0,0,0⟩ frm (Con.rightP frm (.mk kr nr lr hr ar cr pr) []) q3 hq3 (by omega)) rfl (.cons _ (@List.perm_append_comm _ [_] _)) zt rfl fun x=>?_
                  obtain⟨q5,hq5⟩:=x
                  have hb5:=bt_ frm (Con.rightP frm (.mk kr nr lr hr ar cr pr) []) ⟨1,([123]++a++[125]),[],(Con.atom (.mk kr nr lr hr ar cr pr)),[],[],[],0,0,0⟩
                  refine W_ (@List.perm_append_comm _ _ [_]) ?_
                  refine j_ ?_
                  refine L_ rfl ?_
                  refine X_ (fun _ a b=>⟨Vw.sat.sub a,b⟩) ?_
                  refine bp_ zk ?_
                  refine co_ rfl ?_
                  have e:Ax.pieces frm ⟨k,op,(.mk kl nl ll hl al cl pl),(.mk kr nr lr hr ar cr pr),ad,cap,rs,ro,a,b⟩=(ins frm (Con.rightP frm (.mk kr nr lr hr ar cr pr) []) ⟨1,([123]++a++[125]),[],(Con.atom (.mk kr nr lr hr ar cr pr)),[],[],[],0,0,0⟩):=by
                    unfold Ax.pieces
                    dsimp only
                    repeat (first|rfl|(rw[if_pos (by omega)])|(rw[if_neg (by omega)]))
                  exact fd_ es_ ⟨q5,by rw[e];exact hq5⟩ rfl (F:=[_]) (@List.perm_append_comm _ [_] _) zt
              · skip
                replace hr7:=zeb hr7
                try dsimp only[Con.kind,Con.parts,Con.name,Con.lo,Con.hi,Con.cap,Con.ad]at hr7
                refine E_ rfl ?_
                refine d_ ?_
                refine c_ (q_ rfl) rfl ?_
                refine c_ (A_ p_ rfl rfl rfl O_) rfl ?_
                refine c_ (M_ 0 ap_ rfl rfl rfl) rfl ?_
                refine c_ (S_ bT_ rfl rfl) rfl ?_
                refine I_ x_ Z_ ac_ rfl rfl rfl rfl rfl rfl fun b4=>?_
                refine i_ (dl_ ⟨7,[],[],[],ro,[],[],0,0,0⟩ frm [] q hq (by omega)) rfl (.cons _ (@List.perm_append_comm _ [_] _)) zt rfl fun x=>?_
                obtain⟨q6,hq6⟩:=x
                have hb6:=bt_ frm [] ⟨7,[],[],[],ro,[],[],0,0,0⟩
                refine W_ (@List.perm_append_comm _ _ [_]) ?_
                refine j_ ?_
                refine co_ rfl ?_
                have e:Ax.pieces frm ⟨k,op,(.mk kl nl ll hl al cl pl),(.mk kr nr lr hr ar cr pr),ad,cap,rs,ro,a,b⟩=(ins frm [] ⟨7,[],[],[],ro,[],[],0,0,0⟩):=by
                  unfold Ax.pieces
                  dsimp only
                  repeat (first|rfl|(rw[if_pos (by omega)])|(rw[if_neg (by omega)]))
                exact fd_ es_ ⟨q6,by rw[e];exact hq6⟩ rfl (F:=[_]) (@List.perm_append_comm _ [_] _) zt
            · skip
              replace hr6:=zeb hr6
              try dsimp only[Con.kind,Con.parts,Con.name,Con.lo,Con.hi,Con.cap,Con.ad]at hr6
              have hch:=G.chain hr6
              dsimp only at hch
              have hn0:0<rs.length:=by omega
              obtain⟨r0,hr0⟩:∃ r0,rs[0]? = some r0:=⟨_,List.getElem?_eq_getElem hn0⟩
              refine E_ rfl ?_
              refine m_ ?_
              refine d_ ?_
              refine c_ (A_ p_ rfl rfl rfl bw_) rfl ?_
              refine c_ (M_ 0 fw_ rfl rfl rfl) rfl ?_
              refine c_ (T_ D_ O_ rfl rfl (fun v _ h=>J_ (n:=1) av_ (by decide) (h.2.2.2.1.2.2) hr0) (by omega) (by first|omega|(simp only[Con.parts];omega)|(simp[Con.parts];done))) rfl ?_
              refine c_ (bu_ (ad:=ad) ap_ rfl (fun v _ h=>h.2.2.2.1.2.2) (H_ av_ hr0 0 _ rfl)) rfl ?_
              refine c_ (n_ rfl) rfl ?_
              refine j_ ?_
              refine e_ rfl ?_
              refine m_ ?_
              refine d_ ?_
              refine c_ (A_ p_ rfl rfl rfl bw_) rfl ?_
              refine c_ (M_ 0 fw_ rfl rfl rfl) rfl ?_
              refine c_ (cM_ (i:=1) (j:=rs.length) (kl:=.i64) (kh:=.i64) D_ O_ rfl rfl rfl (by omega) (by omega)) rfl ?_
              refine c_ (bM_ D_ rfl) rfl ?_
              refine c_ (q_ rfl) rfl ?_
              refine j_ ?_
              refine e_ rfl ?_
              refine aB_ ?_
              refine aN_ [(0,zp_ kb 0),(3,zp_ b1 0),(6,str r0),(130,.slice (sad ad cap 1 1) (rs.length - 1) (cap - 1)),(131,.int .i64 ((rs.length - 1:Nat):Int)),(132,.int .i64 ((0:Nat):Int))] zl ?_
              have hr24:=Con.plain_len (G.roles r0 (List.mem_of_getElem? hr0))
              refine aT_ (ι:={x:Nat×Str×List Pc×CS // x.1≤rs.length - 1∧CInv x.2.2.1 x.2.2.2∧x.2.2.1.length≤x.1∧x.2.1.length≤30*(x.1+1)∧Ax.chainP frm ro (rs.drop 1) r0 []=Ax.chainP frm ro (rs.drop (1+x.1)) x.2.1 x.2.2.1}) (fun x=>[(0,zp_ kb 0),(3,zp_ b1 0),(6,str x.1.2.1),(130,.slice (sad ad cap 1 1) (rs.length - 1) (cap - 1)),(131,.int .i64 ((rs.length - 1:Nat):Int)),(132,.int .i64 (x.1.1:Int))]) (fun x=>_::eW_ kb frm x.1.2.2.2) (fun _=>_) (fun x=>rs.length - 1 - x.1.1) ⟨(0,r0,[],q),by simp,hq,by simp,by simp;omega,rfl⟩ ?_
              rintro ⟨⟨i,f,l1,q2⟩,hj⟩
              dsimp only at hj
              refine aN_ [(0,zp_ kb 0),(3,zp_ b1 0),(6,str f),(130,.slice (sad ad cap 1 1) (rs.length - 1) (cap - 1)),(131,.int .i64 ((rs.length - 1:Nat):Int)),(132,.int .i64 (i:Int))] zl ?_
              refine m_ ?_
              refine d_ ?_
              refine s_ (bR_ rfl rfl) rfl fun r10 hr10=>?_
              refine j_ ?_
              refine e_ rfl ?_
              refine m_ ?_
              cases r10
              · skip
                replace hr10:=zdf hr10
                try dsimp only[Con.kind,Con.parts,Con.name,Con.lo,Con.hi,Con.cap,Con.ad]at hr10
                refine F_ rfl ?_
                refine cp_ rfl ?_
                refine co_ rfl ?_
                have e:Ax.pieces frm ⟨k,op,(.mk kl nl ll hl al cl pl),(.mk kr nr lr hr ar cr pr),ad,cap,rs,ro,a,b⟩=Ax.chainP frm ro (rs.drop 1) r0 []:=by
                  unfold Ax.pieces
                  dsimp only
                  rw[fU_ hr0]
                  repeat (first|rfl|(rw[if_pos (by omega)])|(rw[if_neg (by omega)]))
                have e2:=hj.2.2.2.2
                rw[List.drop_of_length_le (show rs.length≤1+i by omega)]at e2
                rw[e2]at e
                exact fd_ es_ ⟨q2,by rw[e];exact hj.2.1⟩ rfl (F:=[_]) (@List.perm_append_comm _ [_] _) zt
              · skip
                replace hr10:=zdt hr10
                try dsimp only[Con.kind,Con.parts,Con.name,Con.lo,Con.hi,Con.cap,Con.ad]at hr10
                have hlt:i<rs.length - 1:=by omega
                obtain⟨g,hp⟩:∃ g,(rs.drop 1)[i]? = some g:=⟨_,List.getElem?_eq_getElem (by simp;omega)⟩
                have hp1:rs[1+i]? = some g:=by rw[← List.getElem?_drop];exact hp
                have hg:=Con.plain_len (G.roles g (List.mem_of_getElem? hp1))
                have hro:=Con.plain_len (G.role (by show k=4∨k=5∨k=6∨k=7∨k=9;omega))
                dsimp only at hro
                refine E_ rfl ?_
                refine ai_ ?_
                refine e_ rfl ?_
                refine m_ ?_
                refine aB_ ?_
                refine m_ ?_
                refine d_ ?_
                refine c_ (q_ rfl) rfl ?_
                refine c_ (T_ D_ O_ rfl rfl (fun v _ h=>J_ (n:=1) av_ (by decide) (bN_.rest av_ h.2.2.2.1.2.2 hok.len 1) hp) (by omega) (by first|omega|(simp only[Con.parts];omega)|(simp[Con.parts];done))) rfl ?_
                refine c_ (bu_ (ad:=(sad ad cap 1 1)) ap_ rfl (fun v _ h=>bN_.rest av_ h.2.2.2.1.2.2 hok.len 1) (H_ av_ hp 0 _ rfl)) rfl ?_
                refine c_ (n_ rfl) rfl ?_
                refine c_ (n_ rfl) rfl ?_
                refine j_ ?_
                refine e_ rfl ?_
                refine m_ ?_
                refine d_ ?_
                refine c_ (A_ p_ rfl rfl rfl O_) rfl ?_
                refine c_ (M_ 0 ap_ rfl rfl rfl) rfl ?_
                refine c_ (n_ rfl) rfl ?_
                refine j_ ?_
                refine e_ rfl ?_
                refine m_ ?_
                refine m_ ?_
                refine d_ ?_
                refine c_ (q_ rfl) rfl ?_
                refine c_ (aA_ rfl rfl rfl (be_ (by omega) (by omega))) rfl ?_
                refine c_ (A_ p_ rfl rfl rfl bw_) rfl ?_
                refine c_ (M_ 0 fw_ rfl rfl rfl) rfl ?_
                refine c_ (bM_ D_ rfl) rfl ?_
                refine s_ (bR_ rfl rfl) rfl fun r11 hr11=>?_
                refine j_ ?_
                refine e_ rfl ?_
                cases r11
                · skip
                  replace hr11:=zdf hr11
                  try dsimp only[Con.kind,Con.parts,Con.name,Con.lo,Con.hi,Con.cap,Con.ad]at hr11
                  refine F_ rfl ?_
                  refine ai_ ?_
                  refine e_ rfl ?_
                  refine m_ ?_
                  refine d_ ?_
                  refine c_ (q_ rfl) rfl ?_
                  refine c_ (q_ rfl) rfl ?_
                  refine c_ (q_ rfl) rfl ?_
                  refine c_ (q_ rfl) rfl ?_
                  refine c_ (S_ bT_ rfl rfl) rfl ?_
                  refine I_ x_ Z_ ac_ rfl rfl rfl rfl rfl rfl fun b5=>?_
                  refine i_ (dl_ ⟨6,[],[],[],f,g,ro,0,0,0⟩ frm l1 q2 hj.2.1 (by omega)) rfl (.cons _ (@List.perm_append_comm _ [_] _)) zt rfl fun x=>?_
                  obtain⟨q7,hq7⟩:=x
                  have hb7:=bt_ frm l1 ⟨6,[],[],[],f,g,ro,0,0,0⟩
                  refine W_ (@List.perm_append_comm _ _ [_]) ?_
                  refine j_ ?_
                  refine e_ rfl ?_
                  refine d_ ?_
                  refine c_ (q_ rfl) rfl ?_
                  refine c_ (n_ rfl) rfl ?_
                  refine j_ ?_
                  refine e_ rfl ?_
                  refine d_ ?_
                  refine c_ (aA_ rfl rfl rfl (be_ (by omega) (by omega))) rfl ?_
                  refine c_ (q_ rfl) rfl ?_
                  refine j_ ?_
                  refine L_ rfl ?_
                  have hd1:=fA_ hp1
                  have hd2:(rs.drop (1+i+1)=[])↔¬ (i+2<rs.length):=by rw[List.drop_eq_nil_iff];omega
                  exact R_ ⟨(i+1,ro,(ins frm l1 ⟨6,[],[],[],f,g,ro,0,0,0⟩),q7),by dsimp only;omega,hq7,by dsimp only;omega,by dsimp only;omega,by rw[hj.2.2.2.2,hd1];simp only[Ax.chainP];rw[if_pos (by rw[hd2];omega),show 1+(i+1)=1+i+1 by omega]⟩ (by simp;omega) zl (F:=[]) (by rw[List.append_nil];exact .refl _) zh
                · skip
                  replace hr11:=zdt hr11
                  try dsimp only[Con.kind,Con.parts,Con.name,Con.lo,Con.hi,Con.cap,Con.ad]at hr11
                  refine E_ rfl ?_
                  refine d_ ?_
                  refine c_ (q_ rfl) rfl ?_
                  refine c_ (bg_ rfl rfl (by simp only[List.length_append,List.length_cons,List.length_nil];omega)) rfl ?_
                  refine c_ (q_ rfl) rfl ?_
                  refine c_ (bg_ rfl rfl (by simp only[List.length_append,List.length_cons,List.length_nil];omega)) rfl ?_
                  refine c_ (n_ rfl) rfl ?_
                  refine j_ ?_
                  refine e_ rfl ?_
                  refine m_ ?_
                  refine d_ ?_
                  refine c_ (q_ rfl) rfl ?_
                  refine c_ (q_ rfl) rfl ?_
                  refine c_ (q_ rfl) rfl ?_
                  refine c_ (q_ rfl) rfl ?_
                  refine c_ (S_ bT_ rfl rfl) rfl ?_
                  refine I_ x_ Z_ ac_ rfl rfl rfl rfl rfl rfl fun b6=>?_
                  refine i_ (dl_ ⟨6,[],[],[],f,g,(f++[46])++g,0,0,0⟩ frm l1 q2 hj.2.1 (by omega)) rfl (.cons _ (@List.perm_append_comm _ [_] _)) zt rfl fun x=>?_
                  obtain⟨q8,hq8⟩:=x
                  have hb8:=bt_ frm l1 ⟨6,[],[],[],f,g,(f++[46])++g,0,0,0⟩
                  refine W_ (@List.perm_append_comm _ _ [_]) ?_
                  refine j_ ?_
                  refine e_ rfl ?_
                  refine d_ ?_
                  refine c_ (q_ rfl) rfl ?_
                  refine c_ (n_ rfl) rfl ?_
                  refine j_ ?_
                  refine e_ rfl ?_
                  refine d_ ?_
                  refine c_ (aA_ rfl rfl rfl (be_ (by omega) (by omega))) rfl ?_
                  refine c_ (q_ rfl) rfl ?_
                  refine j_ ?_
                  refine L_ rfl ?_
                  have hd1:=fA_ hp1
                  have hd2:(rs.drop (1+i+1)=[])↔¬ (i+2<rs.length):=by rw[List.drop_eq_nil_iff];omega
                  exact R_ ⟨(i+1,(f++[46])++g,(ins frm l1 ⟨6,[],[],[],f,g,(f++[46])++g,0,0,0⟩),q8),by dsimp only;omega,hq8,by dsimp only;omega,by simp only[List.length_append,List.length_cons,List.length_nil];omega,by rw[hj.2.2.2.2,hd1];simp only[Ax.chainP];rw[if_neg (by rw[hd2];omega),show 1+(i+1)=1+i+1 by omega]⟩ (by simp;omega) zl (F:=[]) (by rw[List.append_nil];exact .refl _) zh
          · skip
            replace hr5:=zeb hr5
            try dsimp only[Con.kind,Con.parts,Con.name,Con.lo,Con.hi,Con.cap,Con.ad]at hr5
            have hn0:0<rs.length:=by have:=G.one hr5;dsimp only at this;omega
            obtain⟨r0,hr0⟩:∃ r0,rs[0]? = some r0:=⟨_,List.getElem?_eq_getElem hn0⟩
            refine E_ rfl ?_
            refine bi_ [(b1,.cells #[.int .i64 k,.bool op,.int .i64 kl,str nl,.int .i64 ll,.int .i64 hl,.slice al pl.length cl,.int .i64 kr,str nr,.int .i64 lr,.int .i64 hr,.slice ar pr.length cr,.slice ad rs.length cap,str ro,str a,str b] 48 (0,0))] zk ?_
            refine U_ 2 [0,1,2,3,4,5,6,7] zk (fun _ a b=>⟨Vw.sat.sub a,b⟩) ?_
            refine y_ rfl (q_ rfl) rfl ?_
            refine y_ rfl (A_ p_ rfl rfl rfl bw_) rfl ?_
            refine y_ rfl (M_ 0 fw_ rfl rfl rfl) rfl ?_
            refine y_ rfl (T_ D_ O_ rfl rfl (fun v _ h=>J_ (n:=1) av_ (by decide) (h.2.2.2.1.2.2) hr0) (by omega) (by first|omega|(simp only[Con.parts];omega)|(simp[Con.parts];done))) rfl ?_
            refine y_ rfl (bu_ (ad:=ad) ap_ rfl (fun v _ h=>h.2.2.2.1.2.2) (H_ av_ hr0 0 _ rfl)) rfl ?_
            refine y_ rfl (A_ p_ rfl rfl rfl O_) rfl ?_
            refine y_ rfl (M_ 0 ap_ rfl rfl rfl) rfl ?_
            refine y_ rfl (S_ bT_ rfl rfl) rfl ?_
            refine aJ_ ?_
            refine u_ 8 rfl zk ?_
            refine I_ x_ Z_ ac_ rfl rfl rfl rfl rfl rfl fun b7=>?_
            refine j_ ?_
            refine L_ rfl ?_
            refine X_ (fun _ a b=>⟨Vw.sat.sub a.tail,b⟩) ?_
            refine u_ 9 rfl zk ?_
            refine i_ (dl_ ⟨5,[],[],[],r0,[],ro,0,0,0⟩ frm [] q hq (by omega)) rfl (.cons _ (@List.perm_append_comm _ [_] _)) zt rfl fun x=>?_
            obtain⟨q10,hq10⟩:=x
            have hb10:=bt_ frm [] ⟨5,[],[],[],r0,[],ro,0,0,0⟩
            refine W_ (@List.perm_append_comm _ _ [_]) ?_
            refine j_ ?_
            refine L_ rfl ?_
            refine X_ (fun _ a b=>⟨Vw.sat.sub a,b⟩) ?_
            refine bp_ zk ?_
            refine co_ rfl ?_
            have e:Ax.pieces frm ⟨k,op,(.mk kl nl ll hl al cl pl),(.mk kr nr lr hr ar cr pr),ad,cap,rs,ro,a,b⟩=(ins frm [] ⟨5,[],[],[],r0,[],ro,0,0,0⟩):=by
              unfold Ax.pieces
              dsimp only
              rw[fU_ hr0]
              repeat (first|rfl|(rw[if_pos (by omega)])|(rw[if_neg (by omega)]))
            exact fd_ es_ ⟨q10,by rw[e];exact hq10⟩ rfl (F:=[_]) (@List.perm_append_comm _ [_] _) zt
        · skip
          replace hr4:=zeb hr4
          try dsimp only[Con.kind,Con.parts,Con.name,Con.lo,Con.hi,Con.cap,Con.ad]at hr4
          obtain⟨fr,zr⟩:=Con.check_zero (G.right (by show k≤4∨k=8;omega))
          dsimp only at fr zr
          refine E_ rfl ?_
          refine m_ ?_
          refine d_ ?_
          refine c_ (q_ rfl) rfl ?_
          refine c_ (A_ p_ rfl rfl rfl g_) rfl ?_
          refine c_ (P_ 0 w_ g_ rfl rfl rfl) rfl ?_
          refine aM_ (eJ_ (kb:=kb) (bk:=bk) (bs:=br) _ (.mk kr nr lr hr ar cr pr) (Nat.le_refl _) hok.right fr [] q hq (by omega)) rfl rfl (@List.perm_append_comm _ [_] _) (fun v _ h=>by exact⟨h.2.2.2.1.2.1,h.2.2.2.2.1,h.1,h.2.2.1,trivial⟩) rfl fun x=>?_
          obtain⟨q11,hq11⟩:=x
          have hb11:=Con.rightP_len frm _ (.mk kr nr lr hr ar cr pr) (Nat.le_refl _) []
          refine W_ (@List.perm_append_comm _ _ [_]) ?_
          refine j_ ?_
          refine e_ rfl ?_
          refine bi_ [(b1,.cells #[.int .i64 k,.bool op,.int .i64 kl,str nl,.int .i64 ll,.int .i64 hl,.slice al pl.length cl,.int .i64 kr,str nr,.int .i64 lr,.int .i64 hr,.slice ar pr.length cr,.slice ad rs.length cap,str ro,str a,str b] 48 (0,0))] zk ?_
          refine U_ 4 [0,1,2,3,4] zk (fun _ a b=>⟨Vw.sat.sub a,b⟩) ?_
          refine y_ rfl (q_ rfl) rfl ?_
          refine y_ rfl (A_ p_ rfl rfl rfl O_) rfl ?_
          refine y_ rfl (M_ 0 ap_ rfl rfl rfl) rfl ?_
          refine y_ rfl (A_ p_ rfl rfl rfl g_) rfl ?_
          refine y_ rfl (P_ 0 w_ g_ rfl rfl rfl) rfl ?_
          refine aJ_ ?_
          refine u_ 5 rfl zk ?_
          refine i_ (cg_ (.mk kr nr lr hr ar cr pr) hok.right) rfl (.refl _) (fun v _ h=>⟨h.2.2.2.1.2.1,h.2.2.2.2.1,trivial⟩) rfl fun _=>?_
          refine j_ ?_
          refine L_ rfl ?_
          refine X_ (fun _ a b=>⟨Vw.sat.sub a,b⟩) ?_
          refine U_ 2 [6] zk (fun _ a b=>⟨Vw.sat.sub a,b⟩) ?_
          refine y_ rfl (S_ bT_ rfl rfl) rfl ?_
          refine aJ_ ?_
          refine u_ 7 rfl zk ?_
          refine I_ x_ Z_ ac_ rfl rfl rfl rfl rfl rfl fun b8=>?_
          refine j_ ?_
          refine L_ rfl ?_
          refine X_ (fun _ a b=>⟨Vw.sat.sub a.tail,b⟩) ?_
          refine u_ 8 rfl zk ?_
          refine i_ (dl_ ⟨4,[42],[],(Con.atom (.mk kr nr lr hr ar cr pr)),ro,[],[],0,0,0⟩ frm (Con.rightP frm (.mk kr nr lr hr ar cr pr) []) q11 hq11 (by omega)) rfl (.cons _ (@List.perm_append_comm _ [_] _)) zt rfl fun x=>?_
          obtain⟨q13,hq13⟩:=x
          have hb13:=bt_ frm (Con.rightP frm (.mk kr nr lr hr ar cr pr) []) ⟨4,[42],[],(Con.atom (.mk kr nr lr hr ar cr pr)),ro,[],[],0,0,0⟩
          refine W_ (@List.perm_append_comm _ _ [_]) ?_
          refine j_ ?_
          refine L_ rfl ?_
          refine X_ (fun _ a b=>⟨Vw.sat.sub a,b⟩) ?_
          refine bp_ zk ?_
          refine co_ rfl ?_
          have e:Ax.pieces frm ⟨k,op,(.mk kl nl ll hl al cl pl),(.mk kr nr lr hr ar cr pr),ad,cap,rs,ro,a,b⟩=(ins frm (Con.rightP frm (.mk kr nr lr hr ar cr pr) []) ⟨4,[42],[],(Con.atom (.mk kr nr lr hr ar cr pr)),ro,[],[],0,0,0⟩):=by
            unfold Ax.pieces
            dsimp only
            repeat (first|rfl|(rw[if_pos (by omega)])|(rw[if_neg (by omega)]))
          exact fd_ es_ ⟨q13,by rw[e];exact hq13⟩ rfl (F:=[_]) (@List.perm_append_comm _ [_] _) zt
      · skip
        replace hr3:=zeb hr3
        try dsimp only[Con.kind,Con.parts,Con.name,Con.lo,Con.hi,Con.cap,Con.ad]at hr3
        obtain⟨fl,zl⟩:=Con.check_zero (G.left (by show k≤3;omega))
        dsimp only at fl zl
        obtain⟨fr,zr⟩:=Con.check_zero (G.right (by show k≤4∨k=8;omega))
        dsimp only at fr zr
        refine E_ rfl ?_
        refine m_ ?_
        refine d_ ?_
        refine c_ (q_ rfl) rfl ?_
        refine c_ (A_ p_ rfl rfl rfl g_) rfl ?_
        refine c_ (P_ 0 w_ g_ rfl rfl rfl) rfl ?_
        refine aM_ (fC_ (kb:=kb) (bk:=bk) (bs:=bl) _ (.mk kl nl ll hl al cl pl) (Nat.le_refl _) hok.left fl [] q hq (by omega)) rfl rfl (@List.perm_append_comm _ [_] _) (fun v _ h=>by exact⟨h.2.2.2.1.1,h.2.2.2.2.1,h.1,h.2.1,trivial⟩) rfl fun x=>?_
        obtain⟨q14,hq14⟩:=x
        have hb14:=Con.leftP_len frm _ (.mk kl nl ll hl al cl pl) (Nat.le_refl _) []
        refine W_ (@List.perm_append_comm _ _ [_]) ?_
        refine j_ ?_
        refine e_ rfl ?_
        refine m_ ?_
        refine d_ ?_
        refine c_ (q_ rfl) rfl ?_
        refine c_ (A_ p_ rfl rfl rfl g_) rfl ?_
        refine c_ (P_ 0 w_ g_ rfl rfl rfl) rfl ?_
        refine aM_ (fC_ (kb:=kb) (bk:=bk) (bs:=bl) _ (.mk kr nr lr hr ar cr pr) (Nat.le_refl _) hok.right fr (Con.leftP frm (.mk kl nl ll hl al cl pl) []) q14 hq14 (by omega)) rfl rfl (@List.perm_append_comm _ [_] _) (fun v _ h=>by exact⟨h.2.2.2.1.2.1,h.2.2.2.2.1,h.1,h.2.1,trivial⟩) rfl fun x=>?_
        obtain⟨q15,hq15⟩:=x
        have hb15:=Con.leftP_len frm _ (.mk kr nr lr hr ar cr pr) (Nat.le_refl _) (Con.leftP frm (.mk kl nl ll hl al cl pl) [])
        refine W_ (@List.perm_append_comm _ _ [_]) ?_
        refine j_ ?_
        refine e_ rfl ?_
        refine bi_ [(b1,.cells #[.int .i64 k,.bool op,.int .i64 kl,str nl,.int .i64 ll,.int .i64 hl,.slice al pl.length cl,.int .i64 kr,str nr,.int .i64 lr,.int .i64 hr,.slice ar pr.length cr,.slice ad rs.length cap,str ro,str a,str b] 48 (0,0))] zk ?_
        refine U_ 5 [0,1,2,4,5] zk (fun _ a b=>⟨Vw.sat.sub a,b⟩) ?_
        refine y_ rfl (q_ rfl) rfl ?_
        refine y_ rfl (A_ p_ rfl rfl rfl g_) rfl ?_
        refine y_ rfl (P_ 0 w_ g_ rfl rfl rfl) rfl ?_
        refine y_ rfl (A_ p_ rfl rfl rfl g_) rfl ?_
        refine y_ rfl (P_ 0 w_ g_ rfl rfl rfl) rfl ?_
        refine aJ_ ?_
        refine u_ 3 rfl zk ?_
        refine i_ (cg_ (.mk kl nl ll hl al cl pl) hok.left) rfl (.refl _) (fun v _ h=>⟨h.2.2.2.1.1,h.2.2.2.2.1,trivial⟩) rfl fun _=>?_
        refine j_ ?_
        refine L_ rfl ?_
        refine X_ (fun _ a b=>⟨Vw.sat.sub a,b⟩) ?_
        refine u_ 6 rfl zk ?_
        refine i_ (cg_ (.mk kr nr lr hr ar cr pr) hok.right) rfl (.refl _) (fun v _ h=>⟨h.2.2.2.1.2.1,h.2.2.2.2.1,trivial⟩) rfl fun _=>?_
        refine j_ ?_
        refine L_ rfl ?_
        refine X_ (fun _ a b=>⟨Vw.sat.sub a,b⟩) ?_
        refine U_ 2 [7] zk (fun _ a b=>⟨Vw.sat.sub a,b⟩) ?_
        refine y_ rfl (S_ bT_ rfl rfl) rfl ?_
        refine aJ_ ?_
        refine u_ 8 rfl zk ?_
        refine I_ x_ Z_ ac_ rfl rfl rfl rfl rfl rfl fun b9=>?_
        refine j_ ?_
        refine L_ rfl ?_
        refine X_ (fun _ a b=>⟨Vw.sat.sub a.tail,b⟩) ?_
        refine u_ 9 rfl zk ?_
        refine i_ (dl_ ⟨2,(Con.atom (.mk kl nl ll hl al cl pl)),(Con.atom (.mk kr nr lr hr ar cr pr)),[33],[],[],[],0,0,0⟩ frm (Con.leftP frm (.mk kr nr lr hr ar cr pr) (Con.leftP frm (.mk kl nl ll hl al cl pl) [])) q15 hq15 (by omega)) rfl (.cons _ (@List.perm_append_comm _ [_] _)) zt rfl fun x=>?_
        obtain⟨q17,hq17⟩:=x
        have hb17:=bt_ frm (Con.leftP frm (.mk kr nr lr hr ar cr pr) (Con.leftP frm (.mk kl nl ll hl al cl pl) [])) ⟨2,(Con.atom (.mk kl nl ll hl al cl pl)),(Con.atom (.mk kr nr lr hr ar cr pr)),[33],[],[],[],0,0,0⟩
        refine W_ (@List.perm_append_comm _ _ [_]) ?_
        refine j_ ?_
        refine L_ rfl ?_
        refine X_ (fun _ a b=>⟨Vw.sat.sub a,b⟩) ?_
        refine bp_ zk ?_
        refine co_ rfl ?_
        have e:Ax.pieces frm ⟨k,op,(.mk kl nl ll hl al cl pl),(.mk kr nr lr hr ar cr pr),ad,cap,rs,ro,a,b⟩=(ins frm (Con.leftP frm (.mk kr nr lr hr ar cr pr) (Con.leftP frm (.mk kl nl ll hl al cl pl) [])) ⟨2,(Con.atom (.mk kl nl ll hl al cl pl)),(Con.atom (.mk kr nr lr hr ar cr pr)),[33],[],[],[],0,0,0⟩):=by
          unfold Ax.pieces
          dsimp only
          repeat (first|rfl|(rw[if_pos (by omega)])|(rw[if_neg (by omega)]))
        exact fd_ es_ ⟨q17,by rw[e];exact hq17⟩ rfl (F:=[_]) (@List.perm_append_comm _ [_] _) zt
    · skip
      replace hr2:=zeb hr2
      try dsimp only[Con.kind,Con.parts,Con.name,Con.lo,Con.hi,Con.cap,Con.ad]at hr2
      obtain⟨fl,zl⟩:=Con.check_zero (G.left (by show k≤3;omega))
      dsimp only at fl zl
      obtain⟨fr,zr⟩:=Con.check_zero (G.right (by show k≤4∨k=8;omega))
      dsimp only at fr zr
      refine E_ rfl ?_
      refine m_ ?_
      refine d_ ?_
      refine c_ (q_ rfl) rfl ?_
      refine c_ (A_ p_ rfl rfl rfl g_) rfl ?_
      refine c_ (P_ 0 w_ g_ rfl rfl rfl) rfl ?_
      refine aM_ (fC_ (kb:=kb) (bk:=bk) (bs:=bl) _ (.mk kl nl ll hl al cl pl) (Nat.le_refl _) hok.left fl [] q hq (by omega)) rfl rfl (@List.perm_append_comm _ [_] _) (fun v _ h=>by exact⟨h.2.2.2.1.1,h.2.2.2.2.1,h.1,h.2.1,trivial⟩) rfl fun x=>?_
      obtain⟨q18,hq18⟩:=x
      have hb18:=Con.leftP_len frm _ (.mk kl nl ll hl al cl pl) (Nat.le_refl _) []
      refine W_ (@List.perm_append_comm _ _ [_]) ?_
      refine j_ ?_
      refine e_ rfl ?_
      refine m_ ?_
      refine d_ ?_
      refine c_ (q_ rfl) rfl ?_
      refine c_ (A_ p_ rfl rfl rfl g_) rfl ?_
      refine c_ (P_ 0 w_ g_ rfl rfl rfl) rfl ?_
      refine aM_ (eJ_ (kb:=kb) (bk:=bk) (bs:=br) _ (.mk kr nr lr hr ar cr pr) (Nat.le_refl _) hok.right fr (Con.leftP frm (.mk kl nl ll hl al cl pl) []) q18 hq18 (by omega)) rfl rfl (@List.perm_append_comm _ [_] _) (fun v _ h=>by exact⟨h.2.2.2.1.2.1,h.2.2.2.2.1,h.1,h.2.2.1,trivial⟩) rfl fun x=>?_
      obtain⟨q19,hq19⟩:=x
      have hb19:=Con.rightP_len frm _ (.mk kr nr lr hr ar cr pr) (Nat.le_refl _) (Con.leftP frm (.mk kl nl ll hl al cl pl) [])
      refine W_ (@List.perm_append_comm _ _ [_]) ?_
      refine j_ ?_
      refine e_ rfl ?_
      refine m_ ?_
      refine bi_ [(b1,.cells #[.int .i64 k,.bool op,.int .i64 kl,str nl,.int .i64 ll,.int .i64 hl,.slice al pl.length cl,.int .i64 kr,str nr,.int .i64 lr,.int .i64 hr,.slice ar pr.length cr,.slice ad rs.length cap,str ro,str a,str b] 48 (0,0))] zk ?_
      refine U_ 5 [0,1,2,4,5] zk (fun _ a b=>⟨Vw.sat.sub a,b⟩) ?_
      refine y_ rfl (q_ rfl) rfl ?_
      refine y_ rfl (A_ p_ rfl rfl rfl g_) rfl ?_
      refine y_ rfl (P_ 0 w_ g_ rfl rfl rfl) rfl ?_
      refine y_ rfl (A_ p_ rfl rfl rfl g_) rfl ?_
      refine y_ rfl (P_ 0 w_ g_ rfl rfl rfl) rfl ?_
      refine aJ_ ?_
      refine u_ 3 rfl zk ?_
      refine i_ (cg_ (.mk kl nl ll hl al cl pl) hok.left) rfl (.refl _) (fun v _ h=>⟨h.2.2.2.1.1,h.2.2.2.2.1,trivial⟩) rfl fun _=>?_
      refine j_ ?_
      refine L_ rfl ?_
      refine X_ (fun _ a b=>⟨Vw.sat.sub a,b⟩) ?_
      refine u_ 6 rfl zk ?_
      refine i_ (cg_ (.mk kr nr lr hr ar cr pr) hok.right) rfl (.refl _) (fun v _ h=>⟨h.2.2.2.1.2.1,h.2.2.2.2.1,trivial⟩) rfl fun _=>?_
      refine j_ ?_
      refine L_ rfl ?_
      refine X_ (fun _ a b=>⟨Vw.sat.sub a,b⟩) ?_
      refine U_ 2 [7] zk (fun _ a b=>⟨Vw.sat.sub a,b⟩) ?_
      refine y_ rfl (S_ bT_ rfl rfl) rfl ?_
      refine aJ_ ?_
      refine u_ 8 rfl zk ?_
      refine I_ x_ Z_ ac_ rfl rfl rfl rfl rfl rfl fun b10=>?_
      refine j_ ?_
      refine L_ rfl ?_
      refine X_ (fun _ a b=>⟨Vw.sat.sub a.tail,b⟩) ?_
      refine u_ 9 rfl zk ?_
      refine i_ (dl_ ⟨1,(Con.atom (.mk kl nl ll hl al cl pl)),[],(Con.atom (.mk kr nr lr hr ar cr pr)),[],[],[],0,0,0⟩ frm (Con.rightP frm (.mk kr nr lr hr ar cr pr) (Con.leftP frm (.mk kl nl ll hl al cl pl) [])) q19 hq19 (by omega)) rfl (.cons _ (@List.perm_append_comm _ [_] _)) zt rfl fun x=>?_
      obtain⟨q21,hq21⟩:=x
      have hb21:=bt_ frm (Con.rightP frm (.mk kr nr lr hr ar cr pr) (Con.leftP frm (.mk kl nl ll hl al cl pl) [])) ⟨1,(Con.atom (.mk kl nl ll hl al cl pl)),[],(Con.atom (.mk kr nr lr hr ar cr pr)),[],[],[],0,0,0⟩
      refine W_ (@List.perm_append_comm _ _ [_]) ?_
      refine j_ ?_
      refine L_ rfl ?_
      refine X_ (fun _ a b=>⟨Vw.sat.sub a,b⟩) ?_
      refine bp_ zk ?_
      refine e_ rfl ?_
      refine m_ ?_
      refine d_ ?_
      refine c_ (q_ rfl) rfl ?_
      refine c_ (A_ p_ rfl rfl rfl g_) rfl ?_
      refine c_ (P_ 0 w_ g_ rfl rfl rfl) rfl ?_
      refine aM_ (fC_ (kb:=kb) (bk:=bk) (bs:=bl) _ (.mk kr nr lr hr ar cr pr) (Nat.le_refl _) hok.right fr (ins frm (Con.rightP frm (.mk kr nr lr hr ar cr pr) (Con.leftP frm (.mk kl nl ll hl al cl pl) [])) ⟨1,(Con.atom (.mk kl nl ll hl al cl pl)),[],(Con.atom (.mk kr nr lr hr ar cr pr)),[],[],[],0,0,0⟩) q21 hq21 (by omega)) rfl rfl (@List.perm_append_comm _ [_] _) (fun v _ h=>by exact⟨h.2.2.2.1.2.1,h.2.2.2.2.1,h.1,h.2.1,trivial⟩) rfl fun x=>?_
      obtain⟨q22,hq22⟩:=x
      have hb22:=Con.leftP_len frm _ (.mk kr nr lr hr ar cr pr) (Nat.le_refl _) (ins frm (Con.rightP frm (.mk kr nr lr hr ar cr pr) (Con.leftP frm (.mk kl nl ll hl al cl pl) [])) ⟨1,(Con.atom (.mk kl nl ll hl al cl pl)),[],(Con.atom (.mk kr nr lr hr ar cr pr)),[],[],[],0,0,0⟩)
      refine W_ (@List.perm_append_comm _ _ [_]) ?_
      refine j_ ?_
      refine e_ rfl ?_
      refine m_ ?_
      refine d_ ?_
      refine c_ (q_ rfl) rfl ?_
      refine c_ (A_ p_ rfl rfl rfl g_) rfl ?_
      refine c_ (P_ 0 w_ g_ rfl rfl rfl) rfl ?_
      refine aM_ (eJ_ (kb:=kb) (bk:=bk) (bs:=br) _ (.mk kl nl ll hl al cl pl) (Nat.le_refl _) hok.left fl (Con.leftP frm (.mk kr nr lr hr ar cr pr) (ins frm (Con.rightP frm (.mk kr nr lr hr ar cr pr) (Con.leftP frm (.mk kl nl ll hl al cl pl) [])) ⟨1,(Con.atom (.mk kl nl ll hl al cl pl)),[],(Con.atom (.mk kr nr lr hr ar cr pr)),[],[],[],0,0,0⟩)) q22 hq22 (by omega)) rfl rfl (@List.perm_append_comm _ [_] _) (fun v _ h=>by exact⟨h.2.2.2.1.1,h.2.2.2.2.1,h.1,h.2.2.1,trivial⟩) rfl fun x=>?_
      obtain⟨q23,hq23⟩:=x
      have hb23:=Con.rightP_len frm _ (.mk kl nl ll hl al cl pl) (Nat.le_refl _) (Con.leftP frm (.mk kr nr lr hr ar cr pr) (ins frm (Con.rightP frm (.mk kr nr lr hr ar cr pr) (Con.leftP frm (.mk kl nl ll hl al cl pl) [])) ⟨1,(Con.atom (.mk kl nl ll hl al cl pl)),[],(Con.atom (.mk kr nr lr hr ar cr pr)),[],[],[],0,0,0⟩))
      refine W_ (@List.perm_append_comm _ _ [_]) ?_
      refine j_ ?_
      refine e_ rfl ?_
      refine bi_ [(b1,.cells #[.int .i64 k,.bool op,.int .i64 kl,str nl,.int .i64 ll,.int .i64 hl,.slice al pl.length cl,.int .i64 kr,str nr,.int .i64 lr,.int .i64 hr,.slice ar pr.length cr,.slice ad rs.length cap,str ro,str a,str b] 48 (0,0))] zk ?_
      refine U_ 5 [0,1,2,4,5] zk (fun _ a b=>⟨Vw.sat.sub a,b⟩) ?_
      refine y_ rfl (q_ rfl) rfl ?_
      refine y_ rfl (A_ p_ rfl rfl rfl g_) rfl ?_
      refine y_ rfl (P_ 0 w_ g_ rfl rfl rfl) rfl ?_
      refine y_ rfl (A_ p_ rfl rfl rfl g_) rfl ?_
      refine y_ rfl (P_ 0 w_ g_ rfl rfl rfl) rfl ?_
      refine aJ_ ?_
      refine u_ 3 rfl zk ?_
      refine i_ (cg_ (.mk kr nr lr hr ar cr pr) hok.right) rfl (.refl _) (fun v _ h=>⟨h.2.2.2.1.2.1,h.2.2.2.2.1,trivial⟩) rfl fun _=>?_
      refine j_ ?_
      refine L_ rfl ?_
      refine X_ (fun _ a b=>⟨Vw.sat.sub a,b⟩) ?_
      refine u_ 6 rfl zk ?_
      refine i_ (cg_ (.mk kl nl ll hl al cl pl) hok.left) rfl (.refl _) (fun v _ h=>⟨h.2.2.2.1.1,h.2.2.2.2.1,trivial⟩) rfl fun _=>?_
      refine j_ ?_
      refine L_ rfl ?_
      refine X_ (fun _ a b=>⟨Vw.sat.sub a,b⟩) ?_
      refine U_ 2 [7] zk (fun _ a b=>⟨Vw.sat.sub a,b⟩) ?_
      refine y_ rfl (S_ bT_ rfl rfl) rfl ?_
      refine aJ_ ?_
      refine u_ 8 rfl zk ?_
      refine I_ x_ Z_ ac_ rfl rfl rfl rfl rfl rfl fun b11=>?_
      refine j_ ?_
      refine L_ rfl ?_
      refine X_ (fun _ a b=>⟨Vw.sat.sub a.tail,b⟩) ?_
      refine u_ 9 rfl zk ?_
      refine i_ (dl_ ⟨1,(Con.atom (.mk kr nr lr hr ar cr pr)),[],(Con.atom (.mk kl nl ll hl al cl pl)),[],[],[],0,0,0⟩ frm (Con.rightP frm (.mk kl nl ll hl al cl pl) (Con.leftP frm (.mk kr nr lr hr ar cr pr) (ins frm (Con.rightP frm (.mk kr nr lr hr ar cr pr) (Con.leftP frm (.mk kl nl ll hl al cl pl) [])) ⟨1,(Con.atom (.mk kl nl ll hl al cl pl)),[],(Con.atom (.mk kr nr lr hr ar cr pr)),[],[],[],0,0,0⟩))) q23 hq23 (by omega)) rfl (.cons _ (@List.perm_append_comm _ [_] _)) zt rfl fun x=>?_
      obtain⟨q25,hq25⟩:=x
      have hb25:=bt_ frm (Con.rightP frm (.mk kl nl ll hl al cl pl) (Con.leftP frm (.mk kr nr lr hr ar cr pr) (ins frm (Con.rightP frm (.mk kr nr lr hr ar cr pr) (Con.leftP frm (.mk kl nl ll hl al cl pl) [])) ⟨1,(Con.atom (.mk kl nl ll hl al cl pl)),[],(Con.atom (.mk kr nr lr hr ar cr pr)),[],[],[],0,0,0⟩))) ⟨1,(Con.atom (.mk kr nr lr hr ar cr pr)),[],(Con.atom (.mk kl nl ll hl al cl pl)),[],[],[],0,0,0⟩
      refine W_ (@List.perm_append_comm _ _ [_]) ?_
      refine j_ ?_
      refine L_ rfl ?_
      refine X_ (fun _ a b=>⟨Vw.sat.sub a,b⟩) ?_
      refine bp_ zk ?_
      refine co_ rfl ?_
      have e:Ax.pieces frm ⟨k,op,(.mk kl nl ll hl al cl pl),(.mk kr nr lr hr ar cr pr),ad,cap,rs,ro,a,b⟩=(ins frm (Con.rightP frm (.mk kl nl ll hl al cl pl) (Con.leftP frm (.mk kr nr lr hr ar cr pr) (ins frm (Con.rightP frm (.mk kr nr lr hr ar cr pr) (Con.leftP frm (.mk kl nl ll hl al cl pl) [])) ⟨1,(Con.atom (.mk kl nl ll hl al cl pl)),[],(Con.atom (.mk kr nr lr hr ar cr pr)),[],[],[],0,0,0⟩))) ⟨1,(Con.atom (.mk kr nr lr hr ar cr pr)),[],(Con.atom (.mk kl nl ll hl al cl pl)),[],[],[],0,0,0⟩):=by
        unfold Ax.pieces
        dsimp only
        repeat (first|rfl|(rw[if_pos (by omega)])|(rw[if_neg (by omega)]))
      exact fd_ es_ ⟨q25,by rw[e];exact hq25⟩ rfl (F:=[_]) (@List.perm_append_comm _ [_] _) zt
  · skip
    replace hr1:=zeb hr1
    try dsimp only[Con.kind,Con.parts,Con.name,Con.lo,Con.hi,Con.cap,Con.ad]at hr1
    obtain⟨fl,zl⟩:=Con.check_zero (G.left (by show k≤3;omega))
    dsimp only at fl zl
    obtain⟨fr,zr⟩:=Con.check_zero (G.right (by show k≤4∨k=8;omega))
    dsimp only at fr zr
    refine E_ rfl ?_
    refine m_ ?_
    refine d_ ?_
    refine c_ (q_ rfl) rfl ?_
    refine c_ (A_ p_ rfl rfl rfl g_) rfl ?_
    refine c_ (P_ 0 w_ g_ rfl rfl rfl) rfl ?_
    refine aM_ (fC_ (kb:=kb) (bk:=bk) (bs:=bl) _ (.mk kl nl ll hl al cl pl) (Nat.le_refl _) hok.left fl [] q hq (by omega)) rfl rfl (@List.perm_append_comm _ [_] _) (fun v _ h=>by exact⟨h.2.2.2.1.1,h.2.2.2.2.1,h.1,h.2.1,trivial⟩) rfl fun x=>?_
    obtain⟨q26,hq26⟩:=x
    have hb26:=Con.leftP_len frm _ (.mk kl nl ll hl al cl pl) (Nat.le_refl _) []
    refine W_ (@List.perm_append_comm _ _ [_]) ?_
    refine j_ ?_
    refine e_ rfl ?_
    refine m_ ?_
    refine d_ ?_
    refine c_ (q_ rfl) rfl ?_
    refine c_ (A_ p_ rfl rfl rfl g_) rfl ?_
    refine c_ (P_ 0 w_ g_ rfl rfl rfl) rfl ?_
    refine aM_ (eJ_ (kb:=kb) (bk:=bk) (bs:=br) _ (.mk kr nr lr hr ar cr pr) (Nat.le_refl _) hok.right fr (Con.leftP frm (.mk kl nl ll hl al cl pl) []) q26 hq26 (by omega)) rfl rfl (@List.perm_append_comm _ [_] _) (fun v _ h=>by exact⟨h.2.2.2.1.2.1,h.2.2.2.2.1,h.1,h.2.2.1,trivial⟩) rfl fun x=>?_
    obtain⟨q27,hq27⟩:=x
    have hb27:=Con.rightP_len frm _ (.mk kr nr lr hr ar cr pr) (Nat.le_refl _) (Con.leftP frm (.mk kl nl ll hl al cl pl) [])
    refine W_ (@List.perm_append_comm _ _ [_]) ?_
    refine j_ ?_
    refine e_ rfl ?_
    refine bi_ [(b1,.cells #[.int .i64 k,.bool op,.int .i64 kl,str nl,.int .i64 ll,.int .i64 hl,.slice al pl.length cl,.int .i64 kr,str nr,.int .i64 lr,.int .i64 hr,.slice ar pr.length cr,.slice ad rs.length cap,str ro,str a,str b] 48 (0,0))] zk ?_
    refine U_ 5 [0,1,2,4,5] zk (fun _ a b=>⟨Vw.sat.sub a,b⟩) ?_
    refine y_ rfl (q_ rfl) rfl ?_
    refine y_ rfl (A_ p_ rfl rfl rfl g_) rfl ?_
    refine y_ rfl (P_ 0 w_ g_ rfl rfl rfl) rfl ?_
    refine y_ rfl (A_ p_ rfl rfl rfl g_) rfl ?_
    refine y_ rfl (P_ 0 w_ g_ rfl rfl rfl) rfl ?_
    refine aJ_ ?_
    refine u_ 3 rfl zk ?_
    refine i_ (cg_ (.mk kl nl ll hl al cl pl) hok.left) rfl (.refl _) (fun v _ h=>⟨h.2.2.2.1.1,h.2.2.2.2.1,trivial⟩) rfl fun _=>?_
    refine j_ ?_
    refine L_ rfl ?_
    refine X_ (fun _ a b=>⟨Vw.sat.sub a,b⟩) ?_
    refine u_ 6 rfl zk ?_
    refine i_ (cg_ (.mk kr nr lr hr ar cr pr) hok.right) rfl (.refl _) (fun v _ h=>⟨h.2.2.2.1.2.1,h.2.2.2.2.1,trivial⟩) rfl fun _=>?_
    refine j_ ?_
    refine L_ rfl ?_
    refine X_ (fun _ a b=>⟨Vw.sat.sub a,b⟩) ?_
    refine U_ 2 [7] zk (fun _ a b=>⟨Vw.sat.sub a,b⟩) ?_
    refine y_ rfl (S_ bT_ rfl rfl) rfl ?_
    refine aJ_ ?_
    refine u_ 8 rfl zk ?_
    refine I_ x_ Z_ ac_ rfl rfl rfl rfl rfl rfl fun b12=>?_
    refine j_ ?_
    refine L_ rfl ?_
    refine X_ (fun _ a b=>⟨Vw.sat.sub a.tail,b⟩) ?_
    refine u_ 9 rfl zk ?_
    refine i_ (dl_ ⟨1,(Con.atom (.mk kl nl ll hl al cl pl)),[],(Con.atom (.mk kr nr lr hr ar cr pr)),[],[],[],0,0,0⟩ frm (Con.rightP frm (.mk kr nr lr hr ar cr pr) (Con.leftP frm (.mk kl nl ll hl al cl pl) [])) q27 hq27 (by omega)) rfl (.cons _ (@List.perm_append_comm _ [_] _)) zt rfl fun x=>?_
    obtain⟨q29,hq29⟩:=x
    have hb29:=bt_ frm (Con.rightP frm (.mk kr nr lr hr ar cr pr) (Con.leftP frm (.mk kl nl ll hl al cl pl) [])) ⟨1,(Con.atom (.mk kl nl ll hl al cl pl)),[],(Con.atom (.mk kr nr lr hr ar cr pr)),[],[],[],0,0,0⟩
    refine W_ (@List.perm_append_comm _ _ [_]) ?_
    refine j_ ?_
    refine L_ rfl ?_
    refine X_ (fun _ a b=>⟨Vw.sat.sub a,b⟩) ?_
    refine bp_ zk ?_
    refine co_ rfl ?_
    have e:Ax.pieces frm ⟨k,op,(.mk kl nl ll hl al cl pl),(.mk kr nr lr hr ar cr pr),ad,cap,rs,ro,a,b⟩=(ins frm (Con.rightP frm (.mk kr nr lr hr ar cr pr) (Con.leftP frm (.mk kl nl ll hl al cl pl) [])) ⟨1,(Con.atom (.mk kl nl ll hl al cl pl)),[],(Con.atom (.mk kr nr lr hr ar cr pr)),[],[],[],0,0,0⟩):=by
      unfold Ax.pieces
      dsimp only
      repeat (first|rfl|(rw[if_pos (by omega)])|(rw[if_neg (by omega)]))
    exact fd_ es_ ⟨q29,by rw[e];exact hq29⟩ rfl (F:=[_]) (@List.perm_append_comm _ [_] _) zt
end Go.Proofs.YtamklbgaipakfaaGreatDoor
namespace Go.Proofs.YtamklbgaipakfaaGreatDoor
open Go Go.Sx Go.Proofs
attribute [local irreducible] Code.wp wpList wpAnyH
open Go.Vs
theorem aG_.form {e:TypeId} {sz n:Nat} {sv:Value} {xs:List Value} {Hr:Hp} (h:aG_ e sz sv n xs Hr):∃ ad cap,sv=.slice ad n cap:=by
 rcases h.2 with⟨h1,h2,_⟩|⟨g,cap,cur,h1,_⟩
 ·exact⟨none,0,by rw[h1,h2]⟩
 exact⟨_,cap,h1⟩
theorem aG_.nilcap {e:TypeId} {sz n m cap:Nat} {sv:Value} {xs:List Value} {Hr:Hp} {ad:Option Addr} (h:aG_ e sz sv n xs Hr) (hs:sv=.slice ad m cap):ad=none→cap=0:=fun h0=>by
 rcases h.2 with⟨h1,_,_⟩|⟨g,c,cur,h1,_⟩
 ·rw[h1]at hs;simp only[Value.slice.injEq]at hs;exact hs.2.2.symm
 rw[h1,h0]at hs;simp at hs
theorem pt_ (l:List Ax) (ad:Option Addr) (cap:Nat) (hcap:l.length≤2199023255488) (hok:∀ x∈l,x.ok) :
    Tri Tryz.prog 27 #[.slice ad l.length cap] [] [cH_ ad l,ck_] (fun y:{y:Option Addr×Nat // (aD_ l).1.length≤y.2∧y.2≤maxLen∧(y.1=none→y.2=0)}=>.tuple #[.slice y.1.1 (aD_ l).1.length y.1.2,.int .i64 (aD_ l).2]) (fun _=>[]) (fun y=>[aw_ y.1.1 ((aD_ l).1.flatMap Pc.cells)]):=by
  refine o_ Tryz.func27 rfl rfl Tryz.ntmps27 rfl fun v0=>?_
  refine m_ ?_
  refine d_ ?_
  refine c_ (n_ rfl) rfl ?_
  refine c_ (n_ rfl) rfl ?_
  refine j_ ?_
  refine e_ rfl ?_
  refine m_ ?_
  refine m_ ?_
  refine d_ ?_
  refine c_ (q_ rfl) rfl ?_
  refine c_ (bM_ ae_ rfl) rfl ?_
  refine s_ (dv_ rfl rfl) rfl fun r1 hr1=>?_
  refine j_ ?_
  refine e_ rfl ?_
  cases r1
  · skip
    replace hr1:=zdf hr1
    try dsimp only[Con.kind,Con.parts,Con.name,Con.lo,Con.hi,Con.cap,Con.ad]at hr1
    refine F_ rfl ?_
    refine ai_ ?_
    refine e_ rfl ?_
    refine m_ ?_
    refine m_ ?_
    refine d_ ?_
    refine c_ (q_ rfl) rfl ?_
    refine c_ (bM_ ae_ rfl) rfl ?_
    refine c_ (q_ rfl) rfl ?_
    refine j_ ?_
    refine e_ rfl ?_
    refine aB_ ?_
    refine aN_ [(0,.slice ad l.length cap),(2,.slice none 0 0),(13,.slice ad l.length cap),(14,.int .i64 (l.length:Int)),(15,.int .i64 ((0:Nat):Int))] zl ?_
    refine aT_ (ι:={q:Nat // q≤l.length∧∀ y∈l.take q,y.check=0}) (fun i=>[(0,.slice ad l.length cap),(2,.slice none 0 0),(13,.slice ad l.length cap),(14,.int .i64 (l.length:Int)),(15,.int .i64 (i.1:Int))]) (fun _=>_) (fun _=>_) (fun i=>l.length - i.1) ⟨0,by simp⟩ ?_
    rintro ⟨i,hk⟩
    refine aN_ [(0,.slice ad l.length cap),(2,.slice none 0 0),(13,.slice ad l.length cap),(14,.int .i64 (l.length:Int)),(15,.int .i64 (i:Int))] zl ?_
    refine m_ ?_
    refine d_ ?_
    refine s_ (bR_ rfl rfl) rfl fun r2 hr2=>?_
    refine j_ ?_
    refine e_ rfl ?_
    refine m_ ?_
    cases r2
    · skip
      replace hr2:=zdf hr2
      try dsimp only[Con.kind,Con.parts,Con.name,Con.lo,Con.hi,Con.cap,Con.ad]at hr2
      obtain rfl:i=l.length:=by omega
      try rw[List.take_length]at hk
      refine F_ rfl ?_
      refine cp_ rfl ?_
      refine e_ rfl ?_
      refine m_ ?_
      refine m_ ?_
      refine d_ ?_
      refine c_ (q_ rfl) rfl ?_
      refine c_ (bM_ ae_ rfl) rfl ?_
      refine c_ (q_ rfl) rfl ?_
      refine j_ ?_
      refine e_ rfl ?_
      refine aB_ ?_
      have hall:=hk.2
      refine aN_ [(2,.slice none 0 0),(25,.slice ad l.length cap),(26,.int .i64 (l.length:Int)),(27,.int .i64 ((0:Nat):Int))] zl ?_
      refine aT_ (ι:={x:Nat×List Pc×Value×Hp // x.1≤l.length∧aG_ 58 10 x.2.2.1 x.2.1.length (x.2.1.flatMap Pc.cells) x.2.2.2∧x.2.1.length≤16384∧go_ 0 l []=go_ x.1 (l.drop x.1) x.2.1}) (fun x=>[(2,x.1.2.2.1),(25,.slice ad l.length cap),(26,.int .i64 (l.length:Int)),(27,.int .i64 (x.1.1:Int))]) (fun x=>x.1.2.2.2) (fun _=>_) (fun x=>l.length - x.1.1) ⟨(0,[],.slice none 0 0,[]),by simp,aG_.nil _ _,by simp,rfl⟩ ?_
      clear hk
      rintro ⟨⟨i,p,sv,Hr⟩,hk⟩
      dsimp only at hk
      refine aN_ [(2,sv),(25,.slice ad l.length cap),(26,.int .i64 (l.length:Int)),(27,.int .i64 (i:Int))] zl ?_
      refine m_ ?_
      refine d_ ?_
      refine s_ (bR_ rfl rfl) rfl fun r3 hr3=>?_
      refine j_ ?_
      refine e_ rfl ?_
      refine m_ ?_
      cases r3
      · skip
        replace hr3:=zdf hr3
        try dsimp only[Con.kind,Con.parts,Con.name,Con.lo,Con.hi,Con.cap,Con.ad]at hr3
        obtain rfl:i=l.length:=by omega
        try rw[List.take_length]at hk
        refine F_ rfl ?_
        refine cp_ rfl ?_
        refine e_ rfl ?_
        refine m_ ?_
        refine d_ ?_
        refine c_ (q_ rfl) rfl ?_
        refine c_ (n_ rfl) rfl ?_
        refine c_ (n_ rfl) rfl ?_
        refine j_ ?_
        refine e_ rfl ?_
        refine ar_ ?_
        refine cV_ hk.2.1 (F:=[]) (by rw[List.append_nil]) fun ad2 cp2 hsv hc1 hc2=>?_
        have e:aD_ l=(p,0):=by
          unfold aD_;rw[if_neg (by omega),if_neg (by simp[eN_ hall]),hk.2.2.2,List.drop_length];first|done|rfl
        have hy:(aD_ l).1.length≤cp2∧cp2≤maxLen∧(ad2=none→cp2=0):=by rw[e];exact⟨hc1,hc2,aG_.nilcap hk.2.1 hsv⟩
        have hz:Value.tuple #[sv,.int .i64 0]=.tuple #[.slice ad2 (aD_ l).1.length cp2,.int .i64 (aD_ l).2]:=by rw[e,hsv]
        have hw:(p.flatMap Pc.cells)=((aD_ l).1.flatMap Pc.cells):=by rw[e]
        exact fv_ Tryz.results27 ⟨(ad2,cp2),hy⟩ rfl rfl hz (.refl _) (fun v _ h=>⟨hw▸h.1,trivial⟩)
      · skip
        replace hr3:=zdt hr3
        try dsimp only[Con.kind,Con.parts,Con.name,Con.lo,Con.hi,Con.cap,Con.ad]at hr3
        have hlt:i<l.length:=by omega
        obtain⟨x,hx⟩:∃ x,l[i]? = some x:=⟨_,List.getElem?_eq_getElem hlt⟩
        have hxm:x∈l:=List.mem_of_getElem? hx
        refine E_ rfl ?_
        refine ai_ ?_
        refine e_ rfl ?_
        refine m_ ?_
        refine aB_ ?_
        refine m_ ?_
        have G:=Ax.good_of (hall x hxm)
        have hpl:=gj_ (i:Int) G
        refine d_ ?_
        refine c_ (q_ rfl) rfl ?_
        refine c_ (T_ ae_ ad_ rfl rfl (fun v _ h=>J_ (n:=16) Ax.cells_len (by decide) (h.1.1) hx) (by omega) (by first|omega|(simp only[Con.parts];omega)|(simp[Con.parts];done))) rfl ?_
        refine c_ (al_ (ad:=ad) (us:=x.cells) bB_ ad_ rfl (fun v _ h=>h.1.1) (Ax.cells_len _) (H_ Ax.cells_len hx)) rfl ?_
        refine au_ bm_ rfl fun b1=>?_
        refine c_ (n_ rfl) rfl ?_
        refine jC_ (us:=x.cells) 0 ad_ x.cells_len x.one_cells rfl rfl rfl rfl ?_
        refine j_ ?_
        refine e_ rfl ?_
        refine m_ ?_
        refine d_ ?_
        refine c_ (q_ rfl) rfl ?_
        refine i_ (gM_ (i:Int)) rfl (.refl _) zt rfl fun⟨kb,bm⟩=>?_
        refine c_ (n_ rfl) rfl ?_
        refine j_ ?_
        refine e_ rfl ?_
        refine m_ ?_
        refine d_ ?_
        refine c_ (q_ rfl) rfl ?_
        refine c_ (ki_ (us:=x.cells) 2 bB_ ad_ x.cells_len rfl rfl) rfl ?_
        refine i_ (sA_ x (hok x hxm) (hall x hxm) (i:Int) ⟨.slice none 0 0,bm,#[],0,[]⟩ ⟨aG_.nil _ _,rfl,by simp⟩) rfl (.refl _) (fun v _ h=>⟨h.1.2 x hxm,h.2.1,trivial⟩) rfl fun y=>?_
        obtain⟨⟨sv1,bm1,es1,ck1,Hr1⟩,hq⟩:=y
        have hne:=hq.row
        dsimp only at hne
        have hn0:(x.pieces (i:Int)).length≠0:=fun e=>Ax.pieces_ne _ G (List.eq_nil_of_length_eq_zero e)
        obtain⟨g,cp,cur,rfl,rfl,h3,h4,h5,h6⟩:=hne.some hn0
        refine j_ ?_
        refine e_ rfl ?_
        refine m_ ?_
        refine d_ ?_
        refine c_ (q_ rfl) rfl ?_
        refine c_ (q_ rfl) rfl ?_
        refine c_ (cJ_ rfl) rfl ?_
        refine c_ (A_ aS_ rfl rfl rfl bd_) rfl ?_
        refine c_ (M_ 0 eH_ rfl rfl rfl) rfl ?_
        refine aW_ rk_ hk.2.1 rfl rfl (@List.perm_append_comm _ [_,_,_,_] _) (by rw[dR_ Pc.cells 10 Pc.cells_len]) (pv_ 2 rfl h6) (fun u hu=>by obtain⟨y,_,hy⟩:=List.mem_flatMap.1 hu;exact cY_ y.cells_one u hy) (by simp only[maxLen];omega) (by omega) rfl fun sv2 Hr2 hrow=>?_
        refine W_ (@List.perm_append_comm _ _ [_,_,_,_]) ?_
        have hln:∃ ad2 cp2,sv2=.slice ad2 (p.length+(x.pieces (i:Int)).length) cp2:=aG_.form hrow
        obtain⟨ad2,cp2,hsv⟩:=hln
        refine c_ (n_ rfl) rfl ?_
        refine j_ ?_
        refine e_ rfl ?_
        refine m_ ?_
        refine d_ ?_
        refine c_ (q_ rfl) rfl ?_
        refine c_ (bM_ (ad:=ad2) (len:=p.length+(x.pieces (i:Int)).length) (cap:=cp2) x_ (congrArg some hsv)) rfl ?_
        refine s_ (dv_ rfl rfl) rfl fun r4 hr4=>?_
        refine j_ ?_
        refine e_ rfl ?_
        cases r4
        · skip
          replace hr4:=zdf hr4
          try dsimp only[Con.kind,Con.parts,Con.name,Con.lo,Con.hi,Con.cap,Con.ad]at hr4
          refine F_ rfl ?_
          refine ai_ ?_
          refine e_ rfl ?_
          refine d_ ?_
          refine c_ (aA_ rfl rfl rfl (be_ (by omega) (by omega))) rfl ?_
          refine c_ (q_ rfl) rfl ?_
          refine j_ ?_
          refine L_ rfl ?_
          exact R_ ⟨(i+1,p++x.pieces (i:Int),sv2,Hr2),hlt,by simpa [List.flatMap_append] using hrow,by simp only[List.length_append];omega,by rw[hk.2.2.2,fA_ hx];simp only[go_];rw[if_neg (by simp only[List.length_append];omega)]⟩ (by simp;omega) zl (F:=[_,_,_,_]) (@List.perm_append_comm _ [_,_,_,_] _) zh
        · skip
          replace hr4:=zdt hr4
          try dsimp only[Con.kind,Con.parts,Con.name,Con.lo,Con.hi,Con.cap,Con.ad]at hr4
          refine E_ rfl ?_
          refine m_ ?_
          refine d_ ?_
          refine c_ (n_ rfl) rfl ?_
          refine c_ (n_ rfl) rfl ?_
          refine j_ ?_
          refine e_ rfl ?_
          refine ar_ ?_
          have e:aD_ l=([],2):=by unfold aD_;rw[if_neg (by omega),if_neg (by simp[eN_ hall]),hk.2.2.2,fA_ hx];simp only[go_];rw[if_pos (by simp only[List.length_append];omega)]
          have hy:(aD_ l).1.length≤0∧0≤maxLen∧((none:Option Addr)=none→0=0):=by rw[e];simp
          have hz:Value.tuple #[.slice none 0 0,.int .i64 2]=.tuple #[.slice none (aD_ l).1.length 0,.int .i64 (aD_ l).2]:=by rw[e]<;>rfl
          have hw:(aD_ l).1.flatMap Pc.cells=[]:=by rw[e]<;>rfl
          exact fv_ Tryz.results27 ⟨(none,0),hy⟩ rfl rfl hz (.refl _) (fun v _ h=>⟨.inl hw,trivial⟩)
    · skip
      replace hr2:=zdt hr2
      try dsimp only[Con.kind,Con.parts,Con.name,Con.lo,Con.hi,Con.cap,Con.ad]at hr2
      have hlt:i<l.length:=by omega
      obtain⟨x,hx⟩:∃ x,l[i]? = some x:=⟨_,List.getElem?_eq_getElem hlt⟩
      have hxm:x∈l:=List.mem_of_getElem? hx
      refine E_ rfl ?_
      refine ai_ ?_
      refine e_ rfl ?_
      refine m_ ?_
      refine aB_ ?_
      refine m_ ?_
      refine d_ ?_
      refine c_ (T_ ae_ ad_ rfl rfl (fun v _ h=>J_ (n:=16) Ax.cells_len (by decide) (h.1.1) hx) (by omega) (by first|omega|(simp only[Con.parts];omega)|(simp[Con.parts];done))) rfl ?_
      refine c_ (al_ (ad:=ad) (us:=x.cells) bB_ ad_ rfl (fun v _ h=>h.1.1) (Ax.cells_len _) (H_ Ax.cells_len hx)) rfl ?_
      refine au_ bm_ rfl fun b2=>?_
      refine jC_ (us:=x.cells) 0 ad_ x.cells_len x.one_cells rfl rfl rfl rfl ?_
      refine j_ ?_
      refine e_ rfl ?_
      refine m_ ?_
      refine d_ ?_
      refine c_ (ki_ (us:=x.cells) 0 bB_ ad_ x.cells_len rfl rfl) rfl ?_
      refine i_ (gt_ x (hok x hxm)) rfl (.refl _) (fun v _ h=>⟨h.1.2 x hxm,h.2.1,trivial⟩) rfl fun _=>?_
      refine c_ (n_ rfl) rfl ?_
      refine j_ ?_
      refine e_ rfl ?_
      refine m_ ?_
      refine d_ ?_
      refine c_ (q_ rfl) rfl ?_
      refine s_ (bU_ rfl rfl) rfl fun r5 hr5=>?_
      refine j_ ?_
      refine e_ rfl ?_
      cases r5
      · skip
        replace hr5:=cy_ hr5
        try dsimp only[Con.kind,Con.parts,Con.name,Con.lo,Con.hi,Con.cap,Con.ad]at hr5
        refine F_ rfl ?_
        refine ai_ ?_
        refine e_ rfl ?_
        refine d_ ?_
        refine c_ (aA_ rfl rfl rfl (be_ (by omega) (by omega))) rfl ?_
        refine c_ (q_ rfl) rfl ?_
        refine j_ ?_
        refine L_ rfl ?_
        exact R_ ⟨i+1,hlt,fun y hy=>by rw[List.take_add_one,hx]at hy;simp only[Option.toList_some,List.mem_append,List.mem_singleton]at hy;rcases hy with hy|rfl;exact hk.2 y hy;assumption⟩ (by simp;omega) zl (@List.perm_append_comm _ [_] _) zh
      · skip
        replace hr5:=cw_ hr5
        try dsimp only[Con.kind,Con.parts,Con.name,Con.lo,Con.hi,Con.cap,Con.ad]at hr5
        refine E_ rfl ?_
        refine m_ ?_
        refine d_ ?_
        refine c_ (q_ rfl) rfl ?_
        refine c_ (n_ rfl) rfl ?_
        refine c_ (n_ rfl) rfl ?_
        refine j_ ?_
        refine e_ rfl ?_
        refine ar_ ?_
        have e:aD_ l=([],x.check):=by unfold aD_;rw[if_neg (by omega),gT_ hx hk.2 (by assumption),if_pos (by assumption)]
        have hy:(aD_ l).1.length≤0∧0≤maxLen∧((none:Option Addr)=none→0=0):=by rw[e];simp
        have hz:Value.tuple #[.slice none 0 0,.int .i64 x.check]=.tuple #[.slice none (aD_ l).1.length 0,.int .i64 (aD_ l).2]:=by rw[e]<;>rfl
        have hw:(aD_ l).1.flatMap Pc.cells=[]:=by rw[e]<;>rfl
        exact fv_ Tryz.results27 ⟨(none,0),hy⟩ rfl rfl hz (.refl _) (fun v _ h=>⟨.inl hw,trivial⟩)
  · skip
    replace hr1:=zdt hr1
    try dsimp only[Con.kind,Con.parts,Con.name,Con.lo,Con.hi,Con.cap,Con.ad]at hr1
    refine E_ rfl ?_
    refine m_ ?_
    refine d_ ?_
    refine c_ (n_ rfl) rfl ?_
    refine c_ (n_ rfl) rfl ?_
    refine j_ ?_
    refine e_ rfl ?_
    refine ar_ ?_
    have e:aD_ l=([],2):=by unfold aD_;rw[if_pos (by omega)]
    have hy:(aD_ l).1.length≤0∧0≤maxLen∧((none:Option Addr)=none→0=0):=by rw[e];simp
    have hz:Value.tuple #[.slice none 0 0,.int .i64 2]=.tuple #[.slice none (aD_ l).1.length 0,.int .i64 (aD_ l).2]:=by rw[e]<;>rfl
    have hw:(aD_ l).1.flatMap Pc.cells=[]:=by rw[e]<;>rfl
    exact fv_ Tryz.results27 ⟨(none,0),hy⟩ rfl rfl hz (.refl _) (fun v _ h=>⟨.inl hw,trivial⟩)
theorem qD_ (l:List Ax) (ad:Option Addr) (cap:Nat) (hcap:l.length≤cap∧cap≤2199023255488) (hok:∀ x∈l,x.ok) :
    Tri Tryz.prog 27 #[.slice ad l.length cap] [] [cH_ ad l,ck_] (fun y:{y:Option Addr×Nat // (aD_ l).1.length≤y.2∧y.2≤maxLen∧(y.1=none→y.2=0)}=>.tuple #[.slice y.1.1 (aD_ l).1.length y.1.2,.int .i64 (aD_ l).2]) (fun _=>[]) (fun y=>[aw_ y.1.1 ((aD_ l).1.flatMap Pc.cells)]):=pt_ l ad cap (Nat.le_trans hcap.1 hcap.2) hok
end Go.Proofs.YtamklbgaipakfaaGreatDoor
namespace Go.Proofs.YtamklbgaipakfaaGreatDoor
open Go Go.Sx Go.Proofs
attribute [local irreducible] Code.wp wpList wpAnyH
open Go.Vs
theorem pa_ {N:Nf} {fr:Fr} {H:Hp} {Γ:List Fct} {ty t':TypeId} {x y:Operand} {p q:Pc} (hx:Fr.ev fr x=some p.val) (hy:Fr.ev fr y=some q.val):Yld Tryz.prog N fr H Γ (.binOp .eql 58 x y t') ty (.bool (decide (p=q))) :=
  fun a v h1 _ _ _ _ _=>by
    have hg:(Program.eqGuardType Tryz.prog Tryz.prog.depth 58)=false:=by kernel_rfl
    have he:=eqPc p q v.w
    simp only[execOp,h1.ev hx,h1.ev hy,eqGuard,Pc.val,binOp,Op.equal,Sem.run_bind,Result.andThen_ok]
    simp only[run_program,Result.andThen_ok,hg,Bool.not_false,if_true,Sem.run_pure]
    simp only[Pc.val]at he
    simp[Op.maxDepth,he]
end Go.Proofs.YtamklbgaipakfaaGreatDoor
namespace Go.Proofs.YtamklbgaipakfaaGreatDoor
open Go Go.Sx Go.Proofs
attribute [local irreducible] Code.wp wpList wpAnyH
open Go.Vs
theorem qb_ {N:Nf} {fr:Fr} {H:Hp} {Γ:List Fct} {P:Program} {ty t t':TypeId} {x y:Operand} {m n:Int} (hx:Fr.ev fr x=some (.int .i64 m)) (hy:Fr.ev fr y=some (.int .i64 n)):Yld P N fr H Γ (.binOp .add t x y t') ty (.int .i64 (IntKind.wrap .i64 (m+n))) :=
  fun a v h1 _ _ _ _ _=>by simp[execOp,h1.ev hx,h1.ev hy,eqGuard,binOp,Op.intArith]
def wz (n:Nat):Int:=IntKind.wrap .i64 (n:Int)
theorem rC_ (n:Nat):IntKind.wrap .i64 (wz n+1)=wz (n+1):=by
  unfold wz
  rw[IntKind.wrap_i64,IntKind.wrap_i64,IntKind.wrap_i64]
  omega
theorem qc_ {n:Nat} (h:n≤1000000):wz n=(n:Int):=be_ (by omega) (by omega)
theorem Con.fold_cnt:∀ (m:Nat) (c:Con),c.sz≤m→∀ n,Con.fold Con.cnt c n=.inl (n+c.sz)
  | 0,c,h=>by have:=c.sz_pos;omega
  | m+1,c,h=>fun n=>by
    have key:∀ ps:List Con,(∀ p∈ps,p.sz≤m)→∀ n,Con.fold.folds Con.cnt ps n=.inl (n+Con.sz.szs ps):=by
      intro ps
      induction ps with
      | nil=>intro _ n;simp[Con.fold.folds,Con.sz.szs]
      | cons p ps ih =>
        intro hp n
        simp only[Con.fold.folds,Con.fold_cnt m p (hp p (by simp)) n,Con.sz.szs]
        rw[ih (fun q hq=>hp q (by simp[hq]))]
        congr 1;omega
    rw[Con.fold_eq]
    simp only[Con.cnt]
    rw[key c.parts (fun p hp=>by have:=Con.sz_part hp;omega)]
    congr 1
    cases c;simp only[Con.sz,Con.parts];omega
theorem size_c (c:Con) (hok:c.ok) (hz0:c.sz≤1000000):Tri Tryz.prog 182 #[c.val] [] [c.memF] (fun _:Unit=>.int .i64 (c.sz:Int)) (fun _=>[]) (fun _=>[]):=by
 refine eq_ Tryz.func182 rfl rfl Tryz.ntmps182 rfl fun v0=>?_
 refine Zz 2 ?_
 refine ah_ rfl rfl fun b1=>au_ bb_ rfl fun b2=>Zz 5 ?_
 refine c_ (cK_ 1 w_ g_ rfl rfl) rfl (i_ (qg_ c) rfl (.refl _) zt rfl fun b=>Zz 3 ?_)
 refine aN_ [(2,zp_ b2 0),(4,.func (.func 198) #[] #[zp_ b 0])] zl ?_
 refine ev_ (H':=[_,_]) (F:=[_]) (.refl _) zh ?_
 refine ku_ (α:={c:Con // c.ok}) (xv:=fun x=>x.1.val) (good:=fun _=>True) (stp:=fun x=>Con.cnt x.1) (Γx:=fun x=>[x.1.memF]) (Γi:=[Con.memF c]) (Hj:=fun n:Nat=>[(b2,.cells #[.int .i64 (wz n)] 3 (0,0))]) (Hx:=fun _:Empty=>[]) (Hc:=[(b,.cells c.cells.toArray 46 (0,0))]) (caps:=[zp_ b 0]) 0 (Con.fold Con.cnt c 0) rfl (.refl _) (fun v _ h=>h) ?_ ?_ ?_ ?_
 ·rintro l D rec hp hst hpe ht hasg hbody s ⟨x,hx⟩ -
  refine jc_ (ι:=Unit) (Hj:=fun n:Nat=>[(b2,.cells #[.int .i64 (wz n)] 3 (0,0))]) (Hx:=fun _:Empty=>[]) (s:=s) (res:=Con.cnt x s) (Γ:=[x.memF]) (fun _=>[(2,zp_ b2 0)]) (fun _=>[(b2,.cells #[.int .i64 (wz s)] 3 (0,0))]) hp hst hpe ht rfl ?_ ?_
  ·intro n v0 H0 HL
   rw[hasg]
   refine kv_ ?_
   refine cE_ rfl ?_
   exact dd_ () ⟨rfl,trivial⟩ (F:=[]) (by rw[List.append_nil]) zh
  intro n v0 H0 HL _
  rw[hbody]
  refine fn_ ?_
  refine bj_ ?_
  refine ax_ (bC_ _) (M_ 0 ay_ rfl rfl rfl) rfl rfl ?_
  refine ax_ (bC_ _) (br_ (qb_ rfl rfl) (show _=Value.int .i64 (wz (s+1)) from congrArg (Value.int .i64) (rC_ s))) rfl rfl ?_
  refine ei_ (bC_ _) 0 ab_ rfl rfl rfl rfl rfl rfl ?_
  refine bX_ ?_
  refine cE_ rfl ?_
  exact kw_ (s+1) rfl (G:=[]) (by rw[List.append_nil];exact .refl _)
 ·intro l Gj Gx hY
  exact oo_ (E:=[]) (good:=fun _=>True) (fun _ _ _ _=>trivial) (fun s x hx _=>hY s ⟨x,hx⟩ trivial) _ hok trivial 0
 ·intro s hs D l r
  rw[Con.fold_cnt _ _ (Nat.le_refl _)]at hs
  obtain rfl:0+c.sz=s:=Sum.inl.inj hs
  have hz:wz (0+c.sz)=(c.sz:Int):=by rw[Nat.zero_add];exact qc_ hz0
  refine cL_ rfl ?_
  refine eQ_ ?_
  refine bj_ ?_
  refine ax_ aj_ (M_ 1 ay_ rfl rfl rfl) rfl rfl ?_
  refine ei_ aj_ 1 ab_ rfl rfl rfl rfl rfl rfl ?_
  refine bX_ ?_
  refine cL_ rfl ?_
  refine fM_ ?_
  exact ky_ (G:=[_,_,_]) () (fun a v h1 h2=>by rw[← hz];exact hQ_ 1 Tryz.results182 ay_ rfl rfl a v h1 h2) (eK_ (i:=3) rfl) ⟨_,.refl _⟩ rfl
 intro t hs D l r
 cases t
end Go.Proofs.YtamklbgaipakfaaGreatDoor
