/-
  Lemmas for the law ModuleExtracts (no condition).
-/
import Derived.Test.YtbffkokbdeppaaaGreatDoorQModuleExtracts2
import Derived.Shelf.Strings.Builder1
import Derived.Shelf.Strings.Builder2
import Derived.Shelf.Strings.OnBuilder
import Derived.Shelf.Small.Bits
import Derived.Shelf.Small.Strs
import Derived.Shelf.Small.Wraps
import Derived.Shelf.Utf8.RuneCount
import Derived.Shelf.Strconv.Itoa0
import Derived.Shelf.Strconv.Itoa1
import Derived.Shelf.LaysM
import Derived.Shelf.Strconv.Itoa2
import Derived.Shelf.Strconv.Itoa3
import Derived.Shelf.Strings.Search1
import Derived.Shelf.Strings.Search2
import Derived.Shelf.Strings.Search3
import Derived.Shelf.Strings.Cut
import Derived.Shelf.Strings.Count
import Derived.Shelf.Strings.Shaped
import Derived.Shelf.Sort.Plain
import Derived.Shelf.Strings.Prefix
import Derived.Shelf.Strings.Split
import Derived.Shelf.Strings.SplitShaped
import Derived.Shelf.Unicode.DecodeSlow
import Derived.Shelf.Slices.Reverse
import Derived.Shelf.Slices.CompactS
import Derived.Ground.Names2Prog
import Derived.Shelf.Slices.SearchI
import Derived.Shelf.Slices.Cells
import Derived.Shelf.Slices.In.SortNone
import Derived.Ground.SlgnProg
import Derived.Shelf.SlicesE.Clone
import Derived.Ground.SlsfProg
import Derived.Shelf.SlSortCmp.Insertion
import Derived.Shelf.SlSortCmp.SiftDown1
import Derived.Shelf.SlSortCmp.HeapSort1
import Derived.Shelf.SlSortCmp.Insertion1
import Derived.Shelf.SlSortCmp.Median1
import Derived.Shelf.SlSortCmp.Pivot1
import Derived.Shelf.SlSortCmp.ReverseRange1
import Derived.Shelf.SlSortCmp.PartialInsertion1
import Derived.Shelf.SlSortCmp.PartitionEqual1
import Derived.Shelf.SlSortCmp.Partition1
import Derived.Shelf.SlSortCmp.Pdq1
import Derived.Shelf.SlSortCmp.Whole1
import Derived.Shelf.SlSortCmp.NoneTotal
import Derived.Test.YtbffkokbdeppaaaGreatDoorProg
set_option linter.unusedVariables false
set_option linter.unusedSimpArgs false
set_option linter.unusedSectionVars false
set_option maxHeartbeats 1000000
namespace Go.Vs
open Go Go.Sx
def gq_ (a c:Str):Pc:=⟨1,a,[],c,[],[],[],0,0,0⟩
def bI_ (frm:Int):List Str->List Pc->List Pc
  | [],l=>l
  | a::r,l=>bI_ frm r (ins frm l (gq_ a [42]))
theorem eL_ (frm:Int):∀ (r:List Str) (l:List Pc),(bI_ frm r l).length<=l.length+r.length
  | [],l=>by grind[bI_]
  | a::r,l=>by
    have d:=eL_ frm r (ins frm l (gq_ a [42]))
    grind[cX_,bI_]
theorem mc_ (frm:Int):∀ (xs ys:List Str) (l:List Pc),bI_ frm (xs++ys) l=bI_ frm ys (bI_ frm xs l)
  | [],_,_=>rfl
  | x::xs,ys,l=>by simp only[yaL_,bI_];exact mc_ frm xs ys _
theorem vs_ (frm:Int) {xs:List Str} {a:Str} {i:Nat} (d:xs[i]? = some a) (l:List Pc):bI_ frm (xs.take (i+1)) l=ins frm (bI_ frm (xs.take i) l) (gq_ a [42]):=by
  rw[yao_,d,ybf_,mc_];rfl
def bY_ (s:Str):Str:=[123]++s++[125]
def Ax.disj (x:Ax):Str:=[60]++x.left.operandN++[32,97,110,100,32]++x.right.operandN++[62]
def Ax.doms (x:Ax):Str:=[60,115,111,109,101,32]++x.role++[32,101,118,101,114,121,116,104,105,110,103,62]
def Ax.goalP (x:Ax):List Pc×List Fc×Int :=
  if x.check≠0 then ([],[],x.check)
  else if x.kind=1 then (x.right.leftP (-1) (x.left.rightP (-1) (bI_ (-1) [x.left.atom,x.right.atom] [])),[⟨1,x.left.atom,x.right.atom,[],0,0⟩],0)
  else if x.kind=2 then (x.left.leftP (-1) (x.right.rightP (-1) (x.right.leftP (-1) (x.left.rightP (-1) (bI_ (-1) [x.left.atom,x.right.atom] [])))),[⟨1,x.left.atom,x.right.atom,[],0,0⟩,⟨1,x.right.atom,x.left.atom,[],0,0⟩],0)
  else if x.kind=3 then (x.right.rightP (-1) (ins (-1) (x.left.rightP (-1) (ins (-1) (bI_ (-1) [x.disj,[33]] []) (gq_ x.disj x.left.atom))) (gq_ x.disj x.right.atom)),[⟨1,x.disj,[33],[],0,0⟩],0)
  else if x.kind=4 then (x.right.leftP (-1) (ins (-1) (bI_ (-1) [x.doms,x.right.atom] []) ⟨3,x.doms,[],[42],x.role,[],[],0,0,0⟩),[⟨1,x.doms,x.right.atom,[],0,0⟩],0)
  else if x.kind=8 then (x.right.leftP (-1) (bI_ (-1) [bY_ x.a,x.right.atom] []),[⟨1,bY_ x.a,x.right.atom,[],0,0⟩],0)
  else if x.kind=9 then (bI_ (-1) [bY_ x.a,bY_ x.b] [],[⟨2,bY_ x.a,bY_ x.b,x.role,0,0⟩],0)
  else ([],[],22)
theorem Con.operandN_len {c:Con} (d:c.ok):c.operandN.length<=6402:=by
  grind[textN_len,operandN]
end Go.Vs
namespace Go.Proofs
open Go.Shelf
def Tryz.lays156_ren:Go.Shelf.Ren:=⟨fun|156=>369|165=>387|166=>388|169=>389|240=>397|241=>398|276=>403|277=>404|n=>n,fun|31=>25|9=>9|3=>3|4=>4|0=>0|20=>20|72=>410|76=>413|70=>408|37=>355|75=>412|127=>420|164=>425|5=>5|80=>415|n=>n,fun|n=>n⟩
theorem Tryz.lays156:Go.Proofs.Lays.n156 Tryz.prog Tryz.lays156_ren:={
  mixed:=by kernel_rfl
  f156:=Tryz.func369.trans (yag_ some zam_)
  f165:=Tryz.func387.trans (yag_ some zam_)
  f166:=Tryz.func388.trans (yag_ some zam_)
  f169:=Tryz.func389.trans (yag_ some zam_)
  f240:=Tryz.func397.trans (yag_ some zam_)
  f241:=Tryz.func398.trans (yag_ some zam_)
  f276:=Tryz.func403.trans (yag_ some zam_)
  f277:=Tryz.func404.trans (yag_ some zam_)
  t0:=Tryz.underlying0
  a0:=Tryz.isAgg0
  z0:=Tryz.sizeOf0
  v0:=Tryz.zeroValue0
  t3:=Tryz.underlying3
  a3:=Tryz.isAgg3
  z3:=Tryz.sizeOf3
  v3:=Tryz.zeroValue3
  t4:=Tryz.underlying4
  a4:=Tryz.isAgg4
  z4:=Tryz.sizeOf4
  v4:=Tryz.zeroValue4
  t9:=Tryz.underlying9
  a9:=Tryz.isAgg9
  z9:=Tryz.sizeOf9
  v9:=Tryz.zeroValue9
  t20:=Tryz.underlying20
  a20:=Tryz.isAgg20
  z20:=Tryz.sizeOf20
  v20:=Tryz.zeroValue20
  t31:=Tryz.underlying25
  a31:=Tryz.isAgg25
  z31:=Tryz.sizeOf25
  v31:=Tryz.zeroValue25
  t37:=Tryz.underlying355
  a37:=Tryz.isAgg355
  z37:=Tryz.sizeOf355
  v37:=Tryz.zeroValue355
  t70:=Tryz.underlying408
  a70:=Tryz.isAgg408
  z70:=Tryz.sizeOf408
  v70:=Tryz.zeroValue408
  t72:=Tryz.underlying410
  a72:=Tryz.isAgg410
  z72:=Tryz.sizeOf410
  v72:=Tryz.zeroValue410
  t75:=Tryz.underlying412
  a75:=Tryz.isAgg412
  z75:=Tryz.sizeOf412
  v75:=Tryz.zeroValue412
  t76:=Tryz.underlying413
  a76:=Tryz.isAgg413
  z76:=Tryz.sizeOf413
  v76:=Tryz.zeroValue413
  t127:=Tryz.underlying420
  a127:=Tryz.isAgg420
  z127:=Tryz.sizeOf420
  v127:=Tryz.zeroValue420
  t164:=Tryz.underlying425
  a164:=Tryz.isAgg425
  z164:=Tryz.sizeOf425
  v164:=Tryz.zeroValue425 }
theorem Tryz.Builder_Extra_156:Builder.Extra Tryz.prog Tryz.lays156_ren:={
  sizeBuilder:=by kernel_rfl
  liesBuilder:=by kernel_rfl
  t5:=Tryz.underlying5
  a5:=Tryz.isAgg5
  z5:=Tryz.sizeOf5
  v5:=Tryz.zeroValue5
  infoByte:=by kernel_rfl
  cellsByte:=by kernel_rfl
  sizeByte:=by kernel_rfl
  neB5:=by decide }
open Go.RowKit in
theorem Tryz.strings_Join (bk o c:Nat) (xs:List ByteArray) (sep:ByteArray) (w:World) (d:∀ (j:Nat) x,xs[j]? = some x->w.cell? ⟨bk,o+j,none⟩=some (.string x)) (u:bk<w.heap.size) (v:xs.length<=140737488355328) (h:xs.length<=c) (k:(Lib.join (xs.map (·.data.toList)) sep.data.toList).length<=140737488355328) :
    Calls Tryz.prog 369 #[.slice (some ⟨bk,o,none⟩) xs.length c,.string sep] w λe w'=>e=.returned (.string ⟨(Lib.join (xs.map (·.data.toList)) sep.data.toList).toArray⟩)/\Below w.heap.size w w':=Any.strings_Join Tryz.lays156 Tryz.Builder_Extra_156 bk o c xs sep w d u v h k
def Tryz.lays122_ren:Go.Shelf.Ren:=⟨fun|122=>125|215=>206|n=>n,fun|3=>3|4=>4|n=>n,fun|n=>n⟩
theorem Tryz.lays122:Go.Proofs.Lays.n122 Tryz.prog Tryz.lays122_ren:={
  mixed:=by kernel_rfl
  f122:=Tryz.func125.trans (yag_ some zam_)
  f215:=Tryz.func206.trans (yag_ some zam_)
  t3:=Tryz.underlying3
  a3:=Tryz.isAgg3
  z3:=Tryz.sizeOf3
  v3:=Tryz.zeroValue3
  t4:=Tryz.underlying4
  a4:=Tryz.isAgg4
  z4:=Tryz.sizeOf4
  v4:=Tryz.zeroValue4 }
open Go.RowKit in
theorem Tryz.cmp_Compare_int (x y:Int) (w:World) :
    Calls Tryz.prog 125 #[.int .i64 x,.int .i64 y] w λe w'=>e=.returned (.int .i64 (Lib.compareInt x y))/\w'=w:=Any.cmp_Compare_int Tryz.lays122 x y w
def Tryz.laysM171_ren:Go.Shelf.Ren:=⟨fun|171=>381|243=>394|246=>402|283=>406|284=>407|285=>408|286=>409|129=>268|317=>410|318=>411|319=>412|320=>413|337=>414|338=>415|n=>n,fun|3=>3|9=>9|2=>2|4=>4|171=>428|0=>0|53=>308|37=>355|5=>5|173=>430|212=>437|51=>306|20=>20|213=>438|46=>231|232=>439|233=>440|n=>n,fun|17=>6|18=>7|19=>8|n=>n⟩
theorem Tryz.laysM171:Go.Proofs.LaysM.n171 Tryz.prog Tryz.laysM171_ren:={
  mixed:=by kernel_rfl
  f129:=Tryz.func268.trans (yag_ some zam_)
  f171:=Tryz.func381.trans (yag_ some zam_)
  f243:=Tryz.func394.trans (yag_ some zam_)
  f246:=Tryz.func402.trans (yag_ some zam_)
  f283:=Tryz.func406.trans (yag_ some zam_)
  f284:=Tryz.func407.trans (yag_ some zam_)
  f285:=Tryz.func408.trans (yag_ some zam_)
  f286:=Tryz.func409.trans (yag_ some zam_)
  f317:=Tryz.func410.trans (yag_ some zam_)
  f318:=Tryz.func411.trans (yag_ some zam_)
  f319:=Tryz.func412.trans (yag_ some zam_)
  f320:=Tryz.func413.trans (yag_ some zam_)
  f337:=Tryz.func414.trans (yag_ some zam_)
  f338:=Tryz.func415.trans (yag_ some zam_)
  t0:=Tryz.underlying0
  a0:=Tryz.isAgg0
  z0:=Tryz.sizeOf0
  v0:=Tryz.zeroValue0
  t2:=Tryz.underlying2
  a2:=Tryz.isAgg2
  z2:=Tryz.sizeOf2
  v2:=Tryz.zeroValue2
  t3:=Tryz.underlying3
  a3:=Tryz.isAgg3
  z3:=Tryz.sizeOf3
  v3:=Tryz.zeroValue3
  t4:=Tryz.underlying4
  a4:=Tryz.isAgg4
  z4:=Tryz.sizeOf4
  v4:=Tryz.zeroValue4
  t5:=Tryz.underlying5
  a5:=Tryz.isAgg5
  z5:=Tryz.sizeOf5
  v5:=Tryz.zeroValue5
  t9:=Tryz.underlying9
  a9:=Tryz.isAgg9
  z9:=Tryz.sizeOf9
  v9:=Tryz.zeroValue9
  t20:=Tryz.underlying20
  a20:=Tryz.isAgg20
  z20:=Tryz.sizeOf20
  v20:=Tryz.zeroValue20
  t37:=Tryz.underlying355
  a37:=Tryz.isAgg355
  z37:=Tryz.sizeOf355
  v37:=Tryz.zeroValue355
  t46:=Tryz.underlying231
  a46:=Tryz.isAgg231
  z46:=Tryz.sizeOf231
  v46:=Tryz.zeroValue231
  t51:=Tryz.underlying306
  a51:=Tryz.isAgg306
  z51:=Tryz.sizeOf306
  v51:=Tryz.zeroValue306
  t53:=Tryz.underlying308
  a53:=Tryz.isAgg308
  z53:=Tryz.sizeOf308
  v53:=Tryz.zeroValue308
  t171:=Tryz.underlying428
  a171:=Tryz.isAgg428
  z171:=Tryz.sizeOf428
  v171:=Tryz.zeroValue428
  t173:=Tryz.underlying430
  a173:=Tryz.isAgg430
  z173:=Tryz.sizeOf430
  v173:=Tryz.zeroValue430
  t212:=Tryz.underlying437
  a212:=Tryz.isAgg437
  z212:=Tryz.sizeOf437
  v212:=Tryz.zeroValue437
  t213:=Tryz.underlying438
  a213:=Tryz.isAgg438
  z213:=Tryz.sizeOf438
  t232:=Tryz.underlying439
  a232:=Tryz.isAgg439
  z232:=Tryz.sizeOf439
  v232:=Tryz.zeroValue439
  t233:=Tryz.underlying440
  a233:=Tryz.isAgg440
  z233:=Tryz.sizeOf440
  v233:=Tryz.zeroValue440
  g17:=by kernel_rfl
  g18:=by kernel_rfl
  g19:=by kernel_rfl
  i0:=by kernel_rfl
  i2:=by kernel_rfl
  i3:=by kernel_rfl
  i4:=by kernel_rfl
  i5:=by kernel_rfl
  i9:=by kernel_rfl
  i20:=by kernel_rfl
  i37:=by kernel_rfl
  i46:=by kernel_rfl
  i51:=by kernel_rfl
  i53:=by kernel_rfl
  i171:=by kernel_rfl
  i173:=by kernel_rfl
  i212:=by kernel_rfl
  i232:=by kernel_rfl
  i233:=by kernel_rfl
  m17:=by kernel_rfl
  m18:=by kernel_rfl
  m19:=by kernel_rfl }
open Go.RowKit Go.Sort Go.Lib in
theorem Tryz.strconv_Itoa (n : Int) (o : -9223372036854775808<=n) (h : n<=9223372036854775807) (w : World) (d : Lib.TabIs Tryz.prog w "internal/strconv.uint64pow10" .u64 Lib.pow10Tab) :
    Calls Tryz.prog 381 #[.int .i64 n] w λe w'=>e=.returned (.string ⟨(Lib.itoa n).toArray⟩)/\∃ k os,w'=grow (w.drewN k) os:=Any.strconv_Itoa Tryz.laysM171 n o h w d
def Tryz.lays219_ren:Go.Shelf.Ren:=⟨fun|219=>365|217=>382|225=>383|224=>384|267=>385|266=>395|314=>396|n=>n,fun|9=>9|3=>3|4=>4|5=>5|46=>231|146=>418|51=>306|n=>n,fun|1=>2|n=>n⟩
theorem Tryz.lays219:Go.Proofs.Lays.n219 Tryz.prog Tryz.lays219_ren:={
  mixed:=by kernel_rfl
  f217:=Tryz.func382.trans (yag_ some zam_)
  f219:=Tryz.func365.trans (yag_ some zam_)
  f224:=Tryz.func384.trans (yag_ some zam_)
  f225:=Tryz.func383.trans (yag_ some zam_)
  f266:=Tryz.func395.trans (yag_ some zam_)
  f267:=Tryz.func385.trans (yag_ some zam_)
  f314:=Tryz.func396.trans (yag_ some zam_)
  t3:=Tryz.underlying3
  a3:=Tryz.isAgg3
  z3:=Tryz.sizeOf3
  v3:=Tryz.zeroValue3
  t4:=Tryz.underlying4
  a4:=Tryz.isAgg4
  z4:=Tryz.sizeOf4
  v4:=Tryz.zeroValue4
  t5:=Tryz.underlying5
  a5:=Tryz.isAgg5
  z5:=Tryz.sizeOf5
  v5:=Tryz.zeroValue5
  t9:=Tryz.underlying9
  a9:=Tryz.isAgg9
  z9:=Tryz.sizeOf9
  v9:=Tryz.zeroValue9
  t46:=Tryz.underlying231
  a46:=Tryz.isAgg231
  z46:=Tryz.sizeOf231
  v46:=Tryz.zeroValue231
  t51:=Tryz.underlying306
  a51:=Tryz.isAgg306
  z51:=Tryz.sizeOf306
  v51:=Tryz.zeroValue306
  t146:=Tryz.underlying418
  a146:=Tryz.isAgg418
  z146:=Tryz.sizeOf418
  v146:=Tryz.zeroValue418
  g1:=by kernel_rfl }
open Go.RowKit Go.Lib in
theorem Tryz.stringslite_Index_one (s:ByteArray) (c:UInt8) (w:World) :
    Calls Tryz.prog 365 #[.string s,.string ⟨#[c]⟩] w λe w'=>e=.returned (.int .i64 (Lib.indexByte s.data.toList c))/\w'=w:=Any.stringslite_Index_one Tryz.lays219 s c w
open Go.RowKit Go.Lib in
def Tryz.lays190_ren:Go.Shelf.Ren:=⟨fun|190=>94|125=>181|258=>180|128=>267|129=>268|302=>258|303=>259|304=>260|305=>261|306=>262|307=>263|308=>264|309=>265|310=>266|333=>308|329=>309|330=>310|334=>311|335=>312|336=>282|344=>364|n=>n,fun|31=>25|9=>9|3=>3|46=>231|0=>0|51=>306|53=>308|4=>4|183=>300|182=>299|131=>249|5=>5|218=>349|222=>237|228=>388|229=>389|n=>n,fun|n=>n⟩
theorem Tryz.lays190:Go.Proofs.Lays.n190 Tryz.prog Tryz.lays190_ren:={
  mixed:=by kernel_rfl
  f125:=Tryz.func181.trans (yag_ some zam_)
  f128:=Tryz.func267.trans (yag_ some zam_)
  f129:=Tryz.func268.trans (yag_ some zam_)
  f190:=Tryz.func94.trans (yag_ some zam_)
  f258:=Tryz.func180.trans (yag_ some zam_)
  f302:=Tryz.func258.trans (yag_ some zam_)
  f303:=Tryz.func259.trans (yag_ some zam_)
  f304:=Tryz.func260.trans (yag_ some zam_)
  f305:=Tryz.func261.trans (yag_ some zam_)
  f306:=Tryz.func262.trans (yag_ some zam_)
  f307:=Tryz.func263.trans (yag_ some zam_)
  f308:=Tryz.func264.trans (yag_ some zam_)
  f309:=Tryz.func265.trans (yag_ some zam_)
  f310:=Tryz.func266.trans (yag_ some zam_)
  f329:=Tryz.func309.trans (yag_ some zam_)
  f330:=Tryz.func310.trans (yag_ some zam_)
  f333:=Tryz.func308.trans (yag_ some zam_)
  f334:=Tryz.func311.trans (yag_ some zam_)
  f335:=Tryz.func312.trans (yag_ some zam_)
  f336:=Tryz.func282.trans (yag_ some zam_)
  f344:=Tryz.func364.trans (yag_ some zam_)
  t0:=Tryz.underlying0
  a0:=Tryz.isAgg0
  z0:=Tryz.sizeOf0
  v0:=Tryz.zeroValue0
  t3:=Tryz.underlying3
  a3:=Tryz.isAgg3
  z3:=Tryz.sizeOf3
  v3:=Tryz.zeroValue3
  t4:=Tryz.underlying4
  a4:=Tryz.isAgg4
  z4:=Tryz.sizeOf4
  v4:=Tryz.zeroValue4
  t5:=Tryz.underlying5
  a5:=Tryz.isAgg5
  z5:=Tryz.sizeOf5
  v5:=Tryz.zeroValue5
  t9:=Tryz.underlying9
  a9:=Tryz.isAgg9
  z9:=Tryz.sizeOf9
  v9:=Tryz.zeroValue9
  t31:=Tryz.underlying25
  a31:=Tryz.isAgg25
  z31:=Tryz.sizeOf25
  v31:=Tryz.zeroValue25
  t46:=Tryz.underlying231
  a46:=Tryz.isAgg231
  z46:=Tryz.sizeOf231
  v46:=Tryz.zeroValue231
  t51:=Tryz.underlying306
  a51:=Tryz.isAgg306
  z51:=Tryz.sizeOf306
  v51:=Tryz.zeroValue306
  t53:=Tryz.underlying308
  a53:=Tryz.isAgg308
  z53:=Tryz.sizeOf308
  v53:=Tryz.zeroValue308
  t131:=Tryz.underlying249
  a131:=Tryz.isAgg249
  z131:=Tryz.sizeOf249
  v131:=Tryz.zeroValue249
  t182:=Tryz.underlying299
  a182:=Tryz.isAgg299
  z182:=Tryz.sizeOf299
  v182:=Tryz.zeroValue299
  t183:=Tryz.underlying300
  a183:=Tryz.isAgg300
  z183:=Tryz.sizeOf300
  v183:=Tryz.zeroValue300
  t218:=Tryz.underlying349
  a218:=Tryz.isAgg349
  z218:=Tryz.sizeOf349
  v218:=Tryz.zeroValue349
  t222:=Tryz.underlying237
  a222:=Tryz.isAgg237
  z222:=Tryz.sizeOf237
  v222:=Tryz.zeroValue237
  t228:=Tryz.underlying388
  a228:=Tryz.isAgg388
  z228:=Tryz.sizeOf388
  v228:=Tryz.zeroValue388
  t229:=Tryz.underlying389
  a229:=Tryz.isAgg389
  z229:=Tryz.sizeOf389
  v229:=Tryz.zeroValue389 }
open Go.Sort Go.RowKit in
theorem Tryz.slices_Sort_string (d off cap:Nat) (ss:List (List UInt8)) (w:World) (o:Holds encStr w d off ss.toArray) (h:d<w.heap.size) (k:ss.length<4611686018427387904) :
    Calls Tryz.prog 94 #[.slice (some ⟨d,off,none⟩) ss.length cap] w λe w' =>
      e=.returned (.tuple #[])/\∃ n os,w'=grow (putRow encStr (Sort.ahead w n) d off (ss.mergeSort λx y=>decide (x<=y)).toArray) os:=Any.slices_Sort_string Tryz.lays190 d off cap ss w o h k
def Tryz.lays194_ren:Go.Shelf.Ren:=⟨fun|194=>95|n=>n,fun|31=>25|9=>9|3=>3|4=>4|0=>0|n=>n,fun|n=>n⟩
theorem Tryz.lays194:Go.Proofs.Lays.n194 Tryz.prog Tryz.lays194_ren:={
  mixed:=by kernel_rfl
  f194:=Tryz.func95.trans (yag_ some zam_)
  t0:=Tryz.underlying0
  a0:=Tryz.isAgg0
  z0:=Tryz.sizeOf0
  v0:=Tryz.zeroValue0
  t3:=Tryz.underlying3
  a3:=Tryz.isAgg3
  z3:=Tryz.sizeOf3
  v3:=Tryz.zeroValue3
  t4:=Tryz.underlying4
  a4:=Tryz.isAgg4
  z4:=Tryz.sizeOf4
  v4:=Tryz.zeroValue4
  t9:=Tryz.underlying9
  a9:=Tryz.isAgg9
  z9:=Tryz.sizeOf9
  v9:=Tryz.zeroValue9
  t31:=Tryz.underlying25
  a31:=Tryz.isAgg25
  z31:=Tryz.sizeOf25
  v31:=Tryz.zeroValue25 }
open Go.RowKit Go.Lib Go.Sort in
theorem Tryz.slices_Compact_string (d off cap:Nat) (h:List (List UInt8)) (w:World) (u:Holds encStr w d off h.toArray) (o:h.length<=9223372036854775807) (k:h.length<=cap) :
    Calls Tryz.prog 95 #[.slice (some ⟨d,off,none⟩) h.length cap] w λe w'=>e=.returned (.slice (some ⟨d,off,none⟩) (Lib.compact h).length cap)/\∃ q,w'=putRow encStr (Sort.ahead w q) d off (Lib.compact h++List.replicate (h.length - (Lib.compact h).length) []).toArray:=Any.slices_Compact_string Tryz.lays194 d off cap h w u o k
open Go.RowKit Go.Lib Go.Sort in
theorem Tryz.slices_Compact_string_empty (a:Ao) (cap:Nat) (w:World) :
    Calls Tryz.prog 95 #[.slice a 0 cap] w λe w'=>e=.returned (.slice a 0 cap)/\w'=w:=Any.slices_Compact_string_empty Tryz.lays194 a cap w
open Go.RowKit Go.Sort in
theorem Tryz.slices_Sort_string_none (p:Ao) (cap:Nat) (w:World) :
    Calls Tryz.prog 94 #[.slice p 0 cap] w λe w'=>e=.returned (.tuple #[])/\w'=w:=Any.slices_Sort_string_none Tryz.lays190 p cap w
end Go.Proofs
namespace Go.Proofs
open Go.Shelf
def Tryz.lays106_ren:Go.Shelf.Ren:=⟨fun|106=>128|213=>209|265=>283|n=>n,fun|9=>9|3=>3|n=>n,fun|n=>n⟩
theorem Tryz.lays106:Go.Proofs.Lays.n106 Tryz.prog Tryz.lays106_ren:={
  mixed:=by kernel_rfl
  f106:=Tryz.func128.trans (yag_ some zam_)
  f213:=Tryz.func209.trans (yag_ some zam_)
  f265:=Tryz.func283.trans (yag_ some zam_)
  t3:=Tryz.underlying3
  a3:=Tryz.isAgg3
  z3:=Tryz.sizeOf3
  v3:=Tryz.zeroValue3
  t9:=Tryz.underlying9
  a9:=Tryz.isAgg9
  z9:=Tryz.sizeOf9
  v9:=Tryz.zeroValue9 }
open Go.RowKit in
theorem Tryz.strings_Compare (a b:ByteArray) (w:World) :
    Calls Tryz.prog 128 #[.string a,.string b] w λe w'=>e=.returned (.int .i64 (Lib.compareBytes a.data.toList b.data.toList))/\w'=w:=Any.strings_Compare Tryz.lays106 a b w
end Go.Proofs
namespace Go.Sx
open Go
structure Cn (n:Nat) (G:Prop):Prop where
  go:G
structure Kw (A:Prop):Prop where
  go:A
theorem cn {n:Nat} {G G1:Prop} (k:G1->G) (h:Cn n G1):Cn (n+1) G:=⟨k h.go⟩
theorem cn0 {G:Prop} (h:G):Cn 0 G:=⟨h⟩
def noG (x:Value) (want:Bool):Bool:=match x with|.bool b=>Bool.xor b want|_=>true
section
variable {P:Program} {N:Nf} {v0:Vw} {H0:Hp} {R:Exit->Act->World->Prop} {K:List Kt} {fr:Fr} {H:Hp} {Γ:List Fct} {ops:Array Oper} {l:List Oper} {d:Nat} {ty:TypeId} {ps:String} {af:Array Edge} {Hs:Hp} {Γs:List Fct} {fuel:Nat} {listed:Array Bool}
theorem ww_ {op:Op} {j t:Nat} {want:Bool} {x:Value} (hj:hR_ ops j=some t) (hx:Fr.get fr t=some x) (hne:noG x want=true) (hN:Nat.blt d N.n=true)
    (h:Ops P R N v0 H0 ops l K ((d,undef)::fr) H Γ):Ops P R N v0 H0 ops (⟨some d,op,ty,ps,af,some (j,want)⟩::l) K fr H Γ:=gR_ hj hx (by cases x<;>first|rfl|exact hne) hN h
theorem sq_noG [NoPan R] {i:Nat} {is:List Nat} {op:Op} {x:Value} {j t:Nat} {want:Bool} (hi:ops[i]? = some ⟨some d,op,ty,ps,af,some (j,want)⟩) (hj:hR_ ops j=some t) (hx:Fr.get fr t=some x) (hne:noG x want=true) (hN:Nat.blt d N.n=true)
    (h:Sq P R N v0 H0 ops Hs Γs is fuel (listed.setIfInBounds i true) K ((d,undef)::fr) H Γ):Sq P R N v0 H0 ops Hs Γs (i::is) fuel listed K fr H Γ:=sq_no hi hj hx (by cases x<;>first|rfl|exact hne) hN h
end
end Go.Sx

namespace Go.Proofs.YtbffkokbdeppaaaGreatDoor
open Go Go.Sx Tryz
theorem zdf {p:Prop} [Decidable p] (h:decide p=false):¬p:=ycz_ h
theorem zdt {p:Prop} [Decidable p] (h:decide p=true):p:=ybB_ h
theorem znb {α:Type} [BEq α] [LawfulBEq α] {a b:α} (h:(a==b)=false):a≠b:=by simpa using h
theorem zeb {α:Type} [BEq α] [LawfulBEq α] {a b:α} (h:(a==b)=true):a=b:=eq_of_beq h
theorem zbe {α:Type} [BEq α] [LawfulBEq α] {a b:α} (h:(a != b)=false):a=b:=by simpa using h
theorem zk {G:Prop} (h:G:=by kernel_rfl):G:=h
theorem zh {P Q:Vw->Prop}:∀ v,P v->Q v->Q v:=λ_ _ h=>h
theorem zt {P Q:Vw->Prop}:∀ v,P v->Q v->aC_ [] v:=λ_ _ _=>trivial
section
variable {H r r' d O:Hp} {b c:Nat×Obj}
theorem zpn (h:H.Perm r):([]++H).Perm r:=h
end
abbrev zR {α:Type} (e k:Nat) (f:α->List Value) (sv:Value) (X:List α) (H:Hp):Prop:=av_ e k sv X.length (X.flatMap f) H
theorem zsw {α β:Type} {e k:Nat} {f:β->List Value} {sv:Value} {A:List β} {H:Hp} (g:α->List β) (p:List α) (h:av_ e k sv A.length (A.flatMap f) H):zR e k f sv (A++List.flatMap g (p.take 0)) H:=by
  unfold zR;simpa only[ybI_,List.flatMap_nil,yas_] using h
theorem zsa {β:Type} {e k m:Nat} {f:β->List Value} {sv:Value} {A B:List β} {H:Hp} (h:av_ e k sv (A.length+m) (A.flatMap f++B.flatMap f) H) (hm:B.length=m:=by first|rfl|simp):zR e k f sv (A++B) H:=by
  subst hm;unfold zR;rw[yae_,yan_];exact h
theorem zge {α:Type} {l:List α} {i:Nat} (h:i<l.length):i<l.length/\∃ x,l[i]? = some x/\x∈l:=⟨h,_,yaa_ h,ydb_ h⟩
theorem cA_ {α:Type} {f:α->List Value} {v:Vw} {ad:Ao} {l:List α} {i:Nat} {x:α} (h:bW_ v ad (l.flatMap f)) (hx:l[i]? = some x) (hf:∀ x,(f x).length≠0):∃ b off,ad=some ⟨b,off,none⟩ :=
  h.addr λe=>by
    rw[List.flatMap_eq_nil_iff]at e;exact hf x (by rw[e x (yad_ hx)];rfl)
theorem zbn {α:Type} [BEq α] [LawfulBEq α] {a b:α} (h:(a != b)=true):a≠b:=by simpa using h
theorem zp {G:Prop} (h:G:=by (repeat (first|(with_reducible first|exact e_|exact f_|exact ag_|exact ah_|exact bS_|exact an_)|exact f_|(with_reducible first|apply zpn|(apply E_;rotate_left;(fail_if_success (with_reducible apply e_));rotate_right)|apply bP_|apply g_|apply ae_)|exact ag_|exact an_))):G:=h
theorem zf {G:Prop} (h:G:=by intro v_ a_ b_;repeat (first|exact trivial|(with_reducible first|exact b_.1|exact b_.2.1|exact b_.2.2.1|exact b_.2.2.2.1|exact b_.2.2.2.2.1|exact b_.2.2.2.2.2.1|exact b_.2.2.2.2.2.2.1|exact b_.2.2.2.2.2.2.2.1|exact b_.2.2.2.2.2.2.2.2.1|exact b_.2.2.2.2.2.2.2.2.2.1|exact b_.2.2.2.2.2.2.2.2.2.2.1|exact b_.2.2.2.2.2.2.2.2.2.2.2.1|exact b_|exact b_.2|exact b_.2.2|exact b_.2.2.2|exact b_.2.2.2.2|exact b_.2.2.2.2.2|exact b_.2.2.2.2.2.2|exact b_.2.2.2.2.2.2.2|exact b_.2.2.2.2.2.2.2.2|exact b_.2.2.2.2.2.2.2.2.2|exact b_.2.2.2.2.2.2.2.2.2.2|exact b_.2.2.2.2.2.2.2.2.2.2.2)|(first|exact b_.1|exact b_.2.1|exact b_.2.2.1|exact b_.2.2.2.1|exact b_.2.2.2.2.1|exact b_.2.2.2.2.2.1|exact b_.2.2.2.2.2.2.1|exact b_.2.2.2.2.2.2.2.1|exact b_.2.2.2.2.2.2.2.2.1|exact b_.2.2.2.2.2.2.2.2.2.1|exact b_.2.2.2.2.2.2.2.2.2.2.1|exact b_.2.2.2.2.2.2.2.2.2.2.2.1|exact b_|exact b_.2|exact b_.2.2|exact b_.2.2.2|exact b_.2.2.2.2|exact b_.2.2.2.2.2|exact b_.2.2.2.2.2.2|exact b_.2.2.2.2.2.2.2|exact b_.2.2.2.2.2.2.2.2|exact b_.2.2.2.2.2.2.2.2.2|exact b_.2.2.2.2.2.2.2.2.2.2|exact b_.2.2.2.2.2.2.2.2.2.2.2)|refine⟨?_,?_⟩)):G:=h
theorem zs {G:Prop} (h:G:=by intro v_ a_ b_;refine⟨?_,?_⟩;(first|exact a_|exact satNil a_|exact a_.tail|exact a_.tail.tail|exact a_.tail.tail.tail|exact a_.tail.tail.tail.tail|((apply Vw.sat.sub;apply a_.perm);(repeat (first|(with_reducible first|exact e_|exact f_|exact ag_|exact ah_|exact bS_|exact an_)|exact f_|(with_reducible first|apply zpn|(apply E_;rotate_left;(fail_if_success (with_reducible apply e_));rotate_right)|apply bP_|apply g_|apply ae_)|exact ag_|exact an_))));(first|exact b_|exact b_.2|exact b_.2.2|exact b_.2.2.2|exact b_.2.2.2.2|exact b_.2.2.2.2.2|exact b_.2.2.2.2.2.2|exact b_.2.2.2.2.2.2.2|exact b_.2.2.2.2.2.2.2.2|exact b_.2.2.2.2.2.2.2.2.2|exact b_.2.2.2.2.2.2.2.2.2.2|exact b_.2.2.2.2.2.2.2.2.2.2.2)):G:=h
theorem zl {G:Prop} (h:G:=by repeat (first|exact trivial|refine⟨rfl,?_⟩)):G:=h
def lkN {α:Type}:List (Nat×α)->Nat->Option α
  | [],_=>none
  | (k,v)::l,n=>bif Nat.beq k n then some v else lkN l n
theorem sg_ {α:Type} {n:Nat} {v:α}:∀ {l:List (Nat×α)},lkN l n=some v->(n,v)∈l
  | (k,u)::l,h=>by
    simp only[lkN]at h;cases hb:Nat.beq k n with
    | true=>rw[hb,cond_true]at h;cases h;rw[ybL_ hb];exact yaq_
    | false=>rw[hb,cond_false]at h;exact yaN_ _ (sg_ h)
def zAt:List (Nat×Bool):=[(9,false),(28,true),(3,false),(25,false),(30,true),(26,false),(22,false),(24,true),(4,false),(69,false),(127,true),(80,true),(171,true),(281,true),(186,false),(279,false),(347,true),(282,false),(290,true),(83,true),(140,false),(219,false),(169,false),(132,false),(220,false),(184,true),(182,false),(90,true),(344,false),(151,false),(99,true),(248,false)]
theorem zA {t:TypeId} {b:Bool} (h:lkN zAt t=some b):∀ w,(isAgg t).run prog w=.ok b w:=by
  have h:=sg_ h;simp only[zAt,yar_,ycl_,yav_,ybg_]at h;rcases h with⟨rfl,rfl⟩|⟨rfl,rfl⟩|⟨rfl,rfl⟩|⟨rfl,rfl⟩|⟨rfl,rfl⟩|⟨rfl,rfl⟩|⟨rfl,rfl⟩|⟨rfl,rfl⟩|⟨rfl,rfl⟩|⟨rfl,rfl⟩|⟨rfl,rfl⟩|⟨rfl,rfl⟩|⟨rfl,rfl⟩|⟨rfl,rfl⟩|⟨rfl,rfl⟩|⟨rfl,rfl⟩|⟨rfl,rfl⟩|⟨rfl,rfl⟩|⟨rfl,rfl⟩|⟨rfl,rfl⟩|⟨rfl,rfl⟩|⟨rfl,rfl⟩|⟨rfl,rfl⟩|⟨rfl,rfl⟩|⟨rfl,rfl⟩|⟨rfl,rfl⟩|⟨rfl,rfl⟩|⟨rfl,rfl⟩|⟨rfl,rfl⟩|⟨rfl,rfl⟩|⟨rfl,rfl⟩|⟨rfl,rfl⟩
  . exact aJ_
  . exact H_
  . exact aU_
  . exact fS_
  . exact bg_
  . exact ew_
  . exact ox_
  . exact ca_
  . exact cG_
  . exact isAgg69
  . exact hO_
  . exact isAgg80
  . exact hN_
  . exact isAgg281
  . exact isAgg186
  . exact isAgg279
  . exact isAgg347
  . exact isAgg282
  . exact isAgg290
  . exact isAgg83
  . exact isAgg140
  . exact isAgg219
  . exact isAgg169
  . exact lp_
  . exact isAgg220
  . exact isAgg184
  . exact isAgg182
  . exact isAgg90
  . exact isAgg344
  . exact isAgg151
  . exact isAgg99
  . exact isAgg248
def zSt:List (Nat×Nat):=[(28,5),(9,1),(3,1),(25,1),(30,16),(26,1),(4,1),(22,1),(80,10),(24,1),(343,3),(127,3),(69,1),(171,7),(281,2),(347,2),(290,2),(169,1),(83,4),(140,1),(182,1),(184,2),(90,7),(344,1),(99,16),(248,1)]
theorem zS {t:TypeId} {b:Nat} (h:lkN zSt t=some b):∀ w,(sizeOf t).run prog w=.ok b w:=by
  have h:=sg_ h;simp only[zSt,yar_,ycl_,yav_,ybg_]at h;rcases h with⟨rfl,rfl⟩|⟨rfl,rfl⟩|⟨rfl,rfl⟩|⟨rfl,rfl⟩|⟨rfl,rfl⟩|⟨rfl,rfl⟩|⟨rfl,rfl⟩|⟨rfl,rfl⟩|⟨rfl,rfl⟩|⟨rfl,rfl⟩|⟨rfl,rfl⟩|⟨rfl,rfl⟩|⟨rfl,rfl⟩|⟨rfl,rfl⟩|⟨rfl,rfl⟩|⟨rfl,rfl⟩|⟨rfl,rfl⟩|⟨rfl,rfl⟩|⟨rfl,rfl⟩|⟨rfl,rfl⟩|⟨rfl,rfl⟩|⟨rfl,rfl⟩|⟨rfl,rfl⟩|⟨rfl,rfl⟩|⟨rfl,rfl⟩|⟨rfl,rfl⟩
  . exact i_
  . exact B_
  . exact af_
  . exact bo_
  . exact D_
  . exact dk_
  . exact bD_
  . exact lo_
  . exact ab_
  . exact ap_
  . exact ci_
  . exact ck_
  . exact aN_
  . exact bf_
  . exact bt_
  . exact sizeOf347
  . exact cj_
  . exact sizeOf169
  . exact eb_
  . exact sizeOf140
  . exact sizeOf182
  . exact sizeOf184
  . exact fh_
  . exact sizeOf344
  . exact sizeOf99
  . exact sizeOf248
theorem zUe {P:Program} {t t1:TypeId} {q q1} (h:∀ w,(underlying t1).run P w=.ok q1 w) (e:t=t1) (e1:q1=q):∀ w,(underlying t).run P w=.ok q w:=by subst e e1;exact h
theorem zu {G:Prop} (h:G:=by first|exact zUe bC_ rfl rfl|exact zUe ao_ rfl rfl|exact zUe m_ rfl rfl|exact zUe z_ rfl rfl|exact zUe aw_ rfl rfl|exact zUe runUnderlying80 rfl rfl|exact zUe lV_ rfl rfl|exact zUe runUnderlying127 rfl rfl|exact zUe u_ rfl rfl|exact zUe bi_ rfl rfl|exact zUe bp_ rfl rfl|exact zUe runUnderlying171 rfl rfl|exact zUe runUnderlying83 rfl rfl|exact zUe aE_ rfl rfl|exact zUe runUnderlying290 rfl rfl|exact zUe runUnderlying90 rfl rfl|exact zUe runUnderlying142 rfl rfl|exact zUe bq_ rfl rfl|exact zUe runUnderlying184 rfl rfl|exact zUe runUnderlying314 rfl rfl|exact zUe runUnderlying252 rfl rfl|exact zUe aj_ rfl rfl|exact zUe runUnderlying256 rfl rfl|exact zUe aH_ rfl rfl|exact zUe cI_ rfl rfl|exact zUe runUnderlying99 rfl rfl|exact zUe xB_ rfl rfl|exact zUe runUnderlying347 rfl rfl|exact zUe runUnderlying182 rfl rfl|exact zUe runUnderlying248 rfl rfl):G:=h
theorem zv {G:Prop} (h:G:=by intro v _ h;first|exact h.1|exact h.2.1|exact h.2.2.1|exact h.2.2.2.1|exact h.2.2.2.2.1|exact h.2.2.2.2.2.1|exact h.2.2.2.2.2.2.1|exact h.2.2.2.2.2.2.2.1|exact h.2.2.2.2.2.2.2.2.1|exact h.2.2.2.2.2.2.2.2.2.1|exact h.2.2.2.2.2.2.2.2.2.2.1|exact h.2.2.2.2.2.2.2.2.2.2.2.1|exact h.1.1|exact h.2.1.1|exact h.2.2.1.1|exact h.2.2.2.1.1|exact h.2.2.2.2.1.1|exact h.2.2.2.2.2.1.1|exact h.2.2.2.2.2.2.1.1|exact h.1.2.2|exact h.2.1.2.2|exact h.2.2.1.2.2|exact h.2.2.2.1.2.2|exact h.2.2.2.2.1.2.2|exact h.2.2.2.2.2.1.2.2|exact h.2.2.2.2.2.2.1.2.2|exact h.2|exact h.2.2|exact h.2.2.2):G:=h
theorem zy {G:Prop} (h:G:=by first|((with_reducible apply P_);exact rfl)|((with_reducible apply X_);exact rfl)|((with_reducible apply bF_);rotate_left;exact rfl;rotate_right;exact zu;exact rfl;exact rfl;exact zS rfl)|((with_reducible apply bl_);exact zu;exact rfl;exact rfl;exact rfl;exact zS rfl)|((with_reducible apply (aK_ 0));rotate_left;exact rfl;exact rfl;exact rfl;exact zA rfl)|((with_reducible apply (aK_ 1));rotate_left;exact rfl;exact rfl;exact rfl;exact zA rfl)|((with_reducible apply (aK_ 2));rotate_left;exact rfl;exact rfl;exact rfl;exact zA rfl)|((with_reducible apply (aK_ 3));rotate_left;exact rfl;exact rfl;exact rfl;exact zA rfl)|((with_reducible apply cO_);exact rfl;exact rfl)|((with_reducible apply dY_);exact rfl;exact rfl)|((with_reducible apply aT_);exact rfl;exact rfl;exact rfl;exact bB_ (by omega) (by omega))|((with_reducible apply qt_);exact rfl)|((with_reducible apply cf_);exact rfl;exact rfl)|((with_reducible apply dS_);exact zu;exact rfl)|((with_reducible apply (cx_ 0));rotate_left;exact zS rfl;exact rfl;exact rfl;exact rfl;exact zA rfl)|((with_reducible apply (cx_ 1));rotate_left;exact zS rfl;exact rfl;exact rfl;exact rfl;exact zA rfl)|((with_reducible apply (cx_ 2));rotate_left;exact zS rfl;exact rfl;exact rfl;exact rfl;exact zA rfl)|((with_reducible apply (cx_ 3));rotate_left;exact zS rfl;exact rfl;exact rfl;exact rfl;exact zA rfl)|((with_reducible apply cT_);rotate_left;exact rfl;exact zv;exact rfl;exact zA rfl)|((with_reducible apply J_);exact zu;exact zS rfl;exact rfl;exact rfl;(intro v _ h;first|exact cA_ h.1 (by assumption) (λ_=>yaH_ _)|exact cA_ h.2.1 (by assumption) (λ_=>yaH_ _)|exact cA_ h.2.2.1 (by assumption) (λ_=>yaH_ _)|exact cA_ h.2.2.2.1 (by assumption) (λ_=>yaH_ _)|exact cA_ h.2.2.2.2.1 (by assumption) (λ_=>yaH_ _)|exact cA_ h.2.2.2.2.2.1 (by assumption) (λ_=>yaH_ _)|exact cA_ h.2.2.2.2.2.2.1 (by assumption) (λ_=>yaH_ _)|exact cA_ h.2.2.2.2.2.2.2.1 (by assumption) (λ_=>yaH_ _)|exact cA_ h.2.2.2.2.2.2.2.2.1 (by assumption) (λ_=>yaH_ _)|exact cA_ h.1.1 (by assumption) (λ_=>yaH_ _)|exact cA_ h.2.1.1 (by assumption) (λ_=>yaH_ _)|exact cA_ h.2.2.1.1 (by assumption) (λ_=>yaH_ _)|exact cA_ h.2.2.2.1.1 (by assumption) (λ_=>yaH_ _)|exact cA_ h.2.2.2.2.1.1 (by assumption) (λ_=>yaH_ _)|exact cA_ h.2.2.2.2.2.1.1 (by assumption) (λ_=>yaH_ _)|exact cA_ h.2.2.2.2.2.2.1.1 (by assumption) (λ_=>yaH_ _)|exact cA_ h.1.2.2 (by assumption) (λ_=>yaH_ _)|exact cA_ h.2.1.2.2 (by assumption) (λ_=>yaH_ _)|exact cA_ h.2.2.1.2.2 (by assumption) (λ_=>yaH_ _)|exact cA_ h.2.2.2.1.2.2 (by assumption) (λ_=>yaH_ _)|exact cA_ h.2.2.2.2.1.2.2 (by assumption) (λ_=>yaH_ _)|exact cA_ h.2.2.2.2.2.1.2.2 (by assumption) (λ_=>yaH_ _)|exact cA_ h.2.2.2.2.2.2.1.2.2 (by assumption) (λ_=>yaH_ _)|exact cA_ h.2 (by assumption) (λ_=>yaH_ _)|exact cA_ h.2.2 (by assumption) (λ_=>yaH_ _)|exact cA_ h.2.2.2 (by assumption) (λ_=>yaH_ _));omega;(first|omega|(simp;done)))|((with_reducible apply aS_);rotate_left;exact rfl;exact zv;(first|exact t_ Pc.cells_len (by assumption) 0 _ rfl|exact t_ Pc.cells_len (by assumption) _ _ rfl|exact t_ Fc.cells_len (by assumption) 0 _ rfl|exact t_ Fc.cells_len (by assumption) _ _ rfl|exact t_ Stp.cells_len (by assumption) 0 _ rfl|exact t_ Stp.cells_len (by assumption) _ _ rfl|exact t_ au_ (by assumption) 0 _ rfl|exact t_ au_ (by assumption) _ _ rfl|exact t_ er_ (by assumption) 0 _ rfl|exact t_ er_ (by assumption) _ _ rfl|exact t_ (n:=1) (by intro _;exact rfl) (by assumption) 0 _ rfl|exact t_ (n:=5) (by intro _;exact rfl) (by assumption) 0 _ rfl|exact t_ (n:=5) (by intro _;exact rfl) (by assumption) 1 _ rfl|exact t_ (n:=5) (by intro _;exact rfl) (by assumption) 2 _ rfl|exact t_ (n:=5) (by intro _;exact rfl) (by assumption) 3 _ rfl|exact t_ (n:=5) (by intro _;exact rfl) (by assumption) 4 _ rfl|exact t_ (n:=16) (by intro _;exact rfl) (by assumption) 0 _ rfl|exact t_ (n:=16) (by intro _;exact rfl) (by assumption) 1 _ rfl|exact t_ (n:=16) (by intro _;exact rfl) (by assumption) 13 _ rfl|exact t_ (n:=16) (by intro _;exact rfl) (by assumption) 14 _ rfl|exact t_ (n:=16) (by intro _;exact rfl) (by assumption) 15 _ rfl|exact t_ (n:=9) (by intro _;exact rfl) (by assumption) 0 _ rfl|exact t_ (n:=9) (by intro _;exact rfl) (by assumption) 1 _ rfl|exact t_ (n:=9) (by intro _;exact rfl) (by assumption) 2 _ rfl|exact t_ (n:=9) (by intro _;exact rfl) (by assumption) 3 _ rfl|exact t_ (n:=9) (by intro _;exact rfl) (by assumption) 4 _ rfl|exact t_ (n:=9) (by intro _;exact rfl) (by assumption) 5 _ rfl|exact t_ (n:=9) (by intro _;exact rfl) (by assumption) 6 _ rfl|exact t_ (n:=2) (by intro _;exact rfl) (by assumption) 0 _ rfl|exact t_ (n:=2) (by intro _;exact rfl) (by assumption) 1 _ rfl|exact t_ (n:=4) (by intro _;exact rfl) (by assumption) 0 _ rfl|exact t_ (n:=4) (by intro _;exact rfl) (by assumption) 1 _ rfl|exact t_ (n:=4) (by intro _;exact rfl) (by assumption) 2 _ rfl|exact t_ (n:=4) (by intro _;exact rfl) (by assumption) 3 _ rfl);exact zA rfl)|((with_reducible apply ax_);rotate_left;exact zS rfl;exact rfl;exact zv;rotate_left;(exact t_ (by intro _;exact rfl) (by assumption));exact zA rfl;(exact rfl))|((with_reducible apply (aK_ 4));rotate_left;exact rfl;exact rfl;exact rfl;exact zA rfl)|((with_reducible apply (aK_ 5));rotate_left;exact rfl;exact rfl;exact rfl;exact zA rfl)|((with_reducible apply (aK_ 6));rotate_left;exact rfl;exact rfl;exact rfl;exact zA rfl)|((with_reducible apply (aK_ 7));rotate_left;exact rfl;exact rfl;exact rfl;exact zA rfl)|((with_reducible apply (cx_ 4));rotate_left;exact zS rfl;exact rfl;exact rfl;exact rfl;exact zA rfl)|((with_reducible apply (cx_ 5));rotate_left;exact zS rfl;exact rfl;exact rfl;exact rfl;exact zA rfl)|((with_reducible apply (cx_ 6));rotate_left;exact zS rfl;exact rfl;exact rfl;exact rfl;exact zA rfl)|((with_reducible apply (cx_ 7));rotate_left;exact zS rfl;exact rfl;exact rfl;exact rfl;exact zA rfl)):G:=h
theorem Zy {A B:Prop} {n:Nat} (k:A) (h:Kw A->Cn n B:=by intro k_;repeat (first|exact cn0 k_.go|(apply cn;intro h_;((first|((with_reducible apply c_);rotate_left;exact rfl;exact h_;rotate_right)|((with_reducible apply G_);exact rfl;rotate_left;exact rfl;exact h_;rotate_right)|((with_reducible apply bL_);exact rfl;exact rfl;exact rfl;rotate_left;exact rfl;exact h_;rotate_right));(exact zy)))|(apply cn;intro h_;first|((with_reducible apply ai_);exact h_)|((with_reducible apply ac_);exact rfl;exact h_)|((with_reducible apply aq_);exact h_)|((with_reducible apply S_);exact h_)|((with_reducible apply as_);exact rfl;exact rfl;exact h_)|((with_reducible apply ww_);exact rfl;exact rfl;exact rfl;exact rfl;exact h_)|((with_reducible apply bT_);exact rfl;exact h_)|((with_reducible apply bU_);exact rfl;exact h_)|((with_reducible apply cQ_);exact h_)|((with_reducible apply bd_);exact h_)|((with_reducible apply dU_);exact h_)|((with_reducible apply bE_);exact rfl;exact h_)|((with_reducible apply sq_noG);exact rfl;exact rfl;exact rfl;exact rfl;exact rfl;exact h_)|((with_reducible apply fG_);kernel_rfl;exact h_)|((with_reducible apply cC_);exact h_)|((with_reducible apply ge_);exact rfl;exact h_)|((with_reducible apply xA_);kernel_rfl;exact h_)|((with_reducible apply sz_);exact rfl;exact h_)|((with_reducible apply y_);exact zs;exact h_)|((apply as_);exact rfl;exact rfl;exact h_)|((apply ww_);exact rfl;exact rfl;exact rfl;exact rfl;exact h_)|((apply ai_);exact h_))|(apply cn;intro h_;((apply c_);rotate_left;exact rfl;exact h_;rotate_right);(exact zy)))):Cn n B:=h ⟨k⟩
theorem Zj {p q A B C:Prop} (n:Nat) (k0:p->A) (k1:q->B) (h:Kw (p->A)->Kw (q->B)->Cn n C:=by intro k0_ k1_;refine Zy ?_;first|((with_reducible apply A_);(first|((with_reducible apply al_);exact rfl;exact rfl)|((with_reducible apply dw_);exact rfl;exact rfl)|((with_reducible apply dR_);exact rfl;exact rfl)|((with_reducible apply dx_);exact rfl;exact rfl)|((with_reducible apply cP_);exact rfl;exact rfl)|((with_reducible apply fc_);exact rfl;exact rfl)|((with_reducible apply ec_);exact rfl;exact rfl)|((with_reducible apply cY_);exact rfl;exact rfl)|((with_reducible apply gd_);exact rfl;exact rfl));exact rfl;intro r_ h_;cases r_;(first|(have q_:=zdf h_;(try dsimp only[Con.kind,Con.parts,Con.name,Con.lo,Con.hi,Con.cap,Con.ad]at q_);exact k0_.go q_)|(have q_:=znb h_;(try dsimp only[Con.kind,Con.parts,Con.name,Con.lo,Con.hi,Con.cap,Con.ad]at q_);exact k0_.go q_)|(have q_:=zbe h_;(try dsimp only[Con.kind,Con.parts,Con.name,Con.lo,Con.hi,Con.cap,Con.ad]at q_);exact k0_.go q_));(first|(have q_:=zdt h_;(try dsimp only[Con.kind,Con.parts,Con.name,Con.lo,Con.hi,Con.cap,Con.ad]at q_);exact k1_.go q_)|(have q_:=zeb h_;(try dsimp only[Con.kind,Con.parts,Con.name,Con.lo,Con.hi,Con.cap,Con.ad]at q_);exact k1_.go q_)|(have q_:=zbn h_;(try dsimp only[Con.kind,Con.parts,Con.name,Con.lo,Con.hi,Con.cap,Con.ad]at q_);exact k1_.go q_)))|((with_reducible apply kd_);exact rfl;(first|((with_reducible apply al_);exact rfl;exact rfl)|((with_reducible apply dw_);exact rfl;exact rfl)|((with_reducible apply dR_);exact rfl;exact rfl)|((with_reducible apply dx_);exact rfl;exact rfl)|((with_reducible apply cP_);exact rfl;exact rfl)|((with_reducible apply fc_);exact rfl;exact rfl)|((with_reducible apply ec_);exact rfl;exact rfl)|((with_reducible apply cY_);exact rfl;exact rfl)|((with_reducible apply gd_);exact rfl;exact rfl));exact rfl;intro r_ h_;cases r_;(first|(have q_:=zdf h_;(try dsimp only[Con.kind,Con.parts,Con.name,Con.lo,Con.hi,Con.cap,Con.ad]at q_);exact k0_.go q_)|(have q_:=znb h_;(try dsimp only[Con.kind,Con.parts,Con.name,Con.lo,Con.hi,Con.cap,Con.ad]at q_);exact k0_.go q_)|(have q_:=zbe h_;(try dsimp only[Con.kind,Con.parts,Con.name,Con.lo,Con.hi,Con.cap,Con.ad]at q_);exact k0_.go q_));(first|(have q_:=zdt h_;(try dsimp only[Con.kind,Con.parts,Con.name,Con.lo,Con.hi,Con.cap,Con.ad]at q_);exact k1_.go q_)|(have q_:=zeb h_;(try dsimp only[Con.kind,Con.parts,Con.name,Con.lo,Con.hi,Con.cap,Con.ad]at q_);exact k1_.go q_)|(have q_:=zbn h_;(try dsimp only[Con.kind,Con.parts,Con.name,Con.lo,Con.hi,Con.cap,Con.ad]at q_);exact k1_.go q_)))|((with_reducible apply eo_);exact rfl;exact rfl;exact rfl;(first|((with_reducible apply al_);exact rfl;exact rfl)|((with_reducible apply dw_);exact rfl;exact rfl)|((with_reducible apply dR_);exact rfl;exact rfl)|((with_reducible apply dx_);exact rfl;exact rfl)|((with_reducible apply cP_);exact rfl;exact rfl)|((with_reducible apply fc_);exact rfl;exact rfl)|((with_reducible apply ec_);exact rfl;exact rfl)|((with_reducible apply cY_);exact rfl;exact rfl)|((with_reducible apply gd_);exact rfl;exact rfl));exact rfl;intro r_ h_;cases r_;(first|(have q_:=zdf h_;(try dsimp only[Con.kind,Con.parts,Con.name,Con.lo,Con.hi,Con.cap,Con.ad]at q_);exact k0_.go q_)|(have q_:=znb h_;(try dsimp only[Con.kind,Con.parts,Con.name,Con.lo,Con.hi,Con.cap,Con.ad]at q_);exact k0_.go q_)|(have q_:=zbe h_;(try dsimp only[Con.kind,Con.parts,Con.name,Con.lo,Con.hi,Con.cap,Con.ad]at q_);exact k0_.go q_));(first|(have q_:=zdt h_;(try dsimp only[Con.kind,Con.parts,Con.name,Con.lo,Con.hi,Con.cap,Con.ad]at q_);exact k1_.go q_)|(have q_:=zeb h_;(try dsimp only[Con.kind,Con.parts,Con.name,Con.lo,Con.hi,Con.cap,Con.ad]at q_);exact k1_.go q_)|(have q_:=zbn h_;(try dsimp only[Con.kind,Con.parts,Con.name,Con.lo,Con.hi,Con.cap,Con.ad]at q_);exact k1_.go q_)))):C:=(h ⟨k0⟩ ⟨k1⟩).go
theorem Zi {p q A B C:Prop} (n:Nat) (k0:p->A) (k1:q->B) (h:Kw (p->A)->Kw (q->B)->Cn n C:=by intro k0_ k1_;refine Zy ?_;first|((with_reducible apply A_);(first|((with_reducible apply al_);exact rfl;exact rfl)|((with_reducible apply dw_);exact rfl;exact rfl)|((with_reducible apply dR_);exact rfl;exact rfl)|((with_reducible apply dx_);exact rfl;exact rfl)|((with_reducible apply cP_);exact rfl;exact rfl)|((with_reducible apply fc_);exact rfl;exact rfl)|((with_reducible apply ec_);exact rfl;exact rfl)|((with_reducible apply cY_);exact rfl;exact rfl)|((with_reducible apply gd_);exact rfl;exact rfl));exact rfl;intro r_ h_;cases r_;(first|exact k0_.go (zdf h_)|exact k0_.go (znb h_)|exact k0_.go (zbe h_));(first|exact k1_.go (zdt h_)|exact k1_.go (zeb h_)|exact k1_.go (zbn h_)))|((with_reducible apply kd_);exact rfl;(first|((with_reducible apply al_);exact rfl;exact rfl)|((with_reducible apply dw_);exact rfl;exact rfl)|((with_reducible apply dR_);exact rfl;exact rfl)|((with_reducible apply dx_);exact rfl;exact rfl)|((with_reducible apply cP_);exact rfl;exact rfl)|((with_reducible apply fc_);exact rfl;exact rfl)|((with_reducible apply ec_);exact rfl;exact rfl)|((with_reducible apply cY_);exact rfl;exact rfl)|((with_reducible apply gd_);exact rfl;exact rfl));exact rfl;intro r_ h_;cases r_;(first|exact k0_.go (zdf h_)|exact k0_.go (znb h_)|exact k0_.go (zbe h_));(first|exact k1_.go (zdt h_)|exact k1_.go (zeb h_)|exact k1_.go (zbn h_)))|((with_reducible apply eo_);exact rfl;exact rfl;exact rfl;(first|((with_reducible apply al_);exact rfl;exact rfl)|((with_reducible apply dw_);exact rfl;exact rfl)|((with_reducible apply dR_);exact rfl;exact rfl)|((with_reducible apply dx_);exact rfl;exact rfl)|((with_reducible apply cP_);exact rfl;exact rfl)|((with_reducible apply fc_);exact rfl;exact rfl)|((with_reducible apply ec_);exact rfl;exact rfl)|((with_reducible apply cY_);exact rfl;exact rfl)|((with_reducible apply gd_);exact rfl;exact rfl));exact rfl;intro r_ h_;cases r_;(first|exact k0_.go (zdf h_)|exact k0_.go (znb h_)|exact k0_.go (zbe h_));(first|exact k1_.go (zdt h_)|exact k1_.go (zeb h_)|exact k1_.go (zbn h_)))):C:=(h ⟨k0⟩ ⟨k1⟩).go
theorem zm {p q:Prop} (k:p) (h:Kw p->q:=by intro k_;repeat (first|exact trivial|refine⟨rfl,?_⟩|refine⟨n_ rfl k_.go,?_⟩)):q:=h ⟨k⟩
theorem Zz {A B:Prop} (n:Nat) (k:A) (h:Kw A->Cn n B:=by intro k_;exact Zy k_.go):B:=(h ⟨k⟩).go
end Go.Proofs.YtbffkokbdeppaaaGreatDoor

namespace Go.Proofs.YtbffkokbdeppaaaGreatDoor
open Go Go.Sx Go.Proofs Tryz
attribute [local irreducible] Code.wp wpList wpAnyH
open Go.Vs
theorem pH_ (c:UInt8) :
    Fn0 prog 319 #[.int .u8 (c.toNat:Int)] (.bool (dK_ c)):=by
  refine l_ func319 rfl rfl ntmps319 rfl λu=>?_;refine Zi 8 (λk=>?_) λk=>?_
  . refine Zi 8 (λe=>?_) λe=>?_
    . refine Zz 11 ?_;exact W_ results319 () (n_ rfl (by grind[dK_])) (.refl _) zt
    . refine Zz 5 ?_;refine A_ (dx_ rfl rfl) rfl λh d=>Zz 7 ?_
      exact W_ results319 () (n_ rfl (by grind[dK_])) (.refl _) zt
  . refine Zi 4 (λe=>?_) λe=>?_
    . refine Zz 5 ?_;refine A_ (dx_ rfl rfl) rfl λh d=>Zz 2 ?_
      cases h
      . grind
      . replace d:=zdt d;refine Zz 3 ?_;refine A_ (dx_ rfl rfl) rfl λv o=>Zz 7 ?_
        exact W_ results319 () (n_ rfl (by grind[dK_])) (.refl _) zt
    . refine Zz 13 ?_;exact W_ results319 () (n_ rfl (by grind[dK_])) (.refl _) zt
theorem tZ_ (s:Str) (G:s.length<=140737488351232) :
    Fn0 prog 303 #[str s] (.bool (iB_ s)):=by
  refine l_ func303 rfl rfl ntmps303 rfl λF=>?_;refine Zz 9 ?_;refine Cb_ L_ xB_ runUnderlying5 rfl rfl λcap e C=>Zz 5 ?_
  refine bc_ [(6,.slice (some ⟨e,0,none⟩) s.length cap),(7,i4_ s.length),(8,i4_ ((0:Nat):Int))] zl ?_;refine bs_ (ι:={k:Nat // k<=s.length/\(s.take k).all dz_=true}) (λi=>[(6,.slice (some ⟨e,0,none⟩) s.length cap),(7,i4_ s.length),(8,i4_ i.1)]) (λ_=>_) (λ_=>_) (λi=>s.length - i.1) ⟨0,by simp⟩ ?_;rintro ⟨k,A⟩;refine bc_ [(6,.slice (some ⟨e,0,none⟩) s.length cap),(7,i4_ s.length),(8,i4_ k)] zl ?_;refine Zi 2 (λy=>?_) λy=>?_
  . refine Zz 12 ?_;exact W_ results303 () (n_ rfl (by rw[iB_,ih_ dz_ s k zaa_ A.2])) (.refl _) zt
  . have d:k<s.length:=by omega
    obtain⟨c,h⟩:∃ c,s[k]? = some c:=⟨_,yaa_ d⟩;refine Zz 10 ?_;refine c_ (ka_ xB_ sizeOf5 rfl rfl zaa_ zaa_) rfl (c_ (aK_ (u:=.int .u8 (c.toNat:Int)) 0 isAgg5 rfl rfl (by rw[show 0+((k:Int)).toNat*1=k by omega];exact Ab_ h)) rfl ?_);refine Zz 6 ?_;refine U_ (pH_ c) rfl (.refl _) zt rfl λB E=>c_ (aI_ rfl) rfl (Zz 1 ?_)
    cases B
    . refine Zi 3 (λx=>?_) λx=>?_
      . refine Zz 19 ?_;exact w_ ⟨k+1,d,eV_ _ s k c h A.2 zbA_⟩ zaC_ zl (.refl _) zh
      . refine Zi 5 (λv=>?_) λv=>?_
        . refine Zi 5 (λo=>?_) λo=>?_
          . refine Zz 13 ?_;exact w_ ⟨k+1,d,eV_ _ s k c h A.2 zbA_⟩ zaC_ zl (.refl _) zh
          . refine Zz 12 ?_;exact W_ results303 () (n_ rfl (by rw[iB_,gy_ dz_ s k c h zbA_])) (.refl _) zt
        . refine Zz 16 ?_;exact W_ results303 () (n_ rfl (by rw[iB_,gy_ dz_ s k c h zbA_])) (.refl _) zt
    . refine Zz 21 ?_;exact w_ ⟨k+1,d,eV_ _ s k c h A.2 zbA_⟩ zaC_ zl (.refl _) zh
theorem yk_ (s:Str) :
    Fn0 prog 320 #[str s] (.bool (aZ_ s)):=by
  refine l_ func320 rfl rfl ntmps320 rfl λP=>?_;refine Zi 15 (λM=>?_) λM=>?_
  . refine Zi 6 (λO=>?_) λO=>?_
    . refine Zi 6 (λL=>?_) λL=>?_
      . refine Zi 6 (λJ=>?_) λJ=>?_
        . refine Zi 6 (λH=>?_) λH=>?_
          . refine Zi 6 (λG=>?_) λG=>?_
            . refine Zi 6 (λK=>?_) λK=>?_
              . refine Zi 6 (λI=>?_) λI=>?_
                . refine Zi 6 (λF=>?_) λF=>?_
                  . refine Zi 6 (λe=>?_) λe=>?_
                    . refine Zi 6 (λh=>?_) λh=>?_
                      . refine Zi 6 (λu=>?_) λu=>?_
                        . refine Zi 6 (λE=>?_) λE=>?_
                          . refine Zi 6 (λA=>?_) λA=>?_
                            . refine Zi 6 (λv=>?_) λv=>?_
                              . refine Zi 6 (λk=>?_) λk=>?_
                                . refine Zi 6 (λC=>?_) λC=>?_
                                  . refine Zi 6 (λB=>?_) λB=>?_
                                    . refine Zi 6 (λy=>?_) λy=>?_
                                      . refine Zi 6 (λx=>?_) λx=>?_
                                        . refine Zi 6 (λo=>?_) λo=>?_
                                          . refine Zi 5 (λd=>?_) λd=>?_
                                            . refine Zz 12 ?_;exact W_ bv_ () (n_ rfl zaq_) (.refl _) zt
                                            . refine Zz 10 ?_;exact W_ bv_ () (n_ rfl zaq_) (.refl _) zt
                                          . refine Zz 13 ?_;exact W_ bv_ () (n_ rfl zaq_) (.refl _) zt
                                        . refine Zz 13 ?_;exact W_ bv_ () (n_ rfl zaq_) (.refl _) zt
                                      . refine Zz 13 ?_;exact W_ bv_ () (n_ rfl zaq_) (.refl _) zt
                                    . refine Zz 13 ?_;exact W_ bv_ () (n_ rfl zaq_) (.refl _) zt
                                  . refine Zz 13 ?_;exact W_ bv_ () (n_ rfl zaq_) (.refl _) zt
                                . refine Zz 13 ?_;exact W_ bv_ () (n_ rfl zaq_) (.refl _) zt
                              . refine Zz 13 ?_;exact W_ bv_ () (n_ rfl zaq_) (.refl _) zt
                            . refine Zz 13 ?_;exact W_ bv_ () (n_ rfl zaq_) (.refl _) zt
                          . refine Zz 13 ?_;exact W_ bv_ () (n_ rfl zaq_) (.refl _) zt
                        . refine Zz 13 ?_;exact W_ bv_ () (n_ rfl zaq_) (.refl _) zt
                      . refine Zz 13 ?_;exact W_ bv_ () (n_ rfl zaq_) (.refl _) zt
                    . refine Zz 13 ?_;exact W_ bv_ () (n_ rfl zaq_) (.refl _) zt
                  . refine Zz 13 ?_;exact W_ bv_ () (n_ rfl zaq_) (.refl _) zt
                . refine Zz 13 ?_;exact W_ bv_ () (n_ rfl zaq_) (.refl _) zt
              . refine Zz 13 ?_;exact W_ bv_ () (n_ rfl zaq_) (.refl _) zt
            . refine Zz 13 ?_;exact W_ bv_ () (n_ rfl zaq_) (.refl _) zt
          . refine Zz 13 ?_;exact W_ bv_ () (n_ rfl zaq_) (.refl _) zt
        . refine Zz 13 ?_;exact W_ bv_ () (n_ rfl zcl_) (.refl _) zt
      . refine Zz 13 ?_;exact W_ bv_ () (n_ rfl zcl_) (.refl _) zt
    . refine Zz 13 ?_;exact W_ bv_ () (n_ rfl zcl_) (.refl _) zt
  . refine Zz 13 ?_;exact W_ bv_ () (n_ rfl zcl_) (.refl _) zt
theorem pG_ (s:Str) (y:s.length<=140737488351232) :
    Fn0 prog 276 #[str s] (.bool (gv_ s)):=by
  refine l_ func276 rfl rfl ntmps276 rfl λv=>?_;refine Zi 8 (λd=>?_) λd=>?_
  . refine Zz 18 ?_;exact W_ results276 () (n_ rfl (by grind[gv_])) (.refl _) zt
  . obtain⟨c,t,rfl⟩:=List.exists_cons_of_ne_nil d;refine Zz 4 ?_;refine c_ (cr_ L_ rfl rfl zaj_ rfl) rfl (as_ rfl rfl (U_ (pH_ _) rfl (.refl _) zt rfl λh u=>Zz 2 ?_));cases h
    . refine Zz 12 ?_;exact W_ results276 () (n_ rfl (by grind[gv_])) (.refl _) zt
    . refine Zz 3 ?_;refine U_ (tZ_ _ zar_) rfl (.refl _) zt rfl λe o=>Zz 2 ?_
      cases e
      . refine Zz 8 ?_;exact W_ results276 () (n_ rfl (by grind[gv_])) (.refl _) zt
      . refine Zz 3 ?_;refine U_ (yk_ _) rfl (.refl _) zt rfl λx k=>as_ rfl rfl (c_ (aI_ rfl) rfl (Zz 5 ?_))
        exact W_ results276 () (n_ rfl (by grind[gv_])) (.refl _) zt
theorem ir_ (s:Str) (v:s.length<=140737488351232) :
    Fn0 prog 248 #[str s] (.bool (cl_ s)):=by
  refine l_ func248 rfl rfl ntmps248 rfl λo=>?_;refine Zz 8 ?_;refine c_ (cK_ L_ rfl) rfl ?_;refine Zi 0 (λe=>?_) λe=>?_
  . refine Zz 18 ?_;exact W_ results248 () (n_ rfl (by grind[cl_])) (.refl _) zt
  . refine Zz 4 ?_;refine c_ (cK_ L_ rfl) rfl (as_ rfl rfl ?_);refine Zi 0 (λh=>?_) λh=>?_
    . refine Zz 14 ?_;exact W_ results248 () (n_ rfl (by grind[cl_])) (.refl _) zt
    . obtain⟨c,t,rfl⟩:=ybt_ (l:=s) zaa_;refine Zz 5 ?_;refine c_ (cr_ L_ rfl rfl zaj_ rfl) rfl (as_ rfl rfl ?_);refine Zi 0 (λd=>?_) λd=>?_
      . refine Zz 9 ?_;exact W_ results248 () (n_ rfl (by grind[cl_])) (.refl _) zt
      . refine Zz 5 ?_;refine U_ (tZ_ _ zar_) rfl (.refl _) zt rfl λu k=>Zz 5 ?_
        exact W_ results248 () (n_ rfl (by grind[cl_])) (.refl _) zt
theorem ok_ (s:Str) (c:UInt8):Fn0 prog 365 #[str s,str [c]] (i4_ (Lib.indexByte s c)) :=
  sv_ (callable func365 rfl rfl) λw=>(Tryz.stringslite_Index_one ⟨s.toArray⟩ c w).mono zap_
theorem sq_ (s:Str) (c:UInt8) (d:ixS c s=none):Fn0 prog 365 #[str s,str [c]] (i4_ (-1)):=by
  grind[ok_,sj_]
theorem sp_ (s:Str) (c:UInt8) (k:Nat) (d:ixS c s=some k):Fn0 prog 365 #[str s,str [c]] (i4_ k):=by
  grind[ok_,sj_]
theorem yy_ (s:Str) (c:UInt8) (h:ixS c s=none) :
    Fn0 prog 318 #[str s,str [c]] (.tuple #[str s,str [],.bool false]):=by
  refine l_ func318 rfl rfl ntmps318 rfl λk=>?_;refine Zz 12 ?_;refine d_ (sq_ s c h) rfl (.refl _) zt rfl λ_=>Zz 6 ?_
  refine A_ (fc_ rfl rfl) rfl λe d=>Zz 2 ?_
  cases e
  . replace d:=zdf d;refine Zz 12 ?_;exact hJ_ results318 () rfl rfl rfl rfl (.refl _) zt
  grind
theorem yx_ (s:Str) (c:UInt8) (k:Nat) (o:ixS c s=some k) (hl:k<s.length) (u:s.length<=140737488351232) :
    Fn0 prog 318 #[str s,str [c]] (.tuple #[str (s.take k),str (s.drop (k+1)),.bool true]):=by
  refine l_ func318 rfl rfl ntmps318 rfl λh=>?_;refine Zz 12 ?_;refine d_ (sp_ s c k o) rfl (.refl _) zt rfl λ_=>Zz 6 ?_
  refine A_ (fc_ rfl rfl) rfl λe d=>Zz 2 ?_
  cases e
  . grind
  . replace d:=zdt d;refine Zz 3 ?_;refine C_ 0 [0,1,2,3,4,5,6,7,8,9,10,11] zk zs (Zz 2 ?_);refine G_ rfl (fK_ (i:=0) (j:=k) (kl:=.i64) L_ rfl rfl rfl zaa_ zaa_) rfl (Zz 3 ?_);refine G_ rfl (cK_ L_ rfl) rfl (G_ rfl (aT_ rfl rfl rfl (bB_ zap_ zap_)) rfl (G_ rfl (fK_ (i:=k+1) (j:=s.length) (kh:=.i64) L_ rfl rfl rfl zaa_ zaa_) rfl (Zz 7 ?_)));exact hJ_ results318 () rfl rfl rfl (by grind[List.take_of_length_le]) (.refl _) zt
theorem AJ_ (s:Str) (c:UInt8) (d:ixS c s=none) :
    Fn0 prog 275 #[str s,str [c]] (.tuple #[str s,str [],.bool false]):=by
  refine l_ func275 rfl rfl ntmps275 rfl λe=>?_;refine Zz 11 ?_;refine d_ (yy_ s c d) rfl (.refl _) zt rfl λ_=>Zz 9 ?_
  exact hJ_ results275 () rfl rfl rfl rfl (.refl _) zt
theorem sl_ (s:Str) (o:ixS 58 s=none) :
    Fn0 prog 195 #[str s] (.bool (bO_ s)):=by
  refine l_ func195 rfl rfl ntmps195 rfl λk=>?_;refine Zz 9 ?_;refine c_ (cK_ L_ rfl) rfl ?_;refine Zi 0 (λd=>?_) λd=>?_
  . refine Zz 8 ?_;refine d_ (AJ_ s 58 o) rfl (.refl _) zt rfl λ_=>Zz 12 ?_
    refine U_ (pG_ _ zap_) rfl (.refl _) zt rfl λe h=>Zz 1 ?_
    cases e
    . refine Zz 11 ?_;exact W_ mC_ () (n_ rfl zcf_) (.refl _) zt
    . refine Zz 3 ?_;refine c_ (aI_ rfl) rfl (Zz 11 ?_);exact W_ mC_ () (n_ rfl zcf_) (.refl _) zt
  . refine Zz 9 ?_;exact W_ mC_ () (n_ rfl zcf_) (.refl _) zt
theorem AI_ (s:Str) (c:UInt8) (k:Nat) (d:ixS c s=some k) (hl:k<s.length) (e:s.length<=140737488351232) :
    Fn0 prog 275 #[str s,str [c]] (.tuple #[str (s.take k),str (s.drop (k+1)),.bool true]):=by
  refine l_ func275 rfl rfl ntmps275 rfl λh=>?_;refine Zz 11 ?_;refine d_ (yx_ s c k d hl e) rfl (.refl _) zt rfl λ_=>Zz 9 ?_
  exact hJ_ results275 () rfl rfl rfl rfl (.refl _) zt
theorem sk_ (s:Str) (k:Nat) (v:ixS 58 s=some k) (hl:k<s.length) :
    Fn0 prog 195 #[str s] (.bool (bO_ s)):=by
  refine l_ func195 rfl rfl ntmps195 rfl λu=>?_;refine Zz 9 ?_;refine c_ (cK_ L_ rfl) rfl ?_;refine Zi 0 (λd=>?_) λd=>?_
  . refine Zz 8 ?_;refine d_ (AI_ s 58 k v hl zaa_) rfl (.refl _) zt rfl λ_=>Zz 12 ?_
    refine U_ (pG_ _ zap_) rfl (.refl _) zt rfl λe o=>Zz 1 ?_
    cases e
    . refine Zz 11 ?_;exact W_ mC_ () (n_ rfl zcf_) (.refl _) zt
    . refine Zz 3 ?_;refine c_ (aI_ rfl) rfl (Zz 5 ?_);refine U_ (pG_ _ zap_) rfl (.refl _) zt rfl λx h=>Zz 7 ?_
      exact W_ mC_ () (n_ rfl zcf_) (.refl _) zt
  . refine Zz 9 ?_;exact W_ mC_ () (n_ rfl zcf_) (.refl _) zt
theorem hM_ (s:Str):Fn0 prog 195 #[str s] (.bool (bO_ s)):=by
  cases hk:ixS 58 s<;>grind[sl_,sk_,Am_]
theorem eH_ (s:Str) (u:s.length<=140737488351232) :
    Fn0 prog 167 #[str s] (i4_ (if bk_ s then 0 else 20)):=by
  refine l_ func167 rfl rfl ntmps167 rfl λo=>?_;refine Zz 9 ?_;refine U_ (hM_ _) rfl (.refl _) zt rfl λe h=>Zz 1 ?_
  cases e
  . refine Zz 3 ?_;refine U_ (ir_ _ u) rfl (.refl _) zt rfl λd k=>Zz 3 ?_
    cases d
    . refine Zz 9 ?_;exact W_ results167 () (aV_ rfl (by grind[bk_])) (.refl _) zt
    . refine Zz 7 ?_;exact W_ results167 () (aV_ rfl (by grind[bk_])) (.refl _) zt
  . refine Zz 12 ?_;exact W_ results167 () (aV_ rfl (by grind[bk_])) (.refl _) zt
theorem fits_c:∀ (m:Nat) (c:Con),c.sz<=m->c.ok->∀ (d n bs:Nat),d<=9->n<=64->∀ r,c.fits d n=r->
    Tri prog 196 #[c.val,i4_ d,zp_ bs 0] [(bs,.cells #[i4_ n] 3 (0,0))] [c.memF] (λ_:Unit=>.bool r.1) (λ_=>[(bs,.cells #[i4_ r.2] 3 (0,0))]) (λ_=>[]):=by
  intro m
  induction m with
  | zero=>intro c h;have:=c.sz_pos;omega
  | succ m ih =>
    intro c hm B d n bs O P r H;obtain⟨k,nm,lo,hi,ad,cap,ps⟩:=c;have y:=Con.ok_len B;simp only[Con.parts,Con.cap]at y;refine l_ func196 rfl rfl ntmps196 rfl λL=>?_;refine Zz 2 ?_;refine Q_ rfl rfl λM=>Zz 10 ?_
    refine o_ 1 af_ rfl rfl rfl rfl rfl rfl (Zj 6 (λE=>?_) λE=>?_)
    . refine Zj 8 (λF=>?_) λF=>?_
      . have o:¬ (8<d\/64<n+1):=by omega
        refine Zz 16 ?_;refine bc_ [(1,i4_ d),(2,zp_ bs 0),(23,.slice ad ps.length cap),(24,i4_ ps.length),(25,i4_ ((0:Nat):Int))] zl ?_;refine bs_ (ι:={q:Nat×Nat // q.1<=ps.length/\Con.fits.fitss (ps.take q.1) (d+1) (n+1)=(true,q.2)/\q.2<=64}) (λi=>[(1,i4_ d),(2,zp_ bs 0),(23,.slice ad ps.length cap),(24,i4_ ps.length),(25,i4_ i.1.1)]) (λi=>[_,(bs,.cells #[i4_ i.1.2] 3 (0,0))]) (λ_=>_) (λi=>ps.length - i.1.1) ⟨(0,n+1),by simp[Con.fits.fitss];omega⟩ ?_;rintro ⟨⟨i,e⟩,G⟩;refine bc_ [(1,i4_ d),(2,zp_ bs 0),(23,.slice ad ps.length cap),(24,i4_ ps.length),(25,i4_ i)] zl ?_;refine Zj 2 (λC=>?_) λC=>?_
        . refine Zz 12 ?_;obtain rfl:r=(true,e):=by rw[<-H];exact Con.fits_yes o zaa_ G.2.1
          exact W_ results196 () rfl (gC_ (i:=1) rfl) zt
        . have x:i<ps.length:=by omega
          obtain⟨p,A⟩:∃ p,ps[i]? = some p:=⟨_,yaa_ x⟩;have u:p∈ps:=yad_ A;refine Zz 10 ?_;refine c_ (J_ z_ i_ rfl rfl (λv _ h=>Con.row_addr (c:=.mk k nm lo hi ad cap ps) h.1 A) zaa_ zaa_) rfl (c_ (ax_ (us:=p.cells) H_ i_ rfl (λv _ h=>((Con.mem_iff (.mk k nm lo hi ad cap ps) v).1 h.1).1) p.cells_len (Con.part_cells (c:=.mk k nm lo hi ad cap ps) (i:=i) A)) rfl (K_ ay_ rfl λK=>fR_ 0 i_ rfl rfl rfl rfl (Zz 4 ?_)));refine c_ (dD_ 0 H_ i_ rfl rfl) rfl (Zz 3 ?_);refine pv_ 2 (ih p (by have:=Con.sz_part (c:=.mk k nm lo hi ad cap ps) u;omega) (Con.ok_part (c:=.mk k nm lo hi ad cap ps) B u) (d+1) e bs zaa_ G.2.2 _ rfl) rfl rfl (λv _ h=>⟨Con.mem_part (c:=.mk k nm lo hi ad cap ps) h.1 u,trivial⟩) rfl λI J=>?_;refine c_ (aI_ rfl) rfl (Zz 2 ?_);cases I
          . refine Zz 7 ?_;obtain rfl:r=(false,(p.fits (d+1) e).2):=by rw[<-H];exact Con.fits_no o A G.2.1 zar_
            exact W_ results196 () rfl (gC_ (i:=2) rfl) zt
          . refine Zz 8 ?_;exact w_ ⟨(i+1,(p.fits (d+1) e).2),x,Con.fitss_step A G.2.1 zar_⟩ zaC_ zl (@List.perm_append_comm _ [_] _) zh
      . refine Zz 10 ?_;obtain rfl:r=(false,n+1):=by rw[<-H,Con.fits_eq];simp<;>omega
        exact W_ results196 () rfl (gC_ (i:=1) rfl) zt
    . refine Zz 15 ?_;obtain rfl:r=(false,n+1):=by rw[<-H,Con.fits_eq];simp<;>omega
      exact W_ results196 () rfl (gC_ (i:=1) rfl) zt
def wr_ (v:Vw):Prop:=v.sl/\v.im 6/\∃ T fz,v.w.heap[6]? = some (.cells (Lib.pow10Tab.map λz=>Value.int .u64 z).toArray T fz)
theorem vh_ {v d:Vw} (h:v.le d) (k:wr_ v):wr_ d:=by
  obtain⟨u,e,T,fz,o⟩:=k;exact⟨by grind[Vw.le.sl],h.imUp _ e,T,fz,by rw[h.block _ e];exact o⟩
theorem xX_ {v : Vw} (d : wr_ v) : Lib.TabIs prog v.w "internal/strconv.uint64pow10" .u64 Lib.pow10Tab := by
  obtain⟨_,h,T,fz,e⟩:=d;have k : Tryz.prog.globalNamed "internal/strconv.uint64pow10" = some 6 := by kernel_rfl
  grind[Lib.TabIs,World.var?]
def cy_:Fct where
  p:=λv=>bW_ v (some ⟨1,0,none⟩) (dC_.flatMap wx_)/\bW_ v (some ⟨0,0,none⟩) (kQ_.flatMap Use.cells)/\True/\wr_ v
  mono:=λv v' h hp=>⟨(O_ _ _).mono v v' h hp.1,(O_ _ _).mono v v' h hp.2.1,trivial,vh_ h hp.2.2.2⟩
theorem gK_ {G:Prop} (h:G:=by
 refine Zz 7 ?_;exact kL_):G:=h
theorem oP_ {G:Prop} (h:G:=by
 refine Zz 7 ?_;exact met ⟨rfl,rfl,rfl,rfl,rfl,rfl,rfl,rfl,rfl,rfl,rfl,rfl,rfl,rfl,(n_ rfl (jaf H)),trivial⟩):G:=h
theorem kK_ {G:Prop} (h:G:=by
 exact met ⟨rfl,rfl,rfl,rfl,rfl,rfl,rfl,rfl,rfl,rfl,rfl,rfl,(n_ rfl (jot d)),trivial⟩):G:=h
theorem ia_ {G:Prop} (h:G:=by
 exact met ⟨rfl,rfl,rfl,rfl,rfl,rfl,rfl,rfl,rfl,rfl,rfl,rfl,rfl,(n_ rfl (jot d)),trivial⟩):G:=h
theorem kL_ {G:Prop} (h:G:=by
 exact W_ results197 () (aV_ rfl (by unfold Con.fieldErr;simp only[Con.kind,Con.parts,Con.name,Con.lo,Con.hi];simp only[P];repeat (first|rfl|exact (yax_ zaa_).symm|(rw[yax_ zbc_];first|done|rfl)|(rw[yam_ zbc_])))) (.refl _) zt):G:=h
theorem qp_ (c:Con) (a0:c.ok):Tri prog 197 #[c.val] [] [cy_] (λ_:Unit=>i4_ c.fieldErr) (λ_=>[]) (λ_=>[]):=by
 obtain⟨k,nm,lo,hi,ad,cap,ps⟩:=c;have a4:=Con.ok_len a0;simp only[Con.parts,Con.cap]at a4;refine l_ func197 rfl rfl ntmps197 rfl λv_1=>?_;refine Zz 2 ?_;refine Q_ rfl rfl λo=>Zz 8 ?_
 refine A_ (dw_ rfl rfl) rfl λr_1 M=>Zz 1 ?_
 refine aB_ 4 ((decide (k<1))||(decide (7<k))) (λr=>[(0,.agg (Con.cells (Con.mk k nm lo hi ad cap ps)).toArray),(1,zp_ o 0),(2,i4_ 0),(11,.bool r)]) ?_ λr_2 Z=>?_
 .cases r_1
  .have d:=M
   replace M:=zdf M;refine Zz 5 ?_;refine A_ (ec_ rfl rfl) rfl λa3 L=>Zz 3 ?_
   exact met (zm (jof d L))
  have d:=M;replace M:=zdt M;refine Zz 6 ?_;exact met ⟨rfl,rfl,rfl,(n_ rfl (jot d)),trivial⟩
 refine Zz 2 ?_;cases r_2
 .simp at Z
  obtain⟨x,hx⟩:∃ x,dC_[k.toNat]? = some x:=⟨_,yaa_ (show k.toNat<8 by omega)⟩;have P:nd k=x:=by simp[nd,hx]
  obtain⟨B,J,I,xb⟩:=x;refine Zz 7 ?_;refine c_ (gL_ runUnderlying315 sizeOf314 rfl rfl zck_ (by show k<(8:Int);omega)) rfl ?_;refine c_ (ax_ (ad:=some ⟨1,0,none⟩) (k:=k.toNat*4) (us:=wx_ (B,J,I,xb)) isAgg314 sizeOf314 rfl (λv _ h=>h.1.1) (mG_ _) (λj y hj=>by rw[mN_ wx_ 4 mG_ dC_ k.toNat j _ hx (by have:=(yaf_.1 hj).1;rwa [mG_]at this)];exact hj)) rfl ?_;refine K_ zeroValue314 rfl λC=>o_ 0 sizeOf314 rfl rfl rfl rfl rfl rfl (Zz 10 ?_)
  refine A_ (dw_ rfl rfl) rfl λa3 L=>Zz 1 ?_
  let Ru:Array Value:=#[i4_ B,i4_ J,i4_ I,.bool xb];refine aB_ 7 ((decide ((ps.length:Int)<J))||(decide (I<(ps.length:Int)))) (λr=>[(0,.agg (Con.cells (Con.mk k nm lo hi ad cap ps)).toArray),(1,zp_ o 0),(2,i4_ 0),(11,.bool false),(12,zp_ o 0),(13,i4_ k),(14,.pointer (some (rad (some ⟨1,0,none⟩) (k.toNat*4)))),(15,.agg Ru),(3,zp_ C 0),(29,.bool r)]) ?_ λr_4 S=>?_
  .cases a3
   .have d:=L
    replace L:=zdf L;refine Zz 11 ?_;refine A_ (ec_ rfl rfl) rfl λa2 Q=>Zz 3 ?_
    exact met (zm (jof d Q))
   have d:=L;replace L:=zdt L;refine Zz 9 ?_;exact met ⟨rfl,rfl,rfl,rfl,rfl,rfl,rfl,rfl,rfl,(n_ rfl (jot d)),trivial⟩
  refine Zz 1 ?_;refine aB_ 9 ((((decide ((ps.length:Int)<J))||(decide (I<(ps.length:Int)))))||(((B==0)&&(nm != [])))) (λr=>[(0,.agg (Con.cells (Con.mk k nm lo hi ad cap ps)).toArray),(1,zp_ o 0),(2,i4_ 0),(11,.bool false),(12,zp_ o 0),(13,i4_ k),(14,.pointer (some (rad (some ⟨1,0,none⟩) (k.toNat*4)))),(15,.agg Ru),(3,zp_ C 0),(39,.bool r)]) ?_ λa2 Q=>?_
  .cases r_4
   .have d:=S
    simp at S
    refine Zz 5 ?_;refine A_ (al_ rfl rfl) rfl λV e=>Zz 2 ?_
    refine aB_ 4 ((B==0)&&(nm != [])) (λr=>[(0,.agg (Con.cells (Con.mk k nm lo hi ad cap ps)).toArray),(1,zp_ o 0),(2,i4_ 0),(11,.bool false),(12,zp_ o 0),(13,i4_ k),(14,.pointer (some (rad (some ⟨1,0,none⟩) (k.toNat*4)))),(15,.agg Ru),(3,zp_ C 0),(30,.bool false),(38,.bool r)]) ?_ λX K=>?_
    .cases V
     .have H:=e
      replace e:=znb e;refine Zz 7 ?_;exact met ⟨rfl,rfl,rfl,rfl,rfl,rfl,rfl,rfl,rfl,rfl,(n_ rfl (jaf H)),trivial⟩
     have H:=e;replace e:=zeb e;refine Zz 5 ?_;refine A_ (cY_ rfl rfl) rfl λU u=>Zz 4 ?_
     exact met ⟨rfl,rfl,rfl,rfl,rfl,rfl,rfl,rfl,rfl,rfl,(n_ rfl (jat H u)),trivial⟩
    refine Zz 3 ?_;exact met (zm (jof d K))
   have d:=S;simp at S
   refine Zz 11 ?_;exact met ⟨rfl,rfl,rfl,rfl,rfl,rfl,rfl,rfl,rfl,(n_ rfl (jot d)),trivial⟩
  refine Zz 2 ?_;cases a2
  .simp at Q
   refine Zz 10 ?_;cases xb
   .refine Zz 5 ?_;refine A_ (cP_ rfl rfl) rfl λV e=>Zz 1 ?_
    let Qu:Array Value:=#[i4_ B,i4_ J,i4_ I,.bool false];refine aB_ 4 ((lo != 0)||(hi != 0)) (λr=>[(0,.agg (Con.cells (Con.mk k nm lo hi ad cap ps)).toArray),(1,zp_ o 0),(2,i4_ 0),(11,.bool false),(12,zp_ o 0),(13,i4_ k),(14,.pointer (some (rad (some ⟨1,0,none⟩) (k.toNat*4)))),(15,.agg Qu),(3,zp_ C 0),(39,.bool false),(40,zp_ C 3),(41,.bool false),(64,.bool r)]) ?_ λX K=>?_
    .cases V
     .have d:=e
      replace e:=de_ e;refine Zz 5 ?_;refine A_ (cP_ rfl rfl) rfl λU u=>Zz 3 ?_
      exact met (zm (jof d u))
     have d:=e;replace e:=dd_ e;refine Zz 6 ?_;exact kK_
    refine Zz 2 ?_;cases X
    .simp at K
     refine Zz 8 ?_;refine A_ (al_ rfl rfl) rfl λU u=>Zz 1 ?_
     refine aB_ 4 ((B==0)||(bO_ nm)) (λr=>[(0,.agg (Con.cells (Con.mk k nm lo hi ad cap ps)).toArray),(1,zp_ o 0),(2,i4_ 0),(11,.bool false),(12,zp_ o 0),(13,i4_ k),(14,.pointer (some (rad (some ⟨1,0,none⟩) (k.toNat*4)))),(15,.agg Qu),(3,zp_ C 0),(39,.bool false),(40,zp_ C 3),(41,.bool false),(64,.bool false),(72,.bool r)]) ?_ λW E=>?_
     .cases U
      .have d:=u
       replace u:=znb u;refine Zz 5 ?_;refine U_ (hM_ nm) rfl (.refl _) zt rfl λT F=>Zz 3 ?_
       exact met (zm (jof d F))
      have d:=u;replace u:=zeb u;refine Zz 6 ?_;exact ia_
     refine Zz 1 ?_;refine aB_ 9 ((((B==0)||(bO_ nm)))||(((B==2)&&(cl_ nm)))) (λr=>[(0,.agg (Con.cells (Con.mk k nm lo hi ad cap ps)).toArray),(1,zp_ o 0),(2,i4_ 0),(11,.bool false),(12,zp_ o 0),(13,i4_ k),(14,.pointer (some (rad (some ⟨1,0,none⟩) (k.toNat*4)))),(15,.agg Qu),(3,zp_ C 0),(39,.bool false),(40,zp_ C 3),(41,.bool false),(64,.bool false),(82,.bool r)]) ?_ λT F=>?_
     .cases W
      .have d:=E
       simp at E
       refine Zz 5 ?_;refine A_ (al_ rfl rfl) rfl λR A=>Zz 2 ?_
       refine aB_ 4 ((B==2)&&(cl_ nm)) (λr=>[(0,.agg (Con.cells (Con.mk k nm lo hi ad cap ps)).toArray),(1,zp_ o 0),(2,i4_ 0),(11,.bool false),(12,zp_ o 0),(13,i4_ k),(14,.pointer (some (rad (some ⟨1,0,none⟩) (k.toNat*4)))),(15,.agg Qu),(3,zp_ C 0),(39,.bool false),(40,zp_ C 3),(41,.bool false),(64,.bool false),(73,.bool false),(81,.bool r)]) ?_ λY G=>?_
       .cases R
        .have H:=A
         replace A:=znb A;exact oP_
        have H:=A;replace A:=zeb A;refine Zz 5 ?_;refine U_ (ir_ nm (Con.ok_name a0)) rfl (.refl _) zt rfl λr_13 O=>Zz 4 ?_
        exact met ⟨rfl,rfl,rfl,rfl,rfl,rfl,rfl,rfl,rfl,rfl,rfl,rfl,rfl,rfl,(n_ rfl (jat H O)),trivial⟩
       refine Zz 3 ?_;exact met (zm (jof d G))
      have d:=E;simp at E
      refine Zz 11 ?_;exact ia_
     refine Zz 2 ?_;cases T
     .simp at F
      refine Zz 9 ?_;exact kL_
     simp at F
     exact gK_
    simp at K
    exact gK_
   refine Zz 5 ?_;refine A_ (dw_ rfl rfl) rfl λV e=>Zz 1 ?_
   let Pu:Array Value:=#[i4_ B,i4_ J,i4_ I,.bool true];refine aB_ 6 ((decide (lo<(-1099511627776)))||(decide (hi<lo))) (λr=>[(0,.agg (Con.cells (Con.mk k nm lo hi ad cap ps)).toArray),(1,zp_ o 0),(2,i4_ 0),(11,.bool false),(12,zp_ o 0),(13,i4_ k),(14,.pointer (some (rad (some ⟨1,0,none⟩) (k.toNat*4)))),(15,.agg Pu),(3,zp_ C 0),(39,.bool false),(40,zp_ C 3),(41,.bool true),(51,.bool r)]) ?_ λX K=>?_
   .cases V
    .have d:=e
     replace e:=zdf e;refine Zz 9 ?_;refine A_ (ec_ rfl rfl) rfl λU u=>Zz 3 ?_
     exact met (zm (jof d u))
    have d:=e;replace e:=zdt e;refine Zz 8 ?_;exact kK_
   refine Zz 1 ?_;refine aB_ 4 ((((decide (lo<(-1099511627776)))||(decide (hi<lo))))||(decide (1099511627776<hi))) (λr=>[(0,.agg (Con.cells (Con.mk k nm lo hi ad cap ps)).toArray),(1,zp_ o 0),(2,i4_ 0),(11,.bool false),(12,zp_ o 0),(13,i4_ k),(14,.pointer (some (rad (some ⟨1,0,none⟩) (k.toNat*4)))),(15,.agg Pu),(3,zp_ C 0),(39,.bool false),(40,zp_ C 3),(41,.bool true),(56,.bool r)]) ?_ λU u=>?_
   .cases X
    .have d:=K
     simp at K
     refine Zz 5 ?_;refine A_ (ec_ rfl rfl) rfl λW E=>Zz 3 ?_
     exact met (zm (jof d E))
    have d:=K;simp at K
    refine Zz 6 ?_;exact kK_
   refine Zz 2 ?_;cases U
   .simp at u
    refine Zz 8 ?_;refine A_ (al_ rfl rfl) rfl λW E=>Zz 1 ?_
    refine aB_ 4 ((B==0)||(bO_ nm)) (λr=>[(0,.agg (Con.cells (Con.mk k nm lo hi ad cap ps)).toArray),(1,zp_ o 0),(2,i4_ 0),(11,.bool false),(12,zp_ o 0),(13,i4_ k),(14,.pointer (some (rad (some ⟨1,0,none⟩) (k.toNat*4)))),(15,.agg Pu),(3,zp_ C 0),(39,.bool false),(40,zp_ C 3),(41,.bool true),(56,.bool false),(72,.bool r)]) ?_ λT F=>?_
    .cases W
     .have d:=E
      replace E:=znb E;refine Zz 5 ?_;refine U_ (hM_ nm) rfl (.refl _) zt rfl λR A=>Zz 3 ?_
      exact met (zm (jof d A))
     have d:=E;replace E:=zeb E;refine Zz 6 ?_;exact ia_
    refine Zz 1 ?_;refine aB_ 9 ((((B==0)||(bO_ nm)))||(((B==2)&&(cl_ nm)))) (λr=>[(0,.agg (Con.cells (Con.mk k nm lo hi ad cap ps)).toArray),(1,zp_ o 0),(2,i4_ 0),(11,.bool false),(12,zp_ o 0),(13,i4_ k),(14,.pointer (some (rad (some ⟨1,0,none⟩) (k.toNat*4)))),(15,.agg Pu),(3,zp_ C 0),(39,.bool false),(40,zp_ C 3),(41,.bool true),(56,.bool false),(82,.bool r)]) ?_ λR A=>?_
    .cases T
     .have d:=F
      simp at F
      refine Zz 5 ?_;refine A_ (al_ rfl rfl) rfl λY G=>Zz 2 ?_
      refine aB_ 4 ((B==2)&&(cl_ nm)) (λr=>[(0,.agg (Con.cells (Con.mk k nm lo hi ad cap ps)).toArray),(1,zp_ o 0),(2,i4_ 0),(11,.bool false),(12,zp_ o 0),(13,i4_ k),(14,.pointer (some (rad (some ⟨1,0,none⟩) (k.toNat*4)))),(15,.agg Pu),(3,zp_ C 0),(39,.bool false),(40,zp_ C 3),(41,.bool true),(56,.bool false),(73,.bool false),(81,.bool r)]) ?_ λr_13 O=>?_
      .cases Y
       .have H:=G
        replace G:=znb G;exact oP_
       have H:=G;replace G:=zeb G;refine Zz 5 ?_;refine U_ (ir_ nm (Con.ok_name a0)) rfl (.refl _) zt rfl λr_14 a1=>Zz 4 ?_
       exact met ⟨rfl,rfl,rfl,rfl,rfl,rfl,rfl,rfl,rfl,rfl,rfl,rfl,rfl,rfl,(n_ rfl (jat H a1)),trivial⟩
      refine Zz 3 ?_;exact met (zm (jof d O))
     have d:=F;simp at F
     refine Zz 11 ?_;exact ia_
    refine Zz 2 ?_;cases R
    .simp at A
     refine Zz 9 ?_;exact kL_
    simp at A
    exact gK_
   simp at u
   exact gK_
  simp at Q
  exact gK_
 simp at Z
 refine Zz 7 ?_;exact W_ results197 () (aV_ rfl (by unfold Con.fieldErr;simp only[Con.kind,Con.parts,Con.name,Con.lo,Con.hi];repeat (first|rfl|exact (yax_ zaa_).symm|(rw[yax_ zbc_];first|done|rfl)|(rw[yam_ zbc_])))) (.refl _) zt
theorem Bp_ {σ τ:Type} {l:Nat} {C:σ->Hp} {L:τ->Hp} {stp:Con->σ->σ ⊕ τ} {E:List Fct} {good:Con->Prop} (A:∀ c p,good c->p∈c.parts->good p)
    (S:∀ s x,x.ok->good x->jY_ prog l x.val (C s) (x.memF::E) (λ_:Unit=>.bool (stp x s).isLeft) (λ_=>pJ_ C L (stp x s)) (λ_=>[])) :
    ∀ (m:Nat) (c:Con),c.sz<=m->c.ok->good c->∀ (s:σ) r,Con.fold stp c s=r->
    Tri prog 191 #[c.val,.func (.yield l) #[] #[]] (C s) (c.memF::E) (λ_:Unit=>.bool r.isLeft) (λ_=>pJ_ C L r) (λ_=>[]):=by
  intro m
  induction m with
  | zero=>intro c h;have:=c.sz_pos;omega
  | succ m ih =>
    intro c hm e M s r Q;obtain⟨k,nm,lo,hi,ad,cap,ps⟩:=c;have H:=Con.ok_len e;simp only[Con.parts,Con.cap]at H;have K:∀ p∈ps,good p:=λp B=>A _ p M B
    refine l_ func191 rfl rfl ntmps191 rfl λU=>?_;refine Zz 2 ?_;refine Q_ rfl rfl λu=>Zz 5 ?_
    rcases hfc:stp (.mk k nm lo hi ad cap ps) s with y|I
    . refine hG_ (ι:=Unit) (λ_=>[(1,.func (.yield l) #[] #[]),(2,zp_ u 0),(10,.bool false)]) (λ_=>(u,.cells (Con.mk k nm lo hi ad cap ps).cells.toArray 28 (0,0))::C y) (λ_=>[(Con.mk k nm lo hi ad cap ps).memF]++E) ?_ λ_=>?_
      . refine aR_ ?_;refine Z_ bh_ (P_ rfl) rfl rfl ?_;refine Z_ bh_ (dD_ (c:=.mk k nm lo hi ad cap ps) 0 H_ i_ rfl rfl) rfl rfl ?_;refine gS_ (S s _ e M) rfl rfl (@List.perm_append_comm _ [_] _) (λv _ h=>h) rfl λ_=>?_;rw[hfc];refine Z_ bh_ (aI_ rfl) rfl rfl ?_;refine bK_ ?_;refine cL_ rfl ?_;exact eg_ () zl (F:=[]) zbl_ zh
      . refine Zz 14 ?_;refine bc_ [(1,.func (.yield l) #[] #[]),(12,.slice ad ps.length cap),(13,i4_ ps.length),(14,i4_ ((0:Nat):Int))] zl ?_;refine bs_ (ι:={q:Nat×σ // q.1<=ps.length/\Con.fold.folds stp (ps.take q.1) y=.inl q.2}) (λi=>[(1,.func (.yield l) #[] #[]),(12,.slice ad ps.length cap),(13,i4_ ps.length),(14,i4_ i.1.1)]) (λi=>_::C i.1.2) (λ_=>_) (λi=>ps.length - i.1.1) ⟨(0,y),by simp[Con.fold.folds]⟩ ?_;rintro ⟨⟨i,o⟩,O⟩;refine bc_ [(1,.func (.yield l) #[] #[]),(12,.slice ad ps.length cap),(13,i4_ ps.length),(14,i4_ i)] zl ?_;refine Zj 2 (λJ=>?_) λJ=>?_
        . refine Zz 12 ?_;obtain rfl:r=.inl o:=by rw[<-Q,Con.fold_eq,hfc];exact Con.folds_yes (show ps.length<=i by omega) O.2
          exact W_ results191 () rfl (@List.perm_append_comm _ [_] _) zt
        . have G:i<ps.length:=by omega
          obtain⟨p,B⟩:∃ p,ps[i]? = some p:=⟨_,yaa_ G⟩;have d:p∈ps:=yad_ B;refine Zz 10 ?_;refine c_ (J_ z_ i_ rfl rfl (λv _ h=>Con.row_addr (c:=.mk k nm lo hi ad cap ps) h.1 B) zaa_ zaa_) rfl (c_ (ax_ (us:=p.cells) H_ i_ rfl (λv _ h=>((Con.mem_iff (.mk k nm lo hi ad cap ps) v).1 h.1).1) p.cells_len (Con.part_cells (c:=.mk k nm lo hi ad cap ps) (i:=i) B)) rfl (K_ ay_ rfl λT=>fR_ 0 i_ rfl rfl rfl rfl (Zz 3 ?_)));rcases hfp:Con.fold stp p o with P|R
          . refine S_ (c_ (dD_ 0 H_ i_ rfl rfl) rfl (Zz 1 ?_));refine d_ (ih p zcc_ (Con.ok_part (c:=.mk k nm lo hi ad cap ps) e d) (K p d) o _ hfp) rfl (@List.perm_append_comm _ [_,_] _) (λv _ h=>⟨Con.mem_part (c:=.mk k nm lo hi ad cap ps) h.1 d,h.2⟩) rfl λ_=>?_;refine s_ (@List.perm_append_comm _ _ [_,_]) (c_ (aI_ rfl) rfl (Zz 10 ?_));exact w_ ⟨(i+1,P),G,Con.folds_step B O.2 hfp⟩ zaC_ zl (F:=[_]) (@List.perm_append_comm _ [_] _) zh
          . refine S_ (c_ (dD_ 0 H_ i_ rfl rfl) rfl (Zz 1 ?_));refine d_ (ih p zcc_ (Con.ok_part (c:=.mk k nm lo hi ad cap ps) e d) (K p d) o _ hfp) rfl (@List.perm_append_comm _ [_,_] _) (λv _ h=>⟨Con.mem_part (c:=.mk k nm lo hi ad cap ps) h.1 d,h.2⟩) rfl λ_=>?_;refine s_ (@List.perm_append_comm _ _ [_,_]) (c_ (aI_ rfl) rfl (Zz 9 ?_));obtain rfl:r=.inr R:=by rw[<-Q,Con.fold_eq,hfc];exact Con.folds_no B O.2 hfp
            exact W_ results191 () rfl (@List.perm_append_comm _ [_,_] _) zt
    . refine hG_ (ι:=Unit) (λ_=>[(1,.func (.yield l) #[] #[]),(2,zp_ u 0),(10,.bool true)]) (λ_=>(u,.cells (Con.mk k nm lo hi ad cap ps).cells.toArray 28 (0,0))::L I) (λ_=>[(Con.mk k nm lo hi ad cap ps).memF]++E) ?_ λ_=>?_
      . refine aR_ ?_;refine Z_ bh_ (P_ rfl) rfl rfl ?_;refine Z_ bh_ (dD_ (c:=.mk k nm lo hi ad cap ps) 0 H_ i_ rfl rfl) rfl rfl ?_;refine gS_ (S s _ e M) rfl rfl (@List.perm_append_comm _ [_] _) (λv _ h=>h) rfl λ_=>?_;rw[hfc];refine Z_ bh_ (aI_ rfl) rfl rfl ?_;refine bK_ ?_;refine cL_ rfl ?_;exact eg_ () zl (F:=[]) zbl_ zh
      . refine Zz 8 ?_;obtain rfl:r=.inr I:=by rw[<-Q,Con.fold_eq,hfc]
        exact W_ results191 () rfl (@List.perm_append_comm _ [_] _) zt
theorem uO_ (c:Con) :
    Tri prog 106 #[c.val] [] [] (λb:Nat=>.func (.func 190) #[] #[zp_ b 0]) (λb=>[(b,.cells c.cells.toArray 28 (0,0))]) (λ_=>[]):=by
  refine l_ func106 rfl rfl ntmps106 rfl λe=>?_;refine Zz 2 ?_;refine Q_ rfl rfl λd=>Zz 5 ?_
  refine c_ (ft_ rfl rfl) rfl (Zz 4 ?_);exact W_ results106 d rfl (F:=[]) (.refl _) zt
theorem rO_ {σ τ:Type} {l b:Nat} {e:σ->Hp} {o:τ->Hp} {stp:Con->σ->σ ⊕ τ} {E:List Fct} {good:Con->Prop} (d:∀ c p,good c->p∈c.parts->good p)
    (y:∀ s x,x.ok->good x->jY_ prog l x.val (e s) (x.memF::E) (λ_:Unit=>.bool (stp x s).isLeft) (λ_=>pJ_ e o (stp x s)) (λ_=>[]))
    (c:Con) (k:c.ok) (u:good c) (s:σ) :
    Tri prog 190 #[.func (.yield l) #[] #[],zp_ b 0] ((b,.cells c.cells.toArray 28 (0,0))::e s) (c.memF::E) (λ_:Unit=>.tuple #[]) (λ_=>(b,.cells c.cells.toArray 28 (0,0))::pJ_ e o (Con.fold stp c s)) (λ_=>[]):=by
  refine l_ func190 rfl rfl ntmps190 rfl λA=>?_;refine S_ (c_ (dD_ (c:=c) 0 H_ i_ rfl rfl) rfl (Zz 1 ?_));refine d_ (Bp_ d y _ c (yab_ _) k u s _ rfl) rfl (@List.perm_append_comm _ [_] _) (λv _ h=>h) rfl λ_=>Zz 2 ?_
  exact end0 results190 () rfl (F:=[]) zbl_ zt
theorem oO_ {G:Prop} (h:G:=by
 exact tq_ (G:=[_,_,_]) () (λa v y u=>by rw[<-P];exact pi_ 1 results115 isAgg35 rfl rfl a v y u) (gC_ (i:=3) rfl) ⟨_,.refl _⟩ rfl):G:=h
theorem fE_ (c:Con) (I:c.ok):Tri prog 115 #[c.val] [] [c.memF,cy_] (λ_:Unit=>i4_ c.check) (λ_=>[]) (λ_=>[]):=by
 obtain⟨k,nm,lo,hi,ad,cap,ps⟩:=c;refine eJ_ func115 rfl rfl ntmps115 rfl λC=>?_;refine Zz 2 ?_;refine Q_ rfl rfl λX=>K_ zeroValue35 rfl λd=>Zz 4 ?_
 refine K_ bQ_ rfl λR=>o_ 0 af_ rfl rfl rfl rfl rfl rfl (Zz 6 ?_)
 refine pv_ 0 (fits_c _ (.mk k nm lo hi ad cap ps) (yab_ _) I 0 0 R zaa_ zaa_ _ rfl) rfl rfl zf rfl λO S=>c_ (aI_ rfl) rfl (Zz 2 ?_)
 cases O
 .refine Zz 3 ?_;refine o_ 1 sizeOf35 rfl rfl rfl rfl rfl rfl (Zz 3 ?_);exact retM () (λa v y u _=>by rw[pi_ 1 results115 isAgg35 rfl rfl a v y u];simp[Con.check, *]) (.refl _) zt
 refine Zz 7 ?_;refine d_ (uO_ (.mk k nm lo hi ad cap ps)) rfl (.refl _) zt rfl λb=>Zz 3 ?_
 refine bc_ [(2,zp_ d 0),(10,.func (.func 190) #[] #[zp_ b 0])] zl ?_;refine em_ (H':=[_,_]) (F:=[_,_]) (.cons _ (.swap _ _ _)) zh ?_;let Pu:Nat×Obj:=(d,.cells #[i4_ 0] 35 (0,0));refine qJ_ (α:={c:Con // c.ok}) (xv:=λx=>x.1.val) (good:=λ_=>True) (stp:=λx=>Con.chk x.1) (Γx:=λx=>[x.1.memF,cy_]) (Γi:=[Con.memF (.mk k nm lo hi ad cap ps),cy_]) (Hj:=λ_:Unit=>[Pu]) (Hx:=λt:Int=>[(d,.cells #[i4_ t] 35 (0,0))]) (Hc:=[(b,.cells (Con.mk k nm lo hi ad cap ps).cells.toArray 28 (0,0))]) (caps:=[zp_ b 0]) () (Con.fold Con.chk (.mk k nm lo hi ad cap ps) ()) rfl (.refl _) (λv _ h=>h) ?_ ?_ ?_ ?_
 .rintro l D Y V K J T H B s ⟨x,Q⟩ -
  refine kM_ (ι:=Nat) (Hj:=λ_:Unit=>[Pu]) (Hx:=λt:Int=>[(d,.cells #[i4_ t] 35 (0,0))]) (s:=s) (res:=Con.chk x s) (Γ:=[x.memF,cy_]) (λo=>[(2,zp_ d 0),(4,zp_ o 0)]) (λo=>[(o,.cells x.cells.toArray 28 (0,0)),Pu]) V K J T rfl ?_ ?_
  .intro n C L W
   rw[H];refine aR_ ?_;refine pw_ (aa_ _) ay_ rfl λo=>?_;refine tM_ (aa_ _) 0 i_ rfl rfl rfl rfl ?_;refine bK_ ?_;refine cL_ rfl ?_;exact eg_ o zl (F:=[]) zaS_ zh
  intro n C L W o;rw[B];refine dZ_ ?_;refine cZ_ ?_;refine aR_ ?_;refine Z_ (aa_ _) (dD_ 0 H_ i_ rfl rfl) rfl rfl ?_;refine yg_ (qp_ x Q) rfl (.refl _) zf rfl λ_=>?_;refine Z_ (aa_ _) (X_ rfl) rfl rfl ?_;refine bK_ ?_;refine cm_ rfl ?_;refine cZ_ ?_;refine aR_ ?_;refine Z_ (aa_ _) (P_ rfl) rfl rfl ?_;refine qV_ (aa_ _) (cP_ rfl rfl) rfl rfl λM e=>?_;refine bK_ ?_;refine cm_ rfl ?_;cases M
  .replace e:=de_ e
   refine oe_ rfl ?_;refine mB_ ?_;refine cL_ rfl ?_;exact fP_ () (by simp[Con.chk, *]) (G:=[_]) (@List.perm_append_comm _ [_] _)
  replace e:=dd_ e;refine gf_ rfl ?_;refine cZ_ ?_;refine aR_ ?_;refine Z_ (aa_ _) (P_ rfl) rfl rfl ?_;refine eD_ (aa_ _) 1 sizeOf35 rfl rfl rfl rfl rfl rfl ?_;refine bK_ ?_;refine cm_ rfl ?_;refine hH_ ?_;exact xD_ x.fieldErr (by simp[Con.chk, *]) (G:=[_]) (@List.perm_append_comm _ [_] _)
 .intro l Gj Z U
  exact rO_ (E:=[cy_]) (good:=λ_=>True) (λ_ _ _ _=>trivial) (λs x Q _=>U s ⟨x,Q⟩ trivial) _ I trivial ()
 .intro s A D l r
  rw[Con.fold_chk _ _ (yab_ _)]at A;refine cm_ rfl ?_;refine cZ_ ?_;refine aR_ ?_;refine eD_ bh_ 1 sizeOf35 rfl rfl rfl rfl rfl rfl ?_;refine bK_ ?_;refine cm_ rfl ?_;refine hH_ ?_;have P:(0:Int)=(Con.mk k nm lo hi ad cap ps).check:=by unfold Con.check;rw[yax_ zar_];split at A;(rename_i h;exact h.symm);cases A
  exact oO_
 intro t A D l r;rw[Con.fold_chk _ _ (yab_ _)]at A;have P:t=(Con.mk k nm lo hi ad cap ps).check:=by unfold Con.check;rw[yax_ zar_];split at A;cases A;injection A with A;exact A.symm
 exact oO_
end Go.Proofs.YtbffkokbdeppaaaGreatDoor
