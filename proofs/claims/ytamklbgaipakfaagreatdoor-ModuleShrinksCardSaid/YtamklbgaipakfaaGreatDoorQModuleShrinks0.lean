/-
  Part of the proof of the law ModuleShrinks over this seat: short names for closed facts on the program (no condition).
-/
import Derived.Lib.ItoaMem
import Derived.Laws.IdiomStrings
import Derived.Shelf.SlSortCmp.NoneTotal
import Derived.Test.YtamklbgaipakfaaGreatDoorProg
namespace Go.Proofs.YtamklbgaipakfaaGreatDoor
open Go
abbrev zp_ (b o : Nat) : Value := .pointer (some ⟨b, o, none⟩)
abbrev f_ := @Tryz.sizeOf48
abbrev g_ := @Tryz.sizeOf46
abbrev s_ := @Tryz.runUnderlying22
abbrev t_ := @Tryz.runUnderlying23
abbrev w_ := @Tryz.underlying3
abbrev x_ := @Tryz.runUnderlying54
abbrev D_ := @Tryz.runUnderlying44
abbrev F_ := @Tryz.runUnderlying139
abbrev I_ := @Tryz.runUnderlying27
abbrev K_ := @Tryz.isAgg48
abbrev M_ := @Tryz.runUnderlying221
abbrev R_ := @Tryz.isAgg46
abbrev T_ := @Tryz.results65
abbrev U_ := @Tryz.sizeOf3
abbrev aa_ := @Tryz.sizeOf223
abbrev ah_ := @Tryz.sizeOf9
abbrev aj_ := @Tryz.runUnderlying9
abbrev ao_ := @Tryz.zeroValue58
abbrev av_ := @Tryz.zeroValue48
abbrev aw_ := @Tryz.sizeOf58
abbrev aB_ := @Tryz.sizeOf83
abbrev aC_ := @Tryz.zeroValue46
abbrev aE_ := @Tryz.zeroValue83
abbrev aF_ := @Tryz.results48
abbrev aH_ := @Tryz.results275
abbrev aK_ := @Tryz.zeroValue9
abbrev aL_ := @Tryz.isAgg9
abbrev aU_ := @Tryz.zeroValue3
abbrev aZ_ := @Tryz.isAgg3
abbrev bd_ := @Tryz.runUnderlying37
abbrev bl_ := @Tryz.sizeOf37
abbrev bo_ := @Tryz.runUnderlying48
abbrev bw_ := @Tryz.runUnderlying178
abbrev bJ_ := @Tryz.runUnderlying307
abbrev bK_ := @Tryz.runUnderlying228
abbrev bL_ := @Tryz.runUnderlying114
abbrev bS_ := @Tryz.runUnderlying58
abbrev bZ_ := @Tryz.zeroValue223
abbrev cb_ := @Tryz.runUnderlying305
abbrev cc_ := @Tryz.runUnderlying303
abbrev cd_ := @Tryz.runUnderlying235
abbrev ce_ := @Tryz.runUnderlying231
abbrev cf_ := @Tryz.runUnderlying223
abbrev cg_ := @Tryz.sizeOf150
abbrev cj_ := @Tryz.sizeOf4
abbrev cm_ := @Tryz.underlying9
abbrev cn_ := @Tryz.runUnderlying94
abbrev co_ := @Tryz.runUnderlying46
abbrev cA_ := @Tryz.results78
abbrev cI_ := @Tryz.runUnderlying302
abbrev cJ_ := @Tryz.runUnderlying287
abbrev cK_ := @Tryz.runUnderlying165
abbrev cL_ := @Tryz.runUnderlying163
abbrev cM_ := @Tryz.runUnderlying150
abbrev cQ_ := @Tryz.zeroValue37
abbrev cX_ := @Tryz.isAgg223
abbrev dt_ := @Tryz.zeroValue67
abbrev dx_ := @Tryz.results87
abbrev dB_ := @Tryz.runUnderlying236
abbrev dC_ := @Tryz.runUnderlying184
abbrev dJ_ := @Tryz.runUnderlying59
abbrev ee_ := @Tryz.results88
abbrev ef_ := @Tryz.results67
abbrev eg_ := @Tryz.results58
abbrev eH_ := @Tryz.results205
abbrev eK_ := @Tryz.sizeOf67
abbrev eO_ := @Tryz.zeroValue184
abbrev fa_ := @Tryz.sizeOf235
abbrev fc_ := @Tryz.results50
abbrev fx_ := @Tryz.sizeOf54
abbrev fy_ := @Tryz.sizeOf22
abbrev fL_ := @Tryz.zeroValue4
abbrev fM_ := @Tryz.results188
abbrev gq_ := @Tryz.underlying58
abbrev gv_ := @Tryz.sizeOf163
abbrev gz_ := @Tryz.results19
abbrev gE_ := @Tryz.isAgg37
abbrev hc_ := @Tryz.runUnderlying238
abbrev hd_ := @Tryz.runUnderlying237
abbrev hG_ := @Tryz.results4
abbrev hH_ := @Tryz.isAgg170
abbrev iz_ := @Tryz.results203
abbrev iA_ := @Tryz.results178
abbrev jn_ := @Tryz.isAgg22
abbrev jZ_ := @Tryz.results94
abbrev ka_ := @Tryz.results21
abbrev kU_ := @Tryz.zeroValue235
abbrev mw_ := @Tryz.isAgg109
abbrev po_ := @Tryz.isAgg54
abbrev pT_ := @Tryz.results274
abbrev pU_ := @Tryz.results110
abbrev qX_ := @Tryz.runUnderlying151
abbrev qY_ := @Tryz.runUnderlying137
abbrev su_ := @Tryz.sizeOf238
abbrev tj_ := @Tryz.isAgg4
abbrev vb_ := @Tryz.sizeOf23
abbrev vf_ := @Tryz.isAgg150
end Go.Proofs.YtamklbgaipakfaaGreatDoor
