/- A symbolic machine for Go code over plain data, and functions of the program as it shows them. No statement is proved in this file. -/
import Derived.Test.YtohjofabochgfaaGreatProg
import Derived.KernelRfl
import Derived.Laws.Externs
import Derived.Lib.Mul64
import Derived.Test.YtohjofabochgfaaGreatXb
set_option linter.unusedSimpArgs false
set_option linter.unusedVariables false
set_option linter.unusedSectionVars false

namespace Go.Proofs.YtohjofabochgfaaGreat
open Sx Go
set_option maxRecDepth 100000
def aBH:TI:=⟨1,8,.other,[.bT],none⟩
theorem aHq:bm Tryz.prog 1 aBH:=by apply ak<;>first|exact trivial|kernel_rfl
def aBG:TI:=⟨1,8,.int .i64,[.int 0],some .int⟩
theorem aHp:bm Tryz.prog 2 aBG:=by apply ak<;>first|exact⟨by kernel_rfl,by kernel_rfl,by kernel_rfl⟩|kernel_rfl
def aBF:TI:=⟨1,8,.int .i64,[.int 0],some .int⟩
theorem aHo:bm Tryz.prog 3 aBF:=by apply ak<;>first|exact⟨by kernel_rfl,by kernel_rfl,by kernel_rfl⟩|kernel_rfl
def aBE:TI:=⟨1,1,.bool,[.bool false],some .bool⟩
theorem aHn:bm Tryz.prog 4 aBE:=by apply ak<;>first|exact⟨by kernel_rfl,by kernel_rfl,by kernel_rfl⟩|kernel_rfl
def aBD:TI:=⟨1,1,.int .u8,[.u8 0],some .u8⟩
theorem aHm:bm Tryz.prog 5 aBD:=by apply ak<;>first|exact⟨by kernel_rfl,by kernel_rfl,by kernel_rfl⟩|kernel_rfl
def aBC:TI:=⟨1,1,.int .u8,[.u8 0],some .u8⟩
theorem aHl:bm Tryz.prog 6 aBC:=by apply ak<;>first|exact⟨by kernel_rfl,by kernel_rfl,by kernel_rfl⟩|kernel_rfl
def aBB:TI:=⟨4,24,.struct [(0,2),(1,3),(2,4),(3,6)],[.int 0,.int 0,.bool false,.u8 0],some (.prod .int (.prod .int (.prod .bool .u8)))⟩
theorem aHk:bm Tryz.prog 7 aBB:=by apply ak<;>first|exact⟨by kernel_rfl,by kernel_rfl,by kernel_rfl⟩|kernel_rfl
def aBA:TI:=⟨4,24,.struct [(0,2),(1,3),(2,4),(3,6)],[.int 0,.int 0,.bool false,.u8 0],some (.prod .int (.prod .int (.prod .bool .u8)))⟩
theorem aHj:bm Tryz.prog 8 aBA:=by apply ak<;>first|exact⟨by kernel_rfl,by kernel_rfl,by kernel_rfl⟩|kernel_rfl
def aBz:TI:=⟨1,16,.str,[.str []],some .str⟩
theorem aHi:bm Tryz.prog 9 aBz:=by apply ak<;>first|exact⟨by kernel_rfl,by kernel_rfl,by kernel_rfl⟩|kernel_rfl
def aq0:TI:=⟨1,16,.str,[.str []],some .str⟩
theorem aD6:bm Tryz.prog 10 aq0:=by apply ak<;>first|exact⟨by kernel_rfl,by kernel_rfl,by kernel_rfl⟩|kernel_rfl
def aqZ:TI:=⟨1,16,.str,[.str []],some .str⟩
theorem aD5:bm Tryz.prog 11 aqZ:=by apply ak<;>first|exact⟨by kernel_rfl,by kernel_rfl,by kernel_rfl⟩|kernel_rfl
def aqY:TI:=⟨1,8,.int .u64,[.u64 0],some .u64⟩
theorem aD4:bm Tryz.prog 12 aqY:=by apply ak<;>first|exact⟨by kernel_rfl,by kernel_rfl,by kernel_rfl⟩|kernel_rfl
def aqX:TI:=⟨1,8,.ptr [("Error",183),("RuntimeError",184)],[.qL],none⟩
theorem aD3:bm Tryz.prog 15 aqX:=by apply ak<;>first|exact trivial|kernel_rfl
def aqW:TI:=⟨1,8,.ptr [("Error",185),("RuntimeError",186)],[.qL],none⟩
theorem aD2:bm Tryz.prog 16 aqW:=by apply ak<;>first|exact trivial|kernel_rfl
def aqV:TI:=⟨1,8,.ptr [("Align",187)],[.qL],none⟩
theorem aD1:bm Tryz.prog 17 aqV:=by apply ak<;>first|exact trivial|kernel_rfl
def aqU:TI:=⟨1,16,.iface,[.eA],none⟩
theorem aD0:bm Tryz.prog 20 aqU:=by apply ak<;>first|exact trivial|kernel_rfl
def aqT:TI:=⟨1,4,.int .i32,[.bT],none⟩
theorem aDZ:bm Tryz.prog 21 aqT:=by apply ak<;>first|exact trivial|kernel_rfl
def aqS:TI:=⟨1,24,.slice 41,[.emp],some (.list .elem)⟩
theorem aDY:bm Tryz.prog 22 aqS:=by apply ak<;>first|exact⟨by kernel_rfl,by kernel_rfl,by kernel_rfl⟩|kernel_rfl
def aqR:TI:=⟨2,32,.struct [(0,3),(1,22)],[.int 0,.emp],some (.prod .int (.list .elem))⟩
theorem aDX:bm Tryz.prog 23 aqR:=by apply ak<;>first|exact⟨by kernel_rfl,by kernel_rfl,by kernel_rfl⟩|kernel_rfl
def aqQ:TI:=⟨2,32,.struct [(0,3),(1,22)],[.int 0,.emp],some (.prod .int (.list .elem))⟩
theorem aDW:bm Tryz.prog 24 aqQ:=by apply ak<;>first|exact⟨by kernel_rfl,by kernel_rfl,by kernel_rfl⟩|kernel_rfl
def aqP:TI:=⟨1,24,.slice 5,[.emp],some (.list .u8)⟩
theorem aDV:bm Tryz.prog 25 aqP:=by apply ak<;>first|exact⟨by kernel_rfl,by kernel_rfl,by kernel_rfl⟩|kernel_rfl
def aqO:TI:=⟨1,24,.slice 45,[.emp],some (.list (.prod .int (.prod .elem (.prod .elem (.prod .elem .bool)))))⟩
theorem aDU:bm Tryz.prog 26 aqO:=by apply ak<;>first|exact⟨by kernel_rfl,by kernel_rfl,by kernel_rfl⟩|kernel_rfl
def aqN:TI:=⟨1,8,.other,[.bT],none⟩
theorem aDT:bm Tryz.prog 27 aqN:=by apply ak<;>first|exact trivial|kernel_rfl
def aqM:TI:=⟨1,8,.other,[.bT],none⟩
theorem aDS:bm Tryz.prog 28 aqM:=by apply ak<;>first|exact trivial|kernel_rfl
def aqL:TI:=⟨1,8,.ptr [("Point",20),("Rest",25),("Scalar",22)],[.qL],none⟩
theorem aDR:bm Tryz.prog 29 aqL:=by apply ak<;>first|exact trivial|kernel_rfl
def aqK:TI:=⟨1,8,.int .i64,[.int 0],some .int⟩
theorem aDQ:bm Tryz.prog 30 aqK:=by apply ak<;>first|exact⟨by kernel_rfl,by kernel_rfl,by kernel_rfl⟩|kernel_rfl
def aqJ:TI:=⟨1,8,.other,[.bT],none⟩
theorem aDP:bm Tryz.prog 32 aqJ:=by apply ak<;>first|exact trivial|kernel_rfl
def aqI:TI:=⟨1,8,.other,[.bT],none⟩
theorem aDO:bm Tryz.prog 33 aqI:=by apply ak<;>first|exact trivial|kernel_rfl
def aqH:TI:=⟨6,96,.struct [(0,3),(1,24),(3,25),(4,3),(5,25)],[.int 0,.int 0,.emp,.emp,.int 0,.emp],some (.prod .int (.prod (.prod .int (.list .elem)) (.prod (.list .u8) (.prod .int (.list .u8)))))⟩
theorem aDN:bm Tryz.prog 34 aqH:=by apply ak<;>first|exact⟨by kernel_rfl,by kernel_rfl,by kernel_rfl⟩|kernel_rfl
def aqG:TI:=⟨6,96,.struct [(0,3),(1,24),(3,25),(4,3),(5,25)],[.int 0,.int 0,.emp,.emp,.int 0,.emp],some (.prod .int (.prod (.prod .int (.list .elem)) (.prod (.list .u8) (.prod .int (.list .u8)))))⟩
theorem aDM:bm Tryz.prog 35 aqG:=by apply ak<;>first|exact⟨by kernel_rfl,by kernel_rfl,by kernel_rfl⟩|kernel_rfl
def aqF:TI:=⟨1,8,.other,[.bT],none⟩
theorem aDL:bm Tryz.prog 37 aqF:=by apply ak<;>first|exact trivial|kernel_rfl
def aqE:TI:=⟨1,8,.other,[.bT],none⟩
theorem aDK:bm Tryz.prog 38 aqE:=by apply ak<;>first|exact trivial|kernel_rfl
def aqD:TI:=⟨1,8,.int .u64,[.u64 0],some .u64⟩
theorem aDJ:bm Tryz.prog 39 aqD:=by apply ak<;>first|exact⟨by kernel_rfl,by kernel_rfl,by kernel_rfl⟩|kernel_rfl
def aqC:TI:=⟨4,32,.array 4 39,[.u64 0,.u64 0,.u64 0,.u64 0],some .elem⟩
theorem aDI:bm Tryz.prog 40 aqC:=by apply ak<;>first|exact⟨by kernel_rfl,by kernel_rfl,by kernel_rfl⟩|kernel_rfl
def aqB:TI:=⟨4,32,.array 4 39,[.u64 0,.u64 0,.u64 0,.u64 0],some .elem⟩
theorem aDH:bm Tryz.prog 41 aqB:=by apply ak<;>first|exact⟨by kernel_rfl,by kernel_rfl,by kernel_rfl⟩|kernel_rfl
def aqA:TI:=⟨9,72,.struct [(0,41),(4,41),(8,4)],[.u64 0,.u64 0,.u64 0,.u64 0,.u64 0,.u64 0,.u64 0,.u64 0,.bool false],some (.prod .elem (.prod .elem .bool))⟩
theorem aDG:bm Tryz.prog 42 aqA:=by apply ak<;>first|exact⟨by kernel_rfl,by kernel_rfl,by kernel_rfl⟩|kernel_rfl
def aqz:TI:=⟨9,72,.struct [(0,41),(4,41),(8,4)],[.u64 0,.u64 0,.u64 0,.u64 0,.u64 0,.u64 0,.u64 0,.u64 0,.bool false],some (.prod .elem (.prod .elem .bool))⟩
theorem aDF:bm Tryz.prog 43 aqz:=by apply ak<;>first|exact⟨by kernel_rfl,by kernel_rfl,by kernel_rfl⟩|kernel_rfl
def aqy:TI:=⟨14,112,.struct [(0,3),(1,41),(5,43)],[.int 0,.u64 0,.u64 0,.u64 0,.u64 0,.u64 0,.u64 0,.u64 0,.u64 0,.u64 0,.u64 0,.u64 0,.u64 0,.bool false],some (.prod .int (.prod .elem (.prod .elem (.prod .elem .bool))))⟩
theorem aDE:bm Tryz.prog 44 aqy:=by apply ak<;>first|exact⟨by kernel_rfl,by kernel_rfl,by kernel_rfl⟩|kernel_rfl
def aqx:TI:=⟨14,112,.struct [(0,3),(1,41),(5,43)],[.int 0,.u64 0,.u64 0,.u64 0,.u64 0,.u64 0,.u64 0,.u64 0,.u64 0,.u64 0,.u64 0,.u64 0,.u64 0,.bool false],some (.prod .int (.prod .elem (.prod .elem (.prod .elem .bool))))⟩
theorem aDD:bm Tryz.prog 45 aqx:=by apply ak<;>first|exact⟨by kernel_rfl,by kernel_rfl,by kernel_rfl⟩|kernel_rfl
def aqw:TI:=⟨1,8,.other,[.bT],none⟩
theorem aDC:bm Tryz.prog 46 aqw:=by apply ak<;>first|exact trivial|kernel_rfl
def aqv:TI:=⟨1,16,.iface,[.eA],none⟩
theorem aDB:bm Tryz.prog 47 aqv:=by apply ak<;>first|exact trivial|kernel_rfl
def aqu:TI:=⟨1,16,.iface,[.eA],none⟩
theorem aDA:bm Tryz.prog 48 aqu:=by apply ak<;>first|exact trivial|kernel_rfl
def aqt:TI:=⟨2,24,.struct [(0,3),(1,48)],[.int 0,.eA],none⟩
theorem aDz:bm Tryz.prog 49 aqt:=by apply ak<;>first|exact trivial|kernel_rfl
def aqs:TI:=⟨2,24,.struct [(0,3),(1,48)],[.int 0,.eA],none⟩
theorem aDy:bm Tryz.prog 50 aqs:=by apply ak<;>first|exact trivial|kernel_rfl
def aqr:TI:=⟨3,48,.struct [(0,50),(2,25)],[.int 0,.eA,.emp],none⟩
theorem aDx:bm Tryz.prog 51 aqr:=by apply ak<;>first|exact trivial|kernel_rfl
def aqq:TI:=⟨3,48,.struct [(0,50),(2,25)],[.int 0,.eA,.emp],none⟩
theorem aDw:bm Tryz.prog 52 aqq:=by apply ak<;>first|exact trivial|kernel_rfl
def aqp:TI:=⟨1,8,.other,[.bT],none⟩
theorem aDv:bm Tryz.prog 53 aqp:=by apply ak<;>first|exact trivial|kernel_rfl
def aqo:TI:=⟨1,8,.other,[.bT],none⟩
theorem aDu:bm Tryz.prog 55 aqo:=by apply ak<;>first|exact trivial|kernel_rfl
def aqn:TI:=⟨1,8,.other,[.bT],none⟩
theorem aDt:bm Tryz.prog 57 aqn:=by apply ak<;>first|exact trivial|kernel_rfl
def aqm:TI:=⟨1,8,.other,[.bT],none⟩
theorem aDs:bm Tryz.prog 59 aqm:=by apply ak<;>first|exact trivial|kernel_rfl
def aql:TI:=⟨1,8,.other,[.bT],none⟩
theorem aDr:bm Tryz.prog 61 aql:=by apply ak<;>first|exact trivial|kernel_rfl
def aqk:TI:=⟨1,8,.other,[.bT],none⟩
theorem aDq:bm Tryz.prog 62 aqk:=by apply ak<;>first|exact trivial|kernel_rfl
def aqj:TI:=⟨1,8,.other,[.bT],none⟩
theorem aDp:bm Tryz.prog 63 aqj:=by apply ak<;>first|exact trivial|kernel_rfl
def aqi:TI:=⟨1,8,.other,[.bT],none⟩
theorem aDo:bm Tryz.prog 64 aqi:=by apply ak<;>first|exact trivial|kernel_rfl
def aqh:TI:=⟨1,8,.other,[.bT],none⟩
theorem aDn:bm Tryz.prog 65 aqh:=by apply ak<;>first|exact trivial|kernel_rfl
def aqg:TI:=⟨1,8,.other,[.bT],none⟩
theorem aDm:bm Tryz.prog 66 aqg:=by apply ak<;>first|exact trivial|kernel_rfl
def aqf:TI:=⟨1,24,.slice 43,[.emp],some (.list (.prod .elem (.prod .elem .bool)))⟩
theorem aDl:bm Tryz.prog 67 aqf:=by apply ak<;>first|exact⟨by kernel_rfl,by kernel_rfl,by kernel_rfl⟩|kernel_rfl
def aqe:TI:=⟨21,184,.struct [(0,3),(1,3),(2,67),(3,43),(12,43)],[.int 0,.int 0,.emp,.u64 0,.u64 0,.u64 0,.u64 0,.u64 0,.u64 0,.u64 0,.u64 0,.bool false,.u64 0,.u64 0,.u64 0,.u64 0,.u64 0,.u64 0,.u64 0,.u64 0,.bool false],some (.prod .int (.prod .int (.prod (.list (.prod .elem (.prod .elem .bool))) (.prod (.prod .elem (.prod .elem .bool)) (.prod .elem (.prod .elem .bool))))))⟩
theorem aDk:bm Tryz.prog 68 aqe:=by apply ak<;>first|exact⟨by kernel_rfl,by kernel_rfl,by kernel_rfl⟩|kernel_rfl
def aqd:TI:=⟨21,184,.struct [(0,3),(1,3),(2,67),(3,43),(12,43)],[.int 0,.int 0,.emp,.u64 0,.u64 0,.u64 0,.u64 0,.u64 0,.u64 0,.u64 0,.u64 0,.bool false,.u64 0,.u64 0,.u64 0,.u64 0,.u64 0,.u64 0,.u64 0,.u64 0,.bool false],some (.prod .int (.prod .int (.prod (.list (.prod .elem (.prod .elem .bool))) (.prod (.prod .elem (.prod .elem .bool)) (.prod .elem (.prod .elem .bool))))))⟩
theorem aDj:bm Tryz.prog 69 aqd:=by apply ak<;>first|exact⟨by kernel_rfl,by kernel_rfl,by kernel_rfl⟩|kernel_rfl
def aqc:TI:=⟨1,8,.other,[.bT],none⟩
theorem aDi:bm Tryz.prog 71 aqc:=by apply ak<;>first|exact trivial|kernel_rfl
def aqb:TI:=⟨1,8,.other,[.bT],none⟩
theorem aDh:bm Tryz.prog 72 aqb:=by apply ak<;>first|exact trivial|kernel_rfl
def aqa:TI:=⟨1,8,.other,[.bT],none⟩
theorem aDg:bm Tryz.prog 73 aqa:=by apply ak<;>first|exact trivial|kernel_rfl
def ap9:TI:=⟨1,8,.other,[.bT],none⟩
theorem aDf:bm Tryz.prog 74 ap9:=by apply ak<;>first|exact trivial|kernel_rfl
def ap8:TI:=⟨1,8,.other,[.bT],none⟩
theorem aDe:bm Tryz.prog 75 ap8:=by apply ak<;>first|exact trivial|kernel_rfl
def ap7:TI:=⟨1,8,.other,[.bT],none⟩
theorem aDd:bm Tryz.prog 76 ap7:=by apply ak<;>first|exact trivial|kernel_rfl
def ap6:TI:=⟨1,8,.other,[.bT],none⟩
theorem aDc:bm Tryz.prog 77 ap6:=by apply ak<;>first|exact trivial|kernel_rfl
def ap5:TI:=⟨1,8,.other,[.bT],none⟩
theorem aDb:bm Tryz.prog 78 ap5:=by apply ak<;>first|exact trivial|kernel_rfl
def ap4:TI:=⟨1,8,.other,[.bT],none⟩
theorem aDa:bm Tryz.prog 79 ap4:=by apply ak<;>first|exact trivial|kernel_rfl
def ap3:TI:=⟨1,8,.other,[.bT],none⟩
theorem aC9:bm Tryz.prog 80 ap3:=by apply ak<;>first|exact trivial|kernel_rfl
def ap2:TI:=⟨1,8,.other,[.bT],none⟩
theorem aC8:bm Tryz.prog 81 ap2:=by apply ak<;>first|exact trivial|kernel_rfl
def ap1:TI:=⟨1,8,.other,[.bT],none⟩
theorem aC7:bm Tryz.prog 82 ap1:=by apply ak<;>first|exact trivial|kernel_rfl
def ap0:TI:=⟨1,8,.other,[.bT],none⟩
theorem aC6:bm Tryz.prog 83 ap0:=by apply ak<;>first|exact trivial|kernel_rfl
def apZ:TI:=⟨1,8,.other,[.bT],none⟩
theorem aC5:bm Tryz.prog 84 apZ:=by apply ak<;>first|exact trivial|kernel_rfl
def apY:TI:=⟨1,8,.other,[.bT],none⟩
theorem aC4:bm Tryz.prog 85 apY:=by apply ak<;>first|exact trivial|kernel_rfl
def apX:TI:=⟨1,8,.int .u64,[.u64 0],some .u64⟩
theorem aC3:bm Tryz.prog 86 apX:=by apply ak<;>first|exact⟨by kernel_rfl,by kernel_rfl,by kernel_rfl⟩|kernel_rfl
def apW:TI:=⟨1,8,.ptr [("Bytes",50),("Scalar",49),("sigil/tape.say",88)],[.qL],none⟩
theorem aC2:bm Tryz.prog 87 apW:=by apply ak<;>first|exact trivial|kernel_rfl
def apV:TI:=⟨1,8,.other,[.bT],none⟩
theorem aC1:bm Tryz.prog 89 apV:=by apply ak<;>first|exact trivial|kernel_rfl
def apU:TI:=⟨3,48,.struct [(0,50),(2,25)],[.int 0,.eA,.emp],none⟩
theorem aC0:bm Tryz.prog 90 apU:=by apply ak<;>first|exact trivial|kernel_rfl
def apT:TI:=⟨3,48,.struct [(0,50),(2,25)],[.int 0,.eA,.emp],none⟩
theorem aCZ:bm Tryz.prog 91 apT:=by apply ak<;>first|exact trivial|kernel_rfl
def apS:TI:=⟨1,8,.other,[.bT],none⟩
theorem aCY:bm Tryz.prog 92 apS:=by apply ak<;>first|exact trivial|kernel_rfl
def apR:TI:=⟨1,8,.other,[.bT],none⟩
theorem aCX:bm Tryz.prog 94 apR:=by apply ak<;>first|exact trivial|kernel_rfl
def apQ:TI:=⟨1,8,.ptr [("Challenge",24),("Curve",26),("Hear",17)],[.qL],none⟩
theorem aCW:bm Tryz.prog 95 apQ:=by apply ak<;>first|exact trivial|kernel_rfl
def apP:TI:=⟨1,8,.other,[.bT],none⟩
theorem aCV:bm Tryz.prog 96 apP:=by apply ak<;>first|exact trivial|kernel_rfl
def apO:TI:=⟨1,8,.other,[.bT],none⟩
theorem aCU:bm Tryz.prog 97 apO:=by apply ak<;>first|exact trivial|kernel_rfl
def apN:TI:=⟨1,8,.other,[.bT],none⟩
theorem aCT:bm Tryz.prog 98 apN:=by apply ak<;>first|exact trivial|kernel_rfl
def apM:TI:=⟨1,8,.other,[.bT],none⟩
theorem aCS:bm Tryz.prog 99 apM:=by apply ak<;>first|exact trivial|kernel_rfl
def ahY:TI:=⟨1,8,.other,[.bT],none⟩
theorem ayB:bm Tryz.prog 100 ahY:=by apply ak<;>first|exact trivial|kernel_rfl
def ahX:TI:=⟨1,8,.other,[.bT],none⟩
theorem ayA:bm Tryz.prog 101 ahX:=by apply ak<;>first|exact trivial|kernel_rfl
def ahW:TI:=⟨1,8,.other,[.bT],none⟩
theorem ayz:bm Tryz.prog 102 ahW:=by apply ak<;>first|exact trivial|kernel_rfl
def ahV:TI:=⟨1,8,.other,[.bT],none⟩
theorem ayy:bm Tryz.prog 103 ahV:=by apply ak<;>first|exact trivial|kernel_rfl
def ahU:TI:=⟨1,8,.other,[.bT],none⟩
theorem ayx:bm Tryz.prog 105 ahU:=by apply ak<;>first|exact trivial|kernel_rfl
def ahT:TI:=⟨1,8,.other,[.bT],none⟩
theorem ayw:bm Tryz.prog 106 ahT:=by apply ak<;>first|exact trivial|kernel_rfl
def ahS:TI:=⟨1,8,.other,[.bT],none⟩
theorem ayv:bm Tryz.prog 107 ahS:=by apply ak<;>first|exact trivial|kernel_rfl
def ahR:TI:=⟨1,8,.other,[.bT],none⟩
theorem ayu:bm Tryz.prog 108 ahR:=by apply ak<;>first|exact trivial|kernel_rfl
def ahQ:TI:=⟨1,8,.other,[.bT],none⟩
theorem ayt:bm Tryz.prog 109 ahQ:=by apply ak<;>first|exact trivial|kernel_rfl
def ahP:TI:=⟨1,8,.other,[.bT],none⟩
theorem ays:bm Tryz.prog 110 ahP:=by apply ak<;>first|exact trivial|kernel_rfl
def ahO:TI:=⟨13,104,.struct [(0,41),(4,43)],[.u64 0,.u64 0,.u64 0,.u64 0,.u64 0,.u64 0,.u64 0,.u64 0,.u64 0,.u64 0,.u64 0,.u64 0,.bool false],some (.prod .elem (.prod .elem (.prod .elem .bool)))⟩
theorem ayr:bm Tryz.prog 111 ahO:=by apply ak<;>first|exact⟨by kernel_rfl,by kernel_rfl,by kernel_rfl⟩|kernel_rfl
def ahN:TI:=⟨13,104,.struct [(0,41),(4,43)],[.u64 0,.u64 0,.u64 0,.u64 0,.u64 0,.u64 0,.u64 0,.u64 0,.u64 0,.u64 0,.u64 0,.u64 0,.bool false],some (.prod .elem (.prod .elem (.prod .elem .bool)))⟩
theorem ayq:bm Tryz.prog 112 ahN:=by apply ak<;>first|exact⟨by kernel_rfl,by kernel_rfl,by kernel_rfl⟩|kernel_rfl
def ahM:TI:=⟨1,24,.slice 112,[.emp],some (.list (.prod .elem (.prod .elem (.prod .elem .bool))))⟩
theorem ayp:bm Tryz.prog 113 ahM:=by apply ak<;>first|exact⟨by kernel_rfl,by kernel_rfl,by kernel_rfl⟩|kernel_rfl
def ahL:TI:=⟨1,8,.other,[.bT],none⟩
theorem ayo:bm Tryz.prog 114 ahL:=by apply ak<;>first|exact trivial|kernel_rfl
def ahK:TI:=⟨1,8,.other,[.bT],none⟩
theorem ayn:bm Tryz.prog 115 ahK:=by apply ak<;>first|exact trivial|kernel_rfl
def ahJ:TI:=⟨11,88,.struct [(0,41),(4,3),(5,39),(6,39),(7,41)],[.u64 0,.u64 0,.u64 0,.u64 0,.int 0,.u64 0,.u64 0,.u64 0,.u64 0,.u64 0,.u64 0],some (.prod .elem (.prod .int (.prod .u64 (.prod .u64 .elem))))⟩
theorem aym:bm Tryz.prog 116 ahJ:=by apply ak<;>first|exact⟨by kernel_rfl,by kernel_rfl,by kernel_rfl⟩|kernel_rfl
def ahI:TI:=⟨11,88,.struct [(0,41),(4,3),(5,39),(6,39),(7,41)],[.u64 0,.u64 0,.u64 0,.u64 0,.int 0,.u64 0,.u64 0,.u64 0,.u64 0,.u64 0,.u64 0],some (.prod .elem (.prod .int (.prod .u64 (.prod .u64 .elem))))⟩
theorem ayl:bm Tryz.prog 117 ahI:=by apply ak<;>first|exact⟨by kernel_rfl,by kernel_rfl,by kernel_rfl⟩|kernel_rfl
def ahH:TI:=⟨1,8,.other,[.bT],none⟩
theorem ayk:bm Tryz.prog 119 ahH:=by apply ak<;>first|exact trivial|kernel_rfl
def ahG:TI:=⟨1,8,.other,[.bT],none⟩
theorem ayj:bm Tryz.prog 120 ahG:=by apply ak<;>first|exact trivial|kernel_rfl
def ahF:TI:=⟨1,8,.other,[.bT],none⟩
theorem ayi:bm Tryz.prog 121 ahF:=by apply ak<;>first|exact trivial|kernel_rfl
def ahE:TI:=⟨1,8,.int .i64,[.int 0],some .int⟩
theorem ayh:bm Tryz.prog 122 ahE:=by apply ak<;>first|exact⟨by kernel_rfl,by kernel_rfl,by kernel_rfl⟩|kernel_rfl
def ahD:TI:=⟨1,8,.other,[.bT],none⟩
theorem ayg:bm Tryz.prog 123 ahD:=by apply ak<;>first|exact trivial|kernel_rfl
def ahC:TI:=⟨12,96,.struct [(0,41),(4,41),(8,41)],List.replicate 12 (.u64 0),some (.prod .elem (.prod .elem .elem))⟩
theorem ayf:bm Tryz.prog 124 ahC:=by apply ak<;>first|exact⟨by kernel_rfl,by kernel_rfl,by kernel_rfl⟩|kernel_rfl
def ahB:TI:=⟨12,96,.struct [(0,41),(4,41),(8,41)],List.replicate 12 (.u64 0),some (.prod .elem (.prod .elem .elem))⟩
theorem aye:bm Tryz.prog 125 ahB:=by apply ak<;>first|exact⟨by kernel_rfl,by kernel_rfl,by kernel_rfl⟩|kernel_rfl
def ahA:TI:=⟨1,8,.other,[.bT],none⟩
theorem ayd:bm Tryz.prog 126 ahA:=by apply ak<;>first|exact trivial|kernel_rfl
def ahz:TI:=⟨1,8,.other,[.bT],none⟩
theorem ayc:bm Tryz.prog 127 ahz:=by apply ak<;>first|exact trivial|kernel_rfl
def ahy:TI:=⟨1,8,.other,[.bT],none⟩
theorem ayb:bm Tryz.prog 128 ahy:=by apply ak<;>first|exact trivial|kernel_rfl
def ahx:TI:=⟨1,8,.other,[.bT],none⟩
theorem aya:bm Tryz.prog 129 ahx:=by apply ak<;>first|exact trivial|kernel_rfl
def ahw:TI:=⟨1,8,.other,[.bT],none⟩
theorem ax9:bm Tryz.prog 131 ahw:=by apply ak<;>first|exact trivial|kernel_rfl
def ahv:TI:=⟨1,8,.other,[.bT],none⟩
theorem ax8:bm Tryz.prog 132 ahv:=by apply ak<;>first|exact trivial|kernel_rfl
def ahu:TI:=⟨1,8,.ptr [("sigil/tape.next",191),("sigil/tape.take",192)],[.qL],none⟩
theorem ax7:bm Tryz.prog 133 ahu:=by apply ak<;>first|exact trivial|kernel_rfl
def aht:TI:=⟨1,24,.struct [(0,22)],[.emp],some (.list .elem)⟩
theorem ax6:bm Tryz.prog 134 aht:=by apply ak<;>first|exact⟨by kernel_rfl,by kernel_rfl,by kernel_rfl⟩|kernel_rfl
def ahs:TI:=⟨1,24,.struct [(0,22)],[.emp],some (.list .elem)⟩
theorem ax5:bm Tryz.prog 135 ahs:=by apply ak<;>first|exact⟨by kernel_rfl,by kernel_rfl,by kernel_rfl⟩|kernel_rfl
def ahr:TI:=⟨2,32,.struct [(0,3),(1,135)],[.int 0,.emp],some (.prod .int (.list .elem))⟩
theorem ax4:bm Tryz.prog 136 ahr:=by apply ak<;>first|exact⟨by kernel_rfl,by kernel_rfl,by kernel_rfl⟩|kernel_rfl
def ahq:TI:=⟨2,32,.struct [(0,3),(1,135)],[.int 0,.emp],some (.prod .int (.list .elem))⟩
theorem ax3:bm Tryz.prog 137 ahq:=by apply ak<;>first|exact⟨by kernel_rfl,by kernel_rfl,by kernel_rfl⟩|kernel_rfl
def ahp:TI:=⟨1,8,.ptr [("Sum",110),("Write",109)],[.qL],none⟩
theorem ax2:bm Tryz.prog 138 ahp:=by apply ak<;>first|exact trivial|kernel_rfl
def aho:TI:=⟨1,8,.other,[.bT],none⟩
theorem ax1:bm Tryz.prog 140 aho:=by apply ak<;>first|exact trivial|kernel_rfl
def ahn:TI:=⟨1,8,.ptr [("sigil/tape.next",194),("sigil/tape.take",195)],[.qL],none⟩
theorem ax0:bm Tryz.prog 141 ahn:=by apply ak<;>first|exact trivial|kernel_rfl
def ahm:TI:=⟨2,16,.struct [(0,3),(1,138)],[.int 0,.qL],none⟩
theorem axZ:bm Tryz.prog 142 ahm:=by apply ak<;>first|exact trivial|kernel_rfl
def ahl:TI:=⟨2,16,.struct [(0,3),(1,138)],[.int 0,.qL],none⟩
theorem axY:bm Tryz.prog 143 ahl:=by apply ak<;>first|exact trivial|kernel_rfl
def ahk:TI:=⟨1,8,.other,[.bT],none⟩
theorem axX:bm Tryz.prog 144 ahk:=by apply ak<;>first|exact trivial|kernel_rfl
def ahj:TI:=⟨1,8,.other,[.bT],none⟩
theorem axW:bm Tryz.prog 145 ahj:=by apply ak<;>first|exact trivial|kernel_rfl
def ahi:TI:=⟨1,8,.other,[.bT],none⟩
theorem axV:bm Tryz.prog 146 ahi:=by apply ak<;>first|exact trivial|kernel_rfl
def ahh:TI:=⟨1,8,.other,[.bT],none⟩
theorem axU:bm Tryz.prog 147 ahh:=by apply ak<;>first|exact trivial|kernel_rfl
def ahg:TI:=⟨8,64,.array 8 39,[.u64 0,.u64 0,.u64 0,.u64 0,.u64 0,.u64 0,.u64 0,.u64 0],some (.arr 8 .u64)⟩
theorem axT:bm Tryz.prog 148 ahg:=by apply ak<;>first|exact⟨by kernel_rfl,by kernel_rfl,by kernel_rfl⟩|kernel_rfl
def ahf:TI:=⟨1,8,.other,[.bT],none⟩
theorem axS:bm Tryz.prog 149 ahf:=by apply ak<;>first|exact trivial|kernel_rfl
def ahe:TI:=⟨1,8,.other,[.bT],none⟩
theorem axR:bm Tryz.prog 150 ahe:=by apply ak<;>first|exact trivial|kernel_rfl
def ahd:TI:=⟨1,8,.other,[.bT],none⟩
theorem axQ:bm Tryz.prog 151 ahd:=by apply ak<;>first|exact trivial|kernel_rfl
def ahc:TI:=⟨1,8,.other,[.bT],none⟩
theorem axP:bm Tryz.prog 152 ahc:=by apply ak<;>first|exact trivial|kernel_rfl
def ahb:TI:=⟨1,8,.other,[.bT],none⟩
theorem axO:bm Tryz.prog 153 ahb:=by apply ak<;>first|exact trivial|kernel_rfl
def aha:TI:=⟨1,8,.other,[.bT],none⟩
theorem axN:bm Tryz.prog 154 aha:=by apply ak<;>first|exact trivial|kernel_rfl
def ag9:TI:=⟨1,8,.other,[.bT],none⟩
theorem axM:bm Tryz.prog 155 ag9:=by apply ak<;>first|exact trivial|kernel_rfl
def ag8:TI:=⟨1,8,.ptr [("Add",115),("Scale",196),("Value",116)],[.qL],none⟩
theorem axL:bm Tryz.prog 156 ag8:=by apply ak<;>first|exact trivial|kernel_rfl
def ag7:TI:=⟨1,8,.other,[.bT],none⟩
theorem axK:bm Tryz.prog 158 ag7:=by apply ak<;>first|exact trivial|kernel_rfl
def ag6:TI:=⟨1,8,.other,[.bT],none⟩
theorem axJ:bm Tryz.prog 159 ag6:=by apply ak<;>first|exact trivial|kernel_rfl
def ag5:TI:=⟨1,8,.other,[.bT],none⟩
theorem axI:bm Tryz.prog 160 ag5:=by apply ak<;>first|exact trivial|kernel_rfl
def ag4:TI:=⟨1,8,.other,[.bT],none⟩
theorem axH:bm Tryz.prog 161 ag4:=by apply ak<;>first|exact trivial|kernel_rfl
def ag3:TI:=⟨1,8,.other,[.bT],none⟩
theorem axG:bm Tryz.prog 162 ag3:=by apply ak<;>first|exact trivial|kernel_rfl
def ag2:TI:=⟨11,104,.struct [(0,3),(1,148),(9,25),(10,39)],[.int 0,.u64 0,.u64 0,.u64 0,.u64 0,.u64 0,.u64 0,.u64 0,.u64 0,.emp,.u64 0],some (.prod .int (.prod (.arr 8 .u64) (.prod (.list .u8) .u64)))⟩
theorem axF:bm Tryz.prog 163 ag2:=by apply ak<;>first|exact⟨by kernel_rfl,by kernel_rfl,by kernel_rfl⟩|kernel_rfl
def ag1:TI:=⟨11,104,.struct [(0,3),(1,148),(9,25),(10,39)],[.int 0,.u64 0,.u64 0,.u64 0,.u64 0,.u64 0,.u64 0,.u64 0,.u64 0,.emp,.u64 0],some (.prod .int (.prod (.arr 8 .u64) (.prod (.list .u8) .u64)))⟩
theorem axE:bm Tryz.prog 164 ag1:=by apply ak<;>first|exact⟨by kernel_rfl,by kernel_rfl,by kernel_rfl⟩|kernel_rfl
def ag0:TI:=⟨16,16,.array 16 5,List.replicate 16 (.u8 0),some (.arr 16 .u8)⟩
theorem axD:bm Tryz.prog 165 ag0:=by apply ak<;>first|exact⟨by kernel_rfl,by kernel_rfl,by kernel_rfl⟩|kernel_rfl
def agZ:TI:=⟨1,8,.other,[.bT],none⟩
theorem axC:bm Tryz.prog 166 agZ:=by apply ak<;>first|exact trivial|kernel_rfl
def agY:TI:=⟨1,8,.other,[.bT],none⟩
theorem axB:bm Tryz.prog 168 agY:=by apply ak<;>first|exact trivial|kernel_rfl
def agX:TI:=⟨1,8,.other,[.bT],none⟩
theorem axA:bm Tryz.prog 170 agX:=by apply ak<;>first|exact trivial|kernel_rfl
def agW:TI:=⟨1,8,.other,[.bT],none⟩
theorem axz:bm Tryz.prog 171 agW:=by apply ak<;>first|exact trivial|kernel_rfl
def agV:TI:=⟨1,8,.other,[.bT],none⟩
theorem axy:bm Tryz.prog 172 agV:=by apply ak<;>first|exact trivial|kernel_rfl
def agU:TI:=⟨16,128,.array 16 39,List.replicate 16 (.u64 0),some (.arr 16 .u64)⟩
theorem axx:bm Tryz.prog 173 agU:=by apply ak<;>first|exact⟨by kernel_rfl,by kernel_rfl,by kernel_rfl⟩|kernel_rfl
def agT:TI:=⟨16,128,.array 16 3,List.replicate 16 (.int 0),some (.arr 16 .int)⟩
theorem axw:bm Tryz.prog 174 agT:=by apply ak<;>first|exact⟨by kernel_rfl,by kernel_rfl,by kernel_rfl⟩|kernel_rfl
def agS:TI:=⟨160,1280,.array 10 174,List.replicate 160 (.int 0),some (.arr 10 (.arr 16 .int))⟩
theorem axv:bm Tryz.prog 175 agS:=by apply ak<;>first|exact⟨by kernel_rfl,by kernel_rfl,by kernel_rfl⟩|kernel_rfl
def agR:TI:=⟨1,8,.other,[.bT],none⟩
theorem axu:bm Tryz.prog 176 agR:=by apply ak<;>first|exact trivial|kernel_rfl
def agQ:TI:=⟨1,8,.other,[.bT],none⟩
theorem axt:bm Tryz.prog 177 agQ:=by apply ak<;>first|exact trivial|kernel_rfl
def agP:TI:=⟨1,24,.slice 3,[.emp],some (.list .int)⟩
theorem axs:bm Tryz.prog 178 agP:=by apply ak<;>first|exact⟨by kernel_rfl,by kernel_rfl,by kernel_rfl⟩|kernel_rfl
def agO:TI:=⟨1,8,.other,[.bT],none⟩
theorem axr:bm Tryz.prog 179 agO:=by apply ak<;>first|exact trivial|kernel_rfl
def agN:TI:=⟨1,8,.other,[.bT],none⟩
theorem axq:bm Tryz.prog 180 agN:=by apply ak<;>first|exact trivial|kernel_rfl
def agM:TI:=⟨1,8,.other,[.bT],none⟩
theorem axp:bm Tryz.prog 181 agM:=by apply ak<;>first|exact trivial|kernel_rfl
def agL:TI:=⟨128,128,.array 128 5,List.replicate 128 (.u8 0),some (.arr 128 .u8)⟩
theorem axo:bm Tryz.prog 182 agL:=by apply ak<;>first|exact⟨by kernel_rfl,by kernel_rfl,by kernel_rfl⟩|kernel_rfl
def agK:TI:=⟨8,64,.array 2 41,[.u64 0,.u64 0,.u64 0,.u64 0,.u64 0,.u64 0,.u64 0,.u64 0],some (.arr 2 .elem)⟩
theorem axn:bm Tryz.prog 183 agK:=by apply ak<;>first|exact⟨by kernel_rfl,by kernel_rfl,by kernel_rfl⟩|kernel_rfl
def agJ:TI:=⟨1,8,.other,[.bT],none⟩
theorem axm:bm Tryz.prog 185 agJ:=by apply ak<;>first|exact trivial|kernel_rfl
def agI:TI:=⟨2,32,.struct [(0,3),(1,113)],[.int 0,.emp],some (.prod .int (.list (.prod .elem (.prod .elem (.prod .elem .bool)))))⟩
theorem axl:bm Tryz.prog 186 agI:=by apply ak<;>first|exact⟨by kernel_rfl,by kernel_rfl,by kernel_rfl⟩|kernel_rfl
def agH:TI:=⟨2,32,.struct [(0,3),(1,113)],[.int 0,.emp],some (.prod .int (.list (.prod .elem (.prod .elem (.prod .elem .bool)))))⟩
theorem axk:bm Tryz.prog 187 agH:=by apply ak<;>first|exact⟨by kernel_rfl,by kernel_rfl,by kernel_rfl⟩|kernel_rfl
def agG:TI:=⟨6,48,.array 6 39,[.u64 0,.u64 0,.u64 0,.u64 0,.u64 0,.u64 0],some (.arr 6 .u64)⟩
theorem axj:bm Tryz.prog 188 agG:=by apply ak<;>first|exact⟨by kernel_rfl,by kernel_rfl,by kernel_rfl⟩|kernel_rfl
def agF:TI:=⟨1,8,.other,[.bT],none⟩
theorem axi:bm Tryz.prog 189 agF:=by apply ak<;>first|exact trivial|kernel_rfl
def agE:TI:=⟨1,24,.slice 39,[.emp],some (.list .u64)⟩
theorem axh:bm Tryz.prog 190 agE:=by apply ak<;>first|exact⟨by kernel_rfl,by kernel_rfl,by kernel_rfl⟩|kernel_rfl
def agD:TI:=⟨1,16,.iface,[.eA],none⟩
theorem axg:bm Tryz.prog 191 agD:=by apply ak<;>first|exact trivial|kernel_rfl
def agC:TI:=⟨1,16,.iface,[.eA],none⟩
theorem axf:bm Tryz.prog 192 agC:=by apply ak<;>first|exact trivial|kernel_rfl
def agB:TI:=⟨1,8,.other,[.bT],none⟩
theorem axe:bm Tryz.prog 193 agB:=by apply ak<;>first|exact trivial|kernel_rfl
def agA:TI:=⟨4,32,.array 4 3,[.int 0,.int 0,.int 0,.int 0],some (.arr 4 .int)⟩
theorem axd:bm Tryz.prog 194 agA:=by apply ak<;>first|exact⟨by kernel_rfl,by kernel_rfl,by kernel_rfl⟩|kernel_rfl
def agz:TI:=⟨1,8,.other,[.bT],none⟩
theorem axc:bm Tryz.prog 195 agz:=by apply ak<;>first|exact trivial|kernel_rfl
def agy:TI:=⟨16,128,.array 16 39,List.replicate 16 (.u64 0),some (.arr 16 .u64)⟩
theorem axb:bm Tryz.prog 196 agy:=by apply ak<;>first|exact⟨by kernel_rfl,by kernel_rfl,by kernel_rfl⟩|kernel_rfl
def agx:TI:=⟨10,160,.array 10 9,List.replicate 10 (.str []),some (.arr 10 .str)⟩
theorem axa:bm Tryz.prog 197 agx:=by apply ak<;>first|exact⟨by kernel_rfl,by kernel_rfl,by kernel_rfl⟩|kernel_rfl
def agw:TI:=⟨1,8,.other,[.bT],none⟩
theorem aw9:bm Tryz.prog 198 agw:=by apply ak<;>first|exact trivial|kernel_rfl
def agv:TI:=⟨1,8,.other,[.bT],none⟩
theorem aw8:bm Tryz.prog 199 agv:=by apply ak<;>first|exact trivial|kernel_rfl
def agu:TI:=⟨1,8,.other,[.bT],none⟩
theorem aw7:bm Tryz.prog 200 agu:=by apply ak<;>first|exact trivial|kernel_rfl
def agt:TI:=⟨1,8,.other,[.bT],none⟩
theorem aw6:bm Tryz.prog 201 agt:=by apply ak<;>first|exact trivial|kernel_rfl
def ags:TI:=⟨1,8,.other,[.bT],none⟩
theorem aw5:bm Tryz.prog 202 ags:=by apply ak<;>first|exact trivial|kernel_rfl
def agr:TI:=⟨1,8,.other,[.bT],none⟩
theorem aw4:bm Tryz.prog 203 agr:=by apply ak<;>first|exact trivial|kernel_rfl
def agq:TI:=⟨1,8,.ptr [("sigil/blake.mix",159)],[.qL],none⟩
theorem aw3:bm Tryz.prog 204 agq:=by apply ak<;>first|exact trivial|kernel_rfl
def agp:TI:=⟨1,8,.other,[.bT],none⟩
theorem aw2:bm Tryz.prog 205 agp:=by apply ak<;>first|exact trivial|kernel_rfl
def ago:TI:=⟨1,8,.other,[.bT],none⟩
theorem aw1:bm Tryz.prog 206 ago:=by apply ak<;>first|exact trivial|kernel_rfl
def agn:TI:=⟨1,8,.other,[.bT],none⟩
theorem aw0:bm Tryz.prog 207 agn:=by apply ak<;>first|exact trivial|kernel_rfl
def agm:TI:=⟨135,1080,.array 15 43,(([.u64 0,.u64 0,.u64 0,.u64 0,.u64 0,.u64 0,.u64 0,.u64 0,.bool false,.u64 0,.u64 0,.u64 0,.u64 0,.u64 0,.u64 0,.u64 0,.u64 0,.bool false,.u64 0,.u64 0,.u64 0,.u64 0,.u64 0,.u64 0,.u64 0,.u64 0,.bool false,.u64 0,.u64 0,.u64 0,.u64 0,.u64 0,.u64 0,.u64 0,.u64 0,.bool false,.u64 0,.u64 0,.u64 0,.u64 0,.u64 0,.u64 0,.u64 0,.u64 0,.bool false,.u64 0,.u64 0,.u64 0,.u64 0,.u64 0]:List SV)++([.u64 0,.u64 0,.u64 0,.bool false,.u64 0,.u64 0,.u64 0,.u64 0,.u64 0,.u64 0,.u64 0,.u64 0,.bool false,.u64 0,.u64 0,.u64 0,.u64 0,.u64 0,.u64 0,.u64 0,.u64 0,.bool false,.u64 0,.u64 0,.u64 0,.u64 0,.u64 0,.u64 0,.u64 0,.u64 0,.bool false,.u64 0,.u64 0,.u64 0,.u64 0,.u64 0,.u64 0,.u64 0,.u64 0,.bool false,.u64 0,.u64 0,.u64 0,.u64 0,.u64 0,.u64 0,.u64 0,.u64 0,.bool false,.u64 0]:List SV)++([.u64 0,.u64 0,.u64 0,.u64 0,.u64 0,.u64 0,.u64 0,.bool false,.u64 0,.u64 0,.u64 0,.u64 0,.u64 0,.u64 0,.u64 0,.u64 0,.bool false,.u64 0,.u64 0,.u64 0,.u64 0,.u64 0,.u64 0,.u64 0,.u64 0,.bool false,.u64 0,.u64 0,.u64 0,.u64 0,.u64 0,.u64 0,.u64 0,.u64 0,.bool false]:List SV)),some (.arr 15 (.prod .elem (.prod .elem .bool)))⟩
theorem awZ:bm Tryz.prog 208 agm:=by apply ak<;>first|exact⟨by kernel_rfl,by kernel_rfl,by kernel_rfl⟩|kernel_rfl
def agl:TI:=⟨1,8,.other,[.bT],none⟩
theorem awY:bm Tryz.prog 209 agl:=by apply ak<;>first|exact trivial|kernel_rfl
def agk:TI:=⟨1,8,.ptr [("Error",197)],[.qL],none⟩
theorem awX:bm Tryz.prog 210 agk:=by apply ak<;>first|exact trivial|kernel_rfl
def agj:TI:=⟨1,8,.other,[.bT],none⟩
theorem awW:bm Tryz.prog 211 agj:=by apply ak<;>first|exact trivial|kernel_rfl
def agi:TI:=⟨0,0,.array 0 16,[],none⟩
theorem awV:bm Tryz.prog 214 agi:=by apply ak<;>first|exact trivial|kernel_rfl
def agh:TI:=⟨1,4,.int .u32,[.bT],none⟩
theorem awU:bm Tryz.prog 217 agh:=by apply ak<;>first|exact trivial|kernel_rfl
def agf:TI:=⟨1,1,.int .u8,[.u8 0],some .u8⟩
theorem awT:bm Tryz.prog 218 agf:=by apply ak<;>first|exact⟨by kernel_rfl,by kernel_rfl,by kernel_rfl⟩|kernel_rfl
def age:TI:=⟨1,1,.int .u8,[.u8 0],some .u8⟩
theorem awS:bm Tryz.prog 219 age:=by apply ak<;>first|exact⟨by kernel_rfl,by kernel_rfl,by kernel_rfl⟩|kernel_rfl
def agd:TI:=⟨1,8,.other,[.bT],none⟩
theorem awR:bm Tryz.prog 220 agd:=by apply ak<;>first|exact trivial|kernel_rfl
def agc:TI:=⟨1,8,.ptr [],[.qL],none⟩
theorem awQ:bm Tryz.prog 221 agc:=by apply ak<;>first|exact trivial|kernel_rfl
def agb:TI:=⟨1,4,.int .i32,[.bT],none⟩
theorem awP:bm Tryz.prog 222 agb:=by apply ak<;>first|exact trivial|kernel_rfl
def aga:TI:=⟨1,4,.int .i32,[.bT],none⟩
theorem awO:bm Tryz.prog 223 aga:=by apply ak<;>first|exact trivial|kernel_rfl
def af9:TI:=⟨1,8,.ptr [("Next",193)],[.qL],none⟩
theorem awN:bm Tryz.prog 226 af9:=by apply ak<;>first|exact trivial|kernel_rfl
def af8:TI:=⟨1,16,.struct [(0,9)],[.str []],some .str⟩
theorem awM:bm Tryz.prog 227 af8:=by apply ak<;>first|exact⟨by kernel_rfl,by kernel_rfl,by kernel_rfl⟩|kernel_rfl
def af7:TI:=⟨1,16,.struct [(0,9)],[.str []],some .str⟩
theorem awL:bm Tryz.prog 228 af7:=by apply ak<;>first|exact⟨by kernel_rfl,by kernel_rfl,by kernel_rfl⟩|kernel_rfl
def af6:TI:=⟨1,8,.other,[.qL],none⟩
theorem awK:bm Tryz.prog 229 af6:=by apply ak<;>first|exact trivial|kernel_rfl
def te:TE:=(au 1 aBH (au 2 aBG (au 3 aBF (au 4 aBE (au 5 aBD (au 6 aBC (au 7 aBB (au 8 aBA (au 9 aBz (au 10 aq0 (au 11 aqZ (au 12 aqY (au 15 aqX (au 16 aqW (au 17 aqV (au 20 aqU (au 21 aqT (au 22 aqS (au 23 aqR (au 24 aqQ (au 25 aqP (au 26 aqO (au 27 aqN (au 28 aqM (au 29 aqL (au 30 aqK (au 32 aqJ (au 33 aqI (au 34 aqH (au 35 aqG (au 37 aqF (au 38 aqE (au 39 aqD (au 40 aqC (au 41 aqB (au 42 aqA (au 43 aqz (au 44 aqy (au 45 aqx (au 46 aqw (au 47 aqv (au 48 aqu (au 49 aqt (au 50 aqs (au 51 aqr (au 52 aqq (au 53 aqp (au 55 aqo (au 57 aqn (au 59 aqm (au 61 aql (au 62 aqk (au 63 aqj (au 64 aqi (au 65 aqh (au 66 aqg (au 67 aqf (au 68 aqe (au 69 aqd (au 71 aqc (au 72 aqb (au 73 aqa (au 74 ap9 (au 75 ap8 (au 76 ap7 (au 77 ap6 (au 78 ap5 (au 79 ap4 (au 80 ap3 (au 81 ap2 (au 82 ap1 (au 83 ap0 (au 84 apZ (au 85 apY (au 86 apX (au 87 apW (au 89 apV (au 90 apU (au 91 apT (au 92 apS (au 94 apR (au 95 apQ (au 96 apP (au 97 apO (au 98 apN (au 99 apM (au 100 ahY (au 101 ahX (au 102 ahW (au 103 ahV (au 105 ahU (au 106 ahT (au 107 ahS (au 108 ahR (au 109 ahQ (au 110 ahP (au 111 ahO (au 112 ahN (au 113 ahM (au 114 ahL (au 115 ahK (au 116 ahJ (au 117 ahI (au 119 ahH (au 120 ahG (au 121 ahF (au 122 ahE (au 123 ahD (au 124 ahC (au 125 ahB (au 126 ahA (au 127 ahz (au 128 ahy (au 129 ahx (au 131 ahw (au 132 ahv (au 133 ahu (au 134 aht (au 135 ahs (au 136 ahr (au 137 ahq (au 138 ahp (au 140 aho (au 141 ahn (au 142 ahm (au 143 ahl (au 144 ahk (au 145 ahj (au 146 ahi (au 147 ahh (au 148 ahg (au 149 ahf (au 150 ahe (au 151 ahd (au 152 ahc (au 153 ahb (au 154 aha (au 155 ag9 (au 156 ag8 (au 158 ag7 (au 159 ag6 (au 160 ag5 (au 161 ag4 (au 162 ag3 (au 163 ag2 (au 164 ag1 (au 165 ag0 (au 166 agZ (au 168 agY (au 170 agX (au 171 agW (au 172 agV (au 173 agU (au 174 agT (au 175 agS (au 176 agR (au 177 agQ (au 178 agP (au 179 agO (au 180 agN (au 181 agM (au 182 agL (au 183 agK (au 185 agJ (au 186 agI (au 187 agH (au 188 agG (au 189 agF (au 190 agE (au 191 agD (au 192 agC (au 193 agB (au 194 agA (au 195 agz (au 196 agy (au 197 agx (au 198 agw (au 199 agv (au 200 agu (au 201 agt (au 202 ags (au 203 agr (au 204 agq (au 205 agp (au 206 ago (au 207 agn (au 208 agm (au 209 agl (au 210 agk (au 211 agj (au 214 agi (au 217 agh (au 218 agf (au 219 age (au 220 agd (au 221 agc (au 222 agb (au 223 aga (au 226 af9 (au 227 af8 (au 228 af7 (au 229 af6 aHr))))))))))))))))))))))))))))))))))))))))))))))))))))))))))))))))))))))))))))))))))))))))))))))))))))))))))))))))))))))))))))))))))))))))))))))))))))))))))))))))))))))))))))))))))))))))))))))))))))))))))
theorem ar:nC Tryz.prog te:=(ab aHq (ab aHp (ab aHo (ab aHn (ab aHm (ab aHl (ab aHk (ab aHj (ab aHi (ab aD6 (ab aD5 (ab aD4 (ab aD3 (ab aD2 (ab aD1 (ab aD0 (ab aDZ (ab aDY (ab aDX (ab aDW (ab aDV (ab aDU (ab aDT (ab aDS (ab aDR (ab aDQ (ab aDP (ab aDO (ab aDN (ab aDM (ab aDL (ab aDK (ab aDJ (ab aDI (ab aDH (ab aDG (ab aDF (ab aDE (ab aDD (ab aDC (ab aDB (ab aDA (ab aDz (ab aDy (ab aDx (ab aDw (ab aDv (ab aDu (ab aDt (ab aDs (ab aDr (ab aDq (ab aDp (ab aDo (ab aDn (ab aDm (ab aDl (ab aDk (ab aDj (ab aDi (ab aDh (ab aDg (ab aDf (ab aDe (ab aDd (ab aDc (ab aDb (ab aDa (ab aC9 (ab aC8 (ab aC7 (ab aC6 (ab aC5 (ab aC4 (ab aC3 (ab aC2 (ab aC1 (ab aC0 (ab aCZ (ab aCY (ab aCX (ab aCW (ab aCV (ab aCU (ab aCT (ab aCS (ab ayB (ab ayA (ab ayz (ab ayy (ab ayx (ab ayw (ab ayv (ab ayu (ab ayt (ab ays (ab ayr (ab ayq (ab ayp (ab ayo (ab ayn (ab aym (ab ayl (ab ayk (ab ayj (ab ayi (ab ayh (ab ayg (ab ayf (ab aye (ab ayd (ab ayc (ab ayb (ab aya (ab ax9 (ab ax8 (ab ax7 (ab ax6 (ab ax5 (ab ax4 (ab ax3 (ab ax2 (ab ax1 (ab ax0 (ab axZ (ab axY (ab axX (ab axW (ab axV (ab axU (ab axT (ab axS (ab axR (ab axQ (ab axP (ab axO (ab axN (ab axM (ab axL (ab axK (ab axJ (ab axI (ab axH (ab axG (ab axF (ab axE (ab axD (ab axC (ab axB (ab axA (ab axz (ab axy (ab axx (ab axw (ab axv (ab axu (ab axt (ab axs (ab axr (ab axq (ab axp (ab axo (ab axn (ab axm (ab axl (ab axk (ab axj (ab axi (ab axh (ab axg (ab axf (ab axe (ab axd (ab axc (ab axb (ab axa (ab aw9 (ab aw8 (ab aw7 (ab aw6 (ab aw5 (ab aw4 (ab aw3 (ab aw2 (ab aw1 (ab aw0 (ab awZ (ab awY (ab awX (ab awW (ab awV (ab awU (ab awT (ab awS (ab awR (ab awQ (ab awP (ab awO (ab awN (ab awM (ab awL (ab awK ayC))))))))))))))))))))))))))))))))))))))))))))))))))))))))))))))))))))))))))))))))))))))))))))))))))))))))))))))))))))))))))))))))))))))))))))))))))))))))))))))))))))))))))))))))))))))))))))))))))))))))))
theorem follows:Tryz.prog.follows .mixedOrders=true:=by kernel_rfl
def E0:Env:=auZ
theorem aBu:aQ Tryz.prog E0:=auY
theorem aww:ax E0:=aew
theorem aCt:aW Tryz.prog te E0:=aJ follows ar aBu aww
end Go.Proofs.YtohjofabochgfaaGreat

namespace Go.Proofs.YtohjofabochgfaaGreat
open Sx Go
def kC (b:List UInt8) (k:Nat):UInt64:=(List.range k).foldl (λv (i:Nat)=>v|||bR (UInt8.toUInt64 (b.getD i 0)) (8*(i:Int))) 0
theorem Pb (b:List UInt8) (k:Nat):kC b (k+1)=kC b k|||bR (UInt8.toUInt64 (b.getD k 0)) (8*(k:Int)):=by
 simp [kC,List.range_succ]
end Go.Proofs.YtohjofabochgfaaGreat

namespace Go.Proofs.YtohjofabochgfaaGreat
open Sx Go
set_option maxRecDepth 100000
def mw:aw:=⟨[.val false (.list .u8)],[],true,0,false⟩
abbrev Rp:Type:=((List (UInt8))×Unit)×(Unit)
def B3:Shape:=⟨22,[(3,.val false .u64),(6,.val false (.list .u8)),(7,.val false .int),(8,.val false .int)],[],0,true⟩
abbrev dr:Type:=((UInt64)×(List (UInt8))×(Int)×(Int)×Unit)×(Unit)
def wF:Shape:=⟨22,[(3,.val false .u64)],[],0,true⟩
abbrev mv:Type:=((UInt64)×Unit)×(Unit)
def aku:SE->Option Shape:=fC [(0,wF)] none
def U7 (a3:UInt64) (a6:List (UInt8)) (a7:Int) (a8:Int):OT (Sum dr aE):=
 (.br (decide (a8<a7))
 (gd [inB a8 (List.length a6),inR ((8:Int)*a8),decide ((0:Int)<=(8:Int)*a8),inR (a8+(1:Int))] (.ok (.inl ((a3|||bR (UInt8.toUInt64 (List.getD a6 (Int.toNat a8) (0:UInt8))) ((8:Int)*a8),(a6,(a7,(a8+(1:Int),())))),()))))
 (.ok (.inr ⟨(.exit 0,wF),((a3,()),())⟩)))
def rj (s:dr):OT (Sum dr aE):=U7 (s.1.1) (s.1.2.1) (s.1.2.2.1) (s.1.2.2.2.1)
theorem aAV (s:dr) (Q:Sum dr aE->Prop):wps te E0 av 1000 (aU (aj Tryz.f127) 0) (B3.inj s) (bY B3 aku (Q:Sum B3.T aE->Prop))=(rj s).wpR Q:=by kernel_rfl
def It (g0_0:dr->mv) (s:dr):OT aE:=(.ok ⟨(.exit 0,wF),g0_0 s⟩)
def U6:az:=⟨[.val false .u64],[],false⟩
def ZU:SV->Option az:=λ_=>some U6
def aeQ (ok0:dr->Bool) (g0_0:dr->mv) (a0:List (UInt8)):OT mw.Y:=
 let z0:(UInt64×List UInt8×Int×Int×PUnit)×PUnit:=(((0:UInt64),a0,(↑(List.length a0):Int),(0:Int),()),())
 (gd [ok0 z0] (.ok ⟨U6,(((g0_0 z0).fst.fst,()),())⟩))
theorem aGt (ok0:dr->Bool) (g0_0:dr->mv) (x:Rp) (Q:mw.Y->Prop):wpf te E0 (aO 0 (cl B3 0 ok0 (It g0_0)) av) 1000 Tryz.f127 (mw.inp.inj x).tm (mw.inp.inj x).hp (fnK mw ZU Q) (λ_ _=>False)=(aeQ ok0 g0_0 (x.1.1)).wpR Q:=by kernel_rfl
theorem aoA (ok0:dr->Bool) (g0_0:dr->mv) (h0:∀ s:dr,ok0 s=true->∃ m e,al (rj) m s=some e/\(It g0_0 s).run=some e) (pre:Rp->Bool) (F:Rp->OT mw.Y) (hF:∀ (x:Rp) oy,pre x=true->(F x).run=some oy->(aeQ ok0 g0_0 (x.1.1)).run=some oy):ac Tryz.prog 127 (mw.aI pre F):=
 aD ar aBu aCt (f:=127) (fn:=Tryz.f127) (c:=aj Tryz.f127) (by kernel_rfl) (by kernel_rfl) (by kernel_rfl) (S:=mw) (k:=0) (by kernel_rfl) (λR hR=>(aB (c:=(aj Tryz.f127)) (by kernel_rfl) (id:=0) (by kernel_rfl) (aR ar aBu aCt (sh:=B3) hR (xs:=aku) (aC (by kernel_rfl) (by kernel_rfl) hR) aL af (n:=1000) (T:=rj) (λs Q=>aAV s Q) (ok:=ok0) (f:=It g0_0) h0) af)) (n:=1000) (sel:=ZU) (λv o h=>by cases h;rfl) (pre:=pre) (F:=F) (T:=λx=>aeQ ok0 g0_0 (x.1.1)) (λx Q=>aGt ok0 g0_0 x Q) hF
def ZV (s:dr):Bool:=decide (s.1.1=0/\s.1.2.2.1=(s.1.2.1.length:Int)/\s.1.2.2.2.1=0/\s.1.2.1.length<=4096)
def akv (s:dr):mv:=((kC s.1.2.1 s.1.2.1.length,()),())
theorem aAX:∀ s,ZV s=true->∃ m e,al rj m s=some e/\(It akv s).run=some e:=by
 rintro ⟨⟨v,b,n,i,⟨⟩⟩,⟨⟩⟩ h
 have h':=of_decide_eq_true h
 dsimp only at h'
 obtain ⟨rfl,rfl,rfl,hl⟩:=h'
 have:=K6 (T:=rj) (λk=>((kC b k,b,(b.length:Int),(k:Int),()),())) b.length (e:=⟨(.exit 0,wF),((kC b b.length,()),())⟩) (λk hk=> ?_) ?_ 0 (Nat.zero_le _)
 ·obtain ⟨m,hm⟩:=this
  exact ⟨m,_,hm,rfl⟩
 ·unfold rj U7
  dsimp only
  rw [OT.ao (decide_eq_true (by omega)),ah (by simp;exact ⟨aN (by omega),aH (by omega),by omega,aH (by omega)⟩),OT.cP,Pb]
  rfl
 ·unfold rj U7
  dsimp only
  rw [OT.aq (decide_eq_false (by omega)),OT.cP]
def mu (x:Rp):Bool:=decide (x.1.1.length<=4096)
def avF (x:Rp):OT mw.Y:=.ok ⟨U6,((kC x.1.1 x.1.1.length,()),())⟩
theorem aAW:ac Tryz.prog 127 (mw.aI mu avF):=aoA ZV akv aAX _ _ λx oy hp ho=>by
 rw [<-ho]
 have hp':=of_decide_eq_true hp
 refine (OT.ao ?_).trans ?_
 ·exact decide_eq_true ⟨rfl,rfl,rfl,hp'⟩
 ·rfl
def Fm:cn:=(mw.aI mu avF)
theorem aeP:ac Tryz.prog 127 Fm:=aAW
theorem aeO:aG Fm:=aA
def N6:Env:=ay 127 Fm E0
theorem Gc:aQ Tryz.prog N6:=ag aeP aBu
theorem Hw:ax N6:=ae aeO aww
theorem afM:aW Tryz.prog te N6:=aJ follows ar Gc Hw
def so:aw:=⟨[.val false .u64,.val false .int],[],true,0,false⟩
abbrev alv:Type:=((UInt64)×(Int)×Unit)×(Unit)
def ab1:az:=⟨[.val false .u64],[],false⟩
def aic:SV->Option az:=λ_=>some ab1
def arq (a0:UInt64) (a1:Int):OT so.Y:=
 (.ok ⟨ab1,((bR a0 (↑(UInt64.toNat (i2u a1&&&(63:UInt64))):Int)|||bk a0 (↑(UInt64.toNat ((64:UInt64)-(i2u a1&&&(63:UInt64)))):Int),()),())⟩)
theorem aHz (x:alv) (Q:so.Y->Prop):wpf te N6 av 1000 Tryz.f167 (so.inp.inj x).tm (so.inp.inj x).hp (fnK so aic Q) (λ_ _=>False)=(arq (x.1.1) (x.1.2.1)).wpR Q:=by kernel_rfl
theorem arp (pre:alv->Bool) (F:alv->OT so.Y) (hF:∀ (x:alv) oy,pre x=true->(F x).run=some oy->(arq (x.1.1) (x.1.2.1)).run=some oy):ac Tryz.prog 167 (so.aI pre F):=
 aD ar Gc afM (f:=167) (fn:=Tryz.f167) (c:=aj Tryz.f167) (by kernel_rfl) (by kernel_rfl) (by kernel_rfl) (S:=so) (k:=0) (by kernel_rfl) (λR hR=>af) (n:=1000) (sel:=aic) (λv o h=>by cases h;rfl) (pre:=pre) (F:=F) (T:=λx=>arq (x.1.1) (x.1.2.1)) (λx Q=>aHz x Q) hF
def rotl (a:UInt64) (n:Int):UInt64:=bR a (UInt64.toNat (i2u n&&&63):Int)|||bk a (UInt64.toNat (64-(i2u n&&&63)):Int)
def aid (_:alv):Bool:=true
def aBM (x:alv):OT so.Y:=.ok ⟨ab1,((rotl x.1.1 x.1.2.1,()),())⟩
theorem aEs:ac Tryz.prog 167 (so.aI aid aBM):=arp _ _ λx oy _ ho=>ho
def Je:cn:=(so.aI aid aBM)
theorem alu:ac Tryz.prog 167 Je:=aEs
theorem alt:aG Je:=aA
def aaF:Env:=ay 167 Je N6
theorem M1:aQ Tryz.prog aaF:=ag alu Gc
theorem M2:ax aaF:=ae alt Hw
theorem aoY:aW Tryz.prog te aaF:=aJ follows ar M1 M2
def uo:aw:=⟨[.val false .u8],[],true,0,false⟩
abbrev aoI:Type:=((UInt8)×Unit)×(Unit)
def Vf:az:=⟨[.val false .int],[],false⟩
def akC:SV->Option az:=λ_=>some Vf
def avQ (a0:UInt8):OT uo.Y:=
 (.br (decide ((97:UInt8)<=a0))
 (gd [inR ((↑(UInt8.toNat (a0-(97:UInt8))):Int)+(10:Int))] (.ok ⟨Vf,(((↑(UInt8.toNat (a0-(97:UInt8))):Int)+(10:Int),()),())⟩))
 (.ok ⟨Vf,(((↑(UInt8.toNat (a0-(48:UInt8))):Int),()),())⟩))
theorem aIE (x:aoI) (Q:uo.Y->Prop):wpf te aaF av 1000 Tryz.f158 (uo.inp.inj x).tm (uo.inp.inj x).hp (fnK uo akC Q) (λ_ _=>False)=(avQ (x.1.1)).wpR Q:=by kernel_rfl
theorem avP (pre:aoI->Bool) (F:aoI->OT uo.Y) (hF:∀ (x:aoI) oy,pre x=true->(F x).run=some oy->(avQ (x.1.1)).run=some oy):ac Tryz.prog 158 (uo.aI pre F):=
 aD ar M1 aoY (f:=158) (fn:=Tryz.f158) (c:=aj Tryz.f158) (by kernel_rfl) (by kernel_rfl) (by kernel_rfl) (S:=uo) (k:=0) (by kernel_rfl) (λR hR=>af) (n:=1000) (sel:=akC) (λv o h=>by cases h;rfl) (pre:=pre) (F:=F) (T:=λx=>avQ (x.1.1)) (λx Q=>aIE x Q) hF
def nib (c:UInt8):Int:=if 97<=c then (UInt8.toNat (c-97):Int)+10 else (UInt8.toNat (c-48):Int)
def akD (_:aoI):Bool:=true
def akE (x:aoI):OT uo.Y:=.ok ⟨Vf,((nib x.1.1,()),())⟩
theorem aGA:ac Tryz.prog 158 (uo.aI akD akE):=avP _ _ λx oy _ ho=>by
 rw [<-ho]
 have hlt:=(x.1.1-97).toNat_lt
 by_cases h:97<=x.1.1
 ·refine (OT.ao (decide_eq_true h)).trans ((ah (by simp;exact aH (by omega))).trans ?_)
  simp only [akE,nib,if_pos h]
 ·refine (OT.aq (decide_eq_false h)).trans ?_
  simp only [akE,nib,if_neg h]
def Mv:cn:=(uo.aI akD akE)
theorem aoH:ac Tryz.prog 158 Mv:=aGA
theorem aoG:aG Mv:=aA
def aa9:Env:=ay 158 Mv aaF
theorem N9:aQ Tryz.prog aa9:=ag aoH M1
theorem Oa:ax aa9:=ae aoG M2
theorem ape:aW Tryz.prog te aa9:=aJ follows ar N9 Oa
def ji:aw:=⟨[],[],true,0,false⟩
abbrev Fq:Type:=(Unit)×(Unit)
def Mt:az:=⟨[.val true (.arr 8 .u64)],[],false⟩
def Rr:SV->Option az:=λ_=>some Mt
def Vd:OT ji.Y:=
 (.ok ⟨Mt,(([(7640891576956012808:UInt64),(13503953896175478587:UInt64),(4354685564936845355:UInt64),(11912009170470909681:UInt64),(5840696475078001361:UInt64),(11170449401992604703:UInt64),(2270897969802886507:UInt64),(6620516959819538809:UInt64)],()),())⟩)
theorem aAZ (x:Fq) (Q:ji.Y->Prop):wpf te aa9 av 1000 Tryz.f126 (ji.inp.inj x).tm (ji.inp.inj x).hp (fnK ji Rr Q) (λ_ _=>False)=(Vd).wpR Q:=by kernel_rfl
theorem ae0 (pre:Fq->Bool) (F:Fq->OT ji.Y) (hF:∀ (x:Fq) oy,pre x=true->(F x).run=some oy->(Vd).run=some oy):ac Tryz.prog 126 (ji.aI pre F):=
 aD ar N9 ape (f:=126) (fn:=Tryz.f126) (c:=aj Tryz.f126) (by kernel_rfl) (by kernel_rfl) (by kernel_rfl) (S:=ji) (k:=0) (by kernel_rfl) (λR hR=>af) (n:=1000) (sel:=Rr) (λv o h=>by cases h;rfl) (pre:=pre) (F:=F) (T:=λx=>Vd) (λx Q=>aAZ x Q) hF
def bIV:List UInt64:= [0x6a09e667f3bcc908,0xbb67ae8584caa73b,0x3c6ef372fe94f82b,0xa54ff53a5f1d36f1,0x510e527fade682d1,0x9b05688c2b3e6c1f,0x1f83d9abfb41bd6b,0x5be0cd19137e2179]
def Rs (_:Fq):Bool:=true
def aky (_:Fq):OT ji.Y:=.ok ⟨Mt,((bIV,()),())⟩
theorem avN:ac Tryz.prog 126 (ji.aI Rs aky):=ae0 _ _ λx oy _ ho=>ho
def zp:cn:=(ji.aI Rs aky)
theorem Z0:ac Tryz.prog 126 zp:=avN
theorem ZZ:aG zp:=aA
def Dl:Env:=ay 126 zp aa9
theorem zO:aQ Tryz.prog Dl:=ag Z0 N9
theorem Dk:ax Dl:=ae ZZ Oa
theorem aa7:aW Tryz.prog te Dl:=aJ follows ar zO Dk
def jj:aw:=⟨[],[],true,0,false⟩
abbrev Fs:Type:=(Unit)×(Unit)
def Mu:az:=⟨[.val true (.arr 10 .str)],[],false⟩
def Rt:SV->Option az:=λ_=>some Mu
def Ve:OT jj.Y:=
 (.ok ⟨Mu,(([[(48:UInt8),(49:UInt8),(50:UInt8),(51:UInt8),(52:UInt8),(53:UInt8),(54:UInt8),(55:UInt8),(56:UInt8),(57:UInt8),(97:UInt8),(98:UInt8),(99:UInt8),(100:UInt8),(101:UInt8),(102:UInt8)],[(101:UInt8),(97:UInt8),(52:UInt8),(56:UInt8),(57:UInt8),(102:UInt8),(100:UInt8),(54:UInt8),(49:UInt8),(99:UInt8),(48:UInt8),(50:UInt8),(98:UInt8),(55:UInt8),(53:UInt8),(51:UInt8)],[(98:UInt8),(56:UInt8),(99:UInt8),(48:UInt8),(53:UInt8),(50:UInt8),(102:UInt8),(100:UInt8),(97:UInt8),(101:UInt8),(51:UInt8),(54:UInt8),(55:UInt8),(49:UInt8),(57:UInt8),(52:UInt8)],[(55:UInt8),(57:UInt8),(51:UInt8),(49:UInt8),(100:UInt8),(99:UInt8),(98:UInt8),(101:UInt8),(50:UInt8),(54:UInt8),(53:UInt8),(97:UInt8),(52:UInt8),(48:UInt8),(102:UInt8),(56:UInt8)],[(57:UInt8),(48:UInt8),(53:UInt8),(55:UInt8),(50:UInt8),(52:UInt8),(97:UInt8),(102:UInt8),(101:UInt8),(49:UInt8),(98:UInt8),(99:UInt8),(54:UInt8),(56:UInt8),(51:UInt8),(100:UInt8)],[(50:UInt8),(99:UInt8),(54:UInt8),(97:UInt8),(48:UInt8),(98:UInt8),(56:UInt8),(51:UInt8),(52:UInt8),(100:UInt8),(55:UInt8),(53:UInt8),(102:UInt8),(101:UInt8),(49:UInt8),(57:UInt8)],[(99:UInt8),(53:UInt8),(49:UInt8),(102:UInt8),(101:UInt8),(100:UInt8),(52:UInt8),(97:UInt8),(48:UInt8),(55:UInt8),(54:UInt8),(51:UInt8),(57:UInt8),(50:UInt8),(56:UInt8),(98:UInt8)],[(100:UInt8),(98:UInt8),(55:UInt8),(101:UInt8),(99:UInt8),(49:UInt8),(51:UInt8),(57:UInt8),(53:UInt8),(48:UInt8),(102:UInt8),(52:UInt8),(56:UInt8),(54:UInt8),(50:UInt8),(97:UInt8)],[(54:UInt8),(102:UInt8),(101:UInt8),(57:UInt8),(98:UInt8),(51:UInt8),(48:UInt8),(56:UInt8),(99:UInt8),(50:UInt8),(100:UInt8),(55:UInt8),(49:UInt8),(52:UInt8),(97:UInt8),(53:UInt8)],[(97:UInt8),(50:UInt8),(56:UInt8),(52:UInt8),(55:UInt8),(54:UInt8),(49:UInt8),(53:UInt8),(102:UInt8),(98:UInt8),(57:UInt8),(101:UInt8),(51:UInt8),(99:UInt8),(100:UInt8),(48:UInt8)]],()),())⟩)
theorem aA0 (x:Fs) (Q:jj.Y->Prop):wpf te Dl av 1000 Tryz.f156 (jj.inp.inj x).tm (jj.inp.inj x).hp (fnK jj Rt Q) (λ_ _=>False)=(Ve).wpR Q:=by kernel_rfl
theorem ae1 (pre:Fs->Bool) (F:Fs->OT jj.Y) (hF:∀ (x:Fs) oy,pre x=true->(F x).run=some oy->(Ve).run=some oy):ac Tryz.prog 156 (jj.aI pre F):=
 aD ar zO aa7 (f:=156) (fn:=Tryz.f156) (c:=aj Tryz.f156) (by kernel_rfl) (by kernel_rfl) (by kernel_rfl) (S:=jj) (k:=0) (by kernel_rfl) (λR hR=>af) (n:=1000) (sel:=Rt) (λv o h=>by cases h;rfl) (pre:=pre) (F:=F) (T:=λx=>Ve) (λx Q=>aA0 x Q) hF
def gF:List (List UInt8):= [[48,49,50,51,52,53,54,55,56,57,97,98,99,100,101,102],
 [101,97,52,56,57,102,100,54,49,99,48,50,98,55,53,51],
 [98,56,99,48,53,50,102,100,97,101,51,54,55,49,57,52],
 [55,57,51,49,100,99,98,101,50,54,53,97,52,48,102,56],
 [57,48,53,55,50,52,97,102,101,49,98,99,54,56,51,100],
 [50,99,54,97,48,98,56,51,52,100,55,53,102,101,49,57],
 [99,53,49,102,101,100,52,97,48,55,54,51,57,50,56,98],
 [100,98,55,101,99,49,51,57,53,48,102,52,56,54,50,97],
 [54,102,101,57,98,51,48,56,99,50,100,55,49,52,97,53],
 [97,50,56,52,55,54,49,53,102,98,57,101,51,99,100,48]]
def Ru (_:Fs):Bool:=true
def akz (_:Fs):OT jj.Y:=.ok ⟨Mu,((gF,()),())⟩
theorem avO:ac Tryz.prog 156 (jj.aI Ru akz):=ae1 _ _ λx oy _ ho=>ho
def zq:cn:=(jj.aI Ru akz)
theorem Z4:ac Tryz.prog 156 zq:=avO
theorem Z3:aG zq:=aA
def Dn:Env:=ay 156 zq Dl
theorem zP:aQ Tryz.prog Dn:=ag Z4 zO
theorem Dm:ax Dn:=ae Z3 Dk
theorem aa8:aW Tryz.prog te Dn:=aJ follows ar zP Dm
def ur:aw:=⟨[.ptr 0 0 0,.val false .int,.val false .int,.val false .int,.val false .int,.val false .u64,.val false .u64],[(0,.row .u64)],false,1,true⟩
abbrev aoO:Type:=((Unit)×(Int)×(Int)×(Int)×(Int)×(UInt64)×(UInt64)×Unit)×((List (UInt64))×Unit)
def ae4:az:=⟨[],[(0,.row .u64)],false⟩
def akG:SV->Option az:=λ_=>some ae4
def avU (a1:Int) (a2:Int) (a3:Int) (a4:Int) (a5:UInt64) (a6:UInt64) (c0:List (UInt64)):OT ur.Y:=
 let z0:Bool:=inB a1 16
 let z1:Nat:=List.length c0
 let z2:Bool:=decide (Int.toNat a1+0<z1)
 let z3:Bool:=inB a2 16
 let z4:Bool:=inB a4 16
 let z5:List UInt64:=List.set c0 (Int.toNat a1+0) (List.getD c0 (Int.toNat a1+0) (0:UInt64)+(List.getD c0 (Int.toNat a2+0) (0:UInt64)+a5))
 let z6:Nat:=List.length z5
 let z7:Bool:=decide (Int.toNat a4+0<z6)
 let z8:Bool:=inB a3 16
 let z9:List UInt64:=List.set z5 (Int.toNat a4+0) (rotl (List.getD z5 (Int.toNat a4+0) (0:UInt64)^^^List.getD z5 (Int.toNat a1+0) (0:UInt64)) (-32:Int))
 let z10:Nat:=List.length z9
 let z11:Bool:=decide (Int.toNat a3+0<z10)
 let z12:List UInt64:=List.set z9 (Int.toNat a3+0) (List.getD z9 (Int.toNat a3+0) (0:UInt64)+List.getD z9 (Int.toNat a4+0) (0:UInt64))
 let z13:Nat:=List.length z12
 let z14:Bool:=decide (Int.toNat a2+0<z13)
 let z15:List UInt64:=List.set z12 (Int.toNat a2+0) (rotl (List.getD z12 (Int.toNat a2+0) (0:UInt64)^^^List.getD z12 (Int.toNat a3+0) (0:UInt64)) (-24:Int))
 let z16:Nat:=List.length z15
 let z17:Bool:=decide (Int.toNat a1+0<z16)
 let z18:List UInt64:=List.set z15 (Int.toNat a1+0) (List.getD z15 (Int.toNat a1+0) (0:UInt64)+(List.getD z15 (Int.toNat a2+0) (0:UInt64)+a6))
 let z19:Nat:=List.length z18
 let z20:Bool:=decide (Int.toNat a4+0<z19)
 let z21:List UInt64:=List.set z18 (Int.toNat a4+0) (rotl (List.getD z18 (Int.toNat a4+0) (0:UInt64)^^^List.getD z18 (Int.toNat a1+0) (0:UInt64)) (-16:Int))
 let z22:Nat:=List.length z21
 let z23:Bool:=decide (Int.toNat a3+0<z22)
 let z24:List UInt64:=List.set z21 (Int.toNat a3+0) (List.getD z21 (Int.toNat a3+0) (0:UInt64)+List.getD z21 (Int.toNat a4+0) (0:UInt64))
 let z25:Nat:=List.length z24
 let z26:Bool:=decide (Int.toNat a2+0<z25)
 (gd [z0,z2,z3,decide (Int.toNat a2+0<z1),z0,z2,z4,z7,z0,decide (Int.toNat a1+0<z6),z4,z7,z8,z11,z4,decide (Int.toNat a4+0<z10),z8,z11,z3,z14,z8,decide (Int.toNat a3+0<z13),z3,z14,z0,z17,z3,decide (Int.toNat a2+0<z16),z0,z17,z4,z20,z0,decide (Int.toNat a1+0<z19),z4,z20,z8,z23,z4,decide (Int.toNat a4+0<z22),z8,z23,z3,z26,z8,decide (Int.toNat a3+0<z25),z3,z26] (.ok ⟨ae4,((),(List.set z24 (Int.toNat a2+0) (rotl (List.getD z24 (Int.toNat a2+0) (0:UInt64)^^^List.getD z24 (Int.toNat a3+0) (0:UInt64)) (-63:Int)),()))⟩))
theorem aIG (x:aoO) (Q:ur.Y->Prop):wpf te Dn av 1000 Tryz.f159 (ur.inp.inj x).tm (ur.inp.inj x).hp (fnK ur akG Q) (λ_ _=>False)=(avU (x.1.2.1) (x.1.2.2.1) (x.1.2.2.2.1) (x.1.2.2.2.2.1) (x.1.2.2.2.2.2.1) (x.1.2.2.2.2.2.2.1) (x.2.1)).wpR Q:=by kernel_rfl
theorem avT (pre:aoO->Bool) (F:aoO->OT ur.Y) (hF:∀ (x:aoO) oy,pre x=true->(F x).run=some oy->(avU (x.1.2.1) (x.1.2.2.1) (x.1.2.2.2.1) (x.1.2.2.2.2.1) (x.1.2.2.2.2.2.1) (x.1.2.2.2.2.2.2.1) (x.2.1)).run=some oy):ac Tryz.prog 159 (ur.aI pre F):=
 aD ar zP aa8 (f:=159) (fn:=Tryz.f159) (c:=aj Tryz.f159) (by kernel_rfl) (by kernel_rfl) (by kernel_rfl) (S:=ur) (k:=1) (by kernel_rfl) (λR hR=>af) (n:=1000) (sel:=akG) (λv o h=>by cases h;rfl) (pre:=pre) (F:=F) (T:=λx=>avU (x.1.2.1) (x.1.2.2.1) (x.1.2.2.2.1) (x.1.2.2.2.2.1) (x.1.2.2.2.2.2.1) (x.1.2.2.2.2.2.2.1) (x.2.1)) (λx Q=>aIG x Q) hF
def BD (v:List UInt64) (a b c d:Nat) (x y:UInt64):List UInt64:=
 let v1:=v.set a (v.getD a 0+(v.getD b 0+x))
 let v2:=v1.set d (rotl (v1.getD d 0^^^v1.getD a 0) (-32))
 let v3:=v2.set c (v2.getD c 0+v2.getD d 0)
 let v4:=v3.set b (rotl (v3.getD b 0^^^v3.getD c 0) (-24))
 let v5:=v4.set a (v4.getD a 0+(v4.getD b 0+y))
 let v6:=v5.set d (rotl (v5.getD d 0^^^v5.getD a 0) (-16))
 let v7:=v6.set c (v6.getD c 0+v6.getD d 0)
 v7.set b (rotl (v7.getD b 0^^^v7.getD c 0) (-63))
theorem fX (v:List UInt64) (a b c d:Nat) (x y:UInt64):(BD v a b c d x y).length=v.length:=by
 simp only [BD,List.length_set]
def rl (x:aoO):Bool:=inB x.1.2.1 16&&inB x.1.2.2.1 16&&inB x.1.2.2.2.1 16&&inB x.1.2.2.2.2.1 16&&decide (x.2.1.length=16)
def aCn (x:aoO):OT ur.Y:=.ok ⟨ae4,((),(BD x.2.1 x.1.2.1.toNat x.1.2.2.1.toNat x.1.2.2.2.1.toNat x.1.2.2.2.2.1.toNat x.1.2.2.2.2.2.1 x.1.2.2.2.2.2.2.1,()))⟩
theorem aGC:ac Tryz.prog 159 (ur.aI rl aCn):=avT _ _ λx oy hp ho=>by
 rw [<-ho]
 obtain ⟨⟨⟨⟩,a,b,c,d,x,y,⟨⟩⟩,⟨v,⟨⟩⟩⟩:=x
 simp only [rl,Bool.and_eq_true,decide_eq_true_eq] at hp
 obtain ⟨⟨⟨⟨ha,hb⟩,hc⟩,hd⟩,hv⟩:=hp
 have na:=xG ha
 have nb:=xG hb
 have nc:=xG hc
 have nd:=xG hd
 refine (ah ?_).trans rfl
 simp only [List.length_set,hv,ha,hb,hc,hd,Nat.add_zero,na,nb,nc,nd,decide_true,List.all_cons,List.all_nil,Bool.and_self]
def MA:cn:=(ur.aI rl aCn)
theorem aoN:ac Tryz.prog 159 MA:=aGC
theorem aoM:aG MA:=aA
def abb:Env:=ay 159 MA Dn
theorem Oc:aQ Tryz.prog abb:=ag aoN zP
theorem Od:ax abb:=ae aoM Dm
theorem apf:aW Tryz.prog te abb:=aJ follows ar Oc Od
def MJ:aw:=⟨[.val false .int,.ptr 0 0 0,.ptr 1 0 0],[(0,.row .u64),(1,.cells [.val false .str])],false,2,true⟩
abbrev aG0:Type:=((Int)×(Unit)×(Unit)×Unit)×((List (UInt64))×((List UInt8)×Unit)×Unit)
def awb:az:=⟨[.val false .u64],[(0,.row .u64),(1,.cells [.val false .str])],false⟩
def awa:SV->Option az:=λ_=>some awb
def aGF (a0:Int) (c0:List (UInt64)) (c1_0:List UInt8):OT MJ.Y:=
 let z0:Int:=nib (List.getD c1_0 (Int.toNat a0) (0:UInt8))
 (gd [inB a0 (List.length c1_0),inB z0 16,decide (Int.toNat z0+0<List.length c0)] (.ok ⟨awb,((List.getD c0 (Int.toNat z0+0) (0:UInt64),()),(c0,((c1_0,()),())))⟩))
theorem aJs (x:aG0) (Q:MJ.Y->Prop):wpf te abb av 1000 Tryz.f157 (MJ.inp.inj x).tm (MJ.inp.inj x).hp (fnK MJ awa Q) (λ_ _=>False)=(aGF (x.1.1) (x.2.1) (x.2.2.1.1)).wpR Q:=by kernel_rfl
theorem aBm (pre:aG0->Bool) (F:aG0->OT MJ.Y) (hF:∀ (x:aG0) oy,pre x=true->(F x).run=some oy->(aGF (x.1.1) (x.2.1) (x.2.2.1.1)).run=some oy):ac Tryz.prog 157 (MJ.aI pre F):=
 aD ar Oc apf (f:=157) (fn:=Tryz.f157) (c:=aj Tryz.f157) (by kernel_rfl) (by kernel_rfl) (by kernel_rfl) (S:=MJ) (k:=2) (by kernel_rfl) (λR hR=>af) (n:=1000) (sel:=awa) (λv o h=>by cases h;rfl) (pre:=pre) (F:=F) (T:=λx=>aGF (x.1.1) (x.2.1) (x.2.2.1.1)) (λx Q=>aJs x Q) hF
def atF (m:List UInt64) (row:List UInt8) (i:Int):UInt64:=m.getD (nib (row.getD i.toNat 0)).toNat 0
def rr (x:aG0):Bool:=inB x.1.1 x.2.2.1.1.length&&inB (nib (x.2.2.1.1.getD x.1.1.toNat 0)) 16&&decide (x.2.1.length=16)
def aII (x:aG0):OT MJ.Y:=.ok ⟨awb,((atF x.2.1 x.2.2.1.1 x.1.1,()),(x.2.1,((x.2.2.1.1,()),())))⟩
theorem aIH:ac Tryz.prog 157 (MJ.aI rr aII):=aBm _ _ λx oy hp ho=>by
 rw [<-ho]
 obtain ⟨⟨i,⟨⟩,⟨⟩,⟨⟩⟩,⟨m,⟨row,⟨⟩⟩,⟨⟩⟩⟩:=x
 simp only [rr,Bool.and_eq_true,decide_eq_true_eq] at hp
 obtain ⟨⟨h1,h2⟩,h3⟩:=hp
 have n2:=xG h2
 refine (ah ?_).trans rfl
 simp only [h1,h2,h3,Nat.add_zero,n2,decide_true,List.all_cons,List.all_nil,Bool.and_self]
def Vp:cn:=(MJ.aI rr aII)
theorem awc:ac Tryz.prog 157 Vp:=aIH
theorem av9:aG Vp:=aA
def O5:Env:=ay 157 Vp abb
theorem nN:aQ Tryz.prog O5:=ag awc Oc
theorem R5:ax O5:=ae av9 Od
theorem pZ:aW Tryz.prog te O5:=aJ follows ar nN R5
def mE:aw:=⟨[.val true (.arr 8 .u64),.val true (.arr 128 .u8),.val false .u64,.val false .bool],[],true,0,false⟩
abbrev RE:Type:=((List (UInt64))×(List (UInt8))×(UInt64)×(Bool)×Unit)×(Unit)
def Cj:Shape:=⟨127,[(4,.ptr 0 0 0),(5,.ptr 1 0 0),(8,.ptr 2 0 0),(9,.ptr 3 0 0),(11,.ptr 4 0 0),(37,.val false .int)],[(0,.row .u64),(1,.row .u8),(2,.row .u64),(3,.row .u64),(4,.row .u64)],0,true⟩
abbrev da:Type:=((Unit)×(Unit)×(Unit)×(Unit)×(Unit)×(Int)×Unit)×((List (UInt64))×(List (UInt8))×(List (UInt64))×(List (UInt64))×(List (UInt64))×Unit)
def wR:Shape:=⟨127,[(4,.ptr 0 0 0),(8,.ptr 1 0 0),(9,.ptr 2 0 0),(11,.ptr 3 0 0)],[(0,.row .u64),(1,.row .u64),(2,.row .u64),(3,.row .u64)],0,true⟩
abbrev mD:Type:=((Unit)×(Unit)×(Unit)×(Unit)×Unit)×((List (UInt64))×(List (UInt64))×(List (UInt64))×(List (UInt64))×Unit)
def akP:SE->Option Shape:=fC [(0,wR)] none
def aBk (a37:Int) (c0:List (UInt64)) (c1:List (UInt8)) (c2:List (UInt64)) (c3:List (UInt64)) (c4:List (UInt64)):OT (Sum da aE):=
 let z0:Bool:=inR ((8:Int)*a37)
 let z1:List UInt8:=List.take (Int.toNat ((8:Int)*a37+(8:Int)-(8:Int)*a37)) (List.drop (Int.toNat ((8:Int)*a37)) c1)
 (.br (decide (a37<(16:Int)))
 (gd [z0,z0,inR ((8:Int)*a37+(8:Int)),decide (128<=List.length c1)&&dD ((8:Int)*a37) ((8:Int)*a37+(8:Int)) 128,mu ((z1,()),()),inB a37 16,decide (Int.toNat a37+0<List.length c4),inR (a37+(1:Int))] (.ok (.inl (((),((),((),((),((),(a37+(1:Int),())))))),(c0,(c1,(c2,(c3,(List.set c4 (Int.toNat a37+0) (kC z1 (List.length z1)),())))))))))
 (.ok (.inr ⟨(.exit 0,wR),(((),((),((),((),())))),(c0,(c2,(c3,(c4,())))))⟩)))
def Co (s:da):OT (Sum da aE):=aBk (s.1.2.2.2.2.2.1) (s.2.1) (s.2.2.1) (s.2.2.2.1) (s.2.2.2.2.1) (s.2.2.2.2.2.1)
theorem aA9 (s:da) (Q:Sum da aE->Prop):wps te O5 av 1000 (aU (aj Tryz.f146) 0) (Cj.inj s) (bY Cj akP (Q:Sum Cj.T aE->Prop))=(Co s).wpR Q:=by kernel_rfl
def IC (g0_0:da->mD) (s:da):OT aE:=(.ok ⟨(.exit 0,wR),g0_0 s⟩)
def Ci:Shape:=⟨127,[(4,.ptr 0 0 0),(8,.ptr 1 0 0),(9,.ptr 2 0 0),(11,.ptr 3 0 0),(13,.ptr 4 0 0),(51,.val false .int)],[(0,.row .u64),(1,.row .u64),(2,.row .u64),(3,.row .u64),(4,.row .str)],0,true⟩
abbrev c9:Type:=((Unit)×(Unit)×(Unit)×(Unit)×(Unit)×(Int)×Unit)×((List (UInt64))×(List (UInt64))×(List (UInt64))×(List (UInt64))×(List (List UInt8))×Unit)
def Cg:Shape:=⟨127,[(4,.ptr 0 0 0),(8,.ptr 1 0 0),(9,.ptr 2 0 0),(11,.ptr 3 0 0),(13,.ptr 4 0 0),(16,.fn 157 [3,5]),(51,.val false .int),(59,.val false .int)],[(0,.row .u64),(1,.row .u64),(2,.row .u64),(3,.row .u64),(4,.row .str),(5,.cells [.val false .str])],0,true⟩
abbrev cj:Type:=((Unit)×(Unit)×(Unit)×(Unit)×(Unit)×(Unit)×(Int)×(Int)×Unit)×((List (UInt64))×(List (UInt64))×(List (UInt64))×(List (UInt64))×(List (List UInt8))×((List UInt8)×Unit)×Unit)
def wP:Shape:=⟨127,[(4,.ptr 0 0 0),(8,.ptr 1 0 0),(9,.ptr 2 0 0),(11,.ptr 3 0 0),(13,.ptr 4 0 0),(16,.fn 157 [3,5]),(51,.val false .int)],[(0,.row .u64),(1,.row .u64),(2,.row .u64),(3,.row .u64),(4,.row .str),(5,.cells [.val false .str])],0,true⟩
abbrev gf:Type:=((Unit)×(Unit)×(Unit)×(Unit)×(Unit)×(Unit)×(Int)×Unit)×((List (UInt64))×(List (UInt64))×(List (UInt64))×(List (UInt64))×(List (List UInt8))×((List UInt8)×Unit)×Unit)
def akN:SE->Option Shape:=fC [(4,wP)] none
def aBi (a51:Int) (a59:Int) (c0:List (UInt64)) (c1:List (UInt64)) (c2:List (UInt64)) (c3:List (UInt64)) (c4:List (List UInt8)) (c5_0:List UInt8):OT (Sum cj aE):=
 let z0:Bool:=inR ((2:Int)*a59)
 let z1:PUnit×PUnit×PUnit:=((),(),())
 let z2:List UInt64×(List UInt8×PUnit)×PUnit:=(c3,(c5_0,()),())
 let z3:UInt64:=atF c3 c5_0 ((2:Int)*a59)
 let z4:UInt64:=atF c3 c5_0 ((2:Int)*a59+(1:Int))
 (.br (decide (a59<(4:Int)))
 (gd [inR ((4:Int)+a59),inR ((8:Int)+a59),inR ((12:Int)+a59),z0,rr (((2:Int)*a59,z1),z2),z0,inR ((2:Int)*a59+(1:Int)),rr (((2:Int)*a59+(1:Int),z1),z2),rl (((),a59,(4:Int)+a59,(8:Int)+a59,(12:Int)+a59,z3,z4,()),c2,()),inR (a59+(1:Int))] (.ok (.inl (((),((),((),((),((),((),(a51,(a59+(1:Int),())))))))),(c0,(c1,(BD c2 (Int.toNat a59) (Int.toNat ((4:Int)+a59)) (Int.toNat ((8:Int)+a59)) (Int.toNat ((12:Int)+a59)) z3 z4,(c3,(c4,((c5_0,()),()))))))))))
 (.ok (.inr ⟨(.exit 4,wP),(((),((),((),((),((),((),(a51,()))))))),(c0,(c1,(c2,(c3,(c4,((c5_0,()),())))))))⟩)))
def Cm (s:cj):OT (Sum cj aE):=aBi (s.1.2.2.2.2.2.2.1) (s.1.2.2.2.2.2.2.2.1) (s.2.1) (s.2.2.1) (s.2.2.2.1) (s.2.2.2.2.1) (s.2.2.2.2.2.1) (s.2.2.2.2.2.2.1.1)
theorem aA7 (s:cj) (Q:Sum cj aE->Prop):wps te O5 av 1000 (aU (aU (aj Tryz.f146) 2) 4) (Cg.inj s) (bY Cg akN (Q:Sum Cg.T aE->Prop))=(Cm s).wpR Q:=by kernel_rfl
def IA (g4_4:cj->gf) (s:cj):OT aE:=(.ok ⟨(.exit 4,wP),g4_4 s⟩)
def Cf:Shape:=⟨127,[(4,.ptr 0 0 0),(8,.ptr 1 0 0),(9,.ptr 2 0 0),(11,.ptr 3 0 0),(13,.ptr 4 0 0),(16,.fn 157 [3,5]),(51,.val false .int),(80,.val false .int)],[(0,.row .u64),(1,.row .u64),(2,.row .u64),(3,.row .u64),(4,.row .str),(5,.cells [.val false .str])],0,true⟩
abbrev ci:Type:=((Unit)×(Unit)×(Unit)×(Unit)×(Unit)×(Unit)×(Int)×(Int)×Unit)×((List (UInt64))×(List (UInt64))×(List (UInt64))×(List (UInt64))×(List (List UInt8))×((List UInt8)×Unit)×Unit)
def wO:Shape:=⟨127,[(4,.ptr 0 0 0),(8,.ptr 1 0 0),(9,.ptr 2 0 0),(11,.ptr 3 0 0),(13,.ptr 4 0 0),(51,.val false .int)],[(0,.row .u64),(1,.row .u64),(2,.row .u64),(3,.row .u64),(4,.row .str)],0,true⟩
abbrev ga:Type:=((Unit)×(Unit)×(Unit)×(Unit)×(Unit)×(Int)×Unit)×((List (UInt64))×(List (UInt64))×(List (UInt64))×(List (UInt64))×(List (List UInt8))×Unit)
def akM:SE->Option Shape:=fC [(6,wO)] none
def aBh (a51:Int) (a80:Int) (c0:List (UInt64)) (c1:List (UInt64)) (c2:List (UInt64)) (c3:List (UInt64)) (c4:List (List UInt8)) (c5_0:List UInt8):OT (Sum ci aE):=
 let z0:Bool:=inR (a80+(1:Int))
 let z1:Int:=(4:Int)+Int.tmod (a80+(1:Int)) (4:Int)
 let z2:Int:=(8:Int)+Int.tmod (a80+(2:Int)) (4:Int)
 let z3:Int:=(12:Int)+Int.tmod (a80+(3:Int)) (4:Int)
 let z4:Bool:=inR ((2:Int)*a80)
 let z5:PUnit×PUnit×PUnit:=((),(),())
 let z6:List UInt64×(List UInt8×PUnit)×PUnit:=(c3,(c5_0,()),())
 let z7:UInt64:=atF c3 c5_0 ((8:Int)+(2:Int)*a80)
 let z8:UInt64:=atF c3 c5_0 ((9:Int)+(2:Int)*a80)
 (.br (decide (a80<(4:Int)))
 (gd [z0,inR z1,inR (a80+(2:Int)),inR z2,inR (a80+(3:Int)),inR z3,z4,inR ((8:Int)+(2:Int)*a80),rr (((8:Int)+(2:Int)*a80,z5),z6),z4,inR ((9:Int)+(2:Int)*a80),rr (((9:Int)+(2:Int)*a80,z5),z6),rl (((),a80,z1,z2,z3,z7,z8,()),c2,()),z0] (.ok (.inl (((),((),((),((),((),((),(a51,(a80+(1:Int),())))))))),(c0,(c1,(BD c2 (Int.toNat a80) (Int.toNat z1) (Int.toNat z2) (Int.toNat z3) z7 z8,(c3,(c4,((c5_0,()),()))))))))))
 (.ok (.inr ⟨(.exit 6,wO),(((),((),((),((),((),(a51,())))))),(c0,(c1,(c2,(c3,(c4,()))))))⟩)))
def Cl (s:ci):OT (Sum ci aE):=aBh (s.1.2.2.2.2.2.2.1) (s.1.2.2.2.2.2.2.2.1) (s.2.1) (s.2.2.1) (s.2.2.2.1) (s.2.2.2.2.1) (s.2.2.2.2.2.1) (s.2.2.2.2.2.2.1.1)
theorem aA6 (s:ci) (Q:Sum ci aE->Prop):wps te O5 av 1000 (aU (aU (aj Tryz.f146) 2) 6) (Cf.inj s) (bY Cf akM (Q:Sum Cf.T aE->Prop))=(Cl s).wpR Q:=by kernel_rfl
def Iz (g6_6:ci->ga) (s:ci):OT aE:=(.ok ⟨(.exit 6,wO),g6_6 s⟩)
def wQ:Shape:=⟨127,[(4,.ptr 0 0 0),(8,.ptr 1 0 0),(9,.ptr 2 0 0)],[(0,.row .u64),(1,.row .u64),(2,.row .u64)],0,true⟩
abbrev mC:Type:=((Unit)×(Unit)×(Unit)×Unit)×((List (UInt64))×(List (UInt64))×(List (UInt64))×Unit)
def akO:SE->Option Shape:=fC [(2,wQ)] none
def aBj (ok4:cj->Bool) (g4_4:cj->gf) (ok6:ci->Bool) (g6_6:ci->ga) (a51:Int) (c0:List (UInt64)) (c1:List (UInt64)) (c2:List (UInt64)) (c3:List (UInt64)) (c4:List (List UInt8)):OT (Sum c9 aE):=
 let z0:Int:=Int.tmod a51 (10:Int)
 let z1:(PUnit×PUnit×PUnit×PUnit×PUnit×PUnit×Int×Int×PUnit)×List UInt64×List UInt64×List UInt64×List UInt64×List (List UInt8)×(List UInt8×PUnit)×PUnit:=(((),(),(),(),(),(),a51,(0:Int),()),c0,c1,c2,c3,c4,(List.getD c4 (Int.toNat z0+0) [],()),())
 let z2:(PUnit×PUnit×PUnit×PUnit×PUnit×PUnit×Int×PUnit)×List UInt64×List UInt64×List UInt64×List UInt64×List (List UInt8)×(List UInt8×PUnit)×PUnit:=g4_4 z1
 let z3:=z2.snd
 let z4:=z3.snd
 let z5:=z4.snd
 let z6:=z5.snd
 let z7:=z6.snd
 let z8:(PUnit×PUnit×PUnit×PUnit×PUnit×PUnit×Int×Int×PUnit)×List UInt64×List UInt64×List UInt64×List UInt64×List (List UInt8)×(List UInt8×PUnit)×PUnit:=(((),(),(),(),(),(),z2.fst.snd.snd.snd.snd.snd.snd.fst,(0:Int),()),z3.fst,z4.fst,z5.fst,z6.fst,z7.fst,(z7.snd.fst.fst,()),())
 let z9:(PUnit×PUnit×PUnit×PUnit×PUnit×Int×PUnit)×List UInt64×List UInt64×List UInt64×List UInt64×List (List UInt8)×PUnit:=g6_6 z8
 let z10:=z9.snd
 let z11:=z10.snd
 let z12:=z11.snd
 let z13:=z12.snd
 (.br (decide (a51<(12:Int)))
 (gd [inB z0 10,decide (Int.toNat z0+0<List.length c4),ok4 z1,ok6 z8,inR (z9.fst.snd.snd.snd.snd.snd.fst+(1:Int))] (.ok (.inl (((),((),((),((),((),(z9.fst.snd.snd.snd.snd.snd.fst+(1:Int),())))))),(z10.fst,(z11.fst,(z12.fst,(z13.fst,(z13.snd.fst,())))))))))
 (.ok (.inr ⟨(.exit 2,wQ),(((),((),((),()))),(c0,(c1,(c2,()))))⟩)))
def Cn (ok4:cj->Bool) (g4_4:cj->gf) (ok6:ci->Bool) (g6_6:ci->ga) (s:c9):OT (Sum c9 aE):=aBj ok4 g4_4 ok6 g6_6 (s.1.2.2.2.2.2.1) (s.2.1) (s.2.2.1) (s.2.2.2.1) (s.2.2.2.2.1) (s.2.2.2.2.2.1)
theorem aA8 (ok4:cj->Bool) (g4_4:cj->gf) (ok6:ci->Bool) (g6_6:ci->ga) (s:c9) (Q:Sum c9 aE->Prop):wps te O5 (aO 6 (cl Cf 6 ok6 (Iz g6_6)) (aO 4 (cl Cg 4 ok4 (IA g4_4)) av)) 1000 (aU (aj Tryz.f146) 2) (Ci.inj s) (bY Ci akO (Q:Sum Ci.T aE->Prop))=(Cn ok4 g4_4 ok6 g6_6 s).wpR Q:=by kernel_rfl
def IB (g2_2:c9->mC) (s:c9):OT aE:=(.ok ⟨(.exit 2,wQ),g2_2 s⟩)
def Ce:Shape:=⟨127,[(4,.ptr 0 0 0),(8,.ptr 1 0 0),(9,.ptr 2 0 0),(109,.val false .int)],[(0,.row .u64),(1,.row .u64),(2,.row .u64)],0,true⟩
abbrev c8:Type:=((Unit)×(Unit)×(Unit)×(Int)×Unit)×((List (UInt64))×(List (UInt64))×(List (UInt64))×Unit)
def wN:Shape:=⟨127,[(4,.ptr 0 0 0),(8,.ptr 1 0 0)],[(0,.row .u64),(1,.row .u64)],0,true⟩
abbrev mB:Type:=((Unit)×(Unit)×Unit)×((List (UInt64))×(List (UInt64))×Unit)
def akL:SE->Option Shape:=fC [(8,wN)] none
def aBg (a109:Int) (c0:List (UInt64)) (c1:List (UInt64)) (c2:List (UInt64)):OT (Sum c8 aE):=
 let z0:Bool:=inB a109 8
 let z1:Bool:=decide (Int.toNat a109+0<List.length c0)
 let z2:Nat:=List.length c2
 (.br (decide (a109<(8:Int)))
 (gd [z0,z1,inB a109 16,decide (Int.toNat a109+0<z2),inR (a109+(8:Int)),inB (a109+(8:Int)) 16,decide (Int.toNat (a109+(8:Int))+0<z2),z0,z1,inR (a109+(1:Int))] (.ok (.inl (((),((),((),(a109+(1:Int),())))),(List.set c0 (Int.toNat a109+0) (List.getD c0 (Int.toNat a109+0) (0:UInt64)^^^(List.getD c2 (Int.toNat a109+0) (0:UInt64)^^^List.getD c2 (Int.toNat (a109+(8:Int))+0) (0:UInt64))),(c1,(c2,())))))))
 (.ok (.inr ⟨(.exit 8,wN),(((),((),())),(c0,(c1,())))⟩)))
def Ck (s:c8):OT (Sum c8 aE):=aBg (s.1.2.2.2.1) (s.2.1) (s.2.2.1) (s.2.2.2.1)
theorem aA5 (s:c8) (Q:Sum c8 aE->Prop):wps te O5 av 1000 (aU (aj Tryz.f146) 8) (Ce.inj s) (bY Ce akL (Q:Sum Ce.T aE->Prop))=(Ck s).wpR Q:=by kernel_rfl
def Iy (g8_8:c8->mB) (s:c8):OT aE:=(.ok ⟨(.exit 8,wN),g8_8 s⟩)
def Ix:az:=⟨[.val true (.arr 8 .u64)],[],false⟩
def aar:SV->Option az:=λ_=>some Ix
def afi (ok0:da->Bool) (g0_0:da->mD) (ok4:cj->Bool) (g4_4:cj->gf) (ok6:ci->Bool) (g6_6:ci->ga) (ok2:c9->Bool) (g2_2:c9->mC) (ok8:c8->Bool) (g8_8:c8->mB) (a0:List (UInt64)) (a1:List (UInt8)) (a2:UInt64) (a3:Bool):OT mE.Y:=
 let z0:PUnit×PUnit×PUnit×PUnit×PUnit×Int×PUnit:=((),(),(),(),(),(0:Int),())
 let z1:List UInt64:=tab a0 8 (0:UInt64)
 let z2:List UInt8:=tab a1 128 (0:UInt8)
 let z3:List UInt64:= []++(List.take 8 z1++List.drop (0+min (List.length z1) 8) [(0:UInt64),(0:UInt64),(0:UInt64),(0:UInt64),(0:UInt64),(0:UInt64),(0:UInt64),(0:UInt64),(0:UInt64),(0:UInt64),(0:UInt64),(0:UInt64),(0:UInt64),(0:UInt64),(0:UInt64),(0:UInt64)])
 let z4:List UInt64:=List.take 8 z3++([(7640891576956012808:UInt64),(13503953896175478587:UInt64),(4354685564936845355:UInt64),(11912009170470909681:UInt64),(5840696475078001361:UInt64),(11170449401992604703:UInt64),(2270897969802886507:UInt64),(6620516959819538809:UInt64)]++List.drop 16 z3)
 let z5:List UInt64:=List.set z4 12 (List.getD z4 12 0^^^a2)
 let z6:List UInt64×PUnit:=([(0:UInt64),(0:UInt64),(0:UInt64),(0:UInt64),(0:UInt64),(0:UInt64),(0:UInt64),(0:UInt64),(0:UInt64),(0:UInt64),(0:UInt64),(0:UInt64),(0:UInt64),(0:UInt64),(0:UInt64),(0:UInt64)],())
 let z7:(PUnit×PUnit×PUnit×PUnit×PUnit×Int×PUnit)×List UInt64×List UInt8×List UInt64×List UInt64×List UInt64×PUnit:=(z0,z1,z2,[(0:UInt64),(0:UInt64),(0:UInt64),(0:UInt64),(0:UInt64),(0:UInt64),(0:UInt64),(0:UInt64)],List.set z5 14 (~~~List.getD z5 14 0),z6)
 let z8:PUnit×PUnit×PUnit×PUnit×PUnit×Int×PUnit:=((),(),(),(),(),(0:Int),())
 let z9:=(g0_0 z7).snd
 let z10:=z9.snd
 let z11:=z10.snd
 let z12:List (List UInt8)×PUnit:=([List.getD gF 0 [],List.getD gF 1 [],List.getD gF 2 [],List.getD gF 3 [],List.getD gF 4 [],List.getD gF 5 [],List.getD gF 6 [],List.getD gF 7 [],List.getD gF 8 [],List.getD gF 9 []],())
 let z13:(PUnit×PUnit×PUnit×PUnit×PUnit×Int×PUnit)×List UInt64×List UInt64×List UInt64×List UInt64×List (List UInt8)×PUnit:=(z8,z9.fst,z10.fst,z11.fst,z11.snd.fst,z12)
 let z14:PUnit×PUnit×PUnit×Int×PUnit:=((),(),(),(0:Int),())
 let z15:=(g2_2 z13).snd
 let z16:=z15.snd
 let z17:(PUnit×PUnit×PUnit×Int×PUnit)×List UInt64×List UInt64×List UInt64×PUnit:=(z14,z15.fst,z16.fst,z16.snd.fst,())
 let z18:=(g8_8 z17).snd
 let z19:=z18.fst
 let z20:=z18.snd.fst
 let z21:List UInt64:=lay z20 z19 8 (0:UInt64)
 let z22:(PUnit×PUnit×PUnit×PUnit×PUnit×Int×PUnit)×List UInt64×List UInt8×List UInt64×List UInt64×List UInt64×PUnit:=(z0,z1,z2,[(0:UInt64),(0:UInt64),(0:UInt64),(0:UInt64),(0:UInt64),(0:UInt64),(0:UInt64),(0:UInt64)],z5,z6)
 let z23:=(g0_0 z22).snd
 let z24:=z23.snd
 let z25:=z24.snd
 let z26:(PUnit×PUnit×PUnit×PUnit×PUnit×Int×PUnit)×List UInt64×List UInt64×List UInt64×List UInt64×List (List UInt8)×PUnit:=(z8,z23.fst,z24.fst,z25.fst,z25.snd.fst,z12)
 let z27:=(g2_2 z26).snd
 let z28:=z27.snd
 let z29:(PUnit×PUnit×PUnit×Int×PUnit)×List UInt64×List UInt64×List UInt64×PUnit:=(z14,z27.fst,z28.fst,z28.snd.fst,())
 let z30:=(g8_8 z29).snd
 let z31:=z30.fst
 let z32:=z30.snd.fst
 let z33:List UInt64:=lay z32 z31 8 (0:UInt64)
 (.br (a3)
 (gd [ok0 z7,ok2 z13,ok8 z17,decide (8<=List.length z19),decide ((8/1:Nat)+0<=List.length z20),decide (8<=List.length z21)] (.ok ⟨Ix,((tab z21 8 (0:UInt64),()),())⟩))
 (gd [ok0 z22,ok2 z26,ok8 z29,decide (8<=List.length z31),decide ((8/1:Nat)+0<=List.length z32),decide (8<=List.length z33)] (.ok ⟨Ix,((tab z33 8 (0:UInt64),()),())⟩)))
theorem aGE (ok0:da->Bool) (g0_0:da->mD) (ok4:cj->Bool) (g4_4:cj->gf) (ok6:ci->Bool) (g6_6:ci->ga) (ok2:c9->Bool) (g2_2:c9->mC) (ok8:c8->Bool) (g8_8:c8->mB) (x:RE) (Q:mE.Y->Prop):wpf te O5 (aO 8 (cl Ce 8 ok8 (Iy g8_8)) (aO 2 (cl Ci 2 ok2 (IB g2_2)) (aO 0 (cl Cj 0 ok0 (IC g0_0)) av))) 1000 Tryz.f146 (mE.inp.inj x).tm (mE.inp.inj x).hp (fnK mE aar Q) (λ_ _=>False)=(afi ok0 g0_0 ok4 g4_4 ok6 g6_6 ok2 g2_2 ok8 g8_8 (x.1.1) (x.1.2.1) (x.1.2.2.1) (x.1.2.2.2.1)).wpR Q:=by kernel_rfl
theorem aoR (ok0:da->Bool) (g0_0:da->mD) (ok4:cj->Bool) (g4_4:cj->gf) (ok6:ci->Bool) (g6_6:ci->ga) (ok2:c9->Bool) (g2_2:c9->mC) (ok8:c8->Bool) (g8_8:c8->mB) (h0:∀ s:da,ok0 s=true->∃ m e,al (Co) m s=some e/\(IC g0_0 s).run=some e) (h4:∀ s:cj,ok4 s=true->∃ m e,al (Cm) m s=some e/\(IA g4_4 s).run=some e) (h6:∀ s:ci,ok6 s=true->∃ m e,al (Cl) m s=some e/\(Iz g6_6 s).run=some e) (h2:∀ s:c9,ok2 s=true->∃ m e,al (Cn ok4 g4_4 ok6 g6_6) m s=some e/\(IB g2_2 s).run=some e) (h8:∀ s:c8,ok8 s=true->∃ m e,al (Ck) m s=some e/\(Iy g8_8 s).run=some e) (pre:RE->Bool) (F:RE->OT mE.Y) (hF:∀ (x:RE) oy,pre x=true->(F x).run=some oy->(afi ok0 g0_0 ok4 g4_4 ok6 g6_6 ok2 g2_2 ok8 g8_8 (x.1.1) (x.1.2.1) (x.1.2.2.1) (x.1.2.2.2.1)).run=some oy):ac Tryz.prog 146 (mE.aI pre F):=
 aD ar nN pZ (f:=146) (fn:=Tryz.f146) (c:=aj Tryz.f146) (by kernel_rfl) (by kernel_rfl) (by kernel_rfl) (S:=mE) (k:=0) (by kernel_rfl) (λR hR=>(aB (c:=(aj Tryz.f146)) (by kernel_rfl) (id:=8) (by kernel_rfl) (aR ar nN pZ (sh:=Ce) hR (xs:=akL) (aC (by kernel_rfl) (by kernel_rfl) hR) aL af (n:=1000) (T:=Ck) (λs Q=>aA5 s Q) (ok:=ok8) (f:=Iy g8_8) h8) (aB (c:=(aj Tryz.f146)) (by kernel_rfl) (id:=2) (by kernel_rfl) (aR ar nN pZ (sh:=Ci) hR (xs:=akO) (aC (by kernel_rfl) (by kernel_rfl) hR) aL (aB (c:=(aU (aj Tryz.f146) 2)) (by kernel_rfl) (id:=6) (by kernel_rfl) (aR ar nN pZ (sh:=Cf) hR (xs:=akM) (aC (by kernel_rfl) (by kernel_rfl) hR) aL af (n:=1000) (T:=Cl) (λs Q=>aA6 s Q) (ok:=ok6) (f:=Iz g6_6) h6) (aB (c:=(aU (aj Tryz.f146) 2)) (by kernel_rfl) (id:=4) (by kernel_rfl) (aR ar nN pZ (sh:=Cg) hR (xs:=akN) (aC (by kernel_rfl) (by kernel_rfl) hR) aL af (n:=1000) (T:=Cm) (λs Q=>aA7 s Q) (ok:=ok4) (f:=IA g4_4) h4) af)) (n:=1000) (T:=Cn ok4 g4_4 ok6 g6_6) (λs Q=>aA8 ok4 g4_4 ok6 g6_6 s Q) (ok:=ok2) (f:=IB g2_2) h2) (aB (c:=(aj Tryz.f146)) (by kernel_rfl) (id:=0) (by kernel_rfl) (aR ar nN pZ (sh:=Cj) hR (xs:=akP) (aC (by kernel_rfl) (by kernel_rfl) hR) aL af (n:=1000) (T:=Co) (λs Q=>aA9 s Q) (ok:=ok0) (f:=IC g0_0) h0) af)))) (n:=1000) (sel:=aar) (λv o h=>by cases h;rfl) (pre:=pre) (F:=F) (T:=λx=>afi ok0 g0_0 ok4 g4_4 ok6 g6_6 ok2 g2_2 ok8 g8_8 (x.1.1) (x.1.2.1) (x.1.2.2.1) (x.1.2.2.2.1)) (λx Q=>aGE ok0 g0_0 ok4 g4_4 ok6 g6_6 ok2 g2_2 ok8 g8_8 x Q) hF
def apu (b:List UInt8) (i:Nat):UInt64:=kC ((b.drop (8*i)).take 8) 8
def qd (b:List UInt8):List UInt64:=upto (λk m=>m.set k (apu b k)) (List.replicate 16 0) 16
def Sy (row:List UInt8):Bool:=decide (row.length=16)&&(List.range 16).all λi=>inB (nib (row.getD i 0)) 16
theorem arn {row:List UInt8} (h:Sy row=true) {i:Nat} (hi:i<16):inB (nib (row.getD i 0)) 16=true:=by
 simp only [Sy,Bool.and_eq_true,List.all_eq_true] at h
 exact h.2 i (by simpa using hi)
theorem wS {m:List UInt64} {row:List UInt8} (hm:m.length=16) (hr:Sy row=true) {i:Int} (h0:0<=i) (h1:i<16) (u:Unit×Unit×Unit) (u2:Unit) (u3:Unit):rr ((i,u),(m,((row,u2),u3)))=true:=by
 have hl:row.length=16:=by
  simp only [Sy,Bool.and_eq_true,decide_eq_true_eq] at hr
  exact hr.1
 have:=arn hr (i:=i.toNat) (by omega)
 simp only [rr,Bool.and_eq_true,decide_eq_true_eq]
 exact ⟨⟨aN (by omega),this⟩,hm⟩
theorem MB {v:List UInt64} (hv:v.length=16) {a b c d:Int} (ha:0<=a/\a<16) (hb:0<=b/\b<16) (hc:0<=c/\c<16) (hd:0<=d/\d<16) (x y:UInt64) (u1 u2 u3:Unit):rl ((u1,a,b,c,d,x,y,u2),(v,u3))=true:=by
 simp only [rl,Bool.and_eq_true,decide_eq_true_eq]
 exact ⟨⟨⟨⟨aN ha,aN hb⟩,aN hc⟩,aN hd⟩,hv⟩
def MI (s:da):Bool:=decide (s.1.2.2.2.2.2.1=0/\s.2.2.1.length=128/\s.2.2.2.2.2.1=List.replicate 16 0)
def wM (s:da):mD:=(((),(),(),(),()),(s.2.1,s.2.2.2.1,s.2.2.2.2.1,qd s.2.2.1,()))
theorem aBf:∀ s:da,MI s=true->∃ m e,al Co m s=some e/\(IC wM s).run=some e:=by
 rintro ⟨⟨⟨⟩,⟨⟩,⟨⟩,⟨⟩,⟨⟩,i,⟨⟩⟩,⟨c0,c1,c2,c3,c4,⟨⟩⟩⟩ h
 have h':=of_decide_eq_true h
 dsimp only at h'
 obtain ⟨rfl,hl,rfl⟩:=h'
 have:=(aP (T:=Co) (λk m=>((((),(),(),(),(),(k:Int),()),(c0,c1,c2,c3,m,())):da)) (λk m=>m.set k (apu c1 k))
  (λm=>(⟨(.exit 0,wR),(((),(),(),(),()),(c0,c2,c3,m,()))⟩:aE)) 16 (List.replicate 16 0) (λ_ m=>m.length=16) (by simp) (λk m hk hm=>⟨?_,by rw [List.length_set];exact hm⟩) (λm hm=> ?_)).1
 ·obtain ⟨n,hn⟩:=this
  exact ⟨n,_,hn,rfl⟩
 ·have e1:(8*(k:Int)+8-8*(k:Int)).toNat=8:=by omega
  have e2:(8*(k:Int)).toNat=8*k:=by omega
  have hw:((c1.drop (8*k)).take 8).length=8:=by simp;omega
  refine (OT.ao (decide_eq_true (by dsimp only;omega))).trans ((ah ?_).trans ?_)
  ·simp only [e1,e2,hl,hm,List.all_cons,List.all_nil,Bool.and_true,Bool.and_eq_true]
   refine ⟨aH (by omega),aH (by omega),aH (by omega),⟨by decide,fB (by omega)⟩,?_,aN (by omega),decide_eq_true (by omega),aH (by omega)⟩
   simp only [mu,hw]
   decide
  ·simp only [OT.cP,e1,e2,hw,Nat.add_zero]
   rfl
 ·exact OT.aq (decide_eq_false (by dsimp only;omega))
def YJ (m:List UInt64) (row:List UInt8) (v:List UInt64):List UInt64:=upto (λk v=>BD v k (4+k) (8+k) (12+k) (atF m row (2*(k:Int))) (atF m row (2*(k:Int)+1))) v 4
def YI (m:List UInt64) (row:List UInt8) (v:List UInt64):List UInt64:=upto (λk v=>BD v k (4+(k+1)%4) (8+(k+2)%4) (12+(k+3)%4) (atF m row (8+2*(k:Int))) (atF m row (9+2*(k:Int)))) v 4
theorem nt (m:List UInt64) (row:List UInt8) (v:List UInt64):(YJ m row v).length=v.length:=by simp only [YJ,upto,fX]
theorem tw (m:List UInt64) (row:List UInt8) (v:List UInt64):(YI m row v).length=v.length:=by simp only [YI,upto,fX]
def pF (s:cj):Bool:=decide (s.1.2.2.2.2.2.2.2.1=0/\s.2.2.2.1.length=16/\s.2.2.2.2.1.length=16)&&Sy s.2.2.2.2.2.2.1.1
def rq (s:cj):gf:=(((),(),(),(),(),(),s.1.2.2.2.2.2.2.1,()),(s.2.1,s.2.2.1,YJ s.2.2.2.2.1 s.2.2.2.2.2.2.1.1 s.2.2.2.1,s.2.2.2.2.1,s.2.2.2.2.2.1,(s.2.2.2.2.2.2.1.1,()),()))
theorem aBd:∀ s:cj,pF s=true->∃ m e,al Cm m s=some e/\(IA rq s).run=some e:=by
 rintro ⟨⟨⟨⟩,⟨⟩,⟨⟩,⟨⟩,⟨⟩,⟨⟩,r,i,⟨⟩⟩,⟨c0,c1,v,m,c4,⟨row,⟨⟩⟩,⟨⟩⟩⟩ h
 simp only [pF,Bool.and_eq_true,decide_eq_true_eq] at h
 obtain ⟨⟨rfl,hv,hm⟩,hr⟩:=h
 have:=(aP (T:=Cm) (λk v=>((((),(),(),(),(),(),r,(k:Int),()),(c0,c1,v,m,c4,(row,()),())):cj)) (λk v=>BD v k (4+k) (8+k) (12+k) (atF m row (2*(k:Int))) (atF m row (2*(k:Int)+1)))
  (λv=>(⟨(.exit 4,wP),(((),(),(),(),(),(),r,()),(c0,c1,v,m,c4,(row,()),()))⟩:aE)) 4 v (λ_ v=>v.length=16) hv (λk v hk hv=>⟨?_,by rw [fX];exact hv⟩) (λv hv=> ?_)).1
 ·obtain ⟨n,hn⟩:=this
  exact ⟨n,_,hn,rfl⟩
 ·have e1:(4+(k:Int)).toNat=4+k:=by omega
  have e2:(8+(k:Int)).toNat=8+k:=by omega
  have e3:(12+(k:Int)).toNat=12+k:=by omega
  refine (OT.ao (decide_eq_true (by dsimp only;omega))).trans ((ah ?_).trans ?_)
  ·simp only [List.all_cons,List.all_nil,Bool.and_true,Bool.and_eq_true]
   exact ⟨aH (by omega),aH (by omega),aH (by omega),aH (by omega),wS hm hr (by omega) (by omega) _ _ _,aH (by omega),aH (by omega),wS hm hr (by omega) (by omega) _ _ _,MB hv (by omega) (by omega) (by omega) (by omega) _ _ _ _ _,aH (by omega)⟩
  ·simp only [OT.cP,e1,e2,e3]
   rfl
 ·exact OT.aq (decide_eq_false (by dsimp only;omega))
def pE (s:ci):Bool:=decide (s.1.2.2.2.2.2.2.2.1=0/\s.2.2.2.1.length=16/\s.2.2.2.2.1.length=16)&&Sy s.2.2.2.2.2.2.1.1
def wK (s:ci):ga:=(((),(),(),(),(),s.1.2.2.2.2.2.2.1,()),(s.2.1,s.2.2.1,YI s.2.2.2.2.1 s.2.2.2.2.2.2.1.1 s.2.2.2.1,s.2.2.2.2.1,s.2.2.2.2.2.1,()))
theorem aBc:∀ s:ci,pE s=true->∃ m e,al Cl m s=some e/\(Iz wK s).run=some e:=by
 rintro ⟨⟨⟨⟩,⟨⟩,⟨⟩,⟨⟩,⟨⟩,⟨⟩,r,i,⟨⟩⟩,⟨c0,c1,v,m,c4,⟨row,⟨⟩⟩,⟨⟩⟩⟩ h
 simp only [pE,Bool.and_eq_true,decide_eq_true_eq] at h
 obtain ⟨⟨rfl,hv,hm⟩,hr⟩:=h
 have:=(aP (T:=Cl) (λk v=>((((),(),(),(),(),(),r,(k:Int),()),(c0,c1,v,m,c4,(row,()),())):ci)) (λk v=>BD v k (4+(k+1)%4) (8+(k+2)%4) (12+(k+3)%4) (atF m row (8+2*(k:Int))) (atF m row (9+2*(k:Int))))
  (λv=>(⟨(.exit 6,wO),(((),(),(),(),(),r,()),(c0,c1,v,m,c4,()))⟩:aE)) 4 v (λ_ v=>v.length=16) hv (λk v hk hv=>⟨?_,by rw [fX];exact hv⟩) (λv hv=> ?_)).1
 ·obtain ⟨n,hn⟩:=this
  exact ⟨n,_,hn,rfl⟩
 ·have t1:Int.tmod ((k:Int)+1) 4=(((k+1)%4:Nat):Int):=by rw [Int.tmod_eq_emod_of_nonneg (by omega)];omega
  have t2:Int.tmod ((k:Int)+2) 4=(((k+2)%4:Nat):Int):=by rw [Int.tmod_eq_emod_of_nonneg (by omega)];omega
  have t3:Int.tmod ((k:Int)+3) 4=(((k+3)%4:Nat):Int):=by rw [Int.tmod_eq_emod_of_nonneg (by omega)];omega
  have e1:(4+(((k+1)%4:Nat):Int)).toNat=4+(k+1)%4:=by omega
  have e2:(8+(((k+2)%4:Nat):Int)).toNat=8+(k+2)%4:=by omega
  have e3:(12+(((k+3)%4:Nat):Int)).toNat=12+(k+3)%4:=by omega
  refine (OT.ao (decide_eq_true (by dsimp only;omega))).trans ((ah ?_).trans ?_)
  ·simp only [t1,t2,t3,List.all_cons,List.all_nil,Bool.and_true,Bool.and_eq_true]
   exact ⟨aH (by omega),aH (by omega),aH (by omega),aH (by omega),aH (by omega),aH (by omega),aH (by omega),aH (by omega),wS hm hr (by omega) (by omega) _ _ _,aH (by omega),aH (by omega),wS hm hr (by omega) (by omega) _ _ _,MB hv (by omega) (by omega) (by omega) (by omega) _ _ _ _ _,aH (by omega)⟩
  ·simp only [OT.cP,t1,t2,t3,e1,e2,e3]
   rfl
 ·exact OT.aq (decide_eq_false (by dsimp only;omega))
def rowAt (k:Nat):List UInt8:=gF.getD (k%10) []
theorem ayU (k:Nat):Sy (rowAt k)=true:=by
 have:k%10<10:=Nat.mod_lt _ (by decide)
 unfold rowAt
 generalize k%10=j at this
 have h:∀ j:Fin 10,Sy (gF.getD j.val [])=true:=by decide+kernel
 exact h ⟨j,this⟩
def kD (m:List UInt64) (v:List UInt64):List UInt64:=upto (λk v=>YI m (rowAt k) (YJ m (rowAt k) v)) v 12
theorem lj {f:Nat->List UInt64->List UInt64} (hf:∀ k v,(f k v).length=v.length) (v:List UInt64):∀ n,(upto f v n).length=v.length
 |0=>rfl
 |n+1=>by simp only [upto,hf,lj hf v n]
def MH (s:c9):Bool:=decide (s.1.2.2.2.2.2.1=0/\s.2.2.2.1.length=16/\s.2.2.2.2.1.length=16/\s.2.2.2.2.2.1=gF)
def wL (s:c9):mC:=(((),(),(),()),(s.2.1,s.2.2.1,kD s.2.2.2.2.1 s.2.2.2.1,()))
theorem aBe:∀ s:c9,MH s=true->∃ m e,al (Cn pF rq pE wK) m s=some e/\(IB wL s).run=some e:=by
 rintro ⟨⟨⟨⟩,⟨⟩,⟨⟩,⟨⟩,⟨⟩,i,⟨⟩⟩,⟨c0,c1,v,m,c4,⟨⟩⟩⟩ h
 have h':=of_decide_eq_true h
 dsimp only at h'
 obtain ⟨rfl,hv,hm,rfl⟩:=h'
 have:=(aP (T:=Cn pF rq pE wK) (λk v=>((((),(),(),(),(),(k:Int),()),(c0,c1,v,m,gF,())):c9)) (λk v=>YI m (rowAt k) (YJ m (rowAt k) v))
  (λv=>(⟨(.exit 2,wQ),(((),(),(),()),(c0,c1,v,()))⟩:aE)) 12 v (λ_ v=>v.length=16) hv (λk v hk hv=>⟨?_,by rw [tw,nt];exact hv⟩) (λv hv=> ?_)).1
 ·obtain ⟨n,hn⟩:=this
  exact ⟨n,_,hn,rfl⟩
 ·have t1:Int.tmod (k:Int) 10=((k%10:Nat):Int):=by rw [Int.tmod_eq_emod_of_nonneg (by omega)];omega
  have e1:((k%10:Nat):Int).toNat=k%10:=by omega
  have hr:Sy (gF.getD (k%10) [])=true:=ayU k
  refine (OT.ao (decide_eq_true (by dsimp only;omega))).trans ((ah ?_).trans ?_)
  ·simp only [t1,e1,List.all_cons,List.all_nil,Bool.and_true,Bool.and_eq_true]
   refine ⟨aN (by omega),decide_eq_true (show k%10+0<10 by omega),?_,?_,?_⟩
   ·simp only [pF,Bool.and_eq_true,decide_eq_true_eq]
    exact ⟨⟨trivial,hv,hm⟩,hr⟩
   ·simp only [pE,rq,Bool.and_eq_true,decide_eq_true_eq]
    exact ⟨⟨trivial,by rw [nt];exact hv,hm⟩,hr⟩
   ·exact aH (by simp only [wK,rq];omega)
  ·have hrow:gF.getD (k%10) []=rowAt k:=rfl
   simp only [OT.cP,t1,e1,Nat.add_zero,wK,rq,hrow]
   rfl
 ·exact OT.aq (decide_eq_false (by dsimp only;omega))
def KQ (h v:List UInt64):List UInt64:=upto (λk h=>h.set k (h.getD k 0^^^(v.getD k 0^^^v.getD (k+8) 0))) h 8
def MG (s:c8):Bool:=decide (s.1.2.2.2.1=0/\s.2.1.length=8/\s.2.2.2.1.length=16)
def wJ (s:c8):mB:=(((),(),()),(KQ s.2.1 s.2.2.2.1,s.2.2.1,()))
theorem aBb:∀ s:c8,MG s=true->∃ m e,al Ck m s=some e/\(Iy wJ s).run=some e:=by
 rintro ⟨⟨⟨⟩,⟨⟩,⟨⟩,i,⟨⟩⟩,⟨h,c1,v,⟨⟩⟩⟩ hh
 have h':=of_decide_eq_true hh
 dsimp only at h'
 obtain ⟨rfl,hl,hv⟩:=h'
 have:=(aP (T:=Ck) (λk h=>((((),(),(),(k:Int),()),(h,c1,v,())):c8)) (λk h=>h.set k (h.getD k 0^^^(v.getD k 0^^^v.getD (k+8) 0)))
  (λh=>(⟨(.exit 8,wN),(((),(),()),(h,c1,()))⟩:aE)) 8 h (λ_ h=>h.length=8) hl (λk h hk hl=>⟨?_,by rw [List.length_set];exact hl⟩) (λh hl=> ?_)).1
 ·obtain ⟨n,hn⟩:=this
  exact ⟨n,_,hn,rfl⟩
 ·have e1:((k:Int)+8).toNat=k+8:=by omega
  refine (OT.ao (decide_eq_true (by dsimp only;omega))).trans ((ah ?_).trans ?_)
  ·simp only [e1,hl,hv,List.all_cons,List.all_nil,Bool.and_true,Bool.and_eq_true]
   exact ⟨aN (by omega),decide_eq_true (by omega),aN (by omega),decide_eq_true (by omega),aH (by omega),aN (by omega),decide_eq_true (by omega),aN (by omega),decide_eq_true (by omega),aH (by omega)⟩
  ·simp only [OT.cP,e1,Nat.add_zero]
   rfl
 ·exact OT.aq (decide_eq_false (by dsimp only;omega))
def rZ (h:List UInt64) (count:UInt64) (last:Bool):List UInt64:=
 let v:=(h++bIV).set 12 ((h++bIV).getD 12 0^^^count)
 cond last (v.set 14 (~~~v.getD 14 0)) v
def xu (h:List UInt64) (b:List UInt8) (count:UInt64) (last:Bool):List UInt64:=KQ h (kD (qd b) (rZ h count last))
theorem Oj (b:List UInt8):(qd b).length=16:=by
 unfold qd;rw [lj (λk v=>List.length_set)];rfl
theorem sn (m v:List UInt64):(kD m v).length=v.length:=lj (λk v=>by rw [tw,nt]) v 12
theorem kJ (h v:List UInt64):(KQ h v).length=h.length:=lj (λk v=>List.length_set) h 8
theorem GP {b:List UInt8} {c0 c2 c3:List UInt64} (hb:b.length=128):MI (((),(),(),(),(),0,()),(c0,b,c2,c3,[0,0,0,0,0,0,0,0,0,0,0,0,0,0,0,0],()))=true:=decide_eq_true ⟨rfl,hb,rfl⟩
theorem GO {c0 c1 v m:List UInt64} (hv:v.length=16) (hm:m.length=16):MH (((),(),(),(),(),0,()),(c0,c1,v,m,gF,()))=true:=decide_eq_true ⟨rfl,hv,hm,rfl⟩
theorem GN {c0 c1 v:List UInt64} (h0:c0.length=8) (hv:v.length=16):MG (((),(),(),0,()),(c0,c1,v,()))=true:=decide_eq_true ⟨rfl,h0,hv⟩
def MF (x:RE):Bool:=decide (x.1.1.length=8/\x.1.2.1.length=128)
def av6 (x:RE):OT mE.Y:=.ok ⟨Ix,((xu x.1.1 x.1.2.1 x.1.2.2.1 x.1.2.2.2.1,()),())⟩
theorem aBa:ac Tryz.prog 146 (mE.aI MF av6):=aoR MI wM pF rq pE wK MH wL MG wJ aBf aBd aBc aBe aBb _ _ λx oy hp ho=>by
 rw [<-ho]
 obtain ⟨⟨h,b,count,last,⟨⟩⟩,⟨⟩⟩:=x
 simp only [MF,decide_eq_true_eq] at hp
 obtain ⟨hh,hb⟩:=hp
 have t1:tab h 8 0=h:=jo hh
 have t2:tab b 128 0=b:=jo hb
 have t3:tab gF 10 []=gF:=jo rfl
 have v1: []++(List.take 8 h++List.drop (0+min h.length 8) [(0:UInt64),0,0,0,0,0,0,0,0,0,0,0,0,0,0,0])=h++List.replicate 8 0:=by
  rw [hh,List.nil_append,List.take_of_length_le (by omega)];rfl
 have v2:List.take 8 (h++List.replicate 8 (0:UInt64))++(bIV++List.drop 16 (h++List.replicate 8 (0:UInt64)))=h++bIV:=by
  rw [List.take_append_of_le_length (by omega),List.take_of_length_le (by omega),List.drop_eq_nil_of_le (by simp;omega),List.append_nil]
 have hv:∀ c l,(rZ h c l).length=16:=λc l=>by
  unfold rZ
  cases l<;>simp [hh]<;>rfl
 have hm:(qd b).length=16:=Oj b
 have hr:∀ c l,(kD (qd b) (rZ h c l)).length=16:=λc l=>by rw [sn];exact hv c l
 have hM:∀ c l,(xu h b c l).length=8:=λc l=>by unfold xu;rw [kJ];exact hh
 have e8: [(7640891576956012808:UInt64),13503953896175478587,4354685564936845355,11912009170470909681,5840696475078001361,11170449401992604703,2270897969802886507,6620516959819538809]=bIV:=rfl
 have key:∀ M:List UInt64,M.length=8->tab (lay [(0:UInt64),0,0,0,0,0,0,0] M 8 0) 8 0=M:=λM hM=>by rw [xE (n:=8) rfl hM,jo hM]
 have l1:List.set (h++bIV) 12 ((h++bIV).getD 12 0^^^count)=rZ h count false:=rfl
 have l2:List.set (rZ h count false) 14 (~~~(rZ h count false).getD 14 0)=rZ h count true:=rfl
 have l3:∀ c l,KQ h (kD (qd b) (rZ h c l))=xu h b c l:=λ_ _=>rfl
 cases last
 ·refine (OT.aq rfl).trans ((ah ?_).trans ?_)
  ·simp only [t1,t2,t3,v1,List.all_cons,List.all_nil,Bool.and_true,Bool.and_eq_true]
   rw [e8]
   simp only [v2,wM,wL,wJ,l1,l3,gw,hM]
   exact ⟨GP hb,GO (hv _ _) hm,GN hh (hr _ _),rfl,rfl,rfl⟩
  ·simp only [t1,t2,t3,v1]
   rw [e8]
   simp only [v2,wM,wL,wJ,l1,l3]
   rw [key _ (hM _ _)]
   rfl
 ·refine (OT.ao rfl).trans ((ah ?_).trans ?_)
  ·simp only [t1,t2,t3,v1,List.all_cons,List.all_nil,Bool.and_true,Bool.and_eq_true]
   rw [e8]
   simp only [v2,wM,wL,wJ,l1,l2,l3,gw,hM]
   exact ⟨GP hb,GO (hv _ _) hm,GN hh (hr _ _),rfl,rfl,rfl⟩
  ·simp only [t1,t2,t3,v1]
   rw [e8]
   simp only [v2,wM,wL,wJ,l1,l2,l3]
   rw [key _ (hM _ _)]
   rfl
def Fz:cn:=(mE.aI MF av6)
theorem afh:ac Tryz.prog 146 Fz:=aBa
theorem afg:aG Fz:=aA
def Oe:Env:=ay 146 Fz O5
theorem Gd:aQ Tryz.prog Oe:=ag afh nN
theorem Hz:ax Oe:=ae afg R5
theorem afO:aW Tryz.prog te Oe:=aJ follows ar Gd Hz
def jm:aw:=⟨[.val false (.list .u8)],[],true,0,false⟩
abbrev afj:Type:=((List (UInt8))×Unit)×(Unit)
def uy:az:=⟨[.own 0],[(0,.row .u8)],false⟩
def RF:SV->Option az:=λ_=>some uy
def Vo (a0:List (UInt8)):OT jm.Y:=
 (gd [decide (((0:Nat)+List.length a0)*(1:Nat)<=(140737488355328:Nat))] (.ok ⟨uy,(((),()),([]++a0,()))⟩))
def av8:OT jm.Y:=.ok ⟨uy,(((),()),([],()))⟩
theorem aBl (x:afj) (Q:jm.Y->Prop):wpf te Oe av 1000 Tryz.f52 (jm.inp.inj x).tm (jm.inp.inj x).hp (fnK jm RF Q) (λ_ _=>False)=
 Bool.rec (motive:=λ_=>Prop) ((Vo x.1.1).wpR Q) (av8.wpR Q/\(Vo x.1.1).wpR Q) (List.isEmpty x.1.1):=by kernel_rfl
def lb (x:afj):Bool:=decide (x.1.1.length<=140737488355328)
def akQ (x:afj):OT jm.Y:=.ok ⟨uy,(((),()),(x.1.1,()))⟩
theorem av7:ac Tryz.prog 52 (jm.aI lb akQ):=by
 refine aFN ar Gd afO (f:=52) (fn:=Tryz.f52) (c:=aj Tryz.f52) (by kernel_rfl) (by kernel_rfl) (by kernel_rfl) (S:=jm) (k:=0) (by kernel_rfl) (Λ:=av) (λR hR=>af) (n:=1000) λx oy hp hr=>⟨fnK jm RF (λz=>z=oy),λ_ _=>False,?_,λv hp hq=> ?_,λ_ _ hq=>hq.elim⟩
 ·refine (aBl x _).mpr ?_
  cases hr
  have hp':x.1.1.length<=140737488355328:=of_decide_eq_true hp
  have h1:(Vo x.1.1).wpR (λz=>z=⟨uy,(((),()),(x.1.1,()))⟩):=by
   rw [OT.V4]
   refine OT.nY (ah ?_) rfl
   simp only [List.all_cons,List.all_nil,Bool.and_true]
   exact decide_eq_true (by omega)
  cases hb:List.isEmpty x.1.1
  ·exact h1
  ·refine ⟨?_,h1⟩
   rw [List.isEmpty_iff.1 hb]
   rfl
 ·unfold fnK at hq
  split at hq
  ·rename_i o ho
   split at hq
   ·rename_i y hy
    subst hq
    exact ⟨by cases ho;rfl,hy⟩
   ·exact hq.elim
  ·exact hq.elim
def zw:cn:=(jm.aI lb akQ)
theorem aat:ac Tryz.prog 52 zw:=av7
theorem aas:aG zw:=aA
def Dw:Env:=ay 52 zw Oe
theorem zU:aQ Tryz.prog Dw:=ag aat Gd
theorem Dv:ax Dw:=ae aas Hz
theorem abd:aW Tryz.prog te Dw:=aJ follows ar zU Dv
def uq:aw:=⟨[.val false .str,.val false .int],[],true,0,false⟩
abbrev aoL:Type:=((List UInt8)×(Int)×Unit)×(Unit)
def Mx:az:=⟨[.qL,.val false .int],[],false⟩
def ae2:az:=⟨[.ptr 0 0 0,.val false .int],[(0,.cells [.val false .int,.val false .u64,.val false .u64,.val false .u64,.val false .u64,.val false .u64,.val false .u64,.val false .u64,.val false .u64,.own 1,.val false .u64]),(1,.row .u8)],false⟩
def Z6:List az:= [Mx,ae2]
def My (a0:List UInt8) (a1:Int):OT uq.Y:=
 let z0:List UInt8:=List.take 16 a0++List.drop (List.length a0) [(0:UInt8),(0:UInt8),(0:UInt8),(0:UInt8),(0:UInt8),(0:UInt8),(0:UInt8),(0:UInt8),(0:UInt8),(0:UInt8),(0:UInt8),(0:UInt8),(0:UInt8),(0:UInt8),(0:UInt8),(0:UInt8)]
 let z1:Bool:=decide (16<=List.length z0)&&true
 let z2:List UInt8:=List.take 8 (List.drop 0 z0)
 let z3:List UInt8:=List.take 8 (List.drop 8 z0)
 (.br (decide ((16:Int)<(↑(List.length a0):Int)))
 (.ok ⟨Mx,(((),((30:Int),())),())⟩)
 (.br (decide (a1<(1:Int)))
  (.ok ⟨Mx,(((),((30:Int),())),())⟩)
  (.br (decide ((64:Int)<a1))
   (.ok ⟨Mx,(((),((30:Int),())),())⟩)
   (gd [z1,mu ((z2,()),()),z1,mu ((z3,()),())] (.ok ⟨ae2,(((),((0:Int),())),((a1,((7640891576956012808:UInt64)^^^(16842752:UInt64)+i2u a1,((13503953896175478587:UInt64),((4354685564936845355:UInt64),((11912009170470909681:UInt64),((5840696475078001361:UInt64),((11170449401992604703:UInt64),((2270897969802886507:UInt64)^^^kC z2 (List.length z2),((6620516959819538809:UInt64)^^^kC z3 (List.length z3),((),((0:UInt64),()))))))))))),([],())))⟩)))))
theorem aIF (x:aoL) (Q:uq.Y->Prop):wpf te Dw av 1000 Tryz.f90 (uq.inp.inj x).tm (uq.inp.inj x).hp (aFO uq Z6 Q) (λ_ _=>False)=(My (x.1.1) (x.1.2.1)).wpR Q:=by kernel_rfl
theorem avR (pre:aoL->Bool) (F:aoL->OT uq.Y) (hF:∀ (x:aoL) oy,pre x=true->(F x).run=some oy->(My (x.1.1) (x.1.2.1)).run=some oy):ac Tryz.prog 90 (uq.aI pre F):=
 ajL ar zU abd (f:=90) (fn:=Tryz.f90) (c:=aj Tryz.f90) (by kernel_rfl) (by kernel_rfl) (by kernel_rfl) (S:=uq) (k:=0) (by kernel_rfl) (λR hR=>af) (n:=1000) (outs:=Z6) (by kernel_rfl) (pre:=pre) (F:=F) (T:=λx=>My (x.1.1) (x.1.2.1)) (λx Q=>aIF x Q) hF
def OD (p:List UInt8):List UInt8:=p.take 16++(List.replicate 16 (0:UInt8)).drop p.length
def gB (p:List UInt8) (n:Int):Bool:=decide (16<(p.length:Int))||decide (n<1)||decide (64<n)
theorem Yc {p:List UInt8} (h:p.length<=16):(OD p).length=16:=by
 simp only [OD,List.length_append,List.length_take,List.length_drop,List.length_replicate]
 omega
abbrev aJu:Type:=Int×UInt64×UInt64×UInt64×UInt64×UInt64×UInt64×UInt64×UInt64×Unit×UInt64×Unit
def apg (n:Int) (h:List UInt64) (c:UInt64):aJu:=(n,h.getD 0 0,h.getD 1 0,h.getD 2 0,h.getD 3 0,h.getD 4 0,h.getD 5 0,h.getD 6 0,h.getD 7 0,(),c,())
def amJ (p:List UInt8) (n:Int):List UInt64:= [0x6a09e667f3bcc908^^^(16842752+i2u n),0xbb67ae8584caa73b,0x3c6ef372fe94f82b,0xa54ff53a5f1d36f1,0x510e527fade682d1,0x9b05688c2b3e6c1f,
 0x1f83d9abfb41bd6b^^^kC ((OD p).take 8) 8,0x5be0cd19137e2179^^^kC (((OD p).drop 8).take 8) 8]
def akF (_:aoL):Bool:=true
def Rw (x:aoL):OT uq.Y:=.br (gB x.1.1 x.1.2.1) (.ok ⟨Mx,(((),((30:Int),())),())⟩)
 (.ok ⟨ae2,(((),((0:Int),())),(apg x.1.2.1 (amJ x.1.1 x.1.2.1) 0,([],())))⟩)
theorem aGB:ac Tryz.prog 90 (uq.aI akF Rw):=avR _ _ λx oy _ ho=>by
 rw [<-ho]
 obtain ⟨⟨p,n,⟨⟩⟩,⟨⟩⟩:=x
 clear ho
 by_cases h1:16<(p.length:Int)
 ·have e1:decide (16<(p.length:Int))=true:=decide_eq_true h1
  have eb:gB p n=true:=by simp only [gB,e1,Bool.true_or]
  simp only [Rw,My,e1,eb]
  rfl
 ·have e1:decide (16<(p.length:Int))=false:=decide_eq_false h1
  by_cases h2:n<1
  ·have e2:decide (n<1)=true:=decide_eq_true h2
   have eb:gB p n=true:=by simp only [gB,e1,e2,Bool.true_or,Bool.false_or]
   simp only [Rw,My,e1,e2,eb]
   rfl
  ·have e2:decide (n<1)=false:=decide_eq_false h2
   by_cases h3:64<n
   ·have e3:decide (64<n)=true:=decide_eq_true h3
    have eb:gB p n=true:=by simp only [gB,e1,e2,e3,Bool.false_or]
    simp only [Rw,My,e1,e2,e3,eb]
    rfl
   ·have e3:decide (64<n)=false:=decide_eq_false h3
    have eb:gB p n=false:=by simp only [gB,e1,e2,e3,Bool.false_or]
    have hl:=Yc (p:=p) (by omega)
    have hp:p.take 16++List.drop p.length [(0:UInt8),0,0,0,0,0,0,0,0,0,0,0,0,0,0,0]=OD p:=rfl
    have l1:((OD p).take 8).length=8:=by simp only [List.length_take,hl];omega
    have l2:(((OD p).drop 8).take 8).length=8:=by simp only [List.length_take,List.length_drop,hl];omega
    simp only [Rw,My,e1,e2,e3,eb,hp,List.drop_zero,l1,l2]
    refine (ah ?_).trans rfl
    simp only [mu,hl,l1,l2]
    decide
def Mw:cn:=(uq.aI akF Rw)
theorem aoK:ac Tryz.prog 90 Mw:=aGB
theorem aoJ:aG Mw:=aA
def R4:Env:=ay 90 Mw Dw
theorem Dp:aQ Tryz.prog R4:=ag aoK zU
theorem Ob:ax R4:=ae aoJ Dv
theorem R3:aW Tryz.prog te R4:=aJ follows ar Dp Ob
def aJn (w:Sh):CSh:=.cells [.val false .int,.val false .u64,.val false .u64,.val false .u64,.val false .u64,.val false .u64,.val false .u64,.val false .u64,.val false .u64,w,.val false .u64]
def jh:aw:=⟨[.ptr 0 0 0,.val false (.list .u8)],[(0,aJn (.own 1)),(1,.row .u8)],true,1,true⟩
def py:Shape:=⟨61,[(0,.ptr 0 0 0)],[(0,aJn (.val false (.list .u8))),(1,.gone)],2,true⟩
def ri:Shape:=py
abbrev Fl:Type:=((Unit)×(List (UInt8))×Unit)×(((Int)×(UInt64)×(UInt64)×(UInt64)×(UInt64)×(UInt64)×(UInt64)×(UInt64)×(UInt64)×(Unit)×(UInt64)×Unit)×(List (UInt8))×Unit)
abbrev cE:Type:=((Unit)×Unit)×(((Int)×(UInt64)×(UInt64)×(UInt64)×(UInt64)×(UInt64)×(UInt64)×(UInt64)×(UInt64)×(List (UInt8))×(UInt64)×Unit)×(Unit)×Unit)
abbrev kc:Type:=((Unit)×Unit)×(((Int)×(UInt64)×(UInt64)×(UInt64)×(UInt64)×(UInt64)×(UInt64)×(UInt64)×(UInt64)×(List (UInt8))×(UInt64)×Unit)×(Unit)×Unit)
def ZQ:SE->Option Shape:=fC [(0,ri)] none
def avE (c0_0:Int) (c0_1:UInt64) (c0_2:UInt64) (c0_3:UInt64) (c0_4:UInt64) (c0_5:UInt64) (c0_6:UInt64) (c0_7:UInt64) (c0_8:UInt64) (c0_9:List (UInt8)) (c0_10:UInt64):OT (Sum cE aE):=
 let z0:Nat:=List.length c0_9
 let z1:Int:=(↑z0:Int)
 let z2:List UInt8:=List.drop 0 (List.take 128 c0_9)
 let z3:Nat:=List.length z2
 let z4:List UInt64:=xu [c0_1,c0_2,c0_3,c0_4,c0_5,c0_6,c0_7,c0_8] (tab z2 128 (0:UInt8)) (c0_10+(128:UInt64)) false
 (.br (decide ((128:Int)<z1))
 (gd [dD (0:Int) (128:Int) z0,decide (128<=z3),decide (128<=z3),dD (128:Int) z1 z0] (.ok (.inl (((),()),((c0_0,(List.getD z4 0 0,(List.getD z4 1 0,(List.getD z4 2 0,(List.getD z4 3 0,(List.getD z4 4 0,(List.getD z4 5 0,(List.getD z4 6 0,(List.getD z4 7 0,(List.drop 128 c0_9,(c0_10+(128:UInt64),()))))))))))),((),()))))))
 (.ok (.inr ⟨(.exit 0,ri),(((),()),((c0_0,(c0_1,(c0_2,(c0_3,(c0_4,(c0_5,(c0_6,(c0_7,(c0_8,(c0_9,(c0_10,()))))))))))),((),())))⟩)))
def uk (s:cE):OT (Sum cE aE):=avE (s.2.1.1) (s.2.1.2.1) (s.2.1.2.2.1) (s.2.1.2.2.2.1) (s.2.1.2.2.2.2.1) (s.2.1.2.2.2.2.2.1) (s.2.1.2.2.2.2.2.2.1) (s.2.1.2.2.2.2.2.2.2.1) (s.2.1.2.2.2.2.2.2.2.2.1) (s.2.1.2.2.2.2.2.2.2.2.2.1) (s.2.1.2.2.2.2.2.2.2.2.2.2.1)
theorem avB (s:cE) (Q:Sum cE aE->Prop):wps te R4 av 1000 (aU (aj Tryz.f109) 0) (py.inj s) (bY py ZQ (Q:Sum py.T aE->Prop))=(uk s).wpR Q:=by kernel_rfl
def B2 (g0_0:cE->kc) (s:cE):OT aE:=(.ok ⟨(.exit 0,ri),g0_0 s⟩)
def Mo:az:=⟨[],[(0,.cells [.val false .int,.val false .u64,.val false .u64,.val false .u64,.val false .u64,.val false .u64,.val false .u64,.val false .u64,.val false .u64,.own 1,.val false .u64]),(1,.row .u8)],false⟩
def Rn:SV->Option az:=λ_=>some Mo
def U5 (ok0:cE->Bool) (g0_0:cE->kc) (a1:List (UInt8)) (c0_0:Int) (c0_1:UInt64) (c0_2:UInt64) (c0_3:UInt64) (c0_4:UInt64) (c0_5:UInt64) (c0_6:UInt64) (c0_7:UInt64) (c0_8:UInt64) (c0_10:UInt64) (c1:List (UInt8)):OT jh.Y:=
 let z0:(PUnit×PUnit)×(Int×UInt64×UInt64×UInt64×UInt64×UInt64×UInt64×UInt64×UInt64×List UInt8×UInt64×PUnit)×PUnit×PUnit:=(((),()),(c0_0,c0_1,c0_2,c0_3,c0_4,c0_5,c0_6,c0_7,c0_8,c1++a1,c0_10,()),(),())
 let z1:=(g0_0 z0).snd.fst
 let z2:=z1.snd
 let z3:=z2.snd
 let z4:=z3.snd
 let z5:=z4.snd
 let z6:=z5.snd
 let z7:=z6.snd
 let z8:=z7.snd
 let z9:=z8.snd
 let z10:=z9.snd
 let z11:=z10.fst
 (gd [decide ((List.length c1+List.length a1)*1<=140737488355328),ok0 z0,lb ((z11,()),())] (.ok ⟨Mo,((),((z1.fst,(z2.fst,(z3.fst,(z4.fst,(z5.fst,(z6.fst,(z7.fst,(z8.fst,(z9.fst,((),(z10.snd.fst,()))))))))))),(z11,())))⟩))
theorem aAU (ok0:cE->Bool) (g0_0:cE->kc) (x:Fl) (Q:jh.Y->Prop):wpf te R4 (aO 0 (cl py 0 ok0 (B2 g0_0)) av) 1000 Tryz.f109 (jh.inp.inj x).tm (jh.inp.inj x).hp (fnK jh Rn Q) (λ_ _=>False)=(U5 ok0 g0_0 (x.1.2.1) (x.2.1.1) (x.2.1.2.1) (x.2.1.2.2.1) (x.2.1.2.2.2.1) (x.2.1.2.2.2.2.1) (x.2.1.2.2.2.2.2.1) (x.2.1.2.2.2.2.2.2.1) (x.2.1.2.2.2.2.2.2.2.1) (x.2.1.2.2.2.2.2.2.2.2.1) (x.2.1.2.2.2.2.2.2.2.2.2.2.1) (x.2.2.1)).wpR Q:=by kernel_rfl
theorem aeN (ok0:cE->Bool) (g0_0:cE->kc) (h0:∀ s:cE,ok0 s=true->∃ m e,al (uk) m s=some e/\(B2 g0_0 s).run=some e) (pre:Fl->Bool) (F:Fl->OT jh.Y) (hF:∀ (x:Fl) oy,pre x=true->(F x).run=some oy->(U5 ok0 g0_0 (x.1.2.1) (x.2.1.1) (x.2.1.2.1) (x.2.1.2.2.1) (x.2.1.2.2.2.1) (x.2.1.2.2.2.2.1) (x.2.1.2.2.2.2.2.1) (x.2.1.2.2.2.2.2.2.1) (x.2.1.2.2.2.2.2.2.2.1) (x.2.1.2.2.2.2.2.2.2.2.1) (x.2.1.2.2.2.2.2.2.2.2.2.2.1) (x.2.2.1)).run=some oy):ac Tryz.prog 109 (jh.aI pre F):=
 aD ar Dp R3 (f:=109) (fn:=Tryz.f109) (c:=aj Tryz.f109) (by kernel_rfl) (by kernel_rfl) (by kernel_rfl) (S:=jh) (k:=2) (by kernel_rfl) (λR hR=>(aB (c:=(aj Tryz.f109)) (by kernel_rfl) (id:=0) (by kernel_rfl) (aR ar Dp R3 (sh:=py) hR (xs:=ZQ) (aC (by kernel_rfl) (by kernel_rfl) hR) aL af (n:=1000) (T:=uk) (λs Q=>avB s Q) (ok:=ok0) (f:=B2 g0_0) h0) af)) (n:=1000) (sel:=Rn) (λv o h=>by cases h;rfl) (pre:=pre) (F:=F) (T:=λx=>U5 ok0 g0_0 (x.1.2.1) (x.2.1.1) (x.2.1.2.1) (x.2.1.2.2.1) (x.2.1.2.2.2.1) (x.2.1.2.2.2.2.1) (x.2.1.2.2.2.2.2.1) (x.2.1.2.2.2.2.2.2.1) (x.2.1.2.2.2.2.2.2.2.1) (x.2.1.2.2.2.2.2.2.2.2.1) (x.2.1.2.2.2.2.2.2.2.2.2.2.1) (x.2.2.1)) (λx Q=>aAU ok0 g0_0 x Q) hF
def aob (s:List UInt64×UInt64×List UInt8):List UInt64×UInt64×List UInt8:=(xu s.1 (s.2.2.take 128) (s.2.1+128) false,s.2.1+128,s.2.2.drop 128)
def L9 (s:List UInt64×UInt64×List UInt8):List UInt64×UInt64×List UInt8:=upto (λ_ s=>aob s) s ((s.2.2.length-1)/128)
abbrev aIQ:Type:=Int×UInt64×UInt64×UInt64×UInt64×UInt64×UInt64×UInt64×UInt64×List UInt8×UInt64×Unit
def aF9 (n:Int) (s:List UInt64×UInt64×List UInt8):aIQ:=(n,s.1.getD 0 0,s.1.getD 1 0,s.1.getD 2 0,s.1.getD 3 0,s.1.getD 4 0,s.1.getD 5 0,s.1.getD 6 0,s.1.getD 7 0,s.2.2,s.2.1,())
def aHQ (x:aIQ):List UInt64×UInt64×List UInt8:=([x.2.1,x.2.2.1,x.2.2.2.1,x.2.2.2.2.1,x.2.2.2.2.2.1,x.2.2.2.2.2.2.1,x.2.2.2.2.2.2.2.1,x.2.2.2.2.2.2.2.2.1],x.2.2.2.2.2.2.2.2.2.2.1,x.2.2.2.2.2.2.2.2.2.1)
theorem ua {h:List UInt64} {b:List UInt8} {c:UInt64} {l:Bool} (hh:h.length=8):(xu h b c l).length=8:=by unfold xu;rw [kJ];exact hh
def Ro (_:cE):Bool:=true
def ZT (s:cE):kc:=(((),()),(aF9 s.2.1.1 (L9 (aHQ s.2.1)),(),()))
theorem avD:∀ s:cE,Ro s=true->∃ m e,al uk m s=some e/\(B2 ZT s).run=some e:=by
 rintro ⟨⟨⟨⟩,⟨⟩⟩,⟨⟨n,h0,h1,h2,h3,h4,h5,h6,h7,w,c,⟨⟩⟩,⟨⟩,⟨⟩⟩⟩ _
 have:=(aP (T:=uk) (λ_ s=>((((),()),(aF9 n s,(),())):cE)) (λ_ s=>aob s) (λs=>(⟨(.exit 0,ri),(((),()),(aF9 n s,(),()))⟩:aE)) ((w.length-1)/128) ([h0,h1,h2,h3,h4,h5,h6,h7],c,w)
  (λk s=>s.1.length=8/\s.2.2.length+128*k=w.length) ⟨rfl,by simp⟩ (λk s hk hs=>⟨?_,?_⟩) (λs hs=> ?_)).1
 ·obtain ⟨m,hm⟩:=this
  exact ⟨m,_,hm,rfl⟩
 ·obtain ⟨h,c,v⟩:=s
  obtain ⟨a1,a2⟩:=hs
  dsimp only at a1 a2
  have hv:128<v.length:=by omega
  have t1: [h.getD 0 0,h.getD 1 0,h.getD 2 0,h.getD 3 0,h.getD 4 0,h.getD 5 0,h.getD 6 0,h.getD 7 0]=h:=(rfl:_=tab h 8 0).trans (jo a1)
  have t2:tab (v.take 128) 128 0=v.take 128:=jo (by simp;omega)
  have t3:(v.take 128).length=128:=by simp;omega
  refine (OT.ao (decide_eq_true (by dsimp only [aF9];omega))).trans ((ah ?_).trans ?_)
  ·simp only [aF9,List.drop_zero,t3,List.all_cons,List.all_nil,Bool.and_true,Bool.and_eq_true]
   exact ⟨fB (by omega),rfl,rfl,fB (by omega)⟩
  ·simp only [OT.cP,aF9,List.drop_zero,t1,t2]
   rfl
 ·obtain ⟨h,c,v⟩:=s
  obtain ⟨a1,a2⟩:=hs
  dsimp only at a1 a2
  refine ⟨ua a1,?_⟩
  simp only [aob,List.length_drop]
  omega
 ·obtain ⟨h,c,v⟩:=s
  obtain ⟨a1,a2⟩:=hs
  dsimp only at a1 a2
  exact OT.aq (decide_eq_false (by dsimp only [aF9];omega))
def Bm (x:aJu) (w:List UInt8):List UInt64×UInt64×List UInt8:=([x.2.1,x.2.2.1,x.2.2.2.1,x.2.2.2.2.1,x.2.2.2.2.2.1,x.2.2.2.2.2.2.1,x.2.2.2.2.2.2.2.1,x.2.2.2.2.2.2.2.2.1],x.2.2.2.2.2.2.2.2.2.2.1,w)
def r9 (s:List UInt64×UInt64×List UInt8) (b:List UInt8):List UInt64×UInt64×List UInt8:=L9 (s.1,s.2.1,s.2.2++b)
theorem akb (s:List UInt64×UInt64×List UInt8):∀ k,(upto (λ_ s=>aob s) s k).2.2.length<=s.2.2.length
 |0=>Nat.le_refl _
 |k+1=>by
  have:=akb s k
  show (List.drop 128 (upto (λ_ s=>aob s) s k).2.2).length<=_
  rw [List.length_drop]
  omega
theorem Qx {n:Int} {h:List UInt64} {c:UInt64} {w:List UInt8} (hh:h.length=8):Bm (apg n h c) w=(h,c,w):=by
 have: [h.getD 0 0,h.getD 1 0,h.getD 2 0,h.getD 3 0,h.getD 4 0,h.getD 5 0,h.getD 6 0,h.getD 7 0]=h:=(rfl:_=tab h 8 0).trans (jo hh)
 simp only [Bm,apg,this]
theorem aIs (s:List UInt64×UInt64×List UInt8) (hs:s.1.length=8):∀ k,(upto (λ_ s=>aob s) s k).1.length=8
 |0=>hs
 |k+1=>ua (aIs s hs k)
theorem au2 (s:List UInt64×UInt64×List UInt8):∀ k,(upto (λ_ s=>aob s) s k).2.2.length=s.2.2.length-128*k
 |0=>rfl
 |k+1=>by
  have:=au2 s k
  show (List.drop 128 (upto (λ_ s=>aob s) s k).2.2).length=_
  rw [List.length_drop,this]
  omega
theorem aAD (s:List UInt64×UInt64×List UInt8) (hs:s.1.length=8):(L9 s).1.length=8:=aIs s hs _
theorem aoa (s:List UInt64×UInt64×List UInt8):(L9 s).2.2.length<=128:=by
 unfold L9
 rw [au2]
 omega
def Fk (x:Fl):Bool:=decide (x.2.2.1.length+x.1.2.1.length<=140737488355328)
def akt (x:Fl):OT jh.Y:=.ok ⟨Mo,((),(apg x.2.1.1 (r9 (Bm x.2.1 x.2.2.1) x.1.2.1).1 (r9 (Bm x.2.1 x.2.2.1) x.1.2.1).2.1,((r9 (Bm x.2.1 x.2.2.1) x.1.2.1).2.2,())))⟩
theorem avC:ac Tryz.prog 109 (jh.aI Fk akt):=aeN Ro ZT avD _ _ λx oy hp ho=>by
 rw [<-ho]
 clear ho
 obtain ⟨⟨⟨⟩,b,⟨⟩⟩,⟨⟨n,h0,h1,h2,h3,h4,h5,h6,h7,⟨⟩,c,⟨⟩⟩,w,⟨⟩⟩⟩:=x
 have hp':=of_decide_eq_true hp
 dsimp only at hp'
 refine (ah ?_).trans rfl
 simp only [List.all_cons,List.all_nil,Bool.and_true,Bool.and_eq_true]
 refine ⟨decide_eq_true (by omega),rfl,decide_eq_true ?_⟩
 have:=akb ([h0,h1,h2,h3,h4,h5,h6,h7],c,w++b) (((w++b).length-1)/128)
 show (L9 ([h0,h1,h2,h3,h4,h5,h6,h7],c,w++b)).2.2.length<=_
 refine Nat.le_trans this ?_
 show (w++b).length<=_
 rw [List.length_append]
 exact hp'
def zn:cn:=(jh.aI Fk akt)
theorem ZS:ac Tryz.prog 109 zn:=avC
theorem ZR:aG zn:=aA
def xo:Env:=ay 109 zn R4
theorem rL:aQ Tryz.prog xo:=ag ZS Dp
theorem Dh:ax xo:=ae ZR Ob
theorem Hv:aW Tryz.prog te xo:=aJ follows ar rL Dh
def um:aw:=⟨[.ptr 0 0 0],[(0,aJn (.own 1)),(1,.row .u8)],false,2,true⟩
abbrev aoE:Type:=((Unit)×Unit)×(((Int)×(UInt64)×(UInt64)×(UInt64)×(UInt64)×(UInt64)×(UInt64)×(UInt64)×(UInt64)×(Unit)×(UInt64)×Unit)×(List (UInt8))×Unit)
def Mr:Shape:=⟨51,[(5,.ptr 2 0 0),(6,.own 3),(33,.val false .int),(34,.val false .int)],[(0,.cells [.val false .int,.val false .u64,.val false .u64,.val false .u64,.val false .u64,.val false .u64,.val false .u64,.val false .u64,.val false .u64,.own 1,.val false .u64]),(1,.row .u8),(2,.row .u64),(3,.row .u8)],2,true⟩
abbrev dP:Type:=((Unit)×(Unit)×(Int)×(Int)×Unit)×(((Int)×(UInt64)×(UInt64)×(UInt64)×(UInt64)×(UInt64)×(UInt64)×(UInt64)×(UInt64)×(Unit)×(UInt64)×Unit)×(List (UInt8))×(List (UInt64))×(List (UInt8))×Unit)
def B6:Shape:=⟨51,[(6,.own 2)],[(0,.cells [.val false .int,.val false .u64,.val false .u64,.val false .u64,.val false .u64,.val false .u64,.val false .u64,.val false .u64,.val false .u64,.own 1,.val false .u64]),(1,.row .u8),(2,.row .u8)],2,true⟩
abbrev pA:Type:=((Unit)×Unit)×(((Int)×(UInt64)×(UInt64)×(UInt64)×(UInt64)×(UInt64)×(UInt64)×(UInt64)×(UInt64)×(Unit)×(UInt64)×Unit)×(List (UInt8))×(List (UInt8))×Unit)
def avH:SE->Option Shape:=fC [(0,B6)] none
def aGz (a33:Int) (a34:Int) (c0_0:Int) (c0_1:UInt64) (c0_2:UInt64) (c0_3:UInt64) (c0_4:UInt64) (c0_5:UInt64) (c0_6:UInt64) (c0_7:UInt64) (c0_8:UInt64) (c0_10:UInt64) (c1:List (UInt8)) (c2:List (UInt64)) (c3:List (UInt8)):OT (Sum dP aE):=
 let z0:Int:=Int.tdiv a34 (8:Int)
 let z1:Int:=(8:Int)*Int.tmod a34 (8:Int)
 let z2:Nat:=List.length c3
 let z3:Nat:=Int.toNat a34
 (.br (decide (a34<a33))
 (gd [true&&inR z0,inB z0 8,decide (Int.toNat z0+0<List.length c2),inR z1,decide ((0:Int)<=z1),inB a34 z2,decide (z3<z2),inR (a34+(1:Int))] (.ok (.inl (((),((),(a33,(a34+(1:Int),())))),((c0_0,(c0_1,(c0_2,(c0_3,(c0_4,(c0_5,(c0_6,(c0_7,(c0_8,((),(c0_10,()))))))))))),(c1,(c2,(List.set c3 z3 (UInt64.toUInt8 (bk (List.getD c2 (Int.toNat z0+0) (0:UInt64)) z1)),()))))))))
 (.ok (.inr ⟨(.exit 0,B6),(((),()),((c0_0,(c0_1,(c0_2,(c0_3,(c0_4,(c0_5,(c0_6,(c0_7,(c0_8,((),(c0_10,()))))))))))),(c1,(c3,()))))⟩)))
def Ms (s:dP):OT (Sum dP aE):=aGz (s.1.2.2.1) (s.1.2.2.2.1) (s.2.1.1) (s.2.1.2.1) (s.2.1.2.2.1) (s.2.1.2.2.2.1) (s.2.1.2.2.2.2.1) (s.2.1.2.2.2.2.2.1) (s.2.1.2.2.2.2.2.2.1) (s.2.1.2.2.2.2.2.2.2.1) (s.2.1.2.2.2.2.2.2.2.2.1) (s.2.1.2.2.2.2.2.2.2.2.2.2.1) (s.2.2.1) (s.2.2.2.1) (s.2.2.2.2.1)
theorem aGw (s:dP) (Q:Sum dP aE->Prop):wps te xo av 1000 (aU (aj Tryz.f110) 0) (Mr.inj s) (bY Mr avH (Q:Sum Mr.T aE->Prop))=(Ms s).wpR Q:=by kernel_rfl
def Vb (g0_0:dP->pA) (s:dP):OT aE:=(.ok ⟨(.exit 0,B6),g0_0 s⟩)
def aeY:az:=⟨[.own 2],[(0,.cells [.val false .int,.val false .u64,.val false .u64,.val false .u64,.val false .u64,.val false .u64,.val false .u64,.val false .u64,.val false .u64,.own 1,.val false .u64]),(1,.row .u8),(2,.row .u8)],false⟩
def akw:SV->Option az:=λ_=>some aeY
def avJ (ok0:dP->Bool) (g0_0:dP->pA) (c0_0:Int) (c0_1:UInt64) (c0_2:UInt64) (c0_3:UInt64) (c0_4:UInt64) (c0_5:UInt64) (c0_6:UInt64) (c0_7:UInt64) (c0_8:UInt64) (c0_10:UInt64) (c1:List (UInt8)):OT um.Y:=
 let z0:Nat:=List.length c1
 let z1:List UInt8:=List.take 128 c1++List.drop z0 (List.replicate 128 (0:UInt8))
 let z2:List UInt8:=List.replicate (Int.toNat c0_0) (0:UInt8)
 let z3:List UInt64:=xu [c0_1,c0_2,c0_3,c0_4,c0_5,c0_6,c0_7,c0_8] (tab z1 128 (0:UInt8)) (c0_10+i2u (↑(min z0 128):Int)) true
 let z4:(PUnit×PUnit×Int×Int×PUnit)×(Int×UInt64×UInt64×UInt64×UInt64×UInt64×UInt64×UInt64×UInt64×PUnit×UInt64×PUnit)×List UInt8×List UInt64×List UInt8×PUnit:=(((),(),(↑(List.length z2):Int),(0:Int),()),(c0_0,c0_1,c0_2,c0_3,c0_4,c0_5,c0_6,c0_7,c0_8,(),c0_10,()),c1,[List.getD z3 0 0,List.getD z3 1 0,List.getD z3 2 0,List.getD z3 3 0,List.getD z3 4 0,List.getD z3 5 0,List.getD z3 6 0,List.getD z3 7 0],z2,())
 let z5:=(g0_0 z4).snd
 let z6:=z5.fst
 let z7:=z6.snd
 let z8:=z7.snd
 let z9:=z8.snd
 let z10:=z9.snd
 let z11:=z10.snd
 let z12:=z11.snd
 let z13:=z12.snd
 let z14:=z13.snd
 let z15:=z5.snd
 (gd [decide (128<=List.length z1),decide ((0:Int)<=c0_0)&&decide (c0_0<=c0_0)&&decide (c0_0*(1:Int)<=(140737488355328:Int))&&decide (c0_0<=(140737488355328:Int)),ok0 z4] (.ok ⟨aeY,(((),()),((z6.fst,(z7.fst,(z8.fst,(z9.fst,(z10.fst,(z11.fst,(z12.fst,(z13.fst,(z14.fst,((),(z14.snd.snd.fst,()))))))))))),(z15.fst,(z15.snd.fst,()))))⟩))
theorem aID (ok0:dP->Bool) (g0_0:dP->pA) (x:aoE) (Q:um.Y->Prop):wpf te xo (aO 0 (cl Mr 0 ok0 (Vb g0_0)) av) 1000 Tryz.f110 (um.inp.inj x).tm (um.inp.inj x).hp (fnK um akw Q) (λ_ _=>False)=(avJ ok0 g0_0 (x.2.1.1) (x.2.1.2.1) (x.2.1.2.2.1) (x.2.1.2.2.2.1) (x.2.1.2.2.2.2.1) (x.2.1.2.2.2.2.2.1) (x.2.1.2.2.2.2.2.2.1) (x.2.1.2.2.2.2.2.2.2.1) (x.2.1.2.2.2.2.2.2.2.2.1) (x.2.1.2.2.2.2.2.2.2.2.2.2.1) (x.2.2.1)).wpR Q:=by kernel_rfl
theorem avI (ok0:dP->Bool) (g0_0:dP->pA) (h0:∀ s:dP,ok0 s=true->∃ m e,al (Ms) m s=some e/\(Vb g0_0 s).run=some e) (pre:aoE->Bool) (F:aoE->OT um.Y) (hF:∀ (x:aoE) oy,pre x=true->(F x).run=some oy->(avJ ok0 g0_0 (x.2.1.1) (x.2.1.2.1) (x.2.1.2.2.1) (x.2.1.2.2.2.1) (x.2.1.2.2.2.2.1) (x.2.1.2.2.2.2.2.1) (x.2.1.2.2.2.2.2.2.1) (x.2.1.2.2.2.2.2.2.2.1) (x.2.1.2.2.2.2.2.2.2.2.1) (x.2.1.2.2.2.2.2.2.2.2.2.2.1) (x.2.2.1)).run=some oy):ac Tryz.prog 110 (um.aI pre F):=
 aD ar rL Hv (f:=110) (fn:=Tryz.f110) (c:=aj Tryz.f110) (by kernel_rfl) (by kernel_rfl) (by kernel_rfl) (S:=um) (k:=2) (by kernel_rfl) (λR hR=>(aB (c:=(aj Tryz.f110)) (by kernel_rfl) (id:=0) (by kernel_rfl) (aR ar rL Hv (sh:=Mr) hR (xs:=avH) (aC (by kernel_rfl) (by kernel_rfl) hR) aL af (n:=1000) (T:=Ms) (λs Q=>aGw s Q) (ok:=ok0) (f:=Vb g0_0) h0) af)) (n:=1000) (sel:=akw) (λv o h=>by cases h;rfl) (pre:=pre) (F:=F) (T:=λx=>avJ ok0 g0_0 (x.2.1.1) (x.2.1.2.1) (x.2.1.2.2.1) (x.2.1.2.2.2.1) (x.2.1.2.2.2.2.1) (x.2.1.2.2.2.2.2.1) (x.2.1.2.2.2.2.2.2.1) (x.2.1.2.2.2.2.2.2.2.1) (x.2.1.2.2.2.2.2.2.2.2.1) (x.2.1.2.2.2.2.2.2.2.2.2.2.1) (x.2.2.1)) (λx Q=>aID ok0 g0_0 x Q) hF
def HP (h:List UInt64) (n:Nat):List UInt8:=upto (λk o=>o.set k (UInt64.toUInt8 (bk (h.getD (k/8) 0) (8*((k%8:Nat):Int))))) (List.replicate n 0) n
def Va (s:dP):Bool:=decide (s.1.2.2.2.1=0/\s.2.2.2.1.length=8/\s.1.2.2.1<=64/\0<=s.1.2.2.1/\s.2.2.2.2.1=List.replicate s.1.2.2.1.toNat 0)
def aeZ (s:dP):pA:=(((),()),(s.2.1,s.2.2.1,HP s.2.2.2.1 s.1.2.2.1.toNat,()))
theorem aGy:∀ s:dP,Va s=true->∃ m e,al Ms m s=some e/\(Vb aeZ s).run=some e:=by
 rintro ⟨⟨⟨⟩,⟨⟩,n,i,⟨⟩⟩,⟨d,w,h,o,⟨⟩⟩⟩ hh
 have h':=of_decide_eq_true hh
 dsimp only at h'
 obtain ⟨rfl,hl,hn,hn0,rfl⟩:=h'
 obtain ⟨k,rfl⟩:∃ k:Nat,n=(k:Int):=⟨n.toNat,by omega⟩
 have:=(aP (T:=Ms) (λi o=>((((),(),(k:Int),(i:Int),()),(d,w,h,o,())):dP)) (λk o=>o.set k (UInt64.toUInt8 (bk (h.getD (k/8) 0) (8*((k%8:Nat):Int)))))
  (λo=>(⟨(.exit 0,B6),(((),()),(d,w,o,()))⟩:aE)) k (List.replicate k 0) (λ_ o=>o.length=k) (by simp) (λi o hi ho=>⟨?_,by rw [List.length_set];exact ho⟩) (λo ho=> ?_)).1
 ·obtain ⟨m,hm⟩:=this
  exact ⟨m,_,hm,rfl⟩
 ·have t1:Int.tdiv (i:Int) 8=((i/8:Nat):Int):=by rw [Int.tdiv_eq_ediv_of_nonneg (by omega)];omega
  have t2:Int.tmod (i:Int) 8=((i%8:Nat):Int):=by rw [Int.tmod_eq_emod_of_nonneg (by omega)];omega
  refine (OT.ao (decide_eq_true (by dsimp only;omega))).trans ((ah ?_).trans ?_)
  ·simp only [t1,t2,hl,ho,Int.toNat_natCast,List.all_cons,List.all_nil,Bool.and_true,Bool.and_eq_true]
   exact ⟨⟨trivial,aH (by omega)⟩,aN (by omega),decide_eq_true (by omega),aH (by omega),decide_eq_true (by omega),aN (by omega),decide_eq_true (by omega),aH (by omega)⟩
  ·simp only [OT.cP,t1,t2,Int.toNat_natCast,Nat.add_zero]
   rfl
 ·exact OT.aq (decide_eq_false (by dsimp only;omega))
def nj (w:List UInt8):List UInt8:=w.take 128++(List.replicate 128 (0:UInt8)).drop w.length
theorem Bk {w:List UInt8} (h:w.length<=128):(nj w).length=128:=by
 simp only [nj,List.length_append,List.length_take,List.length_drop,List.length_replicate]
 omega
def aD9 (n:Int) (s:List UInt64×UInt64×List UInt8):List UInt8:=HP (xu s.1 (nj s.2.2) (s.2.1+i2u (s.2.2.length:Int)) true) n.toNat
theorem aeX {n:Int} {d:aJu} {w:List UInt8} {h:List UInt64} (hh:h.length=8) (hn0:0<=n) (hn:n<=64):Va (((),(),n,0,()),(d,w,h,List.replicate n.toNat 0,()))=true:=decide_eq_true ⟨rfl,hh,hn,hn0,rfl⟩
def rm (p:List UInt8) (n:Int) (b:List UInt8):List UInt8:=aD9 n (r9 (amJ p n,0,[]) b)
def U9 (x:aoE):Bool:=decide (0<=x.2.1.1/\x.2.1.1<=64/\x.2.2.1.length<=128)
def aCm (x:aoE):OT um.Y:=.ok ⟨aeY,(((),()),(x.2.1,(x.2.2.1,(aD9 x.2.1.1 (Bm x.2.1 x.2.2.1),()))))⟩
theorem aGx:ac Tryz.prog 110 (um.aI U9 aCm):=avI Va aeZ aGy _ _ λx oy hp ho=>by
 rw [<-ho]
 clear ho
 obtain ⟨⟨⟨⟩,⟨⟩⟩,⟨⟨n,h0,h1,h2,h3,h4,h5,h6,h7,⟨⟩,c,⟨⟩⟩,w,⟨⟩⟩⟩:=x
 have hp':=of_decide_eq_true hp
 dsimp only at hp'
 obtain ⟨hn0,hn,hw⟩:=hp'
 have t1:w.take 128++List.drop w.length (List.replicate 128 (0:UInt8))=nj w:=rfl
 have t2:tab (nj w) 128 0=nj w:=jo (Bk hw)
 have t3:min w.length 128=w.length:=by omega
 have hc:∀ c,(xu [h0,h1,h2,h3,h4,h5,h6,h7] (nj w) c true).length=8:=λc=>ua rfl
 have t4:∀ c,tab (xu [h0,h1,h2,h3,h4,h5,h6,h7] (nj w) c true) 8 0=xu [h0,h1,h2,h3,h4,h5,h6,h7] (nj w) c true:=λc=>jo (hc c)
 have t5:((List.replicate n.toNat (0:UInt8)).length:Int)=n:=by simp;omega
 refine (ah ?_).trans ?_
 ·simp only [t1,t2,t3,t4,t5,Bk hw,List.all_cons,List.all_nil,Bool.and_true,Bool.and_eq_true]
  exact ⟨rfl,⟨⟨⟨decide_eq_true hn0,decide_eq_true (Int.le_refl _)⟩,decide_eq_true (by omega)⟩,decide_eq_true (by omega)⟩,aeX (hc _) hn0 hn⟩
 ·simp only [t1,t2,t3,t4,t5,aeZ]
  rfl
def Mq:cn:=(um.aI U9 aCm)
theorem aoD:ac Tryz.prog 110 Mq:=aGx
theorem aoC:aG Mq:=aA
def aa5:Env:=ay 110 Mq xo
theorem N7:aQ Tryz.prog aa5:=ag aoD rL
theorem N8:ax aa5:=ae aoC Dh
theorem apd:aW Tryz.prog te aa5:=aJ follows ar N7 N8
def kx:aw:=⟨[.val false .str,.val false .int,.val false (.list .u8)],[],true,0,false⟩
abbrev Rq:Type:=((List UInt8)×(Int)×(List (UInt8))×Unit)×(Unit)
def wG:az:=⟨[.own 0,.val false .int],[(0,.row .u8)],false⟩
def ZW:SV->Option az:=λ_=>some wG
def aeW (a0:List UInt8) (a1:Int) (a2:List (UInt8)):OT kx.Y:=
 let z0:Int×UInt64×UInt64×UInt64×UInt64×UInt64×UInt64×UInt64×UInt64×PUnit×UInt64×PUnit:=apg a1 (amJ a0 a1) (0:UInt64)
 let z1:=z0.fst
 let z2:=z0.snd
 let z3:=z2.snd
 let z4:=z3.snd
 let z5:=z4.snd
 let z6:=z5.snd
 let z7:=z6.snd
 let z8:=z7.snd
 let z9:=z8.snd
 let z10:Int×UInt64×UInt64×UInt64×UInt64×UInt64×UInt64×UInt64×UInt64×PUnit×UInt64×PUnit:=(z1,z2.fst,z3.fst,z4.fst,z5.fst,z6.fst,z7.fst,z8.fst,z9.fst,(),z9.snd.snd.fst,())
 let z11:List UInt64×UInt64×List UInt8:=r9 (Bm z10 []) a2
 let z12:=z11.snd
 let z13:Int×UInt64×UInt64×UInt64×UInt64×UInt64×UInt64×UInt64×UInt64×PUnit×UInt64×PUnit:=apg z1 z11.fst z12.fst
 let z14:=z13.fst
 let z15:=z13.snd
 let z16:=z15.snd
 let z17:=z16.snd
 let z18:=z17.snd
 let z19:=z18.snd
 let z20:=z19.snd
 let z21:=z20.snd
 let z22:=z21.snd
 let z23:Int×UInt64×UInt64×UInt64×UInt64×UInt64×UInt64×UInt64×UInt64×PUnit×UInt64×PUnit:=(z14,z15.fst,z16.fst,z17.fst,z18.fst,z19.fst,z20.fst,z21.fst,z22.fst,(),z22.snd.snd.fst,())
 let z24:=z12.snd
 (.br (gB a0 a1)
 (.ok ⟨wG,(((),((30:Int),())),([],()))⟩)
 (gd [Fk (((),a2,()),z10,[],()),U9 (((),()),z23,z24,())] (.ok ⟨wG,(((),((0:Int),())),(aD9 z14 (Bm z23 z24),()))⟩)))
theorem aGv (x:Rq) (Q:kx.Y->Prop):wpf te aa5 av 1000 Tryz.f67 (kx.inp.inj x).tm (kx.inp.inj x).hp (fnK kx ZW Q) (λ_ _=>False)=(aeW (x.1.1) (x.1.2.1) (x.1.2.2.1)).wpR Q:=by kernel_rfl
theorem aoB (pre:Rq->Bool) (F:Rq->OT kx.Y) (hF:∀ (x:Rq) oy,pre x=true->(F x).run=some oy->(aeW (x.1.1) (x.1.2.1) (x.1.2.2.1)).run=some oy):ac Tryz.prog 67 (kx.aI pre F):=
 aD ar N7 apd (f:=67) (fn:=Tryz.f67) (c:=aj Tryz.f67) (by kernel_rfl) (by kernel_rfl) (by kernel_rfl) (S:=kx) (k:=0) (by kernel_rfl) (λR hR=>af) (n:=1000) (sel:=ZW) (λv o h=>by cases h;rfl) (pre:=pre) (F:=F) (T:=λx=>aeW (x.1.1) (x.1.2.1) (x.1.2.2.1)) (λx Q=>aGv x Q) hF
def B5 (x:Rq):Bool:=decide (x.1.2.2.1.length<=140737488355328)
def U8 (x:Rq):OT kx.Y:=.br (gB x.1.1 x.1.2.1) (.ok ⟨wG,(((),((30:Int),())),([],()))⟩) (.ok ⟨wG,(((),((0:Int),())),(rm x.1.1 x.1.2.1 x.1.2.2.1,()))⟩)
theorem aAY:ac Tryz.prog 67 (kx.aI B5 U8):=aoB _ _ λx oy hp ho=>by
 rw [<-ho]
 clear ho
 obtain ⟨⟨p,n,b,⟨⟩⟩,⟨⟩⟩:=x
 have hp':=of_decide_eq_true hp
 dsimp only at hp'
 cases hk:gB p n
 ·refine (OT.aq hk).trans ?_
  have e1:Bm (apg n (amJ p n) 0) []=(amJ p n,0,[]):=Qx rfl
  have e2:∀ c w,Bm (apg n (r9 (amJ p n,0,[]) b).1 c) w=((r9 (amJ p n,0,[]) b).1,c,w):=λc w=>Qx (aAD _ rfl)
  have hn:0<=n/\n<=64:=by
   simp only [gB,Bool.or_eq_false_iff,decide_eq_false_iff_not] at hk
   omega
  refine (ah ?_).trans ?_
  ·simp only [List.all_cons,List.all_nil,Bool.and_true,Bool.and_eq_true]
   refine ⟨decide_eq_true (by simp only [List.length_nil];omega),decide_eq_true ⟨hn.1,hn.2,?_⟩⟩
   exact aoa _
  ·have key:aD9 n (Bm (apg n (r9 (Bm (apg n (amJ p n) 0) []) b).1 (r9 (Bm (apg n (amJ p n) 0) []) b).2.1) (r9 (Bm (apg n (amJ p n) 0) []) b).2.2)=rm p n b:=by
    rw [e1,e2]
    rfl
   simp only [U8,hk]
   exact congrArg (λl=>some (⟨wG,(((),((0:Int),())),(l,()))⟩:kx.Y)) key
 ·refine (OT.ao hk).trans ?_
  simp only [U8,hk]
  rfl
def Fo:cn:=(kx.aI B5 U8)
theorem aeV:ac Tryz.prog 67 Fo:=aAY
theorem aeU:aG Fo:=aA
def afN:Env:=ay 67 Fo aa5
theorem apc:aQ Tryz.prog afN:=ag aeV N7
theorem aa4:ax afN:=ae aeU N8
end Go.Proofs.YtohjofabochgfaaGreat

namespace Go.Proofs.YtohjofabochgfaaGreat
open Sx Go
def Sx.aa.nat (e:aa):Nat:=e.w0.toNat+18446744073709551616*(e.w1.toNat+18446744073709551616*(e.w2.toNat+18446744073709551616*e.w3.toNat))
def ofN (n:Nat):aa:=⟨UInt64.ofNat n,UInt64.ofNat (n/18446744073709551616),UInt64.ofNat (n/18446744073709551616/18446744073709551616),UInt64.ofNat (n/18446744073709551616/18446744073709551616/18446744073709551616)⟩
def xv (x y c:UInt64):UInt64:=UInt64.ofNat ((x.toNat+y.toNat+c.toNat)%18446744073709551616)
def zX (x y c:UInt64):UInt64:=UInt64.ofNat ((x.toNat+y.toNat+c.toNat)/18446744073709551616)
def qf (x y c:UInt64):UInt64:=UInt64.ofNat ((x.toNat+18446744073709551616-y.toNat-c.toNat)%18446744073709551616)
def VU (x y c:UInt64):UInt64:=UInt64.ofNat (if x.toNat<y.toNat+c.toNat then 1 else 0)
def awy (x y:UInt64):UInt64:=UInt64.ofNat (x.toNat*y.toNat/18446744073709551616)
theorem eZ (x:UInt64) (k:Nat) (hk:k<64):(bk x (k:Int)).toNat=x.toNat/2^k:=by
 unfold bk
 rw [if_pos (by omega),UInt64.toNat_shiftRight,UInt64.toNat_ofNat',Int.toNat_natCast,Nat.shiftRight_eq_div_pow]
 congr 2
 omega
theorem lv (x:UInt64) (k:Nat) (hk:k<64):(bR x (k:Int)).toNat=x.toNat*2^k%2^64:=by
 unfold bR
 rw [if_pos (by omega),UInt64.toNat_shiftLeft,UInt64.toNat_ofNat',Int.toNat_natCast,Nat.shiftLeft_eq]
 congr 3
 omega
theorem jN (x:UInt64):(x&&&4294967295).toNat=x.toNat%4294967296:=by
 rw [UInt64.toNat_and]
 exact Nat.and_two_pow_sub_one_eq_mod x.toNat 32
theorem aHV (a b:UInt64):bk a 32*bk b 32+bk (bk a 32*(b&&&4294967295)+bk ((a&&&4294967295)*(b&&&4294967295)) 32) 32+
 bk (((bk a 32*(b&&&4294967295)+bk ((a&&&4294967295)*(b&&&4294967295)) 32)&&&4294967295)+(a&&&4294967295)*bk b 32) 32=awy a b:=by
 have ha:=a.toNat_lt
 have hb:=b.toNat_lt
 obtain ⟨h1,h2,h3,h4⟩:=Lib.mul64_hi a.toNat b.toNat ha hb
 have s32:∀ x:UInt64,(bk x 32).toNat=x.toNat/4294967296:=λx=>eZ x 32 (by omega)
 have hx:=Lib.half_mul_le (a:=a.toNat/4294967296) (b:=b.toNat/4294967296) (by omega) (by omega)
 have hy:=Lib.half_mul_le (a:=a.toNat/4294967296) (b:=b.toNat%4294967296) (by omega) (by omega)
 have hz:=Lib.half_mul_le (a:=a.toNat%4294967296) (b:=b.toNat/4294967296) (by omega) (by omega)
 have e0:((a&&&4294967295)*(b&&&4294967295)).toNat=a.toNat%4294967296*(b.toNat%4294967296):=by
  rw [UInt64.toNat_mul,jN,jN,Nat.mod_eq_of_lt h1]
 have e1:(bk a 32*(b&&&4294967295)+bk ((a&&&4294967295)*(b&&&4294967295)) 32).toNat=a.toNat/4294967296*(b.toNat%4294967296)+a.toNat%4294967296*(b.toNat%4294967296)/4294967296:=by
  rw [UInt64.toNat_add,UInt64.toNat_mul,s32,s32,jN,e0,Nat.mod_eq_of_lt (a:=a.toNat/4294967296*(b.toNat%4294967296)) (by omega),Nat.mod_eq_of_lt h2]
 have e2:(((bk a 32*(b&&&4294967295)+bk ((a&&&4294967295)*(b&&&4294967295)) 32)&&&4294967295)+(a&&&4294967295)*bk b 32).toNat=
  (a.toNat/4294967296*(b.toNat%4294967296)+a.toNat%4294967296*(b.toNat%4294967296)/4294967296)%4294967296+a.toNat%4294967296*(b.toNat/4294967296):=by
  rw [UInt64.toNat_add,UInt64.toNat_mul,jN,jN,s32,e1,Nat.mod_eq_of_lt (a:=a.toNat%4294967296*(b.toNat/4294967296)) (by omega),Nat.mod_eq_of_lt h3]
 have hq:a.toNat*b.toNat/18446744073709551616<18446744073709551616:=by
  rw [Nat.div_lt_iff_lt_mul (by omega)]
  exact Nat.mul_lt_mul'' ha hb
 rw [<-UInt64.toNat_inj,UInt64.toNat_add,UInt64.toNat_add,UInt64.toNat_mul,s32,s32,s32,s32,e1,e2]
 have e3:(awy a b).toNat=a.toNat*b.toNat/18446744073709551616:=by
  unfold awy
  rw [UInt64.toNat_ofNat',Nat.mod_eq_of_lt hq]
 rw [e3,<-h4]
 rw [<-h4] at hq
 omega
def aGX (h l y:UInt64):UInt64:=UInt64.ofNat ((h.toNat*18446744073709551616+l.toNat)/y.toNat)
def Zs (h l y:UInt64):UInt64:=UInt64.ofNat ((h.toNat*18446744073709551616+l.toNat)%y.toNat)
theorem aAF {m A B N:Nat} (hm:0<m) (e:N=A+m*B):N/m=B+A/m/\N%m=A%m:=by
 subst e
 exact ⟨by rw [Nat.add_mul_div_left _ _ hm,Nat.add_comm],Nat.add_mul_mod_self_left ..⟩
theorem UM {m N u t q r K L:Nat} (hm:0<m) (hL:0<L) (hu:N=u*K+t) (hq:u=q*(m*L)+r):
 N/m=q*(L*K)+((r*K+t)*L)/(m*L)/\N%m=((r*K+t)*L)%(m*L)/L:=by
 have e:N=(r*K+t)+m*(q*(L*K)):=by
  have h1:q*(m*L)*K=m*(q*(L*K)):=by
   rw [Nat.mul_assoc q,Nat.mul_assoc m,Nat.mul_left_comm m q]
  rw [hu,hq,Nat.add_mul,h1]
  omega
 obtain ⟨h1,h2⟩:=aAF hm e
 rw [h1,h2,Nat.mul_div_mul_right _ _ hL,Nat.mul_mod_mul_right,Nat.mul_div_cancel _ hL]
 exact ⟨rfl,rfl⟩
theorem mF (x y c:UInt64):x.toNat+y.toNat+c.toNat=(xv x y c).toNat+18446744073709551616*(zX x y c).toNat:=by
 have hx:=x.toNat_lt
 have hy:=y.toNat_lt
 have hc:=c.toNat_lt
 unfold xv zX
 rw [UInt64.toNat_ofNat',UInt64.toNat_ofNat',Nat.mod_eq_of_lt (b:=2^64) (by omega),Nat.mod_eq_of_lt (b:=2^64) (by omega)]
 omega
theorem FD {x y c:UInt64} (hc:c.toNat<=1):(zX x y c).toNat<=1:=by
 have hx:=x.toNat_lt
 have hy:=y.toNat_lt
 unfold zX
 rw [UInt64.toNat_ofNat',Nat.mod_eq_of_lt (by omega)]
 omega
theorem Ai (x y c:UInt64):(VU x y c).toNat=if x.toNat<y.toNat+c.toNat then 1 else 0:=by
 unfold VU
 rw [UInt64.toNat_ofNat']
 split<;>rfl
theorem yj {x y c:UInt64}:(VU x y c).toNat<=1:=by
 rw [Ai]
 split<;>omega
theorem Aj {x y c:UInt64} (hc:c.toNat<=1):x.toNat+18446744073709551616*(VU x y c).toNat=(qf x y c).toNat+y.toNat+c.toNat:=by
 have hx:=x.toNat_lt
 have hy:=y.toNat_lt
 rw [Ai]
 unfold qf
 rw [UInt64.toNat_ofNat',Nat.mod_eq_of_lt (b:=2^64) (by omega)]
 split<;>omega
theorem jq (e:aa):e.nat<115792089237316195423570985008687907853269984665640564039457584007913129639936:=by
 have h0:=e.w0.toNat_lt
 have h1:=e.w1.toNat_lt
 have h2:=e.w2.toNat_lt
 have h3:=e.w3.toNat_lt
 unfold Sx.aa.nat
 omega
theorem DB {a b X Y:Nat} (ha:a<18446744073709551616) (hb:b<18446744073709551616) (h:a+18446744073709551616*X=b+18446744073709551616*Y):a=b/\X=Y:=by
 omega
theorem qM {e f:aa} (h:e.nat=f.nat):e=f:=by
 unfold Sx.aa.nat at h
 obtain ⟨h0,h⟩:=DB e.w0.toNat_lt f.w0.toNat_lt h
 obtain ⟨h1,h⟩:=DB e.w1.toNat_lt f.w1.toNat_lt h
 obtain ⟨h2,h3⟩:=DB e.w2.toNat_lt f.w2.toNat_lt h
 obtain ⟨a,b,c,d⟩:=e
 obtain ⟨a',b',c',d'⟩:=f
 simp only at h0 h1 h2 h3
 rw [UInt64.toNat_inj.1 h0,UInt64.toNat_inj.1 h1,UInt64.toNat_inj.1 h2,UInt64.toNat_inj.1 h3]
theorem div_eq {n a b:Nat} (ha:a<18446744073709551616) (h:n=a+18446744073709551616*b):n/18446744073709551616=b/\n%18446744073709551616=a:=by
 omega
theorem atj {n:Nat} {a b c d:UInt64} {k:Nat} (h:n=a.toNat+18446744073709551616*(b.toNat+18446744073709551616*(c.toNat+18446744073709551616*(d.toNat+18446744073709551616*k)))):ofN n=⟨a,b,c,d⟩:=by
 obtain ⟨h1,h0⟩:=div_eq a.toNat_lt h
 obtain ⟨h2,h3⟩:=div_eq b.toNat_lt h1
 obtain ⟨h4,h5⟩:=div_eq c.toNat_lt h2
 have h6:n/18446744073709551616/18446744073709551616/18446744073709551616%18446744073709551616=d.toNat:=by
  rw [h4]
  have:=d.toNat_lt
  omega
 unfold ofN
 have e:∀ (m:Nat) (x:UInt64),m%18446744073709551616=x.toNat->UInt64.ofNat m=x:=λm x hm=>by
  rw [<-UInt64.toNat_inj,UInt64.toNat_ofNat']
  exact hm
 rw [e _ a h0,e _ b h3,e _ c h5,e _ d h6]
theorem TL (n:Nat):(ofN n).nat=n%115792089237316195423570985008687907853269984665640564039457584007913129639936:=by
 unfold ofN aa.nat
 simp only [UInt64.toNat_ofNat']
 rw [show (2:Nat)^64=18446744073709551616 from rfl]
 omega
theorem km {n:Nat} (h:n<115792089237316195423570985008687907853269984665640564039457584007913129639936):(ofN n).nat=n:=by
 rw [TL]
 exact Nat.mod_eq_of_lt h
theorem vT (e:aa):ofN e.nat=e:=qM (km (jq e))
def qa (a b:aa):aa×Bool:=(ofN (a.nat+b.nat),Nat.ble 115792089237316195423570985008687907853269984665640564039457584007913129639936 (a.nat+b.nat))
def eu (a b:aa):aa×Bool:=(ofN (a.nat+115792089237316195423570985008687907853269984665640564039457584007913129639936-b.nat),Nat.blt a.nat b.nat)
theorem Vs {x y c s k X Y R:Nat} (h1:x+y+c=s+18446744073709551616*k) (h2:X+Y+k=R):(x+18446744073709551616*X)+(y+18446744073709551616*Y)+c=s+18446744073709551616*R:=by
 omega
theorem Sg {x y c s k X Y R Q:Nat} (h1:x+18446744073709551616*k=s+y+c) (h2:X+18446744073709551616*Q=R+Y+k):(x+18446744073709551616*X)+18446744073709551616*(18446744073709551616*Q)=s+18446744073709551616*R+(y+18446744073709551616*Y)+c:=by
 omega
theorem O6 (a b:aa):let k0:=zX a.w0 b.w0 0;let k1:=zX a.w1 b.w1 k0;let k2:=zX a.w2 b.w2 k1;let k3:=zX a.w3 b.w3 k2
 (k0.toNat<=1/\k1.toNat<=1/\k2.toNat<=1)/\qa a b=(⟨xv a.w0 b.w0 0,xv a.w1 b.w1 k0,xv a.w2 b.w2 k1,xv a.w3 b.w3 k2⟩,!(k3==0)):=by
 intro k0 k1 k2 k3
 have l0:k0.toNat<=1:=FD (by decide)
 have l1:k1.toNat<=1:=FD l0
 have l2:k2.toNat<=1:=FD l1
 have l3:k3.toNat<=1:=FD l2
 refine ⟨⟨l0,l1,l2⟩,?_⟩
 have h:=Vs (mF a.w0 b.w0 0) (Vs (mF a.w1 b.w1 k0) (Vs (mF a.w2 b.w2 k1) (mF a.w3 b.w3 k2)))
 rw [show (0:UInt64).toNat=0 from rfl,Nat.add_zero] at h
 unfold qa
 have hn:a.nat+b.nat=(xv a.w0 b.w0 0).toNat+18446744073709551616*((xv a.w1 b.w1 k0).toNat+18446744073709551616*((xv a.w2 b.w2 k1).toNat+18446744073709551616*((xv a.w3 b.w3 k2).toNat+18446744073709551616*k3.toNat))):=h
 rw [atj hn]
 congr 1
 have hs:=jq ⟨xv a.w0 b.w0 0,xv a.w1 b.w1 k0,xv a.w2 b.w2 k1,xv a.w3 b.w3 k2⟩
 unfold Sx.aa.nat at hs
 simp only at hs
 have hk:k3.toNat=0\/k3.toNat=1:=by omega
 rcases hk with hk|hk
 ·have e:k3=0:=UInt64.toNat_inj.1 hk
  rw [hk] at hn
  rw [e]
  cases hb:Nat.ble 115792089237316195423570985008687907853269984665640564039457584007913129639936 (a.nat+b.nat)
  ·rfl
  ·have:=Nat.le_of_ble_eq_true hb
   omega
 ·have e:(k3==0)=false:=by
   have:¬k3=0:=λe=>by rw [e] at hk;cases hk
   simpa using this
  rw [hk] at hn
  rw [e]
  exact Nat.ble_eq_true_of_le (by omega)
theorem DD (a b:aa):let k0:=VU a.w0 b.w0 0;let k1:=VU a.w1 b.w1 k0;let k2:=VU a.w2 b.w2 k1;let k3:=VU a.w3 b.w3 k2
 (k0.toNat<=1/\k1.toNat<=1/\k2.toNat<=1)/\eu a b=(⟨qf a.w0 b.w0 0,qf a.w1 b.w1 k0,qf a.w2 b.w2 k1,qf a.w3 b.w3 k2⟩,!(k3==0)):=by
 intro k0 k1 k2 k3
 have l0:k0.toNat<=1:=yj
 have l1:k1.toNat<=1:=yj
 have l2:k2.toNat<=1:=yj
 have l3:k3.toNat<=1:=yj
 refine ⟨⟨l0,l1,l2⟩,?_⟩
 have h:=Sg (Aj (x:=a.w0) (y:=b.w0) (c:=0) (by decide)) (Sg (Aj (x:=a.w1) (y:=b.w1) l0) (Sg (Aj (x:=a.w2) (y:=b.w2) l1) (Aj (x:=a.w3) (y:=b.w3) l2)))
 rw [show (0:UInt64).toNat=0 from rfl,Nat.add_zero] at h
 unfold eu
 have hs:=jq ⟨qf a.w0 b.w0 0,qf a.w1 b.w1 k0,qf a.w2 b.w2 k1,qf a.w3 b.w3 k2⟩
 have h':a.nat+18446744073709551616*(18446744073709551616*(18446744073709551616*(18446744073709551616*k3.toNat)))=aa.nat ⟨qf a.w0 b.w0 0,qf a.w1 b.w1 k0,qf a.w2 b.w2 k1,qf a.w3 b.w3 k2⟩+b.nat:=h
 have ha:=jq a
 have hb:=jq b
 have hS:=jq ⟨qf a.w0 b.w0 0,qf a.w1 b.w1 k0,qf a.w2 b.w2 k1,qf a.w3 b.w3 k2⟩
 have e1:ofN (a.nat+115792089237316195423570985008687907853269984665640564039457584007913129639936-b.nat)=⟨qf a.w0 b.w0 0,qf a.w1 b.w1 k0,qf a.w2 b.w2 k1,qf a.w3 b.w3 k2⟩:=by
  apply qM
  rw [TL]
  generalize aa.nat ⟨qf a.w0 b.w0 0,qf a.w1 b.w1 k0,qf a.w2 b.w2 k1,qf a.w3 b.w3 k2⟩=S at*
  omega
 rw [e1]
 congr 1
 generalize aa.nat ⟨qf a.w0 b.w0 0,qf a.w1 b.w1 k0,qf a.w2 b.w2 k1,qf a.w3 b.w3 k2⟩=S at*
 have hk:k3.toNat=0\/k3.toNat=1:=by omega
 rcases hk with hk|hk
 ·have e:k3=0:=UInt64.toNat_inj.1 hk
  rw [hk] at h'
  rw [e]
  cases hq:Nat.blt a.nat b.nat
  ·rfl
  ·have:=dR hq
   omega
 ·have e:(k3==0)=false:=by
   have:¬k3=0:=λe=>by rw [e] at hk;cases hk
   simpa using this
  rw [hk] at h'
  rw [e]
  exact Nat.ble_eq_true_of_le (show a.nat+1<=b.nat by omega)
def lst (e:aa):List UInt64:= [e.w0,e.w1,e.w2,e.w3]
def elemOf (l:List UInt64):aa:=⟨l.getD 0 0,l.getD 1 0,l.getD 2 0,l.getD 3 0⟩
theorem aS {l:List UInt64} (h:l.length=4):lst (elemOf l)=l:=by
 match l,h with
 | [a,b,c,d],_=>rfl
theorem an9 (e:aa):elemOf (lst e)=e:=rfl
theorem cK (e:aa):(lst e).length=4:=rfl
theorem rf {h l y:UInt64} (hy:0<y.toNat):(Zs h l y).toNat=(h.toNat*18446744073709551616+l.toNat)%y.toNat:=by
 unfold Zs
 rw [UInt64.toNat_ofNat']
 exact Nat.mod_eq_of_lt (Nat.lt_trans (Nat.mod_lt _ hy) y.toNat_lt)
theorem T3 (r x m:Nat):(r%m*18446744073709551616+x)%m=(r*18446744073709551616+x)%m:=by
 rw [Nat.add_mod,Nat.mul_mod,Nat.mod_mod,<-Nat.mul_mod,<-Nat.add_mod]
theorem afY (a b:aa):(eu a b).2=Nat.blt a.nat b.nat:=rfl
theorem mP {a b:aa} (h:b.nat<=a.nat):(eu a b).1.nat=a.nat-b.nat:=by
 have ha:=jq a
 show (ofN _).nat=_
 rw [TL]
 omega
theorem ae9 {w N r:Nat} (hr:r<64):(w+18446744073709551616*N)/2^r%2=w/2^r%2:=by
 have e:18446744073709551616*N=2^r*(2*(2^(63-r)*N)):=by
  rw [<-Nat.mul_assoc,<-Nat.mul_assoc,Nat.mul_comm (2^r) 2,Nat.mul_assoc 2,<-Nat.pow_add,show r+(63-r)=63 by omega]
 rw [e,Nat.add_mul_div_left _ _ (Nat.two_pow_pos r),Nat.add_mul_mod_self_left]
theorem DA {w N:Nat} (hw:w<18446744073709551616) (r:Nat):(w+18446744073709551616*N)/2^(64+r)=N/2^r:=by
 rw [Nat.pow_add,<-Nat.div_div_eq_div_mul,show 2^64=18446744073709551616 from rfl,show (w+18446744073709551616*N)/18446744073709551616=N by omega]
theorem rn {a:aa} {q r:Nat} (hq:q<4) (hr:r<64):((lst a).getD q 0).toNat/2^r%2=a.nat/2^(64*q+r)%2:=by
 have h0:=a.w0.toNat_lt
 have h1:=a.w1.toNat_lt
 have h2:=a.w2.toNat_lt
 unfold Sx.aa.nat
 have hq':q=0\/q=1\/q=2\/q=3:=by omega
 rcases hq' with rfl|rfl|rfl|rfl
 ·rw [Nat.mul_zero,Nat.zero_add,ae9 hr];rfl
 ·rw [show 64*1+r=64+r by omega,DA h0,ae9 hr];rfl
 ·rw [show 64*2+r=64+(64+r) by omega,DA h0,DA h1,ae9 hr];rfl
 ·rw [show 64*3+r=64+(64+(64+r)) by omega,DA h0,DA h1,DA h2];rfl
def afb (n i:Nat):Bool:=Nat.beq (n/2^i%2) 1
theorem Vj (x:UInt64):(x&&&1==1)=Nat.beq (x.toNat%2) 1:=by
 have e:(x&&&1).toNat=x.toNat%2:=by
  rw [UInt64.toNat_and]
  exact Nat.and_two_pow_sub_one_eq_mod x.toNat 1
 rw [<-e]
 by_cases h:x&&&1=1
 ·rw [h];rfl
 ·have h':¬(x&&&1).toNat=1:=λh'=>h (UInt64.toNat_inj.1 h')
  have h2:Nat.beq (x&&&1).toNat 1=false:=by
   cases hb:Nat.beq (x&&&1).toNat 1
   ·rfl
   ·exact absurd (Nat.eq_of_beq_eq_true hb) h'
  rw [h2]
  simpa using h
theorem azQ (x:aa):(x.w0&&&1==1)=(x.w0%2==1):=by
 have h:=Vj x.w0
 rw [h]
 have h2:(x.w0%2).toNat=x.w0.toNat%2:=by rw [UInt64.toNat_mod];rfl
 rw [<-h2]
 by_cases h:x.w0%2=1
 ·rw [h];rfl
 ·have hn:¬(x.w0%2).toNat=1:=λe=>h (UInt64.toNat_inj.1 e)
  have:Nat.beq (x.w0%2).toNat 1=false:=by
   cases hb:Nat.beq (x.w0%2).toNat 1
   ·rfl
   ·exact absurd (Nat.eq_of_beq_eq_true hb) hn
  rw [this]
  symm
  simpa using h
abbrev HB:Ty:=.prod .elem (.prod .elem (.prod .elem .bool))
end Go.Proofs.YtohjofabochgfaaGreat

namespace Go.Proofs.YtohjofabochgfaaGreat
open Sx Go
set_option maxRecDepth 100000
def Vq:aw:=⟨[.val false .u64,.val false .u64,.val false .u64],[],true,0,false⟩
abbrev awf:Type:=((UInt64)×(UInt64)×(UInt64)×Unit)×(Unit)
def awe:az:=⟨[.val false .u64,.val false .u64],[],false⟩
def FA (x:awf):Bool:=decide (x.1.2.2.1.toNat<=1)
def akR (x:awf):OT Vq.Y:=.ok ⟨awe,((xv x.1.1 x.1.2.1 x.1.2.2.1,zX x.1.1 x.1.2.1 x.1.2.2.1,()),())⟩
theorem aoS (a b c:UInt64) (hc:c.toNat<=1) (w:World):(callFunc 151 #[ia a,ia b,ia c]).run Tryz.prog w=.ok (.value (.tuple #[ia (xv a b c),ia (zX a b c)])) w:=by
 unfold ia
 rw [run_callFunc_extern Tryz.func151 (by kernel_rfl) (by kernel_rfl) (by kernel_rfl) (e:=add64Entry) (by kernel_rfl),run_add64 (a.toNat:Int) (b.toNat:Int) (c.toNat:Int) (by omega) (by omega) (by omega) (by omega)]
 have ha:=a.toNat_lt
 have hb:=b.toNat_lt
 have e1:(((xv a b c).toNat:Nat):Int)=((a.toNat:Int)+b.toNat+c.toNat)%18446744073709551616:=by
  unfold xv
  rw [UInt64.toNat_ofNat',Nat.mod_eq_of_lt (by omega)]
  omega
 have e2:(((zX a b c).toNat:Nat):Int)=((a.toNat:Int)+b.toNat+c.toNat)/18446744073709551616:=by
  unfold zX
  rw [UInt64.toNat_ofNat',Nat.mod_eq_of_lt (by omega)]
  omega
 rw [e1,e2]
 rfl
theorem awd:ac Tryz.prog 151 (Vq.aI FA akR):=by
 refine aB7 (k:=0) (by kernel_rfl) λx oy vs N w hp ho hr=> ?_
 obtain ⟨⟨a,b,c,⟨⟩⟩,⟨⟩⟩:=x
 cases ho
 have hc:c.toNat<=1:=of_decide_eq_true hp
 have hr':SV.cm N [.u64 a,.u64 b,.u64 c] vs:=hr
 simp only [SV.cm,SV.rel] at hr'
 obtain ⟨_,_,rfl,rfl,_,_,rfl,rfl,_,_,rfl,rfl,rfl⟩:=hr'
 refine ⟨.tup [.u64 (xv a b c),.u64 (zX a b c)],_,aoS a b c hc w,?_,⟨rfl,by kernel_rfl⟩⟩
 simp only [SV.rel]
 exact ⟨_,rfl,by simp only [SV.cm,SV.rel];exact ⟨_,_,rfl,rfl,_,_,rfl,rfl,rfl⟩⟩
def zx:cn:=(Vq.aI FA akR)
theorem aav:ac Tryz.prog 151 zx:=awd
theorem aau:aG zx:=aA
def VS:Env:=ay 151 zx afN
theorem afP:aQ Tryz.prog VS:=ag aav apc
theorem VR:ax VS:=ae aau aa4
def Vc:aw:=⟨[.val false .u64,.val false .u64,.val false .u64],[],true,0,false⟩
abbrev avM:Type:=((UInt64)×(UInt64)×(UInt64)×Unit)×(Unit)
def avL:az:=⟨[.val false .u64,.val false .u64],[],false⟩
def Fp (x:avM):Bool:=decide (x.1.2.2.1.toNat<=1)
def akx (x:avM):OT Vc.Y:=.ok ⟨avL,((qf x.1.1 x.1.2.1 x.1.2.2.1,VU x.1.1 x.1.2.1 x.1.2.2.1,()),())⟩
def aBI:Array Value->Sem Value:=λargs=>do
 let (x,y,b) <-Extern.MathBitsCarry.three "Sub64" args
 pure (Extern.MathBitsCarry.pair ((x+Extern.MathBitsCarry.m64-y-b)%Extern.MathBitsCarry.m64) (if x<y+b then 1 else 0))
theorem alm {P:Program} (x y b:Nat) (hb:b<=1) (w:World):
 (aBI #[.int .u64 x,.int .u64 y,.int .u64 b]).run P w=
  .ok (.tuple #[.int .u64 (((x+18446744073709551616-y-b)%18446744073709551616:Nat):Int),.int .u64 ((if x<y+b then 1 else 0:Nat):Int)]) w:=by
 have:b=0\/b=1:=by omega
 rcases this with rfl|rfl<;>rfl
theorem aoF (a b c:UInt64) (hc:c.toNat<=1) (w:World):(callFunc 153 #[ia a,ia b,ia c]).run Tryz.prog w=.ok (.value (.tuple #[ia (qf a b c),ia (VU a b c)])) w:=by
 unfold ia
 rw [run_callFunc_extern Tryz.func153 (by kernel_rfl) (by kernel_rfl) (by kernel_rfl) (e:=aBI) (by kernel_rfl),alm a.toNat b.toNat c.toNat (by omega)]
 have ha:=a.toNat_lt
 have hb:=b.toNat_lt
 have e1:(qf a b c).toNat=(a.toNat+18446744073709551616-b.toNat-c.toNat)%18446744073709551616:=by
  unfold qf
  rw [UInt64.toNat_ofNat',Nat.mod_eq_of_lt (by omega)]
 have e2:(VU a b c).toNat=if a.toNat<b.toNat+c.toNat then 1 else 0:=by
  unfold VU
  rw [UInt64.toNat_ofNat',Nat.mod_eq_of_lt (by split<;>omega)]
 rw [e1,e2]
 rfl
theorem avK:ac Tryz.prog 153 (Vc.aI Fp akx):=by
 refine aB7 (k:=0) (by kernel_rfl) λx oy vs N w hp ho hr=> ?_
 obtain ⟨⟨a,b,c,⟨⟩⟩,⟨⟩⟩:=x
 cases ho
 have hc:c.toNat<=1:=of_decide_eq_true hp
 have hr':SV.cm N [.u64 a,.u64 b,.u64 c] vs:=hr
 simp only [SV.cm,SV.rel] at hr'
 obtain ⟨_,_,rfl,rfl,_,_,rfl,rfl,_,_,rfl,rfl,rfl⟩:=hr'
 refine ⟨.tup [.u64 (qf a b c),.u64 (VU a b c)],_,aoF a b c hc w,?_,⟨rfl,by kernel_rfl⟩⟩
 simp only [SV.rel]
 exact ⟨_,rfl,by simp only [SV.cm,SV.rel];exact ⟨_,_,rfl,rfl,_,_,rfl,rfl,rfl⟩⟩
def zo:cn:=(Vc.aI Fp akx)
theorem ZY:ac Tryz.prog 153 zo:=avK
theorem ZX:aG zo:=aA
def Dj:Env:=ay 153 zo VS
theorem zN:aQ Tryz.prog Dj:=ag ZY afP
theorem Di:ax Dj:=ae ZX VR
theorem aa6:aW Tryz.prog te Dj:=aJ follows ar zN Di
def jk:aw:=⟨[.val false .u64,.val false .u64],[],true,0,false⟩
abbrev Fu:Type:=((UInt64)×(UInt64)×Unit)×(Unit)
def Mz:az:=⟨[.val false .u64,.val false .u64],[],false⟩
def Rx:SV->Option az:=λ_=>some Mz
def Iu (a0:UInt64) (a1:UInt64):OT jk.Y:=
 let z0:UInt64:=bk a0 (32:Int)
 let z1:UInt64:=bk a1 (32:Int)
 let z2:UInt64:=z0*(a1&&&(4294967295:UInt64))+bk ((a0&&&(4294967295:UInt64))*(a1&&&(4294967295:UInt64))) (32:Int)
 (.ok ⟨Mz,((z0*z1+bk z2 (32:Int)+bk ((z2&&&(4294967295:UInt64))+(a0&&&(4294967295:UInt64))*z1) (32:Int),(a0*a1,())),())⟩)
theorem aA1 (x:Fu) (Q:jk.Y->Prop):wpf te Dj av 1000 Tryz.f165 (jk.inp.inj x).tm (jk.inp.inj x).hp (fnK jk Rx Q) (λ_ _=>False)=(Iu (x.1.1) (x.1.2.1)).wpR Q:=by kernel_rfl
theorem ae3 (pre:Fu->Bool) (F:Fu->OT jk.Y) (hF:∀ (x:Fu) oy,pre x=true->(F x).run=some oy->(Iu (x.1.1) (x.1.2.1)).run=some oy):ac Tryz.prog 165 (jk.aI pre F):=
 aD ar zN aa6 (f:=165) (fn:=Tryz.f165) (c:=aj Tryz.f165) (by kernel_rfl) (by kernel_rfl) (by kernel_rfl) (S:=jk) (k:=0) (by kernel_rfl) (λR hR=>af) (n:=1000) (sel:=Rx) (λv o h=>by cases h;rfl) (pre:=pre) (F:=F) (T:=λx=>Iu (x.1.1) (x.1.2.1)) (λx Q=>aA1 x Q) hF
def Ry (_:Fu):Bool:=true
def Vg (x:Fu):OT jk.Y:=.ok ⟨Mz,((awy x.1.1 x.1.2.1,(x.1.1*x.1.2.1,())),())⟩
theorem avS:ac Tryz.prog 165 (jk.aI Ry Vg):=ae3 _ _ λx oy _ ho=>by
 rw [<-ho]
 simp only [Vg,Iu,aHV]
def zr:cn:=(jk.aI Ry Vg)
theorem Z8:ac Tryz.prog 165 zr:=avS
theorem Z7:aG zr:=aA
def Dr:Env:=ay 165 zr Dj
theorem zQ:aQ Tryz.prog Dr:=ag Z8 zN
theorem Dq:ax Dr:=ae Z7 Di
theorem aba:aW Tryz.prog te Dr:=aJ follows ar zQ Dq
def jl:aw:=⟨[.val false .u64],[],true,0,false⟩
abbrev Fx:Type:=((UInt64)×Unit)×(Unit)
def fo:az:=⟨[.val false .int],[],false⟩
def RA:SV->Option az:=λ_=>some fo
def B8 (a0:UInt64):OT jl.Y:=
 let z0:UInt64:=bk a0 (32:Int)
 let z1:UInt64:=bk z0 (16:Int)
 let z2:Int:=(↑(UInt8.toNat (UInt64.toUInt8 (bk z1 (8:Int)))):Int)
 let z3:List UInt8:=List.replicate 64 (8:UInt8)
 let z4:List UInt8:=List.append (List.append [(0:UInt8),(1:UInt8),(2:UInt8),(2:UInt8),(3:UInt8),(3:UInt8),(3:UInt8),(3:UInt8),(4:UInt8),(4:UInt8),(4:UInt8),(4:UInt8),(4:UInt8),(4:UInt8),(4:UInt8),(4:UInt8),(5:UInt8),(5:UInt8),(5:UInt8),(5:UInt8),(5:UInt8),(5:UInt8),(5:UInt8),(5:UInt8),(5:UInt8),(5:UInt8),(5:UInt8),(5:UInt8),(5:UInt8),(5:UInt8),(5:UInt8),(5:UInt8),(6:UInt8),(6:UInt8),(6:UInt8),(6:UInt8),(6:UInt8),(6:UInt8),(6:UInt8),(6:UInt8),(6:UInt8),(6:UInt8),(6:UInt8),(6:UInt8),(6:UInt8),(6:UInt8),(6:UInt8),(6:UInt8),(6:UInt8),(6:UInt8),(6:UInt8),(6:UInt8),(6:UInt8),(6:UInt8),(6:UInt8),(6:UInt8),(6:UInt8),(6:UInt8),(6:UInt8),(6:UInt8),(6:UInt8),(6:UInt8),(6:UInt8),(6:UInt8)] (List.replicate 64 (7:UInt8))) (List.append z3 z3)
 let z5:Int:=(56:Int)+(↑(UInt8.toNat (List.getD z4 (Int.toNat z2) (0:UInt8))):Int)
 let z6:Int:=(↑(UInt8.toNat (UInt64.toUInt8 z1)):Int)
 let z7:Int:=(48:Int)+(↑(UInt8.toNat (List.getD z4 (Int.toNat z6) (0:UInt8))):Int)
 let z8:Int:=(↑(UInt8.toNat (UInt64.toUInt8 (bk z0 (8:Int)))):Int)
 let z9:Int:=(40:Int)+(↑(UInt8.toNat (List.getD z4 (Int.toNat z8) (0:UInt8))):Int)
 let z10:Int:=(↑(UInt8.toNat (UInt64.toUInt8 z0)):Int)
 let z11:Int:=(32:Int)+(↑(UInt8.toNat (List.getD z4 (Int.toNat z10) (0:UInt8))):Int)
 let z12:UInt64:=bk a0 (16:Int)
 let z13:Int:=(↑(UInt8.toNat (UInt64.toUInt8 (bk z12 (8:Int)))):Int)
 let z14:Int:=(24:Int)+(↑(UInt8.toNat (List.getD z4 (Int.toNat z13) (0:UInt8))):Int)
 let z15:Int:=(↑(UInt8.toNat (UInt64.toUInt8 z12)):Int)
 let z16:Int:=(16:Int)+(↑(UInt8.toNat (List.getD z4 (Int.toNat z15) (0:UInt8))):Int)
 let z17:Int:=(↑(UInt8.toNat (UInt64.toUInt8 (bk a0 (8:Int)))):Int)
 let z18:Int:=(8:Int)+(↑(UInt8.toNat (List.getD z4 (Int.toNat z17) (0:UInt8))):Int)
 let z19:Int:=(↑(UInt8.toNat (UInt64.toUInt8 a0)):Int)
 let z20:Int:=(0:Int)+(↑(UInt8.toNat (List.getD z4 (Int.toNat z19) (0:UInt8))):Int)
 (.br (decide ((4294967296:UInt64)<=a0))
 (.br (decide ((65536:UInt64)<=z0))
  (.br (decide ((256:UInt64)<=z1))
   (gd [inB z2 256,inR z5] (.ok ⟨fo,((z5,()),())⟩))
   (gd [inB z6 256,inR z7] (.ok ⟨fo,((z7,()),())⟩)))
  (.br (decide ((256:UInt64)<=z0))
   (gd [inB z8 256,inR z9] (.ok ⟨fo,((z9,()),())⟩))
   (gd [inB z10 256,inR z11] (.ok ⟨fo,((z11,()),())⟩))))
 (.br (decide ((65536:UInt64)<=a0))
  (.br (decide ((256:UInt64)<=z12))
   (gd [inB z13 256,inR z14] (.ok ⟨fo,((z14,()),())⟩))
   (gd [inB z15 256,inR z16] (.ok ⟨fo,((z16,()),())⟩)))
  (.br (decide ((256:UInt64)<=a0))
   (gd [inB z17 256,inR z18] (.ok ⟨fo,((z18,()),())⟩))
   (gd [inB z19 256,inR z20] (.ok ⟨fo,((z20,()),())⟩)))))
theorem aA3 (x:Fx) (Q:jl.Y->Prop):wpf te Dr av 1000 Tryz.f166 (jl.inp.inj x).tm (jl.inp.inj x).hp (fnK jl RA Q) (λ_ _=>False)=(B8 (x.1.1)).wpR Q:=by kernel_rfl
theorem ae8 (pre:Fx->Bool) (F:Fx->OT jl.Y) (hF:∀ (x:Fx) oy,pre x=true->(F x).run=some oy->(B8 (x.1.1)).run=some oy):ac Tryz.prog 166 (jl.aI pre F):=
 aD ar zQ aba (f:=166) (fn:=Tryz.f166) (c:=aj Tryz.f166) (by kernel_rfl) (by kernel_rfl) (by kernel_rfl) (S:=jl) (k:=0) (by kernel_rfl) (λR hR=>af) (n:=1000) (sel:=RA) (λv o h=>by cases h;rfl) (pre:=pre) (F:=F) (T:=λx=>B8 (x.1.1)) (λx Q=>aA3 x Q) hF
def fW (x:UInt64):Bool:=(x==16513537)||(x==16521217)
theorem ec {x:UInt64} (h:fW x=true):x=16513537\/x=16521217:=by
 simpa [fW] using h
def Fw (x:Fx):Bool:=fW x.1.1
def akH (_:Fx):OT jl.Y:=.ok ⟨fo,(((24:Int),()),())⟩
theorem aad:(B8 16513537).run=some ⟨fo,(((24:Int),()),())⟩/\(B8 16521217).run=some ⟨fo,(((24:Int),()),())⟩:=⟨by kernel_rfl,by kernel_rfl⟩
theorem avW:ac Tryz.prog 166 (jl.aI Fw akH):=ae8 _ _ λx oy hp ho=>by
 rw [<-ho]
 clear ho
 obtain ⟨⟨x,⟨⟩⟩,⟨⟩⟩:=x
 rcases ec hp with h|h
 ·have h:x=16513537:=h
  subst h
  exact aad.1
 ·have h:x=16521217:=h
  subst h
  exact aad.2
def zt:cn:=(jl.aI Fw akH)
theorem aac:ac Tryz.prog 166 zt:=avW
theorem aab:aG zt:=aA
def Dt:Env:=ay 166 zt Dr
theorem zT:aQ Tryz.prog Dt:=ag aac zQ
theorem Ds:ax Dt:=ae aab Dq
theorem abc:aW Tryz.prog te Dt:=aJ follows ar zT Ds
def my:aw:=⟨[.val false .u64],[],true,0,false⟩
abbrev Rz:Type:=((UInt64)×Unit)×(Unit)
def Vh:az:=⟨[.val false .int],[],false⟩
def Z9:SV->Option az:=λ_=>some Vh
def ae7 (a0:UInt64):OT my.Y:=
 (gd [Fw ((a0,()),())] (.ok ⟨Vh,(((40:Int),()),())⟩))
theorem aGD (x:Rz) (Q:my.Y->Prop):wpf te Dt av 1000 Tryz.f154 (my.inp.inj x).tm (my.inp.inj x).hp (fnK my Z9 Q) (λ_ _=>False)=(ae7 (x.1.1)).wpR Q:=by kernel_rfl
theorem aoP (pre:Rz->Bool) (F:Rz->OT my.Y) (hF:∀ (x:Rz) oy,pre x=true->(F x).run=some oy->(ae7 (x.1.1)).run=some oy):ac Tryz.prog 154 (my.aI pre F):=
 aD ar zT abc (f:=154) (fn:=Tryz.f154) (c:=aj Tryz.f154) (by kernel_rfl) (by kernel_rfl) (by kernel_rfl) (S:=my) (k:=0) (by kernel_rfl) (λR hR=>af) (n:=1000) (sel:=Z9) (λv o h=>by cases h;rfl) (pre:=pre) (F:=F) (T:=λx=>ae7 (x.1.1)) (λx Q=>aGD x Q) hF
def MC (x:Rz):Bool:=fW x.1.1
def avV (_:Rz):OT my.Y:=.ok ⟨Vh,(((40:Int),()),())⟩
theorem aA2:ac Tryz.prog 154 (my.aI MC avV):=aoP _ _ λx oy hp ho=>by
 rw [<-ho]
 clear ho
 obtain ⟨⟨x,⟨⟩⟩,⟨⟩⟩:=x
 have hp:fW x=true:=hp
 refine (ah ?_).trans rfl
 simp only [List.all_cons,List.all_nil,Bool.and_true,Bool.and_eq_true]
 first|exact hp|exact ⟨hp,rfl⟩
def Fv:cn:=(my.aI MC avV)
theorem ae6:ac Tryz.prog 154 Fv:=aA2
theorem ae5:aG Fv:=aA
def zS:Env:=ay 154 Fv Dt
theorem pY:aQ Tryz.prog zS:=ag ae6 zT
theorem Hx:ax zS:=ae ae5 Ds
theorem zR:aW Tryz.prog te zS:=aJ follows ar pY Hx
def gP:aw:=⟨[.val false .u64,.val false .u64,.val false .u64],[],true,0,false⟩
abbrev Fy:Type:=((UInt64)×(UInt64)×(UInt64)×Unit)×(Unit)
def ux:Shape:=⟨135,[(2,.val false .u64),(8,.val false .u64),(9,.val false .u64),(10,.val false .u64),(11,.val false .u64),(13,.val false .u64),(14,.val false .u64),(15,.val false .u64),(16,.val false .u64)],[],0,true⟩
abbrev cO:Type:=((UInt64)×(UInt64)×(UInt64)×(UInt64)×(UInt64)×(UInt64)×(UInt64)×(UInt64)×(UInt64)×Unit)×(Unit)
def mA:Shape:=⟨135,[(2,.val false .u64),(8,.val false .u64),(9,.val false .u64),(10,.val false .u64),(11,.val false .u64),(13,.val false .u64),(14,.val false .u64),(15,.val false .u64)],[],0,true⟩
abbrev kf:Type:=((UInt64)×(UInt64)×(UInt64)×(UInt64)×(UInt64)×(UInt64)×(UInt64)×(UInt64)×Unit)×(Unit)
def aaj:SE->Option Shape:=fC [(0,mA)] none
def av5 (a2:UInt64) (a8:UInt64) (a9:UInt64) (a10:UInt64) (a11:UInt64) (a13:UInt64) (a14:UInt64) (a15:UInt64) (a16:UInt64):OT (Sum cO aE):=
 let z0:Bool:=decide ((4294967296:UInt64)<=a16+a9)
 (.br (decide ((4294967296:UInt64)<=a15))
 (.br (z0)
  (.ok (.inr ⟨(.exit 0,mA),((a2,(a8,(a9,(a10,(a11,(a13,(a14,(a15-(1:UInt64),())))))))),())⟩))
  (.ok (.inl ((a2,(a8,(a9,(a10,(a11,(a13,(a14,(a15-(1:UInt64),(a16+a9,()))))))))),()))))
 (.br (decide ((4294967296:UInt64)*a16+a13<a15*a10))
  (.br (z0)
   (.ok (.inr ⟨(.exit 0,mA),((a2,(a8,(a9,(a10,(a11,(a13,(a14,(a15-(1:UInt64),())))))))),())⟩))
   (.ok (.inl ((a2,(a8,(a9,(a10,(a11,(a13,(a14,(a15-(1:UInt64),(a16+a9,()))))))))),()))))
  (.ok (.inr ⟨(.exit 0,mA),((a2,(a8,(a9,(a10,(a11,(a13,(a14,(a15,())))))))),())⟩))))
def Cd (s:cO):OT (Sum cO aE):=av5 (s.1.1) (s.1.2.1) (s.1.2.2.1) (s.1.2.2.2.1) (s.1.2.2.2.2.1) (s.1.2.2.2.2.2.1) (s.1.2.2.2.2.2.2.1) (s.1.2.2.2.2.2.2.2.1) (s.1.2.2.2.2.2.2.2.2.1)
theorem av0 (s:cO) (Q:Sum cO aE->Prop):wps te zS av 1000 (aU (aj Tryz.f128) 0) (ux.inj s) (bY ux aaj (Q:Sum ux.T aE->Prop))=(Cd s).wpR Q:=by kernel_rfl
def Cb (g0_0:cO->kf) (s:cO):OT aE:=(.ok ⟨(.exit 0,mA),g0_0 s⟩)
def uw:Shape:=⟨135,[(2,.val false .u64),(8,.val false .u64),(9,.val false .u64),(10,.val false .u64),(14,.val false .u64),(15,.val false .u64),(16,.val false .u64),(17,.val false .u64),(18,.val false .u64)],[],0,true⟩
abbrev cN:Type:=((UInt64)×(UInt64)×(UInt64)×(UInt64)×(UInt64)×(UInt64)×(UInt64)×(UInt64)×(UInt64)×Unit)×(Unit)
def mz:Shape:=⟨135,[(2,.val false .u64),(8,.val false .u64),(14,.val false .u64),(15,.val false .u64),(17,.val false .u64),(18,.val false .u64)],[],0,true⟩
abbrev ke:Type:=((UInt64)×(UInt64)×(UInt64)×(UInt64)×(UInt64)×(UInt64)×Unit)×(Unit)
def aai:SE->Option Shape:=fC [(2,mz)] none
def av4 (a2:UInt64) (a8:UInt64) (a9:UInt64) (a10:UInt64) (a14:UInt64) (a15:UInt64) (a16:UInt64) (a17:UInt64) (a18:UInt64):OT (Sum cN aE):=
 let z0:Bool:=decide ((4294967296:UInt64)<=a16+a9)
 (.br (decide ((4294967296:UInt64)<=a18))
 (.br (z0)
  (.ok (.inr ⟨(.exit 2,mz),((a2,(a8,(a14,(a15,(a17,(a18-(1:UInt64),())))))),())⟩))
  (.ok (.inl ((a2,(a8,(a9,(a10,(a14,(a15,(a16+a9,(a17,(a18-(1:UInt64),()))))))))),()))))
 (.br (decide ((4294967296:UInt64)*a16+a14<a18*a10))
  (.br (z0)
   (.ok (.inr ⟨(.exit 2,mz),((a2,(a8,(a14,(a15,(a17,(a18-(1:UInt64),())))))),())⟩))
   (.ok (.inl ((a2,(a8,(a9,(a10,(a14,(a15,(a16+a9,(a17,(a18-(1:UInt64),()))))))))),()))))
  (.ok (.inr ⟨(.exit 2,mz),((a2,(a8,(a14,(a15,(a17,(a18,())))))),())⟩))))
def Cc (s:cN):OT (Sum cN aE):=av4 (s.1.1) (s.1.2.1) (s.1.2.2.1) (s.1.2.2.2.1) (s.1.2.2.2.2.1) (s.1.2.2.2.2.2.1) (s.1.2.2.2.2.2.2.1) (s.1.2.2.2.2.2.2.2.1) (s.1.2.2.2.2.2.2.2.2.1)
theorem avZ (s:cN) (Q:Sum cN aE->Prop):wps te zS av 1000 (aU (aj Tryz.f128) 2) (uw.inj s) (bY uw aai (Q:Sum uw.T aE->Prop))=(Cc s).wpR Q:=by kernel_rfl
def Ca (g2_2:cN->ke) (s:cN):OT aE:=(.ok ⟨(.exit 2,mz),g2_2 s⟩)
def pD:az:=⟨[.val false .u64,.val false .u64],[],false⟩
def RB:SV->Option az:=λ_=>some pD
def Iw (ok0:cO->Bool) (g0_0:cO->kf) (ok2:cN->Bool) (g2_2:cN->ke) (a0:UInt64) (a1:UInt64) (a2:UInt64):OT gP.Y:=
 let z0:Bool:= !a2==(0:UInt64)
 let z1:UInt64:=bR a2 (40:Int)
 let z2:UInt64:=bk z1 (32:Int)
 let z3:UInt64:=bR a0 (40:Int)|||bk a1 (24:Int)
 let z4:UInt64:=bR a1 (40:Int)
 let z5:UInt64:=z3/z2
 let z6:(UInt64×UInt64×UInt64×UInt64×UInt64×UInt64×UInt64×UInt64×UInt64×PUnit)×PUnit:=((z1,(40:UInt64),z2,z1&&&(4294967295:UInt64),z3,bk z4 (32:Int),z4&&&(4294967295:UInt64),z5,z3-z5*z2,()),())
 let z7:=(g0_0 z6).fst
 let z8:=z7.snd
 let z9:=z8.snd
 let z10:=z9.fst
 let z11:=z7.fst
 let z12:=z9.snd
 let z13:=z12.snd
 let z14:=z13.snd
 let z15:=z14.snd
 let z16:=z15.snd.fst
 let z17:UInt64:=z13.fst*(4294967296:UInt64)+z14.fst-z16*z11
 let z18:UInt64:=z17/z10
 let z19:(UInt64×UInt64×UInt64×UInt64×UInt64×UInt64×UInt64×UInt64×UInt64×PUnit)×PUnit:=((z11,z8.fst,z10,z12.fst,z15.fst,z16,z17-z18*z10,z17,z18,()),())
 let z20:=(g2_2 z19).fst
 let z21:=z20.snd
 let z22:=z21.snd
 let z23:=z22.snd
 let z24:=z23.snd
 let z25:=z24.snd.fst
 (.br (a2==(0:UInt64))
 .fail
 (.br (decide (a2<=a0))
  .fail
  (.br (a0==(0:UInt64))
   (gd [z0,z0] (.ok ⟨pD,((a1/a2,(a1%a2,())),())⟩))
   (gd [MC ((a2,()),()),!z2==(0:UInt64),ok0 z6,!z10==(0:UInt64),ok2 z19] (.ok ⟨pD,((z23.fst*(4294967296:UInt64)+z25,(bk (z24.fst*(4294967296:UInt64)+z22.fst-z25*z20.fst) (↑(UInt64.toNat z21.fst):Int),())),())⟩)))))
theorem aA4 (ok0:cO->Bool) (g0_0:cO->kf) (ok2:cN->Bool) (g2_2:cN->ke) (x:Fy) (Q:gP.Y->Prop):wpf te zS (aO 2 (cl uw 2 ok2 (Ca g2_2)) (aO 0 (cl ux 0 ok0 (Cb g0_0)) av)) 1000 Tryz.f128 (gP.inp.inj x).tm (gP.inp.inj x).hp (fnK gP RB Q) (λ_ _=>False)=(Iw ok0 g0_0 ok2 g2_2 (x.1.1) (x.1.2.1) (x.1.2.2.1)).wpR Q:=by kernel_rfl
theorem afe (ok0:cO->Bool) (g0_0:cO->kf) (ok2:cN->Bool) (g2_2:cN->ke) (h0:∀ s:cO,ok0 s=true->∃ m e,al (Cd) m s=some e/\(Cb g0_0 s).run=some e) (h2:∀ s:cN,ok2 s=true->∃ m e,al (Cc) m s=some e/\(Ca g2_2 s).run=some e) (pre:Fy->Bool) (F:Fy->OT gP.Y) (hF:∀ (x:Fy) oy,pre x=true->(F x).run=some oy->(Iw ok0 g0_0 ok2 g2_2 (x.1.1) (x.1.2.1) (x.1.2.2.1)).run=some oy):ac Tryz.prog 128 (gP.aI pre F):=
 aD ar pY zR (f:=128) (fn:=Tryz.f128) (c:=aj Tryz.f128) (by kernel_rfl) (by kernel_rfl) (by kernel_rfl) (S:=gP) (k:=0) (by kernel_rfl) (λR hR=>(aB (c:=(aj Tryz.f128)) (by kernel_rfl) (id:=2) (by kernel_rfl) (aR ar pY zR (sh:=uw) hR (xs:=aai) (aC (by kernel_rfl) (by kernel_rfl) hR) aL af (n:=1000) (T:=Cc) (λs Q=>avZ s Q) (ok:=ok2) (f:=Ca g2_2) h2) (aB (c:=(aj Tryz.f128)) (by kernel_rfl) (id:=0) (by kernel_rfl) (aR ar pY zR (sh:=ux) hR (xs:=aaj) (aC (by kernel_rfl) (by kernel_rfl) hR) aL af (n:=1000) (T:=Cd) (λs Q=>av0 s Q) (ok:=ok0) (f:=Cb g0_0) h0) af))) (n:=1000) (sel:=RB) (λv o h=>by cases h;rfl) (pre:=pre) (F:=F) (T:=λx=>Iw ok0 g0_0 ok2 g2_2 (x.1.1) (x.1.2.1) (x.1.2.2.1)) (λx Q=>aA4 ok0 g0_0 ok2 g2_2 x Q) hF
def RD (s:cO):Bool:=decide (s.1.2.2.2.1=0/\s.1.2.2.2.2.2.2.2.1<4294967296)
def aao (s:cO):kf:=((s.1.1,s.1.2.1,s.1.2.2.1,s.1.2.2.2.1,s.1.2.2.2.2.1,s.1.2.2.2.2.2.1,s.1.2.2.2.2.2.2.1,s.1.2.2.2.2.2.2.2.1,()),())
theorem Kz {a b:UInt64} (h:b<a):decide (a<=b)=false:=decide_eq_false (by rw [UInt64.le_iff_toNat_le,UInt64.lt_iff_toNat_lt] at*;omega)
theorem not_lt_zero {a b:UInt64}:decide (a<b*0)=false:=decide_eq_false (by
 have:b*0=0:=by rw [<-UInt64.toNat_inj];simp
 rw [this,UInt64.lt_iff_toNat_lt]
 exact Nat.not_lt_zero _)
theorem av3:∀ s:cO,RD s=true->∃ m e,al Cd m s=some e/\(Cb aao s).run=some e:=by
 rintro ⟨⟨a2,a8,a9,a10,a11,a13,a14,a15,a16,⟨⟩⟩,⟨⟩⟩ h
 have h':=of_decide_eq_true h
 dsimp only at h'
 obtain ⟨rfl,hl⟩:=h'
 exact ⟨1,_,aM ((OT.aq (Kz hl)).trans (OT.aq not_lt_zero)),rfl⟩
def RC (s:cN):Bool:=decide (s.1.2.2.2.1=0/\s.1.2.2.2.2.2.2.2.2.1<4294967296)
def aan (s:cN):ke:=((s.1.1,s.1.2.1,s.1.2.2.2.2.1,s.1.2.2.2.2.2.1,s.1.2.2.2.2.2.2.2.1,s.1.2.2.2.2.2.2.2.2.1,()),())
theorem av2:∀ s:cN,RC s=true->∃ m e,al Cc m s=some e/\(Ca aan s).run=some e:=by
 rintro ⟨⟨a2,a8,a9,a10,a14,a15,a16,a17,a18,⟨⟩⟩,⟨⟩⟩ h
 have h':=of_decide_eq_true h
 dsimp only at h'
 obtain ⟨rfl,hl⟩:=h'
 exact ⟨1,_,aM ((OT.aq (Kz hl)).trans (OT.aq not_lt_zero)),rfl⟩
def wI (x:Fy):Bool:=fW x.1.2.2.1&&decide (x.1.1<x.1.2.2.1)
def Vm (x:Fy):OT gP.Y:=.ok ⟨pD,((aGX x.1.1 x.1.2.1 x.1.2.2.1,Zs x.1.1 x.1.2.1 x.1.2.2.1,()),())⟩
theorem apt {v z:Nat} (hv:v<4294967296) (hz:z<4294967296):(v*4294967296%2^64+z)%2^64=(v*(256*16777216)+z)%2^64:=by
 rw [Nat.mod_eq_of_lt (a:=v*4294967296) (by omega)]
theorem awE {s:Nat} (hs:s<4294967296):s*4294967296/2^40=s/256%2^64:=by
 rw [Nat.mod_eq_of_lt (by omega),show (2:Nat)^40=256*4294967296 from rfl,Nat.mul_div_mul_right _ _ (by omega)]
theorem aak {h l y:UInt64} {m:Nat} (hm:y.toNat=m) (hy:(bR y 40).toNat=m*1099511627776) (hy1:(bk (bR y 40) 32).toNat=m*256) (hy0:bR y 40&&&4294967295=0) (hm0:0<m) (hm1:m<16777216) (hh:h.toNat<m):
 let u:=bR h 40|||bk l 24
 let q1:=u/bk (bR y 40) 32
 let un21:=u*4294967296+bk (bR l 40) 32-q1*bR y 40
 let q0:=un21/bk (bR y 40) 32
 q1<4294967296/\q0<4294967296/\q1*4294967296+q0=aGX h l y/\bk (un21*4294967296+(bR l 40&&&4294967295)-q0*bR y 40) 40=Zs h l y:=by
 intro u q1 un21 q0
 have hl:=l.toNat_lt
 have hu:u.toNat=h.toNat*1099511627776+l.toNat/16777216:=by
  have e1:(bR h 40).toNat=h.toNat*1099511627776:=by
   rw [show ((40:Int))=((40:Nat):Int) from rfl,lv _ _ (by omega)]
   exact Nat.mod_eq_of_lt (by omega)
  have e2:(bk l 24).toNat=l.toNat/16777216:=eZ l 24 (by omega)
  simp only [u]
  rw [UInt64.toNat_or,e1,e2,Nat.mul_comm]
  have:=Nat.two_pow_add_eq_or_of_lt (i:=40) (b:=l.toNat/16777216) (by omega) h.toNat
  exact this.symm
 have hun1:(bk (bR l 40) 32).toNat=l.toNat%16777216*256:=by
  rw [show ((32:Int))=((32:Nat):Int) from rfl,eZ _ _ (by omega),show ((40:Int))=((40:Nat):Int) from rfl,lv _ _ (by omega)]
  omega
 have hun0:bR l 40&&&4294967295=0:=by
  rw [<-UInt64.toNat_inj,jN,show ((40:Int))=((40:Nat):Int) from rfl,lv _ _ (by omega)]
  show l.toNat*2^40%2^64%4294967296=0
  omega
 have hq1:q1.toNat=u.toNat/(m*256):=by simp only [q1];rw [UInt64.toNat_div,hy1]
 have hN:h.toNat*18446744073709551616+l.toNat=u.toNat*16777216+l.toNat%16777216:=by rw [hu];omega
 have hqr:u.toNat=q1.toNat*(m*256)+u.toNat%(m*256):=by
  rw [hq1,Nat.mul_comm]
  exact (Nat.div_add_mod _ _).symm
 have hr:u.toNat%(m*256)<m*256:=Nat.mod_lt _ (by omega)
 have hul:u.toNat<m*256*4294967296:=by rw [hu];omega
 have hq1l:q1.toNat<4294967296:=by rw [hq1];exact Nat.div_lt_of_lt_mul hul
 generalize hrr:u.toNat%(m*256)=r at*
 have hprod:q1.toNat*(m*1099511627776)=q1.toNat*(m*256)*4294967296:=by
  rw [Nat.mul_assoc,Nat.mul_assoc]
 have h21:un21.toNat=r*4294967296+l.toNat%16777216*256:=by
  simp only [un21]
  rw [UInt64.toNat_sub,UInt64.toNat_add,UInt64.toNat_mul,UInt64.toNat_mul,hun1,hy,hprod,show (4294967296:UInt64).toNat=4294967296 from rfl]
  generalize q1.toNat*(m*256)=A at*
  omega
 have hq0:q0.toNat=un21.toNat/(m*256):=by simp only [q0];rw [UInt64.toNat_div,hy1]
 have h21l:un21.toNat<m*256*4294967296:=by rw [h21];omega
 have hq0l:q0.toNat<4294967296:=by rw [hq0];exact Nat.div_lt_of_lt_mul h21l
 have hqr0:un21.toNat=q0.toNat*(m*256)+un21.toNat%(m*256):=by
  rw [hq0,Nat.mul_comm]
  exact (Nat.div_add_mod _ _).symm
 have hr0:un21.toNat%(m*256)<m*256:=Nat.mod_lt _ (by omega)
 obtain ⟨d1,d2⟩:=UM (K:=16777216) (L:=256) hm0 (by omega) hN hqr
 have e21:(r*16777216+l.toNat%16777216)*256=un21.toNat:=by rw [h21];omega
 rw [e21] at d1 d2
 refine ⟨by rw [UInt64.lt_iff_toNat_lt];exact hq1l,by rw [UInt64.lt_iff_toNat_lt];exact hq0l,?_,?_⟩
 ·rw [<-UInt64.toNat_inj,UInt64.toNat_add,UInt64.toNat_mul,show (4294967296:UInt64).toNat=4294967296 from rfl,hq0]
  unfold aGX
  rw [hm,UInt64.toNat_ofNat',d1,<-hq0]
  exact apt hq1l hq0l
 ·have hprod0:q0.toNat*(m*1099511627776)=q0.toNat*(m*256)*4294967296:=by
   rw [Nat.mul_assoc,Nat.mul_assoc]
  have e3:(un21*4294967296+(bR l 40&&&4294967295)-q0*bR y 40).toNat=(un21.toNat%(m*256))*4294967296:=by
   rw [hun0,UInt64.toNat_sub,UInt64.toNat_add,UInt64.toNat_mul,UInt64.toNat_mul,hy,hprod0,show (4294967296:UInt64).toNat=4294967296 from rfl,show (0:UInt64).toNat=0 from rfl]
   generalize un21.toNat%(m*256)=s at*
   generalize q0.toNat*(m*256)=A at*
   omega
  rw [<-UInt64.toNat_inj,show ((40:Int))=((40:Nat):Int) from rfl,eZ _ _ (by omega),show ((40:Nat):Int)=40 from rfl,e3]
  unfold Zs
  rw [hm,UInt64.toNat_ofNat',d2]
  exact awE (by omega)
theorem abE {y:UInt64} (h:fW y=true):∃ m,y.toNat=m/\(bR y 40).toNat=m*1099511627776/\(bk (bR y 40) 32).toNat=m*256/\bR y 40&&&4294967295=0/\0<m/\m<16777216:=by
 rcases ec h with rfl|rfl
 ·exact ⟨16513537,rfl,by decide+kernel,by decide+kernel,by decide+kernel,by omega,by omega⟩
 ·exact ⟨16521217,rfl,by decide+kernel,by decide+kernel,by decide+kernel,by omega,by omega⟩
theorem av1:ac Tryz.prog 128 (gP.aI wI Vm):=afe RD aao RC aan av3 av2 _ _ λx oy hp ho=>by
 rw [<-ho]
 clear ho
 obtain ⟨⟨h,l,y,⟨⟩⟩,⟨⟩⟩:=x
 have hp':(fW y&&decide (h<y))=true:=hp
 rw [Bool.and_eq_true] at hp'
 obtain ⟨hs,hlt⟩:=hp'
 have hlt:=of_decide_eq_true hlt
 obtain ⟨m,f1,f2,f3,f4,f5,f6⟩:=abE hs
 have hh:h.toNat<m:=by rw [<-f1];exact UInt64.lt_iff_toNat_lt.1 hlt
 have hy0:¬y=0:=λe=>by rw [e] at f1;simp at f1;omega
 have hyb:(y==0)=false:=by simpa using hy0
 have hle:decide (y<=h)=false:=Kz hlt
 unfold Iw
 refine (OT.aq hyb).trans ((OT.aq hle).trans ?_)
 by_cases h0:h=0
 ·subst h0
  refine (OT.ao rfl).trans ((ah ?_).trans ?_)
  ·simp only [hyb,List.all_cons,List.all_nil,Bool.and_true,Bool.not_false]
  ·have e1:aGX 0 l y=l/y:=by
    rw [<-UInt64.toNat_inj]
    unfold aGX
    rw [UInt64.toNat_ofNat',UInt64.toNat_div,show (0:UInt64).toNat=0 from rfl,Nat.zero_mul,Nat.zero_add]
    exact Nat.mod_eq_of_lt (Nat.lt_of_le_of_lt (Nat.div_le_self _ _) l.toNat_lt)
   have e2:Zs 0 l y=l%y:=by
    rw [<-UInt64.toNat_inj]
    unfold Zs
    rw [UInt64.toNat_ofNat',UInt64.toNat_mod,show (0:UInt64).toNat=0 from rfl,Nat.zero_mul,Nat.zero_add]
    exact Nat.mod_eq_of_lt (Nat.lt_of_le_of_lt (Nat.mod_le _ _) l.toNat_lt)
   simp only [Vm,e1,e2]
 ·have hb:(h==0)=false:=by simpa using h0
  obtain ⟨w1,w2,w3,w4⟩:=aak (l:=l) f1 f2 f3 f4 f5 f6 hh
  have hz:(!(bk (bR y 40) 32==0))=true:=by
   have:¬bk (bR y 40) 32=0:=λe=>by rw [e] at f3;simp at f3;omega
   simpa using this
  refine (OT.aq hb).trans ((ah ?_).trans ?_)
  ·simp only [List.all_cons,List.all_nil,Bool.and_true,Bool.and_eq_true]
   exact ⟨hs,hz,decide_eq_true ⟨f4,w1⟩,hz,decide_eq_true ⟨f4,w2⟩⟩
  ·show some (⟨pD,((_,bk _ ((40:UInt64).toNat:Int),()),())⟩:gP.Y)=some ⟨pD,((aGX h l y,Zs h l y,()),())⟩
   rw [<-w3,<-w4]
   rfl
def zu:cn:=(gP.aI wI Vm)
theorem aam:ac Tryz.prog 128 zu:=av1
theorem aal:aG zu:=aA
def xp:Env:=ay 128 zu zS
theorem rM:aQ Tryz.prog xp:=ag aam pY
theorem Du:ax xp:=ae aal Hx
theorem Hy:aW Tryz.prog te xp:=aJ follows ar rM Du
def sa:aw:=⟨[.val true .elem,.val true .elem],[],true,0,false⟩
abbrev ak9:Type:=((aa)×(aa)×Unit)×(Unit)
def IX:Shape:=⟨29,[(2,.ptr 0 0 0),(3,.ptr 1 0 0),(4,.ptr 2 0 0),(6,.ptr 3 0 0),(7,.val false .u64),(9,.val false .int)],[(0,.row .u64),(1,.row .u64),(2,.row .u64),(3,.row .u64)],0,true⟩
abbrev dG:Type:=((Unit)×(Unit)×(Unit)×(Unit)×(UInt64)×(Int)×Unit)×((List (UInt64))×(List (UInt64))×(List (UInt64))×(List (UInt64))×Unit)
def Ac:Shape:=⟨29,[(4,.ptr 0 0 0),(6,.ptr 1 0 0),(7,.val false .u64)],[(0,.row .u64),(1,.row .u64)],0,true⟩
abbrev nZ:Type:=((Unit)×(Unit)×(UInt64)×Unit)×((List (UInt64))×(List (UInt64))×Unit)
def apA:SE->Option Shape:=fC [(0,Ac)] none
def aCH (a7:UInt64) (a9:Int) (c0:List (UInt64)) (c1:List (UInt64)) (c2:List (UInt64)) (c3:List (UInt64)):OT (Sum dG aE):=
 let z0:Bool:=inB a9 4
 let z1:UInt64:=List.getD c0 (Int.toNat a9+0) (0:UInt64)
 let z2:UInt64:=List.getD c1 (Int.toNat a9+0) (0:UInt64)
 (.br (decide (a9<(4:Int)))
 (gd [z0,decide (Int.toNat a9+0<List.length c0),z0,decide (Int.toNat a9+0<List.length c1),FA ((z1,z2,a7,()),()),z0,decide (Int.toNat a9+0<List.length c3),inR (a9+(1:Int))] (.ok (.inl (((),((),((),((),(zX z1 z2 a7,(a9+(1:Int),())))))),(c0,(c1,(c2,(List.set c3 (Int.toNat a9+0) (xv z1 z2 a7),()))))))))
 (.ok (.inr ⟨(.exit 0,Ac),(((),((),(a7,()))),(c2,(c3,())))⟩)))
def IY (s:dG):OT (Sum dG aE):=aCH (s.1.2.2.2.2.1) (s.1.2.2.2.2.2.1) (s.2.1) (s.2.2.1) (s.2.2.2.1) (s.2.2.2.2.1)
theorem aCE (s:dG) (Q:Sum dG aE->Prop):wps te xp av 1000 (aU (aj Tryz.f119) 0) (IX.inj s) (bY IX apA (Q:Sum IX.T aE->Prop))=(IY s).wpR Q:=by kernel_rfl
def Sd (g0_0:dG->nZ) (s:dG):OT aE:=(.ok ⟨(.exit 0,Ac),g0_0 s⟩)
def abp:az:=⟨[.val true .elem,.val false .bool],[],false⟩
def af1:SV->Option az:=λ_=>some abp
def apD (ok0:dG->Bool) (g0_0:dG->nZ) (a0:aa) (a1:aa):OT sa.Y:=
 let z0:(PUnit×PUnit×PUnit×PUnit×UInt64×Int×PUnit)×List UInt64×List UInt64×List UInt64×List UInt64×PUnit:=(((),(),(),(),(0:UInt64),(0:Int),()),[a0.w0,a0.w1,a0.w2,a0.w3],[a1.w0,a1.w1,a1.w2,a1.w3],[(0:UInt64),(0:UInt64),(0:UInt64),(0:UInt64)],[(0:UInt64),(0:UInt64),(0:UInt64),(0:UInt64)],())
 let z1:(PUnit×PUnit×UInt64×PUnit)×List UInt64×List UInt64×PUnit:=g0_0 z0
 let z2:=z1.snd
 let z3:=z2.snd.fst
 let z4:=z2.fst
 let z5:List UInt64:=lay z4 z3 4 (0:UInt64)
 (gd [ok0 z0,decide (4<=List.length z3),decide ((4/1:Nat)+0<=List.length z4),decide (4<=List.length z5)] (.ok ⟨abp,(({w0:=List.getD z5 0 0,w1:=List.getD z5 1 0,w2:=List.getD z5 2 0,w3:=List.getD z5 3 0},(!z1.fst.snd.snd.fst==(0:UInt64),())),())⟩))
theorem aG6 (ok0:dG->Bool) (g0_0:dG->nZ) (x:ak9) (Q:sa.Y->Prop):wpf te xp (aO 0 (cl IX 0 ok0 (Sd g0_0)) av) 1000 Tryz.f119 (sa.inp.inj x).tm (sa.inp.inj x).hp (fnK sa af1 Q) (λ_ _=>False)=(apD ok0 g0_0 (x.1.1) (x.1.2.1)).wpR Q:=by kernel_rfl
theorem apB (ok0:dG->Bool) (g0_0:dG->nZ) (h0:∀ s:dG,ok0 s=true->∃ m e,al (IY) m s=some e/\(Sd g0_0 s).run=some e) (pre:ak9->Bool) (F:ak9->OT sa.Y) (hF:∀ (x:ak9) oy,pre x=true->(F x).run=some oy->(apD ok0 g0_0 (x.1.1) (x.1.2.1)).run=some oy):ac Tryz.prog 119 (sa.aI pre F):=
 aD ar rM Hy (f:=119) (fn:=Tryz.f119) (c:=aj Tryz.f119) (by kernel_rfl) (by kernel_rfl) (by kernel_rfl) (S:=sa) (k:=0) (by kernel_rfl) (λR hR=>(aB (c:=(aj Tryz.f119)) (by kernel_rfl) (id:=0) (by kernel_rfl) (aR ar rM Hy (sh:=IX) hR (xs:=apA) (aC (by kernel_rfl) (by kernel_rfl) hR) aL af (n:=1000) (T:=IY) (λs Q=>aCE s Q) (ok:=ok0) (f:=Sd g0_0) h0) af)) (n:=1000) (sel:=af1) (λv o h=>by cases h;rfl) (pre:=pre) (F:=F) (T:=λx=>apD ok0 g0_0 (x.1.1) (x.1.2.1)) (λx Q=>aG6 ok0 g0_0 x Q) hF
def O0 (a b:List UInt64) (k:Nat) (s:List UInt64×UInt64):List UInt64×UInt64:=(s.1.set k (xv (a.getD k 0) (b.getD k 0) s.2),zX (a.getD k 0) (b.getD k 0) s.2)
def af3 (s:dG):Bool:=decide (s.1.2.2.2.2.1=0/\s.1.2.2.2.2.2.1=0/\s.2.1.length=4/\s.2.2.1.length=4/\s.2.2.2.2.1= [0,0,0,0])
def apC (s:dG):nZ:=(((),(),(upto (O0 s.2.1 s.2.2.1) ([0,0,0,0],0) 4).2,()),(s.2.2.2.1,(upto (O0 s.2.1 s.2.2.1) ([0,0,0,0],0) 4).1,()))
theorem aCG:∀ s:dG,af3 s=true->∃ m e,al IY m s=some e/\(Sd apC s).run=some e:=by
 rintro ⟨⟨⟨⟩,⟨⟩,⟨⟩,⟨⟩,c,i,⟨⟩⟩,⟨c0,c1,c2,c3,⟨⟩⟩⟩ h
 have h':=of_decide_eq_true h
 dsimp only at h'
 obtain ⟨rfl,rfl,h0,h1,rfl⟩:=h'
 have:=(aP (T:=IY) (λk s=>((((),(),(),(),s.2,(k:Int),()),(c0,c1,c2,s.1,())):dG)) (O0 c0 c1)
  (λs=>(⟨(.exit 0,Ac),(((),(),s.2,()),(c2,s.1,()))⟩:aE)) 4 ([0,0,0,0],0) (λ_ s=>s.1.length=4/\s.2.toNat<=1) ⟨rfl,by decide⟩ (λk s hk hs=>⟨?_,?_⟩) (λs hs=> ?_)).1
 ·obtain ⟨m,hm⟩:=this
  exact ⟨m,_,hm,rfl⟩
 ·refine (OT.ao (decide_eq_true (by dsimp only;omega))).trans ((ah ?_).trans ?_)
  ·simp only [Int.toNat_natCast,Nat.add_zero,h0,h1,hs.1,List.all_cons,List.all_nil,Bool.and_true,Bool.and_eq_true]
   exact ⟨aN (by omega),decide_eq_true (by omega),aN (by omega),decide_eq_true (by omega),decide_eq_true hs.2,aN (by omega),decide_eq_true (by omega),aH (by omega)⟩
  ·simp only [OT.cP,Int.toNat_natCast,Nat.add_zero]
   rfl
 ·exact ⟨by simp only [O0,List.length_set];exact hs.1,FD hs.2⟩
 ·exact OT.aq (decide_eq_false (by dsimp only;omega))
theorem aGQ (x y:List UInt64) (hx:x.length=4) (hy:y.length=4):lay x y 4 0=y:=xE hx hy
def af2 (_:ak9):Bool:=true
def apE (x:ak9):OT sa.Y:=.ok ⟨abp,(((qa x.1.1 x.1.2.1).1,((qa x.1.1 x.1.2.1).2,())),())⟩
theorem aCF:ac Tryz.prog 119 (sa.aI af2 apE):=apB af3 apC aCG _ _ λx oy hp ho=>by
 rw [<-ho]
 clear ho
 obtain ⟨⟨a,b,⟨⟩⟩,⟨⟩⟩:=x
 obtain ⟨_,hw⟩:=O6 a b
 refine (ah ?_).trans ?_
 ·simp only [List.all_cons,List.all_nil,Bool.and_true,Bool.and_eq_true]
  exact ⟨rfl,rfl,rfl,rfl⟩
 ·simp only [apE,hw]
  rfl
def IW:cn:=(sa.aI af2 apE)
theorem ak8:ac Tryz.prog 119 IW:=aCF
theorem ak7:aG IW:=aA
def RM:Env:=ay 119 IW xp
theorem Cu:aQ Tryz.prog RM:=ag ak8 rM
theorem MU:ax RM:=ae ak7 Du
theorem RL:aW Tryz.prog te RM:=aJ follows ar Cu MU
def r6:aw:=⟨[.val true .elem,.val true .elem],[],true,0,false⟩
abbrev akY:Type:=((aa)×(aa)×Unit)×(Unit)
def IJ:Shape:=⟨29,[(2,.ptr 0 0 0),(3,.ptr 1 0 0),(4,.ptr 2 0 0),(6,.ptr 3 0 0),(7,.val false .u64),(9,.val false .int)],[(0,.row .u64),(1,.row .u64),(2,.row .u64),(3,.row .u64)],0,true⟩
abbrev dF:Type:=((Unit)×(Unit)×(Unit)×(Unit)×(UInt64)×(Int)×Unit)×((List (UInt64))×(List (UInt64))×(List (UInt64))×(List (UInt64))×Unit)
def zY:Shape:=⟨29,[(4,.ptr 0 0 0),(6,.ptr 1 0 0),(7,.val false .u64)],[(0,.row .u64),(1,.row .u64)],0,true⟩
abbrev nX:Type:=((Unit)×(Unit)×(UInt64)×Unit)×((List (UInt64))×(List (UInt64))×Unit)
def aph:SE->Option Shape:=fC [(0,zY)] none
def aCx (a7:UInt64) (a9:Int) (c0:List (UInt64)) (c1:List (UInt64)) (c2:List (UInt64)) (c3:List (UInt64)):OT (Sum dF aE):=
 let z0:Bool:=inB a9 4
 let z1:UInt64:=List.getD c0 (Int.toNat a9+0) (0:UInt64)
 let z2:UInt64:=List.getD c1 (Int.toNat a9+0) (0:UInt64)
 (.br (decide (a9<(4:Int)))
 (gd [z0,decide (Int.toNat a9+0<List.length c0),z0,decide (Int.toNat a9+0<List.length c1),Fp ((z1,z2,a7,()),()),z0,decide (Int.toNat a9+0<List.length c3),inR (a9+(1:Int))] (.ok (.inl (((),((),((),((),(VU z1 z2 a7,(a9+(1:Int),())))))),(c0,(c1,(c2,(List.set c3 (Int.toNat a9+0) (qf z1 z2 a7),()))))))))
 (.ok (.inr ⟨(.exit 0,zY),(((),((),(a7,()))),(c2,(c3,())))⟩)))
def IK (s:dF):OT (Sum dF aE):=aCx (s.1.2.2.2.2.1) (s.1.2.2.2.2.2.1) (s.2.1) (s.2.2.1) (s.2.2.2.1) (s.2.2.2.2.1)
theorem aCu (s:dF) (Q:Sum dF aE->Prop):wps te RM av 1000 (aU (aj Tryz.f125) 0) (IJ.inj s) (bY IJ aph (Q:Sum IJ.T aE->Prop))=(IK s).wpR Q:=by kernel_rfl
def R8 (g0_0:dF->nX) (s:dF):OT aE:=(.ok ⟨(.exit 0,zY),g0_0 s⟩)
def abh:az:=⟨[.val true .elem,.val false .bool],[],false⟩
def afQ:SV->Option az:=λ_=>some abh
def apk (ok0:dF->Bool) (g0_0:dF->nX) (a0:aa) (a1:aa):OT r6.Y:=
 let z0:(PUnit×PUnit×PUnit×PUnit×UInt64×Int×PUnit)×List UInt64×List UInt64×List UInt64×List UInt64×PUnit:=(((),(),(),(),(0:UInt64),(0:Int),()),[a0.w0,a0.w1,a0.w2,a0.w3],[a1.w0,a1.w1,a1.w2,a1.w3],[(0:UInt64),(0:UInt64),(0:UInt64),(0:UInt64)],[(0:UInt64),(0:UInt64),(0:UInt64),(0:UInt64)],())
 let z1:(PUnit×PUnit×UInt64×PUnit)×List UInt64×List UInt64×PUnit:=g0_0 z0
 let z2:=z1.snd
 let z3:=z2.snd.fst
 let z4:=z2.fst
 let z5:List UInt64:=lay z4 z3 4 (0:UInt64)
 (gd [ok0 z0,decide (4<=List.length z3),decide ((4/1:Nat)+0<=List.length z4),decide (4<=List.length z5)] (.ok ⟨abh,(({w0:=List.getD z5 0 0,w1:=List.getD z5 1 0,w2:=List.getD z5 2 0,w3:=List.getD z5 3 0},(!z1.fst.snd.snd.fst==(0:UInt64),())),())⟩))
theorem aG2 (ok0:dF->Bool) (g0_0:dF->nX) (x:akY) (Q:r6.Y->Prop):wpf te RM (aO 0 (cl IJ 0 ok0 (R8 g0_0)) av) 1000 Tryz.f125 (r6.inp.inj x).tm (r6.inp.inj x).hp (fnK r6 afQ Q) (λ_ _=>False)=(apk ok0 g0_0 (x.1.1) (x.1.2.1)).wpR Q:=by kernel_rfl
theorem api (ok0:dF->Bool) (g0_0:dF->nX) (h0:∀ s:dF,ok0 s=true->∃ m e,al (IK) m s=some e/\(R8 g0_0 s).run=some e) (pre:akY->Bool) (F:akY->OT r6.Y) (hF:∀ (x:akY) oy,pre x=true->(F x).run=some oy->(apk ok0 g0_0 (x.1.1) (x.1.2.1)).run=some oy):ac Tryz.prog 125 (r6.aI pre F):=
 aD ar Cu RL (f:=125) (fn:=Tryz.f125) (c:=aj Tryz.f125) (by kernel_rfl) (by kernel_rfl) (by kernel_rfl) (S:=r6) (k:=0) (by kernel_rfl) (λR hR=>(aB (c:=(aj Tryz.f125)) (by kernel_rfl) (id:=0) (by kernel_rfl) (aR ar Cu RL (sh:=IJ) hR (xs:=aph) (aC (by kernel_rfl) (by kernel_rfl) hR) aL af (n:=1000) (T:=IK) (λs Q=>aCu s Q) (ok:=ok0) (f:=R8 g0_0) h0) af)) (n:=1000) (sel:=afQ) (λv o h=>by cases h;rfl) (pre:=pre) (F:=F) (T:=λx=>apk ok0 g0_0 (x.1.1) (x.1.2.1)) (λx Q=>aG2 ok0 g0_0 x Q) hF
def xq (a b:List UInt64) (k:Nat) (s:List UInt64×UInt64):List UInt64×UInt64:=(s.1.set k (qf (a.getD k 0) (b.getD k 0) s.2),VU (a.getD k 0) (b.getD k 0) s.2)
def afS (s:dF):Bool:=decide (s.1.2.2.2.2.1=0/\s.1.2.2.2.2.2.1=0/\s.2.1.length=4/\s.2.2.1.length=4/\s.2.2.2.2.1= [0,0,0,0])
def apj (s:dF):nX:=(((),(),(upto (xq s.2.1 s.2.2.1) ([0,0,0,0],0) 4).2,()),(s.2.2.2.1,(upto (xq s.2.1 s.2.2.1) ([0,0,0,0],0) 4).1,()))
theorem aCw:∀ s:dF,afS s=true->∃ m e,al IK m s=some e/\(R8 apj s).run=some e:=by
 rintro ⟨⟨⟨⟩,⟨⟩,⟨⟩,⟨⟩,c,i,⟨⟩⟩,⟨c0,c1,c2,c3,⟨⟩⟩⟩ h
 have h':=of_decide_eq_true h
 dsimp only at h'
 obtain ⟨rfl,rfl,h0,h1,rfl⟩:=h'
 have:=(aP (T:=IK) (λk s=>((((),(),(),(),s.2,(k:Int),()),(c0,c1,c2,s.1,())):dF)) (xq c0 c1)
  (λs=>(⟨(.exit 0,zY),(((),(),s.2,()),(c2,s.1,()))⟩:aE)) 4 ([0,0,0,0],0) (λ_ s=>s.1.length=4/\s.2.toNat<=1) ⟨rfl,by decide⟩ (λk s hk hs=>⟨?_,?_⟩) (λs hs=> ?_)).1
 ·obtain ⟨m,hm⟩:=this
  exact ⟨m,_,hm,rfl⟩
 ·refine (OT.ao (decide_eq_true (by dsimp only;omega))).trans ((ah ?_).trans ?_)
  ·simp only [Int.toNat_natCast,Nat.add_zero,h0,h1,hs.1,List.all_cons,List.all_nil,Bool.and_true,Bool.and_eq_true]
   exact ⟨aN (by omega),decide_eq_true (by omega),aN (by omega),decide_eq_true (by omega),decide_eq_true hs.2,aN (by omega),decide_eq_true (by omega),aH (by omega)⟩
  ·simp only [OT.cP,Int.toNat_natCast,Nat.add_zero]
   rfl
 ·exact ⟨by simp only [xq,List.length_set];exact hs.1,yj⟩
 ·exact OT.aq (decide_eq_false (by dsimp only;omega))
def afR (_:akY):Bool:=true
def apl (x:akY):OT r6.Y:=.ok ⟨abh,(((eu x.1.1 x.1.2.1).1,((eu x.1.1 x.1.2.1).2,())),())⟩
theorem aCv:ac Tryz.prog 125 (r6.aI afR apl):=api afS apj aCw _ _ λx oy hp ho=>by
 rw [<-ho]
 clear ho
 obtain ⟨⟨a,b,⟨⟩⟩,⟨⟩⟩:=x
 obtain ⟨_,hw⟩:=DD a b
 refine (ah ?_).trans ?_
 ·simp only [List.all_cons,List.all_nil,Bool.and_true,Bool.and_eq_true]
  exact ⟨rfl,rfl,rfl,rfl⟩
 ·simp only [apl,hw]
  rfl
def II:cn:=(r6.aI afR apl)
theorem akX:ac Tryz.prog 125 II:=aCv
theorem akW:aG II:=aA
def aaC:Env:=ay 125 II RM
theorem MO:aQ Tryz.prog aaC:=ag akX Cu
theorem MP:ax aaC:=ae akW MU
theorem aoW:aW Tryz.prog te aaC:=aJ follows ar MO MP
def lh:aw:=⟨[.val true .elem,.val true .elem],[],true,0,false⟩
abbrev Pc:Type:=((aa)×(aa)×Unit)×(Unit)
def Sc:az:=⟨[.val false .bool],[],false⟩
def V6:SV->Option az:=λ_=>some Sc
def abo (a0:aa) (a1:aa):OT lh.Y:=
 (.ok ⟨Sc,(((eu a0 a1).snd,()),())⟩)
theorem aCC (x:Pc) (Q:lh.Y->Prop):wpf te aaC av 1000 Tryz.f86 (lh.inp.inj x).tm (lh.inp.inj x).hp (fnK lh V6 Q) (λ_ _=>False)=(abo (x.1.1) (x.1.2.1)).wpR Q:=by kernel_rfl
theorem ak2 (pre:Pc->Bool) (F:Pc->OT lh.Y) (hF:∀ (x:Pc) oy,pre x=true->(F x).run=some oy->(abo (x.1.1) (x.1.2.1)).run=some oy):ac Tryz.prog 86 (lh.aI pre F):=
 aD ar MO aoW (f:=86) (fn:=Tryz.f86) (c:=aj Tryz.f86) (by kernel_rfl) (by kernel_rfl) (by kernel_rfl) (S:=lh) (k:=0) (by kernel_rfl) (λR hR=>af) (n:=1000) (sel:=V6) (λv o h=>by cases h;rfl) (pre:=pre) (F:=F) (T:=λx=>abo (x.1.1) (x.1.2.1)) (λx Q=>aCC x Q) hF
def V7 (_:Pc):Bool:=true
def apv (x:Pc):OT lh.Y:=.ok ⟨Sc,((Nat.blt x.1.1.nat x.1.2.1.nat,()),())⟩
theorem awG:ac Tryz.prog 86 (lh.aI V7 apv):=ak2 _ _ λx oy _ ho=>ho
def DC:cn:=(lh.aI V7 apv)
theorem abn:ac Tryz.prog 86 DC:=awG
theorem abm:aG DC:=aA
def MS:Env:=ay 86 DC aaC
theorem FE:aQ Tryz.prog MS:=ag abn MO
theorem GR:ax MS:=ae abm MP
theorem afq:aW Tryz.prog te MS:=aJ follows ar FE GR
def rO:aw:=⟨[.val true .elem,.val false .int],[],true,0,false⟩
abbrev ak6:Type:=((aa)×(Int)×Unit)×(Unit)
def DE:az:=⟨[.val false .bool],[],false⟩
def afZ:SV->Option az:=λ_=>some DE
def apz (a0:aa) (a1:Int):OT rO.Y:=
 let z0:Int:=Int.tdiv a1 (64:Int)
 let z1:Int:=Int.tmod a1 (64:Int)
 (.br (decide ((0:Int)<=a1))
 (.br (decide (a1<(256:Int)))
  (gd [true&&inR z0,inB z0 4,decide (Int.toNat z0+0<4),decide ((0:Int)<=z1)] (.ok ⟨DE,((bk (List.getD [a0.w0,a0.w1,a0.w2,a0.w3] (Int.toNat z0+0) (0:UInt64)) z1&&&(1:UInt64)==(1:UInt64),()),())⟩))
  (.ok ⟨DE,((false,()),())⟩))
 (.ok ⟨DE,((false,()),())⟩))
theorem aG5 (x:ak6) (Q:rO.Y->Prop):wpf te MS av 1000 Tryz.f84 (rO.inp.inj x).tm (rO.inp.inj x).hp (fnK rO afZ Q) (λ_ _=>False)=(apz (x.1.1) (x.1.2.1)).wpR Q:=by kernel_rfl
theorem apy (pre:ak6->Bool) (F:ak6->OT rO.Y) (hF:∀ (x:ak6) oy,pre x=true->(F x).run=some oy->(apz (x.1.1) (x.1.2.1)).run=some oy):ac Tryz.prog 84 (rO.aI pre F):=
 aD ar FE afq (f:=84) (fn:=Tryz.f84) (c:=aj Tryz.f84) (by kernel_rfl) (by kernel_rfl) (by kernel_rfl) (S:=rO) (k:=0) (by kernel_rfl) (λR hR=>af) (n:=1000) (sel:=afZ) (λv o h=>by cases h;rfl) (pre:=pre) (F:=F) (T:=λx=>apz (x.1.1) (x.1.2.1)) (λx Q=>aG5 x Q) hF
def xJ (a:aa) (i:Int):Bool:=cond (decide (0<=i)) (cond (decide (i<256)) (afb a.nat i.toNat) false) false
def af0 (_:ak6):Bool:=true
def aBx (x:ak6):OT rO.Y:=.ok ⟨DE,((xJ x.1.1 x.1.2.1,()),())⟩
theorem avY {a:aa} {i:Int} (h1:0<=i) (h2:i<256):(bk (List.getD [a.w0,a.w1,a.w2,a.w3] (Int.toNat (Int.tdiv i 64)+0) 0) (Int.tmod i 64)&&&1==1)=xJ a i:=by
 obtain ⟨n,rfl⟩:∃ n:Nat,i=(n:Int):=⟨i.toNat,by omega⟩
 have hn:n<256:=by omega
 have t1:Int.tdiv (n:Int) 64=((n/64:Nat):Int):=by rw [Int.tdiv_eq_ediv_of_nonneg (by omega)];omega
 have t2:Int.tmod (n:Int) 64=((n%64:Nat):Int):=by rw [Int.tmod_eq_emod_of_nonneg (by omega)];omega
 rw [t1,t2,Vj,eZ _ _ (by omega),Int.toNat_natCast,Nat.add_zero]
 have:=rn (a:=a) (q:=n/64) (r:=n%64) (by omega) (by omega)
 rw [show 64*(n/64)+n%64=n by omega] at this
 unfold xJ afb
 rw [decide_eq_true h1,decide_eq_true h2,Int.toNat_natCast]
 simp only [cond_true]
 rw [<-this]
 rfl
theorem aCD:ac Tryz.prog 84 (rO.aI af0 aBx):=apy _ _ λx oy _ ho=>by
 rw [<-ho]
 clear ho
 obtain ⟨⟨a,i,⟨⟩⟩,⟨⟩⟩:=x
 show _=(OT.ok ⟨DE,((xJ a i,()),())⟩:OT rO.Y).run
 by_cases h1:0<=i
 ·refine (OT.ao (decide_eq_true h1)).trans ?_
  by_cases h2:i<256
  ·refine (OT.ao (decide_eq_true h2)).trans ((ah ?_).trans ?_)
   ·obtain ⟨n,rfl⟩:∃ n:Nat,i=(n:Int):=⟨i.toNat,by omega⟩
    have t1:Int.tdiv (n:Int) 64=((n/64:Nat):Int):=by rw [Int.tdiv_eq_ediv_of_nonneg (by omega)];omega
    have t2:Int.tmod (n:Int) 64=((n%64:Nat):Int):=by rw [Int.tmod_eq_emod_of_nonneg (by omega)];omega
    simp only [t1,t2,Int.toNat_natCast,Nat.add_zero,List.all_cons,List.all_nil,Bool.and_true,Bool.and_eq_true,Bool.true_and]
    exact ⟨aH (by omega),aN (by omega),decide_eq_true (by omega),decide_eq_true (by omega)⟩
   ·simp only [avY h1 h2]
  ·have e:xJ a i=false:=by unfold xJ;rw [decide_eq_true h1,decide_eq_false h2];rfl
   rw [e]
   exact OT.aq (decide_eq_false h2)
 ·have e:xJ a i=false:=by unfold xJ;rw [decide_eq_false h1];rfl
  rw [e]
  exact OT.aq (decide_eq_false h1)
def IU:cn:=(rO.aI af0 aBx)
theorem ak5:ac Tryz.prog 84 IU:=aCD
theorem ak4:aG IU:=aA
def RK:Env:=ay 84 IU MS
theorem Ct:aQ Tryz.prog RK:=ag ak5 FE
theorem MT:ax RK:=ae ak4 GR
theorem RJ:aW Tryz.prog te RK:=aJ follows ar Ct MT
end Go.Proofs.YtohjofabochgfaaGreat

namespace Go.Proofs.YtohjofabochgfaaGreat
open Sx Go
theorem HQ (x b:UInt64) (hb:b.toNat<=1):2*x.toNat+b.toNat=(bR x 1|||b).toNat+18446744073709551616*(bk x 63).toNat:=by
 have hx:=x.toNat_lt
 have e1:(bR x 1).toNat=2^1*(x.toNat%9223372036854775808):=by
  have e:(bR x 1).toNat=x.toNat*2^1%2^64:=lv x 1 (by omega)
  rw [e]
  omega
 have e2:(bk x 63).toNat=x.toNat/2^63:=eZ x 63 (by omega)
 have e3:=Nat.two_pow_add_eq_or_of_lt (i:=1) (b:=b.toNat) (by omega) (x.toNat%9223372036854775808)
 rw [UInt64.toNat_or,e1,<-e3,e2]
 omega
theorem I4 (x:UInt64):(bk x 63).toNat<=1:=by
 have hx:=x.toNat_lt
 have e2:(bk x 63).toNat=x.toNat/2^63:=eZ x 63 (by omega)
 rw [e2]
 omega
def aX (a:aa) (b:UInt64):aa×UInt64:=(⟨bR a.w0 1|||b,bR a.w1 1|||bk a.w0 63,bR a.w2 1|||bk a.w1 63,bR a.w3 1|||bk a.w2 63⟩,bk a.w3 63)
theorem alh (a:aa) (b:UInt64) (hb:b.toNat<=1):2*a.nat+b.toNat=(aX a b).1.nat+115792089237316195423570985008687907853269984665640564039457584007913129639936*(aX a b).2.toNat:=by
 have h0:=HQ a.w0 b hb
 have h1:=HQ a.w1 _ (I4 a.w0)
 have h2:=HQ a.w2 _ (I4 a.w1)
 have h3:=HQ a.w3 _ (I4 a.w2)
 unfold aX Sx.aa.nat
 dsimp only
 omega
def HY (m r:aa) (b:UInt64):aa:=cond (!((aX r b).2==0)) (eu (aX r b).1 m).1 (cond (!(eu (aX r b).1 m).2) (eu (aX r b).1 m).1 (aX r b).1)
theorem ajb {n m:Nat} (h1:m<=n) (h2:n<2*m):n-m=n%m:=by
 rw [Nat.mod_eq_sub_mod h1,Nat.mod_eq_of_lt (by omega)]
theorem ayY {m r:aa} {b:UInt64} (hb:b.toNat<=1) (hr:r.nat<m.nat):(HY m r b).nat=(2*r.nat+b.toNat)%m.nat:=by
 have h:=alh r b hb
 have hm:=jq m
 have hs:=jq (aX r b).1
 have h2:(aX r b).2.toNat<=1:=I4 _
 have hw:(eu (aX r b).1 m).1.nat=((aX r b).1.nat+115792089237316195423570985008687907853269984665640564039457584007913129639936-m.nat)%115792089237316195423570985008687907853269984665640564039457584007913129639936:=by
  unfold eu
  exact TL _
 unfold HY
 cases ho:(aX r b).2==0
 ·have ho:(aX r b).2.toNat=1:=by
   have:(aX r b).2.toNat≠0:=λe=>by
    have e':(aX r b).2=0:=UInt64.toNat_inj.1 e
    rw [e'] at ho
    cases ho
   omega
  show (eu (aX r b).1 m).1.nat=_
  rw [hw,<-ajb (n:=2*r.nat+b.toNat) (by omega) (by omega),Nat.mod_eq_of_lt (by omega)]
  omega
 ·have ho:(aX r b).2.toNat=0:=by
   rw [beq_iff_eq] at ho
   rw [ho]
   rfl
  have e:2*r.nat+b.toNat=(aX r b).1.nat:=by omega
  cases hu:(eu (aX r b).1 m).2
  ·have hu':m.nat<=(aX r b).1.nat:=by
    rw [afY] at hu
    exact Nat.le_of_not_lt λh'=>by rw [(Nat.blt_eq ..).mpr h'] at hu;cases hu
   show (eu (aX r b).1 m).1.nat=_
   rw [mP hu',e,ajb hu' (by omega)]
  ·have hu':(aX r b).1.nat<m.nat:=by
    rw [afY] at hu
    exact (Nat.blt_eq ..).mp hu
   show (aX r b).1.nat=_
   rw [e,Nat.mod_eq_of_lt hu']
def Oi (a:aa) (i:Nat):UInt64:=bk ((lst a).getD (i/64) 0) ((i%64:Nat):Int)&&&1
theorem akI (a:aa) {i:Nat} (hi:i<256):(Oi a i).toNat=a.nat/2^i%2:=by
 have e:∀ x:UInt64,(x&&&1).toNat=x.toNat%2:=λx=>by
  rw [UInt64.toNat_and]
  exact Nat.and_two_pow_sub_one_eq_mod x.toNat 1
 unfold Oi
 rw [e,eZ _ _ (by omega),rn (by omega) (by omega),show 64*(i/64)+i%64=i by omega]
def ab2 (m a r:aa):Nat->aa:=upto (λk r=>HY m r (Oi a (255-k))) r
theorem SC {m a r:aa} (hr:r.nat<m.nat):∀ k,k<=256->(ab2 m a r k).nat=(r.nat*2^k+a.nat/2^(256-k))%m.nat/\(ab2 m a r k).nat<m.nat
 |0,_=>by
  have h:=jq a
  refine ⟨?_,hr⟩
  show r.nat=_
  rw [Nat.pow_zero,Nat.mul_one,Nat.div_eq_of_lt h,Nat.add_zero,Nat.mod_eq_of_lt hr]
 |k+1,hk=>by
  obtain ⟨h1,h2⟩:=SC (a:=a) hr k (by omega)
  have hb:=akI a (i:=255-k) (by omega)
  have hb1:(Oi a (255-k)).toNat<=1:=by omega
  have h3:=ayY hb1 h2
  have e:(ab2 m a r (k+1)).nat=(2*(ab2 m a r k).nat+(Oi a (255-k)).toNat)%m.nat:=h3
  have e2:a.nat/2^(255-k)=2*(a.nat/2^(256-k))+(Oi a (255-k)).toNat:=by
   rw [hb,show 256-k=255-k+1 by omega,Nat.pow_succ,<-Nat.div_div_eq_div_mul]
   omega
  refine ⟨?_,?_⟩
  ·rw [e,h1,show 256-(k+1)=255-k by omega,e2,Nat.pow_succ]
   rw [<-Nat.mod_add_mod,Nat.mul_mod_mod,Nat.mod_add_mod]
   congr 1
   rw [Nat.mul_add,<-Nat.mul_assoc,Nat.mul_comm (2^k) 2,<-Nat.mul_assoc,Nat.mul_comm r.nat 2,Nat.add_assoc]
  ·rw [e]
   exact Nat.mod_lt _ (by omega)
def ayZ (lo hi m:aa):aa:=ofN ((lo.nat+115792089237316195423570985008687907853269984665640564039457584007913129639936*hi.nat)%m.nat)
theorem aij {m lo hi:aa} (hm:0<m.nat):ab2 m lo (ab2 m hi ⟨0,0,0,0⟩ 256) 256=ayZ lo hi m:=by
 have h0:(⟨0,0,0,0⟩:aa).nat<m.nat:=hm
 obtain ⟨h1,h2⟩:=SC (a:=hi) h0 256 (Nat.le_refl _)
 obtain ⟨h3,h4⟩:=SC (a:=lo) h2 256 (Nat.le_refl _)
 have hl:=jq m
 refine qM ?_
 unfold ayZ
 rw [h3,h1,km (Nat.lt_trans (Nat.mod_lt _ hm) hl),show 256-256=0 from rfl,Nat.pow_zero,Nat.div_one,Nat.div_one,show (⟨0,0,0,0⟩:aa).nat=0 from rfl,Nat.zero_mul,Nat.zero_add,<-Nat.mod_add_mod,Nat.mod_mul_mod,Nat.mod_add_mod,Nat.mul_comm,Nat.add_comm]
end Go.Proofs.YtohjofabochgfaaGreat

namespace Go.Proofs.YtohjofabochgfaaGreat
open Sx Go
set_option maxRecDepth 100000
def ib:aw:=⟨[.val true .elem,.val false .u64],[],true,0,false⟩
abbrev Dy:Type:=((aa)×(UInt64)×Unit)×(Unit)
def r7:Shape:=⟨25,[(1,.val false .u64),(2,.ptr 0 0 0),(4,.ptr 1 0 0),(7,.val false .int)],[(0,.row .u64),(1,.row .u64)],0,true⟩
abbrev cw:Type:=((UInt64)×(Unit)×(Unit)×(Int)×Unit)×((List (UInt64))×(List (UInt64))×Unit)
def qb:Shape:=⟨25,[(1,.val false .u64),(2,.ptr 0 0 0),(4,.ptr 1 0 0)],[(0,.row .u64),(1,.row .u64)],0,true⟩
abbrev jR:Type:=((UInt64)×(Unit)×(Unit)×Unit)×((List (UInt64))×(List (UInt64))×Unit)
def VZ:SE->Option Shape:=fC [(0,qb)] none
def app (a1:UInt64) (a7:Int) (c0:List (UInt64)) (c1:List (UInt64)):OT (Sum cw aE):=
 let z0:Bool:=inB a7 4
 let z1:Bool:=decide (Int.toNat a7+0<List.length c0)
 let z2:UInt64:=List.getD c0 (Int.toNat a7+0) (0:UInt64)
 (.br (decide (a7<(4:Int)))
 (gd [z0,z1,z0,z1,z0,z1,inR (a7+(1:Int))] (.ok (.inl ((bk z2 (63:Int),((),((),(a7+(1:Int),())))),(List.set c0 (Int.toNat a7+0) (bR z2 (1:Int)|||a1),(c1,()))))))
 (.ok (.inr ⟨(.exit 0,qb),((a1,((),((),()))),(c0,(c1,())))⟩)))
def r8 (s:cw):OT (Sum cw aE):=app (s.1.1) (s.1.2.2.2.1) (s.2.1) (s.2.2.1)
theorem apm (s:cw) (Q:Sum cw aE->Prop):wps te RK av 1000 (aU (aj Tryz.f147) 0) (r7.inj s) (bY r7 VZ (Q:Sum r7.T aE->Prop))=(r8 s).wpR Q:=by kernel_rfl
def zZ (g0_0:cw->jR) (s:cw):OT aE:=(.ok ⟨(.exit 0,qb),g0_0 s⟩)
def IL:az:=⟨[.val true .elem,.val false .u64],[],false⟩
def O7:SV->Option az:=λ_=>some IL
def R9 (ok0:cw->Bool) (g0_0:cw->jR) (a0:aa) (a1:UInt64):OT ib.Y:=
 let z0:(UInt64×PUnit×PUnit×Int×PUnit)×List UInt64×List UInt64×PUnit:=((a1,(),(),(0:Int),()),[a0.w0,a0.w1,a0.w2,a0.w3],[(0:UInt64),(0:UInt64),(0:UInt64),(0:UInt64)],())
 let z1:(UInt64×PUnit×PUnit×PUnit)×List UInt64×List UInt64×PUnit:=g0_0 z0
 let z2:=z1.snd
 let z3:=z2.fst
 let z4:=z2.snd.fst
 let z5:List UInt64:=lay z4 z3 4 (0:UInt64)
 (gd [ok0 z0,decide (4<=List.length z3),decide ((4/1:Nat)+0<=List.length z4),decide (4<=List.length z5)] (.ok ⟨IL,(({w0:=List.getD z5 0 0,w1:=List.getD z5 1 0,w2:=List.getD z5 2 0,w3:=List.getD z5 3 0},(z1.fst.fst,())),())⟩))
theorem awB (ok0:cw->Bool) (g0_0:cw->jR) (x:Dy) (Q:ib.Y->Prop):wpf te RK (aO 0 (cl r7 0 ok0 (zZ g0_0)) av) 1000 Tryz.f147 (ib.inp.inj x).tm (ib.inp.inj x).hp (fnK ib O7 Q) (λ_ _=>False)=(R9 ok0 g0_0 (x.1.1) (x.1.2.1)).wpR Q:=by kernel_rfl
theorem abi (ok0:cw->Bool) (g0_0:cw->jR) (h0:∀ s:cw,ok0 s=true->∃ m e,al (r8) m s=some e/\(zZ g0_0 s).run=some e) (pre:Dy->Bool) (F:Dy->OT ib.Y) (hF:∀ (x:Dy) oy,pre x=true->(F x).run=some oy->(R9 ok0 g0_0 (x.1.1) (x.1.2.1)).run=some oy):ac Tryz.prog 147 (ib.aI pre F):=
 aD ar Ct RJ (f:=147) (fn:=Tryz.f147) (c:=aj Tryz.f147) (by kernel_rfl) (by kernel_rfl) (by kernel_rfl) (S:=ib) (k:=0) (by kernel_rfl) (λR hR=>(aB (c:=(aj Tryz.f147)) (by kernel_rfl) (id:=0) (by kernel_rfl) (aR ar Ct RJ (sh:=r7) hR (xs:=VZ) (aC (by kernel_rfl) (by kernel_rfl) hR) aL af (n:=1000) (T:=r8) (λs Q=>apm s Q) (ok:=ok0) (f:=zZ g0_0) h0) af)) (n:=1000) (sel:=O7) (λv o h=>by cases h;rfl) (pre:=pre) (F:=F) (T:=λx=>R9 ok0 g0_0 (x.1.1) (x.1.2.1)) (λx Q=>awB ok0 g0_0 x Q) hF
def aI6 (k:Nat) (s:List UInt64×UInt64):List UInt64×UInt64:=(s.1.set k (bR (s.1.getD k 0) 1|||s.2),bk (s.1.getD k 0) 63)
def O9 (s:cw):Bool:=decide (s.1.2.2.2.1=0/\s.2.1.length=4)
def V2 (s:cw):jR:=(((upto aI6 (s.2.1,s.1.1) 4).2,(),(),()),((upto aI6 (s.2.1,s.1.1) 4).1,s.2.2.1,()))
theorem apo:∀ s:cw,O9 s=true->∃ m e,al r8 m s=some e/\(zZ V2 s).run=some e:=by
 rintro ⟨⟨b,⟨⟩,⟨⟩,i,⟨⟩⟩,⟨a,r,⟨⟩⟩⟩ h
 have h':=of_decide_eq_true h
 dsimp only at h'
 obtain ⟨rfl,hl⟩:=h'
 have:=(aP (T:=r8) (λk s=>(((s.2,(),(),(k:Int),()),(s.1,r,())):cw)) aI6
  (λs=>(⟨(.exit 0,qb),((s.2,(),(),()),(s.1,r,()))⟩:aE)) 4 (a,b) (λ_ s=>s.1.length=4) hl (λk s hk hs=>⟨?_,(List.length_set ..).trans hs⟩) (λs hs=> ?_)).1
 ·obtain ⟨m,hm⟩:=this
  exact ⟨m,_,hm,rfl⟩
 ·refine (OT.ao (decide_eq_true (by dsimp only;omega))).trans ((ah ?_).trans ?_)
  ·simp only [Int.toNat_natCast,Nat.add_zero,hs,List.all_cons,List.all_nil,Bool.and_true,Bool.and_eq_true]
   exact ⟨aN (by omega),decide_eq_true (by omega),aN (by omega),decide_eq_true (by omega),aN (by omega),decide_eq_true (by omega),aH (by omega)⟩
  ·simp only [OT.cP,Int.toNat_natCast,Nat.add_zero]
   rfl
 ·exact OT.aq (decide_eq_false (by dsimp only;omega))
def O8 (_:Dy):Bool:=true
def afT (x:Dy):OT ib.Y:=.ok ⟨IL,(((aX x.1.1 x.1.2.1).1,((aX x.1.1 x.1.2.1).2,())),())⟩
theorem apn:ac Tryz.prog 147 (ib.aI O8 afT):=abi O9 V2 apo _ _ λx oy hp ho=>by
 rw [<-ho]
 clear ho
 obtain ⟨⟨a,b,⟨⟩⟩,⟨⟩⟩:=x
 refine (ah ?_).trans rfl
 simp only [List.all_cons,List.all_nil,Bool.and_true,Bool.and_eq_true]
 exact ⟨rfl,rfl,rfl,rfl⟩
def yg:cn:=(ib.aI O8 afT)
theorem V1:ac Tryz.prog 147 yg:=apn
theorem V0:aG yg:=aA
def wX:Env:=ay 147 yg RK
theorem rv:aQ Tryz.prog wX:=ag V1 Ct
theorem Cs:ax wX:=ae V0 MT
theorem GQ:aW Tryz.prog te wX:=aJ follows ar rv Cs
def rN:aw:=⟨[.val true .elem,.val true .elem,.val true .elem],[],true,0,false⟩
abbrev ak1:Type:=((aa)×(aa)×(aa)×Unit)×(Unit)
def IP:Shape:=⟨57,[(5,.ptr 0 0 0),(6,.ptr 1 0 0),(8,.ptr 2 0 0),(10,.ptr 3 0 0),(11,.val false .int),(21,.val true (.arr 2 .elem)),(22,.val false .int)],[(0,.row .u64),(1,.row .u64),(2,.row .u64),(3,.row .u64)],0,true⟩
abbrev dj:Type:=((Unit)×(Unit)×(Unit)×(Unit)×(Int)×(List (aa))×(Int)×Unit)×((List (UInt64))×(List (UInt64))×(List (UInt64))×(List (UInt64))×Unit)
def Aa:Shape:=⟨57,[(5,.ptr 0 0 0),(6,.ptr 1 0 0),(8,.ptr 2 0 0),(21,.val true (.arr 2 .elem)),(22,.val false .int)],[(0,.row .u64),(1,.row .u64),(2,.row .u64)],0,true⟩
abbrev kV:Type:=((Unit)×(Unit)×(Unit)×(List (aa))×(Int)×Unit)×((List (UInt64))×(List (UInt64))×(List (UInt64))×Unit)
def apq:SE->Option Shape:=fC [(2,Aa)] none
def abk (a11:Int) (a21:List (aa)) (a22:Int) (c0:List (UInt64)) (c1:List (UInt64)) (c2:List (UInt64)) (c3:List (UInt64)):OT (Sum dj aE):=
 let z0:Nat:=List.length c2
 let z1:Int:=Int.tdiv a11 (64:Int)
 let z2:Int:=Int.tmod a11 (64:Int)
 let z3:aa×UInt64:=aX {w0:=List.getD c2 0 0,w1:=List.getD c2 1 0,w2:=List.getD c2 2 0,w3:=List.getD c2 3 0} (bk (List.getD c3 (Int.toNat z1+0) (0:UInt64)) z2&&&(1:UInt64))
 let z4:=z3.fst
 let z5:List UInt64:=List.set (List.set (List.set (List.set c2 0 z4.w0) 1 z4.w1) 2 z4.w2) 3 z4.w3
 let z6:Nat:=List.length z5
 let z7:Bool:=decide ((4/1:Nat)+0<=z6)
 let z8:Bool:=inR (a11-(1:Int))
 let z9:aa:= {w0:=0,w1:=0,w2:=0,w3:=0}
 let z10:aa×Bool:=eu {w0:=List.getD z5 0 0,w1:=List.getD z5 1 0,w2:=List.getD z5 2 0,w3:=List.getD z5 3 0} {w0:=List.getD c0 0 0,w1:=List.getD c0 1 0,w2:=List.getD c0 2 0,w3:=List.getD c0 3 0}
 let z11:=z10.fst
 let z12:List UInt64:=List.set (List.set (List.set (List.set z5 0 z11.w0) 1 z11.w1) 2 z11.w2) 3 z11.w3
 (.br (decide ((0:Int)<=a11))
 (gd [decide (4<=z0),true&&inR z1,inB z1 4,decide (Int.toNat z1+0<List.length c3),decide ((0:Int)<=z2),decide ((4/1:Nat)+0<=z0),decide (4<=z6),decide (4<=List.length c0)] (.br (!z3.snd==(0:UInt64))
  (gd [z7,z8] (.ok (.inl (((),((),((),((),(a11-(1:Int),([List.getD a21 0 z9,List.getD a21 1 z9],(a22,()))))))),(c0,(c1,(z12,(c3,()))))))))
  (.br (!z10.snd)
   (gd [z7,z8] (.ok (.inl (((),((),((),((),(a11-(1:Int),([List.getD a21 0 z9,List.getD a21 1 z9],(a22,()))))))),(c0,(c1,(z12,(c3,()))))))))
   (gd [z8] (.ok (.inl (((),((),((),((),(a11-(1:Int),([List.getD a21 0 z9,List.getD a21 1 z9],(a22,()))))))),(c0,(c1,(z5,(c3,())))))))))))
 (.ok (.inr ⟨(.exit 2,Aa),(((),((),((),([List.getD a21 0 z9,List.getD a21 1 z9],(a22,()))))),(c0,(c1,(c2,()))))⟩)))
def IQ (s:dj):OT (Sum dj aE):=abk (s.1.2.2.2.2.1) (s.1.2.2.2.2.2.1) (s.1.2.2.2.2.2.2.1) (s.2.1) (s.2.2.1) (s.2.2.2.1) (s.2.2.2.2.1)
theorem aCy (s:dj) (Q:Sum dj aE->Prop):wps te wX av 1000 (aU (aj Tryz.f111) 2) (IP.inj s) (bY IP apq (Q:Sum IP.T aE->Prop))=(IQ s).wpR Q:=by kernel_rfl
def Sb (g2_2:dj->kV) (s:dj):OT aE:=(.ok ⟨(.exit 2,Aa),(((g2_2 s).1.1,((g2_2 s).1.2.1,((g2_2 s).1.2.2.1,(s.1.2.2.2.2.2.1,(s.1.2.2.2.2.2.2.1,()))))),(g2_2 s).2)⟩)
def Dz:az:=⟨[.val true .elem,.val false .int],[],false⟩
def afU:SV->Option az:=λ_=>some Dz
def Pa (ok2:dj->Bool) (g2_2:dj->kV) (a0:aa) (a1:aa) (a2:aa):OT rN.Y:=
 let z0:(PUnit×PUnit×PUnit×PUnit×Int×List aa×Int×PUnit)×List UInt64×List UInt64×List UInt64×List UInt64×PUnit:=(((),(),(),(),(255:Int),[a1,a0],(0:Int),()),[a2.w0,a2.w1,a2.w2,a2.w3],[(0:UInt64),(0:UInt64),(0:UInt64),(0:UInt64)],[(0:UInt64),(0:UInt64),(0:UInt64),(0:UInt64)],[a1.w0,a1.w1,a1.w2,a1.w3],())
 let z1:=(g2_2 z0).snd
 let z2:=z1.snd
 let z3:(PUnit×PUnit×PUnit×PUnit×Int×List aa×Int×PUnit)×List UInt64×List UInt64×List UInt64×List UInt64×PUnit:=(((),(),(),(),(255:Int),[a1,a0],(0:Int)+(1:Int),()),z1.fst,z2.fst,z2.snd.fst,[a0.w0,a0.w1,a0.w2,a0.w3],())
 let z4:=(g2_2 z3).snd.snd
 let z5:=z4.snd.fst
 let z6:=z4.fst
 let z7:List UInt64:=lay z6 z5 4 (0:UInt64)
 (.br (a2.w0==(0:UInt64)&&(a2.w1==(0:UInt64)&&(a2.w2==(0:UInt64)&&(a2.w3==(0:UInt64)&&true))))
 (.ok ⟨Dz,(({w0:=0,w1:=0,w2:=0,w3:=0},((10:Int),())),())⟩)
 (gd [ok2 z0,ok2 z3,decide (4<=List.length z5),decide ((4/1:Nat)+0<=List.length z6),decide (4<=List.length z7)] (.ok ⟨Dz,(({w0:=List.getD z7 0 0,w1:=List.getD z7 1 0,w2:=List.getD z7 2 0,w3:=List.getD z7 3 0},((0:Int),())),())⟩)))
theorem aG3 (ok2:dj->Bool) (g2_2:dj->kV) (x:ak1) (Q:rN.Y->Prop):wpf te wX (aO 2 (cl IP 2 ok2 (Sb g2_2)) av) 1000 Tryz.f111 (rN.inp.inj x).tm (rN.inp.inj x).hp (fnK rN afU Q) (λ_ _=>False)=(Pa ok2 g2_2 (x.1.1) (x.1.2.1) (x.1.2.2.1)).wpR Q:=by kernel_rfl
theorem apr (ok2:dj->Bool) (g2_2:dj->kV) (h2:∀ s:dj,ok2 s=true->∃ m e,al (IQ) m s=some e/\(Sb g2_2 s).run=some e) (pre:ak1->Bool) (F:ak1->OT rN.Y) (hF:∀ (x:ak1) oy,pre x=true->(F x).run=some oy->(Pa ok2 g2_2 (x.1.1) (x.1.2.1) (x.1.2.2.1)).run=some oy):ac Tryz.prog 111 (rN.aI pre F):=
 aD ar rv GQ (f:=111) (fn:=Tryz.f111) (c:=aj Tryz.f111) (by kernel_rfl) (by kernel_rfl) (by kernel_rfl) (S:=rN) (k:=0) (by kernel_rfl) (λR hR=>(aB (c:=(aj Tryz.f111)) (by kernel_rfl) (id:=2) (by kernel_rfl) (aR ar rv GQ (sh:=IP) hR (xs:=apq) (aC (by kernel_rfl) (by kernel_rfl) hR) aL af (n:=1000) (T:=IQ) (λs Q=>aCy s Q) (ok:=ok2) (f:=Sb g2_2) h2) af)) (n:=1000) (sel:=afU) (λv o h=>by cases h;rfl) (pre:=pre) (F:=F) (T:=λx=>Pa ok2 g2_2 (x.1.1) (x.1.2.1) (x.1.2.2.1)) (λx Q=>aG3 ok2 g2_2 x Q) hF
def Sa (s:dj):Bool:=decide (s.1.2.2.2.2.1=255/\s.1.2.2.2.2.2.1.length=2/\s.2.1.length=4/\s.2.2.2.1.length=4/\s.2.2.2.2.1.length=4)
def abj (s:dj):kV:=(((),(),(),s.1.2.2.2.2.2.1,s.1.2.2.2.2.2.2.1,()),(s.2.1,s.2.2.1,lst (ab2 (elemOf s.2.1) (elemOf s.2.2.2.2.1) (elemOf s.2.2.2.1) 256),()))
theorem aJa (i:Nat):Int.tdiv (i:Int) 64=((i/64:Nat):Int):=by rw [Int.tdiv_eq_ediv_of_nonneg (by omega)];omega
theorem aJb (i:Nat):Int.tmod (i:Int) 64=((i%64:Nat):Int):=by rw [Int.tmod_eq_emod_of_nonneg (by omega)];omega
theorem aCA:∀ s:dj,Sa s=true->∃ m e,al IQ m s=some e/\(Sb abj s).run=some e:=by
 rintro ⟨⟨⟨⟩,⟨⟩,⟨⟩,⟨⟩,i,arr,j,⟨⟩⟩,⟨c0,c1,c2,c3,⟨⟩⟩⟩ h
 have h':=of_decide_eq_true h
 dsimp only at h'
 obtain ⟨rfl,ha,h0,h2,h3⟩:=h'
 obtain ⟨x,y,rfl⟩:∃ x y,arr= [x,y]:=by
  match arr,ha with
  | [x,y],_=>exact ⟨x,y,rfl⟩
 obtain ⟨m,rfl⟩:∃ a,c0=lst a:=⟨elemOf c0,(aS h0).symm⟩
 obtain ⟨r,rfl⟩:∃ a,c2=lst a:=⟨elemOf c2,(aS h2).symm⟩
 obtain ⟨t,rfl⟩:∃ a,c3=lst a:=⟨elemOf c3,(aS h3).symm⟩
 have:=(aP (T:=IQ) (λk r=>((((),(),(),(),(255:Int)-(k:Int),[x,y],j,()),(lst m,c1,lst r,lst t,())):dj)) (λk r=>HY m r (Oi t (255-k)))
  (λr=>(⟨(.exit 2,Aa),(((),(),(),[x,y],j,()),(lst m,c1,lst r,()))⟩:aE)) 256 r (λ_ _=>True) trivial (λk r hk _=>⟨?_,trivial⟩) (λr _=> ?_)).1
 ·obtain ⟨n,hn⟩:=this
  exact ⟨n,_,hn,rfl⟩
 ·have e0:(255:Int)-(k:Int)=((255-k:Nat):Int):=by omega
  have e1:(255:Int)-((k+1:Nat):Int)=((255-k:Nat):Int)-1:=by omega
  have hb:bk ((lst t).getD ((255-k)/64) 0) (((255-k)%64:Nat):Int)&&&1=Oi t (255-k):=rfl
  rw [e1,e0]
  show (abk ((255-k:Nat):Int) [x,y] j (lst m) c1 (lst r) (lst t)).run=some (.inl (((),(),(),(),((255-k:Nat):Int)-1,[x,y],j,()),(lst m,c1,lst (HY m r (Oi t (255-k))),lst t,())))
  unfold abk
  simp only [aJa,aJb,Int.toNat_natCast,Nat.add_zero,hb]
  refine (OT.ao (decide_eq_true (by omega))).trans ((ah ?_).trans ?_)
  ·simp only [List.all_cons,List.all_nil,Bool.and_true,Bool.true_and,Bool.and_eq_true]
   have hl:∀ a:aa,(lst a).length=4:=λ_=>rfl
   exact ⟨rfl,aH (by omega),aN (by omega),decide_eq_true (by rw [hl];omega),decide_eq_true (by omega),rfl,rfl,rfl⟩
  ·have hr:inR (((255-k:Nat):Int)-1)=true:=aH (by omega)
   rcases (Bool.eq_false_or_eq_true ((aX r (Oi t (255-k))).2==0)).symm with g|g
   ·have e:HY m r (Oi t (255-k))=(eu (aX r (Oi t (255-k))).1 m).1:=by unfold HY;rw [g];rfl
    rw [e]
    exact (OT.ao (b:= !((aX r (Oi t (255-k))).2==0)) (by rw [g];rfl)).trans ((ah (by rw [hr];rfl)).trans rfl)
   ·refine (OT.aq (b:= !((aX r (Oi t (255-k))).2==0)) (by rw [g];rfl)).trans ?_
    rcases (Bool.eq_false_or_eq_true (eu (aX r (Oi t (255-k))).1 m).2).symm with u|u
    ·have e:HY m r (Oi t (255-k))=(eu (aX r (Oi t (255-k))).1 m).1:=by unfold HY;rw [g,u];rfl
     rw [e]
     exact (OT.ao (b:= !(eu (aX r (Oi t (255-k))).1 m).2) (by rw [u];rfl)).trans ((ah (by rw [hr];rfl)).trans rfl)
    ·have e:HY m r (Oi t (255-k))=(aX r (Oi t (255-k))).1:=by unfold HY;rw [g,u];rfl
     rw [e]
     exact (OT.aq (b:= !(eu (aX r (Oi t (255-k))).1 m).2) (by rw [u];rfl)).trans ((ah (by rw [hr];rfl)).trans rfl)
 ·exact OT.aq (decide_eq_false (by dsimp only;omega))
def afV (_:ak1):Bool:=true
def nk (m:aa):Bool:=m.w0==0&&(m.w1==0&&(m.w2==0&&(m.w3==0&&true)))
def aBw (x:ak1):OT rN.Y:=.br (nk x.1.2.2.1) (.ok ⟨Dz,((⟨0,0,0,0⟩,((10:Int),())),())⟩) (.ok ⟨Dz,((ayZ x.1.1 x.1.2.1 x.1.2.2.1,((0:Int),())),())⟩)
theorem Qy {m:aa} (h:nk m=false):0<m.nat:=by
 refine Nat.pos_of_ne_zero λe=> ?_
 have e2:m=⟨0,0,0,0⟩:=qM e
 rw [e2] at h
 cases h
theorem aps {ok2:dj->Bool} {g2:dj->kV} {a b m H R:aa} (h:nk m=false)
 (h1:ok2 (((),(),(),(),255,[b,a],0,()),(lst m,lst ⟨0,0,0,0⟩,lst ⟨0,0,0,0⟩,lst b,()))=true)
 (e1:(g2 (((),(),(),(),255,[b,a],0,()),(lst m,lst ⟨0,0,0,0⟩,lst ⟨0,0,0,0⟩,lst b,()))).2=(lst m,lst ⟨0,0,0,0⟩,lst H,()))
 (h2:ok2 (((),(),(),(),255,[b,a],0+1,()),(lst m,lst ⟨0,0,0,0⟩,lst H,lst a,()))=true)
 (e2:(g2 (((),(),(),(),255,[b,a],0+1,()),(lst m,lst ⟨0,0,0,0⟩,lst H,lst a,()))).2=(lst m,lst ⟨0,0,0,0⟩,lst R,())):
 (Pa ok2 g2 a b m).run=some ⟨Dz,((R,((0:Int),())),())⟩:=by
 have l:∀ e:aa,lst e= [e.w0,e.w1,e.w2,e.w3]:=λ_=>rfl
 rw [l m,l ⟨0,0,0,0⟩] at h1 e1 h2 e2
 rw [l b] at h1 e1
 rw [l a] at h2 e2
 unfold Pa
 simp only [e1,h1,e2,h2]
 exact (OT.aq h).trans ((ah rfl).trans rfl)
theorem aCz:ac Tryz.prog 111 (rN.aI afV aBw):=apr Sa abj aCA _ _ λx oy hp ho=>by
 rw [<-ho]
 clear ho
 obtain ⟨⟨a,b,m,⟨⟩⟩,⟨⟩⟩:=x
 show (Pa Sa abj a b m).run=(OT.br (nk m) _ _:OT rN.Y).run
 rcases (Bool.eq_false_or_eq_true (nk m)).symm with h|h
 ·refine Eq.trans (aps (H:=ab2 m b ⟨0,0,0,0⟩ 256) (R:=ab2 m a (ab2 m b ⟨0,0,0,0⟩ 256) 256) h rfl rfl rfl rfl) ?_
  rw [aij (Qy h)]
  rw [h]
  rfl
 ·exact (OT.ao h).trans (OT.ao (b:=nk m) h).symm
def IM:cn:=(rN.aI afV aBw)
theorem ak0:ac Tryz.prog 111 IM:=aCz
theorem akZ:aG IM:=aA
def aaD:Env:=ay 111 IM wX
theorem MQ:aQ Tryz.prog aaD:=ag ak0 rv
theorem MR:ax aaD:=ae akZ Cs
theorem aoX:aW Tryz.prog te aaD:=aJ follows ar MQ MR
def Lz:aw:=⟨[.val false .int],[],true,0,false⟩
abbrev aGV:Type:=((Int)×Unit)×(Unit)
def GH:az:=⟨[.val true (.prod .elem (.prod .int (.prod .u64 (.prod .u64 .elem)))),.val false .int],[],false⟩
def auj:SV->Option az:=λ_=>some GH
def aFJ (a0:Int):OT Lz.Y:=
 let z0:aa:= {w0:=0,w1:=0,w2:=0,w3:=0}
 let z1:UInt64×aa:=((0:UInt64),z0)
 (.br (a0==(0:Int))
 (.ok ⟨GH,((({w0:=16513537,w1:=0,w2:=0,w3:=0},(9:Int),(16513537:UInt64),z1),((0:Int),())),())⟩)
 (.br (a0==(1:Int))
  (.ok ⟨GH,((({w0:=16521217,w1:=0,w2:=0,w3:=0},(11:Int),(16521217:UInt64),z1),((0:Int),())),())⟩)
  (.br (a0==(2:Int))
   (.ok ⟨GH,((({w0:=11037532056220336129,w1:=2469829653914515739,w2:=0,w3:=4611686018427387904},(32:Int),(0:UInt64),(11037532056220336127:UInt64),{w0:=10122100416058490895,w1:=15551789045973377255,w2:=8617542898466512152,w3:=679271340751763220}),((0:Int),())),())⟩)
   (.br (a0==(3:Int))
    (.ok ⟨GH,((({w0:=10108024940646105089,w1:=2469829653919213789,w2:=0,w3:=4611686018427387904},(32:Int),(0:UInt64),(10108024940646105087:UInt64),{w0:=18200867980676431887,w1:=7474641938123724515,w2:=9200329640471491984,w3:=679271340771891881}),((0:Int),())),())⟩)
    (.ok ⟨GH,(((z0,(0:Int),(0:UInt64),z1),((20:Int),())),())⟩)))))
theorem aJk (x:aGV) (Q:Lz.Y->Prop):wpf te aaD av 1000 Tryz.f76 (Lz.inp.inj x).tm (Lz.inp.inj x).hp (fnK Lz auj Q) (λ_ _=>False)=(aFJ (x.1.1)).wpR Q:=by kernel_rfl
theorem aAr (pre:aGV->Bool) (F:aGV->OT Lz.Y) (hF:∀ (x:aGV) oy,pre x=true->(F x).run=some oy->(aFJ (x.1.1)).run=some oy):ac Tryz.prog 76 (Lz.aI pre F):=
 aD ar MQ aoX (f:=76) (fn:=Tryz.f76) (c:=aj Tryz.f76) (by kernel_rfl) (by kernel_rfl) (by kernel_rfl) (S:=Lz) (k:=0) (by kernel_rfl) (λR hR=>af) (n:=1000) (sel:=auj) (λv o h=>by cases h;rfl) (pre:=pre) (F:=F) (T:=λx=>aFJ (x.1.1)) (λx Q=>aJk x Q) hF
abbrev O1:Type:=aa×Int×UInt64×UInt64×aa
def aHR:O1:=(⟨0,0,0,0⟩,0,0,0,⟨0,0,0,0⟩)
def aY:Nat->O1
 |0=>(⟨16513537,0,0,0⟩,9,16513537,0,⟨0,0,0,0⟩)
 |1=>(⟨16521217,0,0,0⟩,11,16521217,0,⟨0,0,0,0⟩)
 |2=>(⟨11037532056220336129,2469829653914515739,0,4611686018427387904⟩,32,0,11037532056220336127,⟨10122100416058490895,15551789045973377255,8617542898466512152,679271340751763220⟩)
 |3=>(⟨10108024940646105089,2469829653919213789,0,4611686018427387904⟩,32,0,10108024940646105087,⟨18200867980676431887,7474641938123724515,9200329640471491984,679271340771891881⟩)
 |_=>aHR
def ap (s:Int):Bool:=decide (0<=s)&&decide (s<4)
theorem cv {s:Int} (h:ap s=true):s=0\/s=1\/s=2\/s=3:=by
 simp only [ap,Bool.and_eq_true,decide_eq_true_eq] at h
 omega
theorem u5 {s:Int} (h:ap s=false):(s==0)=false/\(s==1)=false/\(s==2)=false/\(s==3)=false:=by
 have hn:∀ k:Int,0<=k->k<4->(s==k)=false:=λk h0 h1=>by
  cases hb:s==k
  ·rfl
  ·have:s=k:=by simpa using hb
   subst this
   simp only [ap,decide_eq_true h0,decide_eq_true h1,Bool.and_self] at h
   cases h
 exact ⟨hn 0 (by decide) (by decide),hn 1 (by decide) (by decide),hn 2 (by decide) (by decide),hn 3 (by decide) (by decide)⟩
def auk (_:aGV):Bool:=true
def aIh (x:aGV):OT Lz.Y:=.br (ap x.1.1) (.ok ⟨GH,((aY x.1.1.toNat,((0:Int),())),())⟩) (.ok ⟨GH,((aHR,((20:Int),())),())⟩)
theorem aIg:ac Tryz.prog 76 (Lz.aI auk aIh):=aAr _ _ λx oy _ ho=>by
 rw [<-ho]
 clear ho
 obtain ⟨⟨s,⟨⟩⟩,⟨⟩⟩:=x
 cases hs:ap s
 ·obtain ⟨h0,h1,h2,h3⟩:=u5 hs
  exact (OT.aq h0).trans ((OT.aq h1).trans ((OT.aq h2).trans ((OT.aq h3).trans (OT.aq (b:=ap s) hs).symm)))
 ·rcases cv hs with h|h|h|h
  all_goals
   have h:s=_:=h
   subst h
   rfl
theorem u4 (c:Int):ap c=(!decide (c<0)&& !decide (3<c)):=by
 rw [Bool.eq_iff_iff]
 simp only [ap,Bool.and_eq_true,decide_eq_true_eq,Bool.not_eq_true',decide_eq_false_iff_not]
 omega
def Uu:cn:=(Lz.aI auk aIh)
theorem aul:ac Tryz.prog 76 Uu:=aIg
theorem aui:aG Uu:=aA
def awt:Env:=ay 76 Uu aaD
theorem VK:aQ Tryz.prog awt:=ag aul MQ
theorem RV:ax awt:=ae aui MR
theorem aws:aW Tryz.prog te awt:=aJ follows ar VK RV
def tL:aw:=⟨[.val false .int],[],true,0,false⟩
abbrev anI:Type:=((Int)×Unit)×(Unit)
def LJ:az:=⟨[.val true .elem,.val false .int],[],false⟩
def ajP:SV->Option az:=λ_=>some LJ
def aut (a0:Int):OT tL.Y:=
 (.br (ap a0)
 (.ok ⟨LJ,(((aY (Int.toNat a0)).fst,((0:Int),())),())⟩)
 (.ok ⟨LJ,(({w0:=0,w1:=0,w2:=0,w3:=0},((20:Int),())),())⟩))
theorem aIl (x:anI) (Q:tL.Y->Prop):wpf te awt av 1000 Tryz.f66 (tL.inp.inj x).tm (tL.inp.inj x).hp (fnK tL ajP Q) (λ_ _=>False)=(aut (x.1.1)).wpR Q:=by kernel_rfl
theorem aus (pre:anI->Bool) (F:anI->OT tL.Y) (hF:∀ (x:anI) oy,pre x=true->(F x).run=some oy->(aut (x.1.1)).run=some oy):ac Tryz.prog 66 (tL.aI pre F):=
 aD ar VK aws (f:=66) (fn:=Tryz.f66) (c:=aj Tryz.f66) (by kernel_rfl) (by kernel_rfl) (by kernel_rfl) (S:=tL) (k:=0) (by kernel_rfl) (λR hR=>af) (n:=1000) (sel:=ajP) (λv o h=>by cases h;rfl) (pre:=pre) (F:=F) (T:=λx=>aut (x.1.1)) (λx Q=>aIl x Q) hF
def ajQ (_:anI):Bool:=true
def aB9 (x:anI):OT tL.Y:=.br (ap x.1.1) (.ok ⟨LJ,(((aY x.1.1.toNat).1,((0:Int),())),())⟩) (.ok ⟨LJ,((⟨0,0,0,0⟩,((20:Int),())),())⟩)
theorem aFR:ac Tryz.prog 66 (tL.aI ajQ aB9):=aus _ _ λx oy _ ho=>ho
def LI:cn:=(tL.aI ajQ aB9)
theorem anH:ac Tryz.prog 66 LI:=aFR
theorem anG:aG LI:=aA
def NI:Env:=ay 66 LI awt
theorem uR:aQ Tryz.prog NI:=ag anH VK
theorem NH:ax NI:=ae anG RV
theorem F5:aW Tryz.prog te NI:=aJ follows ar uR NH
def ph:aw:=⟨[.val true (.prod .elem (.prod .int (.prod .u64 (.prod .u64 .elem)))),.val true .elem],[],true,0,false⟩
abbrev ans:Type:=(((aa×(Int×(UInt64×(UInt64×aa)))))×(aa)×Unit)×(Unit)
def Lt:Shape:=⟨53,[(2,.ptr 0 0 0),(3,.ptr 1 0 0),(4,.ptr 2 0 0),(5,.val false .u64),(6,.val false .int)],[(0,.cells [.val false .u64,.val false .u64,.val false .u64,.val false .u64,.val false .int,.val false .u64,.val false .u64,.val false .u64,.val false .u64,.val false .u64,.val false .u64]),(1,.row .u64),(2,.row .u64)],0,true⟩
abbrev dM:Type:=((Unit)×(Unit)×(Unit)×(UInt64)×(Int)×Unit)×(((UInt64)×(UInt64)×(UInt64)×(UInt64)×(Int)×(UInt64)×(UInt64)×(UInt64)×(UInt64)×(UInt64)×(UInt64)×Unit)×(List (UInt64))×(List (UInt64))×Unit)
def BN:Shape:=⟨53,[(4,.ptr 0 0 0),(5,.val false .u64)],[(0,.row .u64)],0,true⟩
abbrev pg:Type:=((Unit)×(UInt64)×Unit)×((List (UInt64))×Unit)
def aug:SE->Option Shape:=fC [(0,BN)] none
def aFH (a5:UInt64) (a6:Int) (c0_0:UInt64) (c0_1:UInt64) (c0_2:UInt64) (c0_3:UInt64) (c0_4:Int) (c0_5:UInt64) (c0_6:UInt64) (c0_7:UInt64) (c0_8:UInt64) (c0_9:UInt64) (c0_10:UInt64) (c1:List (UInt64)) (c2:List (UInt64)):OT (Sum dM aE):=
 let z0:UInt64:=List.getD c1 (Int.toNat a6+0) (0:UInt64)
 (.br (decide ((0:Int)<=a6))
 (gd [inB a6 4,decide (Int.toNat a6+0<List.length c1),wI ((a5,z0,c0_5,()),()),inR (a6-(1:Int))] (.ok (.inl (((),((),((),(Zs a5 z0 c0_5,(a6-(1:Int),()))))),((c0_0,(c0_1,(c0_2,(c0_3,(c0_4,(c0_5,(c0_6,(c0_7,(c0_8,(c0_9,(c0_10,()))))))))))),(c1,(c2,())))))))
 (.ok (.inr ⟨(.exit 0,BN),(((),(a5,())),(c2,()))⟩)))
def Lw (s:dM):OT (Sum dM aE):=aFH (s.1.2.2.2.1) (s.1.2.2.2.2.1) (s.2.1.1) (s.2.1.2.1) (s.2.1.2.2.1) (s.2.1.2.2.2.1) (s.2.1.2.2.2.2.1) (s.2.1.2.2.2.2.2.1) (s.2.1.2.2.2.2.2.2.1) (s.2.1.2.2.2.2.2.2.2.1) (s.2.1.2.2.2.2.2.2.2.2.1) (s.2.1.2.2.2.2.2.2.2.2.2.1) (s.2.1.2.2.2.2.2.2.2.2.2.2.1) (s.2.2.1) (s.2.2.2.1)
theorem aFC (s:dM) (Q:Sum dM aE->Prop):wps te NI av 1000 (aU (aj Tryz.f91) 0) (Lt.inj s) (bY Lt aug (Q:Sum Lt.T aE->Prop))=(Lw s).wpR Q:=by kernel_rfl
def Ut (g0_0:dM->pg) (s:dM):OT aE:=(.ok ⟨(.exit 0,BN),g0_0 s⟩)
def Ls:Shape:=⟨53,[(2,.ptr 0 0 0),(3,.ptr 1 0 0),(4,.ptr 2 0 0)],[(0,.cells [.val false .u64,.val false .u64,.val false .u64,.val false .u64,.val false .int,.val false .u64,.val false .u64,.val false .u64,.val false .u64,.val false .u64,.val false .u64]),(1,.row .u64),(2,.row .u64)],0,true⟩
abbrev dL:Type:=((Unit)×(Unit)×(Unit)×Unit)×(((UInt64)×(UInt64)×(UInt64)×(UInt64)×(Int)×(UInt64)×(UInt64)×(UInt64)×(UInt64)×(UInt64)×(UInt64)×Unit)×(List (UInt64))×(List (UInt64))×Unit)
def tG:Shape:=⟨53,[(4,.ptr 0 0 0)],[(0,.row .u64)],0,true⟩
abbrev pf:Type:=((Unit)×Unit)×((List (UInt64))×Unit)
def auf:SE->Option Shape:=fC [] (some tG)
def aFG (c0_0:UInt64) (c0_1:UInt64) (c0_2:UInt64) (c0_3:UInt64) (c0_4:Int) (c0_5:UInt64) (c0_6:UInt64) (c0_7:UInt64) (c0_8:UInt64) (c0_9:UInt64) (c0_10:UInt64) (c1:List (UInt64)) (c2:List (UInt64)):OT (Sum dL aE):=
 let z0:Nat:=List.length c1
 let z1:Bool:=decide (4<=z0)
 let z2:aa×Bool:=eu {w0:=List.getD c1 0 0,w1:=List.getD c1 1 0,w2:=List.getD c1 2 0,w3:=List.getD c1 3 0} {w0:=c0_0,w1:=c0_1,w2:=c0_2,w3:=c0_3}
 let z3:=z2.fst
 (gd [z1] (.br (z2.snd)
 (gd [z1,decide ((4/1:Nat)+0<=List.length c2)] (.ok (.inr ⟨(.ret,tG),(((),()),(lay c2 c1 4 (0:UInt64),()))⟩)))
 (gd [decide ((4/1:Nat)+0<=z0)] (.ok (.inl (((),((),((),()))),((c0_0,(c0_1,(c0_2,(c0_3,(c0_4,(c0_5,(c0_6,(c0_7,(c0_8,(c0_9,(c0_10,()))))))))))),(List.set (List.set (List.set (List.set c1 0 z3.w0) 1 z3.w1) 2 z3.w2) 3 z3.w3,(c2,())))))))))
def Lv (s:dL):OT (Sum dL aE):=aFG (s.2.1.1) (s.2.1.2.1) (s.2.1.2.2.1) (s.2.1.2.2.2.1) (s.2.1.2.2.2.2.1) (s.2.1.2.2.2.2.2.1) (s.2.1.2.2.2.2.2.2.1) (s.2.1.2.2.2.2.2.2.2.1) (s.2.1.2.2.2.2.2.2.2.2.1) (s.2.1.2.2.2.2.2.2.2.2.2.1) (s.2.1.2.2.2.2.2.2.2.2.2.2.1) (s.2.2.1) (s.2.2.2.1)
theorem aFB (s:dL) (Q:Sum dL aE->Prop):wps te NI av 1000 (aU (aj Tryz.f91) 2) (Ls.inj s) (bY Ls auf (Q:Sum Ls.T aE->Prop))=(Lv s).wpR Q:=by kernel_rfl
def Us (g2_r:dL->pf) (s:dL):OT aE:=(.ok ⟨(.ret,tG),g2_r s⟩)
def q9:az:=⟨[.val true .elem],[],false⟩
def ajF:SV->Option az:=λ_=>some q9
def Lx (ok0:dM->Bool) (g0_0:dM->pg) (ok2:dL->Bool) (g2_r:dL->pf) (a0:(aa×(Int×(UInt64×(UInt64×aa))))) (a1:aa):OT ph.Y:=
 let z0:Bool:= !a0.snd.snd.fst==(0:UInt64)
 let z1:(UInt64×UInt64×UInt64×UInt64×Int×UInt64×UInt64×UInt64×UInt64×UInt64×UInt64×PUnit)×List UInt64×List UInt64×PUnit:=((a0.fst.w0,a0.fst.w1,a0.fst.w2,a0.fst.w3,a0.snd.fst,a0.snd.snd.fst,a0.snd.snd.snd.fst,a0.snd.snd.snd.snd.w0,a0.snd.snd.snd.snd.w1,a0.snd.snd.snd.snd.w2,a0.snd.snd.snd.snd.w3,()),[a1.w0,a1.w1,a1.w2,a1.w3],[(0:UInt64),(0:UInt64),(0:UInt64),(0:UInt64)],())
 let z2:(PUnit×PUnit×PUnit×UInt64×Int×PUnit)×(UInt64×UInt64×UInt64×UInt64×Int×UInt64×UInt64×UInt64×UInt64×UInt64×UInt64×PUnit)×List UInt64×List UInt64×PUnit:=(((),(),(),(0:UInt64),(3:Int),()),z1)
 let z3:(PUnit×UInt64×PUnit)×List UInt64×PUnit:=g0_0 z2
 let z4:=z3.snd.fst
 let z5:List UInt64:=List.set (List.set (List.set (List.set z4 0 z3.fst.snd.fst) 1 (0:UInt64)) 2 (0:UInt64)) 3 (0:UInt64)
 let z6:(PUnit×PUnit×PUnit×PUnit)×(UInt64×UInt64×UInt64×UInt64×Int×UInt64×UInt64×UInt64×UInt64×UInt64×UInt64×PUnit)×List UInt64×List UInt64×PUnit:=(((),(),(),()),z1)
 let z7:=(g2_r z6).snd.fst
 (.br (z0)
 (.br (a1.w1|||a1.w2|||a1.w3==(0:UInt64))
  (gd [z0] (.ok ⟨q9,(({w0:=a1.w0%a0.snd.snd.fst,w1:=0,w2:=0,w3:=0},()),())⟩))
  (gd [ok0 z2,decide ((4/1:Nat)+0<=List.length z4),decide (4<=List.length z5)] (.ok ⟨q9,(({w0:=List.getD z5 0 0,w1:=List.getD z5 1 0,w2:=List.getD z5 2 0,w3:=List.getD z5 3 0},()),())⟩)))
 (gd [ok2 z6,decide (4<=List.length z7)] (.ok ⟨q9,(({w0:=List.getD z7 0 0,w1:=List.getD z7 1 0,w2:=List.getD z7 2 0,w3:=List.getD z7 3 0},()),())⟩)))
theorem aIf (ok0:dM->Bool) (g0_0:dM->pg) (ok2:dL->Bool) (g2_r:dL->pf) (x:ans) (Q:ph.Y->Prop):wpf te NI (aO 2 (cl Ls 2 ok2 (Us g2_r)) (aO 0 (cl Lt 0 ok0 (Ut g0_0)) av)) 1000 Tryz.f91 (ph.inp.inj x).tm (ph.inp.inj x).hp (fnK ph ajF Q) (λ_ _=>False)=(Lx ok0 g0_0 ok2 g2_r (x.1.1) (x.1.2.1)).wpR Q:=by kernel_rfl
theorem auh (ok0:dM->Bool) (g0_0:dM->pg) (ok2:dL->Bool) (g2_r:dL->pf) (h0:∀ s:dM,ok0 s=true->∃ m e,al (Lw) m s=some e/\(Ut g0_0 s).run=some e) (h2:∀ s:dL,ok2 s=true->∃ m e,al (Lv) m s=some e/\(Us g2_r s).run=some e) (pre:ans->Bool) (F:ans->OT ph.Y) (hF:∀ (x:ans) oy,pre x=true->(F x).run=some oy->(Lx ok0 g0_0 ok2 g2_r (x.1.1) (x.1.2.1)).run=some oy):ac Tryz.prog 91 (ph.aI pre F):=
 aD ar uR F5 (f:=91) (fn:=Tryz.f91) (c:=aj Tryz.f91) (by kernel_rfl) (by kernel_rfl) (by kernel_rfl) (S:=ph) (k:=0) (by kernel_rfl) (λR hR=>(aB (c:=(aj Tryz.f91)) (by kernel_rfl) (id:=2) (by kernel_rfl) (aR ar uR F5 (sh:=Ls) hR (xs:=auf) (aC (by kernel_rfl) (by kernel_rfl) hR) aL af (n:=1000) (T:=Lv) (λs Q=>aFB s Q) (ok:=ok2) (f:=Us g2_r) h2) (aB (c:=(aj Tryz.f91)) (by kernel_rfl) (id:=0) (by kernel_rfl) (aR ar uR F5 (sh:=Lt) hR (xs:=aug) (aC (by kernel_rfl) (by kernel_rfl) hR) aL af (n:=1000) (T:=Lw) (λs Q=>aFC s Q) (ok:=ok0) (f:=Ut g0_0) h0) af))) (n:=1000) (sel:=ajF) (λv o h=>by cases h;rfl) (pre:=pre) (F:=F) (T:=λx=>Lx ok0 g0_0 ok2 g2_r (x.1.1) (x.1.2.1)) (λx Q=>aIf ok0 g0_0 ok2 g2_r x Q) hF
def kl (n:O1):Bool:=decide (n=aY 0)||(decide (n=aY 1)||(decide (n=aY 2)||decide (n=aY 3)))
theorem yT {n:O1} (h:kl n=true):n=aY 0\/n=aY 1\/n=aY 2\/n=aY 3:=by
 simpa [kl] using h
theorem iP {s:Int} (h:ap s=true):kl (aY s.toNat)=true:=by
 rcases cv h with rfl|rfl|rfl|rfl<;>decide+kernel
def aHD (c:List UInt64) (m:UInt64):UInt64:=upto (λk r=>Zs r (c.getD (3-k) 0) m) 0 4
theorem lu {m:UInt64} (h:fW m=true):0<m.toNat:=by
 rcases ec h with rfl|rfl<;>decide
theorem aii {a:aa} {m:UInt64} (h:fW m=true):aHD (lst a) m=UInt64.ofNat (a.nat%m.toNat):=by
 have hm:=lu h
 rw [<-UInt64.toNat_inj,UInt64.toNat_ofNat',Nat.mod_eq_of_lt (b:=2^64) (Nat.lt_trans (Nat.mod_lt _ hm) m.toNat_lt)]
 show (Zs (Zs (Zs (Zs 0 a.w3 m) a.w2 m) a.w1 m) a.w0 m).toNat=_
 rw [rf hm,rf hm,rf hm,rf hm,T3 _ a.w2.toNat,T3 _ a.w1.toNat,T3 _ a.w0.toNat,show (0:UInt64).toNat=0 from rfl]
 congr 1
 unfold Sx.aa.nat
 omega
def BM (s:dM):Bool:=decide (s.1.2.2.2.1=0/\s.1.2.2.2.2.1=3/\s.2.2.1.length=4)&&fW s.2.1.2.2.2.2.2.1
def Ur (s:dM):pg:=(((),aHD s.2.2.1 s.2.1.2.2.2.2.2.1,()),(s.2.2.2.1,()))
theorem aFF:∀ s:dM,BM s=true->∃ m e,al Lw m s=some e/\(Ut Ur s).run=some e:=by
 rintro ⟨⟨⟨⟩,⟨⟩,⟨⟩,r,i,⟨⟩⟩,⟨⟨x0,x1,x2,x3,x4,sm,x6,x7,x8,x9,x10,⟨⟩⟩,c1,c2,⟨⟩⟩⟩ h
 simp only [BM,Bool.and_eq_true,decide_eq_true_eq] at h
 obtain ⟨⟨rfl,rfl,hl⟩,hs⟩:=h
 have hm:=lu hs
 have:=(aP (T:=Lw) (λk r=>((((),(),(),r,3-(k:Int),()),((x0,x1,x2,x3,x4,sm,x6,x7,x8,x9,x10,()),c1,c2,())):dM)) (λk r=>Zs r (c1.getD (3-k) 0) sm)
  (λr=>(⟨(.exit 0,BN),(((),r,()),(c2,()))⟩:aE)) 4 0 (λ_ r=>r.toNat<sm.toNat) hm (λk r hk hr=>⟨?_,?_⟩) (λr hr=> ?_)).1
 ·obtain ⟨m,hm⟩:=this
  exact ⟨m,_,hm,rfl⟩
 ·have e1:(3-(k:Int)).toNat=3-k:=by omega
  have e2:(3:Int)-(k:Int)-1=3-((k+1:Nat):Int):=by omega
  refine (OT.ao (decide_eq_true (by dsimp only;omega))).trans ((ah ?_).trans ?_)
  ·simp only [e1,Nat.add_zero,hl,List.all_cons,List.all_nil,Bool.and_true,Bool.and_eq_true]
   refine ⟨aN (by omega),decide_eq_true (by omega),?_,aH (by omega)⟩
   simp only [wI,Bool.and_eq_true]
   exact ⟨hs,decide_eq_true (UInt64.lt_iff_toNat_lt.2 hr)⟩
  ·simp only [OT.cP,e1,e2,Nat.add_zero]
 ·rw [rf hm]
  exact Nat.mod_lt _ hm
 ·exact OT.aq (decide_eq_false (by dsimp only;omega))
def aJr (s:dL):aa:=⟨s.2.1.1,s.2.1.2.1,s.2.1.2.2.1,s.2.1.2.2.2.1⟩
def Ip (s:dL):Bool:=decide (s.2.2.1.length=4/\s.2.2.2.1.length=4/\0<(aJr s).nat)
def Uq (s:dL):pf:=(((),()),(lst (ofN ((elemOf s.2.2.1).nat%(aJr s).nat)),()))
theorem anq {x0 x1 x2 x3 x5 x6 x7 x8 x9 x10:UInt64} {x4:Int} {c2:List UInt64} (hc:c2.length=4) (hm:0<(aa.mk x0 x1 x2 x3).nat):∀ (n:Nat) (a:aa),a.nat=n->
 ∃ m,al Lv m (((),(),(),()),((x0,x1,x2,x3,x4,x5,x6,x7,x8,x9,x10,()),lst a,c2,()))=some ⟨(.ret,tG),(((),()),(lst (ofN (a.nat%(aa.mk x0 x1 x2 x3).nat)),()))⟩:=by
 intro n
 induction n using Nat.strongRecOn with
 |_ n ih=>
  intro a hn
  cases hb:Nat.blt a.nat (aa.mk x0 x1 x2 x3).nat
  ·have hle:(aa.mk x0 x1 x2 x3).nat<=a.nat:=by
    rcases Nat.lt_or_ge a.nat (aa.mk x0 x1 x2 x3).nat with h|h
    ·have:Nat.blt a.nat (aa.mk x0 x1 x2 x3).nat=true:=Nat.ble_eq_true_of_le h
     rw [this] at hb;cases hb
    ·exact h
   have hd:=mP hle
   obtain ⟨m,hm2⟩:=ih (a.nat-(aa.mk x0 x1 x2 x3).nat) (by omega) (eu a ⟨x0,x1,x2,x3⟩).1 hd
   rw [hd,<-Nat.mod_eq_sub_mod hle] at hm2
   refine ⟨m+1,aF ?_ hm2⟩
   refine (ah ?_).trans ((OT.aq hb).trans ((ah ?_).trans rfl))
   ·rfl
   ·rfl
  ·have hlt:=dR hb
   rw [Nat.mod_eq_of_lt hlt,vT]
   refine ⟨1,aM ?_⟩
   refine (ah ?_).trans ((OT.ao hb).trans ((ah ?_).trans ?_))
   ·rfl
   ·simp only [hc,List.all_cons,List.all_nil,Bool.and_true,Bool.and_eq_true]
    exact ⟨rfl,rfl⟩
   ·show some (Sum.inr (⟨(.ret,tG),(((),()),(lay c2 (lst a) 4 0,()))⟩:aE))=_
    rw [xE hc (cK a)]
theorem aFE:∀ s:dL,Ip s=true->∃ m e,al Lv m s=some e/\(Us Uq s).run=some e:=by
 rintro ⟨⟨⟨⟩,⟨⟩,⟨⟩,⟨⟩⟩,⟨⟨x0,x1,x2,x3,x4,x5,x6,x7,x8,x9,x10,⟨⟩⟩,c1,c2,⟨⟩⟩⟩ h
 have h':=of_decide_eq_true h
 dsimp only [aJr] at h'
 obtain ⟨h1,h2,h3⟩:=h'
 obtain ⟨m,hm⟩:=anq (x4:=x4) (x5:=x5) (x6:=x6) (x7:=x7) (x8:=x8) (x9:=x9) (x10:=x10) h2 h3 _ (elemOf c1) rfl
 rw [aS h1] at hm
 exact ⟨m,_,hm,rfl⟩
def gx (x:ans):Bool:=kl x.1.1
def aB5 (x:ans):OT ph.Y:=.ok ⟨q9,((ofN (x.1.2.1.nat%x.1.1.1.nat),()),())⟩
theorem tf {n:Nat} (h:n<18446744073709551616):ofN n=⟨UInt64.ofNat n,0,0,0⟩:=by
 refine atj (k:=0) ?_
 rw [UInt64.toNat_ofNat',Nat.mod_eq_of_lt (by omega)]
 simp
theorem Lu {n:O1} {a:aa} {m:UInt64} (h1:n.1=⟨m,0,0,0⟩) (h2:n.2.2.1=m) (hs:fW m=true):(Lx BM Ur Ip Uq n a).run=some ⟨q9,((ofN (a.nat%n.1.nat),()),())⟩:=by
 have hm:=lu hs
 have hn:n.1.nat=m.toNat:=by rw [h1];show m.toNat+_*(0+_*(0+_*0))=_;omega
 have hz:(!(n.2.2.1==0))=true:=by
  rw [h2]
  rcases ec hs with rfl|rfl<;>rfl
 have hlt:a.nat%m.toNat<18446744073709551616:=Nat.lt_trans (Nat.mod_lt _ hm) m.toNat_lt
 rw [hn,tf hlt]
 unfold Lx
 refine (OT.ao hz).trans ?_
 cases hb:(a.w1|||a.w2|||a.w3==0)
 ·refine (OT.aq rfl).trans ((ah ?_).trans ?_)
  ·simp only [List.all_cons,List.all_nil,Bool.and_true,Bool.and_eq_true]
   refine ⟨?_,rfl,rfl⟩
   show (decide _&&fW n.2.2.1)=true
   rw [h2,hs,Bool.and_true]
   exact decide_eq_true ⟨rfl,rfl,rfl⟩
  ·show some (⟨q9,((⟨aHD (lst a) n.2.2.1,0,0,0⟩,()),())⟩:ph.Y)=_
   rw [h2,aii hs]
 ·refine (OT.ao rfl).trans ((ah ?_).trans ?_)
  ·simp only [hz,List.all_cons,List.all_nil,Bool.and_true]
  ·have hw:a.w1=0/\a.w2=0/\a.w3=0:=by
    have:a.w1|||a.w2|||a.w3=0:=by simpa using hb
    simpa [UInt64.or_eq_zero_iff,and_assoc] using this
   have ha:a.nat=a.w0.toNat:=by
    unfold Sx.aa.nat
    rw [hw.1,hw.2.1,hw.2.2]
    show _+_*(0+_*(0+_*0))=_
    omega
   show some (⟨q9,((⟨a.w0%n.2.2.1,0,0,0⟩,()),())⟩:ph.Y)=_
   have e:a.w0%n.2.2.1=UInt64.ofNat (a.nat%m.toNat):=by
    rw [h2,ha,<-UInt64.toNat_inj,UInt64.toNat_mod,UInt64.toNat_ofNat']
    exact (Nat.mod_eq_of_lt (by rw [<-ha];omega)).symm
   rw [e]
theorem QU {n:O1} {a:aa} (h2:n.2.2.1=0) (hs:0<n.1.nat):(Lx BM Ur Ip Uq n a).run=some ⟨q9,((ofN (a.nat%n.1.nat),()),())⟩:=by
 unfold Lx
 refine (OT.aq (by rw [h2];rfl)).trans ((ah ?_).trans ?_)
 ·simp only [List.all_cons,List.all_nil,Bool.and_true,Bool.and_eq_true]
  exact ⟨decide_eq_true ⟨rfl,rfl,hs⟩,rfl⟩
 ·rfl
theorem aJP:0<(aY 2).1.nat:=by decide+kernel
theorem aJO:0<(aY 3).1.nat:=by decide+kernel
theorem aFD:ac Tryz.prog 91 (ph.aI gx aB5):=auh BM Ur Ip Uq aFF aFE _ _ λx oy hp ho=>by
 rw [<-ho]
 clear ho
 obtain ⟨⟨n,a,⟨⟩⟩,⟨⟩⟩:=x
 have hp':kl n=true:=hp
 rcases yT hp' with rfl|rfl|rfl|rfl
 ·exact Lu (m:=16513537) rfl rfl rfl
 ·exact Lu (m:=16521217) rfl rfl rfl
 ·exact QU rfl aJP
 ·exact QU rfl aJO
def Lr:cn:=(ph.aI gx aB5)
theorem anr:ac Tryz.prog 91 Lr:=aFD
theorem anp:aG Lr:=aA
def aaQ:Env:=ay 91 Lr NI
theorem Nz:aQ Tryz.prog aaQ:=ag anr uR
theorem NA:ax aaQ:=ae anp NH
theorem ao3:aW Tryz.prog te aaQ:=aJ follows ar Nz NA
def mn:aw:=⟨[.val true (.prod .elem (.prod .int (.prod .u64 (.prod .u64 .elem)))),.val true .elem,.val true .elem],[],true,0,false⟩
abbrev Q5:Type:=(((aa×(Int×(UInt64×(UInt64×aa)))))×(aa)×(aa)×Unit)×(Unit)
def UI:az:=⟨[.val true .elem],[],false⟩
def Zl:SV->Option az:=λ_=>some UI
def aeq (a0:(aa×(Int×(UInt64×(UInt64×aa))))) (a1:aa) (a2:aa):OT mn.Y:=
 let z0:Nat:=aa.nat a0.fst
 let z1:aa:=(qa (ofN (aa.nat a1%z0)) (ofN (aa.nat a2%z0))).fst
 (gd [gx ((a0,a1,()),()),gx ((a0,a2,()),()),gx ((a0,z1,()),())] (.ok ⟨UI,((ofN (aa.nat z1%z0),()),())⟩))
theorem aFZ (x:Q5) (Q:mn.Y->Prop):wpf te aaQ av 1000 Tryz.f78 (mn.inp.inj x).tm (mn.inp.inj x).hp (fnK mn Zl Q) (λ_ _=>False)=(aeq (x.1.1) (x.1.2.1) (x.1.2.2.1)).wpR Q:=by kernel_rfl
theorem an1 (pre:Q5->Bool) (F:Q5->OT mn.Y) (hF:∀ (x:Q5) oy,pre x=true->(F x).run=some oy->(aeq (x.1.1) (x.1.2.1) (x.1.2.2.1)).run=some oy):ac Tryz.prog 78 (mn.aI pre F):=
 aD ar Nz ao3 (f:=78) (fn:=Tryz.f78) (c:=aj Tryz.f78) (by kernel_rfl) (by kernel_rfl) (by kernel_rfl) (S:=mn) (k:=0) (by kernel_rfl) (λR hR=>af) (n:=1000) (sel:=Zl) (λv o h=>by cases h;rfl) (pre:=pre) (F:=F) (T:=λx=>aeq (x.1.1) (x.1.2.1) (x.1.2.2.1)) (λx Q=>aFZ x Q) hF
theorem Bn {n:O1} (h:kl n=true):0<n.1.nat/\n.1.nat<57896044618658097711785492504343953926634992332820282019728792003956564819968:=by
 rcases yT h with rfl|rfl|rfl|rfl
 ·exact ⟨by decide+kernel,by decide+kernel⟩
 ·exact ⟨by decide+kernel,by decide+kernel⟩
 ·exact ⟨by decide+kernel,by decide+kernel⟩
 ·exact ⟨by decide+kernel,by decide+kernel⟩
def pS (s:Int):Nat:=(aY s.toNat).1.nat
theorem oW {s:Int} (h:ap s=true):0<pS s/\pS s<57896044618658097711785492504343953926634992332820282019728792003956564819968:=Bn (iP h)
def FC (p:Nat) (a b:aa):aa:=ofN ((a.nat+b.nat)%p)
def zW (p:Nat) (a:aa):aa:=ofN ((p-a.nat%p)%p)
def bP (p:Nat) (a b:aa):aa:=ofN (a.nat*b.nat%p)
theorem dg {p n:Nat} (h:0<p/\p<57896044618658097711785492504343953926634992332820282019728792003956564819968):(ofN (n%p)).nat=n%p:=by
 have:=Nat.mod_lt n h.1
 exact km (by omega)
theorem awm {p:Nat} (h:0<p/\p<57896044618658097711785492504343953926634992332820282019728792003956564819968) (a b:aa):ofN ((qa (ofN (a.nat%p)) (ofN (b.nat%p))).1.nat%p)=FC p a b:=by
 have ha:=Nat.mod_lt a.nat h.1
 have hb:=Nat.mod_lt b.nat h.1
 have e:(qa (ofN (a.nat%p)) (ofN (b.nat%p))).1.nat=a.nat%p+b.nat%p:=by
  show (ofN _).nat=_
  rw [dg h,dg h]
  exact km (by omega)
 unfold FC
 rw [e,<-Nat.add_mod]
def L3 (x:Q5):Bool:=kl x.1.1
def aer (x:Q5):OT mn.Y:=.ok ⟨UI,((FC x.1.1.1.nat x.1.2.1 x.1.2.2.1,()),())⟩
theorem aAy:ac Tryz.prog 78 (mn.aI L3 aer):=an1 _ _ λx oy hp ho=>by
 rw [<-ho]
 clear ho
 obtain ⟨⟨n,a,b,⟨⟩⟩,⟨⟩⟩:=x
 have hp':kl n=true:=hp
 refine (ah ?_).trans ?_
 ·simp only [List.all_cons,List.all_nil,Bool.and_true,Bool.and_eq_true]
  exact ⟨hp',hp',hp'⟩
 ·simp only [aer,awm (Bn hp')]
def E7:cn:=(mn.aI L3 aer)
theorem aep:ac Tryz.prog 78 E7:=aAy
theorem aeo:aG E7:=aA
def NR:Env:=ay 78 E7 aaQ
theorem F7:aQ Tryz.prog NR:=ag aep Nz
theorem Hr:ax NR:=ae aeo NA
theorem afI:aW Tryz.prog te NR:=aJ follows ar F7 Hr
def mj:aw:=⟨[.val true (.prod .elem (.prod .int (.prod .u64 (.prod .u64 .elem)))),.val true .elem],[],true,0,false⟩
abbrev QX:Type:=(((aa×(Int×(UInt64×(UInt64×aa)))))×(aa)×Unit)×(Unit)
def Ux:az:=⟨[.val true .elem],[],false⟩
def Y5:SV->Option az:=λ_=>some Ux
def aeb (a0:(aa×(Int×(UInt64×(UInt64×aa))))) (a1:aa):OT mj.Y:=
 let z0:Nat:=aa.nat a0.fst
 let z1:aa:=(eu a0.fst (ofN (aa.nat a1%z0))).fst
 (gd [gx ((a0,a1,()),()),gx ((a0,z1,()),())] (.ok ⟨Ux,((ofN (aa.nat z1%z0),()),())⟩))
theorem aFL (x:QX) (Q:mj.Y->Prop):wpf te NR av 1000 Tryz.f139 (mj.inp.inj x).tm (mj.inp.inj x).hp (fnK mj Y5 Q) (λ_ _=>False)=(aeb (x.1.1) (x.1.2.1)).wpR Q:=by kernel_rfl
theorem anB (pre:QX->Bool) (F:QX->OT mj.Y) (hF:∀ (x:QX) oy,pre x=true->(F x).run=some oy->(aeb (x.1.1) (x.1.2.1)).run=some oy):ac Tryz.prog 139 (mj.aI pre F):=
 aD ar F7 afI (f:=139) (fn:=Tryz.f139) (c:=aj Tryz.f139) (by kernel_rfl) (by kernel_rfl) (by kernel_rfl) (S:=mj) (k:=0) (by kernel_rfl) (λR hR=>af) (n:=1000) (sel:=Y5) (λv o h=>by cases h;rfl) (pre:=pre) (F:=F) (T:=λx=>aeb (x.1.1) (x.1.2.1)) (λx Q=>aFL x Q) hF
theorem aFb {m:aa} (h:0<m.nat/\m.nat<57896044618658097711785492504343953926634992332820282019728792003956564819968) (a:aa):ofN ((eu m (ofN (a.nat%m.nat))).1.nat%m.nat)=zW m.nat a:=by
 have ha:=Nat.mod_lt a.nat h.1
 have e:=dg (n:=a.nat) h
 have e2:(eu m (ofN (a.nat%m.nat))).1.nat=m.nat-a.nat%m.nat:=by
  rw [mP (by rw [e];omega),e]
 unfold zW
 rw [e2]
def BQ (x:QX):Bool:=kl x.1.1
def aec (x:QX):OT mj.Y:=.ok ⟨Ux,((zW x.1.1.1.nat x.1.2.1,()),())⟩
theorem aAs:ac Tryz.prog 139 (mj.aI BQ aec):=anB _ _ λx oy hp ho=>by
 rw [<-ho]
 clear ho
 obtain ⟨⟨n,a,⟨⟩⟩,⟨⟩⟩:=x
 have hp':kl n=true:=hp
 refine (ah ?_).trans ?_
 ·simp only [List.all_cons,List.all_nil,Bool.and_true,Bool.and_eq_true]
  exact ⟨hp',hp'⟩
 ·simp only [aec,aFb (Bn hp')]
def E1:cn:=(mj.aI BQ aec)
theorem aea:ac Tryz.prog 139 E1:=aAs
theorem ad9:aG E1:=aA
def ND:Env:=ay 139 E1 NR
theorem F3:aQ Tryz.prog ND:=ag aea F7
theorem Hm:ax ND:=ae ad9 Hr
theorem afG:aW Tryz.prog te ND:=aJ follows ar F3 Hm
def tU:aw:=⟨[.val false .int,.val true .elem,.val true .elem],[],true,0,false⟩
abbrev an0:Type:=((Int)×(aa)×(aa)×Unit)×(Unit)
def L0:az:=⟨[.val true .elem],[],false⟩
def ajZ:SV->Option az:=λ_=>some L0
def auL (a0:Int) (a1:aa) (a2:aa):OT tU.Y:=
 let z0:aa×Int×UInt64×UInt64×aa:=aY (Int.toNat a0)
 (.br (ap a0)
 (gd [L3 ((z0,a1,a2,()),())] (.ok ⟨L0,((FC (aa.nat z0.fst) a1 a2,()),())⟩))
 (.ok ⟨L0,(({w0:=0,w1:=0,w2:=0,w3:=0},()),())⟩))
theorem aIo (x:an0) (Q:tU.Y->Prop):wpf te ND av 1000 Tryz.f43 (tU.inp.inj x).tm (tU.inp.inj x).hp (fnK tU ajZ Q) (λ_ _=>False)=(auL (x.1.1) (x.1.2.1) (x.1.2.2.1)).wpR Q:=by kernel_rfl
theorem auK (pre:an0->Bool) (F:an0->OT tU.Y) (hF:∀ (x:an0) oy,pre x=true->(F x).run=some oy->(auL (x.1.1) (x.1.2.1) (x.1.2.2.1)).run=some oy):ac Tryz.prog 43 (tU.aI pre F):=
 aD ar F3 afG (f:=43) (fn:=Tryz.f43) (c:=aj Tryz.f43) (by kernel_rfl) (by kernel_rfl) (by kernel_rfl) (S:=tU) (k:=0) (by kernel_rfl) (λR hR=>af) (n:=1000) (sel:=ajZ) (λv o h=>by cases h;rfl) (pre:=pre) (F:=F) (T:=λx=>auL (x.1.1) (x.1.2.1) (x.1.2.2.1)) (λx Q=>aIo x Q) hF
def aj0 (_:an0):Bool:=true
def aCc (x:an0):OT tU.Y:=.br (ap x.1.1) (.ok ⟨L0,((FC (pS x.1.1) x.1.2.1 x.1.2.2.1,()),())⟩) (.ok ⟨L0,((⟨0,0,0,0⟩,()),())⟩)
theorem aFY:ac Tryz.prog 43 (tU.aI aj0 aCc):=auK _ _ λx oy hp ho=>by
 rw [<-ho]
 clear ho
 obtain ⟨⟨s,a,b,⟨⟩⟩,⟨⟩⟩:=x
 cases hs:ap s
 ·exact (OT.aq hs).trans (OT.aq (b:=ap s) hs).symm
 ·refine (OT.ao hs).trans ((ah ?_).trans (OT.ao (b:=ap s) hs).symm)
  simp only [List.all_cons,List.all_nil,Bool.and_true]
  exact iP hs
def LZ:cn:=(tU.aI aj0 aCc)
theorem anZ:ac Tryz.prog 43 LZ:=aFY
theorem anY:aG LZ:=aA
def aaW:Env:=ay 43 LZ ND
theorem NP:aQ Tryz.prog aaW:=ag anZ F3
theorem NQ:ax aaW:=ae anY Hm
theorem ao8:aW Tryz.prog te aaW:=aJ follows ar NP NQ
def tJ:aw:=⟨[.val false .int,.val true .elem],[],true,0,false⟩
abbrev anA:Type:=((Int)×(aa)×Unit)×(Unit)
def LD:az:=⟨[.val true .elem],[],false⟩
def ajI:SV->Option az:=λ_=>some LD
def auo (a0:Int) (a1:aa):OT tJ.Y:=
 let z0:aa×Int×UInt64×UInt64×aa:=aY (Int.toNat a0)
 (.br (ap a0)
 (gd [BQ ((z0,a1,()),())] (.ok ⟨LD,((zW (aa.nat z0.fst) a1,()),())⟩))
 (.ok ⟨LD,(({w0:=0,w1:=0,w2:=0,w3:=0},()),())⟩))
theorem aIi (x:anA) (Q:tJ.Y->Prop):wpf te aaW av 1000 Tryz.f98 (tJ.inp.inj x).tm (tJ.inp.inj x).hp (fnK tJ ajI Q) (λ_ _=>False)=(auo (x.1.1) (x.1.2.1)).wpR Q:=by kernel_rfl
theorem aun (pre:anA->Bool) (F:anA->OT tJ.Y) (hF:∀ (x:anA) oy,pre x=true->(F x).run=some oy->(auo (x.1.1) (x.1.2.1)).run=some oy):ac Tryz.prog 98 (tJ.aI pre F):=
 aD ar NP ao8 (f:=98) (fn:=Tryz.f98) (c:=aj Tryz.f98) (by kernel_rfl) (by kernel_rfl) (by kernel_rfl) (S:=tJ) (k:=0) (by kernel_rfl) (λR hR=>af) (n:=1000) (sel:=ajI) (λv o h=>by cases h;rfl) (pre:=pre) (F:=F) (T:=λx=>auo (x.1.1) (x.1.2.1)) (λx Q=>aIi x Q) hF
def ajJ (_:anA):Bool:=true
def aB6 (x:anA):OT tJ.Y:=.br (ap x.1.1) (.ok ⟨LD,((zW (pS x.1.1) x.1.2.1,()),())⟩) (.ok ⟨LD,((⟨0,0,0,0⟩,()),())⟩)
theorem aFK:ac Tryz.prog 98 (tJ.aI ajJ aB6):=aun _ _ λx oy hp ho=>by
 rw [<-ho]
 clear ho
 obtain ⟨⟨s,a,⟨⟩⟩,⟨⟩⟩:=x
 cases hs:ap s
 ·exact (OT.aq hs).trans (OT.aq (b:=ap s) hs).symm
 ·refine (OT.ao hs).trans ((ah ?_).trans (OT.ao (b:=ap s) hs).symm)
  simp only [List.all_cons,List.all_nil,Bool.and_true]
  exact iP hs
def LC:cn:=(tJ.aI ajJ aB6)
theorem anz:ac Tryz.prog 98 LC:=aFK
theorem anx:aG LC:=aA
def aaR:Env:=ay 98 LC aaW
theorem NB:aQ Tryz.prog aaR:=ag anz NP
theorem NC:ax aaR:=ae anx NQ
theorem ao4:aW Tryz.prog te aaR:=aJ follows ar NB NC
def tz:aw:=⟨[.val false .int,.val true .elem,.val true .elem],[],true,0,false⟩
abbrev anj:Type:=((Int)×(aa)×(aa)×Unit)×(Unit)
def y9:az:=⟨[.val true .elem],[],false⟩
def ajx:SV->Option az:=λ_=>some y9
def aua (a0:Int) (a1:aa) (a2:aa):OT tz.Y:=
 let z0:Bool:=ap a0
 let z1:Nat:=pS a0
 let z2:aa:= {w0:=0,w1:=0,w2:=0,w3:=0}
 (.br (z0)
 (.br (z0)
  (.ok ⟨y9,((FC z1 a1 (zW z1 a2),()),())⟩)
  (.ok ⟨y9,((z2,()),())⟩))
 (.br (z0)
  (.ok ⟨y9,((FC z1 a1 z2,()),())⟩)
  (.ok ⟨y9,((z2,()),())⟩)))
theorem aIe (x:anj) (Q:tz.Y->Prop):wpf te aaR av 1000 Tryz.f152 (tz.inp.inj x).tm (tz.inp.inj x).hp (fnK tz ajx Q) (λ_ _=>False)=(aua (x.1.1) (x.1.2.1) (x.1.2.2.1)).wpR Q:=by kernel_rfl
theorem at9 (pre:anj->Bool) (F:anj->OT tz.Y) (hF:∀ (x:anj) oy,pre x=true->(F x).run=some oy->(aua (x.1.1) (x.1.2.1) (x.1.2.2.1)).run=some oy):ac Tryz.prog 152 (tz.aI pre F):=
 aD ar NB ao4 (f:=152) (fn:=Tryz.f152) (c:=aj Tryz.f152) (by kernel_rfl) (by kernel_rfl) (by kernel_rfl) (S:=tz) (k:=0) (by kernel_rfl) (λR hR=>af) (n:=1000) (sel:=ajx) (λv o h=>by cases h;rfl) (pre:=pre) (F:=F) (T:=λx=>aua (x.1.1) (x.1.2.1) (x.1.2.2.1)) (λx Q=>aIe x Q) hF
def I2 (p:Nat) (a b:aa):aa:=FC p a (zW p b)
def ajy (_:anj):Bool:=true
def aB4 (x:anj):OT tz.Y:=.br (ap x.1.1) (.ok ⟨y9,((I2 (pS x.1.1) x.1.2.1 x.1.2.2.1,()),())⟩) (.ok ⟨y9,((⟨0,0,0,0⟩,()),())⟩)
theorem aFy:ac Tryz.prog 152 (tz.aI ajy aB4):=at9 _ _ λx oy hp ho=>by
 rw [<-ho]
 clear ho
 obtain ⟨⟨s,a,b,⟨⟩⟩,⟨⟩⟩:=x
 cases hs:ap s
 ·exact (OT.aq hs).trans ((OT.aq hs).trans (OT.aq (b:=ap s) hs).symm)
 ·exact (OT.ao hs).trans ((OT.ao hs).trans (OT.ao (b:=ap s) hs).symm)
def Lp:cn:=(tz.aI ajy aB4)
theorem ani:ac Tryz.prog 152 Lp:=aFy
theorem anh:aG Lp:=aA
def RU:Env:=ay 152 Lp aaR
theorem C3:aQ Tryz.prog RU:=ag ani NB
theorem Nw:ax RU:=ae anh NC
theorem RT:aW Tryz.prog te RU:=aJ follows ar C3 Nw
end Go.Proofs.YtohjofabochgfaaGreat

namespace Go.Proofs.YtohjofabochgfaaGreat
open Sx Go
def l6 (n:Nat):List UInt64:= [UInt64.ofNat n,UInt64.ofNat (n/18446744073709551616),UInt64.ofNat (n/18446744073709551616/18446744073709551616),UInt64.ofNat (n/18446744073709551616/18446744073709551616/18446744073709551616),
 UInt64.ofNat (n/18446744073709551616/18446744073709551616/18446744073709551616/18446744073709551616),UInt64.ofNat (n/18446744073709551616/18446744073709551616/18446744073709551616/18446744073709551616/18446744073709551616)]
def v6 (l:List UInt64):Nat:=(l.getD 0 0).toNat+18446744073709551616*((l.getD 1 0).toNat+18446744073709551616*((l.getD 2 0).toNat+18446744073709551616*((l.getD 3 0).toNat+18446744073709551616*((l.getD 4 0).toNat+18446744073709551616*(l.getD 5 0).toNat))))
theorem hJ {m:Nat} {x:UInt64} (hm:m%18446744073709551616=x.toNat):UInt64.ofNat m=x:=by
 rw [<-UInt64.toNat_inj,UInt64.toNat_ofNat']
 exact hm
theorem aJh {n:Nat} {a b c d e:UInt64} {k:Nat} {f:UInt64} (h:n=a.toNat+18446744073709551616*(b.toNat+18446744073709551616*(c.toNat+18446744073709551616*(d.toNat+18446744073709551616*(e.toNat+18446744073709551616*k))))) (hf:k%18446744073709551616=f.toNat):l6 n= [a,b,c,d,e,f]:=by
 obtain ⟨h1,h0⟩:=div_eq a.toNat_lt h
 obtain ⟨h2,h3⟩:=div_eq b.toNat_lt h1
 obtain ⟨h4,h5⟩:=div_eq c.toNat_lt h2
 obtain ⟨h6,h7⟩:=div_eq d.toNat_lt h4
 obtain ⟨h8,h9⟩:=div_eq e.toNat_lt h6
 unfold l6
 rw [hJ (x:=a) h0,hJ (x:=b) h3,hJ (x:=c) h5,hJ (x:=d) h7,hJ (x:=e) h9,hJ (x:=f) (by rw [h8];exact hf)]
theorem atP (n:Nat):(l6 n).length=6:=rfl
def aG1 (t a x c:UInt64):UInt64:=xv t (xv (a*x) c 0) 0
def Dx (t a x c:UInt64):UInt64:=awy a x+zX (a*x) c 0+zX t (xv (a*x) c 0) 0
theorem aGI {t P p h c l k1 r k2 W:Nat} (hP:P=p+W*h) (h1:p+c=l+W*k1) (h2:t+l=r+W*k2):t+P+c=r+W*(h+k1+k2):=by
 rw [Nat.mul_add,Nat.mul_add]
 omega
theorem awo {t P c r q W:Nat} (hW:0<W) (ht:t<=W-1) (hc:c<=W-1) (hP:P<=(W-1)*(W-1)) (h:t+P+c=r+W*q):q<W:=by
 obtain ⟨V,rfl⟩:∃ V,W=V+1:=⟨W-1,by omega⟩
 rw [Nat.add_sub_cancel] at*
 refine Nat.lt_of_not_le λhq=> ?_
 have h1:(V+1)*(V+1)<=(V+1)*q:=Nat.mul_le_mul_left _ hq
 have h2:(V+1)*(V+1)=V*V+V+V+1:=by rw [Nat.add_mul,Nat.mul_add,Nat.one_mul,Nat.mul_one];omega
 omega
theorem azW (a x:UInt64):(awy a x).toNat=a.toNat*x.toNat/18446744073709551616:=by
 have ha:=a.toNat_lt
 have hx:=x.toNat_lt
 have:a.toNat*x.toNat/18446744073709551616<18446744073709551616:=by
  rw [Nat.div_lt_iff_lt_mul (by omega)]
  exact Nat.mul_lt_mul'' ha hx
 unfold awy
 rw [UInt64.toNat_ofNat',Nat.mod_eq_of_lt this]
theorem ID (t a x c:UInt64):t.toNat+a.toNat*x.toNat+c.toNat=(aG1 t a x c).toNat+18446744073709551616*(Dx t a x c).toNat:=by
 have hP:a.toNat*x.toNat=(a*x).toNat+18446744073709551616*(awy a x).toNat:=by
  rw [azW,UInt64.toNat_mul]
  exact (Nat.mod_add_div _ _).symm
 have h1:=mF (a*x) c 0
 have h2:=mF t (xv (a*x) c 0) 0
 rw [show (0:UInt64).toNat=0 from rfl,Nat.add_zero] at h1 h2
 have key:=aGI hP h1 h2
 have hb:=awo (W:=18446744073709551616) (by omega) (Nat.le_sub_one_of_lt t.toNat_lt) (Nat.le_sub_one_of_lt c.toNat_lt) (Nat.mul_le_mul (Nat.le_sub_one_of_lt a.toNat_lt) (Nat.le_sub_one_of_lt x.toNat_lt)) key
 have e:(Dx t a x c).toNat=(awy a x).toNat+(zX (a*x) c 0).toNat+(zX t (xv (a*x) c 0) 0).toNat:=by
  unfold Dx
  rw [UInt64.toNat_add,UInt64.toNat_add,Nat.mod_add_mod]
  exact Nat.mod_eq_of_lt hb
 rw [e]
 exact key
theorem IE {t a x c s k T A R W:Nat} (h1:t+a*x+c=s+W*k) (h2:T+A*x+k=R):(t+W*T)+(a+W*A)*x+c=s+W*R:=by
 rw [Nat.add_mul,Nat.mul_assoc,<-h2,Nat.mul_add,Nat.mul_add]
 omega
def aJL (t0 t1 t2 t3 t4 t5:UInt64) (a:aa) (x:UInt64):List UInt64:=
 let k0:=Dx t0 a.w0 x 0
 let k1:=Dx t1 a.w1 x k0
 let k2:=Dx t2 a.w2 x k1
 let k3:=Dx t3 a.w3 x k2
 [aG1 t0 a.w0 x 0,aG1 t1 a.w1 x k0,aG1 t2 a.w2 x k1,aG1 t3 a.w3 x k2,xv t4 k3 0,t5+zX t4 k3 0]
theorem aGJ (t0 t1 t2 t3 t4 t5:UInt64) (a:aa) (x:UInt64):aJL t0 t1 t2 t3 t4 t5 a x=l6 (v6 [t0,t1,t2,t3,t4,t5]+a.nat*x.toNat):=by
 have h4:=mF t4 (Dx t3 a.w3 x (Dx t2 a.w2 x (Dx t1 a.w1 x (Dx t0 a.w0 x 0)))) 0
 rw [show (0:UInt64).toNat=0 from rfl,Nat.add_zero] at h4
 have h5:(t4.toNat+18446744073709551616*t5.toNat)+0*x.toNat+(Dx t3 a.w3 x (Dx t2 a.w2 x (Dx t1 a.w1 x (Dx t0 a.w0 x 0)))).toNat=
  (xv t4 (Dx t3 a.w3 x (Dx t2 a.w2 x (Dx t1 a.w1 x (Dx t0 a.w0 x 0)))) 0).toNat+18446744073709551616*(t5.toNat+(zX t4 (Dx t3 a.w3 x (Dx t2 a.w2 x (Dx t1 a.w1 x (Dx t0 a.w0 x 0)))) 0).toNat):=by
  rw [Nat.zero_mul,Nat.mul_add]
  omega
 have h:=IE (ID t0 a.w0 x 0) (IE (ID t1 a.w1 x _) (IE (ID t2 a.w2 x _) (IE (ID t3 a.w3 x _) h5)))
 rw [show (0:UInt64).toNat=0 from rfl,Nat.add_zero,Nat.mul_zero,Nat.add_zero] at h
 exact (aJh (f:=t5+zX t4 (Dx t3 a.w3 x (Dx t2 a.w2 x (Dx t1 a.w1 x (Dx t0 a.w0 x 0)))) 0) h (by rw [UInt64.toNat_add])).symm
end Go.Proofs.YtohjofabochgfaaGreat

namespace Go.Proofs.YtohjofabochgfaaGreat
open Sx Go
set_option maxRecDepth 100000
def tV:aw:=⟨[.val true (.arr 6 .u64),.val true .elem,.val false .u64],[],true,0,false⟩
abbrev an4:Type:=((List (UInt64))×(aa)×(UInt64)×Unit)×(Unit)
def L5:Shape:=⟨61,[(2,.val false .u64),(3,.ptr 0 0 0),(4,.ptr 1 0 0),(6,.ptr 2 0 0),(7,.val false .u64),(13,.val false .int)],[(0,.row .u64),(1,.row .u64),(2,.row .u64)],0,true⟩
abbrev dO:Type:=((UInt64)×(Unit)×(Unit)×(Unit)×(UInt64)×(Int)×Unit)×((List (UInt64))×(List (UInt64))×(List (UInt64))×Unit)
def BT:Shape:=⟨61,[(3,.ptr 0 0 0),(6,.ptr 1 0 0),(7,.val false .u64)],[(0,.row .u64),(1,.row .u64)],0,true⟩
abbrev pv:Type:=((Unit)×(Unit)×(UInt64)×Unit)×((List (UInt64))×(List (UInt64))×Unit)
def auM:SE->Option Shape:=fC [(0,BT)] none
def aF3 (a2:UInt64) (a7:UInt64) (a13:Int) (c0:List (UInt64)) (c1:List (UInt64)) (c2:List (UInt64)):OT (Sum dO aE):=
 let z0:Bool:=inB a13 6
 let z1:Bool:=decide (Int.toNat a13+0<List.length c0)
 let z2:UInt64:=List.getD c1 (Int.toNat a13+0) (0:UInt64)
 let z3:UInt64:=List.getD c0 (Int.toNat a13+0) (0:UInt64)
 let z4:UInt64:=xv (z2*a2) a7 (0:UInt64)
 (.br (decide (a13<(4:Int)))
 (gd [inB a13 4,decide (Int.toNat a13+0<List.length c1),z0,z1,z0,z1,inR (a13+(1:Int))] (.ok (.inl ((a2,((),((),((),(awy z2 a2+zX (z2*a2) a7 (0:UInt64)+zX z3 z4 (0:UInt64),(a13+(1:Int),())))))),(List.set c0 (Int.toNat a13+0) (xv z3 z4 (0:UInt64)),(c1,(c2,())))))))
 (.ok (.inr ⟨(.exit 0,BT),(((),((),(a7,()))),(c0,(c2,())))⟩)))
def L6 (s:dO):OT (Sum dO aE):=aF3 (s.1.1) (s.1.2.2.2.2.1) (s.1.2.2.2.2.2.1) (s.2.1) (s.2.2.1) (s.2.2.2.1)
theorem aF0 (s:dO) (Q:Sum dO aE->Prop):wps te RU av 1000 (aU (aj Tryz.f150) 0) (L5.inj s) (bY L5 auM (Q:Sum L5.T aE->Prop))=(L6 s).wpR Q:=by kernel_rfl
def UJ (g0_0:dO->pv) (s:dO):OT aE:=(.ok ⟨(.exit 0,BT),g0_0 s⟩)
def aes:az:=⟨[.val true (.arr 6 .u64)],[],false⟩
def aj1:SV->Option az:=λ_=>some aes
def auP (ok0:dO->Bool) (g0_0:dO->pv) (a0:List (UInt64)) (a1:aa) (a2:UInt64):OT tV.Y:=
 let z0:(UInt64×PUnit×PUnit×PUnit×UInt64×Int×PUnit)×List UInt64×List UInt64×List UInt64×PUnit:=((a2,(),(),(),(0:UInt64),(0:Int),()),tab a0 6 (0:UInt64),[a1.w0,a1.w1,a1.w2,a1.w3],[(0:UInt64),(0:UInt64),(0:UInt64),(0:UInt64),(0:UInt64),(0:UInt64)],())
 let z1:(PUnit×PUnit×UInt64×PUnit)×List UInt64×List UInt64×PUnit:=g0_0 z0
 let z2:=z1.snd
 let z3:=z2.fst
 let z4:Bool:=decide (4<List.length z3)
 let z5:UInt64:=List.getD z3 4 0
 let z6:=z1.fst.snd.snd.fst
 let z7:List UInt64:=List.set z3 4 (xv z5 z6 (0:UInt64))
 let z8:Bool:=decide (5<List.length z7)
 let z9:List UInt64:=List.set z7 5 (List.getD z7 5 0+zX z5 z6 (0:UInt64))
 let z10:=z2.snd.fst
 let z11:List UInt64:=lay z10 z9 6 (0:UInt64)
 (gd [ok0 z0,z4,z4,z8,z8,decide (6<=List.length z9),decide ((6/1:Nat)+0<=List.length z10),decide (6<=List.length z11)] (.ok ⟨aes,((tab z11 6 (0:UInt64),()),())⟩))
theorem aIp (ok0:dO->Bool) (g0_0:dO->pv) (x:an4) (Q:tV.Y->Prop):wpf te RU (aO 0 (cl L5 0 ok0 (UJ g0_0)) av) 1000 Tryz.f150 (tV.inp.inj x).tm (tV.inp.inj x).hp (fnK tV aj1 Q) (λ_ _=>False)=(auP ok0 g0_0 (x.1.1) (x.1.2.1) (x.1.2.2.1)).wpR Q:=by kernel_rfl
theorem auN (ok0:dO->Bool) (g0_0:dO->pv) (h0:∀ s:dO,ok0 s=true->∃ m e,al (L6) m s=some e/\(UJ g0_0 s).run=some e) (pre:an4->Bool) (F:an4->OT tV.Y) (hF:∀ (x:an4) oy,pre x=true->(F x).run=some oy->(auP ok0 g0_0 (x.1.1) (x.1.2.1) (x.1.2.2.1)).run=some oy):ac Tryz.prog 150 (tV.aI pre F):=
 aD ar C3 RT (f:=150) (fn:=Tryz.f150) (c:=aj Tryz.f150) (by kernel_rfl) (by kernel_rfl) (by kernel_rfl) (S:=tV) (k:=0) (by kernel_rfl) (λR hR=>(aB (c:=(aj Tryz.f150)) (by kernel_rfl) (id:=0) (by kernel_rfl) (aR ar C3 RT (sh:=L5) hR (xs:=auM) (aC (by kernel_rfl) (by kernel_rfl) hR) aL af (n:=1000) (T:=L6) (λs Q=>aF0 s Q) (ok:=ok0) (f:=UJ g0_0) h0) af)) (n:=1000) (sel:=aj1) (λv o h=>by cases h;rfl) (pre:=pre) (F:=F) (T:=λx=>auP ok0 g0_0 (x.1.1) (x.1.2.1) (x.1.2.2.1)) (λx Q=>aIp ok0 g0_0 x Q) hF
def aBr (a:List UInt64) (x:UInt64) (k:Nat) (s:List UInt64×UInt64):List UInt64×UInt64:=(s.1.set k (aG1 (s.1.getD k 0) (a.getD k 0) x s.2),Dx (s.1.getD k 0) (a.getD k 0) x s.2)
def aj3 (s:dO):Bool:=decide (s.1.2.2.2.2.1=0/\s.1.2.2.2.2.2.1=0/\s.2.1.length=6/\s.2.2.1.length=4)
def auO (s:dO):pv:=(((),(),(upto (aBr s.2.2.1 s.1.1) (s.2.1,0) 4).2,()),((upto (aBr s.2.2.1 s.1.1) (s.2.1,0) 4).1,s.2.2.2.1,()))
theorem aF2:∀ s:dO,aj3 s=true->∃ m e,al L6 m s=some e/\(UJ auO s).run=some e:=by
 rintro ⟨⟨x,⟨⟩,⟨⟩,⟨⟩,c,i,⟨⟩⟩,⟨t,a,o,⟨⟩⟩⟩ h
 have h':=of_decide_eq_true h
 dsimp only at h'
 obtain ⟨rfl,rfl,ht,ha⟩:=h'
 have:=(aP (T:=L6) (λk s=>(((x,(),(),(),s.2,(k:Int),()),(s.1,a,o,())):dO)) (aBr a x)
  (λs=>(⟨(.exit 0,BT),(((),(),s.2,()),(s.1,o,()))⟩:aE)) 4 (t,0) (λ_ s=>s.1.length=6) ht (λk s hk hs=>⟨?_,?_⟩) (λs hs=> ?_)).1
 ·obtain ⟨m,hm⟩:=this
  exact ⟨m,_,hm,rfl⟩
 ·refine (OT.ao (decide_eq_true (by dsimp only;omega))).trans ((ah ?_).trans ?_)
  ·simp only [Int.toNat_natCast,Nat.add_zero,hs,ha,List.all_cons,List.all_nil,Bool.and_true,Bool.and_eq_true]
   exact ⟨aN (by omega),decide_eq_true (by omega),aN (by omega),decide_eq_true (by omega),aN (by omega),decide_eq_true (by omega),aH (by omega)⟩
  ·simp only [OT.cP,Int.toNat_natCast,Nat.add_zero]
   rfl
 ·simp only [aBr,List.length_set]
  exact hs
 ·exact OT.aq (decide_eq_false (by dsimp only;omega))
def aj2 (_:an4):Bool:=true
def auQ (x:an4):OT tV.Y:=.ok ⟨aes,((l6 (v6 x.1.1+x.1.2.1.nat*x.1.2.2.1.toNat),()),())⟩
theorem aF1:ac Tryz.prog 150 (tV.aI aj2 auQ):=auN aj3 auO aF2 _ _ λx oy hp ho=>by
 rw [<-ho]
 clear ho
 obtain ⟨⟨t,a,x,⟨⟩⟩,⟨⟩⟩:=x
 refine (ah ?_).trans ?_
 ·simp only [List.all_cons,List.all_nil,Bool.and_true,Bool.and_eq_true]
  exact ⟨rfl,rfl,rfl,rfl,rfl,rfl,rfl,rfl⟩
 ·have e:=aGJ (t.getD 0 0) (t.getD 1 0) (t.getD 2 0) (t.getD 3 0) (t.getD 4 0) (t.getD 5 0) a x
  have e2:l6 (v6 t+a.nat*x.toNat)=aJL (t.getD 0 0) (t.getD 1 0) (t.getD 2 0) (t.getD 3 0) (t.getD 4 0) (t.getD 5 0) a x:=e.symm
  simp only [auQ,e2]
  rfl
def L4:cn:=(tV.aI aj2 auQ)
theorem an3:ac Tryz.prog 150 L4:=aF1
theorem an2:aG L4:=aA
def RX:Env:=ay 150 L4 RU
theorem C5:aQ Tryz.prog RX:=ag an3 C3
theorem NS:ax RX:=ae an2 Nw
theorem RW:aW Tryz.prog te RX:=aJ follows ar C5 NS
end Go.Proofs.YtohjofabochgfaaGreat

namespace Go.Proofs.YtohjofabochgfaaGreat
open Sx Go
theorem aG7 {n:Nat} (h:n/18446744073709551616/18446744073709551616/18446744073709551616/18446744073709551616/18446744073709551616<18446744073709551616):v6 (l6 n)=n:=by
 unfold v6 l6
 simp only [List.getD_cons_zero,List.getD_cons_succ,UInt64.toNat_ofNat']
 rw [show (2:Nat)^64=18446744073709551616 from rfl]
 omega
def Jd (p neg a:Nat) (b t:Nat):Nat:=(t+a*b+p*((t+a*b)*neg%18446744073709551616))/18446744073709551616
theorem va {p neg a b t:Nat} (hn:(p*neg+1)%18446744073709551616=0):18446744073709551616*Jd p neg a b t=t+a*b+p*((t+a*b)*neg%18446744073709551616):=by
 unfold Jd
 refine Nat.mul_div_cancel' (Nat.dvd_of_mod_eq_zero ?_)
 generalize t+a*b=u
 rw [Nat.add_mod,Nat.mul_mod,Nat.mod_mod,<-Nat.mul_mod,<-Nat.add_mod]
 have:u+p*(u*neg)=u*(p*neg+1):=by
  rw [Nat.mul_add,Nat.mul_one,Nat.mul_left_comm]
  omega
 rw [this,Nat.mul_mod,hn,Nat.mul_zero,Nat.zero_mod]
theorem u9 {p neg a b t:Nat} (hn:(p*neg+1)%18446744073709551616=0) (ht:t<2*p) (ha:a<p) (hb:b<18446744073709551616):Jd p neg a b t<2*p:=by
 have h:=va (a:=a) (b:=b) (t:=t) hn
 have hm:(t+a*b)*neg%18446744073709551616<=18446744073709551615:=by
  have:=Nat.mod_lt ((t+a*b)*neg) (show 0<18446744073709551616 by omega)
  omega
 have h1:p*((t+a*b)*neg%18446744073709551616)<=p*18446744073709551615:=Nat.mul_le_mul_left _ hm
 have h2:a*b<=p*18446744073709551615:=Nat.mul_le_mul (by omega) (by omega)
 omega
theorem aEv {p a b t t1 m K T B M W:Nat} (h1:W*t1=t+a*b+p*m) (h2:K*T=t1+a*B+p*M):(W*K)*T=t+a*(b+W*B)+p*(m+W*M):=by
 have e:(W*K)*T=W*t1+W*(a*B)+W*(p*M):=by rw [Nat.mul_assoc,h2,Nat.mul_add,Nat.mul_add]
 rw [e,h1,Nat.mul_add,Nat.mul_add,Nat.mul_left_comm a W,Nat.mul_left_comm p W]
 omega
theorem aJM {p a b T K M r:Nat} (h:K*T=a*b+p*M) (hr:K*r%p=1%p):T%p=a*b*r%p:=by
 have h1:(K*T)*r=a*b*r+p*(M*r):=by rw [h,Nat.add_mul,Nat.mul_assoc p]
 have h2:a*b*r%p=(K*T*r)%p:=by rw [h1,Nat.add_mul_mod_self_left]
 have h3:K*T*r=T*(K*r):=by rw [Nat.mul_comm K T,Nat.mul_assoc]
 rw [h2,h3,Nat.mul_mod,hr,<-Nat.mul_mod,Nat.mul_one]
def aHY (p neg a:Nat) (b:aa):Nat:=Jd p neg a b.w3.toNat (Jd p neg a b.w2.toNat (Jd p neg a b.w1.toNat (Jd p neg a b.w0.toNat 0)))
theorem az4 {p neg a r:Nat} {b:aa} (hn:(p*neg+1)%18446744073709551616=0) (hr:115792089237316195423570985008687907853269984665640564039457584007913129639936*r%p=1%p):aHY p neg a b%p=a*b.nat*r%p:=by
 have h:=aEv (va (a:=a) (b:=b.w0.toNat) (t:=0) hn) (aEv (va (a:=a) (b:=b.w1.toNat) hn) (aEv (va (a:=a) (b:=b.w2.toNat) hn) (show 18446744073709551616*_=_+a*b.w3.toNat+p*_ from va hn)))
 rw [Nat.zero_add] at h
 exact aJM (K:=18446744073709551616*(18446744073709551616*(18446744073709551616*18446744073709551616))) h hr
theorem aFo {p neg a:Nat} {b:aa} (hn:(p*neg+1)%18446744073709551616=0) (ha:a<p):aHY p neg a b<2*p:=
 u9 hn (u9 hn (u9 hn (u9 hn (by omega) ha b.w0.toNat_lt) ha b.w1.toNat_lt) ha b.w2.toNat_lt) ha b.w3.toNat_lt
theorem aFp {T p:Nat} (h:T<2*p):T%p=if T<p then T else T-p:=by
 split
 ·exact Nat.mod_eq_of_lt ‹_›
 ·rw [Nat.mod_eq_sub_mod (by omega),Nat.mod_eq_of_lt (by omega)]
end Go.Proofs.YtohjofabochgfaaGreat
