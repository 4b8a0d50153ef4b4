/- A symbolic machine for Go code over plain data, and functions of the program as it shows them. No statement is proved in this file. -/
import Derived.Test.YtohjofabochgfaaGreatProg
import Derived.KernelRfl
import Derived.Laws.Externs
import Derived.Lib.Mul64
import Derived.Test.YtohjofabochgfaaGreatXb
set_option linter.unusedSimpArgs false
set_option linter.unusedVariables false
set_option linter.unusedSectionVars false

namespace Go.Proofs.YtohjofabochgfaaGreat
open Sx Go
set_option maxRecDepth 100000
def aBB:TI:=⟨1,8,.other,[.bT],none⟩
theorem aHm:bl Tryz.prog 1 aBB:=by apply ak<;>first|exact trivial|kernel_rfl
def aBA:TI:=⟨1,8,.int .i64,[.int 0],some .int⟩
theorem aHl:bl Tryz.prog 2 aBA:=by apply ak<;>first|exact⟨by kernel_rfl,by kernel_rfl,by kernel_rfl⟩|kernel_rfl
def aBz:TI:=⟨1,8,.int .i64,[.int 0],some .int⟩
theorem aHk:bl Tryz.prog 3 aBz:=by apply ak<;>first|exact⟨by kernel_rfl,by kernel_rfl,by kernel_rfl⟩|kernel_rfl
def aBy:TI:=⟨1,1,.bool,[.bool false],some .bool⟩
theorem aHj:bl Tryz.prog 4 aBy:=by apply ak<;>first|exact⟨by kernel_rfl,by kernel_rfl,by kernel_rfl⟩|kernel_rfl
def afU:TI:=⟨1,1,.int .u8,[.u8 0],some .u8⟩
theorem aHi:bl Tryz.prog 5 afU:=by apply ak<;>first|exact⟨by kernel_rfl,by kernel_rfl,by kernel_rfl⟩|kernel_rfl
def aBx:TI:=⟨1,1,.int .u8,[.u8 0],some .u8⟩
theorem aHh:bl Tryz.prog 6 aBx:=by apply ak<;>first|exact⟨by kernel_rfl,by kernel_rfl,by kernel_rfl⟩|kernel_rfl
def aBw:TI:=⟨4,24,.struct [(0,2),(1,3),(2,4),(3,6)],[.int 0,.int 0,.bool false,.u8 0],some (.prod .int (.prod .int (.prod .bool .u8)))⟩
theorem aHg:bl Tryz.prog 7 aBw:=by apply ak<;>first|exact⟨by kernel_rfl,by kernel_rfl,by kernel_rfl⟩|kernel_rfl
def aBv:TI:=⟨4,24,.struct [(0,2),(1,3),(2,4),(3,6)],[.int 0,.int 0,.bool false,.u8 0],some (.prod .int (.prod .int (.prod .bool .u8)))⟩
theorem aHf:bl Tryz.prog 8 aBv:=by apply ak<;>first|exact⟨by kernel_rfl,by kernel_rfl,by kernel_rfl⟩|kernel_rfl
def aBu:TI:=⟨1,16,.str,[.str []],some .str⟩
theorem aHe:bl Tryz.prog 9 aBu:=by apply ak<;>first|exact⟨by kernel_rfl,by kernel_rfl,by kernel_rfl⟩|kernel_rfl
def aqI:TI:=⟨1,16,.str,[.str []],some .str⟩
theorem aD0:bl Tryz.prog 10 aqI:=by apply ak<;>first|exact⟨by kernel_rfl,by kernel_rfl,by kernel_rfl⟩|kernel_rfl
def aqH:TI:=⟨1,16,.str,[.str []],some .str⟩
theorem aDZ:bl Tryz.prog 11 aqH:=by apply ak<;>first|exact⟨by kernel_rfl,by kernel_rfl,by kernel_rfl⟩|kernel_rfl
def aqG:TI:=⟨1,8,.int .u64,[.u64 0],some .u64⟩
theorem aDY:bl Tryz.prog 12 aqG:=by apply ak<;>first|exact⟨by kernel_rfl,by kernel_rfl,by kernel_rfl⟩|kernel_rfl
def aqF:TI:=⟨1,8,.ptr [("Error",183),("RuntimeError",184)],[.qK],none⟩
theorem aDX:bl Tryz.prog 15 aqF:=by apply ak<;>first|exact trivial|kernel_rfl
def aqE:TI:=⟨1,8,.ptr [("Error",185),("RuntimeError",186)],[.qK],none⟩
theorem aDW:bl Tryz.prog 16 aqE:=by apply ak<;>first|exact trivial|kernel_rfl
def aqD:TI:=⟨1,8,.ptr [("Align",187)],[.qK],none⟩
theorem aDV:bl Tryz.prog 17 aqD:=by apply ak<;>first|exact trivial|kernel_rfl
def aqC:TI:=⟨1,16,.iface,[.eh],none⟩
theorem aDU:bl Tryz.prog 20 aqC:=by apply ak<;>first|exact trivial|kernel_rfl
def aqB:TI:=⟨1,4,.int .i32,[.bT],none⟩
theorem aDT:bl Tryz.prog 21 aqB:=by apply ak<;>first|exact trivial|kernel_rfl
def aqA:TI:=⟨1,24,.slice 41,[.emp],some (.list .elem)⟩
theorem aDS:bl Tryz.prog 22 aqA:=by apply ak<;>first|exact⟨by kernel_rfl,by kernel_rfl,by kernel_rfl⟩|kernel_rfl
def aqz:TI:=⟨2,32,.struct [(0,3),(1,22)],[.int 0,.emp],some (.prod .int (.list .elem))⟩
theorem aDR:bl Tryz.prog 23 aqz:=by apply ak<;>first|exact⟨by kernel_rfl,by kernel_rfl,by kernel_rfl⟩|kernel_rfl
def aqy:TI:=⟨2,32,.struct [(0,3),(1,22)],[.int 0,.emp],some (.prod .int (.list .elem))⟩
theorem aDQ:bl Tryz.prog 24 aqy:=by apply ak<;>first|exact⟨by kernel_rfl,by kernel_rfl,by kernel_rfl⟩|kernel_rfl
def abi:TI:=⟨1,24,.slice 5,[.emp],some (.list .u8)⟩
theorem aDP:bl Tryz.prog 25 abi:=by apply ak<;>first|exact⟨by kernel_rfl,by kernel_rfl,by kernel_rfl⟩|kernel_rfl
def aqx:TI:=⟨1,24,.slice 45,[.emp],some (.list (.prod .int (.prod .elem (.prod .elem (.prod .elem .bool)))))⟩
theorem aDO:bl Tryz.prog 26 aqx:=by apply ak<;>first|exact⟨by kernel_rfl,by kernel_rfl,by kernel_rfl⟩|kernel_rfl
def aqw:TI:=⟨1,8,.other,[.bT],none⟩
theorem aDN:bl Tryz.prog 27 aqw:=by apply ak<;>first|exact trivial|kernel_rfl
def aqv:TI:=⟨1,8,.other,[.bT],none⟩
theorem aDM:bl Tryz.prog 28 aqv:=by apply ak<;>first|exact trivial|kernel_rfl
def aqu:TI:=⟨1,8,.ptr [("Point",20),("Rest",25),("Scalar",22)],[.qK],none⟩
theorem aDL:bl Tryz.prog 29 aqu:=by apply ak<;>first|exact trivial|kernel_rfl
def aqt:TI:=⟨1,8,.int .i64,[.int 0],some .int⟩
theorem aDK:bl Tryz.prog 30 aqt:=by apply ak<;>first|exact⟨by kernel_rfl,by kernel_rfl,by kernel_rfl⟩|kernel_rfl
def aqs:TI:=⟨1,8,.other,[.bT],none⟩
theorem aDJ:bl Tryz.prog 32 aqs:=by apply ak<;>first|exact trivial|kernel_rfl
def aqr:TI:=⟨1,8,.other,[.bT],none⟩
theorem aDI:bl Tryz.prog 33 aqr:=by apply ak<;>first|exact trivial|kernel_rfl
def aqq:TI:=⟨6,96,.struct [(0,3),(1,24),(3,25),(4,3),(5,25)],[.int 0,.int 0,.emp,.emp,.int 0,.emp],some (.prod .int (.prod (.prod .int (.list .elem)) (.prod (.list .u8) (.prod .int (.list .u8)))))⟩
theorem aDH:bl Tryz.prog 34 aqq:=by apply ak<;>first|exact⟨by kernel_rfl,by kernel_rfl,by kernel_rfl⟩|kernel_rfl
def aqp:TI:=⟨6,96,.struct [(0,3),(1,24),(3,25),(4,3),(5,25)],[.int 0,.int 0,.emp,.emp,.int 0,.emp],some (.prod .int (.prod (.prod .int (.list .elem)) (.prod (.list .u8) (.prod .int (.list .u8)))))⟩
theorem aDG:bl Tryz.prog 35 aqp:=by apply ak<;>first|exact⟨by kernel_rfl,by kernel_rfl,by kernel_rfl⟩|kernel_rfl
def aqo:TI:=⟨1,8,.other,[.bT],none⟩
theorem aDF:bl Tryz.prog 37 aqo:=by apply ak<;>first|exact trivial|kernel_rfl
def aqn:TI:=⟨1,8,.other,[.bT],none⟩
theorem aDE:bl Tryz.prog 38 aqn:=by apply ak<;>first|exact trivial|kernel_rfl
def aqm:TI:=⟨1,8,.int .u64,[.u64 0],some .u64⟩
theorem aDD:bl Tryz.prog 39 aqm:=by apply ak<;>first|exact⟨by kernel_rfl,by kernel_rfl,by kernel_rfl⟩|kernel_rfl
def aql:TI:=⟨4,32,.array 4 39,[.u64 0,.u64 0,.u64 0,.u64 0],some .elem⟩
theorem aDC:bl Tryz.prog 40 aql:=by apply ak<;>first|exact⟨by kernel_rfl,by kernel_rfl,by kernel_rfl⟩|kernel_rfl
def aqk:TI:=⟨4,32,.array 4 39,[.u64 0,.u64 0,.u64 0,.u64 0],some .elem⟩
theorem aDB:bl Tryz.prog 41 aqk:=by apply ak<;>first|exact⟨by kernel_rfl,by kernel_rfl,by kernel_rfl⟩|kernel_rfl
def aqj:TI:=⟨9,72,.struct [(0,41),(4,41),(8,4)],[.u64 0,.u64 0,.u64 0,.u64 0,.u64 0,.u64 0,.u64 0,.u64 0,.bool false],some (.prod .elem (.prod .elem .bool))⟩
theorem aDA:bl Tryz.prog 42 aqj:=by apply ak<;>first|exact⟨by kernel_rfl,by kernel_rfl,by kernel_rfl⟩|kernel_rfl
def aqi:TI:=⟨9,72,.struct [(0,41),(4,41),(8,4)],[.u64 0,.u64 0,.u64 0,.u64 0,.u64 0,.u64 0,.u64 0,.u64 0,.bool false],some (.prod .elem (.prod .elem .bool))⟩
theorem aDz:bl Tryz.prog 43 aqi:=by apply ak<;>first|exact⟨by kernel_rfl,by kernel_rfl,by kernel_rfl⟩|kernel_rfl
def aqh:TI:=⟨14,112,.struct [(0,3),(1,41),(5,43)],[.int 0,.u64 0,.u64 0,.u64 0,.u64 0,.u64 0,.u64 0,.u64 0,.u64 0,.u64 0,.u64 0,.u64 0,.u64 0,.bool false],some (.prod .int (.prod .elem (.prod .elem (.prod .elem .bool))))⟩
theorem aDy:bl Tryz.prog 44 aqh:=by apply ak<;>first|exact⟨by kernel_rfl,by kernel_rfl,by kernel_rfl⟩|kernel_rfl
def aqg:TI:=⟨14,112,.struct [(0,3),(1,41),(5,43)],[.int 0,.u64 0,.u64 0,.u64 0,.u64 0,.u64 0,.u64 0,.u64 0,.u64 0,.u64 0,.u64 0,.u64 0,.u64 0,.bool false],some (.prod .int (.prod .elem (.prod .elem (.prod .elem .bool))))⟩
theorem aDx:bl Tryz.prog 45 aqg:=by apply ak<;>first|exact⟨by kernel_rfl,by kernel_rfl,by kernel_rfl⟩|kernel_rfl
def aqf:TI:=⟨1,8,.other,[.bT],none⟩
theorem aDw:bl Tryz.prog 46 aqf:=by apply ak<;>first|exact trivial|kernel_rfl
def aqe:TI:=⟨1,16,.iface,[.eh],none⟩
theorem aDv:bl Tryz.prog 47 aqe:=by apply ak<;>first|exact trivial|kernel_rfl
def aqd:TI:=⟨1,16,.iface,[.eh],none⟩
theorem aDu:bl Tryz.prog 48 aqd:=by apply ak<;>first|exact trivial|kernel_rfl
def aqc:TI:=⟨2,24,.struct [(0,3),(1,48)],[.int 0,.eh],none⟩
theorem aDt:bl Tryz.prog 49 aqc:=by apply ak<;>first|exact trivial|kernel_rfl
def aqb:TI:=⟨2,24,.struct [(0,3),(1,48)],[.int 0,.eh],none⟩
theorem aDs:bl Tryz.prog 50 aqb:=by apply ak<;>first|exact trivial|kernel_rfl
def aqa:TI:=⟨3,48,.struct [(0,50),(2,25)],[.int 0,.eh,.emp],none⟩
theorem aDr:bl Tryz.prog 51 aqa:=by apply ak<;>first|exact trivial|kernel_rfl
def ap9:TI:=⟨3,48,.struct [(0,50),(2,25)],[.int 0,.eh,.emp],none⟩
theorem aDq:bl Tryz.prog 52 ap9:=by apply ak<;>first|exact trivial|kernel_rfl
def ap8:TI:=⟨1,8,.other,[.bT],none⟩
theorem aDp:bl Tryz.prog 53 ap8:=by apply ak<;>first|exact trivial|kernel_rfl
def ap7:TI:=⟨1,8,.other,[.bT],none⟩
theorem aDo:bl Tryz.prog 55 ap7:=by apply ak<;>first|exact trivial|kernel_rfl
def ap6:TI:=⟨1,8,.other,[.bT],none⟩
theorem aDn:bl Tryz.prog 57 ap6:=by apply ak<;>first|exact trivial|kernel_rfl
def ap5:TI:=⟨1,8,.other,[.bT],none⟩
theorem aDm:bl Tryz.prog 59 ap5:=by apply ak<;>first|exact trivial|kernel_rfl
def ap4:TI:=⟨1,8,.other,[.bT],none⟩
theorem aDl:bl Tryz.prog 61 ap4:=by apply ak<;>first|exact trivial|kernel_rfl
def ap3:TI:=⟨1,8,.other,[.bT],none⟩
theorem aDk:bl Tryz.prog 62 ap3:=by apply ak<;>first|exact trivial|kernel_rfl
def ap2:TI:=⟨1,8,.other,[.bT],none⟩
theorem aDj:bl Tryz.prog 63 ap2:=by apply ak<;>first|exact trivial|kernel_rfl
def ap1:TI:=⟨1,8,.other,[.bT],none⟩
theorem aDi:bl Tryz.prog 64 ap1:=by apply ak<;>first|exact trivial|kernel_rfl
def ap0:TI:=⟨1,8,.other,[.bT],none⟩
theorem aDh:bl Tryz.prog 65 ap0:=by apply ak<;>first|exact trivial|kernel_rfl
def apZ:TI:=⟨1,8,.other,[.bT],none⟩
theorem aDg:bl Tryz.prog 66 apZ:=by apply ak<;>first|exact trivial|kernel_rfl
def apY:TI:=⟨1,24,.slice 43,[.emp],some (.list (.prod .elem (.prod .elem .bool)))⟩
theorem aDf:bl Tryz.prog 67 apY:=by apply ak<;>first|exact⟨by kernel_rfl,by kernel_rfl,by kernel_rfl⟩|kernel_rfl
def apX:TI:=⟨21,184,.struct [(0,3),(1,3),(2,67),(3,43),(12,43)],[.int 0,.int 0,.emp,.u64 0,.u64 0,.u64 0,.u64 0,.u64 0,.u64 0,.u64 0,.u64 0,.bool false,.u64 0,.u64 0,.u64 0,.u64 0,.u64 0,.u64 0,.u64 0,.u64 0,.bool false],some (.prod .int (.prod .int (.prod (.list (.prod .elem (.prod .elem .bool))) (.prod (.prod .elem (.prod .elem .bool)) (.prod .elem (.prod .elem .bool))))))⟩
theorem aDe:bl Tryz.prog 68 apX:=by apply ak<;>first|exact⟨by kernel_rfl,by kernel_rfl,by kernel_rfl⟩|kernel_rfl
def apW:TI:=⟨21,184,.struct [(0,3),(1,3),(2,67),(3,43),(12,43)],[.int 0,.int 0,.emp,.u64 0,.u64 0,.u64 0,.u64 0,.u64 0,.u64 0,.u64 0,.u64 0,.bool false,.u64 0,.u64 0,.u64 0,.u64 0,.u64 0,.u64 0,.u64 0,.u64 0,.bool false],some (.prod .int (.prod .int (.prod (.list (.prod .elem (.prod .elem .bool))) (.prod (.prod .elem (.prod .elem .bool)) (.prod .elem (.prod .elem .bool))))))⟩
theorem aDd:bl Tryz.prog 69 apW:=by apply ak<;>first|exact⟨by kernel_rfl,by kernel_rfl,by kernel_rfl⟩|kernel_rfl
def apV:TI:=⟨1,8,.other,[.bT],none⟩
theorem aDc:bl Tryz.prog 71 apV:=by apply ak<;>first|exact trivial|kernel_rfl
def apU:TI:=⟨1,8,.other,[.bT],none⟩
theorem aDb:bl Tryz.prog 72 apU:=by apply ak<;>first|exact trivial|kernel_rfl
def apT:TI:=⟨1,8,.other,[.bT],none⟩
theorem aDa:bl Tryz.prog 73 apT:=by apply ak<;>first|exact trivial|kernel_rfl
def apR:TI:=⟨1,8,.other,[.bT],none⟩
theorem aC9:bl Tryz.prog 74 apR:=by apply ak<;>first|exact trivial|kernel_rfl
def apQ:TI:=⟨1,8,.other,[.bT],none⟩
theorem aC8:bl Tryz.prog 75 apQ:=by apply ak<;>first|exact trivial|kernel_rfl
def apP:TI:=⟨1,8,.other,[.bT],none⟩
theorem aC7:bl Tryz.prog 76 apP:=by apply ak<;>first|exact trivial|kernel_rfl
def apO:TI:=⟨1,8,.other,[.bT],none⟩
theorem aC6:bl Tryz.prog 77 apO:=by apply ak<;>first|exact trivial|kernel_rfl
def apN:TI:=⟨1,8,.other,[.bT],none⟩
theorem aC5:bl Tryz.prog 78 apN:=by apply ak<;>first|exact trivial|kernel_rfl
def apM:TI:=⟨1,8,.other,[.bT],none⟩
theorem aC4:bl Tryz.prog 79 apM:=by apply ak<;>first|exact trivial|kernel_rfl
def apL:TI:=⟨1,8,.other,[.bT],none⟩
theorem aC3:bl Tryz.prog 80 apL:=by apply ak<;>first|exact trivial|kernel_rfl
def apK:TI:=⟨1,8,.other,[.bT],none⟩
theorem aC2:bl Tryz.prog 81 apK:=by apply ak<;>first|exact trivial|kernel_rfl
def apJ:TI:=⟨1,8,.other,[.bT],none⟩
theorem aC1:bl Tryz.prog 82 apJ:=by apply ak<;>first|exact trivial|kernel_rfl
def apI:TI:=⟨1,8,.other,[.bT],none⟩
theorem aC0:bl Tryz.prog 83 apI:=by apply ak<;>first|exact trivial|kernel_rfl
def apH:TI:=⟨1,8,.other,[.bT],none⟩
theorem aCZ:bl Tryz.prog 84 apH:=by apply ak<;>first|exact trivial|kernel_rfl
def apG:TI:=⟨1,8,.other,[.bT],none⟩
theorem aCY:bl Tryz.prog 85 apG:=by apply ak<;>first|exact trivial|kernel_rfl
def apF:TI:=⟨1,8,.int .u64,[.u64 0],some .u64⟩
theorem aCX:bl Tryz.prog 86 apF:=by apply ak<;>first|exact⟨by kernel_rfl,by kernel_rfl,by kernel_rfl⟩|kernel_rfl
def apE:TI:=⟨1,8,.ptr [("Bytes",50),("Scalar",49),("sigil/tape.say",88)],[.qK],none⟩
theorem aCW:bl Tryz.prog 87 apE:=by apply ak<;>first|exact trivial|kernel_rfl
def apD:TI:=⟨1,8,.other,[.bT],none⟩
theorem aCV:bl Tryz.prog 89 apD:=by apply ak<;>first|exact trivial|kernel_rfl
def apC:TI:=⟨3,48,.struct [(0,50),(2,25)],[.int 0,.eh,.emp],none⟩
theorem aCU:bl Tryz.prog 90 apC:=by apply ak<;>first|exact trivial|kernel_rfl
def apB:TI:=⟨3,48,.struct [(0,50),(2,25)],[.int 0,.eh,.emp],none⟩
theorem aCT:bl Tryz.prog 91 apB:=by apply ak<;>first|exact trivial|kernel_rfl
def apA:TI:=⟨1,8,.other,[.bT],none⟩
theorem aCS:bl Tryz.prog 92 apA:=by apply ak<;>first|exact trivial|kernel_rfl
def apz:TI:=⟨1,8,.other,[.bT],none⟩
theorem aCR:bl Tryz.prog 94 apz:=by apply ak<;>first|exact trivial|kernel_rfl
def apy:TI:=⟨1,8,.ptr [("Challenge",24),("Curve",26),("Hear",17)],[.qK],none⟩
theorem aCQ:bl Tryz.prog 95 apy:=by apply ak<;>first|exact trivial|kernel_rfl
def apx:TI:=⟨1,8,.other,[.bT],none⟩
theorem aCP:bl Tryz.prog 96 apx:=by apply ak<;>first|exact trivial|kernel_rfl
def apw:TI:=⟨1,8,.other,[.bT],none⟩
theorem aCO:bl Tryz.prog 97 apw:=by apply ak<;>first|exact trivial|kernel_rfl
def apv:TI:=⟨1,8,.other,[.bT],none⟩
theorem aCN:bl Tryz.prog 98 apv:=by apply ak<;>first|exact trivial|kernel_rfl
def apu:TI:=⟨1,8,.other,[.bT],none⟩
theorem aCM:bl Tryz.prog 99 apu:=by apply ak<;>first|exact trivial|kernel_rfl
def ahN:TI:=⟨1,8,.other,[.bT],none⟩
theorem ayv:bl Tryz.prog 100 ahN:=by apply ak<;>first|exact trivial|kernel_rfl
def ahM:TI:=⟨1,8,.other,[.bT],none⟩
theorem ayu:bl Tryz.prog 101 ahM:=by apply ak<;>first|exact trivial|kernel_rfl
def ahL:TI:=⟨1,8,.other,[.bT],none⟩
theorem ayt:bl Tryz.prog 102 ahL:=by apply ak<;>first|exact trivial|kernel_rfl
def ahK:TI:=⟨1,8,.other,[.bT],none⟩
theorem ays:bl Tryz.prog 103 ahK:=by apply ak<;>first|exact trivial|kernel_rfl
def ahJ:TI:=⟨1,8,.other,[.bT],none⟩
theorem ayr:bl Tryz.prog 105 ahJ:=by apply ak<;>first|exact trivial|kernel_rfl
def ahI:TI:=⟨1,8,.other,[.bT],none⟩
theorem ayq:bl Tryz.prog 106 ahI:=by apply ak<;>first|exact trivial|kernel_rfl
def ahH:TI:=⟨1,8,.other,[.bT],none⟩
theorem ayp:bl Tryz.prog 107 ahH:=by apply ak<;>first|exact trivial|kernel_rfl
def ahG:TI:=⟨1,8,.other,[.bT],none⟩
theorem ayo:bl Tryz.prog 108 ahG:=by apply ak<;>first|exact trivial|kernel_rfl
def ahF:TI:=⟨1,8,.other,[.bT],none⟩
theorem ayn:bl Tryz.prog 109 ahF:=by apply ak<;>first|exact trivial|kernel_rfl
def ahE:TI:=⟨1,8,.other,[.bT],none⟩
theorem aym:bl Tryz.prog 110 ahE:=by apply ak<;>first|exact trivial|kernel_rfl
def ahD:TI:=⟨13,104,.struct [(0,41),(4,43)],[.u64 0,.u64 0,.u64 0,.u64 0,.u64 0,.u64 0,.u64 0,.u64 0,.u64 0,.u64 0,.u64 0,.u64 0,.bool false],some (.prod .elem (.prod .elem (.prod .elem .bool)))⟩
theorem ayl:bl Tryz.prog 111 ahD:=by apply ak<;>first|exact⟨by kernel_rfl,by kernel_rfl,by kernel_rfl⟩|kernel_rfl
def ahC:TI:=⟨13,104,.struct [(0,41),(4,43)],[.u64 0,.u64 0,.u64 0,.u64 0,.u64 0,.u64 0,.u64 0,.u64 0,.u64 0,.u64 0,.u64 0,.u64 0,.bool false],some (.prod .elem (.prod .elem (.prod .elem .bool)))⟩
theorem ayk:bl Tryz.prog 112 ahC:=by apply ak<;>first|exact⟨by kernel_rfl,by kernel_rfl,by kernel_rfl⟩|kernel_rfl
def ahB:TI:=⟨1,24,.slice 112,[.emp],some (.list (.prod .elem (.prod .elem (.prod .elem .bool))))⟩
theorem ayj:bl Tryz.prog 113 ahB:=by apply ak<;>first|exact⟨by kernel_rfl,by kernel_rfl,by kernel_rfl⟩|kernel_rfl
def ahA:TI:=⟨1,8,.other,[.bT],none⟩
theorem ayi:bl Tryz.prog 114 ahA:=by apply ak<;>first|exact trivial|kernel_rfl
def ahz:TI:=⟨1,8,.other,[.bT],none⟩
theorem ayh:bl Tryz.prog 115 ahz:=by apply ak<;>first|exact trivial|kernel_rfl
def ahy:TI:=⟨11,88,.struct [(0,41),(4,3),(5,39),(6,39),(7,41)],[.u64 0,.u64 0,.u64 0,.u64 0,.int 0,.u64 0,.u64 0,.u64 0,.u64 0,.u64 0,.u64 0],some (.prod .elem (.prod .int (.prod .u64 (.prod .u64 .elem))))⟩
theorem ayg:bl Tryz.prog 116 ahy:=by apply ak<;>first|exact⟨by kernel_rfl,by kernel_rfl,by kernel_rfl⟩|kernel_rfl
def ahx:TI:=⟨11,88,.struct [(0,41),(4,3),(5,39),(6,39),(7,41)],[.u64 0,.u64 0,.u64 0,.u64 0,.int 0,.u64 0,.u64 0,.u64 0,.u64 0,.u64 0,.u64 0],some (.prod .elem (.prod .int (.prod .u64 (.prod .u64 .elem))))⟩
theorem ayf:bl Tryz.prog 117 ahx:=by apply ak<;>first|exact⟨by kernel_rfl,by kernel_rfl,by kernel_rfl⟩|kernel_rfl
def ahw:TI:=⟨1,8,.other,[.bT],none⟩
theorem aye:bl Tryz.prog 119 ahw:=by apply ak<;>first|exact trivial|kernel_rfl
def ahv:TI:=⟨1,8,.other,[.bT],none⟩
theorem ayd:bl Tryz.prog 120 ahv:=by apply ak<;>first|exact trivial|kernel_rfl
def ahu:TI:=⟨1,8,.other,[.bT],none⟩
theorem ayc:bl Tryz.prog 121 ahu:=by apply ak<;>first|exact trivial|kernel_rfl
def aht:TI:=⟨1,8,.int .i64,[.int 0],some .int⟩
theorem ayb:bl Tryz.prog 122 aht:=by apply ak<;>first|exact⟨by kernel_rfl,by kernel_rfl,by kernel_rfl⟩|kernel_rfl
def ahs:TI:=⟨1,8,.other,[.bT],none⟩
theorem aya:bl Tryz.prog 123 ahs:=by apply ak<;>first|exact trivial|kernel_rfl
def ahr:TI:=⟨12,96,.struct [(0,41),(4,41),(8,41)],List.replicate 12 (.u64 0),some (.prod .elem (.prod .elem .elem))⟩
theorem ax9:bl Tryz.prog 124 ahr:=by apply ak<;>first|exact⟨by kernel_rfl,by kernel_rfl,by kernel_rfl⟩|kernel_rfl
def ahq:TI:=⟨12,96,.struct [(0,41),(4,41),(8,41)],List.replicate 12 (.u64 0),some (.prod .elem (.prod .elem .elem))⟩
theorem ax8:bl Tryz.prog 125 ahq:=by apply ak<;>first|exact⟨by kernel_rfl,by kernel_rfl,by kernel_rfl⟩|kernel_rfl
def ahp:TI:=⟨1,8,.other,[.bT],none⟩
theorem ax7:bl Tryz.prog 126 ahp:=by apply ak<;>first|exact trivial|kernel_rfl
def aho:TI:=⟨1,8,.other,[.bT],none⟩
theorem ax6:bl Tryz.prog 127 aho:=by apply ak<;>first|exact trivial|kernel_rfl
def ahn:TI:=⟨1,8,.other,[.bT],none⟩
theorem ax5:bl Tryz.prog 128 ahn:=by apply ak<;>first|exact trivial|kernel_rfl
def ahm:TI:=⟨1,8,.other,[.bT],none⟩
theorem ax4:bl Tryz.prog 129 ahm:=by apply ak<;>first|exact trivial|kernel_rfl
def ahl:TI:=⟨1,8,.other,[.bT],none⟩
theorem ax3:bl Tryz.prog 131 ahl:=by apply ak<;>first|exact trivial|kernel_rfl
def ahk:TI:=⟨1,8,.other,[.bT],none⟩
theorem ax2:bl Tryz.prog 132 ahk:=by apply ak<;>first|exact trivial|kernel_rfl
def ahj:TI:=⟨1,8,.ptr [("sigil/tape.next",191),("sigil/tape.take",192)],[.qK],none⟩
theorem ax1:bl Tryz.prog 133 ahj:=by apply ak<;>first|exact trivial|kernel_rfl
def ahi:TI:=⟨1,24,.struct [(0,22)],[.emp],some (.list .elem)⟩
theorem ax0:bl Tryz.prog 134 ahi:=by apply ak<;>first|exact⟨by kernel_rfl,by kernel_rfl,by kernel_rfl⟩|kernel_rfl
def ahh:TI:=⟨1,24,.struct [(0,22)],[.emp],some (.list .elem)⟩
theorem axZ:bl Tryz.prog 135 ahh:=by apply ak<;>first|exact⟨by kernel_rfl,by kernel_rfl,by kernel_rfl⟩|kernel_rfl
def ahg:TI:=⟨2,32,.struct [(0,3),(1,135)],[.int 0,.emp],some (.prod .int (.list .elem))⟩
theorem axY:bl Tryz.prog 136 ahg:=by apply ak<;>first|exact⟨by kernel_rfl,by kernel_rfl,by kernel_rfl⟩|kernel_rfl
def ahf:TI:=⟨2,32,.struct [(0,3),(1,135)],[.int 0,.emp],some (.prod .int (.list .elem))⟩
theorem axX:bl Tryz.prog 137 ahf:=by apply ak<;>first|exact⟨by kernel_rfl,by kernel_rfl,by kernel_rfl⟩|kernel_rfl
def ahe:TI:=⟨1,8,.ptr [("Sum",110),("Write",109)],[.qK],none⟩
theorem axW:bl Tryz.prog 138 ahe:=by apply ak<;>first|exact trivial|kernel_rfl
def ahd:TI:=⟨1,8,.other,[.bT],none⟩
theorem axV:bl Tryz.prog 140 ahd:=by apply ak<;>first|exact trivial|kernel_rfl
def ahc:TI:=⟨1,8,.ptr [("sigil/tape.next",194),("sigil/tape.take",195)],[.qK],none⟩
theorem axU:bl Tryz.prog 141 ahc:=by apply ak<;>first|exact trivial|kernel_rfl
def ahb:TI:=⟨2,16,.struct [(0,3),(1,138)],[.int 0,.qK],none⟩
theorem axT:bl Tryz.prog 142 ahb:=by apply ak<;>first|exact trivial|kernel_rfl
def aha:TI:=⟨2,16,.struct [(0,3),(1,138)],[.int 0,.qK],none⟩
theorem axS:bl Tryz.prog 143 aha:=by apply ak<;>first|exact trivial|kernel_rfl
def ag9:TI:=⟨1,8,.other,[.bT],none⟩
theorem axR:bl Tryz.prog 144 ag9:=by apply ak<;>first|exact trivial|kernel_rfl
def ag8:TI:=⟨1,8,.other,[.bT],none⟩
theorem axQ:bl Tryz.prog 145 ag8:=by apply ak<;>first|exact trivial|kernel_rfl
def ag7:TI:=⟨1,8,.other,[.bT],none⟩
theorem axP:bl Tryz.prog 146 ag7:=by apply ak<;>first|exact trivial|kernel_rfl
def ag6:TI:=⟨1,8,.other,[.bT],none⟩
theorem axO:bl Tryz.prog 147 ag6:=by apply ak<;>first|exact trivial|kernel_rfl
def ag5:TI:=⟨8,64,.array 8 39,[.u64 0,.u64 0,.u64 0,.u64 0,.u64 0,.u64 0,.u64 0,.u64 0],some (.arr 8 .u64)⟩
theorem axN:bl Tryz.prog 148 ag5:=by apply ak<;>first|exact⟨by kernel_rfl,by kernel_rfl,by kernel_rfl⟩|kernel_rfl
def ag4:TI:=⟨1,8,.other,[.bT],none⟩
theorem axM:bl Tryz.prog 149 ag4:=by apply ak<;>first|exact trivial|kernel_rfl
def ag3:TI:=⟨1,8,.other,[.bT],none⟩
theorem axL:bl Tryz.prog 150 ag3:=by apply ak<;>first|exact trivial|kernel_rfl
def ag2:TI:=⟨1,8,.other,[.bT],none⟩
theorem axK:bl Tryz.prog 151 ag2:=by apply ak<;>first|exact trivial|kernel_rfl
def ag1:TI:=⟨1,8,.other,[.bT],none⟩
theorem axJ:bl Tryz.prog 152 ag1:=by apply ak<;>first|exact trivial|kernel_rfl
def ag0:TI:=⟨1,8,.other,[.bT],none⟩
theorem axI:bl Tryz.prog 153 ag0:=by apply ak<;>first|exact trivial|kernel_rfl
def agZ:TI:=⟨1,8,.other,[.bT],none⟩
theorem axH:bl Tryz.prog 154 agZ:=by apply ak<;>first|exact trivial|kernel_rfl
def agY:TI:=⟨1,8,.other,[.bT],none⟩
theorem axG:bl Tryz.prog 155 agY:=by apply ak<;>first|exact trivial|kernel_rfl
def agX:TI:=⟨1,8,.ptr [("Add",115),("Scale",196),("Value",116)],[.qK],none⟩
theorem axF:bl Tryz.prog 156 agX:=by apply ak<;>first|exact trivial|kernel_rfl
def agW:TI:=⟨1,8,.other,[.bT],none⟩
theorem axE:bl Tryz.prog 158 agW:=by apply ak<;>first|exact trivial|kernel_rfl
def agV:TI:=⟨1,8,.other,[.bT],none⟩
theorem axD:bl Tryz.prog 159 agV:=by apply ak<;>first|exact trivial|kernel_rfl
def agU:TI:=⟨1,8,.other,[.bT],none⟩
theorem axC:bl Tryz.prog 160 agU:=by apply ak<;>first|exact trivial|kernel_rfl
def agT:TI:=⟨1,8,.other,[.bT],none⟩
theorem axB:bl Tryz.prog 161 agT:=by apply ak<;>first|exact trivial|kernel_rfl
def agS:TI:=⟨1,8,.other,[.bT],none⟩
theorem axA:bl Tryz.prog 162 agS:=by apply ak<;>first|exact trivial|kernel_rfl
def agR:TI:=⟨11,104,.struct [(0,3),(1,148),(9,25),(10,39)],[.int 0,.u64 0,.u64 0,.u64 0,.u64 0,.u64 0,.u64 0,.u64 0,.u64 0,.emp,.u64 0],some (.prod .int (.prod (.arr 8 .u64) (.prod (.list .u8) .u64)))⟩
theorem axz:bl Tryz.prog 163 agR:=by apply ak<;>first|exact⟨by kernel_rfl,by kernel_rfl,by kernel_rfl⟩|kernel_rfl
def agQ:TI:=⟨11,104,.struct [(0,3),(1,148),(9,25),(10,39)],[.int 0,.u64 0,.u64 0,.u64 0,.u64 0,.u64 0,.u64 0,.u64 0,.u64 0,.emp,.u64 0],some (.prod .int (.prod (.arr 8 .u64) (.prod (.list .u8) .u64)))⟩
theorem axy:bl Tryz.prog 164 agQ:=by apply ak<;>first|exact⟨by kernel_rfl,by kernel_rfl,by kernel_rfl⟩|kernel_rfl
def agP:TI:=⟨16,16,.array 16 5,List.replicate 16 (.u8 0),some (.arr 16 .u8)⟩
theorem axx:bl Tryz.prog 165 agP:=by apply ak<;>first|exact⟨by kernel_rfl,by kernel_rfl,by kernel_rfl⟩|kernel_rfl
def agO:TI:=⟨1,8,.other,[.bT],none⟩
theorem axw:bl Tryz.prog 166 agO:=by apply ak<;>first|exact trivial|kernel_rfl
def agN:TI:=⟨1,8,.other,[.bT],none⟩
theorem axv:bl Tryz.prog 168 agN:=by apply ak<;>first|exact trivial|kernel_rfl
def agM:TI:=⟨1,8,.other,[.bT],none⟩
theorem axu:bl Tryz.prog 170 agM:=by apply ak<;>first|exact trivial|kernel_rfl
def agL:TI:=⟨1,8,.other,[.bT],none⟩
theorem axt:bl Tryz.prog 171 agL:=by apply ak<;>first|exact trivial|kernel_rfl
def agK:TI:=⟨1,8,.other,[.bT],none⟩
theorem axs:bl Tryz.prog 172 agK:=by apply ak<;>first|exact trivial|kernel_rfl
def agJ:TI:=⟨16,128,.array 16 39,List.replicate 16 (.u64 0),some (.arr 16 .u64)⟩
theorem axr:bl Tryz.prog 173 agJ:=by apply ak<;>first|exact⟨by kernel_rfl,by kernel_rfl,by kernel_rfl⟩|kernel_rfl
def agI:TI:=⟨16,128,.array 16 3,List.replicate 16 (.int 0),some (.arr 16 .int)⟩
theorem axq:bl Tryz.prog 174 agI:=by apply ak<;>first|exact⟨by kernel_rfl,by kernel_rfl,by kernel_rfl⟩|kernel_rfl
def agH:TI:=⟨160,1280,.array 10 174,List.replicate 160 (.int 0),some (.arr 10 (.arr 16 .int))⟩
theorem axp:bl Tryz.prog 175 agH:=by apply ak<;>first|exact⟨by kernel_rfl,by kernel_rfl,by kernel_rfl⟩|kernel_rfl
def agG:TI:=⟨1,8,.other,[.bT],none⟩
theorem axo:bl Tryz.prog 176 agG:=by apply ak<;>first|exact trivial|kernel_rfl
def agF:TI:=⟨1,8,.other,[.bT],none⟩
theorem axn:bl Tryz.prog 177 agF:=by apply ak<;>first|exact trivial|kernel_rfl
def agE:TI:=⟨1,24,.slice 3,[.emp],some (.list .int)⟩
theorem axm:bl Tryz.prog 178 agE:=by apply ak<;>first|exact⟨by kernel_rfl,by kernel_rfl,by kernel_rfl⟩|kernel_rfl
def agD:TI:=⟨1,8,.other,[.bT],none⟩
theorem axl:bl Tryz.prog 179 agD:=by apply ak<;>first|exact trivial|kernel_rfl
def agC:TI:=⟨1,8,.other,[.bT],none⟩
theorem axk:bl Tryz.prog 180 agC:=by apply ak<;>first|exact trivial|kernel_rfl
def agB:TI:=⟨1,8,.other,[.bT],none⟩
theorem axj:bl Tryz.prog 181 agB:=by apply ak<;>first|exact trivial|kernel_rfl
def agA:TI:=⟨128,128,.array 128 5,List.replicate 128 (.u8 0),some (.arr 128 .u8)⟩
theorem axi:bl Tryz.prog 182 agA:=by apply ak<;>first|exact⟨by kernel_rfl,by kernel_rfl,by kernel_rfl⟩|kernel_rfl
def agz:TI:=⟨8,64,.array 2 41,[.u64 0,.u64 0,.u64 0,.u64 0,.u64 0,.u64 0,.u64 0,.u64 0],some (.arr 2 .elem)⟩
theorem axh:bl Tryz.prog 183 agz:=by apply ak<;>first|exact⟨by kernel_rfl,by kernel_rfl,by kernel_rfl⟩|kernel_rfl
def agy:TI:=⟨1,8,.other,[.bT],none⟩
theorem axg:bl Tryz.prog 185 agy:=by apply ak<;>first|exact trivial|kernel_rfl
def agx:TI:=⟨2,32,.struct [(0,3),(1,113)],[.int 0,.emp],some (.prod .int (.list (.prod .elem (.prod .elem (.prod .elem .bool)))))⟩
theorem axf:bl Tryz.prog 186 agx:=by apply ak<;>first|exact⟨by kernel_rfl,by kernel_rfl,by kernel_rfl⟩|kernel_rfl
def agw:TI:=⟨2,32,.struct [(0,3),(1,113)],[.int 0,.emp],some (.prod .int (.list (.prod .elem (.prod .elem (.prod .elem .bool)))))⟩
theorem axe:bl Tryz.prog 187 agw:=by apply ak<;>first|exact⟨by kernel_rfl,by kernel_rfl,by kernel_rfl⟩|kernel_rfl
def agv:TI:=⟨6,48,.array 6 39,[.u64 0,.u64 0,.u64 0,.u64 0,.u64 0,.u64 0],some (.arr 6 .u64)⟩
theorem axd:bl Tryz.prog 188 agv:=by apply ak<;>first|exact⟨by kernel_rfl,by kernel_rfl,by kernel_rfl⟩|kernel_rfl
def agu:TI:=⟨1,8,.other,[.bT],none⟩
theorem axc:bl Tryz.prog 189 agu:=by apply ak<;>first|exact trivial|kernel_rfl
def agt:TI:=⟨1,24,.slice 39,[.emp],some (.list .u64)⟩
theorem axb:bl Tryz.prog 190 agt:=by apply ak<;>first|exact⟨by kernel_rfl,by kernel_rfl,by kernel_rfl⟩|kernel_rfl
def ags:TI:=⟨1,16,.iface,[.eh],none⟩
theorem axa:bl Tryz.prog 191 ags:=by apply ak<;>first|exact trivial|kernel_rfl
def agr:TI:=⟨1,16,.iface,[.eh],none⟩
theorem aw9:bl Tryz.prog 192 agr:=by apply ak<;>first|exact trivial|kernel_rfl
def agq:TI:=⟨1,8,.other,[.bT],none⟩
theorem aw8:bl Tryz.prog 193 agq:=by apply ak<;>first|exact trivial|kernel_rfl
def agp:TI:=⟨4,32,.array 4 3,[.int 0,.int 0,.int 0,.int 0],some (.arr 4 .int)⟩
theorem aw7:bl Tryz.prog 194 agp:=by apply ak<;>first|exact⟨by kernel_rfl,by kernel_rfl,by kernel_rfl⟩|kernel_rfl
def ago:TI:=⟨1,8,.other,[.bT],none⟩
theorem aw6:bl Tryz.prog 195 ago:=by apply ak<;>first|exact trivial|kernel_rfl
def agn:TI:=⟨16,128,.array 16 39,List.replicate 16 (.u64 0),some (.arr 16 .u64)⟩
theorem aw5:bl Tryz.prog 196 agn:=by apply ak<;>first|exact⟨by kernel_rfl,by kernel_rfl,by kernel_rfl⟩|kernel_rfl
def agm:TI:=⟨10,160,.array 10 9,List.replicate 10 (.str []),some (.arr 10 .str)⟩
theorem aw4:bl Tryz.prog 197 agm:=by apply ak<;>first|exact⟨by kernel_rfl,by kernel_rfl,by kernel_rfl⟩|kernel_rfl
def agl:TI:=⟨1,8,.other,[.bT],none⟩
theorem aw3:bl Tryz.prog 198 agl:=by apply ak<;>first|exact trivial|kernel_rfl
def agk:TI:=⟨1,8,.other,[.bT],none⟩
theorem aw2:bl Tryz.prog 199 agk:=by apply ak<;>first|exact trivial|kernel_rfl
def agj:TI:=⟨1,8,.other,[.bT],none⟩
theorem aw1:bl Tryz.prog 200 agj:=by apply ak<;>first|exact trivial|kernel_rfl
def agi:TI:=⟨1,8,.other,[.bT],none⟩
theorem aw0:bl Tryz.prog 201 agi:=by apply ak<;>first|exact trivial|kernel_rfl
def agh:TI:=⟨1,8,.other,[.bT],none⟩
theorem awZ:bl Tryz.prog 202 agh:=by apply ak<;>first|exact trivial|kernel_rfl
def agf:TI:=⟨1,8,.other,[.bT],none⟩
theorem awY:bl Tryz.prog 203 agf:=by apply ak<;>first|exact trivial|kernel_rfl
def age:TI:=⟨1,8,.ptr [("sigil/blake.mix",159)],[.qK],none⟩
theorem awX:bl Tryz.prog 204 age:=by apply ak<;>first|exact trivial|kernel_rfl
def agd:TI:=⟨1,8,.other,[.bT],none⟩
theorem awW:bl Tryz.prog 205 agd:=by apply ak<;>first|exact trivial|kernel_rfl
def agc:TI:=⟨1,8,.other,[.bT],none⟩
theorem awV:bl Tryz.prog 206 agc:=by apply ak<;>first|exact trivial|kernel_rfl
def agb:TI:=⟨1,8,.other,[.bT],none⟩
theorem awU:bl Tryz.prog 207 agb:=by apply ak<;>first|exact trivial|kernel_rfl
def aga:TI:=⟨135,1080,.array 15 43,(([.u64 0,.u64 0,.u64 0,.u64 0,.u64 0,.u64 0,.u64 0,.u64 0,.bool false,.u64 0,.u64 0,.u64 0,.u64 0,.u64 0,.u64 0,.u64 0,.u64 0,.bool false,.u64 0,.u64 0,.u64 0,.u64 0,.u64 0,.u64 0,.u64 0,.u64 0,.bool false,.u64 0,.u64 0,.u64 0,.u64 0,.u64 0,.u64 0,.u64 0,.u64 0,.bool false,.u64 0,.u64 0,.u64 0,.u64 0,.u64 0,.u64 0,.u64 0,.u64 0,.bool false,.u64 0,.u64 0,.u64 0,.u64 0,.u64 0]:List SV)++([.u64 0,.u64 0,.u64 0,.bool false,.u64 0,.u64 0,.u64 0,.u64 0,.u64 0,.u64 0,.u64 0,.u64 0,.bool false,.u64 0,.u64 0,.u64 0,.u64 0,.u64 0,.u64 0,.u64 0,.u64 0,.bool false,.u64 0,.u64 0,.u64 0,.u64 0,.u64 0,.u64 0,.u64 0,.u64 0,.bool false,.u64 0,.u64 0,.u64 0,.u64 0,.u64 0,.u64 0,.u64 0,.u64 0,.bool false,.u64 0,.u64 0,.u64 0,.u64 0,.u64 0,.u64 0,.u64 0,.u64 0,.bool false,.u64 0]:List SV)++([.u64 0,.u64 0,.u64 0,.u64 0,.u64 0,.u64 0,.u64 0,.bool false,.u64 0,.u64 0,.u64 0,.u64 0,.u64 0,.u64 0,.u64 0,.u64 0,.bool false,.u64 0,.u64 0,.u64 0,.u64 0,.u64 0,.u64 0,.u64 0,.u64 0,.bool false,.u64 0,.u64 0,.u64 0,.u64 0,.u64 0,.u64 0,.u64 0,.u64 0,.bool false]:List SV)),some (.arr 15 (.prod .elem (.prod .elem .bool)))⟩
theorem awT:bl Tryz.prog 208 aga:=by apply ak<;>first|exact⟨by kernel_rfl,by kernel_rfl,by kernel_rfl⟩|kernel_rfl
def af9:TI:=⟨1,8,.other,[.bT],none⟩
theorem awS:bl Tryz.prog 209 af9:=by apply ak<;>first|exact trivial|kernel_rfl
def af8:TI:=⟨1,8,.ptr [("Error",197)],[.qK],none⟩
theorem awR:bl Tryz.prog 210 af8:=by apply ak<;>first|exact trivial|kernel_rfl
def af7:TI:=⟨1,8,.other,[.bT],none⟩
theorem awQ:bl Tryz.prog 211 af7:=by apply ak<;>first|exact trivial|kernel_rfl
def af6:TI:=⟨0,0,.array 0 16,[],none⟩
theorem awP:bl Tryz.prog 214 af6:=by apply ak<;>first|exact trivial|kernel_rfl
def af5:TI:=⟨1,4,.int .u32,[.bT],none⟩
theorem awO:bl Tryz.prog 217 af5:=by apply ak<;>first|exact trivial|kernel_rfl
def af4:TI:=⟨1,1,.int .u8,[.u8 0],some .u8⟩
theorem awN:bl Tryz.prog 218 af4:=by apply ak<;>first|exact⟨by kernel_rfl,by kernel_rfl,by kernel_rfl⟩|kernel_rfl
def af3:TI:=⟨1,1,.int .u8,[.u8 0],some .u8⟩
theorem awM:bl Tryz.prog 219 af3:=by apply ak<;>first|exact⟨by kernel_rfl,by kernel_rfl,by kernel_rfl⟩|kernel_rfl
def af2:TI:=⟨1,8,.other,[.bT],none⟩
theorem awL:bl Tryz.prog 220 af2:=by apply ak<;>first|exact trivial|kernel_rfl
def af1:TI:=⟨1,8,.ptr [],[.qK],none⟩
theorem awK:bl Tryz.prog 221 af1:=by apply ak<;>first|exact trivial|kernel_rfl
def af0:TI:=⟨1,4,.int .i32,[.bT],none⟩
theorem awJ:bl Tryz.prog 222 af0:=by apply ak<;>first|exact trivial|kernel_rfl
def afZ:TI:=⟨1,4,.int .i32,[.bT],none⟩
theorem awI:bl Tryz.prog 223 afZ:=by apply ak<;>first|exact trivial|kernel_rfl
def afY:TI:=⟨1,8,.ptr [("Next",193)],[.qK],none⟩
theorem awH:bl Tryz.prog 226 afY:=by apply ak<;>first|exact trivial|kernel_rfl
def afX:TI:=⟨1,16,.struct [(0,9)],[.str []],some .str⟩
theorem awG:bl Tryz.prog 227 afX:=by apply ak<;>first|exact⟨by kernel_rfl,by kernel_rfl,by kernel_rfl⟩|kernel_rfl
def afW:TI:=⟨1,16,.struct [(0,9)],[.str []],some .str⟩
theorem awF:bl Tryz.prog 228 afW:=by apply ak<;>first|exact⟨by kernel_rfl,by kernel_rfl,by kernel_rfl⟩|kernel_rfl
def afV:TI:=⟨1,8,.other,[.qK],none⟩
theorem awE:bl Tryz.prog 229 afV:=by apply ak<;>first|exact trivial|kernel_rfl
def te:TE:=(au 1 aBB (au 2 aBA (au 3 aBz (au 4 aBy (au 5 afU (au 6 aBx (au 7 aBw (au 8 aBv (au 9 aBu (au 10 aqI (au 11 aqH (au 12 aqG (au 15 aqF (au 16 aqE (au 17 aqD (au 20 aqC (au 21 aqB (au 22 aqA (au 23 aqz (au 24 aqy (au 25 abi (au 26 aqx (au 27 aqw (au 28 aqv (au 29 aqu (au 30 aqt (au 32 aqs (au 33 aqr (au 34 aqq (au 35 aqp (au 37 aqo (au 38 aqn (au 39 aqm (au 40 aql (au 41 aqk (au 42 aqj (au 43 aqi (au 44 aqh (au 45 aqg (au 46 aqf (au 47 aqe (au 48 aqd (au 49 aqc (au 50 aqb (au 51 aqa (au 52 ap9 (au 53 ap8 (au 55 ap7 (au 57 ap6 (au 59 ap5 (au 61 ap4 (au 62 ap3 (au 63 ap2 (au 64 ap1 (au 65 ap0 (au 66 apZ (au 67 apY (au 68 apX (au 69 apW (au 71 apV (au 72 apU (au 73 apT (au 74 apR (au 75 apQ (au 76 apP (au 77 apO (au 78 apN (au 79 apM (au 80 apL (au 81 apK (au 82 apJ (au 83 apI (au 84 apH (au 85 apG (au 86 apF (au 87 apE (au 89 apD (au 90 apC (au 91 apB (au 92 apA (au 94 apz (au 95 apy (au 96 apx (au 97 apw (au 98 apv (au 99 apu (au 100 ahN (au 101 ahM (au 102 ahL (au 103 ahK (au 105 ahJ (au 106 ahI (au 107 ahH (au 108 ahG (au 109 ahF (au 110 ahE (au 111 ahD (au 112 ahC (au 113 ahB (au 114 ahA (au 115 ahz (au 116 ahy (au 117 ahx (au 119 ahw (au 120 ahv (au 121 ahu (au 122 aht (au 123 ahs (au 124 ahr (au 125 ahq (au 126 ahp (au 127 aho (au 128 ahn (au 129 ahm (au 131 ahl (au 132 ahk (au 133 ahj (au 134 ahi (au 135 ahh (au 136 ahg (au 137 ahf (au 138 ahe (au 140 ahd (au 141 ahc (au 142 ahb (au 143 aha (au 144 ag9 (au 145 ag8 (au 146 ag7 (au 147 ag6 (au 148 ag5 (au 149 ag4 (au 150 ag3 (au 151 ag2 (au 152 ag1 (au 153 ag0 (au 154 agZ (au 155 agY (au 156 agX (au 158 agW (au 159 agV (au 160 agU (au 161 agT (au 162 agS (au 163 agR (au 164 agQ (au 165 agP (au 166 agO (au 168 agN (au 170 agM (au 171 agL (au 172 agK (au 173 agJ (au 174 agI (au 175 agH (au 176 agG (au 177 agF (au 178 agE (au 179 agD (au 180 agC (au 181 agB (au 182 agA (au 183 agz (au 185 agy (au 186 agx (au 187 agw (au 188 agv (au 189 agu (au 190 agt (au 191 ags (au 192 agr (au 193 agq (au 194 agp (au 195 ago (au 196 agn (au 197 agm (au 198 agl (au 199 agk (au 200 agj (au 201 agi (au 202 agh (au 203 agf (au 204 age (au 205 agd (au 206 agc (au 207 agb (au 208 aga (au 209 af9 (au 210 af8 (au 211 af7 (au 214 af6 (au 217 af5 (au 218 af4 (au 219 af3 (au 220 af2 (au 221 af1 (au 222 af0 (au 223 afZ (au 226 afY (au 227 afX (au 228 afW (au 229 afV aHn))))))))))))))))))))))))))))))))))))))))))))))))))))))))))))))))))))))))))))))))))))))))))))))))))))))))))))))))))))))))))))))))))))))))))))))))))))))))))))))))))))))))))))))))))))))))))))))))))))))))))
theorem aq:mJ Tryz.prog te:=(ab aHm (ab aHl (ab aHk (ab aHj (ab aHi (ab aHh (ab aHg (ab aHf (ab aHe (ab aD0 (ab aDZ (ab aDY (ab aDX (ab aDW (ab aDV (ab aDU (ab aDT (ab aDS (ab aDR (ab aDQ (ab aDP (ab aDO (ab aDN (ab aDM (ab aDL (ab aDK (ab aDJ (ab aDI (ab aDH (ab aDG (ab aDF (ab aDE (ab aDD (ab aDC (ab aDB (ab aDA (ab aDz (ab aDy (ab aDx (ab aDw (ab aDv (ab aDu (ab aDt (ab aDs (ab aDr (ab aDq (ab aDp (ab aDo (ab aDn (ab aDm (ab aDl (ab aDk (ab aDj (ab aDi (ab aDh (ab aDg (ab aDf (ab aDe (ab aDd (ab aDc (ab aDb (ab aDa (ab aC9 (ab aC8 (ab aC7 (ab aC6 (ab aC5 (ab aC4 (ab aC3 (ab aC2 (ab aC1 (ab aC0 (ab aCZ (ab aCY (ab aCX (ab aCW (ab aCV (ab aCU (ab aCT (ab aCS (ab aCR (ab aCQ (ab aCP (ab aCO (ab aCN (ab aCM (ab ayv (ab ayu (ab ayt (ab ays (ab ayr (ab ayq (ab ayp (ab ayo (ab ayn (ab aym (ab ayl (ab ayk (ab ayj (ab ayi (ab ayh (ab ayg (ab ayf (ab aye (ab ayd (ab ayc (ab ayb (ab aya (ab ax9 (ab ax8 (ab ax7 (ab ax6 (ab ax5 (ab ax4 (ab ax3 (ab ax2 (ab ax1 (ab ax0 (ab axZ (ab axY (ab axX (ab axW (ab axV (ab axU (ab axT (ab axS (ab axR (ab axQ (ab axP (ab axO (ab axN (ab axM (ab axL (ab axK (ab axJ (ab axI (ab axH (ab axG (ab axF (ab axE (ab axD (ab axC (ab axB (ab axA (ab axz (ab axy (ab axx (ab axw (ab axv (ab axu (ab axt (ab axs (ab axr (ab axq (ab axp (ab axo (ab axn (ab axm (ab axl (ab axk (ab axj (ab axi (ab axh (ab axg (ab axf (ab axe (ab axd (ab axc (ab axb (ab axa (ab aw9 (ab aw8 (ab aw7 (ab aw6 (ab aw5 (ab aw4 (ab aw3 (ab aw2 (ab aw1 (ab aw0 (ab awZ (ab awY (ab awX (ab awW (ab awV (ab awU (ab awT (ab awS (ab awR (ab awQ (ab awP (ab awO (ab awN (ab awM (ab awL (ab awK (ab awJ (ab awI (ab awH (ab awG (ab awF (ab awE ayw))))))))))))))))))))))))))))))))))))))))))))))))))))))))))))))))))))))))))))))))))))))))))))))))))))))))))))))))))))))))))))))))))))))))))))))))))))))))))))))))))))))))))))))))))))))))))))))))))))))))))
theorem follows:Tryz.prog.follows .mixedOrders=true:=by kernel_rfl
def E0:Env:=auM
theorem aBp:aR Tryz.prog E0:=auL
theorem awq:ax E0:=ael
theorem aCm:aW Tryz.prog te E0:=aK follows aq aBp awq
end Go.Proofs.YtohjofabochgfaaGreat

namespace Go.Proofs.YtohjofabochgfaaGreat
open Sx Go
def kB (b:List UInt8) (k:Nat):UInt64:=(List.range k).foldl (λv (i:Nat)=>v|||bR (UInt8.toUInt64 (b.getD i 0)) (8*(i:Int))) 0
theorem O2 (b:List UInt8) (k:Nat):kB b (k+1)=kB b k|||bR (UInt8.toUInt64 (b.getD k 0)) (8*(k:Int)):=by
 simp [kB,List.range_succ]
end Go.Proofs.YtohjofabochgfaaGreat

namespace Go.Proofs.YtohjofabochgfaaGreat
open Sx Go
set_option maxRecDepth 100000
def mq:aw:=⟨[.val false (.list .u8)],[],true,0,false⟩
abbrev Rh:Type:=((List (UInt8))×Unit)×(Unit)
def BV:Shape:=⟨22,[(3,.val false .u64),(6,.val false (.list .u8)),(7,.val false .int),(8,.val false .int)],[],0,true⟩
abbrev dm:Type:=((UInt64)×(List (UInt8))×(Int)×(Int)×Unit)×(Unit)
def wz:Shape:=⟨22,[(3,.val false .u64)],[],0,true⟩
abbrev mo:Type:=((UInt64)×Unit)×(Unit)
def akj:SE->Option Shape:=fw [(0,wz)] none
def UZ (a3:UInt64) (a6:List (UInt8)) (a7:Int) (a8:Int):OT (Sum dm aE):=
 (.br (decide (a8<a7))
 (gd [inB a8 (List.length a6),inR ((8:Int)*a8),decide ((0:Int)<=(8:Int)*a8),inR (a8+(1:Int))] (.ok (.inl ((a3|||bR (UInt8.toUInt64 (List.getD a6 (Int.toNat a8) (0:UInt8))) ((8:Int)*a8),(a6,(a7,(a8+(1:Int),())))),()))))
 (.ok (.inr ⟨(.exit 0,wz),((a3,()),())⟩)))
def rj (s:dm):OT (Sum dm aE):=UZ (s.1.1) (s.1.2.1) (s.1.2.2.1) (s.1.2.2.2.1)
theorem aAQ (s:dm) (Q:Sum dm aE->Prop):wps te E0 av 1000 (aU (aj Tryz.f127) 0) (BV.inj s) (bX BV akj (Q:Sum BV.T aE->Prop))=(rj s).wpR Q:=by kernel_rfl
def Ip (g0_0:dm->mo) (s:dm):OT aE:=(.ok ⟨(.exit 0,wz),g0_0 s⟩)
def UY:az:=⟨[.val false .u64],[],false⟩
def ZG:SV->Option az:=λ_=>some UY
def aeF (ok0:dm->Bool) (g0_0:dm->mo) (a0:List (UInt8)):OT mq.Y:=
 let z0:(UInt64×List UInt8×Int×Int×PUnit)×PUnit:=(((0:UInt64),a0,(↑(List.length a0):Int),(0:Int),()),())
 (gd [ok0 z0] (.ok ⟨UY,(((g0_0 z0).fst.fst,()),())⟩))
theorem aGn (ok0:dm->Bool) (g0_0:dm->mo) (x:Rh) (Q:mq.Y->Prop):wpf te E0 (aO 0 (cg BV 0 ok0 (Ip g0_0)) av) 1000 Tryz.f127 (mq.inp.inj x).tm (mq.inp.inj x).hp (fnK mq ZG Q) (λ_ _=>False)=(aeF ok0 g0_0 (x.1.1)).wpR Q:=by kernel_rfl
theorem aoi (ok0:dm->Bool) (g0_0:dm->mo) (h0:∀ s:dm,ok0 s=true->∃ m e,ao (rj) m s=some e/\(Ip g0_0 s).run=some e) (pre:Rh->Bool) (F:Rh->OT mq.Y) (hF:∀ (x:Rh) oy,pre x=true->(F x).run=some oy->(aeF ok0 g0_0 (x.1.1)).run=some oy):ac Tryz.prog 127 (mq.aI pre F):=
 aD aq aBp aCm (f:=127) (fn:=Tryz.f127) (c:=aj Tryz.f127) (by kernel_rfl) (by kernel_rfl) (by kernel_rfl) (S:=mq) (k:=0) (by kernel_rfl) (λR hR=>(aB (c:=(aj Tryz.f127)) (by kernel_rfl) (id:=0) (by kernel_rfl) (aQ aq aBp aCm (sh:=BV) hR (xs:=akj) (aC (by kernel_rfl) (by kernel_rfl) hR) aL af (n:=1000) (T:=rj) (λs Q=>aAQ s Q) (ok:=ok0) (f:=Ip g0_0) h0) af)) (n:=1000) (sel:=ZG) (λv o h=>by cases h;rfl) (pre:=pre) (F:=F) (T:=λx=>aeF ok0 g0_0 (x.1.1)) (λx Q=>aGn ok0 g0_0 x Q) hF
def ZH (s:dm):Bool:=decide (s.1.1=0/\s.1.2.2.1=(s.1.2.1.length:Int)/\s.1.2.2.2.1=0/\s.1.2.1.length<=4096)
def akk (s:dm):mo:=((kB s.1.2.1 s.1.2.1.length,()),())
theorem aAS:∀ s,ZH s=true->∃ m e,ao rj m s=some e/\(Ip akk s).run=some e:=by
 rintro ⟨⟨v,b,n,i,⟨⟩⟩,⟨⟩⟩ h
 have h':=of_decide_eq_true h
 dsimp only at h'
 obtain ⟨rfl,rfl,rfl,hl⟩:=h'
 have:=yW (T:=rj) (λk=>((kB b k,b,(b.length:Int),(k:Int),()),())) b.length (e:=⟨(.exit 0,wz),((kB b b.length,()),())⟩) (λk hk=> ?_) ?_ 0 (Nat.zero_le _)
 ·obtain ⟨m,hm⟩:=this
  exact ⟨m,_,hm,rfl⟩
 ·unfold rj UZ
  dsimp only
  rw [OT.ap (decide_eq_true (by omega)),ah (by simp;exact ⟨aN (by omega),aH (by omega),by omega,aH (by omega)⟩),OT.cL,O2]
  rfl
 ·unfold rj UZ
  dsimp only
  rw [OT.ar (decide_eq_false (by omega)),OT.cL]
def mn (x:Rh):Bool:=decide (x.1.1.length<=4096)
def avy (x:Rh):OT mq.Y:=.ok ⟨UY,((kB x.1.1 x.1.1.length,()),())⟩
theorem aAR:ac Tryz.prog 127 (mq.aI mn avy):=aoi ZH akk aAS _ _ λx oy hp ho=>by
 rw [<-ho]
 have hp':=of_decide_eq_true hp
 refine (OT.ap ?_).trans ?_
 ·exact decide_eq_true ⟨rfl,rfl,rfl,hp'⟩
 ·rfl
def Fi:cj:=(mq.aI mn avy)
theorem aeE:ac Tryz.prog 127 Fi:=aAR
theorem aeD:aG Fi:=aA
def NW:Env:=ay 127 Fi E0
theorem F8:aR Tryz.prog NW:=ag aeE aBp
theorem Hs:ax NW:=ae aeD awq
theorem afA:aW Tryz.prog te NW:=aK follows aq F8 Hs
def sk:aw:=⟨[.val false .u64,.val false .int],[],true,0,false⟩
abbrev alg:Type:=((UInt64)×(Int)×Unit)×(Unit)
def abM:az:=⟨[.val false .u64],[],false⟩
def ah2:SV->Option az:=λ_=>some abM
def aq7 (a0:UInt64) (a1:Int):OT sk.Y:=
 (.ok ⟨abM,((bR a0 (↑(UInt64.toNat (i2u a1&&&(63:UInt64))):Int)|||bf a0 (↑(UInt64.toNat ((64:UInt64)-(i2u a1&&&(63:UInt64)))):Int),()),())⟩)
theorem aHw (x:alg) (Q:sk.Y->Prop):wpf te NW av 1000 Tryz.f167 (sk.inp.inj x).tm (sk.inp.inj x).hp (fnK sk ah2 Q) (λ_ _=>False)=(aq7 (x.1.1) (x.1.2.1)).wpR Q:=by kernel_rfl
theorem aq6 (pre:alg->Bool) (F:alg->OT sk.Y) (hF:∀ (x:alg) oy,pre x=true->(F x).run=some oy->(aq7 (x.1.1) (x.1.2.1)).run=some oy):ac Tryz.prog 167 (sk.aI pre F):=
 aD aq F8 afA (f:=167) (fn:=Tryz.f167) (c:=aj Tryz.f167) (by kernel_rfl) (by kernel_rfl) (by kernel_rfl) (S:=sk) (k:=0) (by kernel_rfl) (λR hR=>af) (n:=1000) (sel:=ah2) (λv o h=>by cases h;rfl) (pre:=pre) (F:=F) (T:=λx=>aq7 (x.1.1) (x.1.2.1)) (λx Q=>aHw x Q) hF
def rotl (a:UInt64) (n:Int):UInt64:=bR a (UInt64.toNat (i2u n&&&63):Int)|||bf a (UInt64.toNat (64-(i2u n&&&63)):Int)
def ah3 (_:alg):Bool:=true
def aBG (x:alg):OT sk.Y:=.ok ⟨abM,((rotl x.1.1 x.1.2.1,()),())⟩
theorem aEl:ac Tryz.prog 167 (sk.aI ah3 aBG):=aq6 _ _ λx oy _ ho=>ho
def Ja:cj:=(sk.aI ah3 aBG)
theorem alf:ac Tryz.prog 167 Ja:=aEl
theorem ale:aG Ja:=aA
def aaq:Env:=ay 167 Ja NW
theorem MT:aR Tryz.prog aaq:=ag alf F8
theorem MU:ax aaq:=ae ale Hs
theorem aoG:aW Tryz.prog te aaq:=aK follows aq MT MU
def uo:aw:=⟨[.val false .u8],[],true,0,false⟩
abbrev aoq:Type:=((UInt8)×Unit)×(Unit)
def U7:az:=⟨[.val false .int],[],false⟩
def akr:SV->Option az:=λ_=>some U7
def avJ (a0:UInt8):OT uo.Y:=
 (.br (decide ((97:UInt8)<=a0))
 (gd [inR ((↑(UInt8.toNat (a0-(97:UInt8))):Int)+(10:Int))] (.ok ⟨U7,(((↑(UInt8.toNat (a0-(97:UInt8))):Int)+(10:Int),()),())⟩))
 (.ok ⟨U7,(((↑(UInt8.toNat (a0-(48:UInt8))):Int),()),())⟩))
theorem aIB (x:aoq) (Q:uo.Y->Prop):wpf te aaq av 1000 Tryz.f158 (uo.inp.inj x).tm (uo.inp.inj x).hp (fnK uo akr Q) (λ_ _=>False)=(avJ (x.1.1)).wpR Q:=by kernel_rfl
theorem avI (pre:aoq->Bool) (F:aoq->OT uo.Y) (hF:∀ (x:aoq) oy,pre x=true->(F x).run=some oy->(avJ (x.1.1)).run=some oy):ac Tryz.prog 158 (uo.aI pre F):=
 aD aq MT aoG (f:=158) (fn:=Tryz.f158) (c:=aj Tryz.f158) (by kernel_rfl) (by kernel_rfl) (by kernel_rfl) (S:=uo) (k:=0) (by kernel_rfl) (λR hR=>af) (n:=1000) (sel:=akr) (λv o h=>by cases h;rfl) (pre:=pre) (F:=F) (T:=λx=>avJ (x.1.1)) (λx Q=>aIB x Q) hF
def nib (c:UInt8):Int:=if 97<=c then (UInt8.toNat (c-97):Int)+10 else (UInt8.toNat (c-48):Int)
def aks (_:aoq):Bool:=true
def akt (x:aoq):OT uo.Y:=.ok ⟨U7,((nib x.1.1,()),())⟩
theorem aGu:ac Tryz.prog 158 (uo.aI aks akt):=avI _ _ λx oy _ ho=>by
 rw [<-ho]
 have hlt:=(x.1.1-97).toNat_lt
 by_cases h:97<=x.1.1
 ·refine (OT.ap (decide_eq_true h)).trans ((ah (by simp;exact aH (by omega))).trans ?_)
  simp only [akt,nib,if_pos h]
 ·refine (OT.ar (decide_eq_false h)).trans ?_
  simp only [akt,nib,if_neg h]
def Mo:cj:=(uo.aI aks akt)
theorem aop:ac Tryz.prog 158 Mo:=aGu
theorem aoo:aG Mo:=aA
def aaV:Env:=ay 158 Mo aaq
theorem NZ:aR Tryz.prog aaV:=ag aop MT
theorem N0:ax aaV:=ae aoo MU
theorem aoW:aW Tryz.prog te aaV:=aK follows aq NZ N0
def ji:aw:=⟨[],[],true,0,false⟩
abbrev Fl:Type:=(Unit)×(Unit)
def Mm:az:=⟨[.val true (.arr 8 .u64)],[],false⟩
def Rj:SV->Option az:=λ_=>some Mm
def U5:OT ji.Y:=
 (.ok ⟨Mm,(([(7640891576956012808:UInt64),(13503953896175478587:UInt64),(4354685564936845355:UInt64),(11912009170470909681:UInt64),(5840696475078001361:UInt64),(11170449401992604703:UInt64),(2270897969802886507:UInt64),(6620516959819538809:UInt64)],()),())⟩)
theorem aAU (x:Fl) (Q:ji.Y->Prop):wpf te aaV av 1000 Tryz.f126 (ji.inp.inj x).tm (ji.inp.inj x).hp (fnK ji Rj Q) (λ_ _=>False)=(U5).wpR Q:=by kernel_rfl
theorem aeP (pre:Fl->Bool) (F:Fl->OT ji.Y) (hF:∀ (x:Fl) oy,pre x=true->(F x).run=some oy->(U5).run=some oy):ac Tryz.prog 126 (ji.aI pre F):=
 aD aq NZ aoW (f:=126) (fn:=Tryz.f126) (c:=aj Tryz.f126) (by kernel_rfl) (by kernel_rfl) (by kernel_rfl) (S:=ji) (k:=0) (by kernel_rfl) (λR hR=>af) (n:=1000) (sel:=Rj) (λv o h=>by cases h;rfl) (pre:=pre) (F:=F) (T:=λx=>U5) (λx Q=>aAU x Q) hF
def bIV:List UInt64:= [0x6a09e667f3bcc908,0xbb67ae8584caa73b,0x3c6ef372fe94f82b,0xa54ff53a5f1d36f1,0x510e527fade682d1,0x9b05688c2b3e6c1f,0x1f83d9abfb41bd6b,0x5be0cd19137e2179]
def Rk (_:Fl):Bool:=true
def akn (_:Fl):OT ji.Y:=.ok ⟨Mm,((bIV,()),())⟩
theorem avG:ac Tryz.prog 126 (ji.aI Rk akn):=aeP _ _ λx oy _ ho=>ho
def zi:cj:=(ji.aI Rk akn)
theorem ZM:ac Tryz.prog 126 zi:=avG
theorem ZL:aG zi:=aA
def Df:Env:=ay 126 zi aaV
theorem zJ:aR Tryz.prog Df:=ag ZM NZ
theorem De:ax Df:=ae ZL N0
theorem aaT:aW Tryz.prog te Df:=aK follows aq zJ De
def jj:aw:=⟨[],[],true,0,false⟩
abbrev Fm:Type:=(Unit)×(Unit)
def Mn:az:=⟨[.val true (.arr 10 .str)],[],false⟩
def Rl:SV->Option az:=λ_=>some Mn
def U6:OT jj.Y:=
 (.ok ⟨Mn,(([[(48:UInt8),(49:UInt8),(50:UInt8),(51:UInt8),(52:UInt8),(53:UInt8),(54:UInt8),(55:UInt8),(56:UInt8),(57:UInt8),(97:UInt8),(98:UInt8),(99:UInt8),(100:UInt8),(101:UInt8),(102:UInt8)],[(101:UInt8),(97:UInt8),(52:UInt8),(56:UInt8),(57:UInt8),(102:UInt8),(100:UInt8),(54:UInt8),(49:UInt8),(99:UInt8),(48:UInt8),(50:UInt8),(98:UInt8),(55:UInt8),(53:UInt8),(51:UInt8)],[(98:UInt8),(56:UInt8),(99:UInt8),(48:UInt8),(53:UInt8),(50:UInt8),(102:UInt8),(100:UInt8),(97:UInt8),(101:UInt8),(51:UInt8),(54:UInt8),(55:UInt8),(49:UInt8),(57:UInt8),(52:UInt8)],[(55:UInt8),(57:UInt8),(51:UInt8),(49:UInt8),(100:UInt8),(99:UInt8),(98:UInt8),(101:UInt8),(50:UInt8),(54:UInt8),(53:UInt8),(97:UInt8),(52:UInt8),(48:UInt8),(102:UInt8),(56:UInt8)],[(57:UInt8),(48:UInt8),(53:UInt8),(55:UInt8),(50:UInt8),(52:UInt8),(97:UInt8),(102:UInt8),(101:UInt8),(49:UInt8),(98:UInt8),(99:UInt8),(54:UInt8),(56:UInt8),(51:UInt8),(100:UInt8)],[(50:UInt8),(99:UInt8),(54:UInt8),(97:UInt8),(48:UInt8),(98:UInt8),(56:UInt8),(51:UInt8),(52:UInt8),(100:UInt8),(55:UInt8),(53:UInt8),(102:UInt8),(101:UInt8),(49:UInt8),(57:UInt8)],[(99:UInt8),(53:UInt8),(49:UInt8),(102:UInt8),(101:UInt8),(100:UInt8),(52:UInt8),(97:UInt8),(48:UInt8),(55:UInt8),(54:UInt8),(51:UInt8),(57:UInt8),(50:UInt8),(56:UInt8),(98:UInt8)],[(100:UInt8),(98:UInt8),(55:UInt8),(101:UInt8),(99:UInt8),(49:UInt8),(51:UInt8),(57:UInt8),(53:UInt8),(48:UInt8),(102:UInt8),(52:UInt8),(56:UInt8),(54:UInt8),(50:UInt8),(97:UInt8)],[(54:UInt8),(102:UInt8),(101:UInt8),(57:UInt8),(98:UInt8),(51:UInt8),(48:UInt8),(56:UInt8),(99:UInt8),(50:UInt8),(100:UInt8),(55:UInt8),(49:UInt8),(52:UInt8),(97:UInt8),(53:UInt8)],[(97:UInt8),(50:UInt8),(56:UInt8),(52:UInt8),(55:UInt8),(54:UInt8),(49:UInt8),(53:UInt8),(102:UInt8),(98:UInt8),(57:UInt8),(101:UInt8),(51:UInt8),(99:UInt8),(100:UInt8),(48:UInt8)]],()),())⟩)
theorem aAV (x:Fm) (Q:jj.Y->Prop):wpf te Df av 1000 Tryz.f156 (jj.inp.inj x).tm (jj.inp.inj x).hp (fnK jj Rl Q) (λ_ _=>False)=(U6).wpR Q:=by kernel_rfl
theorem aeQ (pre:Fm->Bool) (F:Fm->OT jj.Y) (hF:∀ (x:Fm) oy,pre x=true->(F x).run=some oy->(U6).run=some oy):ac Tryz.prog 156 (jj.aI pre F):=
 aD aq zJ aaT (f:=156) (fn:=Tryz.f156) (c:=aj Tryz.f156) (by kernel_rfl) (by kernel_rfl) (by kernel_rfl) (S:=jj) (k:=0) (by kernel_rfl) (λR hR=>af) (n:=1000) (sel:=Rl) (λv o h=>by cases h;rfl) (pre:=pre) (F:=F) (T:=λx=>U6) (λx Q=>aAV x Q) hF
def gE:List (List UInt8):= [[48,49,50,51,52,53,54,55,56,57,97,98,99,100,101,102],
 [101,97,52,56,57,102,100,54,49,99,48,50,98,55,53,51],
 [98,56,99,48,53,50,102,100,97,101,51,54,55,49,57,52],
 [55,57,51,49,100,99,98,101,50,54,53,97,52,48,102,56],
 [57,48,53,55,50,52,97,102,101,49,98,99,54,56,51,100],
 [50,99,54,97,48,98,56,51,52,100,55,53,102,101,49,57],
 [99,53,49,102,101,100,52,97,48,55,54,51,57,50,56,98],
 [100,98,55,101,99,49,51,57,53,48,102,52,56,54,50,97],
 [54,102,101,57,98,51,48,56,99,50,100,55,49,52,97,53],
 [97,50,56,52,55,54,49,53,102,98,57,101,51,99,100,48]]
def Rm (_:Fm):Bool:=true
def ako (_:Fm):OT jj.Y:=.ok ⟨Mn,((gE,()),())⟩
theorem avH:ac Tryz.prog 156 (jj.aI Rm ako):=aeQ _ _ λx oy _ ho=>ho
def zj:cj:=(jj.aI Rm ako)
theorem ZO:ac Tryz.prog 156 zj:=avH
theorem ZN:aG zj:=aA
def Dh:Env:=ay 156 zj Df
theorem zK:aR Tryz.prog Dh:=ag ZO zJ
theorem Dg:ax Dh:=ae ZN De
theorem aaU:aW Tryz.prog te Dh:=aK follows aq zK Dg
def ur:aw:=⟨[.ptr 0 0 0,.val false .int,.val false .int,.val false .int,.val false .int,.val false .u64,.val false .u64],[(0,.row .u64)],false,1,true⟩
abbrev aow:Type:=((Unit)×(Int)×(Int)×(Int)×(Int)×(UInt64)×(UInt64)×Unit)×((List (UInt64))×Unit)
def aeT:az:=⟨[],[(0,.row .u64)],false⟩
def akv:SV->Option az:=λ_=>some aeT
def avN (a1:Int) (a2:Int) (a3:Int) (a4:Int) (a5:UInt64) (a6:UInt64) (c0:List (UInt64)):OT ur.Y:=
 let z0:Bool:=inB a1 16
 let z1:Nat:=List.length c0
 let z2:Bool:=decide (Int.toNat a1+0<z1)
 let z3:Bool:=inB a2 16
 let z4:Bool:=inB a4 16
 let z5:List UInt64:=List.set c0 (Int.toNat a1+0) (List.getD c0 (Int.toNat a1+0) (0:UInt64)+(List.getD c0 (Int.toNat a2+0) (0:UInt64)+a5))
 let z6:Nat:=List.length z5
 let z7:Bool:=decide (Int.toNat a4+0<z6)
 let z8:Bool:=inB a3 16
 let z9:List UInt64:=List.set z5 (Int.toNat a4+0) (rotl (List.getD z5 (Int.toNat a4+0) (0:UInt64)^^^List.getD z5 (Int.toNat a1+0) (0:UInt64)) (-32:Int))
 let z10:Nat:=List.length z9
 let z11:Bool:=decide (Int.toNat a3+0<z10)
 let z12:List UInt64:=List.set z9 (Int.toNat a3+0) (List.getD z9 (Int.toNat a3+0) (0:UInt64)+List.getD z9 (Int.toNat a4+0) (0:UInt64))
 let z13:Nat:=List.length z12
 let z14:Bool:=decide (Int.toNat a2+0<z13)
 let z15:List UInt64:=List.set z12 (Int.toNat a2+0) (rotl (List.getD z12 (Int.toNat a2+0) (0:UInt64)^^^List.getD z12 (Int.toNat a3+0) (0:UInt64)) (-24:Int))
 let z16:Nat:=List.length z15
 let z17:Bool:=decide (Int.toNat a1+0<z16)
 let z18:List UInt64:=List.set z15 (Int.toNat a1+0) (List.getD z15 (Int.toNat a1+0) (0:UInt64)+(List.getD z15 (Int.toNat a2+0) (0:UInt64)+a6))
 let z19:Nat:=List.length z18
 let z20:Bool:=decide (Int.toNat a4+0<z19)
 let z21:List UInt64:=List.set z18 (Int.toNat a4+0) (rotl (List.getD z18 (Int.toNat a4+0) (0:UInt64)^^^List.getD z18 (Int.toNat a1+0) (0:UInt64)) (-16:Int))
 let z22:Nat:=List.length z21
 let z23:Bool:=decide (Int.toNat a3+0<z22)
 let z24:List UInt64:=List.set z21 (Int.toNat a3+0) (List.getD z21 (Int.toNat a3+0) (0:UInt64)+List.getD z21 (Int.toNat a4+0) (0:UInt64))
 let z25:Nat:=List.length z24
 let z26:Bool:=decide (Int.toNat a2+0<z25)
 (gd [z0,z2,z3,decide (Int.toNat a2+0<z1),z0,z2,z4,z7,z0,decide (Int.toNat a1+0<z6),z4,z7,z8,z11,z4,decide (Int.toNat a4+0<z10),z8,z11,z3,z14,z8,decide (Int.toNat a3+0<z13),z3,z14,z0,z17,z3,decide (Int.toNat a2+0<z16),z0,z17,z4,z20,z0,decide (Int.toNat a1+0<z19),z4,z20,z8,z23,z4,decide (Int.toNat a4+0<z22),z8,z23,z3,z26,z8,decide (Int.toNat a3+0<z25),z3,z26] (.ok ⟨aeT,((),(List.set z24 (Int.toNat a2+0) (rotl (List.getD z24 (Int.toNat a2+0) (0:UInt64)^^^List.getD z24 (Int.toNat a3+0) (0:UInt64)) (-63:Int)),()))⟩))
theorem aID (x:aow) (Q:ur.Y->Prop):wpf te Dh av 1000 Tryz.f159 (ur.inp.inj x).tm (ur.inp.inj x).hp (fnK ur akv Q) (λ_ _=>False)=(avN (x.1.2.1) (x.1.2.2.1) (x.1.2.2.2.1) (x.1.2.2.2.2.1) (x.1.2.2.2.2.2.1) (x.1.2.2.2.2.2.2.1) (x.2.1)).wpR Q:=by kernel_rfl
theorem avM (pre:aow->Bool) (F:aow->OT ur.Y) (hF:∀ (x:aow) oy,pre x=true->(F x).run=some oy->(avN (x.1.2.1) (x.1.2.2.1) (x.1.2.2.2.1) (x.1.2.2.2.2.1) (x.1.2.2.2.2.2.1) (x.1.2.2.2.2.2.2.1) (x.2.1)).run=some oy):ac Tryz.prog 159 (ur.aI pre F):=
 aD aq zK aaU (f:=159) (fn:=Tryz.f159) (c:=aj Tryz.f159) (by kernel_rfl) (by kernel_rfl) (by kernel_rfl) (S:=ur) (k:=1) (by kernel_rfl) (λR hR=>af) (n:=1000) (sel:=akv) (λv o h=>by cases h;rfl) (pre:=pre) (F:=F) (T:=λx=>avN (x.1.2.1) (x.1.2.2.1) (x.1.2.2.2.1) (x.1.2.2.2.2.1) (x.1.2.2.2.2.2.1) (x.1.2.2.2.2.2.2.1) (x.2.1)) (λx Q=>aID x Q) hF
def Bv (v:List UInt64) (a b c d:Nat) (x y:UInt64):List UInt64:=
 let v1:=v.set a (v.getD a 0+(v.getD b 0+x))
 let v2:=v1.set d (rotl (v1.getD d 0^^^v1.getD a 0) (-32))
 let v3:=v2.set c (v2.getD c 0+v2.getD d 0)
 let v4:=v3.set b (rotl (v3.getD b 0^^^v3.getD c 0) (-24))
 let v5:=v4.set a (v4.getD a 0+(v4.getD b 0+y))
 let v6:=v5.set d (rotl (v5.getD d 0^^^v5.getD a 0) (-16))
 let v7:=v6.set c (v6.getD c 0+v6.getD d 0)
 v7.set b (rotl (v7.getD b 0^^^v7.getD c 0) (-63))
theorem fU (v:List UInt64) (a b c d:Nat) (x y:UInt64):(Bv v a b c d x y).length=v.length:=by
 simp only [Bv,List.length_set]
def rl (x:aow):Bool:=inB x.1.2.1 16&&inB x.1.2.2.1 16&&inB x.1.2.2.2.1 16&&inB x.1.2.2.2.2.1 16&&decide (x.2.1.length=16)
def aCg (x:aow):OT ur.Y:=.ok ⟨aeT,((),(Bv x.2.1 x.1.2.1.toNat x.1.2.2.1.toNat x.1.2.2.2.1.toNat x.1.2.2.2.2.1.toNat x.1.2.2.2.2.2.1 x.1.2.2.2.2.2.2.1,()))⟩
theorem aGw:ac Tryz.prog 159 (ur.aI rl aCg):=avM _ _ λx oy hp ho=>by
 rw [<-ho]
 obtain ⟨⟨⟨⟩,a,b,c,d,x,y,⟨⟩⟩,⟨v,⟨⟩⟩⟩:=x
 simp only [rl,Bool.and_eq_true,decide_eq_true_eq] at hp
 obtain ⟨⟨⟨⟨ha,hb⟩,hc⟩,hd⟩,hv⟩:=hp
 have na:=xz ha
 have nb:=xz hb
 have nc:=xz hc
 have nd:=xz hd
 refine (ah ?_).trans rfl
 simp only [List.length_set,hv,ha,hb,hc,hd,Nat.add_zero,na,nb,nc,nd,decide_true,List.all_cons,List.all_nil,Bool.and_self]
def Mt:cj:=(ur.aI rl aCg)
theorem aov:ac Tryz.prog 159 Mt:=aGw
theorem aou:aG Mt:=aA
def aaX:Env:=ay 159 Mt Dh
theorem N4:aR Tryz.prog aaX:=ag aov zK
theorem N5:ax aaX:=ae aou Dg
theorem aoX:aW Tryz.prog te aaX:=aK follows aq N4 N5
def MC:aw:=⟨[.val false .int,.ptr 0 0 0,.ptr 1 0 0],[(0,.row .u64),(1,.cells [.val false .str])],false,2,true⟩
abbrev aGV:Type:=((Int)×(Unit)×(Unit)×Unit)×((List (UInt64))×((List UInt8)×Unit)×Unit)
def av5:az:=⟨[.val false .u64],[(0,.row .u64),(1,.cells [.val false .str])],false⟩
def av4:SV->Option az:=λ_=>some av5
def aGz (a0:Int) (c0:List (UInt64)) (c1_0:List UInt8):OT MC.Y:=
 let z0:Int:=nib (List.getD c1_0 (Int.toNat a0) (0:UInt8))
 (gd [inB a0 (List.length c1_0),inB z0 16,decide (Int.toNat z0+0<List.length c0)] (.ok ⟨av5,((List.getD c0 (Int.toNat z0+0) (0:UInt64),()),(c0,((c1_0,()),())))⟩))
theorem aJq (x:aGV) (Q:MC.Y->Prop):wpf te aaX av 1000 Tryz.f157 (MC.inp.inj x).tm (MC.inp.inj x).hp (fnK MC av4 Q) (λ_ _=>False)=(aGz (x.1.1) (x.2.1) (x.2.2.1.1)).wpR Q:=by kernel_rfl
theorem aBi (pre:aGV->Bool) (F:aGV->OT MC.Y) (hF:∀ (x:aGV) oy,pre x=true->(F x).run=some oy->(aGz (x.1.1) (x.2.1) (x.2.2.1.1)).run=some oy):ac Tryz.prog 157 (MC.aI pre F):=
 aD aq N4 aoX (f:=157) (fn:=Tryz.f157) (c:=aj Tryz.f157) (by kernel_rfl) (by kernel_rfl) (by kernel_rfl) (S:=MC) (k:=2) (by kernel_rfl) (λR hR=>af) (n:=1000) (sel:=av4) (λv o h=>by cases h;rfl) (pre:=pre) (F:=F) (T:=λx=>aGz (x.1.1) (x.2.1) (x.2.2.1.1)) (λx Q=>aJq x Q) hF
def atF (m:List UInt64) (row:List UInt8) (i:Int):UInt64:=m.getD (nib (row.getD i.toNat 0)).toNat 0
def rq (x:aGV):Bool:=inB x.1.1 x.2.2.1.1.length&&inB (nib (x.2.2.1.1.getD x.1.1.toNat 0)) 16&&decide (x.2.1.length=16)
def aIF (x:aGV):OT MC.Y:=.ok ⟨av5,((atF x.2.1 x.2.2.1.1 x.1.1,()),(x.2.1,((x.2.2.1.1,()),())))⟩
theorem aIE:ac Tryz.prog 157 (MC.aI rq aIF):=aBi _ _ λx oy hp ho=>by
 rw [<-ho]
 obtain ⟨⟨i,⟨⟩,⟨⟩,⟨⟩⟩,⟨m,⟨row,⟨⟩⟩,⟨⟩⟩⟩:=x
 simp only [rq,Bool.and_eq_true,decide_eq_true_eq] at hp
 obtain ⟨⟨h1,h2⟩,h3⟩:=hp
 have n2:=xz h2
 refine (ah ?_).trans rfl
 simp only [h1,h2,h3,Nat.add_zero,n2,decide_true,List.all_cons,List.all_nil,Bool.and_self]
def Vh:cj:=(MC.aI rq aIF)
theorem av6:ac Tryz.prog 157 Vh:=aIE
theorem av3:aG Vh:=aA
def OW:Env:=ay 157 Vh aaX
theorem nL:aR Tryz.prog OW:=ag av6 N4
theorem RV:ax OW:=ae av3 N5
theorem pX:aW Tryz.prog te OW:=aK follows aq nL RV
def mB:aw:=⟨[.val true (.arr 8 .u64),.val true (.arr 128 .u8),.val false .u64,.val false .bool],[],true,0,false⟩
abbrev Rw:Type:=((List (UInt64))×(List (UInt8))×(UInt64)×(Bool)×Unit)×(Unit)
def Cb:Shape:=⟨127,[(4,.ptr 0 0 0),(5,.ptr 1 0 0),(8,.ptr 2 0 0),(9,.ptr 3 0 0),(11,.ptr 4 0 0),(37,.val false .int)],[(0,.row .u64),(1,.row .u8),(2,.row .u64),(3,.row .u64),(4,.row .u64)],0,true⟩
abbrev cY:Type:=((Unit)×(Unit)×(Unit)×(Unit)×(Unit)×(Int)×Unit)×((List (UInt64))×(List (UInt8))×(List (UInt64))×(List (UInt64))×(List (UInt64))×Unit)
def wL:Shape:=⟨127,[(4,.ptr 0 0 0),(8,.ptr 1 0 0),(9,.ptr 2 0 0),(11,.ptr 3 0 0)],[(0,.row .u64),(1,.row .u64),(2,.row .u64),(3,.row .u64)],0,true⟩
abbrev mA:Type:=((Unit)×(Unit)×(Unit)×(Unit)×Unit)×((List (UInt64))×(List (UInt64))×(List (UInt64))×(List (UInt64))×Unit)
def akE:SE->Option Shape:=fw [(0,wL)] none
def aBg (a37:Int) (c0:List (UInt64)) (c1:List (UInt8)) (c2:List (UInt64)) (c3:List (UInt64)) (c4:List (UInt64)):OT (Sum cY aE):=
 let z0:Bool:=inR ((8:Int)*a37)
 let z1:List UInt8:=List.take (Int.toNat ((8:Int)*a37+(8:Int)-(8:Int)*a37)) (List.drop (Int.toNat ((8:Int)*a37)) c1)
 (.br (decide (a37<(16:Int)))
 (gd [z0,z0,inR ((8:Int)*a37+(8:Int)),decide (128<=List.length c1)&&dz ((8:Int)*a37) ((8:Int)*a37+(8:Int)) 128,mn ((z1,()),()),inB a37 16,decide (Int.toNat a37+0<List.length c4),inR (a37+(1:Int))] (.ok (.inl (((),((),((),((),((),(a37+(1:Int),())))))),(c0,(c1,(c2,(c3,(List.set c4 (Int.toNat a37+0) (kB z1 (List.length z1)),())))))))))
 (.ok (.inr ⟨(.exit 0,wL),(((),((),((),((),())))),(c0,(c2,(c3,(c4,())))))⟩)))
def Cg (s:cY):OT (Sum cY aE):=aBg (s.1.2.2.2.2.2.1) (s.2.1) (s.2.2.1) (s.2.2.2.1) (s.2.2.2.2.1) (s.2.2.2.2.2.1)
theorem aA5 (s:cY) (Q:Sum cY aE->Prop):wps te OW av 1000 (aU (aj Tryz.f146) 0) (Cb.inj s) (bX Cb akE (Q:Sum Cb.T aE->Prop))=(Cg s).wpR Q:=by kernel_rfl
def Iy (g0_0:cY->mA) (s:cY):OT aE:=(.ok ⟨(.exit 0,wL),g0_0 s⟩)
def Ca:Shape:=⟨127,[(4,.ptr 0 0 0),(8,.ptr 1 0 0),(9,.ptr 2 0 0),(11,.ptr 3 0 0),(13,.ptr 4 0 0),(51,.val false .int)],[(0,.row .u64),(1,.row .u64),(2,.row .u64),(3,.row .u64),(4,.row .str)],0,true⟩
abbrev cX:Type:=((Unit)×(Unit)×(Unit)×(Unit)×(Unit)×(Int)×Unit)×((List (UInt64))×(List (UInt64))×(List (UInt64))×(List (UInt64))×(List (List UInt8))×Unit)
def B9:Shape:=⟨127,[(4,.ptr 0 0 0),(8,.ptr 1 0 0),(9,.ptr 2 0 0),(11,.ptr 3 0 0),(13,.ptr 4 0 0),(16,.fn 157 [3,5]),(51,.val false .int),(59,.val false .int)],[(0,.row .u64),(1,.row .u64),(2,.row .u64),(3,.row .u64),(4,.row .str),(5,.cells [.val false .str])],0,true⟩
abbrev cd:Type:=((Unit)×(Unit)×(Unit)×(Unit)×(Unit)×(Unit)×(Int)×(Int)×Unit)×((List (UInt64))×(List (UInt64))×(List (UInt64))×(List (UInt64))×(List (List UInt8))×((List UInt8)×Unit)×Unit)
def wJ:Shape:=⟨127,[(4,.ptr 0 0 0),(8,.ptr 1 0 0),(9,.ptr 2 0 0),(11,.ptr 3 0 0),(13,.ptr 4 0 0),(16,.fn 157 [3,5]),(51,.val false .int)],[(0,.row .u64),(1,.row .u64),(2,.row .u64),(3,.row .u64),(4,.row .str),(5,.cells [.val false .str])],0,true⟩
abbrev fY:Type:=((Unit)×(Unit)×(Unit)×(Unit)×(Unit)×(Unit)×(Int)×Unit)×((List (UInt64))×(List (UInt64))×(List (UInt64))×(List (UInt64))×(List (List UInt8))×((List UInt8)×Unit)×Unit)
def akC:SE->Option Shape:=fw [(4,wJ)] none
def aBe (a51:Int) (a59:Int) (c0:List (UInt64)) (c1:List (UInt64)) (c2:List (UInt64)) (c3:List (UInt64)) (c4:List (List UInt8)) (c5_0:List UInt8):OT (Sum cd aE):=
 let z0:Bool:=inR ((2:Int)*a59)
 let z1:PUnit×PUnit×PUnit:=((),(),())
 let z2:List UInt64×(List UInt8×PUnit)×PUnit:=(c3,(c5_0,()),())
 let z3:UInt64:=atF c3 c5_0 ((2:Int)*a59)
 let z4:UInt64:=atF c3 c5_0 ((2:Int)*a59+(1:Int))
 (.br (decide (a59<(4:Int)))
 (gd [inR ((4:Int)+a59),inR ((8:Int)+a59),inR ((12:Int)+a59),z0,rq (((2:Int)*a59,z1),z2),z0,inR ((2:Int)*a59+(1:Int)),rq (((2:Int)*a59+(1:Int),z1),z2),rl (((),a59,(4:Int)+a59,(8:Int)+a59,(12:Int)+a59,z3,z4,()),c2,()),inR (a59+(1:Int))] (.ok (.inl (((),((),((),((),((),((),(a51,(a59+(1:Int),())))))))),(c0,(c1,(Bv c2 (Int.toNat a59) (Int.toNat ((4:Int)+a59)) (Int.toNat ((8:Int)+a59)) (Int.toNat ((12:Int)+a59)) z3 z4,(c3,(c4,((c5_0,()),()))))))))))
 (.ok (.inr ⟨(.exit 4,wJ),(((),((),((),((),((),((),(a51,()))))))),(c0,(c1,(c2,(c3,(c4,((c5_0,()),())))))))⟩)))
def Ce (s:cd):OT (Sum cd aE):=aBe (s.1.2.2.2.2.2.2.1) (s.1.2.2.2.2.2.2.2.1) (s.2.1) (s.2.2.1) (s.2.2.2.1) (s.2.2.2.2.1) (s.2.2.2.2.2.1) (s.2.2.2.2.2.2.1.1)
theorem aA3 (s:cd) (Q:Sum cd aE->Prop):wps te OW av 1000 (aU (aU (aj Tryz.f146) 2) 4) (B9.inj s) (bX B9 akC (Q:Sum B9.T aE->Prop))=(Ce s).wpR Q:=by kernel_rfl
def Iw (g4_4:cd->fY) (s:cd):OT aE:=(.ok ⟨(.exit 4,wJ),g4_4 s⟩)
def B8:Shape:=⟨127,[(4,.ptr 0 0 0),(8,.ptr 1 0 0),(9,.ptr 2 0 0),(11,.ptr 3 0 0),(13,.ptr 4 0 0),(16,.fn 157 [3,5]),(51,.val false .int),(80,.val false .int)],[(0,.row .u64),(1,.row .u64),(2,.row .u64),(3,.row .u64),(4,.row .str),(5,.cells [.val false .str])],0,true⟩
abbrev cc:Type:=((Unit)×(Unit)×(Unit)×(Unit)×(Unit)×(Unit)×(Int)×(Int)×Unit)×((List (UInt64))×(List (UInt64))×(List (UInt64))×(List (UInt64))×(List (List UInt8))×((List UInt8)×Unit)×Unit)
def wI:Shape:=⟨127,[(4,.ptr 0 0 0),(8,.ptr 1 0 0),(9,.ptr 2 0 0),(11,.ptr 3 0 0),(13,.ptr 4 0 0),(51,.val false .int)],[(0,.row .u64),(1,.row .u64),(2,.row .u64),(3,.row .u64),(4,.row .str)],0,true⟩
abbrev fX:Type:=((Unit)×(Unit)×(Unit)×(Unit)×(Unit)×(Int)×Unit)×((List (UInt64))×(List (UInt64))×(List (UInt64))×(List (UInt64))×(List (List UInt8))×Unit)
def akB:SE->Option Shape:=fw [(6,wI)] none
def aBd (a51:Int) (a80:Int) (c0:List (UInt64)) (c1:List (UInt64)) (c2:List (UInt64)) (c3:List (UInt64)) (c4:List (List UInt8)) (c5_0:List UInt8):OT (Sum cc aE):=
 let z0:Bool:=inR (a80+(1:Int))
 let z1:Int:=(4:Int)+Int.tmod (a80+(1:Int)) (4:Int)
 let z2:Int:=(8:Int)+Int.tmod (a80+(2:Int)) (4:Int)
 let z3:Int:=(12:Int)+Int.tmod (a80+(3:Int)) (4:Int)
 let z4:Bool:=inR ((2:Int)*a80)
 let z5:PUnit×PUnit×PUnit:=((),(),())
 let z6:List UInt64×(List UInt8×PUnit)×PUnit:=(c3,(c5_0,()),())
 let z7:UInt64:=atF c3 c5_0 ((8:Int)+(2:Int)*a80)
 let z8:UInt64:=atF c3 c5_0 ((9:Int)+(2:Int)*a80)
 (.br (decide (a80<(4:Int)))
 (gd [z0,inR z1,inR (a80+(2:Int)),inR z2,inR (a80+(3:Int)),inR z3,z4,inR ((8:Int)+(2:Int)*a80),rq (((8:Int)+(2:Int)*a80,z5),z6),z4,inR ((9:Int)+(2:Int)*a80),rq (((9:Int)+(2:Int)*a80,z5),z6),rl (((),a80,z1,z2,z3,z7,z8,()),c2,()),z0] (.ok (.inl (((),((),((),((),((),((),(a51,(a80+(1:Int),())))))))),(c0,(c1,(Bv c2 (Int.toNat a80) (Int.toNat z1) (Int.toNat z2) (Int.toNat z3) z7 z8,(c3,(c4,((c5_0,()),()))))))))))
 (.ok (.inr ⟨(.exit 6,wI),(((),((),((),((),((),(a51,())))))),(c0,(c1,(c2,(c3,(c4,()))))))⟩)))
def Cd (s:cc):OT (Sum cc aE):=aBd (s.1.2.2.2.2.2.2.1) (s.1.2.2.2.2.2.2.2.1) (s.2.1) (s.2.2.1) (s.2.2.2.1) (s.2.2.2.2.1) (s.2.2.2.2.2.1) (s.2.2.2.2.2.2.1.1)
theorem aA2 (s:cc) (Q:Sum cc aE->Prop):wps te OW av 1000 (aU (aU (aj Tryz.f146) 2) 6) (B8.inj s) (bX B8 akB (Q:Sum B8.T aE->Prop))=(Cd s).wpR Q:=by kernel_rfl
def Iv (g6_6:cc->fX) (s:cc):OT aE:=(.ok ⟨(.exit 6,wI),g6_6 s⟩)
def wK:Shape:=⟨127,[(4,.ptr 0 0 0),(8,.ptr 1 0 0),(9,.ptr 2 0 0)],[(0,.row .u64),(1,.row .u64),(2,.row .u64)],0,true⟩
abbrev mz:Type:=((Unit)×(Unit)×(Unit)×Unit)×((List (UInt64))×(List (UInt64))×(List (UInt64))×Unit)
def akD:SE->Option Shape:=fw [(2,wK)] none
def aBf (ok4:cd->Bool) (g4_4:cd->fY) (ok6:cc->Bool) (g6_6:cc->fX) (a51:Int) (c0:List (UInt64)) (c1:List (UInt64)) (c2:List (UInt64)) (c3:List (UInt64)) (c4:List (List UInt8)):OT (Sum cX aE):=
 let z0:Int:=Int.tmod a51 (10:Int)
 let z1:(PUnit×PUnit×PUnit×PUnit×PUnit×PUnit×Int×Int×PUnit)×List UInt64×List UInt64×List UInt64×List UInt64×List (List UInt8)×(List UInt8×PUnit)×PUnit:=(((),(),(),(),(),(),a51,(0:Int),()),c0,c1,c2,c3,c4,(List.getD c4 (Int.toNat z0+0) [],()),())
 let z2:(PUnit×PUnit×PUnit×PUnit×PUnit×PUnit×Int×PUnit)×List UInt64×List UInt64×List UInt64×List UInt64×List (List UInt8)×(List UInt8×PUnit)×PUnit:=g4_4 z1
 let z3:=z2.snd
 let z4:=z3.snd
 let z5:=z4.snd
 let z6:=z5.snd
 let z7:=z6.snd
 let z8:(PUnit×PUnit×PUnit×PUnit×PUnit×PUnit×Int×Int×PUnit)×List UInt64×List UInt64×List UInt64×List UInt64×List (List UInt8)×(List UInt8×PUnit)×PUnit:=(((),(),(),(),(),(),z2.fst.snd.snd.snd.snd.snd.snd.fst,(0:Int),()),z3.fst,z4.fst,z5.fst,z6.fst,z7.fst,(z7.snd.fst.fst,()),())
 let z9:(PUnit×PUnit×PUnit×PUnit×PUnit×Int×PUnit)×List UInt64×List UInt64×List UInt64×List UInt64×List (List UInt8)×PUnit:=g6_6 z8
 let z10:=z9.snd
 let z11:=z10.snd
 let z12:=z11.snd
 let z13:=z12.snd
 (.br (decide (a51<(12:Int)))
 (gd [inB z0 10,decide (Int.toNat z0+0<List.length c4),ok4 z1,ok6 z8,inR (z9.fst.snd.snd.snd.snd.snd.fst+(1:Int))] (.ok (.inl (((),((),((),((),((),(z9.fst.snd.snd.snd.snd.snd.fst+(1:Int),())))))),(z10.fst,(z11.fst,(z12.fst,(z13.fst,(z13.snd.fst,())))))))))
 (.ok (.inr ⟨(.exit 2,wK),(((),((),((),()))),(c0,(c1,(c2,()))))⟩)))
def Cf (ok4:cd->Bool) (g4_4:cd->fY) (ok6:cc->Bool) (g6_6:cc->fX) (s:cX):OT (Sum cX aE):=aBf ok4 g4_4 ok6 g6_6 (s.1.2.2.2.2.2.1) (s.2.1) (s.2.2.1) (s.2.2.2.1) (s.2.2.2.2.1) (s.2.2.2.2.2.1)
theorem aA4 (ok4:cd->Bool) (g4_4:cd->fY) (ok6:cc->Bool) (g6_6:cc->fX) (s:cX) (Q:Sum cX aE->Prop):wps te OW (aO 6 (cg B8 6 ok6 (Iv g6_6)) (aO 4 (cg B9 4 ok4 (Iw g4_4)) av)) 1000 (aU (aj Tryz.f146) 2) (Ca.inj s) (bX Ca akD (Q:Sum Ca.T aE->Prop))=(Cf ok4 g4_4 ok6 g6_6 s).wpR Q:=by kernel_rfl
def Ix (g2_2:cX->mz) (s:cX):OT aE:=(.ok ⟨(.exit 2,wK),g2_2 s⟩)
def B7:Shape:=⟨127,[(4,.ptr 0 0 0),(8,.ptr 1 0 0),(9,.ptr 2 0 0),(109,.val false .int)],[(0,.row .u64),(1,.row .u64),(2,.row .u64)],0,true⟩
abbrev cW:Type:=((Unit)×(Unit)×(Unit)×(Int)×Unit)×((List (UInt64))×(List (UInt64))×(List (UInt64))×Unit)
def wH:Shape:=⟨127,[(4,.ptr 0 0 0),(8,.ptr 1 0 0)],[(0,.row .u64),(1,.row .u64)],0,true⟩
abbrev my:Type:=((Unit)×(Unit)×Unit)×((List (UInt64))×(List (UInt64))×Unit)
def akA:SE->Option Shape:=fw [(8,wH)] none
def aBc (a109:Int) (c0:List (UInt64)) (c1:List (UInt64)) (c2:List (UInt64)):OT (Sum cW aE):=
 let z0:Bool:=inB a109 8
 let z1:Bool:=decide (Int.toNat a109+0<List.length c0)
 let z2:Nat:=List.length c2
 (.br (decide (a109<(8:Int)))
 (gd [z0,z1,inB a109 16,decide (Int.toNat a109+0<z2),inR (a109+(8:Int)),inB (a109+(8:Int)) 16,decide (Int.toNat (a109+(8:Int))+0<z2),z0,z1,inR (a109+(1:Int))] (.ok (.inl (((),((),((),(a109+(1:Int),())))),(List.set c0 (Int.toNat a109+0) (List.getD c0 (Int.toNat a109+0) (0:UInt64)^^^(List.getD c2 (Int.toNat a109+0) (0:UInt64)^^^List.getD c2 (Int.toNat (a109+(8:Int))+0) (0:UInt64))),(c1,(c2,())))))))
 (.ok (.inr ⟨(.exit 8,wH),(((),((),())),(c0,(c1,())))⟩)))
def Cc (s:cW):OT (Sum cW aE):=aBc (s.1.2.2.2.1) (s.2.1) (s.2.2.1) (s.2.2.2.1)
theorem aA1 (s:cW) (Q:Sum cW aE->Prop):wps te OW av 1000 (aU (aj Tryz.f146) 8) (B7.inj s) (bX B7 akA (Q:Sum B7.T aE->Prop))=(Cc s).wpR Q:=by kernel_rfl
def Iu (g8_8:cW->my) (s:cW):OT aE:=(.ok ⟨(.exit 8,wH),g8_8 s⟩)
def It:az:=⟨[.val true (.arr 8 .u64)],[],false⟩
def aad:SV->Option az:=λ_=>some It
def ae7 (ok0:cY->Bool) (g0_0:cY->mA) (ok4:cd->Bool) (g4_4:cd->fY) (ok6:cc->Bool) (g6_6:cc->fX) (ok2:cX->Bool) (g2_2:cX->mz) (ok8:cW->Bool) (g8_8:cW->my) (a0:List (UInt64)) (a1:List (UInt8)) (a2:UInt64) (a3:Bool):OT mB.Y:=
 let z0:PUnit×PUnit×PUnit×PUnit×PUnit×Int×PUnit:=((),(),(),(),(),(0:Int),())
 let z1:List UInt64:=tab a0 8 (0:UInt64)
 let z2:List UInt8:=tab a1 128 (0:UInt8)
 let z3:List UInt64:= []++(List.take 8 z1++List.drop (0+min (List.length z1) 8) [(0:UInt64),(0:UInt64),(0:UInt64),(0:UInt64),(0:UInt64),(0:UInt64),(0:UInt64),(0:UInt64),(0:UInt64),(0:UInt64),(0:UInt64),(0:UInt64),(0:UInt64),(0:UInt64),(0:UInt64),(0:UInt64)])
 let z4:List UInt64:=List.take 8 z3++([(7640891576956012808:UInt64),(13503953896175478587:UInt64),(4354685564936845355:UInt64),(11912009170470909681:UInt64),(5840696475078001361:UInt64),(11170449401992604703:UInt64),(2270897969802886507:UInt64),(6620516959819538809:UInt64)]++List.drop 16 z3)
 let z5:List UInt64:=List.set z4 12 (List.getD z4 12 0^^^a2)
 let z6:List UInt64×PUnit:=([(0:UInt64),(0:UInt64),(0:UInt64),(0:UInt64),(0:UInt64),(0:UInt64),(0:UInt64),(0:UInt64),(0:UInt64),(0:UInt64),(0:UInt64),(0:UInt64),(0:UInt64),(0:UInt64),(0:UInt64),(0:UInt64)],())
 let z7:(PUnit×PUnit×PUnit×PUnit×PUnit×Int×PUnit)×List UInt64×List UInt8×List UInt64×List UInt64×List UInt64×PUnit:=(z0,z1,z2,[(0:UInt64),(0:UInt64),(0:UInt64),(0:UInt64),(0:UInt64),(0:UInt64),(0:UInt64),(0:UInt64)],List.set z5 14 (~~~List.getD z5 14 0),z6)
 let z8:PUnit×PUnit×PUnit×PUnit×PUnit×Int×PUnit:=((),(),(),(),(),(0:Int),())
 let z9:=(g0_0 z7).snd
 let z10:=z9.snd
 let z11:=z10.snd
 let z12:List (List UInt8)×PUnit:=([List.getD gE 0 [],List.getD gE 1 [],List.getD gE 2 [],List.getD gE 3 [],List.getD gE 4 [],List.getD gE 5 [],List.getD gE 6 [],List.getD gE 7 [],List.getD gE 8 [],List.getD gE 9 []],())
 let z13:(PUnit×PUnit×PUnit×PUnit×PUnit×Int×PUnit)×List UInt64×List UInt64×List UInt64×List UInt64×List (List UInt8)×PUnit:=(z8,z9.fst,z10.fst,z11.fst,z11.snd.fst,z12)
 let z14:PUnit×PUnit×PUnit×Int×PUnit:=((),(),(),(0:Int),())
 let z15:=(g2_2 z13).snd
 let z16:=z15.snd
 let z17:(PUnit×PUnit×PUnit×Int×PUnit)×List UInt64×List UInt64×List UInt64×PUnit:=(z14,z15.fst,z16.fst,z16.snd.fst,())
 let z18:=(g8_8 z17).snd
 let z19:=z18.fst
 let z20:=z18.snd.fst
 let z21:List UInt64:=lay z20 z19 8 (0:UInt64)
 let z22:(PUnit×PUnit×PUnit×PUnit×PUnit×Int×PUnit)×List UInt64×List UInt8×List UInt64×List UInt64×List UInt64×PUnit:=(z0,z1,z2,[(0:UInt64),(0:UInt64),(0:UInt64),(0:UInt64),(0:UInt64),(0:UInt64),(0:UInt64),(0:UInt64)],z5,z6)
 let z23:=(g0_0 z22).snd
 let z24:=z23.snd
 let z25:=z24.snd
 let z26:(PUnit×PUnit×PUnit×PUnit×PUnit×Int×PUnit)×List UInt64×List UInt64×List UInt64×List UInt64×List (List UInt8)×PUnit:=(z8,z23.fst,z24.fst,z25.fst,z25.snd.fst,z12)
 let z27:=(g2_2 z26).snd
 let z28:=z27.snd
 let z29:(PUnit×PUnit×PUnit×Int×PUnit)×List UInt64×List UInt64×List UInt64×PUnit:=(z14,z27.fst,z28.fst,z28.snd.fst,())
 let z30:=(g8_8 z29).snd
 let z31:=z30.fst
 let z32:=z30.snd.fst
 let z33:List UInt64:=lay z32 z31 8 (0:UInt64)
 (.br (a3)
 (gd [ok0 z7,ok2 z13,ok8 z17,decide (8<=List.length z19),decide ((8/1:Nat)+0<=List.length z20),decide (8<=List.length z21)] (.ok ⟨It,((tab z21 8 (0:UInt64),()),())⟩))
 (gd [ok0 z22,ok2 z26,ok8 z29,decide (8<=List.length z31),decide ((8/1:Nat)+0<=List.length z32),decide (8<=List.length z33)] (.ok ⟨It,((tab z33 8 (0:UInt64),()),())⟩)))
theorem aGy (ok0:cY->Bool) (g0_0:cY->mA) (ok4:cd->Bool) (g4_4:cd->fY) (ok6:cc->Bool) (g6_6:cc->fX) (ok2:cX->Bool) (g2_2:cX->mz) (ok8:cW->Bool) (g8_8:cW->my) (x:Rw) (Q:mB.Y->Prop):wpf te OW (aO 8 (cg B7 8 ok8 (Iu g8_8)) (aO 2 (cg Ca 2 ok2 (Ix g2_2)) (aO 0 (cg Cb 0 ok0 (Iy g0_0)) av))) 1000 Tryz.f146 (mB.inp.inj x).tm (mB.inp.inj x).hp (fnK mB aad Q) (λ_ _=>False)=(ae7 ok0 g0_0 ok4 g4_4 ok6 g6_6 ok2 g2_2 ok8 g8_8 (x.1.1) (x.1.2.1) (x.1.2.2.1) (x.1.2.2.2.1)).wpR Q:=by kernel_rfl
theorem aoz (ok0:cY->Bool) (g0_0:cY->mA) (ok4:cd->Bool) (g4_4:cd->fY) (ok6:cc->Bool) (g6_6:cc->fX) (ok2:cX->Bool) (g2_2:cX->mz) (ok8:cW->Bool) (g8_8:cW->my) (h0:∀ s:cY,ok0 s=true->∃ m e,ao (Cg) m s=some e/\(Iy g0_0 s).run=some e) (h4:∀ s:cd,ok4 s=true->∃ m e,ao (Ce) m s=some e/\(Iw g4_4 s).run=some e) (h6:∀ s:cc,ok6 s=true->∃ m e,ao (Cd) m s=some e/\(Iv g6_6 s).run=some e) (h2:∀ s:cX,ok2 s=true->∃ m e,ao (Cf ok4 g4_4 ok6 g6_6) m s=some e/\(Ix g2_2 s).run=some e) (h8:∀ s:cW,ok8 s=true->∃ m e,ao (Cc) m s=some e/\(Iu g8_8 s).run=some e) (pre:Rw->Bool) (F:Rw->OT mB.Y) (hF:∀ (x:Rw) oy,pre x=true->(F x).run=some oy->(ae7 ok0 g0_0 ok4 g4_4 ok6 g6_6 ok2 g2_2 ok8 g8_8 (x.1.1) (x.1.2.1) (x.1.2.2.1) (x.1.2.2.2.1)).run=some oy):ac Tryz.prog 146 (mB.aI pre F):=
 aD aq nL pX (f:=146) (fn:=Tryz.f146) (c:=aj Tryz.f146) (by kernel_rfl) (by kernel_rfl) (by kernel_rfl) (S:=mB) (k:=0) (by kernel_rfl) (λR hR=>(aB (c:=(aj Tryz.f146)) (by kernel_rfl) (id:=8) (by kernel_rfl) (aQ aq nL pX (sh:=B7) hR (xs:=akA) (aC (by kernel_rfl) (by kernel_rfl) hR) aL af (n:=1000) (T:=Cc) (λs Q=>aA1 s Q) (ok:=ok8) (f:=Iu g8_8) h8) (aB (c:=(aj Tryz.f146)) (by kernel_rfl) (id:=2) (by kernel_rfl) (aQ aq nL pX (sh:=Ca) hR (xs:=akD) (aC (by kernel_rfl) (by kernel_rfl) hR) aL (aB (c:=(aU (aj Tryz.f146) 2)) (by kernel_rfl) (id:=6) (by kernel_rfl) (aQ aq nL pX (sh:=B8) hR (xs:=akB) (aC (by kernel_rfl) (by kernel_rfl) hR) aL af (n:=1000) (T:=Cd) (λs Q=>aA2 s Q) (ok:=ok6) (f:=Iv g6_6) h6) (aB (c:=(aU (aj Tryz.f146) 2)) (by kernel_rfl) (id:=4) (by kernel_rfl) (aQ aq nL pX (sh:=B9) hR (xs:=akC) (aC (by kernel_rfl) (by kernel_rfl) hR) aL af (n:=1000) (T:=Ce) (λs Q=>aA3 s Q) (ok:=ok4) (f:=Iw g4_4) h4) af)) (n:=1000) (T:=Cf ok4 g4_4 ok6 g6_6) (λs Q=>aA4 ok4 g4_4 ok6 g6_6 s Q) (ok:=ok2) (f:=Ix g2_2) h2) (aB (c:=(aj Tryz.f146)) (by kernel_rfl) (id:=0) (by kernel_rfl) (aQ aq nL pX (sh:=Cb) hR (xs:=akE) (aC (by kernel_rfl) (by kernel_rfl) hR) aL af (n:=1000) (T:=Cg) (λs Q=>aA5 s Q) (ok:=ok0) (f:=Iy g0_0) h0) af)))) (n:=1000) (sel:=aad) (λv o h=>by cases h;rfl) (pre:=pre) (F:=F) (T:=λx=>ae7 ok0 g0_0 ok4 g4_4 ok6 g6_6 ok2 g2_2 ok8 g8_8 (x.1.1) (x.1.2.1) (x.1.2.2.1) (x.1.2.2.2.1)) (λx Q=>aGy ok0 g0_0 ok4 g4_4 ok6 g6_6 ok2 g2_2 ok8 g8_8 x Q) hF
def apc (b:List UInt8) (i:Nat):UInt64:=kB ((b.drop (8*i)).take 8) 8
def qc (b:List UInt8):List UInt64:=upto (λk m=>m.set k (apc b k)) (List.replicate 16 0) 16
def So (row:List UInt8):Bool:=decide (row.length=16)&&(List.range 16).all λi=>inB (nib (row.getD i 0)) 16
theorem aq4 {row:List UInt8} (h:So row=true) {i:Nat} (hi:i<16):inB (nib (row.getD i 0)) 16=true:=by
 simp only [So,Bool.and_eq_true,List.all_eq_true] at h
 exact h.2 i (by simpa using hi)
theorem wM {m:List UInt64} {row:List UInt8} (hm:m.length=16) (hr:So row=true) {i:Int} (h0:0<=i) (h1:i<16) (u:Unit×Unit×Unit) (u2:Unit) (u3:Unit):rq ((i,u),(m,((row,u2),u3)))=true:=by
 have hl:row.length=16:=by
  simp only [So,Bool.and_eq_true,decide_eq_true_eq] at hr
  exact hr.1
 have:=aq4 hr (i:=i.toNat) (by omega)
 simp only [rq,Bool.and_eq_true,decide_eq_true_eq]
 exact ⟨⟨aN (by omega),this⟩,hm⟩
theorem Mu {v:List UInt64} (hv:v.length=16) {a b c d:Int} (ha:0<=a/\a<16) (hb:0<=b/\b<16) (hc:0<=c/\c<16) (hd:0<=d/\d<16) (x y:UInt64) (u1 u2 u3:Unit):rl ((u1,a,b,c,d,x,y,u2),(v,u3))=true:=by
 simp only [rl,Bool.and_eq_true,decide_eq_true_eq]
 exact ⟨⟨⟨⟨aN ha,aN hb⟩,aN hc⟩,aN hd⟩,hv⟩
def MB (s:cY):Bool:=decide (s.1.2.2.2.2.2.1=0/\s.2.2.1.length=128/\s.2.2.2.2.2.1=List.replicate 16 0)
def wG (s:cY):mA:=(((),(),(),(),()),(s.2.1,s.2.2.2.1,s.2.2.2.2.1,qc s.2.2.1,()))
theorem aBb:∀ s:cY,MB s=true->∃ m e,ao Cg m s=some e/\(Iy wG s).run=some e:=by
 rintro ⟨⟨⟨⟩,⟨⟩,⟨⟩,⟨⟩,⟨⟩,i,⟨⟩⟩,⟨c0,c1,c2,c3,c4,⟨⟩⟩⟩ h
 have h':=of_decide_eq_true h
 dsimp only at h'
 obtain ⟨rfl,hl,rfl⟩:=h'
 have:=(aP (T:=Cg) (λk m=>((((),(),(),(),(),(k:Int),()),(c0,c1,c2,c3,m,())):cY)) (λk m=>m.set k (apc c1 k))
  (λm=>(⟨(.exit 0,wL),(((),(),(),(),()),(c0,c2,c3,m,()))⟩:aE)) 16 (List.replicate 16 0) (λ_ m=>m.length=16) (by simp) (λk m hk hm=>⟨?_,by rw [List.length_set];exact hm⟩) (λm hm=> ?_)).1
 ·obtain ⟨n,hn⟩:=this
  exact ⟨n,_,hn,rfl⟩
 ·have e1:(8*(k:Int)+8-8*(k:Int)).toNat=8:=by omega
  have e2:(8*(k:Int)).toNat=8*k:=by omega
  have hw:((c1.drop (8*k)).take 8).length=8:=by simp;omega
  refine (OT.ap (decide_eq_true (by dsimp only;omega))).trans ((ah ?_).trans ?_)
  ·simp only [e1,e2,hl,hm,List.all_cons,List.all_nil,Bool.and_true,Bool.and_eq_true]
   refine ⟨aH (by omega),aH (by omega),aH (by omega),⟨by decide,fv (by omega)⟩,?_,aN (by omega),decide_eq_true (by omega),aH (by omega)⟩
   simp only [mn,hw]
   decide
  ·simp only [OT.cL,e1,e2,hw,Nat.add_zero]
   rfl
 ·exact OT.ar (decide_eq_false (by dsimp only;omega))
def Yw (m:List UInt64) (row:List UInt8) (v:List UInt64):List UInt64:=upto (λk v=>Bv v k (4+k) (8+k) (12+k) (atF m row (2*(k:Int))) (atF m row (2*(k:Int)+1))) v 4
def Yv (m:List UInt64) (row:List UInt8) (v:List UInt64):List UInt64:=upto (λk v=>Bv v k (4+(k+1)%4) (8+(k+2)%4) (12+(k+3)%4) (atF m row (8+2*(k:Int))) (atF m row (9+2*(k:Int)))) v 4
theorem nq (m:List UInt64) (row:List UInt8) (v:List UInt64):(Yw m row v).length=v.length:=by simp only [Yw,upto,fU]
theorem tv (m:List UInt64) (row:List UInt8) (v:List UInt64):(Yv m row v).length=v.length:=by simp only [Yv,upto,fU]
def pD (s:cd):Bool:=decide (s.1.2.2.2.2.2.2.2.1=0/\s.2.2.2.1.length=16/\s.2.2.2.2.1.length=16)&&So s.2.2.2.2.2.2.1.1
def rp (s:cd):fY:=(((),(),(),(),(),(),s.1.2.2.2.2.2.2.1,()),(s.2.1,s.2.2.1,Yw s.2.2.2.2.1 s.2.2.2.2.2.2.1.1 s.2.2.2.1,s.2.2.2.2.1,s.2.2.2.2.2.1,(s.2.2.2.2.2.2.1.1,()),()))
theorem aA9:∀ s:cd,pD s=true->∃ m e,ao Ce m s=some e/\(Iw rp s).run=some e:=by
 rintro ⟨⟨⟨⟩,⟨⟩,⟨⟩,⟨⟩,⟨⟩,⟨⟩,r,i,⟨⟩⟩,⟨c0,c1,v,m,c4,⟨row,⟨⟩⟩,⟨⟩⟩⟩ h
 simp only [pD,Bool.and_eq_true,decide_eq_true_eq] at h
 obtain ⟨⟨rfl,hv,hm⟩,hr⟩:=h
 have:=(aP (T:=Ce) (λk v=>((((),(),(),(),(),(),r,(k:Int),()),(c0,c1,v,m,c4,(row,()),())):cd)) (λk v=>Bv v k (4+k) (8+k) (12+k) (atF m row (2*(k:Int))) (atF m row (2*(k:Int)+1)))
  (λv=>(⟨(.exit 4,wJ),(((),(),(),(),(),(),r,()),(c0,c1,v,m,c4,(row,()),()))⟩:aE)) 4 v (λ_ v=>v.length=16) hv (λk v hk hv=>⟨?_,by rw [fU];exact hv⟩) (λv hv=> ?_)).1
 ·obtain ⟨n,hn⟩:=this
  exact ⟨n,_,hn,rfl⟩
 ·have e1:(4+(k:Int)).toNat=4+k:=by omega
  have e2:(8+(k:Int)).toNat=8+k:=by omega
  have e3:(12+(k:Int)).toNat=12+k:=by omega
  refine (OT.ap (decide_eq_true (by dsimp only;omega))).trans ((ah ?_).trans ?_)
  ·simp only [List.all_cons,List.all_nil,Bool.and_true,Bool.and_eq_true]
   exact ⟨aH (by omega),aH (by omega),aH (by omega),aH (by omega),wM hm hr (by omega) (by omega) _ _ _,aH (by omega),aH (by omega),wM hm hr (by omega) (by omega) _ _ _,Mu hv (by omega) (by omega) (by omega) (by omega) _ _ _ _ _,aH (by omega)⟩
  ·simp only [OT.cL,e1,e2,e3]
   rfl
 ·exact OT.ar (decide_eq_false (by dsimp only;omega))
def pC (s:cc):Bool:=decide (s.1.2.2.2.2.2.2.2.1=0/\s.2.2.2.1.length=16/\s.2.2.2.2.1.length=16)&&So s.2.2.2.2.2.2.1.1
def wE (s:cc):fX:=(((),(),(),(),(),s.1.2.2.2.2.2.2.1,()),(s.2.1,s.2.2.1,Yv s.2.2.2.2.1 s.2.2.2.2.2.2.1.1 s.2.2.2.1,s.2.2.2.2.1,s.2.2.2.2.2.1,()))
theorem aA8:∀ s:cc,pC s=true->∃ m e,ao Cd m s=some e/\(Iv wE s).run=some e:=by
 rintro ⟨⟨⟨⟩,⟨⟩,⟨⟩,⟨⟩,⟨⟩,⟨⟩,r,i,⟨⟩⟩,⟨c0,c1,v,m,c4,⟨row,⟨⟩⟩,⟨⟩⟩⟩ h
 simp only [pC,Bool.and_eq_true,decide_eq_true_eq] at h
 obtain ⟨⟨rfl,hv,hm⟩,hr⟩:=h
 have:=(aP (T:=Cd) (λk v=>((((),(),(),(),(),(),r,(k:Int),()),(c0,c1,v,m,c4,(row,()),())):cc)) (λk v=>Bv v k (4+(k+1)%4) (8+(k+2)%4) (12+(k+3)%4) (atF m row (8+2*(k:Int))) (atF m row (9+2*(k:Int))))
  (λv=>(⟨(.exit 6,wI),(((),(),(),(),(),r,()),(c0,c1,v,m,c4,()))⟩:aE)) 4 v (λ_ v=>v.length=16) hv (λk v hk hv=>⟨?_,by rw [fU];exact hv⟩) (λv hv=> ?_)).1
 ·obtain ⟨n,hn⟩:=this
  exact ⟨n,_,hn,rfl⟩
 ·have t1:Int.tmod ((k:Int)+1) 4=(((k+1)%4:Nat):Int):=by rw [Int.tmod_eq_emod_of_nonneg (by omega)];omega
  have t2:Int.tmod ((k:Int)+2) 4=(((k+2)%4:Nat):Int):=by rw [Int.tmod_eq_emod_of_nonneg (by omega)];omega
  have t3:Int.tmod ((k:Int)+3) 4=(((k+3)%4:Nat):Int):=by rw [Int.tmod_eq_emod_of_nonneg (by omega)];omega
  have e1:(4+(((k+1)%4:Nat):Int)).toNat=4+(k+1)%4:=by omega
  have e2:(8+(((k+2)%4:Nat):Int)).toNat=8+(k+2)%4:=by omega
  have e3:(12+(((k+3)%4:Nat):Int)).toNat=12+(k+3)%4:=by omega
  refine (OT.ap (decide_eq_true (by dsimp only;omega))).trans ((ah ?_).trans ?_)
  ·simp only [t1,t2,t3,List.all_cons,List.all_nil,Bool.and_true,Bool.and_eq_true]
   exact ⟨aH (by omega),aH (by omega),aH (by omega),aH (by omega),aH (by omega),aH (by omega),aH (by omega),aH (by omega),wM hm hr (by omega) (by omega) _ _ _,aH (by omega),aH (by omega),wM hm hr (by omega) (by omega) _ _ _,Mu hv (by omega) (by omega) (by omega) (by omega) _ _ _ _ _,aH (by omega)⟩
  ·simp only [OT.cL,t1,t2,t3,e1,e2,e3]
   rfl
 ·exact OT.ar (decide_eq_false (by dsimp only;omega))
def rowAt (k:Nat):List UInt8:=gE.getD (k%10) []
theorem ayP (k:Nat):So (rowAt k)=true:=by
 have:k%10<10:=Nat.mod_lt _ (by decide)
 unfold rowAt
 generalize k%10=j at this
 have h:∀ j:Fin 10,So (gE.getD j.val [])=true:=by decide+kernel
 exact h ⟨j,this⟩
def kC (m:List UInt64) (v:List UInt64):List UInt64:=upto (λk v=>Yv m (rowAt k) (Yw m (rowAt k) v)) v 12
theorem lh {f:Nat->List UInt64->List UInt64} (hf:∀ k v,(f k v).length=v.length) (v:List UInt64):∀ n,(upto f v n).length=v.length
 |0=>rfl
 |n+1=>by simp only [upto,hf,lh hf v n]
def MA (s:cX):Bool:=decide (s.1.2.2.2.2.2.1=0/\s.2.2.2.1.length=16/\s.2.2.2.2.1.length=16/\s.2.2.2.2.2.1=gE)
def wF (s:cX):mz:=(((),(),(),()),(s.2.1,s.2.2.1,kC s.2.2.2.2.1 s.2.2.2.1,()))
theorem aBa:∀ s:cX,MA s=true->∃ m e,ao (Cf pD rp pC wE) m s=some e/\(Ix wF s).run=some e:=by
 rintro ⟨⟨⟨⟩,⟨⟩,⟨⟩,⟨⟩,⟨⟩,i,⟨⟩⟩,⟨c0,c1,v,m,c4,⟨⟩⟩⟩ h
 have h':=of_decide_eq_true h
 dsimp only at h'
 obtain ⟨rfl,hv,hm,rfl⟩:=h'
 have:=(aP (T:=Cf pD rp pC wE) (λk v=>((((),(),(),(),(),(k:Int),()),(c0,c1,v,m,gE,())):cX)) (λk v=>Yv m (rowAt k) (Yw m (rowAt k) v))
  (λv=>(⟨(.exit 2,wK),(((),(),(),()),(c0,c1,v,()))⟩:aE)) 12 v (λ_ v=>v.length=16) hv (λk v hk hv=>⟨?_,by rw [tv,nq];exact hv⟩) (λv hv=> ?_)).1
 ·obtain ⟨n,hn⟩:=this
  exact ⟨n,_,hn,rfl⟩
 ·have t1:Int.tmod (k:Int) 10=((k%10:Nat):Int):=by rw [Int.tmod_eq_emod_of_nonneg (by omega)];omega
  have e1:((k%10:Nat):Int).toNat=k%10:=by omega
  have hr:So (gE.getD (k%10) [])=true:=ayP k
  refine (OT.ap (decide_eq_true (by dsimp only;omega))).trans ((ah ?_).trans ?_)
  ·simp only [t1,e1,List.all_cons,List.all_nil,Bool.and_true,Bool.and_eq_true]
   refine ⟨aN (by omega),decide_eq_true (show k%10+0<10 by omega),?_,?_,?_⟩
   ·simp only [pD,Bool.and_eq_true,decide_eq_true_eq]
    exact ⟨⟨trivial,hv,hm⟩,hr⟩
   ·simp only [pC,rp,Bool.and_eq_true,decide_eq_true_eq]
    exact ⟨⟨trivial,by rw [nq];exact hv,hm⟩,hr⟩
   ·exact aH (by simp only [wE,rp];omega)
  ·have hrow:gE.getD (k%10) []=rowAt k:=rfl
   simp only [OT.cL,t1,e1,Nat.add_zero,wE,rp,hrow]
   rfl
 ·exact OT.ar (decide_eq_false (by dsimp only;omega))
def KL (h v:List UInt64):List UInt64:=upto (λk h=>h.set k (h.getD k 0^^^(v.getD k 0^^^v.getD (k+8) 0))) h 8
def Mz (s:cW):Bool:=decide (s.1.2.2.2.1=0/\s.2.1.length=8/\s.2.2.2.1.length=16)
def wD (s:cW):my:=(((),(),()),(KL s.2.1 s.2.2.2.1,s.2.2.1,()))
theorem aA7:∀ s:cW,Mz s=true->∃ m e,ao Cc m s=some e/\(Iu wD s).run=some e:=by
 rintro ⟨⟨⟨⟩,⟨⟩,⟨⟩,i,⟨⟩⟩,⟨h,c1,v,⟨⟩⟩⟩ hh
 have h':=of_decide_eq_true hh
 dsimp only at h'
 obtain ⟨rfl,hl,hv⟩:=h'
 have:=(aP (T:=Cc) (λk h=>((((),(),(),(k:Int),()),(h,c1,v,())):cW)) (λk h=>h.set k (h.getD k 0^^^(v.getD k 0^^^v.getD (k+8) 0)))
  (λh=>(⟨(.exit 8,wH),(((),(),()),(h,c1,()))⟩:aE)) 8 h (λ_ h=>h.length=8) hl (λk h hk hl=>⟨?_,by rw [List.length_set];exact hl⟩) (λh hl=> ?_)).1
 ·obtain ⟨n,hn⟩:=this
  exact ⟨n,_,hn,rfl⟩
 ·have e1:((k:Int)+8).toNat=k+8:=by omega
  refine (OT.ap (decide_eq_true (by dsimp only;omega))).trans ((ah ?_).trans ?_)
  ·simp only [e1,hl,hv,List.all_cons,List.all_nil,Bool.and_true,Bool.and_eq_true]
   exact ⟨aN (by omega),decide_eq_true (by omega),aN (by omega),decide_eq_true (by omega),aH (by omega),aN (by omega),decide_eq_true (by omega),aN (by omega),decide_eq_true (by omega),aH (by omega)⟩
  ·simp only [OT.cL,e1,Nat.add_zero]
   rfl
 ·exact OT.ar (decide_eq_false (by dsimp only;omega))
def rX (h:List UInt64) (count:UInt64) (last:Bool):List UInt64:=
 let v:=(h++bIV).set 12 ((h++bIV).getD 12 0^^^count)
 cond last (v.set 14 (~~~v.getD 14 0)) v
def xm (h:List UInt64) (b:List UInt8) (count:UInt64) (last:Bool):List UInt64:=KL h (kC (qc b) (rX h count last))
theorem Oc (b:List UInt8):(qc b).length=16:=by
 unfold qc;rw [lh (λk v=>List.length_set)];rfl
theorem sj (m v:List UInt64):(kC m v).length=v.length:=lh (λk v=>by rw [tv,nq]) v 12
theorem kI (h v:List UInt64):(KL h v).length=h.length:=lh (λk v=>List.length_set) h 8
theorem GM {b:List UInt8} {c0 c2 c3:List UInt64} (hb:b.length=128):MB (((),(),(),(),(),0,()),(c0,b,c2,c3,[0,0,0,0,0,0,0,0,0,0,0,0,0,0,0,0],()))=true:=decide_eq_true ⟨rfl,hb,rfl⟩
theorem GL {c0 c1 v m:List UInt64} (hv:v.length=16) (hm:m.length=16):MA (((),(),(),(),(),0,()),(c0,c1,v,m,gE,()))=true:=decide_eq_true ⟨rfl,hv,hm,rfl⟩
theorem GK {c0 c1 v:List UInt64} (h0:c0.length=8) (hv:v.length=16):Mz (((),(),(),0,()),(c0,c1,v,()))=true:=decide_eq_true ⟨rfl,h0,hv⟩
def My (x:Rw):Bool:=decide (x.1.1.length=8/\x.1.2.1.length=128)
def av0 (x:Rw):OT mB.Y:=.ok ⟨It,((xm x.1.1 x.1.2.1 x.1.2.2.1 x.1.2.2.2.1,()),())⟩
theorem aA6:ac Tryz.prog 146 (mB.aI My av0):=aoz MB wG pD rp pC wE MA wF Mz wD aBb aA9 aA8 aBa aA7 _ _ λx oy hp ho=>by
 rw [<-ho]
 obtain ⟨⟨h,b,count,last,⟨⟩⟩,⟨⟩⟩:=x
 simp only [My,decide_eq_true_eq] at hp
 obtain ⟨hh,hb⟩:=hp
 have t1:tab h 8 0=h:=jo hh
 have t2:tab b 128 0=b:=jo hb
 have t3:tab gE 10 []=gE:=jo rfl
 have v1: []++(List.take 8 h++List.drop (0+min h.length 8) [(0:UInt64),0,0,0,0,0,0,0,0,0,0,0,0,0,0,0])=h++List.replicate 8 0:=by
  rw [hh,List.nil_append,List.take_of_length_le (by omega)];rfl
 have v2:List.take 8 (h++List.replicate 8 (0:UInt64))++(bIV++List.drop 16 (h++List.replicate 8 (0:UInt64)))=h++bIV:=by
  rw [List.take_append_of_le_length (by omega),List.take_of_length_le (by omega),List.drop_eq_nil_of_le (by simp;omega),List.append_nil]
 have hv:∀ c l,(rX h c l).length=16:=λc l=>by
  unfold rX
  cases l<;>simp [hh]<;>rfl
 have hm:(qc b).length=16:=Oc b
 have hr:∀ c l,(kC (qc b) (rX h c l)).length=16:=λc l=>by rw [sj];exact hv c l
 have hM:∀ c l,(xm h b c l).length=8:=λc l=>by unfold xm;rw [kI];exact hh
 have e8: [(7640891576956012808:UInt64),13503953896175478587,4354685564936845355,11912009170470909681,5840696475078001361,11170449401992604703,2270897969802886507,6620516959819538809]=bIV:=rfl
 have key:∀ M:List UInt64,M.length=8->tab (lay [(0:UInt64),0,0,0,0,0,0,0] M 8 0) 8 0=M:=λM hM=>by rw [xv (n:=8) rfl hM,jo hM]
 have l1:List.set (h++bIV) 12 ((h++bIV).getD 12 0^^^count)=rX h count false:=rfl
 have l2:List.set (rX h count false) 14 (~~~(rX h count false).getD 14 0)=rX h count true:=rfl
 have l3:∀ c l,KL h (kC (qc b) (rX h c l))=xm h b c l:=λ_ _=>rfl
 cases last
 ·refine (OT.ar rfl).trans ((ah ?_).trans ?_)
  ·simp only [t1,t2,t3,v1,List.all_cons,List.all_nil,Bool.and_true,Bool.and_eq_true]
   rw [e8]
   simp only [v2,wG,wF,wD,l1,l3,gr,hM]
   exact ⟨GM hb,GL (hv _ _) hm,GK hh (hr _ _),rfl,rfl,rfl⟩
  ·simp only [t1,t2,t3,v1]
   rw [e8]
   simp only [v2,wG,wF,wD,l1,l3]
   rw [key _ (hM _ _)]
   rfl
 ·refine (OT.ap rfl).trans ((ah ?_).trans ?_)
  ·simp only [t1,t2,t3,v1,List.all_cons,List.all_nil,Bool.and_true,Bool.and_eq_true]
   rw [e8]
   simp only [v2,wG,wF,wD,l1,l2,l3,gr,hM]
   exact ⟨GM hb,GL (hv _ _) hm,GK hh (hr _ _),rfl,rfl,rfl⟩
  ·simp only [t1,t2,t3,v1]
   rw [e8]
   simp only [v2,wG,wF,wD,l1,l2,l3]
   rw [key _ (hM _ _)]
   rfl
def Fv:cj:=(mB.aI My av0)
theorem ae6:ac Tryz.prog 146 Fv:=aA6
theorem ae5:aG Fv:=aA
def N6:Env:=ay 146 Fv OW
theorem F9:aR Tryz.prog N6:=ag ae6 nL
theorem Hv:ax N6:=ae ae5 RV
theorem afC:aW Tryz.prog te N6:=aK follows aq F9 Hv
def jm:aw:=⟨[.val false (.list .u8)],[],true,0,false⟩
abbrev ae8:Type:=((List (UInt8))×Unit)×(Unit)
def uy:az:=⟨[.own 0],[(0,.row .u8)],false⟩
def Rx:SV->Option az:=λ_=>some uy
def Vg (a0:List (UInt8)):OT jm.Y:=
 (gd [decide (((0:Nat)+List.length a0)*(1:Nat)<=(140737488355328:Nat))] (.ok ⟨uy,(((),()),([]++a0,()))⟩))
def av2:OT jm.Y:=.ok ⟨uy,(((),()),([],()))⟩
theorem aBh (x:ae8) (Q:jm.Y->Prop):wpf te N6 av 1000 Tryz.f52 (jm.inp.inj x).tm (jm.inp.inj x).hp (fnK jm Rx Q) (λ_ _=>False)=
 Bool.rec (motive:=λ_=>Prop) ((Vg x.1.1).wpR Q) (av2.wpR Q/\(Vg x.1.1).wpR Q) (List.isEmpty x.1.1):=by kernel_rfl
def k9 (x:ae8):Bool:=decide (x.1.1.length<=140737488355328)
def akF (x:ae8):OT jm.Y:=.ok ⟨uy,(((),()),(x.1.1,()))⟩
theorem av1:ac Tryz.prog 52 (jm.aI k9 akF):=by
 refine aFH aq F9 afC (f:=52) (fn:=Tryz.f52) (c:=aj Tryz.f52) (by kernel_rfl) (by kernel_rfl) (by kernel_rfl) (S:=jm) (k:=0) (by kernel_rfl) (Λ:=av) (λR hR=>af) (n:=1000) λx oy hp hr=>⟨fnK jm Rx (λz=>z=oy),λ_ _=>False,?_,λv hp hq=> ?_,λ_ _ hq=>hq.elim⟩
 ·refine (aBh x _).mpr ?_
  cases hr
  have hp':x.1.1.length<=140737488355328:=of_decide_eq_true hp
  have h1:(Vg x.1.1).wpR (λz=>z=⟨uy,(((),()),(x.1.1,()))⟩):=by
   rw [OT.VV]
   refine OT.nW (ah ?_) rfl
   simp only [List.all_cons,List.all_nil,Bool.and_true]
   exact decide_eq_true (by omega)
  cases hb:List.isEmpty x.1.1
  ·exact h1
  ·refine ⟨?_,h1⟩
   rw [List.isEmpty_iff.1 hb]
   rfl
 ·unfold fnK at hq
  split at hq
  ·rename_i o ho
   split at hq
   ·rename_i y hy
    subst hq
    exact ⟨by cases ho;rfl,hy⟩
   ·exact hq.elim
  ·exact hq.elim
def zn:cj:=(jm.aI k9 akF)
theorem aaf:ac Tryz.prog 52 zn:=av1
theorem aae:aG zn:=aA
def Dq:Env:=ay 52 zn N6
theorem zP:aR Tryz.prog Dq:=ag aaf F9
theorem Dp:ax Dq:=ae aae Hv
theorem aaZ:aW Tryz.prog te Dq:=aK follows aq zP Dp
def uq:aw:=⟨[.val false .str,.val false .int],[],true,0,false⟩
abbrev aot:Type:=((List UInt8)×(Int)×Unit)×(Unit)
def Mq:az:=⟨[.qK,.val false .int],[],false⟩
def aeR:az:=⟨[.ptr 0 0 0,.val false .int],[(0,.cells [.val false .int,.val false .u64,.val false .u64,.val false .u64,.val false .u64,.val false .u64,.val false .u64,.val false .u64,.val false .u64,.own 1,.val false .u64]),(1,.row .u8)],false⟩
def ZQ:List az:= [Mq,aeR]
def Mr (a0:List UInt8) (a1:Int):OT uq.Y:=
 let z0:List UInt8:=List.take 16 a0++List.drop (List.length a0) [(0:UInt8),(0:UInt8),(0:UInt8),(0:UInt8),(0:UInt8),(0:UInt8),(0:UInt8),(0:UInt8),(0:UInt8),(0:UInt8),(0:UInt8),(0:UInt8),(0:UInt8),(0:UInt8),(0:UInt8),(0:UInt8)]
 let z1:Bool:=decide (16<=List.length z0)&&true
 let z2:List UInt8:=List.take 8 (List.drop 0 z0)
 let z3:List UInt8:=List.take 8 (List.drop 8 z0)
 (.br (decide ((16:Int)<(↑(List.length a0):Int)))
 (.ok ⟨Mq,(((),((30:Int),())),())⟩)
 (.br (decide (a1<(1:Int)))
  (.ok ⟨Mq,(((),((30:Int),())),())⟩)
  (.br (decide ((64:Int)<a1))
   (.ok ⟨Mq,(((),((30:Int),())),())⟩)
   (gd [z1,mn ((z2,()),()),z1,mn ((z3,()),())] (.ok ⟨aeR,(((),((0:Int),())),((a1,((7640891576956012808:UInt64)^^^(16842752:UInt64)+i2u a1,((13503953896175478587:UInt64),((4354685564936845355:UInt64),((11912009170470909681:UInt64),((5840696475078001361:UInt64),((11170449401992604703:UInt64),((2270897969802886507:UInt64)^^^kB z2 (List.length z2),((6620516959819538809:UInt64)^^^kB z3 (List.length z3),((),((0:UInt64),()))))))))))),([],())))⟩)))))
theorem aIC (x:aot) (Q:uq.Y->Prop):wpf te Dq av 1000 Tryz.f90 (uq.inp.inj x).tm (uq.inp.inj x).hp (aFI uq ZQ Q) (λ_ _=>False)=(Mr (x.1.1) (x.1.2.1)).wpR Q:=by kernel_rfl
theorem avK (pre:aot->Bool) (F:aot->OT uq.Y) (hF:∀ (x:aot) oy,pre x=true->(F x).run=some oy->(Mr (x.1.1) (x.1.2.1)).run=some oy):ac Tryz.prog 90 (uq.aI pre F):=
 ajz aq zP aaZ (f:=90) (fn:=Tryz.f90) (c:=aj Tryz.f90) (by kernel_rfl) (by kernel_rfl) (by kernel_rfl) (S:=uq) (k:=0) (by kernel_rfl) (λR hR=>af) (n:=1000) (outs:=ZQ) (by kernel_rfl) (pre:=pre) (F:=F) (T:=λx=>Mr (x.1.1) (x.1.2.1)) (λx Q=>aIC x Q) hF
def Ow (p:List UInt8):List UInt8:=p.take 16++(List.replicate 16 (0:UInt8)).drop p.length
def gz (p:List UInt8) (n:Int):Bool:=decide (16<(p.length:Int))||decide (n<1)||decide (64<n)
theorem XY {p:List UInt8} (h:p.length<=16):(Ow p).length=16:=by
 simp only [Ow,List.length_append,List.length_take,List.length_drop,List.length_replicate]
 omega
abbrev aJs:Type:=Int×UInt64×UInt64×UInt64×UInt64×UInt64×UInt64×UInt64×UInt64×Unit×UInt64×Unit
def aoY (n:Int) (h:List UInt64) (c:UInt64):aJs:=(n,h.getD 0 0,h.getD 1 0,h.getD 2 0,h.getD 3 0,h.getD 4 0,h.getD 5 0,h.getD 6 0,h.getD 7 0,(),c,())
def amu (p:List UInt8) (n:Int):List UInt64:= [0x6a09e667f3bcc908^^^(16842752+i2u n),0xbb67ae8584caa73b,0x3c6ef372fe94f82b,0xa54ff53a5f1d36f1,0x510e527fade682d1,0x9b05688c2b3e6c1f,
 0x1f83d9abfb41bd6b^^^kB ((Ow p).take 8) 8,0x5be0cd19137e2179^^^kB (((Ow p).drop 8).take 8) 8]
def aku (_:aot):Bool:=true
def Ro (x:aot):OT uq.Y:=.br (gz x.1.1 x.1.2.1) (.ok ⟨Mq,(((),((30:Int),())),())⟩)
 (.ok ⟨aeR,(((),((0:Int),())),(aoY x.1.2.1 (amu x.1.1 x.1.2.1) 0,([],())))⟩)
theorem aGv:ac Tryz.prog 90 (uq.aI aku Ro):=avK _ _ λx oy _ ho=>by
 rw [<-ho]
 obtain ⟨⟨p,n,⟨⟩⟩,⟨⟩⟩:=x
 clear ho
 by_cases h1:16<(p.length:Int)
 ·have e1:decide (16<(p.length:Int))=true:=decide_eq_true h1
  have eb:gz p n=true:=by simp only [gz,e1,Bool.true_or]
  simp only [Ro,Mr,e1,eb]
  rfl
 ·have e1:decide (16<(p.length:Int))=false:=decide_eq_false h1
  by_cases h2:n<1
  ·have e2:decide (n<1)=true:=decide_eq_true h2
   have eb:gz p n=true:=by simp only [gz,e1,e2,Bool.true_or,Bool.false_or]
   simp only [Ro,Mr,e1,e2,eb]
   rfl
  ·have e2:decide (n<1)=false:=decide_eq_false h2
   by_cases h3:64<n
   ·have e3:decide (64<n)=true:=decide_eq_true h3
    have eb:gz p n=true:=by simp only [gz,e1,e2,e3,Bool.false_or]
    simp only [Ro,Mr,e1,e2,e3,eb]
    rfl
   ·have e3:decide (64<n)=false:=decide_eq_false h3
    have eb:gz p n=false:=by simp only [gz,e1,e2,e3,Bool.false_or]
    have hl:=XY (p:=p) (by omega)
    have hp:p.take 16++List.drop p.length [(0:UInt8),0,0,0,0,0,0,0,0,0,0,0,0,0,0,0]=Ow p:=rfl
    have l1:((Ow p).take 8).length=8:=by simp only [List.length_take,hl];omega
    have l2:(((Ow p).drop 8).take 8).length=8:=by simp only [List.length_take,List.length_drop,hl];omega
    simp only [Ro,Mr,e1,e2,e3,eb,hp,List.drop_zero,l1,l2]
    refine (ah ?_).trans rfl
    simp only [mn,hl,l1,l2]
    decide
def Mp:cj:=(uq.aI aku Ro)
theorem aos:ac Tryz.prog 90 Mp:=aGv
theorem aor:aG Mp:=aA
def RU:Env:=ay 90 Mp Dq
theorem Di:aR Tryz.prog RU:=ag aos zP
theorem N3:ax RU:=ae aor Dp
theorem RT:aW Tryz.prog te RU:=aK follows aq Di N3
def aJl (w:Sh):CSh:=.cells [.val false .int,.val false .u64,.val false .u64,.val false .u64,.val false .u64,.val false .u64,.val false .u64,.val false .u64,.val false .u64,w,.val false .u64]
def jh:aw:=⟨[.ptr 0 0 0,.val false (.list .u8)],[(0,aJl (.own 1)),(1,.row .u8)],true,1,true⟩
def pv:Shape:=⟨61,[(0,.ptr 0 0 0)],[(0,aJl (.val false (.list .u8))),(1,.gone)],2,true⟩
def ri:Shape:=pv
abbrev Fh:Type:=((Unit)×(List (UInt8))×Unit)×(((Int)×(UInt64)×(UInt64)×(UInt64)×(UInt64)×(UInt64)×(UInt64)×(UInt64)×(UInt64)×(Unit)×(UInt64)×Unit)×(List (UInt8))×Unit)
abbrev cA:Type:=((Unit)×Unit)×(((Int)×(UInt64)×(UInt64)×(UInt64)×(UInt64)×(UInt64)×(UInt64)×(UInt64)×(UInt64)×(List (UInt8))×(UInt64)×Unit)×(Unit)×Unit)
abbrev kb:Type:=((Unit)×Unit)×(((Int)×(UInt64)×(UInt64)×(UInt64)×(UInt64)×(UInt64)×(UInt64)×(UInt64)×(UInt64)×(List (UInt8))×(UInt64)×Unit)×(Unit)×Unit)
def ZC:SE->Option Shape:=fw [(0,ri)] none
def avx (c0_0:Int) (c0_1:UInt64) (c0_2:UInt64) (c0_3:UInt64) (c0_4:UInt64) (c0_5:UInt64) (c0_6:UInt64) (c0_7:UInt64) (c0_8:UInt64) (c0_9:List (UInt8)) (c0_10:UInt64):OT (Sum cA aE):=
 let z0:Nat:=List.length c0_9
 let z1:Int:=(↑z0:Int)
 let z2:List UInt8:=List.drop 0 (List.take 128 c0_9)
 let z3:Nat:=List.length z2
 let z4:List UInt64:=xm [c0_1,c0_2,c0_3,c0_4,c0_5,c0_6,c0_7,c0_8] (tab z2 128 (0:UInt8)) (c0_10+(128:UInt64)) false
 (.br (decide ((128:Int)<z1))
 (gd [dz (0:Int) (128:Int) z0,decide (128<=z3),decide (128<=z3),dz (128:Int) z1 z0] (.ok (.inl (((),()),((c0_0,(List.getD z4 0 0,(List.getD z4 1 0,(List.getD z4 2 0,(List.getD z4 3 0,(List.getD z4 4 0,(List.getD z4 5 0,(List.getD z4 6 0,(List.getD z4 7 0,(List.drop 128 c0_9,(c0_10+(128:UInt64),()))))))))))),((),()))))))
 (.ok (.inr ⟨(.exit 0,ri),(((),()),((c0_0,(c0_1,(c0_2,(c0_3,(c0_4,(c0_5,(c0_6,(c0_7,(c0_8,(c0_9,(c0_10,()))))))))))),((),())))⟩)))
def uk (s:cA):OT (Sum cA aE):=avx (s.2.1.1) (s.2.1.2.1) (s.2.1.2.2.1) (s.2.1.2.2.2.1) (s.2.1.2.2.2.2.1) (s.2.1.2.2.2.2.2.1) (s.2.1.2.2.2.2.2.2.1) (s.2.1.2.2.2.2.2.2.2.1) (s.2.1.2.2.2.2.2.2.2.2.1) (s.2.1.2.2.2.2.2.2.2.2.2.1) (s.2.1.2.2.2.2.2.2.2.2.2.2.1)
theorem avu (s:cA) (Q:Sum cA aE->Prop):wps te RU av 1000 (aU (aj Tryz.f109) 0) (pv.inj s) (bX pv ZC (Q:Sum pv.T aE->Prop))=(uk s).wpR Q:=by kernel_rfl
def BU (g0_0:cA->kb) (s:cA):OT aE:=(.ok ⟨(.exit 0,ri),g0_0 s⟩)
def Mh:az:=⟨[],[(0,.cells [.val false .int,.val false .u64,.val false .u64,.val false .u64,.val false .u64,.val false .u64,.val false .u64,.val false .u64,.val false .u64,.own 1,.val false .u64]),(1,.row .u8)],false⟩
def Rf:SV->Option az:=λ_=>some Mh
def UX (ok0:cA->Bool) (g0_0:cA->kb) (a1:List (UInt8)) (c0_0:Int) (c0_1:UInt64) (c0_2:UInt64) (c0_3:UInt64) (c0_4:UInt64) (c0_5:UInt64) (c0_6:UInt64) (c0_7:UInt64) (c0_8:UInt64) (c0_10:UInt64) (c1:List (UInt8)):OT jh.Y:=
 let z0:(PUnit×PUnit)×(Int×UInt64×UInt64×UInt64×UInt64×UInt64×UInt64×UInt64×UInt64×List UInt8×UInt64×PUnit)×PUnit×PUnit:=(((),()),(c0_0,c0_1,c0_2,c0_3,c0_4,c0_5,c0_6,c0_7,c0_8,c1++a1,c0_10,()),(),())
 let z1:=(g0_0 z0).snd.fst
 let z2:=z1.snd
 let z3:=z2.snd
 let z4:=z3.snd
 let z5:=z4.snd
 let z6:=z5.snd
 let z7:=z6.snd
 let z8:=z7.snd
 let z9:=z8.snd
 let z10:=z9.snd
 let z11:=z10.fst
 (gd [decide ((List.length c1+List.length a1)*1<=140737488355328),ok0 z0,k9 ((z11,()),())] (.ok ⟨Mh,((),((z1.fst,(z2.fst,(z3.fst,(z4.fst,(z5.fst,(z6.fst,(z7.fst,(z8.fst,(z9.fst,((),(z10.snd.fst,()))))))))))),(z11,())))⟩))
theorem aAP (ok0:cA->Bool) (g0_0:cA->kb) (x:Fh) (Q:jh.Y->Prop):wpf te RU (aO 0 (cg pv 0 ok0 (BU g0_0)) av) 1000 Tryz.f109 (jh.inp.inj x).tm (jh.inp.inj x).hp (fnK jh Rf Q) (λ_ _=>False)=(UX ok0 g0_0 (x.1.2.1) (x.2.1.1) (x.2.1.2.1) (x.2.1.2.2.1) (x.2.1.2.2.2.1) (x.2.1.2.2.2.2.1) (x.2.1.2.2.2.2.2.1) (x.2.1.2.2.2.2.2.2.1) (x.2.1.2.2.2.2.2.2.2.1) (x.2.1.2.2.2.2.2.2.2.2.1) (x.2.1.2.2.2.2.2.2.2.2.2.2.1) (x.2.2.1)).wpR Q:=by kernel_rfl
theorem aeC (ok0:cA->Bool) (g0_0:cA->kb) (h0:∀ s:cA,ok0 s=true->∃ m e,ao (uk) m s=some e/\(BU g0_0 s).run=some e) (pre:Fh->Bool) (F:Fh->OT jh.Y) (hF:∀ (x:Fh) oy,pre x=true->(F x).run=some oy->(UX ok0 g0_0 (x.1.2.1) (x.2.1.1) (x.2.1.2.1) (x.2.1.2.2.1) (x.2.1.2.2.2.1) (x.2.1.2.2.2.2.1) (x.2.1.2.2.2.2.2.1) (x.2.1.2.2.2.2.2.2.1) (x.2.1.2.2.2.2.2.2.2.1) (x.2.1.2.2.2.2.2.2.2.2.1) (x.2.1.2.2.2.2.2.2.2.2.2.2.1) (x.2.2.1)).run=some oy):ac Tryz.prog 109 (jh.aI pre F):=
 aD aq Di RT (f:=109) (fn:=Tryz.f109) (c:=aj Tryz.f109) (by kernel_rfl) (by kernel_rfl) (by kernel_rfl) (S:=jh) (k:=2) (by kernel_rfl) (λR hR=>(aB (c:=(aj Tryz.f109)) (by kernel_rfl) (id:=0) (by kernel_rfl) (aQ aq Di RT (sh:=pv) hR (xs:=ZC) (aC (by kernel_rfl) (by kernel_rfl) hR) aL af (n:=1000) (T:=uk) (λs Q=>avu s Q) (ok:=ok0) (f:=BU g0_0) h0) af)) (n:=1000) (sel:=Rf) (λv o h=>by cases h;rfl) (pre:=pre) (F:=F) (T:=λx=>UX ok0 g0_0 (x.1.2.1) (x.2.1.1) (x.2.1.2.1) (x.2.1.2.2.1) (x.2.1.2.2.2.1) (x.2.1.2.2.2.2.1) (x.2.1.2.2.2.2.2.1) (x.2.1.2.2.2.2.2.2.1) (x.2.1.2.2.2.2.2.2.2.1) (x.2.1.2.2.2.2.2.2.2.2.1) (x.2.1.2.2.2.2.2.2.2.2.2.2.1) (x.2.2.1)) (λx Q=>aAP ok0 g0_0 x Q) hF
def anU (s:List UInt64×UInt64×List UInt8):List UInt64×UInt64×List UInt8:=(xm s.1 (s.2.2.take 128) (s.2.1+128) false,s.2.1+128,s.2.2.drop 128)
def L0 (s:List UInt64×UInt64×List UInt8):List UInt64×UInt64×List UInt8:=upto (λ_ s=>anU s) s ((s.2.2.length-1)/128)
abbrev aIN:Type:=Int×UInt64×UInt64×UInt64×UInt64×UInt64×UInt64×UInt64×UInt64×List UInt8×UInt64×Unit
def aF4 (n:Int) (s:List UInt64×UInt64×List UInt8):aIN:=(n,s.1.getD 0 0,s.1.getD 1 0,s.1.getD 2 0,s.1.getD 3 0,s.1.getD 4 0,s.1.getD 5 0,s.1.getD 6 0,s.1.getD 7 0,s.2.2,s.2.1,())
def aHN (x:aIN):List UInt64×UInt64×List UInt8:=([x.2.1,x.2.2.1,x.2.2.2.1,x.2.2.2.2.1,x.2.2.2.2.2.1,x.2.2.2.2.2.2.1,x.2.2.2.2.2.2.2.1,x.2.2.2.2.2.2.2.2.1],x.2.2.2.2.2.2.2.2.2.2.1,x.2.2.2.2.2.2.2.2.2.1)
theorem tZ {h:List UInt64} {b:List UInt8} {c:UInt64} {l:Bool} (hh:h.length=8):(xm h b c l).length=8:=by unfold xm;rw [kI];exact hh
def Rg (_:cA):Bool:=true
def ZF (s:cA):kb:=(((),()),(aF4 s.2.1.1 (L0 (aHN s.2.1)),(),()))
theorem avw:∀ s:cA,Rg s=true->∃ m e,ao uk m s=some e/\(BU ZF s).run=some e:=by
 rintro ⟨⟨⟨⟩,⟨⟩⟩,⟨⟨n,h0,h1,h2,h3,h4,h5,h6,h7,w,c,⟨⟩⟩,⟨⟩,⟨⟩⟩⟩ _
 have:=(aP (T:=uk) (λ_ s=>((((),()),(aF4 n s,(),())):cA)) (λ_ s=>anU s) (λs=>(⟨(.exit 0,ri),(((),()),(aF4 n s,(),()))⟩:aE)) ((w.length-1)/128) ([h0,h1,h2,h3,h4,h5,h6,h7],c,w)
  (λk s=>s.1.length=8/\s.2.2.length+128*k=w.length) ⟨rfl,by simp⟩ (λk s hk hs=>⟨?_,?_⟩) (λs hs=> ?_)).1
 ·obtain ⟨m,hm⟩:=this
  exact ⟨m,_,hm,rfl⟩
 ·obtain ⟨h,c,v⟩:=s
  obtain ⟨a1,a2⟩:=hs
  dsimp only at a1 a2
  have hv:128<v.length:=by omega
  have t1: [h.getD 0 0,h.getD 1 0,h.getD 2 0,h.getD 3 0,h.getD 4 0,h.getD 5 0,h.getD 6 0,h.getD 7 0]=h:=(rfl:_=tab h 8 0).trans (jo a1)
  have t2:tab (v.take 128) 128 0=v.take 128:=jo (by simp;omega)
  have t3:(v.take 128).length=128:=by simp;omega
  refine (OT.ap (decide_eq_true (by dsimp only [aF4];omega))).trans ((ah ?_).trans ?_)
  ·simp only [aF4,List.drop_zero,t3,List.all_cons,List.all_nil,Bool.and_true,Bool.and_eq_true]
   exact ⟨fv (by omega),rfl,rfl,fv (by omega)⟩
  ·simp only [OT.cL,aF4,List.drop_zero,t1,t2]
   rfl
 ·obtain ⟨h,c,v⟩:=s
  obtain ⟨a1,a2⟩:=hs
  dsimp only at a1 a2
  refine ⟨tZ a1,?_⟩
  simp only [anU,List.length_drop]
  omega
 ·obtain ⟨h,c,v⟩:=s
  obtain ⟨a1,a2⟩:=hs
  dsimp only at a1 a2
  exact OT.ar (decide_eq_false (by dsimp only [aF4];omega))
def Bc (x:aJs) (w:List UInt8):List UInt64×UInt64×List UInt8:=([x.2.1,x.2.2.1,x.2.2.2.1,x.2.2.2.2.1,x.2.2.2.2.2.1,x.2.2.2.2.2.2.1,x.2.2.2.2.2.2.2.1,x.2.2.2.2.2.2.2.2.1],x.2.2.2.2.2.2.2.2.2.2.1,w)
def r7 (s:List UInt64×UInt64×List UInt8) (b:List UInt8):List UInt64×UInt64×List UInt8:=L0 (s.1,s.2.1,s.2.2++b)
theorem aj0 (s:List UInt64×UInt64×List UInt8):∀ k,(upto (λ_ s=>anU s) s k).2.2.length<=s.2.2.length
 |0=>Nat.le_refl _
 |k+1=>by
  have:=aj0 s k
  show (List.drop 128 (upto (λ_ s=>anU s) s k).2.2).length<=_
  rw [List.length_drop]
  omega
theorem Qn {n:Int} {h:List UInt64} {c:UInt64} {w:List UInt8} (hh:h.length=8):Bc (aoY n h c) w=(h,c,w):=by
 have: [h.getD 0 0,h.getD 1 0,h.getD 2 0,h.getD 3 0,h.getD 4 0,h.getD 5 0,h.getD 6 0,h.getD 7 0]=h:=(rfl:_=tab h 8 0).trans (jo hh)
 simp only [Bc,aoY,this]
theorem aIp (s:List UInt64×UInt64×List UInt8) (hs:s.1.length=8):∀ k,(upto (λ_ s=>anU s) s k).1.length=8
 |0=>hs
 |k+1=>tZ (aIp s hs k)
theorem auQ (s:List UInt64×UInt64×List UInt8):∀ k,(upto (λ_ s=>anU s) s k).2.2.length=s.2.2.length-128*k
 |0=>rfl
 |k+1=>by
  have:=auQ s k
  show (List.drop 128 (upto (λ_ s=>anU s) s k).2.2).length=_
  rw [List.length_drop,this]
  omega
theorem aAw (s:List UInt64×UInt64×List UInt8) (hs:s.1.length=8):(L0 s).1.length=8:=aIp s hs _
theorem anT (s:List UInt64×UInt64×List UInt8):(L0 s).2.2.length<=128:=by
 unfold L0
 rw [auQ]
 omega
def Fg (x:Fh):Bool:=decide (x.2.2.1.length+x.1.2.1.length<=140737488355328)
def aki (x:Fh):OT jh.Y:=.ok ⟨Mh,((),(aoY x.2.1.1 (r7 (Bc x.2.1 x.2.2.1) x.1.2.1).1 (r7 (Bc x.2.1 x.2.2.1) x.1.2.1).2.1,((r7 (Bc x.2.1 x.2.2.1) x.1.2.1).2.2,())))⟩
theorem avv:ac Tryz.prog 109 (jh.aI Fg aki):=aeC Rg ZF avw _ _ λx oy hp ho=>by
 rw [<-ho]
 clear ho
 obtain ⟨⟨⟨⟩,b,⟨⟩⟩,⟨⟨n,h0,h1,h2,h3,h4,h5,h6,h7,⟨⟩,c,⟨⟩⟩,w,⟨⟩⟩⟩:=x
 have hp':=of_decide_eq_true hp
 dsimp only at hp'
 refine (ah ?_).trans rfl
 simp only [List.all_cons,List.all_nil,Bool.and_true,Bool.and_eq_true]
 refine ⟨decide_eq_true (by omega),rfl,decide_eq_true ?_⟩
 have:=aj0 ([h0,h1,h2,h3,h4,h5,h6,h7],c,w++b) (((w++b).length-1)/128)
 show (L0 ([h0,h1,h2,h3,h4,h5,h6,h7],c,w++b)).2.2.length<=_
 refine Nat.le_trans this ?_
 show (w++b).length<=_
 rw [List.length_append]
 exact hp'
def zg:cj:=(jh.aI Fg aki)
theorem ZE:ac Tryz.prog 109 zg:=avv
theorem ZD:aG zg:=aA
def xh:Env:=ay 109 zg RU
theorem rI:aR Tryz.prog xh:=ag ZE Di
theorem Db:ax xh:=ae ZD N3
theorem Hr:aW Tryz.prog te xh:=aK follows aq rI Db
def um:aw:=⟨[.ptr 0 0 0],[(0,aJl (.own 1)),(1,.row .u8)],false,2,true⟩
abbrev aom:Type:=((Unit)×Unit)×(((Int)×(UInt64)×(UInt64)×(UInt64)×(UInt64)×(UInt64)×(UInt64)×(UInt64)×(UInt64)×(Unit)×(UInt64)×Unit)×(List (UInt8))×Unit)
def Mk:Shape:=⟨51,[(5,.ptr 2 0 0),(6,.own 3),(33,.val false .int),(34,.val false .int)],[(0,.cells [.val false .int,.val false .u64,.val false .u64,.val false .u64,.val false .u64,.val false .u64,.val false .u64,.val false .u64,.val false .u64,.own 1,.val false .u64]),(1,.row .u8),(2,.row .u64),(3,.row .u8)],2,true⟩
abbrev dL:Type:=((Unit)×(Unit)×(Int)×(Int)×Unit)×(((Int)×(UInt64)×(UInt64)×(UInt64)×(UInt64)×(UInt64)×(UInt64)×(UInt64)×(UInt64)×(Unit)×(UInt64)×Unit)×(List (UInt8))×(List (UInt64))×(List (UInt8))×Unit)
def BZ:Shape:=⟨51,[(6,.own 2)],[(0,.cells [.val false .int,.val false .u64,.val false .u64,.val false .u64,.val false .u64,.val false .u64,.val false .u64,.val false .u64,.val false .u64,.own 1,.val false .u64]),(1,.row .u8),(2,.row .u8)],2,true⟩
abbrev px:Type:=((Unit)×Unit)×(((Int)×(UInt64)×(UInt64)×(UInt64)×(UInt64)×(UInt64)×(UInt64)×(UInt64)×(UInt64)×(Unit)×(UInt64)×Unit)×(List (UInt8))×(List (UInt8))×Unit)
def avA:SE->Option Shape:=fw [(0,BZ)] none
def aGt (a33:Int) (a34:Int) (c0_0:Int) (c0_1:UInt64) (c0_2:UInt64) (c0_3:UInt64) (c0_4:UInt64) (c0_5:UInt64) (c0_6:UInt64) (c0_7:UInt64) (c0_8:UInt64) (c0_10:UInt64) (c1:List (UInt8)) (c2:List (UInt64)) (c3:List (UInt8)):OT (Sum dL aE):=
 let z0:Int:=Int.tdiv a34 (8:Int)
 let z1:Int:=(8:Int)*Int.tmod a34 (8:Int)
 let z2:Nat:=List.length c3
 let z3:Nat:=Int.toNat a34
 (.br (decide (a34<a33))
 (gd [true&&inR z0,inB z0 8,decide (Int.toNat z0+0<List.length c2),inR z1,decide ((0:Int)<=z1),inB a34 z2,decide (z3<z2),inR (a34+(1:Int))] (.ok (.inl (((),((),(a33,(a34+(1:Int),())))),((c0_0,(c0_1,(c0_2,(c0_3,(c0_4,(c0_5,(c0_6,(c0_7,(c0_8,((),(c0_10,()))))))))))),(c1,(c2,(List.set c3 z3 (UInt64.toUInt8 (bf (List.getD c2 (Int.toNat z0+0) (0:UInt64)) z1)),()))))))))
 (.ok (.inr ⟨(.exit 0,BZ),(((),()),((c0_0,(c0_1,(c0_2,(c0_3,(c0_4,(c0_5,(c0_6,(c0_7,(c0_8,((),(c0_10,()))))))))))),(c1,(c3,()))))⟩)))
def Ml (s:dL):OT (Sum dL aE):=aGt (s.1.2.2.1) (s.1.2.2.2.1) (s.2.1.1) (s.2.1.2.1) (s.2.1.2.2.1) (s.2.1.2.2.2.1) (s.2.1.2.2.2.2.1) (s.2.1.2.2.2.2.2.1) (s.2.1.2.2.2.2.2.2.1) (s.2.1.2.2.2.2.2.2.2.1) (s.2.1.2.2.2.2.2.2.2.2.1) (s.2.1.2.2.2.2.2.2.2.2.2.2.1) (s.2.2.1) (s.2.2.2.1) (s.2.2.2.2.1)
theorem aGq (s:dL) (Q:Sum dL aE->Prop):wps te xh av 1000 (aU (aj Tryz.f110) 0) (Mk.inj s) (bX Mk avA (Q:Sum Mk.T aE->Prop))=(Ml s).wpR Q:=by kernel_rfl
def U3 (g0_0:dL->px) (s:dL):OT aE:=(.ok ⟨(.exit 0,BZ),g0_0 s⟩)
def aeN:az:=⟨[.own 2],[(0,.cells [.val false .int,.val false .u64,.val false .u64,.val false .u64,.val false .u64,.val false .u64,.val false .u64,.val false .u64,.val false .u64,.own 1,.val false .u64]),(1,.row .u8),(2,.row .u8)],false⟩
def akl:SV->Option az:=λ_=>some aeN
def avC (ok0:dL->Bool) (g0_0:dL->px) (c0_0:Int) (c0_1:UInt64) (c0_2:UInt64) (c0_3:UInt64) (c0_4:UInt64) (c0_5:UInt64) (c0_6:UInt64) (c0_7:UInt64) (c0_8:UInt64) (c0_10:UInt64) (c1:List (UInt8)):OT um.Y:=
 let z0:Nat:=List.length c1
 let z1:List UInt8:=List.take 128 c1++List.drop z0 (List.replicate 128 (0:UInt8))
 let z2:List UInt8:=List.replicate (Int.toNat c0_0) (0:UInt8)
 let z3:List UInt64:=xm [c0_1,c0_2,c0_3,c0_4,c0_5,c0_6,c0_7,c0_8] (tab z1 128 (0:UInt8)) (c0_10+i2u (↑(min z0 128):Int)) true
 let z4:(PUnit×PUnit×Int×Int×PUnit)×(Int×UInt64×UInt64×UInt64×UInt64×UInt64×UInt64×UInt64×UInt64×PUnit×UInt64×PUnit)×List UInt8×List UInt64×List UInt8×PUnit:=(((),(),(↑(List.length z2):Int),(0:Int),()),(c0_0,c0_1,c0_2,c0_3,c0_4,c0_5,c0_6,c0_7,c0_8,(),c0_10,()),c1,[List.getD z3 0 0,List.getD z3 1 0,List.getD z3 2 0,List.getD z3 3 0,List.getD z3 4 0,List.getD z3 5 0,List.getD z3 6 0,List.getD z3 7 0],z2,())
 let z5:=(g0_0 z4).snd
 let z6:=z5.fst
 let z7:=z6.snd
 let z8:=z7.snd
 let z9:=z8.snd
 let z10:=z9.snd
 let z11:=z10.snd
 let z12:=z11.snd
 let z13:=z12.snd
 let z14:=z13.snd
 let z15:=z5.snd
 (gd [decide (128<=List.length z1),decide ((0:Int)<=c0_0)&&decide (c0_0<=c0_0)&&decide (c0_0*(1:Int)<=(140737488355328:Int))&&decide (c0_0<=(140737488355328:Int)),ok0 z4] (.ok ⟨aeN,(((),()),((z6.fst,(z7.fst,(z8.fst,(z9.fst,(z10.fst,(z11.fst,(z12.fst,(z13.fst,(z14.fst,((),(z14.snd.snd.fst,()))))))))))),(z15.fst,(z15.snd.fst,()))))⟩))
theorem aIA (ok0:dL->Bool) (g0_0:dL->px) (x:aom) (Q:um.Y->Prop):wpf te xh (aO 0 (cg Mk 0 ok0 (U3 g0_0)) av) 1000 Tryz.f110 (um.inp.inj x).tm (um.inp.inj x).hp (fnK um akl Q) (λ_ _=>False)=(avC ok0 g0_0 (x.2.1.1) (x.2.1.2.1) (x.2.1.2.2.1) (x.2.1.2.2.2.1) (x.2.1.2.2.2.2.1) (x.2.1.2.2.2.2.2.1) (x.2.1.2.2.2.2.2.2.1) (x.2.1.2.2.2.2.2.2.2.1) (x.2.1.2.2.2.2.2.2.2.2.1) (x.2.1.2.2.2.2.2.2.2.2.2.2.1) (x.2.2.1)).wpR Q:=by kernel_rfl
theorem avB (ok0:dL->Bool) (g0_0:dL->px) (h0:∀ s:dL,ok0 s=true->∃ m e,ao (Ml) m s=some e/\(U3 g0_0 s).run=some e) (pre:aom->Bool) (F:aom->OT um.Y) (hF:∀ (x:aom) oy,pre x=true->(F x).run=some oy->(avC ok0 g0_0 (x.2.1.1) (x.2.1.2.1) (x.2.1.2.2.1) (x.2.1.2.2.2.1) (x.2.1.2.2.2.2.1) (x.2.1.2.2.2.2.2.1) (x.2.1.2.2.2.2.2.2.1) (x.2.1.2.2.2.2.2.2.2.1) (x.2.1.2.2.2.2.2.2.2.2.1) (x.2.1.2.2.2.2.2.2.2.2.2.2.1) (x.2.2.1)).run=some oy):ac Tryz.prog 110 (um.aI pre F):=
 aD aq rI Hr (f:=110) (fn:=Tryz.f110) (c:=aj Tryz.f110) (by kernel_rfl) (by kernel_rfl) (by kernel_rfl) (S:=um) (k:=2) (by kernel_rfl) (λR hR=>(aB (c:=(aj Tryz.f110)) (by kernel_rfl) (id:=0) (by kernel_rfl) (aQ aq rI Hr (sh:=Mk) hR (xs:=avA) (aC (by kernel_rfl) (by kernel_rfl) hR) aL af (n:=1000) (T:=Ml) (λs Q=>aGq s Q) (ok:=ok0) (f:=U3 g0_0) h0) af)) (n:=1000) (sel:=akl) (λv o h=>by cases h;rfl) (pre:=pre) (F:=F) (T:=λx=>avC ok0 g0_0 (x.2.1.1) (x.2.1.2.1) (x.2.1.2.2.1) (x.2.1.2.2.2.1) (x.2.1.2.2.2.2.1) (x.2.1.2.2.2.2.2.1) (x.2.1.2.2.2.2.2.2.1) (x.2.1.2.2.2.2.2.2.2.1) (x.2.1.2.2.2.2.2.2.2.2.1) (x.2.1.2.2.2.2.2.2.2.2.2.2.1) (x.2.2.1)) (λx Q=>aIA ok0 g0_0 x Q) hF
def HL (h:List UInt64) (n:Nat):List UInt8:=upto (λk o=>o.set k (UInt64.toUInt8 (bf (h.getD (k/8) 0) (8*((k%8:Nat):Int))))) (List.replicate n 0) n
def U2 (s:dL):Bool:=decide (s.1.2.2.2.1=0/\s.2.2.2.1.length=8/\s.1.2.2.1<=64/\0<=s.1.2.2.1/\s.2.2.2.2.1=List.replicate s.1.2.2.1.toNat 0)
def aeO (s:dL):px:=(((),()),(s.2.1,s.2.2.1,HL s.2.2.2.1 s.1.2.2.1.toNat,()))
theorem aGs:∀ s:dL,U2 s=true->∃ m e,ao Ml m s=some e/\(U3 aeO s).run=some e:=by
 rintro ⟨⟨⟨⟩,⟨⟩,n,i,⟨⟩⟩,⟨d,w,h,o,⟨⟩⟩⟩ hh
 have h':=of_decide_eq_true hh
 dsimp only at h'
 obtain ⟨rfl,hl,hn,hn0,rfl⟩:=h'
 obtain ⟨k,rfl⟩:∃ k:Nat,n=(k:Int):=⟨n.toNat,by omega⟩
 have:=(aP (T:=Ml) (λi o=>((((),(),(k:Int),(i:Int),()),(d,w,h,o,())):dL)) (λk o=>o.set k (UInt64.toUInt8 (bf (h.getD (k/8) 0) (8*((k%8:Nat):Int)))))
  (λo=>(⟨(.exit 0,BZ),(((),()),(d,w,o,()))⟩:aE)) k (List.replicate k 0) (λ_ o=>o.length=k) (by simp) (λi o hi ho=>⟨?_,by rw [List.length_set];exact ho⟩) (λo ho=> ?_)).1
 ·obtain ⟨m,hm⟩:=this
  exact ⟨m,_,hm,rfl⟩
 ·have t1:Int.tdiv (i:Int) 8=((i/8:Nat):Int):=by rw [Int.tdiv_eq_ediv_of_nonneg (by omega)];omega
  have t2:Int.tmod (i:Int) 8=((i%8:Nat):Int):=by rw [Int.tmod_eq_emod_of_nonneg (by omega)];omega
  refine (OT.ap (decide_eq_true (by dsimp only;omega))).trans ((ah ?_).trans ?_)
  ·simp only [t1,t2,hl,ho,Int.toNat_natCast,List.all_cons,List.all_nil,Bool.and_true,Bool.and_eq_true]
   exact ⟨⟨trivial,aH (by omega)⟩,aN (by omega),decide_eq_true (by omega),aH (by omega),decide_eq_true (by omega),aN (by omega),decide_eq_true (by omega),aH (by omega)⟩
  ·simp only [OT.cL,t1,t2,Int.toNat_natCast,Nat.add_zero]
   rfl
 ·exact OT.ar (decide_eq_false (by dsimp only;omega))
def nh (w:List UInt8):List UInt8:=w.take 128++(List.replicate 128 (0:UInt8)).drop w.length
theorem Ba {w:List UInt8} (h:w.length<=128):(nh w).length=128:=by
 simp only [nh,List.length_append,List.length_take,List.length_drop,List.length_replicate]
 omega
def aD3 (n:Int) (s:List UInt64×UInt64×List UInt8):List UInt8:=HL (xm s.1 (nh s.2.2) (s.2.1+i2u (s.2.2.length:Int)) true) n.toNat
theorem aeM {n:Int} {d:aJs} {w:List UInt8} {h:List UInt64} (hh:h.length=8) (hn0:0<=n) (hn:n<=64):U2 (((),(),n,0,()),(d,w,h,List.replicate n.toNat 0,()))=true:=decide_eq_true ⟨rfl,hh,hn,hn0,rfl⟩
def mu (p:List UInt8) (n:Int) (b:List UInt8):List UInt8:=aD3 n (r7 (amu p n,0,[]) b)
def U1 (x:aom):Bool:=decide (0<=x.2.1.1/\x.2.1.1<=64/\x.2.2.1.length<=128)
def aCf (x:aom):OT um.Y:=.ok ⟨aeN,(((),()),(x.2.1,(x.2.2.1,(aD3 x.2.1.1 (Bc x.2.1 x.2.2.1),()))))⟩
theorem aGr:ac Tryz.prog 110 (um.aI U1 aCf):=avB U2 aeO aGs _ _ λx oy hp ho=>by
 rw [<-ho]
 clear ho
 obtain ⟨⟨⟨⟩,⟨⟩⟩,⟨⟨n,h0,h1,h2,h3,h4,h5,h6,h7,⟨⟩,c,⟨⟩⟩,w,⟨⟩⟩⟩:=x
 have hp':=of_decide_eq_true hp
 dsimp only at hp'
 obtain ⟨hn0,hn,hw⟩:=hp'
 have t1:w.take 128++List.drop w.length (List.replicate 128 (0:UInt8))=nh w:=rfl
 have t2:tab (nh w) 128 0=nh w:=jo (Ba hw)
 have t3:min w.length 128=w.length:=by omega
 have hc:∀ c,(xm [h0,h1,h2,h3,h4,h5,h6,h7] (nh w) c true).length=8:=λc=>tZ rfl
 have t4:∀ c,tab (xm [h0,h1,h2,h3,h4,h5,h6,h7] (nh w) c true) 8 0=xm [h0,h1,h2,h3,h4,h5,h6,h7] (nh w) c true:=λc=>jo (hc c)
 have t5:((List.replicate n.toNat (0:UInt8)).length:Int)=n:=by simp;omega
 refine (ah ?_).trans ?_
 ·simp only [t1,t2,t3,t4,t5,Ba hw,List.all_cons,List.all_nil,Bool.and_true,Bool.and_eq_true]
  exact ⟨rfl,⟨⟨⟨decide_eq_true hn0,decide_eq_true (Int.le_refl _)⟩,decide_eq_true (by omega)⟩,decide_eq_true (by omega)⟩,aeM (hc _) hn0 hn⟩
 ·simp only [t1,t2,t3,t4,t5,aeO]
  rfl
def Mj:cj:=(um.aI U1 aCf)
theorem aol:ac Tryz.prog 110 Mj:=aGr
theorem aok:aG Mj:=aA
def aaR:Env:=ay 110 Mj xh
theorem NX:aR Tryz.prog aaR:=ag aol rI
theorem NY:ax aaR:=ae aok Db
theorem aoV:aW Tryz.prog te aaR:=aK follows aq NX NY
def kw:aw:=⟨[.val false .str,.val false .int,.val false (.list .u8)],[],true,0,false⟩
abbrev Ri:Type:=((List UInt8)×(Int)×(List (UInt8))×Unit)×(Unit)
def wA:az:=⟨[.own 0,.val false .int],[(0,.row .u8)],false⟩
def ZI:SV->Option az:=λ_=>some wA
def aeL (a0:List UInt8) (a1:Int) (a2:List (UInt8)):OT kw.Y:=
 let z0:Int×UInt64×UInt64×UInt64×UInt64×UInt64×UInt64×UInt64×UInt64×PUnit×UInt64×PUnit:=aoY a1 (amu a0 a1) (0:UInt64)
 let z1:=z0.fst
 let z2:=z0.snd
 let z3:=z2.snd
 let z4:=z3.snd
 let z5:=z4.snd
 let z6:=z5.snd
 let z7:=z6.snd
 let z8:=z7.snd
 let z9:=z8.snd
 let z10:Int×UInt64×UInt64×UInt64×UInt64×UInt64×UInt64×UInt64×UInt64×PUnit×UInt64×PUnit:=(z1,z2.fst,z3.fst,z4.fst,z5.fst,z6.fst,z7.fst,z8.fst,z9.fst,(),z9.snd.snd.fst,())
 let z11:List UInt64×UInt64×List UInt8:=r7 (Bc z10 []) a2
 let z12:=z11.snd
 let z13:Int×UInt64×UInt64×UInt64×UInt64×UInt64×UInt64×UInt64×UInt64×PUnit×UInt64×PUnit:=aoY z1 z11.fst z12.fst
 let z14:=z13.fst
 let z15:=z13.snd
 let z16:=z15.snd
 let z17:=z16.snd
 let z18:=z17.snd
 let z19:=z18.snd
 let z20:=z19.snd
 let z21:=z20.snd
 let z22:=z21.snd
 let z23:Int×UInt64×UInt64×UInt64×UInt64×UInt64×UInt64×UInt64×UInt64×PUnit×UInt64×PUnit:=(z14,z15.fst,z16.fst,z17.fst,z18.fst,z19.fst,z20.fst,z21.fst,z22.fst,(),z22.snd.snd.fst,())
 let z24:=z12.snd
 (.br (gz a0 a1)
 (.ok ⟨wA,(((),((30:Int),())),([],()))⟩)
 (gd [Fg (((),a2,()),z10,[],()),U1 (((),()),z23,z24,())] (.ok ⟨wA,(((),((0:Int),())),(aD3 z14 (Bc z23 z24),()))⟩)))
theorem aGp (x:Ri) (Q:kw.Y->Prop):wpf te aaR av 1000 Tryz.f67 (kw.inp.inj x).tm (kw.inp.inj x).hp (fnK kw ZI Q) (λ_ _=>False)=(aeL (x.1.1) (x.1.2.1) (x.1.2.2.1)).wpR Q:=by kernel_rfl
theorem aoj (pre:Ri->Bool) (F:Ri->OT kw.Y) (hF:∀ (x:Ri) oy,pre x=true->(F x).run=some oy->(aeL (x.1.1) (x.1.2.1) (x.1.2.2.1)).run=some oy):ac Tryz.prog 67 (kw.aI pre F):=
 aD aq NX aoV (f:=67) (fn:=Tryz.f67) (c:=aj Tryz.f67) (by kernel_rfl) (by kernel_rfl) (by kernel_rfl) (S:=kw) (k:=0) (by kernel_rfl) (λR hR=>af) (n:=1000) (sel:=ZI) (λv o h=>by cases h;rfl) (pre:=pre) (F:=F) (T:=λx=>aeL (x.1.1) (x.1.2.1) (x.1.2.2.1)) (λx Q=>aGp x Q) hF
def BX (x:Ri):Bool:=decide (x.1.2.2.1.length<=140737488355328)
def U0 (x:Ri):OT kw.Y:=.br (gz x.1.1 x.1.2.1) (.ok ⟨wA,(((),((30:Int),())),([],()))⟩) (.ok ⟨wA,(((),((0:Int),())),(mu x.1.1 x.1.2.1 x.1.2.2.1,()))⟩)
theorem aAT:ac Tryz.prog 67 (kw.aI BX U0):=aoj _ _ λx oy hp ho=>by
 rw [<-ho]
 clear ho
 obtain ⟨⟨p,n,b,⟨⟩⟩,⟨⟩⟩:=x
 have hp':=of_decide_eq_true hp
 dsimp only at hp'
 cases hk:gz p n
 ·refine (OT.ar hk).trans ?_
  have e1:Bc (aoY n (amu p n) 0) []=(amu p n,0,[]):=Qn rfl
  have e2:∀ c w,Bc (aoY n (r7 (amu p n,0,[]) b).1 c) w=((r7 (amu p n,0,[]) b).1,c,w):=λc w=>Qn (aAw _ rfl)
  have hn:0<=n/\n<=64:=by
   simp only [gz,Bool.or_eq_false_iff,decide_eq_false_iff_not] at hk
   omega
  refine (ah ?_).trans ?_
  ·simp only [List.all_cons,List.all_nil,Bool.and_true,Bool.and_eq_true]
   refine ⟨decide_eq_true (by simp only [List.length_nil];omega),decide_eq_true ⟨hn.1,hn.2,?_⟩⟩
   exact anT _
  ·have key:aD3 n (Bc (aoY n (r7 (Bc (aoY n (amu p n) 0) []) b).1 (r7 (Bc (aoY n (amu p n) 0) []) b).2.1) (r7 (Bc (aoY n (amu p n) 0) []) b).2.2)=mu p n b:=by
    rw [e1,e2]
    rfl
   simp only [U0,hk]
   exact congrArg (λl=>some (⟨wA,(((),((0:Int),())),(l,()))⟩:kw.Y)) key
 ·refine (OT.ap hk).trans ?_
  simp only [U0,hk]
  rfl
def Fj:cj:=(kw.aI BX U0)
theorem aeK:ac Tryz.prog 67 Fj:=aAT
theorem aeJ:aG Fj:=aA
def afB:Env:=ay 67 Fj aaR
theorem aoU:aR Tryz.prog afB:=ag aeK NX
theorem aaQ:ax afB:=ae aeJ NY
end Go.Proofs.YtohjofabochgfaaGreat

namespace Go.Proofs.YtohjofabochgfaaGreat
open Sx Go
def Sx.aa.nat (e:aa):Nat:=e.w0.toNat+18446744073709551616*(e.w1.toNat+18446744073709551616*(e.w2.toNat+18446744073709551616*e.w3.toNat))
def ofN (n:Nat):aa:=⟨UInt64.ofNat n,UInt64.ofNat (n/18446744073709551616),UInt64.ofNat (n/18446744073709551616/18446744073709551616),UInt64.ofNat (n/18446744073709551616/18446744073709551616/18446744073709551616)⟩
def xn (x y c:UInt64):UInt64:=UInt64.ofNat ((x.toNat+y.toNat+c.toNat)%18446744073709551616)
def zS (x y c:UInt64):UInt64:=UInt64.ofNat ((x.toNat+y.toNat+c.toNat)/18446744073709551616)
def qe (x y c:UInt64):UInt64:=UInt64.ofNat ((x.toNat+18446744073709551616-y.toNat-c.toNat)%18446744073709551616)
def VM (x y c:UInt64):UInt64:=UInt64.ofNat (if x.toNat<y.toNat+c.toNat then 1 else 0)
def aws (x y:UInt64):UInt64:=UInt64.ofNat (x.toNat*y.toNat/18446744073709551616)
theorem eU (x:UInt64) (k:Nat) (hk:k<64):(bf x (k:Int)).toNat=x.toNat/2^k:=by
 unfold bf
 rw [if_pos (by omega),UInt64.toNat_shiftRight,UInt64.toNat_ofNat',Int.toNat_natCast,Nat.shiftRight_eq_div_pow]
 congr 2
 omega
theorem lq (x:UInt64) (k:Nat) (hk:k<64):(bR x (k:Int)).toNat=x.toNat*2^k%2^64:=by
 unfold bR
 rw [if_pos (by omega),UInt64.toNat_shiftLeft,UInt64.toNat_ofNat',Int.toNat_natCast,Nat.shiftLeft_eq]
 congr 3
 omega
theorem jM (x:UInt64):(x&&&4294967295).toNat=x.toNat%4294967296:=by
 rw [UInt64.toNat_and]
 exact Nat.and_two_pow_sub_one_eq_mod x.toNat 32
theorem aHS (a b:UInt64):bf a 32*bf b 32+bf (bf a 32*(b&&&4294967295)+bf ((a&&&4294967295)*(b&&&4294967295)) 32) 32+
 bf (((bf a 32*(b&&&4294967295)+bf ((a&&&4294967295)*(b&&&4294967295)) 32)&&&4294967295)+(a&&&4294967295)*bf b 32) 32=aws a b:=by
 have ha:=a.toNat_lt
 have hb:=b.toNat_lt
 obtain ⟨h1,h2,h3,h4⟩:=Lib.mul64_hi a.toNat b.toNat ha hb
 have s32:∀ x:UInt64,(bf x 32).toNat=x.toNat/4294967296:=λx=>eU x 32 (by omega)
 have hx:=Lib.half_mul_le (a:=a.toNat/4294967296) (b:=b.toNat/4294967296) (by omega) (by omega)
 have hy:=Lib.half_mul_le (a:=a.toNat/4294967296) (b:=b.toNat%4294967296) (by omega) (by omega)
 have hz:=Lib.half_mul_le (a:=a.toNat%4294967296) (b:=b.toNat/4294967296) (by omega) (by omega)
 have e0:((a&&&4294967295)*(b&&&4294967295)).toNat=a.toNat%4294967296*(b.toNat%4294967296):=by
  rw [UInt64.toNat_mul,jM,jM,Nat.mod_eq_of_lt h1]
 have e1:(bf a 32*(b&&&4294967295)+bf ((a&&&4294967295)*(b&&&4294967295)) 32).toNat=a.toNat/4294967296*(b.toNat%4294967296)+a.toNat%4294967296*(b.toNat%4294967296)/4294967296:=by
  rw [UInt64.toNat_add,UInt64.toNat_mul,s32,s32,jM,e0,Nat.mod_eq_of_lt (a:=a.toNat/4294967296*(b.toNat%4294967296)) (by omega),Nat.mod_eq_of_lt h2]
 have e2:(((bf a 32*(b&&&4294967295)+bf ((a&&&4294967295)*(b&&&4294967295)) 32)&&&4294967295)+(a&&&4294967295)*bf b 32).toNat=
  (a.toNat/4294967296*(b.toNat%4294967296)+a.toNat%4294967296*(b.toNat%4294967296)/4294967296)%4294967296+a.toNat%4294967296*(b.toNat/4294967296):=by
  rw [UInt64.toNat_add,UInt64.toNat_mul,jM,jM,s32,e1,Nat.mod_eq_of_lt (a:=a.toNat%4294967296*(b.toNat/4294967296)) (by omega),Nat.mod_eq_of_lt h3]
 have hq:a.toNat*b.toNat/18446744073709551616<18446744073709551616:=by
  rw [Nat.div_lt_iff_lt_mul (by omega)]
  exact Nat.mul_lt_mul'' ha hb
 rw [<-UInt64.toNat_inj,UInt64.toNat_add,UInt64.toNat_add,UInt64.toNat_mul,s32,s32,s32,s32,e1,e2]
 have e3:(aws a b).toNat=a.toNat*b.toNat/18446744073709551616:=by
  unfold aws
  rw [UInt64.toNat_ofNat',Nat.mod_eq_of_lt hq]
 rw [e3,<-h4]
 rw [<-h4] at hq
 omega
def aGS (h l y:UInt64):UInt64:=UInt64.ofNat ((h.toNat*18446744073709551616+l.toNat)/y.toNat)
def Zf (h l y:UInt64):UInt64:=UInt64.ofNat ((h.toNat*18446744073709551616+l.toNat)%y.toNat)
theorem aAy {m A B N:Nat} (hm:0<m) (e:N=A+m*B):N/m=B+A/m/\N%m=A%m:=by
 subst e
 exact ⟨by rw [Nat.add_mul_div_left _ _ hm,Nat.add_comm],Nat.add_mul_mod_self_left ..⟩
theorem UD {m N u t q r K L:Nat} (hm:0<m) (hL:0<L) (hu:N=u*K+t) (hq:u=q*(m*L)+r):
 N/m=q*(L*K)+((r*K+t)*L)/(m*L)/\N%m=((r*K+t)*L)%(m*L)/L:=by
 have e:N=(r*K+t)+m*(q*(L*K)):=by
  have h1:q*(m*L)*K=m*(q*(L*K)):=by
   rw [Nat.mul_assoc q,Nat.mul_assoc m,Nat.mul_left_comm m q]
  rw [hu,hq,Nat.add_mul,h1]
  omega
 obtain ⟨h1,h2⟩:=aAy hm e
 rw [h1,h2,Nat.mul_div_mul_right _ _ hL,Nat.mul_mod_mul_right,Nat.mul_div_cancel _ hL]
 exact ⟨rfl,rfl⟩
theorem mC (x y c:UInt64):x.toNat+y.toNat+c.toNat=(xn x y c).toNat+18446744073709551616*(zS x y c).toNat:=by
 have hx:=x.toNat_lt
 have hy:=y.toNat_lt
 have hc:=c.toNat_lt
 unfold xn zS
 rw [UInt64.toNat_ofNat',UInt64.toNat_ofNat',Nat.mod_eq_of_lt (b:=2^64) (by omega),Nat.mod_eq_of_lt (b:=2^64) (by omega)]
 omega
theorem Fz {x y c:UInt64} (hc:c.toNat<=1):(zS x y c).toNat<=1:=by
 have hx:=x.toNat_lt
 have hy:=y.toNat_lt
 unfold zS
 rw [UInt64.toNat_ofNat',Nat.mod_eq_of_lt (by omega)]
 omega
theorem Ad (x y c:UInt64):(VM x y c).toNat=if x.toNat<y.toNat+c.toNat then 1 else 0:=by
 unfold VM
 rw [UInt64.toNat_ofNat']
 split<;>rfl
theorem yb {x y c:UInt64}:(VM x y c).toNat<=1:=by
 rw [Ad]
 split<;>omega
theorem Ae {x y c:UInt64} (hc:c.toNat<=1):x.toNat+18446744073709551616*(VM x y c).toNat=(qe x y c).toNat+y.toNat+c.toNat:=by
 have hx:=x.toNat_lt
 have hy:=y.toNat_lt
 rw [Ad]
 unfold qe
 rw [UInt64.toNat_ofNat',Nat.mod_eq_of_lt (b:=2^64) (by omega)]
 split<;>omega
theorem jq (e:aa):e.nat<115792089237316195423570985008687907853269984665640564039457584007913129639936:=by
 have h0:=e.w0.toNat_lt
 have h1:=e.w1.toNat_lt
 have h2:=e.w2.toNat_lt
 have h3:=e.w3.toNat_lt
 unfold Sx.aa.nat
 omega
theorem Dw {a b X Y:Nat} (ha:a<18446744073709551616) (hb:b<18446744073709551616) (h:a+18446744073709551616*X=b+18446744073709551616*Y):a=b/\X=Y:=by
 omega
theorem qL {e f:aa} (h:e.nat=f.nat):e=f:=by
 unfold Sx.aa.nat at h
 obtain ⟨h0,h⟩:=Dw e.w0.toNat_lt f.w0.toNat_lt h
 obtain ⟨h1,h⟩:=Dw e.w1.toNat_lt f.w1.toNat_lt h
 obtain ⟨h2,h3⟩:=Dw e.w2.toNat_lt f.w2.toNat_lt h
 obtain ⟨a,b,c,d⟩:=e
 obtain ⟨a',b',c',d'⟩:=f
 simp only at h0 h1 h2 h3
 rw [UInt64.toNat_inj.1 h0,UInt64.toNat_inj.1 h1,UInt64.toNat_inj.1 h2,UInt64.toNat_inj.1 h3]
theorem div_eq {n a b:Nat} (ha:a<18446744073709551616) (h:n=a+18446744073709551616*b):n/18446744073709551616=b/\n%18446744073709551616=a:=by
 omega
theorem as4 {n:Nat} {a b c d:UInt64} {k:Nat} (h:n=a.toNat+18446744073709551616*(b.toNat+18446744073709551616*(c.toNat+18446744073709551616*(d.toNat+18446744073709551616*k)))):ofN n=⟨a,b,c,d⟩:=by
 obtain ⟨h1,h0⟩:=div_eq a.toNat_lt h
 obtain ⟨h2,h3⟩:=div_eq b.toNat_lt h1
 obtain ⟨h4,h5⟩:=div_eq c.toNat_lt h2
 have h6:n/18446744073709551616/18446744073709551616/18446744073709551616%18446744073709551616=d.toNat:=by
  rw [h4]
  have:=d.toNat_lt
  omega
 unfold ofN
 have e:∀ (m:Nat) (x:UInt64),m%18446744073709551616=x.toNat->UInt64.ofNat m=x:=λm x hm=>by
  rw [<-UInt64.toNat_inj,UInt64.toNat_ofNat']
  exact hm
 rw [e _ a h0,e _ b h3,e _ c h5,e _ d h6]
theorem TA (n:Nat):(ofN n).nat=n%115792089237316195423570985008687907853269984665640564039457584007913129639936:=by
 unfold ofN aa.nat
 simp only [UInt64.toNat_ofNat']
 rw [show (2:Nat)^64=18446744073709551616 from rfl]
 omega
theorem kl {n:Nat} (h:n<115792089237316195423570985008687907853269984665640564039457584007913129639936):(ofN n).nat=n:=by
 rw [TA]
 exact Nat.mod_eq_of_lt h
theorem vO (e:aa):ofN e.nat=e:=qL (kl (jq e))
def p9 (a b:aa):aa×Bool:=(ofN (a.nat+b.nat),Nat.ble 115792089237316195423570985008687907853269984665640564039457584007913129639936 (a.nat+b.nat))
def eg (a b:aa):aa×Bool:=(ofN (a.nat+115792089237316195423570985008687907853269984665640564039457584007913129639936-b.nat),Nat.blt a.nat b.nat)
theorem Vk {x y c s k X Y R:Nat} (h1:x+y+c=s+18446744073709551616*k) (h2:X+Y+k=R):(x+18446744073709551616*X)+(y+18446744073709551616*Y)+c=s+18446744073709551616*R:=by
 omega
theorem R8 {x y c s k X Y R Q:Nat} (h1:x+18446744073709551616*k=s+y+c) (h2:X+18446744073709551616*Q=R+Y+k):(x+18446744073709551616*X)+18446744073709551616*(18446744073709551616*Q)=s+18446744073709551616*R+(y+18446744073709551616*Y)+c:=by
 omega
theorem OX (a b:aa):let k0:=zS a.w0 b.w0 0;let k1:=zS a.w1 b.w1 k0;let k2:=zS a.w2 b.w2 k1;let k3:=zS a.w3 b.w3 k2
 (k0.toNat<=1/\k1.toNat<=1/\k2.toNat<=1)/\p9 a b=(⟨xn a.w0 b.w0 0,xn a.w1 b.w1 k0,xn a.w2 b.w2 k1,xn a.w3 b.w3 k2⟩,!(k3==0)):=by
 intro k0 k1 k2 k3
 have l0:k0.toNat<=1:=Fz (by decide)
 have l1:k1.toNat<=1:=Fz l0
 have l2:k2.toNat<=1:=Fz l1
 have l3:k3.toNat<=1:=Fz l2
 refine ⟨⟨l0,l1,l2⟩,?_⟩
 have h:=Vk (mC a.w0 b.w0 0) (Vk (mC a.w1 b.w1 k0) (Vk (mC a.w2 b.w2 k1) (mC a.w3 b.w3 k2)))
 rw [show (0:UInt64).toNat=0 from rfl,Nat.add_zero] at h
 unfold p9
 have hn:a.nat+b.nat=(xn a.w0 b.w0 0).toNat+18446744073709551616*((xn a.w1 b.w1 k0).toNat+18446744073709551616*((xn a.w2 b.w2 k1).toNat+18446744073709551616*((xn a.w3 b.w3 k2).toNat+18446744073709551616*k3.toNat))):=h
 rw [as4 hn]
 congr 1
 have hs:=jq ⟨xn a.w0 b.w0 0,xn a.w1 b.w1 k0,xn a.w2 b.w2 k1,xn a.w3 b.w3 k2⟩
 unfold Sx.aa.nat at hs
 simp only at hs
 have hk:k3.toNat=0\/k3.toNat=1:=by omega
 rcases hk with hk|hk
 ·have e:k3=0:=UInt64.toNat_inj.1 hk
  rw [hk] at hn
  rw [e]
  cases hb:Nat.ble 115792089237316195423570985008687907853269984665640564039457584007913129639936 (a.nat+b.nat)
  ·rfl
  ·have:=Nat.le_of_ble_eq_true hb
   omega
 ·have e:(k3==0)=false:=by
   have:¬k3=0:=λe=>by rw [e] at hk;cases hk
   simpa using this
  rw [hk] at hn
  rw [e]
  exact Nat.ble_eq_true_of_le (by omega)
theorem Dy (a b:aa):let k0:=VM a.w0 b.w0 0;let k1:=VM a.w1 b.w1 k0;let k2:=VM a.w2 b.w2 k1;let k3:=VM a.w3 b.w3 k2
 (k0.toNat<=1/\k1.toNat<=1/\k2.toNat<=1)/\eg a b=(⟨qe a.w0 b.w0 0,qe a.w1 b.w1 k0,qe a.w2 b.w2 k1,qe a.w3 b.w3 k2⟩,!(k3==0)):=by
 intro k0 k1 k2 k3
 have l0:k0.toNat<=1:=yb
 have l1:k1.toNat<=1:=yb
 have l2:k2.toNat<=1:=yb
 have l3:k3.toNat<=1:=yb
 refine ⟨⟨l0,l1,l2⟩,?_⟩
 have h:=R8 (Ae (x:=a.w0) (y:=b.w0) (c:=0) (by decide)) (R8 (Ae (x:=a.w1) (y:=b.w1) l0) (R8 (Ae (x:=a.w2) (y:=b.w2) l1) (Ae (x:=a.w3) (y:=b.w3) l2)))
 rw [show (0:UInt64).toNat=0 from rfl,Nat.add_zero] at h
 unfold eg
 have hs:=jq ⟨qe a.w0 b.w0 0,qe a.w1 b.w1 k0,qe a.w2 b.w2 k1,qe a.w3 b.w3 k2⟩
 have h':a.nat+18446744073709551616*(18446744073709551616*(18446744073709551616*(18446744073709551616*k3.toNat)))=aa.nat ⟨qe a.w0 b.w0 0,qe a.w1 b.w1 k0,qe a.w2 b.w2 k1,qe a.w3 b.w3 k2⟩+b.nat:=h
 have ha:=jq a
 have hb:=jq b
 have hS:=jq ⟨qe a.w0 b.w0 0,qe a.w1 b.w1 k0,qe a.w2 b.w2 k1,qe a.w3 b.w3 k2⟩
 have e1:ofN (a.nat+115792089237316195423570985008687907853269984665640564039457584007913129639936-b.nat)=⟨qe a.w0 b.w0 0,qe a.w1 b.w1 k0,qe a.w2 b.w2 k1,qe a.w3 b.w3 k2⟩:=by
  apply qL
  rw [TA]
  generalize aa.nat ⟨qe a.w0 b.w0 0,qe a.w1 b.w1 k0,qe a.w2 b.w2 k1,qe a.w3 b.w3 k2⟩=S at*
  omega
 rw [e1]
 congr 1
 generalize aa.nat ⟨qe a.w0 b.w0 0,qe a.w1 b.w1 k0,qe a.w2 b.w2 k1,qe a.w3 b.w3 k2⟩=S at*
 have hk:k3.toNat=0\/k3.toNat=1:=by omega
 rcases hk with hk|hk
 ·have e:k3=0:=UInt64.toNat_inj.1 hk
  rw [hk] at h'
  rw [e]
  cases hq:Nat.blt a.nat b.nat
  ·rfl
  ·have:=dy hq
   omega
 ·have e:(k3==0)=false:=by
   have:¬k3=0:=λe=>by rw [e] at hk;cases hk
   simpa using this
  rw [hk] at h'
  rw [e]
  exact Nat.ble_eq_true_of_le (show a.nat+1<=b.nat by omega)
def lst (e:aa):List UInt64:= [e.w0,e.w1,e.w2,e.w3]
def elemOf (l:List UInt64):aa:=⟨l.getD 0 0,l.getD 1 0,l.getD 2 0,l.getD 3 0⟩
theorem aS {l:List UInt64} (h:l.length=4):lst (elemOf l)=l:=by
 match l,h with
 | [a,b,c,d],_=>rfl
theorem anS (e:aa):elemOf (lst e)=e:=rfl
theorem cG (e:aa):(lst e).length=4:=rfl
theorem rf {h l y:UInt64} (hy:0<y.toNat):(Zf h l y).toNat=(h.toNat*18446744073709551616+l.toNat)%y.toNat:=by
 unfold Zf
 rw [UInt64.toNat_ofNat']
 exact Nat.mod_eq_of_lt (Nat.lt_trans (Nat.mod_lt _ hy) y.toNat_lt)
theorem TU (r x m:Nat):(r%m*18446744073709551616+x)%m=(r*18446744073709551616+x)%m:=by
 rw [Nat.add_mod,Nat.mul_mod,Nat.mod_mod,<-Nat.mul_mod,<-Nat.add_mod]
theorem afM (a b:aa):(eg a b).2=Nat.blt a.nat b.nat:=rfl
theorem mN {a b:aa} (h:b.nat<=a.nat):(eg a b).1.nat=a.nat-b.nat:=by
 have ha:=jq a
 show (ofN _).nat=_
 rw [TA]
 omega
theorem aeY {w N r:Nat} (hr:r<64):(w+18446744073709551616*N)/2^r%2=w/2^r%2:=by
 have e:18446744073709551616*N=2^r*(2*(2^(63-r)*N)):=by
  rw [<-Nat.mul_assoc,<-Nat.mul_assoc,Nat.mul_comm (2^r) 2,Nat.mul_assoc 2,<-Nat.pow_add,show r+(63-r)=63 by omega]
 rw [e,Nat.add_mul_div_left _ _ (Nat.two_pow_pos r),Nat.add_mul_mod_self_left]
theorem Dv {w N:Nat} (hw:w<18446744073709551616) (r:Nat):(w+18446744073709551616*N)/2^(64+r)=N/2^r:=by
 rw [Nat.pow_add,<-Nat.div_div_eq_div_mul,show 2^64=18446744073709551616 from rfl,show (w+18446744073709551616*N)/18446744073709551616=N by omega]
theorem rm {a:aa} {q r:Nat} (hq:q<4) (hr:r<64):((lst a).getD q 0).toNat/2^r%2=a.nat/2^(64*q+r)%2:=by
 have h0:=a.w0.toNat_lt
 have h1:=a.w1.toNat_lt
 have h2:=a.w2.toNat_lt
 unfold Sx.aa.nat
 have hq':q=0\/q=1\/q=2\/q=3:=by omega
 rcases hq' with rfl|rfl|rfl|rfl
 ·rw [Nat.mul_zero,Nat.zero_add,aeY hr];rfl
 ·rw [show 64*1+r=64+r by omega,Dv h0,aeY hr];rfl
 ·rw [show 64*2+r=64+(64+r) by omega,Dv h0,Dv h1,aeY hr];rfl
 ·rw [show 64*3+r=64+(64+(64+r)) by omega,Dv h0,Dv h1,Dv h2];rfl
def ae0 (n i:Nat):Bool:=Nat.beq (n/2^i%2) 1
theorem Vb (x:UInt64):(x&&&1==1)=Nat.beq (x.toNat%2) 1:=by
 have e:(x&&&1).toNat=x.toNat%2:=by
  rw [UInt64.toNat_and]
  exact Nat.and_two_pow_sub_one_eq_mod x.toNat 1
 rw [<-e]
 by_cases h:x&&&1=1
 ·rw [h];rfl
 ·have h':¬(x&&&1).toNat=1:=λh'=>h (UInt64.toNat_inj.1 h')
  have h2:Nat.beq (x&&&1).toNat 1=false:=by
   cases hb:Nat.beq (x&&&1).toNat 1
   ·rfl
   ·exact absurd (Nat.eq_of_beq_eq_true hb) h'
  rw [h2]
  simpa using h
theorem azH (x:aa):(x.w0&&&1==1)=(x.w0%2==1):=by
 have h:=Vb x.w0
 rw [h]
 have h2:(x.w0%2).toNat=x.w0.toNat%2:=by rw [UInt64.toNat_mod];rfl
 rw [<-h2]
 by_cases h:x.w0%2=1
 ·rw [h];rfl
 ·have hn:¬(x.w0%2).toNat=1:=λe=>h (UInt64.toNat_inj.1 e)
  have:Nat.beq (x.w0%2).toNat 1=false:=by
   cases hb:Nat.beq (x.w0%2).toNat 1
   ·rfl
   ·exact absurd (Nat.eq_of_beq_eq_true hb) hn
  rw [this]
  symm
  simpa using h
abbrev Hx:Ty:=.prod .elem (.prod .elem (.prod .elem .bool))
end Go.Proofs.YtohjofabochgfaaGreat

namespace Go.Proofs.YtohjofabochgfaaGreat
open Sx Go
set_option maxRecDepth 100000
def Vi:aw:=⟨[.val false .u64,.val false .u64,.val false .u64],[],true,0,false⟩
abbrev av9:Type:=((UInt64)×(UInt64)×(UInt64)×Unit)×(Unit)
def av8:az:=⟨[.val false .u64,.val false .u64],[],false⟩
def Fw (x:av9):Bool:=decide (x.1.2.2.1.toNat<=1)
def akG (x:av9):OT Vi.Y:=.ok ⟨av8,((xn x.1.1 x.1.2.1 x.1.2.2.1,zS x.1.1 x.1.2.1 x.1.2.2.1,()),())⟩
theorem aoA (a b c:UInt64) (hc:c.toNat<=1) (w:World):(callFunc 151 #[ic a,ic b,ic c]).run Tryz.prog w=.ok (.value (.tuple #[ic (xn a b c),ic (zS a b c)])) w:=by
 unfold ic
 rw [run_callFunc_extern Tryz.func151 (by kernel_rfl) (by kernel_rfl) (by kernel_rfl) (e:=add64Entry) (by kernel_rfl),run_add64 (a.toNat:Int) (b.toNat:Int) (c.toNat:Int) (by omega) (by omega) (by omega) (by omega)]
 have ha:=a.toNat_lt
 have hb:=b.toNat_lt
 have e1:(((xn a b c).toNat:Nat):Int)=((a.toNat:Int)+b.toNat+c.toNat)%18446744073709551616:=by
  unfold xn
  rw [UInt64.toNat_ofNat',Nat.mod_eq_of_lt (by omega)]
  omega
 have e2:(((zS a b c).toNat:Nat):Int)=((a.toNat:Int)+b.toNat+c.toNat)/18446744073709551616:=by
  unfold zS
  rw [UInt64.toNat_ofNat',Nat.mod_eq_of_lt (by omega)]
  omega
 rw [e1,e2]
 rfl
theorem av7:ac Tryz.prog 151 (Vi.aI Fw akG):=by
 refine aB0 (k:=0) (by kernel_rfl) λx oy vs N w hp ho hr=> ?_
 obtain ⟨⟨a,b,c,⟨⟩⟩,⟨⟩⟩:=x
 cases ho
 have hc:c.toNat<=1:=of_decide_eq_true hp
 have hr':SV.ci N [.u64 a,.u64 b,.u64 c] vs:=hr
 simp only [SV.ci,SV.rel] at hr'
 obtain ⟨_,_,rfl,rfl,_,_,rfl,rfl,_,_,rfl,rfl,rfl⟩:=hr'
 refine ⟨.tup [.u64 (xn a b c),.u64 (zS a b c)],_,aoA a b c hc w,?_,⟨rfl,by kernel_rfl⟩⟩
 simp only [SV.rel]
 exact ⟨_,rfl,by simp only [SV.ci,SV.rel];exact ⟨_,_,rfl,rfl,_,_,rfl,rfl,rfl⟩⟩
def zo:cj:=(Vi.aI Fw akG)
theorem aah:ac Tryz.prog 151 zo:=av7
theorem aag:aG zo:=aA
def VK:Env:=ay 151 zo afB
theorem afD:aR Tryz.prog VK:=ag aah aoU
theorem VJ:ax VK:=ae aag aaQ
def U4:aw:=⟨[.val false .u64,.val false .u64,.val false .u64],[],true,0,false⟩
abbrev avF:Type:=((UInt64)×(UInt64)×(UInt64)×Unit)×(Unit)
def avE:az:=⟨[.val false .u64,.val false .u64],[],false⟩
def Fk (x:avF):Bool:=decide (x.1.2.2.1.toNat<=1)
def akm (x:avF):OT U4.Y:=.ok ⟨avE,((qe x.1.1 x.1.2.1 x.1.2.2.1,VM x.1.1 x.1.2.1 x.1.2.2.1,()),())⟩
def aBC:Array Value->Sem Value:=λargs=>do
 let (x,y,b) <-Extern.MathBitsCarry.three "Sub64" args
 pure (Extern.MathBitsCarry.pair ((x+Extern.MathBitsCarry.m64-y-b)%Extern.MathBitsCarry.m64) (if x<y+b then 1 else 0))
theorem ak7 {P:Program} (x y b:Nat) (hb:b<=1) (w:World):
 (aBC #[.int .u64 x,.int .u64 y,.int .u64 b]).run P w=
  .ok (.tuple #[.int .u64 (((x+18446744073709551616-y-b)%18446744073709551616:Nat):Int),.int .u64 ((if x<y+b then 1 else 0:Nat):Int)]) w:=by
 have:b=0\/b=1:=by omega
 rcases this with rfl|rfl<;>rfl
theorem aon (a b c:UInt64) (hc:c.toNat<=1) (w:World):(callFunc 153 #[ic a,ic b,ic c]).run Tryz.prog w=.ok (.value (.tuple #[ic (qe a b c),ic (VM a b c)])) w:=by
 unfold ic
 rw [run_callFunc_extern Tryz.func153 (by kernel_rfl) (by kernel_rfl) (by kernel_rfl) (e:=aBC) (by kernel_rfl),ak7 a.toNat b.toNat c.toNat (by omega)]
 have ha:=a.toNat_lt
 have hb:=b.toNat_lt
 have e1:(qe a b c).toNat=(a.toNat+18446744073709551616-b.toNat-c.toNat)%18446744073709551616:=by
  unfold qe
  rw [UInt64.toNat_ofNat',Nat.mod_eq_of_lt (by omega)]
 have e2:(VM a b c).toNat=if a.toNat<b.toNat+c.toNat then 1 else 0:=by
  unfold VM
  rw [UInt64.toNat_ofNat',Nat.mod_eq_of_lt (by split<;>omega)]
 rw [e1,e2]
 rfl
theorem avD:ac Tryz.prog 153 (U4.aI Fk akm):=by
 refine aB0 (k:=0) (by kernel_rfl) λx oy vs N w hp ho hr=> ?_
 obtain ⟨⟨a,b,c,⟨⟩⟩,⟨⟩⟩:=x
 cases ho
 have hc:c.toNat<=1:=of_decide_eq_true hp
 have hr':SV.ci N [.u64 a,.u64 b,.u64 c] vs:=hr
 simp only [SV.ci,SV.rel] at hr'
 obtain ⟨_,_,rfl,rfl,_,_,rfl,rfl,_,_,rfl,rfl,rfl⟩:=hr'
 refine ⟨.tup [.u64 (qe a b c),.u64 (VM a b c)],_,aon a b c hc w,?_,⟨rfl,by kernel_rfl⟩⟩
 simp only [SV.rel]
 exact ⟨_,rfl,by simp only [SV.ci,SV.rel];exact ⟨_,_,rfl,rfl,_,_,rfl,rfl,rfl⟩⟩
def zh:cj:=(U4.aI Fk akm)
theorem ZK:ac Tryz.prog 153 zh:=avD
theorem ZJ:aG zh:=aA
def Dd:Env:=ay 153 zh VK
theorem zI:aR Tryz.prog Dd:=ag ZK afD
theorem Dc:ax Dd:=ae ZJ VJ
theorem aaS:aW Tryz.prog te Dd:=aK follows aq zI Dc
def jk:aw:=⟨[.val false .u64,.val false .u64],[],true,0,false⟩
abbrev Fp:Type:=((UInt64)×(UInt64)×Unit)×(Unit)
def Ms:az:=⟨[.val false .u64,.val false .u64],[],false⟩
def Rp:SV->Option az:=λ_=>some Ms
def Iq (a0:UInt64) (a1:UInt64):OT jk.Y:=
 let z0:UInt64:=bf a0 (32:Int)
 let z1:UInt64:=bf a1 (32:Int)
 let z2:UInt64:=z0*(a1&&&(4294967295:UInt64))+bf ((a0&&&(4294967295:UInt64))*(a1&&&(4294967295:UInt64))) (32:Int)
 (.ok ⟨Ms,((z0*z1+bf z2 (32:Int)+bf ((z2&&&(4294967295:UInt64))+(a0&&&(4294967295:UInt64))*z1) (32:Int),(a0*a1,())),())⟩)
theorem aAW (x:Fp) (Q:jk.Y->Prop):wpf te Dd av 1000 Tryz.f165 (jk.inp.inj x).tm (jk.inp.inj x).hp (fnK jk Rp Q) (λ_ _=>False)=(Iq (x.1.1) (x.1.2.1)).wpR Q:=by kernel_rfl
theorem aeS (pre:Fp->Bool) (F:Fp->OT jk.Y) (hF:∀ (x:Fp) oy,pre x=true->(F x).run=some oy->(Iq (x.1.1) (x.1.2.1)).run=some oy):ac Tryz.prog 165 (jk.aI pre F):=
 aD aq zI aaS (f:=165) (fn:=Tryz.f165) (c:=aj Tryz.f165) (by kernel_rfl) (by kernel_rfl) (by kernel_rfl) (S:=jk) (k:=0) (by kernel_rfl) (λR hR=>af) (n:=1000) (sel:=Rp) (λv o h=>by cases h;rfl) (pre:=pre) (F:=F) (T:=λx=>Iq (x.1.1) (x.1.2.1)) (λx Q=>aAW x Q) hF
def Rq (_:Fp):Bool:=true
def U8 (x:Fp):OT jk.Y:=.ok ⟨Ms,((aws x.1.1 x.1.2.1,(x.1.1*x.1.2.1,())),())⟩
theorem avL:ac Tryz.prog 165 (jk.aI Rq U8):=aeS _ _ λx oy _ ho=>by
 rw [<-ho]
 simp only [U8,Iq,aHS]
def zk:cj:=(jk.aI Rq U8)
theorem ZS:ac Tryz.prog 165 zk:=avL
theorem ZR:aG zk:=aA
def Dk:Env:=ay 165 zk Dd
theorem zL:aR Tryz.prog Dk:=ag ZS zI
theorem Dj:ax Dk:=ae ZR Dc
theorem aaW:aW Tryz.prog te Dk:=aK follows aq zL Dj
def jl:aw:=⟨[.val false .u64],[],true,0,false⟩
abbrev Ft:Type:=((UInt64)×Unit)×(Unit)
def fg:az:=⟨[.val false .int],[],false⟩
def Rs:SV->Option az:=λ_=>some fg
def B1 (a0:UInt64):OT jl.Y:=
 let z0:UInt64:=bf a0 (32:Int)
 let z1:UInt64:=bf z0 (16:Int)
 let z2:Int:=(↑(UInt8.toNat (UInt64.toUInt8 (bf z1 (8:Int)))):Int)
 let z3:List UInt8:=List.replicate 64 (8:UInt8)
 let z4:List UInt8:=List.append (List.append [(0:UInt8),(1:UInt8),(2:UInt8),(2:UInt8),(3:UInt8),(3:UInt8),(3:UInt8),(3:UInt8),(4:UInt8),(4:UInt8),(4:UInt8),(4:UInt8),(4:UInt8),(4:UInt8),(4:UInt8),(4:UInt8),(5:UInt8),(5:UInt8),(5:UInt8),(5:UInt8),(5:UInt8),(5:UInt8),(5:UInt8),(5:UInt8),(5:UInt8),(5:UInt8),(5:UInt8),(5:UInt8),(5:UInt8),(5:UInt8),(5:UInt8),(5:UInt8),(6:UInt8),(6:UInt8),(6:UInt8),(6:UInt8),(6:UInt8),(6:UInt8),(6:UInt8),(6:UInt8),(6:UInt8),(6:UInt8),(6:UInt8),(6:UInt8),(6:UInt8),(6:UInt8),(6:UInt8),(6:UInt8),(6:UInt8),(6:UInt8),(6:UInt8),(6:UInt8),(6:UInt8),(6:UInt8),(6:UInt8),(6:UInt8),(6:UInt8),(6:UInt8),(6:UInt8),(6:UInt8),(6:UInt8),(6:UInt8),(6:UInt8),(6:UInt8)] (List.replicate 64 (7:UInt8))) (List.append z3 z3)
 let z5:Int:=(56:Int)+(↑(UInt8.toNat (List.getD z4 (Int.toNat z2) (0:UInt8))):Int)
 let z6:Int:=(↑(UInt8.toNat (UInt64.toUInt8 z1)):Int)
 let z7:Int:=(48:Int)+(↑(UInt8.toNat (List.getD z4 (Int.toNat z6) (0:UInt8))):Int)
 let z8:Int:=(↑(UInt8.toNat (UInt64.toUInt8 (bf z0 (8:Int)))):Int)
 let z9:Int:=(40:Int)+(↑(UInt8.toNat (List.getD z4 (Int.toNat z8) (0:UInt8))):Int)
 let z10:Int:=(↑(UInt8.toNat (UInt64.toUInt8 z0)):Int)
 let z11:Int:=(32:Int)+(↑(UInt8.toNat (List.getD z4 (Int.toNat z10) (0:UInt8))):Int)
 let z12:UInt64:=bf a0 (16:Int)
 let z13:Int:=(↑(UInt8.toNat (UInt64.toUInt8 (bf z12 (8:Int)))):Int)
 let z14:Int:=(24:Int)+(↑(UInt8.toNat (List.getD z4 (Int.toNat z13) (0:UInt8))):Int)
 let z15:Int:=(↑(UInt8.toNat (UInt64.toUInt8 z12)):Int)
 let z16:Int:=(16:Int)+(↑(UInt8.toNat (List.getD z4 (Int.toNat z15) (0:UInt8))):Int)
 let z17:Int:=(↑(UInt8.toNat (UInt64.toUInt8 (bf a0 (8:Int)))):Int)
 let z18:Int:=(8:Int)+(↑(UInt8.toNat (List.getD z4 (Int.toNat z17) (0:UInt8))):Int)
 let z19:Int:=(↑(UInt8.toNat (UInt64.toUInt8 a0)):Int)
 let z20:Int:=(0:Int)+(↑(UInt8.toNat (List.getD z4 (Int.toNat z19) (0:UInt8))):Int)
 (.br (decide ((4294967296:UInt64)<=a0))
 (.br (decide ((65536:UInt64)<=z0))
  (.br (decide ((256:UInt64)<=z1))
   (gd [inB z2 256,inR z5] (.ok ⟨fg,((z5,()),())⟩))
   (gd [inB z6 256,inR z7] (.ok ⟨fg,((z7,()),())⟩)))
  (.br (decide ((256:UInt64)<=z0))
   (gd [inB z8 256,inR z9] (.ok ⟨fg,((z9,()),())⟩))
   (gd [inB z10 256,inR z11] (.ok ⟨fg,((z11,()),())⟩))))
 (.br (decide ((65536:UInt64)<=a0))
  (.br (decide ((256:UInt64)<=z12))
   (gd [inB z13 256,inR z14] (.ok ⟨fg,((z14,()),())⟩))
   (gd [inB z15 256,inR z16] (.ok ⟨fg,((z16,()),())⟩)))
  (.br (decide ((256:UInt64)<=a0))
   (gd [inB z17 256,inR z18] (.ok ⟨fg,((z18,()),())⟩))
   (gd [inB z19 256,inR z20] (.ok ⟨fg,((z20,()),())⟩)))))
theorem aAY (x:Ft) (Q:jl.Y->Prop):wpf te Dk av 1000 Tryz.f166 (jl.inp.inj x).tm (jl.inp.inj x).hp (fnK jl Rs Q) (λ_ _=>False)=(B1 (x.1.1)).wpR Q:=by kernel_rfl
theorem aeX (pre:Ft->Bool) (F:Ft->OT jl.Y) (hF:∀ (x:Ft) oy,pre x=true->(F x).run=some oy->(B1 (x.1.1)).run=some oy):ac Tryz.prog 166 (jl.aI pre F):=
 aD aq zL aaW (f:=166) (fn:=Tryz.f166) (c:=aj Tryz.f166) (by kernel_rfl) (by kernel_rfl) (by kernel_rfl) (S:=jl) (k:=0) (by kernel_rfl) (λR hR=>af) (n:=1000) (sel:=Rs) (λv o h=>by cases h;rfl) (pre:=pre) (F:=F) (T:=λx=>B1 (x.1.1)) (λx Q=>aAY x Q) hF
def fT (x:UInt64):Bool:=(x==16513537)||(x==16521217)
theorem dV {x:UInt64} (h:fT x=true):x=16513537\/x=16521217:=by
 simpa [fT] using h
def Fs (x:Ft):Bool:=fT x.1.1
def akw (_:Ft):OT jl.Y:=.ok ⟨fg,(((24:Int),()),())⟩
theorem ZX:(B1 16513537).run=some ⟨fg,(((24:Int),()),())⟩/\(B1 16521217).run=some ⟨fg,(((24:Int),()),())⟩:=⟨by kernel_rfl,by kernel_rfl⟩
theorem avP:ac Tryz.prog 166 (jl.aI Fs akw):=aeX _ _ λx oy hp ho=>by
 rw [<-ho]
 clear ho
 obtain ⟨⟨x,⟨⟩⟩,⟨⟩⟩:=x
 rcases dV hp with h|h
 ·have h:x=16513537:=h
  subst h
  exact ZX.1
 ·have h:x=16521217:=h
  subst h
  exact ZX.2
def zl:cj:=(jl.aI Fs akw)
theorem ZW:ac Tryz.prog 166 zl:=avP
theorem ZV:aG zl:=aA
def Dm:Env:=ay 166 zl Dk
theorem zO:aR Tryz.prog Dm:=ag ZW zL
theorem Dl:ax Dm:=ae ZV Dj
theorem aaY:aW Tryz.prog te Dm:=aK follows aq zO Dl
def mr:aw:=⟨[.val false .u64],[],true,0,false⟩
abbrev Rr:Type:=((UInt64)×Unit)×(Unit)
def U9:az:=⟨[.val false .int],[],false⟩
def ZT:SV->Option az:=λ_=>some U9
def aeW (a0:UInt64):OT mr.Y:=
 (gd [Fs ((a0,()),())] (.ok ⟨U9,(((40:Int),()),())⟩))
theorem aGx (x:Rr) (Q:mr.Y->Prop):wpf te Dm av 1000 Tryz.f154 (mr.inp.inj x).tm (mr.inp.inj x).hp (fnK mr ZT Q) (λ_ _=>False)=(aeW (x.1.1)).wpR Q:=by kernel_rfl
theorem aox (pre:Rr->Bool) (F:Rr->OT mr.Y) (hF:∀ (x:Rr) oy,pre x=true->(F x).run=some oy->(aeW (x.1.1)).run=some oy):ac Tryz.prog 154 (mr.aI pre F):=
 aD aq zO aaY (f:=154) (fn:=Tryz.f154) (c:=aj Tryz.f154) (by kernel_rfl) (by kernel_rfl) (by kernel_rfl) (S:=mr) (k:=0) (by kernel_rfl) (λR hR=>af) (n:=1000) (sel:=ZT) (λv o h=>by cases h;rfl) (pre:=pre) (F:=F) (T:=λx=>aeW (x.1.1)) (λx Q=>aGx x Q) hF
def Mv (x:Rr):Bool:=fT x.1.1
def avO (_:Rr):OT mr.Y:=.ok ⟨U9,(((40:Int),()),())⟩
theorem aAX:ac Tryz.prog 154 (mr.aI Mv avO):=aox _ _ λx oy hp ho=>by
 rw [<-ho]
 clear ho
 obtain ⟨⟨x,⟨⟩⟩,⟨⟩⟩:=x
 have hp:fT x=true:=hp
 refine (ah ?_).trans rfl
 simp only [List.all_cons,List.all_nil,Bool.and_true,Bool.and_eq_true]
 first|exact hp|exact ⟨hp,rfl⟩
def Fq:cj:=(mr.aI Mv avO)
theorem aeV:ac Tryz.prog 154 Fq:=aAX
theorem aeU:aG Fq:=aA
def zN:Env:=ay 154 Fq Dm
theorem pW:aR Tryz.prog zN:=ag aeV zO
theorem Ht:ax zN:=ae aeU Dl
theorem zM:aW Tryz.prog te zN:=aK follows aq pW Ht
def gO:aw:=⟨[.val false .u64,.val false .u64,.val false .u64],[],true,0,false⟩
abbrev Fu:Type:=((UInt64)×(UInt64)×(UInt64)×Unit)×(Unit)
def ux:Shape:=⟨135,[(2,.val false .u64),(8,.val false .u64),(9,.val false .u64),(10,.val false .u64),(11,.val false .u64),(13,.val false .u64),(14,.val false .u64),(15,.val false .u64),(16,.val false .u64)],[],0,true⟩
abbrev cK:Type:=((UInt64)×(UInt64)×(UInt64)×(UInt64)×(UInt64)×(UInt64)×(UInt64)×(UInt64)×(UInt64)×Unit)×(Unit)
def mw:Shape:=⟨135,[(2,.val false .u64),(8,.val false .u64),(9,.val false .u64),(10,.val false .u64),(11,.val false .u64),(13,.val false .u64),(14,.val false .u64),(15,.val false .u64)],[],0,true⟩
abbrev ke:Type:=((UInt64)×(UInt64)×(UInt64)×(UInt64)×(UInt64)×(UInt64)×(UInt64)×(UInt64)×Unit)×(Unit)
def Z5:SE->Option Shape:=fw [(0,mw)] none
def avZ (a2:UInt64) (a8:UInt64) (a9:UInt64) (a10:UInt64) (a11:UInt64) (a13:UInt64) (a14:UInt64) (a15:UInt64) (a16:UInt64):OT (Sum cK aE):=
 let z0:Bool:=decide ((4294967296:UInt64)<=a16+a9)
 (.br (decide ((4294967296:UInt64)<=a15))
 (.br (z0)
  (.ok (.inr ⟨(.exit 0,mw),((a2,(a8,(a9,(a10,(a11,(a13,(a14,(a15-(1:UInt64),())))))))),())⟩))
  (.ok (.inl ((a2,(a8,(a9,(a10,(a11,(a13,(a14,(a15-(1:UInt64),(a16+a9,()))))))))),()))))
 (.br (decide ((4294967296:UInt64)*a16+a13<a15*a10))
  (.br (z0)
   (.ok (.inr ⟨(.exit 0,mw),((a2,(a8,(a9,(a10,(a11,(a13,(a14,(a15-(1:UInt64),())))))))),())⟩))
   (.ok (.inl ((a2,(a8,(a9,(a10,(a11,(a13,(a14,(a15-(1:UInt64),(a16+a9,()))))))))),()))))
  (.ok (.inr ⟨(.exit 0,mw),((a2,(a8,(a9,(a10,(a11,(a13,(a14,(a15,())))))))),())⟩))))
def B6 (s:cK):OT (Sum cK aE):=avZ (s.1.1) (s.1.2.1) (s.1.2.2.1) (s.1.2.2.2.1) (s.1.2.2.2.2.1) (s.1.2.2.2.2.2.1) (s.1.2.2.2.2.2.2.1) (s.1.2.2.2.2.2.2.2.1) (s.1.2.2.2.2.2.2.2.2.1)
theorem avU (s:cK) (Q:Sum cK aE->Prop):wps te zN av 1000 (aU (aj Tryz.f128) 0) (ux.inj s) (bX ux Z5 (Q:Sum ux.T aE->Prop))=(B6 s).wpR Q:=by kernel_rfl
def B4 (g0_0:cK->ke) (s:cK):OT aE:=(.ok ⟨(.exit 0,mw),g0_0 s⟩)
def uw:Shape:=⟨135,[(2,.val false .u64),(8,.val false .u64),(9,.val false .u64),(10,.val false .u64),(14,.val false .u64),(15,.val false .u64),(16,.val false .u64),(17,.val false .u64),(18,.val false .u64)],[],0,true⟩
abbrev cJ:Type:=((UInt64)×(UInt64)×(UInt64)×(UInt64)×(UInt64)×(UInt64)×(UInt64)×(UInt64)×(UInt64)×Unit)×(Unit)
def mv:Shape:=⟨135,[(2,.val false .u64),(8,.val false .u64),(14,.val false .u64),(15,.val false .u64),(17,.val false .u64),(18,.val false .u64)],[],0,true⟩
abbrev kc:Type:=((UInt64)×(UInt64)×(UInt64)×(UInt64)×(UInt64)×(UInt64)×Unit)×(Unit)
def Z4:SE->Option Shape:=fw [(2,mv)] none
def avY (a2:UInt64) (a8:UInt64) (a9:UInt64) (a10:UInt64) (a14:UInt64) (a15:UInt64) (a16:UInt64) (a17:UInt64) (a18:UInt64):OT (Sum cJ aE):=
 let z0:Bool:=decide ((4294967296:UInt64)<=a16+a9)
 (.br (decide ((4294967296:UInt64)<=a18))
 (.br (z0)
  (.ok (.inr ⟨(.exit 2,mv),((a2,(a8,(a14,(a15,(a17,(a18-(1:UInt64),())))))),())⟩))
  (.ok (.inl ((a2,(a8,(a9,(a10,(a14,(a15,(a16+a9,(a17,(a18-(1:UInt64),()))))))))),()))))
 (.br (decide ((4294967296:UInt64)*a16+a14<a18*a10))
  (.br (z0)
   (.ok (.inr ⟨(.exit 2,mv),((a2,(a8,(a14,(a15,(a17,(a18-(1:UInt64),())))))),())⟩))
   (.ok (.inl ((a2,(a8,(a9,(a10,(a14,(a15,(a16+a9,(a17,(a18-(1:UInt64),()))))))))),()))))
  (.ok (.inr ⟨(.exit 2,mv),((a2,(a8,(a14,(a15,(a17,(a18,())))))),())⟩))))
def B5 (s:cJ):OT (Sum cJ aE):=avY (s.1.1) (s.1.2.1) (s.1.2.2.1) (s.1.2.2.2.1) (s.1.2.2.2.2.1) (s.1.2.2.2.2.2.1) (s.1.2.2.2.2.2.2.1) (s.1.2.2.2.2.2.2.2.1) (s.1.2.2.2.2.2.2.2.2.1)
theorem avT (s:cJ) (Q:Sum cJ aE->Prop):wps te zN av 1000 (aU (aj Tryz.f128) 2) (uw.inj s) (bX uw Z4 (Q:Sum uw.T aE->Prop))=(B5 s).wpR Q:=by kernel_rfl
def B3 (g2_2:cJ->kc) (s:cJ):OT aE:=(.ok ⟨(.exit 2,mv),g2_2 s⟩)
def pB:az:=⟨[.val false .u64,.val false .u64],[],false⟩
def Rt:SV->Option az:=λ_=>some pB
def Is (ok0:cK->Bool) (g0_0:cK->ke) (ok2:cJ->Bool) (g2_2:cJ->kc) (a0:UInt64) (a1:UInt64) (a2:UInt64):OT gO.Y:=
 let z0:Bool:= !a2==(0:UInt64)
 let z1:UInt64:=bR a2 (40:Int)
 let z2:UInt64:=bf z1 (32:Int)
 let z3:UInt64:=bR a0 (40:Int)|||bf a1 (24:Int)
 let z4:UInt64:=bR a1 (40:Int)
 let z5:UInt64:=z3/z2
 let z6:(UInt64×UInt64×UInt64×UInt64×UInt64×UInt64×UInt64×UInt64×UInt64×PUnit)×PUnit:=((z1,(40:UInt64),z2,z1&&&(4294967295:UInt64),z3,bf z4 (32:Int),z4&&&(4294967295:UInt64),z5,z3-z5*z2,()),())
 let z7:=(g0_0 z6).fst
 let z8:=z7.snd
 let z9:=z8.snd
 let z10:=z9.fst
 let z11:=z7.fst
 let z12:=z9.snd
 let z13:=z12.snd
 let z14:=z13.snd
 let z15:=z14.snd
 let z16:=z15.snd.fst
 let z17:UInt64:=z13.fst*(4294967296:UInt64)+z14.fst-z16*z11
 let z18:UInt64:=z17/z10
 let z19:(UInt64×UInt64×UInt64×UInt64×UInt64×UInt64×UInt64×UInt64×UInt64×PUnit)×PUnit:=((z11,z8.fst,z10,z12.fst,z15.fst,z16,z17-z18*z10,z17,z18,()),())
 let z20:=(g2_2 z19).fst
 let z21:=z20.snd
 let z22:=z21.snd
 let z23:=z22.snd
 let z24:=z23.snd
 let z25:=z24.snd.fst
 (.br (a2==(0:UInt64))
 .fail
 (.br (decide (a2<=a0))
  .fail
  (.br (a0==(0:UInt64))
   (gd [z0,z0] (.ok ⟨pB,((a1/a2,(a1%a2,())),())⟩))
   (gd [Mv ((a2,()),()),!z2==(0:UInt64),ok0 z6,!z10==(0:UInt64),ok2 z19] (.ok ⟨pB,((z23.fst*(4294967296:UInt64)+z25,(bf (z24.fst*(4294967296:UInt64)+z22.fst-z25*z20.fst) (↑(UInt64.toNat z21.fst):Int),())),())⟩)))))
theorem aA0 (ok0:cK->Bool) (g0_0:cK->ke) (ok2:cJ->Bool) (g2_2:cJ->kc) (x:Fu) (Q:gO.Y->Prop):wpf te zN (aO 2 (cg uw 2 ok2 (B3 g2_2)) (aO 0 (cg ux 0 ok0 (B4 g0_0)) av)) 1000 Tryz.f128 (gO.inp.inj x).tm (gO.inp.inj x).hp (fnK gO Rt Q) (λ_ _=>False)=(Is ok0 g0_0 ok2 g2_2 (x.1.1) (x.1.2.1) (x.1.2.2.1)).wpR Q:=by kernel_rfl
theorem ae3 (ok0:cK->Bool) (g0_0:cK->ke) (ok2:cJ->Bool) (g2_2:cJ->kc) (h0:∀ s:cK,ok0 s=true->∃ m e,ao (B6) m s=some e/\(B4 g0_0 s).run=some e) (h2:∀ s:cJ,ok2 s=true->∃ m e,ao (B5) m s=some e/\(B3 g2_2 s).run=some e) (pre:Fu->Bool) (F:Fu->OT gO.Y) (hF:∀ (x:Fu) oy,pre x=true->(F x).run=some oy->(Is ok0 g0_0 ok2 g2_2 (x.1.1) (x.1.2.1) (x.1.2.2.1)).run=some oy):ac Tryz.prog 128 (gO.aI pre F):=
 aD aq pW zM (f:=128) (fn:=Tryz.f128) (c:=aj Tryz.f128) (by kernel_rfl) (by kernel_rfl) (by kernel_rfl) (S:=gO) (k:=0) (by kernel_rfl) (λR hR=>(aB (c:=(aj Tryz.f128)) (by kernel_rfl) (id:=2) (by kernel_rfl) (aQ aq pW zM (sh:=uw) hR (xs:=Z4) (aC (by kernel_rfl) (by kernel_rfl) hR) aL af (n:=1000) (T:=B5) (λs Q=>avT s Q) (ok:=ok2) (f:=B3 g2_2) h2) (aB (c:=(aj Tryz.f128)) (by kernel_rfl) (id:=0) (by kernel_rfl) (aQ aq pW zM (sh:=ux) hR (xs:=Z5) (aC (by kernel_rfl) (by kernel_rfl) hR) aL af (n:=1000) (T:=B6) (λs Q=>avU s Q) (ok:=ok0) (f:=B4 g0_0) h0) af))) (n:=1000) (sel:=Rt) (λv o h=>by cases h;rfl) (pre:=pre) (F:=F) (T:=λx=>Is ok0 g0_0 ok2 g2_2 (x.1.1) (x.1.2.1) (x.1.2.2.1)) (λx Q=>aA0 ok0 g0_0 ok2 g2_2 x Q) hF
def Rv (s:cK):Bool:=decide (s.1.2.2.2.1=0/\s.1.2.2.2.2.2.2.2.1<4294967296)
def aaa (s:cK):ke:=((s.1.1,s.1.2.1,s.1.2.2.1,s.1.2.2.2.1,s.1.2.2.2.2.1,s.1.2.2.2.2.2.1,s.1.2.2.2.2.2.2.1,s.1.2.2.2.2.2.2.2.1,()),())
theorem Ku {a b:UInt64} (h:b<a):decide (a<=b)=false:=decide_eq_false (by rw [UInt64.le_iff_toNat_le,UInt64.lt_iff_toNat_lt] at*;omega)
theorem not_lt_zero {a b:UInt64}:decide (a<b*0)=false:=decide_eq_false (by
 have:b*0=0:=by rw [<-UInt64.toNat_inj];simp
 rw [this,UInt64.lt_iff_toNat_lt]
 exact Nat.not_lt_zero _)
theorem avX:∀ s:cK,Rv s=true->∃ m e,ao B6 m s=some e/\(B4 aaa s).run=some e:=by
 rintro ⟨⟨a2,a8,a9,a10,a11,a13,a14,a15,a16,⟨⟩⟩,⟨⟩⟩ h
 have h':=of_decide_eq_true h
 dsimp only at h'
 obtain ⟨rfl,hl⟩:=h'
 exact ⟨1,_,aM ((OT.ar (Ku hl)).trans (OT.ar not_lt_zero)),rfl⟩
def Ru (s:cJ):Bool:=decide (s.1.2.2.2.1=0/\s.1.2.2.2.2.2.2.2.2.1<4294967296)
def Z9 (s:cJ):kc:=((s.1.1,s.1.2.1,s.1.2.2.2.2.1,s.1.2.2.2.2.2.1,s.1.2.2.2.2.2.2.2.1,s.1.2.2.2.2.2.2.2.2.1,()),())
theorem avW:∀ s:cJ,Ru s=true->∃ m e,ao B5 m s=some e/\(B3 Z9 s).run=some e:=by
 rintro ⟨⟨a2,a8,a9,a10,a14,a15,a16,a17,a18,⟨⟩⟩,⟨⟩⟩ h
 have h':=of_decide_eq_true h
 dsimp only at h'
 obtain ⟨rfl,hl⟩:=h'
 exact ⟨1,_,aM ((OT.ar (Ku hl)).trans (OT.ar not_lt_zero)),rfl⟩
def wC (x:Fu):Bool:=fT x.1.2.2.1&&decide (x.1.1<x.1.2.2.1)
def Ve (x:Fu):OT gO.Y:=.ok ⟨pB,((aGS x.1.1 x.1.2.1 x.1.2.2.1,Zf x.1.1 x.1.2.1 x.1.2.2.1,()),())⟩
theorem apb {v z:Nat} (hv:v<4294967296) (hz:z<4294967296):(v*4294967296%2^64+z)%2^64=(v*(256*16777216)+z)%2^64:=by
 rw [Nat.mod_eq_of_lt (a:=v*4294967296) (by omega)]
theorem awy {s:Nat} (hs:s<4294967296):s*4294967296/2^40=s/256%2^64:=by
 rw [Nat.mod_eq_of_lt (by omega),show (2:Nat)^40=256*4294967296 from rfl,Nat.mul_div_mul_right _ _ (by omega)]
theorem Z6 {h l y:UInt64} {m:Nat} (hm:y.toNat=m) (hy:(bR y 40).toNat=m*1099511627776) (hy1:(bf (bR y 40) 32).toNat=m*256) (hy0:bR y 40&&&4294967295=0) (hm0:0<m) (hm1:m<16777216) (hh:h.toNat<m):
 let u:=bR h 40|||bf l 24
 let q1:=u/bf (bR y 40) 32
 let un21:=u*4294967296+bf (bR l 40) 32-q1*bR y 40
 let q0:=un21/bf (bR y 40) 32
 q1<4294967296/\q0<4294967296/\q1*4294967296+q0=aGS h l y/\bf (un21*4294967296+(bR l 40&&&4294967295)-q0*bR y 40) 40=Zf h l y:=by
 intro u q1 un21 q0
 have hl:=l.toNat_lt
 have hu:u.toNat=h.toNat*1099511627776+l.toNat/16777216:=by
  have e1:(bR h 40).toNat=h.toNat*1099511627776:=by
   rw [show ((40:Int))=((40:Nat):Int) from rfl,lq _ _ (by omega)]
   exact Nat.mod_eq_of_lt (by omega)
  have e2:(bf l 24).toNat=l.toNat/16777216:=eU l 24 (by omega)
  simp only [u]
  rw [UInt64.toNat_or,e1,e2,Nat.mul_comm]
  have:=Nat.two_pow_add_eq_or_of_lt (i:=40) (b:=l.toNat/16777216) (by omega) h.toNat
  exact this.symm
 have hun1:(bf (bR l 40) 32).toNat=l.toNat%16777216*256:=by
  rw [show ((32:Int))=((32:Nat):Int) from rfl,eU _ _ (by omega),show ((40:Int))=((40:Nat):Int) from rfl,lq _ _ (by omega)]
  omega
 have hun0:bR l 40&&&4294967295=0:=by
  rw [<-UInt64.toNat_inj,jM,show ((40:Int))=((40:Nat):Int) from rfl,lq _ _ (by omega)]
  show l.toNat*2^40%2^64%4294967296=0
  omega
 have hq1:q1.toNat=u.toNat/(m*256):=by simp only [q1];rw [UInt64.toNat_div,hy1]
 have hN:h.toNat*18446744073709551616+l.toNat=u.toNat*16777216+l.toNat%16777216:=by rw [hu];omega
 have hqr:u.toNat=q1.toNat*(m*256)+u.toNat%(m*256):=by
  rw [hq1,Nat.mul_comm]
  exact (Nat.div_add_mod _ _).symm
 have hr:u.toNat%(m*256)<m*256:=Nat.mod_lt _ (by omega)
 have hul:u.toNat<m*256*4294967296:=by rw [hu];omega
 have hq1l:q1.toNat<4294967296:=by rw [hq1];exact Nat.div_lt_of_lt_mul hul
 generalize hrr:u.toNat%(m*256)=r at*
 have hprod:q1.toNat*(m*1099511627776)=q1.toNat*(m*256)*4294967296:=by
  rw [Nat.mul_assoc,Nat.mul_assoc]
 have h21:un21.toNat=r*4294967296+l.toNat%16777216*256:=by
  simp only [un21]
  rw [UInt64.toNat_sub,UInt64.toNat_add,UInt64.toNat_mul,UInt64.toNat_mul,hun1,hy,hprod,show (4294967296:UInt64).toNat=4294967296 from rfl]
  generalize q1.toNat*(m*256)=A at*
  omega
 have hq0:q0.toNat=un21.toNat/(m*256):=by simp only [q0];rw [UInt64.toNat_div,hy1]
 have h21l:un21.toNat<m*256*4294967296:=by rw [h21];omega
 have hq0l:q0.toNat<4294967296:=by rw [hq0];exact Nat.div_lt_of_lt_mul h21l
 have hqr0:un21.toNat=q0.toNat*(m*256)+un21.toNat%(m*256):=by
  rw [hq0,Nat.mul_comm]
  exact (Nat.div_add_mod _ _).symm
 have hr0:un21.toNat%(m*256)<m*256:=Nat.mod_lt _ (by omega)
 obtain ⟨d1,d2⟩:=UD (K:=16777216) (L:=256) hm0 (by omega) hN hqr
 have e21:(r*16777216+l.toNat%16777216)*256=un21.toNat:=by rw [h21];omega
 rw [e21] at d1 d2
 refine ⟨by rw [UInt64.lt_iff_toNat_lt];exact hq1l,by rw [UInt64.lt_iff_toNat_lt];exact hq0l,?_,?_⟩
 ·rw [<-UInt64.toNat_inj,UInt64.toNat_add,UInt64.toNat_mul,show (4294967296:UInt64).toNat=4294967296 from rfl,hq0]
  unfold aGS
  rw [hm,UInt64.toNat_ofNat',d1,<-hq0]
  exact apb hq1l hq0l
 ·have hprod0:q0.toNat*(m*1099511627776)=q0.toNat*(m*256)*4294967296:=by
   rw [Nat.mul_assoc,Nat.mul_assoc]
  have e3:(un21*4294967296+(bR l 40&&&4294967295)-q0*bR y 40).toNat=(un21.toNat%(m*256))*4294967296:=by
   rw [hun0,UInt64.toNat_sub,UInt64.toNat_add,UInt64.toNat_mul,UInt64.toNat_mul,hy,hprod0,show (4294967296:UInt64).toNat=4294967296 from rfl,show (0:UInt64).toNat=0 from rfl]
   generalize un21.toNat%(m*256)=s at*
   generalize q0.toNat*(m*256)=A at*
   omega
  rw [<-UInt64.toNat_inj,show ((40:Int))=((40:Nat):Int) from rfl,eU _ _ (by omega),show ((40:Nat):Int)=40 from rfl,e3]
  unfold Zf
  rw [hm,UInt64.toNat_ofNat',d2]
  exact awy (by omega)
theorem abp {y:UInt64} (h:fT y=true):∃ m,y.toNat=m/\(bR y 40).toNat=m*1099511627776/\(bf (bR y 40) 32).toNat=m*256/\bR y 40&&&4294967295=0/\0<m/\m<16777216:=by
 rcases dV h with rfl|rfl
 ·exact ⟨16513537,rfl,by decide+kernel,by decide+kernel,by decide+kernel,by omega,by omega⟩
 ·exact ⟨16521217,rfl,by decide+kernel,by decide+kernel,by decide+kernel,by omega,by omega⟩
theorem avV:ac Tryz.prog 128 (gO.aI wC Ve):=ae3 Rv aaa Ru Z9 avX avW _ _ λx oy hp ho=>by
 rw [<-ho]
 clear ho
 obtain ⟨⟨h,l,y,⟨⟩⟩,⟨⟩⟩:=x
 have hp':(fT y&&decide (h<y))=true:=hp
 rw [Bool.and_eq_true] at hp'
 obtain ⟨hs,hlt⟩:=hp'
 have hlt:=of_decide_eq_true hlt
 obtain ⟨m,f1,f2,f3,f4,f5,f6⟩:=abp hs
 have hh:h.toNat<m:=by rw [<-f1];exact UInt64.lt_iff_toNat_lt.1 hlt
 have hy0:¬y=0:=λe=>by rw [e] at f1;simp at f1;omega
 have hyb:(y==0)=false:=by simpa using hy0
 have hle:decide (y<=h)=false:=Ku hlt
 unfold Is
 refine (OT.ar hyb).trans ((OT.ar hle).trans ?_)
 by_cases h0:h=0
 ·subst h0
  refine (OT.ap rfl).trans ((ah ?_).trans ?_)
  ·simp only [hyb,List.all_cons,List.all_nil,Bool.and_true,Bool.not_false]
  ·have e1:aGS 0 l y=l/y:=by
    rw [<-UInt64.toNat_inj]
    unfold aGS
    rw [UInt64.toNat_ofNat',UInt64.toNat_div,show (0:UInt64).toNat=0 from rfl,Nat.zero_mul,Nat.zero_add]
    exact Nat.mod_eq_of_lt (Nat.lt_of_le_of_lt (Nat.div_le_self _ _) l.toNat_lt)
   have e2:Zf 0 l y=l%y:=by
    rw [<-UInt64.toNat_inj]
    unfold Zf
    rw [UInt64.toNat_ofNat',UInt64.toNat_mod,show (0:UInt64).toNat=0 from rfl,Nat.zero_mul,Nat.zero_add]
    exact Nat.mod_eq_of_lt (Nat.lt_of_le_of_lt (Nat.mod_le _ _) l.toNat_lt)
   simp only [Ve,e1,e2]
 ·have hb:(h==0)=false:=by simpa using h0
  obtain ⟨w1,w2,w3,w4⟩:=Z6 (l:=l) f1 f2 f3 f4 f5 f6 hh
  have hz:(!(bf (bR y 40) 32==0))=true:=by
   have:¬bf (bR y 40) 32=0:=λe=>by rw [e] at f3;simp at f3;omega
   simpa using this
  refine (OT.ar hb).trans ((ah ?_).trans ?_)
  ·simp only [List.all_cons,List.all_nil,Bool.and_true,Bool.and_eq_true]
   exact ⟨hs,hz,decide_eq_true ⟨f4,w1⟩,hz,decide_eq_true ⟨f4,w2⟩⟩
  ·show some (⟨pB,((_,bf _ ((40:UInt64).toNat:Int),()),())⟩:gO.Y)=some ⟨pB,((aGS h l y,Zf h l y,()),())⟩
   rw [<-w3,<-w4]
   rfl
def zm:cj:=(gO.aI wC Ve)
theorem Z8:ac Tryz.prog 128 zm:=avV
theorem Z7:aG zm:=aA
def xi:Env:=ay 128 zm zN
theorem rJ:aR Tryz.prog xi:=ag Z8 pW
theorem Dn:ax xi:=ae Z7 Ht
theorem Hu:aW Tryz.prog te xi:=aK follows aq rJ Dn
def r8:aw:=⟨[.val true .elem,.val true .elem],[],true,0,false⟩
abbrev akX:Type:=((aa)×(aa)×Unit)×(Unit)
def IQ:Shape:=⟨29,[(2,.ptr 0 0 0),(3,.ptr 1 0 0),(4,.ptr 2 0 0),(6,.ptr 3 0 0),(7,.val false .u64),(9,.val false .int)],[(0,.row .u64),(1,.row .u64),(2,.row .u64),(3,.row .u64)],0,true⟩
abbrev dC:Type:=((Unit)×(Unit)×(Unit)×(Unit)×(UInt64)×(Int)×Unit)×((List (UInt64))×(List (UInt64))×(List (UInt64))×(List (UInt64))×Unit)
def zX:Shape:=⟨29,[(4,.ptr 0 0 0),(6,.ptr 1 0 0),(7,.val false .u64)],[(0,.row .u64),(1,.row .u64)],0,true⟩
abbrev nX:Type:=((Unit)×(Unit)×(UInt64)×Unit)×((List (UInt64))×(List (UInt64))×Unit)
def api:SE->Option Shape:=fw [(0,zX)] none
def aCA (a7:UInt64) (a9:Int) (c0:List (UInt64)) (c1:List (UInt64)) (c2:List (UInt64)) (c3:List (UInt64)):OT (Sum dC aE):=
 let z0:Bool:=inB a9 4
 let z1:UInt64:=List.getD c0 (Int.toNat a9+0) (0:UInt64)
 let z2:UInt64:=List.getD c1 (Int.toNat a9+0) (0:UInt64)
 (.br (decide (a9<(4:Int)))
 (gd [z0,decide (Int.toNat a9+0<List.length c0),z0,decide (Int.toNat a9+0<List.length c1),Fw ((z1,z2,a7,()),()),z0,decide (Int.toNat a9+0<List.length c3),inR (a9+(1:Int))] (.ok (.inl (((),((),((),((),(zS z1 z2 a7,(a9+(1:Int),())))))),(c0,(c1,(c2,(List.set c3 (Int.toNat a9+0) (xn z1 z2 a7),()))))))))
 (.ok (.inr ⟨(.exit 0,zX),(((),((),(a7,()))),(c2,(c3,())))⟩)))
def IR (s:dC):OT (Sum dC aE):=aCA (s.1.2.2.2.2.1) (s.1.2.2.2.2.2.1) (s.2.1) (s.2.2.1) (s.2.2.2.1) (s.2.2.2.2.1)
theorem aCx (s:dC) (Q:Sum dC aE->Prop):wps te xi av 1000 (aU (aj Tryz.f119) 0) (IQ.inj s) (bX IQ api (Q:Sum IQ.T aE->Prop))=(IR s).wpR Q:=by kernel_rfl
def R5 (g0_0:dC->nX) (s:dC):OT aE:=(.ok ⟨(.exit 0,zX),g0_0 s⟩)
def aba:az:=⟨[.val true .elem,.val false .bool],[],false⟩
def afP:SV->Option az:=λ_=>some aba
def apl (ok0:dC->Bool) (g0_0:dC->nX) (a0:aa) (a1:aa):OT r8.Y:=
 let z0:(PUnit×PUnit×PUnit×PUnit×UInt64×Int×PUnit)×List UInt64×List UInt64×List UInt64×List UInt64×PUnit:=(((),(),(),(),(0:UInt64),(0:Int),()),[a0.w0,a0.w1,a0.w2,a0.w3],[a1.w0,a1.w1,a1.w2,a1.w3],[(0:UInt64),(0:UInt64),(0:UInt64),(0:UInt64)],[(0:UInt64),(0:UInt64),(0:UInt64),(0:UInt64)],())
 let z1:(PUnit×PUnit×UInt64×PUnit)×List UInt64×List UInt64×PUnit:=g0_0 z0
 let z2:=z1.snd
 let z3:=z2.snd.fst
 let z4:=z2.fst
 let z5:List UInt64:=lay z4 z3 4 (0:UInt64)
 (gd [ok0 z0,decide (4<=List.length z3),decide ((4/1:Nat)+0<=List.length z4),decide (4<=List.length z5)] (.ok ⟨aba,(({w0:=List.getD z5 0 0,w1:=List.getD z5 1 0,w2:=List.getD z5 2 0,w3:=List.getD z5 3 0},(!z1.fst.snd.snd.fst==(0:UInt64),())),())⟩))
theorem aG2 (ok0:dC->Bool) (g0_0:dC->nX) (x:akX) (Q:r8.Y->Prop):wpf te xi (aO 0 (cg IQ 0 ok0 (R5 g0_0)) av) 1000 Tryz.f119 (r8.inp.inj x).tm (r8.inp.inj x).hp (fnK r8 afP Q) (λ_ _=>False)=(apl ok0 g0_0 (x.1.1) (x.1.2.1)).wpR Q:=by kernel_rfl
theorem apj (ok0:dC->Bool) (g0_0:dC->nX) (h0:∀ s:dC,ok0 s=true->∃ m e,ao (IR) m s=some e/\(R5 g0_0 s).run=some e) (pre:akX->Bool) (F:akX->OT r8.Y) (hF:∀ (x:akX) oy,pre x=true->(F x).run=some oy->(apl ok0 g0_0 (x.1.1) (x.1.2.1)).run=some oy):ac Tryz.prog 119 (r8.aI pre F):=
 aD aq rJ Hu (f:=119) (fn:=Tryz.f119) (c:=aj Tryz.f119) (by kernel_rfl) (by kernel_rfl) (by kernel_rfl) (S:=r8) (k:=0) (by kernel_rfl) (λR hR=>(aB (c:=(aj Tryz.f119)) (by kernel_rfl) (id:=0) (by kernel_rfl) (aQ aq rJ Hu (sh:=IQ) hR (xs:=api) (aC (by kernel_rfl) (by kernel_rfl) hR) aL af (n:=1000) (T:=IR) (λs Q=>aCx s Q) (ok:=ok0) (f:=R5 g0_0) h0) af)) (n:=1000) (sel:=afP) (λv o h=>by cases h;rfl) (pre:=pre) (F:=F) (T:=λx=>apl ok0 g0_0 (x.1.1) (x.1.2.1)) (λx Q=>aG2 ok0 g0_0 x Q) hF
def OQ (a b:List UInt64) (k:Nat) (s:List UInt64×UInt64):List UInt64×UInt64:=(s.1.set k (xn (a.getD k 0) (b.getD k 0) s.2),zS (a.getD k 0) (b.getD k 0) s.2)
def afR (s:dC):Bool:=decide (s.1.2.2.2.2.1=0/\s.1.2.2.2.2.2.1=0/\s.2.1.length=4/\s.2.2.1.length=4/\s.2.2.2.2.1= [0,0,0,0])
def apk (s:dC):nX:=(((),(),(upto (OQ s.2.1 s.2.2.1) ([0,0,0,0],0) 4).2,()),(s.2.2.2.1,(upto (OQ s.2.1 s.2.2.1) ([0,0,0,0],0) 4).1,()))
theorem aCz:∀ s:dC,afR s=true->∃ m e,ao IR m s=some e/\(R5 apk s).run=some e:=by
 rintro ⟨⟨⟨⟩,⟨⟩,⟨⟩,⟨⟩,c,i,⟨⟩⟩,⟨c0,c1,c2,c3,⟨⟩⟩⟩ h
 have h':=of_decide_eq_true h
 dsimp only at h'
 obtain ⟨rfl,rfl,h0,h1,rfl⟩:=h'
 have:=(aP (T:=IR) (λk s=>((((),(),(),(),s.2,(k:Int),()),(c0,c1,c2,s.1,())):dC)) (OQ c0 c1)
  (λs=>(⟨(.exit 0,zX),(((),(),s.2,()),(c2,s.1,()))⟩:aE)) 4 ([0,0,0,0],0) (λ_ s=>s.1.length=4/\s.2.toNat<=1) ⟨rfl,by decide⟩ (λk s hk hs=>⟨?_,?_⟩) (λs hs=> ?_)).1
 ·obtain ⟨m,hm⟩:=this
  exact ⟨m,_,hm,rfl⟩
 ·refine (OT.ap (decide_eq_true (by dsimp only;omega))).trans ((ah ?_).trans ?_)
  ·simp only [Int.toNat_natCast,Nat.add_zero,h0,h1,hs.1,List.all_cons,List.all_nil,Bool.and_true,Bool.and_eq_true]
   exact ⟨aN (by omega),decide_eq_true (by omega),aN (by omega),decide_eq_true (by omega),decide_eq_true hs.2,aN (by omega),decide_eq_true (by omega),aH (by omega)⟩
  ·simp only [OT.cL,Int.toNat_natCast,Nat.add_zero]
   rfl
 ·exact ⟨by simp only [OQ,List.length_set];exact hs.1,Fz hs.2⟩
 ·exact OT.ar (decide_eq_false (by dsimp only;omega))
theorem aGL (x y:List UInt64) (hx:x.length=4) (hy:y.length=4):lay x y 4 0=y:=xv hx hy
def afQ (_:akX):Bool:=true
def apm (x:akX):OT r8.Y:=.ok ⟨aba,(((p9 x.1.1 x.1.2.1).1,((p9 x.1.1 x.1.2.1).2,())),())⟩
theorem aCy:ac Tryz.prog 119 (r8.aI afQ apm):=apj afR apk aCz _ _ λx oy hp ho=>by
 rw [<-ho]
 clear ho
 obtain ⟨⟨a,b,⟨⟩⟩,⟨⟩⟩:=x
 obtain ⟨_,hw⟩:=OX a b
 refine (ah ?_).trans ?_
 ·simp only [List.all_cons,List.all_nil,Bool.and_true,Bool.and_eq_true]
  exact ⟨rfl,rfl,rfl,rfl⟩
 ·simp only [apm,hw]
  rfl
def IP:cj:=(r8.aI afQ apm)
theorem akW:ac Tryz.prog 119 IP:=aCy
theorem akV:aG IP:=aA
def RE:Env:=ay 119 IP xi
theorem Cn:aR Tryz.prog RE:=ag akW rJ
theorem MN:ax RE:=ae akV Dn
theorem RD:aW Tryz.prog te RE:=aK follows aq Cn MN
def rZ:aw:=⟨[.val true .elem,.val true .elem],[],true,0,false⟩
abbrev akN:Type:=((aa)×(aa)×Unit)×(Unit)
def IE:Shape:=⟨29,[(2,.ptr 0 0 0),(3,.ptr 1 0 0),(4,.ptr 2 0 0),(6,.ptr 3 0 0),(7,.val false .u64),(9,.val false .int)],[(0,.row .u64),(1,.row .u64),(2,.row .u64),(3,.row .u64)],0,true⟩
abbrev dB:Type:=((Unit)×(Unit)×(Unit)×(Unit)×(UInt64)×(Int)×Unit)×((List (UInt64))×(List (UInt64))×(List (UInt64))×(List (UInt64))×Unit)
def zT:Shape:=⟨29,[(4,.ptr 0 0 0),(6,.ptr 1 0 0),(7,.val false .u64)],[(0,.row .u64),(1,.row .u64)],0,true⟩
abbrev nV:Type:=((Unit)×(Unit)×(UInt64)×Unit)×((List (UInt64))×(List (UInt64))×Unit)
def aoZ:SE->Option Shape:=fw [(0,zT)] none
def aCq (a7:UInt64) (a9:Int) (c0:List (UInt64)) (c1:List (UInt64)) (c2:List (UInt64)) (c3:List (UInt64)):OT (Sum dB aE):=
 let z0:Bool:=inB a9 4
 let z1:UInt64:=List.getD c0 (Int.toNat a9+0) (0:UInt64)
 let z2:UInt64:=List.getD c1 (Int.toNat a9+0) (0:UInt64)
 (.br (decide (a9<(4:Int)))
 (gd [z0,decide (Int.toNat a9+0<List.length c0),z0,decide (Int.toNat a9+0<List.length c1),Fk ((z1,z2,a7,()),()),z0,decide (Int.toNat a9+0<List.length c3),inR (a9+(1:Int))] (.ok (.inl (((),((),((),((),(VM z1 z2 a7,(a9+(1:Int),())))))),(c0,(c1,(c2,(List.set c3 (Int.toNat a9+0) (qe z1 z2 a7),()))))))))
 (.ok (.inr ⟨(.exit 0,zT),(((),((),(a7,()))),(c2,(c3,())))⟩)))
def IF (s:dB):OT (Sum dB aE):=aCq (s.1.2.2.2.2.1) (s.1.2.2.2.2.2.1) (s.2.1) (s.2.2.1) (s.2.2.2.1) (s.2.2.2.2.1)
theorem aCn (s:dB) (Q:Sum dB aE->Prop):wps te RE av 1000 (aU (aj Tryz.f125) 0) (IE.inj s) (bX IE aoZ (Q:Sum IE.T aE->Prop))=(IF s).wpR Q:=by kernel_rfl
def RY (g0_0:dB->nV) (s:dB):OT aE:=(.ok ⟨(.exit 0,zT),g0_0 s⟩)
def aa2:az:=⟨[.val true .elem,.val false .bool],[],false⟩
def afE:SV->Option az:=λ_=>some aa2
def ao2 (ok0:dB->Bool) (g0_0:dB->nV) (a0:aa) (a1:aa):OT rZ.Y:=
 let z0:(PUnit×PUnit×PUnit×PUnit×UInt64×Int×PUnit)×List UInt64×List UInt64×List UInt64×List UInt64×PUnit:=(((),(),(),(),(0:UInt64),(0:Int),()),[a0.w0,a0.w1,a0.w2,a0.w3],[a1.w0,a1.w1,a1.w2,a1.w3],[(0:UInt64),(0:UInt64),(0:UInt64),(0:UInt64)],[(0:UInt64),(0:UInt64),(0:UInt64),(0:UInt64)],())
 let z1:(PUnit×PUnit×UInt64×PUnit)×List UInt64×List UInt64×PUnit:=g0_0 z0
 let z2:=z1.snd
 let z3:=z2.snd.fst
 let z4:=z2.fst
 let z5:List UInt64:=lay z4 z3 4 (0:UInt64)
 (gd [ok0 z0,decide (4<=List.length z3),decide ((4/1:Nat)+0<=List.length z4),decide (4<=List.length z5)] (.ok ⟨aa2,(({w0:=List.getD z5 0 0,w1:=List.getD z5 1 0,w2:=List.getD z5 2 0,w3:=List.getD z5 3 0},(!z1.fst.snd.snd.fst==(0:UInt64),())),())⟩))
theorem aGY (ok0:dB->Bool) (g0_0:dB->nV) (x:akN) (Q:rZ.Y->Prop):wpf te RE (aO 0 (cg IE 0 ok0 (RY g0_0)) av) 1000 Tryz.f125 (rZ.inp.inj x).tm (rZ.inp.inj x).hp (fnK rZ afE Q) (λ_ _=>False)=(ao2 ok0 g0_0 (x.1.1) (x.1.2.1)).wpR Q:=by kernel_rfl
theorem ao0 (ok0:dB->Bool) (g0_0:dB->nV) (h0:∀ s:dB,ok0 s=true->∃ m e,ao (IF) m s=some e/\(RY g0_0 s).run=some e) (pre:akN->Bool) (F:akN->OT rZ.Y) (hF:∀ (x:akN) oy,pre x=true->(F x).run=some oy->(ao2 ok0 g0_0 (x.1.1) (x.1.2.1)).run=some oy):ac Tryz.prog 125 (rZ.aI pre F):=
 aD aq Cn RD (f:=125) (fn:=Tryz.f125) (c:=aj Tryz.f125) (by kernel_rfl) (by kernel_rfl) (by kernel_rfl) (S:=rZ) (k:=0) (by kernel_rfl) (λR hR=>(aB (c:=(aj Tryz.f125)) (by kernel_rfl) (id:=0) (by kernel_rfl) (aQ aq Cn RD (sh:=IE) hR (xs:=aoZ) (aC (by kernel_rfl) (by kernel_rfl) hR) aL af (n:=1000) (T:=IF) (λs Q=>aCn s Q) (ok:=ok0) (f:=RY g0_0) h0) af)) (n:=1000) (sel:=afE) (λv o h=>by cases h;rfl) (pre:=pre) (F:=F) (T:=λx=>ao2 ok0 g0_0 (x.1.1) (x.1.2.1)) (λx Q=>aGY ok0 g0_0 x Q) hF
def xj (a b:List UInt64) (k:Nat) (s:List UInt64×UInt64):List UInt64×UInt64:=(s.1.set k (qe (a.getD k 0) (b.getD k 0) s.2),VM (a.getD k 0) (b.getD k 0) s.2)
def afG (s:dB):Bool:=decide (s.1.2.2.2.2.1=0/\s.1.2.2.2.2.2.1=0/\s.2.1.length=4/\s.2.2.1.length=4/\s.2.2.2.2.1= [0,0,0,0])
def ao1 (s:dB):nV:=(((),(),(upto (xj s.2.1 s.2.2.1) ([0,0,0,0],0) 4).2,()),(s.2.2.2.1,(upto (xj s.2.1 s.2.2.1) ([0,0,0,0],0) 4).1,()))
theorem aCp:∀ s:dB,afG s=true->∃ m e,ao IF m s=some e/\(RY ao1 s).run=some e:=by
 rintro ⟨⟨⟨⟩,⟨⟩,⟨⟩,⟨⟩,c,i,⟨⟩⟩,⟨c0,c1,c2,c3,⟨⟩⟩⟩ h
 have h':=of_decide_eq_true h
 dsimp only at h'
 obtain ⟨rfl,rfl,h0,h1,rfl⟩:=h'
 have:=(aP (T:=IF) (λk s=>((((),(),(),(),s.2,(k:Int),()),(c0,c1,c2,s.1,())):dB)) (xj c0 c1)
  (λs=>(⟨(.exit 0,zT),(((),(),s.2,()),(c2,s.1,()))⟩:aE)) 4 ([0,0,0,0],0) (λ_ s=>s.1.length=4/\s.2.toNat<=1) ⟨rfl,by decide⟩ (λk s hk hs=>⟨?_,?_⟩) (λs hs=> ?_)).1
 ·obtain ⟨m,hm⟩:=this
  exact ⟨m,_,hm,rfl⟩
 ·refine (OT.ap (decide_eq_true (by dsimp only;omega))).trans ((ah ?_).trans ?_)
  ·simp only [Int.toNat_natCast,Nat.add_zero,h0,h1,hs.1,List.all_cons,List.all_nil,Bool.and_true,Bool.and_eq_true]
   exact ⟨aN (by omega),decide_eq_true (by omega),aN (by omega),decide_eq_true (by omega),decide_eq_true hs.2,aN (by omega),decide_eq_true (by omega),aH (by omega)⟩
  ·simp only [OT.cL,Int.toNat_natCast,Nat.add_zero]
   rfl
 ·exact ⟨by simp only [xj,List.length_set];exact hs.1,yb⟩
 ·exact OT.ar (decide_eq_false (by dsimp only;omega))
def afF (_:akN):Bool:=true
def ao3 (x:akN):OT rZ.Y:=.ok ⟨aa2,(((eg x.1.1 x.1.2.1).1,((eg x.1.1 x.1.2.1).2,())),())⟩
theorem aCo:ac Tryz.prog 125 (rZ.aI afF ao3):=ao0 afG ao1 aCp _ _ λx oy hp ho=>by
 rw [<-ho]
 clear ho
 obtain ⟨⟨a,b,⟨⟩⟩,⟨⟩⟩:=x
 obtain ⟨_,hw⟩:=Dy a b
 refine (ah ?_).trans ?_
 ·simp only [List.all_cons,List.all_nil,Bool.and_true,Bool.and_eq_true]
  exact ⟨rfl,rfl,rfl,rfl⟩
 ·simp only [ao3,hw]
  rfl
def ID:cj:=(rZ.aI afF ao3)
theorem akM:ac Tryz.prog 125 ID:=aCo
theorem akL:aG ID:=aA
def aao:Env:=ay 125 ID RE
theorem MH:aR Tryz.prog aao:=ag akM Cn
theorem MI:ax aao:=ae akL MN
theorem aoE:aW Tryz.prog te aao:=aK follows aq MH MI
def lf:aw:=⟨[.val true .elem,.val true .elem],[],true,0,false⟩
abbrev O3:Type:=((aa)×(aa)×Unit)×(Unit)
def R4:az:=⟨[.val false .bool],[],false⟩
def VX:SV->Option az:=λ_=>some R4
def aa9 (a0:aa) (a1:aa):OT lf.Y:=
 (.ok ⟨R4,(((eg a0 a1).snd,()),())⟩)
theorem aCv (x:O3) (Q:lf.Y->Prop):wpf te aao av 1000 Tryz.f86 (lf.inp.inj x).tm (lf.inp.inj x).hp (fnK lf VX Q) (λ_ _=>False)=(aa9 (x.1.1) (x.1.2.1)).wpR Q:=by kernel_rfl
theorem akR (pre:O3->Bool) (F:O3->OT lf.Y) (hF:∀ (x:O3) oy,pre x=true->(F x).run=some oy->(aa9 (x.1.1) (x.1.2.1)).run=some oy):ac Tryz.prog 86 (lf.aI pre F):=
 aD aq MH aoE (f:=86) (fn:=Tryz.f86) (c:=aj Tryz.f86) (by kernel_rfl) (by kernel_rfl) (by kernel_rfl) (S:=lf) (k:=0) (by kernel_rfl) (λR hR=>af) (n:=1000) (sel:=VX) (λv o h=>by cases h;rfl) (pre:=pre) (F:=F) (T:=λx=>aa9 (x.1.1) (x.1.2.1)) (λx Q=>aCv x Q) hF
def VY (_:O3):Bool:=true
def apd (x:O3):OT lf.Y:=.ok ⟨R4,((Nat.blt x.1.1.nat x.1.2.1.nat,()),())⟩
theorem awA:ac Tryz.prog 86 (lf.aI VY apd):=akR _ _ λx oy _ ho=>ho
def Dx:cj:=(lf.aI VY apd)
theorem aa8:ac Tryz.prog 86 Dx:=awA
theorem aa7:aG Dx:=aA
def ML:Env:=ay 86 Dx aao
theorem FA:aR Tryz.prog ML:=ag aa8 MH
theorem GO:ax ML:=ae aa7 MI
theorem aff:aW Tryz.prog te ML:=aK follows aq FA GO
def rL:aw:=⟨[.val true .elem,.val false .int],[],true,0,false⟩
abbrev akU:Type:=((aa)×(Int)×Unit)×(Unit)
def Dz:az:=⟨[.val false .bool],[],false⟩
def afN:SV->Option az:=λ_=>some Dz
def aph (a0:aa) (a1:Int):OT rL.Y:=
 let z0:Int:=Int.tdiv a1 (64:Int)
 let z1:Int:=Int.tmod a1 (64:Int)
 (.br (decide ((0:Int)<=a1))
 (.br (decide (a1<(256:Int)))
  (gd [true&&inR z0,inB z0 4,decide (Int.toNat z0+0<4),decide ((0:Int)<=z1)] (.ok ⟨Dz,((bf (List.getD [a0.w0,a0.w1,a0.w2,a0.w3] (Int.toNat z0+0) (0:UInt64)) z1&&&(1:UInt64)==(1:UInt64),()),())⟩))
  (.ok ⟨Dz,((false,()),())⟩))
 (.ok ⟨Dz,((false,()),())⟩))
theorem aG1 (x:akU) (Q:rL.Y->Prop):wpf te ML av 1000 Tryz.f84 (rL.inp.inj x).tm (rL.inp.inj x).hp (fnK rL afN Q) (λ_ _=>False)=(aph (x.1.1) (x.1.2.1)).wpR Q:=by kernel_rfl
theorem apg (pre:akU->Bool) (F:akU->OT rL.Y) (hF:∀ (x:akU) oy,pre x=true->(F x).run=some oy->(aph (x.1.1) (x.1.2.1)).run=some oy):ac Tryz.prog 84 (rL.aI pre F):=
 aD aq FA aff (f:=84) (fn:=Tryz.f84) (c:=aj Tryz.f84) (by kernel_rfl) (by kernel_rfl) (by kernel_rfl) (S:=rL) (k:=0) (by kernel_rfl) (λR hR=>af) (n:=1000) (sel:=afN) (λv o h=>by cases h;rfl) (pre:=pre) (F:=F) (T:=λx=>aph (x.1.1) (x.1.2.1)) (λx Q=>aG1 x Q) hF
def xC (a:aa) (i:Int):Bool:=cond (decide (0<=i)) (cond (decide (i<256)) (ae0 a.nat i.toNat) false) false
def afO (_:akU):Bool:=true
def aBs (x:akU):OT rL.Y:=.ok ⟨Dz,((xC x.1.1 x.1.2.1,()),())⟩
theorem avR {a:aa} {i:Int} (h1:0<=i) (h2:i<256):(bf (List.getD [a.w0,a.w1,a.w2,a.w3] (Int.toNat (Int.tdiv i 64)+0) 0) (Int.tmod i 64)&&&1==1)=xC a i:=by
 obtain ⟨n,rfl⟩:∃ n:Nat,i=(n:Int):=⟨i.toNat,by omega⟩
 have hn:n<256:=by omega
 have t1:Int.tdiv (n:Int) 64=((n/64:Nat):Int):=by rw [Int.tdiv_eq_ediv_of_nonneg (by omega)];omega
 have t2:Int.tmod (n:Int) 64=((n%64:Nat):Int):=by rw [Int.tmod_eq_emod_of_nonneg (by omega)];omega
 rw [t1,t2,Vb,eU _ _ (by omega),Int.toNat_natCast,Nat.add_zero]
 have:=rm (a:=a) (q:=n/64) (r:=n%64) (by omega) (by omega)
 rw [show 64*(n/64)+n%64=n by omega] at this
 unfold xC ae0
 rw [decide_eq_true h1,decide_eq_true h2,Int.toNat_natCast]
 simp only [cond_true]
 rw [<-this]
 rfl
theorem aCw:ac Tryz.prog 84 (rL.aI afO aBs):=apg _ _ λx oy _ ho=>by
 rw [<-ho]
 clear ho
 obtain ⟨⟨a,i,⟨⟩⟩,⟨⟩⟩:=x
 show _=(OT.ok ⟨Dz,((xC a i,()),())⟩:OT rL.Y).run
 by_cases h1:0<=i
 ·refine (OT.ap (decide_eq_true h1)).trans ?_
  by_cases h2:i<256
  ·refine (OT.ap (decide_eq_true h2)).trans ((ah ?_).trans ?_)
   ·obtain ⟨n,rfl⟩:∃ n:Nat,i=(n:Int):=⟨i.toNat,by omega⟩
    have t1:Int.tdiv (n:Int) 64=((n/64:Nat):Int):=by rw [Int.tdiv_eq_ediv_of_nonneg (by omega)];omega
    have t2:Int.tmod (n:Int) 64=((n%64:Nat):Int):=by rw [Int.tmod_eq_emod_of_nonneg (by omega)];omega
    simp only [t1,t2,Int.toNat_natCast,Nat.add_zero,List.all_cons,List.all_nil,Bool.and_true,Bool.and_eq_true,Bool.true_and]
    exact ⟨aH (by omega),aN (by omega),decide_eq_true (by omega),decide_eq_true (by omega)⟩
   ·simp only [avR h1 h2]
  ·have e:xC a i=false:=by unfold xC;rw [decide_eq_true h1,decide_eq_false h2];rfl
   rw [e]
   exact OT.ar (decide_eq_false h2)
 ·have e:xC a i=false:=by unfold xC;rw [decide_eq_false h1];rfl
  rw [e]
  exact OT.ar (decide_eq_false h1)
def IL:cj:=(rL.aI afO aBs)
theorem akT:ac Tryz.prog 84 IL:=aCw
theorem akS:aG IL:=aA
def RC:Env:=ay 84 IL ML
theorem Cm:aR Tryz.prog RC:=ag akT FA
theorem MM:ax RC:=ae akS GO
theorem RB:aW Tryz.prog te RC:=aK follows aq Cm MM
end Go.Proofs.YtohjofabochgfaaGreat

namespace Go.Proofs.YtohjofabochgfaaGreat
open Sx Go
theorem HM (x b:UInt64) (hb:b.toNat<=1):2*x.toNat+b.toNat=(bR x 1|||b).toNat+18446744073709551616*(bf x 63).toNat:=by
 have hx:=x.toNat_lt
 have e1:(bR x 1).toNat=2^1*(x.toNat%9223372036854775808):=by
  have e:(bR x 1).toNat=x.toNat*2^1%2^64:=lq x 1 (by omega)
  rw [e]
  omega
 have e2:(bf x 63).toNat=x.toNat/2^63:=eU x 63 (by omega)
 have e3:=Nat.two_pow_add_eq_or_of_lt (i:=1) (b:=b.toNat) (by omega) (x.toNat%9223372036854775808)
 rw [UInt64.toNat_or,e1,<-e3,e2]
 omega
theorem IZ (x:UInt64):(bf x 63).toNat<=1:=by
 have hx:=x.toNat_lt
 have e2:(bf x 63).toNat=x.toNat/2^63:=eU x 63 (by omega)
 rw [e2]
 omega
def aY (a:aa) (b:UInt64):aa×UInt64:=(⟨bR a.w0 1|||b,bR a.w1 1|||bf a.w0 63,bR a.w2 1|||bf a.w1 63,bR a.w3 1|||bf a.w2 63⟩,bf a.w3 63)
theorem ak5 (a:aa) (b:UInt64) (hb:b.toNat<=1):2*a.nat+b.toNat=(aY a b).1.nat+115792089237316195423570985008687907853269984665640564039457584007913129639936*(aY a b).2.toNat:=by
 have h0:=HM a.w0 b hb
 have h1:=HM a.w1 _ (IZ a.w0)
 have h2:=HM a.w2 _ (IZ a.w1)
 have h3:=HM a.w3 _ (IZ a.w2)
 unfold aY Sx.aa.nat
 dsimp only
 omega
def HT (m r:aa) (b:UInt64):aa:=cond (!((aY r b).2==0)) (eg (aY r b).1 m).1 (cond (!(eg (aY r b).1 m).2) (eg (aY r b).1 m).1 (aY r b).1)
theorem aiY {n m:Nat} (h1:m<=n) (h2:n<2*m):n-m=n%m:=by
 rw [Nat.mod_eq_sub_mod h1,Nat.mod_eq_of_lt (by omega)]
theorem ayT {m r:aa} {b:UInt64} (hb:b.toNat<=1) (hr:r.nat<m.nat):(HT m r b).nat=(2*r.nat+b.toNat)%m.nat:=by
 have h:=ak5 r b hb
 have hm:=jq m
 have hs:=jq (aY r b).1
 have h2:(aY r b).2.toNat<=1:=IZ _
 have hw:(eg (aY r b).1 m).1.nat=((aY r b).1.nat+115792089237316195423570985008687907853269984665640564039457584007913129639936-m.nat)%115792089237316195423570985008687907853269984665640564039457584007913129639936:=by
  unfold eg
  exact TA _
 unfold HT
 cases ho:(aY r b).2==0
 ·have ho:(aY r b).2.toNat=1:=by
   have:(aY r b).2.toNat≠0:=λe=>by
    have e':(aY r b).2=0:=UInt64.toNat_inj.1 e
    rw [e'] at ho
    cases ho
   omega
  show (eg (aY r b).1 m).1.nat=_
  rw [hw,<-aiY (n:=2*r.nat+b.toNat) (by omega) (by omega),Nat.mod_eq_of_lt (by omega)]
  omega
 ·have ho:(aY r b).2.toNat=0:=by
   rw [beq_iff_eq] at ho
   rw [ho]
   rfl
  have e:2*r.nat+b.toNat=(aY r b).1.nat:=by omega
  cases hu:(eg (aY r b).1 m).2
  ·have hu':m.nat<=(aY r b).1.nat:=by
    rw [afM] at hu
    exact Nat.le_of_not_lt λh'=>by rw [(Nat.blt_eq ..).mpr h'] at hu;cases hu
   show (eg (aY r b).1 m).1.nat=_
   rw [mN hu',e,aiY hu' (by omega)]
  ·have hu':(aY r b).1.nat<m.nat:=by
    rw [afM] at hu
    exact (Nat.blt_eq ..).mp hu
   show (aY r b).1.nat=_
   rw [e,Nat.mod_eq_of_lt hu']
def Ob (a:aa) (i:Nat):UInt64:=bf ((lst a).getD (i/64) 0) ((i%64:Nat):Int)&&&1
theorem akx (a:aa) {i:Nat} (hi:i<256):(Ob a i).toNat=a.nat/2^i%2:=by
 have e:∀ x:UInt64,(x&&&1).toNat=x.toNat%2:=λx=>by
  rw [UInt64.toNat_and]
  exact Nat.and_two_pow_sub_one_eq_mod x.toNat 1
 unfold Ob
 rw [e,eU _ _ (by omega),rm (by omega) (by omega),show 64*(i/64)+i%64=i by omega]
def abN (m a r:aa):Nat->aa:=upto (λk r=>HT m r (Ob a (255-k))) r
theorem Ss {m a r:aa} (hr:r.nat<m.nat):∀ k,k<=256->(abN m a r k).nat=(r.nat*2^k+a.nat/2^(256-k))%m.nat/\(abN m a r k).nat<m.nat
 |0,_=>by
  have h:=jq a
  refine ⟨?_,hr⟩
  show r.nat=_
  rw [Nat.pow_zero,Nat.mul_one,Nat.div_eq_of_lt h,Nat.add_zero,Nat.mod_eq_of_lt hr]
 |k+1,hk=>by
  obtain ⟨h1,h2⟩:=Ss (a:=a) hr k (by omega)
  have hb:=akx a (i:=255-k) (by omega)
  have hb1:(Ob a (255-k)).toNat<=1:=by omega
  have h3:=ayT hb1 h2
  have e:(abN m a r (k+1)).nat=(2*(abN m a r k).nat+(Ob a (255-k)).toNat)%m.nat:=h3
  have e2:a.nat/2^(255-k)=2*(a.nat/2^(256-k))+(Ob a (255-k)).toNat:=by
   rw [hb,show 256-k=255-k+1 by omega,Nat.pow_succ,<-Nat.div_div_eq_div_mul]
   omega
  refine ⟨?_,?_⟩
  ·rw [e,h1,show 256-(k+1)=255-k by omega,e2,Nat.pow_succ]
   rw [<-Nat.mod_add_mod,Nat.mul_mod_mod,Nat.mod_add_mod]
   congr 1
   rw [Nat.mul_add,<-Nat.mul_assoc,Nat.mul_comm (2^k) 2,<-Nat.mul_assoc,Nat.mul_comm r.nat 2,Nat.add_assoc]
  ·rw [e]
   exact Nat.mod_lt _ (by omega)
def ayU (lo hi m:aa):aa:=ofN ((lo.nat+115792089237316195423570985008687907853269984665640564039457584007913129639936*hi.nat)%m.nat)
theorem ah8 {m lo hi:aa} (hm:0<m.nat):abN m lo (abN m hi ⟨0,0,0,0⟩ 256) 256=ayU lo hi m:=by
 have h0:(⟨0,0,0,0⟩:aa).nat<m.nat:=hm
 obtain ⟨h1,h2⟩:=Ss (a:=hi) h0 256 (Nat.le_refl _)
 obtain ⟨h3,h4⟩:=Ss (a:=lo) h2 256 (Nat.le_refl _)
 have hl:=jq m
 refine qL ?_
 unfold ayU
 rw [h3,h1,kl (Nat.lt_trans (Nat.mod_lt _ hm) hl),show 256-256=0 from rfl,Nat.pow_zero,Nat.div_one,Nat.div_one,show (⟨0,0,0,0⟩:aa).nat=0 from rfl,Nat.zero_mul,Nat.zero_add,<-Nat.mod_add_mod,Nat.mod_mul_mod,Nat.mod_add_mod,Nat.mul_comm,Nat.add_comm]
end Go.Proofs.YtohjofabochgfaaGreat

namespace Go.Proofs.YtohjofabochgfaaGreat
open Sx Go
set_option maxRecDepth 100000
def ig:aw:=⟨[.val true .elem,.val false .u64],[],true,0,false⟩
abbrev Dt:Type:=((aa)×(UInt64)×Unit)×(Unit)
def r5:Shape:=⟨25,[(1,.val false .u64),(2,.ptr 0 0 0),(4,.ptr 1 0 0),(7,.val false .int)],[(0,.row .u64),(1,.row .u64)],0,true⟩
abbrev cr:Type:=((UInt64)×(Unit)×(Unit)×(Int)×Unit)×((List (UInt64))×(List (UInt64))×Unit)
def qa:Shape:=⟨25,[(1,.val false .u64),(2,.ptr 0 0 0),(4,.ptr 1 0 0)],[(0,.row .u64),(1,.row .u64)],0,true⟩
abbrev jQ:Type:=((UInt64)×(Unit)×(Unit)×Unit)×((List (UInt64))×(List (UInt64))×Unit)
def VQ:SE->Option Shape:=fw [(0,qa)] none
def ao7 (a1:UInt64) (a7:Int) (c0:List (UInt64)) (c1:List (UInt64)):OT (Sum cr aE):=
 let z0:Bool:=inB a7 4
 let z1:Bool:=decide (Int.toNat a7+0<List.length c0)
 let z2:UInt64:=List.getD c0 (Int.toNat a7+0) (0:UInt64)
 (.br (decide (a7<(4:Int)))
 (gd [z0,z1,z0,z1,z0,z1,inR (a7+(1:Int))] (.ok (.inl ((bf z2 (63:Int),((),((),(a7+(1:Int),())))),(List.set c0 (Int.toNat a7+0) (bR z2 (1:Int)|||a1),(c1,()))))))
 (.ok (.inr ⟨(.exit 0,qa),((a1,((),((),()))),(c0,(c1,())))⟩)))
def r6 (s:cr):OT (Sum cr aE):=ao7 (s.1.1) (s.1.2.2.2.1) (s.2.1) (s.2.2.1)
theorem ao4 (s:cr) (Q:Sum cr aE->Prop):wps te RC av 1000 (aU (aj Tryz.f147) 0) (r5.inj s) (bX r5 VQ (Q:Sum r5.T aE->Prop))=(r6 s).wpR Q:=by kernel_rfl
def zU (g0_0:cr->jQ) (s:cr):OT aE:=(.ok ⟨(.exit 0,qa),g0_0 s⟩)
def IG:az:=⟨[.val true .elem,.val false .u64],[],false⟩
def OY:SV->Option az:=λ_=>some IG
def RZ (ok0:cr->Bool) (g0_0:cr->jQ) (a0:aa) (a1:UInt64):OT ig.Y:=
 let z0:(UInt64×PUnit×PUnit×Int×PUnit)×List UInt64×List UInt64×PUnit:=((a1,(),(),(0:Int),()),[a0.w0,a0.w1,a0.w2,a0.w3],[(0:UInt64),(0:UInt64),(0:UInt64),(0:UInt64)],())
 let z1:(UInt64×PUnit×PUnit×PUnit)×List UInt64×List UInt64×PUnit:=g0_0 z0
 let z2:=z1.snd
 let z3:=z2.fst
 let z4:=z2.snd.fst
 let z5:List UInt64:=lay z4 z3 4 (0:UInt64)
 (gd [ok0 z0,decide (4<=List.length z3),decide ((4/1:Nat)+0<=List.length z4),decide (4<=List.length z5)] (.ok ⟨IG,(({w0:=List.getD z5 0 0,w1:=List.getD z5 1 0,w2:=List.getD z5 2 0,w3:=List.getD z5 3 0},(z1.fst.fst,())),())⟩))
theorem awv (ok0:cr->Bool) (g0_0:cr->jQ) (x:Dt) (Q:ig.Y->Prop):wpf te RC (aO 0 (cg r5 0 ok0 (zU g0_0)) av) 1000 Tryz.f147 (ig.inp.inj x).tm (ig.inp.inj x).hp (fnK ig OY Q) (λ_ _=>False)=(RZ ok0 g0_0 (x.1.1) (x.1.2.1)).wpR Q:=by kernel_rfl
theorem aa3 (ok0:cr->Bool) (g0_0:cr->jQ) (h0:∀ s:cr,ok0 s=true->∃ m e,ao (r6) m s=some e/\(zU g0_0 s).run=some e) (pre:Dt->Bool) (F:Dt->OT ig.Y) (hF:∀ (x:Dt) oy,pre x=true->(F x).run=some oy->(RZ ok0 g0_0 (x.1.1) (x.1.2.1)).run=some oy):ac Tryz.prog 147 (ig.aI pre F):=
 aD aq Cm RB (f:=147) (fn:=Tryz.f147) (c:=aj Tryz.f147) (by kernel_rfl) (by kernel_rfl) (by kernel_rfl) (S:=ig) (k:=0) (by kernel_rfl) (λR hR=>(aB (c:=(aj Tryz.f147)) (by kernel_rfl) (id:=0) (by kernel_rfl) (aQ aq Cm RB (sh:=r5) hR (xs:=VQ) (aC (by kernel_rfl) (by kernel_rfl) hR) aL af (n:=1000) (T:=r6) (λs Q=>ao4 s Q) (ok:=ok0) (f:=zU g0_0) h0) af)) (n:=1000) (sel:=OY) (λv o h=>by cases h;rfl) (pre:=pre) (F:=F) (T:=λx=>RZ ok0 g0_0 (x.1.1) (x.1.2.1)) (λx Q=>awv ok0 g0_0 x Q) hF
def aI4 (k:Nat) (s:List UInt64×UInt64):List UInt64×UInt64:=(s.1.set k (bR (s.1.getD k 0) 1|||s.2),bf (s.1.getD k 0) 63)
def O0 (s:cr):Bool:=decide (s.1.2.2.2.1=0/\s.2.1.length=4)
def VT (s:cr):jQ:=(((upto aI4 (s.2.1,s.1.1) 4).2,(),(),()),((upto aI4 (s.2.1,s.1.1) 4).1,s.2.2.1,()))
theorem ao6:∀ s:cr,O0 s=true->∃ m e,ao r6 m s=some e/\(zU VT s).run=some e:=by
 rintro ⟨⟨b,⟨⟩,⟨⟩,i,⟨⟩⟩,⟨a,r,⟨⟩⟩⟩ h
 have h':=of_decide_eq_true h
 dsimp only at h'
 obtain ⟨rfl,hl⟩:=h'
 have:=(aP (T:=r6) (λk s=>(((s.2,(),(),(k:Int),()),(s.1,r,())):cr)) aI4
  (λs=>(⟨(.exit 0,qa),((s.2,(),(),()),(s.1,r,()))⟩:aE)) 4 (a,b) (λ_ s=>s.1.length=4) hl (λk s hk hs=>⟨?_,(List.length_set ..).trans hs⟩) (λs hs=> ?_)).1
 ·obtain ⟨m,hm⟩:=this
  exact ⟨m,_,hm,rfl⟩
 ·refine (OT.ap (decide_eq_true (by dsimp only;omega))).trans ((ah ?_).trans ?_)
  ·simp only [Int.toNat_natCast,Nat.add_zero,hs,List.all_cons,List.all_nil,Bool.and_true,Bool.and_eq_true]
   exact ⟨aN (by omega),decide_eq_true (by omega),aN (by omega),decide_eq_true (by omega),aN (by omega),decide_eq_true (by omega),aH (by omega)⟩
  ·simp only [OT.cL,Int.toNat_natCast,Nat.add_zero]
   rfl
 ·exact OT.ar (decide_eq_false (by dsimp only;omega))
def OZ (_:Dt):Bool:=true
def afH (x:Dt):OT ig.Y:=.ok ⟨IG,(((aY x.1.1 x.1.2.1).1,((aY x.1.1 x.1.2.1).2,())),())⟩
theorem ao5:ac Tryz.prog 147 (ig.aI OZ afH):=aa3 O0 VT ao6 _ _ λx oy hp ho=>by
 rw [<-ho]
 clear ho
 obtain ⟨⟨a,b,⟨⟩⟩,⟨⟩⟩:=x
 refine (ah ?_).trans rfl
 simp only [List.all_cons,List.all_nil,Bool.and_true,Bool.and_eq_true]
 exact ⟨rfl,rfl,rfl,rfl⟩
def xY:cj:=(ig.aI OZ afH)
theorem VS:ac Tryz.prog 147 xY:=ao5
theorem VR:aG xY:=aA
def wR:Env:=ay 147 xY RC
theorem ru:aR Tryz.prog wR:=ag VS Cm
theorem Cl:ax wR:=ae VR MM
theorem GN:aW Tryz.prog te wR:=aK follows aq ru Cl
def rK:aw:=⟨[.val true .elem,.val true .elem,.val true .elem],[],true,0,false⟩
abbrev akQ:Type:=((aa)×(aa)×(aa)×Unit)×(Unit)
def II:Shape:=⟨57,[(5,.ptr 0 0 0),(6,.ptr 1 0 0),(8,.ptr 2 0 0),(10,.ptr 3 0 0),(11,.val false .int),(21,.val true (.arr 2 .elem)),(22,.val false .int)],[(0,.row .u64),(1,.row .u64),(2,.row .u64),(3,.row .u64)],0,true⟩
abbrev df:Type:=((Unit)×(Unit)×(Unit)×(Unit)×(Int)×(List (aa))×(Int)×Unit)×((List (UInt64))×(List (UInt64))×(List (UInt64))×(List (UInt64))×Unit)
def zV:Shape:=⟨57,[(5,.ptr 0 0 0),(6,.ptr 1 0 0),(8,.ptr 2 0 0),(21,.val true (.arr 2 .elem)),(22,.val false .int)],[(0,.row .u64),(1,.row .u64),(2,.row .u64)],0,true⟩
abbrev kU:Type:=((Unit)×(Unit)×(Unit)×(List (aa))×(Int)×Unit)×((List (UInt64))×(List (UInt64))×(List (UInt64))×Unit)
def ao8:SE->Option Shape:=fw [(2,zV)] none
def aa5 (a11:Int) (a21:List (aa)) (a22:Int) (c0:List (UInt64)) (c1:List (UInt64)) (c2:List (UInt64)) (c3:List (UInt64)):OT (Sum df aE):=
 let z0:Nat:=List.length c2
 let z1:Int:=Int.tdiv a11 (64:Int)
 let z2:Int:=Int.tmod a11 (64:Int)
 let z3:aa×UInt64:=aY {w0:=List.getD c2 0 0,w1:=List.getD c2 1 0,w2:=List.getD c2 2 0,w3:=List.getD c2 3 0} (bf (List.getD c3 (Int.toNat z1+0) (0:UInt64)) z2&&&(1:UInt64))
 let z4:=z3.fst
 let z5:List UInt64:=List.set (List.set (List.set (List.set c2 0 z4.w0) 1 z4.w1) 2 z4.w2) 3 z4.w3
 let z6:Nat:=List.length z5
 let z7:Bool:=decide ((4/1:Nat)+0<=z6)
 let z8:Bool:=inR (a11-(1:Int))
 let z9:aa:= {w0:=0,w1:=0,w2:=0,w3:=0}
 let z10:aa×Bool:=eg {w0:=List.getD z5 0 0,w1:=List.getD z5 1 0,w2:=List.getD z5 2 0,w3:=List.getD z5 3 0} {w0:=List.getD c0 0 0,w1:=List.getD c0 1 0,w2:=List.getD c0 2 0,w3:=List.getD c0 3 0}
 let z11:=z10.fst
 let z12:List UInt64:=List.set (List.set (List.set (List.set z5 0 z11.w0) 1 z11.w1) 2 z11.w2) 3 z11.w3
 (.br (decide ((0:Int)<=a11))
 (gd [decide (4<=z0),true&&inR z1,inB z1 4,decide (Int.toNat z1+0<List.length c3),decide ((0:Int)<=z2),decide ((4/1:Nat)+0<=z0),decide (4<=z6),decide (4<=List.length c0)] (.br (!z3.snd==(0:UInt64))
  (gd [z7,z8] (.ok (.inl (((),((),((),((),(a11-(1:Int),([List.getD a21 0 z9,List.getD a21 1 z9],(a22,()))))))),(c0,(c1,(z12,(c3,()))))))))
  (.br (!z10.snd)
   (gd [z7,z8] (.ok (.inl (((),((),((),((),(a11-(1:Int),([List.getD a21 0 z9,List.getD a21 1 z9],(a22,()))))))),(c0,(c1,(z12,(c3,()))))))))
   (gd [z8] (.ok (.inl (((),((),((),((),(a11-(1:Int),([List.getD a21 0 z9,List.getD a21 1 z9],(a22,()))))))),(c0,(c1,(z5,(c3,())))))))))))
 (.ok (.inr ⟨(.exit 2,zV),(((),((),((),([List.getD a21 0 z9,List.getD a21 1 z9],(a22,()))))),(c0,(c1,(c2,()))))⟩)))
def IJ (s:df):OT (Sum df aE):=aa5 (s.1.2.2.2.2.1) (s.1.2.2.2.2.2.1) (s.1.2.2.2.2.2.2.1) (s.2.1) (s.2.2.1) (s.2.2.2.1) (s.2.2.2.2.1)
theorem aCr (s:df) (Q:Sum df aE->Prop):wps te wR av 1000 (aU (aj Tryz.f111) 2) (II.inj s) (bX II ao8 (Q:Sum II.T aE->Prop))=(IJ s).wpR Q:=by kernel_rfl
def R3 (g2_2:df->kU) (s:df):OT aE:=(.ok ⟨(.exit 2,zV),(((g2_2 s).1.1,((g2_2 s).1.2.1,((g2_2 s).1.2.2.1,(s.1.2.2.2.2.2.1,(s.1.2.2.2.2.2.2.1,()))))),(g2_2 s).2)⟩)
def Du:az:=⟨[.val true .elem,.val false .int],[],false⟩
def afI:SV->Option az:=λ_=>some Du
def O1 (ok2:df->Bool) (g2_2:df->kU) (a0:aa) (a1:aa) (a2:aa):OT rK.Y:=
 let z0:(PUnit×PUnit×PUnit×PUnit×Int×List aa×Int×PUnit)×List UInt64×List UInt64×List UInt64×List UInt64×PUnit:=(((),(),(),(),(255:Int),[a1,a0],(0:Int),()),[a2.w0,a2.w1,a2.w2,a2.w3],[(0:UInt64),(0:UInt64),(0:UInt64),(0:UInt64)],[(0:UInt64),(0:UInt64),(0:UInt64),(0:UInt64)],[a1.w0,a1.w1,a1.w2,a1.w3],())
 let z1:=(g2_2 z0).snd
 let z2:=z1.snd
 let z3:(PUnit×PUnit×PUnit×PUnit×Int×List aa×Int×PUnit)×List UInt64×List UInt64×List UInt64×List UInt64×PUnit:=(((),(),(),(),(255:Int),[a1,a0],(0:Int)+(1:Int),()),z1.fst,z2.fst,z2.snd.fst,[a0.w0,a0.w1,a0.w2,a0.w3],())
 let z4:=(g2_2 z3).snd.snd
 let z5:=z4.snd.fst
 let z6:=z4.fst
 let z7:List UInt64:=lay z6 z5 4 (0:UInt64)
 (.br (a2.w0==(0:UInt64)&&(a2.w1==(0:UInt64)&&(a2.w2==(0:UInt64)&&(a2.w3==(0:UInt64)&&true))))
 (.ok ⟨Du,(({w0:=0,w1:=0,w2:=0,w3:=0},((10:Int),())),())⟩)
 (gd [ok2 z0,ok2 z3,decide (4<=List.length z5),decide ((4/1:Nat)+0<=List.length z6),decide (4<=List.length z7)] (.ok ⟨Du,(({w0:=List.getD z7 0 0,w1:=List.getD z7 1 0,w2:=List.getD z7 2 0,w3:=List.getD z7 3 0},((0:Int),())),())⟩)))
theorem aGZ (ok2:df->Bool) (g2_2:df->kU) (x:akQ) (Q:rK.Y->Prop):wpf te wR (aO 2 (cg II 2 ok2 (R3 g2_2)) av) 1000 Tryz.f111 (rK.inp.inj x).tm (rK.inp.inj x).hp (fnK rK afI Q) (λ_ _=>False)=(O1 ok2 g2_2 (x.1.1) (x.1.2.1) (x.1.2.2.1)).wpR Q:=by kernel_rfl
theorem ao9 (ok2:df->Bool) (g2_2:df->kU) (h2:∀ s:df,ok2 s=true->∃ m e,ao (IJ) m s=some e/\(R3 g2_2 s).run=some e) (pre:akQ->Bool) (F:akQ->OT rK.Y) (hF:∀ (x:akQ) oy,pre x=true->(F x).run=some oy->(O1 ok2 g2_2 (x.1.1) (x.1.2.1) (x.1.2.2.1)).run=some oy):ac Tryz.prog 111 (rK.aI pre F):=
 aD aq ru GN (f:=111) (fn:=Tryz.f111) (c:=aj Tryz.f111) (by kernel_rfl) (by kernel_rfl) (by kernel_rfl) (S:=rK) (k:=0) (by kernel_rfl) (λR hR=>(aB (c:=(aj Tryz.f111)) (by kernel_rfl) (id:=2) (by kernel_rfl) (aQ aq ru GN (sh:=II) hR (xs:=ao8) (aC (by kernel_rfl) (by kernel_rfl) hR) aL af (n:=1000) (T:=IJ) (λs Q=>aCr s Q) (ok:=ok2) (f:=R3 g2_2) h2) af)) (n:=1000) (sel:=afI) (λv o h=>by cases h;rfl) (pre:=pre) (F:=F) (T:=λx=>O1 ok2 g2_2 (x.1.1) (x.1.2.1) (x.1.2.2.1)) (λx Q=>aGZ ok2 g2_2 x Q) hF
def R0 (s:df):Bool:=decide (s.1.2.2.2.2.1=255/\s.1.2.2.2.2.2.1.length=2/\s.2.1.length=4/\s.2.2.2.1.length=4/\s.2.2.2.2.1.length=4)
def aa4 (s:df):kU:=(((),(),(),s.1.2.2.2.2.2.1,s.1.2.2.2.2.2.2.1,()),(s.2.1,s.2.2.1,lst (abN (elemOf s.2.1) (elemOf s.2.2.2.2.1) (elemOf s.2.2.2.1) 256),()))
theorem aI8 (i:Nat):Int.tdiv (i:Int) 64=((i/64:Nat):Int):=by rw [Int.tdiv_eq_ediv_of_nonneg (by omega)];omega
theorem aI9 (i:Nat):Int.tmod (i:Int) 64=((i%64:Nat):Int):=by rw [Int.tmod_eq_emod_of_nonneg (by omega)];omega
theorem aCt:∀ s:df,R0 s=true->∃ m e,ao IJ m s=some e/\(R3 aa4 s).run=some e:=by
 rintro ⟨⟨⟨⟩,⟨⟩,⟨⟩,⟨⟩,i,arr,j,⟨⟩⟩,⟨c0,c1,c2,c3,⟨⟩⟩⟩ h
 have h':=of_decide_eq_true h
 dsimp only at h'
 obtain ⟨rfl,ha,h0,h2,h3⟩:=h'
 obtain ⟨x,y,rfl⟩:∃ x y,arr= [x,y]:=by
  match arr,ha with
  | [x,y],_=>exact ⟨x,y,rfl⟩
 obtain ⟨m,rfl⟩:∃ a,c0=lst a:=⟨elemOf c0,(aS h0).symm⟩
 obtain ⟨r,rfl⟩:∃ a,c2=lst a:=⟨elemOf c2,(aS h2).symm⟩
 obtain ⟨t,rfl⟩:∃ a,c3=lst a:=⟨elemOf c3,(aS h3).symm⟩
 have:=(aP (T:=IJ) (λk r=>((((),(),(),(),(255:Int)-(k:Int),[x,y],j,()),(lst m,c1,lst r,lst t,())):df)) (λk r=>HT m r (Ob t (255-k)))
  (λr=>(⟨(.exit 2,zV),(((),(),(),[x,y],j,()),(lst m,c1,lst r,()))⟩:aE)) 256 r (λ_ _=>True) trivial (λk r hk _=>⟨?_,trivial⟩) (λr _=> ?_)).1
 ·obtain ⟨n,hn⟩:=this
  exact ⟨n,_,hn,rfl⟩
 ·have e0:(255:Int)-(k:Int)=((255-k:Nat):Int):=by omega
  have e1:(255:Int)-((k+1:Nat):Int)=((255-k:Nat):Int)-1:=by omega
  have hb:bf ((lst t).getD ((255-k)/64) 0) (((255-k)%64:Nat):Int)&&&1=Ob t (255-k):=rfl
  rw [e1,e0]
  show (aa5 ((255-k:Nat):Int) [x,y] j (lst m) c1 (lst r) (lst t)).run=some (.inl (((),(),(),(),((255-k:Nat):Int)-1,[x,y],j,()),(lst m,c1,lst (HT m r (Ob t (255-k))),lst t,())))
  unfold aa5
  simp only [aI8,aI9,Int.toNat_natCast,Nat.add_zero,hb]
  refine (OT.ap (decide_eq_true (by omega))).trans ((ah ?_).trans ?_)
  ·simp only [List.all_cons,List.all_nil,Bool.and_true,Bool.true_and,Bool.and_eq_true]
   have hl:∀ a:aa,(lst a).length=4:=λ_=>rfl
   exact ⟨rfl,aH (by omega),aN (by omega),decide_eq_true (by rw [hl];omega),decide_eq_true (by omega),rfl,rfl,rfl⟩
  ·have hr:inR (((255-k:Nat):Int)-1)=true:=aH (by omega)
   rcases (Bool.eq_false_or_eq_true ((aY r (Ob t (255-k))).2==0)).symm with g|g
   ·have e:HT m r (Ob t (255-k))=(eg (aY r (Ob t (255-k))).1 m).1:=by unfold HT;rw [g];rfl
    rw [e]
    exact (OT.ap (b:= !((aY r (Ob t (255-k))).2==0)) (by rw [g];rfl)).trans ((ah (by rw [hr];rfl)).trans rfl)
   ·refine (OT.ar (b:= !((aY r (Ob t (255-k))).2==0)) (by rw [g];rfl)).trans ?_
    rcases (Bool.eq_false_or_eq_true (eg (aY r (Ob t (255-k))).1 m).2).symm with u|u
    ·have e:HT m r (Ob t (255-k))=(eg (aY r (Ob t (255-k))).1 m).1:=by unfold HT;rw [g,u];rfl
     rw [e]
     exact (OT.ap (b:= !(eg (aY r (Ob t (255-k))).1 m).2) (by rw [u];rfl)).trans ((ah (by rw [hr];rfl)).trans rfl)
    ·have e:HT m r (Ob t (255-k))=(aY r (Ob t (255-k))).1:=by unfold HT;rw [g,u];rfl
     rw [e]
     exact (OT.ar (b:= !(eg (aY r (Ob t (255-k))).1 m).2) (by rw [u];rfl)).trans ((ah (by rw [hr];rfl)).trans rfl)
 ·exact OT.ar (decide_eq_false (by dsimp only;omega))
def afJ (_:akQ):Bool:=true
def nj (m:aa):Bool:=m.w0==0&&(m.w1==0&&(m.w2==0&&(m.w3==0&&true)))
def aBr (x:akQ):OT rK.Y:=.br (nj x.1.2.2.1) (.ok ⟨Du,((⟨0,0,0,0⟩,((10:Int),())),())⟩) (.ok ⟨Du,((ayU x.1.1 x.1.2.1 x.1.2.2.1,((0:Int),())),())⟩)
theorem Qo {m:aa} (h:nj m=false):0<m.nat:=by
 refine Nat.pos_of_ne_zero λe=> ?_
 have e2:m=⟨0,0,0,0⟩:=qL e
 rw [e2] at h
 cases h
theorem apa {ok2:df->Bool} {g2:df->kU} {a b m H R:aa} (h:nj m=false)
 (h1:ok2 (((),(),(),(),255,[b,a],0,()),(lst m,lst ⟨0,0,0,0⟩,lst ⟨0,0,0,0⟩,lst b,()))=true)
 (e1:(g2 (((),(),(),(),255,[b,a],0,()),(lst m,lst ⟨0,0,0,0⟩,lst ⟨0,0,0,0⟩,lst b,()))).2=(lst m,lst ⟨0,0,0,0⟩,lst H,()))
 (h2:ok2 (((),(),(),(),255,[b,a],0+1,()),(lst m,lst ⟨0,0,0,0⟩,lst H,lst a,()))=true)
 (e2:(g2 (((),(),(),(),255,[b,a],0+1,()),(lst m,lst ⟨0,0,0,0⟩,lst H,lst a,()))).2=(lst m,lst ⟨0,0,0,0⟩,lst R,())):
 (O1 ok2 g2 a b m).run=some ⟨Du,((R,((0:Int),())),())⟩:=by
 have l:∀ e:aa,lst e= [e.w0,e.w1,e.w2,e.w3]:=λ_=>rfl
 rw [l m,l ⟨0,0,0,0⟩] at h1 e1 h2 e2
 rw [l b] at h1 e1
 rw [l a] at h2 e2
 unfold O1
 simp only [e1,h1,e2,h2]
 exact (OT.ar h).trans ((ah rfl).trans rfl)
theorem aCs:ac Tryz.prog 111 (rK.aI afJ aBr):=ao9 R0 aa4 aCt _ _ λx oy hp ho=>by
 rw [<-ho]
 clear ho
 obtain ⟨⟨a,b,m,⟨⟩⟩,⟨⟩⟩:=x
 show (O1 R0 aa4 a b m).run=(OT.br (nj m) _ _:OT rK.Y).run
 rcases (Bool.eq_false_or_eq_true (nj m)).symm with h|h
 ·refine Eq.trans (apa (H:=abN m b ⟨0,0,0,0⟩ 256) (R:=abN m a (abN m b ⟨0,0,0,0⟩ 256) 256) h rfl rfl rfl rfl) ?_
  rw [ah8 (Qo h)]
  rw [h]
  rfl
 ·exact (OT.ap h).trans (OT.ap (b:=nj m) h).symm
def IH:cj:=(rK.aI afJ aBr)
theorem akP:ac Tryz.prog 111 IH:=aCs
theorem akO:aG IH:=aA
def aap:Env:=ay 111 IH wR
theorem MJ:aR Tryz.prog aap:=ag akP ru
theorem MK:ax aap:=ae akO Cl
theorem aoF:aW Tryz.prog te aap:=aK follows aq MJ MK
def Ls:aw:=⟨[.val false .int],[],true,0,false⟩
abbrev aGQ:Type:=((Int)×Unit)×(Unit)
def GD:az:=⟨[.val true (.prod .elem (.prod .int (.prod .u64 (.prod .u64 .elem)))),.val false .int],[],false⟩
def at6:SV->Option az:=λ_=>some GD
def aFD (a0:Int):OT Ls.Y:=
 let z0:aa:= {w0:=0,w1:=0,w2:=0,w3:=0}
 let z1:UInt64×aa:=((0:UInt64),z0)
 (.br (a0==(0:Int))
 (.ok ⟨GD,((({w0:=16513537,w1:=0,w2:=0,w3:=0},(9:Int),(16513537:UInt64),z1),((0:Int),())),())⟩)
 (.br (a0==(1:Int))
  (.ok ⟨GD,((({w0:=16521217,w1:=0,w2:=0,w3:=0},(11:Int),(16521217:UInt64),z1),((0:Int),())),())⟩)
  (.br (a0==(2:Int))
   (.ok ⟨GD,((({w0:=11037532056220336129,w1:=2469829653914515739,w2:=0,w3:=4611686018427387904},(32:Int),(0:UInt64),(11037532056220336127:UInt64),{w0:=10122100416058490895,w1:=15551789045973377255,w2:=8617542898466512152,w3:=679271340751763220}),((0:Int),())),())⟩)
   (.br (a0==(3:Int))
    (.ok ⟨GD,((({w0:=10108024940646105089,w1:=2469829653919213789,w2:=0,w3:=4611686018427387904},(32:Int),(0:UInt64),(10108024940646105087:UInt64),{w0:=18200867980676431887,w1:=7474641938123724515,w2:=9200329640471491984,w3:=679271340771891881}),((0:Int),())),())⟩)
    (.ok ⟨GD,(((z0,(0:Int),(0:UInt64),z1),((20:Int),())),())⟩)))))
theorem aJi (x:aGQ) (Q:Ls.Y->Prop):wpf te aap av 1000 Tryz.f76 (Ls.inp.inj x).tm (Ls.inp.inj x).hp (fnK Ls at6 Q) (λ_ _=>False)=(aFD (x.1.1)).wpR Q:=by kernel_rfl
theorem aAk (pre:aGQ->Bool) (F:aGQ->OT Ls.Y) (hF:∀ (x:aGQ) oy,pre x=true->(F x).run=some oy->(aFD (x.1.1)).run=some oy):ac Tryz.prog 76 (Ls.aI pre F):=
 aD aq MJ aoF (f:=76) (fn:=Tryz.f76) (c:=aj Tryz.f76) (by kernel_rfl) (by kernel_rfl) (by kernel_rfl) (S:=Ls) (k:=0) (by kernel_rfl) (λR hR=>af) (n:=1000) (sel:=at6) (λv o h=>by cases h;rfl) (pre:=pre) (F:=F) (T:=λx=>aFD (x.1.1)) (λx Q=>aJi x Q) hF
abbrev OR:Type:=aa×Int×UInt64×UInt64×aa
def aHO:OR:=(⟨0,0,0,0⟩,0,0,0,⟨0,0,0,0⟩)
def aX:Nat->OR
 |0=>(⟨16513537,0,0,0⟩,9,16513537,0,⟨0,0,0,0⟩)
 |1=>(⟨16521217,0,0,0⟩,11,16521217,0,⟨0,0,0,0⟩)
 |2=>(⟨11037532056220336129,2469829653914515739,0,4611686018427387904⟩,32,0,11037532056220336127,⟨10122100416058490895,15551789045973377255,8617542898466512152,679271340751763220⟩)
 |3=>(⟨10108024940646105089,2469829653919213789,0,4611686018427387904⟩,32,0,10108024940646105087,⟨18200867980676431887,7474641938123724515,9200329640471491984,679271340771891881⟩)
 |_=>aHO
def al (s:Int):Bool:=decide (0<=s)&&decide (s<4)
theorem ck {s:Int} (h:al s=true):s=0\/s=1\/s=2\/s=3:=by
 simp only [al,Bool.and_eq_true,decide_eq_true_eq] at h
 omega
theorem u5 {s:Int} (h:al s=false):(s==0)=false/\(s==1)=false/\(s==2)=false/\(s==3)=false:=by
 have hn:∀ k:Int,0<=k->k<4->(s==k)=false:=λk h0 h1=>by
  cases hb:s==k
  ·rfl
  ·have:s=k:=by simpa using hb
   subst this
   simp only [al,decide_eq_true h0,decide_eq_true h1,Bool.and_self] at h
   cases h
 exact ⟨hn 0 (by decide) (by decide),hn 1 (by decide) (by decide),hn 2 (by decide) (by decide),hn 3 (by decide) (by decide)⟩
def at7 (_:aGQ):Bool:=true
def aIf (x:aGQ):OT Ls.Y:=.br (al x.1.1) (.ok ⟨GD,((aX x.1.1.toNat,((0:Int),())),())⟩) (.ok ⟨GD,((aHO,((20:Int),())),())⟩)
theorem aIe:ac Tryz.prog 76 (Ls.aI at7 aIf):=aAk _ _ λx oy _ ho=>by
 rw [<-ho]
 clear ho
 obtain ⟨⟨s,⟨⟩⟩,⟨⟩⟩:=x
 cases hs:al s
 ·obtain ⟨h0,h1,h2,h3⟩:=u5 hs
  exact (OT.ar h0).trans ((OT.ar h1).trans ((OT.ar h2).trans ((OT.ar h3).trans (OT.ar (b:=al s) hs).symm)))
 ·rcases ck hs with h|h|h|h
  all_goals
   have h:s=_:=h
   subst h
   rfl
theorem u4 (c:Int):al c=(!decide (c<0)&& !decide (3<c)):=by
 rw [Bool.eq_iff_iff]
 simp only [al,Bool.and_eq_true,decide_eq_true_eq,Bool.not_eq_true',decide_eq_false_iff_not]
 omega
def Ul:cj:=(Ls.aI at7 aIf)
theorem at8:ac Tryz.prog 76 Ul:=aIe
theorem at5:aG Ul:=aA
def awn:Env:=ay 76 Ul aap
theorem VC:aR Tryz.prog awn:=ag at8 MJ
theorem RN:ax awn:=ae at5 MK
theorem awm:aW Tryz.prog te awn:=aK follows aq VC RN
def tK:aw:=⟨[.val false .int],[],true,0,false⟩
abbrev anr:Type:=((Int)×Unit)×(Unit)
def LB:az:=⟨[.val true .elem,.val false .int],[],false⟩
def ajD:SV->Option az:=λ_=>some LB
def aug (a0:Int):OT tK.Y:=
 (.br (al a0)
 (.ok ⟨LB,(((aX (Int.toNat a0)).fst,((0:Int),())),())⟩)
 (.ok ⟨LB,(({w0:=0,w1:=0,w2:=0,w3:=0},((20:Int),())),())⟩))
theorem aIj (x:anr) (Q:tK.Y->Prop):wpf te awn av 1000 Tryz.f66 (tK.inp.inj x).tm (tK.inp.inj x).hp (fnK tK ajD Q) (λ_ _=>False)=(aug (x.1.1)).wpR Q:=by kernel_rfl
theorem auf (pre:anr->Bool) (F:anr->OT tK.Y) (hF:∀ (x:anr) oy,pre x=true->(F x).run=some oy->(aug (x.1.1)).run=some oy):ac Tryz.prog 66 (tK.aI pre F):=
 aD aq VC awm (f:=66) (fn:=Tryz.f66) (c:=aj Tryz.f66) (by kernel_rfl) (by kernel_rfl) (by kernel_rfl) (S:=tK) (k:=0) (by kernel_rfl) (λR hR=>af) (n:=1000) (sel:=ajD) (λv o h=>by cases h;rfl) (pre:=pre) (F:=F) (T:=λx=>aug (x.1.1)) (λx Q=>aIj x Q) hF
def ajE (_:anr):Bool:=true
def aB2 (x:anr):OT tK.Y:=.br (al x.1.1) (.ok ⟨LB,(((aX x.1.1.toNat).1,((0:Int),())),())⟩) (.ok ⟨LB,((⟨0,0,0,0⟩,((20:Int),())),())⟩)
theorem aFL:ac Tryz.prog 66 (tK.aI ajE aB2):=auf _ _ λx oy _ ho=>ho
def LA:cj:=(tK.aI ajE aB2)
theorem anq:ac Tryz.prog 66 LA:=aFL
theorem anp:aG LA:=aA
def NA:Env:=ay 66 LA awn
theorem uR:aR Tryz.prog NA:=ag anq VC
theorem Nz:ax NA:=ae anp RN
theorem F1:aW Tryz.prog te NA:=aK follows aq uR Nz
def pf:aw:=⟨[.val true (.prod .elem (.prod .int (.prod .u64 (.prod .u64 .elem)))),.val true .elem],[],true,0,false⟩
abbrev anb:Type:=(((aa×(Int×(UInt64×(UInt64×aa)))))×(aa)×Unit)×(Unit)
def Lm:Shape:=⟨53,[(2,.ptr 0 0 0),(3,.ptr 1 0 0),(4,.ptr 2 0 0),(5,.val false .u64),(6,.val false .int)],[(0,.cells [.val false .u64,.val false .u64,.val false .u64,.val false .u64,.val false .int,.val false .u64,.val false .u64,.val false .u64,.val false .u64,.val false .u64,.val false .u64]),(1,.row .u64),(2,.row .u64)],0,true⟩
abbrev dI:Type:=((Unit)×(Unit)×(Unit)×(UInt64)×(Int)×Unit)×(((UInt64)×(UInt64)×(UInt64)×(UInt64)×(Int)×(UInt64)×(UInt64)×(UInt64)×(UInt64)×(UInt64)×(UInt64)×Unit)×(List (UInt64))×(List (UInt64))×Unit)
def BG:Shape:=⟨53,[(4,.ptr 0 0 0),(5,.val false .u64)],[(0,.row .u64)],0,true⟩
abbrev pe:Type:=((Unit)×(UInt64)×Unit)×((List (UInt64))×Unit)
def at3:SE->Option Shape:=fw [(0,BG)] none
def aFB (a5:UInt64) (a6:Int) (c0_0:UInt64) (c0_1:UInt64) (c0_2:UInt64) (c0_3:UInt64) (c0_4:Int) (c0_5:UInt64) (c0_6:UInt64) (c0_7:UInt64) (c0_8:UInt64) (c0_9:UInt64) (c0_10:UInt64) (c1:List (UInt64)) (c2:List (UInt64)):OT (Sum dI aE):=
 let z0:UInt64:=List.getD c1 (Int.toNat a6+0) (0:UInt64)
 (.br (decide ((0:Int)<=a6))
 (gd [inB a6 4,decide (Int.toNat a6+0<List.length c1),wC ((a5,z0,c0_5,()),()),inR (a6-(1:Int))] (.ok (.inl (((),((),((),(Zf a5 z0 c0_5,(a6-(1:Int),()))))),((c0_0,(c0_1,(c0_2,(c0_3,(c0_4,(c0_5,(c0_6,(c0_7,(c0_8,(c0_9,(c0_10,()))))))))))),(c1,(c2,())))))))
 (.ok (.inr ⟨(.exit 0,BG),(((),(a5,())),(c2,()))⟩)))
def Lp (s:dI):OT (Sum dI aE):=aFB (s.1.2.2.2.1) (s.1.2.2.2.2.1) (s.2.1.1) (s.2.1.2.1) (s.2.1.2.2.1) (s.2.1.2.2.2.1) (s.2.1.2.2.2.2.1) (s.2.1.2.2.2.2.2.1) (s.2.1.2.2.2.2.2.2.1) (s.2.1.2.2.2.2.2.2.2.1) (s.2.1.2.2.2.2.2.2.2.2.1) (s.2.1.2.2.2.2.2.2.2.2.2.1) (s.2.1.2.2.2.2.2.2.2.2.2.2.1) (s.2.2.1) (s.2.2.2.1)
theorem aFw (s:dI) (Q:Sum dI aE->Prop):wps te NA av 1000 (aU (aj Tryz.f91) 0) (Lm.inj s) (bX Lm at3 (Q:Sum Lm.T aE->Prop))=(Lp s).wpR Q:=by kernel_rfl
def Uk (g0_0:dI->pe) (s:dI):OT aE:=(.ok ⟨(.exit 0,BG),g0_0 s⟩)
def Ll:Shape:=⟨53,[(2,.ptr 0 0 0),(3,.ptr 1 0 0),(4,.ptr 2 0 0)],[(0,.cells [.val false .u64,.val false .u64,.val false .u64,.val false .u64,.val false .int,.val false .u64,.val false .u64,.val false .u64,.val false .u64,.val false .u64,.val false .u64]),(1,.row .u64),(2,.row .u64)],0,true⟩
abbrev dH:Type:=((Unit)×(Unit)×(Unit)×Unit)×(((UInt64)×(UInt64)×(UInt64)×(UInt64)×(Int)×(UInt64)×(UInt64)×(UInt64)×(UInt64)×(UInt64)×(UInt64)×Unit)×(List (UInt64))×(List (UInt64))×Unit)
def tF:Shape:=⟨53,[(4,.ptr 0 0 0)],[(0,.row .u64)],0,true⟩
abbrev pd:Type:=((Unit)×Unit)×((List (UInt64))×Unit)
def at2:SE->Option Shape:=fw [] (some tF)
def aFA (c0_0:UInt64) (c0_1:UInt64) (c0_2:UInt64) (c0_3:UInt64) (c0_4:Int) (c0_5:UInt64) (c0_6:UInt64) (c0_7:UInt64) (c0_8:UInt64) (c0_9:UInt64) (c0_10:UInt64) (c1:List (UInt64)) (c2:List (UInt64)):OT (Sum dH aE):=
 let z0:Nat:=List.length c1
 let z1:Bool:=decide (4<=z0)
 let z2:aa×Bool:=eg {w0:=List.getD c1 0 0,w1:=List.getD c1 1 0,w2:=List.getD c1 2 0,w3:=List.getD c1 3 0} {w0:=c0_0,w1:=c0_1,w2:=c0_2,w3:=c0_3}
 let z3:=z2.fst
 (gd [z1] (.br (z2.snd)
 (gd [z1,decide ((4/1:Nat)+0<=List.length c2)] (.ok (.inr ⟨(.ret,tF),(((),()),(lay c2 c1 4 (0:UInt64),()))⟩)))
 (gd [decide ((4/1:Nat)+0<=z0)] (.ok (.inl (((),((),((),()))),((c0_0,(c0_1,(c0_2,(c0_3,(c0_4,(c0_5,(c0_6,(c0_7,(c0_8,(c0_9,(c0_10,()))))))))))),(List.set (List.set (List.set (List.set c1 0 z3.w0) 1 z3.w1) 2 z3.w2) 3 z3.w3,(c2,())))))))))
def Lo (s:dH):OT (Sum dH aE):=aFA (s.2.1.1) (s.2.1.2.1) (s.2.1.2.2.1) (s.2.1.2.2.2.1) (s.2.1.2.2.2.2.1) (s.2.1.2.2.2.2.2.1) (s.2.1.2.2.2.2.2.2.1) (s.2.1.2.2.2.2.2.2.2.1) (s.2.1.2.2.2.2.2.2.2.2.1) (s.2.1.2.2.2.2.2.2.2.2.2.1) (s.2.1.2.2.2.2.2.2.2.2.2.2.1) (s.2.2.1) (s.2.2.2.1)
theorem aFv (s:dH) (Q:Sum dH aE->Prop):wps te NA av 1000 (aU (aj Tryz.f91) 2) (Ll.inj s) (bX Ll at2 (Q:Sum Ll.T aE->Prop))=(Lo s).wpR Q:=by kernel_rfl
def Uj (g2_r:dH->pd) (s:dH):OT aE:=(.ok ⟨(.ret,tF),g2_r s⟩)
def q9:az:=⟨[.val true .elem],[],false⟩
def ajt:SV->Option az:=λ_=>some q9
def Lq (ok0:dI->Bool) (g0_0:dI->pe) (ok2:dH->Bool) (g2_r:dH->pd) (a0:(aa×(Int×(UInt64×(UInt64×aa))))) (a1:aa):OT pf.Y:=
 let z0:Bool:= !a0.snd.snd.fst==(0:UInt64)
 let z1:(UInt64×UInt64×UInt64×UInt64×Int×UInt64×UInt64×UInt64×UInt64×UInt64×UInt64×PUnit)×List UInt64×List UInt64×PUnit:=((a0.fst.w0,a0.fst.w1,a0.fst.w2,a0.fst.w3,a0.snd.fst,a0.snd.snd.fst,a0.snd.snd.snd.fst,a0.snd.snd.snd.snd.w0,a0.snd.snd.snd.snd.w1,a0.snd.snd.snd.snd.w2,a0.snd.snd.snd.snd.w3,()),[a1.w0,a1.w1,a1.w2,a1.w3],[(0:UInt64),(0:UInt64),(0:UInt64),(0:UInt64)],())
 let z2:(PUnit×PUnit×PUnit×UInt64×Int×PUnit)×(UInt64×UInt64×UInt64×UInt64×Int×UInt64×UInt64×UInt64×UInt64×UInt64×UInt64×PUnit)×List UInt64×List UInt64×PUnit:=(((),(),(),(0:UInt64),(3:Int),()),z1)
 let z3:(PUnit×UInt64×PUnit)×List UInt64×PUnit:=g0_0 z2
 let z4:=z3.snd.fst
 let z5:List UInt64:=List.set (List.set (List.set (List.set z4 0 z3.fst.snd.fst) 1 (0:UInt64)) 2 (0:UInt64)) 3 (0:UInt64)
 let z6:(PUnit×PUnit×PUnit×PUnit)×(UInt64×UInt64×UInt64×UInt64×Int×UInt64×UInt64×UInt64×UInt64×UInt64×UInt64×PUnit)×List UInt64×List UInt64×PUnit:=(((),(),(),()),z1)
 let z7:=(g2_r z6).snd.fst
 (.br (z0)
 (.br (a1.w1|||a1.w2|||a1.w3==(0:UInt64))
  (gd [z0] (.ok ⟨q9,(({w0:=a1.w0%a0.snd.snd.fst,w1:=0,w2:=0,w3:=0},()),())⟩))
  (gd [ok0 z2,decide ((4/1:Nat)+0<=List.length z4),decide (4<=List.length z5)] (.ok ⟨q9,(({w0:=List.getD z5 0 0,w1:=List.getD z5 1 0,w2:=List.getD z5 2 0,w3:=List.getD z5 3 0},()),())⟩)))
 (gd [ok2 z6,decide (4<=List.length z7)] (.ok ⟨q9,(({w0:=List.getD z7 0 0,w1:=List.getD z7 1 0,w2:=List.getD z7 2 0,w3:=List.getD z7 3 0},()),())⟩)))
theorem aId (ok0:dI->Bool) (g0_0:dI->pe) (ok2:dH->Bool) (g2_r:dH->pd) (x:anb) (Q:pf.Y->Prop):wpf te NA (aO 2 (cg Ll 2 ok2 (Uj g2_r)) (aO 0 (cg Lm 0 ok0 (Uk g0_0)) av)) 1000 Tryz.f91 (pf.inp.inj x).tm (pf.inp.inj x).hp (fnK pf ajt Q) (λ_ _=>False)=(Lq ok0 g0_0 ok2 g2_r (x.1.1) (x.1.2.1)).wpR Q:=by kernel_rfl
theorem at4 (ok0:dI->Bool) (g0_0:dI->pe) (ok2:dH->Bool) (g2_r:dH->pd) (h0:∀ s:dI,ok0 s=true->∃ m e,ao (Lp) m s=some e/\(Uk g0_0 s).run=some e) (h2:∀ s:dH,ok2 s=true->∃ m e,ao (Lo) m s=some e/\(Uj g2_r s).run=some e) (pre:anb->Bool) (F:anb->OT pf.Y) (hF:∀ (x:anb) oy,pre x=true->(F x).run=some oy->(Lq ok0 g0_0 ok2 g2_r (x.1.1) (x.1.2.1)).run=some oy):ac Tryz.prog 91 (pf.aI pre F):=
 aD aq uR F1 (f:=91) (fn:=Tryz.f91) (c:=aj Tryz.f91) (by kernel_rfl) (by kernel_rfl) (by kernel_rfl) (S:=pf) (k:=0) (by kernel_rfl) (λR hR=>(aB (c:=(aj Tryz.f91)) (by kernel_rfl) (id:=2) (by kernel_rfl) (aQ aq uR F1 (sh:=Ll) hR (xs:=at2) (aC (by kernel_rfl) (by kernel_rfl) hR) aL af (n:=1000) (T:=Lo) (λs Q=>aFv s Q) (ok:=ok2) (f:=Uj g2_r) h2) (aB (c:=(aj Tryz.f91)) (by kernel_rfl) (id:=0) (by kernel_rfl) (aQ aq uR F1 (sh:=Lm) hR (xs:=at3) (aC (by kernel_rfl) (by kernel_rfl) hR) aL af (n:=1000) (T:=Lp) (λs Q=>aFw s Q) (ok:=ok0) (f:=Uk g0_0) h0) af))) (n:=1000) (sel:=ajt) (λv o h=>by cases h;rfl) (pre:=pre) (F:=F) (T:=λx=>Lq ok0 g0_0 ok2 g2_r (x.1.1) (x.1.2.1)) (λx Q=>aId ok0 g0_0 ok2 g2_r x Q) hF
def kk (n:OR):Bool:=decide (n=aX 0)||(decide (n=aX 1)||(decide (n=aX 2)||decide (n=aX 3)))
theorem yM {n:OR} (h:kk n=true):n=aX 0\/n=aX 1\/n=aX 2\/n=aX 3:=by
 simpa [kk] using h
theorem iQ {s:Int} (h:al s=true):kk (aX s.toNat)=true:=by
 rcases ck h with rfl|rfl|rfl|rfl<;>decide+kernel
def aHA (c:List UInt64) (m:UInt64):UInt64:=upto (λk r=>Zf r (c.getD (3-k) 0) m) 0 4
theorem lp {m:UInt64} (h:fT m=true):0<m.toNat:=by
 rcases dV h with rfl|rfl<;>decide
theorem ah7 {a:aa} {m:UInt64} (h:fT m=true):aHA (lst a) m=UInt64.ofNat (a.nat%m.toNat):=by
 have hm:=lp h
 rw [<-UInt64.toNat_inj,UInt64.toNat_ofNat',Nat.mod_eq_of_lt (b:=2^64) (Nat.lt_trans (Nat.mod_lt _ hm) m.toNat_lt)]
 show (Zf (Zf (Zf (Zf 0 a.w3 m) a.w2 m) a.w1 m) a.w0 m).toNat=_
 rw [rf hm,rf hm,rf hm,rf hm,TU _ a.w2.toNat,TU _ a.w1.toNat,TU _ a.w0.toNat,show (0:UInt64).toNat=0 from rfl]
 congr 1
 unfold Sx.aa.nat
 omega
def BF (s:dI):Bool:=decide (s.1.2.2.2.1=0/\s.1.2.2.2.2.1=3/\s.2.2.1.length=4)&&fT s.2.1.2.2.2.2.2.1
def Ui (s:dI):pe:=(((),aHA s.2.2.1 s.2.1.2.2.2.2.2.1,()),(s.2.2.2.1,()))
theorem aFz:∀ s:dI,BF s=true->∃ m e,ao Lp m s=some e/\(Uk Ui s).run=some e:=by
 rintro ⟨⟨⟨⟩,⟨⟩,⟨⟩,r,i,⟨⟩⟩,⟨⟨x0,x1,x2,x3,x4,sm,x6,x7,x8,x9,x10,⟨⟩⟩,c1,c2,⟨⟩⟩⟩ h
 simp only [BF,Bool.and_eq_true,decide_eq_true_eq] at h
 obtain ⟨⟨rfl,rfl,hl⟩,hs⟩:=h
 have hm:=lp hs
 have:=(aP (T:=Lp) (λk r=>((((),(),(),r,3-(k:Int),()),((x0,x1,x2,x3,x4,sm,x6,x7,x8,x9,x10,()),c1,c2,())):dI)) (λk r=>Zf r (c1.getD (3-k) 0) sm)
  (λr=>(⟨(.exit 0,BG),(((),r,()),(c2,()))⟩:aE)) 4 0 (λ_ r=>r.toNat<sm.toNat) hm (λk r hk hr=>⟨?_,?_⟩) (λr hr=> ?_)).1
 ·obtain ⟨m,hm⟩:=this
  exact ⟨m,_,hm,rfl⟩
 ·have e1:(3-(k:Int)).toNat=3-k:=by omega
  have e2:(3:Int)-(k:Int)-1=3-((k+1:Nat):Int):=by omega
  refine (OT.ap (decide_eq_true (by dsimp only;omega))).trans ((ah ?_).trans ?_)
  ·simp only [e1,Nat.add_zero,hl,List.all_cons,List.all_nil,Bool.and_true,Bool.and_eq_true]
   refine ⟨aN (by omega),decide_eq_true (by omega),?_,aH (by omega)⟩
   simp only [wC,Bool.and_eq_true]
   exact ⟨hs,decide_eq_true (UInt64.lt_iff_toNat_lt.2 hr)⟩
  ·simp only [OT.cL,e1,e2,Nat.add_zero]
 ·rw [rf hm]
  exact Nat.mod_lt _ hm
 ·exact OT.ar (decide_eq_false (by dsimp only;omega))
def aJp (s:dH):aa:=⟨s.2.1.1,s.2.1.2.1,s.2.1.2.2.1,s.2.1.2.2.2.1⟩
def Ik (s:dH):Bool:=decide (s.2.2.1.length=4/\s.2.2.2.1.length=4/\0<(aJp s).nat)
def Uh (s:dH):pd:=(((),()),(lst (ofN ((elemOf s.2.2.1).nat%(aJp s).nat)),()))
theorem am9 {x0 x1 x2 x3 x5 x6 x7 x8 x9 x10:UInt64} {x4:Int} {c2:List UInt64} (hc:c2.length=4) (hm:0<(aa.mk x0 x1 x2 x3).nat):∀ (n:Nat) (a:aa),a.nat=n->
 ∃ m,ao Lo m (((),(),(),()),((x0,x1,x2,x3,x4,x5,x6,x7,x8,x9,x10,()),lst a,c2,()))=some ⟨(.ret,tF),(((),()),(lst (ofN (a.nat%(aa.mk x0 x1 x2 x3).nat)),()))⟩:=by
 intro n
 induction n using Nat.strongRecOn with
 |_ n ih=>
  intro a hn
  cases hb:Nat.blt a.nat (aa.mk x0 x1 x2 x3).nat
  ·have hle:(aa.mk x0 x1 x2 x3).nat<=a.nat:=by
    rcases Nat.lt_or_ge a.nat (aa.mk x0 x1 x2 x3).nat with h|h
    ·have:Nat.blt a.nat (aa.mk x0 x1 x2 x3).nat=true:=Nat.ble_eq_true_of_le h
     rw [this] at hb;cases hb
    ·exact h
   have hd:=mN hle
   obtain ⟨m,hm2⟩:=ih (a.nat-(aa.mk x0 x1 x2 x3).nat) (by omega) (eg a ⟨x0,x1,x2,x3⟩).1 hd
   rw [hd,<-Nat.mod_eq_sub_mod hle] at hm2
   refine ⟨m+1,aF ?_ hm2⟩
   refine (ah ?_).trans ((OT.ar hb).trans ((ah ?_).trans rfl))
   ·rfl
   ·rfl
  ·have hlt:=dy hb
   rw [Nat.mod_eq_of_lt hlt,vO]
   refine ⟨1,aM ?_⟩
   refine (ah ?_).trans ((OT.ap hb).trans ((ah ?_).trans ?_))
   ·rfl
   ·simp only [hc,List.all_cons,List.all_nil,Bool.and_true,Bool.and_eq_true]
    exact ⟨rfl,rfl⟩
   ·show some (Sum.inr (⟨(.ret,tF),(((),()),(lay c2 (lst a) 4 0,()))⟩:aE))=_
    rw [xv hc (cG a)]
theorem aFy:∀ s:dH,Ik s=true->∃ m e,ao Lo m s=some e/\(Uj Uh s).run=some e:=by
 rintro ⟨⟨⟨⟩,⟨⟩,⟨⟩,⟨⟩⟩,⟨⟨x0,x1,x2,x3,x4,x5,x6,x7,x8,x9,x10,⟨⟩⟩,c1,c2,⟨⟩⟩⟩ h
 have h':=of_decide_eq_true h
 dsimp only [aJp] at h'
 obtain ⟨h1,h2,h3⟩:=h'
 obtain ⟨m,hm⟩:=am9 (x4:=x4) (x5:=x5) (x6:=x6) (x7:=x7) (x8:=x8) (x9:=x9) (x10:=x10) h2 h3 _ (elemOf c1) rfl
 rw [aS h1] at hm
 exact ⟨m,_,hm,rfl⟩
def gv (x:anb):Bool:=kk x.1.1
def aBY (x:anb):OT pf.Y:=.ok ⟨q9,((ofN (x.1.2.1.nat%x.1.1.1.nat),()),())⟩
theorem tc {n:Nat} (h:n<18446744073709551616):ofN n=⟨UInt64.ofNat n,0,0,0⟩:=by
 refine as4 (k:=0) ?_
 rw [UInt64.toNat_ofNat',Nat.mod_eq_of_lt (by omega)]
 simp
theorem Ln {n:OR} {a:aa} {m:UInt64} (h1:n.1=⟨m,0,0,0⟩) (h2:n.2.2.1=m) (hs:fT m=true):(Lq BF Ui Ik Uh n a).run=some ⟨q9,((ofN (a.nat%n.1.nat),()),())⟩:=by
 have hm:=lp hs
 have hn:n.1.nat=m.toNat:=by rw [h1];show m.toNat+_*(0+_*(0+_*0))=_;omega
 have hz:(!(n.2.2.1==0))=true:=by
  rw [h2]
  rcases dV hs with rfl|rfl<;>rfl
 have hlt:a.nat%m.toNat<18446744073709551616:=Nat.lt_trans (Nat.mod_lt _ hm) m.toNat_lt
 rw [hn,tc hlt]
 unfold Lq
 refine (OT.ap hz).trans ?_
 cases hb:(a.w1|||a.w2|||a.w3==0)
 ·refine (OT.ar rfl).trans ((ah ?_).trans ?_)
  ·simp only [List.all_cons,List.all_nil,Bool.and_true,Bool.and_eq_true]
   refine ⟨?_,rfl,rfl⟩
   show (decide _&&fT n.2.2.1)=true
   rw [h2,hs,Bool.and_true]
   exact decide_eq_true ⟨rfl,rfl,rfl⟩
  ·show some (⟨q9,((⟨aHA (lst a) n.2.2.1,0,0,0⟩,()),())⟩:pf.Y)=_
   rw [h2,ah7 hs]
 ·refine (OT.ap rfl).trans ((ah ?_).trans ?_)
  ·simp only [hz,List.all_cons,List.all_nil,Bool.and_true]
  ·have hw:a.w1=0/\a.w2=0/\a.w3=0:=by
    have:a.w1|||a.w2|||a.w3=0:=by simpa using hb
    simpa [UInt64.or_eq_zero_iff,and_assoc] using this
   have ha:a.nat=a.w0.toNat:=by
    unfold Sx.aa.nat
    rw [hw.1,hw.2.1,hw.2.2]
    show _+_*(0+_*(0+_*0))=_
    omega
   show some (⟨q9,((⟨a.w0%n.2.2.1,0,0,0⟩,()),())⟩:pf.Y)=_
   have e:a.w0%n.2.2.1=UInt64.ofNat (a.nat%m.toNat):=by
    rw [h2,ha,<-UInt64.toNat_inj,UInt64.toNat_mod,UInt64.toNat_ofNat']
    exact (Nat.mod_eq_of_lt (by rw [<-ha];omega)).symm
   rw [e]
theorem QL {n:OR} {a:aa} (h2:n.2.2.1=0) (hs:0<n.1.nat):(Lq BF Ui Ik Uh n a).run=some ⟨q9,((ofN (a.nat%n.1.nat),()),())⟩:=by
 unfold Lq
 refine (OT.ar (by rw [h2];rfl)).trans ((ah ?_).trans ?_)
 ·simp only [List.all_cons,List.all_nil,Bool.and_true,Bool.and_eq_true]
  exact ⟨decide_eq_true ⟨rfl,rfl,hs⟩,rfl⟩
 ·rfl
theorem aJN:0<(aX 2).1.nat:=by decide+kernel
theorem aJM:0<(aX 3).1.nat:=by decide+kernel
theorem aFx:ac Tryz.prog 91 (pf.aI gv aBY):=at4 BF Ui Ik Uh aFz aFy _ _ λx oy hp ho=>by
 rw [<-ho]
 clear ho
 obtain ⟨⟨n,a,⟨⟩⟩,⟨⟩⟩:=x
 have hp':kk n=true:=hp
 rcases yM hp' with rfl|rfl|rfl|rfl
 ·exact Ln (m:=16513537) rfl rfl rfl
 ·exact Ln (m:=16521217) rfl rfl rfl
 ·exact QL rfl aJN
 ·exact QL rfl aJM
def Lk:cj:=(pf.aI gv aBY)
theorem ana:ac Tryz.prog 91 Lk:=aFx
theorem am8:aG Lk:=aA
def aaC:Env:=ay 91 Lk NA
theorem Nr:aR Tryz.prog aaC:=ag ana uR
theorem Ns:ax aaC:=ae am8 Nz
theorem aoL:aW Tryz.prog te aaC:=aK follows aq Nr Ns
def mi:aw:=⟨[.val true (.prod .elem (.prod .int (.prod .u64 (.prod .u64 .elem)))),.val true .elem,.val true .elem],[],true,0,false⟩
abbrev QW:Type:=(((aa×(Int×(UInt64×(UInt64×aa)))))×(aa)×(aa)×Unit)×(Unit)
def Uz:az:=⟨[.val true .elem],[],false⟩
def Y8:SV->Option az:=λ_=>some Uz
def aef (a0:(aa×(Int×(UInt64×(UInt64×aa))))) (a1:aa) (a2:aa):OT mi.Y:=
 let z0:Nat:=aa.nat a0.fst
 let z1:aa:=(p9 (ofN (aa.nat a1%z0)) (ofN (aa.nat a2%z0))).fst
 (gd [gv ((a0,a1,()),()),gv ((a0,a2,()),()),gv ((a0,z1,()),())] (.ok ⟨Uz,((ofN (aa.nat z1%z0),()),())⟩))
theorem aFT (x:QW) (Q:mi.Y->Prop):wpf te aaC av 1000 Tryz.f78 (mi.inp.inj x).tm (mi.inp.inj x).hp (fnK mi Y8 Q) (λ_ _=>False)=(aef (x.1.1) (x.1.2.1) (x.1.2.2.1)).wpR Q:=by kernel_rfl
theorem anL (pre:QW->Bool) (F:QW->OT mi.Y) (hF:∀ (x:QW) oy,pre x=true->(F x).run=some oy->(aef (x.1.1) (x.1.2.1) (x.1.2.2.1)).run=some oy):ac Tryz.prog 78 (mi.aI pre F):=
 aD aq Nr aoL (f:=78) (fn:=Tryz.f78) (c:=aj Tryz.f78) (by kernel_rfl) (by kernel_rfl) (by kernel_rfl) (S:=mi) (k:=0) (by kernel_rfl) (λR hR=>af) (n:=1000) (sel:=Y8) (λv o h=>by cases h;rfl) (pre:=pre) (F:=F) (T:=λx=>aef (x.1.1) (x.1.2.1) (x.1.2.2.1)) (λx Q=>aFT x Q) hF
theorem Be {n:OR} (h:kk n=true):0<n.1.nat/\n.1.nat<57896044618658097711785492504343953926634992332820282019728792003956564819968:=by
 rcases yM h with rfl|rfl|rfl|rfl
 ·exact ⟨by decide+kernel,by decide+kernel⟩
 ·exact ⟨by decide+kernel,by decide+kernel⟩
 ·exact ⟨by decide+kernel,by decide+kernel⟩
 ·exact ⟨by decide+kernel,by decide+kernel⟩
def pS (s:Int):Nat:=(aX s.toNat).1.nat
theorem ni {s:Int} (h:al s=true):0<pS s/\pS s<57896044618658097711785492504343953926634992332820282019728792003956564819968:=Be (iQ h)
def Fy (p:Nat) (a b:aa):aa:=ofN ((a.nat+b.nat)%p)
def zR (p:Nat) (a:aa):aa:=ofN ((p-a.nat%p)%p)
def bO (p:Nat) (a b:aa):aa:=ofN (a.nat*b.nat%p)
theorem cZ {p n:Nat} (h:0<p/\p<57896044618658097711785492504343953926634992332820282019728792003956564819968):(ofN (n%p)).nat=n%p:=by
 have:=Nat.mod_lt n h.1
 exact kl (by omega)
theorem awg {p:Nat} (h:0<p/\p<57896044618658097711785492504343953926634992332820282019728792003956564819968) (a b:aa):ofN ((p9 (ofN (a.nat%p)) (ofN (b.nat%p))).1.nat%p)=Fy p a b:=by
 have ha:=Nat.mod_lt a.nat h.1
 have hb:=Nat.mod_lt b.nat h.1
 have e:(p9 (ofN (a.nat%p)) (ofN (b.nat%p))).1.nat=a.nat%p+b.nat%p:=by
  show (ofN _).nat=_
  rw [cZ h,cZ h]
  exact kl (by omega)
 unfold Fy
 rw [e,<-Nat.add_mod]
def LU (x:QW):Bool:=kk x.1.1
def aeg (x:QW):OT mi.Y:=.ok ⟨Uz,((Fy x.1.1.1.nat x.1.2.1 x.1.2.2.1,()),())⟩
theorem aAr:ac Tryz.prog 78 (mi.aI LU aeg):=anL _ _ λx oy hp ho=>by
 rw [<-ho]
 clear ho
 obtain ⟨⟨n,a,b,⟨⟩⟩,⟨⟩⟩:=x
 have hp':kk n=true:=hp
 refine (ah ?_).trans ?_
 ·simp only [List.all_cons,List.all_nil,Bool.and_true,Bool.and_eq_true]
  exact ⟨hp',hp',hp'⟩
 ·simp only [aeg,awg (Be hp')]
def E4:cj:=(mi.aI LU aeg)
theorem aee:ac Tryz.prog 78 E4:=aAr
theorem aed:aG E4:=aA
def NJ:Env:=ay 78 E4 aaC
theorem F3:aR Tryz.prog NJ:=ag aee Nr
theorem Hm:ax NJ:=ae aed Ns
theorem afw:aW Tryz.prog te NJ:=aK follows aq F3 Hm
def mf:aw:=⟨[.val true (.prod .elem (.prod .int (.prod .u64 (.prod .u64 .elem)))),.val true .elem],[],true,0,false⟩
abbrev QO:Type:=(((aa×(Int×(UInt64×(UInt64×aa)))))×(aa)×Unit)×(Unit)
def Uo:az:=⟨[.val true .elem],[],false⟩
def YR:SV->Option az:=λ_=>some Uo
def ad0 (a0:(aa×(Int×(UInt64×(UInt64×aa))))) (a1:aa):OT mf.Y:=
 let z0:Nat:=aa.nat a0.fst
 let z1:aa:=(eg a0.fst (ofN (aa.nat a1%z0))).fst
 (gd [gv ((a0,a1,()),()),gv ((a0,z1,()),())] (.ok ⟨Uo,((ofN (aa.nat z1%z0),()),())⟩))
theorem aFF (x:QO) (Q:mf.Y->Prop):wpf te NJ av 1000 Tryz.f139 (mf.inp.inj x).tm (mf.inp.inj x).hp (fnK mf YR Q) (λ_ _=>False)=(ad0 (x.1.1) (x.1.2.1)).wpR Q:=by kernel_rfl
theorem ank (pre:QO->Bool) (F:QO->OT mf.Y) (hF:∀ (x:QO) oy,pre x=true->(F x).run=some oy->(ad0 (x.1.1) (x.1.2.1)).run=some oy):ac Tryz.prog 139 (mf.aI pre F):=
 aD aq F3 afw (f:=139) (fn:=Tryz.f139) (c:=aj Tryz.f139) (by kernel_rfl) (by kernel_rfl) (by kernel_rfl) (S:=mf) (k:=0) (by kernel_rfl) (λR hR=>af) (n:=1000) (sel:=YR) (λv o h=>by cases h;rfl) (pre:=pre) (F:=F) (T:=λx=>ad0 (x.1.1) (x.1.2.1)) (λx Q=>aFF x Q) hF
theorem aE5 {m:aa} (h:0<m.nat/\m.nat<57896044618658097711785492504343953926634992332820282019728792003956564819968) (a:aa):ofN ((eg m (ofN (a.nat%m.nat))).1.nat%m.nat)=zR m.nat a:=by
 have ha:=Nat.mod_lt a.nat h.1
 have e:=cZ (n:=a.nat) h
 have e2:(eg m (ofN (a.nat%m.nat))).1.nat=m.nat-a.nat%m.nat:=by
  rw [mN (by rw [e];omega),e]
 unfold zR
 rw [e2]
def BJ (x:QO):Bool:=kk x.1.1
def ad1 (x:QO):OT mf.Y:=.ok ⟨Uo,((zR x.1.1.1.nat x.1.2.1,()),())⟩
theorem aAl:ac Tryz.prog 139 (mf.aI BJ ad1):=ank _ _ λx oy hp ho=>by
 rw [<-ho]
 clear ho
 obtain ⟨⟨n,a,⟨⟩⟩,⟨⟩⟩:=x
 have hp':kk n=true:=hp
 refine (ah ?_).trans ?_
 ·simp only [List.all_cons,List.all_nil,Bool.and_true,Bool.and_eq_true]
  exact ⟨hp',hp'⟩
 ·simp only [ad1,aE5 (Be hp')]
def EX:cj:=(mf.aI BJ ad1)
theorem adZ:ac Tryz.prog 139 EX:=aAl
theorem adY:aG EX:=aA
def Nv:Env:=ay 139 EX NJ
theorem FZ:aR Tryz.prog Nv:=ag adZ F3
theorem Hi:ax Nv:=ae adY Hm
theorem afu:aW Tryz.prog te Nv:=aK follows aq FZ Hi
def tT:aw:=⟨[.val false .int,.val true .elem,.val true .elem],[],true,0,false⟩
abbrev anK:Type:=((Int)×(aa)×(aa)×Unit)×(Unit)
def LS:az:=⟨[.val true .elem],[],false⟩
def ajN:SV->Option az:=λ_=>some LS
def auy (a0:Int) (a1:aa) (a2:aa):OT tT.Y:=
 let z0:aa×Int×UInt64×UInt64×aa:=aX (Int.toNat a0)
 (.br (al a0)
 (gd [LU ((z0,a1,a2,()),())] (.ok ⟨LS,((Fy (aa.nat z0.fst) a1 a2,()),())⟩))
 (.ok ⟨LS,(({w0:=0,w1:=0,w2:=0,w3:=0},()),())⟩))
theorem aIm (x:anK) (Q:tT.Y->Prop):wpf te Nv av 1000 Tryz.f43 (tT.inp.inj x).tm (tT.inp.inj x).hp (fnK tT ajN Q) (λ_ _=>False)=(auy (x.1.1) (x.1.2.1) (x.1.2.2.1)).wpR Q:=by kernel_rfl
theorem auw (pre:anK->Bool) (F:anK->OT tT.Y) (hF:∀ (x:anK) oy,pre x=true->(F x).run=some oy->(auy (x.1.1) (x.1.2.1) (x.1.2.2.1)).run=some oy):ac Tryz.prog 43 (tT.aI pre F):=
 aD aq FZ afu (f:=43) (fn:=Tryz.f43) (c:=aj Tryz.f43) (by kernel_rfl) (by kernel_rfl) (by kernel_rfl) (S:=tT) (k:=0) (by kernel_rfl) (λR hR=>af) (n:=1000) (sel:=ajN) (λv o h=>by cases h;rfl) (pre:=pre) (F:=F) (T:=λx=>auy (x.1.1) (x.1.2.1) (x.1.2.2.1)) (λx Q=>aIm x Q) hF
def ajO (_:anK):Bool:=true
def aB5 (x:anK):OT tT.Y:=.br (al x.1.1) (.ok ⟨LS,((Fy (pS x.1.1) x.1.2.1 x.1.2.2.1,()),())⟩) (.ok ⟨LS,((⟨0,0,0,0⟩,()),())⟩)
theorem aFS:ac Tryz.prog 43 (tT.aI ajO aB5):=auw _ _ λx oy hp ho=>by
 rw [<-ho]
 clear ho
 obtain ⟨⟨s,a,b,⟨⟩⟩,⟨⟩⟩:=x
 cases hs:al s
 ·exact (OT.ar hs).trans (OT.ar (b:=al s) hs).symm
 ·refine (OT.ap hs).trans ((ah ?_).trans (OT.ap (b:=al s) hs).symm)
  simp only [List.all_cons,List.all_nil,Bool.and_true]
  exact iQ hs
def LR:cj:=(tT.aI ajO aB5)
theorem anJ:ac Tryz.prog 43 LR:=aFS
theorem anI:aG LR:=aA
def aaI:Env:=ay 43 LR Nv
theorem NH:aR Tryz.prog aaI:=ag anJ FZ
theorem NI:ax aaI:=ae anI Hi
theorem aoQ:aW Tryz.prog te aaI:=aK follows aq NH NI
def tI:aw:=⟨[.val false .int,.val true .elem],[],true,0,false⟩
abbrev anj:Type:=((Int)×(aa)×Unit)×(Unit)
def Lw:az:=⟨[.val true .elem],[],false⟩
def ajw:SV->Option az:=λ_=>some Lw
def aub (a0:Int) (a1:aa):OT tI.Y:=
 let z0:aa×Int×UInt64×UInt64×aa:=aX (Int.toNat a0)
 (.br (al a0)
 (gd [BJ ((z0,a1,()),())] (.ok ⟨Lw,((zR (aa.nat z0.fst) a1,()),())⟩))
 (.ok ⟨Lw,(({w0:=0,w1:=0,w2:=0,w3:=0},()),())⟩))
theorem aIg (x:anj) (Q:tI.Y->Prop):wpf te aaI av 1000 Tryz.f98 (tI.inp.inj x).tm (tI.inp.inj x).hp (fnK tI ajw Q) (λ_ _=>False)=(aub (x.1.1) (x.1.2.1)).wpR Q:=by kernel_rfl
theorem aua (pre:anj->Bool) (F:anj->OT tI.Y) (hF:∀ (x:anj) oy,pre x=true->(F x).run=some oy->(aub (x.1.1) (x.1.2.1)).run=some oy):ac Tryz.prog 98 (tI.aI pre F):=
 aD aq NH aoQ (f:=98) (fn:=Tryz.f98) (c:=aj Tryz.f98) (by kernel_rfl) (by kernel_rfl) (by kernel_rfl) (S:=tI) (k:=0) (by kernel_rfl) (λR hR=>af) (n:=1000) (sel:=ajw) (λv o h=>by cases h;rfl) (pre:=pre) (F:=F) (T:=λx=>aub (x.1.1) (x.1.2.1)) (λx Q=>aIg x Q) hF
def ajx (_:anj):Bool:=true
def aBZ (x:anj):OT tI.Y:=.br (al x.1.1) (.ok ⟨Lw,((zR (pS x.1.1) x.1.2.1,()),())⟩) (.ok ⟨Lw,((⟨0,0,0,0⟩,()),())⟩)
theorem aFE:ac Tryz.prog 98 (tI.aI ajx aBZ):=aua _ _ λx oy hp ho=>by
 rw [<-ho]
 clear ho
 obtain ⟨⟨s,a,⟨⟩⟩,⟨⟩⟩:=x
 cases hs:al s
 ·exact (OT.ar hs).trans (OT.ar (b:=al s) hs).symm
 ·refine (OT.ap hs).trans ((ah ?_).trans (OT.ap (b:=al s) hs).symm)
  simp only [List.all_cons,List.all_nil,Bool.and_true]
  exact iQ hs
def Lv:cj:=(tI.aI ajx aBZ)
theorem ani:ac Tryz.prog 98 Lv:=aFE
theorem anh:aG Lv:=aA
def aaD:Env:=ay 98 Lv aaI
theorem Nt:aR Tryz.prog aaD:=ag ani NH
theorem Nu:ax aaD:=ae anh NI
theorem aoM:aW Tryz.prog te aaD:=aK follows aq Nt Nu
def tx:aw:=⟨[.val false .int,.val true .elem,.val true .elem],[],true,0,false⟩
abbrev am2:Type:=((Int)×(aa)×(aa)×Unit)×(Unit)
def yZ:az:=⟨[.val true .elem],[],false⟩
def ajl:SV->Option az:=λ_=>some yZ
def atX (a0:Int) (a1:aa) (a2:aa):OT tx.Y:=
 let z0:Bool:=al a0
 let z1:Nat:=pS a0
 let z2:aa:= {w0:=0,w1:=0,w2:=0,w3:=0}
 (.br (z0)
 (.br (z0)
  (.ok ⟨yZ,((Fy z1 a1 (zR z1 a2),()),())⟩)
  (.ok ⟨yZ,((z2,()),())⟩))
 (.br (z0)
  (.ok ⟨yZ,((Fy z1 a1 z2,()),())⟩)
  (.ok ⟨yZ,((z2,()),())⟩)))
theorem aIc (x:am2) (Q:tx.Y->Prop):wpf te aaD av 1000 Tryz.f152 (tx.inp.inj x).tm (tx.inp.inj x).hp (fnK tx ajl Q) (λ_ _=>False)=(atX (x.1.1) (x.1.2.1) (x.1.2.2.1)).wpR Q:=by kernel_rfl
theorem atW (pre:am2->Bool) (F:am2->OT tx.Y) (hF:∀ (x:am2) oy,pre x=true->(F x).run=some oy->(atX (x.1.1) (x.1.2.1) (x.1.2.2.1)).run=some oy):ac Tryz.prog 152 (tx.aI pre F):=
 aD aq Nt aoM (f:=152) (fn:=Tryz.f152) (c:=aj Tryz.f152) (by kernel_rfl) (by kernel_rfl) (by kernel_rfl) (S:=tx) (k:=0) (by kernel_rfl) (λR hR=>af) (n:=1000) (sel:=ajl) (λv o h=>by cases h;rfl) (pre:=pre) (F:=F) (T:=λx=>atX (x.1.1) (x.1.2.1) (x.1.2.2.1)) (λx Q=>aIc x Q) hF
def IX (p:Nat) (a b:aa):aa:=Fy p a (zR p b)
def ajm (_:am2):Bool:=true
def aBX (x:am2):OT tx.Y:=.br (al x.1.1) (.ok ⟨yZ,((IX (pS x.1.1) x.1.2.1 x.1.2.2.1,()),())⟩) (.ok ⟨yZ,((⟨0,0,0,0⟩,()),())⟩)
theorem aFs:ac Tryz.prog 152 (tx.aI ajm aBX):=atW _ _ λx oy hp ho=>by
 rw [<-ho]
 clear ho
 obtain ⟨⟨s,a,b,⟨⟩⟩,⟨⟩⟩:=x
 cases hs:al s
 ·exact (OT.ar hs).trans ((OT.ar hs).trans (OT.ar (b:=al s) hs).symm)
 ·exact (OT.ap hs).trans ((OT.ap hs).trans (OT.ap (b:=al s) hs).symm)
def Li:cj:=(tx.aI ajm aBX)
theorem am1:ac Tryz.prog 152 Li:=aFs
theorem am0:aG Li:=aA
def RM:Env:=ay 152 Li aaD
theorem CX:aR Tryz.prog RM:=ag am1 Nt
theorem Nn:ax RM:=ae am0 Nu
theorem RL:aW Tryz.prog te RM:=aK follows aq CX Nn
end Go.Proofs.YtohjofabochgfaaGreat

namespace Go.Proofs.YtohjofabochgfaaGreat
open Sx Go
def l6 (n:Nat):List UInt64:= [UInt64.ofNat n,UInt64.ofNat (n/18446744073709551616),UInt64.ofNat (n/18446744073709551616/18446744073709551616),UInt64.ofNat (n/18446744073709551616/18446744073709551616/18446744073709551616),
 UInt64.ofNat (n/18446744073709551616/18446744073709551616/18446744073709551616/18446744073709551616),UInt64.ofNat (n/18446744073709551616/18446744073709551616/18446744073709551616/18446744073709551616/18446744073709551616)]
def v6 (l:List UInt64):Nat:=(l.getD 0 0).toNat+18446744073709551616*((l.getD 1 0).toNat+18446744073709551616*((l.getD 2 0).toNat+18446744073709551616*((l.getD 3 0).toNat+18446744073709551616*((l.getD 4 0).toNat+18446744073709551616*(l.getD 5 0).toNat))))
theorem hX {m:Nat} {x:UInt64} (hm:m%18446744073709551616=x.toNat):UInt64.ofNat m=x:=by
 rw [<-UInt64.toNat_inj,UInt64.toNat_ofNat']
 exact hm
theorem aJf {n:Nat} {a b c d e:UInt64} {k:Nat} {f:UInt64} (h:n=a.toNat+18446744073709551616*(b.toNat+18446744073709551616*(c.toNat+18446744073709551616*(d.toNat+18446744073709551616*(e.toNat+18446744073709551616*k))))) (hf:k%18446744073709551616=f.toNat):l6 n= [a,b,c,d,e,f]:=by
 obtain ⟨h1,h0⟩:=div_eq a.toNat_lt h
 obtain ⟨h2,h3⟩:=div_eq b.toNat_lt h1
 obtain ⟨h4,h5⟩:=div_eq c.toNat_lt h2
 obtain ⟨h6,h7⟩:=div_eq d.toNat_lt h4
 obtain ⟨h8,h9⟩:=div_eq e.toNat_lt h6
 unfold l6
 rw [hX (x:=a) h0,hX (x:=b) h3,hX (x:=c) h5,hX (x:=d) h7,hX (x:=e) h9,hX (x:=f) (by rw [h8];exact hf)]
theorem atB (n:Nat):(l6 n).length=6:=rfl
def aGW (t a x c:UInt64):UInt64:=xn t (xn (a*x) c 0) 0
def Ds (t a x c:UInt64):UInt64:=aws a x+zS (a*x) c 0+zS t (xn (a*x) c 0) 0
theorem aGD {t P p h c l k1 r k2 W:Nat} (hP:P=p+W*h) (h1:p+c=l+W*k1) (h2:t+l=r+W*k2):t+P+c=r+W*(h+k1+k2):=by
 rw [Nat.mul_add,Nat.mul_add]
 omega
theorem awi {t P c r q W:Nat} (hW:0<W) (ht:t<=W-1) (hc:c<=W-1) (hP:P<=(W-1)*(W-1)) (h:t+P+c=r+W*q):q<W:=by
 obtain ⟨V,rfl⟩:∃ V,W=V+1:=⟨W-1,by omega⟩
 rw [Nat.add_sub_cancel] at*
 refine Nat.lt_of_not_le λhq=> ?_
 have h1:(V+1)*(V+1)<=(V+1)*q:=Nat.mul_le_mul_left _ hq
 have h2:(V+1)*(V+1)=V*V+V+V+1:=by rw [Nat.add_mul,Nat.mul_add,Nat.one_mul,Nat.mul_one];omega
 omega
theorem azN (a x:UInt64):(aws a x).toNat=a.toNat*x.toNat/18446744073709551616:=by
 have ha:=a.toNat_lt
 have hx:=x.toNat_lt
 have:a.toNat*x.toNat/18446744073709551616<18446744073709551616:=by
  rw [Nat.div_lt_iff_lt_mul (by omega)]
  exact Nat.mul_lt_mul'' ha hx
 unfold aws
 rw [UInt64.toNat_ofNat',Nat.mod_eq_of_lt this]
theorem Iz (t a x c:UInt64):t.toNat+a.toNat*x.toNat+c.toNat=(aGW t a x c).toNat+18446744073709551616*(Ds t a x c).toNat:=by
 have hP:a.toNat*x.toNat=(a*x).toNat+18446744073709551616*(aws a x).toNat:=by
  rw [azN,UInt64.toNat_mul]
  exact (Nat.mod_add_div _ _).symm
 have h1:=mC (a*x) c 0
 have h2:=mC t (xn (a*x) c 0) 0
 rw [show (0:UInt64).toNat=0 from rfl,Nat.add_zero] at h1 h2
 have key:=aGD hP h1 h2
 have hb:=awi (W:=18446744073709551616) (by omega) (Nat.le_sub_one_of_lt t.toNat_lt) (Nat.le_sub_one_of_lt c.toNat_lt) (Nat.mul_le_mul (Nat.le_sub_one_of_lt a.toNat_lt) (Nat.le_sub_one_of_lt x.toNat_lt)) key
 have e:(Ds t a x c).toNat=(aws a x).toNat+(zS (a*x) c 0).toNat+(zS t (xn (a*x) c 0) 0).toNat:=by
  unfold Ds
  rw [UInt64.toNat_add,UInt64.toNat_add,Nat.mod_add_mod]
  exact Nat.mod_eq_of_lt hb
 rw [e]
 exact key
theorem IA {t a x c s k T A R W:Nat} (h1:t+a*x+c=s+W*k) (h2:T+A*x+k=R):(t+W*T)+(a+W*A)*x+c=s+W*R:=by
 rw [Nat.add_mul,Nat.mul_assoc,<-h2,Nat.mul_add,Nat.mul_add]
 omega
def aJJ (t0 t1 t2 t3 t4 t5:UInt64) (a:aa) (x:UInt64):List UInt64:=
 let k0:=Ds t0 a.w0 x 0
 let k1:=Ds t1 a.w1 x k0
 let k2:=Ds t2 a.w2 x k1
 let k3:=Ds t3 a.w3 x k2
 [aGW t0 a.w0 x 0,aGW t1 a.w1 x k0,aGW t2 a.w2 x k1,aGW t3 a.w3 x k2,xn t4 k3 0,t5+zS t4 k3 0]
theorem aGE (t0 t1 t2 t3 t4 t5:UInt64) (a:aa) (x:UInt64):aJJ t0 t1 t2 t3 t4 t5 a x=l6 (v6 [t0,t1,t2,t3,t4,t5]+a.nat*x.toNat):=by
 have h4:=mC t4 (Ds t3 a.w3 x (Ds t2 a.w2 x (Ds t1 a.w1 x (Ds t0 a.w0 x 0)))) 0
 rw [show (0:UInt64).toNat=0 from rfl,Nat.add_zero] at h4
 have h5:(t4.toNat+18446744073709551616*t5.toNat)+0*x.toNat+(Ds t3 a.w3 x (Ds t2 a.w2 x (Ds t1 a.w1 x (Ds t0 a.w0 x 0)))).toNat=
  (xn t4 (Ds t3 a.w3 x (Ds t2 a.w2 x (Ds t1 a.w1 x (Ds t0 a.w0 x 0)))) 0).toNat+18446744073709551616*(t5.toNat+(zS t4 (Ds t3 a.w3 x (Ds t2 a.w2 x (Ds t1 a.w1 x (Ds t0 a.w0 x 0)))) 0).toNat):=by
  rw [Nat.zero_mul,Nat.mul_add]
  omega
 have h:=IA (Iz t0 a.w0 x 0) (IA (Iz t1 a.w1 x _) (IA (Iz t2 a.w2 x _) (IA (Iz t3 a.w3 x _) h5)))
 rw [show (0:UInt64).toNat=0 from rfl,Nat.add_zero,Nat.mul_zero,Nat.add_zero] at h
 exact (aJf (f:=t5+zS t4 (Ds t3 a.w3 x (Ds t2 a.w2 x (Ds t1 a.w1 x (Ds t0 a.w0 x 0)))) 0) h (by rw [UInt64.toNat_add])).symm
end Go.Proofs.YtohjofabochgfaaGreat

namespace Go.Proofs.YtohjofabochgfaaGreat
open Sx Go
set_option maxRecDepth 100000
def tU:aw:=⟨[.val true (.arr 6 .u64),.val true .elem,.val false .u64],[],true,0,false⟩
abbrev anO:Type:=((List (UInt64))×(aa)×(UInt64)×Unit)×(Unit)
def LW:Shape:=⟨61,[(2,.val false .u64),(3,.ptr 0 0 0),(4,.ptr 1 0 0),(6,.ptr 2 0 0),(7,.val false .u64),(13,.val false .int)],[(0,.row .u64),(1,.row .u64),(2,.row .u64)],0,true⟩
abbrev dK:Type:=((UInt64)×(Unit)×(Unit)×(Unit)×(UInt64)×(Int)×Unit)×((List (UInt64))×(List (UInt64))×(List (UInt64))×Unit)
def BM:Shape:=⟨61,[(3,.ptr 0 0 0),(6,.ptr 1 0 0),(7,.val false .u64)],[(0,.row .u64),(1,.row .u64)],0,true⟩
abbrev pq:Type:=((Unit)×(Unit)×(UInt64)×Unit)×((List (UInt64))×(List (UInt64))×Unit)
def auz:SE->Option Shape:=fw [(0,BM)] none
def aFX (a2:UInt64) (a7:UInt64) (a13:Int) (c0:List (UInt64)) (c1:List (UInt64)) (c2:List (UInt64)):OT (Sum dK aE):=
 let z0:Bool:=inB a13 6
 let z1:Bool:=decide (Int.toNat a13+0<List.length c0)
 let z2:UInt64:=List.getD c1 (Int.toNat a13+0) (0:UInt64)
 let z3:UInt64:=List.getD c0 (Int.toNat a13+0) (0:UInt64)
 let z4:UInt64:=xn (z2*a2) a7 (0:UInt64)
 (.br (decide (a13<(4:Int)))
 (gd [inB a13 4,decide (Int.toNat a13+0<List.length c1),z0,z1,z0,z1,inR (a13+(1:Int))] (.ok (.inl ((a2,((),((),((),(aws z2 a2+zS (z2*a2) a7 (0:UInt64)+zS z3 z4 (0:UInt64),(a13+(1:Int),())))))),(List.set c0 (Int.toNat a13+0) (xn z3 z4 (0:UInt64)),(c1,(c2,())))))))
 (.ok (.inr ⟨(.exit 0,BM),(((),((),(a7,()))),(c0,(c2,())))⟩)))
def LX (s:dK):OT (Sum dK aE):=aFX (s.1.1) (s.1.2.2.2.2.1) (s.1.2.2.2.2.2.1) (s.2.1) (s.2.2.1) (s.2.2.2.1)
theorem aFU (s:dK) (Q:Sum dK aE->Prop):wps te RM av 1000 (aU (aj Tryz.f150) 0) (LW.inj s) (bX LW auz (Q:Sum LW.T aE->Prop))=(LX s).wpR Q:=by kernel_rfl
def UA (g0_0:dK->pq) (s:dK):OT aE:=(.ok ⟨(.exit 0,BM),g0_0 s⟩)
def aeh:az:=⟨[.val true (.arr 6 .u64)],[],false⟩
def ajP:SV->Option az:=λ_=>some aeh
def auC (ok0:dK->Bool) (g0_0:dK->pq) (a0:List (UInt64)) (a1:aa) (a2:UInt64):OT tU.Y:=
 let z0:(UInt64×PUnit×PUnit×PUnit×UInt64×Int×PUnit)×List UInt64×List UInt64×List UInt64×PUnit:=((a2,(),(),(),(0:UInt64),(0:Int),()),tab a0 6 (0:UInt64),[a1.w0,a1.w1,a1.w2,a1.w3],[(0:UInt64),(0:UInt64),(0:UInt64),(0:UInt64),(0:UInt64),(0:UInt64)],())
 let z1:(PUnit×PUnit×UInt64×PUnit)×List UInt64×List UInt64×PUnit:=g0_0 z0
 let z2:=z1.snd
 let z3:=z2.fst
 let z4:Bool:=decide (4<List.length z3)
 let z5:UInt64:=List.getD z3 4 0
 let z6:=z1.fst.snd.snd.fst
 let z7:List UInt64:=List.set z3 4 (xn z5 z6 (0:UInt64))
 let z8:Bool:=decide (5<List.length z7)
 let z9:List UInt64:=List.set z7 5 (List.getD z7 5 0+zS z5 z6 (0:UInt64))
 let z10:=z2.snd.fst
 let z11:List UInt64:=lay z10 z9 6 (0:UInt64)
 (gd [ok0 z0,z4,z4,z8,z8,decide (6<=List.length z9),decide ((6/1:Nat)+0<=List.length z10),decide (6<=List.length z11)] (.ok ⟨aeh,((tab z11 6 (0:UInt64),()),())⟩))
theorem aIn (ok0:dK->Bool) (g0_0:dK->pq) (x:anO) (Q:tU.Y->Prop):wpf te RM (aO 0 (cg LW 0 ok0 (UA g0_0)) av) 1000 Tryz.f150 (tU.inp.inj x).tm (tU.inp.inj x).hp (fnK tU ajP Q) (λ_ _=>False)=(auC ok0 g0_0 (x.1.1) (x.1.2.1) (x.1.2.2.1)).wpR Q:=by kernel_rfl
theorem auA (ok0:dK->Bool) (g0_0:dK->pq) (h0:∀ s:dK,ok0 s=true->∃ m e,ao (LX) m s=some e/\(UA g0_0 s).run=some e) (pre:anO->Bool) (F:anO->OT tU.Y) (hF:∀ (x:anO) oy,pre x=true->(F x).run=some oy->(auC ok0 g0_0 (x.1.1) (x.1.2.1) (x.1.2.2.1)).run=some oy):ac Tryz.prog 150 (tU.aI pre F):=
 aD aq CX RL (f:=150) (fn:=Tryz.f150) (c:=aj Tryz.f150) (by kernel_rfl) (by kernel_rfl) (by kernel_rfl) (S:=tU) (k:=0) (by kernel_rfl) (λR hR=>(aB (c:=(aj Tryz.f150)) (by kernel_rfl) (id:=0) (by kernel_rfl) (aQ aq CX RL (sh:=LW) hR (xs:=auz) (aC (by kernel_rfl) (by kernel_rfl) hR) aL af (n:=1000) (T:=LX) (λs Q=>aFU s Q) (ok:=ok0) (f:=UA g0_0) h0) af)) (n:=1000) (sel:=ajP) (λv o h=>by cases h;rfl) (pre:=pre) (F:=F) (T:=λx=>auC ok0 g0_0 (x.1.1) (x.1.2.1) (x.1.2.2.1)) (λx Q=>aIn ok0 g0_0 x Q) hF
def aBn (a:List UInt64) (x:UInt64) (k:Nat) (s:List UInt64×UInt64):List UInt64×UInt64:=(s.1.set k (aGW (s.1.getD k 0) (a.getD k 0) x s.2),Ds (s.1.getD k 0) (a.getD k 0) x s.2)
def ajR (s:dK):Bool:=decide (s.1.2.2.2.2.1=0/\s.1.2.2.2.2.2.1=0/\s.2.1.length=6/\s.2.2.1.length=4)
def auB (s:dK):pq:=(((),(),(upto (aBn s.2.2.1 s.1.1) (s.2.1,0) 4).2,()),((upto (aBn s.2.2.1 s.1.1) (s.2.1,0) 4).1,s.2.2.2.1,()))
theorem aFW:∀ s:dK,ajR s=true->∃ m e,ao LX m s=some e/\(UA auB s).run=some e:=by
 rintro ⟨⟨x,⟨⟩,⟨⟩,⟨⟩,c,i,⟨⟩⟩,⟨t,a,o,⟨⟩⟩⟩ h
 have h':=of_decide_eq_true h
 dsimp only at h'
 obtain ⟨rfl,rfl,ht,ha⟩:=h'
 have:=(aP (T:=LX) (λk s=>(((x,(),(),(),s.2,(k:Int),()),(s.1,a,o,())):dK)) (aBn a x)
  (λs=>(⟨(.exit 0,BM),(((),(),s.2,()),(s.1,o,()))⟩:aE)) 4 (t,0) (λ_ s=>s.1.length=6) ht (λk s hk hs=>⟨?_,?_⟩) (λs hs=> ?_)).1
 ·obtain ⟨m,hm⟩:=this
  exact ⟨m,_,hm,rfl⟩
 ·refine (OT.ap (decide_eq_true (by dsimp only;omega))).trans ((ah ?_).trans ?_)
  ·simp only [Int.toNat_natCast,Nat.add_zero,hs,ha,List.all_cons,List.all_nil,Bool.and_true,Bool.and_eq_true]
   exact ⟨aN (by omega),decide_eq_true (by omega),aN (by omega),decide_eq_true (by omega),aN (by omega),decide_eq_true (by omega),aH (by omega)⟩
  ·simp only [OT.cL,Int.toNat_natCast,Nat.add_zero]
   rfl
 ·simp only [aBn,List.length_set]
  exact hs
 ·exact OT.ar (decide_eq_false (by dsimp only;omega))
def ajQ (_:anO):Bool:=true
def auD (x:anO):OT tU.Y:=.ok ⟨aeh,((l6 (v6 x.1.1+x.1.2.1.nat*x.1.2.2.1.toNat),()),())⟩
theorem aFV:ac Tryz.prog 150 (tU.aI ajQ auD):=auA ajR auB aFW _ _ λx oy hp ho=>by
 rw [<-ho]
 clear ho
 obtain ⟨⟨t,a,x,⟨⟩⟩,⟨⟩⟩:=x
 refine (ah ?_).trans ?_
 ·simp only [List.all_cons,List.all_nil,Bool.and_true,Bool.and_eq_true]
  exact ⟨rfl,rfl,rfl,rfl,rfl,rfl,rfl,rfl⟩
 ·have e:=aGE (t.getD 0 0) (t.getD 1 0) (t.getD 2 0) (t.getD 3 0) (t.getD 4 0) (t.getD 5 0) a x
  have e2:l6 (v6 t+a.nat*x.toNat)=aJJ (t.getD 0 0) (t.getD 1 0) (t.getD 2 0) (t.getD 3 0) (t.getD 4 0) (t.getD 5 0) a x:=e.symm
  simp only [auD,e2]
  rfl
def LV:cj:=(tU.aI ajQ auD)
theorem anN:ac Tryz.prog 150 LV:=aFV
theorem anM:aG LV:=aA
def RP:Env:=ay 150 LV RM
theorem CZ:aR Tryz.prog RP:=ag anN CX
theorem NK:ax RP:=ae anM Nn
theorem RO:aW Tryz.prog te RP:=aK follows aq CZ NK
end Go.Proofs.YtohjofabochgfaaGreat

namespace Go.Proofs.YtohjofabochgfaaGreat
open Sx Go
theorem aG3 {n:Nat} (h:n/18446744073709551616/18446744073709551616/18446744073709551616/18446744073709551616/18446744073709551616<18446744073709551616):v6 (l6 n)=n:=by
 unfold v6 l6
 simp only [List.getD_cons_zero,List.getD_cons_succ,UInt64.toNat_ofNat']
 rw [show (2:Nat)^64=18446744073709551616 from rfl]
 omega
def I9 (p neg a:Nat) (b t:Nat):Nat:=(t+a*b+p*((t+a*b)*neg%18446744073709551616))/18446744073709551616
theorem va {p neg a b t:Nat} (hn:(p*neg+1)%18446744073709551616=0):18446744073709551616*I9 p neg a b t=t+a*b+p*((t+a*b)*neg%18446744073709551616):=by
 unfold I9
 refine Nat.mul_div_cancel' (Nat.dvd_of_mod_eq_zero ?_)
 generalize t+a*b=u
 rw [Nat.add_mod,Nat.mul_mod,Nat.mod_mod,<-Nat.mul_mod,<-Nat.add_mod]
 have:u+p*(u*neg)=u*(p*neg+1):=by
  rw [Nat.mul_add,Nat.mul_one,Nat.mul_left_comm]
  omega
 rw [this,Nat.mul_mod,hn,Nat.mul_zero,Nat.zero_mod]
theorem u9 {p neg a b t:Nat} (hn:(p*neg+1)%18446744073709551616=0) (ht:t<2*p) (ha:a<p) (hb:b<18446744073709551616):I9 p neg a b t<2*p:=by
 have h:=va (a:=a) (b:=b) (t:=t) hn
 have hm:(t+a*b)*neg%18446744073709551616<=18446744073709551615:=by
  have:=Nat.mod_lt ((t+a*b)*neg) (show 0<18446744073709551616 by omega)
  omega
 have h1:p*((t+a*b)*neg%18446744073709551616)<=p*18446744073709551615:=Nat.mul_le_mul_left _ hm
 have h2:a*b<=p*18446744073709551615:=Nat.mul_le_mul (by omega) (by omega)
 omega
theorem aEn {p a b t t1 m K T B M W:Nat} (h1:W*t1=t+a*b+p*m) (h2:K*T=t1+a*B+p*M):(W*K)*T=t+a*(b+W*B)+p*(m+W*M):=by
 have e:(W*K)*T=W*t1+W*(a*B)+W*(p*M):=by rw [Nat.mul_assoc,h2,Nat.mul_add,Nat.mul_add]
 rw [e,h1,Nat.mul_add,Nat.mul_add,Nat.mul_left_comm a W,Nat.mul_left_comm p W]
 omega
theorem aJK {p a b T K M r:Nat} (h:K*T=a*b+p*M) (hr:K*r%p=1%p):T%p=a*b*r%p:=by
 have h1:(K*T)*r=a*b*r+p*(M*r):=by rw [h,Nat.add_mul,Nat.mul_assoc p]
 have h2:a*b*r%p=(K*T*r)%p:=by rw [h1,Nat.add_mul_mod_self_left]
 have h3:K*T*r=T*(K*r):=by rw [Nat.mul_comm K T,Nat.mul_assoc]
 rw [h2,h3,Nat.mul_mod,hr,<-Nat.mul_mod,Nat.mul_one]
def aHV (p neg a:Nat) (b:aa):Nat:=I9 p neg a b.w3.toNat (I9 p neg a b.w2.toNat (I9 p neg a b.w1.toNat (I9 p neg a b.w0.toNat 0)))
theorem azV {p neg a r:Nat} {b:aa} (hn:(p*neg+1)%18446744073709551616=0) (hr:115792089237316195423570985008687907853269984665640564039457584007913129639936*r%p=1%p):aHV p neg a b%p=a*b.nat*r%p:=by
 have h:=aEn (va (a:=a) (b:=b.w0.toNat) (t:=0) hn) (aEn (va (a:=a) (b:=b.w1.toNat) hn) (aEn (va (a:=a) (b:=b.w2.toNat) hn) (show 18446744073709551616*_=_+a*b.w3.toNat+p*_ from va hn)))
 rw [Nat.zero_add] at h
 exact aJK (K:=18446744073709551616*(18446744073709551616*(18446744073709551616*18446744073709551616))) h hr
theorem aFi {p neg a:Nat} {b:aa} (hn:(p*neg+1)%18446744073709551616=0) (ha:a<p):aHV p neg a b<2*p:=
 u9 hn (u9 hn (u9 hn (u9 hn (by omega) ha b.w0.toNat_lt) ha b.w1.toNat_lt) ha b.w2.toNat_lt) ha b.w3.toNat_lt
theorem aFj {T p:Nat} (h:T<2*p):T%p=if T<p then T else T-p:=by
 split
 ·exact Nat.mod_eq_of_lt ‹_›
 ·rw [Nat.mod_eq_sub_mod (by omega),Nat.mod_eq_of_lt (by omega)]
end Go.Proofs.YtohjofabochgfaaGreat
