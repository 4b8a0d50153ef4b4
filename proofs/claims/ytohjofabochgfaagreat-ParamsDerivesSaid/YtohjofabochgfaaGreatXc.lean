/- A symbolic machine for Go code over plain data, and functions of the program as it shows them. No statement is proved in this file. -/
import Derived.Test.YtohjofabochgfaaGreatProg
import Derived.KernelRfl
import Derived.Laws.Externs
import Derived.Lib.Mul64
import Derived.Test.YtohjofabochgfaaGreatXb
set_option linter.unusedSimpArgs false
set_option linter.unusedVariables false
set_option linter.unusedSectionVars false

namespace Go.Proofs.YtohjofabochgfaaGreat
open Sx Go
set_option maxRecDepth 100000
def aDt:TI:=⟨1,8,.other,[.bT],none⟩
theorem aJe:bk Tryz.prog 1 aDt:=by apply ak<;>first|exact trivial|kernel_rfl
def aDs:TI:=⟨1,8,.int .i64,[.int 0],some .int⟩
theorem aJd:bk Tryz.prog 2 aDs:=by apply ak<;>first|exact⟨by kernel_rfl,by kernel_rfl,by kernel_rfl⟩|kernel_rfl
def aDr:TI:=⟨1,8,.int .i64,[.int 0],some .int⟩
theorem aJc:bk Tryz.prog 3 aDr:=by apply ak<;>first|exact⟨by kernel_rfl,by kernel_rfl,by kernel_rfl⟩|kernel_rfl
def aDq:TI:=⟨1,1,.bool,[.bool false],some .bool⟩
theorem aJb:bk Tryz.prog 4 aDq:=by apply ak<;>first|exact⟨by kernel_rfl,by kernel_rfl,by kernel_rfl⟩|kernel_rfl
def aDp:TI:=⟨1,1,.int .u8,[.u8 0],some .u8⟩
theorem aJa:bk Tryz.prog 5 aDp:=by apply ak<;>first|exact⟨by kernel_rfl,by kernel_rfl,by kernel_rfl⟩|kernel_rfl
def aDo:TI:=⟨1,1,.int .u8,[.u8 0],some .u8⟩
theorem aI9:bk Tryz.prog 6 aDo:=by apply ak<;>first|exact⟨by kernel_rfl,by kernel_rfl,by kernel_rfl⟩|kernel_rfl
def aDn:TI:=⟨4,24,.struct [(0,2),(1,3),(2,4),(3,6)],[.int 0,.int 0,.bool false,.u8 0],some (.prod .int (.prod .int (.prod .bool .u8)))⟩
theorem aI8:bk Tryz.prog 7 aDn:=by apply ak<;>first|exact⟨by kernel_rfl,by kernel_rfl,by kernel_rfl⟩|kernel_rfl
def aDm:TI:=⟨4,24,.struct [(0,2),(1,3),(2,4),(3,6)],[.int 0,.int 0,.bool false,.u8 0],some (.prod .int (.prod .int (.prod .bool .u8)))⟩
theorem aI7:bk Tryz.prog 8 aDm:=by apply ak<;>first|exact⟨by kernel_rfl,by kernel_rfl,by kernel_rfl⟩|kernel_rfl
def aDl:TI:=⟨1,16,.str,[.str []],some .str⟩
theorem aI6:bk Tryz.prog 9 aDl:=by apply ak<;>first|exact⟨by kernel_rfl,by kernel_rfl,by kernel_rfl⟩|kernel_rfl
def asz:TI:=⟨1,16,.str,[.str []],some .str⟩
theorem aFT:bk Tryz.prog 10 asz:=by apply ak<;>first|exact⟨by kernel_rfl,by kernel_rfl,by kernel_rfl⟩|kernel_rfl
def asy:TI:=⟨1,16,.str,[.str []],some .str⟩
theorem aFS:bk Tryz.prog 11 asy:=by apply ak<;>first|exact⟨by kernel_rfl,by kernel_rfl,by kernel_rfl⟩|kernel_rfl
def asx:TI:=⟨1,8,.int .u64,[.u64 0],some .u64⟩
theorem aFR:bk Tryz.prog 12 asx:=by apply ak<;>first|exact⟨by kernel_rfl,by kernel_rfl,by kernel_rfl⟩|kernel_rfl
def asw:TI:=⟨1,8,.ptr [("Error",183),("RuntimeError",184)],[.qV],none⟩
theorem aFQ:bk Tryz.prog 15 asw:=by apply ak<;>first|exact trivial|kernel_rfl
def asv:TI:=⟨1,8,.ptr [("Error",185),("RuntimeError",186)],[.qV],none⟩
theorem aFP:bk Tryz.prog 16 asv:=by apply ak<;>first|exact trivial|kernel_rfl
def asu:TI:=⟨1,8,.ptr [("Align",187)],[.qV],none⟩
theorem aFO:bk Tryz.prog 17 asu:=by apply ak<;>first|exact trivial|kernel_rfl
def ast:TI:=⟨1,16,.iface,[.eu],none⟩
theorem aFN:bk Tryz.prog 20 ast:=by apply ak<;>first|exact trivial|kernel_rfl
def ass:TI:=⟨1,4,.int .i32,[.bT],none⟩
theorem aFM:bk Tryz.prog 21 ass:=by apply ak<;>first|exact trivial|kernel_rfl
def asr:TI:=⟨1,24,.slice 41,[.emp],some (.list .elem)⟩
theorem aFL:bk Tryz.prog 22 asr:=by apply ak<;>first|exact⟨by kernel_rfl,by kernel_rfl,by kernel_rfl⟩|kernel_rfl
def asq:TI:=⟨2,32,.struct [(0,3),(1,22)],[.int 0,.emp],some (.prod .int (.list .elem))⟩
theorem aFK:bk Tryz.prog 23 asq:=by apply ak<;>first|exact⟨by kernel_rfl,by kernel_rfl,by kernel_rfl⟩|kernel_rfl
def asp:TI:=⟨2,32,.struct [(0,3),(1,22)],[.int 0,.emp],some (.prod .int (.list .elem))⟩
theorem aFJ:bk Tryz.prog 24 asp:=by apply ak<;>first|exact⟨by kernel_rfl,by kernel_rfl,by kernel_rfl⟩|kernel_rfl
def aso:TI:=⟨1,24,.slice 5,[.emp],some (.list .u8)⟩
theorem aFI:bk Tryz.prog 25 aso:=by apply ak<;>first|exact⟨by kernel_rfl,by kernel_rfl,by kernel_rfl⟩|kernel_rfl
def asn:TI:=⟨1,24,.slice 45,[.emp],some (.list (.prod .int (.prod .elem (.prod .elem (.prod .elem .bool)))))⟩
theorem aFH:bk Tryz.prog 26 asn:=by apply ak<;>first|exact⟨by kernel_rfl,by kernel_rfl,by kernel_rfl⟩|kernel_rfl
def asm:TI:=⟨1,8,.other,[.bT],none⟩
theorem aFG:bk Tryz.prog 27 asm:=by apply ak<;>first|exact trivial|kernel_rfl
def asl:TI:=⟨1,8,.other,[.bT],none⟩
theorem aFF:bk Tryz.prog 28 asl:=by apply ak<;>first|exact trivial|kernel_rfl
def asj:TI:=⟨1,8,.ptr [("Point",20),("Rest",25),("Scalar",22)],[.qV],none⟩
theorem aFE:bk Tryz.prog 29 asj:=by apply ak<;>first|exact trivial|kernel_rfl
def asi:TI:=⟨1,8,.int .i64,[.int 0],some .int⟩
theorem aFD:bk Tryz.prog 30 asi:=by apply ak<;>first|exact⟨by kernel_rfl,by kernel_rfl,by kernel_rfl⟩|kernel_rfl
def ash:TI:=⟨1,8,.other,[.bT],none⟩
theorem aFC:bk Tryz.prog 32 ash:=by apply ak<;>first|exact trivial|kernel_rfl
def asg:TI:=⟨1,8,.other,[.bT],none⟩
theorem aFB:bk Tryz.prog 33 asg:=by apply ak<;>first|exact trivial|kernel_rfl
def asf:TI:=⟨6,96,.struct [(0,3),(1,24),(3,25),(4,3),(5,25)],[.int 0,.int 0,.emp,.emp,.int 0,.emp],some (.prod .int (.prod (.prod .int (.list .elem)) (.prod (.list .u8) (.prod .int (.list .u8)))))⟩
theorem aFA:bk Tryz.prog 34 asf:=by apply ak<;>first|exact⟨by kernel_rfl,by kernel_rfl,by kernel_rfl⟩|kernel_rfl
def ase:TI:=⟨6,96,.struct [(0,3),(1,24),(3,25),(4,3),(5,25)],[.int 0,.int 0,.emp,.emp,.int 0,.emp],some (.prod .int (.prod (.prod .int (.list .elem)) (.prod (.list .u8) (.prod .int (.list .u8)))))⟩
theorem aFz:bk Tryz.prog 35 ase:=by apply ak<;>first|exact⟨by kernel_rfl,by kernel_rfl,by kernel_rfl⟩|kernel_rfl
def asd:TI:=⟨1,8,.other,[.bT],none⟩
theorem aFy:bk Tryz.prog 37 asd:=by apply ak<;>first|exact trivial|kernel_rfl
def asc:TI:=⟨1,8,.other,[.bT],none⟩
theorem aFx:bk Tryz.prog 38 asc:=by apply ak<;>first|exact trivial|kernel_rfl
def asb:TI:=⟨1,8,.int .u64,[.u64 0],some .u64⟩
theorem aFw:bk Tryz.prog 39 asb:=by apply ak<;>first|exact⟨by kernel_rfl,by kernel_rfl,by kernel_rfl⟩|kernel_rfl
def asa:TI:=⟨4,32,.array 4 39,[.u64 0,.u64 0,.u64 0,.u64 0],some .elem⟩
theorem aFv:bk Tryz.prog 40 asa:=by apply ak<;>first|exact⟨by kernel_rfl,by kernel_rfl,by kernel_rfl⟩|kernel_rfl
def ar9:TI:=⟨4,32,.array 4 39,[.u64 0,.u64 0,.u64 0,.u64 0],some .elem⟩
theorem aFu:bk Tryz.prog 41 ar9:=by apply ak<;>first|exact⟨by kernel_rfl,by kernel_rfl,by kernel_rfl⟩|kernel_rfl
def ar8:TI:=⟨9,72,.struct [(0,41),(4,41),(8,4)],[.u64 0,.u64 0,.u64 0,.u64 0,.u64 0,.u64 0,.u64 0,.u64 0,.bool false],some (.prod .elem (.prod .elem .bool))⟩
theorem aFt:bk Tryz.prog 42 ar8:=by apply ak<;>first|exact⟨by kernel_rfl,by kernel_rfl,by kernel_rfl⟩|kernel_rfl
def ar7:TI:=⟨9,72,.struct [(0,41),(4,41),(8,4)],[.u64 0,.u64 0,.u64 0,.u64 0,.u64 0,.u64 0,.u64 0,.u64 0,.bool false],some (.prod .elem (.prod .elem .bool))⟩
theorem aFs:bk Tryz.prog 43 ar7:=by apply ak<;>first|exact⟨by kernel_rfl,by kernel_rfl,by kernel_rfl⟩|kernel_rfl
def ar6:TI:=⟨14,112,.struct [(0,3),(1,41),(5,43)],[.int 0,.u64 0,.u64 0,.u64 0,.u64 0,.u64 0,.u64 0,.u64 0,.u64 0,.u64 0,.u64 0,.u64 0,.u64 0,.bool false],some (.prod .int (.prod .elem (.prod .elem (.prod .elem .bool))))⟩
theorem aFr:bk Tryz.prog 44 ar6:=by apply ak<;>first|exact⟨by kernel_rfl,by kernel_rfl,by kernel_rfl⟩|kernel_rfl
def ar5:TI:=⟨14,112,.struct [(0,3),(1,41),(5,43)],[.int 0,.u64 0,.u64 0,.u64 0,.u64 0,.u64 0,.u64 0,.u64 0,.u64 0,.u64 0,.u64 0,.u64 0,.u64 0,.bool false],some (.prod .int (.prod .elem (.prod .elem (.prod .elem .bool))))⟩
theorem aFq:bk Tryz.prog 45 ar5:=by apply ak<;>first|exact⟨by kernel_rfl,by kernel_rfl,by kernel_rfl⟩|kernel_rfl
def ar4:TI:=⟨1,8,.other,[.bT],none⟩
theorem aFp:bk Tryz.prog 46 ar4:=by apply ak<;>first|exact trivial|kernel_rfl
def ar3:TI:=⟨1,16,.iface,[.eu],none⟩
theorem aFo:bk Tryz.prog 47 ar3:=by apply ak<;>first|exact trivial|kernel_rfl
def ar2:TI:=⟨1,16,.iface,[.eu],none⟩
theorem aFn:bk Tryz.prog 48 ar2:=by apply ak<;>first|exact trivial|kernel_rfl
def ar1:TI:=⟨2,24,.struct [(0,3),(1,48)],[.int 0,.eu],none⟩
theorem aFm:bk Tryz.prog 49 ar1:=by apply ak<;>first|exact trivial|kernel_rfl
def ar0:TI:=⟨2,24,.struct [(0,3),(1,48)],[.int 0,.eu],none⟩
theorem aFl:bk Tryz.prog 50 ar0:=by apply ak<;>first|exact trivial|kernel_rfl
def arZ:TI:=⟨3,48,.struct [(0,50),(2,25)],[.int 0,.eu,.emp],none⟩
theorem aFk:bk Tryz.prog 51 arZ:=by apply ak<;>first|exact trivial|kernel_rfl
def arY:TI:=⟨3,48,.struct [(0,50),(2,25)],[.int 0,.eu,.emp],none⟩
theorem aFj:bk Tryz.prog 52 arY:=by apply ak<;>first|exact trivial|kernel_rfl
def arX:TI:=⟨1,8,.other,[.bT],none⟩
theorem aFi:bk Tryz.prog 53 arX:=by apply ak<;>first|exact trivial|kernel_rfl
def arW:TI:=⟨1,8,.other,[.bT],none⟩
theorem aFh:bk Tryz.prog 55 arW:=by apply ak<;>first|exact trivial|kernel_rfl
def arV:TI:=⟨1,8,.other,[.bT],none⟩
theorem aFg:bk Tryz.prog 57 arV:=by apply ak<;>first|exact trivial|kernel_rfl
def arU:TI:=⟨1,8,.other,[.bT],none⟩
theorem aFf:bk Tryz.prog 59 arU:=by apply ak<;>first|exact trivial|kernel_rfl
def arT:TI:=⟨1,8,.other,[.bT],none⟩
theorem aFe:bk Tryz.prog 61 arT:=by apply ak<;>first|exact trivial|kernel_rfl
def arS:TI:=⟨1,8,.other,[.bT],none⟩
theorem aFd:bk Tryz.prog 62 arS:=by apply ak<;>first|exact trivial|kernel_rfl
def arR:TI:=⟨1,8,.other,[.bT],none⟩
theorem aFc:bk Tryz.prog 63 arR:=by apply ak<;>first|exact trivial|kernel_rfl
def arQ:TI:=⟨1,8,.other,[.bT],none⟩
theorem aFb:bk Tryz.prog 64 arQ:=by apply ak<;>first|exact trivial|kernel_rfl
def arP:TI:=⟨1,8,.other,[.bT],none⟩
theorem aFa:bk Tryz.prog 65 arP:=by apply ak<;>first|exact trivial|kernel_rfl
def arO:TI:=⟨1,8,.other,[.bT],none⟩
theorem aE9:bk Tryz.prog 66 arO:=by apply ak<;>first|exact trivial|kernel_rfl
def arN:TI:=⟨1,24,.slice 43,[.emp],some (.list (.prod .elem (.prod .elem .bool)))⟩
theorem aE8:bk Tryz.prog 67 arN:=by apply ak<;>first|exact⟨by kernel_rfl,by kernel_rfl,by kernel_rfl⟩|kernel_rfl
def arM:TI:=⟨21,184,.struct [(0,3),(1,3),(2,67),(3,43),(12,43)],[.int 0,.int 0,.emp,.u64 0,.u64 0,.u64 0,.u64 0,.u64 0,.u64 0,.u64 0,.u64 0,.bool false,.u64 0,.u64 0,.u64 0,.u64 0,.u64 0,.u64 0,.u64 0,.u64 0,.bool false],some (.prod .int (.prod .int (.prod (.list (.prod .elem (.prod .elem .bool))) (.prod (.prod .elem (.prod .elem .bool)) (.prod .elem (.prod .elem .bool))))))⟩
theorem aE7:bk Tryz.prog 68 arM:=by apply ak<;>first|exact⟨by kernel_rfl,by kernel_rfl,by kernel_rfl⟩|kernel_rfl
def arL:TI:=⟨21,184,.struct [(0,3),(1,3),(2,67),(3,43),(12,43)],[.int 0,.int 0,.emp,.u64 0,.u64 0,.u64 0,.u64 0,.u64 0,.u64 0,.u64 0,.u64 0,.bool false,.u64 0,.u64 0,.u64 0,.u64 0,.u64 0,.u64 0,.u64 0,.u64 0,.bool false],some (.prod .int (.prod .int (.prod (.list (.prod .elem (.prod .elem .bool))) (.prod (.prod .elem (.prod .elem .bool)) (.prod .elem (.prod .elem .bool))))))⟩
theorem aE6:bk Tryz.prog 69 arL:=by apply ak<;>first|exact⟨by kernel_rfl,by kernel_rfl,by kernel_rfl⟩|kernel_rfl
def arK:TI:=⟨1,8,.other,[.bT],none⟩
theorem aE5:bk Tryz.prog 71 arK:=by apply ak<;>first|exact trivial|kernel_rfl
def arJ:TI:=⟨1,8,.other,[.bT],none⟩
theorem aE4:bk Tryz.prog 72 arJ:=by apply ak<;>first|exact trivial|kernel_rfl
def arI:TI:=⟨1,8,.other,[.bT],none⟩
theorem aE3:bk Tryz.prog 73 arI:=by apply ak<;>first|exact trivial|kernel_rfl
def arH:TI:=⟨1,8,.other,[.bT],none⟩
theorem aE2:bk Tryz.prog 74 arH:=by apply ak<;>first|exact trivial|kernel_rfl
def arG:TI:=⟨1,8,.other,[.bT],none⟩
theorem aE1:bk Tryz.prog 75 arG:=by apply ak<;>first|exact trivial|kernel_rfl
def arF:TI:=⟨1,8,.other,[.bT],none⟩
theorem aE0:bk Tryz.prog 76 arF:=by apply ak<;>first|exact trivial|kernel_rfl
def arE:TI:=⟨1,8,.other,[.bT],none⟩
theorem aEZ:bk Tryz.prog 77 arE:=by apply ak<;>first|exact trivial|kernel_rfl
def arD:TI:=⟨1,8,.other,[.bT],none⟩
theorem aEY:bk Tryz.prog 78 arD:=by apply ak<;>first|exact trivial|kernel_rfl
def arC:TI:=⟨1,8,.other,[.bT],none⟩
theorem aEX:bk Tryz.prog 79 arC:=by apply ak<;>first|exact trivial|kernel_rfl
def arB:TI:=⟨1,8,.other,[.bT],none⟩
theorem aEW:bk Tryz.prog 80 arB:=by apply ak<;>first|exact trivial|kernel_rfl
def arA:TI:=⟨1,8,.other,[.bT],none⟩
theorem aEV:bk Tryz.prog 81 arA:=by apply ak<;>first|exact trivial|kernel_rfl
def arz:TI:=⟨1,8,.other,[.bT],none⟩
theorem aEU:bk Tryz.prog 82 arz:=by apply ak<;>first|exact trivial|kernel_rfl
def ary:TI:=⟨1,8,.other,[.bT],none⟩
theorem aET:bk Tryz.prog 83 ary:=by apply ak<;>first|exact trivial|kernel_rfl
def arx:TI:=⟨1,8,.other,[.bT],none⟩
theorem aES:bk Tryz.prog 84 arx:=by apply ak<;>first|exact trivial|kernel_rfl
def arw:TI:=⟨1,8,.other,[.bT],none⟩
theorem aER:bk Tryz.prog 85 arw:=by apply ak<;>first|exact trivial|kernel_rfl
def arv:TI:=⟨1,8,.int .u64,[.u64 0],some .u64⟩
theorem aEQ:bk Tryz.prog 86 arv:=by apply ak<;>first|exact⟨by kernel_rfl,by kernel_rfl,by kernel_rfl⟩|kernel_rfl
def aru:TI:=⟨1,8,.ptr [("Bytes",50),("Scalar",49),("sigil/tape.say",88)],[.qV],none⟩
theorem aEP:bk Tryz.prog 87 aru:=by apply ak<;>first|exact trivial|kernel_rfl
def art:TI:=⟨1,8,.other,[.bT],none⟩
theorem aEO:bk Tryz.prog 89 art:=by apply ak<;>first|exact trivial|kernel_rfl
def ars:TI:=⟨3,48,.struct [(0,50),(2,25)],[.int 0,.eu,.emp],none⟩
theorem aEN:bk Tryz.prog 90 ars:=by apply ak<;>first|exact trivial|kernel_rfl
def arq:TI:=⟨3,48,.struct [(0,50),(2,25)],[.int 0,.eu,.emp],none⟩
theorem aEM:bk Tryz.prog 91 arq:=by apply ak<;>first|exact trivial|kernel_rfl
def arp:TI:=⟨1,8,.other,[.bT],none⟩
theorem aEL:bk Tryz.prog 92 arp:=by apply ak<;>first|exact trivial|kernel_rfl
def aro:TI:=⟨1,8,.other,[.bT],none⟩
theorem aEK:bk Tryz.prog 94 aro:=by apply ak<;>first|exact trivial|kernel_rfl
def arn:TI:=⟨1,8,.ptr [("Challenge",24),("Curve",26),("Hear",17)],[.qV],none⟩
theorem aEJ:bk Tryz.prog 95 arn:=by apply ak<;>first|exact trivial|kernel_rfl
def arm:TI:=⟨1,8,.other,[.bT],none⟩
theorem aEI:bk Tryz.prog 96 arm:=by apply ak<;>first|exact trivial|kernel_rfl
def arl:TI:=⟨1,8,.other,[.bT],none⟩
theorem aEH:bk Tryz.prog 97 arl:=by apply ak<;>first|exact trivial|kernel_rfl
def ark:TI:=⟨1,8,.other,[.bT],none⟩
theorem aEG:bk Tryz.prog 98 ark:=by apply ak<;>first|exact trivial|kernel_rfl
def arj:TI:=⟨1,8,.other,[.bT],none⟩
theorem aEF:bk Tryz.prog 99 arj:=by apply ak<;>first|exact trivial|kernel_rfl
def aja:TI:=⟨1,8,.other,[.bT],none⟩
theorem aAg:bk Tryz.prog 100 aja:=by apply ak<;>first|exact trivial|kernel_rfl
def ai9:TI:=⟨1,8,.other,[.bT],none⟩
theorem aAf:bk Tryz.prog 101 ai9:=by apply ak<;>first|exact trivial|kernel_rfl
def ai8:TI:=⟨1,8,.other,[.bT],none⟩
theorem aAe:bk Tryz.prog 102 ai8:=by apply ak<;>first|exact trivial|kernel_rfl
def ai7:TI:=⟨1,8,.other,[.bT],none⟩
theorem aAd:bk Tryz.prog 103 ai7:=by apply ak<;>first|exact trivial|kernel_rfl
def ai6:TI:=⟨1,8,.other,[.bT],none⟩
theorem aAc:bk Tryz.prog 105 ai6:=by apply ak<;>first|exact trivial|kernel_rfl
def ai5:TI:=⟨1,8,.other,[.bT],none⟩
theorem aAb:bk Tryz.prog 106 ai5:=by apply ak<;>first|exact trivial|kernel_rfl
def ai4:TI:=⟨1,8,.other,[.bT],none⟩
theorem aAa:bk Tryz.prog 107 ai4:=by apply ak<;>first|exact trivial|kernel_rfl
def ai3:TI:=⟨1,8,.other,[.bT],none⟩
theorem az9:bk Tryz.prog 108 ai3:=by apply ak<;>first|exact trivial|kernel_rfl
def ai2:TI:=⟨1,8,.other,[.bT],none⟩
theorem az8:bk Tryz.prog 109 ai2:=by apply ak<;>first|exact trivial|kernel_rfl
def ai1:TI:=⟨1,8,.other,[.bT],none⟩
theorem az7:bk Tryz.prog 110 ai1:=by apply ak<;>first|exact trivial|kernel_rfl
def ai0:TI:=⟨13,104,.struct [(0,41),(4,43)],[.u64 0,.u64 0,.u64 0,.u64 0,.u64 0,.u64 0,.u64 0,.u64 0,.u64 0,.u64 0,.u64 0,.u64 0,.bool false],some (.prod .elem (.prod .elem (.prod .elem .bool)))⟩
theorem az6:bk Tryz.prog 111 ai0:=by apply ak<;>first|exact⟨by kernel_rfl,by kernel_rfl,by kernel_rfl⟩|kernel_rfl
def aiZ:TI:=⟨13,104,.struct [(0,41),(4,43)],[.u64 0,.u64 0,.u64 0,.u64 0,.u64 0,.u64 0,.u64 0,.u64 0,.u64 0,.u64 0,.u64 0,.u64 0,.bool false],some (.prod .elem (.prod .elem (.prod .elem .bool)))⟩
theorem az5:bk Tryz.prog 112 aiZ:=by apply ak<;>first|exact⟨by kernel_rfl,by kernel_rfl,by kernel_rfl⟩|kernel_rfl
def aiY:TI:=⟨1,24,.slice 112,[.emp],some (.list (.prod .elem (.prod .elem (.prod .elem .bool))))⟩
theorem az4:bk Tryz.prog 113 aiY:=by apply ak<;>first|exact⟨by kernel_rfl,by kernel_rfl,by kernel_rfl⟩|kernel_rfl
def aiX:TI:=⟨1,8,.other,[.bT],none⟩
theorem az3:bk Tryz.prog 114 aiX:=by apply ak<;>first|exact trivial|kernel_rfl
def aiW:TI:=⟨1,8,.other,[.bT],none⟩
theorem az2:bk Tryz.prog 115 aiW:=by apply ak<;>first|exact trivial|kernel_rfl
def aiV:TI:=⟨11,88,.struct [(0,41),(4,3),(5,39),(6,39),(7,41)],[.u64 0,.u64 0,.u64 0,.u64 0,.int 0,.u64 0,.u64 0,.u64 0,.u64 0,.u64 0,.u64 0],some (.prod .elem (.prod .int (.prod .u64 (.prod .u64 .elem))))⟩
theorem az1:bk Tryz.prog 116 aiV:=by apply ak<;>first|exact⟨by kernel_rfl,by kernel_rfl,by kernel_rfl⟩|kernel_rfl
def aiU:TI:=⟨11,88,.struct [(0,41),(4,3),(5,39),(6,39),(7,41)],[.u64 0,.u64 0,.u64 0,.u64 0,.int 0,.u64 0,.u64 0,.u64 0,.u64 0,.u64 0,.u64 0],some (.prod .elem (.prod .int (.prod .u64 (.prod .u64 .elem))))⟩
theorem az0:bk Tryz.prog 117 aiU:=by apply ak<;>first|exact⟨by kernel_rfl,by kernel_rfl,by kernel_rfl⟩|kernel_rfl
def aiT:TI:=⟨1,8,.other,[.bT],none⟩
theorem azZ:bk Tryz.prog 119 aiT:=by apply ak<;>first|exact trivial|kernel_rfl
def aiS:TI:=⟨1,8,.other,[.bT],none⟩
theorem azY:bk Tryz.prog 120 aiS:=by apply ak<;>first|exact trivial|kernel_rfl
def aiR:TI:=⟨1,8,.other,[.bT],none⟩
theorem azX:bk Tryz.prog 121 aiR:=by apply ak<;>first|exact trivial|kernel_rfl
def aiQ:TI:=⟨1,8,.int .i64,[.int 0],some .int⟩
theorem azW:bk Tryz.prog 122 aiQ:=by apply ak<;>first|exact⟨by kernel_rfl,by kernel_rfl,by kernel_rfl⟩|kernel_rfl
def aiP:TI:=⟨1,8,.other,[.bT],none⟩
theorem azV:bk Tryz.prog 123 aiP:=by apply ak<;>first|exact trivial|kernel_rfl
def aiO:TI:=⟨12,96,.struct [(0,41),(4,41),(8,41)],List.replicate 12 (.u64 0),some (.prod .elem (.prod .elem .elem))⟩
theorem azU:bk Tryz.prog 124 aiO:=by apply ak<;>first|exact⟨by kernel_rfl,by kernel_rfl,by kernel_rfl⟩|kernel_rfl
def aiN:TI:=⟨12,96,.struct [(0,41),(4,41),(8,41)],List.replicate 12 (.u64 0),some (.prod .elem (.prod .elem .elem))⟩
theorem azT:bk Tryz.prog 125 aiN:=by apply ak<;>first|exact⟨by kernel_rfl,by kernel_rfl,by kernel_rfl⟩|kernel_rfl
def aiM:TI:=⟨1,8,.other,[.bT],none⟩
theorem azS:bk Tryz.prog 126 aiM:=by apply ak<;>first|exact trivial|kernel_rfl
def aiL:TI:=⟨1,8,.other,[.bT],none⟩
theorem azR:bk Tryz.prog 127 aiL:=by apply ak<;>first|exact trivial|kernel_rfl
def aiK:TI:=⟨1,8,.other,[.bT],none⟩
theorem azQ:bk Tryz.prog 128 aiK:=by apply ak<;>first|exact trivial|kernel_rfl
def aiJ:TI:=⟨1,8,.other,[.bT],none⟩
theorem azP:bk Tryz.prog 129 aiJ:=by apply ak<;>first|exact trivial|kernel_rfl
def aiI:TI:=⟨1,8,.other,[.bT],none⟩
theorem azO:bk Tryz.prog 131 aiI:=by apply ak<;>first|exact trivial|kernel_rfl
def aiH:TI:=⟨1,8,.other,[.bT],none⟩
theorem azN:bk Tryz.prog 132 aiH:=by apply ak<;>first|exact trivial|kernel_rfl
def aiG:TI:=⟨1,8,.ptr [("sigil/tape.next",191),("sigil/tape.take",192)],[.qV],none⟩
theorem azM:bk Tryz.prog 133 aiG:=by apply ak<;>first|exact trivial|kernel_rfl
def aiF:TI:=⟨1,24,.struct [(0,22)],[.emp],some (.list .elem)⟩
theorem azL:bk Tryz.prog 134 aiF:=by apply ak<;>first|exact⟨by kernel_rfl,by kernel_rfl,by kernel_rfl⟩|kernel_rfl
def aiE:TI:=⟨1,24,.struct [(0,22)],[.emp],some (.list .elem)⟩
theorem azK:bk Tryz.prog 135 aiE:=by apply ak<;>first|exact⟨by kernel_rfl,by kernel_rfl,by kernel_rfl⟩|kernel_rfl
def aiD:TI:=⟨2,32,.struct [(0,3),(1,135)],[.int 0,.emp],some (.prod .int (.list .elem))⟩
theorem azJ:bk Tryz.prog 136 aiD:=by apply ak<;>first|exact⟨by kernel_rfl,by kernel_rfl,by kernel_rfl⟩|kernel_rfl
def aiC:TI:=⟨2,32,.struct [(0,3),(1,135)],[.int 0,.emp],some (.prod .int (.list .elem))⟩
theorem azI:bk Tryz.prog 137 aiC:=by apply ak<;>first|exact⟨by kernel_rfl,by kernel_rfl,by kernel_rfl⟩|kernel_rfl
def aiB:TI:=⟨1,8,.ptr [("Sum",110),("Write",109)],[.qV],none⟩
theorem azH:bk Tryz.prog 138 aiB:=by apply ak<;>first|exact trivial|kernel_rfl
def aiA:TI:=⟨1,8,.other,[.bT],none⟩
theorem azG:bk Tryz.prog 140 aiA:=by apply ak<;>first|exact trivial|kernel_rfl
def aiz:TI:=⟨1,8,.ptr [("sigil/tape.next",194),("sigil/tape.take",195)],[.qV],none⟩
theorem azF:bk Tryz.prog 141 aiz:=by apply ak<;>first|exact trivial|kernel_rfl
def aiy:TI:=⟨2,16,.struct [(0,3),(1,138)],[.int 0,.qV],none⟩
theorem azE:bk Tryz.prog 142 aiy:=by apply ak<;>first|exact trivial|kernel_rfl
def aix:TI:=⟨2,16,.struct [(0,3),(1,138)],[.int 0,.qV],none⟩
theorem azD:bk Tryz.prog 143 aix:=by apply ak<;>first|exact trivial|kernel_rfl
def aiw:TI:=⟨1,8,.other,[.bT],none⟩
theorem azC:bk Tryz.prog 144 aiw:=by apply ak<;>first|exact trivial|kernel_rfl
def aiv:TI:=⟨1,8,.other,[.bT],none⟩
theorem azB:bk Tryz.prog 145 aiv:=by apply ak<;>first|exact trivial|kernel_rfl
def aiu:TI:=⟨1,8,.other,[.bT],none⟩
theorem azA:bk Tryz.prog 146 aiu:=by apply ak<;>first|exact trivial|kernel_rfl
def ait:TI:=⟨1,8,.other,[.bT],none⟩
theorem azz:bk Tryz.prog 147 ait:=by apply ak<;>first|exact trivial|kernel_rfl
def ais:TI:=⟨8,64,.array 8 39,[.u64 0,.u64 0,.u64 0,.u64 0,.u64 0,.u64 0,.u64 0,.u64 0],some (.arr 8 .u64)⟩
theorem azy:bk Tryz.prog 148 ais:=by apply ak<;>first|exact⟨by kernel_rfl,by kernel_rfl,by kernel_rfl⟩|kernel_rfl
def air:TI:=⟨1,8,.other,[.bT],none⟩
theorem azx:bk Tryz.prog 149 air:=by apply ak<;>first|exact trivial|kernel_rfl
def aiq:TI:=⟨1,8,.other,[.bT],none⟩
theorem azw:bk Tryz.prog 150 aiq:=by apply ak<;>first|exact trivial|kernel_rfl
def aip:TI:=⟨1,8,.other,[.bT],none⟩
theorem azv:bk Tryz.prog 151 aip:=by apply ak<;>first|exact trivial|kernel_rfl
def aio:TI:=⟨1,8,.other,[.bT],none⟩
theorem azu:bk Tryz.prog 152 aio:=by apply ak<;>first|exact trivial|kernel_rfl
def ain:TI:=⟨1,8,.other,[.bT],none⟩
theorem azt:bk Tryz.prog 153 ain:=by apply ak<;>first|exact trivial|kernel_rfl
def aim:TI:=⟨1,8,.other,[.bT],none⟩
theorem azs:bk Tryz.prog 154 aim:=by apply ak<;>first|exact trivial|kernel_rfl
def ail:TI:=⟨1,8,.other,[.bT],none⟩
theorem azr:bk Tryz.prog 155 ail:=by apply ak<;>first|exact trivial|kernel_rfl
def aik:TI:=⟨1,8,.ptr [("Add",115),("Scale",196),("Value",116)],[.qV],none⟩
theorem azq:bk Tryz.prog 156 aik:=by apply ak<;>first|exact trivial|kernel_rfl
def aij:TI:=⟨1,8,.other,[.bT],none⟩
theorem azp:bk Tryz.prog 158 aij:=by apply ak<;>first|exact trivial|kernel_rfl
def aii:TI:=⟨1,8,.other,[.bT],none⟩
theorem azo:bk Tryz.prog 159 aii:=by apply ak<;>first|exact trivial|kernel_rfl
def aih:TI:=⟨1,8,.other,[.bT],none⟩
theorem azn:bk Tryz.prog 160 aih:=by apply ak<;>first|exact trivial|kernel_rfl
def aif:TI:=⟨1,8,.other,[.bT],none⟩
theorem azm:bk Tryz.prog 161 aif:=by apply ak<;>first|exact trivial|kernel_rfl
def aie:TI:=⟨1,8,.other,[.bT],none⟩
theorem azl:bk Tryz.prog 162 aie:=by apply ak<;>first|exact trivial|kernel_rfl
def aid:TI:=⟨11,104,.struct [(0,3),(1,148),(9,25),(10,39)],[.int 0,.u64 0,.u64 0,.u64 0,.u64 0,.u64 0,.u64 0,.u64 0,.u64 0,.emp,.u64 0],some (.prod .int (.prod (.arr 8 .u64) (.prod (.list .u8) .u64)))⟩
theorem azk:bk Tryz.prog 163 aid:=by apply ak<;>first|exact⟨by kernel_rfl,by kernel_rfl,by kernel_rfl⟩|kernel_rfl
def aic:TI:=⟨11,104,.struct [(0,3),(1,148),(9,25),(10,39)],[.int 0,.u64 0,.u64 0,.u64 0,.u64 0,.u64 0,.u64 0,.u64 0,.u64 0,.emp,.u64 0],some (.prod .int (.prod (.arr 8 .u64) (.prod (.list .u8) .u64)))⟩
theorem azj:bk Tryz.prog 164 aic:=by apply ak<;>first|exact⟨by kernel_rfl,by kernel_rfl,by kernel_rfl⟩|kernel_rfl
def aib:TI:=⟨16,16,.array 16 5,List.replicate 16 (.u8 0),some (.arr 16 .u8)⟩
theorem azi:bk Tryz.prog 165 aib:=by apply ak<;>first|exact⟨by kernel_rfl,by kernel_rfl,by kernel_rfl⟩|kernel_rfl
def aia:TI:=⟨1,8,.other,[.bT],none⟩
theorem azh:bk Tryz.prog 166 aia:=by apply ak<;>first|exact trivial|kernel_rfl
def ah9:TI:=⟨1,8,.other,[.bT],none⟩
theorem azg:bk Tryz.prog 168 ah9:=by apply ak<;>first|exact trivial|kernel_rfl
def ah8:TI:=⟨1,8,.other,[.bT],none⟩
theorem azf:bk Tryz.prog 170 ah8:=by apply ak<;>first|exact trivial|kernel_rfl
def ah7:TI:=⟨1,8,.other,[.bT],none⟩
theorem aze:bk Tryz.prog 171 ah7:=by apply ak<;>first|exact trivial|kernel_rfl
def ah6:TI:=⟨1,8,.other,[.bT],none⟩
theorem azd:bk Tryz.prog 172 ah6:=by apply ak<;>first|exact trivial|kernel_rfl
def ah5:TI:=⟨16,128,.array 16 39,List.replicate 16 (.u64 0),some (.arr 16 .u64)⟩
theorem azc:bk Tryz.prog 173 ah5:=by apply ak<;>first|exact⟨by kernel_rfl,by kernel_rfl,by kernel_rfl⟩|kernel_rfl
def ah4:TI:=⟨16,128,.array 16 3,List.replicate 16 (.int 0),some (.arr 16 .int)⟩
theorem azb:bk Tryz.prog 174 ah4:=by apply ak<;>first|exact⟨by kernel_rfl,by kernel_rfl,by kernel_rfl⟩|kernel_rfl
def ah3:TI:=⟨160,1280,.array 10 174,List.replicate 160 (.int 0),some (.arr 10 (.arr 16 .int))⟩
theorem aza:bk Tryz.prog 175 ah3:=by apply ak<;>first|exact⟨by kernel_rfl,by kernel_rfl,by kernel_rfl⟩|kernel_rfl
def ah2:TI:=⟨1,8,.other,[.bT],none⟩
theorem ay9:bk Tryz.prog 176 ah2:=by apply ak<;>first|exact trivial|kernel_rfl
def ah1:TI:=⟨1,8,.other,[.bT],none⟩
theorem ay8:bk Tryz.prog 177 ah1:=by apply ak<;>first|exact trivial|kernel_rfl
def ah0:TI:=⟨1,24,.slice 3,[.emp],some (.list .int)⟩
theorem ay7:bk Tryz.prog 178 ah0:=by apply ak<;>first|exact⟨by kernel_rfl,by kernel_rfl,by kernel_rfl⟩|kernel_rfl
def ahZ:TI:=⟨1,8,.other,[.bT],none⟩
theorem ay6:bk Tryz.prog 179 ahZ:=by apply ak<;>first|exact trivial|kernel_rfl
def ahY:TI:=⟨1,8,.other,[.bT],none⟩
theorem ay5:bk Tryz.prog 180 ahY:=by apply ak<;>first|exact trivial|kernel_rfl
def ahX:TI:=⟨1,8,.other,[.bT],none⟩
theorem ay4:bk Tryz.prog 181 ahX:=by apply ak<;>first|exact trivial|kernel_rfl
def ahW:TI:=⟨128,128,.array 128 5,List.replicate 128 (.u8 0),some (.arr 128 .u8)⟩
theorem ay3:bk Tryz.prog 182 ahW:=by apply ak<;>first|exact⟨by kernel_rfl,by kernel_rfl,by kernel_rfl⟩|kernel_rfl
def ahV:TI:=⟨8,64,.array 2 41,[.u64 0,.u64 0,.u64 0,.u64 0,.u64 0,.u64 0,.u64 0,.u64 0],some (.arr 2 .elem)⟩
theorem ay2:bk Tryz.prog 183 ahV:=by apply ak<;>first|exact⟨by kernel_rfl,by kernel_rfl,by kernel_rfl⟩|kernel_rfl
def ahU:TI:=⟨1,8,.other,[.bT],none⟩
theorem ay1:bk Tryz.prog 185 ahU:=by apply ak<;>first|exact trivial|kernel_rfl
def ahT:TI:=⟨2,32,.struct [(0,3),(1,113)],[.int 0,.emp],some (.prod .int (.list (.prod .elem (.prod .elem (.prod .elem .bool)))))⟩
theorem ay0:bk Tryz.prog 186 ahT:=by apply ak<;>first|exact⟨by kernel_rfl,by kernel_rfl,by kernel_rfl⟩|kernel_rfl
def ahS:TI:=⟨2,32,.struct [(0,3),(1,113)],[.int 0,.emp],some (.prod .int (.list (.prod .elem (.prod .elem (.prod .elem .bool)))))⟩
theorem ayZ:bk Tryz.prog 187 ahS:=by apply ak<;>first|exact⟨by kernel_rfl,by kernel_rfl,by kernel_rfl⟩|kernel_rfl
def ahR:TI:=⟨6,48,.array 6 39,[.u64 0,.u64 0,.u64 0,.u64 0,.u64 0,.u64 0],some (.arr 6 .u64)⟩
theorem ayY:bk Tryz.prog 188 ahR:=by apply ak<;>first|exact⟨by kernel_rfl,by kernel_rfl,by kernel_rfl⟩|kernel_rfl
def ahQ:TI:=⟨1,8,.other,[.bT],none⟩
theorem ayX:bk Tryz.prog 189 ahQ:=by apply ak<;>first|exact trivial|kernel_rfl
def ahP:TI:=⟨1,24,.slice 39,[.emp],some (.list .u64)⟩
theorem ayW:bk Tryz.prog 190 ahP:=by apply ak<;>first|exact⟨by kernel_rfl,by kernel_rfl,by kernel_rfl⟩|kernel_rfl
def ahO:TI:=⟨1,16,.iface,[.eu],none⟩
theorem ayV:bk Tryz.prog 191 ahO:=by apply ak<;>first|exact trivial|kernel_rfl
def ahN:TI:=⟨1,16,.iface,[.eu],none⟩
theorem ayU:bk Tryz.prog 192 ahN:=by apply ak<;>first|exact trivial|kernel_rfl
def ahM:TI:=⟨1,8,.other,[.bT],none⟩
theorem ayT:bk Tryz.prog 193 ahM:=by apply ak<;>first|exact trivial|kernel_rfl
def ahL:TI:=⟨4,32,.array 4 3,[.int 0,.int 0,.int 0,.int 0],some (.arr 4 .int)⟩
theorem ayS:bk Tryz.prog 194 ahL:=by apply ak<;>first|exact⟨by kernel_rfl,by kernel_rfl,by kernel_rfl⟩|kernel_rfl
def ahK:TI:=⟨1,8,.other,[.bT],none⟩
theorem ayR:bk Tryz.prog 195 ahK:=by apply ak<;>first|exact trivial|kernel_rfl
def ahJ:TI:=⟨16,128,.array 16 39,List.replicate 16 (.u64 0),some (.arr 16 .u64)⟩
theorem ayQ:bk Tryz.prog 196 ahJ:=by apply ak<;>first|exact⟨by kernel_rfl,by kernel_rfl,by kernel_rfl⟩|kernel_rfl
def ahI:TI:=⟨10,160,.array 10 9,List.replicate 10 (.str []),some (.arr 10 .str)⟩
theorem ayP:bk Tryz.prog 197 ahI:=by apply ak<;>first|exact⟨by kernel_rfl,by kernel_rfl,by kernel_rfl⟩|kernel_rfl
def ahH:TI:=⟨1,8,.other,[.bT],none⟩
theorem ayO:bk Tryz.prog 198 ahH:=by apply ak<;>first|exact trivial|kernel_rfl
def ahG:TI:=⟨1,8,.other,[.bT],none⟩
theorem ayN:bk Tryz.prog 199 ahG:=by apply ak<;>first|exact trivial|kernel_rfl
def ahF:TI:=⟨1,8,.other,[.bT],none⟩
theorem ayM:bk Tryz.prog 200 ahF:=by apply ak<;>first|exact trivial|kernel_rfl
def ahE:TI:=⟨1,8,.other,[.bT],none⟩
theorem ayL:bk Tryz.prog 201 ahE:=by apply ak<;>first|exact trivial|kernel_rfl
def ahD:TI:=⟨1,8,.other,[.bT],none⟩
theorem ayK:bk Tryz.prog 202 ahD:=by apply ak<;>first|exact trivial|kernel_rfl
def ahC:TI:=⟨1,8,.other,[.bT],none⟩
theorem ayJ:bk Tryz.prog 203 ahC:=by apply ak<;>first|exact trivial|kernel_rfl
def ahB:TI:=⟨1,8,.ptr [("sigil/blake.mix",159)],[.qV],none⟩
theorem ayI:bk Tryz.prog 204 ahB:=by apply ak<;>first|exact trivial|kernel_rfl
def ahA:TI:=⟨1,8,.other,[.bT],none⟩
theorem ayH:bk Tryz.prog 205 ahA:=by apply ak<;>first|exact trivial|kernel_rfl
def ahz:TI:=⟨1,8,.other,[.bT],none⟩
theorem ayG:bk Tryz.prog 206 ahz:=by apply ak<;>first|exact trivial|kernel_rfl
def ahy:TI:=⟨1,8,.other,[.bT],none⟩
theorem ayF:bk Tryz.prog 207 ahy:=by apply ak<;>first|exact trivial|kernel_rfl
def ahx:TI:=⟨135,1080,.array 15 43,(([.u64 0,.u64 0,.u64 0,.u64 0,.u64 0,.u64 0,.u64 0,.u64 0,.bool false,.u64 0,.u64 0,.u64 0,.u64 0,.u64 0,.u64 0,.u64 0,.u64 0,.bool false,.u64 0,.u64 0,.u64 0,.u64 0,.u64 0,.u64 0,.u64 0,.u64 0,.bool false,.u64 0,.u64 0,.u64 0,.u64 0,.u64 0,.u64 0,.u64 0,.u64 0,.bool false,.u64 0,.u64 0,.u64 0,.u64 0,.u64 0,.u64 0,.u64 0,.u64 0,.bool false,.u64 0,.u64 0,.u64 0,.u64 0,.u64 0]:List SV)++([.u64 0,.u64 0,.u64 0,.bool false,.u64 0,.u64 0,.u64 0,.u64 0,.u64 0,.u64 0,.u64 0,.u64 0,.bool false,.u64 0,.u64 0,.u64 0,.u64 0,.u64 0,.u64 0,.u64 0,.u64 0,.bool false,.u64 0,.u64 0,.u64 0,.u64 0,.u64 0,.u64 0,.u64 0,.u64 0,.bool false,.u64 0,.u64 0,.u64 0,.u64 0,.u64 0,.u64 0,.u64 0,.u64 0,.bool false,.u64 0,.u64 0,.u64 0,.u64 0,.u64 0,.u64 0,.u64 0,.u64 0,.bool false,.u64 0]:List SV)++([.u64 0,.u64 0,.u64 0,.u64 0,.u64 0,.u64 0,.u64 0,.bool false,.u64 0,.u64 0,.u64 0,.u64 0,.u64 0,.u64 0,.u64 0,.u64 0,.bool false,.u64 0,.u64 0,.u64 0,.u64 0,.u64 0,.u64 0,.u64 0,.u64 0,.bool false,.u64 0,.u64 0,.u64 0,.u64 0,.u64 0,.u64 0,.u64 0,.u64 0,.bool false]:List SV)),some (.arr 15 (.prod .elem (.prod .elem .bool)))⟩
theorem ayE:bk Tryz.prog 208 ahx:=by apply ak<;>first|exact⟨by kernel_rfl,by kernel_rfl,by kernel_rfl⟩|kernel_rfl
def ahw:TI:=⟨1,8,.other,[.bT],none⟩
theorem ayD:bk Tryz.prog 209 ahw:=by apply ak<;>first|exact trivial|kernel_rfl
def ahv:TI:=⟨1,8,.ptr [("Error",197)],[.qV],none⟩
theorem ayC:bk Tryz.prog 210 ahv:=by apply ak<;>first|exact trivial|kernel_rfl
def ahu:TI:=⟨1,8,.other,[.bT],none⟩
theorem ayB:bk Tryz.prog 211 ahu:=by apply ak<;>first|exact trivial|kernel_rfl
def aht:TI:=⟨0,0,.array 0 16,[],none⟩
theorem ayA:bk Tryz.prog 214 aht:=by apply ak<;>first|exact trivial|kernel_rfl
def ahs:TI:=⟨1,4,.int .u32,[.bT],none⟩
theorem ayz:bk Tryz.prog 217 ahs:=by apply ak<;>first|exact trivial|kernel_rfl
def ahr:TI:=⟨1,1,.int .u8,[.u8 0],some .u8⟩
theorem ayy:bk Tryz.prog 218 ahr:=by apply ak<;>first|exact⟨by kernel_rfl,by kernel_rfl,by kernel_rfl⟩|kernel_rfl
def ahq:TI:=⟨1,1,.int .u8,[.u8 0],some .u8⟩
theorem ayx:bk Tryz.prog 219 ahq:=by apply ak<;>first|exact⟨by kernel_rfl,by kernel_rfl,by kernel_rfl⟩|kernel_rfl
def ahp:TI:=⟨1,8,.other,[.bT],none⟩
theorem ayw:bk Tryz.prog 220 ahp:=by apply ak<;>first|exact trivial|kernel_rfl
def aho:TI:=⟨1,8,.ptr [],[.qV],none⟩
theorem ayv:bk Tryz.prog 221 aho:=by apply ak<;>first|exact trivial|kernel_rfl
def ahn:TI:=⟨1,4,.int .i32,[.bT],none⟩
theorem ayu:bk Tryz.prog 222 ahn:=by apply ak<;>first|exact trivial|kernel_rfl
def ahm:TI:=⟨1,4,.int .i32,[.bT],none⟩
theorem ayt:bk Tryz.prog 223 ahm:=by apply ak<;>first|exact trivial|kernel_rfl
def ahl:TI:=⟨1,8,.ptr [("Next",193)],[.qV],none⟩
theorem ays:bk Tryz.prog 226 ahl:=by apply ak<;>first|exact trivial|kernel_rfl
def ahk:TI:=⟨1,16,.struct [(0,9)],[.str []],some .str⟩
theorem ayr:bk Tryz.prog 227 ahk:=by apply ak<;>first|exact⟨by kernel_rfl,by kernel_rfl,by kernel_rfl⟩|kernel_rfl
def ahj:TI:=⟨1,16,.struct [(0,9)],[.str []],some .str⟩
theorem ayq:bk Tryz.prog 228 ahj:=by apply ak<;>first|exact⟨by kernel_rfl,by kernel_rfl,by kernel_rfl⟩|kernel_rfl
def ahi:TI:=⟨1,8,.other,[.qV],none⟩
theorem ayp:bk Tryz.prog 229 ahi:=by apply ak<;>first|exact trivial|kernel_rfl
def te:TE:=(au 1 aDt (au 2 aDs (au 3 aDr (au 4 aDq (au 5 aDp (au 6 aDo (au 7 aDn (au 8 aDm (au 9 aDl (au 10 asz (au 11 asy (au 12 asx (au 15 asw (au 16 asv (au 17 asu (au 20 ast (au 21 ass (au 22 asr (au 23 asq (au 24 asp (au 25 aso (au 26 asn (au 27 asm (au 28 asl (au 29 asj (au 30 asi (au 32 ash (au 33 asg (au 34 asf (au 35 ase (au 37 asd (au 38 asc (au 39 asb (au 40 asa (au 41 ar9 (au 42 ar8 (au 43 ar7 (au 44 ar6 (au 45 ar5 (au 46 ar4 (au 47 ar3 (au 48 ar2 (au 49 ar1 (au 50 ar0 (au 51 arZ (au 52 arY (au 53 arX (au 55 arW (au 57 arV (au 59 arU (au 61 arT (au 62 arS (au 63 arR (au 64 arQ (au 65 arP (au 66 arO (au 67 arN (au 68 arM (au 69 arL (au 71 arK (au 72 arJ (au 73 arI (au 74 arH (au 75 arG (au 76 arF (au 77 arE (au 78 arD (au 79 arC (au 80 arB (au 81 arA (au 82 arz (au 83 ary (au 84 arx (au 85 arw (au 86 arv (au 87 aru (au 89 art (au 90 ars (au 91 arq (au 92 arp (au 94 aro (au 95 arn (au 96 arm (au 97 arl (au 98 ark (au 99 arj (au 100 aja (au 101 ai9 (au 102 ai8 (au 103 ai7 (au 105 ai6 (au 106 ai5 (au 107 ai4 (au 108 ai3 (au 109 ai2 (au 110 ai1 (au 111 ai0 (au 112 aiZ (au 113 aiY (au 114 aiX (au 115 aiW (au 116 aiV (au 117 aiU (au 119 aiT (au 120 aiS (au 121 aiR (au 122 aiQ (au 123 aiP (au 124 aiO (au 125 aiN (au 126 aiM (au 127 aiL (au 128 aiK (au 129 aiJ (au 131 aiI (au 132 aiH (au 133 aiG (au 134 aiF (au 135 aiE (au 136 aiD (au 137 aiC (au 138 aiB (au 140 aiA (au 141 aiz (au 142 aiy (au 143 aix (au 144 aiw (au 145 aiv (au 146 aiu (au 147 ait (au 148 ais (au 149 air (au 150 aiq (au 151 aip (au 152 aio (au 153 ain (au 154 aim (au 155 ail (au 156 aik (au 158 aij (au 159 aii (au 160 aih (au 161 aif (au 162 aie (au 163 aid (au 164 aic (au 165 aib (au 166 aia (au 168 ah9 (au 170 ah8 (au 171 ah7 (au 172 ah6 (au 173 ah5 (au 174 ah4 (au 175 ah3 (au 176 ah2 (au 177 ah1 (au 178 ah0 (au 179 ahZ (au 180 ahY (au 181 ahX (au 182 ahW (au 183 ahV (au 185 ahU (au 186 ahT (au 187 ahS (au 188 ahR (au 189 ahQ (au 190 ahP (au 191 ahO (au 192 ahN (au 193 ahM (au 194 ahL (au 195 ahK (au 196 ahJ (au 197 ahI (au 198 ahH (au 199 ahG (au 200 ahF (au 201 ahE (au 202 ahD (au 203 ahC (au 204 ahB (au 205 ahA (au 206 ahz (au 207 ahy (au 208 ahx (au 209 ahw (au 210 ahv (au 211 ahu (au 214 aht (au 217 ahs (au 218 ahr (au 219 ahq (au 220 ahp (au 221 aho (au 222 ahn (au 223 ahm (au 226 ahl (au 227 ahk (au 228 ahj (au 229 ahi aJf))))))))))))))))))))))))))))))))))))))))))))))))))))))))))))))))))))))))))))))))))))))))))))))))))))))))))))))))))))))))))))))))))))))))))))))))))))))))))))))))))))))))))))))))))))))))))))))))))))))))))
theorem aq:nJ Tryz.prog te:=(ab aJe (ab aJd (ab aJc (ab aJb (ab aJa (ab aI9 (ab aI8 (ab aI7 (ab aI6 (ab aFT (ab aFS (ab aFR (ab aFQ (ab aFP (ab aFO (ab aFN (ab aFM (ab aFL (ab aFK (ab aFJ (ab aFI (ab aFH (ab aFG (ab aFF (ab aFE (ab aFD (ab aFC (ab aFB (ab aFA (ab aFz (ab aFy (ab aFx (ab aFw (ab aFv (ab aFu (ab aFt (ab aFs (ab aFr (ab aFq (ab aFp (ab aFo (ab aFn (ab aFm (ab aFl (ab aFk (ab aFj (ab aFi (ab aFh (ab aFg (ab aFf (ab aFe (ab aFd (ab aFc (ab aFb (ab aFa (ab aE9 (ab aE8 (ab aE7 (ab aE6 (ab aE5 (ab aE4 (ab aE3 (ab aE2 (ab aE1 (ab aE0 (ab aEZ (ab aEY (ab aEX (ab aEW (ab aEV (ab aEU (ab aET (ab aES (ab aER (ab aEQ (ab aEP (ab aEO (ab aEN (ab aEM (ab aEL (ab aEK (ab aEJ (ab aEI (ab aEH (ab aEG (ab aEF (ab aAg (ab aAf (ab aAe (ab aAd (ab aAc (ab aAb (ab aAa (ab az9 (ab az8 (ab az7 (ab az6 (ab az5 (ab az4 (ab az3 (ab az2 (ab az1 (ab az0 (ab azZ (ab azY (ab azX (ab azW (ab azV (ab azU (ab azT (ab azS (ab azR (ab azQ (ab azP (ab azO (ab azN (ab azM (ab azL (ab azK (ab azJ (ab azI (ab azH (ab azG (ab azF (ab azE (ab azD (ab azC (ab azB (ab azA (ab azz (ab azy (ab azx (ab azw (ab azv (ab azu (ab azt (ab azs (ab azr (ab azq (ab azp (ab azo (ab azn (ab azm (ab azl (ab azk (ab azj (ab azi (ab azh (ab azg (ab azf (ab aze (ab azd (ab azc (ab azb (ab aza (ab ay9 (ab ay8 (ab ay7 (ab ay6 (ab ay5 (ab ay4 (ab ay3 (ab ay2 (ab ay1 (ab ay0 (ab ayZ (ab ayY (ab ayX (ab ayW (ab ayV (ab ayU (ab ayT (ab ayS (ab ayR (ab ayQ (ab ayP (ab ayO (ab ayN (ab ayM (ab ayL (ab ayK (ab ayJ (ab ayI (ab ayH (ab ayG (ab ayF (ab ayE (ab ayD (ab ayC (ab ayB (ab ayA (ab ayz (ab ayy (ab ayx (ab ayw (ab ayv (ab ayu (ab ayt (ab ays (ab ayr (ab ayq (ab ayp aAh))))))))))))))))))))))))))))))))))))))))))))))))))))))))))))))))))))))))))))))))))))))))))))))))))))))))))))))))))))))))))))))))))))))))))))))))))))))))))))))))))))))))))))))))))))))))))))))))))))))))))
theorem follows:Tryz.prog.follows .mixedOrders=true:=by kernel_rfl
def E0:Env:=awA
theorem aDg:aQ Tryz.prog E0:=awz
theorem ax5:ax E0:=afz
theorem aEf:aU Tryz.prog te E0:=aJ follows aq aDg ax5
end Go.Proofs.YtohjofabochgfaaGreat

namespace Go.Proofs.YtohjofabochgfaaGreat
open Sx Go
def kG (b:List UInt8) (k:Nat):UInt64:=(List.range k).foldl (λv (i:Nat)=>v|||bP (UInt8.toUInt64 (b.getD i 0)) (8*(i:Int))) 0
theorem PO (b:List UInt8) (k:Nat):kG b (k+1)=kG b k|||bP (UInt8.toUInt64 (b.getD k 0)) (8*(k:Int)):=by
 simp [kG,List.range_succ]
end Go.Proofs.YtohjofabochgfaaGreat

namespace Go.Proofs.YtohjofabochgfaaGreat
open Sx Go
set_option maxRecDepth 100000
def mD:aw:=⟨[.val false (.list .u8)],[],true,0,false⟩
abbrev R6:Type:=((List (UInt8))×Unit)×(Unit)
def Co:Shape:=⟨22,[(3,.val false .u64),(6,.val false (.list .u8)),(7,.val false .int),(8,.val false .int)],[],0,true⟩
abbrev dt:Type:=((UInt64)×(List (UInt8))×(Int)×(Int)×Unit)×(Unit)
def wO:Shape:=⟨22,[(3,.val false .u64)],[],0,true⟩
abbrev mC:Type:=((UInt64)×Unit)×(Unit)
def alN:SE->Option Shape:=fp [(0,wO)] none
def VT (a3:UInt64) (a6:List (UInt8)) (a7:Int) (a8:Int):OT (Sum dt aE):=
 (.br (decide (a8<a7))
 (gd [inB a8 (List.length a6),inR ((8:Int)*a8),decide ((0:Int)<=(8:Int)*a8),inR (a8+(1:Int))] (.ok (.inl ((a3|||bP (UInt8.toUInt64 (List.getD a6 (Int.toNat a8) (0:UInt8))) ((8:Int)*a8),(a6,(a7,(a8+(1:Int),())))),()))))
 (.ok (.inr ⟨(.exit 0,wO),((a3,()),())⟩)))
def ry (s:dt):OT (Sum dt aE):=VT (s.1.1) (s.1.2.1) (s.1.2.2.1) (s.1.2.2.2.1)
theorem aCH (s:dt) (Q:Sum dt aE->Prop):wps te E0 av 1000 (aV (aj Tryz.f127) 0) (Co.inj s) (bV Co alN (Q:Sum Co.T aE->Prop))=(ry s).wpR Q:=by kernel_rfl
def I7 (g0_0:dt->mC) (s:dt):OT aE:=(.ok ⟨(.exit 0,wO),g0_0 s⟩)
def VS:az:=⟨[.val false .u64],[],false⟩
def aaT:SV->Option az:=λ_=>some VS
def afT (ok0:dt->Bool) (g0_0:dt->mC) (a0:List (UInt8)):OT mD.Y:=
 let z0:(UInt64×List UInt8×Int×Int×PUnit)×PUnit:=(((0:UInt64),a0,(↑(List.length a0):Int),(0:Int),()),())
 (gd [ok0 z0] (.ok ⟨VS,(((g0_0 z0).fst.fst,()),())⟩))
theorem aIg (ok0:dt->Bool) (g0_0:dt->mC) (x:R6) (Q:mD.Y->Prop):wpf te E0 (aO 0 (cb Co 0 ok0 (I7 g0_0)) av) 1000 Tryz.f127 (mD.inp.inj x).tm (mD.inp.inj x).hp (fnK mD aaT Q) (λ_ _=>False)=(afT ok0 g0_0 (x.1.1)).wpR Q:=by kernel_rfl
theorem apW (ok0:dt->Bool) (g0_0:dt->mC) (h0:∀ s:dt,ok0 s=true->∃ m e,al (ry) m s=some e/\(I7 g0_0 s).run=some e) (pre:R6->Bool) (F:R6->OT mD.Y) (hF:∀ (x:R6) oy,pre x=true->(F x).run=some oy->(afT ok0 g0_0 (x.1.1)).run=some oy):ac Tryz.prog 127 (mD.aH pre F):=
 aD aq aDg aEf (f:=127) (fn:=Tryz.f127) (c:=aj Tryz.f127) (by kernel_rfl) (by kernel_rfl) (by kernel_rfl) (S:=mD) (k:=0) (by kernel_rfl) (λR hR=>(aB (c:=(aj Tryz.f127)) (by kernel_rfl) (id:=0) (by kernel_rfl) (aS aq aDg aEf (sh:=Co) hR (xs:=alN) (aC (by kernel_rfl) (by kernel_rfl) hR) aK af (n:=1000) (T:=ry) (λs Q=>aCH s Q) (ok:=ok0) (f:=I7 g0_0) h0) af)) (n:=1000) (sel:=aaT) (λv o h=>by cases h;rfl) (pre:=pre) (F:=F) (T:=λx=>afT ok0 g0_0 (x.1.1)) (λx Q=>aIg ok0 g0_0 x Q) hF
def aaU (s:dt):Bool:=decide (s.1.1=0/\s.1.2.2.1=(s.1.2.1.length:Int)/\s.1.2.2.2.1=0/\s.1.2.1.length<=4096)
def alO (s:dt):mC:=((kG s.1.2.1 s.1.2.1.length,()),())
theorem aCJ:∀ s,aaU s=true->∃ m e,al ry m s=some e/\(I7 alO s).run=some e:=by
 rintro ⟨⟨v,b,n,i,⟨⟩⟩,⟨⟩⟩ h
 have h':=of_decide_eq_true h
 dsimp only at h'
 obtain ⟨rfl,rfl,rfl,hl⟩:=h'
 have:=LG (T:=ry) (λk=>((kG b k,b,(b.length:Int),(k:Int),()),())) b.length (e:=⟨(.exit 0,wO),((kG b b.length,()),())⟩) (λk hk=> ?_) ?_ 0 (Nat.zero_le _)
 ·obtain ⟨m,hm⟩:=this
  exact ⟨m,_,hm,rfl⟩
 ·unfold ry VT
  dsimp only
  rw [OT.ap (decide_eq_true (by omega)),ah (by simp;exact ⟨aN (by omega),aI (by omega),by omega,aI (by omega)⟩),OT.cK,PO]
  rfl
 ·unfold ry VT
  dsimp only
  rw [OT.ar (decide_eq_false (by omega)),OT.cK]
def mB (x:R6):Bool:=decide (x.1.1.length<=4096)
def axf (x:R6):OT mD.Y:=.ok ⟨VS,((kG x.1.1 x.1.1.length,()),())⟩
theorem aCI:ac Tryz.prog 127 (mD.aH mB axf):=apW aaU alO aCJ _ _ λx oy hp ho=>by
 rw [<-ho]
 have hp':=of_decide_eq_true hp
 refine (OT.ap ?_).trans ?_
 ·exact decide_eq_true ⟨rfl,rfl,rfl,hp'⟩
 ·rfl
def FN:cf:=(mD.aH mB axf)
theorem afS:ac Tryz.prog 127 FN:=aCI
theorem afR:aF FN:=aA
def OL:Env:=ay 127 FN E0
theorem GG:aQ Tryz.prog OL:=ag afS aDg
theorem H7:ax OL:=ae afR ax5
theorem agT:aU Tryz.prog te OL:=aJ follows aq GG H7
def sG:aw:=⟨[.val false .u64,.val false .int],[],true,0,false⟩
abbrev amO:Type:=((UInt64)×(Int)×Unit)×(Unit)
def acY:az:=⟨[.val false .u64],[],false⟩
def ajm:SV->Option az:=λ_=>some acY
def asU (a0:UInt64) (a1:Int):OT sG.Y:=
 (.ok ⟨acY,((bP a0 (↑(UInt64.toNat (i2u a1&&&(63:UInt64))):Int)|||be a0 (↑(UInt64.toNat ((64:UInt64)-(i2u a1&&&(63:UInt64)))):Int),()),())⟩)
theorem aJi (x:amO) (Q:sG.Y->Prop):wpf te OL av 1000 Tryz.f167 (sG.inp.inj x).tm (sG.inp.inj x).hp (fnK sG ajm Q) (λ_ _=>False)=(asU (x.1.1) (x.1.2.1)).wpR Q:=by kernel_rfl
theorem asT (pre:amO->Bool) (F:amO->OT sG.Y) (hF:∀ (x:amO) oy,pre x=true->(F x).run=some oy->(asU (x.1.1) (x.1.2.1)).run=some oy):ac Tryz.prog 167 (sG.aH pre F):=
 aD aq GG agT (f:=167) (fn:=Tryz.f167) (c:=aj Tryz.f167) (by kernel_rfl) (by kernel_rfl) (by kernel_rfl) (S:=sG) (k:=0) (by kernel_rfl) (λR hR=>af) (n:=1000) (sel:=ajm) (λv o h=>by cases h;rfl) (pre:=pre) (F:=F) (T:=λx=>asU (x.1.1) (x.1.2.1)) (λx Q=>aJi x Q) hF
def rotl (a:UInt64) (n:Int):UInt64:=bP a (UInt64.toNat (i2u n&&&63):Int)|||be a (UInt64.toNat (64-(i2u n&&&63)):Int)
def ajn (_:amO):Bool:=true
def aDx (x:amO):OT sG.Y:=.ok ⟨acY,((rotl x.1.1 x.1.2.1,()),())⟩
theorem aGd:ac Tryz.prog 167 (sG.aH ajn aDx):=asT _ _ λx oy _ ho=>ho
def JN:cf:=(sG.aH ajn aDx)
theorem amN:ac Tryz.prog 167 JN:=aGd
theorem amM:aF JN:=aA
def abA:Env:=ay 167 JN OL
theorem NA:aQ Tryz.prog abA:=ag amN GG
theorem NB:ax abA:=ae amM H7
theorem aqk:aU Tryz.prog te abA:=aJ follows aq NA NB
def uC:aw:=⟨[.val false .u8],[],true,0,false⟩
abbrev ap4:Type:=((UInt8)×Unit)×(Unit)
def V1:az:=⟨[.val false .int],[],false⟩
def alV:SV->Option az:=λ_=>some V1
def axq (a0:UInt8):OT uC.Y:=
 (.br (decide ((97:UInt8)<=a0))
 (gd [inR ((↑(UInt8.toNat (a0-(97:UInt8))):Int)+(10:Int))] (.ok ⟨V1,(((↑(UInt8.toNat (a0-(97:UInt8))):Int)+(10:Int),()),())⟩))
 (.ok ⟨V1,(((↑(UInt8.toNat (a0-(48:UInt8))):Int),()),())⟩))
theorem aKi (x:ap4) (Q:uC.Y->Prop):wpf te abA av 1000 Tryz.f158 (uC.inp.inj x).tm (uC.inp.inj x).hp (fnK uC alV Q) (λ_ _=>False)=(axq (x.1.1)).wpR Q:=by kernel_rfl
theorem axp (pre:ap4->Bool) (F:ap4->OT uC.Y) (hF:∀ (x:ap4) oy,pre x=true->(F x).run=some oy->(axq (x.1.1)).run=some oy):ac Tryz.prog 158 (uC.aH pre F):=
 aD aq NA aqk (f:=158) (fn:=Tryz.f158) (c:=aj Tryz.f158) (by kernel_rfl) (by kernel_rfl) (by kernel_rfl) (S:=uC) (k:=0) (by kernel_rfl) (λR hR=>af) (n:=1000) (sel:=alV) (λv o h=>by cases h;rfl) (pre:=pre) (F:=F) (T:=λx=>axq (x.1.1)) (λx Q=>aKi x Q) hF
def nib (c:UInt8):Int:=if 97<=c then (UInt8.toNat (c-97):Int)+10 else (UInt8.toNat (c-48):Int)
def alW (_:ap4):Bool:=true
def alX (x:ap4):OT uC.Y:=.ok ⟨V1,((nib x.1.1,()),())⟩
theorem aIn:ac Tryz.prog 158 (uC.aH alW alX):=axp _ _ λx oy _ ho=>by
 rw [<-ho]
 have hlt:=(x.1.1-97).toNat_lt
 by_cases h:97<=x.1.1
 ·refine (OT.ap (decide_eq_true h)).trans ((ah (by simp;exact aI (by omega))).trans ?_)
  simp only [alX,nib,if_pos h]
 ·refine (OT.ar (decide_eq_false h)).trans ?_
  simp only [alX,nib,if_neg h]
def M3:cf:=(uC.aH alW alX)
theorem ap3:ac Tryz.prog 158 M3:=aIn
theorem ap2:aF M3:=aA
def ab6:Env:=ay 158 M3 abA
theorem OO:aQ Tryz.prog ab6:=ag ap3 NA
theorem OP:ax ab6:=ae ap2 NB
theorem aqB:aU Tryz.prog te ab6:=aJ follows aq OO OP
def ji:aw:=⟨[],[],true,0,false⟩
abbrev FQ:Type:=(Unit)×(Unit)
def MZ:az:=⟨[.val true (.arr 8 .u64)],[],false⟩
def R8:SV->Option az:=λ_=>some MZ
def VZ:OT ji.Y:=
 (.ok ⟨MZ,(([(7640891576956012808:UInt64),(13503953896175478587:UInt64),(4354685564936845355:UInt64),(11912009170470909681:UInt64),(5840696475078001361:UInt64),(11170449401992604703:UInt64),(2270897969802886507:UInt64),(6620516959819538809:UInt64)],()),())⟩)
theorem aCL (x:FQ) (Q:ji.Y->Prop):wpf te ab6 av 1000 Tryz.f126 (ji.inp.inj x).tm (ji.inp.inj x).hp (fnK ji R8 Q) (λ_ _=>False)=(VZ).wpR Q:=by kernel_rfl
theorem af3 (pre:FQ->Bool) (F:FQ->OT ji.Y) (hF:∀ (x:FQ) oy,pre x=true->(F x).run=some oy->(VZ).run=some oy):ac Tryz.prog 126 (ji.aH pre F):=
 aD aq OO aqB (f:=126) (fn:=Tryz.f126) (c:=aj Tryz.f126) (by kernel_rfl) (by kernel_rfl) (by kernel_rfl) (S:=ji) (k:=0) (by kernel_rfl) (λR hR=>af) (n:=1000) (sel:=R8) (λv o h=>by cases h;rfl) (pre:=pre) (F:=F) (T:=λx=>VZ) (λx Q=>aCL x Q) hF
def bIV:List UInt64:= [0x6a09e667f3bcc908,0xbb67ae8584caa73b,0x3c6ef372fe94f82b,0xa54ff53a5f1d36f1,0x510e527fade682d1,0x9b05688c2b3e6c1f,0x1f83d9abfb41bd6b,0x5be0cd19137e2179]
def R9 (_:FQ):Bool:=true
def alR (_:FQ):OT ji.Y:=.ok ⟨MZ,((bIV,()),())⟩
theorem axn:ac Tryz.prog 126 (ji.aH R9 alR):=af3 _ _ λx oy _ ho=>ho
def zC:cf:=(ji.aH R9 alR)
theorem aaZ:ac Tryz.prog 126 zC:=axn
theorem aaY:aF zC:=aA
def DH:Env:=ay 126 zC ab6
theorem Af:aQ Tryz.prog DH:=ag aaZ OO
theorem DG:ax DH:=ae aaY OP
theorem ab4:aU Tryz.prog te DH:=aJ follows aq Af DG
def jj:aw:=⟨[],[],true,0,false⟩
abbrev FR:Type:=(Unit)×(Unit)
def M0:az:=⟨[.val true (.arr 10 .str)],[],false⟩
def Sa:SV->Option az:=λ_=>some M0
def V0:OT jj.Y:=
 (.ok ⟨M0,(([[(48:UInt8),(49:UInt8),(50:UInt8),(51:UInt8),(52:UInt8),(53:UInt8),(54:UInt8),(55:UInt8),(56:UInt8),(57:UInt8),(97:UInt8),(98:UInt8),(99:UInt8),(100:UInt8),(101:UInt8),(102:UInt8)],[(101:UInt8),(97:UInt8),(52:UInt8),(56:UInt8),(57:UInt8),(102:UInt8),(100:UInt8),(54:UInt8),(49:UInt8),(99:UInt8),(48:UInt8),(50:UInt8),(98:UInt8),(55:UInt8),(53:UInt8),(51:UInt8)],[(98:UInt8),(56:UInt8),(99:UInt8),(48:UInt8),(53:UInt8),(50:UInt8),(102:UInt8),(100:UInt8),(97:UInt8),(101:UInt8),(51:UInt8),(54:UInt8),(55:UInt8),(49:UInt8),(57:UInt8),(52:UInt8)],[(55:UInt8),(57:UInt8),(51:UInt8),(49:UInt8),(100:UInt8),(99:UInt8),(98:UInt8),(101:UInt8),(50:UInt8),(54:UInt8),(53:UInt8),(97:UInt8),(52:UInt8),(48:UInt8),(102:UInt8),(56:UInt8)],[(57:UInt8),(48:UInt8),(53:UInt8),(55:UInt8),(50:UInt8),(52:UInt8),(97:UInt8),(102:UInt8),(101:UInt8),(49:UInt8),(98:UInt8),(99:UInt8),(54:UInt8),(56:UInt8),(51:UInt8),(100:UInt8)],[(50:UInt8),(99:UInt8),(54:UInt8),(97:UInt8),(48:UInt8),(98:UInt8),(56:UInt8),(51:UInt8),(52:UInt8),(100:UInt8),(55:UInt8),(53:UInt8),(102:UInt8),(101:UInt8),(49:UInt8),(57:UInt8)],[(99:UInt8),(53:UInt8),(49:UInt8),(102:UInt8),(101:UInt8),(100:UInt8),(52:UInt8),(97:UInt8),(48:UInt8),(55:UInt8),(54:UInt8),(51:UInt8),(57:UInt8),(50:UInt8),(56:UInt8),(98:UInt8)],[(100:UInt8),(98:UInt8),(55:UInt8),(101:UInt8),(99:UInt8),(49:UInt8),(51:UInt8),(57:UInt8),(53:UInt8),(48:UInt8),(102:UInt8),(52:UInt8),(56:UInt8),(54:UInt8),(50:UInt8),(97:UInt8)],[(54:UInt8),(102:UInt8),(101:UInt8),(57:UInt8),(98:UInt8),(51:UInt8),(48:UInt8),(56:UInt8),(99:UInt8),(50:UInt8),(100:UInt8),(55:UInt8),(49:UInt8),(52:UInt8),(97:UInt8),(53:UInt8)],[(97:UInt8),(50:UInt8),(56:UInt8),(52:UInt8),(55:UInt8),(54:UInt8),(49:UInt8),(53:UInt8),(102:UInt8),(98:UInt8),(57:UInt8),(101:UInt8),(51:UInt8),(99:UInt8),(100:UInt8),(48:UInt8)]],()),())⟩)
theorem aCM (x:FR) (Q:jj.Y->Prop):wpf te DH av 1000 Tryz.f156 (jj.inp.inj x).tm (jj.inp.inj x).hp (fnK jj Sa Q) (λ_ _=>False)=(V0).wpR Q:=by kernel_rfl
theorem af4 (pre:FR->Bool) (F:FR->OT jj.Y) (hF:∀ (x:FR) oy,pre x=true->(F x).run=some oy->(V0).run=some oy):ac Tryz.prog 156 (jj.aH pre F):=
 aD aq Af ab4 (f:=156) (fn:=Tryz.f156) (c:=aj Tryz.f156) (by kernel_rfl) (by kernel_rfl) (by kernel_rfl) (S:=jj) (k:=0) (by kernel_rfl) (λR hR=>af) (n:=1000) (sel:=Sa) (λv o h=>by cases h;rfl) (pre:=pre) (F:=F) (T:=λx=>V0) (λx Q=>aCM x Q) hF
def gE:List (List UInt8):= [[48,49,50,51,52,53,54,55,56,57,97,98,99,100,101,102],
 [101,97,52,56,57,102,100,54,49,99,48,50,98,55,53,51],
 [98,56,99,48,53,50,102,100,97,101,51,54,55,49,57,52],
 [55,57,51,49,100,99,98,101,50,54,53,97,52,48,102,56],
 [57,48,53,55,50,52,97,102,101,49,98,99,54,56,51,100],
 [50,99,54,97,48,98,56,51,52,100,55,53,102,101,49,57],
 [99,53,49,102,101,100,52,97,48,55,54,51,57,50,56,98],
 [100,98,55,101,99,49,51,57,53,48,102,52,56,54,50,97],
 [54,102,101,57,98,51,48,56,99,50,100,55,49,52,97,53],
 [97,50,56,52,55,54,49,53,102,98,57,101,51,99,100,48]]
def Sb (_:FR):Bool:=true
def alS (_:FR):OT jj.Y:=.ok ⟨M0,((gE,()),())⟩
theorem axo:ac Tryz.prog 156 (jj.aH Sb alS):=af4 _ _ λx oy _ ho=>ho
def zD:cf:=(jj.aH Sb alS)
theorem aa1:ac Tryz.prog 156 zD:=axo
theorem aa0:aF zD:=aA
def DJ:Env:=ay 156 zD DH
theorem Ag:aQ Tryz.prog DJ:=ag aa1 Af
theorem DI:ax DJ:=ae aa0 DG
theorem ab5:aU Tryz.prog te DJ:=aJ follows aq Ag DI
def uE:aw:=⟨[.ptr 0 0 0,.val false .int,.val false .int,.val false .int,.val false .int,.val false .u64,.val false .u64],[(0,.row .u64)],false,1,true⟩
abbrev aqa:Type:=((Unit)×(Int)×(Int)×(Int)×(Int)×(UInt64)×(UInt64)×Unit)×((List (UInt64))×Unit)
def af7:az:=⟨[],[(0,.row .u64)],false⟩
def alZ:SV->Option az:=λ_=>some af7
def axu (a1:Int) (a2:Int) (a3:Int) (a4:Int) (a5:UInt64) (a6:UInt64) (c0:List (UInt64)):OT uE.Y:=
 let z0:Bool:=inB a1 16
 let z1:Nat:=List.length c0
 let z2:Bool:=decide (Int.toNat a1+0<z1)
 let z3:Bool:=inB a2 16
 let z4:Bool:=inB a4 16
 let z5:List UInt64:=List.set c0 (Int.toNat a1+0) (List.getD c0 (Int.toNat a1+0) (0:UInt64)+(List.getD c0 (Int.toNat a2+0) (0:UInt64)+a5))
 let z6:Nat:=List.length z5
 let z7:Bool:=decide (Int.toNat a4+0<z6)
 let z8:Bool:=inB a3 16
 let z9:List UInt64:=List.set z5 (Int.toNat a4+0) (rotl (List.getD z5 (Int.toNat a4+0) (0:UInt64)^^^List.getD z5 (Int.toNat a1+0) (0:UInt64)) (-32:Int))
 let z10:Nat:=List.length z9
 let z11:Bool:=decide (Int.toNat a3+0<z10)
 let z12:List UInt64:=List.set z9 (Int.toNat a3+0) (List.getD z9 (Int.toNat a3+0) (0:UInt64)+List.getD z9 (Int.toNat a4+0) (0:UInt64))
 let z13:Nat:=List.length z12
 let z14:Bool:=decide (Int.toNat a2+0<z13)
 let z15:List UInt64:=List.set z12 (Int.toNat a2+0) (rotl (List.getD z12 (Int.toNat a2+0) (0:UInt64)^^^List.getD z12 (Int.toNat a3+0) (0:UInt64)) (-24:Int))
 let z16:Nat:=List.length z15
 let z17:Bool:=decide (Int.toNat a1+0<z16)
 let z18:List UInt64:=List.set z15 (Int.toNat a1+0) (List.getD z15 (Int.toNat a1+0) (0:UInt64)+(List.getD z15 (Int.toNat a2+0) (0:UInt64)+a6))
 let z19:Nat:=List.length z18
 let z20:Bool:=decide (Int.toNat a4+0<z19)
 let z21:List UInt64:=List.set z18 (Int.toNat a4+0) (rotl (List.getD z18 (Int.toNat a4+0) (0:UInt64)^^^List.getD z18 (Int.toNat a1+0) (0:UInt64)) (-16:Int))
 let z22:Nat:=List.length z21
 let z23:Bool:=decide (Int.toNat a3+0<z22)
 let z24:List UInt64:=List.set z21 (Int.toNat a3+0) (List.getD z21 (Int.toNat a3+0) (0:UInt64)+List.getD z21 (Int.toNat a4+0) (0:UInt64))
 let z25:Nat:=List.length z24
 let z26:Bool:=decide (Int.toNat a2+0<z25)
 (gd [z0,z2,z3,decide (Int.toNat a2+0<z1),z0,z2,z4,z7,z0,decide (Int.toNat a1+0<z6),z4,z7,z8,z11,z4,decide (Int.toNat a4+0<z10),z8,z11,z3,z14,z8,decide (Int.toNat a3+0<z13),z3,z14,z0,z17,z3,decide (Int.toNat a2+0<z16),z0,z17,z4,z20,z0,decide (Int.toNat a1+0<z19),z4,z20,z8,z23,z4,decide (Int.toNat a4+0<z22),z8,z23,z3,z26,z8,decide (Int.toNat a3+0<z25),z3,z26] (.ok ⟨af7,((),(List.set z24 (Int.toNat a2+0) (rotl (List.getD z24 (Int.toNat a2+0) (0:UInt64)^^^List.getD z24 (Int.toNat a3+0) (0:UInt64)) (-63:Int)),()))⟩))
theorem aKk (x:aqa) (Q:uE.Y->Prop):wpf te DJ av 1000 Tryz.f159 (uE.inp.inj x).tm (uE.inp.inj x).hp (fnK uE alZ Q) (λ_ _=>False)=(axu (x.1.2.1) (x.1.2.2.1) (x.1.2.2.2.1) (x.1.2.2.2.2.1) (x.1.2.2.2.2.2.1) (x.1.2.2.2.2.2.2.1) (x.2.1)).wpR Q:=by kernel_rfl
theorem axt (pre:aqa->Bool) (F:aqa->OT uE.Y) (hF:∀ (x:aqa) oy,pre x=true->(F x).run=some oy->(axu (x.1.2.1) (x.1.2.2.1) (x.1.2.2.2.1) (x.1.2.2.2.2.1) (x.1.2.2.2.2.2.1) (x.1.2.2.2.2.2.2.1) (x.2.1)).run=some oy):ac Tryz.prog 159 (uE.aH pre F):=
 aD aq Ag ab5 (f:=159) (fn:=Tryz.f159) (c:=aj Tryz.f159) (by kernel_rfl) (by kernel_rfl) (by kernel_rfl) (S:=uE) (k:=1) (by kernel_rfl) (λR hR=>af) (n:=1000) (sel:=alZ) (λv o h=>by cases h;rfl) (pre:=pre) (F:=F) (T:=λx=>axu (x.1.2.1) (x.1.2.2.1) (x.1.2.2.2.1) (x.1.2.2.2.2.1) (x.1.2.2.2.2.2.1) (x.1.2.2.2.2.2.2.1) (x.2.1)) (λx Q=>aKk x Q) hF
def BW (v:List UInt64) (a b c d:Nat) (x y:UInt64):List UInt64:=
 let v1:=v.set a (v.getD a 0+(v.getD b 0+x))
 let v2:=v1.set d (rotl (v1.getD d 0^^^v1.getD a 0) (-32))
 let v3:=v2.set c (v2.getD c 0+v2.getD d 0)
 let v4:=v3.set b (rotl (v3.getD b 0^^^v3.getD c 0) (-24))
 let v5:=v4.set a (v4.getD a 0+(v4.getD b 0+y))
 let v6:=v5.set d (rotl (v5.getD d 0^^^v5.getD a 0) (-16))
 let v7:=v6.set c (v6.getD c 0+v6.getD d 0)
 v7.set b (rotl (v7.getD b 0^^^v7.getD c 0) (-63))
theorem fR (v:List UInt64) (a b c d:Nat) (x y:UInt64):(BW v a b c d x y).length=v.length:=by
 simp only [BW,List.length_set]
def rA (x:aqa):Bool:=inB x.1.2.1 16&&inB x.1.2.2.1 16&&inB x.1.2.2.2.1 16&&inB x.1.2.2.2.2.1 16&&decide (x.2.1.length=16)
def aEa (x:aqa):OT uE.Y:=.ok ⟨af7,((),(BW x.2.1 x.1.2.1.toNat x.1.2.2.1.toNat x.1.2.2.2.1.toNat x.1.2.2.2.2.1.toNat x.1.2.2.2.2.2.1 x.1.2.2.2.2.2.2.1,()))⟩
theorem aIp:ac Tryz.prog 159 (uE.aH rA aEa):=axt _ _ λx oy hp ho=>by
 rw [<-ho]
 obtain ⟨⟨⟨⟩,a,b,c,d,x,y,⟨⟩⟩,⟨v,⟨⟩⟩⟩:=x
 simp only [rA,Bool.and_eq_true,decide_eq_true_eq] at hp
 obtain ⟨⟨⟨⟨ha,hb⟩,hc⟩,hd⟩,hv⟩:=hp
 have na:=xQ ha
 have nb:=xQ hb
 have nc:=xQ hc
 have nd:=xQ hd
 refine (ah ?_).trans rfl
 simp only [List.length_set,hv,ha,hb,hc,hd,Nat.add_zero,na,nb,nc,nd,decide_true,List.all_cons,List.all_nil,Bool.and_self]
def M8:cf:=(uE.aH rA aEa)
theorem ap9:ac Tryz.prog 159 M8:=aIp
theorem ap8:aF M8:=aA
def ab8:Env:=ay 159 M8 DJ
theorem OR:aQ Tryz.prog ab8:=ag ap9 Ag
theorem OS:ax ab8:=ae ap8 DI
theorem aqC:aU Tryz.prog te ab8:=aJ follows aq OR OS
def Nh:aw:=⟨[.val false .int,.ptr 0 0 0,.ptr 1 0 0],[(0,.row .u64),(1,.cells [.val false .str])],false,2,true⟩
abbrev aIO:Type:=((Int)×(Unit)×(Unit)×Unit)×((List (UInt64))×((List UInt8)×Unit)×Unit)
def axL:az:=⟨[.val false .u64],[(0,.row .u64),(1,.cells [.val false .str])],false⟩
def axK:SV->Option az:=λ_=>some axL
def aIs (a0:Int) (c0:List (UInt64)) (c1_0:List UInt8):OT Nh.Y:=
 let z0:Int:=nib (List.getD c1_0 (Int.toNat a0) (0:UInt8))
 (gd [inB a0 (List.length c1_0),inB z0 16,decide (Int.toNat z0+0<List.length c0)] (.ok ⟨axL,((List.getD c0 (Int.toNat z0+0) (0:UInt64),()),(c0,((c1_0,()),())))⟩))
theorem aLf (x:aIO) (Q:Nh.Y->Prop):wpf te ab8 av 1000 Tryz.f157 (Nh.inp.inj x).tm (Nh.inp.inj x).hp (fnK Nh axK Q) (λ_ _=>False)=(aIs (x.1.1) (x.2.1) (x.2.2.1.1)).wpR Q:=by kernel_rfl
theorem aC8 (pre:aIO->Bool) (F:aIO->OT Nh.Y) (hF:∀ (x:aIO) oy,pre x=true->(F x).run=some oy->(aIs (x.1.1) (x.2.1) (x.2.2.1.1)).run=some oy):ac Tryz.prog 157 (Nh.aH pre F):=
 aD aq OR aqC (f:=157) (fn:=Tryz.f157) (c:=aj Tryz.f157) (by kernel_rfl) (by kernel_rfl) (by kernel_rfl) (S:=Nh) (k:=2) (by kernel_rfl) (λR hR=>af) (n:=1000) (sel:=axK) (λv o h=>by cases h;rfl) (pre:=pre) (F:=F) (T:=λx=>aIs (x.1.1) (x.2.1) (x.2.2.1.1)) (λx Q=>aLf x Q) hF
def atF (m:List UInt64) (row:List UInt8) (i:Int):UInt64:=m.getD (nib (row.getD i.toNat 0)).toNat 0
def rE (x:aIO):Bool:=inB x.1.1 x.2.2.1.1.length&&inB (nib (x.2.2.1.1.getD x.1.1.toNat 0)) 16&&decide (x.2.1.length=16)
def aKm (x:aIO):OT Nh.Y:=.ok ⟨axL,((atF x.2.1 x.2.2.1.1 x.1.1,()),(x.2.1,((x.2.2.1.1,()),())))⟩
theorem aKl:ac Tryz.prog 157 (Nh.aH rE aKm):=aC8 _ _ λx oy hp ho=>by
 rw [<-ho]
 obtain ⟨⟨i,⟨⟩,⟨⟩,⟨⟩⟩,⟨m,⟨row,⟨⟩⟩,⟨⟩⟩⟩:=x
 simp only [rE,Bool.and_eq_true,decide_eq_true_eq] at hp
 obtain ⟨⟨h1,h2⟩,h3⟩:=hp
 have n2:=xQ h2
 refine (ah ?_).trans rfl
 simp only [h1,h2,h3,Nat.add_zero,n2,decide_true,List.all_cons,List.all_nil,Bool.and_self]
def Wb:cf:=(Nh.aH rE aKm)
theorem axM:ac Tryz.prog 157 Wb:=aKl
theorem axJ:aF Wb:=aA
def PI:Env:=ay 157 Wb ab8
theorem nV:aQ Tryz.prog PI:=ag axM OR
theorem SU:ax PI:=ae axJ OS
theorem qi:aU Tryz.prog te PI:=aJ follows aq nV SU
def mK:aw:=⟨[.val true (.arr 8 .u64),.val true (.arr 128 .u8),.val false .u64,.val false .bool],[],true,0,false⟩
abbrev So:Type:=((List (UInt64))×(List (UInt8))×(UInt64)×(Bool)×Unit)×(Unit)
def CE:Shape:=⟨127,[(4,.ptr 0 0 0),(5,.ptr 1 0 0),(8,.ptr 2 0 0),(9,.ptr 3 0 0),(11,.ptr 4 0 0),(37,.val false .int)],[(0,.row .u64),(1,.row .u8),(2,.row .u64),(3,.row .u64),(4,.row .u64)],0,true⟩
abbrev cX:Type:=((Unit)×(Unit)×(Unit)×(Unit)×(Unit)×(Int)×Unit)×((List (UInt64))×(List (UInt8))×(List (UInt64))×(List (UInt64))×(List (UInt64))×Unit)
def xa:Shape:=⟨127,[(4,.ptr 0 0 0),(8,.ptr 1 0 0),(9,.ptr 2 0 0),(11,.ptr 3 0 0)],[(0,.row .u64),(1,.row .u64),(2,.row .u64),(3,.row .u64)],0,true⟩
abbrev mJ:Type:=((Unit)×(Unit)×(Unit)×(Unit)×Unit)×((List (UInt64))×(List (UInt64))×(List (UInt64))×(List (UInt64))×Unit)
def al8:SE->Option Shape:=fp [(0,xa)] none
def aC6 (a37:Int) (c0:List (UInt64)) (c1:List (UInt8)) (c2:List (UInt64)) (c3:List (UInt64)) (c4:List (UInt64)):OT (Sum cX aE):=
 let z0:Bool:=inR ((8:Int)*a37)
 let z1:List UInt8:=List.take (Int.toNat ((8:Int)*a37+(8:Int)-(8:Int)*a37)) (List.drop (Int.toNat ((8:Int)*a37)) c1)
 (.br (decide (a37<(16:Int)))
 (gd [z0,z0,inR ((8:Int)*a37+(8:Int)),decide (128<=List.length c1)&&dw ((8:Int)*a37) ((8:Int)*a37+(8:Int)) 128,mB ((z1,()),()),inB a37 16,decide (Int.toNat a37+0<List.length c4),inR (a37+(1:Int))] (.ok (.inl (((),((),((),((),((),(a37+(1:Int),())))))),(c0,(c1,(c2,(c3,(List.set c4 (Int.toNat a37+0) (kG z1 (List.length z1)),())))))))))
 (.ok (.inr ⟨(.exit 0,xa),(((),((),((),((),())))),(c0,(c2,(c3,(c4,())))))⟩)))
def CJ (s:cX):OT (Sum cX aE):=aC6 (s.1.2.2.2.2.2.1) (s.2.1) (s.2.2.1) (s.2.2.2.1) (s.2.2.2.2.1) (s.2.2.2.2.2.1)
theorem aCV (s:cX) (Q:Sum cX aE->Prop):wps te PI av 1000 (aV (aj Tryz.f146) 0) (CE.inj s) (bV CE al8 (Q:Sum CE.T aE->Prop))=(CJ s).wpR Q:=by kernel_rfl
def Jg (g0_0:cX->mJ) (s:cX):OT aE:=(.ok ⟨(.exit 0,xa),g0_0 s⟩)
def CD:Shape:=⟨127,[(4,.ptr 0 0 0),(8,.ptr 1 0 0),(9,.ptr 2 0 0),(11,.ptr 3 0 0),(13,.ptr 4 0 0),(51,.val false .int)],[(0,.row .u64),(1,.row .u64),(2,.row .u64),(3,.row .u64),(4,.row .str)],0,true⟩
abbrev cW:Type:=((Unit)×(Unit)×(Unit)×(Unit)×(Unit)×(Int)×Unit)×((List (UInt64))×(List (UInt64))×(List (UInt64))×(List (UInt64))×(List (List UInt8))×Unit)
def CC:Shape:=⟨127,[(4,.ptr 0 0 0),(8,.ptr 1 0 0),(9,.ptr 2 0 0),(11,.ptr 3 0 0),(13,.ptr 4 0 0),(16,.fn 157 [3,5]),(51,.val false .int),(59,.val false .int)],[(0,.row .u64),(1,.row .u64),(2,.row .u64),(3,.row .u64),(4,.row .str),(5,.cells [.val false .str])],0,true⟩
abbrev cd:Type:=((Unit)×(Unit)×(Unit)×(Unit)×(Unit)×(Unit)×(Int)×(Int)×Unit)×((List (UInt64))×(List (UInt64))×(List (UInt64))×(List (UInt64))×(List (List UInt8))×((List UInt8)×Unit)×Unit)
def wY:Shape:=⟨127,[(4,.ptr 0 0 0),(8,.ptr 1 0 0),(9,.ptr 2 0 0),(11,.ptr 3 0 0),(13,.ptr 4 0 0),(16,.fn 157 [3,5]),(51,.val false .int)],[(0,.row .u64),(1,.row .u64),(2,.row .u64),(3,.row .u64),(4,.row .str),(5,.cells [.val false .str])],0,true⟩
abbrev fV:Type:=((Unit)×(Unit)×(Unit)×(Unit)×(Unit)×(Unit)×(Int)×Unit)×((List (UInt64))×(List (UInt64))×(List (UInt64))×(List (UInt64))×(List (List UInt8))×((List UInt8)×Unit)×Unit)
def al6:SE->Option Shape:=fp [(4,wY)] none
def aC4 (a51:Int) (a59:Int) (c0:List (UInt64)) (c1:List (UInt64)) (c2:List (UInt64)) (c3:List (UInt64)) (c4:List (List UInt8)) (c5_0:List UInt8):OT (Sum cd aE):=
 let z0:Bool:=inR ((2:Int)*a59)
 let z1:PUnit×PUnit×PUnit:=((),(),())
 let z2:List UInt64×(List UInt8×PUnit)×PUnit:=(c3,(c5_0,()),())
 let z3:UInt64:=atF c3 c5_0 ((2:Int)*a59)
 let z4:UInt64:=atF c3 c5_0 ((2:Int)*a59+(1:Int))
 (.br (decide (a59<(4:Int)))
 (gd [inR ((4:Int)+a59),inR ((8:Int)+a59),inR ((12:Int)+a59),z0,rE (((2:Int)*a59,z1),z2),z0,inR ((2:Int)*a59+(1:Int)),rE (((2:Int)*a59+(1:Int),z1),z2),rA (((),a59,(4:Int)+a59,(8:Int)+a59,(12:Int)+a59,z3,z4,()),c2,()),inR (a59+(1:Int))] (.ok (.inl (((),((),((),((),((),((),(a51,(a59+(1:Int),())))))))),(c0,(c1,(BW c2 (Int.toNat a59) (Int.toNat ((4:Int)+a59)) (Int.toNat ((8:Int)+a59)) (Int.toNat ((12:Int)+a59)) z3 z4,(c3,(c4,((c5_0,()),()))))))))))
 (.ok (.inr ⟨(.exit 4,wY),(((),((),((),((),((),((),(a51,()))))))),(c0,(c1,(c2,(c3,(c4,((c5_0,()),())))))))⟩)))
def CH (s:cd):OT (Sum cd aE):=aC4 (s.1.2.2.2.2.2.2.1) (s.1.2.2.2.2.2.2.2.1) (s.2.1) (s.2.2.1) (s.2.2.2.1) (s.2.2.2.2.1) (s.2.2.2.2.2.1) (s.2.2.2.2.2.2.1.1)
theorem aCT (s:cd) (Q:Sum cd aE->Prop):wps te PI av 1000 (aV (aV (aj Tryz.f146) 2) 4) (CC.inj s) (bV CC al6 (Q:Sum CC.T aE->Prop))=(CH s).wpR Q:=by kernel_rfl
def Je (g4_4:cd->fV) (s:cd):OT aE:=(.ok ⟨(.exit 4,wY),g4_4 s⟩)
def CB:Shape:=⟨127,[(4,.ptr 0 0 0),(8,.ptr 1 0 0),(9,.ptr 2 0 0),(11,.ptr 3 0 0),(13,.ptr 4 0 0),(16,.fn 157 [3,5]),(51,.val false .int),(80,.val false .int)],[(0,.row .u64),(1,.row .u64),(2,.row .u64),(3,.row .u64),(4,.row .str),(5,.cells [.val false .str])],0,true⟩
abbrev cc:Type:=((Unit)×(Unit)×(Unit)×(Unit)×(Unit)×(Unit)×(Int)×(Int)×Unit)×((List (UInt64))×(List (UInt64))×(List (UInt64))×(List (UInt64))×(List (List UInt8))×((List UInt8)×Unit)×Unit)
def wX:Shape:=⟨127,[(4,.ptr 0 0 0),(8,.ptr 1 0 0),(9,.ptr 2 0 0),(11,.ptr 3 0 0),(13,.ptr 4 0 0),(51,.val false .int)],[(0,.row .u64),(1,.row .u64),(2,.row .u64),(3,.row .u64),(4,.row .str)],0,true⟩
abbrev fU:Type:=((Unit)×(Unit)×(Unit)×(Unit)×(Unit)×(Int)×Unit)×((List (UInt64))×(List (UInt64))×(List (UInt64))×(List (UInt64))×(List (List UInt8))×Unit)
def al5:SE->Option Shape:=fp [(6,wX)] none
def aC3 (a51:Int) (a80:Int) (c0:List (UInt64)) (c1:List (UInt64)) (c2:List (UInt64)) (c3:List (UInt64)) (c4:List (List UInt8)) (c5_0:List UInt8):OT (Sum cc aE):=
 let z0:Bool:=inR (a80+(1:Int))
 let z1:Int:=(4:Int)+Int.tmod (a80+(1:Int)) (4:Int)
 let z2:Int:=(8:Int)+Int.tmod (a80+(2:Int)) (4:Int)
 let z3:Int:=(12:Int)+Int.tmod (a80+(3:Int)) (4:Int)
 let z4:Bool:=inR ((2:Int)*a80)
 let z5:PUnit×PUnit×PUnit:=((),(),())
 let z6:List UInt64×(List UInt8×PUnit)×PUnit:=(c3,(c5_0,()),())
 let z7:UInt64:=atF c3 c5_0 ((8:Int)+(2:Int)*a80)
 let z8:UInt64:=atF c3 c5_0 ((9:Int)+(2:Int)*a80)
 (.br (decide (a80<(4:Int)))
 (gd [z0,inR z1,inR (a80+(2:Int)),inR z2,inR (a80+(3:Int)),inR z3,z4,inR ((8:Int)+(2:Int)*a80),rE (((8:Int)+(2:Int)*a80,z5),z6),z4,inR ((9:Int)+(2:Int)*a80),rE (((9:Int)+(2:Int)*a80,z5),z6),rA (((),a80,z1,z2,z3,z7,z8,()),c2,()),z0] (.ok (.inl (((),((),((),((),((),((),(a51,(a80+(1:Int),())))))))),(c0,(c1,(BW c2 (Int.toNat a80) (Int.toNat z1) (Int.toNat z2) (Int.toNat z3) z7 z8,(c3,(c4,((c5_0,()),()))))))))))
 (.ok (.inr ⟨(.exit 6,wX),(((),((),((),((),((),(a51,())))))),(c0,(c1,(c2,(c3,(c4,()))))))⟩)))
def CG (s:cc):OT (Sum cc aE):=aC3 (s.1.2.2.2.2.2.2.1) (s.1.2.2.2.2.2.2.2.1) (s.2.1) (s.2.2.1) (s.2.2.2.1) (s.2.2.2.2.1) (s.2.2.2.2.2.1) (s.2.2.2.2.2.2.1.1)
theorem aCS (s:cc) (Q:Sum cc aE->Prop):wps te PI av 1000 (aV (aV (aj Tryz.f146) 2) 6) (CB.inj s) (bV CB al5 (Q:Sum CB.T aE->Prop))=(CG s).wpR Q:=by kernel_rfl
def Jd (g6_6:cc->fU) (s:cc):OT aE:=(.ok ⟨(.exit 6,wX),g6_6 s⟩)
def wZ:Shape:=⟨127,[(4,.ptr 0 0 0),(8,.ptr 1 0 0),(9,.ptr 2 0 0)],[(0,.row .u64),(1,.row .u64),(2,.row .u64)],0,true⟩
abbrev mI:Type:=((Unit)×(Unit)×(Unit)×Unit)×((List (UInt64))×(List (UInt64))×(List (UInt64))×Unit)
def al7:SE->Option Shape:=fp [(2,wZ)] none
def aC5 (ok4:cd->Bool) (g4_4:cd->fV) (ok6:cc->Bool) (g6_6:cc->fU) (a51:Int) (c0:List (UInt64)) (c1:List (UInt64)) (c2:List (UInt64)) (c3:List (UInt64)) (c4:List (List UInt8)):OT (Sum cW aE):=
 let z0:Int:=Int.tmod a51 (10:Int)
 let z1:(PUnit×PUnit×PUnit×PUnit×PUnit×PUnit×Int×Int×PUnit)×List UInt64×List UInt64×List UInt64×List UInt64×List (List UInt8)×(List UInt8×PUnit)×PUnit:=(((),(),(),(),(),(),a51,(0:Int),()),c0,c1,c2,c3,c4,(List.getD c4 (Int.toNat z0+0) [],()),())
 let z2:(PUnit×PUnit×PUnit×PUnit×PUnit×PUnit×Int×PUnit)×List UInt64×List UInt64×List UInt64×List UInt64×List (List UInt8)×(List UInt8×PUnit)×PUnit:=g4_4 z1
 let z3:=z2.snd
 let z4:=z3.snd
 let z5:=z4.snd
 let z6:=z5.snd
 let z7:=z6.snd
 let z8:(PUnit×PUnit×PUnit×PUnit×PUnit×PUnit×Int×Int×PUnit)×List UInt64×List UInt64×List UInt64×List UInt64×List (List UInt8)×(List UInt8×PUnit)×PUnit:=(((),(),(),(),(),(),z2.fst.snd.snd.snd.snd.snd.snd.fst,(0:Int),()),z3.fst,z4.fst,z5.fst,z6.fst,z7.fst,(z7.snd.fst.fst,()),())
 let z9:(PUnit×PUnit×PUnit×PUnit×PUnit×Int×PUnit)×List UInt64×List UInt64×List UInt64×List UInt64×List (List UInt8)×PUnit:=g6_6 z8
 let z10:=z9.snd
 let z11:=z10.snd
 let z12:=z11.snd
 let z13:=z12.snd
 (.br (decide (a51<(12:Int)))
 (gd [inB z0 10,decide (Int.toNat z0+0<List.length c4),ok4 z1,ok6 z8,inR (z9.fst.snd.snd.snd.snd.snd.fst+(1:Int))] (.ok (.inl (((),((),((),((),((),(z9.fst.snd.snd.snd.snd.snd.fst+(1:Int),())))))),(z10.fst,(z11.fst,(z12.fst,(z13.fst,(z13.snd.fst,())))))))))
 (.ok (.inr ⟨(.exit 2,wZ),(((),((),((),()))),(c0,(c1,(c2,()))))⟩)))
def CI (ok4:cd->Bool) (g4_4:cd->fV) (ok6:cc->Bool) (g6_6:cc->fU) (s:cW):OT (Sum cW aE):=aC5 ok4 g4_4 ok6 g6_6 (s.1.2.2.2.2.2.1) (s.2.1) (s.2.2.1) (s.2.2.2.1) (s.2.2.2.2.1) (s.2.2.2.2.2.1)
theorem aCU (ok4:cd->Bool) (g4_4:cd->fV) (ok6:cc->Bool) (g6_6:cc->fU) (s:cW) (Q:Sum cW aE->Prop):wps te PI (aO 6 (cb CB 6 ok6 (Jd g6_6)) (aO 4 (cb CC 4 ok4 (Je g4_4)) av)) 1000 (aV (aj Tryz.f146) 2) (CD.inj s) (bV CD al7 (Q:Sum CD.T aE->Prop))=(CI ok4 g4_4 ok6 g6_6 s).wpR Q:=by kernel_rfl
def Jf (g2_2:cW->mI) (s:cW):OT aE:=(.ok ⟨(.exit 2,wZ),g2_2 s⟩)
def CA:Shape:=⟨127,[(4,.ptr 0 0 0),(8,.ptr 1 0 0),(9,.ptr 2 0 0),(109,.val false .int)],[(0,.row .u64),(1,.row .u64),(2,.row .u64)],0,true⟩
abbrev cV:Type:=((Unit)×(Unit)×(Unit)×(Int)×Unit)×((List (UInt64))×(List (UInt64))×(List (UInt64))×Unit)
def wW:Shape:=⟨127,[(4,.ptr 0 0 0),(8,.ptr 1 0 0)],[(0,.row .u64),(1,.row .u64)],0,true⟩
abbrev mH:Type:=((Unit)×(Unit)×Unit)×((List (UInt64))×(List (UInt64))×Unit)
def al4:SE->Option Shape:=fp [(8,wW)] none
def aC2 (a109:Int) (c0:List (UInt64)) (c1:List (UInt64)) (c2:List (UInt64)):OT (Sum cV aE):=
 let z0:Bool:=inB a109 8
 let z1:Bool:=decide (Int.toNat a109+0<List.length c0)
 let z2:Nat:=List.length c2
 (.br (decide (a109<(8:Int)))
 (gd [z0,z1,inB a109 16,decide (Int.toNat a109+0<z2),inR (a109+(8:Int)),inB (a109+(8:Int)) 16,decide (Int.toNat (a109+(8:Int))+0<z2),z0,z1,inR (a109+(1:Int))] (.ok (.inl (((),((),((),(a109+(1:Int),())))),(List.set c0 (Int.toNat a109+0) (List.getD c0 (Int.toNat a109+0) (0:UInt64)^^^(List.getD c2 (Int.toNat a109+0) (0:UInt64)^^^List.getD c2 (Int.toNat (a109+(8:Int))+0) (0:UInt64))),(c1,(c2,())))))))
 (.ok (.inr ⟨(.exit 8,wW),(((),((),())),(c0,(c1,())))⟩)))
def CF (s:cV):OT (Sum cV aE):=aC2 (s.1.2.2.2.1) (s.2.1) (s.2.2.1) (s.2.2.2.1)
theorem aCR (s:cV) (Q:Sum cV aE->Prop):wps te PI av 1000 (aV (aj Tryz.f146) 8) (CA.inj s) (bV CA al4 (Q:Sum CA.T aE->Prop))=(CF s).wpR Q:=by kernel_rfl
def Jc (g8_8:cV->mH) (s:cV):OT aE:=(.ok ⟨(.exit 8,wW),g8_8 s⟩)
def Jb:az:=⟨[.val true (.arr 8 .u64)],[],false⟩
def abo:SV->Option az:=λ_=>some Jb
def agl (ok0:cX->Bool) (g0_0:cX->mJ) (ok4:cd->Bool) (g4_4:cd->fV) (ok6:cc->Bool) (g6_6:cc->fU) (ok2:cW->Bool) (g2_2:cW->mI) (ok8:cV->Bool) (g8_8:cV->mH) (a0:List (UInt64)) (a1:List (UInt8)) (a2:UInt64) (a3:Bool):OT mK.Y:=
 let z0:PUnit×PUnit×PUnit×PUnit×PUnit×Int×PUnit:=((),(),(),(),(),(0:Int),())
 let z1:List UInt64:=tab a0 8 (0:UInt64)
 let z2:List UInt8:=tab a1 128 (0:UInt8)
 let z3:List UInt64:= []++(List.take 8 z1++List.drop (0+min (List.length z1) 8) [(0:UInt64),(0:UInt64),(0:UInt64),(0:UInt64),(0:UInt64),(0:UInt64),(0:UInt64),(0:UInt64),(0:UInt64),(0:UInt64),(0:UInt64),(0:UInt64),(0:UInt64),(0:UInt64),(0:UInt64),(0:UInt64)])
 let z4:List UInt64:=List.take 8 z3++([(7640891576956012808:UInt64),(13503953896175478587:UInt64),(4354685564936845355:UInt64),(11912009170470909681:UInt64),(5840696475078001361:UInt64),(11170449401992604703:UInt64),(2270897969802886507:UInt64),(6620516959819538809:UInt64)]++List.drop 16 z3)
 let z5:List UInt64:=List.set z4 12 (List.getD z4 12 0^^^a2)
 let z6:List UInt64×PUnit:=([(0:UInt64),(0:UInt64),(0:UInt64),(0:UInt64),(0:UInt64),(0:UInt64),(0:UInt64),(0:UInt64),(0:UInt64),(0:UInt64),(0:UInt64),(0:UInt64),(0:UInt64),(0:UInt64),(0:UInt64),(0:UInt64)],())
 let z7:(PUnit×PUnit×PUnit×PUnit×PUnit×Int×PUnit)×List UInt64×List UInt8×List UInt64×List UInt64×List UInt64×PUnit:=(z0,z1,z2,[(0:UInt64),(0:UInt64),(0:UInt64),(0:UInt64),(0:UInt64),(0:UInt64),(0:UInt64),(0:UInt64)],List.set z5 14 (~~~List.getD z5 14 0),z6)
 let z8:PUnit×PUnit×PUnit×PUnit×PUnit×Int×PUnit:=((),(),(),(),(),(0:Int),())
 let z9:=(g0_0 z7).snd
 let z10:=z9.snd
 let z11:=z10.snd
 let z12:List (List UInt8)×PUnit:=([List.getD gE 0 [],List.getD gE 1 [],List.getD gE 2 [],List.getD gE 3 [],List.getD gE 4 [],List.getD gE 5 [],List.getD gE 6 [],List.getD gE 7 [],List.getD gE 8 [],List.getD gE 9 []],())
 let z13:(PUnit×PUnit×PUnit×PUnit×PUnit×Int×PUnit)×List UInt64×List UInt64×List UInt64×List UInt64×List (List UInt8)×PUnit:=(z8,z9.fst,z10.fst,z11.fst,z11.snd.fst,z12)
 let z14:PUnit×PUnit×PUnit×Int×PUnit:=((),(),(),(0:Int),())
 let z15:=(g2_2 z13).snd
 let z16:=z15.snd
 let z17:(PUnit×PUnit×PUnit×Int×PUnit)×List UInt64×List UInt64×List UInt64×PUnit:=(z14,z15.fst,z16.fst,z16.snd.fst,())
 let z18:=(g8_8 z17).snd
 let z19:=z18.fst
 let z20:=z18.snd.fst
 let z21:List UInt64:=lay z20 z19 8 (0:UInt64)
 let z22:(PUnit×PUnit×PUnit×PUnit×PUnit×Int×PUnit)×List UInt64×List UInt8×List UInt64×List UInt64×List UInt64×PUnit:=(z0,z1,z2,[(0:UInt64),(0:UInt64),(0:UInt64),(0:UInt64),(0:UInt64),(0:UInt64),(0:UInt64),(0:UInt64)],z5,z6)
 let z23:=(g0_0 z22).snd
 let z24:=z23.snd
 let z25:=z24.snd
 let z26:(PUnit×PUnit×PUnit×PUnit×PUnit×Int×PUnit)×List UInt64×List UInt64×List UInt64×List UInt64×List (List UInt8)×PUnit:=(z8,z23.fst,z24.fst,z25.fst,z25.snd.fst,z12)
 let z27:=(g2_2 z26).snd
 let z28:=z27.snd
 let z29:(PUnit×PUnit×PUnit×Int×PUnit)×List UInt64×List UInt64×List UInt64×PUnit:=(z14,z27.fst,z28.fst,z28.snd.fst,())
 let z30:=(g8_8 z29).snd
 let z31:=z30.fst
 let z32:=z30.snd.fst
 let z33:List UInt64:=lay z32 z31 8 (0:UInt64)
 (.br (a3)
 (gd [ok0 z7,ok2 z13,ok8 z17,decide (8<=List.length z19),decide ((8/1:Nat)+0<=List.length z20),decide (8<=List.length z21)] (.ok ⟨Jb,((tab z21 8 (0:UInt64),()),())⟩))
 (gd [ok0 z22,ok2 z26,ok8 z29,decide (8<=List.length z31),decide ((8/1:Nat)+0<=List.length z32),decide (8<=List.length z33)] (.ok ⟨Jb,((tab z33 8 (0:UInt64),()),())⟩)))
theorem aIr (ok0:cX->Bool) (g0_0:cX->mJ) (ok4:cd->Bool) (g4_4:cd->fV) (ok6:cc->Bool) (g6_6:cc->fU) (ok2:cW->Bool) (g2_2:cW->mI) (ok8:cV->Bool) (g8_8:cV->mH) (x:So) (Q:mK.Y->Prop):wpf te PI (aO 8 (cb CA 8 ok8 (Jc g8_8)) (aO 2 (cb CD 2 ok2 (Jf g2_2)) (aO 0 (cb CE 0 ok0 (Jg g0_0)) av))) 1000 Tryz.f146 (mK.inp.inj x).tm (mK.inp.inj x).hp (fnK mK abo Q) (λ_ _=>False)=(agl ok0 g0_0 ok4 g4_4 ok6 g6_6 ok2 g2_2 ok8 g8_8 (x.1.1) (x.1.2.1) (x.1.2.2.1) (x.1.2.2.2.1)).wpR Q:=by kernel_rfl
theorem aqd (ok0:cX->Bool) (g0_0:cX->mJ) (ok4:cd->Bool) (g4_4:cd->fV) (ok6:cc->Bool) (g6_6:cc->fU) (ok2:cW->Bool) (g2_2:cW->mI) (ok8:cV->Bool) (g8_8:cV->mH) (h0:∀ s:cX,ok0 s=true->∃ m e,al (CJ) m s=some e/\(Jg g0_0 s).run=some e) (h4:∀ s:cd,ok4 s=true->∃ m e,al (CH) m s=some e/\(Je g4_4 s).run=some e) (h6:∀ s:cc,ok6 s=true->∃ m e,al (CG) m s=some e/\(Jd g6_6 s).run=some e) (h2:∀ s:cW,ok2 s=true->∃ m e,al (CI ok4 g4_4 ok6 g6_6) m s=some e/\(Jf g2_2 s).run=some e) (h8:∀ s:cV,ok8 s=true->∃ m e,al (CF) m s=some e/\(Jc g8_8 s).run=some e) (pre:So->Bool) (F:So->OT mK.Y) (hF:∀ (x:So) oy,pre x=true->(F x).run=some oy->(agl ok0 g0_0 ok4 g4_4 ok6 g6_6 ok2 g2_2 ok8 g8_8 (x.1.1) (x.1.2.1) (x.1.2.2.1) (x.1.2.2.2.1)).run=some oy):ac Tryz.prog 146 (mK.aH pre F):=
 aD aq nV qi (f:=146) (fn:=Tryz.f146) (c:=aj Tryz.f146) (by kernel_rfl) (by kernel_rfl) (by kernel_rfl) (S:=mK) (k:=0) (by kernel_rfl) (λR hR=>(aB (c:=(aj Tryz.f146)) (by kernel_rfl) (id:=8) (by kernel_rfl) (aS aq nV qi (sh:=CA) hR (xs:=al4) (aC (by kernel_rfl) (by kernel_rfl) hR) aK af (n:=1000) (T:=CF) (λs Q=>aCR s Q) (ok:=ok8) (f:=Jc g8_8) h8) (aB (c:=(aj Tryz.f146)) (by kernel_rfl) (id:=2) (by kernel_rfl) (aS aq nV qi (sh:=CD) hR (xs:=al7) (aC (by kernel_rfl) (by kernel_rfl) hR) aK (aB (c:=(aV (aj Tryz.f146) 2)) (by kernel_rfl) (id:=6) (by kernel_rfl) (aS aq nV qi (sh:=CB) hR (xs:=al5) (aC (by kernel_rfl) (by kernel_rfl) hR) aK af (n:=1000) (T:=CG) (λs Q=>aCS s Q) (ok:=ok6) (f:=Jd g6_6) h6) (aB (c:=(aV (aj Tryz.f146) 2)) (by kernel_rfl) (id:=4) (by kernel_rfl) (aS aq nV qi (sh:=CC) hR (xs:=al6) (aC (by kernel_rfl) (by kernel_rfl) hR) aK af (n:=1000) (T:=CH) (λs Q=>aCT s Q) (ok:=ok4) (f:=Je g4_4) h4) af)) (n:=1000) (T:=CI ok4 g4_4 ok6 g6_6) (λs Q=>aCU ok4 g4_4 ok6 g6_6 s Q) (ok:=ok2) (f:=Jf g2_2) h2) (aB (c:=(aj Tryz.f146)) (by kernel_rfl) (id:=0) (by kernel_rfl) (aS aq nV qi (sh:=CE) hR (xs:=al8) (aC (by kernel_rfl) (by kernel_rfl) hR) aK af (n:=1000) (T:=CJ) (λs Q=>aCV s Q) (ok:=ok0) (f:=Jg g0_0) h0) af)))) (n:=1000) (sel:=abo) (λv o h=>by cases h;rfl) (pre:=pre) (F:=F) (T:=λx=>agl ok0 g0_0 ok4 g4_4 ok6 g6_6 ok2 g2_2 ok8 g8_8 (x.1.1) (x.1.2.1) (x.1.2.2.1) (x.1.2.2.2.1)) (λx Q=>aIr ok0 g0_0 ok4 g4_4 ok6 g6_6 ok2 g2_2 ok8 g8_8 x Q) hF
def aqU (b:List UInt8) (i:Nat):UInt64:=kG ((b.drop (8*i)).take 8) 8
def qn (b:List UInt8):List UInt64:=upto (λk m=>m.set k (aqU b k)) (List.replicate 16 0) 16
def Tn (row:List UInt8):Bool:=decide (row.length=16)&&(List.range 16).all λi=>inB (nib (row.getD i 0)) 16
theorem asS {row:List UInt8} (h:Tn row=true) {i:Nat} (hi:i<16):inB (nib (row.getD i 0)) 16=true:=by
 simp only [Tn,Bool.and_eq_true,List.all_eq_true] at h
 exact h.2 i (by simpa using hi)
theorem xb {m:List UInt64} {row:List UInt8} (hm:m.length=16) (hr:Tn row=true) {i:Int} (h0:0<=i) (h1:i<16) (u:Unit×Unit×Unit) (u2:Unit) (u3:Unit):rE ((i,u),(m,((row,u2),u3)))=true:=by
 have hl:row.length=16:=by
  simp only [Tn,Bool.and_eq_true,decide_eq_true_eq] at hr
  exact hr.1
 have:=asS hr (i:=i.toNat) (by omega)
 simp only [rE,Bool.and_eq_true,decide_eq_true_eq]
 exact ⟨⟨aN (by omega),this⟩,hm⟩
theorem M9 {v:List UInt64} (hv:v.length=16) {a b c d:Int} (ha:0<=a/\a<16) (hb:0<=b/\b<16) (hc:0<=c/\c<16) (hd:0<=d/\d<16) (x y:UInt64) (u1 u2 u3:Unit):rA ((u1,a,b,c,d,x,y,u2),(v,u3))=true:=by
 simp only [rA,Bool.and_eq_true,decide_eq_true_eq]
 exact ⟨⟨⟨⟨aN ha,aN hb⟩,aN hc⟩,aN hd⟩,hv⟩
def Ng (s:cX):Bool:=decide (s.1.2.2.2.2.2.1=0/\s.2.2.1.length=128/\s.2.2.2.2.2.1=List.replicate 16 0)
def wV (s:cX):mJ:=(((),(),(),(),()),(s.2.1,s.2.2.2.1,s.2.2.2.2.1,qn s.2.2.1,()))
theorem aC1:∀ s:cX,Ng s=true->∃ m e,al CJ m s=some e/\(Jg wV s).run=some e:=by
 rintro ⟨⟨⟨⟩,⟨⟩,⟨⟩,⟨⟩,⟨⟩,i,⟨⟩⟩,⟨c0,c1,c2,c3,c4,⟨⟩⟩⟩ h
 have h':=of_decide_eq_true h
 dsimp only at h'
 obtain ⟨rfl,hl,rfl⟩:=h'
 have:=(aP (T:=CJ) (λk m=>((((),(),(),(),(),(k:Int),()),(c0,c1,c2,c3,m,())):cX)) (λk m=>m.set k (aqU c1 k))
  (λm=>(⟨(.exit 0,xa),(((),(),(),(),()),(c0,c2,c3,m,()))⟩:aE)) 16 (List.replicate 16 0) (λ_ m=>m.length=16) (by simp) (λk m hk hm=>⟨?_,by rw [List.length_set];exact hm⟩) (λm hm=> ?_)).1
 ·obtain ⟨n,hn⟩:=this
  exact ⟨n,_,hn,rfl⟩
 ·have e1:(8*(k:Int)+8-8*(k:Int)).toNat=8:=by omega
  have e2:(8*(k:Int)).toNat=8*k:=by omega
  have hw:((c1.drop (8*k)).take 8).length=8:=by simp;omega
  refine (OT.ap (decide_eq_true (by dsimp only;omega))).trans ((ah ?_).trans ?_)
  ·simp only [e1,e2,hl,hm,List.all_cons,List.all_nil,Bool.and_true,Bool.and_eq_true]
   refine ⟨aI (by omega),aI (by omega),aI (by omega),⟨by decide,gx (by omega)⟩,?_,aN (by omega),decide_eq_true (by omega),aI (by omega)⟩
   simp only [mB,hw]
   decide
  ·simp only [OT.cK,e1,e2,hw,Nat.add_zero]
   rfl
 ·exact OT.ar (decide_eq_false (by dsimp only;omega))
def ZK (m:List UInt64) (row:List UInt8) (v:List UInt64):List UInt64:=upto (λk v=>BW v k (4+k) (8+k) (12+k) (atF m row (2*(k:Int))) (atF m row (2*(k:Int)+1))) v 4
def ZJ (m:List UInt64) (row:List UInt8) (v:List UInt64):List UInt64:=upto (λk v=>BW v k (4+(k+1)%4) (8+(k+2)%4) (12+(k+3)%4) (atF m row (8+2*(k:Int))) (atF m row (9+2*(k:Int)))) v 4
theorem nA (m:List UInt64) (row:List UInt8) (v:List UInt64):(ZK m row v).length=v.length:=by simp only [ZK,upto,fR]
theorem tI (m:List UInt64) (row:List UInt8) (v:List UInt64):(ZJ m row v).length=v.length:=by simp only [ZJ,upto,fR]
def pP (s:cd):Bool:=decide (s.1.2.2.2.2.2.2.2.1=0/\s.2.2.2.1.length=16/\s.2.2.2.2.1.length=16)&&Tn s.2.2.2.2.2.2.1.1
def rD (s:cd):fV:=(((),(),(),(),(),(),s.1.2.2.2.2.2.2.1,()),(s.2.1,s.2.2.1,ZK s.2.2.2.2.1 s.2.2.2.2.2.2.1.1 s.2.2.2.1,s.2.2.2.2.1,s.2.2.2.2.2.1,(s.2.2.2.2.2.2.1.1,()),()))
theorem aCZ:∀ s:cd,pP s=true->∃ m e,al CH m s=some e/\(Je rD s).run=some e:=by
 rintro ⟨⟨⟨⟩,⟨⟩,⟨⟩,⟨⟩,⟨⟩,⟨⟩,r,i,⟨⟩⟩,⟨c0,c1,v,m,c4,⟨row,⟨⟩⟩,⟨⟩⟩⟩ h
 simp only [pP,Bool.and_eq_true,decide_eq_true_eq] at h
 obtain ⟨⟨rfl,hv,hm⟩,hr⟩:=h
 have:=(aP (T:=CH) (λk v=>((((),(),(),(),(),(),r,(k:Int),()),(c0,c1,v,m,c4,(row,()),())):cd)) (λk v=>BW v k (4+k) (8+k) (12+k) (atF m row (2*(k:Int))) (atF m row (2*(k:Int)+1)))
  (λv=>(⟨(.exit 4,wY),(((),(),(),(),(),(),r,()),(c0,c1,v,m,c4,(row,()),()))⟩:aE)) 4 v (λ_ v=>v.length=16) hv (λk v hk hv=>⟨?_,by rw [fR];exact hv⟩) (λv hv=> ?_)).1
 ·obtain ⟨n,hn⟩:=this
  exact ⟨n,_,hn,rfl⟩
 ·have e1:(4+(k:Int)).toNat=4+k:=by omega
  have e2:(8+(k:Int)).toNat=8+k:=by omega
  have e3:(12+(k:Int)).toNat=12+k:=by omega
  refine (OT.ap (decide_eq_true (by dsimp only;omega))).trans ((ah ?_).trans ?_)
  ·simp only [List.all_cons,List.all_nil,Bool.and_true,Bool.and_eq_true]
   exact ⟨aI (by omega),aI (by omega),aI (by omega),aI (by omega),xb hm hr (by omega) (by omega) _ _ _,aI (by omega),aI (by omega),xb hm hr (by omega) (by omega) _ _ _,M9 hv (by omega) (by omega) (by omega) (by omega) _ _ _ _ _,aI (by omega)⟩
  ·simp only [OT.cK,e1,e2,e3]
   rfl
 ·exact OT.ar (decide_eq_false (by dsimp only;omega))
def pO (s:cc):Bool:=decide (s.1.2.2.2.2.2.2.2.1=0/\s.2.2.2.1.length=16/\s.2.2.2.2.1.length=16)&&Tn s.2.2.2.2.2.2.1.1
def wT (s:cc):fU:=(((),(),(),(),(),s.1.2.2.2.2.2.2.1,()),(s.2.1,s.2.2.1,ZJ s.2.2.2.2.1 s.2.2.2.2.2.2.1.1 s.2.2.2.1,s.2.2.2.2.1,s.2.2.2.2.2.1,()))
theorem aCY:∀ s:cc,pO s=true->∃ m e,al CG m s=some e/\(Jd wT s).run=some e:=by
 rintro ⟨⟨⟨⟩,⟨⟩,⟨⟩,⟨⟩,⟨⟩,⟨⟩,r,i,⟨⟩⟩,⟨c0,c1,v,m,c4,⟨row,⟨⟩⟩,⟨⟩⟩⟩ h
 simp only [pO,Bool.and_eq_true,decide_eq_true_eq] at h
 obtain ⟨⟨rfl,hv,hm⟩,hr⟩:=h
 have:=(aP (T:=CG) (λk v=>((((),(),(),(),(),(),r,(k:Int),()),(c0,c1,v,m,c4,(row,()),())):cc)) (λk v=>BW v k (4+(k+1)%4) (8+(k+2)%4) (12+(k+3)%4) (atF m row (8+2*(k:Int))) (atF m row (9+2*(k:Int))))
  (λv=>(⟨(.exit 6,wX),(((),(),(),(),(),r,()),(c0,c1,v,m,c4,()))⟩:aE)) 4 v (λ_ v=>v.length=16) hv (λk v hk hv=>⟨?_,by rw [fR];exact hv⟩) (λv hv=> ?_)).1
 ·obtain ⟨n,hn⟩:=this
  exact ⟨n,_,hn,rfl⟩
 ·have t1:Int.tmod ((k:Int)+1) 4=(((k+1)%4:Nat):Int):=by rw [Int.tmod_eq_emod_of_nonneg (by omega)];omega
  have t2:Int.tmod ((k:Int)+2) 4=(((k+2)%4:Nat):Int):=by rw [Int.tmod_eq_emod_of_nonneg (by omega)];omega
  have t3:Int.tmod ((k:Int)+3) 4=(((k+3)%4:Nat):Int):=by rw [Int.tmod_eq_emod_of_nonneg (by omega)];omega
  have e1:(4+(((k+1)%4:Nat):Int)).toNat=4+(k+1)%4:=by omega
  have e2:(8+(((k+2)%4:Nat):Int)).toNat=8+(k+2)%4:=by omega
  have e3:(12+(((k+3)%4:Nat):Int)).toNat=12+(k+3)%4:=by omega
  refine (OT.ap (decide_eq_true (by dsimp only;omega))).trans ((ah ?_).trans ?_)
  ·simp only [t1,t2,t3,List.all_cons,List.all_nil,Bool.and_true,Bool.and_eq_true]
   exact ⟨aI (by omega),aI (by omega),aI (by omega),aI (by omega),aI (by omega),aI (by omega),aI (by omega),aI (by omega),xb hm hr (by omega) (by omega) _ _ _,aI (by omega),aI (by omega),xb hm hr (by omega) (by omega) _ _ _,M9 hv (by omega) (by omega) (by omega) (by omega) _ _ _ _ _,aI (by omega)⟩
  ·simp only [OT.cK,t1,t2,t3,e1,e2,e3]
   rfl
 ·exact OT.ar (decide_eq_false (by dsimp only;omega))
def rowAt (k:Nat):List UInt8:=gE.getD (k%10) []
theorem aAv (k:Nat):Tn (rowAt k)=true:=by
 have:k%10<10:=Nat.mod_lt _ (by decide)
 unfold rowAt
 generalize k%10=j at this
 have h:∀ j:Fin 10,Tn (gE.getD j.val [])=true:=by decide+kernel
 exact h ⟨j,this⟩
def kH (m:List UInt64) (v:List UInt64):List UInt64:=upto (λk v=>ZJ m (rowAt k) (ZK m (rowAt k) v)) v 12
theorem lv {f:Nat->List UInt64->List UInt64} (hf:∀ k v,(f k v).length=v.length) (v:List UInt64):∀ n,(upto f v n).length=v.length
 |0=>rfl
 |n+1=>by simp only [upto,hf,lv hf v n]
def Nf (s:cW):Bool:=decide (s.1.2.2.2.2.2.1=0/\s.2.2.2.1.length=16/\s.2.2.2.2.1.length=16/\s.2.2.2.2.2.1=gE)
def wU (s:cW):mI:=(((),(),(),()),(s.2.1,s.2.2.1,kH s.2.2.2.2.1 s.2.2.2.1,()))
theorem aC0:∀ s:cW,Nf s=true->∃ m e,al (CI pP rD pO wT) m s=some e/\(Jf wU s).run=some e:=by
 rintro ⟨⟨⟨⟩,⟨⟩,⟨⟩,⟨⟩,⟨⟩,i,⟨⟩⟩,⟨c0,c1,v,m,c4,⟨⟩⟩⟩ h
 have h':=of_decide_eq_true h
 dsimp only at h'
 obtain ⟨rfl,hv,hm,rfl⟩:=h'
 have:=(aP (T:=CI pP rD pO wT) (λk v=>((((),(),(),(),(),(k:Int),()),(c0,c1,v,m,gE,())):cW)) (λk v=>ZJ m (rowAt k) (ZK m (rowAt k) v))
  (λv=>(⟨(.exit 2,wZ),(((),(),(),()),(c0,c1,v,()))⟩:aE)) 12 v (λ_ v=>v.length=16) hv (λk v hk hv=>⟨?_,by rw [tI,nA];exact hv⟩) (λv hv=> ?_)).1
 ·obtain ⟨n,hn⟩:=this
  exact ⟨n,_,hn,rfl⟩
 ·have t1:Int.tmod (k:Int) 10=((k%10:Nat):Int):=by rw [Int.tmod_eq_emod_of_nonneg (by omega)];omega
  have e1:((k%10:Nat):Int).toNat=k%10:=by omega
  have hr:Tn (gE.getD (k%10) [])=true:=aAv k
  refine (OT.ap (decide_eq_true (by dsimp only;omega))).trans ((ah ?_).trans ?_)
  ·simp only [t1,e1,List.all_cons,List.all_nil,Bool.and_true,Bool.and_eq_true]
   refine ⟨aN (by omega),decide_eq_true (show k%10+0<10 by omega),?_,?_,?_⟩
   ·simp only [pP,Bool.and_eq_true,decide_eq_true_eq]
    exact ⟨⟨trivial,hv,hm⟩,hr⟩
   ·simp only [pO,rD,Bool.and_eq_true,decide_eq_true_eq]
    exact ⟨⟨trivial,by rw [nA];exact hv,hm⟩,hr⟩
   ·exact aI (by simp only [wT,rD];omega)
  ·have hrow:gE.getD (k%10) []=rowAt k:=rfl
   simp only [OT.cK,t1,e1,Nat.add_zero,wT,rD,hrow]
   rfl
 ·exact OT.ar (decide_eq_false (by dsimp only;omega))
def Lq (h v:List UInt64):List UInt64:=upto (λk h=>h.set k (h.getD k 0^^^(v.getD k 0^^^v.getD (k+8) 0))) h 8
def Nd (s:cV):Bool:=decide (s.1.2.2.2.1=0/\s.2.1.length=8/\s.2.2.2.1.length=16)
def wS (s:cV):mH:=(((),(),()),(Lq s.2.1 s.2.2.2.1,s.2.2.1,()))
theorem aCX:∀ s:cV,Nd s=true->∃ m e,al CF m s=some e/\(Jc wS s).run=some e:=by
 rintro ⟨⟨⟨⟩,⟨⟩,⟨⟩,i,⟨⟩⟩,⟨h,c1,v,⟨⟩⟩⟩ hh
 have h':=of_decide_eq_true hh
 dsimp only at h'
 obtain ⟨rfl,hl,hv⟩:=h'
 have:=(aP (T:=CF) (λk h=>((((),(),(),(k:Int),()),(h,c1,v,())):cV)) (λk h=>h.set k (h.getD k 0^^^(v.getD k 0^^^v.getD (k+8) 0)))
  (λh=>(⟨(.exit 8,wW),(((),(),()),(h,c1,()))⟩:aE)) 8 h (λ_ h=>h.length=8) hl (λk h hk hl=>⟨?_,by rw [List.length_set];exact hl⟩) (λh hl=> ?_)).1
 ·obtain ⟨n,hn⟩:=this
  exact ⟨n,_,hn,rfl⟩
 ·have e1:((k:Int)+8).toNat=k+8:=by omega
  refine (OT.ap (decide_eq_true (by dsimp only;omega))).trans ((ah ?_).trans ?_)
  ·simp only [e1,hl,hv,List.all_cons,List.all_nil,Bool.and_true,Bool.and_eq_true]
   exact ⟨aN (by omega),decide_eq_true (by omega),aN (by omega),decide_eq_true (by omega),aI (by omega),aN (by omega),decide_eq_true (by omega),aN (by omega),decide_eq_true (by omega),aI (by omega)⟩
  ·simp only [OT.cK,e1,Nat.add_zero]
   rfl
 ·exact OT.ar (decide_eq_false (by dsimp only;omega))
def sf (h:List UInt64) (count:UInt64) (last:Bool):List UInt64:=
 let v:=(h++bIV).set 12 ((h++bIV).getD 12 0^^^count)
 cond last (v.set 14 (~~~v.getD 14 0)) v
def xG (h:List UInt64) (b:List UInt8) (count:UInt64) (last:Bool):List UInt64:=Lq h (kH (qn b) (sf h count last))
theorem OZ (b:List UInt8):(qn b).length=16:=by
 unfold qn;rw [lv (λk v=>List.length_set)];rfl
theorem sF (m v:List UInt64):(kH m v).length=v.length:=lv (λk v=>by rw [tI,nA]) v 12
theorem kN (h v:List UInt64):(Lq h v).length=h.length:=lv (λk v=>List.length_set) h 8
theorem Hj {b:List UInt8} {c0 c2 c3:List UInt64} (hb:b.length=128):Ng (((),(),(),(),(),0,()),(c0,b,c2,c3,[0,0,0,0,0,0,0,0,0,0,0,0,0,0,0,0],()))=true:=decide_eq_true ⟨rfl,hb,rfl⟩
theorem Hi {c0 c1 v m:List UInt64} (hv:v.length=16) (hm:m.length=16):Nf (((),(),(),(),(),0,()),(c0,c1,v,m,gE,()))=true:=decide_eq_true ⟨rfl,hv,hm,rfl⟩
theorem Hh {c0 c1 v:List UInt64} (h0:c0.length=8) (hv:v.length=16):Nd (((),(),(),0,()),(c0,c1,v,()))=true:=decide_eq_true ⟨rfl,h0,hv⟩
def Nc (x:So):Bool:=decide (x.1.1.length=8/\x.1.2.1.length=128)
def axG (x:So):OT mK.Y:=.ok ⟨Jb,((xG x.1.1 x.1.2.1 x.1.2.2.1 x.1.2.2.2.1,()),())⟩
theorem aCW:ac Tryz.prog 146 (mK.aH Nc axG):=aqd Ng wV pP rD pO wT Nf wU Nd wS aC1 aCZ aCY aC0 aCX _ _ λx oy hp ho=>by
 rw [<-ho]
 obtain ⟨⟨h,b,count,last,⟨⟩⟩,⟨⟩⟩:=x
 simp only [Nc,decide_eq_true_eq] at hp
 obtain ⟨hh,hb⟩:=hp
 have t1:tab h 8 0=h:=jo hh
 have t2:tab b 128 0=b:=jo hb
 have t3:tab gE 10 []=gE:=jo rfl
 have v1: []++(List.take 8 h++List.drop (0+min h.length 8) [(0:UInt64),0,0,0,0,0,0,0,0,0,0,0,0,0,0,0])=h++List.replicate 8 0:=by
  rw [hh,List.nil_append,List.take_of_length_le (by omega)];rfl
 have v2:List.take 8 (h++List.replicate 8 (0:UInt64))++(bIV++List.drop 16 (h++List.replicate 8 (0:UInt64)))=h++bIV:=by
  rw [List.take_append_of_le_length (by omega),List.take_of_length_le (by omega),List.drop_eq_nil_of_le (by simp;omega),List.append_nil]
 have hv:∀ c l,(sf h c l).length=16:=λc l=>by
  unfold sf
  cases l<;>simp [hh]<;>rfl
 have hm:(qn b).length=16:=OZ b
 have hr:∀ c l,(kH (qn b) (sf h c l)).length=16:=λc l=>by rw [sF];exact hv c l
 have hM:∀ c l,(xG h b c l).length=8:=λc l=>by unfold xG;rw [kN];exact hh
 have e8: [(7640891576956012808:UInt64),13503953896175478587,4354685564936845355,11912009170470909681,5840696475078001361,11170449401992604703,2270897969802886507,6620516959819538809]=bIV:=rfl
 have key:∀ M:List UInt64,M.length=8->tab (lay [(0:UInt64),0,0,0,0,0,0,0] M 8 0) 8 0=M:=λM hM=>by rw [xO (n:=8) rfl hM,jo hM]
 have l1:List.set (h++bIV) 12 ((h++bIV).getD 12 0^^^count)=sf h count false:=rfl
 have l2:List.set (sf h count false) 14 (~~~(sf h count false).getD 14 0)=sf h count true:=rfl
 have l3:∀ c l,Lq h (kH (qn b) (sf h c l))=xG h b c l:=λ_ _=>rfl
 cases last
 ·refine (OT.ar rfl).trans ((ah ?_).trans ?_)
  ·simp only [t1,t2,t3,v1,List.all_cons,List.all_nil,Bool.and_true,Bool.and_eq_true]
   rw [e8]
   simp only [v2,wV,wU,wS,l1,l3,gq,hM]
   exact ⟨Hj hb,Hi (hv _ _) hm,Hh hh (hr _ _),rfl,rfl,rfl⟩
  ·simp only [t1,t2,t3,v1]
   rw [e8]
   simp only [v2,wV,wU,wS,l1,l3]
   rw [key _ (hM _ _)]
   rfl
 ·refine (OT.ap rfl).trans ((ah ?_).trans ?_)
  ·simp only [t1,t2,t3,v1,List.all_cons,List.all_nil,Bool.and_true,Bool.and_eq_true]
   rw [e8]
   simp only [v2,wV,wU,wS,l1,l2,l3,gq,hM]
   exact ⟨Hj hb,Hi (hv _ _) hm,Hh hh (hr _ _),rfl,rfl,rfl⟩
  ·simp only [t1,t2,t3,v1]
   rw [e8]
   simp only [v2,wV,wU,wS,l1,l2,l3]
   rw [key _ (hM _ _)]
   rfl
def F0:cf:=(mK.aH Nc axG)
theorem agk:ac Tryz.prog 146 F0:=aCW
theorem agj:aF F0:=aA
def OU:Env:=ay 146 F0 PI
theorem GH:aQ Tryz.prog OU:=ag agk nV
theorem Ia:ax OU:=ae agj SU
theorem agV:aU Tryz.prog te OU:=aJ follows aq GH Ia
def jm:aw:=⟨[.val false (.list .u8)],[],true,0,false⟩
abbrev agm:Type:=((List (UInt8))×Unit)×(Unit)
def uK:az:=⟨[.own 0],[(0,.row .u8)],false⟩
def Sp:SV->Option az:=λ_=>some uK
def Wa (a0:List (UInt8)):OT jm.Y:=
 (gd [decide (((0:Nat)+List.length a0)*(1:Nat)<=(140737488355328:Nat))] (.ok ⟨uK,(((),()),([]++a0,()))⟩))
def axI:OT jm.Y:=.ok ⟨uK,(((),()),([],()))⟩
theorem aC7 (x:agm) (Q:jm.Y->Prop):wpf te OU av 1000 Tryz.f52 (jm.inp.inj x).tm (jm.inp.inj x).hp (fnK jm Sp Q) (λ_ _=>False)=
 Bool.rec (motive:=λ_=>Prop) ((Wa x.1.1).wpR Q) (axI.wpR Q/\(Wa x.1.1).wpR Q) (List.isEmpty x.1.1):=by kernel_rfl
def lh (x:agm):Bool:=decide (x.1.1.length<=140737488355328)
def al9 (x:agm):OT jm.Y:=.ok ⟨uK,(((),()),(x.1.1,()))⟩
theorem axH:ac Tryz.prog 52 (jm.aH lh al9):=by
 refine aHC aq GH agV (f:=52) (fn:=Tryz.f52) (c:=aj Tryz.f52) (by kernel_rfl) (by kernel_rfl) (by kernel_rfl) (S:=jm) (k:=0) (by kernel_rfl) (Λ:=av) (λR hR=>af) (n:=1000) λx oy hp hr=>⟨fnK jm Sp (λz=>z=oy),λ_ _=>False,?_,λv hp hq=> ?_,λ_ _ hq=>hq.elim⟩
 ·refine (aC7 x _).mpr ?_
  cases hr
  have hp':x.1.1.length<=140737488355328:=of_decide_eq_true hp
  have h1:(Wa x.1.1).wpR (λz=>z=⟨uK,(((),()),(x.1.1,()))⟩):=by
   rw [OT.ag6]
   refine OT.ss (ah ?_) rfl
   simp only [List.all_cons,List.all_nil,Bool.and_true]
   exact decide_eq_true (by omega)
  cases hb:List.isEmpty x.1.1
  ·exact h1
  ·refine ⟨?_,h1⟩
   rw [List.isEmpty_iff.1 hb]
   rfl
 ·unfold fnK at hq
  split at hq
  ·rename_i o ho
   split at hq
   ·rename_i y hy
    subst hq
    exact ⟨by cases ho;rfl,hy⟩
   ·exact hq.elim
  ·exact hq.elim
def zH:cf:=(jm.aH lh al9)
theorem abq:ac Tryz.prog 52 zH:=axH
theorem abp:aF zH:=aA
def DR:Env:=ay 52 zH OU
theorem Al:aQ Tryz.prog DR:=ag abq GH
theorem DQ:ax DR:=ae abp Ia
theorem aca:aU Tryz.prog te DR:=aJ follows aq Al DQ
def uD:aw:=⟨[.val false .str,.val false .int],[],true,0,false⟩
abbrev ap7:Type:=((List UInt8)×(Int)×Unit)×(Unit)
def M5:az:=⟨[.qV,.val false .int],[],false⟩
def af5:az:=⟨[.ptr 0 0 0,.val false .int],[(0,.cells [.val false .int,.val false .u64,.val false .u64,.val false .u64,.val false .u64,.val false .u64,.val false .u64,.val false .u64,.val false .u64,.own 1,.val false .u64]),(1,.row .u8)],false⟩
def aa3:List az:= [M5,af5]
def M6 (a0:List UInt8) (a1:Int):OT uD.Y:=
 let z0:List UInt8:=List.take 16 a0++List.drop (List.length a0) [(0:UInt8),(0:UInt8),(0:UInt8),(0:UInt8),(0:UInt8),(0:UInt8),(0:UInt8),(0:UInt8),(0:UInt8),(0:UInt8),(0:UInt8),(0:UInt8),(0:UInt8),(0:UInt8),(0:UInt8),(0:UInt8)]
 let z1:Bool:=decide (16<=List.length z0)&&true
 let z2:List UInt8:=List.take 8 (List.drop 0 z0)
 let z3:List UInt8:=List.take 8 (List.drop 8 z0)
 (.br (decide ((16:Int)<(↑(List.length a0):Int)))
 (.ok ⟨M5,(((),((30:Int),())),())⟩)
 (.br (decide (a1<(1:Int)))
  (.ok ⟨M5,(((),((30:Int),())),())⟩)
  (.br (decide ((64:Int)<a1))
   (.ok ⟨M5,(((),((30:Int),())),())⟩)
   (gd [z1,mB ((z2,()),()),z1,mB ((z3,()),())] (.ok ⟨af5,(((),((0:Int),())),((a1,((7640891576956012808:UInt64)^^^(16842752:UInt64)+i2u a1,((13503953896175478587:UInt64),((4354685564936845355:UInt64),((11912009170470909681:UInt64),((5840696475078001361:UInt64),((11170449401992604703:UInt64),((2270897969802886507:UInt64)^^^kG z2 (List.length z2),((6620516959819538809:UInt64)^^^kG z3 (List.length z3),((),((0:UInt64),()))))))))))),([],())))⟩)))))
theorem aKj (x:ap7) (Q:uD.Y->Prop):wpf te DR av 1000 Tryz.f90 (uD.inp.inj x).tm (uD.inp.inj x).hp (aHD uD aa3 Q) (λ_ _=>False)=(M6 (x.1.1) (x.1.2.1)).wpR Q:=by kernel_rfl
theorem axr (pre:ap7->Bool) (F:ap7->OT uD.Y) (hF:∀ (x:ap7) oy,pre x=true->(F x).run=some oy->(M6 (x.1.1) (x.1.2.1)).run=some oy):ac Tryz.prog 90 (uD.aH pre F):=
 ak3 aq Al aca (f:=90) (fn:=Tryz.f90) (c:=aj Tryz.f90) (by kernel_rfl) (by kernel_rfl) (by kernel_rfl) (S:=uD) (k:=0) (by kernel_rfl) (λR hR=>af) (n:=1000) (outs:=aa3) (by kernel_rfl) (pre:=pre) (F:=F) (T:=λx=>M6 (x.1.1) (x.1.2.1)) (λx Q=>aKj x Q) hF
def Pg (p:List UInt8):List UInt8:=p.take 16++(List.replicate 16 (0:UInt8)).drop p.length
def gy (p:List UInt8) (n:Int):Bool:=decide (16<(p.length:Int))||decide (n<1)||decide (64<n)
theorem Y9 {p:List UInt8} (h:p.length<=16):(Pg p).length=16:=by
 simp only [Pg,List.length_append,List.length_take,List.length_drop,List.length_replicate]
 omega
abbrev aLh:Type:=Int×UInt64×UInt64×UInt64×UInt64×UInt64×UInt64×UInt64×UInt64×Unit×UInt64×Unit
def aqF (n:Int) (h:List UInt64) (c:UInt64):aLh:=(n,h.getD 0 0,h.getD 1 0,h.getD 2 0,h.getD 3 0,h.getD 4 0,h.getD 5 0,h.getD 6 0,h.getD 7 0,(),c,())
def an8 (p:List UInt8) (n:Int):List UInt64:= [0x6a09e667f3bcc908^^^(16842752+i2u n),0xbb67ae8584caa73b,0x3c6ef372fe94f82b,0xa54ff53a5f1d36f1,0x510e527fade682d1,0x9b05688c2b3e6c1f,
 0x1f83d9abfb41bd6b^^^kG ((Pg p).take 8) 8,0x5be0cd19137e2179^^^kG (((Pg p).drop 8).take 8) 8]
def alY (_:ap7):Bool:=true
def Sd (x:ap7):OT uD.Y:=.br (gy x.1.1 x.1.2.1) (.ok ⟨M5,(((),((30:Int),())),())⟩)
 (.ok ⟨af5,(((),((0:Int),())),(aqF x.1.2.1 (an8 x.1.1 x.1.2.1) 0,([],())))⟩)
theorem aIo:ac Tryz.prog 90 (uD.aH alY Sd):=axr _ _ λx oy _ ho=>by
 rw [<-ho]
 obtain ⟨⟨p,n,⟨⟩⟩,⟨⟩⟩:=x
 clear ho
 by_cases h1:16<(p.length:Int)
 ·have e1:decide (16<(p.length:Int))=true:=decide_eq_true h1
  have eb:gy p n=true:=by simp only [gy,e1,Bool.true_or]
  simp only [Sd,M6,e1,eb]
  rfl
 ·have e1:decide (16<(p.length:Int))=false:=decide_eq_false h1
  by_cases h2:n<1
  ·have e2:decide (n<1)=true:=decide_eq_true h2
   have eb:gy p n=true:=by simp only [gy,e1,e2,Bool.true_or,Bool.false_or]
   simp only [Sd,M6,e1,e2,eb]
   rfl
  ·have e2:decide (n<1)=false:=decide_eq_false h2
   by_cases h3:64<n
   ·have e3:decide (64<n)=true:=decide_eq_true h3
    have eb:gy p n=true:=by simp only [gy,e1,e2,e3,Bool.false_or]
    simp only [Sd,M6,e1,e2,e3,eb]
    rfl
   ·have e3:decide (64<n)=false:=decide_eq_false h3
    have eb:gy p n=false:=by simp only [gy,e1,e2,e3,Bool.false_or]
    have hl:=Y9 (p:=p) (by omega)
    have hp:p.take 16++List.drop p.length [(0:UInt8),0,0,0,0,0,0,0,0,0,0,0,0,0,0,0]=Pg p:=rfl
    have l1:((Pg p).take 8).length=8:=by simp only [List.length_take,hl];omega
    have l2:(((Pg p).drop 8).take 8).length=8:=by simp only [List.length_take,List.length_drop,hl];omega
    simp only [Sd,M6,e1,e2,e3,eb,hp,List.drop_zero,l1,l2]
    refine (ah ?_).trans rfl
    simp only [mB,hl,l1,l2]
    decide
def M4:cf:=(uD.aH alY Sd)
theorem ap6:ac Tryz.prog 90 M4:=aIo
theorem ap5:aF M4:=aA
def SS:Env:=ay 90 M4 DR
theorem DK:aQ Tryz.prog SS:=ag ap6 Al
theorem OQ:ax SS:=ae ap5 DQ
theorem SR:aU Tryz.prog te SS:=aJ follows aq DK OQ
def aLa (w:Sh):CSh:=.cells [.val false .int,.val false .u64,.val false .u64,.val false .u64,.val false .u64,.val false .u64,.val false .u64,.val false .u64,.val false .u64,w,.val false .u64]
def jh:aw:=⟨[.ptr 0 0 0,.val false (.list .u8)],[(0,aLa (.own 1)),(1,.row .u8)],true,1,true⟩
def pJ:Shape:=⟨61,[(0,.ptr 0 0 0)],[(0,aLa (.val false (.list .u8))),(1,.gone)],2,true⟩
def rv:Shape:=pJ
abbrev FM:Type:=((Unit)×(List (UInt8))×Unit)×(((Int)×(UInt64)×(UInt64)×(UInt64)×(UInt64)×(UInt64)×(UInt64)×(UInt64)×(UInt64)×(Unit)×(UInt64)×Unit)×(List (UInt8))×Unit)
abbrev cB:Type:=((Unit)×Unit)×(((Int)×(UInt64)×(UInt64)×(UInt64)×(UInt64)×(UInt64)×(UInt64)×(UInt64)×(UInt64)×(List (UInt8))×(UInt64)×Unit)×(Unit)×Unit)
abbrev j9:Type:=((Unit)×Unit)×(((Int)×(UInt64)×(UInt64)×(UInt64)×(UInt64)×(UInt64)×(UInt64)×(UInt64)×(UInt64)×(List (UInt8))×(UInt64)×Unit)×(Unit)×Unit)
def aaP:SE->Option Shape:=fp [(0,rv)] none
def axe (c0_0:Int) (c0_1:UInt64) (c0_2:UInt64) (c0_3:UInt64) (c0_4:UInt64) (c0_5:UInt64) (c0_6:UInt64) (c0_7:UInt64) (c0_8:UInt64) (c0_9:List (UInt8)) (c0_10:UInt64):OT (Sum cB aE):=
 let z0:Nat:=List.length c0_9
 let z1:Int:=(↑z0:Int)
 let z2:List UInt8:=List.drop 0 (List.take 128 c0_9)
 let z3:Nat:=List.length z2
 let z4:List UInt64:=xG [c0_1,c0_2,c0_3,c0_4,c0_5,c0_6,c0_7,c0_8] (tab z2 128 (0:UInt8)) (c0_10+(128:UInt64)) false
 (.br (decide ((128:Int)<z1))
 (gd [dw (0:Int) (128:Int) z0,decide (128<=z3),decide (128<=z3),dw (128:Int) z1 z0] (.ok (.inl (((),()),((c0_0,(List.getD z4 0 0,(List.getD z4 1 0,(List.getD z4 2 0,(List.getD z4 3 0,(List.getD z4 4 0,(List.getD z4 5 0,(List.getD z4 6 0,(List.getD z4 7 0,(List.drop 128 c0_9,(c0_10+(128:UInt64),()))))))))))),((),()))))))
 (.ok (.inr ⟨(.exit 0,rv),(((),()),((c0_0,(c0_1,(c0_2,(c0_3,(c0_4,(c0_5,(c0_6,(c0_7,(c0_8,(c0_9,(c0_10,()))))))))))),((),())))⟩)))
def uz (s:cB):OT (Sum cB aE):=axe (s.2.1.1) (s.2.1.2.1) (s.2.1.2.2.1) (s.2.1.2.2.2.1) (s.2.1.2.2.2.2.1) (s.2.1.2.2.2.2.2.1) (s.2.1.2.2.2.2.2.2.1) (s.2.1.2.2.2.2.2.2.2.1) (s.2.1.2.2.2.2.2.2.2.2.1) (s.2.1.2.2.2.2.2.2.2.2.2.1) (s.2.1.2.2.2.2.2.2.2.2.2.2.1)
theorem axb (s:cB) (Q:Sum cB aE->Prop):wps te SS av 1000 (aV (aj Tryz.f109) 0) (pJ.inj s) (bV pJ aaP (Q:Sum pJ.T aE->Prop))=(uz s).wpR Q:=by kernel_rfl
def Cn (g0_0:cB->j9) (s:cB):OT aE:=(.ok ⟨(.exit 0,rv),g0_0 s⟩)
def MU:az:=⟨[],[(0,.cells [.val false .int,.val false .u64,.val false .u64,.val false .u64,.val false .u64,.val false .u64,.val false .u64,.val false .u64,.val false .u64,.own 1,.val false .u64]),(1,.row .u8)],false⟩
def R4:SV->Option az:=λ_=>some MU
def VR (ok0:cB->Bool) (g0_0:cB->j9) (a1:List (UInt8)) (c0_0:Int) (c0_1:UInt64) (c0_2:UInt64) (c0_3:UInt64) (c0_4:UInt64) (c0_5:UInt64) (c0_6:UInt64) (c0_7:UInt64) (c0_8:UInt64) (c0_10:UInt64) (c1:List (UInt8)):OT jh.Y:=
 let z0:(PUnit×PUnit)×(Int×UInt64×UInt64×UInt64×UInt64×UInt64×UInt64×UInt64×UInt64×List UInt8×UInt64×PUnit)×PUnit×PUnit:=(((),()),(c0_0,c0_1,c0_2,c0_3,c0_4,c0_5,c0_6,c0_7,c0_8,c1++a1,c0_10,()),(),())
 let z1:=(g0_0 z0).snd.fst
 let z2:=z1.snd
 let z3:=z2.snd
 let z4:=z3.snd
 let z5:=z4.snd
 let z6:=z5.snd
 let z7:=z6.snd
 let z8:=z7.snd
 let z9:=z8.snd
 let z10:=z9.snd
 let z11:=z10.fst
 (gd [decide ((List.length c1+List.length a1)*1<=140737488355328),ok0 z0,lh ((z11,()),())] (.ok ⟨MU,((),((z1.fst,(z2.fst,(z3.fst,(z4.fst,(z5.fst,(z6.fst,(z7.fst,(z8.fst,(z9.fst,((),(z10.snd.fst,()))))))))))),(z11,())))⟩))
theorem aCG (ok0:cB->Bool) (g0_0:cB->j9) (x:FM) (Q:jh.Y->Prop):wpf te SS (aO 0 (cb pJ 0 ok0 (Cn g0_0)) av) 1000 Tryz.f109 (jh.inp.inj x).tm (jh.inp.inj x).hp (fnK jh R4 Q) (λ_ _=>False)=(VR ok0 g0_0 (x.1.2.1) (x.2.1.1) (x.2.1.2.1) (x.2.1.2.2.1) (x.2.1.2.2.2.1) (x.2.1.2.2.2.2.1) (x.2.1.2.2.2.2.2.1) (x.2.1.2.2.2.2.2.2.1) (x.2.1.2.2.2.2.2.2.2.1) (x.2.1.2.2.2.2.2.2.2.2.1) (x.2.1.2.2.2.2.2.2.2.2.2.2.1) (x.2.2.1)).wpR Q:=by kernel_rfl
theorem afQ (ok0:cB->Bool) (g0_0:cB->j9) (h0:∀ s:cB,ok0 s=true->∃ m e,al (uz) m s=some e/\(Cn g0_0 s).run=some e) (pre:FM->Bool) (F:FM->OT jh.Y) (hF:∀ (x:FM) oy,pre x=true->(F x).run=some oy->(VR ok0 g0_0 (x.1.2.1) (x.2.1.1) (x.2.1.2.1) (x.2.1.2.2.1) (x.2.1.2.2.2.1) (x.2.1.2.2.2.2.1) (x.2.1.2.2.2.2.2.1) (x.2.1.2.2.2.2.2.2.1) (x.2.1.2.2.2.2.2.2.2.1) (x.2.1.2.2.2.2.2.2.2.2.1) (x.2.1.2.2.2.2.2.2.2.2.2.2.1) (x.2.2.1)).run=some oy):ac Tryz.prog 109 (jh.aH pre F):=
 aD aq DK SR (f:=109) (fn:=Tryz.f109) (c:=aj Tryz.f109) (by kernel_rfl) (by kernel_rfl) (by kernel_rfl) (S:=jh) (k:=2) (by kernel_rfl) (λR hR=>(aB (c:=(aj Tryz.f109)) (by kernel_rfl) (id:=0) (by kernel_rfl) (aS aq DK SR (sh:=pJ) hR (xs:=aaP) (aC (by kernel_rfl) (by kernel_rfl) hR) aK af (n:=1000) (T:=uz) (λs Q=>axb s Q) (ok:=ok0) (f:=Cn g0_0) h0) af)) (n:=1000) (sel:=R4) (λv o h=>by cases h;rfl) (pre:=pre) (F:=F) (T:=λx=>VR ok0 g0_0 (x.1.2.1) (x.2.1.1) (x.2.1.2.1) (x.2.1.2.2.1) (x.2.1.2.2.2.1) (x.2.1.2.2.2.2.1) (x.2.1.2.2.2.2.2.1) (x.2.1.2.2.2.2.2.2.1) (x.2.1.2.2.2.2.2.2.2.1) (x.2.1.2.2.2.2.2.2.2.2.1) (x.2.1.2.2.2.2.2.2.2.2.2.2.1) (x.2.2.1)) (λx Q=>aCG ok0 g0_0 x Q) hF
def apw (s:List UInt64×UInt64×List UInt8):List UInt64×UInt64×List UInt8:=(xG s.1 (s.2.2.take 128) (s.2.1+128) false,s.2.1+128,s.2.2.drop 128)
def MG (s:List UInt64×UInt64×List UInt8):List UInt64×UInt64×List UInt8:=upto (λ_ s=>apw s) s ((s.2.2.length-1)/128)
abbrev aKA:Type:=Int×UInt64×UInt64×UInt64×UInt64×UInt64×UInt64×UInt64×UInt64×List UInt8×UInt64×Unit
def aHY (n:Int) (s:List UInt64×UInt64×List UInt8):aKA:=(n,s.1.getD 0 0,s.1.getD 1 0,s.1.getD 2 0,s.1.getD 3 0,s.1.getD 4 0,s.1.getD 5 0,s.1.getD 6 0,s.1.getD 7 0,s.2.2,s.2.1,())
def aJA (x:aKA):List UInt64×UInt64×List UInt8:=([x.2.1,x.2.2.1,x.2.2.2.1,x.2.2.2.2.1,x.2.2.2.2.2.1,x.2.2.2.2.2.2.1,x.2.2.2.2.2.2.2.1,x.2.2.2.2.2.2.2.2.1],x.2.2.2.2.2.2.2.2.2.2.1,x.2.2.2.2.2.2.2.2.2.1)
theorem uk {h:List UInt64} {b:List UInt8} {c:UInt64} {l:Bool} (hh:h.length=8):(xG h b c l).length=8:=by unfold xG;rw [kN];exact hh
def R5 (_:cB):Bool:=true
def aaS (s:cB):j9:=(((),()),(aHY s.2.1.1 (MG (aJA s.2.1)),(),()))
theorem axd:∀ s:cB,R5 s=true->∃ m e,al uz m s=some e/\(Cn aaS s).run=some e:=by
 rintro ⟨⟨⟨⟩,⟨⟩⟩,⟨⟨n,h0,h1,h2,h3,h4,h5,h6,h7,w,c,⟨⟩⟩,⟨⟩,⟨⟩⟩⟩ _
 have:=(aP (T:=uz) (λ_ s=>((((),()),(aHY n s,(),())):cB)) (λ_ s=>apw s) (λs=>(⟨(.exit 0,rv),(((),()),(aHY n s,(),()))⟩:aE)) ((w.length-1)/128) ([h0,h1,h2,h3,h4,h5,h6,h7],c,w)
  (λk s=>s.1.length=8/\s.2.2.length+128*k=w.length) ⟨rfl,by simp⟩ (λk s hk hs=>⟨?_,?_⟩) (λs hs=> ?_)).1
 ·obtain ⟨m,hm⟩:=this
  exact ⟨m,_,hm,rfl⟩
 ·obtain ⟨h,c,v⟩:=s
  obtain ⟨a1,a2⟩:=hs
  dsimp only at a1 a2
  have hv:128<v.length:=by omega
  have t1: [h.getD 0 0,h.getD 1 0,h.getD 2 0,h.getD 3 0,h.getD 4 0,h.getD 5 0,h.getD 6 0,h.getD 7 0]=h:=(rfl:_=tab h 8 0).trans (jo a1)
  have t2:tab (v.take 128) 128 0=v.take 128:=jo (by simp;omega)
  have t3:(v.take 128).length=128:=by simp;omega
  refine (OT.ap (decide_eq_true (by dsimp only [aHY];omega))).trans ((ah ?_).trans ?_)
  ·simp only [aHY,List.drop_zero,t3,List.all_cons,List.all_nil,Bool.and_true,Bool.and_eq_true]
   exact ⟨gx (by omega),rfl,rfl,gx (by omega)⟩
  ·simp only [OT.cK,aHY,List.drop_zero,t1,t2]
   rfl
 ·obtain ⟨h,c,v⟩:=s
  obtain ⟨a1,a2⟩:=hs
  dsimp only at a1 a2
  refine ⟨uk a1,?_⟩
  simp only [apw,List.length_drop]
  omega
 ·obtain ⟨h,c,v⟩:=s
  obtain ⟨a1,a2⟩:=hs
  dsimp only at a1 a2
  exact OT.ar (decide_eq_false (by dsimp only [aHY];omega))
def BG (x:aLh) (w:List UInt8):List UInt64×UInt64×List UInt8:=([x.2.1,x.2.2.1,x.2.2.2.1,x.2.2.2.2.1,x.2.2.2.2.2.1,x.2.2.2.2.2.2.1,x.2.2.2.2.2.2.2.1,x.2.2.2.2.2.2.2.2.1],x.2.2.2.2.2.2.2.2.2.2.1,w)
def sr (s:List UInt64×UInt64×List UInt8) (b:List UInt8):List UInt64×UInt64×List UInt8:=MG (s.1,s.2.1,s.2.2++b)
theorem alu (s:List UInt64×UInt64×List UInt8):∀ k,(upto (λ_ s=>apw s) s k).2.2.length<=s.2.2.length
 |0=>Nat.le_refl _
 |k+1=>by
  have:=alu s k
  show (List.drop 128 (upto (λ_ s=>apw s) s k).2.2).length<=_
  rw [List.length_drop]
  omega
theorem Rc {n:Int} {h:List UInt64} {c:UInt64} {w:List UInt8} (hh:h.length=8):BG (aqF n h c) w=(h,c,w):=by
 have: [h.getD 0 0,h.getD 1 0,h.getD 2 0,h.getD 3 0,h.getD 4 0,h.getD 5 0,h.getD 6 0,h.getD 7 0]=h:=(rfl:_=tab h 8 0).trans (jo hh)
 simp only [BG,aqF,this]
theorem aJ6 (s:List UInt64×UInt64×List UInt8) (hs:s.1.length=8):∀ k,(upto (λ_ s=>apw s) s k).1.length=8
 |0=>hs
 |k+1=>uk (aJ6 s hs k)
theorem awD (s:List UInt64×UInt64×List UInt8):∀ k,(upto (λ_ s=>apw s) s k).2.2.length=s.2.2.length-128*k
 |0=>rfl
 |k+1=>by
  have:=awD s k
  show (List.drop 128 (upto (λ_ s=>apw s) s k).2.2).length=_
  rw [List.length_drop,this]
  omega
theorem aCp (s:List UInt64×UInt64×List UInt8) (hs:s.1.length=8):(MG s).1.length=8:=aJ6 s hs _
theorem apv (s:List UInt64×UInt64×List UInt8):(MG s).2.2.length<=128:=by
 unfold MG
 rw [awD]
 omega
def FL (x:FM):Bool:=decide (x.2.2.1.length+x.1.2.1.length<=140737488355328)
def alM (x:FM):OT jh.Y:=.ok ⟨MU,((),(aqF x.2.1.1 (sr (BG x.2.1 x.2.2.1) x.1.2.1).1 (sr (BG x.2.1 x.2.2.1) x.1.2.1).2.1,((sr (BG x.2.1 x.2.2.1) x.1.2.1).2.2,())))⟩
theorem axc:ac Tryz.prog 109 (jh.aH FL alM):=afQ R5 aaS axd _ _ λx oy hp ho=>by
 rw [<-ho]
 clear ho
 obtain ⟨⟨⟨⟩,b,⟨⟩⟩,⟨⟨n,h0,h1,h2,h3,h4,h5,h6,h7,⟨⟩,c,⟨⟩⟩,w,⟨⟩⟩⟩:=x
 have hp':=of_decide_eq_true hp
 dsimp only at hp'
 refine (ah ?_).trans rfl
 simp only [List.all_cons,List.all_nil,Bool.and_true,Bool.and_eq_true]
 refine ⟨decide_eq_true (by omega),rfl,decide_eq_true ?_⟩
 have:=alu ([h0,h1,h2,h3,h4,h5,h6,h7],c,w++b) (((w++b).length-1)/128)
 show (MG ([h0,h1,h2,h3,h4,h5,h6,h7],c,w++b)).2.2.length<=_
 refine Nat.le_trans this ?_
 show (w++b).length<=_
 rw [List.length_append]
 exact hp'
def zA:cf:=(jh.aH FL alM)
theorem aaR:ac Tryz.prog 109 zA:=axc
theorem aaQ:aF zA:=aA
def xB:Env:=ay 109 zA SS
theorem rT:aQ Tryz.prog xB:=ag aaR DK
theorem DD:ax xB:=ae aaQ OQ
theorem H6:aU Tryz.prog te xB:=aJ follows aq rT DD
def uB:aw:=⟨[.ptr 0 0 0],[(0,aLa (.own 1)),(1,.row .u8)],false,2,true⟩
abbrev ap0:Type:=((Unit)×Unit)×(((Int)×(UInt64)×(UInt64)×(UInt64)×(UInt64)×(UInt64)×(UInt64)×(UInt64)×(UInt64)×(Unit)×(UInt64)×Unit)×(List (UInt8))×Unit)
def MX:Shape:=⟨51,[(5,.ptr 2 0 0),(6,.own 3),(33,.val false .int),(34,.val false .int)],[(0,.cells [.val false .int,.val false .u64,.val false .u64,.val false .u64,.val false .u64,.val false .u64,.val false .u64,.val false .u64,.val false .u64,.own 1,.val false .u64]),(1,.row .u8),(2,.row .u64),(3,.row .u8)],2,true⟩
abbrev dO:Type:=((Unit)×(Unit)×(Int)×(Int)×Unit)×(((Int)×(UInt64)×(UInt64)×(UInt64)×(UInt64)×(UInt64)×(UInt64)×(UInt64)×(UInt64)×(Unit)×(UInt64)×Unit)×(List (UInt8))×(List (UInt64))×(List (UInt8))×Unit)
def Cr:Shape:=⟨51,[(6,.own 2)],[(0,.cells [.val false .int,.val false .u64,.val false .u64,.val false .u64,.val false .u64,.val false .u64,.val false .u64,.val false .u64,.val false .u64,.own 1,.val false .u64]),(1,.row .u8),(2,.row .u8)],2,true⟩
abbrev pK:Type:=((Unit)×Unit)×(((Int)×(UInt64)×(UInt64)×(UInt64)×(UInt64)×(UInt64)×(UInt64)×(UInt64)×(UInt64)×(Unit)×(UInt64)×Unit)×(List (UInt8))×(List (UInt8))×Unit)
def axh:SE->Option Shape:=fp [(0,Cr)] none
def aIm (a33:Int) (a34:Int) (c0_0:Int) (c0_1:UInt64) (c0_2:UInt64) (c0_3:UInt64) (c0_4:UInt64) (c0_5:UInt64) (c0_6:UInt64) (c0_7:UInt64) (c0_8:UInt64) (c0_10:UInt64) (c1:List (UInt8)) (c2:List (UInt64)) (c3:List (UInt8)):OT (Sum dO aE):=
 let z0:Int:=Int.tdiv a34 (8:Int)
 let z1:Int:=(8:Int)*Int.tmod a34 (8:Int)
 let z2:Nat:=List.length c3
 let z3:Nat:=Int.toNat a34
 (.br (decide (a34<a33))
 (gd [true&&inR z0,inB z0 8,decide (Int.toNat z0+0<List.length c2),inR z1,decide ((0:Int)<=z1),inB a34 z2,decide (z3<z2),inR (a34+(1:Int))] (.ok (.inl (((),((),(a33,(a34+(1:Int),())))),((c0_0,(c0_1,(c0_2,(c0_3,(c0_4,(c0_5,(c0_6,(c0_7,(c0_8,((),(c0_10,()))))))))))),(c1,(c2,(List.set c3 z3 (UInt64.toUInt8 (be (List.getD c2 (Int.toNat z0+0) (0:UInt64)) z1)),()))))))))
 (.ok (.inr ⟨(.exit 0,Cr),(((),()),((c0_0,(c0_1,(c0_2,(c0_3,(c0_4,(c0_5,(c0_6,(c0_7,(c0_8,((),(c0_10,()))))))))))),(c1,(c3,()))))⟩)))
def MY (s:dO):OT (Sum dO aE):=aIm (s.1.2.2.1) (s.1.2.2.2.1) (s.2.1.1) (s.2.1.2.1) (s.2.1.2.2.1) (s.2.1.2.2.2.1) (s.2.1.2.2.2.2.1) (s.2.1.2.2.2.2.2.1) (s.2.1.2.2.2.2.2.2.1) (s.2.1.2.2.2.2.2.2.2.1) (s.2.1.2.2.2.2.2.2.2.2.1) (s.2.1.2.2.2.2.2.2.2.2.2.2.1) (s.2.2.1) (s.2.2.2.1) (s.2.2.2.2.1)
theorem aIj (s:dO) (Q:Sum dO aE->Prop):wps te xB av 1000 (aV (aj Tryz.f110) 0) (MX.inj s) (bV MX axh (Q:Sum MX.T aE->Prop))=(MY s).wpR Q:=by kernel_rfl
def VX (g0_0:dO->pK) (s:dO):OT aE:=(.ok ⟨(.exit 0,Cr),g0_0 s⟩)
def af1:az:=⟨[.own 2],[(0,.cells [.val false .int,.val false .u64,.val false .u64,.val false .u64,.val false .u64,.val false .u64,.val false .u64,.val false .u64,.val false .u64,.own 1,.val false .u64]),(1,.row .u8),(2,.row .u8)],false⟩
def alP:SV->Option az:=λ_=>some af1
def axj (ok0:dO->Bool) (g0_0:dO->pK) (c0_0:Int) (c0_1:UInt64) (c0_2:UInt64) (c0_3:UInt64) (c0_4:UInt64) (c0_5:UInt64) (c0_6:UInt64) (c0_7:UInt64) (c0_8:UInt64) (c0_10:UInt64) (c1:List (UInt8)):OT uB.Y:=
 let z0:Nat:=List.length c1
 let z1:List UInt8:=List.take 128 c1++List.drop z0 (List.replicate 128 (0:UInt8))
 let z2:List UInt8:=List.replicate (Int.toNat c0_0) (0:UInt8)
 let z3:List UInt64:=xG [c0_1,c0_2,c0_3,c0_4,c0_5,c0_6,c0_7,c0_8] (tab z1 128 (0:UInt8)) (c0_10+i2u (↑(min z0 128):Int)) true
 let z4:(PUnit×PUnit×Int×Int×PUnit)×(Int×UInt64×UInt64×UInt64×UInt64×UInt64×UInt64×UInt64×UInt64×PUnit×UInt64×PUnit)×List UInt8×List UInt64×List UInt8×PUnit:=(((),(),(↑(List.length z2):Int),(0:Int),()),(c0_0,c0_1,c0_2,c0_3,c0_4,c0_5,c0_6,c0_7,c0_8,(),c0_10,()),c1,[List.getD z3 0 0,List.getD z3 1 0,List.getD z3 2 0,List.getD z3 3 0,List.getD z3 4 0,List.getD z3 5 0,List.getD z3 6 0,List.getD z3 7 0],z2,())
 let z5:=(g0_0 z4).snd
 let z6:=z5.fst
 let z7:=z6.snd
 let z8:=z7.snd
 let z9:=z8.snd
 let z10:=z9.snd
 let z11:=z10.snd
 let z12:=z11.snd
 let z13:=z12.snd
 let z14:=z13.snd
 let z15:=z5.snd
 (gd [decide (128<=List.length z1),decide ((0:Int)<=c0_0)&&decide (c0_0<=c0_0)&&decide (c0_0*(1:Int)<=(140737488355328:Int))&&decide (c0_0<=(140737488355328:Int)),ok0 z4] (.ok ⟨af1,(((),()),((z6.fst,(z7.fst,(z8.fst,(z9.fst,(z10.fst,(z11.fst,(z12.fst,(z13.fst,(z14.fst,((),(z14.snd.snd.fst,()))))))))))),(z15.fst,(z15.snd.fst,()))))⟩))
theorem aKh (ok0:dO->Bool) (g0_0:dO->pK) (x:ap0) (Q:uB.Y->Prop):wpf te xB (aO 0 (cb MX 0 ok0 (VX g0_0)) av) 1000 Tryz.f110 (uB.inp.inj x).tm (uB.inp.inj x).hp (fnK uB alP Q) (λ_ _=>False)=(axj ok0 g0_0 (x.2.1.1) (x.2.1.2.1) (x.2.1.2.2.1) (x.2.1.2.2.2.1) (x.2.1.2.2.2.2.1) (x.2.1.2.2.2.2.2.1) (x.2.1.2.2.2.2.2.2.1) (x.2.1.2.2.2.2.2.2.2.1) (x.2.1.2.2.2.2.2.2.2.2.1) (x.2.1.2.2.2.2.2.2.2.2.2.2.1) (x.2.2.1)).wpR Q:=by kernel_rfl
theorem axi (ok0:dO->Bool) (g0_0:dO->pK) (h0:∀ s:dO,ok0 s=true->∃ m e,al (MY) m s=some e/\(VX g0_0 s).run=some e) (pre:ap0->Bool) (F:ap0->OT uB.Y) (hF:∀ (x:ap0) oy,pre x=true->(F x).run=some oy->(axj ok0 g0_0 (x.2.1.1) (x.2.1.2.1) (x.2.1.2.2.1) (x.2.1.2.2.2.1) (x.2.1.2.2.2.2.1) (x.2.1.2.2.2.2.2.1) (x.2.1.2.2.2.2.2.2.1) (x.2.1.2.2.2.2.2.2.2.1) (x.2.1.2.2.2.2.2.2.2.2.1) (x.2.1.2.2.2.2.2.2.2.2.2.2.1) (x.2.2.1)).run=some oy):ac Tryz.prog 110 (uB.aH pre F):=
 aD aq rT H6 (f:=110) (fn:=Tryz.f110) (c:=aj Tryz.f110) (by kernel_rfl) (by kernel_rfl) (by kernel_rfl) (S:=uB) (k:=2) (by kernel_rfl) (λR hR=>(aB (c:=(aj Tryz.f110)) (by kernel_rfl) (id:=0) (by kernel_rfl) (aS aq rT H6 (sh:=MX) hR (xs:=axh) (aC (by kernel_rfl) (by kernel_rfl) hR) aK af (n:=1000) (T:=MY) (λs Q=>aIj s Q) (ok:=ok0) (f:=VX g0_0) h0) af)) (n:=1000) (sel:=alP) (λv o h=>by cases h;rfl) (pre:=pre) (F:=F) (T:=λx=>axj ok0 g0_0 (x.2.1.1) (x.2.1.2.1) (x.2.1.2.2.1) (x.2.1.2.2.2.1) (x.2.1.2.2.2.2.1) (x.2.1.2.2.2.2.2.1) (x.2.1.2.2.2.2.2.2.1) (x.2.1.2.2.2.2.2.2.2.1) (x.2.1.2.2.2.2.2.2.2.2.1) (x.2.1.2.2.2.2.2.2.2.2.2.2.1) (x.2.2.1)) (λx Q=>aKh ok0 g0_0 x Q) hF
def Iw (h:List UInt64) (n:Nat):List UInt8:=upto (λk o=>o.set k (UInt64.toUInt8 (be (h.getD (k/8) 0) (8*((k%8:Nat):Int))))) (List.replicate n 0) n
def VW (s:dO):Bool:=decide (s.1.2.2.2.1=0/\s.2.2.2.1.length=8/\s.1.2.2.1<=64/\0<=s.1.2.2.1/\s.2.2.2.2.1=List.replicate s.1.2.2.1.toNat 0)
def af2 (s:dO):pK:=(((),()),(s.2.1,s.2.2.1,Iw s.2.2.2.1 s.1.2.2.1.toNat,()))
theorem aIl:∀ s:dO,VW s=true->∃ m e,al MY m s=some e/\(VX af2 s).run=some e:=by
 rintro ⟨⟨⟨⟩,⟨⟩,n,i,⟨⟩⟩,⟨d,w,h,o,⟨⟩⟩⟩ hh
 have h':=of_decide_eq_true hh
 dsimp only at h'
 obtain ⟨rfl,hl,hn,hn0,rfl⟩:=h'
 obtain ⟨k,rfl⟩:∃ k:Nat,n=(k:Int):=⟨n.toNat,by omega⟩
 have:=(aP (T:=MY) (λi o=>((((),(),(k:Int),(i:Int),()),(d,w,h,o,())):dO)) (λk o=>o.set k (UInt64.toUInt8 (be (h.getD (k/8) 0) (8*((k%8:Nat):Int)))))
  (λo=>(⟨(.exit 0,Cr),(((),()),(d,w,o,()))⟩:aE)) k (List.replicate k 0) (λ_ o=>o.length=k) (by simp) (λi o hi ho=>⟨?_,by rw [List.length_set];exact ho⟩) (λo ho=> ?_)).1
 ·obtain ⟨m,hm⟩:=this
  exact ⟨m,_,hm,rfl⟩
 ·have t1:Int.tdiv (i:Int) 8=((i/8:Nat):Int):=by rw [Int.tdiv_eq_ediv_of_nonneg (by omega)];omega
  have t2:Int.tmod (i:Int) 8=((i%8:Nat):Int):=by rw [Int.tmod_eq_emod_of_nonneg (by omega)];omega
  refine (OT.ap (decide_eq_true (by dsimp only;omega))).trans ((ah ?_).trans ?_)
  ·simp only [t1,t2,hl,ho,Int.toNat_natCast,List.all_cons,List.all_nil,Bool.and_true,Bool.and_eq_true]
   exact ⟨⟨trivial,aI (by omega)⟩,aN (by omega),decide_eq_true (by omega),aI (by omega),decide_eq_true (by omega),aN (by omega),decide_eq_true (by omega),aI (by omega)⟩
  ·simp only [OT.cK,t1,t2,Int.toNat_natCast,Nat.add_zero]
   rfl
 ·exact OT.ar (decide_eq_false (by dsimp only;omega))
def nu (w:List UInt8):List UInt8:=w.take 128++(List.replicate 128 (0:UInt8)).drop w.length
theorem BD {w:List UInt8} (h:w.length<=128):(nu w).length=128:=by
 simp only [nu,List.length_append,List.length_take,List.length_drop,List.length_replicate]
 omega
def aFW (n:Int) (s:List UInt64×UInt64×List UInt8):List UInt8:=Iw (xG s.1 (nu s.2.2) (s.2.1+i2u (s.2.2.length:Int)) true) n.toNat
theorem af0 {n:Int} {d:aLh} {w:List UInt8} {h:List UInt64} (hh:h.length=8) (hn0:0<=n) (hn:n<=64):VW (((),(),n,0,()),(d,w,h,List.replicate n.toNat 0,()))=true:=decide_eq_true ⟨rfl,hh,hn,hn0,rfl⟩
def uG (p:List UInt8) (n:Int) (b:List UInt8):List UInt8:=aFW n (sr (an8 p n,0,[]) b)
def VV (x:ap0):Bool:=decide (0<=x.2.1.1/\x.2.1.1<=64/\x.2.2.1.length<=128)
def aD9 (x:ap0):OT uB.Y:=.ok ⟨af1,(((),()),(x.2.1,(x.2.2.1,(aFW x.2.1.1 (BG x.2.1 x.2.2.1),()))))⟩
theorem aIk:ac Tryz.prog 110 (uB.aH VV aD9):=axi VW af2 aIl _ _ λx oy hp ho=>by
 rw [<-ho]
 clear ho
 obtain ⟨⟨⟨⟩,⟨⟩⟩,⟨⟨n,h0,h1,h2,h3,h4,h5,h6,h7,⟨⟩,c,⟨⟩⟩,w,⟨⟩⟩⟩:=x
 have hp':=of_decide_eq_true hp
 dsimp only at hp'
 obtain ⟨hn0,hn,hw⟩:=hp'
 have t1:w.take 128++List.drop w.length (List.replicate 128 (0:UInt8))=nu w:=rfl
 have t2:tab (nu w) 128 0=nu w:=jo (BD hw)
 have t3:min w.length 128=w.length:=by omega
 have hc:∀ c,(xG [h0,h1,h2,h3,h4,h5,h6,h7] (nu w) c true).length=8:=λc=>uk rfl
 have t4:∀ c,tab (xG [h0,h1,h2,h3,h4,h5,h6,h7] (nu w) c true) 8 0=xG [h0,h1,h2,h3,h4,h5,h6,h7] (nu w) c true:=λc=>jo (hc c)
 have t5:((List.replicate n.toNat (0:UInt8)).length:Int)=n:=by simp;omega
 refine (ah ?_).trans ?_
 ·simp only [t1,t2,t3,t4,t5,BD hw,List.all_cons,List.all_nil,Bool.and_true,Bool.and_eq_true]
  exact ⟨rfl,⟨⟨⟨decide_eq_true hn0,decide_eq_true (Int.le_refl _)⟩,decide_eq_true (by omega)⟩,decide_eq_true (by omega)⟩,af0 (hc _) hn0 hn⟩
 ·simp only [t1,t2,t3,t4,t5,af2]
  rfl
def MW:cf:=(uB.aH VV aD9)
theorem apZ:ac Tryz.prog 110 MW:=aIk
theorem apY:aF MW:=aA
def ab2:Env:=ay 110 MW xB
theorem OM:aQ Tryz.prog ab2:=ag apZ rT
theorem ON:ax ab2:=ae apY DD
theorem aqA:aU Tryz.prog te ab2:=aJ follows aq OM ON
def kA:aw:=⟨[.val false .str,.val false .int,.val false (.list .u8)],[],true,0,false⟩
abbrev R7:Type:=((List UInt8)×(Int)×(List (UInt8))×Unit)×(Unit)
def wP:az:=⟨[.own 0,.val false .int],[(0,.row .u8)],false⟩
def aaV:SV->Option az:=λ_=>some wP
def afZ (a0:List UInt8) (a1:Int) (a2:List (UInt8)):OT kA.Y:=
 let z0:Int×UInt64×UInt64×UInt64×UInt64×UInt64×UInt64×UInt64×UInt64×PUnit×UInt64×PUnit:=aqF a1 (an8 a0 a1) (0:UInt64)
 let z1:=z0.fst
 let z2:=z0.snd
 let z3:=z2.snd
 let z4:=z3.snd
 let z5:=z4.snd
 let z6:=z5.snd
 let z7:=z6.snd
 let z8:=z7.snd
 let z9:=z8.snd
 let z10:Int×UInt64×UInt64×UInt64×UInt64×UInt64×UInt64×UInt64×UInt64×PUnit×UInt64×PUnit:=(z1,z2.fst,z3.fst,z4.fst,z5.fst,z6.fst,z7.fst,z8.fst,z9.fst,(),z9.snd.snd.fst,())
 let z11:List UInt64×UInt64×List UInt8:=sr (BG z10 []) a2
 let z12:=z11.snd
 let z13:Int×UInt64×UInt64×UInt64×UInt64×UInt64×UInt64×UInt64×UInt64×PUnit×UInt64×PUnit:=aqF z1 z11.fst z12.fst
 let z14:=z13.fst
 let z15:=z13.snd
 let z16:=z15.snd
 let z17:=z16.snd
 let z18:=z17.snd
 let z19:=z18.snd
 let z20:=z19.snd
 let z21:=z20.snd
 let z22:=z21.snd
 let z23:Int×UInt64×UInt64×UInt64×UInt64×UInt64×UInt64×UInt64×UInt64×PUnit×UInt64×PUnit:=(z14,z15.fst,z16.fst,z17.fst,z18.fst,z19.fst,z20.fst,z21.fst,z22.fst,(),z22.snd.snd.fst,())
 let z24:=z12.snd
 (.br (gy a0 a1)
 (.ok ⟨wP,(((),((30:Int),())),([],()))⟩)
 (gd [FL (((),a2,()),z10,[],()),VV (((),()),z23,z24,())] (.ok ⟨wP,(((),((0:Int),())),(aFW z14 (BG z23 z24),()))⟩)))
theorem aIi (x:R7) (Q:kA.Y->Prop):wpf te ab2 av 1000 Tryz.f67 (kA.inp.inj x).tm (kA.inp.inj x).hp (fnK kA aaV Q) (λ_ _=>False)=(afZ (x.1.1) (x.1.2.1) (x.1.2.2.1)).wpR Q:=by kernel_rfl
theorem apX (pre:R7->Bool) (F:R7->OT kA.Y) (hF:∀ (x:R7) oy,pre x=true->(F x).run=some oy->(afZ (x.1.1) (x.1.2.1) (x.1.2.2.1)).run=some oy):ac Tryz.prog 67 (kA.aH pre F):=
 aD aq OM aqA (f:=67) (fn:=Tryz.f67) (c:=aj Tryz.f67) (by kernel_rfl) (by kernel_rfl) (by kernel_rfl) (S:=kA) (k:=0) (by kernel_rfl) (λR hR=>af) (n:=1000) (sel:=aaV) (λv o h=>by cases h;rfl) (pre:=pre) (F:=F) (T:=λx=>afZ (x.1.1) (x.1.2.1) (x.1.2.2.1)) (λx Q=>aIi x Q) hF
def Cq (x:R7):Bool:=decide (x.1.2.2.1.length<=140737488355328)
def VU (x:R7):OT kA.Y:=.br (gy x.1.1 x.1.2.1) (.ok ⟨wP,(((),((30:Int),())),([],()))⟩) (.ok ⟨wP,(((),((0:Int),())),(uG x.1.1 x.1.2.1 x.1.2.2.1,()))⟩)
theorem aCK:ac Tryz.prog 67 (kA.aH Cq VU):=apX _ _ λx oy hp ho=>by
 rw [<-ho]
 clear ho
 obtain ⟨⟨p,n,b,⟨⟩⟩,⟨⟩⟩:=x
 have hp':=of_decide_eq_true hp
 dsimp only at hp'
 cases hk:gy p n
 ·refine (OT.ar hk).trans ?_
  have e1:BG (aqF n (an8 p n) 0) []=(an8 p n,0,[]):=Rc rfl
  have e2:∀ c w,BG (aqF n (sr (an8 p n,0,[]) b).1 c) w=((sr (an8 p n,0,[]) b).1,c,w):=λc w=>Rc (aCp _ rfl)
  have hn:0<=n/\n<=64:=by
   simp only [gy,Bool.or_eq_false_iff,decide_eq_false_iff_not] at hk
   omega
  refine (ah ?_).trans ?_
  ·simp only [List.all_cons,List.all_nil,Bool.and_true,Bool.and_eq_true]
   refine ⟨decide_eq_true (by simp only [List.length_nil];omega),decide_eq_true ⟨hn.1,hn.2,?_⟩⟩
   exact apv _
  ·have key:aFW n (BG (aqF n (sr (BG (aqF n (an8 p n) 0) []) b).1 (sr (BG (aqF n (an8 p n) 0) []) b).2.1) (sr (BG (aqF n (an8 p n) 0) []) b).2.2)=uG p n b:=by
    rw [e1,e2]
    rfl
   simp only [VU,hk]
   exact congrArg (λl=>some (⟨wP,(((),((0:Int),())),(l,()))⟩:kA.Y)) key
 ·refine (OT.ap hk).trans ?_
  simp only [VU,hk]
  rfl
def FO:cf:=(kA.aH Cq VU)
theorem afY:ac Tryz.prog 67 FO:=aCK
theorem afX:aF FO:=aA
def agU:Env:=ay 67 FO ab2
theorem aqz:aQ Tryz.prog agU:=ag afY OM
theorem ab1:ax agU:=ae afX ON
end Go.Proofs.YtohjofabochgfaaGreat

namespace Go.Proofs.YtohjofabochgfaaGreat
open Sx Go
def Sx.aa.nat (e:aa):Nat:=e.w0.toNat+18446744073709551616*(e.w1.toNat+18446744073709551616*(e.w2.toNat+18446744073709551616*e.w3.toNat))
def ofN (n:Nat):aa:=⟨UInt64.ofNat n,UInt64.ofNat (n/18446744073709551616),UInt64.ofNat (n/18446744073709551616/18446744073709551616),UInt64.ofNat (n/18446744073709551616/18446744073709551616/18446744073709551616)⟩
def xH (x y c:UInt64):UInt64:=UInt64.ofNat ((x.toNat+y.toNat+c.toNat)%18446744073709551616)
def An (x y c:UInt64):UInt64:=UInt64.ofNat ((x.toNat+y.toNat+c.toNat)/18446744073709551616)
def qq (x y c:UInt64):UInt64:=UInt64.ofNat ((x.toNat+18446744073709551616-y.toNat-c.toNat)%18446744073709551616)
def WH (x y c:UInt64):UInt64:=UInt64.ofNat (if x.toNat<y.toNat+c.toNat then 1 else 0)
def ax7 (x y:UInt64):UInt64:=UInt64.ofNat (x.toNat*y.toNat/18446744073709551616)
theorem eY (x:UInt64) (k:Nat) (hk:k<64):(be x (k:Int)).toNat=x.toNat/2^k:=by
 unfold be
 rw [if_pos (by omega),UInt64.toNat_shiftRight,UInt64.toNat_ofNat',Int.toNat_natCast,Nat.shiftRight_eq_div_pow]
 congr 2
 omega
theorem lD (x:UInt64) (k:Nat) (hk:k<64):(bP x (k:Int)).toNat=x.toNat*2^k%2^64:=by
 unfold bP
 rw [if_pos (by omega),UInt64.toNat_shiftLeft,UInt64.toNat_ofNat',Int.toNat_natCast,Nat.shiftLeft_eq]
 congr 3
 omega
theorem jL (x:UInt64):(x&&&4294967295).toNat=x.toNat%4294967296:=by
 rw [UInt64.toNat_and]
 exact Nat.and_two_pow_sub_one_eq_mod x.toNat 32
theorem aJD (a b:UInt64):be a 32*be b 32+be (be a 32*(b&&&4294967295)+be ((a&&&4294967295)*(b&&&4294967295)) 32) 32+
 be (((be a 32*(b&&&4294967295)+be ((a&&&4294967295)*(b&&&4294967295)) 32)&&&4294967295)+(a&&&4294967295)*be b 32) 32=ax7 a b:=by
 have ha:=a.toNat_lt
 have hb:=b.toNat_lt
 obtain ⟨h1,h2,h3,h4⟩:=Lib.mul64_hi a.toNat b.toNat ha hb
 have s32:∀ x:UInt64,(be x 32).toNat=x.toNat/4294967296:=λx=>eY x 32 (by omega)
 have hx:=Lib.half_mul_le (a:=a.toNat/4294967296) (b:=b.toNat/4294967296) (by omega) (by omega)
 have hy:=Lib.half_mul_le (a:=a.toNat/4294967296) (b:=b.toNat%4294967296) (by omega) (by omega)
 have hz:=Lib.half_mul_le (a:=a.toNat%4294967296) (b:=b.toNat/4294967296) (by omega) (by omega)
 have e0:((a&&&4294967295)*(b&&&4294967295)).toNat=a.toNat%4294967296*(b.toNat%4294967296):=by
  rw [UInt64.toNat_mul,jL,jL,Nat.mod_eq_of_lt h1]
 have e1:(be a 32*(b&&&4294967295)+be ((a&&&4294967295)*(b&&&4294967295)) 32).toNat=a.toNat/4294967296*(b.toNat%4294967296)+a.toNat%4294967296*(b.toNat%4294967296)/4294967296:=by
  rw [UInt64.toNat_add,UInt64.toNat_mul,s32,s32,jL,e0,Nat.mod_eq_of_lt (a:=a.toNat/4294967296*(b.toNat%4294967296)) (by omega),Nat.mod_eq_of_lt h2]
 have e2:(((be a 32*(b&&&4294967295)+be ((a&&&4294967295)*(b&&&4294967295)) 32)&&&4294967295)+(a&&&4294967295)*be b 32).toNat=
  (a.toNat/4294967296*(b.toNat%4294967296)+a.toNat%4294967296*(b.toNat%4294967296)/4294967296)%4294967296+a.toNat%4294967296*(b.toNat/4294967296):=by
  rw [UInt64.toNat_add,UInt64.toNat_mul,jL,jL,s32,e1,Nat.mod_eq_of_lt (a:=a.toNat%4294967296*(b.toNat/4294967296)) (by omega),Nat.mod_eq_of_lt h3]
 have hq:a.toNat*b.toNat/18446744073709551616<18446744073709551616:=by
  rw [Nat.div_lt_iff_lt_mul (by omega)]
  exact Nat.mul_lt_mul'' ha hb
 rw [<-UInt64.toNat_inj,UInt64.toNat_add,UInt64.toNat_add,UInt64.toNat_mul,s32,s32,s32,s32,e1,e2]
 have e3:(ax7 a b).toNat=a.toNat*b.toNat/18446744073709551616:=by
  unfold ax7
  rw [UInt64.toNat_ofNat',Nat.mod_eq_of_lt hq]
 rw [e3,<-h4]
 rw [<-h4] at hq
 omega
def aIL (h l y:UInt64):UInt64:=UInt64.ofNat ((h.toNat*18446744073709551616+l.toNat)/y.toNat)
def aat (h l y:UInt64):UInt64:=UInt64.ofNat ((h.toNat*18446744073709551616+l.toNat)%y.toNat)
theorem aCr {m A B N:Nat} (hm:0<m) (e:N=A+m*B):N/m=B+A/m/\N%m=A%m:=by
 subst e
 exact ⟨by rw [Nat.add_mul_div_left _ _ hm,Nat.add_comm],Nat.add_mul_mod_self_left ..⟩
theorem Vy {m N u t q r K L:Nat} (hm:0<m) (hL:0<L) (hu:N=u*K+t) (hq:u=q*(m*L)+r):
 N/m=q*(L*K)+((r*K+t)*L)/(m*L)/\N%m=((r*K+t)*L)%(m*L)/L:=by
 have e:N=(r*K+t)+m*(q*(L*K)):=by
  have h1:q*(m*L)*K=m*(q*(L*K)):=by
   rw [Nat.mul_assoc q,Nat.mul_assoc m,Nat.mul_left_comm m q]
  rw [hu,hq,Nat.add_mul,h1]
  omega
 obtain ⟨h1,h2⟩:=aCr hm e
 rw [h1,h2,Nat.mul_div_mul_right _ _ hL,Nat.mul_mod_mul_right,Nat.mul_div_cancel _ hL]
 exact ⟨rfl,rfl⟩
theorem mL (x y c:UInt64):x.toNat+y.toNat+c.toNat=(xH x y c).toNat+18446744073709551616*(An x y c).toNat:=by
 have hx:=x.toNat_lt
 have hy:=y.toNat_lt
 have hc:=c.toNat_lt
 unfold xH An
 rw [UInt64.toNat_ofNat',UInt64.toNat_ofNat',Nat.mod_eq_of_lt (b:=2^64) (by omega),Nat.mod_eq_of_lt (b:=2^64) (by omega)]
 omega
theorem F3 {x y c:UInt64} (hc:c.toNat<=1):(An x y c).toNat<=1:=by
 have hx:=x.toNat_lt
 have hy:=y.toNat_lt
 unfold An
 rw [UInt64.toNat_ofNat',Nat.mod_eq_of_lt (by omega)]
 omega
theorem AE (x y c:UInt64):(WH x y c).toNat=if x.toNat<y.toNat+c.toNat then 1 else 0:=by
 unfold WH
 rw [UInt64.toNat_ofNat']
 split<;>rfl
theorem yu {x y c:UInt64}:(WH x y c).toNat<=1:=by
 rw [AE]
 split<;>omega
theorem AF {x y c:UInt64} (hc:c.toNat<=1):x.toNat+18446744073709551616*(WH x y c).toNat=(qq x y c).toNat+y.toNat+c.toNat:=by
 have hx:=x.toNat_lt
 have hy:=y.toNat_lt
 rw [AE]
 unfold qq
 rw [UInt64.toNat_ofNat',Nat.mod_eq_of_lt (b:=2^64) (by omega)]
 split<;>omega
theorem iQ (e:aa):e.nat<115792089237316195423570985008687907853269984665640564039457584007913129639936:=by
 have h0:=e.w0.toNat_lt
 have h1:=e.w1.toNat_lt
 have h2:=e.w2.toNat_lt
 have h3:=e.w3.toNat_lt
 unfold Sx.aa.nat
 omega
theorem DW {a b X Y:Nat} (ha:a<18446744073709551616) (hb:b<18446744073709551616) (h:a+18446744073709551616*X=b+18446744073709551616*Y):a=b/\X=Y:=by
 omega
theorem qW {e f:aa} (h:e.nat=f.nat):e=f:=by
 unfold Sx.aa.nat at h
 obtain ⟨h0,h⟩:=DW e.w0.toNat_lt f.w0.toNat_lt h
 obtain ⟨h1,h⟩:=DW e.w1.toNat_lt f.w1.toNat_lt h
 obtain ⟨h2,h3⟩:=DW e.w2.toNat_lt f.w2.toNat_lt h
 obtain ⟨a,b,c,d⟩:=e
 obtain ⟨a',b',c',d'⟩:=f
 simp only at h0 h1 h2 h3
 rw [UInt64.toNat_inj.1 h0,UInt64.toNat_inj.1 h1,UInt64.toNat_inj.1 h2,UInt64.toNat_inj.1 h3]
theorem div_eq {n a b:Nat} (ha:a<18446744073709551616) (h:n=a+18446744073709551616*b):n/18446744073709551616=b/\n%18446744073709551616=a:=by
 omega
theorem auW {n:Nat} {a b c d:UInt64} {k:Nat} (h:n=a.toNat+18446744073709551616*(b.toNat+18446744073709551616*(c.toNat+18446744073709551616*(d.toNat+18446744073709551616*k)))):ofN n=⟨a,b,c,d⟩:=by
 obtain ⟨h1,h0⟩:=div_eq a.toNat_lt h
 obtain ⟨h2,h3⟩:=div_eq b.toNat_lt h1
 obtain ⟨h4,h5⟩:=div_eq c.toNat_lt h2
 have h6:n/18446744073709551616/18446744073709551616/18446744073709551616%18446744073709551616=d.toNat:=by
  rw [h4]
  have:=d.toNat_lt
  omega
 unfold ofN
 have e:∀ (m:Nat) (x:UInt64),m%18446744073709551616=x.toNat->UInt64.ofNat m=x:=λm x hm=>by
  rw [<-UInt64.toNat_inj,UInt64.toNat_ofNat']
  exact hm
 rw [e _ a h0,e _ b h3,e _ c h5,e _ d h6]
theorem Uu (n:Nat):(ofN n).nat=n%115792089237316195423570985008687907853269984665640564039457584007913129639936:=by
 unfold ofN aa.nat
 simp only [UInt64.toNat_ofNat']
 rw [show (2:Nat)^64=18446744073709551616 from rfl]
 omega
theorem ko {n:Nat} (h:n<115792089237316195423570985008687907853269984665640564039457584007913129639936):(ofN n).nat=n:=by
 rw [Uu]
 exact Nat.mod_eq_of_lt h
theorem wa (e:aa):ofN e.nat=e:=qW (ko (iQ e))
def qk (a b:aa):aa×Bool:=(ofN (a.nat+b.nat),Nat.ble 115792089237316195423570985008687907853269984665640564039457584007913129639936 (a.nat+b.nat))
def ef (a b:aa):aa×Bool:=(ofN (a.nat+115792089237316195423570985008687907853269984665640564039457584007913129639936-b.nat),Nat.blt a.nat b.nat)
theorem We {x y c s k X Y R:Nat} (h1:x+y+c=s+18446744073709551616*k) (h2:X+Y+k=R):(x+18446744073709551616*X)+(y+18446744073709551616*Y)+c=s+18446744073709551616*R:=by
 omega
theorem S8 {x y c s k X Y R Q:Nat} (h1:x+18446744073709551616*k=s+y+c) (h2:X+18446744073709551616*Q=R+Y+k):(x+18446744073709551616*X)+18446744073709551616*(18446744073709551616*Q)=s+18446744073709551616*R+(y+18446744073709551616*Y)+c:=by
 omega
theorem PJ (a b:aa):let k0:=An a.w0 b.w0 0;let k1:=An a.w1 b.w1 k0;let k2:=An a.w2 b.w2 k1;let k3:=An a.w3 b.w3 k2
 (k0.toNat<=1/\k1.toNat<=1/\k2.toNat<=1)/\qk a b=(⟨xH a.w0 b.w0 0,xH a.w1 b.w1 k0,xH a.w2 b.w2 k1,xH a.w3 b.w3 k2⟩,!(k3==0)):=by
 intro k0 k1 k2 k3
 have l0:k0.toNat<=1:=F3 (by decide)
 have l1:k1.toNat<=1:=F3 l0
 have l2:k2.toNat<=1:=F3 l1
 have l3:k3.toNat<=1:=F3 l2
 refine ⟨⟨l0,l1,l2⟩,?_⟩
 have h:=We (mL a.w0 b.w0 0) (We (mL a.w1 b.w1 k0) (We (mL a.w2 b.w2 k1) (mL a.w3 b.w3 k2)))
 rw [show (0:UInt64).toNat=0 from rfl,Nat.add_zero] at h
 unfold qk
 have hn:a.nat+b.nat=(xH a.w0 b.w0 0).toNat+18446744073709551616*((xH a.w1 b.w1 k0).toNat+18446744073709551616*((xH a.w2 b.w2 k1).toNat+18446744073709551616*((xH a.w3 b.w3 k2).toNat+18446744073709551616*k3.toNat))):=h
 rw [auW hn]
 congr 1
 have hs:=iQ ⟨xH a.w0 b.w0 0,xH a.w1 b.w1 k0,xH a.w2 b.w2 k1,xH a.w3 b.w3 k2⟩
 unfold Sx.aa.nat at hs
 simp only at hs
 have hk:k3.toNat=0\/k3.toNat=1:=by omega
 rcases hk with hk|hk
 ·have e:k3=0:=UInt64.toNat_inj.1 hk
  rw [hk] at hn
  rw [e]
  cases hb:Nat.ble 115792089237316195423570985008687907853269984665640564039457584007913129639936 (a.nat+b.nat)
  ·rfl
  ·have:=Nat.le_of_ble_eq_true hb
   omega
 ·have e:(k3==0)=false:=by
   have:¬k3=0:=λe=>by rw [e] at hk;cases hk
   simpa using this
  rw [hk] at hn
  rw [e]
  exact Nat.ble_eq_true_of_le (by omega)
theorem DY (a b:aa):let k0:=WH a.w0 b.w0 0;let k1:=WH a.w1 b.w1 k0;let k2:=WH a.w2 b.w2 k1;let k3:=WH a.w3 b.w3 k2
 (k0.toNat<=1/\k1.toNat<=1/\k2.toNat<=1)/\ef a b=(⟨qq a.w0 b.w0 0,qq a.w1 b.w1 k0,qq a.w2 b.w2 k1,qq a.w3 b.w3 k2⟩,!(k3==0)):=by
 intro k0 k1 k2 k3
 have l0:k0.toNat<=1:=yu
 have l1:k1.toNat<=1:=yu
 have l2:k2.toNat<=1:=yu
 have l3:k3.toNat<=1:=yu
 refine ⟨⟨l0,l1,l2⟩,?_⟩
 have h:=S8 (AF (x:=a.w0) (y:=b.w0) (c:=0) (by decide)) (S8 (AF (x:=a.w1) (y:=b.w1) l0) (S8 (AF (x:=a.w2) (y:=b.w2) l1) (AF (x:=a.w3) (y:=b.w3) l2)))
 rw [show (0:UInt64).toNat=0 from rfl,Nat.add_zero] at h
 unfold ef
 have hs:=iQ ⟨qq a.w0 b.w0 0,qq a.w1 b.w1 k0,qq a.w2 b.w2 k1,qq a.w3 b.w3 k2⟩
 have h':a.nat+18446744073709551616*(18446744073709551616*(18446744073709551616*(18446744073709551616*k3.toNat)))=aa.nat ⟨qq a.w0 b.w0 0,qq a.w1 b.w1 k0,qq a.w2 b.w2 k1,qq a.w3 b.w3 k2⟩+b.nat:=h
 have ha:=iQ a
 have hb:=iQ b
 have hS:=iQ ⟨qq a.w0 b.w0 0,qq a.w1 b.w1 k0,qq a.w2 b.w2 k1,qq a.w3 b.w3 k2⟩
 have e1:ofN (a.nat+115792089237316195423570985008687907853269984665640564039457584007913129639936-b.nat)=⟨qq a.w0 b.w0 0,qq a.w1 b.w1 k0,qq a.w2 b.w2 k1,qq a.w3 b.w3 k2⟩:=by
  apply qW
  rw [Uu]
  generalize aa.nat ⟨qq a.w0 b.w0 0,qq a.w1 b.w1 k0,qq a.w2 b.w2 k1,qq a.w3 b.w3 k2⟩=S at*
  omega
 rw [e1]
 congr 1
 generalize aa.nat ⟨qq a.w0 b.w0 0,qq a.w1 b.w1 k0,qq a.w2 b.w2 k1,qq a.w3 b.w3 k2⟩=S at*
 have hk:k3.toNat=0\/k3.toNat=1:=by omega
 rcases hk with hk|hk
 ·have e:k3=0:=UInt64.toNat_inj.1 hk
  rw [hk] at h'
  rw [e]
  cases hq:Nat.blt a.nat b.nat
  ·rfl
  ·have:=ed hq
   omega
 ·have e:(k3==0)=false:=by
   have:¬k3=0:=λe=>by rw [e] at hk;cases hk
   simpa using this
  rw [hk] at h'
  rw [e]
  exact Nat.ble_eq_true_of_le (show a.nat+1<=b.nat by omega)
def lst (e:aa):List UInt64:= [e.w0,e.w1,e.w2,e.w3]
def elemOf (l:List UInt64):aa:=⟨l.getD 0 0,l.getD 1 0,l.getD 2 0,l.getD 3 0⟩
theorem aR {l:List UInt64} (h:l.length=4):lst (elemOf l)=l:=by
 match l,h with
 | [a,b,c,d],_=>rfl
theorem apu (e:aa):elemOf (lst e)=e:=rfl
theorem cA (e:aa):(lst e).length=4:=rfl
theorem rq {h l y:UInt64} (hy:0<y.toNat):(aat h l y).toNat=(h.toNat*18446744073709551616+l.toNat)%y.toNat:=by
 unfold aat
 rw [UInt64.toNat_ofNat']
 exact Nat.mod_eq_of_lt (Nat.lt_trans (Nat.mod_lt _ hy) y.toNat_lt)
theorem UO (r x m:Nat):(r%m*18446744073709551616+x)%m=(r*18446744073709551616+x)%m:=by
 rw [Nat.add_mod,Nat.mul_mod,Nat.mod_mod,<-Nat.mul_mod,<-Nat.add_mod]
theorem ag7 (a b:aa):(ef a b).2=Nat.blt a.nat b.nat:=rfl
theorem mU {a b:aa} (h:b.nat<=a.nat):(ef a b).1.nat=a.nat-b.nat:=by
 have ha:=iQ a
 show (ofN _).nat=_
 rw [Uu]
 omega
theorem agc {w N r:Nat} (hr:r<64):(w+18446744073709551616*N)/2^r%2=w/2^r%2:=by
 have e:18446744073709551616*N=2^r*(2*(2^(63-r)*N)):=by
  rw [<-Nat.mul_assoc,<-Nat.mul_assoc,Nat.mul_comm (2^r) 2,Nat.mul_assoc 2,<-Nat.pow_add,show r+(63-r)=63 by omega]
 rw [e,Nat.add_mul_div_left _ _ (Nat.two_pow_pos r),Nat.add_mul_mod_self_left]
theorem DV {w N:Nat} (hw:w<18446744073709551616) (r:Nat):(w+18446744073709551616*N)/2^(64+r)=N/2^r:=by
 rw [Nat.pow_add,<-Nat.div_div_eq_div_mul,show 2^64=18446744073709551616 from rfl,show (w+18446744073709551616*N)/18446744073709551616=N by omega]
theorem rB {a:aa} {q r:Nat} (hq:q<4) (hr:r<64):((lst a).getD q 0).toNat/2^r%2=a.nat/2^(64*q+r)%2:=by
 have h0:=a.w0.toNat_lt
 have h1:=a.w1.toNat_lt
 have h2:=a.w2.toNat_lt
 unfold Sx.aa.nat
 have hq':q=0\/q=1\/q=2\/q=3:=by omega
 rcases hq' with rfl|rfl|rfl|rfl
 ·rw [Nat.mul_zero,Nat.zero_add,agc hr];rfl
 ·rw [show 64*1+r=64+r by omega,DV h0,agc hr];rfl
 ·rw [show 64*2+r=64+(64+r) by omega,DV h0,DV h1,agc hr];rfl
 ·rw [show 64*3+r=64+(64+(64+r)) by omega,DV h0,DV h1,DV h2];rfl
def Sj (n i:Nat):Bool:=Nat.beq (n/2^i%2) 1
theorem V5 (x:UInt64):(x&&&1==1)=Nat.beq (x.toNat%2) 1:=by
 have e:(x&&&1).toNat=x.toNat%2:=by
  rw [UInt64.toNat_and]
  exact Nat.and_two_pow_sub_one_eq_mod x.toNat 1
 rw [<-e]
 by_cases h:x&&&1=1
 ·rw [h];rfl
 ·have h':¬(x&&&1).toNat=1:=λh'=>h (UInt64.toNat_inj.1 h')
  have h2:Nat.beq (x&&&1).toNat 1=false:=by
   cases hb:Nat.beq (x&&&1).toNat 1
   ·rfl
   ·exact absurd (Nat.eq_of_beq_eq_true hb) h'
  rw [h2]
  simpa using h
theorem aBx (x:aa):(x.w0&&&1==1)=(x.w0%2==1):=by
 have h:=V5 x.w0
 rw [h]
 have h2:(x.w0%2).toNat=x.w0.toNat%2:=by rw [UInt64.toNat_mod];rfl
 rw [<-h2]
 by_cases h:x.w0%2=1
 ·rw [h];rfl
 ·have hn:¬(x.w0%2).toNat=1:=λe=>h (UInt64.toNat_inj.1 e)
  have:Nat.beq (x.w0%2).toNat 1=false:=by
   cases hb:Nat.beq (x.w0%2).toNat 1
   ·rfl
   ·exact absurd (Nat.eq_of_beq_eq_true hb) hn
  rw [this]
  symm
  simpa using h
abbrev Ic:Ty:=.prod .elem (.prod .elem (.prod .elem .bool))
end Go.Proofs.YtohjofabochgfaaGreat

namespace Go.Proofs.YtohjofabochgfaaGreat
open Sx Go
set_option maxRecDepth 100000
def Wc:aw:=⟨[.val false .u64,.val false .u64,.val false .u64],[],true,0,false⟩
abbrev axP:Type:=((UInt64)×(UInt64)×(UInt64)×Unit)×(Unit)
def axO:az:=⟨[.val false .u64,.val false .u64],[],false⟩
def F1 (x:axP):Bool:=decide (x.1.2.2.1.toNat<=1)
def ama (x:axP):OT Wc.Y:=.ok ⟨axO,((xH x.1.1 x.1.2.1 x.1.2.2.1,An x.1.1 x.1.2.1 x.1.2.2.1,()),())⟩
theorem aqe (a b c:UInt64) (hc:c.toNat<=1) (w:World):(callFunc 151 #[hZ a,hZ b,hZ c]).run Tryz.prog w=.ok (.value (.tuple #[hZ (xH a b c),hZ (An a b c)])) w:=by
 unfold hZ
 rw [run_callFunc_extern Tryz.func151 (by kernel_rfl) (by kernel_rfl) (by kernel_rfl) (e:=add64Entry) (by kernel_rfl),run_add64 (a.toNat:Int) (b.toNat:Int) (c.toNat:Int) (by omega) (by omega) (by omega) (by omega)]
 have ha:=a.toNat_lt
 have hb:=b.toNat_lt
 have e1:(((xH a b c).toNat:Nat):Int)=((a.toNat:Int)+b.toNat+c.toNat)%18446744073709551616:=by
  unfold xH
  rw [UInt64.toNat_ofNat',Nat.mod_eq_of_lt (by omega)]
  omega
 have e2:(((An a b c).toNat:Nat):Int)=((a.toNat:Int)+b.toNat+c.toNat)/18446744073709551616:=by
  unfold An
  rw [UInt64.toNat_ofNat',Nat.mod_eq_of_lt (by omega)]
  omega
 rw [e1,e2]
 rfl
theorem axN:ac Tryz.prog 151 (Wc.aH F1 ama):=by
 refine aDV (k:=0) (by kernel_rfl) λx oy vs N w hp ho hr=> ?_
 obtain ⟨⟨a,b,c,⟨⟩⟩,⟨⟩⟩:=x
 cases ho
 have hc:c.toNat<=1:=of_decide_eq_true hp
 have hr':SV.ci N [.u64 a,.u64 b,.u64 c] vs:=hr
 simp only [SV.ci,SV.rel] at hr'
 obtain ⟨_,_,rfl,rfl,_,_,rfl,rfl,_,_,rfl,rfl,rfl⟩:=hr'
 refine ⟨.tup [.u64 (xH a b c),.u64 (An a b c)],_,aqe a b c hc w,?_,⟨rfl,by kernel_rfl⟩⟩
 simp only [SV.rel]
 exact ⟨_,rfl,by simp only [SV.ci,SV.rel];exact ⟨_,_,rfl,rfl,_,_,rfl,rfl,rfl⟩⟩
def zI:cf:=(Wc.aH F1 ama)
theorem abt:ac Tryz.prog 151 zI:=axN
theorem abr:aF zI:=aA
def WE:Env:=ay 151 zI agU
theorem agW:aQ Tryz.prog WE:=ag abt aqz
theorem WD:ax WE:=ae abr ab1
def VY:aw:=⟨[.val false .u64,.val false .u64,.val false .u64],[],true,0,false⟩
abbrev axm:Type:=((UInt64)×(UInt64)×(UInt64)×Unit)×(Unit)
def axl:az:=⟨[.val false .u64,.val false .u64],[],false⟩
def FP (x:axm):Bool:=decide (x.1.2.2.1.toNat<=1)
def alQ (x:axm):OT VY.Y:=.ok ⟨axl,((qq x.1.1 x.1.2.1 x.1.2.2.1,WH x.1.1 x.1.2.1 x.1.2.2.1,()),())⟩
def aDu:Array Value->Sem Value:=λargs=>do
 let (x,y,b) <-Extern.MathBitsCarry.three "Sub64" args
 pure (Extern.MathBitsCarry.pair ((x+Extern.MathBitsCarry.m64-y-b)%Extern.MathBitsCarry.m64) (if x<y+b then 1 else 0))
theorem amF {P:Program} (x y b:Nat) (hb:b<=1) (w:World):
 (aDu #[.int .u64 x,.int .u64 y,.int .u64 b]).run P w=
  .ok (.tuple #[.int .u64 (((x+18446744073709551616-y-b)%18446744073709551616:Nat):Int),.int .u64 ((if x<y+b then 1 else 0:Nat):Int)]) w:=by
 have:b=0\/b=1:=by omega
 rcases this with rfl|rfl<;>rfl
theorem ap1 (a b c:UInt64) (hc:c.toNat<=1) (w:World):(callFunc 153 #[hZ a,hZ b,hZ c]).run Tryz.prog w=.ok (.value (.tuple #[hZ (qq a b c),hZ (WH a b c)])) w:=by
 unfold hZ
 rw [run_callFunc_extern Tryz.func153 (by kernel_rfl) (by kernel_rfl) (by kernel_rfl) (e:=aDu) (by kernel_rfl),amF a.toNat b.toNat c.toNat (by omega)]
 have ha:=a.toNat_lt
 have hb:=b.toNat_lt
 have e1:(qq a b c).toNat=(a.toNat+18446744073709551616-b.toNat-c.toNat)%18446744073709551616:=by
  unfold qq
  rw [UInt64.toNat_ofNat',Nat.mod_eq_of_lt (by omega)]
 have e2:(WH a b c).toNat=if a.toNat<b.toNat+c.toNat then 1 else 0:=by
  unfold WH
  rw [UInt64.toNat_ofNat',Nat.mod_eq_of_lt (by split<;>omega)]
 rw [e1,e2]
 rfl
theorem axk:ac Tryz.prog 153 (VY.aH FP alQ):=by
 refine aDV (k:=0) (by kernel_rfl) λx oy vs N w hp ho hr=> ?_
 obtain ⟨⟨a,b,c,⟨⟩⟩,⟨⟩⟩:=x
 cases ho
 have hc:c.toNat<=1:=of_decide_eq_true hp
 have hr':SV.ci N [.u64 a,.u64 b,.u64 c] vs:=hr
 simp only [SV.ci,SV.rel] at hr'
 obtain ⟨_,_,rfl,rfl,_,_,rfl,rfl,_,_,rfl,rfl,rfl⟩:=hr'
 refine ⟨.tup [.u64 (qq a b c),.u64 (WH a b c)],_,ap1 a b c hc w,?_,⟨rfl,by kernel_rfl⟩⟩
 simp only [SV.rel]
 exact ⟨_,rfl,by simp only [SV.ci,SV.rel];exact ⟨_,_,rfl,rfl,_,_,rfl,rfl,rfl⟩⟩
def zB:cf:=(VY.aH FP alQ)
theorem aaX:ac Tryz.prog 153 zB:=axk
theorem aaW:aF zB:=aA
def DF:Env:=ay 153 zB WE
theorem Ae:aQ Tryz.prog DF:=ag aaX agW
theorem DE:ax DF:=ae aaW WD
theorem ab3:aU Tryz.prog te DF:=aJ follows aq Ae DE
def jk:aw:=⟨[.val false .u64,.val false .u64],[],true,0,false⟩
abbrev FV:Type:=((UInt64)×(UInt64)×Unit)×(Unit)
def M7:az:=⟨[.val false .u64,.val false .u64],[],false⟩
def Se:SV->Option az:=λ_=>some M7
def I8 (a0:UInt64) (a1:UInt64):OT jk.Y:=
 let z0:UInt64:=be a0 (32:Int)
 let z1:UInt64:=be a1 (32:Int)
 let z2:UInt64:=z0*(a1&&&(4294967295:UInt64))+be ((a0&&&(4294967295:UInt64))*(a1&&&(4294967295:UInt64))) (32:Int)
 (.ok ⟨M7,((z0*z1+be z2 (32:Int)+be ((z2&&&(4294967295:UInt64))+(a0&&&(4294967295:UInt64))*z1) (32:Int),(a0*a1,())),())⟩)
theorem aCN (x:FV) (Q:jk.Y->Prop):wpf te DF av 1000 Tryz.f165 (jk.inp.inj x).tm (jk.inp.inj x).hp (fnK jk Se Q) (λ_ _=>False)=(I8 (x.1.1) (x.1.2.1)).wpR Q:=by kernel_rfl
theorem af6 (pre:FV->Bool) (F:FV->OT jk.Y) (hF:∀ (x:FV) oy,pre x=true->(F x).run=some oy->(I8 (x.1.1) (x.1.2.1)).run=some oy):ac Tryz.prog 165 (jk.aH pre F):=
 aD aq Ae ab3 (f:=165) (fn:=Tryz.f165) (c:=aj Tryz.f165) (by kernel_rfl) (by kernel_rfl) (by kernel_rfl) (S:=jk) (k:=0) (by kernel_rfl) (λR hR=>af) (n:=1000) (sel:=Se) (λv o h=>by cases h;rfl) (pre:=pre) (F:=F) (T:=λx=>I8 (x.1.1) (x.1.2.1)) (λx Q=>aCN x Q) hF
def Sf (_:FV):Bool:=true
def V2 (x:FV):OT jk.Y:=.ok ⟨M7,((ax7 x.1.1 x.1.2.1,(x.1.1*x.1.2.1,())),())⟩
theorem axs:ac Tryz.prog 165 (jk.aH Sf V2):=af6 _ _ λx oy _ ho=>by
 rw [<-ho]
 simp only [V2,I8,aJD]
def zE:cf:=(jk.aH Sf V2)
theorem aa5:ac Tryz.prog 165 zE:=axs
theorem aa4:aF zE:=aA
def DM:Env:=ay 165 zE DF
theorem Ah:aQ Tryz.prog DM:=ag aa5 Ae
theorem DL:ax DM:=ae aa4 DE
theorem ab7:aU Tryz.prog te DM:=aJ follows aq Ah DL
def jl:aw:=⟨[.val false .u64],[],true,0,false⟩
abbrev FY:Type:=((UInt64)×Unit)×(Unit)
def fo:az:=⟨[.val false .int],[],false⟩
def Si:SV->Option az:=λ_=>some fo
def Ct (a0:UInt64):OT jl.Y:=
 let z0:UInt64:=be a0 (32:Int)
 let z1:UInt64:=be z0 (16:Int)
 let z2:Int:=(↑(UInt8.toNat (UInt64.toUInt8 (be z1 (8:Int)))):Int)
 let z3:List UInt8:=List.replicate 64 (8:UInt8)
 let z4:List UInt8:=List.append (List.append [(0:UInt8),(1:UInt8),(2:UInt8),(2:UInt8),(3:UInt8),(3:UInt8),(3:UInt8),(3:UInt8),(4:UInt8),(4:UInt8),(4:UInt8),(4:UInt8),(4:UInt8),(4:UInt8),(4:UInt8),(4:UInt8),(5:UInt8),(5:UInt8),(5:UInt8),(5:UInt8),(5:UInt8),(5:UInt8),(5:UInt8),(5:UInt8),(5:UInt8),(5:UInt8),(5:UInt8),(5:UInt8),(5:UInt8),(5:UInt8),(5:UInt8),(5:UInt8),(6:UInt8),(6:UInt8),(6:UInt8),(6:UInt8),(6:UInt8),(6:UInt8),(6:UInt8),(6:UInt8),(6:UInt8),(6:UInt8),(6:UInt8),(6:UInt8),(6:UInt8),(6:UInt8),(6:UInt8),(6:UInt8),(6:UInt8),(6:UInt8),(6:UInt8),(6:UInt8),(6:UInt8),(6:UInt8),(6:UInt8),(6:UInt8),(6:UInt8),(6:UInt8),(6:UInt8),(6:UInt8),(6:UInt8),(6:UInt8),(6:UInt8),(6:UInt8)] (List.replicate 64 (7:UInt8))) (List.append z3 z3)
 let z5:Int:=(56:Int)+(↑(UInt8.toNat (List.getD z4 (Int.toNat z2) (0:UInt8))):Int)
 let z6:Int:=(↑(UInt8.toNat (UInt64.toUInt8 z1)):Int)
 let z7:Int:=(48:Int)+(↑(UInt8.toNat (List.getD z4 (Int.toNat z6) (0:UInt8))):Int)
 let z8:Int:=(↑(UInt8.toNat (UInt64.toUInt8 (be z0 (8:Int)))):Int)
 let z9:Int:=(40:Int)+(↑(UInt8.toNat (List.getD z4 (Int.toNat z8) (0:UInt8))):Int)
 let z10:Int:=(↑(UInt8.toNat (UInt64.toUInt8 z0)):Int)
 let z11:Int:=(32:Int)+(↑(UInt8.toNat (List.getD z4 (Int.toNat z10) (0:UInt8))):Int)
 let z12:UInt64:=be a0 (16:Int)
 let z13:Int:=(↑(UInt8.toNat (UInt64.toUInt8 (be z12 (8:Int)))):Int)
 let z14:Int:=(24:Int)+(↑(UInt8.toNat (List.getD z4 (Int.toNat z13) (0:UInt8))):Int)
 let z15:Int:=(↑(UInt8.toNat (UInt64.toUInt8 z12)):Int)
 let z16:Int:=(16:Int)+(↑(UInt8.toNat (List.getD z4 (Int.toNat z15) (0:UInt8))):Int)
 let z17:Int:=(↑(UInt8.toNat (UInt64.toUInt8 (be a0 (8:Int)))):Int)
 let z18:Int:=(8:Int)+(↑(UInt8.toNat (List.getD z4 (Int.toNat z17) (0:UInt8))):Int)
 let z19:Int:=(↑(UInt8.toNat (UInt64.toUInt8 a0)):Int)
 let z20:Int:=(0:Int)+(↑(UInt8.toNat (List.getD z4 (Int.toNat z19) (0:UInt8))):Int)
 (.br (decide ((4294967296:UInt64)<=a0))
 (.br (decide ((65536:UInt64)<=z0))
  (.br (decide ((256:UInt64)<=z1))
   (gd [inB z2 256,inR z5] (.ok ⟨fo,((z5,()),())⟩))
   (gd [inB z6 256,inR z7] (.ok ⟨fo,((z7,()),())⟩)))
  (.br (decide ((256:UInt64)<=z0))
   (gd [inB z8 256,inR z9] (.ok ⟨fo,((z9,()),())⟩))
   (gd [inB z10 256,inR z11] (.ok ⟨fo,((z11,()),())⟩))))
 (.br (decide ((65536:UInt64)<=a0))
  (.br (decide ((256:UInt64)<=z12))
   (gd [inB z13 256,inR z14] (.ok ⟨fo,((z14,()),())⟩))
   (gd [inB z15 256,inR z16] (.ok ⟨fo,((z16,()),())⟩)))
  (.br (decide ((256:UInt64)<=a0))
   (gd [inB z17 256,inR z18] (.ok ⟨fo,((z18,()),())⟩))
   (gd [inB z19 256,inR z20] (.ok ⟨fo,((z20,()),())⟩)))))
theorem aCP (x:FY) (Q:jl.Y->Prop):wpf te DM av 1000 Tryz.f166 (jl.inp.inj x).tm (jl.inp.inj x).hp (fnK jl Si Q) (λ_ _=>False)=(Ct (x.1.1)).wpR Q:=by kernel_rfl
theorem agb (pre:FY->Bool) (F:FY->OT jl.Y) (hF:∀ (x:FY) oy,pre x=true->(F x).run=some oy->(Ct (x.1.1)).run=some oy):ac Tryz.prog 166 (jl.aH pre F):=
 aD aq Ah ab7 (f:=166) (fn:=Tryz.f166) (c:=aj Tryz.f166) (by kernel_rfl) (by kernel_rfl) (by kernel_rfl) (S:=jl) (k:=0) (by kernel_rfl) (λR hR=>af) (n:=1000) (sel:=Si) (λv o h=>by cases h;rfl) (pre:=pre) (F:=F) (T:=λx=>Ct (x.1.1)) (λx Q=>aCP x Q) hF
def fQ (x:UInt64):Bool:=(x==16513537)||(x==16521217)
theorem dY {x:UInt64} (h:fQ x=true):x=16513537\/x=16521217:=by
 simpa [fQ] using h
def FX (x:FY):Bool:=fQ x.1.1
def al0 (_:FY):OT jl.Y:=.ok ⟨fo,(((24:Int),()),())⟩
theorem aba:(Ct 16513537).run=some ⟨fo,(((24:Int),()),())⟩/\(Ct 16521217).run=some ⟨fo,(((24:Int),()),())⟩:=⟨by kernel_rfl,by kernel_rfl⟩
theorem axw:ac Tryz.prog 166 (jl.aH FX al0):=agb _ _ λx oy hp ho=>by
 rw [<-ho]
 clear ho
 obtain ⟨⟨x,⟨⟩⟩,⟨⟩⟩:=x
 rcases dY hp with h|h
 ·have h:x=16513537:=h
  subst h
  exact aba.1
 ·have h:x=16521217:=h
  subst h
  exact aba.2
def zF:cf:=(jl.aH FX al0)
theorem aa9:ac Tryz.prog 166 zF:=axw
theorem aa8:aF zF:=aA
def DO:Env:=ay 166 zF DM
theorem Ak:aQ Tryz.prog DO:=ag aa9 Ah
theorem DN:ax DO:=ae aa8 DL
theorem ab9:aU Tryz.prog te DO:=aJ follows aq Ak DN
def mE:aw:=⟨[.val false .u64],[],true,0,false⟩
abbrev Sg:Type:=((UInt64)×Unit)×(Unit)
def V3:az:=⟨[.val false .int],[],false⟩
def aa6:SV->Option az:=λ_=>some V3
def aga (a0:UInt64):OT mE.Y:=
 (gd [FX ((a0,()),())] (.ok ⟨V3,(((40:Int),()),())⟩))
theorem aIq (x:Sg) (Q:mE.Y->Prop):wpf te DO av 1000 Tryz.f154 (mE.inp.inj x).tm (mE.inp.inj x).hp (fnK mE aa6 Q) (λ_ _=>False)=(aga (x.1.1)).wpR Q:=by kernel_rfl
theorem aqb (pre:Sg->Bool) (F:Sg->OT mE.Y) (hF:∀ (x:Sg) oy,pre x=true->(F x).run=some oy->(aga (x.1.1)).run=some oy):ac Tryz.prog 154 (mE.aH pre F):=
 aD aq Ak ab9 (f:=154) (fn:=Tryz.f154) (c:=aj Tryz.f154) (by kernel_rfl) (by kernel_rfl) (by kernel_rfl) (S:=mE) (k:=0) (by kernel_rfl) (λR hR=>af) (n:=1000) (sel:=aa6) (λv o h=>by cases h;rfl) (pre:=pre) (F:=F) (T:=λx=>aga (x.1.1)) (λx Q=>aIq x Q) hF
def Na (x:Sg):Bool:=fQ x.1.1
def axv (_:Sg):OT mE.Y:=.ok ⟨V3,(((40:Int),()),())⟩
theorem aCO:ac Tryz.prog 154 (mE.aH Na axv):=aqb _ _ λx oy hp ho=>by
 rw [<-ho]
 clear ho
 obtain ⟨⟨x,⟨⟩⟩,⟨⟩⟩:=x
 have hp:fQ x=true:=hp
 refine (ah ?_).trans rfl
 simp only [List.all_cons,List.all_nil,Bool.and_true,Bool.and_eq_true]
 first|exact hp|exact ⟨hp,rfl⟩
def FW:cf:=(mE.aH Na axv)
theorem af9:ac Tryz.prog 154 FW:=aCO
theorem af8:aF FW:=aA
def Aj:Env:=ay 154 FW DO
theorem qh:aQ Tryz.prog Aj:=ag af9 Ak
theorem H8:ax Aj:=ae af8 DN
theorem Ai:aU Tryz.prog te Aj:=aJ follows aq qh H8
def gL:aw:=⟨[.val false .u64,.val false .u64,.val false .u64],[],true,0,false⟩
abbrev FZ:Type:=((UInt64)×(UInt64)×(UInt64)×Unit)×(Unit)
def uJ:Shape:=⟨135,[(2,.val false .u64),(8,.val false .u64),(9,.val false .u64),(10,.val false .u64),(11,.val false .u64),(13,.val false .u64),(14,.val false .u64),(15,.val false .u64),(16,.val false .u64)],[],0,true⟩
abbrev cJ:Type:=((UInt64)×(UInt64)×(UInt64)×(UInt64)×(UInt64)×(UInt64)×(UInt64)×(UInt64)×(UInt64)×Unit)×(Unit)
def mG:Shape:=⟨135,[(2,.val false .u64),(8,.val false .u64),(9,.val false .u64),(10,.val false .u64),(11,.val false .u64),(13,.val false .u64),(14,.val false .u64),(15,.val false .u64)],[],0,true⟩
abbrev kb:Type:=((UInt64)×(UInt64)×(UInt64)×(UInt64)×(UInt64)×(UInt64)×(UInt64)×(UInt64)×Unit)×(Unit)
def abg:SE->Option Shape:=fp [(0,mG)] none
def axF (a2:UInt64) (a8:UInt64) (a9:UInt64) (a10:UInt64) (a11:UInt64) (a13:UInt64) (a14:UInt64) (a15:UInt64) (a16:UInt64):OT (Sum cJ aE):=
 let z0:Bool:=decide ((4294967296:UInt64)<=a16+a9)
 (.br (decide ((4294967296:UInt64)<=a15))
 (.br (z0)
  (.ok (.inr ⟨(.exit 0,mG),((a2,(a8,(a9,(a10,(a11,(a13,(a14,(a15-(1:UInt64),())))))))),())⟩))
  (.ok (.inl ((a2,(a8,(a9,(a10,(a11,(a13,(a14,(a15-(1:UInt64),(a16+a9,()))))))))),()))))
 (.br (decide ((4294967296:UInt64)*a16+a13<a15*a10))
  (.br (z0)
   (.ok (.inr ⟨(.exit 0,mG),((a2,(a8,(a9,(a10,(a11,(a13,(a14,(a15-(1:UInt64),())))))))),())⟩))
   (.ok (.inl ((a2,(a8,(a9,(a10,(a11,(a13,(a14,(a15-(1:UInt64),(a16+a9,()))))))))),()))))
  (.ok (.inr ⟨(.exit 0,mG),((a2,(a8,(a9,(a10,(a11,(a13,(a14,(a15,())))))))),())⟩))))
def Cz (s:cJ):OT (Sum cJ aE):=axF (s.1.1) (s.1.2.1) (s.1.2.2.1) (s.1.2.2.2.1) (s.1.2.2.2.2.1) (s.1.2.2.2.2.2.1) (s.1.2.2.2.2.2.2.1) (s.1.2.2.2.2.2.2.2.1) (s.1.2.2.2.2.2.2.2.2.1)
theorem axA (s:cJ) (Q:Sum cJ aE->Prop):wps te Aj av 1000 (aV (aj Tryz.f128) 0) (uJ.inj s) (bV uJ abg (Q:Sum uJ.T aE->Prop))=(Cz s).wpR Q:=by kernel_rfl
def Cx (g0_0:cJ->kb) (s:cJ):OT aE:=(.ok ⟨(.exit 0,mG),g0_0 s⟩)
def uI:Shape:=⟨135,[(2,.val false .u64),(8,.val false .u64),(9,.val false .u64),(10,.val false .u64),(14,.val false .u64),(15,.val false .u64),(16,.val false .u64),(17,.val false .u64),(18,.val false .u64)],[],0,true⟩
abbrev cI:Type:=((UInt64)×(UInt64)×(UInt64)×(UInt64)×(UInt64)×(UInt64)×(UInt64)×(UInt64)×(UInt64)×Unit)×(Unit)
def mF:Shape:=⟨135,[(2,.val false .u64),(8,.val false .u64),(14,.val false .u64),(15,.val false .u64),(17,.val false .u64),(18,.val false .u64)],[],0,true⟩
abbrev ka:Type:=((UInt64)×(UInt64)×(UInt64)×(UInt64)×(UInt64)×(UInt64)×Unit)×(Unit)
def abf:SE->Option Shape:=fp [(2,mF)] none
def axE (a2:UInt64) (a8:UInt64) (a9:UInt64) (a10:UInt64) (a14:UInt64) (a15:UInt64) (a16:UInt64) (a17:UInt64) (a18:UInt64):OT (Sum cI aE):=
 let z0:Bool:=decide ((4294967296:UInt64)<=a16+a9)
 (.br (decide ((4294967296:UInt64)<=a18))
 (.br (z0)
  (.ok (.inr ⟨(.exit 2,mF),((a2,(a8,(a14,(a15,(a17,(a18-(1:UInt64),())))))),())⟩))
  (.ok (.inl ((a2,(a8,(a9,(a10,(a14,(a15,(a16+a9,(a17,(a18-(1:UInt64),()))))))))),()))))
 (.br (decide ((4294967296:UInt64)*a16+a14<a18*a10))
  (.br (z0)
   (.ok (.inr ⟨(.exit 2,mF),((a2,(a8,(a14,(a15,(a17,(a18-(1:UInt64),())))))),())⟩))
   (.ok (.inl ((a2,(a8,(a9,(a10,(a14,(a15,(a16+a9,(a17,(a18-(1:UInt64),()))))))))),()))))
  (.ok (.inr ⟨(.exit 2,mF),((a2,(a8,(a14,(a15,(a17,(a18,())))))),())⟩))))
def Cy (s:cI):OT (Sum cI aE):=axE (s.1.1) (s.1.2.1) (s.1.2.2.1) (s.1.2.2.2.1) (s.1.2.2.2.2.1) (s.1.2.2.2.2.2.1) (s.1.2.2.2.2.2.2.1) (s.1.2.2.2.2.2.2.2.1) (s.1.2.2.2.2.2.2.2.2.1)
theorem axz (s:cI) (Q:Sum cI aE->Prop):wps te Aj av 1000 (aV (aj Tryz.f128) 2) (uI.inj s) (bV uI abf (Q:Sum uI.T aE->Prop))=(Cy s).wpR Q:=by kernel_rfl
def Cw (g2_2:cI->ka) (s:cI):OT aE:=(.ok ⟨(.exit 2,mF),g2_2 s⟩)
def pN:az:=⟨[.val false .u64,.val false .u64],[],false⟩
def Sk:SV->Option az:=λ_=>some pN
def Ja (ok0:cJ->Bool) (g0_0:cJ->kb) (ok2:cI->Bool) (g2_2:cI->ka) (a0:UInt64) (a1:UInt64) (a2:UInt64):OT gL.Y:=
 let z0:Bool:= !a2==(0:UInt64)
 let z1:UInt64:=bP a2 (40:Int)
 let z2:UInt64:=be z1 (32:Int)
 let z3:UInt64:=bP a0 (40:Int)|||be a1 (24:Int)
 let z4:UInt64:=bP a1 (40:Int)
 let z5:UInt64:=z3/z2
 let z6:(UInt64×UInt64×UInt64×UInt64×UInt64×UInt64×UInt64×UInt64×UInt64×PUnit)×PUnit:=((z1,(40:UInt64),z2,z1&&&(4294967295:UInt64),z3,be z4 (32:Int),z4&&&(4294967295:UInt64),z5,z3-z5*z2,()),())
 let z7:=(g0_0 z6).fst
 let z8:=z7.snd
 let z9:=z8.snd
 let z10:=z9.fst
 let z11:=z7.fst
 let z12:=z9.snd
 let z13:=z12.snd
 let z14:=z13.snd
 let z15:=z14.snd
 let z16:=z15.snd.fst
 let z17:UInt64:=z13.fst*(4294967296:UInt64)+z14.fst-z16*z11
 let z18:UInt64:=z17/z10
 let z19:(UInt64×UInt64×UInt64×UInt64×UInt64×UInt64×UInt64×UInt64×UInt64×PUnit)×PUnit:=((z11,z8.fst,z10,z12.fst,z15.fst,z16,z17-z18*z10,z17,z18,()),())
 let z20:=(g2_2 z19).fst
 let z21:=z20.snd
 let z22:=z21.snd
 let z23:=z22.snd
 let z24:=z23.snd
 let z25:=z24.snd.fst
 (.br (a2==(0:UInt64))
 .fail
 (.br (decide (a2<=a0))
  .fail
  (.br (a0==(0:UInt64))
   (gd [z0,z0] (.ok ⟨pN,((a1/a2,(a1%a2,())),())⟩))
   (gd [Na ((a2,()),()),!z2==(0:UInt64),ok0 z6,!z10==(0:UInt64),ok2 z19] (.ok ⟨pN,((z23.fst*(4294967296:UInt64)+z25,(be (z24.fst*(4294967296:UInt64)+z22.fst-z25*z20.fst) (↑(UInt64.toNat z21.fst):Int),())),())⟩)))))
theorem aCQ (ok0:cJ->Bool) (g0_0:cJ->kb) (ok2:cI->Bool) (g2_2:cI->ka) (x:FZ) (Q:gL.Y->Prop):wpf te Aj (aO 2 (cb uI 2 ok2 (Cw g2_2)) (aO 0 (cb uJ 0 ok0 (Cx g0_0)) av)) 1000 Tryz.f128 (gL.inp.inj x).tm (gL.inp.inj x).hp (fnK gL Sk Q) (λ_ _=>False)=(Ja ok0 g0_0 ok2 g2_2 (x.1.1) (x.1.2.1) (x.1.2.2.1)).wpR Q:=by kernel_rfl
theorem agh (ok0:cJ->Bool) (g0_0:cJ->kb) (ok2:cI->Bool) (g2_2:cI->ka) (h0:∀ s:cJ,ok0 s=true->∃ m e,al (Cz) m s=some e/\(Cx g0_0 s).run=some e) (h2:∀ s:cI,ok2 s=true->∃ m e,al (Cy) m s=some e/\(Cw g2_2 s).run=some e) (pre:FZ->Bool) (F:FZ->OT gL.Y) (hF:∀ (x:FZ) oy,pre x=true->(F x).run=some oy->(Ja ok0 g0_0 ok2 g2_2 (x.1.1) (x.1.2.1) (x.1.2.2.1)).run=some oy):ac Tryz.prog 128 (gL.aH pre F):=
 aD aq qh Ai (f:=128) (fn:=Tryz.f128) (c:=aj Tryz.f128) (by kernel_rfl) (by kernel_rfl) (by kernel_rfl) (S:=gL) (k:=0) (by kernel_rfl) (λR hR=>(aB (c:=(aj Tryz.f128)) (by kernel_rfl) (id:=2) (by kernel_rfl) (aS aq qh Ai (sh:=uI) hR (xs:=abf) (aC (by kernel_rfl) (by kernel_rfl) hR) aK af (n:=1000) (T:=Cy) (λs Q=>axz s Q) (ok:=ok2) (f:=Cw g2_2) h2) (aB (c:=(aj Tryz.f128)) (by kernel_rfl) (id:=0) (by kernel_rfl) (aS aq qh Ai (sh:=uJ) hR (xs:=abg) (aC (by kernel_rfl) (by kernel_rfl) hR) aK af (n:=1000) (T:=Cz) (λs Q=>axA s Q) (ok:=ok0) (f:=Cx g0_0) h0) af))) (n:=1000) (sel:=Sk) (λv o h=>by cases h;rfl) (pre:=pre) (F:=F) (T:=λx=>Ja ok0 g0_0 ok2 g2_2 (x.1.1) (x.1.2.1) (x.1.2.2.1)) (λx Q=>aCQ ok0 g0_0 ok2 g2_2 x Q) hF
def Sn (s:cJ):Bool:=decide (s.1.2.2.2.1=0/\s.1.2.2.2.2.2.2.2.1<4294967296)
def abl (s:cJ):kb:=((s.1.1,s.1.2.1,s.1.2.2.1,s.1.2.2.2.1,s.1.2.2.2.2.1,s.1.2.2.2.2.2.1,s.1.2.2.2.2.2.2.1,s.1.2.2.2.2.2.2.2.1,()),())
theorem K8 {a b:UInt64} (h:b<a):decide (a<=b)=false:=decide_eq_false (by rw [UInt64.le_iff_toNat_le,UInt64.lt_iff_toNat_lt] at*;omega)
theorem not_lt_zero {a b:UInt64}:decide (a<b*0)=false:=decide_eq_false (by
 have:b*0=0:=by rw [<-UInt64.toNat_inj];simp
 rw [this,UInt64.lt_iff_toNat_lt]
 exact Nat.not_lt_zero _)
theorem axD:∀ s:cJ,Sn s=true->∃ m e,al Cz m s=some e/\(Cx abl s).run=some e:=by
 rintro ⟨⟨a2,a8,a9,a10,a11,a13,a14,a15,a16,⟨⟩⟩,⟨⟩⟩ h
 have h':=of_decide_eq_true h
 dsimp only at h'
 obtain ⟨rfl,hl⟩:=h'
 exact ⟨1,_,aM ((OT.ar (K8 hl)).trans (OT.ar not_lt_zero)),rfl⟩
def Sl (s:cI):Bool:=decide (s.1.2.2.2.1=0/\s.1.2.2.2.2.2.2.2.2.1<4294967296)
def abk (s:cI):ka:=((s.1.1,s.1.2.1,s.1.2.2.2.2.1,s.1.2.2.2.2.2.1,s.1.2.2.2.2.2.2.2.1,s.1.2.2.2.2.2.2.2.2.1,()),())
theorem axC:∀ s:cI,Sl s=true->∃ m e,al Cy m s=some e/\(Cw abk s).run=some e:=by
 rintro ⟨⟨a2,a8,a9,a10,a14,a15,a16,a17,a18,⟨⟩⟩,⟨⟩⟩ h
 have h':=of_decide_eq_true h
 dsimp only at h'
 obtain ⟨rfl,hl⟩:=h'
 exact ⟨1,_,aM ((OT.ar (K8 hl)).trans (OT.ar not_lt_zero)),rfl⟩
def wR (x:FZ):Bool:=fQ x.1.2.2.1&&decide (x.1.1<x.1.2.2.1)
def V8 (x:FZ):OT gL.Y:=.ok ⟨pN,((aIL x.1.1 x.1.2.1 x.1.2.2.1,aat x.1.1 x.1.2.1 x.1.2.2.1,()),())⟩
theorem aqT {v z:Nat} (hv:v<4294967296) (hz:z<4294967296):(v*4294967296%2^64+z)%2^64=(v*(256*16777216)+z)%2^64:=by
 rw [Nat.mod_eq_of_lt (a:=v*4294967296) (by omega)]
theorem aye {s:Nat} (hs:s<4294967296):s*4294967296/2^40=s/256%2^64:=by
 rw [Nat.mod_eq_of_lt (by omega),show (2:Nat)^40=256*4294967296 from rfl,Nat.mul_div_mul_right _ _ (by omega)]
theorem abh {h l y:UInt64} {m:Nat} (hm:y.toNat=m) (hy:(bP y 40).toNat=m*1099511627776) (hy1:(be (bP y 40) 32).toNat=m*256) (hy0:bP y 40&&&4294967295=0) (hm0:0<m) (hm1:m<16777216) (hh:h.toNat<m):
 let u:=bP h 40|||be l 24
 let q1:=u/be (bP y 40) 32
 let un21:=u*4294967296+be (bP l 40) 32-q1*bP y 40
 let q0:=un21/be (bP y 40) 32
 q1<4294967296/\q0<4294967296/\q1*4294967296+q0=aIL h l y/\be (un21*4294967296+(bP l 40&&&4294967295)-q0*bP y 40) 40=aat h l y:=by
 intro u q1 un21 q0
 have hl:=l.toNat_lt
 have hu:u.toNat=h.toNat*1099511627776+l.toNat/16777216:=by
  have e1:(bP h 40).toNat=h.toNat*1099511627776:=by
   rw [show ((40:Int))=((40:Nat):Int) from rfl,lD _ _ (by omega)]
   exact Nat.mod_eq_of_lt (by omega)
  have e2:(be l 24).toNat=l.toNat/16777216:=eY l 24 (by omega)
  simp only [u]
  rw [UInt64.toNat_or,e1,e2,Nat.mul_comm]
  have:=Nat.two_pow_add_eq_or_of_lt (i:=40) (b:=l.toNat/16777216) (by omega) h.toNat
  exact this.symm
 have hun1:(be (bP l 40) 32).toNat=l.toNat%16777216*256:=by
  rw [show ((32:Int))=((32:Nat):Int) from rfl,eY _ _ (by omega),show ((40:Int))=((40:Nat):Int) from rfl,lD _ _ (by omega)]
  omega
 have hun0:bP l 40&&&4294967295=0:=by
  rw [<-UInt64.toNat_inj,jL,show ((40:Int))=((40:Nat):Int) from rfl,lD _ _ (by omega)]
  show l.toNat*2^40%2^64%4294967296=0
  omega
 have hq1:q1.toNat=u.toNat/(m*256):=by simp only [q1];rw [UInt64.toNat_div,hy1]
 have hN:h.toNat*18446744073709551616+l.toNat=u.toNat*16777216+l.toNat%16777216:=by rw [hu];omega
 have hqr:u.toNat=q1.toNat*(m*256)+u.toNat%(m*256):=by
  rw [hq1,Nat.mul_comm]
  exact (Nat.div_add_mod _ _).symm
 have hr:u.toNat%(m*256)<m*256:=Nat.mod_lt _ (by omega)
 have hul:u.toNat<m*256*4294967296:=by rw [hu];omega
 have hq1l:q1.toNat<4294967296:=by rw [hq1];exact Nat.div_lt_of_lt_mul hul
 generalize hrr:u.toNat%(m*256)=r at*
 have hprod:q1.toNat*(m*1099511627776)=q1.toNat*(m*256)*4294967296:=by
  rw [Nat.mul_assoc,Nat.mul_assoc]
 have h21:un21.toNat=r*4294967296+l.toNat%16777216*256:=by
  simp only [un21]
  rw [UInt64.toNat_sub,UInt64.toNat_add,UInt64.toNat_mul,UInt64.toNat_mul,hun1,hy,hprod,show (4294967296:UInt64).toNat=4294967296 from rfl]
  generalize q1.toNat*(m*256)=A at*
  omega
 have hq0:q0.toNat=un21.toNat/(m*256):=by simp only [q0];rw [UInt64.toNat_div,hy1]
 have h21l:un21.toNat<m*256*4294967296:=by rw [h21];omega
 have hq0l:q0.toNat<4294967296:=by rw [hq0];exact Nat.div_lt_of_lt_mul h21l
 have hqr0:un21.toNat=q0.toNat*(m*256)+un21.toNat%(m*256):=by
  rw [hq0,Nat.mul_comm]
  exact (Nat.div_add_mod _ _).symm
 have hr0:un21.toNat%(m*256)<m*256:=Nat.mod_lt _ (by omega)
 obtain ⟨d1,d2⟩:=Vy (K:=16777216) (L:=256) hm0 (by omega) hN hqr
 have e21:(r*16777216+l.toNat%16777216)*256=un21.toNat:=by rw [h21];omega
 rw [e21] at d1 d2
 refine ⟨by rw [UInt64.lt_iff_toNat_lt];exact hq1l,by rw [UInt64.lt_iff_toNat_lt];exact hq0l,?_,?_⟩
 ·rw [<-UInt64.toNat_inj,UInt64.toNat_add,UInt64.toNat_mul,show (4294967296:UInt64).toNat=4294967296 from rfl,hq0]
  unfold aIL
  rw [hm,UInt64.toNat_ofNat',d1,<-hq0]
  exact aqT hq1l hq0l
 ·have hprod0:q0.toNat*(m*1099511627776)=q0.toNat*(m*256)*4294967296:=by
   rw [Nat.mul_assoc,Nat.mul_assoc]
  have e3:(un21*4294967296+(bP l 40&&&4294967295)-q0*bP y 40).toNat=(un21.toNat%(m*256))*4294967296:=by
   rw [hun0,UInt64.toNat_sub,UInt64.toNat_add,UInt64.toNat_mul,UInt64.toNat_mul,hy,hprod0,show (4294967296:UInt64).toNat=4294967296 from rfl,show (0:UInt64).toNat=0 from rfl]
   generalize un21.toNat%(m*256)=s at*
   generalize q0.toNat*(m*256)=A at*
   omega
  rw [<-UInt64.toNat_inj,show ((40:Int))=((40:Nat):Int) from rfl,eY _ _ (by omega),show ((40:Nat):Int)=40 from rfl,e3]
  unfold aat
  rw [hm,UInt64.toNat_ofNat',d2]
  exact aye (by omega)
theorem acF {y:UInt64} (h:fQ y=true):∃ m,y.toNat=m/\(bP y 40).toNat=m*1099511627776/\(be (bP y 40) 32).toNat=m*256/\bP y 40&&&4294967295=0/\0<m/\m<16777216:=by
 rcases dY h with rfl|rfl
 ·exact ⟨16513537,rfl,by decide+kernel,by decide+kernel,by decide+kernel,by omega,by omega⟩
 ·exact ⟨16521217,rfl,by decide+kernel,by decide+kernel,by decide+kernel,by omega,by omega⟩
theorem axB:ac Tryz.prog 128 (gL.aH wR V8):=agh Sn abl Sl abk axD axC _ _ λx oy hp ho=>by
 rw [<-ho]
 clear ho
 obtain ⟨⟨h,l,y,⟨⟩⟩,⟨⟩⟩:=x
 have hp':(fQ y&&decide (h<y))=true:=hp
 rw [Bool.and_eq_true] at hp'
 obtain ⟨hs,hlt⟩:=hp'
 have hlt:=of_decide_eq_true hlt
 obtain ⟨m,f1,f2,f3,f4,f5,f6⟩:=acF hs
 have hh:h.toNat<m:=by rw [<-f1];exact UInt64.lt_iff_toNat_lt.1 hlt
 have hy0:¬y=0:=λe=>by rw [e] at f1;simp at f1;omega
 have hyb:(y==0)=false:=by simpa using hy0
 have hle:decide (y<=h)=false:=K8 hlt
 unfold Ja
 refine (OT.ar hyb).trans ((OT.ar hle).trans ?_)
 by_cases h0:h=0
 ·subst h0
  refine (OT.ap rfl).trans ((ah ?_).trans ?_)
  ·simp only [hyb,List.all_cons,List.all_nil,Bool.and_true,Bool.not_false]
  ·have e1:aIL 0 l y=l/y:=by
    rw [<-UInt64.toNat_inj]
    unfold aIL
    rw [UInt64.toNat_ofNat',UInt64.toNat_div,show (0:UInt64).toNat=0 from rfl,Nat.zero_mul,Nat.zero_add]
    exact Nat.mod_eq_of_lt (Nat.lt_of_le_of_lt (Nat.div_le_self _ _) l.toNat_lt)
   have e2:aat 0 l y=l%y:=by
    rw [<-UInt64.toNat_inj]
    unfold aat
    rw [UInt64.toNat_ofNat',UInt64.toNat_mod,show (0:UInt64).toNat=0 from rfl,Nat.zero_mul,Nat.zero_add]
    exact Nat.mod_eq_of_lt (Nat.lt_of_le_of_lt (Nat.mod_le _ _) l.toNat_lt)
   simp only [V8,e1,e2]
 ·have hb:(h==0)=false:=by simpa using h0
  obtain ⟨w1,w2,w3,w4⟩:=abh (l:=l) f1 f2 f3 f4 f5 f6 hh
  have hz:(!(be (bP y 40) 32==0))=true:=by
   have:¬be (bP y 40) 32=0:=λe=>by rw [e] at f3;simp at f3;omega
   simpa using this
  refine (OT.ar hb).trans ((ah ?_).trans ?_)
  ·simp only [List.all_cons,List.all_nil,Bool.and_true,Bool.and_eq_true]
   exact ⟨hs,hz,decide_eq_true ⟨f4,w1⟩,hz,decide_eq_true ⟨f4,w2⟩⟩
  ·show some (⟨pN,((_,be _ ((40:UInt64).toNat:Int),()),())⟩:gL.Y)=some ⟨pN,((aIL h l y,aat h l y,()),())⟩
   rw [<-w3,<-w4]
   rfl
def zG:cf:=(gL.aH wR V8)
theorem abj:ac Tryz.prog 128 zG:=axB
theorem abi:aF zG:=aA
def xC:Env:=ay 128 zG Aj
theorem rU:aQ Tryz.prog xC:=ag abj qh
theorem DP:ax xC:=ae abi H8
theorem H9:aU Tryz.prog te xC:=aJ follows aq rU DP
def su:aw:=⟨[.val true .elem,.val true .elem],[],true,0,false⟩
abbrev amt:Type:=((aa)×(aa)×Unit)×(Unit)
def Ju:Shape:=⟨29,[(2,.ptr 0 0 0),(3,.ptr 1 0 0),(4,.ptr 2 0 0),(6,.ptr 3 0 0),(7,.val false .u64),(9,.val false .int)],[(0,.row .u64),(1,.row .u64),(2,.row .u64),(3,.row .u64)],0,true⟩
abbrev dF:Type:=((Unit)×(Unit)×(Unit)×(Unit)×(UInt64)×(Int)×Unit)×((List (UInt64))×(List (UInt64))×(List (UInt64))×(List (UInt64))×Unit)
def As:Shape:=⟨29,[(4,.ptr 0 0 0),(6,.ptr 1 0 0),(7,.val false .u64)],[(0,.row .u64),(1,.row .u64)],0,true⟩
abbrev ob:Type:=((Unit)×(Unit)×(UInt64)×Unit)×((List (UInt64))×(List (UInt64))×Unit)
def aq1:SE->Option Shape:=fp [(0,As)] none
def aEt (a7:UInt64) (a9:Int) (c0:List (UInt64)) (c1:List (UInt64)) (c2:List (UInt64)) (c3:List (UInt64)):OT (Sum dF aE):=
 let z0:Bool:=inB a9 4
 let z1:UInt64:=List.getD c0 (Int.toNat a9+0) (0:UInt64)
 let z2:UInt64:=List.getD c1 (Int.toNat a9+0) (0:UInt64)
 (.br (decide (a9<(4:Int)))
 (gd [z0,decide (Int.toNat a9+0<List.length c0),z0,decide (Int.toNat a9+0<List.length c1),F1 ((z1,z2,a7,()),()),z0,decide (Int.toNat a9+0<List.length c3),inR (a9+(1:Int))] (.ok (.inl (((),((),((),((),(An z1 z2 a7,(a9+(1:Int),())))))),(c0,(c1,(c2,(List.set c3 (Int.toNat a9+0) (xH z1 z2 a7),()))))))))
 (.ok (.inr ⟨(.exit 0,As),(((),((),(a7,()))),(c2,(c3,())))⟩)))
def Jv (s:dF):OT (Sum dF aE):=aEt (s.1.2.2.2.2.1) (s.1.2.2.2.2.2.1) (s.2.1) (s.2.2.1) (s.2.2.2.1) (s.2.2.2.2.1)
theorem aEq (s:dF) (Q:Sum dF aE->Prop):wps te xC av 1000 (aV (aj Tryz.f119) 0) (Ju.inj s) (bV Ju aq1 (Q:Sum Ju.T aE->Prop))=(Jv s).wpR Q:=by kernel_rfl
def S4 (g0_0:dF->ob) (s:dF):OT aE:=(.ok ⟨(.exit 0,As),g0_0 s⟩)
def acn:az:=⟨[.val true .elem,.val false .bool],[],false⟩
def aha:SV->Option az:=λ_=>some acn
def aq4 (ok0:dF->Bool) (g0_0:dF->ob) (a0:aa) (a1:aa):OT su.Y:=
 let z0:(PUnit×PUnit×PUnit×PUnit×UInt64×Int×PUnit)×List UInt64×List UInt64×List UInt64×List UInt64×PUnit:=(((),(),(),(),(0:UInt64),(0:Int),()),[a0.w0,a0.w1,a0.w2,a0.w3],[a1.w0,a1.w1,a1.w2,a1.w3],[(0:UInt64),(0:UInt64),(0:UInt64),(0:UInt64)],[(0:UInt64),(0:UInt64),(0:UInt64),(0:UInt64)],())
 let z1:(PUnit×PUnit×UInt64×PUnit)×List UInt64×List UInt64×PUnit:=g0_0 z0
 let z2:=z1.snd
 let z3:=z2.snd.fst
 let z4:=z2.fst
 let z5:List UInt64:=lay z4 z3 4 (0:UInt64)
 (gd [ok0 z0,decide (4<=List.length z3),decide ((4/1:Nat)+0<=List.length z4),decide (4<=List.length z5)] (.ok ⟨acn,(({w0:=List.getD z5 0 0,w1:=List.getD z5 1 0,w2:=List.getD z5 2 0,w3:=List.getD z5 3 0},(!z1.fst.snd.snd.fst==(0:UInt64),())),())⟩))
theorem aIU (ok0:dF->Bool) (g0_0:dF->ob) (x:amt) (Q:su.Y->Prop):wpf te xC (aO 0 (cb Ju 0 ok0 (S4 g0_0)) av) 1000 Tryz.f119 (su.inp.inj x).tm (su.inp.inj x).hp (fnK su aha Q) (λ_ _=>False)=(aq4 ok0 g0_0 (x.1.1) (x.1.2.1)).wpR Q:=by kernel_rfl
theorem aq2 (ok0:dF->Bool) (g0_0:dF->ob) (h0:∀ s:dF,ok0 s=true->∃ m e,al (Jv) m s=some e/\(S4 g0_0 s).run=some e) (pre:amt->Bool) (F:amt->OT su.Y) (hF:∀ (x:amt) oy,pre x=true->(F x).run=some oy->(aq4 ok0 g0_0 (x.1.1) (x.1.2.1)).run=some oy):ac Tryz.prog 119 (su.aH pre F):=
 aD aq rU H9 (f:=119) (fn:=Tryz.f119) (c:=aj Tryz.f119) (by kernel_rfl) (by kernel_rfl) (by kernel_rfl) (S:=su) (k:=0) (by kernel_rfl) (λR hR=>(aB (c:=(aj Tryz.f119)) (by kernel_rfl) (id:=0) (by kernel_rfl) (aS aq rU H9 (sh:=Ju) hR (xs:=aq1) (aC (by kernel_rfl) (by kernel_rfl) hR) aK af (n:=1000) (T:=Jv) (λs Q=>aEq s Q) (ok:=ok0) (f:=S4 g0_0) h0) af)) (n:=1000) (sel:=aha) (λv o h=>by cases h;rfl) (pre:=pre) (F:=F) (T:=λx=>aq4 ok0 g0_0 (x.1.1) (x.1.2.1)) (λx Q=>aIU ok0 g0_0 x Q) hF
def PC (a b:List UInt64) (k:Nat) (s:List UInt64×UInt64):List UInt64×UInt64:=(s.1.set k (xH (a.getD k 0) (b.getD k 0) s.2),An (a.getD k 0) (b.getD k 0) s.2)
def ahc (s:dF):Bool:=decide (s.1.2.2.2.2.1=0/\s.1.2.2.2.2.2.1=0/\s.2.1.length=4/\s.2.2.1.length=4/\s.2.2.2.2.1= [0,0,0,0])
def aq3 (s:dF):ob:=(((),(),(upto (PC s.2.1 s.2.2.1) ([0,0,0,0],0) 4).2,()),(s.2.2.2.1,(upto (PC s.2.1 s.2.2.1) ([0,0,0,0],0) 4).1,()))
theorem aEs:∀ s:dF,ahc s=true->∃ m e,al Jv m s=some e/\(S4 aq3 s).run=some e:=by
 rintro ⟨⟨⟨⟩,⟨⟩,⟨⟩,⟨⟩,c,i,⟨⟩⟩,⟨c0,c1,c2,c3,⟨⟩⟩⟩ h
 have h':=of_decide_eq_true h
 dsimp only at h'
 obtain ⟨rfl,rfl,h0,h1,rfl⟩:=h'
 have:=(aP (T:=Jv) (λk s=>((((),(),(),(),s.2,(k:Int),()),(c0,c1,c2,s.1,())):dF)) (PC c0 c1)
  (λs=>(⟨(.exit 0,As),(((),(),s.2,()),(c2,s.1,()))⟩:aE)) 4 ([0,0,0,0],0) (λ_ s=>s.1.length=4/\s.2.toNat<=1) ⟨rfl,by decide⟩ (λk s hk hs=>⟨?_,?_⟩) (λs hs=> ?_)).1
 ·obtain ⟨m,hm⟩:=this
  exact ⟨m,_,hm,rfl⟩
 ·refine (OT.ap (decide_eq_true (by dsimp only;omega))).trans ((ah ?_).trans ?_)
  ·simp only [Int.toNat_natCast,Nat.add_zero,h0,h1,hs.1,List.all_cons,List.all_nil,Bool.and_true,Bool.and_eq_true]
   exact ⟨aN (by omega),decide_eq_true (by omega),aN (by omega),decide_eq_true (by omega),decide_eq_true hs.2,aN (by omega),decide_eq_true (by omega),aI (by omega)⟩
  ·simp only [OT.cK,Int.toNat_natCast,Nat.add_zero]
   rfl
 ·exact ⟨by simp only [PC,List.length_set];exact hs.1,F3 hs.2⟩
 ·exact OT.ar (decide_eq_false (by dsimp only;omega))
theorem aID (x y:List UInt64) (hx:x.length=4) (hy:y.length=4):lay x y 4 0=y:=xO hx hy
def ahb (_:amt):Bool:=true
def aq5 (x:amt):OT su.Y:=.ok ⟨acn,(((qk x.1.1 x.1.2.1).1,((qk x.1.1 x.1.2.1).2,())),())⟩
theorem aEr:ac Tryz.prog 119 (su.aH ahb aq5):=aq2 ahc aq3 aEs _ _ λx oy hp ho=>by
 rw [<-ho]
 clear ho
 obtain ⟨⟨a,b,⟨⟩⟩,⟨⟩⟩:=x
 obtain ⟨_,hw⟩:=PJ a b
 refine (ah ?_).trans ?_
 ·simp only [List.all_cons,List.all_nil,Bool.and_true,Bool.and_eq_true]
  exact ⟨rfl,rfl,rfl,rfl⟩
 ·simp only [aq5,hw]
  rfl
def Jt:cf:=(su.aH ahb aq5)
theorem ams:ac Tryz.prog 119 Jt:=aEr
theorem amr:aF Jt:=aA
def Sz:Env:=ay 119 Jt xC
theorem CO:aQ Tryz.prog Sz:=ag ams rU
theorem Nt:ax Sz:=ae amr DP
theorem Sy:aU Tryz.prog te Sz:=aJ follows aq CO Nt
def sk:aw:=⟨[.val true .elem,.val true .elem],[],true,0,false⟩
abbrev amj:Type:=((aa)×(aa)×Unit)×(Unit)
def Jl:Shape:=⟨29,[(2,.ptr 0 0 0),(3,.ptr 1 0 0),(4,.ptr 2 0 0),(6,.ptr 3 0 0),(7,.val false .u64),(9,.val false .int)],[(0,.row .u64),(1,.row .u64),(2,.row .u64),(3,.row .u64)],0,true⟩
abbrev dE:Type:=((Unit)×(Unit)×(Unit)×(Unit)×(UInt64)×(Int)×Unit)×((List (UInt64))×(List (UInt64))×(List (UInt64))×(List (UInt64))×Unit)
def Ao:Shape:=⟨29,[(4,.ptr 0 0 0),(6,.ptr 1 0 0),(7,.val false .u64)],[(0,.row .u64),(1,.row .u64)],0,true⟩
abbrev oa:Type:=((Unit)×(Unit)×(UInt64)×Unit)×((List (UInt64))×(List (UInt64))×Unit)
def aqH:SE->Option Shape:=fp [(0,Ao)] none
def aEj (a7:UInt64) (a9:Int) (c0:List (UInt64)) (c1:List (UInt64)) (c2:List (UInt64)) (c3:List (UInt64)):OT (Sum dE aE):=
 let z0:Bool:=inB a9 4
 let z1:UInt64:=List.getD c0 (Int.toNat a9+0) (0:UInt64)
 let z2:UInt64:=List.getD c1 (Int.toNat a9+0) (0:UInt64)
 (.br (decide (a9<(4:Int)))
 (gd [z0,decide (Int.toNat a9+0<List.length c0),z0,decide (Int.toNat a9+0<List.length c1),FP ((z1,z2,a7,()),()),z0,decide (Int.toNat a9+0<List.length c3),inR (a9+(1:Int))] (.ok (.inl (((),((),((),((),(WH z1 z2 a7,(a9+(1:Int),())))))),(c0,(c1,(c2,(List.set c3 (Int.toNat a9+0) (qq z1 z2 a7),()))))))))
 (.ok (.inr ⟨(.exit 0,Ao),(((),((),(a7,()))),(c2,(c3,())))⟩)))
def Jm (s:dE):OT (Sum dE aE):=aEj (s.1.2.2.2.2.1) (s.1.2.2.2.2.2.1) (s.2.1) (s.2.2.1) (s.2.2.2.1) (s.2.2.2.2.1)
theorem aEg (s:dE) (Q:Sum dE aE->Prop):wps te Sz av 1000 (aV (aj Tryz.f125) 0) (Jl.inj s) (bV Jl aqH (Q:Sum Jl.T aE->Prop))=(Jm s).wpR Q:=by kernel_rfl
def SY (g0_0:dE->oa) (s:dE):OT aE:=(.ok ⟨(.exit 0,Ao),g0_0 s⟩)
def ace:az:=⟨[.val true .elem,.val false .bool],[],false⟩
def agY:SV->Option az:=λ_=>some ace
def aqK (ok0:dE->Bool) (g0_0:dE->oa) (a0:aa) (a1:aa):OT sk.Y:=
 let z0:(PUnit×PUnit×PUnit×PUnit×UInt64×Int×PUnit)×List UInt64×List UInt64×List UInt64×List UInt64×PUnit:=(((),(),(),(),(0:UInt64),(0:Int),()),[a0.w0,a0.w1,a0.w2,a0.w3],[a1.w0,a1.w1,a1.w2,a1.w3],[(0:UInt64),(0:UInt64),(0:UInt64),(0:UInt64)],[(0:UInt64),(0:UInt64),(0:UInt64),(0:UInt64)],())
 let z1:(PUnit×PUnit×UInt64×PUnit)×List UInt64×List UInt64×PUnit:=g0_0 z0
 let z2:=z1.snd
 let z3:=z2.snd.fst
 let z4:=z2.fst
 let z5:List UInt64:=lay z4 z3 4 (0:UInt64)
 (gd [ok0 z0,decide (4<=List.length z3),decide ((4/1:Nat)+0<=List.length z4),decide (4<=List.length z5)] (.ok ⟨ace,(({w0:=List.getD z5 0 0,w1:=List.getD z5 1 0,w2:=List.getD z5 2 0,w3:=List.getD z5 3 0},(!z1.fst.snd.snd.fst==(0:UInt64),())),())⟩))
theorem aIQ (ok0:dE->Bool) (g0_0:dE->oa) (x:amj) (Q:sk.Y->Prop):wpf te Sz (aO 0 (cb Jl 0 ok0 (SY g0_0)) av) 1000 Tryz.f125 (sk.inp.inj x).tm (sk.inp.inj x).hp (fnK sk agY Q) (λ_ _=>False)=(aqK ok0 g0_0 (x.1.1) (x.1.2.1)).wpR Q:=by kernel_rfl
theorem aqI (ok0:dE->Bool) (g0_0:dE->oa) (h0:∀ s:dE,ok0 s=true->∃ m e,al (Jm) m s=some e/\(SY g0_0 s).run=some e) (pre:amj->Bool) (F:amj->OT sk.Y) (hF:∀ (x:amj) oy,pre x=true->(F x).run=some oy->(aqK ok0 g0_0 (x.1.1) (x.1.2.1)).run=some oy):ac Tryz.prog 125 (sk.aH pre F):=
 aD aq CO Sy (f:=125) (fn:=Tryz.f125) (c:=aj Tryz.f125) (by kernel_rfl) (by kernel_rfl) (by kernel_rfl) (S:=sk) (k:=0) (by kernel_rfl) (λR hR=>(aB (c:=(aj Tryz.f125)) (by kernel_rfl) (id:=0) (by kernel_rfl) (aS aq CO Sy (sh:=Jl) hR (xs:=aqH) (aC (by kernel_rfl) (by kernel_rfl) hR) aK af (n:=1000) (T:=Jm) (λs Q=>aEg s Q) (ok:=ok0) (f:=SY g0_0) h0) af)) (n:=1000) (sel:=agY) (λv o h=>by cases h;rfl) (pre:=pre) (F:=F) (T:=λx=>aqK ok0 g0_0 (x.1.1) (x.1.2.1)) (λx Q=>aIQ ok0 g0_0 x Q) hF
def xD (a b:List UInt64) (k:Nat) (s:List UInt64×UInt64):List UInt64×UInt64:=(s.1.set k (qq (a.getD k 0) (b.getD k 0) s.2),WH (a.getD k 0) (b.getD k 0) s.2)
def ag0 (s:dE):Bool:=decide (s.1.2.2.2.2.1=0/\s.1.2.2.2.2.2.1=0/\s.2.1.length=4/\s.2.2.1.length=4/\s.2.2.2.2.1= [0,0,0,0])
def aqJ (s:dE):oa:=(((),(),(upto (xD s.2.1 s.2.2.1) ([0,0,0,0],0) 4).2,()),(s.2.2.2.1,(upto (xD s.2.1 s.2.2.1) ([0,0,0,0],0) 4).1,()))
theorem aEi:∀ s:dE,ag0 s=true->∃ m e,al Jm m s=some e/\(SY aqJ s).run=some e:=by
 rintro ⟨⟨⟨⟩,⟨⟩,⟨⟩,⟨⟩,c,i,⟨⟩⟩,⟨c0,c1,c2,c3,⟨⟩⟩⟩ h
 have h':=of_decide_eq_true h
 dsimp only at h'
 obtain ⟨rfl,rfl,h0,h1,rfl⟩:=h'
 have:=(aP (T:=Jm) (λk s=>((((),(),(),(),s.2,(k:Int),()),(c0,c1,c2,s.1,())):dE)) (xD c0 c1)
  (λs=>(⟨(.exit 0,Ao),(((),(),s.2,()),(c2,s.1,()))⟩:aE)) 4 ([0,0,0,0],0) (λ_ s=>s.1.length=4/\s.2.toNat<=1) ⟨rfl,by decide⟩ (λk s hk hs=>⟨?_,?_⟩) (λs hs=> ?_)).1
 ·obtain ⟨m,hm⟩:=this
  exact ⟨m,_,hm,rfl⟩
 ·refine (OT.ap (decide_eq_true (by dsimp only;omega))).trans ((ah ?_).trans ?_)
  ·simp only [Int.toNat_natCast,Nat.add_zero,h0,h1,hs.1,List.all_cons,List.all_nil,Bool.and_true,Bool.and_eq_true]
   exact ⟨aN (by omega),decide_eq_true (by omega),aN (by omega),decide_eq_true (by omega),decide_eq_true hs.2,aN (by omega),decide_eq_true (by omega),aI (by omega)⟩
  ·simp only [OT.cK,Int.toNat_natCast,Nat.add_zero]
   rfl
 ·exact ⟨by simp only [xD,List.length_set];exact hs.1,yu⟩
 ·exact OT.ar (decide_eq_false (by dsimp only;omega))
def agZ (_:amj):Bool:=true
def aqL (x:amj):OT sk.Y:=.ok ⟨ace,(((ef x.1.1 x.1.2.1).1,((ef x.1.1 x.1.2.1).2,())),())⟩
theorem aEh:ac Tryz.prog 125 (sk.aH agZ aqL):=aqI ag0 aqJ aEi _ _ λx oy hp ho=>by
 rw [<-ho]
 clear ho
 obtain ⟨⟨a,b,⟨⟩⟩,⟨⟩⟩:=x
 obtain ⟨_,hw⟩:=DY a b
 refine (ah ?_).trans ?_
 ·simp only [List.all_cons,List.all_nil,Bool.and_true,Bool.and_eq_true]
  exact ⟨rfl,rfl,rfl,rfl⟩
 ·simp only [aqL,hw]
  rfl
def Jk:cf:=(sk.aH agZ aqL)
theorem ami:ac Tryz.prog 125 Jk:=aEh
theorem amh:aF Jk:=aA
def aby:Env:=ay 125 Jk Sz
theorem Nl:aQ Tryz.prog aby:=ag ami CO
theorem Nn:ax aby:=ae amh Nt
theorem aqi:aU Tryz.prog te aby:=aJ follows aq Nl Nn
def lm:aw:=⟨[.val true .elem,.val true .elem],[],true,0,false⟩
abbrev PP:Type:=((aa)×(aa)×Unit)×(Unit)
def S3:az:=⟨[.val false .bool],[],false⟩
def WV:SV->Option az:=λ_=>some S3
def acm (a0:aa) (a1:aa):OT lm.Y:=
 (.ok ⟨S3,(((ef a0 a1).snd,()),())⟩)
theorem aEo (x:PP) (Q:lm.Y->Prop):wpf te aby av 1000 Tryz.f86 (lm.inp.inj x).tm (lm.inp.inj x).hp (fnK lm WV Q) (λ_ _=>False)=(acm (x.1.1) (x.1.2.1)).wpR Q:=by kernel_rfl
theorem amn (pre:PP->Bool) (F:PP->OT lm.Y) (hF:∀ (x:PP) oy,pre x=true->(F x).run=some oy->(acm (x.1.1) (x.1.2.1)).run=some oy):ac Tryz.prog 86 (lm.aH pre F):=
 aD aq Nl aqi (f:=86) (fn:=Tryz.f86) (c:=aj Tryz.f86) (by kernel_rfl) (by kernel_rfl) (by kernel_rfl) (S:=lm) (k:=0) (by kernel_rfl) (λR hR=>af) (n:=1000) (sel:=WV) (λv o h=>by cases h;rfl) (pre:=pre) (F:=F) (T:=λx=>acm (x.1.1) (x.1.2.1)) (λx Q=>aEo x Q) hF
def WW (_:PP):Bool:=true
def aqV (x:PP):OT lm.Y:=.ok ⟨S3,((Nat.blt x.1.1.nat x.1.2.1.nat,()),())⟩
theorem ayg:ac Tryz.prog 86 (lm.aH WW aqV):=amn _ _ λx oy _ ho=>ho
def DX:cf:=(lm.aH WW aqV)
theorem ack:ac Tryz.prog 86 DX:=ayg
theorem acj:aF DX:=aA
def Nr:Env:=ay 86 DX aby
theorem F4:aQ Tryz.prog Nr:=ag ack Nl
theorem Hl:ax Nr:=ae acj Nn
theorem agu:aU Tryz.prog te Nr:=aJ follows aq F4 Hl
def rW:aw:=⟨[.val true .elem,.val false .int],[],true,0,false⟩
abbrev amq:Type:=((aa)×(Int)×Unit)×(Unit)
def DZ:az:=⟨[.val false .bool],[],false⟩
def ag8:SV->Option az:=λ_=>some DZ
def aq0 (a0:aa) (a1:Int):OT rW.Y:=
 let z0:Int:=Int.tdiv a1 (64:Int)
 let z1:Int:=Int.tmod a1 (64:Int)
 (.br (decide ((0:Int)<=a1))
 (.br (decide (a1<(256:Int)))
  (gd [true&&inR z0,inB z0 4,decide (Int.toNat z0+0<4),decide ((0:Int)<=z1)] (.ok ⟨DZ,((be (List.getD [a0.w0,a0.w1,a0.w2,a0.w3] (Int.toNat z0+0) (0:UInt64)) z1&&&(1:UInt64)==(1:UInt64),()),())⟩))
  (.ok ⟨DZ,((false,()),())⟩))
 (.ok ⟨DZ,((false,()),())⟩))
theorem aIT (x:amq) (Q:rW.Y->Prop):wpf te Nr av 1000 Tryz.f84 (rW.inp.inj x).tm (rW.inp.inj x).hp (fnK rW ag8 Q) (λ_ _=>False)=(aq0 (x.1.1) (x.1.2.1)).wpR Q:=by kernel_rfl
theorem aqZ (pre:amq->Bool) (F:amq->OT rW.Y) (hF:∀ (x:amq) oy,pre x=true->(F x).run=some oy->(aq0 (x.1.1) (x.1.2.1)).run=some oy):ac Tryz.prog 84 (rW.aH pre F):=
 aD aq F4 agu (f:=84) (fn:=Tryz.f84) (c:=aj Tryz.f84) (by kernel_rfl) (by kernel_rfl) (by kernel_rfl) (S:=rW) (k:=0) (by kernel_rfl) (λR hR=>af) (n:=1000) (sel:=ag8) (λv o h=>by cases h;rfl) (pre:=pre) (F:=F) (T:=λx=>aq0 (x.1.1) (x.1.2.1)) (λx Q=>aIT x Q) hF
def xT (a:aa) (i:Int):Bool:=cond (decide (0<=i)) (cond (decide (i<256)) (Sj a.nat i.toNat) false) false
def ag9 (_:amq):Bool:=true
def aDj (x:amq):OT rW.Y:=.ok ⟨DZ,((xT x.1.1 x.1.2.1,()),())⟩
theorem axy {a:aa} {i:Int} (h1:0<=i) (h2:i<256):(be (List.getD [a.w0,a.w1,a.w2,a.w3] (Int.toNat (Int.tdiv i 64)+0) 0) (Int.tmod i 64)&&&1==1)=xT a i:=by
 obtain ⟨n,rfl⟩:∃ n:Nat,i=(n:Int):=⟨i.toNat,by omega⟩
 have hn:n<256:=by omega
 have t1:Int.tdiv (n:Int) 64=((n/64:Nat):Int):=by rw [Int.tdiv_eq_ediv_of_nonneg (by omega)];omega
 have t2:Int.tmod (n:Int) 64=((n%64:Nat):Int):=by rw [Int.tmod_eq_emod_of_nonneg (by omega)];omega
 rw [t1,t2,V5,eY _ _ (by omega),Int.toNat_natCast,Nat.add_zero]
 have:=rB (a:=a) (q:=n/64) (r:=n%64) (by omega) (by omega)
 rw [show 64*(n/64)+n%64=n by omega] at this
 unfold xT Sj
 rw [decide_eq_true h1,decide_eq_true h2,Int.toNat_natCast]
 simp only [cond_true]
 rw [<-this]
 rfl
theorem aEp:ac Tryz.prog 84 (rW.aH ag9 aDj):=aqZ _ _ λx oy _ ho=>by
 rw [<-ho]
 clear ho
 obtain ⟨⟨a,i,⟨⟩⟩,⟨⟩⟩:=x
 show _=(OT.ok ⟨DZ,((xT a i,()),())⟩:OT rW.Y).run
 by_cases h1:0<=i
 ·refine (OT.ap (decide_eq_true h1)).trans ?_
  by_cases h2:i<256
  ·refine (OT.ap (decide_eq_true h2)).trans ((ah ?_).trans ?_)
   ·obtain ⟨n,rfl⟩:∃ n:Nat,i=(n:Int):=⟨i.toNat,by omega⟩
    have t1:Int.tdiv (n:Int) 64=((n/64:Nat):Int):=by rw [Int.tdiv_eq_ediv_of_nonneg (by omega)];omega
    have t2:Int.tmod (n:Int) 64=((n%64:Nat):Int):=by rw [Int.tmod_eq_emod_of_nonneg (by omega)];omega
    simp only [t1,t2,Int.toNat_natCast,Nat.add_zero,List.all_cons,List.all_nil,Bool.and_true,Bool.and_eq_true,Bool.true_and]
    exact ⟨aI (by omega),aN (by omega),decide_eq_true (by omega),decide_eq_true (by omega)⟩
   ·simp only [axy h1 h2]
  ·have e:xT a i=false:=by unfold xT;rw [decide_eq_true h1,decide_eq_false h2];rfl
   rw [e]
   exact OT.ar (decide_eq_false h2)
 ·have e:xT a i=false:=by unfold xT;rw [decide_eq_false h1];rfl
  rw [e]
  exact OT.ar (decide_eq_false h1)
def Jr:cf:=(rW.aH ag9 aDj)
theorem amp:ac Tryz.prog 84 Jr:=aEp
theorem amo:aF Jr:=aA
def Sw:Env:=ay 84 Jr Nr
theorem CN:aQ Tryz.prog Sw:=ag amp F4
theorem Ns:ax Sw:=ae amo Hl
theorem Sv:aU Tryz.prog te Sw:=aJ follows aq CN Ns
end Go.Proofs.YtohjofabochgfaaGreat

namespace Go.Proofs.YtohjofabochgfaaGreat
open Sx Go
theorem Ix (x b:UInt64) (hb:b.toNat<=1):2*x.toNat+b.toNat=(bP x 1|||b).toNat+18446744073709551616*(be x 63).toNat:=by
 have hx:=x.toNat_lt
 have e1:(bP x 1).toNat=2^1*(x.toNat%9223372036854775808):=by
  have e:(bP x 1).toNat=x.toNat*2^1%2^64:=lD x 1 (by omega)
  rw [e]
  omega
 have e2:(be x 63).toNat=x.toNat/2^63:=eY x 63 (by omega)
 have e3:=Nat.two_pow_add_eq_or_of_lt (i:=1) (b:=b.toNat) (by omega) (x.toNat%9223372036854775808)
 rw [UInt64.toNat_or,e1,<-e3,e2]
 omega
theorem JD (x:UInt64):(be x 63).toNat<=1:=by
 have hx:=x.toNat_lt
 have e2:(be x 63).toNat=x.toNat/2^63:=eY x 63 (by omega)
 rw [e2]
 omega
def aX (a:aa) (b:UInt64):aa×UInt64:=(⟨bP a.w0 1|||b,bP a.w1 1|||be a.w0 63,bP a.w2 1|||be a.w1 63,bP a.w3 1|||be a.w2 63⟩,be a.w3 63)
theorem amD (a:aa) (b:UInt64) (hb:b.toNat<=1):2*a.nat+b.toNat=(aX a b).1.nat+115792089237316195423570985008687907853269984665640564039457584007913129639936*(aX a b).2.toNat:=by
 have h0:=Ix a.w0 b hb
 have h1:=Ix a.w1 _ (JD a.w0)
 have h2:=Ix a.w2 _ (JD a.w1)
 have h3:=Ix a.w3 _ (JD a.w2)
 unfold aX Sx.aa.nat
 dsimp only
 omega
def IC (m r:aa) (b:UInt64):aa:=cond (!((aX r b).2==0)) (ef (aX r b).1 m).1 (cond (!(ef (aX r b).1 m).2) (ef (aX r b).1 m).1 (aX r b).1)
theorem akv {n m:Nat} (h1:m<=n) (h2:n<2*m):n-m=n%m:=by
 rw [Nat.mod_eq_sub_mod h1,Nat.mod_eq_of_lt (by omega)]
theorem aAz {m r:aa} {b:UInt64} (hb:b.toNat<=1) (hr:r.nat<m.nat):(IC m r b).nat=(2*r.nat+b.toNat)%m.nat:=by
 have h:=amD r b hb
 have hm:=iQ m
 have hs:=iQ (aX r b).1
 have h2:(aX r b).2.toNat<=1:=JD _
 have hw:(ef (aX r b).1 m).1.nat=((aX r b).1.nat+115792089237316195423570985008687907853269984665640564039457584007913129639936-m.nat)%115792089237316195423570985008687907853269984665640564039457584007913129639936:=by
  unfold ef
  exact Uu _
 unfold IC
 cases ho:(aX r b).2==0
 ·have ho:(aX r b).2.toNat=1:=by
   have:(aX r b).2.toNat≠0:=λe=>by
    have e':(aX r b).2=0:=UInt64.toNat_inj.1 e
    rw [e'] at ho
    cases ho
   omega
  show (ef (aX r b).1 m).1.nat=_
  rw [hw,<-akv (n:=2*r.nat+b.toNat) (by omega) (by omega),Nat.mod_eq_of_lt (by omega)]
  omega
 ·have ho:(aX r b).2.toNat=0:=by
   rw [beq_iff_eq] at ho
   rw [ho]
   rfl
  have e:2*r.nat+b.toNat=(aX r b).1.nat:=by omega
  cases hu:(ef (aX r b).1 m).2
  ·have hu':m.nat<=(aX r b).1.nat:=by
    rw [ag7] at hu
    exact Nat.le_of_not_lt λh'=>by rw [(Nat.blt_eq ..).mpr h'] at hu;cases hu
   show (ef (aX r b).1 m).1.nat=_
   rw [mU hu',e,akv hu' (by omega)]
  ·have hu':(aX r b).1.nat<m.nat:=by
    rw [ag7] at hu
    exact (Nat.blt_eq ..).mp hu
   show (aX r b).1.nat=_
   rw [e,Nat.mod_eq_of_lt hu']
def OX (a:aa) (i:Nat):UInt64:=be ((lst a).getD (i/64) 0) ((i%64:Nat):Int)&&&1
theorem al1 (a:aa) {i:Nat} (hi:i<256):(OX a i).toNat=a.nat/2^i%2:=by
 have e:∀ x:UInt64,(x&&&1).toNat=x.toNat%2:=λx=>by
  rw [UInt64.toNat_and]
  exact Nat.and_two_pow_sub_one_eq_mod x.toNat 1
 unfold OX
 rw [e,eY _ _ (by omega),rB (by omega) (by omega),show 64*(i/64)+i%64=i by omega]
def acZ (m a r:aa):Nat->aa:=upto (λk r=>IC m r (OX a (255-k))) r
theorem Tt {m a r:aa} (hr:r.nat<m.nat):∀ k,k<=256->(acZ m a r k).nat=(r.nat*2^k+a.nat/2^(256-k))%m.nat/\(acZ m a r k).nat<m.nat
 |0,_=>by
  have h:=iQ a
  refine ⟨?_,hr⟩
  show r.nat=_
  rw [Nat.pow_zero,Nat.mul_one,Nat.div_eq_of_lt h,Nat.add_zero,Nat.mod_eq_of_lt hr]
 |k+1,hk=>by
  obtain ⟨h1,h2⟩:=Tt (a:=a) hr k (by omega)
  have hb:=al1 a (i:=255-k) (by omega)
  have hb1:(OX a (255-k)).toNat<=1:=by omega
  have h3:=aAz hb1 h2
  have e:(acZ m a r (k+1)).nat=(2*(acZ m a r k).nat+(OX a (255-k)).toNat)%m.nat:=h3
  have e2:a.nat/2^(255-k)=2*(a.nat/2^(256-k))+(OX a (255-k)).toNat:=by
   rw [hb,show 256-k=255-k+1 by omega,Nat.pow_succ,<-Nat.div_div_eq_div_mul]
   omega
  refine ⟨?_,?_⟩
  ·rw [e,h1,show 256-(k+1)=255-k by omega,e2,Nat.pow_succ]
   rw [<-Nat.mod_add_mod,Nat.mul_mod_mod,Nat.mod_add_mod]
   congr 1
   rw [Nat.mul_add,<-Nat.mul_assoc,Nat.mul_comm (2^k) 2,<-Nat.mul_assoc,Nat.mul_comm r.nat 2,Nat.add_assoc]
  ·rw [e]
   exact Nat.mod_lt _ (by omega)
def aAA (lo hi m:aa):aa:=ofN ((lo.nat+115792089237316195423570985008687907853269984665640564039457584007913129639936*hi.nat)%m.nat)
theorem aju {m lo hi:aa} (hm:0<m.nat):acZ m lo (acZ m hi ⟨0,0,0,0⟩ 256) 256=aAA lo hi m:=by
 have h0:(⟨0,0,0,0⟩:aa).nat<m.nat:=hm
 obtain ⟨h1,h2⟩:=Tt (a:=hi) h0 256 (Nat.le_refl _)
 obtain ⟨h3,h4⟩:=Tt (a:=lo) h2 256 (Nat.le_refl _)
 have hl:=iQ m
 refine qW ?_
 unfold aAA
 rw [h3,h1,ko (Nat.lt_trans (Nat.mod_lt _ hm) hl),show 256-256=0 from rfl,Nat.pow_zero,Nat.div_one,Nat.div_one,show (⟨0,0,0,0⟩:aa).nat=0 from rfl,Nat.zero_mul,Nat.zero_add,<-Nat.mod_add_mod,Nat.mod_mul_mod,Nat.mod_add_mod,Nat.mul_comm,Nat.add_comm]
end Go.Proofs.YtohjofabochgfaaGreat

namespace Go.Proofs.YtohjofabochgfaaGreat
open Sx Go
set_option maxRecDepth 100000
def ia:aw:=⟨[.val true .elem,.val false .u64],[],true,0,false⟩
abbrev DT:Type:=((aa)×(UInt64)×Unit)×(Unit)
def sn:Shape:=⟨25,[(1,.val false .u64),(2,.ptr 0 0 0),(4,.ptr 1 0 0),(7,.val false .int)],[(0,.row .u64),(1,.row .u64)],0,true⟩
abbrev cq:Type:=((UInt64)×(Unit)×(Unit)×(Int)×Unit)×((List (UInt64))×(List (UInt64))×Unit)
def ql:Shape:=⟨25,[(1,.val false .u64),(2,.ptr 0 0 0),(4,.ptr 1 0 0)],[(0,.row .u64),(1,.row .u64)],0,true⟩
abbrev jP:Type:=((UInt64)×(Unit)×(Unit)×Unit)×((List (UInt64))×(List (UInt64))×Unit)
def WN:SE->Option Shape:=fp [(0,ql)] none
def aqP (a1:UInt64) (a7:Int) (c0:List (UInt64)) (c1:List (UInt64)):OT (Sum cq aE):=
 let z0:Bool:=inB a7 4
 let z1:Bool:=decide (Int.toNat a7+0<List.length c0)
 let z2:UInt64:=List.getD c0 (Int.toNat a7+0) (0:UInt64)
 (.br (decide (a7<(4:Int)))
 (gd [z0,z1,z0,z1,z0,z1,inR (a7+(1:Int))] (.ok (.inl ((be z2 (63:Int),((),((),(a7+(1:Int),())))),(List.set c0 (Int.toNat a7+0) (bP z2 (1:Int)|||a1),(c1,()))))))
 (.ok (.inr ⟨(.exit 0,ql),((a1,((),((),()))),(c0,(c1,())))⟩)))
def so (s:cq):OT (Sum cq aE):=aqP (s.1.1) (s.1.2.2.2.1) (s.2.1) (s.2.2.1)
theorem aqM (s:cq) (Q:Sum cq aE->Prop):wps te Sw av 1000 (aV (aj Tryz.f147) 0) (sn.inj s) (bV sn WN (Q:Sum sn.T aE->Prop))=(so s).wpR Q:=by kernel_rfl
def Ap (g0_0:cq->jP) (s:cq):OT aE:=(.ok ⟨(.exit 0,ql),g0_0 s⟩)
def Jn:az:=⟨[.val true .elem,.val false .u64],[],false⟩
def PK:SV->Option az:=λ_=>some Jn
def SZ (ok0:cq->Bool) (g0_0:cq->jP) (a0:aa) (a1:UInt64):OT ia.Y:=
 let z0:(UInt64×PUnit×PUnit×Int×PUnit)×List UInt64×List UInt64×PUnit:=((a1,(),(),(0:Int),()),[a0.w0,a0.w1,a0.w2,a0.w3],[(0:UInt64),(0:UInt64),(0:UInt64),(0:UInt64)],())
 let z1:(UInt64×PUnit×PUnit×PUnit)×List UInt64×List UInt64×PUnit:=g0_0 z0
 let z2:=z1.snd
 let z3:=z2.fst
 let z4:=z2.snd.fst
 let z5:List UInt64:=lay z4 z3 4 (0:UInt64)
 (gd [ok0 z0,decide (4<=List.length z3),decide ((4/1:Nat)+0<=List.length z4),decide (4<=List.length z5)] (.ok ⟨Jn,(({w0:=List.getD z5 0 0,w1:=List.getD z5 1 0,w2:=List.getD z5 2 0,w3:=List.getD z5 3 0},(z1.fst.fst,())),())⟩))
theorem ayb (ok0:cq->Bool) (g0_0:cq->jP) (x:DT) (Q:ia.Y->Prop):wpf te Sw (aO 0 (cb sn 0 ok0 (Ap g0_0)) av) 1000 Tryz.f147 (ia.inp.inj x).tm (ia.inp.inj x).hp (fnK ia PK Q) (λ_ _=>False)=(SZ ok0 g0_0 (x.1.1) (x.1.2.1)).wpR Q:=by kernel_rfl
theorem acf (ok0:cq->Bool) (g0_0:cq->jP) (h0:∀ s:cq,ok0 s=true->∃ m e,al (so) m s=some e/\(Ap g0_0 s).run=some e) (pre:DT->Bool) (F:DT->OT ia.Y) (hF:∀ (x:DT) oy,pre x=true->(F x).run=some oy->(SZ ok0 g0_0 (x.1.1) (x.1.2.1)).run=some oy):ac Tryz.prog 147 (ia.aH pre F):=
 aD aq CN Sv (f:=147) (fn:=Tryz.f147) (c:=aj Tryz.f147) (by kernel_rfl) (by kernel_rfl) (by kernel_rfl) (S:=ia) (k:=0) (by kernel_rfl) (λR hR=>(aB (c:=(aj Tryz.f147)) (by kernel_rfl) (id:=0) (by kernel_rfl) (aS aq CN Sv (sh:=sn) hR (xs:=WN) (aC (by kernel_rfl) (by kernel_rfl) hR) aK af (n:=1000) (T:=so) (λs Q=>aqM s Q) (ok:=ok0) (f:=Ap g0_0) h0) af)) (n:=1000) (sel:=PK) (λv o h=>by cases h;rfl) (pre:=pre) (F:=F) (T:=λx=>SZ ok0 g0_0 (x.1.1) (x.1.2.1)) (λx Q=>ayb ok0 g0_0 x Q) hF
def aKS (k:Nat) (s:List UInt64×UInt64):List UInt64×UInt64:=(s.1.set k (bP (s.1.getD k 0) 1|||s.2),be (s.1.getD k 0) 63)
def PM (s:cq):Bool:=decide (s.1.2.2.2.1=0/\s.2.1.length=4)
def WR (s:cq):jP:=(((upto aKS (s.2.1,s.1.1) 4).2,(),(),()),((upto aKS (s.2.1,s.1.1) 4).1,s.2.2.1,()))
theorem aqO:∀ s:cq,PM s=true->∃ m e,al so m s=some e/\(Ap WR s).run=some e:=by
 rintro ⟨⟨b,⟨⟩,⟨⟩,i,⟨⟩⟩,⟨a,r,⟨⟩⟩⟩ h
 have h':=of_decide_eq_true h
 dsimp only at h'
 obtain ⟨rfl,hl⟩:=h'
 have:=(aP (T:=so) (λk s=>(((s.2,(),(),(k:Int),()),(s.1,r,())):cq)) aKS
  (λs=>(⟨(.exit 0,ql),((s.2,(),(),()),(s.1,r,()))⟩:aE)) 4 (a,b) (λ_ s=>s.1.length=4) hl (λk s hk hs=>⟨?_,(List.length_set ..).trans hs⟩) (λs hs=> ?_)).1
 ·obtain ⟨m,hm⟩:=this
  exact ⟨m,_,hm,rfl⟩
 ·refine (OT.ap (decide_eq_true (by dsimp only;omega))).trans ((ah ?_).trans ?_)
  ·simp only [Int.toNat_natCast,Nat.add_zero,hs,List.all_cons,List.all_nil,Bool.and_true,Bool.and_eq_true]
   exact ⟨aN (by omega),decide_eq_true (by omega),aN (by omega),decide_eq_true (by omega),aN (by omega),decide_eq_true (by omega),aI (by omega)⟩
  ·simp only [OT.cK,Int.toNat_natCast,Nat.add_zero]
   rfl
 ·exact OT.ar (decide_eq_false (by dsimp only;omega))
def PL (_:DT):Bool:=true
def ag1 (x:DT):OT ia.Y:=.ok ⟨Jn,(((aX x.1.1 x.1.2.1).1,((aX x.1.1 x.1.2.1).2,())),())⟩
theorem aqN:ac Tryz.prog 147 (ia.aH PL ag1):=acf PM WR aqO _ _ λx oy hp ho=>by
 rw [<-ho]
 clear ho
 obtain ⟨⟨a,b,⟨⟩⟩,⟨⟩⟩:=x
 refine (ah ?_).trans rfl
 simp only [List.all_cons,List.all_nil,Bool.and_true,Bool.and_eq_true]
 exact ⟨rfl,rfl,rfl,rfl⟩
def yo:cf:=(ia.aH PL ag1)
theorem WQ:ac Tryz.prog 147 yo:=aqN
theorem WO:aF yo:=aA
def xh:Env:=ay 147 yo Sw
theorem rG:aQ Tryz.prog xh:=ag WQ CN
theorem CM:ax xh:=ae WO Ns
theorem Hk:aU Tryz.prog te xh:=aJ follows aq rG CM
def rV:aw:=⟨[.val true .elem,.val true .elem,.val true .elem],[],true,0,false⟩
abbrev amm:Type:=((aa)×(aa)×(aa)×Unit)×(Unit)
def Jp:Shape:=⟨57,[(5,.ptr 0 0 0),(6,.ptr 1 0 0),(8,.ptr 2 0 0),(10,.ptr 3 0 0),(11,.val false .int),(21,.val true (.arr 2 .elem)),(22,.val false .int)],[(0,.row .u64),(1,.row .u64),(2,.row .u64),(3,.row .u64)],0,true⟩
abbrev di:Type:=((Unit)×(Unit)×(Unit)×(Unit)×(Int)×(List (aa))×(Int)×Unit)×((List (UInt64))×(List (UInt64))×(List (UInt64))×(List (UInt64))×Unit)
def Aq:Shape:=⟨57,[(5,.ptr 0 0 0),(6,.ptr 1 0 0),(8,.ptr 2 0 0),(21,.val true (.arr 2 .elem)),(22,.val false .int)],[(0,.row .u64),(1,.row .u64),(2,.row .u64)],0,true⟩
abbrev kY:Type:=((Unit)×(Unit)×(Unit)×(List (aa))×(Int)×Unit)×((List (UInt64))×(List (UInt64))×(List (UInt64))×Unit)
def aqQ:SE->Option Shape:=fp [(2,Aq)] none
def ach (a11:Int) (a21:List (aa)) (a22:Int) (c0:List (UInt64)) (c1:List (UInt64)) (c2:List (UInt64)) (c3:List (UInt64)):OT (Sum di aE):=
 let z0:Nat:=List.length c2
 let z1:Int:=Int.tdiv a11 (64:Int)
 let z2:Int:=Int.tmod a11 (64:Int)
 let z3:aa×UInt64:=aX {w0:=List.getD c2 0 0,w1:=List.getD c2 1 0,w2:=List.getD c2 2 0,w3:=List.getD c2 3 0} (be (List.getD c3 (Int.toNat z1+0) (0:UInt64)) z2&&&(1:UInt64))
 let z4:=z3.fst
 let z5:List UInt64:=List.set (List.set (List.set (List.set c2 0 z4.w0) 1 z4.w1) 2 z4.w2) 3 z4.w3
 let z6:Nat:=List.length z5
 let z7:Bool:=decide ((4/1:Nat)+0<=z6)
 let z8:Bool:=inR (a11-(1:Int))
 let z9:aa:= {w0:=0,w1:=0,w2:=0,w3:=0}
 let z10:aa×Bool:=ef {w0:=List.getD z5 0 0,w1:=List.getD z5 1 0,w2:=List.getD z5 2 0,w3:=List.getD z5 3 0} {w0:=List.getD c0 0 0,w1:=List.getD c0 1 0,w2:=List.getD c0 2 0,w3:=List.getD c0 3 0}
 let z11:=z10.fst
 let z12:List UInt64:=List.set (List.set (List.set (List.set z5 0 z11.w0) 1 z11.w1) 2 z11.w2) 3 z11.w3
 (.br (decide ((0:Int)<=a11))
 (gd [decide (4<=z0),true&&inR z1,inB z1 4,decide (Int.toNat z1+0<List.length c3),decide ((0:Int)<=z2),decide ((4/1:Nat)+0<=z0),decide (4<=z6),decide (4<=List.length c0)] (.br (!z3.snd==(0:UInt64))
  (gd [z7,z8] (.ok (.inl (((),((),((),((),(a11-(1:Int),([List.getD a21 0 z9,List.getD a21 1 z9],(a22,()))))))),(c0,(c1,(z12,(c3,()))))))))
  (.br (!z10.snd)
   (gd [z7,z8] (.ok (.inl (((),((),((),((),(a11-(1:Int),([List.getD a21 0 z9,List.getD a21 1 z9],(a22,()))))))),(c0,(c1,(z12,(c3,()))))))))
   (gd [z8] (.ok (.inl (((),((),((),((),(a11-(1:Int),([List.getD a21 0 z9,List.getD a21 1 z9],(a22,()))))))),(c0,(c1,(z5,(c3,())))))))))))
 (.ok (.inr ⟨(.exit 2,Aq),(((),((),((),([List.getD a21 0 z9,List.getD a21 1 z9],(a22,()))))),(c0,(c1,(c2,()))))⟩)))
def Jq (s:di):OT (Sum di aE):=ach (s.1.2.2.2.2.1) (s.1.2.2.2.2.2.1) (s.1.2.2.2.2.2.2.1) (s.2.1) (s.2.2.1) (s.2.2.2.1) (s.2.2.2.2.1)
theorem aEk (s:di) (Q:Sum di aE->Prop):wps te xh av 1000 (aV (aj Tryz.f111) 2) (Jp.inj s) (bV Jp aqQ (Q:Sum Jp.T aE->Prop))=(Jq s).wpR Q:=by kernel_rfl
def S2 (g2_2:di->kY) (s:di):OT aE:=(.ok ⟨(.exit 2,Aq),(((g2_2 s).1.1,((g2_2 s).1.2.1,((g2_2 s).1.2.2.1,(s.1.2.2.2.2.2.1,(s.1.2.2.2.2.2.2.1,()))))),(g2_2 s).2)⟩)
def DU:az:=⟨[.val true .elem,.val false .int],[],false⟩
def ag2:SV->Option az:=λ_=>some DU
def PN (ok2:di->Bool) (g2_2:di->kY) (a0:aa) (a1:aa) (a2:aa):OT rV.Y:=
 let z0:(PUnit×PUnit×PUnit×PUnit×Int×List aa×Int×PUnit)×List UInt64×List UInt64×List UInt64×List UInt64×PUnit:=(((),(),(),(),(255:Int),[a1,a0],(0:Int),()),[a2.w0,a2.w1,a2.w2,a2.w3],[(0:UInt64),(0:UInt64),(0:UInt64),(0:UInt64)],[(0:UInt64),(0:UInt64),(0:UInt64),(0:UInt64)],[a1.w0,a1.w1,a1.w2,a1.w3],())
 let z1:=(g2_2 z0).snd
 let z2:=z1.snd
 let z3:(PUnit×PUnit×PUnit×PUnit×Int×List aa×Int×PUnit)×List UInt64×List UInt64×List UInt64×List UInt64×PUnit:=(((),(),(),(),(255:Int),[a1,a0],(0:Int)+(1:Int),()),z1.fst,z2.fst,z2.snd.fst,[a0.w0,a0.w1,a0.w2,a0.w3],())
 let z4:=(g2_2 z3).snd.snd
 let z5:=z4.snd.fst
 let z6:=z4.fst
 let z7:List UInt64:=lay z6 z5 4 (0:UInt64)
 (.br (a2.w0==(0:UInt64)&&(a2.w1==(0:UInt64)&&(a2.w2==(0:UInt64)&&(a2.w3==(0:UInt64)&&true))))
 (.ok ⟨DU,(({w0:=0,w1:=0,w2:=0,w3:=0},((10:Int),())),())⟩)
 (gd [ok2 z0,ok2 z3,decide (4<=List.length z5),decide ((4/1:Nat)+0<=List.length z6),decide (4<=List.length z7)] (.ok ⟨DU,(({w0:=List.getD z7 0 0,w1:=List.getD z7 1 0,w2:=List.getD z7 2 0,w3:=List.getD z7 3 0},((0:Int),())),())⟩)))
theorem aIR (ok2:di->Bool) (g2_2:di->kY) (x:amm) (Q:rV.Y->Prop):wpf te xh (aO 2 (cb Jp 2 ok2 (S2 g2_2)) av) 1000 Tryz.f111 (rV.inp.inj x).tm (rV.inp.inj x).hp (fnK rV ag2 Q) (λ_ _=>False)=(PN ok2 g2_2 (x.1.1) (x.1.2.1) (x.1.2.2.1)).wpR Q:=by kernel_rfl
theorem aqR (ok2:di->Bool) (g2_2:di->kY) (h2:∀ s:di,ok2 s=true->∃ m e,al (Jq) m s=some e/\(S2 g2_2 s).run=some e) (pre:amm->Bool) (F:amm->OT rV.Y) (hF:∀ (x:amm) oy,pre x=true->(F x).run=some oy->(PN ok2 g2_2 (x.1.1) (x.1.2.1) (x.1.2.2.1)).run=some oy):ac Tryz.prog 111 (rV.aH pre F):=
 aD aq rG Hk (f:=111) (fn:=Tryz.f111) (c:=aj Tryz.f111) (by kernel_rfl) (by kernel_rfl) (by kernel_rfl) (S:=rV) (k:=0) (by kernel_rfl) (λR hR=>(aB (c:=(aj Tryz.f111)) (by kernel_rfl) (id:=2) (by kernel_rfl) (aS aq rG Hk (sh:=Jp) hR (xs:=aqQ) (aC (by kernel_rfl) (by kernel_rfl) hR) aK af (n:=1000) (T:=Jq) (λs Q=>aEk s Q) (ok:=ok2) (f:=S2 g2_2) h2) af)) (n:=1000) (sel:=ag2) (λv o h=>by cases h;rfl) (pre:=pre) (F:=F) (T:=λx=>PN ok2 g2_2 (x.1.1) (x.1.2.1) (x.1.2.2.1)) (λx Q=>aIR ok2 g2_2 x Q) hF
def S1 (s:di):Bool:=decide (s.1.2.2.2.2.1=255/\s.1.2.2.2.2.2.1.length=2/\s.2.1.length=4/\s.2.2.2.1.length=4/\s.2.2.2.2.1.length=4)
def acg (s:di):kY:=(((),(),(),s.1.2.2.2.2.2.1,s.1.2.2.2.2.2.2.1,()),(s.2.1,s.2.2.1,lst (acZ (elemOf s.2.1) (elemOf s.2.2.2.2.1) (elemOf s.2.2.2.1) 256),()))
theorem aKV (i:Nat):Int.tdiv (i:Int) 64=((i/64:Nat):Int):=by rw [Int.tdiv_eq_ediv_of_nonneg (by omega)];omega
theorem aKW (i:Nat):Int.tmod (i:Int) 64=((i%64:Nat):Int):=by rw [Int.tmod_eq_emod_of_nonneg (by omega)];omega
theorem aEm:∀ s:di,S1 s=true->∃ m e,al Jq m s=some e/\(S2 acg s).run=some e:=by
 rintro ⟨⟨⟨⟩,⟨⟩,⟨⟩,⟨⟩,i,arr,j,⟨⟩⟩,⟨c0,c1,c2,c3,⟨⟩⟩⟩ h
 have h':=of_decide_eq_true h
 dsimp only at h'
 obtain ⟨rfl,ha,h0,h2,h3⟩:=h'
 obtain ⟨x,y,rfl⟩:∃ x y,arr= [x,y]:=by
  match arr,ha with
  | [x,y],_=>exact ⟨x,y,rfl⟩
 obtain ⟨m,rfl⟩:∃ a,c0=lst a:=⟨elemOf c0,(aR h0).symm⟩
 obtain ⟨r,rfl⟩:∃ a,c2=lst a:=⟨elemOf c2,(aR h2).symm⟩
 obtain ⟨t,rfl⟩:∃ a,c3=lst a:=⟨elemOf c3,(aR h3).symm⟩
 have:=(aP (T:=Jq) (λk r=>((((),(),(),(),(255:Int)-(k:Int),[x,y],j,()),(lst m,c1,lst r,lst t,())):di)) (λk r=>IC m r (OX t (255-k)))
  (λr=>(⟨(.exit 2,Aq),(((),(),(),[x,y],j,()),(lst m,c1,lst r,()))⟩:aE)) 256 r (λ_ _=>True) trivial (λk r hk _=>⟨?_,trivial⟩) (λr _=> ?_)).1
 ·obtain ⟨n,hn⟩:=this
  exact ⟨n,_,hn,rfl⟩
 ·have e0:(255:Int)-(k:Int)=((255-k:Nat):Int):=by omega
  have e1:(255:Int)-((k+1:Nat):Int)=((255-k:Nat):Int)-1:=by omega
  have hb:be ((lst t).getD ((255-k)/64) 0) (((255-k)%64:Nat):Int)&&&1=OX t (255-k):=rfl
  rw [e1,e0]
  show (ach ((255-k:Nat):Int) [x,y] j (lst m) c1 (lst r) (lst t)).run=some (.inl (((),(),(),(),((255-k:Nat):Int)-1,[x,y],j,()),(lst m,c1,lst (IC m r (OX t (255-k))),lst t,())))
  unfold ach
  simp only [aKV,aKW,Int.toNat_natCast,Nat.add_zero,hb]
  refine (OT.ap (decide_eq_true (by omega))).trans ((ah ?_).trans ?_)
  ·simp only [List.all_cons,List.all_nil,Bool.and_true,Bool.true_and,Bool.and_eq_true]
   have hl:∀ a:aa,(lst a).length=4:=λ_=>rfl
   exact ⟨rfl,aI (by omega),aN (by omega),decide_eq_true (by rw [hl];omega),decide_eq_true (by omega),rfl,rfl,rfl⟩
  ·have hr:inR (((255-k:Nat):Int)-1)=true:=aI (by omega)
   rcases (Bool.eq_false_or_eq_true ((aX r (OX t (255-k))).2==0)).symm with g|g
   ·have e:IC m r (OX t (255-k))=(ef (aX r (OX t (255-k))).1 m).1:=by unfold IC;rw [g];rfl
    rw [e]
    exact (OT.ap (b:= !((aX r (OX t (255-k))).2==0)) (by rw [g];rfl)).trans ((ah (by rw [hr];rfl)).trans rfl)
   ·refine (OT.ar (b:= !((aX r (OX t (255-k))).2==0)) (by rw [g];rfl)).trans ?_
    rcases (Bool.eq_false_or_eq_true (ef (aX r (OX t (255-k))).1 m).2).symm with u|u
    ·have e:IC m r (OX t (255-k))=(ef (aX r (OX t (255-k))).1 m).1:=by unfold IC;rw [g,u];rfl
     rw [e]
     exact (OT.ap (b:= !(ef (aX r (OX t (255-k))).1 m).2) (by rw [u];rfl)).trans ((ah (by rw [hr];rfl)).trans rfl)
    ·have e:IC m r (OX t (255-k))=(aX r (OX t (255-k))).1:=by unfold IC;rw [g,u];rfl
     rw [e]
     exact (OT.ar (b:= !(ef (aX r (OX t (255-k))).1 m).2) (by rw [u];rfl)).trans ((ah (by rw [hr];rfl)).trans rfl)
 ·exact OT.ar (decide_eq_false (by dsimp only;omega))
def ag3 (_:amm):Bool:=true
def nv (m:aa):Bool:=m.w0==0&&(m.w1==0&&(m.w2==0&&(m.w3==0&&true)))
def aDi (x:amm):OT rV.Y:=.br (nv x.1.2.2.1) (.ok ⟨DU,((⟨0,0,0,0⟩,((10:Int),())),())⟩) (.ok ⟨DU,((aAA x.1.1 x.1.2.1 x.1.2.2.1,((0:Int),())),())⟩)
theorem Rd {m:aa} (h:nv m=false):0<m.nat:=by
 refine Nat.pos_of_ne_zero λe=> ?_
 have e2:m=⟨0,0,0,0⟩:=qW e
 rw [e2] at h
 cases h
theorem aqS {ok2:di->Bool} {g2:di->kY} {a b m H R:aa} (h:nv m=false)
 (h1:ok2 (((),(),(),(),255,[b,a],0,()),(lst m,lst ⟨0,0,0,0⟩,lst ⟨0,0,0,0⟩,lst b,()))=true)
 (e1:(g2 (((),(),(),(),255,[b,a],0,()),(lst m,lst ⟨0,0,0,0⟩,lst ⟨0,0,0,0⟩,lst b,()))).2=(lst m,lst ⟨0,0,0,0⟩,lst H,()))
 (h2:ok2 (((),(),(),(),255,[b,a],0+1,()),(lst m,lst ⟨0,0,0,0⟩,lst H,lst a,()))=true)
 (e2:(g2 (((),(),(),(),255,[b,a],0+1,()),(lst m,lst ⟨0,0,0,0⟩,lst H,lst a,()))).2=(lst m,lst ⟨0,0,0,0⟩,lst R,())):
 (PN ok2 g2 a b m).run=some ⟨DU,((R,((0:Int),())),())⟩:=by
 have l:∀ e:aa,lst e= [e.w0,e.w1,e.w2,e.w3]:=λ_=>rfl
 rw [l m,l ⟨0,0,0,0⟩] at h1 e1 h2 e2
 rw [l b] at h1 e1
 rw [l a] at h2 e2
 unfold PN
 simp only [e1,h1,e2,h2]
 exact (OT.ar h).trans ((ah rfl).trans rfl)
theorem aEl:ac Tryz.prog 111 (rV.aH ag3 aDi):=aqR S1 acg aEm _ _ λx oy hp ho=>by
 rw [<-ho]
 clear ho
 obtain ⟨⟨a,b,m,⟨⟩⟩,⟨⟩⟩:=x
 show (PN S1 acg a b m).run=(OT.br (nv m) _ _:OT rV.Y).run
 rcases (Bool.eq_false_or_eq_true (nv m)).symm with h|h
 ·refine Eq.trans (aqS (H:=acZ m b ⟨0,0,0,0⟩ 256) (R:=acZ m a (acZ m b ⟨0,0,0,0⟩ 256) 256) h rfl rfl rfl rfl) ?_
  rw [aju (Rd h)]
  rw [h]
  rfl
 ·exact (OT.ap h).trans (OT.ap (b:=nv m) h).symm
def Jo:cf:=(rV.aH ag3 aDi)
theorem aml:ac Tryz.prog 111 Jo:=aEl
theorem amk:aF Jo:=aA
def abz:Env:=ay 111 Jo xh
theorem Np:aQ Tryz.prog abz:=ag aml rG
theorem Nq:ax abz:=ae amk CM
theorem aqj:aU Tryz.prog te abz:=aJ follows aq Np Nq
def Ma:aw:=⟨[.val false .int],[],true,0,false⟩
abbrev aIJ:Type:=((Int)×Unit)×(Unit)
def Hb:az:=⟨[.val true (.prod .elem (.prod .int (.prod .u64 (.prod .u64 .elem)))),.val false .int],[],false⟩
def avW:SV->Option az:=λ_=>some Hb
def aHz (a0:Int):OT Ma.Y:=
 let z0:aa:= {w0:=0,w1:=0,w2:=0,w3:=0}
 let z1:UInt64×aa:=((0:UInt64),z0)
 (.br (a0==(0:Int))
 (.ok ⟨Hb,((({w0:=16513537,w1:=0,w2:=0,w3:=0},(9:Int),(16513537:UInt64),z1),((0:Int),())),())⟩)
 (.br (a0==(1:Int))
  (.ok ⟨Hb,((({w0:=16521217,w1:=0,w2:=0,w3:=0},(11:Int),(16521217:UInt64),z1),((0:Int),())),())⟩)
  (.br (a0==(2:Int))
   (.ok ⟨Hb,((({w0:=11037532056220336129,w1:=2469829653914515739,w2:=0,w3:=4611686018427387904},(32:Int),(0:UInt64),(11037532056220336127:UInt64),{w0:=10122100416058490895,w1:=15551789045973377255,w2:=8617542898466512152,w3:=679271340751763220}),((0:Int),())),())⟩)
   (.br (a0==(3:Int))
    (.ok ⟨Hb,((({w0:=10108024940646105089,w1:=2469829653919213789,w2:=0,w3:=4611686018427387904},(32:Int),(0:UInt64),(10108024940646105087:UInt64),{w0:=18200867980676431887,w1:=7474641938123724515,w2:=9200329640471491984,w3:=679271340771891881}),((0:Int),())),())⟩)
    (.ok ⟨Hb,(((z0,(0:Int),(0:UInt64),z1),((20:Int),())),())⟩)))))
theorem aK7 (x:aIJ) (Q:Ma.Y->Prop):wpf te abz av 1000 Tryz.f76 (Ma.inp.inj x).tm (Ma.inp.inj x).hp (fnK Ma avW Q) (λ_ _=>False)=(aHz (x.1.1)).wpR Q:=by kernel_rfl
theorem aCc (pre:aIJ->Bool) (F:aIJ->OT Ma.Y) (hF:∀ (x:aIJ) oy,pre x=true->(F x).run=some oy->(aHz (x.1.1)).run=some oy):ac Tryz.prog 76 (Ma.aH pre F):=
 aD aq Np aqj (f:=76) (fn:=Tryz.f76) (c:=aj Tryz.f76) (by kernel_rfl) (by kernel_rfl) (by kernel_rfl) (S:=Ma) (k:=0) (by kernel_rfl) (λR hR=>af) (n:=1000) (sel:=avW) (λv o h=>by cases h;rfl) (pre:=pre) (F:=F) (T:=λx=>aHz (x.1.1)) (λx Q=>aK7 x Q) hF
abbrev PD:Type:=aa×Int×UInt64×UInt64×aa
def aJB:PD:=(⟨0,0,0,0⟩,0,0,0,⟨0,0,0,0⟩)
def aY:Nat->PD
 |0=>(⟨16513537,0,0,0⟩,9,16513537,0,⟨0,0,0,0⟩)
 |1=>(⟨16521217,0,0,0⟩,11,16521217,0,⟨0,0,0,0⟩)
 |2=>(⟨11037532056220336129,2469829653914515739,0,4611686018427387904⟩,32,0,11037532056220336127,⟨10122100416058490895,15551789045973377255,8617542898466512152,679271340751763220⟩)
 |3=>(⟨10108024940646105089,2469829653919213789,0,4611686018427387904⟩,32,0,10108024940646105087,⟨18200867980676431887,7474641938123724515,9200329640471491984,679271340771891881⟩)
 |_=>aJB
def ao (s:Int):Bool:=decide (0<=s)&&decide (s<4)
theorem cn {s:Int} (h:ao s=true):s=0\/s=1\/s=2\/s=3:=by
 simp only [ao,Bool.and_eq_true,decide_eq_true_eq] at h
 omega
theorem vm {s:Int} (h:ao s=false):(s==0)=false/\(s==1)=false/\(s==2)=false/\(s==3)=false:=by
 have hn:∀ k:Int,0<=k->k<4->(s==k)=false:=λk h0 h1=>by
  cases hb:s==k
  ·rfl
  ·have:s=k:=by simpa using hb
   subst this
   simp only [ao,decide_eq_true h0,decide_eq_true h1,Bool.and_self] at h
   cases h
 exact ⟨hn 0 (by decide) (by decide),hn 1 (by decide) (by decide),hn 2 (by decide) (by decide),hn 3 (by decide) (by decide)⟩
def avX (_:aIJ):Bool:=true
def aJX (x:aIJ):OT Ma.Y:=.br (ao x.1.1) (.ok ⟨Hb,((aY x.1.1.toNat,((0:Int),())),())⟩) (.ok ⟨Hb,((aJB,((20:Int),())),())⟩)
theorem aJW:ac Tryz.prog 76 (Ma.aH avX aJX):=aCc _ _ λx oy _ ho=>by
 rw [<-ho]
 clear ho
 obtain ⟨⟨s,⟨⟩⟩,⟨⟩⟩:=x
 cases hs:ao s
 ·obtain ⟨h0,h1,h2,h3⟩:=vm hs
  exact (OT.ar h0).trans ((OT.ar h1).trans ((OT.ar h2).trans ((OT.ar h3).trans (OT.ar (b:=ao s) hs).symm)))
 ·rcases cn hs with h|h|h|h
  all_goals
   have h:s=_:=h
   subst h
   rfl
theorem S9 (c:Int):ao c=(!decide (c<0)&& !decide (3<c)):=by
 rw [Bool.eq_iff_iff]
 simp only [ao,Bool.and_eq_true,decide_eq_true_eq,Bool.not_eq_true',decide_eq_false_iff_not]
 omega
def Vg:cf:=(Ma.aH avX aJX)
theorem avY:ac Tryz.prog 76 Vg:=aJW
theorem avV:aF Vg:=aA
def ax2:Env:=ay 76 Vg abz
theorem Ww:aQ Tryz.prog ax2:=ag avY Np
theorem SL:ax ax2:=ae avV Nq
theorem ax1:aU Tryz.prog te ax2:=aJ follows aq Ww SL
def tV:aw:=⟨[.val false .int],[],true,0,false⟩
abbrev ao4:Type:=((Int)×Unit)×(Unit)
def Mj:az:=⟨[.val true .elem,.val false .int],[],false⟩
def ak6:SV->Option az:=λ_=>some Mj
def av7 (a0:Int):OT tV.Y:=
 (.br (ao a0)
 (.ok ⟨Mj,(((aY (Int.toNat a0)).fst,((0:Int),())),())⟩)
 (.ok ⟨Mj,(({w0:=0,w1:=0,w2:=0,w3:=0},((20:Int),())),())⟩))
theorem aJ0 (x:ao4) (Q:tV.Y->Prop):wpf te ax2 av 1000 Tryz.f66 (tV.inp.inj x).tm (tV.inp.inj x).hp (fnK tV ak6 Q) (λ_ _=>False)=(av7 (x.1.1)).wpR Q:=by kernel_rfl
theorem av6 (pre:ao4->Bool) (F:ao4->OT tV.Y) (hF:∀ (x:ao4) oy,pre x=true->(F x).run=some oy->(av7 (x.1.1)).run=some oy):ac Tryz.prog 66 (tV.aH pre F):=
 aD aq Ww ax1 (f:=66) (fn:=Tryz.f66) (c:=aj Tryz.f66) (by kernel_rfl) (by kernel_rfl) (by kernel_rfl) (S:=tV) (k:=0) (by kernel_rfl) (λR hR=>af) (n:=1000) (sel:=ak6) (λv o h=>by cases h;rfl) (pre:=pre) (F:=F) (T:=λx=>av7 (x.1.1)) (λx Q=>aJ0 x Q) hF
def ak7 (_:ao4):Bool:=true
def aDX (x:ao4):OT tV.Y:=.br (ao x.1.1) (.ok ⟨Mj,(((aY x.1.1.toNat).1,((0:Int),())),())⟩) (.ok ⟨Mj,((⟨0,0,0,0⟩,((20:Int),())),())⟩)
theorem aHG:ac Tryz.prog 66 (tV.aH ak7 aDX):=av6 _ _ λx oy _ ho=>ho
def Mi:cf:=(tV.aH ak7 aDX)
theorem ao3:ac Tryz.prog 66 Mi:=aHG
theorem ao2:aF Mi:=aA
def Ol:Env:=ay 66 Mi ax2
theorem u6:aQ Tryz.prog Ol:=ag ao3 Ww
theorem Ok:ax Ol:=ae ao2 SL
theorem Gy:aU Tryz.prog te Ol:=aJ follows aq u6 Ok
def px:aw:=⟨[.val true (.prod .elem (.prod .int (.prod .u64 (.prod .u64 .elem)))),.val true .elem],[],true,0,false⟩
abbrev aoP:Type:=(((aa×(Int×(UInt64×(UInt64×aa)))))×(aa)×Unit)×(Unit)
def L4:Shape:=⟨53,[(2,.ptr 0 0 0),(3,.ptr 1 0 0),(4,.ptr 2 0 0),(5,.val false .u64),(6,.val false .int)],[(0,.cells [.val false .u64,.val false .u64,.val false .u64,.val false .u64,.val false .int,.val false .u64,.val false .u64,.val false .u64,.val false .u64,.val false .u64,.val false .u64]),(1,.row .u64),(2,.row .u64)],0,true⟩
abbrev dL:Type:=((Unit)×(Unit)×(Unit)×(UInt64)×(Int)×Unit)×(((UInt64)×(UInt64)×(UInt64)×(UInt64)×(Int)×(UInt64)×(UInt64)×(UInt64)×(UInt64)×(UInt64)×(UInt64)×Unit)×(List (UInt64))×(List (UInt64))×Unit)
def B7:Shape:=⟨53,[(4,.ptr 0 0 0),(5,.val false .u64)],[(0,.row .u64)],0,true⟩
abbrev pv:Type:=((Unit)×(UInt64)×Unit)×((List (UInt64))×Unit)
def avT:SE->Option Shape:=fp [(0,B7)] none
def aHx (a5:UInt64) (a6:Int) (c0_0:UInt64) (c0_1:UInt64) (c0_2:UInt64) (c0_3:UInt64) (c0_4:Int) (c0_5:UInt64) (c0_6:UInt64) (c0_7:UInt64) (c0_8:UInt64) (c0_9:UInt64) (c0_10:UInt64) (c1:List (UInt64)) (c2:List (UInt64)):OT (Sum dL aE):=
 let z0:UInt64:=List.getD c1 (Int.toNat a6+0) (0:UInt64)
 (.br (decide ((0:Int)<=a6))
 (gd [inB a6 4,decide (Int.toNat a6+0<List.length c1),wR ((a5,z0,c0_5,()),()),inR (a6-(1:Int))] (.ok (.inl (((),((),((),(aat a5 z0 c0_5,(a6-(1:Int),()))))),((c0_0,(c0_1,(c0_2,(c0_3,(c0_4,(c0_5,(c0_6,(c0_7,(c0_8,(c0_9,(c0_10,()))))))))))),(c1,(c2,())))))))
 (.ok (.inr ⟨(.exit 0,B7),(((),(a5,())),(c2,()))⟩)))
def L7 (s:dL):OT (Sum dL aE):=aHx (s.1.2.2.2.1) (s.1.2.2.2.2.1) (s.2.1.1) (s.2.1.2.1) (s.2.1.2.2.1) (s.2.1.2.2.2.1) (s.2.1.2.2.2.2.1) (s.2.1.2.2.2.2.2.1) (s.2.1.2.2.2.2.2.2.1) (s.2.1.2.2.2.2.2.2.2.1) (s.2.1.2.2.2.2.2.2.2.2.1) (s.2.1.2.2.2.2.2.2.2.2.2.1) (s.2.1.2.2.2.2.2.2.2.2.2.2.1) (s.2.2.1) (s.2.2.2.1)
theorem aHs (s:dL) (Q:Sum dL aE->Prop):wps te Ol av 1000 (aV (aj Tryz.f91) 0) (L4.inj s) (bV L4 avT (Q:Sum L4.T aE->Prop))=(L7 s).wpR Q:=by kernel_rfl
def Vf (g0_0:dL->pv) (s:dL):OT aE:=(.ok ⟨(.exit 0,B7),g0_0 s⟩)
def L3:Shape:=⟨53,[(2,.ptr 0 0 0),(3,.ptr 1 0 0),(4,.ptr 2 0 0)],[(0,.cells [.val false .u64,.val false .u64,.val false .u64,.val false .u64,.val false .int,.val false .u64,.val false .u64,.val false .u64,.val false .u64,.val false .u64,.val false .u64]),(1,.row .u64),(2,.row .u64)],0,true⟩
abbrev dK:Type:=((Unit)×(Unit)×(Unit)×Unit)×(((UInt64)×(UInt64)×(UInt64)×(UInt64)×(Int)×(UInt64)×(UInt64)×(UInt64)×(UInt64)×(UInt64)×(UInt64)×Unit)×(List (UInt64))×(List (UInt64))×Unit)
def tQ:Shape:=⟨53,[(4,.ptr 0 0 0)],[(0,.row .u64)],0,true⟩
abbrev pu:Type:=((Unit)×Unit)×((List (UInt64))×Unit)
def avS:SE->Option Shape:=fp [] (some tQ)
def aHw (c0_0:UInt64) (c0_1:UInt64) (c0_2:UInt64) (c0_3:UInt64) (c0_4:Int) (c0_5:UInt64) (c0_6:UInt64) (c0_7:UInt64) (c0_8:UInt64) (c0_9:UInt64) (c0_10:UInt64) (c1:List (UInt64)) (c2:List (UInt64)):OT (Sum dK aE):=
 let z0:Nat:=List.length c1
 let z1:Bool:=decide (4<=z0)
 let z2:aa×Bool:=ef {w0:=List.getD c1 0 0,w1:=List.getD c1 1 0,w2:=List.getD c1 2 0,w3:=List.getD c1 3 0} {w0:=c0_0,w1:=c0_1,w2:=c0_2,w3:=c0_3}
 let z3:=z2.fst
 (gd [z1] (.br (z2.snd)
 (gd [z1,decide ((4/1:Nat)+0<=List.length c2)] (.ok (.inr ⟨(.ret,tQ),(((),()),(lay c2 c1 4 (0:UInt64),()))⟩)))
 (gd [decide ((4/1:Nat)+0<=z0)] (.ok (.inl (((),((),((),()))),((c0_0,(c0_1,(c0_2,(c0_3,(c0_4,(c0_5,(c0_6,(c0_7,(c0_8,(c0_9,(c0_10,()))))))))))),(List.set (List.set (List.set (List.set c1 0 z3.w0) 1 z3.w1) 2 z3.w2) 3 z3.w3,(c2,())))))))))
def L6 (s:dK):OT (Sum dK aE):=aHw (s.2.1.1) (s.2.1.2.1) (s.2.1.2.2.1) (s.2.1.2.2.2.1) (s.2.1.2.2.2.2.1) (s.2.1.2.2.2.2.2.1) (s.2.1.2.2.2.2.2.2.1) (s.2.1.2.2.2.2.2.2.2.1) (s.2.1.2.2.2.2.2.2.2.2.1) (s.2.1.2.2.2.2.2.2.2.2.2.1) (s.2.1.2.2.2.2.2.2.2.2.2.2.1) (s.2.2.1) (s.2.2.2.1)
theorem aHr (s:dK) (Q:Sum dK aE->Prop):wps te Ol av 1000 (aV (aj Tryz.f91) 2) (L3.inj s) (bV L3 avS (Q:Sum L3.T aE->Prop))=(L6 s).wpR Q:=by kernel_rfl
def Ve (g2_r:dK->pu) (s:dK):OT aE:=(.ok ⟨(.ret,tQ),g2_r s⟩)
def rk:az:=⟨[.val true .elem],[],false⟩
def akY:SV->Option az:=λ_=>some rk
def L8 (ok0:dL->Bool) (g0_0:dL->pv) (ok2:dK->Bool) (g2_r:dK->pu) (a0:(aa×(Int×(UInt64×(UInt64×aa))))) (a1:aa):OT px.Y:=
 let z0:Bool:= !a0.snd.snd.fst==(0:UInt64)
 let z1:(UInt64×UInt64×UInt64×UInt64×Int×UInt64×UInt64×UInt64×UInt64×UInt64×UInt64×PUnit)×List UInt64×List UInt64×PUnit:=((a0.fst.w0,a0.fst.w1,a0.fst.w2,a0.fst.w3,a0.snd.fst,a0.snd.snd.fst,a0.snd.snd.snd.fst,a0.snd.snd.snd.snd.w0,a0.snd.snd.snd.snd.w1,a0.snd.snd.snd.snd.w2,a0.snd.snd.snd.snd.w3,()),[a1.w0,a1.w1,a1.w2,a1.w3],[(0:UInt64),(0:UInt64),(0:UInt64),(0:UInt64)],())
 let z2:(PUnit×PUnit×PUnit×UInt64×Int×PUnit)×(UInt64×UInt64×UInt64×UInt64×Int×UInt64×UInt64×UInt64×UInt64×UInt64×UInt64×PUnit)×List UInt64×List UInt64×PUnit:=(((),(),(),(0:UInt64),(3:Int),()),z1)
 let z3:(PUnit×UInt64×PUnit)×List UInt64×PUnit:=g0_0 z2
 let z4:=z3.snd.fst
 let z5:List UInt64:=List.set (List.set (List.set (List.set z4 0 z3.fst.snd.fst) 1 (0:UInt64)) 2 (0:UInt64)) 3 (0:UInt64)
 let z6:(PUnit×PUnit×PUnit×PUnit)×(UInt64×UInt64×UInt64×UInt64×Int×UInt64×UInt64×UInt64×UInt64×UInt64×UInt64×PUnit)×List UInt64×List UInt64×PUnit:=(((),(),(),()),z1)
 let z7:=(g2_r z6).snd.fst
 (.br (z0)
 (.br (a1.w1|||a1.w2|||a1.w3==(0:UInt64))
  (gd [z0] (.ok ⟨rk,(({w0:=a1.w0%a0.snd.snd.fst,w1:=0,w2:=0,w3:=0},()),())⟩))
  (gd [ok0 z2,decide ((4/1:Nat)+0<=List.length z4),decide (4<=List.length z5)] (.ok ⟨rk,(({w0:=List.getD z5 0 0,w1:=List.getD z5 1 0,w2:=List.getD z5 2 0,w3:=List.getD z5 3 0},()),())⟩)))
 (gd [ok2 z6,decide (4<=List.length z7)] (.ok ⟨rk,(({w0:=List.getD z7 0 0,w1:=List.getD z7 1 0,w2:=List.getD z7 2 0,w3:=List.getD z7 3 0},()),())⟩)))
theorem aJV (ok0:dL->Bool) (g0_0:dL->pv) (ok2:dK->Bool) (g2_r:dK->pu) (x:aoP) (Q:px.Y->Prop):wpf te Ol (aO 2 (cb L3 2 ok2 (Ve g2_r)) (aO 0 (cb L4 0 ok0 (Vf g0_0)) av)) 1000 Tryz.f91 (px.inp.inj x).tm (px.inp.inj x).hp (fnK px akY Q) (λ_ _=>False)=(L8 ok0 g0_0 ok2 g2_r (x.1.1) (x.1.2.1)).wpR Q:=by kernel_rfl
theorem avU (ok0:dL->Bool) (g0_0:dL->pv) (ok2:dK->Bool) (g2_r:dK->pu) (h0:∀ s:dL,ok0 s=true->∃ m e,al (L7) m s=some e/\(Vf g0_0 s).run=some e) (h2:∀ s:dK,ok2 s=true->∃ m e,al (L6) m s=some e/\(Ve g2_r s).run=some e) (pre:aoP->Bool) (F:aoP->OT px.Y) (hF:∀ (x:aoP) oy,pre x=true->(F x).run=some oy->(L8 ok0 g0_0 ok2 g2_r (x.1.1) (x.1.2.1)).run=some oy):ac Tryz.prog 91 (px.aH pre F):=
 aD aq u6 Gy (f:=91) (fn:=Tryz.f91) (c:=aj Tryz.f91) (by kernel_rfl) (by kernel_rfl) (by kernel_rfl) (S:=px) (k:=0) (by kernel_rfl) (λR hR=>(aB (c:=(aj Tryz.f91)) (by kernel_rfl) (id:=2) (by kernel_rfl) (aS aq u6 Gy (sh:=L3) hR (xs:=avS) (aC (by kernel_rfl) (by kernel_rfl) hR) aK af (n:=1000) (T:=L6) (λs Q=>aHr s Q) (ok:=ok2) (f:=Ve g2_r) h2) (aB (c:=(aj Tryz.f91)) (by kernel_rfl) (id:=0) (by kernel_rfl) (aS aq u6 Gy (sh:=L4) hR (xs:=avT) (aC (by kernel_rfl) (by kernel_rfl) hR) aK af (n:=1000) (T:=L7) (λs Q=>aHs s Q) (ok:=ok0) (f:=Vf g0_0) h0) af))) (n:=1000) (sel:=akY) (λv o h=>by cases h;rfl) (pre:=pre) (F:=F) (T:=λx=>L8 ok0 g0_0 ok2 g2_r (x.1.1) (x.1.2.1)) (λx Q=>aJV ok0 g0_0 ok2 g2_r x Q) hF
def kn (n:PD):Bool:=decide (n=aY 0)||(decide (n=aY 1)||(decide (n=aY 2)||decide (n=aY 3)))
theorem y4 {n:PD} (h:kn n=true):n=aY 0\/n=aY 1\/n=aY 2\/n=aY 3:=by
 simpa [kn] using h
theorem iP {s:Int} (h:ao s=true):kn (aY s.toNat)=true:=by
 rcases cn h with rfl|rfl|rfl|rfl<;>decide+kernel
def aJm (c:List UInt64) (m:UInt64):UInt64:=upto (λk r=>aat r (c.getD (3-k) 0) m) 0 4
theorem lC {m:UInt64} (h:fQ m=true):0<m.toNat:=by
 rcases dY h with rfl|rfl<;>decide
theorem ajt {a:aa} {m:UInt64} (h:fQ m=true):aJm (lst a) m=UInt64.ofNat (a.nat%m.toNat):=by
 have hm:=lC h
 rw [<-UInt64.toNat_inj,UInt64.toNat_ofNat',Nat.mod_eq_of_lt (b:=2^64) (Nat.lt_trans (Nat.mod_lt _ hm) m.toNat_lt)]
 show (aat (aat (aat (aat 0 a.w3 m) a.w2 m) a.w1 m) a.w0 m).toNat=_
 rw [rq hm,rq hm,rq hm,rq hm,UO _ a.w2.toNat,UO _ a.w1.toNat,UO _ a.w0.toNat,show (0:UInt64).toNat=0 from rfl]
 congr 1
 unfold Sx.aa.nat
 omega
def B6 (s:dL):Bool:=decide (s.1.2.2.2.1=0/\s.1.2.2.2.2.1=3/\s.2.2.1.length=4)&&fQ s.2.1.2.2.2.2.2.1
def Vd (s:dL):pv:=(((),aJm s.2.2.1 s.2.1.2.2.2.2.2.1,()),(s.2.2.2.1,()))
theorem aHv:∀ s:dL,B6 s=true->∃ m e,al L7 m s=some e/\(Vf Vd s).run=some e:=by
 rintro ⟨⟨⟨⟩,⟨⟩,⟨⟩,r,i,⟨⟩⟩,⟨⟨x0,x1,x2,x3,x4,sm,x6,x7,x8,x9,x10,⟨⟩⟩,c1,c2,⟨⟩⟩⟩ h
 simp only [B6,Bool.and_eq_true,decide_eq_true_eq] at h
 obtain ⟨⟨rfl,rfl,hl⟩,hs⟩:=h
 have hm:=lC hs
 have:=(aP (T:=L7) (λk r=>((((),(),(),r,3-(k:Int),()),((x0,x1,x2,x3,x4,sm,x6,x7,x8,x9,x10,()),c1,c2,())):dL)) (λk r=>aat r (c1.getD (3-k) 0) sm)
  (λr=>(⟨(.exit 0,B7),(((),r,()),(c2,()))⟩:aE)) 4 0 (λ_ r=>r.toNat<sm.toNat) hm (λk r hk hr=>⟨?_,?_⟩) (λr hr=> ?_)).1
 ·obtain ⟨m,hm⟩:=this
  exact ⟨m,_,hm,rfl⟩
 ·have e1:(3-(k:Int)).toNat=3-k:=by omega
  have e2:(3:Int)-(k:Int)-1=3-((k+1:Nat):Int):=by omega
  refine (OT.ap (decide_eq_true (by dsimp only;omega))).trans ((ah ?_).trans ?_)
  ·simp only [e1,Nat.add_zero,hl,List.all_cons,List.all_nil,Bool.and_true,Bool.and_eq_true]
   refine ⟨aN (by omega),decide_eq_true (by omega),?_,aI (by omega)⟩
   simp only [wR,Bool.and_eq_true]
   exact ⟨hs,decide_eq_true (UInt64.lt_iff_toNat_lt.2 hr)⟩
  ·simp only [OT.cK,e1,e2,Nat.add_zero]
 ·rw [rq hm]
  exact Nat.mod_lt _ hm
 ·exact OT.ar (decide_eq_false (by dsimp only;omega))
def aLe (s:dK):aa:=⟨s.2.1.1,s.2.1.2.1,s.2.1.2.2.1,s.2.1.2.2.2.1⟩
def I4 (s:dK):Bool:=decide (s.2.2.1.length=4/\s.2.2.2.1.length=4/\0<(aLe s).nat)
def Vc (s:dK):pu:=(((),()),(lst (ofN ((elemOf s.2.2.1).nat%(aLe s).nat)),()))
theorem aoN {x0 x1 x2 x3 x5 x6 x7 x8 x9 x10:UInt64} {x4:Int} {c2:List UInt64} (hc:c2.length=4) (hm:0<(aa.mk x0 x1 x2 x3).nat):∀ (n:Nat) (a:aa),a.nat=n->
 ∃ m,al L6 m (((),(),(),()),((x0,x1,x2,x3,x4,x5,x6,x7,x8,x9,x10,()),lst a,c2,()))=some ⟨(.ret,tQ),(((),()),(lst (ofN (a.nat%(aa.mk x0 x1 x2 x3).nat)),()))⟩:=by
 intro n
 induction n using Nat.strongRecOn with
 |_ n ih=>
  intro a hn
  cases hb:Nat.blt a.nat (aa.mk x0 x1 x2 x3).nat
  ·have hle:(aa.mk x0 x1 x2 x3).nat<=a.nat:=by
    rcases Nat.lt_or_ge a.nat (aa.mk x0 x1 x2 x3).nat with h|h
    ·have:Nat.blt a.nat (aa.mk x0 x1 x2 x3).nat=true:=Nat.ble_eq_true_of_le h
     rw [this] at hb;cases hb
    ·exact h
   have hd:=mU hle
   obtain ⟨m,hm2⟩:=ih (a.nat-(aa.mk x0 x1 x2 x3).nat) (by omega) (ef a ⟨x0,x1,x2,x3⟩).1 hd
   rw [hd,<-Nat.mod_eq_sub_mod hle] at hm2
   refine ⟨m+1,aG ?_ hm2⟩
   refine (ah ?_).trans ((OT.ar hb).trans ((ah ?_).trans rfl))
   ·rfl
   ·rfl
  ·have hlt:=ed hb
   rw [Nat.mod_eq_of_lt hlt,wa]
   refine ⟨1,aM ?_⟩
   refine (ah ?_).trans ((OT.ap hb).trans ((ah ?_).trans ?_))
   ·rfl
   ·simp only [hc,List.all_cons,List.all_nil,Bool.and_true,Bool.and_eq_true]
    exact ⟨rfl,rfl⟩
   ·show some (Sum.inr (⟨(.ret,tQ),(((),()),(lay c2 (lst a) 4 0,()))⟩:aE))=_
    rw [xO hc (cA a)]
theorem aHu:∀ s:dK,I4 s=true->∃ m e,al L6 m s=some e/\(Ve Vc s).run=some e:=by
 rintro ⟨⟨⟨⟩,⟨⟩,⟨⟩,⟨⟩⟩,⟨⟨x0,x1,x2,x3,x4,x5,x6,x7,x8,x9,x10,⟨⟩⟩,c1,c2,⟨⟩⟩⟩ h
 have h':=of_decide_eq_true h
 dsimp only [aLe] at h'
 obtain ⟨h1,h2,h3⟩:=h'
 obtain ⟨m,hm⟩:=aoN (x4:=x4) (x5:=x5) (x6:=x6) (x7:=x7) (x8:=x8) (x9:=x9) (x10:=x10) h2 h3 _ (elemOf c1) rfl
 rw [aR h1] at hm
 exact ⟨m,_,hm,rfl⟩
def gr (x:aoP):Bool:=kn x.1.1
def aDT (x:aoP):OT px.Y:=.ok ⟨rk,((ofN (x.1.2.1.nat%x.1.1.1.nat),()),())⟩
theorem tu {n:Nat} (h:n<18446744073709551616):ofN n=⟨UInt64.ofNat n,0,0,0⟩:=by
 refine auW (k:=0) ?_
 rw [UInt64.toNat_ofNat',Nat.mod_eq_of_lt (by omega)]
 simp
theorem L5 {n:PD} {a:aa} {m:UInt64} (h1:n.1=⟨m,0,0,0⟩) (h2:n.2.2.1=m) (hs:fQ m=true):(L8 B6 Vd I4 Vc n a).run=some ⟨rk,((ofN (a.nat%n.1.nat),()),())⟩:=by
 have hm:=lC hs
 have hn:n.1.nat=m.toNat:=by rw [h1];show m.toNat+_*(0+_*(0+_*0))=_;omega
 have hz:(!(n.2.2.1==0))=true:=by
  rw [h2]
  rcases dY hs with rfl|rfl<;>rfl
 have hlt:a.nat%m.toNat<18446744073709551616:=Nat.lt_trans (Nat.mod_lt _ hm) m.toNat_lt
 rw [hn,tu hlt]
 unfold L8
 refine (OT.ap hz).trans ?_
 cases hb:(a.w1|||a.w2|||a.w3==0)
 ·refine (OT.ar rfl).trans ((ah ?_).trans ?_)
  ·simp only [List.all_cons,List.all_nil,Bool.and_true,Bool.and_eq_true]
   refine ⟨?_,rfl,rfl⟩
   show (decide _&&fQ n.2.2.1)=true
   rw [h2,hs,Bool.and_true]
   exact decide_eq_true ⟨rfl,rfl,rfl⟩
  ·show some (⟨rk,((⟨aJm (lst a) n.2.2.1,0,0,0⟩,()),())⟩:px.Y)=_
   rw [h2,ajt hs]
 ·refine (OT.ap rfl).trans ((ah ?_).trans ?_)
  ·simp only [hz,List.all_cons,List.all_nil,Bool.and_true]
  ·have hw:a.w1=0/\a.w2=0/\a.w3=0:=by
    have:a.w1|||a.w2|||a.w3=0:=by simpa using hb
    simpa [UInt64.or_eq_zero_iff,and_assoc] using this
   have ha:a.nat=a.w0.toNat:=by
    unfold Sx.aa.nat
    rw [hw.1,hw.2.1,hw.2.2]
    show _+_*(0+_*(0+_*0))=_
    omega
   show some (⟨rk,((⟨a.w0%n.2.2.1,0,0,0⟩,()),())⟩:px.Y)=_
   have e:a.w0%n.2.2.1=UInt64.ofNat (a.nat%m.toNat):=by
    rw [h2,ha,<-UInt64.toNat_inj,UInt64.toNat_mod,UInt64.toNat_ofNat']
    exact (Nat.mod_eq_of_lt (by rw [<-ha];omega)).symm
   rw [e]
theorem Rz {n:PD} {a:aa} (h2:n.2.2.1=0) (hs:0<n.1.nat):(L8 B6 Vd I4 Vc n a).run=some ⟨rk,((ofN (a.nat%n.1.nat),()),())⟩:=by
 unfold L8
 refine (OT.ar (by rw [h2];rfl)).trans ((ah ?_).trans ?_)
 ·simp only [List.all_cons,List.all_nil,Bool.and_true,Bool.and_eq_true]
  exact ⟨decide_eq_true ⟨rfl,rfl,hs⟩,rfl⟩
 ·rfl
theorem aLA:0<(aY 2).1.nat:=by decide+kernel
theorem aLz:0<(aY 3).1.nat:=by decide+kernel
theorem aHt:ac Tryz.prog 91 (px.aH gr aDT):=avU B6 Vd I4 Vc aHv aHu _ _ λx oy hp ho=>by
 rw [<-ho]
 clear ho
 obtain ⟨⟨n,a,⟨⟩⟩,⟨⟩⟩:=x
 have hp':kn n=true:=hp
 rcases y4 hp' with rfl|rfl|rfl|rfl
 ·exact L5 (m:=16513537) rfl rfl rfl
 ·exact L5 (m:=16521217) rfl rfl rfl
 ·exact Rz rfl aLA
 ·exact Rz rfl aLz
def L0:cf:=(px.aH gr aDT)
theorem aoO:ac Tryz.prog 91 L0:=aHt
theorem aoM:aF L0:=aA
def abN:Env:=ay 91 L0 Ol
theorem Oc:aQ Tryz.prog abN:=ag aoO u6
theorem Od:ax abN:=ae aoM Ok
theorem aqq:aU Tryz.prog te abN:=aJ follows aq Oc Od
def mw:aw:=⟨[.val true (.prod .elem (.prod .int (.prod .u64 (.prod .u64 .elem)))),.val true .elem,.val true .elem],[],true,0,false⟩
abbrev RK:Type:=(((aa×(Int×(UInt64×(UInt64×aa)))))×(aa)×(aa)×Unit)×(Unit)
def Vu:az:=⟨[.val true .elem],[],false⟩
def aam:SV->Option az:=λ_=>some Vu
def aft (a0:(aa×(Int×(UInt64×(UInt64×aa))))) (a1:aa) (a2:aa):OT mw.Y:=
 let z0:Nat:=aa.nat a0.fst
 let z1:aa:=(qk (ofN (aa.nat a1%z0)) (ofN (aa.nat a2%z0))).fst
 (gd [gr ((a0,a1,()),()),gr ((a0,a2,()),()),gr ((a0,z1,()),())] (.ok ⟨Vu,((ofN (aa.nat z1%z0),()),())⟩))
theorem aHO (x:RK) (Q:mw.Y->Prop):wpf te abN av 1000 Tryz.f78 (mw.inp.inj x).tm (mw.inp.inj x).hp (fnK mw aam Q) (λ_ _=>False)=(aft (x.1.1) (x.1.2.1) (x.1.2.2.1)).wpR Q:=by kernel_rfl
theorem apn (pre:RK->Bool) (F:RK->OT mw.Y) (hF:∀ (x:RK) oy,pre x=true->(F x).run=some oy->(aft (x.1.1) (x.1.2.1) (x.1.2.2.1)).run=some oy):ac Tryz.prog 78 (mw.aH pre F):=
 aD aq Oc aqq (f:=78) (fn:=Tryz.f78) (c:=aj Tryz.f78) (by kernel_rfl) (by kernel_rfl) (by kernel_rfl) (S:=mw) (k:=0) (by kernel_rfl) (λR hR=>af) (n:=1000) (sel:=aam) (λv o h=>by cases h;rfl) (pre:=pre) (F:=F) (T:=λx=>aft (x.1.1) (x.1.2.1) (x.1.2.2.1)) (λx Q=>aHO x Q) hF
theorem BH {n:PD} (h:kn n=true):0<n.1.nat/\n.1.nat<57896044618658097711785492504343953926634992332820282019728792003956564819968:=by
 rcases y4 h with rfl|rfl|rfl|rfl
 ·exact ⟨by decide+kernel,by decide+kernel⟩
 ·exact ⟨by decide+kernel,by decide+kernel⟩
 ·exact ⟨by decide+kernel,by decide+kernel⟩
 ·exact ⟨by decide+kernel,by decide+kernel⟩
def pS (s:Int):Nat:=(aY s.toNat).1.nat
theorem o7 {s:Int} (h:ao s=true):0<pS s/\pS s<57896044618658097711785492504343953926634992332820282019728792003956564819968:=BH (iP h)
def zK (p:Nat) (a b:aa):aa:=ofN ((a.nat+b.nat)%p)
def Ik (p:Nat) (a:aa):aa:=ofN ((p-a.nat%p)%p)
def bB (p:Nat) (a b:aa):aa:=ofN (a.nat*b.nat%p)
theorem dm {p n:Nat} (h:0<p/\p<57896044618658097711785492504343953926634992332820282019728792003956564819968):(ofN (n%p)).nat=n%p:=by
 have:=Nat.mod_lt n h.1
 exact ko (by omega)
theorem axV {p:Nat} (h:0<p/\p<57896044618658097711785492504343953926634992332820282019728792003956564819968) (a b:aa):ofN ((qk (ofN (a.nat%p)) (ofN (b.nat%p))).1.nat%p)=zK p a b:=by
 have ha:=Nat.mod_lt a.nat h.1
 have hb:=Nat.mod_lt b.nat h.1
 have e:(qk (ofN (a.nat%p)) (ofN (b.nat%p))).1.nat=a.nat%p+b.nat%p:=by
  show (ofN _).nat=_
  rw [dm h,dm h]
  exact ko (by omega)
 unfold zK
 rw [e,<-Nat.add_mod]
def MA (x:RK):Bool:=kn x.1.1
def afu (x:RK):OT mw.Y:=.ok ⟨Vu,((zK x.1.1.1.nat x.1.2.1 x.1.2.2.1,()),())⟩
theorem aCj:ac Tryz.prog 78 (mw.aH MA afu):=apn _ _ λx oy hp ho=>by
 rw [<-ho]
 clear ho
 obtain ⟨⟨n,a,b,⟨⟩⟩,⟨⟩⟩:=x
 have hp':kn n=true:=hp
 refine (ah ?_).trans ?_
 ·simp only [List.all_cons,List.all_nil,Bool.and_true,Bool.and_eq_true]
  exact ⟨hp',hp',hp'⟩
 ·simp only [afu,axV (BH hp')]
def FA:cf:=(mw.aH MA afu)
theorem afs:ac Tryz.prog 78 FA:=aCj
theorem afr:aF FA:=aA
def Ox:Env:=ay 78 FA abN
theorem GA:aQ Tryz.prog Ox:=ag afs Oc
theorem H2:ax Ox:=ae afr Od
theorem agP:aU Tryz.prog te Ox:=aJ follows aq GA H2
def mr:aw:=⟨[.val true (.prod .elem (.prod .int (.prod .u64 (.prod .u64 .elem)))),.val true .elem],[],true,0,false⟩
abbrev RC:Type:=(((aa×(Int×(UInt64×(UInt64×aa)))))×(aa)×Unit)×(Unit)
def Vj:az:=⟨[.val true .elem],[],false⟩
def Z6:SV->Option az:=λ_=>some Vj
def afe (a0:(aa×(Int×(UInt64×(UInt64×aa))))) (a1:aa):OT mr.Y:=
 let z0:Nat:=aa.nat a0.fst
 let z1:aa:=(ef a0.fst (ofN (aa.nat a1%z0))).fst
 (gd [gr ((a0,a1,()),()),gr ((a0,z1,()),())] (.ok ⟨Vj,((ofN (aa.nat z1%z0),()),())⟩))
theorem aHB (x:RC) (Q:mr.Y->Prop):wpf te Ox av 1000 Tryz.f139 (mr.inp.inj x).tm (mr.inp.inj x).hp (fnK mr Z6 Q) (λ_ _=>False)=(afe (x.1.1) (x.1.2.1)).wpR Q:=by kernel_rfl
theorem aoX (pre:RC->Bool) (F:RC->OT mr.Y) (hF:∀ (x:RC) oy,pre x=true->(F x).run=some oy->(afe (x.1.1) (x.1.2.1)).run=some oy):ac Tryz.prog 139 (mr.aH pre F):=
 aD aq GA agP (f:=139) (fn:=Tryz.f139) (c:=aj Tryz.f139) (by kernel_rfl) (by kernel_rfl) (by kernel_rfl) (S:=mr) (k:=0) (by kernel_rfl) (λR hR=>af) (n:=1000) (sel:=Z6) (λv o h=>by cases h;rfl) (pre:=pre) (F:=F) (T:=λx=>afe (x.1.1) (x.1.2.1)) (λx Q=>aHB x Q) hF
theorem aG0 {m:aa} (h:0<m.nat/\m.nat<57896044618658097711785492504343953926634992332820282019728792003956564819968) (a:aa):ofN ((ef m (ofN (a.nat%m.nat))).1.nat%m.nat)=Ik m.nat a:=by
 have ha:=Nat.mod_lt a.nat h.1
 have e:=dm (n:=a.nat) h
 have e2:(ef m (ofN (a.nat%m.nat))).1.nat=m.nat-a.nat%m.nat:=by
  rw [mU (by rw [e];omega),e]
 unfold Ik
 rw [e2]
def Ca (x:RC):Bool:=kn x.1.1
def aff (x:RC):OT mr.Y:=.ok ⟨Vj,((Ik x.1.1.1.nat x.1.2.1,()),())⟩
theorem aCd:ac Tryz.prog 139 (mr.aH Ca aff):=aoX _ _ λx oy hp ho=>by
 rw [<-ho]
 clear ho
 obtain ⟨⟨n,a,⟨⟩⟩,⟨⟩⟩:=x
 have hp':kn n=true:=hp
 refine (ah ?_).trans ?_
 ·simp only [List.all_cons,List.all_nil,Bool.and_true,Bool.and_eq_true]
  exact ⟨hp',hp'⟩
 ·simp only [aff,aG0 (BH hp')]
def Fv:cf:=(mr.aH Ca aff)
theorem afd:ac Tryz.prog 139 Fv:=aCd
theorem afc:aF Fv:=aA
def Og:Env:=ay 139 Fv Ox
theorem Gw:aQ Tryz.prog Og:=ag afd GA
theorem HW:ax Og:=ae afc H2
theorem agN:aU Tryz.prog te Og:=aJ follows aq Gw HW
def ue:aw:=⟨[.val false .int,.val true .elem,.val true .elem],[],true,0,false⟩
abbrev apm:Type:=((Int)×(aa)×(aa)×Unit)×(Unit)
def Mz:az:=⟨[.val true .elem],[],false⟩
def alh:SV->Option az:=λ_=>some Mz
def awn (a0:Int) (a1:aa) (a2:aa):OT ue.Y:=
 let z0:aa×Int×UInt64×UInt64×aa:=aY (Int.toNat a0)
 (.br (ao a0)
 (gd [MA ((z0,a1,a2,()),())] (.ok ⟨Mz,((zK (aa.nat z0.fst) a1 a2,()),())⟩))
 (.ok ⟨Mz,(({w0:=0,w1:=0,w2:=0,w3:=0},()),())⟩))
theorem aJ3 (x:apm) (Q:ue.Y->Prop):wpf te Og av 1000 Tryz.f43 (ue.inp.inj x).tm (ue.inp.inj x).hp (fnK ue alh Q) (λ_ _=>False)=(awn (x.1.1) (x.1.2.1) (x.1.2.2.1)).wpR Q:=by kernel_rfl
theorem awm (pre:apm->Bool) (F:apm->OT ue.Y) (hF:∀ (x:apm) oy,pre x=true->(F x).run=some oy->(awn (x.1.1) (x.1.2.1) (x.1.2.2.1)).run=some oy):ac Tryz.prog 43 (ue.aH pre F):=
 aD aq Gw agN (f:=43) (fn:=Tryz.f43) (c:=aj Tryz.f43) (by kernel_rfl) (by kernel_rfl) (by kernel_rfl) (S:=ue) (k:=0) (by kernel_rfl) (λR hR=>af) (n:=1000) (sel:=alh) (λv o h=>by cases h;rfl) (pre:=pre) (F:=F) (T:=λx=>awn (x.1.1) (x.1.2.1) (x.1.2.2.1)) (λx Q=>aJ3 x Q) hF
def ali (_:apm):Bool:=true
def aD0 (x:apm):OT ue.Y:=.br (ao x.1.1) (.ok ⟨Mz,((zK (pS x.1.1) x.1.2.1 x.1.2.2.1,()),())⟩) (.ok ⟨Mz,((⟨0,0,0,0⟩,()),())⟩)
theorem aHN:ac Tryz.prog 43 (ue.aH ali aD0):=awm _ _ λx oy hp ho=>by
 rw [<-ho]
 clear ho
 obtain ⟨⟨s,a,b,⟨⟩⟩,⟨⟩⟩:=x
 cases hs:ao s
 ·exact (OT.ar hs).trans (OT.ar (b:=ao s) hs).symm
 ·refine (OT.ap hs).trans ((ah ?_).trans (OT.ap (b:=ao s) hs).symm)
  simp only [List.all_cons,List.all_nil,Bool.and_true]
  exact iP hs
def My:cf:=(ue.aH ali aD0)
theorem apl:ac Tryz.prog 43 My:=aHN
theorem apk:aF My:=aA
def abT:Env:=ay 43 My Og
theorem Ov:aQ Tryz.prog abT:=ag apl Gw
theorem Ow:ax abT:=ae apk HW
theorem aqv:aU Tryz.prog te abT:=aJ follows aq Ov Ow
def tT:aw:=⟨[.val false .int,.val true .elem],[],true,0,false⟩
abbrev aoW:Type:=((Int)×(aa)×Unit)×(Unit)
def Me:az:=⟨[.val true .elem],[],false⟩
def ak1:SV->Option az:=λ_=>some Me
def av1 (a0:Int) (a1:aa):OT tT.Y:=
 let z0:aa×Int×UInt64×UInt64×aa:=aY (Int.toNat a0)
 (.br (ao a0)
 (gd [Ca ((z0,a1,()),())] (.ok ⟨Me,((Ik (aa.nat z0.fst) a1,()),())⟩))
 (.ok ⟨Me,(({w0:=0,w1:=0,w2:=0,w3:=0},()),())⟩))
theorem aJY (x:aoW) (Q:tT.Y->Prop):wpf te abT av 1000 Tryz.f98 (tT.inp.inj x).tm (tT.inp.inj x).hp (fnK tT ak1 Q) (λ_ _=>False)=(av1 (x.1.1) (x.1.2.1)).wpR Q:=by kernel_rfl
theorem av0 (pre:aoW->Bool) (F:aoW->OT tT.Y) (hF:∀ (x:aoW) oy,pre x=true->(F x).run=some oy->(av1 (x.1.1) (x.1.2.1)).run=some oy):ac Tryz.prog 98 (tT.aH pre F):=
 aD aq Ov aqv (f:=98) (fn:=Tryz.f98) (c:=aj Tryz.f98) (by kernel_rfl) (by kernel_rfl) (by kernel_rfl) (S:=tT) (k:=0) (by kernel_rfl) (λR hR=>af) (n:=1000) (sel:=ak1) (λv o h=>by cases h;rfl) (pre:=pre) (F:=F) (T:=λx=>av1 (x.1.1) (x.1.2.1)) (λx Q=>aJY x Q) hF
def ak2 (_:aoW):Bool:=true
def aDU (x:aoW):OT tT.Y:=.br (ao x.1.1) (.ok ⟨Me,((Ik (pS x.1.1) x.1.2.1,()),())⟩) (.ok ⟨Me,((⟨0,0,0,0⟩,()),())⟩)
theorem aHA:ac Tryz.prog 98 (tT.aH ak2 aDU):=av0 _ _ λx oy hp ho=>by
 rw [<-ho]
 clear ho
 obtain ⟨⟨s,a,⟨⟩⟩,⟨⟩⟩:=x
 cases hs:ao s
 ·exact (OT.ar hs).trans (OT.ar (b:=ao s) hs).symm
 ·refine (OT.ap hs).trans ((ah ?_).trans (OT.ap (b:=ao s) hs).symm)
  simp only [List.all_cons,List.all_nil,Bool.and_true]
  exact iP hs
def Md:cf:=(tT.aH ak2 aDU)
theorem aoV:ac Tryz.prog 98 Md:=aHA
theorem aoU:aF Md:=aA
def abO:Env:=ay 98 Md abT
theorem Oe:aQ Tryz.prog abO:=ag aoV Ov
theorem Of:ax abO:=ae aoU Ow
theorem aqr:aU Tryz.prog te abO:=aJ follows aq Oe Of
def tK:aw:=⟨[.val false .int,.val true .elem,.val true .elem],[],true,0,false⟩
abbrev aoG:Type:=((Int)×(aa)×(aa)×Unit)×(Unit)
def zl:az:=⟨[.val true .elem],[],false⟩
def akR:SV->Option az:=λ_=>some zl
def avP (a0:Int) (a1:aa) (a2:aa):OT tK.Y:=
 let z0:Bool:=ao a0
 let z1:Nat:=pS a0
 let z2:aa:= {w0:=0,w1:=0,w2:=0,w3:=0}
 (.br (z0)
 (.br (z0)
  (.ok ⟨zl,((zK z1 a1 (Ik z1 a2),()),())⟩)
  (.ok ⟨zl,((z2,()),())⟩))
 (.br (z0)
  (.ok ⟨zl,((zK z1 a1 z2,()),())⟩)
  (.ok ⟨zl,((z2,()),())⟩)))
theorem aJU (x:aoG) (Q:tK.Y->Prop):wpf te abO av 1000 Tryz.f152 (tK.inp.inj x).tm (tK.inp.inj x).hp (fnK tK akR Q) (λ_ _=>False)=(avP (x.1.1) (x.1.2.1) (x.1.2.2.1)).wpR Q:=by kernel_rfl
theorem avO (pre:aoG->Bool) (F:aoG->OT tK.Y) (hF:∀ (x:aoG) oy,pre x=true->(F x).run=some oy->(avP (x.1.1) (x.1.2.1) (x.1.2.2.1)).run=some oy):ac Tryz.prog 152 (tK.aH pre F):=
 aD aq Oe aqr (f:=152) (fn:=Tryz.f152) (c:=aj Tryz.f152) (by kernel_rfl) (by kernel_rfl) (by kernel_rfl) (S:=tK) (k:=0) (by kernel_rfl) (λR hR=>af) (n:=1000) (sel:=akR) (λv o h=>by cases h;rfl) (pre:=pre) (F:=F) (T:=λx=>avP (x.1.1) (x.1.2.1) (x.1.2.2.1)) (λx Q=>aJU x Q) hF
def mV (p:Nat) (a b:aa):aa:=zK p a (Ik p b)
def akS (_:aoG):Bool:=true
def aDS (x:aoG):OT tK.Y:=.br (ao x.1.1) (.ok ⟨zl,((mV (pS x.1.1) x.1.2.1 x.1.2.2.1,()),())⟩) (.ok ⟨zl,((⟨0,0,0,0⟩,()),())⟩)
theorem aHo:ac Tryz.prog 152 (tK.aH akS aDS):=avO _ _ λx oy hp ho=>by
 rw [<-ho]
 clear ho
 obtain ⟨⟨s,a,b,⟨⟩⟩,⟨⟩⟩:=x
 cases hs:ao s
 ·exact (OT.ar hs).trans ((OT.ar hs).trans (OT.ar (b:=ao s) hs).symm)
 ·exact (OT.ap hs).trans ((OT.ap hs).trans (OT.ap (b:=ao s) hs).symm)
def LY:cf:=(tK.aH akS aDS)
theorem aoF:ac Tryz.prog 152 LY:=aHo
theorem aoE:aF LY:=aA
def SK:Env:=ay 152 LY abO
theorem Dq:aQ Tryz.prog SK:=ag aoF Oe
theorem N9:ax SK:=ae aoE Of
theorem SJ:aU Tryz.prog te SK:=aJ follows aq Dq N9
end Go.Proofs.YtohjofabochgfaaGreat

namespace Go.Proofs.YtohjofabochgfaaGreat
open Sx Go
def l6 (n:Nat):List UInt64:= [UInt64.ofNat n,UInt64.ofNat (n/18446744073709551616),UInt64.ofNat (n/18446744073709551616/18446744073709551616),UInt64.ofNat (n/18446744073709551616/18446744073709551616/18446744073709551616),
 UInt64.ofNat (n/18446744073709551616/18446744073709551616/18446744073709551616/18446744073709551616),UInt64.ofNat (n/18446744073709551616/18446744073709551616/18446744073709551616/18446744073709551616/18446744073709551616)]
def v6 (l:List UInt64):Nat:=(l.getD 0 0).toNat+18446744073709551616*((l.getD 1 0).toNat+18446744073709551616*((l.getD 2 0).toNat+18446744073709551616*((l.getD 3 0).toNat+18446744073709551616*((l.getD 4 0).toNat+18446744073709551616*(l.getD 5 0).toNat))))
theorem gX {m:Nat} {x:UInt64} (hm:m%18446744073709551616=x.toNat):UInt64.ofNat m=x:=by
 rw [<-UInt64.toNat_inj,UInt64.toNat_ofNat']
 exact hm
theorem aK4 {n:Nat} {a b c d e:UInt64} {k:Nat} {f:UInt64} (h:n=a.toNat+18446744073709551616*(b.toNat+18446744073709551616*(c.toNat+18446744073709551616*(d.toNat+18446744073709551616*(e.toNat+18446744073709551616*k))))) (hf:k%18446744073709551616=f.toNat):l6 n= [a,b,c,d,e,f]:=by
 obtain ⟨h1,h0⟩:=div_eq a.toNat_lt h
 obtain ⟨h2,h3⟩:=div_eq b.toNat_lt h1
 obtain ⟨h4,h5⟩:=div_eq c.toNat_lt h2
 obtain ⟨h6,h7⟩:=div_eq d.toNat_lt h4
 obtain ⟨h8,h9⟩:=div_eq e.toNat_lt h6
 unfold l6
 rw [gX (x:=a) h0,gX (x:=b) h3,gX (x:=c) h5,gX (x:=d) h7,gX (x:=e) h9,gX (x:=f) (by rw [h8];exact hf)]
theorem avs (n:Nat):(l6 n).length=6:=rfl
def aIP (t a x c:UInt64):UInt64:=xH t (xH (a*x) c 0) 0
def DS (t a x c:UInt64):UInt64:=ax7 a x+An (a*x) c 0+An t (xH (a*x) c 0) 0
theorem aIw {t P p h c l k1 r k2 W:Nat} (hP:P=p+W*h) (h1:p+c=l+W*k1) (h2:t+l=r+W*k2):t+P+c=r+W*(h+k1+k2):=by
 rw [Nat.mul_add,Nat.mul_add]
 omega
theorem axX {t P c r q W:Nat} (hW:0<W) (ht:t<=W-1) (hc:c<=W-1) (hP:P<=(W-1)*(W-1)) (h:t+P+c=r+W*q):q<W:=by
 obtain ⟨V,rfl⟩:∃ V,W=V+1:=⟨W-1,by omega⟩
 rw [Nat.add_sub_cancel] at*
 refine Nat.lt_of_not_le λhq=> ?_
 have h1:(V+1)*(V+1)<=(V+1)*q:=Nat.mul_le_mul_left _ hq
 have h2:(V+1)*(V+1)=V*V+V+V+1:=by rw [Nat.add_mul,Nat.mul_add,Nat.one_mul,Nat.mul_one];omega
 omega
theorem aBE (a x:UInt64):(ax7 a x).toNat=a.toNat*x.toNat/18446744073709551616:=by
 have ha:=a.toNat_lt
 have hx:=x.toNat_lt
 have:a.toNat*x.toNat/18446744073709551616<18446744073709551616:=by
  rw [Nat.div_lt_iff_lt_mul (by omega)]
  exact Nat.mul_lt_mul'' ha hx
 unfold ax7
 rw [UInt64.toNat_ofNat',Nat.mod_eq_of_lt this]
theorem Jh (t a x c:UInt64):t.toNat+a.toNat*x.toNat+c.toNat=(aIP t a x c).toNat+18446744073709551616*(DS t a x c).toNat:=by
 have hP:a.toNat*x.toNat=(a*x).toNat+18446744073709551616*(ax7 a x).toNat:=by
  rw [aBE,UInt64.toNat_mul]
  exact (Nat.mod_add_div _ _).symm
 have h1:=mL (a*x) c 0
 have h2:=mL t (xH (a*x) c 0) 0
 rw [show (0:UInt64).toNat=0 from rfl,Nat.add_zero] at h1 h2
 have key:=aIw hP h1 h2
 have hb:=axX (W:=18446744073709551616) (by omega) (Nat.le_sub_one_of_lt t.toNat_lt) (Nat.le_sub_one_of_lt c.toNat_lt) (Nat.mul_le_mul (Nat.le_sub_one_of_lt a.toNat_lt) (Nat.le_sub_one_of_lt x.toNat_lt)) key
 have e:(DS t a x c).toNat=(ax7 a x).toNat+(An (a*x) c 0).toNat+(An t (xH (a*x) c 0) 0).toNat:=by
  unfold DS
  rw [UInt64.toNat_add,UInt64.toNat_add,Nat.mod_add_mod]
  exact Nat.mod_eq_of_lt hb
 rw [e]
 exact key
theorem Ji {t a x c s k T A R W:Nat} (h1:t+a*x+c=s+W*k) (h2:T+A*x+k=R):(t+W*T)+(a+W*A)*x+c=s+W*R:=by
 rw [Nat.add_mul,Nat.mul_assoc,<-h2,Nat.mul_add,Nat.mul_add]
 omega
def aLw (t0 t1 t2 t3 t4 t5:UInt64) (a:aa) (x:UInt64):List UInt64:=
 let k0:=DS t0 a.w0 x 0
 let k1:=DS t1 a.w1 x k0
 let k2:=DS t2 a.w2 x k1
 let k3:=DS t3 a.w3 x k2
 [aIP t0 a.w0 x 0,aIP t1 a.w1 x k0,aIP t2 a.w2 x k1,aIP t3 a.w3 x k2,xH t4 k3 0,t5+An t4 k3 0]
theorem aIx (t0 t1 t2 t3 t4 t5:UInt64) (a:aa) (x:UInt64):aLw t0 t1 t2 t3 t4 t5 a x=l6 (v6 [t0,t1,t2,t3,t4,t5]+a.nat*x.toNat):=by
 have h4:=mL t4 (DS t3 a.w3 x (DS t2 a.w2 x (DS t1 a.w1 x (DS t0 a.w0 x 0)))) 0
 rw [show (0:UInt64).toNat=0 from rfl,Nat.add_zero] at h4
 have h5:(t4.toNat+18446744073709551616*t5.toNat)+0*x.toNat+(DS t3 a.w3 x (DS t2 a.w2 x (DS t1 a.w1 x (DS t0 a.w0 x 0)))).toNat=
  (xH t4 (DS t3 a.w3 x (DS t2 a.w2 x (DS t1 a.w1 x (DS t0 a.w0 x 0)))) 0).toNat+18446744073709551616*(t5.toNat+(An t4 (DS t3 a.w3 x (DS t2 a.w2 x (DS t1 a.w1 x (DS t0 a.w0 x 0)))) 0).toNat):=by
  rw [Nat.zero_mul,Nat.mul_add]
  omega
 have h:=Ji (Jh t0 a.w0 x 0) (Ji (Jh t1 a.w1 x _) (Ji (Jh t2 a.w2 x _) (Ji (Jh t3 a.w3 x _) h5)))
 rw [show (0:UInt64).toNat=0 from rfl,Nat.add_zero,Nat.mul_zero,Nat.add_zero] at h
 exact (aK4 (f:=t5+An t4 (DS t3 a.w3 x (DS t2 a.w2 x (DS t1 a.w1 x (DS t0 a.w0 x 0)))) 0) h (by rw [UInt64.toNat_add])).symm
end Go.Proofs.YtohjofabochgfaaGreat

namespace Go.Proofs.YtohjofabochgfaaGreat
open Sx Go
set_option maxRecDepth 100000
def uf:aw:=⟨[.val true (.arr 6 .u64),.val true .elem,.val false .u64],[],true,0,false⟩
abbrev apq:Type:=((List (UInt64))×(aa)×(UInt64)×Unit)×(Unit)
def MC:Shape:=⟨61,[(2,.val false .u64),(3,.ptr 0 0 0),(4,.ptr 1 0 0),(6,.ptr 2 0 0),(7,.val false .u64),(13,.val false .int)],[(0,.row .u64),(1,.row .u64),(2,.row .u64)],0,true⟩
abbrev dN:Type:=((UInt64)×(Unit)×(Unit)×(Unit)×(UInt64)×(Int)×Unit)×((List (UInt64))×(List (UInt64))×(List (UInt64))×Unit)
def Cd:Shape:=⟨61,[(3,.ptr 0 0 0),(6,.ptr 1 0 0),(7,.val false .u64)],[(0,.row .u64),(1,.row .u64)],0,true⟩
abbrev pH:Type:=((Unit)×(Unit)×(UInt64)×Unit)×((List (UInt64))×(List (UInt64))×Unit)
def awo:SE->Option Shape:=fp [(0,Cd)] none
def aHS (a2:UInt64) (a7:UInt64) (a13:Int) (c0:List (UInt64)) (c1:List (UInt64)) (c2:List (UInt64)):OT (Sum dN aE):=
 let z0:Bool:=inB a13 6
 let z1:Bool:=decide (Int.toNat a13+0<List.length c0)
 let z2:UInt64:=List.getD c1 (Int.toNat a13+0) (0:UInt64)
 let z3:UInt64:=List.getD c0 (Int.toNat a13+0) (0:UInt64)
 let z4:UInt64:=xH (z2*a2) a7 (0:UInt64)
 (.br (decide (a13<(4:Int)))
 (gd [inB a13 4,decide (Int.toNat a13+0<List.length c1),z0,z1,z0,z1,inR (a13+(1:Int))] (.ok (.inl ((a2,((),((),((),(ax7 z2 a2+An (z2*a2) a7 (0:UInt64)+An z3 z4 (0:UInt64),(a13+(1:Int),())))))),(List.set c0 (Int.toNat a13+0) (xH z3 z4 (0:UInt64)),(c1,(c2,())))))))
 (.ok (.inr ⟨(.exit 0,Cd),(((),((),(a7,()))),(c0,(c2,())))⟩)))
def MD (s:dN):OT (Sum dN aE):=aHS (s.1.1) (s.1.2.2.2.2.1) (s.1.2.2.2.2.2.1) (s.2.1) (s.2.2.1) (s.2.2.2.1)
theorem aHP (s:dN) (Q:Sum dN aE->Prop):wps te SK av 1000 (aV (aj Tryz.f150) 0) (MC.inj s) (bV MC awo (Q:Sum MC.T aE->Prop))=(MD s).wpR Q:=by kernel_rfl
def Vv (g0_0:dN->pH) (s:dN):OT aE:=(.ok ⟨(.exit 0,Cd),g0_0 s⟩)
def afv:az:=⟨[.val true (.arr 6 .u64)],[],false⟩
def alj:SV->Option az:=λ_=>some afv
def awr (ok0:dN->Bool) (g0_0:dN->pH) (a0:List (UInt64)) (a1:aa) (a2:UInt64):OT uf.Y:=
 let z0:(UInt64×PUnit×PUnit×PUnit×UInt64×Int×PUnit)×List UInt64×List UInt64×List UInt64×PUnit:=((a2,(),(),(),(0:UInt64),(0:Int),()),tab a0 6 (0:UInt64),[a1.w0,a1.w1,a1.w2,a1.w3],[(0:UInt64),(0:UInt64),(0:UInt64),(0:UInt64),(0:UInt64),(0:UInt64)],())
 let z1:(PUnit×PUnit×UInt64×PUnit)×List UInt64×List UInt64×PUnit:=g0_0 z0
 let z2:=z1.snd
 let z3:=z2.fst
 let z4:Bool:=decide (4<List.length z3)
 let z5:UInt64:=List.getD z3 4 0
 let z6:=z1.fst.snd.snd.fst
 let z7:List UInt64:=List.set z3 4 (xH z5 z6 (0:UInt64))
 let z8:Bool:=decide (5<List.length z7)
 let z9:List UInt64:=List.set z7 5 (List.getD z7 5 0+An z5 z6 (0:UInt64))
 let z10:=z2.snd.fst
 let z11:List UInt64:=lay z10 z9 6 (0:UInt64)
 (gd [ok0 z0,z4,z4,z8,z8,decide (6<=List.length z9),decide ((6/1:Nat)+0<=List.length z10),decide (6<=List.length z11)] (.ok ⟨afv,((tab z11 6 (0:UInt64),()),())⟩))
theorem aJ4 (ok0:dN->Bool) (g0_0:dN->pH) (x:apq) (Q:uf.Y->Prop):wpf te SK (aO 0 (cb MC 0 ok0 (Vv g0_0)) av) 1000 Tryz.f150 (uf.inp.inj x).tm (uf.inp.inj x).hp (fnK uf alj Q) (λ_ _=>False)=(awr ok0 g0_0 (x.1.1) (x.1.2.1) (x.1.2.2.1)).wpR Q:=by kernel_rfl
theorem awp (ok0:dN->Bool) (g0_0:dN->pH) (h0:∀ s:dN,ok0 s=true->∃ m e,al (MD) m s=some e/\(Vv g0_0 s).run=some e) (pre:apq->Bool) (F:apq->OT uf.Y) (hF:∀ (x:apq) oy,pre x=true->(F x).run=some oy->(awr ok0 g0_0 (x.1.1) (x.1.2.1) (x.1.2.2.1)).run=some oy):ac Tryz.prog 150 (uf.aH pre F):=
 aD aq Dq SJ (f:=150) (fn:=Tryz.f150) (c:=aj Tryz.f150) (by kernel_rfl) (by kernel_rfl) (by kernel_rfl) (S:=uf) (k:=0) (by kernel_rfl) (λR hR=>(aB (c:=(aj Tryz.f150)) (by kernel_rfl) (id:=0) (by kernel_rfl) (aS aq Dq SJ (sh:=MC) hR (xs:=awo) (aC (by kernel_rfl) (by kernel_rfl) hR) aK af (n:=1000) (T:=MD) (λs Q=>aHP s Q) (ok:=ok0) (f:=Vv g0_0) h0) af)) (n:=1000) (sel:=alj) (λv o h=>by cases h;rfl) (pre:=pre) (F:=F) (T:=λx=>awr ok0 g0_0 (x.1.1) (x.1.2.1) (x.1.2.2.1)) (λx Q=>aJ4 ok0 g0_0 x Q) hF
def aDe (a:List UInt64) (x:UInt64) (k:Nat) (s:List UInt64×UInt64):List UInt64×UInt64:=(s.1.set k (aIP (s.1.getD k 0) (a.getD k 0) x s.2),DS (s.1.getD k 0) (a.getD k 0) x s.2)
def alm (s:dN):Bool:=decide (s.1.2.2.2.2.1=0/\s.1.2.2.2.2.2.1=0/\s.2.1.length=6/\s.2.2.1.length=4)
def awq (s:dN):pH:=(((),(),(upto (aDe s.2.2.1 s.1.1) (s.2.1,0) 4).2,()),((upto (aDe s.2.2.1 s.1.1) (s.2.1,0) 4).1,s.2.2.2.1,()))
theorem aHR:∀ s:dN,alm s=true->∃ m e,al MD m s=some e/\(Vv awq s).run=some e:=by
 rintro ⟨⟨x,⟨⟩,⟨⟩,⟨⟩,c,i,⟨⟩⟩,⟨t,a,o,⟨⟩⟩⟩ h
 have h':=of_decide_eq_true h
 dsimp only at h'
 obtain ⟨rfl,rfl,ht,ha⟩:=h'
 have:=(aP (T:=MD) (λk s=>(((x,(),(),(),s.2,(k:Int),()),(s.1,a,o,())):dN)) (aDe a x)
  (λs=>(⟨(.exit 0,Cd),(((),(),s.2,()),(s.1,o,()))⟩:aE)) 4 (t,0) (λ_ s=>s.1.length=6) ht (λk s hk hs=>⟨?_,?_⟩) (λs hs=> ?_)).1
 ·obtain ⟨m,hm⟩:=this
  exact ⟨m,_,hm,rfl⟩
 ·refine (OT.ap (decide_eq_true (by dsimp only;omega))).trans ((ah ?_).trans ?_)
  ·simp only [Int.toNat_natCast,Nat.add_zero,hs,ha,List.all_cons,List.all_nil,Bool.and_true,Bool.and_eq_true]
   exact ⟨aN (by omega),decide_eq_true (by omega),aN (by omega),decide_eq_true (by omega),aN (by omega),decide_eq_true (by omega),aI (by omega)⟩
  ·simp only [OT.cK,Int.toNat_natCast,Nat.add_zero]
   rfl
 ·simp only [aDe,List.length_set]
  exact hs
 ·exact OT.ar (decide_eq_false (by dsimp only;omega))
def alk (_:apq):Bool:=true
def aws (x:apq):OT uf.Y:=.ok ⟨afv,((l6 (v6 x.1.1+x.1.2.1.nat*x.1.2.2.1.toNat),()),())⟩
theorem aHQ:ac Tryz.prog 150 (uf.aH alk aws):=awp alm awq aHR _ _ λx oy hp ho=>by
 rw [<-ho]
 clear ho
 obtain ⟨⟨t,a,x,⟨⟩⟩,⟨⟩⟩:=x
 refine (ah ?_).trans ?_
 ·simp only [List.all_cons,List.all_nil,Bool.and_true,Bool.and_eq_true]
  exact ⟨rfl,rfl,rfl,rfl,rfl,rfl,rfl,rfl⟩
 ·have e:=aIx (t.getD 0 0) (t.getD 1 0) (t.getD 2 0) (t.getD 3 0) (t.getD 4 0) (t.getD 5 0) a x
  have e2:l6 (v6 t+a.nat*x.toNat)=aLw (t.getD 0 0) (t.getD 1 0) (t.getD 2 0) (t.getD 3 0) (t.getD 4 0) (t.getD 5 0) a x:=e.symm
  simp only [aws,e2]
  rfl
def MB:cf:=(uf.aH alk aws)
theorem app:ac Tryz.prog 150 MB:=aHQ
theorem apo:aF MB:=aA
def SN:Env:=ay 150 MB SK
theorem Ds:aQ Tryz.prog SN:=ag app Dq
theorem Oy:ax SN:=ae apo N9
theorem SM:aU Tryz.prog te SN:=aJ follows aq Ds Oy
end Go.Proofs.YtohjofabochgfaaGreat

namespace Go.Proofs.YtohjofabochgfaaGreat
open Sx Go
theorem aIV {n:Nat} (h:n/18446744073709551616/18446744073709551616/18446744073709551616/18446744073709551616/18446744073709551616<18446744073709551616):v6 (l6 n)=n:=by
 unfold v6 l6
 simp only [List.getD_cons_zero,List.getD_cons_succ,UInt64.toNat_ofNat']
 rw [show (2:Nat)^64=18446744073709551616 from rfl]
 omega
def JM (p neg a:Nat) (b t:Nat):Nat:=(t+a*b+p*((t+a*b)*neg%18446744073709551616))/18446744073709551616
theorem vq {p neg a b t:Nat} (hn:(p*neg+1)%18446744073709551616=0):18446744073709551616*JM p neg a b t=t+a*b+p*((t+a*b)*neg%18446744073709551616):=by
 unfold JM
 refine Nat.mul_div_cancel' (Nat.dvd_of_mod_eq_zero ?_)
 generalize t+a*b=u
 rw [Nat.add_mod,Nat.mul_mod,Nat.mod_mod,<-Nat.mul_mod,<-Nat.add_mod]
 have:u+p*(u*neg)=u*(p*neg+1):=by
  rw [Nat.mul_add,Nat.mul_one,Nat.mul_left_comm]
  omega
 rw [this,Nat.mul_mod,hn,Nat.mul_zero,Nat.zero_mod]
theorem vp {p neg a b t:Nat} (hn:(p*neg+1)%18446744073709551616=0) (ht:t<2*p) (ha:a<p) (hb:b<18446744073709551616):JM p neg a b t<2*p:=by
 have h:=vq (a:=a) (b:=b) (t:=t) hn
 have hm:(t+a*b)*neg%18446744073709551616<=18446744073709551615:=by
  have:=Nat.mod_lt ((t+a*b)*neg) (show 0<18446744073709551616 by omega)
  omega
 have h1:p*((t+a*b)*neg%18446744073709551616)<=p*18446744073709551615:=Nat.mul_le_mul_left _ hm
 have h2:a*b<=p*18446744073709551615:=Nat.mul_le_mul (by omega) (by omega)
 omega
theorem aGg {p a b t t1 m K T B M W:Nat} (h1:W*t1=t+a*b+p*m) (h2:K*T=t1+a*B+p*M):(W*K)*T=t+a*(b+W*B)+p*(m+W*M):=by
 have e:(W*K)*T=W*t1+W*(a*B)+W*(p*M):=by rw [Nat.mul_assoc,h2,Nat.mul_add,Nat.mul_add]
 rw [e,h1,Nat.mul_add,Nat.mul_add,Nat.mul_left_comm a W,Nat.mul_left_comm p W]
 omega
theorem aLx {p a b T K M r:Nat} (h:K*T=a*b+p*M) (hr:K*r%p=1%p):T%p=a*b*r%p:=by
 have h1:(K*T)*r=a*b*r+p*(M*r):=by rw [h,Nat.add_mul,Nat.mul_assoc p]
 have h2:a*b*r%p=(K*T*r)%p:=by rw [h1,Nat.add_mul_mod_self_left]
 have h3:K*T*r=T*(K*r):=by rw [Nat.mul_comm K T,Nat.mul_assoc]
 rw [h2,h3,Nat.mul_mod,hr,<-Nat.mul_mod,Nat.mul_one]
def aJG (p neg a:Nat) (b:aa):Nat:=JM p neg a b.w3.toNat (JM p neg a b.w2.toNat (JM p neg a b.w1.toNat (JM p neg a b.w0.toNat 0)))
theorem aBM {p neg a r:Nat} {b:aa} (hn:(p*neg+1)%18446744073709551616=0) (hr:115792089237316195423570985008687907853269984665640564039457584007913129639936*r%p=1%p):aJG p neg a b%p=a*b.nat*r%p:=by
 have h:=aGg (vq (a:=a) (b:=b.w0.toNat) (t:=0) hn) (aGg (vq (a:=a) (b:=b.w1.toNat) hn) (aGg (vq (a:=a) (b:=b.w2.toNat) hn) (show 18446744073709551616*_=_+a*b.w3.toNat+p*_ from vq hn)))
 rw [Nat.zero_add] at h
 exact aLx (K:=18446744073709551616*(18446744073709551616*(18446744073709551616*18446744073709551616))) h hr
theorem aHd {p neg a:Nat} {b:aa} (hn:(p*neg+1)%18446744073709551616=0) (ha:a<p):aJG p neg a b<2*p:=
 vp hn (vp hn (vp hn (vp hn (by omega) ha b.w0.toNat_lt) ha b.w1.toNat_lt) ha b.w2.toNat_lt) ha b.w3.toNat_lt
theorem aHe {T p:Nat} (h:T<2*p):T%p=if T<p then T else T-p:=by
 split
 ·exact Nat.mod_eq_of_lt ‹_›
 ·rw [Nat.mod_eq_sub_mod (by omega),Nat.mod_eq_of_lt (by omega)]
end Go.Proofs.YtohjofabochgfaaGreat
