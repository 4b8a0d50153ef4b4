/- A symbolic machine for Go code over plain data, and functions of the program as it shows them. No statement is proved in this file. -/
import Derived.Test.YtohjofabochgfaaGreatProg
import Derived.KernelRfl
import Derived.Laws.Externs
import Derived.Lib.Mul64
import Derived.Test.YtohjofabochgfaaGreatXb
set_option linter.unusedSimpArgs false
set_option linter.unusedVariables false
set_option linter.unusedSectionVars false

namespace Go.Proofs.YtohjofabochgfaaGreat
open Sx Go
set_option maxRecDepth 100000
def akK:TI:=⟨1,8,.other,[.bB],none⟩
theorem apF:aV Tryz.prog 1 akK:=af (by kernel_rfl) (by kernel_rfl) (by kernel_rfl) (by kernel_rfl) (by kernel_rfl) (by kernel_rfl) (by kernel_rfl) (by kernel_rfl) (by kernel_rfl) (by kernel_rfl) (by kernel_rfl) trivial
def akJ:TI:=⟨1,8,.int .i64,[.int 0],some .int⟩
theorem apE:aV Tryz.prog 2 akJ:=af (by kernel_rfl) (by kernel_rfl) (by kernel_rfl) (by kernel_rfl) (by kernel_rfl) (by kernel_rfl) (by kernel_rfl) (by kernel_rfl) (by kernel_rfl) (by kernel_rfl) (by kernel_rfl) ⟨by kernel_rfl,by kernel_rfl,by kernel_rfl⟩
def akI:TI:=⟨1,8,.int .i64,[.int 0],some .int⟩
theorem apD:aV Tryz.prog 3 akI:=af (by kernel_rfl) (by kernel_rfl) (by kernel_rfl) (by kernel_rfl) (by kernel_rfl) (by kernel_rfl) (by kernel_rfl) (by kernel_rfl) (by kernel_rfl) (by kernel_rfl) (by kernel_rfl) ⟨by kernel_rfl,by kernel_rfl,by kernel_rfl⟩
def akH:TI:=⟨1,1,.bool,[.bool false],some .bool⟩
theorem apC:aV Tryz.prog 4 akH:=af (by kernel_rfl) (by kernel_rfl) (by kernel_rfl) (by kernel_rfl) (by kernel_rfl) (by kernel_rfl) (by kernel_rfl) (by kernel_rfl) (by kernel_rfl) (by kernel_rfl) (by kernel_rfl) ⟨by kernel_rfl,by kernel_rfl,by kernel_rfl⟩
def akG:TI:=⟨1,1,.int .u8,[.u8 0],some .u8⟩
theorem apB:aV Tryz.prog 5 akG:=af (by kernel_rfl) (by kernel_rfl) (by kernel_rfl) (by kernel_rfl) (by kernel_rfl) (by kernel_rfl) (by kernel_rfl) (by kernel_rfl) (by kernel_rfl) (by kernel_rfl) (by kernel_rfl) ⟨by kernel_rfl,by kernel_rfl,by kernel_rfl⟩
def akF:TI:=⟨1,1,.int .u8,[.u8 0],some .u8⟩
theorem apA:aV Tryz.prog 6 akF:=af (by kernel_rfl) (by kernel_rfl) (by kernel_rfl) (by kernel_rfl) (by kernel_rfl) (by kernel_rfl) (by kernel_rfl) (by kernel_rfl) (by kernel_rfl) (by kernel_rfl) (by kernel_rfl) ⟨by kernel_rfl,by kernel_rfl,by kernel_rfl⟩
def akE:TI:=⟨4,24,.struct [(0,2),(1,3),(2,4),(3,6)],[.int 0,.int 0,.bool false,.u8 0],some (.prod .int (.prod .int (.prod .bool .u8)))⟩
theorem apz:aV Tryz.prog 7 akE:=af (by kernel_rfl) (by kernel_rfl) (by kernel_rfl) (by kernel_rfl) (by kernel_rfl) (by kernel_rfl) (by kernel_rfl) (by kernel_rfl) (by kernel_rfl) (by kernel_rfl) (by kernel_rfl) ⟨by kernel_rfl,by kernel_rfl,by kernel_rfl⟩
def akD:TI:=⟨4,24,.struct [(0,2),(1,3),(2,4),(3,6)],[.int 0,.int 0,.bool false,.u8 0],some (.prod .int (.prod .int (.prod .bool .u8)))⟩
theorem apy:aV Tryz.prog 8 akD:=af (by kernel_rfl) (by kernel_rfl) (by kernel_rfl) (by kernel_rfl) (by kernel_rfl) (by kernel_rfl) (by kernel_rfl) (by kernel_rfl) (by kernel_rfl) (by kernel_rfl) (by kernel_rfl) ⟨by kernel_rfl,by kernel_rfl,by kernel_rfl⟩
def akC:TI:=⟨1,16,.str,[.str []],some .str⟩
theorem apx:aV Tryz.prog 9 akC:=af (by kernel_rfl) (by kernel_rfl) (by kernel_rfl) (by kernel_rfl) (by kernel_rfl) (by kernel_rfl) (by kernel_rfl) (by kernel_rfl) (by kernel_rfl) (by kernel_rfl) (by kernel_rfl) ⟨by kernel_rfl,by kernel_rfl,by kernel_rfl⟩
def ab1:TI:=⟨1,16,.str,[.str []],some .str⟩
theorem am0:aV Tryz.prog 10 ab1:=af (by kernel_rfl) (by kernel_rfl) (by kernel_rfl) (by kernel_rfl) (by kernel_rfl) (by kernel_rfl) (by kernel_rfl) (by kernel_rfl) (by kernel_rfl) (by kernel_rfl) (by kernel_rfl) ⟨by kernel_rfl,by kernel_rfl,by kernel_rfl⟩
def ab0:TI:=⟨1,16,.str,[.str []],some .str⟩
theorem amZ:aV Tryz.prog 11 ab0:=af (by kernel_rfl) (by kernel_rfl) (by kernel_rfl) (by kernel_rfl) (by kernel_rfl) (by kernel_rfl) (by kernel_rfl) (by kernel_rfl) (by kernel_rfl) (by kernel_rfl) (by kernel_rfl) ⟨by kernel_rfl,by kernel_rfl,by kernel_rfl⟩
def abZ:TI:=⟨1,8,.int .u64,[.u64 0],some .u64⟩
theorem amY:aV Tryz.prog 12 abZ:=af (by kernel_rfl) (by kernel_rfl) (by kernel_rfl) (by kernel_rfl) (by kernel_rfl) (by kernel_rfl) (by kernel_rfl) (by kernel_rfl) (by kernel_rfl) (by kernel_rfl) (by kernel_rfl) ⟨by kernel_rfl,by kernel_rfl,by kernel_rfl⟩
def abY:TI:=⟨1,8,.ptr [("Error",183),("RuntimeError",184)],[.nq],none⟩
theorem amX:aV Tryz.prog 15 abY:=af (by kernel_rfl) (by kernel_rfl) (by kernel_rfl) (by kernel_rfl) (by kernel_rfl) (by kernel_rfl) (by kernel_rfl) (by kernel_rfl) (by kernel_rfl) (by kernel_rfl) (by kernel_rfl) trivial
def abX:TI:=⟨1,8,.ptr [("Error",185),("RuntimeError",186)],[.nq],none⟩
theorem amW:aV Tryz.prog 16 abX:=af (by kernel_rfl) (by kernel_rfl) (by kernel_rfl) (by kernel_rfl) (by kernel_rfl) (by kernel_rfl) (by kernel_rfl) (by kernel_rfl) (by kernel_rfl) (by kernel_rfl) (by kernel_rfl) trivial
def abW:TI:=⟨1,8,.ptr [("Align",187)],[.nq],none⟩
theorem amV:aV Tryz.prog 17 abW:=af (by kernel_rfl) (by kernel_rfl) (by kernel_rfl) (by kernel_rfl) (by kernel_rfl) (by kernel_rfl) (by kernel_rfl) (by kernel_rfl) (by kernel_rfl) (by kernel_rfl) (by kernel_rfl) trivial
def abV:TI:=⟨1,16,.iface,[.dA],none⟩
theorem amU:aV Tryz.prog 20 abV:=af (by kernel_rfl) (by kernel_rfl) (by kernel_rfl) (by kernel_rfl) (by kernel_rfl) (by kernel_rfl) (by kernel_rfl) (by kernel_rfl) (by kernel_rfl) (by kernel_rfl) (by kernel_rfl) trivial
def abU:TI:=⟨1,4,.int .i32,[.bB],none⟩
theorem amT:aV Tryz.prog 21 abU:=af (by kernel_rfl) (by kernel_rfl) (by kernel_rfl) (by kernel_rfl) (by kernel_rfl) (by kernel_rfl) (by kernel_rfl) (by kernel_rfl) (by kernel_rfl) (by kernel_rfl) (by kernel_rfl) trivial
def abT:TI:=⟨1,24,.slice 41,[.emp],some (.list .elem)⟩
theorem amS:aV Tryz.prog 22 abT:=af (by kernel_rfl) (by kernel_rfl) (by kernel_rfl) (by kernel_rfl) (by kernel_rfl) (by kernel_rfl) (by kernel_rfl) (by kernel_rfl) (by kernel_rfl) (by kernel_rfl) (by kernel_rfl) ⟨by kernel_rfl,by kernel_rfl,by kernel_rfl⟩
def abS:TI:=⟨2,32,.struct [(0,3),(1,22)],[.int 0,.emp],some (.prod .int (.list .elem))⟩
theorem amR:aV Tryz.prog 23 abS:=af (by kernel_rfl) (by kernel_rfl) (by kernel_rfl) (by kernel_rfl) (by kernel_rfl) (by kernel_rfl) (by kernel_rfl) (by kernel_rfl) (by kernel_rfl) (by kernel_rfl) (by kernel_rfl) ⟨by kernel_rfl,by kernel_rfl,by kernel_rfl⟩
def abR:TI:=⟨2,32,.struct [(0,3),(1,22)],[.int 0,.emp],some (.prod .int (.list .elem))⟩
theorem amQ:aV Tryz.prog 24 abR:=af (by kernel_rfl) (by kernel_rfl) (by kernel_rfl) (by kernel_rfl) (by kernel_rfl) (by kernel_rfl) (by kernel_rfl) (by kernel_rfl) (by kernel_rfl) (by kernel_rfl) (by kernel_rfl) ⟨by kernel_rfl,by kernel_rfl,by kernel_rfl⟩
def abQ:TI:=⟨1,24,.slice 5,[.emp],some (.list .u8)⟩
theorem amP:aV Tryz.prog 25 abQ:=af (by kernel_rfl) (by kernel_rfl) (by kernel_rfl) (by kernel_rfl) (by kernel_rfl) (by kernel_rfl) (by kernel_rfl) (by kernel_rfl) (by kernel_rfl) (by kernel_rfl) (by kernel_rfl) ⟨by kernel_rfl,by kernel_rfl,by kernel_rfl⟩
def abP:TI:=⟨1,24,.slice 45,[.emp],some (.list (.prod .int (.prod .elem (.prod .elem (.prod .elem .bool)))))⟩
theorem amO:aV Tryz.prog 26 abP:=af (by kernel_rfl) (by kernel_rfl) (by kernel_rfl) (by kernel_rfl) (by kernel_rfl) (by kernel_rfl) (by kernel_rfl) (by kernel_rfl) (by kernel_rfl) (by kernel_rfl) (by kernel_rfl) ⟨by kernel_rfl,by kernel_rfl,by kernel_rfl⟩
def abO:TI:=⟨1,8,.other,[.bB],none⟩
theorem amN:aV Tryz.prog 27 abO:=af (by kernel_rfl) (by kernel_rfl) (by kernel_rfl) (by kernel_rfl) (by kernel_rfl) (by kernel_rfl) (by kernel_rfl) (by kernel_rfl) (by kernel_rfl) (by kernel_rfl) (by kernel_rfl) trivial
def abN:TI:=⟨1,8,.other,[.bB],none⟩
theorem amM:aV Tryz.prog 28 abN:=af (by kernel_rfl) (by kernel_rfl) (by kernel_rfl) (by kernel_rfl) (by kernel_rfl) (by kernel_rfl) (by kernel_rfl) (by kernel_rfl) (by kernel_rfl) (by kernel_rfl) (by kernel_rfl) trivial
def abM:TI:=⟨1,8,.ptr [("Point",20),("Rest",25),("Scalar",22)],[.nq],none⟩
theorem amL:aV Tryz.prog 29 abM:=af (by kernel_rfl) (by kernel_rfl) (by kernel_rfl) (by kernel_rfl) (by kernel_rfl) (by kernel_rfl) (by kernel_rfl) (by kernel_rfl) (by kernel_rfl) (by kernel_rfl) (by kernel_rfl) trivial
def abL:TI:=⟨1,8,.int .i64,[.int 0],some .int⟩
theorem amK:aV Tryz.prog 30 abL:=af (by kernel_rfl) (by kernel_rfl) (by kernel_rfl) (by kernel_rfl) (by kernel_rfl) (by kernel_rfl) (by kernel_rfl) (by kernel_rfl) (by kernel_rfl) (by kernel_rfl) (by kernel_rfl) ⟨by kernel_rfl,by kernel_rfl,by kernel_rfl⟩
def abK:TI:=⟨1,8,.other,[.bB],none⟩
theorem amJ:aV Tryz.prog 32 abK:=af (by kernel_rfl) (by kernel_rfl) (by kernel_rfl) (by kernel_rfl) (by kernel_rfl) (by kernel_rfl) (by kernel_rfl) (by kernel_rfl) (by kernel_rfl) (by kernel_rfl) (by kernel_rfl) trivial
def abJ:TI:=⟨1,8,.other,[.bB],none⟩
theorem amI:aV Tryz.prog 33 abJ:=af (by kernel_rfl) (by kernel_rfl) (by kernel_rfl) (by kernel_rfl) (by kernel_rfl) (by kernel_rfl) (by kernel_rfl) (by kernel_rfl) (by kernel_rfl) (by kernel_rfl) (by kernel_rfl) trivial
def abI:TI:=⟨6,96,.struct [(0,3),(1,24),(3,25),(4,3),(5,25)],[.int 0,.int 0,.emp,.emp,.int 0,.emp],some (.prod .int (.prod (.prod .int (.list .elem)) (.prod (.list .u8) (.prod .int (.list .u8)))))⟩
theorem amH:aV Tryz.prog 34 abI:=af (by kernel_rfl) (by kernel_rfl) (by kernel_rfl) (by kernel_rfl) (by kernel_rfl) (by kernel_rfl) (by kernel_rfl) (by kernel_rfl) (by kernel_rfl) (by kernel_rfl) (by kernel_rfl) ⟨by kernel_rfl,by kernel_rfl,by kernel_rfl⟩
def abH:TI:=⟨6,96,.struct [(0,3),(1,24),(3,25),(4,3),(5,25)],[.int 0,.int 0,.emp,.emp,.int 0,.emp],some (.prod .int (.prod (.prod .int (.list .elem)) (.prod (.list .u8) (.prod .int (.list .u8)))))⟩
theorem amG:aV Tryz.prog 35 abH:=af (by kernel_rfl) (by kernel_rfl) (by kernel_rfl) (by kernel_rfl) (by kernel_rfl) (by kernel_rfl) (by kernel_rfl) (by kernel_rfl) (by kernel_rfl) (by kernel_rfl) (by kernel_rfl) ⟨by kernel_rfl,by kernel_rfl,by kernel_rfl⟩
def abG:TI:=⟨1,8,.other,[.bB],none⟩
theorem amF:aV Tryz.prog 37 abG:=af (by kernel_rfl) (by kernel_rfl) (by kernel_rfl) (by kernel_rfl) (by kernel_rfl) (by kernel_rfl) (by kernel_rfl) (by kernel_rfl) (by kernel_rfl) (by kernel_rfl) (by kernel_rfl) trivial
def abF:TI:=⟨1,8,.other,[.bB],none⟩
theorem amE:aV Tryz.prog 38 abF:=af (by kernel_rfl) (by kernel_rfl) (by kernel_rfl) (by kernel_rfl) (by kernel_rfl) (by kernel_rfl) (by kernel_rfl) (by kernel_rfl) (by kernel_rfl) (by kernel_rfl) (by kernel_rfl) trivial
def abE:TI:=⟨1,8,.int .u64,[.u64 0],some .u64⟩
theorem amD:aV Tryz.prog 39 abE:=af (by kernel_rfl) (by kernel_rfl) (by kernel_rfl) (by kernel_rfl) (by kernel_rfl) (by kernel_rfl) (by kernel_rfl) (by kernel_rfl) (by kernel_rfl) (by kernel_rfl) (by kernel_rfl) ⟨by kernel_rfl,by kernel_rfl,by kernel_rfl⟩
def abD:TI:=⟨4,32,.array 4 39,[.u64 0,.u64 0,.u64 0,.u64 0],some .elem⟩
theorem amC:aV Tryz.prog 40 abD:=af (by kernel_rfl) (by kernel_rfl) (by kernel_rfl) (by kernel_rfl) (by kernel_rfl) (by kernel_rfl) (by kernel_rfl) (by kernel_rfl) (by kernel_rfl) (by kernel_rfl) (by kernel_rfl) ⟨by kernel_rfl,by kernel_rfl,by kernel_rfl⟩
def abC:TI:=⟨4,32,.array 4 39,[.u64 0,.u64 0,.u64 0,.u64 0],some .elem⟩
theorem amB:aV Tryz.prog 41 abC:=af (by kernel_rfl) (by kernel_rfl) (by kernel_rfl) (by kernel_rfl) (by kernel_rfl) (by kernel_rfl) (by kernel_rfl) (by kernel_rfl) (by kernel_rfl) (by kernel_rfl) (by kernel_rfl) ⟨by kernel_rfl,by kernel_rfl,by kernel_rfl⟩
def abB:TI:=⟨9,72,.struct [(0,41),(4,41),(8,4)],[.u64 0,.u64 0,.u64 0,.u64 0,.u64 0,.u64 0,.u64 0,.u64 0,.bool false],some (.prod .elem (.prod .elem .bool))⟩
theorem amA:aV Tryz.prog 42 abB:=af (by kernel_rfl) (by kernel_rfl) (by kernel_rfl) (by kernel_rfl) (by kernel_rfl) (by kernel_rfl) (by kernel_rfl) (by kernel_rfl) (by kernel_rfl) (by kernel_rfl) (by kernel_rfl) ⟨by kernel_rfl,by kernel_rfl,by kernel_rfl⟩
def HH:TI:=⟨9,72,.struct [(0,41),(4,41),(8,4)],[.u64 0,.u64 0,.u64 0,.u64 0,.u64 0,.u64 0,.u64 0,.u64 0,.bool false],some (.prod .elem (.prod .elem .bool))⟩
theorem amz:aV Tryz.prog 43 HH:=af (by kernel_rfl) (by kernel_rfl) (by kernel_rfl) (by kernel_rfl) (by kernel_rfl) (by kernel_rfl) (by kernel_rfl) (by kernel_rfl) (by kernel_rfl) (by kernel_rfl) (by kernel_rfl) ⟨by kernel_rfl,by kernel_rfl,by kernel_rfl⟩
def abA:TI:=⟨14,112,.struct [(0,3),(1,41),(5,43)],[.int 0,.u64 0,.u64 0,.u64 0,.u64 0,.u64 0,.u64 0,.u64 0,.u64 0,.u64 0,.u64 0,.u64 0,.u64 0,.bool false],some (.prod .int (.prod .elem (.prod .elem (.prod .elem .bool))))⟩
theorem amy:aV Tryz.prog 44 abA:=af (by kernel_rfl) (by kernel_rfl) (by kernel_rfl) (by kernel_rfl) (by kernel_rfl) (by kernel_rfl) (by kernel_rfl) (by kernel_rfl) (by kernel_rfl) (by kernel_rfl) (by kernel_rfl) ⟨by kernel_rfl,by kernel_rfl,by kernel_rfl⟩
def abz:TI:=⟨14,112,.struct [(0,3),(1,41),(5,43)],[.int 0,.u64 0,.u64 0,.u64 0,.u64 0,.u64 0,.u64 0,.u64 0,.u64 0,.u64 0,.u64 0,.u64 0,.u64 0,.bool false],some (.prod .int (.prod .elem (.prod .elem (.prod .elem .bool))))⟩
theorem amx:aV Tryz.prog 45 abz:=af (by kernel_rfl) (by kernel_rfl) (by kernel_rfl) (by kernel_rfl) (by kernel_rfl) (by kernel_rfl) (by kernel_rfl) (by kernel_rfl) (by kernel_rfl) (by kernel_rfl) (by kernel_rfl) ⟨by kernel_rfl,by kernel_rfl,by kernel_rfl⟩
def aby:TI:=⟨1,8,.other,[.bB],none⟩
theorem amw:aV Tryz.prog 46 aby:=af (by kernel_rfl) (by kernel_rfl) (by kernel_rfl) (by kernel_rfl) (by kernel_rfl) (by kernel_rfl) (by kernel_rfl) (by kernel_rfl) (by kernel_rfl) (by kernel_rfl) (by kernel_rfl) trivial
def abx:TI:=⟨1,16,.iface,[.dA],none⟩
theorem amv:aV Tryz.prog 47 abx:=af (by kernel_rfl) (by kernel_rfl) (by kernel_rfl) (by kernel_rfl) (by kernel_rfl) (by kernel_rfl) (by kernel_rfl) (by kernel_rfl) (by kernel_rfl) (by kernel_rfl) (by kernel_rfl) trivial
def abw:TI:=⟨1,16,.iface,[.dA],none⟩
theorem amu:aV Tryz.prog 48 abw:=af (by kernel_rfl) (by kernel_rfl) (by kernel_rfl) (by kernel_rfl) (by kernel_rfl) (by kernel_rfl) (by kernel_rfl) (by kernel_rfl) (by kernel_rfl) (by kernel_rfl) (by kernel_rfl) trivial
def abv:TI:=⟨2,24,.struct [(0,3),(1,48)],[.int 0,.dA],none⟩
theorem amt:aV Tryz.prog 49 abv:=af (by kernel_rfl) (by kernel_rfl) (by kernel_rfl) (by kernel_rfl) (by kernel_rfl) (by kernel_rfl) (by kernel_rfl) (by kernel_rfl) (by kernel_rfl) (by kernel_rfl) (by kernel_rfl) trivial
def abu:TI:=⟨2,24,.struct [(0,3),(1,48)],[.int 0,.dA],none⟩
theorem ams:aV Tryz.prog 50 abu:=af (by kernel_rfl) (by kernel_rfl) (by kernel_rfl) (by kernel_rfl) (by kernel_rfl) (by kernel_rfl) (by kernel_rfl) (by kernel_rfl) (by kernel_rfl) (by kernel_rfl) (by kernel_rfl) trivial
def abt:TI:=⟨3,48,.struct [(0,50),(2,25)],[.int 0,.dA,.emp],none⟩
theorem amr:aV Tryz.prog 51 abt:=af (by kernel_rfl) (by kernel_rfl) (by kernel_rfl) (by kernel_rfl) (by kernel_rfl) (by kernel_rfl) (by kernel_rfl) (by kernel_rfl) (by kernel_rfl) (by kernel_rfl) (by kernel_rfl) trivial
def abr:TI:=⟨3,48,.struct [(0,50),(2,25)],[.int 0,.dA,.emp],none⟩
theorem amq:aV Tryz.prog 52 abr:=af (by kernel_rfl) (by kernel_rfl) (by kernel_rfl) (by kernel_rfl) (by kernel_rfl) (by kernel_rfl) (by kernel_rfl) (by kernel_rfl) (by kernel_rfl) (by kernel_rfl) (by kernel_rfl) trivial
def abq:TI:=⟨1,8,.other,[.bB],none⟩
theorem amp:aV Tryz.prog 53 abq:=af (by kernel_rfl) (by kernel_rfl) (by kernel_rfl) (by kernel_rfl) (by kernel_rfl) (by kernel_rfl) (by kernel_rfl) (by kernel_rfl) (by kernel_rfl) (by kernel_rfl) (by kernel_rfl) trivial
def abp:TI:=⟨1,8,.other,[.bB],none⟩
theorem amo:aV Tryz.prog 55 abp:=af (by kernel_rfl) (by kernel_rfl) (by kernel_rfl) (by kernel_rfl) (by kernel_rfl) (by kernel_rfl) (by kernel_rfl) (by kernel_rfl) (by kernel_rfl) (by kernel_rfl) (by kernel_rfl) trivial
def abo:TI:=⟨1,8,.other,[.bB],none⟩
theorem amn:aV Tryz.prog 57 abo:=af (by kernel_rfl) (by kernel_rfl) (by kernel_rfl) (by kernel_rfl) (by kernel_rfl) (by kernel_rfl) (by kernel_rfl) (by kernel_rfl) (by kernel_rfl) (by kernel_rfl) (by kernel_rfl) trivial
def abn:TI:=⟨1,8,.other,[.bB],none⟩
theorem amm:aV Tryz.prog 59 abn:=af (by kernel_rfl) (by kernel_rfl) (by kernel_rfl) (by kernel_rfl) (by kernel_rfl) (by kernel_rfl) (by kernel_rfl) (by kernel_rfl) (by kernel_rfl) (by kernel_rfl) (by kernel_rfl) trivial
def abm:TI:=⟨1,8,.other,[.bB],none⟩
theorem aml:aV Tryz.prog 61 abm:=af (by kernel_rfl) (by kernel_rfl) (by kernel_rfl) (by kernel_rfl) (by kernel_rfl) (by kernel_rfl) (by kernel_rfl) (by kernel_rfl) (by kernel_rfl) (by kernel_rfl) (by kernel_rfl) trivial
def abl:TI:=⟨1,8,.other,[.bB],none⟩
theorem amk:aV Tryz.prog 62 abl:=af (by kernel_rfl) (by kernel_rfl) (by kernel_rfl) (by kernel_rfl) (by kernel_rfl) (by kernel_rfl) (by kernel_rfl) (by kernel_rfl) (by kernel_rfl) (by kernel_rfl) (by kernel_rfl) trivial
def abk:TI:=⟨1,8,.other,[.bB],none⟩
theorem amj:aV Tryz.prog 63 abk:=af (by kernel_rfl) (by kernel_rfl) (by kernel_rfl) (by kernel_rfl) (by kernel_rfl) (by kernel_rfl) (by kernel_rfl) (by kernel_rfl) (by kernel_rfl) (by kernel_rfl) (by kernel_rfl) trivial
def abj:TI:=⟨1,8,.other,[.bB],none⟩
theorem ami:aV Tryz.prog 64 abj:=af (by kernel_rfl) (by kernel_rfl) (by kernel_rfl) (by kernel_rfl) (by kernel_rfl) (by kernel_rfl) (by kernel_rfl) (by kernel_rfl) (by kernel_rfl) (by kernel_rfl) (by kernel_rfl) trivial
def abi:TI:=⟨1,8,.other,[.bB],none⟩
theorem amh:aV Tryz.prog 65 abi:=af (by kernel_rfl) (by kernel_rfl) (by kernel_rfl) (by kernel_rfl) (by kernel_rfl) (by kernel_rfl) (by kernel_rfl) (by kernel_rfl) (by kernel_rfl) (by kernel_rfl) (by kernel_rfl) trivial
def abh:TI:=⟨1,8,.other,[.bB],none⟩
theorem amg:aV Tryz.prog 66 abh:=af (by kernel_rfl) (by kernel_rfl) (by kernel_rfl) (by kernel_rfl) (by kernel_rfl) (by kernel_rfl) (by kernel_rfl) (by kernel_rfl) (by kernel_rfl) (by kernel_rfl) (by kernel_rfl) trivial
def OU:TI:=⟨1,24,.slice 43,[.emp],some (.list (.prod .elem (.prod .elem .bool)))⟩
theorem amf:aV Tryz.prog 67 OU:=af (by kernel_rfl) (by kernel_rfl) (by kernel_rfl) (by kernel_rfl) (by kernel_rfl) (by kernel_rfl) (by kernel_rfl) (by kernel_rfl) (by kernel_rfl) (by kernel_rfl) (by kernel_rfl) ⟨by kernel_rfl,by kernel_rfl,by kernel_rfl⟩
def abg:TI:=⟨21,184,.struct [(0,3),(1,3),(2,67),(3,43),(12,43)],[.int 0,.int 0,.emp,.u64 0,.u64 0,.u64 0,.u64 0,.u64 0,.u64 0,.u64 0,.u64 0,.bool false,.u64 0,.u64 0,.u64 0,.u64 0,.u64 0,.u64 0,.u64 0,.u64 0,.bool false],some (.prod .int (.prod .int (.prod (.list (.prod .elem (.prod .elem .bool))) (.prod (.prod .elem (.prod .elem .bool)) (.prod .elem (.prod .elem .bool))))))⟩
theorem ame:aV Tryz.prog 68 abg:=af (by kernel_rfl) (by kernel_rfl) (by kernel_rfl) (by kernel_rfl) (by kernel_rfl) (by kernel_rfl) (by kernel_rfl) (by kernel_rfl) (by kernel_rfl) (by kernel_rfl) (by kernel_rfl) ⟨by kernel_rfl,by kernel_rfl,by kernel_rfl⟩
def abf:TI:=⟨21,184,.struct [(0,3),(1,3),(2,67),(3,43),(12,43)],[.int 0,.int 0,.emp,.u64 0,.u64 0,.u64 0,.u64 0,.u64 0,.u64 0,.u64 0,.u64 0,.bool false,.u64 0,.u64 0,.u64 0,.u64 0,.u64 0,.u64 0,.u64 0,.u64 0,.bool false],some (.prod .int (.prod .int (.prod (.list (.prod .elem (.prod .elem .bool))) (.prod (.prod .elem (.prod .elem .bool)) (.prod .elem (.prod .elem .bool))))))⟩
theorem amd:aV Tryz.prog 69 abf:=af (by kernel_rfl) (by kernel_rfl) (by kernel_rfl) (by kernel_rfl) (by kernel_rfl) (by kernel_rfl) (by kernel_rfl) (by kernel_rfl) (by kernel_rfl) (by kernel_rfl) (by kernel_rfl) ⟨by kernel_rfl,by kernel_rfl,by kernel_rfl⟩
def abe:TI:=⟨1,8,.other,[.bB],none⟩
theorem amc:aV Tryz.prog 71 abe:=af (by kernel_rfl) (by kernel_rfl) (by kernel_rfl) (by kernel_rfl) (by kernel_rfl) (by kernel_rfl) (by kernel_rfl) (by kernel_rfl) (by kernel_rfl) (by kernel_rfl) (by kernel_rfl) trivial
def abd:TI:=⟨1,8,.other,[.bB],none⟩
theorem amb:aV Tryz.prog 72 abd:=af (by kernel_rfl) (by kernel_rfl) (by kernel_rfl) (by kernel_rfl) (by kernel_rfl) (by kernel_rfl) (by kernel_rfl) (by kernel_rfl) (by kernel_rfl) (by kernel_rfl) (by kernel_rfl) trivial
def abc:TI:=⟨1,8,.other,[.bB],none⟩
theorem ama:aV Tryz.prog 73 abc:=af (by kernel_rfl) (by kernel_rfl) (by kernel_rfl) (by kernel_rfl) (by kernel_rfl) (by kernel_rfl) (by kernel_rfl) (by kernel_rfl) (by kernel_rfl) (by kernel_rfl) (by kernel_rfl) trivial
def abb:TI:=⟨1,8,.other,[.bB],none⟩
theorem al9:aV Tryz.prog 74 abb:=af (by kernel_rfl) (by kernel_rfl) (by kernel_rfl) (by kernel_rfl) (by kernel_rfl) (by kernel_rfl) (by kernel_rfl) (by kernel_rfl) (by kernel_rfl) (by kernel_rfl) (by kernel_rfl) trivial
def aba:TI:=⟨1,8,.other,[.bB],none⟩
theorem al8:aV Tryz.prog 75 aba:=af (by kernel_rfl) (by kernel_rfl) (by kernel_rfl) (by kernel_rfl) (by kernel_rfl) (by kernel_rfl) (by kernel_rfl) (by kernel_rfl) (by kernel_rfl) (by kernel_rfl) (by kernel_rfl) trivial
def aa9:TI:=⟨1,8,.other,[.bB],none⟩
theorem al7:aV Tryz.prog 76 aa9:=af (by kernel_rfl) (by kernel_rfl) (by kernel_rfl) (by kernel_rfl) (by kernel_rfl) (by kernel_rfl) (by kernel_rfl) (by kernel_rfl) (by kernel_rfl) (by kernel_rfl) (by kernel_rfl) trivial
def aa8:TI:=⟨1,8,.other,[.bB],none⟩
theorem al6:aV Tryz.prog 77 aa8:=af (by kernel_rfl) (by kernel_rfl) (by kernel_rfl) (by kernel_rfl) (by kernel_rfl) (by kernel_rfl) (by kernel_rfl) (by kernel_rfl) (by kernel_rfl) (by kernel_rfl) (by kernel_rfl) trivial
def aa7:TI:=⟨1,8,.other,[.bB],none⟩
theorem al5:aV Tryz.prog 78 aa7:=af (by kernel_rfl) (by kernel_rfl) (by kernel_rfl) (by kernel_rfl) (by kernel_rfl) (by kernel_rfl) (by kernel_rfl) (by kernel_rfl) (by kernel_rfl) (by kernel_rfl) (by kernel_rfl) trivial
def aa6:TI:=⟨1,8,.other,[.bB],none⟩
theorem al4:aV Tryz.prog 79 aa6:=af (by kernel_rfl) (by kernel_rfl) (by kernel_rfl) (by kernel_rfl) (by kernel_rfl) (by kernel_rfl) (by kernel_rfl) (by kernel_rfl) (by kernel_rfl) (by kernel_rfl) (by kernel_rfl) trivial
def aa5:TI:=⟨1,8,.other,[.bB],none⟩
theorem al3:aV Tryz.prog 80 aa5:=af (by kernel_rfl) (by kernel_rfl) (by kernel_rfl) (by kernel_rfl) (by kernel_rfl) (by kernel_rfl) (by kernel_rfl) (by kernel_rfl) (by kernel_rfl) (by kernel_rfl) (by kernel_rfl) trivial
def aa4:TI:=⟨1,8,.other,[.bB],none⟩
theorem al2:aV Tryz.prog 81 aa4:=af (by kernel_rfl) (by kernel_rfl) (by kernel_rfl) (by kernel_rfl) (by kernel_rfl) (by kernel_rfl) (by kernel_rfl) (by kernel_rfl) (by kernel_rfl) (by kernel_rfl) (by kernel_rfl) trivial
def aa3:TI:=⟨1,8,.other,[.bB],none⟩
theorem al1:aV Tryz.prog 82 aa3:=af (by kernel_rfl) (by kernel_rfl) (by kernel_rfl) (by kernel_rfl) (by kernel_rfl) (by kernel_rfl) (by kernel_rfl) (by kernel_rfl) (by kernel_rfl) (by kernel_rfl) (by kernel_rfl) trivial
def aa2:TI:=⟨1,8,.other,[.bB],none⟩
theorem al0:aV Tryz.prog 83 aa2:=af (by kernel_rfl) (by kernel_rfl) (by kernel_rfl) (by kernel_rfl) (by kernel_rfl) (by kernel_rfl) (by kernel_rfl) (by kernel_rfl) (by kernel_rfl) (by kernel_rfl) (by kernel_rfl) trivial
def aa1:TI:=⟨1,8,.other,[.bB],none⟩
theorem alZ:aV Tryz.prog 84 aa1:=af (by kernel_rfl) (by kernel_rfl) (by kernel_rfl) (by kernel_rfl) (by kernel_rfl) (by kernel_rfl) (by kernel_rfl) (by kernel_rfl) (by kernel_rfl) (by kernel_rfl) (by kernel_rfl) trivial
def aa0:TI:=⟨1,8,.other,[.bB],none⟩
theorem alY:aV Tryz.prog 85 aa0:=af (by kernel_rfl) (by kernel_rfl) (by kernel_rfl) (by kernel_rfl) (by kernel_rfl) (by kernel_rfl) (by kernel_rfl) (by kernel_rfl) (by kernel_rfl) (by kernel_rfl) (by kernel_rfl) trivial
def aaZ:TI:=⟨1,8,.int .u64,[.u64 0],some .u64⟩
theorem alX:aV Tryz.prog 86 aaZ:=af (by kernel_rfl) (by kernel_rfl) (by kernel_rfl) (by kernel_rfl) (by kernel_rfl) (by kernel_rfl) (by kernel_rfl) (by kernel_rfl) (by kernel_rfl) (by kernel_rfl) (by kernel_rfl) ⟨by kernel_rfl,by kernel_rfl,by kernel_rfl⟩
def aaY:TI:=⟨1,8,.ptr [("Bytes",50),("Scalar",49),("sigil/tape.say",88)],[.nq],none⟩
theorem alW:aV Tryz.prog 87 aaY:=af (by kernel_rfl) (by kernel_rfl) (by kernel_rfl) (by kernel_rfl) (by kernel_rfl) (by kernel_rfl) (by kernel_rfl) (by kernel_rfl) (by kernel_rfl) (by kernel_rfl) (by kernel_rfl) trivial
def aaX:TI:=⟨1,8,.other,[.bB],none⟩
theorem alV:aV Tryz.prog 89 aaX:=af (by kernel_rfl) (by kernel_rfl) (by kernel_rfl) (by kernel_rfl) (by kernel_rfl) (by kernel_rfl) (by kernel_rfl) (by kernel_rfl) (by kernel_rfl) (by kernel_rfl) (by kernel_rfl) trivial
def aaW:TI:=⟨3,48,.struct [(0,50),(2,25)],[.int 0,.dA,.emp],none⟩
theorem alU:aV Tryz.prog 90 aaW:=af (by kernel_rfl) (by kernel_rfl) (by kernel_rfl) (by kernel_rfl) (by kernel_rfl) (by kernel_rfl) (by kernel_rfl) (by kernel_rfl) (by kernel_rfl) (by kernel_rfl) (by kernel_rfl) trivial
def aaV:TI:=⟨3,48,.struct [(0,50),(2,25)],[.int 0,.dA,.emp],none⟩
theorem alT:aV Tryz.prog 91 aaV:=af (by kernel_rfl) (by kernel_rfl) (by kernel_rfl) (by kernel_rfl) (by kernel_rfl) (by kernel_rfl) (by kernel_rfl) (by kernel_rfl) (by kernel_rfl) (by kernel_rfl) (by kernel_rfl) trivial
def aaU:TI:=⟨1,8,.other,[.bB],none⟩
theorem alS:aV Tryz.prog 92 aaU:=af (by kernel_rfl) (by kernel_rfl) (by kernel_rfl) (by kernel_rfl) (by kernel_rfl) (by kernel_rfl) (by kernel_rfl) (by kernel_rfl) (by kernel_rfl) (by kernel_rfl) (by kernel_rfl) trivial
def aaT:TI:=⟨1,8,.other,[.bB],none⟩
theorem alR:aV Tryz.prog 94 aaT:=af (by kernel_rfl) (by kernel_rfl) (by kernel_rfl) (by kernel_rfl) (by kernel_rfl) (by kernel_rfl) (by kernel_rfl) (by kernel_rfl) (by kernel_rfl) (by kernel_rfl) (by kernel_rfl) trivial
def aaS:TI:=⟨1,8,.ptr [("Challenge",24),("Curve",26),("Hear",17)],[.nq],none⟩
theorem alQ:aV Tryz.prog 95 aaS:=af (by kernel_rfl) (by kernel_rfl) (by kernel_rfl) (by kernel_rfl) (by kernel_rfl) (by kernel_rfl) (by kernel_rfl) (by kernel_rfl) (by kernel_rfl) (by kernel_rfl) (by kernel_rfl) trivial
def aaR:TI:=⟨1,8,.other,[.bB],none⟩
theorem alP:aV Tryz.prog 96 aaR:=af (by kernel_rfl) (by kernel_rfl) (by kernel_rfl) (by kernel_rfl) (by kernel_rfl) (by kernel_rfl) (by kernel_rfl) (by kernel_rfl) (by kernel_rfl) (by kernel_rfl) (by kernel_rfl) trivial
def aaQ:TI:=⟨1,8,.other,[.bB],none⟩
theorem alO:aV Tryz.prog 97 aaQ:=af (by kernel_rfl) (by kernel_rfl) (by kernel_rfl) (by kernel_rfl) (by kernel_rfl) (by kernel_rfl) (by kernel_rfl) (by kernel_rfl) (by kernel_rfl) (by kernel_rfl) (by kernel_rfl) trivial
def aaP:TI:=⟨1,8,.other,[.bB],none⟩
theorem alN:aV Tryz.prog 98 aaP:=af (by kernel_rfl) (by kernel_rfl) (by kernel_rfl) (by kernel_rfl) (by kernel_rfl) (by kernel_rfl) (by kernel_rfl) (by kernel_rfl) (by kernel_rfl) (by kernel_rfl) (by kernel_rfl) trivial
def aaO:TI:=⟨1,8,.other,[.bB],none⟩
theorem alM:aV Tryz.prog 99 aaO:=af (by kernel_rfl) (by kernel_rfl) (by kernel_rfl) (by kernel_rfl) (by kernel_rfl) (by kernel_rfl) (by kernel_rfl) (by kernel_rfl) (by kernel_rfl) (by kernel_rfl) (by kernel_rfl) trivial
def UN:TI:=⟨1,8,.other,[.bB],none⟩
theorem ain:aV Tryz.prog 100 UN:=af (by kernel_rfl) (by kernel_rfl) (by kernel_rfl) (by kernel_rfl) (by kernel_rfl) (by kernel_rfl) (by kernel_rfl) (by kernel_rfl) (by kernel_rfl) (by kernel_rfl) (by kernel_rfl) trivial
def UM:TI:=⟨1,8,.other,[.bB],none⟩
theorem aim:aV Tryz.prog 101 UM:=af (by kernel_rfl) (by kernel_rfl) (by kernel_rfl) (by kernel_rfl) (by kernel_rfl) (by kernel_rfl) (by kernel_rfl) (by kernel_rfl) (by kernel_rfl) (by kernel_rfl) (by kernel_rfl) trivial
def UL:TI:=⟨1,8,.other,[.bB],none⟩
theorem ail:aV Tryz.prog 102 UL:=af (by kernel_rfl) (by kernel_rfl) (by kernel_rfl) (by kernel_rfl) (by kernel_rfl) (by kernel_rfl) (by kernel_rfl) (by kernel_rfl) (by kernel_rfl) (by kernel_rfl) (by kernel_rfl) trivial
def UK:TI:=⟨1,8,.other,[.bB],none⟩
theorem aik:aV Tryz.prog 103 UK:=af (by kernel_rfl) (by kernel_rfl) (by kernel_rfl) (by kernel_rfl) (by kernel_rfl) (by kernel_rfl) (by kernel_rfl) (by kernel_rfl) (by kernel_rfl) (by kernel_rfl) (by kernel_rfl) trivial
def UJ:TI:=⟨1,8,.other,[.bB],none⟩
theorem aij:aV Tryz.prog 105 UJ:=af (by kernel_rfl) (by kernel_rfl) (by kernel_rfl) (by kernel_rfl) (by kernel_rfl) (by kernel_rfl) (by kernel_rfl) (by kernel_rfl) (by kernel_rfl) (by kernel_rfl) (by kernel_rfl) trivial
def UI:TI:=⟨1,8,.other,[.bB],none⟩
theorem aii:aV Tryz.prog 106 UI:=af (by kernel_rfl) (by kernel_rfl) (by kernel_rfl) (by kernel_rfl) (by kernel_rfl) (by kernel_rfl) (by kernel_rfl) (by kernel_rfl) (by kernel_rfl) (by kernel_rfl) (by kernel_rfl) trivial
def UH:TI:=⟨1,8,.other,[.bB],none⟩
theorem aih:aV Tryz.prog 107 UH:=af (by kernel_rfl) (by kernel_rfl) (by kernel_rfl) (by kernel_rfl) (by kernel_rfl) (by kernel_rfl) (by kernel_rfl) (by kernel_rfl) (by kernel_rfl) (by kernel_rfl) (by kernel_rfl) trivial
def UG:TI:=⟨1,8,.other,[.bB],none⟩
theorem aif:aV Tryz.prog 108 UG:=af (by kernel_rfl) (by kernel_rfl) (by kernel_rfl) (by kernel_rfl) (by kernel_rfl) (by kernel_rfl) (by kernel_rfl) (by kernel_rfl) (by kernel_rfl) (by kernel_rfl) (by kernel_rfl) trivial
def UF:TI:=⟨1,8,.other,[.bB],none⟩
theorem aie:aV Tryz.prog 109 UF:=af (by kernel_rfl) (by kernel_rfl) (by kernel_rfl) (by kernel_rfl) (by kernel_rfl) (by kernel_rfl) (by kernel_rfl) (by kernel_rfl) (by kernel_rfl) (by kernel_rfl) (by kernel_rfl) trivial
def UE:TI:=⟨1,8,.other,[.bB],none⟩
theorem aid:aV Tryz.prog 110 UE:=af (by kernel_rfl) (by kernel_rfl) (by kernel_rfl) (by kernel_rfl) (by kernel_rfl) (by kernel_rfl) (by kernel_rfl) (by kernel_rfl) (by kernel_rfl) (by kernel_rfl) (by kernel_rfl) trivial
def UD:TI:=⟨13,104,.struct [(0,41),(4,43)],[.u64 0,.u64 0,.u64 0,.u64 0,.u64 0,.u64 0,.u64 0,.u64 0,.u64 0,.u64 0,.u64 0,.u64 0,.bool false],some (.prod .elem (.prod .elem (.prod .elem .bool)))⟩
theorem aic:aV Tryz.prog 111 UD:=af (by kernel_rfl) (by kernel_rfl) (by kernel_rfl) (by kernel_rfl) (by kernel_rfl) (by kernel_rfl) (by kernel_rfl) (by kernel_rfl) (by kernel_rfl) (by kernel_rfl) (by kernel_rfl) ⟨by kernel_rfl,by kernel_rfl,by kernel_rfl⟩
def UC:TI:=⟨13,104,.struct [(0,41),(4,43)],[.u64 0,.u64 0,.u64 0,.u64 0,.u64 0,.u64 0,.u64 0,.u64 0,.u64 0,.u64 0,.u64 0,.u64 0,.bool false],some (.prod .elem (.prod .elem (.prod .elem .bool)))⟩
theorem aib:aV Tryz.prog 112 UC:=af (by kernel_rfl) (by kernel_rfl) (by kernel_rfl) (by kernel_rfl) (by kernel_rfl) (by kernel_rfl) (by kernel_rfl) (by kernel_rfl) (by kernel_rfl) (by kernel_rfl) (by kernel_rfl) ⟨by kernel_rfl,by kernel_rfl,by kernel_rfl⟩
def UB:TI:=⟨1,24,.slice 112,[.emp],some (.list (.prod .elem (.prod .elem (.prod .elem .bool))))⟩
theorem aia:aV Tryz.prog 113 UB:=af (by kernel_rfl) (by kernel_rfl) (by kernel_rfl) (by kernel_rfl) (by kernel_rfl) (by kernel_rfl) (by kernel_rfl) (by kernel_rfl) (by kernel_rfl) (by kernel_rfl) (by kernel_rfl) ⟨by kernel_rfl,by kernel_rfl,by kernel_rfl⟩
def UA:TI:=⟨1,8,.other,[.bB],none⟩
theorem ah9:aV Tryz.prog 114 UA:=af (by kernel_rfl) (by kernel_rfl) (by kernel_rfl) (by kernel_rfl) (by kernel_rfl) (by kernel_rfl) (by kernel_rfl) (by kernel_rfl) (by kernel_rfl) (by kernel_rfl) (by kernel_rfl) trivial
def Uz:TI:=⟨1,8,.other,[.bB],none⟩
theorem ah8:aV Tryz.prog 115 Uz:=af (by kernel_rfl) (by kernel_rfl) (by kernel_rfl) (by kernel_rfl) (by kernel_rfl) (by kernel_rfl) (by kernel_rfl) (by kernel_rfl) (by kernel_rfl) (by kernel_rfl) (by kernel_rfl) trivial
def Uy:TI:=⟨11,88,.struct [(0,41),(4,3),(5,39),(6,39),(7,41)],[.u64 0,.u64 0,.u64 0,.u64 0,.int 0,.u64 0,.u64 0,.u64 0,.u64 0,.u64 0,.u64 0],some (.prod .elem (.prod .int (.prod .u64 (.prod .u64 .elem))))⟩
theorem ah7:aV Tryz.prog 116 Uy:=af (by kernel_rfl) (by kernel_rfl) (by kernel_rfl) (by kernel_rfl) (by kernel_rfl) (by kernel_rfl) (by kernel_rfl) (by kernel_rfl) (by kernel_rfl) (by kernel_rfl) (by kernel_rfl) ⟨by kernel_rfl,by kernel_rfl,by kernel_rfl⟩
def Ux:TI:=⟨11,88,.struct [(0,41),(4,3),(5,39),(6,39),(7,41)],[.u64 0,.u64 0,.u64 0,.u64 0,.int 0,.u64 0,.u64 0,.u64 0,.u64 0,.u64 0,.u64 0],some (.prod .elem (.prod .int (.prod .u64 (.prod .u64 .elem))))⟩
theorem ah6:aV Tryz.prog 117 Ux:=af (by kernel_rfl) (by kernel_rfl) (by kernel_rfl) (by kernel_rfl) (by kernel_rfl) (by kernel_rfl) (by kernel_rfl) (by kernel_rfl) (by kernel_rfl) (by kernel_rfl) (by kernel_rfl) ⟨by kernel_rfl,by kernel_rfl,by kernel_rfl⟩
def Uw:TI:=⟨1,8,.other,[.bB],none⟩
theorem ah5:aV Tryz.prog 119 Uw:=af (by kernel_rfl) (by kernel_rfl) (by kernel_rfl) (by kernel_rfl) (by kernel_rfl) (by kernel_rfl) (by kernel_rfl) (by kernel_rfl) (by kernel_rfl) (by kernel_rfl) (by kernel_rfl) trivial
def Uv:TI:=⟨1,8,.other,[.bB],none⟩
theorem ah4:aV Tryz.prog 120 Uv:=af (by kernel_rfl) (by kernel_rfl) (by kernel_rfl) (by kernel_rfl) (by kernel_rfl) (by kernel_rfl) (by kernel_rfl) (by kernel_rfl) (by kernel_rfl) (by kernel_rfl) (by kernel_rfl) trivial
def Uu:TI:=⟨1,8,.other,[.bB],none⟩
theorem ah3:aV Tryz.prog 121 Uu:=af (by kernel_rfl) (by kernel_rfl) (by kernel_rfl) (by kernel_rfl) (by kernel_rfl) (by kernel_rfl) (by kernel_rfl) (by kernel_rfl) (by kernel_rfl) (by kernel_rfl) (by kernel_rfl) trivial
def Ut:TI:=⟨1,8,.int .i64,[.int 0],some .int⟩
theorem ah2:aV Tryz.prog 122 Ut:=af (by kernel_rfl) (by kernel_rfl) (by kernel_rfl) (by kernel_rfl) (by kernel_rfl) (by kernel_rfl) (by kernel_rfl) (by kernel_rfl) (by kernel_rfl) (by kernel_rfl) (by kernel_rfl) ⟨by kernel_rfl,by kernel_rfl,by kernel_rfl⟩
def Us:TI:=⟨1,8,.other,[.bB],none⟩
theorem ah1:aV Tryz.prog 123 Us:=af (by kernel_rfl) (by kernel_rfl) (by kernel_rfl) (by kernel_rfl) (by kernel_rfl) (by kernel_rfl) (by kernel_rfl) (by kernel_rfl) (by kernel_rfl) (by kernel_rfl) (by kernel_rfl) trivial
def Ur:TI:=⟨12,96,.struct [(0,41),(4,41),(8,41)],List.replicate 12 (.u64 0),some (.prod .elem (.prod .elem .elem))⟩
theorem ah0:aV Tryz.prog 124 Ur:=af (by kernel_rfl) (by kernel_rfl) (by kernel_rfl) (by kernel_rfl) (by kernel_rfl) (by kernel_rfl) (by kernel_rfl) (by kernel_rfl) (by kernel_rfl) (by kernel_rfl) (by kernel_rfl) ⟨by kernel_rfl,by kernel_rfl,by kernel_rfl⟩
def Uq:TI:=⟨12,96,.struct [(0,41),(4,41),(8,41)],List.replicate 12 (.u64 0),some (.prod .elem (.prod .elem .elem))⟩
theorem ahZ:aV Tryz.prog 125 Uq:=af (by kernel_rfl) (by kernel_rfl) (by kernel_rfl) (by kernel_rfl) (by kernel_rfl) (by kernel_rfl) (by kernel_rfl) (by kernel_rfl) (by kernel_rfl) (by kernel_rfl) (by kernel_rfl) ⟨by kernel_rfl,by kernel_rfl,by kernel_rfl⟩
def Up:TI:=⟨1,8,.other,[.bB],none⟩
theorem ahY:aV Tryz.prog 126 Up:=af (by kernel_rfl) (by kernel_rfl) (by kernel_rfl) (by kernel_rfl) (by kernel_rfl) (by kernel_rfl) (by kernel_rfl) (by kernel_rfl) (by kernel_rfl) (by kernel_rfl) (by kernel_rfl) trivial
def Uo:TI:=⟨1,8,.other,[.bB],none⟩
theorem ahX:aV Tryz.prog 127 Uo:=af (by kernel_rfl) (by kernel_rfl) (by kernel_rfl) (by kernel_rfl) (by kernel_rfl) (by kernel_rfl) (by kernel_rfl) (by kernel_rfl) (by kernel_rfl) (by kernel_rfl) (by kernel_rfl) trivial
def Un:TI:=⟨1,8,.other,[.bB],none⟩
theorem ahW:aV Tryz.prog 128 Un:=af (by kernel_rfl) (by kernel_rfl) (by kernel_rfl) (by kernel_rfl) (by kernel_rfl) (by kernel_rfl) (by kernel_rfl) (by kernel_rfl) (by kernel_rfl) (by kernel_rfl) (by kernel_rfl) trivial
def Um:TI:=⟨1,8,.other,[.bB],none⟩
theorem ahV:aV Tryz.prog 129 Um:=af (by kernel_rfl) (by kernel_rfl) (by kernel_rfl) (by kernel_rfl) (by kernel_rfl) (by kernel_rfl) (by kernel_rfl) (by kernel_rfl) (by kernel_rfl) (by kernel_rfl) (by kernel_rfl) trivial
def Ul:TI:=⟨1,8,.other,[.bB],none⟩
theorem ahU:aV Tryz.prog 131 Ul:=af (by kernel_rfl) (by kernel_rfl) (by kernel_rfl) (by kernel_rfl) (by kernel_rfl) (by kernel_rfl) (by kernel_rfl) (by kernel_rfl) (by kernel_rfl) (by kernel_rfl) (by kernel_rfl) trivial
def Uk:TI:=⟨1,8,.other,[.bB],none⟩
theorem ahT:aV Tryz.prog 132 Uk:=af (by kernel_rfl) (by kernel_rfl) (by kernel_rfl) (by kernel_rfl) (by kernel_rfl) (by kernel_rfl) (by kernel_rfl) (by kernel_rfl) (by kernel_rfl) (by kernel_rfl) (by kernel_rfl) trivial
def Uj:TI:=⟨1,8,.ptr [("sigil/tape.next",191),("sigil/tape.take",192)],[.nq],none⟩
theorem ahS:aV Tryz.prog 133 Uj:=af (by kernel_rfl) (by kernel_rfl) (by kernel_rfl) (by kernel_rfl) (by kernel_rfl) (by kernel_rfl) (by kernel_rfl) (by kernel_rfl) (by kernel_rfl) (by kernel_rfl) (by kernel_rfl) trivial
def Ui:TI:=⟨1,24,.struct [(0,22)],[.emp],some (.list .elem)⟩
theorem ahR:aV Tryz.prog 134 Ui:=af (by kernel_rfl) (by kernel_rfl) (by kernel_rfl) (by kernel_rfl) (by kernel_rfl) (by kernel_rfl) (by kernel_rfl) (by kernel_rfl) (by kernel_rfl) (by kernel_rfl) (by kernel_rfl) ⟨by kernel_rfl,by kernel_rfl,by kernel_rfl⟩
def Uh:TI:=⟨1,24,.struct [(0,22)],[.emp],some (.list .elem)⟩
theorem ahQ:aV Tryz.prog 135 Uh:=af (by kernel_rfl) (by kernel_rfl) (by kernel_rfl) (by kernel_rfl) (by kernel_rfl) (by kernel_rfl) (by kernel_rfl) (by kernel_rfl) (by kernel_rfl) (by kernel_rfl) (by kernel_rfl) ⟨by kernel_rfl,by kernel_rfl,by kernel_rfl⟩
def Ug:TI:=⟨2,32,.struct [(0,3),(1,135)],[.int 0,.emp],some (.prod .int (.list .elem))⟩
theorem ahP:aV Tryz.prog 136 Ug:=af (by kernel_rfl) (by kernel_rfl) (by kernel_rfl) (by kernel_rfl) (by kernel_rfl) (by kernel_rfl) (by kernel_rfl) (by kernel_rfl) (by kernel_rfl) (by kernel_rfl) (by kernel_rfl) ⟨by kernel_rfl,by kernel_rfl,by kernel_rfl⟩
def Uf:TI:=⟨2,32,.struct [(0,3),(1,135)],[.int 0,.emp],some (.prod .int (.list .elem))⟩
theorem ahO:aV Tryz.prog 137 Uf:=af (by kernel_rfl) (by kernel_rfl) (by kernel_rfl) (by kernel_rfl) (by kernel_rfl) (by kernel_rfl) (by kernel_rfl) (by kernel_rfl) (by kernel_rfl) (by kernel_rfl) (by kernel_rfl) ⟨by kernel_rfl,by kernel_rfl,by kernel_rfl⟩
def Ue:TI:=⟨1,8,.ptr [("Sum",110),("Write",109)],[.nq],none⟩
theorem ahN:aV Tryz.prog 138 Ue:=af (by kernel_rfl) (by kernel_rfl) (by kernel_rfl) (by kernel_rfl) (by kernel_rfl) (by kernel_rfl) (by kernel_rfl) (by kernel_rfl) (by kernel_rfl) (by kernel_rfl) (by kernel_rfl) trivial
def Ud:TI:=⟨1,8,.other,[.bB],none⟩
theorem ahM:aV Tryz.prog 140 Ud:=af (by kernel_rfl) (by kernel_rfl) (by kernel_rfl) (by kernel_rfl) (by kernel_rfl) (by kernel_rfl) (by kernel_rfl) (by kernel_rfl) (by kernel_rfl) (by kernel_rfl) (by kernel_rfl) trivial
def Uc:TI:=⟨1,8,.ptr [("sigil/tape.next",194),("sigil/tape.take",195)],[.nq],none⟩
theorem ahL:aV Tryz.prog 141 Uc:=af (by kernel_rfl) (by kernel_rfl) (by kernel_rfl) (by kernel_rfl) (by kernel_rfl) (by kernel_rfl) (by kernel_rfl) (by kernel_rfl) (by kernel_rfl) (by kernel_rfl) (by kernel_rfl) trivial
def Ub:TI:=⟨2,16,.struct [(0,3),(1,138)],[.int 0,.nq],none⟩
theorem ahK:aV Tryz.prog 142 Ub:=af (by kernel_rfl) (by kernel_rfl) (by kernel_rfl) (by kernel_rfl) (by kernel_rfl) (by kernel_rfl) (by kernel_rfl) (by kernel_rfl) (by kernel_rfl) (by kernel_rfl) (by kernel_rfl) trivial
def Ua:TI:=⟨2,16,.struct [(0,3),(1,138)],[.int 0,.nq],none⟩
theorem ahJ:aV Tryz.prog 143 Ua:=af (by kernel_rfl) (by kernel_rfl) (by kernel_rfl) (by kernel_rfl) (by kernel_rfl) (by kernel_rfl) (by kernel_rfl) (by kernel_rfl) (by kernel_rfl) (by kernel_rfl) (by kernel_rfl) trivial
def T9:TI:=⟨1,8,.other,[.bB],none⟩
theorem ahI:aV Tryz.prog 144 T9:=af (by kernel_rfl) (by kernel_rfl) (by kernel_rfl) (by kernel_rfl) (by kernel_rfl) (by kernel_rfl) (by kernel_rfl) (by kernel_rfl) (by kernel_rfl) (by kernel_rfl) (by kernel_rfl) trivial
def T8:TI:=⟨1,8,.other,[.bB],none⟩
theorem ahH:aV Tryz.prog 145 T8:=af (by kernel_rfl) (by kernel_rfl) (by kernel_rfl) (by kernel_rfl) (by kernel_rfl) (by kernel_rfl) (by kernel_rfl) (by kernel_rfl) (by kernel_rfl) (by kernel_rfl) (by kernel_rfl) trivial
def T7:TI:=⟨1,8,.other,[.bB],none⟩
theorem ahG:aV Tryz.prog 146 T7:=af (by kernel_rfl) (by kernel_rfl) (by kernel_rfl) (by kernel_rfl) (by kernel_rfl) (by kernel_rfl) (by kernel_rfl) (by kernel_rfl) (by kernel_rfl) (by kernel_rfl) (by kernel_rfl) trivial
def T6:TI:=⟨1,8,.other,[.bB],none⟩
theorem ahF:aV Tryz.prog 147 T6:=af (by kernel_rfl) (by kernel_rfl) (by kernel_rfl) (by kernel_rfl) (by kernel_rfl) (by kernel_rfl) (by kernel_rfl) (by kernel_rfl) (by kernel_rfl) (by kernel_rfl) (by kernel_rfl) trivial
def T5:TI:=⟨8,64,.array 8 39,[.u64 0,.u64 0,.u64 0,.u64 0,.u64 0,.u64 0,.u64 0,.u64 0],some (.arr 8 .u64)⟩
theorem ahE:aV Tryz.prog 148 T5:=af (by kernel_rfl) (by kernel_rfl) (by kernel_rfl) (by kernel_rfl) (by kernel_rfl) (by kernel_rfl) (by kernel_rfl) (by kernel_rfl) (by kernel_rfl) (by kernel_rfl) (by kernel_rfl) ⟨by kernel_rfl,by kernel_rfl,by kernel_rfl⟩
def T4:TI:=⟨1,8,.other,[.bB],none⟩
theorem ahD:aV Tryz.prog 149 T4:=af (by kernel_rfl) (by kernel_rfl) (by kernel_rfl) (by kernel_rfl) (by kernel_rfl) (by kernel_rfl) (by kernel_rfl) (by kernel_rfl) (by kernel_rfl) (by kernel_rfl) (by kernel_rfl) trivial
def T3:TI:=⟨1,8,.other,[.bB],none⟩
theorem ahC:aV Tryz.prog 150 T3:=af (by kernel_rfl) (by kernel_rfl) (by kernel_rfl) (by kernel_rfl) (by kernel_rfl) (by kernel_rfl) (by kernel_rfl) (by kernel_rfl) (by kernel_rfl) (by kernel_rfl) (by kernel_rfl) trivial
def T0:TI:=⟨1,8,.other,[.bB],none⟩
theorem ahB:aV Tryz.prog 151 T0:=af (by kernel_rfl) (by kernel_rfl) (by kernel_rfl) (by kernel_rfl) (by kernel_rfl) (by kernel_rfl) (by kernel_rfl) (by kernel_rfl) (by kernel_rfl) (by kernel_rfl) (by kernel_rfl) trivial
def TZ:TI:=⟨1,8,.other,[.bB],none⟩
theorem ahA:aV Tryz.prog 152 TZ:=af (by kernel_rfl) (by kernel_rfl) (by kernel_rfl) (by kernel_rfl) (by kernel_rfl) (by kernel_rfl) (by kernel_rfl) (by kernel_rfl) (by kernel_rfl) (by kernel_rfl) (by kernel_rfl) trivial
def TY:TI:=⟨1,8,.other,[.bB],none⟩
theorem ahz:aV Tryz.prog 153 TY:=af (by kernel_rfl) (by kernel_rfl) (by kernel_rfl) (by kernel_rfl) (by kernel_rfl) (by kernel_rfl) (by kernel_rfl) (by kernel_rfl) (by kernel_rfl) (by kernel_rfl) (by kernel_rfl) trivial
def TX:TI:=⟨1,8,.other,[.bB],none⟩
theorem ahy:aV Tryz.prog 154 TX:=af (by kernel_rfl) (by kernel_rfl) (by kernel_rfl) (by kernel_rfl) (by kernel_rfl) (by kernel_rfl) (by kernel_rfl) (by kernel_rfl) (by kernel_rfl) (by kernel_rfl) (by kernel_rfl) trivial
def TW:TI:=⟨1,8,.other,[.bB],none⟩
theorem ahx:aV Tryz.prog 155 TW:=af (by kernel_rfl) (by kernel_rfl) (by kernel_rfl) (by kernel_rfl) (by kernel_rfl) (by kernel_rfl) (by kernel_rfl) (by kernel_rfl) (by kernel_rfl) (by kernel_rfl) (by kernel_rfl) trivial
def TV:TI:=⟨1,8,.ptr [("Add",115),("Scale",196),("Value",116)],[.nq],none⟩
theorem ahw:aV Tryz.prog 156 TV:=af (by kernel_rfl) (by kernel_rfl) (by kernel_rfl) (by kernel_rfl) (by kernel_rfl) (by kernel_rfl) (by kernel_rfl) (by kernel_rfl) (by kernel_rfl) (by kernel_rfl) (by kernel_rfl) trivial
def TU:TI:=⟨1,8,.other,[.bB],none⟩
theorem ahv:aV Tryz.prog 158 TU:=af (by kernel_rfl) (by kernel_rfl) (by kernel_rfl) (by kernel_rfl) (by kernel_rfl) (by kernel_rfl) (by kernel_rfl) (by kernel_rfl) (by kernel_rfl) (by kernel_rfl) (by kernel_rfl) trivial
def TT:TI:=⟨1,8,.other,[.bB],none⟩
theorem ahu:aV Tryz.prog 159 TT:=af (by kernel_rfl) (by kernel_rfl) (by kernel_rfl) (by kernel_rfl) (by kernel_rfl) (by kernel_rfl) (by kernel_rfl) (by kernel_rfl) (by kernel_rfl) (by kernel_rfl) (by kernel_rfl) trivial
def TS:TI:=⟨1,8,.other,[.bB],none⟩
theorem aht:aV Tryz.prog 160 TS:=af (by kernel_rfl) (by kernel_rfl) (by kernel_rfl) (by kernel_rfl) (by kernel_rfl) (by kernel_rfl) (by kernel_rfl) (by kernel_rfl) (by kernel_rfl) (by kernel_rfl) (by kernel_rfl) trivial
def TR:TI:=⟨1,8,.other,[.bB],none⟩
theorem ahs:aV Tryz.prog 161 TR:=af (by kernel_rfl) (by kernel_rfl) (by kernel_rfl) (by kernel_rfl) (by kernel_rfl) (by kernel_rfl) (by kernel_rfl) (by kernel_rfl) (by kernel_rfl) (by kernel_rfl) (by kernel_rfl) trivial
def TQ:TI:=⟨1,8,.other,[.bB],none⟩
theorem ahr:aV Tryz.prog 162 TQ:=af (by kernel_rfl) (by kernel_rfl) (by kernel_rfl) (by kernel_rfl) (by kernel_rfl) (by kernel_rfl) (by kernel_rfl) (by kernel_rfl) (by kernel_rfl) (by kernel_rfl) (by kernel_rfl) trivial
def TP:TI:=⟨11,104,.struct [(0,3),(1,148),(9,25),(10,39)],[.int 0,.u64 0,.u64 0,.u64 0,.u64 0,.u64 0,.u64 0,.u64 0,.u64 0,.emp,.u64 0],some (.prod .int (.prod (.arr 8 .u64) (.prod (.list .u8) .u64)))⟩
theorem ahq:aV Tryz.prog 163 TP:=af (by kernel_rfl) (by kernel_rfl) (by kernel_rfl) (by kernel_rfl) (by kernel_rfl) (by kernel_rfl) (by kernel_rfl) (by kernel_rfl) (by kernel_rfl) (by kernel_rfl) (by kernel_rfl) ⟨by kernel_rfl,by kernel_rfl,by kernel_rfl⟩
def TO:TI:=⟨11,104,.struct [(0,3),(1,148),(9,25),(10,39)],[.int 0,.u64 0,.u64 0,.u64 0,.u64 0,.u64 0,.u64 0,.u64 0,.u64 0,.emp,.u64 0],some (.prod .int (.prod (.arr 8 .u64) (.prod (.list .u8) .u64)))⟩
theorem ahp:aV Tryz.prog 164 TO:=af (by kernel_rfl) (by kernel_rfl) (by kernel_rfl) (by kernel_rfl) (by kernel_rfl) (by kernel_rfl) (by kernel_rfl) (by kernel_rfl) (by kernel_rfl) (by kernel_rfl) (by kernel_rfl) ⟨by kernel_rfl,by kernel_rfl,by kernel_rfl⟩
def TN:TI:=⟨16,16,.array 16 5,List.replicate 16 (.u8 0),some (.arr 16 .u8)⟩
theorem aho:aV Tryz.prog 165 TN:=af (by kernel_rfl) (by kernel_rfl) (by kernel_rfl) (by kernel_rfl) (by kernel_rfl) (by kernel_rfl) (by kernel_rfl) (by kernel_rfl) (by kernel_rfl) (by kernel_rfl) (by kernel_rfl) ⟨by kernel_rfl,by kernel_rfl,by kernel_rfl⟩
def TM:TI:=⟨1,8,.other,[.bB],none⟩
theorem ahn:aV Tryz.prog 166 TM:=af (by kernel_rfl) (by kernel_rfl) (by kernel_rfl) (by kernel_rfl) (by kernel_rfl) (by kernel_rfl) (by kernel_rfl) (by kernel_rfl) (by kernel_rfl) (by kernel_rfl) (by kernel_rfl) trivial
def TL:TI:=⟨1,8,.other,[.bB],none⟩
theorem ahm:aV Tryz.prog 168 TL:=af (by kernel_rfl) (by kernel_rfl) (by kernel_rfl) (by kernel_rfl) (by kernel_rfl) (by kernel_rfl) (by kernel_rfl) (by kernel_rfl) (by kernel_rfl) (by kernel_rfl) (by kernel_rfl) trivial
def TK:TI:=⟨1,8,.other,[.bB],none⟩
theorem ahl:aV Tryz.prog 170 TK:=af (by kernel_rfl) (by kernel_rfl) (by kernel_rfl) (by kernel_rfl) (by kernel_rfl) (by kernel_rfl) (by kernel_rfl) (by kernel_rfl) (by kernel_rfl) (by kernel_rfl) (by kernel_rfl) trivial
def TJ:TI:=⟨1,8,.other,[.bB],none⟩
theorem ahk:aV Tryz.prog 171 TJ:=af (by kernel_rfl) (by kernel_rfl) (by kernel_rfl) (by kernel_rfl) (by kernel_rfl) (by kernel_rfl) (by kernel_rfl) (by kernel_rfl) (by kernel_rfl) (by kernel_rfl) (by kernel_rfl) trivial
def TH:TI:=⟨1,8,.other,[.bB],none⟩
theorem ahj:aV Tryz.prog 172 TH:=af (by kernel_rfl) (by kernel_rfl) (by kernel_rfl) (by kernel_rfl) (by kernel_rfl) (by kernel_rfl) (by kernel_rfl) (by kernel_rfl) (by kernel_rfl) (by kernel_rfl) (by kernel_rfl) trivial
def TG:TI:=⟨16,128,.array 16 39,List.replicate 16 (.u64 0),some (.arr 16 .u64)⟩
theorem ahi:aV Tryz.prog 173 TG:=af (by kernel_rfl) (by kernel_rfl) (by kernel_rfl) (by kernel_rfl) (by kernel_rfl) (by kernel_rfl) (by kernel_rfl) (by kernel_rfl) (by kernel_rfl) (by kernel_rfl) (by kernel_rfl) ⟨by kernel_rfl,by kernel_rfl,by kernel_rfl⟩
def TF:TI:=⟨16,128,.array 16 3,List.replicate 16 (.int 0),some (.arr 16 .int)⟩
theorem ahh:aV Tryz.prog 174 TF:=af (by kernel_rfl) (by kernel_rfl) (by kernel_rfl) (by kernel_rfl) (by kernel_rfl) (by kernel_rfl) (by kernel_rfl) (by kernel_rfl) (by kernel_rfl) (by kernel_rfl) (by kernel_rfl) ⟨by kernel_rfl,by kernel_rfl,by kernel_rfl⟩
def TC:TI:=⟨160,1280,.array 10 174,List.replicate 160 (.int 0),some (.arr 10 (.arr 16 .int))⟩
theorem ahg:aV Tryz.prog 175 TC:=af (by kernel_rfl) (by kernel_rfl) (by kernel_rfl) (by kernel_rfl) (by kernel_rfl) (by kernel_rfl) (by kernel_rfl) (by kernel_rfl) (by kernel_rfl) (by kernel_rfl) (by kernel_rfl) ⟨by kernel_rfl,by kernel_rfl,by kernel_rfl⟩
def TB:TI:=⟨1,8,.other,[.bB],none⟩
theorem ahf:aV Tryz.prog 176 TB:=af (by kernel_rfl) (by kernel_rfl) (by kernel_rfl) (by kernel_rfl) (by kernel_rfl) (by kernel_rfl) (by kernel_rfl) (by kernel_rfl) (by kernel_rfl) (by kernel_rfl) (by kernel_rfl) trivial
def TA:TI:=⟨1,8,.other,[.bB],none⟩
theorem ahe:aV Tryz.prog 177 TA:=af (by kernel_rfl) (by kernel_rfl) (by kernel_rfl) (by kernel_rfl) (by kernel_rfl) (by kernel_rfl) (by kernel_rfl) (by kernel_rfl) (by kernel_rfl) (by kernel_rfl) (by kernel_rfl) trivial
def Tz:TI:=⟨1,24,.slice 3,[.emp],some (.list .int)⟩
theorem ahd:aV Tryz.prog 178 Tz:=af (by kernel_rfl) (by kernel_rfl) (by kernel_rfl) (by kernel_rfl) (by kernel_rfl) (by kernel_rfl) (by kernel_rfl) (by kernel_rfl) (by kernel_rfl) (by kernel_rfl) (by kernel_rfl) ⟨by kernel_rfl,by kernel_rfl,by kernel_rfl⟩
def Tx:TI:=⟨1,8,.other,[.bB],none⟩
theorem ahc:aV Tryz.prog 179 Tx:=af (by kernel_rfl) (by kernel_rfl) (by kernel_rfl) (by kernel_rfl) (by kernel_rfl) (by kernel_rfl) (by kernel_rfl) (by kernel_rfl) (by kernel_rfl) (by kernel_rfl) (by kernel_rfl) trivial
def Tw:TI:=⟨1,8,.other,[.bB],none⟩
theorem ahb:aV Tryz.prog 180 Tw:=af (by kernel_rfl) (by kernel_rfl) (by kernel_rfl) (by kernel_rfl) (by kernel_rfl) (by kernel_rfl) (by kernel_rfl) (by kernel_rfl) (by kernel_rfl) (by kernel_rfl) (by kernel_rfl) trivial
def Tv:TI:=⟨1,8,.other,[.bB],none⟩
theorem aha:aV Tryz.prog 181 Tv:=af (by kernel_rfl) (by kernel_rfl) (by kernel_rfl) (by kernel_rfl) (by kernel_rfl) (by kernel_rfl) (by kernel_rfl) (by kernel_rfl) (by kernel_rfl) (by kernel_rfl) (by kernel_rfl) trivial
def Tu:TI:=⟨128,128,.array 128 5,List.replicate 128 (.u8 0),some (.arr 128 .u8)⟩
theorem ag9:aV Tryz.prog 182 Tu:=af (by kernel_rfl) (by kernel_rfl) (by kernel_rfl) (by kernel_rfl) (by kernel_rfl) (by kernel_rfl) (by kernel_rfl) (by kernel_rfl) (by kernel_rfl) (by kernel_rfl) (by kernel_rfl) ⟨by kernel_rfl,by kernel_rfl,by kernel_rfl⟩
def Tt:TI:=⟨8,64,.array 2 41,[.u64 0,.u64 0,.u64 0,.u64 0,.u64 0,.u64 0,.u64 0,.u64 0],some (.arr 2 .elem)⟩
theorem ag8:aV Tryz.prog 183 Tt:=af (by kernel_rfl) (by kernel_rfl) (by kernel_rfl) (by kernel_rfl) (by kernel_rfl) (by kernel_rfl) (by kernel_rfl) (by kernel_rfl) (by kernel_rfl) (by kernel_rfl) (by kernel_rfl) ⟨by kernel_rfl,by kernel_rfl,by kernel_rfl⟩
def Tq:TI:=⟨1,8,.other,[.bB],none⟩
theorem ag7:aV Tryz.prog 185 Tq:=af (by kernel_rfl) (by kernel_rfl) (by kernel_rfl) (by kernel_rfl) (by kernel_rfl) (by kernel_rfl) (by kernel_rfl) (by kernel_rfl) (by kernel_rfl) (by kernel_rfl) (by kernel_rfl) trivial
def Tp:TI:=⟨2,32,.struct [(0,3),(1,113)],[.int 0,.emp],some (.prod .int (.list (.prod .elem (.prod .elem (.prod .elem .bool)))))⟩
theorem ag6:aV Tryz.prog 186 Tp:=af (by kernel_rfl) (by kernel_rfl) (by kernel_rfl) (by kernel_rfl) (by kernel_rfl) (by kernel_rfl) (by kernel_rfl) (by kernel_rfl) (by kernel_rfl) (by kernel_rfl) (by kernel_rfl) ⟨by kernel_rfl,by kernel_rfl,by kernel_rfl⟩
def To:TI:=⟨2,32,.struct [(0,3),(1,113)],[.int 0,.emp],some (.prod .int (.list (.prod .elem (.prod .elem (.prod .elem .bool)))))⟩
theorem ag5:aV Tryz.prog 187 To:=af (by kernel_rfl) (by kernel_rfl) (by kernel_rfl) (by kernel_rfl) (by kernel_rfl) (by kernel_rfl) (by kernel_rfl) (by kernel_rfl) (by kernel_rfl) (by kernel_rfl) (by kernel_rfl) ⟨by kernel_rfl,by kernel_rfl,by kernel_rfl⟩
def Tn:TI:=⟨6,48,.array 6 39,[.u64 0,.u64 0,.u64 0,.u64 0,.u64 0,.u64 0],some (.arr 6 .u64)⟩
theorem ag4:aV Tryz.prog 188 Tn:=af (by kernel_rfl) (by kernel_rfl) (by kernel_rfl) (by kernel_rfl) (by kernel_rfl) (by kernel_rfl) (by kernel_rfl) (by kernel_rfl) (by kernel_rfl) (by kernel_rfl) (by kernel_rfl) ⟨by kernel_rfl,by kernel_rfl,by kernel_rfl⟩
def Tl:TI:=⟨1,8,.other,[.bB],none⟩
theorem ag3:aV Tryz.prog 189 Tl:=af (by kernel_rfl) (by kernel_rfl) (by kernel_rfl) (by kernel_rfl) (by kernel_rfl) (by kernel_rfl) (by kernel_rfl) (by kernel_rfl) (by kernel_rfl) (by kernel_rfl) (by kernel_rfl) trivial
def Tk:TI:=⟨1,24,.slice 39,[.emp],some (.list .u64)⟩
theorem ag2:aV Tryz.prog 190 Tk:=af (by kernel_rfl) (by kernel_rfl) (by kernel_rfl) (by kernel_rfl) (by kernel_rfl) (by kernel_rfl) (by kernel_rfl) (by kernel_rfl) (by kernel_rfl) (by kernel_rfl) (by kernel_rfl) ⟨by kernel_rfl,by kernel_rfl,by kernel_rfl⟩
def Tj:TI:=⟨1,16,.iface,[.dA],none⟩
theorem ag1:aV Tryz.prog 191 Tj:=af (by kernel_rfl) (by kernel_rfl) (by kernel_rfl) (by kernel_rfl) (by kernel_rfl) (by kernel_rfl) (by kernel_rfl) (by kernel_rfl) (by kernel_rfl) (by kernel_rfl) (by kernel_rfl) trivial
def Ti:TI:=⟨1,16,.iface,[.dA],none⟩
theorem ag0:aV Tryz.prog 192 Ti:=af (by kernel_rfl) (by kernel_rfl) (by kernel_rfl) (by kernel_rfl) (by kernel_rfl) (by kernel_rfl) (by kernel_rfl) (by kernel_rfl) (by kernel_rfl) (by kernel_rfl) (by kernel_rfl) trivial
def Th:TI:=⟨1,8,.other,[.bB],none⟩
theorem agZ:aV Tryz.prog 193 Th:=af (by kernel_rfl) (by kernel_rfl) (by kernel_rfl) (by kernel_rfl) (by kernel_rfl) (by kernel_rfl) (by kernel_rfl) (by kernel_rfl) (by kernel_rfl) (by kernel_rfl) (by kernel_rfl) trivial
def Tg:TI:=⟨4,32,.array 4 3,[.int 0,.int 0,.int 0,.int 0],some (.arr 4 .int)⟩
theorem agY:aV Tryz.prog 194 Tg:=af (by kernel_rfl) (by kernel_rfl) (by kernel_rfl) (by kernel_rfl) (by kernel_rfl) (by kernel_rfl) (by kernel_rfl) (by kernel_rfl) (by kernel_rfl) (by kernel_rfl) (by kernel_rfl) ⟨by kernel_rfl,by kernel_rfl,by kernel_rfl⟩
def Tf:TI:=⟨1,8,.other,[.bB],none⟩
theorem agX:aV Tryz.prog 195 Tf:=af (by kernel_rfl) (by kernel_rfl) (by kernel_rfl) (by kernel_rfl) (by kernel_rfl) (by kernel_rfl) (by kernel_rfl) (by kernel_rfl) (by kernel_rfl) (by kernel_rfl) (by kernel_rfl) trivial
def Te:TI:=⟨16,128,.array 16 39,List.replicate 16 (.u64 0),some (.arr 16 .u64)⟩
theorem agW:aV Tryz.prog 196 Te:=af (by kernel_rfl) (by kernel_rfl) (by kernel_rfl) (by kernel_rfl) (by kernel_rfl) (by kernel_rfl) (by kernel_rfl) (by kernel_rfl) (by kernel_rfl) (by kernel_rfl) (by kernel_rfl) ⟨by kernel_rfl,by kernel_rfl,by kernel_rfl⟩
def Td:TI:=⟨10,160,.array 10 9,List.replicate 10 (.str []),some (.arr 10 .str)⟩
theorem agV:aV Tryz.prog 197 Td:=af (by kernel_rfl) (by kernel_rfl) (by kernel_rfl) (by kernel_rfl) (by kernel_rfl) (by kernel_rfl) (by kernel_rfl) (by kernel_rfl) (by kernel_rfl) (by kernel_rfl) (by kernel_rfl) ⟨by kernel_rfl,by kernel_rfl,by kernel_rfl⟩
def Tc:TI:=⟨1,8,.other,[.bB],none⟩
theorem agU:aV Tryz.prog 198 Tc:=af (by kernel_rfl) (by kernel_rfl) (by kernel_rfl) (by kernel_rfl) (by kernel_rfl) (by kernel_rfl) (by kernel_rfl) (by kernel_rfl) (by kernel_rfl) (by kernel_rfl) (by kernel_rfl) trivial
def Tb:TI:=⟨1,8,.other,[.bB],none⟩
theorem agT:aV Tryz.prog 199 Tb:=af (by kernel_rfl) (by kernel_rfl) (by kernel_rfl) (by kernel_rfl) (by kernel_rfl) (by kernel_rfl) (by kernel_rfl) (by kernel_rfl) (by kernel_rfl) (by kernel_rfl) (by kernel_rfl) trivial
def Ta:TI:=⟨1,8,.other,[.bB],none⟩
theorem agS:aV Tryz.prog 200 Ta:=af (by kernel_rfl) (by kernel_rfl) (by kernel_rfl) (by kernel_rfl) (by kernel_rfl) (by kernel_rfl) (by kernel_rfl) (by kernel_rfl) (by kernel_rfl) (by kernel_rfl) (by kernel_rfl) trivial
def S9:TI:=⟨1,8,.other,[.bB],none⟩
theorem agR:aV Tryz.prog 201 S9:=af (by kernel_rfl) (by kernel_rfl) (by kernel_rfl) (by kernel_rfl) (by kernel_rfl) (by kernel_rfl) (by kernel_rfl) (by kernel_rfl) (by kernel_rfl) (by kernel_rfl) (by kernel_rfl) trivial
def S8:TI:=⟨1,8,.other,[.bB],none⟩
theorem agQ:aV Tryz.prog 202 S8:=af (by kernel_rfl) (by kernel_rfl) (by kernel_rfl) (by kernel_rfl) (by kernel_rfl) (by kernel_rfl) (by kernel_rfl) (by kernel_rfl) (by kernel_rfl) (by kernel_rfl) (by kernel_rfl) trivial
def S7:TI:=⟨1,8,.other,[.bB],none⟩
theorem agP:aV Tryz.prog 203 S7:=af (by kernel_rfl) (by kernel_rfl) (by kernel_rfl) (by kernel_rfl) (by kernel_rfl) (by kernel_rfl) (by kernel_rfl) (by kernel_rfl) (by kernel_rfl) (by kernel_rfl) (by kernel_rfl) trivial
def S6:TI:=⟨1,8,.ptr [("sigil/blake.mix",159)],[.nq],none⟩
theorem agO:aV Tryz.prog 204 S6:=af (by kernel_rfl) (by kernel_rfl) (by kernel_rfl) (by kernel_rfl) (by kernel_rfl) (by kernel_rfl) (by kernel_rfl) (by kernel_rfl) (by kernel_rfl) (by kernel_rfl) (by kernel_rfl) trivial
def S5:TI:=⟨1,8,.other,[.bB],none⟩
theorem agN:aV Tryz.prog 205 S5:=af (by kernel_rfl) (by kernel_rfl) (by kernel_rfl) (by kernel_rfl) (by kernel_rfl) (by kernel_rfl) (by kernel_rfl) (by kernel_rfl) (by kernel_rfl) (by kernel_rfl) (by kernel_rfl) trivial
def S4:TI:=⟨1,8,.other,[.bB],none⟩
theorem agM:aV Tryz.prog 206 S4:=af (by kernel_rfl) (by kernel_rfl) (by kernel_rfl) (by kernel_rfl) (by kernel_rfl) (by kernel_rfl) (by kernel_rfl) (by kernel_rfl) (by kernel_rfl) (by kernel_rfl) (by kernel_rfl) trivial
def S3:TI:=⟨1,8,.other,[.bB],none⟩
theorem agL:aV Tryz.prog 207 S3:=af (by kernel_rfl) (by kernel_rfl) (by kernel_rfl) (by kernel_rfl) (by kernel_rfl) (by kernel_rfl) (by kernel_rfl) (by kernel_rfl) (by kernel_rfl) (by kernel_rfl) (by kernel_rfl) trivial
def S2:TI:=⟨135,1080,.array 15 43,(([.u64 0,.u64 0,.u64 0,.u64 0,.u64 0,.u64 0,.u64 0,.u64 0,.bool false,.u64 0,.u64 0,.u64 0,.u64 0,.u64 0,.u64 0,.u64 0,.u64 0,.bool false,.u64 0,.u64 0,.u64 0,.u64 0,.u64 0,.u64 0,.u64 0,.u64 0,.bool false,.u64 0,.u64 0,.u64 0,.u64 0,.u64 0,.u64 0,.u64 0,.u64 0,.bool false,.u64 0,.u64 0,.u64 0,.u64 0,.u64 0,.u64 0,.u64 0,.u64 0,.bool false,.u64 0,.u64 0,.u64 0,.u64 0,.u64 0]:List SV)++([.u64 0,.u64 0,.u64 0,.bool false,.u64 0,.u64 0,.u64 0,.u64 0,.u64 0,.u64 0,.u64 0,.u64 0,.bool false,.u64 0,.u64 0,.u64 0,.u64 0,.u64 0,.u64 0,.u64 0,.u64 0,.bool false,.u64 0,.u64 0,.u64 0,.u64 0,.u64 0,.u64 0,.u64 0,.u64 0,.bool false,.u64 0,.u64 0,.u64 0,.u64 0,.u64 0,.u64 0,.u64 0,.u64 0,.bool false,.u64 0,.u64 0,.u64 0,.u64 0,.u64 0,.u64 0,.u64 0,.u64 0,.bool false,.u64 0]:List SV)++([.u64 0,.u64 0,.u64 0,.u64 0,.u64 0,.u64 0,.u64 0,.bool false,.u64 0,.u64 0,.u64 0,.u64 0,.u64 0,.u64 0,.u64 0,.u64 0,.bool false,.u64 0,.u64 0,.u64 0,.u64 0,.u64 0,.u64 0,.u64 0,.u64 0,.bool false,.u64 0,.u64 0,.u64 0,.u64 0,.u64 0,.u64 0,.u64 0,.u64 0,.bool false]:List SV)),some (.arr 15 (.prod .elem (.prod .elem .bool)))⟩
theorem agK:aV Tryz.prog 208 S2:=af (by kernel_rfl) (by kernel_rfl) (by kernel_rfl) (by kernel_rfl) (by kernel_rfl) (by kernel_rfl) (by kernel_rfl) (by kernel_rfl) (by kernel_rfl) (by kernel_rfl) (by kernel_rfl) ⟨by kernel_rfl,by kernel_rfl,by kernel_rfl⟩
def S1:TI:=⟨1,8,.other,[.bB],none⟩
theorem agJ:aV Tryz.prog 209 S1:=af (by kernel_rfl) (by kernel_rfl) (by kernel_rfl) (by kernel_rfl) (by kernel_rfl) (by kernel_rfl) (by kernel_rfl) (by kernel_rfl) (by kernel_rfl) (by kernel_rfl) (by kernel_rfl) trivial
def SZ:TI:=⟨1,8,.ptr [("Error",197)],[.nq],none⟩
theorem agI:aV Tryz.prog 210 SZ:=af (by kernel_rfl) (by kernel_rfl) (by kernel_rfl) (by kernel_rfl) (by kernel_rfl) (by kernel_rfl) (by kernel_rfl) (by kernel_rfl) (by kernel_rfl) (by kernel_rfl) (by kernel_rfl) trivial
def SY:TI:=⟨1,8,.other,[.bB],none⟩
theorem agH:aV Tryz.prog 211 SY:=af (by kernel_rfl) (by kernel_rfl) (by kernel_rfl) (by kernel_rfl) (by kernel_rfl) (by kernel_rfl) (by kernel_rfl) (by kernel_rfl) (by kernel_rfl) (by kernel_rfl) (by kernel_rfl) trivial
def SX:TI:=⟨0,0,.array 0 16,[],none⟩
theorem agG:aV Tryz.prog 214 SX:=af (by kernel_rfl) (by kernel_rfl) (by kernel_rfl) (by kernel_rfl) (by kernel_rfl) (by kernel_rfl) (by kernel_rfl) (by kernel_rfl) (by kernel_rfl) (by kernel_rfl) (by kernel_rfl) trivial
def SW:TI:=⟨1,4,.int .u32,[.bB],none⟩
theorem agF:aV Tryz.prog 217 SW:=af (by kernel_rfl) (by kernel_rfl) (by kernel_rfl) (by kernel_rfl) (by kernel_rfl) (by kernel_rfl) (by kernel_rfl) (by kernel_rfl) (by kernel_rfl) (by kernel_rfl) (by kernel_rfl) trivial
def SU:TI:=⟨1,1,.int .u8,[.u8 0],some .u8⟩
theorem agE:aV Tryz.prog 218 SU:=af (by kernel_rfl) (by kernel_rfl) (by kernel_rfl) (by kernel_rfl) (by kernel_rfl) (by kernel_rfl) (by kernel_rfl) (by kernel_rfl) (by kernel_rfl) (by kernel_rfl) (by kernel_rfl) ⟨by kernel_rfl,by kernel_rfl,by kernel_rfl⟩
def SS:TI:=⟨1,1,.int .u8,[.u8 0],some .u8⟩
theorem agD:aV Tryz.prog 219 SS:=af (by kernel_rfl) (by kernel_rfl) (by kernel_rfl) (by kernel_rfl) (by kernel_rfl) (by kernel_rfl) (by kernel_rfl) (by kernel_rfl) (by kernel_rfl) (by kernel_rfl) (by kernel_rfl) ⟨by kernel_rfl,by kernel_rfl,by kernel_rfl⟩
def SR:TI:=⟨1,8,.other,[.bB],none⟩
theorem agC:aV Tryz.prog 220 SR:=af (by kernel_rfl) (by kernel_rfl) (by kernel_rfl) (by kernel_rfl) (by kernel_rfl) (by kernel_rfl) (by kernel_rfl) (by kernel_rfl) (by kernel_rfl) (by kernel_rfl) (by kernel_rfl) trivial
def SQ:TI:=⟨1,8,.ptr [],[.nq],none⟩
theorem agB:aV Tryz.prog 221 SQ:=af (by kernel_rfl) (by kernel_rfl) (by kernel_rfl) (by kernel_rfl) (by kernel_rfl) (by kernel_rfl) (by kernel_rfl) (by kernel_rfl) (by kernel_rfl) (by kernel_rfl) (by kernel_rfl) trivial
def SP:TI:=⟨1,4,.int .i32,[.bB],none⟩
theorem agA:aV Tryz.prog 222 SP:=af (by kernel_rfl) (by kernel_rfl) (by kernel_rfl) (by kernel_rfl) (by kernel_rfl) (by kernel_rfl) (by kernel_rfl) (by kernel_rfl) (by kernel_rfl) (by kernel_rfl) (by kernel_rfl) trivial
def SO:TI:=⟨1,4,.int .i32,[.bB],none⟩
theorem agz:aV Tryz.prog 223 SO:=af (by kernel_rfl) (by kernel_rfl) (by kernel_rfl) (by kernel_rfl) (by kernel_rfl) (by kernel_rfl) (by kernel_rfl) (by kernel_rfl) (by kernel_rfl) (by kernel_rfl) (by kernel_rfl) trivial
def SN:TI:=⟨1,8,.ptr [("Next",193)],[.nq],none⟩
theorem agy:aV Tryz.prog 226 SN:=af (by kernel_rfl) (by kernel_rfl) (by kernel_rfl) (by kernel_rfl) (by kernel_rfl) (by kernel_rfl) (by kernel_rfl) (by kernel_rfl) (by kernel_rfl) (by kernel_rfl) (by kernel_rfl) trivial
def SM:TI:=⟨1,16,.struct [(0,9)],[.str []],some .str⟩
theorem agx:aV Tryz.prog 227 SM:=af (by kernel_rfl) (by kernel_rfl) (by kernel_rfl) (by kernel_rfl) (by kernel_rfl) (by kernel_rfl) (by kernel_rfl) (by kernel_rfl) (by kernel_rfl) (by kernel_rfl) (by kernel_rfl) ⟨by kernel_rfl,by kernel_rfl,by kernel_rfl⟩
def SL:TI:=⟨1,16,.struct [(0,9)],[.str []],some .str⟩
theorem agw:aV Tryz.prog 228 SL:=af (by kernel_rfl) (by kernel_rfl) (by kernel_rfl) (by kernel_rfl) (by kernel_rfl) (by kernel_rfl) (by kernel_rfl) (by kernel_rfl) (by kernel_rfl) (by kernel_rfl) (by kernel_rfl) ⟨by kernel_rfl,by kernel_rfl,by kernel_rfl⟩
def SK:TI:=⟨1,8,.other,[.nq],none⟩
theorem agv:aV Tryz.prog 229 SK:=af (by kernel_rfl) (by kernel_rfl) (by kernel_rfl) (by kernel_rfl) (by kernel_rfl) (by kernel_rfl) (by kernel_rfl) (by kernel_rfl) (by kernel_rfl) (by kernel_rfl) (by kernel_rfl) trivial
def te:TE:=(aj 1 akK (aj 2 akJ (aj 3 akI (aj 4 akH (aj 5 akG (aj 6 akF (aj 7 akE (aj 8 akD (aj 9 akC (aj 10 ab1 (aj 11 ab0 (aj 12 abZ (aj 15 abY (aj 16 abX (aj 17 abW (aj 20 abV (aj 21 abU (aj 22 abT (aj 23 abS (aj 24 abR (aj 25 abQ (aj 26 abP (aj 27 abO (aj 28 abN (aj 29 abM (aj 30 abL (aj 32 abK (aj 33 abJ (aj 34 abI (aj 35 abH (aj 37 abG (aj 38 abF (aj 39 abE (aj 40 abD (aj 41 abC (aj 42 abB (aj 43 HH (aj 44 abA (aj 45 abz (aj 46 aby (aj 47 abx (aj 48 abw (aj 49 abv (aj 50 abu (aj 51 abt (aj 52 abr (aj 53 abq (aj 55 abp (aj 57 abo (aj 59 abn (aj 61 abm (aj 62 abl (aj 63 abk (aj 64 abj (aj 65 abi (aj 66 abh (aj 67 OU (aj 68 abg (aj 69 abf (aj 71 abe (aj 72 abd (aj 73 abc (aj 74 abb (aj 75 aba (aj 76 aa9 (aj 77 aa8 (aj 78 aa7 (aj 79 aa6 (aj 80 aa5 (aj 81 aa4 (aj 82 aa3 (aj 83 aa2 (aj 84 aa1 (aj 85 aa0 (aj 86 aaZ (aj 87 aaY (aj 89 aaX (aj 90 aaW (aj 91 aaV (aj 92 aaU (aj 94 aaT (aj 95 aaS (aj 96 aaR (aj 97 aaQ (aj 98 aaP (aj 99 aaO (aj 100 UN (aj 101 UM (aj 102 UL (aj 103 UK (aj 105 UJ (aj 106 UI (aj 107 UH (aj 108 UG (aj 109 UF (aj 110 UE (aj 111 UD (aj 112 UC (aj 113 UB (aj 114 UA (aj 115 Uz (aj 116 Uy (aj 117 Ux (aj 119 Uw (aj 120 Uv (aj 121 Uu (aj 122 Ut (aj 123 Us (aj 124 Ur (aj 125 Uq (aj 126 Up (aj 127 Uo (aj 128 Un (aj 129 Um (aj 131 Ul (aj 132 Uk (aj 133 Uj (aj 134 Ui (aj 135 Uh (aj 136 Ug (aj 137 Uf (aj 138 Ue (aj 140 Ud (aj 141 Uc (aj 142 Ub (aj 143 Ua (aj 144 T9 (aj 145 T8 (aj 146 T7 (aj 147 T6 (aj 148 T5 (aj 149 T4 (aj 150 T3 (aj 151 T0 (aj 152 TZ (aj 153 TY (aj 154 TX (aj 155 TW (aj 156 TV (aj 158 TU (aj 159 TT (aj 160 TS (aj 161 TR (aj 162 TQ (aj 163 TP (aj 164 TO (aj 165 TN (aj 166 TM (aj 168 TL (aj 170 TK (aj 171 TJ (aj 172 TH (aj 173 TG (aj 174 TF (aj 175 TC (aj 176 TB (aj 177 TA (aj 178 Tz (aj 179 Tx (aj 180 Tw (aj 181 Tv (aj 182 Tu (aj 183 Tt (aj 185 Tq (aj 186 Tp (aj 187 To (aj 188 Tn (aj 189 Tl (aj 190 Tk (aj 191 Tj (aj 192 Ti (aj 193 Th (aj 194 Tg (aj 195 Tf (aj 196 Te (aj 197 Td (aj 198 Tc (aj 199 Tb (aj 200 Ta (aj 201 S9 (aj 202 S8 (aj 203 S7 (aj 204 S6 (aj 205 S5 (aj 206 S4 (aj 207 S3 (aj 208 S2 (aj 209 S1 (aj 210 SZ (aj 211 SY (aj 214 SX (aj 217 SW (aj 218 SU (aj 219 SS (aj 220 SR (aj 221 SQ (aj 222 SP (aj 223 SO (aj 226 SN (aj 227 SM (aj 228 SL (aj 229 SK apG))))))))))))))))))))))))))))))))))))))))))))))))))))))))))))))))))))))))))))))))))))))))))))))))))))))))))))))))))))))))))))))))))))))))))))))))))))))))))))))))))))))))))))))))))))))))))))))))))))))))))
theorem au:kN Tryz.prog te:=(ab apF (ab apE (ab apD (ab apC (ab apB (ab apA (ab apz (ab apy (ab apx (ab am0 (ab amZ (ab amY (ab amX (ab amW (ab amV (ab amU (ab amT (ab amS (ab amR (ab amQ (ab amP (ab amO (ab amN (ab amM (ab amL (ab amK (ab amJ (ab amI (ab amH (ab amG (ab amF (ab amE (ab amD (ab amC (ab amB (ab amA (ab amz (ab amy (ab amx (ab amw (ab amv (ab amu (ab amt (ab ams (ab amr (ab amq (ab amp (ab amo (ab amn (ab amm (ab aml (ab amk (ab amj (ab ami (ab amh (ab amg (ab amf (ab ame (ab amd (ab amc (ab amb (ab ama (ab al9 (ab al8 (ab al7 (ab al6 (ab al5 (ab al4 (ab al3 (ab al2 (ab al1 (ab al0 (ab alZ (ab alY (ab alX (ab alW (ab alV (ab alU (ab alT (ab alS (ab alR (ab alQ (ab alP (ab alO (ab alN (ab alM (ab ain (ab aim (ab ail (ab aik (ab aij (ab aii (ab aih (ab aif (ab aie (ab aid (ab aic (ab aib (ab aia (ab ah9 (ab ah8 (ab ah7 (ab ah6 (ab ah5 (ab ah4 (ab ah3 (ab ah2 (ab ah1 (ab ah0 (ab ahZ (ab ahY (ab ahX (ab ahW (ab ahV (ab ahU (ab ahT (ab ahS (ab ahR (ab ahQ (ab ahP (ab ahO (ab ahN (ab ahM (ab ahL (ab ahK (ab ahJ (ab ahI (ab ahH (ab ahG (ab ahF (ab ahE (ab ahD (ab ahC (ab ahB (ab ahA (ab ahz (ab ahy (ab ahx (ab ahw (ab ahv (ab ahu (ab aht (ab ahs (ab ahr (ab ahq (ab ahp (ab aho (ab ahn (ab ahm (ab ahl (ab ahk (ab ahj (ab ahi (ab ahh (ab ahg (ab ahf (ab ahe (ab ahd (ab ahc (ab ahb (ab aha (ab ag9 (ab ag8 (ab ag7 (ab ag6 (ab ag5 (ab ag4 (ab ag3 (ab ag2 (ab ag1 (ab ag0 (ab agZ (ab agY (ab agX (ab agW (ab agV (ab agU (ab agT (ab agS (ab agR (ab agQ (ab agP (ab agO (ab agN (ab agM (ab agL (ab agK (ab agJ (ab agI (ab agH (ab agG (ab agF (ab agE (ab agD (ab agC (ab agB (ab agA (ab agz (ab agy (ab agx (ab agw (ab agv aio))))))))))))))))))))))))))))))))))))))))))))))))))))))))))))))))))))))))))))))))))))))))))))))))))))))))))))))))))))))))))))))))))))))))))))))))))))))))))))))))))))))))))))))))))))))))))))))))))))))))))
theorem follows:Tryz.prog.follows .mixedOrders=true:=by kernel_rfl
def E0:Env:=ae9
theorem arN:aW Tryz.prog E0:=ae8
theorem ao3:aw E0:=Rp
end Go.Proofs.YtohjofabochgfaaGreat

namespace Go.Proofs.YtohjofabochgfaaGreat
open Sx Go
def Sx.aa.nat (e:aa):Nat:=e.w0.toNat+18446744073709551616*(e.w1.toNat+18446744073709551616*(e.w2.toNat+18446744073709551616*e.w3.toNat))
def ofN (n:Nat):aa:=⟨UInt64.ofNat n,UInt64.ofNat (n/18446744073709551616),UInt64.ofNat (n/18446744073709551616/18446744073709551616),UInt64.ofNat (n/18446744073709551616/18446744073709551616/18446744073709551616)⟩
def qY (x y c:UInt64):UInt64:=UInt64.ofNat ((x.toNat+y.toNat+c.toNat)%18446744073709551616)
def tf (x y c:UInt64):UInt64:=UInt64.ofNat ((x.toNat+y.toNat+c.toNat)/18446744073709551616)
def mr (x y c:UInt64):UInt64:=UInt64.ofNat ((x.toNat+18446744073709551616-y.toNat-c.toNat)%18446744073709551616)
def Kr (x y c:UInt64):UInt64:=UInt64.ofNat (if x.toNat<y.toNat+c.toNat then 1 else 0)
def agm (x y:UInt64):UInt64:=UInt64.ofNat (x.toNat*y.toNat/18446744073709551616)
theorem fT (x:UInt64) (k:Nat) (hk:k<64):(bu x (k:Int)).toNat=x.toNat/2^k:=by
 unfold bu
 rw [if_pos (by omega),UInt64.toNat_shiftRight,UInt64.toNat_ofNat',Int.toNat_natCast,Nat.shiftRight_eq_div_pow]
 congr 2
 omega
theorem lf (x:UInt64) (k:Nat) (hk:k<64):(cC x (k:Int)).toNat=x.toNat*2^k%2^64:=by
 unfold cC
 rw [if_pos (by omega),UInt64.toNat_shiftLeft,UInt64.toNat_ofNat',Int.toNat_natCast,Nat.shiftLeft_eq]
 congr 3
 omega
theorem ii (x:UInt64):(x&&&4294967295).toNat=x.toNat%4294967296:=by
 rw [UInt64.toNat_and]
 exact Nat.and_two_pow_sub_one_eq_mod x.toNat 32
theorem apZ (a b:UInt64):bu a 32*bu b 32+bu (bu a 32*(b&&&4294967295)+bu ((a&&&4294967295)*(b&&&4294967295)) 32) 32+
 bu (((bu a 32*(b&&&4294967295)+bu ((a&&&4294967295)*(b&&&4294967295)) 32)&&&4294967295)+(a&&&4294967295)*bu b 32) 32=agm a b:=by
 have ha:=a.toNat_lt
 have hb:=b.toNat_lt
 obtain ⟨h1,h2,h3,h4⟩:=Lib.mul64_hi a.toNat b.toNat ha hb
 have s32:∀ x:UInt64,(bu x 32).toNat=x.toNat/4294967296:=λx=>fT x 32 (by omega)
 have hx:=Lib.half_mul_le (a:=a.toNat/4294967296) (b:=b.toNat/4294967296) (by omega) (by omega)
 have hy:=Lib.half_mul_le (a:=a.toNat/4294967296) (b:=b.toNat%4294967296) (by omega) (by omega)
 have hz:=Lib.half_mul_le (a:=a.toNat%4294967296) (b:=b.toNat/4294967296) (by omega) (by omega)
 have e0:((a&&&4294967295)*(b&&&4294967295)).toNat=a.toNat%4294967296*(b.toNat%4294967296):=by
  rw [UInt64.toNat_mul,ii,ii,Nat.mod_eq_of_lt h1]
 have e1:(bu a 32*(b&&&4294967295)+bu ((a&&&4294967295)*(b&&&4294967295)) 32).toNat=a.toNat/4294967296*(b.toNat%4294967296)+a.toNat%4294967296*(b.toNat%4294967296)/4294967296:=by
  rw [UInt64.toNat_add,UInt64.toNat_mul,s32,s32,ii,e0,Nat.mod_eq_of_lt (a:=a.toNat/4294967296*(b.toNat%4294967296)) (by omega),Nat.mod_eq_of_lt h2]
 have e2:(((bu a 32*(b&&&4294967295)+bu ((a&&&4294967295)*(b&&&4294967295)) 32)&&&4294967295)+(a&&&4294967295)*bu b 32).toNat=
  (a.toNat/4294967296*(b.toNat%4294967296)+a.toNat%4294967296*(b.toNat%4294967296)/4294967296)%4294967296+a.toNat%4294967296*(b.toNat/4294967296):=by
  rw [UInt64.toNat_add,UInt64.toNat_mul,ii,ii,s32,e1,Nat.mod_eq_of_lt (a:=a.toNat%4294967296*(b.toNat/4294967296)) (by omega),Nat.mod_eq_of_lt h3]
 have hq:a.toNat*b.toNat/18446744073709551616<18446744073709551616:=by
  rw [Nat.div_lt_iff_lt_mul (by omega)]
  exact Nat.mul_lt_mul'' ha hb
 rw [<-UInt64.toNat_inj,UInt64.toNat_add,UInt64.toNat_add,UInt64.toNat_mul,s32,s32,s32,s32,e1,e2]
 have e3:(agm a b).toNat=a.toNat*b.toNat/18446744073709551616:=by
  unfold agm
  rw [UInt64.toNat_ofNat',Nat.mod_eq_of_lt hq]
 rw [e3,<-h4]
 rw [<-h4] at hq
 omega
def aph (h l y:UInt64):UInt64:=UInt64.ofNat ((h.toNat*18446744073709551616+l.toNat)/y.toNat)
def Nj (h l y:UInt64):UInt64:=UInt64.ofNat ((h.toNat*18446744073709551616+l.toNat)%y.toNat)
theorem aj9 {m A B N:Nat} (hm:0<m) (e:N=A+m*B):N/m=B+A/m/\N%m=A%m:=by
 subst e
 exact ⟨by rw [Nat.add_mul_div_left _ _ hm,Nat.add_comm],Nat.add_mul_mod_self_left ..⟩
theorem Jz {m N u t q r K L:Nat} (hm:0<m) (hL:0<L) (hu:N=u*K+t) (hq:u=q*(m*L)+r):
 N/m=q*(L*K)+((r*K+t)*L)/(m*L)/\N%m=((r*K+t)*L)%(m*L)/L:=by
 have e:N=(r*K+t)+m*(q*(L*K)):=by
  have h1:q*(m*L)*K=m*(q*(L*K)):=by
   rw [Nat.mul_assoc q,Nat.mul_assoc m,Nat.mul_left_comm m q]
  rw [hu,hq,Nat.add_mul,h1]
  omega
 obtain ⟨h1,h2⟩:=aj9 hm e
 rw [h1,h2,Nat.mul_div_mul_right _ _ hL,Nat.mul_mod_mul_right,Nat.mul_div_cancel _ hL]
 exact ⟨rfl,rfl⟩
theorem ki (x y c:UInt64):x.toNat+y.toNat+c.toNat=(qY x y c).toNat+18446744073709551616*(tf x y c).toNat:=by
 have hx:=x.toNat_lt
 have hy:=y.toNat_lt
 have hc:=c.toNat_lt
 unfold qY tf
 rw [UInt64.toNat_ofNat',UInt64.toNat_ofNat',Nat.mod_eq_of_lt (b:=2^64) (by omega),Nat.mod_eq_of_lt (b:=2^64) (by omega)]
 omega
theorem ya {x y c:UInt64} (hc:c.toNat<=1):(tf x y c).toNat<=1:=by
 have hx:=x.toNat_lt
 have hy:=y.toNat_lt
 unfold tf
 rw [UInt64.toNat_ofNat',Nat.mod_eq_of_lt (by omega)]
 omega
theorem tr (x y c:UInt64):(Kr x y c).toNat=if x.toNat<y.toNat+c.toNat then 1 else 0:=by
 unfold Kr
 rw [UInt64.toNat_ofNat']
 split<;>rfl
theorem wb {x y c:UInt64}:(Kr x y c).toNat<=1:=by
 rw [tr]
 split<;>omega
theorem tt {x y c:UInt64} (hc:c.toNat<=1):x.toNat+18446744073709551616*(Kr x y c).toNat=(mr x y c).toNat+y.toNat+c.toNat:=by
 have hx:=x.toNat_lt
 have hy:=y.toNat_lt
 rw [tr]
 unfold mr
 rw [UInt64.toNat_ofNat',Nat.mod_eq_of_lt (b:=2^64) (by omega)]
 split<;>omega
theorem gv (e:aa):e.nat<115792089237316195423570985008687907853269984665640564039457584007913129639936:=by
 have h0:=e.w0.toNat_lt
 have h1:=e.w1.toNat_lt
 have h2:=e.w2.toNat_lt
 have h3:=e.w3.toNat_lt
 unfold Sx.aa.nat
 omega
theorem v7 {a b X Y:Nat} (ha:a<18446744073709551616) (hb:b<18446744073709551616) (h:a+18446744073709551616*X=b+18446744073709551616*Y):a=b/\X=Y:=by
 omega
theorem jP {e f:aa} (h:e.nat=f.nat):e=f:=by
 unfold Sx.aa.nat at h
 obtain ⟨h0,h⟩:=v7 e.w0.toNat_lt f.w0.toNat_lt h
 obtain ⟨h1,h⟩:=v7 e.w1.toNat_lt f.w1.toNat_lt h
 obtain ⟨h2,h3⟩:=v7 e.w2.toNat_lt f.w2.toNat_lt h
 obtain ⟨a,b,c,d⟩:=e
 obtain ⟨a',b',c',d'⟩:=f
 simp only at h0 h1 h2 h3
 rw [UInt64.toNat_inj.1 h0,UInt64.toNat_inj.1 h1,UInt64.toNat_inj.1 h2,UInt64.toNat_inj.1 h3]
theorem div_eq {n a b:Nat} (ha:a<18446744073709551616) (h:n=a+18446744073709551616*b):n/18446744073709551616=b/\n%18446744073709551616=a:=by
 omega
theorem adE {n:Nat} {a b c d:UInt64} {k:Nat} (h:n=a.toNat+18446744073709551616*(b.toNat+18446744073709551616*(c.toNat+18446744073709551616*(d.toNat+18446744073709551616*k)))):ofN n=⟨a,b,c,d⟩:=by
 obtain ⟨h1,h0⟩:=div_eq a.toNat_lt h
 obtain ⟨h2,h3⟩:=div_eq b.toNat_lt h1
 obtain ⟨h4,h5⟩:=div_eq c.toNat_lt h2
 have h6:n/18446744073709551616/18446744073709551616/18446744073709551616%18446744073709551616=d.toNat:=by
  rw [h4]
  have:=d.toNat_lt
  omega
 unfold ofN
 have e:∀ (m:Nat) (x:UInt64),m%18446744073709551616=x.toNat->UInt64.ofNat m=x:=λm x hm=>by
  rw [<-UInt64.toNat_inj,UInt64.toNat_ofNat']
  exact hm
 rw [e _ a h0,e _ b h3,e _ c h5,e _ d h6]
theorem Qp (n:Nat):(ofN n).nat=n%115792089237316195423570985008687907853269984665640564039457584007913129639936:=by
 unfold ofN aa.nat
 simp only [UInt64.toNat_ofNat']
 rw [show (2:Nat)^64=18446744073709551616 from rfl]
 omega
theorem gX {n:Nat} (h:n<115792089237316195423570985008687907853269984665640564039457584007913129639936):(ofN n).nat=n:=by
 rw [Qp]
 exact Nat.mod_eq_of_lt h
theorem qf (e:aa):ofN e.nat=e:=jP (gX (gv e))
def tg (a b:aa):aa×Bool:=(ofN (a.nat+b.nat),Nat.ble 115792089237316195423570985008687907853269984665640564039457584007913129639936 (a.nat+b.nat))
def kT (a b:aa):aa×Bool:=(ofN (a.nat+115792089237316195423570985008687907853269984665640564039457584007913129639936-b.nat),Nat.blt a.nat b.nat)
theorem J1 {x y c s k X Y R:Nat} (h1:x+y+c=s+18446744073709551616*k) (h2:X+Y+k=R):(x+18446744073709551616*X)+(y+18446744073709551616*Y)+c=s+18446744073709551616*R:=by
 omega
theorem HK {x y c s k X Y R Q:Nat} (h1:x+18446744073709551616*k=s+y+c) (h2:X+18446744073709551616*Q=R+Y+k):(x+18446744073709551616*X)+18446744073709551616*(18446744073709551616*Q)=s+18446744073709551616*R+(y+18446744073709551616*Y)+c:=by
 omega
theorem Fg (a b:aa):let k0:=tf a.w0 b.w0 0;let k1:=tf a.w1 b.w1 k0;let k2:=tf a.w2 b.w2 k1;let k3:=tf a.w3 b.w3 k2
 (k0.toNat<=1/\k1.toNat<=1/\k2.toNat<=1)/\tg a b=(⟨qY a.w0 b.w0 0,qY a.w1 b.w1 k0,qY a.w2 b.w2 k1,qY a.w3 b.w3 k2⟩,!(k3==0)):=by
 intro k0 k1 k2 k3
 have l0:k0.toNat<=1:=ya (by decide)
 have l1:k1.toNat<=1:=ya l0
 have l2:k2.toNat<=1:=ya l1
 have l3:k3.toNat<=1:=ya l2
 refine ⟨⟨l0,l1,l2⟩,?_⟩
 have h:=J1 (ki a.w0 b.w0 0) (J1 (ki a.w1 b.w1 k0) (J1 (ki a.w2 b.w2 k1) (ki a.w3 b.w3 k2)))
 rw [show (0:UInt64).toNat=0 from rfl,Nat.add_zero] at h
 unfold tg
 have hn:a.nat+b.nat=(qY a.w0 b.w0 0).toNat+18446744073709551616*((qY a.w1 b.w1 k0).toNat+18446744073709551616*((qY a.w2 b.w2 k1).toNat+18446744073709551616*((qY a.w3 b.w3 k2).toNat+18446744073709551616*k3.toNat))):=h
 rw [adE hn]
 congr 1
 have hs:=gv ⟨qY a.w0 b.w0 0,qY a.w1 b.w1 k0,qY a.w2 b.w2 k1,qY a.w3 b.w3 k2⟩
 unfold Sx.aa.nat at hs
 simp only at hs
 have hk:k3.toNat=0\/k3.toNat=1:=by omega
 rcases hk with hk|hk
 ·have e:k3=0:=UInt64.toNat_inj.1 hk
  rw [hk] at hn
  rw [e]
  cases hb:Nat.ble 115792089237316195423570985008687907853269984665640564039457584007913129639936 (a.nat+b.nat)
  ·rfl
  ·have:=Nat.le_of_ble_eq_true hb
   omega
 ·have e:(k3==0)=false:=by
   have:¬k3=0:=λe=>by rw [e] at hk;cases hk
   simpa using this
  rw [hk] at hn
  rw [e]
  exact Nat.ble_eq_true_of_le (by omega)
theorem Fj (a b:aa):let k0:=Kr a.w0 b.w0 0;let k1:=Kr a.w1 b.w1 k0;let k2:=Kr a.w2 b.w2 k1;let k3:=Kr a.w3 b.w3 k2
 (k0.toNat<=1/\k1.toNat<=1/\k2.toNat<=1)/\kT a b=(⟨mr a.w0 b.w0 0,mr a.w1 b.w1 k0,mr a.w2 b.w2 k1,mr a.w3 b.w3 k2⟩,!(k3==0)):=by
 intro k0 k1 k2 k3
 have l0:k0.toNat<=1:=wb
 have l1:k1.toNat<=1:=wb
 have l2:k2.toNat<=1:=wb
 have l3:k3.toNat<=1:=wb
 refine ⟨⟨l0,l1,l2⟩,?_⟩
 have h:=HK (tt (x:=a.w0) (y:=b.w0) (c:=0) (by decide)) (HK (tt (x:=a.w1) (y:=b.w1) l0) (HK (tt (x:=a.w2) (y:=b.w2) l1) (tt (x:=a.w3) (y:=b.w3) l2)))
 rw [show (0:UInt64).toNat=0 from rfl,Nat.add_zero] at h
 unfold kT
 have hs:=gv ⟨mr a.w0 b.w0 0,mr a.w1 b.w1 k0,mr a.w2 b.w2 k1,mr a.w3 b.w3 k2⟩
 have h':a.nat+18446744073709551616*(18446744073709551616*(18446744073709551616*(18446744073709551616*k3.toNat)))=aa.nat ⟨mr a.w0 b.w0 0,mr a.w1 b.w1 k0,mr a.w2 b.w2 k1,mr a.w3 b.w3 k2⟩+b.nat:=h
 have ha:=gv a
 have hb:=gv b
 have hS:=gv ⟨mr a.w0 b.w0 0,mr a.w1 b.w1 k0,mr a.w2 b.w2 k1,mr a.w3 b.w3 k2⟩
 have e1:ofN (a.nat+115792089237316195423570985008687907853269984665640564039457584007913129639936-b.nat)=⟨mr a.w0 b.w0 0,mr a.w1 b.w1 k0,mr a.w2 b.w2 k1,mr a.w3 b.w3 k2⟩:=by
  apply jP
  rw [Qp]
  generalize aa.nat ⟨mr a.w0 b.w0 0,mr a.w1 b.w1 k0,mr a.w2 b.w2 k1,mr a.w3 b.w3 k2⟩=S at*
  omega
 rw [e1]
 congr 1
 generalize aa.nat ⟨mr a.w0 b.w0 0,mr a.w1 b.w1 k0,mr a.w2 b.w2 k1,mr a.w3 b.w3 k2⟩=S at*
 have hk:k3.toNat=0\/k3.toNat=1:=by omega
 rcases hk with hk|hk
 ·have e:k3=0:=UInt64.toNat_inj.1 hk
  rw [hk] at h'
  rw [e]
  cases hq:Nat.blt a.nat b.nat
  ·rfl
  ·have:=cJ hq
   omega
 ·have e:(k3==0)=false:=by
   have:¬k3=0:=λe=>by rw [e] at hk;cases hk
   simpa using this
  rw [hk] at h'
  rw [e]
  exact Nat.ble_eq_true_of_le (show a.nat+1<=b.nat by omega)
def lst (e:aa):List UInt64:= [e.w0,e.w1,e.w2,e.w3]
def elemOf (l:List UInt64):aa:=⟨l.getD 0 0,l.getD 1 0,l.getD 2 0,l.getD 3 0⟩
theorem bh {l:List UInt64} (h:l.length=4):lst (elemOf l)=l:=by
 match l,h with
 | [a,b,c,d],_=>rfl
theorem ZC (e:aa):elemOf (lst e)=e:=rfl
theorem cS (e:aa):(lst e).length=4:=rfl
theorem mZ {h l y:UInt64} (hy:0<y.toNat):(Nj h l y).toNat=(h.toNat*18446744073709551616+l.toNat)%y.toNat:=by
 unfold Nj
 rw [UInt64.toNat_ofNat']
 exact Nat.mod_eq_of_lt (Nat.lt_trans (Nat.mod_lt _ hy) y.toNat_lt)
theorem IV (r x m:Nat):(r%m*18446744073709551616+x)%m=(r*18446744073709551616+x)%m:=by
 rw [Nat.add_mod,Nat.mul_mod,Nat.mod_mod,<-Nat.mul_mod,<-Nat.add_mod]
theorem mo {a b:aa} (h:b.nat<=a.nat):(kT a b).1.nat=a.nat-b.nat:=by
 have ha:=gv a
 show (ofN _).nat=_
 rw [Qp]
 omega
theorem RQ {w N r:Nat} (hr:r<64):(w+18446744073709551616*N)/2^r%2=w/2^r%2:=by
 have e:18446744073709551616*N=2^r*(2*(2^(63-r)*N)):=by
  rw [<-Nat.mul_assoc,<-Nat.mul_assoc,Nat.mul_comm (2^r) 2,Nat.mul_assoc 2,<-Nat.pow_add,show r+(63-r)=63 by omega]
 rw [e,Nat.add_mul_div_left _ _ (Nat.two_pow_pos r),Nat.add_mul_mod_self_left]
theorem vZ {w N:Nat} (hw:w<18446744073709551616) (r:Nat):(w+18446744073709551616*N)/2^(64+r)=N/2^r:=by
 rw [Nat.pow_add,<-Nat.div_div_eq_div_mul,show 2^64=18446744073709551616 from rfl,show (w+18446744073709551616*N)/18446744073709551616=N by omega]
theorem W6 {a:aa} {q r:Nat} (hq:q<4) (hr:r<64):((lst a).getD q 0).toNat/2^r%2=a.nat/2^(64*q+r)%2:=by
 have h0:=a.w0.toNat_lt
 have h1:=a.w1.toNat_lt
 have h2:=a.w2.toNat_lt
 unfold Sx.aa.nat
 have hq':q=0\/q=1\/q=2\/q=3:=by omega
 rcases hq' with rfl|rfl|rfl|rfl
 ·rw [Nat.mul_zero,Nat.zero_add,RQ hr];rfl
 ·rw [show 64*1+r=64+r by omega,vZ h0,RQ hr];rfl
 ·rw [show 64*2+r=64+(64+r) by omega,vZ h0,vZ h1,RQ hr];rfl
 ·rw [show 64*3+r=64+(64+(64+r)) by omega,vZ h0,vZ h1,vZ h2];rfl
def Aj (n i:Nat):Bool:=Nat.beq (n/2^i%2) 1
theorem RP (x:UInt64):(x&&&1==1)=Nat.beq (x.toNat%2) 1:=by
 have e:(x&&&1).toNat=x.toNat%2:=by
  rw [UInt64.toNat_and]
  exact Nat.and_two_pow_sub_one_eq_mod x.toNat 1
 rw [<-e]
 by_cases h:x&&&1=1
 ·rw [h];rfl
 ·have h':¬(x&&&1).toNat=1:=λh'=>h (UInt64.toNat_inj.1 h')
  have h2:Nat.beq (x&&&1).toNat 1=false:=by
   cases hb:Nat.beq (x&&&1).toNat 1
   ·rfl
   ·exact absurd (Nat.eq_of_beq_eq_true hb) h'
  rw [h2]
  simpa using h
abbrev zV:Ty:=.prod .elem (.prod .elem (.prod .elem .bool))
end Go.Proofs.YtohjofabochgfaaGreat

namespace Go.Proofs.YtohjofabochgfaaGreat
open Sx Go
set_option maxRecDepth 100000
def JZ:aq:=⟨[.val false .u64,.val false .u64,.val false .u64],[],true,0,false⟩
abbrev af1:Type:=((UInt64)×(UInt64)×(UInt64)×Unit)×(Unit)
def af0:ax:=⟨[.val false .u64,.val false .u64],[],false⟩
def xX (x:af1):Bool:=decide (x.1.2.2.1.toNat<=1)
def W8 (x:af1):OT JZ.Y:=.ok ⟨af0,((qY x.1.1 x.1.2.1 x.1.2.2.1,tf x.1.1 x.1.2.1 x.1.2.2.1,()),())⟩
theorem Z5 (a b c:UInt64) (hc:c.toNat<=1) (w:World):(callFunc 151 #[fP a,fP b,fP c]).run Tryz.prog w=.ok (.value (.tuple #[fP (qY a b c),fP (tf a b c)])) w:=by
 unfold fP
 rw [run_callFunc_extern Tryz.func151 (by kernel_rfl) (by kernel_rfl) (by kernel_rfl) (e:=add64Entry) (by kernel_rfl),run_add64 (a.toNat:Int) (b.toNat:Int) (c.toNat:Int) (by omega) (by omega) (by omega) (by omega)]
 have ha:=a.toNat_lt
 have hb:=b.toNat_lt
 have e1:(((qY a b c).toNat:Nat):Int)=((a.toNat:Int)+b.toNat+c.toNat)%18446744073709551616:=by
  unfold qY
  rw [UInt64.toNat_ofNat',Nat.mod_eq_of_lt (by omega)]
  omega
 have e2:(((tf a b c).toNat:Nat):Int)=((a.toNat:Int)+b.toNat+c.toNat)/18446744073709551616:=by
  unfold tf
  rw [UInt64.toNat_ofNat',Nat.mod_eq_of_lt (by omega)]
  omega
 rw [e1,e2]
 rfl
theorem afZ:ac Tryz.prog 151 (JZ.aI xX W8):=by
 refine ale (k:=0) (by kernel_rfl) λx oy vs N w hp ho hr=> ?_
 obtain ⟨⟨a,b,c,⟨⟩⟩,⟨⟩⟩:=x
 cases ho
 have hc:c.toNat<=1:=of_decide_eq_true hp
 have hr':SV.bM N [.u64 a,.u64 b,.u64 c] vs:=hr
 simp only [SV.bM,SV.rel] at hr'
 obtain ⟨_,_,rfl,rfl,_,_,rfl,rfl,_,_,rfl,rfl,rfl⟩:=hr'
 refine ⟨.tup [.u64 (qY a b c),.u64 (tf a b c)],_,Z5 a b c hc w,?_,⟨rfl,by kernel_rfl⟩⟩
 simp only [SV.rel]
 exact ⟨_,rfl,by simp only [SV.bM,SV.rel];exact ⟨_,_,rfl,rfl,_,_,rfl,rfl,rfl⟩⟩
def sJ:cN:=(JZ.aI xX W8)
theorem N6:ac Tryz.prog 151 sJ:=afZ
theorem N5:aK sJ:=aB
def Ko:Env:=aA 151 sJ E0
theorem Sr:aW Tryz.prog Ko:=ai N6 arN
theorem Kn:aw Ko:=ae N5 ao3
def JP:aq:=⟨[.val false .u64,.val false .u64,.val false .u64],[],true,0,false⟩
abbrev afN:Type:=((UInt64)×(UInt64)×(UInt64)×Unit)×(Unit)
def afM:ax:=⟨[.val false .u64,.val false .u64],[],false⟩
def xQ (x:afN):Bool:=decide (x.1.2.2.1.toNat<=1)
def W2 (x:afN):OT JP.Y:=.ok ⟨afM,((mr x.1.1 x.1.2.1 x.1.2.2.1,Kr x.1.1 x.1.2.1 x.1.2.2.1,()),())⟩
def akN:Array Value->Sem Value:=λargs=>do
 let (x,y,b) <-Extern.MathBitsCarry.three "Sub64" args
 pure (Extern.MathBitsCarry.pair ((x+Extern.MathBitsCarry.m64-y-b)%Extern.MathBitsCarry.m64) (if x<y+b then 1 else 0))
theorem Xw {P:Program} (x y b:Nat) (hb:b<=1) (w:World):
 (akN #[.int .u64 x,.int .u64 y,.int .u64 b]).run P w=
  .ok (.tuple #[.int .u64 (((x+18446744073709551616-y-b)%18446744073709551616:Nat):Int),.int .u64 ((if x<y+b then 1 else 0:Nat):Int)]) w:=by
 have:b=0\/b=1:=by omega
 rcases this with rfl|rfl<;>rfl
theorem Z3 (a b c:UInt64) (hc:c.toNat<=1) (w:World):(callFunc 153 #[fP a,fP b,fP c]).run Tryz.prog w=.ok (.value (.tuple #[fP (mr a b c),fP (Kr a b c)])) w:=by
 unfold fP
 rw [run_callFunc_extern Tryz.func153 (by kernel_rfl) (by kernel_rfl) (by kernel_rfl) (e:=akN) (by kernel_rfl),Xw a.toNat b.toNat c.toNat (by omega)]
 have ha:=a.toNat_lt
 have hb:=b.toNat_lt
 have e1:(mr a b c).toNat=(a.toNat+18446744073709551616-b.toNat-c.toNat)%18446744073709551616:=by
  unfold mr
  rw [UInt64.toNat_ofNat',Nat.mod_eq_of_lt (by omega)]
 have e2:(Kr a b c).toNat=if a.toNat<b.toNat+c.toNat then 1 else 0:=by
  unfold Kr
  rw [UInt64.toNat_ofNat',Nat.mod_eq_of_lt (by split<;>omega)]
 rw [e1,e2]
 rfl
theorem afL:ac Tryz.prog 153 (JP.aI xQ W2):=by
 refine ale (k:=0) (by kernel_rfl) λx oy vs N w hp ho hr=> ?_
 obtain ⟨⟨a,b,c,⟨⟩⟩,⟨⟩⟩:=x
 cases ho
 have hc:c.toNat<=1:=of_decide_eq_true hp
 have hr':SV.bM N [.u64 a,.u64 b,.u64 c] vs:=hr
 simp only [SV.bM,SV.rel] at hr'
 obtain ⟨_,_,rfl,rfl,_,_,rfl,rfl,_,_,rfl,rfl,rfl⟩:=hr'
 refine ⟨.tup [.u64 (mr a b c),.u64 (Kr a b c)],_,Z3 a b c hc w,?_,⟨rfl,by kernel_rfl⟩⟩
 simp only [SV.rel]
 exact ⟨_,rfl,by simp only [SV.bM,SV.rel];exact ⟨_,_,rfl,rfl,_,_,rfl,rfl,rfl⟩⟩
def sF:cN:=(JP.aI xQ W2)
theorem NI:ac Tryz.prog 153 sF:=afL
theorem NH:aK sF:=aB
def vR:Env:=aA 153 sF Ko
theorem s7:aW Tryz.prog vR:=ai NI Sr
theorem vQ:aw vR:=ae NH Kn
theorem OE:bc Tryz.prog te vR:=aO follows au s7 vQ
def gN:aq:=⟨[.val false .u64,.val false .u64],[],true,0,false⟩
abbrev xS:Type:=((UInt64)×(UInt64)×Unit)×(Unit)
def DD:ax:=⟨[.val false .u64,.val false .u64],[],false⟩
def G7:SV->Option ax:=λ_=>some DD
def AK (a0:UInt64) (a1:UInt64):OT gN.Y:=
 let z0:UInt64:=bu a0 (32:Int)
 let z1:UInt64:=bu a1 (32:Int)
 let z2:UInt64:=z0*(a1&&&(4294967295:UInt64))+bu ((a0&&&(4294967295:UInt64))*(a1&&&(4294967295:UInt64))) (32:Int)
 (.ok ⟨DD,((z0*z1+bu z2 (32:Int)+bu ((z2&&&(4294967295:UInt64))+(a0&&&(4294967295:UInt64))*z1) (32:Int),(a0*a1,())),())⟩)
theorem akq (x:xS) (Q:gN.Y->Prop):wpf te vR az 1000 Tryz.f165 (gN.inp.inj x).tm (gN.inp.inj x).hp (fnK gN G7 Q) (λ_ _=>False)=(AK (x.1.1) (x.1.2.1)).wpR Q:=by kernel_rfl
theorem RK (pre:xS->Bool) (F:xS->OT gN.Y) (hF:∀ (x:xS) oy,pre x=true->(F x).run=some oy->(AK (x.1.1) (x.1.2.1)).run=some oy):ac Tryz.prog 165 (gN.aI pre F):=
 aE au s7 OE (f:=165) (fn:=Tryz.f165) (c:=ao Tryz.f165) (by kernel_rfl) (by kernel_rfl) (by kernel_rfl) (S:=gN) (k:=0) (by kernel_rfl) (λR hR=>ag) (n:=1000) (sel:=G7) (λv o h=>by cases h;rfl) (pre:=pre) (F:=F) (T:=λx=>AK (x.1.1) (x.1.2.1)) (λx Q=>akq x Q) hF
def G8 (_:xS):Bool:=true
def JQ (x:xS):OT gN.Y:=.ok ⟨DD,((agm x.1.1 x.1.2.1,(x.1.1*x.1.2.1,())),())⟩
theorem afO:ac Tryz.prog 165 (gN.aI G8 JQ):=RK _ _ λx oy _ ho=>by
 rw [<-ho]
 simp only [JQ,AK,apZ]
def sG:cN:=(gN.aI G8 JQ)
theorem NL:ac Tryz.prog 165 sG:=afO
theorem NK:aK sG:=aB
def vT:Env:=aA 165 sG vR
theorem s8:aW Tryz.prog vT:=ai NL s7
theorem vS:aw vT:=ae NK vQ
theorem OG:bc Tryz.prog te vT:=aO follows au s8 vS
def gO:aq:=⟨[.val false .u64],[],true,0,false⟩
abbrev xV:Type:=((UInt64)×Unit)×(Unit)
def ej:ax:=⟨[.val false .int],[],false⟩
def Ha:SV->Option ax:=λ_=>some ej
def uX (a0:UInt64):OT gO.Y:=
 let z0:UInt64:=bu a0 (32:Int)
 let z1:UInt64:=bu z0 (16:Int)
 let z2:Int:=(↑(UInt8.toNat (UInt64.toUInt8 (bu z1 (8:Int)))):Int)
 let z3:List UInt8:=List.replicate 64 (8:UInt8)
 let z4:List UInt8:=List.append (List.append [(0:UInt8),(1:UInt8),(2:UInt8),(2:UInt8),(3:UInt8),(3:UInt8),(3:UInt8),(3:UInt8),(4:UInt8),(4:UInt8),(4:UInt8),(4:UInt8),(4:UInt8),(4:UInt8),(4:UInt8),(4:UInt8),(5:UInt8),(5:UInt8),(5:UInt8),(5:UInt8),(5:UInt8),(5:UInt8),(5:UInt8),(5:UInt8),(5:UInt8),(5:UInt8),(5:UInt8),(5:UInt8),(5:UInt8),(5:UInt8),(5:UInt8),(5:UInt8),(6:UInt8),(6:UInt8),(6:UInt8),(6:UInt8),(6:UInt8),(6:UInt8),(6:UInt8),(6:UInt8),(6:UInt8),(6:UInt8),(6:UInt8),(6:UInt8),(6:UInt8),(6:UInt8),(6:UInt8),(6:UInt8),(6:UInt8),(6:UInt8),(6:UInt8),(6:UInt8),(6:UInt8),(6:UInt8),(6:UInt8),(6:UInt8),(6:UInt8),(6:UInt8),(6:UInt8),(6:UInt8),(6:UInt8),(6:UInt8),(6:UInt8),(6:UInt8)] (List.replicate 64 (7:UInt8))) (List.append z3 z3)
 let z5:Int:=(56:Int)+(↑(UInt8.toNat (List.getD z4 (Int.toNat z2) (0:UInt8))):Int)
 let z6:Int:=(↑(UInt8.toNat (UInt64.toUInt8 z1)):Int)
 let z7:Int:=(48:Int)+(↑(UInt8.toNat (List.getD z4 (Int.toNat z6) (0:UInt8))):Int)
 let z8:Int:=(↑(UInt8.toNat (UInt64.toUInt8 (bu z0 (8:Int)))):Int)
 let z9:Int:=(40:Int)+(↑(UInt8.toNat (List.getD z4 (Int.toNat z8) (0:UInt8))):Int)
 let z10:Int:=(↑(UInt8.toNat (UInt64.toUInt8 z0)):Int)
 let z11:Int:=(32:Int)+(↑(UInt8.toNat (List.getD z4 (Int.toNat z10) (0:UInt8))):Int)
 let z12:UInt64:=bu a0 (16:Int)
 let z13:Int:=(↑(UInt8.toNat (UInt64.toUInt8 (bu z12 (8:Int)))):Int)
 let z14:Int:=(24:Int)+(↑(UInt8.toNat (List.getD z4 (Int.toNat z13) (0:UInt8))):Int)
 let z15:Int:=(↑(UInt8.toNat (UInt64.toUInt8 z12)):Int)
 let z16:Int:=(16:Int)+(↑(UInt8.toNat (List.getD z4 (Int.toNat z15) (0:UInt8))):Int)
 let z17:Int:=(↑(UInt8.toNat (UInt64.toUInt8 (bu a0 (8:Int)))):Int)
 let z18:Int:=(8:Int)+(↑(UInt8.toNat (List.getD z4 (Int.toNat z17) (0:UInt8))):Int)
 let z19:Int:=(↑(UInt8.toNat (UInt64.toUInt8 a0)):Int)
 let z20:Int:=(0:Int)+(↑(UInt8.toNat (List.getD z4 (Int.toNat z19) (0:UInt8))):Int)
 (.br (decide ((4294967296:UInt64)<=a0))
 (.br (decide ((65536:UInt64)<=z0))
  (.br (decide ((256:UInt64)<=z1))
   (gd [inB z2 256,inR z5] (.ok ⟨ej,((z5,()),())⟩))
   (gd [inB z6 256,inR z7] (.ok ⟨ej,((z7,()),())⟩)))
  (.br (decide ((256:UInt64)<=z0))
   (gd [inB z8 256,inR z9] (.ok ⟨ej,((z9,()),())⟩))
   (gd [inB z10 256,inR z11] (.ok ⟨ej,((z11,()),())⟩))))
 (.br (decide ((65536:UInt64)<=a0))
  (.br (decide ((256:UInt64)<=z12))
   (gd [inB z13 256,inR z14] (.ok ⟨ej,((z14,()),())⟩))
   (gd [inB z15 256,inR z16] (.ok ⟨ej,((z16,()),())⟩)))
  (.br (decide ((256:UInt64)<=a0))
   (gd [inB z17 256,inR z18] (.ok ⟨ej,((z18,()),())⟩))
   (gd [inB z19 256,inR z20] (.ok ⟨ej,((z20,()),())⟩)))))
theorem aks (x:xV) (Q:gO.Y->Prop):wpf te vT az 1000 Tryz.f166 (gO.inp.inj x).tm (gO.inp.inj x).hp (fnK gO Ha Q) (λ_ _=>False)=(uX (x.1.1)).wpR Q:=by kernel_rfl
theorem RO (pre:xV->Bool) (F:xV->OT gO.Y) (hF:∀ (x:xV) oy,pre x=true->(F x).run=some oy->(uX (x.1.1)).run=some oy):ac Tryz.prog 166 (gO.aI pre F):=
 aE au s8 OG (f:=166) (fn:=Tryz.f166) (c:=ao Tryz.f166) (by kernel_rfl) (by kernel_rfl) (by kernel_rfl) (S:=gO) (k:=0) (by kernel_rfl) (λR hR=>ag) (n:=1000) (sel:=Ha) (λv o h=>by cases h;rfl) (pre:=pre) (F:=F) (T:=λx=>uX (x.1.1)) (λx Q=>aks x Q) hF
def eS (x:UInt64):Bool:=(x==16513537)||(x==16521217)
theorem dq {x:UInt64} (h:eS x=true):x=16513537\/x=16521217:=by
 simpa [eS] using h
def xU (x:xV):Bool:=eS x.1.1
def W5 (_:xV):OT gO.Y:=.ok ⟨ej,(((24:Int),()),())⟩
theorem NQ:(uX 16513537).run=some ⟨ej,(((24:Int),()),())⟩/\(uX 16521217).run=some ⟨ej,(((24:Int),()),())⟩:=⟨by kernel_rfl,by kernel_rfl⟩
theorem afQ:ac Tryz.prog 166 (gO.aI xU W5):=RO _ _ λx oy hp ho=>by
 rw [<-ho]
 clear ho
 obtain ⟨⟨x,⟨⟩⟩,⟨⟩⟩:=x
 rcases dq hp with h|h
 ·have h:x=16513537:=h
  subst h
  exact NQ.1
 ·have h:x=16521217:=h
  subst h
  exact NQ.2
def sH:cN:=(gO.aI xU W5)
theorem NP:ac Tryz.prog 166 sH:=afQ
theorem NO:aK sH:=aB
def vV:Env:=aA 166 sH vT
theorem tb:aW Tryz.prog vV:=ai NP s8
theorem vU:aw vV:=ae NO vS
theorem OH:bc Tryz.prog te vV:=aO follows au tb vU
def ke:aq:=⟨[.val false .u64],[],true,0,false⟩
abbrev G9:Type:=((UInt64)×Unit)×(Unit)
def JR:ax:=⟨[.val false .int],[],false⟩
def NM:SV->Option ax:=λ_=>some JR
def RN (a0:UInt64):OT ke.Y:=
 (gd [xU ((a0,()),())] (.ok ⟨JR,(((40:Int),()),())⟩))
theorem aoV (x:G9) (Q:ke.Y->Prop):wpf te vV az 1000 Tryz.f154 (ke.inp.inj x).tm (ke.inp.inj x).hp (fnK ke NM Q) (λ_ _=>False)=(RN (x.1.1)).wpR Q:=by kernel_rfl
theorem Z4 (pre:G9->Bool) (F:G9->OT ke.Y) (hF:∀ (x:G9) oy,pre x=true->(F x).run=some oy->(RN (x.1.1)).run=some oy):ac Tryz.prog 154 (ke.aI pre F):=
 aE au tb OH (f:=154) (fn:=Tryz.f154) (c:=ao Tryz.f154) (by kernel_rfl) (by kernel_rfl) (by kernel_rfl) (S:=ke) (k:=0) (by kernel_rfl) (λR hR=>ag) (n:=1000) (sel:=NM) (λv o h=>by cases h;rfl) (pre:=pre) (F:=F) (T:=λx=>RN (x.1.1)) (λx Q=>aoV x Q) hF
def DE (x:G9):Bool:=eS x.1.1
def afP (_:G9):OT ke.Y:=.ok ⟨JR,(((40:Int),()),())⟩
theorem akr:ac Tryz.prog 154 (ke.aI DE afP):=Z4 _ _ λx oy hp ho=>by
 rw [<-ho]
 clear ho
 obtain ⟨⟨x,⟨⟩⟩,⟨⟩⟩:=x
 have hp:eS x=true:=hp
 refine (al ?_).trans rfl
 simp only [List.all_cons,List.all_nil,Bool.and_true,Bool.and_eq_true]
 first|exact hp|exact ⟨hp,rfl⟩
def xT:cN:=(ke.aI DE afP)
theorem RM:ac Tryz.prog 154 xT:=akr
theorem RL:aK xT:=aB
def ta:Env:=aA 154 xT vV
theorem ml:aW Tryz.prog ta:=ai RM tb
theorem zS:aw ta:=ae RL vU
theorem s9:bc Tryz.prog te ta:=aO follows au ml zS
def fB:aq:=⟨[.val false .u64,.val false .u64,.val false .u64],[],true,0,false⟩
abbrev xW:Type:=((UInt64)×(UInt64)×(UInt64)×Unit)×(Unit)
def pb:Shape:=⟨135,[(2,.val false .u64),(8,.val false .u64),(9,.val false .u64),(10,.val false .u64),(11,.val false .u64),(13,.val false .u64),(14,.val false .u64),(15,.val false .u64),(16,.val false .u64)],[],0,true⟩
abbrev cj:Type:=((UInt64)×(UInt64)×(UInt64)×(UInt64)×(UInt64)×(UInt64)×(UInt64)×(UInt64)×(UInt64)×Unit)×(Unit)
def kh:Shape:=⟨135,[(2,.val false .u64),(8,.val false .u64),(9,.val false .u64),(10,.val false .u64),(11,.val false .u64),(13,.val false .u64),(14,.val false .u64),(15,.val false .u64)],[],0,true⟩
abbrev iC:Type:=((UInt64)×(UInt64)×(UInt64)×(UInt64)×(UInt64)×(UInt64)×(UInt64)×(UInt64)×Unit)×(Unit)
def NV:SE->Option Shape:=kn [(0,kh)] none
def afY (a2:UInt64) (a8:UInt64) (a9:UInt64) (a10:UInt64) (a11:UInt64) (a13:UInt64) (a14:UInt64) (a15:UInt64) (a16:UInt64):OT (Sum cj aQ):=
 let z0:Bool:=decide ((4294967296:UInt64)<=a16+a9)
 (.br (decide ((4294967296:UInt64)<=a15))
 (.br (z0)
  (.ok (.inr ⟨(.exit 0,kh),((a2,(a8,(a9,(a10,(a11,(a13,(a14,(a15-(1:UInt64),())))))))),())⟩))
  (.ok (.inl ((a2,(a8,(a9,(a10,(a11,(a13,(a14,(a15-(1:UInt64),(a16+a9,()))))))))),()))))
 (.br (decide ((4294967296:UInt64)*a16+a13<a15*a10))
  (.br (z0)
   (.ok (.inr ⟨(.exit 0,kh),((a2,(a8,(a9,(a10,(a11,(a13,(a14,(a15-(1:UInt64),())))))))),())⟩))
   (.ok (.inl ((a2,(a8,(a9,(a10,(a11,(a13,(a14,(a15-(1:UInt64),(a16+a9,()))))))))),()))))
  (.ok (.inr ⟨(.exit 0,kh),((a2,(a8,(a9,(a10,(a11,(a13,(a14,(a15,())))))))),())⟩))))
def u6 (s:cj):OT (Sum cj aQ):=afY (s.1.1) (s.1.2.1) (s.1.2.2.1) (s.1.2.2.2.1) (s.1.2.2.2.2.1) (s.1.2.2.2.2.2.1) (s.1.2.2.2.2.2.2.1) (s.1.2.2.2.2.2.2.2.1) (s.1.2.2.2.2.2.2.2.2.1)
theorem afT (s:cj) (Q:Sum cj aQ->Prop):wps te ta az 1000 (bL (ao Tryz.f128) 0) (pb.inj s) (df pb NV (Q:Sum pb.T aQ->Prop))=(u6 s).wpR Q:=by kernel_rfl
def u4 (g0_0:cj->iC) (s:cj):OT aQ:=(.ok ⟨(.exit 0,kh),g0_0 s⟩)
def pa:Shape:=⟨135,[(2,.val false .u64),(8,.val false .u64),(9,.val false .u64),(10,.val false .u64),(14,.val false .u64),(15,.val false .u64),(16,.val false .u64),(17,.val false .u64),(18,.val false .u64)],[],0,true⟩
abbrev ci:Type:=((UInt64)×(UInt64)×(UInt64)×(UInt64)×(UInt64)×(UInt64)×(UInt64)×(UInt64)×(UInt64)×Unit)×(Unit)
def kg:Shape:=⟨135,[(2,.val false .u64),(8,.val false .u64),(14,.val false .u64),(15,.val false .u64),(17,.val false .u64),(18,.val false .u64)],[],0,true⟩
abbrev iB:Type:=((UInt64)×(UInt64)×(UInt64)×(UInt64)×(UInt64)×(UInt64)×Unit)×(Unit)
def NU:SE->Option Shape:=kn [(2,kg)] none
def afX (a2:UInt64) (a8:UInt64) (a9:UInt64) (a10:UInt64) (a14:UInt64) (a15:UInt64) (a16:UInt64) (a17:UInt64) (a18:UInt64):OT (Sum ci aQ):=
 let z0:Bool:=decide ((4294967296:UInt64)<=a16+a9)
 (.br (decide ((4294967296:UInt64)<=a18))
 (.br (z0)
  (.ok (.inr ⟨(.exit 2,kg),((a2,(a8,(a14,(a15,(a17,(a18-(1:UInt64),())))))),())⟩))
  (.ok (.inl ((a2,(a8,(a9,(a10,(a14,(a15,(a16+a9,(a17,(a18-(1:UInt64),()))))))))),()))))
 (.br (decide ((4294967296:UInt64)*a16+a14<a18*a10))
  (.br (z0)
   (.ok (.inr ⟨(.exit 2,kg),((a2,(a8,(a14,(a15,(a17,(a18-(1:UInt64),())))))),())⟩))
   (.ok (.inl ((a2,(a8,(a9,(a10,(a14,(a15,(a16+a9,(a17,(a18-(1:UInt64),()))))))))),()))))
  (.ok (.inr ⟨(.exit 2,kg),((a2,(a8,(a14,(a15,(a17,(a18,())))))),())⟩))))
def u5 (s:ci):OT (Sum ci aQ):=afX (s.1.1) (s.1.2.1) (s.1.2.2.1) (s.1.2.2.2.1) (s.1.2.2.2.2.1) (s.1.2.2.2.2.2.1) (s.1.2.2.2.2.2.2.1) (s.1.2.2.2.2.2.2.2.1) (s.1.2.2.2.2.2.2.2.2.1)
theorem afS (s:ci) (Q:Sum ci aQ->Prop):wps te ta az 1000 (bL (ao Tryz.f128) 2) (pa.inj s) (df pa NU (Q:Sum pa.T aQ->Prop))=(u5 s).wpR Q:=by kernel_rfl
def u3 (g2_2:ci->iB) (s:ci):OT aQ:=(.ok ⟨(.exit 2,kg),g2_2 s⟩)
def l9:ax:=⟨[.val false .u64,.val false .u64],[],false⟩
def Hb:SV->Option ax:=λ_=>some l9
def AM (ok0:cj->Bool) (g0_0:cj->iC) (ok2:ci->Bool) (g2_2:ci->iB) (a0:UInt64) (a1:UInt64) (a2:UInt64):OT fB.Y:=
 let z0:Bool:= !a2==(0:UInt64)
 let z1:UInt64:=cC a2 (40:Int)
 let z2:UInt64:=bu z1 (32:Int)
 let z3:UInt64:=cC a0 (40:Int)|||bu a1 (24:Int)
 let z4:UInt64:=cC a1 (40:Int)
 let z5:UInt64:=z3/z2
 let z6:(UInt64×UInt64×UInt64×UInt64×UInt64×UInt64×UInt64×UInt64×UInt64×PUnit)×PUnit:=((z1,(40:UInt64),z2,z1&&&(4294967295:UInt64),z3,bu z4 (32:Int),z4&&&(4294967295:UInt64),z5,z3-z5*z2,()),())
 let z7:=(g0_0 z6).fst
 let z8:=z7.snd
 let z9:=z8.snd
 let z10:=z9.fst
 let z11:=z7.fst
 let z12:=z9.snd
 let z13:=z12.snd
 let z14:=z13.snd
 let z15:=z14.snd
 let z16:=z15.snd.fst
 let z17:UInt64:=z13.fst*(4294967296:UInt64)+z14.fst-z16*z11
 let z18:UInt64:=z17/z10
 let z19:(UInt64×UInt64×UInt64×UInt64×UInt64×UInt64×UInt64×UInt64×UInt64×PUnit)×PUnit:=((z11,z8.fst,z10,z12.fst,z15.fst,z16,z17-z18*z10,z17,z18,()),())
 let z20:=(g2_2 z19).fst
 let z21:=z20.snd
 let z22:=z21.snd
 let z23:=z22.snd
 let z24:=z23.snd
 let z25:=z24.snd.fst
 (.br (a2==(0:UInt64))
 .fail
 (.br (decide (a2<=a0))
  .fail
  (.br (a0==(0:UInt64))
   (gd [z0,z0] (.ok ⟨l9,((a1/a2,(a1%a2,())),())⟩))
   (gd [DE ((a2,()),()),!z2==(0:UInt64),ok0 z6,!z10==(0:UInt64),ok2 z19] (.ok ⟨l9,((z23.fst*(4294967296:UInt64)+z25,(bu (z24.fst*(4294967296:UInt64)+z22.fst-z25*z20.fst) (↑(UInt64.toNat z21.fst):Int),())),())⟩)))))
theorem akt (ok0:cj->Bool) (g0_0:cj->iC) (ok2:ci->Bool) (g2_2:ci->iB) (x:xW) (Q:fB.Y->Prop):wpf te ta (bn 2 (dC pa 2 ok2 (u3 g2_2)) (bn 0 (dC pb 0 ok0 (u4 g0_0)) az)) 1000 Tryz.f128 (fB.inp.inj x).tm (fB.inp.inj x).hp (fnK fB Hb Q) (λ_ _=>False)=(AM ok0 g0_0 ok2 g2_2 (x.1.1) (x.1.2.1) (x.1.2.2.1)).wpR Q:=by kernel_rfl
theorem RT (ok0:cj->Bool) (g0_0:cj->iC) (ok2:ci->Bool) (g2_2:ci->iB) (h0:∀ s:cj,ok0 s=true->∃ m e,av (u6) m s=some e/\(u4 g0_0 s).run=some e) (h2:∀ s:ci,ok2 s=true->∃ m e,av (u5) m s=some e/\(u3 g2_2 s).run=some e) (pre:xW->Bool) (F:xW->OT fB.Y) (hF:∀ (x:xW) oy,pre x=true->(F x).run=some oy->(AM ok0 g0_0 ok2 g2_2 (x.1.1) (x.1.2.1) (x.1.2.2.1)).run=some oy):ac Tryz.prog 128 (fB.aI pre F):=
 aE au ml s9 (f:=128) (fn:=Tryz.f128) (c:=ao Tryz.f128) (by kernel_rfl) (by kernel_rfl) (by kernel_rfl) (S:=fB) (k:=0) (by kernel_rfl) (λR hR=>(aH (c:=(ao Tryz.f128)) (by kernel_rfl) (id:=2) (by kernel_rfl) (bz au ml s9 (sh:=pa) hR (xs:=NU) (aJ (by kernel_rfl) (by kernel_rfl) hR) aY ag (n:=1000) (T:=u5) (λs Q=>afS s Q) (ok:=ok2) (f:=u3 g2_2) h2) (aH (c:=(ao Tryz.f128)) (by kernel_rfl) (id:=0) (by kernel_rfl) (bz au ml s9 (sh:=pb) hR (xs:=NV) (aJ (by kernel_rfl) (by kernel_rfl) hR) aY ag (n:=1000) (T:=u6) (λs Q=>afT s Q) (ok:=ok0) (f:=u4 g0_0) h0) ag))) (n:=1000) (sel:=Hb) (λv o h=>by cases h;rfl) (pre:=pre) (F:=F) (T:=λx=>AM ok0 g0_0 ok2 g2_2 (x.1.1) (x.1.2.1) (x.1.2.2.1)) (λx Q=>akt ok0 g0_0 ok2 g2_2 x Q) hF
def Hd (s:cj):Bool:=decide (s.1.2.2.2.1=0/\s.1.2.2.2.2.2.2.2.1<4294967296)
def N0 (s:cj):iC:=((s.1.1,s.1.2.1,s.1.2.2.1,s.1.2.2.2.1,s.1.2.2.2.2.1,s.1.2.2.2.2.2.1,s.1.2.2.2.2.2.2.1,s.1.2.2.2.2.2.2.2.1,()),())
theorem BU {a b:UInt64} (h:b<a):decide (a<=b)=false:=decide_eq_false (by rw [UInt64.le_iff_toNat_le,UInt64.lt_iff_toNat_lt] at*;omega)
theorem not_lt_zero {a b:UInt64}:decide (a<b*0)=false:=decide_eq_false (by
 have:b*0=0:=by rw [<-UInt64.toNat_inj];simp
 rw [this,UInt64.lt_iff_toNat_lt]
 exact Nat.not_lt_zero _)
theorem afW:∀ s:cj,Hd s=true->∃ m e,av u6 m s=some e/\(u4 N0 s).run=some e:=by
 rintro ⟨⟨a2,a8,a9,a10,a11,a13,a14,a15,a16,⟨⟩⟩,⟨⟩⟩ h
 have h':=of_decide_eq_true h
 dsimp only at h'
 obtain ⟨rfl,hl⟩:=h'
 exact ⟨1,_,aR ((OT.ay (BU hl)).trans (OT.ay not_lt_zero)),rfl⟩
def Hc (s:ci):Bool:=decide (s.1.2.2.2.1=0/\s.1.2.2.2.2.2.2.2.2.1<4294967296)
def NZ (s:ci):iB:=((s.1.1,s.1.2.1,s.1.2.2.2.2.1,s.1.2.2.2.2.2.1,s.1.2.2.2.2.2.2.2.1,s.1.2.2.2.2.2.2.2.2.1,()),())
theorem afV:∀ s:ci,Hc s=true->∃ m e,av u5 m s=some e/\(u3 NZ s).run=some e:=by
 rintro ⟨⟨a2,a8,a9,a10,a14,a15,a16,a17,a18,⟨⟩⟩,⟨⟩⟩ h
 have h':=of_decide_eq_true h
 dsimp only at h'
 obtain ⟨rfl,hl⟩:=h'
 exact ⟨1,_,aR ((OT.ay (BU hl)).trans (OT.ay not_lt_zero)),rfl⟩
def qG (x:xW):Bool:=eS x.1.2.2.1&&decide (x.1.1<x.1.2.2.1)
def JX (x:xW):OT fB.Y:=.ok ⟨l9,((aph x.1.1 x.1.2.1 x.1.2.2.1,Nj x.1.1 x.1.2.1 x.1.2.2.1,()),())⟩
theorem aay {v z:Nat} (hv:v<4294967296) (hz:z<4294967296):(v*4294967296%2^64+z)%2^64=(v*(256*16777216)+z)%2^64:=by
 rw [Nat.mod_eq_of_lt (a:=v*4294967296) (by omega)]
theorem agp {s:Nat} (hs:s<4294967296):s*4294967296/2^40=s/256%2^64:=by
 rw [Nat.mod_eq_of_lt (by omega),show (2:Nat)^40=256*4294967296 from rfl,Nat.mul_div_mul_right _ _ (by omega)]
theorem NW {h l y:UInt64} {m:Nat} (hm:y.toNat=m) (hy:(cC y 40).toNat=m*1099511627776) (hy1:(bu (cC y 40) 32).toNat=m*256) (hy0:cC y 40&&&4294967295=0) (hm0:0<m) (hm1:m<16777216) (hh:h.toNat<m):
 let u:=cC h 40|||bu l 24
 let q1:=u/bu (cC y 40) 32
 let un21:=u*4294967296+bu (cC l 40) 32-q1*cC y 40
 let q0:=un21/bu (cC y 40) 32
 q1<4294967296/\q0<4294967296/\q1*4294967296+q0=aph h l y/\bu (un21*4294967296+(cC l 40&&&4294967295)-q0*cC y 40) 40=Nj h l y:=by
 intro u q1 un21 q0
 have hl:=l.toNat_lt
 have hu:u.toNat=h.toNat*1099511627776+l.toNat/16777216:=by
  have e1:(cC h 40).toNat=h.toNat*1099511627776:=by
   rw [show ((40:Int))=((40:Nat):Int) from rfl,lf _ _ (by omega)]
   exact Nat.mod_eq_of_lt (by omega)
  have e2:(bu l 24).toNat=l.toNat/16777216:=fT l 24 (by omega)
  simp only [u]
  rw [UInt64.toNat_or,e1,e2,Nat.mul_comm]
  have:=Nat.two_pow_add_eq_or_of_lt (i:=40) (b:=l.toNat/16777216) (by omega) h.toNat
  exact this.symm
 have hun1:(bu (cC l 40) 32).toNat=l.toNat%16777216*256:=by
  rw [show ((32:Int))=((32:Nat):Int) from rfl,fT _ _ (by omega),show ((40:Int))=((40:Nat):Int) from rfl,lf _ _ (by omega)]
  omega
 have hun0:cC l 40&&&4294967295=0:=by
  rw [<-UInt64.toNat_inj,ii,show ((40:Int))=((40:Nat):Int) from rfl,lf _ _ (by omega)]
  show l.toNat*2^40%2^64%4294967296=0
  omega
 have hq1:q1.toNat=u.toNat/(m*256):=by simp only [q1];rw [UInt64.toNat_div,hy1]
 have hN:h.toNat*18446744073709551616+l.toNat=u.toNat*16777216+l.toNat%16777216:=by rw [hu];omega
 have hqr:u.toNat=q1.toNat*(m*256)+u.toNat%(m*256):=by
  rw [hq1,Nat.mul_comm]
  exact (Nat.div_add_mod _ _).symm
 have hr:u.toNat%(m*256)<m*256:=Nat.mod_lt _ (by omega)
 have hul:u.toNat<m*256*4294967296:=by rw [hu];omega
 have hq1l:q1.toNat<4294967296:=by rw [hq1];exact Nat.div_lt_of_lt_mul hul
 generalize hrr:u.toNat%(m*256)=r at*
 have hprod:q1.toNat*(m*1099511627776)=q1.toNat*(m*256)*4294967296:=by
  rw [Nat.mul_assoc,Nat.mul_assoc]
 have h21:un21.toNat=r*4294967296+l.toNat%16777216*256:=by
  simp only [un21]
  rw [UInt64.toNat_sub,UInt64.toNat_add,UInt64.toNat_mul,UInt64.toNat_mul,hun1,hy,hprod,show (4294967296:UInt64).toNat=4294967296 from rfl]
  generalize q1.toNat*(m*256)=A at*
  omega
 have hq0:q0.toNat=un21.toNat/(m*256):=by simp only [q0];rw [UInt64.toNat_div,hy1]
 have h21l:un21.toNat<m*256*4294967296:=by rw [h21];omega
 have hq0l:q0.toNat<4294967296:=by rw [hq0];exact Nat.div_lt_of_lt_mul h21l
 have hqr0:un21.toNat=q0.toNat*(m*256)+un21.toNat%(m*256):=by
  rw [hq0,Nat.mul_comm]
  exact (Nat.div_add_mod _ _).symm
 have hr0:un21.toNat%(m*256)<m*256:=Nat.mod_lt _ (by omega)
 obtain ⟨d1,d2⟩:=Jz (K:=16777216) (L:=256) hm0 (by omega) hN hqr
 have e21:(r*16777216+l.toNat%16777216)*256=un21.toNat:=by rw [h21];omega
 rw [e21] at d1 d2
 refine ⟨by rw [UInt64.lt_iff_toNat_lt];exact hq1l,by rw [UInt64.lt_iff_toNat_lt];exact hq0l,?_,?_⟩
 ·rw [<-UInt64.toNat_inj,UInt64.toNat_add,UInt64.toNat_mul,show (4294967296:UInt64).toNat=4294967296 from rfl,hq0]
  unfold aph
  rw [hm,UInt64.toNat_ofNat',d1,<-hq0]
  exact aay hq1l hq0l
 ·have hprod0:q0.toNat*(m*1099511627776)=q0.toNat*(m*256)*4294967296:=by
   rw [Nat.mul_assoc,Nat.mul_assoc]
  have e3:(un21*4294967296+(cC l 40&&&4294967295)-q0*cC y 40).toNat=(un21.toNat%(m*256))*4294967296:=by
   rw [hun0,UInt64.toNat_sub,UInt64.toNat_add,UInt64.toNat_mul,UInt64.toNat_mul,hy,hprod0,show (4294967296:UInt64).toNat=4294967296 from rfl,show (0:UInt64).toNat=0 from rfl]
   generalize un21.toNat%(m*256)=s at*
   generalize q0.toNat*(m*256)=A at*
   omega
  rw [<-UInt64.toNat_inj,show ((40:Int))=((40:Nat):Int) from rfl,fT _ _ (by omega),show ((40:Nat):Int)=40 from rfl,e3]
  unfold Nj
  rw [hm,UInt64.toNat_ofNat',d2]
  exact agp (by omega)
theorem O0 {y:UInt64} (h:eS y=true):∃ m,y.toNat=m/\(cC y 40).toNat=m*1099511627776/\(bu (cC y 40) 32).toNat=m*256/\cC y 40&&&4294967295=0/\0<m/\m<16777216:=by
 rcases dq h with rfl|rfl
 ·exact ⟨16513537,rfl,by decide+kernel,by decide+kernel,by decide+kernel,by omega,by omega⟩
 ·exact ⟨16521217,rfl,by decide+kernel,by decide+kernel,by decide+kernel,by omega,by omega⟩
theorem afU:ac Tryz.prog 128 (fB.aI qG JX):=RT Hd N0 Hc NZ afW afV _ _ λx oy hp ho=>by
 rw [<-ho]
 clear ho
 obtain ⟨⟨h,l,y,⟨⟩⟩,⟨⟩⟩:=x
 have hp':(eS y&&decide (h<y))=true:=hp
 rw [Bool.and_eq_true] at hp'
 obtain ⟨hs,hlt⟩:=hp'
 have hlt:=of_decide_eq_true hlt
 obtain ⟨m,f1,f2,f3,f4,f5,f6⟩:=O0 hs
 have hh:h.toNat<m:=by rw [<-f1];exact UInt64.lt_iff_toNat_lt.1 hlt
 have hy0:¬y=0:=λe=>by rw [e] at f1;simp at f1;omega
 have hyb:(y==0)=false:=by simpa using hy0
 have hle:decide (y<=h)=false:=BU hlt
 unfold AM
 refine (OT.ay hyb).trans ((OT.ay hle).trans ?_)
 by_cases h0:h=0
 ·subst h0
  refine (OT.ap rfl).trans ((al ?_).trans ?_)
  ·simp only [hyb,List.all_cons,List.all_nil,Bool.and_true,Bool.not_false]
  ·have e1:aph 0 l y=l/y:=by
    rw [<-UInt64.toNat_inj]
    unfold aph
    rw [UInt64.toNat_ofNat',UInt64.toNat_div,show (0:UInt64).toNat=0 from rfl,Nat.zero_mul,Nat.zero_add]
    exact Nat.mod_eq_of_lt (Nat.lt_of_le_of_lt (Nat.div_le_self _ _) l.toNat_lt)
   have e2:Nj 0 l y=l%y:=by
    rw [<-UInt64.toNat_inj]
    unfold Nj
    rw [UInt64.toNat_ofNat',UInt64.toNat_mod,show (0:UInt64).toNat=0 from rfl,Nat.zero_mul,Nat.zero_add]
    exact Nat.mod_eq_of_lt (Nat.lt_of_le_of_lt (Nat.mod_le _ _) l.toNat_lt)
   simp only [JX,e1,e2]
 ·have hb:(h==0)=false:=by simpa using h0
  obtain ⟨w1,w2,w3,w4⟩:=NW (l:=l) f1 f2 f3 f4 f5 f6 hh
  have hz:(!(bu (cC y 40) 32==0))=true:=by
   have:¬bu (cC y 40) 32=0:=λe=>by rw [e] at f3;simp at f3;omega
   simpa using this
  refine (OT.ay hb).trans ((al ?_).trans ?_)
  ·simp only [List.all_cons,List.all_nil,Bool.and_true,Bool.and_eq_true]
   exact ⟨hs,hz,decide_eq_true ⟨f4,w1⟩,hz,decide_eq_true ⟨f4,w2⟩⟩
  ·show some (⟨l9,((_,bu _ ((40:UInt64).toNat:Int),()),())⟩:fB.Y)=some ⟨l9,((aph h l y,Nj h l y,()),())⟩
   rw [<-w3,<-w4]
   rfl
def sI:cN:=(fB.aI qG JX)
theorem NY:ac Tryz.prog 128 sI:=afU
theorem NX:aK sI:=aB
def qW:Env:=aA 128 sI ta
theorem nh:aW Tryz.prog qW:=ai NY ml
theorem vW:aw qW:=ae NX zS
theorem zT:bc Tryz.prog te qW:=aO follows au nh vW
def nE:aq:=⟨[.val true .elem,.val true .elem],[],true,0,false⟩
abbrev Xp:Type:=((aa)×(aa)×Unit)×(Unit)
def AZ:Shape:=⟨29,[(2,.ptr 0 0 0),(3,.ptr 1 0 0),(4,.ptr 2 0 0),(6,.ptr 3 0 0),(7,.val false .u64),(9,.val false .int)],[(0,.row .u64),(1,.row .u64),(2,.row .u64),(3,.row .u64)],0,true⟩
abbrev cW:Type:=((Unit)×(Unit)×(Unit)×(Unit)×(UInt64)×(Int)×Unit)×((List (UInt64))×(List (UInt64))×(List (UInt64))×(List (UInt64))×Unit)
def tj:Shape:=⟨29,[(4,.ptr 0 0 0),(6,.ptr 1 0 0),(7,.val false .u64)],[(0,.row .u64),(1,.row .u64)],0,true⟩
abbrev ld:Type:=((Unit)×(Unit)×(UInt64)×Unit)×((List (UInt64))×(List (UInt64))×Unit)
def aaE:SE->Option Shape:=kn [(0,tj)] none
def alF (a7:UInt64) (a9:Int) (c0:List (UInt64)) (c1:List (UInt64)) (c2:List (UInt64)) (c3:List (UInt64)):OT (Sum cW aQ):=
 let z0:Bool:=inB a9 4
 let z1:UInt64:=List.getD c0 (Int.toNat a9+0) (0:UInt64)
 let z2:UInt64:=List.getD c1 (Int.toNat a9+0) (0:UInt64)
 (.br (decide (a9<(4:Int)))
 (gd [z0,decide (Int.toNat a9+0<List.length c0),z0,decide (Int.toNat a9+0<List.length c1),xX ((z1,z2,a7,()),()),z0,decide (Int.toNat a9+0<List.length c3),inR (a9+(1:Int))] (.ok (.inl (((),((),((),((),(tf z1 z2 a7,(a9+(1:Int),())))))),(c0,(c1,(c2,(List.set c3 (Int.toNat a9+0) (qY z1 z2 a7),()))))))))
 (.ok (.inr ⟨(.exit 0,tj),(((),((),(a7,()))),(c2,(c3,())))⟩)))
def A0 (s:cW):OT (Sum cW aQ):=alF (s.1.2.2.2.2.1) (s.1.2.2.2.2.2.1) (s.2.1) (s.2.2.1) (s.2.2.2.1) (s.2.2.2.2.1)
theorem alC (s:cW) (Q:Sum cW aQ->Prop):wps te qW az 1000 (bL (ao Tryz.f119) 0) (AZ.inj s) (df AZ aaE (Q:Sum AZ.T aQ->Prop))=(A0 s).wpR Q:=by kernel_rfl
def HD (g0_0:cW->ld) (s:cW):OT aQ:=(.ok ⟨(.exit 0,tj),g0_0 s⟩)
def OO:ax:=⟨[.val true .elem,.val false .bool],[],false⟩
def SF:SV->Option ax:=λ_=>some OO
def aaH (ok0:cW->Bool) (g0_0:cW->ld) (a0:aa) (a1:aa):OT nE.Y:=
 let z0:(PUnit×PUnit×PUnit×PUnit×UInt64×Int×PUnit)×List UInt64×List UInt64×List UInt64×List UInt64×PUnit:=(((),(),(),(),(0:UInt64),(0:Int),()),[a0.w0,a0.w1,a0.w2,a0.w3],[a1.w0,a1.w1,a1.w2,a1.w3],[(0:UInt64),(0:UInt64),(0:UInt64),(0:UInt64)],[(0:UInt64),(0:UInt64),(0:UInt64),(0:UInt64)],())
 let z1:(PUnit×PUnit×UInt64×PUnit)×List UInt64×List UInt64×PUnit:=g0_0 z0
 let z2:=z1.snd
 let z3:=z2.snd.fst
 let z4:=z2.fst
 let z5:List UInt64:=lay z4 z3 4 (0:UInt64)
 (gd [ok0 z0,decide (4<=List.length z3),decide ((4/1:Nat)+0<=List.length z4),decide (4<=List.length z5)] (.ok ⟨OO,(({w0:=List.getD z5 0 0,w1:=List.getD z5 1 0,w2:=List.getD z5 2 0,w3:=List.getD z5 3 0},(!z1.fst.snd.snd.fst==(0:UInt64),())),())⟩))
theorem apo (ok0:cW->Bool) (g0_0:cW->ld) (x:Xp) (Q:nE.Y->Prop):wpf te qW (bn 0 (dC AZ 0 ok0 (HD g0_0)) az) 1000 Tryz.f119 (nE.inp.inj x).tm (nE.inp.inj x).hp (fnK nE SF Q) (λ_ _=>False)=(aaH ok0 g0_0 (x.1.1) (x.1.2.1)).wpR Q:=by kernel_rfl
theorem aaF (ok0:cW->Bool) (g0_0:cW->ld) (h0:∀ s:cW,ok0 s=true->∃ m e,av (A0) m s=some e/\(HD g0_0 s).run=some e) (pre:Xp->Bool) (F:Xp->OT nE.Y) (hF:∀ (x:Xp) oy,pre x=true->(F x).run=some oy->(aaH ok0 g0_0 (x.1.1) (x.1.2.1)).run=some oy):ac Tryz.prog 119 (nE.aI pre F):=
 aE au nh zT (f:=119) (fn:=Tryz.f119) (c:=ao Tryz.f119) (by kernel_rfl) (by kernel_rfl) (by kernel_rfl) (S:=nE) (k:=0) (by kernel_rfl) (λR hR=>(aH (c:=(ao Tryz.f119)) (by kernel_rfl) (id:=0) (by kernel_rfl) (bz au nh zT (sh:=AZ) hR (xs:=aaE) (aJ (by kernel_rfl) (by kernel_rfl) hR) aY ag (n:=1000) (T:=A0) (λs Q=>alC s Q) (ok:=ok0) (f:=HD g0_0) h0) ag)) (n:=1000) (sel:=SF) (λv o h=>by cases h;rfl) (pre:=pre) (F:=F) (T:=λx=>aaH ok0 g0_0 (x.1.1) (x.1.2.1)) (λx Q=>apo ok0 g0_0 x Q) hF
def Ff (a b:List UInt64) (k:Nat) (s:List UInt64×UInt64):List UInt64×UInt64:=(s.1.set k (qY (a.getD k 0) (b.getD k 0) s.2),tf (a.getD k 0) (b.getD k 0) s.2)
def SH (s:cW):Bool:=decide (s.1.2.2.2.2.1=0/\s.1.2.2.2.2.2.1=0/\s.2.1.length=4/\s.2.2.1.length=4/\s.2.2.2.2.1= [0,0,0,0])
def aaG (s:cW):ld:=(((),(),(upto (Ff s.2.1 s.2.2.1) ([0,0,0,0],0) 4).2,()),(s.2.2.2.1,(upto (Ff s.2.1 s.2.2.1) ([0,0,0,0],0) 4).1,()))
theorem alE:∀ s:cW,SH s=true->∃ m e,av A0 m s=some e/\(HD aaG s).run=some e:=by
 rintro ⟨⟨⟨⟩,⟨⟩,⟨⟩,⟨⟩,c,i,⟨⟩⟩,⟨c0,c1,c2,c3,⟨⟩⟩⟩ h
 have h':=of_decide_eq_true h
 dsimp only at h'
 obtain ⟨rfl,rfl,h0,h1,rfl⟩:=h'
 have:=(bP (T:=A0) (λk s=>((((),(),(),(),s.2,(k:Int),()),(c0,c1,c2,s.1,())):cW)) (Ff c0 c1)
  (λs=>(⟨(.exit 0,tj),(((),(),s.2,()),(c2,s.1,()))⟩:aQ)) 4 ([0,0,0,0],0) (λ_ s=>s.1.length=4/\s.2.toNat<=1) ⟨rfl,by decide⟩ (λk s hk hs=>⟨?_,?_⟩) (λs hs=> ?_)).1
 ·obtain ⟨m,hm⟩:=this
  exact ⟨m,_,hm,rfl⟩
 ·refine (OT.ap (decide_eq_true (by dsimp only;omega))).trans ((al ?_).trans ?_)
  ·simp only [Int.toNat_natCast,Nat.add_zero,h0,h1,hs.1,List.all_cons,List.all_nil,Bool.and_true,Bool.and_eq_true]
   exact ⟨bG (by omega),decide_eq_true (by omega),bG (by omega),decide_eq_true (by omega),decide_eq_true hs.2,bG (by omega),decide_eq_true (by omega),bF (by omega)⟩
  ·simp only [OT.kq,Int.toNat_natCast,Nat.add_zero]
   rfl
 ·exact ⟨by simp only [Ff,List.length_set];exact hs.1,ya hs.2⟩
 ·exact OT.ay (decide_eq_false (by dsimp only;omega))
theorem ao6 (x y:List UInt64) (hx:x.length=4) (hy:y.length=4):lay x y 4 0=y:=ad9 hx hy
def SG (_:Xp):Bool:=true
def aaI (x:Xp):OT nE.Y:=.ok ⟨OO,(((tg x.1.1 x.1.2.1).1,((tg x.1.1 x.1.2.1).2,())),())⟩
theorem alD:ac Tryz.prog 119 (nE.aI SG aaI):=aaF SH aaG alE _ _ λx oy hp ho=>by
 rw [<-ho]
 clear ho
 obtain ⟨⟨a,b,⟨⟩⟩,⟨⟩⟩:=x
 obtain ⟨_,hw⟩:=Fg a b
 refine (al ?_).trans ?_
 ·simp only [List.all_cons,List.all_nil,Bool.and_true,Bool.and_eq_true]
  exact ⟨rfl,rfl,rfl,rfl⟩
 ·simp only [aaI,hw]
  rfl
def AY:cN:=(nE.aI SG aaI)
theorem Xo:ac Tryz.prog 119 AY:=alD
theorem Xn:aK AY:=aB
def Hi:Env:=aA 119 AY qW
theorem va:aW Tryz.prog Hi:=ai Xo nh
theorem DP:aw Hi:=ae Xn vW
theorem Hh:bc Tryz.prog te Hi:=aO follows au va DP
def nC:aq:=⟨[.val true .elem,.val true .elem],[],true,0,false⟩
abbrev Xh:Type:=((aa)×(aa)×Unit)×(Unit)
def AR:Shape:=⟨29,[(2,.ptr 0 0 0),(3,.ptr 1 0 0),(4,.ptr 2 0 0),(6,.ptr 3 0 0),(7,.val false .u64),(9,.val false .int)],[(0,.row .u64),(1,.row .u64),(2,.row .u64),(3,.row .u64)],0,true⟩
abbrev cV:Type:=((Unit)×(Unit)×(Unit)×(Unit)×(UInt64)×(Int)×Unit)×((List (UInt64))×(List (UInt64))×(List (UInt64))×(List (UInt64))×Unit)
def th:Shape:=⟨29,[(4,.ptr 0 0 0),(6,.ptr 1 0 0),(7,.val false .u64)],[(0,.row .u64),(1,.row .u64)],0,true⟩
abbrev lc:Type:=((Unit)×(Unit)×(UInt64)×Unit)×((List (UInt64))×(List (UInt64))×Unit)
def aar:SE->Option Shape:=kn [(0,th)] none
def alz (a7:UInt64) (a9:Int) (c0:List (UInt64)) (c1:List (UInt64)) (c2:List (UInt64)) (c3:List (UInt64)):OT (Sum cV aQ):=
 let z0:Bool:=inB a9 4
 let z1:UInt64:=List.getD c0 (Int.toNat a9+0) (0:UInt64)
 let z2:UInt64:=List.getD c1 (Int.toNat a9+0) (0:UInt64)
 (.br (decide (a9<(4:Int)))
 (gd [z0,decide (Int.toNat a9+0<List.length c0),z0,decide (Int.toNat a9+0<List.length c1),xQ ((z1,z2,a7,()),()),z0,decide (Int.toNat a9+0<List.length c3),inR (a9+(1:Int))] (.ok (.inl (((),((),((),((),(Kr z1 z2 a7,(a9+(1:Int),())))))),(c0,(c1,(c2,(List.set c3 (Int.toNat a9+0) (mr z1 z2 a7),()))))))))
 (.ok (.inr ⟨(.exit 0,th),(((),((),(a7,()))),(c2,(c3,())))⟩)))
def AS (s:cV):OT (Sum cV aQ):=alz (s.1.2.2.2.2.1) (s.1.2.2.2.2.2.1) (s.2.1) (s.2.2.1) (s.2.2.2.1) (s.2.2.2.2.1)
theorem alw (s:cV) (Q:Sum cV aQ->Prop):wps te Hi az 1000 (bL (ao Tryz.f125) 0) (AR.inj s) (df AR aar (Q:Sum AR.T aQ->Prop))=(AS s).wpR Q:=by kernel_rfl
def HB (g0_0:cV->lc) (s:cV):OT aQ:=(.ok ⟨(.exit 0,th),g0_0 s⟩)
def OK:ax:=⟨[.val true .elem,.val false .bool],[],false⟩
def Su:SV->Option ax:=λ_=>some OK
def aau (ok0:cV->Bool) (g0_0:cV->lc) (a0:aa) (a1:aa):OT nC.Y:=
 let z0:(PUnit×PUnit×PUnit×PUnit×UInt64×Int×PUnit)×List UInt64×List UInt64×List UInt64×List UInt64×PUnit:=(((),(),(),(),(0:UInt64),(0:Int),()),[a0.w0,a0.w1,a0.w2,a0.w3],[a1.w0,a1.w1,a1.w2,a1.w3],[(0:UInt64),(0:UInt64),(0:UInt64),(0:UInt64)],[(0:UInt64),(0:UInt64),(0:UInt64),(0:UInt64)],())
 let z1:(PUnit×PUnit×UInt64×PUnit)×List UInt64×List UInt64×PUnit:=g0_0 z0
 let z2:=z1.snd
 let z3:=z2.snd.fst
 let z4:=z2.fst
 let z5:List UInt64:=lay z4 z3 4 (0:UInt64)
 (gd [ok0 z0,decide (4<=List.length z3),decide ((4/1:Nat)+0<=List.length z4),decide (4<=List.length z5)] (.ok ⟨OK,(({w0:=List.getD z5 0 0,w1:=List.getD z5 1 0,w2:=List.getD z5 2 0,w3:=List.getD z5 3 0},(!z1.fst.snd.snd.fst==(0:UInt64),())),())⟩))
theorem apl (ok0:cV->Bool) (g0_0:cV->lc) (x:Xh) (Q:nC.Y->Prop):wpf te Hi (bn 0 (dC AR 0 ok0 (HB g0_0)) az) 1000 Tryz.f125 (nC.inp.inj x).tm (nC.inp.inj x).hp (fnK nC Su Q) (λ_ _=>False)=(aau ok0 g0_0 (x.1.1) (x.1.2.1)).wpR Q:=by kernel_rfl
theorem aas (ok0:cV->Bool) (g0_0:cV->lc) (h0:∀ s:cV,ok0 s=true->∃ m e,av (AS) m s=some e/\(HB g0_0 s).run=some e) (pre:Xh->Bool) (F:Xh->OT nC.Y) (hF:∀ (x:Xh) oy,pre x=true->(F x).run=some oy->(aau ok0 g0_0 (x.1.1) (x.1.2.1)).run=some oy):ac Tryz.prog 125 (nC.aI pre F):=
 aE au va Hh (f:=125) (fn:=Tryz.f125) (c:=ao Tryz.f125) (by kernel_rfl) (by kernel_rfl) (by kernel_rfl) (S:=nC) (k:=0) (by kernel_rfl) (λR hR=>(aH (c:=(ao Tryz.f125)) (by kernel_rfl) (id:=0) (by kernel_rfl) (bz au va Hh (sh:=AR) hR (xs:=aar) (aJ (by kernel_rfl) (by kernel_rfl) hR) aY ag (n:=1000) (T:=AS) (λs Q=>alw s Q) (ok:=ok0) (f:=HB g0_0) h0) ag)) (n:=1000) (sel:=Su) (λv o h=>by cases h;rfl) (pre:=pre) (F:=F) (T:=λx=>aau ok0 g0_0 (x.1.1) (x.1.2.1)) (λx Q=>apl ok0 g0_0 x Q) hF
def ER (a b:List UInt64) (k:Nat) (s:List UInt64×UInt64):List UInt64×UInt64:=(s.1.set k (mr (a.getD k 0) (b.getD k 0) s.2),Kr (a.getD k 0) (b.getD k 0) s.2)
def Sw (s:cV):Bool:=decide (s.1.2.2.2.2.1=0/\s.1.2.2.2.2.2.1=0/\s.2.1.length=4/\s.2.2.1.length=4/\s.2.2.2.2.1= [0,0,0,0])
def aat (s:cV):lc:=(((),(),(upto (ER s.2.1 s.2.2.1) ([0,0,0,0],0) 4).2,()),(s.2.2.2.1,(upto (ER s.2.1 s.2.2.1) ([0,0,0,0],0) 4).1,()))
theorem aly:∀ s:cV,Sw s=true->∃ m e,av AS m s=some e/\(HB aat s).run=some e:=by
 rintro ⟨⟨⟨⟩,⟨⟩,⟨⟩,⟨⟩,c,i,⟨⟩⟩,⟨c0,c1,c2,c3,⟨⟩⟩⟩ h
 have h':=of_decide_eq_true h
 dsimp only at h'
 obtain ⟨rfl,rfl,h0,h1,rfl⟩:=h'
 have:=(bP (T:=AS) (λk s=>((((),(),(),(),s.2,(k:Int),()),(c0,c1,c2,s.1,())):cV)) (ER c0 c1)
  (λs=>(⟨(.exit 0,th),(((),(),s.2,()),(c2,s.1,()))⟩:aQ)) 4 ([0,0,0,0],0) (λ_ s=>s.1.length=4/\s.2.toNat<=1) ⟨rfl,by decide⟩ (λk s hk hs=>⟨?_,?_⟩) (λs hs=> ?_)).1
 ·obtain ⟨m,hm⟩:=this
  exact ⟨m,_,hm,rfl⟩
 ·refine (OT.ap (decide_eq_true (by dsimp only;omega))).trans ((al ?_).trans ?_)
  ·simp only [Int.toNat_natCast,Nat.add_zero,h0,h1,hs.1,List.all_cons,List.all_nil,Bool.and_true,Bool.and_eq_true]
   exact ⟨bG (by omega),decide_eq_true (by omega),bG (by omega),decide_eq_true (by omega),decide_eq_true hs.2,bG (by omega),decide_eq_true (by omega),bF (by omega)⟩
  ·simp only [OT.kq,Int.toNat_natCast,Nat.add_zero]
   rfl
 ·exact ⟨by simp only [ER,List.length_set];exact hs.1,wb⟩
 ·exact OT.ay (decide_eq_false (by dsimp only;omega))
def Sv (_:Xh):Bool:=true
def aav (x:Xh):OT nC.Y:=.ok ⟨OK,(((kT x.1.1 x.1.2.1).1,((kT x.1.1 x.1.2.1).2,())),())⟩
theorem alx:ac Tryz.prog 125 (nC.aI Sv aav):=aas Sw aat aly _ _ λx oy hp ho=>by
 rw [<-ho]
 clear ho
 obtain ⟨⟨a,b,⟨⟩⟩,⟨⟩⟩:=x
 obtain ⟨_,hw⟩:=Fj a b
 refine (al ?_).trans ?_
 ·simp only [List.all_cons,List.all_nil,Bool.and_true,Bool.and_eq_true]
  exact ⟨rfl,rfl,rfl,rfl⟩
 ·simp only [aav,hw]
  rfl
def AQ:cN:=(nC.aI Sv aav)
theorem Xg:ac Tryz.prog 125 AQ:=alx
theorem Xf:aK AQ:=aB
def Ob:Env:=aA 125 AQ Hi
theorem DK:aW Tryz.prog Ob:=ai Xg va
theorem DL:aw Ob:=ae Xf DP
theorem Z9:bc Tryz.prog te Ob:=aO follows au DK DL
def jm:aq:=⟨[.val true .elem,.val true .elem],[],true,0,false⟩
abbrev Fh:Type:=((aa)×(aa)×Unit)×(Unit)
def HC:ax:=⟨[.val false .bool],[],false⟩
def Kw:SV->Option ax:=λ_=>some HC
def ON (a0:aa) (a1:aa):OT jm.Y:=
 (.ok ⟨HC,(((kT a0 a1).snd,()),())⟩)
theorem alA (x:Fh) (Q:jm.Y->Prop):wpf te Ob az 1000 Tryz.f86 (jm.inp.inj x).tm (jm.inp.inj x).hp (fnK jm Kw Q) (λ_ _=>False)=(ON (x.1.1) (x.1.2.1)).wpR Q:=by kernel_rfl
theorem Xi (pre:Fh->Bool) (F:Fh->OT jm.Y) (hF:∀ (x:Fh) oy,pre x=true->(F x).run=some oy->(ON (x.1.1) (x.1.2.1)).run=some oy):ac Tryz.prog 86 (jm.aI pre F):=
 aE au DK Z9 (f:=86) (fn:=Tryz.f86) (c:=ao Tryz.f86) (by kernel_rfl) (by kernel_rfl) (by kernel_rfl) (S:=jm) (k:=0) (by kernel_rfl) (λR hR=>ag) (n:=1000) (sel:=Kw) (λv o h=>by cases h;rfl) (pre:=pre) (F:=F) (T:=λx=>ON (x.1.1) (x.1.2.1)) (λx Q=>alA x Q) hF
def Kx (_:Fh):Bool:=true
def aaz (x:Fh):OT jm.Y:=.ok ⟨HC,((Nat.blt x.1.1.nat x.1.2.1.nat,()),())⟩
theorem agr:ac Tryz.prog 86 (jm.aI Kx aaz):=Xi _ _ λx oy _ ho=>ho
def v8:cN:=(jm.aI Kx aaz)
theorem OM:ac Tryz.prog 86 v8:=agr
theorem OL:aK v8:=aB
def DM:Env:=aA 86 v8 Ob
theorem yb:aW Tryz.prog DM:=ai OM DK
theorem zh:aw DM:=ae OL DL
theorem R4:bc Tryz.prog te DM:=aO follows au yb zh
def ni:aq:=⟨[.val true .elem,.val false .int],[],true,0,false⟩
abbrev Xl:Type:=((aa)×(Int)×Unit)×(Unit)
def v9:ax:=⟨[.val false .bool],[],false⟩
def SB:SV->Option ax:=λ_=>some v9
def aaD (a0:aa) (a1:Int):OT ni.Y:=
 let z0:Int:=Int.tdiv a1 (64:Int)
 let z1:Int:=Int.tmod a1 (64:Int)
 (.br (decide ((0:Int)<=a1))
 (.br (decide (a1<(256:Int)))
  (gd [true&&inR z0,inB z0 4,decide (Int.toNat z0+0<4),decide ((0:Int)<=z1)] (.ok ⟨v9,((bu (List.getD [a0.w0,a0.w1,a0.w2,a0.w3] (Int.toNat z0+0) (0:UInt64)) z1&&&(1:UInt64)==(1:UInt64),()),())⟩))
  (.ok ⟨v9,((false,()),())⟩))
 (.ok ⟨v9,((false,()),())⟩))
theorem apn (x:Xl) (Q:ni.Y->Prop):wpf te DM az 1000 Tryz.f84 (ni.inp.inj x).tm (ni.inp.inj x).hp (fnK ni SB Q) (λ_ _=>False)=(aaD (x.1.1) (x.1.2.1)).wpR Q:=by kernel_rfl
theorem aaC (pre:Xl->Bool) (F:Xl->OT ni.Y) (hF:∀ (x:Xl) oy,pre x=true->(F x).run=some oy->(aaD (x.1.1) (x.1.2.1)).run=some oy):ac Tryz.prog 84 (ni.aI pre F):=
 aE au yb R4 (f:=84) (fn:=Tryz.f84) (c:=ao Tryz.f84) (by kernel_rfl) (by kernel_rfl) (by kernel_rfl) (S:=ni) (k:=0) (by kernel_rfl) (λR hR=>ag) (n:=1000) (sel:=SB) (λv o h=>by cases h;rfl) (pre:=pre) (F:=F) (T:=λx=>aaD (x.1.1) (x.1.2.1)) (λx Q=>apn x Q) hF
def ny (a:aa) (i:Int):Bool:=cond (decide (0<=i)) (cond (decide (i<256)) (Aj a.nat i.toNat) false) false
def SC (_:Xl):Bool:=true
def akA (x:Xl):OT ni.Y:=.ok ⟨v9,((ny x.1.1 x.1.2.1,()),())⟩
theorem afR {a:aa} {i:Int} (h1:0<=i) (h2:i<256):(bu (List.getD [a.w0,a.w1,a.w2,a.w3] (Int.toNat (Int.tdiv i 64)+0) 0) (Int.tmod i 64)&&&1==1)=ny a i:=by
 obtain ⟨n,rfl⟩:∃ n:Nat,i=(n:Int):=⟨i.toNat,by omega⟩
 have hn:n<256:=by omega
 have t1:Int.tdiv (n:Int) 64=((n/64:Nat):Int):=by rw [Int.tdiv_eq_ediv_of_nonneg (by omega)];omega
 have t2:Int.tmod (n:Int) 64=((n%64:Nat):Int):=by rw [Int.tmod_eq_emod_of_nonneg (by omega)];omega
 rw [t1,t2,RP,fT _ _ (by omega),Int.toNat_natCast,Nat.add_zero]
 have:=W6 (a:=a) (q:=n/64) (r:=n%64) (by omega) (by omega)
 rw [show 64*(n/64)+n%64=n by omega] at this
 unfold ny Aj
 rw [decide_eq_true h1,decide_eq_true h2,Int.toNat_natCast]
 simp only [cond_true]
 rw [<-this]
 rfl
theorem alB:ac Tryz.prog 84 (ni.aI SC akA):=aaC _ _ λx oy _ ho=>by
 rw [<-ho]
 clear ho
 obtain ⟨⟨a,i,⟨⟩⟩,⟨⟩⟩:=x
 show _=(OT.ok ⟨v9,((ny a i,()),())⟩:OT ni.Y).run
 by_cases h1:0<=i
 ·refine (OT.ap (decide_eq_true h1)).trans ?_
  by_cases h2:i<256
  ·refine (OT.ap (decide_eq_true h2)).trans ((al ?_).trans ?_)
   ·obtain ⟨n,rfl⟩:∃ n:Nat,i=(n:Int):=⟨i.toNat,by omega⟩
    have t1:Int.tdiv (n:Int) 64=((n/64:Nat):Int):=by rw [Int.tdiv_eq_ediv_of_nonneg (by omega)];omega
    have t2:Int.tmod (n:Int) 64=((n%64:Nat):Int):=by rw [Int.tmod_eq_emod_of_nonneg (by omega)];omega
    simp only [t1,t2,Int.toNat_natCast,Nat.add_zero,List.all_cons,List.all_nil,Bool.and_true,Bool.and_eq_true,Bool.true_and]
    exact ⟨bF (by omega),bG (by omega),decide_eq_true (by omega),decide_eq_true (by omega)⟩
   ·simp only [afR h1 h2]
  ·have e:ny a i=false:=by unfold ny;rw [decide_eq_true h1,decide_eq_false h2];rfl
   rw [e]
   exact OT.ay (decide_eq_false h2)
 ·have e:ny a i=false:=by unfold ny;rw [decide_eq_false h1];rfl
  rw [e]
  exact OT.ay (decide_eq_false h1)
def AW:cN:=(ni.aI SC akA)
theorem Xk:ac Tryz.prog 84 AW:=alB
theorem Xj:aK AW:=aB
def Oc:Env:=aA 84 AW DM
theorem DN:aW Tryz.prog Oc:=ai Xk yb
theorem DO:aw Oc:=ae Xj zh
theorem aaa:bc Tryz.prog te Oc:=aO follows au DN DO
def CU:aq:=⟨[.val false .int],[],true,0,false⟩
abbrev apc:Type:=((Int)×Unit)×(Unit)
def zb:ax:=⟨[.val true (.prod .elem (.prod .int (.prod .u64 (.prod .u64 .elem)))),.val false .int],[],false⟩
def aeF:SV->Option ax:=λ_=>some zb
def aoh (a0:Int):OT CU.Y:=
 let z0:aa:= {w0:=0,w1:=0,w2:=0,w3:=0}
 let z1:UInt64×aa:=((0:UInt64),z0)
 (.br (a0==(0:Int))
 (.ok ⟨zb,((({w0:=16513537,w1:=0,w2:=0,w3:=0},(9:Int),(16513537:UInt64),z1),((0:Int),())),())⟩)
 (.br (a0==(1:Int))
  (.ok ⟨zb,((({w0:=16521217,w1:=0,w2:=0,w3:=0},(11:Int),(16521217:UInt64),z1),((0:Int),())),())⟩)
  (.br (a0==(2:Int))
   (.ok ⟨zb,((({w0:=11037532056220336129,w1:=2469829653914515739,w2:=0,w3:=4611686018427387904},(32:Int),(0:UInt64),(11037532056220336127:UInt64),{w0:=10122100416058490895,w1:=15551789045973377255,w2:=8617542898466512152,w3:=679271340751763220}),((0:Int),())),())⟩)
   (.br (a0==(3:Int))
    (.ok ⟨zb,((({w0:=10108024940646105089,w1:=2469829653919213789,w2:=0,w3:=4611686018427387904},(32:Int),(0:UInt64),(10108024940646105087:UInt64),{w0:=18200867980676431887,w1:=7474641938123724515,w2:=9200329640471491984,w3:=679271340771891881}),((0:Int),())),())⟩)
    (.ok ⟨zb,(((z0,(0:Int),(0:UInt64),z1),((20:Int),())),())⟩)))))
theorem arv (x:apc) (Q:CU.Y->Prop):wpf te Oc az 1000 Tryz.f76 (CU.inp.inj x).tm (CU.inp.inj x).hp (fnK CU aeF Q) (λ_ _=>False)=(aoh (x.1.1)).wpR Q:=by kernel_rfl
theorem ajX (pre:apc->Bool) (F:apc->OT CU.Y) (hF:∀ (x:apc) oy,pre x=true->(F x).run=some oy->(aoh (x.1.1)).run=some oy):ac Tryz.prog 76 (CU.aI pre F):=
 aE au DN aaa (f:=76) (fn:=Tryz.f76) (c:=ao Tryz.f76) (by kernel_rfl) (by kernel_rfl) (by kernel_rfl) (S:=CU) (k:=0) (by kernel_rfl) (λR hR=>ag) (n:=1000) (sel:=aeF) (λv o h=>by cases h;rfl) (pre:=pre) (F:=F) (T:=λx=>aoh (x.1.1)) (λx Q=>arv x Q) hF
abbrev Ku:Type:=aa×Int×UInt64×UInt64×aa
def apX:Ku:=(⟨0,0,0,0⟩,0,0,0,⟨0,0,0,0⟩)
def bO:Nat->Ku
 |0=>(⟨16513537,0,0,0⟩,9,16513537,0,⟨0,0,0,0⟩)
 |1=>(⟨16521217,0,0,0⟩,11,16521217,0,⟨0,0,0,0⟩)
 |2=>(⟨11037532056220336129,2469829653914515739,0,4611686018427387904⟩,32,0,11037532056220336127,⟨10122100416058490895,15551789045973377255,8617542898466512152,679271340751763220⟩)
 |3=>(⟨10108024940646105089,2469829653919213789,0,4611686018427387904⟩,32,0,10108024940646105087,⟨18200867980676431887,7474641938123724515,9200329640471491984,679271340771891881⟩)
 |_=>apX
def ak (s:Int):Bool:=decide (0<=s)&&decide (s<4)
theorem cu {s:Int} (h:ak s=true):s=0\/s=1\/s=2\/s=3:=by
 simp only [ak,Bool.and_eq_true,decide_eq_true_eq] at h
 omega
theorem pB {s:Int} (h:ak s=false):(s==0)=false/\(s==1)=false/\(s==2)=false/\(s==3)=false:=by
 have hn:∀ k:Int,0<=k->k<4->(s==k)=false:=λk h0 h1=>by
  cases hb:s==k
  ·rfl
  ·have:s=k:=by simpa using hb
   subst this
   simp only [ak,decide_eq_true h0,decide_eq_true h1,Bool.and_self] at h
   cases h
 exact ⟨hn 0 (by decide) (by decide),hn 1 (by decide) (by decide),hn 2 (by decide) (by decide),hn 3 (by decide) (by decide)⟩
def aeG (_:apc):Bool:=true
def aqo (x:apc):OT CU.Y:=.br (ak x.1.1) (.ok ⟨zb,((bO x.1.1.toNat,((0:Int),())),())⟩) (.ok ⟨zb,((apX,((20:Int),())),())⟩)
theorem aqn:ac Tryz.prog 76 (CU.aI aeG aqo):=ajX _ _ λx oy _ ho=>by
 rw [<-ho]
 clear ho
 obtain ⟨⟨s,⟨⟩⟩,⟨⟩⟩:=x
 cases hs:ak s
 ·obtain ⟨h0,h1,h2,h3⟩:=pB hs
  exact (OT.ay h0).trans ((OT.ay h1).trans ((OT.ay h2).trans ((OT.ay h3).trans (OT.ay (b:=ak s) hs).symm)))
 ·rcases cu hs with h|h|h|h
  all_goals
   have h:s=_:=h
   subst h
   rfl
def Jl:cN:=(CU.aI aeG aqo)
theorem aeH:ac Tryz.prog 76 Jl:=aqn
theorem aeE:aK Jl:=aB
def agj:Env:=aA 76 Jl Oc
theorem Kj:aW Tryz.prog agj:=ai aeH DN
theorem Hr:aw agj:=ae aeE DO
theorem agi:bc Tryz.prog te agj:=aO follows au Kj Hr
def oO:aq:=⟨[.val false .int],[],true,0,false⟩
abbrev Zg:Type:=((Int)×Unit)×(Unit)
def C2:ax:=⟨[.val true .elem,.val false .int],[],false⟩
def Wp:SV->Option ax:=λ_=>some C2
def aeP (a0:Int):OT oO.Y:=
 (.br (ak a0)
 (.ok ⟨C2,(((bO (Int.toNat a0)).fst,((0:Int),())),())⟩)
 (.ok ⟨C2,(({w0:=0,w1:=0,w2:=0,w3:=0},((20:Int),())),())⟩))
theorem aqs (x:Zg) (Q:oO.Y->Prop):wpf te agj az 1000 Tryz.f66 (oO.inp.inj x).tm (oO.inp.inj x).hp (fnK oO Wp Q) (λ_ _=>False)=(aeP (x.1.1)).wpR Q:=by kernel_rfl
theorem aeO (pre:Zg->Bool) (F:Zg->OT oO.Y) (hF:∀ (x:Zg) oy,pre x=true->(F x).run=some oy->(aeP (x.1.1)).run=some oy):ac Tryz.prog 66 (oO.aI pre F):=
 aE au Kj agi (f:=66) (fn:=Tryz.f66) (c:=ao Tryz.f66) (by kernel_rfl) (by kernel_rfl) (by kernel_rfl) (S:=oO) (k:=0) (by kernel_rfl) (λR hR=>ag) (n:=1000) (sel:=Wp) (λv o h=>by cases h;rfl) (pre:=pre) (F:=F) (T:=λx=>aeP (x.1.1)) (λx Q=>aqs x Q) hF
def Wq (_:Zg):Bool:=true
def alg (x:Zg):OT oO.Y:=.br (ak x.1.1) (.ok ⟨C2,(((bO x.1.1.toNat).1,((0:Int),())),())⟩) (.ok ⟨C2,((⟨0,0,0,0⟩,((20:Int),())),())⟩)
theorem aom:ac Tryz.prog 66 (oO.aI Wq alg):=aeO _ _ λx oy _ ho=>ho
def C1:cN:=(oO.aI Wq alg)
theorem Zf:ac Tryz.prog 66 C1:=aom
theorem Ze:aK C1:=aB
def Eu:Env:=aA 66 C1 agj
theorem po:aW Tryz.prog Eu:=ai Zf Kj
theorem Et:aw Eu:=ae Ze Hr
theorem yC:bc Tryz.prog te Eu:=aO follows au po Et
def lU:aq:=⟨[.val true (.prod .elem (.prod .int (.prod .u64 (.prod .u64 .elem)))),.val true .elem],[],true,0,false⟩
abbrev Y5:Type:=(((aa×(Int×(UInt64×(UInt64×aa)))))×(aa)×Unit)×(Unit)
def CO:Shape:=⟨53,[(2,.ptr 0 0 0),(3,.ptr 1 0 0),(4,.ptr 2 0 0),(5,.val false .u64),(6,.val false .int)],[(0,.cells [.val false .u64,.val false .u64,.val false .u64,.val false .u64,.val false .int,.val false .u64,.val false .u64,.val false .u64,.val false .u64,.val false .u64,.val false .u64]),(1,.row .u64),(2,.row .u64)],0,true⟩
abbrev c8:Type:=((Unit)×(Unit)×(Unit)×(UInt64)×(Int)×Unit)×(((UInt64)×(UInt64)×(UInt64)×(UInt64)×(Int)×(UInt64)×(UInt64)×(UInt64)×(UInt64)×(UInt64)×(UInt64)×Unit)×(List (UInt64))×(List (UInt64))×Unit)
def uK:Shape:=⟨53,[(4,.ptr 0 0 0),(5,.val false .u64)],[(0,.row .u64)],0,true⟩
abbrev lT:Type:=((Unit)×(UInt64)×Unit)×((List (UInt64))×Unit)
def aeC:SE->Option Shape:=kn [(0,uK)] none
def aof (a5:UInt64) (a6:Int) (c0_0:UInt64) (c0_1:UInt64) (c0_2:UInt64) (c0_3:UInt64) (c0_4:Int) (c0_5:UInt64) (c0_6:UInt64) (c0_7:UInt64) (c0_8:UInt64) (c0_9:UInt64) (c0_10:UInt64) (c1:List (UInt64)) (c2:List (UInt64)):OT (Sum c8 aQ):=
 let z0:UInt64:=List.getD c1 (Int.toNat a6+0) (0:UInt64)
 (.br (decide ((0:Int)<=a6))
 (gd [inB a6 4,decide (Int.toNat a6+0<List.length c1),qG ((a5,z0,c0_5,()),()),inR (a6-(1:Int))] (.ok (.inl (((),((),((),(Nj a5 z0 c0_5,(a6-(1:Int),()))))),((c0_0,(c0_1,(c0_2,(c0_3,(c0_4,(c0_5,(c0_6,(c0_7,(c0_8,(c0_9,(c0_10,()))))))))))),(c1,(c2,())))))))
 (.ok (.inr ⟨(.exit 0,uK),(((),(a5,())),(c2,()))⟩)))
def CR (s:c8):OT (Sum c8 aQ):=aof (s.1.2.2.2.1) (s.1.2.2.2.2.1) (s.2.1.1) (s.2.1.2.1) (s.2.1.2.2.1) (s.2.1.2.2.2.1) (s.2.1.2.2.2.2.1) (s.2.1.2.2.2.2.2.1) (s.2.1.2.2.2.2.2.2.1) (s.2.1.2.2.2.2.2.2.2.1) (s.2.1.2.2.2.2.2.2.2.2.1) (s.2.1.2.2.2.2.2.2.2.2.2.1) (s.2.1.2.2.2.2.2.2.2.2.2.2.1) (s.2.2.1) (s.2.2.2.1)
theorem aoa (s:c8) (Q:Sum c8 aQ->Prop):wps te Eu az 1000 (bL (ao Tryz.f91) 0) (CO.inj s) (df CO aeC (Q:Sum CO.T aQ->Prop))=(CR s).wpR Q:=by kernel_rfl
def Jk (g0_0:c8->lT) (s:c8):OT aQ:=(.ok ⟨(.exit 0,uK),g0_0 s⟩)
def CN:Shape:=⟨53,[(2,.ptr 0 0 0),(3,.ptr 1 0 0),(4,.ptr 2 0 0)],[(0,.cells [.val false .u64,.val false .u64,.val false .u64,.val false .u64,.val false .int,.val false .u64,.val false .u64,.val false .u64,.val false .u64,.val false .u64,.val false .u64]),(1,.row .u64),(2,.row .u64)],0,true⟩
abbrev cZ:Type:=((Unit)×(Unit)×(Unit)×Unit)×(((UInt64)×(UInt64)×(UInt64)×(UInt64)×(Int)×(UInt64)×(UInt64)×(UInt64)×(UInt64)×(UInt64)×(UInt64)×Unit)×(List (UInt64))×(List (UInt64))×Unit)
def oK:Shape:=⟨53,[(4,.ptr 0 0 0)],[(0,.row .u64)],0,true⟩
abbrev lS:Type:=((Unit)×Unit)×((List (UInt64))×Unit)
def aeB:SE->Option Shape:=kn [] (some oK)
def aoe (c0_0:UInt64) (c0_1:UInt64) (c0_2:UInt64) (c0_3:UInt64) (c0_4:Int) (c0_5:UInt64) (c0_6:UInt64) (c0_7:UInt64) (c0_8:UInt64) (c0_9:UInt64) (c0_10:UInt64) (c1:List (UInt64)) (c2:List (UInt64)):OT (Sum cZ aQ):=
 let z0:Nat:=List.length c1
 let z1:Bool:=decide (4<=z0)
 let z2:aa×Bool:=kT {w0:=List.getD c1 0 0,w1:=List.getD c1 1 0,w2:=List.getD c1 2 0,w3:=List.getD c1 3 0} {w0:=c0_0,w1:=c0_1,w2:=c0_2,w3:=c0_3}
 let z3:=z2.fst
 (gd [z1] (.br (z2.snd)
 (gd [z1,decide ((4/1:Nat)+0<=List.length c2)] (.ok (.inr ⟨(.ret,oK),(((),()),(lay c2 c1 4 (0:UInt64),()))⟩)))
 (gd [decide ((4/1:Nat)+0<=z0)] (.ok (.inl (((),((),((),()))),((c0_0,(c0_1,(c0_2,(c0_3,(c0_4,(c0_5,(c0_6,(c0_7,(c0_8,(c0_9,(c0_10,()))))))))))),(List.set (List.set (List.set (List.set c1 0 z3.w0) 1 z3.w1) 2 z3.w2) 3 z3.w3,(c2,())))))))))
def CQ (s:cZ):OT (Sum cZ aQ):=aoe (s.2.1.1) (s.2.1.2.1) (s.2.1.2.2.1) (s.2.1.2.2.2.1) (s.2.1.2.2.2.2.1) (s.2.1.2.2.2.2.2.1) (s.2.1.2.2.2.2.2.2.1) (s.2.1.2.2.2.2.2.2.2.1) (s.2.1.2.2.2.2.2.2.2.2.1) (s.2.1.2.2.2.2.2.2.2.2.2.1) (s.2.1.2.2.2.2.2.2.2.2.2.2.1) (s.2.2.1) (s.2.2.2.1)
theorem an9 (s:cZ) (Q:Sum cZ aQ->Prop):wps te Eu az 1000 (bL (ao Tryz.f91) 2) (CN.inj s) (df CN aeB (Q:Sum CN.T aQ->Prop))=(CQ s).wpR Q:=by kernel_rfl
def Jj (g2_r:cZ->lS) (s:cZ):OT aQ:=(.ok ⟨(.ret,oK),g2_r s⟩)
def mV:ax:=⟨[.val true .elem],[],false⟩
def Wi:SV->Option ax:=λ_=>some mV
def CS (ok0:c8->Bool) (g0_0:c8->lT) (ok2:cZ->Bool) (g2_r:cZ->lS) (a0:(aa×(Int×(UInt64×(UInt64×aa))))) (a1:aa):OT lU.Y:=
 let z0:Bool:= !a0.snd.snd.fst==(0:UInt64)
 let z1:(UInt64×UInt64×UInt64×UInt64×Int×UInt64×UInt64×UInt64×UInt64×UInt64×UInt64×PUnit)×List UInt64×List UInt64×PUnit:=((a0.fst.w0,a0.fst.w1,a0.fst.w2,a0.fst.w3,a0.snd.fst,a0.snd.snd.fst,a0.snd.snd.snd.fst,a0.snd.snd.snd.snd.w0,a0.snd.snd.snd.snd.w1,a0.snd.snd.snd.snd.w2,a0.snd.snd.snd.snd.w3,()),[a1.w0,a1.w1,a1.w2,a1.w3],[(0:UInt64),(0:UInt64),(0:UInt64),(0:UInt64)],())
 let z2:(PUnit×PUnit×PUnit×UInt64×Int×PUnit)×(UInt64×UInt64×UInt64×UInt64×Int×UInt64×UInt64×UInt64×UInt64×UInt64×UInt64×PUnit)×List UInt64×List UInt64×PUnit:=(((),(),(),(0:UInt64),(3:Int),()),z1)
 let z3:(PUnit×UInt64×PUnit)×List UInt64×PUnit:=g0_0 z2
 let z4:=z3.snd.fst
 let z5:List UInt64:=List.set (List.set (List.set (List.set z4 0 z3.fst.snd.fst) 1 (0:UInt64)) 2 (0:UInt64)) 3 (0:UInt64)
 let z6:(PUnit×PUnit×PUnit×PUnit)×(UInt64×UInt64×UInt64×UInt64×Int×UInt64×UInt64×UInt64×UInt64×UInt64×UInt64×PUnit)×List UInt64×List UInt64×PUnit:=(((),(),(),()),z1)
 let z7:=(g2_r z6).snd.fst
 (.br (z0)
 (.br (a1.w1|||a1.w2|||a1.w3==(0:UInt64))
  (gd [z0] (.ok ⟨mV,(({w0:=a1.w0%a0.snd.snd.fst,w1:=0,w2:=0,w3:=0},()),())⟩))
  (gd [ok0 z2,decide ((4/1:Nat)+0<=List.length z4),decide (4<=List.length z5)] (.ok ⟨mV,(({w0:=List.getD z5 0 0,w1:=List.getD z5 1 0,w2:=List.getD z5 2 0,w3:=List.getD z5 3 0},()),())⟩)))
 (gd [ok2 z6,decide (4<=List.length z7)] (.ok ⟨mV,(({w0:=List.getD z7 0 0,w1:=List.getD z7 1 0,w2:=List.getD z7 2 0,w3:=List.getD z7 3 0},()),())⟩)))
theorem aqm (ok0:c8->Bool) (g0_0:c8->lT) (ok2:cZ->Bool) (g2_r:cZ->lS) (x:Y5) (Q:lU.Y->Prop):wpf te Eu (bn 2 (dC CN 2 ok2 (Jj g2_r)) (bn 0 (dC CO 0 ok0 (Jk g0_0)) az)) 1000 Tryz.f91 (lU.inp.inj x).tm (lU.inp.inj x).hp (fnK lU Wi Q) (λ_ _=>False)=(CS ok0 g0_0 ok2 g2_r (x.1.1) (x.1.2.1)).wpR Q:=by kernel_rfl
theorem aeD (ok0:c8->Bool) (g0_0:c8->lT) (ok2:cZ->Bool) (g2_r:cZ->lS) (h0:∀ s:c8,ok0 s=true->∃ m e,av (CR) m s=some e/\(Jk g0_0 s).run=some e) (h2:∀ s:cZ,ok2 s=true->∃ m e,av (CQ) m s=some e/\(Jj g2_r s).run=some e) (pre:Y5->Bool) (F:Y5->OT lU.Y) (hF:∀ (x:Y5) oy,pre x=true->(F x).run=some oy->(CS ok0 g0_0 ok2 g2_r (x.1.1) (x.1.2.1)).run=some oy):ac Tryz.prog 91 (lU.aI pre F):=
 aE au po yC (f:=91) (fn:=Tryz.f91) (c:=ao Tryz.f91) (by kernel_rfl) (by kernel_rfl) (by kernel_rfl) (S:=lU) (k:=0) (by kernel_rfl) (λR hR=>(aH (c:=(ao Tryz.f91)) (by kernel_rfl) (id:=2) (by kernel_rfl) (bz au po yC (sh:=CN) hR (xs:=aeB) (aJ (by kernel_rfl) (by kernel_rfl) hR) aY ag (n:=1000) (T:=CQ) (λs Q=>an9 s Q) (ok:=ok2) (f:=Jj g2_r) h2) (aH (c:=(ao Tryz.f91)) (by kernel_rfl) (id:=0) (by kernel_rfl) (bz au po yC (sh:=CO) hR (xs:=aeC) (aJ (by kernel_rfl) (by kernel_rfl) hR) aY ag (n:=1000) (T:=CR) (λs Q=>aoa s Q) (ok:=ok0) (f:=Jk g0_0) h0) ag))) (n:=1000) (sel:=Wi) (λv o h=>by cases h;rfl) (pre:=pre) (F:=F) (T:=λx=>CS ok0 g0_0 ok2 g2_r (x.1.1) (x.1.2.1)) (λx Q=>aqm ok0 g0_0 ok2 g2_r x Q) hF
def nz (n:Ku):Bool:=decide (n=bO 0)||(decide (n=bO 1)||(decide (n=bO 2)||decide (n=bO 3)))
theorem sb {n:Ku} (h:nz n=true):n=bO 0\/n=bO 1\/n=bO 2\/n=bO 3:=by
 simpa [nz] using h
theorem qg {s:Int} (h:ak s=true):nz (bO s.toNat)=true:=by
 rcases cu h with rfl|rfl|rfl|rfl<;>decide+kernel
def apI (c:List UInt64) (m:UInt64):UInt64:=upto (λk r=>Nj r (c.getD (3-k) 0) m) 0 4
theorem js {m:UInt64} (h:eS m=true):0<m.toNat:=by
 rcases dq h with rfl|rfl<;>decide
theorem UZ {a:aa} {m:UInt64} (h:eS m=true):apI (lst a) m=UInt64.ofNat (a.nat%m.toNat):=by
 have hm:=js h
 rw [<-UInt64.toNat_inj,UInt64.toNat_ofNat',Nat.mod_eq_of_lt (b:=2^64) (Nat.lt_trans (Nat.mod_lt _ hm) m.toNat_lt)]
 show (Nj (Nj (Nj (Nj 0 a.w3 m) a.w2 m) a.w1 m) a.w0 m).toNat=_
 rw [mZ hm,mZ hm,mZ hm,mZ hm,IV _ a.w2.toNat,IV _ a.w1.toNat,IV _ a.w0.toNat,show (0:UInt64).toNat=0 from rfl]
 congr 1
 unfold Sx.aa.nat
 omega
def uJ (s:c8):Bool:=decide (s.1.2.2.2.1=0/\s.1.2.2.2.2.1=3/\s.2.2.1.length=4)&&eS s.2.1.2.2.2.2.2.1
def Ji (s:c8):lT:=(((),apI s.2.2.1 s.2.1.2.2.2.2.2.1,()),(s.2.2.2.1,()))
theorem aod:∀ s:c8,uJ s=true->∃ m e,av CR m s=some e/\(Jk Ji s).run=some e:=by
 rintro ⟨⟨⟨⟩,⟨⟩,⟨⟩,r,i,⟨⟩⟩,⟨⟨x0,x1,x2,x3,x4,sm,x6,x7,x8,x9,x10,⟨⟩⟩,c1,c2,⟨⟩⟩⟩ h
 simp only [uJ,Bool.and_eq_true,decide_eq_true_eq] at h
 obtain ⟨⟨rfl,rfl,hl⟩,hs⟩:=h
 have hm:=js hs
 have:=(bP (T:=CR) (λk r=>((((),(),(),r,3-(k:Int),()),((x0,x1,x2,x3,x4,sm,x6,x7,x8,x9,x10,()),c1,c2,())):c8)) (λk r=>Nj r (c1.getD (3-k) 0) sm)
  (λr=>(⟨(.exit 0,uK),(((),r,()),(c2,()))⟩:aQ)) 4 0 (λ_ r=>r.toNat<sm.toNat) hm (λk r hk hr=>⟨?_,?_⟩) (λr hr=> ?_)).1
 ·obtain ⟨m,hm⟩:=this
  exact ⟨m,_,hm,rfl⟩
 ·have e1:(3-(k:Int)).toNat=3-k:=by omega
  have e2:(3:Int)-(k:Int)-1=3-((k+1:Nat):Int):=by omega
  refine (OT.ap (decide_eq_true (by dsimp only;omega))).trans ((al ?_).trans ?_)
  ·simp only [e1,Nat.add_zero,hl,List.all_cons,List.all_nil,Bool.and_true,Bool.and_eq_true]
   refine ⟨bG (by omega),decide_eq_true (by omega),?_,bF (by omega)⟩
   simp only [qG,Bool.and_eq_true]
   exact ⟨hs,decide_eq_true (UInt64.lt_iff_toNat_lt.2 hr)⟩
  ·simp only [OT.kq,e1,e2,Nat.add_zero]
 ·rw [mZ hm]
  exact Nat.mod_lt _ hm
 ·exact OT.ay (decide_eq_false (by dsimp only;omega))
def arG (s:cZ):aa:=⟨s.2.1.1,s.2.1.2.1,s.2.1.2.2.1,s.2.1.2.2.2.1⟩
def AG (s:cZ):Bool:=decide (s.2.2.1.length=4/\s.2.2.2.1.length=4/\0<(arG s).nat)
def Jh (s:cZ):lS:=(((),()),(lst (ofN ((elemOf s.2.2.1).nat%(arG s).nat)),()))
theorem Y3 {x0 x1 x2 x3 x5 x6 x7 x8 x9 x10:UInt64} {x4:Int} {c2:List UInt64} (hc:c2.length=4) (hm:0<(aa.mk x0 x1 x2 x3).nat):∀ (n:Nat) (a:aa),a.nat=n->
 ∃ m,av CQ m (((),(),(),()),((x0,x1,x2,x3,x4,x5,x6,x7,x8,x9,x10,()),lst a,c2,()))=some ⟨(.ret,oK),(((),()),(lst (ofN (a.nat%(aa.mk x0 x1 x2 x3).nat)),()))⟩:=by
 intro n
 induction n using Nat.strongRecOn with
 |_ n ih=>
  intro a hn
  cases hb:Nat.blt a.nat (aa.mk x0 x1 x2 x3).nat
  ·have hle:(aa.mk x0 x1 x2 x3).nat<=a.nat:=by
    rcases Nat.lt_or_ge a.nat (aa.mk x0 x1 x2 x3).nat with h|h
    ·have:Nat.blt a.nat (aa.mk x0 x1 x2 x3).nat=true:=Nat.ble_eq_true_of_le h
     rw [this] at hb;cases hb
    ·exact h
   have hd:=mo hle
   obtain ⟨m,hm2⟩:=ih (a.nat-(aa.mk x0 x1 x2 x3).nat) (by omega) (kT a ⟨x0,x1,x2,x3⟩).1 hd
   rw [hd,<-Nat.mod_eq_sub_mod hle] at hm2
   refine ⟨m+1,aM ?_ hm2⟩
   refine (al ?_).trans ((OT.ay hb).trans ((al ?_).trans rfl))
   ·rfl
   ·rfl
  ·have hlt:=cJ hb
   rw [Nat.mod_eq_of_lt hlt,qf]
   refine ⟨1,aR ?_⟩
   refine (al ?_).trans ((OT.ap hb).trans ((al ?_).trans ?_))
   ·rfl
   ·simp only [hc,List.all_cons,List.all_nil,Bool.and_true,Bool.and_eq_true]
    exact ⟨rfl,rfl⟩
   ·show some (Sum.inr (⟨(.ret,oK),(((),()),(lay c2 (lst a) 4 0,()))⟩:aQ))=_
    rw [ad9 hc (cS a)]
theorem aoc:∀ s:cZ,AG s=true->∃ m e,av CQ m s=some e/\(Jj Jh s).run=some e:=by
 rintro ⟨⟨⟨⟩,⟨⟩,⟨⟩,⟨⟩⟩,⟨⟨x0,x1,x2,x3,x4,x5,x6,x7,x8,x9,x10,⟨⟩⟩,c1,c2,⟨⟩⟩⟩ h
 have h':=of_decide_eq_true h
 dsimp only [arG] at h'
 obtain ⟨h1,h2,h3⟩:=h'
 obtain ⟨m,hm⟩:=Y3 (x4:=x4) (x5:=x5) (x6:=x6) (x7:=x7) (x8:=x8) (x9:=x9) (x10:=x10) h2 h3 _ (elemOf c1) rfl
 rw [bh h1] at hm
 exact ⟨m,_,hm,rfl⟩
def gD (x:Y5):Bool:=nz x.1.1
def alc (x:Y5):OT lU.Y:=.ok ⟨mV,((ofN (x.1.2.1.nat%x.1.1.1.nat),()),())⟩
theorem om {n:Nat} (h:n<18446744073709551616):ofN n=⟨UInt64.ofNat n,0,0,0⟩:=by
 refine adE (k:=0) ?_
 rw [UInt64.toNat_ofNat',Nat.mod_eq_of_lt (by omega)]
 simp
theorem CP {n:Ku} {a:aa} {m:UInt64} (h1:n.1=⟨m,0,0,0⟩) (h2:n.2.2.1=m) (hs:eS m=true):(CS uJ Ji AG Jh n a).run=some ⟨mV,((ofN (a.nat%n.1.nat),()),())⟩:=by
 have hm:=js hs
 have hn:n.1.nat=m.toNat:=by rw [h1];show m.toNat+_*(0+_*(0+_*0))=_;omega
 have hz:(!(n.2.2.1==0))=true:=by
  rw [h2]
  rcases dq hs with rfl|rfl<;>rfl
 have hlt:a.nat%m.toNat<18446744073709551616:=Nat.lt_trans (Nat.mod_lt _ hm) m.toNat_lt
 rw [hn,om hlt]
 unfold CS
 refine (OT.ap hz).trans ?_
 cases hb:(a.w1|||a.w2|||a.w3==0)
 ·refine (OT.ay rfl).trans ((al ?_).trans ?_)
  ·simp only [List.all_cons,List.all_nil,Bool.and_true,Bool.and_eq_true]
   refine ⟨?_,rfl,rfl⟩
   show (decide _&&eS n.2.2.1)=true
   rw [h2,hs,Bool.and_true]
   exact decide_eq_true ⟨rfl,rfl,rfl⟩
  ·show some (⟨mV,((⟨apI (lst a) n.2.2.1,0,0,0⟩,()),())⟩:lU.Y)=_
   rw [h2,UZ hs]
 ·refine (OT.ap rfl).trans ((al ?_).trans ?_)
  ·simp only [hz,List.all_cons,List.all_nil,Bool.and_true]
  ·have hw:a.w1=0/\a.w2=0/\a.w3=0:=by
    have:a.w1|||a.w2|||a.w3=0:=by simpa using hb
    simpa [UInt64.or_eq_zero_iff,and_assoc] using this
   have ha:a.nat=a.w0.toNat:=by
    unfold Sx.aa.nat
    rw [hw.1,hw.2.1,hw.2.2]
    show _+_*(0+_*(0+_*0))=_
    omega
   show some (⟨mV,((⟨a.w0%n.2.2.1,0,0,0⟩,()),())⟩:lU.Y)=_
   have e:a.w0%n.2.2.1=UInt64.ofNat (a.nat%m.toNat):=by
    rw [h2,ha,<-UInt64.toNat_inj,UInt64.toNat_mod,UInt64.toNat_ofNat']
    exact (Nat.mod_eq_of_lt (by rw [<-ha];omega)).symm
   rw [e]
theorem GF {n:Ku} {a:aa} (h2:n.2.2.1=0) (hs:0<n.1.nat):(CS uJ Ji AG Jh n a).run=some ⟨mV,((ofN (a.nat%n.1.nat),()),())⟩:=by
 unfold CS
 refine (OT.ay (by rw [h2];rfl)).trans ((al ?_).trans ?_)
 ·simp only [List.all_cons,List.all_nil,Bool.and_true,Bool.and_eq_true]
  exact ⟨decide_eq_true ⟨rfl,rfl,hs⟩,rfl⟩
 ·rfl
theorem ar4:0<(bO 2).1.nat:=by decide+kernel
theorem ar3:0<(bO 3).1.nat:=by decide+kernel
theorem aob:ac Tryz.prog 91 (lU.aI gD alc):=aeD uJ Ji AG Jh aod aoc _ _ λx oy hp ho=>by
 rw [<-ho]
 clear ho
 obtain ⟨⟨n,a,⟨⟩⟩,⟨⟩⟩:=x
 have hp':nz n=true:=hp
 rcases sb hp' with rfl|rfl|rfl|rfl
 ·exact CP (m:=16513537) rfl rfl rfl
 ·exact CP (m:=16521217) rfl rfl rfl
 ·exact GF rfl ar4
 ·exact GF rfl ar3
def CM:cN:=(lU.aI gD alc)
theorem Y4:ac Tryz.prog 91 CM:=aob
theorem Y0:aK CM:=aB
def Oo:Env:=aA 91 CM Eu
theorem Ek:aW Tryz.prog Oo:=ai Y4 po
theorem El:aw Oo:=ae Y0 Et
theorem aaf:bc Tryz.prog te Oo:=aO follows au Ek El
def j8:aq:=⟨[.val true (.prod .elem (.prod .int (.prod .u64 (.prod .u64 .elem)))),.val true .elem,.val true .elem],[],true,0,false⟩
abbrev GN:Type:=(((aa×(Int×(UInt64×(UInt64×aa)))))×(aa)×(aa)×Unit)×(Unit)
def Jt:ax:=⟨[.val true .elem],[],false⟩
def Na:SV->Option ax:=λ_=>some Jt
def Rk (a0:(aa×(Int×(UInt64×(UInt64×aa))))) (a1:aa) (a2:aa):OT j8.Y:=
 let z0:Nat:=aa.nat a0.fst
 let z1:aa:=(tg (ofN (aa.nat a1%z0)) (ofN (aa.nat a2%z0))).fst
 (gd [gD ((a0,a1,()),()),gD ((a0,a2,()),()),gD ((a0,z1,()),())] (.ok ⟨Jt,((ofN (aa.nat z1%z0),()),())⟩))
theorem aov (x:GN) (Q:j8.Y->Prop):wpf te Oo az 1000 Tryz.f78 (j8.inp.inj x).tm (j8.inp.inj x).hp (fnK j8 Na Q) (λ_ _=>False)=(Rk (x.1.1) (x.1.2.1) (x.1.2.2.1)).wpR Q:=by kernel_rfl
theorem Zv (pre:GN->Bool) (F:GN->OT j8.Y) (hF:∀ (x:GN) oy,pre x=true->(F x).run=some oy->(Rk (x.1.1) (x.1.2.1) (x.1.2.2.1)).run=some oy):ac Tryz.prog 78 (j8.aI pre F):=
 aE au Ek aaf (f:=78) (fn:=Tryz.f78) (c:=ao Tryz.f78) (by kernel_rfl) (by kernel_rfl) (by kernel_rfl) (S:=j8) (k:=0) (by kernel_rfl) (λR hR=>ag) (n:=1000) (sel:=Na) (λv o h=>by cases h;rfl) (pre:=pre) (F:=F) (T:=λx=>Rk (x.1.1) (x.1.2.1) (x.1.2.2.1)) (λx Q=>aov x Q) hF
theorem uh {n:Ku} (h:nz n=true):0<n.1.nat/\n.1.nat<57896044618658097711785492504343953926634992332820282019728792003956564819968:=by
 rcases sb h with rfl|rfl|rfl|rfl
 ·exact ⟨by decide+kernel,by decide+kernel⟩
 ·exact ⟨by decide+kernel,by decide+kernel⟩
 ·exact ⟨by decide+kernel,by decide+kernel⟩
 ·exact ⟨by decide+kernel,by decide+kernel⟩
def pS (s:Int):Nat:=(bO s.toNat).1.nat
theorem fh {s:Int} (h:ak s=true):0<pS s/\pS s<57896044618658097711785492504343953926634992332820282019728792003956564819968:=uh (qg h)
def im (p:Nat) (a b:aa):aa:=ofN ((a.nat+b.nat)%p)
def EZ (p:Nat) (a:aa):aa:=ofN ((p-a.nat%p)%p)
def aN (p:Nat) (a b:aa):aa:=ofN (a.nat*b.nat%p)
theorem cv {p n:Nat} (h:0<p/\p<57896044618658097711785492504343953926634992332820282019728792003956564819968):(ofN (n%p)).nat=n%p:=by
 have:=Nat.mod_lt n h.1
 exact gX (by omega)
theorem agb {p:Nat} (h:0<p/\p<57896044618658097711785492504343953926634992332820282019728792003956564819968) (a b:aa):ofN ((tg (ofN (a.nat%p)) (ofN (b.nat%p))).1.nat%p)=im p a b:=by
 have ha:=Nat.mod_lt a.nat h.1
 have hb:=Nat.mod_lt b.nat h.1
 have e:(tg (ofN (a.nat%p)) (ofN (b.nat%p))).1.nat=a.nat%p+b.nat%p:=by
  show (ofN _).nat=_
  rw [cv h,cv h]
  exact gX (by omega)
 unfold im
 rw [e,<-Nat.add_mod]
def Dh (x:GN):Bool:=nz x.1.1
def Rl (x:GN):OT j8.Y:=.ok ⟨Jt,((im x.1.1.1.nat x.1.2.1 x.1.2.2.1,()),())⟩
theorem aj4:ac Tryz.prog 78 (j8.aI Dh Rl):=Zv _ _ λx oy hp ho=>by
 rw [<-ho]
 clear ho
 obtain ⟨⟨n,a,b,⟨⟩⟩,⟨⟩⟩:=x
 have hp':nz n=true:=hp
 refine (al ?_).trans ?_
 ·simp only [List.all_cons,List.all_nil,Bool.and_true,Bool.and_eq_true]
  exact ⟨hp',hp',hp'⟩
 ·simp only [Rl,agb (uh hp')]
def xG:cN:=(j8.aI Dh Rl)
theorem Rj:ac Tryz.prog 78 xG:=aj4
theorem Ri:aK xG:=aB
def EC:Env:=aA 78 xG Oo
theorem yE:aW Tryz.prog EC:=ai Rj Ek
theorem zO:aw EC:=ae Ri El
theorem Sn:bc Tryz.prog te EC:=aO follows au yE zO
def j5:aq:=⟨[.val true (.prod .elem (.prod .int (.prod .u64 (.prod .u64 .elem)))),.val true .elem],[],true,0,false⟩
abbrev GG:Type:=(((aa×(Int×(UInt64×(UInt64×aa)))))×(aa)×Unit)×(Unit)
def Jm:ax:=⟨[.val true .elem],[],false⟩
def MY:SV->Option ax:=λ_=>some Jm
def Q8 (a0:(aa×(Int×(UInt64×(UInt64×aa))))) (a1:aa):OT j5.Y:=
 let z0:Nat:=aa.nat a0.fst
 let z1:aa:=(kT a0.fst (ofN (aa.nat a1%z0))).fst
 (gd [gD ((a0,a1,()),()),gD ((a0,z1,()),())] (.ok ⟨Jm,((ofN (aa.nat z1%z0),()),())⟩))
theorem aoj (x:GG) (Q:j5.Y->Prop):wpf te EC az 1000 Tryz.f139 (j5.inp.inj x).tm (j5.inp.inj x).hp (fnK j5 MY Q) (λ_ _=>False)=(Q8 (x.1.1) (x.1.2.1)).wpR Q:=by kernel_rfl
theorem Y9 (pre:GG->Bool) (F:GG->OT j5.Y) (hF:∀ (x:GG) oy,pre x=true->(F x).run=some oy->(Q8 (x.1.1) (x.1.2.1)).run=some oy):ac Tryz.prog 139 (j5.aI pre F):=
 aE au yE Sn (f:=139) (fn:=Tryz.f139) (c:=ao Tryz.f139) (by kernel_rfl) (by kernel_rfl) (by kernel_rfl) (S:=j5) (k:=0) (by kernel_rfl) (λR hR=>ag) (n:=1000) (sel:=MY) (λv o h=>by cases h;rfl) (pre:=pre) (F:=F) (T:=λx=>Q8 (x.1.1) (x.1.2.1)) (λx Q=>aoj x Q) hF
theorem anN {m:aa} (h:0<m.nat/\m.nat<57896044618658097711785492504343953926634992332820282019728792003956564819968) (a:aa):ofN ((kT m (ofN (a.nat%m.nat))).1.nat%m.nat)=EZ m.nat a:=by
 have ha:=Nat.mod_lt a.nat h.1
 have e:=cv (n:=a.nat) h
 have e2:(kT m (ofN (a.nat%m.nat))).1.nat=m.nat-a.nat%m.nat:=by
  rw [mo (by rw [e];omega),e]
 unfold EZ
 rw [e2]
def CX (x:GG):Bool:=nz x.1.1
def Q9 (x:GG):OT j5.Y:=.ok ⟨Jm,((EZ x.1.1.1.nat x.1.2.1,()),())⟩
theorem ajY:ac Tryz.prog 139 (j5.aI CX Q9):=Y9 _ _ λx oy hp ho=>by
 rw [<-ho]
 clear ho
 obtain ⟨⟨n,a,⟨⟩⟩,⟨⟩⟩:=x
 have hp':nz n=true:=hp
 refine (al ?_).trans ?_
 ·simp only [List.all_cons,List.all_nil,Bool.and_true,Bool.and_eq_true]
  exact ⟨hp',hp'⟩
 ·simp only [Q9,anN (uh hp')]
def xD:cN:=(j5.aI CX Q9)
theorem Q7:ac Tryz.prog 139 xD:=ajY
theorem Q6:aK xD:=aB
def Eo:Env:=aA 139 xD EC
theorem yA:aW Tryz.prog Eo:=ai Q7 yE
theorem zL:aw Eo:=ae Q6 zO
theorem Sk:bc Tryz.prog te Eo:=aO follows au yA zL
def oW:aq:=⟨[.val false .int,.val true .elem,.val true .elem],[],true,0,false⟩
abbrev Zu:Type:=((Int)×(aa)×(aa)×Unit)×(Unit)
def Dg:ax:=⟨[.val true .elem],[],false⟩
def Wy:SV->Option ax:=λ_=>some Dg
def ae0 (a0:Int) (a1:aa) (a2:aa):OT oW.Y:=
 let z0:aa×Int×UInt64×UInt64×aa:=bO (Int.toNat a0)
 (.br (ak a0)
 (gd [Dh ((z0,a1,a2,()),())] (.ok ⟨Dg,((im (aa.nat z0.fst) a1 a2,()),())⟩))
 (.ok ⟨Dg,(({w0:=0,w1:=0,w2:=0,w3:=0},()),())⟩))
theorem aqw (x:Zu) (Q:oW.Y->Prop):wpf te Eo az 1000 Tryz.f43 (oW.inp.inj x).tm (oW.inp.inj x).hp (fnK oW Wy Q) (λ_ _=>False)=(ae0 (x.1.1) (x.1.2.1) (x.1.2.2.1)).wpR Q:=by kernel_rfl
theorem aeZ (pre:Zu->Bool) (F:Zu->OT oW.Y) (hF:∀ (x:Zu) oy,pre x=true->(F x).run=some oy->(ae0 (x.1.1) (x.1.2.1) (x.1.2.2.1)).run=some oy):ac Tryz.prog 43 (oW.aI pre F):=
 aE au yA Sk (f:=43) (fn:=Tryz.f43) (c:=ao Tryz.f43) (by kernel_rfl) (by kernel_rfl) (by kernel_rfl) (S:=oW) (k:=0) (by kernel_rfl) (λR hR=>ag) (n:=1000) (sel:=Wy) (λv o h=>by cases h;rfl) (pre:=pre) (F:=F) (T:=λx=>ae0 (x.1.1) (x.1.2.1) (x.1.2.2.1)) (λx Q=>aqw x Q) hF
def Wz (_:Zu):Bool:=true
def alj (x:Zu):OT oW.Y:=.br (ak x.1.1) (.ok ⟨Dg,((im (pS x.1.1) x.1.2.1 x.1.2.2.1,()),())⟩) (.ok ⟨Dg,((⟨0,0,0,0⟩,()),())⟩)
theorem aou:ac Tryz.prog 43 (oW.aI Wz alj):=aeZ _ _ λx oy hp ho=>by
 rw [<-ho]
 clear ho
 obtain ⟨⟨s,a,b,⟨⟩⟩,⟨⟩⟩:=x
 cases hs:ak s
 ·exact (OT.ay hs).trans (OT.ay (b:=ak s) hs).symm
 ·refine (OT.ap hs).trans ((al ?_).trans (OT.ap (b:=ak s) hs).symm)
  simp only [List.all_cons,List.all_nil,Bool.and_true]
  exact qg hs
def Df:cN:=(oW.aI Wz alj)
theorem Zt:ac Tryz.prog 43 Df:=aou
theorem Zs:aK Df:=aB
def Ow:Env:=aA 43 Df Eo
theorem EA:aW Tryz.prog Ow:=ai Zt yA
theorem EB:aw Ow:=ae Zs zL
theorem aak:bc Tryz.prog te Ow:=aO follows au EA EB
def oL:aq:=⟨[.val false .int,.val true .elem],[],true,0,false⟩
abbrev Y8:Type:=((Int)×(aa)×Unit)×(Unit)
def CW:ax:=⟨[.val true .elem],[],false⟩
def Wl:SV->Option ax:=λ_=>some CW
def aeJ (a0:Int) (a1:aa):OT oL.Y:=
 let z0:aa×Int×UInt64×UInt64×aa:=bO (Int.toNat a0)
 (.br (ak a0)
 (gd [CX ((z0,a1,()),())] (.ok ⟨CW,((EZ (aa.nat z0.fst) a1,()),())⟩))
 (.ok ⟨CW,(({w0:=0,w1:=0,w2:=0,w3:=0},()),())⟩))
theorem aqp (x:Y8) (Q:oL.Y->Prop):wpf te Ow az 1000 Tryz.f98 (oL.inp.inj x).tm (oL.inp.inj x).hp (fnK oL Wl Q) (λ_ _=>False)=(aeJ (x.1.1) (x.1.2.1)).wpR Q:=by kernel_rfl
theorem aeI (pre:Y8->Bool) (F:Y8->OT oL.Y) (hF:∀ (x:Y8) oy,pre x=true->(F x).run=some oy->(aeJ (x.1.1) (x.1.2.1)).run=some oy):ac Tryz.prog 98 (oL.aI pre F):=
 aE au EA aak (f:=98) (fn:=Tryz.f98) (c:=ao Tryz.f98) (by kernel_rfl) (by kernel_rfl) (by kernel_rfl) (S:=oL) (k:=0) (by kernel_rfl) (λR hR=>ag) (n:=1000) (sel:=Wl) (λv o h=>by cases h;rfl) (pre:=pre) (F:=F) (T:=λx=>aeJ (x.1.1) (x.1.2.1)) (λx Q=>aqp x Q) hF
def Wm (_:Y8):Bool:=true
def ald (x:Y8):OT oL.Y:=.br (ak x.1.1) (.ok ⟨CW,((EZ (pS x.1.1) x.1.2.1,()),())⟩) (.ok ⟨CW,((⟨0,0,0,0⟩,()),())⟩)
theorem aoi:ac Tryz.prog 98 (oL.aI Wm ald):=aeI _ _ λx oy hp ho=>by
 rw [<-ho]
 clear ho
 obtain ⟨⟨s,a,⟨⟩⟩,⟨⟩⟩:=x
 cases hs:ak s
 ·exact (OT.ay hs).trans (OT.ay (b:=ak s) hs).symm
 ·refine (OT.ap hs).trans ((al ?_).trans (OT.ap (b:=ak s) hs).symm)
  simp only [List.all_cons,List.all_nil,Bool.and_true]
  exact qg hs
def CV:cN:=(oL.aI Wm ald)
theorem Y7:ac Tryz.prog 98 CV:=aoi
theorem Y6:aK CV:=aB
def Oq:Env:=aA 98 CV Ow
theorem Em:aW Tryz.prog Oq:=ai Y7 EA
theorem En:aw Oq:=ae Y6 EB
theorem aag:bc Tryz.prog te Oq:=aO follows au Em En
def oF:aq:=⟨[.val false .int,.val true .elem,.val true .elem],[],true,0,false⟩
abbrev YW:Type:=((Int)×(aa)×(aa)×Unit)×(Unit)
def ss:ax:=⟨[.val true .elem],[],false⟩
def We:SV->Option ax:=λ_=>some ss
def aez (a0:Int) (a1:aa) (a2:aa):OT oF.Y:=
 let z0:Bool:=ak a0
 let z1:Nat:=pS a0
 let z2:aa:= {w0:=0,w1:=0,w2:=0,w3:=0}
 (.br (z0)
 (.br (z0)
  (.ok ⟨ss,((im z1 a1 (EZ z1 a2),()),())⟩)
  (.ok ⟨ss,((z2,()),())⟩))
 (.br (z0)
  (.ok ⟨ss,((im z1 a1 z2,()),())⟩)
  (.ok ⟨ss,((z2,()),())⟩)))
theorem aql (x:YW) (Q:oF.Y->Prop):wpf te Oq az 1000 Tryz.f152 (oF.inp.inj x).tm (oF.inp.inj x).hp (fnK oF We Q) (λ_ _=>False)=(aez (x.1.1) (x.1.2.1) (x.1.2.2.1)).wpR Q:=by kernel_rfl
theorem aey (pre:YW->Bool) (F:YW->OT oF.Y) (hF:∀ (x:YW) oy,pre x=true->(F x).run=some oy->(aez (x.1.1) (x.1.2.1) (x.1.2.2.1)).run=some oy):ac Tryz.prog 152 (oF.aI pre F):=
 aE au Em aag (f:=152) (fn:=Tryz.f152) (c:=ao Tryz.f152) (by kernel_rfl) (by kernel_rfl) (by kernel_rfl) (S:=oF) (k:=0) (by kernel_rfl) (λR hR=>ag) (n:=1000) (sel:=We) (λv o h=>by cases h;rfl) (pre:=pre) (F:=F) (T:=λx=>aez (x.1.1) (x.1.2.1) (x.1.2.2.1)) (λx Q=>aql x Q) hF
def eW (p:Nat) (a b:aa):aa:=im p a (EZ p b)
def Wf (_:YW):Bool:=true
def alb (x:YW):OT oF.Y:=.br (ak x.1.1) (.ok ⟨ss,((eW (pS x.1.1) x.1.2.1 x.1.2.2.1,()),())⟩) (.ok ⟨ss,((⟨0,0,0,0⟩,()),())⟩)
theorem an7:ac Tryz.prog 152 (oF.aI Wf alb):=aey _ _ λx oy hp ho=>by
 rw [<-ho]
 clear ho
 obtain ⟨⟨s,a,b,⟨⟩⟩,⟨⟩⟩:=x
 cases hs:ak s
 ·exact (OT.ay hs).trans ((OT.ay hs).trans (OT.ay (b:=ak s) hs).symm)
 ·exact (OT.ap hs).trans ((OT.ap hs).trans (OT.ap (b:=ak s) hs).symm)
def CJ:cN:=(oF.aI Wf alb)
theorem YV:ac Tryz.prog 152 CJ:=an7
theorem YU:aK CJ:=aB
def Hq:Env:=aA 152 CJ Oq
theorem vD:aW Tryz.prog Hq:=ai YV Em
theorem Ei:aw Hq:=ae YU En
theorem Ho:bc Tryz.prog te Hq:=aO follows au vD Ei
end Go.Proofs.YtohjofabochgfaaGreat

namespace Go.Proofs.YtohjofabochgfaaGreat
open Sx Go
def l6 (n:Nat):List UInt64:= [UInt64.ofNat n,UInt64.ofNat (n/18446744073709551616),UInt64.ofNat (n/18446744073709551616/18446744073709551616),UInt64.ofNat (n/18446744073709551616/18446744073709551616/18446744073709551616),
 UInt64.ofNat (n/18446744073709551616/18446744073709551616/18446744073709551616/18446744073709551616),UInt64.ofNat (n/18446744073709551616/18446744073709551616/18446744073709551616/18446744073709551616/18446744073709551616)]
def v6 (l:List UInt64):Nat:=(l.getD 0 0).toNat+18446744073709551616*((l.getD 1 0).toNat+18446744073709551616*((l.getD 2 0).toNat+18446744073709551616*((l.getD 3 0).toNat+18446744073709551616*((l.getD 4 0).toNat+18446744073709551616*(l.getD 5 0).toNat))))
theorem fL {m:Nat} {x:UInt64} (hm:m%18446744073709551616=x.toNat):UInt64.ofNat m=x:=by
 rw [<-UInt64.toNat_inj,UInt64.toNat_ofNat']
 exact hm
theorem ars {n:Nat} {a b c d e:UInt64} {k:Nat} {f:UInt64} (h:n=a.toNat+18446744073709551616*(b.toNat+18446744073709551616*(c.toNat+18446744073709551616*(d.toNat+18446744073709551616*(e.toNat+18446744073709551616*k))))) (hf:k%18446744073709551616=f.toNat):l6 n= [a,b,c,d,e,f]:=by
 obtain ⟨h1,h0⟩:=div_eq a.toNat_lt h
 obtain ⟨h2,h3⟩:=div_eq b.toNat_lt h1
 obtain ⟨h4,h5⟩:=div_eq c.toNat_lt h2
 obtain ⟨h6,h7⟩:=div_eq d.toNat_lt h4
 obtain ⟨h8,h9⟩:=div_eq e.toNat_lt h6
 unfold l6
 rw [fL (x:=a) h0,fL (x:=b) h3,fL (x:=c) h5,fL (x:=d) h7,fL (x:=e) h9,fL (x:=f) (by rw [h8];exact hf)]
theorem aec (n:Nat):(l6 n).length=6:=rfl
def apk (t a x c:UInt64):UInt64:=qY t (qY (a*x) c 0) 0
def vY (t a x c:UInt64):UInt64:=agm a x+tf (a*x) c 0+tf t (qY (a*x) c 0) 0
theorem ao1 {t P p h c l k1 r k2 W:Nat} (hP:P=p+W*h) (h1:p+c=l+W*k1) (h2:t+l=r+W*k2):t+P+c=r+W*(h+k1+k2):=by
 rw [Nat.mul_add,Nat.mul_add]
 omega
theorem agd {t P c r q W:Nat} (hW:0<W) (ht:t<=W-1) (hc:c<=W-1) (hP:P<=(W-1)*(W-1)) (h:t+P+c=r+W*q):q<W:=by
 obtain ⟨V,rfl⟩:∃ V,W=V+1:=⟨W-1,by omega⟩
 rw [Nat.add_sub_cancel] at*
 refine Nat.lt_of_not_le λhq=> ?_
 have h1:(V+1)*(V+1)<=(V+1)*q:=Nat.mul_le_mul_left _ hq
 have h2:(V+1)*(V+1)=V*V+V+V+1:=by rw [Nat.add_mul,Nat.mul_add,Nat.one_mul,Nat.mul_one];omega
 omega
theorem ajr (a x:UInt64):(agm a x).toNat=a.toNat*x.toNat/18446744073709551616:=by
 have ha:=a.toNat_lt
 have hx:=x.toNat_lt
 have:a.toNat*x.toNat/18446744073709551616<18446744073709551616:=by
  rw [Nat.div_lt_iff_lt_mul (by omega)]
  exact Nat.mul_lt_mul'' ha hx
 unfold agm
 rw [UInt64.toNat_ofNat',Nat.mod_eq_of_lt this]
theorem AN (t a x c:UInt64):t.toNat+a.toNat*x.toNat+c.toNat=(apk t a x c).toNat+18446744073709551616*(vY t a x c).toNat:=by
 have hP:a.toNat*x.toNat=(a*x).toNat+18446744073709551616*(agm a x).toNat:=by
  rw [ajr,UInt64.toNat_mul]
  exact (Nat.mod_add_div _ _).symm
 have h1:=ki (a*x) c 0
 have h2:=ki t (qY (a*x) c 0) 0
 rw [show (0:UInt64).toNat=0 from rfl,Nat.add_zero] at h1 h2
 have key:=ao1 hP h1 h2
 have hb:=agd (W:=18446744073709551616) (by omega) (Nat.le_sub_one_of_lt t.toNat_lt) (Nat.le_sub_one_of_lt c.toNat_lt) (Nat.mul_le_mul (Nat.le_sub_one_of_lt a.toNat_lt) (Nat.le_sub_one_of_lt x.toNat_lt)) key
 have e:(vY t a x c).toNat=(agm a x).toNat+(tf (a*x) c 0).toNat+(tf t (qY (a*x) c 0) 0).toNat:=by
  unfold vY
  rw [UInt64.toNat_add,UInt64.toNat_add,Nat.mod_add_mod]
  exact Nat.mod_eq_of_lt hb
 rw [e]
 exact key
theorem AO {t a x c s k T A R W:Nat} (h1:t+a*x+c=s+W*k) (h2:T+A*x+k=R):(t+W*T)+(a+W*A)*x+c=s+W*R:=by
 rw [Nat.add_mul,Nat.mul_assoc,<-h2,Nat.mul_add,Nat.mul_add]
 omega
def ar0 (t0 t1 t2 t3 t4 t5:UInt64) (a:aa) (x:UInt64):List UInt64:=
 let k0:=vY t0 a.w0 x 0
 let k1:=vY t1 a.w1 x k0
 let k2:=vY t2 a.w2 x k1
 let k3:=vY t3 a.w3 x k2
 [apk t0 a.w0 x 0,apk t1 a.w1 x k0,apk t2 a.w2 x k1,apk t3 a.w3 x k2,qY t4 k3 0,t5+tf t4 k3 0]
theorem ao2 (t0 t1 t2 t3 t4 t5:UInt64) (a:aa) (x:UInt64):ar0 t0 t1 t2 t3 t4 t5 a x=l6 (v6 [t0,t1,t2,t3,t4,t5]+a.nat*x.toNat):=by
 have h4:=ki t4 (vY t3 a.w3 x (vY t2 a.w2 x (vY t1 a.w1 x (vY t0 a.w0 x 0)))) 0
 rw [show (0:UInt64).toNat=0 from rfl,Nat.add_zero] at h4
 have h5:(t4.toNat+18446744073709551616*t5.toNat)+0*x.toNat+(vY t3 a.w3 x (vY t2 a.w2 x (vY t1 a.w1 x (vY t0 a.w0 x 0)))).toNat=
  (qY t4 (vY t3 a.w3 x (vY t2 a.w2 x (vY t1 a.w1 x (vY t0 a.w0 x 0)))) 0).toNat+18446744073709551616*(t5.toNat+(tf t4 (vY t3 a.w3 x (vY t2 a.w2 x (vY t1 a.w1 x (vY t0 a.w0 x 0)))) 0).toNat):=by
  rw [Nat.zero_mul,Nat.mul_add]
  omega
 have h:=AO (AN t0 a.w0 x 0) (AO (AN t1 a.w1 x _) (AO (AN t2 a.w2 x _) (AO (AN t3 a.w3 x _) h5)))
 rw [show (0:UInt64).toNat=0 from rfl,Nat.add_zero,Nat.mul_zero,Nat.add_zero] at h
 exact (ars (f:=t5+tf t4 (vY t3 a.w3 x (vY t2 a.w2 x (vY t1 a.w1 x (vY t0 a.w0 x 0)))) 0) h (by rw [UInt64.toNat_add])).symm
end Go.Proofs.YtohjofabochgfaaGreat

namespace Go.Proofs.YtohjofabochgfaaGreat
open Sx Go
set_option maxRecDepth 100000
def oX:aq:=⟨[.val true (.arr 6 .u64),.val true .elem,.val false .u64],[],true,0,false⟩
abbrev Zy:Type:=((List (UInt64))×(aa)×(UInt64)×Unit)×(Unit)
def Dj:Shape:=⟨61,[(2,.val false .u64),(3,.ptr 0 0 0),(4,.ptr 1 0 0),(6,.ptr 2 0 0),(7,.val false .u64),(13,.val false .int)],[(0,.row .u64),(1,.row .u64),(2,.row .u64)],0,true⟩
abbrev da:Type:=((UInt64)×(Unit)×(Unit)×(Unit)×(UInt64)×(Int)×Unit)×((List (UInt64))×(List (UInt64))×(List (UInt64))×Unit)
def uO:Shape:=⟨61,[(3,.ptr 0 0 0),(6,.ptr 1 0 0),(7,.val false .u64)],[(0,.row .u64),(1,.row .u64)],0,true⟩
abbrev l5:Type:=((Unit)×(Unit)×(UInt64)×Unit)×((List (UInt64))×(List (UInt64))×Unit)
def ae1:SE->Option Shape:=kn [(0,uO)] none
def aoz (a2:UInt64) (a7:UInt64) (a13:Int) (c0:List (UInt64)) (c1:List (UInt64)) (c2:List (UInt64)):OT (Sum da aQ):=
 let z0:Bool:=inB a13 6
 let z1:Bool:=decide (Int.toNat a13+0<List.length c0)
 let z2:UInt64:=List.getD c1 (Int.toNat a13+0) (0:UInt64)
 let z3:UInt64:=List.getD c0 (Int.toNat a13+0) (0:UInt64)
 let z4:UInt64:=qY (z2*a2) a7 (0:UInt64)
 (.br (decide (a13<(4:Int)))
 (gd [inB a13 4,decide (Int.toNat a13+0<List.length c1),z0,z1,z0,z1,inR (a13+(1:Int))] (.ok (.inl ((a2,((),((),((),(agm z2 a2+tf (z2*a2) a7 (0:UInt64)+tf z3 z4 (0:UInt64),(a13+(1:Int),())))))),(List.set c0 (Int.toNat a13+0) (qY z3 z4 (0:UInt64)),(c1,(c2,())))))))
 (.ok (.inr ⟨(.exit 0,uO),(((),((),(a7,()))),(c0,(c2,())))⟩)))
def Dk (s:da):OT (Sum da aQ):=aoz (s.1.1) (s.1.2.2.2.2.1) (s.1.2.2.2.2.2.1) (s.2.1) (s.2.2.1) (s.2.2.2.1)
theorem aow (s:da) (Q:Sum da aQ->Prop):wps te Hq az 1000 (bL (ao Tryz.f150) 0) (Dj.inj s) (df Dj ae1 (Q:Sum Dj.T aQ->Prop))=(Dk s).wpR Q:=by kernel_rfl
def Ju (g0_0:da->l5) (s:da):OT aQ:=(.ok ⟨(.exit 0,uO),g0_0 s⟩)
def Rm:ax:=⟨[.val true (.arr 6 .u64)],[],false⟩
def WA:SV->Option ax:=λ_=>some Rm
def ae4 (ok0:da->Bool) (g0_0:da->l5) (a0:List (UInt64)) (a1:aa) (a2:UInt64):OT oX.Y:=
 let z0:(UInt64×PUnit×PUnit×PUnit×UInt64×Int×PUnit)×List UInt64×List UInt64×List UInt64×PUnit:=((a2,(),(),(),(0:UInt64),(0:Int),()),tab a0 6 (0:UInt64),[a1.w0,a1.w1,a1.w2,a1.w3],[(0:UInt64),(0:UInt64),(0:UInt64),(0:UInt64),(0:UInt64),(0:UInt64)],())
 let z1:(PUnit×PUnit×UInt64×PUnit)×List UInt64×List UInt64×PUnit:=g0_0 z0
 let z2:=z1.snd
 let z3:=z2.fst
 let z4:Bool:=decide (4<List.length z3)
 let z5:UInt64:=List.getD z3 4 0
 let z6:=z1.fst.snd.snd.fst
 let z7:List UInt64:=List.set z3 4 (qY z5 z6 (0:UInt64))
 let z8:Bool:=decide (5<List.length z7)
 let z9:List UInt64:=List.set z7 5 (List.getD z7 5 0+tf z5 z6 (0:UInt64))
 let z10:=z2.snd.fst
 let z11:List UInt64:=lay z10 z9 6 (0:UInt64)
 (gd [ok0 z0,z4,z4,z8,z8,decide (6<=List.length z9),decide ((6/1:Nat)+0<=List.length z10),decide (6<=List.length z11)] (.ok ⟨Rm,((tab z11 6 (0:UInt64),()),())⟩))
theorem aqx (ok0:da->Bool) (g0_0:da->l5) (x:Zy) (Q:oX.Y->Prop):wpf te Hq (bn 0 (dC Dj 0 ok0 (Ju g0_0)) az) 1000 Tryz.f150 (oX.inp.inj x).tm (oX.inp.inj x).hp (fnK oX WA Q) (λ_ _=>False)=(ae4 ok0 g0_0 (x.1.1) (x.1.2.1) (x.1.2.2.1)).wpR Q:=by kernel_rfl
theorem ae2 (ok0:da->Bool) (g0_0:da->l5) (h0:∀ s:da,ok0 s=true->∃ m e,av (Dk) m s=some e/\(Ju g0_0 s).run=some e) (pre:Zy->Bool) (F:Zy->OT oX.Y) (hF:∀ (x:Zy) oy,pre x=true->(F x).run=some oy->(ae4 ok0 g0_0 (x.1.1) (x.1.2.1) (x.1.2.2.1)).run=some oy):ac Tryz.prog 150 (oX.aI pre F):=
 aE au vD Ho (f:=150) (fn:=Tryz.f150) (c:=ao Tryz.f150) (by kernel_rfl) (by kernel_rfl) (by kernel_rfl) (S:=oX) (k:=0) (by kernel_rfl) (λR hR=>(aH (c:=(ao Tryz.f150)) (by kernel_rfl) (id:=0) (by kernel_rfl) (bz au vD Ho (sh:=Dj) hR (xs:=ae1) (aJ (by kernel_rfl) (by kernel_rfl) hR) aY ag (n:=1000) (T:=Dk) (λs Q=>aow s Q) (ok:=ok0) (f:=Ju g0_0) h0) ag)) (n:=1000) (sel:=WA) (λv o h=>by cases h;rfl) (pre:=pre) (F:=F) (T:=λx=>ae4 ok0 g0_0 (x.1.1) (x.1.2.1) (x.1.2.2.1)) (λx Q=>aqx ok0 g0_0 x Q) hF
def aky (a:List UInt64) (x:UInt64) (k:Nat) (s:List UInt64×UInt64):List UInt64×UInt64:=(s.1.set k (apk (s.1.getD k 0) (a.getD k 0) x s.2),vY (s.1.getD k 0) (a.getD k 0) x s.2)
def WC (s:da):Bool:=decide (s.1.2.2.2.2.1=0/\s.1.2.2.2.2.2.1=0/\s.2.1.length=6/\s.2.2.1.length=4)
def ae3 (s:da):l5:=(((),(),(upto (aky s.2.2.1 s.1.1) (s.2.1,0) 4).2,()),((upto (aky s.2.2.1 s.1.1) (s.2.1,0) 4).1,s.2.2.2.1,()))
theorem aoy:∀ s:da,WC s=true->∃ m e,av Dk m s=some e/\(Ju ae3 s).run=some e:=by
 rintro ⟨⟨x,⟨⟩,⟨⟩,⟨⟩,c,i,⟨⟩⟩,⟨t,a,o,⟨⟩⟩⟩ h
 have h':=of_decide_eq_true h
 dsimp only at h'
 obtain ⟨rfl,rfl,ht,ha⟩:=h'
 have:=(bP (T:=Dk) (λk s=>(((x,(),(),(),s.2,(k:Int),()),(s.1,a,o,())):da)) (aky a x)
  (λs=>(⟨(.exit 0,uO),(((),(),s.2,()),(s.1,o,()))⟩:aQ)) 4 (t,0) (λ_ s=>s.1.length=6) ht (λk s hk hs=>⟨?_,?_⟩) (λs hs=> ?_)).1
 ·obtain ⟨m,hm⟩:=this
  exact ⟨m,_,hm,rfl⟩
 ·refine (OT.ap (decide_eq_true (by dsimp only;omega))).trans ((al ?_).trans ?_)
  ·simp only [Int.toNat_natCast,Nat.add_zero,hs,ha,List.all_cons,List.all_nil,Bool.and_true,Bool.and_eq_true]
   exact ⟨bG (by omega),decide_eq_true (by omega),bG (by omega),decide_eq_true (by omega),bG (by omega),decide_eq_true (by omega),bF (by omega)⟩
  ·simp only [OT.kq,Int.toNat_natCast,Nat.add_zero]
   rfl
 ·simp only [aky,List.length_set]
  exact hs
 ·exact OT.ay (decide_eq_false (by dsimp only;omega))
def WB (_:Zy):Bool:=true
def ae5 (x:Zy):OT oX.Y:=.ok ⟨Rm,((l6 (v6 x.1.1+x.1.2.1.nat*x.1.2.2.1.toNat),()),())⟩
theorem aox:ac Tryz.prog 150 (oX.aI WB ae5):=ae2 WC ae3 aoy _ _ λx oy hp ho=>by
 rw [<-ho]
 clear ho
 obtain ⟨⟨t,a,x,⟨⟩⟩,⟨⟩⟩:=x
 refine (al ?_).trans ?_
 ·simp only [List.all_cons,List.all_nil,Bool.and_true,Bool.and_eq_true]
  exact ⟨rfl,rfl,rfl,rfl,rfl,rfl,rfl,rfl⟩
 ·have e:=ao2 (t.getD 0 0) (t.getD 1 0) (t.getD 2 0) (t.getD 3 0) (t.getD 4 0) (t.getD 5 0) a x
  have e2:l6 (v6 t+a.nat*x.toNat)=ar0 (t.getD 0 0) (t.getD 1 0) (t.getD 2 0) (t.getD 3 0) (t.getD 4 0) (t.getD 5 0) a x:=e.symm
  simp only [ae5,e2]
  rfl
def Di:cN:=(oX.aI WB ae5)
theorem Zx:ac Tryz.prog 150 Di:=aox
theorem Zw:aK Di:=aB
def Ht:Env:=aA 150 Di Hq
theorem vF:aW Tryz.prog Ht:=ai Zx vD
theorem ED:aw Ht:=ae Zw Ei
theorem Hs:bc Tryz.prog te Ht:=aO follows au vF ED
end Go.Proofs.YtohjofabochgfaaGreat

namespace Go.Proofs.YtohjofabochgfaaGreat
open Sx Go
theorem apq {n:Nat} (h:n/18446744073709551616/18446744073709551616/18446744073709551616/18446744073709551616/18446744073709551616<18446744073709551616):v6 (l6 n)=n:=by
 unfold v6 l6
 simp only [List.getD_cons_zero,List.getD_cons_succ,UInt64.toNat_ofNat']
 rw [show (2:Nat)^64=18446744073709551616 from rfl]
 omega
def A7 (p neg a:Nat) (b t:Nat):Nat:=(t+a*b+p*((t+a*b)*neg%18446744073709551616))/18446744073709551616
theorem pE {p neg a b t:Nat} (hn:(p*neg+1)%18446744073709551616=0):18446744073709551616*A7 p neg a b t=t+a*b+p*((t+a*b)*neg%18446744073709551616):=by
 unfold A7
 refine Nat.mul_div_cancel' (Nat.dvd_of_mod_eq_zero ?_)
 generalize t+a*b=u
 rw [Nat.add_mod,Nat.mul_mod,Nat.mod_mod,<-Nat.mul_mod,<-Nat.add_mod]
 have:u+p*(u*neg)=u*(p*neg+1):=by
  rw [Nat.mul_add,Nat.mul_one,Nat.mul_left_comm]
  omega
 rw [this,Nat.mul_mod,hn,Nat.mul_zero,Nat.zero_mod]
theorem pD {p neg a b t:Nat} (hn:(p*neg+1)%18446744073709551616=0) (ht:t<2*p) (ha:a<p) (hb:b<18446744073709551616):A7 p neg a b t<2*p:=by
 have h:=pE (a:=a) (b:=b) (t:=t) hn
 have hm:(t+a*b)*neg%18446744073709551616<=18446744073709551615:=by
  have:=Nat.mod_lt ((t+a*b)*neg) (show 0<18446744073709551616 by omega)
  omega
 have h1:p*((t+a*b)*neg%18446744073709551616)<=p*18446744073709551615:=Nat.mul_le_mul_left _ hm
 have h2:a*b<=p*18446744073709551615:=Nat.mul_le_mul (by omega) (by omega)
 omega
theorem am8 {p a b t t1 m K T B M W:Nat} (h1:W*t1=t+a*b+p*m) (h2:K*T=t1+a*B+p*M):(W*K)*T=t+a*(b+W*B)+p*(m+W*M):=by
 have e:(W*K)*T=W*t1+W*(a*B)+W*(p*M):=by rw [Nat.mul_assoc,h2,Nat.mul_add,Nat.mul_add]
 rw [e,h1,Nat.mul_add,Nat.mul_add,Nat.mul_left_comm a W,Nat.mul_left_comm p W]
 omega
theorem ar1 {p a b T K M r:Nat} (h:K*T=a*b+p*M) (hr:K*r%p=1%p):T%p=a*b*r%p:=by
 have h1:(K*T)*r=a*b*r+p*(M*r):=by rw [h,Nat.add_mul,Nat.mul_assoc p]
 have h2:a*b*r%p=(K*T*r)%p:=by rw [h1,Nat.add_mul_mod_self_left]
 have h3:K*T*r=T*(K*r):=by rw [Nat.mul_comm K T,Nat.mul_assoc]
 rw [h2,h3,Nat.mul_mod,hr,<-Nat.mul_mod,Nat.mul_one]
def ap2 (p neg a:Nat) (b:aa):Nat:=A7 p neg a b.w3.toNat (A7 p neg a b.w2.toNat (A7 p neg a b.w1.toNat (A7 p neg a b.w0.toNat 0)))
theorem ajz {p neg a r:Nat} {b:aa} (hn:(p*neg+1)%18446744073709551616=0) (hr:115792089237316195423570985008687907853269984665640564039457584007913129639936*r%p=1%p):ap2 p neg a b%p=a*b.nat*r%p:=by
 have h:=am8 (pE (a:=a) (b:=b.w0.toNat) (t:=0) hn) (am8 (pE (a:=a) (b:=b.w1.toNat) hn) (am8 (pE (a:=a) (b:=b.w2.toNat) hn) (show 18446744073709551616*_=_+a*b.w3.toNat+p*_ from pE hn)))
 rw [Nat.zero_add] at h
 exact ar1 (K:=18446744073709551616*(18446744073709551616*(18446744073709551616*18446744073709551616))) h hr
theorem anZ {p neg a:Nat} {b:aa} (hn:(p*neg+1)%18446744073709551616=0) (ha:a<p):ap2 p neg a b<2*p:=
 pD hn (pD hn (pD hn (pD hn (by omega) ha b.w0.toNat_lt) ha b.w1.toNat_lt) ha b.w2.toNat_lt) ha b.w3.toNat_lt
theorem an0 {T p:Nat} (h:T<2*p):T%p=if T<p then T else T-p:=by
 split
 ·exact Nat.mod_eq_of_lt ‹_›
 ·rw [Nat.mod_eq_sub_mod (by omega),Nat.mod_eq_of_lt (by omega)]
end Go.Proofs.YtohjofabochgfaaGreat

namespace Go.Proofs.YtohjofabochgfaaGreat
open Sx Go
set_option maxRecDepth 100000
def iN:aq:=⟨[.val true (.prod .elem (.prod .int (.prod .u64 (.prod .u64 .elem)))),.val true .elem,.val true .elem],[],true,0,false⟩
abbrev GD:Type:=(((aa×(Int×(UInt64×(UInt64×aa)))))×(aa)×(aa)×Unit)×(Unit)
def uH:Shape:=⟨61,[(3,.ptr 0 0 0),(4,.ptr 1 0 0),(6,.ptr 2 0 0),(7,.ptr 3 0 0),(13,.val true .elem),(14,.val false .int)],[(0,.cells [.val false .u64,.val false .u64,.val false .u64,.val false .u64,.val false .int,.val false .u64,.val false .u64,.val false .u64,.val false .u64,.val false .u64,.val false .u64]),(1,.row .u64),(2,.row .u64),(3,.row .u64)],0,true⟩
abbrev cg:Type:=((Unit)×(Unit)×(Unit)×(Unit)×(aa)×(Int)×Unit)×(((UInt64)×(UInt64)×(UInt64)×(UInt64)×(Int)×(UInt64)×(UInt64)×(UInt64)×(UInt64)×(UInt64)×(UInt64)×Unit)×(List (UInt64))×(List (UInt64))×(List (UInt64))×Unit)
def qu:Shape:=⟨61,[(3,.ptr 0 0 0),(6,.ptr 1 0 0),(7,.ptr 2 0 0)],[(0,.cells [.val false .u64,.val false .u64,.val false .u64,.val false .u64,.val false .int,.val false .u64,.val false .u64,.val false .u64,.val false .u64,.val false .u64,.val false .u64]),(1,.row .u64),(2,.row .u64)],0,true⟩
abbrev j4:Type:=((Unit)×(Unit)×(Unit)×Unit)×(((UInt64)×(UInt64)×(UInt64)×(UInt64)×(Int)×(UInt64)×(UInt64)×(UInt64)×(UInt64)×(UInt64)×(UInt64)×Unit)×(List (UInt64))×(List (UInt64))×Unit)
def Wh:SE->Option Shape:=kn [(0,qu)] none
def Jg (a13:aa) (a14:Int) (c0_0:UInt64) (c0_1:UInt64) (c0_2:UInt64) (c0_3:UInt64) (c0_4:Int) (c0_5:UInt64) (c0_6:UInt64) (c0_7:UInt64) (c0_8:UInt64) (c0_9:UInt64) (c0_10:UInt64) (c1:List (UInt64)) (c2:List (UInt64)) (c3:List (UInt64)):OT (Sum cg aQ):=
 let z0:Nat:=List.length c3
 let z1:List UInt64:=lay c3 (l6 (v6 (tab c3 6 (0:UInt64))+aa.nat {w0:=List.getD c1 0 0,w1:=List.getD c1 1 0,w2:=List.getD c1 2 0,w3:=List.getD c1 3 0}*UInt64.toNat (List.getD [a13.w0,a13.w1,a13.w2,a13.w3] (Int.toNat a14) (0:UInt64)))) 6 (0:UInt64)
 let z2:Nat:=List.length z1
 let z3:List UInt64:=lay z1 (l6 (v6 (tab z1 6 (0:UInt64))+aa.nat {w0:=c0_0,w1:=c0_1,w2:=c0_2,w3:=c0_3}*UInt64.toNat (List.getD z1 0 0*c0_6))) 6 (0:UInt64)
 let z4:Nat:=List.length z3
 (.br (decide (a14<(4:Int)))
 (gd [inB a14 4,decide (6<=z0),decide (4<=List.length c1),decide ((6/1:Nat)+0<=z0),decide (6<=z2),decide (0<z2),decide ((6/1:Nat)+0<=z2),decide (1<z4),decide (2<z4),decide (3<z4),decide (4<z4),decide (5<z4),decide ((6/1:Nat)+0<=z4),inR (a14+(1:Int))] (.ok (.inl (((),((),((),((),(a13,(a14+(1:Int),())))))),((c0_0,(c0_1,(c0_2,(c0_3,(c0_4,(c0_5,(c0_6,(c0_7,(c0_8,(c0_9,(c0_10,()))))))))))),(c1,(c2,(List.set (List.set (List.set (List.set (List.set (List.set z3 0 (List.getD z3 1 0)) 1 (List.getD z3 2 0)) 2 (List.getD z3 3 0)) 3 (List.getD z3 4 0)) 4 (List.getD z3 5 0)) 5 (0:UInt64),()))))))))
 (.ok (.inr ⟨(.exit 0,qu),(((),((),((),()))),((c0_0,(c0_1,(c0_2,(c0_3,(c0_4,(c0_5,(c0_6,(c0_7,(c0_8,(c0_9,(c0_10,()))))))))))),(c2,(c3,()))))⟩)))
def uI (s:cg):OT (Sum cg aQ):=Jg (s.1.2.2.2.2.1) (s.1.2.2.2.2.2.1) (s.2.1.1) (s.2.1.2.1) (s.2.1.2.2.1) (s.2.1.2.2.2.1) (s.2.1.2.2.2.2.1) (s.2.1.2.2.2.2.2.1) (s.2.1.2.2.2.2.2.2.1) (s.2.1.2.2.2.2.2.2.2.1) (s.2.1.2.2.2.2.2.2.2.2.1) (s.2.1.2.2.2.2.2.2.2.2.2.1) (s.2.1.2.2.2.2.2.2.2.2.2.2.1) (s.2.2.1) (s.2.2.2.1) (s.2.2.2.2.1)
theorem ajT (s:cg) (Q:Sum cg aQ->Prop):wps te Ht az 1000 (bL (ao Tryz.f118) 0) (uH.inj s) (df uH Wh (Q:Sum uH.T aQ->Prop))=(uI s).wpR Q:=by kernel_rfl
def AF (g0_0:cg->j4) (s:cg):OT aQ:=(.ok ⟨(.exit 0,qu),g0_0 s⟩)
def qt:ax:=⟨[.val true .elem],[],false⟩
def MP:SV->Option ax:=λ_=>some qt
def Q5 (ok0:cg->Bool) (g0_0:cg->j4) (a0:(aa×(Int×(UInt64×(UInt64×aa))))) (a1:aa) (a2:aa):OT iN.Y:=
 let z0:(PUnit×PUnit×PUnit×PUnit×aa×Int×PUnit)×(UInt64×UInt64×UInt64×UInt64×Int×UInt64×UInt64×UInt64×UInt64×UInt64×UInt64×PUnit)×List UInt64×List UInt64×List UInt64×PUnit:=(((),(),(),(),a2,(0:Int),()),(a0.fst.w0,a0.fst.w1,a0.fst.w2,a0.fst.w3,a0.snd.fst,a0.snd.snd.fst,a0.snd.snd.snd.fst,a0.snd.snd.snd.snd.w0,a0.snd.snd.snd.snd.w1,a0.snd.snd.snd.snd.w2,a0.snd.snd.snd.snd.w3,()),[a1.w0,a1.w1,a1.w2,a1.w3],[(0:UInt64),(0:UInt64),(0:UInt64),(0:UInt64)],[(0:UInt64),(0:UInt64),(0:UInt64),(0:UInt64),(0:UInt64),(0:UInt64)],())
 let z1:=(g0_0 z0).snd
 let z2:=z1.snd
 let z3:=z2.snd.fst
 let z4:Nat:=List.length z3
 let z5:=z2.fst
 let z6:Nat:=List.length z5
 let z7:Bool:=decide ((4/1:Nat)+0<=z6)
 let z8:=z1.fst
 let z9:=z8.snd
 let z10:=z9.snd
 let z11:aa×Bool:=kT {w0:=List.getD z3 0 0,w1:=List.getD z3 1 0,w2:=List.getD z3 2 0,w3:=List.getD z3 3 0} {w0:=z8.fst,w1:=z9.fst,w2:=z10.fst,w3:=z10.snd.fst}
 let z12:=z11.fst
 let z13:List UInt64:=List.set (List.set (List.set (List.set z5 0 z12.w0) 1 z12.w1) 2 z12.w2) 3 z12.w3
 let z14:Bool:=decide (4<=List.length z13)
 let z15:aa:= {w0:=List.getD z13 0 0,w1:=List.getD z13 1 0,w2:=List.getD z13 2 0,w3:=List.getD z13 3 0}
 let z16:List UInt64:=lay z5 z3 4 (0:UInt64)
 (gd [ok0 z0,decide (6<=z4)&&true,decide (4<=z4),decide (4<z4)] (.br (!List.getD z3 4 0==(0:UInt64))
 (gd [z7,z14] (.ok ⟨qt,((z15,()),())⟩))
 (.br (!z11.snd)
  (gd [z7,z14] (.ok ⟨qt,((z15,()),())⟩))
  (gd [decide ((4/1:Nat)+0<=z6),decide (4<=List.length z16)] (.ok ⟨qt,(({w0:=List.getD z16 0 0,w1:=List.getD z16 1 0,w2:=List.getD z16 2 0,w3:=List.getD z16 3 0},()),())⟩)))))
theorem an8 (ok0:cg->Bool) (g0_0:cg->j4) (x:GD) (Q:iN.Y->Prop):wpf te Ht (bn 0 (dC uH 0 ok0 (AF g0_0)) az) 1000 Tryz.f118 (iN.inp.inj x).tm (iN.inp.inj x).hp (fnK iN MP Q) (λ_ _=>False)=(Q5 ok0 g0_0 (x.1.1) (x.1.2.1) (x.1.2.2.1)).wpR Q:=by kernel_rfl
theorem YZ (ok0:cg->Bool) (g0_0:cg->j4) (h0:∀ s:cg,ok0 s=true->∃ m e,av (uI) m s=some e/\(AF g0_0 s).run=some e) (pre:GD->Bool) (F:GD->OT iN.Y) (hF:∀ (x:GD) oy,pre x=true->(F x).run=some oy->(Q5 ok0 g0_0 (x.1.1) (x.1.2.1) (x.1.2.2.1)).run=some oy):ac Tryz.prog 118 (iN.aI pre F):=
 aE au vF Hs (f:=118) (fn:=Tryz.f118) (c:=ao Tryz.f118) (by kernel_rfl) (by kernel_rfl) (by kernel_rfl) (S:=iN) (k:=0) (by kernel_rfl) (λR hR=>(aH (c:=(ao Tryz.f118)) (by kernel_rfl) (id:=0) (by kernel_rfl) (bz au vF Hs (sh:=uH) hR (xs:=Wh) (aJ (by kernel_rfl) (by kernel_rfl) hR) aY ag (n:=1000) (T:=uI) (λs Q=>ajT s Q) (ok:=ok0) (f:=AF g0_0) h0) ag)) (n:=1000) (sel:=MP) (λv o h=>by cases h;rfl) (pre:=pre) (F:=F) (T:=λx=>Q5 ok0 g0_0 (x.1.1) (x.1.2.1) (x.1.2.2.1)) (λx Q=>an8 ok0 g0_0 x Q) hF
def iM (n:Ku):Bool:=decide (n=bO 2)||decide (n=bO 3)
theorem gC {n:Ku} (h:iM n=true):n=bO 2\/n=bO 3:=by
 simpa [iM] using h
def aiw (n:Ku):Nat:=if n.2.2.2.1==11037532056220336127 then 15353493766103302224812374511606760489073247795810767472367693728416386214313 else 14238205147845459960272226733876560297615832660064601289232577236146637664127
theorem aeu {n:Ku} (h:iM n=true):(n.1.nat*n.2.2.2.1.toNat+1)%18446744073709551616=0:=by
 rcases gC h with rfl|rfl<;>decide+kernel
theorem aev {n:Ku} (h:iM n=true):115792089237316195423570985008687907853269984665640564039457584007913129639936*aiw n%n.1.nat=1%n.1.nat:=by
 rcases gC h with rfl|rfl<;>decide+kernel
theorem aes {n:Ku} (h:iM n=true):2*n.1.nat<=115792089237316195423570985008687907853269984665640564039457584007913129639936:=by
 rcases gC h with rfl|rfl<;>decide+kernel
theorem arT (n:Nat):tab (l6 n) 6 0=l6 n:=rfl
theorem ajN {n:Nat} (h:n/18446744073709551616/18446744073709551616/18446744073709551616/18446744073709551616/18446744073709551616/18446744073709551616=0):
 [UInt64.ofNat (n/18446744073709551616),UInt64.ofNat (n/18446744073709551616/18446744073709551616),UInt64.ofNat (n/18446744073709551616/18446744073709551616/18446744073709551616),
  UInt64.ofNat (n/18446744073709551616/18446744073709551616/18446744073709551616/18446744073709551616),UInt64.ofNat (n/18446744073709551616/18446744073709551616/18446744073709551616/18446744073709551616/18446744073709551616),0]=l6 (n/18446744073709551616):=by
 unfold l6
 rw [h]
 rfl
theorem arW (a b:Nat):lay (l6 a) (l6 b) 6 0=l6 b:=ad9 rfl rfl
theorem agq (U:Nat) (neg:UInt64):(List.getD (l6 U) 0 0*neg).toNat=U*neg.toNat%18446744073709551616:=by
 show (UInt64.ofNat U*neg).toNat=_
 rw [UInt64.toNat_mul,UInt64.toNat_ofNat',Nat.mul_mod,Nat.mod_mod,<-Nat.mul_mod]
theorem YY (b:aa) (k:Nat) (hk:k<4) (x0 x1 x2 x3 x5 x6 x7 x8 x9 x10:UInt64) (x4:Int) (c1 c2:List UInt64) (T:Nat) (h1:c1.length=4) (hT:T<2*(aa.mk x0 x1 x2 x3).nat)
 (hn:((aa.mk x0 x1 x2 x3).nat*x6.toNat+1)%18446744073709551616=0) (hp:2*(aa.mk x0 x1 x2 x3).nat<=115792089237316195423570985008687907853269984665640564039457584007913129639936) (ha:(elemOf c1).nat<(aa.mk x0 x1 x2 x3).nat):
 (Jg b (k:Int) x0 x1 x2 x3 x4 x5 x6 x7 x8 x9 x10 c1 c2 (l6 T)).run=some (.inl (((),(),(),(),b,((k+1:Nat):Int),()),((x0,x1,x2,x3,x4,x5,x6,x7,x8,x9,x10,()),c1,c2,l6 (A7 (aa.mk x0 x1 x2 x3).nat x6.toNat (elemOf c1).nat ((lst b).getD k 0).toNat T),()))):=by
 have hlt:=pD (b:=((lst b).getD k 0).toNat) hn hT ha (UInt64.toNat_lt _)
 have heq:=pE (a:=(elemOf c1).nat) (b:=((lst b).getD k 0).toNat) (t:=T) hn
 have hrd:A7 (aa.mk x0 x1 x2 x3).nat x6.toNat (elemOf c1).nat ((lst b).getD k 0).toNat T=(T+(elemOf c1).nat*((lst b).getD k 0).toNat+(aa.mk x0 x1 x2 x3).nat*((T+(elemOf c1).nat*((lst b).getD k 0).toNat)*x6.toNat%18446744073709551616))/18446744073709551616:=rfl
 generalize hU:T+(elemOf c1).nat*((lst b).getD k 0).toNat=U at heq hrd
 generalize hV:U+(aa.mk x0 x1 x2 x3).nat*(U*x6.toNat%18446744073709551616)=V at heq hrd
 generalize A7 (aa.mk x0 x1 x2 x3).nat x6.toNat (elemOf c1).nat ((lst b).getD k 0).toNat T=S at*
 have hVU:U<=V:=by rw [<-hV];exact Nat.le_add_right _ _
 have hz1:lay (l6 T) (l6 (v6 (tab (l6 T) 6 0)+aa.nat {w0:=List.getD c1 0 0,w1:=List.getD c1 1 0,w2:=List.getD c1 2 0,w3:=List.getD c1 3 0}*UInt64.toNat (List.getD [b.w0,b.w1,b.w2,b.w3] (Int.toNat (k:Int)) 0))) 6 0=l6 U:=by
  rw [arT,apq (by omega),arW,Int.toNat_natCast]
  exact congrArg l6 hU
 have hz3:lay (l6 U) (l6 (v6 (tab (l6 U) 6 0)+aa.nat {w0:=x0,w1:=x1,w2:=x2,w3:=x3}*UInt64.toNat (List.getD (l6 U) 0 0*x6))) 6 0=l6 V:=by
  rw [arT,apq (by omega),arW,agq,hV]
 have hsh:_=l6 (V/18446744073709551616):=ajN (n:=V) (by omega)
 unfold Jg
 simp only [hz1,hz3]
 refine (OT.ap (decide_eq_true (by omega))).trans ((al ?_).trans ?_)
 ·simp only [aec,h1,List.all_cons,List.all_nil,Bool.and_true,Bool.and_eq_true]
  exact ⟨bG (by omega),rfl,rfl,rfl,rfl,rfl,rfl,rfl,rfl,rfl,rfl,rfl,rfl,bF (by omega)⟩
 ·rw [hrd]
  exact congrArg (λl=>some (Sum.inl (((),(),(),(),b,((k+1:Nat):Int),()),((x0,x1,x2,x3,x4,x5,x6,x7,x8,x9,x10,()),c1,c2,l,())))) hsh
def afK (s:cg):aa:=⟨s.2.1.1,s.2.1.2.1,s.2.1.2.2.1,s.2.1.2.2.2.1⟩
def aoT (s:cg):UInt64:=s.2.1.2.2.2.2.2.2.1
def MQ (s:cg):Bool:=decide (s.1.2.2.2.2.2.1=0/\s.2.2.1.length=4/\s.2.2.2.2.1=l6 0/\((afK s).nat*(aoT s).toNat+1)%18446744073709551616=0/\2*(afK s).nat<=115792089237316195423570985008687907853269984665640564039457584007913129639936/\(elemOf s.2.2.1).nat<(afK s).nat)
def Jf (s:cg):j4:=(((),(),(),()),(s.2.1,s.2.2.2.1,l6 (ap2 (afK s).nat (aoT s).toNat (elemOf s.2.2.1).nat s.1.2.2.2.2.1),()))
theorem ajV:∀ s:cg,MQ s=true->∃ m e,av uI m s=some e/\(AF Jf s).run=some e:=by
 rintro ⟨⟨⟨⟩,⟨⟩,⟨⟩,⟨⟩,b,i,⟨⟩⟩,⟨⟨x0,x1,x2,x3,x4,x5,x6,x7,x8,x9,x10,⟨⟩⟩,c1,c2,c3,⟨⟩⟩⟩ h
 have h':=of_decide_eq_true h
 dsimp only [afK,aoT] at h'
 obtain ⟨rfl,h1,rfl,hn,hp,ha⟩:=h'
 have:=(bP (T:=uI) (λk T=>((((),(),(),(),b,(k:Int),()),((x0,x1,x2,x3,x4,x5,x6,x7,x8,x9,x10,()),c1,c2,l6 T,())):cg)) (λk T=>A7 (aa.mk x0 x1 x2 x3).nat x6.toNat (elemOf c1).nat ((lst b).getD k 0).toNat T)
  (λT=>(⟨(.exit 0,qu),(((),(),(),()),((x0,x1,x2,x3,x4,x5,x6,x7,x8,x9,x10,()),c2,l6 T,()))⟩:aQ)) 4 0 (λ_ T=>T<2*(aa.mk x0 x1 x2 x3).nat) (by omega) (λk T hk hT=>⟨?_,?_⟩) (λT hT=> ?_)).1
 ·obtain ⟨m,hm⟩:=this
  exact ⟨m,_,hm,rfl⟩
 ·exact YY b k hk x0 x1 x2 x3 x5 x6 x7 x8 x9 x10 x4 c1 c2 T h1 hT hn hp ha
 ·exact pD hn hT ha (UInt64.toNat_lt _)
 ·exact OT.ay (decide_eq_false (by dsimp only;omega))
def oJ (x:GD):Bool:=iM x.1.1&&Nat.blt x.1.2.1.nat x.1.1.1.nat
def aeA (x:GD):OT iN.Y:=.ok ⟨qt,((ofN (x.1.2.1.nat*x.1.2.2.1.nat*aiw x.1.1%x.1.1.1.nat),()),())⟩
theorem ajU:ac Tryz.prog 118 (iN.aI oJ aeA):=YZ MQ Jf ajV _ _ λx oy hp ho=>by
 rw [<-ho]
 clear ho
 obtain ⟨⟨⟨⟨m0,m1,m2,m3⟩,ad,sm,neg,sq⟩,a,b,⟨⟩⟩,⟨⟩⟩:=x
 have hp':(iM (⟨m0,m1,m2,m3⟩,ad,sm,neg,sq)&&Nat.blt a.nat (aa.mk m0 m1 m2 m3).nat)=true:=hp
 rw [Bool.and_eq_true] at hp'
 obtain ⟨hg,ha⟩:=hp'
 have ha:=cJ ha
 have hn:((aa.mk m0 m1 m2 m3).nat*neg.toNat+1)%18446744073709551616=0:=aeu hg
 have h2:2*(aa.mk m0 m1 m2 m3).nat<=115792089237316195423570985008687907853269984665640564039457584007913129639936:=aes hg
 have hr:115792089237316195423570985008687907853269984665640564039457584007913129639936*aiw (⟨m0,m1,m2,m3⟩,ad,sm,neg,sq)%(aa.mk m0 m1 m2 m3).nat=1%(aa.mk m0 m1 m2 m3).nat:=aev hg
 have hM:=ajz (a:=a.nat) (b:=b) hn hr
 have hL:=anZ (b:=b) hn ha
 refine (al ?_).trans ?_
 ·simp only [List.all_cons,List.all_nil,Bool.and_true,Bool.and_eq_true]
  exact ⟨decide_eq_true ⟨rfl,rfl,rfl,hn,h2,ha⟩,rfl,rfl,rfl⟩
 ·show _=(OT.ok ⟨qt,((ofN (a.nat*b.nat*aiw (⟨m0,m1,m2,m3⟩,ad,sm,neg,sq)%(aa.mk m0 m1 m2 m3).nat),()),())⟩:OT iN.Y).run
  rw [<-hM,an0 hL]
  have e0:Jf (((),(),(),(),b,0,()),((m0,m1,m2,m3,ad,sm,neg,sq.w0,sq.w1,sq.w2,sq.w3,()),[a.w0,a.w1,a.w2,a.w3],[0,0,0,0],[0,0,0,0,0,0],()))=(((),(),(),()),((m0,m1,m2,m3,ad,sm,neg,sq.w0,sq.w1,sq.w2,sq.w3,()),[0,0,0,0],l6 (ap2 (aa.mk m0 m1 m2 m3).nat neg.toNat a.nat b),())):=rfl
  dsimp only
  rw [e0]
  clear e0 hM
  generalize ap2 (aa.mk m0 m1 m2 m3).nat neg.toNat a.nat b=M at*
  have e4:List.getD (l6 M) 4 0=0:=by
   show UInt64.ofNat (M/18446744073709551616/18446744073709551616/18446744073709551616/18446744073709551616)=0
   rw [show M/18446744073709551616/18446744073709551616/18446744073709551616/18446744073709551616=0 by omega]
   rfl
  refine (OT.ay (by rw [e4];rfl)).trans ?_
  have eN:(ofN M).nat=M:=gX (by omega)
  by_cases hlt:M<(aa.mk m0 m1 m2 m3).nat
  ·rw [if_pos hlt]
   refine (OT.ay ?_).trans ((al rfl).trans rfl)
   show (!Nat.blt (ofN M).nat (aa.mk m0 m1 m2 m3).nat)=false
   rw [eN,show Nat.blt M (aa.mk m0 m1 m2 m3).nat=true from Nat.ble_eq_true_of_le hlt]
   rfl
  ·rw [if_neg hlt]
   refine (OT.ap ?_).trans ((al rfl).trans ?_)
   ·show (!Nat.blt (ofN M).nat (aa.mk m0 m1 m2 m3).nat)=true
    rw [eN]
    cases hb:Nat.blt M (aa.mk m0 m1 m2 m3).nat
    ·rfl
    ·exact absurd (cJ hb) hlt
   ·have ew:(kT (ofN M) (aa.mk m0 m1 m2 m3)).1=ofN (M-(aa.mk m0 m1 m2 m3).nat):=by
     apply jP
     rw [mo (by omega),eN,gX (by omega)]
    rw [<-ew]
    rfl
def xC:cN:=(iN.aI oJ aeA)
theorem Q4:ac Tryz.prog 118 xC:=ajU
theorem Q3:aK xC:=aB
def Ej:Env:=aA 118 xC Ht
theorem yw:aW Tryz.prog Ej:=ai Q4 vF
theorem zK:aw Ej:=ae Q3 ED
theorem Sj:bc Tryz.prog te Ej:=aO follows au yw zK
def iO:aq:=⟨[.val true (.prod .elem (.prod .int (.prod .u64 (.prod .u64 .elem)))),.val true .elem,.val true .elem],[],true,0,false⟩
abbrev GH:Type:=(((aa×(Int×(UInt64×(UInt64×aa)))))×(aa)×(aa)×Unit)×(Unit)
def mW:ax:=⟨[.val true .elem],[],false⟩
def M0:SV->Option ax:=λ_=>some mW
def sw (a0:(aa×(Int×(UInt64×(UInt64×aa))))) (a1:aa) (a2:aa):OT iO.Y:=
 let z0:Bool:= !a0.snd.snd.fst==(0:UInt64)
 let z1:Nat:=aa.nat a0.fst
 let z2:aa:=ofN (aa.nat a1%z1)
 let z3:aa:=ofN (aa.nat a2%z1)
 let z4:Nat:=aiw a0
 let z5:aa:=ofN (aa.nat z2*aa.nat z3*z4%z1)
 (gd [gD ((a0,a1,()),()),gD ((a0,a2,()),())] (.br (z0)
 (gd [z0] (.ok ⟨mW,(({w0:=z2.w0*z3.w0%a0.snd.snd.fst,w1:=0,w2:=0,w3:=0},()),())⟩))
 (gd [oJ ((a0,z2,z3,()),()),oJ ((a0,z5,a0.snd.snd.snd.snd,()),())] (.ok ⟨mW,((ofN (aa.nat z5*aa.nat a0.snd.snd.snd.snd*z4%z1),()),())⟩))))
theorem aol (x:GH) (Q:iO.Y->Prop):wpf te Ej az 1000 Tryz.f77 (iO.inp.inj x).tm (iO.inp.inj x).hp (fnK iO M0 Q) (λ_ _=>False)=(sw (x.1.1) (x.1.2.1) (x.1.2.2.1)).wpR Q:=by kernel_rfl
theorem Zd (pre:GH->Bool) (F:GH->OT iO.Y) (hF:∀ (x:GH) oy,pre x=true->(F x).run=some oy->(sw (x.1.1) (x.1.2.1) (x.1.2.2.1)).run=some oy):ac Tryz.prog 77 (iO.aI pre F):=
 aE au yw Sj (f:=77) (fn:=Tryz.f77) (c:=ao Tryz.f77) (by kernel_rfl) (by kernel_rfl) (by kernel_rfl) (S:=iO) (k:=0) (by kernel_rfl) (λR hR=>ag) (n:=1000) (sel:=M0) (λv o h=>by cases h;rfl) (pre:=pre) (F:=F) (T:=λx=>sw (x.1.1) (x.1.2.1) (x.1.2.2.1)) (λx Q=>aol x Q) hF
theorem adW {p A B r s:Nat} (h:r*s*r%p=1%p):A*B*r%p*s*r%p=A*B%p:=by
 have e:A*B*r*(s*r)=A*B*(r*s*r):=by
  rw [Nat.mul_assoc (A*B) r (s*r),Nat.mul_assoc r s r]
 rw [Nat.mul_assoc,Nat.mul_mod,Nat.mod_mod,<-Nat.mul_mod,e,Nat.mul_mod,h,<-Nat.mul_mod,Nat.mul_one]
theorem ajR {n:Ku} (h:iM n=true):aiw n*n.2.2.2.2.nat*aiw n%n.1.nat=1%n.1.nat:=by
 rcases gC h with rfl|rfl<;>decide+kernel
theorem aqh:iM (bO 2)=true:=by decide+kernel
theorem aqg:iM (bO 3)=true:=by decide+kernel
theorem aet {n:Ku} (h:iM n=true):nz n=true:=by
 rcases gC h with rfl|rfl<;>decide+kernel
theorem zc {n:Ku} {a b:aa} {m:UInt64} (hn0:nz n=true) (h1:n.1=⟨m,0,0,0⟩) (h2:n.2.2.1=m) (hs:eS m=true):(sw n a b).run=some ⟨mW,((aN n.1.nat a b,()),())⟩:=by
 have hm:=js hs
 have hb':m.toNat<=16521217:=by rcases dq hs with rfl|rfl<;>decide
 have hn:n.1.nat=m.toNat:=by rw [h1];show m.toNat+_*(0+_*(0+_*0))=_;omega
 have hz:(!(n.2.2.1==0))=true:=by
  rw [h2]
  rcases dq hs with rfl|rfl<;>rfl
 have ha:=Nat.mod_lt a.nat hm
 have hb:=Nat.mod_lt b.nat hm
 have hab:a.nat%m.toNat*(b.nat%m.toNat)<18446744073709551616:=by
  have:a.nat%m.toNat*(b.nat%m.toNat)<=16521217*16521217:=Nat.mul_le_mul (by omega) (by omega)
  omega
 have e:UInt64.ofNat (a.nat%m.toNat)*UInt64.ofNat (b.nat%m.toNat)%m=UInt64.ofNat (a.nat*b.nat%m.toNat):=by
  have hlt:=Nat.mod_lt (a.nat*b.nat) hm
  rw [<-UInt64.toNat_inj,UInt64.toNat_mod,UInt64.toNat_mul,UInt64.toNat_ofNat',UInt64.toNat_ofNat',UInt64.toNat_ofNat',Nat.mod_eq_of_lt (a:=a.nat%m.toNat) (by omega),Nat.mod_eq_of_lt (a:=b.nat%m.toNat) (by omega),
   Nat.mod_eq_of_lt (a:=a.nat%m.toNat*(b.nat%m.toNat)) (by omega),Nat.mod_eq_of_lt (a:=a.nat*b.nat%m.toNat) (by omega),<-Nat.mul_mod]
 have hlt:=Nat.mod_lt (a.nat*b.nat) hm
 unfold sw
 refine (al ?_).trans ((OT.ap hz).trans ((al ?_).trans ?_))
 ·simp only [List.all_cons,List.all_nil,Bool.and_true,Bool.and_eq_true]
  exact ⟨hn0,hn0⟩
 ·simp only [hz,List.all_cons,List.all_nil,Bool.and_true]
 ·unfold aN
  rw [hn,om (n:=a.nat*b.nat%m.toNat) (by omega),<-e]
  show some (⟨mW,((⟨UInt64.ofNat (a.nat%m.toNat)*UInt64.ofNat (b.nat%m.toNat)%n.2.2.1,0,0,0⟩,()),())⟩:iO.Y)=_
  rw [h2]
theorem C0 {n:Ku} {a b:aa} (h:iM n=true) (h2:n.2.2.1=0):(sw n a b).run=some ⟨mW,((aN n.1.nat a b,()),())⟩:=by
 have hn0:=aet h
 have hp:=uh hn0
 have hz:(!(n.2.2.1==0))=false:=by rw [h2];rfl
 have e1:(ofN (a.nat%n.1.nat)).nat=a.nat%n.1.nat:=cv hp
 have e2:(ofN (b.nat%n.1.nat)).nat=b.nat%n.1.nat:=cv hp
 have e3:(ofN (a.nat%n.1.nat*(b.nat%n.1.nat)*aiw n%n.1.nat)).nat=a.nat%n.1.nat*(b.nat%n.1.nat)*aiw n%n.1.nat:=cv hp
 unfold sw
 refine (al ?_).trans ((OT.ay hz).trans ((al ?_).trans ?_))
 ·simp only [List.all_cons,List.all_nil,Bool.and_true,Bool.and_eq_true]
  exact ⟨hn0,hn0⟩
 ·simp only [List.all_cons,List.all_nil,Bool.and_true,Bool.and_eq_true,oJ,h,true_and,e1,e2,e3]
  exact ⟨Nat.ble_eq_true_of_le (Nat.mod_lt _ hp.1),Nat.ble_eq_true_of_le (Nat.mod_lt _ hp.1)⟩
 ·simp only [e1,e2,e3,adW (ajR h),aN,<-Nat.mul_mod]
  rfl
def oN (x:GH):Bool:=nz x.1.1
def aeN (x:GH):OT iO.Y:=.ok ⟨mW,((aN x.1.1.1.nat x.1.2.1 x.1.2.2.1,()),())⟩
theorem aj1:ac Tryz.prog 77 (iO.aI oN aeN):=Zd _ _ λx oy hp ho=>by
 rw [<-ho]
 clear ho
 obtain ⟨⟨n,a,b,⟨⟩⟩,⟨⟩⟩:=x
 have hp':nz n=true:=hp
 rcases sb hp' with rfl|rfl|rfl|rfl
 ·exact zc hp' (m:=16513537) rfl rfl rfl
 ·exact zc hp' (m:=16521217) rfl rfl rfl
 ·exact C0 aqh rfl
 ·exact C0 aqg rfl
def xE:cN:=(iO.aI oN aeN)
theorem Rb:ac Tryz.prog 77 xE:=aj1
theorem Ra:aK xE:=aB
def Es:Env:=aA 77 xE Ej
theorem yB:aW Tryz.prog Es:=ai Rb yw
theorem zM:aw Es:=ae Ra zK
theorem Sl:bc Tryz.prog te Es:=aO follows au yB zM
def oM:aq:=⟨[.val false .int,.val true .elem,.val true .elem],[],true,0,false⟩
abbrev Zc:Type:=((Int)×(aa)×(aa)×Unit)×(Unit)
def CZ:ax:=⟨[.val true .elem],[],false⟩
def Wn:SV->Option ax:=λ_=>some CZ
def aeM (a0:Int) (a1:aa) (a2:aa):OT oM.Y:=
 let z0:aa×Int×UInt64×UInt64×aa:=bO (Int.toNat a0)
 (.br (ak a0)
 (gd [oN ((z0,a1,a2,()),())] (.ok ⟨CZ,((aN (aa.nat z0.fst) a1 a2,()),())⟩))
 (.ok ⟨CZ,(({w0:=0,w1:=0,w2:=0,w3:=0},()),())⟩))
theorem aqr (x:Zc) (Q:oM.Y->Prop):wpf te Es az 1000 Tryz.f42 (oM.inp.inj x).tm (oM.inp.inj x).hp (fnK oM Wn Q) (λ_ _=>False)=(aeM (x.1.1) (x.1.2.1) (x.1.2.2.1)).wpR Q:=by kernel_rfl
theorem aeL (pre:Zc->Bool) (F:Zc->OT oM.Y) (hF:∀ (x:Zc) oy,pre x=true->(F x).run=some oy->(aeM (x.1.1) (x.1.2.1) (x.1.2.2.1)).run=some oy):ac Tryz.prog 42 (oM.aI pre F):=
 aE au yB Sl (f:=42) (fn:=Tryz.f42) (c:=ao Tryz.f42) (by kernel_rfl) (by kernel_rfl) (by kernel_rfl) (S:=oM) (k:=0) (by kernel_rfl) (λR hR=>ag) (n:=1000) (sel:=Wn) (λv o h=>by cases h;rfl) (pre:=pre) (F:=F) (T:=λx=>aeM (x.1.1) (x.1.2.1) (x.1.2.2.1)) (λx Q=>aqr x Q) hF
def Wo (_:Zc):Bool:=true
def alf (x:Zc):OT oM.Y:=.br (ak x.1.1) (.ok ⟨CZ,((aN (pS x.1.1) x.1.2.1 x.1.2.2.1,()),())⟩) (.ok ⟨CZ,((⟨0,0,0,0⟩,()),())⟩)
theorem aok:ac Tryz.prog 42 (oM.aI Wo alf):=aeL _ _ λx oy hp ho=>by
 rw [<-ho]
 clear ho
 obtain ⟨⟨s,a,b,⟨⟩⟩,⟨⟩⟩:=x
 cases hs:ak s
 ·exact (OT.ay hs).trans (OT.ay (b:=ak s) hs).symm
 ·refine (OT.ap hs).trans ((al ?_).trans (OT.ap (b:=ak s) hs).symm)
  simp only [List.all_cons,List.all_nil,Bool.and_true]
  exact qg hs
def CY:cN:=(oM.aI Wo alf)
theorem Zb:ac Tryz.prog 42 CY:=aok
theorem Za:aK CY:=aB
def Ot:Env:=aA 42 CY Es
theorem Ep:aW Tryz.prog Ot:=ai Zb yB
theorem Er:aw Ot:=ae Za zM
theorem aah:bc Tryz.prog te Ot:=aO follows au Ep Er
def j7:aq:=⟨[.val true .elem],[],true,0,false⟩
abbrev GM:Type:=((aa)×Unit)×(Unit)
def Jq:ax:=⟨[.val true .elem],[],false⟩
def M8:SV->Option ax:=λ_=>some Jq
def Rf (a0:aa):OT j7.Y:=
 (.ok ⟨Jq,(({w0:=bu a0.w0 (1:Int)|||cC a0.w1 (63:Int),w1:=bu a0.w1 (1:Int)|||cC a0.w2 (63:Int),w2:=bu a0.w2 (1:Int)|||cC a0.w3 (63:Int),w3:=bu a0.w3 (1:Int)},()),())⟩)
theorem aop (x:GM) (Q:j7.Y->Prop):wpf te Ot az 1000 Tryz.f138 (j7.inp.inj x).tm (j7.inp.inj x).hp (fnK j7 M8 Q) (λ_ _=>False)=(Rf (x.1.1)).wpR Q:=by kernel_rfl
theorem Zo (pre:GM->Bool) (F:GM->OT j7.Y) (hF:∀ (x:GM) oy,pre x=true->(F x).run=some oy->(Rf (x.1.1)).run=some oy):ac Tryz.prog 138 (j7.aI pre F):=
 aE au Ep aah (f:=138) (fn:=Tryz.f138) (c:=ao Tryz.f138) (by kernel_rfl) (by kernel_rfl) (by kernel_rfl) (S:=j7) (k:=0) (by kernel_rfl) (λR hR=>ag) (n:=1000) (sel:=M8) (λv o h=>by cases h;rfl) (pre:=pre) (F:=F) (T:=λx=>Rf (x.1.1)) (λx Q=>aop x Q) hF
theorem CD (x y:UInt64):(bu x 1|||cC y 63).toNat=x.toNat/2+9223372036854775808*(y.toNat%2):=by
 have hx:=x.toNat_lt
 have e1:(bu x 1).toNat=x.toNat/2:=fT x 1 (by omega)
 have e2:(cC y 63).toNat=9223372036854775808*(y.toNat%2):=by
  have:=lf y 63 (by omega)
  have e:(cC y 63).toNat=y.toNat*2^63%2^64:=this
  rw [e]
  omega
 rw [UInt64.toNat_or,e1,e2,Nat.or_comm]
 have:=Nat.two_pow_add_eq_or_of_lt (i:=63) (b:=x.toNat/2) (by omega) (y.toNat%2)
 rw [Nat.add_comm]
 exact this.symm
theorem CE (x N:Nat):(x+18446744073709551616*N)/2=(x/2+9223372036854775808*(N%2))+18446744073709551616*(N/2):=by
 omega
theorem QR (y N:Nat):(y+18446744073709551616*N)%2=y%2:=by
 omega
def fk (a:aa):aa:=ofN (a.nat/2)
theorem Wa (a:aa):fk a=⟨bu a.w0 1|||cC a.w1 63,bu a.w1 1|||cC a.w2 63,bu a.w2 1|||cC a.w3 63,bu a.w3 1⟩:=by
 refine adE (k:=0) ?_
 rw [CD,CD,CD,Nat.mul_zero,Nat.add_zero]
 unfold Sx.aa.nat
 have e3:(bu a.w3 1).toNat=a.w3.toNat/2:=fT a.w3 1 (by omega)
 rw [CE,QR,CE,QR,CE,e3]
def M9 (_:GM):Bool:=true
def Rg (x:GM):OT j7.Y:=.ok ⟨Jq,((fk x.1.1,()),())⟩
theorem aj2:ac Tryz.prog 138 (j7.aI M9 Rg):=Zo _ _ λx oy hp ho=>by
 rw [<-ho]
 clear ho
 obtain ⟨⟨a,⟨⟩⟩,⟨⟩⟩:=x
 simp only [Rg,Wa]
 rfl
def xF:cN:=(j7.aI M9 Rg)
theorem Re:ac Tryz.prog 138 xF:=aj2
theorem Rd:aK xF:=aB
def yD:Env:=aA 138 xF Ot
theorem qV:aW Tryz.prog yD:=ai Re Ep
theorem zN:aw yD:=ae Rd Er
theorem Ex:bc Tryz.prog te yD:=aO follows au qV zN
def ef:aq:=⟨[.val true .elem,.val false .int],[],true,0,false⟩
abbrev qy:Type:=((aa)×(Int)×Unit)×(Unit)
def lW:Shape:=⟨12,[(2,.ptr 0 0 0),(4,.ptr 1 0 0),(5,.val false .int),(6,.val false .int)],[(0,.row .u64),(1,.row .u64)],0,true⟩
abbrev bJ:Type:=((Unit)×(Unit)×(Int)×(Int)×Unit)×((List (UInt64))×(List (UInt64))×Unit)
def kJ:Shape:=⟨12,[(2,.ptr 0 0 0),(4,.ptr 1 0 0)],[(0,.row .u64),(1,.row .u64)],0,true⟩
abbrev gE:Type:=((Unit)×(Unit)×Unit)×((List (UInt64))×(List (UInt64))×Unit)
def GK:SE->Option Shape:=kn [(0,kJ)] none
def Zn (a5:Int) (a6:Int) (c0:List (UInt64)) (c1:List (UInt64)):OT (Sum bJ aQ):=
 let z0:Nat:=List.length c0
 let z1:aa:=fk {w0:=List.getD c0 0 0,w1:=List.getD c0 1 0,w2:=List.getD c0 2 0,w3:=List.getD c0 3 0}
 (.br (decide (a6<a5))
 (gd [decide (4<=z0),decide ((4/1:Nat)+0<=z0),inR (a6+(1:Int))] (.ok (.inl (((),((),(a5,(a6+(1:Int),())))),(List.set (List.set (List.set (List.set c0 0 z1.w0) 1 z1.w1) 2 z1.w2) 3 z1.w3,(c1,()))))))
 (.ok (.inr ⟨(.exit 0,kJ),(((),((),())),(c0,(c1,())))⟩)))
def lY (s:bJ):OT (Sum bJ aQ):=Zn (s.1.2.2.1) (s.1.2.2.2.1) (s.2.1) (s.2.2.1)
theorem Zk (s:bJ) (Q:Sum bJ aQ->Prop):wps te yD az 1000 (bL (ao Tryz.f136) 0) (lW.inj s) (df lW GK (Q:Sum lW.T aQ->Prop))=(lY s).wpR Q:=by kernel_rfl
def qx (g0_0:bJ->gE) (s:bJ):OT aQ:=(.ok ⟨(.exit 0,kJ),g0_0 s⟩)
def lX:ax:=⟨[.val true .elem],[],false⟩
def C6:SV->Option ax:=λ_=>some lX
def Da (ok0:bJ->Bool) (g0_0:bJ->gE) (a0:aa) (a1:Int):OT ef.Y:=
 let z0:(PUnit×PUnit×Int×Int×PUnit)×List UInt64×List UInt64×PUnit:=(((),(),a1,(0:Int),()),[a0.w0,a0.w1,a0.w2,a0.w3],[(0:UInt64),(0:UInt64),(0:UInt64),(0:UInt64)],())
 let z1:=(g0_0 z0).snd
 let z2:=z1.fst
 let z3:=z1.snd.fst
 let z4:List UInt64:=lay z3 z2 4 (0:UInt64)
 (gd [ok0 z0,decide (4<=List.length z2),decide ((4/1:Nat)+0<=List.length z3),decide (4<=List.length z4)] (.ok ⟨lX,(({w0:=List.getD z4 0 0,w1:=List.getD z4 1 0,w2:=List.getD z4 2 0,w3:=List.getD z4 3 0},()),())⟩))
theorem aeS (ok0:bJ->Bool) (g0_0:bJ->gE) (x:qy) (Q:ef.Y->Prop):wpf te yD (bn 0 (dC lW 0 ok0 (qx g0_0)) az) 1000 Tryz.f136 (ef.inp.inj x).tm (ef.inp.inj x).hp (fnK ef C6 Q) (λ_ _=>False)=(Da ok0 g0_0 (x.1.1) (x.1.2.1)).wpR Q:=by kernel_rfl
theorem M6 (ok0:bJ->Bool) (g0_0:bJ->gE) (h0:∀ s:bJ,ok0 s=true->∃ m e,av (lY) m s=some e/\(qx g0_0 s).run=some e) (pre:qy->Bool) (F:qy->OT ef.Y) (hF:∀ (x:qy) oy,pre x=true->(F x).run=some oy->(Da ok0 g0_0 (x.1.1) (x.1.2.1)).run=some oy):ac Tryz.prog 136 (ef.aI pre F):=
 aE au qV Ex (f:=136) (fn:=Tryz.f136) (c:=ao Tryz.f136) (by kernel_rfl) (by kernel_rfl) (by kernel_rfl) (S:=ef) (k:=0) (by kernel_rfl) (λR hR=>(aH (c:=(ao Tryz.f136)) (by kernel_rfl) (id:=0) (by kernel_rfl) (bz au qV Ex (sh:=lW) hR (xs:=GK) (aJ (by kernel_rfl) (by kernel_rfl) hR) aY ag (n:=1000) (T:=lY) (λs Q=>Zk s Q) (ok:=ok0) (f:=qx g0_0) h0) ag)) (n:=1000) (sel:=C6) (λv o h=>by cases h;rfl) (pre:=pre) (F:=F) (T:=λx=>Da ok0 g0_0 (x.1.1) (x.1.2.1)) (λx Q=>aeS ok0 g0_0 x Q) hF
def eT (a:aa) (n:Nat):aa:=ofN (a.nat/2^n)
theorem sr (a:aa):∀ n,upto (λ_ e=>fk e) a n=eT a n
 |0=>by
  show a=ofN (a.nat/2^0)
  rw [Nat.pow_zero,Nat.div_one,qf]
 |n+1=>by
  show fk (upto (λ_ e=>fk e) a n)=_
  rw [sr a n]
  unfold fk eT
  have:=gv a
  have h2:a.nat/2^n<=a.nat:=Nat.div_le_self _ _
  rw [gX (by omega),Nat.div_div_eq_div_mul,<-Nat.pow_succ]
def C8 (s:bJ):Bool:=decide (s.1.2.2.2.1=0/\0<=s.1.2.2.1/\s.1.2.2.1<=1000000/\s.2.1.length=4)
def GL (s:bJ):gE:=(((),(),()),(lst (eT (elemOf s.2.1) s.1.2.2.1.toNat),s.2.2.1,()))
theorem Zm:∀ s:bJ,C8 s=true->∃ m e,av lY m s=some e/\(qx GL s).run=some e:=by
 rintro ⟨⟨⟨⟩,⟨⟩,k,i,⟨⟩⟩,⟨l,o,⟨⟩⟩⟩ h
 have h':=of_decide_eq_true h
 dsimp only at h'
 obtain ⟨rfl,h0,h1,hl⟩:=h'
 obtain ⟨a,rfl⟩:∃ a,l=lst a:=⟨elemOf l,(bh hl).symm⟩
 have:=(bP (T:=lY) (λi a=>((((),(),k,(i:Int),()),(lst a,o,())):bJ)) (λ_ e=>fk e)
  (λa=>(⟨(.exit 0,kJ),(((),(),()),(lst a,o,()))⟩:aQ)) k.toNat a (λ_ _=>True) trivial (λi a hi _=>⟨?_,trivial⟩) (λa _=> ?_)).1
 ·rw [sr] at this
  obtain ⟨m,hm⟩:=this
  exact ⟨m,_,hm,rfl⟩
 ·refine (OT.ap (decide_eq_true (by dsimp only;omega))).trans ((al ?_).trans rfl)
  simp only [List.all_cons,List.all_nil,Bool.and_true,Bool.and_eq_true]
  exact ⟨rfl,rfl,bF (by omega)⟩
 ·exact OT.ay (decide_eq_false (by dsimp only;omega))
def C7 (x:qy):Bool:=decide (0<=x.1.2.1/\x.1.2.1<=1000000)
def M7 (x:qy):OT ef.Y:=.ok ⟨lX,((eT x.1.1 x.1.2.1.toNat,()),())⟩
theorem Zl:ac Tryz.prog 136 (ef.aI C7 M7):=M6 C8 GL Zm _ _ λx oy hp ho=>by
 rw [<-ho]
 clear ho
 obtain ⟨⟨a,k,⟨⟩⟩,⟨⟩⟩:=x
 have hp':0<=k/\k<=1000000:=of_decide_eq_true hp
 refine (al ?_).trans ?_
 ·simp only [List.all_cons,List.all_nil,Bool.and_true,Bool.and_eq_true]
  exact ⟨decide_eq_true ⟨rfl,hp'.1,hp'.2,rfl⟩,rfl,rfl,rfl⟩
 ·show some (⟨lX,((elemOf (lay [0,0,0,0] (lst (eT a k.toNat)) 4 0),()),())⟩:ef.Y)=some ⟨lX,((eT a k.toNat,()),())⟩
  rw [ao6 _ _ rfl rfl]
  rfl
def oU:cN:=(ef.aI C7 M7)
theorem Jp:ac Tryz.prog 136 oU:=Zl
theorem Jo:aK oU:=aB
def mj:Env:=aA 136 oU yD
theorem kQ:aW Tryz.prog mj:=ai Jp qV
theorem rv:aw mj:=ae Jo zN
theorem vE:bc Tryz.prog te mj:=aO follows au kQ rv
end Go.Proofs.YtohjofabochgfaaGreat

namespace Go.Proofs.YtohjofabochgfaaGreat
open Sx Go
def cr (k:aa):Bool:=(k.w0==0&&(k.w1==0&&(k.w2==0&&(k.w3==0&&true))))
def aq3 (k:aa):Bool:=(k.w0&&&1==1)
theorem fm (k:aa):cr k=Nat.beq k.nat 0:=by
 unfold cr Sx.aa.nat
 have e:∀ x:UInt64,(x==0)=decide (x.toNat=0):=λx=>by
  by_cases h:x=0
  ·subst h;rfl
  ·have h':¬x.toNat=0:=λh'=>h (UInt64.toNat_inj.1 h')
   rw [decide_eq_false h']
   simpa using h
 rw [e,e,e,e]
 generalize k.w0.toNat=a
 generalize k.w1.toNat=b
 generalize k.w2.toNat=c
 generalize k.w3.toNat=d
 by_cases h:a=0/\b=0/\c=0/\d=0
 ·obtain ⟨rfl,rfl,rfl,rfl⟩:=h
  rfl
 ·have h1:¬(a+18446744073709551616*(b+18446744073709551616*(c+18446744073709551616*d))=0):=λh1=>h (by omega)
  have h2:Nat.beq (a+18446744073709551616*(b+18446744073709551616*(c+18446744073709551616*d))) 0=false:=by
   cases hb:Nat.beq (a+18446744073709551616*(b+18446744073709551616*(c+18446744073709551616*d))) 0
   ·rfl
   ·exact absurd (Nat.eq_of_beq_eq_true hb) h1
  rw [h2]
  by_cases ha:a=0
  ·by_cases hb:b=0
   ·by_cases hc:c=0
    ·have hd:¬d=0:=λhd=>h ⟨ha,hb,hc,hd⟩
     simp [hd]
    ·simp [hc]
   ·simp [hb]
  ·simp [ha]
theorem ajm (k:aa):aq3 k=Nat.beq (k.nat%2) 1:=by
 have e:(k.w0&&&1).toNat=k.w0.toNat%2:=by
  rw [UInt64.toNat_and]
  exact Nat.and_two_pow_sub_one_eq_mod k.w0.toNat 1
 have e2:k.nat%2=k.w0.toNat%2:=by
  unfold Sx.aa.nat
  rw [QR]
 rw [e2,<-e]
 unfold aq3
 by_cases h:k.w0&&&1=1
 ·rw [h];rfl
 ·have h':¬(k.w0&&&1).toNat=1:=λh'=>h (UInt64.toNat_inj.1 h')
  have h2:Nat.beq (k.w0&&&1).toNat 1=false:=by
   cases hb:Nat.beq (k.w0&&&1).toNat 1
   ·rfl
   ·exact absurd (Nat.eq_of_beq_eq_true hb) h'
  rw [h2]
  simpa using h
theorem MK (k:aa):(fk k).nat=k.nat/2:=by
 have:=gv k
 exact gX (by omega)
def ajc (p:Nat):Nat->aa->aa->aa->aa
 |0,o,_,_=>o
 |n+1,o,x,k=>cond (cr k) o (ajc p n (cond (aq3 k) (aN p o x) o) (aN p x x) (fk k))
def akV (p:Nat):Nat->Nat->Nat->Nat->Nat
 |0,o,_,_=>o
 |n+1,o,x,k=>cond (Nat.beq k 0) o (akV p n (cond (Nat.beq (k%2) 1) (o*x%p) o) (x*x%p) (k/2))
theorem adn {p:Nat} (hp:0<p/\p<57896044618658097711785492504343953926634992332820282019728792003956564819968):∀ (n:Nat) (o x k:aa),ajc p n o x k=ofN (akV p n o.nat x.nat k.nat)
 |0,o,x,k=>(qf o).symm
 |n+1,o,x,k=>by
  have e:∀ a b:aa,(aN p a b).nat=a.nat*b.nat%p:=λa b=>cv hp
  simp only [ajc,akV,fm,ajm]
  cases Nat.beq k.nat 0
  ·simp only [cond_false]
   rw [adn hp n,e,MK]
   cases Nat.beq (k.nat%2) 1
   ·rfl
   ·simp only [cond_true,e]
  ·simp only [cond_true]
   exact (qf o).symm
def vX (p:Nat) (a k:aa):aa:=cond (Nat.beq p 0) ⟨0,0,0,0⟩ (ofN (akV p 256 1 (a.nat%p) k.nat))
theorem Jv {p:Nat} (hp:0<p) (a k:aa):vX p a k=ofN (akV p 256 1 (a.nat%p) k.nat):=by
 unfold vX
 cases p with
 |zero=>exact absurd hp (Nat.lt_irrefl _)
 |succ p=>rfl
end Go.Proofs.YtohjofabochgfaaGreat

namespace Go.Proofs.YtohjofabochgfaaGreat
open Sx Go
set_option maxRecDepth 100000
def oV:aq:=⟨[.val false .int,.val true .elem,.val true .elem],[],true,0,false⟩
abbrev Zr:Type:=((Int)×(aa)×(aa)×Unit)×(Unit)
def Dc:Shape:=⟨40,[(4,.ptr 0 0 0),(5,.ptr 1 0 0),(6,.ptr 2 0 0),(7,.ptr 3 0 0),(9,.ptr 4 0 0)],[(0,.row .u64),(1,.row .u64),(2,.row .u64),(3,.cells [.val false .u64,.val false .u64,.val false .u64,.val false .u64,.val false .int,.val false .u64,.val false .u64,.val false .u64,.val false .u64,.val false .u64,.val false .u64]),(4,.row .u64)],0,true⟩
abbrev c9:Type:=((Unit)×(Unit)×(Unit)×(Unit)×(Unit)×Unit)×((List (UInt64))×(List (UInt64))×(List (UInt64))×((UInt64)×(UInt64)×(UInt64)×(UInt64)×(Int)×(UInt64)×(UInt64)×(UInt64)×(UInt64)×(UInt64)×(UInt64)×Unit)×(List (UInt64))×Unit)
def uN:Shape:=⟨40,[(6,.ptr 0 0 0),(9,.ptr 1 0 0)],[(0,.row .u64),(1,.row .u64)],0,true⟩
abbrev lZ:Type:=((Unit)×(Unit)×Unit)×((List (UInt64))×(List (UInt64))×Unit)
def aeT:SE->Option Shape:=kn [(0,uN)] none
def aot (c0:List (UInt64)) (c1:List (UInt64)) (c2:List (UInt64)) (c3_0:UInt64) (c3_1:UInt64) (c3_2:UInt64) (c3_3:UInt64) (c3_4:Int) (c3_5:UInt64) (c3_6:UInt64) (c3_7:UInt64) (c3_8:UInt64) (c3_9:UInt64) (c3_10:UInt64) (c4:List (UInt64)):OT (Sum c9 aQ):=
 let z0:Nat:=List.length c1
 let z1:Bool:=decide (4<=z0)
 let z2:UInt64:=List.getD c1 0 0
 let z3:UInt64:=List.getD c1 1 0
 let z4:UInt64:=List.getD c1 2 0
 let z5:UInt64:=List.getD c1 3 0
 let z6:Nat:=List.length c4
 let z7:Nat:=List.length c0
 let z8:Bool:=decide (4<=z7)
 let z9:aa:= {w0:=c3_0,w1:=c3_1,w2:=c3_2,w3:=c3_3}
 let z10:aa×Int×UInt64×UInt64×aa:=(z9,c3_4,c3_5,c3_6,{w0:=c3_7,w1:=c3_8,w2:=c3_9,w3:=c3_10})
 let z11:aa:= {w0:=List.getD c4 0 0,w1:=List.getD c4 1 0,w2:=List.getD c4 2 0,w3:=List.getD c4 3 0}
 let z12:aa:= {w0:=List.getD c0 0 0,w1:=List.getD c0 1 0,w2:=List.getD c0 2 0,w3:=List.getD c0 3 0}
 let z13:aa×PUnit:=(z12,())
 let z14:Bool:=oN ((z10,z12,z13),())
 let z15:Bool:=decide ((4/1:Nat)+0<=z7)
 let z16:Bool:=decide ((4/1:Nat)+0<=z0)
 let z17:Nat:=aa.nat z9
 let z18:aa:=aN z17 z12 z12
 let z19:List UInt64:=List.set (List.set (List.set (List.set c0 0 z18.w0) 1 z18.w1) 2 z18.w2) 3 z18.w3
 let z20:aa:=fk {w0:=z2,w1:=z3,w2:=z4,w3:=z5}
 let z21:List UInt64:=List.set (List.set (List.set (List.set c1 0 z20.w0) 1 z20.w1) 2 z20.w2) 3 z20.w3
 let z22:aa:=aN z17 z11 z12
 (gd [z1] (.br (!(z2==(0:UInt64)&&(z3==(0:UInt64)&&(z4==(0:UInt64)&&(z5==(0:UInt64)&&true)))))
 (gd [decide (0<z0)] (.br (z2&&&(1:UInt64)==(1:UInt64))
  (gd [decide (4<=z6),z8,oN ((z10,z11,z13),()),decide ((4/1:Nat)+0<=z6),z8,z8,z14,z15,z1,z16] (.ok (.inl (((),((),((),((),((),()))))),(z19,(z21,(c2,((c3_0,(c3_1,(c3_2,(c3_3,(c3_4,(c3_5,(c3_6,(c3_7,(c3_8,(c3_9,(c3_10,()))))))))))),(List.set (List.set (List.set (List.set c4 0 z22.w0) 1 z22.w1) 2 z22.w2) 3 z22.w3,())))))))))
  (gd [z8,z8,z14,z15,z1,z16] (.ok (.inl (((),((),((),((),((),()))))),(z19,(z21,(c2,((c3_0,(c3_1,(c3_2,(c3_3,(c3_4,(c3_5,(c3_6,(c3_7,(c3_8,(c3_9,(c3_10,()))))))))))),(c4,())))))))))))
 (.ok (.inr ⟨(.exit 0,uN),(((),((),())),(c2,(c4,())))⟩))))
def De (s:c9):OT (Sum c9 aQ):=aot (s.2.1) (s.2.2.1) (s.2.2.2.1) (s.2.2.2.2.1.1) (s.2.2.2.2.1.2.1) (s.2.2.2.2.1.2.2.1) (s.2.2.2.2.1.2.2.2.1) (s.2.2.2.2.1.2.2.2.2.1) (s.2.2.2.2.1.2.2.2.2.2.1) (s.2.2.2.2.1.2.2.2.2.2.2.1) (s.2.2.2.2.1.2.2.2.2.2.2.2.1) (s.2.2.2.2.1.2.2.2.2.2.2.2.2.1) (s.2.2.2.2.1.2.2.2.2.2.2.2.2.2.1) (s.2.2.2.2.1.2.2.2.2.2.2.2.2.2.2.1) (s.2.2.2.2.2.1)
theorem aoq (s:c9) (Q:Sum c9 aQ->Prop):wps te mj az 1000 (bL (ao Tryz.f137) 0) (Dc.inj s) (df Dc aeT (Q:Sum Dc.T aQ->Prop))=(De s).wpR Q:=by kernel_rfl
def Js (g0_0:c9->lZ) (s:c9):OT aQ:=(.ok ⟨(.exit 0,uN),g0_0 s⟩)
def Dd:ax:=⟨[.val true .elem],[],false⟩
def Wv:SV->Option ax:=λ_=>some Dd
def aeX (ok0:c9->Bool) (g0_0:c9->lZ) (a0:Int) (a1:aa) (a2:aa):OT oV.Y:=
 let z0:aa×Int×UInt64×UInt64×aa:=bO (Int.toNat a0)
 let z1:=z0.fst
 let z2:aa:=ofN (aa.nat a1%aa.nat z1)
 let z3:=z0.snd
 let z4:=z3.snd
 let z5:=z4.snd
 let z6:=z5.snd
 let z7:(PUnit×PUnit×PUnit×PUnit×PUnit×PUnit)×List UInt64×List UInt64×List UInt64×(UInt64×UInt64×UInt64×UInt64×Int×UInt64×UInt64×UInt64×UInt64×UInt64×UInt64×PUnit)×List UInt64×PUnit:=(((),(),(),(),(),()),[z2.w0,z2.w1,z2.w2,z2.w3],[a2.w0,a2.w1,a2.w2,a2.w3],[(0:UInt64),(0:UInt64),(0:UInt64),(0:UInt64)],(z1.w0,z1.w1,z1.w2,z1.w3,z3.fst,z4.fst,z5.fst,z6.w0,z6.w1,z6.w2,z6.w3,()),[(1:UInt64),(0:UInt64),(0:UInt64),(0:UInt64)],())
 let z8:=(g0_0 z7).snd
 let z9:=z8.snd.fst
 let z10:=z8.fst
 let z11:List UInt64:=lay z10 z9 4 (0:UInt64)
 (.br (ak a0)
 (gd [gD ((z0,a1,()),()),ok0 z7,decide (4<=List.length z9),decide ((4/1:Nat)+0<=List.length z10),decide (4<=List.length z11)] (.ok ⟨Dd,(({w0:=List.getD z11 0 0,w1:=List.getD z11 1 0,w2:=List.getD z11 2 0,w3:=List.getD z11 3 0},()),())⟩))
 (.ok ⟨Dd,(({w0:=0,w1:=0,w2:=0,w3:=0},()),())⟩))
theorem aqv (ok0:c9->Bool) (g0_0:c9->lZ) (x:Zr) (Q:oV.Y->Prop):wpf te mj (bn 0 (dC Dc 0 ok0 (Js g0_0)) az) 1000 Tryz.f137 (oV.inp.inj x).tm (oV.inp.inj x).hp (fnK oV Wv Q) (λ_ _=>False)=(aeX ok0 g0_0 (x.1.1) (x.1.2.1) (x.1.2.2.1)).wpR Q:=by kernel_rfl
theorem aeU (ok0:c9->Bool) (g0_0:c9->lZ) (h0:∀ s:c9,ok0 s=true->∃ m e,av (De) m s=some e/\(Js g0_0 s).run=some e) (pre:Zr->Bool) (F:Zr->OT oV.Y) (hF:∀ (x:Zr) oy,pre x=true->(F x).run=some oy->(aeX ok0 g0_0 (x.1.1) (x.1.2.1) (x.1.2.2.1)).run=some oy):ac Tryz.prog 137 (oV.aI pre F):=
 aE au kQ vE (f:=137) (fn:=Tryz.f137) (c:=ao Tryz.f137) (by kernel_rfl) (by kernel_rfl) (by kernel_rfl) (S:=oV) (k:=0) (by kernel_rfl) (λR hR=>(aH (c:=(ao Tryz.f137)) (by kernel_rfl) (id:=0) (by kernel_rfl) (bz au kQ vE (sh:=Dc) hR (xs:=aeT) (aJ (by kernel_rfl) (by kernel_rfl) hR) aY ag (n:=1000) (T:=De) (λs Q=>aoq s Q) (ok:=ok0) (f:=Js g0_0) h0) ag)) (n:=1000) (sel:=Wv) (λv o h=>by cases h;rfl) (pre:=pre) (F:=F) (T:=λx=>aeX ok0 g0_0 (x.1.1) (x.1.2.1) (x.1.2.2.1)) (λx Q=>aqv ok0 g0_0 x Q) hF
theorem aeV {x0 x1 x2 x3 x5 x6 x7 x8 x9 x10:UInt64} {x4:Int} {c2:List UInt64} (hn:nz (⟨x0,x1,x2,x3⟩,x4,x5,x6,⟨x7,x8,x9,x10⟩)=true):∀ (n:Nat) (o x k:aa),k.nat<2^n->
 ∃ m,av De m (((),(),(),(),(),()),(lst x,lst k,c2,(x0,x1,x2,x3,x4,x5,x6,x7,x8,x9,x10,()),lst o,()))=some ⟨(.exit 0,uN),(((),(),()),(c2,lst (ajc (aa.mk x0 x1 x2 x3).nat n o x k),()))⟩:=by
 intro n
 induction n with
 |zero=>
  intro o x k hk
  have hz:(!cr k)=false:=by
   rw [fm,show k.nat=0 by omega]
   rfl
  exact ⟨1,aR ((al rfl).trans (OT.ay hz))⟩
 |succ n ih=>
  intro o x k hk
  cases hz:cr k
  ·have hk2:(fk k).nat<2^n:=by
    rw [MK]
    rw [Nat.pow_succ] at hk
    omega
   have hz':(!cr k)=true:=by rw [hz];rfl
   cases ho:aq3 k
   ·obtain ⟨m,hm⟩:=ih o (aN (aa.mk x0 x1 x2 x3).nat x x) (fk k) hk2
    simp only [ajc,hz,ho,cond_false]
    refine ⟨m+1,aM ?_ hm⟩
    refine (al rfl).trans ((OT.ap hz').trans ((al rfl).trans ((OT.ay ho).trans ((al ?_).trans rfl))))
    simp only [List.all_cons,List.all_nil,Bool.and_true,Bool.and_eq_true]
    exact ⟨rfl,rfl,hn,rfl,rfl,rfl⟩
   ·obtain ⟨m,hm⟩:=ih (aN (aa.mk x0 x1 x2 x3).nat o x) (aN (aa.mk x0 x1 x2 x3).nat x x) (fk k) hk2
    simp only [ajc,hz,ho,cond_false,cond_true]
    refine ⟨m+1,aM ?_ hm⟩
    refine (al rfl).trans ((OT.ap hz').trans ((al rfl).trans ((OT.ap ho).trans ((al ?_).trans rfl))))
    simp only [List.all_cons,List.all_nil,Bool.and_true,Bool.and_eq_true]
    exact ⟨rfl,rfl,hn,rfl,rfl,rfl,hn,rfl,rfl,rfl⟩
  ·simp only [ajc,hz,cond_true]
   have hz':(!cr k)=false:=by rw [hz];rfl
   exact ⟨1,aR ((al rfl).trans (OT.ay hz'))⟩
def arF (s:c9):Ku:=(⟨s.2.2.2.2.1.1,s.2.2.2.2.1.2.1,s.2.2.2.2.1.2.2.1,s.2.2.2.2.1.2.2.2.1⟩,s.2.2.2.2.1.2.2.2.2.1,s.2.2.2.2.1.2.2.2.2.2.1,s.2.2.2.2.1.2.2.2.2.2.2.1,⟨s.2.2.2.2.1.2.2.2.2.2.2.2.1,s.2.2.2.2.1.2.2.2.2.2.2.2.2.1,s.2.2.2.2.1.2.2.2.2.2.2.2.2.2.1,s.2.2.2.2.1.2.2.2.2.2.2.2.2.2.2.1⟩)
def Jr (s:c9):Bool:=nz (arF s)&&decide (s.2.1.length=4/\s.2.2.1.length=4/\s.2.2.2.2.2.1.length=4)
def aeW (s:c9):lZ:=(((),(),()),(s.2.2.2.1,lst (ajc (arF s).1.nat 256 (elemOf s.2.2.2.2.2.1) (elemOf s.2.1) (elemOf s.2.2.1)),()))
theorem aos:∀ s:c9,Jr s=true->∃ m e,av De m s=some e/\(Js aeW s).run=some e:=by
 rintro ⟨⟨⟨⟩,⟨⟩,⟨⟩,⟨⟩,⟨⟩,⟨⟩⟩,⟨c0,c1,c2,⟨x0,x1,x2,x3,x4,x5,x6,x7,x8,x9,x10,⟨⟩⟩,c4,⟨⟩⟩⟩ h
 simp only [Jr,Bool.and_eq_true,decide_eq_true_eq,arF] at h
 obtain ⟨hn,h0,h1,h4⟩:=h
 obtain ⟨x,rfl⟩:∃ a,c0=lst a:=⟨elemOf c0,(bh h0).symm⟩
 obtain ⟨k,rfl⟩:∃ a,c1=lst a:=⟨elemOf c1,(bh h1).symm⟩
 obtain ⟨o,rfl⟩:∃ a,c4=lst a:=⟨elemOf c4,(bh h4).symm⟩
 obtain ⟨m,hm⟩:=aeV (c2:=c2) hn 256 o x k (gv k)
 exact ⟨m,_,hm,rfl⟩
def Ww (_:Zr):Bool:=true
def ali (x:Zr):OT oV.Y:=.br (ak x.1.1) (.ok ⟨Dd,((vX (pS x.1.1) x.1.2.1 x.1.2.2.1,()),())⟩) (.ok ⟨Dd,((⟨0,0,0,0⟩,()),())⟩)
theorem aj3 {p:Nat} (hp:0<p/\p<57896044618658097711785492504343953926634992332820282019728792003956564819968) (a k:aa):elemOf (lay [0,0,0,0] (lst (ajc p 256 ⟨1,0,0,0⟩ (ofN (a.nat%p)) k)) 4 0)=vX p a k:=by
 rw [ao6 _ _ rfl rfl,ZC,adn hp,cv hp,Jv hp.1]
 rfl
theorem aor:ac Tryz.prog 137 (oV.aI Ww ali):=aeU Jr aeW aos _ _ λx oy hp ho=>by
 rw [<-ho]
 clear ho
 obtain ⟨⟨s,a,k,⟨⟩⟩,⟨⟩⟩:=x
 cases hs:ak s
 ·exact (OT.ay hs).trans (OT.ay (b:=ak s) hs).symm
 ·have hn:=qg hs
  have hfin:=aj3 (fh hs) a k
  have hn2:nz (bO s.toNat)=true:=hn
  refine (OT.ap hs).trans (Eq.trans ?_ (OT.ap (b:=ak s) hs).symm)
  simp only [<-hfin]
  refine (al ?_).trans rfl
  simp only [List.all_cons,List.all_nil,Bool.and_true,Bool.and_eq_true]
  refine ⟨hn,?_,rfl,rfl,rfl⟩
  show (nz _&&decide _)=true
  rw [Bool.and_eq_true]
  exact ⟨hn,decide_eq_true ⟨rfl,rfl,rfl⟩⟩
def Db:cN:=(oV.aI Ww ali)
theorem Zq:ac Tryz.prog 137 Db:=aor
theorem Zp:aK Db:=aB
def Ov:Env:=aA 137 Db mj
theorem Ey:aW Tryz.prog Ov:=ai Zq kQ
theorem Ez:aw Ov:=ae Zp rv
theorem aaj:bc Tryz.prog te Ov:=aO follows au Ey Ez
def oR:aq:=⟨[.val false .int,.val true .elem],[],true,0,false⟩
abbrev Zj:Type:=((Int)×(aa)×Unit)×(Unit)
def oQ:ax:=⟨[.val true .elem,.val false .int],[],false⟩
def Wt:SV->Option ax:=λ_=>some oQ
def aeR (a0:Int) (a1:aa):OT oR.Y:=
 let z0:Bool:=ak a0
 let z1:aa×Int×UInt64×UInt64×aa:=bO (Int.toNat a0)
 let z2:=z1.fst
 let z3:aa:=ofN (aa.nat a1%aa.nat z2)
 let z4:aa:= {w0:=0,w1:=0,w2:=0,w3:=0}
 (.br (z0)
 (gd [gD ((z1,a1,()),())] (.br (z3.w0==(0:UInt64)&&(z3.w1==(0:UInt64)&&(z3.w2==(0:UInt64)&&(z3.w3==(0:UInt64)&&true))))
  (.ok ⟨oQ,((z4,((10:Int),())),())⟩)
  (.br (z0)
   (.ok ⟨oQ,((vX (pS a0) a1 (kT z2 {w0:=2,w1:=0,w2:=0,w3:=0}).fst,((0:Int),())),())⟩)
   (.ok ⟨oQ,((z4,((0:Int),())),())⟩))))
 (.ok ⟨oQ,((z4,((20:Int),())),())⟩))
theorem aqu (x:Zj) (Q:oR.Y->Prop):wpf te Ov az 1000 Tryz.f121 (oR.inp.inj x).tm (oR.inp.inj x).hp (fnK oR Wt Q) (λ_ _=>False)=(aeR (x.1.1) (x.1.2.1)).wpR Q:=by kernel_rfl
theorem aeQ (pre:Zj->Bool) (F:Zj->OT oR.Y) (hF:∀ (x:Zj) oy,pre x=true->(F x).run=some oy->(aeR (x.1.1) (x.1.2.1)).run=some oy):ac Tryz.prog 121 (oR.aI pre F):=
 aE au Ey aaj (f:=121) (fn:=Tryz.f121) (c:=ao Tryz.f121) (by kernel_rfl) (by kernel_rfl) (by kernel_rfl) (S:=oR) (k:=0) (by kernel_rfl) (λR hR=>ag) (n:=1000) (sel:=Wt) (λv o h=>by cases h;rfl) (pre:=pre) (F:=F) (T:=λx=>aeR (x.1.1) (x.1.2.1)) (λx Q=>aqu x Q) hF
def agn (p:Nat) (a:aa):aa:=ofN (akV p 256 1 (a.nat%p) (p-2))
theorem akX {s:Int} (h:ak s=true):2<=pS s:=by
 rcases cu h with rfl|rfl|rfl|rfl<;>decide+kernel
theorem aef {s:Int} (h:ak s=true) (a:aa):vX (pS s) a (kT (bO s.toNat).1 ⟨2,0,0,0⟩).1=agn (pS s) a:=by
 rw [Jv (fh h).1]
 unfold agn
 have h2:2<=(bO s.toNat).1.nat:=akX h
 rw [mo (show (aa.mk 2 0 0 0).nat<=_ from h2)]
 rfl
theorem Ss {p:Nat} (hp:0<p/\p<57896044618658097711785492504343953926634992332820282019728792003956564819968) (n:Nat):cr (ofN (n%p))=Nat.beq (n%p) 0:=by
 rw [fm,cv hp]
def Wu (_:Zj):Bool:=true
def alh (x:Zj):OT oR.Y:=.br (ak x.1.1) (.br (Nat.beq (x.1.2.1.nat%pS x.1.1) 0) (.ok ⟨oQ,((⟨0,0,0,0⟩,((10:Int),())),())⟩) (.ok ⟨oQ,((agn (pS x.1.1) x.1.2.1,((0:Int),())),())⟩))
 (.ok ⟨oQ,((⟨0,0,0,0⟩,((20:Int),())),())⟩)
theorem aoo:ac Tryz.prog 121 (oR.aI Wu alh):=aeQ _ _ λx oy hp ho=>by
 rw [<-ho]
 clear ho
 obtain ⟨⟨s,a,⟨⟩⟩,⟨⟩⟩:=x
 cases hs:ak s
 ·exact (OT.ay hs).trans (OT.ay (b:=ak s) hs).symm
 ·have hz:cr (ofN (a.nat%pS s))=Nat.beq (a.nat%pS s) 0:=Ss (fh hs) _
  refine (OT.ap hs).trans (Eq.trans ((al ?_).trans ?_) (OT.ap (b:=ak s) hs).symm)
  ·simp only [List.all_cons,List.all_nil,Bool.and_true]
   exact qg hs
  ·cases hb:Nat.beq (a.nat%pS s) 0
   ·rw [hb] at hz
    refine (OT.ay hz).trans ((OT.ap hs).trans (Eq.trans ?_ (OT.ay rfl).symm))
    simp only [aef hs]
   ·rw [hb] at hz
    exact (OT.ap hz).trans (OT.ap rfl).symm
def C4:cN:=(oR.aI Wu alh)
theorem Zi:ac Tryz.prog 121 C4:=aoo
theorem Zh:aK C4:=aB
def Ou:Env:=aA 121 C4 Ov
theorem Ev:aW Tryz.prog Ou:=ai Zi Ey
theorem Ew:aw Ou:=ae Zh Ez
theorem aai:bc Tryz.prog te Ou:=aO follows au Ev Ew
def gM:aq:=⟨[.val false .int],[],true,0,false⟩
abbrev xN:Type:=((Int)×Unit)×(Unit)
def gL:ax:=⟨[.val true .elem,.val false .bool],[],false⟩
def G2:SV->Option ax:=λ_=>some gL
def JM (a0:Int):OT gM.Y:=
 let z0:aa:= {w0:=5,w1:=0,w2:=0,w3:=0}
 let z1:aa:= {w0:=0,w1:=0,w2:=0,w3:=0}
 (.br (a0==(0:Int))
 (.ok ⟨gL,(({w0:=23,w1:=0,w2:=0,w3:=0},(true,())),())⟩)
 (.br (a0==(1:Int))
  (.ok ⟨gL,(({w0:=21,w1:=0,w2:=0,w3:=0},(true,())),())⟩)
  (.br (a0==(2:Int))
   (.br (a0==(2:Int))
    (.ok ⟨gL,((z0,(true,())),())⟩)
    (.ok ⟨gL,((z1,(false,())),())⟩))
   (.br (a0==(3:Int))
    (.ok ⟨gL,((z0,(true,())),())⟩)
    (.ok ⟨gL,((z1,(false,())),())⟩)))))
theorem akm (x:xN) (Q:gM.Y->Prop):wpf te Ou az 1000 Tryz.f85 (gM.inp.inj x).tm (gM.inp.inj x).hp (fnK gM G2 Q) (λ_ _=>False)=(JM (x.1.1)).wpR Q:=by kernel_rfl
theorem RC (pre:xN->Bool) (F:xN->OT gM.Y) (hF:∀ (x:xN) oy,pre x=true->(F x).run=some oy->(JM (x.1.1)).run=some oy):ac Tryz.prog 85 (gM.aI pre F):=
 aE au Ev aai (f:=85) (fn:=Tryz.f85) (c:=ao Tryz.f85) (by kernel_rfl) (by kernel_rfl) (by kernel_rfl) (S:=gM) (k:=0) (by kernel_rfl) (λR hR=>ag) (n:=1000) (sel:=G2) (λv o h=>by cases h;rfl) (pre:=pre) (F:=F) (T:=λx=>JM (x.1.1)) (λx Q=>akm x Q) hF
def bOf:Nat->aa
 |0=>⟨23,0,0,0⟩
 |1=>⟨21,0,0,0⟩
 |_=>⟨5,0,0,0⟩
abbrev bS (s:Int):aa:=bOf s.toNat
def G3 (_:xN):Bool:=true
def WW (x:xN):OT gM.Y:=.br (ak x.1.1) (.ok ⟨gL,((bS x.1.1,(true,())),())⟩) (.ok ⟨gL,((⟨0,0,0,0⟩,(false,())),())⟩)
theorem afE:ac Tryz.prog 85 (gM.aI G3 WW):=RC _ _ λx oy _ ho=>by
 rw [<-ho]
 clear ho
 obtain ⟨⟨s,⟨⟩⟩,⟨⟩⟩:=x
 cases hs:ak s
 ·obtain ⟨h0,h1,h2,h3⟩:=pB hs
  exact (OT.ay h0).trans ((OT.ay h1).trans ((OT.ay h2).trans ((OT.ay h3).trans (OT.ay (b:=ak s) hs).symm)))
 ·rcases cu hs with h|h|h|h
  all_goals
   have h:s=_:=h
   subst h
   rfl
def sE:cN:=(gM.aI G3 WW)
theorem NE:ac Tryz.prog 85 sE:=afE
theorem ND:aK sE:=aB
def vO:Env:=aA 85 sE Ou
theorem s6:aW Tryz.prog vO:=ai NE Ev
theorem vN:aw vO:=ae ND Ew
theorem OD:bc Tryz.prog te vO:=aO follows au s6 vN
def o7:aq:=⟨[],[],true,0,false⟩
abbrev ZS:Type:=(Unit)×(Unit)
def Rx:ax:=⟨[.val true (.prod .elem (.prod .elem .bool))],[],false⟩
def WT:SV->Option ax:=λ_=>some Rx
def afy:OT o7.Y:=
 let z0:aa:= {w0:=0,w1:=0,w2:=0,w3:=0}
 (.ok ⟨Rx,(((z0,z0,true),()),())⟩)
theorem aqH (x:ZS) (Q:o7.Y->Prop):wpf te vO az 1000 Tryz.f79 (o7.inp.inj x).tm (o7.inp.inj x).hp (fnK o7 WT Q) (λ_ _=>False)=(afy).wpR Q:=by kernel_rfl
theorem afx (pre:ZS->Bool) (F:ZS->OT o7.Y) (hF:∀ (x:ZS) oy,pre x=true->(F x).run=some oy->(afy).run=some oy):ac Tryz.prog 79 (o7.aI pre F):=
 aE au s6 OD (f:=79) (fn:=Tryz.f79) (c:=ao Tryz.f79) (by kernel_rfl) (by kernel_rfl) (by kernel_rfl) (S:=o7) (k:=0) (by kernel_rfl) (λR hR=>ag) (n:=1000) (sel:=WT) (λv o h=>by cases h;rfl) (pre:=pre) (F:=F) (T:=λx=>afy) (λx Q=>aqH x Q) hF
def aC:aa×(aa×Bool):=(⟨0,0,0,0⟩,⟨0,0,0,0⟩,true)
def WU (_:ZS):Bool:=true
def alo (_:ZS):OT o7.Y:=.ok ⟨Rx,((aC,()),())⟩
theorem aoO:ac Tryz.prog 79 (o7.aI WU alo):=afx _ _ λx oy _ ho=>ho
def Dw:cN:=(o7.aI WU alo)
theorem ZR:ac Tryz.prog 79 Dw:=aoO
theorem ZQ:aK Dw:=aB
def OC:Env:=aA 79 Dw vO
theorem EJ:aW Tryz.prog OC:=ai ZR s6
theorem EK:aw OC:=ae ZQ vN
theorem aan:bc Tryz.prog te OC:=aO follows au EJ EK
def kb:aq:=⟨[.val false .int,.val true .elem,.val true .elem],[],true,0,false⟩
abbrev G1:Type:=((Int)×(aa)×(aa)×Unit)×(Unit)
def il:ax:=⟨[.val true .elem],[],false⟩
def NC:SV->Option ax:=λ_=>some il
def RB (a0:Int) (a1:aa) (a2:aa):OT kb.Y:=
 let z0:Bool:=ak a0
 let z1:Nat:=pS a0
 let z2:aa:= {w0:=0,w1:=0,w2:=0,w3:=0}
 let z3:aa:=im z1 z2 a2
 (.br (z0)
 (.br (z0)
  (.br (z0)
   (.ok ⟨il,((im z1 (aN z1 (aN z1 a1 a1) a1) a2,()),())⟩)
   (.ok ⟨il,((z2,()),())⟩))
  (.br (z0)
   (.ok ⟨il,((z3,()),())⟩)
   (.ok ⟨il,((z2,()),())⟩)))
 (.br (z0)
  (.br (z0)
   (.ok ⟨il,((im z1 (aN z1 z2 a1) a2,()),())⟩)
   (.ok ⟨il,((z2,()),())⟩))
  (.br (z0)
   (.ok ⟨il,((z3,()),())⟩)
   (.ok ⟨il,((z2,()),())⟩))))
theorem aoP (x:G1) (Q:kb.Y->Prop):wpf te OC az 1000 Tryz.f87 (kb.inp.inj x).tm (kb.inp.inj x).hp (fnK kb NC Q) (λ_ _=>False)=(RB (x.1.1) (x.1.2.1) (x.1.2.2.1)).wpR Q:=by kernel_rfl
theorem ZV (pre:G1->Bool) (F:G1->OT kb.Y) (hF:∀ (x:G1) oy,pre x=true->(F x).run=some oy->(RB (x.1.1) (x.1.2.1) (x.1.2.2.1)).run=some oy):ac Tryz.prog 87 (kb.aI pre F):=
 aE au EJ aan (f:=87) (fn:=Tryz.f87) (c:=ao Tryz.f87) (by kernel_rfl) (by kernel_rfl) (by kernel_rfl) (S:=kb) (k:=0) (by kernel_rfl) (λR hR=>ag) (n:=1000) (sel:=NC) (λv o h=>by cases h;rfl) (pre:=pre) (F:=F) (T:=λx=>RB (x.1.1) (x.1.2.1) (x.1.2.2.1)) (λx Q=>aoP x Q) hF
def Ad (p:Nat) (x b:aa):aa:=im p (aN p (aN p x x) x) b
def DA (x:G1):Bool:=ak x.1.1
def afD (x:G1):OT kb.Y:=.ok ⟨il,((Ad (pS x.1.1) x.1.2.1 x.1.2.2.1,()),())⟩
theorem akl:ac Tryz.prog 87 (kb.aI DA afD):=ZV _ _ λx oy hp ho=>by
 rw [<-ho]
 clear ho
 obtain ⟨⟨s,a,b,⟨⟩⟩,⟨⟩⟩:=x
 have hs:ak s=true:=hp
 exact (OT.ap hs).trans ((OT.ap hs).trans ((OT.ap hs).trans rfl))
def xM:cN:=(kb.aI DA afD)
theorem RA:ac Tryz.prog 87 xM:=akl
theorem Rz:aK xM:=aB
def EL:Env:=aA 87 xM OC
theorem yG:aW Tryz.prog EL:=ai RA EJ
theorem zQ:aw EL:=ae Rz EK
theorem Sp:bc Tryz.prog te EL:=aO follows au yG zQ
def Ae:aq:=⟨[.val false .int,.val true (.prod .elem (.prod .elem .bool))],[],true,0,false⟩
abbrev api:Type:=((Int)×((aa×(aa×Bool)))×Unit)×(Unit)
def ri:ax:=⟨[.val false .bool],[],false⟩
def afo:SV->Option ax:=λ_=>some ri
def aoK (a0:Int) (a1:(aa×(aa×Bool))):OT Ae.Y:=
 let z0:Bool:=ak a0
 let z1:Nat:=aa.nat (bO (Int.toNat a0)).fst
 let z2:aa:=bS a0
 let z3:Bool:=DA ((a0,a1.fst,z2,()),())
 let z4:Nat:=pS a0
 let z5:aa:=aN z4 a1.snd.fst a1.snd.fst
 let z6:aa:=Ad z4 a1.fst z2
 let z7:=z6.w0
 let z8:=z6.w1
 let z9:=z6.w2
 let z10:=z6.w3
 (.br (z0)
 (.br (a1.snd.snd)
  (.ok ⟨ri,((a1.fst.w0==(0:UInt64)&&(a1.fst.w1==(0:UInt64)&&(a1.fst.w2==(0:UInt64)&&(a1.fst.w3==(0:UInt64)&&true)))&&(a1.snd.fst.w0==(0:UInt64)&&(a1.snd.fst.w1==(0:UInt64)&&(a1.snd.fst.w2==(0:UInt64)&&(a1.snd.fst.w3==(0:UInt64)&&true)))&&(a1.snd.snd==true&&true)),()),())⟩)
  (.br (z0)
   (.br (Nat.blt (aa.nat a1.fst) z1)
    (.br (Nat.blt (aa.nat a1.snd.fst) z1)
     (.br (z0)
      (gd [z3] (.ok ⟨ri,((z5.w0==z7&&(z5.w1==z8&&(z5.w2==z9&&(z5.w3==z10&&true))),()),())⟩))
      (gd [z3] (.ok ⟨ri,(((0:UInt64)==z7&&((0:UInt64)==z8&&((0:UInt64)==z9&&((0:UInt64)==z10&&true))),()),())⟩)))
     (.ok ⟨ri,((false,()),())⟩))
    (.ok ⟨ri,((false,()),())⟩))
   (.ok ⟨ri,((false,()),())⟩)))
 (.ok ⟨ri,((false,()),())⟩))
theorem arD (x:api) (Q:Ae.Y->Prop):wpf te EL az 1000 Tryz.f47 (Ae.inp.inj x).tm (Ae.inp.inj x).hp (fnK Ae afo Q) (λ_ _=>False)=(aoK (x.1.1) (x.1.2.1)).wpR Q:=by kernel_rfl
theorem ake (pre:api->Bool) (F:api->OT Ae.Y) (hF:∀ (x:api) oy,pre x=true->(F x).run=some oy->(aoK (x.1.1) (x.1.2.1)).run=some oy):ac Tryz.prog 47 (Ae.aI pre F):=
 aE au yG Sp (f:=47) (fn:=Tryz.f47) (c:=ao Tryz.f47) (by kernel_rfl) (by kernel_rfl) (by kernel_rfl) (S:=Ae) (k:=0) (by kernel_rfl) (λR hR=>ag) (n:=1000) (sel:=afo) (λv o h=>by cases h;rfl) (pre:=pre) (F:=F) (T:=λx=>aoK (x.1.1) (x.1.2.1)) (λx Q=>arD x Q) hF
def eqE (a b:aa):Bool:=(a.w0==b.w0&&(a.w1==b.w1&&(a.w2==b.w2&&(a.w3==b.w3&&true))))
theorem k8 {a b:aa}:eqE a b=true ↔ a=b:=by
 obtain ⟨a0,a1,a2,a3⟩:=a
 obtain ⟨b0,b1,b2,b3⟩:=b
 simp [eqE]
theorem Jy (a:aa):eqE a a=true:=k8.2 rfl
theorem aoE (a b:aa):eqE a b=Nat.beq a.nat b.nat:=by
 cases h:eqE a b
 ·cases hb:Nat.beq a.nat b.nat
  ·rfl
  ·rw [k8.2 (jP (Nat.eq_of_beq_eq_true hb))] at h
   cases h
 ·rw [k8.1 h]
  exact (Nat.beq_refl _).symm
abbrev Pt:Type:=aa×(aa×Bool)
def onB (c:Int) (P:Pt):Bool:=cond (ak c) (cond P.2.2 (cr P.1&&(cr P.2.1&&(P.2.2==true&&true)))
 (cond (Nat.blt P.1.nat (pS c)) (cond (Nat.blt P.2.1.nat (pS c)) (eqE (aN (pS c) P.2.1 P.2.1) (Ad (pS c) P.1 (bS c))) false) false)) false
def afp (_:api):Bool:=true
def aqF (x:api):OT Ae.Y:=.ok ⟨ri,((onB x.1.1 x.1.2.1,()),())⟩
theorem aqE:ac Tryz.prog 47 (Ae.aI afp aqF):=ake _ _ λx oy _ ho=>by
 rw [<-ho]
 clear ho
 obtain ⟨⟨c,⟨X,Y,i⟩,⟨⟩⟩,⟨⟩⟩:=x
 show _=(OT.ok ⟨ri,((onB c (X,Y,i),()),())⟩:OT Ae.Y).run
 unfold onB
 cases hs:ak c
 ·exact OT.ay hs
 ·refine (OT.ap hs).trans ?_
  cases i
  ·refine (OT.ay rfl).trans ((OT.ap hs).trans ?_)
   cases hx:Nat.blt X.nat (pS c)
   ·exact OT.ay hx
   ·refine (OT.ap hx).trans ?_
    cases hy:Nat.blt Y.nat (pS c)
    ·exact OT.ay hy
    ·refine (OT.ap hy).trans ((OT.ap hs).trans ((al ?_).trans rfl))
     simp only [List.all_cons,List.all_nil,Bool.and_true]
     exact hs
  ·exact OT.ap rfl
theorem qe {c:Int} {P:Pt} (h:onB c P=true):ak c=true:=by
 unfold onB at h
 cases hs:ak c
 ·rw [hs] at h;cases h
 ·rfl
def JE:cN:=(Ae.aI afp aqF)
theorem afq:ac Tryz.prog 47 JE:=aqE
theorem afn:aK JE:=aB
def agl:Env:=aA 47 JE EL
theorem Kk:aW Tryz.prog agl:=ai afq yG
theorem Hu:aw agl:=ae afn zQ
theorem agk:bc Tryz.prog te agl:=aO follows au Kk Hu
def gJ:aq:=⟨[.val true (.prod .elem (.prod .elem .elem))],[],true,0,false⟩
abbrev xL:Type:=(((aa×(aa×aa)))×Unit)×(Unit)
def Dv:ax:=⟨[.val false .bool],[],false⟩
def GZ:SV->Option ax:=λ_=>some Dv
def JI (a0:(aa×(aa×aa))):OT gJ.Y:=
 (.ok ⟨Dv,((a0.snd.snd.w0==(0:UInt64)&&(a0.snd.snd.w1==(0:UInt64)&&(a0.snd.snd.w2==(0:UInt64)&&(a0.snd.snd.w3==(0:UInt64)&&true))),()),())⟩)
theorem akk (x:xL) (Q:gJ.Y->Prop):wpf te agl az 1000 Tryz.f120 (gJ.inp.inj x).tm (gJ.inp.inj x).hp (fnK gJ GZ Q) (λ_ _=>False)=(JI (x.1.1)).wpR Q:=by kernel_rfl
theorem Rw (pre:xL->Bool) (F:xL->OT gJ.Y) (hF:∀ (x:xL) oy,pre x=true->(F x).run=some oy->(JI (x.1.1)).run=some oy):ac Tryz.prog 120 (gJ.aI pre F):=
 aE au Kk agk (f:=120) (fn:=Tryz.f120) (c:=ao Tryz.f120) (by kernel_rfl) (by kernel_rfl) (by kernel_rfl) (S:=gJ) (k:=0) (by kernel_rfl) (λR hR=>ag) (n:=1000) (sel:=GZ) (λv o h=>by cases h;rfl) (pre:=pre) (F:=F) (T:=λx=>JI (x.1.1)) (λx Q=>akk x Q) hF
abbrev AP:Type:=aa×(aa×aa)
def G0 (_:xL):Bool:=true
def WS (x:xL):OT gJ.Y:=.ok ⟨Dv,((cr x.1.1.2.2,()),())⟩
theorem afw:ac Tryz.prog 120 (gJ.aI G0 WS):=Rw _ _ λx oy hp ho=>by
 rw [<-ho]
 rfl
def sD:cN:=(gJ.aI G0 WS)
theorem Nz:ac Tryz.prog 120 sD:=afw
theorem Ny:aK sD:=aB
def vM:Env:=aA 120 sD agl
theorem s5:aW Tryz.prog vM:=ai Nz Kk
theorem vL:aw vM:=ae Ny Hu
theorem OB:bc Tryz.prog te vM:=aO follows au s5 vL
def gG:aq:=⟨[.val true (.prod .elem (.prod .elem .bool))],[],true,0,false⟩
abbrev xI:Type:=(((aa×(aa×Bool)))×Unit)×(Unit)
def uR:ax:=⟨[.val true (.prod .elem (.prod .elem .elem))],[],false⟩
def GQ:SV->Option ax:=λ_=>some uR
def JA (a0:(aa×(aa×Bool))):OT gG.Y:=
 let z0:aa:= {w0:=0,w1:=0,w2:=0,w3:=0}
 (.br (a0.snd.snd)
 (.ok ⟨uR,(((z0,z0,z0),()),())⟩)
 (.ok ⟨uR,(((a0.fst,a0.snd.fst,{w0:=1,w1:=0,w2:=0,w3:=0}),()),())⟩))
theorem akc (x:xI) (Q:gG.Y->Prop):wpf te vM az 1000 Tryz.f82 (gG.inp.inj x).tm (gG.inp.inj x).hp (fnK gG GQ Q) (λ_ _=>False)=(JA (x.1.1)).wpR Q:=by kernel_rfl
theorem Rr (pre:xI->Bool) (F:xI->OT gG.Y) (hF:∀ (x:xI) oy,pre x=true->(F x).run=some oy->(JA (x.1.1)).run=some oy):ac Tryz.prog 82 (gG.aI pre F):=
 aE au s5 OB (f:=82) (fn:=Tryz.f82) (c:=ao Tryz.f82) (by kernel_rfl) (by kernel_rfl) (by kernel_rfl) (S:=gG) (k:=0) (by kernel_rfl) (λR hR=>ag) (n:=1000) (sel:=GQ) (λv o h=>by cases h;rfl) (pre:=pre) (F:=F) (T:=λx=>JA (x.1.1)) (λx Q=>akc x Q) hF
def eH (P:Pt):AP:=cond P.2.2 (⟨0,0,0,0⟩,⟨0,0,0,0⟩,⟨0,0,0,0⟩) (P.1,P.2.1,⟨1,0,0,0⟩)
def GR (_:xI):Bool:=true
def WK (x:xI):OT gG.Y:=.ok ⟨uR,((eH x.1.1,()),())⟩
theorem afi:ac Tryz.prog 82 (gG.aI GR WK):=Rr _ _ λx oy hp ho=>by
 rw [<-ho]
 clear ho
 obtain ⟨⟨⟨X,Y,i⟩,⟨⟩⟩,⟨⟩⟩:=x
 cases i<;>rfl
def sB:cN:=(gG.aI GR WK)
theorem Nn:ac Tryz.prog 82 sB:=afi
theorem Nl:aK sB:=aB
def vI:Env:=aA 82 sB vM
theorem sZ:aW Tryz.prog vI:=ai Nn s5
theorem vH:aw vI:=ae Nl vL
theorem Ox:bc Tryz.prog te vI:=aO follows au sZ vH
def o5:aq:=⟨[.val false .int,.val true .elem,.val true .elem],[],true,0,false⟩
abbrev ZO:Type:=((Int)×(aa)×(aa)×Unit)×(Unit)
def JH:ax:=⟨[.val true .elem],[],false⟩
def WQ:SV->Option ax:=λ_=>some JH
def afu (a0:Int) (a1:aa) (a2:aa):OT o5.Y:=
 (.br (ak a0)
 (.ok ⟨JH,((aN (pS a0) a1 a2,()),())⟩)
 (.ok ⟨JH,(({w0:=0,w1:=0,w2:=0,w3:=0},()),())⟩))
theorem aqG (x:ZO) (Q:o5.Y->Prop):wpf te vI az 1000 Tryz.f122 (o5.inp.inj x).tm (o5.inp.inj x).hp (fnK o5 WQ Q) (λ_ _=>False)=(afu (x.1.1) (x.1.2.1) (x.1.2.2.1)).wpR Q:=by kernel_rfl
theorem aft (pre:ZO->Bool) (F:ZO->OT o5.Y) (hF:∀ (x:ZO) oy,pre x=true->(F x).run=some oy->(afu (x.1.1) (x.1.2.1) (x.1.2.2.1)).run=some oy):ac Tryz.prog 122 (o5.aI pre F):=
 aE au sZ Ox (f:=122) (fn:=Tryz.f122) (c:=ao Tryz.f122) (by kernel_rfl) (by kernel_rfl) (by kernel_rfl) (S:=o5) (k:=0) (by kernel_rfl) (λR hR=>ag) (n:=1000) (sel:=WQ) (λv o h=>by cases h;rfl) (pre:=pre) (F:=F) (T:=λx=>afu (x.1.1) (x.1.2.1) (x.1.2.2.1)) (λx Q=>aqG x Q) hF
def bq (x:ZO):Bool:=ak x.1.1
def aln (x:ZO):OT o5.Y:=.ok ⟨JH,((aN (pS x.1.1) x.1.2.1 x.1.2.2.1,()),())⟩
theorem aoN:ac Tryz.prog 122 (o5.aI bq aln):=aft _ _ λx oy hp ho=>by
 rw [<-ho]
 clear ho
 obtain ⟨⟨s,a,b,⟨⟩⟩,⟨⟩⟩:=x
 have hs:ak s=true:=hp
 exact (OT.ap hs).trans rfl
def Du:cN:=(o5.aI bq aln)
theorem ZN:ac Tryz.prog 122 Du:=aoN
theorem ZM:aK Du:=aB
def OA:Env:=aA 122 Du vI
theorem EH:aW Tryz.prog OA:=ai ZN sZ
theorem EI:aw OA:=ae ZM vH
theorem aam:bc Tryz.prog te OA:=aO follows au EH EI
def o0:aq:=⟨[.val false .int,.val true .elem,.val true .elem],[],true,0,false⟩
abbrev ZG:Type:=((Int)×(aa)×(aa)×Unit)×(Unit)
def JC:ax:=⟨[.val true .elem],[],false⟩
def WM:SV->Option ax:=λ_=>some JC
def afl (a0:Int) (a1:aa) (a2:aa):OT o0.Y:=
 (.br (ak a0)
 (.ok ⟨JC,((eW (pS a0) a1 a2,()),())⟩)
 (.ok ⟨JC,(({w0:=0,w1:=0,w2:=0,w3:=0},()),())⟩))
theorem aqD (x:ZG) (Q:o0.Y->Prop):wpf te OA az 1000 Tryz.f123 (o0.inp.inj x).tm (o0.inp.inj x).hp (fnK o0 WM Q) (λ_ _=>False)=(afl (x.1.1) (x.1.2.1) (x.1.2.2.1)).wpR Q:=by kernel_rfl
theorem afk (pre:ZG->Bool) (F:ZG->OT o0.Y) (hF:∀ (x:ZG) oy,pre x=true->(F x).run=some oy->(afl (x.1.1) (x.1.2.1) (x.1.2.2.1)).run=some oy):ac Tryz.prog 123 (o0.aI pre F):=
 aE au EH aam (f:=123) (fn:=Tryz.f123) (c:=ao Tryz.f123) (by kernel_rfl) (by kernel_rfl) (by kernel_rfl) (S:=o0) (k:=0) (by kernel_rfl) (λR hR=>ag) (n:=1000) (sel:=WM) (λv o h=>by cases h;rfl) (pre:=pre) (F:=F) (T:=λx=>afl (x.1.1) (x.1.2.1) (x.1.2.2.1)) (λx Q=>aqD x Q) hF
def gI (x:ZG):Bool:=ak x.1.1
def alm (x:ZG):OT o0.Y:=.ok ⟨JC,((eW (pS x.1.1) x.1.2.1 x.1.2.2.1,()),())⟩
theorem aoJ:ac Tryz.prog 123 (o0.aI gI alm):=afk _ _ λx oy hp ho=>by
 rw [<-ho]
 clear ho
 obtain ⟨⟨s,a,b,⟨⟩⟩,⟨⟩⟩:=x
 have hs:ak s=true:=hp
 exact (OT.ap hs).trans rfl
def Dp:cN:=(o0.aI gI alm)
theorem ZF:ac Tryz.prog 123 Dp:=aoJ
theorem ZE:aK Dp:=aB
def Oz:Env:=aA 123 Dp OA
theorem EE:aW Tryz.prog Oz:=ai ZF EH
theorem EF:aw Oz:=ae ZE EI
theorem aal:bc Tryz.prog te Oz:=aO follows au EE EF
def gH:aq:=⟨[.val false .int,.val true .elem,.val false .u64],[],true,0,false⟩
abbrev xJ:Type:=((Int)×(aa)×(UInt64)×Unit)×(Unit)
def Dn:ax:=⟨[.val true .elem],[],false⟩
def GS:SV->Option ax:=λ_=>some Dn
def JB (a0:Int) (a1:aa) (a2:UInt64):OT gH.Y:=
 let z0:aa:= {w0:=a2,w1:=0,w2:=0,w3:=0}
 (gd [bq ((a0,a1,z0,()),())] (.ok ⟨Dn,((aN (pS a0) a1 z0,()),())⟩))
theorem akd (x:xJ) (Q:gH.Y->Prop):wpf te Oz az 1000 Tryz.f124 (gH.inp.inj x).tm (gH.inp.inj x).hp (fnK gH GS Q) (λ_ _=>False)=(JB (x.1.1) (x.1.2.1) (x.1.2.2.1)).wpR Q:=by kernel_rfl
theorem Rs (pre:xJ->Bool) (F:xJ->OT gH.Y) (hF:∀ (x:xJ) oy,pre x=true->(F x).run=some oy->(JB (x.1.1) (x.1.2.1) (x.1.2.2.1)).run=some oy):ac Tryz.prog 124 (gH.aI pre F):=
 aE au EE aal (f:=124) (fn:=Tryz.f124) (c:=ao Tryz.f124) (by kernel_rfl) (by kernel_rfl) (by kernel_rfl) (S:=gH) (k:=0) (by kernel_rfl) (λR hR=>ag) (n:=1000) (sel:=GS) (λv o h=>by cases h;rfl) (pre:=pre) (F:=F) (T:=λx=>JB (x.1.1) (x.1.2.1) (x.1.2.2.1)) (λx Q=>akd x Q) hF
def jq (p:Nat) (a:aa) (n:UInt64):aa:=aN p a ⟨n,0,0,0⟩
def fO (x:xJ):Bool:=ak x.1.1
def WL (x:xJ):OT gH.Y:=.ok ⟨Dn,((jq (pS x.1.1) x.1.2.1 x.1.2.2.1,()),())⟩
theorem afj:ac Tryz.prog 124 (gH.aI fO WL):=Rs _ _ λx oy hp ho=>by
 rw [<-ho]
 clear ho
 obtain ⟨⟨s,a,b,⟨⟩⟩,⟨⟩⟩:=x
 have hs:ak s=true:=hp
 refine (al ?_).trans rfl
 simp only [List.all_cons,List.all_nil,Bool.and_true]
 exact hs
def sC:cN:=(gH.aI fO WL)
theorem Nq:ac Tryz.prog 124 sC:=afj
theorem Np:aK sC:=aB
def vK:Env:=aA 124 sC Oz
theorem s4:aW Tryz.prog vK:=ai Nq EE
theorem vJ:aw vK:=ae Np EF
theorem Oy:bc Tryz.prog te vK:=aO follows au s4 vJ
def eg:aq:=⟨[.val false .int,.val true (.prod .elem (.prod .elem .elem))],[],true,0,false⟩
abbrev qB:Type:=((Int)×((aa×(aa×aa)))×Unit)×(Unit)
def ib:ax:=⟨[.val true (.prod .elem (.prod .elem .bool))],[],false⟩
def Dr:SV->Option ax:=λ_=>some ib
def Ds (a0:Int) (a1:(aa×(aa×aa))):OT eg.Y:=
 let z0:aa:= {w0:=0,w1:=0,w2:=0,w3:=0}
 let z1:Nat:=pS a0
 let z2:aa×PUnit:=(z0,())
 let z3:Bool:=bq ((a0,z0,z2),())
 let z4:aa:=aN z1 z0 z0
 let z5:Bool:=bq ((a0,a1.fst,z4,()),())
 let z6:Bool:=bq ((a0,z4,z2),())
 let z7:aa:=aN z1 z4 z0
 let z8:Bool:=bq ((a0,a1.snd.fst,z7,()),())
 let z9:aa×aa×Bool:=(aN z1 a1.fst z4,aN z1 a1.snd.fst z7,false)
 let z10:aa:=agn z1 a1.snd.snd
 let z11:aa×PUnit:=(z10,())
 let z12:aa:=aN z1 z10 z10
 let z13:aa:=aN z1 z12 z10
 (.br (cr a1.snd.snd)
 (.ok ⟨ib,(((z0,z0,true),()),())⟩)
 (.br (ak a0)
  (.br (Nat.beq (aa.nat a1.snd.snd%z1) 0)
   (gd [z3,z5,z6,z8] (.ok ⟨ib,((z9,()),())⟩))
   (gd [bq ((a0,z10,z11),()),bq ((a0,a1.fst,z12,()),()),bq ((a0,z12,z11),()),bq ((a0,a1.snd.fst,z13,()),())] (.ok ⟨ib,(((aN z1 a1.fst z12,aN z1 a1.snd.fst z13,false),()),())⟩)))
  (gd [z3,z5,z6,z8] (.ok ⟨ib,((z9,()),())⟩))))
theorem afr (x:qB) (Q:eg.Y->Prop):wpf te vK az 1000 Tryz.f80 (eg.inp.inj x).tm (eg.inp.inj x).hp (fnK eg Dr Q) (λ_ _=>False)=(Ds (x.1.1) (x.1.2.1)).wpR Q:=by kernel_rfl
theorem Nu (pre:qB->Bool) (F:qB->OT eg.Y) (hF:∀ (x:qB) oy,pre x=true->(F x).run=some oy->(Ds (x.1.1) (x.1.2.1)).run=some oy):ac Tryz.prog 80 (eg.aI pre F):=
 aE au s4 Oy (f:=80) (fn:=Tryz.f80) (c:=ao Tryz.f80) (by kernel_rfl) (by kernel_rfl) (by kernel_rfl) (S:=eg) (k:=0) (by kernel_rfl) (λR hR=>ag) (n:=1000) (sel:=Dr) (λv o h=>by cases h;rfl) (pre:=pre) (F:=F) (T:=λx=>Ds (x.1.1) (x.1.2.1)) (λx Q=>afr x Q) hF
def td (p:Nat) (a:aa):aa:=cond (Nat.beq (a.nat%p) 0) ⟨0,0,0,0⟩ (agn p a)
def Qs (p:Nat) (x y i:aa):Pt:=(aN p x (aN p i i),aN p y (aN p (aN p i i) i),false)
def eQ (p:Nat) (w:AP):Pt:=cond (cr w.2.2) aC (Qs p w.1 w.2.1 (td p w.2.2))
def j9 (x:qB):Bool:=ak x.1.1
def Nv (x:qB):OT eg.Y:=.ok ⟨ib,((eQ (pS x.1.1) x.1.2.1,()),())⟩
theorem ZK:ac Tryz.prog 80 (eg.aI j9 Nv):=Nu _ _ λx oy hp ho=>by
 rw [<-ho]
 clear ho
 obtain ⟨⟨c,⟨X,Y,Z⟩,⟨⟩⟩,⟨⟩⟩:=x
 have hs:ak c=true:=hp
 show _=(OT.ok ⟨ib,((eQ (pS c) (X,Y,Z),()),())⟩:OT eg.Y).run
 unfold eQ
 dsimp only
 cases hz:cr Z
 ·refine (OT.ay hz).trans ((OT.ap hs).trans ?_)
  unfold td
  cases hb:Nat.beq (Z.nat%pS c) 0
  ·refine (OT.ay rfl).trans ((al ?_).trans rfl)
   simp only [List.all_cons,List.all_nil,Bool.and_true,Bool.and_eq_true]
   exact ⟨hs,hs,hs,hs⟩
  ·refine (OT.ap rfl).trans ((al ?_).trans rfl)
   simp only [List.all_cons,List.all_nil,Bool.and_true,Bool.and_eq_true]
   exact ⟨hs,hs,hs,hs⟩
 ·exact OT.ap hz
def o4:cN:=(eg.aI j9 Nv)
theorem JG:ac Tryz.prog 80 o4:=ZK
theorem JF:aK o4:=aB
def pu:Env:=aA 80 o4 vK
theorem pq:aW Tryz.prog pu:=ai JG s4
theorem ry:aw pu:=ae JF vJ
theorem Kl:bc Tryz.prog te pu:=aO follows au pq ry
def eh:aq:=⟨[.val false .int,.val true (.prod .elem (.prod .elem .elem))],[],true,0,false⟩
abbrev qE:Type:=((Int)×((aa×(aa×aa)))×Unit)×(Unit)
def l7:ax:=⟨[.val true (.prod .elem (.prod .elem .elem))],[],false⟩
def Dy:SV->Option ax:=λ_=>some l7
def Dz (a0:Int) (a1:(aa×(aa×aa))):OT eh.Y:=
 let z0:Nat:=pS a0
 let z1:aa:=aN z0 a1.snd.fst a1.snd.fst
 let z2:aa×PUnit:=(z1,())
 let z3:aa:=aN z0 a1.fst z1
 let z4:aa:=aN z0 a1.fst a1.fst
 let z5:aa:=jq z0 z4 (3:UInt64)
 let z6:aa:=jq z0 z3 (4:UInt64)
 let z7:UInt64×PUnit:=((2:UInt64),())
 let z8:aa:=aN z0 z5 z5
 let z9:aa:=jq z0 z6 (2:UInt64)
 let z10:aa:=eW z0 z8 z9
 let z11:aa:=eW z0 z6 z10
 let z12:aa:=aN z0 z1 z1
 let z13:aa:=aN z0 z5 z11
 let z14:aa:=jq z0 z12 (8:UInt64)
 let z15:aa:=aN z0 a1.snd.fst a1.snd.snd
 (.br (cr a1.snd.snd)
 (.ok ⟨l7,((a1,()),())⟩)
 (gd [bq ((a0,a1.snd.fst,a1.snd.fst,()),()),bq ((a0,a1.fst,z2),()),fO ((a0,z3,(4:UInt64),()),()),bq ((a0,a1.fst,a1.fst,()),()),fO ((a0,z4,(3:UInt64),()),()),bq ((a0,z5,z5,()),()),fO ((a0,z6,z7),()),gI ((a0,z8,z9,()),()),gI ((a0,z6,z10,()),()),bq ((a0,z5,z11,()),()),bq ((a0,z1,z2),()),fO ((a0,z12,(8:UInt64),()),()),gI ((a0,z13,z14,()),()),bq ((a0,a1.snd.fst,a1.snd.snd,()),()),fO ((a0,z15,z7),())] (.ok ⟨l7,(((z10,eW z0 z13 z14,jq z0 z15 (2:UInt64)),()),())⟩)))
theorem afC (x:qE) (Q:eh.Y->Prop):wpf te pu az 1000 Tryz.f83 (eh.inp.inj x).tm (eh.inp.inj x).hp (fnK eh Dy Q) (λ_ _=>False)=(Dz (x.1.1) (x.1.2.1)).wpR Q:=by kernel_rfl
theorem NA (pre:qE->Bool) (F:qE->OT eh.Y) (hF:∀ (x:qE) oy,pre x=true->(F x).run=some oy->(Dz (x.1.1) (x.1.2.1)).run=some oy):ac Tryz.prog 83 (eh.aI pre F):=
 aE au pq Kl (f:=83) (fn:=Tryz.f83) (c:=ao Tryz.f83) (by kernel_rfl) (by kernel_rfl) (by kernel_rfl) (S:=eh) (k:=0) (by kernel_rfl) (λR hR=>ag) (n:=1000) (sel:=Dy) (λv o h=>by cases h;rfl) (pre:=pre) (F:=F) (T:=λx=>Dz (x.1.1) (x.1.2.1)) (λx Q=>afC x Q) hF
def arA (p:Nat) (x y z:aa):AP:=
 let yy:=aN p y y
 let s:=jq p (aN p x yy) 4
 let m:=jq p (aN p x x) 3
 let x':=eW p (aN p m m) (jq p s 2)
 (x',eW p (aN p m (eW p s x')) (jq p (aN p yy yy) 8),jq p (aN p y z) 2)
def Rq (p:Nat) (w:AP):AP:=cond (cr w.2.2) w (arA p w.1 w.2.1 w.2.2)
def m4 (x:qE):Bool:=ak x.1.1
def NB (x:qE):OT eh.Y:=.ok ⟨l7,((Rq (pS x.1.1) x.1.2.1,()),())⟩
theorem ZU:ac Tryz.prog 83 (eh.aI m4 NB):=NA _ _ λx oy hp ho=>by
 rw [<-ho]
 clear ho
 obtain ⟨⟨c,⟨X,Y,Z⟩,⟨⟩⟩,⟨⟩⟩:=x
 have hs:ak c=true:=hp
 show _=(OT.ok ⟨l7,((Rq (pS c) (X,Y,Z),()),())⟩:OT eh.Y).run
 unfold Rq
 dsimp only
 cases hz:cr Z
 ·refine (OT.ay hz).trans ((al ?_).trans rfl)
  simp only [List.all_cons,List.all_nil,Bool.and_true,Bool.and_eq_true]
  exact ⟨hs,hs,hs,hs,hs,hs,hs,hs,hs,hs,hs,hs,hs,hs,hs⟩
 ·exact OT.ap hz
def o8:cN:=(eh.aI m4 NB)
theorem JL:ac Tryz.prog 83 o8:=ZU
theorem JK:aK o8:=aB
def px:Env:=aA 83 o8 pu
theorem pv:aW Tryz.prog px:=ai JL pq
theorem rz:aw px:=ae JK ry
theorem Km:bc Tryz.prog te px:=aO follows au pv rz
def iR:aq:=⟨[.val false .int,.val true (.prod .elem (.prod .elem .elem)),.val true (.prod .elem (.prod .elem .elem))],[],true,0,false⟩
abbrev G4:Type:=((Int)×((aa×(aa×aa)))×((aa×(aa×aa)))×Unit)×(Unit)
def kK:ax:=⟨[.val true (.prod .elem (.prod .elem .elem))],[],false⟩
def NF:SV->Option ax:=λ_=>some kK
def RF (a0:Int) (a1:(aa×(aa×aa))) (a2:(aa×(aa×aa))):OT iR.Y:=
 let z0:aa×PUnit:=(a1.snd.snd,())
 let z1:aa×PUnit:=(a2.snd.snd,())
 let z2:Nat:=pS a0
 let z3:aa:=aN z2 a2.snd.snd a2.snd.snd
 let z4:aa:=aN z2 a1.snd.snd a1.snd.snd
 let z5:aa:=aN z2 z3 a2.snd.snd
 let z6:aa:=aN z2 z4 a1.snd.snd
 let z7:aa:=aN z2 a2.fst z4
 let z8:aa:=aN z2 a1.fst z3
 let z9:aa:=aN z2 a2.snd.fst z6
 let z10:aa:=aN z2 a1.snd.fst z5
 let z11:aa:=eW z2 z7 z8
 let z12:aa:=eW z2 z9 z10
 let z13:aa:= {w0:=0,w1:=0,w2:=0,w3:=0}
 let z14:aa×PUnit:=(z11,())
 let z15:aa:=aN z2 z11 z11
 let z16:aa:=aN z2 z12 z12
 let z17:aa:=aN z2 z15 z11
 let z18:aa×PUnit:=(z17,())
 let z19:aa:=aN z2 z8 z15
 let z20:aa:=eW z2 z16 z17
 let z21:aa:=jq z2 z19 (2:UInt64)
 let z22:aa:=eW z2 z20 z21
 let z23:aa:=eW z2 z19 z22
 let z24:aa:=aN z2 z12 z23
 let z25:aa:=aN z2 z10 z17
 let z26:aa:=aN z2 a1.snd.snd a2.snd.snd
 (.br (cr a1.snd.snd)
 (.ok ⟨kK,((a2,()),())⟩)
 (.br (cr a2.snd.snd)
  (.ok ⟨kK,((a1,()),())⟩)
  (gd [bq ((a0,a1.snd.snd,z0),()),bq ((a0,a2.snd.snd,z1),()),bq ((a0,a1.fst,z3,()),()),bq ((a0,a2.fst,z4,()),()),bq ((a0,z3,z1),()),bq ((a0,a1.snd.fst,z5,()),()),bq ((a0,z4,z0),()),bq ((a0,a2.snd.fst,z6,()),()),gI ((a0,z7,z8,()),()),gI ((a0,z9,z10,()),())] (.br (z11.w0==(0:UInt64)&&(z11.w1==(0:UInt64)&&(z11.w2==(0:UInt64)&&(z11.w3==(0:UInt64)&&true))))
   (.br (z12.w0==(0:UInt64)&&(z12.w1==(0:UInt64)&&(z12.w2==(0:UInt64)&&(z12.w3==(0:UInt64)&&true))))
    (gd [m4 ((a0,a1,()),())] (.ok ⟨kK,((Rq z2 a1,()),())⟩))
    (.ok ⟨kK,(((z13,z13,z13),()),())⟩))
   (gd [bq ((a0,z11,z14),()),bq ((a0,z15,z14),()),bq ((a0,z8,z15,()),()),bq ((a0,z12,z12,()),()),gI ((a0,z16,z18),()),fO ((a0,z19,(2:UInt64),()),()),gI ((a0,z20,z21,()),()),gI ((a0,z19,z22,()),()),bq ((a0,z12,z23,()),()),bq ((a0,z10,z18),()),gI ((a0,z24,z25,()),()),bq ((a0,a1.snd.snd,z1),()),bq ((a0,z11,z26,()),())] (.ok ⟨kK,(((z22,eW z2 z24 z25,aN z2 z11 z26),()),())⟩))))))
theorem aoS (x:G4) (Q:iR.Y->Prop):wpf te px az 1000 Tryz.f81 (iR.inp.inj x).tm (iR.inp.inj x).hp (fnK iR NF Q) (λ_ _=>False)=(RF (x.1.1) (x.1.2.1) (x.1.2.2.1)).wpR Q:=by kernel_rfl
theorem Z0 (pre:G4->Bool) (F:G4->OT iR.Y) (hF:∀ (x:G4) oy,pre x=true->(F x).run=some oy->(RF (x.1.1) (x.1.2.1) (x.1.2.2.1)).run=some oy):ac Tryz.prog 81 (iR.aI pre F):=
 aE au pv Km (f:=81) (fn:=Tryz.f81) (c:=ao Tryz.f81) (by kernel_rfl) (by kernel_rfl) (by kernel_rfl) (S:=iR) (k:=0) (by kernel_rfl) (λR hR=>ag) (n:=1000) (sel:=NF) (λv o h=>by cases h;rfl) (pre:=pre) (F:=F) (T:=λx=>RF (x.1.1) (x.1.2.1) (x.1.2.2.1)) (λx Q=>aoS x Q) hF
def arZ (p:Nat) (u s h r Z1 Z2:aa):AP:=
 let hh:=aN p h h
 let hhh:=aN p hh h
 let c:=aN p u hh
 let x:=eW p (eW p (aN p r r) hhh) (jq p c 2)
 (x,eW p (aN p r (eW p c x)) (aN p s hhh),aN p h (aN p Z1 Z2))
def arM (p:Nat) (w:AP) (u s h r Z2:aa):AP:=cond (cr h) (cond (cr r) (Rq p w) (⟨0,0,0,0⟩,⟨0,0,0,0⟩,⟨0,0,0,0⟩)) (arZ p u s h r w.2.2 Z2)
def aq9 (p:Nat) (w v:AP):AP:=
 let pz:=aN p w.2.2 w.2.2
 let qz:=aN p v.2.2 v.2.2
 let u:=aN p w.1 qz
 let s:=aN p w.2.1 (aN p qz v.2.2)
 arM p w u s (eW p (aN p v.1 pz) u) (eW p (aN p v.2.1 (aN p pz w.2.2)) s) v.2.2
def N9 (p:Nat) (w v:AP):AP:=cond (cr w.2.2) v (cond (cr v.2.2) w (aq9 p w v))
def uV (x:G4):Bool:=ak x.1.1
def afJ (x:G4):OT iR.Y:=.ok ⟨kK,((N9 (pS x.1.1) x.1.2.1 x.1.2.2.1,()),())⟩
theorem ako:ac Tryz.prog 81 (iR.aI uV afJ):=Z0 _ _ λx oy hp ho=>by
 rw [<-ho]
 clear ho
 obtain ⟨⟨c,⟨X,Y,Z⟩,⟨X2,Y2,Z2⟩,⟨⟩⟩,⟨⟩⟩:=x
 have hs:ak c=true:=hp
 show _=(OT.ok ⟨kK,((N9 (pS c) (X,Y,Z) (X2,Y2,Z2),()),())⟩:OT iR.Y).run
 unfold N9
 dsimp only
 cases hz:cr Z
 ·refine (OT.ay hz).trans ?_
  cases hz2:cr Z2
  ·refine (OT.ay rfl).trans ((al ?_).trans ?_)
   ·simp only [List.all_cons,List.all_nil,Bool.and_true,Bool.and_eq_true]
    exact ⟨hs,hs,hs,hs,hs,hs,hs,hs,hs,hs⟩
   ·unfold aq9 arM
    dsimp only [cond_false]
    cases hh:cr (eW (pS c) (aN (pS c) X2 (aN (pS c) Z Z)) (aN (pS c) X (aN (pS c) Z2 Z2)))
    ·refine (OT.ay hh).trans ((al ?_).trans rfl)
     simp only [List.all_cons,List.all_nil,Bool.and_true,Bool.and_eq_true]
     exact ⟨hs,hs,hs,hs,hs,hs,hs,hs,hs,hs,hs,hs,hs⟩
    ·refine (OT.ap hh).trans ?_
     dsimp only [cond_true]
     cases hr:cr (eW (pS c) (aN (pS c) Y2 (aN (pS c) (aN (pS c) Z Z) Z)) (aN (pS c) Y (aN (pS c) (aN (pS c) Z2 Z2) Z2)))
     ·exact OT.ay hr
     ·refine (OT.ap hr).trans ((al ?_).trans rfl)
      simp only [List.all_cons,List.all_nil,Bool.and_true]
      exact hs
  ·exact OT.ap rfl
 ·exact OT.ap hz
def xP:cN:=(iR.aI uV afJ)
theorem RE:ac Tryz.prog 81 xP:=ako
theorem RD:aK xP:=aB
def EN:Env:=aA 81 xP px
theorem yH:aW Tryz.prog EN:=ai RE pv
theorem zR:aw EN:=ae RD rz
theorem Sq:bc Tryz.prog te EN:=aO follows au yH zR
def nw:aq:=⟨[.val false .int,.val true (.prod .elem (.prod .elem .bool)),.val true (.prod .elem (.prod .elem .bool))],[],true,0,false⟩
abbrev ZZ:Type:=((Int)×((aa×(aa×Bool)))×((aa×(aa×Bool)))×Unit)×(Unit)
def xO:ax:=⟨[.val true (.prod .elem (.prod .elem .bool))],[],false⟩
def W0:SV->Option ax:=λ_=>some xO
def afI (a0:Int) (a1:(aa×(aa×Bool))) (a2:(aa×(aa×Bool))):OT nw.Y:=
 let z0:aa:= {w0:=0,w1:=0,w2:=0,w3:=0}
 let z1:aa×aa×Bool:=(z0,z0,true)
 let z2:aa×aa×aa:=eH a1
 let z3:aa×aa×aa:=eH a2
 let z4:Nat:=pS a0
 let z5:aa×aa×aa:=N9 z4 z2 z3
 (.br (!onB a0 a1)
 (.ok ⟨xO,((z1,()),())⟩)
 (.br (!onB a0 a2)
  (.ok ⟨xO,((z1,()),())⟩)
  (gd [uV ((a0,z2,z3,()),()),j9 ((a0,z5,()),())] (.ok ⟨xO,((eQ z4 z5,()),())⟩))))
theorem aqJ (x:ZZ) (Q:nw.Y->Prop):wpf te EN az 1000 Tryz.f44 (nw.inp.inj x).tm (nw.inp.inj x).hp (fnK nw W0 Q) (λ_ _=>False)=(afI (x.1.1) (x.1.2.1) (x.1.2.2.1)).wpR Q:=by kernel_rfl
theorem afH (pre:ZZ->Bool) (F:ZZ->OT nw.Y) (hF:∀ (x:ZZ) oy,pre x=true->(F x).run=some oy->(afI (x.1.1) (x.1.2.1) (x.1.2.2.1)).run=some oy):ac Tryz.prog 44 (nw.aI pre F):=
 aE au yH Sq (f:=44) (fn:=Tryz.f44) (c:=ao Tryz.f44) (by kernel_rfl) (by kernel_rfl) (by kernel_rfl) (S:=nw) (k:=0) (by kernel_rfl) (λR hR=>ag) (n:=1000) (sel:=W0) (λv o h=>by cases h;rfl) (pre:=pre) (F:=F) (T:=λx=>afI (x.1.1) (x.1.2.1) (x.1.2.2.1)) (λx Q=>aqJ x Q) hF
def ek (c:Int) (P Q:Pt):Pt:=cond (onB c P) (cond (onB c Q) (eQ (pS c) (N9 (pS c) (eH P) (eH Q))) aC) aC
def W1 (_:ZZ):Bool:=true
def alq (x:ZZ):OT nw.Y:=.ok ⟨xO,((ek x.1.1 x.1.2.1 x.1.2.2.1,()),())⟩
theorem aoR:ac Tryz.prog 44 (nw.aI W1 alq):=afH _ _ λx oy _ ho=>by
 rw [<-ho]
 clear ho
 obtain ⟨⟨c,P,Q,⟨⟩⟩,⟨⟩⟩:=x
 show _=(OT.ok ⟨xO,((ek c P Q,()),())⟩:OT nw.Y).run
 rcases (Bool.eq_false_or_eq_true (onB c P)).symm with h1|h1
 ·have e:ek c P Q=aC:=by unfold ek;rw [h1];rfl
  rw [e]
  exact OT.ap (b:= !onB c P) (by rw [h1];rfl)
 ·have hs:=qe h1
  refine (OT.ay (b:= !onB c P) (by rw [h1];rfl)).trans ?_
  rcases (Bool.eq_false_or_eq_true (onB c Q)).symm with h2|h2
  ·have e:ek c P Q=aC:=by unfold ek;rw [h1,h2];rfl
   rw [e]
   exact OT.ap (b:= !onB c Q) (by rw [h2];rfl)
  ·have e:ek c P Q=eQ (pS c) (N9 (pS c) (eH P) (eH Q)):=by unfold ek;rw [h1,h2];rfl
   rw [e]
   refine (OT.ay (b:= !onB c Q) (by rw [h2];rfl)).trans ((al ?_).trans rfl)
   simp only [List.all_cons,List.all_nil,Bool.and_true,Bool.and_eq_true]
   exact ⟨hs,hs⟩
def DB:cN:=(nw.aI W1 alq)
theorem ZY:ac Tryz.prog 44 DB:=aoR
theorem ZX:aK DB:=aB
def Hw:Env:=aA 44 DB EN
theorem vP:aW Tryz.prog Hw:=ai ZY yH
theorem EM:aw Hw:=ae ZX zR
theorem Hv:bc Tryz.prog te Hw:=aO follows au vP EM
end Go.Proofs.YtohjofabochgfaaGreat
