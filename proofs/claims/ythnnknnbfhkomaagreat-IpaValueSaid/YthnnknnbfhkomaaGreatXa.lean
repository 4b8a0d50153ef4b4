/- A symbolic machine for Go code over plain data, and functions of the program as it shows them. No statement is proved in this file. -/
import Derived.Calls
import Derived.Orders
import Derived.Tactics
import Derived.Laws.AppendOwn
import Derived.Laws.CopyRow
import Derived.Laws.Entries
import Derived.KernelRfl
import Derived.Laws.StructEq
import Derived.Laws.MakeOwn
import Derived.Great.BuildSlice
import Derived.Lib.SliceRun
import Derived.Lib.ConvBytes
import Derived.Lib.SlBytesConst
set_option linter.unusedSimpArgs false
set_option linter.unusedVariables false
set_option linter.unusedSectionVars false
namespace Go.Proofs.YthnnknnbfhkomaaGreat
section
theorem ag {p:Prop} [Decidable p] (h:p):decide p=true:=decide_eq_true h
theorem aw (a b:Bool):((a&&b)=true)=(a=true/\b=true):=Bool.and_eq_true a b
theorem aY {n m:Nat} (h:Nat.beq n m=true):n=m:=Nat.eq_of_beq_eq_true h
theorem aA {α:Type _} {a:α} {l:List α} {f:α->Bool}:(a::l).all f=(f a&&l.all f):=List.all_cons
theorem aJ (b:Bool):(b&&true)=b:=Bool.and_true b
theorem aI {α:Type _} {f:α->Bool}:([]:List α).all f=true:=List.all_nil
theorem b9 (b:Bool):b=true\/b=false:=Bool.eq_false_or_eq_true b
theorem bn {p:Prop} [Decidable p] (h:decide p=true):p:=of_decide_eq_true h
theorem bq {p:Prop} [Decidable p] (h:¬p):decide p=false:=decide_eq_false h
theorem fP {α:Type _} {l:List α} {i:Nat} {a:α}:l.getD i a=l[i]?.getD a:=List.getD_eq_getElem?_getD
theorem bm {a b:Nat} (h:a<b):a%b=a:=Nat.mod_eq_of_lt h
theorem bK {α:Type _} {as bs:List α}:(as++bs).length=as.length+bs.length:=List.length_append
theorem fX {α:Type _} {p:α->Bool} {l:List α}:l.all p=true ↔ ∀ x,x ∈ l->p x=true:=List.all_eq_true
theorem ck {n m:Nat} (k:Nat) (h:n<=m):n*k<=m*k:=Nat.mul_le_mul_right k h
theorem aK {α:Sort _} (a b:α):cond true a b=a:=cond_true a b
theorem aT {α:Sort _} (a b:α):cond false a b=b:=cond_false a b
theorem bQ {α:Type _} {i:Nat} {l:List α}:(l.take i).length=min i l.length:=List.length_take
theorem cq {α:Type _} {i:Nat} {l:List α}:(l.drop i).length=l.length-i:=List.length_drop
theorem cy {α:Type _} {as:List α} {i:Nat} {a:α}:(as.set i a).length=as.length:=List.length_set
theorem fW {α:Type _} {n:Nat} {a:α}:(List.replicate n a).length=n:=List.length_replicate
theorem cB (n:Nat):(n:Int).toNat=n:=Int.toNat_natCast n
theorem dv {n:Nat}:(UInt64.ofNat n).toNat=n%2^64:=UInt64.toNat_ofNat'
theorem rB {a b:UInt64}:a.toNat=b.toNat ↔ a=b:=UInt64.toNat_inj
theorem m4 {α:Type _} {l:List α} {i:Nat} (h:i<l.length):l[i]? =some l[i]:=List.getElem?_eq_getElem h
theorem jR {n m:Nat} (h:n<=m):Nat.ble n m=true:=Nat.ble_eq_true_of_le h
theorem lz {p:Prop} (h:¬p->False):p:=Classical.byContradiction h
theorem xk {α:Type _} {l:List α} (h:l.length=0):l= []:=List.eq_nil_of_length_eq_zero h
theorem mZ {α:Type _} {i:Nat} {l:List α} (h:i<l.length):l.drop i=l[i]::l.drop (i+1):=List.drop_eq_getElem_cons h
theorem cT {n m k:Nat} (h:n<=m) (g:m<=k):n<=k:=Nat.le_trans h g
namespace Sx
open Go
structure ab where
 w0:UInt64
 w1:UInt64
 w2:UInt64
 w3:UInt64
 deriving DecidableEq,Inhabited
inductive Ty where
 |bool|u64|u8|int|str|elem
 |prod (a b:Ty)
 |arr (n:Nat) (t:Ty)
 |list (t:Ty)
 deriving DecidableEq
@[reducible] def Ty.T:Ty->Type
 |.bool=>Bool
 |.u64=>UInt64
 |.u8=>UInt8
 |.int=>Int
 |.str=>List UInt8
 |.elem=>ab
 |.prod a b=>a.T×b.T
 |.arr _ t=>List t.T
 |.list t=>List t.T
def Ty.d:(t:Ty)->t.T
 |.bool=>false
 |.u64=>0
 |.u8=>0
 |.int=>(0:Int)
 |.str=>([]:List UInt8)
 |.elem=>ab.mk 0 0 0 0
 |.prod a b=>(a.d,b.d)
 |.arr n t=>List.replicate n t.d
 |.list t=>([]:List t.T)
def Ty.size:Ty->Nat
 |.elem=>4
 |.prod a b=>a.size+b.size
 |.arr n t=>n*t.size
 |_=>1
def aFY:Int->Int->Bool
 |.ofNat m,.ofNat n=>Nat.ble m n
 |.negSucc m,.negSucc n=>Nat.ble n m
 |.negSucc _,.ofNat _=>true
 |.ofNat _,.negSucc _=>false
theorem axR:∀ {a b:Int},aFY a b=true ↔ a<=b
 |.ofNat m,.ofNat n=>by
  simp [aFY]
 |.negSucc m,.negSucc n=>by
  grind [aFY,Nat.le_of_ble_eq_true,jR]
 |.negSucc _,.ofNat n|.ofNat n,.negSucc _=>by
  grind [aFY]
def aGV:Int->Int->Bool
 |.ofNat m,.ofNat n=>Nat.blt m n
 |.negSucc m,.negSucc n=>Nat.blt n m
 |.negSucc _,.ofNat _=>true
 |.ofNat _,.negSucc _=>false
theorem axQ:∀ {a b:Int},aGV a b=true ↔ a<b
 |.ofNat m,.ofNat n=>by
  simp [aGV]
 |.negSucc m,.negSucc n=>by
  constructor
  ·intro h
   have:n+1<=m:=Nat.le_of_ble_eq_true h
   omega
  ·intro h
   exact jR (by omega)
 |.negSucc _,.ofNat n|.ofNat n,.negSucc _=>by
  grind [aGV]
def aGf {p:Prop} (b:Bool) (h:b=true ↔ p):Decidable p:=match b,h with
 |true,h=>isTrue (h.1 rfl)
 |false,h=>isFalse λhp=>by cases h.2 hp
instance aHz (a b:Int):Decidable (a<=b):=aGf (aFY a b) axR
instance aHy (a b:Int):Decidable (a<b):=aGf (aGV a b) axQ
def inR (n:Int):Bool:=decide (-9223372036854775808<=n)&&decide (n<=9223372036854775807)
inductive SV where
 |bool (b:Bool)|u64 (x:UInt64)|u8 (x:UInt8)|int (n:Int)|str (s:List UInt8)
 |lst (t:Ty) (xs:List t.T)
 |own (c e:Nat)
 |part (c e off len:Nat)
 |clip (c e:Nat)
 |emp
 |ptr (c e i off:Nat)
 |ahr (t:Ty) (xs:List t.T) (i off:Nat)
 |aEM (t:Ty) (xs:List t.T)
 |azw
 |rK
 |fn (f:Fn) (first caps:List SV)
 |iface (t:TypeId) (v:SV)
 |fD
 |agg (l:List SV)
 |tup (l:List SV)
 |undef
 |gu
inductive Chunk where
 |row (t:Ty) (xs:List t.T)
 |frz (t:Ty) (xs:List t.T)
 |cells (vs:List SV)
structure Ch where
 ep:Nat
 body:Chunk
abbrev Hp:=Nat->Option Ch
structure Loc where
 block:Nat
 base:Nat
 lim:Nat
structure Gf where
 blk:Nat->Option Obj
 env:World
 dfs:List Deferred
instance:CoeFun Gf λ_=>Nat->Option Obj:=⟨Gf.blk⟩
def MI (e w:World):Prop:=w.os=e.os/\w.output=e.output/\w.tape=e.tape
structure Ctx where
 F:Nat->Option Obj
 U:Gf
 σ:Nat->Option Loc
 hp:Hp
def eD (x:UInt64):Value:=.int .u64 (x.toNat:Int)
def vu8 (x:UInt8):Value:=.int .u8 (x.toNat:Int)
def cL:Nat:=140737488355328
def seg (l:List Value) (off n:Nat):List Value:=(l.drop off).take n
def Rep (F:Nat->Option Obj):(t:Ty)->t.T->List Value->Prop
 |.bool,b,cs=>cs= [.bool b]
 |.u64,x,cs=>cs= [eD x]
 |.u8,x,cs=>cs= [vu8 x]
 |.int,n,cs=>cs= [.int .i64 n]/\inR n=true
 |.str,s,cs=>cs= [.string ⟨s.toArray⟩]/\s.length<=cL
 |.elem,e,cs=>cs= [eD e.w0,eD e.w1,eD e.w2,eD e.w3]
 |.prod a b,x,cs=>cs.length=a.size+b.size/\Rep F a x.1 (cs.take a.size)/\Rep F b x.2 (cs.drop a.size)
 |.arr n t,l,cs=>cs.length=n*t.size/\l.length=n/\∀ i,i<n->Rep F t (l.getD i t.d) (seg cs (i*t.size) t.size)
 |.list t,xs,cs=>xs.length<=cL/\∃ ad cap,cs= [.slice ad xs.length cap]/\xs.length<=cap/\
  (xs= []\/∃ b o arr E fz,ad=some ⟨b,o,none⟩/\F b=some (.cells arr E fz)/\o+xs.length*t.size<=arr.size/\
   ∀ i,i<xs.length->Rep F t (xs.getD i t.d) (seg arr.toList (o+i*t.size) t.size))
def Chunk.shape:Chunk->Bool×Nat×Nat
 |.row t xs=>(true,t.size,xs.length)
 |.frz t xs=>(true,t.size,xs.length)
 |.cells vs=>(false,1,vs.length)
def Ctx.part (R:Ctx) (c e off len:Nat) (v:Value):Prop:=
 ∃ ch,R.hp c=some ch/\e<=ch.ep/\(e=ch.ep->ch.body.shape.1=true/\off+len<=ch.body.shape.2.2/\
  ∃ ad cap,v=.slice ad len cap/\len<=cap/\
   match R.σ c with
   |some L=>(off+cap)*ch.body.shape.2.1<=L.lim/\(0<cap->ad=some ⟨L.block,L.base+off*ch.body.shape.2.1,none⟩)
   |none=>cap=0)
def Ctx.own (R:Ctx) (c e:Nat) (v:Value):Prop:=
 ∃ ch,R.hp c=some ch/\e<=ch.ep/\(e=ch.ep->R.part c e 0 ch.body.shape.2.2 v)
def Ctx.clip (R:Ctx) (c e:Nat) (v:Value):Prop:=
 R.own c e v/\∀ ch,R.hp c=some ch->e=ch.ep->∃ ad len,v=.slice ad len len
def Ctx.ptr (R:Ctx) (c e i off:Nat) (v:Value):Prop:=
 ∃ ch,R.hp c=some ch/\e<=ch.ep/\(e=ch.ep->∃ L,R.σ c=some L/\v=.pointer (some ⟨L.block,L.base+(i*ch.body.shape.2.1+off),none⟩))
mutual
def SV.rel (R:Ctx):SV->Value->Prop
 |.bool b,v=>v=.bool b
 |.u64 x,v=>v=eD x
 |.u8 x,v=>v=vu8 x
 |.int n,v=>v=.int .i64 n/\inR n=true
 |.str s,v=>v=.string ⟨s.toArray⟩/\s.length<=cL
 |.lst t xs,v=>Rep R.F (.list t) xs [v]
 |.own c e,v=>v.oneCell'=true/\R.own c e v
 |.part c e off len,v=>v.oneCell'=true/\R.part c e off len v
 |.clip c e,v=>v.oneCell'=true/\R.clip c e v
 |.emp,v=>∃ ad,v=.slice ad 0 0
 |.ptr c e i off,v=>(∃ ad,v=.pointer (some ad))/\R.ptr c e i off v
 |.ahr t xs i off,v=>i<xs.length/\∃ b o arr E fz,v=.pointer (some ⟨b,o+off,none⟩)/\R.F b=some (.cells arr E fz)/\o+t.size<=arr.size/\
  Rep R.F t (xs.getD i t.d) (seg arr.toList o t.size)
 |.aEM t xs,v=>xs≠ []/\0<t.size/\∃ b o arr E fz,v=.pointer (some ⟨b,o,none⟩)/\R.F b=some (.cells arr E fz)/\o+xs.length*t.size<=arr.size/\
  ∀ i,i<xs.length->Rep R.F t (xs.getD i t.d) (seg arr.toList (o+i*t.size) t.size)
 |.azw,v=>∃ b,v=.bool b
 |.rK,v=>v=.pointer none
 |.fn f first caps,v=>∃ l₁ l₂,v=.func f l₁.toArray l₂.toArray/\SV.bz R first l₁/\SV.bz R caps l₂
 |.iface t x,v=>∃ y,v=.iface t y/\SV.rel R x y
 |.fD,v=>v=.nilIface
 |.agg l,v=>∃ vs,v=.agg vs.toArray/\SV.bz R l vs/\∀ u ∈ vs,u.oneCell'=true
 |.tup l,v=>∃ vs,v=.tuple vs.toArray/\SV.bz R l vs
 |.undef,v=>v=Go.undef
 |.gu,_=>True
def SV.bz (R:Ctx):List SV->List Value->Prop
 | [],vs=>vs= []
 |x::l,vs=>∃ v r,vs=v::r/\SV.rel R x v/\SV.bz R l r
end
def eW (R:Ctx) (w:World) (c:Nat) (ch:Ch):Prop:=
 match ch.body with
 |.row t xs=>0<t.size/\xs.length<=cL/\
  match R.σ c with
  |none=>xs= []
  |some L=>R.F L.block=none/\R.U L.block=none/\∃ arr E,w.heap[L.block]? =some (.cells arr E (0,0))/\arr.size=L.base+L.lim/\
   xs.length*t.size<=L.lim/\∀ i,i<xs.length->Rep R.F t (xs.getD i t.d) (seg arr.toList (L.base+i*t.size) t.size)
 |.frz t xs=>0<t.size/\xs.length<=cL/\
  match R.σ c with
  |none=>xs= []
  |some L=>∃ arr E fz,R.F L.block=some (.cells arr E fz)/\arr.size=L.base+L.lim/\
   xs.length*t.size<=L.lim/\∀ i,i<xs.length->Rep R.F t (xs.getD i t.d) (seg arr.toList (L.base+i*t.size) t.size)
 |.cells vs=>∃ L,R.σ c=some L/\R.F L.block=none/\R.U L.block=none/\∃ arr E,w.heap[L.block]? =some (.cells arr E (0,0))/\arr.size=L.base+L.lim/\
  L.lim=vs.length/\SV.bz R vs (arr.toList.drop L.base)/\∀ u ∈ arr.toList,u.oneCell'=true
def Chunk.mut:Chunk->Bool
 |.frz .. =>false
 |_=>true
structure cz (R:Ctx) (w:World):Prop where
 F:∀ b o,R.F b=some o->w.heap[b]? =some o
 U:∀ b o,R.U b=some o->w.heap[b]? =some o
 ch:∀ c ch,R.hp c=some ch->eW R w c ch
 apart:∀ c c' ch ch' L L',R.hp c=some ch->R.hp c'=some ch'->ch.body.mut=true->ch'.body.mut=true->
  R.σ c=some L->R.σ c'=some L'->L.block=L'.block->c=c'
 FU:∀ b o,R.F b=some o->R.U b=none
 env:MI R.U.env w
theorem MI.trans {a b c:World} (h:MI a b) (k:MI b c):MI a c:=⟨k.1.trans h.1,k.2.1.trans h.2.1,k.2.2.trans h.2.2⟩
structure St where
 tm:List SV
 hp:Hp
structure iT (R:Ctx) (st:St) (a:Act) (w:World):Prop where
 hp:R.hp=st.hp
 mem:cz R w
 tm:SV.bz R st.tm a.tmps.toList
 defers:a.defers=R.U.dfs
end Sx
end
section
namespace Sx
open Go
inductive TD where
 |bool|int (k:IntKind)|str
 |struct (fs:List (Nat×TypeId))
 |array (n:Nat) (e:TypeId)
 |slice (e:TypeId)
 |ptr (ms:List (String×FuncId))|iface|other
structure TI where
 size:Nat
 bytes:Nat
 desc:TD
 zero:List SV
 ty:Option Ty
abbrev TE:=TypeId->Option TI
def TD.agg:TD->Bool
 |.struct _=>true
 |.array .. =>true
 |_=>false
inductive OT (α:Type) where
 |ok (a:α)
 |br (b:Bool) (x y:OT α)
 |fail
def OT.run {α:Type}:OT α->Option α
 |.ok a=>some a
 |.br b x y=>match b with|true=>x.run|false=>y.run
 |.fail=>none
def OT.wp {α:Type} (t:OT α) (K:α->Prop):Prop:=
 OT.rec (motive:=λ_=>Prop) (λa=>K a) (λb _ _ x y=>cond b x y) False t
theorem OT.Hk {α:Type} {t:OT α} {K:α->Prop} (h:t.wp K):∃ a,t.run=some a/\K a:=by
 induction t with
 |ok a=>exact ⟨a,rfl,h⟩
 |br b x y hx hy=>
  cases b
  ·exact hy h
  ·exact hx h
 |fail=>exact h.elim
def OT.map {α β:Type} (f:α->β):OT α->OT β
 |.ok a=>.ok (f a)
 |.br b x y=>.br b (x.map f) (y.map f)
 |.fail=>.fail
def OT.bind {α β:Type} (t:OT α) (f:α->OT β):OT β:=
 match t with
 |.ok a=>f a
 |.br b x y=>.br b (x.bind f) (y.bind f)
 |.fail=>.fail
def OT.guard {α:Type} (b:Bool) (x:OT α):OT α:=.br b x .fail
structure Eff where
 v:SV
 upd:List (Nat×Ch)
inductive Out where
 |ret (e:Eff)
 |pan (v:SV) (upd:List (Nat×Ch))
def unpack:(t:Ty)->t.T->List SV
 |.bool,b=> [.bool b]
 |.u64,x=> [.u64 x]
 |.u8,x=> [.u8 x]
 |.int,n=> [.int n]
 |.str,s=> [.str s]
 |.elem,e=> [.u64 e.w0,.u64 e.w1,.u64 e.w2,.u64 e.w3]
 |.prod a b,x=>unpack a x.1++unpack b x.2
 |.arr n t,l=>(List.range n).flatMap λi=>unpack t (l.getD i t.d)
 |.list t,xs=> [.lst t xs]
def cd (t t':Ty) (xs:List t'.T):Option (List t.T):=if h:t'=t then some (h▸xs) else none
def xa (t:Ty) (hp:Hp):SV->Option (List t.T)
 |.lst t' xs=>cd t t' xs
 |.emp=>some []
 |.own c e|.clip c e=>match hp c with
  |some ⟨ep,.row t' xs⟩|some ⟨ep,.frz t' xs⟩=>if ep=e then cd t t' xs else none
  |_=>none
 |.part c e off len=>match hp c with
  |some ⟨ep,.row t' xs⟩|some ⟨ep,.frz t' xs⟩=>if ep=e then (cd t t' xs).map λl=>(l.drop off).take len else none
  |_=>none
 |_=>none
def aea (t:Ty) (hp:Hp):SV->Option (List t.T)
 |.lst t' xs=>cd t t' xs
 |.emp=>some []
 |.own c e=>match hp c with
  |some ⟨ep,.frz t' xs⟩=>if ep=e then cd t t' xs else none
  |_=>none
 |.part c e off len=>match hp c with
  |some ⟨ep,.frz t' xs⟩=>if ep=e then (cd t t' xs).map λl=>(l.drop off).take len else none
  |_=>none
 |_=>none
def ak8:List SV->Option Bool
 | [.bool b]=>some b
 |_=>none
def aEZ:List SV->Option UInt64
 | [.u64 b]=>some b
 |_=>none
def pU8:List SV->Option UInt8
 | [.u8 b]=>some b
 |_=>none
def aE2:List SV->Option Int
 | [.int b]=>some b
 |_=>none
def aE0:List SV->Option (List UInt8)
 | [.str b]=>some b
 |_=>none
def ak7:List SV->Option ab
 | [.u64 a,.u64 b,.u64 c,.u64 d]=>some ⟨a,b,c,d⟩
 |_=>none
def aE1 {α:Type} (f:SV->Option α):List SV->Option α
 | [x]=>f x
 |_=>none
def sF {α β:Type}:Option α->Option β->Option (α×β)
 |some x,some y=>some (x,y)
 |_,_=>none
def pack (hp:Hp):(t:Ty)->List SV->Option t.T
 |.bool,cs=>ak8 cs
 |.u64,cs=>aEZ cs
 |.u8,cs=>pU8 cs
 |.int,cs=>aE2 cs
 |.str,cs=>aE0 cs
 |.elem,cs=>ak7 cs
 |.prod a b,cs=>sF (pack hp a (cs.take a.size)) (pack hp b (cs.drop a.size))
 |.arr n t,cs=>if cs.length=n*t.size then (List.range n).mapM λi=>pack hp t ((cs.drop (i*t.size)).take t.size) else none
 |.list t,cs=>aE1 (aea t hp) cs
def SV.one:SV->Bool
 |.agg _=>false
 |.tup _=>false
 |.undef=>false
 |.gu=>false
 |_=>true
def SV.cells:SV->Option (List SV)
 |.agg l=>some l
 |v=>if v.one then some [v] else none
def rG (agg:Bool) (cs:List SV):SV:=if agg then .agg cs else cs.headD .gu
def eu (hp:Hp) (c e:Nat):Option Chunk:=
 match hp c with
 |some ⟨ep,b⟩=>if ep=e then some b else none
 |none=>none
def fu (hp:Hp) (d:Nat):(fuel k:Nat)->Nat
 |0,k=>(d+1)*4096+k
 |n+1,k=>match hp ((d+1)*4096+k) with
  |none=>(d+1)*4096+k
  |some _=>fu hp d n (k+1)
def fresh (hp:Hp) (d:Nat):Nat:=fu hp d 4000 0
def ag1 (t:Ty) (xs:List t.T) (i m:Nat):List SV:=(List.range m).flatMap λj=>unpack t (xs.getD (j+i) t.d)
def loadCells (hp:Hp) (n:Nat):SV->OT (List SV)
 |.ptr c e i off=>match eu hp c e with
  |some (.cells vs)=>if i=0/\off+n<=vs.length then .ok ((vs.drop off).take n) else .fail
  |some (.row t xs)|some (.frz t xs)=>
   if off+n<=t.size then .guard (decide (i<xs.length)) (.ok (((unpack t (xs.getD i t.d)).drop off).take n))
   else if off=0/\n/t.size*t.size=n then .guard (decide (n/t.size+i<=xs.length)) (.ok (ag1 t xs i (n/t.size)))
   else .fail
  |none=>.fail
 |.ahr t xs i off=>if off+n<=t.size then .ok (((unpack t (xs.getD i t.d)).drop off).take n) else .fail
 |.aEM t xs=>if n/t.size*t.size=n then .guard (decide (n/t.size<=xs.length)) (.ok (ag1 t xs 0 (n/t.size))) else .fail
 |_=>.fail
def wM (l:List SV) (off:Nat) (cs:List SV):List SV:=l.take off++cs++l.drop (off+cs.length)
def sd (t:Ty) (hp:Hp) (cs:List SV):(m j:Nat)->(i:Nat)->List t.T->Option (List t.T)
 |0,_,_,xs=>some xs
 |m+1,j,i,xs=>match pack hp t ((cs.drop (j*t.size)).take t.size) with
  |some x=>sd t hp cs m (j+1) i (xs.set (j+i) x)
  |none=>none
def storeCells (hp:Hp) (cs:List SV):SV->OT (List (Nat×Ch))
 |.ptr c e i off=>match eu hp c e with
  |some (.cells vs)=>if i=0/\off+cs.length<=vs.length/\cs.all SV.one=true then .ok [(c,⟨e,.cells (wM vs off cs)⟩)] else .fail
  |some (.row t xs)=>
   if off+cs.length<=t.size then
    .guard (decide (i<xs.length)) (match pack hp t (wM (unpack t (xs.getD i t.d)) off cs) with
     |some y=>.ok [(c,⟨e,.row t (xs.set i y)⟩)]
     |none=>.fail)
   else if off=0/\cs.length/t.size*t.size=cs.length then
    .guard (decide (cs.length/t.size+i<=xs.length)) (match sd t hp cs (cs.length/t.size) 0 i xs with
     |some ys=>.ok [(c,⟨e,.row t ys⟩)]
     |none=>.fail)
   else .fail
  |_=>.fail
 |_=>.fail
def ap3:Hp:=λ_=>none
def newVar (te:TE) (hp:Hp) (d:Nat) (T:TypeId) (cs:List SV):OT Eff:=
 match te T with
 |none=>.fail
 |some ti=>
  if cs.length≠ti.size then .fail else
  let n:=fresh hp d
  if (hp n).isSome then .fail else
  let plain:OT Eff:=if cs.all SV.one then .ok ⟨.ptr n 0 0 0,[(n,⟨0,.cells cs⟩)]⟩ else .fail
  match ti.desc with
  |.array m e=>match te e with
   |some ⟨_,_,_,_,some t⟩=>
    if m*t.size=cs.length/\0<t.size then
     match (List.range m).mapM λi=>pack ap3 t ((cs.drop (i*t.size)).take t.size) with
     |some xs=>.ok ⟨.ptr n 0 0 0,[(n,⟨0,.row t xs⟩)]⟩
     |none=>plain
    else plain
   |_=>plain
  |_=>plain
def fieldAt (fs:List (Nat×TypeId)) (te:TE) (f:Nat):Option (Nat×TI):=
 match fs[f]? with
 |some (o,T)=>(te T).map λti=>(o,ti)
 |none=>none
def Gu (x:SV) (o:Nat):OT SV:=
 match x with
 |.ptr c e i off=>.ok (.ptr c e i (off+o))
 |.ahr t xs i off=>.ok (.ahr t xs i (off+o))
 |_=>.fail
def fg (hp:Hp) (c e:Nat):Option Nat:=
 match eu hp c e with
 |some (.row _ xs)=>some xs.length
 |some (.frz _ xs)=>some xs.length
 |_=>none
def dU (hp:Hp) (c e:Nat):Option Nat:=
 match eu hp c e with
 |some (.row t _)=>some t.size
 |some (.frz t _)=>some t.size
 |_=>none
def inB (k:Int) (n:Nat):Bool:=decide (0<=k)&&decide (k<(n:Int))
def indexAddr (te:TE) (hp:Hp) (T:TypeId) (x:SV) (k:Int):OT SV:=
 match te T with
 |none=>.fail
 |some ti=>
  match ti.desc with
  |.array n e=>match te e with
   |none=>.fail
   |some ei=>match x with
    |.ptr c ep i off=>
     if off=0/\dU hp c ep=some ei.size then .guard (inB k n) (.ok (.ptr c ep (k.toNat+i) 0))
     else if (eu hp c ep).isSome then .guard (inB k n) (.ok (.ptr c ep i (off+k.toNat*ei.size))) else .fail
    |.ahr t xs i off=>.guard (inB k n) (.ok (.ahr t xs i (off+k.toNat*ei.size)))
    |_=>.fail
  |.slice e=>match te e with
   |none=>.fail
   |some ei=>match x with
    |.own c ep|.clip c ep=>match fg hp c ep with
     |some n=>if dU hp c ep=some ei.size then .guard (inB k n) (.ok (.ptr c ep k.toNat 0)) else .fail
     |none=>.fail
    |.part c ep off len=>if dU hp c ep=some ei.size then .guard (inB k len) (.ok (.ptr c ep (k.toNat+off) 0)) else .fail
    |.lst t xs=>if t.size=ei.size then .guard (inB k xs.length) (.ok (.ahr t xs k.toNat 0)) else .fail
    |_=>.fail
  |_=>.fail
def SV.aFi:SV->Option UInt64
 |.u64 x=>some x
 |_=>none
def SV.toInt:SV->Option Int
 |.int x=>some x
 |_=>none
def SV.aHZ:SV->Option UInt8
 |.u8 x=>some x
 |_=>none
def SV.aFj:SV->Option (List UInt8)
 |.str x=>some x
 |_=>none
def Rj (te:TE) (T:TypeId) (x:SV) (k:Int):OT SV:=
 match te T,x with
 |some ⟨_,_,.array n e,_,_⟩,.agg l=>match te e with
  |some ei=>if l.length≠n*ei.size then .fail else
   match ei.desc with
   |.int .u64=>match l.mapM SV.aFi with
    |some xs=>.guard (inB k n) (.ok (.u64 (xs.getD k.toNat 0)))
    |none=>.fail
   |.int .i64=>match l.mapM SV.toInt with
    |some xs=>.guard (inB k n) (.ok (.int (xs.getD k.toNat 0)))
    |none=>.fail
   |.int .u8=>match l.mapM SV.aHZ with
    |some xs=>.guard (inB k n) (.ok (.u8 (xs.getD k.toNat 0)))
    |none=>.fail
   |.str=>match l.mapM SV.aFj with
    |some xs=>.guard (inB k n) (.ok (.str (xs.getD k.toNat [])))
    |none=>.fail
   |d=>.guard (inB k n) (.ok (rG d.agg ((l.drop (k.toNat*ei.size)).take ei.size)))
  |none=>.fail
 |some ⟨_,_,.str,_,_⟩,.str s=>.guard (inB k s.length) (.ok (.u8 (s.getD k.toNat 0)))
 |_,_=>.fail
def fill (cs:List SV):List (Option Nat×Nat×SV)->Option (List SV)
 | []=>some cs
 |(some off,size,v)::rest=>match v.cells with
  |some l=>if l.length=size/\off+size<=cs.length then fill (wM cs off l) rest else none
  |none=>none
 |(none,_,_)::_=>none
def build (te:TE) (T:TypeId) (parts:List (Nat×SV)):OT SV:=
 match te T with
 |none=>.fail
 |some ti=>
  match ti.desc with
  |.struct fs=>match fill ti.zero (parts.map λp=>match fieldAt fs te p.1 with|some (o,fi)=>(some o,fi.size,p.2)|none=>(none,0,p.2)) with
   |some cs=>.ok (.agg cs)
   |none=>.fail
  |.array n e=>match te e with
   |some ei=>match fill ti.zero (parts.map λp=>(if p.1<n then some (p.1*ei.size) else none,ei.size,p.2)) with
    |some cs=>.ok (.agg cs)
    |none=>.fail
   |none=>.fail
  |_=>.fail
def buildSlice (te:TE) (hp:Hp) (d:Nat) (T:TypeId) (len:Nat) (parts:List (Nat×SV)):OT Eff:=
 match te T with
 |some ⟨_,_,.slice e,_,_⟩=>match te e with
  |some ⟨size,_,_,zero,some t⟩=>
   let n:=fresh hp d
   if (hp n).isSome\/t.size≠size\/size=0\/len*size>16777216 then .fail else
   match fill ((List.range len).flatMap λ_=>zero) (parts.map λp=>(if p.1<len then some (p.1*size) else none,size,p.2)) with
   |some cs=>match (List.range len).mapM λi=>pack hp t ((cs.drop (i*t.size)).take t.size) with
    |some xs=>.ok ⟨.own n 0,[(n,⟨0,.row t xs⟩)]⟩
    |none=>.fail
   |none=>.fail
  |_=>.fail
 |_=>.fail
def makeSlice (te:TE) (hp:Hp) (d:Nat) (T:TypeId) (l c:Int):OT Eff:=
 match te T with
 |some ⟨_,_,.slice e,_,_⟩=>match te e with
  |some ⟨size,bytes,_,_,some t⟩=>
   let n:=fresh hp d
   if (hp n).isSome\/t.size≠size\/size=0 then .fail else
   .guard (decide (0<=l)&&decide (l<=c)&&decide (c*bytes<=140737488355328)&&decide (c<=140737488355328)) (.ok ⟨.own n 0,[(n,⟨0,.row t (List.replicate l.toNat t.d)⟩)]⟩)
  |_=>.fail
 |_=>.fail
def apU (d:Int):Option SV->Option Int
 |none=>some d
 |some (.int k)=>some k
 |_=>none
theorem OT.az9 {α:Type} {b:Bool} {x y:OT α} {a:α} (h:(OT.br b x y).run=some a):(b=true/\x.run=some a)\/(b=false/\y.run=some a):=by
 cases b
 ·exact .inr ⟨rfl,h⟩
 ·exact .inl ⟨rfl,h⟩
theorem OT.aFx {α:Type} {x y:OT α}:(OT.br true x y).run=x.run:=rfl
theorem OT.aFy {α:Type} {x y:OT α}:(OT.br false x y).run=y.run:=rfl
def IL:Option SV->Option SV->Option SV->Bool
 |none,some (.int m),some (.int h)=>decide (m=0)&&decide (h=0)
 |_,_,_=>false
theorem aa8 {lo mx hi:Option SV} (h:IL lo mx hi=true):lo=none/\mx=some (.int 0)/\hi=some (.int 0):=by
 unfold IL at h
 grind
def cm (l h:Int) (n:Nat):Bool:=decide (0<=l)&&decide (l<=h)&&decide (h<=(n:Int))
def xO (hp:Hp) (size:Nat) (c ep off len:Nat) (lo hi:Option SV):OT SV:=
 if dU hp c ep=some size then
  match apU 0 lo,apU (len:Int) hi with
  |some l,some h=>.guard (cm l h len) (.ok (.part c ep (l.toNat+off) (h-l).toNat))
  |_,_=>.fail
 else .fail
def px (te:TE) (hp:Hp) (T:TypeId) (x:SV) (lo hi mx:Option SV):OT SV:=
 match te T with
 |none=>.fail
 |some ti=>
  match ti.desc with
  |.array n e=>match te e,x,mx with
   |some ei,.ptr c ep i off,none=>
    if off=0/\i=0/\dU hp c ep=some ei.size then
     match fg hp c ep with
     |some m=>match lo,hi with
      |none,none=>.guard (decide (m=n)) (.ok (.own c ep))
      |lo,hi=>match apU 0 lo,apU (n:Int) hi with
       |some l,some h=>.guard (decide (n<=m)&&cm l h n) (.ok (.part c ep l.toNat (h-l).toNat))
       |_,_=>.fail
     |none=>.fail
    else .fail
   |_,_,_=>.fail
  |.slice e=>match te e with
   |none=>.fail
   |some ei=>
    .br (IL lo mx hi) (match x with
     |.own c ep|.clip c ep|.part c ep _ _=>if (fg hp c ep).isSome then .ok .emp else .fail
     |.lst .. |.emp=>.ok .emp
     |_=>.fail)
    (match mx,x with
     |none,.own c ep=>match fg hp c ep with
      |some m=>xO hp ei.size c ep 0 m lo hi
      |none=>.fail
     |none,.part c ep off len=>xO hp ei.size c ep off len lo hi
     |none,.lst t xs=>if t.size=ei.size then
      match apU 0 lo,hi with
      |some l,none=>.guard (cm l xs.length xs.length) (.ok (.lst t (xs.drop l.toNat)))
      |some l,some (.int h)=>.guard (cm l h xs.length) (.ok (.lst t ((xs.take h.toNat).drop l.toNat)))
      |_,_=>.fail
      else .fail
     |some (.int m),.own c ep=>match lo,hi,fg hp c ep with
      |none,some (.int h),some n=>if dU hp c ep=some ei.size then
       .br (decide (h=(n:Int))&&decide (m=(n:Int))) (.ok (.clip c ep)) (.guard (decide (0<=h)&&decide (h<=m)&&decide (m<=(n:Int))) (.ok (.part c ep 0 h.toNat)))
       else .fail
      |_,_,_=>.fail
     |_,_=>.fail)
  |.str=>match x,mx with
   |.str s,none=>match apU 0 lo,apU (s.length:Int) hi with
    |some l,some h=>.guard (cm l h s.length) (.ok (.str ((s.take h.toNat).drop l.toNat)))
    |_,_=>.fail
   |_,_=>.fail
  |_=>.fail
def wo (te:TE) (hp:Hp) (T:TypeId) (x:SV):OT SV:=
 match te T with
 |some ⟨_,_,.array n e,_,_⟩=>match te e with
  |none=>.fail
  |some ei=>if n=0 then .fail else match x with
   |.own c ep=>if dU hp c ep=some ei.size then
    match fg hp c ep with
    |some m=>.guard (decide (n<=m)) (.ok (.ptr c ep 0 0))
    |none=>.fail
    else .fail
   |.part c ep off len=>if dU hp c ep=some ei.size then .guard (decide (n<=len)) (.ok (.ptr c ep off 0)) else .fail
   |.lst t xs=>if t.size=ei.size/\t.size≠0 then .guard (decide (n<=xs.length)) (.ok (.aEM t xs)) else .fail
   |_=>.fail
 |_=>.fail
def abb (te:TE) (T:TypeId) (x:SV):OT SV:=
 match te T with
 |some ⟨_,_,.slice _,_,_⟩=>match x with
  |.lst _ xs=>.br xs.isEmpty (.ok .azw) (.ok (.bool false))
  |.emp=>.ok .azw
  |_=>.fail
 |_=>.fail
def bytesOf (te:TE) (src dst:TypeId) (x:SV):Option (List UInt8):=
 match te dst with
 |some ⟨_,_,.slice e,_,_⟩=>match te e with
  |some ⟨_,_,.int .u8,_,_⟩=>match x with
   |.str s=>if (te src).isSome then some s else none
   |_=>none
  |_=>none
 |_=>none
def ij (te:TE) (hp:Hp) (src dst:TypeId) (x:SV):Option (Nat×Nat×List UInt8):=
 if Nat.beq src dst=true then
  match te dst with
  |some ⟨_,_,.slice e,_,_⟩=>match te e with
   |some ⟨_,_,.int .u8,_,_⟩=>match x with
    |.own c ep=>match eu hp c ep with
     |some (.row .u8 (y::ys))=>some (c,ep,y::ys)
     |_=>none
    |_=>none
   |_=>none
  |_=>none
 else none
def NP:Operand->Bool
 |.const (.slice none _ _)=>true
 |_=>false
def Mn (te:TE) (hp:Hp) (T:TypeId) (x:SV):OT SV:=
 match te T with
 |none=>.fail
 |some ti=>
  match ti.desc,x with
  |.slice _,.own c e|.slice _,.clip c e=>match fg hp c e with
   |some n=>.ok (.int n)
   |none=>.fail
  |.slice _,.part c e _ len=>match fg hp c e with
   |some _=>.ok (.int len)
   |none=>.fail
  |.slice _,.emp=>.ok (.int 0)
  |.slice _,.lst _ xs=>.ok (.int xs.length)
  |.str,.str s=>.ok (.int s.length)
  |_,_=>.fail
def wq (te:TE) (hp:Hp) (d:Nat) (T:TypeId) (s x:SV):OT Eff:=
 match te T with
 |some ⟨_,_,.slice e,_,_⟩=>match te e with
  |some ⟨size,bytes,_,_,some t⟩=>
   if t.size≠size\/size=0\/bytes=0 then .fail else
   match (match x with
    |.str b=>cd t .u8 b
    |_=>xa t hp x) with
   |some ys=>match s with
    |.own c ep=>match eu hp c ep with
     |some (.row t' xs)=>match cd t t' xs with
      |some xs=>.guard (decide ((xs.length+ys.length)*bytes<=140737488355328)) (.ok ⟨.own c (ep+1),[(c,⟨ep+1,.row t (xs++ys)⟩)]⟩)
      |none=>.fail
     |_=>.fail
    |.clip c ep=>match eu hp c ep with
     |some (.row t' xs)=>match cd t t' xs with
      |some xs=>
       let n:=fresh hp d
       if (hp n).isSome then .fail else
       .guard (decide ((xs.length+ys.length)*bytes<=140737488355328)&&decide (0<ys.length)) (.ok ⟨.own n 0,[(n,⟨0,.row t (xs++ys)⟩)]⟩)
      |none=>.fail
     |_=>.fail
    |.emp=>
     let n:=fresh hp d
     if (hp n).isSome then .fail else
     .guard (decide (ys.length*bytes<=140737488355328)) (.ok ⟨.own n 0,[(n,⟨0,.row t ys⟩)]⟩)
    |_=>.fail
   |none=>.fail
  |_=>.fail
 |_=>.fail
def Oq (te:TE) (hp:Hp) (T:TypeId) (x y:SV):OT Eff:=
 match te T with
 |some ⟨_,_,.slice e,_,_⟩=>match te e with
  |some ⟨size,_,_,_,some t⟩=>
   if t.size≠size\/size=0 then .fail else
   match (match y with
    |.str b=>cd t .u8 b
    |_=>xa t hp y) with
   |some ys=>match x with
    |.own c ep=>match eu hp c ep with
     |some (.row t' xs)=>match cd t t' xs with
      |some xs=>.ok ⟨.int (min ys.length xs.length:Nat),[(c,⟨ep,.row t (ys.take xs.length++xs.drop ys.length)⟩)]⟩
      |none=>.fail
     |_=>.fail
    |.part c ep off len=>match eu hp c ep with
     |some (.row t' xs)=>match cd t t' xs with
      |some xs=>.ok ⟨.int (min ys.length len:Nat),[(c,⟨ep,.row t (xs.take off++(ys.take len++xs.drop (off+min ys.length len)))⟩)]⟩
      |none=>.fail
     |_=>.fail
    |_=>.fail
   |none=>.fail
  |_=>.fail
 |_=>.fail
def cC (x:UInt64) (n:Int):UInt64:=if n<64 then x<<<(UInt64.ofNat n.toNat) else 0
def bC (x:UInt64) (n:Int):UInt64:=if n<64 then x>>>(UInt64.ofNat n.toNat) else 0
def w64 (n:Int):Int:=IntKind.i64.wrap n
def aIh (a b:Int):Int:=w64 (BitVec.ofInt 64 a&&&BitVec.ofInt 64 b).toNat
def ior (a b:Int):Int:=w64 (BitVec.ofInt 64 a|||BitVec.ofInt 64 b).toNat
def ay (a b:Int):Int:=w64 (BitVec.ofInt 64 a^^^BitVec.ofInt 64 b).toNat
def VM (a n:Int):Int:=w64 (a*2^(min n.toNat 64))
def aFW (a n:Int):Int:=a.fdiv (2^(min n.toNat 64))
def i2u (n:Int):UInt64:=UInt64.ofNat (n%18446744073709551616).toNat
def i2b (n:Int):UInt8:=UInt8.ofNat (n%256).toNat
def u2i (x:UInt64):Int:=w64 (x.toNat:Int)
def as9:SV->SV->Option Bool
 |.u64 a,.u64 b=>some (a==b)
 |.u8 a,.u8 b=>some (a==b)
 |.int a,.int b=>some (a==b)
 |.str a,.str b=>some (a==b)
 |_,_=>none
def ahI (d:TD) (x y:SV):Option Bool:=
 match d,x,y with
 |.bool,.bool a,.bool b=>some (a==b)
 |.int _,.u64 a,.u64 b=>some (a==b)
 |.int _,.u8 a,.u8 b=>some (a==b)
 |.int _,.int a,.int b=>some (a==b)
 |.str,.str a,.str b=>some (a==b)
 |_,_,_=>none
def aG0:Option Bool->Option Bool->Option Bool
 |some a,some b=>some (a&&b)
 |_,_=>none
def amH (d:TD):List SV->List SV->Option Bool
 | [x],[y]=>ahI d x y
 |_,_=>none
def sub (l:List SV) (o n:Nat):List SV:=(l.drop o).take n
def aHD (go:TypeId->List SV->List SV->Option Bool) (te:TE) (l r:List SV):List (Nat×TypeId)->Option Bool
 | []=>some true
 |(o,T)::fs=>match te T with
  |some fi=>if o+fi.size<=l.length/\o+fi.size<=r.length then aG0 (go T (sub l o fi.size) (sub r o fi.size)) (aHD go te l r fs) else none
  |none=>none
def aEd (go:List SV->List SV->Option Bool) (s:Nat) (l r:List SV):(m i:Nat)->Option Bool
 |0,_=>some true
 |m+1,i=>if i*s+s<=l.length/\i*s+s<=r.length then aG0 (go (sub l (i*s) s) (sub r (i*s) s)) (aEd go s l r m (i+1)) else none
def ayF (te:TE):Nat->TypeId->List SV->List SV->Option Bool
 |0,_,_,_=>none
 |n+1,T,l,r=>match te T with
  |some ti=>match ti.desc with
   |.struct fs=>aHD (ayF te n) te l r fs
   |.array m e=>match te e with
    |some ei=>aEd (ayF te n e) ei.size l r m 0
    |none=>none
   |d=>amH d l r
  |none=>none
def aE5 (te:TE) (T:TypeId) (x y:SV):Option Bool:=
 match te T with
 |none=>none
 |some ti=>
  match ti.desc,x,y with
  |.struct _,.agg l,.agg r|.array ..,.agg l,.agg r=>if ti.ty.isSome then ayF te 20 T l r else none
  |.ptr _,.ptr ..,.rK=>some false
  |.ptr _,.ahr ..,.rK=>some false
  |.ptr _,.rK,.ptr .. =>some false
  |.ptr _,.rK,.rK=>some true
  |.iface,.fD,.iface .. =>some false
  |.iface,.iface ..,.fD=>some false
  |.bool,.bool a,.bool b=>some (a==b)
  |_,x,y=>as9 x y
def ah6 (te:TE) (T:TypeId) (op:BinOp) (x y:SV):OT SV:=
 match op,x,y with
 |.shl,.u64 a,.int n=>.guard (decide (0<=n)) (.ok (.u64 (cC a n)))
 |.shr,.u64 a,.int n=>.guard (decide (0<=n)) (.ok (.u64 (bC a n)))
 |.shl,.u64 a,.u64 n=>.ok (.u64 (cC a n.toNat))
 |.shr,.u64 a,.u64 n=>.ok (.u64 (bC a n.toNat))
 |.shl,.int a,.int n=>.guard (decide (0<=n)) (.ok (.int (VM a n)))
 |.shr,.int a,.int n=>.guard (decide (0<=n)) (.ok (.int (aFW a n)))
 |.shl,.int a,.u64 n=>.ok (.int (VM a n.toNat))
 |.shr,.int a,.u64 n=>.ok (.int (aFW a n.toNat))
 |.add,.u64 a,.u64 b=>.ok (.u64 (a+b))
 |.sub,.u64 a,.u64 b=>.ok (.u64 (a-b))
 |.mul,.u64 a,.u64 b=>.ok (.u64 (a*b))
 |.quo,.u64 a,.u64 b=>.guard (!(b==0)) (.ok (.u64 (a/b)))
 |.rem,.u64 a,.u64 b=>.guard (!(b==0)) (.ok (.u64 (a%b)))
 |.and,.u64 a,.u64 b=>.ok (.u64 (a&&&b))
 |.or,.u64 a,.u64 b=>.ok (.u64 (a|||b))
 |.xor,.u64 a,.u64 b=>.ok (.u64 (a^^^b))
 |.lss,.u64 a,.u64 b=>.ok (.bool (decide (a<b)))
 |.leq,.u64 a,.u64 b=>.ok (.bool (decide (a<=b)))
 |.gtr,.u64 a,.u64 b=>.ok (.bool (decide (b<a)))
 |.geq,.u64 a,.u64 b=>.ok (.bool (decide (b<=a)))
 |.add,.u8 a,.u8 b=>.ok (.u8 (a+b))
 |.sub,.u8 a,.u8 b=>.ok (.u8 (a-b))
 |.and,.u8 a,.u8 b=>.ok (.u8 (a&&&b))
 |.or,.u8 a,.u8 b=>.ok (.u8 (a|||b))
 |.xor,.u8 a,.u8 b=>.ok (.u8 (a^^^b))
 |.shr,.u8 a,.int n=>.guard (decide (0<=n)&&decide (n<8)) (.ok (.u8 (a>>>(UInt8.ofNat n.toNat))))
 |.shl,.u8 a,.int n=>.guard (decide (0<=n)&&decide (n<8)) (.ok (.u8 (a<<<(UInt8.ofNat n.toNat))))
 |.shr,.u8 a,.u64 n=>.guard (decide (n.toNat<8)) (.ok (.u8 (a>>>(UInt8.ofNat n.toNat))))
 |.shl,.u8 a,.u64 n=>.guard (decide (n.toNat<8)) (.ok (.u8 (a<<<(UInt8.ofNat n.toNat))))
 |.lss,.u8 a,.u8 b=>.ok (.bool (decide (a<b)))
 |.leq,.u8 a,.u8 b=>.ok (.bool (decide (a<=b)))
 |.gtr,.u8 a,.u8 b=>.ok (.bool (decide (b<a)))
 |.geq,.u8 a,.u8 b=>.ok (.bool (decide (b<=a)))
 |.add,.int a,.int b=>.guard (inR (a+b)) (.ok (.int (a+b)))
 |.sub,.int a,.int b=>.guard (inR (a-b)) (.ok (.int (a-b)))
 |.mul,.int a,.int b=>.guard (inR (a*b)) (.ok (.int (a*b)))
 |.quo,.int a,.int b=>.guard (!(b==0)&&inR (a.tdiv b)) (.ok (.int (a.tdiv b)))
 |.rem,.int a,.int b=>.guard (!(b==0)) (.ok (.int (a.tmod b)))
 |.and,.int a,.int b=>.ok (.int (aIh a b))
 |.or,.int a,.int b=>.ok (.int (ior a b))
 |.xor,.int a,.int b=>.ok (.int (ay a b))
 |.lss,.int a,.int b=>.ok (.bool (decide (a<b)))
 |.leq,.int a,.int b=>.ok (.bool (decide (a<=b)))
 |.gtr,.int a,.int b=>.ok (.bool (decide (b<a)))
 |.geq,.int a,.int b=>.ok (.bool (decide (b<=a)))
 |.eql,x,y=>match aE5 te T x y with
  |some b=>.ok (.bool b)
  |none=>.fail
 |.neq,x,y=>match aE5 te T x y with
  |some b=>.ok (.bool (!b))
  |none=>.fail
 |_,_,_=>.fail
def aCl (op:UnOp) (x:SV):OT SV:=
 match op,x with
 |.neg,.int a=>.guard (inR (0-a)) (.ok (.int (0-a)))
 |.neg,.u64 a=>.ok (.u64 (0-a))
 |.xor,.u64 a=>.ok (.u64 (~~~a))
 |.xor,.u8 a=>.ok (.u8 (~~~a))
 |.not,.bool b=>.ok (.bool (!b))
 |_,_=>.fail
def GY (te:TE) (src dst:TypeId) (x:SV):OT SV:=
 match te src,te dst with
 |none,_=>.fail
 |_,none=>.fail
 |some _,some ti=>
  match ti.desc,x with
  |.int .u64,.u64 a=>.ok (.u64 a)
  |.int .u64,.u8 a=>.ok (.u64 a.toUInt64)
  |.int .u64,.int n=>.ok (.u64 (i2u n))
  |.int .u8,.u64 a=>.ok (.u8 a.toUInt8)
  |.int .u8,.u8 a=>.ok (.u8 a)
  |.int .u8,.int n=>.ok (.u8 (i2b n))
  |.int .i64,.u64 a=>.ok (.int (u2i a))
  |.int .i64,.u8 a=>.ok (.int (a.toNat:Int))
  |.int .i64,.int n=>.ok (.int n)
  |_,_=>.fail
end Sx
end
section
namespace Sx
open Go
structure bx where
 mod:Bool
 f:Nat->List SV->Hp->OT Out
abbrev Env:=FuncId->Option bx
def Ff:Value->SV
 |.bool b=>.bool b
 |.int .u64 n=>if 0<=n/\n<18446744073709551616 then .u64 (UInt64.ofNat n.toNat) else .gu
 |.int .u8 n=>if 0<=n/\n<256 then .u8 (UInt8.ofNat n.toNat) else .gu
 |.int .i64 n=>if inR n then .int n else .gu
 |.string s=>if s.size<=cL then .str s.data.toList else .gu
 |.pointer none=>.rK
 |.slice none 0 0=>.emp
 |.nilIface=>.fD
 |_=>.gu
def aDo:Value->SV
 |.agg cs=>if cs.toList.all Value.oneCell' then .agg (cs.toList.map Ff) else .gu
 |v=>Ff v
def St.eval (st:St):Operand->SV
 |.tmp t=>st.tm.getD t .gu
 |.const v=>aDo v
 |.global _=>.gu
 |.func f=>.fn (.func f) [] []
def jc (x:OT SV):OT Out:=x.map λv=>.ret ⟨v,[]⟩
def eff (x:OT Eff):OT Out:=x.map .ret
def atg (Φ:Env) (hp:Hp) (d:Nat) (f:SV) (args:List SV):OT Out:=
 match f with
 |.fn (.func f) first caps=>match Φ f with
  |some s=>s.f d (first++args++caps) hp
  |none=>.fail
 |_=>.fail
def ags:List (String×FuncId)->String->Option FuncId
 | [],_=>none
 |(n,f)::r,name=>cond (n==name) (some f) (ags r name)
def aqu (te:TE) (t:TypeId) (name:String):Option FuncId:=match te t with
 |some ⟨_,_,.ptr ms,_,_⟩=>ags ms name
 |_=>none
def Ss (te:TE) (Φ:Env) (hp:Hp) (d:Nat) (recv:SV) (name:String) (args:List SV):OT Out:=
 match recv with
 |.iface t v=>match aqu te t name with
  |some f=>match Φ f with
   |some s=>s.f d (v::args) hp
   |none=>.fail
  |none=>.fail
 |_=>.fail
def AK (te:TE) (T:TypeId):Bool:=
 match te T with
 |some ⟨_,_,.slice _,_,_⟩=>true
 |some ⟨_,_,.str,_,_⟩=>true
 |_=>false
def idxOf:SV->Option Int
 |.int i=>some i
 |.u8 b=>some (b.toNat:Int)
 |.u64 b=>some (b.toNat:Int)
 |_=>none
def L9 (te:TE) (Φ:Env) (hp:Hp) (d:Nat) (ρ:Operand->SV):Op->OT Out
 |.move x=>jc (.ok (ρ x))
 |.assign x=>jc (.ok (ρ x))
 |.pick c a b=>match ρ c with
  |.bool t=>jc (.br t (.ok (ρ a)) (.ok (ρ b)))
  |_=>.fail
 |.alloc T=>match te T with
  |some ti=>eff (newVar te hp d T ti.zero)
  |none=>.fail
 |.box T x=>match (ρ x).cells with
  |some l=>eff (newVar te hp d T l)
  |none=>.fail
 |.build T parts=>jc (build te T (parts.toList.map λp=>(p.1,ρ p.2)))
 |.buildSlice T len parts=>eff (buildSlice te hp d T len (parts.toList.map λp=>(p.1,ρ p.2)))
 |.load T a=>match te T with
  |some ti=>jc ((loadCells hp ti.size (ρ a)).map λcs=>rG ti.desc.agg cs)
  |none=>.fail
 |.store T a x=>match te T with
  |some ti=>match (ρ x).cells with
   |some l=>if l.length=ti.size then (storeCells hp l (ρ a)).map λu=>.ret ⟨.undef,u⟩ else .fail
   |none=>.fail
  |none=>.fail
 |.nilCheck x=>match ρ x with
  |.ptr c e i off=>jc (.ok (.ptr c e i off))
  |.ahr t xs i off=>jc (.ok (.ahr t xs i off))
  |.iface t v=>jc (.ok (.iface t v))
  |_=>.fail
 |.binOp op T x y _=>match op,NP y with
  |.eql,true=>jc (abb te T (ρ x))
  |op,_=>jc (ah6 te T op (ρ x) (ρ y))
 |.sliceToArrayPointer T x=>jc (wo te hp T (ρ x))
 |.unOp op _ x=>jc (aCl op (ρ x))
 |.convert src dst x=>match bytesOf te src dst (ρ x) with
  |some s=>jc (.ok (.lst .u8 s))
  |none=>match ij te hp src dst (ρ x) with
   |some (c,e,s)=>eff (.ok ⟨.lst .u8 s,[(c,⟨e+1,.row .u8 []⟩)]⟩)
   |none=>jc (GY te src dst (ρ x))
 |.slice T x lo hi mx=>jc (px te hp T (ρ x) (lo.map ρ) (hi.map ρ) (mx.map ρ))
 |.fieldAddr S x f=>match te S with
  |some ⟨_,_,.struct fs,_,_⟩=>match fieldAt fs te f with
   |some (o,fi)=>if fi.size=0 then .fail else jc (Gu (ρ x) o)
   |none=>.fail
  |_=>.fail
 |.field S x f=>match te S,ρ x with
  |some ⟨_,_,.struct fs,_,_⟩,.agg l=>match fieldAt fs te f with
   |some (o,fi)=>if o+fi.size<=l.length then jc (.ok (rG fi.desc.agg ((l.drop o).take fi.size))) else .fail
   |none=>.fail
  |_,_=>.fail
 |.indexAddr T x k=>match idxOf (ρ k) with
  |some i=>jc (indexAddr te hp T (ρ x) i)
  |none=>.fail
 |.index T x k=>match idxOf (ρ k) with
  |some i=>jc (Rj te T (ρ x) i)
  |none=>.fail
 |.panic x=>match ρ x with
  |.iface t v=>.ok (.pan (.iface t v) [])
  |_=>.fail
 |.extract t i=>match ρ t with
  |.tup l=>match l[i]? with
   |some v=>jc (.ok v)
   |none=>.fail
  |_=>.fail
 |.makeSlice T l c=>match ρ l,ρ c with
  |.int l,.int c=>eff (makeSlice te hp d T l c)
  |_,_=>.fail
 |.makeFunc f first caps=>jc (.ok (.fn f (first.toList.map ρ) (caps.toList.map ρ)))
 |.makeInterface T x=>match te T with
  |some ti=>match ti.desc with
   |.iface=>.fail
   |.other=>.fail
   |_=>jc (.ok (.iface T (ρ x)))
  |none=>.fail
 |.call c=>match c.callee with
  |.value f=>atg Φ hp d (ρ f) (c.args.toList.map ρ)
  |.invoke recv name=>Ss te Φ hp d (ρ recv) name (c.args.toList.map ρ)
  |.builtin .len=>match c.args.toList,c.argTypes.toList with
   | [x],T::_=>jc (Mn te hp T (ρ x))
   |_,_=>.fail
  |.builtin .append=>match c.args.toList,c.argTypes.toList with
   | [s,x],[T,T']=>if AK te T' then eff (wq te hp d T (ρ s) (ρ x)) else .fail
   |_,_=>.fail
  |.builtin .copy=>match c.args.toList,c.argTypes.toList with
   | [x,y],[T,_]=>eff (Oq te hp T (ρ x) (ρ y))
   |_,_=>.fail
  |.builtin .max=>match c.args.toList with
   | [x,y]=>match ρ x,ρ y with
    |.int a,.int b=>jc (.ok (.int (if b>a then b else a)))
    |_,_=>.fail
   |_=>.fail
  |_=>.fail
 |_=>.fail
def fE (Φ:Env):Op->Nat
 |.load .. =>1
 |.indexAddr .. =>1
 |.slice .. =>1
 |.sliceToArrayPointer .. =>1
 |.buildSlice .. =>1
 |.store .. =>2
 |.convert src dst _=>cond (Nat.beq src dst) 2 0
 |.box .. =>1
 |.call c=>match c.callee with
  |.value (.func f)=>match Φ f with
   |some s=>if s.mod then 2 else 1
   |none=>2
  |.builtin .len=>1
  |.builtin .max=>0
  |_=>2
 |_=>0
def C7 (st:St) (dst:Option Tmp) (v:SV):List SV:=
 match dst with
 |some d=>st.tm.set d v
 |none=>st.tm
def cO (hp:Hp):List (Nat×Ch)->Hp
 | []=>hp
 |(c,ch)::r=>cO (λn=>if n=c then some ch else hp n) r
def St.put (st:St) (dst:Option Tmp) (e:Eff):St:=⟨C7 st dst e.v,cO st.hp e.upd⟩
def guarded (ops:List Oper) (tm:List SV) (o:Oper):Option Bool:=
 match o.guard with
 |none=>some true
 |some (j,want)=>match (ops[j]?).bind (·.dst) with
  |some d=>match tm.getD d .gu with
   |.bool b=>some (b==want)
   |.undef=>some false
   |_=>none
  |none=>none
inductive SE where
 |normal|ret|exit (id:Nat)|pan (v:SV)
 deriving Inhabited
def io (te:TE) (Φ:Env) (ops:List Oper) (K:SE->St->Prop):List Oper->St->Prop
 | [],st=>K .normal st
 |o::r,st=>
  match guarded ops st.tm o with
  |none=>False
  |some b=>cond b
   ((L9 te Φ st.hp (o.dst.getD 100000) st.eval o.op).wp λx=>
     match x with
     |.ret e=>io te Φ ops K r (st.put o.dst e)
     |.pan v u=>K (.pan v) ⟨st.tm,cO st.hp u⟩)
   (io te Φ ops K r (st.put o.dst ⟨.undef,[]⟩))
def bitsOf (ops:Array Oper):Array Nat:=Region.before ops
def fC (i:Nat) (o:Oper):Nat:=o.dst.getD (100000+i)
def cZ (bs:Array Nat) (i k:Nat):Bool:=Nat.blt k i&&(bs.getD i 0).testBit k
abbrev mg:=List (Nat×Oper×Eff)
def bg (st:St) (D:Nat->Bool):mg->St
 | []=>st
 |x::r=>cond (D x.1) ((bg st D r).put x.2.1.dst x.2.2) (bg st D r)
def V0 (d n:Nat):Bool:=Nat.beq (n/4096) (d+1)
def ZJ (Φ:Env) (bs:Array Nat) (ops:List Oper) (st:St) (i:Nat) (o:Oper) (done:mg) (u:List (Nat×Ch)):Bool:=
 u.isEmpty||((List.range ops.length).all (λk=>Nat.beq k i|| !Nat.beq (fC k (ops.getD k default)) (fC i o))&&
  u.all λx=>(V0 (fC i o) x.1&&(st.hp x.1).isNone)||
   (Nat.beq (fE Φ o.op) 2&&((st.hp x.1).isSome||done.any λy=>cZ bs i y.1&&V0 (fC y.1 y.2.1) x.1&& !y.2.2.upd.isEmpty)))
abbrev Hid:=List (Nat×Nat)×List (List Nat)
def hid (H:Hid) (i:Nat):List Nat:=H.1.flatMap λp=>cond (Nat.beq p.1 i) (H.2.getD p.2 []) (cond (Nat.beq p.2 i) (H.2.getD p.1 []) [])
def lV (H:Hid) (i:Nat):Bool:=H.1.any λp=>Nat.beq p.1 i||Nat.beq p.2 i
def aAu:List Nat->Hp->Hp
 | [],hp=>hp
 |a::r,hp=>λn=>cond ((a::r).any λm=>Nat.beq m n) none (hp n)
def Wo (H:Hid) (i:Nat) (o:Oper) (u:List (Nat×Ch)):Bool:=
 !lV H i||((u.all λx=>((H.2.getD i []).any λm=>Nat.beq m x.1)&& !(hid H i).any λm=>Nat.beq m x.1)&&(hid H i).all λn=> !V0 (fC i o) n)
def VE (bs:Array Nat) (H:Hid) (r:List Oper) (i:Nat):Bool:=r.isEmpty&&(!lV H i&&(List.range i).all (cZ bs i))
def gU (te:TE) (Φ:Env) (ops:List Oper) (bs:Array Nat) (H:Hid) (K:SE->St->Prop) (st:St):Nat->List Oper->mg->Prop
 |_,[],done=>K .normal (bg st (λ_=>true) done)
 |i,o::r,done=>
  let s:=bg st (cZ bs i) done
  match guarded ops s.tm o with
  |none=>False
  |some b=>cond b
   ((L9 te Φ (aAu (hid H i) s.hp) (fC i o) s.eval o.op).wp λx=>
     match x with
     |.ret e=>cond (ZJ Φ bs ops st i o done e.upd&&Wo H i o e.upd) (gU te Φ ops bs H K st (i+1) r ((i,o,e)::done)) False
     |.pan v u=>cond (VE bs H r i) (K (.pan v) ⟨(bg st (λ_=>true) done).tm,cO (bg st (λ_=>true) done).hp u⟩) False)
   (gU te Φ ops bs H K st (i+1) r ((i,o,⟨.undef,[]⟩)::done))
def aAh (Φ:Env) (ops:Array Oper) (bs:Array Nat) (i j:Nat):Bool:=
 let x:=ops.getD i default
 let y:=ops.getD j default
 cZ bs j i||(x.apart ops y&& !Nat.beq (fC i x) (fC j y))
def as1 (Φ:Env) (ops:Array Oper) (bs:Array Nat) (i j:Nat):Bool:=
 let x:=ops.getD i default
 let y:=ops.getD j default
 !cZ bs j i&&((Nat.beq (fE Φ x.op) 2&& !Nat.beq (fE Φ y.op) 0)||(Nat.beq (fE Φ y.op) 2&& !Nat.beq (fE Φ x.op) 0))
def zB (Φ:Env) (ops:Array Oper) (bs:Array Nat):List (Nat×Nat):=
 (List.range ops.size).flatMap λj=>(List.range j).flatMap λi=>cond (as1 Φ ops bs i j) [(i,j)] []
def OT.RQ:OT Out->Option Eff
 |.ok (.ret e)=>some e
 |.ok _=>none
 |.br _ x y=>match x.RQ with
  |some e=>some e
  |none=>y.RQ
 |.fail=>none
def arq (te:TE) (Φ:Env):Nat->List Oper->St->List (List Nat)
 |_,[],_=> []
 |i,o::r,st=>match (L9 te Φ st.hp (fC i o) st.eval o.op).RQ with
  |some e=>e.upd.map (·.1)::arq te Φ (i+1) r (st.put o.dst e)
  |none=> []::arq te Φ (i+1) r (st.put o.dst ⟨.undef,[]⟩)
def Wp (te:TE) (Φ:Env) (ops:Array Oper) (bs:Array Nat) (st:St):Hid:=
 match zB Φ ops bs with
 | []=>([],[])
 |c::r=>(c::r,arq te Φ 0 ops.toList st)
theorem Bz {te:TE} {Φ:Env} {ops:Array Oper} {bs:Array Nat} {st:St}:(Wp te Φ ops bs st).1=zB Φ ops bs:=by grind [Wp]
def aA5 (ops:Array Oper) (bs:Array Nat) (i:Nat):Bool:=
 (ops.getD i default).after.all (λe=> !Region.binds .any e||(Nat.blt e.on i&&(bs.getD i 0).testBit e.on))&&
 (List.range i).all λk=> !(bs.getD i 0).testBit k||
  (Nat.beq (bs.getD k 0&&&bs.getD i 0) (bs.getD k 0)&&(ops.getD i default).after.any λe=>Region.binds .any e&&(Nat.beq e.on k||(cZ bs e.on k)))
def e9 (Φ:Env) (ops:Array Oper) (bs:Array Nat):Bool:=
 (List.range ops.size).all λj=>aA5 ops bs j&&(List.range j).all λi=>aAh Φ ops bs i j
def ifB (b:Bool) (x y:Prop):Prop:=cond b x y
theorem We (b:Bool) (x y:Prop):ifB b x y=cond b x y:=rfl
noncomputable def aGW (l:List SV):Nat->Option SV:=List.rec (motive:=λ_=>Nat->Option SV) (λ_=>none) (λx _ ih n=>Nat.rec (motive:=λ_=>Option SV) (some x) (λm _=>ih m) n) l
noncomputable def aHa (l:List SV):Nat->SV->List SV:=List.rec (motive:=λ_=>Nat->SV->List SV) (λ_ _=> []) (λx xs ih n v=>Nat.rec (motive:=λ_=>List SV) (v::xs) (λm _=>x::ih m v) n) l
def WN (l:List SV):(List SV->Prop)->Prop:=List.rec (motive:=λ_=>(List SV->Prop)->Prop) (λk=>k []) (λx _ ih k=>ih (λys=>k (x::ys))) l
def ag9 (v:SV) (k:SV->Prop):Prop:=match v with
 |.bool b=>k (.bool b)
 |.u64 b=>k (.u64 b)
 |.u8 b=>k (.u8 b)
 |.int b=>k (.int b)
 |.str b=>k (.str b)
 |.lst t xs=>k (.lst t xs)
 |.own c e=>k (.own c e)
 |.part c e o l=>k (.part c e o l)
 |.clip c e=>k (.clip c e)
 |.emp=>k .emp
 |.ptr a b c d=>k (.ptr a b c d)
 |.ahr t xs i o=>k (.ahr t xs i o)
 |.rK=>k .rK
 |.aEM t xs=>k (.aEM t xs)
 |.azw=>k .azw
 |.fn f a b=>k (.fn f a b)
 |.iface t x=>k (.iface t x)
 |.fD=>k .fD
 |.agg l=>WN l λl=>k (.agg l)
 |.tup l=>WN l λl=>k (.tup l)
 |.undef=>k .undef
 |.gu=>k .gu
theorem acq:∀ (l:List SV) (n:Nat),aGW l n=l[n]?
 | [],_|_::_,0=>rfl
 |_::xs,n+1=>acq xs n
theorem aaq:∀ (l:List SV) (n:Nat) (v:SV),aHa l n v=l.set n v
 | [],_,_|_::_,0,_=>rfl
 |x::xs,n+1,v=>congrArg (x:: ·) (aaq xs n v)
theorem BH:∀ (l:List SV) (k:List SV->Prop),WN l k=k l
 | [],_=>rfl
 |x::xs,k=>BH xs λys=>k (x::ys)
theorem WK (v:SV) (k:SV->Prop):ag9 v k=k v:=by
 cases v<;>first|rfl|exact BH _ _
noncomputable def apw (hp:Hp) (u:List (Nat×Ch)):Hp:=List.rec (motive:=λ_=>Hp->Hp) (λhp=>hp) (λx _ ih hp=>ih λn=>cond (Nat.beq n x.1) (some x.2) (hp n)) u hp
theorem UM:∀ (u:List (Nat×Ch)) (hp:Hp),apw hp u=cO hp u
 | [],_=>rfl
 |(c,ch)::r,hp=>by
  simp [cO]
  rw [<-UM r]
  show apw _ r=_
  congr 1
  funext n
  simp
def aGQ (hp:Hp) (u:List (Nat×Ch)) (k:Hp->Prop):Prop:=List.rec (motive:=λ_=>Prop) (k hp) (λx r _=>k (apw hp (x::r))) u
theorem apu (hp:Hp) (u:List (Nat×Ch)) (k:Hp->Prop):aGQ hp u k=k (cO hp u):=by
 cases u with
 |nil=>rfl
 |cons x r=>exact congrArg k (UM _ _)
def St.aAd (st:St) (dst:Option Tmp) (e:Eff) (k:St->Prop):Prop:=ag9 e.v λv=>aGQ st.hp e.upd λhp=>match dst with
 |some d=>WN (aHa st.tm d v) λtm=>k ⟨tm,hp⟩
 |none=>k ⟨st.tm,hp⟩
theorem apv (st:St) (dst:Option Tmp) (e:Eff) (k:St->Prop):st.aAd dst e k=k (st.put dst e):=by
 unfold St.aAd
 rw [WK,apu]
 cases dst with
 |none=>rfl
 |some d=>
  simp only
  rw [BH,aaq]
  rfl
noncomputable def aF4 (l:List SV) (t:Nat):SV:=match aGW l t with
 |some x=>x
 |none=>.gu
theorem acr (l:List SV) (t:Nat):aF4 l t=l.getD t .gu:=by grind [aF4,acq]
def Xe (ev:Nat->SV):Operand->SV
 |.tmp t=>ev t
 |.const v=>aDo v
 |.global _=>.gu
 |.func f=>.fn (.func f) [] []
theorem Xd {st:St} {ev:Nat->SV} (h:∀ t,ev t=st.tm.getD t .gu):Xe ev=st.eval:=by
 funext x
 cases x<;>first|rfl|exact h _
def aGO (tm:List SV) (d:Nat) (b:Bool) (k:List SV->Prop):Prop:=WN (aHa tm d (.bool b)) k
theorem aC1 {tm:List SV} {d:Nat} {b:Bool} (h:tm.getD d .gu=.bool b) (k:List SV->Prop):aGO tm d b k=k tm:=by grind [aGO,BH,aaq,bool,List.getElem?_eq_some_iff,List.set_getElem_self]
def agX (ops:List Oper) (o:Oper) (run skip:List SV->Prop) (tm:List SV):Prop:=
 match o.guard with
 |none=>run tm
 |some (j,want)=>match (ops[j]?).bind (·.dst) with
  |some d=>match aF4 tm d with
   |.bool b=>Bool.rec (motive:=λ_=>Prop) (aGO tm d false λtm=>match want with|false=>run tm|true=>skip tm) (aGO tm d true λtm=>match want with|true=>run tm|false=>skip tm) b
   |.undef=>skip tm
   |_=>False
  |none=>False
theorem ars (ops:List Oper) (o:Oper) (run skip:List SV->Prop) (tm:List SV):agX ops o run skip tm=match guarded ops tm o with
 |none=>False
 |some b=>cond b (run tm) (skip tm):=by grind [agX,guarded,bind,acr,aC1]
def mG (te:TE) (Φ:Env) (ops:List Oper) (K:SE->St->Prop) (l:List Oper):St->Prop:=
 List.rec (motive:=λ_=>St->Prop) (λst=>K .normal st) (λo _ ih st=>
  agX ops o
   (λtm=>(L9 te Φ st.hp (o.dst.getD 100000) (Xe (aF4 tm)) o.op).wp λx=>
    match x with
    |.ret e=>(⟨tm,st.hp⟩:St).aAd o.dst e ih
    |.pan v u=>K (.pan v) ⟨tm,cO st.hp u⟩)
   (λtm=>(⟨tm,st.hp⟩:St).aAd o.dst ⟨.undef,[]⟩ ih) st.tm) l
theorem ma {te:TE} {Φ:Env} {ops:List Oper} {K:SE->St->Prop}:∀ (l:List Oper) (st:St),mG te Φ ops K l st=io te Φ ops K l st
 | [],_=>rfl
 |o::r,st=>by
  have ih:(λst=>mG te Φ ops K r st)=λst=>io te Φ ops K r st:=funext λst=>ma r st
  simp only [io]
  show agX ops o
   (λtm=>(L9 te Φ st.hp (o.dst.getD 100000) (Xe (aF4 tm)) o.op).wp λx=>
    match x with
    |.ret e=>(⟨tm,st.hp⟩:St).aAd o.dst e (λst=>mG te Φ ops K r st)
    |.pan v u=>K (.pan v) ⟨tm,cO st.hp u⟩)
   (λtm=>(⟨tm,st.hp⟩:St).aAd o.dst ⟨.undef,[]⟩ (λst=>mG te Φ ops K r st)) st.tm=_
  rw [ars,Xd (st:=st) (acr st.tm),ih]
  simp [apv]
noncomputable def VC (D:Nat->Bool) (t:Nat) (x:SV) (done:mg):SV:=List.rec (motive:=λ_=>SV) x (λy _ ih=>cond (D y.1) (match y.2.1.dst with
 |some d=>cond (Nat.beq d t) y.2.2.v ih
 |none=>ih) ih) done
noncomputable def VB (st:St) (D:Nat->Bool) (done:mg) (t:Nat):SV:=match aGW st.tm t with
 |some x=>VC D t x done
 |none=>.gu
theorem ju (st:St) (D:Nat->Bool):∀ done:mg,(bg st D done).tm.length=st.tm.length
 | []=>rfl
 |x::r=>by
  simp [bg]
  cases D x.1
  ·exact ju st D r
  ·simp [St.put,C7]
   split
   ·rw [cy];exact ju st D r
   ·exact ju st D r
theorem QX (st:St) (D:Nat->Bool):∀ (done:mg) (t:Nat),VB st D done t=(bg st D done).tm.getD t .gu
 | [],t=>acr st.tm t
 |y::r,t=>by
  have ih:=QX st D r t
  simp [bg]
  unfold VB at ih⊢
  rw [acq] at ih⊢
  cases hx:st.tm[t]? with
  |none=>
   rw [hx] at ih
   cases D y.1
   ·exact ih
   ·have:((bg st D r).put y.2.1.dst y.2.2).tm.length<=t:=by
     have h2:=ju st D r
     simp [St.put,C7]
     grind
    grind
  |some x=>
   rw [hx] at ih
   show cond (D y.1) (match y.2.1.dst with|some d=>cond (Nat.beq d t) y.2.2.v (VC D t x r)|none=>VC D t x r) (VC D t x r)=_
   cases D y.1
   ·exact ih
   ·simp [St.put,C7]
    cases y.2.1.dst with
    |none=>exact ih
    |some d=>
     cases hb:Nat.beq d t
     ·have hne:d≠t:=λe=>by simp_all
      grind
     grind [aY,ju]
def hpK (st:St) (D:Nat->Bool) (done:mg):(Hp->Prop)->Prop:=List.rec (motive:=λ_=>(Hp->Prop)->Prop) (λk=>k st.hp) (λy _ ih k=>ifB (D y.1) (ih λh=>aGQ h y.2.2.upd k) (ih k)) done
theorem ark (st:St) (D:Nat->Bool):∀ (done:mg) (k:Hp->Prop),hpK st D done k=k (bg st D done).hp
 | [],_=>rfl
 |y::r,k=>by
  show ifB (D y.1) (hpK st D r λh=>aGQ h y.2.2.upd k) (hpK st D r k)=_
  simp only [bg]
  cases D y.1
  ·exact ark st D r k
  ·rw [ark st D r,apu]
   rfl
def arN (st:St) (done:mg):(St->Prop)->Prop:=List.rec (motive:=λ_=>(St->Prop)->Prop) (λk=>k st) (λy _ ih k=>ih λs=>s.aAd y.2.1.dst y.2.2 k) done
theorem RL (st:St):∀ (done:mg) (k:St->Prop),arN st done k=k (bg st (λ_=>true) done)
 | [],_=>rfl
 |y::r,k=>by
  show (arN st r λs=>s.aAd y.2.1.dst y.2.2 k)=_
  rw [RL st r,apv]
  rfl
def aC5 (D:Nat->Bool) (d:Nat) (v:SV) (done:mg):(mg->Prop)->Prop:=List.rec (motive:=λ_=>(mg->Prop)->Prop) (λk=>k []) (λy r ih k=>
 ifB (D y.1) (match y.2.1.dst with
  |some d'=>ifB (Nat.beq d' d) (k ((y.1,y.2.1,⟨v,y.2.2.upd⟩)::r)) (ih λr'=>k (y::r'))
  |none=>ih λr'=>k (y::r')) (ih λr'=>k (y::r'))) done
theorem Qd {D:Nat->Bool} {d:Nat} {v x:SV}:∀ {done:mg} (k:mg->Prop),(VC D d x done=v\/∀ y ∈ done,D y.1=true->y.2.1.dst≠some d)->aC5 D d v done k=k done
 | [],_,_=>rfl
 |y::r,k,h=>by
  show ifB (D y.1) (match y.2.1.dst with
   |some d'=>ifB (Nat.beq d' d) (k ((y.1,y.2.1,⟨v,y.2.2.upd⟩)::r)) (aC5 D d v r λr'=>k (y::r'))
   |none=>aC5 D d v r λr'=>k (y::r')) (aC5 D d v r λr'=>k (y::r'))=_
  simp only [We]
  have h:cond (D y.1) (match y.2.1.dst with|some d'=>cond (Nat.beq d' d) y.2.2.v (VC D d x r)|none=>VC D d x r) (VC D d x r)=v\/∀ z ∈ y::r,D z.1=true->z.2.1.dst≠some d:=h
  cases hD:D y.1
  ·rw [hD] at h
   exact Qd _ (h.imp_right (by simp))
  ·rw [hD] at h
   cases hd:y.2.1.dst with
   |none=>
    rw [hd] at h
    exact Qd _ (h.imp_right (by simp))
   |some d'=>
    rw [hd] at h
    simp only at h⊢
    cases hb:Nat.beq d' d
    ·rw [hb] at h
     exact Qd _ (h.imp_right (by simp))
    ·rw [hb] at h
     simp at h⊢
     rcases h with h|h
     ·rw [<-h]
     simp_all
theorem apn {st:St} {D:Nat->Bool} {d:Nat} {v:SV} {done:mg} (k:mg->Prop) (h:VB st D done d=v) (hj:v≠ .gu):aC5 D d v done k=k done:=by grind [VB,aGW,absurd,Qd]
def agY (ops:List Oper) (st:St) (D:Nat->Bool) (o:Oper) (run skip:mg->Prop) (done:mg):Prop:=
 match o.guard with
 |none=>run done
 |some (j,want)=>match (ops[j]?).bind (·.dst) with
  |some d=>match VB st D done d with
   |.bool b=>Bool.rec (motive:=λ_=>Prop) (aC5 D d (.bool false) done λdone=>match want with|false=>run done|true=>skip done) (aC5 D d (.bool true) done λdone=>match want with|true=>run done|false=>skip done) b
   |.undef=>skip done
   |_=>False
  |none=>False
theorem art (ops:List Oper) (st:St) (D:Nat->Bool) (o:Oper) (run skip:mg->Prop) (done:mg):agY ops st D o run skip done=match guarded ops (bg st D done).tm o with
 |none=>False
 |some b=>cond b (run done) (skip done):=by grind [agY,guarded,bind,QX,VB,apn]
def aGY (te:TE) (Φ:Env) (ops:List Oper) (bs:Array Nat) (H:Hid) (K:SE->St->Prop) (st:St) (i:Nat) (l:List Oper) (done:mg):Prop:=
 List.rec (motive:=λ_=>Nat->mg->Prop) (λ_ done=>arN st done (K .normal)) (λo r ih i done=>
  agY ops st (cZ bs i) o
   (λdone=>hpK st (cZ bs i) done λhp=>(L9 te Φ (aAu (hid H i) hp) (fC i o) (Xe (VB st (cZ bs i) done)) o.op).wp λx=>
    match x with
    |.ret e=>ag9 e.v λv=>ifB (ZJ Φ bs ops st i o done e.upd&&Wo H i o e.upd) (ih (i+1) ((i,o,⟨v,e.upd⟩)::done)) False
    |.pan v u=>ifB (VE bs H r i) (arN st done λs=>K (.pan v) ⟨s.tm,cO s.hp u⟩) False)
   (λdone=>ih (i+1) ((i,o,⟨.undef,[]⟩)::done)) done) l i done
theorem ac5 {te:TE} {Φ:Env} {ops:List Oper} {bs:Array Nat} {H:Hid} {K:SE->St->Prop} {st:St}:∀ (l:List Oper) (i:Nat) (done:mg),aGY te Φ ops bs H K st i l done=gU te Φ ops bs H K st i l done
 | [],i,done=>by
  exact RL st done (K .normal)
 |o::r,i,done=>by
  simp only [gU]
  show agY ops st (cZ bs i) o
   (λdone=>hpK st (cZ bs i) done λhp=>(L9 te Φ (aAu (hid H i) hp) (fC i o) (Xe (VB st (cZ bs i) done)) o.op).wp λx=>
    match x with
    |.ret e=>ag9 e.v λv=>ifB (ZJ Φ bs ops st i o done e.upd&&Wo H i o e.upd) (aGY te Φ ops bs H K st (i+1) r ((i,o,⟨v,e.upd⟩)::done)) False
    |.pan v u=>ifB (VE bs H r i) (arN st done λs=>K (.pan v) ⟨s.tm,cO s.hp u⟩) False)
   (λdone=>aGY te Φ ops bs H K st (i+1) r ((i,o,⟨.undef,[]⟩)::done)) done=_
  rw [art,ark,Xd (st:=bg st (cZ bs i) done) (QX st (cZ bs i) done)]
  cases guarded ops (bg st (cZ bs i) done).tm o with
  |none=>rfl
  |some b=>
   simp only
   rw [ac5 r]
   congr 2
   funext x
   cases x with
   |ret e=>
    simp only
    rw [WK,ac5 r,We]
   |pan v u=>
    simp [RL,We]
abbrev Lam:=Nat->Option (St->(SE->St->Prop)->Prop)
def wps (te:TE) (Φ:Env) (Λ:Lam):Nat->Code->St->(SE->St->Prop)->Prop:=
 λn=>Nat.rec (motive:=λ_=>Code->St->(SE->St->Prop)->Prop) (λ_ _ _=>False)
  (λ_ go c st K=>match c with
   |.skip=>K .normal st
   |.region _ ops draw=>ifB draw (ifB (e9 Φ ops (bitsOf ops)) (aGY te Φ ops.toList (bitsOf ops) (Wp te Φ ops (bitsOf ops) st) K st 0 ops.toList []) False) (mG te Φ ops.toList K ops.toList st)
   |.seq a b=>go a st λe st'=>match e with
    |.normal=>go b st' K
    |e=>K e st'
   |.cond c a b=>match st.eval c with
    |.bool t=>cond t (go a st K) (go b st K)
    |.azw=>(go a st K)/\(go b st K)
    |_=>False
   |.block id body=>match Λ id with
    |some l=>l st K
    |none=>go body st λe st'=>match e with
     |.exit j=>ifB (Nat.beq j id) (K .normal st') (K (.exit j) st')
     |e=>K e st'
   |.loop body=>go body st λe st'=>match e with
    |.normal=>go (.loop body) st' K
    |e=>K e st'
   |.exit id=>K (.exit id) st
   |.ret=>K .ret st
   |_=>False) n
def sn (te:TE) (st:St):List ResultVar->(List SV->Prop)->Prop
 | [],K=>K []
 |.tmp t::r,K=>sn te st r λl=>K (st.tm.getD t .gu::l)
 |.cell a T::r,K=>match te T with
  |some ti=>(loadCells st.hp ti.size (st.tm.getD a .gu)).wp λcs=>sn te st r λl=>K (rG ti.desc.agg cs::l)
  |none=>False
def oneOf:List SV->SV
 | [x]=>x
 |l=>.tup l
def AR (te:TE) (fn:Func) (st:St) (K:SV->Prop):Prop:=sn te st fn.results.toList λl=>K (oneOf l)
def wpf (te:TE) (Φ:Env) (Λ:Lam) (fuel:Nat) (fn:Func) (args:List SV) (hp:Hp) (K:SV->Hp->Prop) (Kp:SV->Hp->Prop):Prop:=
 match fn.body with
 |none=>False
 |some c=>wps te Φ Λ fuel c ⟨args++List.replicate (fn.ntmps-args.length) .undef,hp⟩ λe st=>match e with
  |.normal|.ret=>AR te fn st λv=>K v st.hp
  |.pan v=>Kp v st.hp
  |.exit _=>False
end Sx
end
section
namespace Sx
open Go
theorem bR {F F':Nat->Option Obj} (h:∀ b o,F b=some o->F' b=some o):∀ (t:Ty) (x:t.T) (cs:List Value),Rep F t x cs->Rep F' t x cs
 |.bool,_,_,hr|.u64,_,_,hr|.u8,_,_,hr|.int,_,_,hr|.str,_,_,hr|.elem,_,_,hr=>hr
 |.prod a b,x,cs,hr=>by
  obtain ⟨h1,h2,h3⟩:=hr
  exact ⟨h1,bR h a _ _ h2,bR h b _ _ h3⟩
 |.arr n t,l,cs,hr=>by
  obtain ⟨h1,h2,h3⟩:=hr
  exact ⟨h1,h2,λi hi=>bR h t _ _ (h3 i hi)⟩
 |.list t,xs,cs,hr=>by
  obtain ⟨h0,ad,cap,h1,h2,h3⟩:=hr
  refine ⟨h0,ad,cap,h1,h2,?_⟩
  rcases h3 with h3|⟨b,o,arr,E,fz,ha,hb,hs,hr⟩
  ·grind
  ·exact .inr ⟨b,o,arr,E,fz,ha,h _ _ hb,hs,λi hi=>bR h t _ _ (hr i hi)⟩
theorem OY {F:Nat->Option Obj}:∀ (t:Ty) (x:t.T) (cs:List Value),Rep F t x cs->cs.length=t.size
 |.bool,_,_,hr|.u64,_,_,hr|.u8,_,_,hr=>by subst hr;rfl
 |.int,_,_,hr|.str,_,_,hr=>by rw [hr.1];rfl
 |.elem,_,_,hr=>by subst hr;rfl
 |.prod a b,x,cs,hr|.arr n t,l,cs,hr=>hr.1
 |.list t,xs,cs,hr=>by
  obtain ⟨_,ad,cap,h1,_⟩:=hr
  rw [h1];rfl
theorem AM {l:List Value} {off n:Nat} {v:Value} (h:v ∈ seg l off n):v ∈ l:=List.mem_of_mem_drop (List.mem_of_mem_take h)
theorem rb {F:Nat->Option Obj}:∀ (t:Ty) (x:t.T) (cs:List Value),Rep F t x cs->∀ v ∈ cs,v.oneCell'=true
 |.bool,_,_,hr=>by simp only [Rep] at hr;subst hr;simp [Value.oneCell']
 |.u64,_,_,hr=>by simp only [Rep] at hr;subst hr;simp [Value.oneCell',eD]
 |.u8,_,_,hr=>by simp only [Rep] at hr;subst hr;simp [Value.oneCell',vu8]
 |.int,_,_,hr=>by simp only [Rep] at hr;rw [hr.1];simp [Value.oneCell']
 |.str,_,_,hr=>by simp only [Rep] at hr;rw [hr.1];simp [Value.oneCell']
 |.elem,_,_,hr=>by simp only [Rep] at hr;subst hr;simp [Value.oneCell',eD]
 |.prod a b,x,cs,hr=>by
  obtain ⟨h1,h2,h3⟩:=hr
  intro v hv
  rw [<-List.take_append_drop a.size cs] at hv
  rcases List.mem_append.1 hv with hv|hv
  ·exact rb a _ _ h2 v hv
  ·exact rb b _ _ h3 v hv
 |.arr n t,l,cs,hr=>by
  obtain ⟨h1,h2,h3⟩:=hr
  intro v hv
  obtain ⟨j,hj,rfl⟩:=List.getElem_of_mem hv
  have hjn:j<n*t.size:=by omega
  have hs:0<t.size:=Nat.pos_of_ne_zero λe=>by simp [e] at hjn
  have hi:j/t.size<n:=by rw [Nat.div_lt_iff_lt_mul hs];exact hjn
  have hmod:=Nat.mod_lt j hs
  have hdm:=Nat.div_add_mod j t.size
  have hle:j/t.size*t.size+t.size<=n*t.size:=by
   have:=ck t.size hi
   rwa [Nat.succ_mul] at this
  refine rb t _ _ (h3 _ hi) _ ?_
  rw [List.mem_iff_getElem]
  refine ⟨j%t.size,?_,?_⟩
  ·simp only [seg,bQ,cq]
   omega
  ·simp only [seg,List.getElem_take,List.getElem_drop]
   congr 1
   rw [Nat.mul_comm];exact hdm
 |.list t,xs,cs,hr=>by
  obtain ⟨_,ad,cap,h1,_⟩:=hr
  rw [h1];simp [Value.oneCell']
structure Ctx.Ext (R R':Ctx):Prop where
 F:∀ b o,R.F b=some o->R'.F b=some o
 U:R'.U=R.U
 ch:∀ c ch,R.hp c=some ch->∃ ch',R'.hp c=some ch'/\ch.ep<=ch'.ep/\(ch.ep=ch'.ep->ch'.body.shape=ch.body.shape/\R'.σ c=R.σ c)
theorem Ctx.Ext.refl (R:Ctx):R.Ext R:=⟨λ_ _ h=>h,rfl,λ_ ch h=>⟨ch,h,Nat.le_refl _,λ_=>⟨rfl,rfl⟩⟩⟩
theorem Ctx.Ext.trans {R R' R'':Ctx} (h:R.Ext R') (h':R'.Ext R''):R.Ext R'':=by
 refine ⟨λb o hb=>h'.F _ _ (h.F _ _ hb),h'.U.trans h.U,λc ch hc=> ?_⟩
 obtain ⟨ch1,h1,e1,s1⟩:=h.ch c ch hc
 obtain ⟨ch2,h2,e2,s2⟩:=h'.ch c ch1 h1
 refine ⟨ch2,h2,cT e1 e2,λe=> ?_⟩
 have e3:ch.ep=ch1.ep:=by omega
 have e4:ch1.ep=ch2.ep:=by omega
 exact ⟨(s2 e4).1.trans (s1 e3).1,(s2 e4).2.trans (s1 e3).2⟩
structure Ctx.aFa (R R':Ctx):Prop where
 F:∀ b o,R.F b=some o->R'.F b=some o
 ch:∀ c ch,R.hp c=some ch->∃ ch',R'.hp c=some ch'/\ch.ep<=ch'.ep/\(ch.ep=ch'.ep->ch'.body.shape=ch.body.shape/\R'.σ c=R.σ c)
theorem Ctx.Ext.grow {R R':Ctx} (h:R.Ext R'):R.aFa R':=⟨h.F,h.ch⟩
section
variable {R R':Ctx} (hx:R.aFa R')
include hx
theorem Ctx.Vc {c e off len:Nat} {v:Value} (h:R.part c e off len v):R'.part c e off len v:=by
 obtain ⟨ch,hc,hle,h⟩:=h
 obtain ⟨ch',hc',hle',hs⟩:=hx.ch c ch hc
 refine ⟨ch',hc',cT hle hle',λhe=> ?_⟩
 have e1:e=ch.ep:=by omega
 obtain ⟨hsh,hσ⟩:=hs (by omega)
 obtain ⟨h1,h2,ad,cap,h3,h4,h5⟩:=h e1
 rw [hsh,hσ]
 exact ⟨h1,h2,ad,cap,h3,h4,h5⟩
theorem Ctx.af9 {c e:Nat} {v:Value} (h:R.own c e v):R'.own c e v:=by
 obtain ⟨ch,hc,hle,h⟩:=h
 obtain ⟨ch',hc',hle',hs⟩:=hx.ch c ch hc
 refine ⟨ch',hc',cT hle hle',λhe=> ?_⟩
 have e1:e=ch.ep:=by omega
 rw [(hs (by omega)).1]
 exact Ctx.Vc hx (h e1)
theorem Ctx.as0 {c e:Nat} {v:Value} (h:R.clip c e v):R'.clip c e v:=by
 refine ⟨Ctx.af9 hx h.1,λch' hc' he=> ?_⟩
 obtain ⟨ch,hc,hle,_⟩:=h.1
 obtain ⟨ch2,hc2,hle',hs⟩:=hx.ch c ch hc
 obtain rfl:ch2=ch':=by rw [hc'] at hc2;exact (Option.some.inj hc2).symm
 exact h.2 ch hc (by omega)
theorem Ctx.awU {c e i off:Nat} {v:Value} (h:R.ptr c e i off v):R'.ptr c e i off v:=by
 obtain ⟨ch,hc,hle,h⟩:=h
 obtain ⟨ch',hc',hle',hs⟩:=hx.ch c ch hc
 refine ⟨ch',hc',cT hle hle',λhe=> ?_⟩
 have e1:e=ch.ep:=by omega
 obtain ⟨hsh,hσ⟩:=hs (by omega)
 rw [hsh,hσ]
 exact h e1
end
mutual
theorem SV.Gw {R R':Ctx} (hx:R.aFa R'):∀ (x:SV) (v:Value),SV.rel R x v->SV.rel R' x v
 |.bool _,_,h=>by simpa only [SV.rel] using h
 |.u64 _,_,h=>by simpa only [SV.rel] using h
 |.u8 _,_,h=>by simpa only [SV.rel] using h
 |.int _,_,h=>by simpa only [SV.rel] using h
 |.str _,_,h=>by simpa only [SV.rel] using h
 |.lst t xs,v,h=>by simp only [SV.rel] at h⊢;exact bR hx.F _ _ _ h
 |.own c e,v,h=>by simp only [SV.rel] at h⊢;exact ⟨h.1,Ctx.af9 hx h.2⟩
 |.part c e off len,v,h=>by simp only [SV.rel] at h⊢;exact ⟨h.1,Ctx.Vc hx h.2⟩
 |.clip c e,v,h=>by simp only [SV.rel] at h⊢;exact ⟨h.1,Ctx.as0 hx h.2⟩
 |.emp,_,h=>by simpa only [SV.rel] using h
 |.ptr c e i off,v,h=>by simp only [SV.rel] at h⊢;exact ⟨h.1,Ctx.awU hx h.2⟩
 |.ahr t xs i off,v,h=>by
  simp only [SV.rel] at h⊢
  obtain ⟨h0,b,o,arr,E,fz,h1,h2,h3,h4⟩:=h
  exact ⟨h0,b,o,arr,E,fz,h1,hx.F _ _ h2,h3,bR hx.F _ _ _ h4⟩
 |.rK,_,h=>by simpa only [SV.rel] using h
 |.azw,_,h=>by simpa only [SV.rel] using h
 |.aEM t xs,v,h=>by
  simp only [SV.rel] at h⊢
  obtain ⟨h0,h0',b,o,arr,E,fz,h1,h2,h3,h4⟩:=h
  exact ⟨h0,h0',b,o,arr,E,fz,h1,hx.F _ _ h2,h3,λi hi=>bR hx.F _ _ _ (h4 i hi)⟩
 |.fn f first caps,v,h=>by
  simp only [SV.rel] at h⊢
  obtain ⟨l1,l2,h1,h2,h3⟩:=h
  exact ⟨l1,l2,h1,SV.kv hx first l1 h2,SV.kv hx caps l2 h3⟩
 |.iface t x,v,h=>by
  simp only [SV.rel] at h⊢
  obtain ⟨y,h1,h2⟩:=h
  exact ⟨y,h1,SV.Gw hx x y h2⟩
 |.fD,_,h=>by simpa only [SV.rel] using h
 |.agg l,v,h=>by
  simp only [SV.rel] at h⊢
  obtain ⟨vs,h1,h2,h3⟩:=h
  exact ⟨vs,h1,SV.kv hx l vs h2,h3⟩
 |.tup l,v,h=>by
  simp only [SV.rel] at h⊢
  obtain ⟨vs,h1,h2⟩:=h
  exact ⟨vs,h1,SV.kv hx l vs h2⟩
 |.undef,_,h=>by simpa only [SV.rel] using h
 |.gu,_,_=>by simp only [SV.rel]
theorem SV.kv {R R':Ctx} (hx:R.aFa R'):∀ (l:List SV) (vs:List Value),SV.bz R l vs->SV.bz R' l vs
 | [],_,h=>by simpa only [SV.bz] using h
 |x::l,vs,h=>by
  simp only [SV.bz] at h⊢
  obtain ⟨v,r,h1,h2,h3⟩:=h
  exact ⟨v,r,h1,SV.Gw hx x v h2,SV.kv hx l r h3⟩
end
theorem SV.aaB {R R':Ctx} (hx:R.Ext R') (x:SV) (v:Value) (h:SV.rel R x v):SV.rel R' x v:=SV.Gw hx.grow x v h
theorem SV.eZ {R R':Ctx} (hx:R.Ext R') (l:List SV) (vs:List Value) (h:SV.bz R l vs):SV.bz R' l vs:=SV.kv hx.grow l vs h
theorem adg {R R':Ctx} {t:TypeId} {x:Int} {v:Value} (h:SV.rel R (.iface t (.agg [.int x])) v):SV.rel R' (.iface t (.agg [.int x])) v:=by
 simpa only [SV.rel,SV.bz] using h
theorem SV.aN {R:Ctx}:∀ {l:List SV} {vs:List Value},SV.bz R l vs->vs.length=l.length
 | [],vs,h=>by simp only [SV.bz] at h;simp [h]
 |x::l,vs,h=>by
  simp only [SV.bz] at h
  obtain ⟨v,r,h1,_,h3⟩:=h
  simp [h1,SV.aN h3]
theorem SV.ni {R:Ctx}:∀ {l:List SV} {vs:List Value},SV.bz R l vs->∀ i (h:i<l.length) (h':i<vs.length),SV.rel R l[i] vs[i]
 | [],vs,h,i,hi,_=>by simp at hi
 |x::l,vs,h,i,hi,hi'=>by
  simp only [SV.bz] at h
  obtain ⟨v,r,h1,h2,h3⟩:=h
  subst h1
  cases i with
  |zero=>exact h2
  |succ i=>exact SV.ni h3 i (by simpa using hi) (by simpa using hi')
theorem SV.pC {R:Ctx}:∀ {l:List SV} {vs:List Value},vs.length=l.length->(∀ i (h:i<l.length) (h':i<vs.length),SV.rel R l[i] vs[i])->SV.bz R l vs
 | [],vs,h,_=>by simp only [SV.bz];exact xk h
 |x::l,[],h,_=>by simp at h
 |x::l,v::r,h,hh=>by
  simp only [SV.bz]
  exact ⟨v,r,rfl,hh 0 (by simp) (by simp),SV.pC (by simpa using h) λi h1 h2=>hh (i+1) (Nat.succ_lt_succ h1) (Nat.succ_lt_succ h2)⟩
theorem SV.Qc {R:Ctx} {l:List SV} {vs:List Value}:SV.bz R l vs ↔ vs.length=l.length/\∀ i (h:i<l.length) (h':i<vs.length),SV.rel R l[i] vs[i]:=
 ⟨λh=>⟨SV.aN h,SV.ni h⟩,λh=>SV.pC h.1 h.2⟩
theorem SV.AS {R:Ctx} {l:List SV} {vs:List Value} (h:SV.bz R l vs) (d:Nat) {x:SV} {v:Value} (hx:SV.rel R x v):SV.bz R (l.set d x) (vs.set d v):=by
 rw [SV.Qc] at h⊢
 refine ⟨by simpa using h.1,λi h1 h2=> ?_⟩
 by_cases e:d=i
 ·subst e;simpa using hx
 ·simp only [List.getElem_set_ne e]
  exact h.2 i (by simpa using h1) (by simpa using h2)
theorem SV.bA {R:Ctx}:∀ {l l':List SV} {vs vs':List Value},SV.bz R l vs->SV.bz R l' vs'->SV.bz R (l++l') (vs++vs')
 | [],l',vs,vs',h,h'=>by simp only [SV.bz] at h;subst h;simpa using h'
 |x::l,l',vs,vs',h,h'=>by
  simp only [SV.bz] at h
  obtain ⟨v,r,h1,h2,h3⟩:=h
  subst h1
  simp only [List.cons_append,SV.bz]
  exact ⟨v,r++vs',rfl,h2,SV.bA h3 h'⟩
theorem SV.cX {R:Ctx} {l:List SV} {vs:List Value} (h:SV.bz R l vs) (n:Nat):SV.bz R (l.take n) (vs.take n):=by
 rw [SV.Qc] at h⊢
 refine ⟨by simp [h.1],λi h1 h2=> ?_⟩
 simp only [List.getElem_take]
 exact h.2 i (by simp at h1;omega) (by simp at h2;omega)
theorem SV.cY {R:Ctx} {l:List SV} {vs:List Value} (h:SV.bz R l vs) (n:Nat):SV.bz R (l.drop n) (vs.drop n):=by
 rw [SV.Qc] at h⊢
 refine ⟨by simp [h.1],λi h1 h2=> ?_⟩
 simp only [List.getElem_drop]
 exact h.2 (n+i) (by simp at h1;omega) (by simp at h2;omega)
end Sx
end
section
namespace Sx
open Go
theorem gW {l:List Value} {off n:Nat} (h:off+n<=l.length):(seg l off n).length=n:=by grind [seg]
theorem C3 (l:List Value) (a b n m:Nat) (h:b+m<=n):seg (seg l a n) b m=seg l (a+b) m:=by grind [seg,List.drop_take,List.drop_drop,min]
theorem EZ {P:Program} {w:World} {b o n:Nat} {arr:Array Value} {E:TypeId} {fz:Nat×Nat} (hb:w.heap[b]? =some (.cells arr E fz)) (hn:o+n<=arr.size):
 (Go.loadCells ⟨b,o,none⟩ n).run P w=.ok (seg arr.toList o n).toArray w:=by
 have hl:(seg arr.toList o n).length=n:=gW (by omega)
 have:=run_loadCells_list (P:=P) w ⟨b,o,none⟩ (seg arr.toList o n) (λj v hv=>by
  have hadd:(⟨b,o,none⟩:Addr).add j=⟨b,o+j,none⟩:=by simp [Addr.add]
  grind [cell_of_row,seg])
 grind
theorem bc {R:Ctx} {x:SV} {v:Value} (h:SV.rel R x v):SV.bz R [x] [v]:=by grind [SV.bz]
theorem uR {R:Ctx}:SV.bz R [] []:=by rfl
theorem nj {α:Type} (f:Nat->List α) (n:Nat):(List.range (n+1)).flatMap f=(List.range n).flatMap f++f n:=by simp [List.range_succ]
theorem uQ {R:Ctx} {f:Nat->List SV} {cs:List Value} {s:Nat}:∀ (n:Nat) (_:n*s<=cs.length) (_:∀ i,i<n->SV.bz R (f i) (seg cs (i*s) s)),
 SV.bz R ((List.range n).flatMap f) (cs.take (n*s))
 |0,_,_=>by simp [uR]
 |n+1,hl,h=>by
  rw [nj]
  have ih:=uQ n (by grind) (λi hi=>h i (by omega))
  simp_all [seg,Nat.succ_mul,List.take_add,SV.bA]
theorem fh {R:Ctx}:∀ (t:Ty) (x:t.T) (cs:List Value),Rep R.F t x cs->SV.bz R (unpack t x) cs
 |.bool,b,cs,h|.u64,b,cs,h|.u8,b,cs,h=>by subst h;exact bc (by rfl)
 |.int,b,cs,h|.str,b,cs,h=>by simp [Rep] at h;rw [h.1];exact bc (by grind [SV.rel])
 |.elem,e,cs,h=>by
  subst h
  have one:∀ x:UInt64,SV.rel R (.u64 x) (eD x):=λx=>by rfl
  exact SV.bA (bc (one _)) (SV.bA (bc (one _)) (SV.bA (bc (one _)) (bc (one _))))
 |.prod a b,x,cs,h=>by
  obtain ⟨h1,h2,h3⟩:=h
  have:=SV.bA (fh a _ _ h2) (fh b _ _ h3)
  rwa [List.take_append_drop] at this
 |.arr n t,l,cs,h=>by
  obtain ⟨h1,h2,h3⟩:=h
  have:=uQ (R:=R) (f:=λi=>unpack t (l.getD i t.d)) (cs:=cs) (s:=t.size) n (by omega) (λi hi=>fh t _ _ (h3 i hi))
  rw [<-h1,List.take_length] at this
  exact this
 |.list t,xs,cs,h=>by
  have h':=h
  obtain ⟨_,ad,cap,h1,_⟩:=h
  subst h1
  exact bc (by exact h')
theorem gV:∀ (t:Ty) (x:t.T),(unpack t x).length=t.size
 |.bool,_|.u64,_|.u8,_|.int,_|.str,_|.elem,_=>rfl
 |.prod a b,x=>by simp [unpack,gV a,gV b,Ty.size]
 |.arr n t,l=>by
  simp only [unpack,Ty.size]
  induction n with
  |zero=>simp
  |succ n ih=>rw [nj,bK,ih,gV t,Nat.succ_mul]
 |.list t,xs=>rfl
theorem bT {hp:Hp} {c e:Nat} {b:Chunk} (h:eu hp c e=some b):hp c=some ⟨e,b⟩:=by grind [eu]
theorem bi {t t':Ty} {xs:List t'.T} {ys:List t.T} (h:cd t t' xs=some ys):∃ e:t'=t,ys=e▸xs:=by grind [cd]
theorem Ctx.cV {R:Ctx} {c e:Nat} {v:Value} {b:Chunk} (hc:R.hp c=some ⟨e,b⟩) (h:R.own c e v):R.part c e 0 b.shape.2.2 v:=by
 obtain ⟨ch,hc',hle,h⟩:=h
 grind
theorem Ctx.cK {R:Ctx} {c e off len:Nat} {v:Value} {b:Chunk} (hc:R.hp c=some ⟨e,b⟩) (h:R.part c e off len v):
 b.shape.1=true/\off+len<=b.shape.2.2/\∃ ad cap,v=.slice ad len cap/\len<=cap/\
  match R.σ c with
  |some L=>(off+cap)*b.shape.2.1<=L.lim/\(0<cap->ad=some ⟨L.block,L.base+off*b.shape.2.1,none⟩)
  |none=>cap=0:=by
 obtain ⟨ch,hc',hle,h⟩:=h
 grind
theorem uA {F:Nat->Option Obj} (t:Ty) (ad:Option Addr) (cap:Nat):Rep F (.list t) ([]:List t.T) [.slice ad 0 cap]:=by
 refine ⟨by simp,ad,cap,rfl,(by simp),.inl rfl⟩
theorem apk {R:Ctx} {w:World} (hm:cz R w) {t:Ty} {x:SV} {xs:List t.T} {v:Value} (h:aea t R.hp x=some xs) (hx:SV.rel R x v):
 Rep R.F (.list t) xs [v]:=by
 unfold aea at h
 split at h
 ·obtain ⟨e,rfl⟩:=bi h
  subst e
  simpa only [SV.rel] using hx
 ·cases h
  simp only [SV.rel] at hx
  obtain ⟨ad,rfl⟩:=hx
  exact uA t ad 0
 ·rename_i c e
  split at h
  ·rename_i ep t' xs' hc
   split at h
   ·rename_i he
    subst he
    obtain ⟨e,rfl⟩:=bi h
    subst e
    simp only [SV.rel] at hx
    obtain ⟨_,h2,ad,cap,rfl,h4,h5⟩:=Ctx.cK hc (Ctx.cV hc hx.2)
    have hch:=hm.ch c _ hc
    simp only [eW] at hch
    obtain ⟨hs,hl,hch⟩:=hch
    refine ⟨hl,ad,cap,rfl,h4,?_⟩
    cases hσ:R.σ c with
    |none=>
     rw [hσ] at hch
     exact .inl hch
    |some L=>
     rw [hσ] at hch h5
     by_cases hn:xs'= []
     ·exact .inl hn
     ·have hpos:0<cap:=by
       have:0<xs'.length:=List.length_pos_iff.2 hn
       exact Nat.lt_of_lt_of_le this h4
      grind
   ·cases h
  ·cases h
 ·rename_i c e off len
  split at h
  ·rename_i ep t' xs' hc
   split at h
   ·rename_i he
    subst he
    obtain ⟨l,hl,rfl⟩:=Option.map_eq_some_iff.1 h
    obtain ⟨e,rfl⟩:=bi hl
    subst e
    simp only [SV.rel] at hx
    obtain ⟨_,h2,ad,cap,rfl,h4,h5⟩:=Ctx.cK hc hx.2
    have h2:off+len<=xs'.length:=h2
    have hch:=hm.ch c _ hc
    simp only [eW] at hch
    obtain ⟨hs,hl2,hch⟩:=hch
    have hlen:((xs'.drop off).take len).length=len:=by rw [bQ,cq];omega
    refine ⟨by rw [hlen];omega,ad,cap,by rw [hlen],by rw [hlen];exact h4,?_⟩
    cases hσ:R.σ c with
    |none=>
     grind
    |some L=>
     rw [hσ] at hch h5
     obtain ⟨arr,E,fz,h6,h7,h8,h9⟩:=hch
     by_cases hn:len=0
     ·grind
     ·refine .inr ⟨L.block,L.base+off*t'.size,arr,E,fz,h5.2 (by omega),h6,?_,λi hi=> ?_⟩
      ·rw [hlen,h7,Nat.add_assoc,<-Nat.add_mul]
       exact Nat.add_le_add_left (cT (ck _ h2) h8) _
      grind
   ·cases h
  ·cases h
 ·cases h
theorem sO {α β:Type} (d:β) {f:α->Option β}:∀ {l:List α} {r:List β},l.mapM f=some r->r.length=l.length/\∀ i (h:i<l.length),f l[i]=some (r.getD i d)
 | [],r,h=>by grind
 |x::l,r,h=>by
  simp at h
  cases hx:f x with
  |none=>grind
  |some y=>
   rw [hx] at h
   cases hl:l.mapM f with
   |none=>grind
   |some ys=>
    rw [hl] at h
    simp at h
    obtain ⟨h1,h2⟩:=sO d hl
    grind
theorem Np {cs:List SV} {b:Bool} (h:ak8 cs=some b):cs= [.bool b]:=by
 unfold ak8 at h;grind
theorem Ve {cs:List SV} {b:UInt64} (h:aEZ cs=some b):cs= [.u64 b]:=by
 unfold aEZ at h;grind
theorem af8 {cs:List SV} {b:UInt8} (h:pU8 cs=some b):cs= [.u8 b]:=by
 unfold pU8 at h;grind
theorem Vg {cs:List SV} {b:Int} (h:aE2 cs=some b):cs= [.int b]:=by
 unfold aE2 at h;grind
theorem Vf {cs:List SV} {b:List UInt8} (h:aE0 cs=some b):cs= [.str b]:=by
 unfold aE0 at h;grind
theorem Nn {cs:List SV} {b:ab} (h:ak7 cs=some b):cs= [.u64 b.w0,.u64 b.w1,.u64 b.w2,.u64 b.w3]:=by
 unfold ak7 at h;grind
theorem oj {α:Type} {f:SV->Option α} {cs:List SV} {b:α} (h:aE1 f cs=some b):∃ x,cs= [x]/\f x=some b:=by
 unfold aE1 at h;grind
theorem aW {α β:Type} {x:Option α} {y:Option β} {z:α×β} (h:sF x y=some z):x=some z.1/\y=some z.2:=by
 unfold sF at h;grind
theorem bY {R:Ctx} {x:SV} {vs:List Value} (h:SV.bz R [x] vs):∃ v,vs= [v]/\SV.rel R x v:=by grind [SV.bz]
theorem iF {R:Ctx} {w:World} (hm:cz R w):∀ (t:Ty) (cs:List SV) (x:t.T) (vs:List Value),pack R.hp t cs=some x->SV.bz R cs vs->Rep R.F t x vs
 |.bool,cs,x,vs,h,hr=>by
  rw [Np h] at hr
  obtain ⟨v,rfl,hv⟩:=bY hr
  subst hv;rfl
 |.u64,cs,x,vs,h,hr=>by
  rw [Ve h] at hr
  obtain ⟨v,rfl,hv⟩:=bY hr
  subst hv;rfl
 |.u8,cs,x,vs,h,hr=>by
  rw [af8 h] at hr
  obtain ⟨v,rfl,hv⟩:=bY hr
  subst hv;rfl
 |.int,cs,x,vs,h,hr=>by
  rw [Vg h] at hr
  obtain ⟨v,rfl,hv⟩:=bY hr
  obtain ⟨rfl,hb⟩:=hv;exact ⟨rfl,hb⟩
 |.str,cs,x,vs,h,hr=>by
  rw [Vf h] at hr
  obtain ⟨v,rfl,hv⟩:=bY hr
  obtain ⟨rfl,hb⟩:=hv;exact ⟨rfl,hb⟩
 |.elem,cs,x,vs,h,hr=>by
  rw [Nn h] at hr
  obtain ⟨v,r,rfl,rfl,v,r,rfl,rfl,v,r,rfl,rfl,v,r,rfl,rfl,rfl⟩:=hr
  rfl
 |.prod a b,cs,x,vs,h,hr=>by
  obtain ⟨h1,h2⟩:=aW h
  have r1:=iF hm a _ _ _ h1 (SV.cX hr a.size)
  have r2:=iF hm b _ _ _ h2 (SV.cY hr a.size)
  refine ⟨?_,r1,r2⟩
  grind [List.take_append_drop,bK,OY]
 |.arr n t,cs,x,vs,h,hr=>by
  simp only [pack] at h
  split at h
  ·rename_i hl
   obtain ⟨h1,h2⟩:=sO t.d h
   refine ⟨by grind [SV.aN],by grind,λi hi=> ?_⟩
   have:=h2 i (by grind)
   simp at this
   exact iF hm t _ _ _ this (SV.cX (SV.cY hr (i*t.size)) t.size)
  grind
 |.list t,cs,x,vs,h,hr=>by
  obtain ⟨y,rfl,hy⟩:=oj h
  obtain ⟨v,rfl,hv⟩:=bY hr
  grind [apk]
end Sx
end
section
namespace Sx
open Go
theorem OT.aE {α:Type} {b:Bool} {x:OT α} {a:α} (h:(OT.guard b x).run=some a):b=true/\x.run=some a:=by
 cases b
 ·cases h
 ·exact ⟨rfl,h⟩
theorem OT.run_map {α β:Type} {f:α->β}:∀ {t:OT α} {b:β},(t.map f).run=some b->∃ a,t.run=some a/\b=f a
 |.ok a,b,h=>⟨a,rfl,(Option.some.inj h).symm⟩
 |.br c x y,b,h=>by
  cases c
  ·exact OT.run_map (t:=y) h
  ·exact OT.run_map (t:=x) h
 |.fail,b,h=>by cases h
def SX (R:Ctx) (arr:Array Value) (base:Nat) (t:Ty) (xs:List t.T):Prop:=
 ∀ i,i<xs.length->Rep R.F t (xs.getD i t.d) (seg arr.toList (base+i*t.size) t.size)
theorem M3 {R:Ctx} {arr:Array Value} {base:Nat} {t:Ty} {xs:List t.T} (h:SX R arr base t xs) {i m:Nat} (hm:m+i<=xs.length) (hb:base+xs.length*t.size<=arr.size):
 SV.bz R (ag1 t xs i m) (seg arr.toList (base+i*t.size) (m*t.size)):=by
 have hle:(m+i)*t.size<=xs.length*t.size:=ck _ hm
 rw [Nat.add_mul] at hle
 have hlen:(seg arr.toList (base+i*t.size) (m*t.size)).length=m*t.size:=gW (by grind)
 have:=uQ (R:=R) (f:=λj=>unpack t (xs.getD (j+i) t.d)) (cs:=seg arr.toList (base+i*t.size) (m*t.size)) (s:=t.size) m (by omega) (λj hj=>by
  have hj1:(j+1)*t.size<=m*t.size:=ck _ hj
  rw [Nat.succ_mul] at hj1
  rw [C3 _ _ _ _ _ hj1]
  have:=fh t _ _ (h (j+i) (by omega))
  grind)
 rw [List.take_of_length_le (by omega)] at this
 exact this
theorem api {R:Ctx} {arr:Array Value} {o n off:Nat} {t:Ty} {x:t.T} (h:Rep R.F t x (seg arr.toList o t.size)) (hn:off+n<=t.size):
 SV.bz R (((unpack t x).drop off).take n) (seg arr.toList (o+off) n):=by
 have:=SV.cX (SV.cY (fh t _ _ h) off) n
 rwa [show ((seg arr.toList o t.size).drop off).take n=seg (seg arr.toList o t.size) off n from rfl,C3 _ _ _ _ _ hn] at this
theorem Nu {R:Ctx} {arr:Array Value} {o n off:Nat} {t:Ty} {x:t.T} (h:Rep R.F t x (seg arr.toList o t.size)) (hn:off+n<=t.size):
 ∀ u ∈ seg arr.toList (o+off) n,u.oneCell'=true:=λu hu=>by
 rw [<-C3 _ _ _ _ _ hn] at hu
 grind [rb,AM]
theorem Dp {R:Ctx} {arr:Array Value} {base:Nat} {t:Ty} {xs:List t.T} (h:SX R arr base t xs) (hs:0<t.size) {i m:Nat} (hm:m+i<=xs.length):
 ∀ u ∈ seg arr.toList (base+i*t.size) (m*t.size),u.oneCell'=true:=λu hu=>by
 obtain ⟨j,hj,rfl⟩:=List.getElem_of_mem hu
 have hjn:j<m*t.size:=by grind [seg]
 have hi:j/t.size<m:=by simp_all [Nat.div_lt_iff_lt_mul]
 have hmod:=Nat.mod_lt j hs
 have hdm:=Nat.div_add_mod j t.size
 have hr:=h (j/t.size+i) (by omega)
 refine rb t _ _ hr _ ?_
 rw [List.mem_iff_getElem]
 simp [seg] at hj⊢
 rw [Nat.add_mul]
 rw [Nat.mul_comm] at hdm
 refine ⟨j%t.size,by omega,?_⟩
 grind
def Found (R:Ctx) (w:World) (v:Value) (n:Nat) (cs:List SV):Prop:=
 ∃ b o arr E fz,v=.pointer (some ⟨b,o,none⟩)/\w.heap[b]? =some (.cells arr E fz)/\o+n<=arr.size/\SV.bz R cs (seg arr.toList o n)/\∀ u ∈ seg arr.toList o n,u.oneCell'=true
theorem WJ {R:Ctx} {w:World} {i off n:Nat} {v:Value} {cs:List SV} {t:Ty} {xs:List t.T} {L:Loc} {arr:Array Value} {E:TypeId} {fz:Nat×Nat} (hs:0<t.size)
 (hv:v=.pointer (some ⟨L.block,L.base+(i*t.size+off),none⟩)) (hb:w.heap[L.block]? =some (.cells arr E fz)) (ha:arr.size=L.base+L.lim)
 (hl:xs.length*t.size<=L.lim) (hrow:SX R arr L.base t xs)
 (h:(if off+n<=t.size then OT.guard (decide (i<xs.length)) (.ok (((unpack t (xs.getD i t.d)).drop off).take n))
  else if off=0/\n/t.size*t.size=n then OT.guard (decide (n/t.size+i<=xs.length)) (.ok (ag1 t xs i (n/t.size)))
  else .fail).run=some cs):Found R w v n cs:=by
 split at h
 ·rename_i hle
  obtain ⟨h1,h2⟩:=OT.aE h
  have hi:i<xs.length:=by simpa using h1
  cases h2
  have hr:=hrow i hi
  have hle2:(i+1)*t.size<=xs.length*t.size:=ck _ hi
  rw [Nat.succ_mul] at hle2
  refine ⟨L.block,L.base+(i*t.size+off),arr,E,fz,hv,hb,by omega,?_,?_⟩
  ·have:=api hr hle
   grind
  ·have:=Nu hr hle
   grind
 ·split at h
  ·rename_i hle hc
   obtain ⟨h0,hn⟩:=hc
   obtain ⟨h1,h2⟩:=OT.aE h
   have hi:n/t.size+i<=xs.length:=by simpa using h1
   cases h2
   subst h0
   have hle2:(n/t.size+i)*t.size<=xs.length*t.size:=ck _ hi
   rw [Nat.add_mul,hn] at hle2
   refine ⟨L.block,L.base+(i*t.size+0),arr,E,fz,hv,hb,by omega,?_,?_⟩
   ·grind [M3]
   grind [Dp]
  ·cases h
theorem Jn {R:Ctx} {w:World} (hm:cz R w) {n:Nat} {x:SV} {v:Value} {cs:List SV} (hx:SV.rel R x v) (h:(Sx.loadCells R.hp n x).run=some cs):Found R w v n cs:=by
 unfold Sx.loadCells at h
 split at h
 ·rename_i c e i off
  simp only [SV.rel] at hx
  replace hx:=hx.2
  split at h
  ·rename_i vs hc
   have hc:=bT hc
   split at h
   ·rename_i hcond
    obtain ⟨h0,h1⟩:=hcond
    cases h
    obtain ⟨ch,hc',_,hp⟩:=hx
    rw [hc] at hc'
    cases Option.some.inj hc'
    obtain ⟨L,hσ,rfl⟩:=hp rfl
    have hch:=hm.ch c _ hc
    simp only [eW] at hch
    obtain ⟨L',hσ',_,_,arr,E,hb,ha,hlim,hrel,hone⟩:=hch
    rw [hσ] at hσ'
    cases Option.some.inj hσ'
    subst h0
    refine ⟨L.block,L.base+off,arr,E,(0,0),by simp,hb,by omega,?_,λu hu=>hone u (AM hu)⟩
    have:=SV.cX (SV.cY hrel off) n
    rwa [List.drop_drop] at this
   ·cases h
  ·rename_i t xs hc
   have hc:=bT hc
   obtain ⟨ch,hc',_,hp⟩:=hx
   rw [hc] at hc'
   cases Option.some.inj hc'
   obtain ⟨L,hσ,hv⟩:=hp rfl
   have hch:=hm.ch c _ hc
   simp only [eW,hσ] at hch
   obtain ⟨hs,_,_,_,arr,E,hb,ha,hl,hrow⟩:=hch
   exact WJ hs hv hb ha hl hrow h
  ·rename_i t xs hc
   have hc:=bT hc
   obtain ⟨ch,hc',_,hp⟩:=hx
   rw [hc] at hc'
   cases Option.some.inj hc'
   obtain ⟨L,hσ,hv⟩:=hp rfl
   have hch:=hm.ch c _ hc
   simp only [eW,hσ] at hch
   obtain ⟨hs,_,arr,E,fz,hb,ha,hl,hrow⟩:=hch
   exact WJ hs hv (hm.F _ _ hb) ha hl hrow h
  ·cases h
 ·rename_i t xs i off
  simp only [SV.rel] at hx
  obtain ⟨hi,b,o,arr,E,fz,rfl,hF,hsz,hr⟩:=hx
  split at h
  ·rename_i hle
   cases h
   refine ⟨b,o+off,arr,E,fz,rfl,hm.F _ _ hF,by omega,api hr hle,Nu hr hle⟩
  ·cases h
 ·rename_i t xs
  simp only [SV.rel] at hx
  obtain ⟨_,hs,b,o,arr,E,fz,rfl,hF,hsz,hr⟩:=hx
  split at h
  ·rename_i hn
   obtain ⟨h1,h2⟩:=OT.aE h
   have hi:n/t.size+0<=xs.length:=by simpa using h1
   cases h2
   have hle2:(n/t.size+0)*t.size<=xs.length*t.size:=ck _ hi
   rw [Nat.add_mul,hn] at hle2
   have hrow:SX R arr o t xs:=hr
   refine ⟨b,o,arr,E,fz,rfl,hm.F _ _ hF,by omega,?_,?_⟩
   ·have:=M3 hrow hi (by omega)
    rw [hn,Nat.zero_mul,Nat.add_zero] at this
    exact this
   ·have:=Dp hrow hs hi
    rw [hn,Nat.zero_mul,Nat.add_zero] at this
    exact this
  ·cases h
 ·cases h
theorem Ur {P:Program} {w:World} {b o:Nat} {arr:Array Value} {E:TypeId} {fz:Nat×Nat} (hb:w.heap[b]? =some (.cells arr E fz)) (hn:o+1<=arr.size):
 (load ⟨b,o,none⟩).run P w=.ok arr[o] w:=by
 have hc:w.cell? ⟨b,o,none⟩=some arr[o]:=by
  rw [cell_of_row w b o arr E fz hb]
  exact Array.getElem?_eq_getElem (by omega)
 rw [run_load,hc]
theorem aC2 {arr:Array Value} {o:Nat} (h:o+1<=arr.size):seg arr.toList o 1= [arr[o]]:=by
 unfold seg
 rw [mZ (by simp;omega)]
 simp
theorem aqt {R:Ctx} {cs:List SV} {arr:Array Value} {o:Nat} (hn:o+1<=arr.size) (h:SV.bz R cs (seg arr.toList o 1)):SV.rel R (rG false cs) arr[o]:=by
 rw [aC2 hn] at h
 simp only [rG]
 cases cs with
 |nil=>simp only [SV.bz] at h;cases h
 |cons x l=>
  simp only [SV.bz] at h
  obtain ⟨v,r,h1,h2,_⟩:=h
  cases h1
  simpa using h2
theorem Bf {R:Ctx} {cs:List SV} {vs:List Value} (h:SV.bz R cs vs) (h1:∀ u ∈ vs,u.oneCell'=true):SV.rel R (rG true cs) (.agg vs.toArray):=by
 simp only [rG,if_true,SV.rel]
 exact ⟨vs,rfl,h,h1⟩
end Sx
end
section
namespace Sx
open Go
theorem apj {R:Ctx}:∀ {x:SV} {v:Value},SV.rel R x v->x.one=true->v.oneCell'=true
 |.bool _,_,h,_=>by simp only [SV.rel] at h;subst h;rfl
 |.u64 _,_,h,_=>by simp only [SV.rel] at h;subst h;rfl
 |.u8 _,_,h,_=>by simp only [SV.rel] at h;subst h;rfl
 |.int _,_,h,_=>by simp only [SV.rel] at h;rw [h.1];rfl
 |.str _,_,h,_=>by simp only [SV.rel] at h;rw [h.1];rfl
 |.lst t xs,v,h,_=>by simp only [SV.rel] at h;exact rb _ _ _ h v (by simp)
 |.own ..,_,h,_=>by simp only [SV.rel] at h;exact h.1
 |.part ..,_,h,_=>by simp only [SV.rel] at h;exact h.1
 |.clip ..,_,h,_=>by simp only [SV.rel] at h;exact h.1
 |.emp,_,h,_=>by simp only [SV.rel] at h;obtain ⟨ad,rfl⟩:=h;rfl
 |.ptr ..,_,h,_=>by simp only [SV.rel] at h;obtain ⟨⟨ad,rfl⟩,_⟩:=h;rfl
 |.ahr ..,_,h,_=>by simp only [SV.rel] at h;obtain ⟨_,b,o,arr,E,fz,rfl,_⟩:=h;rfl
 |.rK,_,h,_=>by simp only [SV.rel] at h;subst h;rfl
 |.azw,_,h,_=>by simp only [SV.rel] at h;obtain ⟨b,rfl⟩:=h;rfl
 |.aEM ..,_,h,_=>by simp only [SV.rel] at h;obtain ⟨_,_,b,o,arr,E,fz,rfl,_⟩:=h;rfl
 |.fn ..,_,h,_=>by simp only [SV.rel] at h;obtain ⟨l1,l2,rfl,_⟩:=h;rfl
 |.iface ..,_,h,_=>by simp only [SV.rel] at h;obtain ⟨y,rfl,_⟩:=h;rfl
 |.fD,_,h,_=>by simp only [SV.rel] at h;subst h;rfl
 |.agg _,_,_,h=>by cases h
 |.tup _,_,_,h=>by cases h
 |.undef,_,_,h=>by cases h
 |.gu,_,_,h=>by cases h
theorem xT {R:Ctx}:∀ {l:List SV} {vs:List Value},SV.bz R l vs->l.all SV.one=true->∀ u ∈ vs,u.oneCell'=true
 | [],vs,h,_,u,hu=>by simp only [SV.bz] at h;subst h;cases hu
 |x::l,vs,h,ha,u,hu=>by
  simp only [SV.bz] at h
  obtain ⟨v,r,rfl,h2,h3⟩:=h
  simp only [aA,aw] at ha
  rcases List.mem_cons.1 hu with rfl|hu
  ·exact apj h2 ha.1
  ·exact xT h3 ha.2 u hu
theorem ja (A vs:List Value) (p a n:Nat) (h:p+vs.length<=A.length) (hd:a+n<=p\/p+vs.length<=a):
 seg (A.take p++vs++A.drop (p+vs.length)) a n=seg A a n:=by
 apply List.ext_getElem?
 intro j
 simp only [seg,List.getElem?_take,List.getElem?_drop]
 by_cases hj:j<n
 ·simp only [hj,if_true]
  rcases hd with hd|hd
  ·rw [List.append_assoc,List.getElem?_append_left (by simp;omega),List.getElem?_take_of_lt (by omega)]
  ·rw [List.getElem?_append_right (by simp;omega),List.getElem?_drop]
   congr 1
   simp;omega
 ·simp [hj]
theorem Um (A vs:List Value) (p a n:Nat) (h:p+vs.length<=A.length) (h1:a<=p) (h2:p+vs.length<=a+n):
 seg (A.take p++vs++A.drop (p+vs.length)) a n=(seg A a n).take (p-a)++vs++(seg A a n).drop (p-a+vs.length):=by
 apply List.ext_getElem?
 intro j
 simp only [seg,List.getElem?_take,List.getElem?_drop]
 by_cases hj:j<n
 ·simp only [hj,if_true]
  by_cases c1:a+j<p
  ·rw [List.append_assoc,List.getElem?_append_left (by simp;omega),List.getElem?_take_of_lt (by omega),
    List.append_assoc,List.getElem?_append_left (by simp;omega),List.getElem?_take_of_lt (by omega),List.getElem?_take_of_lt hj,List.getElem?_drop]
  ·by_cases c2:a+j<p+vs.length
   ·rw [List.getElem?_append_left (by simp;omega),List.getElem?_append_right (by simp;omega),
     List.getElem?_append_left (by simp;omega),List.getElem?_append_right (by simp;omega)]
    congr 1
    simp;omega
   ·rw [List.getElem?_append_right (by simp;omega),List.getElem?_append_right (by simp;omega),List.getElem?_drop,List.getElem?_drop]
    simp only [bK,bQ,cq]
    rw [List.getElem?_take_of_lt (by omega),List.getElem?_drop]
    congr 1
    omega
 ·simp only [hj,if_false]
  rw [List.getElem?_eq_none]
  simp;omega
theorem cz.turn {R R':Ctx} {w w':World} (hm:cz R w) (hx:R.Ext R') (hF:R'.F=R.F) {c:Nat} {ch':Ch}
 (hh:R'.hp=λn=>if n=c then some ch' else R.hp n) (hσ:∀ n,n≠c->R'.σ n=R.σ n) (mb:Nat)
 (mB:∀ b,b<w.heap.size->b≠mb->w'.heap[b]? =w.heap[b]?)
 (free:R.F mb=none/\R.U mb=none/\∀ n ch L,n≠c->R.hp n=some ch->ch.body.mut=true->R.σ n=some L->L.block≠mb)
 (hok:eW R' w' c ch') (hblk:∀ L,R'.σ c=some L->L.block=mb) (hs:MI w w':=by exact ⟨rfl,rfl,rfl⟩):cz R' w':=by
 have lt:∀ {b:Nat} {o:Obj},w.heap[b]? =some o->b<w.heap.size:=λh=>(Array.getElem?_eq_some_iff.1 h).1
 obtain ⟨f1,f2,f3⟩:=free
 have hU:R'.U=R.U:=hx.U
 refine ⟨λb o hb=> ?_,λb o hb=> ?_,λn ch hn=> ?_,λn n' ch1 ch2 L1 L2 h1 h2 m1 m2 s1 s2 hb=> ?_,λb o hb=>by rw [hU];rw [hF] at hb;exact hm.FU b o hb,by rw [hU];exact hm.env.trans hs⟩
 ·rw [hF] at hb
  have:=hm.F b o hb
  rw [mB b (lt this) (λe=>by rw [e,f1] at hb;cases hb),this]
 ·rw [hU] at hb
  have:=hm.U b o hb
  rw [mB b (lt this) (λe=>by rw [e,f2] at hb;cases hb),this]
 ·by_cases e:n=c
  ·subst e
   rw [hh] at hn
   simp only [if_true] at hn
   cases Option.some.inj hn
   exact hok
  ·rw [hh] at hn
   simp only [e,if_false] at hn
   have hc:=hm.ch n ch hn
   have hs:=hσ n e
   have fr:=λL=>f3 n ch L e hn
   obtain ⟨ep,body⟩:=ch
   cases body with
   |row t xs=>
    simp only [eW,hs,hF,hU] at hc⊢
    refine ⟨hc.1,hc.2.1,?_⟩
    replace hc:=hc.2.2
    cases hL:R.σ n with
    |none=>rw [hL] at hc;exact hc
    |some L=>
     rw [hL] at hc
     obtain ⟨c1,c2,arr,E,c3,c4⟩:=hc
     exact ⟨c1,c2,arr,E,(mB _ (lt c3) (fr L rfl hL)).trans c3,c4⟩
   |frz t xs=>
    simp only [eW,hs,hF] at hc⊢
    exact hc
   |cells vs=>
    simp only [eW,hs,hF,hU] at hc⊢
    obtain ⟨L,hL,c1,c2,arr,E,c3,c4,c5,c6,c7⟩:=hc
    exact ⟨L,hL,c1,c2,arr,E,(mB _ (lt c3) (fr L rfl hL)).trans c3,c4,c5,SV.eZ hx _ _ c6,c7⟩
 ·rw [hh] at h1 h2
  by_cases e1:n=c<;>by_cases e2:n'=c
  ·rw [e1,e2]
  ·subst e1
   simp only [e2,if_false] at h2
   rw [hσ n' e2] at s2
   exact absurd (hb▸hblk L1 s1) (f3 n' ch2 L2 e2 h2 m2 s2)
  ·subst e2
   simp only [e1,if_false] at h1
   rw [hσ n e1] at s1
   exact absurd (hb▸hblk L2 s2) (f3 n ch1 L1 e1 h1 m1 s1)
  ·simp only [e1,if_false] at h1
   simp only [e2,if_false] at h2
   rw [hσ n e1] at s1
   rw [hσ n' e2] at s2
   exact hm.apart n n' ch1 ch2 L1 L2 h1 h2 m1 m2 s1 s2 hb
def Ctx.upd (R:Ctx) (c:Nat) (ch:Ch):Ctx:= {R with hp:=λn=>if n=c then some ch else R.hp n}
theorem Ctx.ZI {R:Ctx} {c:Nat} {ch ch':Ch} (hc:R.hp c=some ch) (he:ch.ep<=ch'.ep) (hs:ch.ep=ch'.ep->ch'.body.shape=ch.body.shape):R.Ext (R.upd c ch'):=by
 refine ⟨λ_ _ h=>h,rfl,λn c1 hn=> ?_⟩
 by_cases e:n=c
 ·subst e
  rw [hc] at hn
  cases Option.some.inj hn
  exact ⟨ch',by simp [Ctx.upd],he,λh=>⟨hs h,rfl⟩⟩
 ·exact ⟨c1,by simp [Ctx.upd,e,hn],Nat.le_refl _,λ_=>⟨rfl,rfl⟩⟩
theorem cz.write {R:Ctx} {w:World} (hm:cz R w) {c:Nat} {ch ch':Ch} {L:Loc} {arr':Array Value} (hc:R.hp c=some ch) (hmut:ch.body.mut=true)
 (hσ:R.σ c=some L) (hF:R.F L.block=none) (hU:R.U L.block=none)
 (he:ch.ep=ch'.ep) (hs:ch'.body.shape=ch.body.shape)
 (hok:eW (R.upd c ch') (w.setRow L.block arr') c ch'):R.Ext (R.upd c ch')/\cz (R.upd c ch') (w.setRow L.block arr'):=by
 have hx:R.Ext (R.upd c ch'):=Ctx.ZI hc (Nat.le_of_eq he) (λ_=>hs)
 refine ⟨hx,cz.turn hm hx rfl rfl (λ_ _=>rfl) L.block (λb _ hne=>setRow_other w L.block b arr' hne) ⟨hF,hU,λn ch2 L2 hn hn2 hm2 hs2 heq=> ?_⟩ hok (λL2 h2=> ?_)⟩
 ·exact hn (hm.apart n c ch2 ch L2 L hn2 hc hm2 hmut hs2 hσ heq)
 ·have:some L=some L2:=hσ.symm.trans h2
  cases Option.some.inj this
  rfl
end Sx
end
section
namespace Sx
open Go
theorem xR {R:Ctx} {l cs:List SV} {ls vs:List Value} (h:SV.bz R l ls) (hc:SV.bz R cs vs) (off:Nat):
 SV.bz R (wM l off cs) (ls.take off++vs++ls.drop (off+vs.length)):=by grind [wM,SV.aN,SV.bA,SV.cX,SV.cY]
theorem ag0 {α:Type} (xs:List α) (i j:Nat) (y d:α) (h:i<xs.length):(xs.set i y).getD j d=if i=j then y else xs.getD j d:=by grind
theorem EX {R:Ctx} {w:World} (hm:cz R w) {t:Ty} {cs:List SV} {vs:List Value} (hr:SV.bz R cs vs):∀ (m j i:Nat) (xs ys:List t.T),
 sd t R.hp cs m j i xs=some ys->m+(j+i)<=xs.length->
 ys.length=xs.length/\(∀ k,j<=k->k<j+m->Rep R.F t (ys.getD (k+i) t.d) (seg vs (k*t.size) t.size))/\(∀ k,k<j+i\/j+m+i<=k->ys.getD k t.d=xs.getD k t.d)
 |0,j,i,xs,ys,h,_=>by
  grind [sd]
 |m+1,j,i,xs,ys,h,hl=>by
  simp [sd] at h
  split at h
  ·rename_i x hx
   have ih:=EX hm hr m (j+1) i _ ys h (by grind)
   obtain ⟨h1,h2,h3⟩:=ih
   refine ⟨by grind,λk hk1 hk2=> ?_,λk hk=> ?_⟩
   ·by_cases e:k=j
    ·subst e
     rw [h3 (k+i) (by simp),ag0 _ _ _ _ _ (by omega),if_pos rfl]
     exact iF hm t _ _ _ hx (SV.cX (SV.cY hr (k*t.size)) t.size)
    grind
   grind
  grind
structure dL (R R':Ctx) (w':World) (upd:List (Nat×Ch)):Prop where
 ext:R.Ext R'
 hp:R'.hp=cO R.hp upd
 mem:cz R' w'
theorem pq {P:Program} {R:Ctx} {w:World} (hm:cz R w) {c e:Nat} {ch ch':Ch} {L:Loc} {arr:Array Value} {E:TypeId} {p:Nat} {vs:List Value} (hc:R.hp c=some ch)
 (hmut:ch.body.mut=true) (hσ:R.σ c=some L) (hF:R.F L.block=none) (hU:R.U L.block=none) (hb:w.heap[L.block]? =some (.cells arr E (0,0))) (he:ch.ep=e) (he':ch'.ep=e)
 (hs:ch'.body.shape=ch.body.shape) (hp:p+vs.length<=arr.size) (h1:∀ u ∈ vs,u.oneCell'=true)
 (hok:∀ w',w'.heap[L.block]? =some (.cells (arr.toList.take p++vs++arr.toList.drop (p+vs.length)).toArray E (0,0))->eW (R.upd c ch') w' c ch'):
 ∃ w' R',(Go.storeCells ⟨L.block,p,none⟩ vs).run P w=.ok () w'/\dL R R' w' [(c,ch')]:=by
 have hst:=run_storeCells_at P L.block p E vs 0 arr w hb (by omega) h1
 have hw:=cz.write (arr':=(arr.toList.take p++vs++arr.toList.drop (p+vs.length)).toArray) hm hc hmut hσ hF hU (by grind) hs (hok _ (setRow_heap w L.block arr _ E _ hb))
 exact ⟨_,_,hst,hw.1,rfl,hw.2⟩
theorem F0 {P:Program} {R:Ctx} {w:World} (hm:cz R w) {x:SV} {v:Value} {cs:List SV} {vs:List Value} {u:List (Nat×Ch)} (hx:SV.rel R x v) (hr:SV.bz R cs vs)
 (h:(Sx.storeCells R.hp cs x).run=some u):∃ ad w' R',v=.pointer (some ad)/\(Go.storeCells ad vs).run P w=.ok () w'/\dL R R' w' u:=by
 have hlen:=SV.aN hr
 unfold Sx.storeCells at h
 split at h
 ·rename_i c e i off
  simp only [SV.rel] at hx
  replace hx:=hx.2
  split at h
  ·rename_i ws hc
   have hc:=bT hc
   split at h
   ·rename_i hcond
    obtain ⟨h0,h1,h2⟩:=hcond
    cases h
    obtain ⟨ch,hc',_,hp⟩:=hx
    rw [hc] at hc'
    cases Option.some.inj hc'
    obtain ⟨L,hσ,rfl⟩:=hp rfl
    have hch:=hm.ch c _ hc
    simp only [eW] at hch
    obtain ⟨L',hσ',hF,hU,arr,E,hb,ha,hlim,hrel,hone⟩:=hch
    rw [hσ] at hσ'
    cases Option.some.inj hσ'
    subst h0
    have hsh:(Chunk.cells (wM ws off cs)).shape=(Chunk.cells ws).shape:=by
     simp only [Chunk.shape,wM,bK,bQ,cq]
     congr 2;omega
    obtain ⟨w',R',h3,h4⟩:=pq (P:=P) (e:=e) (p:=L.base+off) (vs:=vs) hm (ch':=⟨e,.cells (wM ws off cs)⟩) hc rfl hσ hF hU hb rfl rfl hsh (by omega) (xT hr h2)
     (λw' hw'=>by
      simp only [eW,Ctx.upd]
      refine ⟨L,hσ,hF,hU,_,E,hw',?_,?_,?_,?_⟩
      ·simp only [List.size_toArray,bK,bQ,cq,Array.length_toList];omega
      ·have:=congrArg (λx=>x.2.2) hsh
       simp only [Chunk.shape] at this
       rw [this];exact hlim
      ·have hsp:=xR hrel hr off
       have hx:R.Ext (R.upd c ⟨e,.cells (wM ws off cs)⟩):=Ctx.ZI hc (Nat.le_refl _) (λ_=>hsh)
       have:=SV.eZ hx _ _ hsp
       simp only
       have e:(arr.toList.take (L.base+off)++vs++arr.toList.drop (L.base+off+vs.length)).drop L.base=(arr.toList.drop L.base).take off++vs++(arr.toList.drop L.base).drop (off+vs.length):=by
        rw [List.append_assoc,List.drop_append,List.drop_take,bQ,List.drop_drop]
        rw [show L.base-min (L.base+off) arr.toList.length=0 by simp;omega,List.drop_zero,List.append_assoc]
        rw [show L.base+off-L.base=off by omega,show L.base+(off+vs.length)=L.base+off+vs.length by omega]
       rw [e]
       exact this
      ·intro u hu
       simp only at hu
       rcases List.mem_append.1 hu with hu|hu
       ·rcases List.mem_append.1 hu with hu|hu
        ·exact hone u (List.mem_of_mem_take hu)
        ·exact xT hr h2 u hu
       ·exact hone u (List.mem_of_mem_drop hu))
    exact ⟨_,w',R',by simp,h3,h4⟩
   ·cases h
  ·rename_i t xs hc
   have hc:=bT hc
   obtain ⟨ch,hc',_,hp⟩:=hx
   rw [hc] at hc'
   cases Option.some.inj hc'
   obtain ⟨L,hσ,rfl⟩:=hp rfl
   have hch:=hm.ch c _ hc
   simp only [eW,hσ] at hch
   obtain ⟨hs,hmax,hF,hU,arr,E,hb,ha,hl,hrow⟩:=hch
   split at h
   ·rename_i hle
    obtain ⟨h1,h2⟩:=OT.aE h
    have hi:i<xs.length:=by simpa using h1
    split at h2
    ·rename_i y hy
     cases h2
     have hold:=hrow i hi
     have hle2:(i+1)*t.size<=xs.length*t.size:=ck _ hi
     rw [Nat.succ_mul] at hle2
     have hnew:=iF hm t _ _ _ hy (xR (fh t _ _ hold) hr off)
     have hone:∀ u ∈ vs,u.oneCell'=true:=λu hu=>rb t _ _ hnew u (by simp [hu])
     have hsh:(Chunk.row t (xs.set i y)).shape=(Chunk.row t xs).shape:=by simp [Chunk.shape]
     obtain ⟨w',R',h3,h4⟩:=pq (P:=P) (e:=e) (p:=L.base+(i*t.size+off)) (vs:=vs) hm (ch':=⟨e,.row t (xs.set i y)⟩) hc rfl hσ hF hU hb rfl rfl hsh (by omega) hone
      (λw' hw'=>by
       simp only [eW,Ctx.upd,hσ]
       refine ⟨hs,by simpa using hmax,hF,hU,_,E,hw',?_,by simpa using hl,λk hk=> ?_⟩
       ·simp only [List.size_toArray,bK,bQ,cq,Array.length_toList];omega
       ·simp only [cy] at hk
        have hlk:(k+1)*t.size<=xs.length*t.size:=ck _ hk
        rw [Nat.succ_mul] at hlk
        rw [ag0 _ _ _ _ _ hi]
        split
        ·rename_i e
         subst e
         simp only
         rw [Um _ _ _ _ _ (by simp;omega) (by omega) (by omega)]
         rw [show L.base+(i*t.size+off)-(L.base+i*t.size)=off by omega]
         exact hnew
        ·rename_i hne
         simp only
         rw [ja _ _ _ _ _ (by simp;omega) ?_]
         ·exact hrow k hk
         ·rcases Nat.lt_or_gt_of_ne hne with hlt|hgt
          ·have:(i+1)*t.size<=k*t.size:=ck _ hlt
           rw [Nat.succ_mul] at this
           right;omega
          ·have:(k+1)*t.size<=i*t.size:=ck _ hgt
           rw [Nat.succ_mul] at this
           left;omega)
     exact ⟨_,w',R',rfl,h3,h4⟩
    ·cases h2
   ·split at h
    ·rename_i hle hcond
     obtain ⟨h0,hn⟩:=hcond
     obtain ⟨h1,h2⟩:=OT.aE h
     have hi:cs.length/t.size+i<=xs.length:=by simpa using h1
     split at h2
     ·rename_i ys hy
      cases h2
      subst h0
      have hle2:(cs.length/t.size+i)*t.size<=xs.length*t.size:=ck _ hi
      rw [Nat.add_mul,hn] at hle2
      obtain ⟨s1,s2,s3⟩:=EX hm hr _ 0 i xs ys hy (by omega)
      have hone:∀ u ∈ vs,u.oneCell'=true:=λu hu=>by
       obtain ⟨j,hj,rfl⟩:=List.getElem_of_mem hu
       have hjn:j<cs.length/t.size*t.size:=by omega
       have hq:j/t.size<cs.length/t.size:=by rw [Nat.div_lt_iff_lt_mul hs];exact hjn
       have hmod:=Nat.mod_lt j hs
       have hdm:=Nat.div_add_mod j t.size
       rw [Nat.mul_comm] at hdm
       have hq1:(j/t.size+1)*t.size<=cs.length/t.size*t.size:=ck _ hq
       rw [Nat.succ_mul] at hq1
       refine rb t _ _ (s2 (j/t.size) (Nat.zero_le _) (by rw [Nat.zero_add];exact hq)) _ ?_
       rw [List.mem_iff_getElem]
       refine ⟨j%t.size,?_,?_⟩
       ·simp only [seg,bQ,cq];omega
       ·simp only [seg,List.getElem_take,List.getElem_drop]
        congr 1
      have hsh:(Chunk.row t ys).shape=(Chunk.row t xs).shape:=by simp [Chunk.shape,s1]
      obtain ⟨w',R',h3,h4⟩:=pq (P:=P) (e:=e) (p:=L.base+(i*t.size+0)) (vs:=vs) hm (ch':=⟨e,.row t ys⟩) hc rfl hσ hF hU hb rfl rfl hsh (by omega) hone
       (λw' hw'=>by
        simp only [eW,Ctx.upd,hσ]
        refine ⟨hs,by rw [s1];exact hmax,hF,hU,_,E,hw',?_,by rw [s1];exact hl,λk hk=> ?_⟩
        ·simp only [List.size_toArray,bK,bQ,cq,Array.length_toList];omega
        ·rw [s1] at hk
         have hlk:(k+1)*t.size<=xs.length*t.size:=ck _ hk
         rw [Nat.succ_mul] at hlk
         simp only
         by_cases c1:k<i
         ·rw [s3 k (by omega),ja _ _ _ _ _ (by simp;omega) ?_]
          ·exact hrow k hk
          ·have:(k+1)*t.size<=i*t.size:=ck _ c1
           rw [Nat.succ_mul] at this
           left;omega
         ·by_cases c2:k<cs.length/t.size+i
          ·have:=s2 (k-i) (by omega) (by omega)
           rw [show k-i+i=k by omega] at this
           have hk1:(k-i+1)*t.size<=cs.length/t.size*t.size:=ck _ (by omega)
           have hk2:(k-i)*t.size+i*t.size=k*t.size:=by rw [<-Nat.add_mul];congr 1;omega
           rw [Nat.succ_mul] at hk1
           have hin:seg (arr.toList.take (L.base+(i*t.size+0))++vs++arr.toList.drop (L.base+(i*t.size+0)+vs.length)) (L.base+k*t.size) t.size=seg vs ((k-i)*t.size) t.size:=by
            apply List.ext_getElem?
            intro j
            simp only [seg,List.getElem?_take,List.getElem?_drop]
            by_cases hj:j<t.size
            ·simp only [hj,if_true]
             rw [List.getElem?_append_left (by simp;omega),List.getElem?_append_right (by simp;omega)]
             congr 1
             simp;omega
            ·simp [hj]
           rw [hin]
           exact this
          ·rw [s3 k (by omega),ja _ _ _ _ _ (by simp;omega) ?_]
           ·exact hrow k hk
           ·have:(cs.length/t.size+i)*t.size<=k*t.size:=ck _ (by omega)
            rw [Nat.add_mul] at this
            right;omega)
      exact ⟨_,w',R',rfl,h3,h4⟩
     ·cases h2
    ·cases h
  ·cases h
 ·cases h
end Sx
end
section
namespace Sx
open Go
theorem Ib {R:Ctx} {x:SV} {v:Value} {l:List SV} (hx:SV.rel R x v) (h:x.cells=some l):∃ vs,v.cells=vs.toArray/\SV.bz R l vs/\∀ u ∈ vs,u.oneCell'=true:=by
 have one:x.one=true->l= [x]->∃ vs,v.cells=vs.toArray/\SV.bz R l vs/\∀ u ∈ vs,u.oneCell'=true:=λho hl=>by
  subst hl
  have hv:=apj hx ho
  refine ⟨[v],?_,bc hx,by grind⟩
  cases v<;>first|rfl|(simp [Value.oneCell'] at hv)
 cases x<;>simp only [SV.cells] at h<;>
  first
  |grind
  |(exact one rfl (by grind))
  |(cases h
    obtain ⟨vs,rfl,h2,h3⟩:=hx
    exact ⟨vs,rfl,h2,h3⟩)
def Ctx.lay (R:Ctx) (n:Nat) (ch:Ch) (L:Option Loc):Ctx:= {R with hp:=λm=>if m=n then some ch else R.hp m,σ:=λm=>if m=n then L else R.σ m}
theorem Ctx.abL {R:Ctx} {n:Nat} (hn:R.hp n=none) (ch:Ch) (L:Option Loc):R.Ext (R.lay n ch L):=by
 refine ⟨λ_ _ h=>h,rfl,λc c1 hc=> ?_⟩
 grind [Ctx.lay]
theorem cz.lt {R:Ctx} {w:World} (hm:cz R w) {c:Nat} {ch:Ch} {L:Loc} (hc:R.hp c=some ch) (hmut:ch.body.mut=true) (hσ:R.σ c=some L):L.block<w.heap.size:=by
 have h:=hm.ch c ch hc
 obtain ⟨ep,body⟩:=ch
 cases body with
 |row t xs=>
  grind [eW]
 |frz t xs=>cases hmut
 |cells vs=>
  grind [eW]
theorem cz.MJ {R:Ctx} {w:World} (hm:cz R w):R.F w.heap.size=none:=by
 cases h:R.F w.heap.size with
 |none=>rfl
 |some o=>
  have:=(Array.getElem?_eq_some_iff.1 (hm.F _ _ h)).1
  omega
theorem cz.MG {R:Ctx} {w:World} (hm:cz R w):R.U w.heap.size=none:=by
 cases h:R.U w.heap.size with
 |none=>rfl
 |some o=>
  have:=(Array.getElem?_eq_some_iff.1 (hm.U _ _ h)).1
  omega
theorem cz.lay {R:Ctx} {w w':World} (hm:cz R w) {n:Nat} (hn:R.hp n=none) {ch:Ch} {L:Loc} (hL:L.block=w.heap.size)
 (mB:∀ b,b<w.heap.size->w'.heap[b]? =w.heap[b]?) (hok:eW (R.lay n ch (some L)) w' n ch) (hs:MI w w':=by exact ⟨rfl,rfl,rfl⟩):dL R (R.lay n ch (some L)) w' [(n,ch)]:=by
 have hx:=Ctx.abL hn ch (some L)
 refine ⟨hx,rfl,cz.turn hm hx rfl rfl (λm hm'=>by grind [Ctx.lay]) w.heap.size (by grind) ⟨hm.MJ,hm.MG,λm c2 L2 _ h2 m2 s2=> ?_⟩ hok (λL2 h2=> ?_) hs⟩
 ·have:=hm.lt h2 m2 s2
  omega
 grind [Ctx.lay]
theorem cz.aIf {R:Ctx} {w w':World} (hm:cz R w) {n:Nat} (hn:R.hp n=none) {ch:Ch}
 (mB:∀ b,b<w.heap.size->w'.heap[b]? =w.heap[b]?) (hok:eW (R.lay n ch none) w' n ch) (hs:MI w w':=by exact ⟨rfl,rfl,rfl⟩):dL R (R.lay n ch none) w' [(n,ch)]:=by
 have hx:=Ctx.abL hn ch none
 refine ⟨hx,rfl,cz.turn hm hx rfl rfl (λm hm'=>by grind [Ctx.lay]) w.heap.size (by grind) ⟨hm.MJ,hm.MG,λm c2 L2 _ h2 m2 s2=> ?_⟩ hok (λL2 h2=> ?_) hs⟩
 ·have:=hm.lt h2 m2 s2
  omega
 grind [Ctx.lay]
theorem cz.mB {R:Ctx} {w w':World} (hm:cz R w) (mB:∀ b,b<w.heap.size->w'.heap[b]? =w.heap[b]?) (hs:MI w w':=by exact ⟨rfl,rfl,rfl⟩):cz R w':=by
 have lt:∀ {b:Nat} {o:Obj},w.heap[b]? =some o->b<w.heap.size:=λh=>by grind
 refine ⟨λb o hb=> ?_,λb o hb=> ?_,λn ch hn=> ?_,hm.apart,hm.FU,hm.env.trans hs⟩
 ·have:=hm.F b o hb
  grind
 ·have:=hm.U b o hb
  grind
 ·have hc:=hm.ch n ch hn
  obtain ⟨ep,body⟩:=ch
  cases body with
  |row t xs=>
   grind [eW]
  |frz t xs=>exact hc
  |cells vs=>
   grind [eW]
theorem dL.nothing {R:Ctx} {w:World} (hm:cz R w):dL R R w []:=⟨Ctx.Ext.refl R,rfl,hm⟩
theorem oU (w:World) (o:Obj):∀ b,b<w.heap.size->(w.alloc o).heap[b]? =w.heap[b]? :=by grind [heap_alloc_old]
theorem aqF {R:Ctx} {w:World} (hm:cz R w) {n:Nat} (hn:R.hp n=none) {cs:List SV} {vs:List Value} (hr:SV.bz R cs vs) (h1:∀ u ∈ vs,u.oneCell'=true) (E:TypeId):
 dL R (R.lay n ⟨0,.cells cs⟩ (some ⟨w.heap.size,0,vs.length⟩)) (w.alloc (.cells vs.toArray E)) [(n,⟨0,.cells cs⟩)]:=by
 refine cz.lay hm hn rfl (oU w _) ?_
 refine ⟨⟨w.heap.size,0,vs.length⟩,by simp [Ctx.lay],hm.MJ,hm.MG,vs.toArray,E,heap_alloc_new w _,by simp,SV.aN hr,?_,by omega⟩
 grind [SV.eZ,Ctx.abL]
theorem Jr {R:Ctx} {w w':World} (hm:cz R w) {n:Nat} (hn:R.hp n=none) {t:Ty} (ht:0<t.size) {xs:List t.T} {arr:Array Value} {E:TypeId} (hl:xs.length<=cL)
 (hb:w'.heap[w.heap.size]? =some (.cells arr E (0,0))) (mB:∀ b,b<w.heap.size->w'.heap[b]? =w.heap[b]?) (hs:xs.length*t.size<=arr.size)
 (hr:∀ i,i<xs.length->Rep R.F t (xs.getD i t.d) (seg arr.toList (i*t.size) t.size)) (hlk:MI w w':=by exact ⟨rfl,rfl,rfl⟩):
 dL R (R.lay n ⟨0,.row t xs⟩ (some ⟨w.heap.size,0,arr.size⟩)) w' [(n,⟨0,.row t xs⟩)]:=by
 refine cz.lay hm hn rfl mB ?_ hlk
 simp only [eW,Ctx.lay]
 refine ⟨ht,hl,hm.MJ,hm.MG,arr,E,hb,by simp,hs,λi hi=> ?_⟩
 grind
theorem H8 {R:Ctx} {n:Nat} {ch:Ch} {L:Loc} (h0:ch.ep=0) (hb:L.base=0):SV.rel (R.lay n ch (some L)) (.ptr n 0 0 0) (.pointer (some ⟨L.block,0,none⟩)):=by
 refine ⟨(by simp),ch,by simp [Ctx.lay],by simp,λ_=>⟨L,by simp [Ctx.lay],by grind⟩⟩
theorem agw {R:Ctx} {w:World} (hm:cz R w) {t:Ty} {cs:List SV} {vs:List Value} (hr:SV.bz R cs vs) {m:Nat} {xs:List t.T}
 (h:((List.range m).mapM λi=>pack R.hp t ((cs.drop (i*t.size)).take t.size))=some xs):xs.length=m/\∀ i,i<m->Rep R.F t (xs.getD i t.d) (seg vs (i*t.size) t.size):=by
 obtain ⟨h1,h2⟩:=sO t.d h
 refine ⟨by grind,λi hi=> ?_⟩
 have:=h2 i (by grind)
 simp at this
 exact iF hm t _ _ _ this (SV.cX (SV.cY hr (i*t.size)) t.size)
theorem lZ {α β:Type} {f g:α->Option β} (hfg:∀ x y,f x=some y->g x=some y):∀ {l:List α} {r:List β},l.mapM f=some r->l.mapM g=some r
 | [],r,h=>by grind
 |x::l,r,h=>by
  simp at h⊢
  cases hx:f x with
  |none=>grind
  |some y=>
   rw [hx] at h
   cases hl:l.mapM f with
   |none=>grind
   |some ys=>
    rw [hl] at h
    rw [hfg _ _ hx,lZ hfg hl]
    omega
theorem A4 {hp:Hp}:∀ {t:Ty} {cs:List SV} {x:t.T},pack ap3 t cs=some x->pack hp t cs=some x
 |.bool,_,_,h|.u64,_,_,h|.u8,_,_,h|.int,_,_,h|.str,_,_,h|.elem,_,_,h=>h
 |.prod a b,cs,x,h=>by
  obtain ⟨h1,h2⟩:=aW h
  simp [pack,A4 h1,A4 h2,sF]
 |.arr n t,cs,x,h=>by
  simp only [pack] at h⊢
  split at h
  ·rename_i hl
   rw [if_pos hl]
   exact lZ (λ_ _=>A4) h
  grind
 |.list t,cs,x,h=>by
  obtain ⟨y,rfl,hy⟩:=oj h
  cases y<;>simp only [aea] at hy⊢ <;>first|exact hy|(cases hy)
theorem Fh {P:Program} {te:TE} {R:Ctx} {w:World} (hm:cz R w) {d:Nat} {T:TypeId} {v:Value} {cs:List SV} {vs:List Value} {e:Eff} (hv:v.cells=vs.toArray) (hr:SV.bz R cs vs)
 (h1:∀ u ∈ vs,u.oneCell'=true) (hlen:vs.length<=cL) (h:(Sx.newVar te R.hp d T cs).run=some e):
 ∃ ad w' R',(Go.newVar T v).run P w=.ok ad w'/\dL R R' w' e.upd/\SV.rel R' e.v (.pointer (some ad)):=by
 have hrun:(Go.newVar T v).run P w=.ok ⟨w.heap.size,0,none⟩ (w.alloc (.cells vs.toArray T)):=by
  simp [Go.newVar,newRow,hv]
 unfold Sx.newVar at h
 split at h
 ·cases h
 ·split at h
  ·cases h
  ·simp only at h
   split at h
   ·cases h
   ·have hn:R.hp (fresh R.hp d)=none:=by
     simp_all
    have plain:∀ e,(if cs.all SV.one=true then OT.ok (Eff.mk (.ptr (fresh R.hp d) 0 0 0) [(fresh R.hp d,⟨0,.cells cs⟩)]) else .fail).run=some e->
     ∃ ad w' R',(Go.newVar T v).run P w=.ok ad w'/\dL R R' w' e.upd/\SV.rel R' e.v (.pointer (some ad)):=λe he=>by
     split at he
     ·cases he
      exact ⟨_,_,_,hrun,aqF hm hn hr h1 T,H8 rfl rfl⟩
     ·cases he
    split at h
    ·split at h
     ·split at h
      ·rename_i t _ hc
       split at h
       ·rename_i xs hx
        cases h
        obtain ⟨h2,h3⟩:=agw hm hr (lZ (λ_ _=>A4) hx)
        have hl:=SV.aN hr
        refine ⟨_,_,_,hrun,Jr hm hn hc.2 (E:=T) (arr:=vs.toArray) ?_ (heap_alloc_new w _) (oU w _) (by simp [h2,hl,hc.1]) (λi hi=> ?_),H8 rfl rfl⟩
        ·have h5:xs.length*1<=xs.length*t.size:=Nat.mul_le_mul_left _ hc.2
         grind
        grind
       ·exact plain e h
      ·exact plain e h
     ·exact plain e h
    ·exact plain e h
end Sx
end
section
namespace Sx
open Go
structure fe (P:Program) (T:TypeId) (ti:TI):Prop where
 aE4:∃ i z,P.info? T=some i/\i.size=ti.size/\i.bytes=ti.bytes/\i.zero=some z/\z.cells.toList.map Ff=ti.zero/\z.cells.size=ti.size/\∀ u ∈ z.cells.toList,u.oneCell'=true
 small:ti.size<=16777216
 one:ti.desc.agg=false->ti.size=1
 desc:∃ d,P.underlying T=some d/\match ti.desc with
  |.struct fs=>∃ fields,d=.struct fields/\fields.toList.map (λf=>(f.offset,f.type))=fs/\(∀ f ∈ fields.toList,f.name≠ "_")/\P.stoodInHeld T=false/\
   (fields.toList.mapM (λf=>(P.info? f.type).map λi=>(f.offset,i.size))).isSome=true
  |.array n e=>d=.array n e
  |.slice e=>d=.slice e
  |.int k=>d=.int k
  |.bool=>d=.bool
  |.str=>d=.string
  |.ptr ms=>(∃ e,d=.pointer e)/\∀ nf ∈ ms,∃ i m,P.info? T=some i/\i.methods.find? (λq=>q.name==nf.1)=some m/\m.path= #[]/\m.func=some (nf.2,true)
  |.iface=>∃ ms,d=.interface ms
  |.other=>(match d with|.struct _|.array .. =>False|_=>True)
 ty:∀ t,ti.ty=some t->t.size=ti.size/\(∀ F z,((P.info? T).bind (·.zero))=some z->Rep F t t.d z.cells.toList)/\(ti.desc.agg=true->P.eqGuardType P.depth T=false)
def kq (P:Program) (te:TE):Prop:=∀ T ti,te T=some ti->fe P T ti
theorem M0 {R:Ctx}:∀ (v:Value),SV.rel R (Ff v) v:=by
 intro v
 unfold Ff
 split<;>try (simp only [SV.rel];done)
 ·split
  ·rename_i n h
   simp only [SV.rel,eD]
   rw [dv]
   congr 1
   omega
  ·simp only [SV.rel]
 ·split
  ·rename_i n h
   simp only [SV.rel,vu8]
   rw [UInt8.toNat_ofNat']
   congr 1
   omega
  ·simp only [SV.rel]
 ·split
  ·rename_i n h
   simp only [SV.rel,true_and]
   exact h
  ·simp only [SV.rel]
 ·split
  ·rename_i s h
   simp only [SV.rel,true_and]
   simpa using h
  ·simp only [SV.rel]
 ·simp [SV.rel]
theorem xS {R:Ctx}:∀ (vs:List Value),SV.bz R (vs.map Ff) vs
 | []=>uR
 |v::vs=>by
  simp only [List.map_cons,SV.bz]
  exact ⟨v,vs,rfl,M0 v,xS vs⟩
section
variable {P:Program} {T:TypeId} {ti:TI} (h:fe P T ti)
include h
theorem fe.run_sizeOf (w:World):(sizeOf T).run P w=.ok ti.size w:=by
 obtain ⟨i,z,h1,h2,_⟩:=h.aE4
 simp [sizeOf,typeInfo,h1,h2]
theorem fe.H2 (w:World):(isAgg T).run P w=.ok ti.desc.agg w:=by
 obtain ⟨d,h1,h2⟩:=h.desc
 unfold isAgg
 rw [Sem.run_bind,run_underlying h1 w]
 cases hd:ti.desc<;>rw [hd] at h2<;>simp only at h2
 case struct=>obtain ⟨_,rfl,_⟩:=h2;rfl
 case ptr=>obtain ⟨⟨_,rfl⟩,_⟩:=h2;rfl
 case iface=>obtain ⟨_,rfl⟩:=h2;rfl
 case other=>cases d<;>first|exact h2.elim|rfl
 all_goals (subst h2;rfl)
theorem fe.awI (w:World) (cs:Array Value) (off:Nat) (hn:off+ti.size<=cs.size) (hs:ti.desc.agg=false->ti.size=1):
 (part T cs off).run P w=.ok (if ti.desc.agg then .agg (seg cs.toList off ti.size).toArray else cs.getD off Go.undef) w:=by
 unfold part
 rw [Sem.run_bind,h.H2 w,Result.andThen_ok]
 cases ha:ti.desc.agg
 ·have:=hs ha
  simp only [Bool.false_eq_true,if_false]
  rw [Array.getElem?_eq_getElem (by omega)]
  simp [Array.getD,show off<cs.size by omega]
 ·simp only [if_true]
  rw [Sem.run_bind,h.run_sizeOf w,Result.andThen_ok]
  have:cs.extract off (off+ti.size)=(seg cs.toList off ti.size).toArray:=by
   apply Array.ext'
   simp [seg]
  rw [this]
  rfl
end
def valOf (agg:Bool) (vs:List Value):Value:=if agg then .agg vs.toArray else vs.getD 0 Go.undef
theorem Yx {x y:Option Bool} {b:Bool} (h:aG0 x y=some b):∃ a c,x=some a/\y=some c/\b=(a&&c):=by
 cases x<;>cases y<;>simp only [aG0] at h<;>first|(cases h;done)|skip
 exact ⟨_,_,rfl,rfl,(Option.some.inj h).symm⟩
theorem aok (a b:UInt64):((a.toNat:Int)==(b.toNat:Int))=(a==b):=by
 rw [Bool.eq_iff_iff]
 simp only [beq_iff_eq]
 constructor
 ·intro h
  exact UInt64.toNat_inj.1 (by omega)
 ·intro h;rw [h]
theorem azY (a b:UInt8):((a.toNat:Int)==(b.toNat:Int))=(a==b):=by
 rw [Bool.eq_iff_iff]
 simp only [beq_iff_eq]
 constructor
 ·intro h
  exact UInt8.toNat_inj.1 (by omega)
 ·intro h;rw [h]
theorem aoU (a b:List UInt8):((⟨a.toArray⟩:ByteArray).toList==(⟨b.toArray⟩:ByteArray).toList)=(a==b):=by
 simp [ByteArray.toList_eq]
theorem adi {P:Program} {R:Ctx} {w:World} {T:TypeId} {ti:TI} (ht:fe P T ti) {l r:List SV} {a b:List Value} {z:Bool} (h:amH ti.desc l r=some z) (ha:SV.bz R l a) (hb:SV.bz R r b) (d:Nat):
 ti.desc.agg=false/\(Op.equalIn (d+1) T (a.getD 0 Go.undef) (b.getD 0 Go.undef)).run P w=.ok z w:=by
 unfold amH at h
 split at h
 ·obtain ⟨x,rfl,hx⟩:=bY ha
  obtain ⟨y,rfl,hy⟩:=bY hb
  obtain ⟨ds,h1,h2⟩:=ht.desc
  unfold ahI at h
  split at h<;>first|(cases h;done)|skip
  all_goals
   rename_i hd
   rw [hd] at h2
   simp only at h2
   subst h2
   cases h
   simp only [SV.rel] at hx hy
   refine ⟨by rw [hd];rfl,?_⟩
  ·subst hx;subst hy;exact run_equalIn_bool' w d T _ _ h1
  ·subst hx;subst hy
   simp only [List.getD_cons_zero,eD]
   rw [run_equalIn_int w d T _ _ _ _ h1,aok]
  ·subst hx;subst hy
   simp only [List.getD_cons_zero,vu8]
   rw [run_equalIn_int w d T _ _ _ _ h1,azY]
  ·rw [hx.1,hy.1];exact run_equalIn_int w d T _ _ _ _ h1
  ·rw [hx.1,hy.1]
   simp only [List.getD_cons_zero]
   rw [run_equalIn_string w d T _ _ h1,aoU]
 ·cases h
end Sx
end
section
namespace Sx
open Go
def Xi (d:Nat) (e:TypeId) (s:Nat) (xs ys:Array Value):(m i:Nat)->Sem Bool
 |0,_=>pure true
 |m+1,i=>do
  let a <-part e xs (i*s)
  let b <-part e ys (i*s)
  let r <-Op.equalIn d e a b
  if (!r)=true then pure false else Xi d e s xs ys m (i+1)
theorem run_equalIn_array {P:Program} (w:World) (d n s:Nat) (t e:TypeId) (xs ys:Array Value) (h:P.underlying t=some (.array n e)) (hs:(sizeOf e).run P w=.ok s w):
 (Op.equalIn (d+1) t (.agg xs) (.agg ys)).run P w=(Xi d e s xs ys n 0).run P w:=by
 simp only [Op.equalIn,Sem.run_bind,run_underlying h,Result.andThen_ok,hs]
 rw [Std.Legacy.Range.forIn_eq_forIn_range']
 simp only [Std.Legacy.Range.size,Nat.sub_zero,Nat.add_sub_cancel,Nat.div_one]
 clear h hs
 generalize (0:Nat)=i
 induction n generalizing w i with
 |zero=>simp [Xi]
 |succ n ih=>
  simp only [List.range'_succ,List.forIn_cons,Xi,Sem.run_bind]
  generalize (part e xs (i*s)).run P w=r1
  cases r1 with
  |halt x w1=>simp [Result.andThen]
  |ok a w1=>
   simp only [Result.andThen_ok]
   generalize (part e ys (i*s)).run P w1=r2
   cases r2 with
   |halt x w2=>simp [Result.andThen]
   |ok b w2=>
    simp only [Result.andThen_ok]
    generalize (Op.equalIn d e a b).run P w2=r3
    cases r3 with
    |halt x w3=>simp [Result.andThen]
    |ok r w3=>
     cases r
     ·simp only [Result.andThen_ok,Bool.not_false,if_true,Sem.run_pure]
     ·simp only [Result.andThen_ok,Bool.not_true,Bool.false_eq_true,if_false,Sem.run_pure]
      exact ih w3 (i+1)
theorem uP {R:Ctx} {l:List SV} {vs:List Value} (h:SV.bz R l vs) (o n:Nat):SV.bz R (sub l o n) (seg vs o n):=SV.cX (SV.cY h o) n
theorem ve {P:Program} {T:TypeId} {ti:TI} (ht:fe P T ti) (w:World) (vs:List Value) (off:Nat) (hn:off+ti.size<=vs.length) (hs:ti.desc.agg=false->ti.size=1):
 (part T vs.toArray off).run P w=.ok (valOf ti.desc.agg (seg vs off ti.size)) w:=by
 rw [ht.awI w vs.toArray off (by simpa using hn) hs]
 unfold valOf
 cases ha:ti.desc.agg
 ·have:=hs ha
  have h0:off<vs.length:=by omega
  simp only [Bool.false_eq_true,if_false]
  congr 1
  rw [this]
  unfold seg
  rw [mZ h0]
  simp [Array.getD,h0]
 ·rfl
theorem ahp {te:TE} {n:Nat} {T:TypeId} {ti:TI} (hT:te T=some ti) (ha:ti.desc.agg=false) {l r:List SV} {z:Bool} (h:ayF te (n+1) T l r=some z):amH ti.desc l r=some z:=by
 simp only [ayF,hT] at h
 cases hd:ti.desc<;>rw [hd] at h ha<;>simp only at h<;>first|exact h|(cases ha;done)
theorem Xh {d:TD} {l r:List SV} {z:Bool} (h:amH d l r=some z):l.length=1/\r.length=1:=by
 unfold amH at h
 split at h
 ·exact ⟨rfl,rfl⟩
 ·cases h
theorem MU {l:List SV} {o n:Nat} (h:o+n<=l.length):(sub l o n).length=n:=by
 simp only [sub,bQ,cq];omega
theorem Eh {P:Program} {te:TE} (hte:kq P te) {R:Ctx} {w:World}:∀ (n:Nat) (T:TypeId) (ti:TI) (_:te T=some ti) (l r:List SV) (a b:List Value) (z:Bool) (d:Nat),
 n<=d->ayF te n T l r=some z->SV.bz R l a->SV.bz R r b->(Op.equalIn d T (valOf ti.desc.agg a) (valOf ti.desc.agg b)).run P w=.ok z w
 |0,T,ti,hT,l,r,a,b,z,d,_,h,_,_=>by cases h
 |n+1,T,ti,hT,l,r,a,b,z,0,hd,_,_,_=>by omega
 |n+1,T,ti,hT,l,r,a,b,z,d+1,hd,h,hl,hr=>by
  have ht:=hte T ti hT
  have one:∀ (T:TypeId) (ti:TI),te T=some ti->∀ (m:Nat) (l r:List SV) (z:Bool),ayF te m T l r=some z->l.length=ti.size->ti.desc.agg=false->ti.size=1:=by
   intro T ti hT m l r z h hl ha
   cases m with
   |zero=>cases h
   |succ m=>rw [<-hl];exact (Xh (ahp hT ha h)).1
  cases ha:ti.desc.agg
  ·have h1:=ahp hT ha h
   exact (adi ht h1 hl hr d).2
  ·obtain ⟨ds,h1,h2⟩:=ht.desc
   simp only [ayF,hT] at h
   have ll:=SV.aN hl
   have lr:=SV.aN hr
   cases hdesc:ti.desc<;>rw [hdesc] at h h2 ha<;>simp only at h h2<;>first|(cases ha;done)|skip
   ·rename_i fs
    obtain ⟨fields,rfl,h3,h4,h5,_⟩:=h2
    have hf:P.fieldsOf T=fields:=by simp [Program.fieldsOf,h1]
    simp only [valOf,if_true]
    rw [run_equalIn_struct w d T _ _ (by rw [hf];exact h1) h5,hf]
    clear h1 h5 hf ht hdesc ha
    generalize fields.toList=gs at h3 h4
    induction gs generalizing fs z with
    |nil=>
     simp only [List.map_nil] at h3
     subst h3
     cases h
     rfl
    |cons f gs ih=>
     cases fs with
     |nil=>simp at h3
     |cons p fs=>
      obtain ⟨o,U⟩:=p
      simp only [List.map_cons,List.cons.injEq,Prod.mk.injEq] at h3
      obtain ⟨⟨rfl,rfl⟩,h3⟩:=h3
      simp only [aHD] at h
      split at h
      ·rename_i fi hfi
       split at h
       ·rename_i hle
        obtain ⟨x,y,hx,hy,rfl⟩:=Yx h
        have hs1:=one f.type fi hfi n _ _ _ hx (MU hle.1)
        have p1:=ve (hte _ _ hfi) w a f.offset (by omega) hs1
        have p2:=ve (hte _ _ hfi) w b f.offset (by omega) hs1
        have e1:=Eh hte (w:=w) n f.type fi hfi _ _ _ _ x d (by omega) hx (uP hl f.offset fi.size) (uP hr f.offset fi.size)
        have ih':=ih y fs hy h3 (λg hg=>h4 g (by simp [hg]))
        simp only [Op.eqFields,h4 f (by simp),ne_eq,not_false_eq_true,if_true,Sem.run_bind,p1,p2,e1,Result.andThen_ok]
        cases x
        ·simp
        ·simpa using ih'
       ·cases h
      ·cases h
   ·rename_i m e
    subst h2
    split at h
    ·rename_i ei hei
     have he:=hte e ei hei
     simp only [valOf,if_true]
     rw [run_equalIn_array w d m ei.size T e _ _ h1 (he.run_sizeOf w)]
     clear h1 ht hdesc ha
     generalize (0:Nat)=i at h
     induction m generalizing i z with
     |zero=>cases h;rfl
     |succ m ih=>
      simp only [aEd] at h
      split at h
      ·rename_i hle
       obtain ⟨x,y,hx,hy,rfl⟩:=Yx h
       have hs1:=one e ei hei n _ _ _ hx (MU hle.1)
       have p1:=ve he w a (i*ei.size) (by omega) hs1
       have p2:=ve he w b (i*ei.size) (by omega) hs1
       have e1:=Eh hte (w:=w) n e ei hei _ _ _ _ x d (by omega) hx (uP hl (i*ei.size) ei.size) (uP hr (i*ei.size) ei.size)
       have ih':=ih y (i+1) hy
       simp only [Xi,Sem.run_bind,p1,p2,e1,Result.andThen_ok]
       cases x
       ·simp
       ·simpa using ih'
      ·cases h
    ·cases h
end Sx
end
section
namespace Sx
open Go
theorem wrap_u64 (n:Int):IntKind.u64.wrap n=n%18446744073709551616:=by
 simp only [IntKind.wrap,IntKind.bits,IntKind.signed,Bool.false_and,Bool.false_eq_true,if_false];rfl
theorem wrap_u8 (n:Int):IntKind.u8.wrap n=n%256:=by
 simp only [IntKind.wrap,IntKind.bits,IntKind.signed,Bool.false_and,Bool.false_eq_true,if_false];rfl
theorem DP {n:Int}:inR n=true ↔-9223372036854775808<=n/\n<=9223372036854775807:=by simp [inR]
theorem wrap_i64 (n:Int):IntKind.i64.wrap n=if n%18446744073709551616≥9223372036854775808 then n%18446744073709551616-18446744073709551616 else n%18446744073709551616:=by
 have e1:(2:Int)^IntKind.i64.bits=18446744073709551616:=by rfl
 have e2:(2:Int)^(IntKind.i64.bits-1)=9223372036854775808:=by rfl
 simp only [IntKind.wrap,IntKind.signed,Bool.true_and,e1,e2]
 simp only [ge_iff_le,decide_eq_true_eq]
theorem iI {n:Int} (h:inR n=true):IntKind.i64.wrap n=n:=by
 rw [DP] at h
 rw [wrap_i64]
 split<;>omega
theorem DO (n:Int):inR (w64 n)=true:=by
 rw [DP,w64,wrap_i64]
 split<;>omega
def lq (P:Program) (R:Ctx) (w:World) (s:Sem Value) (x:SV):Prop:=∃ v,s.run P w=.ok v w/\SV.rel R x v
section
variable {P:Program} {R:Ctx} {w:World}
theorem df {s:Sem Value} {x:UInt64} (h:s.run P w=.ok (eD x) w):lq P R w s (.u64 x):=⟨_,h,by simp only [SV.rel]⟩
theorem fK {s:Sem Value} {x:UInt8} (h:s.run P w=.ok (vu8 x) w):lq P R w s (.u8 x):=⟨_,h,by simp only [SV.rel]⟩
theorem cE {s:Sem Value} {x:Int} (h:s.run P w=.ok (.int .i64 x) w) (hr:inR x=true):lq P R w s (.int x):=⟨_,h,by simp only [SV.rel,true_and];exact hr⟩
theorem dl {s:Sem Value} {x:Bool} (h:s.run P w=.ok (.bool x) w):lq P R w s (.bool x):=⟨_,h,by simp only [SV.rel]⟩
theorem axr (x:UInt64):(x.toNat:Int)<18446744073709551616:=by have:=x.toNat_lt;omega
theorem lt8 (x:UInt8):(x.toNat:Int)<256:=by have:=x.toNat_lt;omega
theorem auh (a b:UInt64):((a.toNat:Int)+b.toNat)%18446744073709551616=((a+b).toNat:Int):=by
 rw [UInt64.toNat_add];omega
theorem Ub (a b:UInt64):((a.toNat:Int)-b.toNat)%18446744073709551616=((a-b).toNat:Int):=by
 have:=axr a;have:=axr b
 rw [UInt64.toNat_sub];omega
theorem ap9 (a b:UInt64):((a.toNat:Int)*b.toNat)%18446744073709551616=((a*b).toNat:Int):=by
 rw [UInt64.toNat_mul];simp
theorem azB (a b:UInt8):((a.toNat:Int)+b.toNat)%256=((a+b).toNat:Int):=by
 rw [UInt8.toNat_add];omega
theorem awy (a b:UInt8):((a.toNat:Int)-b.toNat)%256=((a-b).toNat:Int):=by
 have:=lt8 a;have:=lt8 b
 rw [UInt8.toNat_sub];omega
theorem K1 (a:UInt64):BitVec.ofInt 64 (a.toNat:Int)=a.toBitVec:=by
 apply BitVec.eq_of_toNat_eq
 simp
theorem adJ (a:UInt8):BitVec.ofInt 8 (a.toNat:Int)=a.toBitVec:=by
 apply BitVec.eq_of_toNat_eq
 simp
theorem asG (a b:UInt64):((a.toNat:Int).tdiv b.toNat)%18446744073709551616=((a/b).toNat:Int):=by
 rw [UInt64.toNat_div,Int.tdiv_eq_ediv_of_nonneg (by omega)]
 have h1:((a.toNat/b.toNat:Nat):Int)=(a.toNat:Int)/b.toNat:=by simp
 rw [<-h1]
 have h2:=Nat.div_le_self a.toNat b.toNat
 have h3:=axr a
 generalize a.toNat/b.toNat=q at h2⊢
 omega
theorem aqp (a b:UInt64):((a.toNat:Int).tmod b.toNat)=((a%b).toNat:Int):=by
 rw [UInt64.toNat_mod,Int.tmod_eq_emod_of_nonneg (by omega)]
 simp
theorem HY (a n:Nat):a<<<n=a*2^n:=Nat.shiftLeft_eq a n
theorem aap (a n:Nat):a>>>n=a/2^n:=Nat.shiftRight_eq_div_pow a n
theorem HZ (a:UInt64) (n:Int) (h:0<=n):((a.toNat:Int)*2^(min n.toNat 64))%18446744073709551616=((cC a n).toNat:Int):=by
 unfold cC
 split
 ·rename_i h2
  have h3:n.toNat<64:=by omega
  have h4:(UInt64.ofNat n.toNat).toNat=n.toNat:=by rw [dv];omega
  rw [show min n.toNat 64=n.toNat by omega,UInt64.toNat_shiftLeft,h4,bm h3,HY]
  simp
 ·rw [show min n.toNat 64=64 by omega]
  simp
theorem HX (a:UInt64) (n:Int) (h:0<=n):(a.toNat:Int).fdiv (2^(min n.toNat 64))=((bC a n).toNat:Int):=by
 unfold bC
 rw [Int.fdiv_eq_ediv_of_nonneg _ (by exact Int.pow_nonneg (by omega))]
 split
 ·rename_i h2
  have h3:n.toNat<64:=by omega
  have h4:(UInt64.ofNat n.toNat).toNat=n.toNat:=by rw [dv];omega
  rw [show min n.toNat 64=n.toNat by omega,UInt64.toNat_shiftRight,h4,bm h3,aap]
  simp
 ·rw [show min n.toNat 64=64 by omega]
  have:=axr a
  simp;omega
theorem aFg (a b:UInt64):((a.toNat:Int)<b.toNat) ↔ a<b:=by rw [UInt64.lt_iff_toNat_lt];omega
theorem aFh (a b:UInt64):((a.toNat:Int)<=b.toNat) ↔ a<=b:=by rw [UInt64.le_iff_toNat_le];omega
theorem aHX (a b:UInt8):((a.toNat:Int)<b.toNat) ↔ a<b:=by rw [UInt8.lt_iff_toNat_lt];omega
theorem aHY (a b:UInt8):((a.toNat:Int)<=b.toNat) ↔ a<=b:=by rw [UInt8.le_iff_toNat_le];omega
end
end Sx
end
section
namespace Sx
open Go
section
variable {P:Program} {R:Ctx} {w:World}
theorem acp {op:BinOp} {T:TypeId} {X Y:Operand} {a b:Value} (h:op≠ .eql/\op≠ .neq):
 ((do eqGuard op T X Y a b;binOp op T a b):Sem Value).run P w=(binOp op T a b).run P w:=by simp_all [eqGuard]
theorem asi {a:Int} (h:inR a=true) (n:Nat):inR (a.fdiv (2^n))=true:=by
 rw [DP] at h⊢
 have hp:(0:Int)<2^n:=Int.pow_pos (by simp)
 rw [Int.fdiv_eq_ediv_of_nonneg _ (by omega)]
 have h1:(1:Int)<=2^n:=by omega
 generalize (2:Int)^n=q at hp h1⊢
 constructor
 ·refine (Int.le_ediv_iff_mul_le hp).2 ?_
  omega
 ·by_cases h0:0<=a
  ·have:=Int.ediv_le_self q h0
   omega
  ·have:=Int.ediv_neg_of_neg_of_pos (Int.not_le.1 h0) hp
   omega
theorem aoB {a b:Int} (h:0<=a):0<=a.tmod b/\a.tmod b<=a:=by
 have h1:=Int.tmod_nonneg b h
 have h2:(a.tmod b).natAbs<=a.natAbs:=by
  simp [Nat.mod_le]
 omega
theorem aCw {a b:Int} (h:inR a=true):inR (a.tmod b)=true:=by
 rw [DP] at h⊢
 by_cases h0:0<=a
 ·have:=aoB (b:=b) h0
  omega
 ·have:=aoB (a:= -a) (b:=b) (by omega)
  have e:a= -(-a):=by simp
  rw [e,Int.neg_tmod]
  omega
theorem ad3 {te:TE} {T:TypeId} {op:BinOp} {X Y:Operand} {x y z:SV} {a b:Value} (h:(ah6 te T op x y).run=some z) (ho:op≠ .eql/\op≠ .neq)
 (hx:SV.rel R x a) (hy:SV.rel R y b):lq P R w (do eqGuard op T X Y a b;binOp op T a b) z:=by
 have g:=acp (P:=P) (w:=w) (T:=T) (X:=X) (Y:=Y) (a:=a) (b:=b) ho
 have start:∀ z,lq P R w (binOp op T a b) z->lq P R w (do eqGuard op T X Y a b;binOp op T a b) z:=λz ⟨v,h1,h2⟩=>⟨v,g.trans h1,h2⟩
 apply start
 clear g start
 unfold ah6 at h
 split at h<;>(try simp only [SV.rel] at hx hy)
 ·obtain ⟨h1,h2⟩:=OT.aE h;cases h2;subst hx;rw [hy.1]
  have h1:=bn h1
  refine df ?_
  simp only [binOp,eD,Op.shift,if_neg (Int.not_lt.2 h1),wrap_u64,Sem.run_pure,IntKind.bits]
  rw [HZ _ _ h1]
 ·obtain ⟨h1,h2⟩:=OT.aE h;cases h2;subst hx;rw [hy.1]
  have h1:=bn h1
  refine df ?_
  simp only [binOp,eD,Op.shift,if_neg (Int.not_lt.2 h1),Sem.run_pure,IntKind.bits]
  rw [HX _ _ h1]
 ·rename_i n;cases h;subst hx;subst hy
  have h1:(0:Int)<=n.toNat:=by omega
  refine df ?_
  simp only [binOp,eD,Op.shift,if_neg (Int.not_lt.2 h1),wrap_u64,Sem.run_pure,IntKind.bits]
  rw [HZ _ _ h1]
 ·rename_i n;cases h;subst hx;subst hy
  have h1:(0:Int)<=n.toNat:=by omega
  refine df ?_
  simp only [binOp,eD,Op.shift,if_neg (Int.not_lt.2 h1),Sem.run_pure,IntKind.bits]
  rw [HX _ _ h1]
 ·obtain ⟨h1,h2⟩:=OT.aE h;cases h2;rw [hx.1,hy.1]
  have h1:=bn h1
  refine cE ?_ (DO _)
  simp only [binOp,Op.shift,if_neg (Int.not_lt.2 h1),Sem.run_pure,IntKind.bits]
  rfl
 ·obtain ⟨h1,h2⟩:=OT.aE h;cases h2;rw [hx.1,hy.1]
  have h1:=bn h1
  refine cE ?_ (asi hx.2 _)
  simp only [binOp,Op.shift,if_neg (Int.not_lt.2 h1),Sem.run_pure,IntKind.bits]
  rfl
 ·rename_i n;cases h;rw [hx.1];subst hy
  have h1:(0:Int)<=n.toNat:=by omega
  refine cE ?_ (DO _)
  simp only [binOp,eD,Op.shift,if_neg (Int.not_lt.2 h1),Sem.run_pure,IntKind.bits]
  rfl
 ·rename_i n;cases h;rw [hx.1];subst hy
  have h1:(0:Int)<=n.toNat:=by omega
  refine cE ?_ (asi hx.2 _)
  simp only [binOp,eD,Op.shift,if_neg (Int.not_lt.2 h1),Sem.run_pure,IntKind.bits]
  rfl
 ·cases h;subst hx;subst hy
  refine df ?_
  simp only [binOp,eD,ne_eq,not_true_eq_false,if_false,Op.intArith,wrap_u64,Sem.run_pure]
  rw [auh]
 ·cases h;subst hx;subst hy
  refine df ?_
  simp only [binOp,eD,ne_eq,not_true_eq_false,if_false,Op.intArith,wrap_u64,Sem.run_pure]
  rw [Ub]
 ·cases h;subst hx;subst hy
  refine df ?_
  simp only [binOp,eD,ne_eq,not_true_eq_false,if_false,Op.intArith,wrap_u64,Sem.run_pure]
  rw [ap9]
 ·rename_i b
  obtain ⟨h1,h2⟩:=OT.aE h;cases h2;subst hx;subst hy
  have h0:¬((b.toNat:Int)=0):=λe=>by
   have:b=0:=UInt64.toNat_inj.1 (by simpa using e)
   simp [this] at h1
  refine df ?_
  simp only [binOp,eD,ne_eq,not_true_eq_false,if_false,Op.intDiv,if_neg h0,wrap_u64,Sem.run_pure]
  rw [asG]
 ·rename_i b
  obtain ⟨h1,h2⟩:=OT.aE h;cases h2;subst hx;subst hy
  have h0:¬((b.toNat:Int)=0):=λe=>by
   have:b=0:=UInt64.toNat_inj.1 (by simpa using e)
   simp [this] at h1
  refine df ?_
  simp only [binOp,eD,ne_eq,not_true_eq_false,if_false,Op.intDiv,if_neg h0,Sem.run_pure]
  rw [aqp]
 ·rename_i a b
  cases h;subst hx;subst hy
  refine df ?_
  have:=axr (a&&&b)
  simp only [binOp,eD,ne_eq,not_true_eq_false,if_false,Op.intBits,wrap_u64,Sem.run_pure]
  rw [show IntKind.u64.bits=64 from rfl,K1,K1,<-UInt64.toBitVec_and,UInt64.toNat_toBitVec]
  congr 2
  omega
 ·rename_i a b
  cases h;subst hx;subst hy
  refine df ?_
  have:=axr (a|||b)
  simp only [binOp,eD,ne_eq,not_true_eq_false,if_false,Op.intBits,wrap_u64,Sem.run_pure]
  rw [show IntKind.u64.bits=64 from rfl,K1,K1,<-UInt64.toBitVec_or,UInt64.toNat_toBitVec]
  congr 2
  omega
 ·rename_i a b
  cases h;subst hx;subst hy
  refine df ?_
  have:=axr (a^^^b)
  simp only [binOp,eD,ne_eq,not_true_eq_false,if_false,Op.intBits,wrap_u64,Sem.run_pure]
  rw [show IntKind.u64.bits=64 from rfl,K1,K1,<-UInt64.toBitVec_xor,UInt64.toNat_toBitVec]
  congr 2
  omega
 ·rename_i a b
  cases h;subst hx;subst hy
  refine dl ?_
  simp only [binOp,eD,ne_eq,not_true_eq_false,if_false,Op.intCmp,Sem.run_pure,gt_iff_lt,ge_iff_le]
  simp only [aFg]
 ·rename_i a b
  cases h;subst hx;subst hy
  refine dl ?_
  simp only [binOp,eD,ne_eq,not_true_eq_false,if_false,Op.intCmp,Sem.run_pure,gt_iff_lt,ge_iff_le]
  simp only [aFh]
 ·rename_i a b
  cases h;subst hx;subst hy
  refine dl ?_
  simp only [binOp,eD,ne_eq,not_true_eq_false,if_false,Op.intCmp,Sem.run_pure,gt_iff_lt,ge_iff_le]
  simp only [aFg]
 ·rename_i a b
  cases h;subst hx;subst hy
  refine dl ?_
  simp only [binOp,eD,ne_eq,not_true_eq_false,if_false,Op.intCmp,Sem.run_pure,gt_iff_lt,ge_iff_le]
  simp only [aFh]
 ·cases h;subst hx;subst hy
  refine fK ?_
  simp only [binOp,vu8,ne_eq,not_true_eq_false,if_false,Op.intArith,wrap_u8,Sem.run_pure]
  rw [azB]
 ·cases h;subst hx;subst hy
  refine fK ?_
  simp only [binOp,vu8,ne_eq,not_true_eq_false,if_false,Op.intArith,wrap_u8,Sem.run_pure]
  rw [awy]
 ·rename_i a b
  cases h;subst hx;subst hy
  refine fK ?_
  have:=lt8 (a&&&b)
  simp only [binOp,vu8,ne_eq,not_true_eq_false,if_false,Op.intBits,wrap_u8,Sem.run_pure]
  rw [show IntKind.u8.bits=8 from rfl,adJ,adJ,<-UInt8.toBitVec_and,UInt8.toNat_toBitVec]
  congr 2
  omega
 ·rename_i a b
  cases h;subst hx;subst hy
  refine fK ?_
  have:=lt8 (a|||b)
  simp only [binOp,vu8,ne_eq,not_true_eq_false,if_false,Op.intBits,wrap_u8,Sem.run_pure]
  rw [show IntKind.u8.bits=8 from rfl,adJ,adJ,<-UInt8.toBitVec_or,UInt8.toNat_toBitVec]
  congr 2
  omega
 ·rename_i a b
  cases h;subst hx;subst hy
  refine fK ?_
  have:=lt8 (a^^^b)
  simp only [binOp,vu8,ne_eq,not_true_eq_false,if_false,Op.intBits,wrap_u8,Sem.run_pure]
  rw [show IntKind.u8.bits=8 from rfl,adJ,adJ,<-UInt8.toBitVec_xor,UInt8.toNat_toBitVec]
  congr 2
  omega
 ·rename_i a n
  obtain ⟨h1,h2⟩:=OT.aE h;cases h2;subst hx;rw [hy.1]
  simp only [aw,decide_eq_true_eq] at h1
  refine fK ?_
  have h4:(UInt8.ofNat n.toNat).toNat=n.toNat:=by rw [UInt8.toNat_ofNat'];omega
  have h3:n.toNat<8:=by omega
  simp only [binOp,vu8,Op.shift,if_neg (Int.not_lt.2 h1.1),Sem.run_pure,IntKind.bits]
  rw [Int.fdiv_eq_ediv_of_nonneg _ (by exact Int.pow_nonneg (by omega)),show min n.toNat 8=n.toNat by omega,UInt8.toNat_shiftRight,h4,bm h3,aap]
  simp
 ·rename_i a n
  obtain ⟨h1,h2⟩:=OT.aE h;cases h2;subst hx;rw [hy.1]
  simp only [aw,decide_eq_true_eq] at h1
  refine fK ?_
  have h4:(UInt8.ofNat n.toNat).toNat=n.toNat:=by rw [UInt8.toNat_ofNat'];omega
  have h3:n.toNat<8:=by omega
  simp only [binOp,vu8,Op.shift,if_neg (Int.not_lt.2 h1.1),wrap_u8,Sem.run_pure,IntKind.bits]
  rw [show min n.toNat 8=n.toNat by omega,UInt8.toNat_shiftLeft,h4,bm h3,HY]
  simp
 ·rename_i a n
  obtain ⟨h1,h2⟩:=OT.aE h;cases h2;subst hx;subst hy
  have h3:n.toNat<8:=bn h1
  refine fK ?_
  have h4:(UInt8.ofNat n.toNat).toNat=n.toNat:=by rw [UInt8.toNat_ofNat'];omega
  have h0:(0:Int)<=(n.toNat:Int):=by omega
  simp only [binOp,vu8,eD,Op.shift,if_neg (Int.not_lt.2 h0),Sem.run_pure,IntKind.bits]
  rw [Int.fdiv_eq_ediv_of_nonneg _ (by exact Int.pow_nonneg (by omega)),cB,show min n.toNat 8=n.toNat by omega,UInt8.toNat_shiftRight,h4,bm h3,aap]
  simp
 ·rename_i a n
  obtain ⟨h1,h2⟩:=OT.aE h;cases h2;subst hx;subst hy
  have h3:n.toNat<8:=bn h1
  refine fK ?_
  have h4:(UInt8.ofNat n.toNat).toNat=n.toNat:=by rw [UInt8.toNat_ofNat'];omega
  have h0:(0:Int)<=(n.toNat:Int):=by omega
  simp only [binOp,vu8,eD,Op.shift,if_neg (Int.not_lt.2 h0),wrap_u8,Sem.run_pure,IntKind.bits]
  rw [cB,show min n.toNat 8=n.toNat by omega,UInt8.toNat_shiftLeft,h4,bm h3,HY]
  simp
 ·rename_i a b
  cases h;subst hx;subst hy
  refine dl ?_
  simp only [binOp,vu8,ne_eq,not_true_eq_false,if_false,Op.intCmp,Sem.run_pure,gt_iff_lt,ge_iff_le]
  simp only [aHX]
 ·rename_i a b
  cases h;subst hx;subst hy
  refine dl ?_
  simp only [binOp,vu8,ne_eq,not_true_eq_false,if_false,Op.intCmp,Sem.run_pure,gt_iff_lt,ge_iff_le]
  simp only [aHY]
 ·rename_i a b
  cases h;subst hx;subst hy
  refine dl ?_
  simp only [binOp,vu8,ne_eq,not_true_eq_false,if_false,Op.intCmp,Sem.run_pure,gt_iff_lt,ge_iff_le]
  simp only [aHX]
 ·rename_i a b
  cases h;subst hx;subst hy
  refine dl ?_
  simp only [binOp,vu8,ne_eq,not_true_eq_false,if_false,Op.intCmp,Sem.run_pure,gt_iff_lt,ge_iff_le]
  simp only [aHY]
 ·obtain ⟨h1,h2⟩:=OT.aE h;cases h2;rw [hx.1,hy.1]
  refine cE ?_ h1
  simp only [binOp,ne_eq,not_true_eq_false,if_false,Op.intArith,Sem.run_pure,iI h1]
 ·obtain ⟨h1,h2⟩:=OT.aE h;cases h2;rw [hx.1,hy.1]
  refine cE ?_ h1
  simp only [binOp,ne_eq,not_true_eq_false,if_false,Op.intArith,Sem.run_pure,iI h1]
 ·obtain ⟨h1,h2⟩:=OT.aE h;cases h2;rw [hx.1,hy.1]
  refine cE ?_ h1
  simp only [binOp,ne_eq,not_true_eq_false,if_false,Op.intArith,Sem.run_pure,iI h1]
 ·rename_i a b
  obtain ⟨h1,h2⟩:=OT.aE h;cases h2;rw [hx.1,hy.1]
  simp only [aw,Bool.not_eq_true',beq_eq_false_iff_ne,ne_eq] at h1
  refine cE ?_ h1.2
  simp only [binOp,ne_eq,not_true_eq_false,if_false,Op.intDiv,if_neg h1.1,Sem.run_pure,iI h1.2]
 ·rename_i a b
  obtain ⟨h1,h2⟩:=OT.aE h;cases h2;rw [hx.1,hy.1]
  simp only [Bool.not_eq_true',beq_eq_false_iff_ne,ne_eq] at h1
  refine cE ?_ (aCw hx.2)
  simp only [binOp,ne_eq,not_true_eq_false,if_false,Op.intDiv,if_neg h1,Sem.run_pure]
 ·cases h;rw [hx.1,hy.1]
  refine cE ?_ (DO _)
  simp only [binOp,ne_eq,not_true_eq_false,if_false,Op.intBits,Sem.run_pure]
  rfl
 ·cases h;rw [hx.1,hy.1]
  refine cE ?_ (DO _)
  simp only [binOp,ne_eq,not_true_eq_false,if_false,Op.intBits,Sem.run_pure]
  rfl
 ·cases h;rw [hx.1,hy.1]
  refine cE ?_ (DO _)
  simp only [binOp,ne_eq,not_true_eq_false,if_false,Op.intBits,Sem.run_pure]
  rfl
 ·cases h;rw [hx.1,hy.1]
  refine dl ?_
  simp only [binOp,ne_eq,not_true_eq_false,if_false,Op.intCmp,Sem.run_pure,gt_iff_lt,ge_iff_le]
  congr
 ·cases h;rw [hx.1,hy.1]
  refine dl ?_
  simp only [binOp,ne_eq,not_true_eq_false,if_false,Op.intCmp,Sem.run_pure,gt_iff_lt,ge_iff_le]
  congr
 ·cases h;rw [hx.1,hy.1]
  refine dl ?_
  simp only [binOp,ne_eq,not_true_eq_false,if_false,Op.intCmp,Sem.run_pure,gt_iff_lt,ge_iff_le]
  congr
 ·cases h;rw [hx.1,hy.1]
  refine dl ?_
  simp only [binOp,ne_eq,not_true_eq_false,if_false,Op.intCmp,Sem.run_pure,gt_iff_lt,ge_iff_le]
  congr
 ·exact absurd rfl ho.1
 ·exact absurd rfl ho.2
 ·cases h
end
end Sx
end
section
namespace Sx
open Go
section
variable {P:Program} {R:Ctx} {w:World}
def eqv (op:BinOp) (z:Bool):Bool:=match op with|.eql=>z|_=> !z
theorem gx {op:BinOp} {T:TypeId} {X Y:Operand} {a b:Value} {v:Value} (hg:(eqGuard op T X Y a b).run P w=.ok () w) (h:(binOp op T a b).run P w=.ok v w):
 ((do eqGuard op T X Y a b;binOp op T a b):Sem Value).run P w=.ok v w:=by simp_all
theorem aEc {op:BinOp} {T:TypeId} {X Y:Operand} {xs ys:Array Value} {z:Bool} (ho:op=.eql\/op=.neq) (hg:P.eqGuardType P.depth T=false)
 (h:(Op.equalIn 10000 T (.agg xs) (.agg ys)).run P w=.ok z w):((do eqGuard op T X Y (.agg xs) (.agg ys);binOp op T (.agg xs) (.agg ys)):Sem Value).run P w=.ok (.bool (eqv op z)) w:=by
 refine gx (run_eqGuard_agg w op T X Y xs ys hg) ?_
 rcases ho with rfl|rfl
 ·rw [run_eql_struct,h];rfl
 ·rw [run_neq_struct,h];rfl
theorem ayE {op:BinOp} {T:TypeId} {X Y:Operand} {a b:Bool} (ho:op=.eql\/op=.neq) (hT:P.underlying T=some .bool):
 ((do eqGuard op T X Y (.bool a) (.bool b);binOp op T (.bool a) (.bool b)):Sem Value).run P w=.ok (.bool (eqv op (a==b))) w:=by
 have h:(Op.equal T (.bool a) (.bool b)).run P w=.ok (a==b) w:=run_equalIn_bool' w 9999 T a b hT
 refine gx ?_ ?_
 ·rcases ho with rfl|rfl<;>simp [eqGuard]
 ·rcases ho with rfl|rfl<;>simp [binOp,h,eqv]
theorem adh {op:BinOp} {T:TypeId} {X Y:Operand} {k:IntKind} {a b:Int} (ho:op=.eql\/op=.neq):
 ((do eqGuard op T X Y (.int k a) (.int k b);binOp op T (.int k a) (.int k b)):Sem Value).run P w=.ok (.bool (eqv op (a==b))) w:=by
 refine gx ?_ ?_
 ·rcases ho with rfl|rfl<;>simp [eqGuard]
 ·rcases ho with rfl|rfl
  ·simp [binOp,Op.intCmp,eqv]
  ·simp [binOp];rfl
theorem aEb {op:BinOp} {T:TypeId} {X Y:Operand} {a b:List UInt8} (ho:op=.eql\/op=.neq):
 ((do eqGuard op T X Y (.string ⟨a.toArray⟩) (.string ⟨b.toArray⟩);binOp op T (.string ⟨a.toArray⟩) (.string ⟨b.toArray⟩)):Sem Value).run P w=.ok (.bool (eqv op (a==b))) w:=by
 have h:=aoU a b
 refine gx ?_ ?_
 ·rcases ho with rfl|rfl<;>simp [eqGuard]
 ·rcases ho with rfl|rfl
  ·simp [binOp,Op.stringOp,eqv]
  simp [binOp,Op.stringOp,eqv]
theorem asx {T E:TypeId} {a b:Option Addr} {z:Bool} (hT:P.underlying T=some (.pointer E)) (hz:(a=none/\z=b.isNone)\/(b=none/\z=a.isNone)) (d:Nat):
 (Op.equalIn (d+1) T (.pointer a) (.pointer b)).run P w=.ok z w:=by
 rcases hz with ⟨rfl,rfl⟩|⟨rfl,rfl⟩
 ·simp [Op.equalIn,run_underlying hT]
 ·cases a<;>simp [Op.equalIn,run_underlying hT]
theorem Xg {T t:TypeId} {ms:Array (String×TypeId)} {v:Value} (hT:P.underlying T=some (.interface ms)) (d:Nat):
 (Op.equalIn (d+1) T .nilIface (.iface t v)).run P w=.ok false w:=by simp_all [Op.equalIn,run_underlying]
theorem Xf {T t:TypeId} {ms:Array (String×TypeId)} {v:Value} (hT:P.underlying T=some (.interface ms)) (d:Nat):
 (Op.equalIn (d+1) T (.iface t v) .nilIface).run P w=.ok false w:=by simp_all [Op.equalIn,run_underlying]
theorem R7 {op:BinOp} {T E:TypeId} {X Y:Operand} {a b:Option Addr} {z:Bool} (ho:op=.eql\/op=.neq) (hT:P.underlying T=some (.pointer E))
 (hz:(a=none/\z=b.isNone)\/(b=none/\z=a.isNone)):
 ((do eqGuard op T X Y (.pointer a) (.pointer b);binOp op T (.pointer a) (.pointer b)):Sem Value).run P w=.ok (.bool (eqv op z)) w:=by
 have h:(Op.equal T (.pointer a) (.pointer b)).run P w=.ok z w:=asx hT hz 9999
 refine gx ?_ ?_
 ·rcases ho with rfl|rfl<;>simp [eqGuard]
 ·rcases ho with rfl|rfl<;>simp [binOp,h,eqv]
theorem amG {op:BinOp} {T t:TypeId} {X Y:Operand} {ms:Array (String×TypeId)} {v:Value} (ho:op=.eql\/op=.neq) (hT:P.underlying T=some (.interface ms)):
 ((do eqGuard op T X Y .nilIface (.iface t v);binOp op T .nilIface (.iface t v)):Sem Value).run P w=.ok (.bool (eqv op false)) w:=by
 have h:(Op.equal T .nilIface (.iface t v)).run P w=.ok false w:=Xg hT 9999
 refine gx ?_ ?_
 ·rcases ho with rfl|rfl<;>simp [eqGuard]
 ·rcases ho with rfl|rfl<;>simp [binOp,h,eqv]
theorem amF {op:BinOp} {T t:TypeId} {X Y:Operand} {ms:Array (String×TypeId)} {v:Value} (ho:op=.eql\/op=.neq) (hT:P.underlying T=some (.interface ms)):
 ((do eqGuard op T X Y (.iface t v) .nilIface;binOp op T (.iface t v) .nilIface):Sem Value).run P w=.ok (.bool (eqv op false)) w:=by
 have h:(Op.equal T (.iface t v) .nilIface).run P w=.ok false w:=Xf hT 9999
 refine gx ?_ ?_
 ·rcases ho with rfl|rfl<;>simp [eqGuard]
 ·rcases ho with rfl|rfl<;>simp [binOp,h,eqv]
theorem am1 {op:BinOp} {T:TypeId} {X Y:Operand} {x y:SV} {a b:Value} {z:Bool} (ho:op=.eql\/op=.neq) (h:as9 x y=some z) (hx:SV.rel R x a) (hy:SV.rel R y b):
 ((do eqGuard op T X Y a b;binOp op T a b):Sem Value).run P w=.ok (.bool (eqv op z)) w:=by
 unfold as9 at h
 split at h<;>first|rfl|skip
 all_goals (cases h)
 ·subst hx;subst hy
  rw [<-aok];exact adh ho
 ·subst hx;subst hy
  rw [<-azY];exact adh ho
 ·rw [hx.1,hy.1];grind [adh]
 ·rw [hx.1,hy.1];grind [aEb]
theorem Oh {te:TE} (hte:kq P te) {op:BinOp} {T:TypeId} {X Y:Operand} {x y:SV} {a b:Value} {z:Bool} (ho:op=.eql\/op=.neq) (h:aE5 te T x y=some z) (hx:SV.rel R x a) (hy:SV.rel R y b):
 ((do eqGuard op T X Y a b;binOp op T a b):Sem Value).run P w=.ok (.bool (eqv op z)) w:=by
 unfold aE5 at h
 split at h
 ·cases h
 ·rename_i ti hT
  have ht:=hte T ti hT
  have agg:∀ (l r:List SV) (z:Bool),ti.desc.agg=true->(if ti.ty.isSome=true then ayF te 20 T l r else none)=some z->SV.rel R (.agg l) a->SV.rel R (.agg r) b->
   ((do eqGuard op T X Y a b;binOp op T a b):Sem Value).run P w=.ok (.bool (eqv op z)) w:=λl r z hd h hx hy=>by
   simp only [SV.rel] at hx hy
   obtain ⟨vs,rfl,hl,_⟩:=hx
   obtain ⟨us,rfl,hr,_⟩:=hy
   split at h
   ·rename_i hs
    obtain ⟨t,hty⟩:=Option.isSome_iff_exists.1 hs
    have he:=Eh hte (w:=w) 20 T ti hT l r vs us z 10000 (by omega) h hl hr
    simp only [valOf,hd,if_true] at he
    exact aEc ho ((ht.ty t hty).2.2 hd) he
   ·cases h
  obtain ⟨d,h1,h2⟩:=ht.desc
  split at h
  ·rename_i hd;exact agg _ _ _ (by rw [hd];rfl) h hx hy
  ·rename_i hd;exact agg _ _ _ (by rw [hd];rfl) h hx hy
  ·rename_i hd;rw [hd] at h2;obtain ⟨⟨E,rfl⟩,_⟩:=h2;cases h
   simp only [SV.rel] at hx hy;obtain ⟨⟨ad,rfl⟩,_⟩:=hx;subst hy
   exact R7 ho h1 (.inr ⟨rfl,rfl⟩)
  ·rename_i hd;rw [hd] at h2;obtain ⟨⟨E,rfl⟩,_⟩:=h2;cases h
   simp only [SV.rel] at hx hy;obtain ⟨_,b,o,arr,E,fz,rfl,_⟩:=hx;subst hy
   exact R7 ho h1 (.inr ⟨rfl,rfl⟩)
  ·rename_i hd;rw [hd] at h2;obtain ⟨⟨E,rfl⟩,_⟩:=h2;cases h
   simp only [SV.rel] at hx hy;obtain ⟨⟨ad,rfl⟩,_⟩:=hy;subst hx
   exact R7 ho h1 (.inl ⟨rfl,rfl⟩)
  ·rename_i hd;rw [hd] at h2;obtain ⟨⟨E,rfl⟩,_⟩:=h2;cases h
   simp only [SV.rel] at hx hy;subst hx;subst hy
   exact R7 ho h1 (.inl ⟨rfl,rfl⟩)
  ·rename_i hd;rw [hd] at h2;obtain ⟨ms,rfl⟩:=h2;cases h
   simp only [SV.rel] at hx hy;subst hx;obtain ⟨u,rfl,_⟩:=hy
   exact amG ho h1
  ·rename_i hd;rw [hd] at h2;obtain ⟨ms,rfl⟩:=h2;cases h
   simp only [SV.rel] at hx hy;subst hy;obtain ⟨u,rfl,_⟩:=hx
   exact amF ho h1
  ·rename_i hd;rw [hd] at h2;simp only at h2;subst h2;cases h
   simp only [SV.rel] at hx hy;subst hx;subst hy
   exact ayE ho h1
  ·exact am1 ho h hx hy
theorem Yi {te:TE} (hte:kq P te) {T:TypeId} {op:BinOp} {X Y:Operand} {x y z:SV} {a b:Value} (h:(ah6 te T op x y).run=some z)
 (hx:SV.rel R x a) (hy:SV.rel R y b):lq P R w (do eqGuard op T X Y a b;binOp op T a b) z:=by
 by_cases h1:op=.eql
 ·subst h1
  have h':(match aE5 te T x y with|some b=>OT.ok (SV.bool b)|none=>.fail).run=some z:=by
   cases x<;>cases y<;>exact h
  split at h'
  ·rename_i q hq
   cases h'
   exact dl (Oh hte (.inl rfl) hq hx hy)
  ·cases h'
 ·by_cases h2:op=.neq
  ·subst h2
   have h':(match aE5 te T x y with|some b=>OT.ok (SV.bool (!b))|none=>.fail).run=some z:=by
    cases x<;>cases y<;>exact h
   split at h'
   ·rename_i q hq
    cases h'
    exact dl (Oh hte (.inr rfl) hq hx hy)
   ·cases h'
  ·exact ad3 h ⟨h1,h2⟩ hx hy
theorem aj7 {op:UnOp} {x z:SV} {a:Value} (h:(aCl op x).run=some z) (hx:SV.rel R x a):lq P R w (Op.unary op a) z:=by
 unfold aCl at h
 split at h<;>(try simp only [SV.rel] at hx)
 ·obtain ⟨h1,h2⟩:=OT.aE h;cases h2;rw [hx.1]
  exact cE (by simp only [Op.unary,Op.intArith,Sem.run_pure,iI h1]) h1
 ·rename_i a
  cases h;subst hx
  refine df ?_
  simp only [eD,Op.unary,Op.intArith,Sem.run_pure,wrap_u64]
  have:=Ub 0 a
  simp only [UInt64.toNat_zero] at this
  rw [<-this];rfl
 ·rename_i a
  cases h;subst hx
  refine df ?_
  have:=axr (~~~a)
  simp only [eD,Op.unary,Op.intBits,Sem.run_pure,wrap_u64,IntKind.signed,Bool.false_eq_true,if_false]
  rw [show IntKind.u64.bits=64 from rfl,K1,show BitVec.ofInt 64 IntKind.u64.max=BitVec.allOnes 64 by decide,BitVec.allOnes_xor,<-UInt64.toBitVec_not,UInt64.toNat_toBitVec]
  congr 2
  omega
 ·rename_i a
  cases h;subst hx
  refine fK ?_
  have:=lt8 (~~~a)
  simp only [vu8,Op.unary,Op.intBits,Sem.run_pure,wrap_u8,IntKind.signed,Bool.false_eq_true,if_false]
  rw [show IntKind.u8.bits=8 from rfl,adJ,show BitVec.ofInt 8 IntKind.u8.max=BitVec.allOnes 8 by decide,BitVec.allOnes_xor,<-UInt8.toBitVec_not,UInt8.toNat_toBitVec]
  congr 2
  omega
 ·cases h;subst hx
  exact dl rfl
 ·cases h
theorem fI {src dst:TypeId} {s:TypeDesc} {k k':IntKind} {n:Int} (hs:P.underlying src=some s) (hd:P.underlying dst=some (.int k')):
 (convert src dst (.int k n)).run P w=.ok (.int k' (k'.wrap n)) w:=by
 unfold convert
 simp only [Sem.run_bind,run_underlying hs,run_underlying hd,Result.andThen_ok]
 rfl
theorem Sf {te:TE} (hte:kq P te) {src dst:TypeId} {x z:SV} {a:Value} (h:(GY te src dst x).run=some z) (hx:SV.rel R x a):
 lq P R w (convert src dst a) z:=by
 unfold GY at h
 split at h
 ·cases h
 ·cases h
 ·rename_i si ti hS hT
  obtain ⟨s,hs,_⟩:=(hte src si hS).desc
  obtain ⟨d,h1,h2⟩:=(hte dst ti hT).desc
  split at h<;>first|(cases h;done)|skip
  all_goals
   rename_i hd
   rw [hd] at h2
   simp only at h2
   subst h2
   simp only [SV.rel] at hx
  ·cases h;subst hx
   have:=axr ‹_›
   exact df (by rw [eD,fI hs h1,wrap_u64];congr 2;omega)
  ·rename_i a
   cases h;subst hx
   have:=lt8 a
   refine df ?_
   rw [vu8,fI hs h1,wrap_u64,eD,UInt8.toNat_toUInt64]
   congr 2;omega
  ·cases h;rw [hx.1]
   refine df ?_
   rw [fI hs h1,wrap_u64,eD,i2u,dv]
   congr 2;omega
  ·cases h;subst hx
   refine fK ?_
   rw [eD,fI hs h1,wrap_u8,vu8,UInt64.toNat_toUInt8]
   congr 2
  ·rename_i a
   cases h;subst hx
   have:=lt8 a
   refine fK ?_
   rw [vu8,fI hs h1,wrap_u8]
   congr 2;omega
  ·cases h;rw [hx.1]
   refine fK ?_
   rw [fI hs h1,wrap_u8,vu8,i2b,UInt8.toNat_ofNat']
   congr 2;omega
  ·cases h;subst hx
   refine cE ?_ (DO _)
   rw [eD,fI hs h1];rfl
  ·rename_i a
   cases h;subst hx
   have hb:=lt8 a
   have:inR (a.toNat:Int)=true:=by rw [DP];omega
   refine cE ?_ this
   rw [vu8,fI hs h1,iI this]
  ·cases h;rw [hx.1]
   refine cE ?_ hx.2
   rw [fI hs h1,iI hx.2]
end
end Sx
end
section
namespace Sx
open Go
section
variable {P:Program} {R:Ctx} {w:World}
def LP (P:Program) (R:Ctx) (w:World) (s:Sem Value) (e:Eff):Prop:=∃ v w' R',s.run P w=.ok v w'/\dL R R' w' e.upd/\SV.rel R' e.v v
theorem cn (b o n:Nat):(⟨b,o,none⟩:Addr).add n=⟨b,o+n,none⟩:=by simp [Addr.add]
theorem W0 {te:TE} {fs:List (Nat×TypeId)} {f o:Nat} {fi:TI} (h:fieldAt fs te f=some (o,fi)):∃ U,fs[f]? =some (o,U)/\te U=some fi:=by
 unfold fieldAt at h
 split at h
 ·simp_all
 grind
theorem rY {te:TE} (hte:kq P te) {S:TypeId} {ti fi:TI} {fs:List (Nat×TypeId)} {f o:Nat} (hS:te S=some ti) (hd:ti.desc=.struct fs) (h:fieldAt fs te f=some (o,fi)):
 ∃ fields fld,P.underlying S=some (.struct fields)/\fields[f]? =some fld/\fld.offset=o/\te fld.type=some fi:=by
 obtain ⟨d,h1,h2⟩:=(hte S ti hS).desc
 grind [W0]
theorem Mc {x z:SV} {v:Value} {o:Nat} (h:(Gu x o).run=some z) (hx:SV.rel R x v):∃ ad,v=.pointer (some ad)/\SV.rel R z (.pointer (some (ad.add o))):=by
 unfold Gu at h
 split at h
 ·cases h
  obtain ⟨⟨ad,rfl⟩,ch,hc,hle,hp⟩:=hx
  refine ⟨ad,rfl,?_⟩
  refine ⟨(by simp),ch,hc,hle,λhe=> ?_⟩
  grind [cn]
 ·cases h
  obtain ⟨h0,b,o',arr,E,fz,rfl,hrest⟩:=hx
  grind [SV.rel,cn,Nat.add_assoc]
 ·cases h
theorem Kt {te:TE} (hte:kq P te) {S:TypeId} {ti fi:TI} {fs:List (Nat×TypeId)} {f o:Nat} {x z:SV} {v:Value} (hS:te S=some ti) (hd:ti.desc=.struct fs) (hf:fieldAt fs te f=some (o,fi))
 (h0:fi.size≠0) (h:(Gu x o).run=some z) (hx:SV.rel R x v):lq P R w (Instr.fieldAt S v f) z:=by
 obtain ⟨fields,fld,h1,h2,h3,h4⟩:=rY hte hS hd hf
 obtain ⟨ad,rfl,hz⟩:=Mc h hx
 refine ⟨_,?_,hz⟩
 simp [Instr.fieldAt,run_underlying h1,h2,Instr.sureAddr,fieldPlace,(hte _ _ h4).run_sizeOf w,h0,h3]
theorem yX {k:Int} {n:Nat}:inB k n=true ↔ 0<=k/\k<(n:Int):=by simp [inB]
theorem mo {kd:IntKind} {T:TypeId} {k:Int} {n:Nat} {ei:TI} {e:TypeId} (he:fe P e ei) (hk:inB k n=true) {x:Value} {ad:Addr}
 (h:(P.underlying T=some (.array n e)/\x=.pointer (some ad))\/(P.underlying T=some (.slice e)/\∃ cap,x=.slice (some ad) n cap)):
 (Instr.indexAt T x (.int kd k)).run P w=.ok (.pointer (some (ad.add (k.toNat*ei.size)))) w:=by
 have hk:=yX.1 hk
 rcases h with ⟨h1,rfl⟩|⟨h1,cap,rfl⟩
 ·simp [Instr.indexAt,asIntOf,run_underlying h1,Instr.sureAddr,he.run_sizeOf w]
  grind
 ·simp [Instr.indexAt,asIntOf,Sem.run_bind,run_underlying h1,Sem.run_ite,he.run_sizeOf w]
  grind
theorem dC {hp:Hp} {c e n:Nat} (h:fg hp c e=some n):∃ b,hp c=some ⟨e,b⟩/\b.shape.1=true/\b.shape.2.2=n:=by
 unfold fg at h
 split at h
 ·rename_i t xs hc;exact ⟨_,bT hc,rfl,Option.some.inj h⟩
 ·rename_i t xs hc;exact ⟨_,bT hc,rfl,Option.some.inj h⟩
 ·grind
theorem dQ {hp:Hp} {c e n:Nat} (h:dU hp c e=some n):∃ b,hp c=some ⟨e,b⟩/\b.shape.1=true/\b.shape.2.1=n:=by
 unfold dU at h
 split at h
 ·rename_i t xs hc;exact ⟨_,bT hc,rfl,Option.some.inj h⟩
 ·rename_i t xs hc;exact ⟨_,bT hc,rfl,Option.some.inj h⟩
 ·grind
theorem Dm {kd:IntKind} {c e off len s:Nat} {v:Value} {b:Chunk} {T el:TypeId} {ei:TI} {k:Int} (he:fe P el ei) (hT:P.underlying T=some (.slice el)) (hc:R.hp c=some ⟨e,b⟩) (hs:b.shape.2.1=s) (hes:s=ei.size)
 (h:R.part c e off len v) (hk:inB k len=true):lq P R w (Instr.indexAt T v (.int kd k)) (.ptr c e (k.toNat+off) 0):=by
 obtain ⟨h1,h2,ad,cap,rfl,h4,h5⟩:=Ctx.cK hc h
 have hk':=yX.1 hk
 cases hσ:R.σ c with
 |none=>grind
 |some L=>
  rw [hσ] at h5
  obtain ⟨_,h6⟩:=h5
  have:=h6 (by omega)
  subst this
  refine ⟨_,mo he hk (.inr ⟨hT,cap,rfl⟩),?_⟩
  rw [cn]
  refine ⟨(by simp),_,hc,(by simp),λ_=>⟨L,hσ,?_⟩⟩
  grind
theorem JL {kd:IntKind} {te:TE} (hte:kq P te) {T:TypeId} {x z:SV} {v:Value} {k:Int} (h:(indexAddr te R.hp T x k).run=some z) (hx:SV.rel R x v):
 lq P R w (Instr.indexAt T v (.int kd k)) z:=by
 unfold indexAddr at h
 split at h
 ·cases h
 ·rename_i ti hT
  obtain ⟨d,h1,h2⟩:=(hte T ti hT).desc
  split at h
  ·rename_i n e hd
   rw [hd] at h2
   simp only at h2
   subst h2
   split at h
   ·cases h
   ·rename_i ei hei
    have he:=hte e ei hei
    split at h
    ·rename_i c ep i off
     simp only [SV.rel] at hx
     obtain ⟨⟨ad,rfl⟩,hp⟩:=hx
     split at h
     ·rename_i hcond
      obtain ⟨h0,hrs⟩:=hcond
      obtain ⟨hk,h'⟩:=OT.aE h
      cases h'
      obtain ⟨b,hc,hb1,hb2⟩:=dQ hrs
      refine ⟨_,mo he hk (.inl ⟨h1,rfl⟩),?_⟩
      obtain ⟨ch,hc',hle,hp⟩:=hp
      rw [hc] at hc'
      cases Option.some.inj hc'
      obtain ⟨L,hσ,hv⟩:=hp rfl
      cases hv
      subst h0
      simp only [SV.rel]
      refine ⟨⟨_,rfl⟩,_,hc,Nat.le_refl _,λ_=>⟨L,hσ,?_⟩⟩
      grind [cn]
     ·split at h
      ·obtain ⟨hk,h'⟩:=OT.aE h
       cases h'
       refine ⟨_,mo he hk (.inl ⟨h1,rfl⟩),?_⟩
       obtain ⟨ch,hc,hle,hp⟩:=hp
       simp only [SV.rel]
       refine ⟨⟨_,rfl⟩,ch,hc,hle,λe=> ?_⟩
       grind [cn]
      ·cases h
    ·rename_i t xs i off
     obtain ⟨hk,h'⟩:=OT.aE h
     cases h'
     simp only [SV.rel] at hx
     obtain ⟨h0,b,o',arr,E,fz,rfl,hrest⟩:=hx
     refine ⟨_,mo he hk (.inl ⟨h1,rfl⟩),?_⟩
     simp only [SV.rel]
     refine ⟨h0,b,o',arr,E,fz,?_,hrest⟩
     rw [cn,Nat.add_assoc]
    ·cases h
  ·rename_i e hd
   rw [hd] at h2
   simp only at h2
   subst h2
   split at h
   ·cases h
   ·rename_i ei hei
    have he:=hte e ei hei
    split at h
    ·rename_i c ep
     split at h
     ·rename_i n hn
      split at h
      ·rename_i hrs
       obtain ⟨hk,h'⟩:=OT.aE h
       cases h'
       simp only [SV.rel] at hx
       obtain ⟨b,hc,hb1,hb2⟩:=dQ hrs
       obtain ⟨b',hc',hb3,hb4⟩:=dC hn
       rw [hc] at hc'
       cases Option.some.inj hc'
       have:=Ctx.cV hc hx.2
       rw [hb4] at this
       exact Dm he h1 hc hb2 rfl this hk
      ·cases h
     ·cases h
    ·rename_i c ep
     split at h
     ·rename_i n hn
      split at h
      ·rename_i hrs
       obtain ⟨hk,h'⟩:=OT.aE h
       cases h'
       simp only [SV.rel] at hx
       obtain ⟨b,hc,hb1,hb2⟩:=dQ hrs
       obtain ⟨b',hc',hb3,hb4⟩:=dC hn
       rw [hc] at hc'
       cases Option.some.inj hc'
       have:=Ctx.cV hc hx.2.1
       rw [hb4] at this
       exact Dm he h1 hc hb2 rfl this hk
      ·cases h
     ·cases h
    ·rename_i c ep off len
     split at h
     ·rename_i hrs
      obtain ⟨hk,h'⟩:=OT.aE h
      cases h'
      simp only [SV.rel] at hx
      obtain ⟨b,hc,hb1,hb2⟩:=dQ hrs
      exact Dm he h1 hc hb2 rfl hx.2 hk
     ·cases h
    ·rename_i t xs
     split at h
     ·rename_i hts
      obtain ⟨hk,h'⟩:=OT.aE h
      cases h'
      simp only [SV.rel] at hx
      obtain ⟨_,ad,cap,hcs,hcap,hor⟩:=hx
      cases hcs
      have hk':=yX.1 hk
      rcases hor with rfl|⟨b,o,arr,E,fz,rfl,hF,hsz,hrow⟩
      ·simp at hk';omega
      ·have hi:k.toNat<xs.length:=by omega
       have hle:(k.toNat+1)*t.size<=xs.length*t.size:=ck _ hi
       rw [Nat.succ_mul] at hle
       refine ⟨_,mo he hk (.inr ⟨h1,cap,rfl⟩),?_⟩
       grind [cn,SV.rel]
     ·cases h
    ·cases h
  ·cases h
theorem aky (hm:cz R w) {c e:Nat} {b:Chunk} (hc:R.hp c=some ⟨e,b⟩) (hb:b.shape.1=true):b.shape.2.2<=cL:=by
 have:=hm.ch c _ hc
 cases b with
 |row t xs|frz t xs=>exact this.2.1
 |cells vs=>cases hb
theorem aca {n:Nat} (h:n<=cL):inR (n:Int)=true:=by grind [DP,cL]
theorem abI (hm:cz R w) {te:TE} (hte:kq P te) {T Tr:TypeId} {Ts:List TypeId} {x z:SV} {v:Value} (h:(Mn te R.hp T x).run=some z) (hx:SV.rel R x v):
 lq P R w (Builtin.len_ (T::Ts).toArray Tr #[v]) z:=by
 unfold Mn at h
 split at h
 ·cases h
 ·rename_i ti hT
  obtain ⟨d,h1,h2⟩:=(hte T ti hT).desc
  have sl:∀ e ad n cap,d=.slice e->n<=cL->lq P R w (Builtin.len_ (T::Ts).toArray Tr #[.slice ad n cap]) (.int n):=λe ad n cap hd hn=>by
   subst hd
   refine cE ?_ (aca hn)
   simp [Builtin.len_,run_underlying h1,goInt]
  have pt:∀ e c ep off len,d=.slice e->(∃ n,fg R.hp c ep=some n)->R.part c ep off len v->lq P R w (Builtin.len_ (T::Ts).toArray Tr #[v]) (.int len):=λe c ep off len hd hn hp=>by
   obtain ⟨n,hn⟩:=hn
   obtain ⟨b,hc,hb1,hb2⟩:=dC hn
   obtain ⟨_,hle,ad,cap,rfl,_⟩:=Ctx.cK hc hp
   have:=aky hm hc hb1
   exact sl e _ _ _ hd (by omega)
  split at h
  ·rename_i e c ep hd
   rw [hd] at h2
   simp only at h2
   split at h
   ·rename_i n hn
    cases h
    simp only [SV.rel] at hx
    obtain ⟨b,hc,hb1,hb2⟩:=dC hn
    have:=Ctx.cV hc hx.2
    grind
   ·cases h
  ·rename_i e c ep hd
   rw [hd] at h2
   simp only at h2
   split at h
   ·rename_i n hn
    cases h
    simp only [SV.rel] at hx
    obtain ⟨b,hc,hb1,hb2⟩:=dC hn
    have:=Ctx.cV hc hx.2.1
    grind
   ·cases h
  ·rename_i e c ep off len hd
   rw [hd] at h2
   simp only at h2
   split at h
   ·rename_i n hn
    cases h
    grind [SV.rel]
   ·cases h
  ·rename_i e hd
   rw [hd] at h2
   cases h
   grind [SV.rel]
  ·rename_i e t xs hd
   rw [hd] at h2
   cases h
   simp only [SV.rel] at hx
   obtain ⟨hl,ad,cap,hcs,_⟩:=hx
   cases hcs
   exact sl e ad _ cap h2 hl
  ·rename_i s hd
   rw [hd] at h2
   simp only at h2
   subst h2
   cases h
   simp only [SV.rel] at hx
   rw [hx.1]
   refine cE ?_ (aca hx.2)
   simp [Builtin.len_,run_underlying h1,goInt]
   rfl
  ·cases h
end
end Sx
end
section
namespace Sx
open Go
section
variable {P:Program} {R:Ctx} {w:World}
theorem kj {d k:Int} {x:Option SV} {a:Option Value} (h:apU d x=some k) (hx:∀ y,x=some y->∃ v,a=some v/\SV.rel R y v) (hn:x=none->a=none):
 (x=none/\a=none/\k=d)\/(a=some (.int .i64 k)/\x=some (.int k)):=by
 unfold apU at h
 split at h
 ·cases h;exact .inl ⟨rfl,hn rfl,rfl⟩
 ·cases h
  obtain ⟨v,ha,hv⟩:=hx _ rfl
  simp only [SV.rel] at hv
  rw [hv.1] at ha
  exact .inr ⟨ha,rfl⟩
 ·cases h
theorem kc {l h:Int} {n:Nat}:cm l h n=true ↔ 0<=l/\l<=h/\h<=(n:Int):=by grind [cm]
theorem run_sliceBound {k:Int} {y:Nat} {code:BoundsCode} (h:0<=k/\k<=(y:Int)):(Instr.sliceBound (.int .i64 k) y code).run P w=.ok k.toNat w:=by simp_all [Instr.sliceBound,asIntOf]
theorem uM {s:Bool} {len cap:Nat} {lo hi:Option Value} {l h:Int} (hl:(lo=none/\l=0)\/lo=some (.int .i64 l)) (hh:(hi=none/\h=len)\/hi=some (.int .i64 h))
 (hb:0<=l/\l<=h/\h<=(cap:Int)):(Instr.sliceBounds s len cap lo hi none).run P w=.ok (l.toNat,h.toNat,cap) w:=by
 unfold Instr.sliceBounds
 have e1:∀ c,(Instr.sliceBound (.int .i64 h) cap c).run P w=.ok h.toNat w:=λc=>run_sliceBound (by omega)
 have e2:∀ c,(Instr.sliceBound (.int .i64 l) h.toNat c).run P w=.ok l.toNat w:=λc=>run_sliceBound (by omega)
 rcases hl with ⟨rfl,rfl⟩|rfl<;>rcases hh with ⟨rfl,rfl⟩|rfl
 ·rfl
 ·simp_all
 ·simp_all
 simp_all
theorem aax {s:Bool} {len cap:Nat} {h m:Int} (hb:0<=h/\h<=m/\m<=(cap:Int)):
 (Instr.sliceBounds s len cap none (some (.int .i64 h)) (some (.int .i64 m))).run P w=.ok (0,h.toNat,m.toNat) w:=by
 unfold Instr.sliceBounds
 have e1:∀ c,(Instr.sliceBound (.int .i64 m) cap c).run P w=.ok m.toNat w:=λc=>run_sliceBound (by omega)
 have e2:∀ c,(Instr.sliceBound (.int .i64 h) m.toNat c).run P w=.ok h.toNat w:=λc=>run_sliceBound (by grind)
 simp_all
theorem apT {c e n:Nat} {v:Value} {b:Chunk} {T el:TypeId} {ei:TI} {h m:Int} (he:fe P el ei) (hT:P.underlying T=some (.slice el)) (hc:R.hp c=some ⟨e,b⟩)
 (hp:R.part c e 0 n v) (hb:0<=h/\h<=m/\m<=(n:Int)):
 ∃ ad,(Instr.sliceAt T v none (some (.int .i64 h)) (some (.int .i64 m))).run P w=.ok (.slice ad h.toNat m.toNat) w/\R.part c e 0 h.toNat (.slice ad h.toNat m.toNat):=by
 obtain ⟨h1,h2,ad,cap,rfl,h4,h5⟩:=Ctx.cK hc hp
 have hrun:(Instr.sliceAt T (.slice ad n cap) none (some (.int .i64 h)) (some (.int .i64 m))).run P w=.ok (.slice (if m.toNat=0 then ad else ad.map (·.add (0*ei.size))) (h.toNat-0) (m.toNat-0)) w:=by
  simp [Instr.sliceAt,run_underlying hT,Instr.slice]
  rw [aax (by grind)]
  simp [he.run_sizeOf w]
 refine ⟨_,hrun,_,hc,(by simp),λ_=>⟨h1,by grind,_,_,rfl,by omega,?_⟩⟩
 cases hσ:R.σ c with
 |none=>grind
 |some L=>
  rw [hσ] at h5
  obtain ⟨h6,h7⟩:=h5
  refine ⟨?_,λhpos=> ?_⟩
  ·exact cT (ck _ (by omega)) h6
  ·rw [if_neg (by omega),h7 (by omega)]
   simp
   rfl
theorem af6 {c e off len:Nat} {v:Value} {b:Chunk} {T el:TypeId} {ei:TI} {l h:Int} {lo hi:Option Value} (he:fe P el ei) (hT:P.underlying T=some (.slice el)) (hc:R.hp c=some ⟨e,b⟩)
 (hs:b.shape.2.1=ei.size) (hp:R.part c e off len v) (hl:(lo=none/\l=0)\/lo=some (.int .i64 l)) (hh:(hi=none/\h=len)\/hi=some (.int .i64 h)) (hb:cm l h len=true):
 lq P R w (Instr.sliceAt T v lo hi none) (.part c e (l.toNat+off) (h-l).toNat):=by
 obtain ⟨h1,h2,ad,cap,rfl,h4,h5⟩:=Ctx.cK hc hp
 have hb:=kc.1 hb
 have hrun:(Instr.sliceAt T (.slice ad len cap) lo hi none).run P w=.ok (.slice (if cap=l.toNat then ad else ad.map (·.add (l.toNat*ei.size))) (h.toNat-l.toNat) (cap-l.toNat)) w:=by
  simp [Instr.sliceAt,run_underlying hT,Instr.slice]
  rw [uM hl hh (by omega)]
  simp [he.run_sizeOf w]
 refine ⟨_,hrun,?_⟩
 refine ⟨rfl,_,hc,Nat.le_refl _,λ_=>⟨h1,by grind,(if cap=l.toNat then ad else ad.map (·.add (l.toNat*ei.size))),cap-l.toNat,?_,?_,?_⟩⟩
 ·grind
 ·omega
 grind [cn]
theorem agA {F:Nat->Option Obj} {t:Ty} {xs:List t.T} {ad:Option Addr} {cap l h:Nat} (hr:Rep F (.list t) xs [.slice ad xs.length cap]) (h1:l<=h) (h2:h<=xs.length):
 Rep F (.list t) ((xs.take h).drop l) [.slice (if cap=l then ad else ad.map (·.add (l*t.size))) (h-l) (cap-l)]:=by
 obtain ⟨hmax,ad',cap',hcs,hcap,hor⟩:=hr
 cases hcs
 have hlen:((xs.take h).drop l).length=h-l:=by grind
 refine ⟨by omega,_,cap-l,by rw [hlen],by omega,?_⟩
 by_cases hz:h=l
 ·grind
 ·rcases hor with rfl|⟨b,o,arr,E,fz,rfl,hF,hsz,hrow⟩
  ·simp
  ·right
   have hle:h*t.size<=xs.length*t.size:=ck _ h2
   have hlh:(h-l)*t.size+l*t.size=h*t.size:=by rw [<-Nat.add_mul];grind
   refine ⟨b,o+l*t.size,arr,E,fz,?_,hF,by grind,λi hi=> ?_⟩
   ·grind [cn]
   grind
theorem PZ (hm:cz R w) {te:TE} (hte:kq P te) {T:TypeId} {x z:SV} {v:Value} {lo hi mx:Option SV} {a b c:Option Value} (h:(px te R.hp T x lo hi mx).run=some z) (hx:SV.rel R x v)
 (ha:∀ y,lo=some y->∃ v,a=some v/\SV.rel R y v) (ha':lo=none->a=none) (hb:∀ y,hi=some y->∃ v,b=some v/\SV.rel R y v) (hb':hi=none->b=none)
 (hc:∀ y,mx=some y->∃ v,c=some v/\SV.rel R y v) (hc':mx=none->c=none):lq P R w (Instr.sliceAt T v a b c) z:=by
 have dn:∀ {d k:Int} {x:Option SV} {a:Option Value},((x=none/\a=none/\k=d)\/(a=some (.int .i64 k)/\x=some (.int k)))->(a=none/\k=d)\/a=some (.int .i64 k):=
  λh=>h.elim (λh=>.inl ⟨h.2.1,h.2.2⟩) (λh=>.inr h.1)
 unfold px at h
 split at h
 ·cases h
 ·rename_i ti hT
  obtain ⟨d,h1,h2⟩:=(hte T ti hT).desc
  split at h
  ·rename_i n e hd
   rw [hd] at h2
   simp only at h2
   subst h2
   split at h
   ·rename_i ei q ep i off hei
    have hmx:=hc' rfl
    subst hmx
    split at h
    ·rename_i hcond
     obtain ⟨h0,h0',hrs⟩:=hcond
     subst h0;subst h0'
     split at h
     ·rename_i m hm'
      obtain ⟨bb,hcc,hb1,hb2⟩:=dQ hrs
      obtain ⟨bb',hcc',_,hb4⟩:=dC hm'
      rw [hcc] at hcc'
      cases Option.some.inj hcc'
      simp only [SV.rel] at hx
      obtain ⟨⟨ad,rfl⟩,ch,hc2,_,hp⟩:=hx
      rw [hcc] at hc2
      cases Option.some.inj hc2
      obtain ⟨L,hσ,hv⟩:=hp rfl
      cases hv
      have he:=hte e ei hei
      have hch:=hm.ch q _ hcc
      have hlim:m*ei.size<=L.lim:=by
       cases bb with
       |row t xs=>
        simp only [eW,hσ] at hch
        obtain ⟨_,_,_,_,arr,E,_,_,hl,_⟩:=hch
        rw [<-hb4,<-hb2];exact hl
       |frz t xs=>
        simp only [eW,hσ] at hch
        obtain ⟨_,_,arr,E,fz,_,_,hl,_⟩:=hch
        rw [<-hb4,<-hb2];exact hl
       |cells vs=>cases hb1
      have key:∀ (l hh:Int),apU 0 lo=some l->apU (n:Int) hi=some hh->n<=m->cm l hh n=true->
       ∃ v',(Instr.sliceAt T (.pointer (some ⟨L.block,L.base+(0*bb.shape.2.1+0),none⟩)) a b none).run P w=.ok v' w/\v'.oneCell'=true/\R.part q ep l.toNat (hh-l).toNat v':=by
       intro l hh hl1 hh1 hnm hbt
       have hbt':=kc.1 hbt
       have hrun:∀ ad,(Instr.sliceAt T (.pointer (some ad)) a b none).run P w=.ok (.slice (some (if n=l.toNat then ad else ad.add (l.toNat*ei.size))) (hh.toNat-l.toNat) (n-l.toNat)) w:=λad=>by
        simp only [Instr.sliceAt,Sem.run_bind,run_underlying h1,Result.andThen_ok,Instr.sureAddr,Sem.run_pure]
        rw [uM (dn (kj hl1 ha ha')) (dn (kj hh1 hb hb')) hbt']
        simp only [Result.andThen_ok,he.run_sizeOf w,Sem.run_bind,Sem.run_pure]
       have hnl:n*ei.size<=L.lim:=cT (ck _ hnm) hlim
       refine ⟨_,hrun _,rfl,?_⟩
       refine ⟨_,hcc,Nat.le_refl _,λ_=>⟨hb1,by simp only;rw [hb4];omega,_,_,by congr 1;omega,by omega,?_⟩⟩
       rw [hσ]
       refine ⟨?_,λhpos=> ?_⟩
       ·simp only
        rw [hb2,show l.toNat+(n-l.toNat)=n by omega]
        exact hnl
       ·rw [if_neg (by omega),cn]
        simp only [hb2]
        congr 2;omega
      split at h
      ·obtain ⟨hg,h'⟩:=OT.aE h
       have hmn:=bn hg
       subst hmn
       cases h'
       obtain ⟨v',k1,k2,k3⟩:=key 0 m rfl rfl (Nat.le_refl _) (by simp [cm])
       refine ⟨v',k1,?_⟩
       simp only [SV.rel]
       refine ⟨k2,_,hcc,Nat.le_refl _,λ_=> ?_⟩
       simp only
       rw [hb4]
       have e1:((m:Int)-0).toNat=m:=by omega
       rw [e1] at k3
       exact k3
      ·split at h
       ·rename_i l hh hl1 hh1
        obtain ⟨hg,h'⟩:=OT.aE h
        simp only [aw,decide_eq_true_eq] at hg
        cases h'
        obtain ⟨v',k1,k2,k3⟩:=key l hh hl1 hh1 hg.1 hg.2
        refine ⟨v',k1,?_⟩
        simp only [SV.rel]
        exact ⟨k2,k3⟩
       ·cases h
     ·cases h
    ·cases h
   ·cases h
  ·rename_i e hd
   rw [hd] at h2
   simp only at h2
   subst h2
   split at h
   ·cases h
   ·rename_i ei hei
    have he:=hte e ei hei
    rcases OT.az9 h with ⟨hz,h⟩|⟨hz,h⟩
    ·obtain ⟨hlo,hz2,hz1⟩:=aa8 hz
     have ha0:=ha' hlo
     subst ha0
     have nought:∀ {o:Option SV} {q:Option Value},o=some (.int 0)->(∀ y,o=some y->∃ v,q=some v/\SV.rel R y v)->q=some (.int .i64 0):=λ{o q} hq hv=>by
      obtain ⟨v,h1,h2⟩:=hv _ hq
      simp only [SV.rel] at h2
      rw [h1,h2.1]
     have hb0:=nought hz1 hb
     have hc0:=nought hz2 hc
     subst hb0;subst hc0
     have emp:∀ ad len cap,lq P R w (Instr.sliceAt T (.slice ad len cap) none (some (.int .i64 0)) (some (.int .i64 0))) .emp:=λad len cap=>by
      refine ⟨.slice ad 0 0,?_,by simp only [SV.rel];exact ⟨ad,rfl⟩⟩
      simp only [Instr.sliceAt,Sem.run_bind,run_underlying h1,Result.andThen_ok,Instr.slice,Instr.sliceBounds]
      have e1:∀ (y:Nat) c,(Instr.sliceBound (.int .i64 0) y c).run P w=.ok 0 w:=λy c=>run_sliceBound ⟨by omega,by omega⟩
      simp [e1,he.run_sizeOf w]
     have opened:∀ {c' e' off' len':Nat},(∃ n,fg R.hp c' e'=some n)->R.part c' e' off' len' v->∃ ad len cap,v=.slice ad len cap:=λhn hp=>by
      obtain ⟨n,hn⟩:=hn
      obtain ⟨bb,hcc,_,_⟩:=dC hn
      obtain ⟨_,_,ad,cap,hv,_⟩:=Ctx.cK hcc hp
      exact ⟨ad,_,cap,hv⟩
     split at h
     ·split at h
      ·rename_i hs
       cases h
       obtain ⟨n,hn⟩:=Option.isSome_iff_exists.1 hs
       simp only [SV.rel] at hx
       obtain ⟨bb,hcc,_,_⟩:=dC hn
       obtain ⟨ad,len,cap,rfl⟩:=opened ⟨n,hn⟩ (Ctx.cV hcc hx.2)
       exact emp ad len cap
      ·cases h
     ·split at h
      ·rename_i hs
       cases h
       obtain ⟨n,hn⟩:=Option.isSome_iff_exists.1 hs
       simp only [SV.rel] at hx
       obtain ⟨bb,hcc,_,_⟩:=dC hn
       obtain ⟨ad,len,cap,rfl⟩:=opened ⟨n,hn⟩ (Ctx.cV hcc hx.2.1)
       exact emp ad len cap
      ·cases h
     ·split at h
      ·rename_i hs
       cases h
       obtain ⟨n,hn⟩:=Option.isSome_iff_exists.1 hs
       simp only [SV.rel] at hx
       obtain ⟨ad,len,cap,rfl⟩:=opened ⟨n,hn⟩ hx.2
       exact emp ad len cap
      ·cases h
     ·cases h
      simp only [SV.rel] at hx
      obtain ⟨_,ad,cap,hcs,_⟩:=hx
      cases hcs
      exact emp ad _ cap
     ·cases h
      simp only [SV.rel] at hx
      obtain ⟨ad,rfl⟩:=hx
      exact emp ad 0 0
     ·cases h
    ·split at h
     ·rename_i q ep hnz
      have hmx:=hc' rfl
      subst hmx
      split at h
      ·rename_i m hm'
       unfold xO at h
       split at h
       ·rename_i hrs
        split at h
        ·rename_i l hh hl1 hh1
         obtain ⟨hg,h'⟩:=OT.aE h
         cases h'
         simp only [SV.rel] at hx
         obtain ⟨bb,hcc,hb1,hb2⟩:=dQ hrs
         obtain ⟨bb',hcc',_,hb4⟩:=dC hm'
         rw [hcc] at hcc'
         cases Option.some.inj hcc'
         have hp:=Ctx.cV hcc hx.2
         rw [hb4] at hp
         exact af6 he h1 hcc hb2 hp (dn (kj hl1 ha ha')) (dn (kj hh1 hb hb')) hg
        ·cases h
       ·cases h
      ·cases h
     ·rename_i q ep off len hnz
      have hmx:=hc' rfl
      subst hmx
      unfold xO at h
      split at h
      ·rename_i hrs
       split at h
       ·rename_i l hh hl1 hh1
        obtain ⟨hg,h'⟩:=OT.aE h
        cases h'
        simp only [SV.rel] at hx
        obtain ⟨bb,hcc,hb1,hb2⟩:=dQ hrs
        exact af6 he h1 hcc hb2 hx.2 (dn (kj hl1 ha ha')) (dn (kj hh1 hb hb')) hg
       ·cases h
      ·cases h
     ·rename_i t xs hnz
      have hmx:=hc' rfl
      subst hmx
      split at h
      ·rename_i hts
       simp only [SV.rel] at hx
       have hx':=hx
       obtain ⟨_,ad,cap,hcs,hcap,_⟩:=hx
       cases hcs
       have hrun:∀ l hh:Int,((a=none/\l=0)\/a=some (.int .i64 l))->((b=none/\hh=xs.length)\/b=some (.int .i64 hh))->cm l hh xs.length=true->
        (Instr.sliceAt T (.slice ad xs.length cap) a b none).run P w=.ok (.slice (if cap=l.toNat then ad else ad.map (·.add (l.toNat*ei.size))) (hh.toNat-l.toNat) (cap-l.toNat)) w:=λl hh hl hh' hb=>by
        have hb:=kc.1 hb
        simp only [Instr.sliceAt,Sem.run_bind,run_underlying h1,Result.andThen_ok,Instr.slice]
        rw [uM hl hh' ⟨hb.1,hb.2.1,by omega⟩]
        simp only [Result.andThen_ok,he.run_sizeOf w,Sem.run_bind,Sem.run_pure]
       split at h
       ·rename_i l hl1
        obtain ⟨hg,h'⟩:=OT.aE h
        cases h'
        have hb0:=hb' rfl
        refine ⟨_,hrun l xs.length (dn (kj hl1 ha ha')) (.inl ⟨hb0,rfl⟩) hg,?_⟩
        have hg:=kc.1 hg
        have:=agA (l:=l.toNat) (h:=xs.length) hx' (by omega) (Nat.le_refl _)
        rw [List.take_length] at this
        simp only [SV.rel]
        rw [<-hts]
        simpa using this
       ·rename_i l hh hl1
        obtain ⟨hg,h'⟩:=OT.aE h
        cases h'
        obtain ⟨vb,hvb,hvr⟩:=hb _ rfl
        simp only [SV.rel] at hvr
        rw [hvr.1] at hvb
        refine ⟨_,hrun l hh (dn (kj hl1 ha ha')) (.inr hvb) hg,?_⟩
        have hg:=kc.1 hg
        have:=agA (l:=l.toNat) (h:=hh.toNat) hx' (by omega) (by omega)
        simp only [SV.rel]
        rw [<-hts]
        exact this
       ·cases h
      ·cases h
     ·rename_i m q ep hnz
      split at h
      ·rename_i hh n hm'
       split at h
       ·rename_i hrs
        simp only [SV.rel] at hx
        obtain ⟨bb,hcc,hb1,hb2⟩:=dQ hrs
        obtain ⟨bb',hcc',_,hb4⟩:=dC hm'
        rw [hcc] at hcc'
        cases Option.some.inj hcc'
        have hp:=Ctx.cV hcc hx.2
        rw [hb4] at hp
        have ha0:=ha' rfl
        subst ha0
        obtain ⟨vb,hvb,hvr⟩:=hb _ rfl
        simp only [SV.rel] at hvr
        rw [hvr.1] at hvb
        obtain ⟨vc,hvc,hvs⟩:=hc _ rfl
        simp only [SV.rel] at hvs
        rw [hvs.1] at hvc
        subst hvb;subst hvc
        cases hcond:decide (hh=(n:Int))&&decide (m=(n:Int))
        ·rw [hcond] at h
         obtain ⟨hg,h'⟩:=OT.aE h
         cases h'
         simp only [aw,decide_eq_true_eq] at hg
         obtain ⟨ad,hr,hpt⟩:=apT (w:=w) he h1 hcc hp ⟨hg.1.1,hg.1.2,hg.2⟩
         exact ⟨_,hr,by simp only [SV.rel];exact ⟨rfl,hpt⟩⟩
        ·rw [hcond] at h
         cases h
         simp only [aw,decide_eq_true_eq] at hcond
         obtain ⟨rfl,rfl⟩:=hcond
         obtain ⟨ad,hr,hpt⟩:=apT (h:=(n:Int)) (m:=(n:Int)) (w:=w) he h1 hcc hp ⟨by omega,by omega,by omega⟩
         refine ⟨_,hr,?_⟩
         simp only [SV.rel,Ctx.clip,Ctx.own]
         refine ⟨rfl,⟨_,hcc,Nat.le_refl _,λ_=> ?_⟩,λch _ _=>⟨_,_,rfl⟩⟩
         rw [hb4]
         exact hpt
       ·cases h
      ·cases h
     ·cases h
  ·rename_i hd
   rw [hd] at h2
   simp only at h2
   subst h2
   split at h
   ·rename_i s
    have hmx:=hc' rfl
    subst hmx
    split at h
    ·rename_i l hh hl1 hh1
     obtain ⟨hg,h'⟩:=OT.aE h
     cases h'
     simp only [SV.rel] at hx
     obtain ⟨rfl,hmax⟩:=hx
     have hg:=kc.1 hg
     refine ⟨.string ((⟨s.toArray⟩:ByteArray).extract l.toNat hh.toNat),?_,?_⟩
     ·simp only [Instr.sliceAt,Sem.run_bind,run_underlying h1,Result.andThen_ok,Instr.slice,Option.isSome_none,Bool.false_eq_true,if_false]
      rw [uM (len:=(⟨s.toArray⟩:ByteArray).size) (cap:=(⟨s.toArray⟩:ByteArray).size) (dn (kj hl1 ha ha')) (dn (kj hh1 hb hb')) hg]
      rfl
     ·simp only [SV.rel]
      refine ⟨?_,by simp;omega⟩
      congr 1
      apply ByteArray.ext
      rw [ByteArray.data_extract]
      apply Array.ext'
      simp [List.drop_take]
    ·cases h
   ·cases h
  ·cases h
end
end Sx
end
section
namespace Sx
open Go
section
variable {P:Program} {R:Ctx} {w:World}
theorem I2 {agg:Bool} {cs:List SV} {vs:List Value} (h:SV.bz R cs vs) (h1:∀ u ∈ vs,u.oneCell'=true) (hs:agg=false->vs.length=1):SV.rel R (rG agg cs) (valOf agg vs):=by
 cases agg
 ·have:=hs rfl
  obtain ⟨v,rfl⟩:=List.length_eq_one_iff.1 this
  cases cs with
  |nil=>cases h
  |cons x l=>
   grind [SV.bz,rG,valOf]
 ·exact Bf h h1
theorem acW {te:TE} (hte:kq P te) {S:TypeId} {ti fi:TI} {fs:List (Nat×TypeId)} {f o:Nat} {l:List SV} {v:Value} (hS:te S=some ti) (hd:ti.desc=.struct fs) (hf:fieldAt fs te f=some (o,fi))
 (hl:o+fi.size<=l.length) (hx:SV.rel R (.agg l) v):lq P R w (Instr.field S v f) (rG fi.desc.agg ((l.drop o).take fi.size)):=by
 obtain ⟨fields,fld,h1,h2,h3,h4⟩:=rY hte hS hd hf
 obtain ⟨vs,rfl,hr,hone⟩:=hx
 have hlen:=SV.aN hr
 have ht:=hte _ _ h4
 have hp:=ve ht w vs o (by omega) ht.one
 refine ⟨_,?_,I2 (uP hr o fi.size) (λu hu=>hone u (AM hu)) (λha=> ?_)⟩
 ·simp_all [Instr.field,run_underlying,asAgg]
 ·rw [gW (by omega)];exact ht.one ha
theorem AN {kd:IntKind} {T e:TypeId} {n:Nat} {ei:TI} {k:Int} {vs:List Value} (hT:P.underlying T=some (.array n e)) (he:fe P e ei) (hl:vs.length=n*ei.size) (hk:inB k n=true):
 (Instr.index T (.agg vs.toArray) (.int kd k)).run P w=.ok (valOf ei.desc.agg (seg vs (k.toNat*ei.size) ei.size)) w:=by
 have hk:=yX.1 hk
 have hle:(k.toNat+1)*ei.size<=n*ei.size:=ck _ (by omega)
 rw [Nat.succ_mul] at hle
 have hp:=ve he w vs (k.toNat*ei.size) (by omega) he.one
 simp [Instr.index,asIntOf,run_underlying hT,he.run_sizeOf w]
 grind
theorem GI {α:Type} {f:SV->Option α} {l:List SV} {xs:List α} (d:α) (h:l.mapM f=some xs) {vs:List Value} (hr:SV.bz R l vs) {k:Nat} (hk:k<l.length):∃ x v,f x=some (xs.getD k d)/\vs[k]? =some v/\SV.rel R x v:=by
 obtain ⟨h1,h2⟩:=sO d h
 have hlen:=SV.aN hr
 exact ⟨l[k],vs[k]'(by omega),h2 k hk,(by simp),SV.ni hr k hk (by omega)⟩
theorem Mr {kd:IntKind} {te:TE} (hte:kq P te) {T:TypeId} {x z:SV} {v:Value} {k:Int} (h:(Rj te T x k).run=some z) (hx:SV.rel R x v):
 lq P R w (Instr.index T v (.int kd k)) z:=by
 unfold Rj at h
 split at h
 ·rename_i n e _ _ l hT
  split at h
  ·rename_i ei hei
   split at h
   ·cases h
   ·rename_i hlen
    have hlen:l.length=n*ei.size:=by simpa using hlen
    obtain ⟨d,h1,h2⟩:=(hte T _ hT).desc
    simp only at h2
    subst h2
    have he:=hte e ei hei
    simp only [SV.rel] at hx
    obtain ⟨vs,rfl,hr,hone⟩:=hx
    have hl:=SV.aN hr
    have one:∀ (b:Bool),inB k n=b->b=true->ei.desc.agg=false->∃ u,vs[k.toNat]? =some u/\(Instr.index T (.agg vs.toArray) (.int kd k)).run P w=.ok u w/\k.toNat<l.length:=λb hb hb' ha=>by
     have hk:inB k n=true:=hb.trans hb'
     have hk':=yX.1 hk
     have hs:=he.one ha
     rw [hs,Nat.mul_one] at hlen
     have hkl:k.toNat<vs.length:=by omega
     have:=AN (kd:=kd) (w:=w) h1 he (by rw [hl,hlen,hs,Nat.mul_one]) hk
     rw [ha,hs,Nat.mul_one] at this
     refine ⟨vs[k.toNat],m4 hkl,?_,by omega⟩
     rw [this]
     simp only [valOf,Bool.false_eq_true,if_false,seg]
     rw [mZ hkl]
     simp [m4 hkl]
    split at h
    ·rename_i hd
     split at h
     ·rename_i xs hxs
      obtain ⟨hk,h'⟩:=OT.aE h
      cases h'
      obtain ⟨u,hu,hrun,hkl⟩:=one _ rfl hk (by rw [hd];rfl)
      obtain ⟨y,v',hy,hv',hrel⟩:=GI (0:UInt64) hxs hr hkl
      rw [hu] at hv'
      cases hv'
      cases y<;>simp only [SV.aFi] at hy<;>first|(cases hy;done)|skip
      simp only [SV.rel] at hrel
      subst hrel
      rw [Option.some.inj hy] at hrun
      exact df hrun
     ·cases h
    ·rename_i hd
     split at h
     ·rename_i xs hxs
      obtain ⟨hk,h'⟩:=OT.aE h
      cases h'
      obtain ⟨u,hu,hrun,hkl⟩:=one _ rfl hk (by rw [hd];rfl)
      obtain ⟨y,v',hy,hv',hrel⟩:=GI (0:Int) hxs hr hkl
      rw [hu] at hv'
      cases hv'
      cases y<;>simp only [SV.toInt] at hy<;>first|(cases hy;done)|skip
      simp only [SV.rel] at hrel
      rw [hrel.1,Option.some.inj hy] at hrun
      exact cE hrun (by rw [<-Option.some.inj hy];exact hrel.2)
     ·cases h
    ·rename_i hd
     split at h
     ·rename_i xs hxs
      obtain ⟨hk,h'⟩:=OT.aE h
      cases h'
      obtain ⟨u,hu,hrun,hkl⟩:=one _ rfl hk (by rw [hd];rfl)
      obtain ⟨y,v',hy,hv',hrel⟩:=GI (0:UInt8) hxs hr hkl
      rw [hu] at hv'
      cases hv'
      cases y<;>simp only [SV.aHZ] at hy<;>first|(cases hy;done)|skip
      simp only [SV.rel] at hrel
      subst hrel
      rw [Option.some.inj hy] at hrun
      exact fK hrun
     ·cases h
    ·rename_i hd
     split at h
     ·rename_i xs hxs
      obtain ⟨hk,h'⟩:=OT.aE h
      cases h'
      obtain ⟨u,hu,hrun,hkl⟩:=one _ rfl hk (by rw [hd];rfl)
      obtain ⟨y,v',hy,hv',hrel⟩:=GI ([]:List UInt8) hxs hr hkl
      rw [hu] at hv'
      cases hv'
      cases y<;>simp only [SV.aFj] at hy<;>first|(cases hy;done)|skip
      simp only [SV.rel] at hrel
      rw [hrel.1] at hrun
      rw [Option.some.inj hy] at hrun hrel
      exact ⟨_,hrun,by simp only [SV.rel,true_and];exact hrel.2⟩
     ·cases h
    ·obtain ⟨hk,h'⟩:=OT.aE h
     cases h'
     have hk':=yX.1 hk
     have hle:(k.toNat+1)*ei.size<=n*ei.size:=ck _ (by omega)
     rw [Nat.succ_mul] at hle
     refine ⟨_,AN h1 he (by omega) hk,I2 (uP hr _ _) (λu hu=>hone u (AM hu)) (λha=> ?_)⟩
     rw [gW (by omega)];exact he.one ha
  ·cases h
 ·rename_i s hT
  obtain ⟨d,hu,h2⟩:=(hte T _ hT).desc
  simp only at h2
  subst h2
  obtain ⟨hk,h'⟩:=OT.aE h
  cases h'
  have hk':=yX.1 hk
  simp only [SV.rel] at hx
  obtain ⟨rfl,_⟩:=hx
  refine fK ?_
  have hkl:k.toNat<s.length:=by omega
  simp only [Instr.index,asIntOf,Sem.run_bind,Sem.run_pure,Result.andThen_ok,run_underlying hu]
  rw [if_pos hk'.1]
  have:(⟨s.toArray⟩:ByteArray)[k.toNat]? =some s[k.toNat]:=by
   rw [getElem?_pos (⟨s.toArray⟩:ByteArray) k.toNat (by simpa [ByteArray.size] using hkl)]
   rfl
  rw [this]
  simp only [Sem.run_pure,vu8]
  simp [fP,m4 hkl]
 ·cases h
theorem WO (off:Nat):∀ (vs:List Value) (i:Nat) (cs:Array Value),off+i+vs.length<=cs.size->
 ((vs.zipIdx i).foldl (λ(cs:Array Value) (x:Value×Nat)=>cs.setIfInBounds (off+x.2) x.1) cs).toList=cs.toList.take (off+i)++vs++cs.toList.drop (off+i+vs.length)
 | [],i,cs,_=>by simp
 |v::vs,i,cs,h=>by
  simp
  rw [WO off vs (i+1) _ (by grind)]
  grind [list_seg_step]
theorem vM {place:Nat->Option (Nat×Nat)}:∀ (ps:List (Option Nat×Nat×SV)) (ms:List (Nat×Value)) (cs cs':List SV) (arr:Array Value),fill cs ps=some cs'->
 ps.length=ms.length->(∀ i (h:i<ps.length) (h':i<ms.length),SV.rel R ps[i].2.2 ms[i].2/\∀ off,ps[i].1=some off->place ms[i].1=some (off,ps[i].2.1))->
 SV.bz R cs arr.toList->(∀ u ∈ arr.toList,u.oneCell'=true)->∃ arr',Instr.fill place arr ms=some arr'/\SV.bz R cs' arr'.toList/\(∀ u ∈ arr'.toList,u.oneCell'=true)/\arr'.size=arr.size
 | [],[],cs,cs',arr,h,_,_,hr,h1=>by
  cases h
  exact ⟨arr,rfl,hr,h1,rfl⟩
 | [],m::ms,cs,cs',arr,h,hl,_,_,_=>by grind
 |p::ps,[],cs,cs',arr,h,hl,_,_,_=>by grind
 |(o,size,x)::ps,(i,v)::ms,cs,cs',arr,h,hl,hall,hr,h1=>by
  cases o with
  |none=>simp only [fill] at h;cases h
  |some off=>
   simp only [fill] at h
   split at h
   ·rename_i l hcl
    split at h
    ·rename_i hc
     obtain ⟨hx,hp⟩:=hall 0 (by simp) (by simp)
     obtain ⟨vs,hv,hrv,hone⟩:=Ib hx hcl
     have hlen:=SV.aN hrv
     have hal:=SV.aN hr
     have hfold:=WO off vs 0 arr (by simp at hal⊢;omega)
     have ih:=vM ps ms (wM cs off l) cs' (((vs.zipIdx 0).foldl (λ(cs:Array Value) (x:Value×Nat)=>cs.setIfInBounds (off+x.2) x.1) arr)) h (by simpa using hl)
      (λj hj hj'=>hall (j+1) (Nat.succ_lt_succ hj) (Nat.succ_lt_succ hj'))
      (by rw [hfold];exact xR hr hrv off)
      (by grind)
     grind [Instr.fill,Array.length_toList]
    ·cases h
   ·cases h
end
end Sx
end
section
namespace Sx
open Go
section
variable {P:Program} {R:Ctx} {w:World}
def SZ (R:Ctx) (ps:List (Nat×SV)) (ms:List (Nat×Value)):Prop:=
 ps.length=ms.length/\∀ i (h:i<ps.length) (h':i<ms.length),ps[i].1=ms[i].1/\SV.rel R ps[i].2 ms[i].2
theorem fe.uD {T:TypeId} {ti:TI} (ht:fe P T ti):∃ i z,P.info? T=some i/\i.size=ti.size/\i.bytes=ti.bytes/\i.zero=some z/\SV.bz R ti.zero z.cells.toList/\z.cells.size=ti.size/\∀ u ∈ z.cells.toList,u.oneCell'=true:=by
 obtain ⟨i,z,h1,h2,h3,h4,h5,h6,h7⟩:=ht.aE4
 grind [xS]
theorem Nd {te:TE} (hte:kq P te):∀ {fields:List Field} {places:List (Nat×Nat)},fields.mapM (λf=>(P.info? f.type).map λi=>(f.offset,i.size))=some places->
 ∀ {f:Nat} {fld:Field} {fi:TI},fields[f]? =some fld->te fld.type=some fi->places[f]? =some (fld.offset,fi.size)
 | [],places,h,f,fld,fi,hf,_=>by grind
 |g::gs,places,h,f,fld,fi,hf,hfi=>by
  cases hi:P.info? g.type with
  |none=>grind
  |some i=>
   cases hr:gs.mapM (λf=>(P.info? f.type).map λi=>(f.offset,i.size)) with
   |none=>grind
   |some rest=>
    simp [hi,hr] at h
    subst h
    cases f with
    |zero=>
     simp at hf⊢
     obtain ⟨i',_,h1,h2,_⟩:=(hte _ _ hfi).aE4
     grind
    |succ f=>
     exact Nd hte hr hf hfi
theorem adK {te:TE} (hte:kq P te) {T:TypeId} {ps:List (Nat×SV)} {parts:Array (Nat×Value)} {z:SV} (h:(build te T ps).run=some z) (hp:SZ R ps parts.toList):
 lq P R w (Instr.build T parts) z:=by
 unfold build at h
 split at h
 ·cases h
 ·rename_i ti hT
  have ht:=hte T ti hT
  obtain ⟨d,h1,h2⟩:=ht.desc
  obtain ⟨it,zv,z1,z2,z3,z4,z5,z6,z7⟩:=ht.uD (R:=R)
  obtain ⟨hp1,hp2⟩:=hp
  split at h
  ·rename_i fs hd
   rw [hd] at h2
   obtain ⟨fields,rfl,h3,h4,h5,h6⟩:=h2
   obtain ⟨places,hpl⟩:=Option.isSome_iff_exists.1 h6
   split at h
   ·rename_i cs hfill
    cases h
    obtain ⟨arr',r1,r2,r3,r4⟩:=vM (R:=R) (place:=(places.toArray[·]?)) _ parts.toList _ _ zv.cells hfill (by simpa using hp1) (λi hi hi'=>by
     have hi2:i<ps.length:=by simpa using hi
     obtain ⟨q1,q2⟩:=hp2 i hi2 hi'
     simp
     split
     ·rename_i o fi hf
      refine ⟨q2,λoff ho=> ?_⟩
      cases ho
      obtain ⟨fields',fld,f1,f2,f3,f4⟩:=rY hte hT hd hf
      grind [Nd]
     grind) z5 z7
    refine ⟨.agg arr',run_build w T parts arr' ?_,?_⟩
    ·grind [Program.built]
    grind [SV.rel]
   ·cases h
  ·rename_i n e hd
   rw [hd] at h2
   simp only at h2
   subst h2
   split at h
   ·rename_i ei hei
    obtain ⟨ie,_,e1,e2,_⟩:=(hte e ei hei).aE4
    split at h
    ·rename_i cs hfill
     cases h
     obtain ⟨arr',r1,r2,r3,r4⟩:=vM (R:=R) (place:=λi=>some (i*ie.size,ie.size)) _ parts.toList _ _ zv.cells hfill (by simpa using hp1) (by grind) z5 z7
     refine ⟨.agg arr',run_build w T parts arr' ?_,?_⟩
     ·grind [Program.built]
     grind [SV.rel]
    ·cases h
   ·cases h
  ·cases h
theorem afL {z:Array Value} {n i:Nat} (hz:0<z.size) (h:i<n):seg (madeCells z (n*z.size)).toList (i*z.size) z.size=z.toList:=by
 have hle:(i+1)*z.size<=n*z.size:=ck _ h
 apply List.ext_getElem?
 grind [seg,madeCells,Array.toList_map,Array.toList_range,List.getElem?_range,Nat.mul_add_mod_self_right,bm]
theorem apl {cs:List SV} {z:Array Value} (h:SV.bz R cs z.toList) (hz:0<z.size) (n:Nat):SV.bz R ((List.range n).flatMap λ_=>cs) (madeCells z (n*z.size)).toList:=by
 have hl:(madeCells z (n*z.size)).toList.length=n*z.size:=by simp [size_madeCells]
 have:=uQ (R:=R) (f:=λ_=>cs) (cs:=(madeCells z (n*z.size)).toList) (s:=z.size) n (by omega) (λi hi=>by grind [afL])
 grind
theorem axa {z:Array Value} (h:∀ u ∈ z.toList,u.oneCell'=true) (hz:0<z.size) (n:Nat):∀ u ∈ (madeCells z n).toList,u.oneCell'=true:=by grind [madeCells,Array.toList_map,Array.toList_range,Nat.mod_lt]
theorem oG {hp:Hp} {d:Nat} (h:¬(hp (fresh hp d)).isSome=true):hp (fresh hp d)=none:=by simp_all
theorem pB {n:Nat} {t:Ty} {xs:List t.T} {L:Loc} {cap:Nat} (hcap:xs.length<=cap) (hlim:cap*t.size<=L.lim) (hb:L.base=0):
 SV.rel (R.lay n ⟨0,.row t xs⟩ (some L)) (.own n 0) (.slice (some ⟨L.block,0,none⟩) xs.length cap):=by
 have hc:(R.lay n ⟨0,.row t xs⟩ (some L)).hp n=some ⟨0,.row t xs⟩:=by simp [Ctx.lay]
 refine ⟨rfl,_,hc,(by simp),λ_=>⟨_,hc,(by simp),λ_=>⟨rfl,by simp,some ⟨L.block,0,none⟩,cap,rfl,hcap,?_⟩⟩⟩
 grind [Ctx.lay,Chunk.shape]
theorem H9 {n:Nat} {t:Ty} {ad:Option Addr}:SV.rel (R.lay n ⟨0,.row t []⟩ none) (.own n 0) (.slice ad 0 0):=by
 have hc:(R.lay n ⟨0,.row t []⟩ none).hp n=some ⟨0,.row t []⟩:=by simp [Ctx.lay]
 refine ⟨rfl,_,hc,(by simp),λ_=>⟨_,hc,(by simp),λ_=>⟨rfl,by simp,ad,0,rfl,Nat.le_refl _,?_⟩⟩⟩
 grind
theorem F8 (hm:cz R w) {te:TE} (hte:kq P te) {T:TypeId} {d len:Nat} {ps:List (Nat×SV)} {parts:Array (Nat×Value)} {e:Eff} (h:(buildSlice te R.hp d T len ps).run=some e)
 (hp:SZ R ps parts.toList):LP P R w (Instr.buildSlice T len parts) e:=by
 unfold buildSlice at h
 split at h
 ·rename_i el _ _ hT
  split at h
  ·rename_i size bytes desc zero t hei
   obtain ⟨ds,h1,h2⟩:=(hte T _ hT).desc
   subst h2
   have he:=hte el _ hei
   obtain ⟨ie,zv,z1,z2,z3,z4,z5,z6,z7⟩:=he.uD (R:=R)
   simp only at z2 z6
   dsimp only at h
   split at h
   ·cases h
   ·rename_i hc
    simp only [not_or] at hc
    obtain ⟨hfr,hts,hs0,hsm⟩:=hc
    have hn:=oG hfr
    have hts:t.size=size:=by simpa using hts
    split at h
    ·rename_i cs hfill
     split at h
     ·rename_i xs hxs
      cases h
      obtain ⟨hp1,hp2⟩:=hp
      have hzs:0<zv.cells.size:=by omega
      obtain ⟨arr',r1,r2,r3,r4⟩:=vM (R:=R) (place:=λi=>some (i*ie.size,ie.size)) _ parts.toList _ _ (madeCells zv.cells (len*zv.cells.size)) hfill (by simpa using hp1) (by grind) (apl z5 hzs len) (axa z7 hzs _)
      have hsz:arr'.size=len*size:=by rw [r4,size_madeCells,z6]
      obtain ⟨x1,x2⟩:=agw hm r2 hxs
      by_cases hl0:len=0
      ·subst hl0
       have hx0:xs= []:=(by grind)
       subst hx0
       have ha0:arr'= #[]:=(by grind)
       subst ha0
       have hm0:madeCells zv.cells (0*zv.cells.size)= #[]:=by grind
       rw [hm0] at r1
       refine ⟨.slice (some ⟨w.heap.size,0,none⟩) 0 0,_,_,?_,Jr hm hn (by omega) (xs:= []) (arr:= #[]) (E:=el) (by simp) (heap_alloc_new w _) (oU w _) (by simp) (by omega),pB (by simp) (by simp) rfl⟩
       have hr0:Array.range 0= #[]:=rfl
       simp [Instr.buildSlice,run_underlying h1,sizeOf,typeInfo,z1,newRow,r1,hr0]
      ·have hpos:¬len*ie.size=0:=by
        grind [Nat.mul_ne_zero]
       have hrun:=run_buildSlice (P:=P) w T el len parts arr' ie zv h1 z1 z4 (by rw [z2];omega) hpos (by rw [<-r1];congr 1;rw [z2,<-z6];rfl)
       refine ⟨_,_,_,hrun,Jr hm hn (by omega) (xs:=xs) (arr:=arr') (E:=el) ?_ (heap_alloc_new w _) (oU w _) (by grind) (by grind),?_⟩
       ·have h5:len*1<=len*size:=Nat.mul_le_mul_left _ (by omega)
        grind [cL]
       ·rw [<-x1]
        exact pB (Nat.le_refl _) (by grind) rfl
     ·cases h
    ·cases h
  ·cases h
 ·cases h
theorem Jf (hm:cz R w) {te:TE} (hte:kq P te) {T:TypeId} {d:Nat} {l c:Int} {e:Eff} (h:(makeSlice te R.hp d T l c).run=some e):
 LP P R w (Instr.makeSlice T (.int .i64 l) (.int .i64 c)) e:=by
 unfold makeSlice at h
 split at h
 ·rename_i el _ _ hT
  split at h
  ·rename_i size bytes desc zero t hei
   obtain ⟨ds,h1,h2⟩:=(hte T _ hT).desc
   simp only at h2
   subst h2
   have he:=hte el _ hei
   obtain ⟨ie,zv,z1,z2,z3,z4,z5,z6,z7⟩:=he.uD (R:=R)
   simp only at z2 z3 z6
   dsimp only at h
   split at h
   ·cases h
   ·rename_i hc
    simp only [not_or] at hc
    obtain ⟨hfr,hts,hs0⟩:=hc
    have hn:=oG hfr
    have hts:t.size=size:=by simpa using hts
    obtain ⟨hg,h'⟩:=OT.aE h
    cases h'
    simp only [aw,decide_eq_true_eq] at hg
    obtain ⟨⟨⟨g1,g2⟩,g3⟩,g4⟩:=hg
    have hrun:=run_make (P:=P) w T el ie zv h1 z1 z4 .i64 .i64 l c g1 g2 (by rw [z3,Int.mul_comm];omega) (by omega)
    have hzs:0<zv.cells.size:=by omega
    have hmax:l.toNat<=cL:=by unfold cL;omega
    have hty:=((he.ty t rfl).2.1)
    have hlen:(List.replicate l.toNat t.d).length=l.toNat:=fW
    have hsz:(madeCells zv.cells (c.toNat*ie.size)).size=c.toNat*size:=by rw [size_madeCells,z2]
    refine ⟨_,_,_,hrun,Jr hm hn (by omega) (xs:=List.replicate l.toNat t.d) (E:=el) (by rw [hlen];exact hmax) (heap_alloc_new w _) (oU w _) ?_ (λi hi=> ?_),?_⟩
    ·rw [hlen,hsz,hts]
     exact ck _ (by omega)
    ·rw [hlen] at hi
     have e1:(List.replicate l.toNat t.d).getD i t.d=t.d:=by
      simp only [fP,List.getElem?_replicate]
      split<;>rfl
     rw [e1,z2,<-z6,hts,<-z6,afL hzs (by omega)]
     exact hty R.F zv (by rw [z1];simpa using z4)
    ·have:=pB (R:=R) (n:=fresh R.hp d) (t:=t) (xs:=List.replicate l.toNat t.d) (L:=⟨w.heap.size,0,(madeCells zv.cells (c.toNat*ie.size)).size⟩) (cap:=c.toNat) (by rw [hlen];omega) (by simp only;rw [hsz,hts];exact Nat.le_refl _) rfl
     rwa [hlen] at this
  ·cases h
 ·cases h
end
end Sx
end
section
namespace Sx
open Go
section
variable {P:Program} {R:Ctx} {w:World}
structure Src (P:Program) (R:Ctx) (w:World) (t:Ty) (ys:List t.T) (v:Value) (news:List Value):Prop where
 len:∀ w',(Builtin.lenOf v).run P w'=.ok ys.length w'
 cells:∀ w' n,(∀ b,b<w.heap.size->w'.heap[b]? =w.heap[b]?)->n<=ys.length->(Builtin.firstCells t.size n v).run P w'=.ok (news.take (n*t.size)).toArray w'
 size:news.length=ys.length*t.size
 rep:∀ i,i<ys.length->Rep R.F t (ys.getD i t.d) (seg news (i*t.size) t.size)
 one:∀ u ∈ news,u.oneCell'=true
 max:ys.length<=cL
theorem aoW {t:Ty} {ys:List t.T} {b o cap:Nat} {arr:Array Value} {E:TypeId} {fz:Nat×Nat} (ht:0<t.size) (hb:w.heap[b]? =some (.cells arr E fz)) (hs:o+ys.length*t.size<=arr.size)
 (hr:SX R arr o t ys) (hmax:ys.length<=cL):Src P R w t ys (.slice (some ⟨b,o,none⟩) ys.length cap) (seg arr.toList o (ys.length*t.size)):=by
 have hlen:(seg arr.toList o (ys.length*t.size)).length=ys.length*t.size:=gW (by simpa using hs)
 have hlt:b<w.heap.size:=(Array.getElem?_eq_some_iff.1 hb).1
 refine ⟨λw'=>rfl,λw' n mB hn=> ?_,hlen,λi hi=> ?_,?_,hmax⟩
 ·have hle:n*t.size<=ys.length*t.size:=ck _ hn
  have:=EZ (P:=P) (w:=w') (o:=o) (n:=n*t.size) ((mB b hlt).trans hb) (by omega)
  simp only [Builtin.firstCells]
  rw [this]
  congr 2
  simp only [seg,List.take_take]
  rw [Nat.min_eq_left hle]
 ·have hle:(i+1)*t.size<=ys.length*t.size:=ck _ hi
  rw [Nat.succ_mul] at hle
  rw [C3 _ _ _ _ _ hle]
  exact hr i hi
 ·have:=Dp hr ht (i:=0) (m:=ys.length) (by omega)
  simpa using this
theorem aaj {t:Ty} {ad:Option Addr}:Src P R w t [] (.slice ad 0 0) []:=by
 refine ⟨λw'=>rfl,λw' n _ hn=> ?_,by simp,λi hi=>by simp at hi,by simp,by simp⟩
 simp only [List.length_nil,Nat.le_zero] at hn
 subst hn
 cases ad with
 |none=>simp [Builtin.firstCells]
 |some a=>simp [Builtin.firstCells,Go.loadCells,loadCellsFrom]
theorem nh (hm:cz R w) {c e off len:Nat} {v:Value} {t:Ty} {xs:List t.T} {b:Chunk} (hc:R.hp c=some ⟨e,b⟩) (hb:b=.row t xs\/b=.frz t xs) (h:R.part c e off len v):
 ∃ news,Src P R w t ((xs.drop off).take len) v news:=by
 obtain ⟨h1,h2,ad,cap,rfl,h4,h5⟩:=Ctx.cK hc h
 have hsh:b.shape=(true,t.size,xs.length):=by rcases hb with rfl|rfl<;>rfl
 rw [hsh] at h2 h5
 simp only at h2 h5
 have hlen:((xs.drop off).take len).length=len:=by simp;omega
 have hch:=hm.ch c _ hc
 cases hσ:R.σ c with
 |none=>
  rw [hσ] at h5
  simp only at h5
  have hl0:len=0:=by omega
  subst hl0;subst h5
  exact ⟨[],by simpa using aaj⟩
 |some L=>
  rw [hσ] at h5
  obtain ⟨h6,h7⟩:=h5
  by_cases hl0:len=0
  ·subst hl0
   refine ⟨[],?_⟩
   have:Src P R w t [] (.slice ad 0 cap) []:=by
    refine ⟨λw'=>rfl,λw' n _ hn=> ?_,by simp,λi hi=>by simp at hi,by simp,by simp⟩
    simp only [List.length_nil,Nat.le_zero] at hn
    subst hn
    cases ad with
    |none=>simp [Builtin.firstCells]
    |some a=>simp [Builtin.firstCells,Go.loadCells,loadCellsFrom]
   simpa using this
  ·have had:=h7 (by omega)
   subst had
   have key:∀ (arr:Array Value) (E:TypeId) (fz:Nat×Nat),0<t.size->xs.length<=cL->w.heap[L.block]? =some (.cells arr E fz)->arr.size=L.base+L.lim->xs.length*t.size<=L.lim->SX R arr L.base t xs->
    ∃ news,Src P R w t ((xs.drop off).take len) (.slice (some ⟨L.block,L.base+off*t.size,none⟩) len cap) news:=λarr E fz ht hmx hbk ha hl hrow=>by
    have hle:(off+len)*t.size<=xs.length*t.size:=ck _ h2
    rw [Nat.add_mul] at hle
    have:=aoW (P:=P) (R:=R) (w:=w) (ys:=(xs.drop off).take len) (o:=L.base+off*t.size) (cap:=cap) ht hbk (by rw [hlen];omega) (λi hi=>by
     rw [hlen] at hi
     have e1:((xs.drop off).take len).getD i t.d=xs.getD (off+i) t.d:=by
      simp only [fP]
      rw [List.getElem?_take_of_lt hi,List.getElem?_drop]
     rw [e1,Nat.add_assoc,<-Nat.add_mul]
     exact hrow _ (by omega)) (by omega)
    rw [hlen] at this
    exact ⟨_,this⟩
   rcases hb with rfl|rfl
   ·simp only [eW,hσ] at hch
    obtain ⟨ht,hmx,_,_,arr,E,hbk,ha,hl,hrow⟩:=hch
    exact key arr E _ ht hmx hbk ha hl hrow
   ·simp only [eW,hσ] at hch
    obtain ⟨ht,hmx,arr,E,fz,hbk,ha,hl,hrow⟩:=hch
    exact key arr E fz ht hmx (hm.F _ _ hbk) ha hl hrow
theorem aCT (hm:cz R w) {t:Ty} (ht:0<t.size) {xs:List t.T} {v:Value} (h:Rep R.F (.list t) xs [v]):∃ news,Src P R w t xs v news:=by
 obtain ⟨hmax,ad,cap,hcs,hcap,hor⟩:=h
 cases hcs
 rcases hor with rfl|⟨b,o,arr,E,fz,rfl,hF,hsz,hrow⟩
 ·refine ⟨[],⟨λw'=>rfl,λw' n _ hn=> ?_,by simp,λi hi=>by simp at hi,by simp,by simp⟩⟩
  simp only [List.length_nil,Nat.le_zero] at hn
  subst hn
  cases ad with
  |none=>simp [Builtin.firstCells]
  |some a=>simp [Builtin.firstCells,Go.loadCells,loadCellsFrom]
 ·exact ⟨_,aoW ht (hm.F _ _ hF) hsz hrow hmax⟩
theorem OP (hm:cz R w) {t:Ty} (ht:0<t.size) {x:SV} {ys:List t.T} {v:Value} (h:xa t R.hp x=some ys) (hx:SV.rel R x v):∃ news,Src P R w t ys v news:=by
 unfold xa at h
 split at h
 ·obtain ⟨e,rfl⟩:=bi h
  subst e
  simp only [SV.rel] at hx
  exact aCT hm ht hx
 ·cases h
  simp only [SV.rel] at hx
  obtain ⟨ad,rfl⟩:=hx
  exact ⟨[],aaj⟩
 ·rename_i c e
  simp only [SV.rel] at hx
  split at h
  ·rename_i ep t' xs hc
   split at h
   ·rename_i he
    subst he
    obtain ⟨e,rfl⟩:=bi h
    subst e
    have:=nh (P:=P) hm hc (.inl rfl) (Ctx.cV hc hx.2)
    simpa [Chunk.shape] using this
   ·cases h
  ·rename_i ep t' xs hc
   split at h
   ·rename_i he
    subst he
    obtain ⟨e,rfl⟩:=bi h
    subst e
    have:=nh (P:=P) hm hc (.inr rfl) (Ctx.cV hc hx.2)
    simpa [Chunk.shape] using this
   ·cases h
  ·cases h
 ·rename_i c e
  simp only [SV.rel] at hx
  split at h
  ·rename_i ep t' xs hc
   split at h
   ·rename_i he
    subst he
    obtain ⟨e,rfl⟩:=bi h
    subst e
    have:=nh (P:=P) hm hc (.inl rfl) (Ctx.cV hc hx.2.1)
    simpa [Chunk.shape] using this
   ·cases h
  ·rename_i ep t' xs hc
   split at h
   ·rename_i he
    subst he
    obtain ⟨e,rfl⟩:=bi h
    subst e
    have:=nh (P:=P) hm hc (.inr rfl) (Ctx.cV hc hx.2.1)
    simpa [Chunk.shape] using this
   ·cases h
  ·cases h
 ·rename_i c e off len
  simp only [SV.rel] at hx
  split at h
  ·rename_i ep t' xs hc
   split at h
   ·rename_i he
    subst he
    cases hr:cd t t' xs with
    |none=>rw [hr] at h;cases h
    |some zs=>
     rw [hr] at h
     cases h
     obtain ⟨e,rfl⟩:=bi hr
     subst e
     exact nh hm hc (.inl rfl) hx.2
   ·cases h
  ·rename_i ep t' xs hc
   split at h
   ·rename_i he
    subst he
    cases hr:cd t t' xs with
    |none=>rw [hr] at h;cases h
    |some zs=>
     rw [hr] at h
     cases h
     obtain ⟨e,rfl⟩:=bi hr
     subst e
     exact nh hm hc (.inr rfl) hx.2
   ·cases h
  ·cases h
 ·cases h
theorem aoT {t:Ty} {b:List UInt8} {ys:List t.T} {v:Value} (h:cd t .u8 b=some ys) (hx:SV.rel R (.str b) v):∃ news,Src P R w t ys v news:=by
 obtain ⟨e,rfl⟩:=bi h
 subst e
 simp only [SV.rel] at hx
 obtain ⟨rfl,hmax⟩:=hx
 refine ⟨b.map vu8,⟨λw'=>rfl,λw' n _ hn=> ?_,by simp [Ty.size],λi hi=> ?_,λu hu=> ?_,hmax⟩⟩
 ·simp only [Builtin.firstCells,Sem.run_pure]
  congr 1
  apply Array.ext'
  simp [Ty.size,ByteArray.data_extract,List.map_take]
  rfl
 ·simp only [Rep,Ty.size,Nat.mul_one,seg]
  rw [mZ (by simpa using hi)]
  simp [fP,m4 hi]
 ·obtain ⟨x,_,rfl⟩:=List.mem_map.1 hu
  rfl
end
end Sx
end
section
namespace Sx
open Go
section
variable {P:Program} {R:Ctx} {w:World}
theorem P4 {te:TE} (hte:kq P te) {T:TypeId} (h:AK te T=true):(∃ e,P.underlying T=some (.slice e))\/P.underlying T=some .string:=by
 unfold AK at h
 split at h
 ·rename_i hT
  obtain ⟨d,h1,h2⟩:=(hte T _ hT).desc
  simp only at h2
  subst h2
  exact .inl ⟨_,h1⟩
 ·rename_i hT
  obtain ⟨d,h1,h2⟩:=(hte T _ hT).desc
  simp only at h2
  subst h2
  exact .inr h1
 ·cases h
section
variable {T T' Tr e:TypeId} {ti:TI} {sLen sCap:Nat} {x:Value} {n:Nat} (hT:P.underlying T=some (.slice e)) (he:fe P e ti)
 (hT':(∃ e,P.underlying T'=some (.slice e))\/P.underlying T'=some .string) (hx:(Builtin.lenOf x).run P w=.ok n w)
include hT he hT' hx
theorem sf {a:Addr} {news:List Value} {w1:World} (hf:(Builtin.firstCells ti.size n x).run P w=.ok news.toArray w) (hroom:sLen+n<=sCap)
 (hst:(Go.storeCells (a.add (sLen*ti.size)) news).run P w=.ok () w1):
 (Builtin.append_ #[T,T'] Tr #[.slice (some a) sLen sCap,x]).run P w=.ok (.slice (some a) (sLen+n) sCap) w1:=by
 have hs:=he.run_sizeOf w
 rcases hT' with ⟨e',hT'⟩|hT'<;>simp [Builtin.append_,run_underlying hT,run_underlying hT',hs,hx,hroom,hf,hst]
theorem jU {news:List Value} (hf:(Builtin.firstCells ti.size n x).run P w=.ok news.toArray w) (hroom:sLen+n<=sCap):
 (Builtin.append_ #[T,T'] Tr #[.slice none sLen sCap,x]).run P w=.ok (.slice none (sLen+n) sCap) w:=by
 have hs:=he.run_sizeOf w
 rcases hT' with ⟨e',hT'⟩|hT'<;>simp [Builtin.append_,run_underlying hT,run_underlying hT',hs,hx,hroom,hf]
theorem E3 {base:Option Addr} {olds news:List Value} {ie:TypeInfo} {z:Value} (hi:P.info? e=some ie) (hz:ie.zero=some z) (hroom:¬sLen+n<=sCap) (h63:sLen+n<=140737488355328)
 (hcap:Builtin.nextslicecap (sLen+n) sCap*ie.bytes<=281474976710656)
 (ho:(Builtin.firstCells ti.size sLen (.slice base sLen sCap)).run P w.drew=.ok olds.toArray w.drew) (hf:(Builtin.firstCells ti.size n x).run P w.drew=.ok news.toArray w.drew):
 (Builtin.append_ #[T,T'] Tr #[.slice base sLen sCap,x]).run P w=
  .ok (.slice (some ⟨w.heap.size,0,none⟩) (sLen+n) (grownCap w (sLen+n) sCap e))
   (w.drew.alloc (.cells (olds.toArray++news.toArray++Builtin.zeroCells z.cells (grownCap w (sLen+n) sCap e-(sLen+n))) e)):=by
 have hs:=he.run_sizeOf w
 have h63':¬(9223372036854775807<((sLen:Int)+(n:Int))):=by omega
 have h48':¬(281474976710656<Builtin.nextslicecap (sLen+n) sCap*ie.bytes):=by omega
 have hti:(typeInfo e).run P w=.ok ie w:=by simp [typeInfo,hi]
 rcases hT' with ⟨e',hT'⟩|hT'
 ·simp [Builtin.append_,run_underlying hT,run_underlying hT',hs,hx,hroom,typeInfo,zeroValue,hi,hz,h63',h48',Question.forced,hf,ho,newRow,grownCap]
  congr 2
  apply Array.ext'
  simp
 ·simp [Builtin.append_,run_underlying hT,run_underlying hT',hs,hx,hroom,typeInfo,zeroValue,hi,hz,h63',h48',Question.forced,hf,ho,newRow,grownCap]
  congr 2
  apply Array.ext'
  simp
end
theorem BT (w:World):∀ b,b<w.heap.size->w.drew.heap[b]? =w.heap[b]? :=λ_ _=>rfl
theorem C5 {t:Ty} {xs ys:List t.T} {A B C:List Value} (hA:A.length=xs.length*t.size) (hB:B.length=ys.length*t.size)
 (ha:∀ i,i<xs.length->Rep R.F t (xs.getD i t.d) (seg A (i*t.size) t.size)) (hb:∀ i,i<ys.length->Rep R.F t (ys.getD i t.d) (seg B (i*t.size) t.size)):
 ∀ i,i<(xs++ys).length->Rep R.F t ((xs++ys).getD i t.d) (seg (A++B++C) (i*t.size) t.size):=λi hi=>by
 rw [bK] at hi
 by_cases h:i<xs.length
 ·have hle:(i+1)*t.size<=xs.length*t.size:=ck _ h
  rw [Nat.succ_mul] at hle
  have e1:(xs++ys).getD i t.d=xs.getD i t.d:=by
   simp only [fP]
   rw [List.getElem?_append_left h]
  have e2:seg (A++B++C) (i*t.size) t.size=seg A (i*t.size) t.size:=by
   apply List.ext_getElem?
   intro j
   simp only [seg,List.getElem?_take,List.getElem?_drop]
   by_cases hj:j<t.size
   ·simp only [hj,if_true]
    rw [List.append_assoc,List.getElem?_append_left (by omega)]
   ·simp [hj]
  rw [e1,e2]
  exact ha i h
 ·have hle:(i-xs.length+1)*t.size<=ys.length*t.size:=ck _ (by omega)
  rw [Nat.succ_mul] at hle
  have hsub:(i-xs.length)*t.size+xs.length*t.size=i*t.size:=by rw [<-Nat.add_mul];congr 1;omega
  have e1:(xs++ys).getD i t.d=ys.getD (i-xs.length) t.d:=by
   simp only [fP]
   rw [List.getElem?_append_right (by omega)]
  have e2:seg (A++B++C) (i*t.size) t.size=seg B ((i-xs.length)*t.size) t.size:=by
   apply List.ext_getElem?
   intro j
   simp only [seg,List.getElem?_take,List.getElem?_drop]
   by_cases hj:j<t.size
   ·simp only [hj,if_true]
    rw [List.getElem?_append_left (by simp;omega),List.getElem?_append_right (by omega)]
    congr 1
    omega
   ·simp [hj]
  rw [e1,e2]
  exact hb _ (by omega)
theorem Wz (hm:cz R w) {te:TE} {T T' Tr e:TypeId} {ti:TI} (hT:P.underlying T=some (.slice e)) (he:fe P e ti) (hT':(∃ e,P.underlying T'=some (.slice e))\/P.underlying T'=some .string)
 {t:Ty} (ht:0<t.size) (hts:t.size=ti.size) {xs ys:List t.T} {base:Option Addr} {sCap:Nat} {x:Value} {news:List Value} (hsrc:Src P R w t ys x news) {olds:List Value} (hold:Src P R w t xs (.slice base xs.length sCap) olds)
 (hroom:¬xs.length+ys.length<=sCap) (hbytes:(xs.length+ys.length)*ti.bytes<=140737488355328) (hb0:0<ti.bytes) {n:Nat} (hn:R.hp n=none):
 LP P R w (Builtin.append_ #[T,T'] Tr #[.slice base xs.length sCap,x]) ⟨.own n 0,[(n,⟨0,.row t (xs++ys)⟩)]⟩:=by
 obtain ⟨ie,z,z1,z2,z3,z4,z5,z6,z7⟩:=he.uD (R:=R)
 have h63:xs.length+ys.length<=140737488355328:=by
  have:(xs.length+ys.length)*1<=(xs.length+ys.length)*ti.bytes:=Nat.mul_le_mul_left _ hb0
  omega
 have hf:=hsrc.cells w.drew ys.length (BT w) (Nat.le_refl _)
 have ho:=hold.cells w.drew xs.length (BT w) (Nat.le_refl _)
 rw [hts,<-hts,List.take_of_length_le (by rw [hsrc.size];exact Nat.le_refl _)] at hf
 rw [List.take_of_length_le (by rw [hold.size];exact Nat.le_refl _)] at ho
 rw [hts] at hf ho
 have hrun:=E3 (Tr:=Tr) hT he hT' (hsrc.len w) z1 z4 hroom h63 (growslice_fits (by omega) (by rw [z3];exact hbytes)) ho hf
 have hge:=grownCap_ge w (xs.length+ys.length) sCap e
 have hgm:=grownCap_le_maxLen w (xs.length+ys.length) sCap e (by unfold maxLen;omega)
 have hlen:(xs++ys).length=xs.length+ys.length:=bK
 have hsz:(olds.toArray++news.toArray++Builtin.zeroCells z.cells (grownCap w (xs.length+ys.length) sCap e-(xs.length+ys.length))).size=grownCap w (xs.length+ys.length) sCap e*t.size:=by
  simp only [Array.size_append,List.size_toArray,size_zeroCells,z6,hold.size,hsrc.size,<-hts,<-Nat.add_mul]
  congr 1
  omega
 refine ⟨_,_,_,hrun,Jr hm hn ht (xs:=xs++ys) (E:=e) (by rw [hlen];unfold cL;omega) (heap_alloc_new w.drew _) (λb hb=>heap_alloc_old w.drew _ b hb) ?_ ?_,?_⟩
 ·rw [hlen,hsz]
  exact ck _ hge
 ·have:=C5 (R:=R) (C:=(Builtin.zeroCells z.cells (grownCap w (xs.length+ys.length) sCap e-(xs.length+ys.length))).toList) hold.size hsrc.size hold.rep hsrc.rep
  simpa using this
 ·have hfin:=pB (R:=R) (n:=n) (t:=t) (xs:=xs++ys) (L:=⟨w.heap.size,0,(olds.toArray++news.toArray++Builtin.zeroCells z.cells (grownCap w (xs.length+ys.length) sCap e-(xs.length+ys.length))).size⟩)
   (cap:=grownCap w (xs.length+ys.length) sCap e) (by rw [hlen];exact hge) (by simp only;rw [hsz];exact Nat.le_refl _) rfl
  rw [hlen] at hfin
  exact hfin
end
end Sx
end
section
namespace Sx
open Go
section
variable {P:Program} {R:Ctx} {w:World}
theorem Ut (hm:cz R w) {c e:Nat} {t:Ty} {xs:List t.T} (hc:R.hp c=some ⟨e,.row t xs⟩):0<t.size/\xs.length<=cL:=by
 have:=hm.ch c _ hc
 grind [eW]
def Ctx.move (R:Ctx) (c:Nat) (ch:Ch) (L:Option Loc):Ctx:= {R with hp:=λm=>if m=c then some ch else R.hp m,σ:=λm=>if m=c then L else R.σ m}
theorem Ctx.QP {R:Ctx} {c:Nat} {ch ch':Ch} {L:Option Loc} (hc:R.hp c=some ch) (he:ch.ep<ch'.ep):R.Ext (R.move c ch' L):=by
 refine ⟨λ_ _ h=>h,rfl,λn c1 hn=> ?_⟩
 by_cases e:n=c
 ·subst e
  rw [hc] at hn
  cases Option.some.inj hn
  exact ⟨ch',by simp [Ctx.move],Nat.le_of_lt he,λh=>by omega⟩
 ·exact ⟨c1,by simp [Ctx.move,e,hn],Nat.le_refl _,λ_=>⟨rfl,by simp [Ctx.move,e]⟩⟩
theorem Ga (hm:cz R w) {T T' Tr el:TypeId} {ti:TI} (hT:P.underlying T=some (.slice el)) (he:fe P el ti) (hT':(∃ e,P.underlying T'=some (.slice e))\/P.underlying T'=some .string)
 {t:Ty} (hts:t.size=ti.size) {c ep:Nat} {xs ys:List t.T} (hc:R.hp c=some ⟨ep,.row t xs⟩) {v x:Value} {news:List Value} (hv:R.own c ep v) (hsrc:Src P R w t ys x news)
 (hbytes:(xs.length+ys.length)*ti.bytes<=140737488355328) (hb0:0<ti.bytes):
 LP P R w (Builtin.append_ #[T,T'] Tr #[v,x]) ⟨.own c (ep+1),[(c,⟨ep+1,.row t (xs++ys)⟩)]⟩:=by
 obtain ⟨ht,hmx⟩:=Ut hm hc
 have hp:=Ctx.cV hc hv
 obtain ⟨news0,hold⟩:=nh (P:=P) hm hc (.inl rfl) hp
 obtain ⟨_,_,ad,cap,rfl,hcap,h5⟩:=Ctx.cK hc hp
 simp only [Chunk.shape,List.drop_zero,List.take_length,Nat.zero_add,Nat.zero_mul,Nat.add_zero] at hold hcap h5⊢
 have h63:xs.length+ys.length<=140737488355328:=by
  have:(xs.length+ys.length)*1<=(xs.length+ys.length)*ti.bytes:=Nat.mul_le_mul_left _ hb0
  omega
 have hlen:(xs++ys).length=xs.length+ys.length:=bK
 have hch:=hm.ch c _ hc
 have hf:=hsrc.cells w ys.length (λ_ _=>rfl) (Nat.le_refl _)
 rw [hts,<-hts,List.take_of_length_le (by rw [hsrc.size];exact Nat.le_refl _),hts] at hf
 by_cases hroom:xs.length+ys.length<=cap
 ·--in place
  cases hσ:R.σ c with
  |none=>
   rw [hσ] at h5
   simp only at h5
   subst h5
   have hx0:xs= []:=xk (by omega)
   have hy0:ys= []:=xk (by omega)
   subst hx0;subst hy0
   have hn0:news= []:=xk (by rw [hsrc.size];simp)
   subst hn0
   have hrun:(Builtin.append_ #[T,T'] Tr #[.slice ad 0 0,x]).run P w=.ok (.slice ad 0 0) w:=by
    cases ad with
    |none=>exact jU hT he hT' (hsrc.len w) hf hroom
    |some a=>exact sf hT he hT' (hsrc.len w) hf hroom rfl
   have hx:=Ctx.QP (L:=none) (ch':=⟨ep+1,.row t ([]++ [])⟩) hc (by simp)
   refine ⟨_,w,R.move c ⟨ep+1,.row t ([]++ [])⟩ none,hrun,⟨hx,rfl,?_⟩,?_⟩
   ·refine cz.turn hm hx rfl rfl (λn hn=>by simp [Ctx.move,hn]) w.heap.size (λ_ _ _=>rfl) ⟨hm.MJ,hm.MG,λn ch L hn h1 h2 h3=> ?_⟩ ?_ (λL h2=>by simp [Ctx.move] at h2)
    ·have:=hm.lt h1 h2 h3;omega
    ·simp only [eW,Ctx.move,if_true]
     exact ⟨ht,by simp,rfl⟩
   ·simp only [SV.rel]
    have hc':(R.move c ⟨ep+1,.row t ([]++ [])⟩ none).hp c=some ⟨ep+1,.row t ([]++ [])⟩:=by simp [Ctx.move]
    refine ⟨rfl,_,hc',Nat.le_refl _,λ_=>⟨_,hc',Nat.le_refl _,λ_=>⟨rfl,by simp,ad,0,rfl,Nat.le_refl _,?_⟩⟩⟩
    simp [Ctx.move]
  |some L=>
   rw [hσ] at h5
   obtain ⟨h6,h7⟩:=h5
   simp only [eW,hσ] at hch
   obtain ⟨_,_,hF,hU,arr,E,hb,ha,hl,hrow⟩:=hch
   have hle:(xs.length+ys.length)*t.size<=cap*t.size:=ck _ hroom
   rw [Nat.add_mul] at hle
   have hst:∀ a,ad=some a->(Go.storeCells (a.add (xs.length*ti.size)) news).run P w=.ok () (w.setRow L.block (arr.toList.take (L.base+xs.length*t.size)++news++arr.toList.drop (L.base+xs.length*t.size+news.length)).toArray):=λa haa=>by
    by_cases hz:news= []
    ·subst hz
     simp only [Go.storeCells,List.append_nil,List.length_nil,Nat.add_zero,List.take_append_drop,Array.toArray_toList]
     rw [setRow_self w L.block arr E (0,0) hb]
     rfl
    ·have hpos:0<cap:=by
      have:0<news.length:=List.length_pos_iff.2 hz
      rw [hsrc.size] at this
      have:=Nat.pos_of_mul_pos_right this
      omega
     have:=h7 hpos
     rw [haa] at this
     cases this
     rw [cn,<-hts]
     have:=run_storeCells_at P L.block (L.base+xs.length*t.size) E news 0 arr w hb (by rw [hsrc.size];omega) hsrc.one
     simpa using this
   have hx:=Ctx.QP (L:=some L) (ch':=⟨ep+1,.row t (xs++ys)⟩) hc (by simp)
   have hmem:∀ w',w'.heap[L.block]? =some (.cells (arr.toList.take (L.base+xs.length*t.size)++news++arr.toList.drop (L.base+xs.length*t.size+news.length)).toArray E (0,0))->(∀ b,b≠L.block->w'.heap[b]? =w.heap[b]?)->MI w w'->
    cz (R.move c ⟨ep+1,.row t (xs++ys)⟩ (some L)) w':=λw' hw' mB hlk=>by
    refine cz.turn hm hx rfl rfl (λn hn=>by simp [Ctx.move,hn]) L.block (λb _ hne=>mB b hne) ⟨hF,hU,λn ch2 L2 hn hn2 hm2 hs2 heq=>hn (hm.apart n c ch2 _ L2 L hn2 hc hm2 rfl hs2 hσ heq)⟩ ?_ (λL2 h2=>by simp only [Ctx.move,if_true] at h2;cases h2;rfl) hlk
    simp only [eW,Ctx.move,if_true]
    refine ⟨ht,by rw [hlen];unfold cL;omega,hF,hU,_,E,hw',?_,?_,?_⟩
    ·simp only [List.size_toArray,bK,bQ,cq,Array.length_toList,hsrc.size]
     omega
    ·rw [hlen,Nat.add_mul];omega
    ·have hA:(seg arr.toList L.base (xs.length*t.size)).length=xs.length*t.size:=gW (by simp;omega)
     have:=C5 (R:=R) (xs:=xs) (ys:=ys) (A:=seg arr.toList L.base (xs.length*t.size)) (B:=news) (C:=arr.toList.drop (L.base+xs.length*t.size+news.length)) hA hsrc.size (λi hi=>by
      have hle:(i+1)*t.size<=xs.length*t.size:=ck _ hi
      rw [Nat.succ_mul] at hle
      rw [C3 _ _ _ _ _ hle]
      exact hrow i hi) hsrc.rep
     intro i hi
     have h8:=this i hi
     have e:seg (arr.toList.take (L.base+xs.length*t.size)++news++arr.toList.drop (L.base+xs.length*t.size+news.length)) (L.base+i*t.size) t.size=
      seg (seg arr.toList L.base (xs.length*t.size)++news++arr.toList.drop (L.base+xs.length*t.size+news.length)) (i*t.size) t.size:=by
      simp only [seg]
      rw [<-List.drop_drop]
      grind
     simp only
     rw [e]
     exact h8
   cases had:ad with
   |none=>
    have hcap0:cap=0:=by
     by_cases hc0:0<cap
     ·have:=h7 hc0;rw [had] at this;cases this
     ·omega
    have hx0:xs= []:=xk (by omega)
    have hy0:ys= []:=xk (by omega)
    subst hx0;subst hy0;subst hcap0
    have hn0:news= []:=xk (by rw [hsrc.size];simp)
    subst hn0
    have hrun:=jU (Tr:=Tr) hT he hT' (hsrc.len w) hf hroom
    refine ⟨_,w,R.move c ⟨ep+1,.row t ([]++ [])⟩ (some L),hrun,⟨hx,rfl,hmem w (by simpa using hb) (λ_ _=>rfl) ⟨rfl,rfl,rfl⟩⟩,?_⟩
    simp only [SV.rel]
    have hc':(R.move c ⟨ep+1,.row t ([]++ [])⟩ (some L)).hp c=some ⟨ep+1,.row t ([]++ [])⟩:=by simp [Ctx.move]
    refine ⟨rfl,_,hc',Nat.le_refl _,λ_=>⟨_,hc',Nat.le_refl _,λ_=>⟨rfl,by simp,none,0,rfl,Nat.le_refl _,?_⟩⟩⟩
    simp [Ctx.move]
   |some a=>
    have hrun:=sf (Tr:=Tr) hT he hT' (hsrc.len w) hf hroom (hst a had)
    refine ⟨_,_,R.move c ⟨ep+1,.row t (xs++ys)⟩ (some L),hrun,⟨hx,rfl,hmem _ (setRow_heap w L.block arr _ E _ hb) (λb hne=>setRow_other w L.block b _ hne) ⟨rfl,rfl,rfl⟩⟩,?_⟩
    simp only [SV.rel]
    have hc':(R.move c ⟨ep+1,.row t (xs++ys)⟩ (some L)).hp c=some ⟨ep+1,.row t (xs++ys)⟩:=by simp [Ctx.move]
    refine ⟨rfl,_,hc',Nat.le_refl _,λ_=>⟨_,hc',Nat.le_refl _,λ_=>⟨rfl,by simp,some a,cap,by simp [Chunk.shape],by simp only [Chunk.shape,hlen];exact hroom,?_⟩⟩⟩
    simp only [Ctx.move,if_true,Chunk.shape,Nat.zero_add,Nat.zero_mul,Nat.add_zero]
    exact ⟨h6,λhpos=>by rw [<-had];exact h7 hpos⟩
 ·--a new row
  obtain ⟨ie,z,z1,z2,z3,z4,z5,z6,z7⟩:=he.uD (R:=R)
  have hf:=hsrc.cells w.drew ys.length (BT w) (Nat.le_refl _)
  have ho:=hold.cells w.drew xs.length (BT w) (Nat.le_refl _)
  rw [List.take_of_length_le (by rw [hsrc.size];exact Nat.le_refl _),hts] at hf
  rw [List.take_of_length_le (by rw [hold.size];exact Nat.le_refl _),hts] at ho
  have hrun:=E3 (Tr:=Tr) hT he hT' (hsrc.len w) z1 z4 hroom h63 (growslice_fits (by omega) (by rw [z3];exact hbytes)) ho hf
  have hge:=grownCap_ge w (xs.length+ys.length) cap el
  have hsz:(news0.toArray++news.toArray++Builtin.zeroCells z.cells (grownCap w (xs.length+ys.length) cap el-(xs.length+ys.length))).size=grownCap w (xs.length+ys.length) cap el*t.size:=by
   simp only [Array.size_append,List.size_toArray,size_zeroCells,z6,hold.size,hsrc.size,<-hts,<-Nat.add_mul]
   congr 1
   omega
  have hx:=Ctx.QP (L:=some ⟨w.heap.size,0,grownCap w (xs.length+ys.length) cap el*t.size⟩) (ch':=⟨ep+1,.row t (xs++ys)⟩) hc (by simp)
  refine ⟨_,_,R.move c ⟨ep+1,.row t (xs++ys)⟩ (some ⟨w.heap.size,0,grownCap w (xs.length+ys.length) cap el*t.size⟩),hrun,⟨hx,rfl,?_⟩,?_⟩
  ·refine cz.turn hm hx rfl rfl (λn hn=>by simp [Ctx.move,hn]) w.heap.size (λb hb _=>heap_alloc_old w.drew _ b hb) ⟨hm.MJ,hm.MG,λn ch L hn h1 h2 h3=> ?_⟩ ?_ (λL2 h2=>by simp only [Ctx.move,if_true] at h2;cases h2;rfl)
   ·have:=hm.lt h1 h2 h3;omega
   ·simp only [eW,Ctx.move,if_true]
    refine ⟨ht,by rw [hlen];unfold cL;omega,hm.MJ,hm.MG,_,el,heap_alloc_new w.drew _,by rw [hsz];simp,?_,?_⟩
    ·rw [hlen];exact ck _ hge
    ·have:=C5 (R:=R) (C:=(Builtin.zeroCells z.cells (grownCap w (xs.length+ys.length) cap el-(xs.length+ys.length))).toList) hold.size hsrc.size hold.rep hsrc.rep
     simpa using this
  ·simp only [SV.rel]
   have hc':(R.move c ⟨ep+1,.row t (xs++ys)⟩ (some ⟨w.heap.size,0,grownCap w (xs.length+ys.length) cap el*t.size⟩)).hp c=some ⟨ep+1,.row t (xs++ys)⟩:=by simp [Ctx.move]
   refine ⟨rfl,_,hc',Nat.le_refl _,λ_=>⟨_,hc',Nat.le_refl _,λ_=>⟨rfl,by simp,some ⟨w.heap.size,0,none⟩,grownCap w (xs.length+ys.length) cap el,by simp only [Chunk.shape,hlen],by simp only [Chunk.shape,hlen];exact hge,?_⟩⟩⟩
   simp only [Ctx.move,if_true,Chunk.shape,Nat.zero_add,Nat.zero_mul,Nat.add_zero]
   exact ⟨Nat.le_refl _,λ_=>by simp⟩
theorem Gb (hm:cz R w) {T T' Tr el:TypeId} {ti:TI} (hT:P.underlying T=some (.slice el)) (he:fe P el ti) (hT':(∃ e,P.underlying T'=some (.slice e))\/P.underlying T'=some .string)
 {t:Ty} (ht:0<t.size) (hts:t.size=ti.size) {n:Nat} (hn:R.hp n=none) {ys:List t.T} {ad:Option Addr} {x:Value} {news:List Value} (hsrc:Src P R w t ys x news)
 (hbytes:ys.length*ti.bytes<=140737488355328) (hb0:0<ti.bytes):
 LP P R w (Builtin.append_ #[T,T'] Tr #[.slice ad 0 0,x]) ⟨.own n 0,[(n,⟨0,.row t ys⟩)]⟩:=by
 by_cases h0:ys= []
 ·subst h0
  have hn0:news= []:=xk (by rw [hsrc.size];simp)
  have hf:=hsrc.cells w 0 (by grind) (by simp)
  rw [hts] at hf
  simp at hf
  have hrun:(Builtin.append_ #[T,T'] Tr #[.slice ad 0 0,x]).run P w=.ok (.slice ad 0 0) w:=by
   cases ad with
   |none=>exact jU hT he hT' (hsrc.len w) hf (by simp)
   |some a=>exact sf hT he hT' (hsrc.len w) hf (by simp) rfl
  exact ⟨_,w,_,hrun,cz.aIf hm hn (by grind) (by grind [eW,Ctx.lay]),H9⟩
 ·have:=Wz (Tr:=Tr) (te:=λ_=>none) hm hT he hT' ht hts (xs:= []) (base:=ad) (sCap:=0) hsrc (olds:= []) aaj (by simp_all) (by grind) hb0 hn
  grind
theorem MD (hm:cz R w) {te:TE} (hte:kq P te) {T T' Tr:TypeId} {d:Nat} {s x:SV} {v u:Value} {e:Eff} (hT2:AK te T'=true) (h:(wq te R.hp d T s x).run=some e)
 (hs:SV.rel R s v) (hx:SV.rel R x u):LP P R w (Builtin.append_ #[T,T'] Tr #[v,u]) e:=by
 have hT':=P4 hte hT2
 unfold wq at h
 split at h
 ·rename_i el _ _ hT
  obtain ⟨ds,h1,h2⟩:=(hte T _ hT).desc
  subst h2
  split at h
  ·rename_i size bytes desc zero t hei
   have he:=hte el _ hei
   split at h
   ·cases h
   ·rename_i hc
    simp at hc
    obtain ⟨hts,hs0,hb0⟩:=hc
    have ht:0<t.size:=by omega
    split at h
    ·rename_i ys hys
     have hsrc:∃ news,Src P R w t ys u news:=by
      split at hys
      ·exact aoT hys hx
      ·exact OP hm ht hys hx
     obtain ⟨news,hsrc⟩:=hsrc
     split at h
     ·split at h
      ·rename_i t' xs hc
       split at h
       ·rename_i xs' hxs
        obtain ⟨hg,h'⟩:=OT.aE h
        cases h'
        obtain ⟨et,rfl⟩:=bi hxs
        subst et
        exact Ga hm h1 he hT' hts (bT hc) hs.2 hsrc (bn hg) (Nat.pos_of_ne_zero hb0)
       ·cases h
      ·cases h
     ·split at h
      ·rename_i t' xs hc
       split at h
       ·rename_i xs' hxs
        dsimp only at h
        split at h
        ·cases h
        ·rename_i hfr
         obtain ⟨hg,h'⟩:=OT.aE h
         cases h'
         obtain ⟨et,rfl⟩:=bi hxs
         subst et
         simp at hg
         have hc':=bT hc
         have hp:=Ctx.cV hc' hs.2.1
         obtain ⟨olds,hold⟩:=nh (P:=P) hm hc' (.inl rfl) hp
         obtain ⟨ad,len,hv⟩:=hs.2.2 _ hc' rfl
         obtain ⟨_,_,ad',cap,hv',hcap,_⟩:=Ctx.cK hc' hp
         rw [hv] at hv'
         cases hv'
         subst hv
         simp only [Chunk.shape,List.drop_zero,List.take_length] at hold⊢
         exact Wz (te:=te) hm h1 he hT' ht hts hsrc hold (by omega) hg.1 (by grind) (oG hfr)
       ·cases h
      ·cases h
     ·dsimp only at h
      split at h
      ·cases h
      ·rename_i hfr
       obtain ⟨hg,h'⟩:=OT.aE h
       cases h'
       obtain ⟨ad,rfl⟩:=hs
       exact Gb hm h1 he hT' ht hts (oG hfr) hsrc (bn hg) (Nat.pos_of_ne_zero hb0)
     ·cases h
    ·cases h
  ·cases h
 ·cases h
theorem ao5 {t:Ty} {xs ys:List t.T} {arr:Array Value} {base off n:Nat} {news:List Value} (hrow:SX R arr base t xs) (hsz:base+xs.length*t.size<=arr.size) (hn:off+n<=xs.length) (hny:n<=ys.length)
 (hl:news.length=n*t.size) (hnews:∀ i,i<n->Rep R.F t (ys.getD i t.d) (seg news (i*t.size) t.size)):
 SX R (arr.toList.take (base+off*t.size)++news++arr.toList.drop (base+off*t.size+news.length)).toArray base t (xs.take off++(ys.take n++xs.drop (off+n))):=by
 intro i hi
 simp only [bK,bQ,cq] at hi
 have hi':i<xs.length:=by omega
 have hoff:(off+n)*t.size<=xs.length*t.size:=ck _ hn
 rw [Nat.add_mul] at hoff
 have hi1:(i+1)*t.size<=xs.length*t.size:=ck _ hi'
 rw [Nat.succ_mul] at hi1
 simp only
 by_cases c1:i<off
 ·have e1:(xs.take off++(ys.take n++xs.drop (off+n))).getD i t.d=xs.getD i t.d:=by
   grind
  have:(i+1)*t.size<=off*t.size:=ck _ c1
  rw [Nat.succ_mul] at this
  rw [e1,ja _ _ _ _ _ (by simp;omega) (by left;omega)]
  exact hrow i hi'
 ·by_cases c2:i<off+n
  ·have e1:(xs.take off++(ys.take n++xs.drop (off+n))).getD i t.d=ys.getD (i-off) t.d:=by
    grind
   have hk1:(i-off+1)*t.size<=n*t.size:=ck _ (by omega)
   have hk2:(i-off)*t.size+off*t.size=i*t.size:=by rw [<-Nat.add_mul];congr 1;omega
   rw [Nat.succ_mul] at hk1
   have e2:seg (arr.toList.take (base+off*t.size)++news++arr.toList.drop (base+off*t.size+news.length)) (base+i*t.size) t.size=seg news ((i-off)*t.size) t.size:=by
    apply List.ext_getElem?
    intro j
    simp only [seg,List.getElem?_take,List.getElem?_drop]
    by_cases hj:j<t.size
    ·simp only [hj,if_true]
     rw [List.getElem?_append_left (by simp;omega),List.getElem?_append_right (by simp;omega)]
     congr 1
     simp;omega
    ·simp [hj]
   rw [e1,e2]
   exact hnews _ (by omega)
  ·have e1:(xs.take off++(ys.take n++xs.drop (off+n))).getD i t.d=xs.getD i t.d:=by
    simp only [fP]
    rw [List.getElem?_append_right (by simp;omega),List.getElem?_append_right (by simp;omega),List.getElem?_drop]
    congr 2
    simp;omega
   have:(off+n)*t.size<=i*t.size:=ck _ (by omega)
   rw [Nat.add_mul] at this
   rw [e1,ja _ _ _ _ _ (by simp;omega) (by right;omega)]
   exact hrow i hi'
end
end Sx
end
section
namespace Sx
open Go
section
variable {P:Program} {R:Ctx} {w:World}
theorem afA {α:Type} (ys:List α) (k:Nat):ys.take (min ys.length k)=ys.take k:=by
 by_cases h:k<=ys.length
 ·rw [Nat.min_eq_right h]
 ·rw [Nat.min_eq_left (by omega),List.take_of_length_le (Nat.le_refl _),List.take_of_length_le (by omega)]
theorem ayK {α:Type} (xs:List α) (k:Nat):xs.drop (min k xs.length)=xs.drop k:=by
 by_cases h:k<=xs.length
 ·rw [Nat.min_eq_left h]
 ·rw [Nat.min_eq_right (by omega),List.drop_of_length_le (Nat.le_refl _),List.drop_of_length_le (by omega)]
theorem tV (hm:cz R w) {T T' Tr el:TypeId} {ti:TI} (hT:P.underlying T=some (.slice el)) (he:fe P el ti) {t:Ty} (hts:t.size=ti.size) {c ep off len:Nat} {xs ys:List t.T}
 (hc:R.hp c=some ⟨ep,.row t xs⟩) {v x:Value} {news:List Value} (hp:R.part c ep off len v) (hsrc:Src P R w t ys x news):
 LP P R w (Builtin.copy_ #[T,T'] Tr #[v,x]) ⟨.int (min ys.length len:Nat),[(c,⟨ep,.row t (xs.take off++(ys.take (min ys.length len)++xs.drop (off+min ys.length len)))⟩)]⟩:=by
 obtain ⟨ht,hmx⟩:=Ut hm hc
 obtain ⟨_,h2,ad,cap,rfl,hcap,h5⟩:=Ctx.cK hc hp
 simp only [Chunk.shape] at h2 h5
 have hn:min ys.length len<=ys.length:=Nat.min_le_left _ _
 have hn2:min ys.length len<=len:=Nat.min_le_right _ _
 have hr:inR ((min ys.length len:Nat):Int)=true:=aca (cT hn hsrc.max)
 have hf:=hsrc.cells w (min ys.length len) (λ_ _=>rfl) hn
 rw [hts] at hf
 have hlen:(xs.take off++(ys.take (min ys.length len)++xs.drop (off+min ys.length len))).length=xs.length:=by
  simp only [bK,bQ,cq];omega
 have hsh:(Chunk.row t (xs.take off++(ys.take (min ys.length len)++xs.drop (off+min ys.length len)))).shape=(Chunk.row t xs).shape:=by
  simp only [Chunk.shape,hlen]
 have hnl:(news.take (min ys.length len*ti.size)).length=min ys.length len*t.size:=by
  have:min ys.length len*t.size<=ys.length*t.size:=ck _ hn
  rw [bQ,hsrc.size,<-hts];omega
 have hrep:∀ i,i<min ys.length len->Rep R.F t (ys.getD i t.d) (seg (news.take (min ys.length len*ti.size)) (i*t.size) t.size):=λi hi=>by
  have h1:(i+1)*t.size<=min ys.length len*t.size:=ck _ hi
  rw [Nat.succ_mul] at h1
  have h2:seg (news.take (min ys.length len*ti.size)) (i*t.size) t.size=seg news (i*t.size) t.size:=by
   have:=C3 news 0 (i*t.size) (min ys.length len*ti.size) t.size (by rw [<-hts];exact h1)
   simpa [seg] using this
  rw [h2]
  exact hsrc.rep i (by omega)
 have hch:=hm.ch c _ hc
 have hone:∀ u ∈ news.take (min ys.length len*ti.size),u.oneCell'=true:=λu hu=>hsrc.one u (List.mem_of_mem_take hu)
 --nothing is written
 have nothing:min ys.length len=0->(∀ a,ad=some a->True)->LP P R w (Builtin.copy_ #[T,T'] Tr #[.slice ad len cap,x]) ⟨.int (min ys.length len:Nat),[(c,⟨ep,.row t (xs.take off++(ys.take (min ys.length len)++xs.drop (off+min ys.length len)))⟩)]⟩:=λh0 _=>by
  have hrun:(Builtin.copy_ #[T,T'] Tr #[.slice ad len cap,x]).run P w=.ok (.int .i64 (min ys.length len:Nat)) w:=by
   rw [h0] at hf⊢
   simp only [Nat.zero_mul,List.take_zero] at hf
   cases ad with
   |none=>simp [Builtin.copy_,run_underlying hT,he.run_sizeOf w,hsrc.len w,h0,hf,goInt]
   |some a=>simp [Builtin.copy_,run_underlying hT,he.run_sizeOf w,hsrc.len w,h0,hf,goInt,Go.storeCells]
  have hsame:xs.take off++(ys.take (min ys.length len)++xs.drop (off+min ys.length len))=xs:=by
   rw [h0];simp
  have hupd:R.upd c ⟨ep,.row t xs⟩=R:=by
   unfold Ctx.upd
   cases R
   simp only [Ctx.mk.injEq,true_and]
   funext n
   split
   ·rename_i hnc;subst hnc;exact hc.symm
   ·rfl
  refine ⟨_,w,R,hrun,⟨Ctx.Ext.refl R,?_,hm⟩,by simp only [SV.rel,true_and];exact hr⟩
  rw [hsame]
  have:=congrArg Ctx.hp hupd
  exact this.symm
 by_cases h0:min ys.length len=0
 ·exact nothing h0 (λ_ _=>trivial)
 ·cases hσ:R.σ c with
  |none=>
   rw [hσ] at h5
   simp only at h5
   omega
  |some L=>
   rw [hσ] at h5
   obtain ⟨h6,h7⟩:=h5
   have had:=h7 (by omega)
   subst had
   simp only [eW,hσ] at hch
   obtain ⟨_,_,hF,hU,arr,E,hb,ha,hl,hrow⟩:=hch
   have hoff:(off+min ys.length len)*t.size<=xs.length*t.size:=ck _ (by omega)
   rw [Nat.add_mul] at hoff
   obtain ⟨w',R',hst,haf⟩:=pq (P:=P) (e:=ep) (p:=L.base+off*t.size) (vs:=news.take (min ys.length len*ti.size)) hm
    (ch':=⟨ep,.row t (xs.take off++(ys.take (min ys.length len)++xs.drop (off+min ys.length len)))⟩) hc rfl hσ hF hU hb rfl rfl hsh (by rw [hnl];omega) hone
    (λw' hw'=>by
     simp only [eW,Ctx.upd,hσ]
     refine ⟨ht,by rw [hlen];exact hmx,hF,hU,_,E,hw',?_,by rw [hlen];exact hl,?_⟩
     ·simp only [List.size_toArray,bK,bQ,cq,Array.length_toList] at hnl⊢
      omega
     ·exact ao5 hrow (by omega) (by omega) hn hnl hrep)
   refine ⟨.int .i64 ((min ys.length len:Nat):Int),w',R',?_,haf,by simp only [SV.rel,true_and];exact hr⟩
   have hn':Nat.min ys.length len=min ys.length len:=rfl
   simp [Builtin.copy_,run_underlying hT,he.run_sizeOf w,hsrc.len w,hn',hf,hst,goInt]
theorem Xv (hm:cz R w) {te:TE} (hte:kq P te) {T T' Tr:TypeId} {x y:SV} {v u:Value} {e:Eff} (h:(Oq te R.hp T x y).run=some e)
 (hs:SV.rel R x v) (hx:SV.rel R y u):LP P R w (Builtin.copy_ #[T,T'] Tr #[v,u]) e:=by
 unfold Oq at h
 split at h
 ·rename_i el _ _ hT
  obtain ⟨ds,h1,h2⟩:=(hte T _ hT).desc
  simp only at h2
  subst h2
  split at h
  ·rename_i size bytes desc zero t hei
   have he:=hte el _ hei
   split at h
   ·cases h
   ·rename_i hc
    simp only [not_or] at hc
    obtain ⟨hts,hs0⟩:=hc
    have hts:t.size=size:=by simpa using hts
    have ht:0<t.size:=by omega
    split at h
    ·rename_i ys hys
     have hsrc:∃ news,Src P R w t ys u news:=by
      split at hys
      ·exact aoT hys hx
      ·exact OP hm ht hys hx
     obtain ⟨news,hsrc⟩:=hsrc
     split at h
     ·rename_i c ep
      split at h
      ·rename_i t' xs hc
       split at h
       ·rename_i xs' hxs
        cases h
        obtain ⟨et,rfl⟩:=bi hxs
        subst et
        simp only [SV.rel] at hs
        have hc':=bT hc
        have:=tV (Tr:=Tr) (T':=T') hm h1 he hts hc' (Ctx.cV hc' hs.2) hsrc
        simp only [Chunk.shape,List.take_zero,List.nil_append,Nat.zero_add,afA,ayK] at this
        exact this
       ·cases h
      ·cases h
     ·rename_i c ep off len
      split at h
      ·rename_i t' xs hc
       split at h
       ·rename_i xs' hxs
        cases h
        obtain ⟨et,rfl⟩:=bi hxs
        subst et
        simp only [SV.rel] at hs
        have:=tV (Tr:=Tr) (T':=T') hm h1 he hts (bT hc) hs.2 hsrc
        simp only [afA] at this
        exact this
       ·cases h
      ·cases h
     ·cases h
    ·cases h
  ·cases h
 ·cases h
end
end Sx
end
section
namespace Sx
open Go
section
variable {P:Program} {R:Ctx} {w:World}
theorem se {arr e:TypeId} {n:Nat} (a:Option Addr) (len cap:Nat) (h:P.underlying arr=some (.array n e)) (hn:n<=len):(Instr.arrayAt arr (.slice a len cap)).run P w=.ok (.pointer a) w:=by simp_all [Instr.arrayAt,run_underlying,if_neg]
theorem MB {te:TE} (hte:kq P te) {T:TypeId} {x z:SV} {v:Value} (h:(wo te R.hp T x).run=some z) (hx:SV.rel R x v):lq P R w (Instr.arrayAt T v) z:=by
 unfold wo at h
 split at h
 ·rename_i sz by' n e ze ty hT
  obtain ⟨d,h1,h2⟩:=(hte T _ hT).desc
  simp only at h2
  subst h2
  split at h
  ·cases h
  ·rename_i ei hei
   split at h
   ·cases h
   ·rename_i hn0
    split at h
    ·rename_i c ep
     split at h
     ·rename_i hrs
      split at h
      ·rename_i m hm'
       obtain ⟨hg,h'⟩:=OT.aE h
       cases h'
       have hnm:=bn hg
       obtain ⟨bb,hcc,hb1,hb2⟩:=dQ hrs
       obtain ⟨bb',hcc',_,hb4⟩:=dC hm'
       rw [hcc] at hcc'
       cases Option.some.inj hcc'
       have hp:=Ctx.cV hcc hx.2
       rw [hb4] at hp
       obtain ⟨_,_,ad,cap,rfl,h4,h5⟩:=Ctx.cK hcc hp
       refine ⟨_,se ad m cap h1 hnm,?_⟩
       cases hσ:R.σ c with
       |none=>rw [hσ] at h5;simp only at h5;omega
       |some L=>
        rw [hσ] at h5
        have:=h5.2 (by omega)
        subst this
        simp only [SV.rel]
        refine ⟨⟨_,rfl⟩,_,hcc,Nat.le_refl _,λ_=>⟨L,hσ,?_⟩⟩
        simp
      ·cases h
     ·cases h
    ·rename_i c ep off len
     split at h
     ·rename_i hrs
      obtain ⟨hg,h'⟩:=OT.aE h
      cases h'
      have hnm:=bn hg
      obtain ⟨bb,hcc,hb1,hb2⟩:=dQ hrs
      obtain ⟨_,_,ad,cap,rfl,h4,h5⟩:=Ctx.cK hcc hx.2
      refine ⟨_,se ad len cap h1 hnm,?_⟩
      cases hσ:R.σ c with
      |none=>rw [hσ] at h5;simp only at h5;omega
      |some L=>
       rw [hσ] at h5
       have:=h5.2 (by omega)
       subst this
       simp only [SV.rel]
       exact ⟨⟨_,rfl⟩,_,hcc,Nat.le_refl _,λ_=>⟨L,hσ,by simp⟩⟩
     ·cases h
    ·rename_i t xs
     split at h
     ·rename_i hts
      obtain ⟨hg,h'⟩:=OT.aE h
      cases h'
      have hnm:=bn hg
      simp only [SV.rel] at hx
      obtain ⟨_,ad,cap,hv,hc,hr⟩:=hx
      cases hv
      refine ⟨_,se ad xs.length cap h1 hnm,?_⟩
      grind [SV.rel]
     ·cases h
    ·cases h
 ·cases h
def Ctx.more (R:Ctx) (w w':World):Ctx:= {R with F:=λb=>if b<w.heap.size then R.F b else w'.heap[b]?}
theorem aDA (hm:cz R w) {w₁:World} (mB:∀ b,b<w.heap.size->w₁.heap[b]? =w.heap[b]?) (hs:MI w w₁:=by exact ⟨rfl,rfl,rfl⟩):dL R (R.more w w₁) w₁ []:=by
 have hFlt:∀ b o,R.F b=some o->b<w.heap.size:=λb o h=>(Array.getElem?_eq_some_iff.1 (hm.F b o h)).1
 have hx2:R.Ext (R.more w w₁):=⟨λb o h=>by simp [Ctx.more,hFlt b o h,h],rfl,λc ch hc=>⟨ch,hc,Nat.le_refl _,λ_=>⟨rfl,rfl⟩⟩⟩
 refine ⟨hx2,rfl,λb o h=> ?_,λb o h=> ?_,λc ch hc=> ?_,hm.apart,λb o h=> ?_,hm.env.trans hs⟩
 rotate_right
 ·simp only [Ctx.more] at h⊢
  split at h
  ·exact hm.FU b o h
  ·cases hU:R.U b with
   |none=>rfl
   |some o'=>exact absurd (Array.getElem?_eq_some_iff.1 (hm.U b o' hU)).1 (by assumption)
 ·simp only [Ctx.more] at h
  split at h
  ·rename_i hb
   rw [mB b hb];exact hm.F b o h
  ·exact h
 ·have:=hm.U b o h
  rw [mB b (Array.getElem?_eq_some_iff.1 this).1,this]
 ·have hch:=hm.ch c ch hc
  obtain ⟨ep,body⟩:=ch
  cases body with
  |row t xs=>
   simp only [eW] at hch⊢
   refine ⟨hch.1,hch.2.1,?_⟩
   replace hch:=hch.2.2
   show match R.σ c with|none=>_|some L=>_
   cases hL:R.σ c with
   |none=>rw [hL] at hch;exact hch
   |some L=>
    rw [hL] at hch
    obtain ⟨c1,c2,arr,E,c3,c4,c5,c6⟩:=hch
    have hb:=(Array.getElem?_eq_some_iff.1 c3).1
    refine ⟨by simp only [Ctx.more,hb,if_true];exact c1,c2,arr,E,(mB _ hb).trans c3,c4,c5,λi hi=>bR hx2.F _ _ _ (c6 i hi)⟩
  |frz t xs=>
   simp only [eW] at hch⊢
   refine ⟨hch.1,hch.2.1,?_⟩
   replace hch:=hch.2.2
   show match R.σ c with|none=>_|some L=>_
   cases hL:R.σ c with
   |none=>rw [hL] at hch;exact hch
   |some L=>
    rw [hL] at hch
    obtain ⟨arr,E,fz,c3,c4,c5,c6⟩:=hch
    exact ⟨arr,E,fz,hx2.F _ _ c3,c4,c5,λi hi=>bR hx2.F _ _ _ (c6 i hi)⟩
  |cells vs=>
   simp only [eW] at hch⊢
   obtain ⟨L,hL,c1,c2,arr,E,c3,c4,c5,c6,c7⟩:=hch
   have hb:=(Array.getElem?_eq_some_iff.1 c3).1
   exact ⟨L,hL,by simp only [Ctx.more,hb,if_true];exact c1,c2,arr,E,(mB _ hb).trans c3,c4,c5,SV.eZ hx2 _ _ c6,c7⟩
theorem Su (hm:cz R w) {te:TE} (hte:kq P te) {src dst:TypeId} {x:SV} {v:Value} {s:List UInt8} (h:bytesOf te src dst x=some s) (hx:SV.rel R x v):
 ∃ u w' R',(convert src dst v).run P w=.ok u w'/\dL R R' w' []/\SV.rel R' (.lst .u8 s) u:=by
 unfold bytesOf at h
 split at h
 ·rename_i sz by' e ze ty hT
  obtain ⟨d,h1,h2⟩:=(hte dst _ hT).desc
  subst h2
  split at h
  ·rename_i sz2 by2 ze2 ty2 hE
   obtain ⟨d2,g1,g2⟩:=(hte e _ hE).desc
   subst g2
   split at h
   ·split at h
    ·rename_i hs
     cases h
     obtain ⟨ti,hti⟩:=Option.isSome_iff_exists.1 hs
     obtain ⟨d3,k1,_⟩:=(hte src ti hti).desc
     obtain ⟨rfl,hl⟩:=hx
     have hrun:=Lib.run_convert_string_bytes (P:=P) w src dst e ⟨s.toArray⟩ k1 h1 g1
     have mB:∀ b,b<w.heap.size->(Lib.bytesWorld w e ⟨s.toArray⟩).heap[b]? =w.heap[b]? :=λb hb=>Lib.bytesWorld_at_old w e _ b hb
     refine ⟨_,_,R.more w (Lib.bytesWorld w e ⟨s.toArray⟩),hrun,aDA hm mB,?_⟩
     have hsz:(⟨s.toArray⟩:ByteArray).size=s.length:=by rfl
     refine ⟨hl,some ⟨w.heap.size,0,none⟩,_,by rw [hsz],?_,?_⟩
     ·simp [grownCap_ge]
     ·by_cases he:s= []
      ·grind
      ·right
       refine ⟨w.heap.size,0,Lib.bytesCells w e ⟨s.toArray⟩,e,((Lib.bytesCells w e ⟨s.toArray⟩).size,(Lib.bytesCells w e ⟨s.toArray⟩).size+1),rfl,?_,?_,λi hi=> ?_⟩
       ·simp [Ctx.more,Lib.bytesWorld_at_new]
       ·simp [Lib.bytesCells,Ty.size]
       ·have hc:(Lib.bytesCells w e ⟨s.toArray⟩).toList=(s.map vu8)++List.replicate (grownCap w (⟨s.toArray⟩:ByteArray).size 0 e-(⟨s.toArray⟩:ByteArray).size) (.int .u8 0):=by
         simp [Lib.bytesCells,vu8]
        rw [hc]
        simp [Ty.size]
        have hseg:seg ((s.map vu8)++List.replicate (grownCap w (⟨s.toArray⟩:ByteArray).size 0 e-(⟨s.toArray⟩:ByteArray).size) (.int .u8 0)) i 1= [vu8 (s.getD i 0)]:=by
         grind [seg,mZ]
        rw [hseg]
        rfl
    grind
   grind
  grind
 grind
def Ctx.oq (R:Ctx) (c:Nat) (ch:Ch) (b:Nat) (o:Obj):Ctx:=
 ⟨λb'=>if b'=b then some o else R.F b',R.U,λc'=>if c'=c then none else R.σ c',λc'=>if c'=c then some ch else R.hp c'⟩
theorem QY (hm:cz R w) {c e:Nat} {t:Ty} {xs:List t.T} {L:Loc} {w₁:World} {o:Obj} (hc:R.hp c=some ⟨e,.row t xs⟩) (hσ:R.σ c=some L)
 (mB:∀ b,b≠L.block->w₁.heap[b]? =w.heap[b]?) (hb:w₁.heap[L.block]? =some o) (hs:MI w w₁):dL R (R.oq c ⟨e+1,.row .u8 []⟩ L.block o) w₁ [(c,⟨e+1,.row .u8 []⟩)]:=by
 have h0:=hm.ch c _ hc
 simp only [eW,hσ] at h0
 obtain ⟨_,_,hF,hU,_⟩:=h0
 have hx:R.Ext (R.oq c ⟨e+1,.row .u8 []⟩ L.block o):=⟨λb o' h=>by
  grind [Ctx.oq],rfl,λc' ch' hc'=>by
  grind [Ctx.oq]⟩
 refine ⟨hx,rfl,λb o' h=> ?_,λb o' h=> ?_,λc' ch' hc'=> ?_,λc1 c2 ch1 ch2 L1 L2 g1 g2 g3 g4 g5 g6 g7=> ?_,λb o' h=> ?_,hm.env.trans hs⟩
 ·simp only [Ctx.oq] at h
  split at h
  ·grind
  ·rename_i h1
   rw [mB b h1];exact hm.F b o' h
 ·have h1:b≠L.block:=λe'=>by
   have h':R.U b=some o':=h
   grind
  rw [mB b h1];exact hm.U b o' h
 ·by_cases h1:c'=c
  ·subst h1
   simp only [Ctx.oq,if_true] at hc'
   cases hc'
   simp only [eW,Ctx.oq,if_true]
   exact ⟨by decide,by simp,trivial⟩
  ·simp only [Ctx.oq,if_neg h1] at hc'
   have hch:=hm.ch c' ch' hc'
   have hs:(R.oq c ⟨e+1,.row .u8 []⟩ L.block o).σ c'=R.σ c':=by simp only [Ctx.oq,if_neg h1]
   have hblk:∀ L',R.σ c'=some L'->ch'.body.mut=true->L'.block≠L.block:=λL' h2 h3 h4=>h1 (hm.apart c' c _ _ _ _ hc' hc h3 rfl h2 hσ h4)
   have hFn:∀ b,b≠L.block->R.F b=none->(R.oq c ⟨e+1,.row .u8 []⟩ L.block o).F b=none:=λb h2 h3=>by simp only [Ctx.oq,if_neg h2,h3]
   obtain ⟨ep,body⟩:=ch'
   cases body with
   |row t ys=>
    simp only [eW] at hch⊢
    rw [hs]
    refine ⟨hch.1,hch.2.1,?_⟩
    replace hch:=hch.2.2
    cases hL:R.σ c' with
    |none=>rw [hL] at hch;exact hch
    |some L'=>
     rw [hL] at hch
     obtain ⟨c1,c2,arr,E,c3,c4,c5,c6⟩:=hch
     have hne:=hblk L' hL rfl
     exact ⟨hFn _ hne c1,c2,arr,E,(mB _ hne).trans c3,c4,c5,λi hi=>bR hx.F _ _ _ (c6 i hi)⟩
   |frz t ys=>
    simp only [eW] at hch⊢
    rw [hs]
    refine ⟨hch.1,hch.2.1,?_⟩
    replace hch:=hch.2.2
    cases hL:R.σ c' with
    |none=>grind
    |some L'=>
     rw [hL] at hch
     obtain ⟨arr,E,fz,c3,c4,c5,c6⟩:=hch
     exact ⟨arr,E,fz,hx.F _ _ c3,c4,c5,λi hi=>bR hx.F _ _ _ (c6 i hi)⟩
   |cells vs=>
    obtain ⟨L',hL,c1,c2,arr,E,c3,c4,c5,c6,c7⟩:=hch
    have hne:=hblk L' hL rfl
    exact ⟨L',by rw [hs];exact hL,hFn _ hne c1,c2,arr,E,(mB _ hne).trans c3,c4,c5,SV.eZ hx _ _ c6,c7⟩
 ·by_cases h1:c1=c
  ·grind [Ctx.oq]
  ·by_cases h2:c2=c
   ·grind [Ctx.oq]
   ·simp only [Ctx.oq,if_neg h1] at g1 g5
    simp only [Ctx.oq,if_neg h2] at g2 g6
    exact hm.apart _ _ _ _ _ _ g1 g2 g3 g4 g5 g6 g7
 ·simp only [Ctx.oq] at h
  split at h
  ·rename_i h1
   subst h1
   exact hU
  ·exact hm.FU b o' h
theorem uc {te:TE} {hp:Hp} {src dst:TypeId} {x:SV} {c e:Nat} {s:List UInt8} (h:ij te hp src dst x=some (c,e,s)):
 src=dst/\(∃ sz by' E ze ty sz2 by2 ze2 ty2,te dst=some ⟨sz,by',.slice E,ze,ty⟩/\te E=some ⟨sz2,by2,.int .u8,ze2,ty2⟩)/\x=.own c e/\eu hp c e=some (.row .u8 s)/\s≠ []:=by
 unfold ij at h
 grind [aY]
theorem F6 (hm:cz R w) {te:TE} (hte:kq P te) {src dst:TypeId} {x:SV} {v:Value} {c e:Nat} {s:List UInt8} (h:ij te R.hp src dst x=some (c,e,s)) (hx:SV.rel R x v):
 LP P R w (convert src dst v) ⟨.lst .u8 s,[(c,⟨e+1,.row .u8 []⟩)]⟩:=by
 obtain ⟨rfl,⟨sz,by',E,ze,ty,sz2,by2,ze2,ty2,hT,hE⟩,rfl,hc,hs⟩:=uc h
 obtain ⟨d,h1,h2⟩:=(hte src _ hT).desc
 simp only at h2
 subst h2
 obtain ⟨d2,g1,g2⟩:=(hte E _ hE).desc
 simp only at g2
 subst g2
 have hc:=bT hc
 have hp:=Ctx.cV hc hx.2
 obtain ⟨_,_,ad,cap,rfl,h4,h5⟩:=Ctx.cK hc hp
 have hlen:0<s.length:=List.length_pos_iff.2 hs
 cases hσ:R.σ c with
 |none=>
  grind [Chunk.shape]
 |some L=>
  rw [hσ] at h5
  simp only [Chunk.shape,Ty.size] at h4 h5
  have hcap:0<cap:=by omega
  have had:=h5.2 hcap
  subst had
  have h0:=hm.ch c _ hc
  simp only [eW,hσ] at h0
  obtain ⟨_,hl,hF,hU,arr,E',k1,k2,k3,k4⟩:=h0
  have hsh:w.shape? L.block=some (E',arr.size):=by unfold World.shape?;rw [k1]
  have hfr:(w.freeze ⟨L.block,arr.size,none⟩ 1).heap=w.heap.modify L.block fun
   |.cells c elem (lo,hi)=>.cells c elem (if lo==hi then (arr.size,arr.size+1) else (min lo arr.size,max hi (arr.size+1)))
   |o=>o:=rfl
  have hb:(w.freeze ⟨L.block,arr.size,none⟩ 1).heap[L.block]? =some (.cells arr E' (arr.size,arr.size+1)):=by
   grind
  have mB:∀ b,b≠L.block->(w.freeze ⟨L.block,arr.size,none⟩ 1).heap[b]? =w.heap[b]? :=λb hb=>by grind
  have hlk:MI w (by omega):=⟨rfl,rfl,rfl⟩
  refine ⟨.slice (some ⟨L.block,L.base+0*1,none⟩) s.length cap,w.freeze ⟨L.block,arr.size,none⟩ 1,R.oq c ⟨e+1,.row .u8 []⟩ L.block _,?_,QY hm hc hσ mB hb hlk,?_⟩
  ·simp_all [convert,run_underlying,markStringish,Chunk.shape]
  ·refine ⟨hl,_,cap,rfl,h4,.inr ⟨L.block,L.base,arr,E',(arr.size,arr.size+1),by simp,by simp only [Ctx.oq,if_true],by omega,λi hi=> ?_⟩⟩
   have hr:=k4 i hi
   exact bR (QY hm hc hσ mB hb hlk).ext.F _ _ _ hr
theorem QF {te:TE} (hte:kq P te) {T:TypeId} {x z:SV} {v y:Value} (h:(abb te T x).run=some z) (hx:SV.rel R x v) (hy:∃ n c,y=.slice none n c):
 (∃ q l k,v=.slice q l k)/\∃ u,(binOp .eql T v y).run P w=.ok u w/\SV.rel R z u:=by
 unfold abb at h
 split at h
 ·rename_i sz by' e ze ty hT
  obtain ⟨d,h1,h2⟩:=(hte T _ hT).desc
  subst h2
  obtain ⟨n,c,rfl⟩:=hy
  split at h
  ·rename_i t xs
   obtain ⟨_,ad,cap,hv,_,hr⟩:=hx
   cases hv
   have hrun:=Lib.run_eql_slice_nil (P:=P) w T e ad xs.length cap n c h1
   cases hb:xs.isEmpty
   ·rw [hb] at h
    cases h
    grind [SV.rel]
   ·rw [hb] at h
    cases h
    grind [SV.rel]
  ·cases h
   obtain ⟨ad,rfl⟩:=hx
   refine ⟨(by simp),_,Lib.run_eql_slice_nil w T e ad 0 0 n c h1,?_⟩
   simp [SV.rel]
  ·cases h
 ·cases h
end
end Sx
end
end Go.Proofs.YthnnknnbfhkomaaGreat
