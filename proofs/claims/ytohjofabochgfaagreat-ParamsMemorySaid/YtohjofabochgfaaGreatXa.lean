/- A symbolic machine for Go code over plain data, and functions of the program as it shows them. No statement is proved in this file. -/
import Derived.Calls
import Derived.Orders
import Derived.Tactics
import Derived.Laws.AppendOwn
import Derived.Laws.CopyRow
import Derived.Laws.Entries
import Derived.KernelRfl
import Derived.Laws.StructEq
import Derived.Laws.MakeOwn
import Derived.Great.BuildSlice
set_option linter.unusedSimpArgs false
set_option linter.unusedVariables false
set_option linter.unusedSectionVars false

namespace Go.Proofs.YtohjofabochgfaaGreat
namespace Sx
open Go
structure aa where
 w0:UInt64
 w1:UInt64
 w2:UInt64
 w3:UInt64
 deriving DecidableEq,Inhabited
inductive Ty where
 |bool|u64|u8|int|str|elem
 |prod (a b:Ty)
 |arr (n:Nat) (t:Ty)
 |list (t:Ty)
 deriving DecidableEq
@[reducible] def Ty.T:Ty->Type
 |.bool=>Bool
 |.u64=>UInt64
 |.u8=>UInt8
 |.int=>Int
 |.str=>List UInt8
 |.elem=>aa
 |.prod a b=>a.T×b.T
 |.arr _ t=>List t.T
 |.list t=>List t.T
def Ty.d:(t:Ty)->t.T
 |.bool=>false
 |.u64=>0
 |.u8=>0
 |.int=>(0:Int)
 |.str=>([]:List UInt8)
 |.elem=>aa.mk 0 0 0 0
 |.prod a b=>(a.d,b.d)
 |.arr n t=>List.replicate n t.d
 |.list t=>([]:List t.T)
def Ty.size:Ty->Nat
 |.elem=>4
 |.prod a b=>a.size+b.size
 |.arr n t=>n*t.size
 |_=>1
def aHW:Int->Int->Bool
 |.ofNat m,.ofNat n=>Nat.ble m n
 |.negSucc m,.negSucc n=>Nat.ble n m
 |.negSucc _,.ofNat _=>true
 |.ofNat _,.negSucc _=>false
theorem aBd:∀ {a b:Int},aHW a b=true ↔ a<=b
 |.ofNat m,.ofNat n=>by
  simp only [aHW]
  exact ⟨λh=>Int.ofNat_le.2 (Nat.le_of_ble_eq_true h),λh=>Nat.ble_eq_true_of_le (Int.ofNat_le.1 h)⟩
 |.negSucc m,.negSucc n=>by
  simp only [aHW]
  constructor
  ·intro h
   have:=Nat.le_of_ble_eq_true h
   omega
  ·intro h
   exact Nat.ble_eq_true_of_le (by omega)
 |.negSucc _,.ofNat n=>by
  simp only [aHW,true_iff]
  have:(0:Int)<=Int.ofNat n:=Int.natCast_nonneg n
  omega
 |.ofNat n,.negSucc _=>by
  simp only [aHW,Bool.false_eq_true,false_iff]
  have:(0:Int)<=Int.ofNat n:=Int.natCast_nonneg n
  omega
def aHV:Int->Int->Bool
 |.ofNat m,.ofNat n=>Nat.blt m n
 |.negSucc m,.negSucc n=>Nat.blt n m
 |.negSucc _,.ofNat _=>true
 |.ofNat _,.negSucc _=>false
theorem aBc:∀ {a b:Int},aHV a b=true ↔ a<b
 |.ofNat m,.ofNat n=>by
  simp only [aHV]
  exact ⟨λh=>Int.ofNat_lt.2 (Nat.le_of_ble_eq_true h),λh=>Nat.ble_eq_true_of_le (Int.ofNat_lt.1 h)⟩
 |.negSucc m,.negSucc n=>by
  simp only [aHV]
  constructor
  ·intro h
   have:n+1<=m:=Nat.le_of_ble_eq_true h
   omega
  ·intro h
   exact Nat.ble_eq_true_of_le (by omega)
 |.negSucc _,.ofNat n=>by
  simp only [aHV,true_iff]
  have:(0:Int)<=Int.ofNat n:=Int.natCast_nonneg n
  omega
 |.ofNat n,.negSucc _=>by
  simp only [aHV,Bool.false_eq_true,false_iff]
  have:(0:Int)<=Int.ofNat n:=Int.natCast_nonneg n
  omega
def aJv {p:Prop} (b:Bool) (h:b=true ↔ p):Decidable p:=match b,h with
 |true,h=>isTrue (h.1 rfl)
 |false,h=>isFalse λhp=>by cases h.2 hp
instance aKp (a b:Int):Decidable (a<=b):=aJv (aHW a b) aBd
instance aKo (a b:Int):Decidable (a<b):=aJv (aHV a b) aBc
def inR (n:Int):Bool:=decide (-9223372036854775808<=n)&&decide (n<=9223372036854775807)
inductive SV where
 |bool (b:Bool)|u64 (x:UInt64)|u8 (x:UInt8)|int (n:Int)|str (s:List UInt8)
 |lst (t:Ty) (xs:List t.T)
 |own (c e:Nat)
 |part (c e off len:Nat)
 |clip (c e:Nat)
 |emp
 |ptr (c e i off:Nat)
 |akV (t:Ty) (xs:List t.T) (i off:Nat)
 |aHI (t:Ty) (xs:List t.T)
 |aCq
 |rb
 |fn (f:Fn) (first caps:List SV)
 |iface (t:TypeId) (v:SV)
 |eF
 |agg (l:List SV)
 |tup (l:List SV)
 |undef
 |bT
inductive Chunk where
 |row (t:Ty) (xs:List t.T)
 |frz (t:Ty) (xs:List t.T)
 |cells (vs:List SV)
structure Ch where
 ep:Nat
 body:Chunk
abbrev Hp:=Nat->Option Ch
structure Loc where
 block:Nat
 base:Nat
 lim:Nat
structure abr where
 blk:Nat->Option Obj
 env:World
instance:CoeFun abr λ_=>Nat->Option Obj:=⟨abr.blk⟩
def aga (e w:World):Prop:=w.os=e.os/\w.output=e.output/\w.tape=e.tape
structure Ctx where
 F:Nat->Option Obj
 U:abr
 σ:Nat->Option Loc
 hp:Hp
def iq (x:UInt64):Value:=.int .u64 (x.toNat:Int)
def vu8 (x:UInt8):Value:=.int .u8 (x.toNat:Int)
def cW:Nat:=140737488355328
def seg (l:List Value) (off n:Nat):List Value:=(l.drop off).take n
def Rep (F:Nat->Option Obj):(t:Ty)->t.T->List Value->Prop
 |.bool,b,cs=>cs= [.bool b]
 |.u64,x,cs=>cs= [iq x]
 |.u8,x,cs=>cs= [vu8 x]
 |.int,n,cs=>cs= [.int .i64 n]/\inR n=true
 |.str,s,cs=>cs= [.string ⟨s.toArray⟩]/\s.length<=cW
 |.elem,e,cs=>cs= [iq e.w0,iq e.w1,iq e.w2,iq e.w3]
 |.prod a b,x,cs=>cs.length=a.size+b.size/\Rep F a x.1 (cs.take a.size)/\Rep F b x.2 (cs.drop a.size)
 |.arr n t,l,cs=>cs.length=n*t.size/\l.length=n/\∀ i,i<n->Rep F t (l.getD i t.d) (seg cs (i*t.size) t.size)
 |.list t,xs,cs=>xs.length<=cW/\∃ ad cap,cs= [.slice ad xs.length cap]/\xs.length<=cap/\
  (xs= []\/∃ b o arr E fz,ad=some ⟨b,o,none⟩/\F b=some (.cells arr E fz)/\o+xs.length*t.size<=arr.size/\
   ∀ i,i<xs.length->Rep F t (xs.getD i t.d) (seg arr.toList (o+i*t.size) t.size))
def Chunk.shape:Chunk->Bool×Nat×Nat
 |.row t xs=>(true,t.size,xs.length)
 |.frz t xs=>(true,t.size,xs.length)
 |.cells vs=>(false,1,vs.length)
def Ctx.part (R:Ctx) (c e off len:Nat) (v:Value):Prop:=
 ∃ ch,R.hp c=some ch/\e<=ch.ep/\(e=ch.ep->ch.body.shape.1=true/\off+len<=ch.body.shape.2.2/\
  ∃ ad cap,v=.slice ad len cap/\len<=cap/\
   match R.σ c with
   |some L=>(off+cap)*ch.body.shape.2.1<=L.lim/\(0<cap->ad=some ⟨L.block,L.base+off*ch.body.shape.2.1,none⟩)
   |none=>cap=0)
def Ctx.own (R:Ctx) (c e:Nat) (v:Value):Prop:=
 ∃ ch,R.hp c=some ch/\e<=ch.ep/\(e=ch.ep->R.part c e 0 ch.body.shape.2.2 v)
def Ctx.clip (R:Ctx) (c e:Nat) (v:Value):Prop:=
 R.own c e v/\∀ ch,R.hp c=some ch->e=ch.ep->∃ ad len,v=.slice ad len len
def Ctx.ptr (R:Ctx) (c e i off:Nat) (v:Value):Prop:=
 ∃ ch,R.hp c=some ch/\e<=ch.ep/\(e=ch.ep->∃ L,R.σ c=some L/\v=.pointer (some ⟨L.block,L.base+(i*ch.body.shape.2.1+off),none⟩))
mutual
def SV.rel (R:Ctx):SV->Value->Prop
 |.bool b,v=>v=.bool b
 |.u64 x,v=>v=iq x
 |.u8 x,v=>v=vu8 x
 |.int n,v=>v=.int .i64 n/\inR n=true
 |.str s,v=>v=.string ⟨s.toArray⟩/\s.length<=cW
 |.lst t xs,v=>Rep R.F (.list t) xs [v]
 |.own c e,v=>v.oneCell'=true/\R.own c e v
 |.part c e off len,v=>v.oneCell'=true/\R.part c e off len v
 |.clip c e,v=>v.oneCell'=true/\R.clip c e v
 |.emp,v=>∃ ad,v=.slice ad 0 0
 |.ptr c e i off,v=>(∃ ad,v=.pointer (some ad))/\R.ptr c e i off v
 |.akV t xs i off,v=>i<xs.length/\∃ b o arr E fz,v=.pointer (some ⟨b,o+off,none⟩)/\R.F b=some (.cells arr E fz)/\o+t.size<=arr.size/\
  Rep R.F t (xs.getD i t.d) (seg arr.toList o t.size)
 |.aHI t xs,v=>xs≠ []/\0<t.size/\∃ b o arr E fz,v=.pointer (some ⟨b,o,none⟩)/\R.F b=some (.cells arr E fz)/\o+xs.length*t.size<=arr.size/\
  ∀ i,i<xs.length->Rep R.F t (xs.getD i t.d) (seg arr.toList (o+i*t.size) t.size)
 |.aCq,v=>∃ b,v=.bool b
 |.rb,v=>v=.pointer none
 |.fn f first caps,v=>∃ l₁ l₂,v=.func f l₁.toArray l₂.toArray/\SV.bV R first l₁/\SV.bV R caps l₂
 |.iface t x,v=>∃ y,v=.iface t y/\SV.rel R x y
 |.eF,v=>v=.nilIface
 |.agg l,v=>∃ vs,v=.agg vs.toArray/\SV.bV R l vs/\∀ u ∈ vs,u.oneCell'=true
 |.tup l,v=>∃ vs,v=.tuple vs.toArray/\SV.bV R l vs
 |.undef,v=>v=Go.undef
 |.bT,_=>True
def SV.bV (R:Ctx):List SV->List Value->Prop
 | [],vs=>vs= []
 |x::l,vs=>∃ v r,vs=v::r/\SV.rel R x v/\SV.bV R l r
end
def eV (R:Ctx) (w:World) (c:Nat) (ch:Ch):Prop:=
 match ch.body with
 |.row t xs=>0<t.size/\xs.length<=cW/\
  match R.σ c with
  |none=>xs= []
  |some L=>R.F L.block=none/\R.U L.block=none/\∃ arr E,w.heap[L.block]? =some (.cells arr E (0,0))/\arr.size=L.base+L.lim/\
   xs.length*t.size<=L.lim/\∀ i,i<xs.length->Rep R.F t (xs.getD i t.d) (seg arr.toList (L.base+i*t.size) t.size)
 |.frz t xs=>0<t.size/\xs.length<=cW/\
  match R.σ c with
  |none=>xs= []
  |some L=>∃ arr E fz,R.F L.block=some (.cells arr E fz)/\arr.size=L.base+L.lim/\
   xs.length*t.size<=L.lim/\∀ i,i<xs.length->Rep R.F t (xs.getD i t.d) (seg arr.toList (L.base+i*t.size) t.size)
 |.cells vs=>∃ L,R.σ c=some L/\R.F L.block=none/\R.U L.block=none/\∃ arr E,w.heap[L.block]? =some (.cells arr E (0,0))/\arr.size=L.base+L.lim/\
  L.lim=vs.length/\SV.bV R vs (arr.toList.drop L.base)/\∀ u ∈ arr.toList,u.oneCell'=true
def Chunk.mut:Chunk->Bool
 |.frz .. =>false
 |_=>true
structure dt (R:Ctx) (w:World):Prop where
 F:∀ b o,R.F b=some o->w.heap[b]? =some o
 U:∀ b o,R.U b=some o->w.heap[b]? =some o
 ch:∀ c ch,R.hp c=some ch->eV R w c ch
 apart:∀ c c' ch ch' L L',R.hp c=some ch->R.hp c'=some ch'->ch.body.mut=true->ch'.body.mut=true->
  R.σ c=some L->R.σ c'=some L'->L.block=L'.block->c=c'
 FU:∀ b o,R.F b=some o->R.U b=none
 env:aga R.U.env w
theorem aga.trans {a b c:World} (h:aga a b) (k:aga b c):aga a c:=⟨k.1.trans h.1,k.2.1.trans h.2.1,k.2.2.trans h.2.2⟩
structure St where
 tm:List SV
 hp:Hp
structure yr (R:Ctx) (st:St) (a:Act) (w:World):Prop where
 hp:R.hp=st.hp
 mem:dt R w
 tm:SV.bV R st.tm a.tmps.toList
 defers:a.defers= []
end Sx
end Go.Proofs.YtohjofabochgfaaGreat

namespace Go.Proofs.YtohjofabochgfaaGreat
namespace Sx
open Go
inductive TD where
 |bool|int (k:IntKind)|str
 |struct (fs:List (Nat×TypeId))
 |array (n:Nat) (e:TypeId)
 |slice (e:TypeId)
 |ptr (ms:List (String×FuncId))|iface|other
structure TI where
 size:Nat
 bytes:Nat
 desc:TD
 zero:List SV
 ty:Option Ty
abbrev TE:=TypeId->Option TI
def TD.agg:TD->Bool
 |.struct _=>true
 |.array .. =>true
 |_=>false
inductive OT (α:Type) where
 |ok (a:α)
 |br (b:Bool) (x y:OT α)
 |fail
def OT.run {α:Type}:OT α->Option α
 |.ok a=>some a
 |.br b x y=>match b with|true=>x.run|false=>y.run
 |.fail=>none
def OT.wp {α:Type} (t:OT α) (K:α->Prop):Prop:=
 OT.rec (motive:=λ_=>Prop) (λa=>K a) (λb _ _ x y=>cond b x y) False t
theorem OT.agJ {α:Type} {t:OT α} {K:α->Prop} (h:t.wp K):∃ a,t.run=some a/\K a:=by
 induction t with
 |ok a=>exact ⟨a,rfl,h⟩
 |br b x y hx hy=>
  cases b
  ·exact hy h
  ·exact hx h
 |fail=>exact h.elim
def OT.map {α β:Type} (f:α->β):OT α->OT β
 |.ok a=>.ok (f a)
 |.br b x y=>.br b (x.map f) (y.map f)
 |.fail=>.fail
def OT.bind {α β:Type} (t:OT α) (f:α->OT β):OT β:=
 match t with
 |.ok a=>f a
 |.br b x y=>.br b (x.bind f) (y.bind f)
 |.fail=>.fail
def OT.guard {α:Type} (b:Bool) (x:OT α):OT α:=.br b x .fail
structure Eff where
 v:SV
 upd:List (Nat×Ch)
inductive Out where
 |ret (e:Eff)
 |pan (v:SV) (upd:List (Nat×Ch))
def unpack:(t:Ty)->t.T->List SV
 |.bool,b=> [.bool b]
 |.u64,x=> [.u64 x]
 |.u8,x=> [.u8 x]
 |.int,n=> [.int n]
 |.str,s=> [.str s]
 |.elem,e=> [.u64 e.w0,.u64 e.w1,.u64 e.w2,.u64 e.w3]
 |.prod a b,x=>unpack a x.1++unpack b x.2
 |.arr n t,l=>(List.range n).flatMap λi=>unpack t (l.getD i t.d)
 |.list t,xs=> [.lst t xs]
def cp (t t':Ty) (xs:List t'.T):Option (List t.T):=if h:t'=t then some (h▸xs) else none
def yq (t:Ty) (hp:Hp):SV->Option (List t.T)
 |.lst t' xs=>cp t t' xs
 |.emp=>some []
 |.own c e|.clip c e=>match hp c with
  |some ⟨ep,.row t' xs⟩|some ⟨ep,.frz t' xs⟩=>if ep=e then cp t t' xs else none
  |_=>none
 |.part c e off len=>match hp c with
  |some ⟨ep,.row t' xs⟩|some ⟨ep,.frz t' xs⟩=>if ep=e then (cp t t' xs).map λl=>(l.drop off).take len else none
  |_=>none
 |_=>none
def af6 (t:Ty) (hp:Hp):SV->Option (List t.T)
 |.lst t' xs=>cp t t' xs
 |.emp=>some []
 |.own c e=>match hp c with
  |some ⟨ep,.frz t' xs⟩=>if ep=e then cp t t' xs else none
  |_=>none
 |.part c e off len=>match hp c with
  |some ⟨ep,.frz t' xs⟩=>if ep=e then (cp t t' xs).map λl=>(l.drop off).take len else none
  |_=>none
 |_=>none
def auc:List SV->Option Bool
 | [.bool b]=>some b
 |_=>none
def aIN:List SV->Option UInt64
 | [.u64 b]=>some b
 |_=>none
def pU8:List SV->Option UInt8
 | [.u8 b]=>some b
 |_=>none
def aIQ:List SV->Option Int
 | [.int b]=>some b
 |_=>none
def aIO:List SV->Option (List UInt8)
 | [.str b]=>some b
 |_=>none
def aub:List SV->Option aa
 | [.u64 a,.u64 b,.u64 c,.u64 d]=>some ⟨a,b,c,d⟩
 |_=>none
def aCV {α:Type} (f:SV->Option α):List SV->Option α
 | [x]=>f x
 |_=>none
def q9 {α β:Type}:Option α->Option β->Option (α×β)
 |some x,some y=>some (x,y)
 |_,_=>none
def pack (hp:Hp):(t:Ty)->List SV->Option t.T
 |.bool,cs=>auc cs
 |.u64,cs=>aIN cs
 |.u8,cs=>pU8 cs
 |.int,cs=>aIQ cs
 |.str,cs=>aIO cs
 |.elem,cs=>aub cs
 |.prod a b,cs=>q9 (pack hp a (cs.take a.size)) (pack hp b (cs.drop a.size))
 |.arr n t,cs=>if cs.length=n*t.size then (List.range n).mapM λi=>pack hp t ((cs.drop (i*t.size)).take t.size) else none
 |.list t,cs=>aCV (af6 t hp) cs
def SV.one:SV->Bool
 |.agg _=>false
 |.tup _=>false
 |.undef=>false
 |.bT=>false
 |_=>true
def SV.cells:SV->Option (List SV)
 |.agg l=>some l
 |v=>if v.one then some [v] else none
def sr (agg:Bool) (cs:List SV):SV:=if agg then .agg cs else cs.headD .bT
def eh (hp:Hp) (c e:Nat):Option Chunk:=
 match hp c with
 |some ⟨ep,b⟩=>if ep=e then some b else none
 |none=>none
def eT (hp:Hp) (d:Nat):(fuel k:Nat)->Nat
 |0,k=>(d+1)*4096+k
 |n+1,k=>match hp ((d+1)*4096+k) with
  |none=>(d+1)*4096+k
  |some _=>eT hp d n (k+1)
def fresh (hp:Hp) (d:Nat):Nat:=eT hp d 4000 0
def akj (t:Ty) (xs:List t.T) (i m:Nat):List SV:=(List.range m).flatMap λj=>unpack t (xs.getD (j+i) t.d)
def loadCells (hp:Hp) (n:Nat):SV->OT (List SV)
 |.ptr c e i off=>match eh hp c e with
  |some (.cells vs)=>if i=0/\off+n<=vs.length then .ok ((vs.drop off).take n) else .fail
  |some (.row t xs)|some (.frz t xs)=>
   if off+n<=t.size then .guard (decide (i<xs.length)) (.ok (((unpack t (xs.getD i t.d)).drop off).take n))
   else if off=0/\n/t.size*t.size=n then .guard (decide (n/t.size+i<=xs.length)) (.ok (akj t xs i (n/t.size)))
   else .fail
  |none=>.fail
 |.akV t xs i off=>if off+n<=t.size then .ok (((unpack t (xs.getD i t.d)).drop off).take n) else .fail
 |.aHI t xs=>if n/t.size*t.size=n then .guard (decide (n/t.size<=xs.length)) (.ok (akj t xs 0 (n/t.size))) else .fail
 |_=>.fail
def ye (l:List SV) (off:Nat) (cs:List SV):List SV:=l.take off++cs++l.drop (off+cs.length)
def sF (t:Ty) (hp:Hp) (cs:List SV):(m j:Nat)->(i:Nat)->List t.T->Option (List t.T)
 |0,_,_,xs=>some xs
 |m+1,j,i,xs=>match pack hp t ((cs.drop (j*t.size)).take t.size) with
  |some x=>sF t hp cs m (j+1) i (xs.set (j+i) x)
  |none=>none
def storeCells (hp:Hp) (cs:List SV):SV->OT (List (Nat×Ch))
 |.ptr c e i off=>match eh hp c e with
  |some (.cells vs)=>if i=0/\off+cs.length<=vs.length/\cs.all SV.one=true then .ok [(c,⟨e,.cells (ye vs off cs)⟩)] else .fail
  |some (.row t xs)=>
   if off+cs.length<=t.size then
    .guard (decide (i<xs.length)) (match pack hp t (ye (unpack t (xs.getD i t.d)) off cs) with
     |some y=>.ok [(c,⟨e,.row t (xs.set i y)⟩)]
     |none=>.fail)
   else if off=0/\cs.length/t.size*t.size=cs.length then
    .guard (decide (cs.length/t.size+i<=xs.length)) (match sF t hp cs (cs.length/t.size) 0 i xs with
     |some ys=>.ok [(c,⟨e,.row t ys⟩)]
     |none=>.fail)
   else .fail
  |_=>.fail
 |_=>.fail
def aAQ:Hp:=λ_=>none
def newVar (te:TE) (hp:Hp) (d:Nat) (T:TypeId) (cs:List SV):OT Eff:=
 match te T with
 |none=>.fail
 |some ti=>
  if cs.length≠ti.size then .fail else
  let n:=fresh hp d
  if (hp n).isSome then .fail else
  let plain:OT Eff:=if cs.all SV.one then .ok ⟨.ptr n 0 0 0,[(n,⟨0,.cells cs⟩)]⟩ else .fail
  match ti.desc with
  |.array m e=>match te e with
   |some ⟨_,_,_,_,some t⟩=>
    if m*t.size=cs.length/\0<t.size then
     match (List.range m).mapM λi=>pack aAQ t ((cs.drop (i*t.size)).take t.size) with
     |some xs=>.ok ⟨.ptr n 0 0 0,[(n,⟨0,.row t xs⟩)]⟩
     |none=>plain
    else plain
   |_=>plain
  |_=>plain
def fieldAt (fs:List (Nat×TypeId)) (te:TE) (f:Nat):Option (Nat×TI):=
 match fs[f]? with
 |some (o,T)=>(te T).map λti=>(o,ti)
 |none=>none
def IA (x:SV) (o:Nat):OT SV:=
 match x with
 |.ptr c e i off=>.ok (.ptr c e i (off+o))
 |.akV t xs i off=>.ok (.akV t xs i (off+o))
 |_=>.fail
def eI (hp:Hp) (c e:Nat):Option Nat:=
 match eh hp c e with
 |some (.row _ xs)=>some xs.length
 |some (.frz _ xs)=>some xs.length
 |_=>none
def dG (hp:Hp) (c e:Nat):Option Nat:=
 match eh hp c e with
 |some (.row t _)=>some t.size
 |some (.frz t _)=>some t.size
 |_=>none
def inB (k:Int) (n:Nat):Bool:=decide (0<=k)&&decide (k<(n:Int))
def indexAddr (te:TE) (hp:Hp) (T:TypeId) (x:SV) (k:Int):OT SV:=
 match te T with
 |none=>.fail
 |some ti=>
  match ti.desc with
  |.array n e=>match te e with
   |none=>.fail
   |some ei=>match x with
    |.ptr c ep i off=>
     if off=0/\dG hp c ep=some ei.size then .guard (inB k n) (.ok (.ptr c ep (k.toNat+i) 0))
     else if (eh hp c ep).isSome then .guard (inB k n) (.ok (.ptr c ep i (off+k.toNat*ei.size))) else .fail
    |.akV t xs i off=>.guard (inB k n) (.ok (.akV t xs i (off+k.toNat*ei.size)))
    |_=>.fail
  |.slice e=>match te e with
   |none=>.fail
   |some ei=>match x with
    |.own c ep|.clip c ep=>match eI hp c ep with
     |some n=>if dG hp c ep=some ei.size then .guard (inB k n) (.ok (.ptr c ep k.toNat 0)) else .fail
     |none=>.fail
    |.part c ep off len=>if dG hp c ep=some ei.size then .guard (inB k len) (.ok (.ptr c ep (k.toNat+off) 0)) else .fail
    |.lst t xs=>if t.size=ei.size then .guard (inB k xs.length) (.ok (.akV t xs k.toNat 0)) else .fail
    |_=>.fail
  |_=>.fail
def SV.aIj:SV->Option UInt64
 |.u64 x=>some x
 |_=>none
def SV.toInt:SV->Option Int
 |.int x=>some x
 |_=>none
def SV.aKG:SV->Option UInt8
 |.u8 x=>some x
 |_=>none
def SV.aIk:SV->Option (List UInt8)
 |.str x=>some x
 |_=>none
def U4 (te:TE) (T:TypeId) (x:SV) (k:Int):OT SV:=
 match te T,x with
 |some ⟨_,_,.array n e,_,_⟩,.agg l=>match te e with
  |some ei=>if l.length≠n*ei.size then .fail else
   match ei.desc with
   |.int .u64=>match l.mapM SV.aIj with
    |some xs=>.guard (inB k n) (.ok (.u64 (xs.getD k.toNat 0)))
    |none=>.fail
   |.int .i64=>match l.mapM SV.toInt with
    |some xs=>.guard (inB k n) (.ok (.int (xs.getD k.toNat 0)))
    |none=>.fail
   |.int .u8=>match l.mapM SV.aKG with
    |some xs=>.guard (inB k n) (.ok (.u8 (xs.getD k.toNat 0)))
    |none=>.fail
   |.str=>match l.mapM SV.aIk with
    |some xs=>.guard (inB k n) (.ok (.str (xs.getD k.toNat [])))
    |none=>.fail
   |d=>.guard (inB k n) (.ok (sr d.agg ((l.drop (k.toNat*ei.size)).take ei.size)))
  |none=>.fail
 |some ⟨_,_,.str,_,_⟩,.str s=>.guard (inB k s.length) (.ok (.u8 (s.getD k.toNat 0)))
 |_,_=>.fail
def fill (cs:List SV):List (Option Nat×Nat×SV)->Option (List SV)
 | []=>some cs
 |(some off,size,v)::rest=>match v.cells with
  |some l=>if l.length=size/\off+size<=cs.length then fill (ye cs off l) rest else none
  |none=>none
 |(none,_,_)::_=>none
def build (te:TE) (T:TypeId) (parts:List (Nat×SV)):OT SV:=
 match te T with
 |none=>.fail
 |some ti=>
  match ti.desc with
  |.struct fs=>match fill ti.zero (parts.map λp=>match fieldAt fs te p.1 with|some (o,fi)=>(some o,fi.size,p.2)|none=>(none,0,p.2)) with
   |some cs=>.ok (.agg cs)
   |none=>.fail
  |.array n e=>match te e with
   |some ei=>match fill ti.zero (parts.map λp=>(if p.1<n then some (p.1*ei.size) else none,ei.size,p.2)) with
    |some cs=>.ok (.agg cs)
    |none=>.fail
   |none=>.fail
  |_=>.fail
def buildSlice (te:TE) (hp:Hp) (d:Nat) (T:TypeId) (len:Nat) (parts:List (Nat×SV)):OT Eff:=
 match te T with
 |some ⟨_,_,.slice e,_,_⟩=>match te e with
  |some ⟨size,_,_,zero,some t⟩=>
   let n:=fresh hp d
   if (hp n).isSome\/t.size≠size\/size=0\/len*size>16777216 then .fail else
   match fill ((List.range len).flatMap λ_=>zero) (parts.map λp=>(if p.1<len then some (p.1*size) else none,size,p.2)) with
   |some cs=>match (List.range len).mapM λi=>pack hp t ((cs.drop (i*t.size)).take t.size) with
    |some xs=>.ok ⟨.own n 0,[(n,⟨0,.row t xs⟩)]⟩
    |none=>.fail
   |none=>.fail
  |_=>.fail
 |_=>.fail
def makeSlice (te:TE) (hp:Hp) (d:Nat) (T:TypeId) (l c:Int):OT Eff:=
 match te T with
 |some ⟨_,_,.slice e,_,_⟩=>match te e with
  |some ⟨size,bytes,_,_,some t⟩=>
   let n:=fresh hp d
   if (hp n).isSome\/t.size≠size\/size=0 then .fail else
   .guard (decide (0<=l)&&decide (l<=c)&&decide (c*bytes<=140737488355328)&&decide (c<=140737488355328)) (.ok ⟨.own n 0,[(n,⟨0,.row t (List.replicate l.toNat t.d)⟩)]⟩)
  |_=>.fail
 |_=>.fail
def auh (d:Int):Option SV->Option Int
 |none=>some d
 |some (.int k)=>some k
 |_=>none
theorem OT.aCN {α:Type} {b:Bool} {x y:OT α} {a:α} (h:(OT.br b x y).run=some a):(b=true/\x.run=some a)\/(b=false/\y.run=some a):=by
 cases b
 ·exact .inr ⟨rfl,h⟩
 ·exact .inl ⟨rfl,h⟩
theorem OT.aIy {α:Type} {x y:OT α}:(OT.br true x y).run=x.run:=rfl
theorem OT.aIz {α:Type} {x y:OT α}:(OT.br false x y).run=y.run:=rfl
def Le:Option SV->Option SV->Option SV->Bool
 |none,some (.int m),some (.int h)=>decide (m=0)&&decide (h=0)
 |_,_,_=>false
theorem aea {lo mx hi:Option SV} (h:Le lo mx hi=true):lo=none/\mx=some (.int 0)/\hi=some (.int 0):=by
 unfold Le at h
 split at h
 ·simp only [Bool.and_eq_true,decide_eq_true_eq] at h
  obtain ⟨rfl,rfl⟩:=h
  exact ⟨rfl,rfl,rfl⟩
 ·cases h
def dH (l h:Int) (n:Nat):Bool:=decide (0<=l)&&decide (l<=h)&&decide (h<=(n:Int))
def yQ (hp:Hp) (size:Nat) (c ep off len:Nat) (lo hi:Option SV):OT SV:=
 if dG hp c ep=some size then
  match auh 0 lo,auh (len:Int) hi with
  |some l,some h=>.guard (dH l h len) (.ok (.part c ep (l.toNat+off) (h-l).toNat))
  |_,_=>.fail
 else .fail
def qA (te:TE) (hp:Hp) (T:TypeId) (x:SV) (lo hi mx:Option SV):OT SV:=
 match te T with
 |none=>.fail
 |some ti=>
  match ti.desc with
  |.array n e=>match te e,x,mx with
   |some ei,.ptr c ep i off,none=>
    if off=0/\i=0/\dG hp c ep=some ei.size then
     match eI hp c ep with
     |some m=>match lo,hi with
      |none,none=>.guard (decide (m=n)) (.ok (.own c ep))
      |lo,hi=>match auh 0 lo,auh (n:Int) hi with
       |some l,some h=>.guard (decide (n<=m)&&dH l h n) (.ok (.part c ep l.toNat (h-l).toNat))
       |_,_=>.fail
     |none=>.fail
    else .fail
   |_,_,_=>.fail
  |.slice e=>match te e with
   |none=>.fail
   |some ei=>
    .br (Le lo mx hi) (match x with
     |.own c ep|.clip c ep|.part c ep _ _=>if (eI hp c ep).isSome then .ok .emp else .fail
     |.lst .. |.emp=>.ok .emp
     |_=>.fail)
    (match mx,x with
     |none,.own c ep=>match eI hp c ep with
      |some m=>yQ hp ei.size c ep 0 m lo hi
      |none=>.fail
     |none,.part c ep off len=>yQ hp ei.size c ep off len lo hi
     |none,.lst t xs=>if t.size=ei.size then
      match auh 0 lo,hi with
      |some l,none=>.guard (dH l xs.length xs.length) (.ok (.lst t (xs.drop l.toNat)))
      |some l,some (.int h)=>.guard (dH l h xs.length) (.ok (.lst t ((xs.take h.toNat).drop l.toNat)))
      |_,_=>.fail
      else .fail
     |some (.int m),.own c ep=>match lo,hi,eI hp c ep with
      |none,some (.int h),some n=>if dG hp c ep=some ei.size then
       .br (decide (h=(n:Int))&&decide (m=(n:Int))) (.ok (.clip c ep)) (.guard (decide (0<=h)&&decide (h<=m)&&decide (m<=(n:Int))) (.ok (.part c ep 0 h.toNat)))
       else .fail
      |_,_,_=>.fail
     |_,_=>.fail)
  |.str=>match x,mx with
   |.str s,none=>match auh 0 lo,auh (s.length:Int) hi with
    |some l,some h=>.guard (dH l h s.length) (.ok (.str ((s.take h.toNat).drop l.toNat)))
    |_,_=>.fail
   |_,_=>.fail
  |_=>.fail
def xA (te:TE) (hp:Hp) (T:TypeId) (x:SV):OT SV:=
 match te T with
 |some ⟨_,_,.array n e,_,_⟩=>match te e with
  |none=>.fail
  |some ei=>if n=0 then .fail else match x with
   |.own c ep=>if dG hp c ep=some ei.size then
    match eI hp c ep with
    |some m=>.guard (decide (n<=m)) (.ok (.ptr c ep 0 0))
    |none=>.fail
    else .fail
   |.part c ep off len=>if dG hp c ep=some ei.size then .guard (decide (n<=len)) (.ok (.ptr c ep off 0)) else .fail
   |.lst t xs=>if t.size=ei.size/\t.size≠0 then .guard (decide (n<=xs.length)) (.ok (.aHI t xs)) else .fail
   |_=>.fail
 |_=>.fail
def aeb (te:TE) (T:TypeId) (x:SV):OT SV:=
 match te T with
 |some ⟨_,_,.slice _,_,_⟩=>match x with
  |.lst _ xs=>.br xs.isEmpty (.ok .aCq) (.ok (.bool false))
  |.emp=>.ok .aCq
  |_=>.fail
 |_=>.fail
def bytesOf (te:TE) (src dst:TypeId) (x:SV):Option (List UInt8):=
 match te dst with
 |some ⟨_,_,.slice e,_,_⟩=>match te e with
  |some ⟨_,_,.int .u8,_,_⟩=>match x with
   |.str s=>if (te src).isSome then some s else none
   |_=>none
  |_=>none
 |_=>none
def gJ (te:TE) (hp:Hp) (src dst:TypeId) (x:SV):Option (Nat×Nat×List UInt8):=
 if Nat.beq src dst=true then
  match te dst with
  |some ⟨_,_,.slice e,_,_⟩=>match te e with
   |some ⟨_,_,.int .u8,_,_⟩=>match x with
    |.own c ep=>match eh hp c ep with
     |some (.row .u8 (y::ys))=>some (c,ep,y::ys)
     |_=>none
    |_=>none
   |_=>none
  |_=>none
 else none
def Rs:Operand->Bool
 |.const (.slice none _ _)=>true
 |_=>false
def Pm (te:TE) (hp:Hp) (T:TypeId) (x:SV):OT SV:=
 match te T with
 |none=>.fail
 |some ti=>
  match ti.desc,x with
  |.slice _,.own c e|.slice _,.clip c e=>match eI hp c e with
   |some n=>.ok (.int n)
   |none=>.fail
  |.slice _,.part c e _ len=>match eI hp c e with
   |some _=>.ok (.int len)
   |none=>.fail
  |.slice _,.emp=>.ok (.int 0)
  |.slice _,.lst _ xs=>.ok (.int xs.length)
  |.str,.str s=>.ok (.int s.length)
  |_,_=>.fail
def xB (te:TE) (hp:Hp) (d:Nat) (T:TypeId) (s x:SV):OT Eff:=
 match te T with
 |some ⟨_,_,.slice e,_,_⟩=>match te e with
  |some ⟨size,bytes,_,_,some t⟩=>
   if t.size≠size\/size=0\/bytes=0 then .fail else
   match (match x with
    |.str b=>cp t .u8 b
    |_=>yq t hp x) with
   |some ys=>match s with
    |.own c ep=>match eh hp c ep with
     |some (.row t' xs)=>match cp t t' xs with
      |some xs=>.guard (decide ((xs.length+ys.length)*bytes<=140737488355328)) (.ok ⟨.own c (ep+1),[(c,⟨ep+1,.row t (xs++ys)⟩)]⟩)
      |none=>.fail
     |_=>.fail
    |.clip c ep=>match eh hp c ep with
     |some (.row t' xs)=>match cp t t' xs with
      |some xs=>
       let n:=fresh hp d
       if (hp n).isSome then .fail else
       .guard (decide ((xs.length+ys.length)*bytes<=140737488355328)&&decide (0<ys.length)) (.ok ⟨.own n 0,[(n,⟨0,.row t (xs++ys)⟩)]⟩)
      |none=>.fail
     |_=>.fail
    |.emp=>
     let n:=fresh hp d
     if (hp n).isSome then .fail else
     .guard (decide (ys.length*bytes<=140737488355328)) (.ok ⟨.own n 0,[(n,⟨0,.row t ys⟩)]⟩)
    |_=>.fail
   |none=>.fail
  |_=>.fail
 |_=>.fail
def RS (te:TE) (hp:Hp) (T:TypeId) (x y:SV):OT Eff:=
 match te T with
 |some ⟨_,_,.slice e,_,_⟩=>match te e with
  |some ⟨size,_,_,_,some t⟩=>
   if t.size≠size\/size=0 then .fail else
   match (match y with
    |.str b=>cp t .u8 b
    |_=>yq t hp y) with
   |some ys=>match x with
    |.own c ep=>match eh hp c ep with
     |some (.row t' xs)=>match cp t t' xs with
      |some xs=>.ok ⟨.int (min ys.length xs.length:Nat),[(c,⟨ep,.row t (ys.take xs.length++xs.drop ys.length)⟩)]⟩
      |none=>.fail
     |_=>.fail
    |.part c ep off len=>match eh hp c ep with
     |some (.row t' xs)=>match cp t t' xs with
      |some xs=>.ok ⟨.int (min ys.length len:Nat),[(c,⟨ep,.row t (xs.take off++(ys.take len++xs.drop (off+min ys.length len)))⟩)]⟩
      |none=>.fail
     |_=>.fail
    |_=>.fail
   |none=>.fail
  |_=>.fail
 |_=>.fail
def bR (x:UInt64) (n:Int):UInt64:=if n<64 then x<<<(UInt64.ofNat n.toNat) else 0
def bm (x:UInt64) (n:Int):UInt64:=if n<64 then x>>>(UInt64.ofNat n.toNat) else 0
def w64 (n:Int):Int:=IntKind.i64.wrap n
def aKY (a b:Int):Int:=w64 (BitVec.ofInt 64 a&&&BitVec.ofInt 64 b).toNat
def ior (a b:Int):Int:=w64 (BitVec.ofInt 64 a|||BitVec.ofInt 64 b).toNat
def aI2 (a b:Int):Int:=w64 (BitVec.ofInt 64 a^^^BitVec.ofInt 64 b).toNat
def Rr (a n:Int):Int:=w64 (a*2^(min n.toNat 64))
def auP (a n:Int):Int:=a.fdiv (2^(min n.toNat 64))
def i2u (n:Int):UInt64:=UInt64.ofNat (n%18446744073709551616).toNat
def i2b (n:Int):UInt8:=UInt8.ofNat (n%256).toNat
def u2i (x:UInt64):Int:=w64 (x.toNat:Int)
def awo:SV->SV->Option Bool
 |.u64 a,.u64 b=>some (a==b)
 |.u8 a,.u8 b=>some (a==b)
 |.int a,.int b=>some (a==b)
 |.str a,.str b=>some (a==b)
 |_,_=>none
def ala (d:TD) (x y:SV):Option Bool:=
 match d,x,y with
 |.bool,.bool a,.bool b=>some (a==b)
 |.int _,.u64 a,.u64 b=>some (a==b)
 |.int _,.u8 a,.u8 b=>some (a==b)
 |.int _,.int a,.int b=>some (a==b)
 |.str,.str a,.str b=>some (a==b)
 |_,_,_=>none
def aJ5:Option Bool->Option Bool->Option Bool
 |some a,some b=>some (a&&b)
 |_,_=>none
def aoW (d:TD):List SV->List SV->Option Bool
 | [x],[y]=>ala d x y
 |_,_=>none
def sub (l:List SV) (o n:Nat):List SV:=(l.drop o).take n
def aKt (go:TypeId->List SV->List SV->Option Bool) (te:TE) (l r:List SV):List (Nat×TypeId)->Option Bool
 | []=>some true
 |(o,T)::fs=>match te T with
  |some fi=>if o+fi.size<=l.length/\o+fi.size<=r.length then aJ5 (go T (sub l o fi.size) (sub r o fi.size)) (aKt go te l r fs) else none
  |none=>none
def aHa (go:List SV->List SV->Option Bool) (s:Nat) (l r:List SV):(m i:Nat)->Option Bool
 |0,_=>some true
 |m+1,i=>if i*s+s<=l.length/\i*s+s<=r.length then aJ5 (go (sub l (i*s) s) (sub r (i*s) s)) (aHa go s l r m (i+1)) else none
def aBE (te:TE):Nat->TypeId->List SV->List SV->Option Bool
 |0,_,_,_=>none
 |n+1,T,l,r=>match te T with
  |some ti=>match ti.desc with
   |.struct fs=>aKt (aBE te n) te l r fs
   |.array m e=>match te e with
    |some ei=>aHa (aBE te n e) ei.size l r m 0
    |none=>none
   |d=>aoW d l r
  |none=>none
def aHZ (te:TE) (T:TypeId) (x y:SV):Option Bool:=
 match te T with
 |none=>none
 |some ti=>
  match ti.desc,x,y with
  |.struct _,.agg l,.agg r|.array ..,.agg l,.agg r=>if ti.ty.isSome then aBE te 20 T l r else none
  |.ptr _,.ptr ..,.rb=>some false
  |.ptr _,.akV ..,.rb=>some false
  |.ptr _,.rb,.ptr .. =>some false
  |.ptr _,.rb,.rb=>some true
  |.iface,.eF,.iface .. =>some false
  |.iface,.iface ..,.eF=>some false
  |.bool,.bool a,.bool b=>some (a==b)
  |_,x,y=>awo x y
def aly (te:TE) (T:TypeId) (op:BinOp) (x y:SV):OT SV:=
 match op,x,y with
 |.shl,.u64 a,.int n=>.guard (decide (0<=n)) (.ok (.u64 (bR a n)))
 |.shr,.u64 a,.int n=>.guard (decide (0<=n)) (.ok (.u64 (bm a n)))
 |.shl,.u64 a,.u64 n=>.ok (.u64 (bR a n.toNat))
 |.shr,.u64 a,.u64 n=>.ok (.u64 (bm a n.toNat))
 |.shl,.int a,.int n=>.guard (decide (0<=n)) (.ok (.int (Rr a n)))
 |.shr,.int a,.int n=>.guard (decide (0<=n)) (.ok (.int (auP a n)))
 |.shl,.int a,.u64 n=>.ok (.int (Rr a n.toNat))
 |.shr,.int a,.u64 n=>.ok (.int (auP a n.toNat))
 |.add,.u64 a,.u64 b=>.ok (.u64 (a+b))
 |.sub,.u64 a,.u64 b=>.ok (.u64 (a-b))
 |.mul,.u64 a,.u64 b=>.ok (.u64 (a*b))
 |.quo,.u64 a,.u64 b=>.guard (!(b==0)) (.ok (.u64 (a/b)))
 |.rem,.u64 a,.u64 b=>.guard (!(b==0)) (.ok (.u64 (a%b)))
 |.and,.u64 a,.u64 b=>.ok (.u64 (a&&&b))
 |.or,.u64 a,.u64 b=>.ok (.u64 (a|||b))
 |.xor,.u64 a,.u64 b=>.ok (.u64 (a^^^b))
 |.lss,.u64 a,.u64 b=>.ok (.bool (decide (a<b)))
 |.leq,.u64 a,.u64 b=>.ok (.bool (decide (a<=b)))
 |.gtr,.u64 a,.u64 b=>.ok (.bool (decide (b<a)))
 |.geq,.u64 a,.u64 b=>.ok (.bool (decide (b<=a)))
 |.add,.u8 a,.u8 b=>.ok (.u8 (a+b))
 |.sub,.u8 a,.u8 b=>.ok (.u8 (a-b))
 |.and,.u8 a,.u8 b=>.ok (.u8 (a&&&b))
 |.or,.u8 a,.u8 b=>.ok (.u8 (a|||b))
 |.xor,.u8 a,.u8 b=>.ok (.u8 (a^^^b))
 |.shr,.u8 a,.int n=>.guard (decide (0<=n)&&decide (n<8)) (.ok (.u8 (a>>>(UInt8.ofNat n.toNat))))
 |.shl,.u8 a,.int n=>.guard (decide (0<=n)&&decide (n<8)) (.ok (.u8 (a<<<(UInt8.ofNat n.toNat))))
 |.shr,.u8 a,.u64 n=>.guard (decide (n.toNat<8)) (.ok (.u8 (a>>>(UInt8.ofNat n.toNat))))
 |.shl,.u8 a,.u64 n=>.guard (decide (n.toNat<8)) (.ok (.u8 (a<<<(UInt8.ofNat n.toNat))))
 |.lss,.u8 a,.u8 b=>.ok (.bool (decide (a<b)))
 |.leq,.u8 a,.u8 b=>.ok (.bool (decide (a<=b)))
 |.gtr,.u8 a,.u8 b=>.ok (.bool (decide (b<a)))
 |.geq,.u8 a,.u8 b=>.ok (.bool (decide (b<=a)))
 |.add,.int a,.int b=>.guard (inR (a+b)) (.ok (.int (a+b)))
 |.sub,.int a,.int b=>.guard (inR (a-b)) (.ok (.int (a-b)))
 |.mul,.int a,.int b=>.guard (inR (a*b)) (.ok (.int (a*b)))
 |.quo,.int a,.int b=>.guard (!(b==0)&&inR (a.tdiv b)) (.ok (.int (a.tdiv b)))
 |.rem,.int a,.int b=>.guard (!(b==0)) (.ok (.int (a.tmod b)))
 |.and,.int a,.int b=>.ok (.int (aKY a b))
 |.or,.int a,.int b=>.ok (.int (ior a b))
 |.xor,.int a,.int b=>.ok (.int (aI2 a b))
 |.lss,.int a,.int b=>.ok (.bool (decide (a<b)))
 |.leq,.int a,.int b=>.ok (.bool (decide (a<=b)))
 |.gtr,.int a,.int b=>.ok (.bool (decide (b<a)))
 |.geq,.int a,.int b=>.ok (.bool (decide (b<=a)))
 |.eql,x,y=>match aHZ te T x y with
  |some b=>.ok (.bool b)
  |none=>.fail
 |.neq,x,y=>match aHZ te T x y with
  |some b=>.ok (.bool (!b))
  |none=>.fail
 |_,_,_=>.fail
def aDK (op:UnOp) (x:SV):OT SV:=
 match op,x with
 |.neg,.int a=>.guard (inR (0-a)) (.ok (.int (0-a)))
 |.neg,.u64 a=>.ok (.u64 (0-a))
 |.xor,.u64 a=>.ok (.u64 (~~~a))
 |.xor,.u8 a=>.ok (.u8 (~~~a))
 |.not,.bool b=>.ok (.bool (!b))
 |_,_=>.fail
def I7 (te:TE) (src dst:TypeId) (x:SV):OT SV:=
 match te src,te dst with
 |none,_=>.fail
 |_,none=>.fail
 |some _,some ti=>
  match ti.desc,x with
  |.int .u64,.u64 a=>.ok (.u64 a)
  |.int .u64,.u8 a=>.ok (.u64 a.toUInt64)
  |.int .u64,.int n=>.ok (.u64 (i2u n))
  |.int .u8,.u64 a=>.ok (.u8 a.toUInt8)
  |.int .u8,.u8 a=>.ok (.u8 a)
  |.int .u8,.int n=>.ok (.u8 (i2b n))
  |.int .i64,.u64 a=>.ok (.int (u2i a))
  |.int .i64,.u8 a=>.ok (.int (a.toNat:Int))
  |.int .i64,.int n=>.ok (.int n)
  |_,_=>.fail
end Sx
end Go.Proofs.YtohjofabochgfaaGreat

namespace Go.Proofs.YtohjofabochgfaaGreat
namespace Sx
open Go
structure cj where
 mod:Bool
 f:Nat->List SV->Hp->OT Out
abbrev Env:=FuncId->Option cj
def Ld:Value->SV
 |.bool b=>.bool b
 |.int .u64 n=>if 0<=n/\n<18446744073709551616 then .u64 (UInt64.ofNat n.toNat) else .bT
 |.int .u8 n=>if 0<=n/\n<256 then .u8 (UInt8.ofNat n.toNat) else .bT
 |.int .i64 n=>if inR n then .int n else .bT
 |.string s=>if s.size<=cW then .str s.data.toList else .bT
 |.pointer none=>.rb
 |.slice none 0 0=>.emp
 |.nilIface=>.eF
 |_=>.bT
def aF7:Value->SV
 |.agg cs=>if cs.toList.all Value.oneCell' then .agg (cs.toList.map Ld) else .bT
 |v=>Ld v
def St.eval (st:St):Operand->SV
 |.tmp t=>st.tm.getD t .bT
 |.const v=>aF7 v
 |.global _=>.bT
 |.func f=>.fn (.func f) [] []
def iP (x:OT SV):OT Out:=x.map λv=>.ret ⟨v,[]⟩
def eff (x:OT Eff):OT Out:=x.map .ret
def awt (Φ:Env) (hp:Hp) (d:Nat) (f:SV) (args:List SV):OT Out:=
 match f with
 |.fn (.func f) first caps=>match Φ f with
  |some s=>s.f d (first++args++caps) hp
  |none=>.fail
 |_=>.fail
def aj2:List (String×FuncId)->String->Option FuncId
 | [],_=>none
 |(n,f)::r,name=>cond (n==name) (some f) (aj2 r name)
def auF (te:TE) (t:TypeId) (name:String):Option FuncId:=match te t with
 |some ⟨_,_,.ptr ms,_,_⟩=>aj2 ms name
 |_=>none
def VR (te:TE) (Φ:Env) (hp:Hp) (d:Nat) (recv:SV) (name:String) (args:List SV):OT Out:=
 match recv with
 |.iface t v=>match auF te t name with
  |some f=>match Φ f with
   |some s=>s.f d (v::args) hp
   |none=>.fail
  |none=>.fail
 |_=>.fail
def AR (te:TE) (T:TypeId):Bool:=
 match te T with
 |some ⟨_,_,.slice _,_,_⟩=>true
 |some ⟨_,_,.str,_,_⟩=>true
 |_=>false
def idxOf:SV->Option Int
 |.int i=>some i
 |.u8 b=>some (b.toNat:Int)
 |.u64 b=>some (b.toNat:Int)
 |_=>none
def Iq (te:TE) (Φ:Env) (hp:Hp) (d:Nat) (ρ:Operand->SV):Op->OT Out
 |.move x=>iP (.ok (ρ x))
 |.assign x=>iP (.ok (ρ x))
 |.pick c a b=>match ρ c with
  |.bool t=>iP (.br t (.ok (ρ a)) (.ok (ρ b)))
  |_=>.fail
 |.alloc T=>match te T with
  |some ti=>eff (newVar te hp d T ti.zero)
  |none=>.fail
 |.box T x=>match (ρ x).cells with
  |some l=>eff (newVar te hp d T l)
  |none=>.fail
 |.build T parts=>iP (build te T (parts.toList.map λp=>(p.1,ρ p.2)))
 |.buildSlice T len parts=>eff (buildSlice te hp d T len (parts.toList.map λp=>(p.1,ρ p.2)))
 |.load T a=>match te T with
  |some ti=>iP ((loadCells hp ti.size (ρ a)).map λcs=>sr ti.desc.agg cs)
  |none=>.fail
 |.store T a x=>match te T with
  |some ti=>match (ρ x).cells with
   |some l=>if l.length=ti.size then (storeCells hp l (ρ a)).map λu=>.ret ⟨.undef,u⟩ else .fail
   |none=>.fail
  |none=>.fail
 |.nilCheck x=>match ρ x with
  |.ptr c e i off=>iP (.ok (.ptr c e i off))
  |.akV t xs i off=>iP (.ok (.akV t xs i off))
  |.iface t v=>iP (.ok (.iface t v))
  |_=>.fail
 |.binOp op T x y _=>match op,Rs y with
  |.eql,true=>iP (aeb te T (ρ x))
  |op,_=>iP (aly te T op (ρ x) (ρ y))
 |.sliceToArrayPointer T x=>iP (xA te hp T (ρ x))
 |.unOp op _ x=>iP (aDK op (ρ x))
 |.convert src dst x=>match bytesOf te src dst (ρ x) with
  |some s=>iP (.ok (.lst .u8 s))
  |none=>match gJ te hp src dst (ρ x) with
   |some (c,e,s)=>eff (.ok ⟨.lst .u8 s,[(c,⟨e+1,.row .u8 []⟩)]⟩)
   |none=>iP (I7 te src dst (ρ x))
 |.slice T x lo hi mx=>iP (qA te hp T (ρ x) (lo.map ρ) (hi.map ρ) (mx.map ρ))
 |.fieldAddr S x f=>match te S with
  |some ⟨_,_,.struct fs,_,_⟩=>match fieldAt fs te f with
   |some (o,fi)=>if fi.size=0 then .fail else iP (IA (ρ x) o)
   |none=>.fail
  |_=>.fail
 |.field S x f=>match te S,ρ x with
  |some ⟨_,_,.struct fs,_,_⟩,.agg l=>match fieldAt fs te f with
   |some (o,fi)=>if o+fi.size<=l.length then iP (.ok (sr fi.desc.agg ((l.drop o).take fi.size))) else .fail
   |none=>.fail
  |_,_=>.fail
 |.indexAddr T x k=>match idxOf (ρ k) with
  |some i=>iP (indexAddr te hp T (ρ x) i)
  |none=>.fail
 |.index T x k=>match idxOf (ρ k) with
  |some i=>iP (U4 te T (ρ x) i)
  |none=>.fail
 |.extract t i=>match ρ t with
  |.tup l=>match l[i]? with
   |some v=>iP (.ok v)
   |none=>.fail
  |_=>.fail
 |.makeSlice T l c=>match ρ l,ρ c with
  |.int l,.int c=>eff (makeSlice te hp d T l c)
  |_,_=>.fail
 |.makeFunc f first caps=>iP (.ok (.fn f (first.toList.map ρ) (caps.toList.map ρ)))
 |.makeInterface T x=>match te T with
  |some ti=>match ti.desc with
   |.iface=>.fail
   |.other=>.fail
   |_=>iP (.ok (.iface T (ρ x)))
  |none=>.fail
 |.call c=>match c.callee with
  |.value f=>awt Φ hp d (ρ f) (c.args.toList.map ρ)
  |.invoke recv name=>VR te Φ hp d (ρ recv) name (c.args.toList.map ρ)
  |.builtin .len=>match c.args.toList,c.argTypes.toList with
   | [x],T::_=>iP (Pm te hp T (ρ x))
   |_,_=>.fail
  |.builtin .append=>match c.args.toList,c.argTypes.toList with
   | [s,x],[T,T']=>if AR te T' then eff (xB te hp d T (ρ s) (ρ x)) else .fail
   |_,_=>.fail
  |.builtin .copy=>match c.args.toList,c.argTypes.toList with
   | [x,y],[T,_]=>eff (RS te hp T (ρ x) (ρ y))
   |_,_=>.fail
  |.builtin .max=>match c.args.toList with
   | [x,y]=>match ρ x,ρ y with
    |.int a,.int b=>iP (.ok (.int (if b>a then b else a)))
    |_,_=>.fail
   |_=>.fail
  |_=>.fail
 |_=>.fail
def eX (Φ:Env):Op->Nat
 |.load .. =>1
 |.indexAddr .. =>1
 |.slice .. =>1
 |.sliceToArrayPointer .. =>1
 |.buildSlice .. =>1
 |.store .. =>2
 |.convert src dst _=>cond (Nat.beq src dst) 2 0
 |.box .. =>1
 |.call c=>match c.callee with
  |.value (.func f)=>match Φ f with
   |some s=>if s.mod then 2 else 1
   |none=>2
  |.builtin .len=>1
  |.builtin .max=>0
  |_=>2
 |_=>0
def E4 (st:St) (dst:Option Tmp) (v:SV):List SV:=
 match dst with
 |some d=>st.tm.set d v
 |none=>st.tm
def eu (hp:Hp):List (Nat×Ch)->Hp
 | []=>hp
 |(c,ch)::r=>eu (λn=>if n=c then some ch else hp n) r
def St.put (st:St) (dst:Option Tmp) (e:Eff):St:=⟨E4 st dst e.v,eu st.hp e.upd⟩
def guarded (ops:List Oper) (tm:List SV) (o:Oper):Option Bool:=
 match o.guard with
 |none=>some true
 |some (j,want)=>match (ops[j]?).bind (·.dst) with
  |some d=>match tm.getD d .bT with
   |.bool b=>some (b==want)
   |.undef=>some false
   |_=>none
  |none=>none
inductive SE where
 |normal|ret|exit (id:Nat)|pan (v:SV)
 deriving Inhabited
def kr (te:TE) (Φ:Env) (ops:List Oper) (K:SE->St->Prop):List Oper->St->Prop
 | [],st=>K .normal st
 |o::r,st=>
  match guarded ops st.tm o with
  |none=>False
  |some b=>cond b
   ((Iq te Φ st.hp (o.dst.getD 100000) st.eval o.op).wp λx=>
     match x with
     |.ret e=>kr te Φ ops K r (st.put o.dst e)
     |.pan v u=>K (.pan v) ⟨st.tm,eu st.hp u⟩)
   (kr te Φ ops K r (st.put o.dst ⟨.undef,[]⟩))
def sn (ops:Array Oper):Array Nat:=Region.before ops
def fe (i:Nat) (o:Oper):Nat:=o.dst.getD (100000+i)
def dp (bs:Array Nat) (i k:Nat):Bool:=Nat.blt k i&&(bs.getD i 0).testBit k
abbrev mY:=List (Nat×Oper×Eff)
def bE (st:St) (D:Nat->Bool):mY->St
 | []=>st
 |x::r=>cond (D x.1) ((bE st D r).put x.2.1.dst x.2.2) (bE st D r)
def Zx (d n:Nat):Bool:=Nat.beq (n/4096) (d+1)
def aci (Φ:Env) (bs:Array Nat) (ops:List Oper) (st:St) (i:Nat) (o:Oper) (done:mY) (u:List (Nat×Ch)):Bool:=
 u.isEmpty||((List.range ops.length).all (λk=>Nat.beq k i|| !Nat.beq (fe k (ops.getD k default)) (fe i o))&&
  u.all λx=>(Zx (fe i o) x.1&&(st.hp x.1).isNone)||
   (Nat.beq (eX Φ o.op) 2&&((st.hp x.1).isSome||done.any λy=>dp bs i y.1&&Zx (fe y.1 y.2.1) x.1&& !y.2.2.upd.isEmpty)))
abbrev Hid:=List (Nat×Nat)×List (List Nat)
def hid (H:Hid) (i:Nat):List Nat:=H.1.flatMap λp=>cond (Nat.beq p.1 i) (H.2.getD p.2 []) (cond (Nat.beq p.2 i) (H.2.getD p.1 []) [])
def wL (H:Hid) (i:Nat):Bool:=H.1.any λp=>Nat.beq p.1 i||Nat.beq p.2 i
def aC3:List Nat->Hp->Hp
 | [],hp=>hp
 |a::r,hp=>λn=>cond ((a::r).any λm=>Nat.beq m n) none (hp n)
def ZA (H:Hid) (i:Nat) (o:Oper) (u:List (Nat×Ch)):Bool:=
 !wL H i||((u.all λx=>((H.2.getD i []).any λm=>Nat.beq m x.1)&& !(hid H i).any λm=>Nat.beq m x.1)&&(hid H i).all λn=> !Zx (fe i o) n)
def gm (te:TE) (Φ:Env) (ops:List Oper) (bs:Array Nat) (H:Hid) (K:SE->St->Prop) (st:St):Nat->List Oper->mY->Prop
 |_,[],done=>K .normal (bE st (λ_=>true) done)
 |i,o::r,done=>
  let s:=bE st (dp bs i) done
  match guarded ops s.tm o with
  |none=>False
  |some b=>cond b
   ((Iq te Φ (aC3 (hid H i) s.hp) (fe i o) s.eval o.op).wp λx=>
     match x with
     |.ret e=>cond (aci Φ bs ops st i o done e.upd&&ZA H i o e.upd) (gm te Φ ops bs H K st (i+1) r ((i,o,e)::done)) False
     |.pan _ _=>False)
   (gm te Φ ops bs H K st (i+1) r ((i,o,⟨.undef,[]⟩)::done))
def aCT (Φ:Env) (ops:Array Oper) (bs:Array Nat) (i j:Nat):Bool:=
 let x:=ops.getD i default
 let y:=ops.getD j default
 dp bs j i||(x.apart ops y&& !Nat.beq (fe i x) (fe j y))
def awi (Φ:Env) (ops:Array Oper) (bs:Array Nat) (i j:Nat):Bool:=
 let x:=ops.getD i default
 let y:=ops.getD j default
 !dp bs j i&&((Nat.beq (eX Φ x.op) 2&& !Nat.beq (eX Φ y.op) 0)||(Nat.beq (eX Φ y.op) 2&& !Nat.beq (eX Φ x.op) 0))
def uD (Φ:Env) (ops:Array Oper) (bs:Array Nat):List (Nat×Nat):=
 (List.range ops.size).flatMap λj=>(List.range j).flatMap λi=>cond (awi Φ ops bs i j) [(i,j)] []
def OT.Vm:OT Out->Option Eff
 |.ok (.ret e)=>some e
 |.ok _=>none
 |.br _ x y=>match x.Vm with
  |some e=>some e
  |none=>y.Vm
 |.fail=>none
def auX (te:TE) (Φ:Env):Nat->List Oper->St->List (List Nat)
 |_,[],_=> []
 |i,o::r,st=>match (Iq te Φ st.hp (fe i o) st.eval o.op).Vm with
  |some e=>e.upd.map (·.1)::auX te Φ (i+1) r (st.put o.dst e)
  |none=> []::auX te Φ (i+1) r (st.put o.dst ⟨.undef,[]⟩)
def an4 (te:TE) (Φ:Env) (ops:Array Oper) (bs:Array Nat) (st:St):Hid:=
 match uD Φ ops bs with
 | []=>([],[])
 |c::r=>(c::r,auX te Φ 0 ops.toList st)
theorem auW {te:TE} {Φ:Env} {ops:Array Oper} {bs:Array Nat} {st:St}:(an4 te Φ ops bs st).1=uD Φ ops bs:=by
 unfold an4
 cases uD Φ ops bs<;>rfl
def aDp (ops:Array Oper) (bs:Array Nat) (i:Nat):Bool:=
 (ops.getD i default).after.all (λe=> !Region.binds .any e||(Nat.blt e.on i&&(bs.getD i 0).testBit e.on))&&
 (List.range i).all λk=> !(bs.getD i 0).testBit k||
  (Nat.beq (bs.getD k 0&&&bs.getD i 0) (bs.getD k 0)&&(ops.getD i default).after.any λe=>Region.binds .any e&&(Nat.beq e.on k||(dp bs e.on k)))
def gq (Φ:Env) (ops:Array Oper) (bs:Array Nat):Bool:=
 (List.range ops.size).all λj=>aDp ops bs j&&(List.range j).all λi=>aCT Φ ops bs i j
def ifB (b:Bool) (x y:Prop):Prop:=cond b x y
theorem akd (b:Bool) (x y:Prop):ifB b x y=cond b x y:=rfl
noncomputable def aJ3 (l:List SV):Nat->Option SV:=List.rec (motive:=λ_=>Nat->Option SV) (λ_=>none) (λx _ ih n=>Nat.rec (motive:=λ_=>Option SV) (some x) (λm _=>ih m) n) l
noncomputable def aKc (l:List SV):Nat->SV->List SV:=List.rec (motive:=λ_=>Nat->SV->List SV) (λ_ _=> []) (λx xs ih n v=>Nat.rec (motive:=λ_=>List SV) (v::xs) (λm _=>x::ih m v) n) l
def ZT (l:List SV):(List SV->Prop)->Prop:=List.rec (motive:=λ_=>(List SV->Prop)->Prop) (λk=>k []) (λx _ ih k=>ih (λys=>k (x::ys))) l
def akt (v:SV) (k:SV->Prop):Prop:=match v with
 |.bool b=>k (.bool b)
 |.u64 b=>k (.u64 b)
 |.u8 b=>k (.u8 b)
 |.int b=>k (.int b)
 |.str b=>k (.str b)
 |.lst t xs=>k (.lst t xs)
 |.own c e=>k (.own c e)
 |.part c e o l=>k (.part c e o l)
 |.clip c e=>k (.clip c e)
 |.emp=>k .emp
 |.ptr a b c d=>k (.ptr a b c d)
 |.akV t xs i o=>k (.akV t xs i o)
 |.rb=>k .rb
 |.aHI t xs=>k (.aHI t xs)
 |.aCq=>k .aCq
 |.fn f a b=>k (.fn f a b)
 |.iface t x=>k (.iface t x)
 |.eF=>k .eF
 |.agg l=>ZT l λl=>k (.agg l)
 |.tup l=>ZT l λl=>k (.tup l)
 |.undef=>k .undef
 |.bT=>k .bT
theorem aeI:∀ (l:List SV) (n:Nat),aJ3 l n=l[n]?
 | [],_=>rfl
 |_::_,0=>rfl
 |_::xs,n+1=>aeI xs n
theorem acz:∀ (l:List SV) (n:Nat) (v:SV),aKc l n v=l.set n v
 | [],_,_=>rfl
 |_::_,0,_=>rfl
 |x::xs,n+1,v=>congrArg (x:: ·) (acz xs n v)
theorem Cq:∀ (l:List SV) (k:List SV->Prop),ZT l k=k l
 | [],_=>rfl
 |x::xs,k=>Cq xs λys=>k (x::ys)
theorem ZQ (v:SV) (k:SV->Prop):akt v k=k v:=by
 cases v<;>first|rfl|exact Cq _ _
noncomputable def atO (hp:Hp) (u:List (Nat×Ch)):Hp:=List.rec (motive:=λ_=>Hp->Hp) (λhp=>hp) (λx _ ih hp=>ih λn=>cond (Nat.beq n x.1) (some x.2) (hp n)) u hp
theorem YA:∀ (u:List (Nat×Ch)) (hp:Hp),atO hp u=eu hp u
 | [],_=>rfl
 |(c,ch)::r,hp=>by
  simp only [eu]
  rw [<-YA r]
  show atO _ r=_
  congr 1
  funext n
  cases h:Nat.beq n c
  ·have:n≠c:=λe=>by subst e;simp at h
   simp [this]
  ·have:=Nat.eq_of_beq_eq_true h
   simp [this]
def aJY (hp:Hp) (u:List (Nat×Ch)) (k:Hp->Prop):Prop:=List.rec (motive:=λ_=>Prop) (k hp) (λx r _=>k (atO hp (x::r))) u
theorem atN (hp:Hp) (u:List (Nat×Ch)) (k:Hp->Prop):aJY hp u k=k (eu hp u):=by
 cases u with
 |nil=>rfl
 |cons x r=>exact congrArg k (YA _ _)
def St.aCR (st:St) (dst:Option Tmp) (e:Eff) (k:St->Prop):Prop:=akt e.v λv=>aJY st.hp e.upd λhp=>match dst with
 |some d=>ZT (aKc st.tm d v) λtm=>k ⟨tm,hp⟩
 |none=>k ⟨st.tm,hp⟩
theorem adU (st:St) (dst:Option Tmp) (e:Eff) (k:St->Prop):st.aCR dst e k=k (st.put dst e):=by
 unfold St.aCR
 rw [ZQ,atN]
 cases dst with
 |none=>rfl
 |some d=>
  simp only
  rw [Cq,acz]
  rfl
noncomputable def aJd (l:List SV) (t:Nat):SV:=match aJ3 l t with
 |some x=>x
 |none=>.bT
theorem aeJ (l:List SV) (t:Nat):aJd l t=l.getD t .bT:=by
 unfold aJd
 rw [aeI,List.getD_eq_getElem?_getD]
 cases l[t]? <;>rfl
def aal (ev:Nat->SV):Operand->SV
 |.tmp t=>ev t
 |.const v=>aF7 v
 |.global _=>.bT
 |.func f=>.fn (.func f) [] []
theorem aak {st:St} {ev:Nat->SV} (h:∀ t,ev t=st.tm.getD t .bT):aal ev=st.eval:=by
 funext x
 cases x<;>first|rfl|exact h _
def aJX (tm:List SV) (d:Nat) (b:Bool) (k:List SV->Prop):Prop:=ZT (aKc tm d (.bool b)) k
theorem aFh {tm:List SV} {d:Nat} {b:Bool} (h:tm.getD d .bT=.bool b) (k:List SV->Prop):aJX tm d b k=k tm:=by
 unfold aJX
 rw [Cq,acz]
 congr 1
 rw [List.getD_eq_getElem?_getD] at h
 cases hx:tm[d]? with
 |none=>rw [hx] at h;cases h
 |some x=>
  rw [hx] at h
  have h:x=.bool b:=h
  obtain ⟨hl,he⟩:=List.getElem?_eq_some_iff.1 hx
  rw [<-h,<-he]
  exact List.set_getElem_self hl
def akh (ops:List Oper) (o:Oper) (run skip:List SV->Prop) (tm:List SV):Prop:=
 match o.guard with
 |none=>run tm
 |some (j,want)=>match (ops[j]?).bind (·.dst) with
  |some d=>match aJd tm d with
   |.bool b=>Bool.rec (motive:=λ_=>Prop) (aJX tm d false λtm=>match want with|false=>run tm|true=>skip tm) (aJX tm d true λtm=>match want with|true=>run tm|false=>skip tm) b
   |.undef=>skip tm
   |_=>False
  |none=>False
theorem auY (ops:List Oper) (o:Oper) (run skip:List SV->Prop) (tm:List SV):akh ops o run skip tm=match guarded ops tm o with
 |none=>False
 |some b=>cond b (run tm) (skip tm):=by
 unfold akh guarded
 cases o.guard with
 |none=>rfl
 |some g=>
  obtain ⟨j,want⟩:=g
  simp only
  cases (ops[j]?).bind (·.dst) with
  |none=>rfl
  |some d=>
   simp only
   rw [aeJ]
   cases hv:tm.getD d .bT<;>try rfl
   rename_i b
   cases b<;>cases want<;>simp only [aFh hv]<;>rfl
def zH (te:TE) (Φ:Env) (ops:List Oper) (K:SE->St->Prop) (l:List Oper):St->Prop:=
 List.rec (motive:=λ_=>St->Prop) (λst=>K .normal st) (λo _ ih st=>
  akh ops o
   (λtm=>(Iq te Φ st.hp (o.dst.getD 100000) (aal (aJd tm)) o.op).wp λx=>
    match x with
    |.ret e=>(⟨tm,st.hp⟩:St).aCR o.dst e ih
    |.pan v u=>K (.pan v) ⟨tm,eu st.hp u⟩)
   (λtm=>(⟨tm,st.hp⟩:St).aCR o.dst ⟨.undef,[]⟩ ih) st.tm) l
theorem wO {te:TE} {Φ:Env} {ops:List Oper} {K:SE->St->Prop}:∀ (l:List Oper) (st:St),zH te Φ ops K l st=kr te Φ ops K l st
 | [],_=>rfl
 |o::r,st=>by
  have ih:(λst=>zH te Φ ops K r st)=λst=>kr te Φ ops K r st:=funext λst=>wO r st
  simp only [kr]
  show akh ops o
   (λtm=>(Iq te Φ st.hp (o.dst.getD 100000) (aal (aJd tm)) o.op).wp λx=>
    match x with
    |.ret e=>(⟨tm,st.hp⟩:St).aCR o.dst e (λst=>zH te Φ ops K r st)
    |.pan v u=>K (.pan v) ⟨tm,eu st.hp u⟩)
   (λtm=>(⟨tm,st.hp⟩:St).aCR o.dst ⟨.undef,[]⟩ (λst=>zH te Φ ops K r st)) st.tm=_
  rw [auY,aak (st:=st) (aeJ st.tm),ih]
  cases guarded ops st.tm o with
  |none=>rfl
  |some b=>
   simp only
   rw [adU]
   congr 2
   funext x
   cases x with
   |ret e=>exact adU _ _ _ _
   |pan v u=>rfl
noncomputable def U1 (D:Nat->Bool) (t:Nat) (x:SV) (done:mY):SV:=List.rec (motive:=λ_=>SV) x (λy _ ih=>cond (D y.1) (match y.2.1.dst with
 |some d=>cond (Nat.beq d t) y.2.2.v ih
 |none=>ih) ih) done
noncomputable def Zt (st:St) (D:Nat->Bool) (done:mY) (t:Nat):SV:=match aJ3 st.tm t with
 |some x=>U1 D t x done
 |none=>.bT
theorem gH (st:St) (D:Nat->Bool):∀ done:mY,(bE st D done).tm.length=st.tm.length
 | []=>rfl
 |x::r=>by
  simp only [bE]
  cases D x.1
  ·exact gH st D r
  ·simp only [cond_true,St.put,E4]
   split
   ·rw [List.length_set];exact gH st D r
   ·exact gH st D r
theorem U0 (st:St) (D:Nat->Bool):∀ (done:mY) (t:Nat),Zt st D done t=(bE st D done).tm.getD t .bT
 | [],t=>aeJ st.tm t
 |y::r,t=>by
  have ih:=U0 st D r t
  simp only [bE]
  unfold Zt at ih⊢
  rw [aeI] at ih⊢
  cases hx:st.tm[t]? with
  |none=>
   rw [hx] at ih
   have hl:st.tm.length<=t:=List.getElem?_eq_none_iff.1 hx
   cases D y.1
   ·exact ih
   ·simp only [cond_true]
    have:((bE st D r).put y.2.1.dst y.2.2).tm.length<=t:=by
     have:=gH st D (y::r)
     have h2:=gH st D r
     simp only [St.put,E4]
     split
     ·rw [List.length_set];omega
     ·omega
    rw [List.getD_eq_getElem?_getD,List.getElem?_eq_none this]
    rfl
  |some x=>
   rw [hx] at ih
   have hl:t<st.tm.length:=(List.getElem?_eq_some_iff.1 hx).1
   show U1 D t x (y::r)=_
   show cond (D y.1) (match y.2.1.dst with|some d=>cond (Nat.beq d t) y.2.2.v (U1 D t x r)|none=>U1 D t x r) (U1 D t x r)=_
   cases D y.1
   ·exact ih
   ·simp only [cond_true,St.put,E4]
    cases y.2.1.dst with
    |none=>exact ih
    |some d=>
     simp only
     cases hb:Nat.beq d t
     ·have hne:d≠t:=λe=>by subst e;simp at hb
      simp only [cond_false]
      rw [List.getD_eq_getElem?_getD,List.getElem?_set_ne hne,<-List.getD_eq_getElem?_getD]
      exact ih
     ·have he:=Nat.eq_of_beq_eq_true hb
      subst he
      simp only [cond_true]
      rw [List.getD_eq_getElem?_getD,List.getElem?_set_self (by rw [gH];exact hl)]
      rfl
def hpK (st:St) (D:Nat->Bool) (done:mY):(Hp->Prop)->Prop:=List.rec (motive:=λ_=>(Hp->Prop)->Prop) (λk=>k st.hp) (λy _ ih k=>ifB (D y.1) (ih λh=>aJY h y.2.2.upd k) (ih k)) done
theorem auT (st:St) (D:Nat->Bool):∀ (done:mY) (k:Hp->Prop),hpK st D done k=k (bE st D done).hp
 | [],_=>rfl
 |y::r,k=>by
  show ifB (D y.1) (hpK st D r λh=>aJY h y.2.2.upd k) (hpK st D r k)=_
  simp only [bE,akd]
  cases D y.1
  ·exact auT st D r k
  ·simp only [cond_true]
   rw [auT st D r,atN]
   rfl
def aGJ (st:St) (done:mY):(St->Prop)->Prop:=List.rec (motive:=λ_=>(St->Prop)->Prop) (λk=>k st) (λy _ ih k=>ih λs=>s.aCR y.2.1.dst y.2.2 k) done
theorem aku (st:St):∀ (done:mY) (k:St->Prop),aGJ st done k=k (bE st (λ_=>true) done)
 | [],_=>rfl
 |y::r,k=>by
  show (aGJ st r λs=>s.aCR y.2.1.dst y.2.2 k)=_
  rw [aku st r,adU]
  rfl
def aFA (D:Nat->Bool) (d:Nat) (v:SV) (done:mY):(mY->Prop)->Prop:=List.rec (motive:=λ_=>(mY->Prop)->Prop) (λk=>k []) (λy r ih k=>
 ifB (D y.1) (match y.2.1.dst with
  |some d'=>ifB (Nat.beq d' d) (k ((y.1,y.2.1,⟨v,y.2.2.upd⟩)::r)) (ih λr'=>k (y::r'))
  |none=>ih λr'=>k (y::r')) (ih λr'=>k (y::r'))) done
theorem Tt {D:Nat->Bool} {d:Nat} {v x:SV}:∀ {done:mY} (k:mY->Prop),(U1 D d x done=v\/∀ y ∈ done,D y.1=true->y.2.1.dst≠some d)->aFA D d v done k=k done
 | [],_,_=>rfl
 |y::r,k,h=>by
  show ifB (D y.1) (match y.2.1.dst with
   |some d'=>ifB (Nat.beq d' d) (k ((y.1,y.2.1,⟨v,y.2.2.upd⟩)::r)) (aFA D d v r λr'=>k (y::r'))
   |none=>aFA D d v r λr'=>k (y::r')) (aFA D d v r λr'=>k (y::r'))=_
  simp only [akd]
  have h:cond (D y.1) (match y.2.1.dst with|some d'=>cond (Nat.beq d' d) y.2.2.v (U1 D d x r)|none=>U1 D d x r) (U1 D d x r)=v\/∀ z ∈ y::r,D z.1=true->z.2.1.dst≠some d:=h
  cases hD:D y.1
  ·rw [hD] at h
   simp only [cond_false] at h⊢
   exact Tt _ (h.imp_right λh z hz=>h z (List.mem_cons_of_mem _ hz))
  ·rw [hD] at h
   simp only [cond_true] at h⊢
   cases hd:y.2.1.dst with
   |none=>
    rw [hd] at h
    simp only at h⊢
    exact Tt _ (h.imp_right λh z hz=>h z (List.mem_cons_of_mem _ hz))
   |some d'=>
    rw [hd] at h
    simp only at h⊢
    cases hb:Nat.beq d' d
    ·rw [hb] at h
     simp only [cond_false] at h⊢
     exact Tt _ (h.imp_right λh z hz=>h z (List.mem_cons_of_mem _ hz))
    ·rw [hb] at h
     simp only [cond_true] at h⊢
     rcases h with h|h
     ·rw [<-h]
     ·exact absurd (by rw [hd,Nat.eq_of_beq_eq_true hb]) (h y (List.mem_cons_self ..) hD)
theorem asF {st:St} {D:Nat->Bool} {d:Nat} {v:SV} {done:mY} (k:mY->Prop) (h:Zt st D done d=v) (hj:v≠ .bT):aFA D d v done k=k done:=by
 unfold Zt at h
 cases hx:aJ3 st.tm d with
 |none=>rw [hx] at h;exact absurd h.symm hj
 |some x=>
  rw [hx] at h
  exact Tt (x:=x) k (.inl h)
def aki (ops:List Oper) (st:St) (D:Nat->Bool) (o:Oper) (run skip:mY->Prop) (done:mY):Prop:=
 match o.guard with
 |none=>run done
 |some (j,want)=>match (ops[j]?).bind (·.dst) with
  |some d=>match Zt st D done d with
   |.bool b=>Bool.rec (motive:=λ_=>Prop) (aFA D d (.bool false) done λdone=>match want with|false=>run done|true=>skip done) (aFA D d (.bool true) done λdone=>match want with|true=>run done|false=>skip done) b
   |.undef=>skip done
   |_=>False
  |none=>False
theorem auZ (ops:List Oper) (st:St) (D:Nat->Bool) (o:Oper) (run skip:mY->Prop) (done:mY):aki ops st D o run skip done=match guarded ops (bE st D done).tm o with
 |none=>False
 |some b=>cond b (run done) (skip done):=by
 unfold aki guarded
 cases o.guard with
 |none=>rfl
 |some g=>
  obtain ⟨j,want⟩:=g
  simp only
  cases (ops[j]?).bind (·.dst) with
  |none=>rfl
  |some d=>
   simp only
   have hl:=U0 st D done d
   rw [<-hl]
   cases hv:Zt st D done d<;>try rfl
   rename_i b
   cases b<;>cases want<;>simp only [asF _ hv (by intro e;cases e)]<;>rfl
def aJ4 (te:TE) (Φ:Env) (ops:List Oper) (bs:Array Nat) (H:Hid) (K:SE->St->Prop) (st:St) (i:Nat) (l:List Oper) (done:mY):Prop:=
 List.rec (motive:=λ_=>Nat->mY->Prop) (λ_ done=>aGJ st done (K .normal)) (λo _ ih i done=>
  aki ops st (dp bs i) o
   (λdone=>hpK st (dp bs i) done λhp=>(Iq te Φ (aC3 (hid H i) hp) (fe i o) (aal (Zt st (dp bs i) done)) o.op).wp λx=>
    match x with
    |.ret e=>akt e.v λv=>ifB (aci Φ bs ops st i o done e.upd&&ZA H i o e.upd) (ih (i+1) ((i,o,⟨v,e.upd⟩)::done)) False
    |.pan _ _=>False)
   (λdone=>ih (i+1) ((i,o,⟨.undef,[]⟩)::done)) done) l i done
theorem ae9 {te:TE} {Φ:Env} {ops:List Oper} {bs:Array Nat} {H:Hid} {K:SE->St->Prop} {st:St}:∀ (l:List Oper) (i:Nat) (done:mY),aJ4 te Φ ops bs H K st i l done=gm te Φ ops bs H K st i l done
 | [],i,done=>by
  simp only [gm]
  exact aku st done (K .normal)
 |o::r,i,done=>by
  simp only [gm]
  show aki ops st (dp bs i) o
   (λdone=>hpK st (dp bs i) done λhp=>(Iq te Φ (aC3 (hid H i) hp) (fe i o) (aal (Zt st (dp bs i) done)) o.op).wp λx=>
    match x with
    |.ret e=>akt e.v λv=>ifB (aci Φ bs ops st i o done e.upd&&ZA H i o e.upd) (aJ4 te Φ ops bs H K st (i+1) r ((i,o,⟨v,e.upd⟩)::done)) False
    |.pan _ _=>False)
   (λdone=>aJ4 te Φ ops bs H K st (i+1) r ((i,o,⟨.undef,[]⟩)::done)) done=_
  rw [auZ,auT,aak (st:=bE st (dp bs i) done) (U0 st (dp bs i) done)]
  cases guarded ops (bE st (dp bs i) done).tm o with
  |none=>rfl
  |some b=>
   simp only
   rw [ae9 r]
   congr 2
   funext x
   cases x with
   |ret e=>
    simp only
    rw [ZQ,ae9 r,akd]
   |pan v u=>rfl
abbrev Lam:=Nat->Option (St->(SE->St->Prop)->Prop)
def wps (te:TE) (Φ:Env) (Λ:Lam):Nat->Code->St->(SE->St->Prop)->Prop:=
 λn=>Nat.rec (motive:=λ_=>Code->St->(SE->St->Prop)->Prop) (λ_ _ _=>False)
  (λ_ go c st K=>match c with
   |.skip=>K .normal st
   |.region _ ops draw=>ifB draw (ifB (gq Φ ops (sn ops)) (aJ4 te Φ ops.toList (sn ops) (an4 te Φ ops (sn ops) st) K st 0 ops.toList []) False) (zH te Φ ops.toList K ops.toList st)
   |.seq a b=>go a st λe st'=>match e with
    |.normal=>go b st' K
    |e=>K e st'
   |.cond c a b=>match st.eval c with
    |.bool t=>cond t (go a st K) (go b st K)
    |.aCq=>(go a st K)/\(go b st K)
    |_=>False
   |.block id body=>match Λ id with
    |some l=>l st K
    |none=>go body st λe st'=>match e with
     |.exit j=>ifB (Nat.beq j id) (K .normal st') (K (.exit j) st')
     |e=>K e st'
   |.loop body=>go body st λe st'=>match e with
    |.normal=>go (.loop body) st' K
    |e=>K e st'
   |.exit id=>K (.exit id) st
   |.ret=>K .ret st
   |_=>False) n
def sP (te:TE) (st:St):List ResultVar->(List SV->Prop)->Prop
 | [],K=>K []
 |.tmp t::r,K=>sP te st r λl=>K (st.tm.getD t .bT::l)
 |.cell a T::r,K=>match te T with
  |some ti=>(loadCells st.hp ti.size (st.tm.getD a .bT)).wp λcs=>sP te st r λl=>K (sr ti.desc.agg cs::l)
  |none=>False
def oneOf:List SV->SV
 | [x]=>x
 |l=>.tup l
def ai2 (te:TE) (fn:Func) (st:St) (K:SV->Prop):Prop:=sP te st fn.results.toList λl=>K (oneOf l)
def wpf (te:TE) (Φ:Env) (Λ:Lam) (fuel:Nat) (fn:Func) (args:List SV) (hp:Hp) (K:SV->Hp->Prop) (Kp:SV->Hp->Prop):Prop:=
 match fn.body with
 |none=>False
 |some c=>wps te Φ Λ fuel c ⟨args++List.replicate (fn.ntmps-args.length) .undef,hp⟩ λe st=>match e with
  |.normal|.ret=>ai2 te fn st λv=>K v st.hp
  |.pan v=>Kp v st.hp
  |.exit _=>False
end Sx
end Go.Proofs.YtohjofabochgfaaGreat

namespace Go.Proofs.YtohjofabochgfaaGreat
namespace Sx
open Go
theorem cn {F F':Nat->Option Obj} (h:∀ b o,F b=some o->F' b=some o):∀ (t:Ty) (x:t.T) (cs:List Value),Rep F t x cs->Rep F' t x cs
 |.bool,_,_,hr=>hr
 |.u64,_,_,hr=>hr
 |.u8,_,_,hr=>hr
 |.int,_,_,hr=>hr
 |.str,_,_,hr=>hr
 |.elem,_,_,hr=>hr
 |.prod a b,x,cs,hr=>by
  obtain ⟨h1,h2,h3⟩:=hr
  exact ⟨h1,cn h a _ _ h2,cn h b _ _ h3⟩
 |.arr n t,l,cs,hr=>by
  obtain ⟨h1,h2,h3⟩:=hr
  exact ⟨h1,h2,λi hi=>cn h t _ _ (h3 i hi)⟩
 |.list t,xs,cs,hr=>by
  obtain ⟨h0,ad,cap,h1,h2,h3⟩:=hr
  refine ⟨h0,ad,cap,h1,h2,?_⟩
  rcases h3 with h3|⟨b,o,arr,E,fz,ha,hb,hs,hr⟩
  ·exact .inl h3
  ·exact .inr ⟨b,o,arr,E,fz,ha,h _ _ hb,hs,λi hi=>cn h t _ _ (hr i hi)⟩
theorem xD {F:Nat->Option Obj}:∀ (t:Ty) (x:t.T) (cs:List Value),Rep F t x cs->cs.length=t.size
 |.bool,_,_,hr=>by simp only [Rep] at hr;subst hr;rfl
 |.u64,_,_,hr=>by simp only [Rep] at hr;subst hr;rfl
 |.u8,_,_,hr=>by simp only [Rep] at hr;subst hr;rfl
 |.int,_,_,hr=>by simp only [Rep] at hr;rw [hr.1];rfl
 |.str,_,_,hr=>by simp only [Rep] at hr;rw [hr.1];rfl
 |.elem,_,_,hr=>by simp only [Rep] at hr;subst hr;rfl
 |.prod a b,x,cs,hr=>hr.1
 |.arr n t,l,cs,hr=>hr.1
 |.list t,xs,cs,hr=>by
  obtain ⟨_,ad,cap,h1,_⟩:=hr
  rw [h1];rfl
theorem AX {l:List Value} {off n:Nat} {v:Value} (h:v ∈ seg l off n):v ∈ l:=List.mem_of_mem_drop (List.mem_of_mem_take h)
theorem rM {F:Nat->Option Obj}:∀ (t:Ty) (x:t.T) (cs:List Value),Rep F t x cs->∀ v ∈ cs,v.oneCell'=true
 |.bool,_,_,hr=>by simp only [Rep] at hr;subst hr;simp [Value.oneCell']
 |.u64,_,_,hr=>by simp only [Rep] at hr;subst hr;simp [Value.oneCell',iq]
 |.u8,_,_,hr=>by simp only [Rep] at hr;subst hr;simp [Value.oneCell',vu8]
 |.int,_,_,hr=>by simp only [Rep] at hr;rw [hr.1];simp [Value.oneCell']
 |.str,_,_,hr=>by simp only [Rep] at hr;rw [hr.1];simp [Value.oneCell']
 |.elem,_,_,hr=>by simp only [Rep] at hr;subst hr;simp [Value.oneCell',iq]
 |.prod a b,x,cs,hr=>by
  obtain ⟨h1,h2,h3⟩:=hr
  intro v hv
  rw [<-List.take_append_drop a.size cs] at hv
  rcases List.mem_append.1 hv with hv|hv
  ·exact rM a _ _ h2 v hv
  ·exact rM b _ _ h3 v hv
 |.arr n t,l,cs,hr=>by
  obtain ⟨h1,h2,h3⟩:=hr
  intro v hv
  obtain ⟨j,hj,rfl⟩:=List.getElem_of_mem hv
  have hjn:j<n*t.size:=by omega
  have hs:0<t.size:=Nat.pos_of_ne_zero λe=>by simp [e] at hjn
  have hi:j/t.size<n:=by rw [Nat.div_lt_iff_lt_mul hs];exact hjn
  have hmod:=Nat.mod_lt j hs
  have hdm:=Nat.div_add_mod j t.size
  have hle:j/t.size*t.size+t.size<=n*t.size:=by
   have:=Nat.mul_le_mul_right t.size hi
   rwa [Nat.succ_mul] at this
  refine rM t _ _ (h3 _ hi) _ ?_
  rw [List.mem_iff_getElem]
  refine ⟨j%t.size,?_,?_⟩
  ·simp only [seg,List.length_take,List.length_drop]
   omega
  ·simp only [seg,List.getElem_take,List.getElem_drop]
   congr 1
   rw [Nat.mul_comm];exact hdm
 |.list t,xs,cs,hr=>by
  obtain ⟨_,ad,cap,h1,_⟩:=hr
  rw [h1];simp [Value.oneCell']
structure Ctx.Ext (R R':Ctx):Prop where
 F:∀ b o,R.F b=some o->R'.F b=some o
 U:R'.U=R.U
 ch:∀ c ch,R.hp c=some ch->∃ ch',R'.hp c=some ch'/\ch.ep<=ch'.ep/\(ch.ep=ch'.ep->ch'.body.shape=ch.body.shape/\R'.σ c=R.σ c)
theorem Ctx.Ext.refl (R:Ctx):R.Ext R:=⟨λ_ _ h=>h,rfl,λ_ ch h=>⟨ch,h,Nat.le_refl _,λ_=>⟨rfl,rfl⟩⟩⟩
theorem Ctx.Ext.trans {R R' R'':Ctx} (h:R.Ext R') (h':R'.Ext R''):R.Ext R'':=by
 refine ⟨λb o hb=>h'.F _ _ (h.F _ _ hb),h'.U.trans h.U,λc ch hc=> ?_⟩
 obtain ⟨ch1,h1,e1,s1⟩:=h.ch c ch hc
 obtain ⟨ch2,h2,e2,s2⟩:=h'.ch c ch1 h1
 refine ⟨ch2,h2,Nat.le_trans e1 e2,λe=> ?_⟩
 have e3:ch.ep=ch1.ep:=by omega
 have e4:ch1.ep=ch2.ep:=by omega
 exact ⟨(s2 e4).1.trans (s1 e3).1,(s2 e4).2.trans (s1 e3).2⟩
section
variable {R R':Ctx} (hx:R.Ext R')
include hx
theorem Ctx.ajH {c e off len:Nat} {v:Value} (h:R.part c e off len v):R'.part c e off len v:=by
 obtain ⟨ch,hc,hle,h⟩:=h
 obtain ⟨ch',hc',hle',hs⟩:=hx.ch c ch hc
 refine ⟨ch',hc',Nat.le_trans hle hle',λhe=> ?_⟩
 have e1:e=ch.ep:=by omega
 obtain ⟨hsh,hσ⟩:=hs (by omega)
 obtain ⟨h1,h2,ad,cap,h3,h4,h5⟩:=h e1
 rw [hsh,hσ]
 exact ⟨h1,h2,ad,cap,h3,h4,h5⟩
theorem Ctx.aue {c e:Nat} {v:Value} (h:R.own c e v):R'.own c e v:=by
 obtain ⟨ch,hc,hle,h⟩:=h
 obtain ⟨ch',hc',hle',hs⟩:=hx.ch c ch hc
 refine ⟨ch',hc',Nat.le_trans hle hle',λhe=> ?_⟩
 have e1:e=ch.ep:=by omega
 rw [(hs (by omega)).1]
 exact Ctx.ajH hx (h e1)
theorem Ctx.aBR {c e:Nat} {v:Value} (h:R.clip c e v):R'.clip c e v:=by
 refine ⟨Ctx.aue hx h.1,λch' hc' he=> ?_⟩
 obtain ⟨ch,hc,hle,_⟩:=h.1
 obtain ⟨ch2,hc2,hle',hs⟩:=hx.ch c ch hc
 obtain rfl:ch2=ch':=by rw [hc'] at hc2;exact (Option.some.inj hc2).symm
 exact h.2 ch hc (by omega)
theorem Ctx.aFW {c e i off:Nat} {v:Value} (h:R.ptr c e i off v):R'.ptr c e i off v:=by
 obtain ⟨ch,hc,hle,h⟩:=h
 obtain ⟨ch',hc',hle',hs⟩:=hx.ch c ch hc
 refine ⟨ch',hc',Nat.le_trans hle hle',λhe=> ?_⟩
 have e1:e=ch.ep:=by omega
 obtain ⟨hsh,hσ⟩:=hs (by omega)
 rw [hsh,hσ]
 exact h e1
end
mutual
theorem SV.Tp {R R':Ctx} (hx:R.Ext R'):∀ (x:SV) (v:Value),SV.rel R x v->SV.rel R' x v
 |.bool _,_,h=>by simpa only [SV.rel] using h
 |.u64 _,_,h=>by simpa only [SV.rel] using h
 |.u8 _,_,h=>by simpa only [SV.rel] using h
 |.int _,_,h=>by simpa only [SV.rel] using h
 |.str _,_,h=>by simpa only [SV.rel] using h
 |.lst t xs,v,h=>by simp only [SV.rel] at h⊢;exact cn hx.F _ _ _ h
 |.own c e,v,h=>by simp only [SV.rel] at h⊢;exact ⟨h.1,Ctx.aue hx h.2⟩
 |.part c e off len,v,h=>by simp only [SV.rel] at h⊢;exact ⟨h.1,Ctx.ajH hx h.2⟩
 |.clip c e,v,h=>by simp only [SV.rel] at h⊢;exact ⟨h.1,Ctx.aBR hx h.2⟩
 |.emp,_,h=>by simpa only [SV.rel] using h
 |.ptr c e i off,v,h=>by simp only [SV.rel] at h⊢;exact ⟨h.1,Ctx.aFW hx h.2⟩
 |.akV t xs i off,v,h=>by
  simp only [SV.rel] at h⊢
  obtain ⟨h0,b,o,arr,E,fz,h1,h2,h3,h4⟩:=h
  exact ⟨h0,b,o,arr,E,fz,h1,hx.F _ _ h2,h3,cn hx.F _ _ _ h4⟩
 |.rb,_,h=>by simpa only [SV.rel] using h
 |.aCq,_,h=>by simpa only [SV.rel] using h
 |.aHI t xs,v,h=>by
  simp only [SV.rel] at h⊢
  obtain ⟨h0,h0',b,o,arr,E,fz,h1,h2,h3,h4⟩:=h
  exact ⟨h0,h0',b,o,arr,E,fz,h1,hx.F _ _ h2,h3,λi hi=>cn hx.F _ _ _ (h4 i hi)⟩
 |.fn f first caps,v,h=>by
  simp only [SV.rel] at h⊢
  obtain ⟨l1,l2,h1,h2,h3⟩:=h
  exact ⟨l1,l2,h1,SV.dN hx first l1 h2,SV.dN hx caps l2 h3⟩
 |.iface t x,v,h=>by
  simp only [SV.rel] at h⊢
  obtain ⟨y,h1,h2⟩:=h
  exact ⟨y,h1,SV.Tp hx x y h2⟩
 |.eF,_,h=>by simpa only [SV.rel] using h
 |.agg l,v,h=>by
  simp only [SV.rel] at h⊢
  obtain ⟨vs,h1,h2,h3⟩:=h
  exact ⟨vs,h1,SV.dN hx l vs h2,h3⟩
 |.tup l,v,h=>by
  simp only [SV.rel] at h⊢
  obtain ⟨vs,h1,h2⟩:=h
  exact ⟨vs,h1,SV.dN hx l vs h2⟩
 |.undef,_,h=>by simpa only [SV.rel] using h
 |.bT,_,_=>by simp only [SV.rel]
theorem SV.dN {R R':Ctx} (hx:R.Ext R'):∀ (l:List SV) (vs:List Value),SV.bV R l vs->SV.bV R' l vs
 | [],_,h=>by simpa only [SV.bV] using h
 |x::l,vs,h=>by
  simp only [SV.bV] at h⊢
  obtain ⟨v,r,h1,h2,h3⟩:=h
  exact ⟨v,r,h1,SV.Tp hx x v h2,SV.dN hx l r h3⟩
end
theorem SV.aV {R:Ctx}:∀ {l:List SV} {vs:List Value},SV.bV R l vs->vs.length=l.length
 | [],vs,h=>by simp only [SV.bV] at h;simp [h]
 |x::l,vs,h=>by
  simp only [SV.bV] at h
  obtain ⟨v,r,h1,_,h3⟩:=h
  simp [h1,SV.aV h3]
theorem SV.m8 {R:Ctx}:∀ {l:List SV} {vs:List Value},SV.bV R l vs->∀ i (h:i<l.length) (h':i<vs.length),SV.rel R l[i] vs[i]
 | [],vs,h,i,hi,_=>by simp at hi
 |x::l,vs,h,i,hi,hi'=>by
  simp only [SV.bV] at h
  obtain ⟨v,r,h1,h2,h3⟩:=h
  subst h1
  cases i with
  |zero=>exact h2
  |succ i=>exact SV.m8 h3 i (by simpa using hi) (by simpa using hi')
theorem SV.sQ {R:Ctx}:∀ {l:List SV} {vs:List Value},vs.length=l.length->(∀ i (h:i<l.length) (h':i<vs.length),SV.rel R l[i] vs[i])->SV.bV R l vs
 | [],vs,h,_=>by simp only [SV.bV];exact List.eq_nil_of_length_eq_zero h
 |x::l,[],h,_=>by simp at h
 |x::l,v::r,h,hh=>by
  simp only [SV.bV]
  exact ⟨v,r,rfl,hh 0 (by simp) (by simp),SV.sQ (by simpa using h) λi h1 h2=>hh (i+1) (Nat.succ_lt_succ h1) (Nat.succ_lt_succ h2)⟩
theorem SV.Tq {R:Ctx} {l:List SV} {vs:List Value}:SV.bV R l vs ↔ vs.length=l.length/\∀ i (h:i<l.length) (h':i<vs.length),SV.rel R l[i] vs[i]:=
 ⟨λh=>⟨SV.aV h,SV.m8 h⟩,λh=>SV.sQ h.1 h.2⟩
theorem SV.ai6 {R:Ctx} {l:List SV} {vs:List Value} (h:SV.bV R l vs) (d:Nat) {x:SV} {v:Value} (hx:SV.rel R x v):SV.bV R (l.set d x) (vs.set d v):=by
 rw [SV.Tq] at h⊢
 refine ⟨by simpa using h.1,λi h1 h2=> ?_⟩
 by_cases e:d=i
 ·subst e;simpa using hx
 ·simp only [List.getElem_set_ne e]
  exact h.2 i (by simpa using h1) (by simpa using h2)
theorem SV.cq {R:Ctx}:∀ {l l':List SV} {vs vs':List Value},SV.bV R l vs->SV.bV R l' vs'->SV.bV R (l++l') (vs++vs')
 | [],l',vs,vs',h,h'=>by simp only [SV.bV] at h;subst h;simpa using h'
 |x::l,l',vs,vs',h,h'=>by
  simp only [SV.bV] at h
  obtain ⟨v,r,h1,h2,h3⟩:=h
  subst h1
  simp only [List.cons_append,SV.bV]
  exact ⟨v,r++vs',rfl,h2,SV.cq h3 h'⟩
theorem SV.du {R:Ctx} {l:List SV} {vs:List Value} (h:SV.bV R l vs) (n:Nat):SV.bV R (l.take n) (vs.take n):=by
 rw [SV.Tq] at h⊢
 refine ⟨by simp [h.1],λi h1 h2=> ?_⟩
 simp only [List.getElem_take]
 exact h.2 i (by simp at h1;omega) (by simp at h2;omega)
theorem SV.dv {R:Ctx} {l:List SV} {vs:List Value} (h:SV.bV R l vs) (n:Nat):SV.bV R (l.drop n) (vs.drop n):=by
 rw [SV.Tq] at h⊢
 refine ⟨by simp [h.1],λi h1 h2=> ?_⟩
 simp only [List.getElem_drop]
 exact h.2 (n+i) (by simp at h1;omega) (by simp at h2;omega)
end Sx
end Go.Proofs.YtohjofabochgfaaGreat

namespace Go.Proofs.YtohjofabochgfaaGreat
namespace Sx
open Go
theorem gp {l:List Value} {off n:Nat} (h:off+n<=l.length):(seg l off n).length=n:=by
 simp only [seg,List.length_take,List.length_drop];omega
theorem Ej (l:List Value) (a b n m:Nat) (h:b+m<=n):seg (seg l a n) b m=seg l (a+b) m:=by
 simp only [seg,List.drop_take,List.take_take,List.drop_drop]
 rw [show min m (n-b)=m by omega]
theorem GV {P:Program} {w:World} {b o n:Nat} {arr:Array Value} {E:TypeId} {fz:Nat×Nat} (hb:w.heap[b]? =some (.cells arr E fz)) (hn:o+n<=arr.size):
 (Go.loadCells ⟨b,o,none⟩ n).run P w=.ok (seg arr.toList o n).toArray w:=by
 have hl:(seg arr.toList o n).length=n:=gp (by simpa using hn)
 have:=run_loadCells_list (P:=P) w ⟨b,o,none⟩ (seg arr.toList o n) (λj v hv=>by
  have hj:j<n:=by
   rw [<-hl]
   exact (List.getElem?_eq_some_iff.1 hv).1
  have hadd:(⟨b,o,none⟩:Addr).add j=⟨b,o+j,none⟩:=by unfold Addr.add;split<;>simp_all
  rw [hadd,cell_of_row w b (o+j) arr E fz hb]
  simp only [seg,List.getElem?_take,List.getElem?_drop,hj,if_true] at hv
  simpa using hv)
 rwa [hl] at this
theorem bg {R:Ctx} {x:SV} {v:Value} (h:SV.rel R x v):SV.bV R [x] [v]:=by
 simp only [SV.bV];exact ⟨v,[],rfl,h,rfl⟩
theorem vH {R:Ctx}:SV.bV R [] []:=by simp only [SV.bV]
theorem ng {α:Type} (f:Nat->List α) (n:Nat):(List.range (n+1)).flatMap f=(List.range n).flatMap f++f n:=by
 rw [List.range_succ,List.flatMap_append];simp
theorem vG {R:Ctx} {f:Nat->List SV} {cs:List Value} {s:Nat}:∀ (n:Nat) (_:n*s<=cs.length) (_:∀ i,i<n->SV.bV R (f i) (seg cs (i*s) s)),
 SV.bV R ((List.range n).flatMap f) (cs.take (n*s))
 |0,_,_=>by simpa using vH
 |n+1,hl,h=>by
  rw [ng]
  have ih:=vG n (by rw [Nat.succ_mul] at hl;omega) (λi hi=>h i (by omega))
  have hn:=h n (by omega)
  have e:cs.take ((n+1)*s)=cs.take (n*s)++seg cs (n*s) s:=by
   rw [Nat.succ_mul,List.take_add];rfl
  rw [e]
  exact SV.cq ih hn
theorem eJ {R:Ctx}:∀ (t:Ty) (x:t.T) (cs:List Value),Rep R.F t x cs->SV.bV R (unpack t x) cs
 |.bool,b,cs,h=>by simp only [Rep] at h;subst h;exact bg (by simp only [SV.rel])
 |.u64,b,cs,h=>by simp only [Rep] at h;subst h;exact bg (by simp only [SV.rel])
 |.u8,b,cs,h=>by simp only [Rep] at h;subst h;exact bg (by simp only [SV.rel])
 |.int,b,cs,h=>by simp only [Rep] at h;rw [h.1];exact bg (by simp only [SV.rel,true_and];exact h.2)
 |.str,b,cs,h=>by simp only [Rep] at h;rw [h.1];exact bg (by simp only [SV.rel,true_and];exact h.2)
 |.elem,e,cs,h=>by
  simp only [Rep] at h;subst h
  have one:∀ x:UInt64,SV.rel R (.u64 x) (iq x):=λx=>by simp only [SV.rel]
  exact SV.cq (bg (one _)) (SV.cq (bg (one _)) (SV.cq (bg (one _)) (bg (one _))))
 |.prod a b,x,cs,h=>by
  obtain ⟨h1,h2,h3⟩:=h
  have:=SV.cq (eJ a _ _ h2) (eJ b _ _ h3)
  rwa [List.take_append_drop] at this
 |.arr n t,l,cs,h=>by
  obtain ⟨h1,h2,h3⟩:=h
  have:=vG (R:=R) (f:=λi=>unpack t (l.getD i t.d)) (cs:=cs) (s:=t.size) n (by omega) (λi hi=>eJ t _ _ (h3 i hi))
  rw [<-h1,List.take_length] at this
  exact this
 |.list t,xs,cs,h=>by
  have h':=h
  obtain ⟨_,ad,cap,h1,_⟩:=h
  subst h1
  exact bg (by simp only [SV.rel];exact h')
theorem gn:∀ (t:Ty) (x:t.T),(unpack t x).length=t.size
 |.bool,_=>rfl
 |.u64,_=>rfl
 |.u8,_=>rfl
 |.int,_=>rfl
 |.str,_=>rfl
 |.elem,_=>rfl
 |.prod a b,x=>by simp only [unpack,List.length_append,gn a,gn b,Ty.size]
 |.arr n t,l=>by
  simp only [unpack,Ty.size]
  induction n with
  |zero=>simp
  |succ n ih=>rw [ng,List.length_append,ih,gn t,Nat.succ_mul]
 |.list t,xs=>rfl
theorem cH {hp:Hp} {c e:Nat} {b:Chunk} (h:eh hp c e=some b):hp c=some ⟨e,b⟩:=by
 unfold eh at h
 split at h
 ·rename_i ep b' hc
  split at h
  ·rename_i he
   cases h
   rw [hc,he]
  ·cases h
 ·cases h
theorem bt {t t':Ty} {xs:List t'.T} {ys:List t.T} (h:cp t t' xs=some ys):∃ e:t'=t,ys=e▸xs:=by
 unfold cp at h
 split at h
 ·rename_i e
  exact ⟨e,(Option.some.inj h).symm⟩
 ·cases h
theorem Ctx.dl {R:Ctx} {c e:Nat} {v:Value} {b:Chunk} (hc:R.hp c=some ⟨e,b⟩) (h:R.own c e v):R.part c e 0 b.shape.2.2 v:=by
 obtain ⟨ch,hc',hle,h⟩:=h
 rw [hc] at hc'
 cases Option.some.inj hc'
 exact h rfl
theorem Ctx.di {R:Ctx} {c e off len:Nat} {v:Value} {b:Chunk} (hc:R.hp c=some ⟨e,b⟩) (h:R.part c e off len v):
 b.shape.1=true/\off+len<=b.shape.2.2/\∃ ad cap,v=.slice ad len cap/\len<=cap/\
  match R.σ c with
  |some L=>(off+cap)*b.shape.2.1<=L.lim/\(0<cap->ad=some ⟨L.block,L.base+off*b.shape.2.1,none⟩)
  |none=>cap=0:=by
 obtain ⟨ch,hc',hle,h⟩:=h
 rw [hc] at hc'
 cases Option.some.inj hc'
 exact h rfl
theorem uX {F:Nat->Option Obj} (t:Ty) (ad:Option Addr) (cap:Nat):Rep F (.list t) ([]:List t.T) [.slice ad 0 cap]:=by
 refine ⟨by simp,ad,cap,rfl,Nat.zero_le _,.inl rfl⟩
theorem asC {R:Ctx} {w:World} (hm:dt R w) {t:Ty} {x:SV} {xs:List t.T} {v:Value} (h:af6 t R.hp x=some xs) (hx:SV.rel R x v):
 Rep R.F (.list t) xs [v]:=by
 unfold af6 at h
 split at h
 ·obtain ⟨e,rfl⟩:=bt h
  subst e
  simpa only [SV.rel] using hx
 ·cases h
  simp only [SV.rel] at hx
  obtain ⟨ad,rfl⟩:=hx
  exact uX t ad 0
 ·rename_i c e
  split at h
  ·rename_i ep t' xs' hc
   split at h
   ·rename_i he
    subst he
    obtain ⟨e,rfl⟩:=bt h
    subst e
    simp only [SV.rel] at hx
    obtain ⟨_,h2,ad,cap,rfl,h4,h5⟩:=Ctx.di hc (Ctx.dl hc hx.2)
    have hch:=hm.ch c _ hc
    simp only [eV] at hch
    obtain ⟨hs,hl,hch⟩:=hch
    refine ⟨hl,ad,cap,rfl,h4,?_⟩
    cases hσ:R.σ c with
    |none=>
     rw [hσ] at hch
     exact .inl hch
    |some L=>
     rw [hσ] at hch h5
     obtain ⟨arr,E,fz,h6,h7,h8,h9⟩:=hch
     by_cases hn:xs'= []
     ·exact .inl hn
     ·have hpos:0<cap:=by
       have:0<xs'.length:=List.length_pos_iff.2 hn
       exact Nat.lt_of_lt_of_le this h4
      refine .inr ⟨L.block,L.base,arr,E,fz,?_,h6,by rw [h7];exact Nat.add_le_add_left h8 _,h9⟩
      rw [h5.2 hpos]
      simp
   ·cases h
  ·cases h
 ·rename_i c e off len
  split at h
  ·rename_i ep t' xs' hc
   split at h
   ·rename_i he
    subst he
    obtain ⟨l,hl,rfl⟩:=Option.map_eq_some_iff.1 h
    obtain ⟨e,rfl⟩:=bt hl
    subst e
    simp only [SV.rel] at hx
    obtain ⟨_,h2,ad,cap,rfl,h4,h5⟩:=Ctx.di hc hx.2
    have h2:off+len<=xs'.length:=h2
    have hch:=hm.ch c _ hc
    simp only [eV] at hch
    obtain ⟨hs,hl2,hch⟩:=hch
    have hlen:((xs'.drop off).take len).length=len:=by rw [List.length_take,List.length_drop];omega
    refine ⟨by rw [hlen];omega,ad,cap,by rw [hlen],by rw [hlen];exact h4,?_⟩
    cases hσ:R.σ c with
    |none=>
     rw [hσ] at h5
     have h5:cap=0:=h5
     exact .inl (List.eq_nil_of_length_eq_zero (hlen.trans (by omega)))
    |some L=>
     rw [hσ] at hch h5
     obtain ⟨arr,E,fz,h6,h7,h8,h9⟩:=hch
     by_cases hn:len=0
     ·exact .inl (List.eq_nil_of_length_eq_zero (hlen.trans hn))
     ·refine .inr ⟨L.block,L.base+off*t'.size,arr,E,fz,h5.2 (by omega),h6,?_,λi hi=> ?_⟩
      ·rw [hlen,h7,Nat.add_assoc,<-Nat.add_mul]
       exact Nat.add_le_add_left (Nat.le_trans (Nat.mul_le_mul_right _ h2) h8) _
      ·rw [hlen] at hi
       have h10:=h9 (off+i) (by omega)
       have e1:((xs'.drop off).take len).getD i t'.d=xs'.getD (off+i) t'.d:=by
        rw [List.getD_eq_getElem?_getD,List.getD_eq_getElem?_getD,List.getElem?_take_of_lt hi,List.getElem?_drop]
       rw [e1,Nat.add_assoc,<-Nat.add_mul]
       exact h10
   ·cases h
  ·cases h
 ·cases h
theorem tN {α β:Type} (d:β) {f:α->Option β}:∀ {l:List α} {r:List β},l.mapM f=some r->r.length=l.length/\∀ i (h:i<l.length),f l[i]=some (r.getD i d)
 | [],r,h=>by simp at h;subst h;simp
 |x::l,r,h=>by
  simp only [List.mapM_cons,Option.pure_def,Option.bind_eq_bind] at h
  cases hx:f x with
  |none=>rw [hx] at h;cases h
  |some y=>
   rw [hx] at h
   cases hl:l.mapM f with
   |none=>rw [hl] at h;cases h
   |some ys=>
    rw [hl] at h
    simp only [Option.bind_some,Option.some.injEq] at h
    subst h
    obtain ⟨h1,h2⟩:=tN d hl
    refine ⟨by simp [h1],λi hi=> ?_⟩
    cases i with
    |zero=>simpa using hx
    |succ i=>simpa using h2 i (by simpa using hi)
theorem Q5 {cs:List SV} {b:Bool} (h:auc cs=some b):cs= [.bool b]:=by
 unfold auc at h;split at h<;>simp_all
theorem Za {cs:List SV} {b:UInt64} (h:aIN cs=some b):cs= [.u64 b]:=by
 unfold aIN at h;split at h<;>simp_all
theorem ajJ {cs:List SV} {b:UInt8} (h:pU8 cs=some b):cs= [.u8 b]:=by
 unfold pU8 at h;split at h<;>simp_all
theorem Zc {cs:List SV} {b:Int} (h:aIQ cs=some b):cs= [.int b]:=by
 unfold aIQ at h;split at h<;>simp_all
theorem Zb {cs:List SV} {b:List UInt8} (h:aIO cs=some b):cs= [.str b]:=by
 unfold aIO at h;split at h<;>simp_all
theorem Q4 {cs:List SV} {b:aa} (h:aub cs=some b):cs= [.u64 b.w0,.u64 b.w1,.u64 b.w2,.u64 b.w3]:=by
 unfold aub at h;split at h
 ·cases h;rfl
 ·cases h
theorem pc {α:Type} {f:SV->Option α} {cs:List SV} {b:α} (h:aCV f cs=some b):∃ x,cs= [x]/\f x=some b:=by
 unfold aCV at h;split at h
 ·exact ⟨_,rfl,h⟩
 ·cases h
theorem bn {α β:Type} {x:Option α} {y:Option β} {z:α×β} (h:q9 x y=some z):x=some z.1/\y=some z.2:=by
 unfold q9 at h;split at h
 ·cases h;exact ⟨rfl,rfl⟩
 ·cases h
theorem cJ {R:Ctx} {x:SV} {vs:List Value} (h:SV.bV R [x] vs):∃ v,vs= [v]/\SV.rel R x v:=by
 simp only [SV.bV] at h
 obtain ⟨v,r,rfl,h,rfl⟩:=h
 exact ⟨v,rfl,h⟩
theorem gR {R:Ctx} {w:World} (hm:dt R w):∀ (t:Ty) (cs:List SV) (x:t.T) (vs:List Value),pack R.hp t cs=some x->SV.bV R cs vs->Rep R.F t x vs
 |.bool,cs,x,vs,h,hr=>by
  rw [Q5 h] at hr
  obtain ⟨v,rfl,hv⟩:=cJ hr
  simp only [SV.rel] at hv;subst hv;rfl
 |.u64,cs,x,vs,h,hr=>by
  rw [Za h] at hr
  obtain ⟨v,rfl,hv⟩:=cJ hr
  simp only [SV.rel] at hv;subst hv;rfl
 |.u8,cs,x,vs,h,hr=>by
  rw [ajJ h] at hr
  obtain ⟨v,rfl,hv⟩:=cJ hr
  simp only [SV.rel] at hv;subst hv;rfl
 |.int,cs,x,vs,h,hr=>by
  rw [Zc h] at hr
  obtain ⟨v,rfl,hv⟩:=cJ hr
  simp only [SV.rel] at hv;obtain ⟨rfl,hb⟩:=hv;exact ⟨rfl,hb⟩
 |.str,cs,x,vs,h,hr=>by
  rw [Zb h] at hr
  obtain ⟨v,rfl,hv⟩:=cJ hr
  simp only [SV.rel] at hv;obtain ⟨rfl,hb⟩:=hv;exact ⟨rfl,hb⟩
 |.elem,cs,x,vs,h,hr=>by
  rw [Q4 h] at hr
  simp only [SV.bV,SV.rel] at hr
  obtain ⟨v,r,rfl,rfl,v,r,rfl,rfl,v,r,rfl,rfl,v,r,rfl,rfl,rfl⟩:=hr
  rfl
 |.prod a b,cs,x,vs,h,hr=>by
  obtain ⟨h1,h2⟩:=bn h
  have r1:=gR hm a _ _ _ h1 (SV.du hr a.size)
  have r2:=gR hm b _ _ _ h2 (SV.dv hr a.size)
  refine ⟨?_,r1,r2⟩
  rw [<-List.take_append_drop a.size vs,List.length_append,xD _ _ _ r1,xD _ _ _ r2]
 |.arr n t,cs,x,vs,h,hr=>by
  simp only [pack] at h
  split at h
  ·rename_i hl
   obtain ⟨h1,h2⟩:=tN t.d h
   refine ⟨by rw [SV.aV hr,hl],by simpa using h1,λi hi=> ?_⟩
   have:=h2 i (by simpa using hi)
   simp only [List.getElem_range] at this
   exact gR hm t _ _ _ this (SV.du (SV.dv hr (i*t.size)) t.size)
  ·cases h
 |.list t,cs,x,vs,h,hr=>by
  obtain ⟨y,rfl,hy⟩:=pc h
  obtain ⟨v,rfl,hv⟩:=cJ hr
  exact asC hm hy hv
end Sx
end Go.Proofs.YtohjofabochgfaaGreat

namespace Go.Proofs.YtohjofabochgfaaGreat
namespace Sx
open Go
theorem OT.aJ {α:Type} {b:Bool} {x:OT α} {a:α} (h:(OT.guard b x).run=some a):b=true/\x.run=some a:=by
 cases b
 ·cases h
 ·exact ⟨rfl,h⟩
theorem OT.run_map {α β:Type} {f:α->β}:∀ {t:OT α} {b:β},(t.map f).run=some b->∃ a,t.run=some a/\b=f a
 |.ok a,b,h=>⟨a,rfl,(Option.some.inj h).symm⟩
 |.br c x y,b,h=>by
  cases c
  ·exact OT.run_map (t:=y) h
  ·exact OT.run_map (t:=x) h
 |.fail,b,h=>by cases h
def Wk (R:Ctx) (arr:Array Value) (base:Nat) (t:Ty) (xs:List t.T):Prop:=
 ∀ i,i<xs.length->Rep R.F t (xs.getD i t.d) (seg arr.toList (base+i*t.size) t.size)
theorem P4 {R:Ctx} {arr:Array Value} {base:Nat} {t:Ty} {xs:List t.T} (h:Wk R arr base t xs) {i m:Nat} (hm:m+i<=xs.length) (hb:base+xs.length*t.size<=arr.size):
 SV.bV R (akj t xs i m) (seg arr.toList (base+i*t.size) (m*t.size)):=by
 have hle:(m+i)*t.size<=xs.length*t.size:=Nat.mul_le_mul_right _ hm
 rw [Nat.add_mul] at hle
 have hlen:(seg arr.toList (base+i*t.size) (m*t.size)).length=m*t.size:=gp (by simp;omega)
 have:=vG (R:=R) (f:=λj=>unpack t (xs.getD (j+i) t.d)) (cs:=seg arr.toList (base+i*t.size) (m*t.size)) (s:=t.size) m (by omega) (λj hj=>by
  have hj1:(j+1)*t.size<=m*t.size:=Nat.mul_le_mul_right _ hj
  rw [Nat.succ_mul] at hj1
  rw [Ej _ _ _ _ _ hj1]
  have:=eJ t _ _ (h (j+i) (by omega))
  rw [Nat.add_mul] at this
  rwa [show base+i*t.size+j*t.size=base+(j*t.size+i*t.size) by omega])
 rw [List.take_of_length_le (Nat.le_of_eq hlen)] at this
 exact this
theorem asA {R:Ctx} {arr:Array Value} {o n off:Nat} {t:Ty} {x:t.T} (h:Rep R.F t x (seg arr.toList o t.size)) (hn:off+n<=t.size):
 SV.bV R (((unpack t x).drop off).take n) (seg arr.toList (o+off) n):=by
 have:=SV.du (SV.dv (eJ t _ _ h) off) n
 rwa [show ((seg arr.toList o t.size).drop off).take n=seg (seg arr.toList o t.size) off n from rfl,Ej _ _ _ _ _ hn] at this
theorem Q9 {R:Ctx} {arr:Array Value} {o n off:Nat} {t:Ty} {x:t.T} (h:Rep R.F t x (seg arr.toList o t.size)) (hn:off+n<=t.size):
 ∀ u ∈ seg arr.toList (o+off) n,u.oneCell'=true:=λu hu=>by
 rw [<-Ej _ _ _ _ _ hn] at hu
 exact rM t _ _ h u (AX hu)
theorem Fo {R:Ctx} {arr:Array Value} {base:Nat} {t:Ty} {xs:List t.T} (h:Wk R arr base t xs) (hs:0<t.size) {i m:Nat} (hm:m+i<=xs.length):
 ∀ u ∈ seg arr.toList (base+i*t.size) (m*t.size),u.oneCell'=true:=λu hu=>by
 obtain ⟨j,hj,rfl⟩:=List.getElem_of_mem hu
 have hjn:j<m*t.size:=by simp only [seg,List.length_take] at hj;omega
 have hi:j/t.size<m:=by rw [Nat.div_lt_iff_lt_mul hs];exact hjn
 have hmod:=Nat.mod_lt j hs
 have hdm:=Nat.div_add_mod j t.size
 have hr:=h (j/t.size+i) (by omega)
 refine rM t _ _ hr _ ?_
 rw [List.mem_iff_getElem]
 simp only [seg,List.length_take,List.length_drop] at hj⊢
 rw [Nat.add_mul]
 rw [Nat.mul_comm] at hdm
 refine ⟨j%t.size,by omega,?_⟩
 simp only [List.getElem_take,List.getElem_drop]
 congr 1
 omega
def Found (R:Ctx) (w:World) (v:Value) (n:Nat) (cs:List SV):Prop:=
 ∃ b o arr E fz,v=.pointer (some ⟨b,o,none⟩)/\w.heap[b]? =some (.cells arr E fz)/\o+n<=arr.size/\SV.bV R cs (seg arr.toList o n)/\∀ u ∈ seg arr.toList o n,u.oneCell'=true
theorem ZP {R:Ctx} {w:World} {i off n:Nat} {v:Value} {cs:List SV} {t:Ty} {xs:List t.T} {L:Loc} {arr:Array Value} {E:TypeId} {fz:Nat×Nat} (hs:0<t.size)
 (hv:v=.pointer (some ⟨L.block,L.base+(i*t.size+off),none⟩)) (hb:w.heap[L.block]? =some (.cells arr E fz)) (ha:arr.size=L.base+L.lim)
 (hl:xs.length*t.size<=L.lim) (hrow:Wk R arr L.base t xs)
 (h:(if off+n<=t.size then OT.guard (decide (i<xs.length)) (.ok (((unpack t (xs.getD i t.d)).drop off).take n))
  else if off=0/\n/t.size*t.size=n then OT.guard (decide (n/t.size+i<=xs.length)) (.ok (akj t xs i (n/t.size)))
  else .fail).run=some cs):Found R w v n cs:=by
 split at h
 ·rename_i hle
  obtain ⟨h1,h2⟩:=OT.aJ h
  have hi:i<xs.length:=by simpa using h1
  cases h2
  have hr:=hrow i hi
  have hle2:(i+1)*t.size<=xs.length*t.size:=Nat.mul_le_mul_right _ hi
  rw [Nat.succ_mul] at hle2
  refine ⟨L.block,L.base+(i*t.size+off),arr,E,fz,hv,hb,by omega,?_,?_⟩
  ·have:=asA hr hle
   rwa [Nat.add_assoc] at this
  ·have:=Q9 hr hle
   rwa [Nat.add_assoc] at this
 ·split at h
  ·rename_i hle hc
   obtain ⟨h0,hn⟩:=hc
   obtain ⟨h1,h2⟩:=OT.aJ h
   have hi:n/t.size+i<=xs.length:=by simpa using h1
   cases h2
   subst h0
   have hle2:(n/t.size+i)*t.size<=xs.length*t.size:=Nat.mul_le_mul_right _ hi
   rw [Nat.add_mul,hn] at hle2
   refine ⟨L.block,L.base+(i*t.size+0),arr,E,fz,hv,hb,by omega,?_,?_⟩
   ·have:=P4 hrow hi (by omega)
    rwa [hn] at this
   ·have:=Fo hrow hs hi
    rwa [hn] at this
  ·cases h
theorem LO {R:Ctx} {w:World} (hm:dt R w) {n:Nat} {x:SV} {v:Value} {cs:List SV} (hx:SV.rel R x v) (h:(Sx.loadCells R.hp n x).run=some cs):Found R w v n cs:=by
 unfold Sx.loadCells at h
 split at h
 ·rename_i c e i off
  simp only [SV.rel] at hx
  replace hx:=hx.2
  split at h
  ·rename_i vs hc
   have hc:=cH hc
   split at h
   ·rename_i hcond
    obtain ⟨h0,h1⟩:=hcond
    cases h
    obtain ⟨ch,hc',_,hp⟩:=hx
    rw [hc] at hc'
    cases Option.some.inj hc'
    obtain ⟨L,hσ,rfl⟩:=hp rfl
    have hch:=hm.ch c _ hc
    simp only [eV] at hch
    obtain ⟨L',hσ',_,_,arr,E,hb,ha,hlim,hrel,hone⟩:=hch
    rw [hσ] at hσ'
    cases Option.some.inj hσ'
    subst h0
    refine ⟨L.block,L.base+off,arr,E,(0,0),by simp,hb,by omega,?_,λu hu=>hone u (AX hu)⟩
    have:=SV.du (SV.dv hrel off) n
    rwa [List.drop_drop] at this
   ·cases h
  ·rename_i t xs hc
   have hc:=cH hc
   obtain ⟨ch,hc',_,hp⟩:=hx
   rw [hc] at hc'
   cases Option.some.inj hc'
   obtain ⟨L,hσ,hv⟩:=hp rfl
   have hch:=hm.ch c _ hc
   simp only [eV,hσ] at hch
   obtain ⟨hs,_,_,_,arr,E,hb,ha,hl,hrow⟩:=hch
   exact ZP hs hv hb ha hl hrow h
  ·rename_i t xs hc
   have hc:=cH hc
   obtain ⟨ch,hc',_,hp⟩:=hx
   rw [hc] at hc'
   cases Option.some.inj hc'
   obtain ⟨L,hσ,hv⟩:=hp rfl
   have hch:=hm.ch c _ hc
   simp only [eV,hσ] at hch
   obtain ⟨hs,_,arr,E,fz,hb,ha,hl,hrow⟩:=hch
   exact ZP hs hv (hm.F _ _ hb) ha hl hrow h
  ·cases h
 ·rename_i t xs i off
  simp only [SV.rel] at hx
  obtain ⟨hi,b,o,arr,E,fz,rfl,hF,hsz,hr⟩:=hx
  split at h
  ·rename_i hle
   cases h
   refine ⟨b,o+off,arr,E,fz,rfl,hm.F _ _ hF,by omega,asA hr hle,Q9 hr hle⟩
  ·cases h
 ·rename_i t xs
  simp only [SV.rel] at hx
  obtain ⟨_,hs,b,o,arr,E,fz,rfl,hF,hsz,hr⟩:=hx
  split at h
  ·rename_i hn
   obtain ⟨h1,h2⟩:=OT.aJ h
   have hi:n/t.size+0<=xs.length:=by simpa using h1
   cases h2
   have hle2:(n/t.size+0)*t.size<=xs.length*t.size:=Nat.mul_le_mul_right _ hi
   rw [Nat.add_mul,hn] at hle2
   have hrow:Wk R arr o t xs:=hr
   refine ⟨b,o,arr,E,fz,rfl,hm.F _ _ hF,by omega,?_,?_⟩
   ·have:=P4 hrow hi (by omega)
    rw [hn,Nat.zero_mul,Nat.add_zero] at this
    exact this
   ·have:=Fo hrow hs hi
    rw [hn,Nat.zero_mul,Nat.add_zero] at this
    exact this
  ·cases h
 ·cases h
theorem Xl {P:Program} {w:World} {b o:Nat} {arr:Array Value} {E:TypeId} {fz:Nat×Nat} (hb:w.heap[b]? =some (.cells arr E fz)) (hn:o+1<=arr.size):
 (load ⟨b,o,none⟩).run P w=.ok arr[o] w:=by
 have hc:w.cell? ⟨b,o,none⟩=some arr[o]:=by
  rw [cell_of_row w b o arr E fz hb]
  exact Array.getElem?_eq_getElem (by omega)
 rw [run_load,hc]
theorem aFi {arr:Array Value} {o:Nat} (h:o+1<=arr.size):seg arr.toList o 1= [arr[o]]:=by
 unfold seg
 rw [List.drop_eq_getElem_cons (by simp;omega)]
 simp
theorem auD {R:Ctx} {cs:List SV} {arr:Array Value} {o:Nat} (hn:o+1<=arr.size) (h:SV.bV R cs (seg arr.toList o 1)):SV.rel R (sr false cs) arr[o]:=by
 rw [aFi hn] at h
 simp only [sr]
 cases cs with
 |nil=>simp only [SV.bV] at h;cases h
 |cons x l=>
  simp only [SV.bV] at h
  obtain ⟨v,r,h1,h2,_⟩:=h
  cases h1
  simpa using h2
theorem B5 {R:Ctx} {cs:List SV} {vs:List Value} (h:SV.bV R cs vs) (h1:∀ u ∈ vs,u.oneCell'=true):SV.rel R (sr true cs) (.agg vs.toArray):=by
 simp only [sr,if_true,SV.rel]
 exact ⟨vs,rfl,h,h1⟩
end Sx
end Go.Proofs.YtohjofabochgfaaGreat

namespace Go.Proofs.YtohjofabochgfaaGreat
namespace Sx
open Go
theorem asB {R:Ctx}:∀ {x:SV} {v:Value},SV.rel R x v->x.one=true->v.oneCell'=true
 |.bool _,_,h,_=>by simp only [SV.rel] at h;subst h;rfl
 |.u64 _,_,h,_=>by simp only [SV.rel] at h;subst h;rfl
 |.u8 _,_,h,_=>by simp only [SV.rel] at h;subst h;rfl
 |.int _,_,h,_=>by simp only [SV.rel] at h;rw [h.1];rfl
 |.str _,_,h,_=>by simp only [SV.rel] at h;rw [h.1];rfl
 |.lst t xs,v,h,_=>by simp only [SV.rel] at h;exact rM _ _ _ h v (by simp)
 |.own ..,_,h,_=>by simp only [SV.rel] at h;exact h.1
 |.part ..,_,h,_=>by simp only [SV.rel] at h;exact h.1
 |.clip ..,_,h,_=>by simp only [SV.rel] at h;exact h.1
 |.emp,_,h,_=>by simp only [SV.rel] at h;obtain ⟨ad,rfl⟩:=h;rfl
 |.ptr ..,_,h,_=>by simp only [SV.rel] at h;obtain ⟨⟨ad,rfl⟩,_⟩:=h;rfl
 |.akV ..,_,h,_=>by simp only [SV.rel] at h;obtain ⟨_,b,o,arr,E,fz,rfl,_⟩:=h;rfl
 |.rb,_,h,_=>by simp only [SV.rel] at h;subst h;rfl
 |.aCq,_,h,_=>by simp only [SV.rel] at h;obtain ⟨b,rfl⟩:=h;rfl
 |.aHI ..,_,h,_=>by simp only [SV.rel] at h;obtain ⟨_,_,b,o,arr,E,fz,rfl,_⟩:=h;rfl
 |.fn ..,_,h,_=>by simp only [SV.rel] at h;obtain ⟨l1,l2,rfl,_⟩:=h;rfl
 |.iface ..,_,h,_=>by simp only [SV.rel] at h;obtain ⟨y,rfl,_⟩:=h;rfl
 |.eF,_,h,_=>by simp only [SV.rel] at h;subst h;rfl
 |.agg _,_,_,h=>by cases h
 |.tup _,_,_,h=>by cases h
 |.undef,_,_,h=>by cases h
 |.bT,_,_,h=>by cases h
theorem yY {R:Ctx}:∀ {l:List SV} {vs:List Value},SV.bV R l vs->l.all SV.one=true->∀ u ∈ vs,u.oneCell'=true
 | [],vs,h,_,u,hu=>by simp only [SV.bV] at h;subst h;cases hu
 |x::l,vs,h,ha,u,hu=>by
  simp only [SV.bV] at h
  obtain ⟨v,r,rfl,h2,h3⟩:=h
  simp only [List.all_cons,Bool.and_eq_true] at ha
  rcases List.mem_cons.1 hu with rfl|hu
  ·exact asB h2 ha.1
  ·exact yY h3 ha.2 u hu
theorem iw (A vs:List Value) (p a n:Nat) (h:p+vs.length<=A.length) (hd:a+n<=p\/p+vs.length<=a):
 seg (A.take p++vs++A.drop (p+vs.length)) a n=seg A a n:=by
 apply List.ext_getElem?
 intro j
 simp only [seg,List.getElem?_take,List.getElem?_drop]
 by_cases hj:j<n
 ·simp only [hj,if_true]
  rcases hd with hd|hd
  ·rw [List.append_assoc,List.getElem?_append_left (by simp;omega),List.getElem?_take_of_lt (by omega)]
  ·rw [List.getElem?_append_right (by simp;omega),List.getElem?_drop]
   congr 1
   simp;omega
 ·simp [hj]
theorem Xi (A vs:List Value) (p a n:Nat) (h:p+vs.length<=A.length) (h1:a<=p) (h2:p+vs.length<=a+n):
 seg (A.take p++vs++A.drop (p+vs.length)) a n=(seg A a n).take (p-a)++vs++(seg A a n).drop (p-a+vs.length):=by
 apply List.ext_getElem?
 intro j
 simp only [seg,List.getElem?_take,List.getElem?_drop]
 by_cases hj:j<n
 ·simp only [hj,if_true]
  by_cases c1:a+j<p
  ·rw [List.append_assoc,List.getElem?_append_left (by simp;omega),List.getElem?_take_of_lt (by omega),
    List.append_assoc,List.getElem?_append_left (by simp;omega),List.getElem?_take_of_lt (by omega),List.getElem?_take_of_lt hj,List.getElem?_drop]
  ·by_cases c2:a+j<p+vs.length
   ·rw [List.getElem?_append_left (by simp;omega),List.getElem?_append_right (by simp;omega),
     List.getElem?_append_left (by simp;omega),List.getElem?_append_right (by simp;omega)]
    congr 1
    simp;omega
   ·rw [List.getElem?_append_right (by simp;omega),List.getElem?_append_right (by simp;omega),List.getElem?_drop,List.getElem?_drop]
    simp only [List.length_append,List.length_take,List.length_drop]
    rw [List.getElem?_take_of_lt (by omega),List.getElem?_drop]
    congr 1
    omega
 ·simp only [hj,if_false]
  rw [List.getElem?_eq_none]
  simp;omega
theorem dt.turn {R R':Ctx} {w w':World} (hm:dt R w) (hx:R.Ext R') (hF:R'.F=R.F) {c:Nat} {ch':Ch}
 (hh:R'.hp=λn=>if n=c then some ch' else R.hp n) (hσ:∀ n,n≠c->R'.σ n=R.σ n) (mb:Nat)
 (kN:∀ b,b<w.heap.size->b≠mb->w'.heap[b]? =w.heap[b]?)
 (free:R.F mb=none/\R.U mb=none/\∀ n ch L,n≠c->R.hp n=some ch->ch.body.mut=true->R.σ n=some L->L.block≠mb)
 (hok:eV R' w' c ch') (hblk:∀ L,R'.σ c=some L->L.block=mb) (hs:aga w w':=by exact ⟨rfl,rfl,rfl⟩):dt R' w':=by
 have lt:∀ {b:Nat} {o:Obj},w.heap[b]? =some o->b<w.heap.size:=λh=>(Array.getElem?_eq_some_iff.1 h).1
 obtain ⟨f1,f2,f3⟩:=free
 have hU:R'.U=R.U:=hx.U
 refine ⟨λb o hb=> ?_,λb o hb=> ?_,λn ch hn=> ?_,λn n' ch1 ch2 L1 L2 h1 h2 m1 m2 s1 s2 hb=> ?_,λb o hb=>by rw [hU];rw [hF] at hb;exact hm.FU b o hb,by rw [hU];exact hm.env.trans hs⟩
 ·rw [hF] at hb
  have:=hm.F b o hb
  rw [kN b (lt this) (λe=>by rw [e,f1] at hb;cases hb),this]
 ·rw [hU] at hb
  have:=hm.U b o hb
  rw [kN b (lt this) (λe=>by rw [e,f2] at hb;cases hb),this]
 ·by_cases e:n=c
  ·subst e
   rw [hh] at hn
   simp only [if_true] at hn
   cases Option.some.inj hn
   exact hok
  ·rw [hh] at hn
   simp only [e,if_false] at hn
   have hc:=hm.ch n ch hn
   have hs:=hσ n e
   have fr:=λL=>f3 n ch L e hn
   obtain ⟨ep,body⟩:=ch
   cases body with
   |row t xs=>
    simp only [eV,hs,hF,hU] at hc⊢
    refine ⟨hc.1,hc.2.1,?_⟩
    replace hc:=hc.2.2
    cases hL:R.σ n with
    |none=>rw [hL] at hc;exact hc
    |some L=>
     rw [hL] at hc
     obtain ⟨c1,c2,arr,E,c3,c4⟩:=hc
     exact ⟨c1,c2,arr,E,(kN _ (lt c3) (fr L rfl hL)).trans c3,c4⟩
   |frz t xs=>
    simp only [eV,hs,hF] at hc⊢
    exact hc
   |cells vs=>
    simp only [eV,hs,hF,hU] at hc⊢
    obtain ⟨L,hL,c1,c2,arr,E,c3,c4,c5,c6,c7⟩:=hc
    exact ⟨L,hL,c1,c2,arr,E,(kN _ (lt c3) (fr L rfl hL)).trans c3,c4,c5,SV.dN hx _ _ c6,c7⟩
 ·rw [hh] at h1 h2
  by_cases e1:n=c<;>by_cases e2:n'=c
  ·rw [e1,e2]
  ·subst e1
   simp only [e2,if_false] at h2
   rw [hσ n' e2] at s2
   exact absurd (hb▸hblk L1 s1) (f3 n' ch2 L2 e2 h2 m2 s2)
  ·subst e2
   simp only [e1,if_false] at h1
   rw [hσ n e1] at s1
   exact absurd (hb▸hblk L2 s2) (f3 n ch1 L1 e1 h1 m1 s1)
  ·simp only [e1,if_false] at h1
   simp only [e2,if_false] at h2
   rw [hσ n e1] at s1
   rw [hσ n' e2] at s2
   exact hm.apart n n' ch1 ch2 L1 L2 h1 h2 m1 m2 s1 s2 hb
def Ctx.upd (R:Ctx) (c:Nat) (ch:Ch):Ctx:= {R with hp:=λn=>if n=c then some ch else R.hp n}
theorem Ctx.aqz {R:Ctx} {c:Nat} {ch ch':Ch} (hc:R.hp c=some ch) (he:ch.ep<=ch'.ep) (hs:ch.ep=ch'.ep->ch'.body.shape=ch.body.shape):R.Ext (R.upd c ch'):=by
 refine ⟨λ_ _ h=>h,rfl,λn c1 hn=> ?_⟩
 by_cases e:n=c
 ·subst e
  rw [hc] at hn
  cases Option.some.inj hn
  exact ⟨ch',by simp [Ctx.upd],he,λh=>⟨hs h,rfl⟩⟩
 ·exact ⟨c1,by simp [Ctx.upd,e,hn],Nat.le_refl _,λ_=>⟨rfl,rfl⟩⟩
theorem dt.write {R:Ctx} {w:World} (hm:dt R w) {c:Nat} {ch ch':Ch} {L:Loc} {arr':Array Value} (hc:R.hp c=some ch) (hmut:ch.body.mut=true)
 (hσ:R.σ c=some L) (hF:R.F L.block=none) (hU:R.U L.block=none)
 (he:ch.ep=ch'.ep) (hs:ch'.body.shape=ch.body.shape)
 (hok:eV (R.upd c ch') (w.setRow L.block arr') c ch'):R.Ext (R.upd c ch')/\dt (R.upd c ch') (w.setRow L.block arr'):=by
 have hx:R.Ext (R.upd c ch'):=Ctx.aqz hc (Nat.le_of_eq he) (λ_=>hs)
 refine ⟨hx,dt.turn hm hx rfl rfl (λ_ _=>rfl) L.block (λb _ hne=>setRow_other w L.block b arr' hne) ⟨hF,hU,λn ch2 L2 hn hn2 hm2 hs2 heq=> ?_⟩ hok (λL2 h2=> ?_)⟩
 ·exact hn (hm.apart n c ch2 ch L2 L hn2 hc hm2 hmut hs2 hσ heq)
 ·have:some L=some L2:=hσ.symm.trans h2
  cases Option.some.inj this
  rfl
end Sx
end Go.Proofs.YtohjofabochgfaaGreat

namespace Go.Proofs.YtohjofabochgfaaGreat
namespace Sx
open Go
theorem yW {R:Ctx} {l cs:List SV} {ls vs:List Value} (h:SV.bV R l ls) (hc:SV.bV R cs vs) (off:Nat):
 SV.bV R (ye l off cs) (ls.take off++vs++ls.drop (off+vs.length)):=by
 unfold ye
 rw [<-SV.aV hc]
 exact SV.cq (SV.cq (SV.du h off) hc) (SV.dv h _)
theorem U9 {α:Type} (xs:List α) (i j:Nat) (y d:α) (h:i<xs.length):(xs.set i y).getD j d=if i=j then y else xs.getD j d:=by
 simp only [List.getD_eq_getElem?_getD,List.getElem?_set]
 split
 ·rename_i e
  subst e
  simp [*]
 ·rfl
theorem GU {R:Ctx} {w:World} (hm:dt R w) {t:Ty} {cs:List SV} {vs:List Value} (hr:SV.bV R cs vs):∀ (m j i:Nat) (xs ys:List t.T),
 sF t R.hp cs m j i xs=some ys->m+(j+i)<=xs.length->
 ys.length=xs.length/\(∀ k,j<=k->k<j+m->Rep R.F t (ys.getD (k+i) t.d) (seg vs (k*t.size) t.size))/\(∀ k,k<j+i\/j+m+i<=k->ys.getD k t.d=xs.getD k t.d)
 |0,j,i,xs,ys,h,_=>by
  simp only [sF] at h
  cases h
  exact ⟨rfl,λk h1 h2=>by omega,λ_ _=>rfl⟩
 |m+1,j,i,xs,ys,h,hl=>by
  simp only [sF] at h
  split at h
  ·rename_i x hx
   have ih:=GU hm hr m (j+1) i _ ys h (by simp;omega)
   obtain ⟨h1,h2,h3⟩:=ih
   refine ⟨by simpa using h1,λk hk1 hk2=> ?_,λk hk=> ?_⟩
   ·by_cases e:k=j
    ·subst e
     rw [h3 (k+i) (by omega),U9 _ _ _ _ _ (by omega),if_pos rfl]
     exact gR hm t _ _ _ hx (SV.du (SV.dv hr (k*t.size)) t.size)
    ·exact h2 k (by omega) (by omega)
   ·rw [h3 k (by omega),U9 _ _ _ _ _ (by omega),if_neg (by omega)]
  ·cases h
structure fy (R R':Ctx) (w':World) (upd:List (Nat×Ch)):Prop where
 ext:R.Ext R'
 hp:R'.hp=eu R.hp upd
 mem:dt R' w'
theorem qx {P:Program} {R:Ctx} {w:World} (hm:dt R w) {c e:Nat} {ch ch':Ch} {L:Loc} {arr:Array Value} {E:TypeId} {p:Nat} {vs:List Value} (hc:R.hp c=some ch)
 (hmut:ch.body.mut=true) (hσ:R.σ c=some L) (hF:R.F L.block=none) (hU:R.U L.block=none) (hb:w.heap[L.block]? =some (.cells arr E (0,0))) (he:ch.ep=e) (he':ch'.ep=e)
 (hs:ch'.body.shape=ch.body.shape) (hp:p+vs.length<=arr.size) (h1:∀ u ∈ vs,u.oneCell'=true)
 (hok:∀ w',w'.heap[L.block]? =some (.cells (arr.toList.take p++vs++arr.toList.drop (p+vs.length)).toArray E (0,0))->eV (R.upd c ch') w' c ch'):
 ∃ w' R',(Go.storeCells ⟨L.block,p,none⟩ vs).run P w=.ok () w'/\fy R R' w' [(c,ch')]:=by
 have hst:=run_storeCells_at P L.block p E vs 0 arr w hb (by simpa using hp) h1
 simp only [Nat.add_zero] at hst
 have hw:=dt.write (arr':=(arr.toList.take p++vs++arr.toList.drop (p+vs.length)).toArray) hm hc hmut hσ hF hU (he.trans he'.symm) hs (hok _ (setRow_heap w L.block arr _ E _ hb))
 exact ⟨_,_,hst,hw.1,rfl,hw.2⟩
theorem Ij {P:Program} {R:Ctx} {w:World} (hm:dt R w) {x:SV} {v:Value} {cs:List SV} {vs:List Value} {u:List (Nat×Ch)} (hx:SV.rel R x v) (hr:SV.bV R cs vs)
 (h:(Sx.storeCells R.hp cs x).run=some u):∃ ad w' R',v=.pointer (some ad)/\(Go.storeCells ad vs).run P w=.ok () w'/\fy R R' w' u:=by
 have hlen:=SV.aV hr
 unfold Sx.storeCells at h
 split at h
 ·rename_i c e i off
  simp only [SV.rel] at hx
  replace hx:=hx.2
  split at h
  ·rename_i ws hc
   have hc:=cH hc
   split at h
   ·rename_i hcond
    obtain ⟨h0,h1,h2⟩:=hcond
    cases h
    obtain ⟨ch,hc',_,hp⟩:=hx
    rw [hc] at hc'
    cases Option.some.inj hc'
    obtain ⟨L,hσ,rfl⟩:=hp rfl
    have hch:=hm.ch c _ hc
    simp only [eV] at hch
    obtain ⟨L',hσ',hF,hU,arr,E,hb,ha,hlim,hrel,hone⟩:=hch
    rw [hσ] at hσ'
    cases Option.some.inj hσ'
    subst h0
    have hsh:(Chunk.cells (ye ws off cs)).shape=(Chunk.cells ws).shape:=by
     simp only [Chunk.shape,ye,List.length_append,List.length_take,List.length_drop]
     congr 2;omega
    obtain ⟨w',R',h3,h4⟩:=qx (P:=P) (e:=e) (p:=L.base+off) (vs:=vs) hm (ch':=⟨e,.cells (ye ws off cs)⟩) hc rfl hσ hF hU hb rfl rfl hsh (by omega) (yY hr h2)
     (λw' hw'=>by
      simp only [eV,Ctx.upd]
      refine ⟨L,hσ,hF,hU,_,E,hw',?_,?_,?_,?_⟩
      ·simp only [List.size_toArray,List.length_append,List.length_take,List.length_drop,Array.length_toList];omega
      ·have:=congrArg (λx=>x.2.2) hsh
       simp only [Chunk.shape] at this
       rw [this];exact hlim
      ·have hsp:=yW hrel hr off
       have hx:R.Ext (R.upd c ⟨e,.cells (ye ws off cs)⟩):=Ctx.aqz hc (Nat.le_refl _) (λ_=>hsh)
       have:=SV.dN hx _ _ hsp
       simp only
       have e:(arr.toList.take (L.base+off)++vs++arr.toList.drop (L.base+off+vs.length)).drop L.base=(arr.toList.drop L.base).take off++vs++(arr.toList.drop L.base).drop (off+vs.length):=by
        rw [List.append_assoc,List.drop_append,List.drop_take,List.length_take,List.drop_drop]
        rw [show L.base-min (L.base+off) arr.toList.length=0 by simp;omega,List.drop_zero,List.append_assoc]
        rw [show L.base+off-L.base=off by omega,show L.base+(off+vs.length)=L.base+off+vs.length by omega]
       rw [e]
       exact this
      ·intro u hu
       simp only at hu
       rcases List.mem_append.1 hu with hu|hu
       ·rcases List.mem_append.1 hu with hu|hu
        ·exact hone u (List.mem_of_mem_take hu)
        ·exact yY hr h2 u hu
       ·exact hone u (List.mem_of_mem_drop hu))
    exact ⟨_,w',R',by simp,h3,h4⟩
   ·cases h
  ·rename_i t xs hc
   have hc:=cH hc
   obtain ⟨ch,hc',_,hp⟩:=hx
   rw [hc] at hc'
   cases Option.some.inj hc'
   obtain ⟨L,hσ,rfl⟩:=hp rfl
   have hch:=hm.ch c _ hc
   simp only [eV,hσ] at hch
   obtain ⟨hs,hmax,hF,hU,arr,E,hb,ha,hl,hrow⟩:=hch
   split at h
   ·rename_i hle
    obtain ⟨h1,h2⟩:=OT.aJ h
    have hi:i<xs.length:=by simpa using h1
    split at h2
    ·rename_i y hy
     cases h2
     have hold:=hrow i hi
     have hle2:(i+1)*t.size<=xs.length*t.size:=Nat.mul_le_mul_right _ hi
     rw [Nat.succ_mul] at hle2
     have hnew:=gR hm t _ _ _ hy (yW (eJ t _ _ hold) hr off)
     have hone:∀ u ∈ vs,u.oneCell'=true:=λu hu=>rM t _ _ hnew u (by simp [hu])
     have hsh:(Chunk.row t (xs.set i y)).shape=(Chunk.row t xs).shape:=by simp [Chunk.shape]
     obtain ⟨w',R',h3,h4⟩:=qx (P:=P) (e:=e) (p:=L.base+(i*t.size+off)) (vs:=vs) hm (ch':=⟨e,.row t (xs.set i y)⟩) hc rfl hσ hF hU hb rfl rfl hsh (by omega) hone
      (λw' hw'=>by
       simp only [eV,Ctx.upd,hσ]
       refine ⟨hs,by simpa using hmax,hF,hU,_,E,hw',?_,by simpa using hl,λk hk=> ?_⟩
       ·simp only [List.size_toArray,List.length_append,List.length_take,List.length_drop,Array.length_toList];omega
       ·simp only [List.length_set] at hk
        have hlk:(k+1)*t.size<=xs.length*t.size:=Nat.mul_le_mul_right _ hk
        rw [Nat.succ_mul] at hlk
        rw [U9 _ _ _ _ _ hi]
        split
        ·rename_i e
         subst e
         simp only
         rw [Xi _ _ _ _ _ (by simp;omega) (by omega) (by omega)]
         rw [show L.base+(i*t.size+off)-(L.base+i*t.size)=off by omega]
         exact hnew
        ·rename_i hne
         simp only
         rw [iw _ _ _ _ _ (by simp;omega) ?_]
         ·exact hrow k hk
         ·rcases Nat.lt_or_gt_of_ne hne with hlt|hgt
          ·have:(i+1)*t.size<=k*t.size:=Nat.mul_le_mul_right _ hlt
           rw [Nat.succ_mul] at this
           right;omega
          ·have:(k+1)*t.size<=i*t.size:=Nat.mul_le_mul_right _ hgt
           rw [Nat.succ_mul] at this
           left;omega)
     exact ⟨_,w',R',rfl,h3,h4⟩
    ·cases h2
   ·split at h
    ·rename_i hle hcond
     obtain ⟨h0,hn⟩:=hcond
     obtain ⟨h1,h2⟩:=OT.aJ h
     have hi:cs.length/t.size+i<=xs.length:=by simpa using h1
     split at h2
     ·rename_i ys hy
      cases h2
      subst h0
      have hle2:(cs.length/t.size+i)*t.size<=xs.length*t.size:=Nat.mul_le_mul_right _ hi
      rw [Nat.add_mul,hn] at hle2
      obtain ⟨s1,s2,s3⟩:=GU hm hr _ 0 i xs ys hy (by omega)
      have hone:∀ u ∈ vs,u.oneCell'=true:=λu hu=>by
       obtain ⟨j,hj,rfl⟩:=List.getElem_of_mem hu
       have hjn:j<cs.length/t.size*t.size:=by omega
       have hq:j/t.size<cs.length/t.size:=by rw [Nat.div_lt_iff_lt_mul hs];exact hjn
       have hmod:=Nat.mod_lt j hs
       have hdm:=Nat.div_add_mod j t.size
       rw [Nat.mul_comm] at hdm
       have hq1:(j/t.size+1)*t.size<=cs.length/t.size*t.size:=Nat.mul_le_mul_right _ hq
       rw [Nat.succ_mul] at hq1
       refine rM t _ _ (s2 (j/t.size) (Nat.zero_le _) (by rw [Nat.zero_add];exact hq)) _ ?_
       rw [List.mem_iff_getElem]
       refine ⟨j%t.size,?_,?_⟩
       ·simp only [seg,List.length_take,List.length_drop];omega
       ·simp only [seg,List.getElem_take,List.getElem_drop]
        congr 1
      have hsh:(Chunk.row t ys).shape=(Chunk.row t xs).shape:=by simp [Chunk.shape,s1]
      obtain ⟨w',R',h3,h4⟩:=qx (P:=P) (e:=e) (p:=L.base+(i*t.size+0)) (vs:=vs) hm (ch':=⟨e,.row t ys⟩) hc rfl hσ hF hU hb rfl rfl hsh (by omega) hone
       (λw' hw'=>by
        simp only [eV,Ctx.upd,hσ]
        refine ⟨hs,by rw [s1];exact hmax,hF,hU,_,E,hw',?_,by rw [s1];exact hl,λk hk=> ?_⟩
        ·simp only [List.size_toArray,List.length_append,List.length_take,List.length_drop,Array.length_toList];omega
        ·rw [s1] at hk
         have hlk:(k+1)*t.size<=xs.length*t.size:=Nat.mul_le_mul_right _ hk
         rw [Nat.succ_mul] at hlk
         simp only
         by_cases c1:k<i
         ·rw [s3 k (by omega),iw _ _ _ _ _ (by simp;omega) ?_]
          ·exact hrow k hk
          ·have:(k+1)*t.size<=i*t.size:=Nat.mul_le_mul_right _ c1
           rw [Nat.succ_mul] at this
           left;omega
         ·by_cases c2:k<cs.length/t.size+i
          ·have:=s2 (k-i) (by omega) (by omega)
           rw [show k-i+i=k by omega] at this
           have hk1:(k-i+1)*t.size<=cs.length/t.size*t.size:=Nat.mul_le_mul_right _ (by omega)
           have hk2:(k-i)*t.size+i*t.size=k*t.size:=by rw [<-Nat.add_mul];congr 1;omega
           rw [Nat.succ_mul] at hk1
           have hin:seg (arr.toList.take (L.base+(i*t.size+0))++vs++arr.toList.drop (L.base+(i*t.size+0)+vs.length)) (L.base+k*t.size) t.size=seg vs ((k-i)*t.size) t.size:=by
            apply List.ext_getElem?
            intro j
            simp only [seg,List.getElem?_take,List.getElem?_drop]
            by_cases hj:j<t.size
            ·simp only [hj,if_true]
             rw [List.getElem?_append_left (by simp;omega),List.getElem?_append_right (by simp;omega)]
             congr 1
             simp;omega
            ·simp [hj]
           rw [hin]
           exact this
          ·rw [s3 k (by omega),iw _ _ _ _ _ (by simp;omega) ?_]
           ·exact hrow k hk
           ·have:(cs.length/t.size+i)*t.size<=k*t.size:=Nat.mul_le_mul_right _ (by omega)
            rw [Nat.add_mul] at this
            right;omega)
      exact ⟨_,w',R',rfl,h3,h4⟩
     ·cases h2
    ·cases h
  ·cases h
 ·cases h
end Sx
end Go.Proofs.YtohjofabochgfaaGreat

namespace Go.Proofs.YtohjofabochgfaaGreat
namespace Sx
open Go
theorem JS {R:Ctx} {x:SV} {v:Value} {l:List SV} (hx:SV.rel R x v) (h:x.cells=some l):∃ vs,v.cells=vs.toArray/\SV.bV R l vs/\∀ u ∈ vs,u.oneCell'=true:=by
 have one:x.one=true->l= [x]->∃ vs,v.cells=vs.toArray/\SV.bV R l vs/\∀ u ∈ vs,u.oneCell'=true:=λho hl=>by
  subst hl
  have hv:=asB hx ho
  refine ⟨[v],?_,bg hx,by simpa using hv⟩
  cases v<;>first|rfl|(simp [Value.oneCell'] at hv)
 cases x<;>simp only [SV.cells,SV.one,if_true,Bool.false_eq_true,if_false] at h<;>
  first
  |(cases h;done)
  |(exact one rfl (Option.some.inj h).symm)
  |(cases h
    simp only [SV.rel] at hx
    obtain ⟨vs,rfl,h2,h3⟩:=hx
    exact ⟨vs,rfl,h2,h3⟩)
def Ctx.lay (R:Ctx) (n:Nat) (ch:Ch) (L:Option Loc):Ctx:= {R with hp:=λm=>if m=n then some ch else R.hp m,σ:=λm=>if m=n then L else R.σ m}
theorem Ctx.aeE {R:Ctx} {n:Nat} (hn:R.hp n=none) (ch:Ch) (L:Option Loc):R.Ext (R.lay n ch L):=by
 refine ⟨λ_ _ h=>h,rfl,λc c1 hc=> ?_⟩
 have e:c≠n:=λe=>by rw [e,hn] at hc;cases hc
 exact ⟨c1,by simp [Ctx.lay,e,hc],Nat.le_refl _,λ_=>⟨rfl,by simp [Ctx.lay,e]⟩⟩
theorem dt.lt {R:Ctx} {w:World} (hm:dt R w) {c:Nat} {ch:Ch} {L:Loc} (hc:R.hp c=some ch) (hmut:ch.body.mut=true) (hσ:R.σ c=some L):L.block<w.heap.size:=by
 have h:=hm.ch c ch hc
 obtain ⟨ep,body⟩:=ch
 cases body with
 |row t xs=>
  simp only [eV,hσ] at h
  obtain ⟨_,_,_,_,arr,E,hb,_⟩:=h
  exact (Array.getElem?_eq_some_iff.1 hb).1
 |frz t xs=>cases hmut
 |cells vs=>
  simp only [eV] at h
  obtain ⟨L',hσ',_,_,arr,E,hb,_⟩:=h
  rw [hσ] at hσ'
  cases Option.some.inj hσ'
  exact (Array.getElem?_eq_some_iff.1 hb).1
theorem dt.Wo {R:Ctx} {w:World} (hm:dt R w):R.F w.heap.size=none:=by
 cases h:R.F w.heap.size with
 |none=>rfl
 |some o=>
  have:=(Array.getElem?_eq_some_iff.1 (hm.F _ _ h)).1
  omega
theorem dt.Wj {R:Ctx} {w:World} (hm:dt R w):R.U w.heap.size=none:=by
 cases h:R.U w.heap.size with
 |none=>rfl
 |some o=>
  have:=(Array.getElem?_eq_some_iff.1 (hm.U _ _ h)).1
  omega
theorem dt.lay {R:Ctx} {w w':World} (hm:dt R w) {n:Nat} (hn:R.hp n=none) {ch:Ch} {L:Loc} (hL:L.block=w.heap.size)
 (kN:∀ b,b<w.heap.size->w'.heap[b]? =w.heap[b]?) (hok:eV (R.lay n ch (some L)) w' n ch) (hs:aga w w':=by exact ⟨rfl,rfl,rfl⟩):fy R (R.lay n ch (some L)) w' [(n,ch)]:=by
 have hx:=Ctx.aeE hn ch (some L)
 refine ⟨hx,rfl,dt.turn hm hx rfl rfl (λm hm'=>by simp [Ctx.lay,hm']) w.heap.size (λb hb _=>kN b hb) ⟨hm.Wo,hm.Wj,λm c2 L2 _ h2 m2 s2=> ?_⟩ hok (λL2 h2=> ?_) hs⟩
 ·have:=hm.lt h2 m2 s2
  omega
 ·simp only [Ctx.lay,if_true] at h2
  cases h2
  exact hL
theorem dt.aKX {R:Ctx} {w w':World} (hm:dt R w) {n:Nat} (hn:R.hp n=none) {ch:Ch}
 (kN:∀ b,b<w.heap.size->w'.heap[b]? =w.heap[b]?) (hok:eV (R.lay n ch none) w' n ch) (hs:aga w w':=by exact ⟨rfl,rfl,rfl⟩):fy R (R.lay n ch none) w' [(n,ch)]:=by
 have hx:=Ctx.aeE hn ch none
 refine ⟨hx,rfl,dt.turn hm hx rfl rfl (λm hm'=>by simp [Ctx.lay,hm']) w.heap.size (λb hb _=>kN b hb) ⟨hm.Wo,hm.Wj,λm c2 L2 _ h2 m2 s2=> ?_⟩ hok (λL2 h2=> ?_) hs⟩
 ·have:=hm.lt h2 m2 s2
  omega
 ·simp [Ctx.lay] at h2
theorem dt.kN {R:Ctx} {w w':World} (hm:dt R w) (kN:∀ b,b<w.heap.size->w'.heap[b]? =w.heap[b]?) (hs:aga w w':=by exact ⟨rfl,rfl,rfl⟩):dt R w':=by
 have lt:∀ {b:Nat} {o:Obj},w.heap[b]? =some o->b<w.heap.size:=λh=>(Array.getElem?_eq_some_iff.1 h).1
 refine ⟨λb o hb=> ?_,λb o hb=> ?_,λn ch hn=> ?_,hm.apart,hm.FU,hm.env.trans hs⟩
 ·have:=hm.F b o hb
  rw [kN b (lt this),this]
 ·have:=hm.U b o hb
  rw [kN b (lt this),this]
 ·have hc:=hm.ch n ch hn
  obtain ⟨ep,body⟩:=ch
  cases body with
  |row t xs=>
   simp only [eV] at hc⊢
   refine ⟨hc.1,hc.2.1,?_⟩
   replace hc:=hc.2.2
   cases hL:R.σ n with
   |none=>rw [hL] at hc;exact hc
   |some L=>
    rw [hL] at hc
    obtain ⟨c1,c2,arr,E,c3,c4⟩:=hc
    exact ⟨c1,c2,arr,E,(kN _ (lt c3)).trans c3,c4⟩
  |frz t xs=>exact hc
  |cells vs=>
   simp only [eV] at hc⊢
   obtain ⟨L,hL,c1,c2,arr,E,c3,c4⟩:=hc
   exact ⟨L,hL,c1,c2,arr,E,(kN _ (lt c3)).trans c3,c4⟩
theorem fy.nothing {R:Ctx} {w:World} (hm:dt R w):fy R R w []:=⟨Ctx.Ext.refl R,rfl,hm⟩
theorem pX (w:World) (o:Obj):∀ b,b<w.heap.size->(w.alloc o).heap[b]? =w.heap[b]? :=λb hb=>heap_alloc_old w o b hb
theorem auM {R:Ctx} {w:World} (hm:dt R w) {n:Nat} (hn:R.hp n=none) {cs:List SV} {vs:List Value} (hr:SV.bV R cs vs) (h1:∀ u ∈ vs,u.oneCell'=true) (E:TypeId):
 fy R (R.lay n ⟨0,.cells cs⟩ (some ⟨w.heap.size,0,vs.length⟩)) (w.alloc (.cells vs.toArray E)) [(n,⟨0,.cells cs⟩)]:=by
 refine dt.lay hm hn rfl (pX w _) ?_
 simp only [eV]
 refine ⟨⟨w.heap.size,0,vs.length⟩,by simp [Ctx.lay],hm.Wo,hm.Wj,vs.toArray,E,heap_alloc_new w _,by simp,SV.aV hr,?_,by simpa using h1⟩
 simpa using SV.dN (Ctx.aeE hn _ _) _ _ hr
theorem LS {R:Ctx} {w w':World} (hm:dt R w) {n:Nat} (hn:R.hp n=none) {t:Ty} (ht:0<t.size) {xs:List t.T} {arr:Array Value} {E:TypeId} (hl:xs.length<=cW)
 (hb:w'.heap[w.heap.size]? =some (.cells arr E (0,0))) (kN:∀ b,b<w.heap.size->w'.heap[b]? =w.heap[b]?) (hs:xs.length*t.size<=arr.size)
 (hr:∀ i,i<xs.length->Rep R.F t (xs.getD i t.d) (seg arr.toList (i*t.size) t.size)) (hlk:aga w w':=by exact ⟨rfl,rfl,rfl⟩):
 fy R (R.lay n ⟨0,.row t xs⟩ (some ⟨w.heap.size,0,arr.size⟩)) w' [(n,⟨0,.row t xs⟩)]:=by
 refine dt.lay hm hn rfl kN ?_ hlk
 simp only [eV,Ctx.lay,if_true]
 refine ⟨ht,hl,hm.Wo,hm.Wj,arr,E,hb,by simp,hs,λi hi=> ?_⟩
 rw [Nat.zero_add]
 exact hr i hi
theorem JQ {R:Ctx} {n:Nat} {ch:Ch} {L:Loc} (h0:ch.ep=0) (hb:L.base=0):SV.rel (R.lay n ch (some L)) (.ptr n 0 0 0) (.pointer (some ⟨L.block,0,none⟩)):=by
 simp only [SV.rel]
 refine ⟨⟨_,rfl⟩,ch,by simp [Ctx.lay],by omega,λ_=>⟨L,by simp [Ctx.lay],by simp [hb]⟩⟩
theorem aj4 {R:Ctx} {w:World} (hm:dt R w) {t:Ty} {cs:List SV} {vs:List Value} (hr:SV.bV R cs vs) {m:Nat} {xs:List t.T}
 (h:((List.range m).mapM λi=>pack R.hp t ((cs.drop (i*t.size)).take t.size))=some xs):xs.length=m/\∀ i,i<m->Rep R.F t (xs.getD i t.d) (seg vs (i*t.size) t.size):=by
 obtain ⟨h1,h2⟩:=tN t.d h
 refine ⟨by simpa using h1,λi hi=> ?_⟩
 have:=h2 i (by simpa using hi)
 simp only [List.getElem_range] at this
 exact gR hm t _ _ _ this (SV.du (SV.dv hr (i*t.size)) t.size)
theorem ln {α β:Type} {f g:α->Option β} (hfg:∀ x y,f x=some y->g x=some y):∀ {l:List α} {r:List β},l.mapM f=some r->l.mapM g=some r
 | [],r,h=>by simpa using h
 |x::l,r,h=>by
  simp only [List.mapM_cons,Option.pure_def,Option.bind_eq_bind] at h⊢
  cases hx:f x with
  |none=>rw [hx] at h;cases h
  |some y=>
   rw [hx] at h
   cases hl:l.mapM f with
   |none=>rw [hl] at h;cases h
   |some ys=>
    rw [hl] at h
    rw [hfg _ _ hx,ln hfg hl]
    exact h
theorem BR {hp:Hp}:∀ {t:Ty} {cs:List SV} {x:t.T},pack aAQ t cs=some x->pack hp t cs=some x
 |.bool,_,_,h=>h
 |.u64,_,_,h=>h
 |.u8,_,_,h=>h
 |.int,_,_,h=>h
 |.str,_,_,h=>h
 |.elem,_,_,h=>h
 |.prod a b,cs,x,h=>by
  obtain ⟨h1,h2⟩:=bn h
  simp only [pack,BR h1,BR h2,q9]
 |.arr n t,cs,x,h=>by
  simp only [pack] at h⊢
  split at h
  ·rename_i hl
   rw [if_pos hl]
   exact ln (λ_ _=>BR) h
  ·cases h
 |.list t,cs,x,h=>by
  obtain ⟨y,rfl,hy⟩:=pc h
  simp only [pack,aCV]
  cases y<;>simp only [af6] at hy⊢ <;>first|exact hy|(cases hy;done)
theorem Hd {P:Program} {te:TE} {R:Ctx} {w:World} (hm:dt R w) {d:Nat} {T:TypeId} {v:Value} {cs:List SV} {vs:List Value} {e:Eff} (hv:v.cells=vs.toArray) (hr:SV.bV R cs vs)
 (h1:∀ u ∈ vs,u.oneCell'=true) (hlen:vs.length<=cW) (h:(Sx.newVar te R.hp d T cs).run=some e):
 ∃ ad w' R',(Go.newVar T v).run P w=.ok ad w'/\fy R R' w' e.upd/\SV.rel R' e.v (.pointer (some ad)):=by
 have hrun:(Go.newVar T v).run P w=.ok ⟨w.heap.size,0,none⟩ (w.alloc (.cells vs.toArray T)):=by
  simp [Go.newVar,newRow,hv]
 unfold Sx.newVar at h
 split at h
 ·cases h
 ·rename_i ti _
  split at h
  ·cases h
  ·simp only at h
   split at h
   ·cases h
   ·rename_i hfr
    have hn:R.hp (fresh R.hp d)=none:=by
     cases hq:R.hp (fresh R.hp d) with
     |none=>rfl
     |some _=>rw [hq] at hfr;simp at hfr
    have plain:∀ e,(if cs.all SV.one=true then OT.ok (Eff.mk (.ptr (fresh R.hp d) 0 0 0) [(fresh R.hp d,⟨0,.cells cs⟩)]) else .fail).run=some e->
     ∃ ad w' R',(Go.newVar T v).run P w=.ok ad w'/\fy R R' w' e.upd/\SV.rel R' e.v (.pointer (some ad)):=λe he=>by
     split at he
     ·cases he
      exact ⟨_,_,_,hrun,auM hm hn hr h1 T,JQ rfl rfl⟩
     ·cases he
    split at h
    ·split at h
     ·split at h
      ·rename_i t _ hc
       split at h
       ·rename_i xs hx
        cases h
        obtain ⟨h2,h3⟩:=aj4 hm hr (ln (λ_ _=>BR) hx)
        have hl:=SV.aV hr
        refine ⟨_,_,_,hrun,LS hm hn hc.2 (E:=T) (arr:=vs.toArray) ?_ (heap_alloc_new w _) (pX w _) (by simp [h2,hl,hc.1]) (λi hi=> ?_),JQ rfl rfl⟩
        ·have h5:xs.length*1<=xs.length*t.size:=Nat.mul_le_mul_left _ hc.2
         rw [Nat.mul_one,h2,hc.1,<-hl,<-h2] at h5
         exact Nat.le_trans h5 hlen
        ·exact h3 i (by omega)
       ·exact plain e h
      ·exact plain e h
     ·exact plain e h
    ·exact plain e h
end Sx
end Go.Proofs.YtohjofabochgfaaGreat

namespace Go.Proofs.YtohjofabochgfaaGreat
namespace Sx
open Go
structure bo (P:Program) (T:TypeId) (ti:TI):Prop where
 aHU:∃ i z,P.info? T=some i/\i.size=ti.size/\i.bytes=ti.bytes/\i.zero=some z/\z.cells.toList.map Ld=ti.zero/\z.cells.size=ti.size/\∀ u ∈ z.cells.toList,u.oneCell'=true
 small:ti.size<=16777216
 one:ti.desc.agg=false->ti.size=1
 desc:∃ d,P.underlying T=some d/\match ti.desc with
  |.struct fs=>∃ fields,d=.struct fields/\fields.toList.map (λf=>(f.offset,f.type))=fs/\(∀ f ∈ fields.toList,f.name≠ "_")/\P.stoodInHeld T=false/\
   (fields.toList.mapM (λf=>(P.info? f.type).map λi=>(f.offset,i.size))).isSome=true
  |.array n e=>d=.array n e
  |.slice e=>d=.slice e
  |.int k=>d=.int k
  |.bool=>d=.bool
  |.str=>d=.string
  |.ptr ms=>(∃ e,d=.pointer e)/\∀ nf ∈ ms,∃ i m,P.info? T=some i/\i.methods.find? (λq=>q.name==nf.1)=some m/\m.path= #[]/\m.func=some (nf.2,true)
  |.iface=>∃ ms,d=.interface ms
  |.other=>(match d with|.struct _|.array .. =>False|_=>True)
 ty:∀ t,ti.ty=some t->t.size=ti.size/\(∀ F z,((P.info? T).bind (·.zero))=some z->Rep F t t.d z.cells.toList)/\(ti.desc.agg=true->P.eqGuardType P.depth T=false)
def mZ (P:Program) (te:TE):Prop:=∀ T ti,te T=some ti->bo P T ti
theorem P3 {R:Ctx}:∀ (v:Value),SV.rel R (Ld v) v:=by
 intro v
 unfold Ld
 split<;>try (simp only [SV.rel];done)
 ·split
  ·rename_i n h
   simp only [SV.rel,iq]
   rw [UInt64.toNat_ofNat']
   congr 1
   omega
  ·simp only [SV.rel]
 ·split
  ·rename_i n h
   simp only [SV.rel,vu8]
   rw [UInt8.toNat_ofNat']
   congr 1
   omega
  ·simp only [SV.rel]
 ·split
  ·rename_i n h
   simp only [SV.rel,true_and]
   exact h
  ·simp only [SV.rel]
 ·split
  ·rename_i s h
   simp only [SV.rel,true_and]
   simpa using h
  ·simp only [SV.rel]
 ·simp [SV.rel]
theorem yX {R:Ctx}:∀ (vs:List Value),SV.bV R (vs.map Ld) vs
 | []=>vH
 |v::vs=>by
  simp only [List.map_cons,SV.bV]
  exact ⟨v,vs,rfl,P3 v,yX vs⟩
section
variable {P:Program} {T:TypeId} {ti:TI} (h:bo P T ti)
include h
theorem bo.cu (w:World):(sizeOf T).run P w=.ok ti.size w:=by
 obtain ⟨i,z,h1,h2,_⟩:=h.aHU
 simp [sizeOf,typeInfo,h1,h2]
theorem bo.JF (w:World):(isAgg T).run P w=.ok ti.desc.agg w:=by
 obtain ⟨d,h1,h2⟩:=h.desc
 unfold isAgg
 rw [Sem.run_bind,run_underlying h1 w]
 cases hd:ti.desc<;>rw [hd] at h2<;>simp only at h2
 case struct=>obtain ⟨_,rfl,_⟩:=h2;rfl
 case ptr=>obtain ⟨⟨_,rfl⟩,_⟩:=h2;rfl
 case iface=>obtain ⟨_,rfl⟩:=h2;rfl
 case other=>cases d<;>first|exact h2.elim|rfl
 all_goals (subst h2;rfl)
theorem bo.azO (w:World) (cs:Array Value) (off:Nat) (hn:off+ti.size<=cs.size) (hs:ti.desc.agg=false->ti.size=1):
 (part T cs off).run P w=.ok (if ti.desc.agg then .agg (seg cs.toList off ti.size).toArray else cs.getD off Go.undef) w:=by
 unfold part
 rw [Sem.run_bind,h.JF w,Result.andThen_ok]
 cases ha:ti.desc.agg
 ·have:=hs ha
  simp only [Bool.false_eq_true,if_false]
  rw [Array.getElem?_eq_getElem (by omega)]
  simp [Array.getD,show off<cs.size by omega]
 ·simp only [if_true]
  rw [Sem.run_bind,h.cu w,Result.andThen_ok]
  have:cs.extract off (off+ti.size)=(seg cs.toList off ti.size).toArray:=by
   apply Array.ext'
   simp [seg]
  rw [this]
  rfl
end
def Ih (agg:Bool) (vs:List Value):Value:=if agg then .agg vs.toArray else vs.getD 0 Go.undef
theorem abq {x y:Option Bool} {b:Bool} (h:aJ5 x y=some b):∃ a c,x=some a/\y=some c/\b=(a&&c):=by
 cases x<;>cases y<;>simp only [aJ5] at h<;>first|(cases h;done)|skip
 exact ⟨_,_,rfl,rfl,(Option.some.inj h).symm⟩
theorem aqB (a b:UInt64):((a.toNat:Int)==(b.toNat:Int))=(a==b):=by
 rw [Bool.eq_iff_iff]
 simp only [beq_iff_eq]
 constructor
 ·intro h
  exact UInt64.toNat_inj.1 (by omega)
 ·intro h;rw [h]
theorem aCA (a b:UInt8):((a.toNat:Int)==(b.toNat:Int))=(a==b):=by
 rw [Bool.eq_iff_iff]
 simp only [beq_iff_eq]
 constructor
 ·intro h
  exact UInt8.toNat_inj.1 (by omega)
 ·intro h;rw [h]
theorem arZ (a b:List UInt8):((⟨a.toArray⟩:ByteArray).toList==(⟨b.toArray⟩:ByteArray).toList)=(a==b):=by
 simp [ByteArray.toList_eq]
theorem afh {P:Program} {R:Ctx} {w:World} {T:TypeId} {ti:TI} (ht:bo P T ti) {l r:List SV} {a b:List Value} {z:Bool} (h:aoW ti.desc l r=some z) (ha:SV.bV R l a) (hb:SV.bV R r b) (d:Nat):
 ti.desc.agg=false/\(Op.equalIn (d+1) T (a.getD 0 Go.undef) (b.getD 0 Go.undef)).run P w=.ok z w:=by
 unfold aoW at h
 split at h
 ·obtain ⟨x,rfl,hx⟩:=cJ ha
  obtain ⟨y,rfl,hy⟩:=cJ hb
  obtain ⟨ds,h1,h2⟩:=ht.desc
  unfold ala at h
  split at h<;>first|(cases h;done)|skip
  all_goals
   rename_i hd
   rw [hd] at h2
   simp only at h2
   subst h2
   cases h
   simp only [SV.rel] at hx hy
   refine ⟨by rw [hd];rfl,?_⟩
  ·subst hx;subst hy;exact run_equalIn_bool' w d T _ _ h1
  ·subst hx;subst hy
   simp only [List.getD_cons_zero,iq]
   rw [run_equalIn_int w d T _ _ _ _ h1,aqB]
  ·subst hx;subst hy
   simp only [List.getD_cons_zero,vu8]
   rw [run_equalIn_int w d T _ _ _ _ h1,aCA]
  ·rw [hx.1,hy.1];exact run_equalIn_int w d T _ _ _ _ h1
  ·rw [hx.1,hy.1]
   simp only [List.getD_cons_zero]
   rw [run_equalIn_string w d T _ _ h1,arZ]
 ·cases h
end Sx
end Go.Proofs.YtohjofabochgfaaGreat

namespace Go.Proofs.YtohjofabochgfaaGreat
namespace Sx
open Go
def aap (d:Nat) (e:TypeId) (s:Nat) (xs ys:Array Value):(m i:Nat)->Sem Bool
 |0,_=>pure true
 |m+1,i=>do
  let a <-part e xs (i*s)
  let b <-part e ys (i*s)
  let r <-Op.equalIn d e a b
  if (!r)=true then pure false else aap d e s xs ys m (i+1)
theorem El {P:Program} (w:World) (d n s:Nat) (t e:TypeId) (xs ys:Array Value) (h:P.underlying t=some (.array n e)) (hs:(sizeOf e).run P w=.ok s w):
 (Op.equalIn (d+1) t (.agg xs) (.agg ys)).run P w=(aap d e s xs ys n 0).run P w:=by
 simp only [Op.equalIn,Sem.run_bind,run_underlying h,Result.andThen_ok,hs]
 rw [Std.Legacy.Range.forIn_eq_forIn_range']
 simp only [Std.Legacy.Range.size,Nat.sub_zero,Nat.add_sub_cancel,Nat.div_one]
 clear h hs
 generalize (0:Nat)=i
 induction n generalizing w i with
 |zero=>simp [aap]
 |succ n ih=>
  simp only [List.range'_succ,List.forIn_cons,aap,Sem.run_bind]
  generalize (part e xs (i*s)).run P w=r1
  cases r1 with
  |halt x w1=>simp [Result.andThen]
  |ok a w1=>
   simp only [Result.andThen_ok]
   generalize (part e ys (i*s)).run P w1=r2
   cases r2 with
   |halt x w2=>simp [Result.andThen]
   |ok b w2=>
    simp only [Result.andThen_ok]
    generalize (Op.equalIn d e a b).run P w2=r3
    cases r3 with
    |halt x w3=>simp [Result.andThen]
    |ok r w3=>
     cases r
     ·simp only [Result.andThen_ok,Bool.not_false,if_true,Sem.run_pure]
     ·simp only [Result.andThen_ok,Bool.not_true,Bool.false_eq_true,if_false,Sem.run_pure]
      exact ih w3 (i+1)
theorem vF {R:Ctx} {l:List SV} {vs:List Value} (h:SV.bV R l vs) (o n:Nat):SV.bV R (sub l o n) (seg vs o n):=SV.du (SV.dv h o) n
theorem wA {P:Program} {T:TypeId} {ti:TI} (ht:bo P T ti) (w:World) (vs:List Value) (off:Nat) (hn:off+ti.size<=vs.length) (hs:ti.desc.agg=false->ti.size=1):
 (part T vs.toArray off).run P w=.ok (Ih ti.desc.agg (seg vs off ti.size)) w:=by
 rw [ht.azO w vs.toArray off (by simpa using hn) hs]
 unfold Ih
 cases ha:ti.desc.agg
 ·have:=hs ha
  have h0:off<vs.length:=by omega
  simp only [Bool.false_eq_true,if_false]
  congr 1
  rw [this]
  unfold seg
  rw [List.drop_eq_getElem_cons h0]
  simp [Array.getD,h0]
 ·rfl
theorem akT {te:TE} {n:Nat} {T:TypeId} {ti:TI} (hT:te T=some ti) (ha:ti.desc.agg=false) {l r:List SV} {z:Bool} (h:aBE te (n+1) T l r=some z):aoW ti.desc l r=some z:=by
 simp only [aBE,hT] at h
 cases hd:ti.desc<;>rw [hd] at h ha<;>simp only at h<;>first|exact h|(cases ha;done)
theorem aao {d:TD} {l r:List SV} {z:Bool} (h:aoW d l r=some z):l.length=1/\r.length=1:=by
 unfold aoW at h
 split at h
 ·exact ⟨rfl,rfl⟩
 ·cases h
theorem PT {l:List SV} {o n:Nat} (h:o+n<=l.length):(sub l o n).length=n:=by
 simp only [sub,List.length_take,List.length_drop];omega
theorem FO {P:Program} {te:TE} (hte:mZ P te) {R:Ctx} {w:World}:∀ (n:Nat) (T:TypeId) (ti:TI) (_:te T=some ti) (l r:List SV) (a b:List Value) (z:Bool) (d:Nat),
 n<=d->aBE te n T l r=some z->SV.bV R l a->SV.bV R r b->(Op.equalIn d T (Ih ti.desc.agg a) (Ih ti.desc.agg b)).run P w=.ok z w
 |0,T,ti,hT,l,r,a,b,z,d,_,h,_,_=>by cases h
 |n+1,T,ti,hT,l,r,a,b,z,0,hd,_,_,_=>by omega
 |n+1,T,ti,hT,l,r,a,b,z,d+1,hd,h,hl,hr=>by
  have ht:=hte T ti hT
  have one:∀ (T:TypeId) (ti:TI),te T=some ti->∀ (m:Nat) (l r:List SV) (z:Bool),aBE te m T l r=some z->l.length=ti.size->ti.desc.agg=false->ti.size=1:=by
   intro T ti hT m l r z h hl ha
   cases m with
   |zero=>cases h
   |succ m=>rw [<-hl];exact (aao (akT hT ha h)).1
  cases ha:ti.desc.agg
  ·have h1:=akT hT ha h
   exact (afh ht h1 hl hr d).2
  ·obtain ⟨ds,h1,h2⟩:=ht.desc
   simp only [aBE,hT] at h
   have ll:=SV.aV hl
   have lr:=SV.aV hr
   cases hdesc:ti.desc<;>rw [hdesc] at h h2 ha<;>simp only at h h2<;>first|(cases ha;done)|skip
   ·rename_i fs
    obtain ⟨fields,rfl,h3,h4,h5,_⟩:=h2
    have hf:P.fieldsOf T=fields:=by simp [Program.fieldsOf,h1]
    simp only [Ih,if_true]
    rw [run_equalIn_struct w d T _ _ (by rw [hf];exact h1) h5,hf]
    clear h1 h5 hf ht hdesc ha
    generalize fields.toList=gs at h3 h4
    induction gs generalizing fs z with
    |nil=>
     simp only [List.map_nil] at h3
     subst h3
     cases h
     rfl
    |cons f gs ih=>
     cases fs with
     |nil=>simp at h3
     |cons p fs=>
      obtain ⟨o,U⟩:=p
      simp only [List.map_cons,List.cons.injEq,Prod.mk.injEq] at h3
      obtain ⟨⟨rfl,rfl⟩,h3⟩:=h3
      simp only [aKt] at h
      split at h
      ·rename_i fi hfi
       split at h
       ·rename_i hle
        obtain ⟨x,y,hx,hy,rfl⟩:=abq h
        have hs1:=one f.type fi hfi n _ _ _ hx (PT hle.1)
        have p1:=wA (hte _ _ hfi) w a f.offset (by omega) hs1
        have p2:=wA (hte _ _ hfi) w b f.offset (by omega) hs1
        have e1:=FO hte (w:=w) n f.type fi hfi _ _ _ _ x d (by omega) hx (vF hl f.offset fi.size) (vF hr f.offset fi.size)
        have ih':=ih y fs hy h3 (λg hg=>h4 g (by simp [hg]))
        simp only [Op.eqFields,h4 f (by simp),ne_eq,not_false_eq_true,if_true,Sem.run_bind,p1,p2,e1,Result.andThen_ok]
        cases x
        ·simp
        ·simpa using ih'
       ·cases h
      ·cases h
   ·rename_i m e
    subst h2
    split at h
    ·rename_i ei hei
     have he:=hte e ei hei
     simp only [Ih,if_true]
     rw [El w d m ei.size T e _ _ h1 (he.cu w)]
     clear h1 ht hdesc ha
     generalize (0:Nat)=i at h
     induction m generalizing i z with
     |zero=>cases h;rfl
     |succ m ih=>
      simp only [aHa] at h
      split at h
      ·rename_i hle
       obtain ⟨x,y,hx,hy,rfl⟩:=abq h
       have hs1:=one e ei hei n _ _ _ hx (PT hle.1)
       have p1:=wA he w a (i*ei.size) (by omega) hs1
       have p2:=wA he w b (i*ei.size) (by omega) hs1
       have e1:=FO hte (w:=w) n e ei hei _ _ _ _ x d (by omega) hx (vF hl (i*ei.size) ei.size) (vF hr (i*ei.size) ei.size)
       have ih':=ih y (i+1) hy
       simp only [aap,Sem.run_bind,p1,p2,e1,Result.andThen_ok]
       cases x
       ·simp
       ·simpa using ih'
      ·cases h
    ·cases h
end Sx
end Go.Proofs.YtohjofabochgfaaGreat

namespace Go.Proofs.YtohjofabochgfaaGreat
namespace Sx
open Go
theorem fJ (n:Int):IntKind.u64.wrap n=n%18446744073709551616:=by
 simp only [IntKind.wrap,IntKind.bits,IntKind.signed,Bool.false_and,Bool.false_eq_true,if_false];rfl
theorem ly (n:Int):IntKind.u8.wrap n=n%256:=by
 simp only [IntKind.wrap,IntKind.bits,IntKind.signed,Bool.false_and,Bool.false_eq_true,if_false];rfl
theorem FC {n:Int}:inR n=true ↔-9223372036854775808<=n/\n<=9223372036854775807:=by simp [inR]
theorem agI (n:Int):IntKind.i64.wrap n=if n%18446744073709551616≥9223372036854775808 then n%18446744073709551616-18446744073709551616 else n%18446744073709551616:=by
 have e1:(2:Int)^IntKind.i64.bits=18446744073709551616:=by rfl
 have e2:(2:Int)^(IntKind.i64.bits-1)=9223372036854775808:=by rfl
 simp only [IntKind.wrap,IntKind.signed,Bool.true_and,e1,e2]
 simp only [ge_iff_le,decide_eq_true_eq]
theorem hI {n:Int} (h:inR n=true):IntKind.i64.wrap n=n:=by
 rw [FC] at h
 rw [agI]
 split<;>omega
theorem FB (n:Int):inR (w64 n)=true:=by
 rw [FC,w64,agI]
 split<;>omega
def kL (P:Program) (R:Ctx) (w:World) (s:Sem Value) (x:SV):Prop:=∃ v,s.run P w=.ok v w/\SV.rel R x v
section
variable {P:Program} {R:Ctx} {w:World}
theorem c9 {s:Sem Value} {x:UInt64} (h:s.run P w=.ok (iq x) w):kL P R w s (.u64 x):=⟨_,h,by simp only [SV.rel]⟩
theorem fb {s:Sem Value} {x:UInt8} (h:s.run P w=.ok (vu8 x) w):kL P R w s (.u8 x):=⟨_,h,by simp only [SV.rel]⟩
theorem cP {s:Sem Value} {x:Int} (h:s.run P w=.ok (.int .i64 x) w) (hr:inR x=true):kL P R w s (.int x):=⟨_,h,by simp only [SV.rel,true_and];exact hr⟩
theorem dg {s:Sem Value} {x:Bool} (h:s.run P w=.ok (.bool x) w):kL P R w s (.bool x):=⟨_,h,by simp only [SV.rel]⟩
theorem aA4 (x:UInt64):(x.toNat:Int)<18446744073709551616:=by have:=x.toNat_lt;omega
theorem lt8 (x:UInt8):(x.toNat:Int)<256:=by have:=x.toNat_lt;omega
theorem axj (a b:UInt64):((a.toNat:Int)+b.toNat)%18446744073709551616=((a+b).toNat:Int):=by
 rw [UInt64.toNat_add];omega
theorem W5 (a b:UInt64):((a.toNat:Int)-b.toNat)%18446744073709551616=((a-b).toNat:Int):=by
 have:=aA4 a;have:=aA4 b
 rw [UInt64.toNat_sub];omega
theorem auo (a b:UInt64):((a.toNat:Int)*b.toNat)%18446744073709551616=((a*b).toNat:Int):=by
 rw [UInt64.toNat_mul];simp
theorem aCt (a b:UInt8):((a.toNat:Int)+b.toNat)%256=((a+b).toNat:Int):=by
 rw [UInt8.toNat_add];omega
theorem azD (a b:UInt8):((a.toNat:Int)-b.toNat)%256=((a-b).toNat:Int):=by
 have:=lt8 a;have:=lt8 b
 rw [UInt8.toNat_sub];omega
theorem M4 (a:UInt64):BitVec.ofInt 64 (a.toNat:Int)=a.toBitVec:=by
 apply BitVec.eq_of_toNat_eq
 simp
theorem afD (a:UInt8):BitVec.ofInt 8 (a.toNat:Int)=a.toBitVec:=by
 apply BitVec.eq_of_toNat_eq
 simp
theorem avZ (a b:UInt64):((a.toNat:Int).tdiv b.toNat)%18446744073709551616=((a/b).toNat:Int):=by
 rw [UInt64.toNat_div,Int.tdiv_eq_ediv_of_nonneg (by omega)]
 have h1:((a.toNat/b.toNat:Nat):Int)=(a.toNat:Int)/b.toNat:=by simp
 rw [<-h1]
 have h2:=Nat.div_le_self a.toNat b.toNat
 have h3:=aA4 a
 generalize a.toNat/b.toNat=q at h2⊢
 omega
theorem auB (a b:UInt64):((a.toNat:Int).tmod b.toNat)=((a%b).toNat:Int):=by
 rw [UInt64.toNat_mod,Int.tmod_eq_emod_of_nonneg (by omega)]
 simp
theorem acy (a n:Nat):a<<<n=a*2^n:=Nat.shiftLeft_eq a n
theorem acx (a n:Nat):a>>>n=a/2^n:=Nat.shiftRight_eq_div_pow a n
theorem Xg (a:UInt64) (n:Int) (h:0<=n):((a.toNat:Int)*2^(min n.toNat 64))%18446744073709551616=((bR a n).toNat:Int):=by
 unfold bR
 split
 ·rename_i h2
  have h3:n.toNat<64:=by omega
  have h4:(UInt64.ofNat n.toNat).toNat=n.toNat:=by rw [UInt64.toNat_ofNat'];omega
  rw [show min n.toNat 64=n.toNat by omega,UInt64.toNat_shiftLeft,h4,Nat.mod_eq_of_lt h3,acy]
  simp
 ·rw [show min n.toNat 64=64 by omega]
  simp
theorem Xf (a:UInt64) (n:Int) (h:0<=n):(a.toNat:Int).fdiv (2^(min n.toNat 64))=((bm a n).toNat:Int):=by
 unfold bm
 rw [Int.fdiv_eq_ediv_of_nonneg _ (by exact Int.pow_nonneg (by omega))]
 split
 ·rename_i h2
  have h3:n.toNat<64:=by omega
  have h4:(UInt64.ofNat n.toNat).toNat=n.toNat:=by rw [UInt64.toNat_ofNat'];omega
  rw [show min n.toNat 64=n.toNat by omega,UInt64.toNat_shiftRight,h4,Nat.mod_eq_of_lt h3,acx]
  simp
 ·rw [show min n.toNat 64=64 by omega]
  have:=aA4 a
  simp;omega
theorem aIc (a b:UInt64):((a.toNat:Int)<b.toNat) ↔ a<b:=by rw [UInt64.lt_iff_toNat_lt];omega
theorem aId (a b:UInt64):((a.toNat:Int)<=b.toNat) ↔ a<=b:=by rw [UInt64.le_iff_toNat_le];omega
theorem aKE (a b:UInt8):((a.toNat:Int)<b.toNat) ↔ a<b:=by rw [UInt8.lt_iff_toNat_lt];omega
theorem aKF (a b:UInt8):((a.toNat:Int)<=b.toNat) ↔ a<=b:=by rw [UInt8.le_iff_toNat_le];omega
end
end Sx
end Go.Proofs.YtohjofabochgfaaGreat

namespace Go.Proofs.YtohjofabochgfaaGreat
namespace Sx
open Go
section
variable {P:Program} {R:Ctx} {w:World}
theorem aeH {op:BinOp} {T:TypeId} {X Y:Operand} {a b:Value} (h:op≠ .eql/\op≠ .neq):
 ((do eqGuard op T X Y a b;binOp op T a b):Sem Value).run P w=(binOp op T a b).run P w:=by
 rw [Sem.run_bind]
 have:(eqGuard op T X Y a b).run P w=.ok () w:=by
  unfold eqGuard
  cases op<;>first|(exact absurd rfl h.1)|(exact absurd rfl h.2)|simp
 rw [this,Result.andThen_ok]
theorem avF {a:Int} (h:inR a=true) (n:Nat):inR (a.fdiv (2^n))=true:=by
 rw [FC] at h⊢
 have hp:(0:Int)<2^n:=Int.pow_pos (by omega)
 rw [Int.fdiv_eq_ediv_of_nonneg _ (by omega)]
 have h1:(1:Int)<=2^n:=by omega
 generalize (2:Int)^n=q at hp h1⊢
 constructor
 ·refine (Int.le_ediv_iff_mul_le hp).2 ?_
  omega
 ·by_cases h0:0<=a
  ·have:=Int.ediv_le_self q h0
   omega
  ·have:=Int.ediv_neg_of_neg_of_pos (Int.not_le.1 h0) hp
   omega
theorem aqF {a b:Int} (h:0<=a):0<=a.tmod b/\a.tmod b<=a:=by
 have h1:=Int.tmod_nonneg b h
 have h2:(a.tmod b).natAbs<=a.natAbs:=by
  rw [Int.natAbs_tmod]
  exact Nat.mod_le _ _
 omega
theorem aDT {a b:Int} (h:inR a=true):inR (a.tmod b)=true:=by
 rw [FC] at h⊢
 by_cases h0:0<=a
 ·have:=aqF (b:=b) h0
  omega
 ·have:=aqF (a:= -a) (b:=b) (by omega)
  have e:a= -(-a):=by omega
  rw [e,Int.neg_tmod]
  omega
theorem afZ {te:TE} {T:TypeId} {op:BinOp} {X Y:Operand} {x y z:SV} {a b:Value} (h:(aly te T op x y).run=some z) (ho:op≠ .eql/\op≠ .neq)
 (hx:SV.rel R x a) (hy:SV.rel R y b):kL P R w (do eqGuard op T X Y a b;binOp op T a b) z:=by
 have g:=aeH (P:=P) (w:=w) (T:=T) (X:=X) (Y:=Y) (a:=a) (b:=b) ho
 have start:∀ z,kL P R w (binOp op T a b) z->kL P R w (do eqGuard op T X Y a b;binOp op T a b) z:=λz ⟨v,h1,h2⟩=>⟨v,g.trans h1,h2⟩
 apply start
 clear g start
 unfold aly at h
 split at h<;>(try simp only [SV.rel] at hx hy)
 ·obtain ⟨h1,h2⟩:=OT.aJ h;cases h2;subst hx;rw [hy.1]
  have h1:=of_decide_eq_true h1
  refine c9 ?_
  simp only [binOp,iq,Op.shift,if_neg (Int.not_lt.2 h1),fJ,Sem.run_pure,IntKind.bits]
  rw [Xg _ _ h1]
 ·obtain ⟨h1,h2⟩:=OT.aJ h;cases h2;subst hx;rw [hy.1]
  have h1:=of_decide_eq_true h1
  refine c9 ?_
  simp only [binOp,iq,Op.shift,if_neg (Int.not_lt.2 h1),Sem.run_pure,IntKind.bits]
  rw [Xf _ _ h1]
 ·rename_i n;cases h;subst hx;subst hy
  have h1:(0:Int)<=n.toNat:=by omega
  refine c9 ?_
  simp only [binOp,iq,Op.shift,if_neg (Int.not_lt.2 h1),fJ,Sem.run_pure,IntKind.bits]
  rw [Xg _ _ h1]
 ·rename_i n;cases h;subst hx;subst hy
  have h1:(0:Int)<=n.toNat:=by omega
  refine c9 ?_
  simp only [binOp,iq,Op.shift,if_neg (Int.not_lt.2 h1),Sem.run_pure,IntKind.bits]
  rw [Xf _ _ h1]
 ·obtain ⟨h1,h2⟩:=OT.aJ h;cases h2;rw [hx.1,hy.1]
  have h1:=of_decide_eq_true h1
  refine cP ?_ (FB _)
  simp only [binOp,Op.shift,if_neg (Int.not_lt.2 h1),Sem.run_pure,IntKind.bits]
  rfl
 ·obtain ⟨h1,h2⟩:=OT.aJ h;cases h2;rw [hx.1,hy.1]
  have h1:=of_decide_eq_true h1
  refine cP ?_ (avF hx.2 _)
  simp only [binOp,Op.shift,if_neg (Int.not_lt.2 h1),Sem.run_pure,IntKind.bits]
  rfl
 ·rename_i n;cases h;rw [hx.1];subst hy
  have h1:(0:Int)<=n.toNat:=by omega
  refine cP ?_ (FB _)
  simp only [binOp,iq,Op.shift,if_neg (Int.not_lt.2 h1),Sem.run_pure,IntKind.bits]
  rfl
 ·rename_i n;cases h;rw [hx.1];subst hy
  have h1:(0:Int)<=n.toNat:=by omega
  refine cP ?_ (avF hx.2 _)
  simp only [binOp,iq,Op.shift,if_neg (Int.not_lt.2 h1),Sem.run_pure,IntKind.bits]
  rfl
 ·cases h;subst hx;subst hy
  refine c9 ?_
  simp only [binOp,iq,ne_eq,not_true_eq_false,if_false,Op.intArith,fJ,Sem.run_pure]
  rw [axj]
 ·cases h;subst hx;subst hy
  refine c9 ?_
  simp only [binOp,iq,ne_eq,not_true_eq_false,if_false,Op.intArith,fJ,Sem.run_pure]
  rw [W5]
 ·cases h;subst hx;subst hy
  refine c9 ?_
  simp only [binOp,iq,ne_eq,not_true_eq_false,if_false,Op.intArith,fJ,Sem.run_pure]
  rw [auo]
 ·rename_i b
  obtain ⟨h1,h2⟩:=OT.aJ h;cases h2;subst hx;subst hy
  have h0:¬((b.toNat:Int)=0):=λe=>by
   have:b=0:=UInt64.toNat_inj.1 (by simpa using e)
   simp [this] at h1
  refine c9 ?_
  simp only [binOp,iq,ne_eq,not_true_eq_false,if_false,Op.intDiv,if_neg h0,fJ,Sem.run_pure]
  rw [avZ]
 ·rename_i b
  obtain ⟨h1,h2⟩:=OT.aJ h;cases h2;subst hx;subst hy
  have h0:¬((b.toNat:Int)=0):=λe=>by
   have:b=0:=UInt64.toNat_inj.1 (by simpa using e)
   simp [this] at h1
  refine c9 ?_
  simp only [binOp,iq,ne_eq,not_true_eq_false,if_false,Op.intDiv,if_neg h0,Sem.run_pure]
  rw [auB]
 ·rename_i a b
  cases h;subst hx;subst hy
  refine c9 ?_
  have:=aA4 (a&&&b)
  simp only [binOp,iq,ne_eq,not_true_eq_false,if_false,Op.intBits,fJ,Sem.run_pure]
  rw [show IntKind.u64.bits=64 from rfl,M4,M4,<-UInt64.toBitVec_and,UInt64.toNat_toBitVec]
  congr 2
  omega
 ·rename_i a b
  cases h;subst hx;subst hy
  refine c9 ?_
  have:=aA4 (a|||b)
  simp only [binOp,iq,ne_eq,not_true_eq_false,if_false,Op.intBits,fJ,Sem.run_pure]
  rw [show IntKind.u64.bits=64 from rfl,M4,M4,<-UInt64.toBitVec_or,UInt64.toNat_toBitVec]
  congr 2
  omega
 ·rename_i a b
  cases h;subst hx;subst hy
  refine c9 ?_
  have:=aA4 (a^^^b)
  simp only [binOp,iq,ne_eq,not_true_eq_false,if_false,Op.intBits,fJ,Sem.run_pure]
  rw [show IntKind.u64.bits=64 from rfl,M4,M4,<-UInt64.toBitVec_xor,UInt64.toNat_toBitVec]
  congr 2
  omega
 ·rename_i a b
  cases h;subst hx;subst hy
  refine dg ?_
  simp only [binOp,iq,ne_eq,not_true_eq_false,if_false,Op.intCmp,Sem.run_pure,gt_iff_lt,ge_iff_le]
  simp only [aIc]
 ·rename_i a b
  cases h;subst hx;subst hy
  refine dg ?_
  simp only [binOp,iq,ne_eq,not_true_eq_false,if_false,Op.intCmp,Sem.run_pure,gt_iff_lt,ge_iff_le]
  simp only [aId]
 ·rename_i a b
  cases h;subst hx;subst hy
  refine dg ?_
  simp only [binOp,iq,ne_eq,not_true_eq_false,if_false,Op.intCmp,Sem.run_pure,gt_iff_lt,ge_iff_le]
  simp only [aIc]
 ·rename_i a b
  cases h;subst hx;subst hy
  refine dg ?_
  simp only [binOp,iq,ne_eq,not_true_eq_false,if_false,Op.intCmp,Sem.run_pure,gt_iff_lt,ge_iff_le]
  simp only [aId]
 ·cases h;subst hx;subst hy
  refine fb ?_
  simp only [binOp,vu8,ne_eq,not_true_eq_false,if_false,Op.intArith,ly,Sem.run_pure]
  rw [aCt]
 ·cases h;subst hx;subst hy
  refine fb ?_
  simp only [binOp,vu8,ne_eq,not_true_eq_false,if_false,Op.intArith,ly,Sem.run_pure]
  rw [azD]
 ·rename_i a b
  cases h;subst hx;subst hy
  refine fb ?_
  have:=lt8 (a&&&b)
  simp only [binOp,vu8,ne_eq,not_true_eq_false,if_false,Op.intBits,ly,Sem.run_pure]
  rw [show IntKind.u8.bits=8 from rfl,afD,afD,<-UInt8.toBitVec_and,UInt8.toNat_toBitVec]
  congr 2
  omega
 ·rename_i a b
  cases h;subst hx;subst hy
  refine fb ?_
  have:=lt8 (a|||b)
  simp only [binOp,vu8,ne_eq,not_true_eq_false,if_false,Op.intBits,ly,Sem.run_pure]
  rw [show IntKind.u8.bits=8 from rfl,afD,afD,<-UInt8.toBitVec_or,UInt8.toNat_toBitVec]
  congr 2
  omega
 ·rename_i a b
  cases h;subst hx;subst hy
  refine fb ?_
  have:=lt8 (a^^^b)
  simp only [binOp,vu8,ne_eq,not_true_eq_false,if_false,Op.intBits,ly,Sem.run_pure]
  rw [show IntKind.u8.bits=8 from rfl,afD,afD,<-UInt8.toBitVec_xor,UInt8.toNat_toBitVec]
  congr 2
  omega
 ·rename_i a n
  obtain ⟨h1,h2⟩:=OT.aJ h;cases h2;subst hx;rw [hy.1]
  simp only [Bool.and_eq_true,decide_eq_true_eq] at h1
  refine fb ?_
  have h4:(UInt8.ofNat n.toNat).toNat=n.toNat:=by rw [UInt8.toNat_ofNat'];omega
  have h3:n.toNat<8:=by omega
  simp only [binOp,vu8,Op.shift,if_neg (Int.not_lt.2 h1.1),Sem.run_pure,IntKind.bits]
  rw [Int.fdiv_eq_ediv_of_nonneg _ (by exact Int.pow_nonneg (by omega)),show min n.toNat 8=n.toNat by omega,UInt8.toNat_shiftRight,h4,Nat.mod_eq_of_lt h3,acx]
  simp
 ·rename_i a n
  obtain ⟨h1,h2⟩:=OT.aJ h;cases h2;subst hx;rw [hy.1]
  simp only [Bool.and_eq_true,decide_eq_true_eq] at h1
  refine fb ?_
  have h4:(UInt8.ofNat n.toNat).toNat=n.toNat:=by rw [UInt8.toNat_ofNat'];omega
  have h3:n.toNat<8:=by omega
  simp only [binOp,vu8,Op.shift,if_neg (Int.not_lt.2 h1.1),ly,Sem.run_pure,IntKind.bits]
  rw [show min n.toNat 8=n.toNat by omega,UInt8.toNat_shiftLeft,h4,Nat.mod_eq_of_lt h3,acy]
  simp
 ·rename_i a n
  obtain ⟨h1,h2⟩:=OT.aJ h;cases h2;subst hx;subst hy
  have h3:n.toNat<8:=of_decide_eq_true h1
  refine fb ?_
  have h4:(UInt8.ofNat n.toNat).toNat=n.toNat:=by rw [UInt8.toNat_ofNat'];omega
  have h0:(0:Int)<=(n.toNat:Int):=by omega
  simp only [binOp,vu8,iq,Op.shift,if_neg (Int.not_lt.2 h0),Sem.run_pure,IntKind.bits]
  rw [Int.fdiv_eq_ediv_of_nonneg _ (by exact Int.pow_nonneg (by omega)),Int.toNat_natCast,show min n.toNat 8=n.toNat by omega,UInt8.toNat_shiftRight,h4,Nat.mod_eq_of_lt h3,acx]
  simp
 ·rename_i a n
  obtain ⟨h1,h2⟩:=OT.aJ h;cases h2;subst hx;subst hy
  have h3:n.toNat<8:=of_decide_eq_true h1
  refine fb ?_
  have h4:(UInt8.ofNat n.toNat).toNat=n.toNat:=by rw [UInt8.toNat_ofNat'];omega
  have h0:(0:Int)<=(n.toNat:Int):=by omega
  simp only [binOp,vu8,iq,Op.shift,if_neg (Int.not_lt.2 h0),ly,Sem.run_pure,IntKind.bits]
  rw [Int.toNat_natCast,show min n.toNat 8=n.toNat by omega,UInt8.toNat_shiftLeft,h4,Nat.mod_eq_of_lt h3,acy]
  simp
 ·rename_i a b
  cases h;subst hx;subst hy
  refine dg ?_
  simp only [binOp,vu8,ne_eq,not_true_eq_false,if_false,Op.intCmp,Sem.run_pure,gt_iff_lt,ge_iff_le]
  simp only [aKE]
 ·rename_i a b
  cases h;subst hx;subst hy
  refine dg ?_
  simp only [binOp,vu8,ne_eq,not_true_eq_false,if_false,Op.intCmp,Sem.run_pure,gt_iff_lt,ge_iff_le]
  simp only [aKF]
 ·rename_i a b
  cases h;subst hx;subst hy
  refine dg ?_
  simp only [binOp,vu8,ne_eq,not_true_eq_false,if_false,Op.intCmp,Sem.run_pure,gt_iff_lt,ge_iff_le]
  simp only [aKE]
 ·rename_i a b
  cases h;subst hx;subst hy
  refine dg ?_
  simp only [binOp,vu8,ne_eq,not_true_eq_false,if_false,Op.intCmp,Sem.run_pure,gt_iff_lt,ge_iff_le]
  simp only [aKF]
 ·obtain ⟨h1,h2⟩:=OT.aJ h;cases h2;rw [hx.1,hy.1]
  refine cP ?_ h1
  simp only [binOp,ne_eq,not_true_eq_false,if_false,Op.intArith,Sem.run_pure,hI h1]
 ·obtain ⟨h1,h2⟩:=OT.aJ h;cases h2;rw [hx.1,hy.1]
  refine cP ?_ h1
  simp only [binOp,ne_eq,not_true_eq_false,if_false,Op.intArith,Sem.run_pure,hI h1]
 ·obtain ⟨h1,h2⟩:=OT.aJ h;cases h2;rw [hx.1,hy.1]
  refine cP ?_ h1
  simp only [binOp,ne_eq,not_true_eq_false,if_false,Op.intArith,Sem.run_pure,hI h1]
 ·rename_i a b
  obtain ⟨h1,h2⟩:=OT.aJ h;cases h2;rw [hx.1,hy.1]
  simp only [Bool.and_eq_true,Bool.not_eq_true',beq_eq_false_iff_ne,ne_eq] at h1
  refine cP ?_ h1.2
  simp only [binOp,ne_eq,not_true_eq_false,if_false,Op.intDiv,if_neg h1.1,Sem.run_pure,hI h1.2]
 ·rename_i a b
  obtain ⟨h1,h2⟩:=OT.aJ h;cases h2;rw [hx.1,hy.1]
  simp only [Bool.not_eq_true',beq_eq_false_iff_ne,ne_eq] at h1
  refine cP ?_ (aDT hx.2)
  simp only [binOp,ne_eq,not_true_eq_false,if_false,Op.intDiv,if_neg h1,Sem.run_pure]
 ·cases h;rw [hx.1,hy.1]
  refine cP ?_ (FB _)
  simp only [binOp,ne_eq,not_true_eq_false,if_false,Op.intBits,Sem.run_pure]
  rfl
 ·cases h;rw [hx.1,hy.1]
  refine cP ?_ (FB _)
  simp only [binOp,ne_eq,not_true_eq_false,if_false,Op.intBits,Sem.run_pure]
  rfl
 ·cases h;rw [hx.1,hy.1]
  refine cP ?_ (FB _)
  simp only [binOp,ne_eq,not_true_eq_false,if_false,Op.intBits,Sem.run_pure]
  rfl
 ·cases h;rw [hx.1,hy.1]
  refine dg ?_
  simp only [binOp,ne_eq,not_true_eq_false,if_false,Op.intCmp,Sem.run_pure,gt_iff_lt,ge_iff_le]
  congr
 ·cases h;rw [hx.1,hy.1]
  refine dg ?_
  simp only [binOp,ne_eq,not_true_eq_false,if_false,Op.intCmp,Sem.run_pure,gt_iff_lt,ge_iff_le]
  congr
 ·cases h;rw [hx.1,hy.1]
  refine dg ?_
  simp only [binOp,ne_eq,not_true_eq_false,if_false,Op.intCmp,Sem.run_pure,gt_iff_lt,ge_iff_le]
  congr
 ·cases h;rw [hx.1,hy.1]
  refine dg ?_
  simp only [binOp,ne_eq,not_true_eq_false,if_false,Op.intCmp,Sem.run_pure,gt_iff_lt,ge_iff_le]
  congr
 ·exact absurd rfl ho.1
 ·exact absurd rfl ho.2
 ·cases h
end
end Sx
end Go.Proofs.YtohjofabochgfaaGreat

namespace Go.Proofs.YtohjofabochgfaaGreat
namespace Sx
open Go
section
variable {P:Program} {R:Ctx} {w:World}
def eqv (op:BinOp) (z:Bool):Bool:=match op with|.eql=>z|_=> !z
theorem fO {op:BinOp} {T:TypeId} {X Y:Operand} {a b:Value} {v:Value} (hg:(eqGuard op T X Y a b).run P w=.ok () w) (h:(binOp op T a b).run P w=.ok v w):
 ((do eqGuard op T X Y a b;binOp op T a b):Sem Value).run P w=.ok v w:=by
 rw [Sem.run_bind,hg,Result.andThen_ok,h]
theorem aG8 {op:BinOp} {T:TypeId} {X Y:Operand} {xs ys:Array Value} {z:Bool} (ho:op=.eql\/op=.neq) (hg:P.eqGuardType P.depth T=false)
 (h:(Op.equalIn 10000 T (.agg xs) (.agg ys)).run P w=.ok z w):((do eqGuard op T X Y (.agg xs) (.agg ys);binOp op T (.agg xs) (.agg ys)):Sem Value).run P w=.ok (.bool (eqv op z)) w:=by
 refine fO (run_eqGuard_agg w op T X Y xs ys hg) ?_
 rcases ho with rfl|rfl
 ·rw [run_eql_struct,h];rfl
 ·rw [run_neq_struct,h];rfl
theorem aBD {op:BinOp} {T:TypeId} {X Y:Operand} {a b:Bool} (ho:op=.eql\/op=.neq) (hT:P.underlying T=some .bool):
 ((do eqGuard op T X Y (.bool a) (.bool b);binOp op T (.bool a) (.bool b)):Sem Value).run P w=.ok (.bool (eqv op (a==b))) w:=by
 have h:(Op.equal T (.bool a) (.bool b)).run P w=.ok (a==b) w:=run_equalIn_bool' w 9999 T a b hT
 refine fO ?_ ?_
 ·rcases ho with rfl|rfl<;>simp [eqGuard]
 ·rcases ho with rfl|rfl<;>simp [binOp,h,eqv]
theorem afg {op:BinOp} {T:TypeId} {X Y:Operand} {k:IntKind} {a b:Int} (ho:op=.eql\/op=.neq):
 ((do eqGuard op T X Y (.int k a) (.int k b);binOp op T (.int k a) (.int k b)):Sem Value).run P w=.ok (.bool (eqv op (a==b))) w:=by
 refine fO ?_ ?_
 ·rcases ho with rfl|rfl<;>simp [eqGuard]
 ·rcases ho with rfl|rfl
  ·simp [binOp,Op.intCmp,eqv]
  ·simp only [binOp,ne_eq,not_true_eq_false,if_false,Op.intCmp,Sem.run_pure,eqv];rfl
theorem aG7 {op:BinOp} {T:TypeId} {X Y:Operand} {a b:List UInt8} (ho:op=.eql\/op=.neq):
 ((do eqGuard op T X Y (.string ⟨a.toArray⟩) (.string ⟨b.toArray⟩);binOp op T (.string ⟨a.toArray⟩) (.string ⟨b.toArray⟩)):Sem Value).run P w=.ok (.bool (eqv op (a==b))) w:=by
 have h:=arZ a b
 refine fO ?_ ?_
 ·rcases ho with rfl|rfl<;>simp [eqGuard]
 ·rcases ho with rfl|rfl
  ·simp only [binOp,Op.stringOp,Sem.run_pure,h,eqv]
  ·simp only [binOp,Op.stringOp,Sem.run_pure,h,eqv]
theorem avT {T E:TypeId} {a b:Option Addr} {z:Bool} (hT:P.underlying T=some (.pointer E)) (hz:(a=none/\z=b.isNone)\/(b=none/\z=a.isNone)) (d:Nat):
 (Op.equalIn (d+1) T (.pointer a) (.pointer b)).run P w=.ok z w:=by
 rcases hz with ⟨rfl,rfl⟩|⟨rfl,rfl⟩
 ·simp [Op.equalIn,run_underlying hT]
 ·cases a<;>simp [Op.equalIn,run_underlying hT]
theorem aan {T t:TypeId} {ms:Array (String×TypeId)} {v:Value} (hT:P.underlying T=some (.interface ms)) (d:Nat):
 (Op.equalIn (d+1) T .nilIface (.iface t v)).run P w=.ok false w:=by
 simp [Op.equalIn,run_underlying hT]
theorem aam {T t:TypeId} {ms:Array (String×TypeId)} {v:Value} (hT:P.underlying T=some (.interface ms)) (d:Nat):
 (Op.equalIn (d+1) T (.iface t v) .nilIface).run P w=.ok false w:=by
 simp [Op.equalIn,run_underlying hT]
theorem Vz {op:BinOp} {T E:TypeId} {X Y:Operand} {a b:Option Addr} {z:Bool} (ho:op=.eql\/op=.neq) (hT:P.underlying T=some (.pointer E))
 (hz:(a=none/\z=b.isNone)\/(b=none/\z=a.isNone)):
 ((do eqGuard op T X Y (.pointer a) (.pointer b);binOp op T (.pointer a) (.pointer b)):Sem Value).run P w=.ok (.bool (eqv op z)) w:=by
 have h:(Op.equal T (.pointer a) (.pointer b)).run P w=.ok z w:=avT hT hz 9999
 refine fO ?_ ?_
 ·rcases ho with rfl|rfl<;>simp [eqGuard]
 ·rcases ho with rfl|rfl<;>simp [binOp,h,eqv]
theorem aoV {op:BinOp} {T t:TypeId} {X Y:Operand} {ms:Array (String×TypeId)} {v:Value} (ho:op=.eql\/op=.neq) (hT:P.underlying T=some (.interface ms)):
 ((do eqGuard op T X Y .nilIface (.iface t v);binOp op T .nilIface (.iface t v)):Sem Value).run P w=.ok (.bool (eqv op false)) w:=by
 have h:(Op.equal T .nilIface (.iface t v)).run P w=.ok false w:=aan hT 9999
 refine fO ?_ ?_
 ·rcases ho with rfl|rfl<;>simp [eqGuard]
 ·rcases ho with rfl|rfl<;>simp [binOp,h,eqv]
theorem aoU {op:BinOp} {T t:TypeId} {X Y:Operand} {ms:Array (String×TypeId)} {v:Value} (ho:op=.eql\/op=.neq) (hT:P.underlying T=some (.interface ms)):
 ((do eqGuard op T X Y (.iface t v) .nilIface;binOp op T (.iface t v) .nilIface):Sem Value).run P w=.ok (.bool (eqv op false)) w:=by
 have h:(Op.equal T (.iface t v) .nilIface).run P w=.ok false w:=aam hT 9999
 refine fO ?_ ?_
 ·rcases ho with rfl|rfl<;>simp [eqGuard]
 ·rcases ho with rfl|rfl<;>simp [binOp,h,eqv]
theorem aph {op:BinOp} {T:TypeId} {X Y:Operand} {x y:SV} {a b:Value} {z:Bool} (ho:op=.eql\/op=.neq) (h:awo x y=some z) (hx:SV.rel R x a) (hy:SV.rel R y b):
 ((do eqGuard op T X Y a b;binOp op T a b):Sem Value).run P w=.ok (.bool (eqv op z)) w:=by
 unfold awo at h
 split at h<;>first|(cases h;done)|skip
 all_goals (simp only [SV.rel] at hx hy;cases h)
 ·subst hx;subst hy
  rw [<-aqB];exact afg ho
 ·subst hx;subst hy
  rw [<-aCA];exact afg ho
 ·rw [hx.1,hy.1];exact afg ho
 ·rw [hx.1,hy.1];exact aG7 ho
theorem RL {te:TE} (hte:mZ P te) {op:BinOp} {T:TypeId} {X Y:Operand} {x y:SV} {a b:Value} {z:Bool} (ho:op=.eql\/op=.neq) (h:aHZ te T x y=some z) (hx:SV.rel R x a) (hy:SV.rel R y b):
 ((do eqGuard op T X Y a b;binOp op T a b):Sem Value).run P w=.ok (.bool (eqv op z)) w:=by
 unfold aHZ at h
 split at h
 ·cases h
 ·rename_i ti hT
  have ht:=hte T ti hT
  have agg:∀ (l r:List SV) (z:Bool),ti.desc.agg=true->(if ti.ty.isSome=true then aBE te 20 T l r else none)=some z->SV.rel R (.agg l) a->SV.rel R (.agg r) b->
   ((do eqGuard op T X Y a b;binOp op T a b):Sem Value).run P w=.ok (.bool (eqv op z)) w:=λl r z hd h hx hy=>by
   simp only [SV.rel] at hx hy
   obtain ⟨vs,rfl,hl,_⟩:=hx
   obtain ⟨us,rfl,hr,_⟩:=hy
   split at h
   ·rename_i hs
    obtain ⟨t,hty⟩:=Option.isSome_iff_exists.1 hs
    have he:=FO hte (w:=w) 20 T ti hT l r vs us z 10000 (by omega) h hl hr
    simp only [Ih,hd,if_true] at he
    exact aG8 ho ((ht.ty t hty).2.2 hd) he
   ·cases h
  obtain ⟨d,h1,h2⟩:=ht.desc
  split at h
  ·rename_i hd;exact agg _ _ _ (by rw [hd];rfl) h hx hy
  ·rename_i hd;exact agg _ _ _ (by rw [hd];rfl) h hx hy
  ·rename_i hd;rw [hd] at h2;obtain ⟨⟨E,rfl⟩,_⟩:=h2;cases h
   simp only [SV.rel] at hx hy;obtain ⟨⟨ad,rfl⟩,_⟩:=hx;subst hy
   exact Vz ho h1 (.inr ⟨rfl,rfl⟩)
  ·rename_i hd;rw [hd] at h2;obtain ⟨⟨E,rfl⟩,_⟩:=h2;cases h
   simp only [SV.rel] at hx hy;obtain ⟨_,b,o,arr,E,fz,rfl,_⟩:=hx;subst hy
   exact Vz ho h1 (.inr ⟨rfl,rfl⟩)
  ·rename_i hd;rw [hd] at h2;obtain ⟨⟨E,rfl⟩,_⟩:=h2;cases h
   simp only [SV.rel] at hx hy;obtain ⟨⟨ad,rfl⟩,_⟩:=hy;subst hx
   exact Vz ho h1 (.inl ⟨rfl,rfl⟩)
  ·rename_i hd;rw [hd] at h2;obtain ⟨⟨E,rfl⟩,_⟩:=h2;cases h
   simp only [SV.rel] at hx hy;subst hx;subst hy
   exact Vz ho h1 (.inl ⟨rfl,rfl⟩)
  ·rename_i hd;rw [hd] at h2;obtain ⟨ms,rfl⟩:=h2;cases h
   simp only [SV.rel] at hx hy;subst hx;obtain ⟨u,rfl,_⟩:=hy
   exact aoV ho h1
  ·rename_i hd;rw [hd] at h2;obtain ⟨ms,rfl⟩:=h2;cases h
   simp only [SV.rel] at hx hy;subst hy;obtain ⟨u,rfl,_⟩:=hx
   exact aoU ho h1
  ·rename_i hd;rw [hd] at h2;simp only at h2;subst h2;cases h
   simp only [SV.rel] at hx hy;subst hx;subst hy
   exact aBD ho h1
  ·exact aph ho h hx hy
theorem aba {te:TE} (hte:mZ P te) {T:TypeId} {op:BinOp} {X Y:Operand} {x y z:SV} {a b:Value} (h:(aly te T op x y).run=some z)
 (hx:SV.rel R x a) (hy:SV.rel R y b):kL P R w (do eqGuard op T X Y a b;binOp op T a b) z:=by
 by_cases h1:op=.eql
 ·subst h1
  have h':(match aHZ te T x y with|some b=>OT.ok (SV.bool b)|none=>.fail).run=some z:=by
   cases x<;>cases y<;>exact h
  split at h'
  ·rename_i q hq
   cases h'
   exact dg (RL hte (.inl rfl) hq hx hy)
  ·cases h'
 ·by_cases h2:op=.neq
  ·subst h2
   have h':(match aHZ te T x y with|some b=>OT.ok (SV.bool (!b))|none=>.fail).run=some z:=by
    cases x<;>cases y<;>exact h
   split at h'
   ·rename_i q hq
    cases h'
    exact dg (RL hte (.inr rfl) hq hx hy)
   ·cases h'
  ·exact afZ h ⟨h1,h2⟩ hx hy
theorem alZ {op:UnOp} {x z:SV} {a:Value} (h:(aDK op x).run=some z) (hx:SV.rel R x a):kL P R w (Op.unary op a) z:=by
 unfold aDK at h
 split at h<;>(try simp only [SV.rel] at hx)
 ·obtain ⟨h1,h2⟩:=OT.aJ h;cases h2;rw [hx.1]
  exact cP (by simp only [Op.unary,Op.intArith,Sem.run_pure,hI h1]) h1
 ·rename_i a
  cases h;subst hx
  refine c9 ?_
  simp only [iq,Op.unary,Op.intArith,Sem.run_pure,fJ]
  have:=W5 0 a
  simp only [UInt64.toNat_zero] at this
  rw [<-this];rfl
 ·rename_i a
  cases h;subst hx
  refine c9 ?_
  have:=aA4 (~~~a)
  simp only [iq,Op.unary,Op.intBits,Sem.run_pure,fJ,IntKind.signed,Bool.false_eq_true,if_false]
  rw [show IntKind.u64.bits=64 from rfl,M4,show BitVec.ofInt 64 IntKind.u64.max=BitVec.allOnes 64 by decide,BitVec.allOnes_xor,<-UInt64.toBitVec_not,UInt64.toNat_toBitVec]
  congr 2
  omega
 ·rename_i a
  cases h;subst hx
  refine fb ?_
  have:=lt8 (~~~a)
  simp only [vu8,Op.unary,Op.intBits,Sem.run_pure,ly,IntKind.signed,Bool.false_eq_true,if_false]
  rw [show IntKind.u8.bits=8 from rfl,afD,show BitVec.ofInt 8 IntKind.u8.max=BitVec.allOnes 8 by decide,BitVec.allOnes_xor,<-UInt8.toBitVec_not,UInt8.toNat_toBitVec]
  congr 2
  omega
 ·cases h;subst hx
  exact dg rfl
 ·cases h
theorem eZ {src dst:TypeId} {s:TypeDesc} {k k':IntKind} {n:Int} (hs:P.underlying src=some s) (hd:P.underlying dst=some (.int k')):
 (convert src dst (.int k n)).run P w=.ok (.int k' (k'.wrap n)) w:=by
 unfold convert
 simp only [Sem.run_bind,run_underlying hs,run_underlying hd,Result.andThen_ok]
 rfl
theorem VF {te:TE} (hte:mZ P te) {src dst:TypeId} {x z:SV} {a:Value} (h:(I7 te src dst x).run=some z) (hx:SV.rel R x a):
 kL P R w (convert src dst a) z:=by
 unfold I7 at h
 split at h
 ·cases h
 ·cases h
 ·rename_i si ti hS hT
  obtain ⟨s,hs,_⟩:=(hte src si hS).desc
  obtain ⟨d,h1,h2⟩:=(hte dst ti hT).desc
  split at h<;>first|(cases h;done)|skip
  all_goals
   rename_i hd
   rw [hd] at h2
   simp only at h2
   subst h2
   simp only [SV.rel] at hx
  ·cases h;subst hx
   have:=aA4 ‹_›
   exact c9 (by rw [iq,eZ hs h1,fJ];congr 2;omega)
  ·rename_i a
   cases h;subst hx
   have:=lt8 a
   refine c9 ?_
   rw [vu8,eZ hs h1,fJ,iq,UInt8.toNat_toUInt64]
   congr 2;omega
  ·cases h;rw [hx.1]
   refine c9 ?_
   rw [eZ hs h1,fJ,iq,i2u,UInt64.toNat_ofNat']
   congr 2;omega
  ·cases h;subst hx
   refine fb ?_
   rw [iq,eZ hs h1,ly,vu8,UInt64.toNat_toUInt8]
   congr 2
  ·rename_i a
   cases h;subst hx
   have:=lt8 a
   refine fb ?_
   rw [vu8,eZ hs h1,ly]
   congr 2;omega
  ·cases h;rw [hx.1]
   refine fb ?_
   rw [eZ hs h1,ly,vu8,i2b,UInt8.toNat_ofNat']
   congr 2;omega
  ·cases h;subst hx
   refine cP ?_ (FB _)
   rw [iq,eZ hs h1];rfl
  ·rename_i a
   cases h;subst hx
   have hb:=lt8 a
   have:inR (a.toNat:Int)=true:=by rw [FC];omega
   refine cP ?_ this
   rw [vu8,eZ hs h1,hI this]
  ·cases h;rw [hx.1]
   refine cP ?_ hx.2
   rw [eZ hs h1,hI hx.2]
end
end Sx
end Go.Proofs.YtohjofabochgfaaGreat

namespace Go.Proofs.YtohjofabochgfaaGreat
namespace Sx
open Go
section
variable {P:Program} {R:Ctx} {w:World}
def Nu (P:Program) (R:Ctx) (w:World) (s:Sem Value) (e:Eff):Prop:=∃ v w' R',s.run P w=.ok v w'/\fy R R' w' e.upd/\SV.rel R' e.v v
theorem gZ (b o n:Nat):(⟨b,o,none⟩:Addr).add n=⟨b,o+n,none⟩:=by unfold Addr.add;split<;>simp_all
theorem Z8 {te:TE} {fs:List (Nat×TypeId)} {f o:Nat} {fi:TI} (h:fieldAt fs te f=some (o,fi)):∃ U,fs[f]? =some (o,U)/\te U=some fi:=by
 unfold fieldAt at h
 split at h
 ·rename_i o' U hf
  cases hU:te U with
  |none=>rw [hU] at h;cases h
  |some fi'=>
   rw [hU] at h
   cases h
   exact ⟨U,hf,hU⟩
 ·cases h
theorem sE {te:TE} (hte:mZ P te) {S:TypeId} {ti fi:TI} {fs:List (Nat×TypeId)} {f o:Nat} (hS:te S=some ti) (hd:ti.desc=.struct fs) (h:fieldAt fs te f=some (o,fi)):
 ∃ fields fld,P.underlying S=some (.struct fields)/\fields[f]? =some fld/\fld.offset=o/\te fld.type=some fi:=by
 obtain ⟨d,h1,h2⟩:=(hte S ti hS).desc
 rw [hd] at h2
 obtain ⟨fields,rfl,h3,_⟩:=h2
 obtain ⟨U,hf,hU⟩:=Z8 h
 rw [<-h3,List.getElem?_map] at hf
 cases hq:fields.toList[f]? with
 |none=>rw [hq] at hf;cases hf
 |some fld=>
  rw [hq] at hf
  simp only [Option.map_some,Option.some.injEq,Prod.mk.injEq] at hf
  refine ⟨fields,fld,h1,by simpa using hq,hf.1,by rw [hf.2];exact hU⟩
theorem O4 {x z:SV} {v:Value} {o:Nat} (h:(IA x o).run=some z) (hx:SV.rel R x v):∃ ad,v=.pointer (some ad)/\SV.rel R z (.pointer (some (ad.add o))):=by
 unfold IA at h
 split at h
 ·cases h
  simp only [SV.rel] at hx
  obtain ⟨⟨ad,rfl⟩,ch,hc,hle,hp⟩:=hx
  refine ⟨ad,rfl,?_⟩
  simp only [SV.rel]
  refine ⟨⟨_,rfl⟩,ch,hc,hle,λhe=> ?_⟩
  obtain ⟨L,hσ,hv⟩:=hp he
  cases hv
  refine ⟨L,hσ,?_⟩
  rw [gZ]
  simp only [Nat.add_assoc]
 ·cases h
  simp only [SV.rel] at hx
  obtain ⟨h0,b,o',arr,E,fz,rfl,hrest⟩:=hx
  refine ⟨_,rfl,?_⟩
  simp only [SV.rel]
  refine ⟨h0,b,o',arr,E,fz,?_,hrest⟩
  rw [gZ,Nat.add_assoc]
 ·cases h
theorem Mt {te:TE} (hte:mZ P te) {S:TypeId} {ti fi:TI} {fs:List (Nat×TypeId)} {f o:Nat} {x z:SV} {v:Value} (hS:te S=some ti) (hd:ti.desc=.struct fs) (hf:fieldAt fs te f=some (o,fi))
 (h0:fi.size≠0) (h:(IA x o).run=some z) (hx:SV.rel R x v):kL P R w (Instr.fieldAt S v f) z:=by
 obtain ⟨fields,fld,h1,h2,h3,h4⟩:=sE hte hS hd hf
 obtain ⟨ad,rfl,hz⟩:=O4 h hx
 refine ⟨_,?_,hz⟩
 simp only [Instr.fieldAt,Sem.run_bind,run_underlying h1,Result.andThen_ok,h2,Instr.sureAddr,Sem.run_pure,fieldPlace,(hte _ _ h4).cu w,h0,if_false,h3]
theorem zE {k:Int} {n:Nat}:inB k n=true ↔ 0<=k/\k<(n:Int):=by simp [inB]
theorem lL {kd:IntKind} {T:TypeId} {k:Int} {n:Nat} {ei:TI} {e:TypeId} (he:bo P e ei) (hk:inB k n=true) {x:Value} {ad:Addr}
 (h:(P.underlying T=some (.array n e)/\x=.pointer (some ad))\/(P.underlying T=some (.slice e)/\∃ cap,x=.slice (some ad) n cap)):
 (Instr.indexAt T x (.int kd k)).run P w=.ok (.pointer (some (ad.add (k.toNat*ei.size)))) w:=by
 have hk:=zE.1 hk
 rcases h with ⟨h1,rfl⟩|⟨h1,cap,rfl⟩
 ·simp only [Instr.indexAt,asIntOf,Sem.run_bind,Sem.run_pure,Result.andThen_ok,run_underlying h1,Instr.sureAddr,Sem.run_ite,he.cu w]
  rw [if_pos hk]
 ·simp only [Instr.indexAt,asIntOf,Sem.run_bind,Sem.run_pure,Result.andThen_ok,run_underlying h1,Sem.run_ite,he.cu w]
  rw [if_pos hk]
theorem dm {hp:Hp} {c e n:Nat} (h:eI hp c e=some n):∃ b,hp c=some ⟨e,b⟩/\b.shape.1=true/\b.shape.2.2=n:=by
 unfold eI at h
 split at h
 ·rename_i t xs hc;exact ⟨_,cH hc,rfl,Option.some.inj h⟩
 ·rename_i t xs hc;exact ⟨_,cH hc,rfl,Option.some.inj h⟩
 ·cases h
theorem dB {hp:Hp} {c e n:Nat} (h:dG hp c e=some n):∃ b,hp c=some ⟨e,b⟩/\b.shape.1=true/\b.shape.2.1=n:=by
 unfold dG at h
 split at h
 ·rename_i t xs hc;exact ⟨_,cH hc,rfl,Option.some.inj h⟩
 ·rename_i t xs hc;exact ⟨_,cH hc,rfl,Option.some.inj h⟩
 ·cases h
theorem Fk {kd:IntKind} {c e off len s:Nat} {v:Value} {b:Chunk} {T el:TypeId} {ei:TI} {k:Int} (he:bo P el ei) (hT:P.underlying T=some (.slice el)) (hc:R.hp c=some ⟨e,b⟩) (hs:b.shape.2.1=s) (hes:s=ei.size)
 (h:R.part c e off len v) (hk:inB k len=true):kL P R w (Instr.indexAt T v (.int kd k)) (.ptr c e (k.toNat+off) 0):=by
 obtain ⟨h1,h2,ad,cap,rfl,h4,h5⟩:=Ctx.di hc h
 have hk':=zE.1 hk
 cases hσ:R.σ c with
 |none=>rw [hσ] at h5;simp only at h5;omega
 |some L=>
  rw [hσ] at h5
  obtain ⟨_,h6⟩:=h5
  have:=h6 (by omega)
  subst this
  refine ⟨_,lL he hk (.inr ⟨hT,cap,rfl⟩),?_⟩
  rw [gZ]
  simp only [SV.rel]
  refine ⟨⟨_,rfl⟩,_,hc,Nat.le_refl _,λ_=>⟨L,hσ,?_⟩⟩
  simp only
  rw [hs,<-hes,Nat.add_mul]
  congr 3
  omega
theorem LW {kd:IntKind} {te:TE} (hte:mZ P te) {T:TypeId} {x z:SV} {v:Value} {k:Int} (h:(indexAddr te R.hp T x k).run=some z) (hx:SV.rel R x v):
 kL P R w (Instr.indexAt T v (.int kd k)) z:=by
 unfold indexAddr at h
 split at h
 ·cases h
 ·rename_i ti hT
  obtain ⟨d,h1,h2⟩:=(hte T ti hT).desc
  split at h
  ·rename_i n e hd
   rw [hd] at h2
   simp only at h2
   subst h2
   split at h
   ·cases h
   ·rename_i ei hei
    have he:=hte e ei hei
    split at h
    ·rename_i c ep i off
     simp only [SV.rel] at hx
     obtain ⟨⟨ad,rfl⟩,hp⟩:=hx
     split at h
     ·rename_i hcond
      obtain ⟨h0,hrs⟩:=hcond
      obtain ⟨hk,h'⟩:=OT.aJ h
      cases h'
      obtain ⟨b,hc,hb1,hb2⟩:=dB hrs
      refine ⟨_,lL he hk (.inl ⟨h1,rfl⟩),?_⟩
      obtain ⟨ch,hc',hle,hp⟩:=hp
      rw [hc] at hc'
      cases Option.some.inj hc'
      obtain ⟨L,hσ,hv⟩:=hp rfl
      cases hv
      subst h0
      simp only [SV.rel]
      refine ⟨⟨_,rfl⟩,_,hc,Nat.le_refl _,λ_=>⟨L,hσ,?_⟩⟩
      rw [gZ]
      simp only
      rw [hb2,Nat.add_mul]
      congr 3
      omega
     ·split at h
      ·obtain ⟨hk,h'⟩:=OT.aJ h
       cases h'
       refine ⟨_,lL he hk (.inl ⟨h1,rfl⟩),?_⟩
       obtain ⟨ch,hc,hle,hp⟩:=hp
       simp only [SV.rel]
       refine ⟨⟨_,rfl⟩,ch,hc,hle,λe=> ?_⟩
       obtain ⟨L,hσ,hv⟩:=hp e
       cases hv
       refine ⟨L,hσ,?_⟩
       rw [gZ]
       simp only [Nat.add_assoc]
      ·cases h
    ·rename_i t xs i off
     obtain ⟨hk,h'⟩:=OT.aJ h
     cases h'
     simp only [SV.rel] at hx
     obtain ⟨h0,b,o',arr,E,fz,rfl,hrest⟩:=hx
     refine ⟨_,lL he hk (.inl ⟨h1,rfl⟩),?_⟩
     simp only [SV.rel]
     refine ⟨h0,b,o',arr,E,fz,?_,hrest⟩
     rw [gZ,Nat.add_assoc]
    ·cases h
  ·rename_i e hd
   rw [hd] at h2
   simp only at h2
   subst h2
   split at h
   ·cases h
   ·rename_i ei hei
    have he:=hte e ei hei
    split at h
    ·rename_i c ep
     split at h
     ·rename_i n hn
      split at h
      ·rename_i hrs
       obtain ⟨hk,h'⟩:=OT.aJ h
       cases h'
       simp only [SV.rel] at hx
       obtain ⟨b,hc,hb1,hb2⟩:=dB hrs
       obtain ⟨b',hc',hb3,hb4⟩:=dm hn
       rw [hc] at hc'
       cases Option.some.inj hc'
       have:=Ctx.dl hc hx.2
       rw [hb4] at this
       exact Fk he h1 hc hb2 rfl this hk
      ·cases h
     ·cases h
    ·rename_i c ep
     split at h
     ·rename_i n hn
      split at h
      ·rename_i hrs
       obtain ⟨hk,h'⟩:=OT.aJ h
       cases h'
       simp only [SV.rel] at hx
       obtain ⟨b,hc,hb1,hb2⟩:=dB hrs
       obtain ⟨b',hc',hb3,hb4⟩:=dm hn
       rw [hc] at hc'
       cases Option.some.inj hc'
       have:=Ctx.dl hc hx.2.1
       rw [hb4] at this
       exact Fk he h1 hc hb2 rfl this hk
      ·cases h
     ·cases h
    ·rename_i c ep off len
     split at h
     ·rename_i hrs
      obtain ⟨hk,h'⟩:=OT.aJ h
      cases h'
      simp only [SV.rel] at hx
      obtain ⟨b,hc,hb1,hb2⟩:=dB hrs
      exact Fk he h1 hc hb2 rfl hx.2 hk
     ·cases h
    ·rename_i t xs
     split at h
     ·rename_i hts
      obtain ⟨hk,h'⟩:=OT.aJ h
      cases h'
      simp only [SV.rel] at hx
      obtain ⟨_,ad,cap,hcs,hcap,hor⟩:=hx
      cases hcs
      have hk':=zE.1 hk
      rcases hor with rfl|⟨b,o,arr,E,fz,rfl,hF,hsz,hrow⟩
      ·simp at hk';omega
      ·have hi:k.toNat<xs.length:=by omega
       have hle:(k.toNat+1)*t.size<=xs.length*t.size:=Nat.mul_le_mul_right _ hi
       rw [Nat.succ_mul] at hle
       refine ⟨_,lL he hk (.inr ⟨h1,cap,rfl⟩),?_⟩
       rw [gZ]
       simp only [SV.rel]
       refine ⟨hi,b,o+k.toNat*t.size,arr,E,fz,by rw [hts];rfl,hF,by omega,hrow _ hi⟩
     ·cases h
    ·cases h
  ·cases h
theorem ame (hm:dt R w) {c e:Nat} {b:Chunk} (hc:R.hp c=some ⟨e,b⟩) (hb:b.shape.1=true):b.shape.2.2<=cW:=by
 have:=hm.ch c _ hc
 cases b with
 |row t xs=>simp only [eV] at this;exact this.2.1
 |frz t xs=>simp only [eV] at this;exact this.2.1
 |cells vs=>cases hb
theorem aeG {n:Nat} (h:n<=cW):inR (n:Int)=true:=by
 rw [FC];unfold cW at h;omega
theorem aeC (hm:dt R w) {te:TE} (hte:mZ P te) {T Tr:TypeId} {Ts:List TypeId} {x z:SV} {v:Value} (h:(Pm te R.hp T x).run=some z) (hx:SV.rel R x v):
 kL P R w (Builtin.len_ (T::Ts).toArray Tr #[v]) z:=by
 unfold Pm at h
 split at h
 ·cases h
 ·rename_i ti hT
  obtain ⟨d,h1,h2⟩:=(hte T ti hT).desc
  have sl:∀ e ad n cap,d=.slice e->n<=cW->kL P R w (Builtin.len_ (T::Ts).toArray Tr #[.slice ad n cap]) (.int n):=λe ad n cap hd hn=>by
   subst hd
   refine cP ?_ (aeG hn)
   simp [Builtin.len_,run_underlying h1,goInt]
  have pt:∀ e c ep off len,d=.slice e->(∃ n,eI R.hp c ep=some n)->R.part c ep off len v->kL P R w (Builtin.len_ (T::Ts).toArray Tr #[v]) (.int len):=λe c ep off len hd hn hp=>by
   obtain ⟨n,hn⟩:=hn
   obtain ⟨b,hc,hb1,hb2⟩:=dm hn
   obtain ⟨_,hle,ad,cap,rfl,_⟩:=Ctx.di hc hp
   have:=ame hm hc hb1
   exact sl e _ _ _ hd (by omega)
  split at h
  ·rename_i e c ep hd
   rw [hd] at h2
   simp only at h2
   split at h
   ·rename_i n hn
    cases h
    simp only [SV.rel] at hx
    obtain ⟨b,hc,hb1,hb2⟩:=dm hn
    have:=Ctx.dl hc hx.2
    rw [hb2] at this
    exact pt e c ep 0 n h2 ⟨n,hn⟩ this
   ·cases h
  ·rename_i e c ep hd
   rw [hd] at h2
   simp only at h2
   split at h
   ·rename_i n hn
    cases h
    simp only [SV.rel] at hx
    obtain ⟨b,hc,hb1,hb2⟩:=dm hn
    have:=Ctx.dl hc hx.2.1
    rw [hb2] at this
    exact pt e c ep 0 n h2 ⟨n,hn⟩ this
   ·cases h
  ·rename_i e c ep off len hd
   rw [hd] at h2
   simp only at h2
   split at h
   ·rename_i n hn
    cases h
    simp only [SV.rel] at hx
    exact pt e c ep off len h2 ⟨n,hn⟩ hx.2
   ·cases h
  ·rename_i e hd
   rw [hd] at h2
   cases h
   simp only [SV.rel] at hx
   obtain ⟨ad,rfl⟩:=hx
   exact sl e ad 0 0 h2 (by simp)
  ·rename_i e t xs hd
   rw [hd] at h2
   cases h
   simp only [SV.rel] at hx
   obtain ⟨hl,ad,cap,hcs,_⟩:=hx
   cases hcs
   exact sl e ad _ cap h2 hl
  ·rename_i s hd
   rw [hd] at h2
   simp only at h2
   subst h2
   cases h
   simp only [SV.rel] at hx
   rw [hx.1]
   refine cP ?_ (aeG hx.2)
   simp [Builtin.len_,run_underlying h1,goInt]
   rfl
  ·cases h
end
end Sx
end Go.Proofs.YtohjofabochgfaaGreat

namespace Go.Proofs.YtohjofabochgfaaGreat
namespace Sx
open Go
section
variable {P:Program} {R:Ctx} {w:World}
theorem jY {d k:Int} {x:Option SV} {a:Option Value} (h:auh d x=some k) (hx:∀ y,x=some y->∃ v,a=some v/\SV.rel R y v) (hn:x=none->a=none):
 (x=none/\a=none/\k=d)\/(a=some (.int .i64 k)/\x=some (.int k)):=by
 unfold auh at h
 split at h
 ·cases h;exact .inl ⟨rfl,hn rfl,rfl⟩
 ·cases h
  obtain ⟨v,ha,hv⟩:=hx _ rfl
  simp only [SV.rel] at hv
  rw [hv.1] at ha
  exact .inr ⟨ha,rfl⟩
 ·cases h
theorem jV {l h:Int} {n:Nat}:dH l h n=true ↔ 0<=l/\l<=h/\h<=(n:Int):=by
 simp [dH,and_assoc]
theorem gN {k:Int} {y:Nat} {code:BoundsCode} (h:0<=k/\k<=(y:Int)):(Instr.sliceBound (.int .i64 k) y code).run P w=.ok k.toNat w:=by
 simp only [Instr.sliceBound,asIntOf,Sem.run_bind,Sem.run_pure,Result.andThen_ok,Sem.run_ite]
 rw [if_pos h]
theorem vB {s:Bool} {len cap:Nat} {lo hi:Option Value} {l h:Int} (hl:(lo=none/\l=0)\/lo=some (.int .i64 l)) (hh:(hi=none/\h=len)\/hi=some (.int .i64 h))
 (hb:0<=l/\l<=h/\h<=(cap:Int)):(Instr.sliceBounds s len cap lo hi none).run P w=.ok (l.toNat,h.toNat,cap) w:=by
 unfold Instr.sliceBounds
 have e1:∀ c,(Instr.sliceBound (.int .i64 h) cap c).run P w=.ok h.toNat w:=λc=>gN ⟨by omega,hb.2.2⟩
 have e2:∀ c,(Instr.sliceBound (.int .i64 l) h.toNat c).run P w=.ok l.toNat w:=λc=>gN ⟨hb.1,by omega⟩
 rcases hl with ⟨rfl,rfl⟩|rfl<;>rcases hh with ⟨rfl,rfl⟩|rfl
 ·simp
 ·simp [e1]
 ·simp at e2
  simp [e2]
 ·simp [e1,e2]
theorem acG {s:Bool} {len cap:Nat} {h m:Int} (hb:0<=h/\h<=m/\m<=(cap:Int)):
 (Instr.sliceBounds s len cap none (some (.int .i64 h)) (some (.int .i64 m))).run P w=.ok (0,h.toNat,m.toNat) w:=by
 unfold Instr.sliceBounds
 have e1:∀ c,(Instr.sliceBound (.int .i64 m) cap c).run P w=.ok m.toNat w:=λc=>gN ⟨by omega,hb.2.2⟩
 have e2:∀ c,(Instr.sliceBound (.int .i64 h) m.toNat c).run P w=.ok h.toNat w:=λc=>gN ⟨hb.1,by omega⟩
 simp [e1,e2]
theorem auf {c e n:Nat} {v:Value} {b:Chunk} {T el:TypeId} {ei:TI} {h m:Int} (he:bo P el ei) (hT:P.underlying T=some (.slice el)) (hc:R.hp c=some ⟨e,b⟩)
 (hp:R.part c e 0 n v) (hb:0<=h/\h<=m/\m<=(n:Int)):
 ∃ ad,(Instr.sliceAt T v none (some (.int .i64 h)) (some (.int .i64 m))).run P w=.ok (.slice ad h.toNat m.toNat) w/\R.part c e 0 h.toNat (.slice ad h.toNat m.toNat):=by
 obtain ⟨h1,h2,ad,cap,rfl,h4,h5⟩:=Ctx.di hc hp
 have hrun:(Instr.sliceAt T (.slice ad n cap) none (some (.int .i64 h)) (some (.int .i64 m))).run P w=.ok (.slice (if m.toNat=0 then ad else ad.map (·.add (0*ei.size))) (h.toNat-0) (m.toNat-0)) w:=by
  simp only [Instr.sliceAt,Sem.run_bind,run_underlying hT,Result.andThen_ok,Instr.slice]
  rw [acG ⟨hb.1,hb.2.1,by omega⟩]
  simp only [Result.andThen_ok,he.cu w,Sem.run_bind,Sem.run_pure]
 refine ⟨_,hrun,_,hc,Nat.le_refl _,λ_=>⟨h1,by show 0+h.toNat<=b.shape.2.2;omega,_,_,rfl,by omega,?_⟩⟩
 cases hσ:R.σ c with
 |none=>rw [hσ] at h5;simp only at h5⊢;omega
 |some L=>
  rw [hσ] at h5
  obtain ⟨h6,h7⟩:=h5
  refine ⟨?_,λhpos=> ?_⟩
  ·simp only at h6⊢
   exact Nat.le_trans (Nat.mul_le_mul_right _ (by omega)) h6
  ·rw [if_neg (by omega),h7 (by omega)]
   simp only [Option.map_some,Nat.zero_mul,Nat.add_zero]
   rfl
theorem ajG {c e off len:Nat} {v:Value} {b:Chunk} {T el:TypeId} {ei:TI} {l h:Int} {lo hi:Option Value} (he:bo P el ei) (hT:P.underlying T=some (.slice el)) (hc:R.hp c=some ⟨e,b⟩)
 (hs:b.shape.2.1=ei.size) (hp:R.part c e off len v) (hl:(lo=none/\l=0)\/lo=some (.int .i64 l)) (hh:(hi=none/\h=len)\/hi=some (.int .i64 h)) (hb:dH l h len=true):
 kL P R w (Instr.sliceAt T v lo hi none) (.part c e (l.toNat+off) (h-l).toNat):=by
 obtain ⟨h1,h2,ad,cap,rfl,h4,h5⟩:=Ctx.di hc hp
 have hb:=jV.1 hb
 have hrun:(Instr.sliceAt T (.slice ad len cap) lo hi none).run P w=.ok (.slice (if cap=l.toNat then ad else ad.map (·.add (l.toNat*ei.size))) (h.toNat-l.toNat) (cap-l.toNat)) w:=by
  simp only [Instr.sliceAt,Sem.run_bind,run_underlying hT,Result.andThen_ok,Instr.slice]
  rw [vB hl hh ⟨hb.1,hb.2.1,by omega⟩]
  simp only [Result.andThen_ok,he.cu w,Sem.run_bind,Sem.run_pure]
 refine ⟨_,hrun,?_⟩
 simp only [SV.rel]
 refine ⟨rfl,_,hc,Nat.le_refl _,λ_=>⟨h1,by show _<=b.shape.2.2;omega,(if cap=l.toNat then ad else ad.map (·.add (l.toNat*ei.size))),cap-l.toNat,?_,?_,?_⟩⟩
 ·congr 1;omega
 ·omega
 ·cases hσ:R.σ c with
  |none=>rw [hσ] at h5;simp only at h5⊢;omega
  |some L=>
   rw [hσ] at h5
   obtain ⟨h6,h7⟩:=h5
   refine ⟨?_,λhpos=> ?_⟩
   ·simp only at h6⊢
    rw [show l.toNat+off+(cap-l.toNat)=off+cap by omega]
    exact h6
   ·rw [if_neg (by omega),h7 (by omega)]
    simp only [Option.map_some,gZ]
    rw [hs,Nat.add_mul]
    congr 2
    omega
theorem aj9 {F:Nat->Option Obj} {t:Ty} {xs:List t.T} {ad:Option Addr} {cap l h:Nat} (hr:Rep F (.list t) xs [.slice ad xs.length cap]) (h1:l<=h) (h2:h<=xs.length):
 Rep F (.list t) ((xs.take h).drop l) [.slice (if cap=l then ad else ad.map (·.add (l*t.size))) (h-l) (cap-l)]:=by
 obtain ⟨hmax,ad',cap',hcs,hcap,hor⟩:=hr
 cases hcs
 have hlen:((xs.take h).drop l).length=h-l:=by simp;omega
 refine ⟨by omega,_,cap-l,by rw [hlen],by omega,?_⟩
 by_cases hz:h=l
 ·left
  exact List.eq_nil_of_length_eq_zero (by omega)
 ·rcases hor with rfl|⟨b,o,arr,E,fz,rfl,hF,hsz,hrow⟩
  ·simp at h2;omega
  ·right
   have hle:h*t.size<=xs.length*t.size:=Nat.mul_le_mul_right _ h2
   have hlh:(h-l)*t.size+l*t.size=h*t.size:=by rw [<-Nat.add_mul];congr 1;omega
   refine ⟨b,o+l*t.size,arr,E,fz,?_,hF,by rw [hlen];omega,λi hi=> ?_⟩
   ·rw [if_neg (by omega)]
    simp only [Option.map_some,gZ]
   ·rw [hlen] at hi
    have e:((xs.take h).drop l).getD i t.d=xs.getD (l+i) t.d:=by
     simp only [List.getD_eq_getElem?_getD,List.getElem?_drop]
     rw [List.getElem?_take_of_lt (by omega)]
    rw [e,Nat.add_assoc,<-Nat.add_mul]
    exact hrow _ (by omega)
theorem S6 (hm:dt R w) {te:TE} (hte:mZ P te) {T:TypeId} {x z:SV} {v:Value} {lo hi mx:Option SV} {a b c:Option Value} (h:(qA te R.hp T x lo hi mx).run=some z) (hx:SV.rel R x v)
 (ha:∀ y,lo=some y->∃ v,a=some v/\SV.rel R y v) (ha':lo=none->a=none) (hb:∀ y,hi=some y->∃ v,b=some v/\SV.rel R y v) (hb':hi=none->b=none)
 (hc:∀ y,mx=some y->∃ v,c=some v/\SV.rel R y v) (hc':mx=none->c=none):kL P R w (Instr.sliceAt T v a b c) z:=by
 have dn:∀ {d k:Int} {x:Option SV} {a:Option Value},((x=none/\a=none/\k=d)\/(a=some (.int .i64 k)/\x=some (.int k)))->(a=none/\k=d)\/a=some (.int .i64 k):=
  λh=>h.elim (λh=>.inl ⟨h.2.1,h.2.2⟩) (λh=>.inr h.1)
 unfold qA at h
 split at h
 ·cases h
 ·rename_i ti hT
  obtain ⟨d,h1,h2⟩:=(hte T ti hT).desc
  split at h
  ·rename_i n e hd
   rw [hd] at h2
   simp only at h2
   subst h2
   split at h
   ·rename_i ei q ep i off hei
    have hmx:=hc' rfl
    subst hmx
    split at h
    ·rename_i hcond
     obtain ⟨h0,h0',hrs⟩:=hcond
     subst h0;subst h0'
     split at h
     ·rename_i m hm'
      obtain ⟨bb,hcc,hb1,hb2⟩:=dB hrs
      obtain ⟨bb',hcc',_,hb4⟩:=dm hm'
      rw [hcc] at hcc'
      cases Option.some.inj hcc'
      simp only [SV.rel] at hx
      obtain ⟨⟨ad,rfl⟩,ch,hc2,_,hp⟩:=hx
      rw [hcc] at hc2
      cases Option.some.inj hc2
      obtain ⟨L,hσ,hv⟩:=hp rfl
      cases hv
      have he:=hte e ei hei
      have hch:=hm.ch q _ hcc
      have hlim:m*ei.size<=L.lim:=by
       cases bb with
       |row t xs=>
        simp only [eV,hσ] at hch
        obtain ⟨_,_,_,_,arr,E,_,_,hl,_⟩:=hch
        rw [<-hb4,<-hb2];exact hl
       |frz t xs=>
        simp only [eV,hσ] at hch
        obtain ⟨_,_,arr,E,fz,_,_,hl,_⟩:=hch
        rw [<-hb4,<-hb2];exact hl
       |cells vs=>cases hb1
      have key:∀ (l hh:Int),auh 0 lo=some l->auh (n:Int) hi=some hh->n<=m->dH l hh n=true->
       ∃ v',(Instr.sliceAt T (.pointer (some ⟨L.block,L.base+(0*bb.shape.2.1+0),none⟩)) a b none).run P w=.ok v' w/\v'.oneCell'=true/\R.part q ep l.toNat (hh-l).toNat v':=by
       intro l hh hl1 hh1 hnm hbt
       have hbt':=jV.1 hbt
       have hrun:∀ ad,(Instr.sliceAt T (.pointer (some ad)) a b none).run P w=.ok (.slice (some (if n=l.toNat then ad else ad.add (l.toNat*ei.size))) (hh.toNat-l.toNat) (n-l.toNat)) w:=λad=>by
        simp only [Instr.sliceAt,Sem.run_bind,run_underlying h1,Result.andThen_ok,Instr.sureAddr,Sem.run_pure]
        rw [vB (dn (jY hl1 ha ha')) (dn (jY hh1 hb hb')) hbt']
        simp only [Result.andThen_ok,he.cu w,Sem.run_bind,Sem.run_pure]
       have hnl:n*ei.size<=L.lim:=Nat.le_trans (Nat.mul_le_mul_right _ hnm) hlim
       refine ⟨_,hrun _,rfl,?_⟩
       refine ⟨_,hcc,Nat.le_refl _,λ_=>⟨hb1,by simp only;rw [hb4];omega,_,_,by congr 1;omega,by omega,?_⟩⟩
       rw [hσ]
       refine ⟨?_,λhpos=> ?_⟩
       ·simp only
        rw [hb2,show l.toNat+(n-l.toNat)=n by omega]
        exact hnl
       ·rw [if_neg (by omega),gZ]
        simp only [hb2]
        congr 2;omega
      split at h
      ·obtain ⟨hg,h'⟩:=OT.aJ h
       have hmn:=of_decide_eq_true hg
       subst hmn
       cases h'
       obtain ⟨v',k1,k2,k3⟩:=key 0 m rfl rfl (Nat.le_refl _) (by simp [dH])
       refine ⟨v',k1,?_⟩
       simp only [SV.rel]
       refine ⟨k2,_,hcc,Nat.le_refl _,λ_=> ?_⟩
       simp only
       rw [hb4]
       have e1:((m:Int)-0).toNat=m:=by omega
       rw [e1] at k3
       exact k3
      ·split at h
       ·rename_i l hh hl1 hh1
        obtain ⟨hg,h'⟩:=OT.aJ h
        simp only [Bool.and_eq_true,decide_eq_true_eq] at hg
        cases h'
        obtain ⟨v',k1,k2,k3⟩:=key l hh hl1 hh1 hg.1 hg.2
        refine ⟨v',k1,?_⟩
        simp only [SV.rel]
        exact ⟨k2,k3⟩
       ·cases h
     ·cases h
    ·cases h
   ·cases h
  ·rename_i e hd
   rw [hd] at h2
   simp only at h2
   subst h2
   split at h
   ·cases h
   ·rename_i ei hei
    have he:=hte e ei hei
    rcases OT.aCN h with ⟨hz,h⟩|⟨hz,h⟩
    ·obtain ⟨hlo,hz2,hz1⟩:=aea hz
     have ha0:=ha' hlo
     subst ha0
     have nought:∀ {o:Option SV} {q:Option Value},o=some (.int 0)->(∀ y,o=some y->∃ v,q=some v/\SV.rel R y v)->q=some (.int .i64 0):=λ{o q} hq hv=>by
      obtain ⟨v,h1,h2⟩:=hv _ hq
      simp only [SV.rel] at h2
      rw [h1,h2.1]
     have hb0:=nought hz1 hb
     have hc0:=nought hz2 hc
     subst hb0;subst hc0
     have emp:∀ ad len cap,kL P R w (Instr.sliceAt T (.slice ad len cap) none (some (.int .i64 0)) (some (.int .i64 0))) .emp:=λad len cap=>by
      refine ⟨.slice ad 0 0,?_,by simp only [SV.rel];exact ⟨ad,rfl⟩⟩
      simp only [Instr.sliceAt,Sem.run_bind,run_underlying h1,Result.andThen_ok,Instr.slice,Instr.sliceBounds]
      have e1:∀ (y:Nat) c,(Instr.sliceBound (.int .i64 0) y c).run P w=.ok 0 w:=λy c=>gN ⟨by omega,by omega⟩
      simp [e1,he.cu w]
     have opened:∀ {c' e' off' len':Nat},(∃ n,eI R.hp c' e'=some n)->R.part c' e' off' len' v->∃ ad len cap,v=.slice ad len cap:=λhn hp=>by
      obtain ⟨n,hn⟩:=hn
      obtain ⟨bb,hcc,_,_⟩:=dm hn
      obtain ⟨_,_,ad,cap,hv,_⟩:=Ctx.di hcc hp
      exact ⟨ad,_,cap,hv⟩
     split at h
     ·split at h
      ·rename_i hs
       cases h
       obtain ⟨n,hn⟩:=Option.isSome_iff_exists.1 hs
       simp only [SV.rel] at hx
       obtain ⟨bb,hcc,_,_⟩:=dm hn
       obtain ⟨ad,len,cap,rfl⟩:=opened ⟨n,hn⟩ (Ctx.dl hcc hx.2)
       exact emp ad len cap
      ·cases h
     ·split at h
      ·rename_i hs
       cases h
       obtain ⟨n,hn⟩:=Option.isSome_iff_exists.1 hs
       simp only [SV.rel] at hx
       obtain ⟨bb,hcc,_,_⟩:=dm hn
       obtain ⟨ad,len,cap,rfl⟩:=opened ⟨n,hn⟩ (Ctx.dl hcc hx.2.1)
       exact emp ad len cap
      ·cases h
     ·split at h
      ·rename_i hs
       cases h
       obtain ⟨n,hn⟩:=Option.isSome_iff_exists.1 hs
       simp only [SV.rel] at hx
       obtain ⟨ad,len,cap,rfl⟩:=opened ⟨n,hn⟩ hx.2
       exact emp ad len cap
      ·cases h
     ·cases h
      simp only [SV.rel] at hx
      obtain ⟨_,ad,cap,hcs,_⟩:=hx
      cases hcs
      exact emp ad _ cap
     ·cases h
      simp only [SV.rel] at hx
      obtain ⟨ad,rfl⟩:=hx
      exact emp ad 0 0
     ·cases h
    ·split at h
     ·rename_i q ep hnz
      have hmx:=hc' rfl
      subst hmx
      split at h
      ·rename_i m hm'
       unfold yQ at h
       split at h
       ·rename_i hrs
        split at h
        ·rename_i l hh hl1 hh1
         obtain ⟨hg,h'⟩:=OT.aJ h
         cases h'
         simp only [SV.rel] at hx
         obtain ⟨bb,hcc,hb1,hb2⟩:=dB hrs
         obtain ⟨bb',hcc',_,hb4⟩:=dm hm'
         rw [hcc] at hcc'
         cases Option.some.inj hcc'
         have hp:=Ctx.dl hcc hx.2
         rw [hb4] at hp
         exact ajG he h1 hcc hb2 hp (dn (jY hl1 ha ha')) (dn (jY hh1 hb hb')) hg
        ·cases h
       ·cases h
      ·cases h
     ·rename_i q ep off len hnz
      have hmx:=hc' rfl
      subst hmx
      unfold yQ at h
      split at h
      ·rename_i hrs
       split at h
       ·rename_i l hh hl1 hh1
        obtain ⟨hg,h'⟩:=OT.aJ h
        cases h'
        simp only [SV.rel] at hx
        obtain ⟨bb,hcc,hb1,hb2⟩:=dB hrs
        exact ajG he h1 hcc hb2 hx.2 (dn (jY hl1 ha ha')) (dn (jY hh1 hb hb')) hg
       ·cases h
      ·cases h
     ·rename_i t xs hnz
      have hmx:=hc' rfl
      subst hmx
      split at h
      ·rename_i hts
       simp only [SV.rel] at hx
       have hx':=hx
       obtain ⟨_,ad,cap,hcs,hcap,_⟩:=hx
       cases hcs
       have hrun:∀ l hh:Int,((a=none/\l=0)\/a=some (.int .i64 l))->((b=none/\hh=xs.length)\/b=some (.int .i64 hh))->dH l hh xs.length=true->
        (Instr.sliceAt T (.slice ad xs.length cap) a b none).run P w=.ok (.slice (if cap=l.toNat then ad else ad.map (·.add (l.toNat*ei.size))) (hh.toNat-l.toNat) (cap-l.toNat)) w:=λl hh hl hh' hb=>by
        have hb:=jV.1 hb
        simp only [Instr.sliceAt,Sem.run_bind,run_underlying h1,Result.andThen_ok,Instr.slice]
        rw [vB hl hh' ⟨hb.1,hb.2.1,by omega⟩]
        simp only [Result.andThen_ok,he.cu w,Sem.run_bind,Sem.run_pure]
       split at h
       ·rename_i l hl1
        obtain ⟨hg,h'⟩:=OT.aJ h
        cases h'
        have hb0:=hb' rfl
        refine ⟨_,hrun l xs.length (dn (jY hl1 ha ha')) (.inl ⟨hb0,rfl⟩) hg,?_⟩
        have hg:=jV.1 hg
        have:=aj9 (l:=l.toNat) (h:=xs.length) hx' (by omega) (Nat.le_refl _)
        rw [List.take_length] at this
        simp only [SV.rel]
        rw [<-hts]
        simpa using this
       ·rename_i l hh hl1
        obtain ⟨hg,h'⟩:=OT.aJ h
        cases h'
        obtain ⟨vb,hvb,hvr⟩:=hb _ rfl
        simp only [SV.rel] at hvr
        rw [hvr.1] at hvb
        refine ⟨_,hrun l hh (dn (jY hl1 ha ha')) (.inr hvb) hg,?_⟩
        have hg:=jV.1 hg
        have:=aj9 (l:=l.toNat) (h:=hh.toNat) hx' (by omega) (by omega)
        simp only [SV.rel]
        rw [<-hts]
        exact this
       ·cases h
      ·cases h
     ·rename_i m q ep hnz
      split at h
      ·rename_i hh n hm'
       split at h
       ·rename_i hrs
        simp only [SV.rel] at hx
        obtain ⟨bb,hcc,hb1,hb2⟩:=dB hrs
        obtain ⟨bb',hcc',_,hb4⟩:=dm hm'
        rw [hcc] at hcc'
        cases Option.some.inj hcc'
        have hp:=Ctx.dl hcc hx.2
        rw [hb4] at hp
        have ha0:=ha' rfl
        subst ha0
        obtain ⟨vb,hvb,hvr⟩:=hb _ rfl
        simp only [SV.rel] at hvr
        rw [hvr.1] at hvb
        obtain ⟨vc,hvc,hvs⟩:=hc _ rfl
        simp only [SV.rel] at hvs
        rw [hvs.1] at hvc
        subst hvb;subst hvc
        cases hcond:decide (hh=(n:Int))&&decide (m=(n:Int))
        ·rw [hcond] at h
         obtain ⟨hg,h'⟩:=OT.aJ h
         cases h'
         simp only [Bool.and_eq_true,decide_eq_true_eq] at hg
         obtain ⟨ad,hr,hpt⟩:=auf (w:=w) he h1 hcc hp ⟨hg.1.1,hg.1.2,hg.2⟩
         exact ⟨_,hr,by simp only [SV.rel];exact ⟨rfl,hpt⟩⟩
        ·rw [hcond] at h
         cases h
         simp only [Bool.and_eq_true,decide_eq_true_eq] at hcond
         obtain ⟨rfl,rfl⟩:=hcond
         obtain ⟨ad,hr,hpt⟩:=auf (h:=(n:Int)) (m:=(n:Int)) (w:=w) he h1 hcc hp ⟨by omega,by omega,by omega⟩
         refine ⟨_,hr,?_⟩
         simp only [SV.rel,Ctx.clip,Ctx.own]
         refine ⟨rfl,⟨_,hcc,Nat.le_refl _,λ_=> ?_⟩,λch _ _=>⟨_,_,rfl⟩⟩
         rw [hb4]
         exact hpt
       ·cases h
      ·cases h
     ·cases h
  ·rename_i hd
   rw [hd] at h2
   simp only at h2
   subst h2
   split at h
   ·rename_i s
    have hmx:=hc' rfl
    subst hmx
    split at h
    ·rename_i l hh hl1 hh1
     obtain ⟨hg,h'⟩:=OT.aJ h
     cases h'
     simp only [SV.rel] at hx
     obtain ⟨rfl,hmax⟩:=hx
     have hg:=jV.1 hg
     refine ⟨.string ((⟨s.toArray⟩:ByteArray).extract l.toNat hh.toNat),?_,?_⟩
     ·simp only [Instr.sliceAt,Sem.run_bind,run_underlying h1,Result.andThen_ok,Instr.slice,Option.isSome_none,Bool.false_eq_true,if_false]
      rw [vB (len:=(⟨s.toArray⟩:ByteArray).size) (cap:=(⟨s.toArray⟩:ByteArray).size) (dn (jY hl1 ha ha')) (dn (jY hh1 hb hb')) hg]
      rfl
     ·simp only [SV.rel]
      refine ⟨?_,by simp;omega⟩
      congr 1
      apply ByteArray.ext
      rw [ByteArray.data_extract]
      apply Array.ext'
      simp [List.drop_take]
    ·cases h
   ·cases h
  ·cases h
end
end Sx
end Go.Proofs.YtohjofabochgfaaGreat

namespace Go.Proofs.YtohjofabochgfaaGreat
namespace Sx
open Go
section
variable {P:Program} {R:Ctx} {w:World}
theorem Lr {agg:Bool} {cs:List SV} {vs:List Value} (h:SV.bV R cs vs) (h1:∀ u ∈ vs,u.oneCell'=true) (hs:agg=false->vs.length=1):SV.rel R (sr agg cs) (Ih agg vs):=by
 cases agg
 ·have:=hs rfl
  obtain ⟨v,rfl⟩:=List.length_eq_one_iff.1 this
  cases cs with
  |nil=>simp only [SV.bV] at h;cases h
  |cons x l=>
   simp only [SV.bV] at h
   obtain ⟨v',r,h1,h2,_⟩:=h
   cases h1
   simpa [sr,Ih] using h2
 ·simp only [Ih,if_true]
  exact B5 h h1
theorem ae1 {te:TE} (hte:mZ P te) {S:TypeId} {ti fi:TI} {fs:List (Nat×TypeId)} {f o:Nat} {l:List SV} {v:Value} (hS:te S=some ti) (hd:ti.desc=.struct fs) (hf:fieldAt fs te f=some (o,fi))
 (hl:o+fi.size<=l.length) (hx:SV.rel R (.agg l) v):kL P R w (Instr.field S v f) (sr fi.desc.agg ((l.drop o).take fi.size)):=by
 obtain ⟨fields,fld,h1,h2,h3,h4⟩:=sE hte hS hd hf
 simp only [SV.rel] at hx
 obtain ⟨vs,rfl,hr,hone⟩:=hx
 have hlen:=SV.aV hr
 have ht:=hte _ _ h4
 have hp:=wA ht w vs o (by omega) ht.one
 refine ⟨_,?_,Lr (vF hr o fi.size) (λu hu=>hone u (AX hu)) (λha=> ?_)⟩
 ·simp only [Instr.field,Sem.run_bind,run_underlying h1,Result.andThen_ok,h2,asAgg,Sem.run_pure,h3,hp]
 ·rw [gp (by omega)];exact ht.one ha
theorem A0 {kd:IntKind} {T e:TypeId} {n:Nat} {ei:TI} {k:Int} {vs:List Value} (hT:P.underlying T=some (.array n e)) (he:bo P e ei) (hl:vs.length=n*ei.size) (hk:inB k n=true):
 (Instr.index T (.agg vs.toArray) (.int kd k)).run P w=.ok (Ih ei.desc.agg (seg vs (k.toNat*ei.size) ei.size)) w:=by
 have hk:=zE.1 hk
 have hle:(k.toNat+1)*ei.size<=n*ei.size:=Nat.mul_le_mul_right _ (by omega)
 rw [Nat.succ_mul] at hle
 have hp:=wA he w vs (k.toNat*ei.size) (by omega) he.one
 simp only [Instr.index,asIntOf,Sem.run_bind,Sem.run_pure,Result.andThen_ok,run_underlying hT,Sem.run_ite,he.cu w,hp]
 rw [if_pos hk]
theorem IW {α:Type} {f:SV->Option α} {l:List SV} {xs:List α} (d:α) (h:l.mapM f=some xs) {vs:List Value} (hr:SV.bV R l vs) {k:Nat} (hk:k<l.length):∃ x v,f x=some (xs.getD k d)/\vs[k]? =some v/\SV.rel R x v:=by
 obtain ⟨h1,h2⟩:=tN d h
 have hlen:=SV.aV hr
 exact ⟨l[k],vs[k]'(by omega),h2 k hk,List.getElem?_eq_getElem (by omega),SV.m8 hr k hk (by omega)⟩
theorem Po {kd:IntKind} {te:TE} (hte:mZ P te) {T:TypeId} {x z:SV} {v:Value} {k:Int} (h:(U4 te T x k).run=some z) (hx:SV.rel R x v):
 kL P R w (Instr.index T v (.int kd k)) z:=by
 unfold U4 at h
 split at h
 ·rename_i n e _ _ l hT
  split at h
  ·rename_i ei hei
   split at h
   ·cases h
   ·rename_i hlen
    have hlen:l.length=n*ei.size:=by simpa using hlen
    obtain ⟨d,h1,h2⟩:=(hte T _ hT).desc
    simp only at h2
    subst h2
    have he:=hte e ei hei
    simp only [SV.rel] at hx
    obtain ⟨vs,rfl,hr,hone⟩:=hx
    have hl:=SV.aV hr
    have one:∀ (b:Bool),inB k n=b->b=true->ei.desc.agg=false->∃ u,vs[k.toNat]? =some u/\(Instr.index T (.agg vs.toArray) (.int kd k)).run P w=.ok u w/\k.toNat<l.length:=λb hb hb' ha=>by
     have hk:inB k n=true:=hb.trans hb'
     have hk':=zE.1 hk
     have hs:=he.one ha
     rw [hs,Nat.mul_one] at hlen
     have hkl:k.toNat<vs.length:=by omega
     have:=A0 (kd:=kd) (w:=w) h1 he (by rw [hl,hlen,hs,Nat.mul_one]) hk
     rw [ha,hs,Nat.mul_one] at this
     refine ⟨vs[k.toNat],List.getElem?_eq_getElem hkl,?_,by omega⟩
     rw [this]
     simp only [Ih,Bool.false_eq_true,if_false,seg]
     rw [List.drop_eq_getElem_cons hkl]
     simp [List.getElem?_eq_getElem hkl]
    split at h
    ·rename_i hd
     split at h
     ·rename_i xs hxs
      obtain ⟨hk,h'⟩:=OT.aJ h
      cases h'
      obtain ⟨u,hu,hrun,hkl⟩:=one _ rfl hk (by rw [hd];rfl)
      obtain ⟨y,v',hy,hv',hrel⟩:=IW (0:UInt64) hxs hr hkl
      rw [hu] at hv'
      cases hv'
      cases y<;>simp only [SV.aIj] at hy<;>first|(cases hy;done)|skip
      simp only [SV.rel] at hrel
      subst hrel
      rw [Option.some.inj hy] at hrun
      exact c9 hrun
     ·cases h
    ·rename_i hd
     split at h
     ·rename_i xs hxs
      obtain ⟨hk,h'⟩:=OT.aJ h
      cases h'
      obtain ⟨u,hu,hrun,hkl⟩:=one _ rfl hk (by rw [hd];rfl)
      obtain ⟨y,v',hy,hv',hrel⟩:=IW (0:Int) hxs hr hkl
      rw [hu] at hv'
      cases hv'
      cases y<;>simp only [SV.toInt] at hy<;>first|(cases hy;done)|skip
      simp only [SV.rel] at hrel
      rw [hrel.1,Option.some.inj hy] at hrun
      exact cP hrun (by rw [<-Option.some.inj hy];exact hrel.2)
     ·cases h
    ·rename_i hd
     split at h
     ·rename_i xs hxs
      obtain ⟨hk,h'⟩:=OT.aJ h
      cases h'
      obtain ⟨u,hu,hrun,hkl⟩:=one _ rfl hk (by rw [hd];rfl)
      obtain ⟨y,v',hy,hv',hrel⟩:=IW (0:UInt8) hxs hr hkl
      rw [hu] at hv'
      cases hv'
      cases y<;>simp only [SV.aKG] at hy<;>first|(cases hy;done)|skip
      simp only [SV.rel] at hrel
      subst hrel
      rw [Option.some.inj hy] at hrun
      exact fb hrun
     ·cases h
    ·rename_i hd
     split at h
     ·rename_i xs hxs
      obtain ⟨hk,h'⟩:=OT.aJ h
      cases h'
      obtain ⟨u,hu,hrun,hkl⟩:=one _ rfl hk (by rw [hd];rfl)
      obtain ⟨y,v',hy,hv',hrel⟩:=IW ([]:List UInt8) hxs hr hkl
      rw [hu] at hv'
      cases hv'
      cases y<;>simp only [SV.aIk] at hy<;>first|(cases hy;done)|skip
      simp only [SV.rel] at hrel
      rw [hrel.1] at hrun
      rw [Option.some.inj hy] at hrun hrel
      exact ⟨_,hrun,by simp only [SV.rel,true_and];exact hrel.2⟩
     ·cases h
    ·obtain ⟨hk,h'⟩:=OT.aJ h
     cases h'
     have hk':=zE.1 hk
     have hle:(k.toNat+1)*ei.size<=n*ei.size:=Nat.mul_le_mul_right _ (by omega)
     rw [Nat.succ_mul] at hle
     refine ⟨_,A0 h1 he (by omega) hk,Lr (vF hr _ _) (λu hu=>hone u (AX hu)) (λha=> ?_)⟩
     rw [gp (by omega)];exact he.one ha
  ·cases h
 ·rename_i s hT
  obtain ⟨d,hu,h2⟩:=(hte T _ hT).desc
  simp only at h2
  subst h2
  obtain ⟨hk,h'⟩:=OT.aJ h
  cases h'
  have hk':=zE.1 hk
  simp only [SV.rel] at hx
  obtain ⟨rfl,_⟩:=hx
  refine fb ?_
  have hkl:k.toNat<s.length:=by omega
  simp only [Instr.index,asIntOf,Sem.run_bind,Sem.run_pure,Result.andThen_ok,run_underlying hu]
  rw [if_pos hk'.1]
  have:(⟨s.toArray⟩:ByteArray)[k.toNat]? =some s[k.toNat]:=by
   rw [getElem?_pos (⟨s.toArray⟩:ByteArray) k.toNat (by simpa [ByteArray.size] using hkl)]
   rfl
  rw [this]
  simp only [Sem.run_pure,vu8]
  simp [List.getD_eq_getElem?_getD,List.getElem?_eq_getElem hkl]
 ·cases h
theorem ZU (off:Nat):∀ (vs:List Value) (i:Nat) (cs:Array Value),off+i+vs.length<=cs.size->
 ((vs.zipIdx i).foldl (λ(cs:Array Value) (x:Value×Nat)=>cs.setIfInBounds (off+x.2) x.1) cs).toList=cs.toList.take (off+i)++vs++cs.toList.drop (off+i+vs.length)
 | [],i,cs,_=>by simp
 |v::vs,i,cs,h=>by
  simp only [List.zipIdx_cons,List.foldl_cons]
  rw [ZU off vs (i+1) _ (by simp at h⊢;omega)]
  have e:=list_seg_step cs.toList (off+i) v vs (by simp at h⊢;omega)
  simpa [Array.toList_setIfInBounds,Nat.add_assoc] using e
theorem wV {place:Nat->Option (Nat×Nat)}:∀ (ps:List (Option Nat×Nat×SV)) (ms:List (Nat×Value)) (cs cs':List SV) (arr:Array Value),fill cs ps=some cs'->
 ps.length=ms.length->(∀ i (h:i<ps.length) (h':i<ms.length),SV.rel R ps[i].2.2 ms[i].2/\∀ off,ps[i].1=some off->place ms[i].1=some (off,ps[i].2.1))->
 SV.bV R cs arr.toList->(∀ u ∈ arr.toList,u.oneCell'=true)->∃ arr',Instr.fill place arr ms=some arr'/\SV.bV R cs' arr'.toList/\(∀ u ∈ arr'.toList,u.oneCell'=true)/\arr'.size=arr.size
 | [],[],cs,cs',arr,h,_,_,hr,h1=>by
  simp only [fill] at h
  cases h
  exact ⟨arr,rfl,hr,h1,rfl⟩
 | [],m::ms,cs,cs',arr,h,hl,_,_,_=>by simp at hl
 |p::ps,[],cs,cs',arr,h,hl,_,_,_=>by simp at hl
 |(o,size,x)::ps,(i,v)::ms,cs,cs',arr,h,hl,hall,hr,h1=>by
  cases o with
  |none=>simp only [fill] at h;cases h
  |some off=>
   simp only [fill] at h
   split at h
   ·rename_i l hcl
    split at h
    ·rename_i hc
     obtain ⟨hc1,hc2⟩:=hc
     obtain ⟨hx,hp⟩:=hall 0 (by simp) (by simp)
     simp only [List.getElem_cons_zero] at hx hp
     have hp:=hp off rfl
     obtain ⟨vs,hv,hrv,hone⟩:=JS hx hcl
     have hlen:=SV.aV hrv
     have hal:=SV.aV hr
     have hfold:=ZU off vs 0 arr (by simp at hal⊢;omega)
     have ih:=wV ps ms (ye cs off l) cs' (((vs.zipIdx 0).foldl (λ(cs:Array Value) (x:Value×Nat)=>cs.setIfInBounds (off+x.2) x.1) arr)) h (by simpa using hl)
      (λj hj hj'=>hall (j+1) (Nat.succ_lt_succ hj) (Nat.succ_lt_succ hj'))
      (by rw [hfold];exact yW hr hrv off)
      (λu hu=>by
       rw [hfold] at hu
       rcases List.mem_append.1 hu with hu|hu
       ·rcases List.mem_append.1 hu with hu|hu
        ·exact h1 u (List.mem_of_mem_take hu)
        ·exact hone u hu
       ·exact h1 u (List.mem_of_mem_drop hu))
     obtain ⟨arr',h2,h3,h4,h5⟩:=ih
     refine ⟨arr',?_,h3,h4,?_⟩
     ·simp only [Instr.fill,hp]
      rw [hv]
      simp only [List.size_toArray]
      rw [if_neg (by simp at hal;simp;omega)]
      rw [<-h2]
      congr 1
      rw [<-Array.foldl_toList,Array.toList_zipIdx]
     ·rw [h5,<-Array.length_toList,hfold]
      simp at hal⊢
      omega
    ·cases h
   ·cases h
end
end Sx
end Go.Proofs.YtohjofabochgfaaGreat

namespace Go.Proofs.YtohjofabochgfaaGreat
namespace Sx
open Go
section
variable {P:Program} {R:Ctx} {w:World}
def Wm (R:Ctx) (ps:List (Nat×SV)) (ms:List (Nat×Value)):Prop:=
 ps.length=ms.length/\∀ i (h:i<ps.length) (h':i<ms.length),ps[i].1=ms[i].1/\SV.rel R ps[i].2 ms[i].2
theorem bo.vx {T:TypeId} {ti:TI} (ht:bo P T ti):∃ i z,P.info? T=some i/\i.size=ti.size/\i.bytes=ti.bytes/\i.zero=some z/\SV.bV R ti.zero z.cells.toList/\z.cells.size=ti.size/\∀ u ∈ z.cells.toList,u.oneCell'=true:=by
 obtain ⟨i,z,h1,h2,h3,h4,h5,h6,h7⟩:=ht.aHU
 exact ⟨i,z,h1,h2,h3,h4,by rw [<-h5];exact yX _,h6,h7⟩
theorem QT {te:TE} (hte:mZ P te):∀ {fields:List Field} {places:List (Nat×Nat)},fields.mapM (λf=>(P.info? f.type).map λi=>(f.offset,i.size))=some places->
 ∀ {f:Nat} {fld:Field} {fi:TI},fields[f]? =some fld->te fld.type=some fi->places[f]? =some (fld.offset,fi.size)
 | [],places,h,f,fld,fi,hf,_=>by simp at hf
 |g::gs,places,h,f,fld,fi,hf,hfi=>by
  simp only [List.mapM_cons,Option.bind_eq_bind,Option.pure_def] at h
  cases hi:P.info? g.type with
  |none=>simp [hi] at h
  |some i=>
   cases hr:gs.mapM (λf=>(P.info? f.type).map λi=>(f.offset,i.size)) with
   |none=>simp [hi,hr] at h
   |some rest=>
    simp [hi,hr] at h
    subst h
    cases f with
    |zero=>
     simp only [List.getElem?_cons_zero,Option.some.injEq] at hf⊢
     subst hf
     obtain ⟨i',_,h1,h2,_⟩:=(hte _ _ hfi).aHU
     rw [hi] at h1
     cases Option.some.inj h1
     rw [h2]
    |succ f=>
     simp only [List.getElem?_cons_succ] at hf⊢
     exact QT hte hr hf hfi
theorem afE {te:TE} (hte:mZ P te) {T:TypeId} {ps:List (Nat×SV)} {parts:Array (Nat×Value)} {z:SV} (h:(build te T ps).run=some z) (hp:Wm R ps parts.toList):
 kL P R w (Instr.build T parts) z:=by
 unfold build at h
 split at h
 ·cases h
 ·rename_i ti hT
  have ht:=hte T ti hT
  obtain ⟨d,h1,h2⟩:=ht.desc
  obtain ⟨it,zv,z1,z2,z3,z4,z5,z6,z7⟩:=ht.vx (R:=R)
  obtain ⟨hp1,hp2⟩:=hp
  split at h
  ·rename_i fs hd
   rw [hd] at h2
   obtain ⟨fields,rfl,h3,h4,h5,h6⟩:=h2
   obtain ⟨places,hpl⟩:=Option.isSome_iff_exists.1 h6
   split at h
   ·rename_i cs hfill
    cases h
    obtain ⟨arr',r1,r2,r3,r4⟩:=wV (R:=R) (place:=(places.toArray[·]?)) _ parts.toList _ _ zv.cells hfill (by simpa using hp1) (λi hi hi'=>by
     have hi2:i<ps.length:=by simpa using hi
     obtain ⟨q1,q2⟩:=hp2 i hi2 hi'
     simp only [List.getElem_map]
     split
     ·rename_i o fi hf
      refine ⟨q2,λoff ho=> ?_⟩
      cases ho
      obtain ⟨fields',fld,f1,f2,f3,f4⟩:=sE hte hT hd hf
      rw [h1] at f1
      cases f1
      have:=QT hte hpl (f:=(ps[i]).1) (by simpa using f2) f4
      rw [<-q1]
      simpa [f3] using this
     ·exact ⟨q2,λoff ho=>by cases ho⟩) z5 z7
    refine ⟨.agg arr',run_build w T parts arr' ?_,?_⟩
    ·simp only [Program.built,z1,h1,z4,hpl]
     exact r1
    ·simp only [SV.rel]
     exact ⟨arr'.toList,by simp,r2,r3⟩
   ·cases h
  ·rename_i n e hd
   rw [hd] at h2
   simp only at h2
   subst h2
   split at h
   ·rename_i ei hei
    obtain ⟨ie,_,e1,e2,_⟩:=(hte e ei hei).aHU
    split at h
    ·rename_i cs hfill
     cases h
     obtain ⟨arr',r1,r2,r3,r4⟩:=wV (R:=R) (place:=λi=>some (i*ie.size,ie.size)) _ parts.toList _ _ zv.cells hfill (by simpa using hp1) (λi hi hi'=>by
      have hi2:i<ps.length:=by simpa using hi
      obtain ⟨q1,q2⟩:=hp2 i hi2 hi'
      simp only [List.getElem_map]
      refine ⟨q2,λoff ho=> ?_⟩
      split at ho
      ·cases ho
       rw [e2,q1]
      ·cases ho) z5 z7
     refine ⟨.agg arr',run_build w T parts arr' ?_,?_⟩
     ·simp only [Program.built,z1,h1,z4,e1]
      exact r1
     ·simp only [SV.rel]
      exact ⟨arr'.toList,by simp,r2,r3⟩
    ·cases h
   ·cases h
  ·cases h
theorem aiT {z:Array Value} {n i:Nat} (hz:0<z.size) (h:i<n):seg (madeCells z (n*z.size)).toList (i*z.size) z.size=z.toList:=by
 have hle:(i+1)*z.size<=n*z.size:=Nat.mul_le_mul_right _ h
 rw [Nat.succ_mul] at hle
 apply List.ext_getElem?
 intro j
 simp only [seg,madeCells,List.getElem?_take,List.getElem?_drop,Array.toList_map,Array.toList_range,List.getElem?_map]
 by_cases hj:j<z.size
 ·simp only [hj,if_true]
  rw [List.getElem?_range (by omega)]
  simp only [Option.map_some,Nat.mul_add_mod_self_right,Nat.mod_eq_of_lt hj]
  simp [hj]
 ·simp [hj]
theorem asD {cs:List SV} {z:Array Value} (h:SV.bV R cs z.toList) (hz:0<z.size) (n:Nat):SV.bV R ((List.range n).flatMap λ_=>cs) (madeCells z (n*z.size)).toList:=by
 have hl:(madeCells z (n*z.size)).toList.length=n*z.size:=by simp [size_madeCells]
 have:=vG (R:=R) (f:=λ_=>cs) (cs:=(madeCells z (n*z.size)).toList) (s:=z.size) n (by omega) (λi hi=>by rw [aiT hz hi];exact h)
 rwa [List.take_of_length_le (Nat.le_of_eq hl)] at this
theorem aAN {z:Array Value} (h:∀ u ∈ z.toList,u.oneCell'=true) (hz:0<z.size) (n:Nat):∀ u ∈ (madeCells z n).toList,u.oneCell'=true:=λu hu=>by
 simp only [madeCells,Array.toList_map,List.mem_map,Array.toList_range,List.mem_range] at hu
 obtain ⟨i,_,rfl⟩:=hu
 have:i%z.size<z.size:=Nat.mod_lt _ hz
 rw [getElem!_pos z (i%z.size) this]
 exact h _ (by simp)
theorem pB {hp:Hp} {d:Nat} (h:¬(hp (fresh hp d)).isSome=true):hp (fresh hp d)=none:=by
 cases hq:hp (fresh hp d) with
 |none=>rfl
 |some _=>rw [hq] at h;simp at h
theorem qC {n:Nat} {t:Ty} {xs:List t.T} {L:Loc} {cap:Nat} (hcap:xs.length<=cap) (hlim:cap*t.size<=L.lim) (hb:L.base=0):
 SV.rel (R.lay n ⟨0,.row t xs⟩ (some L)) (.own n 0) (.slice (some ⟨L.block,0,none⟩) xs.length cap):=by
 simp only [SV.rel]
 have hc:(R.lay n ⟨0,.row t xs⟩ (some L)).hp n=some ⟨0,.row t xs⟩:=by simp [Ctx.lay]
 refine ⟨rfl,_,hc,Nat.le_refl _,λ_=>⟨_,hc,Nat.le_refl _,λ_=>⟨rfl,by simp,some ⟨L.block,0,none⟩,cap,rfl,hcap,?_⟩⟩⟩
 simp only [Ctx.lay,if_true]
 exact ⟨by simpa [Chunk.shape] using hlim,λ_=>by simp [hb]⟩
theorem JR {n:Nat} {t:Ty} {ad:Option Addr}:SV.rel (R.lay n ⟨0,.row t []⟩ none) (.own n 0) (.slice ad 0 0):=by
 simp only [SV.rel]
 have hc:(R.lay n ⟨0,.row t []⟩ none).hp n=some ⟨0,.row t []⟩:=by simp [Ctx.lay]
 refine ⟨rfl,_,hc,Nat.le_refl _,λ_=>⟨_,hc,Nat.le_refl _,λ_=>⟨rfl,by simp,ad,0,rfl,Nat.le_refl _,?_⟩⟩⟩
 simp [Ctx.lay]
theorem Iu (hm:dt R w) {te:TE} (hte:mZ P te) {T:TypeId} {d len:Nat} {ps:List (Nat×SV)} {parts:Array (Nat×Value)} {e:Eff} (h:(buildSlice te R.hp d T len ps).run=some e)
 (hp:Wm R ps parts.toList):Nu P R w (Instr.buildSlice T len parts) e:=by
 unfold buildSlice at h
 split at h
 ·rename_i el _ _ hT
  split at h
  ·rename_i size bytes desc zero t hei
   obtain ⟨ds,h1,h2⟩:=(hte T _ hT).desc
   simp only at h2
   subst h2
   have he:=hte el _ hei
   obtain ⟨ie,zv,z1,z2,z3,z4,z5,z6,z7⟩:=he.vx (R:=R)
   simp only at z2 z6
   dsimp only at h
   split at h
   ·cases h
   ·rename_i hc
    simp only [not_or] at hc
    obtain ⟨hfr,hts,hs0,hsm⟩:=hc
    have hn:=pB hfr
    have hts:t.size=size:=by simpa using hts
    split at h
    ·rename_i cs hfill
     split at h
     ·rename_i xs hxs
      cases h
      obtain ⟨hp1,hp2⟩:=hp
      have hzs:0<zv.cells.size:=by omega
      obtain ⟨arr',r1,r2,r3,r4⟩:=wV (R:=R) (place:=λi=>some (i*ie.size,ie.size)) _ parts.toList _ _ (madeCells zv.cells (len*zv.cells.size)) hfill (by simpa using hp1) (λi hi hi'=>by
       have hi2:i<ps.length:=by simpa using hi
       obtain ⟨q1,q2⟩:=hp2 i hi2 hi'
       simp only [List.getElem_map]
       refine ⟨q2,λoff ho=> ?_⟩
       split at ho
       ·cases ho
        rw [z2,q1]
       ·cases ho) (asD z5 hzs len) (aAN z7 hzs _)
      have hsz:arr'.size=len*size:=by rw [r4,size_madeCells,z6]
      obtain ⟨x1,x2⟩:=aj4 hm r2 hxs
      by_cases hl0:len=0
      ·subst hl0
       have hx0:xs= []:=List.eq_nil_of_length_eq_zero x1
       subst hx0
       have ha0:arr'= #[]:=Array.eq_empty_of_size_eq_zero (by omega)
       subst ha0
       have hm0:madeCells zv.cells (0*zv.cells.size)= #[]:=by simp [madeCells]
       rw [hm0] at r1
       refine ⟨.slice (some ⟨w.heap.size,0,none⟩) 0 0,_,_,?_,LS hm hn (by omega) (xs:= []) (arr:= #[]) (E:=el) (by simp) (heap_alloc_new w _) (pX w _) (by simp) (λi hi=>by simp at hi),qC (by simp) (by simp) rfl⟩
       have hr0:Array.range 0= #[]:=rfl
       simp [Instr.buildSlice,run_underlying h1,sizeOf,typeInfo,z1,newRow,r1,hr0]
      ·have hpos:¬len*ie.size=0:=by
        rw [z2]
        exact Nat.mul_ne_zero hl0 hs0
       have hrun:=run_buildSlice (P:=P) w T el len parts arr' ie zv h1 z1 z4 (by rw [z2];omega) hpos (by rw [<-r1];congr 1;rw [z2,<-z6];rfl)
       refine ⟨_,_,_,hrun,LS hm hn (by omega) (xs:=xs) (arr:=arr') (E:=el) ?_ (heap_alloc_new w _) (pX w _) (by rw [x1,hsz,hts];exact Nat.le_refl _) (λi hi=>x2 i (by omega)),?_⟩
       ·have h5:len*1<=len*size:=Nat.mul_le_mul_left _ (by omega)
        unfold cW
        omega
       ·rw [<-x1]
        exact qC (Nat.le_refl _) (by rw [x1,hts];simp [hsz]) rfl
     ·cases h
    ·cases h
  ·cases h
 ·cases h
theorem LI (hm:dt R w) {te:TE} (hte:mZ P te) {T:TypeId} {d:Nat} {l c:Int} {e:Eff} (h:(makeSlice te R.hp d T l c).run=some e):
 Nu P R w (Instr.makeSlice T (.int .i64 l) (.int .i64 c)) e:=by
 unfold makeSlice at h
 split at h
 ·rename_i el _ _ hT
  split at h
  ·rename_i size bytes desc zero t hei
   obtain ⟨ds,h1,h2⟩:=(hte T _ hT).desc
   simp only at h2
   subst h2
   have he:=hte el _ hei
   obtain ⟨ie,zv,z1,z2,z3,z4,z5,z6,z7⟩:=he.vx (R:=R)
   simp only at z2 z3 z6
   dsimp only at h
   split at h
   ·cases h
   ·rename_i hc
    simp only [not_or] at hc
    obtain ⟨hfr,hts,hs0⟩:=hc
    have hn:=pB hfr
    have hts:t.size=size:=by simpa using hts
    obtain ⟨hg,h'⟩:=OT.aJ h
    cases h'
    simp only [Bool.and_eq_true,decide_eq_true_eq] at hg
    obtain ⟨⟨⟨g1,g2⟩,g3⟩,g4⟩:=hg
    have hrun:=run_make (P:=P) w T el ie zv h1 z1 z4 .i64 .i64 l c g1 g2 (by rw [z3,Int.mul_comm];omega) (by omega)
    have hzs:0<zv.cells.size:=by omega
    have hmax:l.toNat<=cW:=by unfold cW;omega
    have hty:=((he.ty t rfl).2.1)
    have hlen:(List.replicate l.toNat t.d).length=l.toNat:=List.length_replicate
    have hsz:(madeCells zv.cells (c.toNat*ie.size)).size=c.toNat*size:=by rw [size_madeCells,z2]
    refine ⟨_,_,_,hrun,LS hm hn (by omega) (xs:=List.replicate l.toNat t.d) (E:=el) (by rw [hlen];exact hmax) (heap_alloc_new w _) (pX w _) ?_ (λi hi=> ?_),?_⟩
    ·rw [hlen,hsz,hts]
     exact Nat.mul_le_mul_right _ (by omega)
    ·rw [hlen] at hi
     have e1:(List.replicate l.toNat t.d).getD i t.d=t.d:=by
      simp only [List.getD_eq_getElem?_getD,List.getElem?_replicate]
      split<;>rfl
     rw [e1,z2,<-z6,hts,<-z6,aiT hzs (by omega)]
     exact hty R.F zv (by rw [z1];simpa using z4)
    ·have:=qC (R:=R) (n:=fresh R.hp d) (t:=t) (xs:=List.replicate l.toNat t.d) (L:=⟨w.heap.size,0,(madeCells zv.cells (c.toNat*ie.size)).size⟩) (cap:=c.toNat) (by rw [hlen];omega) (by simp only;rw [hsz,hts];exact Nat.le_refl _) rfl
     rwa [hlen] at this
  ·cases h
 ·cases h
end
end Sx
end Go.Proofs.YtohjofabochgfaaGreat

namespace Go.Proofs.YtohjofabochgfaaGreat
namespace Sx
open Go
section
variable {P:Program} {R:Ctx} {w:World}
structure Src (P:Program) (R:Ctx) (w:World) (t:Ty) (ys:List t.T) (v:Value) (news:List Value):Prop where
 len:∀ w',(Builtin.lenOf v).run P w'=.ok ys.length w'
 cells:∀ w' n,(∀ b,b<w.heap.size->w'.heap[b]? =w.heap[b]?)->n<=ys.length->(Builtin.firstCells t.size n v).run P w'=.ok (news.take (n*t.size)).toArray w'
 size:news.length=ys.length*t.size
 rep:∀ i,i<ys.length->Rep R.F t (ys.getD i t.d) (seg news (i*t.size) t.size)
 one:∀ u ∈ news,u.oneCell'=true
 max:ys.length<=cW
theorem ar0 {t:Ty} {ys:List t.T} {b o cap:Nat} {arr:Array Value} {E:TypeId} {fz:Nat×Nat} (ht:0<t.size) (hb:w.heap[b]? =some (.cells arr E fz)) (hs:o+ys.length*t.size<=arr.size)
 (hr:Wk R arr o t ys) (hmax:ys.length<=cW):Src P R w t ys (.slice (some ⟨b,o,none⟩) ys.length cap) (seg arr.toList o (ys.length*t.size)):=by
 have hlen:(seg arr.toList o (ys.length*t.size)).length=ys.length*t.size:=gp (by simpa using hs)
 have hlt:b<w.heap.size:=(Array.getElem?_eq_some_iff.1 hb).1
 refine ⟨λw'=>rfl,λw' n kN hn=> ?_,hlen,λi hi=> ?_,?_,hmax⟩
 ·have hle:n*t.size<=ys.length*t.size:=Nat.mul_le_mul_right _ hn
  have:=GV (P:=P) (w:=w') (o:=o) (n:=n*t.size) ((kN b hlt).trans hb) (by omega)
  simp only [Builtin.firstCells]
  rw [this]
  congr 2
  simp only [seg,List.take_take]
  rw [Nat.min_eq_left hle]
 ·have hle:(i+1)*t.size<=ys.length*t.size:=Nat.mul_le_mul_right _ hi
  rw [Nat.succ_mul] at hle
  rw [Ej _ _ _ _ _ hle]
  exact hr i hi
 ·have:=Fo hr ht (i:=0) (m:=ys.length) (by omega)
  simpa using this
theorem acr {t:Ty} {ad:Option Addr}:Src P R w t [] (.slice ad 0 0) []:=by
 refine ⟨λw'=>rfl,λw' n _ hn=> ?_,by simp,λi hi=>by simp at hi,by simp,by simp⟩
 simp only [List.length_nil,Nat.le_zero] at hn
 subst hn
 cases ad with
 |none=>simp [Builtin.firstCells]
 |some a=>simp [Builtin.firstCells,Go.loadCells,loadCellsFrom]
theorem m7 (hm:dt R w) {c e off len:Nat} {v:Value} {t:Ty} {xs:List t.T} {b:Chunk} (hc:R.hp c=some ⟨e,b⟩) (hb:b=.row t xs\/b=.frz t xs) (h:R.part c e off len v):
 ∃ news,Src P R w t ((xs.drop off).take len) v news:=by
 obtain ⟨h1,h2,ad,cap,rfl,h4,h5⟩:=Ctx.di hc h
 have hsh:b.shape=(true,t.size,xs.length):=by rcases hb with rfl|rfl<;>rfl
 rw [hsh] at h2 h5
 simp only at h2 h5
 have hlen:((xs.drop off).take len).length=len:=by simp;omega
 have hch:=hm.ch c _ hc
 cases hσ:R.σ c with
 |none=>
  rw [hσ] at h5
  simp only at h5
  have hl0:len=0:=by omega
  subst hl0;subst h5
  exact ⟨[],by simpa using acr⟩
 |some L=>
  rw [hσ] at h5
  obtain ⟨h6,h7⟩:=h5
  by_cases hl0:len=0
  ·subst hl0
   refine ⟨[],?_⟩
   have:Src P R w t [] (.slice ad 0 cap) []:=by
    refine ⟨λw'=>rfl,λw' n _ hn=> ?_,by simp,λi hi=>by simp at hi,by simp,by simp⟩
    simp only [List.length_nil,Nat.le_zero] at hn
    subst hn
    cases ad with
    |none=>simp [Builtin.firstCells]
    |some a=>simp [Builtin.firstCells,Go.loadCells,loadCellsFrom]
   simpa using this
  ·have had:=h7 (by omega)
   subst had
   have key:∀ (arr:Array Value) (E:TypeId) (fz:Nat×Nat),0<t.size->xs.length<=cW->w.heap[L.block]? =some (.cells arr E fz)->arr.size=L.base+L.lim->xs.length*t.size<=L.lim->Wk R arr L.base t xs->
    ∃ news,Src P R w t ((xs.drop off).take len) (.slice (some ⟨L.block,L.base+off*t.size,none⟩) len cap) news:=λarr E fz ht hmx hbk ha hl hrow=>by
    have hle:(off+len)*t.size<=xs.length*t.size:=Nat.mul_le_mul_right _ h2
    rw [Nat.add_mul] at hle
    have:=ar0 (P:=P) (R:=R) (w:=w) (ys:=(xs.drop off).take len) (o:=L.base+off*t.size) (cap:=cap) ht hbk (by rw [hlen];omega) (λi hi=>by
     rw [hlen] at hi
     have e1:((xs.drop off).take len).getD i t.d=xs.getD (off+i) t.d:=by
      simp only [List.getD_eq_getElem?_getD]
      rw [List.getElem?_take_of_lt hi,List.getElem?_drop]
     rw [e1,Nat.add_assoc,<-Nat.add_mul]
     exact hrow _ (by omega)) (by omega)
    rw [hlen] at this
    exact ⟨_,this⟩
   rcases hb with rfl|rfl
   ·simp only [eV,hσ] at hch
    obtain ⟨ht,hmx,_,_,arr,E,hbk,ha,hl,hrow⟩:=hch
    exact key arr E _ ht hmx hbk ha hl hrow
   ·simp only [eV,hσ] at hch
    obtain ⟨ht,hmx,arr,E,fz,hbk,ha,hl,hrow⟩:=hch
    exact key arr E fz ht hmx (hm.F _ _ hbk) ha hl hrow
theorem aFc (hm:dt R w) {t:Ty} (ht:0<t.size) {xs:List t.T} {v:Value} (h:Rep R.F (.list t) xs [v]):∃ news,Src P R w t xs v news:=by
 obtain ⟨hmax,ad,cap,hcs,hcap,hor⟩:=h
 cases hcs
 rcases hor with rfl|⟨b,o,arr,E,fz,rfl,hF,hsz,hrow⟩
 ·refine ⟨[],⟨λw'=>rfl,λw' n _ hn=> ?_,by simp,λi hi=>by simp at hi,by simp,by simp⟩⟩
  simp only [List.length_nil,Nat.le_zero] at hn
  subst hn
  cases ad with
  |none=>simp [Builtin.firstCells]
  |some a=>simp [Builtin.firstCells,Go.loadCells,loadCellsFrom]
 ·exact ⟨_,ar0 ht (hm.F _ _ hF) hsz hrow hmax⟩
theorem Sq (hm:dt R w) {t:Ty} (ht:0<t.size) {x:SV} {ys:List t.T} {v:Value} (h:yq t R.hp x=some ys) (hx:SV.rel R x v):∃ news,Src P R w t ys v news:=by
 unfold yq at h
 split at h
 ·obtain ⟨e,rfl⟩:=bt h
  subst e
  simp only [SV.rel] at hx
  exact aFc hm ht hx
 ·cases h
  simp only [SV.rel] at hx
  obtain ⟨ad,rfl⟩:=hx
  exact ⟨[],acr⟩
 ·rename_i c e
  simp only [SV.rel] at hx
  split at h
  ·rename_i ep t' xs hc
   split at h
   ·rename_i he
    subst he
    obtain ⟨e,rfl⟩:=bt h
    subst e
    have:=m7 (P:=P) hm hc (.inl rfl) (Ctx.dl hc hx.2)
    simpa [Chunk.shape] using this
   ·cases h
  ·rename_i ep t' xs hc
   split at h
   ·rename_i he
    subst he
    obtain ⟨e,rfl⟩:=bt h
    subst e
    have:=m7 (P:=P) hm hc (.inr rfl) (Ctx.dl hc hx.2)
    simpa [Chunk.shape] using this
   ·cases h
  ·cases h
 ·rename_i c e
  simp only [SV.rel] at hx
  split at h
  ·rename_i ep t' xs hc
   split at h
   ·rename_i he
    subst he
    obtain ⟨e,rfl⟩:=bt h
    subst e
    have:=m7 (P:=P) hm hc (.inl rfl) (Ctx.dl hc hx.2.1)
    simpa [Chunk.shape] using this
   ·cases h
  ·rename_i ep t' xs hc
   split at h
   ·rename_i he
    subst he
    obtain ⟨e,rfl⟩:=bt h
    subst e
    have:=m7 (P:=P) hm hc (.inr rfl) (Ctx.dl hc hx.2.1)
    simpa [Chunk.shape] using this
   ·cases h
  ·cases h
 ·rename_i c e off len
  simp only [SV.rel] at hx
  split at h
  ·rename_i ep t' xs hc
   split at h
   ·rename_i he
    subst he
    cases hr:cp t t' xs with
    |none=>rw [hr] at h;cases h
    |some zs=>
     rw [hr] at h
     cases h
     obtain ⟨e,rfl⟩:=bt hr
     subst e
     exact m7 hm hc (.inl rfl) hx.2
   ·cases h
  ·rename_i ep t' xs hc
   split at h
   ·rename_i he
    subst he
    cases hr:cp t t' xs with
    |none=>rw [hr] at h;cases h
    |some zs=>
     rw [hr] at h
     cases h
     obtain ⟨e,rfl⟩:=bt hr
     subst e
     exact m7 hm hc (.inr rfl) hx.2
   ·cases h
  ·cases h
 ·cases h
theorem arY {t:Ty} {b:List UInt8} {ys:List t.T} {v:Value} (h:cp t .u8 b=some ys) (hx:SV.rel R (.str b) v):∃ news,Src P R w t ys v news:=by
 obtain ⟨e,rfl⟩:=bt h
 subst e
 simp only [SV.rel] at hx
 obtain ⟨rfl,hmax⟩:=hx
 refine ⟨b.map vu8,⟨λw'=>rfl,λw' n _ hn=> ?_,by simp [Ty.size],λi hi=> ?_,λu hu=> ?_,hmax⟩⟩
 ·simp only [Builtin.firstCells,Sem.run_pure]
  congr 1
  apply Array.ext'
  simp [Ty.size,ByteArray.data_extract,List.map_take]
  rfl
 ·simp only [Rep,Ty.size,Nat.mul_one,seg]
  rw [List.drop_eq_getElem_cons (by simpa using hi)]
  simp [List.getD_eq_getElem?_getD,List.getElem?_eq_getElem hi]
 ·obtain ⟨x,_,rfl⟩:=List.mem_map.1 hu
  rfl
end
end Sx
end Go.Proofs.YtohjofabochgfaaGreat

namespace Go.Proofs.YtohjofabochgfaaGreat
namespace Sx
open Go
section
variable {P:Program} {R:Ctx} {w:World}
theorem S8 {te:TE} (hte:mZ P te) {T:TypeId} (h:AR te T=true):(∃ e,P.underlying T=some (.slice e))\/P.underlying T=some .string:=by
 unfold AR at h
 split at h
 ·rename_i hT
  obtain ⟨d,h1,h2⟩:=(hte T _ hT).desc
  simp only at h2
  subst h2
  exact .inl ⟨_,h1⟩
 ·rename_i hT
  obtain ⟨d,h1,h2⟩:=(hte T _ hT).desc
  simp only at h2
  subst h2
  exact .inr h1
 ·cases h
section
variable {T T' Tr e:TypeId} {ti:TI} {sLen sCap:Nat} {x:Value} {n:Nat} (hT:P.underlying T=some (.slice e)) (he:bo P e ti)
 (hT':(∃ e,P.underlying T'=some (.slice e))\/P.underlying T'=some .string) (hx:(Builtin.lenOf x).run P w=.ok n w)
include hT he hT' hx
theorem sH {a:Addr} {news:List Value} {w1:World} (hf:(Builtin.firstCells ti.size n x).run P w=.ok news.toArray w) (hroom:sLen+n<=sCap)
 (hst:(Go.storeCells (a.add (sLen*ti.size)) news).run P w=.ok () w1):
 (Builtin.append_ #[T,T'] Tr #[.slice (some a) sLen sCap,x]).run P w=.ok (.slice (some a) (sLen+n) sCap) w1:=by
 have hs:=he.cu w
 rcases hT' with ⟨e',hT'⟩|hT'<;>simp [Builtin.append_,run_underlying hT,run_underlying hT',hs,hx,hroom,hf,hst]
theorem jC {news:List Value} (hf:(Builtin.firstCells ti.size n x).run P w=.ok news.toArray w) (hroom:sLen+n<=sCap):
 (Builtin.append_ #[T,T'] Tr #[.slice none sLen sCap,x]).run P w=.ok (.slice none (sLen+n) sCap) w:=by
 have hs:=he.cu w
 rcases hT' with ⟨e',hT'⟩|hT'<;>simp [Builtin.append_,run_underlying hT,run_underlying hT',hs,hx,hroom,hf]
theorem GW {base:Option Addr} {olds news:List Value} {ie:TypeInfo} {z:Value} (hi:P.info? e=some ie) (hz:ie.zero=some z) (hroom:¬sLen+n<=sCap) (h63:sLen+n<=140737488355328)
 (hcap:Builtin.nextslicecap (sLen+n) sCap*ie.bytes<=281474976710656)
 (ho:(Builtin.firstCells ti.size sLen (.slice base sLen sCap)).run P w.drew=.ok olds.toArray w.drew) (hf:(Builtin.firstCells ti.size n x).run P w.drew=.ok news.toArray w.drew):
 (Builtin.append_ #[T,T'] Tr #[.slice base sLen sCap,x]).run P w=
  .ok (.slice (some ⟨w.heap.size,0,none⟩) (sLen+n) (grownCap w (sLen+n) sCap e))
   (w.drew.alloc (.cells (olds.toArray++news.toArray++Builtin.zeroCells z.cells (grownCap w (sLen+n) sCap e-(sLen+n))) e)):=by
 have hs:=he.cu w
 have h63':¬(9223372036854775807<((sLen:Int)+(n:Int))):=by omega
 have h48':¬(281474976710656<Builtin.nextslicecap (sLen+n) sCap*ie.bytes):=by omega
 have hti:(typeInfo e).run P w=.ok ie w:=by simp [typeInfo,hi]
 rcases hT' with ⟨e',hT'⟩|hT'
 ·simp [Builtin.append_,run_underlying hT,run_underlying hT',hs,hx,hroom,typeInfo,zeroValue,hi,hz,h63',h48',Question.forced,hf,ho,newRow,grownCap]
  congr 2
  apply Array.ext'
  simp
 ·simp [Builtin.append_,run_underlying hT,run_underlying hT',hs,hx,hroom,typeInfo,zeroValue,hi,hz,h63',h48',Question.forced,hf,ho,newRow,grownCap]
  congr 2
  apply Array.ext'
  simp
end
theorem Cw (w:World):∀ b,b<w.heap.size->w.drew.heap[b]? =w.heap[b]? :=λ_ _=>rfl
theorem Ep {t:Ty} {xs ys:List t.T} {A B C:List Value} (hA:A.length=xs.length*t.size) (hB:B.length=ys.length*t.size)
 (ha:∀ i,i<xs.length->Rep R.F t (xs.getD i t.d) (seg A (i*t.size) t.size)) (hb:∀ i,i<ys.length->Rep R.F t (ys.getD i t.d) (seg B (i*t.size) t.size)):
 ∀ i,i<(xs++ys).length->Rep R.F t ((xs++ys).getD i t.d) (seg (A++B++C) (i*t.size) t.size):=λi hi=>by
 rw [List.length_append] at hi
 by_cases h:i<xs.length
 ·have hle:(i+1)*t.size<=xs.length*t.size:=Nat.mul_le_mul_right _ h
  rw [Nat.succ_mul] at hle
  have e1:(xs++ys).getD i t.d=xs.getD i t.d:=by
   simp only [List.getD_eq_getElem?_getD]
   rw [List.getElem?_append_left h]
  have e2:seg (A++B++C) (i*t.size) t.size=seg A (i*t.size) t.size:=by
   apply List.ext_getElem?
   intro j
   simp only [seg,List.getElem?_take,List.getElem?_drop]
   by_cases hj:j<t.size
   ·simp only [hj,if_true]
    rw [List.append_assoc,List.getElem?_append_left (by omega)]
   ·simp [hj]
  rw [e1,e2]
  exact ha i h
 ·have hle:(i-xs.length+1)*t.size<=ys.length*t.size:=Nat.mul_le_mul_right _ (by omega)
  rw [Nat.succ_mul] at hle
  have hsub:(i-xs.length)*t.size+xs.length*t.size=i*t.size:=by rw [<-Nat.add_mul];congr 1;omega
  have e1:(xs++ys).getD i t.d=ys.getD (i-xs.length) t.d:=by
   simp only [List.getD_eq_getElem?_getD]
   rw [List.getElem?_append_right (by omega)]
  have e2:seg (A++B++C) (i*t.size) t.size=seg B ((i-xs.length)*t.size) t.size:=by
   apply List.ext_getElem?
   intro j
   simp only [seg,List.getElem?_take,List.getElem?_drop]
   by_cases hj:j<t.size
   ·simp only [hj,if_true]
    rw [List.getElem?_append_left (by simp;omega),List.getElem?_append_right (by omega)]
    congr 1
    omega
   ·simp [hj]
  rw [e1,e2]
  exact hb _ (by omega)
theorem ZF (hm:dt R w) {te:TE} {T T' Tr e:TypeId} {ti:TI} (hT:P.underlying T=some (.slice e)) (he:bo P e ti) (hT':(∃ e,P.underlying T'=some (.slice e))\/P.underlying T'=some .string)
 {t:Ty} (ht:0<t.size) (hts:t.size=ti.size) {xs ys:List t.T} {base:Option Addr} {sCap:Nat} {x:Value} {news:List Value} (hsrc:Src P R w t ys x news) {olds:List Value} (hold:Src P R w t xs (.slice base xs.length sCap) olds)
 (hroom:¬xs.length+ys.length<=sCap) (hbytes:(xs.length+ys.length)*ti.bytes<=140737488355328) (hb0:0<ti.bytes) {n:Nat} (hn:R.hp n=none):
 Nu P R w (Builtin.append_ #[T,T'] Tr #[.slice base xs.length sCap,x]) ⟨.own n 0,[(n,⟨0,.row t (xs++ys)⟩)]⟩:=by
 obtain ⟨ie,z,z1,z2,z3,z4,z5,z6,z7⟩:=he.vx (R:=R)
 have h63:xs.length+ys.length<=140737488355328:=by
  have:(xs.length+ys.length)*1<=(xs.length+ys.length)*ti.bytes:=Nat.mul_le_mul_left _ hb0
  omega
 have hf:=hsrc.cells w.drew ys.length (Cw w) (Nat.le_refl _)
 have ho:=hold.cells w.drew xs.length (Cw w) (Nat.le_refl _)
 rw [hts,<-hts,List.take_of_length_le (by rw [hsrc.size];exact Nat.le_refl _)] at hf
 rw [List.take_of_length_le (by rw [hold.size];exact Nat.le_refl _)] at ho
 rw [hts] at hf ho
 have hrun:=GW (Tr:=Tr) hT he hT' (hsrc.len w) z1 z4 hroom h63 (growslice_fits (by omega) (by rw [z3];exact hbytes)) ho hf
 have hge:=grownCap_ge w (xs.length+ys.length) sCap e
 have hgm:=grownCap_le_maxLen w (xs.length+ys.length) sCap e (by unfold maxLen;omega)
 have hlen:(xs++ys).length=xs.length+ys.length:=List.length_append
 have hsz:(olds.toArray++news.toArray++Builtin.zeroCells z.cells (grownCap w (xs.length+ys.length) sCap e-(xs.length+ys.length))).size=grownCap w (xs.length+ys.length) sCap e*t.size:=by
  simp only [Array.size_append,List.size_toArray,size_zeroCells,z6,hold.size,hsrc.size,<-hts,<-Nat.add_mul]
  congr 1
  omega
 refine ⟨_,_,_,hrun,LS hm hn ht (xs:=xs++ys) (E:=e) (by rw [hlen];unfold cW;omega) (heap_alloc_new w.drew _) (λb hb=>heap_alloc_old w.drew _ b hb) ?_ ?_,?_⟩
 ·rw [hlen,hsz]
  exact Nat.mul_le_mul_right _ hge
 ·have:=Ep (R:=R) (C:=(Builtin.zeroCells z.cells (grownCap w (xs.length+ys.length) sCap e-(xs.length+ys.length))).toList) hold.size hsrc.size hold.rep hsrc.rep
  simpa using this
 ·have hfin:=qC (R:=R) (n:=n) (t:=t) (xs:=xs++ys) (L:=⟨w.heap.size,0,(olds.toArray++news.toArray++Builtin.zeroCells z.cells (grownCap w (xs.length+ys.length) sCap e-(xs.length+ys.length))).size⟩)
   (cap:=grownCap w (xs.length+ys.length) sCap e) (by rw [hlen];exact hge) (by simp only;rw [hsz];exact Nat.le_refl _) rfl
  rw [hlen] at hfin
  exact hfin
end
end Sx
end Go.Proofs.YtohjofabochgfaaGreat

namespace Go.Proofs.YtohjofabochgfaaGreat
namespace Sx
open Go
section
variable {P:Program} {R:Ctx} {w:World}
theorem Xt (hm:dt R w) {c e:Nat} {t:Ty} {xs:List t.T} (hc:R.hp c=some ⟨e,.row t xs⟩):0<t.size/\xs.length<=cW:=by
 have:=hm.ch c _ hc
 simp only [eV] at this
 exact ⟨this.1,this.2.1⟩
def Ctx.move (R:Ctx) (c:Nat) (ch:Ch) (L:Option Loc):Ctx:= {R with hp:=λm=>if m=c then some ch else R.hp m,σ:=λm=>if m=c then L else R.σ m}
theorem Ctx.UO {R:Ctx} {c:Nat} {ch ch':Ch} {L:Option Loc} (hc:R.hp c=some ch) (he:ch.ep<ch'.ep):R.Ext (R.move c ch' L):=by
 refine ⟨λ_ _ h=>h,rfl,λn c1 hn=> ?_⟩
 by_cases e:n=c
 ·subst e
  rw [hc] at hn
  cases Option.some.inj hn
  exact ⟨ch',by simp [Ctx.move],Nat.le_of_lt he,λh=>by omega⟩
 ·exact ⟨c1,by simp [Ctx.move,e,hn],Nat.le_refl _,λ_=>⟨rfl,by simp [Ctx.move,e]⟩⟩
theorem Iw (hm:dt R w) {T T' Tr el:TypeId} {ti:TI} (hT:P.underlying T=some (.slice el)) (he:bo P el ti) (hT':(∃ e,P.underlying T'=some (.slice e))\/P.underlying T'=some .string)
 {t:Ty} (hts:t.size=ti.size) {c ep:Nat} {xs ys:List t.T} (hc:R.hp c=some ⟨ep,.row t xs⟩) {v x:Value} {news:List Value} (hv:R.own c ep v) (hsrc:Src P R w t ys x news)
 (hbytes:(xs.length+ys.length)*ti.bytes<=140737488355328) (hb0:0<ti.bytes):
 Nu P R w (Builtin.append_ #[T,T'] Tr #[v,x]) ⟨.own c (ep+1),[(c,⟨ep+1,.row t (xs++ys)⟩)]⟩:=by
 obtain ⟨ht,hmx⟩:=Xt hm hc
 have hp:=Ctx.dl hc hv
 obtain ⟨news0,hold⟩:=m7 (P:=P) hm hc (.inl rfl) hp
 obtain ⟨_,_,ad,cap,rfl,hcap,h5⟩:=Ctx.di hc hp
 simp only [Chunk.shape,List.drop_zero,List.take_length,Nat.zero_add,Nat.zero_mul,Nat.add_zero] at hold hcap h5⊢
 have h63:xs.length+ys.length<=140737488355328:=by
  have:(xs.length+ys.length)*1<=(xs.length+ys.length)*ti.bytes:=Nat.mul_le_mul_left _ hb0
  omega
 have hlen:(xs++ys).length=xs.length+ys.length:=List.length_append
 have hch:=hm.ch c _ hc
 have hf:=hsrc.cells w ys.length (λ_ _=>rfl) (Nat.le_refl _)
 rw [hts,<-hts,List.take_of_length_le (by rw [hsrc.size];exact Nat.le_refl _),hts] at hf
 by_cases hroom:xs.length+ys.length<=cap
 ·--in place
  cases hσ:R.σ c with
  |none=>
   rw [hσ] at h5
   simp only at h5
   subst h5
   have hx0:xs= []:=List.eq_nil_of_length_eq_zero (by omega)
   have hy0:ys= []:=List.eq_nil_of_length_eq_zero (by omega)
   subst hx0;subst hy0
   have hn0:news= []:=List.eq_nil_of_length_eq_zero (by rw [hsrc.size];simp)
   subst hn0
   have hrun:(Builtin.append_ #[T,T'] Tr #[.slice ad 0 0,x]).run P w=.ok (.slice ad 0 0) w:=by
    cases ad with
    |none=>exact jC hT he hT' (hsrc.len w) hf hroom
    |some a=>exact sH hT he hT' (hsrc.len w) hf hroom rfl
   have hx:=Ctx.UO (L:=none) (ch':=⟨ep+1,.row t ([]++ [])⟩) hc (by simp)
   refine ⟨_,w,R.move c ⟨ep+1,.row t ([]++ [])⟩ none,hrun,⟨hx,rfl,?_⟩,?_⟩
   ·refine dt.turn hm hx rfl rfl (λn hn=>by simp [Ctx.move,hn]) w.heap.size (λ_ _ _=>rfl) ⟨hm.Wo,hm.Wj,λn ch L hn h1 h2 h3=> ?_⟩ ?_ (λL h2=>by simp [Ctx.move] at h2)
    ·have:=hm.lt h1 h2 h3;omega
    ·simp only [eV,Ctx.move,if_true]
     exact ⟨ht,by simp,rfl⟩
   ·simp only [SV.rel]
    have hc':(R.move c ⟨ep+1,.row t ([]++ [])⟩ none).hp c=some ⟨ep+1,.row t ([]++ [])⟩:=by simp [Ctx.move]
    refine ⟨rfl,_,hc',Nat.le_refl _,λ_=>⟨_,hc',Nat.le_refl _,λ_=>⟨rfl,by simp,ad,0,rfl,Nat.le_refl _,?_⟩⟩⟩
    simp [Ctx.move]
  |some L=>
   rw [hσ] at h5
   obtain ⟨h6,h7⟩:=h5
   simp only [eV,hσ] at hch
   obtain ⟨_,_,hF,hU,arr,E,hb,ha,hl,hrow⟩:=hch
   have hle:(xs.length+ys.length)*t.size<=cap*t.size:=Nat.mul_le_mul_right _ hroom
   rw [Nat.add_mul] at hle
   have hst:∀ a,ad=some a->(Go.storeCells (a.add (xs.length*ti.size)) news).run P w=.ok () (w.setRow L.block (arr.toList.take (L.base+xs.length*t.size)++news++arr.toList.drop (L.base+xs.length*t.size+news.length)).toArray):=λa haa=>by
    by_cases hz:news= []
    ·subst hz
     simp only [Go.storeCells,List.append_nil,List.length_nil,Nat.add_zero,List.take_append_drop,Array.toArray_toList]
     rw [setRow_self w L.block arr E (0,0) hb]
     rfl
    ·have hpos:0<cap:=by
      have:0<news.length:=List.length_pos_iff.2 hz
      rw [hsrc.size] at this
      have:=Nat.pos_of_mul_pos_right this
      omega
     have:=h7 hpos
     rw [haa] at this
     cases this
     rw [gZ,<-hts]
     have:=run_storeCells_at P L.block (L.base+xs.length*t.size) E news 0 arr w hb (by rw [hsrc.size];omega) hsrc.one
     simpa using this
   have hx:=Ctx.UO (L:=some L) (ch':=⟨ep+1,.row t (xs++ys)⟩) hc (by simp)
   have hmem:∀ w',w'.heap[L.block]? =some (.cells (arr.toList.take (L.base+xs.length*t.size)++news++arr.toList.drop (L.base+xs.length*t.size+news.length)).toArray E (0,0))->(∀ b,b≠L.block->w'.heap[b]? =w.heap[b]?)->aga w w'->
    dt (R.move c ⟨ep+1,.row t (xs++ys)⟩ (some L)) w':=λw' hw' kN hlk=>by
    refine dt.turn hm hx rfl rfl (λn hn=>by simp [Ctx.move,hn]) L.block (λb _ hne=>kN b hne) ⟨hF,hU,λn ch2 L2 hn hn2 hm2 hs2 heq=>hn (hm.apart n c ch2 _ L2 L hn2 hc hm2 rfl hs2 hσ heq)⟩ ?_ (λL2 h2=>by simp only [Ctx.move,if_true] at h2;cases h2;rfl) hlk
    simp only [eV,Ctx.move,if_true]
    refine ⟨ht,by rw [hlen];unfold cW;omega,hF,hU,_,E,hw',?_,?_,?_⟩
    ·simp only [List.size_toArray,List.length_append,List.length_take,List.length_drop,Array.length_toList,hsrc.size]
     omega
    ·rw [hlen,Nat.add_mul];omega
    ·have hA:(seg arr.toList L.base (xs.length*t.size)).length=xs.length*t.size:=gp (by simp;omega)
     have:=Ep (R:=R) (xs:=xs) (ys:=ys) (A:=seg arr.toList L.base (xs.length*t.size)) (B:=news) (C:=arr.toList.drop (L.base+xs.length*t.size+news.length)) hA hsrc.size (λi hi=>by
      have hle:(i+1)*t.size<=xs.length*t.size:=Nat.mul_le_mul_right _ hi
      rw [Nat.succ_mul] at hle
      rw [Ej _ _ _ _ _ hle]
      exact hrow i hi) hsrc.rep
     intro i hi
     have h8:=this i hi
     have e:seg (arr.toList.take (L.base+xs.length*t.size)++news++arr.toList.drop (L.base+xs.length*t.size+news.length)) (L.base+i*t.size) t.size=
      seg (seg arr.toList L.base (xs.length*t.size)++news++arr.toList.drop (L.base+xs.length*t.size+news.length)) (i*t.size) t.size:=by
      simp only [seg]
      rw [<-List.drop_drop]
      congr 2
      rw [List.append_assoc,List.drop_append,List.drop_take,List.length_take,List.append_assoc]
      rw [show L.base-min (L.base+xs.length*t.size) arr.toList.length=0 by simp;omega,List.drop_zero]
      congr 2
      omega
     simp only
     rw [e]
     exact h8
   cases had:ad with
   |none=>
    have hcap0:cap=0:=by
     by_cases hc0:0<cap
     ·have:=h7 hc0;rw [had] at this;cases this
     ·omega
    have hx0:xs= []:=List.eq_nil_of_length_eq_zero (by omega)
    have hy0:ys= []:=List.eq_nil_of_length_eq_zero (by omega)
    subst hx0;subst hy0;subst hcap0
    have hn0:news= []:=List.eq_nil_of_length_eq_zero (by rw [hsrc.size];simp)
    subst hn0
    have hrun:=jC (Tr:=Tr) hT he hT' (hsrc.len w) hf hroom
    refine ⟨_,w,R.move c ⟨ep+1,.row t ([]++ [])⟩ (some L),hrun,⟨hx,rfl,hmem w (by simpa using hb) (λ_ _=>rfl) ⟨rfl,rfl,rfl⟩⟩,?_⟩
    simp only [SV.rel]
    have hc':(R.move c ⟨ep+1,.row t ([]++ [])⟩ (some L)).hp c=some ⟨ep+1,.row t ([]++ [])⟩:=by simp [Ctx.move]
    refine ⟨rfl,_,hc',Nat.le_refl _,λ_=>⟨_,hc',Nat.le_refl _,λ_=>⟨rfl,by simp,none,0,rfl,Nat.le_refl _,?_⟩⟩⟩
    simp [Ctx.move]
   |some a=>
    have hrun:=sH (Tr:=Tr) hT he hT' (hsrc.len w) hf hroom (hst a had)
    refine ⟨_,_,R.move c ⟨ep+1,.row t (xs++ys)⟩ (some L),hrun,⟨hx,rfl,hmem _ (setRow_heap w L.block arr _ E _ hb) (λb hne=>setRow_other w L.block b _ hne) ⟨rfl,rfl,rfl⟩⟩,?_⟩
    simp only [SV.rel]
    have hc':(R.move c ⟨ep+1,.row t (xs++ys)⟩ (some L)).hp c=some ⟨ep+1,.row t (xs++ys)⟩:=by simp [Ctx.move]
    refine ⟨rfl,_,hc',Nat.le_refl _,λ_=>⟨_,hc',Nat.le_refl _,λ_=>⟨rfl,by simp,some a,cap,by simp [Chunk.shape],by simp only [Chunk.shape,hlen];exact hroom,?_⟩⟩⟩
    simp only [Ctx.move,if_true,Chunk.shape,Nat.zero_add,Nat.zero_mul,Nat.add_zero]
    exact ⟨h6,λhpos=>by rw [<-had];exact h7 hpos⟩
 ·--a new row
  obtain ⟨ie,z,z1,z2,z3,z4,z5,z6,z7⟩:=he.vx (R:=R)
  have hf:=hsrc.cells w.drew ys.length (Cw w) (Nat.le_refl _)
  have ho:=hold.cells w.drew xs.length (Cw w) (Nat.le_refl _)
  rw [List.take_of_length_le (by rw [hsrc.size];exact Nat.le_refl _),hts] at hf
  rw [List.take_of_length_le (by rw [hold.size];exact Nat.le_refl _),hts] at ho
  have hrun:=GW (Tr:=Tr) hT he hT' (hsrc.len w) z1 z4 hroom h63 (growslice_fits (by omega) (by rw [z3];exact hbytes)) ho hf
  have hge:=grownCap_ge w (xs.length+ys.length) cap el
  have hsz:(news0.toArray++news.toArray++Builtin.zeroCells z.cells (grownCap w (xs.length+ys.length) cap el-(xs.length+ys.length))).size=grownCap w (xs.length+ys.length) cap el*t.size:=by
   simp only [Array.size_append,List.size_toArray,size_zeroCells,z6,hold.size,hsrc.size,<-hts,<-Nat.add_mul]
   congr 1
   omega
  have hx:=Ctx.UO (L:=some ⟨w.heap.size,0,grownCap w (xs.length+ys.length) cap el*t.size⟩) (ch':=⟨ep+1,.row t (xs++ys)⟩) hc (by simp)
  refine ⟨_,_,R.move c ⟨ep+1,.row t (xs++ys)⟩ (some ⟨w.heap.size,0,grownCap w (xs.length+ys.length) cap el*t.size⟩),hrun,⟨hx,rfl,?_⟩,?_⟩
  ·refine dt.turn hm hx rfl rfl (λn hn=>by simp [Ctx.move,hn]) w.heap.size (λb hb _=>heap_alloc_old w.drew _ b hb) ⟨hm.Wo,hm.Wj,λn ch L hn h1 h2 h3=> ?_⟩ ?_ (λL2 h2=>by simp only [Ctx.move,if_true] at h2;cases h2;rfl)
   ·have:=hm.lt h1 h2 h3;omega
   ·simp only [eV,Ctx.move,if_true]
    refine ⟨ht,by rw [hlen];unfold cW;omega,hm.Wo,hm.Wj,_,el,heap_alloc_new w.drew _,by rw [hsz];simp,?_,?_⟩
    ·rw [hlen];exact Nat.mul_le_mul_right _ hge
    ·have:=Ep (R:=R) (C:=(Builtin.zeroCells z.cells (grownCap w (xs.length+ys.length) cap el-(xs.length+ys.length))).toList) hold.size hsrc.size hold.rep hsrc.rep
     simpa using this
  ·simp only [SV.rel]
   have hc':(R.move c ⟨ep+1,.row t (xs++ys)⟩ (some ⟨w.heap.size,0,grownCap w (xs.length+ys.length) cap el*t.size⟩)).hp c=some ⟨ep+1,.row t (xs++ys)⟩:=by simp [Ctx.move]
   refine ⟨rfl,_,hc',Nat.le_refl _,λ_=>⟨_,hc',Nat.le_refl _,λ_=>⟨rfl,by simp,some ⟨w.heap.size,0,none⟩,grownCap w (xs.length+ys.length) cap el,by simp only [Chunk.shape,hlen],by simp only [Chunk.shape,hlen];exact hge,?_⟩⟩⟩
   simp only [Ctx.move,if_true,Chunk.shape,Nat.zero_add,Nat.zero_mul,Nat.add_zero]
   exact ⟨Nat.le_refl _,λ_=>by simp⟩
theorem Ix (hm:dt R w) {T T' Tr el:TypeId} {ti:TI} (hT:P.underlying T=some (.slice el)) (he:bo P el ti) (hT':(∃ e,P.underlying T'=some (.slice e))\/P.underlying T'=some .string)
 {t:Ty} (ht:0<t.size) (hts:t.size=ti.size) {n:Nat} (hn:R.hp n=none) {ys:List t.T} {ad:Option Addr} {x:Value} {news:List Value} (hsrc:Src P R w t ys x news)
 (hbytes:ys.length*ti.bytes<=140737488355328) (hb0:0<ti.bytes):
 Nu P R w (Builtin.append_ #[T,T'] Tr #[.slice ad 0 0,x]) ⟨.own n 0,[(n,⟨0,.row t ys⟩)]⟩:=by
 by_cases h0:ys= []
 ·subst h0
  have hn0:news= []:=List.eq_nil_of_length_eq_zero (by rw [hsrc.size];simp)
  subst hn0
  have hf:=hsrc.cells w 0 (λ_ _=>rfl) (Nat.zero_le _)
  rw [hts] at hf
  simp only [Nat.zero_mul,List.take_nil] at hf
  have hrun:(Builtin.append_ #[T,T'] Tr #[.slice ad 0 0,x]).run P w=.ok (.slice ad 0 0) w:=by
   cases ad with
   |none=>exact jC hT he hT' (hsrc.len w) hf (by simp)
   |some a=>exact sH hT he hT' (hsrc.len w) hf (by simp) rfl
  exact ⟨_,w,_,hrun,dt.aKX hm hn (λ_ _=>rfl) (by simp only [eV,Ctx.lay,if_true];exact ⟨ht,by simp,trivial⟩),JR⟩
 ·have hpos:0<ys.length:=List.length_pos_iff.2 h0
  have:=ZF (Tr:=Tr) (te:=λ_=>none) hm hT he hT' ht hts (xs:= []) (base:=ad) (sCap:=0) hsrc (olds:= []) acr (by simp;omega) (by simpa using hbytes) hb0 hn
  simpa using this
theorem Pz (hm:dt R w) {te:TE} (hte:mZ P te) {T T' Tr:TypeId} {d:Nat} {s x:SV} {v u:Value} {e:Eff} (hT2:AR te T'=true) (h:(xB te R.hp d T s x).run=some e)
 (hs:SV.rel R s v) (hx:SV.rel R x u):Nu P R w (Builtin.append_ #[T,T'] Tr #[v,u]) e:=by
 have hT':=S8 hte hT2
 unfold xB at h
 split at h
 ·rename_i el _ _ hT
  obtain ⟨ds,h1,h2⟩:=(hte T _ hT).desc
  simp only at h2
  subst h2
  split at h
  ·rename_i size bytes desc zero t hei
   have he:=hte el _ hei
   split at h
   ·cases h
   ·rename_i hc
    simp only [not_or] at hc
    obtain ⟨hts,hs0,hb0⟩:=hc
    have hts:t.size=size:=by simpa using hts
    have ht:0<t.size:=by omega
    split at h
    ·rename_i ys hys
     have hsrc:∃ news,Src P R w t ys u news:=by
      split at hys
      ·exact arY hys hx
      ·exact Sq hm ht hys hx
     obtain ⟨news,hsrc⟩:=hsrc
     split at h
     ·rename_i c ep
      split at h
      ·rename_i t' xs hc
       split at h
       ·rename_i xs' hxs
        obtain ⟨hg,h'⟩:=OT.aJ h
        cases h'
        obtain ⟨et,rfl⟩:=bt hxs
        subst et
        simp only [SV.rel] at hs
        exact Iw hm h1 he hT' hts (cH hc) hs.2 hsrc (of_decide_eq_true hg) (Nat.pos_of_ne_zero hb0)
       ·cases h
      ·cases h
     ·rename_i c ep
      split at h
      ·rename_i t' xs hc
       split at h
       ·rename_i xs' hxs
        dsimp only at h
        split at h
        ·cases h
        ·rename_i hfr
         obtain ⟨hg,h'⟩:=OT.aJ h
         cases h'
         obtain ⟨et,rfl⟩:=bt hxs
         subst et
         simp only [Bool.and_eq_true,decide_eq_true_eq] at hg
         simp only [SV.rel] at hs
         have hc':=cH hc
         have hp:=Ctx.dl hc' hs.2.1
         obtain ⟨olds,hold⟩:=m7 (P:=P) hm hc' (.inl rfl) hp
         obtain ⟨ad,len,hv⟩:=hs.2.2 _ hc' rfl
         obtain ⟨_,_,ad',cap,hv',hcap,_⟩:=Ctx.di hc' hp
         rw [hv] at hv'
         cases hv'
         subst hv
         simp only [Chunk.shape,List.drop_zero,List.take_length] at hold⊢
         exact ZF (te:=te) hm h1 he hT' ht hts hsrc hold (by omega) hg.1 (Nat.pos_of_ne_zero hb0) (pB hfr)
       ·cases h
      ·cases h
     ·dsimp only at h
      split at h
      ·cases h
      ·rename_i hfr
       obtain ⟨hg,h'⟩:=OT.aJ h
       cases h'
       simp only [SV.rel] at hs
       obtain ⟨ad,rfl⟩:=hs
       exact Ix hm h1 he hT' ht hts (pB hfr) hsrc (of_decide_eq_true hg) (Nat.pos_of_ne_zero hb0)
     ·cases h
    ·cases h
  ·cases h
 ·cases h
theorem asj {t:Ty} {xs ys:List t.T} {arr:Array Value} {base off n:Nat} {news:List Value} (hrow:Wk R arr base t xs) (hsz:base+xs.length*t.size<=arr.size) (hn:off+n<=xs.length) (hny:n<=ys.length)
 (hl:news.length=n*t.size) (hnews:∀ i,i<n->Rep R.F t (ys.getD i t.d) (seg news (i*t.size) t.size)):
 Wk R (arr.toList.take (base+off*t.size)++news++arr.toList.drop (base+off*t.size+news.length)).toArray base t (xs.take off++(ys.take n++xs.drop (off+n))):=by
 intro i hi
 simp only [List.length_append,List.length_take,List.length_drop] at hi
 have hi':i<xs.length:=by omega
 have hoff:(off+n)*t.size<=xs.length*t.size:=Nat.mul_le_mul_right _ hn
 rw [Nat.add_mul] at hoff
 have hi1:(i+1)*t.size<=xs.length*t.size:=Nat.mul_le_mul_right _ hi'
 rw [Nat.succ_mul] at hi1
 simp only
 by_cases c1:i<off
 ·have e1:(xs.take off++(ys.take n++xs.drop (off+n))).getD i t.d=xs.getD i t.d:=by
   simp only [List.getD_eq_getElem?_getD]
   rw [List.getElem?_append_left (by simp;omega),List.getElem?_take_of_lt c1]
  have:(i+1)*t.size<=off*t.size:=Nat.mul_le_mul_right _ c1
  rw [Nat.succ_mul] at this
  rw [e1,iw _ _ _ _ _ (by simp;omega) (by left;omega)]
  exact hrow i hi'
 ·by_cases c2:i<off+n
  ·have e1:(xs.take off++(ys.take n++xs.drop (off+n))).getD i t.d=ys.getD (i-off) t.d:=by
    simp only [List.getD_eq_getElem?_getD]
    rw [List.getElem?_append_right (by simp;omega),List.getElem?_append_left (by simp;omega),List.getElem?_take_of_lt (by simp;omega)]
    congr 2
    simp;omega
   have hk1:(i-off+1)*t.size<=n*t.size:=Nat.mul_le_mul_right _ (by omega)
   have hk2:(i-off)*t.size+off*t.size=i*t.size:=by rw [<-Nat.add_mul];congr 1;omega
   rw [Nat.succ_mul] at hk1
   have e2:seg (arr.toList.take (base+off*t.size)++news++arr.toList.drop (base+off*t.size+news.length)) (base+i*t.size) t.size=seg news ((i-off)*t.size) t.size:=by
    apply List.ext_getElem?
    intro j
    simp only [seg,List.getElem?_take,List.getElem?_drop]
    by_cases hj:j<t.size
    ·simp only [hj,if_true]
     rw [List.getElem?_append_left (by simp;omega),List.getElem?_append_right (by simp;omega)]
     congr 1
     simp;omega
    ·simp [hj]
   rw [e1,e2]
   exact hnews _ (by omega)
  ·have e1:(xs.take off++(ys.take n++xs.drop (off+n))).getD i t.d=xs.getD i t.d:=by
    simp only [List.getD_eq_getElem?_getD]
    rw [List.getElem?_append_right (by simp;omega),List.getElem?_append_right (by simp;omega),List.getElem?_drop]
    congr 2
    simp;omega
   have:(off+n)*t.size<=i*t.size:=Nat.mul_le_mul_right _ (by omega)
   rw [Nat.add_mul] at this
   rw [e1,iw _ _ _ _ _ (by simp;omega) (by right;omega)]
   exact hrow i hi'
end
end Sx
end Go.Proofs.YtohjofabochgfaaGreat

namespace Go.Proofs.YtohjofabochgfaaGreat
namespace Sx
open Go
section
variable {P:Program} {R:Ctx} {w:World}
theorem aiL {α:Type} (ys:List α) (k:Nat):ys.take (min ys.length k)=ys.take k:=by
 by_cases h:k<=ys.length
 ·rw [Nat.min_eq_right h]
 ·rw [Nat.min_eq_left (by omega),List.take_of_length_le (Nat.le_refl _),List.take_of_length_le (by omega)]
theorem aBH {α:Type} (xs:List α) (k:Nat):xs.drop (min k xs.length)=xs.drop k:=by
 by_cases h:k<=xs.length
 ·rw [Nat.min_eq_left h]
 ·rw [Nat.min_eq_right (by omega),List.drop_of_length_le (Nat.le_refl _),List.drop_of_length_le (by omega)]
theorem uz (hm:dt R w) {T T' Tr el:TypeId} {ti:TI} (hT:P.underlying T=some (.slice el)) (he:bo P el ti) {t:Ty} (hts:t.size=ti.size) {c ep off len:Nat} {xs ys:List t.T}
 (hc:R.hp c=some ⟨ep,.row t xs⟩) {v x:Value} {news:List Value} (hp:R.part c ep off len v) (hsrc:Src P R w t ys x news):
 Nu P R w (Builtin.copy_ #[T,T'] Tr #[v,x]) ⟨.int (min ys.length len:Nat),[(c,⟨ep,.row t (xs.take off++(ys.take (min ys.length len)++xs.drop (off+min ys.length len)))⟩)]⟩:=by
 obtain ⟨ht,hmx⟩:=Xt hm hc
 obtain ⟨_,h2,ad,cap,rfl,hcap,h5⟩:=Ctx.di hc hp
 simp only [Chunk.shape] at h2 h5
 have hn:min ys.length len<=ys.length:=Nat.min_le_left _ _
 have hn2:min ys.length len<=len:=Nat.min_le_right _ _
 have hr:inR ((min ys.length len:Nat):Int)=true:=aeG (Nat.le_trans hn hsrc.max)
 have hf:=hsrc.cells w (min ys.length len) (λ_ _=>rfl) hn
 rw [hts] at hf
 have hlen:(xs.take off++(ys.take (min ys.length len)++xs.drop (off+min ys.length len))).length=xs.length:=by
  simp only [List.length_append,List.length_take,List.length_drop];omega
 have hsh:(Chunk.row t (xs.take off++(ys.take (min ys.length len)++xs.drop (off+min ys.length len)))).shape=(Chunk.row t xs).shape:=by
  simp only [Chunk.shape,hlen]
 have hnl:(news.take (min ys.length len*ti.size)).length=min ys.length len*t.size:=by
  have:min ys.length len*t.size<=ys.length*t.size:=Nat.mul_le_mul_right _ hn
  rw [List.length_take,hsrc.size,<-hts];omega
 have hrep:∀ i,i<min ys.length len->Rep R.F t (ys.getD i t.d) (seg (news.take (min ys.length len*ti.size)) (i*t.size) t.size):=λi hi=>by
  have h1:(i+1)*t.size<=min ys.length len*t.size:=Nat.mul_le_mul_right _ hi
  rw [Nat.succ_mul] at h1
  have h2:seg (news.take (min ys.length len*ti.size)) (i*t.size) t.size=seg news (i*t.size) t.size:=by
   have:=Ej news 0 (i*t.size) (min ys.length len*ti.size) t.size (by rw [<-hts];exact h1)
   simpa [seg] using this
  rw [h2]
  exact hsrc.rep i (by omega)
 have hch:=hm.ch c _ hc
 have hone:∀ u ∈ news.take (min ys.length len*ti.size),u.oneCell'=true:=λu hu=>hsrc.one u (List.mem_of_mem_take hu)
 --nothing is written
 have nothing:min ys.length len=0->(∀ a,ad=some a->True)->Nu P R w (Builtin.copy_ #[T,T'] Tr #[.slice ad len cap,x]) ⟨.int (min ys.length len:Nat),[(c,⟨ep,.row t (xs.take off++(ys.take (min ys.length len)++xs.drop (off+min ys.length len)))⟩)]⟩:=λh0 _=>by
  have hrun:(Builtin.copy_ #[T,T'] Tr #[.slice ad len cap,x]).run P w=.ok (.int .i64 (min ys.length len:Nat)) w:=by
   rw [h0] at hf⊢
   simp only [Nat.zero_mul,List.take_zero] at hf
   cases ad with
   |none=>simp [Builtin.copy_,run_underlying hT,he.cu w,hsrc.len w,h0,hf,goInt]
   |some a=>simp [Builtin.copy_,run_underlying hT,he.cu w,hsrc.len w,h0,hf,goInt,Go.storeCells]
  have hsame:xs.take off++(ys.take (min ys.length len)++xs.drop (off+min ys.length len))=xs:=by
   rw [h0];simp
  have hupd:R.upd c ⟨ep,.row t xs⟩=R:=by
   unfold Ctx.upd
   cases R
   simp only [Ctx.mk.injEq,true_and]
   funext n
   split
   ·rename_i hnc;subst hnc;exact hc.symm
   ·rfl
  refine ⟨_,w,R,hrun,⟨Ctx.Ext.refl R,?_,hm⟩,by simp only [SV.rel,true_and];exact hr⟩
  rw [hsame]
  have:=congrArg Ctx.hp hupd
  exact this.symm
 by_cases h0:min ys.length len=0
 ·exact nothing h0 (λ_ _=>trivial)
 ·cases hσ:R.σ c with
  |none=>
   rw [hσ] at h5
   simp only at h5
   omega
  |some L=>
   rw [hσ] at h5
   obtain ⟨h6,h7⟩:=h5
   have had:=h7 (by omega)
   subst had
   simp only [eV,hσ] at hch
   obtain ⟨_,_,hF,hU,arr,E,hb,ha,hl,hrow⟩:=hch
   have hoff:(off+min ys.length len)*t.size<=xs.length*t.size:=Nat.mul_le_mul_right _ (by omega)
   rw [Nat.add_mul] at hoff
   obtain ⟨w',R',hst,haf⟩:=qx (P:=P) (e:=ep) (p:=L.base+off*t.size) (vs:=news.take (min ys.length len*ti.size)) hm
    (ch':=⟨ep,.row t (xs.take off++(ys.take (min ys.length len)++xs.drop (off+min ys.length len)))⟩) hc rfl hσ hF hU hb rfl rfl hsh (by rw [hnl];omega) hone
    (λw' hw'=>by
     simp only [eV,Ctx.upd,hσ]
     refine ⟨ht,by rw [hlen];exact hmx,hF,hU,_,E,hw',?_,by rw [hlen];exact hl,?_⟩
     ·simp only [List.size_toArray,List.length_append,List.length_take,List.length_drop,Array.length_toList] at hnl⊢
      omega
     ·exact asj hrow (by omega) (by omega) hn hnl hrep)
   refine ⟨.int .i64 ((min ys.length len:Nat):Int),w',R',?_,haf,by simp only [SV.rel,true_and];exact hr⟩
   have hn':Nat.min ys.length len=min ys.length len:=rfl
   simp [Builtin.copy_,run_underlying hT,he.cu w,hsrc.len w,hn',hf,hst,goInt]
theorem aav (hm:dt R w) {te:TE} (hte:mZ P te) {T T' Tr:TypeId} {x y:SV} {v u:Value} {e:Eff} (h:(RS te R.hp T x y).run=some e)
 (hs:SV.rel R x v) (hx:SV.rel R y u):Nu P R w (Builtin.copy_ #[T,T'] Tr #[v,u]) e:=by
 unfold RS at h
 split at h
 ·rename_i el _ _ hT
  obtain ⟨ds,h1,h2⟩:=(hte T _ hT).desc
  simp only at h2
  subst h2
  split at h
  ·rename_i size bytes desc zero t hei
   have he:=hte el _ hei
   split at h
   ·cases h
   ·rename_i hc
    simp only [not_or] at hc
    obtain ⟨hts,hs0⟩:=hc
    have hts:t.size=size:=by simpa using hts
    have ht:0<t.size:=by omega
    split at h
    ·rename_i ys hys
     have hsrc:∃ news,Src P R w t ys u news:=by
      split at hys
      ·exact arY hys hx
      ·exact Sq hm ht hys hx
     obtain ⟨news,hsrc⟩:=hsrc
     split at h
     ·rename_i c ep
      split at h
      ·rename_i t' xs hc
       split at h
       ·rename_i xs' hxs
        cases h
        obtain ⟨et,rfl⟩:=bt hxs
        subst et
        simp only [SV.rel] at hs
        have hc':=cH hc
        have:=uz (Tr:=Tr) (T':=T') hm h1 he hts hc' (Ctx.dl hc' hs.2) hsrc
        simp only [Chunk.shape,List.take_zero,List.nil_append,Nat.zero_add,aiL,aBH] at this
        exact this
       ·cases h
      ·cases h
     ·rename_i c ep off len
      split at h
      ·rename_i t' xs hc
       split at h
       ·rename_i xs' hxs
        cases h
        obtain ⟨et,rfl⟩:=bt hxs
        subst et
        simp only [SV.rel] at hs
        have:=uz (Tr:=Tr) (T':=T') hm h1 he hts (cH hc) hs.2 hsrc
        simp only [aiL] at this
        exact this
       ·cases h
      ·cases h
     ·cases h
    ·cases h
  ·cases h
 ·cases h
end
end Sx
end Go.Proofs.YtohjofabochgfaaGreat
