/- A symbolic machine for Go code over plain data, and functions of the program as it shows them. No statement is proved in this file. -/
import Derived.WalkKit
import Derived.ChangeOld
import Derived.Test.YtohjofabochgfaaGreatProg
import Derived.KernelRfl
import Derived.Laws.Externs
import Derived.Lib.Mul64
import Derived.Test.YtohjofabochgfaaGreatXb
set_option linter.unusedSimpArgs false
set_option linter.unusedVariables false
set_option linter.unusedSectionVars false

namespace Go.Proofs.YtohjofabochgfaaGreat
namespace Sx
open Go Go.RowKit Go.ChangeShapes Go.WideShapes Go.ChangeAt
def axe (te:TE) (k:Nat):List TypeId->List (Bool×Ty)->Bool
 | [],[]=>true
 |T::ts,(b,y)::r=>(match te T with
  |some ti=>(b==ti.desc.agg)&&Nat.beq ti.size y.size
  |none=>false)&&(BL te k T y&&axe te k ts r)
 |_,_=>false
section
variable {H:Type} {enc:TypeId×Value->H} {P:Program} {te:TE} (hte:mZ P te) {w:World} {sp:Nat->Bool}
include hte
theorem aAM {k:Nat} {T:TypeId} {y:Ty} {ti:TI} {v:Value} {d:DataW H} {ps:List MemPlace} (hT:te T=some ti) (hs:ti.size=y.size) (hp:BL te k T y=true) {base:Nat} (hok:Value.okWide P w .any base T v)
 (h:DataW.Trod enc P w 0 sp true T v d ps) (hw:∀ n ∈ d.weights P T,n<=reachBytes):∃ x:y.T,SV.rel (iv w) (inj ti.desc.agg y x) v:=by
 obtain ⟨fuel,hf⟩:=h
 obtain ⟨ds,hu,hd⟩:=(hte T ti hT).desc
 cases hagg:ti.desc.agg
 ·have hone:v.cells.toList= [v]/\v.oneCell'=true:=by
   have hc:Cell.okWide P w .any base T v:=by
    unfold Value.okWide at hok
    rw [hu] at hok
    cases ds<;>first|exact hok|skip
    all_goals (
     cases hk:ti.desc<;>rw [hk] at hd hagg<;>simp only [TD.agg] at hd hagg<;>
      first|(cases hagg;done)|(cases hd;done)|(obtain ⟨e,he⟩:=hd;cases he;done)|(obtain ⟨⟨e,he⟩,_⟩:=hd;cases he;done)|exact absurd hd id)
   unfold Cell.okWide Cell.ok at hc
   rw [hu] at hc
   cases v<;>first|exact ⟨rfl,rfl⟩|(exfalso;cases ds<;>first|exact hc|(simp at hc;done))
  rw [hone.1] at hf
  have hsz:y.size=1:=by rw [<-hs];exact (hte T ti hT).one hagg
  obtain ⟨x,hx⟩:=AL hte k fuel T y [v] d ps hp (by rw [hsz];rfl) hf hw
  refine ⟨x,?_⟩
  have hr:=eJ (R:=iv w) y x [v] hx
  simp only [inj,sr,Bool.false_eq_true,if_false]
  have hl:=gn y x
  rw [hsz] at hl
  match hc:unpack y x,hl with
  | [u],_=>
   rw [hc] at hr
   obtain ⟨v',e,h⟩:=cJ hr
   cases e
   exact h
 ·have hv:∃ cs,v=.agg cs/\cs.size=P.cellsOf T:=by
   unfold Value.okWide at hok
   rw [hu] at hok
   cases hk:ti.desc<;>rw [hk] at hd hagg<;>simp only [TD.agg] at hd hagg<;>try (cases hagg;done)
   ·obtain ⟨fields,rfl,_⟩:=hd
    obtain ⟨cs,h1,h2,_⟩:=hok
    exact ⟨cs,h1,h2⟩
   ·subst hd
    obtain ⟨cs,h1,h2,_⟩:=hok
    exact ⟨cs,h1,h2⟩
  obtain ⟨cs,rfl,hsz⟩:=hv
  obtain ⟨x,hx⟩:=AL hte k fuel T y cs.toList d ps hp (by rw [Array.length_toList,hsz,jU hte hT,hs]) hf hw
  exact ⟨x,B5 (eJ (R:=iv w) y x _ hx) (rM _ _ _ hx)⟩
theorem Zd {k base:Nat}:∀ {ts:List TypeId} {kd:List (Bool×Ty)} {vs:List Value} {ds:List (DataW H)} {ps:List MemPlace},axe te k ts kd=true->
 (∀ (j:Nat) t v,ts[j]? =some t->vs[j]? =some v->Value.okWide P w .any base t v)->DataW.TrodAll enc P w 0 sp true ts vs ds ps->(DataW.weightsEach P ts ds).all (· <=reachBytes)=true->
 ∃ x:ATy kd,SV.bV (iv w) (aC2 kd x) vs
 | [],[],[],[],_,_,_,_,_=>⟨(),by simp only [aC2,SV.bV]⟩
 | [],[],v::vs,_,_,_,_,h,_=>by simp [DataW.TrodAll] at h
 | [],[],[],d::ds,_,_,_,h,_=>by simp [DataW.TrodAll] at h
 | [],a::kd,_,_,_,h,_,_,_=>by simp [axe] at h
 |T::ts,[],_,_,_,h,_,_,_=>by simp [axe] at h
 |T::ts,(b,y)::kd,[],_,_,_,_,h,_=>by simp [DataW.TrodAll] at h
 |T::ts,(b,y)::kd,v::vs,[],_,_,_,h,_=>by simp [DataW.TrodAll] at h
 |T::ts,(b,y)::kd,v::vs,d::ds,ps,h,hok,ht,hw=>by
  obtain ⟨p,q,h1,h2,rfl⟩:=ht
  simp only [axe,Bool.and_eq_true] at h
  obtain ⟨hb,hp,hr⟩:=h
  split at hb
  ·rename_i ti hT
   rw [Bool.and_eq_true] at hb
   have e1:b=ti.desc.agg:=by simpa using hb.1
   subst e1
   simp only [DataW.weightsEach,List.all_append,Bool.and_eq_true] at hw
   obtain ⟨x,hx⟩:=aAM hte hT (Nat.eq_of_beq_eq_true hb.2) hp (hok 0 T v rfl rfl) h1 λn hn=>by simpa using List.all_eq_true.1 hw.1 n hn
   obtain ⟨xs,hxs⟩:=Zd hr (λj t u h1 h2=>hok (j+1) t u h1 h2) h2 hw.2
   exact ⟨(x,xs),by simp only [aC2,SV.bV];exact ⟨v,vs,rfl,hx,hxs⟩⟩
  ·cases hb
end
theorem azC {S:aw} {pre:S.T->Bool} {F:S.T->OT S.Y} {args:List SV} {X:S.T} {out:Out} (hp:S.inp.prj ⟨args,aAQ⟩=some X) (hpre:pre X=true)
 (hr:((F X).bind λoy=>S.emit (S.inp.bd ⟨args,aAQ⟩) 0 aAQ oy.1 oy.2).run=some out):((S.aI pre F).f 0 args aAQ).run=some out:=by
 simp only [aw.aI,hp,hpre]
 exact hr
theorem Sr {H:Type} {enc:TypeId×Value->H} {P:Program} {w w':World} (hl:laidOutB P=true) (hb:Below w.heap.size w w'):∀ {ts:List TypeId} {vs:List Value} {ds:List (DataW H)} {ps:List MemPlace},
 ts.all (λt=>P.readableRec t&&Nat.blt t P.types.size)=true->DataW.TrodAll enc P w 0 (λ_=>true) true ts vs ds ps->DataW.TrodAll enc P w' 0 (λb=>decide (b<w.heap.size)) true ts vs ds ps
 | [],[],[],_,_,h=>h
 | [],v::vs,_,_,_,h=>by simp [DataW.TrodAll] at h
 | [],[],d::ds,_,_,h=>by simp [DataW.TrodAll] at h
 |T::ts,[],_,_,_,h=>by simp [DataW.TrodAll] at h
 |T::ts,v::vs,[],_,_,h=>by simp [DataW.TrodAll] at h
 |T::ts,v::vs,d::ds,ps,hr,h=>by
  obtain ⟨p,q,h1,h2,rfl⟩:=h
  simp only [List.all_cons,Bool.and_eq_true] at hr
  have lt1:∀ x ∈ p,x.block<w.heap.size:=by obtain ⟨m,hm⟩:=h1;exact DataW.trod_lt m _ _ _ hm
  exact ⟨p,q,Below.trod hl hr.1.1 (dW hr.1.2) h1 hb lt1,Sr hl hb hr.2 h2,rfl⟩
end Sx
end Go.Proofs.YtohjofabochgfaaGreat

namespace Go.Proofs.YtohjofabochgfaaGreat
namespace Sx
open Go
theorem aC8 {P:Program} {f:FuncId} {S:aw} {k:Nat} (hk:S.chunks.all (λc=>Nat.blt c.1 k&& !c.2.pq)=true) {pre:S.T->Bool} {F:S.T->OT S.Y}
 (h:∀ (x:S.T) (oy:S.Y) (vs:List Value) (N:Ctx) (w:World),pre x=true->(F x).run=some oy->SV.bV N (S.inp.inj x).tm vs->
  ∃ v u,(callFunc f vs.toArray).run P w=.ok (.value u) w/\SV.rel N v u/\oy.1.is oy.2 false v (dq S.chunks x.2)):ac P f (S.aI pre F):=by
 refine ⟨?_⟩
 intro R w d args vs out hm hr hrun
 simp only [aw.aI] at hrun
 split at hrun
 ·cases hrun
 ·rename_i x hx
  obtain ⟨hpre,h2⟩:=OT.aJ hrun
  obtain ⟨oy,h3,h4⟩:=OT.run_bind h2
  unfold aw.emit at h4
  dsimp only at h4
  obtain ⟨hend,h5⟩:=OT.aJ h4
  have hx':=hx
  unfold Shape.prj at hx'
  dsimp only at hx'
  cases hbo:S.inp.Jd ⟨args,R.hp⟩ (S.inp.bd ⟨args,R.hp⟩)&&Nat.beq args.length S.inp.n
  ·rw [hbo] at hx';cases hx'
  ·rw [hbo] at hx'
   rw [Bool.and_eq_true] at hbo
   obtain ⟨hx1,hx2⟩:=bn hx'
   have hlen:args.length=S.inp.n:=Nat.eq_of_beq_eq_true hbo.2
   have hN:=BU (s:=S.inp) (st:=⟨args,R.hp⟩) (F':=R.yk (S.inp.bd ⟨args,R.hp⟩) S.bz w) (U':=R.FA (S.inp.bd ⟨args,R.hp⟩) S.bz w) hbo.1 hx2 rfl hm (Cd hm) (tP hm) U2 (Cc hm) Cb akb hm.env
   have hargs:SV.bV (R.named (R.yk (S.inp.bd ⟨args,R.hp⟩) S.bz w) (R.FA (S.inp.bd ⟨args,R.hp⟩) S.bz w) (S.inp.bd ⟨args,R.hp⟩) (dq S.chunks x.2)) (S.inp.inj x).tm vs:=
    ij (s:=S.inp) (st:=⟨args,R.hp⟩) hbo.1 hx2 rfl hm (Cd hm) (tP hm) hr hx1 (SV.sQ (by rw [List.length_replicate,<-hlen];exact SV.aV hr) λi hi hi'=>by simp [SV.rel])
   obtain ⟨v,u,hv,hru,his⟩:=h x oy vs _ w hpre h3 hargs
   obtain ⟨R',a1,a2⟩:=Z3 hm hx hk (Ctx.Ext.refl _) hN hru his hend
   rw [his.1] at h5
   cases h5
   exact .inr ⟨u,w,hv,u,R',rfl,a1,a2⟩
end Sx
end Go.Proofs.YtohjofabochgfaaGreat

namespace Go.Proofs.YtohjofabochgfaaGreat
namespace Sx
open Go
def Out.after (u:List (Nat×Ch)):Out->Out
 |.ret e=>.ret ⟨e.v,u++e.upd⟩
 |.pan v u'=>.pan v (u++u')
theorem aey {α β:Type} {f:α->β} {x:OT α} {a:α} (h:x.run=some a):(x.map f).run=some (f a):=by
 induction x with
 |ok b=>cases h;rfl
 |br b u v hu hv=>
  cases b
  ·exact hv h
  ·exact hu h
 |fail=>cases h
theorem fy.trans {R R1 R2:Ctx} {w w':World} {u u':List (Nat×Ch)} (h:fy R R1 w u) (h':fy R1 R2 w' u'):fy R R2 w' (u++u'):=
 ⟨h.ext.trans h'.ext,by rw [h'.hp,h.hp,ii],h'.mem⟩
end Sx
end Go.Proofs.YtohjofabochgfaaGreat

namespace Go.Proofs.YtohjofabochgfaaGreat
open Sx Go
set_option maxRecDepth 100000
def aCJ:TI:=⟨1,8,.other,[.bT],none⟩
theorem aIu:bo Tryz.prog 1 aCJ:=by apply ak<;>first|exact trivial|kernel_rfl
def aCI:TI:=⟨1,8,.int .i64,[.int 0],some .int⟩
theorem aIt:bo Tryz.prog 2 aCI:=by apply ak<;>first|exact⟨by kernel_rfl,by kernel_rfl,by kernel_rfl⟩|kernel_rfl
def aCH:TI:=⟨1,8,.int .i64,[.int 0],some .int⟩
theorem aIs:bo Tryz.prog 3 aCH:=by apply ak<;>first|exact⟨by kernel_rfl,by kernel_rfl,by kernel_rfl⟩|kernel_rfl
def aCG:TI:=⟨1,1,.bool,[.bool false],some .bool⟩
theorem aIr:bo Tryz.prog 4 aCG:=by apply ak<;>first|exact⟨by kernel_rfl,by kernel_rfl,by kernel_rfl⟩|kernel_rfl
def aCF:TI:=⟨1,1,.int .u8,[.u8 0],some .u8⟩
theorem aIq:bo Tryz.prog 5 aCF:=by apply ak<;>first|exact⟨by kernel_rfl,by kernel_rfl,by kernel_rfl⟩|kernel_rfl
def aCE:TI:=⟨1,1,.int .u8,[.u8 0],some .u8⟩
theorem aIp:bo Tryz.prog 6 aCE:=by apply ak<;>first|exact⟨by kernel_rfl,by kernel_rfl,by kernel_rfl⟩|kernel_rfl
def aCD:TI:=⟨4,24,.struct [(0,2),(1,3),(2,4),(3,6)],[.int 0,.int 0,.bool false,.u8 0],some (.prod .int (.prod .int (.prod .bool .u8)))⟩
theorem aIo:bo Tryz.prog 7 aCD:=by apply ak<;>first|exact⟨by kernel_rfl,by kernel_rfl,by kernel_rfl⟩|kernel_rfl
def aCC:TI:=⟨4,24,.struct [(0,2),(1,3),(2,4),(3,6)],[.int 0,.int 0,.bool false,.u8 0],some (.prod .int (.prod .int (.prod .bool .u8)))⟩
theorem aIn:bo Tryz.prog 8 aCC:=by apply ak<;>first|exact⟨by kernel_rfl,by kernel_rfl,by kernel_rfl⟩|kernel_rfl
def aCB:TI:=⟨1,16,.str,[.str []],some .str⟩
theorem aIm:bo Tryz.prog 9 aCB:=by apply ak<;>first|exact⟨by kernel_rfl,by kernel_rfl,by kernel_rfl⟩|kernel_rfl
def arX:TI:=⟨1,16,.str,[.str []],some .str⟩
theorem aE8:bo Tryz.prog 10 arX:=by apply ak<;>first|exact⟨by kernel_rfl,by kernel_rfl,by kernel_rfl⟩|kernel_rfl
def arW:TI:=⟨1,16,.str,[.str []],some .str⟩
theorem aE7:bo Tryz.prog 11 arW:=by apply ak<;>first|exact⟨by kernel_rfl,by kernel_rfl,by kernel_rfl⟩|kernel_rfl
def arV:TI:=⟨1,8,.int .u64,[.u64 0],some .u64⟩
theorem aE6:bo Tryz.prog 12 arV:=by apply ak<;>first|exact⟨by kernel_rfl,by kernel_rfl,by kernel_rfl⟩|kernel_rfl
def arU:TI:=⟨1,8,.ptr [("Error",183),("RuntimeError",184)],[.rb],none⟩
theorem aE5:bo Tryz.prog 15 arU:=by apply ak<;>first|exact trivial|kernel_rfl
def arT:TI:=⟨1,8,.ptr [("Error",185),("RuntimeError",186)],[.rb],none⟩
theorem aE4:bo Tryz.prog 16 arT:=by apply ak<;>first|exact trivial|kernel_rfl
def arS:TI:=⟨1,8,.ptr [("Align",187)],[.rb],none⟩
theorem aE3:bo Tryz.prog 17 arS:=by apply ak<;>first|exact trivial|kernel_rfl
def arR:TI:=⟨1,16,.iface,[.eF],none⟩
theorem aE2:bo Tryz.prog 20 arR:=by apply ak<;>first|exact trivial|kernel_rfl
def arQ:TI:=⟨1,4,.int .i32,[.bT],none⟩
theorem aE1:bo Tryz.prog 21 arQ:=by apply ak<;>first|exact trivial|kernel_rfl
def arP:TI:=⟨1,24,.slice 41,[.emp],some (.list .elem)⟩
theorem aE0:bo Tryz.prog 22 arP:=by apply ak<;>first|exact⟨by kernel_rfl,by kernel_rfl,by kernel_rfl⟩|kernel_rfl
def arO:TI:=⟨2,32,.struct [(0,3),(1,22)],[.int 0,.emp],some (.prod .int (.list .elem))⟩
theorem aEZ:bo Tryz.prog 23 arO:=by apply ak<;>first|exact⟨by kernel_rfl,by kernel_rfl,by kernel_rfl⟩|kernel_rfl
def arN:TI:=⟨2,32,.struct [(0,3),(1,22)],[.int 0,.emp],some (.prod .int (.list .elem))⟩
theorem aEY:bo Tryz.prog 24 arN:=by apply ak<;>first|exact⟨by kernel_rfl,by kernel_rfl,by kernel_rfl⟩|kernel_rfl
def arM:TI:=⟨1,24,.slice 5,[.emp],some (.list .u8)⟩
theorem aEX:bo Tryz.prog 25 arM:=by apply ak<;>first|exact⟨by kernel_rfl,by kernel_rfl,by kernel_rfl⟩|kernel_rfl
def arL:TI:=⟨1,24,.slice 45,[.emp],some (.list (.prod .int (.prod .elem (.prod .elem (.prod .elem .bool)))))⟩
theorem aEW:bo Tryz.prog 26 arL:=by apply ak<;>first|exact⟨by kernel_rfl,by kernel_rfl,by kernel_rfl⟩|kernel_rfl
def arK:TI:=⟨1,8,.other,[.bT],none⟩
theorem aEV:bo Tryz.prog 27 arK:=by apply ak<;>first|exact trivial|kernel_rfl
def arJ:TI:=⟨1,8,.other,[.bT],none⟩
theorem aEU:bo Tryz.prog 28 arJ:=by apply ak<;>first|exact trivial|kernel_rfl
def arI:TI:=⟨1,8,.ptr [("Point",20),("Rest",25),("Scalar",22)],[.rb],none⟩
theorem aET:bo Tryz.prog 29 arI:=by apply ak<;>first|exact trivial|kernel_rfl
def arH:TI:=⟨1,8,.int .i64,[.int 0],some .int⟩
theorem aES:bo Tryz.prog 30 arH:=by apply ak<;>first|exact⟨by kernel_rfl,by kernel_rfl,by kernel_rfl⟩|kernel_rfl
def arG:TI:=⟨1,8,.other,[.bT],none⟩
theorem aER:bo Tryz.prog 32 arG:=by apply ak<;>first|exact trivial|kernel_rfl
def arF:TI:=⟨1,8,.other,[.bT],none⟩
theorem aEQ:bo Tryz.prog 33 arF:=by apply ak<;>first|exact trivial|kernel_rfl
def arE:TI:=⟨6,96,.struct [(0,3),(1,24),(3,25),(4,3),(5,25)],[.int 0,.int 0,.emp,.emp,.int 0,.emp],some (.prod .int (.prod (.prod .int (.list .elem)) (.prod (.list .u8) (.prod .int (.list .u8)))))⟩
theorem aEP:bo Tryz.prog 34 arE:=by apply ak<;>first|exact⟨by kernel_rfl,by kernel_rfl,by kernel_rfl⟩|kernel_rfl
def arD:TI:=⟨6,96,.struct [(0,3),(1,24),(3,25),(4,3),(5,25)],[.int 0,.int 0,.emp,.emp,.int 0,.emp],some (.prod .int (.prod (.prod .int (.list .elem)) (.prod (.list .u8) (.prod .int (.list .u8)))))⟩
theorem aEO:bo Tryz.prog 35 arD:=by apply ak<;>first|exact⟨by kernel_rfl,by kernel_rfl,by kernel_rfl⟩|kernel_rfl
def arC:TI:=⟨1,8,.other,[.bT],none⟩
theorem aEN:bo Tryz.prog 37 arC:=by apply ak<;>first|exact trivial|kernel_rfl
def arB:TI:=⟨1,8,.other,[.bT],none⟩
theorem aEM:bo Tryz.prog 38 arB:=by apply ak<;>first|exact trivial|kernel_rfl
def arA:TI:=⟨1,8,.int .u64,[.u64 0],some .u64⟩
theorem aEL:bo Tryz.prog 39 arA:=by apply ak<;>first|exact⟨by kernel_rfl,by kernel_rfl,by kernel_rfl⟩|kernel_rfl
def arz:TI:=⟨4,32,.array 4 39,[.u64 0,.u64 0,.u64 0,.u64 0],some .elem⟩
theorem aEK:bo Tryz.prog 40 arz:=by apply ak<;>first|exact⟨by kernel_rfl,by kernel_rfl,by kernel_rfl⟩|kernel_rfl
def ary:TI:=⟨4,32,.array 4 39,[.u64 0,.u64 0,.u64 0,.u64 0],some .elem⟩
theorem aEJ:bo Tryz.prog 41 ary:=by apply ak<;>first|exact⟨by kernel_rfl,by kernel_rfl,by kernel_rfl⟩|kernel_rfl
def arx:TI:=⟨9,72,.struct [(0,41),(4,41),(8,4)],[.u64 0,.u64 0,.u64 0,.u64 0,.u64 0,.u64 0,.u64 0,.u64 0,.bool false],some (.prod .elem (.prod .elem .bool))⟩
theorem aEI:bo Tryz.prog 42 arx:=by apply ak<;>first|exact⟨by kernel_rfl,by kernel_rfl,by kernel_rfl⟩|kernel_rfl
def arw:TI:=⟨9,72,.struct [(0,41),(4,41),(8,4)],[.u64 0,.u64 0,.u64 0,.u64 0,.u64 0,.u64 0,.u64 0,.u64 0,.bool false],some (.prod .elem (.prod .elem .bool))⟩
theorem aEH:bo Tryz.prog 43 arw:=by apply ak<;>first|exact⟨by kernel_rfl,by kernel_rfl,by kernel_rfl⟩|kernel_rfl
def arv:TI:=⟨14,112,.struct [(0,3),(1,41),(5,43)],[.int 0,.u64 0,.u64 0,.u64 0,.u64 0,.u64 0,.u64 0,.u64 0,.u64 0,.u64 0,.u64 0,.u64 0,.u64 0,.bool false],some (.prod .int (.prod .elem (.prod .elem (.prod .elem .bool))))⟩
theorem aEG:bo Tryz.prog 44 arv:=by apply ak<;>first|exact⟨by kernel_rfl,by kernel_rfl,by kernel_rfl⟩|kernel_rfl
def aru:TI:=⟨14,112,.struct [(0,3),(1,41),(5,43)],[.int 0,.u64 0,.u64 0,.u64 0,.u64 0,.u64 0,.u64 0,.u64 0,.u64 0,.u64 0,.u64 0,.u64 0,.u64 0,.bool false],some (.prod .int (.prod .elem (.prod .elem (.prod .elem .bool))))⟩
theorem aEF:bo Tryz.prog 45 aru:=by apply ak<;>first|exact⟨by kernel_rfl,by kernel_rfl,by kernel_rfl⟩|kernel_rfl
def art:TI:=⟨1,8,.other,[.bT],none⟩
theorem aEE:bo Tryz.prog 46 art:=by apply ak<;>first|exact trivial|kernel_rfl
def ars:TI:=⟨1,16,.iface,[.eF],none⟩
theorem aED:bo Tryz.prog 47 ars:=by apply ak<;>first|exact trivial|kernel_rfl
def arq:TI:=⟨1,16,.iface,[.eF],none⟩
theorem aEC:bo Tryz.prog 48 arq:=by apply ak<;>first|exact trivial|kernel_rfl
def arp:TI:=⟨2,24,.struct [(0,3),(1,48)],[.int 0,.eF],none⟩
theorem aEB:bo Tryz.prog 49 arp:=by apply ak<;>first|exact trivial|kernel_rfl
def aro:TI:=⟨2,24,.struct [(0,3),(1,48)],[.int 0,.eF],none⟩
theorem aEA:bo Tryz.prog 50 aro:=by apply ak<;>first|exact trivial|kernel_rfl
def arn:TI:=⟨3,48,.struct [(0,50),(2,25)],[.int 0,.eF,.emp],none⟩
theorem aEz:bo Tryz.prog 51 arn:=by apply ak<;>first|exact trivial|kernel_rfl
def arm:TI:=⟨3,48,.struct [(0,50),(2,25)],[.int 0,.eF,.emp],none⟩
theorem aEy:bo Tryz.prog 52 arm:=by apply ak<;>first|exact trivial|kernel_rfl
def arl:TI:=⟨1,8,.other,[.bT],none⟩
theorem aEx:bo Tryz.prog 53 arl:=by apply ak<;>first|exact trivial|kernel_rfl
def ark:TI:=⟨1,8,.other,[.bT],none⟩
theorem aEw:bo Tryz.prog 55 ark:=by apply ak<;>first|exact trivial|kernel_rfl
def arj:TI:=⟨1,8,.other,[.bT],none⟩
theorem aEv:bo Tryz.prog 57 arj:=by apply ak<;>first|exact trivial|kernel_rfl
def ari:TI:=⟨1,8,.other,[.bT],none⟩
theorem aEu:bo Tryz.prog 59 ari:=by apply ak<;>first|exact trivial|kernel_rfl
def arh:TI:=⟨1,8,.other,[.bT],none⟩
theorem aEt:bo Tryz.prog 61 arh:=by apply ak<;>first|exact trivial|kernel_rfl
def arf:TI:=⟨1,8,.other,[.bT],none⟩
theorem aEs:bo Tryz.prog 62 arf:=by apply ak<;>first|exact trivial|kernel_rfl
def ard:TI:=⟨1,8,.other,[.bT],none⟩
theorem aEr:bo Tryz.prog 63 ard:=by apply ak<;>first|exact trivial|kernel_rfl
def arc:TI:=⟨1,8,.other,[.bT],none⟩
theorem aEq:bo Tryz.prog 64 arc:=by apply ak<;>first|exact trivial|kernel_rfl
def arb:TI:=⟨1,8,.other,[.bT],none⟩
theorem aEp:bo Tryz.prog 65 arb:=by apply ak<;>first|exact trivial|kernel_rfl
def ara:TI:=⟨1,8,.other,[.bT],none⟩
theorem aEo:bo Tryz.prog 66 ara:=by apply ak<;>first|exact trivial|kernel_rfl
def aq9:TI:=⟨1,24,.slice 43,[.emp],some (.list (.prod .elem (.prod .elem .bool)))⟩
theorem aEn:bo Tryz.prog 67 aq9:=by apply ak<;>first|exact⟨by kernel_rfl,by kernel_rfl,by kernel_rfl⟩|kernel_rfl
def aq8:TI:=⟨21,184,.struct [(0,3),(1,3),(2,67),(3,43),(12,43)],[.int 0,.int 0,.emp,.u64 0,.u64 0,.u64 0,.u64 0,.u64 0,.u64 0,.u64 0,.u64 0,.bool false,.u64 0,.u64 0,.u64 0,.u64 0,.u64 0,.u64 0,.u64 0,.u64 0,.bool false],some (.prod .int (.prod .int (.prod (.list (.prod .elem (.prod .elem .bool))) (.prod (.prod .elem (.prod .elem .bool)) (.prod .elem (.prod .elem .bool))))))⟩
theorem aEm:bo Tryz.prog 68 aq8:=by apply ak<;>first|exact⟨by kernel_rfl,by kernel_rfl,by kernel_rfl⟩|kernel_rfl
def aq7:TI:=⟨21,184,.struct [(0,3),(1,3),(2,67),(3,43),(12,43)],[.int 0,.int 0,.emp,.u64 0,.u64 0,.u64 0,.u64 0,.u64 0,.u64 0,.u64 0,.u64 0,.bool false,.u64 0,.u64 0,.u64 0,.u64 0,.u64 0,.u64 0,.u64 0,.u64 0,.bool false],some (.prod .int (.prod .int (.prod (.list (.prod .elem (.prod .elem .bool))) (.prod (.prod .elem (.prod .elem .bool)) (.prod .elem (.prod .elem .bool))))))⟩
theorem aEl:bo Tryz.prog 69 aq7:=by apply ak<;>first|exact⟨by kernel_rfl,by kernel_rfl,by kernel_rfl⟩|kernel_rfl
def aq6:TI:=⟨1,8,.other,[.bT],none⟩
theorem aEk:bo Tryz.prog 71 aq6:=by apply ak<;>first|exact trivial|kernel_rfl
def aq5:TI:=⟨1,8,.other,[.bT],none⟩
theorem aEj:bo Tryz.prog 72 aq5:=by apply ak<;>first|exact trivial|kernel_rfl
def aq4:TI:=⟨1,8,.other,[.bT],none⟩
theorem aEi:bo Tryz.prog 73 aq4:=by apply ak<;>first|exact trivial|kernel_rfl
def aq3:TI:=⟨1,8,.other,[.bT],none⟩
theorem aEh:bo Tryz.prog 74 aq3:=by apply ak<;>first|exact trivial|kernel_rfl
def aq2:TI:=⟨1,8,.other,[.bT],none⟩
theorem aEg:bo Tryz.prog 75 aq2:=by apply ak<;>first|exact trivial|kernel_rfl
def aq1:TI:=⟨1,8,.other,[.bT],none⟩
theorem aEf:bo Tryz.prog 76 aq1:=by apply ak<;>first|exact trivial|kernel_rfl
def aq0:TI:=⟨1,8,.other,[.bT],none⟩
theorem aEe:bo Tryz.prog 77 aq0:=by apply ak<;>first|exact trivial|kernel_rfl
def aqZ:TI:=⟨1,8,.other,[.bT],none⟩
theorem aEd:bo Tryz.prog 78 aqZ:=by apply ak<;>first|exact trivial|kernel_rfl
def aqY:TI:=⟨1,8,.other,[.bT],none⟩
theorem aEc:bo Tryz.prog 79 aqY:=by apply ak<;>first|exact trivial|kernel_rfl
def aqX:TI:=⟨1,8,.other,[.bT],none⟩
theorem aEb:bo Tryz.prog 80 aqX:=by apply ak<;>first|exact trivial|kernel_rfl
def aqW:TI:=⟨1,8,.other,[.bT],none⟩
theorem aEa:bo Tryz.prog 81 aqW:=by apply ak<;>first|exact trivial|kernel_rfl
def aqV:TI:=⟨1,8,.other,[.bT],none⟩
theorem aD9:bo Tryz.prog 82 aqV:=by apply ak<;>first|exact trivial|kernel_rfl
def aqU:TI:=⟨1,8,.other,[.bT],none⟩
theorem aD8:bo Tryz.prog 83 aqU:=by apply ak<;>first|exact trivial|kernel_rfl
def aqT:TI:=⟨1,8,.other,[.bT],none⟩
theorem aD7:bo Tryz.prog 84 aqT:=by apply ak<;>first|exact trivial|kernel_rfl
def aqS:TI:=⟨1,8,.other,[.bT],none⟩
theorem aD6:bo Tryz.prog 85 aqS:=by apply ak<;>first|exact trivial|kernel_rfl
def aqR:TI:=⟨1,8,.int .u64,[.u64 0],some .u64⟩
theorem aD5:bo Tryz.prog 86 aqR:=by apply ak<;>first|exact⟨by kernel_rfl,by kernel_rfl,by kernel_rfl⟩|kernel_rfl
def aqQ:TI:=⟨1,8,.ptr [("Bytes",50),("Scalar",49),("sigil/tape.say",88)],[.rb],none⟩
theorem aD4:bo Tryz.prog 87 aqQ:=by apply ak<;>first|exact trivial|kernel_rfl
def aqP:TI:=⟨1,8,.other,[.bT],none⟩
theorem aD3:bo Tryz.prog 89 aqP:=by apply ak<;>first|exact trivial|kernel_rfl
def aqO:TI:=⟨3,48,.struct [(0,50),(2,25)],[.int 0,.eF,.emp],none⟩
theorem aD2:bo Tryz.prog 90 aqO:=by apply ak<;>first|exact trivial|kernel_rfl
def aqN:TI:=⟨3,48,.struct [(0,50),(2,25)],[.int 0,.eF,.emp],none⟩
theorem aD1:bo Tryz.prog 91 aqN:=by apply ak<;>first|exact trivial|kernel_rfl
def aqM:TI:=⟨1,8,.other,[.bT],none⟩
theorem aD0:bo Tryz.prog 92 aqM:=by apply ak<;>first|exact trivial|kernel_rfl
def aqL:TI:=⟨1,8,.other,[.bT],none⟩
theorem aDZ:bo Tryz.prog 94 aqL:=by apply ak<;>first|exact trivial|kernel_rfl
def aqK:TI:=⟨1,8,.ptr [("Challenge",24),("Curve",26),("Hear",17)],[.rb],none⟩
theorem aDY:bo Tryz.prog 95 aqK:=by apply ak<;>first|exact trivial|kernel_rfl
def aqJ:TI:=⟨1,8,.other,[.bT],none⟩
theorem aDX:bo Tryz.prog 96 aqJ:=by apply ak<;>first|exact trivial|kernel_rfl
def aqI:TI:=⟨1,8,.other,[.bT],none⟩
theorem aDW:bo Tryz.prog 97 aqI:=by apply ak<;>first|exact trivial|kernel_rfl
def aqH:TI:=⟨1,8,.other,[.bT],none⟩
theorem aDV:bo Tryz.prog 98 aqH:=by apply ak<;>first|exact trivial|kernel_rfl
def aqG:TI:=⟨1,8,.other,[.bT],none⟩
theorem aDU:bo Tryz.prog 99 aqG:=by apply ak<;>first|exact trivial|kernel_rfl
def aiK:TI:=⟨1,8,.other,[.bT],none⟩
theorem azz:bo Tryz.prog 100 aiK:=by apply ak<;>first|exact trivial|kernel_rfl
def aiJ:TI:=⟨1,8,.other,[.bT],none⟩
theorem azy:bo Tryz.prog 101 aiJ:=by apply ak<;>first|exact trivial|kernel_rfl
def aiI:TI:=⟨1,8,.other,[.bT],none⟩
theorem azx:bo Tryz.prog 102 aiI:=by apply ak<;>first|exact trivial|kernel_rfl
def aiH:TI:=⟨1,8,.other,[.bT],none⟩
theorem azw:bo Tryz.prog 103 aiH:=by apply ak<;>first|exact trivial|kernel_rfl
def aiG:TI:=⟨1,8,.other,[.bT],none⟩
theorem azv:bo Tryz.prog 105 aiG:=by apply ak<;>first|exact trivial|kernel_rfl
def aiF:TI:=⟨1,8,.other,[.bT],none⟩
theorem azu:bo Tryz.prog 106 aiF:=by apply ak<;>first|exact trivial|kernel_rfl
def aiE:TI:=⟨1,8,.other,[.bT],none⟩
theorem azt:bo Tryz.prog 107 aiE:=by apply ak<;>first|exact trivial|kernel_rfl
def aiD:TI:=⟨1,8,.other,[.bT],none⟩
theorem azs:bo Tryz.prog 108 aiD:=by apply ak<;>first|exact trivial|kernel_rfl
def aiC:TI:=⟨1,8,.other,[.bT],none⟩
theorem azr:bo Tryz.prog 109 aiC:=by apply ak<;>first|exact trivial|kernel_rfl
def aiB:TI:=⟨1,8,.other,[.bT],none⟩
theorem azq:bo Tryz.prog 110 aiB:=by apply ak<;>first|exact trivial|kernel_rfl
def aiA:TI:=⟨13,104,.struct [(0,41),(4,43)],[.u64 0,.u64 0,.u64 0,.u64 0,.u64 0,.u64 0,.u64 0,.u64 0,.u64 0,.u64 0,.u64 0,.u64 0,.bool false],some (.prod .elem (.prod .elem (.prod .elem .bool)))⟩
theorem azp:bo Tryz.prog 111 aiA:=by apply ak<;>first|exact⟨by kernel_rfl,by kernel_rfl,by kernel_rfl⟩|kernel_rfl
def aiz:TI:=⟨13,104,.struct [(0,41),(4,43)],[.u64 0,.u64 0,.u64 0,.u64 0,.u64 0,.u64 0,.u64 0,.u64 0,.u64 0,.u64 0,.u64 0,.u64 0,.bool false],some (.prod .elem (.prod .elem (.prod .elem .bool)))⟩
theorem azo:bo Tryz.prog 112 aiz:=by apply ak<;>first|exact⟨by kernel_rfl,by kernel_rfl,by kernel_rfl⟩|kernel_rfl
def aiy:TI:=⟨1,24,.slice 112,[.emp],some (.list (.prod .elem (.prod .elem (.prod .elem .bool))))⟩
theorem azn:bo Tryz.prog 113 aiy:=by apply ak<;>first|exact⟨by kernel_rfl,by kernel_rfl,by kernel_rfl⟩|kernel_rfl
def aix:TI:=⟨1,8,.other,[.bT],none⟩
theorem azm:bo Tryz.prog 114 aix:=by apply ak<;>first|exact trivial|kernel_rfl
def aiw:TI:=⟨1,8,.other,[.bT],none⟩
theorem azl:bo Tryz.prog 115 aiw:=by apply ak<;>first|exact trivial|kernel_rfl
def aiv:TI:=⟨11,88,.struct [(0,41),(4,3),(5,39),(6,39),(7,41)],[.u64 0,.u64 0,.u64 0,.u64 0,.int 0,.u64 0,.u64 0,.u64 0,.u64 0,.u64 0,.u64 0],some (.prod .elem (.prod .int (.prod .u64 (.prod .u64 .elem))))⟩
theorem azk:bo Tryz.prog 116 aiv:=by apply ak<;>first|exact⟨by kernel_rfl,by kernel_rfl,by kernel_rfl⟩|kernel_rfl
def aiu:TI:=⟨11,88,.struct [(0,41),(4,3),(5,39),(6,39),(7,41)],[.u64 0,.u64 0,.u64 0,.u64 0,.int 0,.u64 0,.u64 0,.u64 0,.u64 0,.u64 0,.u64 0],some (.prod .elem (.prod .int (.prod .u64 (.prod .u64 .elem))))⟩
theorem azj:bo Tryz.prog 117 aiu:=by apply ak<;>first|exact⟨by kernel_rfl,by kernel_rfl,by kernel_rfl⟩|kernel_rfl
def ait:TI:=⟨1,8,.other,[.bT],none⟩
theorem azi:bo Tryz.prog 119 ait:=by apply ak<;>first|exact trivial|kernel_rfl
def ais:TI:=⟨1,8,.other,[.bT],none⟩
theorem azh:bo Tryz.prog 120 ais:=by apply ak<;>first|exact trivial|kernel_rfl
def air:TI:=⟨1,8,.other,[.bT],none⟩
theorem azg:bo Tryz.prog 121 air:=by apply ak<;>first|exact trivial|kernel_rfl
def aiq:TI:=⟨1,8,.int .i64,[.int 0],some .int⟩
theorem azf:bo Tryz.prog 122 aiq:=by apply ak<;>first|exact⟨by kernel_rfl,by kernel_rfl,by kernel_rfl⟩|kernel_rfl
def aip:TI:=⟨1,8,.other,[.bT],none⟩
theorem aze:bo Tryz.prog 123 aip:=by apply ak<;>first|exact trivial|kernel_rfl
def aio:TI:=⟨12,96,.struct [(0,41),(4,41),(8,41)],List.replicate 12 (.u64 0),some (.prod .elem (.prod .elem .elem))⟩
theorem azd:bo Tryz.prog 124 aio:=by apply ak<;>first|exact⟨by kernel_rfl,by kernel_rfl,by kernel_rfl⟩|kernel_rfl
def ain:TI:=⟨12,96,.struct [(0,41),(4,41),(8,41)],List.replicate 12 (.u64 0),some (.prod .elem (.prod .elem .elem))⟩
theorem azc:bo Tryz.prog 125 ain:=by apply ak<;>first|exact⟨by kernel_rfl,by kernel_rfl,by kernel_rfl⟩|kernel_rfl
def aim:TI:=⟨1,8,.other,[.bT],none⟩
theorem azb:bo Tryz.prog 126 aim:=by apply ak<;>first|exact trivial|kernel_rfl
def ail:TI:=⟨1,8,.other,[.bT],none⟩
theorem aza:bo Tryz.prog 127 ail:=by apply ak<;>first|exact trivial|kernel_rfl
def aik:TI:=⟨1,8,.other,[.bT],none⟩
theorem ay9:bo Tryz.prog 128 aik:=by apply ak<;>first|exact trivial|kernel_rfl
def aij:TI:=⟨1,8,.other,[.bT],none⟩
theorem ay8:bo Tryz.prog 129 aij:=by apply ak<;>first|exact trivial|kernel_rfl
def aii:TI:=⟨1,8,.other,[.bT],none⟩
theorem ay7:bo Tryz.prog 131 aii:=by apply ak<;>first|exact trivial|kernel_rfl
def aih:TI:=⟨1,8,.other,[.bT],none⟩
theorem ay6:bo Tryz.prog 132 aih:=by apply ak<;>first|exact trivial|kernel_rfl
def aif:TI:=⟨1,8,.ptr [("sigil/tape.next",191),("sigil/tape.take",192)],[.rb],none⟩
theorem ay5:bo Tryz.prog 133 aif:=by apply ak<;>first|exact trivial|kernel_rfl
def aie:TI:=⟨1,24,.struct [(0,22)],[.emp],some (.list .elem)⟩
theorem ay4:bo Tryz.prog 134 aie:=by apply ak<;>first|exact⟨by kernel_rfl,by kernel_rfl,by kernel_rfl⟩|kernel_rfl
def aid:TI:=⟨1,24,.struct [(0,22)],[.emp],some (.list .elem)⟩
theorem ay3:bo Tryz.prog 135 aid:=by apply ak<;>first|exact⟨by kernel_rfl,by kernel_rfl,by kernel_rfl⟩|kernel_rfl
def aic:TI:=⟨2,32,.struct [(0,3),(1,135)],[.int 0,.emp],some (.prod .int (.list .elem))⟩
theorem ay2:bo Tryz.prog 136 aic:=by apply ak<;>first|exact⟨by kernel_rfl,by kernel_rfl,by kernel_rfl⟩|kernel_rfl
def aib:TI:=⟨2,32,.struct [(0,3),(1,135)],[.int 0,.emp],some (.prod .int (.list .elem))⟩
theorem ay1:bo Tryz.prog 137 aib:=by apply ak<;>first|exact⟨by kernel_rfl,by kernel_rfl,by kernel_rfl⟩|kernel_rfl
def aia:TI:=⟨1,8,.ptr [("Sum",110),("Write",109)],[.rb],none⟩
theorem ay0:bo Tryz.prog 138 aia:=by apply ak<;>first|exact trivial|kernel_rfl
def ah9:TI:=⟨1,8,.other,[.bT],none⟩
theorem ayZ:bo Tryz.prog 140 ah9:=by apply ak<;>first|exact trivial|kernel_rfl
def ah8:TI:=⟨1,8,.ptr [("sigil/tape.next",194),("sigil/tape.take",195)],[.rb],none⟩
theorem ayY:bo Tryz.prog 141 ah8:=by apply ak<;>first|exact trivial|kernel_rfl
def ah7:TI:=⟨2,16,.struct [(0,3),(1,138)],[.int 0,.rb],none⟩
theorem ayX:bo Tryz.prog 142 ah7:=by apply ak<;>first|exact trivial|kernel_rfl
def ah6:TI:=⟨2,16,.struct [(0,3),(1,138)],[.int 0,.rb],none⟩
theorem ayW:bo Tryz.prog 143 ah6:=by apply ak<;>first|exact trivial|kernel_rfl
def ah5:TI:=⟨1,8,.other,[.bT],none⟩
theorem ayV:bo Tryz.prog 144 ah5:=by apply ak<;>first|exact trivial|kernel_rfl
def ah4:TI:=⟨1,8,.other,[.bT],none⟩
theorem ayU:bo Tryz.prog 145 ah4:=by apply ak<;>first|exact trivial|kernel_rfl
def ah3:TI:=⟨1,8,.other,[.bT],none⟩
theorem ayT:bo Tryz.prog 146 ah3:=by apply ak<;>first|exact trivial|kernel_rfl
def ah2:TI:=⟨1,8,.other,[.bT],none⟩
theorem ayS:bo Tryz.prog 147 ah2:=by apply ak<;>first|exact trivial|kernel_rfl
def ah1:TI:=⟨8,64,.array 8 39,[.u64 0,.u64 0,.u64 0,.u64 0,.u64 0,.u64 0,.u64 0,.u64 0],some (.arr 8 .u64)⟩
theorem ayR:bo Tryz.prog 148 ah1:=by apply ak<;>first|exact⟨by kernel_rfl,by kernel_rfl,by kernel_rfl⟩|kernel_rfl
def ah0:TI:=⟨1,8,.other,[.bT],none⟩
theorem ayQ:bo Tryz.prog 149 ah0:=by apply ak<;>first|exact trivial|kernel_rfl
def ahZ:TI:=⟨1,8,.other,[.bT],none⟩
theorem ayP:bo Tryz.prog 150 ahZ:=by apply ak<;>first|exact trivial|kernel_rfl
def ahY:TI:=⟨1,8,.other,[.bT],none⟩
theorem ayO:bo Tryz.prog 151 ahY:=by apply ak<;>first|exact trivial|kernel_rfl
def ahX:TI:=⟨1,8,.other,[.bT],none⟩
theorem ayN:bo Tryz.prog 152 ahX:=by apply ak<;>first|exact trivial|kernel_rfl
def ahW:TI:=⟨1,8,.other,[.bT],none⟩
theorem ayM:bo Tryz.prog 153 ahW:=by apply ak<;>first|exact trivial|kernel_rfl
def ahV:TI:=⟨1,8,.other,[.bT],none⟩
theorem ayL:bo Tryz.prog 154 ahV:=by apply ak<;>first|exact trivial|kernel_rfl
def ahU:TI:=⟨1,8,.other,[.bT],none⟩
theorem ayK:bo Tryz.prog 155 ahU:=by apply ak<;>first|exact trivial|kernel_rfl
def ahT:TI:=⟨1,8,.ptr [("Add",115),("Scale",196),("Value",116)],[.rb],none⟩
theorem ayJ:bo Tryz.prog 156 ahT:=by apply ak<;>first|exact trivial|kernel_rfl
def ahS:TI:=⟨1,8,.other,[.bT],none⟩
theorem ayI:bo Tryz.prog 158 ahS:=by apply ak<;>first|exact trivial|kernel_rfl
def ahR:TI:=⟨1,8,.other,[.bT],none⟩
theorem ayH:bo Tryz.prog 159 ahR:=by apply ak<;>first|exact trivial|kernel_rfl
def ahQ:TI:=⟨1,8,.other,[.bT],none⟩
theorem ayG:bo Tryz.prog 160 ahQ:=by apply ak<;>first|exact trivial|kernel_rfl
def ahP:TI:=⟨1,8,.other,[.bT],none⟩
theorem ayF:bo Tryz.prog 161 ahP:=by apply ak<;>first|exact trivial|kernel_rfl
def ahO:TI:=⟨1,8,.other,[.bT],none⟩
theorem ayE:bo Tryz.prog 162 ahO:=by apply ak<;>first|exact trivial|kernel_rfl
def ahN:TI:=⟨11,104,.struct [(0,3),(1,148),(9,25),(10,39)],[.int 0,.u64 0,.u64 0,.u64 0,.u64 0,.u64 0,.u64 0,.u64 0,.u64 0,.emp,.u64 0],some (.prod .int (.prod (.arr 8 .u64) (.prod (.list .u8) .u64)))⟩
theorem ayD:bo Tryz.prog 163 ahN:=by apply ak<;>first|exact⟨by kernel_rfl,by kernel_rfl,by kernel_rfl⟩|kernel_rfl
def ahM:TI:=⟨11,104,.struct [(0,3),(1,148),(9,25),(10,39)],[.int 0,.u64 0,.u64 0,.u64 0,.u64 0,.u64 0,.u64 0,.u64 0,.u64 0,.emp,.u64 0],some (.prod .int (.prod (.arr 8 .u64) (.prod (.list .u8) .u64)))⟩
theorem ayC:bo Tryz.prog 164 ahM:=by apply ak<;>first|exact⟨by kernel_rfl,by kernel_rfl,by kernel_rfl⟩|kernel_rfl
def ahL:TI:=⟨16,16,.array 16 5,List.replicate 16 (.u8 0),some (.arr 16 .u8)⟩
theorem ayB:bo Tryz.prog 165 ahL:=by apply ak<;>first|exact⟨by kernel_rfl,by kernel_rfl,by kernel_rfl⟩|kernel_rfl
def ahK:TI:=⟨1,8,.other,[.bT],none⟩
theorem ayA:bo Tryz.prog 166 ahK:=by apply ak<;>first|exact trivial|kernel_rfl
def ahJ:TI:=⟨1,8,.other,[.bT],none⟩
theorem ayz:bo Tryz.prog 168 ahJ:=by apply ak<;>first|exact trivial|kernel_rfl
def ahI:TI:=⟨1,8,.other,[.bT],none⟩
theorem ayy:bo Tryz.prog 170 ahI:=by apply ak<;>first|exact trivial|kernel_rfl
def ahH:TI:=⟨1,8,.other,[.bT],none⟩
theorem ayx:bo Tryz.prog 171 ahH:=by apply ak<;>first|exact trivial|kernel_rfl
def ahG:TI:=⟨1,8,.other,[.bT],none⟩
theorem ayw:bo Tryz.prog 172 ahG:=by apply ak<;>first|exact trivial|kernel_rfl
def ahF:TI:=⟨16,128,.array 16 39,List.replicate 16 (.u64 0),some (.arr 16 .u64)⟩
theorem ayv:bo Tryz.prog 173 ahF:=by apply ak<;>first|exact⟨by kernel_rfl,by kernel_rfl,by kernel_rfl⟩|kernel_rfl
def ahE:TI:=⟨16,128,.array 16 3,List.replicate 16 (.int 0),some (.arr 16 .int)⟩
theorem ayu:bo Tryz.prog 174 ahE:=by apply ak<;>first|exact⟨by kernel_rfl,by kernel_rfl,by kernel_rfl⟩|kernel_rfl
def ahD:TI:=⟨160,1280,.array 10 174,List.replicate 160 (.int 0),some (.arr 10 (.arr 16 .int))⟩
theorem ayt:bo Tryz.prog 175 ahD:=by apply ak<;>first|exact⟨by kernel_rfl,by kernel_rfl,by kernel_rfl⟩|kernel_rfl
def ahC:TI:=⟨1,8,.other,[.bT],none⟩
theorem ays:bo Tryz.prog 176 ahC:=by apply ak<;>first|exact trivial|kernel_rfl
def ahB:TI:=⟨1,8,.other,[.bT],none⟩
theorem ayr:bo Tryz.prog 177 ahB:=by apply ak<;>first|exact trivial|kernel_rfl
def ahA:TI:=⟨1,24,.slice 3,[.emp],some (.list .int)⟩
theorem ayq:bo Tryz.prog 178 ahA:=by apply ak<;>first|exact⟨by kernel_rfl,by kernel_rfl,by kernel_rfl⟩|kernel_rfl
def ahz:TI:=⟨1,8,.other,[.bT],none⟩
theorem ayp:bo Tryz.prog 179 ahz:=by apply ak<;>first|exact trivial|kernel_rfl
def ahy:TI:=⟨1,8,.other,[.bT],none⟩
theorem ayo:bo Tryz.prog 180 ahy:=by apply ak<;>first|exact trivial|kernel_rfl
def ahx:TI:=⟨1,8,.other,[.bT],none⟩
theorem ayn:bo Tryz.prog 181 ahx:=by apply ak<;>first|exact trivial|kernel_rfl
def ahw:TI:=⟨128,128,.array 128 5,List.replicate 128 (.u8 0),some (.arr 128 .u8)⟩
theorem aym:bo Tryz.prog 182 ahw:=by apply ak<;>first|exact⟨by kernel_rfl,by kernel_rfl,by kernel_rfl⟩|kernel_rfl
def ahv:TI:=⟨8,64,.array 2 41,[.u64 0,.u64 0,.u64 0,.u64 0,.u64 0,.u64 0,.u64 0,.u64 0],some (.arr 2 .elem)⟩
theorem ayl:bo Tryz.prog 183 ahv:=by apply ak<;>first|exact⟨by kernel_rfl,by kernel_rfl,by kernel_rfl⟩|kernel_rfl
def ahu:TI:=⟨1,8,.other,[.bT],none⟩
theorem ayk:bo Tryz.prog 185 ahu:=by apply ak<;>first|exact trivial|kernel_rfl
def aht:TI:=⟨2,32,.struct [(0,3),(1,113)],[.int 0,.emp],some (.prod .int (.list (.prod .elem (.prod .elem (.prod .elem .bool)))))⟩
theorem ayj:bo Tryz.prog 186 aht:=by apply ak<;>first|exact⟨by kernel_rfl,by kernel_rfl,by kernel_rfl⟩|kernel_rfl
def ahs:TI:=⟨2,32,.struct [(0,3),(1,113)],[.int 0,.emp],some (.prod .int (.list (.prod .elem (.prod .elem (.prod .elem .bool)))))⟩
theorem ayi:bo Tryz.prog 187 ahs:=by apply ak<;>first|exact⟨by kernel_rfl,by kernel_rfl,by kernel_rfl⟩|kernel_rfl
def ahr:TI:=⟨6,48,.array 6 39,[.u64 0,.u64 0,.u64 0,.u64 0,.u64 0,.u64 0],some (.arr 6 .u64)⟩
theorem ayh:bo Tryz.prog 188 ahr:=by apply ak<;>first|exact⟨by kernel_rfl,by kernel_rfl,by kernel_rfl⟩|kernel_rfl
def ahq:TI:=⟨1,8,.other,[.bT],none⟩
theorem ayg:bo Tryz.prog 189 ahq:=by apply ak<;>first|exact trivial|kernel_rfl
def ahp:TI:=⟨1,24,.slice 39,[.emp],some (.list .u64)⟩
theorem ayf:bo Tryz.prog 190 ahp:=by apply ak<;>first|exact⟨by kernel_rfl,by kernel_rfl,by kernel_rfl⟩|kernel_rfl
def aho:TI:=⟨1,16,.iface,[.eF],none⟩
theorem aye:bo Tryz.prog 191 aho:=by apply ak<;>first|exact trivial|kernel_rfl
def ahn:TI:=⟨1,16,.iface,[.eF],none⟩
theorem ayd:bo Tryz.prog 192 ahn:=by apply ak<;>first|exact trivial|kernel_rfl
def ahm:TI:=⟨1,8,.other,[.bT],none⟩
theorem ayc:bo Tryz.prog 193 ahm:=by apply ak<;>first|exact trivial|kernel_rfl
def ahl:TI:=⟨4,32,.array 4 3,[.int 0,.int 0,.int 0,.int 0],some (.arr 4 .int)⟩
theorem ayb:bo Tryz.prog 194 ahl:=by apply ak<;>first|exact⟨by kernel_rfl,by kernel_rfl,by kernel_rfl⟩|kernel_rfl
def ahk:TI:=⟨1,8,.other,[.bT],none⟩
theorem aya:bo Tryz.prog 195 ahk:=by apply ak<;>first|exact trivial|kernel_rfl
def ahj:TI:=⟨16,128,.array 16 39,List.replicate 16 (.u64 0),some (.arr 16 .u64)⟩
theorem ax9:bo Tryz.prog 196 ahj:=by apply ak<;>first|exact⟨by kernel_rfl,by kernel_rfl,by kernel_rfl⟩|kernel_rfl
def ahi:TI:=⟨10,160,.array 10 9,List.replicate 10 (.str []),some (.arr 10 .str)⟩
theorem ax8:bo Tryz.prog 197 ahi:=by apply ak<;>first|exact⟨by kernel_rfl,by kernel_rfl,by kernel_rfl⟩|kernel_rfl
def ahh:TI:=⟨1,8,.other,[.bT],none⟩
theorem ax7:bo Tryz.prog 198 ahh:=by apply ak<;>first|exact trivial|kernel_rfl
def ahg:TI:=⟨1,8,.other,[.bT],none⟩
theorem ax6:bo Tryz.prog 199 ahg:=by apply ak<;>first|exact trivial|kernel_rfl
def ahf:TI:=⟨1,8,.other,[.bT],none⟩
theorem ax5:bo Tryz.prog 200 ahf:=by apply ak<;>first|exact trivial|kernel_rfl
def ahe:TI:=⟨1,8,.other,[.bT],none⟩
theorem ax4:bo Tryz.prog 201 ahe:=by apply ak<;>first|exact trivial|kernel_rfl
def ahd:TI:=⟨1,8,.other,[.bT],none⟩
theorem ax3:bo Tryz.prog 202 ahd:=by apply ak<;>first|exact trivial|kernel_rfl
def ahc:TI:=⟨1,8,.other,[.bT],none⟩
theorem ax2:bo Tryz.prog 203 ahc:=by apply ak<;>first|exact trivial|kernel_rfl
def ahb:TI:=⟨1,8,.ptr [("sigil/blake.mix",159)],[.rb],none⟩
theorem ax1:bo Tryz.prog 204 ahb:=by apply ak<;>first|exact trivial|kernel_rfl
def aha:TI:=⟨1,8,.other,[.bT],none⟩
theorem ax0:bo Tryz.prog 205 aha:=by apply ak<;>first|exact trivial|kernel_rfl
def ag9:TI:=⟨1,8,.other,[.bT],none⟩
theorem axZ:bo Tryz.prog 206 ag9:=by apply ak<;>first|exact trivial|kernel_rfl
def ag8:TI:=⟨1,8,.other,[.bT],none⟩
theorem axY:bo Tryz.prog 207 ag8:=by apply ak<;>first|exact trivial|kernel_rfl
def ag7:TI:=⟨135,1080,.array 15 43,(([.u64 0,.u64 0,.u64 0,.u64 0,.u64 0,.u64 0,.u64 0,.u64 0,.bool false,.u64 0,.u64 0,.u64 0,.u64 0,.u64 0,.u64 0,.u64 0,.u64 0,.bool false,.u64 0,.u64 0,.u64 0,.u64 0,.u64 0,.u64 0,.u64 0,.u64 0,.bool false,.u64 0,.u64 0,.u64 0,.u64 0,.u64 0,.u64 0,.u64 0,.u64 0,.bool false,.u64 0,.u64 0,.u64 0,.u64 0,.u64 0,.u64 0,.u64 0,.u64 0,.bool false,.u64 0,.u64 0,.u64 0,.u64 0,.u64 0]:List SV)++([.u64 0,.u64 0,.u64 0,.bool false,.u64 0,.u64 0,.u64 0,.u64 0,.u64 0,.u64 0,.u64 0,.u64 0,.bool false,.u64 0,.u64 0,.u64 0,.u64 0,.u64 0,.u64 0,.u64 0,.u64 0,.bool false,.u64 0,.u64 0,.u64 0,.u64 0,.u64 0,.u64 0,.u64 0,.u64 0,.bool false,.u64 0,.u64 0,.u64 0,.u64 0,.u64 0,.u64 0,.u64 0,.u64 0,.bool false,.u64 0,.u64 0,.u64 0,.u64 0,.u64 0,.u64 0,.u64 0,.u64 0,.bool false,.u64 0]:List SV)++([.u64 0,.u64 0,.u64 0,.u64 0,.u64 0,.u64 0,.u64 0,.bool false,.u64 0,.u64 0,.u64 0,.u64 0,.u64 0,.u64 0,.u64 0,.u64 0,.bool false,.u64 0,.u64 0,.u64 0,.u64 0,.u64 0,.u64 0,.u64 0,.u64 0,.bool false,.u64 0,.u64 0,.u64 0,.u64 0,.u64 0,.u64 0,.u64 0,.u64 0,.bool false]:List SV)),some (.arr 15 (.prod .elem (.prod .elem .bool)))⟩
theorem axX:bo Tryz.prog 208 ag7:=by apply ak<;>first|exact⟨by kernel_rfl,by kernel_rfl,by kernel_rfl⟩|kernel_rfl
def ag6:TI:=⟨1,8,.other,[.bT],none⟩
theorem axW:bo Tryz.prog 209 ag6:=by apply ak<;>first|exact trivial|kernel_rfl
def ag5:TI:=⟨1,8,.ptr [("Error",197)],[.rb],none⟩
theorem axV:bo Tryz.prog 210 ag5:=by apply ak<;>first|exact trivial|kernel_rfl
def ag4:TI:=⟨1,8,.other,[.bT],none⟩
theorem axU:bo Tryz.prog 211 ag4:=by apply ak<;>first|exact trivial|kernel_rfl
def ag3:TI:=⟨0,0,.array 0 16,[],none⟩
theorem axT:bo Tryz.prog 214 ag3:=by apply ak<;>first|exact trivial|kernel_rfl
def ag2:TI:=⟨1,4,.int .u32,[.bT],none⟩
theorem axS:bo Tryz.prog 217 ag2:=by apply ak<;>first|exact trivial|kernel_rfl
def ag1:TI:=⟨1,1,.int .u8,[.u8 0],some .u8⟩
theorem axR:bo Tryz.prog 218 ag1:=by apply ak<;>first|exact⟨by kernel_rfl,by kernel_rfl,by kernel_rfl⟩|kernel_rfl
def ag0:TI:=⟨1,1,.int .u8,[.u8 0],some .u8⟩
theorem axQ:bo Tryz.prog 219 ag0:=by apply ak<;>first|exact⟨by kernel_rfl,by kernel_rfl,by kernel_rfl⟩|kernel_rfl
def agZ:TI:=⟨1,8,.other,[.bT],none⟩
theorem axP:bo Tryz.prog 220 agZ:=by apply ak<;>first|exact trivial|kernel_rfl
def agY:TI:=⟨1,8,.ptr [],[.rb],none⟩
theorem axO:bo Tryz.prog 221 agY:=by apply ak<;>first|exact trivial|kernel_rfl
def agX:TI:=⟨1,4,.int .i32,[.bT],none⟩
theorem axN:bo Tryz.prog 222 agX:=by apply ak<;>first|exact trivial|kernel_rfl
def agW:TI:=⟨1,4,.int .i32,[.bT],none⟩
theorem axM:bo Tryz.prog 223 agW:=by apply ak<;>first|exact trivial|kernel_rfl
def agV:TI:=⟨1,8,.ptr [("Next",193)],[.rb],none⟩
theorem axL:bo Tryz.prog 226 agV:=by apply ak<;>first|exact trivial|kernel_rfl
def agU:TI:=⟨1,16,.struct [(0,9)],[.str []],some .str⟩
theorem axK:bo Tryz.prog 227 agU:=by apply ak<;>first|exact⟨by kernel_rfl,by kernel_rfl,by kernel_rfl⟩|kernel_rfl
def agT:TI:=⟨1,16,.struct [(0,9)],[.str []],some .str⟩
theorem axJ:bo Tryz.prog 228 agT:=by apply ak<;>first|exact⟨by kernel_rfl,by kernel_rfl,by kernel_rfl⟩|kernel_rfl
def agS:TI:=⟨1,8,.other,[.rb],none⟩
theorem axI:bo Tryz.prog 229 agS:=by apply ak<;>first|exact trivial|kernel_rfl
def te:TE:=(au 1 aCJ (au 2 aCI (au 3 aCH (au 4 aCG (au 5 aCF (au 6 aCE (au 7 aCD (au 8 aCC (au 9 aCB (au 10 arX (au 11 arW (au 12 arV (au 15 arU (au 16 arT (au 17 arS (au 20 arR (au 21 arQ (au 22 arP (au 23 arO (au 24 arN (au 25 arM (au 26 arL (au 27 arK (au 28 arJ (au 29 arI (au 30 arH (au 32 arG (au 33 arF (au 34 arE (au 35 arD (au 37 arC (au 38 arB (au 39 arA (au 40 arz (au 41 ary (au 42 arx (au 43 arw (au 44 arv (au 45 aru (au 46 art (au 47 ars (au 48 arq (au 49 arp (au 50 aro (au 51 arn (au 52 arm (au 53 arl (au 55 ark (au 57 arj (au 59 ari (au 61 arh (au 62 arf (au 63 ard (au 64 arc (au 65 arb (au 66 ara (au 67 aq9 (au 68 aq8 (au 69 aq7 (au 71 aq6 (au 72 aq5 (au 73 aq4 (au 74 aq3 (au 75 aq2 (au 76 aq1 (au 77 aq0 (au 78 aqZ (au 79 aqY (au 80 aqX (au 81 aqW (au 82 aqV (au 83 aqU (au 84 aqT (au 85 aqS (au 86 aqR (au 87 aqQ (au 89 aqP (au 90 aqO (au 91 aqN (au 92 aqM (au 94 aqL (au 95 aqK (au 96 aqJ (au 97 aqI (au 98 aqH (au 99 aqG (au 100 aiK (au 101 aiJ (au 102 aiI (au 103 aiH (au 105 aiG (au 106 aiF (au 107 aiE (au 108 aiD (au 109 aiC (au 110 aiB (au 111 aiA (au 112 aiz (au 113 aiy (au 114 aix (au 115 aiw (au 116 aiv (au 117 aiu (au 119 ait (au 120 ais (au 121 air (au 122 aiq (au 123 aip (au 124 aio (au 125 ain (au 126 aim (au 127 ail (au 128 aik (au 129 aij (au 131 aii (au 132 aih (au 133 aif (au 134 aie (au 135 aid (au 136 aic (au 137 aib (au 138 aia (au 140 ah9 (au 141 ah8 (au 142 ah7 (au 143 ah6 (au 144 ah5 (au 145 ah4 (au 146 ah3 (au 147 ah2 (au 148 ah1 (au 149 ah0 (au 150 ahZ (au 151 ahY (au 152 ahX (au 153 ahW (au 154 ahV (au 155 ahU (au 156 ahT (au 158 ahS (au 159 ahR (au 160 ahQ (au 161 ahP (au 162 ahO (au 163 ahN (au 164 ahM (au 165 ahL (au 166 ahK (au 168 ahJ (au 170 ahI (au 171 ahH (au 172 ahG (au 173 ahF (au 174 ahE (au 175 ahD (au 176 ahC (au 177 ahB (au 178 ahA (au 179 ahz (au 180 ahy (au 181 ahx (au 182 ahw (au 183 ahv (au 185 ahu (au 186 aht (au 187 ahs (au 188 ahr (au 189 ahq (au 190 ahp (au 191 aho (au 192 ahn (au 193 ahm (au 194 ahl (au 195 ahk (au 196 ahj (au 197 ahi (au 198 ahh (au 199 ahg (au 200 ahf (au 201 ahe (au 202 ahd (au 203 ahc (au 204 ahb (au 205 aha (au 206 ag9 (au 207 ag8 (au 208 ag7 (au 209 ag6 (au 210 ag5 (au 211 ag4 (au 214 ag3 (au 217 ag2 (au 218 ag1 (au 219 ag0 (au 220 agZ (au 221 agY (au 222 agX (au 223 agW (au 226 agV (au 227 agU (au 228 agT (au 229 agS aIv))))))))))))))))))))))))))))))))))))))))))))))))))))))))))))))))))))))))))))))))))))))))))))))))))))))))))))))))))))))))))))))))))))))))))))))))))))))))))))))))))))))))))))))))))))))))))))))))))))))))))
theorem ar:mZ Tryz.prog te:=(ab aIu (ab aIt (ab aIs (ab aIr (ab aIq (ab aIp (ab aIo (ab aIn (ab aIm (ab aE8 (ab aE7 (ab aE6 (ab aE5 (ab aE4 (ab aE3 (ab aE2 (ab aE1 (ab aE0 (ab aEZ (ab aEY (ab aEX (ab aEW (ab aEV (ab aEU (ab aET (ab aES (ab aER (ab aEQ (ab aEP (ab aEO (ab aEN (ab aEM (ab aEL (ab aEK (ab aEJ (ab aEI (ab aEH (ab aEG (ab aEF (ab aEE (ab aED (ab aEC (ab aEB (ab aEA (ab aEz (ab aEy (ab aEx (ab aEw (ab aEv (ab aEu (ab aEt (ab aEs (ab aEr (ab aEq (ab aEp (ab aEo (ab aEn (ab aEm (ab aEl (ab aEk (ab aEj (ab aEi (ab aEh (ab aEg (ab aEf (ab aEe (ab aEd (ab aEc (ab aEb (ab aEa (ab aD9 (ab aD8 (ab aD7 (ab aD6 (ab aD5 (ab aD4 (ab aD3 (ab aD2 (ab aD1 (ab aD0 (ab aDZ (ab aDY (ab aDX (ab aDW (ab aDV (ab aDU (ab azz (ab azy (ab azx (ab azw (ab azv (ab azu (ab azt (ab azs (ab azr (ab azq (ab azp (ab azo (ab azn (ab azm (ab azl (ab azk (ab azj (ab azi (ab azh (ab azg (ab azf (ab aze (ab azd (ab azc (ab azb (ab aza (ab ay9 (ab ay8 (ab ay7 (ab ay6 (ab ay5 (ab ay4 (ab ay3 (ab ay2 (ab ay1 (ab ay0 (ab ayZ (ab ayY (ab ayX (ab ayW (ab ayV (ab ayU (ab ayT (ab ayS (ab ayR (ab ayQ (ab ayP (ab ayO (ab ayN (ab ayM (ab ayL (ab ayK (ab ayJ (ab ayI (ab ayH (ab ayG (ab ayF (ab ayE (ab ayD (ab ayC (ab ayB (ab ayA (ab ayz (ab ayy (ab ayx (ab ayw (ab ayv (ab ayu (ab ayt (ab ays (ab ayr (ab ayq (ab ayp (ab ayo (ab ayn (ab aym (ab ayl (ab ayk (ab ayj (ab ayi (ab ayh (ab ayg (ab ayf (ab aye (ab ayd (ab ayc (ab ayb (ab aya (ab ax9 (ab ax8 (ab ax7 (ab ax6 (ab ax5 (ab ax4 (ab ax3 (ab ax2 (ab ax1 (ab ax0 (ab axZ (ab axY (ab axX (ab axW (ab axV (ab axU (ab axT (ab axS (ab axR (ab axQ (ab axP (ab axO (ab axN (ab axM (ab axL (ab axK (ab axJ (ab axI azA))))))))))))))))))))))))))))))))))))))))))))))))))))))))))))))))))))))))))))))))))))))))))))))))))))))))))))))))))))))))))))))))))))))))))))))))))))))))))))))))))))))))))))))))))))))))))))))))))))))))))
theorem follows:Tryz.prog.follows .mixedOrders=true:=by kernel_rfl
def E0:Env:=avV
theorem aCw:aQ Tryz.prog E0:=avU
theorem axs:ax E0:=afi
theorem aDu:aW Tryz.prog te E0:=aL follows ar aCw axs
end Go.Proofs.YtohjofabochgfaaGreat

namespace Go.Proofs.YtohjofabochgfaaGreat
open Sx Go
def kP (b:List UInt8) (k:Nat):UInt64:=(List.range k).foldl (λv (i:Nat)=>v|||bR (UInt8.toUInt64 (b.getD i 0)) (8*(i:Int))) 0
theorem PP (b:List UInt8) (k:Nat):kP b (k+1)=kP b k|||bR (UInt8.toUInt64 (b.getD k 0)) (8*(k:Int)):=by
 simp [kP,List.range_succ]
end Go.Proofs.YtohjofabochgfaaGreat

namespace Go.Proofs.YtohjofabochgfaaGreat
open Sx Go
set_option maxRecDepth 100000
def mJ:aw:=⟨[.val false (.list .u8)],[],true,0,false⟩
abbrev R7:Type:=((List (UInt8))×Unit)×(Unit)
def CF:Shape:=⟨22,[(3,.val false .u64),(6,.val false (.list .u8)),(7,.val false .int),(8,.val false .int)],[],0,true⟩
abbrev dw:Type:=((UInt64)×(List (UInt8))×(Int)×(Int)×Unit)×(Unit)
def xj:Shape:=⟨22,[(3,.val false .u64)],[],0,true⟩
abbrev mI:Type:=((UInt64)×Unit)×(Unit)
def alh:SE->Option Shape:=fc [(0,xj)] none
def VV (a3:UInt64) (a6:List (UInt8)) (a7:Int) (a8:Int):OT (Sum dw aE):=
 (.br (decide (a8<a7))
 (gd [inB a8 (List.length a6),inR ((8:Int)*a8),decide ((0:Int)<=(8:Int)*a8),inR (a8+(1:Int))] (.ok (.inl ((a3|||bR (UInt8.toUInt64 (List.getD a6 (Int.toNat a8) (0:UInt8))) ((8:Int)*a8),(a6,(a7,(a8+(1:Int),())))),()))))
 (.ok (.inr ⟨(.exit 0,xj),((a3,()),())⟩)))
def rF (s:dw):OT (Sum dw aE):=VV (s.1.1) (s.1.2.1) (s.1.2.2.1) (s.1.2.2.2.1)
theorem aBY (s:dw) (Q:Sum dw aE->Prop):wps te E0 av 1000 (aU (aj Tryz.f127) 0) (CF.inj s) (bU CF alh (Q:Sum CF.T aE->Prop))=(rF s).wpR Q:=by kernel_rfl
def I9 (g0_0:dw->mI) (s:dw):OT aE:=(.ok ⟨(.exit 0,xj),g0_0 s⟩)
def VU:az:=⟨[.val false .u64],[],false⟩
def aaQ:SV->Option az:=λ_=>some VU
def afC (ok0:dw->Bool) (g0_0:dw->mI) (a0:List (UInt8)):OT mJ.Y:=
 let z0:(UInt64×List UInt8×Int×Int×PUnit)×PUnit:=(((0:UInt64),a0,(↑(List.length a0):Int),(0:Int),()),())
 (gd [ok0 z0] (.ok ⟨VU,(((g0_0 z0).fst.fst,()),())⟩))
theorem aHv (ok0:dw->Bool) (g0_0:dw->mI) (x:R7) (Q:mJ.Y->Prop):wpf te E0 (aO 0 (cf CF 0 ok0 (I9 g0_0)) av) 1000 Tryz.f127 (mJ.inp.inj x).tm (mJ.inp.inj x).hp (fnK mJ aaQ Q) (λ_ _=>False)=(afC ok0 g0_0 (x.1.1)).wpR Q:=by kernel_rfl
theorem apq (ok0:dw->Bool) (g0_0:dw->mI) (h0:∀ s:dw,ok0 s=true->∃ m e,al (rF) m s=some e/\(I9 g0_0 s).run=some e) (pre:R7->Bool) (F:R7->OT mJ.Y) (hF:∀ (x:R7) oy,pre x=true->(F x).run=some oy->(afC ok0 g0_0 (x.1.1)).run=some oy):ac Tryz.prog 127 (mJ.aI pre F):=
 aD ar aCw aDu (f:=127) (fn:=Tryz.f127) (c:=aj Tryz.f127) (by kernel_rfl) (by kernel_rfl) (by kernel_rfl) (S:=mJ) (k:=0) (by kernel_rfl) (λR hR=>(aA (c:=(aj Tryz.f127)) (by kernel_rfl) (id:=0) (by kernel_rfl) (aP ar aCw aDu (sh:=CF) hR (xs:=alh) (aC (by kernel_rfl) (by kernel_rfl) hR) aM af (n:=1000) (T:=rF) (λs Q=>aBY s Q) (ok:=ok0) (f:=I9 g0_0) h0) af)) (n:=1000) (sel:=aaQ) (λv o h=>by cases h;rfl) (pre:=pre) (F:=F) (T:=λx=>afC ok0 g0_0 (x.1.1)) (λx Q=>aHv ok0 g0_0 x Q) hF
def aaR (s:dw):Bool:=decide (s.1.1=0/\s.1.2.2.1=(s.1.2.1.length:Int)/\s.1.2.2.2.1=0/\s.1.2.1.length<=4096)
def ali (s:dw):mI:=((kP s.1.2.1 s.1.2.1.length,()),())
theorem aB0:∀ s,aaR s=true->∃ m e,al rF m s=some e/\(I9 ali s).run=some e:=by
 rintro ⟨⟨v,b,n,i,⟨⟩⟩,⟨⟩⟩ h
 have h':=of_decide_eq_true h
 dsimp only at h'
 obtain ⟨rfl,rfl,rfl,hl⟩:=h'
 have:=zC (T:=rF) (λk=>((kP b k,b,(b.length:Int),(k:Int),()),())) b.length (e:=⟨(.exit 0,xj),((kP b b.length,()),())⟩) (λk hk=> ?_) ?_ 0 (Nat.zero_le _)
 ·obtain ⟨m,hm⟩:=this
  exact ⟨m,_,hm,rfl⟩
 ·unfold rF VV
  dsimp only
  rw [OT.ao (decide_eq_true (by omega)),ah (by simp;exact ⟨aN (by omega),aH (by omega),by omega,aH (by omega)⟩),OT.cT,PP]
  rfl
 ·unfold rF VV
  dsimp only
  rw [OT.aq (decide_eq_false (by omega)),OT.cT]
def mH (x:R7):Bool:=decide (x.1.1.length<=4096)
def awC (x:R7):OT mJ.Y:=.ok ⟨VU,((kP x.1.1 x.1.1.length,()),())⟩
theorem aBZ:ac Tryz.prog 127 (mJ.aI mH awC):=apq aaR ali aB0 _ _ λx oy hp ho=>by
 rw [<-ho]
 have hp':=of_decide_eq_true hp
 refine (OT.ao ?_).trans ?_
 ·exact decide_eq_true ⟨rfl,rfl,rfl,hp'⟩
 ·rfl
def F2:cj:=(mJ.aI mH awC)
theorem afB:ac Tryz.prog 127 F2:=aBZ
theorem afA:aG F2:=aB
def OO:Env:=ay 127 F2 E0
theorem GQ:aQ Tryz.prog OO:=ag afB aCw
theorem Ib:ax OO:=ae afA axs
theorem agy:aW Tryz.prog te OO:=aL follows ar GQ Ib
def sM:aw:=⟨[.val false .u64,.val false .int],[],true,0,false⟩
abbrev amh:Type:=((UInt64)×(Int)×Unit)×(Unit)
def acS:az:=⟨[.val false .u64],[],false⟩
def aiZ:SV->Option az:=λ_=>some acS
def aso (a0:UInt64) (a1:Int):OT sM.Y:=
 (.ok ⟨acS,((bR a0 (↑(UInt64.toNat (i2u a1&&&(63:UInt64))):Int)|||bm a0 (↑(UInt64.toNat ((64:UInt64)-(i2u a1&&&(63:UInt64)))):Int),()),())⟩)
theorem aIB (x:amh) (Q:sM.Y->Prop):wpf te OO av 1000 Tryz.f167 (sM.inp.inj x).tm (sM.inp.inj x).hp (fnK sM aiZ Q) (λ_ _=>False)=(aso (x.1.1) (x.1.2.1)).wpR Q:=by kernel_rfl
theorem asn (pre:amh->Bool) (F:amh->OT sM.Y) (hF:∀ (x:amh) oy,pre x=true->(F x).run=some oy->(aso (x.1.1) (x.1.2.1)).run=some oy):ac Tryz.prog 167 (sM.aI pre F):=
 aD ar GQ agy (f:=167) (fn:=Tryz.f167) (c:=aj Tryz.f167) (by kernel_rfl) (by kernel_rfl) (by kernel_rfl) (S:=sM) (k:=0) (by kernel_rfl) (λR hR=>af) (n:=1000) (sel:=aiZ) (λv o h=>by cases h;rfl) (pre:=pre) (F:=F) (T:=λx=>aso (x.1.1) (x.1.2.1)) (λx Q=>aIB x Q) hF
def rotl (a:UInt64) (n:Int):UInt64:=bR a (UInt64.toNat (i2u n&&&63):Int)|||bm a (UInt64.toNat (64-(i2u n&&&63)):Int)
def ai0 (_:amh):Bool:=true
def aCO (x:amh):OT sM.Y:=.ok ⟨acS,((rotl x.1.1 x.1.2.1,()),())⟩
theorem aFu:ac Tryz.prog 167 (sM.aI ai0 aCO):=asn _ _ λx oy _ ho=>ho
def JN:cj:=(sM.aI ai0 aCO)
theorem amg:ac Tryz.prog 167 JN:=aFu
theorem amf:aG JN:=aB
def abw:Env:=ay 167 JN OO
theorem NH:aQ Tryz.prog abw:=ag amg GQ
theorem NI:ax abw:=ae amf Ib
theorem apO:aW Tryz.prog te abw:=aL follows ar NH NI
def uO:aw:=⟨[.val false .u8],[],true,0,false⟩
abbrev apy:Type:=((UInt8)×Unit)×(Unit)
def V3:az:=⟨[.val false .int],[],false⟩
def alq:SV->Option az:=λ_=>some V3
def awN (a0:UInt8):OT uO.Y:=
 (.br (decide ((97:UInt8)<=a0))
 (gd [inR ((↑(UInt8.toNat (a0-(97:UInt8))):Int)+(10:Int))] (.ok ⟨V3,(((↑(UInt8.toNat (a0-(97:UInt8))):Int)+(10:Int),()),())⟩))
 (.ok ⟨V3,(((↑(UInt8.toNat (a0-(48:UInt8))):Int),()),())⟩))
theorem aJF (x:apy) (Q:uO.Y->Prop):wpf te abw av 1000 Tryz.f158 (uO.inp.inj x).tm (uO.inp.inj x).hp (fnK uO alq Q) (λ_ _=>False)=(awN (x.1.1)).wpR Q:=by kernel_rfl
theorem awM (pre:apy->Bool) (F:apy->OT uO.Y) (hF:∀ (x:apy) oy,pre x=true->(F x).run=some oy->(awN (x.1.1)).run=some oy):ac Tryz.prog 158 (uO.aI pre F):=
 aD ar NH apO (f:=158) (fn:=Tryz.f158) (c:=aj Tryz.f158) (by kernel_rfl) (by kernel_rfl) (by kernel_rfl) (S:=uO) (k:=0) (by kernel_rfl) (λR hR=>af) (n:=1000) (sel:=alq) (λv o h=>by cases h;rfl) (pre:=pre) (F:=F) (T:=λx=>awN (x.1.1)) (λx Q=>aJF x Q) hF
def nib (c:UInt8):Int:=if 97<=c then (UInt8.toNat (c-97):Int)+10 else (UInt8.toNat (c-48):Int)
def alr (_:apy):Bool:=true
def als (x:apy):OT uO.Y:=.ok ⟨V3,((nib x.1.1,()),())⟩
theorem aHC:ac Tryz.prog 158 (uO.aI alr als):=awM _ _ λx oy _ ho=>by
 rw [<-ho]
 have hlt:=(x.1.1-97).toNat_lt
 by_cases h:97<=x.1.1
 ·refine (OT.ao (decide_eq_true h)).trans ((ah (by simp;exact aH (by omega))).trans ?_)
  simp only [als,nib,if_pos h]
 ·refine (OT.aq (decide_eq_false h)).trans ?_
  simp only [als,nib,if_neg h]
def Na:cj:=(uO.aI alr als)
theorem apx:ac Tryz.prog 158 Na:=aHC
theorem apw:aG Na:=aB
def ab1:Env:=ay 158 Na abw
theorem OR:aQ Tryz.prog ab1:=ag apx NH
theorem OS:ax ab1:=ae apw NI
theorem ap4:aW Tryz.prog te ab1:=aL follows ar OR OS
def jq:aw:=⟨[],[],true,0,false⟩
abbrev F5:Type:=(Unit)×(Unit)
def M8:az:=⟨[.val true (.arr 8 .u64)],[],false⟩
def R9:SV->Option az:=λ_=>some M8
def V1:OT jq.Y:=
 (.ok ⟨M8,(([(7640891576956012808:UInt64),(13503953896175478587:UInt64),(4354685564936845355:UInt64),(11912009170470909681:UInt64),(5840696475078001361:UInt64),(11170449401992604703:UInt64),(2270897969802886507:UInt64),(6620516959819538809:UInt64)],()),())⟩)
theorem aB2 (x:F5) (Q:jq.Y->Prop):wpf te ab1 av 1000 Tryz.f126 (jq.inp.inj x).tm (jq.inp.inj x).hp (fnK jq R9 Q) (λ_ _=>False)=(V1).wpR Q:=by kernel_rfl
theorem afM (pre:F5->Bool) (F:F5->OT jq.Y) (hF:∀ (x:F5) oy,pre x=true->(F x).run=some oy->(V1).run=some oy):ac Tryz.prog 126 (jq.aI pre F):=
 aD ar OR ap4 (f:=126) (fn:=Tryz.f126) (c:=aj Tryz.f126) (by kernel_rfl) (by kernel_rfl) (by kernel_rfl) (S:=jq) (k:=0) (by kernel_rfl) (λR hR=>af) (n:=1000) (sel:=R9) (λv o h=>by cases h;rfl) (pre:=pre) (F:=F) (T:=λx=>V1) (λx Q=>aB2 x Q) hF
def bIV:List UInt64:= [0x6a09e667f3bcc908,0xbb67ae8584caa73b,0x3c6ef372fe94f82b,0xa54ff53a5f1d36f1,0x510e527fade682d1,0x9b05688c2b3e6c1f,0x1f83d9abfb41bd6b,0x5be0cd19137e2179]
def Sa (_:F5):Bool:=true
def alm (_:F5):OT jq.Y:=.ok ⟨M8,((bIV,()),())⟩
theorem awK:ac Tryz.prog 126 (jq.aI Sa alm):=afM _ _ λx oy _ ho=>ho
def zV:cj:=(jq.aI Sa alm)
theorem aaW:ac Tryz.prog 126 zV:=awK
theorem aaV:aG zV:=aB
def DY:Env:=ay 126 zV ab1
theorem As:aQ Tryz.prog DY:=ag aaW OR
theorem DX:ax DY:=ae aaV OS
theorem abZ:aW Tryz.prog te DY:=aL follows ar As DX
def jr:aw:=⟨[],[],true,0,false⟩
abbrev F6:Type:=(Unit)×(Unit)
def M9:az:=⟨[.val true (.arr 10 .str)],[],false⟩
def Sb:SV->Option az:=λ_=>some M9
def V2:OT jr.Y:=
 (.ok ⟨M9,(([[(48:UInt8),(49:UInt8),(50:UInt8),(51:UInt8),(52:UInt8),(53:UInt8),(54:UInt8),(55:UInt8),(56:UInt8),(57:UInt8),(97:UInt8),(98:UInt8),(99:UInt8),(100:UInt8),(101:UInt8),(102:UInt8)],[(101:UInt8),(97:UInt8),(52:UInt8),(56:UInt8),(57:UInt8),(102:UInt8),(100:UInt8),(54:UInt8),(49:UInt8),(99:UInt8),(48:UInt8),(50:UInt8),(98:UInt8),(55:UInt8),(53:UInt8),(51:UInt8)],[(98:UInt8),(56:UInt8),(99:UInt8),(48:UInt8),(53:UInt8),(50:UInt8),(102:UInt8),(100:UInt8),(97:UInt8),(101:UInt8),(51:UInt8),(54:UInt8),(55:UInt8),(49:UInt8),(57:UInt8),(52:UInt8)],[(55:UInt8),(57:UInt8),(51:UInt8),(49:UInt8),(100:UInt8),(99:UInt8),(98:UInt8),(101:UInt8),(50:UInt8),(54:UInt8),(53:UInt8),(97:UInt8),(52:UInt8),(48:UInt8),(102:UInt8),(56:UInt8)],[(57:UInt8),(48:UInt8),(53:UInt8),(55:UInt8),(50:UInt8),(52:UInt8),(97:UInt8),(102:UInt8),(101:UInt8),(49:UInt8),(98:UInt8),(99:UInt8),(54:UInt8),(56:UInt8),(51:UInt8),(100:UInt8)],[(50:UInt8),(99:UInt8),(54:UInt8),(97:UInt8),(48:UInt8),(98:UInt8),(56:UInt8),(51:UInt8),(52:UInt8),(100:UInt8),(55:UInt8),(53:UInt8),(102:UInt8),(101:UInt8),(49:UInt8),(57:UInt8)],[(99:UInt8),(53:UInt8),(49:UInt8),(102:UInt8),(101:UInt8),(100:UInt8),(52:UInt8),(97:UInt8),(48:UInt8),(55:UInt8),(54:UInt8),(51:UInt8),(57:UInt8),(50:UInt8),(56:UInt8),(98:UInt8)],[(100:UInt8),(98:UInt8),(55:UInt8),(101:UInt8),(99:UInt8),(49:UInt8),(51:UInt8),(57:UInt8),(53:UInt8),(48:UInt8),(102:UInt8),(52:UInt8),(56:UInt8),(54:UInt8),(50:UInt8),(97:UInt8)],[(54:UInt8),(102:UInt8),(101:UInt8),(57:UInt8),(98:UInt8),(51:UInt8),(48:UInt8),(56:UInt8),(99:UInt8),(50:UInt8),(100:UInt8),(55:UInt8),(49:UInt8),(52:UInt8),(97:UInt8),(53:UInt8)],[(97:UInt8),(50:UInt8),(56:UInt8),(52:UInt8),(55:UInt8),(54:UInt8),(49:UInt8),(53:UInt8),(102:UInt8),(98:UInt8),(57:UInt8),(101:UInt8),(51:UInt8),(99:UInt8),(100:UInt8),(48:UInt8)]],()),())⟩)
theorem aB3 (x:F6) (Q:jr.Y->Prop):wpf te DY av 1000 Tryz.f156 (jr.inp.inj x).tm (jr.inp.inj x).hp (fnK jr Sb Q) (λ_ _=>False)=(V2).wpR Q:=by kernel_rfl
theorem afN (pre:F6->Bool) (F:F6->OT jr.Y) (hF:∀ (x:F6) oy,pre x=true->(F x).run=some oy->(V2).run=some oy):ac Tryz.prog 156 (jr.aI pre F):=
 aD ar As abZ (f:=156) (fn:=Tryz.f156) (c:=aj Tryz.f156) (by kernel_rfl) (by kernel_rfl) (by kernel_rfl) (S:=jr) (k:=0) (by kernel_rfl) (λR hR=>af) (n:=1000) (sel:=Sb) (λv o h=>by cases h;rfl) (pre:=pre) (F:=F) (T:=λx=>V2) (λx Q=>aB3 x Q) hF
def gP:List (List UInt8):= [[48,49,50,51,52,53,54,55,56,57,97,98,99,100,101,102],
 [101,97,52,56,57,102,100,54,49,99,48,50,98,55,53,51],
 [98,56,99,48,53,50,102,100,97,101,51,54,55,49,57,52],
 [55,57,51,49,100,99,98,101,50,54,53,97,52,48,102,56],
 [57,48,53,55,50,52,97,102,101,49,98,99,54,56,51,100],
 [50,99,54,97,48,98,56,51,52,100,55,53,102,101,49,57],
 [99,53,49,102,101,100,52,97,48,55,54,51,57,50,56,98],
 [100,98,55,101,99,49,51,57,53,48,102,52,56,54,50,97],
 [54,102,101,57,98,51,48,56,99,50,100,55,49,52,97,53],
 [97,50,56,52,55,54,49,53,102,98,57,101,51,99,100,48]]
def Sc (_:F6):Bool:=true
def aln (_:F6):OT jr.Y:=.ok ⟨M9,((gP,()),())⟩
theorem awL:ac Tryz.prog 156 (jr.aI Sc aln):=afN _ _ λx oy _ ho=>ho
def zW:cj:=(jr.aI Sc aln)
theorem aaY:ac Tryz.prog 156 zW:=awL
theorem aaX:aG zW:=aB
def D0:Env:=ay 156 zW DY
theorem Au:aQ Tryz.prog D0:=ag aaY As
theorem DZ:ax D0:=ae aaX DX
theorem ab0:aW Tryz.prog te D0:=aL follows ar Au DZ
def uQ:aw:=⟨[.ptr 0 0 0,.val false .int,.val false .int,.val false .int,.val false .int,.val false .u64,.val false .u64],[(0,.row .u64)],false,1,true⟩
abbrev apE:Type:=((Unit)×(Int)×(Int)×(Int)×(Int)×(UInt64)×(UInt64)×Unit)×((List (UInt64))×Unit)
def afQ:az:=⟨[],[(0,.row .u64)],false⟩
def alu:SV->Option az:=λ_=>some afQ
def awR (a1:Int) (a2:Int) (a3:Int) (a4:Int) (a5:UInt64) (a6:UInt64) (c0:List (UInt64)):OT uQ.Y:=
 let z0:Bool:=inB a1 16
 let z1:Nat:=List.length c0
 let z2:Bool:=decide (Int.toNat a1+0<z1)
 let z3:Bool:=inB a2 16
 let z4:Bool:=inB a4 16
 let z5:List UInt64:=List.set c0 (Int.toNat a1+0) (List.getD c0 (Int.toNat a1+0) (0:UInt64)+(List.getD c0 (Int.toNat a2+0) (0:UInt64)+a5))
 let z6:Nat:=List.length z5
 let z7:Bool:=decide (Int.toNat a4+0<z6)
 let z8:Bool:=inB a3 16
 let z9:List UInt64:=List.set z5 (Int.toNat a4+0) (rotl (List.getD z5 (Int.toNat a4+0) (0:UInt64)^^^List.getD z5 (Int.toNat a1+0) (0:UInt64)) (-32:Int))
 let z10:Nat:=List.length z9
 let z11:Bool:=decide (Int.toNat a3+0<z10)
 let z12:List UInt64:=List.set z9 (Int.toNat a3+0) (List.getD z9 (Int.toNat a3+0) (0:UInt64)+List.getD z9 (Int.toNat a4+0) (0:UInt64))
 let z13:Nat:=List.length z12
 let z14:Bool:=decide (Int.toNat a2+0<z13)
 let z15:List UInt64:=List.set z12 (Int.toNat a2+0) (rotl (List.getD z12 (Int.toNat a2+0) (0:UInt64)^^^List.getD z12 (Int.toNat a3+0) (0:UInt64)) (-24:Int))
 let z16:Nat:=List.length z15
 let z17:Bool:=decide (Int.toNat a1+0<z16)
 let z18:List UInt64:=List.set z15 (Int.toNat a1+0) (List.getD z15 (Int.toNat a1+0) (0:UInt64)+(List.getD z15 (Int.toNat a2+0) (0:UInt64)+a6))
 let z19:Nat:=List.length z18
 let z20:Bool:=decide (Int.toNat a4+0<z19)
 let z21:List UInt64:=List.set z18 (Int.toNat a4+0) (rotl (List.getD z18 (Int.toNat a4+0) (0:UInt64)^^^List.getD z18 (Int.toNat a1+0) (0:UInt64)) (-16:Int))
 let z22:Nat:=List.length z21
 let z23:Bool:=decide (Int.toNat a3+0<z22)
 let z24:List UInt64:=List.set z21 (Int.toNat a3+0) (List.getD z21 (Int.toNat a3+0) (0:UInt64)+List.getD z21 (Int.toNat a4+0) (0:UInt64))
 let z25:Nat:=List.length z24
 let z26:Bool:=decide (Int.toNat a2+0<z25)
 (gd [z0,z2,z3,decide (Int.toNat a2+0<z1),z0,z2,z4,z7,z0,decide (Int.toNat a1+0<z6),z4,z7,z8,z11,z4,decide (Int.toNat a4+0<z10),z8,z11,z3,z14,z8,decide (Int.toNat a3+0<z13),z3,z14,z0,z17,z3,decide (Int.toNat a2+0<z16),z0,z17,z4,z20,z0,decide (Int.toNat a1+0<z19),z4,z20,z8,z23,z4,decide (Int.toNat a4+0<z22),z8,z23,z3,z26,z8,decide (Int.toNat a3+0<z25),z3,z26] (.ok ⟨afQ,((),(List.set z24 (Int.toNat a2+0) (rotl (List.getD z24 (Int.toNat a2+0) (0:UInt64)^^^List.getD z24 (Int.toNat a3+0) (0:UInt64)) (-63:Int)),()))⟩))
theorem aJH (x:apE) (Q:uQ.Y->Prop):wpf te D0 av 1000 Tryz.f159 (uQ.inp.inj x).tm (uQ.inp.inj x).hp (fnK uQ alu Q) (λ_ _=>False)=(awR (x.1.2.1) (x.1.2.2.1) (x.1.2.2.2.1) (x.1.2.2.2.2.1) (x.1.2.2.2.2.2.1) (x.1.2.2.2.2.2.2.1) (x.2.1)).wpR Q:=by kernel_rfl
theorem awQ (pre:apE->Bool) (F:apE->OT uQ.Y) (hF:∀ (x:apE) oy,pre x=true->(F x).run=some oy->(awR (x.1.2.1) (x.1.2.2.1) (x.1.2.2.2.1) (x.1.2.2.2.2.1) (x.1.2.2.2.2.2.1) (x.1.2.2.2.2.2.2.1) (x.2.1)).run=some oy):ac Tryz.prog 159 (uQ.aI pre F):=
 aD ar Au ab0 (f:=159) (fn:=Tryz.f159) (c:=aj Tryz.f159) (by kernel_rfl) (by kernel_rfl) (by kernel_rfl) (S:=uQ) (k:=1) (by kernel_rfl) (λR hR=>af) (n:=1000) (sel:=alu) (λv o h=>by cases h;rfl) (pre:=pre) (F:=F) (T:=λx=>awR (x.1.2.1) (x.1.2.2.1) (x.1.2.2.2.1) (x.1.2.2.2.2.1) (x.1.2.2.2.2.2.1) (x.1.2.2.2.2.2.2.1) (x.2.1)) (λx Q=>aJH x Q) hF
def Ce (v:List UInt64) (a b c d:Nat) (x y:UInt64):List UInt64:=
 let v1:=v.set a (v.getD a 0+(v.getD b 0+x))
 let v2:=v1.set d (rotl (v1.getD d 0^^^v1.getD a 0) (-32))
 let v3:=v2.set c (v2.getD c 0+v2.getD d 0)
 let v4:=v3.set b (rotl (v3.getD b 0^^^v3.getD c 0) (-24))
 let v5:=v4.set a (v4.getD a 0+(v4.getD b 0+y))
 let v6:=v5.set d (rotl (v5.getD d 0^^^v5.getD a 0) (-16))
 let v7:=v6.set c (v6.getD c 0+v6.getD d 0)
 v7.set b (rotl (v7.getD b 0^^^v7.getD c 0) (-63))
theorem gg (v:List UInt64) (a b c d:Nat) (x y:UInt64):(Ce v a b c d x y).length=v.length:=by
 simp only [Ce,List.length_set]
def rH (x:apE):Bool:=inB x.1.2.1 16&&inB x.1.2.2.1 16&&inB x.1.2.2.2.1 16&&inB x.1.2.2.2.2.1 16&&decide (x.2.1.length=16)
def aDo (x:apE):OT uQ.Y:=.ok ⟨afQ,((),(Ce x.2.1 x.1.2.1.toNat x.1.2.2.1.toNat x.1.2.2.2.1.toNat x.1.2.2.2.2.1.toNat x.1.2.2.2.2.2.1 x.1.2.2.2.2.2.2.1,()))⟩
theorem aHE:ac Tryz.prog 159 (uQ.aI rH aDo):=awQ _ _ λx oy hp ho=>by
 rw [<-ho]
 obtain ⟨⟨⟨⟩,a,b,c,d,x,y,⟨⟩⟩,⟨v,⟨⟩⟩⟩:=x
 simp only [rH,Bool.and_eq_true,decide_eq_true_eq] at hp
 obtain ⟨⟨⟨⟨ha,hb⟩,hc⟩,hd⟩,hv⟩:=hp
 have na:=ym ha
 have nb:=ym hb
 have nc:=ym hc
 have nd:=ym hd
 refine (ah ?_).trans rfl
 simp only [List.length_set,hv,ha,hb,hc,hd,Nat.add_zero,na,nb,nc,nd,decide_true,List.all_cons,List.all_nil,Bool.and_self]
def Ng:cj:=(uQ.aI rH aDo)
theorem apD:ac Tryz.prog 159 Ng:=aHE
theorem apC:aG Ng:=aB
def ab3:Env:=ay 159 Ng D0
theorem OV:aQ Tryz.prog ab3:=ag apD Au
theorem OW:ax ab3:=ae apC DZ
theorem ap5:aW Tryz.prog te ab3:=aL follows ar OV OW
def Nr:aw:=⟨[.val false .int,.ptr 0 0 0,.ptr 1 0 0],[(0,.row .u64),(1,.cells [.val false .str])],false,2,true⟩
abbrev aH3:Type:=((Int)×(Unit)×(Unit)×Unit)×((List (UInt64))×((List UInt8)×Unit)×Unit)
def aw8:az:=⟨[.val false .u64],[(0,.row .u64),(1,.cells [.val false .str])],false⟩
def aw7:SV->Option az:=λ_=>some aw8
def aHH (a0:Int) (c0:List (UInt64)) (c1_0:List UInt8):OT Nr.Y:=
 let z0:Int:=nib (List.getD c1_0 (Int.toNat a0) (0:UInt8))
 (gd [inB a0 (List.length c1_0),inB z0 16,decide (Int.toNat z0+0<List.length c0)] (.ok ⟨aw8,((List.getD c0 (Int.toNat z0+0) (0:UInt64),()),(c0,((c1_0,()),())))⟩))
theorem aKz (x:aH3) (Q:Nr.Y->Prop):wpf te ab3 av 1000 Tryz.f157 (Nr.inp.inj x).tm (Nr.inp.inj x).hp (fnK Nr aw7 Q) (λ_ _=>False)=(aHH (x.1.1) (x.2.1) (x.2.2.1.1)).wpR Q:=by kernel_rfl
theorem aCp (pre:aH3->Bool) (F:aH3->OT Nr.Y) (hF:∀ (x:aH3) oy,pre x=true->(F x).run=some oy->(aHH (x.1.1) (x.2.1) (x.2.2.1.1)).run=some oy):ac Tryz.prog 157 (Nr.aI pre F):=
 aD ar OV ap5 (f:=157) (fn:=Tryz.f157) (c:=aj Tryz.f157) (by kernel_rfl) (by kernel_rfl) (by kernel_rfl) (S:=Nr) (k:=2) (by kernel_rfl) (λR hR=>af) (n:=1000) (sel:=aw7) (λv o h=>by cases h;rfl) (pre:=pre) (F:=F) (T:=λx=>aHH (x.1.1) (x.2.1) (x.2.2.1.1)) (λx Q=>aKz x Q) hF
def atF (m:List UInt64) (row:List UInt8) (i:Int):UInt64:=m.getD (nib (row.getD i.toNat 0)).toNat 0
def rL (x:aH3):Bool:=inB x.1.1 x.2.2.1.1.length&&inB (nib (x.2.2.1.1.getD x.1.1.toNat 0)) 16&&decide (x.2.1.length=16)
def aJK (x:aH3):OT Nr.Y:=.ok ⟨aw8,((atF x.2.1 x.2.2.1.1 x.1.1,()),(x.2.1,((x.2.2.1.1,()),())))⟩
theorem aJJ:ac Tryz.prog 157 (Nr.aI rL aJK):=aCp _ _ λx oy hp ho=>by
 rw [<-ho]
 obtain ⟨⟨i,⟨⟩,⟨⟩,⟨⟩⟩,⟨m,⟨row,⟨⟩⟩,⟨⟩⟩⟩:=x
 simp only [rL,Bool.and_eq_true,decide_eq_true_eq] at hp
 obtain ⟨⟨h1,h2⟩,h3⟩:=hp
 have n2:=ym h2
 refine (ah ?_).trans rfl
 simp only [h1,h2,h3,Nat.add_zero,n2,decide_true,List.all_cons,List.all_nil,Bool.and_self]
def We:cj:=(Nr.aI rL aJK)
theorem aw9:ac Tryz.prog 157 We:=aJJ
theorem aw6:aG We:=aB
def PI:Env:=ay 157 We ab3
theorem nZ:aQ Tryz.prog PI:=ag aw9 OV
theorem SQ:ax PI:=ae aw6 OW
theorem qo:aW Tryz.prog te PI:=aL follows ar nZ SQ
def mQ:aw:=⟨[.val true (.arr 8 .u64),.val true (.arr 128 .u8),.val false .u64,.val false .bool],[],true,0,false⟩
abbrev So:Type:=((List (UInt64))×(List (UInt8))×(UInt64)×(Bool)×Unit)×(Unit)
def CU:Shape:=⟨127,[(4,.ptr 0 0 0),(5,.ptr 1 0 0),(8,.ptr 2 0 0),(9,.ptr 3 0 0),(11,.ptr 4 0 0),(37,.val false .int)],[(0,.row .u64),(1,.row .u8),(2,.row .u64),(3,.row .u64),(4,.row .u64)],0,true⟩
abbrev df:Type:=((Unit)×(Unit)×(Unit)×(Unit)×(Unit)×(Int)×Unit)×((List (UInt64))×(List (UInt8))×(List (UInt64))×(List (UInt64))×(List (UInt64))×Unit)
def xw:Shape:=⟨127,[(4,.ptr 0 0 0),(8,.ptr 1 0 0),(9,.ptr 2 0 0),(11,.ptr 3 0 0)],[(0,.row .u64),(1,.row .u64),(2,.row .u64),(3,.row .u64)],0,true⟩
abbrev mP:Type:=((Unit)×(Unit)×(Unit)×(Unit)×Unit)×((List (UInt64))×(List (UInt64))×(List (UInt64))×(List (UInt64))×Unit)
def alD:SE->Option Shape:=fc [(0,xw)] none
def aCn (a37:Int) (c0:List (UInt64)) (c1:List (UInt8)) (c2:List (UInt64)) (c3:List (UInt64)) (c4:List (UInt64)):OT (Sum df aE):=
 let z0:Bool:=inR ((8:Int)*a37)
 let z1:List UInt8:=List.take (Int.toNat ((8:Int)*a37+(8:Int)-(8:Int)*a37)) (List.drop (Int.toNat ((8:Int)*a37)) c1)
 (.br (decide (a37<(16:Int)))
 (gd [z0,z0,inR ((8:Int)*a37+(8:Int)),decide (128<=List.length c1)&&dH ((8:Int)*a37) ((8:Int)*a37+(8:Int)) 128,mH ((z1,()),()),inB a37 16,decide (Int.toNat a37+0<List.length c4),inR (a37+(1:Int))] (.ok (.inl (((),((),((),((),((),(a37+(1:Int),())))))),(c0,(c1,(c2,(c3,(List.set c4 (Int.toNat a37+0) (kP z1 (List.length z1)),())))))))))
 (.ok (.inr ⟨(.exit 0,xw),(((),((),((),((),())))),(c0,(c2,(c3,(c4,())))))⟩)))
def CZ (s:df):OT (Sum df aE):=aCn (s.1.2.2.2.2.2.1) (s.2.1) (s.2.2.1) (s.2.2.2.1) (s.2.2.2.2.1) (s.2.2.2.2.2.1)
theorem aCc (s:df) (Q:Sum df aE->Prop):wps te PI av 1000 (aU (aj Tryz.f146) 0) (CU.inj s) (bU CU alD (Q:Sum CU.T aE->Prop))=(CZ s).wpR Q:=by kernel_rfl
def Jj (g0_0:df->mP) (s:df):OT aE:=(.ok ⟨(.exit 0,xw),g0_0 s⟩)
def CT:Shape:=⟨127,[(4,.ptr 0 0 0),(8,.ptr 1 0 0),(9,.ptr 2 0 0),(11,.ptr 3 0 0),(13,.ptr 4 0 0),(51,.val false .int)],[(0,.row .u64),(1,.row .u64),(2,.row .u64),(3,.row .u64),(4,.row .str)],0,true⟩
abbrev dc:Type:=((Unit)×(Unit)×(Unit)×(Unit)×(Unit)×(Int)×Unit)×((List (UInt64))×(List (UInt64))×(List (UInt64))×(List (UInt64))×(List (List UInt8))×Unit)
def CS:Shape:=⟨127,[(4,.ptr 0 0 0),(8,.ptr 1 0 0),(9,.ptr 2 0 0),(11,.ptr 3 0 0),(13,.ptr 4 0 0),(16,.fn 157 [3,5]),(51,.val false .int),(59,.val false .int)],[(0,.row .u64),(1,.row .u64),(2,.row .u64),(3,.row .u64),(4,.row .str),(5,.cells [.val false .str])],0,true⟩
abbrev cm:Type:=((Unit)×(Unit)×(Unit)×(Unit)×(Unit)×(Unit)×(Int)×(Int)×Unit)×((List (UInt64))×(List (UInt64))×(List (UInt64))×(List (UInt64))×(List (List UInt8))×((List UInt8)×Unit)×Unit)
def xu:Shape:=⟨127,[(4,.ptr 0 0 0),(8,.ptr 1 0 0),(9,.ptr 2 0 0),(11,.ptr 3 0 0),(13,.ptr 4 0 0),(16,.fn 157 [3,5]),(51,.val false .int)],[(0,.row .u64),(1,.row .u64),(2,.row .u64),(3,.row .u64),(4,.row .str),(5,.cells [.val false .str])],0,true⟩
abbrev gl:Type:=((Unit)×(Unit)×(Unit)×(Unit)×(Unit)×(Unit)×(Int)×Unit)×((List (UInt64))×(List (UInt64))×(List (UInt64))×(List (UInt64))×(List (List UInt8))×((List UInt8)×Unit)×Unit)
def alB:SE->Option Shape:=fc [(4,xu)] none
def aCl (a51:Int) (a59:Int) (c0:List (UInt64)) (c1:List (UInt64)) (c2:List (UInt64)) (c3:List (UInt64)) (c4:List (List UInt8)) (c5_0:List UInt8):OT (Sum cm aE):=
 let z0:Bool:=inR ((2:Int)*a59)
 let z1:PUnit×PUnit×PUnit:=((),(),())
 let z2:List UInt64×(List UInt8×PUnit)×PUnit:=(c3,(c5_0,()),())
 let z3:UInt64:=atF c3 c5_0 ((2:Int)*a59)
 let z4:UInt64:=atF c3 c5_0 ((2:Int)*a59+(1:Int))
 (.br (decide (a59<(4:Int)))
 (gd [inR ((4:Int)+a59),inR ((8:Int)+a59),inR ((12:Int)+a59),z0,rL (((2:Int)*a59,z1),z2),z0,inR ((2:Int)*a59+(1:Int)),rL (((2:Int)*a59+(1:Int),z1),z2),rH (((),a59,(4:Int)+a59,(8:Int)+a59,(12:Int)+a59,z3,z4,()),c2,()),inR (a59+(1:Int))] (.ok (.inl (((),((),((),((),((),((),(a51,(a59+(1:Int),())))))))),(c0,(c1,(Ce c2 (Int.toNat a59) (Int.toNat ((4:Int)+a59)) (Int.toNat ((8:Int)+a59)) (Int.toNat ((12:Int)+a59)) z3 z4,(c3,(c4,((c5_0,()),()))))))))))
 (.ok (.inr ⟨(.exit 4,xu),(((),((),((),((),((),((),(a51,()))))))),(c0,(c1,(c2,(c3,(c4,((c5_0,()),())))))))⟩)))
def CX (s:cm):OT (Sum cm aE):=aCl (s.1.2.2.2.2.2.2.1) (s.1.2.2.2.2.2.2.2.1) (s.2.1) (s.2.2.1) (s.2.2.2.1) (s.2.2.2.2.1) (s.2.2.2.2.2.1) (s.2.2.2.2.2.2.1.1)
theorem aCa (s:cm) (Q:Sum cm aE->Prop):wps te PI av 1000 (aU (aU (aj Tryz.f146) 2) 4) (CS.inj s) (bU CS alB (Q:Sum CS.T aE->Prop))=(CX s).wpR Q:=by kernel_rfl
def Jh (g4_4:cm->gl) (s:cm):OT aE:=(.ok ⟨(.exit 4,xu),g4_4 s⟩)
def CR:Shape:=⟨127,[(4,.ptr 0 0 0),(8,.ptr 1 0 0),(9,.ptr 2 0 0),(11,.ptr 3 0 0),(13,.ptr 4 0 0),(16,.fn 157 [3,5]),(51,.val false .int),(80,.val false .int)],[(0,.row .u64),(1,.row .u64),(2,.row .u64),(3,.row .u64),(4,.row .str),(5,.cells [.val false .str])],0,true⟩
abbrev cl:Type:=((Unit)×(Unit)×(Unit)×(Unit)×(Unit)×(Unit)×(Int)×(Int)×Unit)×((List (UInt64))×(List (UInt64))×(List (UInt64))×(List (UInt64))×(List (List UInt8))×((List UInt8)×Unit)×Unit)
def xt:Shape:=⟨127,[(4,.ptr 0 0 0),(8,.ptr 1 0 0),(9,.ptr 2 0 0),(11,.ptr 3 0 0),(13,.ptr 4 0 0),(51,.val false .int)],[(0,.row .u64),(1,.row .u64),(2,.row .u64),(3,.row .u64),(4,.row .str)],0,true⟩
abbrev gk:Type:=((Unit)×(Unit)×(Unit)×(Unit)×(Unit)×(Int)×Unit)×((List (UInt64))×(List (UInt64))×(List (UInt64))×(List (UInt64))×(List (List UInt8))×Unit)
def alA:SE->Option Shape:=fc [(6,xt)] none
def aCk (a51:Int) (a80:Int) (c0:List (UInt64)) (c1:List (UInt64)) (c2:List (UInt64)) (c3:List (UInt64)) (c4:List (List UInt8)) (c5_0:List UInt8):OT (Sum cl aE):=
 let z0:Bool:=inR (a80+(1:Int))
 let z1:Int:=(4:Int)+Int.tmod (a80+(1:Int)) (4:Int)
 let z2:Int:=(8:Int)+Int.tmod (a80+(2:Int)) (4:Int)
 let z3:Int:=(12:Int)+Int.tmod (a80+(3:Int)) (4:Int)
 let z4:Bool:=inR ((2:Int)*a80)
 let z5:PUnit×PUnit×PUnit:=((),(),())
 let z6:List UInt64×(List UInt8×PUnit)×PUnit:=(c3,(c5_0,()),())
 let z7:UInt64:=atF c3 c5_0 ((8:Int)+(2:Int)*a80)
 let z8:UInt64:=atF c3 c5_0 ((9:Int)+(2:Int)*a80)
 (.br (decide (a80<(4:Int)))
 (gd [z0,inR z1,inR (a80+(2:Int)),inR z2,inR (a80+(3:Int)),inR z3,z4,inR ((8:Int)+(2:Int)*a80),rL (((8:Int)+(2:Int)*a80,z5),z6),z4,inR ((9:Int)+(2:Int)*a80),rL (((9:Int)+(2:Int)*a80,z5),z6),rH (((),a80,z1,z2,z3,z7,z8,()),c2,()),z0] (.ok (.inl (((),((),((),((),((),((),(a51,(a80+(1:Int),())))))))),(c0,(c1,(Ce c2 (Int.toNat a80) (Int.toNat z1) (Int.toNat z2) (Int.toNat z3) z7 z8,(c3,(c4,((c5_0,()),()))))))))))
 (.ok (.inr ⟨(.exit 6,xt),(((),((),((),((),((),(a51,())))))),(c0,(c1,(c2,(c3,(c4,()))))))⟩)))
def CW (s:cl):OT (Sum cl aE):=aCk (s.1.2.2.2.2.2.2.1) (s.1.2.2.2.2.2.2.2.1) (s.2.1) (s.2.2.1) (s.2.2.2.1) (s.2.2.2.2.1) (s.2.2.2.2.2.1) (s.2.2.2.2.2.2.1.1)
theorem aB9 (s:cl) (Q:Sum cl aE->Prop):wps te PI av 1000 (aU (aU (aj Tryz.f146) 2) 6) (CR.inj s) (bU CR alA (Q:Sum CR.T aE->Prop))=(CW s).wpR Q:=by kernel_rfl
def Jg (g6_6:cl->gk) (s:cl):OT aE:=(.ok ⟨(.exit 6,xt),g6_6 s⟩)
def xv:Shape:=⟨127,[(4,.ptr 0 0 0),(8,.ptr 1 0 0),(9,.ptr 2 0 0)],[(0,.row .u64),(1,.row .u64),(2,.row .u64)],0,true⟩
abbrev mO:Type:=((Unit)×(Unit)×(Unit)×Unit)×((List (UInt64))×(List (UInt64))×(List (UInt64))×Unit)
def alC:SE->Option Shape:=fc [(2,xv)] none
def aCm (ok4:cm->Bool) (g4_4:cm->gl) (ok6:cl->Bool) (g6_6:cl->gk) (a51:Int) (c0:List (UInt64)) (c1:List (UInt64)) (c2:List (UInt64)) (c3:List (UInt64)) (c4:List (List UInt8)):OT (Sum dc aE):=
 let z0:Int:=Int.tmod a51 (10:Int)
 let z1:(PUnit×PUnit×PUnit×PUnit×PUnit×PUnit×Int×Int×PUnit)×List UInt64×List UInt64×List UInt64×List UInt64×List (List UInt8)×(List UInt8×PUnit)×PUnit:=(((),(),(),(),(),(),a51,(0:Int),()),c0,c1,c2,c3,c4,(List.getD c4 (Int.toNat z0+0) [],()),())
 let z2:(PUnit×PUnit×PUnit×PUnit×PUnit×PUnit×Int×PUnit)×List UInt64×List UInt64×List UInt64×List UInt64×List (List UInt8)×(List UInt8×PUnit)×PUnit:=g4_4 z1
 let z3:=z2.snd
 let z4:=z3.snd
 let z5:=z4.snd
 let z6:=z5.snd
 let z7:=z6.snd
 let z8:(PUnit×PUnit×PUnit×PUnit×PUnit×PUnit×Int×Int×PUnit)×List UInt64×List UInt64×List UInt64×List UInt64×List (List UInt8)×(List UInt8×PUnit)×PUnit:=(((),(),(),(),(),(),z2.fst.snd.snd.snd.snd.snd.snd.fst,(0:Int),()),z3.fst,z4.fst,z5.fst,z6.fst,z7.fst,(z7.snd.fst.fst,()),())
 let z9:(PUnit×PUnit×PUnit×PUnit×PUnit×Int×PUnit)×List UInt64×List UInt64×List UInt64×List UInt64×List (List UInt8)×PUnit:=g6_6 z8
 let z10:=z9.snd
 let z11:=z10.snd
 let z12:=z11.snd
 let z13:=z12.snd
 (.br (decide (a51<(12:Int)))
 (gd [inB z0 10,decide (Int.toNat z0+0<List.length c4),ok4 z1,ok6 z8,inR (z9.fst.snd.snd.snd.snd.snd.fst+(1:Int))] (.ok (.inl (((),((),((),((),((),(z9.fst.snd.snd.snd.snd.snd.fst+(1:Int),())))))),(z10.fst,(z11.fst,(z12.fst,(z13.fst,(z13.snd.fst,())))))))))
 (.ok (.inr ⟨(.exit 2,xv),(((),((),((),()))),(c0,(c1,(c2,()))))⟩)))
def CY (ok4:cm->Bool) (g4_4:cm->gl) (ok6:cl->Bool) (g6_6:cl->gk) (s:dc):OT (Sum dc aE):=aCm ok4 g4_4 ok6 g6_6 (s.1.2.2.2.2.2.1) (s.2.1) (s.2.2.1) (s.2.2.2.1) (s.2.2.2.2.1) (s.2.2.2.2.2.1)
theorem aCb (ok4:cm->Bool) (g4_4:cm->gl) (ok6:cl->Bool) (g6_6:cl->gk) (s:dc) (Q:Sum dc aE->Prop):wps te PI (aO 6 (cf CR 6 ok6 (Jg g6_6)) (aO 4 (cf CS 4 ok4 (Jh g4_4)) av)) 1000 (aU (aj Tryz.f146) 2) (CT.inj s) (bU CT alC (Q:Sum CT.T aE->Prop))=(CY ok4 g4_4 ok6 g6_6 s).wpR Q:=by kernel_rfl
def Ji (g2_2:dc->mO) (s:dc):OT aE:=(.ok ⟨(.exit 2,xv),g2_2 s⟩)
def CQ:Shape:=⟨127,[(4,.ptr 0 0 0),(8,.ptr 1 0 0),(9,.ptr 2 0 0),(109,.val false .int)],[(0,.row .u64),(1,.row .u64),(2,.row .u64)],0,true⟩
abbrev db:Type:=((Unit)×(Unit)×(Unit)×(Int)×Unit)×((List (UInt64))×(List (UInt64))×(List (UInt64))×Unit)
def xr:Shape:=⟨127,[(4,.ptr 0 0 0),(8,.ptr 1 0 0)],[(0,.row .u64),(1,.row .u64)],0,true⟩
abbrev mN:Type:=((Unit)×(Unit)×Unit)×((List (UInt64))×(List (UInt64))×Unit)
def alz:SE->Option Shape:=fc [(8,xr)] none
def aCj (a109:Int) (c0:List (UInt64)) (c1:List (UInt64)) (c2:List (UInt64)):OT (Sum db aE):=
 let z0:Bool:=inB a109 8
 let z1:Bool:=decide (Int.toNat a109+0<List.length c0)
 let z2:Nat:=List.length c2
 (.br (decide (a109<(8:Int)))
 (gd [z0,z1,inB a109 16,decide (Int.toNat a109+0<z2),inR (a109+(8:Int)),inB (a109+(8:Int)) 16,decide (Int.toNat (a109+(8:Int))+0<z2),z0,z1,inR (a109+(1:Int))] (.ok (.inl (((),((),((),(a109+(1:Int),())))),(List.set c0 (Int.toNat a109+0) (List.getD c0 (Int.toNat a109+0) (0:UInt64)^^^(List.getD c2 (Int.toNat a109+0) (0:UInt64)^^^List.getD c2 (Int.toNat (a109+(8:Int))+0) (0:UInt64))),(c1,(c2,())))))))
 (.ok (.inr ⟨(.exit 8,xr),(((),((),())),(c0,(c1,())))⟩)))
def CV (s:db):OT (Sum db aE):=aCj (s.1.2.2.2.1) (s.2.1) (s.2.2.1) (s.2.2.2.1)
theorem aB8 (s:db) (Q:Sum db aE->Prop):wps te PI av 1000 (aU (aj Tryz.f146) 8) (CQ.inj s) (bU CQ alz (Q:Sum CQ.T aE->Prop))=(CV s).wpR Q:=by kernel_rfl
def Jf (g8_8:db->mN) (s:db):OT aE:=(.ok ⟨(.exit 8,xr),g8_8 s⟩)
def Je:az:=⟨[.val true (.arr 8 .u64)],[],false⟩
def abk:SV->Option az:=λ_=>some Je
def af3 (ok0:df->Bool) (g0_0:df->mP) (ok4:cm->Bool) (g4_4:cm->gl) (ok6:cl->Bool) (g6_6:cl->gk) (ok2:dc->Bool) (g2_2:dc->mO) (ok8:db->Bool) (g8_8:db->mN) (a0:List (UInt64)) (a1:List (UInt8)) (a2:UInt64) (a3:Bool):OT mQ.Y:=
 let z0:PUnit×PUnit×PUnit×PUnit×PUnit×Int×PUnit:=((),(),(),(),(),(0:Int),())
 let z1:List UInt64:=tab a0 8 (0:UInt64)
 let z2:List UInt8:=tab a1 128 (0:UInt8)
 let z3:List UInt64:= []++(List.take 8 z1++List.drop (0+min (List.length z1) 8) [(0:UInt64),(0:UInt64),(0:UInt64),(0:UInt64),(0:UInt64),(0:UInt64),(0:UInt64),(0:UInt64),(0:UInt64),(0:UInt64),(0:UInt64),(0:UInt64),(0:UInt64),(0:UInt64),(0:UInt64),(0:UInt64)])
 let z4:List UInt64:=List.take 8 z3++([(7640891576956012808:UInt64),(13503953896175478587:UInt64),(4354685564936845355:UInt64),(11912009170470909681:UInt64),(5840696475078001361:UInt64),(11170449401992604703:UInt64),(2270897969802886507:UInt64),(6620516959819538809:UInt64)]++List.drop 16 z3)
 let z5:List UInt64:=List.set z4 12 (List.getD z4 12 0^^^a2)
 let z6:List UInt64×PUnit:=([(0:UInt64),(0:UInt64),(0:UInt64),(0:UInt64),(0:UInt64),(0:UInt64),(0:UInt64),(0:UInt64),(0:UInt64),(0:UInt64),(0:UInt64),(0:UInt64),(0:UInt64),(0:UInt64),(0:UInt64),(0:UInt64)],())
 let z7:(PUnit×PUnit×PUnit×PUnit×PUnit×Int×PUnit)×List UInt64×List UInt8×List UInt64×List UInt64×List UInt64×PUnit:=(z0,z1,z2,[(0:UInt64),(0:UInt64),(0:UInt64),(0:UInt64),(0:UInt64),(0:UInt64),(0:UInt64),(0:UInt64)],List.set z5 14 (~~~List.getD z5 14 0),z6)
 let z8:PUnit×PUnit×PUnit×PUnit×PUnit×Int×PUnit:=((),(),(),(),(),(0:Int),())
 let z9:=(g0_0 z7).snd
 let z10:=z9.snd
 let z11:=z10.snd
 let z12:List (List UInt8)×PUnit:=([List.getD gP 0 [],List.getD gP 1 [],List.getD gP 2 [],List.getD gP 3 [],List.getD gP 4 [],List.getD gP 5 [],List.getD gP 6 [],List.getD gP 7 [],List.getD gP 8 [],List.getD gP 9 []],())
 let z13:(PUnit×PUnit×PUnit×PUnit×PUnit×Int×PUnit)×List UInt64×List UInt64×List UInt64×List UInt64×List (List UInt8)×PUnit:=(z8,z9.fst,z10.fst,z11.fst,z11.snd.fst,z12)
 let z14:PUnit×PUnit×PUnit×Int×PUnit:=((),(),(),(0:Int),())
 let z15:=(g2_2 z13).snd
 let z16:=z15.snd
 let z17:(PUnit×PUnit×PUnit×Int×PUnit)×List UInt64×List UInt64×List UInt64×PUnit:=(z14,z15.fst,z16.fst,z16.snd.fst,())
 let z18:=(g8_8 z17).snd
 let z19:=z18.fst
 let z20:=z18.snd.fst
 let z21:List UInt64:=lay z20 z19 8 (0:UInt64)
 let z22:(PUnit×PUnit×PUnit×PUnit×PUnit×Int×PUnit)×List UInt64×List UInt8×List UInt64×List UInt64×List UInt64×PUnit:=(z0,z1,z2,[(0:UInt64),(0:UInt64),(0:UInt64),(0:UInt64),(0:UInt64),(0:UInt64),(0:UInt64),(0:UInt64)],z5,z6)
 let z23:=(g0_0 z22).snd
 let z24:=z23.snd
 let z25:=z24.snd
 let z26:(PUnit×PUnit×PUnit×PUnit×PUnit×Int×PUnit)×List UInt64×List UInt64×List UInt64×List UInt64×List (List UInt8)×PUnit:=(z8,z23.fst,z24.fst,z25.fst,z25.snd.fst,z12)
 let z27:=(g2_2 z26).snd
 let z28:=z27.snd
 let z29:(PUnit×PUnit×PUnit×Int×PUnit)×List UInt64×List UInt64×List UInt64×PUnit:=(z14,z27.fst,z28.fst,z28.snd.fst,())
 let z30:=(g8_8 z29).snd
 let z31:=z30.fst
 let z32:=z30.snd.fst
 let z33:List UInt64:=lay z32 z31 8 (0:UInt64)
 (.br (a3)
 (gd [ok0 z7,ok2 z13,ok8 z17,decide (8<=List.length z19),decide ((8/1:Nat)+0<=List.length z20),decide (8<=List.length z21)] (.ok ⟨Je,((tab z21 8 (0:UInt64),()),())⟩))
 (gd [ok0 z22,ok2 z26,ok8 z29,decide (8<=List.length z31),decide ((8/1:Nat)+0<=List.length z32),decide (8<=List.length z33)] (.ok ⟨Je,((tab z33 8 (0:UInt64),()),())⟩)))
theorem aHG (ok0:df->Bool) (g0_0:df->mP) (ok4:cm->Bool) (g4_4:cm->gl) (ok6:cl->Bool) (g6_6:cl->gk) (ok2:dc->Bool) (g2_2:dc->mO) (ok8:db->Bool) (g8_8:db->mN) (x:So) (Q:mQ.Y->Prop):wpf te PI (aO 8 (cf CQ 8 ok8 (Jf g8_8)) (aO 2 (cf CT 2 ok2 (Ji g2_2)) (aO 0 (cf CU 0 ok0 (Jj g0_0)) av))) 1000 Tryz.f146 (mQ.inp.inj x).tm (mQ.inp.inj x).hp (fnK mQ abk Q) (λ_ _=>False)=(af3 ok0 g0_0 ok4 g4_4 ok6 g6_6 ok2 g2_2 ok8 g8_8 (x.1.1) (x.1.2.1) (x.1.2.2.1) (x.1.2.2.2.1)).wpR Q:=by kernel_rfl
theorem apH (ok0:df->Bool) (g0_0:df->mP) (ok4:cm->Bool) (g4_4:cm->gl) (ok6:cl->Bool) (g6_6:cl->gk) (ok2:dc->Bool) (g2_2:dc->mO) (ok8:db->Bool) (g8_8:db->mN) (h0:∀ s:df,ok0 s=true->∃ m e,al (CZ) m s=some e/\(Jj g0_0 s).run=some e) (h4:∀ s:cm,ok4 s=true->∃ m e,al (CX) m s=some e/\(Jh g4_4 s).run=some e) (h6:∀ s:cl,ok6 s=true->∃ m e,al (CW) m s=some e/\(Jg g6_6 s).run=some e) (h2:∀ s:dc,ok2 s=true->∃ m e,al (CY ok4 g4_4 ok6 g6_6) m s=some e/\(Ji g2_2 s).run=some e) (h8:∀ s:db,ok8 s=true->∃ m e,al (CV) m s=some e/\(Jf g8_8 s).run=some e) (pre:So->Bool) (F:So->OT mQ.Y) (hF:∀ (x:So) oy,pre x=true->(F x).run=some oy->(af3 ok0 g0_0 ok4 g4_4 ok6 g6_6 ok2 g2_2 ok8 g8_8 (x.1.1) (x.1.2.1) (x.1.2.2.1) (x.1.2.2.2.1)).run=some oy):ac Tryz.prog 146 (mQ.aI pre F):=
 aD ar nZ qo (f:=146) (fn:=Tryz.f146) (c:=aj Tryz.f146) (by kernel_rfl) (by kernel_rfl) (by kernel_rfl) (S:=mQ) (k:=0) (by kernel_rfl) (λR hR=>(aA (c:=(aj Tryz.f146)) (by kernel_rfl) (id:=8) (by kernel_rfl) (aP ar nZ qo (sh:=CQ) hR (xs:=alz) (aC (by kernel_rfl) (by kernel_rfl) hR) aM af (n:=1000) (T:=CV) (λs Q=>aB8 s Q) (ok:=ok8) (f:=Jf g8_8) h8) (aA (c:=(aj Tryz.f146)) (by kernel_rfl) (id:=2) (by kernel_rfl) (aP ar nZ qo (sh:=CT) hR (xs:=alC) (aC (by kernel_rfl) (by kernel_rfl) hR) aM (aA (c:=(aU (aj Tryz.f146) 2)) (by kernel_rfl) (id:=6) (by kernel_rfl) (aP ar nZ qo (sh:=CR) hR (xs:=alA) (aC (by kernel_rfl) (by kernel_rfl) hR) aM af (n:=1000) (T:=CW) (λs Q=>aB9 s Q) (ok:=ok6) (f:=Jg g6_6) h6) (aA (c:=(aU (aj Tryz.f146) 2)) (by kernel_rfl) (id:=4) (by kernel_rfl) (aP ar nZ qo (sh:=CS) hR (xs:=alB) (aC (by kernel_rfl) (by kernel_rfl) hR) aM af (n:=1000) (T:=CX) (λs Q=>aCa s Q) (ok:=ok4) (f:=Jh g4_4) h4) af)) (n:=1000) (T:=CY ok4 g4_4 ok6 g6_6) (λs Q=>aCb ok4 g4_4 ok6 g6_6 s Q) (ok:=ok2) (f:=Ji g2_2) h2) (aA (c:=(aj Tryz.f146)) (by kernel_rfl) (id:=0) (by kernel_rfl) (aP ar nZ qo (sh:=CU) hR (xs:=alD) (aC (by kernel_rfl) (by kernel_rfl) hR) aM af (n:=1000) (T:=CZ) (λs Q=>aCc s Q) (ok:=ok0) (f:=Jj g0_0) h0) af)))) (n:=1000) (sel:=abk) (λv o h=>by cases h;rfl) (pre:=pre) (F:=F) (T:=λx=>af3 ok0 g0_0 ok4 g4_4 ok6 g6_6 ok2 g2_2 ok8 g8_8 (x.1.1) (x.1.2.1) (x.1.2.2.1) (x.1.2.2.2.1)) (λx Q=>aHG ok0 g0_0 ok4 g4_4 ok6 g6_6 ok2 g2_2 ok8 g8_8 x Q) hF
def aqm (b:List UInt8) (i:Nat):UInt64:=kP ((b.drop (8*i)).take 8) 8
def qu (b:List UInt8):List UInt64:=upto (λk m=>m.set k (aqm b k)) (List.replicate 16 0) 16
def Ti (row:List UInt8):Bool:=decide (row.length=16)&&(List.range 16).all λi=>inB (nib (row.getD i 0)) 16
theorem asl {row:List UInt8} (h:Ti row=true) {i:Nat} (hi:i<16):inB (nib (row.getD i 0)) 16=true:=by
 simp only [Ti,Bool.and_eq_true,List.all_eq_true] at h
 exact h.2 i (by simpa using hi)
theorem xz {m:List UInt64} {row:List UInt8} (hm:m.length=16) (hr:Ti row=true) {i:Int} (h0:0<=i) (h1:i<16) (u:Unit×Unit×Unit) (u2:Unit) (u3:Unit):rL ((i,u),(m,((row,u2),u3)))=true:=by
 have hl:row.length=16:=by
  simp only [Ti,Bool.and_eq_true,decide_eq_true_eq] at hr
  exact hr.1
 have:=asl hr (i:=i.toNat) (by omega)
 simp only [rL,Bool.and_eq_true,decide_eq_true_eq]
 exact ⟨⟨aN (by omega),this⟩,hm⟩
theorem Nh {v:List UInt64} (hv:v.length=16) {a b c d:Int} (ha:0<=a/\a<16) (hb:0<=b/\b<16) (hc:0<=c/\c<16) (hd:0<=d/\d<16) (x y:UInt64) (u1 u2 u3:Unit):rH ((u1,a,b,c,d,x,y,u2),(v,u3))=true:=by
 simp only [rH,Bool.and_eq_true,decide_eq_true_eq]
 exact ⟨⟨⟨⟨aN ha,aN hb⟩,aN hc⟩,aN hd⟩,hv⟩
def Nq (s:df):Bool:=decide (s.1.2.2.2.2.2.1=0/\s.2.2.1.length=128/\s.2.2.2.2.2.1=List.replicate 16 0)
def xq (s:df):mP:=(((),(),(),(),()),(s.2.1,s.2.2.2.1,s.2.2.2.2.1,qu s.2.2.1,()))
theorem aCi:∀ s:df,Nq s=true->∃ m e,al CZ m s=some e/\(Jj xq s).run=some e:=by
 rintro ⟨⟨⟨⟩,⟨⟩,⟨⟩,⟨⟩,⟨⟩,i,⟨⟩⟩,⟨c0,c1,c2,c3,c4,⟨⟩⟩⟩ h
 have h':=of_decide_eq_true h
 dsimp only at h'
 obtain ⟨rfl,hl,rfl⟩:=h'
 have:=(aR (T:=CZ) (λk m=>((((),(),(),(),(),(k:Int),()),(c0,c1,c2,c3,m,())):df)) (λk m=>m.set k (aqm c1 k))
  (λm=>(⟨(.exit 0,xw),(((),(),(),(),()),(c0,c2,c3,m,()))⟩:aE)) 16 (List.replicate 16 0) (λ_ m=>m.length=16) (by simp) (λk m hk hm=>⟨?_,by rw [List.length_set];exact hm⟩) (λm hm=> ?_)).1
 ·obtain ⟨n,hn⟩:=this
  exact ⟨n,_,hn,rfl⟩
 ·have e1:(8*(k:Int)+8-8*(k:Int)).toNat=8:=by omega
  have e2:(8*(k:Int)).toNat=8*k:=by omega
  have hw:((c1.drop (8*k)).take 8).length=8:=by simp;omega
  refine (OT.ao (decide_eq_true (by dsimp only;omega))).trans ((ah ?_).trans ?_)
  ·simp only [e1,e2,hl,hm,List.all_cons,List.all_nil,Bool.and_true,Bool.and_eq_true]
   refine ⟨aH (by omega),aH (by omega),aH (by omega),⟨by decide,fH (by omega)⟩,?_,aN (by omega),decide_eq_true (by omega),aH (by omega)⟩
   simp only [mH,hw]
   decide
  ·simp only [OT.cT,e1,e2,hw,Nat.add_zero]
   rfl
 ·exact OT.aq (decide_eq_false (by dsimp only;omega))
def ZE (m:List UInt64) (row:List UInt8) (v:List UInt64):List UInt64:=upto (λk v=>Ce v k (4+k) (8+k) (12+k) (atF m row (2*(k:Int))) (atF m row (2*(k:Int)+1))) v 4
def ZD (m:List UInt64) (row:List UInt8) (v:List UInt64):List UInt64:=upto (λk v=>Ce v k (4+(k+1)%4) (8+(k+2)%4) (12+(k+3)%4) (atF m row (8+2*(k:Int))) (atF m row (9+2*(k:Int)))) v 4
theorem nG (m:List UInt64) (row:List UInt8) (v:List UInt64):(ZE m row v).length=v.length:=by simp only [ZE,upto,gg]
theorem tT (m:List UInt64) (row:List UInt8) (v:List UInt64):(ZD m row v).length=v.length:=by simp only [ZD,upto,gg]
def pW (s:cm):Bool:=decide (s.1.2.2.2.2.2.2.2.1=0/\s.2.2.2.1.length=16/\s.2.2.2.2.1.length=16)&&Ti s.2.2.2.2.2.2.1.1
def rK (s:cm):gl:=(((),(),(),(),(),(),s.1.2.2.2.2.2.2.1,()),(s.2.1,s.2.2.1,ZE s.2.2.2.2.1 s.2.2.2.2.2.2.1.1 s.2.2.2.1,s.2.2.2.2.1,s.2.2.2.2.2.1,(s.2.2.2.2.2.2.1.1,()),()))
theorem aCg:∀ s:cm,pW s=true->∃ m e,al CX m s=some e/\(Jh rK s).run=some e:=by
 rintro ⟨⟨⟨⟩,⟨⟩,⟨⟩,⟨⟩,⟨⟩,⟨⟩,r,i,⟨⟩⟩,⟨c0,c1,v,m,c4,⟨row,⟨⟩⟩,⟨⟩⟩⟩ h
 simp only [pW,Bool.and_eq_true,decide_eq_true_eq] at h
 obtain ⟨⟨rfl,hv,hm⟩,hr⟩:=h
 have:=(aR (T:=CX) (λk v=>((((),(),(),(),(),(),r,(k:Int),()),(c0,c1,v,m,c4,(row,()),())):cm)) (λk v=>Ce v k (4+k) (8+k) (12+k) (atF m row (2*(k:Int))) (atF m row (2*(k:Int)+1)))
  (λv=>(⟨(.exit 4,xu),(((),(),(),(),(),(),r,()),(c0,c1,v,m,c4,(row,()),()))⟩:aE)) 4 v (λ_ v=>v.length=16) hv (λk v hk hv=>⟨?_,by rw [gg];exact hv⟩) (λv hv=> ?_)).1
 ·obtain ⟨n,hn⟩:=this
  exact ⟨n,_,hn,rfl⟩
 ·have e1:(4+(k:Int)).toNat=4+k:=by omega
  have e2:(8+(k:Int)).toNat=8+k:=by omega
  have e3:(12+(k:Int)).toNat=12+k:=by omega
  refine (OT.ao (decide_eq_true (by dsimp only;omega))).trans ((ah ?_).trans ?_)
  ·simp only [List.all_cons,List.all_nil,Bool.and_true,Bool.and_eq_true]
   exact ⟨aH (by omega),aH (by omega),aH (by omega),aH (by omega),xz hm hr (by omega) (by omega) _ _ _,aH (by omega),aH (by omega),xz hm hr (by omega) (by omega) _ _ _,Nh hv (by omega) (by omega) (by omega) (by omega) _ _ _ _ _,aH (by omega)⟩
  ·simp only [OT.cT,e1,e2,e3]
   rfl
 ·exact OT.aq (decide_eq_false (by dsimp only;omega))
def pV (s:cl):Bool:=decide (s.1.2.2.2.2.2.2.2.1=0/\s.2.2.2.1.length=16/\s.2.2.2.2.1.length=16)&&Ti s.2.2.2.2.2.2.1.1
def xo (s:cl):gk:=(((),(),(),(),(),s.1.2.2.2.2.2.2.1,()),(s.2.1,s.2.2.1,ZD s.2.2.2.2.1 s.2.2.2.2.2.2.1.1 s.2.2.2.1,s.2.2.2.2.1,s.2.2.2.2.2.1,()))
theorem aCf:∀ s:cl,pV s=true->∃ m e,al CW m s=some e/\(Jg xo s).run=some e:=by
 rintro ⟨⟨⟨⟩,⟨⟩,⟨⟩,⟨⟩,⟨⟩,⟨⟩,r,i,⟨⟩⟩,⟨c0,c1,v,m,c4,⟨row,⟨⟩⟩,⟨⟩⟩⟩ h
 simp only [pV,Bool.and_eq_true,decide_eq_true_eq] at h
 obtain ⟨⟨rfl,hv,hm⟩,hr⟩:=h
 have:=(aR (T:=CW) (λk v=>((((),(),(),(),(),(),r,(k:Int),()),(c0,c1,v,m,c4,(row,()),())):cl)) (λk v=>Ce v k (4+(k+1)%4) (8+(k+2)%4) (12+(k+3)%4) (atF m row (8+2*(k:Int))) (atF m row (9+2*(k:Int))))
  (λv=>(⟨(.exit 6,xt),(((),(),(),(),(),r,()),(c0,c1,v,m,c4,()))⟩:aE)) 4 v (λ_ v=>v.length=16) hv (λk v hk hv=>⟨?_,by rw [gg];exact hv⟩) (λv hv=> ?_)).1
 ·obtain ⟨n,hn⟩:=this
  exact ⟨n,_,hn,rfl⟩
 ·have t1:Int.tmod ((k:Int)+1) 4=(((k+1)%4:Nat):Int):=by rw [Int.tmod_eq_emod_of_nonneg (by omega)];omega
  have t2:Int.tmod ((k:Int)+2) 4=(((k+2)%4:Nat):Int):=by rw [Int.tmod_eq_emod_of_nonneg (by omega)];omega
  have t3:Int.tmod ((k:Int)+3) 4=(((k+3)%4:Nat):Int):=by rw [Int.tmod_eq_emod_of_nonneg (by omega)];omega
  have e1:(4+(((k+1)%4:Nat):Int)).toNat=4+(k+1)%4:=by omega
  have e2:(8+(((k+2)%4:Nat):Int)).toNat=8+(k+2)%4:=by omega
  have e3:(12+(((k+3)%4:Nat):Int)).toNat=12+(k+3)%4:=by omega
  refine (OT.ao (decide_eq_true (by dsimp only;omega))).trans ((ah ?_).trans ?_)
  ·simp only [t1,t2,t3,List.all_cons,List.all_nil,Bool.and_true,Bool.and_eq_true]
   exact ⟨aH (by omega),aH (by omega),aH (by omega),aH (by omega),aH (by omega),aH (by omega),aH (by omega),aH (by omega),xz hm hr (by omega) (by omega) _ _ _,aH (by omega),aH (by omega),xz hm hr (by omega) (by omega) _ _ _,Nh hv (by omega) (by omega) (by omega) (by omega) _ _ _ _ _,aH (by omega)⟩
  ·simp only [OT.cT,t1,t2,t3,e1,e2,e3]
   rfl
 ·exact OT.aq (decide_eq_false (by dsimp only;omega))
def rowAt (k:Nat):List UInt8:=gP.getD (k%10) []
theorem azS (k:Nat):Ti (rowAt k)=true:=by
 have:k%10<10:=Nat.mod_lt _ (by decide)
 unfold rowAt
 generalize k%10=j at this
 have h:∀ j:Fin 10,Ti (gP.getD j.val [])=true:=by decide+kernel
 exact h ⟨j,this⟩
def kQ (m:List UInt64) (v:List UInt64):List UInt64:=upto (λk v=>ZD m (rowAt k) (ZE m (rowAt k) v)) v 12
theorem lC {f:Nat->List UInt64->List UInt64} (hf:∀ k v,(f k v).length=v.length) (v:List UInt64):∀ n,(upto f v n).length=v.length
 |0=>rfl
 |n+1=>by simp only [upto,hf,lC hf v n]
def Np (s:dc):Bool:=decide (s.1.2.2.2.2.2.1=0/\s.2.2.2.1.length=16/\s.2.2.2.2.1.length=16/\s.2.2.2.2.2.1=gP)
def xp (s:dc):mO:=(((),(),(),()),(s.2.1,s.2.2.1,kQ s.2.2.2.2.1 s.2.2.2.1,()))
theorem aCh:∀ s:dc,Np s=true->∃ m e,al (CY pW rK pV xo) m s=some e/\(Ji xp s).run=some e:=by
 rintro ⟨⟨⟨⟩,⟨⟩,⟨⟩,⟨⟩,⟨⟩,i,⟨⟩⟩,⟨c0,c1,v,m,c4,⟨⟩⟩⟩ h
 have h':=of_decide_eq_true h
 dsimp only at h'
 obtain ⟨rfl,hv,hm,rfl⟩:=h'
 have:=(aR (T:=CY pW rK pV xo) (λk v=>((((),(),(),(),(),(k:Int),()),(c0,c1,v,m,gP,())):dc)) (λk v=>ZD m (rowAt k) (ZE m (rowAt k) v))
  (λv=>(⟨(.exit 2,xv),(((),(),(),()),(c0,c1,v,()))⟩:aE)) 12 v (λ_ v=>v.length=16) hv (λk v hk hv=>⟨?_,by rw [tT,nG];exact hv⟩) (λv hv=> ?_)).1
 ·obtain ⟨n,hn⟩:=this
  exact ⟨n,_,hn,rfl⟩
 ·have t1:Int.tmod (k:Int) 10=((k%10:Nat):Int):=by rw [Int.tmod_eq_emod_of_nonneg (by omega)];omega
  have e1:((k%10:Nat):Int).toNat=k%10:=by omega
  have hr:Ti (gP.getD (k%10) [])=true:=azS k
  refine (OT.ao (decide_eq_true (by dsimp only;omega))).trans ((ah ?_).trans ?_)
  ·simp only [t1,e1,List.all_cons,List.all_nil,Bool.and_true,Bool.and_eq_true]
   refine ⟨aN (by omega),decide_eq_true (show k%10+0<10 by omega),?_,?_,?_⟩
   ·simp only [pW,Bool.and_eq_true,decide_eq_true_eq]
    exact ⟨⟨trivial,hv,hm⟩,hr⟩
   ·simp only [pV,rK,Bool.and_eq_true,decide_eq_true_eq]
    exact ⟨⟨trivial,by rw [nG];exact hv,hm⟩,hr⟩
   ·exact aH (by simp only [xo,rK];omega)
  ·have hrow:gP.getD (k%10) []=rowAt k:=rfl
   simp only [OT.cT,t1,e1,Nat.add_zero,xo,rK,hrow]
   rfl
 ·exact OT.aq (decide_eq_false (by dsimp only;omega))
def Lw (h v:List UInt64):List UInt64:=upto (λk h=>h.set k (h.getD k 0^^^(v.getD k 0^^^v.getD (k+8) 0))) h 8
def Nn (s:db):Bool:=decide (s.1.2.2.2.1=0/\s.2.1.length=8/\s.2.2.2.1.length=16)
def xn (s:db):mN:=(((),(),()),(Lw s.2.1 s.2.2.2.1,s.2.2.1,()))
theorem aCe:∀ s:db,Nn s=true->∃ m e,al CV m s=some e/\(Jf xn s).run=some e:=by
 rintro ⟨⟨⟨⟩,⟨⟩,⟨⟩,i,⟨⟩⟩,⟨h,c1,v,⟨⟩⟩⟩ hh
 have h':=of_decide_eq_true hh
 dsimp only at h'
 obtain ⟨rfl,hl,hv⟩:=h'
 have:=(aR (T:=CV) (λk h=>((((),(),(),(k:Int),()),(h,c1,v,())):db)) (λk h=>h.set k (h.getD k 0^^^(v.getD k 0^^^v.getD (k+8) 0)))
  (λh=>(⟨(.exit 8,xr),(((),(),()),(h,c1,()))⟩:aE)) 8 h (λ_ h=>h.length=8) hl (λk h hk hl=>⟨?_,by rw [List.length_set];exact hl⟩) (λh hl=> ?_)).1
 ·obtain ⟨n,hn⟩:=this
  exact ⟨n,_,hn,rfl⟩
 ·have e1:((k:Int)+8).toNat=k+8:=by omega
  refine (OT.ao (decide_eq_true (by dsimp only;omega))).trans ((ah ?_).trans ?_)
  ·simp only [e1,hl,hv,List.all_cons,List.all_nil,Bool.and_true,Bool.and_eq_true]
   exact ⟨aN (by omega),decide_eq_true (by omega),aN (by omega),decide_eq_true (by omega),aH (by omega),aN (by omega),decide_eq_true (by omega),aN (by omega),decide_eq_true (by omega),aH (by omega)⟩
  ·simp only [OT.cT,e1,Nat.add_zero]
   rfl
 ·exact OT.aq (decide_eq_false (by dsimp only;omega))
def ss (h:List UInt64) (count:UInt64) (last:Bool):List UInt64:=
 let v:=(h++bIV).set 12 ((h++bIV).getD 12 0^^^count)
 cond last (v.set 14 (~~~v.getD 14 0)) v
def ya (h:List UInt64) (b:List UInt8) (count:UInt64) (last:Bool):List UInt64:=Lw h (kQ (qu b) (ss h count last))
theorem O1 (b:List UInt8):(qu b).length=16:=by
 unfold qu;rw [lC (λk v=>List.length_set)];rfl
theorem sL (m v:List UInt64):(kQ m v).length=v.length:=lC (λk v=>by rw [tT,nG]) v 12
theorem kV (h v:List UInt64):(Lw h v).length=h.length:=lC (λk v=>List.length_set) h 8
theorem Ht {b:List UInt8} {c0 c2 c3:List UInt64} (hb:b.length=128):Nq (((),(),(),(),(),0,()),(c0,b,c2,c3,[0,0,0,0,0,0,0,0,0,0,0,0,0,0,0,0],()))=true:=decide_eq_true ⟨rfl,hb,rfl⟩
theorem Hs {c0 c1 v m:List UInt64} (hv:v.length=16) (hm:m.length=16):Np (((),(),(),(),(),0,()),(c0,c1,v,m,gP,()))=true:=decide_eq_true ⟨rfl,hv,hm,rfl⟩
theorem Hr {c0 c1 v:List UInt64} (h0:c0.length=8) (hv:v.length=16):Nn (((),(),(),0,()),(c0,c1,v,()))=true:=decide_eq_true ⟨rfl,h0,hv⟩
def Nl (x:So):Bool:=decide (x.1.1.length=8/\x.1.2.1.length=128)
def aw3 (x:So):OT mQ.Y:=.ok ⟨Je,((ya x.1.1 x.1.2.1 x.1.2.2.1 x.1.2.2.2.1,()),())⟩
theorem aCd:ac Tryz.prog 146 (mQ.aI Nl aw3):=apH Nq xq pW rK pV xo Np xp Nn xn aCi aCg aCf aCh aCe _ _ λx oy hp ho=>by
 rw [<-ho]
 obtain ⟨⟨h,b,count,last,⟨⟩⟩,⟨⟩⟩:=x
 simp only [Nl,decide_eq_true_eq] at hp
 obtain ⟨hh,hb⟩:=hp
 have t1:tab h 8 0=h:=jx hh
 have t2:tab b 128 0=b:=jx hb
 have t3:tab gP 10 []=gP:=jx rfl
 have v1: []++(List.take 8 h++List.drop (0+min h.length 8) [(0:UInt64),0,0,0,0,0,0,0,0,0,0,0,0,0,0,0])=h++List.replicate 8 0:=by
  rw [hh,List.nil_append,List.take_of_length_le (by omega)];rfl
 have v2:List.take 8 (h++List.replicate 8 (0:UInt64))++(bIV++List.drop 16 (h++List.replicate 8 (0:UInt64)))=h++bIV:=by
  rw [List.take_append_of_le_length (by omega),List.take_of_length_le (by omega),List.drop_eq_nil_of_le (by simp;omega),List.append_nil]
 have hv:∀ c l,(ss h c l).length=16:=λc l=>by
  unfold ss
  cases l<;>simp [hh]<;>rfl
 have hm:(qu b).length=16:=O1 b
 have hr:∀ c l,(kQ (qu b) (ss h c l)).length=16:=λc l=>by rw [sL];exact hv c l
 have hM:∀ c l,(ya h b c l).length=8:=λc l=>by unfold ya;rw [kV];exact hh
 have e8: [(7640891576956012808:UInt64),13503953896175478587,4354685564936845355,11912009170470909681,5840696475078001361,11170449401992604703,2270897969802886507,6620516959819538809]=bIV:=rfl
 have key:∀ M:List UInt64,M.length=8->tab (lay [(0:UInt64),0,0,0,0,0,0,0] M 8 0) 8 0=M:=λM hM=>by rw [yj (n:=8) rfl hM,jx hM]
 have l1:List.set (h++bIV) 12 ((h++bIV).getD 12 0^^^count)=ss h count false:=rfl
 have l2:List.set (ss h count false) 14 (~~~(ss h count false).getD 14 0)=ss h count true:=rfl
 have l3:∀ c l,Lw h (kQ (qu b) (ss h c l))=ya h b c l:=λ_ _=>rfl
 cases last
 ·refine (OT.aq rfl).trans ((ah ?_).trans ?_)
  ·simp only [t1,t2,t3,v1,List.all_cons,List.all_nil,Bool.and_true,Bool.and_eq_true]
   rw [e8]
   simp only [v2,xq,xp,xn,l1,l3,gF,hM]
   exact ⟨Ht hb,Hs (hv _ _) hm,Hr hh (hr _ _),rfl,rfl,rfl⟩
  ·simp only [t1,t2,t3,v1]
   rw [e8]
   simp only [v2,xq,xp,xn,l1,l3]
   rw [key _ (hM _ _)]
   rfl
 ·refine (OT.ao rfl).trans ((ah ?_).trans ?_)
  ·simp only [t1,t2,t3,v1,List.all_cons,List.all_nil,Bool.and_true,Bool.and_eq_true]
   rw [e8]
   simp only [v2,xq,xp,xn,l1,l2,l3,gF,hM]
   exact ⟨Ht hb,Hs (hv _ _) hm,Hr hh (hr _ _),rfl,rfl,rfl⟩
  ·simp only [t1,t2,t3,v1]
   rw [e8]
   simp only [v2,xq,xp,xn,l1,l2,l3]
   rw [key _ (hM _ _)]
   rfl
def Gd:cj:=(mQ.aI Nl aw3)
theorem af2:ac Tryz.prog 146 Gd:=aCd
theorem af1:aG Gd:=aB
def OX:Env:=ay 146 Gd PI
theorem GR:aQ Tryz.prog OX:=ag af2 nZ
theorem Ig:ax OX:=ae af1 SQ
theorem agA:aW Tryz.prog te OX:=aL follows ar GR Ig
def ju:aw:=⟨[.val false (.list .u8)],[],true,0,false⟩
abbrev af4:Type:=((List (UInt8))×Unit)×(Unit)
def uW:az:=⟨[.own 0],[(0,.row .u8)],false⟩
def Sp:SV->Option az:=λ_=>some uW
def Wd (a0:List (UInt8)):OT ju.Y:=
 (gd [decide (((0:Nat)+List.length a0)*(1:Nat)<=(140737488355328:Nat))] (.ok ⟨uW,(((),()),([]++a0,()))⟩))
def aw5:OT ju.Y:=.ok ⟨uW,(((),()),([],()))⟩
theorem aCo (x:af4) (Q:ju.Y->Prop):wpf te OX av 1000 Tryz.f52 (ju.inp.inj x).tm (ju.inp.inj x).hp (fnK ju Sp Q) (λ_ _=>False)=
 Bool.rec (motive:=λ_=>Prop) ((Wd x.1.1).wpR Q) (aw5.wpR Q/\(Wd x.1.1).wpR Q) (List.isEmpty x.1.1):=by kernel_rfl
def lu (x:af4):Bool:=decide (x.1.1.length<=140737488355328)
def alE (x:af4):OT ju.Y:=.ok ⟨uW,(((),()),(x.1.1,()))⟩
theorem aw4:ac Tryz.prog 52 (ju.aI lu alE):=by
 refine aGP ar GR agA (f:=52) (fn:=Tryz.f52) (c:=aj Tryz.f52) (by kernel_rfl) (by kernel_rfl) (by kernel_rfl) (S:=ju) (k:=0) (by kernel_rfl) (Λ:=av) (λR hR=>af) (n:=1000) λx oy hp hr=>⟨fnK ju Sp (λz=>z=oy),λ_ _=>False,?_,λv hp hq=> ?_,λ_ _ hq=>hq.elim⟩
 ·refine (aCo x _).mpr ?_
  cases hr
  have hp':x.1.1.length<=140737488355328:=of_decide_eq_true hp
  have h1:(Wd x.1.1).wpR (λz=>z=⟨uW,(((),()),(x.1.1,()))⟩):=by
   rw [OT.PO]
   refine OT.lz (ah ?_) rfl
   simp only [List.all_cons,List.all_nil,Bool.and_true]
   exact decide_eq_true (by omega)
  cases hb:List.isEmpty x.1.1
  ·exact h1
  ·refine ⟨?_,h1⟩
   rw [List.isEmpty_iff.1 hb]
   rfl
 ·unfold fnK at hq
  split at hq
  ·rename_i o ho
   split at hq
   ·rename_i y hy
    subst hq
    exact ⟨by cases ho;rfl,hy⟩
   ·exact hq.elim
  ·exact hq.elim
def Aa:cj:=(ju.aI lu alE)
theorem abm:ac Tryz.prog 52 Aa:=aw4
theorem abl:aG Aa:=aB
def D8:Env:=ay 52 Aa OX
theorem Az:aQ Tryz.prog D8:=ag abm GR
theorem D7:ax D8:=ae abl Ig
theorem ab5:aW Tryz.prog te D8:=aL follows ar Az D7
def uP:aw:=⟨[.val false .str,.val false .int],[],true,0,false⟩
abbrev apB:Type:=((List UInt8)×(Int)×Unit)×(Unit)
def Nc:az:=⟨[.rb,.val false .int],[],false⟩
def afO:az:=⟨[.ptr 0 0 0,.val false .int],[(0,.cells [.val false .int,.val false .u64,.val false .u64,.val false .u64,.val false .u64,.val false .u64,.val false .u64,.val false .u64,.val false .u64,.own 1,.val false .u64]),(1,.row .u8)],false⟩
def aa0:List az:= [Nc,afO]
def Nd (a0:List UInt8) (a1:Int):OT uP.Y:=
 let z0:List UInt8:=List.take 16 a0++List.drop (List.length a0) [(0:UInt8),(0:UInt8),(0:UInt8),(0:UInt8),(0:UInt8),(0:UInt8),(0:UInt8),(0:UInt8),(0:UInt8),(0:UInt8),(0:UInt8),(0:UInt8),(0:UInt8),(0:UInt8),(0:UInt8),(0:UInt8)]
 let z1:Bool:=decide (16<=List.length z0)&&true
 let z2:List UInt8:=List.take 8 (List.drop 0 z0)
 let z3:List UInt8:=List.take 8 (List.drop 8 z0)
 (.br (decide ((16:Int)<(↑(List.length a0):Int)))
 (.ok ⟨Nc,(((),((30:Int),())),())⟩)
 (.br (decide (a1<(1:Int)))
  (.ok ⟨Nc,(((),((30:Int),())),())⟩)
  (.br (decide ((64:Int)<a1))
   (.ok ⟨Nc,(((),((30:Int),())),())⟩)
   (gd [z1,mH ((z2,()),()),z1,mH ((z3,()),())] (.ok ⟨afO,(((),((0:Int),())),((a1,((7640891576956012808:UInt64)^^^(16842752:UInt64)+i2u a1,((13503953896175478587:UInt64),((4354685564936845355:UInt64),((11912009170470909681:UInt64),((5840696475078001361:UInt64),((11170449401992604703:UInt64),((2270897969802886507:UInt64)^^^kP z2 (List.length z2),((6620516959819538809:UInt64)^^^kP z3 (List.length z3),((),((0:UInt64),()))))))))))),([],())))⟩)))))
theorem aJG (x:apB) (Q:uP.Y->Prop):wpf te D8 av 1000 Tryz.f90 (uP.inp.inj x).tm (uP.inp.inj x).hp (aGQ uP aa0 Q) (λ_ _=>False)=(Nd (x.1.1) (x.1.2.1)).wpR Q:=by kernel_rfl
theorem awO (pre:apB->Bool) (F:apB->OT uP.Y) (hF:∀ (x:apB) oy,pre x=true->(F x).run=some oy->(Nd (x.1.1) (x.1.2.1)).run=some oy):ac Tryz.prog 90 (uP.aI pre F):=
 aky ar Az ab5 (f:=90) (fn:=Tryz.f90) (c:=aj Tryz.f90) (by kernel_rfl) (by kernel_rfl) (by kernel_rfl) (S:=uP) (k:=0) (by kernel_rfl) (λR hR=>af) (n:=1000) (outs:=aa0) (by kernel_rfl) (pre:=pre) (F:=F) (T:=λx=>Nd (x.1.1) (x.1.2.1)) (λx Q=>aJG x Q) hF
def Ph (p:List UInt8):List UInt8:=p.take 16++(List.replicate 16 (0:UInt8)).drop p.length
def gK (p:List UInt8) (n:Int):Bool:=decide (16<(p.length:Int))||decide (n<1)||decide (64<n)
theorem Y9 {p:List UInt8} (h:p.length<=16):(Ph p).length=16:=by
 simp only [Ph,List.length_append,List.length_take,List.length_drop,List.length_replicate]
 omega
abbrev aKB:Type:=Int×UInt64×UInt64×UInt64×UInt64×UInt64×UInt64×UInt64×UInt64×Unit×UInt64×Unit
def ap7 (n:Int) (h:List UInt64) (c:UInt64):aKB:=(n,h.getD 0 0,h.getD 1 0,h.getD 2 0,h.getD 3 0,h.getD 4 0,h.getD 5 0,h.getD 6 0,h.getD 7 0,(),c,())
def anA (p:List UInt8) (n:Int):List UInt64:= [0x6a09e667f3bcc908^^^(16842752+i2u n),0xbb67ae8584caa73b,0x3c6ef372fe94f82b,0xa54ff53a5f1d36f1,0x510e527fade682d1,0x9b05688c2b3e6c1f,
 0x1f83d9abfb41bd6b^^^kP ((Ph p).take 8) 8,0x5be0cd19137e2179^^^kP (((Ph p).drop 8).take 8) 8]
def alt (_:apB):Bool:=true
def Se (x:apB):OT uP.Y:=.br (gK x.1.1 x.1.2.1) (.ok ⟨Nc,(((),((30:Int),())),())⟩)
 (.ok ⟨afO,(((),((0:Int),())),(ap7 x.1.2.1 (anA x.1.1 x.1.2.1) 0,([],())))⟩)
theorem aHD:ac Tryz.prog 90 (uP.aI alt Se):=awO _ _ λx oy _ ho=>by
 rw [<-ho]
 obtain ⟨⟨p,n,⟨⟩⟩,⟨⟩⟩:=x
 clear ho
 by_cases h1:16<(p.length:Int)
 ·have e1:decide (16<(p.length:Int))=true:=decide_eq_true h1
  have eb:gK p n=true:=by simp only [gK,e1,Bool.true_or]
  simp only [Se,Nd,e1,eb]
  rfl
 ·have e1:decide (16<(p.length:Int))=false:=decide_eq_false h1
  by_cases h2:n<1
  ·have e2:decide (n<1)=true:=decide_eq_true h2
   have eb:gK p n=true:=by simp only [gK,e1,e2,Bool.true_or,Bool.false_or]
   simp only [Se,Nd,e1,e2,eb]
   rfl
  ·have e2:decide (n<1)=false:=decide_eq_false h2
   by_cases h3:64<n
   ·have e3:decide (64<n)=true:=decide_eq_true h3
    have eb:gK p n=true:=by simp only [gK,e1,e2,e3,Bool.false_or]
    simp only [Se,Nd,e1,e2,e3,eb]
    rfl
   ·have e3:decide (64<n)=false:=decide_eq_false h3
    have eb:gK p n=false:=by simp only [gK,e1,e2,e3,Bool.false_or]
    have hl:=Y9 (p:=p) (by omega)
    have hp:p.take 16++List.drop p.length [(0:UInt8),0,0,0,0,0,0,0,0,0,0,0,0,0,0,0]=Ph p:=rfl
    have l1:((Ph p).take 8).length=8:=by simp only [List.length_take,hl];omega
    have l2:(((Ph p).drop 8).take 8).length=8:=by simp only [List.length_take,List.length_drop,hl];omega
    simp only [Se,Nd,e1,e2,e3,eb,hp,List.drop_zero,l1,l2]
    refine (ah ?_).trans rfl
    simp only [mH,hl,l1,l2]
    decide
def Nb:cj:=(uP.aI alt Se)
theorem apA:ac Tryz.prog 90 Nb:=aHD
theorem apz:aG Nb:=aB
def SP:Env:=ay 90 Nb D8
theorem D1:aQ Tryz.prog SP:=ag apA Az
theorem OU:ax SP:=ae apz D7
theorem SO:aW Tryz.prog te SP:=aL follows ar D1 OU
def aKu (w:Sh):CSh:=.cells [.val false .int,.val false .u64,.val false .u64,.val false .u64,.val false .u64,.val false .u64,.val false .u64,.val false .u64,.val false .u64,w,.val false .u64]
def jp:aw:=⟨[.ptr 0 0 0,.val false (.list .u8)],[(0,aKu (.own 1)),(1,.row .u8)],true,1,true⟩
def pP:Shape:=⟨61,[(0,.ptr 0 0 0)],[(0,aKu (.val false (.list .u8))),(1,.gone)],2,true⟩
def rE:Shape:=pP
abbrev F1:Type:=((Unit)×(List (UInt8))×Unit)×(((Int)×(UInt64)×(UInt64)×(UInt64)×(UInt64)×(UInt64)×(UInt64)×(UInt64)×(UInt64)×(Unit)×(UInt64)×Unit)×(List (UInt8))×Unit)
abbrev cI:Type:=((Unit)×Unit)×(((Int)×(UInt64)×(UInt64)×(UInt64)×(UInt64)×(UInt64)×(UInt64)×(UInt64)×(UInt64)×(List (UInt8))×(UInt64)×Unit)×(Unit)×Unit)
abbrev ko:Type:=((Unit)×Unit)×(((Int)×(UInt64)×(UInt64)×(UInt64)×(UInt64)×(UInt64)×(UInt64)×(UInt64)×(UInt64)×(List (UInt8))×(UInt64)×Unit)×(Unit)×Unit)
def aaM:SE->Option Shape:=fc [(0,rE)] none
def awB (c0_0:Int) (c0_1:UInt64) (c0_2:UInt64) (c0_3:UInt64) (c0_4:UInt64) (c0_5:UInt64) (c0_6:UInt64) (c0_7:UInt64) (c0_8:UInt64) (c0_9:List (UInt8)) (c0_10:UInt64):OT (Sum cI aE):=
 let z0:Nat:=List.length c0_9
 let z1:Int:=(↑z0:Int)
 let z2:List UInt8:=List.drop 0 (List.take 128 c0_9)
 let z3:Nat:=List.length z2
 let z4:List UInt64:=ya [c0_1,c0_2,c0_3,c0_4,c0_5,c0_6,c0_7,c0_8] (tab z2 128 (0:UInt8)) (c0_10+(128:UInt64)) false
 (.br (decide ((128:Int)<z1))
 (gd [dH (0:Int) (128:Int) z0,decide (128<=z3),decide (128<=z3),dH (128:Int) z1 z0] (.ok (.inl (((),()),((c0_0,(List.getD z4 0 0,(List.getD z4 1 0,(List.getD z4 2 0,(List.getD z4 3 0,(List.getD z4 4 0,(List.getD z4 5 0,(List.getD z4 6 0,(List.getD z4 7 0,(List.drop 128 c0_9,(c0_10+(128:UInt64),()))))))))))),((),()))))))
 (.ok (.inr ⟨(.exit 0,rE),(((),()),((c0_0,(c0_1,(c0_2,(c0_3,(c0_4,(c0_5,(c0_6,(c0_7,(c0_8,(c0_9,(c0_10,()))))))))))),((),())))⟩)))
def uL (s:cI):OT (Sum cI aE):=awB (s.2.1.1) (s.2.1.2.1) (s.2.1.2.2.1) (s.2.1.2.2.2.1) (s.2.1.2.2.2.2.1) (s.2.1.2.2.2.2.2.1) (s.2.1.2.2.2.2.2.2.1) (s.2.1.2.2.2.2.2.2.2.1) (s.2.1.2.2.2.2.2.2.2.2.1) (s.2.1.2.2.2.2.2.2.2.2.2.1) (s.2.1.2.2.2.2.2.2.2.2.2.2.1)
theorem awy (s:cI) (Q:Sum cI aE->Prop):wps te SP av 1000 (aU (aj Tryz.f109) 0) (pP.inj s) (bU pP aaM (Q:Sum pP.T aE->Prop))=(uL s).wpR Q:=by kernel_rfl
def CE (g0_0:cI->ko) (s:cI):OT aE:=(.ok ⟨(.exit 0,rE),g0_0 s⟩)
def M3:az:=⟨[],[(0,.cells [.val false .int,.val false .u64,.val false .u64,.val false .u64,.val false .u64,.val false .u64,.val false .u64,.val false .u64,.val false .u64,.own 1,.val false .u64]),(1,.row .u8)],false⟩
def R5:SV->Option az:=λ_=>some M3
def VT (ok0:cI->Bool) (g0_0:cI->ko) (a1:List (UInt8)) (c0_0:Int) (c0_1:UInt64) (c0_2:UInt64) (c0_3:UInt64) (c0_4:UInt64) (c0_5:UInt64) (c0_6:UInt64) (c0_7:UInt64) (c0_8:UInt64) (c0_10:UInt64) (c1:List (UInt8)):OT jp.Y:=
 let z0:(PUnit×PUnit)×(Int×UInt64×UInt64×UInt64×UInt64×UInt64×UInt64×UInt64×UInt64×List UInt8×UInt64×PUnit)×PUnit×PUnit:=(((),()),(c0_0,c0_1,c0_2,c0_3,c0_4,c0_5,c0_6,c0_7,c0_8,c1++a1,c0_10,()),(),())
 let z1:=(g0_0 z0).snd.fst
 let z2:=z1.snd
 let z3:=z2.snd
 let z4:=z3.snd
 let z5:=z4.snd
 let z6:=z5.snd
 let z7:=z6.snd
 let z8:=z7.snd
 let z9:=z8.snd
 let z10:=z9.snd
 let z11:=z10.fst
 (gd [decide ((List.length c1+List.length a1)*1<=140737488355328),ok0 z0,lu ((z11,()),())] (.ok ⟨M3,((),((z1.fst,(z2.fst,(z3.fst,(z4.fst,(z5.fst,(z6.fst,(z7.fst,(z8.fst,(z9.fst,((),(z10.snd.fst,()))))))))))),(z11,())))⟩))
theorem aBX (ok0:cI->Bool) (g0_0:cI->ko) (x:F1) (Q:jp.Y->Prop):wpf te SP (aO 0 (cf pP 0 ok0 (CE g0_0)) av) 1000 Tryz.f109 (jp.inp.inj x).tm (jp.inp.inj x).hp (fnK jp R5 Q) (λ_ _=>False)=(VT ok0 g0_0 (x.1.2.1) (x.2.1.1) (x.2.1.2.1) (x.2.1.2.2.1) (x.2.1.2.2.2.1) (x.2.1.2.2.2.2.1) (x.2.1.2.2.2.2.2.1) (x.2.1.2.2.2.2.2.2.1) (x.2.1.2.2.2.2.2.2.2.1) (x.2.1.2.2.2.2.2.2.2.2.1) (x.2.1.2.2.2.2.2.2.2.2.2.2.1) (x.2.2.1)).wpR Q:=by kernel_rfl
theorem afz (ok0:cI->Bool) (g0_0:cI->ko) (h0:∀ s:cI,ok0 s=true->∃ m e,al (uL) m s=some e/\(CE g0_0 s).run=some e) (pre:F1->Bool) (F:F1->OT jp.Y) (hF:∀ (x:F1) oy,pre x=true->(F x).run=some oy->(VT ok0 g0_0 (x.1.2.1) (x.2.1.1) (x.2.1.2.1) (x.2.1.2.2.1) (x.2.1.2.2.2.1) (x.2.1.2.2.2.2.1) (x.2.1.2.2.2.2.2.1) (x.2.1.2.2.2.2.2.2.1) (x.2.1.2.2.2.2.2.2.2.1) (x.2.1.2.2.2.2.2.2.2.2.1) (x.2.1.2.2.2.2.2.2.2.2.2.2.1) (x.2.2.1)).run=some oy):ac Tryz.prog 109 (jp.aI pre F):=
 aD ar D1 SO (f:=109) (fn:=Tryz.f109) (c:=aj Tryz.f109) (by kernel_rfl) (by kernel_rfl) (by kernel_rfl) (S:=jp) (k:=2) (by kernel_rfl) (λR hR=>(aA (c:=(aj Tryz.f109)) (by kernel_rfl) (id:=0) (by kernel_rfl) (aP ar D1 SO (sh:=pP) hR (xs:=aaM) (aC (by kernel_rfl) (by kernel_rfl) hR) aM af (n:=1000) (T:=uL) (λs Q=>awy s Q) (ok:=ok0) (f:=CE g0_0) h0) af)) (n:=1000) (sel:=R5) (λv o h=>by cases h;rfl) (pre:=pre) (F:=F) (T:=λx=>VT ok0 g0_0 (x.1.2.1) (x.2.1.1) (x.2.1.2.1) (x.2.1.2.2.1) (x.2.1.2.2.2.1) (x.2.1.2.2.2.2.1) (x.2.1.2.2.2.2.2.1) (x.2.1.2.2.2.2.2.2.1) (x.2.1.2.2.2.2.2.2.2.1) (x.2.1.2.2.2.2.2.2.2.2.1) (x.2.1.2.2.2.2.2.2.2.2.2.2.1) (x.2.2.1)) (λx Q=>aBX ok0 g0_0 x Q) hF
def aoZ (s:List UInt64×UInt64×List UInt8):List UInt64×UInt64×List UInt8:=(ya s.1 (s.2.2.take 128) (s.2.1+128) false,s.2.1+128,s.2.2.drop 128)
def MN (s:List UInt64×UInt64×List UInt8):List UInt64×UInt64×List UInt8:=upto (λ_ s=>aoZ s) s ((s.2.2.length-1)/128)
abbrev aJS:Type:=Int×UInt64×UInt64×UInt64×UInt64×UInt64×UInt64×UInt64×UInt64×List UInt8×UInt64×Unit
def aHc (n:Int) (s:List UInt64×UInt64×List UInt8):aJS:=(n,s.1.getD 0 0,s.1.getD 1 0,s.1.getD 2 0,s.1.getD 3 0,s.1.getD 4 0,s.1.getD 5 0,s.1.getD 6 0,s.1.getD 7 0,s.2.2,s.2.1,())
def aIS (x:aJS):List UInt64×UInt64×List UInt8:=([x.2.1,x.2.2.1,x.2.2.2.1,x.2.2.2.2.1,x.2.2.2.2.2.1,x.2.2.2.2.2.2.1,x.2.2.2.2.2.2.2.1,x.2.2.2.2.2.2.2.2.1],x.2.2.2.2.2.2.2.2.2.2.1,x.2.2.2.2.2.2.2.2.2.1)
theorem uA {h:List UInt64} {b:List UInt8} {c:UInt64} {l:Bool} (hh:h.length=8):(ya h b c l).length=8:=by unfold ya;rw [kV];exact hh
def R6 (_:cI):Bool:=true
def aaP (s:cI):ko:=(((),()),(aHc s.2.1.1 (MN (aIS s.2.1)),(),()))
theorem awA:∀ s:cI,R6 s=true->∃ m e,al uL m s=some e/\(CE aaP s).run=some e:=by
 rintro ⟨⟨⟨⟩,⟨⟩⟩,⟨⟨n,h0,h1,h2,h3,h4,h5,h6,h7,w,c,⟨⟩⟩,⟨⟩,⟨⟩⟩⟩ _
 have:=(aR (T:=uL) (λ_ s=>((((),()),(aHc n s,(),())):cI)) (λ_ s=>aoZ s) (λs=>(⟨(.exit 0,rE),(((),()),(aHc n s,(),()))⟩:aE)) ((w.length-1)/128) ([h0,h1,h2,h3,h4,h5,h6,h7],c,w)
  (λk s=>s.1.length=8/\s.2.2.length+128*k=w.length) ⟨rfl,by simp⟩ (λk s hk hs=>⟨?_,?_⟩) (λs hs=> ?_)).1
 ·obtain ⟨m,hm⟩:=this
  exact ⟨m,_,hm,rfl⟩
 ·obtain ⟨h,c,v⟩:=s
  obtain ⟨a1,a2⟩:=hs
  dsimp only at a1 a2
  have hv:128<v.length:=by omega
  have t1: [h.getD 0 0,h.getD 1 0,h.getD 2 0,h.getD 3 0,h.getD 4 0,h.getD 5 0,h.getD 6 0,h.getD 7 0]=h:=(rfl:_=tab h 8 0).trans (jx a1)
  have t2:tab (v.take 128) 128 0=v.take 128:=jx (by simp;omega)
  have t3:(v.take 128).length=128:=by simp;omega
  refine (OT.ao (decide_eq_true (by dsimp only [aHc];omega))).trans ((ah ?_).trans ?_)
  ·simp only [aHc,List.drop_zero,t3,List.all_cons,List.all_nil,Bool.and_true,Bool.and_eq_true]
   exact ⟨fH (by omega),rfl,rfl,fH (by omega)⟩
  ·simp only [OT.cT,aHc,List.drop_zero,t1,t2]
   rfl
 ·obtain ⟨h,c,v⟩:=s
  obtain ⟨a1,a2⟩:=hs
  dsimp only at a1 a2
  refine ⟨uA a1,?_⟩
  simp only [aoZ,List.length_drop]
  omega
 ·obtain ⟨h,c,v⟩:=s
  obtain ⟨a1,a2⟩:=hs
  dsimp only at a1 a2
  exact OT.aq (decide_eq_false (by dsimp only [aHc];omega))
def BS (x:aKB) (w:List UInt8):List UInt64×UInt64×List UInt8:=([x.2.1,x.2.2.1,x.2.2.2.1,x.2.2.2.2.1,x.2.2.2.2.2.1,x.2.2.2.2.2.2.1,x.2.2.2.2.2.2.2.1,x.2.2.2.2.2.2.2.2.1],x.2.2.2.2.2.2.2.2.2.2.1,w)
def sB (s:List UInt64×UInt64×List UInt8) (b:List UInt8):List UInt64×UInt64×List UInt8:=MN (s.1,s.2.1,s.2.2++b)
theorem akX (s:List UInt64×UInt64×List UInt8):∀ k,(upto (λ_ s=>aoZ s) s k).2.2.length<=s.2.2.length
 |0=>Nat.le_refl _
 |k+1=>by
  have:=akX s k
  show (List.drop 128 (upto (λ_ s=>aoZ s) s k).2.2).length<=_
  rw [List.length_drop]
  omega
theorem Ra {n:Int} {h:List UInt64} {c:UInt64} {w:List UInt8} (hh:h.length=8):BS (ap7 n h c) w=(h,c,w):=by
 have: [h.getD 0 0,h.getD 1 0,h.getD 2 0,h.getD 3 0,h.getD 4 0,h.getD 5 0,h.getD 6 0,h.getD 7 0]=h:=(rfl:_=tab h 8 0).trans (jx hh)
 simp only [BS,ap7,this]
theorem aJt (s:List UInt64×UInt64×List UInt8) (hs:s.1.length=8):∀ k,(upto (λ_ s=>aoZ s) s k).1.length=8
 |0=>hs
 |k+1=>uA (aJt s hs k)
theorem avY (s:List UInt64×UInt64×List UInt8):∀ k,(upto (λ_ s=>aoZ s) s k).2.2.length=s.2.2.length-128*k
 |0=>rfl
 |k+1=>by
  have:=avY s k
  show (List.drop 128 (upto (λ_ s=>aoZ s) s k).2.2).length=_
  rw [List.length_drop,this]
  omega
theorem aBG (s:List UInt64×UInt64×List UInt8) (hs:s.1.length=8):(MN s).1.length=8:=aJt s hs _
theorem aoY (s:List UInt64×UInt64×List UInt8):(MN s).2.2.length<=128:=by
 unfold MN
 rw [avY]
 omega
def F0 (x:F1):Bool:=decide (x.2.2.1.length+x.1.2.1.length<=140737488355328)
def alg (x:F1):OT jp.Y:=.ok ⟨M3,((),(ap7 x.2.1.1 (sB (BS x.2.1 x.2.2.1) x.1.2.1).1 (sB (BS x.2.1 x.2.2.1) x.1.2.1).2.1,((sB (BS x.2.1 x.2.2.1) x.1.2.1).2.2,())))⟩
theorem awz:ac Tryz.prog 109 (jp.aI F0 alg):=afz R6 aaP awA _ _ λx oy hp ho=>by
 rw [<-ho]
 clear ho
 obtain ⟨⟨⟨⟩,b,⟨⟩⟩,⟨⟨n,h0,h1,h2,h3,h4,h5,h6,h7,⟨⟩,c,⟨⟩⟩,w,⟨⟩⟩⟩:=x
 have hp':=of_decide_eq_true hp
 dsimp only at hp'
 refine (ah ?_).trans rfl
 simp only [List.all_cons,List.all_nil,Bool.and_true,Bool.and_eq_true]
 refine ⟨decide_eq_true (by omega),rfl,decide_eq_true ?_⟩
 have:=akX ([h0,h1,h2,h3,h4,h5,h6,h7],c,w++b) (((w++b).length-1)/128)
 show (MN ([h0,h1,h2,h3,h4,h5,h6,h7],c,w++b)).2.2.length<=_
 refine Nat.le_trans this ?_
 show (w++b).length<=_
 rw [List.length_append]
 exact hp'
def zT:cj:=(jp.aI F0 alg)
theorem aaO:ac Tryz.prog 109 zT:=awz
theorem aaN:aG zT:=aB
def xV:Env:=ay 109 zT SP
theorem r7:aQ Tryz.prog xV:=ag aaO D1
theorem DU:ax xV:=ae aaN OU
theorem Ia:aW Tryz.prog te xV:=aL follows ar r7 DU
def uN:aw:=⟨[.ptr 0 0 0],[(0,aKu (.own 1)),(1,.row .u8)],false,2,true⟩
abbrev apu:Type:=((Unit)×Unit)×(((Int)×(UInt64)×(UInt64)×(UInt64)×(UInt64)×(UInt64)×(UInt64)×(UInt64)×(UInt64)×(Unit)×(UInt64)×Unit)×(List (UInt8))×Unit)
def M6:Shape:=⟨51,[(5,.ptr 2 0 0),(6,.own 3),(33,.val false .int),(34,.val false .int)],[(0,.cells [.val false .int,.val false .u64,.val false .u64,.val false .u64,.val false .u64,.val false .u64,.val false .u64,.val false .u64,.val false .u64,.own 1,.val false .u64]),(1,.row .u8),(2,.row .u64),(3,.row .u8)],2,true⟩
abbrev dU:Type:=((Unit)×(Unit)×(Int)×(Int)×Unit)×(((Int)×(UInt64)×(UInt64)×(UInt64)×(UInt64)×(UInt64)×(UInt64)×(UInt64)×(UInt64)×(Unit)×(UInt64)×Unit)×(List (UInt8))×(List (UInt64))×(List (UInt8))×Unit)
def CI:Shape:=⟨51,[(6,.own 2)],[(0,.cells [.val false .int,.val false .u64,.val false .u64,.val false .u64,.val false .u64,.val false .u64,.val false .u64,.val false .u64,.val false .u64,.own 1,.val false .u64]),(1,.row .u8),(2,.row .u8)],2,true⟩
abbrev pQ:Type:=((Unit)×Unit)×(((Int)×(UInt64)×(UInt64)×(UInt64)×(UInt64)×(UInt64)×(UInt64)×(UInt64)×(UInt64)×(Unit)×(UInt64)×Unit)×(List (UInt8))×(List (UInt8))×Unit)
def awE:SE->Option Shape:=fc [(0,CI)] none
def aHB (a33:Int) (a34:Int) (c0_0:Int) (c0_1:UInt64) (c0_2:UInt64) (c0_3:UInt64) (c0_4:UInt64) (c0_5:UInt64) (c0_6:UInt64) (c0_7:UInt64) (c0_8:UInt64) (c0_10:UInt64) (c1:List (UInt8)) (c2:List (UInt64)) (c3:List (UInt8)):OT (Sum dU aE):=
 let z0:Int:=Int.tdiv a34 (8:Int)
 let z1:Int:=(8:Int)*Int.tmod a34 (8:Int)
 let z2:Nat:=List.length c3
 let z3:Nat:=Int.toNat a34
 (.br (decide (a34<a33))
 (gd [true&&inR z0,inB z0 8,decide (Int.toNat z0+0<List.length c2),inR z1,decide ((0:Int)<=z1),inB a34 z2,decide (z3<z2),inR (a34+(1:Int))] (.ok (.inl (((),((),(a33,(a34+(1:Int),())))),((c0_0,(c0_1,(c0_2,(c0_3,(c0_4,(c0_5,(c0_6,(c0_7,(c0_8,((),(c0_10,()))))))))))),(c1,(c2,(List.set c3 z3 (UInt64.toUInt8 (bm (List.getD c2 (Int.toNat z0+0) (0:UInt64)) z1)),()))))))))
 (.ok (.inr ⟨(.exit 0,CI),(((),()),((c0_0,(c0_1,(c0_2,(c0_3,(c0_4,(c0_5,(c0_6,(c0_7,(c0_8,((),(c0_10,()))))))))))),(c1,(c3,()))))⟩)))
def M7 (s:dU):OT (Sum dU aE):=aHB (s.1.2.2.1) (s.1.2.2.2.1) (s.2.1.1) (s.2.1.2.1) (s.2.1.2.2.1) (s.2.1.2.2.2.1) (s.2.1.2.2.2.2.1) (s.2.1.2.2.2.2.2.1) (s.2.1.2.2.2.2.2.2.1) (s.2.1.2.2.2.2.2.2.2.1) (s.2.1.2.2.2.2.2.2.2.2.1) (s.2.1.2.2.2.2.2.2.2.2.2.2.1) (s.2.2.1) (s.2.2.2.1) (s.2.2.2.2.1)
theorem aHy (s:dU) (Q:Sum dU aE->Prop):wps te xV av 1000 (aU (aj Tryz.f110) 0) (M6.inj s) (bU M6 awE (Q:Sum M6.T aE->Prop))=(M7 s).wpR Q:=by kernel_rfl
def VZ (g0_0:dU->pQ) (s:dU):OT aE:=(.ok ⟨(.exit 0,CI),g0_0 s⟩)
def afK:az:=⟨[.own 2],[(0,.cells [.val false .int,.val false .u64,.val false .u64,.val false .u64,.val false .u64,.val false .u64,.val false .u64,.val false .u64,.val false .u64,.own 1,.val false .u64]),(1,.row .u8),(2,.row .u8)],false⟩
def alj:SV->Option az:=λ_=>some afK
def awG (ok0:dU->Bool) (g0_0:dU->pQ) (c0_0:Int) (c0_1:UInt64) (c0_2:UInt64) (c0_3:UInt64) (c0_4:UInt64) (c0_5:UInt64) (c0_6:UInt64) (c0_7:UInt64) (c0_8:UInt64) (c0_10:UInt64) (c1:List (UInt8)):OT uN.Y:=
 let z0:Nat:=List.length c1
 let z1:List UInt8:=List.take 128 c1++List.drop z0 (List.replicate 128 (0:UInt8))
 let z2:List UInt8:=List.replicate (Int.toNat c0_0) (0:UInt8)
 let z3:List UInt64:=ya [c0_1,c0_2,c0_3,c0_4,c0_5,c0_6,c0_7,c0_8] (tab z1 128 (0:UInt8)) (c0_10+i2u (↑(min z0 128):Int)) true
 let z4:(PUnit×PUnit×Int×Int×PUnit)×(Int×UInt64×UInt64×UInt64×UInt64×UInt64×UInt64×UInt64×UInt64×PUnit×UInt64×PUnit)×List UInt8×List UInt64×List UInt8×PUnit:=(((),(),(↑(List.length z2):Int),(0:Int),()),(c0_0,c0_1,c0_2,c0_3,c0_4,c0_5,c0_6,c0_7,c0_8,(),c0_10,()),c1,[List.getD z3 0 0,List.getD z3 1 0,List.getD z3 2 0,List.getD z3 3 0,List.getD z3 4 0,List.getD z3 5 0,List.getD z3 6 0,List.getD z3 7 0],z2,())
 let z5:=(g0_0 z4).snd
 let z6:=z5.fst
 let z7:=z6.snd
 let z8:=z7.snd
 let z9:=z8.snd
 let z10:=z9.snd
 let z11:=z10.snd
 let z12:=z11.snd
 let z13:=z12.snd
 let z14:=z13.snd
 let z15:=z5.snd
 (gd [decide (128<=List.length z1),decide ((0:Int)<=c0_0)&&decide (c0_0<=c0_0)&&decide (c0_0*(1:Int)<=(140737488355328:Int))&&decide (c0_0<=(140737488355328:Int)),ok0 z4] (.ok ⟨afK,(((),()),((z6.fst,(z7.fst,(z8.fst,(z9.fst,(z10.fst,(z11.fst,(z12.fst,(z13.fst,(z14.fst,((),(z14.snd.snd.fst,()))))))))))),(z15.fst,(z15.snd.fst,()))))⟩))
theorem aJE (ok0:dU->Bool) (g0_0:dU->pQ) (x:apu) (Q:uN.Y->Prop):wpf te xV (aO 0 (cf M6 0 ok0 (VZ g0_0)) av) 1000 Tryz.f110 (uN.inp.inj x).tm (uN.inp.inj x).hp (fnK uN alj Q) (λ_ _=>False)=(awG ok0 g0_0 (x.2.1.1) (x.2.1.2.1) (x.2.1.2.2.1) (x.2.1.2.2.2.1) (x.2.1.2.2.2.2.1) (x.2.1.2.2.2.2.2.1) (x.2.1.2.2.2.2.2.2.1) (x.2.1.2.2.2.2.2.2.2.1) (x.2.1.2.2.2.2.2.2.2.2.1) (x.2.1.2.2.2.2.2.2.2.2.2.2.1) (x.2.2.1)).wpR Q:=by kernel_rfl
theorem awF (ok0:dU->Bool) (g0_0:dU->pQ) (h0:∀ s:dU,ok0 s=true->∃ m e,al (M7) m s=some e/\(VZ g0_0 s).run=some e) (pre:apu->Bool) (F:apu->OT uN.Y) (hF:∀ (x:apu) oy,pre x=true->(F x).run=some oy->(awG ok0 g0_0 (x.2.1.1) (x.2.1.2.1) (x.2.1.2.2.1) (x.2.1.2.2.2.1) (x.2.1.2.2.2.2.1) (x.2.1.2.2.2.2.2.1) (x.2.1.2.2.2.2.2.2.1) (x.2.1.2.2.2.2.2.2.2.1) (x.2.1.2.2.2.2.2.2.2.2.1) (x.2.1.2.2.2.2.2.2.2.2.2.2.1) (x.2.2.1)).run=some oy):ac Tryz.prog 110 (uN.aI pre F):=
 aD ar r7 Ia (f:=110) (fn:=Tryz.f110) (c:=aj Tryz.f110) (by kernel_rfl) (by kernel_rfl) (by kernel_rfl) (S:=uN) (k:=2) (by kernel_rfl) (λR hR=>(aA (c:=(aj Tryz.f110)) (by kernel_rfl) (id:=0) (by kernel_rfl) (aP ar r7 Ia (sh:=M6) hR (xs:=awE) (aC (by kernel_rfl) (by kernel_rfl) hR) aM af (n:=1000) (T:=M7) (λs Q=>aHy s Q) (ok:=ok0) (f:=VZ g0_0) h0) af)) (n:=1000) (sel:=alj) (λv o h=>by cases h;rfl) (pre:=pre) (F:=F) (T:=λx=>awG ok0 g0_0 (x.2.1.1) (x.2.1.2.1) (x.2.1.2.2.1) (x.2.1.2.2.2.1) (x.2.1.2.2.2.2.1) (x.2.1.2.2.2.2.2.1) (x.2.1.2.2.2.2.2.2.1) (x.2.1.2.2.2.2.2.2.2.1) (x.2.1.2.2.2.2.2.2.2.2.1) (x.2.1.2.2.2.2.2.2.2.2.2.2.1) (x.2.2.1)) (λx Q=>aJE ok0 g0_0 x Q) hF
def Iy (h:List UInt64) (n:Nat):List UInt8:=upto (λk o=>o.set k (UInt64.toUInt8 (bm (h.getD (k/8) 0) (8*((k%8:Nat):Int))))) (List.replicate n 0) n
def VY (s:dU):Bool:=decide (s.1.2.2.2.1=0/\s.2.2.2.1.length=8/\s.1.2.2.1<=64/\0<=s.1.2.2.1/\s.2.2.2.2.1=List.replicate s.1.2.2.1.toNat 0)
def afL (s:dU):pQ:=(((),()),(s.2.1,s.2.2.1,Iy s.2.2.2.1 s.1.2.2.1.toNat,()))
theorem aHA:∀ s:dU,VY s=true->∃ m e,al M7 m s=some e/\(VZ afL s).run=some e:=by
 rintro ⟨⟨⟨⟩,⟨⟩,n,i,⟨⟩⟩,⟨d,w,h,o,⟨⟩⟩⟩ hh
 have h':=of_decide_eq_true hh
 dsimp only at h'
 obtain ⟨rfl,hl,hn,hn0,rfl⟩:=h'
 obtain ⟨k,rfl⟩:∃ k:Nat,n=(k:Int):=⟨n.toNat,by omega⟩
 have:=(aR (T:=M7) (λi o=>((((),(),(k:Int),(i:Int),()),(d,w,h,o,())):dU)) (λk o=>o.set k (UInt64.toUInt8 (bm (h.getD (k/8) 0) (8*((k%8:Nat):Int)))))
  (λo=>(⟨(.exit 0,CI),(((),()),(d,w,o,()))⟩:aE)) k (List.replicate k 0) (λ_ o=>o.length=k) (by simp) (λi o hi ho=>⟨?_,by rw [List.length_set];exact ho⟩) (λo ho=> ?_)).1
 ·obtain ⟨m,hm⟩:=this
  exact ⟨m,_,hm,rfl⟩
 ·have t1:Int.tdiv (i:Int) 8=((i/8:Nat):Int):=by rw [Int.tdiv_eq_ediv_of_nonneg (by omega)];omega
  have t2:Int.tmod (i:Int) 8=((i%8:Nat):Int):=by rw [Int.tmod_eq_emod_of_nonneg (by omega)];omega
  refine (OT.ao (decide_eq_true (by dsimp only;omega))).trans ((ah ?_).trans ?_)
  ·simp only [t1,t2,hl,ho,Int.toNat_natCast,List.all_cons,List.all_nil,Bool.and_true,Bool.and_eq_true]
   exact ⟨⟨trivial,aH (by omega)⟩,aN (by omega),decide_eq_true (by omega),aH (by omega),decide_eq_true (by omega),aN (by omega),decide_eq_true (by omega),aH (by omega)⟩
  ·simp only [OT.cT,t1,t2,Int.toNat_natCast,Nat.add_zero]
   rfl
 ·exact OT.aq (decide_eq_false (by dsimp only;omega))
def nA (w:List UInt8):List UInt8:=w.take 128++(List.replicate 128 (0:UInt8)).drop w.length
theorem BQ {w:List UInt8} (h:w.length<=128):(nA w).length=128:=by
 simp only [nA,List.length_append,List.length_take,List.length_drop,List.length_replicate]
 omega
def aFb (n:Int) (s:List UInt64×UInt64×List UInt8):List UInt8:=Iy (ya s.1 (nA s.2.2) (s.2.1+i2u (s.2.2.length:Int)) true) n.toNat
theorem afJ {n:Int} {d:aKB} {w:List UInt8} {h:List UInt64} (hh:h.length=8) (hn0:0<=n) (hn:n<=64):VY (((),(),n,0,()),(d,w,h,List.replicate n.toNat 0,()))=true:=decide_eq_true ⟨rfl,hh,hn,hn0,rfl⟩
def uS (p:List UInt8) (n:Int) (b:List UInt8):List UInt8:=aFb n (sB (anA p n,0,[]) b)
def VX (x:apu):Bool:=decide (0<=x.2.1.1/\x.2.1.1<=64/\x.2.2.1.length<=128)
def aDn (x:apu):OT uN.Y:=.ok ⟨afK,(((),()),(x.2.1,(x.2.2.1,(aFb x.2.1.1 (BS x.2.1 x.2.2.1),()))))⟩
theorem aHz:ac Tryz.prog 110 (uN.aI VX aDn):=awF VY afL aHA _ _ λx oy hp ho=>by
 rw [<-ho]
 clear ho
 obtain ⟨⟨⟨⟩,⟨⟩⟩,⟨⟨n,h0,h1,h2,h3,h4,h5,h6,h7,⟨⟩,c,⟨⟩⟩,w,⟨⟩⟩⟩:=x
 have hp':=of_decide_eq_true hp
 dsimp only at hp'
 obtain ⟨hn0,hn,hw⟩:=hp'
 have t1:w.take 128++List.drop w.length (List.replicate 128 (0:UInt8))=nA w:=rfl
 have t2:tab (nA w) 128 0=nA w:=jx (BQ hw)
 have t3:min w.length 128=w.length:=by omega
 have hc:∀ c,(ya [h0,h1,h2,h3,h4,h5,h6,h7] (nA w) c true).length=8:=λc=>uA rfl
 have t4:∀ c,tab (ya [h0,h1,h2,h3,h4,h5,h6,h7] (nA w) c true) 8 0=ya [h0,h1,h2,h3,h4,h5,h6,h7] (nA w) c true:=λc=>jx (hc c)
 have t5:((List.replicate n.toNat (0:UInt8)).length:Int)=n:=by simp;omega
 refine (ah ?_).trans ?_
 ·simp only [t1,t2,t3,t4,t5,BQ hw,List.all_cons,List.all_nil,Bool.and_true,Bool.and_eq_true]
  exact ⟨rfl,⟨⟨⟨decide_eq_true hn0,decide_eq_true (Int.le_refl _)⟩,decide_eq_true (by omega)⟩,decide_eq_true (by omega)⟩,afJ (hc _) hn0 hn⟩
 ·simp only [t1,t2,t3,t4,t5,afL]
  rfl
def M5:cj:=(uN.aI VX aDn)
theorem apt:ac Tryz.prog 110 M5:=aHz
theorem aps:aG M5:=aB
def abX:Env:=ay 110 M5 xV
theorem OP:aQ Tryz.prog abX:=ag apt r7
theorem OQ:ax abX:=ae aps DU
theorem ap3:aW Tryz.prog te abX:=aL follows ar OP OQ
def kJ:aw:=⟨[.val false .str,.val false .int,.val false (.list .u8)],[],true,0,false⟩
abbrev R8:Type:=((List UInt8)×(Int)×(List (UInt8))×Unit)×(Unit)
def xk:az:=⟨[.own 0,.val false .int],[(0,.row .u8)],false⟩
def aaS:SV->Option az:=λ_=>some xk
def afI (a0:List UInt8) (a1:Int) (a2:List (UInt8)):OT kJ.Y:=
 let z0:Int×UInt64×UInt64×UInt64×UInt64×UInt64×UInt64×UInt64×UInt64×PUnit×UInt64×PUnit:=ap7 a1 (anA a0 a1) (0:UInt64)
 let z1:=z0.fst
 let z2:=z0.snd
 let z3:=z2.snd
 let z4:=z3.snd
 let z5:=z4.snd
 let z6:=z5.snd
 let z7:=z6.snd
 let z8:=z7.snd
 let z9:=z8.snd
 let z10:Int×UInt64×UInt64×UInt64×UInt64×UInt64×UInt64×UInt64×UInt64×PUnit×UInt64×PUnit:=(z1,z2.fst,z3.fst,z4.fst,z5.fst,z6.fst,z7.fst,z8.fst,z9.fst,(),z9.snd.snd.fst,())
 let z11:List UInt64×UInt64×List UInt8:=sB (BS z10 []) a2
 let z12:=z11.snd
 let z13:Int×UInt64×UInt64×UInt64×UInt64×UInt64×UInt64×UInt64×UInt64×PUnit×UInt64×PUnit:=ap7 z1 z11.fst z12.fst
 let z14:=z13.fst
 let z15:=z13.snd
 let z16:=z15.snd
 let z17:=z16.snd
 let z18:=z17.snd
 let z19:=z18.snd
 let z20:=z19.snd
 let z21:=z20.snd
 let z22:=z21.snd
 let z23:Int×UInt64×UInt64×UInt64×UInt64×UInt64×UInt64×UInt64×UInt64×PUnit×UInt64×PUnit:=(z14,z15.fst,z16.fst,z17.fst,z18.fst,z19.fst,z20.fst,z21.fst,z22.fst,(),z22.snd.snd.fst,())
 let z24:=z12.snd
 (.br (gK a0 a1)
 (.ok ⟨xk,(((),((30:Int),())),([],()))⟩)
 (gd [F0 (((),a2,()),z10,[],()),VX (((),()),z23,z24,())] (.ok ⟨xk,(((),((0:Int),())),(aFb z14 (BS z23 z24),()))⟩)))
theorem aHx (x:R8) (Q:kJ.Y->Prop):wpf te abX av 1000 Tryz.f67 (kJ.inp.inj x).tm (kJ.inp.inj x).hp (fnK kJ aaS Q) (λ_ _=>False)=(afI (x.1.1) (x.1.2.1) (x.1.2.2.1)).wpR Q:=by kernel_rfl
theorem apr (pre:R8->Bool) (F:R8->OT kJ.Y) (hF:∀ (x:R8) oy,pre x=true->(F x).run=some oy->(afI (x.1.1) (x.1.2.1) (x.1.2.2.1)).run=some oy):ac Tryz.prog 67 (kJ.aI pre F):=
 aD ar OP ap3 (f:=67) (fn:=Tryz.f67) (c:=aj Tryz.f67) (by kernel_rfl) (by kernel_rfl) (by kernel_rfl) (S:=kJ) (k:=0) (by kernel_rfl) (λR hR=>af) (n:=1000) (sel:=aaS) (λv o h=>by cases h;rfl) (pre:=pre) (F:=F) (T:=λx=>afI (x.1.1) (x.1.2.1) (x.1.2.2.1)) (λx Q=>aHx x Q) hF
def CH (x:R8):Bool:=decide (x.1.2.2.1.length<=140737488355328)
def VW (x:R8):OT kJ.Y:=.br (gK x.1.1 x.1.2.1) (.ok ⟨xk,(((),((30:Int),())),([],()))⟩) (.ok ⟨xk,(((),((0:Int),())),(uS x.1.1 x.1.2.1 x.1.2.2.1,()))⟩)
theorem aB1:ac Tryz.prog 67 (kJ.aI CH VW):=apr _ _ λx oy hp ho=>by
 rw [<-ho]
 clear ho
 obtain ⟨⟨p,n,b,⟨⟩⟩,⟨⟩⟩:=x
 have hp':=of_decide_eq_true hp
 dsimp only at hp'
 cases hk:gK p n
 ·refine (OT.aq hk).trans ?_
  have e1:BS (ap7 n (anA p n) 0) []=(anA p n,0,[]):=Ra rfl
  have e2:∀ c w,BS (ap7 n (sB (anA p n,0,[]) b).1 c) w=((sB (anA p n,0,[]) b).1,c,w):=λc w=>Ra (aBG _ rfl)
  have hn:0<=n/\n<=64:=by
   simp only [gK,Bool.or_eq_false_iff,decide_eq_false_iff_not] at hk
   omega
  refine (ah ?_).trans ?_
  ·simp only [List.all_cons,List.all_nil,Bool.and_true,Bool.and_eq_true]
   refine ⟨decide_eq_true (by simp only [List.length_nil];omega),decide_eq_true ⟨hn.1,hn.2,?_⟩⟩
   exact aoY _
  ·have key:aFb n (BS (ap7 n (sB (BS (ap7 n (anA p n) 0) []) b).1 (sB (BS (ap7 n (anA p n) 0) []) b).2.1) (sB (BS (ap7 n (anA p n) 0) []) b).2.2)=uS p n b:=by
    rw [e1,e2]
    rfl
   simp only [VW,hk]
   exact congrArg (λl=>some (⟨xk,(((),((0:Int),())),(l,()))⟩:kJ.Y)) key
 ·refine (OT.ao hk).trans ?_
  simp only [VW,hk]
  rfl
def F3:cj:=(kJ.aI CH VW)
theorem afH:ac Tryz.prog 67 F3:=aB1
theorem afG:aG F3:=aB
def agz:Env:=ay 67 F3 abX
theorem ap2:aQ Tryz.prog agz:=ag afH OP
theorem abW:ax agz:=ae afG OQ
end Go.Proofs.YtohjofabochgfaaGreat

namespace Go.Proofs.YtohjofabochgfaaGreat
open Sx Go
def Sx.aa.nat (e:aa):Nat:=e.w0.toNat+18446744073709551616*(e.w1.toNat+18446744073709551616*(e.w2.toNat+18446744073709551616*e.w3.toNat))
def ofN (n:Nat):aa:=⟨UInt64.ofNat n,UInt64.ofNat (n/18446744073709551616),UInt64.ofNat (n/18446744073709551616/18446744073709551616),UInt64.ofNat (n/18446744073709551616/18446744073709551616/18446744073709551616)⟩
def yb (x y c:UInt64):UInt64:=UInt64.ofNat ((x.toNat+y.toNat+c.toNat)%18446744073709551616)
def AB (x y c:UInt64):UInt64:=UInt64.ofNat ((x.toNat+y.toNat+c.toNat)/18446744073709551616)
def qw (x y c:UInt64):UInt64:=UInt64.ofNat ((x.toNat+18446744073709551616-y.toNat-c.toNat)%18446744073709551616)
def WL (x y c:UInt64):UInt64:=UInt64.ofNat (if x.toNat<y.toNat+c.toNat then 1 else 0)
def axu (x y:UInt64):UInt64:=UInt64.ofNat (x.toNat*y.toNat/18446744073709551616)
theorem ff (x:UInt64) (k:Nat) (hk:k<64):(bm x (k:Int)).toNat=x.toNat/2^k:=by
 unfold bm
 rw [if_pos (by omega),UInt64.toNat_shiftRight,UInt64.toNat_ofNat',Int.toNat_natCast,Nat.shiftRight_eq_div_pow]
 congr 2
 omega
theorem lI (x:UInt64) (k:Nat) (hk:k<64):(bR x (k:Int)).toNat=x.toNat*2^k%2^64:=by
 unfold bR
 rw [if_pos (by omega),UInt64.toNat_shiftLeft,UInt64.toNat_ofNat',Int.toNat_natCast,Nat.shiftLeft_eq]
 congr 3
 omega
theorem jW (x:UInt64):(x&&&4294967295).toNat=x.toNat%4294967296:=by
 rw [UInt64.toNat_and]
 exact Nat.and_two_pow_sub_one_eq_mod x.toNat 32
theorem aIW (a b:UInt64):bm a 32*bm b 32+bm (bm a 32*(b&&&4294967295)+bm ((a&&&4294967295)*(b&&&4294967295)) 32) 32+
 bm (((bm a 32*(b&&&4294967295)+bm ((a&&&4294967295)*(b&&&4294967295)) 32)&&&4294967295)+(a&&&4294967295)*bm b 32) 32=axu a b:=by
 have ha:=a.toNat_lt
 have hb:=b.toNat_lt
 obtain ⟨h1,h2,h3,h4⟩:=Lib.mul64_hi a.toNat b.toNat ha hb
 have s32:∀ x:UInt64,(bm x 32).toNat=x.toNat/4294967296:=λx=>ff x 32 (by omega)
 have hx:=Lib.half_mul_le (a:=a.toNat/4294967296) (b:=b.toNat/4294967296) (by omega) (by omega)
 have hy:=Lib.half_mul_le (a:=a.toNat/4294967296) (b:=b.toNat%4294967296) (by omega) (by omega)
 have hz:=Lib.half_mul_le (a:=a.toNat%4294967296) (b:=b.toNat/4294967296) (by omega) (by omega)
 have e0:((a&&&4294967295)*(b&&&4294967295)).toNat=a.toNat%4294967296*(b.toNat%4294967296):=by
  rw [UInt64.toNat_mul,jW,jW,Nat.mod_eq_of_lt h1]
 have e1:(bm a 32*(b&&&4294967295)+bm ((a&&&4294967295)*(b&&&4294967295)) 32).toNat=a.toNat/4294967296*(b.toNat%4294967296)+a.toNat%4294967296*(b.toNat%4294967296)/4294967296:=by
  rw [UInt64.toNat_add,UInt64.toNat_mul,s32,s32,jW,e0,Nat.mod_eq_of_lt (a:=a.toNat/4294967296*(b.toNat%4294967296)) (by omega),Nat.mod_eq_of_lt h2]
 have e2:(((bm a 32*(b&&&4294967295)+bm ((a&&&4294967295)*(b&&&4294967295)) 32)&&&4294967295)+(a&&&4294967295)*bm b 32).toNat=
  (a.toNat/4294967296*(b.toNat%4294967296)+a.toNat%4294967296*(b.toNat%4294967296)/4294967296)%4294967296+a.toNat%4294967296*(b.toNat/4294967296):=by
  rw [UInt64.toNat_add,UInt64.toNat_mul,jW,jW,s32,e1,Nat.mod_eq_of_lt (a:=a.toNat%4294967296*(b.toNat/4294967296)) (by omega),Nat.mod_eq_of_lt h3]
 have hq:a.toNat*b.toNat/18446744073709551616<18446744073709551616:=by
  rw [Nat.div_lt_iff_lt_mul (by omega)]
  exact Nat.mul_lt_mul'' ha hb
 rw [<-UInt64.toNat_inj,UInt64.toNat_add,UInt64.toNat_add,UInt64.toNat_mul,s32,s32,s32,s32,e1,e2]
 have e3:(axu a b).toNat=a.toNat*b.toNat/18446744073709551616:=by
  unfold axu
  rw [UInt64.toNat_ofNat',Nat.mod_eq_of_lt hq]
 rw [e3,<-h4]
 rw [<-h4] at hq
 omega
def aH0 (h l y:UInt64):UInt64:=UInt64.ofNat ((h.toNat*18446744073709551616+l.toNat)/y.toNat)
def aaq (h l y:UInt64):UInt64:=UInt64.ofNat ((h.toNat*18446744073709551616+l.toNat)%y.toNat)
theorem aBI {m A B N:Nat} (hm:0<m) (e:N=A+m*B):N/m=B+A/m/\N%m=A%m:=by
 subst e
 exact ⟨by rw [Nat.add_mul_div_left _ _ hm,Nat.add_comm],Nat.add_mul_mod_self_left ..⟩
theorem VA {m N u t q r K L:Nat} (hm:0<m) (hL:0<L) (hu:N=u*K+t) (hq:u=q*(m*L)+r):
 N/m=q*(L*K)+((r*K+t)*L)/(m*L)/\N%m=((r*K+t)*L)%(m*L)/L:=by
 have e:N=(r*K+t)+m*(q*(L*K)):=by
  have h1:q*(m*L)*K=m*(q*(L*K)):=by
   rw [Nat.mul_assoc q,Nat.mul_assoc m,Nat.mul_left_comm m q]
  rw [hu,hq,Nat.add_mul,h1]
  omega
 obtain ⟨h1,h2⟩:=aBI hm e
 rw [h1,h2,Nat.mul_div_mul_right _ _ hL,Nat.mul_mod_mul_right,Nat.mul_div_cancel _ hL]
 exact ⟨rfl,rfl⟩
theorem mR (x y c:UInt64):x.toNat+y.toNat+c.toNat=(yb x y c).toNat+18446744073709551616*(AB x y c).toNat:=by
 have hx:=x.toNat_lt
 have hy:=y.toNat_lt
 have hc:=c.toNat_lt
 unfold yb AB
 rw [UInt64.toNat_ofNat',UInt64.toNat_ofNat',Nat.mod_eq_of_lt (b:=2^64) (by omega),Nat.mod_eq_of_lt (b:=2^64) (by omega)]
 omega
theorem Gh {x y c:UInt64} (hc:c.toNat<=1):(AB x y c).toNat<=1:=by
 have hx:=x.toNat_lt
 have hy:=y.toNat_lt
 unfold AB
 rw [UInt64.toNat_ofNat',Nat.mod_eq_of_lt (by omega)]
 omega
theorem AO (x y c:UInt64):(WL x y c).toNat=if x.toNat<y.toNat+c.toNat then 1 else 0:=by
 unfold WL
 rw [UInt64.toNat_ofNat']
 split<;>rfl
theorem yR {x y c:UInt64}:(WL x y c).toNat<=1:=by
 rw [AO]
 split<;>omega
theorem AP {x y c:UInt64} (hc:c.toNat<=1):x.toNat+18446744073709551616*(WL x y c).toNat=(qw x y c).toNat+y.toNat+c.toNat:=by
 have hx:=x.toNat_lt
 have hy:=y.toNat_lt
 rw [AO]
 unfold qw
 rw [UInt64.toNat_ofNat',Nat.mod_eq_of_lt (b:=2^64) (by omega)]
 split<;>omega
theorem jz (e:aa):e.nat<115792089237316195423570985008687907853269984665640564039457584007913129639936:=by
 have h0:=e.w0.toNat_lt
 have h1:=e.w1.toNat_lt
 have h2:=e.w2.toNat_lt
 have h3:=e.w3.toNat_lt
 unfold Sx.aa.nat
 omega
theorem Ed {a b X Y:Nat} (ha:a<18446744073709551616) (hb:b<18446744073709551616) (h:a+18446744073709551616*X=b+18446744073709551616*Y):a=b/\X=Y:=by
 omega
theorem rc {e f:aa} (h:e.nat=f.nat):e=f:=by
 unfold Sx.aa.nat at h
 obtain ⟨h0,h⟩:=Ed e.w0.toNat_lt f.w0.toNat_lt h
 obtain ⟨h1,h⟩:=Ed e.w1.toNat_lt f.w1.toNat_lt h
 obtain ⟨h2,h3⟩:=Ed e.w2.toNat_lt f.w2.toNat_lt h
 obtain ⟨a,b,c,d⟩:=e
 obtain ⟨a',b',c',d'⟩:=f
 simp only at h0 h1 h2 h3
 rw [UInt64.toNat_inj.1 h0,UInt64.toNat_inj.1 h1,UInt64.toNat_inj.1 h2,UInt64.toNat_inj.1 h3]
theorem div_eq {n a b:Nat} (ha:a<18446744073709551616) (h:n=a+18446744073709551616*b):n/18446744073709551616=b/\n%18446744073709551616=a:=by
 omega
theorem aui {n:Nat} {a b c d:UInt64} {k:Nat} (h:n=a.toNat+18446744073709551616*(b.toNat+18446744073709551616*(c.toNat+18446744073709551616*(d.toNat+18446744073709551616*k)))):ofN n=⟨a,b,c,d⟩:=by
 obtain ⟨h1,h0⟩:=div_eq a.toNat_lt h
 obtain ⟨h2,h3⟩:=div_eq b.toNat_lt h1
 obtain ⟨h4,h5⟩:=div_eq c.toNat_lt h2
 have h6:n/18446744073709551616/18446744073709551616/18446744073709551616%18446744073709551616=d.toNat:=by
  rw [h4]
  have:=d.toNat_lt
  omega
 unfold ofN
 have e:∀ (m:Nat) (x:UInt64),m%18446744073709551616=x.toNat->UInt64.ofNat m=x:=λm x hm=>by
  rw [<-UInt64.toNat_inj,UInt64.toNat_ofNat']
  exact hm
 rw [e _ a h0,e _ b h3,e _ c h5,e _ d h6]
theorem Uy (n:Nat):(ofN n).nat=n%115792089237316195423570985008687907853269984665640564039457584007913129639936:=by
 unfold ofN aa.nat
 simp only [UInt64.toNat_ofNat']
 rw [show (2:Nat)^64=18446744073709551616 from rfl]
 omega
theorem kx {n:Nat} (h:n<115792089237316195423570985008687907853269984665640564039457584007913129639936):(ofN n).nat=n:=by
 rw [Uy]
 exact Nat.mod_eq_of_lt h
theorem wB (e:aa):ofN e.nat=e:=rc (kx (jz e))
def qq (a b:aa):aa×Bool:=(ofN (a.nat+b.nat),Nat.ble 115792089237316195423570985008687907853269984665640564039457584007913129639936 (a.nat+b.nat))
def eE (a b:aa):aa×Bool:=(ofN (a.nat+115792089237316195423570985008687907853269984665640564039457584007913129639936-b.nat),Nat.blt a.nat b.nat)
theorem Wh {x y c s k X Y R:Nat} (h1:x+y+c=s+18446744073709551616*k) (h2:X+Y+k=R):(x+18446744073709551616*X)+(y+18446744073709551616*Y)+c=s+18446744073709551616*R:=by
 omega
theorem S4 {x y c s k X Y R Q:Nat} (h1:x+18446744073709551616*k=s+y+c) (h2:X+18446744073709551616*Q=R+Y+k):(x+18446744073709551616*X)+18446744073709551616*(18446744073709551616*Q)=s+18446744073709551616*R+(y+18446744073709551616*Y)+c:=by
 omega
theorem PJ (a b:aa):let k0:=AB a.w0 b.w0 0;let k1:=AB a.w1 b.w1 k0;let k2:=AB a.w2 b.w2 k1;let k3:=AB a.w3 b.w3 k2
 (k0.toNat<=1/\k1.toNat<=1/\k2.toNat<=1)/\qq a b=(⟨yb a.w0 b.w0 0,yb a.w1 b.w1 k0,yb a.w2 b.w2 k1,yb a.w3 b.w3 k2⟩,!(k3==0)):=by
 intro k0 k1 k2 k3
 have l0:k0.toNat<=1:=Gh (by decide)
 have l1:k1.toNat<=1:=Gh l0
 have l2:k2.toNat<=1:=Gh l1
 have l3:k3.toNat<=1:=Gh l2
 refine ⟨⟨l0,l1,l2⟩,?_⟩
 have h:=Wh (mR a.w0 b.w0 0) (Wh (mR a.w1 b.w1 k0) (Wh (mR a.w2 b.w2 k1) (mR a.w3 b.w3 k2)))
 rw [show (0:UInt64).toNat=0 from rfl,Nat.add_zero] at h
 unfold qq
 have hn:a.nat+b.nat=(yb a.w0 b.w0 0).toNat+18446744073709551616*((yb a.w1 b.w1 k0).toNat+18446744073709551616*((yb a.w2 b.w2 k1).toNat+18446744073709551616*((yb a.w3 b.w3 k2).toNat+18446744073709551616*k3.toNat))):=h
 rw [aui hn]
 congr 1
 have hs:=jz ⟨yb a.w0 b.w0 0,yb a.w1 b.w1 k0,yb a.w2 b.w2 k1,yb a.w3 b.w3 k2⟩
 unfold Sx.aa.nat at hs
 simp only at hs
 have hk:k3.toNat=0\/k3.toNat=1:=by omega
 rcases hk with hk|hk
 ·have e:k3=0:=UInt64.toNat_inj.1 hk
  rw [hk] at hn
  rw [e]
  cases hb:Nat.ble 115792089237316195423570985008687907853269984665640564039457584007913129639936 (a.nat+b.nat)
  ·rfl
  ·have:=Nat.le_of_ble_eq_true hb
   omega
 ·have e:(k3==0)=false:=by
   have:¬k3=0:=λe=>by rw [e] at hk;cases hk
   simpa using this
  rw [hk] at hn
  rw [e]
  exact Nat.ble_eq_true_of_le (by omega)
theorem Ef (a b:aa):let k0:=WL a.w0 b.w0 0;let k1:=WL a.w1 b.w1 k0;let k2:=WL a.w2 b.w2 k1;let k3:=WL a.w3 b.w3 k2
 (k0.toNat<=1/\k1.toNat<=1/\k2.toNat<=1)/\eE a b=(⟨qw a.w0 b.w0 0,qw a.w1 b.w1 k0,qw a.w2 b.w2 k1,qw a.w3 b.w3 k2⟩,!(k3==0)):=by
 intro k0 k1 k2 k3
 have l0:k0.toNat<=1:=yR
 have l1:k1.toNat<=1:=yR
 have l2:k2.toNat<=1:=yR
 have l3:k3.toNat<=1:=yR
 refine ⟨⟨l0,l1,l2⟩,?_⟩
 have h:=S4 (AP (x:=a.w0) (y:=b.w0) (c:=0) (by decide)) (S4 (AP (x:=a.w1) (y:=b.w1) l0) (S4 (AP (x:=a.w2) (y:=b.w2) l1) (AP (x:=a.w3) (y:=b.w3) l2)))
 rw [show (0:UInt64).toNat=0 from rfl,Nat.add_zero] at h
 unfold eE
 have hs:=jz ⟨qw a.w0 b.w0 0,qw a.w1 b.w1 k0,qw a.w2 b.w2 k1,qw a.w3 b.w3 k2⟩
 have h':a.nat+18446744073709551616*(18446744073709551616*(18446744073709551616*(18446744073709551616*k3.toNat)))=aa.nat ⟨qw a.w0 b.w0 0,qw a.w1 b.w1 k0,qw a.w2 b.w2 k1,qw a.w3 b.w3 k2⟩+b.nat:=h
 have ha:=jz a
 have hb:=jz b
 have hS:=jz ⟨qw a.w0 b.w0 0,qw a.w1 b.w1 k0,qw a.w2 b.w2 k1,qw a.w3 b.w3 k2⟩
 have e1:ofN (a.nat+115792089237316195423570985008687907853269984665640564039457584007913129639936-b.nat)=⟨qw a.w0 b.w0 0,qw a.w1 b.w1 k0,qw a.w2 b.w2 k1,qw a.w3 b.w3 k2⟩:=by
  apply rc
  rw [Uy]
  generalize aa.nat ⟨qw a.w0 b.w0 0,qw a.w1 b.w1 k0,qw a.w2 b.w2 k1,qw a.w3 b.w3 k2⟩=S at*
  omega
 rw [e1]
 congr 1
 generalize aa.nat ⟨qw a.w0 b.w0 0,qw a.w1 b.w1 k0,qw a.w2 b.w2 k1,qw a.w3 b.w3 k2⟩=S at*
 have hk:k3.toNat=0\/k3.toNat=1:=by omega
 rcases hk with hk|hk
 ·have e:k3=0:=UInt64.toNat_inj.1 hk
  rw [hk] at h'
  rw [e]
  cases hq:Nat.blt a.nat b.nat
  ·rfl
  ·have:=dW hq
   omega
 ·have e:(k3==0)=false:=by
   have:¬k3=0:=λe=>by rw [e] at hk;cases hk
   simpa using this
  rw [hk] at h'
  rw [e]
  exact Nat.ble_eq_true_of_le (show a.nat+1<=b.nat by omega)
def lst (e:aa):List UInt64:= [e.w0,e.w1,e.w2,e.w3]
def elemOf (l:List UInt64):aa:=⟨l.getD 0 0,l.getD 1 0,l.getD 2 0,l.getD 3 0⟩
theorem aS {l:List UInt64} (h:l.length=4):lst (elemOf l)=l:=by
 match l,h with
 | [a,b,c,d],_=>rfl
theorem aoX (e:aa):elemOf (lst e)=e:=rfl
theorem cN (e:aa):(lst e).length=4:=rfl
theorem rB {h l y:UInt64} (hy:0<y.toNat):(aaq h l y).toNat=(h.toNat*18446744073709551616+l.toNat)%y.toNat:=by
 unfold aaq
 rw [UInt64.toNat_ofNat']
 exact Nat.mod_eq_of_lt (Nat.lt_trans (Nat.mod_lt _ hy) y.toNat_lt)
theorem UP (r x m:Nat):(r%m*18446744073709551616+x)%m=(r*18446744073709551616+x)%m:=by
 rw [Nat.add_mod,Nat.mul_mod,Nat.mod_mod,<-Nat.mul_mod,<-Nat.add_mod]
theorem agK (a b:aa):(eE a b).2=Nat.blt a.nat b.nat:=rfl
theorem m6 {a b:aa} (h:b.nat<=a.nat):(eE a b).1.nat=a.nat-b.nat:=by
 have ha:=jz a
 show (ofN _).nat=_
 rw [Uy]
 omega
theorem afV {w N r:Nat} (hr:r<64):(w+18446744073709551616*N)/2^r%2=w/2^r%2:=by
 have e:18446744073709551616*N=2^r*(2*(2^(63-r)*N)):=by
  rw [<-Nat.mul_assoc,<-Nat.mul_assoc,Nat.mul_comm (2^r) 2,Nat.mul_assoc 2,<-Nat.pow_add,show r+(63-r)=63 by omega]
 rw [e,Nat.add_mul_div_left _ _ (Nat.two_pow_pos r),Nat.add_mul_mod_self_left]
theorem Ec {w N:Nat} (hw:w<18446744073709551616) (r:Nat):(w+18446744073709551616*N)/2^(64+r)=N/2^r:=by
 rw [Nat.pow_add,<-Nat.div_div_eq_div_mul,show 2^64=18446744073709551616 from rfl,show (w+18446744073709551616*N)/18446744073709551616=N by omega]
theorem rI {a:aa} {q r:Nat} (hq:q<4) (hr:r<64):((lst a).getD q 0).toNat/2^r%2=a.nat/2^(64*q+r)%2:=by
 have h0:=a.w0.toNat_lt
 have h1:=a.w1.toNat_lt
 have h2:=a.w2.toNat_lt
 unfold Sx.aa.nat
 have hq':q=0\/q=1\/q=2\/q=3:=by omega
 rcases hq' with rfl|rfl|rfl|rfl
 ·rw [Nat.mul_zero,Nat.zero_add,afV hr];rfl
 ·rw [show 64*1+r=64+r by omega,Ec h0,afV hr];rfl
 ·rw [show 64*2+r=64+(64+r) by omega,Ec h0,Ec h1,afV hr];rfl
 ·rw [show 64*3+r=64+(64+(64+r)) by omega,Ec h0,Ec h1,Ec h2];rfl
def afX (n i:Nat):Bool:=Nat.beq (n/2^i%2) 1
theorem V7 (x:UInt64):(x&&&1==1)=Nat.beq (x.toNat%2) 1:=by
 have e:(x&&&1).toNat=x.toNat%2:=by
  rw [UInt64.toNat_and]
  exact Nat.and_two_pow_sub_one_eq_mod x.toNat 1
 rw [<-e]
 by_cases h:x&&&1=1
 ·rw [h];rfl
 ·have h':¬(x&&&1).toNat=1:=λh'=>h (UInt64.toNat_inj.1 h')
  have h2:Nat.beq (x&&&1).toNat 1=false:=by
   cases hb:Nat.beq (x&&&1).toNat 1
   ·rfl
   ·exact absurd (Nat.eq_of_beq_eq_true hb) h'
  rw [h2]
  simpa using h
theorem aAO (x:aa):(x.w0&&&1==1)=(x.w0%2==1):=by
 have h:=V7 x.w0
 rw [h]
 have h2:(x.w0%2).toNat=x.w0.toNat%2:=by rw [UInt64.toNat_mod];rfl
 rw [<-h2]
 by_cases h:x.w0%2=1
 ·rw [h];rfl
 ·have hn:¬(x.w0%2).toNat=1:=λe=>h (UInt64.toNat_inj.1 e)
  have:Nat.beq (x.w0%2).toNat 1=false:=by
   cases hb:Nat.beq (x.w0%2).toNat 1
   ·rfl
   ·exact absurd (Nat.eq_of_beq_eq_true hb) hn
  rw [this]
  symm
  simpa using h
abbrev Ii:Ty:=.prod .elem (.prod .elem (.prod .elem .bool))
end Go.Proofs.YtohjofabochgfaaGreat

namespace Go.Proofs.YtohjofabochgfaaGreat
open Sx Go
set_option maxRecDepth 100000
def Wf:aw:=⟨[.val false .u64,.val false .u64,.val false .u64],[],true,0,false⟩
abbrev axc:Type:=((UInt64)×(UInt64)×(UInt64)×Unit)×(Unit)
def axb:az:=⟨[.val false .u64,.val false .u64],[],false⟩
def Ge (x:axc):Bool:=decide (x.1.2.2.1.toNat<=1)
def alF (x:axc):OT Wf.Y:=.ok ⟨axb,((yb x.1.1 x.1.2.1 x.1.2.2.1,AB x.1.1 x.1.2.1 x.1.2.2.1,()),())⟩
theorem apI (a b c:UInt64) (hc:c.toNat<=1) (w:World):(callFunc 151 #[iq a,iq b,iq c]).run Tryz.prog w=.ok (.value (.tuple #[iq (yb a b c),iq (AB a b c)])) w:=by
 unfold iq
 rw [run_callFunc_extern Tryz.func151 (by kernel_rfl) (by kernel_rfl) (by kernel_rfl) (e:=add64Entry) (by kernel_rfl),run_add64 (a.toNat:Int) (b.toNat:Int) (c.toNat:Int) (by omega) (by omega) (by omega) (by omega)]
 have ha:=a.toNat_lt
 have hb:=b.toNat_lt
 have e1:(((yb a b c).toNat:Nat):Int)=((a.toNat:Int)+b.toNat+c.toNat)%18446744073709551616:=by
  unfold yb
  rw [UInt64.toNat_ofNat',Nat.mod_eq_of_lt (by omega)]
  omega
 have e2:(((AB a b c).toNat:Nat):Int)=((a.toNat:Int)+b.toNat+c.toNat)/18446744073709551616:=by
  unfold AB
  rw [UInt64.toNat_ofNat',Nat.mod_eq_of_lt (by omega)]
  omega
 rw [e1,e2]
 rfl
theorem axa:ac Tryz.prog 151 (Wf.aI Ge alF):=by
 refine aC8 (k:=0) (by kernel_rfl) λx oy vs N w hp ho hr=> ?_
 obtain ⟨⟨a,b,c,⟨⟩⟩,⟨⟩⟩:=x
 cases ho
 have hc:c.toNat<=1:=of_decide_eq_true hp
 have hr':SV.bV N [.u64 a,.u64 b,.u64 c] vs:=hr
 simp only [SV.bV,SV.rel] at hr'
 obtain ⟨_,_,rfl,rfl,_,_,rfl,rfl,_,_,rfl,rfl,rfl⟩:=hr'
 refine ⟨.tup [.u64 (yb a b c),.u64 (AB a b c)],_,apI a b c hc w,?_,⟨rfl,by kernel_rfl⟩⟩
 simp only [SV.rel]
 exact ⟨_,rfl,by simp only [SV.bV,SV.rel];exact ⟨_,_,rfl,rfl,_,_,rfl,rfl,rfl⟩⟩
def Ab:cj:=(Wf.aI Ge alF)
theorem abo:ac Tryz.prog 151 Ab:=axa
theorem abn:aG Ab:=aB
def WJ:Env:=ay 151 Ab agz
theorem agB:aQ Tryz.prog WJ:=ag abo ap2
theorem WI:ax WJ:=ae abn abW
def V0:aw:=⟨[.val false .u64,.val false .u64,.val false .u64],[],true,0,false⟩
abbrev awJ:Type:=((UInt64)×(UInt64)×(UInt64)×Unit)×(Unit)
def awI:az:=⟨[.val false .u64,.val false .u64],[],false⟩
def F4 (x:awJ):Bool:=decide (x.1.2.2.1.toNat<=1)
def alk (x:awJ):OT V0.Y:=.ok ⟨awI,((qw x.1.1 x.1.2.1 x.1.2.2.1,WL x.1.1 x.1.2.1 x.1.2.2.1,()),())⟩
def aCK:Array Value->Sem Value:=λargs=>do
 let (x,y,b) <-Extern.MathBitsCarry.three "Sub64" args
 pure (Extern.MathBitsCarry.pair ((x+Extern.MathBitsCarry.m64-y-b)%Extern.MathBitsCarry.m64) (if x<y+b then 1 else 0))
theorem al8 {P:Program} (x y b:Nat) (hb:b<=1) (w:World):
 (aCK #[.int .u64 x,.int .u64 y,.int .u64 b]).run P w=
  .ok (.tuple #[.int .u64 (((x+18446744073709551616-y-b)%18446744073709551616:Nat):Int),.int .u64 ((if x<y+b then 1 else 0:Nat):Int)]) w:=by
 have:b=0\/b=1:=by omega
 rcases this with rfl|rfl<;>rfl
theorem apv (a b c:UInt64) (hc:c.toNat<=1) (w:World):(callFunc 153 #[iq a,iq b,iq c]).run Tryz.prog w=.ok (.value (.tuple #[iq (qw a b c),iq (WL a b c)])) w:=by
 unfold iq
 rw [run_callFunc_extern Tryz.func153 (by kernel_rfl) (by kernel_rfl) (by kernel_rfl) (e:=aCK) (by kernel_rfl),al8 a.toNat b.toNat c.toNat (by omega)]
 have ha:=a.toNat_lt
 have hb:=b.toNat_lt
 have e1:(qw a b c).toNat=(a.toNat+18446744073709551616-b.toNat-c.toNat)%18446744073709551616:=by
  unfold qw
  rw [UInt64.toNat_ofNat',Nat.mod_eq_of_lt (by omega)]
 have e2:(WL a b c).toNat=if a.toNat<b.toNat+c.toNat then 1 else 0:=by
  unfold WL
  rw [UInt64.toNat_ofNat',Nat.mod_eq_of_lt (by split<;>omega)]
 rw [e1,e2]
 rfl
theorem awH:ac Tryz.prog 153 (V0.aI F4 alk):=by
 refine aC8 (k:=0) (by kernel_rfl) λx oy vs N w hp ho hr=> ?_
 obtain ⟨⟨a,b,c,⟨⟩⟩,⟨⟩⟩:=x
 cases ho
 have hc:c.toNat<=1:=of_decide_eq_true hp
 have hr':SV.bV N [.u64 a,.u64 b,.u64 c] vs:=hr
 simp only [SV.bV,SV.rel] at hr'
 obtain ⟨_,_,rfl,rfl,_,_,rfl,rfl,_,_,rfl,rfl,rfl⟩:=hr'
 refine ⟨.tup [.u64 (qw a b c),.u64 (WL a b c)],_,apv a b c hc w,?_,⟨rfl,by kernel_rfl⟩⟩
 simp only [SV.rel]
 exact ⟨_,rfl,by simp only [SV.bV,SV.rel];exact ⟨_,_,rfl,rfl,_,_,rfl,rfl,rfl⟩⟩
def zU:cj:=(V0.aI F4 alk)
theorem aaU:ac Tryz.prog 153 zU:=awH
theorem aaT:aG zU:=aB
def DW:Env:=ay 153 zU WJ
theorem Ar:aQ Tryz.prog DW:=ag aaU agB
theorem DV:ax DW:=ae aaT WI
theorem abY:aW Tryz.prog te DW:=aL follows ar Ar DV
def js:aw:=⟨[.val false .u64,.val false .u64],[],true,0,false⟩
abbrev F8:Type:=((UInt64)×(UInt64)×Unit)×(Unit)
def Nf:az:=⟨[.val false .u64,.val false .u64],[],false⟩
def Sf:SV->Option az:=λ_=>some Nf
def Ja (a0:UInt64) (a1:UInt64):OT js.Y:=
 let z0:UInt64:=bm a0 (32:Int)
 let z1:UInt64:=bm a1 (32:Int)
 let z2:UInt64:=z0*(a1&&&(4294967295:UInt64))+bm ((a0&&&(4294967295:UInt64))*(a1&&&(4294967295:UInt64))) (32:Int)
 (.ok ⟨Nf,((z0*z1+bm z2 (32:Int)+bm ((z2&&&(4294967295:UInt64))+(a0&&&(4294967295:UInt64))*z1) (32:Int),(a0*a1,())),())⟩)
theorem aB4 (x:F8) (Q:js.Y->Prop):wpf te DW av 1000 Tryz.f165 (js.inp.inj x).tm (js.inp.inj x).hp (fnK js Sf Q) (λ_ _=>False)=(Ja (x.1.1) (x.1.2.1)).wpR Q:=by kernel_rfl
theorem afP (pre:F8->Bool) (F:F8->OT js.Y) (hF:∀ (x:F8) oy,pre x=true->(F x).run=some oy->(Ja (x.1.1) (x.1.2.1)).run=some oy):ac Tryz.prog 165 (js.aI pre F):=
 aD ar Ar abY (f:=165) (fn:=Tryz.f165) (c:=aj Tryz.f165) (by kernel_rfl) (by kernel_rfl) (by kernel_rfl) (S:=js) (k:=0) (by kernel_rfl) (λR hR=>af) (n:=1000) (sel:=Sf) (λv o h=>by cases h;rfl) (pre:=pre) (F:=F) (T:=λx=>Ja (x.1.1) (x.1.2.1)) (λx Q=>aB4 x Q) hF
def Sg (_:F8):Bool:=true
def V4 (x:F8):OT js.Y:=.ok ⟨Nf,((axu x.1.1 x.1.2.1,(x.1.1*x.1.2.1,())),())⟩
theorem awP:ac Tryz.prog 165 (js.aI Sg V4):=afP _ _ λx oy _ ho=>by
 rw [<-ho]
 simp only [V4,Ja,aIW]
def zX:cj:=(js.aI Sg V4)
theorem aa2:ac Tryz.prog 165 zX:=awP
theorem aa1:aG zX:=aB
def D3:Env:=ay 165 zX DW
theorem Av:aQ Tryz.prog D3:=ag aa2 Ar
theorem D2:ax D3:=ae aa1 DV
theorem ab2:aW Tryz.prog te D3:=aL follows ar Av D2
def jt:aw:=⟨[.val false .u64],[],true,0,false⟩
abbrev Gb:Type:=((UInt64)×Unit)×(Unit)
def fx:az:=⟨[.val false .int],[],false⟩
def Sj:SV->Option az:=λ_=>some fx
def CK (a0:UInt64):OT jt.Y:=
 let z0:UInt64:=bm a0 (32:Int)
 let z1:UInt64:=bm z0 (16:Int)
 let z2:Int:=(↑(UInt8.toNat (UInt64.toUInt8 (bm z1 (8:Int)))):Int)
 let z3:List UInt8:=List.replicate 64 (8:UInt8)
 let z4:List UInt8:=List.append (List.append [(0:UInt8),(1:UInt8),(2:UInt8),(2:UInt8),(3:UInt8),(3:UInt8),(3:UInt8),(3:UInt8),(4:UInt8),(4:UInt8),(4:UInt8),(4:UInt8),(4:UInt8),(4:UInt8),(4:UInt8),(4:UInt8),(5:UInt8),(5:UInt8),(5:UInt8),(5:UInt8),(5:UInt8),(5:UInt8),(5:UInt8),(5:UInt8),(5:UInt8),(5:UInt8),(5:UInt8),(5:UInt8),(5:UInt8),(5:UInt8),(5:UInt8),(5:UInt8),(6:UInt8),(6:UInt8),(6:UInt8),(6:UInt8),(6:UInt8),(6:UInt8),(6:UInt8),(6:UInt8),(6:UInt8),(6:UInt8),(6:UInt8),(6:UInt8),(6:UInt8),(6:UInt8),(6:UInt8),(6:UInt8),(6:UInt8),(6:UInt8),(6:UInt8),(6:UInt8),(6:UInt8),(6:UInt8),(6:UInt8),(6:UInt8),(6:UInt8),(6:UInt8),(6:UInt8),(6:UInt8),(6:UInt8),(6:UInt8),(6:UInt8),(6:UInt8)] (List.replicate 64 (7:UInt8))) (List.append z3 z3)
 let z5:Int:=(56:Int)+(↑(UInt8.toNat (List.getD z4 (Int.toNat z2) (0:UInt8))):Int)
 let z6:Int:=(↑(UInt8.toNat (UInt64.toUInt8 z1)):Int)
 let z7:Int:=(48:Int)+(↑(UInt8.toNat (List.getD z4 (Int.toNat z6) (0:UInt8))):Int)
 let z8:Int:=(↑(UInt8.toNat (UInt64.toUInt8 (bm z0 (8:Int)))):Int)
 let z9:Int:=(40:Int)+(↑(UInt8.toNat (List.getD z4 (Int.toNat z8) (0:UInt8))):Int)
 let z10:Int:=(↑(UInt8.toNat (UInt64.toUInt8 z0)):Int)
 let z11:Int:=(32:Int)+(↑(UInt8.toNat (List.getD z4 (Int.toNat z10) (0:UInt8))):Int)
 let z12:UInt64:=bm a0 (16:Int)
 let z13:Int:=(↑(UInt8.toNat (UInt64.toUInt8 (bm z12 (8:Int)))):Int)
 let z14:Int:=(24:Int)+(↑(UInt8.toNat (List.getD z4 (Int.toNat z13) (0:UInt8))):Int)
 let z15:Int:=(↑(UInt8.toNat (UInt64.toUInt8 z12)):Int)
 let z16:Int:=(16:Int)+(↑(UInt8.toNat (List.getD z4 (Int.toNat z15) (0:UInt8))):Int)
 let z17:Int:=(↑(UInt8.toNat (UInt64.toUInt8 (bm a0 (8:Int)))):Int)
 let z18:Int:=(8:Int)+(↑(UInt8.toNat (List.getD z4 (Int.toNat z17) (0:UInt8))):Int)
 let z19:Int:=(↑(UInt8.toNat (UInt64.toUInt8 a0)):Int)
 let z20:Int:=(0:Int)+(↑(UInt8.toNat (List.getD z4 (Int.toNat z19) (0:UInt8))):Int)
 (.br (decide ((4294967296:UInt64)<=a0))
 (.br (decide ((65536:UInt64)<=z0))
  (.br (decide ((256:UInt64)<=z1))
   (gd [inB z2 256,inR z5] (.ok ⟨fx,((z5,()),())⟩))
   (gd [inB z6 256,inR z7] (.ok ⟨fx,((z7,()),())⟩)))
  (.br (decide ((256:UInt64)<=z0))
   (gd [inB z8 256,inR z9] (.ok ⟨fx,((z9,()),())⟩))
   (gd [inB z10 256,inR z11] (.ok ⟨fx,((z11,()),())⟩))))
 (.br (decide ((65536:UInt64)<=a0))
  (.br (decide ((256:UInt64)<=z12))
   (gd [inB z13 256,inR z14] (.ok ⟨fx,((z14,()),())⟩))
   (gd [inB z15 256,inR z16] (.ok ⟨fx,((z16,()),())⟩)))
  (.br (decide ((256:UInt64)<=a0))
   (gd [inB z17 256,inR z18] (.ok ⟨fx,((z18,()),())⟩))
   (gd [inB z19 256,inR z20] (.ok ⟨fx,((z20,()),())⟩)))))
theorem aB6 (x:Gb) (Q:jt.Y->Prop):wpf te D3 av 1000 Tryz.f166 (jt.inp.inj x).tm (jt.inp.inj x).hp (fnK jt Sj Q) (λ_ _=>False)=(CK (x.1.1)).wpR Q:=by kernel_rfl
theorem afU (pre:Gb->Bool) (F:Gb->OT jt.Y) (hF:∀ (x:Gb) oy,pre x=true->(F x).run=some oy->(CK (x.1.1)).run=some oy):ac Tryz.prog 166 (jt.aI pre F):=
 aD ar Av ab2 (f:=166) (fn:=Tryz.f166) (c:=aj Tryz.f166) (by kernel_rfl) (by kernel_rfl) (by kernel_rfl) (S:=jt) (k:=0) (by kernel_rfl) (λR hR=>af) (n:=1000) (sel:=Sj) (λv o h=>by cases h;rfl) (pre:=pre) (F:=F) (T:=λx=>CK (x.1.1)) (λx Q=>aB6 x Q) hF
def gf (x:UInt64):Bool:=(x==16513537)||(x==16521217)
theorem ef {x:UInt64} (h:gf x=true):x=16513537\/x=16521217:=by
 simpa [gf] using h
def Ga (x:Gb):Bool:=gf x.1.1
def alv (_:Gb):OT jt.Y:=.ok ⟨fx,(((24:Int),()),())⟩
theorem aa7:(CK 16513537).run=some ⟨fx,(((24:Int),()),())⟩/\(CK 16521217).run=some ⟨fx,(((24:Int),()),())⟩:=⟨by kernel_rfl,by kernel_rfl⟩
theorem awT:ac Tryz.prog 166 (jt.aI Ga alv):=afU _ _ λx oy hp ho=>by
 rw [<-ho]
 clear ho
 obtain ⟨⟨x,⟨⟩⟩,⟨⟩⟩:=x
 rcases ef hp with h|h
 ·have h:x=16513537:=h
  subst h
  exact aa7.1
 ·have h:x=16521217:=h
  subst h
  exact aa7.2
def zY:cj:=(jt.aI Ga alv)
theorem aa6:ac Tryz.prog 166 zY:=awT
theorem aa5:aG zY:=aB
def D5:Env:=ay 166 zY D3
theorem Ay:aQ Tryz.prog D5:=ag aa6 Av
theorem D4:ax D5:=ae aa5 D2
theorem ab4:aW Tryz.prog te D5:=aL follows ar Ay D4
def mK:aw:=⟨[.val false .u64],[],true,0,false⟩
abbrev Si:Type:=((UInt64)×Unit)×(Unit)
def V5:az:=⟨[.val false .int],[],false⟩
def aa3:SV->Option az:=λ_=>some V5
def afT (a0:UInt64):OT mK.Y:=
 (gd [Ga ((a0,()),())] (.ok ⟨V5,(((40:Int),()),())⟩))
theorem aHF (x:Si) (Q:mK.Y->Prop):wpf te D5 av 1000 Tryz.f154 (mK.inp.inj x).tm (mK.inp.inj x).hp (fnK mK aa3 Q) (λ_ _=>False)=(afT (x.1.1)).wpR Q:=by kernel_rfl
theorem apF (pre:Si->Bool) (F:Si->OT mK.Y) (hF:∀ (x:Si) oy,pre x=true->(F x).run=some oy->(afT (x.1.1)).run=some oy):ac Tryz.prog 154 (mK.aI pre F):=
 aD ar Ay ab4 (f:=154) (fn:=Tryz.f154) (c:=aj Tryz.f154) (by kernel_rfl) (by kernel_rfl) (by kernel_rfl) (S:=mK) (k:=0) (by kernel_rfl) (λR hR=>af) (n:=1000) (sel:=aa3) (λv o h=>by cases h;rfl) (pre:=pre) (F:=F) (T:=λx=>afT (x.1.1)) (λx Q=>aHF x Q) hF
def Ni (x:Si):Bool:=gf x.1.1
def awS (_:Si):OT mK.Y:=.ok ⟨V5,(((40:Int),()),())⟩
theorem aB5:ac Tryz.prog 154 (mK.aI Ni awS):=apF _ _ λx oy hp ho=>by
 rw [<-ho]
 clear ho
 obtain ⟨⟨x,⟨⟩⟩,⟨⟩⟩:=x
 have hp:gf x=true:=hp
 refine (ah ?_).trans rfl
 simp only [List.all_cons,List.all_nil,Bool.and_true,Bool.and_eq_true]
 first|exact hp|exact ⟨hp,rfl⟩
def F9:cj:=(mK.aI Ni awS)
theorem afS:ac Tryz.prog 154 F9:=aB5
theorem afR:aG F9:=aB
def Ax:Env:=ay 154 F9 D5
theorem qn:aQ Tryz.prog Ax:=ag afS Ay
theorem Ic:ax Ax:=ae afR D4
theorem Aw:aW Tryz.prog te Ax:=aL follows ar qn Ic
def gY:aw:=⟨[.val false .u64,.val false .u64,.val false .u64],[],true,0,false⟩
abbrev Gc:Type:=((UInt64)×(UInt64)×(UInt64)×Unit)×(Unit)
def uV:Shape:=⟨135,[(2,.val false .u64),(8,.val false .u64),(9,.val false .u64),(10,.val false .u64),(11,.val false .u64),(13,.val false .u64),(14,.val false .u64),(15,.val false .u64),(16,.val false .u64)],[],0,true⟩
abbrev cS:Type:=((UInt64)×(UInt64)×(UInt64)×(UInt64)×(UInt64)×(UInt64)×(UInt64)×(UInt64)×(UInt64)×Unit)×(Unit)
def mM:Shape:=⟨135,[(2,.val false .u64),(8,.val false .u64),(9,.val false .u64),(10,.val false .u64),(11,.val false .u64),(13,.val false .u64),(14,.val false .u64),(15,.val false .u64)],[],0,true⟩
abbrev kq:Type:=((UInt64)×(UInt64)×(UInt64)×(UInt64)×(UInt64)×(UInt64)×(UInt64)×(UInt64)×Unit)×(Unit)
def abd:SE->Option Shape:=fc [(0,mM)] none
def aw2 (a2:UInt64) (a8:UInt64) (a9:UInt64) (a10:UInt64) (a11:UInt64) (a13:UInt64) (a14:UInt64) (a15:UInt64) (a16:UInt64):OT (Sum cS aE):=
 let z0:Bool:=decide ((4294967296:UInt64)<=a16+a9)
 (.br (decide ((4294967296:UInt64)<=a15))
 (.br (z0)
  (.ok (.inr ⟨(.exit 0,mM),((a2,(a8,(a9,(a10,(a11,(a13,(a14,(a15-(1:UInt64),())))))))),())⟩))
  (.ok (.inl ((a2,(a8,(a9,(a10,(a11,(a13,(a14,(a15-(1:UInt64),(a16+a9,()))))))))),()))))
 (.br (decide ((4294967296:UInt64)*a16+a13<a15*a10))
  (.br (z0)
   (.ok (.inr ⟨(.exit 0,mM),((a2,(a8,(a9,(a10,(a11,(a13,(a14,(a15-(1:UInt64),())))))))),())⟩))
   (.ok (.inl ((a2,(a8,(a9,(a10,(a11,(a13,(a14,(a15-(1:UInt64),(a16+a9,()))))))))),()))))
  (.ok (.inr ⟨(.exit 0,mM),((a2,(a8,(a9,(a10,(a11,(a13,(a14,(a15,())))))))),())⟩))))
def CP (s:cS):OT (Sum cS aE):=aw2 (s.1.1) (s.1.2.1) (s.1.2.2.1) (s.1.2.2.2.1) (s.1.2.2.2.2.1) (s.1.2.2.2.2.2.1) (s.1.2.2.2.2.2.2.1) (s.1.2.2.2.2.2.2.2.1) (s.1.2.2.2.2.2.2.2.2.1)
theorem awX (s:cS) (Q:Sum cS aE->Prop):wps te Ax av 1000 (aU (aj Tryz.f128) 0) (uV.inj s) (bU uV abd (Q:Sum uV.T aE->Prop))=(CP s).wpR Q:=by kernel_rfl
def CN (g0_0:cS->kq) (s:cS):OT aE:=(.ok ⟨(.exit 0,mM),g0_0 s⟩)
def uU:Shape:=⟨135,[(2,.val false .u64),(8,.val false .u64),(9,.val false .u64),(10,.val false .u64),(14,.val false .u64),(15,.val false .u64),(16,.val false .u64),(17,.val false .u64),(18,.val false .u64)],[],0,true⟩
abbrev cR:Type:=((UInt64)×(UInt64)×(UInt64)×(UInt64)×(UInt64)×(UInt64)×(UInt64)×(UInt64)×(UInt64)×Unit)×(Unit)
def mL:Shape:=⟨135,[(2,.val false .u64),(8,.val false .u64),(14,.val false .u64),(15,.val false .u64),(17,.val false .u64),(18,.val false .u64)],[],0,true⟩
abbrev kp:Type:=((UInt64)×(UInt64)×(UInt64)×(UInt64)×(UInt64)×(UInt64)×Unit)×(Unit)
def abc:SE->Option Shape:=fc [(2,mL)] none
def aw1 (a2:UInt64) (a8:UInt64) (a9:UInt64) (a10:UInt64) (a14:UInt64) (a15:UInt64) (a16:UInt64) (a17:UInt64) (a18:UInt64):OT (Sum cR aE):=
 let z0:Bool:=decide ((4294967296:UInt64)<=a16+a9)
 (.br (decide ((4294967296:UInt64)<=a18))
 (.br (z0)
  (.ok (.inr ⟨(.exit 2,mL),((a2,(a8,(a14,(a15,(a17,(a18-(1:UInt64),())))))),())⟩))
  (.ok (.inl ((a2,(a8,(a9,(a10,(a14,(a15,(a16+a9,(a17,(a18-(1:UInt64),()))))))))),()))))
 (.br (decide ((4294967296:UInt64)*a16+a14<a18*a10))
  (.br (z0)
   (.ok (.inr ⟨(.exit 2,mL),((a2,(a8,(a14,(a15,(a17,(a18-(1:UInt64),())))))),())⟩))
   (.ok (.inl ((a2,(a8,(a9,(a10,(a14,(a15,(a16+a9,(a17,(a18-(1:UInt64),()))))))))),()))))
  (.ok (.inr ⟨(.exit 2,mL),((a2,(a8,(a14,(a15,(a17,(a18,())))))),())⟩))))
def CO (s:cR):OT (Sum cR aE):=aw1 (s.1.1) (s.1.2.1) (s.1.2.2.1) (s.1.2.2.2.1) (s.1.2.2.2.2.1) (s.1.2.2.2.2.2.1) (s.1.2.2.2.2.2.2.1) (s.1.2.2.2.2.2.2.2.1) (s.1.2.2.2.2.2.2.2.2.1)
theorem awW (s:cR) (Q:Sum cR aE->Prop):wps te Ax av 1000 (aU (aj Tryz.f128) 2) (uU.inj s) (bU uU abc (Q:Sum uU.T aE->Prop))=(CO s).wpR Q:=by kernel_rfl
def CM (g2_2:cR->kp) (s:cR):OT aE:=(.ok ⟨(.exit 2,mL),g2_2 s⟩)
def pU:az:=⟨[.val false .u64,.val false .u64],[],false⟩
def Sk:SV->Option az:=λ_=>some pU
def Jc (ok0:cS->Bool) (g0_0:cS->kq) (ok2:cR->Bool) (g2_2:cR->kp) (a0:UInt64) (a1:UInt64) (a2:UInt64):OT gY.Y:=
 let z0:Bool:= !a2==(0:UInt64)
 let z1:UInt64:=bR a2 (40:Int)
 let z2:UInt64:=bm z1 (32:Int)
 let z3:UInt64:=bR a0 (40:Int)|||bm a1 (24:Int)
 let z4:UInt64:=bR a1 (40:Int)
 let z5:UInt64:=z3/z2
 let z6:(UInt64×UInt64×UInt64×UInt64×UInt64×UInt64×UInt64×UInt64×UInt64×PUnit)×PUnit:=((z1,(40:UInt64),z2,z1&&&(4294967295:UInt64),z3,bm z4 (32:Int),z4&&&(4294967295:UInt64),z5,z3-z5*z2,()),())
 let z7:=(g0_0 z6).fst
 let z8:=z7.snd
 let z9:=z8.snd
 let z10:=z9.fst
 let z11:=z7.fst
 let z12:=z9.snd
 let z13:=z12.snd
 let z14:=z13.snd
 let z15:=z14.snd
 let z16:=z15.snd.fst
 let z17:UInt64:=z13.fst*(4294967296:UInt64)+z14.fst-z16*z11
 let z18:UInt64:=z17/z10
 let z19:(UInt64×UInt64×UInt64×UInt64×UInt64×UInt64×UInt64×UInt64×UInt64×PUnit)×PUnit:=((z11,z8.fst,z10,z12.fst,z15.fst,z16,z17-z18*z10,z17,z18,()),())
 let z20:=(g2_2 z19).fst
 let z21:=z20.snd
 let z22:=z21.snd
 let z23:=z22.snd
 let z24:=z23.snd
 let z25:=z24.snd.fst
 (.br (a2==(0:UInt64))
 .fail
 (.br (decide (a2<=a0))
  .fail
  (.br (a0==(0:UInt64))
   (gd [z0,z0] (.ok ⟨pU,((a1/a2,(a1%a2,())),())⟩))
   (gd [Ni ((a2,()),()),!z2==(0:UInt64),ok0 z6,!z10==(0:UInt64),ok2 z19] (.ok ⟨pU,((z23.fst*(4294967296:UInt64)+z25,(bm (z24.fst*(4294967296:UInt64)+z22.fst-z25*z20.fst) (↑(UInt64.toNat z21.fst):Int),())),())⟩)))))
theorem aB7 (ok0:cS->Bool) (g0_0:cS->kq) (ok2:cR->Bool) (g2_2:cR->kp) (x:Gc) (Q:gY.Y->Prop):wpf te Ax (aO 2 (cf uU 2 ok2 (CM g2_2)) (aO 0 (cf uV 0 ok0 (CN g0_0)) av)) 1000 Tryz.f128 (gY.inp.inj x).tm (gY.inp.inj x).hp (fnK gY Sk Q) (λ_ _=>False)=(Jc ok0 g0_0 ok2 g2_2 (x.1.1) (x.1.2.1) (x.1.2.2.1)).wpR Q:=by kernel_rfl
theorem af0 (ok0:cS->Bool) (g0_0:cS->kq) (ok2:cR->Bool) (g2_2:cR->kp) (h0:∀ s:cS,ok0 s=true->∃ m e,al (CP) m s=some e/\(CN g0_0 s).run=some e) (h2:∀ s:cR,ok2 s=true->∃ m e,al (CO) m s=some e/\(CM g2_2 s).run=some e) (pre:Gc->Bool) (F:Gc->OT gY.Y) (hF:∀ (x:Gc) oy,pre x=true->(F x).run=some oy->(Jc ok0 g0_0 ok2 g2_2 (x.1.1) (x.1.2.1) (x.1.2.2.1)).run=some oy):ac Tryz.prog 128 (gY.aI pre F):=
 aD ar qn Aw (f:=128) (fn:=Tryz.f128) (c:=aj Tryz.f128) (by kernel_rfl) (by kernel_rfl) (by kernel_rfl) (S:=gY) (k:=0) (by kernel_rfl) (λR hR=>(aA (c:=(aj Tryz.f128)) (by kernel_rfl) (id:=2) (by kernel_rfl) (aP ar qn Aw (sh:=uU) hR (xs:=abc) (aC (by kernel_rfl) (by kernel_rfl) hR) aM af (n:=1000) (T:=CO) (λs Q=>awW s Q) (ok:=ok2) (f:=CM g2_2) h2) (aA (c:=(aj Tryz.f128)) (by kernel_rfl) (id:=0) (by kernel_rfl) (aP ar qn Aw (sh:=uV) hR (xs:=abd) (aC (by kernel_rfl) (by kernel_rfl) hR) aM af (n:=1000) (T:=CP) (λs Q=>awX s Q) (ok:=ok0) (f:=CN g0_0) h0) af))) (n:=1000) (sel:=Sk) (λv o h=>by cases h;rfl) (pre:=pre) (F:=F) (T:=λx=>Jc ok0 g0_0 ok2 g2_2 (x.1.1) (x.1.2.1) (x.1.2.2.1)) (λx Q=>aB7 ok0 g0_0 ok2 g2_2 x Q) hF
def Sn (s:cS):Bool:=decide (s.1.2.2.2.1=0/\s.1.2.2.2.2.2.2.2.1<4294967296)
def abi (s:cS):kq:=((s.1.1,s.1.2.1,s.1.2.2.1,s.1.2.2.2.1,s.1.2.2.2.2.1,s.1.2.2.2.2.2.1,s.1.2.2.2.2.2.2.1,s.1.2.2.2.2.2.2.2.1,()),())
theorem Lf {a b:UInt64} (h:b<a):decide (a<=b)=false:=decide_eq_false (by rw [UInt64.le_iff_toNat_le,UInt64.lt_iff_toNat_lt] at*;omega)
theorem not_lt_zero {a b:UInt64}:decide (a<b*0)=false:=decide_eq_false (by
 have:b*0=0:=by rw [<-UInt64.toNat_inj];simp
 rw [this,UInt64.lt_iff_toNat_lt]
 exact Nat.not_lt_zero _)
theorem aw0:∀ s:cS,Sn s=true->∃ m e,al CP m s=some e/\(CN abi s).run=some e:=by
 rintro ⟨⟨a2,a8,a9,a10,a11,a13,a14,a15,a16,⟨⟩⟩,⟨⟩⟩ h
 have h':=of_decide_eq_true h
 dsimp only at h'
 obtain ⟨rfl,hl⟩:=h'
 exact ⟨1,_,aK ((OT.aq (Lf hl)).trans (OT.aq not_lt_zero)),rfl⟩
def Sl (s:cR):Bool:=decide (s.1.2.2.2.1=0/\s.1.2.2.2.2.2.2.2.2.1<4294967296)
def abh (s:cR):kp:=((s.1.1,s.1.2.1,s.1.2.2.2.2.1,s.1.2.2.2.2.2.1,s.1.2.2.2.2.2.2.2.1,s.1.2.2.2.2.2.2.2.2.1,()),())
theorem awZ:∀ s:cR,Sl s=true->∃ m e,al CO m s=some e/\(CM abh s).run=some e:=by
 rintro ⟨⟨a2,a8,a9,a10,a14,a15,a16,a17,a18,⟨⟩⟩,⟨⟩⟩ h
 have h':=of_decide_eq_true h
 dsimp only at h'
 obtain ⟨rfl,hl⟩:=h'
 exact ⟨1,_,aK ((OT.aq (Lf hl)).trans (OT.aq not_lt_zero)),rfl⟩
def xm (x:Gc):Bool:=gf x.1.2.2.1&&decide (x.1.1<x.1.2.2.1)
def Wa (x:Gc):OT gY.Y:=.ok ⟨pU,((aH0 x.1.1 x.1.2.1 x.1.2.2.1,aaq x.1.1 x.1.2.1 x.1.2.2.1,()),())⟩
theorem aql {v z:Nat} (hv:v<4294967296) (hz:z<4294967296):(v*4294967296%2^64+z)%2^64=(v*(256*16777216)+z)%2^64:=by
 rw [Nat.mod_eq_of_lt (a:=v*4294967296) (by omega)]
theorem axC {s:Nat} (hs:s<4294967296):s*4294967296/2^40=s/256%2^64:=by
 rw [Nat.mod_eq_of_lt (by omega),show (2:Nat)^40=256*4294967296 from rfl,Nat.mul_div_mul_right _ _ (by omega)]
theorem abe {h l y:UInt64} {m:Nat} (hm:y.toNat=m) (hy:(bR y 40).toNat=m*1099511627776) (hy1:(bm (bR y 40) 32).toNat=m*256) (hy0:bR y 40&&&4294967295=0) (hm0:0<m) (hm1:m<16777216) (hh:h.toNat<m):
 let u:=bR h 40|||bm l 24
 let q1:=u/bm (bR y 40) 32
 let un21:=u*4294967296+bm (bR l 40) 32-q1*bR y 40
 let q0:=un21/bm (bR y 40) 32
 q1<4294967296/\q0<4294967296/\q1*4294967296+q0=aH0 h l y/\bm (un21*4294967296+(bR l 40&&&4294967295)-q0*bR y 40) 40=aaq h l y:=by
 intro u q1 un21 q0
 have hl:=l.toNat_lt
 have hu:u.toNat=h.toNat*1099511627776+l.toNat/16777216:=by
  have e1:(bR h 40).toNat=h.toNat*1099511627776:=by
   rw [show ((40:Int))=((40:Nat):Int) from rfl,lI _ _ (by omega)]
   exact Nat.mod_eq_of_lt (by omega)
  have e2:(bm l 24).toNat=l.toNat/16777216:=ff l 24 (by omega)
  simp only [u]
  rw [UInt64.toNat_or,e1,e2,Nat.mul_comm]
  have:=Nat.two_pow_add_eq_or_of_lt (i:=40) (b:=l.toNat/16777216) (by omega) h.toNat
  exact this.symm
 have hun1:(bm (bR l 40) 32).toNat=l.toNat%16777216*256:=by
  rw [show ((32:Int))=((32:Nat):Int) from rfl,ff _ _ (by omega),show ((40:Int))=((40:Nat):Int) from rfl,lI _ _ (by omega)]
  omega
 have hun0:bR l 40&&&4294967295=0:=by
  rw [<-UInt64.toNat_inj,jW,show ((40:Int))=((40:Nat):Int) from rfl,lI _ _ (by omega)]
  show l.toNat*2^40%2^64%4294967296=0
  omega
 have hq1:q1.toNat=u.toNat/(m*256):=by simp only [q1];rw [UInt64.toNat_div,hy1]
 have hN:h.toNat*18446744073709551616+l.toNat=u.toNat*16777216+l.toNat%16777216:=by rw [hu];omega
 have hqr:u.toNat=q1.toNat*(m*256)+u.toNat%(m*256):=by
  rw [hq1,Nat.mul_comm]
  exact (Nat.div_add_mod _ _).symm
 have hr:u.toNat%(m*256)<m*256:=Nat.mod_lt _ (by omega)
 have hul:u.toNat<m*256*4294967296:=by rw [hu];omega
 have hq1l:q1.toNat<4294967296:=by rw [hq1];exact Nat.div_lt_of_lt_mul hul
 generalize hrr:u.toNat%(m*256)=r at*
 have hprod:q1.toNat*(m*1099511627776)=q1.toNat*(m*256)*4294967296:=by
  rw [Nat.mul_assoc,Nat.mul_assoc]
 have h21:un21.toNat=r*4294967296+l.toNat%16777216*256:=by
  simp only [un21]
  rw [UInt64.toNat_sub,UInt64.toNat_add,UInt64.toNat_mul,UInt64.toNat_mul,hun1,hy,hprod,show (4294967296:UInt64).toNat=4294967296 from rfl]
  generalize q1.toNat*(m*256)=A at*
  omega
 have hq0:q0.toNat=un21.toNat/(m*256):=by simp only [q0];rw [UInt64.toNat_div,hy1]
 have h21l:un21.toNat<m*256*4294967296:=by rw [h21];omega
 have hq0l:q0.toNat<4294967296:=by rw [hq0];exact Nat.div_lt_of_lt_mul h21l
 have hqr0:un21.toNat=q0.toNat*(m*256)+un21.toNat%(m*256):=by
  rw [hq0,Nat.mul_comm]
  exact (Nat.div_add_mod _ _).symm
 have hr0:un21.toNat%(m*256)<m*256:=Nat.mod_lt _ (by omega)
 obtain ⟨d1,d2⟩:=VA (K:=16777216) (L:=256) hm0 (by omega) hN hqr
 have e21:(r*16777216+l.toNat%16777216)*256=un21.toNat:=by rw [h21];omega
 rw [e21] at d1 d2
 refine ⟨by rw [UInt64.lt_iff_toNat_lt];exact hq1l,by rw [UInt64.lt_iff_toNat_lt];exact hq0l,?_,?_⟩
 ·rw [<-UInt64.toNat_inj,UInt64.toNat_add,UInt64.toNat_mul,show (4294967296:UInt64).toNat=4294967296 from rfl,hq0]
  unfold aH0
  rw [hm,UInt64.toNat_ofNat',d1,<-hq0]
  exact aql hq1l hq0l
 ·have hprod0:q0.toNat*(m*1099511627776)=q0.toNat*(m*256)*4294967296:=by
   rw [Nat.mul_assoc,Nat.mul_assoc]
  have e3:(un21*4294967296+(bR l 40&&&4294967295)-q0*bR y 40).toNat=(un21.toNat%(m*256))*4294967296:=by
   rw [hun0,UInt64.toNat_sub,UInt64.toNat_add,UInt64.toNat_mul,UInt64.toNat_mul,hy,hprod0,show (4294967296:UInt64).toNat=4294967296 from rfl,show (0:UInt64).toNat=0 from rfl]
   generalize un21.toNat%(m*256)=s at*
   generalize q0.toNat*(m*256)=A at*
   omega
  rw [<-UInt64.toNat_inj,show ((40:Int))=((40:Nat):Int) from rfl,ff _ _ (by omega),show ((40:Nat):Int)=40 from rfl,e3]
  unfold aaq
  rw [hm,UInt64.toNat_ofNat',d2]
  exact axC (by omega)
theorem acw {y:UInt64} (h:gf y=true):∃ m,y.toNat=m/\(bR y 40).toNat=m*1099511627776/\(bm (bR y 40) 32).toNat=m*256/\bR y 40&&&4294967295=0/\0<m/\m<16777216:=by
 rcases ef h with rfl|rfl
 ·exact ⟨16513537,rfl,by decide+kernel,by decide+kernel,by decide+kernel,by omega,by omega⟩
 ·exact ⟨16521217,rfl,by decide+kernel,by decide+kernel,by decide+kernel,by omega,by omega⟩
theorem awY:ac Tryz.prog 128 (gY.aI xm Wa):=af0 Sn abi Sl abh aw0 awZ _ _ λx oy hp ho=>by
 rw [<-ho]
 clear ho
 obtain ⟨⟨h,l,y,⟨⟩⟩,⟨⟩⟩:=x
 have hp':(gf y&&decide (h<y))=true:=hp
 rw [Bool.and_eq_true] at hp'
 obtain ⟨hs,hlt⟩:=hp'
 have hlt:=of_decide_eq_true hlt
 obtain ⟨m,f1,f2,f3,f4,f5,f6⟩:=acw hs
 have hh:h.toNat<m:=by rw [<-f1];exact UInt64.lt_iff_toNat_lt.1 hlt
 have hy0:¬y=0:=λe=>by rw [e] at f1;simp at f1;omega
 have hyb:(y==0)=false:=by simpa using hy0
 have hle:decide (y<=h)=false:=Lf hlt
 unfold Jc
 refine (OT.aq hyb).trans ((OT.aq hle).trans ?_)
 by_cases h0:h=0
 ·subst h0
  refine (OT.ao rfl).trans ((ah ?_).trans ?_)
  ·simp only [hyb,List.all_cons,List.all_nil,Bool.and_true,Bool.not_false]
  ·have e1:aH0 0 l y=l/y:=by
    rw [<-UInt64.toNat_inj]
    unfold aH0
    rw [UInt64.toNat_ofNat',UInt64.toNat_div,show (0:UInt64).toNat=0 from rfl,Nat.zero_mul,Nat.zero_add]
    exact Nat.mod_eq_of_lt (Nat.lt_of_le_of_lt (Nat.div_le_self _ _) l.toNat_lt)
   have e2:aaq 0 l y=l%y:=by
    rw [<-UInt64.toNat_inj]
    unfold aaq
    rw [UInt64.toNat_ofNat',UInt64.toNat_mod,show (0:UInt64).toNat=0 from rfl,Nat.zero_mul,Nat.zero_add]
    exact Nat.mod_eq_of_lt (Nat.lt_of_le_of_lt (Nat.mod_le _ _) l.toNat_lt)
   simp only [Wa,e1,e2]
 ·have hb:(h==0)=false:=by simpa using h0
  obtain ⟨w1,w2,w3,w4⟩:=abe (l:=l) f1 f2 f3 f4 f5 f6 hh
  have hz:(!(bm (bR y 40) 32==0))=true:=by
   have:¬bm (bR y 40) 32=0:=λe=>by rw [e] at f3;simp at f3;omega
   simpa using this
  refine (OT.aq hb).trans ((ah ?_).trans ?_)
  ·simp only [List.all_cons,List.all_nil,Bool.and_true,Bool.and_eq_true]
   exact ⟨hs,hz,decide_eq_true ⟨f4,w1⟩,hz,decide_eq_true ⟨f4,w2⟩⟩
  ·show some (⟨pU,((_,bm _ ((40:UInt64).toNat:Int),()),())⟩:gY.Y)=some ⟨pU,((aH0 h l y,aaq h l y,()),())⟩
   rw [<-w3,<-w4]
   rfl
def zZ:cj:=(gY.aI xm Wa)
theorem abg:ac Tryz.prog 128 zZ:=awY
theorem abf:aG zZ:=aB
def xW:Env:=ay 128 zZ Ax
theorem r8:aQ Tryz.prog xW:=ag abg qn
theorem D6:ax xW:=ae abf Ic
theorem Ie:aW Tryz.prog te xW:=aL follows ar r8 D6
def sC:aw:=⟨[.val true .elem,.val true .elem],[],true,0,false⟩
abbrev alW:Type:=((aa)×(aa)×Unit)×(Unit)
def Jx:Shape:=⟨29,[(2,.ptr 0 0 0),(3,.ptr 1 0 0),(4,.ptr 2 0 0),(6,.ptr 3 0 0),(7,.val false .u64),(9,.val false .int)],[(0,.row .u64),(1,.row .u64),(2,.row .u64),(3,.row .u64)],0,true⟩
abbrev dK:Type:=((Unit)×(Unit)×(Unit)×(Unit)×(UInt64)×(Int)×Unit)×((List (UInt64))×(List (UInt64))×(List (UInt64))×(List (UInt64))×Unit)
def AH:Shape:=⟨29,[(4,.ptr 0 0 0),(6,.ptr 1 0 0),(7,.val false .u64)],[(0,.row .u64),(1,.row .u64)],0,true⟩
abbrev og:Type:=((Unit)×(Unit)×(UInt64)×Unit)×((List (UInt64))×(List (UInt64))×Unit)
def aqu:SE->Option Shape:=fc [(0,AH)] none
def aDJ (a7:UInt64) (a9:Int) (c0:List (UInt64)) (c1:List (UInt64)) (c2:List (UInt64)) (c3:List (UInt64)):OT (Sum dK aE):=
 let z0:Bool:=inB a9 4
 let z1:UInt64:=List.getD c0 (Int.toNat a9+0) (0:UInt64)
 let z2:UInt64:=List.getD c1 (Int.toNat a9+0) (0:UInt64)
 (.br (decide (a9<(4:Int)))
 (gd [z0,decide (Int.toNat a9+0<List.length c0),z0,decide (Int.toNat a9+0<List.length c1),Ge ((z1,z2,a7,()),()),z0,decide (Int.toNat a9+0<List.length c3),inR (a9+(1:Int))] (.ok (.inl (((),((),((),((),(AB z1 z2 a7,(a9+(1:Int),())))))),(c0,(c1,(c2,(List.set c3 (Int.toNat a9+0) (yb z1 z2 a7),()))))))))
 (.ok (.inr ⟨(.exit 0,AH),(((),((),(a7,()))),(c2,(c3,())))⟩)))
def Jy (s:dK):OT (Sum dK aE):=aDJ (s.1.2.2.2.2.1) (s.1.2.2.2.2.2.1) (s.2.1) (s.2.2.1) (s.2.2.2.1) (s.2.2.2.2.1)
theorem aDG (s:dK) (Q:Sum dK aE->Prop):wps te xW av 1000 (aU (aj Tryz.f119) 0) (Jx.inj s) (bU Jx aqu (Q:Sum Jx.T aE->Prop))=(Jy s).wpR Q:=by kernel_rfl
def S1 (g0_0:dK->og) (s:dK):OT aE:=(.ok ⟨(.exit 0,AH),g0_0 s⟩)
def ach:az:=⟨[.val true .elem,.val false .bool],[],false⟩
def agN:SV->Option az:=λ_=>some ach
def aqx (ok0:dK->Bool) (g0_0:dK->og) (a0:aa) (a1:aa):OT sC.Y:=
 let z0:(PUnit×PUnit×PUnit×PUnit×UInt64×Int×PUnit)×List UInt64×List UInt64×List UInt64×List UInt64×PUnit:=(((),(),(),(),(0:UInt64),(0:Int),()),[a0.w0,a0.w1,a0.w2,a0.w3],[a1.w0,a1.w1,a1.w2,a1.w3],[(0:UInt64),(0:UInt64),(0:UInt64),(0:UInt64)],[(0:UInt64),(0:UInt64),(0:UInt64),(0:UInt64)],())
 let z1:(PUnit×PUnit×UInt64×PUnit)×List UInt64×List UInt64×PUnit:=g0_0 z0
 let z2:=z1.snd
 let z3:=z2.snd.fst
 let z4:=z2.fst
 let z5:List UInt64:=lay z4 z3 4 (0:UInt64)
 (gd [ok0 z0,decide (4<=List.length z3),decide ((4/1:Nat)+0<=List.length z4),decide (4<=List.length z5)] (.ok ⟨ach,(({w0:=List.getD z5 0 0,w1:=List.getD z5 1 0,w2:=List.getD z5 2 0,w3:=List.getD z5 3 0},(!z1.fst.snd.snd.fst==(0:UInt64),())),())⟩))
theorem aIa (ok0:dK->Bool) (g0_0:dK->og) (x:alW) (Q:sC.Y->Prop):wpf te xW (aO 0 (cf Jx 0 ok0 (S1 g0_0)) av) 1000 Tryz.f119 (sC.inp.inj x).tm (sC.inp.inj x).hp (fnK sC agN Q) (λ_ _=>False)=(aqx ok0 g0_0 (x.1.1) (x.1.2.1)).wpR Q:=by kernel_rfl
theorem aqv (ok0:dK->Bool) (g0_0:dK->og) (h0:∀ s:dK,ok0 s=true->∃ m e,al (Jy) m s=some e/\(S1 g0_0 s).run=some e) (pre:alW->Bool) (F:alW->OT sC.Y) (hF:∀ (x:alW) oy,pre x=true->(F x).run=some oy->(aqx ok0 g0_0 (x.1.1) (x.1.2.1)).run=some oy):ac Tryz.prog 119 (sC.aI pre F):=
 aD ar r8 Ie (f:=119) (fn:=Tryz.f119) (c:=aj Tryz.f119) (by kernel_rfl) (by kernel_rfl) (by kernel_rfl) (S:=sC) (k:=0) (by kernel_rfl) (λR hR=>(aA (c:=(aj Tryz.f119)) (by kernel_rfl) (id:=0) (by kernel_rfl) (aP ar r8 Ie (sh:=Jx) hR (xs:=aqu) (aC (by kernel_rfl) (by kernel_rfl) hR) aM af (n:=1000) (T:=Jy) (λs Q=>aDG s Q) (ok:=ok0) (f:=S1 g0_0) h0) af)) (n:=1000) (sel:=agN) (λv o h=>by cases h;rfl) (pre:=pre) (F:=F) (T:=λx=>aqx ok0 g0_0 (x.1.1) (x.1.2.1)) (λx Q=>aIa ok0 g0_0 x Q) hF
def PB (a b:List UInt64) (k:Nat) (s:List UInt64×UInt64):List UInt64×UInt64:=(s.1.set k (yb (a.getD k 0) (b.getD k 0) s.2),AB (a.getD k 0) (b.getD k 0) s.2)
def agP (s:dK):Bool:=decide (s.1.2.2.2.2.1=0/\s.1.2.2.2.2.2.1=0/\s.2.1.length=4/\s.2.2.1.length=4/\s.2.2.2.2.1= [0,0,0,0])
def aqw (s:dK):og:=(((),(),(upto (PB s.2.1 s.2.2.1) ([0,0,0,0],0) 4).2,()),(s.2.2.2.1,(upto (PB s.2.1 s.2.2.1) ([0,0,0,0],0) 4).1,()))
theorem aDI:∀ s:dK,agP s=true->∃ m e,al Jy m s=some e/\(S1 aqw s).run=some e:=by
 rintro ⟨⟨⟨⟩,⟨⟩,⟨⟩,⟨⟩,c,i,⟨⟩⟩,⟨c0,c1,c2,c3,⟨⟩⟩⟩ h
 have h':=of_decide_eq_true h
 dsimp only at h'
 obtain ⟨rfl,rfl,h0,h1,rfl⟩:=h'
 have:=(aR (T:=Jy) (λk s=>((((),(),(),(),s.2,(k:Int),()),(c0,c1,c2,s.1,())):dK)) (PB c0 c1)
  (λs=>(⟨(.exit 0,AH),(((),(),s.2,()),(c2,s.1,()))⟩:aE)) 4 ([0,0,0,0],0) (λ_ s=>s.1.length=4/\s.2.toNat<=1) ⟨rfl,by decide⟩ (λk s hk hs=>⟨?_,?_⟩) (λs hs=> ?_)).1
 ·obtain ⟨m,hm⟩:=this
  exact ⟨m,_,hm,rfl⟩
 ·refine (OT.ao (decide_eq_true (by dsimp only;omega))).trans ((ah ?_).trans ?_)
  ·simp only [Int.toNat_natCast,Nat.add_zero,h0,h1,hs.1,List.all_cons,List.all_nil,Bool.and_true,Bool.and_eq_true]
   exact ⟨aN (by omega),decide_eq_true (by omega),aN (by omega),decide_eq_true (by omega),decide_eq_true hs.2,aN (by omega),decide_eq_true (by omega),aH (by omega)⟩
  ·simp only [OT.cT,Int.toNat_natCast,Nat.add_zero]
   rfl
 ·exact ⟨by simp only [PB,List.length_set];exact hs.1,Gh hs.2⟩
 ·exact OT.aq (decide_eq_false (by dsimp only;omega))
theorem aHT (x y:List UInt64) (hx:x.length=4) (hy:y.length=4):lay x y 4 0=y:=yj hx hy
def agO (_:alW):Bool:=true
def aqy (x:alW):OT sC.Y:=.ok ⟨ach,(((qq x.1.1 x.1.2.1).1,((qq x.1.1 x.1.2.1).2,())),())⟩
theorem aDH:ac Tryz.prog 119 (sC.aI agO aqy):=aqv agP aqw aDI _ _ λx oy hp ho=>by
 rw [<-ho]
 clear ho
 obtain ⟨⟨a,b,⟨⟩⟩,⟨⟩⟩:=x
 obtain ⟨_,hw⟩:=PJ a b
 refine (ah ?_).trans ?_
 ·simp only [List.all_cons,List.all_nil,Bool.and_true,Bool.and_eq_true]
  exact ⟨rfl,rfl,rfl,rfl⟩
 ·simp only [aqy,hw]
  rfl
def Jw:cj:=(sC.aI agO aqy)
theorem alV:ac Tryz.prog 119 Jw:=aDH
theorem alU:aG Jw:=aB
def Sy:Env:=ay 119 Jw xW
theorem C4:aQ Tryz.prog Sy:=ag alV r8
theorem NB:ax Sy:=ae alU D6
theorem Sw:aW Tryz.prog te Sy:=aL follows ar C4 NB
def sw:aw:=⟨[.val true .elem,.val true .elem],[],true,0,false⟩
abbrev alM:Type:=((aa)×(aa)×Unit)×(Unit)
def Jo:Shape:=⟨29,[(2,.ptr 0 0 0),(3,.ptr 1 0 0),(4,.ptr 2 0 0),(6,.ptr 3 0 0),(7,.val false .u64),(9,.val false .int)],[(0,.row .u64),(1,.row .u64),(2,.row .u64),(3,.row .u64)],0,true⟩
abbrev dJ:Type:=((Unit)×(Unit)×(Unit)×(Unit)×(UInt64)×(Int)×Unit)×((List (UInt64))×(List (UInt64))×(List (UInt64))×(List (UInt64))×Unit)
def AC:Shape:=⟨29,[(4,.ptr 0 0 0),(6,.ptr 1 0 0),(7,.val false .u64)],[(0,.row .u64),(1,.row .u64)],0,true⟩
abbrev oe:Type:=((Unit)×(Unit)×(UInt64)×Unit)×((List (UInt64))×(List (UInt64))×Unit)
def ap9:SE->Option Shape:=fc [(0,AC)] none
def aDy (a7:UInt64) (a9:Int) (c0:List (UInt64)) (c1:List (UInt64)) (c2:List (UInt64)) (c3:List (UInt64)):OT (Sum dJ aE):=
 let z0:Bool:=inB a9 4
 let z1:UInt64:=List.getD c0 (Int.toNat a9+0) (0:UInt64)
 let z2:UInt64:=List.getD c1 (Int.toNat a9+0) (0:UInt64)
 (.br (decide (a9<(4:Int)))
 (gd [z0,decide (Int.toNat a9+0<List.length c0),z0,decide (Int.toNat a9+0<List.length c1),F4 ((z1,z2,a7,()),()),z0,decide (Int.toNat a9+0<List.length c3),inR (a9+(1:Int))] (.ok (.inl (((),((),((),((),(WL z1 z2 a7,(a9+(1:Int),())))))),(c0,(c1,(c2,(List.set c3 (Int.toNat a9+0) (qw z1 z2 a7),()))))))))
 (.ok (.inr ⟨(.exit 0,AC),(((),((),(a7,()))),(c2,(c3,())))⟩)))
def Jp (s:dJ):OT (Sum dJ aE):=aDy (s.1.2.2.2.2.1) (s.1.2.2.2.2.2.1) (s.2.1) (s.2.2.1) (s.2.2.2.1) (s.2.2.2.2.1)
theorem aDv (s:dJ) (Q:Sum dJ aE->Prop):wps te Sy av 1000 (aU (aj Tryz.f125) 0) (Jo.inj s) (bU Jo ap9 (Q:Sum Jo.T aE->Prop))=(Jp s).wpR Q:=by kernel_rfl
def SU (g0_0:dJ->oe) (s:dJ):OT aE:=(.ok ⟨(.exit 0,AC),g0_0 s⟩)
def ab8:az:=⟨[.val true .elem,.val false .bool],[],false⟩
def agC:SV->Option az:=λ_=>some ab8
def aqc (ok0:dJ->Bool) (g0_0:dJ->oe) (a0:aa) (a1:aa):OT sw.Y:=
 let z0:(PUnit×PUnit×PUnit×PUnit×UInt64×Int×PUnit)×List UInt64×List UInt64×List UInt64×List UInt64×PUnit:=(((),(),(),(),(0:UInt64),(0:Int),()),[a0.w0,a0.w1,a0.w2,a0.w3],[a1.w0,a1.w1,a1.w2,a1.w3],[(0:UInt64),(0:UInt64),(0:UInt64),(0:UInt64)],[(0:UInt64),(0:UInt64),(0:UInt64),(0:UInt64)],())
 let z1:(PUnit×PUnit×UInt64×PUnit)×List UInt64×List UInt64×PUnit:=g0_0 z0
 let z2:=z1.snd
 let z3:=z2.snd.fst
 let z4:=z2.fst
 let z5:List UInt64:=lay z4 z3 4 (0:UInt64)
 (gd [ok0 z0,decide (4<=List.length z3),decide ((4/1:Nat)+0<=List.length z4),decide (4<=List.length z5)] (.ok ⟨ab8,(({w0:=List.getD z5 0 0,w1:=List.getD z5 1 0,w2:=List.getD z5 2 0,w3:=List.getD z5 3 0},(!z1.fst.snd.snd.fst==(0:UInt64),())),())⟩))
theorem aH6 (ok0:dJ->Bool) (g0_0:dJ->oe) (x:alM) (Q:sw.Y->Prop):wpf te Sy (aO 0 (cf Jo 0 ok0 (SU g0_0)) av) 1000 Tryz.f125 (sw.inp.inj x).tm (sw.inp.inj x).hp (fnK sw agC Q) (λ_ _=>False)=(aqc ok0 g0_0 (x.1.1) (x.1.2.1)).wpR Q:=by kernel_rfl
theorem aqa (ok0:dJ->Bool) (g0_0:dJ->oe) (h0:∀ s:dJ,ok0 s=true->∃ m e,al (Jp) m s=some e/\(SU g0_0 s).run=some e) (pre:alM->Bool) (F:alM->OT sw.Y) (hF:∀ (x:alM) oy,pre x=true->(F x).run=some oy->(aqc ok0 g0_0 (x.1.1) (x.1.2.1)).run=some oy):ac Tryz.prog 125 (sw.aI pre F):=
 aD ar C4 Sw (f:=125) (fn:=Tryz.f125) (c:=aj Tryz.f125) (by kernel_rfl) (by kernel_rfl) (by kernel_rfl) (S:=sw) (k:=0) (by kernel_rfl) (λR hR=>(aA (c:=(aj Tryz.f125)) (by kernel_rfl) (id:=0) (by kernel_rfl) (aP ar C4 Sw (sh:=Jo) hR (xs:=ap9) (aC (by kernel_rfl) (by kernel_rfl) hR) aM af (n:=1000) (T:=Jp) (λs Q=>aDv s Q) (ok:=ok0) (f:=SU g0_0) h0) af)) (n:=1000) (sel:=agC) (λv o h=>by cases h;rfl) (pre:=pre) (F:=F) (T:=λx=>aqc ok0 g0_0 (x.1.1) (x.1.2.1)) (λx Q=>aH6 ok0 g0_0 x Q) hF
def xY (a b:List UInt64) (k:Nat) (s:List UInt64×UInt64):List UInt64×UInt64:=(s.1.set k (qw (a.getD k 0) (b.getD k 0) s.2),WL (a.getD k 0) (b.getD k 0) s.2)
def agE (s:dJ):Bool:=decide (s.1.2.2.2.2.1=0/\s.1.2.2.2.2.2.1=0/\s.2.1.length=4/\s.2.2.1.length=4/\s.2.2.2.2.1= [0,0,0,0])
def aqb (s:dJ):oe:=(((),(),(upto (xY s.2.1 s.2.2.1) ([0,0,0,0],0) 4).2,()),(s.2.2.2.1,(upto (xY s.2.1 s.2.2.1) ([0,0,0,0],0) 4).1,()))
theorem aDx:∀ s:dJ,agE s=true->∃ m e,al Jp m s=some e/\(SU aqb s).run=some e:=by
 rintro ⟨⟨⟨⟩,⟨⟩,⟨⟩,⟨⟩,c,i,⟨⟩⟩,⟨c0,c1,c2,c3,⟨⟩⟩⟩ h
 have h':=of_decide_eq_true h
 dsimp only at h'
 obtain ⟨rfl,rfl,h0,h1,rfl⟩:=h'
 have:=(aR (T:=Jp) (λk s=>((((),(),(),(),s.2,(k:Int),()),(c0,c1,c2,s.1,())):dJ)) (xY c0 c1)
  (λs=>(⟨(.exit 0,AC),(((),(),s.2,()),(c2,s.1,()))⟩:aE)) 4 ([0,0,0,0],0) (λ_ s=>s.1.length=4/\s.2.toNat<=1) ⟨rfl,by decide⟩ (λk s hk hs=>⟨?_,?_⟩) (λs hs=> ?_)).1
 ·obtain ⟨m,hm⟩:=this
  exact ⟨m,_,hm,rfl⟩
 ·refine (OT.ao (decide_eq_true (by dsimp only;omega))).trans ((ah ?_).trans ?_)
  ·simp only [Int.toNat_natCast,Nat.add_zero,h0,h1,hs.1,List.all_cons,List.all_nil,Bool.and_true,Bool.and_eq_true]
   exact ⟨aN (by omega),decide_eq_true (by omega),aN (by omega),decide_eq_true (by omega),decide_eq_true hs.2,aN (by omega),decide_eq_true (by omega),aH (by omega)⟩
  ·simp only [OT.cT,Int.toNat_natCast,Nat.add_zero]
   rfl
 ·exact ⟨by simp only [xY,List.length_set];exact hs.1,yR⟩
 ·exact OT.aq (decide_eq_false (by dsimp only;omega))
def agD (_:alM):Bool:=true
def aqd (x:alM):OT sw.Y:=.ok ⟨ab8,(((eE x.1.1 x.1.2.1).1,((eE x.1.1 x.1.2.1).2,())),())⟩
theorem aDw:ac Tryz.prog 125 (sw.aI agD aqd):=aqa agE aqb aDx _ _ λx oy hp ho=>by
 rw [<-ho]
 clear ho
 obtain ⟨⟨a,b,⟨⟩⟩,⟨⟩⟩:=x
 obtain ⟨_,hw⟩:=Ef a b
 refine (ah ?_).trans ?_
 ·simp only [List.all_cons,List.all_nil,Bool.and_true,Bool.and_eq_true]
  exact ⟨rfl,rfl,rfl,rfl⟩
 ·simp only [aqd,hw]
  rfl
def Jn:cj:=(sw.aI agD aqd)
theorem alL:ac Tryz.prog 125 Jn:=aDw
theorem alK:aG Jn:=aB
def abu:Env:=ay 125 Jn Sy
theorem Nv:aQ Tryz.prog abu:=ag alL C4
theorem Nw:ax abu:=ae alK NB
theorem apM:aW Tryz.prog te abu:=aL follows ar Nv Nw
def lA:aw:=⟨[.val true .elem,.val true .elem],[],true,0,false⟩
abbrev PQ:Type:=((aa)×(aa)×Unit)×(Unit)
def SZ:az:=⟨[.val false .bool],[],false⟩
def WY:SV->Option az:=λ_=>some SZ
def acg (a0:aa) (a1:aa):OT lA.Y:=
 (.ok ⟨SZ,(((eE a0 a1).snd,()),())⟩)
theorem aDD (x:PQ) (Q:lA.Y->Prop):wpf te abu av 1000 Tryz.f86 (lA.inp.inj x).tm (lA.inp.inj x).hp (fnK lA WY Q) (λ_ _=>False)=(acg (x.1.1) (x.1.2.1)).wpR Q:=by kernel_rfl
theorem alQ (pre:PQ->Bool) (F:PQ->OT lA.Y) (hF:∀ (x:PQ) oy,pre x=true->(F x).run=some oy->(acg (x.1.1) (x.1.2.1)).run=some oy):ac Tryz.prog 86 (lA.aI pre F):=
 aD ar Nv apM (f:=86) (fn:=Tryz.f86) (c:=aj Tryz.f86) (by kernel_rfl) (by kernel_rfl) (by kernel_rfl) (S:=lA) (k:=0) (by kernel_rfl) (λR hR=>af) (n:=1000) (sel:=WY) (λv o h=>by cases h;rfl) (pre:=pre) (F:=F) (T:=λx=>acg (x.1.1) (x.1.2.1)) (λx Q=>aDD x Q) hF
def WZ (_:PQ):Bool:=true
def aqn (x:PQ):OT lA.Y:=.ok ⟨SZ,((Nat.blt x.1.1.nat x.1.2.1.nat,()),())⟩
theorem axE:ac Tryz.prog 86 (lA.aI WZ aqn):=alQ _ _ λx oy _ ho=>ho
def Ee:cj:=(lA.aI WZ aqn)
theorem acf:ac Tryz.prog 86 Ee:=axE
theorem ace:aG Ee:=aB
def Nz:Env:=ay 86 Ee abu
theorem Gi:aQ Tryz.prog Nz:=ag acf Nv
theorem Hv:ax Nz:=ae ace Nw
theorem agb:aW Tryz.prog te Nz:=aL follows ar Gi Hv
def sa:aw:=⟨[.val true .elem,.val false .int],[],true,0,false⟩
abbrev alT:Type:=((aa)×(Int)×Unit)×(Unit)
def Eg:az:=⟨[.val false .bool],[],false⟩
def agL:SV->Option az:=λ_=>some Eg
def aqt (a0:aa) (a1:Int):OT sa.Y:=
 let z0:Int:=Int.tdiv a1 (64:Int)
 let z1:Int:=Int.tmod a1 (64:Int)
 (.br (decide ((0:Int)<=a1))
 (.br (decide (a1<(256:Int)))
  (gd [true&&inR z0,inB z0 4,decide (Int.toNat z0+0<4),decide ((0:Int)<=z1)] (.ok ⟨Eg,((bm (List.getD [a0.w0,a0.w1,a0.w2,a0.w3] (Int.toNat z0+0) (0:UInt64)) z1&&&(1:UInt64)==(1:UInt64),()),())⟩))
  (.ok ⟨Eg,((false,()),())⟩))
 (.ok ⟨Eg,((false,()),())⟩))
theorem aH9 (x:alT) (Q:sa.Y->Prop):wpf te Nz av 1000 Tryz.f84 (sa.inp.inj x).tm (sa.inp.inj x).hp (fnK sa agL Q) (λ_ _=>False)=(aqt (x.1.1) (x.1.2.1)).wpR Q:=by kernel_rfl
theorem aqs (pre:alT->Bool) (F:alT->OT sa.Y) (hF:∀ (x:alT) oy,pre x=true->(F x).run=some oy->(aqt (x.1.1) (x.1.2.1)).run=some oy):ac Tryz.prog 84 (sa.aI pre F):=
 aD ar Gi agb (f:=84) (fn:=Tryz.f84) (c:=aj Tryz.f84) (by kernel_rfl) (by kernel_rfl) (by kernel_rfl) (S:=sa) (k:=0) (by kernel_rfl) (λR hR=>af) (n:=1000) (sel:=agL) (λv o h=>by cases h;rfl) (pre:=pre) (F:=F) (T:=λx=>aqt (x.1.1) (x.1.2.1)) (λx Q=>aH9 x Q) hF
def yp (a:aa) (i:Int):Bool:=cond (decide (0<=i)) (cond (decide (i<256)) (afX a.nat i.toNat) false) false
def agM (_:alT):Bool:=true
def aCz (x:alT):OT sa.Y:=.ok ⟨Eg,((yp x.1.1 x.1.2.1,()),())⟩
theorem awV {a:aa} {i:Int} (h1:0<=i) (h2:i<256):(bm (List.getD [a.w0,a.w1,a.w2,a.w3] (Int.toNat (Int.tdiv i 64)+0) 0) (Int.tmod i 64)&&&1==1)=yp a i:=by
 obtain ⟨n,rfl⟩:∃ n:Nat,i=(n:Int):=⟨i.toNat,by omega⟩
 have hn:n<256:=by omega
 have t1:Int.tdiv (n:Int) 64=((n/64:Nat):Int):=by rw [Int.tdiv_eq_ediv_of_nonneg (by omega)];omega
 have t2:Int.tmod (n:Int) 64=((n%64:Nat):Int):=by rw [Int.tmod_eq_emod_of_nonneg (by omega)];omega
 rw [t1,t2,V7,ff _ _ (by omega),Int.toNat_natCast,Nat.add_zero]
 have:=rI (a:=a) (q:=n/64) (r:=n%64) (by omega) (by omega)
 rw [show 64*(n/64)+n%64=n by omega] at this
 unfold yp afX
 rw [decide_eq_true h1,decide_eq_true h2,Int.toNat_natCast]
 simp only [cond_true]
 rw [<-this]
 rfl
theorem aDF:ac Tryz.prog 84 (sa.aI agM aCz):=aqs _ _ λx oy _ ho=>by
 rw [<-ho]
 clear ho
 obtain ⟨⟨a,i,⟨⟩⟩,⟨⟩⟩:=x
 show _=(OT.ok ⟨Eg,((yp a i,()),())⟩:OT sa.Y).run
 by_cases h1:0<=i
 ·refine (OT.ao (decide_eq_true h1)).trans ?_
  by_cases h2:i<256
  ·refine (OT.ao (decide_eq_true h2)).trans ((ah ?_).trans ?_)
   ·obtain ⟨n,rfl⟩:∃ n:Nat,i=(n:Int):=⟨i.toNat,by omega⟩
    have t1:Int.tdiv (n:Int) 64=((n/64:Nat):Int):=by rw [Int.tdiv_eq_ediv_of_nonneg (by omega)];omega
    have t2:Int.tmod (n:Int) 64=((n%64:Nat):Int):=by rw [Int.tmod_eq_emod_of_nonneg (by omega)];omega
    simp only [t1,t2,Int.toNat_natCast,Nat.add_zero,List.all_cons,List.all_nil,Bool.and_true,Bool.and_eq_true,Bool.true_and]
    exact ⟨aH (by omega),aN (by omega),decide_eq_true (by omega),decide_eq_true (by omega)⟩
   ·simp only [awV h1 h2]
  ·have e:yp a i=false:=by unfold yp;rw [decide_eq_true h1,decide_eq_false h2];rfl
   rw [e]
   exact OT.aq (decide_eq_false h2)
 ·have e:yp a i=false:=by unfold yp;rw [decide_eq_false h1];rfl
  rw [e]
  exact OT.aq (decide_eq_false h1)
def Ju:cj:=(sa.aI agM aCz)
theorem alS:ac Tryz.prog 84 Ju:=aDF
theorem alR:aG Ju:=aB
def Sv:Env:=ay 84 Ju Nz
theorem C3:aQ Tryz.prog Sv:=ag alS Gi
theorem NA:ax Sv:=ae alR Hv
theorem Su:aW Tryz.prog te Sv:=aL follows ar C3 NA
end Go.Proofs.YtohjofabochgfaaGreat

namespace Go.Proofs.YtohjofabochgfaaGreat
open Sx Go
theorem Iz (x b:UInt64) (hb:b.toNat<=1):2*x.toNat+b.toNat=(bR x 1|||b).toNat+18446744073709551616*(bm x 63).toNat:=by
 have hx:=x.toNat_lt
 have e1:(bR x 1).toNat=2^1*(x.toNat%9223372036854775808):=by
  have e:(bR x 1).toNat=x.toNat*2^1%2^64:=lI x 1 (by omega)
  rw [e]
  omega
 have e2:(bm x 63).toNat=x.toNat/2^63:=ff x 63 (by omega)
 have e3:=Nat.two_pow_add_eq_or_of_lt (i:=1) (b:=b.toNat) (by omega) (x.toNat%9223372036854775808)
 rw [UInt64.toNat_or,e1,<-e3,e2]
 omega
theorem JD (x:UInt64):(bm x 63).toNat<=1:=by
 have hx:=x.toNat_lt
 have e2:(bm x 63).toNat=x.toNat/2^63:=ff x 63 (by omega)
 rw [e2]
 omega
def aX (a:aa) (b:UInt64):aa×UInt64:=(⟨bR a.w0 1|||b,bR a.w1 1|||bm a.w0 63,bR a.w2 1|||bm a.w1 63,bR a.w3 1|||bm a.w2 63⟩,bm a.w3 63)
theorem al5 (a:aa) (b:UInt64) (hb:b.toNat<=1):2*a.nat+b.toNat=(aX a b).1.nat+115792089237316195423570985008687907853269984665640564039457584007913129639936*(aX a b).2.toNat:=by
 have h0:=Iz a.w0 b hb
 have h1:=Iz a.w1 _ (JD a.w0)
 have h2:=Iz a.w2 _ (JD a.w1)
 have h3:=Iz a.w3 _ (JD a.w2)
 unfold aX Sx.aa.nat
 dsimp only
 omega
def IF (m r:aa) (b:UInt64):aa:=cond (!((aX r b).2==0)) (eE (aX r b).1 m).1 (cond (!(eE (aX r b).1 m).2) (eE (aX r b).1 m).1 (aX r b).1)
theorem ajW {n m:Nat} (h1:m<=n) (h2:n<2*m):n-m=n%m:=by
 rw [Nat.mod_eq_sub_mod h1,Nat.mod_eq_of_lt (by omega)]
theorem azW {m r:aa} {b:UInt64} (hb:b.toNat<=1) (hr:r.nat<m.nat):(IF m r b).nat=(2*r.nat+b.toNat)%m.nat:=by
 have h:=al5 r b hb
 have hm:=jz m
 have hs:=jz (aX r b).1
 have h2:(aX r b).2.toNat<=1:=JD _
 have hw:(eE (aX r b).1 m).1.nat=((aX r b).1.nat+115792089237316195423570985008687907853269984665640564039457584007913129639936-m.nat)%115792089237316195423570985008687907853269984665640564039457584007913129639936:=by
  unfold eE
  exact Uy _
 unfold IF
 cases ho:(aX r b).2==0
 ·have ho:(aX r b).2.toNat=1:=by
   have:(aX r b).2.toNat≠0:=λe=>by
    have e':(aX r b).2=0:=UInt64.toNat_inj.1 e
    rw [e'] at ho
    cases ho
   omega
  show (eE (aX r b).1 m).1.nat=_
  rw [hw,<-ajW (n:=2*r.nat+b.toNat) (by omega) (by omega),Nat.mod_eq_of_lt (by omega)]
  omega
 ·have ho:(aX r b).2.toNat=0:=by
   rw [beq_iff_eq] at ho
   rw [ho]
   rfl
  have e:2*r.nat+b.toNat=(aX r b).1.nat:=by omega
  cases hu:(eE (aX r b).1 m).2
  ·have hu':m.nat<=(aX r b).1.nat:=by
    rw [agK] at hu
    exact Nat.le_of_not_lt λh'=>by rw [(Nat.blt_eq ..).mpr h'] at hu;cases hu
   show (eE (aX r b).1 m).1.nat=_
   rw [m6 hu',e,ajW hu' (by omega)]
  ·have hu':(aX r b).1.nat<m.nat:=by
    rw [agK] at hu
    exact (Nat.blt_eq ..).mp hu
   show (aX r b).1.nat=_
   rw [e,Nat.mod_eq_of_lt hu']
def O0 (a:aa) (i:Nat):UInt64:=bm ((lst a).getD (i/64) 0) ((i%64:Nat):Int)&&&1
theorem alw (a:aa) {i:Nat} (hi:i<256):(O0 a i).toNat=a.nat/2^i%2:=by
 have e:∀ x:UInt64,(x&&&1).toNat=x.toNat%2:=λx=>by
  rw [UInt64.toNat_and]
  exact Nat.and_two_pow_sub_one_eq_mod x.toNat 1
 unfold O0
 rw [e,ff _ _ (by omega),rI (by omega) (by omega),show 64*(i/64)+i%64=i by omega]
def acT (m a r:aa):Nat->aa:=upto (λk r=>IF m r (O0 a (255-k))) r
theorem Tn {m a r:aa} (hr:r.nat<m.nat):∀ k,k<=256->(acT m a r k).nat=(r.nat*2^k+a.nat/2^(256-k))%m.nat/\(acT m a r k).nat<m.nat
 |0,_=>by
  have h:=jz a
  refine ⟨?_,hr⟩
  show r.nat=_
  rw [Nat.pow_zero,Nat.mul_one,Nat.div_eq_of_lt h,Nat.add_zero,Nat.mod_eq_of_lt hr]
 |k+1,hk=>by
  obtain ⟨h1,h2⟩:=Tn (a:=a) hr k (by omega)
  have hb:=alw a (i:=255-k) (by omega)
  have hb1:(O0 a (255-k)).toNat<=1:=by omega
  have h3:=azW hb1 h2
  have e:(acT m a r (k+1)).nat=(2*(acT m a r k).nat+(O0 a (255-k)).toNat)%m.nat:=h3
  have e2:a.nat/2^(255-k)=2*(a.nat/2^(256-k))+(O0 a (255-k)).toNat:=by
   rw [hb,show 256-k=255-k+1 by omega,Nat.pow_succ,<-Nat.div_div_eq_div_mul]
   omega
  refine ⟨?_,?_⟩
  ·rw [e,h1,show 256-(k+1)=255-k by omega,e2,Nat.pow_succ]
   rw [<-Nat.mod_add_mod,Nat.mul_mod_mod,Nat.mod_add_mod]
   congr 1
   rw [Nat.mul_add,<-Nat.mul_assoc,Nat.mul_comm (2^k) 2,<-Nat.mul_assoc,Nat.mul_comm r.nat 2,Nat.add_assoc]
  ·rw [e]
   exact Nat.mod_lt _ (by omega)
def azX (lo hi m:aa):aa:=ofN ((lo.nat+115792089237316195423570985008687907853269984665640564039457584007913129639936*hi.nat)%m.nat)
theorem ai5 {m lo hi:aa} (hm:0<m.nat):acT m lo (acT m hi ⟨0,0,0,0⟩ 256) 256=azX lo hi m:=by
 have h0:(⟨0,0,0,0⟩:aa).nat<m.nat:=hm
 obtain ⟨h1,h2⟩:=Tn (a:=hi) h0 256 (Nat.le_refl _)
 obtain ⟨h3,h4⟩:=Tn (a:=lo) h2 256 (Nat.le_refl _)
 have hl:=jz m
 refine rc ?_
 unfold azX
 rw [h3,h1,kx (Nat.lt_trans (Nat.mod_lt _ hm) hl),show 256-256=0 from rfl,Nat.pow_zero,Nat.div_one,Nat.div_one,show (⟨0,0,0,0⟩:aa).nat=0 from rfl,Nat.zero_mul,Nat.zero_add,<-Nat.mod_add_mod,Nat.mod_mul_mod,Nat.mod_add_mod,Nat.mul_comm,Nat.add_comm]
end Go.Proofs.YtohjofabochgfaaGreat

namespace Go.Proofs.YtohjofabochgfaaGreat
open Sx Go
set_option maxRecDepth 100000
def ir:aw:=⟨[.val true .elem,.val false .u64],[],true,0,false⟩
abbrev Ea:Type:=((aa)×(UInt64)×Unit)×(Unit)
def sy:Shape:=⟨25,[(1,.val false .u64),(2,.ptr 0 0 0),(4,.ptr 1 0 0),(7,.val false .int)],[(0,.row .u64),(1,.row .u64)],0,true⟩
abbrev cz:Type:=((UInt64)×(Unit)×(Unit)×(Int)×Unit)×((List (UInt64))×(List (UInt64))×Unit)
def qs:Shape:=⟨25,[(1,.val false .u64),(2,.ptr 0 0 0),(4,.ptr 1 0 0)],[(0,.row .u64),(1,.row .u64)],0,true⟩
abbrev j0:Type:=((UInt64)×(Unit)×(Unit)×Unit)×((List (UInt64))×(List (UInt64))×Unit)
def WS:SE->Option Shape:=fc [(0,qs)] none
def aqh (a1:UInt64) (a7:Int) (c0:List (UInt64)) (c1:List (UInt64)):OT (Sum cz aE):=
 let z0:Bool:=inB a7 4
 let z1:Bool:=decide (Int.toNat a7+0<List.length c0)
 let z2:UInt64:=List.getD c0 (Int.toNat a7+0) (0:UInt64)
 (.br (decide (a7<(4:Int)))
 (gd [z0,z1,z0,z1,z0,z1,inR (a7+(1:Int))] (.ok (.inl ((bm z2 (63:Int),((),((),(a7+(1:Int),())))),(List.set c0 (Int.toNat a7+0) (bR z2 (1:Int)|||a1),(c1,()))))))
 (.ok (.inr ⟨(.exit 0,qs),((a1,((),((),()))),(c0,(c1,())))⟩)))
def sA (s:cz):OT (Sum cz aE):=aqh (s.1.1) (s.1.2.2.2.1) (s.2.1) (s.2.2.1)
theorem aqe (s:cz) (Q:Sum cz aE->Prop):wps te Sv av 1000 (aU (aj Tryz.f147) 0) (sy.inj s) (bU sy WS (Q:Sum sy.T aE->Prop))=(sA s).wpR Q:=by kernel_rfl
def AD (g0_0:cz->j0) (s:cz):OT aE:=(.ok ⟨(.exit 0,qs),g0_0 s⟩)
def Jq:az:=⟨[.val true .elem,.val false .u64],[],false⟩
def PK:SV->Option az:=λ_=>some Jq
def SW (ok0:cz->Bool) (g0_0:cz->j0) (a0:aa) (a1:UInt64):OT ir.Y:=
 let z0:(UInt64×PUnit×PUnit×Int×PUnit)×List UInt64×List UInt64×PUnit:=((a1,(),(),(0:Int),()),[a0.w0,a0.w1,a0.w2,a0.w3],[(0:UInt64),(0:UInt64),(0:UInt64),(0:UInt64)],())
 let z1:(UInt64×PUnit×PUnit×PUnit)×List UInt64×List UInt64×PUnit:=g0_0 z0
 let z2:=z1.snd
 let z3:=z2.fst
 let z4:=z2.snd.fst
 let z5:List UInt64:=lay z4 z3 4 (0:UInt64)
 (gd [ok0 z0,decide (4<=List.length z3),decide ((4/1:Nat)+0<=List.length z4),decide (4<=List.length z5)] (.ok ⟨Jq,(({w0:=List.getD z5 0 0,w1:=List.getD z5 1 0,w2:=List.getD z5 2 0,w3:=List.getD z5 3 0},(z1.fst.fst,())),())⟩))
theorem axz (ok0:cz->Bool) (g0_0:cz->j0) (x:Ea) (Q:ir.Y->Prop):wpf te Sv (aO 0 (cf sy 0 ok0 (AD g0_0)) av) 1000 Tryz.f147 (ir.inp.inj x).tm (ir.inp.inj x).hp (fnK ir PK Q) (λ_ _=>False)=(SW ok0 g0_0 (x.1.1) (x.1.2.1)).wpR Q:=by kernel_rfl
theorem ab9 (ok0:cz->Bool) (g0_0:cz->j0) (h0:∀ s:cz,ok0 s=true->∃ m e,al (sA) m s=some e/\(AD g0_0 s).run=some e) (pre:Ea->Bool) (F:Ea->OT ir.Y) (hF:∀ (x:Ea) oy,pre x=true->(F x).run=some oy->(SW ok0 g0_0 (x.1.1) (x.1.2.1)).run=some oy):ac Tryz.prog 147 (ir.aI pre F):=
 aD ar C3 Su (f:=147) (fn:=Tryz.f147) (c:=aj Tryz.f147) (by kernel_rfl) (by kernel_rfl) (by kernel_rfl) (S:=ir) (k:=0) (by kernel_rfl) (λR hR=>(aA (c:=(aj Tryz.f147)) (by kernel_rfl) (id:=0) (by kernel_rfl) (aP ar C3 Su (sh:=sy) hR (xs:=WS) (aC (by kernel_rfl) (by kernel_rfl) hR) aM af (n:=1000) (T:=sA) (λs Q=>aqe s Q) (ok:=ok0) (f:=AD g0_0) h0) af)) (n:=1000) (sel:=PK) (λv o h=>by cases h;rfl) (pre:=pre) (F:=F) (T:=λx=>SW ok0 g0_0 (x.1.1) (x.1.2.1)) (λx Q=>axz ok0 g0_0 x Q) hF
def aKa (k:Nat) (s:List UInt64×UInt64):List UInt64×UInt64:=(s.1.set k (bR (s.1.getD k 0) 1|||s.2),bm (s.1.getD k 0) 63)
def PM (s:cz):Bool:=decide (s.1.2.2.2.1=0/\s.2.1.length=4)
def WV (s:cz):j0:=(((upto aKa (s.2.1,s.1.1) 4).2,(),(),()),((upto aKa (s.2.1,s.1.1) 4).1,s.2.2.1,()))
theorem aqg:∀ s:cz,PM s=true->∃ m e,al sA m s=some e/\(AD WV s).run=some e:=by
 rintro ⟨⟨b,⟨⟩,⟨⟩,i,⟨⟩⟩,⟨a,r,⟨⟩⟩⟩ h
 have h':=of_decide_eq_true h
 dsimp only at h'
 obtain ⟨rfl,hl⟩:=h'
 have:=(aR (T:=sA) (λk s=>(((s.2,(),(),(k:Int),()),(s.1,r,())):cz)) aKa
  (λs=>(⟨(.exit 0,qs),((s.2,(),(),()),(s.1,r,()))⟩:aE)) 4 (a,b) (λ_ s=>s.1.length=4) hl (λk s hk hs=>⟨?_,(List.length_set ..).trans hs⟩) (λs hs=> ?_)).1
 ·obtain ⟨m,hm⟩:=this
  exact ⟨m,_,hm,rfl⟩
 ·refine (OT.ao (decide_eq_true (by dsimp only;omega))).trans ((ah ?_).trans ?_)
  ·simp only [Int.toNat_natCast,Nat.add_zero,hs,List.all_cons,List.all_nil,Bool.and_true,Bool.and_eq_true]
   exact ⟨aN (by omega),decide_eq_true (by omega),aN (by omega),decide_eq_true (by omega),aN (by omega),decide_eq_true (by omega),aH (by omega)⟩
  ·simp only [OT.cT,Int.toNat_natCast,Nat.add_zero]
   rfl
 ·exact OT.aq (decide_eq_false (by dsimp only;omega))
def PL (_:Ea):Bool:=true
def agF (x:Ea):OT ir.Y:=.ok ⟨Jq,(((aX x.1.1 x.1.2.1).1,((aX x.1.1 x.1.2.1).2,())),())⟩
theorem aqf:ac Tryz.prog 147 (ir.aI PL agF):=ab9 PM WV aqg _ _ λx oy hp ho=>by
 rw [<-ho]
 clear ho
 obtain ⟨⟨a,b,⟨⟩⟩,⟨⟩⟩:=x
 refine (ah ?_).trans rfl
 simp only [List.all_cons,List.all_nil,Bool.and_true,Bool.and_eq_true]
 exact ⟨rfl,rfl,rfl,rfl⟩
def yO:cj:=(ir.aI PL agF)
theorem WU:ac Tryz.prog 147 yO:=aqf
theorem WT:aG yO:=aB
def xE:Env:=ay 147 yO Sv
theorem rN:aQ Tryz.prog xE:=ag WU C3
theorem C2:ax xE:=ae WT NA
theorem Hu:aW Tryz.prog te xE:=aL follows ar rN C2
def r9:aw:=⟨[.val true .elem,.val true .elem,.val true .elem],[],true,0,false⟩
abbrev alP:Type:=((aa)×(aa)×(aa)×Unit)×(Unit)
def Js:Shape:=⟨57,[(5,.ptr 0 0 0),(6,.ptr 1 0 0),(8,.ptr 2 0 0),(10,.ptr 3 0 0),(11,.val false .int),(21,.val true (.arr 2 .elem)),(22,.val false .int)],[(0,.row .u64),(1,.row .u64),(2,.row .u64),(3,.row .u64)],0,true⟩
abbrev dk:Type:=((Unit)×(Unit)×(Unit)×(Unit)×(Int)×(List (aa))×(Int)×Unit)×((List (UInt64))×(List (UInt64))×(List (UInt64))×(List (UInt64))×Unit)
def AE:Shape:=⟨57,[(5,.ptr 0 0 0),(6,.ptr 1 0 0),(8,.ptr 2 0 0),(21,.val true (.arr 2 .elem)),(22,.val false .int)],[(0,.row .u64),(1,.row .u64),(2,.row .u64)],0,true⟩
abbrev ld:Type:=((Unit)×(Unit)×(Unit)×(List (aa))×(Int)×Unit)×((List (UInt64))×(List (UInt64))×(List (UInt64))×Unit)
def aqi:SE->Option Shape:=fc [(2,AE)] none
def acb (a11:Int) (a21:List (aa)) (a22:Int) (c0:List (UInt64)) (c1:List (UInt64)) (c2:List (UInt64)) (c3:List (UInt64)):OT (Sum dk aE):=
 let z0:Nat:=List.length c2
 let z1:Int:=Int.tdiv a11 (64:Int)
 let z2:Int:=Int.tmod a11 (64:Int)
 let z3:aa×UInt64:=aX {w0:=List.getD c2 0 0,w1:=List.getD c2 1 0,w2:=List.getD c2 2 0,w3:=List.getD c2 3 0} (bm (List.getD c3 (Int.toNat z1+0) (0:UInt64)) z2&&&(1:UInt64))
 let z4:=z3.fst
 let z5:List UInt64:=List.set (List.set (List.set (List.set c2 0 z4.w0) 1 z4.w1) 2 z4.w2) 3 z4.w3
 let z6:Nat:=List.length z5
 let z7:Bool:=decide ((4/1:Nat)+0<=z6)
 let z8:Bool:=inR (a11-(1:Int))
 let z9:aa:= {w0:=0,w1:=0,w2:=0,w3:=0}
 let z10:aa×Bool:=eE {w0:=List.getD z5 0 0,w1:=List.getD z5 1 0,w2:=List.getD z5 2 0,w3:=List.getD z5 3 0} {w0:=List.getD c0 0 0,w1:=List.getD c0 1 0,w2:=List.getD c0 2 0,w3:=List.getD c0 3 0}
 let z11:=z10.fst
 let z12:List UInt64:=List.set (List.set (List.set (List.set z5 0 z11.w0) 1 z11.w1) 2 z11.w2) 3 z11.w3
 (.br (decide ((0:Int)<=a11))
 (gd [decide (4<=z0),true&&inR z1,inB z1 4,decide (Int.toNat z1+0<List.length c3),decide ((0:Int)<=z2),decide ((4/1:Nat)+0<=z0),decide (4<=z6),decide (4<=List.length c0)] (.br (!z3.snd==(0:UInt64))
  (gd [z7,z8] (.ok (.inl (((),((),((),((),(a11-(1:Int),([List.getD a21 0 z9,List.getD a21 1 z9],(a22,()))))))),(c0,(c1,(z12,(c3,()))))))))
  (.br (!z10.snd)
   (gd [z7,z8] (.ok (.inl (((),((),((),((),(a11-(1:Int),([List.getD a21 0 z9,List.getD a21 1 z9],(a22,()))))))),(c0,(c1,(z12,(c3,()))))))))
   (gd [z8] (.ok (.inl (((),((),((),((),(a11-(1:Int),([List.getD a21 0 z9,List.getD a21 1 z9],(a22,()))))))),(c0,(c1,(z5,(c3,())))))))))))
 (.ok (.inr ⟨(.exit 2,AE),(((),((),((),([List.getD a21 0 z9,List.getD a21 1 z9],(a22,()))))),(c0,(c1,(c2,()))))⟩)))
def Jt (s:dk):OT (Sum dk aE):=acb (s.1.2.2.2.2.1) (s.1.2.2.2.2.2.1) (s.1.2.2.2.2.2.2.1) (s.2.1) (s.2.2.1) (s.2.2.2.1) (s.2.2.2.2.1)
theorem aDz (s:dk) (Q:Sum dk aE->Prop):wps te xE av 1000 (aU (aj Tryz.f111) 2) (Js.inj s) (bU Js aqi (Q:Sum Js.T aE->Prop))=(Jt s).wpR Q:=by kernel_rfl
def SY (g2_2:dk->ld) (s:dk):OT aE:=(.ok ⟨(.exit 2,AE),(((g2_2 s).1.1,((g2_2 s).1.2.1,((g2_2 s).1.2.2.1,(s.1.2.2.2.2.2.1,(s.1.2.2.2.2.2.2.1,()))))),(g2_2 s).2)⟩)
def Eb:az:=⟨[.val true .elem,.val false .int],[],false⟩
def agG:SV->Option az:=λ_=>some Eb
def PN (ok2:dk->Bool) (g2_2:dk->ld) (a0:aa) (a1:aa) (a2:aa):OT r9.Y:=
 let z0:(PUnit×PUnit×PUnit×PUnit×Int×List aa×Int×PUnit)×List UInt64×List UInt64×List UInt64×List UInt64×PUnit:=(((),(),(),(),(255:Int),[a1,a0],(0:Int),()),[a2.w0,a2.w1,a2.w2,a2.w3],[(0:UInt64),(0:UInt64),(0:UInt64),(0:UInt64)],[(0:UInt64),(0:UInt64),(0:UInt64),(0:UInt64)],[a1.w0,a1.w1,a1.w2,a1.w3],())
 let z1:=(g2_2 z0).snd
 let z2:=z1.snd
 let z3:(PUnit×PUnit×PUnit×PUnit×Int×List aa×Int×PUnit)×List UInt64×List UInt64×List UInt64×List UInt64×PUnit:=(((),(),(),(),(255:Int),[a1,a0],(0:Int)+(1:Int),()),z1.fst,z2.fst,z2.snd.fst,[a0.w0,a0.w1,a0.w2,a0.w3],())
 let z4:=(g2_2 z3).snd.snd
 let z5:=z4.snd.fst
 let z6:=z4.fst
 let z7:List UInt64:=lay z6 z5 4 (0:UInt64)
 (.br (a2.w0==(0:UInt64)&&(a2.w1==(0:UInt64)&&(a2.w2==(0:UInt64)&&(a2.w3==(0:UInt64)&&true))))
 (.ok ⟨Eb,(({w0:=0,w1:=0,w2:=0,w3:=0},((10:Int),())),())⟩)
 (gd [ok2 z0,ok2 z3,decide (4<=List.length z5),decide ((4/1:Nat)+0<=List.length z6),decide (4<=List.length z7)] (.ok ⟨Eb,(({w0:=List.getD z7 0 0,w1:=List.getD z7 1 0,w2:=List.getD z7 2 0,w3:=List.getD z7 3 0},((0:Int),())),())⟩)))
theorem aH7 (ok2:dk->Bool) (g2_2:dk->ld) (x:alP) (Q:r9.Y->Prop):wpf te xE (aO 2 (cf Js 2 ok2 (SY g2_2)) av) 1000 Tryz.f111 (r9.inp.inj x).tm (r9.inp.inj x).hp (fnK r9 agG Q) (λ_ _=>False)=(PN ok2 g2_2 (x.1.1) (x.1.2.1) (x.1.2.2.1)).wpR Q:=by kernel_rfl
theorem aqj (ok2:dk->Bool) (g2_2:dk->ld) (h2:∀ s:dk,ok2 s=true->∃ m e,al (Jt) m s=some e/\(SY g2_2 s).run=some e) (pre:alP->Bool) (F:alP->OT r9.Y) (hF:∀ (x:alP) oy,pre x=true->(F x).run=some oy->(PN ok2 g2_2 (x.1.1) (x.1.2.1) (x.1.2.2.1)).run=some oy):ac Tryz.prog 111 (r9.aI pre F):=
 aD ar rN Hu (f:=111) (fn:=Tryz.f111) (c:=aj Tryz.f111) (by kernel_rfl) (by kernel_rfl) (by kernel_rfl) (S:=r9) (k:=0) (by kernel_rfl) (λR hR=>(aA (c:=(aj Tryz.f111)) (by kernel_rfl) (id:=2) (by kernel_rfl) (aP ar rN Hu (sh:=Js) hR (xs:=aqi) (aC (by kernel_rfl) (by kernel_rfl) hR) aM af (n:=1000) (T:=Jt) (λs Q=>aDz s Q) (ok:=ok2) (f:=SY g2_2) h2) af)) (n:=1000) (sel:=agG) (λv o h=>by cases h;rfl) (pre:=pre) (F:=F) (T:=λx=>PN ok2 g2_2 (x.1.1) (x.1.2.1) (x.1.2.2.1)) (λx Q=>aH7 ok2 g2_2 x Q) hF
def SX (s:dk):Bool:=decide (s.1.2.2.2.2.1=255/\s.1.2.2.2.2.2.1.length=2/\s.2.1.length=4/\s.2.2.2.1.length=4/\s.2.2.2.2.1.length=4)
def aca (s:dk):ld:=(((),(),(),s.1.2.2.2.2.2.1,s.1.2.2.2.2.2.2.1,()),(s.2.1,s.2.2.1,lst (acT (elemOf s.2.1) (elemOf s.2.2.2.2.1) (elemOf s.2.2.2.1) 256),()))
theorem aKf (i:Nat):Int.tdiv (i:Int) 64=((i/64:Nat):Int):=by rw [Int.tdiv_eq_ediv_of_nonneg (by omega)];omega
theorem aKg (i:Nat):Int.tmod (i:Int) 64=((i%64:Nat):Int):=by rw [Int.tmod_eq_emod_of_nonneg (by omega)];omega
theorem aDB:∀ s:dk,SX s=true->∃ m e,al Jt m s=some e/\(SY aca s).run=some e:=by
 rintro ⟨⟨⟨⟩,⟨⟩,⟨⟩,⟨⟩,i,arr,j,⟨⟩⟩,⟨c0,c1,c2,c3,⟨⟩⟩⟩ h
 have h':=of_decide_eq_true h
 dsimp only at h'
 obtain ⟨rfl,ha,h0,h2,h3⟩:=h'
 obtain ⟨x,y,rfl⟩:∃ x y,arr= [x,y]:=by
  match arr,ha with
  | [x,y],_=>exact ⟨x,y,rfl⟩
 obtain ⟨m,rfl⟩:∃ a,c0=lst a:=⟨elemOf c0,(aS h0).symm⟩
 obtain ⟨r,rfl⟩:∃ a,c2=lst a:=⟨elemOf c2,(aS h2).symm⟩
 obtain ⟨t,rfl⟩:∃ a,c3=lst a:=⟨elemOf c3,(aS h3).symm⟩
 have:=(aR (T:=Jt) (λk r=>((((),(),(),(),(255:Int)-(k:Int),[x,y],j,()),(lst m,c1,lst r,lst t,())):dk)) (λk r=>IF m r (O0 t (255-k)))
  (λr=>(⟨(.exit 2,AE),(((),(),(),[x,y],j,()),(lst m,c1,lst r,()))⟩:aE)) 256 r (λ_ _=>True) trivial (λk r hk _=>⟨?_,trivial⟩) (λr _=> ?_)).1
 ·obtain ⟨n,hn⟩:=this
  exact ⟨n,_,hn,rfl⟩
 ·have e0:(255:Int)-(k:Int)=((255-k:Nat):Int):=by omega
  have e1:(255:Int)-((k+1:Nat):Int)=((255-k:Nat):Int)-1:=by omega
  have hb:bm ((lst t).getD ((255-k)/64) 0) (((255-k)%64:Nat):Int)&&&1=O0 t (255-k):=rfl
  rw [e1,e0]
  show (acb ((255-k:Nat):Int) [x,y] j (lst m) c1 (lst r) (lst t)).run=some (.inl (((),(),(),(),((255-k:Nat):Int)-1,[x,y],j,()),(lst m,c1,lst (IF m r (O0 t (255-k))),lst t,())))
  unfold acb
  simp only [aKf,aKg,Int.toNat_natCast,Nat.add_zero,hb]
  refine (OT.ao (decide_eq_true (by omega))).trans ((ah ?_).trans ?_)
  ·simp only [List.all_cons,List.all_nil,Bool.and_true,Bool.true_and,Bool.and_eq_true]
   have hl:∀ a:aa,(lst a).length=4:=λ_=>rfl
   exact ⟨rfl,aH (by omega),aN (by omega),decide_eq_true (by rw [hl];omega),decide_eq_true (by omega),rfl,rfl,rfl⟩
  ·have hr:inR (((255-k:Nat):Int)-1)=true:=aH (by omega)
   rcases (Bool.eq_false_or_eq_true ((aX r (O0 t (255-k))).2==0)).symm with g|g
   ·have e:IF m r (O0 t (255-k))=(eE (aX r (O0 t (255-k))).1 m).1:=by unfold IF;rw [g];rfl
    rw [e]
    exact (OT.ao (b:= !((aX r (O0 t (255-k))).2==0)) (by rw [g];rfl)).trans ((ah (by rw [hr];rfl)).trans rfl)
   ·refine (OT.aq (b:= !((aX r (O0 t (255-k))).2==0)) (by rw [g];rfl)).trans ?_
    rcases (Bool.eq_false_or_eq_true (eE (aX r (O0 t (255-k))).1 m).2).symm with u|u
    ·have e:IF m r (O0 t (255-k))=(eE (aX r (O0 t (255-k))).1 m).1:=by unfold IF;rw [g,u];rfl
     rw [e]
     exact (OT.ao (b:= !(eE (aX r (O0 t (255-k))).1 m).2) (by rw [u];rfl)).trans ((ah (by rw [hr];rfl)).trans rfl)
    ·have e:IF m r (O0 t (255-k))=(aX r (O0 t (255-k))).1:=by unfold IF;rw [g,u];rfl
     rw [e]
     exact (OT.aq (b:= !(eE (aX r (O0 t (255-k))).1 m).2) (by rw [u];rfl)).trans ((ah (by rw [hr];rfl)).trans rfl)
 ·exact OT.aq (decide_eq_false (by dsimp only;omega))
def agH (_:alP):Bool:=true
def nB (m:aa):Bool:=m.w0==0&&(m.w1==0&&(m.w2==0&&(m.w3==0&&true)))
def aCy (x:alP):OT r9.Y:=.br (nB x.1.2.2.1) (.ok ⟨Eb,((⟨0,0,0,0⟩,((10:Int),())),())⟩) (.ok ⟨Eb,((azX x.1.1 x.1.2.1 x.1.2.2.1,((0:Int),())),())⟩)
theorem Rb {m:aa} (h:nB m=false):0<m.nat:=by
 refine Nat.pos_of_ne_zero λe=> ?_
 have e2:m=⟨0,0,0,0⟩:=rc e
 rw [e2] at h
 cases h
theorem aqk {ok2:dk->Bool} {g2:dk->ld} {a b m H R:aa} (h:nB m=false)
 (h1:ok2 (((),(),(),(),255,[b,a],0,()),(lst m,lst ⟨0,0,0,0⟩,lst ⟨0,0,0,0⟩,lst b,()))=true)
 (e1:(g2 (((),(),(),(),255,[b,a],0,()),(lst m,lst ⟨0,0,0,0⟩,lst ⟨0,0,0,0⟩,lst b,()))).2=(lst m,lst ⟨0,0,0,0⟩,lst H,()))
 (h2:ok2 (((),(),(),(),255,[b,a],0+1,()),(lst m,lst ⟨0,0,0,0⟩,lst H,lst a,()))=true)
 (e2:(g2 (((),(),(),(),255,[b,a],0+1,()),(lst m,lst ⟨0,0,0,0⟩,lst H,lst a,()))).2=(lst m,lst ⟨0,0,0,0⟩,lst R,())):
 (PN ok2 g2 a b m).run=some ⟨Eb,((R,((0:Int),())),())⟩:=by
 have l:∀ e:aa,lst e= [e.w0,e.w1,e.w2,e.w3]:=λ_=>rfl
 rw [l m,l ⟨0,0,0,0⟩] at h1 e1 h2 e2
 rw [l b] at h1 e1
 rw [l a] at h2 e2
 unfold PN
 simp only [e1,h1,e2,h2]
 exact (OT.aq h).trans ((ah rfl).trans rfl)
theorem aDA:ac Tryz.prog 111 (r9.aI agH aCy):=aqj SX aca aDB _ _ λx oy hp ho=>by
 rw [<-ho]
 clear ho
 obtain ⟨⟨a,b,m,⟨⟩⟩,⟨⟩⟩:=x
 show (PN SX aca a b m).run=(OT.br (nB m) _ _:OT r9.Y).run
 rcases (Bool.eq_false_or_eq_true (nB m)).symm with h|h
 ·refine Eq.trans (aqk (H:=acT m b ⟨0,0,0,0⟩ 256) (R:=acT m a (acT m b ⟨0,0,0,0⟩ 256) 256) h rfl rfl rfl rfl) ?_
  rw [ai5 (Rb h)]
  rw [h]
  rfl
 ·exact (OT.ao h).trans (OT.ao (b:=nB m) h).symm
def Jr:cj:=(r9.aI agH aCy)
theorem alO:ac Tryz.prog 111 Jr:=aDA
theorem alN:aG Jr:=aB
def abv:Env:=ay 111 Jr xE
theorem Nx:aQ Tryz.prog abv:=ag alO rN
theorem Ny:ax abv:=ae alN C2
theorem apN:aW Tryz.prog te abv:=aL follows ar Nx Ny
def Mh:aw:=⟨[.val false .int],[],true,0,false⟩
abbrev aHY:Type:=((Int)×Unit)×(Unit)
def Hk:az:=⟨[.val true (.prod .elem (.prod .int (.prod .u64 (.prod .u64 .elem)))),.val false .int],[],false⟩
def avh:SV->Option az:=λ_=>some Hk
def aGK (a0:Int):OT Mh.Y:=
 let z0:aa:= {w0:=0,w1:=0,w2:=0,w3:=0}
 let z1:UInt64×aa:=((0:UInt64),z0)
 (.br (a0==(0:Int))
 (.ok ⟨Hk,((({w0:=16513537,w1:=0,w2:=0,w3:=0},(9:Int),(16513537:UInt64),z1),((0:Int),())),())⟩)
 (.br (a0==(1:Int))
  (.ok ⟨Hk,((({w0:=16521217,w1:=0,w2:=0,w3:=0},(11:Int),(16521217:UInt64),z1),((0:Int),())),())⟩)
  (.br (a0==(2:Int))
   (.ok ⟨Hk,((({w0:=11037532056220336129,w1:=2469829653914515739,w2:=0,w3:=4611686018427387904},(32:Int),(0:UInt64),(11037532056220336127:UInt64),{w0:=10122100416058490895,w1:=15551789045973377255,w2:=8617542898466512152,w3:=679271340751763220}),((0:Int),())),())⟩)
   (.br (a0==(3:Int))
    (.ok ⟨Hk,((({w0:=10108024940646105089,w1:=2469829653919213789,w2:=0,w3:=4611686018427387904},(32:Int),(0:UInt64),(10108024940646105087:UInt64),{w0:=18200867980676431887,w1:=7474641938123724515,w2:=9200329640471491984,w3:=679271340771891881}),((0:Int),())),())⟩)
    (.ok ⟨Hk,(((z0,(0:Int),(0:UInt64),z1),((20:Int),())),())⟩)))))
theorem aKq (x:aHY) (Q:Mh.Y->Prop):wpf te abv av 1000 Tryz.f76 (Mh.inp.inj x).tm (Mh.inp.inj x).hp (fnK Mh avh Q) (λ_ _=>False)=(aGK (x.1.1)).wpR Q:=by kernel_rfl
theorem aBt (pre:aHY->Bool) (F:aHY->OT Mh.Y) (hF:∀ (x:aHY) oy,pre x=true->(F x).run=some oy->(aGK (x.1.1)).run=some oy):ac Tryz.prog 76 (Mh.aI pre F):=
 aD ar Nx apN (f:=76) (fn:=Tryz.f76) (c:=aj Tryz.f76) (by kernel_rfl) (by kernel_rfl) (by kernel_rfl) (S:=Mh) (k:=0) (by kernel_rfl) (λR hR=>af) (n:=1000) (sel:=avh) (λv o h=>by cases h;rfl) (pre:=pre) (F:=F) (T:=λx=>aGK (x.1.1)) (λx Q=>aKq x Q) hF
abbrev PC:Type:=aa×Int×UInt64×UInt64×aa
def aIT:PC:=(⟨0,0,0,0⟩,0,0,0,⟨0,0,0,0⟩)
def aY:Nat->PC
 |0=>(⟨16513537,0,0,0⟩,9,16513537,0,⟨0,0,0,0⟩)
 |1=>(⟨16521217,0,0,0⟩,11,16521217,0,⟨0,0,0,0⟩)
 |2=>(⟨11037532056220336129,2469829653914515739,0,4611686018427387904⟩,32,0,11037532056220336127,⟨10122100416058490895,15551789045973377255,8617542898466512152,679271340751763220⟩)
 |3=>(⟨10108024940646105089,2469829653919213789,0,4611686018427387904⟩,32,0,10108024940646105087,⟨18200867980676431887,7474641938123724515,9200329640471491984,679271340771891881⟩)
 |_=>aIT
def ap (s:Int):Bool:=decide (0<=s)&&decide (s<4)
theorem cy {s:Int} (h:ap s=true):s=0\/s=1\/s=2\/s=3:=by
 simp only [ap,Bool.and_eq_true,decide_eq_true_eq] at h
 omega
theorem vz {s:Int} (h:ap s=false):(s==0)=false/\(s==1)=false/\(s==2)=false/\(s==3)=false:=by
 have hn:∀ k:Int,0<=k->k<4->(s==k)=false:=λk h0 h1=>by
  cases hb:s==k
  ·rfl
  ·have:s=k:=by simpa using hb
   subst this
   simp only [ap,decide_eq_true h0,decide_eq_true h1,Bool.and_self] at h
   cases h
 exact ⟨hn 0 (by decide) (by decide),hn 1 (by decide) (by decide),hn 2 (by decide) (by decide),hn 3 (by decide) (by decide)⟩
def avi (_:aHY):Bool:=true
def aJi (x:aHY):OT Mh.Y:=.br (ap x.1.1) (.ok ⟨Hk,((aY x.1.1.toNat,((0:Int),())),())⟩) (.ok ⟨Hk,((aIT,((20:Int),())),())⟩)
theorem aJh:ac Tryz.prog 76 (Mh.aI avi aJi):=aBt _ _ λx oy _ ho=>by
 rw [<-ho]
 clear ho
 obtain ⟨⟨s,⟨⟩⟩,⟨⟩⟩:=x
 cases hs:ap s
 ·obtain ⟨h0,h1,h2,h3⟩:=vz hs
  exact (OT.aq h0).trans ((OT.aq h1).trans ((OT.aq h2).trans ((OT.aq h3).trans (OT.aq (b:=ap s) hs).symm)))
 ·rcases cy hs with h|h|h|h
  all_goals
   have h:s=_:=h
   subst h
   rfl
theorem vy (c:Int):ap c=(!decide (c<0)&& !decide (3<c)):=by
 rw [Bool.eq_iff_iff]
 simp only [ap,Bool.and_eq_true,decide_eq_true_eq,Bool.not_eq_true',decide_eq_false_iff_not]
 omega
def Vi:cj:=(Mh.aI avi aJi)
theorem avj:ac Tryz.prog 76 Vi:=aJh
theorem avg:aG Vi:=aB
def axp:Env:=ay 76 Vi abv
theorem WA:aQ Tryz.prog axp:=ag avj Nx
theorem SI:ax axp:=ae avg Ny
theorem axo:aW Tryz.prog te axp:=aL follows ar WA SI
def uh:aw:=⟨[.val false .int],[],true,0,false⟩
abbrev aox:Type:=((Int)×Unit)×(Unit)
def Mq:az:=⟨[.val true .elem,.val false .int],[],false⟩
def akB:SV->Option az:=λ_=>some Mq
def avr (a0:Int):OT uh.Y:=
 (.br (ap a0)
 (.ok ⟨Mq,(((aY (Int.toNat a0)).fst,((0:Int),())),())⟩)
 (.ok ⟨Mq,(({w0:=0,w1:=0,w2:=0,w3:=0},((20:Int),())),())⟩))
theorem aJm (x:aox) (Q:uh.Y->Prop):wpf te axp av 1000 Tryz.f66 (uh.inp.inj x).tm (uh.inp.inj x).hp (fnK uh akB Q) (λ_ _=>False)=(avr (x.1.1)).wpR Q:=by kernel_rfl
theorem avq (pre:aox->Bool) (F:aox->OT uh.Y) (hF:∀ (x:aox) oy,pre x=true->(F x).run=some oy->(avr (x.1.1)).run=some oy):ac Tryz.prog 66 (uh.aI pre F):=
 aD ar WA axo (f:=66) (fn:=Tryz.f66) (c:=aj Tryz.f66) (by kernel_rfl) (by kernel_rfl) (by kernel_rfl) (S:=uh) (k:=0) (by kernel_rfl) (λR hR=>af) (n:=1000) (sel:=akB) (λv o h=>by cases h;rfl) (pre:=pre) (F:=F) (T:=λx=>avr (x.1.1)) (λx Q=>aJm x Q) hF
def akC (_:aox):Bool:=true
def aDa (x:aox):OT uh.Y:=.br (ap x.1.1) (.ok ⟨Mq,(((aY x.1.1.toNat).1,((0:Int),())),())⟩) (.ok ⟨Mq,((⟨0,0,0,0⟩,((20:Int),())),())⟩)
theorem aGT:ac Tryz.prog 66 (uh.aI akC aDa):=avq _ _ λx oy _ ho=>ho
def Mp:cj:=(uh.aI akC aDa)
theorem aow:ac Tryz.prog 66 Mp:=aGT
theorem aov:aG Mp:=aB
def Oo:Env:=ay 66 Mp axp
theorem vo:aQ Tryz.prog Oo:=ag aow WA
theorem On:ax Oo:=ae aov SI
theorem GJ:aW Tryz.prog te Oo:=aL follows ar vo On
def pE:aw:=⟨[.val true (.prod .elem (.prod .int (.prod .u64 (.prod .u64 .elem)))),.val true .elem],[],true,0,false⟩
abbrev aoi:Type:=(((aa×(Int×(UInt64×(UInt64×aa)))))×(aa)×Unit)×(Unit)
def Mb:Shape:=⟨53,[(2,.ptr 0 0 0),(3,.ptr 1 0 0),(4,.ptr 2 0 0),(5,.val false .u64),(6,.val false .int)],[(0,.cells [.val false .u64,.val false .u64,.val false .u64,.val false .u64,.val false .int,.val false .u64,.val false .u64,.val false .u64,.val false .u64,.val false .u64,.val false .u64]),(1,.row .u64),(2,.row .u64)],0,true⟩
abbrev dR:Type:=((Unit)×(Unit)×(Unit)×(UInt64)×(Int)×Unit)×(((UInt64)×(UInt64)×(UInt64)×(UInt64)×(Int)×(UInt64)×(UInt64)×(UInt64)×(UInt64)×(UInt64)×(UInt64)×Unit)×(List (UInt64))×(List (UInt64))×Unit)
def Cp:Shape:=⟨53,[(4,.ptr 0 0 0),(5,.val false .u64)],[(0,.row .u64)],0,true⟩
abbrev pD:Type:=((Unit)×(UInt64)×Unit)×((List (UInt64))×Unit)
def ave:SE->Option Shape:=fc [(0,Cp)] none
def aGI (a5:UInt64) (a6:Int) (c0_0:UInt64) (c0_1:UInt64) (c0_2:UInt64) (c0_3:UInt64) (c0_4:Int) (c0_5:UInt64) (c0_6:UInt64) (c0_7:UInt64) (c0_8:UInt64) (c0_9:UInt64) (c0_10:UInt64) (c1:List (UInt64)) (c2:List (UInt64)):OT (Sum dR aE):=
 let z0:UInt64:=List.getD c1 (Int.toNat a6+0) (0:UInt64)
 (.br (decide ((0:Int)<=a6))
 (gd [inB a6 4,decide (Int.toNat a6+0<List.length c1),xm ((a5,z0,c0_5,()),()),inR (a6-(1:Int))] (.ok (.inl (((),((),((),(aaq a5 z0 c0_5,(a6-(1:Int),()))))),((c0_0,(c0_1,(c0_2,(c0_3,(c0_4,(c0_5,(c0_6,(c0_7,(c0_8,(c0_9,(c0_10,()))))))))))),(c1,(c2,())))))))
 (.ok (.inr ⟨(.exit 0,Cp),(((),(a5,())),(c2,()))⟩)))
def Me (s:dR):OT (Sum dR aE):=aGI (s.1.2.2.2.1) (s.1.2.2.2.2.1) (s.2.1.1) (s.2.1.2.1) (s.2.1.2.2.1) (s.2.1.2.2.2.1) (s.2.1.2.2.2.2.1) (s.2.1.2.2.2.2.2.1) (s.2.1.2.2.2.2.2.2.1) (s.2.1.2.2.2.2.2.2.2.1) (s.2.1.2.2.2.2.2.2.2.2.1) (s.2.1.2.2.2.2.2.2.2.2.2.1) (s.2.1.2.2.2.2.2.2.2.2.2.2.1) (s.2.2.1) (s.2.2.2.1)
theorem aGD (s:dR) (Q:Sum dR aE->Prop):wps te Oo av 1000 (aU (aj Tryz.f91) 0) (Mb.inj s) (bU Mb ave (Q:Sum Mb.T aE->Prop))=(Me s).wpR Q:=by kernel_rfl
def Vh (g0_0:dR->pD) (s:dR):OT aE:=(.ok ⟨(.exit 0,Cp),g0_0 s⟩)
def Ma:Shape:=⟨53,[(2,.ptr 0 0 0),(3,.ptr 1 0 0),(4,.ptr 2 0 0)],[(0,.cells [.val false .u64,.val false .u64,.val false .u64,.val false .u64,.val false .int,.val false .u64,.val false .u64,.val false .u64,.val false .u64,.val false .u64,.val false .u64]),(1,.row .u64),(2,.row .u64)],0,true⟩
abbrev dQ:Type:=((Unit)×(Unit)×(Unit)×Unit)×(((UInt64)×(UInt64)×(UInt64)×(UInt64)×(Int)×(UInt64)×(UInt64)×(UInt64)×(UInt64)×(UInt64)×(UInt64)×Unit)×(List (UInt64))×(List (UInt64))×Unit)
def uc:Shape:=⟨53,[(4,.ptr 0 0 0)],[(0,.row .u64)],0,true⟩
abbrev pC:Type:=((Unit)×Unit)×((List (UInt64))×Unit)
def avd:SE->Option Shape:=fc [] (some uc)
def aGH (c0_0:UInt64) (c0_1:UInt64) (c0_2:UInt64) (c0_3:UInt64) (c0_4:Int) (c0_5:UInt64) (c0_6:UInt64) (c0_7:UInt64) (c0_8:UInt64) (c0_9:UInt64) (c0_10:UInt64) (c1:List (UInt64)) (c2:List (UInt64)):OT (Sum dQ aE):=
 let z0:Nat:=List.length c1
 let z1:Bool:=decide (4<=z0)
 let z2:aa×Bool:=eE {w0:=List.getD c1 0 0,w1:=List.getD c1 1 0,w2:=List.getD c1 2 0,w3:=List.getD c1 3 0} {w0:=c0_0,w1:=c0_1,w2:=c0_2,w3:=c0_3}
 let z3:=z2.fst
 (gd [z1] (.br (z2.snd)
 (gd [z1,decide ((4/1:Nat)+0<=List.length c2)] (.ok (.inr ⟨(.ret,uc),(((),()),(lay c2 c1 4 (0:UInt64),()))⟩)))
 (gd [decide ((4/1:Nat)+0<=z0)] (.ok (.inl (((),((),((),()))),((c0_0,(c0_1,(c0_2,(c0_3,(c0_4,(c0_5,(c0_6,(c0_7,(c0_8,(c0_9,(c0_10,()))))))))))),(List.set (List.set (List.set (List.set c1 0 z3.w0) 1 z3.w1) 2 z3.w2) 3 z3.w3,(c2,())))))))))
def Md (s:dQ):OT (Sum dQ aE):=aGH (s.2.1.1) (s.2.1.2.1) (s.2.1.2.2.1) (s.2.1.2.2.2.1) (s.2.1.2.2.2.2.1) (s.2.1.2.2.2.2.2.1) (s.2.1.2.2.2.2.2.2.1) (s.2.1.2.2.2.2.2.2.2.1) (s.2.1.2.2.2.2.2.2.2.2.1) (s.2.1.2.2.2.2.2.2.2.2.2.1) (s.2.1.2.2.2.2.2.2.2.2.2.2.1) (s.2.2.1) (s.2.2.2.1)
theorem aGC (s:dQ) (Q:Sum dQ aE->Prop):wps te Oo av 1000 (aU (aj Tryz.f91) 2) (Ma.inj s) (bU Ma avd (Q:Sum Ma.T aE->Prop))=(Md s).wpR Q:=by kernel_rfl
def Vg (g2_r:dQ->pC) (s:dQ):OT aE:=(.ok ⟨(.ret,uc),g2_r s⟩)
def ru:az:=⟨[.val true .elem],[],false⟩
def aks:SV->Option az:=λ_=>some ru
def Mf (ok0:dR->Bool) (g0_0:dR->pD) (ok2:dQ->Bool) (g2_r:dQ->pC) (a0:(aa×(Int×(UInt64×(UInt64×aa))))) (a1:aa):OT pE.Y:=
 let z0:Bool:= !a0.snd.snd.fst==(0:UInt64)
 let z1:(UInt64×UInt64×UInt64×UInt64×Int×UInt64×UInt64×UInt64×UInt64×UInt64×UInt64×PUnit)×List UInt64×List UInt64×PUnit:=((a0.fst.w0,a0.fst.w1,a0.fst.w2,a0.fst.w3,a0.snd.fst,a0.snd.snd.fst,a0.snd.snd.snd.fst,a0.snd.snd.snd.snd.w0,a0.snd.snd.snd.snd.w1,a0.snd.snd.snd.snd.w2,a0.snd.snd.snd.snd.w3,()),[a1.w0,a1.w1,a1.w2,a1.w3],[(0:UInt64),(0:UInt64),(0:UInt64),(0:UInt64)],())
 let z2:(PUnit×PUnit×PUnit×UInt64×Int×PUnit)×(UInt64×UInt64×UInt64×UInt64×Int×UInt64×UInt64×UInt64×UInt64×UInt64×UInt64×PUnit)×List UInt64×List UInt64×PUnit:=(((),(),(),(0:UInt64),(3:Int),()),z1)
 let z3:(PUnit×UInt64×PUnit)×List UInt64×PUnit:=g0_0 z2
 let z4:=z3.snd.fst
 let z5:List UInt64:=List.set (List.set (List.set (List.set z4 0 z3.fst.snd.fst) 1 (0:UInt64)) 2 (0:UInt64)) 3 (0:UInt64)
 let z6:(PUnit×PUnit×PUnit×PUnit)×(UInt64×UInt64×UInt64×UInt64×Int×UInt64×UInt64×UInt64×UInt64×UInt64×UInt64×PUnit)×List UInt64×List UInt64×PUnit:=(((),(),(),()),z1)
 let z7:=(g2_r z6).snd.fst
 (.br (z0)
 (.br (a1.w1|||a1.w2|||a1.w3==(0:UInt64))
  (gd [z0] (.ok ⟨ru,(({w0:=a1.w0%a0.snd.snd.fst,w1:=0,w2:=0,w3:=0},()),())⟩))
  (gd [ok0 z2,decide ((4/1:Nat)+0<=List.length z4),decide (4<=List.length z5)] (.ok ⟨ru,(({w0:=List.getD z5 0 0,w1:=List.getD z5 1 0,w2:=List.getD z5 2 0,w3:=List.getD z5 3 0},()),())⟩)))
 (gd [ok2 z6,decide (4<=List.length z7)] (.ok ⟨ru,(({w0:=List.getD z7 0 0,w1:=List.getD z7 1 0,w2:=List.getD z7 2 0,w3:=List.getD z7 3 0},()),())⟩)))
theorem aJg (ok0:dR->Bool) (g0_0:dR->pD) (ok2:dQ->Bool) (g2_r:dQ->pC) (x:aoi) (Q:pE.Y->Prop):wpf te Oo (aO 2 (cf Ma 2 ok2 (Vg g2_r)) (aO 0 (cf Mb 0 ok0 (Vh g0_0)) av)) 1000 Tryz.f91 (pE.inp.inj x).tm (pE.inp.inj x).hp (fnK pE aks Q) (λ_ _=>False)=(Mf ok0 g0_0 ok2 g2_r (x.1.1) (x.1.2.1)).wpR Q:=by kernel_rfl
theorem avf (ok0:dR->Bool) (g0_0:dR->pD) (ok2:dQ->Bool) (g2_r:dQ->pC) (h0:∀ s:dR,ok0 s=true->∃ m e,al (Me) m s=some e/\(Vh g0_0 s).run=some e) (h2:∀ s:dQ,ok2 s=true->∃ m e,al (Md) m s=some e/\(Vg g2_r s).run=some e) (pre:aoi->Bool) (F:aoi->OT pE.Y) (hF:∀ (x:aoi) oy,pre x=true->(F x).run=some oy->(Mf ok0 g0_0 ok2 g2_r (x.1.1) (x.1.2.1)).run=some oy):ac Tryz.prog 91 (pE.aI pre F):=
 aD ar vo GJ (f:=91) (fn:=Tryz.f91) (c:=aj Tryz.f91) (by kernel_rfl) (by kernel_rfl) (by kernel_rfl) (S:=pE) (k:=0) (by kernel_rfl) (λR hR=>(aA (c:=(aj Tryz.f91)) (by kernel_rfl) (id:=2) (by kernel_rfl) (aP ar vo GJ (sh:=Ma) hR (xs:=avd) (aC (by kernel_rfl) (by kernel_rfl) hR) aM af (n:=1000) (T:=Md) (λs Q=>aGC s Q) (ok:=ok2) (f:=Vg g2_r) h2) (aA (c:=(aj Tryz.f91)) (by kernel_rfl) (id:=0) (by kernel_rfl) (aP ar vo GJ (sh:=Mb) hR (xs:=ave) (aC (by kernel_rfl) (by kernel_rfl) hR) aM af (n:=1000) (T:=Me) (λs Q=>aGD s Q) (ok:=ok0) (f:=Vh g0_0) h0) af))) (n:=1000) (sel:=aks) (λv o h=>by cases h;rfl) (pre:=pre) (F:=F) (T:=λx=>Mf ok0 g0_0 ok2 g2_r (x.1.1) (x.1.2.1)) (λx Q=>aJg ok0 g0_0 ok2 g2_r x Q) hF
def kw (n:PC):Bool:=decide (n=aY 0)||(decide (n=aY 1)||(decide (n=aY 2)||decide (n=aY 3)))
theorem zq {n:PC} (h:kw n=true):n=aY 0\/n=aY 1\/n=aY 2\/n=aY 3:=by
 simpa [kw] using h
theorem iY {s:Int} (h:ap s=true):kw (aY s.toNat)=true:=by
 rcases cy h with rfl|rfl|rfl|rfl<;>decide+kernel
def aIF (c:List UInt64) (m:UInt64):UInt64:=upto (λk r=>aaq r (c.getD (3-k) 0) m) 0 4
theorem lH {m:UInt64} (h:gf m=true):0<m.toNat:=by
 rcases ef h with rfl|rfl<;>decide
theorem ai4 {a:aa} {m:UInt64} (h:gf m=true):aIF (lst a) m=UInt64.ofNat (a.nat%m.toNat):=by
 have hm:=lH h
 rw [<-UInt64.toNat_inj,UInt64.toNat_ofNat',Nat.mod_eq_of_lt (b:=2^64) (Nat.lt_trans (Nat.mod_lt _ hm) m.toNat_lt)]
 show (aaq (aaq (aaq (aaq 0 a.w3 m) a.w2 m) a.w1 m) a.w0 m).toNat=_
 rw [rB hm,rB hm,rB hm,rB hm,UP _ a.w2.toNat,UP _ a.w1.toNat,UP _ a.w0.toNat,show (0:UInt64).toNat=0 from rfl]
 congr 1
 unfold Sx.aa.nat
 omega
def Co (s:dR):Bool:=decide (s.1.2.2.2.1=0/\s.1.2.2.2.2.1=3/\s.2.2.1.length=4)&&gf s.2.1.2.2.2.2.2.1
def Vf (s:dR):pD:=(((),aIF s.2.2.1 s.2.1.2.2.2.2.2.1,()),(s.2.2.2.1,()))
theorem aGG:∀ s:dR,Co s=true->∃ m e,al Me m s=some e/\(Vh Vf s).run=some e:=by
 rintro ⟨⟨⟨⟩,⟨⟩,⟨⟩,r,i,⟨⟩⟩,⟨⟨x0,x1,x2,x3,x4,sm,x6,x7,x8,x9,x10,⟨⟩⟩,c1,c2,⟨⟩⟩⟩ h
 simp only [Co,Bool.and_eq_true,decide_eq_true_eq] at h
 obtain ⟨⟨rfl,rfl,hl⟩,hs⟩:=h
 have hm:=lH hs
 have:=(aR (T:=Me) (λk r=>((((),(),(),r,3-(k:Int),()),((x0,x1,x2,x3,x4,sm,x6,x7,x8,x9,x10,()),c1,c2,())):dR)) (λk r=>aaq r (c1.getD (3-k) 0) sm)
  (λr=>(⟨(.exit 0,Cp),(((),r,()),(c2,()))⟩:aE)) 4 0 (λ_ r=>r.toNat<sm.toNat) hm (λk r hk hr=>⟨?_,?_⟩) (λr hr=> ?_)).1
 ·obtain ⟨m,hm⟩:=this
  exact ⟨m,_,hm,rfl⟩
 ·have e1:(3-(k:Int)).toNat=3-k:=by omega
  have e2:(3:Int)-(k:Int)-1=3-((k+1:Nat):Int):=by omega
  refine (OT.ao (decide_eq_true (by dsimp only;omega))).trans ((ah ?_).trans ?_)
  ·simp only [e1,Nat.add_zero,hl,List.all_cons,List.all_nil,Bool.and_true,Bool.and_eq_true]
   refine ⟨aN (by omega),decide_eq_true (by omega),?_,aH (by omega)⟩
   simp only [xm,Bool.and_eq_true]
   exact ⟨hs,decide_eq_true (UInt64.lt_iff_toNat_lt.2 hr)⟩
  ·simp only [OT.cT,e1,e2,Nat.add_zero]
 ·rw [rB hm]
  exact Nat.mod_lt _ hm
 ·exact OT.aq (decide_eq_false (by dsimp only;omega))
def aKy (s:dQ):aa:=⟨s.2.1.1,s.2.1.2.1,s.2.1.2.2.1,s.2.1.2.2.2.1⟩
def I5 (s:dQ):Bool:=decide (s.2.2.1.length=4/\s.2.2.2.1.length=4/\0<(aKy s).nat)
def Ve (s:dQ):pC:=(((),()),(lst (ofN ((elemOf s.2.2.1).nat%(aKy s).nat)),()))
theorem aog {x0 x1 x2 x3 x5 x6 x7 x8 x9 x10:UInt64} {x4:Int} {c2:List UInt64} (hc:c2.length=4) (hm:0<(aa.mk x0 x1 x2 x3).nat):∀ (n:Nat) (a:aa),a.nat=n->
 ∃ m,al Md m (((),(),(),()),((x0,x1,x2,x3,x4,x5,x6,x7,x8,x9,x10,()),lst a,c2,()))=some ⟨(.ret,uc),(((),()),(lst (ofN (a.nat%(aa.mk x0 x1 x2 x3).nat)),()))⟩:=by
 intro n
 induction n using Nat.strongRecOn with
 |_ n ih=>
  intro a hn
  cases hb:Nat.blt a.nat (aa.mk x0 x1 x2 x3).nat
  ·have hle:(aa.mk x0 x1 x2 x3).nat<=a.nat:=by
    rcases Nat.lt_or_ge a.nat (aa.mk x0 x1 x2 x3).nat with h|h
    ·have:Nat.blt a.nat (aa.mk x0 x1 x2 x3).nat=true:=Nat.ble_eq_true_of_le h
     rw [this] at hb;cases hb
    ·exact h
   have hd:=m6 hle
   obtain ⟨m,hm2⟩:=ih (a.nat-(aa.mk x0 x1 x2 x3).nat) (by omega) (eE a ⟨x0,x1,x2,x3⟩).1 hd
   rw [hd,<-Nat.mod_eq_sub_mod hle] at hm2
   refine ⟨m+1,aF ?_ hm2⟩
   refine (ah ?_).trans ((OT.aq hb).trans ((ah ?_).trans rfl))
   ·rfl
   ·rfl
  ·have hlt:=dW hb
   rw [Nat.mod_eq_of_lt hlt,wB]
   refine ⟨1,aK ?_⟩
   refine (ah ?_).trans ((OT.ao hb).trans ((ah ?_).trans ?_))
   ·rfl
   ·simp only [hc,List.all_cons,List.all_nil,Bool.and_true,Bool.and_eq_true]
    exact ⟨rfl,rfl⟩
   ·show some (Sum.inr (⟨(.ret,uc),(((),()),(lay c2 (lst a) 4 0,()))⟩:aE))=_
    rw [yj hc (cN a)]
theorem aGF:∀ s:dQ,I5 s=true->∃ m e,al Md m s=some e/\(Vg Ve s).run=some e:=by
 rintro ⟨⟨⟨⟩,⟨⟩,⟨⟩,⟨⟩⟩,⟨⟨x0,x1,x2,x3,x4,x5,x6,x7,x8,x9,x10,⟨⟩⟩,c1,c2,⟨⟩⟩⟩ h
 have h':=of_decide_eq_true h
 dsimp only [aKy] at h'
 obtain ⟨h1,h2,h3⟩:=h'
 obtain ⟨m,hm⟩:=aog (x4:=x4) (x5:=x5) (x6:=x6) (x7:=x7) (x8:=x8) (x9:=x9) (x10:=x10) h2 h3 _ (elemOf c1) rfl
 rw [aS h1] at hm
 exact ⟨m,_,hm,rfl⟩
def gG (x:aoi):Bool:=kw x.1.1
def aC6 (x:aoi):OT pE.Y:=.ok ⟨ru,((ofN (x.1.2.1.nat%x.1.1.1.nat),()),())⟩
theorem tG {n:Nat} (h:n<18446744073709551616):ofN n=⟨UInt64.ofNat n,0,0,0⟩:=by
 refine aui (k:=0) ?_
 rw [UInt64.toNat_ofNat',Nat.mod_eq_of_lt (by omega)]
 simp
theorem Mc {n:PC} {a:aa} {m:UInt64} (h1:n.1=⟨m,0,0,0⟩) (h2:n.2.2.1=m) (hs:gf m=true):(Mf Co Vf I5 Ve n a).run=some ⟨ru,((ofN (a.nat%n.1.nat),()),())⟩:=by
 have hm:=lH hs
 have hn:n.1.nat=m.toNat:=by rw [h1];show m.toNat+_*(0+_*(0+_*0))=_;omega
 have hz:(!(n.2.2.1==0))=true:=by
  rw [h2]
  rcases ef hs with rfl|rfl<;>rfl
 have hlt:a.nat%m.toNat<18446744073709551616:=Nat.lt_trans (Nat.mod_lt _ hm) m.toNat_lt
 rw [hn,tG hlt]
 unfold Mf
 refine (OT.ao hz).trans ?_
 cases hb:(a.w1|||a.w2|||a.w3==0)
 ·refine (OT.aq rfl).trans ((ah ?_).trans ?_)
  ·simp only [List.all_cons,List.all_nil,Bool.and_true,Bool.and_eq_true]
   refine ⟨?_,rfl,rfl⟩
   show (decide _&&gf n.2.2.1)=true
   rw [h2,hs,Bool.and_true]
   exact decide_eq_true ⟨rfl,rfl,rfl⟩
  ·show some (⟨ru,((⟨aIF (lst a) n.2.2.1,0,0,0⟩,()),())⟩:pE.Y)=_
   rw [h2,ai4 hs]
 ·refine (OT.ao rfl).trans ((ah ?_).trans ?_)
  ·simp only [hz,List.all_cons,List.all_nil,Bool.and_true]
  ·have hw:a.w1=0/\a.w2=0/\a.w3=0:=by
    have:a.w1|||a.w2|||a.w3=0:=by simpa using hb
    simpa [UInt64.or_eq_zero_iff,and_assoc] using this
   have ha:a.nat=a.w0.toNat:=by
    unfold Sx.aa.nat
    rw [hw.1,hw.2.1,hw.2.2]
    show _+_*(0+_*(0+_*0))=_
    omega
   show some (⟨ru,((⟨a.w0%n.2.2.1,0,0,0⟩,()),())⟩:pE.Y)=_
   have e:a.w0%n.2.2.1=UInt64.ofNat (a.nat%m.toNat):=by
    rw [h2,ha,<-UInt64.toNat_inj,UInt64.toNat_mod,UInt64.toNat_ofNat']
    exact (Nat.mod_eq_of_lt (by rw [<-ha];omega)).symm
   rw [e]
theorem Rz {n:PC} {a:aa} (h2:n.2.2.1=0) (hs:0<n.1.nat):(Mf Co Vf I5 Ve n a).run=some ⟨ru,((ofN (a.nat%n.1.nat),()),())⟩:=by
 unfold Mf
 refine (OT.aq (by rw [h2];rfl)).trans ((ah ?_).trans ?_)
 ·simp only [List.all_cons,List.all_nil,Bool.and_true,Bool.and_eq_true]
  exact ⟨decide_eq_true ⟨rfl,rfl,hs⟩,rfl⟩
 ·rfl
theorem aKW:0<(aY 2).1.nat:=by decide+kernel
theorem aKV:0<(aY 3).1.nat:=by decide+kernel
theorem aGE:ac Tryz.prog 91 (pE.aI gG aC6):=avf Co Vf I5 Ve aGG aGF _ _ λx oy hp ho=>by
 rw [<-ho]
 clear ho
 obtain ⟨⟨n,a,⟨⟩⟩,⟨⟩⟩:=x
 have hp':kw n=true:=hp
 rcases zq hp' with rfl|rfl|rfl|rfl
 ·exact Mc (m:=16513537) rfl rfl rfl
 ·exact Mc (m:=16521217) rfl rfl rfl
 ·exact Rz rfl aKW
 ·exact Rz rfl aKV
def L9:cj:=(pE.aI gG aC6)
theorem aoh:ac Tryz.prog 91 L9:=aGE
theorem aof:aG L9:=aB
def abI:Env:=ay 91 L9 Oo
theorem Of:aQ Tryz.prog abI:=ag aoh vo
theorem Og:ax abI:=ae aof On
theorem apT:aW Tryz.prog te abI:=aL follows ar Of Og
def mD:aw:=⟨[.val true (.prod .elem (.prod .int (.prod .u64 (.prod .u64 .elem)))),.val true .elem,.val true .elem],[],true,0,false⟩
abbrev RK:Type:=(((aa×(Int×(UInt64×(UInt64×aa)))))×(aa)×(aa)×Unit)×(Unit)
def Vw:az:=⟨[.val true .elem],[],false⟩
def aaj:SV->Option az:=λ_=>some Vw
def afc (a0:(aa×(Int×(UInt64×(UInt64×aa))))) (a1:aa) (a2:aa):OT mD.Y:=
 let z0:Nat:=aa.nat a0.fst
 let z1:aa:=(qq (ofN (aa.nat a1%z0)) (ofN (aa.nat a2%z0))).fst
 (gd [gG ((a0,a1,()),()),gG ((a0,a2,()),()),gG ((a0,z1,()),())] (.ok ⟨Vw,((ofN (aa.nat z1%z0),()),())⟩))
theorem aG1 (x:RK) (Q:mD.Y->Prop):wpf te abI av 1000 Tryz.f78 (mD.inp.inj x).tm (mD.inp.inj x).hp (fnK mD aaj Q) (λ_ _=>False)=(afc (x.1.1) (x.1.2.1) (x.1.2.2.1)).wpR Q:=by kernel_rfl
theorem aoQ (pre:RK->Bool) (F:RK->OT mD.Y) (hF:∀ (x:RK) oy,pre x=true->(F x).run=some oy->(afc (x.1.1) (x.1.2.1) (x.1.2.2.1)).run=some oy):ac Tryz.prog 78 (mD.aI pre F):=
 aD ar Of apT (f:=78) (fn:=Tryz.f78) (c:=aj Tryz.f78) (by kernel_rfl) (by kernel_rfl) (by kernel_rfl) (S:=mD) (k:=0) (by kernel_rfl) (λR hR=>af) (n:=1000) (sel:=aaj) (λv o h=>by cases h;rfl) (pre:=pre) (F:=F) (T:=λx=>afc (x.1.1) (x.1.2.1) (x.1.2.2.1)) (λx Q=>aG1 x Q) hF
theorem BT {n:PC} (h:kw n=true):0<n.1.nat/\n.1.nat<57896044618658097711785492504343953926634992332820282019728792003956564819968:=by
 rcases zq h with rfl|rfl|rfl|rfl
 ·exact ⟨by decide+kernel,by decide+kernel⟩
 ·exact ⟨by decide+kernel,by decide+kernel⟩
 ·exact ⟨by decide+kernel,by decide+kernel⟩
 ·exact ⟨by decide+kernel,by decide+kernel⟩
def pS (s:Int):Nat:=(aY s.toNat).1.nat
theorem tF {s:Int} (h:ap s=true):0<pS s/\pS s<57896044618658097711785492504343953926634992332820282019728792003956564819968:=BT (iY h)
def Gg (p:Nat) (a b:aa):aa:=ofN ((a.nat+b.nat)%p)
def IR (p:Nat) (a:aa):aa:=ofN ((p-a.nat%p)%p)
def bP (p:Nat) (a b:aa):aa:=ofN (a.nat*b.nat%p)
theorem dy {p n:Nat} (h:0<p/\p<57896044618658097711785492504343953926634992332820282019728792003956564819968):(ofN (n%p)).nat=n%p:=by
 have:=Nat.mod_lt n h.1
 exact kx (by omega)
theorem axi {p:Nat} (h:0<p/\p<57896044618658097711785492504343953926634992332820282019728792003956564819968) (a b:aa):ofN ((qq (ofN (a.nat%p)) (ofN (b.nat%p))).1.nat%p)=Gg p a b:=by
 have ha:=Nat.mod_lt a.nat h.1
 have hb:=Nat.mod_lt b.nat h.1
 have e:(qq (ofN (a.nat%p)) (ofN (b.nat%p))).1.nat=a.nat%p+b.nat%p:=by
  show (ofN _).nat=_
  rw [dy h,dy h]
  exact kx (by omega)
 unfold Gg
 rw [e,<-Nat.add_mod]
def MH (x:RK):Bool:=kw x.1.1
def afd (x:RK):OT mD.Y:=.ok ⟨Vw,((Gg x.1.1.1.nat x.1.2.1 x.1.2.2.1,()),())⟩
theorem aBB:ac Tryz.prog 78 (mD.aI MH afd):=aoQ _ _ λx oy hp ho=>by
 rw [<-ho]
 clear ho
 obtain ⟨⟨n,a,b,⟨⟩⟩,⟨⟩⟩:=x
 have hp':kw n=true:=hp
 refine (ah ?_).trans ?_
 ·simp only [List.all_cons,List.all_nil,Bool.and_true,Bool.and_eq_true]
  exact ⟨hp',hp',hp'⟩
 ·simp only [afd,axi (BT hp')]
def FN:cj:=(mD.aI MH afd)
theorem afb:ac Tryz.prog 78 FN:=aBB
theorem afa:aG FN:=aB
def OA:Env:=ay 78 FN abI
theorem GL:aQ Tryz.prog OA:=ag afb Of
theorem H6:ax OA:=ae afa Og
theorem agu:aW Tryz.prog te OA:=aL follows ar GL H6
def mA:aw:=⟨[.val true (.prod .elem (.prod .int (.prod .u64 (.prod .u64 .elem)))),.val true .elem],[],true,0,false⟩
abbrev RC:Type:=(((aa×(Int×(UInt64×(UInt64×aa)))))×(aa)×Unit)×(Unit)
def Vl:az:=⟨[.val true .elem],[],false⟩
def Z0:SV->Option az:=λ_=>some Vl
def aeX (a0:(aa×(Int×(UInt64×(UInt64×aa))))) (a1:aa):OT mA.Y:=
 let z0:Nat:=aa.nat a0.fst
 let z1:aa:=(eE a0.fst (ofN (aa.nat a1%z0))).fst
 (gd [gG ((a0,a1,()),()),gG ((a0,z1,()),())] (.ok ⟨Vl,((ofN (aa.nat z1%z0),()),())⟩))
theorem aGM (x:RC) (Q:mA.Y->Prop):wpf te OA av 1000 Tryz.f139 (mA.inp.inj x).tm (mA.inp.inj x).hp (fnK mA Z0 Q) (λ_ _=>False)=(aeX (x.1.1) (x.1.2.1)).wpR Q:=by kernel_rfl
theorem aoq (pre:RC->Bool) (F:RC->OT mA.Y) (hF:∀ (x:RC) oy,pre x=true->(F x).run=some oy->(aeX (x.1.1) (x.1.2.1)).run=some oy):ac Tryz.prog 139 (mA.aI pre F):=
 aD ar GL agu (f:=139) (fn:=Tryz.f139) (c:=aj Tryz.f139) (by kernel_rfl) (by kernel_rfl) (by kernel_rfl) (S:=mA) (k:=0) (by kernel_rfl) (λR hR=>af) (n:=1000) (sel:=Z0) (λv o h=>by cases h;rfl) (pre:=pre) (F:=F) (T:=λx=>aeX (x.1.1) (x.1.2.1)) (λx Q=>aGM x Q) hF
theorem aGb {m:aa} (h:0<m.nat/\m.nat<57896044618658097711785492504343953926634992332820282019728792003956564819968) (a:aa):ofN ((eE m (ofN (a.nat%m.nat))).1.nat%m.nat)=IR m.nat a:=by
 have ha:=Nat.mod_lt a.nat h.1
 have e:=dy (n:=a.nat) h
 have e2:(eE m (ofN (a.nat%m.nat))).1.nat=m.nat-a.nat%m.nat:=by
  rw [m6 (by rw [e];omega),e]
 unfold IR
 rw [e2]
def Cs (x:RC):Bool:=kw x.1.1
def aeY (x:RC):OT mA.Y:=.ok ⟨Vl,((IR x.1.1.1.nat x.1.2.1,()),())⟩
theorem aBu:ac Tryz.prog 139 (mA.aI Cs aeY):=aoq _ _ λx oy hp ho=>by
 rw [<-ho]
 clear ho
 obtain ⟨⟨n,a,⟨⟩⟩,⟨⟩⟩:=x
 have hp':kw n=true:=hp
 refine (ah ?_).trans ?_
 ·simp only [List.all_cons,List.all_nil,Bool.and_true,Bool.and_eq_true]
  exact ⟨hp',hp'⟩
 ·simp only [aeY,aGb (BT hp')]
def FI:cj:=(mA.aI Cs aeY)
theorem aeW:ac Tryz.prog 139 FI:=aBu
theorem aeV:aG FI:=aB
def Oj:Env:=ay 139 FI OA
theorem GH:aQ Tryz.prog Oj:=ag aeW GL
theorem H2:ax Oj:=ae aeV H6
theorem ags:aW Tryz.prog te Oj:=aL follows ar GH H2
def uu:aw:=⟨[.val false .int,.val true .elem,.val true .elem],[],true,0,false⟩
abbrev aoP:Type:=((Int)×(aa)×(aa)×Unit)×(Unit)
def MG:az:=⟨[.val true .elem],[],false⟩
def akL:SV->Option az:=λ_=>some MG
def avI (a0:Int) (a1:aa) (a2:aa):OT uu.Y:=
 let z0:aa×Int×UInt64×UInt64×aa:=aY (Int.toNat a0)
 (.br (ap a0)
 (gd [MH ((z0,a1,a2,()),())] (.ok ⟨MG,((Gg (aa.nat z0.fst) a1 a2,()),())⟩))
 (.ok ⟨MG,(({w0:=0,w1:=0,w2:=0,w3:=0},()),())⟩))
theorem aJp (x:aoP) (Q:uu.Y->Prop):wpf te Oj av 1000 Tryz.f43 (uu.inp.inj x).tm (uu.inp.inj x).hp (fnK uu akL Q) (λ_ _=>False)=(avI (x.1.1) (x.1.2.1) (x.1.2.2.1)).wpR Q:=by kernel_rfl
theorem avH (pre:aoP->Bool) (F:aoP->OT uu.Y) (hF:∀ (x:aoP) oy,pre x=true->(F x).run=some oy->(avI (x.1.1) (x.1.2.1) (x.1.2.2.1)).run=some oy):ac Tryz.prog 43 (uu.aI pre F):=
 aD ar GH ags (f:=43) (fn:=Tryz.f43) (c:=aj Tryz.f43) (by kernel_rfl) (by kernel_rfl) (by kernel_rfl) (S:=uu) (k:=0) (by kernel_rfl) (λR hR=>af) (n:=1000) (sel:=akL) (λv o h=>by cases h;rfl) (pre:=pre) (F:=F) (T:=λx=>avI (x.1.1) (x.1.2.1) (x.1.2.2.1)) (λx Q=>aJp x Q) hF
def akM (_:aoP):Bool:=true
def aDd (x:aoP):OT uu.Y:=.br (ap x.1.1) (.ok ⟨MG,((Gg (pS x.1.1) x.1.2.1 x.1.2.2.1,()),())⟩) (.ok ⟨MG,((⟨0,0,0,0⟩,()),())⟩)
theorem aG0:ac Tryz.prog 43 (uu.aI akM aDd):=avH _ _ λx oy hp ho=>by
 rw [<-ho]
 clear ho
 obtain ⟨⟨s,a,b,⟨⟩⟩,⟨⟩⟩:=x
 cases hs:ap s
 ·exact (OT.aq hs).trans (OT.aq (b:=ap s) hs).symm
 ·refine (OT.ao hs).trans ((ah ?_).trans (OT.ao (b:=ap s) hs).symm)
  simp only [List.all_cons,List.all_nil,Bool.and_true]
  exact iY hs
def MF:cj:=(uu.aI akM aDd)
theorem aoO:ac Tryz.prog 43 MF:=aG0
theorem aoN:aG MF:=aB
def abO:Env:=ay 43 MF Oj
theorem Oy:aQ Tryz.prog abO:=ag aoO GH
theorem Oz:ax abO:=ae aoN H2
theorem apY:aW Tryz.prog te abO:=aL follows ar Oy Oz
def uf:aw:=⟨[.val false .int,.val true .elem],[],true,0,false⟩
abbrev aop:Type:=((Int)×(aa)×Unit)×(Unit)
def Ml:az:=⟨[.val true .elem],[],false⟩
def akv:SV->Option az:=λ_=>some Ml
def avm (a0:Int) (a1:aa):OT uf.Y:=
 let z0:aa×Int×UInt64×UInt64×aa:=aY (Int.toNat a0)
 (.br (ap a0)
 (gd [Cs ((z0,a1,()),())] (.ok ⟨Ml,((IR (aa.nat z0.fst) a1,()),())⟩))
 (.ok ⟨Ml,(({w0:=0,w1:=0,w2:=0,w3:=0},()),())⟩))
theorem aJj (x:aop) (Q:uf.Y->Prop):wpf te abO av 1000 Tryz.f98 (uf.inp.inj x).tm (uf.inp.inj x).hp (fnK uf akv Q) (λ_ _=>False)=(avm (x.1.1) (x.1.2.1)).wpR Q:=by kernel_rfl
theorem avl (pre:aop->Bool) (F:aop->OT uf.Y) (hF:∀ (x:aop) oy,pre x=true->(F x).run=some oy->(avm (x.1.1) (x.1.2.1)).run=some oy):ac Tryz.prog 98 (uf.aI pre F):=
 aD ar Oy apY (f:=98) (fn:=Tryz.f98) (c:=aj Tryz.f98) (by kernel_rfl) (by kernel_rfl) (by kernel_rfl) (S:=uf) (k:=0) (by kernel_rfl) (λR hR=>af) (n:=1000) (sel:=akv) (λv o h=>by cases h;rfl) (pre:=pre) (F:=F) (T:=λx=>avm (x.1.1) (x.1.2.1)) (λx Q=>aJj x Q) hF
def akw (_:aop):Bool:=true
def aC7 (x:aop):OT uf.Y:=.br (ap x.1.1) (.ok ⟨Ml,((IR (pS x.1.1) x.1.2.1,()),())⟩) (.ok ⟨Ml,((⟨0,0,0,0⟩,()),())⟩)
theorem aGL:ac Tryz.prog 98 (uf.aI akw aC7):=avl _ _ λx oy hp ho=>by
 rw [<-ho]
 clear ho
 obtain ⟨⟨s,a,⟨⟩⟩,⟨⟩⟩:=x
 cases hs:ap s
 ·exact (OT.aq hs).trans (OT.aq (b:=ap s) hs).symm
 ·refine (OT.ao hs).trans ((ah ?_).trans (OT.ao (b:=ap s) hs).symm)
  simp only [List.all_cons,List.all_nil,Bool.and_true]
  exact iY hs
def Mk:cj:=(uf.aI akw aC7)
theorem aoo:ac Tryz.prog 98 Mk:=aGL
theorem aon:aG Mk:=aB
def abJ:Env:=ay 98 Mk abO
theorem Oh:aQ Tryz.prog abJ:=ag aoo Oy
theorem Oi:ax abJ:=ae aon Oz
theorem apU:aW Tryz.prog te abJ:=aL follows ar Oh Oi
def tV:aw:=⟨[.val false .int,.val true .elem,.val true .elem],[],true,0,false⟩
abbrev an9:Type:=((Int)×(aa)×(aa)×Unit)×(Unit)
def zG:az:=⟨[.val true .elem],[],false⟩
def akk:SV->Option az:=λ_=>some zG
def au8 (a0:Int) (a1:aa) (a2:aa):OT tV.Y:=
 let z0:Bool:=ap a0
 let z1:Nat:=pS a0
 let z2:aa:= {w0:=0,w1:=0,w2:=0,w3:=0}
 (.br (z0)
 (.br (z0)
  (.ok ⟨zG,((Gg z1 a1 (IR z1 a2),()),())⟩)
  (.ok ⟨zG,((z2,()),())⟩))
 (.br (z0)
  (.ok ⟨zG,((Gg z1 a1 z2,()),())⟩)
  (.ok ⟨zG,((z2,()),())⟩)))
theorem aJf (x:an9) (Q:tV.Y->Prop):wpf te abJ av 1000 Tryz.f152 (tV.inp.inj x).tm (tV.inp.inj x).hp (fnK tV akk Q) (λ_ _=>False)=(au8 (x.1.1) (x.1.2.1) (x.1.2.2.1)).wpR Q:=by kernel_rfl
theorem au7 (pre:an9->Bool) (F:an9->OT tV.Y) (hF:∀ (x:an9) oy,pre x=true->(F x).run=some oy->(au8 (x.1.1) (x.1.2.1) (x.1.2.2.1)).run=some oy):ac Tryz.prog 152 (tV.aI pre F):=
 aD ar Oh apU (f:=152) (fn:=Tryz.f152) (c:=aj Tryz.f152) (by kernel_rfl) (by kernel_rfl) (by kernel_rfl) (S:=tV) (k:=0) (by kernel_rfl) (λR hR=>af) (n:=1000) (sel:=akk) (λv o h=>by cases h;rfl) (pre:=pre) (F:=F) (T:=λx=>au8 (x.1.1) (x.1.2.1) (x.1.2.2.1)) (λx Q=>aJf x Q) hF
def JC (p:Nat) (a b:aa):aa:=Gg p a (IR p b)
def akl (_:an9):Bool:=true
def aC5 (x:an9):OT tV.Y:=.br (ap x.1.1) (.ok ⟨zG,((JC (pS x.1.1) x.1.2.1 x.1.2.2.1,()),())⟩) (.ok ⟨zG,((⟨0,0,0,0⟩,()),())⟩)
theorem aGz:ac Tryz.prog 152 (tV.aI akl aC5):=au7 _ _ λx oy hp ho=>by
 rw [<-ho]
 clear ho
 obtain ⟨⟨s,a,b,⟨⟩⟩,⟨⟩⟩:=x
 cases hs:ap s
 ·exact (OT.aq hs).trans ((OT.aq hs).trans (OT.aq (b:=ap s) hs).symm)
 ·exact (OT.ao hs).trans ((OT.ao hs).trans (OT.ao (b:=ap s) hs).symm)
def L6:cj:=(tV.aI akl aC5)
theorem an8:ac Tryz.prog 152 L6:=aGz
theorem an7:aG L6:=aB
def SH:Env:=ay 152 L6 abJ
theorem DH:aQ Tryz.prog SH:=ag an8 Oh
theorem Oc:ax SH:=ae an7 Oi
theorem SG:aW Tryz.prog te SH:=aL follows ar DH Oc
end Go.Proofs.YtohjofabochgfaaGreat

namespace Go.Proofs.YtohjofabochgfaaGreat
open Sx Go
def l6 (n:Nat):List UInt64:= [UInt64.ofNat n,UInt64.ofNat (n/18446744073709551616),UInt64.ofNat (n/18446744073709551616/18446744073709551616),UInt64.ofNat (n/18446744073709551616/18446744073709551616/18446744073709551616),
 UInt64.ofNat (n/18446744073709551616/18446744073709551616/18446744073709551616/18446744073709551616),UInt64.ofNat (n/18446744073709551616/18446744073709551616/18446744073709551616/18446744073709551616/18446744073709551616)]
def v6 (l:List UInt64):Nat:=(l.getD 0 0).toNat+18446744073709551616*((l.getD 1 0).toNat+18446744073709551616*((l.getD 2 0).toNat+18446744073709551616*((l.getD 3 0).toNat+18446744073709551616*((l.getD 4 0).toNat+18446744073709551616*(l.getD 5 0).toNat))))
theorem il {m:Nat} {x:UInt64} (hm:m%18446744073709551616=x.toNat):UInt64.ofNat m=x:=by
 rw [<-UInt64.toNat_inj,UInt64.toNat_ofNat']
 exact hm
theorem aKn {n:Nat} {a b c d e:UInt64} {k:Nat} {f:UInt64} (h:n=a.toNat+18446744073709551616*(b.toNat+18446744073709551616*(c.toNat+18446744073709551616*(d.toNat+18446744073709551616*(e.toNat+18446744073709551616*k))))) (hf:k%18446744073709551616=f.toNat):l6 n= [a,b,c,d,e,f]:=by
 obtain ⟨h1,h0⟩:=div_eq a.toNat_lt h
 obtain ⟨h2,h3⟩:=div_eq b.toNat_lt h1
 obtain ⟨h4,h5⟩:=div_eq c.toNat_lt h2
 obtain ⟨h6,h7⟩:=div_eq d.toNat_lt h4
 obtain ⟨h8,h9⟩:=div_eq e.toNat_lt h6
 unfold l6
 rw [il (x:=a) h0,il (x:=b) h3,il (x:=c) h5,il (x:=d) h7,il (x:=e) h9,il (x:=f) (by rw [h8];exact hf)]
theorem auO (n:Nat):(l6 n).length=6:=rfl
def aH4 (t a x c:UInt64):UInt64:=yb t (yb (a*x) c 0) 0
def D9 (t a x c:UInt64):UInt64:=axu a x+AB (a*x) c 0+AB t (yb (a*x) c 0) 0
theorem aHL {t P p h c l k1 r k2 W:Nat} (hP:P=p+W*h) (h1:p+c=l+W*k1) (h2:t+l=r+W*k2):t+P+c=r+W*(h+k1+k2):=by
 rw [Nat.mul_add,Nat.mul_add]
 omega
theorem axk {t P c r q W:Nat} (hW:0<W) (ht:t<=W-1) (hc:c<=W-1) (hP:P<=(W-1)*(W-1)) (h:t+P+c=r+W*q):q<W:=by
 obtain ⟨V,rfl⟩:∃ V,W=V+1:=⟨W-1,by omega⟩
 rw [Nat.add_sub_cancel] at*
 refine Nat.lt_of_not_le λhq=> ?_
 have h1:(V+1)*(V+1)<=(V+1)*q:=Nat.mul_le_mul_left _ hq
 have h2:(V+1)*(V+1)=V*V+V+V+1:=by rw [Nat.add_mul,Nat.mul_add,Nat.one_mul,Nat.mul_one];omega
 omega
theorem aAU (a x:UInt64):(axu a x).toNat=a.toNat*x.toNat/18446744073709551616:=by
 have ha:=a.toNat_lt
 have hx:=x.toNat_lt
 have:a.toNat*x.toNat/18446744073709551616<18446744073709551616:=by
  rw [Nat.div_lt_iff_lt_mul (by omega)]
  exact Nat.mul_lt_mul'' ha hx
 unfold axu
 rw [UInt64.toNat_ofNat',Nat.mod_eq_of_lt this]
theorem Jk (t a x c:UInt64):t.toNat+a.toNat*x.toNat+c.toNat=(aH4 t a x c).toNat+18446744073709551616*(D9 t a x c).toNat:=by
 have hP:a.toNat*x.toNat=(a*x).toNat+18446744073709551616*(axu a x).toNat:=by
  rw [aAU,UInt64.toNat_mul]
  exact (Nat.mod_add_div _ _).symm
 have h1:=mR (a*x) c 0
 have h2:=mR t (yb (a*x) c 0) 0
 rw [show (0:UInt64).toNat=0 from rfl,Nat.add_zero] at h1 h2
 have key:=aHL hP h1 h2
 have hb:=axk (W:=18446744073709551616) (by omega) (Nat.le_sub_one_of_lt t.toNat_lt) (Nat.le_sub_one_of_lt c.toNat_lt) (Nat.mul_le_mul (Nat.le_sub_one_of_lt a.toNat_lt) (Nat.le_sub_one_of_lt x.toNat_lt)) key
 have e:(D9 t a x c).toNat=(axu a x).toNat+(AB (a*x) c 0).toNat+(AB t (yb (a*x) c 0) 0).toNat:=by
  unfold D9
  rw [UInt64.toNat_add,UInt64.toNat_add,Nat.mod_add_mod]
  exact Nat.mod_eq_of_lt hb
 rw [e]
 exact key
theorem Jl {t a x c s k T A R W:Nat} (h1:t+a*x+c=s+W*k) (h2:T+A*x+k=R):(t+W*T)+(a+W*A)*x+c=s+W*R:=by
 rw [Nat.add_mul,Nat.mul_assoc,<-h2,Nat.mul_add,Nat.mul_add]
 omega
def aKS (t0 t1 t2 t3 t4 t5:UInt64) (a:aa) (x:UInt64):List UInt64:=
 let k0:=D9 t0 a.w0 x 0
 let k1:=D9 t1 a.w1 x k0
 let k2:=D9 t2 a.w2 x k1
 let k3:=D9 t3 a.w3 x k2
 [aH4 t0 a.w0 x 0,aH4 t1 a.w1 x k0,aH4 t2 a.w2 x k1,aH4 t3 a.w3 x k2,yb t4 k3 0,t5+AB t4 k3 0]
theorem aHM (t0 t1 t2 t3 t4 t5:UInt64) (a:aa) (x:UInt64):aKS t0 t1 t2 t3 t4 t5 a x=l6 (v6 [t0,t1,t2,t3,t4,t5]+a.nat*x.toNat):=by
 have h4:=mR t4 (D9 t3 a.w3 x (D9 t2 a.w2 x (D9 t1 a.w1 x (D9 t0 a.w0 x 0)))) 0
 rw [show (0:UInt64).toNat=0 from rfl,Nat.add_zero] at h4
 have h5:(t4.toNat+18446744073709551616*t5.toNat)+0*x.toNat+(D9 t3 a.w3 x (D9 t2 a.w2 x (D9 t1 a.w1 x (D9 t0 a.w0 x 0)))).toNat=
  (yb t4 (D9 t3 a.w3 x (D9 t2 a.w2 x (D9 t1 a.w1 x (D9 t0 a.w0 x 0)))) 0).toNat+18446744073709551616*(t5.toNat+(AB t4 (D9 t3 a.w3 x (D9 t2 a.w2 x (D9 t1 a.w1 x (D9 t0 a.w0 x 0)))) 0).toNat):=by
  rw [Nat.zero_mul,Nat.mul_add]
  omega
 have h:=Jl (Jk t0 a.w0 x 0) (Jl (Jk t1 a.w1 x _) (Jl (Jk t2 a.w2 x _) (Jl (Jk t3 a.w3 x _) h5)))
 rw [show (0:UInt64).toNat=0 from rfl,Nat.add_zero,Nat.mul_zero,Nat.add_zero] at h
 exact (aKn (f:=t5+AB t4 (D9 t3 a.w3 x (D9 t2 a.w2 x (D9 t1 a.w1 x (D9 t0 a.w0 x 0)))) 0) h (by rw [UInt64.toNat_add])).symm
end Go.Proofs.YtohjofabochgfaaGreat

namespace Go.Proofs.YtohjofabochgfaaGreat
open Sx Go
set_option maxRecDepth 100000
def uv:aw:=⟨[.val true (.arr 6 .u64),.val true .elem,.val false .u64],[],true,0,false⟩
abbrev aoT:Type:=((List (UInt64))×(aa)×(UInt64)×Unit)×(Unit)
def MJ:Shape:=⟨61,[(2,.val false .u64),(3,.ptr 0 0 0),(4,.ptr 1 0 0),(6,.ptr 2 0 0),(7,.val false .u64),(13,.val false .int)],[(0,.row .u64),(1,.row .u64),(2,.row .u64)],0,true⟩
abbrev dT:Type:=((UInt64)×(Unit)×(Unit)×(Unit)×(UInt64)×(Int)×Unit)×((List (UInt64))×(List (UInt64))×(List (UInt64))×Unit)
def Cv:Shape:=⟨61,[(3,.ptr 0 0 0),(6,.ptr 1 0 0),(7,.val false .u64)],[(0,.row .u64),(1,.row .u64)],0,true⟩
abbrev pN:Type:=((Unit)×(Unit)×(UInt64)×Unit)×((List (UInt64))×(List (UInt64))×Unit)
def avJ:SE->Option Shape:=fc [(0,Cv)] none
def aG5 (a2:UInt64) (a7:UInt64) (a13:Int) (c0:List (UInt64)) (c1:List (UInt64)) (c2:List (UInt64)):OT (Sum dT aE):=
 let z0:Bool:=inB a13 6
 let z1:Bool:=decide (Int.toNat a13+0<List.length c0)
 let z2:UInt64:=List.getD c1 (Int.toNat a13+0) (0:UInt64)
 let z3:UInt64:=List.getD c0 (Int.toNat a13+0) (0:UInt64)
 let z4:UInt64:=yb (z2*a2) a7 (0:UInt64)
 (.br (decide (a13<(4:Int)))
 (gd [inB a13 4,decide (Int.toNat a13+0<List.length c1),z0,z1,z0,z1,inR (a13+(1:Int))] (.ok (.inl ((a2,((),((),((),(axu z2 a2+AB (z2*a2) a7 (0:UInt64)+AB z3 z4 (0:UInt64),(a13+(1:Int),())))))),(List.set c0 (Int.toNat a13+0) (yb z3 z4 (0:UInt64)),(c1,(c2,())))))))
 (.ok (.inr ⟨(.exit 0,Cv),(((),((),(a7,()))),(c0,(c2,())))⟩)))
def MK (s:dT):OT (Sum dT aE):=aG5 (s.1.1) (s.1.2.2.2.2.1) (s.1.2.2.2.2.2.1) (s.2.1) (s.2.2.1) (s.2.2.2.1)
theorem aG2 (s:dT) (Q:Sum dT aE->Prop):wps te SH av 1000 (aU (aj Tryz.f150) 0) (MJ.inj s) (bU MJ avJ (Q:Sum MJ.T aE->Prop))=(MK s).wpR Q:=by kernel_rfl
def Vx (g0_0:dT->pN) (s:dT):OT aE:=(.ok ⟨(.exit 0,Cv),g0_0 s⟩)
def afe:az:=⟨[.val true (.arr 6 .u64)],[],false⟩
def akN:SV->Option az:=λ_=>some afe
def avM (ok0:dT->Bool) (g0_0:dT->pN) (a0:List (UInt64)) (a1:aa) (a2:UInt64):OT uv.Y:=
 let z0:(UInt64×PUnit×PUnit×PUnit×UInt64×Int×PUnit)×List UInt64×List UInt64×List UInt64×PUnit:=((a2,(),(),(),(0:UInt64),(0:Int),()),tab a0 6 (0:UInt64),[a1.w0,a1.w1,a1.w2,a1.w3],[(0:UInt64),(0:UInt64),(0:UInt64),(0:UInt64),(0:UInt64),(0:UInt64)],())
 let z1:(PUnit×PUnit×UInt64×PUnit)×List UInt64×List UInt64×PUnit:=g0_0 z0
 let z2:=z1.snd
 let z3:=z2.fst
 let z4:Bool:=decide (4<List.length z3)
 let z5:UInt64:=List.getD z3 4 0
 let z6:=z1.fst.snd.snd.fst
 let z7:List UInt64:=List.set z3 4 (yb z5 z6 (0:UInt64))
 let z8:Bool:=decide (5<List.length z7)
 let z9:List UInt64:=List.set z7 5 (List.getD z7 5 0+AB z5 z6 (0:UInt64))
 let z10:=z2.snd.fst
 let z11:List UInt64:=lay z10 z9 6 (0:UInt64)
 (gd [ok0 z0,z4,z4,z8,z8,decide (6<=List.length z9),decide ((6/1:Nat)+0<=List.length z10),decide (6<=List.length z11)] (.ok ⟨afe,((tab z11 6 (0:UInt64),()),())⟩))
theorem aJq (ok0:dT->Bool) (g0_0:dT->pN) (x:aoT) (Q:uv.Y->Prop):wpf te SH (aO 0 (cf MJ 0 ok0 (Vx g0_0)) av) 1000 Tryz.f150 (uv.inp.inj x).tm (uv.inp.inj x).hp (fnK uv akN Q) (λ_ _=>False)=(avM ok0 g0_0 (x.1.1) (x.1.2.1) (x.1.2.2.1)).wpR Q:=by kernel_rfl
theorem avK (ok0:dT->Bool) (g0_0:dT->pN) (h0:∀ s:dT,ok0 s=true->∃ m e,al (MK) m s=some e/\(Vx g0_0 s).run=some e) (pre:aoT->Bool) (F:aoT->OT uv.Y) (hF:∀ (x:aoT) oy,pre x=true->(F x).run=some oy->(avM ok0 g0_0 (x.1.1) (x.1.2.1) (x.1.2.2.1)).run=some oy):ac Tryz.prog 150 (uv.aI pre F):=
 aD ar DH SG (f:=150) (fn:=Tryz.f150) (c:=aj Tryz.f150) (by kernel_rfl) (by kernel_rfl) (by kernel_rfl) (S:=uv) (k:=0) (by kernel_rfl) (λR hR=>(aA (c:=(aj Tryz.f150)) (by kernel_rfl) (id:=0) (by kernel_rfl) (aP ar DH SG (sh:=MJ) hR (xs:=avJ) (aC (by kernel_rfl) (by kernel_rfl) hR) aM af (n:=1000) (T:=MK) (λs Q=>aG2 s Q) (ok:=ok0) (f:=Vx g0_0) h0) af)) (n:=1000) (sel:=akN) (λv o h=>by cases h;rfl) (pre:=pre) (F:=F) (T:=λx=>avM ok0 g0_0 (x.1.1) (x.1.2.1) (x.1.2.2.1)) (λx Q=>aJq ok0 g0_0 x Q) hF
def aCu (a:List UInt64) (x:UInt64) (k:Nat) (s:List UInt64×UInt64):List UInt64×UInt64:=(s.1.set k (aH4 (s.1.getD k 0) (a.getD k 0) x s.2),D9 (s.1.getD k 0) (a.getD k 0) x s.2)
def akP (s:dT):Bool:=decide (s.1.2.2.2.2.1=0/\s.1.2.2.2.2.2.1=0/\s.2.1.length=6/\s.2.2.1.length=4)
def avL (s:dT):pN:=(((),(),(upto (aCu s.2.2.1 s.1.1) (s.2.1,0) 4).2,()),((upto (aCu s.2.2.1 s.1.1) (s.2.1,0) 4).1,s.2.2.2.1,()))
theorem aG4:∀ s:dT,akP s=true->∃ m e,al MK m s=some e/\(Vx avL s).run=some e:=by
 rintro ⟨⟨x,⟨⟩,⟨⟩,⟨⟩,c,i,⟨⟩⟩,⟨t,a,o,⟨⟩⟩⟩ h
 have h':=of_decide_eq_true h
 dsimp only at h'
 obtain ⟨rfl,rfl,ht,ha⟩:=h'
 have:=(aR (T:=MK) (λk s=>(((x,(),(),(),s.2,(k:Int),()),(s.1,a,o,())):dT)) (aCu a x)
  (λs=>(⟨(.exit 0,Cv),(((),(),s.2,()),(s.1,o,()))⟩:aE)) 4 (t,0) (λ_ s=>s.1.length=6) ht (λk s hk hs=>⟨?_,?_⟩) (λs hs=> ?_)).1
 ·obtain ⟨m,hm⟩:=this
  exact ⟨m,_,hm,rfl⟩
 ·refine (OT.ao (decide_eq_true (by dsimp only;omega))).trans ((ah ?_).trans ?_)
  ·simp only [Int.toNat_natCast,Nat.add_zero,hs,ha,List.all_cons,List.all_nil,Bool.and_true,Bool.and_eq_true]
   exact ⟨aN (by omega),decide_eq_true (by omega),aN (by omega),decide_eq_true (by omega),aN (by omega),decide_eq_true (by omega),aH (by omega)⟩
  ·simp only [OT.cT,Int.toNat_natCast,Nat.add_zero]
   rfl
 ·simp only [aCu,List.length_set]
  exact hs
 ·exact OT.aq (decide_eq_false (by dsimp only;omega))
def akO (_:aoT):Bool:=true
def avN (x:aoT):OT uv.Y:=.ok ⟨afe,((l6 (v6 x.1.1+x.1.2.1.nat*x.1.2.2.1.toNat),()),())⟩
theorem aG3:ac Tryz.prog 150 (uv.aI akO avN):=avK akP avL aG4 _ _ λx oy hp ho=>by
 rw [<-ho]
 clear ho
 obtain ⟨⟨t,a,x,⟨⟩⟩,⟨⟩⟩:=x
 refine (ah ?_).trans ?_
 ·simp only [List.all_cons,List.all_nil,Bool.and_true,Bool.and_eq_true]
  exact ⟨rfl,rfl,rfl,rfl,rfl,rfl,rfl,rfl⟩
 ·have e:=aHM (t.getD 0 0) (t.getD 1 0) (t.getD 2 0) (t.getD 3 0) (t.getD 4 0) (t.getD 5 0) a x
  have e2:l6 (v6 t+a.nat*x.toNat)=aKS (t.getD 0 0) (t.getD 1 0) (t.getD 2 0) (t.getD 3 0) (t.getD 4 0) (t.getD 5 0) a x:=e.symm
  simp only [avN,e2]
  rfl
def MI:cj:=(uv.aI akO avN)
theorem aoS:ac Tryz.prog 150 MI:=aG3
theorem aoR:aG MI:=aB
def SK:Env:=ay 150 MI SH
theorem DJ:aQ Tryz.prog SK:=ag aoS DH
theorem OB:ax SK:=ae aoR Oc
theorem SJ:aW Tryz.prog te SK:=aL follows ar DJ OB
end Go.Proofs.YtohjofabochgfaaGreat
